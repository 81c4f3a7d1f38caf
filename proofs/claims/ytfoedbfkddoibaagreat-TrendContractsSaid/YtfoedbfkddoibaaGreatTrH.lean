import Derived.Test.YtfoedbfkddoibaaGreatTq1
namespace Go.Proofs.YtfoedbfkddoibaaGreat
section
set_option linter.unusedVariables false
set_option linter.unusedSimpArgs false
open Go.ChangeShapes Go.WideShapes Go.ChangeAt Go.RowKit
open Go.Deep (BT)
def FoAv (Av:Nat→Prop):Fo→Nat→Prop
 | .nil,_=>True
 | .node b _ _ k r,B=>Av B∧FoAv Av k b∧FoAv Av r B
theorem FoAv.mono {A B:Nat→Prop} (h:∀ g,A g→B g) {T:Fo} {g:Nat} (hT:FoAv A T g):FoAv B T g:=by
 induction T generalizing g with
 | nil=>trivial
 | node b o a k r ihk ihr=>exact ⟨h _ hT.1,ihk hT.2.1,ihr hT.2.2⟩
def ReP (w:World) (Av:Nat→Prop) (x:Ch) (e:Ending) (w':World):Prop:=∃ c:Ch,e=.returned (.agg #[.int .i64 c.a.op,.int .i64 c.a.num,.string c.a.name,.slice c.a.ptr (len c.k) c.a.cap])∧ec c=x∧ExAt w' c.b c.o c.a c.k∧FoAv Av c.k c.b∧Below w.heap.size w w'
theorem ReP.mk {w w':World} {Av:Nat→Prop} {x:Ch} (c:Ch) (hB:Below w.heap.size w w') (he:ec c=x) (hx:Below w.heap.size w w'→ExAt w' c.b c.o c.a c.k) (ha:FoAv Av c.k c.b):ReP w Av x (.returned (.agg #[.int .i64 c.a.op,.int .i64 c.a.num,.string c.a.name,.slice c.a.ptr (len c.k) c.a.cap])) w':=⟨c,rfl,he,hx hB,ha,hB⟩
set_option maxHeartbeats 4000000 in
theorem junc_any (Av:Nat→Prop) (op st wk:Int) (b o cap b1 o1:Nat) (a1:Nd) (k1:Fo) (b2 o2:Nat) (a2:Nd) (k2:Fo) (w:World) (hop:op=20∧st=5∧wk=4∨op=21∧st=4∧wk=5)
 (hx:FoAt w (.node b1 o1 a1 k1 (.node b2 o2 a2 k2 .nil)) b o) (ha:FoAv Av (.node b1 o1 a1 k1 (.node b2 o2 a2 k2 .nil)) b) :
 Calls Tryz.prog 121 #[.agg #[.int .i64 op,.int .i64 0,.string ⟨#[]⟩,.slice (some ⟨b,o,none⟩) 2 cap]] w (ReP w Av (juncE op st wk [ec ⟨b1,o1,a1,k1⟩,ec ⟨b2,o2,a2,k2⟩])):=by
 obtain ⟨⟨c0,c1,c2,c3⟩,hp1,hk1,⟨d0,d1,d2,d3⟩,hp2,hk2,-⟩:=hx
 have X1:=Lib.hid (show ExAt w b1 o1 a1 k1 from ⟨hp1,hk1⟩)
 have X2:=Lib.hid (show ExAt w b2 o2 a2 k2 from ⟨hp2,hk2⟩)
 have AV:=Lib.hid ha
 have hg:=block_lt_of_cell c0
 simp at hg
 have XX:=Lib.hid (show FoAt w (.node b1 o1 a1 k1 (.node b2 o2 a2 k2 .nil)) b o from ⟨⟨c0,c1,c2,c3⟩,hp1,hk1,⟨d0,d1,d2,d3⟩,hp2,hk2,trivial⟩)
 have d1':w.cell? ⟨b,o+5,none⟩=some (.int .i64 a2.num):=d1
 have d2':w.cell? ⟨b,o+6,none⟩=some (.string a2.name):=d2
 have d3':w.cell? ⟨b,o+7,none⟩=some (.slice a2.ptr (len k2) a2.cap):=d3
 clear hp1 hk1 hp2 hk2 ha d1 d2 d3
 have hg0:b≠w.heap.size:=by omega
 have hg1:b≠w.heap.size+1:=by omega
 have hg2:b≠w.heap.size+1+1:=by omega
 have hg3:b≠w.heap.size+1+1+1:=by omega
 have hl1:b < w.heap.size+1:=by omega
 have hl2:b < w.heap.size+1+1:=by omega
 have hl3:b < w.heap.size+1+1+1:=by omega
 have hm2:b≠w.heap.size+2:=by omega
 have hm3:b≠w.heap.size+3:=by omega
 obtain ⟨R,hR⟩:∃ R,juncE op st wk [ec ⟨b1,o1,a1,k1⟩,ec ⟨b2,o2,a2,k2⟩]=R:=⟨_,rfl⟩
 have HR:=Lib.hid hR
 rw [hR]
 clear hR
 rcases hop with ⟨rfl,rfl,rfl⟩|⟨rfl,rfl,rfl⟩
 · have J : Hid (R=if a1.op=5∨a2.op=5 then dE 5 0 noN else if a1.op=4 then ec ⟨b2,o2,a2,k2⟩ else if a2.op=4 then ec ⟨b1,o1,a1,k1⟩ else nE 20 [ec ⟨b1,o1,a1,k1⟩,ec ⟨b2,o2,a2,k2⟩]):=HR.out.symm
   clear HR
   go_enter Tryz.func121,Tryz.ntmps121
   go_upto_region 4 with (fail)
   go_region
   all_goals
    by_cases h1:a1.op=5
    · have e:Hid (R=dE 5 0 noN):=by unfold Hid;rw [J.out,if_pos (Or.inl h1)]
      have n1:(a1.op==5)=true:=by simp [h1]
      clear J h1
      go_wp2
      refine bodyPost_ret (v:=.agg #[.int .i64 5,.int .i64 0,.string ⟨#[]⟩,.slice none 0 0]) ?_ rfl ?_
      · rw [results_cell1 rfl];go_simp
      · refine ReP.mk ⟨0,0,⟨5,0,⟨#[]⟩,none,0⟩,.nil⟩ (by (repeat (first|exact Below.refl _ _|refine Below.drew ?_|refine Below.alloc ?_ (by first|exact Nat.le_refl _|(simp<;>omega)) _|refine Below.setCell ?_ (by first|exact Nat.le_refl _|(simp<;>omega)) _))) ?_ (fun hB=>?_) ?_
        · rw [e.out];rfl
        · exact ⟨fun q=>absurd rfl q,trivial⟩
        · trivial
    have n1:(a1.op==5)=false:=by simp [h1]
    by_cases h2:a2.op=5
    · have e:Hid (R=dE 5 0 noN):=by unfold Hid;rw [J.out,if_pos (Or.inr h2)]
      have n2:(a2.op==5)=true:=by simp [h2]
      clear J h1 h2
      go_wp2
      refine bodyPost_ret (v:=.agg #[.int .i64 5,.int .i64 0,.string ⟨#[]⟩,.slice none 0 0]) ?_ rfl ?_
      · rw [results_cell1 rfl];go_simp
      · refine ReP.mk ⟨0,0,⟨5,0,⟨#[]⟩,none,0⟩,.nil⟩ (by (repeat (first|exact Below.refl _ _|refine Below.drew ?_|refine Below.alloc ?_ (by first|exact Nat.le_refl _|(simp<;>omega)) _|refine Below.setCell ?_ (by first|exact Nat.le_refl _|(simp<;>omega)) _))) ?_ (fun hB=>?_) ?_
        · rw [e.out];rfl
        · exact ⟨fun q=>absurd rfl q,trivial⟩
        · trivial
    have n2:(a2.op==5)=false:=by simp [h2]
    have J2:Hid (R=if a1.op=4 then ec ⟨b2,o2,a2,k2⟩ else if a2.op=4 then ec ⟨b1,o1,a1,k1⟩ else nE 20 [ec ⟨b1,o1,a1,k1⟩,ec ⟨b2,o2,a2,k2⟩]):=by unfold Hid;rw [J.out,if_neg (by simp [h1,h2])]
    clear J h1 h2
    by_cases h3:a1.op=4
    · have e:Hid (R=ec ⟨b2,o2,a2,k2⟩):=by unfold Hid;rw [J2.out,if_pos h3]
      have n3:(a1.op==4)=true:=by simp [h3]
      clear J2 h3
      go_wp2
      refine bodyPost_ret (v:=.agg #[.int .i64 a2.op,.int .i64 a2.num,.string a2.name,.slice a2.ptr (len k2) a2.cap]) ?_ rfl ?_
      · rw [results_cell1 rfl];go_simp
      · refine ReP.mk ⟨b2,o2,a2,k2⟩ (by (repeat (first|exact Below.refl _ _|refine Below.drew ?_|refine Below.alloc ?_ (by first|exact Nat.le_refl _|(simp<;>omega)) _|refine Below.setCell ?_ (by first|exact Nat.le_refl _|(simp<;>omega)) _))) ?_ (fun hB=>?_) ?_
        · rw [e.out]
        · exact X2.out.next hB
        · exact AV.out.2.2.2.1
    have n3:(a1.op==4)=false:=by simp [h3]
    by_cases h4:a2.op=4
    · have e:Hid (R=ec ⟨b1,o1,a1,k1⟩):=by unfold Hid;rw [J2.out,if_neg h3,if_pos h4]
      have n4:(a2.op==4)=true:=by simp [h4]
      clear J2 h3 h4
      go_wp2
      refine bodyPost_ret (v:=.agg #[.int .i64 a1.op,.int .i64 a1.num,.string a1.name,.slice a1.ptr (len k1) a1.cap]) ?_ rfl ?_
      · rw [results_cell1 rfl];go_simp
      · refine ReP.mk ⟨b1,o1,a1,k1⟩ (by (repeat (first|exact Below.refl _ _|refine Below.drew ?_|refine Below.alloc ?_ (by first|exact Nat.le_refl _|(simp<;>omega)) _|refine Below.setCell ?_ (by first|exact Nat.le_refl _|(simp<;>omega)) _))) ?_ (fun hB=>?_) ?_
        · rw [e.out]
        · exact X1.out.next hB
        · exact AV.out.2.1
    have n4:(a2.op==4)=false:=by simp [h4]
    have e:Hid (R=nE 20 [ec ⟨b1,o1,a1,k1⟩,ec ⟨b2,o2,a2,k2⟩]):=by unfold Hid;rw [J2.out,if_neg h3,if_neg h4]
    clear J2 h3 h4
    go_wp2
    refine bodyPost_ret (v:=.agg #[.int .i64 20,.int .i64 0,.string ⟨#[]⟩,.slice (some ⟨b,o,none⟩) 2 cap]) ?_ rfl ?_
    · rw [results_cell1 rfl];go_simp
    · refine ReP.mk ⟨b,o,⟨20,0,⟨#[]⟩,some ⟨b,o,none⟩,cap⟩,(.node b1 o1 a1 k1 (.node b2 o2 a2 k2 .nil))⟩ (by (repeat (first|exact Below.refl _ _|refine Below.drew ?_|refine Below.alloc ?_ (by first|exact Nat.le_refl _|(simp<;>omega)) _|refine Below.setCell ?_ (by first|exact Nat.le_refl _|(simp<;>omega)) _))) ?_ (fun hB=>?_) ?_
      · rw [e.out];rfl
      · exact ⟨fun _=>rfl,XX.out.next hB⟩
      · exact AV.out
 · have J : Hid (R=if a1.op=4∨a2.op=4 then dE 4 0 noN else if a1.op=5 then ec ⟨b2,o2,a2,k2⟩ else if a2.op=5 then ec ⟨b1,o1,a1,k1⟩ else nE 21 [ec ⟨b1,o1,a1,k1⟩,ec ⟨b2,o2,a2,k2⟩]):=HR.out.symm
   clear HR
   go_enter Tryz.func121,Tryz.ntmps121
   go_upto_region 4 with (fail)
   go_region
   all_goals
    by_cases h1:a1.op=4
    · have e:Hid (R=dE 4 0 noN):=by unfold Hid;rw [J.out,if_pos (Or.inl h1)]
      have n1:(a1.op==4)=true:=by simp [h1]
      clear J h1
      go_wp2
      refine bodyPost_ret (v:=.agg #[.int .i64 4,.int .i64 0,.string ⟨#[]⟩,.slice none 0 0]) ?_ rfl ?_
      · rw [results_cell1 rfl];go_simp
      · refine ReP.mk ⟨0,0,⟨4,0,⟨#[]⟩,none,0⟩,.nil⟩ (by (repeat (first|exact Below.refl _ _|refine Below.drew ?_|refine Below.alloc ?_ (by first|exact Nat.le_refl _|(simp<;>omega)) _|refine Below.setCell ?_ (by first|exact Nat.le_refl _|(simp<;>omega)) _))) ?_ (fun hB=>?_) ?_
        · rw [e.out];rfl
        · exact ⟨fun q=>absurd rfl q,trivial⟩
        · trivial
    have n1:(a1.op==4)=false:=by simp [h1]
    by_cases h2:a2.op=4
    · have e:Hid (R=dE 4 0 noN):=by unfold Hid;rw [J.out,if_pos (Or.inr h2)]
      have n2:(a2.op==4)=true:=by simp [h2]
      clear J h1 h2
      go_wp2
      refine bodyPost_ret (v:=.agg #[.int .i64 4,.int .i64 0,.string ⟨#[]⟩,.slice none 0 0]) ?_ rfl ?_
      · rw [results_cell1 rfl];go_simp
      · refine ReP.mk ⟨0,0,⟨4,0,⟨#[]⟩,none,0⟩,.nil⟩ (by (repeat (first|exact Below.refl _ _|refine Below.drew ?_|refine Below.alloc ?_ (by first|exact Nat.le_refl _|(simp<;>omega)) _|refine Below.setCell ?_ (by first|exact Nat.le_refl _|(simp<;>omega)) _))) ?_ (fun hB=>?_) ?_
        · rw [e.out];rfl
        · exact ⟨fun q=>absurd rfl q,trivial⟩
        · trivial
    have n2:(a2.op==4)=false:=by simp [h2]
    have J2:Hid (R=if a1.op=5 then ec ⟨b2,o2,a2,k2⟩ else if a2.op=5 then ec ⟨b1,o1,a1,k1⟩ else nE 21 [ec ⟨b1,o1,a1,k1⟩,ec ⟨b2,o2,a2,k2⟩]):=by unfold Hid;rw [J.out,if_neg (by simp [h1,h2])]
    clear J h1 h2
    by_cases h3:a1.op=5
    · have e:Hid (R=ec ⟨b2,o2,a2,k2⟩):=by unfold Hid;rw [J2.out,if_pos h3]
      have n3:(a1.op==5)=true:=by simp [h3]
      clear J2 h3
      go_wp2
      refine bodyPost_ret (v:=.agg #[.int .i64 a2.op,.int .i64 a2.num,.string a2.name,.slice a2.ptr (len k2) a2.cap]) ?_ rfl ?_
      · rw [results_cell1 rfl];go_simp
      · refine ReP.mk ⟨b2,o2,a2,k2⟩ (by (repeat (first|exact Below.refl _ _|refine Below.drew ?_|refine Below.alloc ?_ (by first|exact Nat.le_refl _|(simp<;>omega)) _|refine Below.setCell ?_ (by first|exact Nat.le_refl _|(simp<;>omega)) _))) ?_ (fun hB=>?_) ?_
        · rw [e.out]
        · exact X2.out.next hB
        · exact AV.out.2.2.2.1
    have n3:(a1.op==5)=false:=by simp [h3]
    by_cases h4:a2.op=5
    · have e:Hid (R=ec ⟨b1,o1,a1,k1⟩):=by unfold Hid;rw [J2.out,if_neg h3,if_pos h4]
      have n4:(a2.op==5)=true:=by simp [h4]
      clear J2 h3 h4
      go_wp2
      refine bodyPost_ret (v:=.agg #[.int .i64 a1.op,.int .i64 a1.num,.string a1.name,.slice a1.ptr (len k1) a1.cap]) ?_ rfl ?_
      · rw [results_cell1 rfl];go_simp
      · refine ReP.mk ⟨b1,o1,a1,k1⟩ (by (repeat (first|exact Below.refl _ _|refine Below.drew ?_|refine Below.alloc ?_ (by first|exact Nat.le_refl _|(simp<;>omega)) _|refine Below.setCell ?_ (by first|exact Nat.le_refl _|(simp<;>omega)) _))) ?_ (fun hB=>?_) ?_
        · rw [e.out]
        · exact X1.out.next hB
        · exact AV.out.2.1
    have n4:(a2.op==5)=false:=by simp [h4]
    have e:Hid (R=nE 21 [ec ⟨b1,o1,a1,k1⟩,ec ⟨b2,o2,a2,k2⟩]):=by unfold Hid;rw [J2.out,if_neg h3,if_neg h4]
    clear J2 h3 h4
    go_wp2
    refine bodyPost_ret (v:=.agg #[.int .i64 21,.int .i64 0,.string ⟨#[]⟩,.slice (some ⟨b,o,none⟩) 2 cap]) ?_ rfl ?_
    · rw [results_cell1 rfl];go_simp
    · refine ReP.mk ⟨b,o,⟨21,0,⟨#[]⟩,some ⟨b,o,none⟩,cap⟩,(.node b1 o1 a1 k1 (.node b2 o2 a2 k2 .nil))⟩ (by (repeat (first|exact Below.refl _ _|refine Below.drew ?_|refine Below.alloc ?_ (by first|exact Nat.le_refl _|(simp<;>omega)) _|refine Below.setCell ?_ (by first|exact Nat.le_refl _|(simp<;>omega)) _))) ?_ (fun hB=>?_) ?_
      · rw [e.out];rfl
      · exact ⟨fun _=>rfl,XX.out.next hB⟩
      · exact AV.out
end
section
set_option linter.unusedVariables false
set_option linter.unusedSimpArgs false
open Go.ChangeShapes Go.WideShapes Go.ChangeAt Go.RowKit
open Go.Deep (BT)
set_option maxHeartbeats 4000000 in
theorem neutz_any (Av:Nat→Prop) (op:Int) (both:Bool) (b o cap b1 o1:Nat) (a1:Nd) (k1:Fo) (b2 o2:Nat) (a2:Nd) (k2:Fo) (w:World) (hx:FoAt w (.node b1 o1 a1 k1 (.node b2 o2 a2 k2 .nil)) b o) (ha:FoAv Av (.node b1 o1 a1 k1 (.node b2 o2 a2 k2 .nil)) b) :
 Calls Tryz.prog 123 #[.agg #[.int .i64 op,.int .i64 0,.string ⟨#[]⟩,.slice (some ⟨b,o,none⟩) 2 cap],.func (.func 124) #[] #[],.bool both] w (ReP w Av (neutE op zeroB both [ec ⟨b1,o1,a1,k1⟩,ec ⟨b2,o2,a2,k2⟩])):=by
 obtain ⟨⟨c0,c1,c2,c3⟩,hp1,hk1,⟨d0,d1',d2',d3'⟩,hp2,hk2,-⟩:=hx
 have XX:=Lib.hid (show FoAt w (.node b1 o1 a1 k1 (.node b2 o2 a2 k2 .nil)) b o from ⟨⟨c0,c1,c2,c3⟩,hp1,hk1,⟨d0,d1',d2',d3'⟩,hp2,hk2,trivial⟩)
 have d1:w.cell? ⟨b,o+5,none⟩=some (.int .i64 a2.num):=d1'
 have d2:w.cell? ⟨b,o+6,none⟩=some (.string a2.name):=d2'
 have d3:w.cell? ⟨b,o+7,none⟩=some (.slice a2.ptr (len k2) a2.cap):=d3'
 have X1:=Lib.hid (show ExAt w b1 o1 a1 k1 from ⟨hp1,hk1⟩)
 have X2:=Lib.hid (show ExAt w b2 o2 a2 k2 from ⟨hp2,hk2⟩)
 have AV:=Lib.hid ha
 have hg:=block_lt_of_cell c0
 simp at hg
 clear hp1 hk1 hp2 hk2 ha d1' d2' d3'
 have J:Hid (neutE op zeroB both [ec ⟨b1,o1,a1,k1⟩,ec ⟨b2,o2,a2,k2⟩]=if decide ((a2.op=1∨a2.op=2)∧a2.num=0)=true then ec ⟨b1,o1,a1,k1⟩ else if both=true∧decide ((a1.op=1∨a1.op=2)∧a1.num=0)=true then ec ⟨b2,o2,a2,k2⟩ else nE op [ec ⟨b1,o1,a1,k1⟩,ec ⟨b2,o2,a2,k2⟩]):=rfl
 generalize neutE op zeroB both [ec ⟨b1,o1,a1,k1⟩,ec ⟨b2,o2,a2,k2⟩]=R at *
 go_enter Tryz.func123,Tryz.ntmps123
 go_wp2_with fail
 refine (iszero_any _ _ _ _ _ _ _).mono ?_
 rintro e w1 ⟨rfl,hb⟩
 have hb0:Below ((w.alloc (.cells #[.int .i64 op,.int .i64 0,.string ⟨#[]⟩,.slice (some ⟨b,o,none⟩) 2 cap] 25)).alloc (.cells #[.int .i64 0,.int .i64 0,.string ⟨#[]⟩,.slice none 0 0] 25)).heap.size ((w.alloc (.cells #[.int .i64 op,.int .i64 0,.string ⟨#[]⟩,.slice (some ⟨b,o,none⟩) 2 cap] 25)).alloc (.cells #[.int .i64 0,.int .i64 0,.string ⟨#[]⟩,.slice none 0 0] 25)) w1:=hb
 have hba:Below w.heap.size w ((w.alloc (.cells #[.int .i64 op,.int .i64 0,.string ⟨#[]⟩,.slice (some ⟨b,o,none⟩) 2 cap] 25)).alloc (.cells #[.int .i64 0,.int .i64 0,.string ⟨#[]⟩,.slice none 0 0] 25)):=by (repeat (first|exact Below.refl _ _|refine Below.drew ?_|refine Below.alloc ?_ (by first|exact Nat.le_refl _|(simp<;>omega)) _|refine Below.setCell ?_ (by first|exact Nat.le_refl _|(simp<;>omega)) _))
 have hbw:=hba.trans (hb0.mono (by simp;omega))
 have HB:=Lib.hid hbw
 have hz:w.heap.size+1 < w1.heap.size:=by have:=hb0.size;simp at this;omega
 have x0:w1.cell? ⟨w.heap.size,0,none⟩=some (.int .i64 op):=by rw [hb0.cell (p:=⟨w.heap.size,0,none⟩) (by simp;omega)];simp [go_sem]
 have x1:w1.cell? ⟨w.heap.size,1,none⟩=some (.int .i64 0):=by rw [hb0.cell (p:=⟨w.heap.size,1,none⟩) (by simp;omega)];simp [go_sem]
 have x2:w1.cell? ⟨w.heap.size,2,none⟩=some (.string ⟨#[]⟩):=by rw [hb0.cell (p:=⟨w.heap.size,2,none⟩) (by simp;omega)];simp [go_sem]
 have x3:w1.cell? ⟨w.heap.size,3,none⟩=some (.slice (some ⟨b,o,none⟩) 2 cap):=by rw [hb0.cell (p:=⟨w.heap.size,3,none⟩) (by simp;omega)];simp [go_sem]
 have r0:w1.cell? ⟨w.heap.size+1,0,none⟩=some (.int .i64 0):=by rw [hb0.cell (p:=⟨w.heap.size+1,0,none⟩) (by simp)];simp [go_sem]
 have f0:w1.frozen? ⟨w.heap.size+1,0,none⟩=false:=by rw [hb0.frozen (p:=⟨w.heap.size+1,0,none⟩) (by simp)];simp [go_sem]
 have r1:w1.cell? ⟨w.heap.size+1,1,none⟩=some (.int .i64 0):=by rw [hb0.cell (p:=⟨w.heap.size+1,1,none⟩) (by simp)];simp [go_sem]
 have f1:w1.frozen? ⟨w.heap.size+1,1,none⟩=false:=by rw [hb0.frozen (p:=⟨w.heap.size+1,1,none⟩) (by simp)];simp [go_sem]
 have r2:w1.cell? ⟨w.heap.size+1,2,none⟩=some (.string ⟨#[]⟩):=by rw [hb0.cell (p:=⟨w.heap.size+1,2,none⟩) (by simp)];simp [go_sem]
 have f2:w1.frozen? ⟨w.heap.size+1,2,none⟩=false:=by rw [hb0.frozen (p:=⟨w.heap.size+1,2,none⟩) (by simp)];simp [go_sem]
 have r3:w1.cell? ⟨w.heap.size+1,3,none⟩=some (.slice none 0 0):=by rw [hb0.cell (p:=⟨w.heap.size+1,3,none⟩) (by simp)];simp [go_sem]
 have f3:w1.frozen? ⟨w.heap.size+1,3,none⟩=false:=by rw [hb0.frozen (p:=⟨w.heap.size+1,3,none⟩) (by simp)];simp [go_sem]
 have y0:w1.cell? ⟨b,o,none⟩=some (.int .i64 a1.op):=by rw [hbw.cell (p:=⟨b,o,none⟩) hg];exact c0
 have y1:w1.cell? ⟨b,o+1,none⟩=some (.int .i64 a1.num):=by rw [hbw.cell (p:=⟨b,o+1,none⟩) hg];exact c1
 have y2:w1.cell? ⟨b,o+2,none⟩=some (.string a1.name):=by rw [hbw.cell (p:=⟨b,o+2,none⟩) hg];exact c2
 have y3:w1.cell? ⟨b,o+3,none⟩=some (.slice a1.ptr (len k1) a1.cap):=by rw [hbw.cell (p:=⟨b,o+3,none⟩) hg];exact c3
 have z0:w1.cell? ⟨b,o+4,none⟩=some (.int .i64 a2.op):=by rw [hbw.cell (p:=⟨b,o+4,none⟩) hg];exact d0
 have z1:w1.cell? ⟨b,o+5,none⟩=some (.int .i64 a2.num):=by rw [hbw.cell (p:=⟨b,o+5,none⟩) hg];exact d1
 have z2:w1.cell? ⟨b,o+6,none⟩=some (.string a2.name):=by rw [hbw.cell (p:=⟨b,o+6,none⟩) hg];exact d2
 have z3:w1.cell? ⟨b,o+7,none⟩=some (.slice a2.ptr (len k2) a2.cap):=by rw [hbw.cell (p:=⟨b,o+7,none⟩) hg];exact d3
 clear hb hb0 hba hbw c0 c1 c2 c3 d0 d1 d2 d3
 generalize hT:decide ((a2.op=1∨a2.op=2)∧a2.num=0)=T at *
 clear hT
 cases T
 · have J2:Hid (R=if both=true∧decide ((a1.op=1∨a1.op=2)∧a1.num=0)=true then ec ⟨b2,o2,a2,k2⟩ else nE op [ec ⟨b1,o1,a1,k1⟩,ec ⟨b2,o2,a2,k2⟩]):=by unfold Hid;rw [J.out];rfl
   clear J
   cases both
   · have e:Hid (R=nE op [ec ⟨b1,o1,a1,k1⟩,ec ⟨b2,o2,a2,k2⟩]):=by unfold Hid;rw [J2.out];simp
     clear J2
     go_wp2
     refine bodyPost_ret (v:=.agg #[.int .i64 op,.int .i64 0,.string ⟨#[]⟩,.slice (some ⟨b,o,none⟩) 2 cap]) ?_ rfl ?_
     · rw [results_cell1 rfl];go_simp
     · refine ReP.mk ⟨b,o,⟨op,0,⟨#[]⟩,some ⟨b,o,none⟩,cap⟩,(.node b1 o1 a1 k1 (.node b2 o2 a2 k2 .nil))⟩ (by (repeat (first|exact Below.refl _ _|refine Below.drew ?_|refine Below.alloc ?_ (by first|exact Nat.le_refl _|(simp<;>omega)) _|refine Below.setCell ?_ (by first|exact Nat.le_refl _|(simp<;>omega)) _));exact HB.out) ?_ (fun hB=>?_) ?_
       · rw [e.out];rfl
       · exact ⟨fun _=>rfl,XX.out.next hB⟩
       · exact AV.out
   · go_wp2_with fail
     refine (iszero_any _ _ _ _ _ _ _).mono ?_
     rintro e2 w2 ⟨rfl,hb2⟩
     have hz2:w.heap.size+1 < w2.heap.size:=Nat.lt_of_lt_of_le hz hb2.size
     have x0b:w2.cell? ⟨w.heap.size,0,none⟩=_:=(hb2.cell (p:=⟨w.heap.size,0,none⟩) (block_lt_of_cell x0)).trans x0
     have r0b:w2.cell? ⟨w.heap.size+1,0,none⟩=_:=(hb2.cell (p:=⟨w.heap.size+1,0,none⟩) (block_lt_of_cell r0)).trans r0
     have f0b:w2.frozen? ⟨w.heap.size+1,0,none⟩=_:=(hb2.frozen (p:=⟨w.heap.size+1,0,none⟩) (block_lt_of_cell r0)).trans f0
     have x1b:w2.cell? ⟨w.heap.size,1,none⟩=_:=(hb2.cell (p:=⟨w.heap.size,1,none⟩) (block_lt_of_cell x1)).trans x1
     have r1b:w2.cell? ⟨w.heap.size+1,1,none⟩=_:=(hb2.cell (p:=⟨w.heap.size+1,1,none⟩) (block_lt_of_cell r1)).trans r1
     have f1b:w2.frozen? ⟨w.heap.size+1,1,none⟩=_:=(hb2.frozen (p:=⟨w.heap.size+1,1,none⟩) (block_lt_of_cell r1)).trans f1
     have x2b:w2.cell? ⟨w.heap.size,2,none⟩=_:=(hb2.cell (p:=⟨w.heap.size,2,none⟩) (block_lt_of_cell x2)).trans x2
     have r2b:w2.cell? ⟨w.heap.size+1,2,none⟩=_:=(hb2.cell (p:=⟨w.heap.size+1,2,none⟩) (block_lt_of_cell r2)).trans r2
     have f2b:w2.frozen? ⟨w.heap.size+1,2,none⟩=_:=(hb2.frozen (p:=⟨w.heap.size+1,2,none⟩) (block_lt_of_cell r2)).trans f2
     have x3b:w2.cell? ⟨w.heap.size,3,none⟩=_:=(hb2.cell (p:=⟨w.heap.size,3,none⟩) (block_lt_of_cell x3)).trans x3
     have r3b:w2.cell? ⟨w.heap.size+1,3,none⟩=_:=(hb2.cell (p:=⟨w.heap.size+1,3,none⟩) (block_lt_of_cell r3)).trans r3
     have f3b:w2.frozen? ⟨w.heap.size+1,3,none⟩=_:=(hb2.frozen (p:=⟨w.heap.size+1,3,none⟩) (block_lt_of_cell r3)).trans f3
     have y0b:w2.cell? ⟨b,o,none⟩=_:=(hb2.cell (p:=⟨b,o,none⟩) (block_lt_of_cell y0)).trans y0
     have y1b:w2.cell? ⟨b,o+1,none⟩=_:=(hb2.cell (p:=⟨b,o+1,none⟩) (block_lt_of_cell y1)).trans y1
     have y2b:w2.cell? ⟨b,o+2,none⟩=_:=(hb2.cell (p:=⟨b,o+2,none⟩) (block_lt_of_cell y2)).trans y2
     have y3b:w2.cell? ⟨b,o+3,none⟩=_:=(hb2.cell (p:=⟨b,o+3,none⟩) (block_lt_of_cell y3)).trans y3
     have z0b:w2.cell? ⟨b,o+4,none⟩=_:=(hb2.cell (p:=⟨b,o+4,none⟩) (block_lt_of_cell z0)).trans z0
     have z1b:w2.cell? ⟨b,o+5,none⟩=_:=(hb2.cell (p:=⟨b,o+5,none⟩) (block_lt_of_cell z1)).trans z1
     have z2b:w2.cell? ⟨b,o+6,none⟩=_:=(hb2.cell (p:=⟨b,o+6,none⟩) (block_lt_of_cell z2)).trans z2
     have z3b:w2.cell? ⟨b,o+7,none⟩=_:=(hb2.cell (p:=⟨b,o+7,none⟩) (block_lt_of_cell z3)).trans z3
     have HB2:=Lib.hid (HB.out.trans (hb2.mono HB.out.size))
     clear hb2 x0 x1 x2 x3 r0 r1 r2 r3 f0 f1 f2 f3 y0 y1 y2 y3 z0 z1 z2 z3
     generalize hT:decide ((a1.op=1∨a1.op=2)∧a1.num=0)=T at *
     clear hT
     cases T
     · have e:Hid (R=nE op [ec ⟨b1,o1,a1,k1⟩,ec ⟨b2,o2,a2,k2⟩]):=by unfold Hid;rw [J2.out];simp
       clear J2
       go_wp2
       refine bodyPost_ret (v:=.agg #[.int .i64 op,.int .i64 0,.string ⟨#[]⟩,.slice (some ⟨b,o,none⟩) 2 cap]) ?_ rfl ?_
       · rw [results_cell1 rfl];go_simp
       · refine ReP.mk ⟨b,o,⟨op,0,⟨#[]⟩,some ⟨b,o,none⟩,cap⟩,(.node b1 o1 a1 k1 (.node b2 o2 a2 k2 .nil))⟩ (by (repeat (first|exact Below.refl _ _|refine Below.drew ?_|refine Below.alloc ?_ (by first|exact Nat.le_refl _|(simp<;>omega)) _|refine Below.setCell ?_ (by first|exact Nat.le_refl _|(simp<;>omega)) _));exact HB2.out) ?_ (fun hB=>?_) ?_
         · rw [e.out];rfl
         · exact ⟨fun _=>rfl,XX.out.next hB⟩
         · exact AV.out
     · have e:Hid (R=ec ⟨b2,o2,a2,k2⟩):=by unfold Hid;rw [J2.out];simp
       clear J2
       go_wp2
       refine bodyPost_ret (v:=.agg #[.int .i64 a2.op,.int .i64 a2.num,.string a2.name,.slice a2.ptr (len k2) a2.cap]) ?_ rfl ?_
       · rw [results_cell1 rfl];go_simp
       · refine ReP.mk ⟨b2,o2,a2,k2⟩ (by (repeat (first|exact Below.refl _ _|refine Below.drew ?_|refine Below.alloc ?_ (by first|exact Nat.le_refl _|(simp<;>omega)) _|refine Below.setCell ?_ (by first|exact Nat.le_refl _|(simp<;>omega)) _));exact HB2.out) ?_ (fun hB=>?_) ?_
         · rw [e.out]
         · exact X2.out.next hB
         · exact AV.out.2.2.2.1
 · have e:Hid (R=ec ⟨b1,o1,a1,k1⟩):=by unfold Hid;rw [J.out];rfl
   clear J
   go_wp2
   refine bodyPost_ret (v:=.agg #[.int .i64 a1.op,.int .i64 a1.num,.string a1.name,.slice a1.ptr (len k1) a1.cap]) ?_ rfl ?_
   · rw [results_cell1 rfl];go_simp
   · refine ReP.mk ⟨b1,o1,a1,k1⟩ (by (repeat (first|exact Below.refl _ _|refine Below.drew ?_|refine Below.alloc ?_ (by first|exact Nat.le_refl _|(simp<;>omega)) _|refine Below.setCell ?_ (by first|exact Nat.le_refl _|(simp<;>omega)) _));exact HB.out) ?_ (fun hB=>?_) ?_
     · rw [e.out]
     · exact X1.out.next hB
     · exact AV.out.2.1
set_option maxHeartbeats 4000000 in
theorem neutu_any (Av:Nat→Prop) (op:Int) (both:Bool) (b o cap b1 o1:Nat) (a1:Nd) (k1:Fo) (b2 o2:Nat) (a2:Nd) (k2:Fo) (w:World) (hx:FoAt w (.node b1 o1 a1 k1 (.node b2 o2 a2 k2 .nil)) b o) (ha:FoAv Av (.node b1 o1 a1 k1 (.node b2 o2 a2 k2 .nil)) b) :
 Calls Tryz.prog 123 #[.agg #[.int .i64 op,.int .i64 0,.string ⟨#[]⟩,.slice (some ⟨b,o,none⟩) 2 cap],.func (.func 125) #[] #[],.bool both] w (ReP w Av (neutE op unitB both [ec ⟨b1,o1,a1,k1⟩,ec ⟨b2,o2,a2,k2⟩])):=by
 obtain ⟨⟨c0,c1,c2,c3⟩,hp1,hk1,⟨d0,d1',d2',d3'⟩,hp2,hk2,-⟩:=hx
 have XX:=Lib.hid (show FoAt w (.node b1 o1 a1 k1 (.node b2 o2 a2 k2 .nil)) b o from ⟨⟨c0,c1,c2,c3⟩,hp1,hk1,⟨d0,d1',d2',d3'⟩,hp2,hk2,trivial⟩)
 have d1:w.cell? ⟨b,o+5,none⟩=some (.int .i64 a2.num):=d1'
 have d2:w.cell? ⟨b,o+6,none⟩=some (.string a2.name):=d2'
 have d3:w.cell? ⟨b,o+7,none⟩=some (.slice a2.ptr (len k2) a2.cap):=d3'
 have X1:=Lib.hid (show ExAt w b1 o1 a1 k1 from ⟨hp1,hk1⟩)
 have X2:=Lib.hid (show ExAt w b2 o2 a2 k2 from ⟨hp2,hk2⟩)
 have AV:=Lib.hid ha
 have hg:=block_lt_of_cell c0
 simp at hg
 clear hp1 hk1 hp2 hk2 ha d1' d2' d3'
 have J:Hid (neutE op unitB both [ec ⟨b1,o1,a1,k1⟩,ec ⟨b2,o2,a2,k2⟩]=if decide (a2.op=1∧a2.num=1)=true then ec ⟨b1,o1,a1,k1⟩ else if both=true∧decide (a1.op=1∧a1.num=1)=true then ec ⟨b2,o2,a2,k2⟩ else nE op [ec ⟨b1,o1,a1,k1⟩,ec ⟨b2,o2,a2,k2⟩]):=rfl
 generalize neutE op unitB both [ec ⟨b1,o1,a1,k1⟩,ec ⟨b2,o2,a2,k2⟩]=R at *
 go_enter Tryz.func123,Tryz.ntmps123
 go_wp2_with fail
 refine (isone_any _ _ _ _ _ _ _).mono ?_
 rintro e w1 ⟨rfl,hb⟩
 have hb0:Below ((w.alloc (.cells #[.int .i64 op,.int .i64 0,.string ⟨#[]⟩,.slice (some ⟨b,o,none⟩) 2 cap] 25)).alloc (.cells #[.int .i64 0,.int .i64 0,.string ⟨#[]⟩,.slice none 0 0] 25)).heap.size ((w.alloc (.cells #[.int .i64 op,.int .i64 0,.string ⟨#[]⟩,.slice (some ⟨b,o,none⟩) 2 cap] 25)).alloc (.cells #[.int .i64 0,.int .i64 0,.string ⟨#[]⟩,.slice none 0 0] 25)) w1:=hb
 have hba:Below w.heap.size w ((w.alloc (.cells #[.int .i64 op,.int .i64 0,.string ⟨#[]⟩,.slice (some ⟨b,o,none⟩) 2 cap] 25)).alloc (.cells #[.int .i64 0,.int .i64 0,.string ⟨#[]⟩,.slice none 0 0] 25)):=by (repeat (first|exact Below.refl _ _|refine Below.drew ?_|refine Below.alloc ?_ (by first|exact Nat.le_refl _|(simp<;>omega)) _|refine Below.setCell ?_ (by first|exact Nat.le_refl _|(simp<;>omega)) _))
 have hbw:=hba.trans (hb0.mono (by simp;omega))
 have HB:=Lib.hid hbw
 have hz:w.heap.size+1 < w1.heap.size:=by have:=hb0.size;simp at this;omega
 have x0:w1.cell? ⟨w.heap.size,0,none⟩=some (.int .i64 op):=by rw [hb0.cell (p:=⟨w.heap.size,0,none⟩) (by simp;omega)];simp [go_sem]
 have x1:w1.cell? ⟨w.heap.size,1,none⟩=some (.int .i64 0):=by rw [hb0.cell (p:=⟨w.heap.size,1,none⟩) (by simp;omega)];simp [go_sem]
 have x2:w1.cell? ⟨w.heap.size,2,none⟩=some (.string ⟨#[]⟩):=by rw [hb0.cell (p:=⟨w.heap.size,2,none⟩) (by simp;omega)];simp [go_sem]
 have x3:w1.cell? ⟨w.heap.size,3,none⟩=some (.slice (some ⟨b,o,none⟩) 2 cap):=by rw [hb0.cell (p:=⟨w.heap.size,3,none⟩) (by simp;omega)];simp [go_sem]
 have r0:w1.cell? ⟨w.heap.size+1,0,none⟩=some (.int .i64 0):=by rw [hb0.cell (p:=⟨w.heap.size+1,0,none⟩) (by simp)];simp [go_sem]
 have f0:w1.frozen? ⟨w.heap.size+1,0,none⟩=false:=by rw [hb0.frozen (p:=⟨w.heap.size+1,0,none⟩) (by simp)];simp [go_sem]
 have r1:w1.cell? ⟨w.heap.size+1,1,none⟩=some (.int .i64 0):=by rw [hb0.cell (p:=⟨w.heap.size+1,1,none⟩) (by simp)];simp [go_sem]
 have f1:w1.frozen? ⟨w.heap.size+1,1,none⟩=false:=by rw [hb0.frozen (p:=⟨w.heap.size+1,1,none⟩) (by simp)];simp [go_sem]
 have r2:w1.cell? ⟨w.heap.size+1,2,none⟩=some (.string ⟨#[]⟩):=by rw [hb0.cell (p:=⟨w.heap.size+1,2,none⟩) (by simp)];simp [go_sem]
 have f2:w1.frozen? ⟨w.heap.size+1,2,none⟩=false:=by rw [hb0.frozen (p:=⟨w.heap.size+1,2,none⟩) (by simp)];simp [go_sem]
 have r3:w1.cell? ⟨w.heap.size+1,3,none⟩=some (.slice none 0 0):=by rw [hb0.cell (p:=⟨w.heap.size+1,3,none⟩) (by simp)];simp [go_sem]
 have f3:w1.frozen? ⟨w.heap.size+1,3,none⟩=false:=by rw [hb0.frozen (p:=⟨w.heap.size+1,3,none⟩) (by simp)];simp [go_sem]
 have y0:w1.cell? ⟨b,o,none⟩=some (.int .i64 a1.op):=by rw [hbw.cell (p:=⟨b,o,none⟩) hg];exact c0
 have y1:w1.cell? ⟨b,o+1,none⟩=some (.int .i64 a1.num):=by rw [hbw.cell (p:=⟨b,o+1,none⟩) hg];exact c1
 have y2:w1.cell? ⟨b,o+2,none⟩=some (.string a1.name):=by rw [hbw.cell (p:=⟨b,o+2,none⟩) hg];exact c2
 have y3:w1.cell? ⟨b,o+3,none⟩=some (.slice a1.ptr (len k1) a1.cap):=by rw [hbw.cell (p:=⟨b,o+3,none⟩) hg];exact c3
 have z0:w1.cell? ⟨b,o+4,none⟩=some (.int .i64 a2.op):=by rw [hbw.cell (p:=⟨b,o+4,none⟩) hg];exact d0
 have z1:w1.cell? ⟨b,o+5,none⟩=some (.int .i64 a2.num):=by rw [hbw.cell (p:=⟨b,o+5,none⟩) hg];exact d1
 have z2:w1.cell? ⟨b,o+6,none⟩=some (.string a2.name):=by rw [hbw.cell (p:=⟨b,o+6,none⟩) hg];exact d2
 have z3:w1.cell? ⟨b,o+7,none⟩=some (.slice a2.ptr (len k2) a2.cap):=by rw [hbw.cell (p:=⟨b,o+7,none⟩) hg];exact d3
 clear hb hb0 hba hbw c0 c1 c2 c3 d0 d1 d2 d3
 generalize hT:decide (a2.op=1∧a2.num=1)=T at *
 clear hT
 cases T
 · have J2:Hid (R=if both=true∧decide (a1.op=1∧a1.num=1)=true then ec ⟨b2,o2,a2,k2⟩ else nE op [ec ⟨b1,o1,a1,k1⟩,ec ⟨b2,o2,a2,k2⟩]):=by unfold Hid;rw [J.out];rfl
   clear J
   cases both
   · have e:Hid (R=nE op [ec ⟨b1,o1,a1,k1⟩,ec ⟨b2,o2,a2,k2⟩]):=by unfold Hid;rw [J2.out];simp
     clear J2
     go_wp2
     refine bodyPost_ret (v:=.agg #[.int .i64 op,.int .i64 0,.string ⟨#[]⟩,.slice (some ⟨b,o,none⟩) 2 cap]) ?_ rfl ?_
     · rw [results_cell1 rfl];go_simp
     · refine ReP.mk ⟨b,o,⟨op,0,⟨#[]⟩,some ⟨b,o,none⟩,cap⟩,(.node b1 o1 a1 k1 (.node b2 o2 a2 k2 .nil))⟩ (by (repeat (first|exact Below.refl _ _|refine Below.drew ?_|refine Below.alloc ?_ (by first|exact Nat.le_refl _|(simp<;>omega)) _|refine Below.setCell ?_ (by first|exact Nat.le_refl _|(simp<;>omega)) _));exact HB.out) ?_ (fun hB=>?_) ?_
       · rw [e.out];rfl
       · exact ⟨fun _=>rfl,XX.out.next hB⟩
       · exact AV.out
   · go_wp2_with fail
     refine (isone_any _ _ _ _ _ _ _).mono ?_
     rintro e2 w2 ⟨rfl,hb2⟩
     have hz2:w.heap.size+1 < w2.heap.size:=Nat.lt_of_lt_of_le hz hb2.size
     have x0b:w2.cell? ⟨w.heap.size,0,none⟩=_:=(hb2.cell (p:=⟨w.heap.size,0,none⟩) (block_lt_of_cell x0)).trans x0
     have r0b:w2.cell? ⟨w.heap.size+1,0,none⟩=_:=(hb2.cell (p:=⟨w.heap.size+1,0,none⟩) (block_lt_of_cell r0)).trans r0
     have f0b:w2.frozen? ⟨w.heap.size+1,0,none⟩=_:=(hb2.frozen (p:=⟨w.heap.size+1,0,none⟩) (block_lt_of_cell r0)).trans f0
     have x1b:w2.cell? ⟨w.heap.size,1,none⟩=_:=(hb2.cell (p:=⟨w.heap.size,1,none⟩) (block_lt_of_cell x1)).trans x1
     have r1b:w2.cell? ⟨w.heap.size+1,1,none⟩=_:=(hb2.cell (p:=⟨w.heap.size+1,1,none⟩) (block_lt_of_cell r1)).trans r1
     have f1b:w2.frozen? ⟨w.heap.size+1,1,none⟩=_:=(hb2.frozen (p:=⟨w.heap.size+1,1,none⟩) (block_lt_of_cell r1)).trans f1
     have x2b:w2.cell? ⟨w.heap.size,2,none⟩=_:=(hb2.cell (p:=⟨w.heap.size,2,none⟩) (block_lt_of_cell x2)).trans x2
     have r2b:w2.cell? ⟨w.heap.size+1,2,none⟩=_:=(hb2.cell (p:=⟨w.heap.size+1,2,none⟩) (block_lt_of_cell r2)).trans r2
     have f2b:w2.frozen? ⟨w.heap.size+1,2,none⟩=_:=(hb2.frozen (p:=⟨w.heap.size+1,2,none⟩) (block_lt_of_cell r2)).trans f2
     have x3b:w2.cell? ⟨w.heap.size,3,none⟩=_:=(hb2.cell (p:=⟨w.heap.size,3,none⟩) (block_lt_of_cell x3)).trans x3
     have r3b:w2.cell? ⟨w.heap.size+1,3,none⟩=_:=(hb2.cell (p:=⟨w.heap.size+1,3,none⟩) (block_lt_of_cell r3)).trans r3
     have f3b:w2.frozen? ⟨w.heap.size+1,3,none⟩=_:=(hb2.frozen (p:=⟨w.heap.size+1,3,none⟩) (block_lt_of_cell r3)).trans f3
     have y0b:w2.cell? ⟨b,o,none⟩=_:=(hb2.cell (p:=⟨b,o,none⟩) (block_lt_of_cell y0)).trans y0
     have y1b:w2.cell? ⟨b,o+1,none⟩=_:=(hb2.cell (p:=⟨b,o+1,none⟩) (block_lt_of_cell y1)).trans y1
     have y2b:w2.cell? ⟨b,o+2,none⟩=_:=(hb2.cell (p:=⟨b,o+2,none⟩) (block_lt_of_cell y2)).trans y2
     have y3b:w2.cell? ⟨b,o+3,none⟩=_:=(hb2.cell (p:=⟨b,o+3,none⟩) (block_lt_of_cell y3)).trans y3
     have z0b:w2.cell? ⟨b,o+4,none⟩=_:=(hb2.cell (p:=⟨b,o+4,none⟩) (block_lt_of_cell z0)).trans z0
     have z1b:w2.cell? ⟨b,o+5,none⟩=_:=(hb2.cell (p:=⟨b,o+5,none⟩) (block_lt_of_cell z1)).trans z1
     have z2b:w2.cell? ⟨b,o+6,none⟩=_:=(hb2.cell (p:=⟨b,o+6,none⟩) (block_lt_of_cell z2)).trans z2
     have z3b:w2.cell? ⟨b,o+7,none⟩=_:=(hb2.cell (p:=⟨b,o+7,none⟩) (block_lt_of_cell z3)).trans z3
     have HB2:=Lib.hid (HB.out.trans (hb2.mono HB.out.size))
     clear hb2 x0 x1 x2 x3 r0 r1 r2 r3 f0 f1 f2 f3 y0 y1 y2 y3 z0 z1 z2 z3
     generalize hT:decide (a1.op=1∧a1.num=1)=T at *
     clear hT
     cases T
     · have e:Hid (R=nE op [ec ⟨b1,o1,a1,k1⟩,ec ⟨b2,o2,a2,k2⟩]):=by unfold Hid;rw [J2.out];simp
       clear J2
       go_wp2
       refine bodyPost_ret (v:=.agg #[.int .i64 op,.int .i64 0,.string ⟨#[]⟩,.slice (some ⟨b,o,none⟩) 2 cap]) ?_ rfl ?_
       · rw [results_cell1 rfl];go_simp
       · refine ReP.mk ⟨b,o,⟨op,0,⟨#[]⟩,some ⟨b,o,none⟩,cap⟩,(.node b1 o1 a1 k1 (.node b2 o2 a2 k2 .nil))⟩ (by (repeat (first|exact Below.refl _ _|refine Below.drew ?_|refine Below.alloc ?_ (by first|exact Nat.le_refl _|(simp<;>omega)) _|refine Below.setCell ?_ (by first|exact Nat.le_refl _|(simp<;>omega)) _));exact HB2.out) ?_ (fun hB=>?_) ?_
         · rw [e.out];rfl
         · exact ⟨fun _=>rfl,XX.out.next hB⟩
         · exact AV.out
     · have e:Hid (R=ec ⟨b2,o2,a2,k2⟩):=by unfold Hid;rw [J2.out];simp
       clear J2
       go_wp2
       refine bodyPost_ret (v:=.agg #[.int .i64 a2.op,.int .i64 a2.num,.string a2.name,.slice a2.ptr (len k2) a2.cap]) ?_ rfl ?_
       · rw [results_cell1 rfl];go_simp
       · refine ReP.mk ⟨b2,o2,a2,k2⟩ (by (repeat (first|exact Below.refl _ _|refine Below.drew ?_|refine Below.alloc ?_ (by first|exact Nat.le_refl _|(simp<;>omega)) _|refine Below.setCell ?_ (by first|exact Nat.le_refl _|(simp<;>omega)) _));exact HB2.out) ?_ (fun hB=>?_) ?_
         · rw [e.out]
         · exact X2.out.next hB
         · exact AV.out.2.2.2.1
 · have e:Hid (R=ec ⟨b1,o1,a1,k1⟩):=by unfold Hid;rw [J.out];rfl
   clear J
   go_wp2
   refine bodyPost_ret (v:=.agg #[.int .i64 a1.op,.int .i64 a1.num,.string a1.name,.slice a1.ptr (len k1) a1.cap]) ?_ rfl ?_
   · rw [results_cell1 rfl];go_simp
   · refine ReP.mk ⟨b1,o1,a1,k1⟩ (by (repeat (first|exact Below.refl _ _|refine Below.drew ?_|refine Below.alloc ?_ (by first|exact Nat.le_refl _|(simp<;>omega)) _|refine Below.setCell ?_ (by first|exact Nat.le_refl _|(simp<;>omega)) _));exact HB.out) ?_ (fun hB=>?_) ?_
     · rw [e.out]
     · exact X1.out.next hB
     · exact AV.out.2.1
end
end Go.Proofs.YtfoedbfkddoibaaGreat
