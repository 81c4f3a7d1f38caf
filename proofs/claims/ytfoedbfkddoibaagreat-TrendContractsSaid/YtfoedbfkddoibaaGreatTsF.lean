import Derived.Test.YtfoedbfkddoibaaGreatTda
import Derived.Test.YtfoedbfkddoibaaGreatTrH
namespace Go.Proofs.YtfoedbfkddoibaaGreat
set_option linter.unusedVariables false
set_option linter.unusedSimpArgs false
open Go.ChangeShapes Go.WideShapes Go.ChangeAt Go.RowKit
open Go.Deep (BT)
set_option maxHeartbeats 4000000 in
set_option maxRecDepth 100000 in
theorem rred19_any (Av:Nat→Prop) (b o cap:Nat) (b1 o1:Nat) (a1:Nd) (k1:Fo) (w:World) (hx:FoAt w (.node b1 o1 a1 k1 .nil) b o) (ha:FoAv Av (.node b1 o1 a1 k1 .nil) b) (hfree:∀ g,w.heap.size≤g→Av g) (h19:a1.op=19→len k1=1) :
 Calls Tryz.prog 89 #[.agg #[.int .i64 19,.int .i64 0,.string ⟨#[]⟩,.slice (some ⟨b,o,none⟩) 1 cap]] w (ReP w Av (notE (ec ⟨b1,o1,a1,k1⟩))):=by
 have XX:=Lib.hid hx
 have AV:=Lib.hid ha
 have HF:=Lib.hid hfree
 obtain ⟨R,hR⟩:∃ R,(notE (ec ⟨b1,o1,a1,k1⟩))=R:=⟨_,rfl⟩
 have HR:=Lib.hid hR
 rw [hR]
 clear hR hfree ha
 obtain ⟨⟨c10,c11,c12,c13⟩,hp1,hk1,-⟩:=hx
 have X1:=Lib.hid (show ExAt w b1 o1 a1 k1 from ⟨hp1,hk1⟩)
 clear hp1 hk1
 have hg:=block_lt_of_cell c10
 simp at hg
 have:b≠w.heap.size:=by omega
 have:b≠w.heap.size+1:=by omega
 have:b≠w.heap.size+1+1:=by omega
 have:b≠w.heap.size+1+1+1:=by omega
 have:b≠w.heap.size+2:=by omega
 have:b≠w.heap.size+3:=by omega
 have:b < w.heap.size+1:=by omega
 have:b < w.heap.size+1+1:=by omega
 have:b < w.heap.size+1+1+1:=by omega
 have H19:=Lib.hid h19
 clear h19
 go_enter Tryz.func89,Tryz.ntmps89
 by_cases h1:a1.op=19
 · have n1:(a1.op==19)=true:=by simp [h1]
   have hl1:=H19.out h1
   cases k1 with
   | nil=>simp [len] at hl1
   | node b2 o2 a2 k2 r2 =>
     obtain hp:a1.ptr=some ⟨b1,o1,none⟩:=X1.out.1 (by simp)
     obtain ⟨⟨d0,d1,d2,d3⟩,hp2,hk2,-⟩:=X1.out.2
     have X2:=Lib.hid (show ExAt w b2 o2 a2 k2 from ⟨hp2,hk2⟩)
     have hg2:=block_lt_of_cell d0
     simp at hg2
     have:b1≠w.heap.size:=by omega
     have:b1≠w.heap.size+1:=by omega
     have:b1≠w.heap.size+1+1:=by omega
     have:b1≠w.heap.size+1+1+1:=by omega
     have:b1≠w.heap.size+2:=by omega
     have:b1≠w.heap.size+3:=by omega
     have:b1 < w.heap.size+1:=by omega
     have:b1 < w.heap.size+1+1:=by omega
     have:b1 < w.heap.size+1+1+1:=by omega
     clear hp2 hk2
     have e:Hid (R=ec ⟨b2,o2,a2,k2⟩):=by unfold Hid;rw [← HR.out];unfold notE;rw [if_pos (show (ec ⟨b1,o1,a1,.node b2 o2 a2 k2 r2⟩).a.op=19 from h1)];rfl
     have hlp:(0:Int) < (len (BT.node b2 o2 a2 k2 r2):Int):=by omega
     rw [hp] at c13
     clear HR H19 h1
     go_wp2
     refine bodyPost_ret (v:=.agg #[.int .i64 a2.op,.int .i64 a2.num,.string a2.name,.slice a2.ptr (len k2) a2.cap]) ?_ rfl (ReP.mk ⟨b2,o2,a2,k2⟩ (by (repeat (first|exact HB.out|exact Below.refl _ _|refine Below.drew ?_|refine Below.alloc ?_ (by first|exact Nat.le_refl _|(simp<;>omega)) _|refine Below.setCell ?_ (by first|exact Nat.le_refl _|(simp<;>omega)) _))) (e.out.symm) (fun hB=>X2.out.next hB) (AV.out.2.1.2.1))
     rw [results_cell1 rfl];go_simp
 · have n1:(a1.op==19)=false:=by simp [h1]
   have e:Hid (R=nE 19 [ec ⟨b1,o1,a1,k1⟩]):=by unfold Hid;rw [← HR.out];unfold notE;rw [if_neg (show ¬ (ec ⟨b1,o1,a1,k1⟩).a.op=19 from h1)]
   clear HR H19 h1
   go_wp2
   refine bodyPost_ret (v:=.agg #[.int .i64 19,.int .i64 0,.string ⟨#[]⟩,.slice (some ⟨b,o,none⟩) 1 cap]) ?_ rfl (ReP.mk ⟨b,o,⟨19,0,⟨#[]⟩,some ⟨b,o,none⟩,cap⟩,(.node b1 o1 a1 k1 .nil)⟩ (by (repeat (first|exact HB.out|exact Below.refl _ _|refine Below.drew ?_|refine Below.alloc ?_ (by first|exact Nat.le_refl _|(simp<;>omega)) _|refine Below.setCell ?_ (by first|exact Nat.le_refl _|(simp<;>omega)) _))) (e.out.symm) (fun hB=>⟨fun _=>rfl,XX.out.next hB⟩) (AV.out))
   rw [results_cell1 rfl];go_simp
set_option maxHeartbeats 4000000 in
set_option maxRecDepth 100000 in
theorem rred20_any (Av:Nat→Prop) (b o cap:Nat) (b1 o1:Nat) (a1:Nd) (k1:Fo) (b2 o2:Nat) (a2:Nd) (k2:Fo) (w:World) (hx:FoAt w (.node b1 o1 a1 k1 (.node b2 o2 a2 k2 .nil)) b o) (ha:FoAv Av (.node b1 o1 a1 k1 (.node b2 o2 a2 k2 .nil)) b) (hfree:∀ g,w.heap.size≤g→Av g) :
 Calls Tryz.prog 89 #[.agg #[.int .i64 20,.int .i64 0,.string ⟨#[]⟩,.slice (some ⟨b,o,none⟩) 2 cap]] w (ReP w Av (juncE 20 5 4 [ec ⟨b1,o1,a1,k1⟩,ec ⟨b2,o2,a2,k2⟩])):=by
 have XX:=Lib.hid hx
 have AV:=Lib.hid ha
 have HF:=Lib.hid hfree
 obtain ⟨R,hR⟩:∃ R,(juncE 20 5 4 [ec ⟨b1,o1,a1,k1⟩,ec ⟨b2,o2,a2,k2⟩])=R:=⟨_,rfl⟩
 have HR:=Lib.hid hR
 rw [hR]
 clear hR hfree ha
 obtain ⟨⟨c10,c11,c12,c13⟩,hp1,hk1,⟨c20,c21,c22,c23⟩,hp2,hk2,-⟩:=hx
 have X1:=Lib.hid (show ExAt w b1 o1 a1 k1 from ⟨hp1,hk1⟩)
 have X2:=Lib.hid (show ExAt w b2 o2 a2 k2 from ⟨hp2,hk2⟩)
 have c20:w.cell? ⟨b,o+4,none⟩=some (.int .i64 a2.op):=c20
 have c21:w.cell? ⟨b,o+5,none⟩=some (.int .i64 a2.num):=c21
 have c22:w.cell? ⟨b,o+6,none⟩=some (.string a2.name):=c22
 have c23:w.cell? ⟨b,o+7,none⟩=some (.slice a2.ptr (len k2) a2.cap):=c23
 clear hp1 hk1 hp2 hk2
 have hg:=block_lt_of_cell c10
 simp at hg
 have:b≠w.heap.size:=by omega
 have:b≠w.heap.size+1:=by omega
 have:b≠w.heap.size+1+1:=by omega
 have:b≠w.heap.size+1+1+1:=by omega
 have:b≠w.heap.size+2:=by omega
 have:b≠w.heap.size+3:=by omega
 have:b < w.heap.size+1:=by omega
 have:b < w.heap.size+1+1:=by omega
 have:b < w.heap.size+1+1+1:=by omega
 go_enter Tryz.func89,Tryz.ntmps89
 have J:Hid (R=if a1.op=5∨a2.op=5 then dE 5 0 noN else if a1.op=4 then ec ⟨b2,o2,a2,k2⟩ else if a2.op=4 then ec ⟨b1,o1,a1,k1⟩ else nE 20 [ec ⟨b1,o1,a1,k1⟩,ec ⟨b2,o2,a2,k2⟩]):=HR.out.symm
 clear HR
 by_cases h1:a1.op=5
 · have n1:(a1.op==5)=true:=by simp [h1]
   have e:Hid (R=dE 5 0 noN):=by unfold Hid;rw [J.out,if_pos (Or.inl h1)]
   clear J h1
   go_wp2
   refine bodyPost_ret (v:=.agg #[.int .i64 5,.int .i64 0,.string ⟨#[]⟩,.slice none 0 0]) ?_ rfl (ReP.mk ⟨0,0,⟨5,0,⟨#[]⟩,none,0⟩,.nil⟩ (by (repeat (first|exact HB.out|exact Below.refl _ _|refine Below.drew ?_|refine Below.alloc ?_ (by first|exact Nat.le_refl _|(simp<;>omega)) _|refine Below.setCell ?_ (by first|exact Nat.le_refl _|(simp<;>omega)) _))) (e.out.symm) (fun hB=>⟨fun q=>absurd rfl q,trivial⟩) (trivial))
   rw [results_cell1 rfl];go_simp
 have n1:(a1.op==5)=false:=by simp [h1]
 by_cases h2:a2.op=5
 · have n2:(a2.op==5)=true:=by simp [h2]
   have e:Hid (R=dE 5 0 noN):=by unfold Hid;rw [J.out,if_pos (Or.inr h2)]
   clear J h1 h2
   go_wp2
   refine bodyPost_ret (v:=.agg #[.int .i64 5,.int .i64 0,.string ⟨#[]⟩,.slice none 0 0]) ?_ rfl (ReP.mk ⟨0,0,⟨5,0,⟨#[]⟩,none,0⟩,.nil⟩ (by (repeat (first|exact HB.out|exact Below.refl _ _|refine Below.drew ?_|refine Below.alloc ?_ (by first|exact Nat.le_refl _|(simp<;>omega)) _|refine Below.setCell ?_ (by first|exact Nat.le_refl _|(simp<;>omega)) _))) (e.out.symm) (fun hB=>⟨fun q=>absurd rfl q,trivial⟩) (trivial))
   rw [results_cell1 rfl];go_simp
 have n2:(a2.op==5)=false:=by simp [h2]
 have J2:Hid (R=if a1.op=4 then ec ⟨b2,o2,a2,k2⟩ else if a2.op=4 then ec ⟨b1,o1,a1,k1⟩ else nE 20 [ec ⟨b1,o1,a1,k1⟩,ec ⟨b2,o2,a2,k2⟩]):=by unfold Hid;rw [J.out,if_neg (by simp [h1,h2])]
 clear J h1 h2
 by_cases h3:a1.op=4
 · have n3:(a1.op==4)=true:=by simp [h3]
   have e:Hid (R=ec ⟨b2,o2,a2,k2⟩):=by unfold Hid;rw [J2.out,if_pos h3]
   clear J2 h3
   go_wp2
   refine bodyPost_ret (v:=.agg #[.int .i64 a2.op,.int .i64 a2.num,.string a2.name,.slice a2.ptr (len k2) a2.cap]) ?_ rfl (ReP.mk ⟨b2,o2,a2,k2⟩ (by (repeat (first|exact HB.out|exact Below.refl _ _|refine Below.drew ?_|refine Below.alloc ?_ (by first|exact Nat.le_refl _|(simp<;>omega)) _|refine Below.setCell ?_ (by first|exact Nat.le_refl _|(simp<;>omega)) _))) (e.out.symm) (fun hB=>X2.out.next hB) (AV.out.2.2.2.1))
   rw [results_cell1 rfl];go_simp
 have n3:(a1.op==4)=false:=by simp [h3]
 by_cases h4:a2.op=4
 · have n4:(a2.op==4)=true:=by simp [h4]
   have e:Hid (R=ec ⟨b1,o1,a1,k1⟩):=by unfold Hid;rw [J2.out,if_neg h3,if_pos h4]
   clear J2 h3 h4
   go_wp2
   refine bodyPost_ret (v:=.agg #[.int .i64 a1.op,.int .i64 a1.num,.string a1.name,.slice a1.ptr (len k1) a1.cap]) ?_ rfl (ReP.mk ⟨b1,o1,a1,k1⟩ (by (repeat (first|exact HB.out|exact Below.refl _ _|refine Below.drew ?_|refine Below.alloc ?_ (by first|exact Nat.le_refl _|(simp<;>omega)) _|refine Below.setCell ?_ (by first|exact Nat.le_refl _|(simp<;>omega)) _))) (e.out.symm) (fun hB=>X1.out.next hB) (AV.out.2.1))
   rw [results_cell1 rfl];go_simp
 have n4:(a2.op==4)=false:=by simp [h4]
 have e:Hid (R=nE 20 [ec ⟨b1,o1,a1,k1⟩,ec ⟨b2,o2,a2,k2⟩]):=by unfold Hid;rw [J2.out,if_neg h3,if_neg h4]
 clear J2 h3 h4
 go_wp2
 refine bodyPost_ret (v:=.agg #[.int .i64 20,.int .i64 0,.string ⟨#[]⟩,.slice (some ⟨b,o,none⟩) 2 cap]) ?_ rfl (ReP.mk ⟨b,o,⟨20,0,⟨#[]⟩,some ⟨b,o,none⟩,cap⟩,(.node b1 o1 a1 k1 (.node b2 o2 a2 k2 .nil))⟩ (by (repeat (first|exact HB.out|exact Below.refl _ _|refine Below.drew ?_|refine Below.alloc ?_ (by first|exact Nat.le_refl _|(simp<;>omega)) _|refine Below.setCell ?_ (by first|exact Nat.le_refl _|(simp<;>omega)) _))) (e.out.symm) (fun hB=>⟨fun _=>rfl,XX.out.next hB⟩) (AV.out))
 rw [results_cell1 rfl];go_simp
set_option maxHeartbeats 4000000 in
set_option maxRecDepth 100000 in
theorem rred21_any (Av:Nat→Prop) (b o cap:Nat) (b1 o1:Nat) (a1:Nd) (k1:Fo) (b2 o2:Nat) (a2:Nd) (k2:Fo) (w:World) (hx:FoAt w (.node b1 o1 a1 k1 (.node b2 o2 a2 k2 .nil)) b o) (ha:FoAv Av (.node b1 o1 a1 k1 (.node b2 o2 a2 k2 .nil)) b) (hfree:∀ g,w.heap.size≤g→Av g) :
 Calls Tryz.prog 89 #[.agg #[.int .i64 21,.int .i64 0,.string ⟨#[]⟩,.slice (some ⟨b,o,none⟩) 2 cap]] w (ReP w Av (juncE 21 4 5 [ec ⟨b1,o1,a1,k1⟩,ec ⟨b2,o2,a2,k2⟩])):=by
 have XX:=Lib.hid hx
 have AV:=Lib.hid ha
 have HF:=Lib.hid hfree
 obtain ⟨R,hR⟩:∃ R,(juncE 21 4 5 [ec ⟨b1,o1,a1,k1⟩,ec ⟨b2,o2,a2,k2⟩])=R:=⟨_,rfl⟩
 have HR:=Lib.hid hR
 rw [hR]
 clear hR hfree ha
 obtain ⟨⟨c10,c11,c12,c13⟩,hp1,hk1,⟨c20,c21,c22,c23⟩,hp2,hk2,-⟩:=hx
 have X1:=Lib.hid (show ExAt w b1 o1 a1 k1 from ⟨hp1,hk1⟩)
 have X2:=Lib.hid (show ExAt w b2 o2 a2 k2 from ⟨hp2,hk2⟩)
 have c20:w.cell? ⟨b,o+4,none⟩=some (.int .i64 a2.op):=c20
 have c21:w.cell? ⟨b,o+5,none⟩=some (.int .i64 a2.num):=c21
 have c22:w.cell? ⟨b,o+6,none⟩=some (.string a2.name):=c22
 have c23:w.cell? ⟨b,o+7,none⟩=some (.slice a2.ptr (len k2) a2.cap):=c23
 clear hp1 hk1 hp2 hk2
 have hg:=block_lt_of_cell c10
 simp at hg
 have:b≠w.heap.size:=by omega
 have:b≠w.heap.size+1:=by omega
 have:b≠w.heap.size+1+1:=by omega
 have:b≠w.heap.size+1+1+1:=by omega
 have:b≠w.heap.size+2:=by omega
 have:b≠w.heap.size+3:=by omega
 have:b < w.heap.size+1:=by omega
 have:b < w.heap.size+1+1:=by omega
 have:b < w.heap.size+1+1+1:=by omega
 go_enter Tryz.func89,Tryz.ntmps89
 have J:Hid (R=if a1.op=4∨a2.op=4 then dE 4 0 noN else if a1.op=5 then ec ⟨b2,o2,a2,k2⟩ else if a2.op=5 then ec ⟨b1,o1,a1,k1⟩ else nE 21 [ec ⟨b1,o1,a1,k1⟩,ec ⟨b2,o2,a2,k2⟩]):=HR.out.symm
 clear HR
 by_cases h1:a1.op=4
 · have n1:(a1.op==4)=true:=by simp [h1]
   have e:Hid (R=dE 4 0 noN):=by unfold Hid;rw [J.out,if_pos (Or.inl h1)]
   clear J h1
   go_wp2
   refine bodyPost_ret (v:=.agg #[.int .i64 4,.int .i64 0,.string ⟨#[]⟩,.slice none 0 0]) ?_ rfl (ReP.mk ⟨0,0,⟨4,0,⟨#[]⟩,none,0⟩,.nil⟩ (by (repeat (first|exact HB.out|exact Below.refl _ _|refine Below.drew ?_|refine Below.alloc ?_ (by first|exact Nat.le_refl _|(simp<;>omega)) _|refine Below.setCell ?_ (by first|exact Nat.le_refl _|(simp<;>omega)) _))) (e.out.symm) (fun hB=>⟨fun q=>absurd rfl q,trivial⟩) (trivial))
   rw [results_cell1 rfl];go_simp
 have n1:(a1.op==4)=false:=by simp [h1]
 by_cases h2:a2.op=4
 · have n2:(a2.op==4)=true:=by simp [h2]
   have e:Hid (R=dE 4 0 noN):=by unfold Hid;rw [J.out,if_pos (Or.inr h2)]
   clear J h1 h2
   go_wp2
   refine bodyPost_ret (v:=.agg #[.int .i64 4,.int .i64 0,.string ⟨#[]⟩,.slice none 0 0]) ?_ rfl (ReP.mk ⟨0,0,⟨4,0,⟨#[]⟩,none,0⟩,.nil⟩ (by (repeat (first|exact HB.out|exact Below.refl _ _|refine Below.drew ?_|refine Below.alloc ?_ (by first|exact Nat.le_refl _|(simp<;>omega)) _|refine Below.setCell ?_ (by first|exact Nat.le_refl _|(simp<;>omega)) _))) (e.out.symm) (fun hB=>⟨fun q=>absurd rfl q,trivial⟩) (trivial))
   rw [results_cell1 rfl];go_simp
 have n2:(a2.op==4)=false:=by simp [h2]
 have J2:Hid (R=if a1.op=5 then ec ⟨b2,o2,a2,k2⟩ else if a2.op=5 then ec ⟨b1,o1,a1,k1⟩ else nE 21 [ec ⟨b1,o1,a1,k1⟩,ec ⟨b2,o2,a2,k2⟩]):=by unfold Hid;rw [J.out,if_neg (by simp [h1,h2])]
 clear J h1 h2
 by_cases h3:a1.op=5
 · have n3:(a1.op==5)=true:=by simp [h3]
   have e:Hid (R=ec ⟨b2,o2,a2,k2⟩):=by unfold Hid;rw [J2.out,if_pos h3]
   clear J2 h3
   go_wp2
   refine bodyPost_ret (v:=.agg #[.int .i64 a2.op,.int .i64 a2.num,.string a2.name,.slice a2.ptr (len k2) a2.cap]) ?_ rfl (ReP.mk ⟨b2,o2,a2,k2⟩ (by (repeat (first|exact HB.out|exact Below.refl _ _|refine Below.drew ?_|refine Below.alloc ?_ (by first|exact Nat.le_refl _|(simp<;>omega)) _|refine Below.setCell ?_ (by first|exact Nat.le_refl _|(simp<;>omega)) _))) (e.out.symm) (fun hB=>X2.out.next hB) (AV.out.2.2.2.1))
   rw [results_cell1 rfl];go_simp
 have n3:(a1.op==5)=false:=by simp [h3]
 by_cases h4:a2.op=5
 · have n4:(a2.op==5)=true:=by simp [h4]
   have e:Hid (R=ec ⟨b1,o1,a1,k1⟩):=by unfold Hid;rw [J2.out,if_neg h3,if_pos h4]
   clear J2 h3 h4
   go_wp2
   refine bodyPost_ret (v:=.agg #[.int .i64 a1.op,.int .i64 a1.num,.string a1.name,.slice a1.ptr (len k1) a1.cap]) ?_ rfl (ReP.mk ⟨b1,o1,a1,k1⟩ (by (repeat (first|exact HB.out|exact Below.refl _ _|refine Below.drew ?_|refine Below.alloc ?_ (by first|exact Nat.le_refl _|(simp<;>omega)) _|refine Below.setCell ?_ (by first|exact Nat.le_refl _|(simp<;>omega)) _))) (e.out.symm) (fun hB=>X1.out.next hB) (AV.out.2.1))
   rw [results_cell1 rfl];go_simp
 have n4:(a2.op==5)=false:=by simp [h4]
 have e:Hid (R=nE 21 [ec ⟨b1,o1,a1,k1⟩,ec ⟨b2,o2,a2,k2⟩]):=by unfold Hid;rw [J2.out,if_neg h3,if_neg h4]
 clear J2 h3 h4
 go_wp2
 refine bodyPost_ret (v:=.agg #[.int .i64 21,.int .i64 0,.string ⟨#[]⟩,.slice (some ⟨b,o,none⟩) 2 cap]) ?_ rfl (ReP.mk ⟨b,o,⟨21,0,⟨#[]⟩,some ⟨b,o,none⟩,cap⟩,(.node b1 o1 a1 k1 (.node b2 o2 a2 k2 .nil))⟩ (by (repeat (first|exact HB.out|exact Below.refl _ _|refine Below.drew ?_|refine Below.alloc ?_ (by first|exact Nat.le_refl _|(simp<;>omega)) _|refine Below.setCell ?_ (by first|exact Nat.le_refl _|(simp<;>omega)) _))) (e.out.symm) (fun hB=>⟨fun _=>rfl,XX.out.next hB⟩) (AV.out))
 rw [results_cell1 rfl];go_simp
set_option maxHeartbeats 4000000 in
set_option maxRecDepth 100000 in
theorem rred22_any (Av:Nat→Prop) (b o cap:Nat) (b1 o1:Nat) (a1:Nd) (k1:Fo) (b2 o2:Nat) (a2:Nd) (k2:Fo) (w:World) (hx:FoAt w (.node b1 o1 a1 k1 (.node b2 o2 a2 k2 .nil)) b o) (ha:FoAv Av (.node b1 o1 a1 k1 (.node b2 o2 a2 k2 .nil)) b) (hfree:∀ g,w.heap.size≤g→Av g) (h19:a1.op=19→len k1=1) :
 Calls Tryz.prog 89 #[.agg #[.int .i64 22,.int .i64 0,.string ⟨#[]⟩,.slice (some ⟨b,o,none⟩) 2 cap]] w (ReP w Av (implE [ec ⟨b1,o1,a1,k1⟩,ec ⟨b2,o2,a2,k2⟩])):=by
 have XX:=Lib.hid hx
 have AV:=Lib.hid ha
 have HF:=Lib.hid hfree
 obtain ⟨R,hR⟩:∃ R,(implE [ec ⟨b1,o1,a1,k1⟩,ec ⟨b2,o2,a2,k2⟩])=R:=⟨_,rfl⟩
 have HR:=Lib.hid hR
 rw [hR]
 clear hR hfree ha
 obtain ⟨⟨c10,c11,c12,c13⟩,hp1,hk1,⟨c20,c21,c22,c23⟩,hp2,hk2,-⟩:=hx
 have X1:=Lib.hid (show ExAt w b1 o1 a1 k1 from ⟨hp1,hk1⟩)
 have X2:=Lib.hid (show ExAt w b2 o2 a2 k2 from ⟨hp2,hk2⟩)
 have c20:w.cell? ⟨b,o+4,none⟩=some (.int .i64 a2.op):=c20
 have c21:w.cell? ⟨b,o+5,none⟩=some (.int .i64 a2.num):=c21
 have c22:w.cell? ⟨b,o+6,none⟩=some (.string a2.name):=c22
 have c23:w.cell? ⟨b,o+7,none⟩=some (.slice a2.ptr (len k2) a2.cap):=c23
 clear hp1 hk1 hp2 hk2
 have hg:=block_lt_of_cell c10
 simp at hg
 have:b≠w.heap.size:=by omega
 have:b≠w.heap.size+1:=by omega
 have:b≠w.heap.size+1+1:=by omega
 have:b≠w.heap.size+1+1+1:=by omega
 have:b≠w.heap.size+2:=by omega
 have:b≠w.heap.size+3:=by omega
 have:b < w.heap.size+1:=by omega
 have:b < w.heap.size+1+1:=by omega
 have:b < w.heap.size+1+1+1:=by omega
 have H19:=Lib.hid h19
 clear h19
 go_enter Tryz.func89,Tryz.ntmps89
 have J:Hid (R=if a1.op=5∨a2.op=4 then dE 4 0 noN else if a1.op=4 then ec ⟨b2,o2,a2,k2⟩ else if a2.op=5 then notE (ec ⟨b1,o1,a1,k1⟩) else nE 22 [ec ⟨b1,o1,a1,k1⟩,ec ⟨b2,o2,a2,k2⟩]):=HR.out.symm
 clear HR
 by_cases h1:a1.op=5
 · have n1:(a1.op==5)=true:=by simp [h1]
   have e:Hid (R=dE 4 0 noN):=by unfold Hid;rw [J.out,if_pos (Or.inl h1)]
   clear J h1
   go_wp2
   refine bodyPost_ret (v:=.agg #[.int .i64 4,.int .i64 0,.string ⟨#[]⟩,.slice none 0 0]) ?_ rfl (ReP.mk ⟨0,0,⟨4,0,⟨#[]⟩,none,0⟩,.nil⟩ (by (repeat (first|exact HB.out|exact Below.refl _ _|refine Below.drew ?_|refine Below.alloc ?_ (by first|exact Nat.le_refl _|(simp<;>omega)) _|refine Below.setCell ?_ (by first|exact Nat.le_refl _|(simp<;>omega)) _))) (e.out.symm) (fun hB=>⟨fun q=>absurd rfl q,trivial⟩) (trivial))
   rw [results_cell1 rfl];go_simp
 have n1:(a1.op==5)=false:=by simp [h1]
 by_cases h2:a2.op=4
 · have n2:(a2.op==4)=true:=by simp [h2]
   have e:Hid (R=dE 4 0 noN):=by unfold Hid;rw [J.out,if_pos (Or.inr h2)]
   clear J h1 h2
   go_wp2
   refine bodyPost_ret (v:=.agg #[.int .i64 4,.int .i64 0,.string ⟨#[]⟩,.slice none 0 0]) ?_ rfl (ReP.mk ⟨0,0,⟨4,0,⟨#[]⟩,none,0⟩,.nil⟩ (by (repeat (first|exact HB.out|exact Below.refl _ _|refine Below.drew ?_|refine Below.alloc ?_ (by first|exact Nat.le_refl _|(simp<;>omega)) _|refine Below.setCell ?_ (by first|exact Nat.le_refl _|(simp<;>omega)) _))) (e.out.symm) (fun hB=>⟨fun q=>absurd rfl q,trivial⟩) (trivial))
   rw [results_cell1 rfl];go_simp
 have n2:(a2.op==4)=false:=by simp [h2]
 have J2:Hid (R=if a1.op=4 then ec ⟨b2,o2,a2,k2⟩ else if a2.op=5 then notE (ec ⟨b1,o1,a1,k1⟩) else nE 22 [ec ⟨b1,o1,a1,k1⟩,ec ⟨b2,o2,a2,k2⟩]):=by unfold Hid;rw [J.out,if_neg (by simp [h1,h2])]
 clear J h1 h2
 by_cases h3:a1.op=4
 · have n3:(a1.op==4)=true:=by simp [h3]
   have e:Hid (R=ec ⟨b2,o2,a2,k2⟩):=by unfold Hid;rw [J2.out,if_pos h3]
   clear J2 h3
   go_wp2
   refine bodyPost_ret (v:=.agg #[.int .i64 a2.op,.int .i64 a2.num,.string a2.name,.slice a2.ptr (len k2) a2.cap]) ?_ rfl (ReP.mk ⟨b2,o2,a2,k2⟩ (by (repeat (first|exact HB.out|exact Below.refl _ _|refine Below.drew ?_|refine Below.alloc ?_ (by first|exact Nat.le_refl _|(simp<;>omega)) _|refine Below.setCell ?_ (by first|exact Nat.le_refl _|(simp<;>omega)) _))) (e.out.symm) (fun hB=>X2.out.next hB) (AV.out.2.2.2.1))
   rw [results_cell1 rfl];go_simp
 have n3:(a1.op==4)=false:=by simp [h3]
 by_cases h4:a2.op=5
 · have n4:(a2.op==5)=true:=by simp [h4]
   have e:Hid (R=notE (ec ⟨b1,o1,a1,k1⟩)):=by unfold Hid;rw [J2.out,if_neg h3,if_pos h4]
   clear J2 h3 h4
   have N19:=Lib.hid (fun (b o cap:Nat) (w':World) (Av':Nat→Prop) hx ha hf=>rred19_any Av' b o cap b1 o1 a1 k1 w' hx ha hf H19.out)
   have X1N:∀ w',Below w.heap.size w w'→w'.cell? ⟨w.heap.size+4,0,none⟩=some (.int .i64 a1.op)→w'.cell? ⟨w.heap.size+4,1,none⟩=some (.int .i64 a1.num)→w'.cell? ⟨w.heap.size+4,2,none⟩=some (.string a1.name)→w'.cell? ⟨w.heap.size+4,3,none⟩=some (.slice a1.ptr (len k1) a1.cap)→FoAt w' (BT.node b1 o1 a1 k1 .nil) (w.heap.size+4) 0:=fun w' hb h0 h1 h2 h3=>⟨⟨h0,h1,h2,h3⟩,(X1.out.next hb).1,(X1.out.next hb).2,trivial⟩
   have XN:=Lib.hid X1N
   clear X1N
   have A1:Hid (FoAv (fun g=>Av g∧g≠w.heap.size+1) (BT.node b1 o1 a1 k1 .nil) (w.heap.size+4)):=⟨⟨HF.out _ (by omega),by omega⟩,((FoAv.lt XX.out AV.out).mono (fun g h=>⟨h.1,by omega⟩):FoAv (fun g=>Av g∧g≠w.heap.size+1) _ b).2.1,trivial⟩
   go_wp2_with (fail)
   have hba:Below w.heap.size w (((((w.alloc (.cells #[.int .i64 22,.int .i64 0,.string ⟨#[]⟩,.slice (some ⟨b,o,none⟩) 2 cap] 25)).alloc (.cells #[.int .i64 0,.int .i64 0,.string ⟨#[]⟩,.slice none 0 0] 25)).alloc (.cells #[.int .i64 4,.int .i64 0,.string ⟨#[]⟩,.slice none 0 0] 25)).alloc (.cells #[.int .i64 5,.int .i64 0,.string ⟨#[]⟩,.slice none 0 0] 25)).alloc (.cells #[.int .i64 a1.op,.int .i64 a1.num,.string a1.name,.slice a1.ptr (len k1) a1.cap] 25)):=(by (repeat (first|exact Below.refl _ _|refine Below.drew ?_|refine Below.alloc ?_ (by first|exact Nat.le_refl _|(simp<;>omega)) _|refine Below.setCell ?_ (by first|exact Nat.le_refl _|(simp<;>omega)) _)))
   have hzN:(((((w.alloc (.cells #[.int .i64 22,.int .i64 0,.string ⟨#[]⟩,.slice (some ⟨b,o,none⟩) 2 cap] 25)).alloc (.cells #[.int .i64 0,.int .i64 0,.string ⟨#[]⟩,.slice none 0 0] 25)).alloc (.cells #[.int .i64 4,.int .i64 0,.string ⟨#[]⟩,.slice none 0 0] 25)).alloc (.cells #[.int .i64 5,.int .i64 0,.string ⟨#[]⟩,.slice none 0 0] 25)).alloc (.cells #[.int .i64 a1.op,.int .i64 a1.num,.string a1.name,.slice a1.ptr (len k1) a1.cap] 25)).heap.size=w.heap.size+5:=by simp
   have RBN:BX4 (((((w.alloc (.cells #[.int .i64 22,.int .i64 0,.string ⟨#[]⟩,.slice (some ⟨b,o,none⟩) 2 cap] 25)).alloc (.cells #[.int .i64 0,.int .i64 0,.string ⟨#[]⟩,.slice none 0 0] 25)).alloc (.cells #[.int .i64 4,.int .i64 0,.string ⟨#[]⟩,.slice none 0 0] 25)).alloc (.cells #[.int .i64 5,.int .i64 0,.string ⟨#[]⟩,.slice none 0 0] 25)).alloc (.cells #[.int .i64 a1.op,.int .i64 a1.num,.string a1.name,.slice a1.ptr (len k1) a1.cap] 25)) (w.heap.size+1) (.int .i64 0) (.int .i64 0) (.string ⟨#[]⟩) (.slice none 0 0):=by
    refine ⟨?_,?_,?_,?_,?_,?_,?_,?_,?_⟩<;>simp [go_sem]
   refine (N19.out (w.heap.size+4) 0 1 (((((w.alloc (.cells #[.int .i64 22,.int .i64 0,.string ⟨#[]⟩,.slice (some ⟨b,o,none⟩) 2 cap] 25)).alloc (.cells #[.int .i64 0,.int .i64 0,.string ⟨#[]⟩,.slice none 0 0] 25)).alloc (.cells #[.int .i64 4,.int .i64 0,.string ⟨#[]⟩,.slice none 0 0] 25)).alloc (.cells #[.int .i64 5,.int .i64 0,.string ⟨#[]⟩,.slice none 0 0] 25)).alloc (.cells #[.int .i64 a1.op,.int .i64 a1.num,.string a1.name,.slice a1.ptr (len k1) a1.cap] 25)) (fun g=>Av g∧g≠w.heap.size+1) (XN.out _ hba (by simp [go_sem]) (by simp [go_sem]) (by simp [go_sem]) (by simp [go_sem])) A1.out (fun g hg=>⟨HF.out g (by omega),by omega⟩)).mono ?_
   rintro e' w2 ⟨c,rfl,hc,hcx,hca,hcb⟩
   have RB2:=Lib.hid (RBN.next hcb)
   have E:=Lib.hid hc
   have EX:=Lib.hid (And.intro hcx hca)
   have B2:=Lib.hid (hba.trans (hcb.mono (by omega)))
   clear hc hcx hca hcb hba hzN RBN
   obtain ⟨r0,r1,r2,r3,f0,f1,f2,f3,-⟩:=RB2.out
   go_wp2
   refine bodyPost_ret (v:=.agg #[.int .i64 c.a.op,.int .i64 c.a.num,.string c.a.name,.slice c.a.ptr (len c.k) c.a.cap]) ?_ rfl ⟨c,rfl,E.out.trans e.out.symm,EX.out.1.av4 (EX.out.2.mono fun g h=>h.2),EX.out.2.mono fun g h=>h.1,set4_below B2.out (by omega)⟩
   rw [results_cell1 rfl];go_simp
 have n4:(a2.op==5)=false:=by simp [h4]
 have e:Hid (R=nE 22 [ec ⟨b1,o1,a1,k1⟩,ec ⟨b2,o2,a2,k2⟩]):=by unfold Hid;rw [J2.out,if_neg h3,if_neg h4]
 clear J2 h3 h4
 go_wp2
 refine bodyPost_ret (v:=.agg #[.int .i64 22,.int .i64 0,.string ⟨#[]⟩,.slice (some ⟨b,o,none⟩) 2 cap]) ?_ rfl (ReP.mk ⟨b,o,⟨22,0,⟨#[]⟩,some ⟨b,o,none⟩,cap⟩,(.node b1 o1 a1 k1 (.node b2 o2 a2 k2 .nil))⟩ (by (repeat (first|exact HB.out|exact Below.refl _ _|refine Below.drew ?_|refine Below.alloc ?_ (by first|exact Nat.le_refl _|(simp<;>omega)) _|refine Below.setCell ?_ (by first|exact Nat.le_refl _|(simp<;>omega)) _))) (e.out.symm) (fun hB=>⟨fun _=>rfl,XX.out.next hB⟩) (AV.out))
 rw [results_cell1 rfl];go_simp
set_option maxHeartbeats 4000000 in
set_option maxRecDepth 100000 in
theorem rred14_any (Av:Nat→Prop) (b o cap:Nat) (b1 o1:Nat) (a1:Nd) (k1:Fo) (b2 o2:Nat) (a2:Nd) (k2:Fo) (b3 o3:Nat) (a3:Nd) (k3:Fo) (w:World) (hx:FoAt w (.node b1 o1 a1 k1 (.node b2 o2 a2 k2 (.node b3 o3 a3 k3 .nil))) b o) (ha:FoAv Av (.node b1 o1 a1 k1 (.node b2 o2 a2 k2 (.node b3 o3 a3 k3 .nil))) b) (hfree:∀ g,w.heap.size≤g→Av g) :
 Calls Tryz.prog 89 #[.agg #[.int .i64 14,.int .i64 0,.string ⟨#[]⟩,.slice (some ⟨b,o,none⟩) 3 cap]] w (ReP w Av (if (ec ⟨b1,o1,a1,k1⟩).a.op=4 then ec ⟨b2,o2,a2,k2⟩ else if (ec ⟨b1,o1,a1,k1⟩).a.op=5 then ec ⟨b3,o3,a3,k3⟩ else nE 14 [ec ⟨b1,o1,a1,k1⟩,ec ⟨b2,o2,a2,k2⟩,ec ⟨b3,o3,a3,k3⟩])):=by
 have XX:=Lib.hid hx
 have AV:=Lib.hid ha
 have HF:=Lib.hid hfree
 obtain ⟨R,hR⟩:∃ R,(if (ec ⟨b1,o1,a1,k1⟩).a.op=4 then ec ⟨b2,o2,a2,k2⟩ else if (ec ⟨b1,o1,a1,k1⟩).a.op=5 then ec ⟨b3,o3,a3,k3⟩ else nE 14 [ec ⟨b1,o1,a1,k1⟩,ec ⟨b2,o2,a2,k2⟩,ec ⟨b3,o3,a3,k3⟩])=R:=⟨_,rfl⟩
 have HR:=Lib.hid hR
 rw [hR]
 clear hR hfree ha
 obtain ⟨⟨c10,c11,c12,c13⟩,hp1,hk1,⟨c20,c21,c22,c23⟩,hp2,hk2,⟨c30,c31,c32,c33⟩,hp3,hk3,-⟩:=hx
 have X1:=Lib.hid (show ExAt w b1 o1 a1 k1 from ⟨hp1,hk1⟩)
 have X2:=Lib.hid (show ExAt w b2 o2 a2 k2 from ⟨hp2,hk2⟩)
 have X3:=Lib.hid (show ExAt w b3 o3 a3 k3 from ⟨hp3,hk3⟩)
 have c20:w.cell? ⟨b,o+4,none⟩=some (.int .i64 a2.op):=c20
 have c21:w.cell? ⟨b,o+5,none⟩=some (.int .i64 a2.num):=c21
 have c22:w.cell? ⟨b,o+6,none⟩=some (.string a2.name):=c22
 have c23:w.cell? ⟨b,o+7,none⟩=some (.slice a2.ptr (len k2) a2.cap):=c23
 have c30:w.cell? ⟨b,o+8,none⟩=some (.int .i64 a3.op):=c30
 have c31:w.cell? ⟨b,o+9,none⟩=some (.int .i64 a3.num):=c31
 have c32:w.cell? ⟨b,o+10,none⟩=some (.string a3.name):=c32
 have c33:w.cell? ⟨b,o+11,none⟩=some (.slice a3.ptr (len k3) a3.cap):=c33
 clear hp1 hk1 hp2 hk2 hp3 hk3
 have hg:=block_lt_of_cell c10
 simp at hg
 have:b≠w.heap.size:=by omega
 have:b≠w.heap.size+1:=by omega
 have:b≠w.heap.size+1+1:=by omega
 have:b≠w.heap.size+1+1+1:=by omega
 have:b≠w.heap.size+2:=by omega
 have:b≠w.heap.size+3:=by omega
 have:b < w.heap.size+1:=by omega
 have:b < w.heap.size+1+1:=by omega
 have:b < w.heap.size+1+1+1:=by omega
 go_enter Tryz.func89,Tryz.ntmps89
 by_cases h4:a1.op=4
 · have n4:(a1.op==4)=true:=by simp [h4]
   have e:Hid (R=ec ⟨b2,o2,a2,k2⟩):=by unfold Hid;rw [← HR.out];exact if_pos h4
   clear h4 HR
   go_wp2
   refine bodyPost_ret (v:=.agg #[.int .i64 a2.op,.int .i64 a2.num,.string a2.name,.slice a2.ptr (len k2) a2.cap]) ?_ rfl (ReP.mk ⟨b2,o2,a2,k2⟩ (by (repeat (first|exact HB.out|exact Below.refl _ _|refine Below.drew ?_|refine Below.alloc ?_ (by first|exact Nat.le_refl _|(simp<;>omega)) _|refine Below.setCell ?_ (by first|exact Nat.le_refl _|(simp<;>omega)) _))) (e.out.symm) (fun hB=>X2.out.next hB) (AV.out.2.2.2.1))
   rw [results_cell1 rfl];go_simp
 have n4:(a1.op==4)=false:=by simp [h4]
 by_cases h5:a1.op=5
 · have n5:(a1.op==5)=true:=by simp [h5]
   have e:Hid (R=ec ⟨b3,o3,a3,k3⟩):=by unfold Hid;rw [← HR.out];exact (if_neg h4).trans (if_pos h5)
   clear h4 h5 HR
   go_wp2
   refine bodyPost_ret (v:=.agg #[.int .i64 a3.op,.int .i64 a3.num,.string a3.name,.slice a3.ptr (len k3) a3.cap]) ?_ rfl (ReP.mk ⟨b3,o3,a3,k3⟩ (by (repeat (first|exact HB.out|exact Below.refl _ _|refine Below.drew ?_|refine Below.alloc ?_ (by first|exact Nat.le_refl _|(simp<;>omega)) _|refine Below.setCell ?_ (by first|exact Nat.le_refl _|(simp<;>omega)) _))) (e.out.symm) (fun hB=>X3.out.next hB) (AV.out.2.2.2.2.2.1))
   rw [results_cell1 rfl];go_simp
 have n5:(a1.op==5)=false:=by simp [h5]
 have e:Hid (R=nE 14 [ec ⟨b1,o1,a1,k1⟩,ec ⟨b2,o2,a2,k2⟩,ec ⟨b3,o3,a3,k3⟩]):=by unfold Hid;rw [← HR.out];exact (if_neg h4).trans (if_neg h5)
 clear h4 h5 HR
 go_wp2
 refine bodyPost_ret (v:=.agg #[.int .i64 14,.int .i64 0,.string ⟨#[]⟩,.slice (some ⟨b,o,none⟩) 3 cap]) ?_ rfl (ReP.mk ⟨b,o,⟨14,0,⟨#[]⟩,some ⟨b,o,none⟩,cap⟩,(.node b1 o1 a1 k1 (.node b2 o2 a2 k2 (.node b3 o3 a3 k3 .nil)))⟩ (by (repeat (first|exact HB.out|exact Below.refl _ _|refine Below.drew ?_|refine Below.alloc ?_ (by first|exact Nat.le_refl _|(simp<;>omega)) _|refine Below.setCell ?_ (by first|exact Nat.le_refl _|(simp<;>omega)) _))) (e.out.symm) (fun hB=>⟨fun _=>rfl,XX.out.next hB⟩) (AV.out))
 rw [results_cell1 rfl];go_simp
set_option maxHeartbeats 4000000 in
set_option maxRecDepth 100000 in
theorem rred8_any (Av:Nat→Prop) (b o cap:Nat) (b1 o1:Nat) (a1:Nd) (k1:Fo) (b2 o2:Nat) (a2:Nd) (k2:Fo) (w:World) (hx:FoAt w (.node b1 o1 a1 k1 (.node b2 o2 a2 k2 .nil)) b o) (ha:FoAv Av (.node b1 o1 a1 k1 (.node b2 o2 a2 k2 .nil)) b) (hfree:∀ g,w.heap.size≤g→Av g) :
 Calls Tryz.prog 89 #[.agg #[.int .i64 8,.int .i64 0,.string ⟨#[]⟩,.slice (some ⟨b,o,none⟩) 2 cap]] w (ReP w Av (neutE 8 zeroB true [ec ⟨b1,o1,a1,k1⟩,ec ⟨b2,o2,a2,k2⟩])):=by
 have XX:=Lib.hid hx
 have AV:=Lib.hid ha
 have HF:=Lib.hid hfree
 obtain ⟨R,hR⟩:∃ R,(neutE 8 zeroB true [ec ⟨b1,o1,a1,k1⟩,ec ⟨b2,o2,a2,k2⟩])=R:=⟨_,rfl⟩
 have HR:=Lib.hid hR
 rw [hR]
 clear hR hfree ha
 obtain ⟨⟨c10,c11,c12,c13⟩,hp1,hk1,⟨c20,c21,c22,c23⟩,hp2,hk2,-⟩:=hx
 have X1:=Lib.hid (show ExAt w b1 o1 a1 k1 from ⟨hp1,hk1⟩)
 have X2:=Lib.hid (show ExAt w b2 o2 a2 k2 from ⟨hp2,hk2⟩)
 have c20:w.cell? ⟨b,o+4,none⟩=some (.int .i64 a2.op):=c20
 have c21:w.cell? ⟨b,o+5,none⟩=some (.int .i64 a2.num):=c21
 have c22:w.cell? ⟨b,o+6,none⟩=some (.string a2.name):=c22
 have c23:w.cell? ⟨b,o+7,none⟩=some (.slice a2.ptr (len k2) a2.cap):=c23
 clear hp1 hk1 hp2 hk2
 have hg:=block_lt_of_cell c10
 simp at hg
 have:b≠w.heap.size:=by omega
 have:b≠w.heap.size+1:=by omega
 have:b≠w.heap.size+1+1:=by omega
 have:b≠w.heap.size+1+1+1:=by omega
 have:b≠w.heap.size+2:=by omega
 have:b≠w.heap.size+3:=by omega
 have:b < w.heap.size+1:=by omega
 have:b < w.heap.size+1+1:=by omega
 have:b < w.heap.size+1+1+1:=by omega
 go_enter Tryz.func89,Tryz.ntmps89
 have J:Hid (R=if zeroB (ec ⟨b2,o2,a2,k2⟩)=true then ec ⟨b1,o1,a1,k1⟩ else if true=true∧zeroB (ec ⟨b1,o1,a1,k1⟩)=true then ec ⟨b2,o2,a2,k2⟩ else nE 8 [ec ⟨b1,o1,a1,k1⟩,ec ⟨b2,o2,a2,k2⟩]):=HR.out.symm
 have D1:Hid (zeroB (ec ⟨b1,o1,a1,k1⟩)=decide ((a1.op=1∨a1.op=2)∧a1.num=0)):=rfl
 have D2:Hid (zeroB (ec ⟨b2,o2,a2,k2⟩)=decide ((a2.op=1∨a2.op=2)∧a2.num=0)):=rfl
 clear HR
 have hba:Below w.heap.size w ((((w.alloc (.cells #[.int .i64 8,.int .i64 0,.string ⟨#[]⟩,.slice (some ⟨b,o,none⟩) 2 cap] 25)).alloc (.cells #[.int .i64 0,.int .i64 0,.string ⟨#[]⟩,.slice none 0 0] 25)).alloc (.cells #[.int .i64 4,.int .i64 0,.string ⟨#[]⟩,.slice none 0 0] 25)).alloc (.cells #[.int .i64 5,.int .i64 0,.string ⟨#[]⟩,.slice none 0 0] 25)):=(by (repeat (first|exact Below.refl _ _|refine Below.alloc ?_ (by first|exact Nat.le_refl _|(simp<;>omega)) _)))
 have Z2:=Lib.hid (rzero_any a2.op a2.num a2.name a2.ptr (len k2) a2.cap ((((w.alloc (.cells #[.int .i64 8,.int .i64 0,.string ⟨#[]⟩,.slice (some ⟨b,o,none⟩) 2 cap] 25)).alloc (.cells #[.int .i64 0,.int .i64 0,.string ⟨#[]⟩,.slice none 0 0] 25)).alloc (.cells #[.int .i64 4,.int .i64 0,.string ⟨#[]⟩,.slice none 0 0] 25)).alloc (.cells #[.int .i64 5,.int .i64 0,.string ⟨#[]⟩,.slice none 0 0] 25)))
 have Z1:=Lib.hid (fun w=>rzero_any a1.op a1.num a1.name a1.ptr (len k1) a1.cap w)
 have RB0:Hid (BX4 ((((w.alloc (.cells #[.int .i64 8,.int .i64 0,.string ⟨#[]⟩,.slice (some ⟨b,o,none⟩) 2 cap] 25)).alloc (.cells #[.int .i64 0,.int .i64 0,.string ⟨#[]⟩,.slice none 0 0] 25)).alloc (.cells #[.int .i64 4,.int .i64 0,.string ⟨#[]⟩,.slice none 0 0] 25)).alloc (.cells #[.int .i64 5,.int .i64 0,.string ⟨#[]⟩,.slice none 0 0] 25)) (w.heap.size+1) (.int .i64 0) (.int .i64 0) (.string ⟨#[]⟩) (.slice none 0 0)):=by
  refine ⟨?_,?_,?_,?_,?_,?_,?_,?_,?_⟩<;>simp [go_sem]
 have YB0:Hid (BX4 ((((w.alloc (.cells #[.int .i64 8,.int .i64 0,.string ⟨#[]⟩,.slice (some ⟨b,o,none⟩) 2 cap] 25)).alloc (.cells #[.int .i64 0,.int .i64 0,.string ⟨#[]⟩,.slice none 0 0] 25)).alloc (.cells #[.int .i64 4,.int .i64 0,.string ⟨#[]⟩,.slice none 0 0] 25)).alloc (.cells #[.int .i64 5,.int .i64 0,.string ⟨#[]⟩,.slice none 0 0] 25)) w.heap.size (.int .i64 8) (.int .i64 0) (.string ⟨#[]⟩) (.slice (some ⟨b,o,none⟩) 2 cap)):=by
  refine ⟨?_,?_,?_,?_,?_,?_,?_,?_,?_⟩<;>simp [go_sem]
 have XW:=Lib.hid (XX.out.next hba)
 have HBA:=Lib.hid hba
 clear hba
 go_wp2_with (fail)
 refine Z2.out.mono ?_
 rintro e w2 ⟨rfl,hb⟩
 rw [← D2.out]
 have RB:=Lib.hid (RB0.out.next hb)
 have YB:=Lib.hid (YB0.out.next hb)
 have HB:=Lib.hid (HBA.out.trans (hb.mono HBA.out.size))
 have FX:FoAt w2 (.node b1 o1 a1 k1 (.node b2 o2 a2 k2 .nil)) b o:=XX.out.next HB.out
 obtain ⟨⟨c10,c11,c12,c13⟩,-,-,⟨c20,c21,c22,c23⟩,-,-,-⟩:=FX
 have c21:w2.cell? ⟨b,o+5,none⟩=some (.int .i64 a2.num):=c21
 have c22:w2.cell? ⟨b,o+6,none⟩=some (.string a2.name):=c22
 have c23:w2.cell? ⟨b,o+7,none⟩=some (.slice a2.ptr (len k2) a2.cap):=c23
 clear hb RB0 YB0 HBA Z2
 obtain ⟨x0,x1,x2,x3,-,-,-,-,-⟩:=YB.out
 obtain ⟨r0,r1,r2,r3,f0,f1,f2,f3,-⟩:=RB.out
 by_cases h2:zeroB (ec ⟨b2,o2,a2,k2⟩)=true
 · have e:Hid (R=ec ⟨b1,o1,a1,k1⟩):=by unfold Hid;rw [J.out,if_pos h2]
   rw [h2]
   clear J h2 D1 D2
   go_wp2
   refine bodyPost_ret (v:=.agg #[.int .i64 a1.op,.int .i64 a1.num,.string a1.name,.slice a1.ptr (len k1) a1.cap]) ?_ rfl (ReP.mk ⟨b1,o1,a1,k1⟩ (set4_below HB.out (by omega)) (e.out.symm) (fun hB=>X1.out.next hB) (AV.out.2.1))
   rw [results_cell1 rfl];go_simp
 · have e2:zeroB (ec ⟨b2,o2,a2,k2⟩)=false:=by simpa using h2
   rw [e2]
   have J2:Hid (R=if zeroB (ec ⟨b1,o1,a1,k1⟩)=true then ec ⟨b2,o2,a2,k2⟩ else nE 8 [ec ⟨b1,o1,a1,k1⟩,ec ⟨b2,o2,a2,k2⟩]):=by unfold Hid;rw [J.out,if_neg h2];simp
   clear J h2 e2 D2
   go_wp2_with (fail)
   refine (Z1.out w2).mono ?_
   rintro e w3 ⟨rfl,hb⟩
   rw [← D1.out]
   have RC:=Lib.hid (RB.out.next hb)
   have YC:=Lib.hid (YB.out.next hb)
   have HC:=Lib.hid (HB.out.trans (hb.mono HB.out.size))
   clear c10 c11 c12 c13 c20 c21 c22 c23
   have FX:FoAt w3 (.node b1 o1 a1 k1 (.node b2 o2 a2 k2 .nil)) b o:=XX.out.next HC.out
   obtain ⟨⟨c10,c11,c12,c13⟩,-,-,⟨c20,c21,c22,c23⟩,-,-,-⟩:=FX
   have c21:w3.cell? ⟨b,o+5,none⟩=some (.int .i64 a2.num):=c21
   have c22:w3.cell? ⟨b,o+6,none⟩=some (.string a2.name):=c22
   have c23:w3.cell? ⟨b,o+7,none⟩=some (.slice a2.ptr (len k2) a2.cap):=c23
   clear hb x0 x1 x2 x3 r0 r1 r2 r3 f0 f1 f2 f3
   obtain ⟨x0,x1,x2,x3,-,-,-,-,-⟩:=YC.out
   obtain ⟨r0,r1,r2,r3,f0,f1,f2,f3,-⟩:=RC.out
   by_cases h1:zeroB (ec ⟨b1,o1,a1,k1⟩)=true
   · have e:Hid (R=ec ⟨b2,o2,a2,k2⟩):=by unfold Hid;rw [J2.out,if_pos h1]
     rw [h1]
     clear J2 h1 D1
     go_wp2
     refine bodyPost_ret (v:=.agg #[.int .i64 a2.op,.int .i64 a2.num,.string a2.name,.slice a2.ptr (len k2) a2.cap]) ?_ rfl (ReP.mk ⟨b2,o2,a2,k2⟩ (set4_below HC.out (by omega)) (e.out.symm) (fun hB=>X2.out.next hB) (AV.out.2.2.2.1))
     rw [results_cell1 rfl];go_simp
   · have e1:zeroB (ec ⟨b1,o1,a1,k1⟩)=false:=by simpa using h1
     have e:Hid (R=nE 8 [ec ⟨b1,o1,a1,k1⟩,ec ⟨b2,o2,a2,k2⟩]):=by unfold Hid;rw [J2.out,if_neg h1]
     rw [e1]
     clear J2 h1 D1 e1
     go_wp2
     refine bodyPost_ret (v:=.agg #[.int .i64 8,.int .i64 0,.string ⟨#[]⟩,.slice (some ⟨b,o,none⟩) 2 cap]) ?_ rfl (ReP.mk ⟨b,o,⟨8,0,⟨#[]⟩,some ⟨b,o,none⟩,cap⟩,(.node b1 o1 a1 k1 (.node b2 o2 a2 k2 .nil))⟩ (set4_below HC.out (by omega)) (e.out.symm) (fun hB=>⟨fun _=>rfl,XX.out.next hB⟩) (AV.out))
     rw [results_cell1 rfl];go_simp
set_option maxHeartbeats 4000000 in
set_option maxRecDepth 100000 in
theorem rred9_any (Av:Nat→Prop) (b o cap:Nat) (b1 o1:Nat) (a1:Nd) (k1:Fo) (b2 o2:Nat) (a2:Nd) (k2:Fo) (w:World) (hx:FoAt w (.node b1 o1 a1 k1 (.node b2 o2 a2 k2 .nil)) b o) (ha:FoAv Av (.node b1 o1 a1 k1 (.node b2 o2 a2 k2 .nil)) b) (hfree:∀ g,w.heap.size≤g→Av g) :
 Calls Tryz.prog 89 #[.agg #[.int .i64 9,.int .i64 0,.string ⟨#[]⟩,.slice (some ⟨b,o,none⟩) 2 cap]] w (ReP w Av (neutE 9 zeroB false [ec ⟨b1,o1,a1,k1⟩,ec ⟨b2,o2,a2,k2⟩])):=by
 have XX:=Lib.hid hx
 have AV:=Lib.hid ha
 have HF:=Lib.hid hfree
 obtain ⟨R,hR⟩:∃ R,(neutE 9 zeroB false [ec ⟨b1,o1,a1,k1⟩,ec ⟨b2,o2,a2,k2⟩])=R:=⟨_,rfl⟩
 have HR:=Lib.hid hR
 rw [hR]
 clear hR hfree ha
 obtain ⟨⟨c10,c11,c12,c13⟩,hp1,hk1,⟨c20,c21,c22,c23⟩,hp2,hk2,-⟩:=hx
 have X1:=Lib.hid (show ExAt w b1 o1 a1 k1 from ⟨hp1,hk1⟩)
 have X2:=Lib.hid (show ExAt w b2 o2 a2 k2 from ⟨hp2,hk2⟩)
 have c20:w.cell? ⟨b,o+4,none⟩=some (.int .i64 a2.op):=c20
 have c21:w.cell? ⟨b,o+5,none⟩=some (.int .i64 a2.num):=c21
 have c22:w.cell? ⟨b,o+6,none⟩=some (.string a2.name):=c22
 have c23:w.cell? ⟨b,o+7,none⟩=some (.slice a2.ptr (len k2) a2.cap):=c23
 clear hp1 hk1 hp2 hk2
 have hg:=block_lt_of_cell c10
 simp at hg
 have:b≠w.heap.size:=by omega
 have:b≠w.heap.size+1:=by omega
 have:b≠w.heap.size+1+1:=by omega
 have:b≠w.heap.size+1+1+1:=by omega
 have:b≠w.heap.size+2:=by omega
 have:b≠w.heap.size+3:=by omega
 have:b < w.heap.size+1:=by omega
 have:b < w.heap.size+1+1:=by omega
 have:b < w.heap.size+1+1+1:=by omega
 go_enter Tryz.func89,Tryz.ntmps89
 have J:Hid (R=if zeroB (ec ⟨b2,o2,a2,k2⟩)=true then ec ⟨b1,o1,a1,k1⟩ else if false=true∧zeroB (ec ⟨b1,o1,a1,k1⟩)=true then ec ⟨b2,o2,a2,k2⟩ else nE 9 [ec ⟨b1,o1,a1,k1⟩,ec ⟨b2,o2,a2,k2⟩]):=HR.out.symm
 have D1:Hid (zeroB (ec ⟨b1,o1,a1,k1⟩)=decide ((a1.op=1∨a1.op=2)∧a1.num=0)):=rfl
 have D2:Hid (zeroB (ec ⟨b2,o2,a2,k2⟩)=decide ((a2.op=1∨a2.op=2)∧a2.num=0)):=rfl
 clear HR
 have hba:Below w.heap.size w ((((w.alloc (.cells #[.int .i64 9,.int .i64 0,.string ⟨#[]⟩,.slice (some ⟨b,o,none⟩) 2 cap] 25)).alloc (.cells #[.int .i64 0,.int .i64 0,.string ⟨#[]⟩,.slice none 0 0] 25)).alloc (.cells #[.int .i64 4,.int .i64 0,.string ⟨#[]⟩,.slice none 0 0] 25)).alloc (.cells #[.int .i64 5,.int .i64 0,.string ⟨#[]⟩,.slice none 0 0] 25)):=(by (repeat (first|exact Below.refl _ _|refine Below.alloc ?_ (by first|exact Nat.le_refl _|(simp<;>omega)) _)))
 have Z2:=Lib.hid (rzero_any a2.op a2.num a2.name a2.ptr (len k2) a2.cap ((((w.alloc (.cells #[.int .i64 9,.int .i64 0,.string ⟨#[]⟩,.slice (some ⟨b,o,none⟩) 2 cap] 25)).alloc (.cells #[.int .i64 0,.int .i64 0,.string ⟨#[]⟩,.slice none 0 0] 25)).alloc (.cells #[.int .i64 4,.int .i64 0,.string ⟨#[]⟩,.slice none 0 0] 25)).alloc (.cells #[.int .i64 5,.int .i64 0,.string ⟨#[]⟩,.slice none 0 0] 25)))
 have Z1:=Lib.hid (fun w=>rzero_any a1.op a1.num a1.name a1.ptr (len k1) a1.cap w)
 have RB0:Hid (BX4 ((((w.alloc (.cells #[.int .i64 9,.int .i64 0,.string ⟨#[]⟩,.slice (some ⟨b,o,none⟩) 2 cap] 25)).alloc (.cells #[.int .i64 0,.int .i64 0,.string ⟨#[]⟩,.slice none 0 0] 25)).alloc (.cells #[.int .i64 4,.int .i64 0,.string ⟨#[]⟩,.slice none 0 0] 25)).alloc (.cells #[.int .i64 5,.int .i64 0,.string ⟨#[]⟩,.slice none 0 0] 25)) (w.heap.size+1) (.int .i64 0) (.int .i64 0) (.string ⟨#[]⟩) (.slice none 0 0)):=by
  refine ⟨?_,?_,?_,?_,?_,?_,?_,?_,?_⟩<;>simp [go_sem]
 have YB0:Hid (BX4 ((((w.alloc (.cells #[.int .i64 9,.int .i64 0,.string ⟨#[]⟩,.slice (some ⟨b,o,none⟩) 2 cap] 25)).alloc (.cells #[.int .i64 0,.int .i64 0,.string ⟨#[]⟩,.slice none 0 0] 25)).alloc (.cells #[.int .i64 4,.int .i64 0,.string ⟨#[]⟩,.slice none 0 0] 25)).alloc (.cells #[.int .i64 5,.int .i64 0,.string ⟨#[]⟩,.slice none 0 0] 25)) w.heap.size (.int .i64 9) (.int .i64 0) (.string ⟨#[]⟩) (.slice (some ⟨b,o,none⟩) 2 cap)):=by
  refine ⟨?_,?_,?_,?_,?_,?_,?_,?_,?_⟩<;>simp [go_sem]
 have XW:=Lib.hid (XX.out.next hba)
 have HBA:=Lib.hid hba
 clear hba
 go_wp2_with (fail)
 refine Z2.out.mono ?_
 rintro e w2 ⟨rfl,hb⟩
 rw [← D2.out]
 have RB:=Lib.hid (RB0.out.next hb)
 have YB:=Lib.hid (YB0.out.next hb)
 have HB:=Lib.hid (HBA.out.trans (hb.mono HBA.out.size))
 have FX:FoAt w2 (.node b1 o1 a1 k1 (.node b2 o2 a2 k2 .nil)) b o:=XX.out.next HB.out
 obtain ⟨⟨c10,c11,c12,c13⟩,-,-,⟨c20,c21,c22,c23⟩,-,-,-⟩:=FX
 have c21:w2.cell? ⟨b,o+5,none⟩=some (.int .i64 a2.num):=c21
 have c22:w2.cell? ⟨b,o+6,none⟩=some (.string a2.name):=c22
 have c23:w2.cell? ⟨b,o+7,none⟩=some (.slice a2.ptr (len k2) a2.cap):=c23
 clear hb RB0 YB0 HBA Z2
 obtain ⟨x0,x1,x2,x3,-,-,-,-,-⟩:=YB.out
 obtain ⟨r0,r1,r2,r3,f0,f1,f2,f3,-⟩:=RB.out
 by_cases h2:zeroB (ec ⟨b2,o2,a2,k2⟩)=true
 · have e:Hid (R=ec ⟨b1,o1,a1,k1⟩):=by unfold Hid;rw [J.out,if_pos h2]
   rw [h2]
   clear J h2 D1 D2
   go_wp2
   refine bodyPost_ret (v:=.agg #[.int .i64 a1.op,.int .i64 a1.num,.string a1.name,.slice a1.ptr (len k1) a1.cap]) ?_ rfl (ReP.mk ⟨b1,o1,a1,k1⟩ (set4_below HB.out (by omega)) (e.out.symm) (fun hB=>X1.out.next hB) (AV.out.2.1))
   rw [results_cell1 rfl];go_simp
 · have e2:zeroB (ec ⟨b2,o2,a2,k2⟩)=false:=by simpa using h2
   rw [e2]
   have e:Hid (R=nE 9 [ec ⟨b1,o1,a1,k1⟩,ec ⟨b2,o2,a2,k2⟩]):=by unfold Hid;rw [J.out,if_neg h2];simp
   clear J h2 e2 D2 D1
   go_wp2
   refine bodyPost_ret (v:=.agg #[.int .i64 9,.int .i64 0,.string ⟨#[]⟩,.slice (some ⟨b,o,none⟩) 2 cap]) ?_ rfl (ReP.mk ⟨b,o,⟨9,0,⟨#[]⟩,some ⟨b,o,none⟩,cap⟩,(.node b1 o1 a1 k1 (.node b2 o2 a2 k2 .nil))⟩ (set4_below HB.out (by omega)) (e.out.symm) (fun hB=>⟨fun _=>rfl,XX.out.next hB⟩) (AV.out))
   rw [results_cell1 rfl];go_simp
set_option maxHeartbeats 4000000 in
set_option maxRecDepth 100000 in
theorem rred10_any (Av:Nat→Prop) (b o cap:Nat) (b1 o1:Nat) (a1:Nd) (k1:Fo) (b2 o2:Nat) (a2:Nd) (k2:Fo) (w:World) (hx:FoAt w (.node b1 o1 a1 k1 (.node b2 o2 a2 k2 .nil)) b o) (ha:FoAv Av (.node b1 o1 a1 k1 (.node b2 o2 a2 k2 .nil)) b) (hfree:∀ g,w.heap.size≤g→Av g) :
 Calls Tryz.prog 89 #[.agg #[.int .i64 10,.int .i64 0,.string ⟨#[]⟩,.slice (some ⟨b,o,none⟩) 2 cap]] w (ReP w Av (neutE 10 unitB true [ec ⟨b1,o1,a1,k1⟩,ec ⟨b2,o2,a2,k2⟩])):=by
 have XX:=Lib.hid hx
 have AV:=Lib.hid ha
 have HF:=Lib.hid hfree
 obtain ⟨R,hR⟩:∃ R,(neutE 10 unitB true [ec ⟨b1,o1,a1,k1⟩,ec ⟨b2,o2,a2,k2⟩])=R:=⟨_,rfl⟩
 have HR:=Lib.hid hR
 rw [hR]
 clear hR hfree ha
 obtain ⟨⟨c10,c11,c12,c13⟩,hp1,hk1,⟨c20,c21,c22,c23⟩,hp2,hk2,-⟩:=hx
 have X1:=Lib.hid (show ExAt w b1 o1 a1 k1 from ⟨hp1,hk1⟩)
 have X2:=Lib.hid (show ExAt w b2 o2 a2 k2 from ⟨hp2,hk2⟩)
 have c20:w.cell? ⟨b,o+4,none⟩=some (.int .i64 a2.op):=c20
 have c21:w.cell? ⟨b,o+5,none⟩=some (.int .i64 a2.num):=c21
 have c22:w.cell? ⟨b,o+6,none⟩=some (.string a2.name):=c22
 have c23:w.cell? ⟨b,o+7,none⟩=some (.slice a2.ptr (len k2) a2.cap):=c23
 clear hp1 hk1 hp2 hk2
 have hg:=block_lt_of_cell c10
 simp at hg
 have:b≠w.heap.size:=by omega
 have:b≠w.heap.size+1:=by omega
 have:b≠w.heap.size+1+1:=by omega
 have:b≠w.heap.size+1+1+1:=by omega
 have:b≠w.heap.size+2:=by omega
 have:b≠w.heap.size+3:=by omega
 have:b < w.heap.size+1:=by omega
 have:b < w.heap.size+1+1:=by omega
 have:b < w.heap.size+1+1+1:=by omega
 go_enter Tryz.func89,Tryz.ntmps89
 have J:Hid (R=if unitB (ec ⟨b2,o2,a2,k2⟩)=true then ec ⟨b1,o1,a1,k1⟩ else if true=true∧unitB (ec ⟨b1,o1,a1,k1⟩)=true then ec ⟨b2,o2,a2,k2⟩ else nE 10 [ec ⟨b1,o1,a1,k1⟩,ec ⟨b2,o2,a2,k2⟩]):=HR.out.symm
 have D1:Hid (unitB (ec ⟨b1,o1,a1,k1⟩)=decide (a1.op=1∧a1.num=1)):=rfl
 have D2:Hid (unitB (ec ⟨b2,o2,a2,k2⟩)=decide (a2.op=1∧a2.num=1)):=rfl
 clear HR
 have hba:Below w.heap.size w ((((w.alloc (.cells #[.int .i64 10,.int .i64 0,.string ⟨#[]⟩,.slice (some ⟨b,o,none⟩) 2 cap] 25)).alloc (.cells #[.int .i64 0,.int .i64 0,.string ⟨#[]⟩,.slice none 0 0] 25)).alloc (.cells #[.int .i64 4,.int .i64 0,.string ⟨#[]⟩,.slice none 0 0] 25)).alloc (.cells #[.int .i64 5,.int .i64 0,.string ⟨#[]⟩,.slice none 0 0] 25)):=(by (repeat (first|exact Below.refl _ _|refine Below.alloc ?_ (by first|exact Nat.le_refl _|(simp<;>omega)) _)))
 have Z2:=Lib.hid (runit_any a2.op a2.num a2.name a2.ptr (len k2) a2.cap ((((w.alloc (.cells #[.int .i64 10,.int .i64 0,.string ⟨#[]⟩,.slice (some ⟨b,o,none⟩) 2 cap] 25)).alloc (.cells #[.int .i64 0,.int .i64 0,.string ⟨#[]⟩,.slice none 0 0] 25)).alloc (.cells #[.int .i64 4,.int .i64 0,.string ⟨#[]⟩,.slice none 0 0] 25)).alloc (.cells #[.int .i64 5,.int .i64 0,.string ⟨#[]⟩,.slice none 0 0] 25)))
 have Z1:=Lib.hid (fun w=>runit_any a1.op a1.num a1.name a1.ptr (len k1) a1.cap w)
 have RB0:Hid (BX4 ((((w.alloc (.cells #[.int .i64 10,.int .i64 0,.string ⟨#[]⟩,.slice (some ⟨b,o,none⟩) 2 cap] 25)).alloc (.cells #[.int .i64 0,.int .i64 0,.string ⟨#[]⟩,.slice none 0 0] 25)).alloc (.cells #[.int .i64 4,.int .i64 0,.string ⟨#[]⟩,.slice none 0 0] 25)).alloc (.cells #[.int .i64 5,.int .i64 0,.string ⟨#[]⟩,.slice none 0 0] 25)) (w.heap.size+1) (.int .i64 0) (.int .i64 0) (.string ⟨#[]⟩) (.slice none 0 0)):=by
  refine ⟨?_,?_,?_,?_,?_,?_,?_,?_,?_⟩<;>simp [go_sem]
 have YB0:Hid (BX4 ((((w.alloc (.cells #[.int .i64 10,.int .i64 0,.string ⟨#[]⟩,.slice (some ⟨b,o,none⟩) 2 cap] 25)).alloc (.cells #[.int .i64 0,.int .i64 0,.string ⟨#[]⟩,.slice none 0 0] 25)).alloc (.cells #[.int .i64 4,.int .i64 0,.string ⟨#[]⟩,.slice none 0 0] 25)).alloc (.cells #[.int .i64 5,.int .i64 0,.string ⟨#[]⟩,.slice none 0 0] 25)) w.heap.size (.int .i64 10) (.int .i64 0) (.string ⟨#[]⟩) (.slice (some ⟨b,o,none⟩) 2 cap)):=by
  refine ⟨?_,?_,?_,?_,?_,?_,?_,?_,?_⟩<;>simp [go_sem]
 have XW:=Lib.hid (XX.out.next hba)
 have HBA:=Lib.hid hba
 clear hba
 go_wp2_with (fail)
 refine Z2.out.mono ?_
 rintro e w2 ⟨rfl,hb⟩
 rw [← D2.out]
 have RB:=Lib.hid (RB0.out.next hb)
 have YB:=Lib.hid (YB0.out.next hb)
 have HB:=Lib.hid (HBA.out.trans (hb.mono HBA.out.size))
 have FX:FoAt w2 (.node b1 o1 a1 k1 (.node b2 o2 a2 k2 .nil)) b o:=XX.out.next HB.out
 obtain ⟨⟨c10,c11,c12,c13⟩,-,-,⟨c20,c21,c22,c23⟩,-,-,-⟩:=FX
 have c21:w2.cell? ⟨b,o+5,none⟩=some (.int .i64 a2.num):=c21
 have c22:w2.cell? ⟨b,o+6,none⟩=some (.string a2.name):=c22
 have c23:w2.cell? ⟨b,o+7,none⟩=some (.slice a2.ptr (len k2) a2.cap):=c23
 clear hb RB0 YB0 HBA Z2
 obtain ⟨x0,x1,x2,x3,-,-,-,-,-⟩:=YB.out
 obtain ⟨r0,r1,r2,r3,f0,f1,f2,f3,-⟩:=RB.out
 by_cases h2:unitB (ec ⟨b2,o2,a2,k2⟩)=true
 · have e:Hid (R=ec ⟨b1,o1,a1,k1⟩):=by unfold Hid;rw [J.out,if_pos h2]
   rw [h2]
   clear J h2 D1 D2
   go_wp2
   refine bodyPost_ret (v:=.agg #[.int .i64 a1.op,.int .i64 a1.num,.string a1.name,.slice a1.ptr (len k1) a1.cap]) ?_ rfl (ReP.mk ⟨b1,o1,a1,k1⟩ (set4_below HB.out (by omega)) (e.out.symm) (fun hB=>X1.out.next hB) (AV.out.2.1))
   rw [results_cell1 rfl];go_simp
 · have e2:unitB (ec ⟨b2,o2,a2,k2⟩)=false:=by simpa using h2
   rw [e2]
   have J2:Hid (R=if unitB (ec ⟨b1,o1,a1,k1⟩)=true then ec ⟨b2,o2,a2,k2⟩ else nE 10 [ec ⟨b1,o1,a1,k1⟩,ec ⟨b2,o2,a2,k2⟩]):=by unfold Hid;rw [J.out,if_neg h2];simp
   clear J h2 e2 D2
   go_wp2_with (fail)
   refine (Z1.out w2).mono ?_
   rintro e w3 ⟨rfl,hb⟩
   rw [← D1.out]
   have RC:=Lib.hid (RB.out.next hb)
   have YC:=Lib.hid (YB.out.next hb)
   have HC:=Lib.hid (HB.out.trans (hb.mono HB.out.size))
   clear c10 c11 c12 c13 c20 c21 c22 c23
   have FX:FoAt w3 (.node b1 o1 a1 k1 (.node b2 o2 a2 k2 .nil)) b o:=XX.out.next HC.out
   obtain ⟨⟨c10,c11,c12,c13⟩,-,-,⟨c20,c21,c22,c23⟩,-,-,-⟩:=FX
   have c21:w3.cell? ⟨b,o+5,none⟩=some (.int .i64 a2.num):=c21
   have c22:w3.cell? ⟨b,o+6,none⟩=some (.string a2.name):=c22
   have c23:w3.cell? ⟨b,o+7,none⟩=some (.slice a2.ptr (len k2) a2.cap):=c23
   clear hb x0 x1 x2 x3 r0 r1 r2 r3 f0 f1 f2 f3
   obtain ⟨x0,x1,x2,x3,-,-,-,-,-⟩:=YC.out
   obtain ⟨r0,r1,r2,r3,f0,f1,f2,f3,-⟩:=RC.out
   by_cases h1:unitB (ec ⟨b1,o1,a1,k1⟩)=true
   · have e:Hid (R=ec ⟨b2,o2,a2,k2⟩):=by unfold Hid;rw [J2.out,if_pos h1]
     rw [h1]
     clear J2 h1 D1
     go_wp2
     refine bodyPost_ret (v:=.agg #[.int .i64 a2.op,.int .i64 a2.num,.string a2.name,.slice a2.ptr (len k2) a2.cap]) ?_ rfl (ReP.mk ⟨b2,o2,a2,k2⟩ (set4_below HC.out (by omega)) (e.out.symm) (fun hB=>X2.out.next hB) (AV.out.2.2.2.1))
     rw [results_cell1 rfl];go_simp
   · have e1:unitB (ec ⟨b1,o1,a1,k1⟩)=false:=by simpa using h1
     have e:Hid (R=nE 10 [ec ⟨b1,o1,a1,k1⟩,ec ⟨b2,o2,a2,k2⟩]):=by unfold Hid;rw [J2.out,if_neg h1]
     rw [e1]
     clear J2 h1 D1 e1
     go_wp2
     refine bodyPost_ret (v:=.agg #[.int .i64 10,.int .i64 0,.string ⟨#[]⟩,.slice (some ⟨b,o,none⟩) 2 cap]) ?_ rfl (ReP.mk ⟨b,o,⟨10,0,⟨#[]⟩,some ⟨b,o,none⟩,cap⟩,(.node b1 o1 a1 k1 (.node b2 o2 a2 k2 .nil))⟩ (set4_below HC.out (by omega)) (e.out.symm) (fun hB=>⟨fun _=>rfl,XX.out.next hB⟩) (AV.out))
     rw [results_cell1 rfl];go_simp
set_option maxHeartbeats 4000000 in
set_option maxRecDepth 100000 in
theorem rred11_any (Av:Nat→Prop) (b o cap:Nat) (b1 o1:Nat) (a1:Nd) (k1:Fo) (b2 o2:Nat) (a2:Nd) (k2:Fo) (w:World) (hx:FoAt w (.node b1 o1 a1 k1 (.node b2 o2 a2 k2 .nil)) b o) (ha:FoAv Av (.node b1 o1 a1 k1 (.node b2 o2 a2 k2 .nil)) b) (hfree:∀ g,w.heap.size≤g→Av g) :
 Calls Tryz.prog 89 #[.agg #[.int .i64 11,.int .i64 0,.string ⟨#[]⟩,.slice (some ⟨b,o,none⟩) 2 cap]] w (ReP w Av (neutE 11 unitB false [ec ⟨b1,o1,a1,k1⟩,ec ⟨b2,o2,a2,k2⟩])):=by
 have XX:=Lib.hid hx
 have AV:=Lib.hid ha
 have HF:=Lib.hid hfree
 obtain ⟨R,hR⟩:∃ R,(neutE 11 unitB false [ec ⟨b1,o1,a1,k1⟩,ec ⟨b2,o2,a2,k2⟩])=R:=⟨_,rfl⟩
 have HR:=Lib.hid hR
 rw [hR]
 clear hR hfree ha
 obtain ⟨⟨c10,c11,c12,c13⟩,hp1,hk1,⟨c20,c21,c22,c23⟩,hp2,hk2,-⟩:=hx
 have X1:=Lib.hid (show ExAt w b1 o1 a1 k1 from ⟨hp1,hk1⟩)
 have X2:=Lib.hid (show ExAt w b2 o2 a2 k2 from ⟨hp2,hk2⟩)
 have c20:w.cell? ⟨b,o+4,none⟩=some (.int .i64 a2.op):=c20
 have c21:w.cell? ⟨b,o+5,none⟩=some (.int .i64 a2.num):=c21
 have c22:w.cell? ⟨b,o+6,none⟩=some (.string a2.name):=c22
 have c23:w.cell? ⟨b,o+7,none⟩=some (.slice a2.ptr (len k2) a2.cap):=c23
 clear hp1 hk1 hp2 hk2
 have hg:=block_lt_of_cell c10
 simp at hg
 have:b≠w.heap.size:=by omega
 have:b≠w.heap.size+1:=by omega
 have:b≠w.heap.size+1+1:=by omega
 have:b≠w.heap.size+1+1+1:=by omega
 have:b≠w.heap.size+2:=by omega
 have:b≠w.heap.size+3:=by omega
 have:b < w.heap.size+1:=by omega
 have:b < w.heap.size+1+1:=by omega
 have:b < w.heap.size+1+1+1:=by omega
 go_enter Tryz.func89,Tryz.ntmps89
 have J:Hid (R=if unitB (ec ⟨b2,o2,a2,k2⟩)=true then ec ⟨b1,o1,a1,k1⟩ else if false=true∧unitB (ec ⟨b1,o1,a1,k1⟩)=true then ec ⟨b2,o2,a2,k2⟩ else nE 11 [ec ⟨b1,o1,a1,k1⟩,ec ⟨b2,o2,a2,k2⟩]):=HR.out.symm
 have D1:Hid (unitB (ec ⟨b1,o1,a1,k1⟩)=decide (a1.op=1∧a1.num=1)):=rfl
 have D2:Hid (unitB (ec ⟨b2,o2,a2,k2⟩)=decide (a2.op=1∧a2.num=1)):=rfl
 clear HR
 have hba:Below w.heap.size w ((((w.alloc (.cells #[.int .i64 11,.int .i64 0,.string ⟨#[]⟩,.slice (some ⟨b,o,none⟩) 2 cap] 25)).alloc (.cells #[.int .i64 0,.int .i64 0,.string ⟨#[]⟩,.slice none 0 0] 25)).alloc (.cells #[.int .i64 4,.int .i64 0,.string ⟨#[]⟩,.slice none 0 0] 25)).alloc (.cells #[.int .i64 5,.int .i64 0,.string ⟨#[]⟩,.slice none 0 0] 25)):=(by (repeat (first|exact Below.refl _ _|refine Below.alloc ?_ (by first|exact Nat.le_refl _|(simp<;>omega)) _)))
 have Z2:=Lib.hid (runit_any a2.op a2.num a2.name a2.ptr (len k2) a2.cap ((((w.alloc (.cells #[.int .i64 11,.int .i64 0,.string ⟨#[]⟩,.slice (some ⟨b,o,none⟩) 2 cap] 25)).alloc (.cells #[.int .i64 0,.int .i64 0,.string ⟨#[]⟩,.slice none 0 0] 25)).alloc (.cells #[.int .i64 4,.int .i64 0,.string ⟨#[]⟩,.slice none 0 0] 25)).alloc (.cells #[.int .i64 5,.int .i64 0,.string ⟨#[]⟩,.slice none 0 0] 25)))
 have Z1:=Lib.hid (fun w=>runit_any a1.op a1.num a1.name a1.ptr (len k1) a1.cap w)
 have RB0:Hid (BX4 ((((w.alloc (.cells #[.int .i64 11,.int .i64 0,.string ⟨#[]⟩,.slice (some ⟨b,o,none⟩) 2 cap] 25)).alloc (.cells #[.int .i64 0,.int .i64 0,.string ⟨#[]⟩,.slice none 0 0] 25)).alloc (.cells #[.int .i64 4,.int .i64 0,.string ⟨#[]⟩,.slice none 0 0] 25)).alloc (.cells #[.int .i64 5,.int .i64 0,.string ⟨#[]⟩,.slice none 0 0] 25)) (w.heap.size+1) (.int .i64 0) (.int .i64 0) (.string ⟨#[]⟩) (.slice none 0 0)):=by
  refine ⟨?_,?_,?_,?_,?_,?_,?_,?_,?_⟩<;>simp [go_sem]
 have YB0:Hid (BX4 ((((w.alloc (.cells #[.int .i64 11,.int .i64 0,.string ⟨#[]⟩,.slice (some ⟨b,o,none⟩) 2 cap] 25)).alloc (.cells #[.int .i64 0,.int .i64 0,.string ⟨#[]⟩,.slice none 0 0] 25)).alloc (.cells #[.int .i64 4,.int .i64 0,.string ⟨#[]⟩,.slice none 0 0] 25)).alloc (.cells #[.int .i64 5,.int .i64 0,.string ⟨#[]⟩,.slice none 0 0] 25)) w.heap.size (.int .i64 11) (.int .i64 0) (.string ⟨#[]⟩) (.slice (some ⟨b,o,none⟩) 2 cap)):=by
  refine ⟨?_,?_,?_,?_,?_,?_,?_,?_,?_⟩<;>simp [go_sem]
 have XW:=Lib.hid (XX.out.next hba)
 have HBA:=Lib.hid hba
 clear hba
 go_wp2_with (fail)
 refine Z2.out.mono ?_
 rintro e w2 ⟨rfl,hb⟩
 rw [← D2.out]
 have RB:=Lib.hid (RB0.out.next hb)
 have YB:=Lib.hid (YB0.out.next hb)
 have HB:=Lib.hid (HBA.out.trans (hb.mono HBA.out.size))
 have FX:FoAt w2 (.node b1 o1 a1 k1 (.node b2 o2 a2 k2 .nil)) b o:=XX.out.next HB.out
 obtain ⟨⟨c10,c11,c12,c13⟩,-,-,⟨c20,c21,c22,c23⟩,-,-,-⟩:=FX
 have c21:w2.cell? ⟨b,o+5,none⟩=some (.int .i64 a2.num):=c21
 have c22:w2.cell? ⟨b,o+6,none⟩=some (.string a2.name):=c22
 have c23:w2.cell? ⟨b,o+7,none⟩=some (.slice a2.ptr (len k2) a2.cap):=c23
 clear hb RB0 YB0 HBA Z2
 obtain ⟨x0,x1,x2,x3,-,-,-,-,-⟩:=YB.out
 obtain ⟨r0,r1,r2,r3,f0,f1,f2,f3,-⟩:=RB.out
 by_cases h2:unitB (ec ⟨b2,o2,a2,k2⟩)=true
 · have e:Hid (R=ec ⟨b1,o1,a1,k1⟩):=by unfold Hid;rw [J.out,if_pos h2]
   rw [h2]
   clear J h2 D1 D2
   go_wp2
   refine bodyPost_ret (v:=.agg #[.int .i64 a1.op,.int .i64 a1.num,.string a1.name,.slice a1.ptr (len k1) a1.cap]) ?_ rfl (ReP.mk ⟨b1,o1,a1,k1⟩ (set4_below HB.out (by omega)) (e.out.symm) (fun hB=>X1.out.next hB) (AV.out.2.1))
   rw [results_cell1 rfl];go_simp
 · have e2:unitB (ec ⟨b2,o2,a2,k2⟩)=false:=by simpa using h2
   rw [e2]
   have e:Hid (R=nE 11 [ec ⟨b1,o1,a1,k1⟩,ec ⟨b2,o2,a2,k2⟩]):=by unfold Hid;rw [J.out,if_neg h2];simp
   clear J h2 e2 D2 D1
   go_wp2
   refine bodyPost_ret (v:=.agg #[.int .i64 11,.int .i64 0,.string ⟨#[]⟩,.slice (some ⟨b,o,none⟩) 2 cap]) ?_ rfl (ReP.mk ⟨b,o,⟨11,0,⟨#[]⟩,some ⟨b,o,none⟩,cap⟩,(.node b1 o1 a1 k1 (.node b2 o2 a2 k2 .nil))⟩ (set4_below HB.out (by omega)) (e.out.symm) (fun hB=>⟨fun _=>rfl,XX.out.next hB⟩) (AV.out))
   rw [results_cell1 rfl];go_simp
set_option maxHeartbeats 4000000 in
set_option maxRecDepth 100000 in
theorem rredoth_any (Av:Nat→Prop) (b o cap:Nat) (op:Int) (k:Fo) (w:World) (hx:FoAt w k b o) (ha:FoAv Av k b) (hop:op≠19∧op≠20∧op≠21∧op≠22∧op≠14∧op≠8∧op≠9∧op≠10∧op≠11) :
 Calls Tryz.prog 89 #[.agg #[.int .i64 op,.int .i64 0,.string ⟨#[]⟩,.slice (some ⟨b,o,none⟩) (len k) cap]] w (ReP w Av (nE op ((kids k).map ec))):=by
 have XX:=Lib.hid hx
 have AV:=Lib.hid ha
 obtain ⟨q19,q20,q21,q22,q14,q8,q9,q10,q11⟩:=hop
 have n19:(op==19)=false:=by simp [q19]
 have n20:(op==20)=false:=by simp [q20]
 have n21:(op==21)=false:=by simp [q21]
 have n22:(op==22)=false:=by simp [q22]
 have n14:(op==14)=false:=by simp [q14]
 have n8:(op==8)=false:=by simp [q8]
 have n9:(op==9)=false:=by simp [q9]
 have n10:(op==10)=false:=by simp [q10]
 have n11:(op==11)=false:=by simp [q11]
 clear hx ha q19 q20 q21 q22 q14 q8 q9 q10 q11
 go_enter Tryz.func89,Tryz.ntmps89
 go_wp2
 refine bodyPost_ret (v:=.agg #[.int .i64 op,.int .i64 0,.string ⟨#[]⟩,.slice (some ⟨b,o,none⟩) (len k) cap]) ?_ rfl (ReP.mk ⟨b,o,⟨op,0,⟨#[]⟩,some ⟨b,o,none⟩,cap⟩,k⟩ (by (repeat (first|exact HB.out|exact Below.refl _ _|refine Below.drew ?_|refine Below.alloc ?_ (by first|exact Nat.le_refl _|(simp<;>omega)) _|refine Below.setCell ?_ (by first|exact Nat.le_refl _|(simp<;>omega)) _))) (by show ec _=nE op ((kids k).map ec);rw [nE,← ef_kids];rfl) (fun hB=>⟨fun _=>rfl,XX.out.next hB⟩) AV.out)
 rw [results_cell1 rfl];go_simp
end Go.Proofs.YtfoedbfkddoibaaGreat
