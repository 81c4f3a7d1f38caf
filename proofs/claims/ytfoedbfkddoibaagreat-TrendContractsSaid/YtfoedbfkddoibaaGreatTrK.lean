import Derived.Test.YtfoedbfkddoibaaGreatVok
import Derived.Test.YtfoedbfkddoibaaGreatTda
import Derived.Test.YtfoedbfkddoibaaGreatTi1
namespace Go.Proofs.YtfoedbfkddoibaaGreat
section
set_option linter.unusedVariables false
set_option linter.unusedSimpArgs false
open Go.ChangeShapes Go.WideShapes Go.ChangeAt Go.RowKit
open Go.Maps (has size IsMap)
open Go.Deep (BT)
theorem CmpX.val {w w':World} {kb ib vb:Nat} {pb:Nat→Nat} {cs:List Cn} {p:Option Addr} {cap:Nat} {f:Nat→Int} (h:CmpX w kb ib vb pb cs p cap f) (hv:VMap Tryz.prog w' f cs.length vb) (hg:w.grownBy w' (some vb)):CmpX w' kb ib vb pb cs p cap f where
 s := {
   c0:=by rw [World.cell?_of_block (hg.block kb h.s.lt (fun e=>h.s.n2 (Option.some.inj e)))];exact h.s.c0
   c1:=by rw [World.cell?_of_block (hg.block kb h.s.lt (fun e=>h.s.n2 (Option.some.inj e)))];exact h.s.c1
   c2:=by rw [World.cell?_of_block (hg.block kb h.s.lt (fun e=>h.s.n2 (Option.some.inj e)))];exact h.s.c2
   ix:=h.s.ix.kept hg (fun e=>h.s.n3 (Option.some.inj e))
   vm:=hv
   n1:=h.s.n1
   n2:=h.s.n2
   n3:=h.s.n3
   lt:=Nat.lt_of_lt_of_le h.s.lt hg.size }
 l:=h.l.grown hg (fun e=>h.s.n2 (Option.some.inj e)) (fun i hi e=>h.n i hi (Option.some.inj e))
 n:=h.n
end
section
set_option linter.unusedVariables false
set_option linter.unusedSimpArgs false
open Go.ChangeShapes Go.WideShapes Go.ChangeAt Go.RowKit
open Go.Deep (BT)
theorem rt_new (w:World):RT (w.alloc (.cells #[.int .i64 0,.int .i64 0,.slice none 0 0] 161)) w.heap.size:=⟨⟨_,by simp [go_sem];rfl⟩,⟨_,by simp [go_sem];rfl⟩,⟨_,by simp [go_sem];rfl⟩,by simp [go_sem],by simp [go_sem],by simp [go_sem],by simp⟩
set_option maxHeartbeats 8000000 in
theorem redlit_any (Av:Nat→Prop) (sb:Nat) (kp:Option Addr) (b o cap:Nat) (op:Int) (k:Fo) (T:List Int) (V:Int) (w:World) (s2:w.cell? ⟨sb,2,none⟩=some (.pointer kp)) (hx:FoAt w k b o) (hok:FoOk k) (hfree:∀ g,w.heap.size≤g→Av g)
 (h7:7≤op∧op≤22) (har:argB op (len k)=true) (hlen:len k≤200) (hw:wfT k=true) (hl:(kids k).all isLit=true) (hkd:kdF k=T) (hr:resT op T≠0) (hV:V=opV op ((kids k).map litV)) (hv:vok (resT op T) V) (ht:1≤resT op T∧resT op T≤4) :
 Calls Tryz.prog 80 #[.pointer (some ⟨sb,0,none⟩),.agg #[.int .i64 op,.int .i64 0,.string ⟨#[]⟩,.slice (some ⟨b,o,none⟩) (len k) cap]] w (ReP w Av (litE (resT op T) V)):=by
 have XX:=Lib.hid hx
 have OK:=Lib.hid hok
 have HF:=Lib.hid hfree
 have EX:Hid (ExOk ⟨op,0,⟨#[]⟩,some ⟨b,o,none⟩,cap⟩ k):=⟨⟨⟨by dsimp only;omega,by dsimp only;omega⟩,⟨by dsimp only;omega,by dsimp only;omega⟩,by dsimp only;decide,by omega⟩,hok⟩
 have WF:Hid ((wfB ⟨op,0,⟨#[]⟩,some ⟨b,o,none⟩,cap⟩ (len k) && wfT k)=true):=by
  unfold Hid
  rw [hw,Bool.and_true]
  unfold wfB numB namB
  dsimp only
  rw [har,if_neg (by omega),if_neg (by omega),if_neg (by omega)]
  simp
  exact ⟨by omega,by decide⟩
 have KD:Hid (kdT ⟨op,0,⟨#[]⟩,some ⟨b,o,none⟩,cap⟩ k=resT op T):=by
  unfold Hid kdT
  rw [hkd]
  exact kd_res op T h7.1 hr
 obtain ⟨LB,NF,EV⟩:=lits_ok (fun _=>0) k hl hw
 have LBH:=Lib.hid LB
 have NFH:=Lib.hid NF
 have VE:Hid (∀ vals,ev1 (nmT 0 vals (fun _=>0)) ⟨op,0,⟨#[]⟩,some ⟨b,o,none⟩,cap⟩ (evF (nmT 0 vals (fun _=>0)) k)=V):=by
  intro vals
  have e:=(lits_ok (nmT 0 vals (fun _=>0)) k hl hw).2.2
  rw [e,hV]
  unfold ev1
  dsimp only
  rw [if_neg (by omega),if_neg (by omega),if_neg (by omega),if_neg (by omega)]
 have LT:=Lib.hid (And.intro ht hv)
 have CC:Hid (contains_any b o cap (some ⟨b,o,none⟩) k=contains_any b o cap (some ⟨b,o,none⟩) k):=rfl
 have CF:=Lib.hid (fun (w:World) (hx:FoAt w k b o)=>contains_any b o cap (some ⟨b,o,none⟩) k w (fun _=>rfl) hx hok hw (by omega))
 rw [hl] at CF
 have KF:=Lib.hid (fun (w:World) (hx:FoAt w k b o)=>kind_any b o ⟨op,0,⟨#[]⟩,some ⟨b,o,none⟩,cap⟩ k w ⟨fun _=>rfl,hx⟩ EX.out WF.out)
 rw [KD.out] at KF
 have MF:=Lib.hid (fun (w:World) (hx:FoAt w k b o)=>complit_any b o ⟨op,0,⟨#[]⟩,some ⟨b,o,none⟩,cap⟩ k w kp ⟨fun _=>rfl,hx⟩ EX.out WF.out hlen LBH.out (by show op≠6;omega) NFH.out)
 have hsb:=block_lt_of_cell s2
 simp at hsb
 clear hx hok hfree hw hl hkd hV hv ht CC LB NF EV har hr
 generalize resT op T=t at *
 clear KD
 go_enter Tryz.func80,Tryz.ntmps80
 go_wp2_with fail
 have hba:Below w.heap.size w ((w.alloc (.cells #[.int .i64 op,.int .i64 0,.string ⟨#[]⟩,.slice (some ⟨b,o,none⟩) (len k) cap] 25)).alloc (.cells #[.int .i64 0,.int .i64 0,.string ⟨#[]⟩,.slice none 0 0] 25)):=(below_box w _).trans ((below_box _ _).mono (by simp))
 refine (CF.out ((w.alloc (.cells #[.int .i64 op,.int .i64 0,.string ⟨#[]⟩,.slice (some ⟨b,o,none⟩) (len k) cap] 25)).alloc (.cells #[.int .i64 0,.int .i64 0,.string ⟨#[]⟩,.slice none 0 0] 25)) (XX.out.next hba)).mono ?_
 rintro e w1 ⟨rfl,hb⟩
 have RB:=Lib.hid ((BX4.new (w.alloc (.cells #[.int .i64 op,.int .i64 0,.string ⟨#[]⟩,.slice (some ⟨b,o,none⟩) (len k) cap] 25)) (.int .i64 0) (.int .i64 0) (.string ⟨#[]⟩) (.slice none 0 0) 25).next hb)
 have YB:=Lib.hid (((BX4.new w (.int .i64 op) (.int .i64 0) (.string ⟨#[]⟩) (.slice (some ⟨b,o,none⟩) (len k) cap) 25).next (below_box _ _)).next hb)
 rw [World.size_alloc] at RB
 have HB:=Lib.hid (hba.trans (hb.mono (by simp;omega)))
 have q2:w1.cell? ⟨sb,2,none⟩=some (.pointer kp):=by rw [HB.out.cell (p:=⟨sb,2,none⟩) hsb];exact s2
 clear hb hba CF s2
 obtain ⟨x0,x1,x2,x3,-,-,-,-,-⟩:=YB.out
 obtain ⟨r0,r1,r2,r3,f0,f1,f2,f3,-⟩:=RB.out
 have hz1:w.heap.size < w1.heap.size:=YB.out.lt
 have hz2:w.heap.size+1 < w1.heap.size:=RB.out.lt
 have hz3:sb < w1.heap.size:=by omega
 go_upto_region 2 with (fail)
 go_cut [5] (fun v5 wx=>∃ (fb:Nat) (c:FC),v5=.pointer (some ⟨fb,0,none⟩)∧Hid (FdCells wx fb 0 c.f (flen c.k)∧FCAt wx w1.heap.size c∧CompR 0 (fun _=>0) ⟨op,0,⟨#[]⟩,some ⟨b,o,none⟩,cap⟩ k c∧BX4 wx w.heap.size (.int .i64 op) (.int .i64 0) (.string ⟨#[]⟩) (.slice (some ⟨b,o,none⟩) (len k) cap)∧BX4 wx (w.heap.size+1) (.int .i64 0) (.int .i64 0) (.string ⟨#[]⟩) (.slice none 0 0)∧Below w.heap.size w wx))
 case first =>
  go_region_with (go_at_call 117;refine (MF.out _ (XX.out.next (by first|exact HB.out.drew|exact (HB.out.alloc HB.out.size _).drew|exact HB.out.drew.alloc HB.out.size _))).mono ?_;rintro e w2 ⟨c,rfl,hc,hr,hb2⟩;(first|(guard_hyp hb2:Below w1.drew.heap.size w1.drew w2)|(obtain ⟨⟨u0,q0⟩,⟨u1,q1⟩,⟨u2,q2⟩,g0,g1,g2,glt⟩:=(RT.next (show RT (w1.alloc (.cells #[.int .i64 0,.int .i64 0,.slice none 0 0] 161)).drew w1.heap.size from (rt_new w1).next (Below.refl _ _).drew) hb2)));have BB:=Lib.hid hb2;have CA:=Lib.hid hc;have CR:=Lib.hid hr;clear hc hr hb2)
  all_goals go_wp2
  all_goals go_meet
  all_goals first
   | (have B12:Below w1.heap.size w1 (w2.alloc (.cells #[.int .i64 c.f.op,.int .i64 c.f.num,.slice c.f.ptr (flen c.k) c.f.cap] 161)):=((Below.refl w1.heap.size w1).drew.trans BB.out).trans ((below_box w2 _).mono (Nat.le_trans (Nat.le_refl _) BB.out.size))
      exact ⟨w2.heap.size,c,rfl,⟨by simp [go_sem],by simp [go_sem],by simp [go_sem]⟩,CA.out.next (below_box w2 _),CR.out,YB.out.next B12,RB.out.next B12,HB.out.trans (B12.mono HB.out.size)⟩)
   | (have B12:Below w1.heap.size w1 w2:=(((Below.refl w1.heap.size w1).alloc (Nat.le_refl _) _).drew).trans (BB.out.mono (by simp))
      have G3:=gb_three w2 w1.heap.size (.int .i64 c.f.op) (.int .i64 c.f.num) (.slice c.f.ptr (flen c.k) c.f.cap)
      have B13:=B12.grown G3 B12.size (fun m hm=>by cases hm;exact Nat.le_refl _)
      have CA2:FCAt w2 (w1.heap.size+1) c:=by
       have h:=CA.out
       simpa using h
      exact ⟨w1.heap.size,c,rfl,⟨by simp [go_sem,q0,q1,q2],by simp [go_sem,q0,q1,q2],by simp [go_sem,q0,q1,q2]⟩,(CA2.set (Nat.lt_succ_self _) G3).mono (Nat.le_succ _),CR.out,YB.out.next B13,RB.out.next B13,HB.out.trans (B13.mono HB.out.size)⟩)
 case rest =>
  obtain ⟨fb,c,rfl,HD⟩:=hcut
  have CR:=Lib.hid HD.out.2.2.1
  have YB2:=Lib.hid HD.out.2.2.2.1
  have RB2:=Lib.hid HD.out.2.2.2.2.1
  have B2:=Lib.hid HD.out.2.2.2.2.2
  have hfb:fb < wc.heap.size:=by have:=block_lt_of_cell HD.out.1.1;simpa using this
  clear x0 x1 x2 x3 r0 r1 r2 r3 f0 f1 f2 f3 q2
  obtain ⟨x0,x1,x2,x3,-,-,-,-,-⟩:=YB2.out
  go_wp2_with fail
  refine (KF.out wc (XX.out.next B2.out)).mono ?_
  rintro e w3 ⟨rfl,hb3⟩
  have FD3:FdCells w3 fb 0 c.f (flen c.k):=by
   obtain ⟨h0,h1,h2⟩:=HD.out.1
   exact ⟨by rw [hb3.cell (p:=⟨fb,0,none⟩) hfb];exact h0,by rw [hb3.cell (p:=⟨fb,0+1,none⟩) hfb];exact h1,by rw [hb3.cell (p:=⟨fb,0+2,none⟩) hfb];exact h2⟩
  have VV:=Lib.hid (value_any c.b c.o c.f c.k w3 (.slice none 0 0) [] fb 0 (nS 0) (show IntsAt w3 (.slice none 0 0) [] from .inl ⟨rfl,none,0,rfl⟩) rfl (by decide) (by simp) FD3 HD.out.2.1.1 (HD.out.2.1.2.1.next hb3) CR.out.o1 (by have:=CR.out.l;omega) CR.out.o)
  rw [CR.out.v,VE.out []] at VV
  have RB3:=Lib.hid (RB2.out.next hb3)
  have B3:=Lib.hid (B2.out.trans (hb3.mono B2.out.size))
  clear FD3 hb3 x0 x1 x2 x3
  go_wp2_with fail
  refine VV.out.mono ?_
  rintro e w4 ⟨rfl,hb4⟩
  have RB4:=Lib.hid (RB3.out.next hb4)
  have B4:=Lib.hid (B3.out.trans (hb4.mono B3.out.size))
  clear hb4
  go_wp2_with fail
  refine (literal_any t V w4 LT.out.1 LT.out.2).mono ?_
  rintro e w5 ⟨d,rfl,hd,hdx,hb5⟩
  have RB5:=Lib.hid (RB4.out.next hb5)
  have B5:=Lib.hid (B4.out.trans (hb5.mono B4.out.size))
  have ED:=Lib.hid hd
  have hz4:w.heap.size+1 < w4.heap.size:=RB4.out.lt
  have XD:=Lib.hid (And.intro hdx.1 (FoAv.ge hdx.2))
  clear hd hdx hb5
  obtain ⟨r0,r1,r2,r3,f0,f1,f2,f3,-⟩:=RB5.out
  go_wp2
  refine bodyPost_ret (v:=.agg #[.int .i64 d.a.op,.int .i64 d.a.num,.string d.a.name,.slice d.a.ptr (len d.k) d.a.cap]) ?_ rfl ⟨d,rfl,ED.out,XD.out.1.av4 (XD.out.2.mono fun g h=>by omega),XD.out.2.mono (fun g h=>HF.out g (by omega)),set4_below B5.out (by omega)⟩
  rw [results_cell1 rfl];go_simp
end
section
set_option linter.unusedVariables false
set_option linter.unusedSimpArgs false
open Go.ChangeShapes Go.WideShapes Go.ChangeAt Go.RowKit
open Go.Deep (BT)
set_option maxHeartbeats 4000000 in
theorem impl_any (Av:Nat→Prop) (sp:Option Addr) (b o cap b1 o1:Nat) (a1:Nd) (k1:Fo) (b2 o2:Nat) (a2:Nd) (k2:Fo) (w:World)
 (hx:FoAt w (.node b1 o1 a1 k1 (.node b2 o2 a2 k2 .nil)) b o) (ha:FoAv Av (.node b1 o1 a1 k1 (.node b2 o2 a2 k2 .nil)) b) (hfree:∀ g,w.heap.size≤g→Av g) (hok:FoOk (.node b1 o1 a1 k1 .nil)) (hw:wfT (.node b1 o1 a1 k1 .nil)=true) (hn:a1.op≠4→a1.op≠5→a2.op=5→isLit ⟨b1,o1,a1,k1⟩=false) (h19:a1.op=19→len k1=1) :
 Calls Tryz.prog 122 #[.pointer sp,.agg #[.int .i64 22,.int .i64 0,.string ⟨#[]⟩,.slice (some ⟨b,o,none⟩) 2 cap]] w (ReP w Av (implE [ec ⟨b1,o1,a1,k1⟩,ec ⟨b2,o2,a2,k2⟩])):=by
 obtain ⟨⟨c0,c1,c2,c3⟩,hp1,hk1,⟨d0,d1,d2,d3⟩,hp2,hk2,-⟩:=hx
 have X1:=Lib.hid (show ExAt w b1 o1 a1 k1 from ⟨hp1,hk1⟩)
 have X2:=Lib.hid (show ExAt w b2 o2 a2 k2 from ⟨hp2,hk2⟩)
 have AV:=Lib.hid ha
 have HF:=Lib.hid hfree
 have HOK:=Lib.hid hok
 have HW:=Lib.hid hw
 have HN:=Lib.hid hn
 have H19:=Lib.hid h19
 have hg:=block_lt_of_cell c0
 simp at hg
 have XX:=Lib.hid (show FoAt w (.node b1 o1 a1 k1 (.node b2 o2 a2 k2 .nil)) b o from ⟨⟨c0,c1,c2,c3⟩,hp1,hk1,⟨d0,d1,d2,d3⟩,hp2,hk2,trivial⟩)
 have d1':w.cell? ⟨b,o+5,none⟩=some (.int .i64 a2.num):=d1
 have d2':w.cell? ⟨b,o+6,none⟩=some (.string a2.name):=d2
 have d3':w.cell? ⟨b,o+7,none⟩=some (.slice a2.ptr (len k2) a2.cap):=d3
 clear hp1 hk1 hp2 hk2 ha d1 d2 d3 hfree hok hw hn h19
 have hg0:b≠w.heap.size:=by omega
 have hg1:b≠w.heap.size+1:=by omega
 have hg2:b≠w.heap.size+1+1:=by omega
 have hg3:b≠w.heap.size+1+1+1:=by omega
 have hl1:b < w.heap.size+1:=by omega
 have hl2:b < w.heap.size+1+1:=by omega
 have hl3:b < w.heap.size+1+1+1:=by omega
 have hm2:b≠w.heap.size+2:=by omega
 have hm3:b≠w.heap.size+3:=by omega
 obtain ⟨R,hR⟩:∃ R,implE [ec ⟨b1,o1,a1,k1⟩,ec ⟨b2,o2,a2,k2⟩]=R:=⟨_,rfl⟩
 have HR:=Lib.hid hR
 rw [hR]
 clear hR
 have J:Hid (R=if a1.op=5∨a2.op=4 then dE 4 0 noN else if a1.op=4 then ec ⟨b2,o2,a2,k2⟩ else if a2.op=5 then notE (ec ⟨b1,o1,a1,k1⟩) else nE 22 [ec ⟨b1,o1,a1,k1⟩,ec ⟨b2,o2,a2,k2⟩]):=HR.out.symm
 clear HR
 go_enter Tryz.func122,Tryz.ntmps122
 go_upto_region 1 with (fail)
 go_region
 all_goals
  by_cases h1:a1.op=5
  · have e:Hid (R=dE 4 0 noN):=by unfold Hid;rw [J.out,if_pos (Or.inl h1)]
    have n1:(a1.op==5)=true:=by simp [h1]
    clear J h1
    go_wp2
    refine bodyPost_ret (v:=.agg #[.int .i64 4,.int .i64 0,.string ⟨#[]⟩,.slice none 0 0]) ?_ rfl ?_
    · rw [results_cell1 rfl];go_simp
    · refine ReP.mk ⟨0,0,⟨4,0,⟨#[]⟩,none,0⟩,.nil⟩ (by (repeat (first|exact Below.refl _ _|refine Below.drew ?_|refine Below.alloc ?_ (by first|exact Nat.le_refl _|(simp<;>omega)) _|refine Below.setCell ?_ (by first|exact Nat.le_refl _|(simp<;>omega)) _))) ?_ (fun hB=>?_) ?_
      · rw [e.out];rfl
      · exact ⟨fun q=>absurd rfl q,trivial⟩
      · trivial
  have n1:(a1.op==5)=false:=by simp [h1]
  by_cases h2:a2.op=4
  · have e:Hid (R=dE 4 0 noN):=by unfold Hid;rw [J.out,if_pos (Or.inr h2)]
    have n2:(a2.op==4)=true:=by simp [h2]
    clear J h1 h2
    go_wp2
    refine bodyPost_ret (v:=.agg #[.int .i64 4,.int .i64 0,.string ⟨#[]⟩,.slice none 0 0]) ?_ rfl ?_
    · rw [results_cell1 rfl];go_simp
    · refine ReP.mk ⟨0,0,⟨4,0,⟨#[]⟩,none,0⟩,.nil⟩ (by (repeat (first|exact Below.refl _ _|refine Below.drew ?_|refine Below.alloc ?_ (by first|exact Nat.le_refl _|(simp<;>omega)) _|refine Below.setCell ?_ (by first|exact Nat.le_refl _|(simp<;>omega)) _))) ?_ (fun hB=>?_) ?_
      · rw [e.out];rfl
      · exact ⟨fun q=>absurd rfl q,trivial⟩
      · trivial
  have n2:(a2.op==4)=false:=by simp [h2]
  have J2:Hid (R=if a1.op=4 then ec ⟨b2,o2,a2,k2⟩ else if a2.op=5 then notE (ec ⟨b1,o1,a1,k1⟩) else nE 22 [ec ⟨b1,o1,a1,k1⟩,ec ⟨b2,o2,a2,k2⟩]):=by unfold Hid;rw [J.out,if_neg (by simp [h1,h2])]
  have h1h:=Lib.hid h1
  clear J h1 h2
  by_cases h3:a1.op=4
  · have e:Hid (R=ec ⟨b2,o2,a2,k2⟩):=by unfold Hid;rw [J2.out,if_pos h3]
    have n3:(a1.op==4)=true:=by simp [h3]
    clear J2 h3
    go_wp2
    refine bodyPost_ret (v:=.agg #[.int .i64 a2.op,.int .i64 a2.num,.string a2.name,.slice a2.ptr (len k2) a2.cap]) ?_ rfl ?_
    · rw [results_cell1 rfl];go_simp
    · refine ReP.mk ⟨b2,o2,a2,k2⟩ (by (repeat (first|exact Below.refl _ _|refine Below.drew ?_|refine Below.alloc ?_ (by first|exact Nat.le_refl _|(simp<;>omega)) _|refine Below.setCell ?_ (by first|exact Nat.le_refl _|(simp<;>omega)) _))) ?_ (fun hB=>?_) ?_
      · rw [e.out]
      · exact X2.out.next hB
      · exact AV.out.2.2.2.1
  have n3:(a1.op==4)=false:=by simp [h3]
  by_cases h4:a2.op=5
  · have e:Hid (R=notE (ec ⟨b1,o1,a1,k1⟩)):=by unfold Hid;rw [J2.out,if_neg h3,if_pos h4]
    have n4:(a2.op==5)=true:=by simp [h4]
    have hni:=Lib.hid (HN.out h3 h1h.out h4)
    clear J2 h3 h4
    go_wp2_with fail
    refine (rednot_any (fun g=>Av g∧g≠w.heap.size+1) sp _ _ _ b1 o1 a1 k1 _ ⟨⟨by simp [go_sem],by simp [go_sem],by simp [go_sem],by simp [go_sem]⟩,X1.out.1,(X1.out.next (by (repeat (first|exact Below.refl _ _|refine Below.drew ?_|refine Below.alloc ?_ (by first|exact Nat.le_refl _|(simp<;>omega)) _|refine Below.setCell ?_ (by first|exact Nat.le_refl _|(simp<;>omega)) _)))).2,trivial⟩ ⟨⟨HF.out _ (by omega),by omega⟩,(FoAv.lt X1.out.2 AV.out.2.1).mono (fun g h=>⟨h.1,by omega⟩),trivial⟩ HOK.out HW.out hni.out H19.out).mono ?_
    rintro e2 w2 ⟨c,rfl,hc,hcx,hca,hcb⟩
    have RB:Hid (BX4 w2 (w.heap.size+1) (.int .i64 0) (.int .i64 0) (.string ⟨#[]⟩) (.slice none 0 0)):=by
     refine BX4.next ?_ hcb
     constructor<;>simp [go_sem]
    have B2:Hid (Below w.heap.size w w2):=by
     refine Below.trans ?_ (hcb.mono ?_)
     · (repeat (first|exact Below.refl _ _|refine Below.drew ?_|refine Below.alloc ?_ (by first|exact Nat.le_refl _|(simp<;>omega)) _|refine Below.setCell ?_ (by first|exact Nat.le_refl _|(simp<;>omega)) _))
     · simp<;>omega
    have E:=Lib.hid (hc.trans e.out.symm)
    have EX:=Lib.hid (And.intro hcx hca)
    clear hc hcx hca hcb
    obtain ⟨r0,r1,r2,r3,f0,f1,f2,f3,-⟩:=RB.out
    go_wp2
    refine bodyPost_ret (v:=.agg #[.int .i64 c.a.op,.int .i64 c.a.num,.string c.a.name,.slice c.a.ptr (len c.k) c.a.cap]) ?_ rfl ⟨c,rfl,E.out,EX.out.1.av4 (EX.out.2.mono fun g h=>h.2),EX.out.2.mono fun g h=>h.1,set4_below B2.out (by omega)⟩
    rw [results_cell1 rfl];go_simp
  have n4:(a2.op==5)=false:=by simp [h4]
  have e:Hid (R=nE 22 [ec ⟨b1,o1,a1,k1⟩,ec ⟨b2,o2,a2,k2⟩]):=by unfold Hid;rw [J2.out,if_neg h3,if_neg h4]
  clear J2 h3 h4
  go_wp2
  refine bodyPost_ret (v:=.agg #[.int .i64 22,.int .i64 0,.string ⟨#[]⟩,.slice (some ⟨b,o,none⟩) 2 cap]) ?_ rfl ?_
  · rw [results_cell1 rfl];go_simp
  · refine ReP.mk ⟨b,o,⟨22,0,⟨#[]⟩,some ⟨b,o,none⟩,cap⟩,(.node b1 o1 a1 k1 (.node b2 o2 a2 k2 .nil))⟩ (by (repeat (first|exact Below.refl _ _|refine Below.drew ?_|refine Below.alloc ?_ (by first|exact Nat.le_refl _|(simp<;>omega)) _|refine Below.setCell ?_ (by first|exact Nat.le_refl _|(simp<;>omega)) _))) ?_ (fun hB=>?_) ?_
    · rw [e.out];rfl
    · exact ⟨fun _=>rfl,XX.out.next hB⟩
    · exact AV.out
end
end Go.Proofs.YtfoedbfkddoibaaGreat
