import Derived.Test.YtfoedbfkddoibaaGreatTdk
namespace Go.Proofs.YtfoedbfkddoibaaGreat
set_option linter.unusedVariables false
set_option linter.unusedSimpArgs false
open Go.ChangeShapes Go.WideShapes Go.ChangeAt Go.RowKit
open Go.Deep (BT)
theorem duty_len (s:ByteArray) (h:atE 1 s=0):s.size≤100:=by
 have e:s.data.toList.length=s.size:=by rw [Array.length_toList];rfl
 have h1:Att.dutyT s.data.toList≠0:=by
  intro q
  unfold atE atS at h
  rw [if_pos (show Att.atT 1 s.data.toList=0 from q)] at h
  cases h
 have h2:s.data.toList ∈ Att.dutyL:=by
  unfold Att.dutyT at h1
  unfold Att.dutyL
  rw [List.mem_append,List.mem_append]
  split at h1
  · exact .inl (.inl ((Att.isIn_iff _ _).1 (by assumption)))
  split at h1
  · exact .inl (.inr ((Att.isIn_iff _ _).1 (by assumption)))
  split at h1
  · exact .inr ((Att.isIn_iff _ _).1 (by assumption))
  · exact absurd rfl h1
 have h3:∀ l ∈ Att.dutyL,l.length≤100:=by decide
 rw [← e]
 exact h3 _ h2
theorem drop_at {α:Type} {L:List α} {j:Nat} {x:α} (h:L[j]?=some x):L.drop j=x :: L.drop (j+1):=by
 obtain ⟨h1,h2⟩:=List.getElem?_eq_some_iff.1 h
 rw [List.drop_eq_getElem_cons h1,h2]
theorem scv_rs {w:World} {c d:Ct} {q:Cp} (h0:sctE c=0) (h:ScV w c d q):∀ r ∈ d.rs,∃ r0 ∈ c.rs,r.sc=r0.sc∧(simpR c.cs r.sc r0.a r0.k).2=0∧ec ⟨r.b,r.o,r.a,r.k⟩=(simpR c.cs r.sc r0.a r0.k).1:=by
 intro r hr
 have h1:ruC r ∈ c.rs.flatMap (sruF c.cs):=by rw [← h.re];exact List.mem_map_of_mem hr
 obtain ⟨r0,m0,m1⟩:=List.mem_flatMap.1 h1
 obtain ⟨i,hi⟩:=List.mem_iff_getElem?.1 m0
 have il:i < c.rs.length:=(List.getElem?_eq_some_iff.1 hi).1
 have e:=fe_zero (orE_z (orE_z h0).2).1 i (Nat.zero_le _) (by omega)
 rw [sruE_eq _ _ _ _ hi] at e
 unfold sruF at m1
 split at m1
 · (try simp at m1)
 · have m2:(r.sc,ec (⟨r.b,r.o,r.a,r.k⟩:Ch))=(r0.sc,(simpR c.cs r0.sc r0.a r0.k).1):=List.mem_singleton.1 m1
   obtain ⟨e1,e2⟩:=Prod.mk.inj m2
   exact ⟨r0,m0,e1,by rw [e1];exact e,by rw [e1];exact e2⟩
theorem scv_os {w:World} {c d:Ct} {q:Cp} (h0:sctE c=0) (h:ScV w c d q):∀ r ∈ d.os,∃ r0 ∈ c.os,r.sc=r0.sc∧(simpR c.cs r.sc r0.a r0.k).2=0∧ec ⟨r.b,r.o,r.a,r.k⟩=(simpR c.cs r.sc r0.a r0.k).1:=by
 intro r hr
 have h1:coC r ∈ c.os.flatMap (sosF c.cs):=by rw [← h.oe];exact List.mem_map_of_mem hr
 obtain ⟨r0,m0,m1⟩:=List.mem_flatMap.1 h1
 obtain ⟨i,hi⟩:=List.mem_iff_getElem?.1 m0
 have il:i < c.os.length:=(List.getElem?_eq_some_iff.1 hi).1
 have e:=fe_zero (orE_z (orE_z (orE_z h0).2).2).1 i (Nat.zero_le _) (by omega)
 rw [sosE_eq _ _ _ _ hi] at e
 unfold sosF at m1
 split at m1
 · (try simp at m1)
 · have m2:(r.sc,ec (⟨r.b,r.o,r.a,r.k⟩:Ch))=(r0.sc,(simpR c.cs r0.sc r0.a r0.k).1):=List.mem_singleton.1 m1
   obtain ⟨e1,e2⟩:=Prod.mk.inj m2
   exact ⟨r0,m0,e1,by rw [e1];exact e,by rw [e1];exact e2⟩
theorem scv_cr {w:World} {c d:Ct} {q:Cp} (h0:sctE c=0) (h:ScV w c d q):d.cr=.nil∨∃ b o a k a0 k0,d.cr=.node b o a k .nil∧(simpR c.cs 1 a0 k0).2=0∧ec ⟨b,o,a,k⟩=(simpR c.cs 1 a0 k0).1:=by
 have hl:=(tval_parts c (orE_z h0).1).1.2.2.2.1
 have he:=(orE_z (orE_z (orE_z h0).2).2).2
 have hc:=h.ce
 cases hd:d.cr with
 | nil=>exact .inl rfl
 | node b o a k r =>
   right
   rw [hd] at hc
   have hc2:ec ⟨b,o,a,k⟩ :: (kids r).map ec=scrL c.cs c.cr:=hc
   cases hcr:c.cr with
   | nil=>rw [hcr] at hc2;cases hc2
   | node b0 o0 a0 k0 r0 =>
     rw [hcr] at hc2 hl he
     have hr0:r0=.nil:=by
      cases r0 with
      | nil=>rfl
      | node b2 o2 a2 k2 r2=>simp [len] at hl<;>omega
     subst hr0
     obtain ⟨e1,e2⟩:=List.cons.inj hc2
     have hr:r=.nil:=by
      cases r with
      | nil=>rfl
      | node b2 o2 a2 k2 r2=>cases e2
     subst hr
     exact ⟨b,o,a,k,a0,k0,rfl,(orE_z (show orE (simpR c.cs 1 a0 k0).2 (scrE c.cs .nil)=0 from he)).1,e1⟩
theorem sz_199 (a:Nd) (k:Fo) (h:valE a k=0):sz k≤199:=by
 have hfit:fitB 0 1 k=true:=by
  unfold valE at h
  by_cases q:fitB 0 1 k=true
  · exact q
  · rw [if_neg q] at h;cases h
 unfold fitB at hfit
 rw [decide_eq_true_eq] at hfit
 omega
theorem scv_cw {w:World} {c d:Ct} {q:Cp} (h0:sctE c=0) (h:ScV w c d q):wfT d.cr=true∧sz d.cr≤200:=by
 rcases scv_cr h0 h with e|⟨b,o,a,k,a0,k0,e,h1,h2⟩
 · rw [e];exact ⟨rfl,by show (0:Nat)≤200;omega⟩
 · obtain ⟨w1,w2,w3,w4,w5⟩:=simp_wf c.cs 1 a0 k0 ⟨b,o,a,k⟩ h1 h2
   have h9:=sz_199 a k w4
   rw [e]
   refine ⟨?_,?_⟩
   · show ((wfB a (len k) && wfT k) && true)=true
     rw [Bool.and_true,Bool.and_eq_true];exact ⟨w1,w2⟩
   · show 1+sz k+0≤200
     omega
theorem below14 {w a:World} {B g:Nat} (h:Below B a w) (hg:B≤g) (d:Ct) (q:Cp):Below B a ((((((((((((((w.setCell ⟨g,0,none⟩ (.int .i64 d.rep)).setCell ⟨g,1,none⟩ (.int .i64 d.rel)).setCell ⟨g,2,none⟩ (.int .i64 d.con)).setCell ⟨g,3,none⟩ (.int .i64 d.sit)).setCell ⟨g,4,none⟩ (.int .i64 d.lay)).setCell ⟨g,5,none⟩ (.int .i64 d.nf)).setCell ⟨g,6,none⟩ (.int .i64 d.nt)).setCell ⟨g,7,none⟩ (.slice q.cs d.cs.length q.ccs)).setCell ⟨g,8,none⟩ (.slice q.rs d.rs.length q.crs)).setCell ⟨g,9,none⟩ (.slice q.os d.os.length q.cos)).setCell ⟨g,10,none⟩ (.slice q.cr (len d.cr) q.ccr)).setCell ⟨g,11,none⟩ (.slice q.ls d.ls.length q.cls)).setCell ⟨g,12,none⟩ (.slice q.fs d.fs.length q.cfs)).setCell ⟨g,13,none⟩ (.int .i64 d.gua)) :=
 ((((((((((((((h.setCell (p:=⟨g,0,none⟩) hg _).setCell (p:=⟨g,1,none⟩) hg _).setCell (p:=⟨g,2,none⟩) hg _).setCell (p:=⟨g,3,none⟩) hg _).setCell (p:=⟨g,4,none⟩) hg _).setCell (p:=⟨g,5,none⟩) hg _).setCell (p:=⟨g,6,none⟩) hg _).setCell (p:=⟨g,7,none⟩) hg _).setCell (p:=⟨g,8,none⟩) hg _).setCell (p:=⟨g,9,none⟩) hg _).setCell (p:=⟨g,10,none⟩) hg _).setCell (p:=⟨g,11,none⟩) hg _).setCell (p:=⟨g,12,none⟩) hg _).setCell (p:=⟨g,13,none⟩) hg _)
theorem keep14 {w a:World} {n g:Nat} {X:Nat→Prop} (h:KeepX n X a w) (hg:X g) (d:Ct) (q:Cp):KeepX n X a ((((((((((((((w.setCell ⟨g,0,none⟩ (.int .i64 d.rep)).setCell ⟨g,1,none⟩ (.int .i64 d.rel)).setCell ⟨g,2,none⟩ (.int .i64 d.con)).setCell ⟨g,3,none⟩ (.int .i64 d.sit)).setCell ⟨g,4,none⟩ (.int .i64 d.lay)).setCell ⟨g,5,none⟩ (.int .i64 d.nf)).setCell ⟨g,6,none⟩ (.int .i64 d.nt)).setCell ⟨g,7,none⟩ (.slice q.cs d.cs.length q.ccs)).setCell ⟨g,8,none⟩ (.slice q.rs d.rs.length q.crs)).setCell ⟨g,9,none⟩ (.slice q.os d.os.length q.cos)).setCell ⟨g,10,none⟩ (.slice q.cr (len d.cr) q.ccr)).setCell ⟨g,11,none⟩ (.slice q.ls d.ls.length q.cls)).setCell ⟨g,12,none⟩ (.slice q.fs d.fs.length q.cfs)).setCell ⟨g,13,none⟩ (.int .i64 d.gua)) :=
 ((((((((((((((h.setCell (p:=⟨g,0,none⟩) hg _).setCell (p:=⟨g,1,none⟩) hg _).setCell (p:=⟨g,2,none⟩) hg _).setCell (p:=⟨g,3,none⟩) hg _).setCell (p:=⟨g,4,none⟩) hg _).setCell (p:=⟨g,5,none⟩) hg _).setCell (p:=⟨g,6,none⟩) hg _).setCell (p:=⟨g,7,none⟩) hg _).setCell (p:=⟨g,8,none⟩) hg _).setCell (p:=⟨g,9,none⟩) hg _).setCell (p:=⟨g,10,none⟩) hg _).setCell (p:=⟨g,11,none⟩) hg _).setCell (p:=⟨g,12,none⟩) hg _).setCell (p:=⟨g,13,none⟩) hg _)
set_option maxHeartbeats 4000000 in
theorem CtBox.set14 {w:World} {g:Nat} {c:Ct} {p:Cp} (h:CtBox w g c p) (hf:∀ i,w.frozen? ⟨g,i,none⟩=false) (d:Ct) (q:Cp):CtBox ((((((((((((((w.setCell ⟨g,0,none⟩ (.int .i64 d.rep)).setCell ⟨g,1,none⟩ (.int .i64 d.rel)).setCell ⟨g,2,none⟩ (.int .i64 d.con)).setCell ⟨g,3,none⟩ (.int .i64 d.sit)).setCell ⟨g,4,none⟩ (.int .i64 d.lay)).setCell ⟨g,5,none⟩ (.int .i64 d.nf)).setCell ⟨g,6,none⟩ (.int .i64 d.nt)).setCell ⟨g,7,none⟩ (.slice q.cs d.cs.length q.ccs)).setCell ⟨g,8,none⟩ (.slice q.rs d.rs.length q.crs)).setCell ⟨g,9,none⟩ (.slice q.os d.os.length q.cos)).setCell ⟨g,10,none⟩ (.slice q.cr (len d.cr) q.ccr)).setCell ⟨g,11,none⟩ (.slice q.ls d.ls.length q.cls)).setCell ⟨g,12,none⟩ (.slice q.fs d.fs.length q.cfs)).setCell ⟨g,13,none⟩ (.int .i64 d.gua)) g d q:=by
 obtain ⟨c0,c1,c2,c3,c4,c5,c6,c7,c8,c9,c10,c11,c12,c13,hl⟩:=h
 have f0:=hf 0;have f1:=hf 1;have f2:=hf 2;have f3:=hf 3;have f4:=hf 4;have f5:=hf 5;have f6:=hf 6;have f7:=hf 7;have f8:=hf 8;have f9:=hf 9;have f10:=hf 10;have f11:=hf 11;have f12:=hf 12;have f13:=hf 13
 constructor
 all_goals first
  | (simp [go_sem,c0,c1,c2,c3,c4,c5,c6,c7,c8,c9,c10,c11,c12,c13,f0,f1,f2,f3,f4,f5,f6,f7,f8,f9,f10,f11,f12,f13];done)
  | (simp [World.setCell];exact hl)
set_option maxHeartbeats 8000000 in
set_option maxRecDepth 100000 in
theorem ocP_any (c:Ct) (p:Cp) (name:ByteArray) (w:World) (hv:CtV w c p) :
 Calls Tryz.prog 16 #[.agg #[.int .i64 c.rep,.int .i64 c.rel,.int .i64 c.con,.int .i64 c.sit,.int .i64 c.lay,.int .i64 c.nf,.int .i64 c.nt,.slice p.cs c.cs.length p.ccs,.slice p.rs c.rs.length p.crs,.slice p.os c.os.length p.cos,.slice p.cr (len c.cr) p.ccr,.slice p.ls c.ls.length p.cls,.slice p.fs c.fs.length p.cfs,.int .i64 c.gua],.string name] w (AnP w (octT c name)):=by
 have HV:=Lib.hid hv
 have OT:Hid (octT c name=if sctE c≠0 then (0,sctE c) else if atE 1 name≠0 then (0,6) else (totF (fun sc x=>quP sc x name (decide (atS 1 name=3)) (crL name (decide (atS 1 name=3)) (scrL c.cs c.cr)) true) (c.os.flatMap (sosF c.cs))
  (totF (fun sc x=>quP sc x name (decide (atS 1 name=3)) (crL name (decide (atS 1 name=3)) (scrL c.cs c.cr)) false) (c.rs.flatMap (sruF c.cs)) 0),0)):=rfl
 generalize octT c name=R at *
 clear hv
 go_enter Tryz.func16,Tryz.ntmps16
 go_upto_region 1 with (fail)
 have X0:=Lib.hid (CtBox.start w c p)
 have B0:=Lib.hid (below_box w (.cells #[.int .i64 c.rep,.int .i64 c.rel,.int .i64 c.con,.int .i64 c.sit,.int .i64 c.lay,.int .i64 c.nf,.int .i64 c.nt,.slice p.cs c.cs.length p.ccs,.slice p.rs c.rs.length p.crs,.slice p.os c.os.length p.cos,.slice p.cr (len c.cr) p.ccr,.slice p.ls c.ls.length p.cls,.slice p.fs c.fs.length p.cfs,.int .i64 c.gua] 44))
 have F0:Hid (∀ i,(w.alloc (.cells #[.int .i64 c.rep,.int .i64 c.rel,.int .i64 c.con,.int .i64 c.sit,.int .i64 c.lay,.int .i64 c.nf,.int .i64 c.nt,.slice p.cs c.cs.length p.ccs,.slice p.rs c.rs.length p.crs,.slice p.os c.os.length p.cos,.slice p.cr (len c.cr) p.ccr,.slice p.ls c.ls.length p.cls,.slice p.fs c.fs.length p.cfs,.int .i64 c.gua] 44)).frozen? ⟨w.heap.size,i,none⟩=false):=fun i=>(by simp [go_sem])
 have Z0:Hid (w.heap.size < (w.alloc (.cells #[.int .i64 c.rep,.int .i64 c.rel,.int .i64 c.con,.int .i64 c.sit,.int .i64 c.lay,.int .i64 c.nf,.int .i64 c.nt,.slice p.cs c.cs.length p.ccs,.slice p.rs c.rs.length p.crs,.slice p.os c.os.length p.cos,.slice p.cr (len c.cr) p.ccr,.slice p.ls c.ls.length p.cls,.slice p.fs c.fs.length p.cfs,.int .i64 c.gua] 44)).heap.size):=by unfold Hid;simp
 generalize w.alloc (.cells #[.int .i64 c.rep,.int .i64 c.rel,.int .i64 c.con,.int .i64 c.sit,.int .i64 c.lay,.int .i64 c.nf,.int .i64 c.nt,.slice p.cs c.cs.length p.ccs,.slice p.rs c.rs.length p.crs,.slice p.os c.os.length p.cos,.slice p.cr (len c.cr) p.ccr,.slice p.ls c.ls.length p.cls,.slice p.fs c.fs.length p.cfs,.int .i64 c.gua] 44)=w0 at *
 obtain ⟨c0,c1,c2,c3,c4,c5,c6,c7,c8,c9,c10,c11,c12,c13,hlt⟩:=X0.out
 obtain ⟨E,hE⟩:∃ E,sctE c=E:=⟨_,rfl⟩
 have HE:=Lib.hid hE
 have SF:=Lib.hid (sctF_any c p w0 (HV.out.next B0.out))
 rw [hE] at SF
 clear hE
 go_upto_region 2 with (go_at_call 28;refine SF.out.mono ?_;rintro e w1 ⟨d,q,rfl,hb,hsc⟩;have HB:=Lib.hid hb;have HSC:=Lib.hid hsc;have X1:=Lib.hid (X0.out.next hb);have F1:Hid (∀ i,w1.frozen? ⟨w.heap.size,i,none⟩=false):=(fun i=>by rw [hb.frozen (p:=⟨w.heap.size,i,none⟩) Z0.out];exact F0.out i);clear c0 c1 c2 c3 c4 c5 c6 c7 c8 c9 c10 c11 c12 c13 hlt hb hsc;obtain ⟨c0,c1,c2,c3,c4,c5,c6,c7,c8,c9,c10,c11,c12,c13,hlt⟩:=X1.out;have f0:=F1.out 0;have f1:=F1.out 1;have f2:=F1.out 2;have f3:=F1.out 3;have f4:=F1.out 4;have f5:=F1.out 5;have f6:=F1.out 6;have f7:=F1.out 7;have f8:=F1.out 8;have f9:=F1.out 9;have f10:=F1.out 10;have f11:=F1.out 11;have f12:=F1.out 12;have f13:=F1.out 13)
 have X2:=Lib.hid (X1.out.set14 F1.out d q)
 have K2:=Lib.hid (keep14 (KeepX.refl w1.heap.size (fun k=>k < w0.heap.size) w1) Z0.out d q)
 have B2:=Lib.hid (below14 (B0.out.trans (HB.out.mono B0.out.size)) (Nat.le_refl w.heap.size) d q)
 clear c0 c1 c2 c3 c4 c5 c6 c7 c8 c9 c10 c11 c12 c13 f0 f1 f2 f3 f4 f5 f6 f7 f8 f9 f10 f11 f12 f13 hlt X1 F1 F0 X0 SF
 generalize ((((((((((((((w1.setCell ⟨w.heap.size,0,none⟩ (.int .i64 d.rep)).setCell ⟨w.heap.size,1,none⟩ (.int .i64 d.rel)).setCell ⟨w.heap.size,2,none⟩ (.int .i64 d.con)).setCell ⟨w.heap.size,3,none⟩ (.int .i64 d.sit)).setCell ⟨w.heap.size,4,none⟩ (.int .i64 d.lay)).setCell ⟨w.heap.size,5,none⟩ (.int .i64 d.nf)).setCell ⟨w.heap.size,6,none⟩ (.int .i64 d.nt)).setCell ⟨w.heap.size,7,none⟩ (.slice q.cs d.cs.length q.ccs)).setCell ⟨w.heap.size,8,none⟩ (.slice q.rs d.rs.length q.crs)).setCell ⟨w.heap.size,9,none⟩ (.slice q.os d.os.length q.cos)).setCell ⟨w.heap.size,10,none⟩ (.slice q.cr (len d.cr) q.ccr)).setCell ⟨w.heap.size,11,none⟩ (.slice q.ls d.ls.length q.cls)).setCell ⟨w.heap.size,12,none⟩ (.slice q.fs d.fs.length q.cfs)).setCell ⟨w.heap.size,13,none⟩ (.int .i64 d.gua))=w2 at *
 by_cases h0:E=0
 case neg =>
  have b0:(E != 0)=true:=by simp [h0]
  have RQ:Hid (R=(0,E)):=by unfold Hid;rw [OT.out,if_pos (by rw [HE.out];exact h0),HE.out]
  go_wp2
  go_ret2
  exact ⟨by rw [RQ.out];rfl,B2.out⟩
 have b0:(E != 0)=false:=by simp [h0]
 have HEZ:Hid (sctE c=0):=HE.out.trans h0
 have SC:Hid (ScV w2 c d q):=HSC.out h0 w2 K2.out
 have OT2:=OT.out
 rw [if_neg (by simp [HEZ.out])] at OT2
 have OT3:=Lib.hid OT2
 clear OT2 OT HE HSC K2 HB h0
 go_upto_region 5 with (go_at_call 21;refine (attr_any 1 name _).mono ?_;rintro e w' ⟨rfl,rfl⟩)
 by_cases ha:atE 1 name=0
 case neg =>
  have na:(atE 1 name != 0)=true:=by simp [ha]
  have RQ:Hid (R=(0,6)):=by unfold Hid;rw [OT3.out,if_pos ha]
  go_wp2
  go_ret2
  exact ⟨by rw [RQ.out];rfl,B2.out⟩
 have na:(atE 1 name != 0)=false:=by simp [ha]
 have hn:=duty_len name ha
 have OT4:=OT3.out
 rw [if_neg (by simp [ha])] at OT4
 have CW:=Lib.hid (scv_cw HEZ.out SC.out)
 have RW:=Lib.hid (scv_rs HEZ.out SC.out)
 have OW:=Lib.hid (scv_os HEZ.out SC.out)
 have KT:Hid (crT name (decide (atS 1 name=3)) d.cr=crL name (decide (atS 1 name=3)) (scrL c.cs c.cr)):=by unfold Hid;rw [crT_L,SC.out.ce]
 rw [← KT.out,← SC.out.re,← SC.out.oe] at OT4
 clear OT3 ha KT
 obtain ⟨clk,hck⟩:∃ clk,decide (atS 1 name=3)=clk:=⟨_,rfl⟩
 have ck:(atS 1 name==3)=clk:=by rw [← hck];rfl
 rw [hck] at OT4
 clear hck
 have CC:=Lib.hid (crT_any d q name clk w2 SC.out.cr CW.out.1 CW.out.2)
 obtain ⟨kt,hkt⟩:∃ kt,crT name clk d.cr=kt:=⟨_,rfl⟩
 rw [hkt] at OT4 CC
 clear hkt
 obtain ⟨QR,hQR⟩:∃ Q:Int→Ch→Int,Q=fun sc x=>quP sc x name clk kt false:=⟨_,rfl⟩
 obtain ⟨QC,hQC⟩:∃ Q:Int→Ch→Int,Q=fun sc x=>quP sc x name clk kt true:=⟨_,rfl⟩
 rw [← hQR,← hQC] at OT4
 have HQR:Hid (∀ sc x,QR sc (ec x)=quP sc x name clk kt false):=fun sc x=>(by rw [hQR];exact quP_ec _ _ _ _ _ _)
 have HQC:Hid (∀ sc x,QC sc (ec x)=quP sc x name clk kt true):=fun sc x=>(by rw [hQC];exact quP_ec _ _ _ _ _ _)
 clear hQR hQC
 obtain ⟨T1,hT1⟩:∃ T,totF QR (d.rs.map ruC) 0=T:=⟨_,rfl⟩
 obtain ⟨T2,hT2⟩:∃ T,totF QC (d.os.map coC) T1=T:=⟨_,rfl⟩
 rw [hT1,hT2] at OT4
 have RQ:=Lib.hid OT4
 have HT1:=Lib.hid hT1
 have HT2:=Lib.hid hT2
 clear OT4 hT1 hT2
 obtain ⟨c0,c1,c2,c3,c4,c5,c6,c7,c8,c9,c10,c11,c12,c13,hlt⟩:=X2.out
 go_upto_region 8 with (go_at_call 29;refine CC.out.mono ?_;rintro e w3 ⟨rfl,hb⟩)
 have HB3:=Lib.hid hb
 have X3:=Lib.hid (X2.out.next hb)
 have B3:=Lib.hid (B2.out.trans (hb.mono B2.out.size))
 clear c0 c1 c2 c3 c4 c5 c6 c7 c8 c9 c10 c11 c12 c13 hlt hb CC X2 na b0
 have lr:=SC.out.rs.1
 have lo:=SC.out.os.1
 have c8:=X3.out.c8
 go_wp2_with fail
 clear c8
 go_loopw [9,38] (fun tv i wr=>∃ (j:Nat) (T:Int),j≤d.rs.length∧tv=.int .i64 T∧i=.int .i64 j∧Hid (CtBox wr w.heap.size d q∧Below w2.heap.size w2 wr∧totF QR ((d.rs.drop j).map ruC) T=T1)) (fun _ i _=>d.rs.length - (intOf i).toNat)
 case atStart=>exact ⟨0,0,Nat.zero_le _,rfl,rfl,X3.out,HB3.out,HT1.out⟩
 case round =>
  obtain ⟨wx,hwr⟩:∃ z,z=wr:=⟨_,rfl⟩
  subst hwr
  obtain ⟨j,T,hj,rfl,rfl,HR⟩:=hrel
  by_cases hlt:j < d.rs.length
  · obtain ⟨x,hc⟩:∃ x,d.rs[j]?=some x:=⟨_,List.getElem?_eq_getElem (by omega)⟩
    obtain ⟨B,O,hp,hP⟩:=SC.out.rs.get hc
    obtain ⟨d0,d1,⟨⟨d2,d3,d4,d5⟩,hx,hok⟩,-⟩:=hP.next HR.out.2.1
    have HX:=Lib.hid hx
    have HOK:=Lib.hid hok
    have hj1:(j:Int) < (d.rs.length:Int):=by omega
    obtain ⟨r0,-,-,hs1,hs2⟩:=RW.out x (List.mem_of_getElem? hc)
    have SW:=Lib.hid (simp_wf c.cs x.sc r0.a r0.k ⟨x.b,x.o,x.a,x.k⟩ hs1 hs2)
    have TT:Hid (totF QR ((d.rs.drop (j+1)).map ruC) (cbE T (quP x.sc ⟨x.b,x.o,x.a,x.k⟩ name clk kt false))=T1):=by
     have h:=HR.out.2.2
     rw [drop_at hc,List.map_cons,totF_cons] at h
     unfold Hid
     rw [← HQR.out]
     exact h
    clear hP hc hx hok hs1 hs2
    rw [hp]
    go_upto_region 12 with (fail)
    have KB:=Lib.hid (below_box wx (.cells #[.int .i64 x.sc,.string x.name,.int .i64 x.a.op,.int .i64 x.a.num,.string x.a.name,.slice x.a.ptr (len x.k) x.a.cap] 65))
    have e0:(wx.alloc (.cells #[.int .i64 x.sc,.string x.name,.int .i64 x.a.op,.int .i64 x.a.num,.string x.a.name,.slice x.a.ptr (len x.k) x.a.cap] 65)).cell? ⟨wx.heap.size,0,none⟩=some (.int .i64 x.sc):=by simp [go_sem]
    have e1:(wx.alloc (.cells #[.int .i64 x.sc,.string x.name,.int .i64 x.a.op,.int .i64 x.a.num,.string x.a.name,.slice x.a.ptr (len x.k) x.a.cap] 65)).cell? ⟨wx.heap.size,1,none⟩=some (.string x.name):=by simp [go_sem]
    have e2:(wx.alloc (.cells #[.int .i64 x.sc,.string x.name,.int .i64 x.a.op,.int .i64 x.a.num,.string x.a.name,.slice x.a.ptr (len x.k) x.a.cap] 65)).cell? ⟨wx.heap.size,2,none⟩=some (.int .i64 x.a.op):=by simp [go_sem]
    have e3:(wx.alloc (.cells #[.int .i64 x.sc,.string x.name,.int .i64 x.a.op,.int .i64 x.a.num,.string x.a.name,.slice x.a.ptr (len x.k) x.a.cap] 65)).cell? ⟨wx.heap.size,3,none⟩=some (.int .i64 x.a.num):=by simp [go_sem]
    have e4:(wx.alloc (.cells #[.int .i64 x.sc,.string x.name,.int .i64 x.a.op,.int .i64 x.a.num,.string x.a.name,.slice x.a.ptr (len x.k) x.a.cap] 65)).cell? ⟨wx.heap.size,4,none⟩=some (.string x.a.name):=by simp [go_sem]
    have e5:(wx.alloc (.cells #[.int .i64 x.sc,.string x.name,.int .i64 x.a.op,.int .i64 x.a.num,.string x.a.name,.slice x.a.ptr (len x.k) x.a.cap] 65)).cell? ⟨wx.heap.size,5,none⟩=some (.slice x.a.ptr (len x.k) x.a.cap):=by simp [go_sem]
    have X4:=Lib.hid (HR.out.1.next KB.out)
    have B4:=Lib.hid (HR.out.2.1.trans (KB.out.mono HR.out.2.1.size))
    have XA:=Lib.hid (HX.out.next KB.out)
    generalize wx.alloc (.cells #[.int .i64 x.sc,.string x.name,.int .i64 x.a.op,.int .i64 x.a.num,.string x.a.name,.slice x.a.ptr (len x.k) x.a.cap] 65)=w5 at *
    clear d0 d1 d2 d3 d4 d5 KB
    go_wp2_with (first
     | (go_at_call 31;refine (qual_any x.sc ⟨x.b,x.o,x.a,x.k⟩ name clk kt false w5 XA.out SW.out.2.2.2.2 (by rw [Bool.and_eq_true];exact ⟨SW.out.1,SW.out.2.1⟩) (Nat.le_trans (sz_199 x.a x.k SW.out.2.2.2.1) (by decide)) hn).mono ?_;rintro e w6 ⟨rfl,hb⟩;have X6:=Lib.hid (X4.out.next hb);have B6:=Lib.hid (B4.out.trans (hb.mono B4.out.size));clear hb e0 e1 e2 e3 e4 e5)
     | (go_at_call 30;refine (tcomb_any _ _ _).mono ?_;rintro e w' ⟨rfl,rfl⟩))
    go_roundw
    case rel=>exact ⟨j+1,cbE T (quP x.sc ⟨x.b,x.o,x.a,x.k⟩ name clk kt false),by omega,rfl,by go_num,X6.out,B6.out,TT.out⟩
    case measure=>simp [intOf];omega
  have hj1:¬ (j:Int) < (d.rs.length:Int):=by omega
  have TE:Hid (T=T1):=by
   unfold Hid
   have h:=HR.out.2.2
   rw [List.drop_eq_nil_of_le (by omega)] at h
   exact h
  rw [TE.out]
  have X9:=Lib.hid HR.out.1
  have HB9:=Lib.hid HR.out.2.1
  clear HR TE hj hlt
  have c9:=X9.out.c9
  go_wp2_with fail
  clear c9
  go_loopw [9,57] (fun tv i wr=>∃ (j:Nat) (T:Int),j≤d.os.length∧tv=.int .i64 T∧i=.int .i64 j∧Hid (CtBox wr w.heap.size d q∧Below w2.heap.size w2 wr∧totF QC ((d.os.drop j).map coC) T=T2)) (fun _ i _=>d.os.length - (intOf i).toNat)
  case atStart=>exact ⟨0,T1,Nat.zero_le _,rfl,rfl,X9.out,HB9.out,HT2.out⟩
  case round =>
   obtain ⟨wy,hwr⟩:∃ z,z=wr:=⟨_,rfl⟩
   subst hwr
   obtain ⟨j,T,hj,rfl,rfl,HR⟩:=hrel
   by_cases hlt:j < d.os.length
   · obtain ⟨x,hc⟩:∃ x,d.os[j]?=some x:=⟨_,List.getElem?_eq_getElem (by omega)⟩
     obtain ⟨B,O,hp,hP⟩:=SC.out.os.get hc
     obtain ⟨d0,⟨⟨d2,d3,d4,d5⟩,hx,hok⟩,-⟩:=hP.next HR.out.2.1
     have HX:=Lib.hid hx
     have HOK:=Lib.hid hok
     have hj1:(j:Int) < (d.os.length:Int):=by omega
     obtain ⟨r0,-,-,hs1,hs2⟩:=OW.out x (List.mem_of_getElem? hc)
     have SW:=Lib.hid (simp_wf c.cs x.sc r0.a r0.k ⟨x.b,x.o,x.a,x.k⟩ hs1 hs2)
     have TT:Hid (totF QC ((d.os.drop (j+1)).map coC) (cbE T (quP x.sc ⟨x.b,x.o,x.a,x.k⟩ name clk kt true))=T2):=by
      have h:=HR.out.2.2
      rw [drop_at hc,List.map_cons,totF_cons] at h
      unfold Hid
      rw [← HQC.out]
      exact h
     clear hP hc hx hok hs1 hs2
     rw [hp]
     go_upto_region 17 with (fail)
     have KB:=Lib.hid (below_box wy (.cells #[.int .i64 x.sc,.int .i64 x.a.op,.int .i64 x.a.num,.string x.a.name,.slice x.a.ptr (len x.k) x.a.cap] 67))
     have e0:(wy.alloc (.cells #[.int .i64 x.sc,.int .i64 x.a.op,.int .i64 x.a.num,.string x.a.name,.slice x.a.ptr (len x.k) x.a.cap] 67)).cell? ⟨wy.heap.size,0,none⟩=some (.int .i64 x.sc):=by simp [go_sem]
     have e1:(wy.alloc (.cells #[.int .i64 x.sc,.int .i64 x.a.op,.int .i64 x.a.num,.string x.a.name,.slice x.a.ptr (len x.k) x.a.cap] 67)).cell? ⟨wy.heap.size,1,none⟩=some (.int .i64 x.a.op):=by simp [go_sem]
     have e2:(wy.alloc (.cells #[.int .i64 x.sc,.int .i64 x.a.op,.int .i64 x.a.num,.string x.a.name,.slice x.a.ptr (len x.k) x.a.cap] 67)).cell? ⟨wy.heap.size,2,none⟩=some (.int .i64 x.a.num):=by simp [go_sem]
     have e3:(wy.alloc (.cells #[.int .i64 x.sc,.int .i64 x.a.op,.int .i64 x.a.num,.string x.a.name,.slice x.a.ptr (len x.k) x.a.cap] 67)).cell? ⟨wy.heap.size,3,none⟩=some (.string x.a.name):=by simp [go_sem]
     have e4:(wy.alloc (.cells #[.int .i64 x.sc,.int .i64 x.a.op,.int .i64 x.a.num,.string x.a.name,.slice x.a.ptr (len x.k) x.a.cap] 67)).cell? ⟨wy.heap.size,4,none⟩=some (.slice x.a.ptr (len x.k) x.a.cap):=by simp [go_sem]
     have X4:=Lib.hid (HR.out.1.next KB.out)
     have B4:=Lib.hid (HR.out.2.1.trans (KB.out.mono HR.out.2.1.size))
     have XA:=Lib.hid (HX.out.next KB.out)
     generalize wy.alloc (.cells #[.int .i64 x.sc,.int .i64 x.a.op,.int .i64 x.a.num,.string x.a.name,.slice x.a.ptr (len x.k) x.a.cap] 67)=w5 at *
     clear d0 d2 d3 d4 d5 KB
     go_wp2_with (first
      | (go_at_call 31;refine (qual_any x.sc ⟨x.b,x.o,x.a,x.k⟩ name clk kt true w5 XA.out SW.out.2.2.2.2 (by rw [Bool.and_eq_true];exact ⟨SW.out.1,SW.out.2.1⟩) (Nat.le_trans (sz_199 x.a x.k SW.out.2.2.2.1) (by decide)) hn).mono ?_;rintro e w6 ⟨rfl,hb⟩;have X6:=Lib.hid (X4.out.next hb);have B6:=Lib.hid (B4.out.trans (hb.mono B4.out.size));clear hb e0 e1 e2 e3 e4)
      | (go_at_call 30;refine (tcomb_any _ _ _).mono ?_;rintro e w' ⟨rfl,rfl⟩))
     go_roundw
     case rel=>exact ⟨j+1,cbE T (quP x.sc ⟨x.b,x.o,x.a,x.k⟩ name clk kt true),by omega,rfl,by go_num,X6.out,B6.out,TT.out⟩
     case measure=>simp [intOf];omega
   have hj1:¬ (j:Int) < (d.os.length:Int):=by omega
   have TE:Hid (T=T2):=by
    unfold Hid
    have h:=HR.out.2.2
    rw [List.drop_eq_nil_of_le (by omega)] at h
    exact h
   rw [TE.out]
   go_wp2
   go_ret2
   exact ⟨by rw [RQ.out];rfl,B2.out.trans (HR.out.2.1.mono B2.out.size)⟩
end Go.Proofs.YtfoedbfkddoibaaGreat
