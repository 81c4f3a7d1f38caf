import Derived.Test.YtfoedbfkddoibaaGreatTdl
import Derived.Test.YtfoedbfkddoibaaGreatTdm
import Derived.Test.YtfoedbfkddoibaaGreatTdh
namespace Go.Proofs.YtfoedbfkddoibaaGreat
set_option linter.unusedVariables false
set_option linter.unusedSimpArgs false
open Go.ChangeShapes Go.WideShapes Go.ChangeAt Go.RowKit
open Go.Deep (BT)
set_option maxHeartbeats 8000000 in
set_option maxRecDepth 100000 in
theorem ocR_any (c:Ct) (p:Cp) (name:ByteArray) (w:World) (hv:CtV w c p) (hs:name.size≤9223372036854775807) :
 Calls Tryz.prog 17 #[.agg #[.int .i64 c.rep,.int .i64 c.rel,.int .i64 c.con,.int .i64 c.sit,.int .i64 c.lay,.int .i64 c.nf,.int .i64 c.nt,.slice p.cs c.cs.length p.ccs,.slice p.rs c.rs.length p.crs,.slice p.os c.os.length p.cos,.slice p.cr (len c.cr) p.ccr,.slice p.ls c.ls.length p.cls,.slice p.fs c.fs.length p.cfs,.int .i64 c.gua],.string name] w (AnP w (octT c name)):=by
 have HV:=Lib.hid hv
 have OR:=Lib.hid (octT_ref c name)
 have OT:Hid (octT c name=if sctE c≠0 then (0,sctE c) else if atE 1 name≠0 then (0,6) else (totF (fun sc x=>quP sc x name (decide (atS 1 name=3)) (crL name (decide (atS 1 name=3)) (scrL c.cs c.cr)) true) (c.os.flatMap (sosF c.cs))
  (totF (fun sc x=>quP sc x name (decide (atS 1 name=3)) (crL name (decide (atS 1 name=3)) (scrL c.cs c.cr)) false) (c.rs.flatMap (sruF c.cs)) 0),0)):=rfl
 generalize octT c name=R at *
 clear hv
 go_enter Tryz.func17,Tryz.ntmps17
 go_upto_region 1 with (fail)
 have X0:=Lib.hid (CtBox.start w c p)
 have B0:=Lib.hid (below_box w (.cells #[.int .i64 c.rep,.int .i64 c.rel,.int .i64 c.con,.int .i64 c.sit,.int .i64 c.lay,.int .i64 c.nf,.int .i64 c.nt,.slice p.cs c.cs.length p.ccs,.slice p.rs c.rs.length p.crs,.slice p.os c.os.length p.cos,.slice p.cr (len c.cr) p.ccr,.slice p.ls c.ls.length p.cls,.slice p.fs c.fs.length p.cfs,.int .i64 c.gua] 44))
 generalize w.alloc (.cells #[.int .i64 c.rep,.int .i64 c.rel,.int .i64 c.con,.int .i64 c.sit,.int .i64 c.lay,.int .i64 c.nf,.int .i64 c.nt,.slice p.cs c.cs.length p.ccs,.slice p.rs c.rs.length p.crs,.slice p.os c.os.length p.cos,.slice p.cr (len c.cr) p.ccr,.slice p.ls c.ls.length p.cls,.slice p.fs c.fs.length p.cfs,.int .i64 c.gua] 44)=w0 at *
 obtain ⟨c0,c1,c2,c3,c4,c5,c6,c7,c8,c9,c10,c11,c12,c13,hlt⟩:=X0.out
 obtain ⟨E,hE⟩:∃ E,sctE c=E:=⟨_,rfl⟩
 have HE:=Lib.hid hE
 have SF:=Lib.hid (sctR_any c p w0 (HV.out.next B0.out))
 rw [hE] at SF
 clear hE
 go_upto_region 2 with (go_at_call 32;refine SF.out.mono ?_;rintro e w1 ⟨d,q,rfl,hb,hsc⟩;have HB:=Lib.hid hb;have HSC:=Lib.hid hsc;clear c0 c1 c2 c3 c4 c5 c6 c7 c8 c9 c10 c11 c12 c13 hlt hb hsc)
 have B1:=Lib.hid (B0.out.trans (HB.out.mono B0.out.size))
 have X2:=Lib.hid (CtBox.start w1 d q)
 have B2:=Lib.hid (B1.out.trans ((below_box w1 (.cells #[.int .i64 d.rep,.int .i64 d.rel,.int .i64 d.con,.int .i64 d.sit,.int .i64 d.lay,.int .i64 d.nf,.int .i64 d.nt,.slice q.cs d.cs.length q.ccs,.slice q.rs d.rs.length q.crs,.slice q.os d.os.length q.cos,.slice q.cr (len d.cr) q.ccr,.slice q.ls d.ls.length q.cls,.slice q.fs d.fs.length q.cfs,.int .i64 d.gua] 44)).mono B1.out.size))
 have D2:=Lib.hid (below_box w1 (.cells #[.int .i64 d.rep,.int .i64 d.rel,.int .i64 d.con,.int .i64 d.sit,.int .i64 d.lay,.int .i64 d.nf,.int .i64 d.nt,.slice q.cs d.cs.length q.ccs,.slice q.rs d.rs.length q.crs,.slice q.os d.os.length q.cos,.slice q.cr (len d.cr) q.ccr,.slice q.ls d.ls.length q.cls,.slice q.fs d.fs.length q.cfs,.int .i64 d.gua] 44))
 generalize w1.alloc (.cells #[.int .i64 d.rep,.int .i64 d.rel,.int .i64 d.con,.int .i64 d.sit,.int .i64 d.lay,.int .i64 d.nf,.int .i64 d.nt,.slice q.cs d.cs.length q.ccs,.slice q.rs d.rs.length q.crs,.slice q.os d.os.length q.cos,.slice q.cr (len d.cr) q.ccr,.slice q.ls d.ls.length q.cls,.slice q.fs d.fs.length q.cfs,.int .i64 d.gua] 44)=w2 at *
 clear X0 SF B0
 by_cases h0:E=0
 case neg =>
  have b0:(E != 0)=true:=by simp [h0]
  have RQ:Hid (R=(0,E)):=by unfold Hid;rw [OT.out,if_pos (by rw [HE.out];exact h0),HE.out]
  go_wp2
  go_ret2
  exact ⟨by rw [RQ.out];rfl,B2.out⟩
 have b0:(E != 0)=false:=by simp [h0]
 have HEZ:Hid (sctE c=0):=HE.out.trans h0
 have SC1:Hid (ScV w1 c d q):=HSC.out h0 w1 (KeepX.refl _ _ _)
 have SC:Hid (ScV w2 c d q):=⟨SC1.out.rs.map fun _ _ _ h=>h.next D2.out,SC1.out.re,SC1.out.os.map fun _ _ _ h=>h.next D2.out,SC1.out.oe,SC1.out.cr.next D2.out,SC1.out.ce⟩
 clear HE HSC HB h0 SC1 D2 B1
 obtain ⟨g,hg⟩:∃ g,w1.heap.size=g:=⟨_,rfl⟩
 rw [hg] at X2
 rw [hg]
 clear hg
 go_upto_region 5 with (go_at_call 24;refine (ratt_duty name _ hs).mono ?_;rintro e w3 ⟨rfl,hb⟩)
 have SC3:Hid (ScV w3 c d q):=⟨SC.out.rs.map fun _ _ _ h=>h.next hb,SC.out.re,SC.out.os.map fun _ _ _ h=>h.next hb,SC.out.oe,SC.out.cr.next hb,SC.out.ce⟩
 have X3:=Lib.hid (X2.out.next hb)
 have B3:=Lib.hid (B2.out.trans (hb.mono B2.out.size))
 clear hb X2 B2 SC
 by_cases ha:atE 1 name=0
 case neg =>
  have na:(atE 1 name != 0)=true:=by simp [ha]
  have RQ:Hid (R=(0,6)):=by unfold Hid;rw [OT.out,if_neg (by simp [HEZ.out]),if_pos ha]
  have e6:atE 1 name=6:=(atE_val 1 name).resolve_left ha
  go_wp2
  go_ret2
  exact ⟨by rw [RQ.out,e6];rfl,B3.out⟩
 have na:(atE 1 name != 0)=false:=by simp [ha]
 have hn:=duty_len name ha
 have OT4:=OR.out HEZ.out ha
 have RW:=Lib.hid (scv_rs HEZ.out SC3.out)
 have OW:=Lib.hid (scv_os HEZ.out SC3.out)
 have CR:=Lib.hid (scv_cr HEZ.out SC3.out)
 have KT:Hid (crT name (decide (atS 1 name=3)) d.cr=crL name (decide (atS 1 name=3)) (scrL c.cs c.cr)):=by unfold Hid;rw [crT_L,SC3.out.ce]
 rw [← KT.out,← SC3.out.re,← SC3.out.oe] at OT4
 clear OT OR ha KT
 obtain ⟨kt,hkt⟩:∃ kt,crT name (decide (atS 1 name=3)) d.cr=kt:=⟨_,rfl⟩
 rw [hkt] at OT4
 have PT:Hid (∀ (wk:World) (sc:Int) (x:Ch),Below w3.heap.size w3 wk→SxV wk sc x→Calls Tryz.prog 34 #[.agg #[.int .i64 d.rep,.int .i64 d.rel,.int .i64 d.con,.int .i64 d.sit,.int .i64 d.lay,.int .i64 d.nf,.int .i64 d.nt,.slice q.cs d.cs.length q.ccs,.slice q.rs d.rs.length q.crs,.slice q.os d.os.length q.cos,.slice q.cr (len d.cr) q.ccr,.slice q.ls d.ls.length q.cls,.slice q.fs d.fs.length q.cfs,.int .i64 d.gua],.int .i64 sc,.agg #[.int .i64 x.a.op,.int .i64 x.a.num,.string x.a.name,.slice x.a.ptr (len x.k) x.a.cap],.string name] wk fun e w'=>e=.returned (.int .i64 (paR sc x name kt))∧Below wk.heap.size wk w'):=fun wk sc x hb hx=>(by
  have h:=part_any d q sc x name wk (SC3.out.cr.next hb) hx (fun b o a k r e=>by
   rcases CR.out with e2|⟨b2,o2,a2,k2,a0,k0,e2,h1,h2⟩
   · rw [e2] at e;cases e
   · rw [e2] at e
     obtain ⟨rfl,rfl,rfl,rfl,rfl⟩:=BT.node.inj e
     have hat:=SC3.out.cr.next hb
     rw [e2] at hat
     obtain ⟨-,-,bq,oq,-,ha⟩:=hat
     exact SxV.of h1 h2 ⟨ha.2.1,ha.2.2.1⟩) hn
  rw [hkt] at h
  exact h)
 clear hkt
 obtain ⟨QR,hQR⟩:∃ Q:Int→Ch→Int,Q=fun sc x=>paR sc x name kt:=⟨_,rfl⟩
 obtain ⟨QC,hQC⟩:∃ Q:Int→Ch→Int,Q=fun sc x=>ivE (paR sc x name kt):=⟨_,rfl⟩
 rw [← hQR,← hQC] at OT4
 have HQR:Hid (∀ sc x,QR sc (ec x)=paR sc x name kt):=fun sc x=>(by rw [hQR];exact paR_ec _ _ _ _)
 have HQC:Hid (∀ sc x,QC sc (ec x)=ivE (paR sc x name kt)):=fun sc x=>(by rw [hQC];show ivE (paR sc (ec x) name kt)=_;rw [paR_ec])
 clear hQR hQC
 obtain ⟨T1,hT1⟩:∃ T,totF QR (d.rs.map ruC) 0=T:=⟨_,rfl⟩
 obtain ⟨T2,hT2⟩:∃ T,totF QC (d.os.map coC) T1=T:=⟨_,rfl⟩
 rw [hT1,hT2] at OT4
 have RQ:=Lib.hid OT4
 have HT1:=Lib.hid hT1
 have HT2:=Lib.hid hT2
 clear OT4 hT1 hT2 b0
 have lr:=SC3.out.rs.1
 have lo:=SC3.out.os.1
 go_wp2_with fail
 go_loopw [10,11] (fun tv i wr=>∃ (j:Nat) (T:Int),j≤d.rs.length∧tv=.int .i64 T∧i=.int .i64 j∧Hid (CtBox wr g d q∧Below w3.heap.size w3 wr∧totF QR ((d.rs.drop j).map ruC) T=T1)) (fun _ i _=>d.rs.length - (intOf i).toNat)
 case atStart=>exact ⟨0,0,Nat.zero_le _,rfl,rfl,X3.out,Below.refl _ _,HT1.out⟩
 case round =>
  obtain ⟨wx,hwr⟩:∃ z,z=wr:=⟨_,rfl⟩
  subst hwr
  obtain ⟨j,T,hj,rfl,rfl,HR⟩:=hrel
  obtain ⟨c0,c1,c2,c3,c4,c5,c6,c7,c8,c9,c10,c11,c12,c13,hcl⟩:=HR.out.1
  by_cases hlt:j < d.rs.length
  · obtain ⟨x,hc⟩:∃ x,d.rs[j]?=some x:=⟨_,List.getElem?_eq_getElem (by omega)⟩
    obtain ⟨B,O,hp,hP⟩:=SC3.out.rs.get hc
    obtain ⟨d0,d1,⟨⟨d2,d3,d4,d5⟩,hx,hok⟩,-⟩:=hP.next HR.out.2.1
    have HX:=Lib.hid hx
    have hj1:(j:Int) < (d.rs.length:Int):=by omega
    obtain ⟨r0,-,-,hs1,hs2⟩:=RW.out x (List.mem_of_getElem? hc)
    have XS:Hid (SxV wx x.sc ⟨x.b,x.o,x.a,x.k⟩):=SxV.of hs1 hs2 hx
    have TT:Hid (totF QR ((d.rs.drop (j+1)).map ruC) (cbE T (paR x.sc ⟨x.b,x.o,x.a,x.k⟩ name kt))=T1):=by
     have h:=HR.out.2.2
     rw [drop_at hc,List.map_cons,totF_cons] at h
     unfold Hid
     rw [← HQR.out]
     exact h
    clear hP hc hx hok hs1 hs2
    have C1:Hid (∀ dq os,Calls Tryz.prog 34 #[.agg #[.int .i64 d.rep,.int .i64 d.rel,.int .i64 d.con,.int .i64 d.sit,.int .i64 d.lay,.int .i64 d.nf,.int .i64 d.nt,.slice q.cs d.cs.length q.ccs,.slice (some ⟨B,O,none⟩) d.rs.length q.crs,.slice q.os d.os.length q.cos,.slice q.cr (len d.cr) q.ccr,.slice q.ls d.ls.length q.cls,.slice q.fs d.fs.length q.cfs,.int .i64 d.gua],.int .i64 x.sc,.agg #[.int .i64 x.a.op,.int .i64 x.a.num,.string x.a.name,.slice x.a.ptr (len x.k) x.a.cap],.string name] (Sort.grow (redrawn wx dq) os)
     fun e w''=>e=.returned (.int .i64 (paR x.sc ⟨x.b,x.o,x.a,x.k⟩ name kt))∧∃ p:Regrown,w''=Sort.grow (redrawn wx p.d) p.os):=by
     intro dq os
     have hb:=below_regrown wx dq os
     have h:=PT.out (Sort.grow (redrawn wx dq) os) x.sc ⟨x.b,x.o,x.a,x.k⟩ (HR.out.2.1.trans (hb.mono HR.out.2.1.size)) (XS.out.next hb)
     rw [hp] at h
     exact Calls.regrown_of h
    have C2:Hid (∀ (a b:Int) dq os,Calls Tryz.prog 33 #[.int .i64 a,.int .i64 b] (Sort.grow (redrawn wx dq) os)
     fun e w''=>e=.returned (.int .i64 (cbE a b))∧∃ p:Regrown,w''=Sort.grow (redrawn wx p.d) p.os):=by
     intro a b dq os
     exact (rcomb_any a b _).mono fun e w'' ⟨h1,h2⟩=>⟨h1,⟨dq,os⟩,h2.symm⟩
    rw [hp] at c8
    rw [hp]
    go_upto_region 11 with (fail)
    have e0:=fun d os=>cell_regrown c0 d os
    have e1:=fun d os=>cell_regrown c1 d os
    have e2:=fun d os=>cell_regrown c2 d os
    have e3:=fun d os=>cell_regrown c3 d os
    have e4:=fun d os=>cell_regrown c4 d os
    have e5:=fun d os=>cell_regrown c5 d os
    have e6:=fun d os=>cell_regrown c6 d os
    have e7:=fun d os=>cell_regrown c7 d os
    have e8:=fun d os=>cell_regrown c8 d os
    have e9:=fun d os=>cell_regrown c9 d os
    have e10:=fun d os=>cell_regrown c10 d os
    have e11:=fun d os=>cell_regrown c11 d os
    have e12:=fun d os=>cell_regrown c12 d os
    have e13:=fun d os=>cell_regrown c13 d os
    have r0:=fun d os=>cell_regrown d0 d os
    have r1:=fun d os=>cell_regrown d1 d os
    have r2:=fun d os=>cell_regrown d2 d os
    have r3:=fun d os=>cell_regrown d3 d os
    have r4:=fun d os=>cell_regrown d4 d os
    have r5:=fun d os=>cell_regrown d5 d os
    refine wp_region_quiet_below (by kernel_rfl) (by kernel_rfl) ?_
    repeat (quiet_step (with_reducible first|exact C1.out _ _|exact C2.out _ _ _ _))
    refine wpQuiet_nil ?_
    intro _ hw'
    obtain ⟨⟨dq,osq⟩,hw''⟩:=hw'
    subst hw''
    have hb:=below_regrown wx dq osq
    clear e0 e1 e2 e3 e4 e5 e6 e7 e8 e9 e10 e11 e12 e13 c0 c1 c2 c3 c4 c5 c6 c7 c8 c9 c10 c11 c12 c13 r0 r1 r2 r3 r4 r5 d0 d1 d2 d3 d4 d5 C1 C2 hcl
    generalize Sort.grow (redrawn wx dq) osq=w6 at *
    have X6:=Lib.hid (HR.out.1.next hb)
    have B6:=Lib.hid (HR.out.2.1.trans (hb.mono HR.out.2.1.size))
    clear hb
    go_wp2
    go_roundw
    case rel=>exact ⟨j+1,cbE T (paR x.sc ⟨x.b,x.o,x.a,x.k⟩ name kt),by omega,rfl,by go_num,X6.out,B6.out,TT.out⟩
    case measure=>simp [intOf];omega
  have hj1:¬ (j:Int) < (d.rs.length:Int):=by omega
  have TE:Hid (T=T1):=by
   unfold Hid
   have h:=HR.out.2.2
   rw [List.drop_eq_nil_of_le (by omega)] at h
   exact h
  rw [TE.out]
  have X9:=Lib.hid HR.out.1
  have HB9:=Lib.hid HR.out.2.1
  clear HR TE hj hlt
  go_wp2_with fail
  clear c0 c1 c2 c3 c4 c5 c6 c7 c8 c9 c10 c11 c12 c13 hcl
  go_loopw [10,12] (fun tv i wr=>∃ (j:Nat) (T:Int),j≤d.os.length∧tv=.int .i64 T∧i=.int .i64 j∧Hid (CtBox wr g d q∧Below w3.heap.size w3 wr∧totF QC ((d.os.drop j).map coC) T=T2)) (fun _ i _=>d.os.length - (intOf i).toNat)
  case atStart=>exact ⟨0,T1,Nat.zero_le _,rfl,rfl,X9.out,HB9.out,HT2.out⟩
  case round =>
   obtain ⟨wy,hwr⟩:∃ z,z=wr:=⟨_,rfl⟩
   subst hwr
   obtain ⟨j,T,hj,rfl,rfl,HR⟩:=hrel
   obtain ⟨c0,c1,c2,c3,c4,c5,c6,c7,c8,c9,c10,c11,c12,c13,hcl⟩:=HR.out.1
   by_cases hlt:j < d.os.length
   · obtain ⟨x,hc⟩:∃ x,d.os[j]?=some x:=⟨_,List.getElem?_eq_getElem (by omega)⟩
     obtain ⟨B,O,hp,hP⟩:=SC3.out.os.get hc
     obtain ⟨d0,⟨⟨d2,d3,d4,d5⟩,hx,hok⟩,-⟩:=hP.next HR.out.2.1
     have HX:=Lib.hid hx
     have hj1:(j:Int) < (d.os.length:Int):=by omega
     obtain ⟨r0,-,-,hs1,hs2⟩:=OW.out x (List.mem_of_getElem? hc)
     have XS:Hid (SxV wy x.sc ⟨x.b,x.o,x.a,x.k⟩):=SxV.of hs1 hs2 hx
     have TT:Hid (totF QC ((d.os.drop (j+1)).map coC) (cbE T (ivE (paR x.sc ⟨x.b,x.o,x.a,x.k⟩ name kt)))=T2):=by
      have h:=HR.out.2.2
      rw [drop_at hc,List.map_cons,totF_cons] at h
      unfold Hid
      rw [← HQC.out]
      exact h
     clear hP hc hx hok hs1 hs2
     have C1:Hid (∀ dq os,Calls Tryz.prog 34 #[.agg #[.int .i64 d.rep,.int .i64 d.rel,.int .i64 d.con,.int .i64 d.sit,.int .i64 d.lay,.int .i64 d.nf,.int .i64 d.nt,.slice q.cs d.cs.length q.ccs,.slice q.rs d.rs.length q.crs,.slice (some ⟨B,O,none⟩) d.os.length q.cos,.slice q.cr (len d.cr) q.ccr,.slice q.ls d.ls.length q.cls,.slice q.fs d.fs.length q.cfs,.int .i64 d.gua],.int .i64 x.sc,.agg #[.int .i64 x.a.op,.int .i64 x.a.num,.string x.a.name,.slice x.a.ptr (len x.k) x.a.cap],.string name] (Sort.grow (redrawn wy dq) os)
      fun e w''=>e=.returned (.int .i64 (paR x.sc ⟨x.b,x.o,x.a,x.k⟩ name kt))∧∃ p:Regrown,w''=Sort.grow (redrawn wy p.d) p.os):=by
      intro dq os
      have hb:=below_regrown wy dq os
      have h:=PT.out (Sort.grow (redrawn wy dq) os) x.sc ⟨x.b,x.o,x.a,x.k⟩ (HR.out.2.1.trans (hb.mono HR.out.2.1.size)) (XS.out.next hb)
      rw [hp] at h
      exact Calls.regrown_of h
     have C2:Hid (∀ (a b:Int) dq os,Calls Tryz.prog 33 #[.int .i64 a,.int .i64 b] (Sort.grow (redrawn wy dq) os)
      fun e w''=>e=.returned (.int .i64 (cbE a b))∧∃ p:Regrown,w''=Sort.grow (redrawn wy p.d) p.os):=by
      intro a b dq os
      exact (rcomb_any a b _).mono fun e w'' ⟨h1,h2⟩=>⟨h1,⟨dq,os⟩,h2.symm⟩
     have C3:Hid (∀ (a:Int) dq os,Calls Tryz.prog 35 #[.int .i64 a] (Sort.grow (redrawn wy dq) os)
      fun e w''=>e=.returned (.int .i64 (ivE a))∧∃ p:Regrown,w''=Sort.grow (redrawn wy p.d) p.os):=by
      intro a dq os
      exact (rinv_any a _).mono fun e w'' ⟨h1,h2⟩=>⟨h1,⟨dq,os⟩,h2.symm⟩
     rw [hp] at c9
     rw [hp]
     go_upto_region 15 with (fail)
     have e0:=fun d os=>cell_regrown c0 d os
     have e1:=fun d os=>cell_regrown c1 d os
     have e2:=fun d os=>cell_regrown c2 d os
     have e3:=fun d os=>cell_regrown c3 d os
     have e4:=fun d os=>cell_regrown c4 d os
     have e5:=fun d os=>cell_regrown c5 d os
     have e6:=fun d os=>cell_regrown c6 d os
     have e7:=fun d os=>cell_regrown c7 d os
     have e8:=fun d os=>cell_regrown c8 d os
     have e9:=fun d os=>cell_regrown c9 d os
     have e10:=fun d os=>cell_regrown c10 d os
     have e11:=fun d os=>cell_regrown c11 d os
     have e12:=fun d os=>cell_regrown c12 d os
     have e13:=fun d os=>cell_regrown c13 d os
     have r0:=fun d os=>cell_regrown d0 d os
     have r1:=fun d os=>cell_regrown d2 d os
     have r2:=fun d os=>cell_regrown d3 d os
     have r3:=fun d os=>cell_regrown d4 d os
     have r4:=fun d os=>cell_regrown d5 d os
     refine wp_region_quiet_below (by kernel_rfl) (by kernel_rfl) ?_
     repeat (quiet_step (with_reducible first|exact C1.out _ _|exact C2.out _ _ _ _|exact C3.out _ _ _))
     refine wpQuiet_nil ?_
     intro _ hw'
     obtain ⟨⟨dq,osq⟩,hw''⟩:=hw'
     subst hw''
     have hb:=below_regrown wy dq osq
     clear e0 e1 e2 e3 e4 e5 e6 e7 e8 e9 e10 e11 e12 e13 c0 c1 c2 c3 c4 c5 c6 c7 c8 c9 c10 c11 c12 c13 r0 r1 r2 r3 r4 d0 d2 d3 d4 d5 C1 C2 C3 hcl
     generalize Sort.grow (redrawn wy dq) osq=w6 at *
     have X6:=Lib.hid (HR.out.1.next hb)
     have B6:=Lib.hid (HR.out.2.1.trans (hb.mono HR.out.2.1.size))
     clear hb
     go_wp2
     go_roundw
     case rel=>exact ⟨j+1,cbE T (ivE (paR x.sc ⟨x.b,x.o,x.a,x.k⟩ name kt)),by omega,rfl,by go_num,X6.out,B6.out,TT.out⟩
     case measure=>simp [intOf];omega
   have hj1:¬ (j:Int) < (d.os.length:Int):=by omega
   have TE:Hid (T=T2):=by
    unfold Hid
    have h:=HR.out.2.2
    rw [List.drop_eq_nil_of_le (by omega)] at h
    exact h
   rw [TE.out]
   go_wp2
   go_ret2
   exact ⟨by rw [RQ.out];rfl,B3.out.trans (HR.out.2.1.mono B3.out.size)⟩
end Go.Proofs.YtfoedbfkddoibaaGreat
