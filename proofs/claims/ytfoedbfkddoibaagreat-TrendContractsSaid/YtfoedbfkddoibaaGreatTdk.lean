import Derived.Test.YtfoedbfkddoibaaGreatTdj
namespace Go.Proofs.YtfoedbfkddoibaaGreat
set_option linter.unusedVariables false
set_option linter.unusedSimpArgs false
open Go.ChangeShapes Go.WideShapes Go.ChangeAt Go.RowKit
open Go.Deep (BT)
theorem Tryz.infoRu:(Tryz.prog.info? 65).map (fun i=>(i.zero,i.size,i.bytes))=some (some (.agg #[.int .i64 0,.string ⟨#[]⟩,.int .i64 0,.int .i64 0,.string ⟨#[]⟩,.slice none 0 0]),6,80):=by kernel_rfl
theorem Tryz.infoCo:(Tryz.prog.info? 67).map (fun i=>(i.zero,i.size,i.bytes))=some (some (.agg #[.int .i64 0,.int .i64 0,.int .i64 0,.string ⟨#[]⟩,.slice none 0 0]),5,64):=by kernel_rfl
theorem Tryz.infoXp:(Tryz.prog.info? 25).map (fun i=>(i.zero,i.size,i.bytes))=some (some (.agg #[.int .i64 0,.int .i64 0,.string ⟨#[]⟩,.slice none 0 0]),4,56):=by kernel_rfl
theorem one_ru (r:Ru):∀ u ∈ ruCl r,u.oneCell'=true:=by
 intro u hu
 simp only [ruCl,List.mem_cons,List.not_mem_nil,or_false] at hu
 rcases hu with rfl|rfl|rfl|rfl|rfl|rfl<;>rfl
theorem one_co (r:Co):∀ u ∈ coCl r,u.oneCell'=true:=by
 intro u hu
 simp only [coCl,List.mem_cons,List.not_mem_nil,or_false] at hu
 rcases hu with rfl|rfl|rfl|rfl|rfl<;>rfl
theorem one_ch (r:Ch):∀ u ∈ chC r,u.oneCell'=true:=by
 intro u hu
 simp only [chC,List.mem_cons,List.not_mem_nil,or_false] at hu
 rcases hu with rfl|rfl|rfl|rfl<;>rfl
def ChP (w:World) (B O:Nat) (c:Ch):Prop:=(w.cell? ⟨B,O,none⟩=some (.int .i64 c.a.op)∧w.cell? ⟨B,O+1,none⟩=some (.int .i64 c.a.num)∧w.cell? ⟨B,O+2,none⟩=some (.string c.a.name)∧w.cell? ⟨B,O+3,none⟩=some (.slice c.a.ptr (len c.k) c.a.cap))∧ExAt w c.b c.o c.a c.k
theorem fo_of_chp {w:World} (L:List Ch) (B O:Nat) (h:∀ (i:Nat) (x:Ch),L[i]?=some x→ChP w B (O+i * 4) x):FoAt w (rowF L) B O:=by
 induction L generalizing O with
 | nil=>trivial
 | cons c l ih =>
   have h0:=h 0 c rfl
   simp only [Nat.zero_mul,Nat.add_zero] at h0
   refine ⟨h0.1,h0.2.1,h0.2.2,ih (O+4) fun i x hi=>?_⟩
   have:=h (i+1) x (by simpa using hi)
   rw [show O+(i+1) * 4=O+4+i * 4 by omega] at this
   exact this
theorem fook_row (L:List Ch) (h:∀ y ∈ L,ExOk y.a y.k):FoOk (rowF L):=by
 induction L with
 | nil=>trivial
 | cons c l ih=>exact ⟨(h c (by simp)).1,(h c (by simp)).2,ih fun y hy=>h y (by simp [hy])⟩
theorem crv_of {w:World} {L:List Ch} {p:Option Addr} (h:RowV ChP 4 w L p) (hok:∀ y ∈ L,ExOk y.a y.k):CrV w (rowF L) p:=by
 obtain ⟨h0,B,O,h1,h2⟩:=h
 refine ⟨by rw [rowF_len];exact h0,fook_row L hok,B,O,fun q=>h1 (by rintro rfl;exact q rfl),fo_of_chp L B O h2⟩
set_option maxHeartbeats 16000000 in
set_option maxRecDepth 100000 in
theorem sctF_any (c:Ct) (p:Cp) (w:World) (hv:CtV w c p) :
 Calls Tryz.prog 28 #[.agg #[.int .i64 c.rep,.int .i64 c.rel,.int .i64 c.con,.int .i64 c.sit,.int .i64 c.lay,.int .i64 c.nf,.int .i64 c.nt,.slice p.cs c.cs.length p.ccs,.slice p.rs c.rs.length p.crs,.slice p.os c.os.length p.cos,.slice p.cr (len c.cr) p.ccr,.slice p.ls c.ls.length p.cls,.slice p.fs c.fs.length p.cfs,.int .i64 c.gua]] w (ScP w (fun k=>k < w.heap.size) c (sctE c)):=by
 obtain ⟨ir,hir,hir0,hir1,hir2⟩:=info_parts Tryz.infoRu
 obtain ⟨io,hio,hio0,hio1,hio2⟩:=info_parts Tryz.infoCo
 obtain ⟨ix,hix,hix0,hix1,hix2⟩:=info_parts Tryz.infoXp
 have HV:=Lib.hid hv
 clear hv
 obtain ⟨R,hR⟩:∃ R,sctE c=R:=⟨_,rfl⟩
 rw [hR]
 obtain ⟨E0,hE0⟩:∃ E,tvalC c=E:=⟨_,rfl⟩
 obtain ⟨E1,hE1⟩:∃ E,fe (sruE c.cs c.rs) 0 c.rs.length=E:=⟨_,rfl⟩
 obtain ⟨E2,hE2⟩:∃ E,fe (sosE c.cs c.os) 0 c.os.length=E:=⟨_,rfl⟩
 obtain ⟨E3,hE3⟩:∃ E,scrE c.cs c.cr=E:=⟨_,rfl⟩
 have G0:Hid (R=orE E0 (orE E1 (orE E2 E3))):=by unfold Hid;rw [← hR,← hE0,← hE1,← hE2,← hE3];rfl
 have HE0:=Lib.hid hE0
 have HE1:=Lib.hid hE1
 have HE2:=Lib.hid hE2
 have HE3:=Lib.hid hE3
 clear hR hE0 hE1 hE2 hE3
 go_enter Tryz.func28,Tryz.ntmps28
 go_upto_region 1 with (fail)
 have X0:=Lib.hid ((CtBox.start w c p).next (below_box _ (.cells #[.int .i64 0,.int .i64 0,.int .i64 0,.int .i64 0,.int .i64 0,.int .i64 0,.int .i64 0,.slice none 0 0,.slice none 0 0,.slice none 0 0,.slice none 0 0,.slice none 0 0,.slice none 0 0,.int .i64 0] 44)))
 have Z0:=Lib.hid (OutB.zero (w.alloc (.cells #[.int .i64 c.rep,.int .i64 c.rel,.int .i64 c.con,.int .i64 c.sit,.int .i64 c.lay,.int .i64 c.nf,.int .i64 c.nt,.slice p.cs c.cs.length p.ccs,.slice p.rs c.rs.length p.crs,.slice p.os c.os.length p.cos,.slice p.cr (len c.cr) p.ccr,.slice p.ls c.ls.length p.cls,.slice p.fs c.fs.length p.cfs,.int .i64 c.gua] 44)))
 rw [World.size_alloc] at Z0
 have B0:Hid (Below w.heap.size w ((w.alloc (.cells #[.int .i64 c.rep,.int .i64 c.rel,.int .i64 c.con,.int .i64 c.sit,.int .i64 c.lay,.int .i64 c.nf,.int .i64 c.nt,.slice p.cs c.cs.length p.ccs,.slice p.rs c.rs.length p.crs,.slice p.os c.os.length p.cos,.slice p.cr (len c.cr) p.ccr,.slice p.ls c.ls.length p.cls,.slice p.fs c.fs.length p.cfs,.int .i64 c.gua] 44)).alloc (.cells #[.int .i64 0,.int .i64 0,.int .i64 0,.int .i64 0,.int .i64 0,.int .i64 0,.int .i64 0,.slice none 0 0,.slice none 0 0,.slice none 0 0,.slice none 0 0,.slice none 0 0,.slice none 0 0,.int .i64 0] 44))):=((Below.refl _ _).alloc (Nat.le_refl _) _).alloc (by simp) _
 generalize (w.alloc (.cells #[.int .i64 c.rep,.int .i64 c.rel,.int .i64 c.con,.int .i64 c.sit,.int .i64 c.lay,.int .i64 c.nf,.int .i64 c.nt,.slice p.cs c.cs.length p.ccs,.slice p.rs c.rs.length p.crs,.slice p.os c.os.length p.cos,.slice p.cr (len c.cr) p.ccr,.slice p.ls c.ls.length p.cls,.slice p.fs c.fs.length p.cfs,.int .i64 c.gua] 44)).alloc (.cells #[.int .i64 0,.int .i64 0,.int .i64 0,.int .i64 0,.int .i64 0,.int .i64 0,.int .i64 0,.slice none 0 0,.slice none 0 0,.slice none 0 0,.slice none 0 0,.slice none 0 0,.slice none 0 0,.int .i64 0] 44)=w0 at *
 obtain ⟨c0,c1,c2,c3,c4,c5,c6,c7,c8,c9,c10,c11,c12,c13,hlt⟩:=X0.out
 go_wp2_with fail
 refine (tval_any c p w0 (HV.out.next B0.out)).mono ?_
 rw [HE0.out]
 rintro e w1 ⟨rfl,hb⟩
 have X1:=Lib.hid (X0.out.next hb)
 have Z1:=Lib.hid (Z0.out.next hb)
 have B1:=Lib.hid (B0.out.trans (hb.mono B0.out.size))
 clear hb c0 c1 c2 c3 c4 c5 c6 c7 c8 c9 c10 c11 c12 c13 hlt X0 Z0 B0
 by_cases z1:E0=0
 case neg =>
  have RQ:Hid (R=E0):=by unfold Hid;rw [G0.out,orE_ne z1]
  have ee:=z1
  have b0:(E0 != 0)=true:=by simp [ee]
  obtain ⟨z0,z1,z2,z3,z4,z5,z6,z7,z8,z9,z10,z11,z12,z13,zf0,zf1,zf2,zf3,zf4,zf5,zf6,zf7,zf8,zf9,zf10,zf11,zf12,zf13⟩:=Z1.out.zf
  have RZ:R≠0:=by rw [RQ.out];exact ee
  have RZ2:=Lib.hid RZ
  clear ee RZ
  go_wp2
  refine bodyPost_ret (v:=.tuple #[.agg #[.int .i64 0,.int .i64 0,.int .i64 0,.int .i64 0,.int .i64 0,.int .i64 0,.int .i64 0,.slice none 0 0,.slice none 0 0,.slice none 0 0,.slice none 0 0,.slice none 0 0,.slice none 0 0,.int .i64 0],.int .i64 E0]) ?_ rfl ?_
  · rw [results_cell_tmp rfl];go_simp
  · refine ⟨zeroC,zeroP,by rw [RQ.out];rfl,?_,fun q=>absurd q RZ2.out⟩
    repeat (refine Below.setCell ?_ (Nat.le_succ _) _)
    exact B1.out
 have b0:(E0 != 0)=false:=by simp [z1]
 have HE0z:Hid (tvalC c=0):=HE0.out.trans z1
 have G1:Hid (R=orE E1 (orE E2 E3)):=by unfold Hid;rw [G0.out,z1,orE_zero]
 clear z1 G0 HE0
 have PARTS:=Lib.hid (tval_parts c HE0z.out)
 have HCS:=Lib.hid (csv_of_row HV.out.cs PARTS.out.1.1)
 obtain ⟨l0,l1,l2,l3,l4,l5⟩:=PARTS.out.1
 obtain ⟨c0,c1,c2,c3,c4,c5,c6,c7,c8,c9,c10,c11,c12,c13,hlt⟩:=X1.out
 go_upto_region 6 with (fail)
 have T5:OutB (w1.alloc (.cells #[.int .i64 c.rep,.int .i64 c.rel,.int .i64 c.con,.int .i64 c.sit,.int .i64 c.lay,.int .i64 c.nf,.int .i64 c.nt,.slice none 0 0,.slice none 0 0,.slice none 0 0,.slice none 0 0,.slice p.ls c.ls.length p.cls,.slice p.fs c.fs.length p.cfs,.int .i64 c.gua] 44)) w1.heap.size c (.slice none 0 0) (.slice none 0 0) (.slice none 0 0) (.slice p.ls c.ls.length p.cls) (.slice p.fs c.fs.length p.cfs):=by
  constructor<;>simp [go_sem]
 have S5:Hid (ScE w _ w1.heap.size c p (.slice none 0 0) (.slice none 0 0) (.slice none 0 0) (.slice p.ls c.ls.length p.cls) (.slice p.fs c.fs.length p.cfs)):=⟨X1.out.next (below_box _ _),Z1.out.next (below_box _ _),T5,B1.out.trans ((below_box _ _).mono B1.out.size),Z1.out.lt⟩
 clear T5 c0 c1 c2 c3 c4 c5 c6 c7 c8 c9 c10 c11 c12 c13 hlt X1 Z1 b0
 generalize w1.alloc (.cells #[.int .i64 c.rep,.int .i64 c.rel,.int .i64 c.con,.int .i64 c.sit,.int .i64 c.lay,.int .i64 c.nf,.int .i64 c.nt,.slice none 0 0,.slice none 0 0,.slice none 0 0,.slice none 0 0,.slice p.ls c.ls.length p.cls,.slice p.fs c.fs.length p.cfs,.int .i64 c.gua] 44)=w5 at *
 clear B1
 generalize w1.heap.size=g at *
 have c11:=S5.out.t1.c11
 go_upto_region 7 with (go_at_call 58;refine (clli_any c.ls p.ls p.cls w5 (fun _=>.inr trivial) (li_cells (HV.out.next S5.out.bl).ls).1 (li_cells (HV.out.next S5.out.bl).ls).2 (Nat.le_trans PARTS.out.1.2.2.2.2.1 (by decide))).mono ?_;rintro e w6 ⟨pl,cl,rfl,hb⟩;have S6:=Lib.hid (S5.out.next hb);clear c11 hb;have o11:=S6.out.t5.c11;have f11:=S6.out.t5.f11)
 have S7:=Lib.hid (S6.out.set 11 (S6.out.t5.set11 (.slice pl c.ls.length cl)))
 clear S5 S6 o11 f11
 generalize w6.setCell ⟨g,11,none⟩ (.slice pl c.ls.length cl)=w7 at *
 have c12:=S7.out.t1.c12
 go_upto_region 8 with (go_at_call 59;refine (clof_any c.fs p.fs p.cfs w7 (fun _=>.inr trivial) (of_cells (HV.out.next S7.out.bl).fs).1 (of_cells (HV.out.next S7.out.bl).fs).2 (Nat.le_trans PARTS.out.1.2.2.2.2.2 (by decide))).mono ?_;rintro e w8 ⟨pf,cf,rfl,hb⟩;have S8:=Lib.hid (S7.out.next hb);clear c12 hb;have o12:=S8.out.t5.c12;have f12:=S8.out.t5.f12)
 have S9:=Lib.hid (S8.out.set 12 (S8.out.t5.set12 (.slice pf c.fs.length cf)))
 clear S7 S8 o12 f12
 generalize w8.setCell ⟨g,12,none⟩ (.slice pf c.fs.length cf)=w9 at *
 have c8:=S9.out.t1.c8
 go_wp2_with fail
 clear c8
 go_loopw [40] (fun i wp=>∃ (j:Nat) (L:List Ru) (v:Value),j≤c.rs.length∧i=.int .i64 j∧Hid (ScE w wp g c p (v) (.slice none 0 0) (.slice none 0 0) (.slice pl c.ls.length cl) (.slice pf c.fs.length cf)∧RwS ruCl ruTr 65 6 wp (XBx w.heap.size w g) w9.heap.size v L∧(∀ r ∈ L,ExOk r.a r.k∧Bd r.sc∧r.name.size≤9223372036854775807)∧L.map ruC=(c.rs.take j).flatMap (sruF c.cs)∧L.length≤j∧fe (sruE c.cs c.rs) j (c.rs.length - j)=E1∧KeepX w9.heap.size (XBx w.heap.size w g) w9 wp∧w9.heap.size≤wp.heap.size)) (fun i _=>c.rs.length - (intOf i).toNat)
 case atStart=>exact ⟨0,[],.slice none 0 0,Nat.zero_le _,rfl,S9.out,RwS.start _ (S9.out.base (Nat.le_refl _)),fun r hr=>(by cases hr),rfl,Nat.le_refl _,HE1.out,KeepX.refl _ _ _,Nat.le_refl _⟩
 case round =>
  clear S9
  obtain ⟨wp,hwr⟩:∃ z,z=wr:=⟨_,rfl⟩
  subst hwr
  obtain ⟨j,L,v,hj,rfl,HR⟩:=hrel
  obtain ⟨h1,h2,h3,h4,h5,h6,h7,h8⟩:=HR.out
  have H1:=Lib.hid h1
  have H2:=Lib.hid h2
  have H3:=Lib.hid h3
  have H4:=Lib.hid h4
  have H5:=Lib.hid h5
  have H6:=Lib.hid h6
  have H7:=Lib.hid h7
  have H8:=Lib.hid h8
  clear h1 h2 h3 h4 h5 h6 h7 h8 HR
  by_cases hlt:j < c.rs.length
  · obtain ⟨x,hc⟩:∃ x,c.rs[j]?=some x:=⟨_,List.getElem?_eq_getElem (by omega)⟩
    obtain ⟨B,O,hp,hP⟩:=(HV.out.rs).get hc
    obtain ⟨d0,d1,⟨⟨d2,d3,d4,d5⟩,hx,hok⟩,hbd,hnm⟩:=hP.next H1.out.bl
    have HBN:=Lib.hid (And.intro hbd hnm)
    clear hbd hnm
    have HX:=Lib.hid hx
    have HOK:=Lib.hid hok
    have hj1:(j:Int) < (c.rs.length:Int):=by omega
    have FA:=Lib.hid ((fe_at (f:=sruE c.cs c.rs) hlt).symm.trans H6.out)
    have CA:=Lib.hid (sruE_eq c.cs c.rs j x hc)
    have FL:=Lib.hid (take_flat (sruF c.cs) hc)
    have LL:Hid (L.length≤1000):=by unfold Hid;have:=H5.out;have:=PARTS.out.1.2.1;omega
    have HXW:=Lib.hid hP.2.2.1.2.1
    have HMEM:=Lib.hid (List.mem_of_getElem? hc)
    clear hP hc hx hok
    rw [hp]
    go_upto_region 11 with (fail)
    obtain ⟨wa,hwa,hbx,zb,e0,e1,e2,e3,e4,e5⟩:=ru_box wp x
    rw [hwa]
    clear hwa
    have KB1:=Lib.hid hbx
    have S1:=Lib.hid (H1.out.next hbx)
    have W1:=Lib.hid (H2.out.next hbx)
    have X1:=Lib.hid (HX.out.next hbx)
    clear hbx d0 d1 d2 d3 d4 d5
    have c7:=S1.out.t1.c7
    obtain ⟨q1,qe,hq⟩:∃ q1 qe,simpR c.cs x.sc x.a x.k=(q1,qe):=⟨_,_,rfl⟩
    have CC:=Lib.hid (simplifyF_any c.cs p.cs p.ccs x.sc x.b x.o x.a.op x.a.num x.a.name x.a.ptr x.a.cap x.k wa (HCS.out.next S1.out.bl) X1.out HOK.out)
    rw [show simpR c.cs x.sc ⟨x.a.op,x.a.num,x.a.name,x.a.ptr,x.a.cap⟩ x.k=(q1,qe) from hq] at CC
    have HQ:=Lib.hid hq
    clear hq
    go_upto_region 12 with (go_at_call 20;refine CC.out.mono ?_;rintro e wb ⟨y,rfl,hy,hya,hb⟩;have HY:Hid (ec y=q1):=hy;have HYA:=Lib.hid hya;have HB:=Lib.hid hb;clear hy hya hb)
    obtain ⟨wd,hwd,hby,hY⟩:=ch_box wb y
    rw [hwd]
    clear hwd
    have Y3:=Lib.hid hY
    have HBY:=Lib.hid hby
    clear hY hby
    have S3:=Lib.hid ((S1.out.next HB.out).next HBY.out)
    have W3:=Lib.hid ((W1.out.next HB.out).next HBY.out)
    have A3:=Lib.hid (HYA.out.next HBY.out).1
    have AV:Hid (FoAv (fun g'=>¬ XBx w.heap.size w g g'∧v.ownBlock≠some g') y.k y.b):=HYA.out.2.avX fun g' q=>⟨fun e=>by have:=S1.out.base (Nat.le_refl _) g' e;omega,fun e=>by have:=(W1.out.ow.lt g' e).2;omega⟩
    have KB3:Hid (Below wp.heap.size wp wd):=(KB1.out.trans (HB.out.mono KB1.out.size)).trans (HBY.out.mono (Nat.le_trans KB1.out.size HB.out.size))
    have E0h:=Lib.hid (cell_next (cell_next e0 HB.out) HBY.out)
    have E1h:=Lib.hid (cell_next (cell_next e1 HB.out) HBY.out)
    have K3:=Lib.hid (H7.out.next H8.out KB3.out)
    have M3:Hid (w9.heap.size≤wd.heap.size):=Nat.le_trans H8.out KB3.out.size
    generalize wb.heap.size=tb at *
    clear c7 e0 e1 e2 e3 e4 e5 CC HB HBY
    by_cases hqe:qe=0
    case neg =>
     have RE:Hid (E1=qe):=by unfold Hid;rw [← FA.out,CA.out,HQ.out];exact orE_ne hqe
     have RQ:Hid (R=qe):=by unfold Hid;rw [G1.out,RE.out,orE_ne hqe]
     have ee:=hqe
     have b0:(qe != 0)=true:=by simp [ee]
     obtain ⟨z0,z1,z2,z3,z4,z5,z6,z7,z8,z9,z10,z11,z12,z13,zf0,zf1,zf2,zf3,zf4,zf5,zf6,zf7,zf8,zf9,zf10,zf11,zf12,zf13⟩:=S3.out.t2.zf
     have RZ:R≠0:=by rw [RQ.out];exact ee
     have RZ2:=Lib.hid RZ
     clear ee RZ
     go_wp2
     refine bodyPost_ret (v:=.tuple #[.agg #[.int .i64 0,.int .i64 0,.int .i64 0,.int .i64 0,.int .i64 0,.int .i64 0,.int .i64 0,.slice none 0 0,.slice none 0 0,.slice none 0 0,.slice none 0 0,.slice none 0 0,.slice none 0 0,.int .i64 0],.int .i64 qe]) ?_ rfl ?_
     · rw [results_cell_tmp rfl];go_simp
     · refine ⟨zeroC,zeroP,by rw [RQ.out];rfl,?_,fun q=>absurd q RZ2.out⟩
       repeat (refine Below.setCell ?_ (Nat.le_succ _) _)
       exact S3.out.bl
    have n0:(qe != 0)=false:=by simp [hqe]
    have CN:Hid (fe (sruE c.cs c.rs) (j+1) (c.rs.length - (j+1))=E1):=by unfold Hid;rw [← FA.out,CA.out,HQ.out];show _=orE qe _;rw [hqe,orE_zero]
    have SW0:=Lib.hid hqe
    have SW:=Lib.hid (simp_wf c.cs x.sc x.a x.k y (by rw [HQ.out];exact hqe) (by rw [HQ.out];exact HY.out))
    have OPQ:Hid (q1.a.op=y.a.op∧q1.a.num=y.a.num):=by unfold Hid;rw [← HY.out];exact ⟨rfl,rfl⟩
    clear hqe
    obtain ⟨y0,y1,y2,y3,-,-,-,-,-⟩:=Y3.out
    by_cases h4:y.a.op=4
    · have n4:(y.a.op != 4)=false:=by simp [h4]
      have FE:Hid (sruF c.cs x=[]):=by unfold Hid sruF;rw [HQ.out,if_pos (OPQ.out.1.trans h4)]
      clear h4
      go_wp2
      go_roundw
      case rel=>exact ⟨j+1,L,v,by omega,by go_num,S3.out,W3.out,H3.out,by rw [FL.out,FE.out,List.append_nil];exact H4.out,Nat.le_succ_of_le H5.out,CN.out,K3.out,M3.out⟩
      case measure=>simp [intOf];omega
    have n4:(y.a.op != 4)=true:=by simp [h4]
    have FE:Hid (sruF c.cs x=[(x.sc,q1)]):=by unfold Hid sruF;rw [HQ.out,if_neg (fun q=>h4 (OPQ.out.1.symm.trans q))]
    clear h4
    obtain ⟨pv,cv,hv⟩:=own_slc W3.out.ow
    subst hv
    have oc:=S3.out.t5.c8
    have ew0:=E0h.out
    have ew1:=E1h.out
    have HNB:=Lib.hid (below_box wd (.cells #[.int .i64 x.sc,.string x.name,.int .i64 y.a.op,.int .i64 y.a.num,.string y.a.name,.slice y.a.ptr (len y.k) y.a.cap] 65))
    have W4:=Lib.hid (W3.out.next HNB.out)
    all_goals
     go_wp2_with (at_builtin;refine wpList_append_own_at _ rfl _ _ 39 rfl w9.heap.size 65 ir (.agg #[.int .i64 0,.string ⟨#[]⟩,.int .i64 0,.int .i64 0,.string ⟨#[]⟩,.slice none 0 0]) 6 80 Tryz.underlying39 hir hir0 hir1 hir2 rfl (by decide) (.slice pv L.length cv) L.length (L.flatMap ruCl) rfl W4.out.ow ⟨wd.heap.size,0,none⟩ 1 1 (ruCl ⟨x.sc,x.name,y.b,y.o,y.a,y.k⟩) rfl rfl (by intro q u hu;match q,hu with|0,hu=>(simp [ruCl] at hu;subst hu;simp [Addr.add,go_sem])|1,hu=>(simp [ruCl] at hu;subst hu;simp [Addr.add,go_sem])|2,hu=>(simp [ruCl] at hu;subst hu;simp [Addr.add,go_sem])|3,hu=>(simp [ruCl] at hu;subst hu;simp [Addr.add,go_sem])|4,hu=>(simp [ruCl] at hu;subst hu;simp [Addr.add,go_sem])|5,hu=>(simp [ruCl] at hu;subst hu;simp [Addr.add,go_sem])|q+6,hu=>simp [ruCl] at hu) (one_ru _) (by have:=LL.out;unfold maxLen;omega) (by have:=LL.out;omega) (by have:=M3.out;simp;omega) ?_;intro v' we hown hgrow _ hob;obtain ⟨pn,cn,hvn⟩:=own_slc hown;subst hvn;have OL:∀ m,(Value.slice pv L.length cv).ownBlock=some m→w9.heap.size≤m∧m < wd.heap.size:=(fun m hm=>W3.out.ow.lt m hm);have hg9:=W3.out.lt g (Or.inr (Or.inl rfl));have S5:=Lib.hid ((S3.out.next HNB.out).grown hgrow (fun m hm=>(by have:=(OL m hm).1;omega)));have W5:=Lib.hid (RwS.app (r:=(⟨x.sc,x.name,y.b,y.o,y.a,y.k⟩:Ru)) W4.out (A3.out.next HNB.out) AV.out hown hgrow (by first|exact hob|exact hob.imp id (fun q=>by rw [q];simp)));have K5:=Lib.hid ((K3.out.next M3.out HNB.out).grown (by have:=M3.out;simp;omega) hgrow (fun m hm=>.inl (OL m hm).1));have M5:Hid (w9.heap.size≤we.heap.size):=(by unfold Hid;have:=M3.out;have:=hgrow.size;(try simp at this);omega);clear hown hgrow hob OL oc hg9;have oc:=S5.out.t5.c8;have of:=S5.out.t5.f8)
     go_roundw
     case rel =>
      refine ⟨j+1,L++[⟨x.sc,x.name,y.b,y.o,y.a,y.k⟩],.slice pn (L.length+1) cn,by omega,by go_num,S5.out.set 8 (S5.out.t5.set8 _),W5.out.set (Or.inr (Or.inl rfl)) 8 _,fun r hr=>?_,?_,by rw [List.length_append];exact Nat.succ_le_succ H5.out,CN.out,K5.out.grown M5.out (grw_set _ _ _ _) (fun m hm=>.inr (.inr (.inl (Option.some.inj hm).symm))),Nat.le_trans M5.out (grw_set we g 8 _).size⟩
      · rcases List.mem_append.1 hr with q|q
        · exact H3.out r q
        · rw [List.mem_singleton.1 q];exact ⟨SW.out.2.2.2.2,HBN.out⟩
      · rw [FL.out,FE.out,List.map_append,H4.out]
        show _++[(x.sc,ec y)]=_
        rw [HY.out]
     case measure=>simp [intOf];omega
  have hj1:¬ (j:Int) < (c.rs.length:Int):=by omega
  have RE:Hid (E1=0):=by unfold Hid;rw [← H6.out,fe_end (by omega)]
  have G2:Hid (R=orE E2 E3):=by unfold Hid;rw [G1.out,RE.out,orE_zero]
  have hjn:j=c.rs.length:=by omega
  obtain ⟨pr,kr,hv,hfz⟩:=H2.out.row (fun _=>rfl) RuP (fun w' B O r hr hc hx=>ruP_of hc hx (H3.out r hr)) (by have:=H5.out;have:=PARTS.out.1.2.1;omega)
  subst hv
  have FZ1:=Lib.hid hfz
  have ME1:Hid (L.map ruC=c.rs.flatMap (sruF c.cs)):=by unfold Hid;rw [H4.out,hjn,List.take_length]
  have S9:=H1
  have KK1:=H7
  have MM1:=H8
  clear H1 H2 H3 H4 H5 H6 H7 H8 RE hlt hj hfz G1 hjn
  have cc:=S9.out.t1.c9
  rename List Ru=>L1
  go_wp2_with fail
  clear cc
  go_loopw [76] (fun i wo=>∃ (j:Nat) (L:List Co) (v:Value),j≤c.os.length∧i=.int .i64 j∧Hid (ScE w wo g c p (.slice pr L1.length kr) (v) (.slice none 0 0) (.slice pl c.ls.length cl) (.slice pf c.fs.length cf)∧RwS coCl coTr 67 5 wo (XBx w.heap.size w g) wp.heap.size v L∧(∀ r ∈ L,ExOk r.a r.k∧Bd r.sc)∧L.map coC=(c.os.take j).flatMap (sosF c.cs)∧L.length≤j∧fe (sosE c.cs c.os) j (c.os.length - j)=E2∧KeepX wp.heap.size (XBx w.heap.size w g) wp wo∧wp.heap.size≤wo.heap.size)) (fun i _=>c.os.length - (intOf i).toNat)
  case atStart=>exact ⟨0,[],.slice none 0 0,Nat.zero_le _,rfl,S9.out,RwS.start _ (S9.out.base (Nat.le_refl _)),fun r hr=>(by cases hr),rfl,Nat.le_refl _,HE2.out,KeepX.refl _ _ _,Nat.le_refl _⟩
  case round =>
   clear S9
   obtain ⟨wo,hwr⟩:∃ z,z=wr:=⟨_,rfl⟩
   subst hwr
   obtain ⟨j,L,v,hj,rfl,HR⟩:=hrel
   obtain ⟨h1,h2,h3,h4,h5,h6,h7,h8⟩:=HR.out
   have H1:=Lib.hid h1
   have H2:=Lib.hid h2
   have H3:=Lib.hid h3
   have H4:=Lib.hid h4
   have H5:=Lib.hid h5
   have H6:=Lib.hid h6
   have H7:=Lib.hid h7
   have H8:=Lib.hid h8
   clear h1 h2 h3 h4 h5 h6 h7 h8 HR
   by_cases hlt:j < c.os.length
   · obtain ⟨x,hc⟩:∃ x,c.os[j]?=some x:=⟨_,List.getElem?_eq_getElem (by omega)⟩
     obtain ⟨B,O,hp,hP⟩:=(HV.out.os).get hc
     obtain ⟨d0,⟨⟨d2,d3,d4,d5⟩,hx,hok⟩,hbd⟩:=hP.next H1.out.bl
     have HBN:=Lib.hid hbd
     clear hbd
     have HX:=Lib.hid hx
     have HOK:=Lib.hid hok
     have hj1:(j:Int) < (c.os.length:Int):=by omega
     have FA:=Lib.hid ((fe_at (f:=sosE c.cs c.os) hlt).symm.trans H6.out)
     have CA:=Lib.hid (sosE_eq c.cs c.os j x hc)
     have FL:=Lib.hid (take_flat (sosF c.cs) hc)
     have LL:Hid (L.length≤1000):=by unfold Hid;have:=H5.out;have:=PARTS.out.1.2.2.1;omega
     have HXW:=Lib.hid hP.2.1.2.1
     have HMEM:=Lib.hid (List.mem_of_getElem? hc)
     clear hP hc hx hok
     rw [hp]
     go_upto_region 20 with (fail)
     obtain ⟨wa,hwa,hbx,zb,e0,e1,e2,e3,e4⟩:=co_box wo x
     rw [hwa]
     clear hwa
     have KB1:=Lib.hid hbx
     have S1:=Lib.hid (H1.out.next hbx)
     have W1:=Lib.hid (H2.out.next hbx)
     have X1:=Lib.hid (HX.out.next hbx)
     clear hbx d0 d2 d3 d4 d5
     have c7:=S1.out.t1.c7
     obtain ⟨q1,qe,hq⟩:∃ q1 qe,simpR c.cs x.sc x.a x.k=(q1,qe):=⟨_,_,rfl⟩
     have CC:=Lib.hid (simplifyF_any c.cs p.cs p.ccs x.sc x.b x.o x.a.op x.a.num x.a.name x.a.ptr x.a.cap x.k wa (HCS.out.next S1.out.bl) X1.out HOK.out)
     rw [show simpR c.cs x.sc ⟨x.a.op,x.a.num,x.a.name,x.a.ptr,x.a.cap⟩ x.k=(q1,qe) from hq] at CC
     have HQ:=Lib.hid hq
     clear hq
     go_upto_region 21 with (go_at_call 20;refine CC.out.mono ?_;rintro e wb ⟨y,rfl,hy,hya,hb⟩;have HY:Hid (ec y=q1):=hy;have HYA:=Lib.hid hya;have HB:=Lib.hid hb;clear hy hya hb)
     obtain ⟨wd,hwd,hby,hY⟩:=ch_box wb y
     rw [hwd]
     clear hwd
     have Y3:=Lib.hid hY
     have HBY:=Lib.hid hby
     clear hY hby
     have S3:=Lib.hid ((S1.out.next HB.out).next HBY.out)
     have W3:=Lib.hid ((W1.out.next HB.out).next HBY.out)
     have A3:=Lib.hid (HYA.out.next HBY.out).1
     have AV:Hid (FoAv (fun g'=>¬ XBx w.heap.size w g g'∧v.ownBlock≠some g') y.k y.b):=HYA.out.2.avX fun g' q=>⟨fun e=>by have:=S1.out.base (Nat.le_refl _) g' e;omega,fun e=>by have:=(W1.out.ow.lt g' e).2;omega⟩
     have KB3:Hid (Below wo.heap.size wo wd):=(KB1.out.trans (HB.out.mono KB1.out.size)).trans (HBY.out.mono (Nat.le_trans KB1.out.size HB.out.size))
     have E0h:=Lib.hid (cell_next (cell_next e0 HB.out) HBY.out)
     have K3:=Lib.hid (H7.out.next H8.out KB3.out)
     have M3:Hid (wp.heap.size≤wd.heap.size):=Nat.le_trans H8.out KB3.out.size
     generalize wb.heap.size=tb at *
     clear c7 e0 e1 e2 e3 e4 CC HB HBY
     by_cases hqe:qe=0
     case neg =>
      have RE:Hid (E2=qe):=by unfold Hid;rw [← FA.out,CA.out,HQ.out];exact orE_ne hqe
      have RQ:Hid (R=qe):=by unfold Hid;rw [G2.out,RE.out,orE_ne hqe]
      have ee:=hqe
      have b0:(qe != 0)=true:=by simp [ee]
      obtain ⟨z0,z1,z2,z3,z4,z5,z6,z7,z8,z9,z10,z11,z12,z13,zf0,zf1,zf2,zf3,zf4,zf5,zf6,zf7,zf8,zf9,zf10,zf11,zf12,zf13⟩:=S3.out.t2.zf
      have RZ:R≠0:=by rw [RQ.out];exact ee
      have RZ2:=Lib.hid RZ
      clear ee RZ
      go_wp2
      refine bodyPost_ret (v:=.tuple #[.agg #[.int .i64 0,.int .i64 0,.int .i64 0,.int .i64 0,.int .i64 0,.int .i64 0,.int .i64 0,.slice none 0 0,.slice none 0 0,.slice none 0 0,.slice none 0 0,.slice none 0 0,.slice none 0 0,.int .i64 0],.int .i64 qe]) ?_ rfl ?_
      · rw [results_cell_tmp rfl];go_simp
      · refine ⟨zeroC,zeroP,by rw [RQ.out];rfl,?_,fun q=>absurd q RZ2.out⟩
        repeat (refine Below.setCell ?_ (Nat.le_succ _) _)
        exact S3.out.bl
     have n0:(qe != 0)=false:=by simp [hqe]
     have CN:Hid (fe (sosE c.cs c.os) (j+1) (c.os.length - (j+1))=E2):=by unfold Hid;rw [← FA.out,CA.out,HQ.out];show _=orE qe _;rw [hqe,orE_zero]
     have SW0:=Lib.hid hqe
     have SW:=Lib.hid (simp_wf c.cs x.sc x.a x.k y (by rw [HQ.out];exact hqe) (by rw [HQ.out];exact HY.out))
     have OPQ:Hid (q1.a.op=y.a.op∧q1.a.num=y.a.num):=by unfold Hid;rw [← HY.out];exact ⟨rfl,rfl⟩
     clear hqe
     obtain ⟨y0,y1,y2,y3,-,-,-,-,-⟩:=Y3.out
     by_cases h4:y.a.op=1∧y.a.num=0
     · have n4:(y.a.op != 1)=false:=by simp [h4.1]
       have n5:(y.a.num != 0)=false:=by simp [h4.2]
       have FE:Hid (sosF c.cs x=[]):=by unfold Hid sosF;rw [HQ.out,if_pos ⟨OPQ.out.1.trans h4.1,OPQ.out.2.trans h4.2⟩]
       clear h4
       go_wp2
       go_roundw
       case rel=>exact ⟨j+1,L,v,by omega,by go_num,S3.out,W3.out,H3.out,by rw [FL.out,FE.out,List.append_nil];exact H4.out,Nat.le_succ_of_le H5.out,CN.out,K3.out,M3.out⟩
       case measure=>simp [intOf];omega
     have FE:Hid (sosF c.cs x=[(x.sc,q1)]):=by unfold Hid sosF;rw [HQ.out,if_neg (fun q=>h4 ⟨OPQ.out.1.symm.trans q.1,OPQ.out.2.symm.trans q.2⟩)]
     have N4:Hid ((y.a.op != 1)=true∨((y.a.op != 1)=false∧(y.a.num != 0)=true)):=by
      by_cases q:y.a.op=1
      · exact .inr ⟨by simp [q],by simpa using fun r=>h4 ⟨q,r⟩⟩
      · exact .inl (by simpa using q)
     clear h4
     obtain ⟨pv,cv,hv⟩:=own_slc W3.out.ow
     subst hv
     have oc:=S3.out.t5.c9
     have ew0:=E0h.out
     have HNB:=Lib.hid (below_box wd (.cells #[.int .i64 x.sc,.int .i64 y.a.op,.int .i64 y.a.num,.string y.a.name,.slice y.a.ptr (len y.k) y.a.cap] 67))
     have W4:=Lib.hid (W3.out.next HNB.out)
     rcases N4.out with n4|⟨n4,n5⟩
     all_goals
      go_wp2_with (at_builtin;refine wpList_append_own_at _ rfl _ _ 40 rfl wp.heap.size 67 io (.agg #[.int .i64 0,.int .i64 0,.int .i64 0,.string ⟨#[]⟩,.slice none 0 0]) 5 64 Tryz.underlying40 hio hio0 hio1 hio2 rfl (by decide) (.slice pv L.length cv) L.length (L.flatMap coCl) rfl W4.out.ow ⟨wd.heap.size,0,none⟩ 1 1 (coCl ⟨x.sc,y.b,y.o,y.a,y.k⟩) rfl rfl (by intro q u hu;match q,hu with|0,hu=>(simp [coCl] at hu;subst hu;simp [Addr.add,go_sem])|1,hu=>(simp [coCl] at hu;subst hu;simp [Addr.add,go_sem])|2,hu=>(simp [coCl] at hu;subst hu;simp [Addr.add,go_sem])|3,hu=>(simp [coCl] at hu;subst hu;simp [Addr.add,go_sem])|4,hu=>(simp [coCl] at hu;subst hu;simp [Addr.add,go_sem])|q+5,hu=>simp [coCl] at hu) (one_co _) (by have:=LL.out;unfold maxLen;omega) (by have:=LL.out;omega) (by have:=M3.out;simp;omega) ?_;intro v' we hown hgrow _ hob;obtain ⟨pn,cn,hvn⟩:=own_slc hown;subst hvn;have OL:∀ m,(Value.slice pv L.length cv).ownBlock=some m→wp.heap.size≤m∧m < wd.heap.size:=(fun m hm=>W3.out.ow.lt m hm);have hg9:=W3.out.lt g (Or.inr (Or.inl rfl));have S5:=Lib.hid ((S3.out.next HNB.out).grown hgrow (fun m hm=>(by have:=(OL m hm).1;omega)));have W5:=Lib.hid (RwS.app (r:=(⟨x.sc,y.b,y.o,y.a,y.k⟩:Co)) W4.out (A3.out.next HNB.out) AV.out hown hgrow (by first|exact hob|exact hob.imp id (fun q=>by rw [q];simp)));have K5:=Lib.hid ((K3.out.next M3.out HNB.out).grown (by have:=M3.out;simp;omega) hgrow (fun m hm=>.inl (OL m hm).1));have M5:Hid (wp.heap.size≤we.heap.size):=(by unfold Hid;have:=M3.out;have:=hgrow.size;(try simp at this);omega);clear hown hgrow hob OL oc hg9;have oc:=S5.out.t5.c9;have of:=S5.out.t5.f9)
      go_roundw
      case rel =>
       refine ⟨j+1,L++[⟨x.sc,y.b,y.o,y.a,y.k⟩],.slice pn (L.length+1) cn,by omega,by go_num,S5.out.set 9 (S5.out.t5.set9 _),W5.out.set (Or.inr (Or.inl rfl)) 9 _,fun r hr=>?_,?_,by rw [List.length_append];exact Nat.succ_le_succ H5.out,CN.out,K5.out.grown M5.out (grw_set _ _ _ _) (fun m hm=>.inr (.inr (.inl (Option.some.inj hm).symm))),Nat.le_trans M5.out (grw_set we g 9 _).size⟩
       · rcases List.mem_append.1 hr with q|q
         · exact H3.out r q
         · rw [List.mem_singleton.1 q];exact ⟨SW.out.2.2.2.2,HBN.out⟩
       · rw [FL.out,FE.out,List.map_append,H4.out]
         show _++[(x.sc,ec y)]=_
         rw [HY.out]
      case measure=>simp [intOf];omega
   have hj1:¬ (j:Int) < (c.os.length:Int):=by omega
   have RE:Hid (E2=0):=by unfold Hid;rw [← H6.out,fe_end (by omega)]
   have G3:Hid (R=E3):=by unfold Hid;rw [G2.out,RE.out,orE_zero]
   have hjn:j=c.os.length:=by omega
   obtain ⟨po,ko,hv,hfz⟩:=H2.out.row (fun _=>rfl) CoP (fun w' B O r hr hc hx=>coP_of hc hx (H3.out r hr)) (by have:=H5.out;have:=PARTS.out.1.2.2.1;omega)
   subst hv
   have FZ2:=Lib.hid hfz
   have ME2:Hid (L.map coC=c.os.flatMap (sosF c.cs)):=by unfold Hid;rw [H4.out,hjn,List.take_length]
   have S9:=H1
   have KK2:=H7
   have MM2:=H8
   clear H1 H2 H3 H4 H5 H6 H7 H8 RE hlt hj hfz G2 hjn
   have cc:=S9.out.t1.c10
   rename List Co=>L2
   go_wp2_with fail
   clear cc
   go_loopw [115] (fun i wt=>∃ (j:Nat) (L:List Ch) (v:Value) (r:Fo),i=.int .i64 j∧Hid (ScE w wt g c p (.slice pr L1.length kr) (.slice po L2.length ko) (v) (.slice pl c.ls.length cl) (.slice pf c.fs.length cf)∧RwS chC chTr 25 4 wt (XBx w.heap.size w g) wo.heap.size v L∧(∀ y ∈ L,ExOk y.a y.k)∧L.map ec++scrL c.cs r=scrL c.cs c.cr∧L.length=j∧scrE c.cs r=E3∧KeepX wo.heap.size (XBx w.heap.size w g) wo wt∧wo.heap.size≤wt.heap.size∧j+len r=len c.cr∧(∃ b o,(r≠.nil→p.cr=some ⟨b,o,none⟩)∧FoAt w r b (o+j * 4))∧FoOk r)) (fun i _=>len c.cr - (intOf i).toNat)
   case atStart =>
    obtain ⟨-,q1,b,o,q2,q3⟩:=HV.out.cr
    exact ⟨0,[],.slice none 0 0,c.cr,rfl,S9.out,RwS.start _ (S9.out.base (Nat.le_refl _)),fun r hr=>(by cases hr),rfl,rfl,HE3.out,KeepX.refl _ _ _,Nat.le_refl _,by omega,⟨b,o,q2,by rw [Nat.zero_mul,Nat.add_zero];exact q3⟩,q1⟩
   case round =>
    clear S9
    obtain ⟨wt,hwr⟩:∃ z,z=wr:=⟨_,rfl⟩
    subst hwr
    obtain ⟨j,L,v,rr,rfl,HR⟩:=hrel
    obtain ⟨h1,h2,h3,h4,h5,h6,h7,h8,h9,h10,h11⟩:=HR.out
    have H9:=Lib.hid h9
    have H10:=Lib.hid h10
    have H11:=Lib.hid h11
    clear h9 h10 h11
    have H1:=Lib.hid h1
    have H2:=Lib.hid h2
    have H3:=Lib.hid h3
    have H4:=Lib.hid h4
    have H5:=Lib.hid h5
    have H6:=Lib.hid h6
    have H7:=Lib.hid h7
    have H8:=Lib.hid h8
    clear h1 h2 h3 h4 h5 h6 h7 h8 HR
    cases rr with
    | node b1 o1 a1 k1 r1 =>
      obtain ⟨kb1,ko1,hkp,hfa⟩:=H10.out
      have HN:=Lib.hid hfa.2.2.2
      obtain ⟨⟨d2,d3,d4,d5⟩,hp1,hk1,-⟩:=hfa.next H1.out.bl
      have hpe:p.cr=some ⟨kb1,ko1,none⟩:=hkp (by simp)
      have hj:j < len c.cr:=by have:=H9.out;simp [len] at this;omega
      have hj1:(j:Int) < (len c.cr:Int):=by omega
      have HX:Hid (ExAt wt b1 o1 a1 k1):=⟨hp1,hk1⟩
      have FA:Hid (orE (simpR c.cs 1 a1 k1).2 (scrE c.cs r1)=E3):=H6.out
      have H44:Hid (L.map ec++(simpR c.cs 1 a1 k1).1 :: scrL c.cs r1=scrL c.cs c.cr):=H4.out
      have HXW:Hid (ExAt w b1 o1 a1 k1):=⟨hfa.2.1,hfa.2.2.1⟩
      have HOK:Hid (ExOk a1 k1∧FoOk r1):=⟨⟨H11.out.1,H11.out.2.1⟩,H11.out.2.2⟩
      have H99:Hid (j+1+len r1=len c.cr):=by unfold Hid;have:=H9.out;simp [len] at this;omega
      have LL:Hid (L.length≤1000):=by unfold Hid;have:=H5.out;have:=PARTS.out.1.2.2.2.1;omega
      clear hp1 hk1 hfa hkp H10 H11 H4 H6 H9
      obtain ⟨x,hxx⟩:∃ x:Ch,x=⟨b1,o1,a1,k1⟩:=⟨_,rfl⟩
      obtain ⟨rfl,rfl,rfl,rfl⟩:x.b=b1∧x.o=o1∧x.a=a1∧x.k=k1:=by rw [hxx];exact ⟨rfl,rfl,rfl,rfl⟩
      clear hxx
      rw [hpe]
      go_upto_region 29 with (fail)
      obtain ⟨wa,hwa,hbx,zb,e0,e1,e2,e3⟩:=ex_box wt x
      rw [hwa]
      clear hwa
      have KB1:=Lib.hid hbx
      have S1:=Lib.hid (H1.out.next hbx)
      have W1:=Lib.hid (H2.out.next hbx)
      have X1:=Lib.hid (HX.out.next hbx)
      clear hbx d2 d3 d4 d5
      have c7:=S1.out.t1.c7
      obtain ⟨q1,qe,hq⟩:∃ q1 qe,simpR c.cs 1 x.a x.k=(q1,qe):=⟨_,_,rfl⟩
      have CC:=Lib.hid (simplifyF_any c.cs p.cs p.ccs 1 x.b x.o x.a.op x.a.num x.a.name x.a.ptr x.a.cap x.k wa (HCS.out.next S1.out.bl) X1.out HOK.out.1)
      rw [show simpR c.cs 1 ⟨x.a.op,x.a.num,x.a.name,x.a.ptr,x.a.cap⟩ x.k=(q1,qe) from hq] at CC
      have HQ:=Lib.hid hq
      clear hq
      go_upto_region 30 with (go_at_call 20;refine CC.out.mono ?_;rintro e wb ⟨y,rfl,hy,hya,hb⟩;have HY:Hid (ec y=q1):=hy;have HYA:=Lib.hid hya;have HB:=Lib.hid hb;clear hy hya hb)
      obtain ⟨wd,hwd,hby,hY⟩:=ch_box wb y
      rw [hwd]
      clear hwd
      have Y3:=Lib.hid hY
      have HBY:=Lib.hid hby
      clear hY hby
      have S3:=Lib.hid ((S1.out.next HB.out).next HBY.out)
      have W3:=Lib.hid ((W1.out.next HB.out).next HBY.out)
      have A3:=Lib.hid (HYA.out.next HBY.out).1
      have AV:Hid (FoAv (fun g'=>¬ XBx w.heap.size w g g'∧v.ownBlock≠some g') y.k y.b):=HYA.out.2.avX fun g' q=>⟨fun e=>by have:=S1.out.base (Nat.le_refl _) g' e;omega,fun e=>by have:=(W1.out.ow.lt g' e).2;omega⟩
      have KB3:Hid (Below wt.heap.size wt wd):=(KB1.out.trans (HB.out.mono KB1.out.size)).trans (HBY.out.mono (Nat.le_trans KB1.out.size HB.out.size))
      have K3:=Lib.hid (H7.out.next H8.out KB3.out)
      have M3:Hid (wo.heap.size≤wd.heap.size):=Nat.le_trans H8.out KB3.out.size
      generalize wb.heap.size=tb at *
      clear c7 e0 e1 e2 e3 CC HB HBY
      by_cases hqe:qe=0
      case neg =>
       have RE:Hid (E3=qe):=by unfold Hid;rw [← FA.out,HQ.out];exact orE_ne hqe
       have RQ:Hid (R=qe):=by unfold Hid;rw [G3.out,RE.out]
       have ee:=hqe
       have b0:(qe != 0)=true:=by simp [ee]
       obtain ⟨z0,z1,z2,z3,z4,z5,z6,z7,z8,z9,z10,z11,z12,z13,zf0,zf1,zf2,zf3,zf4,zf5,zf6,zf7,zf8,zf9,zf10,zf11,zf12,zf13⟩:=S3.out.t2.zf
       have RZ:R≠0:=by rw [RQ.out];exact ee
       have RZ2:=Lib.hid RZ
       clear ee RZ
       go_wp2
       refine bodyPost_ret (v:=.tuple #[.agg #[.int .i64 0,.int .i64 0,.int .i64 0,.int .i64 0,.int .i64 0,.int .i64 0,.int .i64 0,.slice none 0 0,.slice none 0 0,.slice none 0 0,.slice none 0 0,.slice none 0 0,.slice none 0 0,.int .i64 0],.int .i64 qe]) ?_ rfl ?_
       · rw [results_cell_tmp rfl];go_simp
       · refine ⟨zeroC,zeroP,by rw [RQ.out];rfl,?_,fun q=>absurd q RZ2.out⟩
         repeat (refine Below.setCell ?_ (Nat.le_succ _) _)
         exact S3.out.bl
      have n0:(qe != 0)=false:=by simp [hqe]
      have CN:Hid (scrE c.cs r1=E3):=by unfold Hid;rw [← FA.out,HQ.out];show _=orE qe _;rw [hqe,orE_zero]
      have SW0:=Lib.hid hqe
      have SW:=Lib.hid (simp_wf c.cs 1 x.a x.k y (by rw [HQ.out];exact hqe) (by rw [HQ.out];exact HY.out))
      have OPQ:Hid (q1.a.op=y.a.op∧q1.a.num=y.a.num):=by unfold Hid;rw [← HY.out];exact ⟨rfl,rfl⟩
      clear hqe
      obtain ⟨y0,y1,y2,y3,-,-,-,-,-⟩:=Y3.out
      obtain ⟨pv,cv,hv⟩:=own_slc W3.out.ow
      subst hv
      have oc:=S3.out.t5.c10
      have HNB:=Lib.hid (below_box wd (.cells #[.int .i64 y.a.op,.int .i64 y.a.num,.string y.a.name,.slice y.a.ptr (len y.k) y.a.cap] 25))
      have W4:=Lib.hid (W3.out.next HNB.out)
      all_goals
       go_wp2_with (at_builtin;refine wpList_append_own_at _ rfl _ _ 23 rfl wo.heap.size 25 ix (.agg #[.int .i64 0,.int .i64 0,.string ⟨#[]⟩,.slice none 0 0]) 4 56 Tryz.underlying23 hix hix0 hix1 hix2 rfl (by decide) (.slice pv L.length cv) L.length (L.flatMap chC) rfl W4.out.ow ⟨wd.heap.size,0,none⟩ 1 1 (chC y) rfl rfl (by intro q u hu;match q,hu with|0,hu=>(simp [chC] at hu;subst hu;simp [Addr.add,go_sem])|1,hu=>(simp [chC] at hu;subst hu;simp [Addr.add,go_sem])|2,hu=>(simp [chC] at hu;subst hu;simp [Addr.add,go_sem])|3,hu=>(simp [chC] at hu;subst hu;simp [Addr.add,go_sem])|q+4,hu=>simp [chC] at hu) (one_ch _) (by have:=LL.out;unfold maxLen;omega) (by have:=LL.out;omega) (by have:=M3.out;simp;omega) ?_;intro v' we hown hgrow _ hob;obtain ⟨pn,cn,hvn⟩:=own_slc hown;subst hvn;have OL:∀ m,(Value.slice pv L.length cv).ownBlock=some m→wo.heap.size≤m∧m < wd.heap.size:=(fun m hm=>W3.out.ow.lt m hm);have hg9:=W3.out.lt g (Or.inr (Or.inl rfl));have S5:=Lib.hid ((S3.out.next HNB.out).grown hgrow (fun m hm=>(by have:=(OL m hm).1;omega)));have W5:=Lib.hid (RwS.app (r:=(y:Ch)) W4.out (A3.out.next HNB.out) AV.out hown hgrow (by first|exact hob|exact hob.imp id (fun q=>by rw [q];simp)));have K5:=Lib.hid ((K3.out.next M3.out HNB.out).grown (by have:=M3.out;simp;omega) hgrow (fun m hm=>.inl (OL m hm).1));have M5:Hid (wo.heap.size≤we.heap.size):=(by unfold Hid;have:=M3.out;have:=hgrow.size;(try simp at this);omega);clear hown hgrow hob OL oc hg9;have oc:=S5.out.t5.c10;have of:=S5.out.t5.f10)
       go_roundw
       case rel =>
        refine ⟨j+1,L++[y],.slice pn (L.length+1) cn,r1,by go_num,S5.out.set 10 (S5.out.t5.set10 _),W5.out.set (Or.inr (Or.inl rfl)) 10 _,fun r hr=>?_,?_,by rw [List.length_append];show L.length+1=_;rw [H5.out],CN.out,K5.out.grown M5.out (grw_set _ _ _ _) (fun m hm=>.inr (.inr (.inl (Option.some.inj hm).symm))),Nat.le_trans M5.out (grw_set we g 10 _).size,H99.out,⟨kb1,ko1,fun _=>rfl,?_⟩,HOK.out.2⟩
        · rcases List.mem_append.1 hr with q|q
          · exact H3.out r q
          · rw [List.mem_singleton.1 q];exact SW.out.2.2.2.2
        · rw [List.map_append,List.append_assoc,← H44.out,HQ.out,← HY.out]
          rfl
        · rw [Nat.add_mul,Nat.one_mul,← Nat.add_assoc];exact HN.out
       case measure=>simp [intOf];omega
    | nil =>
      have hj:¬ (j:Int) < (len c.cr:Int):=by have:=H9.out;simp [len] at this;omega
      have RQ:Hid (R=0):=by unfold Hid;rw [G3.out,← H6.out];rfl
      obtain ⟨pc,kc,hv,hfz⟩:=H2.out.row (fun _=>rfl) ChP (fun w' B O r hr hc hx=>⟨⟨hc 0 _ rfl,hc 1 _ rfl,hc 2 _ rfl,hc 3 _ rfl⟩,hx⟩) (by have:=H5.out;have:=H9.out;have:=PARTS.out.1.2.2.2.1;simp [len] at *;omega)
      subst hv
      have FZ3:=Lib.hid hfz
      have ME3:Hid (L.map ec=scrL c.cs c.cr):=by unfold Hid;rw [← H4.out];simp [scrL]
      clear hfz H9 H10 H11
      have o0:=H1.out.t5.c0
      have o1:=H1.out.t5.c1
      have o2:=H1.out.t5.c2
      have o3:=H1.out.t5.c3
      have o4:=H1.out.t5.c4
      have o5:=H1.out.t5.c5
      have o6:=H1.out.t5.c6
      have o7:=H1.out.t5.c7
      have o8:=H1.out.t5.c8
      have o9:=H1.out.t5.c9
      have o10:=H1.out.t5.c10
      have o11:=H1.out.t5.c11
      have o12:=H1.out.t5.c12
      have o13:=H1.out.t5.c13
      obtain ⟨z0,z1,z2,z3,z4,z5,z6,z7,z8,z9,z10,z11,z12,z13,zf0,zf1,zf2,zf3,zf4,zf5,zf6,zf7,zf8,zf9,zf10,zf11,zf12,zf13⟩:=H1.out.t2.zf
      go_wp2
      refine bodyPost_ret (v:=.tuple #[.agg #[.int .i64 c.rep,.int .i64 c.rel,.int .i64 c.con,.int .i64 c.sit,.int .i64 c.lay,.int .i64 c.nf,.int .i64 c.nt,.slice none 0 0,.slice pr L1.length kr,.slice po L2.length ko,.slice pc L.length kc,.slice pl c.ls.length cl,.slice pf c.fs.length cf,.int .i64 c.gua],.int .i64 0]) ?_ rfl ?_
      · rw [results_cell_tmp rfl];go_simp
      · rw [RQ.out]
        refine ⟨⟨c.rep,c.rel,c.con,c.sit,c.lay,c.nf,c.nt,c.gua,[],L1,L2,rowF L,c.ls,c.fs⟩,⟨none,pr,po,pc,pl,pf,0,kr,ko,kc,cl,cf⟩,?_,?_,fun _ wz hz=>?_⟩
        · simp only [rowF_len];rfl
        · repeat (refine Below.setCell ?_ (Nat.le_succ _) _)
          exact H1.out.bl
        · have hz2:KeepX wt.heap.size (XBx w.heap.size w g) wt wz:=by
           refine KeepX.trans ?_ ((hz.mono ?_).weak ?_)
           · repeat (refine KeepX.setCell ?_ (Or.inr (Or.inr rfl)) _)
             exact KeepX.refl _ _ _
           · simp [World.setCell]
           · exact fun k q=>.inl q
          refine ⟨FZ1.out _ ?_,ME1.out,FZ2.out _ ?_,ME2.out,crv_of (FZ3.out _ hz2) H3.out,?_⟩
          · exact (KK2.out.trans (H7.out.mono MM2.out)).trans (hz2.mono (Nat.le_trans MM2.out H8.out))
          · exact H7.out.trans (hz2.mono H8.out)
          · rw [kids_rowF];exact ME3.out
end Go.Proofs.YtfoedbfkddoibaaGreat
