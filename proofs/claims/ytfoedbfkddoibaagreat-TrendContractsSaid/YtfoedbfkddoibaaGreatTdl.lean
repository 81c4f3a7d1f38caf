import Derived.Test.YtfoedbfkddoibaaGreatTdk
import Derived.Test.YtfoedbfkddoibaaGreatCrC
import Derived.Deep.RegionLaw
namespace Go.Proofs.YtfoedbfkddoibaaGreat
set_option linter.unusedVariables false
set_option linter.unusedSimpArgs false
open Go.ChangeShapes Go.WideShapes Go.ChangeAt Go.RowKit
open Go.Deep (BT)
theorem step_append_atD {P:Program} (w:World) {ops:Array Oper} {o:Oper} {a:Act} {K:Act→World→Prop} {Q:Exit→Act→World→Prop} {E:Prop} (hgd:o.guard=none) (s x:Operand) (t:TypeId)
 (ho:o.op=.call { callee:=.builtin .append,args:=#[s,x],argTypes:=#[t,t] })
 (base:Nat) (e:TypeId) (i:TypeInfo) (z:Value) (size bytes:Nat) (ht:P.underlying t=some (.slice e)) (hi:P.info? e=some i) (hz:i.zero=some z)
 (hsize:i.size=size) (hby:i.bytes=bytes) (hzs:z.cells.size=size) (hsz:0 < size)
 (v:Value) (n:Nat) (xs:List Value) (hs:a.eval s=v) (hown:w.ownsRow base e size v n xs)
 (ad:Addr) (m c:Nat) (news:List Value) (hx:a.eval x=.slice (some ad) m c) (hl:news.length=m * size) (hnews:∀ j u,news[j]?=some u→w.cell? (ad.add j)=some u) (h1:∀ u ∈ news,u.oneCell'=true)
 (h63:n+m≤maxLen) (hbytes:(n+m) * bytes≤140737488355328) (hbase:base≤w.heap.size)
 (h:∀ v' w',w'.ownsRow base e size v' (n+m) (xs++news)→w.grownBy w' v.ownBlock→(v'.ownBlock=v.ownBlock∨v'.ownBlock=some w.heap.size)→K (a.put o.dst v') w') :
 if Region.wanted o (yielded ops a.tmps)=true then Oper.wp P o a w K Q else E:=by
 have hw:Region.wanted o (yielded ops a.tmps)=true:=by simp [Region.wanted,hgd]
 rw [if_pos hw]
 obtain ⟨v',w',hr,h2,h3,_,h5⟩:=run_append_own_at (P:=P) w base t o.type e i z size bytes ht hi hz hsize hby hzs hsz v n xs hown ad m c news hl hnews h1 h63 hbytes hbase
 unfold Oper.wp execOp
 simp only [ho,resolve,invoke,builtin,Sem.run_bind,Sem.run_pure,Result.andThen_ok,List.map_toArray,List.map_cons,List.map_nil,hs,hx,hr]
 exact h v' w' h2 h3 h5
set_option maxHeartbeats 16000000 in
set_option maxRecDepth 100000 in
theorem sctR_any (c:Ct) (p:Cp) (w:World) (hv:CtV w c p) :
 Calls Tryz.prog 32 #[.agg #[.int .i64 c.rep,.int .i64 c.rel,.int .i64 c.con,.int .i64 c.sit,.int .i64 c.lay,.int .i64 c.nf,.int .i64 c.nt,.slice p.cs c.cs.length p.ccs,.slice p.rs c.rs.length p.crs,.slice p.os c.os.length p.cos,.slice p.cr (len c.cr) p.ccr,.slice p.ls c.ls.length p.cls,.slice p.fs c.fs.length p.cfs,.int .i64 c.gua]] w (ScP w (fun _=>False) c (sctE c)):=by
 obtain ⟨ir,hir,hir0,hir1,hir2⟩:=info_parts Tryz.infoRu
 obtain ⟨io,hio,hio0,hio1,hio2⟩:=info_parts Tryz.infoCo
 obtain ⟨ix,hix,hix0,hix1,hix2⟩:=info_parts Tryz.infoXp
 have HV:=Lib.hid hv
 clear hv
 obtain ⟨R,hR⟩:∃ R,sctE c=R:=⟨_,rfl⟩
 rw [hR]
 obtain ⟨E0,hE0⟩:∃ E,tvalC c=E:=⟨_,rfl⟩
 obtain ⟨E1,hE1⟩:∃ E,fe (sruE c.cs c.rs) 0 c.rs.length=E:=⟨_,rfl⟩
 obtain ⟨E2,hE2⟩:∃ E,fe (sosE c.cs c.os) 0 c.os.length=E:=⟨_,rfl⟩
 obtain ⟨E3,hE3⟩:∃ E,scrE c.cs c.cr=E:=⟨_,rfl⟩
 have G0:Hid (R=orE E0 (orE E1 (orE E2 E3))):=by unfold Hid;rw [← hR,← hE0,← hE1,← hE2,← hE3];rfl
 have HE0:=Lib.hid hE0
 have HE1:=Lib.hid hE1
 have HE2:=Lib.hid hE2
 have HE3:=Lib.hid hE3
 clear hR hE0 hE1 hE2 hE3
 go_enter Tryz.func32,Tryz.ntmps32
 go_upto_region 1 with (fail)
 have X0:=Lib.hid ((CtBox.start w c p).next (below_box _ (.cells #[.int .i64 0,.int .i64 0,.int .i64 0,.int .i64 0,.int .i64 0,.int .i64 0,.int .i64 0,.slice none 0 0,.slice none 0 0,.slice none 0 0,.slice none 0 0,.slice none 0 0,.slice none 0 0,.int .i64 0] 44)))
 have Z0:=Lib.hid (OutB.zero (w.alloc (.cells #[.int .i64 c.rep,.int .i64 c.rel,.int .i64 c.con,.int .i64 c.sit,.int .i64 c.lay,.int .i64 c.nf,.int .i64 c.nt,.slice p.cs c.cs.length p.ccs,.slice p.rs c.rs.length p.crs,.slice p.os c.os.length p.cos,.slice p.cr (len c.cr) p.ccr,.slice p.ls c.ls.length p.cls,.slice p.fs c.fs.length p.cfs,.int .i64 c.gua] 44)))
 rw [World.size_alloc] at Z0
 have B0:Hid (Below w.heap.size w ((w.alloc (.cells #[.int .i64 c.rep,.int .i64 c.rel,.int .i64 c.con,.int .i64 c.sit,.int .i64 c.lay,.int .i64 c.nf,.int .i64 c.nt,.slice p.cs c.cs.length p.ccs,.slice p.rs c.rs.length p.crs,.slice p.os c.os.length p.cos,.slice p.cr (len c.cr) p.ccr,.slice p.ls c.ls.length p.cls,.slice p.fs c.fs.length p.cfs,.int .i64 c.gua] 44)).alloc (.cells #[.int .i64 0,.int .i64 0,.int .i64 0,.int .i64 0,.int .i64 0,.int .i64 0,.int .i64 0,.slice none 0 0,.slice none 0 0,.slice none 0 0,.slice none 0 0,.slice none 0 0,.slice none 0 0,.int .i64 0] 44))):=((Below.refl _ _).alloc (Nat.le_refl _) _).alloc (by simp) _
 generalize (w.alloc (.cells #[.int .i64 c.rep,.int .i64 c.rel,.int .i64 c.con,.int .i64 c.sit,.int .i64 c.lay,.int .i64 c.nf,.int .i64 c.nt,.slice p.cs c.cs.length p.ccs,.slice p.rs c.rs.length p.crs,.slice p.os c.os.length p.cos,.slice p.cr (len c.cr) p.ccr,.slice p.ls c.ls.length p.cls,.slice p.fs c.fs.length p.cfs,.int .i64 c.gua] 44)).alloc (.cells #[.int .i64 0,.int .i64 0,.int .i64 0,.int .i64 0,.int .i64 0,.int .i64 0,.int .i64 0,.slice none 0 0,.slice none 0 0,.slice none 0 0,.slice none 0 0,.slice none 0 0,.slice none 0 0,.int .i64 0] 44)=w0 at *
 obtain ⟨c0,c1,c2,c3,c4,c5,c6,c7,c8,c9,c10,c11,c12,c13,hlt⟩:=X0.out
 go_wp2_with fail
 refine (rcheck_any c p w0 (HV.out.next B0.out)).mono ?_
 rw [HE0.out]
 rintro e w1 ⟨rfl,hb⟩
 have X1:=Lib.hid (X0.out.next hb)
 have Z1:=Lib.hid (Z0.out.next hb)
 have B1:=Lib.hid (B0.out.trans (hb.mono B0.out.size))
 clear hb c0 c1 c2 c3 c4 c5 c6 c7 c8 c9 c10 c11 c12 c13 hlt X0 Z0 B0
 by_cases z1:E0=0
 case neg =>
  have RQ:Hid (R=E0):=by unfold Hid;rw [G0.out,orE_ne z1]
  have ee:=z1
  have b0:(E0 != 0)=true:=by simp [ee]
  obtain ⟨z0,z1,z2,z3,z4,z5,z6,z7,z8,z9,z10,z11,z12,z13,zf0,zf1,zf2,zf3,zf4,zf5,zf6,zf7,zf8,zf9,zf10,zf11,zf12,zf13⟩:=Z1.out.zf
  have RZ:R≠0:=by rw [RQ.out];exact ee
  have RZ2:=Lib.hid RZ
  clear ee RZ
  go_wp2
  refine bodyPost_ret (v:=.tuple #[.agg #[.int .i64 0,.int .i64 0,.int .i64 0,.int .i64 0,.int .i64 0,.int .i64 0,.int .i64 0,.slice none 0 0,.slice none 0 0,.slice none 0 0,.slice none 0 0,.slice none 0 0,.slice none 0 0,.int .i64 0],.int .i64 E0]) ?_ rfl ?_
  · rw [results_cell_tmp rfl];go_simp
  · refine ⟨zeroC,zeroP,by rw [RQ.out];rfl,?_,fun q=>absurd q RZ2.out⟩
    repeat (refine Below.setCell ?_ (Nat.le_succ _) _)
    exact B1.out
 have b0:(E0 != 0)=false:=by simp [z1]
 have HE0z:Hid (tvalC c=0):=HE0.out.trans z1
 have G1:Hid (R=orE E1 (orE E2 E3)):=by unfold Hid;rw [G0.out,z1,orE_zero]
 clear z1 G0 HE0
 have PARTS:=Lib.hid (tval_parts c HE0z.out)
 have HCS:=Lib.hid (csv_of_row HV.out.cs PARTS.out.1.1)
 obtain ⟨l0,l1,l2,l3,l4,l5⟩:=PARTS.out.1
 obtain ⟨c0,c1,c2,c3,c4,c5,c6,c7,c8,c9,c10,c11,c12,c13,hlt⟩:=X1.out
 go_upto_region 6 with (fail)
 have T5:OutB (w1.alloc (.cells #[.int .i64 c.rep,.int .i64 c.rel,.int .i64 c.con,.int .i64 c.sit,.int .i64 c.lay,.int .i64 c.nf,.int .i64 c.nt,.slice none 0 0,.slice none 0 0,.slice none 0 0,.slice none 0 0,.slice p.ls c.ls.length p.cls,.slice p.fs c.fs.length p.cfs,.int .i64 c.gua] 44)) w1.heap.size c (.slice none 0 0) (.slice none 0 0) (.slice none 0 0) (.slice p.ls c.ls.length p.cls) (.slice p.fs c.fs.length p.cfs):=by
  constructor<;>simp [go_sem]
 have S5:Hid (ScE w _ w1.heap.size c p (.slice none 0 0) (.slice none 0 0) (.slice none 0 0) (.slice p.ls c.ls.length p.cls) (.slice p.fs c.fs.length p.cfs)):=⟨X1.out.next (below_box _ _),Z1.out.next (below_box _ _),T5,B1.out.trans ((below_box _ _).mono B1.out.size),Z1.out.lt⟩
 clear T5 c0 c1 c2 c3 c4 c5 c6 c7 c8 c9 c10 c11 c12 c13 hlt X1 Z1 b0
 generalize w1.alloc (.cells #[.int .i64 c.rep,.int .i64 c.rel,.int .i64 c.con,.int .i64 c.sit,.int .i64 c.lay,.int .i64 c.nf,.int .i64 c.nt,.slice none 0 0,.slice none 0 0,.slice none 0 0,.slice none 0 0,.slice p.ls c.ls.length p.cls,.slice p.fs c.fs.length p.cfs,.int .i64 c.gua] 44)=w5 at *
 clear B1
 generalize w1.heap.size=g at *
 have S9:=S5
 clear S5
 obtain ⟨w9,hw9⟩:∃ z,z=w5:=⟨_,rfl⟩
 subst hw9
 go_wp2_with fail
 go_loopw [6] (fun i wp=>∃ (j:Nat) (L:List Ru) (v:Value),j≤c.rs.length∧i=.int .i64 j∧Hid (ScE w wp g c p (v) (.slice none 0 0) (.slice none 0 0) (.slice p.ls c.ls.length p.cls) (.slice p.fs c.fs.length p.cfs)∧RwS ruCl ruTr 65 6 wp (XBx 0 w g) w9.heap.size v L∧(∀ r ∈ L,ExOk r.a r.k∧Bd r.sc∧r.name.size≤9223372036854775807)∧L.map ruC=(c.rs.take j).flatMap (sruF c.cs)∧L.length≤j∧fe (sruE c.cs c.rs) j (c.rs.length - j)=E1∧KeepX w9.heap.size (XBx 0 w g) w9 wp∧w9.heap.size≤wp.heap.size)) (fun i _=>c.rs.length - (intOf i).toNat)
 case atStart=>exact ⟨0,[],.slice none 0 0,Nat.zero_le _,rfl,S9.out,RwS.start _ (S9.out.base (Nat.zero_le _)),fun r hr=>(by cases hr),rfl,Nat.le_refl _,HE1.out,KeepX.refl _ _ _,Nat.le_refl _⟩
 case round =>
  clear S9
  obtain ⟨wp,hwr⟩:∃ z,z=wr:=⟨_,rfl⟩
  subst hwr
  obtain ⟨j,L,v,hj,rfl,HR⟩:=hrel
  obtain ⟨h1,h2,h3,h4,h5,h6,h7,h8⟩:=HR.out
  have H1:=Lib.hid h1
  have H2:=Lib.hid h2
  have H3:=Lib.hid h3
  have H4:=Lib.hid h4
  have H5:=Lib.hid h5
  have H6:=Lib.hid h6
  have H7:=Lib.hid h7
  have H8:=Lib.hid h8
  clear h1 h2 h3 h4 h5 h6 h7 h8 HR
  have cf:=H1.out.t1.c8
  by_cases hlt:j < c.rs.length
  · obtain ⟨x,hc⟩:∃ x,c.rs[j]?=some x:=⟨_,List.getElem?_eq_getElem (by omega)⟩
    obtain ⟨B,O,hp,hP⟩:=(HV.out.rs).get hc
    obtain ⟨d0,d1,⟨⟨d2,d3,d4,d5⟩,hx,hok⟩,hbd,hnm⟩:=hP.next H1.out.bl
    have HBN:=Lib.hid (And.intro hbd hnm)
    clear hbd hnm
    have HX:=Lib.hid hx
    have HOK:=Lib.hid hok
    have hj1:(j:Int) < (c.rs.length:Int):=by omega
    have FA:=Lib.hid ((fe_at (f:=sruE c.cs c.rs) hlt).symm.trans H6.out)
    have CA:=Lib.hid (sruE_eq c.cs c.rs j x hc)
    have FL:=Lib.hid (take_flat (sruF c.cs) hc)
    have LL:Hid (L.length≤1000):=by unfold Hid;have:=H5.out;have:=PARTS.out.1.2.1;omega
    have HXW:=Lib.hid hP.2.2.1.2.1
    have HMEM:=Lib.hid (List.mem_of_getElem? hc)
    clear hP hc hx hok
    rw [hp] at cf
    rw [hp]
    go_upto_region 10 with (fail)
    obtain ⟨wa,hwa,hbx,zb,e0,e1,e2,e3,e4,e5⟩:=ru_box wp x
    rw [hwa]
    clear hwa
    have KB1:=Lib.hid hbx
    have S1:=Lib.hid (H1.out.next hbx)
    have W1:=Lib.hid (H2.out.next hbx)
    have X1:=Lib.hid (HX.out.next hbx)
    clear hbx cf d0 d1 d2 d3 d4 d5
    have c7:=S1.out.t1.c7
    obtain ⟨q1,qe,hq⟩:∃ q1 qe,simpR c.cs x.sc x.a x.k=(q1,qe):=⟨_,_,rfl⟩
    have hfr:∀ g',wa.heap.size≤g'→¬ XBx 0 w g g'∧v.ownBlock≠some g':=fun g' hg=>⟨fun q=>by have:=S1.out.base (Nat.zero_le _) g' q;omega,fun q=>by have:=(W1.out.ow.lt g' q).2;omega⟩
    have hav:FoAv (fun g'=>¬ XBx 0 w g g'∧v.ownBlock≠some g') x.k x.b:=HXW.out.2.lt.av fun g' hg=>(by
     have h1:=H1.out.lt
     have h2:=H2.out.lt g (Or.inr (Or.inl rfl))
     exact ⟨fun q=>by rcases q with q|q|q<;>omega,fun q=>by have:=(H2.out.ow.lt g' q).1;omega⟩)
    have CC:=Lib.hid (simplifyRA_any (fun g'=>¬ XBx 0 w g g'∧v.ownBlock≠some g') c.cs p.cs p.ccs x.sc x.b x.o x.a.op x.a.num x.a.name x.a.ptr x.a.cap x.k wa (HCS.out.next S1.out.bl) HV.out.cap X1.out HOK.out hav hfr)
    clear hfr hav
    rw [show simpR c.cs x.sc ⟨x.a.op,x.a.num,x.a.name,x.a.ptr,x.a.cap⟩ x.k=(q1,qe) from hq] at CC
    have HQ:=Lib.hid hq
    clear hq
    go_upto_region 11 with (go_at_call 23;refine CC.out.mono ?_;rintro e wb ⟨y,rfl,hy,hyx,hya,hb⟩;have HY:Hid (ec y=q1):=hy;have HYA:=Lib.hid (And.intro hyx hya);have HB:=Lib.hid hb;clear hy hyx hya hb)
    obtain ⟨wd,hwd,hby,hY⟩:=ch_box wb y
    rw [hwd]
    clear hwd
    have Y3:=Lib.hid hY
    have HBY:=Lib.hid hby
    clear hY hby
    have S3:=Lib.hid ((S1.out.next HB.out).next HBY.out)
    have W3:=Lib.hid ((W1.out.next HB.out).next HBY.out)
    have A3:=Lib.hid (HYA.out.1.next HBY.out)
    have AV:=Lib.hid HYA.out.2
    have KB3:Hid (Below wp.heap.size wp wd):=(KB1.out.trans (HB.out.mono KB1.out.size)).trans (HBY.out.mono (Nat.le_trans KB1.out.size HB.out.size))
    have E0h:=Lib.hid (cell_next (cell_next e0 HB.out) HBY.out)
    have E1h:=Lib.hid (cell_next (cell_next e1 HB.out) HBY.out)
    have K3:=Lib.hid (H7.out.next H8.out KB3.out)
    have M3:Hid (w9.heap.size≤wd.heap.size):=Nat.le_trans H8.out KB3.out.size
    generalize wb.heap.size=tb at *
    clear c7 e0 e1 e2 e3 e4 e5 CC HB HBY
    by_cases hqe:qe=0
    case neg =>
     have RE:Hid (E1=qe):=by unfold Hid;rw [← FA.out,CA.out,HQ.out];exact orE_ne hqe
     have RQ:Hid (R=qe):=by unfold Hid;rw [G1.out,RE.out,orE_ne hqe]
     have ee:=hqe
     have b0:(qe != 0)=true:=by simp [ee]
     obtain ⟨z0,z1,z2,z3,z4,z5,z6,z7,z8,z9,z10,z11,z12,z13,zf0,zf1,zf2,zf3,zf4,zf5,zf6,zf7,zf8,zf9,zf10,zf11,zf12,zf13⟩:=S3.out.t2.zf
     have RZ:R≠0:=by rw [RQ.out];exact ee
     have RZ2:=Lib.hid RZ
     clear ee RZ
     go_wp2
     refine bodyPost_ret (v:=.tuple #[.agg #[.int .i64 0,.int .i64 0,.int .i64 0,.int .i64 0,.int .i64 0,.int .i64 0,.int .i64 0,.slice none 0 0,.slice none 0 0,.slice none 0 0,.slice none 0 0,.slice none 0 0,.slice none 0 0,.int .i64 0],.int .i64 qe]) ?_ rfl ?_
     · rw [results_cell_tmp rfl];go_simp
     · refine ⟨zeroC,zeroP,by rw [RQ.out];rfl,?_,fun q=>absurd q RZ2.out⟩
       repeat (refine Below.setCell ?_ (Nat.le_succ _) _)
       exact S3.out.bl
    have n0:(qe != 0)=false:=by simp [hqe]
    have CN:Hid (fe (sruE c.cs c.rs) (j+1) (c.rs.length - (j+1))=E1):=by unfold Hid;rw [← FA.out,CA.out,HQ.out];show _=orE qe _;rw [hqe,orE_zero]
    have SW0:=Lib.hid hqe
    have SW:=Lib.hid (simp_wf c.cs x.sc x.a x.k y (by rw [HQ.out];exact hqe) (by rw [HQ.out];exact HY.out))
    have OPQ:Hid (q1.a.op=y.a.op∧q1.a.num=y.a.num):=by unfold Hid;rw [← HY.out];exact ⟨rfl,rfl⟩
    clear hqe
    obtain ⟨y0,y1,y2,y3,-,-,-,-,-⟩:=Y3.out
    by_cases h4:y.a.op=4
    · have n4:(y.a.op != 4)=false:=by simp [h4]
      have FE:Hid (sruF c.cs x=[]):=by unfold Hid sruF;rw [HQ.out,if_pos (OPQ.out.1.trans h4)]
      clear h4
      go_wp2
      go_roundw
      case rel=>exact ⟨j+1,L,v,by omega,by go_num,S3.out,W3.out,H3.out,by rw [FL.out,FE.out,List.append_nil];exact H4.out,Nat.le_succ_of_le H5.out,CN.out,K3.out,M3.out⟩
      case measure=>simp [intOf];omega
    have n4:(y.a.op != 4)=true:=by simp [h4]
    have FE:Hid (sruF c.cs x=[(x.sc,q1)]):=by unfold Hid sruF;rw [HQ.out,if_neg (fun q=>h4 (OPQ.out.1.symm.trans q))]
    clear h4
    obtain ⟨pv,cv,hv⟩:=own_slc W3.out.ow
    subst hv
    have oc:=S3.out.t5.c8
    have ew0:=E0h.out
    have ew1:=E1h.out
    have HNB:=Lib.hid (below_box wd (.cells #[.int .i64 x.sc,.string x.name,.int .i64 y.a.op,.int .i64 y.a.num,.string y.a.name,.slice y.a.ptr (len y.k) y.a.cap] 65))
    have W4:=Lib.hid (W3.out.next HNB.out)
    all_goals
     go_wp2_with (at_builtin;refine wpList_append_own_at _ rfl _ _ 39 rfl w9.heap.size 65 ir (.agg #[.int .i64 0,.string ⟨#[]⟩,.int .i64 0,.int .i64 0,.string ⟨#[]⟩,.slice none 0 0]) 6 80 Tryz.underlying39 hir hir0 hir1 hir2 rfl (by decide) (.slice pv L.length cv) L.length (L.flatMap ruCl) rfl W4.out.ow ⟨wd.heap.size,0,none⟩ 1 1 (ruCl ⟨x.sc,x.name,y.b,y.o,y.a,y.k⟩) rfl rfl (by intro q u hu;match q,hu with|0,hu=>(simp [ruCl] at hu;subst hu;simp [Addr.add,go_sem])|1,hu=>(simp [ruCl] at hu;subst hu;simp [Addr.add,go_sem])|2,hu=>(simp [ruCl] at hu;subst hu;simp [Addr.add,go_sem])|3,hu=>(simp [ruCl] at hu;subst hu;simp [Addr.add,go_sem])|4,hu=>(simp [ruCl] at hu;subst hu;simp [Addr.add,go_sem])|5,hu=>(simp [ruCl] at hu;subst hu;simp [Addr.add,go_sem])|q+6,hu=>simp [ruCl] at hu) (one_ru _) (by have:=LL.out;unfold maxLen;omega) (by have:=LL.out;omega) (by have:=M3.out;simp;omega) ?_;intro v' we hown hgrow _ hob;obtain ⟨pn,cn,hvn⟩:=own_slc hown;subst hvn;have OL:∀ m,(Value.slice pv L.length cv).ownBlock=some m→w9.heap.size≤m∧m < wd.heap.size:=(fun m hm=>W3.out.ow.lt m hm);have hg9:=W3.out.lt g (Or.inr (Or.inl rfl));have S5:=Lib.hid ((S3.out.next HNB.out).grown hgrow (fun m hm=>(by have:=(OL m hm).1;omega)));have W5:=Lib.hid (RwS.app (r:=(⟨x.sc,x.name,y.b,y.o,y.a,y.k⟩:Ru)) W4.out (A3.out.next HNB.out) AV.out hown hgrow (by first|exact hob|exact hob.imp id (fun q=>by rw [q];simp)));have K5:=Lib.hid ((K3.out.next M3.out HNB.out).grown (by have:=M3.out;simp;omega) hgrow (fun m hm=>.inl (OL m hm).1));have M5:Hid (w9.heap.size≤we.heap.size):=(by unfold Hid;have:=M3.out;have:=hgrow.size;(try simp at this);omega);clear hown hgrow hob OL oc hg9;have oc:=S5.out.t5.c8;have of:=S5.out.t5.f8)
     go_roundw
     case rel =>
      refine ⟨j+1,L++[⟨x.sc,x.name,y.b,y.o,y.a,y.k⟩],.slice pn (L.length+1) cn,by omega,by go_num,S5.out.set 8 (S5.out.t5.set8 _),W5.out.set (Or.inr (Or.inl rfl)) 8 _,fun r hr=>?_,?_,by rw [List.length_append];exact Nat.succ_le_succ H5.out,CN.out,K5.out.grown M5.out (grw_set _ _ _ _) (fun m hm=>.inr (.inr (.inl (Option.some.inj hm).symm))),Nat.le_trans M5.out (grw_set we g 8 _).size⟩
      · rcases List.mem_append.1 hr with q|q
        · exact H3.out r q
        · rw [List.mem_singleton.1 q];exact ⟨SW.out.2.2.2.2,HBN.out⟩
      · rw [FL.out,FE.out,List.map_append,H4.out]
        show _++[(x.sc,ec y)]=_
        rw [HY.out]
     case measure=>simp [intOf];omega
  have hj1:¬ (j:Int) < (c.rs.length:Int):=by omega
  have RE:Hid (E1=0):=by unfold Hid;rw [← H6.out,fe_end (by omega)]
  have G2:Hid (R=orE E2 E3):=by unfold Hid;rw [G1.out,RE.out,orE_zero]
  have hjn:j=c.rs.length:=by omega
  obtain ⟨pr,kr,hv,hfz⟩:=H2.out.row (fun _=>rfl) RuP (fun w' B O r hr hc hx=>ruP_of hc hx (H3.out r hr)) (by have:=H5.out;have:=PARTS.out.1.2.1;omega)
  subst hv
  have FZ1:=Lib.hid hfz
  have ME1:Hid (L.map ruC=c.rs.flatMap (sruF c.cs)):=by unfold Hid;rw [H4.out,hjn,List.take_length]
  have S9:=H1
  have KK1:=H7
  have MM1:=H8
  clear H1 H2 H3 H4 H5 H6 H7 H8 RE hlt hj hfz G1 hjn
  have cc:=S9.out.t1.c9
  rename List Ru=>L1
  go_wp2_with fail
  clear cc
  go_loopw [10] (fun i wo=>∃ (j:Nat) (L:List Co) (v:Value),j≤c.os.length∧i=.int .i64 j∧Hid (ScE w wo g c p (.slice pr L1.length kr) (v) (.slice none 0 0) (.slice p.ls c.ls.length p.cls) (.slice p.fs c.fs.length p.cfs)∧RwS coCl coTr 67 5 wo (XBx 0 w g) wp.heap.size v L∧(∀ r ∈ L,ExOk r.a r.k∧Bd r.sc)∧L.map coC=(c.os.take j).flatMap (sosF c.cs)∧L.length≤j∧fe (sosE c.cs c.os) j (c.os.length - j)=E2∧KeepX wp.heap.size (XBx 0 w g) wp wo∧wp.heap.size≤wo.heap.size)) (fun i _=>c.os.length - (intOf i).toNat)
  case atStart=>exact ⟨0,[],.slice none 0 0,Nat.zero_le _,rfl,S9.out,RwS.start _ (S9.out.base (Nat.zero_le _)),fun r hr=>(by cases hr),rfl,Nat.le_refl _,HE2.out,KeepX.refl _ _ _,Nat.le_refl _⟩
  case round =>
   clear S9
   obtain ⟨wo,hwr⟩:∃ z,z=wr:=⟨_,rfl⟩
   subst hwr
   obtain ⟨j,L,v,hj,rfl,HR⟩:=hrel
   obtain ⟨h1,h2,h3,h4,h5,h6,h7,h8⟩:=HR.out
   have H1:=Lib.hid h1
   have H2:=Lib.hid h2
   have H3:=Lib.hid h3
   have H4:=Lib.hid h4
   have H5:=Lib.hid h5
   have H6:=Lib.hid h6
   have H7:=Lib.hid h7
   have H8:=Lib.hid h8
   clear h1 h2 h3 h4 h5 h6 h7 h8 HR
   have cf:=H1.out.t1.c9
   by_cases hlt:j < c.os.length
   · obtain ⟨x,hc⟩:∃ x,c.os[j]?=some x:=⟨_,List.getElem?_eq_getElem (by omega)⟩
     obtain ⟨B,O,hp,hP⟩:=(HV.out.os).get hc
     obtain ⟨d0,⟨⟨d2,d3,d4,d5⟩,hx,hok⟩,hbd⟩:=hP.next H1.out.bl
     have HBN:=Lib.hid hbd
     clear hbd
     have HX:=Lib.hid hx
     have HOK:=Lib.hid hok
     have hj1:(j:Int) < (c.os.length:Int):=by omega
     have FA:=Lib.hid ((fe_at (f:=sosE c.cs c.os) hlt).symm.trans H6.out)
     have CA:=Lib.hid (sosE_eq c.cs c.os j x hc)
     have FL:=Lib.hid (take_flat (sosF c.cs) hc)
     have LL:Hid (L.length≤1000):=by unfold Hid;have:=H5.out;have:=PARTS.out.1.2.2.1;omega
     have HXW:=Lib.hid hP.2.1.2.1
     have HMEM:=Lib.hid (List.mem_of_getElem? hc)
     clear hP hc hx hok
     rw [hp] at cf
     rw [hp]
     have hpB:=hp
     have c7:=H1.out.t1.c7
     go_upto_region 18 with (fail)
     have n7:=World.new_ne wo _ c7
     have nB:=World.new_ne wo _ d2
     have hB:B < wo.heap.size:=by have:=block_lt_of_cell d2;simpa using this
     have hwz:w.heap.size < wo.heap.size:=H1.out.t1.lt
     obtain ⟨q1,qe,hq⟩:∃ q1 qe,simpR c.cs x.sc x.a x.k=(q1,qe):=⟨_,_,rfl⟩
     have hfr:∀ (wk:World),wo.heap.size≤wk.heap.size→∀ g',wk.heap.size≤g'→(¬ XBx 0 w g g'∧v.ownBlock≠some g')∧(g' < wo.heap.size∨wk.heap.size≤g'):=fun wk hz g' hg=>⟨⟨fun q=>by have:=H1.out.base (Nat.zero_le _) g' q;omega,fun q=>by have:=(H2.out.ow.lt g' q).2;omega⟩,.inr hg⟩
     have hav:∀ (wk:World),FoAv (fun g'=>(¬ XBx 0 w g g'∧v.ownBlock≠some g')∧(g' < wo.heap.size∨wk.heap.size≤g')) x.k x.b:=fun wk=>HXW.out.2.lt.av fun g' hg=>(by
      have h1:=H1.out.lt
      have h2:=H2.out.lt g (Or.inr (Or.inl rfl))
      exact ⟨⟨fun q=>by rcases q with q|q|q<;>omega,fun q=>by have:=(H2.out.ow.lt g' q).1;omega⟩,.inl (by omega)⟩)
     have F1:Hid (∀ wk,Below wo.heap.size wo wk→Calls Tryz.prog 23 #[.slice p.cs c.cs.length p.ccs,.int .i64 x.sc,.agg #[.int .i64 x.a.op,.int .i64 x.a.num,.string x.a.name,.slice x.a.ptr (len x.k) x.a.cap]] wk (SimpRA wk (fun g'=>(¬ XBx 0 w g g'∧v.ownBlock≠some g')∧(g' < wo.heap.size∨wk.heap.size≤g')) (q1,qe))):=fun wk hb=>(by
      have h:=simplifyRA_any (fun g'=>(¬ XBx 0 w g g'∧v.ownBlock≠some g')∧(g' < wo.heap.size∨wk.heap.size≤g')) c.cs p.cs p.ccs x.sc x.b x.o x.a.op x.a.num x.a.name x.a.ptr x.a.cap x.k wk (HCS.out.next (H1.out.bl.trans (hb.mono H1.out.bl.size))) HV.out.cap (HX.out.next hb) HOK.out (hav wk) (hfr wk hb.size)
      rw [show simpR c.cs x.sc ⟨x.a.op,x.a.num,x.a.name,x.a.ptr,x.a.cap⟩ x.k=(q1,qe) from hq] at h
      exact h)
     have HQ:=Lib.hid hq
     clear hq hfr hav
     go_cut [11,12] (fun v11 v12 wx=>∃ (tb:Nat) (y:Ch),v11=.pointer (some ⟨tb,0,none⟩)∧v12=.int .i64 qe∧Hid (BX4 wx tb (.int .i64 y.a.op) (.int .i64 y.a.num) (.string y.a.name) (.slice y.a.ptr (len y.k) y.a.cap)∧ec y=q1∧ExAt wx y.b y.o y.a y.k∧FoAv (fun g'=>¬ XBx 0 w g g'∧v.ownBlock≠some g') y.k y.b∧Below wo.heap.size wo wx))
     case first=>as_aux_lemma =>
      go_region_held3 (fun w'=>w'.cell? ⟨w.heap.size,7,none⟩=some (.slice p.cs c.cs.length p.ccs)∧w'.cell? ⟨w.heap.size,9,none⟩=some (.slice (some ⟨B,O,none⟩) c.os.length p.cos)∧w'.cell? ⟨B,O+j * 5,none⟩=some (.int .i64 x.sc)∧w'.cell? ⟨B,O+j * 5+1,none⟩=some (.int .i64 x.a.op)∧w'.cell? ⟨B,O+j * 5+1+1,none⟩=some (.int .i64 x.a.num)∧w'.cell? ⟨B,O+j * 5+1+2,none⟩=some (.string x.a.name)∧w'.cell? ⟨B,O+j * 5+1+3,none⟩=some (.slice x.a.ptr (len x.k) x.a.cap)) (first|exact ⟨cell_next c7 BF.out,cell_next cf BF.out,cell_next d0 BF.out,cell_next d2 BF.out,cell_next d3 BF.out,cell_next d4 BF.out,cell_next d5 BF.out⟩|exact ⟨cell_next (cell_next c7 BF.out) (below_box _ _),cell_next (cell_next cf BF.out) (below_box _ _),cell_next (cell_next d0 BF.out) (below_box _ _),cell_next (cell_next d2 BF.out) (below_box _ _),cell_next (cell_next d3 BF.out) (below_box _ _),cell_next (cell_next d4 BF.out) (below_box _ _),cell_next (cell_next d5 BF.out) (below_box _ _)⟩|exact ⟨cell_next c7 (set4_below BF.out (Nat.le_refl _)),cell_next cf (set4_below BF.out (Nat.le_refl _)),cell_next d0 (set4_below BF.out (Nat.le_refl _)),cell_next d2 (set4_below BF.out (Nat.le_refl _)),cell_next d3 (set4_below BF.out (Nat.le_refl _)),cell_next d4 (set4_below BF.out (Nat.le_refl _)),cell_next d5 (set4_below BF.out (Nat.le_refl _))⟩|go_keep) (first
       | (go_at_call 23;go_must (refine (F1.out _ (by (repeat (first|exact Below.refl _ _|refine Below.drew ?_|refine Below.alloc ?_ (by first|exact Nat.le_refl _|(simp<;>omega)) _)))).mono ?_;rintro e wf ⟨y,rfl,hy,hyx,hya,hyb⟩;have EF:Hid (ec y=q1):=hy;have XF:=Lib.hid hyx;have AF:=Lib.hid hya;have BF:Hid (Below wo.heap.size wo wf):=below_then hyb (by (repeat (first|exact Below.refl _ _|refine Below.drew ?_|refine Below.alloc ?_ (by first|exact Nat.le_refl _|(simp<;>omega)) _)));have hzf:=hyb.size;first
           | (guard_hyp hyb:Below (wo.alloc (.cells #[.int .i64 0,.int .i64 0,.string ⟨#[]⟩,.slice none 0 0] 25)).drew.heap.size (wo.alloc (.cells #[.int .i64 0,.int .i64 0,.string ⟨#[]⟩,.slice none 0 0] 25)).drew wf;have TB:Hid (BX4 wf wo.heap.size (.int .i64 0) (.int .i64 0) (.string ⟨#[]⟩) (.slice none 0 0)):=((BX4.new wo (.int .i64 0) (.int .i64 0) (.string ⟨#[]⟩) (.slice none 0 0) 25).next ((Below.refl _ _).drew)).next hyb;obtain ⟨t0,t1,t2,t3,f0,f1,f2,f3,-⟩:=TB.out)
           | skip)))
      all_goals (go_wp2;go_meet)
      all_goals (first
       | exact ⟨_,y,rfl,rfl,BX4.set4 TB.out _ _ _ _,EF.out,XF.out.av4 (AF.out.mono fun g' h=>(by have h2:=h.2;simp at h2;omega)),AF.out.mono (fun g' h=>h.1),set4_below BF.out (Nat.le_refl _)⟩
       | exact ⟨_,y,rfl,rfl,BX4.new wf _ _ _ _ _,EF.out,XF.out.next (below_box _ _),AF.out.mono (fun g' h=>h.1),BF.out.trans ((below_box _ _).mono BF.out.size)⟩)
     case rest =>
     obtain ⟨tb,y,rfl,rfl,HD⟩:=hcut
     obtain ⟨wd,hwd⟩:∃ z,z=wc:=⟨_,rfl⟩
     subst hwd
     have HY:Hid (ec y=q1):=HD.out.2.1
     have A3:=Lib.hid HD.out.2.2.1
     have AV:=Lib.hid HD.out.2.2.2.1
     have KB3:=Lib.hid HD.out.2.2.2.2
     have Y3:=Lib.hid HD.out.1
     have S3:=Lib.hid (H1.out.next KB3.out)
     have W3:=Lib.hid (H2.out.next KB3.out)
     have K3:=Lib.hid (H7.out.next H8.out KB3.out)
     have M3:Hid (wp.heap.size≤wd.heap.size):=Nat.le_trans H8.out KB3.out.size
     have D3:=Lib.hid (cell_next d0 KB3.out)
     clear c7 cf HD F1 hB hwz d0 d2 d3 d4 d5
     by_cases hqe:qe=0
     case neg =>
      have RE:Hid (E2=qe):=by unfold Hid;rw [← FA.out,CA.out,HQ.out];exact orE_ne hqe
      have RQ:Hid (R=qe):=by unfold Hid;rw [G2.out,RE.out,orE_ne hqe]
      have ee:=hqe
      have b0:(qe != 0)=true:=by simp [ee]
      obtain ⟨z0,z1,z2,z3,z4,z5,z6,z7,z8,z9,z10,z11,z12,z13,zf0,zf1,zf2,zf3,zf4,zf5,zf6,zf7,zf8,zf9,zf10,zf11,zf12,zf13⟩:=S3.out.t2.zf
      have RZ:R≠0:=by rw [RQ.out];exact ee
      have RZ2:=Lib.hid RZ
      clear ee RZ
      go_wp2
      refine bodyPost_ret (v:=.tuple #[.agg #[.int .i64 0,.int .i64 0,.int .i64 0,.int .i64 0,.int .i64 0,.int .i64 0,.int .i64 0,.slice none 0 0,.slice none 0 0,.slice none 0 0,.slice none 0 0,.slice none 0 0,.slice none 0 0,.int .i64 0],.int .i64 qe]) ?_ rfl ?_
      · rw [results_cell_tmp rfl];go_simp
      · refine ⟨zeroC,zeroP,by rw [RQ.out];rfl,?_,fun q=>absurd q RZ2.out⟩
        repeat (refine Below.setCell ?_ (Nat.le_succ _) _)
        exact S3.out.bl
     have n0:(qe != 0)=false:=by simp [hqe]
     have CN:Hid (fe (sosE c.cs c.os) (j+1) (c.os.length - (j+1))=E2):=by unfold Hid;rw [← FA.out,CA.out,HQ.out];show _=orE qe _;rw [hqe,orE_zero]
     have SW0:=Lib.hid hqe
     have SW:=Lib.hid (simp_wf c.cs x.sc x.a x.k y (by rw [HQ.out];exact hqe) (by rw [HQ.out];exact HY.out))
     have OPQ:Hid (q1.a.op=y.a.op∧q1.a.num=y.a.num):=by unfold Hid;rw [← HY.out];exact ⟨rfl,rfl⟩
     clear hqe
     obtain ⟨y0,y1,y2,y3,-,-,-,-,-⟩:=Y3.out
     have SM1:=sm_num x.sc (ec y) (by rw [HY.out];have h:=simpR_ty c.cs x.sc 1 x.a x.k (by rw [HQ.out];exact SW0.out) (PARTS.out.2.2 x HMEM.out).2;rw [HQ.out] at h;exact h)
     have OP2:Hid (y.a.op≠2):=SM1
     clear SM1
     go_wp2_with fail
     refine (rzero_any y.a.op y.a.num y.a.name y.a.ptr (len y.k) y.a.cap wd).mono ?_
     rintro e w8 ⟨rfl,hb8⟩
     have S38:=Lib.hid (S3.out.next hb8)
     have W38:=Lib.hid (W3.out.next hb8)
     have A38:=Lib.hid (A3.out.next hb8)
     have Y38:=Lib.hid (Y3.out.next hb8)
     have K38:=Lib.hid (K3.out.next M3.out hb8)
     have M38:Hid (wp.heap.size≤w8.heap.size):=Nat.le_trans M3.out hb8.size
     have D38:=Lib.hid (cell_next D3.out hb8)
     clear S3 W3 A3 Y3 K3 M3 D3 KB3 hb8 y0 y1 y2 y3
     rename Hid (ScE w w8 g c p (.slice pr L1.length kr) (v) (.slice none 0 0) (.slice p.ls c.ls.length p.cls) (.slice p.fs c.fs.length p.cfs))=>S3
     have W3:=W38
     have A3:=A38
     have Y3:=Y38
     have K3:=K38
     have M3:=M38
     have D3:=D38
     clear W38 A38 Y38 K38 M38 D38
     obtain ⟨wd,hwd⟩:∃ z,z=w8:=⟨_,rfl⟩
     subst hwd
     obtain ⟨y0,y1,y2,y3,-,-,-,-,-⟩:=Y3.out
     by_cases h4:(y.a.op=1∨y.a.op=2)∧y.a.num=0
     · have n4:decide ((y.a.op=1∨y.a.op=2)∧y.a.num=0)=true:=decide_eq_true h4
       have FE:Hid (sosF c.cs x=[]):=by unfold Hid sosF;rw [HQ.out,if_pos ⟨OPQ.out.1.trans (h4.1.resolve_right OP2.out),OPQ.out.2.trans h4.2⟩]
       clear h4
       go_wp2
       go_roundw
       case rel=>exact ⟨j+1,L,v,by omega,by go_num,S3.out,W3.out,H3.out,by rw [FL.out,FE.out,List.append_nil];exact H4.out,Nat.le_succ_of_le H5.out,CN.out,K3.out,M3.out⟩
       case measure=>simp [intOf];omega
     have n4:decide ((y.a.op=1∨y.a.op=2)∧y.a.num=0)=false:=decide_eq_false h4
     have FE:Hid (sosF c.cs x=[(x.sc,q1)]):=by unfold Hid sosF;rw [HQ.out,if_neg (fun q=>h4 ⟨.inl (OPQ.out.1.symm.trans q.1),OPQ.out.2.symm.trans q.2⟩)]
     clear h4
     have c9:=S3.out.t1.c9
     rw [hpB] at c9
     have ew0:=D3.out
     go_upto_region 22 with (fail)
     obtain ⟨pv,cv,hv⟩:=own_slc W3.out.ow
     subst hv
     have oc:=S3.out.t5.c9
     have HNB:=Lib.hid ((below_box wd (.cells #[.int .i64 x.sc,.int .i64 y.a.op,.int .i64 y.a.num,.string y.a.name,.slice y.a.ptr (len y.k) y.a.cap] 67)).drew)
     have W4:=Lib.hid (W3.out.next HNB.out)
     skip
     have hzz:g < wd.heap.size:=S3.out.t5.lt
     go_region_law (first|(refine step_append_atD _ (by rfl) _ _ 40 (by rfl) wp.heap.size 67 io (.agg #[.int .i64 0,.int .i64 0,.int .i64 0,.string ⟨#[]⟩,.slice none 0 0]) 5 64 Tryz.underlying40 hio hio0 hio1 hio2 rfl (by decide) (.slice pv L.length cv) L.length (L.flatMap coCl) (by rfl) W4.out.ow ⟨wd.heap.size,0,none⟩ 1 1 (coCl ⟨x.sc,y.b,y.o,y.a,y.k⟩) (by rfl) (by rfl) (by intro q u hu;match q,hu with|0,hu=>(simp [coCl] at hu;subst hu;simp [Addr.add,go_sem])|1,hu=>(simp [coCl] at hu;subst hu;simp [Addr.add,go_sem])|2,hu=>(simp [coCl] at hu;subst hu;simp [Addr.add,go_sem])|3,hu=>(simp [coCl] at hu;subst hu;simp [Addr.add,go_sem])|4,hu=>(simp [coCl] at hu;subst hu;simp [Addr.add,go_sem])|q+5,hu=>simp [coCl] at hu) (one_co _) (by have:=LL.out;unfold maxLen;omega) (by have:=LL.out;omega) (by have:=M3.out;simp;omega) ?_;intro v' we hown hgrow hob;obtain ⟨pn,cn,hvn⟩:=own_slc hown;subst hvn;have OL:∀ m,(Value.slice pv L.length cv).ownBlock=some m→wp.heap.size≤m∧m < wd.heap.size:=(fun m hm=>W3.out.ow.lt m hm);have hg9:=W3.out.lt g (Or.inr (Or.inl rfl));have S5:=Lib.hid ((S3.out.next HNB.out).grown hgrow (fun m hm=>(by have:=(OL m hm).1;omega)));have W5:=Lib.hid (RwS.app (r:=(⟨x.sc,y.b,y.o,y.a,y.k⟩:Co)) W4.out (A3.out.next HNB.out) AV.out hown hgrow (by first|exact hob|exact hob.imp id (fun q=>by rw [q];simp)));have K5:=Lib.hid ((K3.out.next M3.out HNB.out).grown (by have:=M3.out;simp;omega) hgrow (fun m hm=>.inl (OL m hm).1));have M5:Hid (wp.heap.size≤we.heap.size):=(by unfold Hid;have:=M3.out;have:=hgrow.size;(try simp at this);omega);clear hown hgrow hob OL oc hg9;have oc:=S5.out.t5.c9;have of:=S5.out.t5.f9))
     all_goals
      go_wp2
      go_roundw
      case rel =>
       refine ⟨j+1,L++[⟨x.sc,y.b,y.o,y.a,y.k⟩],.slice pn (L.length+1) cn,by omega,by go_num,S5.out.set 9 (S5.out.t5.set9 _),W5.out.set (Or.inr (Or.inl rfl)) 9 _,fun r hr=>?_,?_,by rw [List.length_append];exact Nat.succ_le_succ H5.out,CN.out,K5.out.grown M5.out (grw_set _ _ _ _) (fun m hm=>.inr (.inr (.inl (Option.some.inj hm).symm))),Nat.le_trans M5.out (grw_set we g 9 _).size⟩
       · rcases List.mem_append.1 hr with q|q
         · exact H3.out r q
         · rw [List.mem_singleton.1 q];exact ⟨SW.out.2.2.2.2,HBN.out⟩
       · rw [FL.out,FE.out,List.map_append,H4.out]
         show _++[(x.sc,ec y)]=_
         rw [HY.out]
      case measure=>simp [intOf];omega
   have hj1:¬ (j:Int) < (c.os.length:Int):=by omega
   have RE:Hid (E2=0):=by unfold Hid;rw [← H6.out,fe_end (by omega)]
   have G3:Hid (R=E3):=by unfold Hid;rw [G2.out,RE.out,orE_zero]
   have hjn:j=c.os.length:=by omega
   obtain ⟨po,ko,hv,hfz⟩:=H2.out.row (fun _=>rfl) CoP (fun w' B O r hr hc hx=>coP_of hc hx (H3.out r hr)) (by have:=H5.out;have:=PARTS.out.1.2.2.1;omega)
   subst hv
   have FZ2:=Lib.hid hfz
   have ME2:Hid (L.map coC=c.os.flatMap (sosF c.cs)):=by unfold Hid;rw [H4.out,hjn,List.take_length]
   have S9:=H1
   have KK2:=H7
   have MM2:=H8
   clear H1 H2 H3 H4 H5 H6 H7 H8 RE hlt hj hfz G2 hjn
   have cc:=S9.out.t1.c10
   rename List Co=>L2
   go_wp2_with fail
   clear cc
   go_loopw [13] (fun i wt=>∃ (j:Nat) (L:List Ch) (v:Value) (r:Fo),i=.int .i64 j∧Hid (ScE w wt g c p (.slice pr L1.length kr) (.slice po L2.length ko) (v) (.slice p.ls c.ls.length p.cls) (.slice p.fs c.fs.length p.cfs)∧RwS chC chTr 25 4 wt (XBx 0 w g) wo.heap.size v L∧(∀ y ∈ L,ExOk y.a y.k)∧L.map ec++scrL c.cs r=scrL c.cs c.cr∧L.length=j∧scrE c.cs r=E3∧KeepX wo.heap.size (XBx 0 w g) wo wt∧wo.heap.size≤wt.heap.size∧j+len r=len c.cr∧(∃ b o,(r≠.nil→p.cr=some ⟨b,o,none⟩)∧FoAt w r b (o+j * 4))∧FoOk r)) (fun i _=>len c.cr - (intOf i).toNat)
   case atStart =>
    obtain ⟨-,q1,b,o,q2,q3⟩:=HV.out.cr
    exact ⟨0,[],.slice none 0 0,c.cr,rfl,S9.out,RwS.start _ (S9.out.base (Nat.zero_le _)),fun r hr=>(by cases hr),rfl,rfl,HE3.out,KeepX.refl _ _ _,Nat.le_refl _,by omega,⟨b,o,q2,by rw [Nat.zero_mul,Nat.add_zero];exact q3⟩,q1⟩
   case round =>
    clear S9
    obtain ⟨wt,hwr⟩:∃ z,z=wr:=⟨_,rfl⟩
    subst hwr
    obtain ⟨j,L,v,rr,rfl,HR⟩:=hrel
    obtain ⟨h1,h2,h3,h4,h5,h6,h7,h8,h9,h10,h11⟩:=HR.out
    have H9:=Lib.hid h9
    have H10:=Lib.hid h10
    have H11:=Lib.hid h11
    clear h9 h10 h11
    have H1:=Lib.hid h1
    have H2:=Lib.hid h2
    have H3:=Lib.hid h3
    have H4:=Lib.hid h4
    have H5:=Lib.hid h5
    have H6:=Lib.hid h6
    have H7:=Lib.hid h7
    have H8:=Lib.hid h8
    clear h1 h2 h3 h4 h5 h6 h7 h8 HR
    have cf:=H1.out.t1.c10
    cases rr with
    | node b1 o1 a1 k1 r1 =>
      obtain ⟨kb1,ko1,hkp,hfa⟩:=H10.out
      have HN:=Lib.hid hfa.2.2.2
      obtain ⟨⟨d2,d3,d4,d5⟩,hp1,hk1,-⟩:=hfa.next H1.out.bl
      have hpe:p.cr=some ⟨kb1,ko1,none⟩:=hkp (by simp)
      have hj:j < len c.cr:=by have:=H9.out;simp [len] at this;omega
      have hj1:(j:Int) < (len c.cr:Int):=by omega
      have HX:Hid (ExAt wt b1 o1 a1 k1):=⟨hp1,hk1⟩
      have FA:Hid (orE (simpR c.cs 1 a1 k1).2 (scrE c.cs r1)=E3):=H6.out
      have H44:Hid (L.map ec++(simpR c.cs 1 a1 k1).1 :: scrL c.cs r1=scrL c.cs c.cr):=H4.out
      have HXW:Hid (ExAt w b1 o1 a1 k1):=⟨hfa.2.1,hfa.2.2.1⟩
      have HOK:Hid (ExOk a1 k1∧FoOk r1):=⟨⟨H11.out.1,H11.out.2.1⟩,H11.out.2.2⟩
      have H99:Hid (j+1+len r1=len c.cr):=by unfold Hid;have:=H9.out;simp [len] at this;omega
      have LL:Hid (L.length≤1000):=by unfold Hid;have:=H5.out;have:=PARTS.out.1.2.2.2.1;omega
      clear hp1 hk1 hfa hkp H10 H11 H4 H6 H9
      obtain ⟨x,hxx⟩:∃ x:Ch,x=⟨b1,o1,a1,k1⟩:=⟨_,rfl⟩
      obtain ⟨rfl,rfl,rfl,rfl⟩:x.b=b1∧x.o=o1∧x.a=a1∧x.k=k1:=by rw [hxx];exact ⟨rfl,rfl,rfl,rfl⟩
      clear hxx
      rw [hpe] at cf
      rw [hpe]
      have c7:=H1.out.t1.c7
      go_upto_region 26 with (fail)
      have n7:=World.new_ne wt _ c7
      have nB:=World.new_ne wt _ d2
      have hB:kb1 < wt.heap.size:=by have:=block_lt_of_cell d2;simpa using this
      have hwz:w.heap.size < wt.heap.size:=H1.out.t1.lt
      obtain ⟨q1,qe,hq⟩:∃ q1 qe,simpR c.cs 1 x.a x.k=(q1,qe):=⟨_,_,rfl⟩
      have hfr:∀ (wk:World),wt.heap.size≤wk.heap.size→∀ g',wk.heap.size≤g'→(¬ XBx 0 w g g'∧v.ownBlock≠some g')∧(g' < wt.heap.size∨wk.heap.size≤g'):=fun wk hz g' hg=>⟨⟨fun q=>by have:=H1.out.base (Nat.zero_le _) g' q;omega,fun q=>by have:=(H2.out.ow.lt g' q).2;omega⟩,.inr hg⟩
      have hav:∀ (wk:World),FoAv (fun g'=>(¬ XBx 0 w g g'∧v.ownBlock≠some g')∧(g' < wt.heap.size∨wk.heap.size≤g')) x.k x.b:=fun wk=>HXW.out.2.lt.av fun g' hg=>(by
       have h1:=H1.out.lt
       have h2:=H2.out.lt g (Or.inr (Or.inl rfl))
       exact ⟨⟨fun q=>by rcases q with q|q|q<;>omega,fun q=>by have:=(H2.out.ow.lt g' q).1;omega⟩,.inl (by omega)⟩)
      have F1:Hid (∀ wk,Below wt.heap.size wt wk→Calls Tryz.prog 23 #[.slice p.cs c.cs.length p.ccs,.int .i64 1,.agg #[.int .i64 x.a.op,.int .i64 x.a.num,.string x.a.name,.slice x.a.ptr (len x.k) x.a.cap]] wk (SimpRA wk (fun g'=>(¬ XBx 0 w g g'∧v.ownBlock≠some g')∧(g' < wt.heap.size∨wk.heap.size≤g')) (q1,qe))):=fun wk hb=>(by
       have h:=simplifyRA_any (fun g'=>(¬ XBx 0 w g g'∧v.ownBlock≠some g')∧(g' < wt.heap.size∨wk.heap.size≤g')) c.cs p.cs p.ccs 1 x.b x.o x.a.op x.a.num x.a.name x.a.ptr x.a.cap x.k wk (HCS.out.next (H1.out.bl.trans (hb.mono H1.out.bl.size))) HV.out.cap (HX.out.next hb) HOK.out.1 (hav wk) (hfr wk hb.size)
       rw [show simpR c.cs 1 ⟨x.a.op,x.a.num,x.a.name,x.a.ptr,x.a.cap⟩ x.k=(q1,qe) from hq] at h
       exact h)
      have HQ:=Lib.hid hq
      clear hq hfr hav
      go_cut [14,15] (fun v11 v12 wx=>∃ (tb:Nat) (y:Ch),v11=.pointer (some ⟨tb,0,none⟩)∧v12=.int .i64 qe∧Hid (BX4 wx tb (.int .i64 y.a.op) (.int .i64 y.a.num) (.string y.a.name) (.slice y.a.ptr (len y.k) y.a.cap)∧ec y=q1∧ExAt wx y.b y.o y.a y.k∧FoAv (fun g'=>¬ XBx 0 w g g'∧v.ownBlock≠some g') y.k y.b∧Below wt.heap.size wt wx))
      case first=>as_aux_lemma =>
       go_region_held3 (fun w'=>w'.cell? ⟨w.heap.size,7,none⟩=some (.slice p.cs c.cs.length p.ccs)∧w'.cell? ⟨w.heap.size,10,none⟩=some (.slice (some ⟨kb1,ko1,none⟩) (len c.cr) p.ccr)∧w'.cell? ⟨kb1,ko1+j * 4,none⟩=some (.int .i64 x.a.op)∧w'.cell? ⟨kb1,ko1+j * 4+1,none⟩=some (.int .i64 x.a.num)∧w'.cell? ⟨kb1,ko1+j * 4+2,none⟩=some (.string x.a.name)∧w'.cell? ⟨kb1,ko1+j * 4+3,none⟩=some (.slice x.a.ptr (len x.k) x.a.cap)) (first|exact ⟨cell_next c7 BF.out,cell_next cf BF.out,cell_next d2 BF.out,cell_next d3 BF.out,cell_next d4 BF.out,cell_next d5 BF.out⟩|exact ⟨cell_next (cell_next c7 BF.out) (below_box _ _),cell_next (cell_next cf BF.out) (below_box _ _),cell_next (cell_next d2 BF.out) (below_box _ _),cell_next (cell_next d3 BF.out) (below_box _ _),cell_next (cell_next d4 BF.out) (below_box _ _),cell_next (cell_next d5 BF.out) (below_box _ _)⟩|exact ⟨cell_next c7 (set4_below BF.out (Nat.le_refl _)),cell_next cf (set4_below BF.out (Nat.le_refl _)),cell_next d2 (set4_below BF.out (Nat.le_refl _)),cell_next d3 (set4_below BF.out (Nat.le_refl _)),cell_next d4 (set4_below BF.out (Nat.le_refl _)),cell_next d5 (set4_below BF.out (Nat.le_refl _))⟩|go_keep) (first
        | (go_at_call 23;go_must (refine (F1.out _ (by (repeat (first|exact Below.refl _ _|refine Below.drew ?_|refine Below.alloc ?_ (by first|exact Nat.le_refl _|(simp<;>omega)) _)))).mono ?_;rintro e wf ⟨y,rfl,hy,hyx,hya,hyb⟩;have EF:Hid (ec y=q1):=hy;have XF:=Lib.hid hyx;have AF:=Lib.hid hya;have BF:Hid (Below wt.heap.size wt wf):=below_then hyb (by (repeat (first|exact Below.refl _ _|refine Below.drew ?_|refine Below.alloc ?_ (by first|exact Nat.le_refl _|(simp<;>omega)) _)));have hzf:=hyb.size;first
            | (guard_hyp hyb:Below (wt.alloc (.cells #[.int .i64 0,.int .i64 0,.string ⟨#[]⟩,.slice none 0 0] 25)).drew.heap.size (wt.alloc (.cells #[.int .i64 0,.int .i64 0,.string ⟨#[]⟩,.slice none 0 0] 25)).drew wf;have TB:Hid (BX4 wf wt.heap.size (.int .i64 0) (.int .i64 0) (.string ⟨#[]⟩) (.slice none 0 0)):=((BX4.new wt (.int .i64 0) (.int .i64 0) (.string ⟨#[]⟩) (.slice none 0 0) 25).next ((Below.refl _ _).drew)).next hyb;obtain ⟨t0,t1,t2,t3,f0,f1,f2,f3,-⟩:=TB.out)
            | skip)))
       all_goals (go_wp2;go_meet)
       all_goals (first
        | exact ⟨_,y,rfl,rfl,BX4.set4 TB.out _ _ _ _,EF.out,XF.out.av4 (AF.out.mono fun g' h=>(by have h2:=h.2;simp at h2;omega)),AF.out.mono (fun g' h=>h.1),set4_below BF.out (Nat.le_refl _)⟩
        | exact ⟨_,y,rfl,rfl,BX4.new wf _ _ _ _ _,EF.out,XF.out.next (below_box _ _),AF.out.mono (fun g' h=>h.1),BF.out.trans ((below_box _ _).mono BF.out.size)⟩)
      case rest =>
      obtain ⟨tb,y,rfl,rfl,HD⟩:=hcut
      obtain ⟨wd,hwd⟩:∃ z,z=wc:=⟨_,rfl⟩
      subst hwd
      have HY:Hid (ec y=q1):=HD.out.2.1
      have A3:=Lib.hid HD.out.2.2.1
      have AV:=Lib.hid HD.out.2.2.2.1
      have KB3:=Lib.hid HD.out.2.2.2.2
      have Y3:=Lib.hid HD.out.1
      have S3:=Lib.hid (H1.out.next KB3.out)
      have W3:=Lib.hid (H2.out.next KB3.out)
      have K3:=Lib.hid (H7.out.next H8.out KB3.out)
      have M3:Hid (wo.heap.size≤wd.heap.size):=Nat.le_trans H8.out KB3.out.size
      skip
      clear c7 cf HD F1 hB hwz d2 d3 d4 d5
      by_cases hqe:qe=0
      case neg =>
       have RE:Hid (E3=qe):=by unfold Hid;rw [← FA.out,HQ.out];exact orE_ne hqe
       have RQ:Hid (R=qe):=by unfold Hid;rw [G3.out,RE.out]
       have ee:=hqe
       have b0:(qe != 0)=true:=by simp [ee]
       obtain ⟨z0,z1,z2,z3,z4,z5,z6,z7,z8,z9,z10,z11,z12,z13,zf0,zf1,zf2,zf3,zf4,zf5,zf6,zf7,zf8,zf9,zf10,zf11,zf12,zf13⟩:=S3.out.t2.zf
       have RZ:R≠0:=by rw [RQ.out];exact ee
       have RZ2:=Lib.hid RZ
       clear ee RZ
       go_wp2
       refine bodyPost_ret (v:=.tuple #[.agg #[.int .i64 0,.int .i64 0,.int .i64 0,.int .i64 0,.int .i64 0,.int .i64 0,.int .i64 0,.slice none 0 0,.slice none 0 0,.slice none 0 0,.slice none 0 0,.slice none 0 0,.slice none 0 0,.int .i64 0],.int .i64 qe]) ?_ rfl ?_
       · rw [results_cell_tmp rfl];go_simp
       · refine ⟨zeroC,zeroP,by rw [RQ.out];rfl,?_,fun q=>absurd q RZ2.out⟩
         repeat (refine Below.setCell ?_ (Nat.le_succ _) _)
         exact S3.out.bl
      have n0:(qe != 0)=false:=by simp [hqe]
      have CN:Hid (scrE c.cs r1=E3):=by unfold Hid;rw [← FA.out,HQ.out];show _=orE qe _;rw [hqe,orE_zero]
      have SW0:=Lib.hid hqe
      have SW:=Lib.hid (simp_wf c.cs 1 x.a x.k y (by rw [HQ.out];exact hqe) (by rw [HQ.out];exact HY.out))
      have OPQ:Hid (q1.a.op=y.a.op∧q1.a.num=y.a.num):=by unfold Hid;rw [← HY.out];exact ⟨rfl,rfl⟩
      clear hqe
      obtain ⟨y0,y1,y2,y3,-,-,-,-,-⟩:=Y3.out
      obtain ⟨pv,cv,hv⟩:=own_slc W3.out.ow
      subst hv
      have oc:=S3.out.t5.c10
      have HNB:=Lib.hid (below_box wd (.cells #[.int .i64 y.a.op,.int .i64 y.a.num,.string y.a.name,.slice y.a.ptr (len y.k) y.a.cap] 25))
      have W4:=Lib.hid (W3.out.next HNB.out)
      all_goals
       go_wp2_with (at_builtin;refine wpList_append_own_at _ rfl _ _ 23 rfl wo.heap.size 25 ix (.agg #[.int .i64 0,.int .i64 0,.string ⟨#[]⟩,.slice none 0 0]) 4 56 Tryz.underlying23 hix hix0 hix1 hix2 rfl (by decide) (.slice pv L.length cv) L.length (L.flatMap chC) rfl W4.out.ow ⟨wd.heap.size,0,none⟩ 1 1 (chC y) rfl rfl (by intro q u hu;match q,hu with|0,hu=>(simp [chC] at hu;subst hu;simp [Addr.add,go_sem])|1,hu=>(simp [chC] at hu;subst hu;simp [Addr.add,go_sem])|2,hu=>(simp [chC] at hu;subst hu;simp [Addr.add,go_sem])|3,hu=>(simp [chC] at hu;subst hu;simp [Addr.add,go_sem])|q+4,hu=>simp [chC] at hu) (one_ch _) (by have:=LL.out;unfold maxLen;omega) (by have:=LL.out;omega) (by have:=M3.out;simp;omega) ?_;intro v' we hown hgrow _ hob;obtain ⟨pn,cn,hvn⟩:=own_slc hown;subst hvn;have OL:∀ m,(Value.slice pv L.length cv).ownBlock=some m→wo.heap.size≤m∧m < wd.heap.size:=(fun m hm=>W3.out.ow.lt m hm);have hg9:=W3.out.lt g (Or.inr (Or.inl rfl));have S5:=Lib.hid ((S3.out.next HNB.out).grown hgrow (fun m hm=>(by have:=(OL m hm).1;omega)));have W5:=Lib.hid (RwS.app (r:=(y:Ch)) W4.out (A3.out.next HNB.out) AV.out hown hgrow (by first|exact hob|exact hob.imp id (fun q=>by rw [q];simp)));have K5:=Lib.hid ((K3.out.next M3.out HNB.out).grown (by have:=M3.out;simp;omega) hgrow (fun m hm=>.inl (OL m hm).1));have M5:Hid (wo.heap.size≤we.heap.size):=(by unfold Hid;have:=M3.out;have:=hgrow.size;(try simp at this);omega);clear hown hgrow hob OL oc hg9;have oc:=S5.out.t5.c10;have of:=S5.out.t5.f10)
       go_roundw
       case rel =>
        refine ⟨j+1,L++[y],.slice pn (L.length+1) cn,r1,by go_num,S5.out.set 10 (S5.out.t5.set10 _),W5.out.set (Or.inr (Or.inl rfl)) 10 _,fun r hr=>?_,?_,by rw [List.length_append];show L.length+1=_;rw [H5.out],CN.out,K5.out.grown M5.out (grw_set _ _ _ _) (fun m hm=>.inr (.inr (.inl (Option.some.inj hm).symm))),Nat.le_trans M5.out (grw_set we g 10 _).size,H99.out,⟨kb1,ko1,fun _=>rfl,?_⟩,HOK.out.2⟩
        · rcases List.mem_append.1 hr with q|q
          · exact H3.out r q
          · rw [List.mem_singleton.1 q];exact SW.out.2.2.2.2
        · rw [List.map_append,List.append_assoc,← H44.out,HQ.out,← HY.out]
          rfl
        · rw [Nat.add_mul,Nat.one_mul,← Nat.add_assoc];exact HN.out
       case measure=>simp [intOf];omega
    | nil =>
      have hj:¬ (j:Int) < (len c.cr:Int):=by have:=H9.out;simp [len] at this;omega
      have RQ:Hid (R=0):=by unfold Hid;rw [G3.out,← H6.out];rfl
      obtain ⟨pc,kc,hv,hfz⟩:=H2.out.row (fun _=>rfl) ChP (fun w' B O r hr hc hx=>⟨⟨hc 0 _ rfl,hc 1 _ rfl,hc 2 _ rfl,hc 3 _ rfl⟩,hx⟩) (by have:=H5.out;have:=H9.out;have:=PARTS.out.1.2.2.2.1;simp [len] at *;omega)
      subst hv
      have FZ3:=Lib.hid hfz
      have ME3:Hid (L.map ec=scrL c.cs c.cr):=by unfold Hid;rw [← H4.out];simp [scrL]
      clear hfz H9 H10 H11
      have o0:=H1.out.t5.c0
      have o1:=H1.out.t5.c1
      have o2:=H1.out.t5.c2
      have o3:=H1.out.t5.c3
      have o4:=H1.out.t5.c4
      have o5:=H1.out.t5.c5
      have o6:=H1.out.t5.c6
      have o7:=H1.out.t5.c7
      have o8:=H1.out.t5.c8
      have o9:=H1.out.t5.c9
      have o10:=H1.out.t5.c10
      have o11:=H1.out.t5.c11
      have o12:=H1.out.t5.c12
      have o13:=H1.out.t5.c13
      obtain ⟨z0,z1,z2,z3,z4,z5,z6,z7,z8,z9,z10,z11,z12,z13,zf0,zf1,zf2,zf3,zf4,zf5,zf6,zf7,zf8,zf9,zf10,zf11,zf12,zf13⟩:=H1.out.t2.zf
      go_wp2
      refine bodyPost_ret (v:=.tuple #[.agg #[.int .i64 c.rep,.int .i64 c.rel,.int .i64 c.con,.int .i64 c.sit,.int .i64 c.lay,.int .i64 c.nf,.int .i64 c.nt,.slice none 0 0,.slice pr L1.length kr,.slice po L2.length ko,.slice pc L.length kc,.slice p.ls c.ls.length p.cls,.slice p.fs c.fs.length p.cfs,.int .i64 c.gua],.int .i64 0]) ?_ rfl ?_
      · rw [results_cell_tmp rfl];go_simp
      · rw [RQ.out]
        refine ⟨⟨c.rep,c.rel,c.con,c.sit,c.lay,c.nf,c.nt,c.gua,[],L1,L2,rowF L,c.ls,c.fs⟩,⟨none,pr,po,pc,p.ls,p.fs,0,kr,ko,kc,p.cls,p.cfs⟩,?_,?_,fun _ wz hz=>?_⟩
        · simp only [rowF_len];rfl
        · repeat (refine Below.setCell ?_ (Nat.le_succ _) _)
          exact H1.out.bl
        · have hz2:KeepX wt.heap.size (XBx 0 w g) wt wz:=by
           refine KeepX.trans ?_ ((hz.mono ?_).weak ?_)
           · repeat (refine KeepX.setCell ?_ (Or.inr (Or.inr rfl)) _)
             exact KeepX.refl _ _ _
           · simp [World.setCell]
           · exact fun k q=>q.elim
          refine ⟨FZ1.out _ ?_,ME1.out,FZ2.out _ ?_,ME2.out,crv_of (FZ3.out _ hz2) H3.out,?_⟩
          · exact (KK2.out.trans (H7.out.mono MM2.out)).trans (hz2.mono (Nat.le_trans MM2.out H8.out))
          · exact H7.out.trans (hz2.mono H8.out)
          · rw [kids_rowF];exact ME3.out
end Go.Proofs.YtfoedbfkddoibaaGreat
