import Derived.Test.YtljdcpobomfnpaaGreatPdx
import Derived.Test.YtljdcpobomfnpaaGreatCtZ
import Derived.Test.YtljdcpobomfnpaaGreatAwk
import Derived.Deep.RegionLaw
import Derived.Maps.AppendAt
namespace Go.Proofs.YtljdcpobomfnpaaGreat
set_option linter.unusedVariables false
set_option linter.unusedSimpArgs false
open Go.ChangeShapes Go.WideShapes Go.ChangeAt Go.RowKit
open Go.Deep (BT)
theorem PcD.len {w:World} {b:Nat} {c:Pc.PC} {vs:Fin 6→Value} {D:Six} (h:PcD w b c vs D):D.cs.length≤1000∧D.rs.length≤1000∧D.os.length≤1000∧D.cr.length≤1000∧D.ls.length≤1000∧D.fs.length≤1000:=by
 have e1:=congrArg List.length h.ecs
 have e2:=congrArg List.length h.ers
 have e3:=congrArg List.length h.eos
 have e4:=congrArg List.length h.ecr
 have e5:=congrArg List.length h.els
 have e6:=congrArg List.length h.efs
 have l:=h.ln
 simp only [List.length_map] at e1 e2 e3 e4
 rw [Pc.cnt_eq] at l
 omega
theorem and255P (n:Int):bits .and .i64 n 255=n % 256:=by
 have h127:(BitVec.ofInt 64 255).toNat=2 ^ 8 - 1:=by decide
 have key:(BitVec.ofInt 64 n &&& BitVec.ofInt 64 255).toNat=(n % ((2 ^ 64:Nat):Int)).toNat % 2 ^ 8:=by
  rw [BitVec.toNat_and,BitVec.toNat_ofInt,h127,Nat.and_two_pow_sub_one_eq_mod]
 show IntKind.i64.wrap ((BitVec.ofInt 64 n &&& BitVec.ofInt 64 255).toNat:Nat)=n % 256
 rw [key,IntKind.wrap_i64]
 omega
theorem and3P (n:Int):bits .and .i64 n 3=n % 4:=by
 have h127:(BitVec.ofInt 64 3).toNat=2 ^ 2 - 1:=by decide
 have key:(BitVec.ofInt 64 n &&& BitVec.ofInt 64 3).toNat=(n % ((2 ^ 64:Nat):Int)).toNat % 2 ^ 2:=by
  rw [BitVec.toNat_and,BitVec.toNat_ofInt,h127,Nat.and_two_pow_sub_one_eq_mod]
 show IntKind.i64.wrap ((BitVec.ofInt 64 n &&& BitVec.ofInt 64 3).toNat:Nat)=n % 4
 rw [key,IntKind.wrap_i64]
 omega
theorem cn_len (xs:List Cn):(xs.flatMap cnCl).length=xs.length * 5:=by
 induction xs with
 | nil=>rfl
 | cons x l ih=>rw [List.flatMap_cons,List.length_append,ih,List.length_cons];show 5+_=_;omega
theorem one_cnL (xs:List Cn):∀ u ∈ xs.flatMap cnCl,u.oneCell'=true:=by
 intro u hu
 obtain ⟨x,-,hx⟩:=List.mem_flatMap.1 hu
 exact oneP_cn x u hx
def ValB (w:World) (c:Pc.PC) (vs:Fin 6→Value) (E:Int):Prop :=
 (∀ wq,Below w.heap.size w wq→Calls Tryz.prog 7 #[agC c vs] wq fun e w'=>e=.returned (.int .i64 E)∧Below wq.heap.size wq w') ∧
 (∀ wq,Below w.heap.size w wq→Calls Tryz.prog 8 #[agC c vs] wq fun e w'=>e=.returned (.int .i64 E)∧Below wq.heap.size wq w')
theorem PcU.val {w:World} {bs cb:Nat} {c:Pc.PC} {vs:Fin 6→Value} {D:Six} (h:PcU w bs cb c vs D) (hl:D.cs.length≤100000∧D.rs.length≤100000∧D.os.length≤100000∧D.cr.length≤100000∧D.ls.length≤100000∧D.fs.length≤100000):∃ E,ValB w c vs E:=by
 obtain ⟨p,e0,e1,e2,e3,e4,e5,hv⟩:=ctv_of h.rows h.ok h.nb hl
 have er:len (ctD c D).cr=D.cr.length:=rowF_len _
 refine ⟨tvalC (ctD c D),fun wq hb=>?_,fun wq hb=>?_⟩
 · have q:=tval_any (ctD c D) p wq (hv.next hb)
   rw [er] at q
   unfold agC
   rw [e0,e1,e2,e3,e4,e5]
   exact q
 · have q:=rcheck_any (ctD c D) p wq (hv.next hb)
   rw [er] at q
   unfold agC
   rw [e0,e1,e2,e3,e4,e5]
   exact q
set_option maxHeartbeats 4000000 in
set_option maxRecDepth 100000 in
theorem walk_typesChanged (v0:Value) (n0:Nat) (v1:Value) (n1:Nat) (a2 a3:Int) (w:World) (h0:IntsL w v0 n0 w.heap.size) (h1:IntsL w v1 n1 w.heap.size) (_:(Lit.int .i64 a2).wf=true) (_:(Lit.int .i64 a3).wf=true) :
 Calls Tryz.prog 3 #[v0,v1,.int .i64 a2,.int .i64 a3] w fun e w'=>e=.returned (.bool true)∧Below w.heap.size w w':=by
 have H0:=Lib.hid h0
 have H1:=Lib.hid h1
 have AW:=Lib.hid awake_any
 obtain ⟨pv0,cv0,rfl,-,-⟩:=h0
 obtain ⟨pv1,cv1,rfl,-,-⟩:=h1
 go_enter Tryz.func3,Tryz.ntmps3
 go_upto_region 2 with (go_at_call 4;refine (bcontract_any _ n0 w H0.out).mono ?_;rintro e w1 ⟨c,vs,D,rfl,hd,hb⟩;have PD:=Lib.hid hd;have B1:=Lib.hid hb;clear hd hb;obtain ⟨p,e0,e1,e2,e3,e4,e5⟩:=PD.out.form;unfold agC;rw [e0,e1,e2,e3,e4,e5])
 have LN:=Lib.hid PD.out.len
 have PU:Hid (PcU (w1.alloc (.cells #[.int .i64 c.rep,.int .i64 c.rel,.int .i64 c.con,.int .i64 c.sit,.int .i64 c.lay,.int .i64 c.nf,.int .i64 c.nt,.slice p.cs D.cs.length p.ccs,.slice p.rs D.rs.length p.crs,.slice p.os D.os.length p.cos,.slice p.cr D.cr.length p.ccr,.slice p.ls D.ls.length p.cls,.slice p.fs D.fs.length p.cfs,.int .i64 c.gua] 30)) w.heap.size w1.heap.size c vs D):=by
  have q:=PcU.start PD.out
  rw [e0,e1,e2,e3,e4,e5] at q
  exact q
 have B2:Hid (Below w.heap.size w (w1.alloc (.cells #[.int .i64 c.rep,.int .i64 c.rel,.int .i64 c.con,.int .i64 c.sit,.int .i64 c.lay,.int .i64 c.nf,.int .i64 c.nt,.slice p.cs D.cs.length p.ccs,.slice p.rs D.rs.length p.crs,.slice p.os D.os.length p.cos,.slice p.cr D.cr.length p.ccr,.slice p.ls D.ls.length p.cls,.slice p.fs D.fs.length p.cfs,.int .i64 c.gua] 30))):=B1.out.alloc B1.out.size _
 have LT:Hid (w.heap.size≤w1.heap.size):=B1.out.size
 have EE:=Lib.hid e0
 clear e0 e1 e2 e3 e4 e5 PD B1
 generalize w1.alloc (.cells #[.int .i64 c.rep,.int .i64 c.rel,.int .i64 c.con,.int .i64 c.sit,.int .i64 c.lay,.int .i64 c.nf,.int .i64 c.nt,.slice p.cs D.cs.length p.ccs,.slice p.rs D.rs.length p.crs,.slice p.os D.os.length p.cos,.slice p.cr D.cr.length p.ccr,.slice p.ls D.ls.length p.cls,.slice p.fs D.fs.length p.cfs,.int .i64 c.gua] 30)=w2 at *
 generalize w1.heap.size=cb at *
 obtain ⟨ir,hir,hir0,hir1,hir2⟩:=info_parts Tryz.infoCnP
 have oc:w2.cell? ⟨cb,7,none⟩=some (.slice p.cs D.cs.length p.ccs):=by have q:=PU.out.box.c7;rw [EE.out] at q;exact q
 have hcb:cb < w2.heap.size:=PU.out.box.lt
 have OWX:Hid (∀ wq,Below w2.heap.size w2 wq→wq.ownsRow w.heap.size 43 5 (.slice p.cs D.cs.length p.ccs) D.cs.length (D.cs.flatMap cnCl)):=fun wq hb=>by
  have q:=(PU.out.next hb).rows.ow 0
  rw [← EE.out]
  exact q
 have SZ:Hid (w.heap.size≤w2.heap.size):=B2.out.size
 go_cut [] (fun wx=>∃ (vs':Fin 6→Value) (D':Six),Hid (PcU wx w.heap.size cb c vs' D'∧Below w.heap.size w wx∧(D'.cs.length≤1002∧D'.rs.length≤1000∧D'.os.length≤1000∧D'.cr.length≤1000∧D'.ls.length≤1000∧D'.fs.length≤1000)))
 case first =>
  go_region_law (first
   | (refine step_wantedP (by rfl) ?_;go_simp;go_at_call 5;refine (bconsts2_any _).mono ?_;rintro e w3 ⟨xs,g3,hxl,rfl,hb,hg,hcell,hx⟩;have B3:Hid (Below w2.heap.size w2 w3):=(((Below.refl w2.heap.size w2).drew).trans hb);have XC:=Lib.hid hcell;have XS:Hid (∀ x ∈ xs,(ExAt w3 x.b x.o x.a x.k∧FoAv (fun g=>w2.heap.size≤g) x.k x.b)∧ExOk x.a x.k∧x.name.size≤9223372036854775807):=hx;have oc3:=cell_next oc B3.out;have hcb3:cb < w3.heap.size:=Nat.lt_of_lt_of_le hcb B3.out.size;clear hb hcell hx)
   | (refine step_append_atP _ (by rfl) _ _ 23 (by rfl) w.heap.size 43 ir (.agg #[.string ⟨#[]⟩,.int .i64 0,.int .i64 0,.string ⟨#[]⟩,.slice none 0 0]) 5 72 Tryz.underlying23 hir hir0 hir1 hir2 rfl (by decide) (.slice p.cs D.cs.length p.ccs) D.cs.length (D.cs.flatMap cnCl) (by rfl) (OWX.out _ B3.out) ⟨g3,0,none⟩ 2 2 (xs.flatMap cnCl) (by rfl) (by rw [cn_len,hxl]) (fun j u hj=>by have q:=XC.out j u hj;by_cases e:j=0;(subst e;simpa [Addr.add] using q);simpa [Addr.add,e] using q) (one_cnL xs) (by have:=LN.out;unfold maxLen;omega) (by have:=LN.out;omega) (Nat.le_trans SZ.out B3.out.size) ?_;intro v' we hown hgrow hob;obtain ⟨pn,cn,hvn⟩:=own_slp hown;subst hvn;have U3:=Lib.hid (PU.out.next B3.out);have GB:=U3.out.box.grown hgrow (fun e'=>U3.out.nx 0 (by show (vs 0).ownBlock=_;rw [EE.out];exact e'.symm));have fz:=GB.f7;have cz:=GB.c7;have U4:=Lib.hid (U3.out.app0 xs (fun x hx=>⟨((XS.out x hx).1).1,((XS.out x hx).1).2.mono fun g q j e=>by have:=((PU.out.rows.ow j).lt g e).2;omega⟩) (fun x hx=>(XS.out x hx).2) (by rw [hxl];exact hown) (by rw [EE.out];exact hgrow) (by rw [EE.out];exact hob));have BE:=Lib.hid ((B2.out.trans (B3.out.mono B2.out.size)).grown hgrow (Nat.le_trans SZ.out B3.out.size) (fun m hm=>((OWX.out _ B3.out).lt m hm).1));clear GB hown hgrow hob))
  all_goals (go_wp2;go_meet)
  all_goals exact ⟨_,_,U4.out,BE.out.setCell (p:=⟨cb,7,none⟩) LT.out _,by have q:=LN.out;refine ⟨?_,q.2⟩;show (D.cs++xs).length≤1002;rw [List.length_append,hxl];omega⟩
 case rest =>
 obtain ⟨vs',D',HD⟩:=hcut
 obtain ⟨w5,hw5⟩:∃ z,z=wc:=⟨_,rfl⟩
 subst hw5
 have U5:=Lib.hid HD.out.1
 have B5:=Lib.hid HD.out.2.1
 have L5:=Lib.hid HD.out.2.2
 clear HD oc hcb OWX SZ PU B2 EE LN
 have A255:∃ q:Nat,bits BinOp.and IntKind.i64 a2 255=(q:Int)∧q < 256:=⟨(a2 % 256).toNat,by rw [and255P];omega,by omega⟩
 obtain ⟨q2,hq2,hl2⟩:=A255
 have A3:∃ q:Nat,bits BinOp.and IntKind.i64 a3 3=(q:Int)∧q < 4:=⟨(a3 % 4).toNat,by rw [and3P];omega,by omega⟩
 obtain ⟨q3,hq3,hl3⟩:=A3
 go_upto_region 4 with (fail)
 obtain ⟨sc,hsc⟩:∃ z,(1:Int)+(q2:Int) % 3=z:=⟨_,rfl⟩
 rw [hsc]
 have HS:sc=1∨sc=2∨sc=3:=by omega
 have HK:(1:Int)+(q3:Int)=1∨(1:Int)+(q3:Int)=2∨(1:Int)+(q3:Int)=3∨(1:Int)+(q3:Int)=4:=by omega
 have IL:Hid (IntsL w5 (.slice pv1 n1 cv1) n1 w5.heap.size):=(by
  obtain ⟨p',cap',e,q,f⟩:=H1.out
  refine ⟨p',cap',e,q,fun i hi=>?_⟩
  obtain ⟨B,O,x,r1,r2,r3⟩:=f i hi
  exact ⟨B,O,x,r1,Nat.lt_of_lt_of_le r2 B5.out.size,by rw [B5.out.cell (p:=⟨B,O+i,none⟩) r2];exact r3⟩)
 have BSC:=Lib.hid HS
 clear hsc
 go_upto_region 5 with (go_at_call 6;refine (bExpr2_any _ n1 sc _ w5 IL.out HS HK).mono ?_;rintro e w6 ⟨x,rfl,hok,hx,hav,hb⟩;have XO:=Lib.hid hok;have XA:=Lib.hid hx;have XV:=Lib.hid hav;have HB:=Lib.hid hb;clear hok hx hav hb)
 obtain ⟨w7,hw7,hbx,x0,x1,x2,x3⟩:=ex_boxP w6 x
 rw [hw7]
 have B7:Hid (Below w5.heap.size w5 w7):=HB.out.trans (hbx.mono HB.out.size)
 have XA7:=Lib.hid (XA.out.next hbx)
 have U7:=Lib.hid (U5.out.next B7.out)
 have BW:=Lib.hid (B5.out.trans (B7.out.mono B5.out.size))
 have hxb:=block_lt_of_cell x0
 generalize w6.heap.size=xb at *
 have XV7:Hid (FoAv (fun g=>∀ j,(sixR vs' D' j).v.ownBlock≠some g) x.k x.b):=XV.out.mono fun g q j e=>by have:=((U5.out.rows.ow j).lt g e).2;omega
 clear hw7 hbx HB XA XV IL HS HK
 have hx7:xb < w7.heap.size:=hxb
 clear hxb
 have HXO:=XO.out
 obtain ⟨q4,hq4,hl4⟩:∃ q:Nat,bits BinOp.and IntKind.i64 (a2 / 256) 255=(q:Int)∧q < 256:=⟨(a2 / 256 % 256).toNat,by rw [and255P];omega,by omega⟩
 obtain ⟨q5,hq5,hl5⟩:∃ q:Nat,bits BinOp.and IntKind.i64 (a2 / 65536) 255=(q:Int)∧q < 256:=⟨(a2 / 65536 % 256).toNat,by rw [and255P];omega,by omega⟩
 go_upto_block 0 with (fail)
 obtain ⟨r,hr,hr4⟩:∃ r:Nat,(q4:Int) % 4=r∧r < 4:=⟨q4 % 4,by omega,by omega⟩
 rw [hr]
 obtain ⟨m,hm,hm4⟩:∃ m:Nat,(q5:Int) % 4=m∧m < 4:=⟨q5 % 4,by omega,by omega⟩
 have HM:=Lib.hid hm
 clear hr hq4 hl4 hl5 hq2 hl2 hq3 hl3 hm
 have SZ:Hid (w.heap.size≤w7.heap.size):=BW.out.size
 have hcb:cb < w7.heap.size:=U7.out.box.lt
 go_cut [] (fun wx=>∃ (vs2:Fin 6→Value) (D2:Six),Hid (PcU wx w.heap.size cb c vs2 D2∧Below w.heap.size w wx∧(D2.cs.length≤2000∧D2.rs.length≤2000∧D2.os.length≤2000∧D2.cr.length≤2000∧D2.ls.length≤2000∧D2.fs.length≤2000)))
 case first =>
  rcases (show r=0∨r=1∨r=2∨r=3 by omega) with rfl|rfl|rfl|rfl
  · obtain ⟨ik,hik,hik0,hik1,hik2⟩:=info_parts Tryz.infoRuP
    obtain ⟨pv,cv,hv⟩:∃ pv cv,vs' 1=.slice pv D'.rs.length cv:=own_slp (U7.out.rows.ow 1)
    have HV:=Lib.hid hv
    have oc:w7.cell? ⟨cb,8,none⟩=some (.slice pv D'.rs.length cv):=by rw [← hv];exact U7.out.box.c8
    clear hv
    have HNB:=Lib.hid (blw_box w7 (.cells #[.int .i64 sc,.string ⟨#[97,100,100,101,100]⟩,.int .i64 x.a.op,.int .i64 x.a.num,.string x.a.name,.slice x.a.ptr (len x.k) x.a.cap] 38))
    have U8:=Lib.hid (U7.out.next HNB.out)
    have OW:Hid ((w7.alloc (.cells #[.int .i64 sc,.string ⟨#[97,100,100,101,100]⟩,.int .i64 x.a.op,.int .i64 x.a.num,.string x.a.name,.slice x.a.ptr (len x.k) x.a.cap] 38)).ownsRow w.heap.size 38 6 (.slice pv D'.rs.length cv) D'.rs.length (D'.rs.flatMap ruCl)):=by
     have q:=U8.out.rows.ow 1
     rw [← HV.out]
     exact q
    go_wp2_with (at_builtin;refine wpList_append_own_at _ rfl _ _ 24 rfl w.heap.size 38 ik (.agg #[.int .i64 0,.string ⟨#[]⟩,.int .i64 0,.int .i64 0,.string ⟨#[]⟩,.slice none 0 0]) 6 80 Tryz.underlying24 hik hik0 hik1 hik2 rfl (by decide) (.slice pv D'.rs.length cv) D'.rs.length (D'.rs.flatMap ruCl) rfl OW.out ⟨w7.heap.size,0,none⟩ 1 1 (ruCl ⟨sc,⟨#[97,100,100,101,100]⟩,x.b,x.o,x.a,x.k⟩) rfl rfl (by intro q u hu;match q,hu with|0,hu=>(simp [ruCl] at hu;subst hu;simp [Addr.add,go_sem])|1,hu=>(simp [ruCl] at hu;subst hu;simp [Addr.add,go_sem])|2,hu=>(simp [ruCl] at hu;subst hu;simp [Addr.add,go_sem])|3,hu=>(simp [ruCl] at hu;subst hu;simp [Addr.add,go_sem])|4,hu=>(simp [ruCl] at hu;subst hu;simp [Addr.add,go_sem])|5,hu=>(simp [ruCl] at hu;subst hu;simp [Addr.add,go_sem])|q+6,hu=>simp [ruCl] at hu) (oneP_ru _) (by have:=L5.out;unfold maxLen;omega) (by have:=L5.out;omega) (by have:=SZ.out;simp;omega) ?_;intro v' we hown hgrow _ hob;obtain ⟨pn,cn,hvn⟩:=own_slp hown;subst hvn;have GB:=U8.out.box.grown hgrow (fun e'=>U8.out.nx 1 (by show (vs' 1).ownBlock=_;rw [HV.out];exact e'.symm));have fz:=GB.f8;have cz:=GB.c8;have U9:=Lib.hid (U8.out.app1 ⟨sc,⟨#[97,100,100,101,100]⟩,x.b,x.o,x.a,x.k⟩ (XA7.out.next HNB.out) XV7.out (⟨XO.out,show Bd sc by have:=BSC.out;unfold Bd;omega,show (⟨#[97,100,100,101,100]⟩:ByteArray).size≤9223372036854775807 by decide⟩) hown (by rw [HV.out];exact hgrow) (by rw [HV.out];exact hob));have BE:=Lib.hid ((BW.out.trans (HNB.out.mono BW.out.size)).grown hgrow (Nat.le_trans SZ.out HNB.out.size) (fun m hm=>(OW.out.lt m hm).1));clear GB hown hgrow hob)
    go_meet
    exact ⟨_,_,U9.out,BE.out.setCell (p:=⟨cb,8,none⟩) LT.out _,by have q:=L5.out;simp only [List.length_append,List.length_singleton];omega⟩
  · obtain ⟨ik,hik,hik0,hik1,hik2⟩:=info_parts Tryz.infoCoP
    obtain ⟨pv,cv,hv⟩:∃ pv cv,vs' 2=.slice pv D'.os.length cv:=own_slp (U7.out.rows.ow 2)
    have HV:=Lib.hid hv
    have oc:w7.cell? ⟨cb,9,none⟩=some (.slice pv D'.os.length cv):=by rw [← hv];exact U7.out.box.c9
    clear hv
    have HNB:=Lib.hid (blw_box w7 (.cells #[.int .i64 sc,.int .i64 x.a.op,.int .i64 x.a.num,.string x.a.name,.slice x.a.ptr (len x.k) x.a.cap] 40))
    have U8:=Lib.hid (U7.out.next HNB.out)
    have OW:Hid ((w7.alloc (.cells #[.int .i64 sc,.int .i64 x.a.op,.int .i64 x.a.num,.string x.a.name,.slice x.a.ptr (len x.k) x.a.cap] 40)).ownsRow w.heap.size 40 5 (.slice pv D'.os.length cv) D'.os.length (D'.os.flatMap coCl)):=by
     have q:=U8.out.rows.ow 2
     rw [← HV.out]
     exact q
    go_wp2_with (at_builtin;refine wpList_append_own_at _ rfl _ _ 25 rfl w.heap.size 40 ik (.agg #[.int .i64 0,.int .i64 0,.int .i64 0,.string ⟨#[]⟩,.slice none 0 0]) 5 64 Tryz.underlying25 hik hik0 hik1 hik2 rfl (by decide) (.slice pv D'.os.length cv) D'.os.length (D'.os.flatMap coCl) rfl OW.out ⟨w7.heap.size,0,none⟩ 1 1 (coCl ⟨sc,x.b,x.o,x.a,x.k⟩) rfl rfl (by intro q u hu;match q,hu with|0,hu=>(simp [coCl] at hu;subst hu;simp [Addr.add,go_sem])|1,hu=>(simp [coCl] at hu;subst hu;simp [Addr.add,go_sem])|2,hu=>(simp [coCl] at hu;subst hu;simp [Addr.add,go_sem])|3,hu=>(simp [coCl] at hu;subst hu;simp [Addr.add,go_sem])|4,hu=>(simp [coCl] at hu;subst hu;simp [Addr.add,go_sem])|q+5,hu=>simp [coCl] at hu) (oneP_co _) (by have:=L5.out;unfold maxLen;omega) (by have:=L5.out;omega) (by have:=SZ.out;simp;omega) ?_;intro v' we hown hgrow _ hob;obtain ⟨pn,cn,hvn⟩:=own_slp hown;subst hvn;have GB:=U8.out.box.grown hgrow (fun e'=>U8.out.nx 2 (by show (vs' 2).ownBlock=_;rw [HV.out];exact e'.symm));have fz:=GB.f9;have cz:=GB.c9;have U9:=Lib.hid (U8.out.app2 ⟨sc,x.b,x.o,x.a,x.k⟩ (XA7.out.next HNB.out) XV7.out (⟨XO.out,show Bd sc by have:=BSC.out;unfold Bd;omega⟩) hown (by rw [HV.out];exact hgrow) (by rw [HV.out];exact hob));have BE:=Lib.hid ((BW.out.trans (HNB.out.mono BW.out.size)).grown hgrow (Nat.le_trans SZ.out HNB.out.size) (fun m hm=>(OW.out.lt m hm).1));clear GB hown hgrow hob)
    go_meet
    exact ⟨_,_,U9.out,BE.out.setCell (p:=⟨cb,9,none⟩) LT.out _,by have q:=L5.out;simp only [List.length_append,List.length_singleton];omega⟩
  · have oc:w7.cell? ⟨cb,10,none⟩=some (vs' 3):=U7.out.box.c10
    have of:=U7.out.box.f10
    have HNB:=Lib.hid (blw_box w7 (.cells #[.int .i64 x.a.op,.int .i64 x.a.num,.string x.a.name,.slice x.a.ptr (len x.k) x.a.cap] 34))
    have U8:=Lib.hid (U7.out.set3 (w2:=w7.alloc (.cells #[.int .i64 x.a.op,.int .i64 x.a.num,.string x.a.name,.slice x.a.ptr (len x.k) x.a.cap] 34)) (v':=.slice (some ⟨w7.heap.size,0,none⟩) 1 1) x XA7.out XV7.out XO.out (World.ownsRow_lit w7 #[.int .i64 x.a.op,.int .i64 x.a.num,.string x.a.name,.slice x.a.ptr (len x.k) x.a.cap] 1 SZ.out (by decide) rfl) HNB.out rfl)
    have BE:=Lib.hid (((BW.out.trans (HNB.out.mono BW.out.size))).setCell (p:=⟨cb,10,none⟩) LT.out (.slice (some ⟨w7.heap.size,0,none⟩) 1 1))
    have EQ:(w7.alloc (.cells #[.int .i64 x.a.op,.int .i64 x.a.num,.string x.a.name,.slice x.a.ptr (len x.k) x.a.cap] 34)).setCell ⟨cb,10,none⟩ (.slice (some ⟨w7.heap.size,0,none⟩) 1 1)=(w7.setCell ⟨cb,10,none⟩ (.slice (some ⟨w7.heap.size,0,none⟩) 1 1)).alloc (.cells #[.int .i64 x.a.op,.int .i64 x.a.num,.string x.a.name,.slice x.a.ptr (len x.k) x.a.cap] 34):=by simp [go_sem,hcb]
    go_wp2_with fail
    go_meet
    have L6:=L5.out
    first
     | exact ⟨_,_,U8.out,BE.out,show D'.cs.length≤2000 by omega,show D'.rs.length≤2000 by omega,show D'.os.length≤2000 by omega,show 1≤2000 by decide,show D'.ls.length≤2000 by omega,show D'.fs.length≤2000 by omega⟩
     | (rw [← EQ];exact ⟨_,_,U8.out,BE.out,show D'.cs.length≤2000 by omega,show D'.rs.length≤2000 by omega,show D'.os.length≤2000 by omega,show 1≤2000 by decide,show D'.ls.length≤2000 by omega,show D'.fs.length≤2000 by omega⟩)
  · obtain ⟨pv,cv,hv⟩:∃ pv cv,vs' 0=.slice pv D'.cs.length cv:=own_slp (U7.out.rows.ow 0)
    have HV:=Lib.hid hv
    have oc:w7.cell? ⟨cb,7,none⟩=some (.slice pv D'.cs.length cv):=by rw [← hv];exact U7.out.box.c7
    clear hv
    go_upto_region 6 with (fail)
    rcases (show m=0∨m=1∨m=2∨m=3 by omega) with rfl|rfl|rfl|rfl
    · have hm:(q5:Int).tmod 4=0:=by rw [Int.tmod_eq_emod_of_nonneg (by omega)];exact HM.out
      have HNB:Hid (Below w7.heap.size w7 (((w7.alloc (.cells #[.string ⟨#[109,111,114,101]⟩,.string ⟨#[116,119,111]⟩,.string ⟨#[108,101,103,115]⟩,.string ⟨#[104,111,109,101]⟩] 9)).alloc (.cells #[.string ⟨#[109,111,114,101]⟩,.int .i64 x.a.op,.int .i64 x.a.num,.string x.a.name,.slice x.a.ptr (len x.k) x.a.cap] 43)).drew)):=(((Below.refl _ _).alloc (Nat.le_refl _) _).alloc (by simp) _).drew
      have U8:=Lib.hid (U7.out.next HNB.out)
      have OW:Hid ((((w7.alloc (.cells #[.string ⟨#[109,111,114,101]⟩,.string ⟨#[116,119,111]⟩,.string ⟨#[108,101,103,115]⟩,.string ⟨#[104,111,109,101]⟩] 9)).alloc (.cells #[.string ⟨#[109,111,114,101]⟩,.int .i64 x.a.op,.int .i64 x.a.num,.string x.a.name,.slice x.a.ptr (len x.k) x.a.cap] 43)).drew).ownsRow w.heap.size 43 5 (.slice pv D'.cs.length cv) D'.cs.length (D'.cs.flatMap cnCl)):=by
       have q:=U8.out.rows.ow 0
       rw [← HV.out]
       exact q
      go_region_law (first|(refine step_append_atP _ (by rfl) _ _ 23 (by rfl) w.heap.size 43 ir (.agg #[.string ⟨#[]⟩,.int .i64 0,.int .i64 0,.string ⟨#[]⟩,.slice none 0 0]) 5 72 Tryz.underlying23 hir hir0 hir1 hir2 rfl (by decide) (.slice pv D'.cs.length cv) D'.cs.length (D'.cs.flatMap cnCl) (by rfl) OW.out ⟨w7.heap.size+1,0,none⟩ 1 1 (cnCl ⟨⟨#[109,111,114,101]⟩,x.b,x.o,x.a,x.k⟩) (by rfl) (by rfl) (by intro q u hu;match q,hu with|0,hu=>(simp [cnCl] at hu;subst hu;simp [Addr.add,go_sem])|1,hu=>(simp [cnCl] at hu;subst hu;simp [Addr.add,go_sem])|2,hu=>(simp [cnCl] at hu;subst hu;simp [Addr.add,go_sem])|3,hu=>(simp [cnCl] at hu;subst hu;simp [Addr.add,go_sem])|4,hu=>(simp [cnCl] at hu;subst hu;simp [Addr.add,go_sem])|q+5,hu=>simp [cnCl] at hu) (oneP_cn _) (by have:=L5.out;unfold maxLen;omega) (by have:=L5.out;omega) (by have:=SZ.out;simp;omega) ?_;intro v' we hown hgrow hob;obtain ⟨pn,cn,hvn⟩:=own_slp hown;subst hvn;have GB:=U8.out.box.grown hgrow (fun e'=>U8.out.nx 0 (by show (vs' 0).ownBlock=_;rw [HV.out];exact e'.symm));have fz:=GB.f7;have cz:=GB.c7;have U9:=Lib.hid (U8.out.app0 [⟨⟨#[109,111,114,101]⟩,x.b,x.o,x.a,x.k⟩] (fun y hy=>by rw [List.mem_singleton.1 hy];exact ⟨XA7.out.next HNB.out,XV7.out⟩) (fun y hy=>by rw [List.mem_singleton.1 hy];exact ⟨XO.out,show (⟨#[109,111,114,101]⟩:ByteArray).size≤9223372036854775807 by decide⟩) (by simpa using hown) (by rw [HV.out];exact hgrow) (by rw [HV.out];exact hob));have BE:=Lib.hid ((BW.out.trans (HNB.out.mono BW.out.size)).grown hgrow (Nat.le_trans SZ.out HNB.out.size) (fun m hm=>(OW.out.lt m hm).1));clear GB hown hgrow hob))
      all_goals (go_wp2;go_meet)
      all_goals exact ⟨_,_,U9.out,BE.out.setCell (p:=⟨cb,7,none⟩) LT.out _,by have q:=L5.out;simp only [List.length_append,List.length_singleton];omega⟩
    · have hm:(q5:Int).tmod 4=1:=by rw [Int.tmod_eq_emod_of_nonneg (by omega)];exact HM.out
      have HNB:Hid (Below w7.heap.size w7 (((w7.alloc (.cells #[.string ⟨#[109,111,114,101]⟩,.string ⟨#[116,119,111]⟩,.string ⟨#[108,101,103,115]⟩,.string ⟨#[104,111,109,101]⟩] 9)).alloc (.cells #[.string ⟨#[116,119,111]⟩,.int .i64 x.a.op,.int .i64 x.a.num,.string x.a.name,.slice x.a.ptr (len x.k) x.a.cap] 43)).drew)):=(((Below.refl _ _).alloc (Nat.le_refl _) _).alloc (by simp) _).drew
      have U8:=Lib.hid (U7.out.next HNB.out)
      have OW:Hid ((((w7.alloc (.cells #[.string ⟨#[109,111,114,101]⟩,.string ⟨#[116,119,111]⟩,.string ⟨#[108,101,103,115]⟩,.string ⟨#[104,111,109,101]⟩] 9)).alloc (.cells #[.string ⟨#[116,119,111]⟩,.int .i64 x.a.op,.int .i64 x.a.num,.string x.a.name,.slice x.a.ptr (len x.k) x.a.cap] 43)).drew).ownsRow w.heap.size 43 5 (.slice pv D'.cs.length cv) D'.cs.length (D'.cs.flatMap cnCl)):=by
       have q:=U8.out.rows.ow 0
       rw [← HV.out]
       exact q
      go_region_law (first|(refine step_append_atP _ (by rfl) _ _ 23 (by rfl) w.heap.size 43 ir (.agg #[.string ⟨#[]⟩,.int .i64 0,.int .i64 0,.string ⟨#[]⟩,.slice none 0 0]) 5 72 Tryz.underlying23 hir hir0 hir1 hir2 rfl (by decide) (.slice pv D'.cs.length cv) D'.cs.length (D'.cs.flatMap cnCl) (by rfl) OW.out ⟨w7.heap.size+1,0,none⟩ 1 1 (cnCl ⟨⟨#[116,119,111]⟩,x.b,x.o,x.a,x.k⟩) (by rfl) (by rfl) (by intro q u hu;match q,hu with|0,hu=>(simp [cnCl] at hu;subst hu;simp [Addr.add,go_sem])|1,hu=>(simp [cnCl] at hu;subst hu;simp [Addr.add,go_sem])|2,hu=>(simp [cnCl] at hu;subst hu;simp [Addr.add,go_sem])|3,hu=>(simp [cnCl] at hu;subst hu;simp [Addr.add,go_sem])|4,hu=>(simp [cnCl] at hu;subst hu;simp [Addr.add,go_sem])|q+5,hu=>simp [cnCl] at hu) (oneP_cn _) (by have:=L5.out;unfold maxLen;omega) (by have:=L5.out;omega) (by have:=SZ.out;simp;omega) ?_;intro v' we hown hgrow hob;obtain ⟨pn,cn,hvn⟩:=own_slp hown;subst hvn;have GB:=U8.out.box.grown hgrow (fun e'=>U8.out.nx 0 (by show (vs' 0).ownBlock=_;rw [HV.out];exact e'.symm));have fz:=GB.f7;have cz:=GB.c7;have U9:=Lib.hid (U8.out.app0 [⟨⟨#[116,119,111]⟩,x.b,x.o,x.a,x.k⟩] (fun y hy=>by rw [List.mem_singleton.1 hy];exact ⟨XA7.out.next HNB.out,XV7.out⟩) (fun y hy=>by rw [List.mem_singleton.1 hy];exact ⟨XO.out,show (⟨#[116,119,111]⟩:ByteArray).size≤9223372036854775807 by decide⟩) (by simpa using hown) (by rw [HV.out];exact hgrow) (by rw [HV.out];exact hob));have BE:=Lib.hid ((BW.out.trans (HNB.out.mono BW.out.size)).grown hgrow (Nat.le_trans SZ.out HNB.out.size) (fun m hm=>(OW.out.lt m hm).1));clear GB hown hgrow hob))
      all_goals (go_wp2;go_meet)
      all_goals exact ⟨_,_,U9.out,BE.out.setCell (p:=⟨cb,7,none⟩) LT.out _,by have q:=L5.out;simp only [List.length_append,List.length_singleton];omega⟩
    · have hm:(q5:Int).tmod 4=2:=by rw [Int.tmod_eq_emod_of_nonneg (by omega)];exact HM.out
      have HNB:Hid (Below w7.heap.size w7 (((w7.alloc (.cells #[.string ⟨#[109,111,114,101]⟩,.string ⟨#[116,119,111]⟩,.string ⟨#[108,101,103,115]⟩,.string ⟨#[104,111,109,101]⟩] 9)).alloc (.cells #[.string ⟨#[108,101,103,115]⟩,.int .i64 x.a.op,.int .i64 x.a.num,.string x.a.name,.slice x.a.ptr (len x.k) x.a.cap] 43)).drew)):=(((Below.refl _ _).alloc (Nat.le_refl _) _).alloc (by simp) _).drew
      have U8:=Lib.hid (U7.out.next HNB.out)
      have OW:Hid ((((w7.alloc (.cells #[.string ⟨#[109,111,114,101]⟩,.string ⟨#[116,119,111]⟩,.string ⟨#[108,101,103,115]⟩,.string ⟨#[104,111,109,101]⟩] 9)).alloc (.cells #[.string ⟨#[108,101,103,115]⟩,.int .i64 x.a.op,.int .i64 x.a.num,.string x.a.name,.slice x.a.ptr (len x.k) x.a.cap] 43)).drew).ownsRow w.heap.size 43 5 (.slice pv D'.cs.length cv) D'.cs.length (D'.cs.flatMap cnCl)):=by
       have q:=U8.out.rows.ow 0
       rw [← HV.out]
       exact q
      go_region_law (first|(refine step_append_atP _ (by rfl) _ _ 23 (by rfl) w.heap.size 43 ir (.agg #[.string ⟨#[]⟩,.int .i64 0,.int .i64 0,.string ⟨#[]⟩,.slice none 0 0]) 5 72 Tryz.underlying23 hir hir0 hir1 hir2 rfl (by decide) (.slice pv D'.cs.length cv) D'.cs.length (D'.cs.flatMap cnCl) (by rfl) OW.out ⟨w7.heap.size+1,0,none⟩ 1 1 (cnCl ⟨⟨#[108,101,103,115]⟩,x.b,x.o,x.a,x.k⟩) (by rfl) (by rfl) (by intro q u hu;match q,hu with|0,hu=>(simp [cnCl] at hu;subst hu;simp [Addr.add,go_sem])|1,hu=>(simp [cnCl] at hu;subst hu;simp [Addr.add,go_sem])|2,hu=>(simp [cnCl] at hu;subst hu;simp [Addr.add,go_sem])|3,hu=>(simp [cnCl] at hu;subst hu;simp [Addr.add,go_sem])|4,hu=>(simp [cnCl] at hu;subst hu;simp [Addr.add,go_sem])|q+5,hu=>simp [cnCl] at hu) (oneP_cn _) (by have:=L5.out;unfold maxLen;omega) (by have:=L5.out;omega) (by have:=SZ.out;simp;omega) ?_;intro v' we hown hgrow hob;obtain ⟨pn,cn,hvn⟩:=own_slp hown;subst hvn;have GB:=U8.out.box.grown hgrow (fun e'=>U8.out.nx 0 (by show (vs' 0).ownBlock=_;rw [HV.out];exact e'.symm));have fz:=GB.f7;have cz:=GB.c7;have U9:=Lib.hid (U8.out.app0 [⟨⟨#[108,101,103,115]⟩,x.b,x.o,x.a,x.k⟩] (fun y hy=>by rw [List.mem_singleton.1 hy];exact ⟨XA7.out.next HNB.out,XV7.out⟩) (fun y hy=>by rw [List.mem_singleton.1 hy];exact ⟨XO.out,show (⟨#[108,101,103,115]⟩:ByteArray).size≤9223372036854775807 by decide⟩) (by simpa using hown) (by rw [HV.out];exact hgrow) (by rw [HV.out];exact hob));have BE:=Lib.hid ((BW.out.trans (HNB.out.mono BW.out.size)).grown hgrow (Nat.le_trans SZ.out HNB.out.size) (fun m hm=>(OW.out.lt m hm).1));clear GB hown hgrow hob))
      all_goals (go_wp2;go_meet)
      all_goals exact ⟨_,_,U9.out,BE.out.setCell (p:=⟨cb,7,none⟩) LT.out _,by have q:=L5.out;simp only [List.length_append,List.length_singleton];omega⟩
    · have hm:(q5:Int).tmod 4=3:=by rw [Int.tmod_eq_emod_of_nonneg (by omega)];exact HM.out
      have HNB:Hid (Below w7.heap.size w7 (((w7.alloc (.cells #[.string ⟨#[109,111,114,101]⟩,.string ⟨#[116,119,111]⟩,.string ⟨#[108,101,103,115]⟩,.string ⟨#[104,111,109,101]⟩] 9)).alloc (.cells #[.string ⟨#[104,111,109,101]⟩,.int .i64 x.a.op,.int .i64 x.a.num,.string x.a.name,.slice x.a.ptr (len x.k) x.a.cap] 43)).drew)):=(((Below.refl _ _).alloc (Nat.le_refl _) _).alloc (by simp) _).drew
      have U8:=Lib.hid (U7.out.next HNB.out)
      have OW:Hid ((((w7.alloc (.cells #[.string ⟨#[109,111,114,101]⟩,.string ⟨#[116,119,111]⟩,.string ⟨#[108,101,103,115]⟩,.string ⟨#[104,111,109,101]⟩] 9)).alloc (.cells #[.string ⟨#[104,111,109,101]⟩,.int .i64 x.a.op,.int .i64 x.a.num,.string x.a.name,.slice x.a.ptr (len x.k) x.a.cap] 43)).drew).ownsRow w.heap.size 43 5 (.slice pv D'.cs.length cv) D'.cs.length (D'.cs.flatMap cnCl)):=by
       have q:=U8.out.rows.ow 0
       rw [← HV.out]
       exact q
      go_region_law (first|(refine step_append_atP _ (by rfl) _ _ 23 (by rfl) w.heap.size 43 ir (.agg #[.string ⟨#[]⟩,.int .i64 0,.int .i64 0,.string ⟨#[]⟩,.slice none 0 0]) 5 72 Tryz.underlying23 hir hir0 hir1 hir2 rfl (by decide) (.slice pv D'.cs.length cv) D'.cs.length (D'.cs.flatMap cnCl) (by rfl) OW.out ⟨w7.heap.size+1,0,none⟩ 1 1 (cnCl ⟨⟨#[104,111,109,101]⟩,x.b,x.o,x.a,x.k⟩) (by rfl) (by rfl) (by intro q u hu;match q,hu with|0,hu=>(simp [cnCl] at hu;subst hu;simp [Addr.add,go_sem])|1,hu=>(simp [cnCl] at hu;subst hu;simp [Addr.add,go_sem])|2,hu=>(simp [cnCl] at hu;subst hu;simp [Addr.add,go_sem])|3,hu=>(simp [cnCl] at hu;subst hu;simp [Addr.add,go_sem])|4,hu=>(simp [cnCl] at hu;subst hu;simp [Addr.add,go_sem])|q+5,hu=>simp [cnCl] at hu) (oneP_cn _) (by have:=L5.out;unfold maxLen;omega) (by have:=L5.out;omega) (by have:=SZ.out;simp;omega) ?_;intro v' we hown hgrow hob;obtain ⟨pn,cn,hvn⟩:=own_slp hown;subst hvn;have GB:=U8.out.box.grown hgrow (fun e'=>U8.out.nx 0 (by show (vs' 0).ownBlock=_;rw [HV.out];exact e'.symm));have fz:=GB.f7;have cz:=GB.c7;have U9:=Lib.hid (U8.out.app0 [⟨⟨#[104,111,109,101]⟩,x.b,x.o,x.a,x.k⟩] (fun y hy=>by rw [List.mem_singleton.1 hy];exact ⟨XA7.out.next HNB.out,XV7.out⟩) (fun y hy=>by rw [List.mem_singleton.1 hy];exact ⟨XO.out,show (⟨#[104,111,109,101]⟩:ByteArray).size≤9223372036854775807 by decide⟩) (by simpa using hown) (by rw [HV.out];exact hgrow) (by rw [HV.out];exact hob));have BE:=Lib.hid ((BW.out.trans (HNB.out.mono BW.out.size)).grown hgrow (Nat.le_trans SZ.out HNB.out.size) (fun m hm=>(OW.out.lt m hm).1));clear GB hown hgrow hob))
      all_goals (go_wp2;go_meet)
      all_goals exact ⟨_,_,U9.out,BE.out.setCell (p:=⟨cb,7,none⟩) LT.out _,by have q:=L5.out;simp only [List.length_append,List.length_singleton];omega⟩
 case rest =>
 obtain ⟨vs2,D2,HD⟩:=hcut
 obtain ⟨w9,hw9⟩:∃ z,z=wc:=⟨_,rfl⟩
 subst hw9
 have U9:=Lib.hid HD.out.1
 have B9:=Lib.hid HD.out.2.1
 have L9:=Lib.hid HD.out.2.2
 clear HD
 obtain ⟨E,HE⟩:=U9.out.val (by have:=L9.out;omega)
 have HVE:=Lib.hid HE
 clear HE
 obtain ⟨p9,e0⟩:=U9.out.vs 0
 obtain ⟨k0,z0,e0⟩:=e0
 obtain ⟨p1,k1,z1,e1⟩:=U9.out.vs 1
 obtain ⟨p2,k2,z2,e2⟩:=U9.out.vs 2
 obtain ⟨p3,k3,z3,e3⟩:=U9.out.vs 3
 obtain ⟨p4,k4,z4,e4⟩:=U9.out.vs 4
 obtain ⟨p5,k5,z5,e5⟩:=U9.out.vs 5
 have AGC:agC c vs2=.agg #[.int .i64 c.rep,.int .i64 c.rel,.int .i64 c.con,.int .i64 c.sit,.int .i64 c.lay,.int .i64 c.nf,.int .i64 c.nt,.slice p9 k0 z0,.slice p1 k1 z1,.slice p2 k2 z2,.slice p3 k3 z3,.slice p4 k4 z4,.slice p5 k5 z5,.int .i64 c.gua]:=by unfold agC;rw [e0,e1,e2,e3,e4,e5]
 have BX:=U9.out.box
 obtain ⟨c0,c1,c2,c3,c4,c5,c6,c7,c8,c9,c10,c11,c12,c13,f0,f1,f2,f3,f4,f5,f6,f7,f8,f9,f10,f11,f12,f13,zn,zl⟩:=BX
 rw [e0] at c7
 rw [e1] at c8
 rw [e2] at c9
 rw [e3] at c10
 rw [e4] at c11
 rw [e5] at c12
 have C1:Hid (∀ dq os,Calls Tryz.prog 7 #[.agg #[.int .i64 c.rep,.int .i64 c.rel,.int .i64 c.con,.int .i64 c.sit,.int .i64 c.lay,.int .i64 c.nf,.int .i64 c.nt,.slice p9 k0 z0,.slice p1 k1 z1,.slice p2 k2 z2,.slice p3 k3 z3,.slice p4 k4 z4,.slice p5 k5 z5,.int .i64 c.gua]] (Sort.grow (redrawn w9 dq) os) fun e w''=>e=.returned (.int .i64 E)∧∃ p:Regrown,w''=Sort.grow (redrawn w9 p.d) p.os):=by
  intro dq os
  have q:=HVE.out.1 (Sort.grow (redrawn w9 dq) os) (below_regrown w9 dq os)
  rw [AGC] at q
  exact Calls.regrown_of q
 have C2:Hid (∀ dq os,Calls Tryz.prog 8 #[.agg #[.int .i64 c.rep,.int .i64 c.rel,.int .i64 c.con,.int .i64 c.sit,.int .i64 c.lay,.int .i64 c.nf,.int .i64 c.nt,.slice p9 k0 z0,.slice p1 k1 z1,.slice p2 k2 z2,.slice p3 k3 z3,.slice p4 k4 z4,.slice p5 k5 z5,.int .i64 c.gua]] (Sort.grow (redrawn w9 dq) os) fun e w''=>e=.returned (.int .i64 E)∧∃ p:Regrown,w''=Sort.grow (redrawn w9 p.d) p.os):=by
  intro dq os
  have q:=HVE.out.2 (Sort.grow (redrawn w9 dq) os) (below_regrown w9 dq os)
  rw [AGC] at q
  exact Calls.regrown_of q
 have C3:Hid (∀ dq os,Calls Tryz.prog 9 #[] (Sort.grow (redrawn w9 dq) os) fun e w''=>e=.returned (.bool true)∧∃ p:Regrown,w''=Sort.grow (redrawn w9 p.d) p.os):=fun dq os=>Calls.regrown_of (AW.out _)
 have beq:(E==E)=true:=by simp
 clear e0 e1 e2 e3 e4 e5 AGC f0 f1 f2 f3 f4 f5 f6 f7 f8 f9 f10 f11 f12 f13 zn hcb hx7
 go_upto_region 13 with (fail)
 have d0:=fun d os=>cell_regrown c0 d os
 have d1:=fun d os=>cell_regrown c1 d os
 have d2:=fun d os=>cell_regrown c2 d os
 have d3:=fun d os=>cell_regrown c3 d os
 have d4:=fun d os=>cell_regrown c4 d os
 have d5:=fun d os=>cell_regrown c5 d os
 have d6:=fun d os=>cell_regrown c6 d os
 have d7:=fun d os=>cell_regrown c7 d os
 have d8:=fun d os=>cell_regrown c8 d os
 have d9:=fun d os=>cell_regrown c9 d os
 have d10:=fun d os=>cell_regrown c10 d os
 have d11:=fun d os=>cell_regrown c11 d os
 have d12:=fun d os=>cell_regrown c12 d os
 have d13:=fun d os=>cell_regrown c13 d os
 refine wp_region_quiet_below (by kernel_rfl) (by kernel_rfl) ?_
 repeat (quiet_step (with_reducible first|exact C1.out _ _|exact C2.out _ _|exact C3.out _ _))
 refine wpQuiet_nil ?_
 intro _ hw'
 obtain ⟨⟨dq,osq⟩,hw''⟩:=hw'
 subst hw''
 have hb:=below_regrown w9 dq osq
 clear d0 c0 d1 c1 d2 c2 d3 c3 d4 c4 d5 c5 d6 c6 d7 c7 d8 c8 d9 c9 d10 c10 d11 c11 d12 c12 d13 c13 C1 C2 C3
 generalize Sort.grow (redrawn w9 dq) osq=wz at *
 have BZ:=Lib.hid (B9.out.trans (hb.mono B9.out.size))
 clear hb
 go_wp2
 go_ret
 exact ⟨rfl,BZ.out⟩
end Go.Proofs.YtljdcpobomfnpaaGreat
