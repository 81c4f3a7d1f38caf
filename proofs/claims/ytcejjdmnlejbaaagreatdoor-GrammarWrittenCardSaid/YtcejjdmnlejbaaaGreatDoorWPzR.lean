import Derived.Maps.AppendAt
import Derived.Test.YtcejjdmnlejbaaaGreatDoorWPzP
namespace Go.Proofs.YtcejjdmnlejbaaaGreatDoor
open Lib(hid)
set_option linter.unusedVariables false
set_option linter.unusedSimpArgs false
open Go.ChangeShapes Go.WideShapes Go.ChangeAt Go.RowKit
open Go.Deep (BT)
set_option maxHeartbeats 600000
set_option maxRecDepth 100000
theorem ng_of(L:List Tk.T4)(i:Nat)(h0:PC 174 L .cm i)(h1:∀j,i < j→j≤L.length→PC 154 L .ng j):PC 154 L .ng i:=by
 intro sb p cap w h;have C0:=hid h0;have C1:=hid h1;clear h0 h1;have H:=hid h;have hle:=h.le;have hL4:=h.ls.1;have E0:Hid (Pz.Env w w sb (fun W=>PSt W sb L p cap i) [] [] []):=Pz.Env.init h (qj _ _ _ _ _) h.lt (by intro c hc;cases hc);have PV:Hid (Pz.pv L .ng i=Pz.step L (Pz.pv L) .ng i):=Pz.pv_step L .ng i hle;unfold Pz.step at PV;dsimp only at PV;clear h;go_enter Tryz.func154,Tryz.ntmps154;go_wp2_with fail;have E1:=hid (E0.out.box Pz.z0 #[.int .i64 0,.int .i64 0,.string ⟨#[]⟩,.slice none 0 0] rfl 24);generalize w.alloc (.cells #[.int .i64 0,.int .i64 0,.string ⟨#[]⟩,.slice none 0 0] 24)=w2 at *;clear E0
 by_cases hw:Pz.isw L i Pz.wNot=true
 ·have hj:=Pz.isw_lt hw;rw[if_pos hw] at PV;refine(qA sb L p cap i _ _ E1.out.st hw).mono ?_;rintro e w4 ⟨rfl,hs,hg⟩;have E3:=hid (E1.out.grown hs (qj _ _ _ _ _) hg);clear hs hg E1;go_wp2_with fail;have AD:Pz.Ok L (i+1) (Pz.pv L .ng (i+1)) 1:=Pz.pv_adv L .ng (i+1) hj;refine(C1.out (i+1) (by omega) hj sb p cap w4 E3.out.st).mono ?_;rintro e w6 ⟨c,rfl,hf⟩;have ADc:Hid (Pz.Ok L (i+1) (Pz.pv L .ng (i+1)) 1):=AD;generalize Pz.pv L .ng (i+1)=r0 at *;obtain⟨o,k⟩:=r0;obtain⟨tsE5,hE,hc,qV⟩:=E3.out.go hf (qj _ _ _ _ _) (by intro d hd;cases hd);have E5:=hid hE;have Tc:=hid hc;have Uc:=hid qV;clear hf hE hc qV E3;dsimp only;rw[Pz.bnd_goL] at PV;go_upto_region 3 with (fail);have E7:=hid (E5.out.box c #[.int .i64 c.a.op,.int .i64 c.a.num,.string c.a.name,.slice c.a.ptr (len c.k) c.a.cap] rfl 24);generalize hg9:w6.heap.size=g9 at *;generalize w6.alloc (.cells #[.int .i64 c.a.op,.int .i64 c.a.num,.string c.a.name,.slice c.a.ptr (len c.k) c.a.cap] 24)=w8 at *;clear E5 hg9;obtain⟨qy,qx,qv,qm,qu,qt,qs,qr,qp⟩:=(E7.out.bx (g9,c) (by simp)).1;dsimp only at qy qx qv qm qu qt qs qr qp;obtain⟨qL,qK,qJ,qB,qI,qH,qG,qF,qE⟩:=(E7.out.bx (w.heap.size,Pz.z0) (by simp)).1;dsimp only[Pz.z0,len] at qL qK qJ qB qI qH qG qF qE;cases o with
  | none =>
    go_wp2;refine bodyPost_ret (v:=.tuple #[.agg #[.int .i64 19,.int .i64 0,.string ⟨#[]⟩,.slice (some ⟨w8.heap.size,0,none⟩) 1 1],.bool false]) ?_ rfl ?_
    ·rw [results_cell_tmp rfl];go_simp
    ·rw [PV.out,Pz.goL_none];exact⟨(⟨w8.heap.size,0,⟨19,0,⟨#[]⟩,some ⟨w8.heap.size,0,none⟩,1⟩,qC [c]⟩:Ch),rfl,(E7.out.tail).done_node [c] 19 1 rfl none (fun x hx=>by cases hx) _ rfl _⟩
  | some x =>
    go_wp2;refine bodyPost_ret (v:=.tuple #[.agg #[.int .i64 19,.int .i64 0,.string ⟨#[]⟩,.slice (some ⟨w8.heap.size,0,none⟩) 1 1],.bool true]) ?_ rfl ?_
    ·rw [results_cell_tmp rfl];go_simp
    ·rw [PV.out,Pz.goL_some];exact⟨(⟨w8.heap.size,0,⟨19,0,⟨#[]⟩,some ⟨w8.heap.size,0,none⟩,1⟩,qC [c]⟩:Ch),rfl,(E7.out.tail).done_node [c] 19 1 rfl (some (Pz.tn 19 [x])) (fun y hy=>by cases hy;exact⟨(by intro q hq;simp only[List.mem_cons,List.not_mem_nil,or_false] at hq;rw[hq];exact(Tc.out x rfl).2),(by rw[List.map_cons,List.map_nil,(Tc.out x rfl).1])⟩) _ rfl _⟩
 ·have hw':Pz.isw L i Pz.wNot=false:=by simpa using hw
  rw[if_neg hw] at PV;refine(qM sb L p cap i _ _ E1.out.st hw').mono ?_;rintro e w22 ⟨rfl,hb⟩;have E21:=hid (E1.out.below hb);clear hb E1;go_wp2_with fail;have AD:Pz.Ok L i (Pz.pv L .cm i) 1:=Pz.pv_adv L .cm i hle;refine(C0.out sb p cap w22 E21.out.st).mono ?_;rintro e w24 ⟨c,rfl,hf⟩;have ADc:Hid (Pz.Ok L i (Pz.pv L .cm i) 1):=AD;generalize Pz.pv L .cm i=r0 at *;obtain⟨o,k⟩:=r0;obtain⟨tsE23,hE,hc,qV⟩:=E21.out.go hf (qj _ _ _ _ _) (by intro d hd;cases hd);have E23:=hid hE;have Tc:=hid hc;have Uc:=hid qV;clear hf hE hc qV E21;dsimp only;obtain⟨qy,qx,qv,qm,qu,qt,qs,qr,qp⟩:=(E23.out.bx (w.heap.size,Pz.z0) (by simp)).1;dsimp only[Pz.z0,len] at qy qx qv qm qu qt qs qr qp;go_wp2;refine bodyPost_ret (v:=.tuple #[.agg #[.int .i64 c.a.op,.int .i64 c.a.num,.string c.a.name,.slice c.a.ptr (len c.k) c.a.cap],.bool o.isSome]) ?_ rfl ?_
  ·rw [results_cell_tmp rfl];go_simp
  ·rw [PV.out];exact⟨c,rfl,E23.out.done4 c o Tc.out rfl rfl rfl rfl⟩
theorem ex_of(L:List Tk.T4)(i:Nat)(h0:PC 80 L .dj i)(h1:∀j,i < j→j≤L.length→PC 35 L .ex j):PC 35 L .ex i:=by
 intro sb p cap w h;have C0:=hid h0;have C1:=hid h1;clear h0 h1;have H:=hid h;have hle:=h.le;have hL4:=h.ls.1;have E0:Hid (Pz.Env w w sb (fun W=>PSt W sb L p cap i) [] [] []):=Pz.Env.init h (qj _ _ _ _ _) h.lt (by intro c hc;cases hc);have PV:Hid (Pz.pv L .ex i=Pz.step L (Pz.pv L) .ex i):=Pz.pv_step L .ex i hle;unfold Pz.step at PV;dsimp only at PV;clear h;go_enter Tryz.func35,Tryz.ntmps35;go_wp2_with fail;have E1:=hid (E0.out.box Pz.z0 #[.int .i64 0,.int .i64 0,.string ⟨#[]⟩,.slice none 0 0] rfl 24);generalize w.alloc (.cells #[.int .i64 0,.int .i64 0,.string ⟨#[]⟩,.slice none 0 0] 24)=w2 at *;clear E0;have AD:Pz.Ok L i (Pz.pv L .dj i) 1:=Pz.pv_adv L .dj i hle;refine(C0.out sb p cap w2 E1.out.st).mono ?_;rintro e w4 ⟨c,rfl,hf⟩;have ADc:Hid (Pz.Ok L i (Pz.pv L .dj i) 1):=AD;generalize Pz.pv L .dj i=r0 at *;obtain⟨o,j⟩:=r0;obtain⟨tsE3,hE,hc,qV⟩:=E1.out.go hf (qj _ _ _ _ _) (by intro d hd;cases hd);have E3:=hid hE;have Tc:=hid hc;have Uc:=hid qV;clear hf hE hc qV E1;dsimp only;rw[Pz.bnd_goL] at PV;cases o with
 | none =>
   rw[Pz.goL_none] at PV;dsimp only[Option.isSome];go_upto_region 2 with (fail);have E5:=hid (E3.out.box c #[.int .i64 c.a.op,.int .i64 c.a.num,.string c.a.name,.slice c.a.ptr (len c.k) c.a.cap] rfl 24);generalize hg7:w4.heap.size=g7 at *;generalize w4.alloc (.cells #[.int .i64 c.a.op,.int .i64 c.a.num,.string c.a.name,.slice c.a.ptr (len c.k) c.a.cap] 24)=w6 at *;clear E3 hg7;obtain⟨qy,qx,qv,qm,qu,qt,qs,qr,qp⟩:=(E5.out.bx (g7,c) (by simp)).1;dsimp only at qy qx qv qm qu qt qs qr qp;obtain⟨qL,qK,qJ,qB,qI,qH,qG,qF,qE⟩:=(E5.out.bx (w.heap.size,Pz.z0) (by simp)).1;dsimp only[Pz.z0,len] at qL qK qJ qB qI qH qG qF qE;go_wp2;refine bodyPost_ret (v:=.tuple #[.agg #[.int .i64 c.a.op,.int .i64 c.a.num,.string c.a.name,.slice c.a.ptr (len c.k) c.a.cap],.bool false]) ?_ rfl ?_
   ·rw [results_cell_tmp rfl];go_simp
   ·rw [PV.out];exact⟨c,rfl,(E5.out.tail).done4 c none (fun x hx=>by cases hx) rfl rfl rfl rfl⟩
 | some x =>
   rw[Pz.goL_some] at PV;dsimp only[Option.isSome];go_upto_region 2 with (fail);have E5:=hid (E3.out.box c #[.int .i64 c.a.op,.int .i64 c.a.num,.string c.a.name,.slice c.a.ptr (len c.k) c.a.cap] rfl 24);generalize hg7:w4.heap.size=g7 at *;generalize w4.alloc (.cells #[.int .i64 c.a.op,.int .i64 c.a.num,.string c.a.name,.slice c.a.ptr (len c.k) c.a.cap] 24)=w6 at *;clear E3 hg7
   by_cases hw:Pz.isw L j Pz.wImplies=true
   ·
    have hj:=Pz.isw_lt hw;have hij:=ADc.out.2.2 rfl;dsimp only at hij;rw[if_pos hw] at PV;go_wp2_with fail;refine(qA sb L p cap j _ _ E5.out.st hw).mono ?_;rintro e w9 ⟨rfl,hs,hg⟩;have E8:=hid (E5.out.grown hs (qj _ _ _ _ _) hg);clear hs hg E5;go_wp2_with fail;have AD:Pz.Ok L (j+1) (Pz.pv L .ex (j+1)) 1:=Pz.pv_adv L .ex (j+1) hj;refine(C1.out (j+1) (by omega) hj sb p cap w9 E8.out.st).mono ?_;rintro e w11 ⟨d,rfl,hf⟩;have ADd:Hid (Pz.Ok L (j+1) (Pz.pv L .ex (j+1)) 1):=AD;generalize Pz.pv L .ex (j+1)=r0 at *;obtain⟨o,k⟩:=r0;obtain⟨tsE10,hE,hc,qV⟩:=E8.out.go hf (qj _ _ _ _ _) (by intro d hd;cases hd);have E10:=hid hE;have Td:=hid hc;have Ud:=hid qV;clear hf hE hc qV E8;dsimp only;rw[Pz.bnd_goL] at PV;go_upto_region 5 with (fail);have E12:=hid (E10.out.box d #[.int .i64 d.a.op,.int .i64 d.a.num,.string d.a.name,.slice d.a.ptr (len d.k) d.a.cap] rfl 24);generalize hg14:w11.heap.size=g14 at *;generalize w11.alloc (.cells #[.int .i64 d.a.op,.int .i64 d.a.num,.string d.a.name,.slice d.a.ptr (len d.k) d.a.cap] 24)=w13 at *;clear E10 hg14;obtain⟨qy,qx,qv,qm,qu,qt,qs,qr,qp⟩:=(E12.out.bx (g14,d) (by simp)).1;dsimp only at qy qx qv qm qu qt qs qr qp;obtain⟨qL,qK,qJ,qB,qI,qH,qG,qF,qE⟩:=(E12.out.bx (g7,c) (by simp)).1;dsimp only at qL qK qJ qB qI qH qG qF qE;obtain⟨yI,yH,yG,yF,yE,yD,yC,yB,yA⟩:=(E12.out.bx (w.heap.size,Pz.z0) (by simp)).1;dsimp only[Pz.z0,len] at yI yH yG yF yE yD yC yB yA;go_wp2_with fail;clear qy qx qv qm qu qt qs qr qp qL qK qJ qB qI qH qG qF qE yI yH yG yF yE yD yC yB yA;refine(zh 22 c d w13).mono ?_;rintro e w16 ⟨q17,rfl,hg,hb,hcl⟩;obtain⟨tsa,hEa,hna,qV⟩:=E12.out.pair hb ⟨(Tc.out x rfl).1,(Ud.out _ (Tc.out x rfl).2)⟩ Td.out 22 q17 hg hcl;have E15:=hid hEa;have TN:=hid hna;clear hEa hna hg hb hcl qV E12;obtain⟨qy,qx,qv,qm,qu,qt,qs,qr,qp⟩:=(E15.out.bx (g14,d) (by simp)).1;dsimp only at qy qx qv qm qu qt qs qr qp;obtain⟨qL,qK,qJ,qB,qI,qH,qG,qF,qE⟩:=(E15.out.bx (g7,c) (by simp)).1;dsimp only at qL qK qJ qB qI qH qG qF qE;obtain⟨yI,yH,yG,yF,yE,yD,yC,yB,yA⟩:=(E15.out.bx (w.heap.size,Pz.z0) (by simp)).1;dsimp only[Pz.z0,len] at yI yH yG yF yE yD yC yB yA;cases o with
    | none =>
      go_wp2;refine bodyPost_ret (v:=.tuple #[.agg #[.int .i64 22,.int .i64 0,.string ⟨#[]⟩,.slice (some ⟨q17,0,none⟩) 2 2],.bool false]) ?_ rfl ?_
      ·rw [results_cell_tmp rfl];go_simp
      ·rw [PV.out,Pz.goL_none];exact⟨(⟨q17,0,⟨22,0,⟨#[]⟩,some ⟨q17,0,none⟩,2⟩,qC [c,d]⟩:Ch),rfl,(E15.out.tail.tail).done4 (⟨q17,0,⟨22,0,⟨#[]⟩,some ⟨q17,0,none⟩,2⟩,qC [c,d]⟩:Ch) none (fun x hx=>by cases hx) rfl rfl rfl rfl⟩
    | some y =>
      go_wp2;refine bodyPost_ret (v:=.tuple #[.agg #[.int .i64 22,.int .i64 0,.string ⟨#[]⟩,.slice (some ⟨q17,0,none⟩) 2 2],.bool true]) ?_ rfl ?_
      ·rw [results_cell_tmp rfl];go_simp
      ·rw [PV.out,Pz.goL_some];exact⟨(⟨q17,0,⟨22,0,⟨#[]⟩,some ⟨q17,0,none⟩,2⟩,qC [c,d]⟩:Ch),rfl,(E15.out.tail.tail).done4 (⟨q17,0,⟨22,0,⟨#[]⟩,some ⟨q17,0,none⟩,2⟩,qC [c,d]⟩:Ch) (some (Pz.tn 22 [x,y])) (fun z hz=>by cases hz;exact TN.out y rfl) rfl rfl rfl rfl⟩
   ·
    have hw':Pz.isw L j Pz.wImplies=false:=(by simpa using hw);rw[if_neg hw] at PV;go_wp2_with fail;refine(qM sb L p cap j _ _ E5.out.st hw').mono ?_;rintro e w42 ⟨rfl,hb⟩;have E41:=hid (E5.out.below hb);clear hb E5;obtain⟨qy,qx,qv,qm,qu,qt,qs,qr,qp⟩:=(E41.out.bx (g7,c) (by simp)).1;dsimp only at qy qx qv qm qu qt qs qr qp;obtain⟨qL,qK,qJ,qB,qI,qH,qG,qF,qE⟩:=(E41.out.bx (w.heap.size,Pz.z0) (by simp)).1;dsimp only[Pz.z0,len] at qL qK qJ qB qI qH qG qF qE;go_wp2;refine bodyPost_ret (v:=.tuple #[.agg #[.int .i64 c.a.op,.int .i64 c.a.num,.string c.a.name,.slice c.a.ptr (len c.k) c.a.cap],.bool true]) ?_ rfl ?_
    ·rw [results_cell_tmp rfl];go_simp
    ·rw [PV.out];exact⟨c,rfl,(E41.out.tail).done4 c (some x) Tc.out rfl rfl rfl rfl⟩
def PBd(L:List Tk.T4)(i:Nat):Prop:=∀(sb:Nat)(p:Option Addr)(cap:Nat)(w:World)(c x:Ch),PSt w sb L p cap i→Pz.nr c=x→ExAt w c.b c.o c.a c.k→Pz.FNe sb c.k c.b→
 Calls Tryz.prog 191 #[.pointer (some ⟨sb,0,none⟩),.agg #[.int .i64 c.a.op,.int .i64 c.a.num,.string c.a.name,.slice c.a.ptr (len c.k) c.a.cap]] w (Kz w sb [c] L p cap (Pz.pv L (.bd x) i))
theorem Vu(L:List Tk.T4)(i:Nat)(h1:∀j,i≤j→j≤L.length→PC 190 L .sm j):PBd L i:=by
 intro sb p cap w c x h hnr hex hfn;have C1:=hid h1;have NR:=hid hnr;clear h1;have H:=hid h;have hle:=h.le;have hL4:=h.ls.1;have E0:Hid (Pz.Env w w sb (fun W=>PSt W sb L p cap i) [c] [] [c]):=Pz.Env.init h (qj _ _ _ _ _) h.lt (by intro d hd;simp only[List.mem_cons,List.not_mem_nil,or_false] at hd;subst hd;exact⟨hex,hfn⟩);have PV:Hid (Pz.pv L (.bd x) i=Pz.step L (Pz.pv L) (.bd x) i):=Pz.pv_step L (.bd x) i hle;unfold Pz.step at PV;dsimp only at PV;clear h hnr hex hfn;go_enter Tryz.func191,Tryz.ntmps191;go_wp2_with fail;have E1:=hid ((E0.out.box c #[.int .i64 c.a.op,.int .i64 c.a.num,.string c.a.name,.slice c.a.ptr (len c.k) c.a.cap] rfl 24).box Pz.z0 #[.int .i64 0,.int .i64 0,.string ⟨#[]⟩,.slice none 0 0] rfl 24);simp only[World.size_alloc] at E1;generalize (w.alloc (.cells #[.int .i64 c.a.op,.int .i64 c.a.num,.string c.a.name,.slice c.a.ptr (len c.k) c.a.cap] 24)).alloc (.cells #[.int .i64 0,.int .i64 0,.string ⟨#[]⟩,.slice none 0 0] 24)=w1 at *;clear E0;have AD:Pz.Ok L i (Pz.pv L .sm i) 1:=Pz.pv_adv L .sm i hle;refine(C1.out i (Nat.le_refl _) hle sb p cap w1 E1.out.st).mono ?_;rintro e w3 ⟨d,rfl,hf⟩;have ADd:Hid (Pz.Ok L i (Pz.pv L .sm i) 1):=AD;generalize Pz.pv L .sm i=r0 at *;obtain⟨o,j⟩:=r0;obtain⟨tsE2,hE,hc,qV⟩:=E1.out.go hf (qj _ _ _ _ _) (by intro d hd;cases hd);have E2:=hid hE;have Td:=hid hc;have Ud:=hid qV;clear hf hE hc qV E1;dsimp only;rw[Pz.bnd_goL] at PV;cases o with
 | none =>
   rw[Pz.goL_none] at PV;dsimp only[Option.isSome];go_upto_region 2 with (fail);have E4:=hid (E2.out.box d #[.int .i64 d.a.op,.int .i64 d.a.num,.string d.a.name,.slice d.a.ptr (len d.k) d.a.cap] rfl 24);generalize hg6:w3.heap.size=g6 at *;generalize w3.alloc (.cells #[.int .i64 d.a.op,.int .i64 d.a.num,.string d.a.name,.slice d.a.ptr (len d.k) d.a.cap] 24)=w5 at *;clear E2 hg6;obtain⟨qy,qx,qv,qm,qu,qt,qs,qr,qp⟩:=(E4.out.bx (g6,d) (by simp)).1;dsimp only at qy qx qv qm qu qt qs qr qp;obtain⟨qL,qK,qJ,qB,qI,qH,qG,qF,qE⟩:=(E4.out.bx (w.heap.size+1,Pz.z0) (by simp)).1;dsimp only[Pz.z0,len] at qL qK qJ qB qI qH qG qF qE;obtain⟨yI,yH,yG,yF,yE,yD,yC,yB,yA⟩:=(E4.out.bx (w.heap.size,c) (by simp)).1;dsimp only at yI yH yG yF yE yD yC yB yA;go_wp2;refine bodyPost_ret (v:=.tuple #[.agg #[.int .i64 0,.int .i64 0,.string ⟨#[]⟩,.slice none 0 0],.bool false]) ?_ rfl ?_
   ·rw [results_cell_tmp rfl];go_simp
   ·rw [PV.out];exact⟨Pz.z0,rfl,(E4.out.tail).done4 Pz.z0 none (fun x hx=>by cases hx) rfl rfl rfl rfl⟩
 | some y =>
   rw[Pz.goL_some] at PV;dsimp only[Option.isSome];go_upto_region 2 with (fail);have E4:=hid (E2.out.box d #[.int .i64 d.a.op,.int .i64 d.a.num,.string d.a.name,.slice d.a.ptr (len d.k) d.a.cap] rfl 24);generalize hg6:w3.heap.size=g6 at *;generalize w3.alloc (.cells #[.int .i64 d.a.op,.int .i64 d.a.num,.string d.a.name,.slice d.a.ptr (len d.k) d.a.cap] 24)=w5 at *;clear E2 hg6
   by_cases hw:Pz.isw L j Pz.wTo=true
   ·
    have hj:=Pz.isw_lt hw;have hij:=ADd.out.2.2 rfl;dsimp only at hij;rw[if_pos hw] at PV;go_wp2_with fail;refine(qA sb L p cap j _ _ E4.out.st hw).mono ?_;rintro e w8 ⟨rfl,hs,hg⟩;have E7:=hid (E4.out.grown hs (qj _ _ _ _ _) hg);clear hs hg E4;go_wp2_with fail;have AD:Pz.Ok L (j+1) (Pz.pv L .sm (j+1)) 1:=Pz.pv_adv L .sm (j+1) hj;refine(C1.out (j+1) (by omega) hj sb p cap w8 E7.out.st).mono ?_;rintro e w10 ⟨e1,rfl,hf⟩;have ADe1:Hid (Pz.Ok L (j+1) (Pz.pv L .sm (j+1)) 1):=AD;generalize Pz.pv L .sm (j+1)=r0 at *;obtain⟨o,k⟩:=r0;obtain⟨tsE9,hE,hc,qV⟩:=E7.out.go hf (qj _ _ _ _ _) (by intro d hd;cases hd);have E9:=hid hE;have Te1:=hid hc;have Ue1:=hid qV;clear hf hE hc qV E7;dsimp only;rw[Pz.bnd_goL] at PV;go_upto_region 5 with (fail);have E11:=hid (E9.out.box e1 #[.int .i64 e1.a.op,.int .i64 e1.a.num,.string e1.a.name,.slice e1.a.ptr (len e1.k) e1.a.cap] rfl 24);generalize hg13:w10.heap.size=g13 at *;generalize w10.alloc (.cells #[.int .i64 e1.a.op,.int .i64 e1.a.num,.string e1.a.name,.slice e1.a.ptr (len e1.k) e1.a.cap] 24)=w12 at *;clear E9 hg13;obtain⟨qy,qx,qv,qm,qu,qt,qs,qr,qp⟩:=(E11.out.bx (g13,e1) (by simp)).1;dsimp only at qy qx qv qm qu qt qs qr qp;obtain⟨qL,qK,qJ,qB,qI,qH,qG,qF,qE⟩:=(E11.out.bx (g6,d) (by simp)).1;dsimp only at qL qK qJ qB qI qH qG qF qE;obtain⟨yI,yH,yG,yF,yE,yD,yC,yB,yA⟩:=(E11.out.bx (w.heap.size+1,Pz.z0) (by simp)).1;dsimp only[Pz.z0,len] at yI yH yG yF yE yD yC yB yA;obtain⟨b3c0,b3c1,b3c2,b3c3,b3f0,b3f1,b3f2,b3f3,b3lt⟩:=(E11.out.bx (w.heap.size,c) (by simp)).1;dsimp only at b3c0 b3c1 b3c2 b3c3 b3f0 b3f1 b3f2 b3f3 b3lt;cases o with
    | none =>
      go_wp2;refine bodyPost_ret (v:=.tuple #[.agg #[.int .i64 15,.int .i64 0,.string ⟨#[]⟩,.slice (some ⟨w12.heap.size,0,none⟩) 3 3],.bool false]) ?_ rfl ?_
      ·rw [results_cell_tmp rfl];go_simp
      ·rw [PV.out,Pz.goL_none];exact⟨(⟨w12.heap.size,0,⟨15,0,⟨#[]⟩,some ⟨w12.heap.size,0,none⟩,3⟩,qC [c,d,e1]⟩:Ch),rfl,(E11.out.tail.tail).done_node [c,d,e1] 15 3 rfl none (fun x hx=>by cases hx) _ rfl _⟩
    | some z =>
      go_wp2;refine bodyPost_ret (v:=.tuple #[.agg #[.int .i64 15,.int .i64 0,.string ⟨#[]⟩,.slice (some ⟨w12.heap.size,0,none⟩) 3 3],.bool true]) ?_ rfl ?_
      ·rw [results_cell_tmp rfl];go_simp
      ·rw [PV.out,Pz.goL_some];exact⟨(⟨w12.heap.size,0,⟨15,0,⟨#[]⟩,some ⟨w12.heap.size,0,none⟩,3⟩,qC [c,d,e1]⟩:Ch),rfl,(E11.out.tail.tail).done_node [c,d,e1] 15 3 rfl (some (Pz.tn 15 [x,y,z])) (fun y hy=>by cases hy;exact⟨(by intro q hq;simp only[List.mem_cons,List.not_mem_nil,or_false] at hq;rcases hq with e9|e9|e9;rw[e9];exact(Ue1.out _ (Ud.out _ (show c∈ [c] by simp)));rw[e9];exact(Ue1.out _ (Td.out y rfl).2);rw[e9];exact(Te1.out z rfl).2),(by rw[List.map_cons,List.map_cons,List.map_cons,List.map_nil,NR.out,(Td.out y rfl).1,(Te1.out z rfl).1])⟩) _ rfl _⟩
   ·
    have hw':Pz.isw L j Pz.wTo=false:=(by simpa using hw);rw[if_neg hw] at PV;go_wp2_with fail;refine(qM sb L p cap j _ _ E4.out.st hw').mono ?_;rintro e w42 ⟨rfl,hb⟩;have E41:=hid (E4.out.below hb);clear hb E4;obtain⟨qy,qx,qv,qm,qu,qt,qs,qr,qp⟩:=(E41.out.bx (g6,d) (by simp)).1;dsimp only at qy qx qv qm qu qt qs qr qp;obtain⟨qL,qK,qJ,qB,qI,qH,qG,qF,qE⟩:=(E41.out.bx (w.heap.size+1,Pz.z0) (by simp)).1;dsimp only[Pz.z0,len] at qL qK qJ qB qI qH qG qF qE;obtain⟨yI,yH,yG,yF,yE,yD,yC,yB,yA⟩:=(E41.out.bx (w.heap.size,c) (by simp)).1;dsimp only at yI yH yG yF yE yD yC yB yA;go_wp2;refine bodyPost_ret (v:=.tuple #[.agg #[.int .i64 0,.int .i64 0,.string ⟨#[]⟩,.slice none 0 0],.bool false]) ?_ rfl ?_
    ·rw [results_cell_tmp rfl];go_simp
    ·rw [PV.out];exact⟨Pz.z0,rfl,(E41.out.tail).done4 Pz.z0 none (fun x hx=>by cases hx) rfl rfl rfl rfl⟩
theorem cm_of(L:List Tk.T4)(i:Nat)(h0:PC 190 L .sm i)(h1:∀j,i < j→j≤L.length→PC 190 L .sm j)(h2:∀j,i < j→j≤L.length→PBd L j):PC 174 L .cm i:=by
 intro sb p cap w h;have C0:=hid h0;have C1:=hid h1;have C2:=hid h2;clear h0 h1 h2;have H:=hid h;have hle:=h.le;have hL4:=h.ls.1;have E0:Hid (Pz.Env w w sb (fun W=>PSt W sb L p cap i) [] [] []):=Pz.Env.init h (qj _ _ _ _ _) h.lt (by intro c hc;cases hc);have PV:Hid (Pz.pv L .cm i=Pz.step L (Pz.pv L) .cm i):=Pz.pv_step L .cm i hle;unfold Pz.step at PV;dsimp only at PV;clear h;go_enter Tryz.func174,Tryz.ntmps174;go_wp2_with fail;have E1:=hid (E0.out.box Pz.z0 #[.int .i64 0,.int .i64 0,.string ⟨#[]⟩,.slice none 0 0] rfl 24);generalize w.alloc (.cells #[.int .i64 0,.int .i64 0,.string ⟨#[]⟩,.slice none 0 0] 24)=w2 at *;clear E0;have AD:Pz.Ok L i (Pz.pv L .sm i) 1:=Pz.pv_adv L .sm i hle;refine(C0.out sb p cap w2 E1.out.st).mono ?_;rintro e w4 ⟨c,rfl,hf⟩;have ADc:Hid (Pz.Ok L i (Pz.pv L .sm i) 1):=AD;generalize Pz.pv L .sm i=r0 at *;obtain⟨o,j⟩:=r0;obtain⟨tsE3,hE,hc,qV⟩:=E1.out.go hf (qj _ _ _ _ _) (by intro d hd;cases hd);have E3:=hid hE;have Tc:=hid hc;have Uc:=hid qV;clear hf hE hc qV E1;dsimp only;rw[Pz.bnd_goL] at PV;cases o with
 | none =>
   rw[Pz.goL_none] at PV;dsimp only[Option.isSome];go_upto_region 2 with (fail);have E5:=hid (E3.out.box c #[.int .i64 c.a.op,.int .i64 c.a.num,.string c.a.name,.slice c.a.ptr (len c.k) c.a.cap] rfl 24);generalize hg7:w4.heap.size=g7 at *;generalize w4.alloc (.cells #[.int .i64 c.a.op,.int .i64 c.a.num,.string c.a.name,.slice c.a.ptr (len c.k) c.a.cap] 24)=w6 at *;clear E3 hg7;obtain⟨qy,qx,qv,qm,qu,qt,qs,qr,qp⟩:=(E5.out.bx (g7,c) (by simp)).1;dsimp only at qy qx qv qm qu qt qs qr qp;obtain⟨qL,qK,qJ,qB,qI,qH,qG,qF,qE⟩:=(E5.out.bx (w.heap.size,Pz.z0) (by simp)).1;dsimp only[Pz.z0,len] at qL qK qJ qB qI qH qG qF qE;go_wp2;refine bodyPost_ret (v:=.tuple #[.agg #[.int .i64 c.a.op,.int .i64 c.a.num,.string c.a.name,.slice c.a.ptr (len c.k) c.a.cap],.bool false]) ?_ rfl ?_
   ·rw [results_cell_tmp rfl];go_simp
   ·rw [PV.out];exact⟨c,rfl,(E5.out.tail).done4 c none (fun x hx=>by cases hx) rfl rfl rfl rfl⟩
 | some x =>
   rw[Pz.goL_some] at PV;dsimp only[Option.isSome];go_upto_region 2 with (fail);have E5:=hid (E3.out.box c #[.int .i64 c.a.op,.int .i64 c.a.num,.string c.a.name,.slice c.a.ptr (len c.k) c.a.cap] rfl 24);generalize hg7:w4.heap.size=g7 at *;generalize w4.alloc (.cells #[.int .i64 c.a.op,.int .i64 c.a.num,.string c.a.name,.slice c.a.ptr (len c.k) c.a.cap] 24)=w6 at *;clear E3 hg7;have hij:=ADc.out.2.2 rfl;dsimp only at hij
   by_cases hw0:Pz.isw L j Pz.wLess=true
   ·
    have hj:=Pz.isw_lt hw0;rw[if_pos hw0] at PV;go_wp2_with fail;refine(qA sb L p cap j _ _ E5.out.st hw0).mono ?_;rintro e w102 ⟨rfl,hs,hg⟩;have E101:=hid (E5.out.grown hs (qj _ _ _ _ _) hg);clear hs hg E5;go_wp2_with fail;have AD:Pz.Ok L (j+1) (Pz.pv L .sm (j+1)) 1:=Pz.pv_adv L .sm (j+1) hj;refine(C1.out (j+1) (by omega) hj sb p cap w102 E101.out.st).mono ?_;rintro e w104 ⟨d,rfl,hf⟩;have ADd:Hid (Pz.Ok L (j+1) (Pz.pv L .sm (j+1)) 1):=AD;generalize Pz.pv L .sm (j+1)=r0 at *;obtain⟨o,k⟩:=r0;obtain⟨tsE103,hE,hc,qV⟩:=E101.out.go hf (qj _ _ _ _ _) (by intro d hd;cases hd);have E103:=hid hE;have Td:=hid hc;have Ud:=hid qV;clear hf hE hc qV E101;dsimp only;rw[Pz.bnd_goL] at PV;go_upto_region 15 with (fail);have E105:=hid (E103.out.box d #[.int .i64 d.a.op,.int .i64 d.a.num,.string d.a.name,.slice d.a.ptr (len d.k) d.a.cap] rfl 24);generalize hg107:w104.heap.size=g107 at *;generalize w104.alloc (.cells #[.int .i64 d.a.op,.int .i64 d.a.num,.string d.a.name,.slice d.a.ptr (len d.k) d.a.cap] 24)=w106 at *;clear E103 hg107;obtain⟨qy,qx,qv,qm,qu,qt,qs,qr,qp⟩:=(E105.out.bx (g107,d) (by simp)).1;dsimp only at qy qx qv qm qu qt qs qr qp;obtain⟨qL,qK,qJ,qB,qI,qH,qG,qF,qE⟩:=(E105.out.bx (g7,c) (by simp)).1;dsimp only at qL qK qJ qB qI qH qG qF qE;obtain⟨yI,yH,yG,yF,yE,yD,yC,yB,yA⟩:=(E105.out.bx (w.heap.size,Pz.z0) (by simp)).1;dsimp only[Pz.z0,len] at yI yH yG yF yE yD yC yB yA;go_wp2_with fail;clear qy qx qv qm qu qt qs qr qp qL qK qJ qB qI qH qG qF qE yI yH yG yF yE yD yC yB yA;refine(zh 16 c d w106).mono ?_;rintro e w109 ⟨q110,rfl,hg,hb,hcl⟩;obtain⟨tsa,hEa,hna,qV⟩:=E105.out.pair hb ⟨(Tc.out x rfl).1,(Ud.out _ (Tc.out x rfl).2)⟩ Td.out 16 q110 hg hcl;have E108:=hid hEa;have TN:=hid hna;clear hEa hna hg hb hcl qV E105;obtain⟨qy,qx,qv,qm,qu,qt,qs,qr,qp⟩:=(E108.out.bx (g107,d) (by simp)).1;dsimp only at qy qx qv qm qu qt qs qr qp;obtain⟨qL,qK,qJ,qB,qI,qH,qG,qF,qE⟩:=(E108.out.bx (g7,c) (by simp)).1;dsimp only at qL qK qJ qB qI qH qG qF qE;obtain⟨yI,yH,yG,yF,yE,yD,yC,yB,yA⟩:=(E108.out.bx (w.heap.size,Pz.z0) (by simp)).1;dsimp only[Pz.z0,len] at yI yH yG yF yE yD yC yB yA;cases o with
    | none =>
      go_wp2;refine bodyPost_ret (v:=.tuple #[.agg #[.int .i64 16,.int .i64 0,.string ⟨#[]⟩,.slice (some ⟨q110,0,none⟩) 2 2],.bool false]) ?_ rfl ?_
      ·rw [results_cell_tmp rfl];go_simp
      ·rw [PV.out,Pz.goL_none];exact⟨(⟨q110,0,⟨16,0,⟨#[]⟩,some ⟨q110,0,none⟩,2⟩,qC [c,d]⟩:Ch),rfl,(E108.out.tail.tail).done4 (⟨q110,0,⟨16,0,⟨#[]⟩,some ⟨q110,0,none⟩,2⟩,qC [c,d]⟩:Ch) none (fun x hx=>by cases hx) rfl rfl rfl rfl⟩
    | some y =>
      go_wp2;refine bodyPost_ret (v:=.tuple #[.agg #[.int .i64 16,.int .i64 0,.string ⟨#[]⟩,.slice (some ⟨q110,0,none⟩) 2 2],.bool true]) ?_ rfl ?_
      ·rw [results_cell_tmp rfl];go_simp
      ·rw [PV.out,Pz.goL_some];exact⟨(⟨q110,0,⟨16,0,⟨#[]⟩,some ⟨q110,0,none⟩,2⟩,qC [c,d]⟩:Ch),rfl,(E108.out.tail.tail).done4 (⟨q110,0,⟨16,0,⟨#[]⟩,some ⟨q110,0,none⟩,2⟩,qC [c,d]⟩:Ch) (some (Pz.tn 16 [x,y])) (fun z hz=>by cases hz;exact TN.out y rfl) rfl rfl rfl rfl⟩
   ·
    have hw0':Pz.isw L j Pz.wLess=false:=(by simpa using hw0);rw[if_neg hw0] at PV;go_wp2_with fail;refine(qM sb L p cap j _ _ E5.out.st hw0').mono ?_;rintro e w1002 ⟨rfl,hb⟩;have E1001:=hid (E5.out.below hb);clear hb E5
    by_cases hw1:Pz.isw L j Pz.wLeq=true
    ·
     have hj:=Pz.isw_lt hw1;rw[if_pos hw1] at PV;go_wp2_with fail;refine(qA sb L p cap j _ _ E1001.out.st hw1).mono ?_;rintro e w202 ⟨rfl,hs,hg⟩;have E201:=hid (E1001.out.grown hs (qj _ _ _ _ _) hg);clear hs hg E1001;go_wp2_with fail;have AD:Pz.Ok L (j+1) (Pz.pv L .sm (j+1)) 1:=Pz.pv_adv L .sm (j+1) hj;refine(C1.out (j+1) (by omega) hj sb p cap w202 E201.out.st).mono ?_;rintro e w204 ⟨d,rfl,hf⟩;have ADd:Hid (Pz.Ok L (j+1) (Pz.pv L .sm (j+1)) 1):=AD;generalize Pz.pv L .sm (j+1)=r0 at *;obtain⟨o,k⟩:=r0;obtain⟨tsE203,hE,hc,qV⟩:=E201.out.go hf (qj _ _ _ _ _) (by intro d hd;cases hd);have E203:=hid hE;have Td:=hid hc;have Ud:=hid qV;clear hf hE hc qV E201;dsimp only;rw[Pz.bnd_goL] at PV;go_upto_region 15 with (fail);have E205:=hid (E203.out.box d #[.int .i64 d.a.op,.int .i64 d.a.num,.string d.a.name,.slice d.a.ptr (len d.k) d.a.cap] rfl 24);generalize hg207:w204.heap.size=g207 at *;generalize w204.alloc (.cells #[.int .i64 d.a.op,.int .i64 d.a.num,.string d.a.name,.slice d.a.ptr (len d.k) d.a.cap] 24)=w206 at *;clear E203 hg207;obtain⟨qy,qx,qv,qm,qu,qt,qs,qr,qp⟩:=(E205.out.bx (g207,d) (by simp)).1;dsimp only at qy qx qv qm qu qt qs qr qp;obtain⟨qL,qK,qJ,qB,qI,qH,qG,qF,qE⟩:=(E205.out.bx (g7,c) (by simp)).1;dsimp only at qL qK qJ qB qI qH qG qF qE;obtain⟨yI,yH,yG,yF,yE,yD,yC,yB,yA⟩:=(E205.out.bx (w.heap.size,Pz.z0) (by simp)).1;dsimp only[Pz.z0,len] at yI yH yG yF yE yD yC yB yA;go_wp2_with fail;clear qy qx qv qm qu qt qs qr qp qL qK qJ qB qI qH qG qF qE yI yH yG yF yE yD yC yB yA;refine(zh 17 c d w206).mono ?_;rintro e w209 ⟨q210,rfl,hg,hb,hcl⟩;obtain⟨tsa,hEa,hna,qV⟩:=E205.out.pair hb ⟨(Tc.out x rfl).1,(Ud.out _ (Tc.out x rfl).2)⟩ Td.out 17 q210 hg hcl;have E208:=hid hEa;have TN:=hid hna;clear hEa hna hg hb hcl qV E205;obtain⟨qy,qx,qv,qm,qu,qt,qs,qr,qp⟩:=(E208.out.bx (g207,d) (by simp)).1;dsimp only at qy qx qv qm qu qt qs qr qp;obtain⟨qL,qK,qJ,qB,qI,qH,qG,qF,qE⟩:=(E208.out.bx (g7,c) (by simp)).1;dsimp only at qL qK qJ qB qI qH qG qF qE;obtain⟨yI,yH,yG,yF,yE,yD,yC,yB,yA⟩:=(E208.out.bx (w.heap.size,Pz.z0) (by simp)).1;dsimp only[Pz.z0,len] at yI yH yG yF yE yD yC yB yA;cases o with
     | none =>
       go_wp2;refine bodyPost_ret (v:=.tuple #[.agg #[.int .i64 17,.int .i64 0,.string ⟨#[]⟩,.slice (some ⟨q210,0,none⟩) 2 2],.bool false]) ?_ rfl ?_
       ·rw [results_cell_tmp rfl];go_simp
       ·rw [PV.out,Pz.goL_none];exact⟨(⟨q210,0,⟨17,0,⟨#[]⟩,some ⟨q210,0,none⟩,2⟩,qC [c,d]⟩:Ch),rfl,(E208.out.tail.tail).done4 (⟨q210,0,⟨17,0,⟨#[]⟩,some ⟨q210,0,none⟩,2⟩,qC [c,d]⟩:Ch) none (fun x hx=>by cases hx) rfl rfl rfl rfl⟩
     | some y =>
       go_wp2;refine bodyPost_ret (v:=.tuple #[.agg #[.int .i64 17,.int .i64 0,.string ⟨#[]⟩,.slice (some ⟨q210,0,none⟩) 2 2],.bool true]) ?_ rfl ?_
       ·rw [results_cell_tmp rfl];go_simp
       ·rw [PV.out,Pz.goL_some];exact⟨(⟨q210,0,⟨17,0,⟨#[]⟩,some ⟨q210,0,none⟩,2⟩,qC [c,d]⟩:Ch),rfl,(E208.out.tail.tail).done4 (⟨q210,0,⟨17,0,⟨#[]⟩,some ⟨q210,0,none⟩,2⟩,qC [c,d]⟩:Ch) (some (Pz.tn 17 [x,y])) (fun z hz=>by cases hz;exact TN.out y rfl) rfl rfl rfl rfl⟩
    ·
     have hw1':Pz.isw L j Pz.wLeq=false:=(by simpa using hw1);rw[if_neg hw1] at PV;go_wp2_with fail;refine(qM sb L p cap j _ _ E1001.out.st hw1').mono ?_;rintro e w2002 ⟨rfl,hb⟩;have E2001:=hid (E1001.out.below hb);clear hb E1001
     by_cases hw2:Pz.isw L j Pz.wEq=true
     ·
      have hj:=Pz.isw_lt hw2;rw[if_pos hw2] at PV;go_wp2_with fail;refine(qA sb L p cap j _ _ E2001.out.st hw2).mono ?_;rintro e w302 ⟨rfl,hs,hg⟩;have E301:=hid (E2001.out.grown hs (qj _ _ _ _ _) hg);clear hs hg E2001;go_wp2_with fail;have AD:Pz.Ok L (j+1) (Pz.pv L .sm (j+1)) 1:=Pz.pv_adv L .sm (j+1) hj;refine(C1.out (j+1) (by omega) hj sb p cap w302 E301.out.st).mono ?_;rintro e w304 ⟨d,rfl,hf⟩;have ADd:Hid (Pz.Ok L (j+1) (Pz.pv L .sm (j+1)) 1):=AD;generalize Pz.pv L .sm (j+1)=r0 at *;obtain⟨o,k⟩:=r0;obtain⟨tsE303,hE,hc,qV⟩:=E301.out.go hf (qj _ _ _ _ _) (by intro d hd;cases hd);have E303:=hid hE;have Td:=hid hc;have Ud:=hid qV;clear hf hE hc qV E301;dsimp only;rw[Pz.bnd_goL] at PV;go_upto_region 15 with (fail);have E305:=hid (E303.out.box d #[.int .i64 d.a.op,.int .i64 d.a.num,.string d.a.name,.slice d.a.ptr (len d.k) d.a.cap] rfl 24);generalize hg307:w304.heap.size=g307 at *;generalize w304.alloc (.cells #[.int .i64 d.a.op,.int .i64 d.a.num,.string d.a.name,.slice d.a.ptr (len d.k) d.a.cap] 24)=w306 at *;clear E303 hg307;obtain⟨qy,qx,qv,qm,qu,qt,qs,qr,qp⟩:=(E305.out.bx (g307,d) (by simp)).1;dsimp only at qy qx qv qm qu qt qs qr qp;obtain⟨qL,qK,qJ,qB,qI,qH,qG,qF,qE⟩:=(E305.out.bx (g7,c) (by simp)).1;dsimp only at qL qK qJ qB qI qH qG qF qE;obtain⟨yI,yH,yG,yF,yE,yD,yC,yB,yA⟩:=(E305.out.bx (w.heap.size,Pz.z0) (by simp)).1;dsimp only[Pz.z0,len] at yI yH yG yF yE yD yC yB yA;go_wp2_with fail;clear qy qx qv qm qu qt qs qr qp qL qK qJ qB qI qH qG qF qE yI yH yG yF yE yD yC yB yA;refine(zh 18 c d w306).mono ?_;rintro e w309 ⟨q310,rfl,hg,hb,hcl⟩;obtain⟨tsa,hEa,hna,qV⟩:=E305.out.pair hb ⟨(Tc.out x rfl).1,(Ud.out _ (Tc.out x rfl).2)⟩ Td.out 18 q310 hg hcl;have E308:=hid hEa;have TN:=hid hna;clear hEa hna hg hb hcl qV E305;obtain⟨qy,qx,qv,qm,qu,qt,qs,qr,qp⟩:=(E308.out.bx (g307,d) (by simp)).1;dsimp only at qy qx qv qm qu qt qs qr qp;obtain⟨qL,qK,qJ,qB,qI,qH,qG,qF,qE⟩:=(E308.out.bx (g7,c) (by simp)).1;dsimp only at qL qK qJ qB qI qH qG qF qE;obtain⟨yI,yH,yG,yF,yE,yD,yC,yB,yA⟩:=(E308.out.bx (w.heap.size,Pz.z0) (by simp)).1;dsimp only[Pz.z0,len] at yI yH yG yF yE yD yC yB yA;cases o with
      | none =>
        go_wp2;refine bodyPost_ret (v:=.tuple #[.agg #[.int .i64 18,.int .i64 0,.string ⟨#[]⟩,.slice (some ⟨q310,0,none⟩) 2 2],.bool false]) ?_ rfl ?_
        ·rw [results_cell_tmp rfl];go_simp
        ·rw [PV.out,Pz.goL_none];exact⟨(⟨q310,0,⟨18,0,⟨#[]⟩,some ⟨q310,0,none⟩,2⟩,qC [c,d]⟩:Ch),rfl,(E308.out.tail.tail).done4 (⟨q310,0,⟨18,0,⟨#[]⟩,some ⟨q310,0,none⟩,2⟩,qC [c,d]⟩:Ch) none (fun x hx=>by cases hx) rfl rfl rfl rfl⟩
      | some y =>
        go_wp2;refine bodyPost_ret (v:=.tuple #[.agg #[.int .i64 18,.int .i64 0,.string ⟨#[]⟩,.slice (some ⟨q310,0,none⟩) 2 2],.bool true]) ?_ rfl ?_
        ·rw [results_cell_tmp rfl];go_simp
        ·rw [PV.out,Pz.goL_some];exact⟨(⟨q310,0,⟨18,0,⟨#[]⟩,some ⟨q310,0,none⟩,2⟩,qC [c,d]⟩:Ch),rfl,(E308.out.tail.tail).done4 (⟨q310,0,⟨18,0,⟨#[]⟩,some ⟨q310,0,none⟩,2⟩,qC [c,d]⟩:Ch) (some (Pz.tn 18 [x,y])) (fun z hz=>by cases hz;exact TN.out y rfl) rfl rfl rfl rfl⟩
     ·
      have hw2':Pz.isw L j Pz.wEq=false:=(by simpa using hw2);rw[if_neg hw2] at PV;go_wp2_with fail;refine(qM sb L p cap j _ _ E2001.out.st hw2').mono ?_;rintro e w3002 ⟨rfl,hb⟩;have E3001:=hid (E2001.out.below hb);clear hb E2001
      by_cases hw3:Pz.isw L j Pz.wIn=true
      ·
       have hj:=Pz.isw_lt hw3;rw[if_pos hw3] at PV;go_wp2_with fail;refine(qA sb L p cap j _ _ E3001.out.st hw3).mono ?_;rintro e w402 ⟨rfl,hs,hg⟩;have E401:=hid (E3001.out.grown hs (qj _ _ _ _ _) hg);clear hs hg E3001;obtain⟨qy,qx,qv,qm,qu,qt,qs,qr,qp⟩:=(E401.out.bx (g7,c) (by simp)).1;dsimp only at qy qx qv qm qu qt qs qr qp;obtain⟨qL,qK,qJ,qB,qI,qH,qG,qF,qE⟩:=(E401.out.bx (w.heap.size,Pz.z0) (by simp)).1;dsimp only[Pz.z0,len] at qL qK qJ qB qI qH qG qF qE;go_wp2_with fail;have AD:Pz.Ok L (j+1) (Pz.pv L (.bd x) (j+1)) 1:=Pz.pv_adv L (.bd x) (j+1) hj;have TRc:=E401.out.tr c (Tc.out x rfl).2;clear qy qx qv qm qu qt qs qr qp qL qK qJ qB qI qH qG qF qE;refine(C2.out (j+1) (by omega) hj sb p cap w402 c x E401.out.st (Tc.out x rfl).1 TRc.1 TRc.2.1).mono ?_;rintro e w404 ⟨d,rfl,hf⟩;have ADd:Hid (Pz.Ok L (j+1) (Pz.pv L (.bd x) (j+1)) 1):=AD;generalize Pz.pv L (.bd x) (j+1)=r0 at *;obtain⟨o,k⟩:=r0;obtain⟨tsE403,hE,hc,qV⟩:=E401.out.go hf (qj _ _ _ _ _) (by intro q hq;simp only[List.mem_cons,List.not_mem_nil,or_false] at hq;subst hq;exact(Tc.out x rfl).2);have E403:=hid hE;have Td:=hid hc;have Ud:=hid qV;clear hf hE hc qV E401;dsimp only;obtain⟨qy,qx,qv,qm,qu,qt,qs,qr,qp⟩:=(E403.out.bx (g7,c) (by simp)).1;dsimp only at qy qx qv qm qu qt qs qr qp;obtain⟨qL,qK,qJ,qB,qI,qH,qG,qF,qE⟩:=(E403.out.bx (w.heap.size,Pz.z0) (by simp)).1;dsimp only[Pz.z0,len] at qL qK qJ qB qI qH qG qF qE;go_wp2;refine bodyPost_ret (v:=.tuple #[.agg #[.int .i64 d.a.op,.int .i64 d.a.num,.string d.a.name,.slice d.a.ptr (len d.k) d.a.cap],.bool o.isSome]) ?_ rfl ?_
       ·rw [results_cell_tmp rfl];go_simp
       ·rw [PV.out];exact⟨d,rfl,(E403.out.tail).done4 d o Td.out rfl rfl rfl rfl⟩
      ·
       have hw3':Pz.isw L j Pz.wIn=false:=(by simpa using hw3);rw[if_neg hw3] at PV;go_wp2_with fail;refine(qM sb L p cap j _ _ E3001.out.st hw3').mono ?_;rintro e w4002 ⟨rfl,hb⟩;have E4001:=hid (E3001.out.below hb);clear hb E3001;obtain⟨qy,qx,qv,qm,qu,qt,qs,qr,qp⟩:=(E4001.out.bx (g7,c) (by simp)).1;dsimp only at qy qx qv qm qu qt qs qr qp;obtain⟨qL,qK,qJ,qB,qI,qH,qG,qF,qE⟩:=(E4001.out.bx (w.heap.size,Pz.z0) (by simp)).1;dsimp only[Pz.z0,len] at qL qK qJ qB qI qH qG qF qE;go_wp2;refine bodyPost_ret (v:=.tuple #[.agg #[.int .i64 c.a.op,.int .i64 c.a.num,.string c.a.name,.slice c.a.ptr (len c.k) c.a.cap],.bool true]) ?_ rfl ?_
       ·rw [results_cell_tmp rfl];go_simp
       ·rw [PV.out];exact⟨c,rfl,(E4001.out.tail).done4 c (some x) Tc.out rfl rfl rfl rfl⟩
theorem J3{L:List Tk.T4}{i:Nat}(h:L.length≤i):Pz.leaf L i=(none,i):=by unfold Pz.leaf;rw[List.getElem?_eq_none h]
theorem K3{L:List Tk.T4}{i:Nat}{t:Tk.T4}(h:L[i]?=some t):Pz.leaf L i=(match Pz.leafT t.t with|some x=>(some x,i+1)|none=>(none,i)):=by
 unfold Pz.leaf;rw[h];dsimp only;cases Pz.leafT t.t<;>rfl
theorem J4{t:Tk.T3}(h:t.kind=2):Pz.leafT t=some (Pz.lf 1 t.num ⟨#[]⟩):=by unfold Pz.leafT;rw[if_pos h]
theorem QE{t:Tk.T3}(h:t.kind=3):Pz.leafT t=some (Pz.lf 2 t.num ⟨#[]⟩):=by unfold Pz.leafT;rw[if_neg (by omega),if_pos h]
theorem vY{t:Tk.T3}(h:t.kind=4):Pz.leafT t=some (Pz.lf 3 t.num ⟨#[]⟩):=by unfold Pz.leafT;rw[if_neg (by omega),if_neg (by omega),if_pos h]
theorem QG{t:Tk.T3}(h:t.kind=1):Pz.leafT t=if zv t.text=true then some (Pz.lf 6 0 t.text) else none:=by unfold Pz.leafT;rw[if_neg (by omega),if_neg (by omega),if_neg (by omega),if_pos h]
theorem QF{t:Tk.T3}(h:t.kind=5):Pz.leafT t=none:=by unfold Pz.leafT;rw[if_neg (by omega),if_neg (by omega),if_neg (by omega),if_neg (by omega)]
theorem QV{t:Tk.T3}(h:VT t):(t.kind=1∧t.text.size≤33∧t.num=0)∨(t.kind=2∧t.text=⟨#[]⟩∧0≤t.num∧t.num≤1099511627776)∨(t.kind=3∧t.text=⟨#[]⟩∧0≤t.num∧t.num≤1099511627776)∨(t.kind=4∧t.text=⟨#[]⟩∧0≤t.num∧t.num≤1439)∨(t.kind=5∧t.num=0):=by
 rcases h with ⟨h1,h2,h3,h4⟩|⟨h1,h2⟩|h|⟨h1,h2,h3,h4⟩
 ·refine .inl ⟨h1,?_,h4⟩;unfold Tk.word at h3
  split at h3
  ·split at h3
   ·cases h3
   ·rename_i q;omega
  ·split at h3
   ·split at h3
    ·have:=congrArg (fun o=>o.map (fun t:Tk.T3=>t.kind)) h3;simp at this
    ·cases h3
   ·split at h3
    ·split at h3
     ·have:=congrArg (fun o=>o.map (fun t:Tk.T3=>t.kind)) h3;simp at this
     ·cases h3
    ·split at h3
     ·have:=congrArg (fun o=>o.map (fun t:Tk.T3=>t.kind)) h3;simp at this
     ·cases h3
 ·rcases h1 with h1|h1
  ·exact .inr (.inl ⟨h1,h2⟩)
  ·exact .inr (.inr (.inl ⟨h1,h2⟩))
 ·exact .inr (.inr (.inr (.inl h)))
 ·exact .inr (.inr (.inr (.inr ⟨h1,h4⟩)))
theorem Ug(L:List Tk.T4)(i:Nat)(hV:∀t∈ L,VT t.t)(sb:Nat)(p:Option Addr)(cap:Nat)(w:World)(h:PSt w sb L p cap i) :
 Calls Tryz.prog 209 #[.pointer (some ⟨sb,0,none⟩)] w (Kz w sb [] L p cap (Pz.leaf L i)):=by
 have H:=hid h;have hle:=h.le;have hL4:=h.ls.1;have E0:Hid (Pz.Env w w sb (fun W=>PSt W sb L p cap i) [] [] []):=Pz.Env.init h (qj _ _ _ _ _) h.lt (by intro c hc;cases hc);clear h
 by_cases hi:i < L.length
 ·have hi':¬(L.length:Int)≤(i:Int):=by omega
  have hi2:(i:Int) < (L.length:Int):=(by omega);have hi3:(0:Int)≤(i:Int):=(by omega);obtain⟨t,ht⟩:∃t,L[i]?=some t:=⟨_,List.getElem?_eq_getElem hi⟩;have LT:=hid (K3 ht);have VK:=hid (QV (hV t (List.mem_of_getElem? ht)));have HT:=hid ht;clear ht hV;go_enter Tryz.func209,Tryz.ntmps209;go_wp2_with fail;have E1:=hid (E0.out.box Pz.z0 #[.int .i64 0,.int .i64 0,.string ⟨#[]⟩,.slice none 0 0] rfl 24);generalize w.alloc (.cells #[.int .i64 0,.int .i64 0,.string ⟨#[]⟩,.slice none 0 0] 24)=w1 at *;clear E0;have c0:=E1.out.st.c0;have c1:=E1.out.st.c1;have qD:=E1.out.st.lt
  go_quiet (fail)
  go_wp2_with fail;have B2:Hid (Below w1.heap.size w1 (w1.drewN nq)):=below_drewN (Below.refl _ _) _;have E2:=hid (E1.out.below B2.out);generalize w1.drewN nq=w2 at *;clear E1 c0 c1 qD B2;have c0:=E2.out.st.c0;have c1:=E2.out.st.c1;obtain⟨g,O,hp,hg,d0,d1,d2,d3⟩:=E2.out.st.ls.get HT.out;obtain rfl:=hp;have n0:=World.new_ne w2 ⟨sb,0,none⟩ c0;have n1:=World.new_ne w2 ⟨sb,1,none⟩ c1;have m0:=World.new_ne w2 ⟨g,O+i * 4,none⟩ d0
  go_region_held3 (fun w'=>w'.cell? ⟨sb,0,none⟩=some (.slice (some ⟨g,O,none⟩) L.length cap)∧w'.cell? ⟨sb,1,none⟩=some (.int .i64 i)∧w'.cell? ⟨g,O+i * 4,none⟩=some (.int .i64 t.t.kind)∧w'.cell? ⟨g,O+i * 4+1,none⟩=some (.string t.t.text)∧w'.cell? ⟨g,O+i * 4+2,none⟩=some (.int .i64 t.t.num)∧w'.cell? ⟨g,O+i * 4+3,none⟩=some (.int .i64 t.at')) (go_keep) (fail)
  clear c0 c1 d0 d1 d2 d3 n0 n1 m0;have B3:Hid (Below w2.heap.size w2 ((w2.alloc (.cells #[.int .i64 t.t.kind,.string t.t.text,.int .i64 t.t.num,.int .i64 t.at'] 68)).drew)):=ba1.drew;have E3:=hid (E2.out.below B3.out);have t0:((w2.alloc (.cells #[.int .i64 t.t.kind,.string t.t.text,.int .i64 t.t.num,.int .i64 t.at'] 68)).drew).cell? ⟨w2.heap.size,0,none⟩=some (.int .i64 t.t.kind):=(by simp[go_sem]);have t1:((w2.alloc (.cells #[.int .i64 t.t.kind,.string t.t.text,.int .i64 t.t.num,.int .i64 t.at'] 68)).drew).cell? ⟨w2.heap.size,1,none⟩=some (.string t.t.text):=(by simp[go_sem]);have t2:((w2.alloc (.cells #[.int .i64 t.t.kind,.string t.t.text,.int .i64 t.t.num,.int .i64 t.at'] 68)).drew).cell? ⟨w2.heap.size,2,none⟩=some (.int .i64 t.t.num):=(by simp[go_sem]);have tl:w2.heap.size < ((w2.alloc (.cells #[.int .i64 t.t.kind,.string t.t.text,.int .i64 t.t.num,.int .i64 t.at'] 68)).drew).heap.size:=(by simp);generalize htb:w2.heap.size=tb at *;generalize (w2.alloc (.cells #[.int .i64 t.t.kind,.string t.t.text,.int .i64 t.t.num,.int .i64 t.at'] 68)).drew=w3 at *;clear E2 B3 htb;rcases VK.out with ⟨hk,h1,-⟩|⟨hk,h1,h2,h3⟩|⟨hk,h1,h2,h3⟩|⟨hk,h1,h2,h3⟩|⟨hk,-⟩
  ·
   have k1:(t.t.kind==1)=true:=(by simp[hk]);have k2:(t.t.kind==2)=false:=(by simp[hk]);have k3:(t.t.kind==3)=false:=(by simp[hk]);have k4:(t.t.kind==4)=false:=(by simp[hk]);rw[QG hk] at LT;have hs:t.t.text.size≤9223372036854775807:=(by omega);clear hk h1;go_wp2_with fail;have TB:Hid (∀W,Below w3.heap.size w3 W→W.cell? ⟨tb,1,none⟩=some (.string t.t.text)):=fun W hb=>by rw[hb.cell (p:=⟨tb,1,none⟩) tl];exact t1
   have BB:Hid (Below w3.heap.size w3 (w3.alloc (.cells #[.int .i64 0,.int .i64 0,.string ⟨#[]⟩,.slice none 0 0] 24))):=ba1;have E4:=hid (E3.out.box Pz.z0 #[.int .i64 0,.int .i64 0,.string ⟨#[]⟩,.slice none 0 0] rfl 24);generalize hg6:w3.heap.size=g6 at *;generalize w3.alloc (.cells #[.int .i64 0,.int .i64 0,.string ⟨#[]⟩,.slice none 0 0] 24)=w5 at *;clear E3 hg6;refine(kJ t.t.text w5 hs).mono ?_;rintro e w7 ⟨rfl,hb⟩;have E8:=hid (E4.out.below hb);have tt:=TB.out _ (BB.out.trans (hb.mono (Nat.le_of_lt (E4.out.bx (g6,Pz.z0) (by simp)).1.lt)));clear hb E4 BB TB t0 t1 t2 tl
   by_cases ha:zv t.t.text=true
   ·
    rw[if_pos ha] at LT;rw[ha];dsimp only at LT;obtain⟨qy,qx,qv,qm,qu,qt,qs,qr,qp⟩:=(E8.out.bx (g6,Pz.z0) (by simp)).1;dsimp only[Pz.z0,len] at qy qx qv qm qu qt qs qr qp;obtain⟨qL,qK,qJ,qB,qI,qH,qG,qF,qE⟩:=(E8.out.bx (w.heap.size,Pz.z0) (by simp)).1;dsimp only[Pz.z0,len] at qL qK qJ qB qI qH qG qF qE;go_upto_region 17 with (fail);have E9:=hid (E8.out.put4 (Pz.lf 6 0 t.t.text) (v0:=.int .i64 6) (v1:=.int .i64 0) (v2:=.string t.t.text) (v3:=.slice none 0 0) rfl rfl rfl rfl);clear qy qx qv qm qu qt qs qr qp qL qK qJ qB qI qH qG qF qE;clear tt;generalize ((((w7.setCell ⟨g6,0,none⟩ (.int .i64 6)).setCell ⟨g6,1,none⟩ (.int .i64 0)).setCell ⟨g6,2,none⟩ (.string t.t.text)).setCell ⟨g6,3,none⟩ (.slice none 0 0))=w9 at *;clear E8;have E10:=E9;clear E9;obtain⟨qy,qx,qv,qm,qu,qt,qs,qr,qp⟩:=(E10.out.bx (g6,(Pz.lf 6 0 t.t.text)) (by simp)).1;dsimp only[Pz.lf,len] at qy qx qv qm qu qt qs qr qp;obtain⟨qL,qK,qJ,qB,qI,qH,qG,qF,qE⟩:=(E10.out.bx (w.heap.size,Pz.z0) (by simp)).1;dsimp only[Pz.z0,len] at qL qK qJ qB qI qH qG qF qE;have c1:=E10.out.st.c1;have f1:=E10.out.st.f1;have slt:=E10.out.st.lt;have nx:sb≠g6:=(by have:=(E10.out.bx (g6,(Pz.lf 6 0 t.t.text)) (by simp)).2;have:=E10.out.lt;dsimp only at *;omega);have nr:sb≠w.heap.size:=(by have:=E10.out.lt;omega);have hx0:w.heap.size≠g6:=fun q=>(List.pairwise_cons.1 E10.out.nd).1 (w.heap.size,Pz.z0) (by simp) q.symm;have E9:=hid ((E10.out.grown (E10.out.st.step hi).1 (qj _ _ _ _ _) (E10.out.st.step hi).2).leaf 6 0 t.t.text);go_wp2;refine bodyPost_ret (v:=.tuple #[.agg #[.int .i64 6,.int .i64 0,.string t.t.text,.slice none 0 0],.bool true]) ?_ rfl ?_
    ·rw [results_cell_tmp rfl];go_simp
    ·rw [LT.out];exact⟨(Pz.lf 6 0 t.t.text),rfl,(E9.out.tail).done4 (Pz.lf 6 0 t.t.text) (some (Pz.lf 6 0 t.t.text)) (fun x hx=>by cases hx;exact⟨rfl,by simp⟩) rfl rfl rfl rfl⟩
   ·
    have ha':zv t.t.text=false:=(by simpa using ha);rw[if_neg ha] at LT;rw[ha'];dsimp only at LT;clear ha ha';obtain⟨qy,qx,qv,qm,qu,qt,qs,qr,qp⟩:=(E8.out.bx (g6,Pz.z0) (by simp)).1;dsimp only[Pz.z0,len] at qy qx qv qm qu qt qs qr qp;obtain⟨qL,qK,qJ,qB,qI,qH,qG,qF,qE⟩:=(E8.out.bx (w.heap.size,Pz.z0) (by simp)).1;dsimp only[Pz.z0,len] at qL qK qJ qB qI qH qG qF qE;go_wp2;refine bodyPost_ret (v:=.tuple #[.agg #[.int .i64 0,.int .i64 0,.string ⟨#[]⟩,.slice none 0 0],.bool false]) ?_ rfl ?_
    ·rw [results_cell_tmp rfl];go_simp
    ·rw [LT.out];exact⟨Pz.z0,rfl,(E8.out.tail).done4 Pz.z0 none (fun x hx=>by cases hx) rfl rfl rfl rfl⟩
  ·
   have k1:(t.t.kind==1)=false:=(by simp[hk]);have k2:(t.t.kind==2)=true:=(by simp[hk]);have k3:(t.t.kind==3)=false:=(by simp[hk]);have k4:(t.t.kind==4)=false:=(by simp[hk]);rw[J4 hk] at LT;dsimp only at LT;clear hk h1 h2 h3;go_upto_region 17 with (fail);have E4:=hid (E3.out.box (Pz.lf 1 t.t.num ⟨#[]⟩) #[.int .i64 1,.int .i64 t.t.num,.string ⟨#[]⟩,.slice none 0 0] rfl 24);generalize hg4:w3.heap.size=g4 at *;generalize w3.alloc (.cells #[.int .i64 1,.int .i64 t.t.num,.string ⟨#[]⟩,.slice none 0 0] 24)=w4 at *;clear E3 hg4 t0 t1 t2 tl;obtain⟨qy,qx,qv,qm,qu,qt,qs,qr,qp⟩:=(E4.out.bx (g4,(Pz.lf 1 t.t.num ⟨#[]⟩)) (by simp)).1;dsimp only[Pz.lf,len] at qy qx qv qm qu qt qs qr qp;obtain⟨qL,qK,qJ,qB,qI,qH,qG,qF,qE⟩:=(E4.out.bx (w.heap.size,Pz.z0) (by simp)).1;dsimp only[Pz.z0,len] at qL qK qJ qB qI qH qG qF qE;have c1:=E4.out.st.c1;have f1:=E4.out.st.f1;have slt:=E4.out.st.lt;have nx:sb≠g4:=(by have:=(E4.out.bx (g4,(Pz.lf 1 t.t.num ⟨#[]⟩)) (by simp)).2;have:=E4.out.lt;dsimp only at *;omega);have nr:sb≠w.heap.size:=(by have:=E4.out.lt;omega);have hx0:w.heap.size≠g4:=fun q=>(List.pairwise_cons.1 E4.out.nd).1 (w.heap.size,Pz.z0) (by simp) q.symm;have E9:=hid ((E4.out.grown (E4.out.st.step hi).1 (qj _ _ _ _ _) (E4.out.st.step hi).2).leaf 1 t.t.num ⟨#[]⟩);go_wp2;refine bodyPost_ret (v:=.tuple #[.agg #[.int .i64 1,.int .i64 t.t.num,.string ⟨#[]⟩,.slice none 0 0],.bool true]) ?_ rfl ?_
   ·rw [results_cell_tmp rfl];go_simp
   ·rw [LT.out];exact⟨(Pz.lf 1 t.t.num ⟨#[]⟩),rfl,(E9.out.tail).done4 (Pz.lf 1 t.t.num ⟨#[]⟩) (some (Pz.lf 1 t.t.num ⟨#[]⟩)) (fun x hx=>by cases hx;exact⟨rfl,by simp⟩) rfl rfl rfl rfl⟩
  ·
   have k1:(t.t.kind==1)=false:=(by simp[hk]);have k2:(t.t.kind==2)=false:=(by simp[hk]);have k3:(t.t.kind==3)=true:=(by simp[hk]);have k4:(t.t.kind==4)=false:=(by simp[hk]);rw[QE hk] at LT;dsimp only at LT;clear hk h1 h2 h3;go_upto_region 17 with (fail);have E4:=hid (E3.out.box (Pz.lf 2 t.t.num ⟨#[]⟩) #[.int .i64 2,.int .i64 t.t.num,.string ⟨#[]⟩,.slice none 0 0] rfl 24);generalize hg4:w3.heap.size=g4 at *;generalize w3.alloc (.cells #[.int .i64 2,.int .i64 t.t.num,.string ⟨#[]⟩,.slice none 0 0] 24)=w4 at *;clear E3 hg4 t0 t1 t2 tl;obtain⟨qy,qx,qv,qm,qu,qt,qs,qr,qp⟩:=(E4.out.bx (g4,(Pz.lf 2 t.t.num ⟨#[]⟩)) (by simp)).1;dsimp only[Pz.lf,len] at qy qx qv qm qu qt qs qr qp;obtain⟨qL,qK,qJ,qB,qI,qH,qG,qF,qE⟩:=(E4.out.bx (w.heap.size,Pz.z0) (by simp)).1;dsimp only[Pz.z0,len] at qL qK qJ qB qI qH qG qF qE;have c1:=E4.out.st.c1;have f1:=E4.out.st.f1;have slt:=E4.out.st.lt;have nx:sb≠g4:=(by have:=(E4.out.bx (g4,(Pz.lf 2 t.t.num ⟨#[]⟩)) (by simp)).2;have:=E4.out.lt;dsimp only at *;omega);have nr:sb≠w.heap.size:=(by have:=E4.out.lt;omega);have hx0:w.heap.size≠g4:=fun q=>(List.pairwise_cons.1 E4.out.nd).1 (w.heap.size,Pz.z0) (by simp) q.symm;have E9:=hid ((E4.out.grown (E4.out.st.step hi).1 (qj _ _ _ _ _) (E4.out.st.step hi).2).leaf 2 t.t.num ⟨#[]⟩);go_wp2;refine bodyPost_ret (v:=.tuple #[.agg #[.int .i64 2,.int .i64 t.t.num,.string ⟨#[]⟩,.slice none 0 0],.bool true]) ?_ rfl ?_
   ·rw [results_cell_tmp rfl];go_simp
   ·rw [LT.out];exact⟨(Pz.lf 2 t.t.num ⟨#[]⟩),rfl,(E9.out.tail).done4 (Pz.lf 2 t.t.num ⟨#[]⟩) (some (Pz.lf 2 t.t.num ⟨#[]⟩)) (fun x hx=>by cases hx;exact⟨rfl,by simp⟩) rfl rfl rfl rfl⟩
  ·
   have k1:(t.t.kind==1)=false:=(by simp[hk]);have k2:(t.t.kind==2)=false:=(by simp[hk]);have k3:(t.t.kind==3)=false:=(by simp[hk]);have k4:(t.t.kind==4)=true:=(by simp[hk]);rw[vY hk] at LT;dsimp only at LT;clear hk h1 h2 h3;go_upto_region 17 with (fail);have E4:=hid (E3.out.box (Pz.lf 3 t.t.num ⟨#[]⟩) #[.int .i64 3,.int .i64 t.t.num,.string ⟨#[]⟩,.slice none 0 0] rfl 24);generalize hg4:w3.heap.size=g4 at *;generalize w3.alloc (.cells #[.int .i64 3,.int .i64 t.t.num,.string ⟨#[]⟩,.slice none 0 0] 24)=w4 at *;clear E3 hg4 t0 t1 t2 tl;obtain⟨qy,qx,qv,qm,qu,qt,qs,qr,qp⟩:=(E4.out.bx (g4,(Pz.lf 3 t.t.num ⟨#[]⟩)) (by simp)).1;dsimp only[Pz.lf,len] at qy qx qv qm qu qt qs qr qp;obtain⟨qL,qK,qJ,qB,qI,qH,qG,qF,qE⟩:=(E4.out.bx (w.heap.size,Pz.z0) (by simp)).1;dsimp only[Pz.z0,len] at qL qK qJ qB qI qH qG qF qE;have c1:=E4.out.st.c1;have f1:=E4.out.st.f1;have slt:=E4.out.st.lt;have nx:sb≠g4:=(by have:=(E4.out.bx (g4,(Pz.lf 3 t.t.num ⟨#[]⟩)) (by simp)).2;have:=E4.out.lt;dsimp only at *;omega);have nr:sb≠w.heap.size:=(by have:=E4.out.lt;omega);have hx0:w.heap.size≠g4:=fun q=>(List.pairwise_cons.1 E4.out.nd).1 (w.heap.size,Pz.z0) (by simp) q.symm;have E9:=hid ((E4.out.grown (E4.out.st.step hi).1 (qj _ _ _ _ _) (E4.out.st.step hi).2).leaf 3 t.t.num ⟨#[]⟩);go_wp2;refine bodyPost_ret (v:=.tuple #[.agg #[.int .i64 3,.int .i64 t.t.num,.string ⟨#[]⟩,.slice none 0 0],.bool true]) ?_ rfl ?_
   ·rw [results_cell_tmp rfl];go_simp
   ·rw [LT.out];exact⟨(Pz.lf 3 t.t.num ⟨#[]⟩),rfl,(E9.out.tail).done4 (Pz.lf 3 t.t.num ⟨#[]⟩) (some (Pz.lf 3 t.t.num ⟨#[]⟩)) (fun x hx=>by cases hx;exact⟨rfl,by simp⟩) rfl rfl rfl rfl⟩
  ·
   have k1:(t.t.kind==1)=false:=(by simp[hk]);have k2:(t.t.kind==2)=false:=(by simp[hk]);have k3:(t.t.kind==3)=false:=(by simp[hk]);have k4:(t.t.kind==4)=false:=(by simp[hk]);rw[QF hk] at LT;dsimp only at LT;clear hk;go_upto_region 6 with (fail);have E4:=hid (E3.out.box Pz.z0 #[.int .i64 0,.int .i64 0,.string ⟨#[]⟩,.slice none 0 0] rfl 24);generalize hg6:w3.heap.size=g6 at *;generalize w3.alloc (.cells #[.int .i64 0,.int .i64 0,.string ⟨#[]⟩,.slice none 0 0] 24)=w5 at *;clear E3 hg6;obtain⟨qy,qx,qv,qm,qu,qt,qs,qr,qp⟩:=(E4.out.bx (g6,Pz.z0) (by simp)).1;dsimp only[Pz.z0,len] at qy qx qv qm qu qt qs qr qp;obtain⟨qL,qK,qJ,qB,qI,qH,qG,qF,qE⟩:=(E4.out.bx (w.heap.size,Pz.z0) (by simp)).1;dsimp only[Pz.z0,len] at qL qK qJ qB qI qH qG qF qE;go_wp2;refine bodyPost_ret (v:=.tuple #[.agg #[.int .i64 0,.int .i64 0,.string ⟨#[]⟩,.slice none 0 0],.bool false]) ?_ rfl ?_
   ·rw [results_cell_tmp rfl];go_simp
   ·rw [LT.out];exact⟨Pz.z0,rfl,(E4.out.tail).done4 Pz.z0 none (fun x hx=>by cases hx) rfl rfl rfl rfl⟩
 ·have hi':(L.length:Int)≤(i:Int):=by omega
  go_enter Tryz.func209,Tryz.ntmps209;go_wp2_with fail;have E1:=hid (E0.out.box Pz.z0 #[.int .i64 0,.int .i64 0,.string ⟨#[]⟩,.slice none 0 0] rfl 24);generalize w.alloc (.cells #[.int .i64 0,.int .i64 0,.string ⟨#[]⟩,.slice none 0 0] 24)=w1 at *;clear E0;have c0:=E1.out.st.c0;have c1:=E1.out.st.c1;have qD:=E1.out.st.lt
  go_quiet (fail)
  have B2:Hid (Below w1.heap.size w1 (w1.drewN nq)):=below_drewN (Below.refl _ _) _;have E2:=hid (E1.out.below B2.out);generalize w1.drewN nq=w2 at *;clear E1 c0 c1 qD B2;obtain⟨qy,qx,qv,qm,qu,qt,qs,qr,qp⟩:=(E2.out.bx (w.heap.size,Pz.z0) (by simp)).1;dsimp only[Pz.z0,len] at qy qx qv qm qu qt qs qr qp;go_wp2;refine bodyPost_ret (v:=.tuple #[.agg #[.int .i64 0,.int .i64 0,.string ⟨#[]⟩,.slice none 0 0],.bool false]) ?_ rfl ?_
  ·rw [results_cell_tmp rfl];go_simp
  ·rw [J3 (by omega)];exact⟨Pz.z0,rfl,E2.out.done4 Pz.z0 none (fun x hx=>by cases hx) rfl rfl rfl rfl⟩
namespace Pz
def xN(op:Int)(p:Option Addr)(cap:Nat)(l:List Ch):Ch:=⟨match p with|some a=>a.block|none=>0,0,⟨op,0,⟨#[]⟩,p,cap⟩,qC l⟩
theorem rowC_snoc(l:List Ch)(c:Ch):jL (l++[c])=jL l++xp c:=by unfold jL;simp
structure EnvR (w W:World) (sb:Nat) (St:World→Prop) (gv:List Ch) (bs:List (Nat× Ch)) (ts:List Ch) (t:TypeId) (p:Option Addr) (cap:Nat) (l:List Ch):Prop where
 env:Env w W sb St gv bs ts
 own:W.ownsRow w.heap.size t 4 (.slice p l.length cap) l.length (jL l)
 bn:∀g,(Value.slice p l.length cap).ownBlock=some g→(∀q∈ bs,q.1≠g)∧∀c∈ ts,FNe g c.k c.b
 mem:∀c∈ l,c∈ ts
variable {w W W':World} {sb:Nat} {St:World→Prop} {gv:List Ch} {bs:List (Nat× Ch)} {ts:List Ch} {t:TypeId} {p:Option Addr} {cap:Nat} {l:List Ch}
theorem EnvR.init(E:Env w W sb St gv bs ts)(t:TypeId):EnvR w W sb St gv bs ts t none 0 [] :=
 ⟨E,⟨rfl,.inl ⟨rfl,rfl⟩⟩,(fun g h=>by cases h),(fun c h=>by cases h)⟩
theorem EnvR.gl(R:EnvR w W sb St gv bs ts t p cap l){g:Nat}(h:(Value.slice p l.length cap).ownBlock=some g):w.heap.size≤g∧g < W.heap.size:=R.own.lt g h
theorem ob_ne{v:Value}{k:Nat}(h:∀g,v.ownBlock=some g→g≠k):v.ownBlock=none∨v.ownBlock≠some k:=by
 cases hv:v.ownBlock with
 | none=>exact .inl rfl
 | some g=>right;intro e;exact h g hv (Option.some.inj e)
theorem EnvR.below(R:EnvR w W sb St gv bs ts t p cap l)(hb:Below W.heap.size W W'):EnvR w W' sb St gv bs ts t p cap l :=
 ⟨R.env.below hb,R.own.kept (zF hb none) (by cases hv:(Value.slice p l.length cap).ownBlock<;>simp),R.bn,R.mem⟩
theorem EnvR.grown{St':World→Prop}(R:EnvR w W sb St gv bs ts t p cap l)(hs:St' W')(hc:∀W W':World,St' W→Below (sb+1) W W'→St' W')(hg:W.grownBy W' (some sb)):EnvR w W' sb St' gv bs ts t p cap l :=
 ⟨R.env.grown hs hc hg,R.own.kept hg (ob_ne fun g h=>by have:=(R.gl h).1;have:=R.env.lt;omega),R.bn,R.mem⟩
theorem EnvR.go{St':World→Prop}{given:List Ch}{c:Ch}{o:Option Ch}(R:EnvR w W sb St gv bs ts t p cap l)(h:Fin W sb given St' o c W')(hc:∀W W':World,St' W→Below (sb+1) W W'→St' W')(hgiv:∀d∈ given,d∈ ts) :
 ∃ts',EnvR w W' sb St' gv bs ts' t p cap l∧(∀x,o=some x→nr c=x∧c∈ ts')∧∀d∈ ts,d∈ ts':=by
 have G:=R.grown h.2.1 hc h.2.2;cases o with
 | none=>exact⟨ts,G,(fun x hx=>by cases hx),fun d hd=>hd⟩
 | some x =>
   obtain⟨h1,h2⟩:=R.env.call h hc hgiv;obtain⟨-,-,-,h4⟩:=h.1 x rfl;refine⟨c :: ts,⟨h2,G.own,fun g hg=>⟨(R.bn g hg).1,fun d hd=>?_⟩,fun d hd=>List.mem_cons_of_mem _ (R.mem d hd)⟩,(fun y hy=>by cases hy;exact⟨h1,by simp⟩),fun d hd=>by simp[hd]⟩;rcases List.mem_cons.1 hd with e|hd
   ·rw[e];exact h4 g (R.gl hg).2 fun q hq=>(R.bn g hg).2 q (hgiv q hq)
   ·exact(R.bn g hg).2 d hd
theorem EnvR.box(R:EnvR w W sb St gv bs ts t p cap l)(c:Ch)(cells:Array Value)(h:cells=(xp c).toArray)(ty:TypeId):EnvR w (W.alloc (.cells cells ty)) sb St gv ((W.heap.size,c) :: bs) ts t p cap l:=by
 have B:=R.below ((Below.refl W.heap.size W).alloc (Nat.le_refl _) (.cells cells ty));refine⟨R.env.box c cells h ty,B.own,fun g hg=>⟨fun q hq=>?_,(R.bn g hg).2⟩,R.mem⟩;rcases List.mem_cons.1 hq with rfl|hq
 ·have:=(R.gl hg).2;show W.heap.size≠g;omega
 ·exact(R.bn g hg).1 q hq
theorem EnvR.tail{q:Nat× Ch}(R:EnvR w W sb St gv (q :: bs) ts t p cap l):EnvR w W sb St gv bs ts t p cap l :=
 ⟨R.env.tail,R.own,fun g hg=>⟨fun q hq=>(R.bn g hg).1 q (by simp[hq]),(R.bn g hg).2⟩,R.mem⟩
theorem EnvR.app{k:Nat}{op:Int}{a:Ch}{v:Value}(R:EnvR w W sb St gv ((k,xN op p cap l) :: bs) ts t p cap l)(ha:a∈ ts)(h1:W'.ownsRow w.heap.size t 4 v (l.length+1) (jL l++xp a))(h2:W.grownBy W' (Value.slice p l.length cap).ownBlock)(h3:v.ownBlock=(Value.slice p l.length cap).ownBlock∨v.ownBlock=some W.heap.size) :
 ∃p' cap',v=.slice p' (l.length+1) cap'∧B4 W' k (xN op p cap l)∧EnvR w (W'.setCell ⟨k,3,none⟩ (.slice p' (l.length+1) cap')) sb St gv ((k,xN op p' cap' (l++[a])) :: bs) ts t p' cap' (l++[a]):=by
 have hbox:=R.env.bx (k,xN op p cap l) (by simp)
 have hsl:∃p' cap',v=.slice p' (l.length+1) cap':=by
  rcases h1.2 with ⟨-,h0⟩|⟨g,c,cur,hv,-⟩
  ·omega
  ·exact⟨_,_,hv⟩
 obtain⟨p',cap',rfl⟩:=hsl;have qD:=R.env.ht;have hbs:∀q∈ (k,xN op p cap l) :: bs,B4 W' q.1 q.2:=fun q hq=>(R.env.bx q hq).1.grown h2 (fun e=>((R.bn q.1 e.symm).1 q hq) rfl)
 have htr:∀c∈ ts,ExAt W' c.b c.o c.a c.k:=fun c hc=>by
  cases hv:(Value.slice p l.length cap).ownBlock with
  | none=>rw[hv] at h2;exact(R.env.tr c hc).1.next ⟨h2.os,h2.tape,h2.output,h2.size,fun i hi=>h2.block i hi (by simp)⟩
  | some g=>rw[hv] at h2;exact⟨(R.env.tr c hc).1.1,fat_grown (R.env.tr c hc).1.2 ((R.bn g hv).2 c hc) h2⟩
 have hws:w.heap.size≤W.heap.size:=R.env.gr.size;have hbel:∀B,B≤w.heap.size→Below B W W':=fun B hB=>⟨h2.os,h2.tape,h2.output,h2.size,fun i hi=>h2.block i (by omega) (fun e=>by have:=(R.gl e.symm).1;omega)⟩;have g3:W'.grownBy (W'.setCell ⟨k,3,none⟩ (.slice p' (l.length+1) cap')) (some k):=yZ (p:=⟨k,3,none⟩) (ks _ _) _;have hkw:w.heap.size≤k:=hbox.2;have hk':=(hbs (k,xN op p cap l) (by simp)).lt;dsimp only at hk'
 have hnew:∀g,(Value.slice p' (l.length+1) cap').ownBlock=some g→(∀q∈ (k,xN op p cap l) :: bs,q.1≠g)∧∀c∈ ts,FNe g c.k c.b:=fun g hg=>by
  rcases h3 with e|e
  ·rw[e] at hg;exact R.bn g hg
  ·rw [e] at hg;obtain rfl:=Option.some.inj hg;exact⟨fun q hq=>Nat.ne_of_lt (R.env.bx q hq).1.lt,fun c hc=>FNe.ofLt (R.env.tr c hc).1.2.lt⟩
 refine⟨p',cap',rfl,hbs (k,xN op p cap l) (by simp),⟨?_,?_,?_,?_⟩⟩
 ·refine ⟨R.env.cl _ _ (R.env.cl _ _ R.env.st (hbel (sb+1) (by have:=R.env.lt;omega))) (below_of_gb g3 (by have:=R.env.lt;omega) hk'),R.env.cl,R.env.lt,gb_next (gb_next R.env.gr (hbel _ (Nat.le_refl _))) (below_of_gb g3 hkw hk'),fun q hq=>?_,?_,fun c hc=>?_⟩
  ·rcases List.mem_cons.1 hq with rfl|hq
   ·obtain ⟨c0,c1,c2,c3,f0,f1,f2,f3,lt⟩:=hbs (k,xN op p cap l) (by simp);dsimp only[xN] at c0 c1 c2 c3 f0 f1 f2 f3 lt;refine⟨⟨?_,?_,?_,?_,?_,?_,?_,?_,?_⟩,hkw⟩<;>dsimp only[xN]<;>simp[go_sem,c0,c1,c2,c3,f0,f1,f2,f3,lt,ql]
   ·have hn:=(List.pairwise_cons.1 R.env.nd).1 q hq;exact⟨(hbs q (by simp[hq])).grown g3 (fun e=>hn (Option.some.inj e).symm),(R.env.bx q (by simp[hq])).2⟩
  ·exact List.pairwise_cons.2 ⟨fun q hq=>(List.pairwise_cons.1 R.env.nd).1 q hq,(List.pairwise_cons.1 R.env.nd).2⟩
  ·have ht:=R.env.tr c hc;refine⟨⟨ht.1.1,fat_grown (htr c hc).2 (ht.2.2.1 (k,xN op p cap l) (by simp)) g3⟩,ht.2.1,(fun q hq=>?_),ht.2.2.2⟩;rcases List.mem_cons.1 hq with rfl|hq
   ·exact ht.2.2.1 (k,xN op p cap l) (by simp)
   ·exact ht.2.2.1 q (by simp[hq])
 ·have h4:=h1.kept g3 (ob_ne fun g hg=>fun e=>(hnew g hg).1 (k,xN op p cap l) (by simp) e.symm);rw[List.length_append,rowC_snoc];exact h4
 ·intro g hg;rw[List.length_append] at hg;refine⟨fun q hq=>?_,(hnew g hg).2⟩;rcases List.mem_cons.1 hq with rfl|hq
  ·exact(hnew g hg).1 (k,xN op p cap l) (by simp)
  ·exact(hnew g hg).1 q (by simp[hq])
 ·intro c hc;rcases List.mem_append.1 hc with hc|hc
  ·exact R.mem c hc
  ·simp only[List.mem_cons,List.not_mem_nil,or_false] at hc;rw[hc];exact ha
theorem EnvR.node(R:EnvR w W sb St gv bs ts t p cap l)(op:Int)(hl:l≠[]):Env w W sb St gv bs (xN op p cap l :: ts):=by
 have hsl:∃g,p=some ⟨g,0,none⟩:=by
  rcases R.own.2 with ⟨-,h0⟩|⟨g,c,cur,hv,-⟩
  ·exact absurd (List.eq_nil_of_length_eq_zero h0) hl
  ·injection hv with e;exact⟨g,e⟩
 obtain⟨g,rfl⟩:=hsl;have hob:(Value.slice (some ⟨g,0,none⟩) l.length cap).ownBlock=some g:=rfl;have hgl:=R.gl hob;have qD:=R.env.lt
 have hr:=(Y9 (w:=W) (B0:=0) (g:=g) (O:=0) l (fun c hx=>⟨(R.env.tr c (R.mem c hx)).1,foge _ _⟩) (fun j u hu=>by
  have h9:=R.own.cells hob j u hu;rw[Nat.zero_add];have e:(⟨g,0,none⟩:Addr).add j=⟨g,j,none⟩:=by by_cases hj:j=0<;>simp[Addr.add,hj]
  rw[e] at h9;exact h9) (Nat.zero_le _)).1
 refine R.env.add _ ⟨fun _=>rfl,hr⟩ (fne_row (fun c hx=>(R.env.tr c (R.mem c hx)).2.1) (by show g≠sb;omega)) (fun q hq=>fne_row (fun c hx=>(R.env.tr c (R.mem c hx)).2.2.1 q hq) (fun e=>(R.bn g hob).1 q hq e.symm)) fun r hr q=>fne_row (fun c hx=>(R.env.tr c (R.mem c hx)).2.2.2 r hr q) (by show g≠r;omega)
theorem nr_xN(op:Int)(p:Option Addr)(cap:Nat)(l:List Ch):nr (xN op p cap l)=tn op (l.map nr):=by
 show(⟨0,0,⟨op,0,⟨#[]⟩,none,0⟩,nrm (qC l)⟩:Ch)=_
 rw[nrm_rowF];rfl
end Pz
end Go.Proofs.YtcejjdmnlejbaaaGreatDoor
