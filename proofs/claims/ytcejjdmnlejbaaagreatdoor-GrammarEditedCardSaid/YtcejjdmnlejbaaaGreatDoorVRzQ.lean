import Derived.Test.YtcejjdmnlejbaaaGreatDoorVRzB
namespace Go.Proofs.YtcejjdmnlejbaaaGreatDoor
open Lib(hid)
set_option linter.unusedVariables false
set_option linter.unusedSimpArgs false
open Go.ChangeShapes Go.WideShapes Go.ChangeAt Go.RowKit
open Go.Deep (BT)
set_option maxHeartbeats 4000000
set_option maxRecDepth 100000
theorem U8(L:List Tk.T4)(i:Nat)(h0:RC 159 L .dj i)(h1:∀j,i < j→j≤L.length→RC 133 L .ex j):RC 133 L .ex i:=by
 intro sb p cap w h;have C0:=hid h0;have C1:=hid h1;clear h0 h1;have hle:=h.2;have hL4:=h.1.ls.1;have E0:Hid (Pz.Env w w sb (jZ sb L p cap i) [] [] []):=Pz.Env.init h (qZ _ _ _ _ _) (jo h) (by intro c hc;cases hc);have PV:Hid (Pz.pv L .ex i=Pz.step L (Pz.pv L) .ex i):=Pz.pv_step L .ex i hle;unfold Pz.step at PV;dsimp only at PV;clear h;go_enter Tryz.func133,Tryz.ntmps133;go_wp2_with fail;have E1:=hid (E0.out.box Pz.z0 #[.int .i64 0,.int .i64 0,.string ⟨#[]⟩,.slice none 0 0] rfl 24);generalize w.alloc (.cells #[.int .i64 0,.int .i64 0,.string ⟨#[]⟩,.slice none 0 0] 24)=w2 at *;clear E0;have AD:Pz.Ok L i (Pz.pv L .dj i) 1:=Pz.pv_adv L .dj i hle;refine(C0.out sb p cap w2 E1.out.st).mono ?_;rintro e w4 ⟨c,rfl,hf⟩;have ADc:Hid (Pz.Ok L i (Pz.pv L .dj i) 1):=AD;generalize Pz.pv L .dj i=r0 at *;obtain⟨o,j⟩:=r0;obtain⟨tsE3,hE,hc,qE⟩:=E1.out.go hf (qJ _ _ _ _ _ _) (by intro d hd;cases hd);have E3:=hid hE;have Tc:=hid hc;have Uc:=hid qE;clear hf hE hc qE E1
 try dsimp only
 rw[Pz.bnd_goL] at PV;go_upto_region 2 with (fail);have E5:=hid (E3.out.box c #[.int .i64 c.a.op,.int .i64 c.a.num,.string c.a.name,.slice c.a.ptr (len c.k) c.a.cap] rfl 24);generalize hg7:w4.heap.size=g7 at *;generalize w4.alloc (.cells #[.int .i64 c.a.op,.int .i64 c.a.num,.string c.a.name,.slice c.a.ptr (len c.k) c.a.cap] 24)=w6 at *;clear E3 hg7;cases o with
 | none =>
   rw[Pz.goL_none] at PV;go_wp2_with fail;refine(qT sb L p cap j _ _ E5.out.st).mono ?_;rintro e w9 ⟨rfl,hb⟩;have E8:=hid (E5.out.below hb);clear hb E5;obtain⟨qp,qo,qn,qg,qm,ql,qk,qj,qi⟩:=(E8.out.bx (g7,c) (by simp)).1;dsimp only at qp qo qn qg qm ql qk qj qi;obtain⟨qA,qz,qy,qs,qx,qw,qv,qu,qt⟩:=(E8.out.bx (w.heap.size,Pz.z0) (by simp)).1;dsimp only[Pz.z0,len] at qA qz qy qs qx qw qv qu qt;go_wp2;refine bodyPost_ret (v:=.agg #[.int .i64 c.a.op,.int .i64 c.a.num,.string c.a.name,.slice c.a.ptr (len c.k) c.a.cap]) ?_ rfl ?_
   ·rw [qd rfl];go_simp
   ·rw [PV.out];exact⟨c,rfl,(E8.out.tail).done4 c none (fun x hx=>by cases hx) rfl rfl rfl rfl⟩
 | some x =>
   rw[Pz.goL_some] at PV;have hij:=ADc.out.2.2 rfl;dsimp only at hij;go_wp2_with fail
   by_cases hw:Pz.isw L j Pz.wImplies=true
   ·
    have hj:=Pz.isw_lt hw;rw[if_pos hw] at PV;refine(yi sb L p cap j _ _ E5.out.st hw).mono ?_;rintro e w102 ⟨rfl,hs,hg⟩;have E101:=hid (E5.out.grown hs (qZ _ _ _ _ _) hg);clear hs hg E5;clear hw;go_wp2_with fail;have AD:Pz.Ok L (j+1) (Pz.pv L .ex (j+1)) 1:=Pz.pv_adv L .ex (j+1) hj;have ED:=hid (E101.out.below ((Below.refl _ _).drew));have CC:=hid (C1.out (j+1) (by omega) hj sb p cap _ ED.out.st);have AD9:Hid (Pz.Ok L (j+1) (Pz.pv L .ex (j+1)) 1):=AD;generalize Pz.pv L .ex (j+1)=r0 at *;obtain⟨o2,k⟩:=r0;rw[Pz.bnd_goL] at PV;obtain⟨qp,qo,qn,qg,qm,ql,qk,qj,qi⟩:=(E101.out.bx (g7,c) (by simp)).1;dsimp only at qp qo qn qg qm ql qk qj qi;obtain⟨qA,qz,qy,qs,qx,qw,qv,qu,qt⟩:=(E101.out.bx (w.heap.size,Pz.z0) (by simp)).1;dsimp only[Pz.z0,len] at qA qz qy qs qx qw qv qu qt
    go_region_with (go_at_call 133;refine CC.out.mono ?_;rintro e w9 ⟨d,rfl,hf⟩;obtain⟨ts9,hE,hc9,hs9⟩:=ED.out.go hf (qJ _ _ _ _ _ _) (by intro d hd;cases hd);have E9:=hid hE;have Td:=hid hc9;have Ud:=hid hs9;clear hf hE hc9 hs9;obtain⟨n0c0,n0c1,n0c2,n0c3,n0f0,n0f1,n0f2,n0f3,n0l⟩:=(E9.out.bx (g7,c) (by simp)).1;dsimp only at n0c0 n0c1 n0c2 n0c3 n0f0 n0f1 n0f2 n0f3 n0l;obtain⟨n1c0,n1c1,n1c2,n1c3,n1f0,n1f1,n1f2,n1f3,n1l⟩:=(E9.out.bx (w.heap.size,Pz.z0) (by simp)).1;dsimp only[Pz.z0,len] at n1c0 n1c1 n1c2 n1c3 n1f0 n1f1 n1f2 n1f3 n1l;skip)
    all_goals
     cases o2 with
     | none =>
       go_wp2;refine bodyPost_ret (v:=.agg #[.int .i64 22,.int .i64 0,.string ⟨#[]⟩,.slice (some ⟨w9.heap.size,0,none⟩) 2 2]) ?_ rfl ?_
       ·rw [qd rfl];go_simp
       ·rw [PV.out,Pz.goL_none];exact⟨(⟨w9.heap.size,0,⟨22,0,⟨#[]⟩,some ⟨w9.heap.size,0,none⟩,2⟩,qH [c,d]⟩:Ch),rfl,(E9.out.tail).done_node [c,d] 22 2 rfl none (fun x hx=>by cases hx) _ rfl _⟩
     | some y =>
       go_wp2;refine bodyPost_ret (v:=.agg #[.int .i64 22,.int .i64 0,.string ⟨#[]⟩,.slice (some ⟨w9.heap.size,0,none⟩) 2 2]) ?_ rfl ?_
       ·rw [qd rfl];go_simp
       ·rw [PV.out,Pz.goL_some];exact⟨(⟨w9.heap.size,0,⟨22,0,⟨#[]⟩,some ⟨w9.heap.size,0,none⟩,2⟩,qH [c,d]⟩:Ch),rfl,(E9.out.tail).done_node [c,d] 22 2 rfl (some (Pz.tn 22 [x,y])) (fun y hy=>by cases hy;exact⟨(by intro q hq;simp only[List.mem_cons,List.not_mem_nil,or_false] at hq;rcases hq with e9|e9;rw[e9];exact(Ud.out _ (Tc.out x rfl).2);rw[e9];exact(Td.out y rfl).2),(by rw[List.map_cons,List.map_cons,List.map_nil,(Tc.out x rfl).1,(Td.out y rfl).1])⟩) _ rfl _⟩
   ·
    have hw':Pz.isw L j Pz.wImplies=false:=(by simpa using hw);rw[if_neg hw] at PV;refine(yz sb L p cap j _ _ E5.out.st hw').mono ?_;rintro e w202 ⟨rfl,hb⟩;have E201:=hid (E5.out.below hb);clear hb E5;obtain⟨qp,qo,qn,qg,qm,ql,qk,qj,qi⟩:=(E201.out.bx (g7,c) (by simp)).1;dsimp only at qp qo qn qg qm ql qk qj qi;obtain⟨qA,qz,qy,qs,qx,qw,qv,qu,qt⟩:=(E201.out.bx (w.heap.size,Pz.z0) (by simp)).1;dsimp only[Pz.z0,len] at qA qz qy qs qx qw qv qu qt;go_wp2;refine bodyPost_ret (v:=.agg #[.int .i64 c.a.op,.int .i64 c.a.num,.string c.a.name,.slice c.a.ptr (len c.k) c.a.cap]) ?_ rfl ?_
    ·rw [qd rfl];go_simp
    ·rw [PV.out];exact⟨c,rfl,(E201.out.tail).done4 c (some x) (fun y hy=>by cases hy;exact⟨(Tc.out x rfl).1,(Tc.out x rfl).2⟩) rfl rfl rfl rfl⟩
theorem U3(L:List Tk.T4)(i:Nat)(h0:RC 201 L .cm i)(h1:∀j,i < j→j≤L.length→RC 193 L .ng j):RC 193 L .ng i:=by
 intro sb p cap w h;have C0:=hid h0;have C1:=hid h1;clear h0 h1;have hle:=h.2;have hL4:=h.1.ls.1;have E0:Hid (Pz.Env w w sb (jZ sb L p cap i) [] [] []):=Pz.Env.init h (qZ _ _ _ _ _) (jo h) (by intro c hc;cases hc);have PV:Hid (Pz.pv L .ng i=Pz.step L (Pz.pv L) .ng i):=Pz.pv_step L .ng i hle;unfold Pz.step at PV;dsimp only at PV;clear h;go_enter Tryz.func193,Tryz.ntmps193;go_wp2_with fail;have E1:=hid (E0.out.box Pz.z0 #[.int .i64 0,.int .i64 0,.string ⟨#[]⟩,.slice none 0 0] rfl 24);generalize w.alloc (.cells #[.int .i64 0,.int .i64 0,.string ⟨#[]⟩,.slice none 0 0] 24)=w2 at *;clear E0
 by_cases hw:Pz.isw L i Pz.wNot=true
 ·
  have hj:=Pz.isw_lt hw;rw[if_pos hw] at PV;refine(yi sb L p cap i _ _ E1.out.st hw).mono ?_;rintro e w102 ⟨rfl,hs,hg⟩;have E101:=hid (E1.out.grown hs (qZ _ _ _ _ _) hg);clear hs hg E1;go_wp2_with fail;have AD:Pz.Ok L (i+1) (Pz.pv L .ng (i+1)) 1:=Pz.pv_adv L .ng (i+1) hj;refine(C1.out (i+1) (by omega) hj sb p cap w102 E101.out.st).mono ?_;rintro e w104 ⟨c,rfl,hf⟩;have ADc:Hid (Pz.Ok L (i+1) (Pz.pv L .ng (i+1)) 1):=AD;generalize Pz.pv L .ng (i+1)=r0 at *;obtain⟨o,k⟩:=r0;obtain⟨tsE103,hE,hc,qE⟩:=E101.out.go hf (qJ _ _ _ _ _ _) (by intro d hd;cases hd);have E103:=hid hE;have Tc:=hid hc;have Uc:=hid qE;clear hf hE hc qE E101
  try dsimp only
  rw[Pz.bnd_goL] at PV;obtain⟨qp,qo,qn,qg,qm,ql,qk,qj,qi⟩:=(E103.out.bx (w.heap.size,Pz.z0) (by simp)).1;dsimp only[Pz.z0,len] at qp qo qn qg qm ql qk qj qi;cases o with
  | none =>
    go_wp2;refine bodyPost_ret (v:=.agg #[.int .i64 19,.int .i64 0,.string ⟨#[]⟩,.slice (some ⟨w104.heap.size,0,none⟩) 1 1]) ?_ rfl ?_
    ·rw [qd rfl];go_simp
    ·rw [PV.out,Pz.goL_none];exact⟨(⟨w104.heap.size,0,⟨19,0,⟨#[]⟩,some ⟨w104.heap.size,0,none⟩,1⟩,qH [c]⟩:Ch),rfl,(E103.out).done_node [c] 19 1 rfl none (fun x hx=>by cases hx) _ rfl _⟩
  | some x =>
    go_wp2;refine bodyPost_ret (v:=.agg #[.int .i64 19,.int .i64 0,.string ⟨#[]⟩,.slice (some ⟨w104.heap.size,0,none⟩) 1 1]) ?_ rfl ?_
    ·rw [qd rfl];go_simp
    ·rw [PV.out,Pz.goL_some];exact⟨(⟨w104.heap.size,0,⟨19,0,⟨#[]⟩,some ⟨w104.heap.size,0,none⟩,1⟩,qH [c]⟩:Ch),rfl,(E103.out).done_node [c] 19 1 rfl (some (Pz.tn 19 [x])) (fun y hy=>by cases hy;exact⟨(by intro q hq;simp only[List.mem_cons,List.not_mem_nil,or_false] at hq;rw[hq];exact(Tc.out x rfl).2),(by rw[List.map_cons,List.map_nil,(Tc.out x rfl).1])⟩) _ rfl _⟩
 ·
  have hw':Pz.isw L i Pz.wNot=false:=by simpa using hw
  rw[if_neg hw] at PV;refine(yz sb L p cap i _ _ E1.out.st hw').mono ?_;rintro e w202 ⟨rfl,hb⟩;have E201:=hid (E1.out.below hb);clear hb E1;go_wp2_with fail;have AD:Pz.Ok L i (Pz.pv L .cm i) 1:=Pz.pv_adv L .cm i hle;refine(C0.out sb p cap w202 E201.out.st).mono ?_;rintro e w204 ⟨c,rfl,hf⟩;have ADc:Hid (Pz.Ok L i (Pz.pv L .cm i) 1):=AD;generalize Pz.pv L .cm i=r0 at *;obtain⟨o,k⟩:=r0;obtain⟨tsE203,hE,hc,qE⟩:=E201.out.go hf (qJ _ _ _ _ _ _) (by intro d hd;cases hd);have E203:=hid hE;have Tc:=hid hc;have Uc:=hid qE;clear hf hE hc qE E201
  try dsimp only
  obtain⟨qp,qo,qn,qg,qm,ql,qk,qj,qi⟩:=(E203.out.bx (w.heap.size,Pz.z0) (by simp)).1;dsimp only[Pz.z0,len] at qp qo qn qg qm ql qk qj qi;go_wp2;refine bodyPost_ret (v:=.agg #[.int .i64 c.a.op,.int .i64 c.a.num,.string c.a.name,.slice c.a.ptr (len c.k) c.a.cap]) ?_ rfl ?_
  ·rw [qd rfl];go_simp
  ·rw [PV.out];exact⟨c,rfl,(E203.out).done4 c o Tc.out rfl rfl rfl rfl⟩
theorem Ui(L : List Tk.T4)(i:Nat)(h0:RC 205 L .sm i)(h1:∀j,i < j→j≤L.length→RC 205 L .sm j):RC 201 L .cm i:=by
 intro sb p cap w h;have C0:=hid h0;have C1:=hid h1;clear h0 h1;have hle:=h.2;have hL4:=h.1.ls.1;have E0:Hid (Pz.Env w w sb (jZ sb L p cap i) [] [] []):=Pz.Env.init h (qZ _ _ _ _ _) (jo h) (by intro c hc;cases hc);have PV:Hid (Pz.pv L .cm i=Pz.step L (Pz.pv L) .cm i):=Pz.pv_step L .cm i hle;unfold Pz.step at PV;dsimp only at PV;clear h;go_enter Tryz.func201,Tryz.ntmps201;go_wp2_with fail;have E1:=hid (E0.out.box Pz.z0 #[.int .i64 0,.int .i64 0,.string ⟨#[]⟩,.slice none 0 0] rfl 24);generalize w.alloc (.cells #[.int .i64 0,.int .i64 0,.string ⟨#[]⟩,.slice none 0 0] 24)=w2 at *;clear E0;have AD:Pz.Ok L i (Pz.pv L .sm i) 1:=Pz.pv_adv L .sm i hle;refine(C0.out sb p cap w2 E1.out.st).mono ?_;rintro e w4 ⟨c,rfl,hf⟩;have ADc:Hid (Pz.Ok L i (Pz.pv L .sm i) 1):=AD;generalize Pz.pv L .sm i=r0 at *;obtain⟨o,j⟩:=r0;obtain⟨tsE3,hE,hc,qE⟩:=E1.out.go hf (qJ _ _ _ _ _ _) (by intro d hd;cases hd);have E3:=hid hE;have Tc:=hid hc;have Uc:=hid qE;clear hf hE hc qE E1
 try dsimp only
 rw[Pz.bnd_goL] at PV;go_upto_region 2 with (fail);have E5:=hid (E3.out.box c #[.int .i64 c.a.op,.int .i64 c.a.num,.string c.a.name,.slice c.a.ptr (len c.k) c.a.cap] rfl 24);generalize hg7:w4.heap.size=g7 at *;generalize w4.alloc (.cells #[.int .i64 c.a.op,.int .i64 c.a.num,.string c.a.name,.slice c.a.ptr (len c.k) c.a.cap] 24)=w6 at *;clear E3 hg7;cases o with
 | none =>
   rw[Pz.goL_none] at PV;go_wp2_with fail;refine(qT sb L p cap j _ _ E5.out.st).mono ?_;rintro e w9 ⟨rfl,hb⟩;have E8:=hid (E5.out.below hb);clear hb E5;go_wp2_with fail;refine(qT sb L p cap j _ _ E8.out.st).mono ?_;rintro e w11 ⟨rfl,hb⟩;have E10:=hid (E8.out.below hb);clear hb E8;go_wp2_with fail;refine(qT sb L p cap j _ _ E10.out.st).mono ?_;rintro e w13 ⟨rfl,hb⟩;have E12:=hid (E10.out.below hb);clear hb E10;go_wp2_with fail;refine(qT sb L p cap j _ _ E12.out.st).mono ?_;rintro e w15 ⟨rfl,hb⟩;have E14:=hid (E12.out.below hb);clear hb E12;obtain⟨qp,qo,qn,qg,qm,ql,qk,qj,qi⟩:=(E14.out.bx (g7,c) (by simp)).1;dsimp only at qp qo qn qg qm ql qk qj qi;obtain⟨qA,qz,qy,qs,qx,qw,qv,qu,qt⟩:=(E14.out.bx (w.heap.size,Pz.z0) (by simp)).1;dsimp only[Pz.z0,len] at qA qz qy qs qx qw qv qu qt;go_wp2;refine bodyPost_ret (v:=.agg #[.int .i64 c.a.op,.int .i64 c.a.num,.string c.a.name,.slice c.a.ptr (len c.k) c.a.cap]) ?_ rfl ?_
   ·rw [qd rfl];go_simp
   ·rw [PV.out];exact⟨c,rfl,(E14.out.tail).done4 c none (fun x hx=>by cases hx) rfl rfl rfl rfl⟩
 | some x =>
   rw[Pz.goL_some] at PV;have hij:=ADc.out.2.2 rfl;dsimp only at hij;go_wp2_with fail
   by_cases hw0:Pz.isw L j Pz.wLess=true
   ·
    have hj:=Pz.isw_lt hw0;rw[if_pos hw0] at PV;refine(yi sb L p cap j _ _ E5.out.st hw0).mono ?_;rintro e w102 ⟨rfl,hs,hg⟩;have E101:=hid (E5.out.grown hs (qZ _ _ _ _ _) hg);clear hs hg E5;clear hw0;go_wp2_with fail;have AD:Pz.Ok L (j+1) (Pz.pv L .sm (j+1)) 1:=Pz.pv_adv L .sm (j+1) hj;have ED:=hid (E101.out.below ((Below.refl _ _).drew));have CC:=hid (C1.out (j+1) (by omega) hj sb p cap _ ED.out.st);have AD9:Hid (Pz.Ok L (j+1) (Pz.pv L .sm (j+1)) 1):=AD;generalize Pz.pv L .sm (j+1)=r0 at *;obtain⟨o2,k⟩:=r0;rw[Pz.bnd_goL] at PV;obtain⟨qp,qo,qn,qg,qm,ql,qk,qj,qi⟩:=(E101.out.bx (g7,c) (by simp)).1;dsimp only at qp qo qn qg qm ql qk qj qi;obtain⟨qA,qz,qy,qs,qx,qw,qv,qu,qt⟩:=(E101.out.bx (w.heap.size,Pz.z0) (by simp)).1;dsimp only[Pz.z0,len] at qA qz qy qs qx qw qv qu qt
    go_region_with (go_at_call 205;refine CC.out.mono ?_;rintro e w9 ⟨d,rfl,hf⟩;obtain⟨ts9,hE,hc9,hs9⟩:=ED.out.go hf (qJ _ _ _ _ _ _) (by intro d hd;cases hd);have E9:=hid hE;have Td:=hid hc9;have Ud:=hid hs9;clear hf hE hc9 hs9;obtain⟨n0c0,n0c1,n0c2,n0c3,n0f0,n0f1,n0f2,n0f3,n0l⟩:=(E9.out.bx (g7,c) (by simp)).1;dsimp only at n0c0 n0c1 n0c2 n0c3 n0f0 n0f1 n0f2 n0f3 n0l;obtain⟨n1c0,n1c1,n1c2,n1c3,n1f0,n1f1,n1f2,n1f3,n1l⟩:=(E9.out.bx (w.heap.size,Pz.z0) (by simp)).1;dsimp only[Pz.z0,len] at n1c0 n1c1 n1c2 n1c3 n1f0 n1f1 n1f2 n1f3 n1l;skip)
    all_goals
     cases o2 with
     | none =>
       go_wp2;refine bodyPost_ret (v:=.agg #[.int .i64 16,.int .i64 0,.string ⟨#[]⟩,.slice (some ⟨w9.heap.size,0,none⟩) 2 2]) ?_ rfl ?_
       ·rw [qd rfl];go_simp
       ·rw [PV.out,Pz.goL_none];exact⟨(⟨w9.heap.size,0,⟨16,0,⟨#[]⟩,some ⟨w9.heap.size,0,none⟩,2⟩,qH [c,d]⟩:Ch),rfl,(E9.out.tail).done_node [c,d] 16 2 rfl none (fun x hx=>by cases hx) _ rfl _⟩
     | some y =>
       go_wp2;refine bodyPost_ret (v:=.agg #[.int .i64 16,.int .i64 0,.string ⟨#[]⟩,.slice (some ⟨w9.heap.size,0,none⟩) 2 2]) ?_ rfl ?_
       ·rw [qd rfl];go_simp
       ·rw [PV.out,Pz.goL_some];exact⟨(⟨w9.heap.size,0,⟨16,0,⟨#[]⟩,some ⟨w9.heap.size,0,none⟩,2⟩,qH [c,d]⟩:Ch),rfl,(E9.out.tail).done_node [c,d] 16 2 rfl (some (Pz.tn 16 [x,y])) (fun y hy=>by cases hy;exact⟨(by intro q hq;simp only[List.mem_cons,List.not_mem_nil,or_false] at hq;rcases hq with e9|e9;rw[e9];exact(Ud.out _ (Tc.out x rfl).2);rw[e9];exact(Td.out y rfl).2),(by rw[List.map_cons,List.map_cons,List.map_nil,(Tc.out x rfl).1,(Td.out y rfl).1])⟩) _ rfl _⟩
   ·
    have hw0':Pz.isw L j Pz.wLess=false:=(by simpa using hw0);rw[if_neg hw0] at PV;refine(yz sb L p cap j _ _ E5.out.st hw0').mono ?_;rintro e w1002 ⟨rfl,hb⟩;have E1001:=hid (E5.out.below hb);clear hb E5;clear hw0 hw0';go_wp2_with fail
    by_cases hw1:Pz.isw L j Pz.wLeq=true
    ·
     have hj:=Pz.isw_lt hw1;rw[if_pos hw1] at PV;refine(yi sb L p cap j _ _ E1001.out.st hw1).mono ?_;rintro e w202 ⟨rfl,hs,hg⟩;have E201:=hid (E1001.out.grown hs (qZ _ _ _ _ _) hg);clear hs hg E1001;clear hw1;go_wp2_with fail;have AD:Pz.Ok L (j+1) (Pz.pv L .sm (j+1)) 1:=Pz.pv_adv L .sm (j+1) hj;have ED:=hid (E201.out.below ((Below.refl _ _).drew));have CC:=hid (C1.out (j+1) (by omega) hj sb p cap _ ED.out.st);have AD9:Hid (Pz.Ok L (j+1) (Pz.pv L .sm (j+1)) 1):=AD;generalize Pz.pv L .sm (j+1)=r0 at *;obtain⟨o2,k⟩:=r0;rw[Pz.bnd_goL] at PV;obtain⟨qp,qo,qn,qg,qm,ql,qk,qj,qi⟩:=(E201.out.bx (g7,c) (by simp)).1;dsimp only at qp qo qn qg qm ql qk qj qi;obtain⟨qA,qz,qy,qs,qx,qw,qv,qu,qt⟩:=(E201.out.bx (w.heap.size,Pz.z0) (by simp)).1;dsimp only[Pz.z0,len] at qA qz qy qs qx qw qv qu qt
     go_region_with (go_at_call 205;refine CC.out.mono ?_;rintro e w9 ⟨d,rfl,hf⟩;obtain⟨ts9,hE,hc9,hs9⟩:=ED.out.go hf (qJ _ _ _ _ _ _) (by intro d hd;cases hd);have E9:=hid hE;have Td:=hid hc9;have Ud:=hid hs9;clear hf hE hc9 hs9;obtain⟨n0c0,n0c1,n0c2,n0c3,n0f0,n0f1,n0f2,n0f3,n0l⟩:=(E9.out.bx (g7,c) (by simp)).1;dsimp only at n0c0 n0c1 n0c2 n0c3 n0f0 n0f1 n0f2 n0f3 n0l;obtain⟨n1c0,n1c1,n1c2,n1c3,n1f0,n1f1,n1f2,n1f3,n1l⟩:=(E9.out.bx (w.heap.size,Pz.z0) (by simp)).1;dsimp only[Pz.z0,len] at n1c0 n1c1 n1c2 n1c3 n1f0 n1f1 n1f2 n1f3 n1l;skip)
     all_goals
      cases o2 with
      | none =>
        go_wp2;refine bodyPost_ret (v:=.agg #[.int .i64 17,.int .i64 0,.string ⟨#[]⟩,.slice (some ⟨w9.heap.size,0,none⟩) 2 2]) ?_ rfl ?_
        ·rw [qd rfl];go_simp
        ·rw [PV.out,Pz.goL_none];exact⟨(⟨w9.heap.size,0,⟨17,0,⟨#[]⟩,some ⟨w9.heap.size,0,none⟩,2⟩,qH [c,d]⟩:Ch),rfl,(E9.out.tail).done_node [c,d] 17 2 rfl none (fun x hx=>by cases hx) _ rfl _⟩
      | some y =>
        go_wp2;refine bodyPost_ret (v:=.agg #[.int .i64 17,.int .i64 0,.string ⟨#[]⟩,.slice (some ⟨w9.heap.size,0,none⟩) 2 2]) ?_ rfl ?_
        ·rw [qd rfl];go_simp
        ·rw [PV.out,Pz.goL_some];exact⟨(⟨w9.heap.size,0,⟨17,0,⟨#[]⟩,some ⟨w9.heap.size,0,none⟩,2⟩,qH [c,d]⟩:Ch),rfl,(E9.out.tail).done_node [c,d] 17 2 rfl (some (Pz.tn 17 [x,y])) (fun y hy=>by cases hy;exact⟨(by intro q hq;simp only[List.mem_cons,List.not_mem_nil,or_false] at hq;rcases hq with e9|e9;rw[e9];exact(Ud.out _ (Tc.out x rfl).2);rw[e9];exact(Td.out y rfl).2),(by rw[List.map_cons,List.map_cons,List.map_nil,(Tc.out x rfl).1,(Td.out y rfl).1])⟩) _ rfl _⟩
    ·
     have hw1':Pz.isw L j Pz.wLeq=false:=(by simpa using hw1);rw[if_neg hw1] at PV;refine(yz sb L p cap j _ _ E1001.out.st hw1').mono ?_;rintro e w2002 ⟨rfl,hb⟩;have E2001:=hid (E1001.out.below hb);clear hb E1001;clear hw1 hw1';go_wp2_with fail
     by_cases hw2:Pz.isw L j Pz.wEq=true
     ·
      have hj:=Pz.isw_lt hw2;rw[if_pos hw2] at PV;refine(yi sb L p cap j _ _ E2001.out.st hw2).mono ?_;rintro e w302 ⟨rfl,hs,hg⟩;have E301:=hid (E2001.out.grown hs (qZ _ _ _ _ _) hg);clear hs hg E2001;clear hw2;go_wp2_with fail;have AD:Pz.Ok L (j+1) (Pz.pv L .sm (j+1)) 1:=Pz.pv_adv L .sm (j+1) hj;have ED:=hid (E301.out.below ((Below.refl _ _).drew));have CC:=hid (C1.out (j+1) (by omega) hj sb p cap _ ED.out.st);have AD9:Hid (Pz.Ok L (j+1) (Pz.pv L .sm (j+1)) 1):=AD;generalize Pz.pv L .sm (j+1)=r0 at *;obtain⟨o2,k⟩:=r0;rw[Pz.bnd_goL] at PV;obtain⟨qp,qo,qn,qg,qm,ql,qk,qj,qi⟩:=(E301.out.bx (g7,c) (by simp)).1;dsimp only at qp qo qn qg qm ql qk qj qi;obtain⟨qA,qz,qy,qs,qx,qw,qv,qu,qt⟩:=(E301.out.bx (w.heap.size,Pz.z0) (by simp)).1;dsimp only[Pz.z0,len] at qA qz qy qs qx qw qv qu qt
      go_region_with (go_at_call 205;refine CC.out.mono ?_;rintro e w9 ⟨d,rfl,hf⟩;obtain⟨ts9,hE,hc9,hs9⟩:=ED.out.go hf (qJ _ _ _ _ _ _) (by intro d hd;cases hd);have E9:=hid hE;have Td:=hid hc9;have Ud:=hid hs9;clear hf hE hc9 hs9;obtain⟨n0c0,n0c1,n0c2,n0c3,n0f0,n0f1,n0f2,n0f3,n0l⟩:=(E9.out.bx (g7,c) (by simp)).1;dsimp only at n0c0 n0c1 n0c2 n0c3 n0f0 n0f1 n0f2 n0f3 n0l;obtain⟨n1c0,n1c1,n1c2,n1c3,n1f0,n1f1,n1f2,n1f3,n1l⟩:=(E9.out.bx (w.heap.size,Pz.z0) (by simp)).1;dsimp only[Pz.z0,len] at n1c0 n1c1 n1c2 n1c3 n1f0 n1f1 n1f2 n1f3 n1l;skip)
      all_goals
       cases o2 with
       | none =>
         go_wp2;refine bodyPost_ret (v:=.agg #[.int .i64 18,.int .i64 0,.string ⟨#[]⟩,.slice (some ⟨w9.heap.size,0,none⟩) 2 2]) ?_ rfl ?_
         ·rw [qd rfl];go_simp
         ·rw [PV.out,Pz.goL_none];exact⟨(⟨w9.heap.size,0,⟨18,0,⟨#[]⟩,some ⟨w9.heap.size,0,none⟩,2⟩,qH [c,d]⟩:Ch),rfl,(E9.out.tail).done_node [c,d] 18 2 rfl none (fun x hx=>by cases hx) _ rfl _⟩
       | some y =>
         go_wp2;refine bodyPost_ret (v:=.agg #[.int .i64 18,.int .i64 0,.string ⟨#[]⟩,.slice (some ⟨w9.heap.size,0,none⟩) 2 2]) ?_ rfl ?_
         ·rw [qd rfl];go_simp
         ·rw [PV.out,Pz.goL_some];exact⟨(⟨w9.heap.size,0,⟨18,0,⟨#[]⟩,some ⟨w9.heap.size,0,none⟩,2⟩,qH [c,d]⟩:Ch),rfl,(E9.out.tail).done_node [c,d] 18 2 rfl (some (Pz.tn 18 [x,y])) (fun y hy=>by cases hy;exact⟨(by intro q hq;simp only[List.mem_cons,List.not_mem_nil,or_false] at hq;rcases hq with e9|e9;rw[e9];exact(Ud.out _ (Tc.out x rfl).2);rw[e9];exact(Td.out y rfl).2),(by rw[List.map_cons,List.map_cons,List.map_nil,(Tc.out x rfl).1,(Td.out y rfl).1])⟩) _ rfl _⟩
     ·
      have hw2':Pz.isw L j Pz.wEq=false:=(by simpa using hw2);rw[if_neg hw2] at PV;refine(yz sb L p cap j _ _ E2001.out.st hw2').mono ?_;rintro e w3002 ⟨rfl,hb⟩;have E3001:=hid (E2001.out.below hb);clear hb E2001;clear hw2 hw2';go_wp2_with fail
      by_cases hw:Pz.isw L j Pz.wIn=true
      ·
       have hj:=Pz.isw_lt hw;rw[if_pos hw,Pz.pv_step L (.bd x) (j+1) hj] at PV;unfold Pz.step at PV;dsimp only at PV;refine(yi sb L p cap j _ _ E3001.out.st hw).mono ?_;rintro e w5002 ⟨rfl,hs,hg⟩;have E5001:=hid (E3001.out.grown hs (qZ _ _ _ _ _) hg);clear hs hg E3001;clear hw;go_wp2_with fail;have AD:Pz.Ok L (j+1) (Pz.pv L .sm (j+1)) 1:=Pz.pv_adv L .sm (j+1) hj;refine(C1.out (j+1) (by omega) hj sb p cap w5002 E5001.out.st).mono ?_;rintro e w5004 ⟨d,rfl,hf⟩;have ADd:Hid (Pz.Ok L (j+1) (Pz.pv L .sm (j+1)) 1):=AD;generalize Pz.pv L .sm (j+1)=r0 at *;obtain⟨o2,k⟩:=r0;obtain⟨tsE5003,hE,hc,qE⟩:=E5001.out.go hf (qJ _ _ _ _ _ _) (by intro d hd;cases hd);have E5003:=hid hE;have Td:=hid hc;have Ud:=hid qE;clear hf hE hc qE E5001
       try dsimp only
       rw[Pz.bnd_goL] at PV;go_upto_region 10 with (fail);have E5005:=hid (E5003.out.box d #[.int .i64 d.a.op,.int .i64 d.a.num,.string d.a.name,.slice d.a.ptr (len d.k) d.a.cap] rfl 24);generalize hg5007:w5004.heap.size=g5007 at *;generalize w5004.alloc (.cells #[.int .i64 d.a.op,.int .i64 d.a.num,.string d.a.name,.slice d.a.ptr (len d.k) d.a.cap] 24)=w5006 at *;clear E5003 hg5007;go_wp2_with fail;cases o2 with
       | none =>
         rw[Pz.goL_none] at PV;refine(zq sb L p cap k _ _ E5005.out.st).mono ?_;rintro e w5009 ⟨rfl,hb⟩;have E5008:=hid (E5005.out.below hb);clear hb E5005;go_wp2_with fail;have ED:=hid (E5008.out.below ((Below.refl _ _).drew));have CC:=hid (smB L sb p cap k _ ED.out.st);obtain⟨qp,qo,qn,qg,qm,ql,qk,qj,qi⟩:=(E5008.out.bx (g5007,d) (by simp)).1;dsimp only at qp qo qn qg qm ql qk qj qi;obtain⟨qA,qz,qy,qs,qx,qw,qv,qu,qt⟩:=(E5008.out.bx (g7,c) (by simp)).1;dsimp only at qA qz qy qs qx qw qv qu qt;obtain⟨yy,yx,yw,yv,yu,yt,ys,yr,yq⟩:=(E5008.out.bx (w.heap.size,Pz.z0) (by simp)).1;dsimp only[Pz.z0,len] at yy yx yw yv yu yt ys yr yq
         go_region_with (go_at_call 205;refine CC.out.mono ?_;rintro e w9 ⟨e1,rfl,hf⟩;obtain⟨ts9,hE,hc9,hs9⟩:=ED.out.go hf (qJ _ _ _ _ _ _) (by intro d hd;cases hd);have E9:=hid hE;have Te1:=hid hc9;have Ue1:=hid hs9;clear hf hE hc9 hs9;obtain⟨n0c0,n0c1,n0c2,n0c3,n0f0,n0f1,n0f2,n0f3,n0l⟩:=(E9.out.bx (g5007,d) (by simp)).1;dsimp only at n0c0 n0c1 n0c2 n0c3 n0f0 n0f1 n0f2 n0f3 n0l;obtain⟨n1c0,n1c1,n1c2,n1c3,n1f0,n1f1,n1f2,n1f3,n1l⟩:=(E9.out.bx (g7,c) (by simp)).1;dsimp only at n1c0 n1c1 n1c2 n1c3 n1f0 n1f1 n1f2 n1f3 n1l;obtain⟨n2c0,n2c1,n2c2,n2c3,n2f0,n2f1,n2f2,n2f3,n2l⟩:=(E9.out.bx (w.heap.size,Pz.z0) (by simp)).1;dsimp only[Pz.z0,len] at n2c0 n2c1 n2c2 n2c3 n2f0 n2f1 n2f2 n2f3 n2l;skip)
         all_goals
          go_wp2;refine bodyPost_ret (v:=.agg #[.int .i64 15,.int .i64 0,.string ⟨#[]⟩,.slice (some ⟨w9.heap.size,0,none⟩) 3 3]) ?_ rfl ?_
          ·rw [qd rfl];go_simp
          ·rw [PV.out];exact⟨(⟨w9.heap.size,0,⟨15,0,⟨#[]⟩,some ⟨w9.heap.size,0,none⟩,3⟩,qH [c,d,e1]⟩:Ch),rfl,(E9.out.tail.tail).done_node [c,d,e1] 15 3 rfl none (fun x hx=>by cases hx) _ rfl _⟩
       | some y =>
         rw[Pz.goL_some] at PV;have hjk:=ADd.out.2.2 rfl;dsimp only at hjk
         by_cases ht:Pz.isw L k Pz.wTo=true
         ·
          have hk:=Pz.isw_lt ht;rw[if_pos ht] at PV;refine(zE sb L p cap k _ _ E5005.out.st ht).mono ?_;rintro e w5209 ⟨rfl,hs,hg⟩;have E5208:=hid (E5005.out.grown hs (qZ _ _ _ _ _) hg);clear hs hg E5005;clear ht;go_wp2_with fail;have AD:Pz.Ok L (k+1) (Pz.pv L .sm (k+1)) 1:=Pz.pv_adv L .sm (k+1) hk;have ED:=hid (E5208.out.below ((Below.refl _ _).drew));have CC:=hid (C1.out (k+1) (by omega) hk sb p cap _ ED.out.st);have AD9:Hid (Pz.Ok L (k+1) (Pz.pv L .sm (k+1)) 1):=AD;generalize Pz.pv L .sm (k+1)=r0 at *;obtain⟨o3,m⟩:=r0;rw[Pz.bnd_goL] at PV;obtain⟨qp,qo,qn,qg,qm,ql,qk,qj,qi⟩:=(E5208.out.bx (g5007,d) (by simp)).1;dsimp only at qp qo qn qg qm ql qk qj qi;obtain⟨qA,qz,qy,qs,qx,qw,qv,qu,qt⟩:=(E5208.out.bx (g7,c) (by simp)).1;dsimp only at qA qz qy qs qx qw qv qu qt;obtain⟨yy,yx,yw,yv,yu,yt,ys,yr,yq⟩:=(E5208.out.bx (w.heap.size,Pz.z0) (by simp)).1;dsimp only[Pz.z0,len] at yy yx yw yv yu yt ys yr yq
          go_region_with (go_at_call 205;refine CC.out.mono ?_;rintro e w9 ⟨e1,rfl,hf⟩;obtain⟨ts9,hE,hc9,hs9⟩:=ED.out.go hf (qJ _ _ _ _ _ _) (by intro d hd;cases hd);have E9:=hid hE;have Te1:=hid hc9;have Ue1:=hid hs9;clear hf hE hc9 hs9;obtain⟨n0c0,n0c1,n0c2,n0c3,n0f0,n0f1,n0f2,n0f3,n0l⟩:=(E9.out.bx (g5007,d) (by simp)).1;dsimp only at n0c0 n0c1 n0c2 n0c3 n0f0 n0f1 n0f2 n0f3 n0l;obtain⟨n1c0,n1c1,n1c2,n1c3,n1f0,n1f1,n1f2,n1f3,n1l⟩:=(E9.out.bx (g7,c) (by simp)).1;dsimp only at n1c0 n1c1 n1c2 n1c3 n1f0 n1f1 n1f2 n1f3 n1l;obtain⟨n2c0,n2c1,n2c2,n2c3,n2f0,n2f1,n2f2,n2f3,n2l⟩:=(E9.out.bx (w.heap.size,Pz.z0) (by simp)).1;dsimp only[Pz.z0,len] at n2c0 n2c1 n2c2 n2c3 n2f0 n2f1 n2f2 n2f3 n2l;skip)
          all_goals
           cases o3 with
           | none =>
             go_wp2;refine bodyPost_ret (v:=.agg #[.int .i64 15,.int .i64 0,.string ⟨#[]⟩,.slice (some ⟨w9.heap.size,0,none⟩) 3 3]) ?_ rfl ?_
             ·rw [qd rfl];go_simp
             ·rw [PV.out,Pz.goL_none];exact⟨(⟨w9.heap.size,0,⟨15,0,⟨#[]⟩,some ⟨w9.heap.size,0,none⟩,3⟩,qH [c,d,e1]⟩:Ch),rfl,(E9.out.tail.tail).done_node [c,d,e1] 15 3 rfl none (fun x hx=>by cases hx) _ rfl _⟩
           | some z =>
             go_wp2;refine bodyPost_ret (v:=.agg #[.int .i64 15,.int .i64 0,.string ⟨#[]⟩,.slice (some ⟨w9.heap.size,0,none⟩) 3 3]) ?_ rfl ?_
             ·rw [qd rfl];go_simp
             ·rw [PV.out,Pz.goL_some];exact⟨(⟨w9.heap.size,0,⟨15,0,⟨#[]⟩,some ⟨w9.heap.size,0,none⟩,3⟩,qH [c,d,e1]⟩:Ch),rfl,(E9.out.tail.tail).done_node [c,d,e1] 15 3 rfl (some (Pz.tn 15 [x,y,z])) (fun y hy=>by cases hy;exact⟨(by intro q hq;simp only[List.mem_cons,List.not_mem_nil,or_false] at hq;rcases hq with e9|e9|e9;rw[e9];exact(Ue1.out _ (Ud.out _ (Tc.out x rfl).2));rw[e9];exact(Ue1.out _ (Td.out y rfl).2);rw[e9];exact(Te1.out z rfl).2),(by rw[List.map_cons,List.map_cons,List.map_cons,List.map_nil,(Tc.out x rfl).1,(Td.out y rfl).1,(Te1.out z rfl).1])⟩) _ rfl _⟩
         ·
          have ht':Pz.isw L k Pz.wTo=false:=(by simpa using ht);rw[if_neg ht] at PV;refine(j6 sb L p cap k _ _ E5005.out.st ht').mono ?_;rintro e w5409 ⟨rfl,hs,hg⟩;have E5408:=hid (E5005.out.grown hs (zS _ _ _ _ _) hg);clear hs hg E5005;clear ht ht';go_wp2_with fail;have ED:=hid (E5408.out.below ((Below.refl _ _).drew));have CC:=hid (smB L sb p cap k _ ED.out.st);obtain⟨qp,qo,qn,qg,qm,ql,qk,qj,qi⟩:=(E5408.out.bx (g5007,d) (by simp)).1;dsimp only at qp qo qn qg qm ql qk qj qi;obtain⟨qA,qz,qy,qs,qx,qw,qv,qu,qt⟩:=(E5408.out.bx (g7,c) (by simp)).1;dsimp only at qA qz qy qs qx qw qv qu qt;obtain⟨yy,yx,yw,yv,yu,yt,ys,yr,yq⟩:=(E5408.out.bx (w.heap.size,Pz.z0) (by simp)).1;dsimp only[Pz.z0,len] at yy yx yw yv yu yt ys yr yq
          go_region_with (go_at_call 205;refine CC.out.mono ?_;rintro e w9 ⟨e1,rfl,hf⟩;obtain⟨ts9,hE,hc9,hs9⟩:=ED.out.go hf (qJ _ _ _ _ _ _) (by intro d hd;cases hd);have E9:=hid hE;have Te1:=hid hc9;have Ue1:=hid hs9;clear hf hE hc9 hs9;obtain⟨n0c0,n0c1,n0c2,n0c3,n0f0,n0f1,n0f2,n0f3,n0l⟩:=(E9.out.bx (g5007,d) (by simp)).1;dsimp only at n0c0 n0c1 n0c2 n0c3 n0f0 n0f1 n0f2 n0f3 n0l;obtain⟨n1c0,n1c1,n1c2,n1c3,n1f0,n1f1,n1f2,n1f3,n1l⟩:=(E9.out.bx (g7,c) (by simp)).1;dsimp only at n1c0 n1c1 n1c2 n1c3 n1f0 n1f1 n1f2 n1f3 n1l;obtain⟨n2c0,n2c1,n2c2,n2c3,n2f0,n2f1,n2f2,n2f3,n2l⟩:=(E9.out.bx (w.heap.size,Pz.z0) (by simp)).1;dsimp only[Pz.z0,len] at n2c0 n2c1 n2c2 n2c3 n2f0 n2f1 n2f2 n2f3 n2l;skip)
          all_goals
           go_wp2;refine bodyPost_ret (v:=.agg #[.int .i64 15,.int .i64 0,.string ⟨#[]⟩,.slice (some ⟨w9.heap.size,0,none⟩) 3 3]) ?_ rfl ?_
           ·rw [qd rfl];go_simp
           ·rw [PV.out];exact⟨(⟨w9.heap.size,0,⟨15,0,⟨#[]⟩,some ⟨w9.heap.size,0,none⟩,3⟩,qH [c,d,e1]⟩:Ch),rfl,(E9.out.tail.tail).done_node [c,d,e1] 15 3 rfl none (fun x hx=>by cases hx) _ rfl _⟩
      ·
       have hw':Pz.isw L j Pz.wIn=false:=(by simpa using hw);rw[if_neg hw] at PV;refine(yz sb L p cap j _ _ E3001.out.st hw').mono ?_;rintro e w6002 ⟨rfl,hb⟩;have E6001:=hid (E3001.out.below hb);clear hb E3001;obtain⟨qp,qo,qn,qg,qm,ql,qk,qj,qi⟩:=(E6001.out.bx (g7,c) (by simp)).1;dsimp only at qp qo qn qg qm ql qk qj qi;obtain⟨qA,qz,qy,qs,qx,qw,qv,qu,qt⟩:=(E6001.out.bx (w.heap.size,Pz.z0) (by simp)).1;dsimp only[Pz.z0,len] at qA qz qy qs qx qw qv qu qt;go_wp2;refine bodyPost_ret (v:=.agg #[.int .i64 c.a.op,.int .i64 c.a.num,.string c.a.name,.slice c.a.ptr (len c.k) c.a.cap]) ?_ rfl ?_
       ·rw [qd rfl];go_simp
       ·rw [PV.out];exact⟨c,rfl,(E6001.out.tail).done4 c (some x) (fun y hy=>by cases hy;exact⟨(Tc.out x rfl).1,(Tc.out x rfl).2⟩) rfl rfl rfl rfl⟩
end Go.Proofs.YtcejjdmnlejbaaaGreatDoor
