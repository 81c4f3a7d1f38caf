import Derived.Test.YtcejjdmnlejbaaaGreatDoorVRzB
namespace Go.Proofs.YtcejjdmnlejbaaaGreatDoor
open Lib(hid)
set_option linter.unusedVariables false
set_option linter.unusedSimpArgs false
open Go.ChangeShapes Go.WideShapes Go.ChangeAt Go.RowKit
open Go.Deep (BT)
set_option maxHeartbeats 600000
set_option maxRecDepth 100000
theorem Ug(L:List Tk.T4)(i:Nat)(h0:RC 178 L .cj i)(h1:∀j,i < j→j≤L.length→RC 178 L .cj j):RC 159 L .dj i:=by
 intro sb p cap w h;have C0:=hid h0;have C1:=hid h1;clear h0 h1;have hle:=h.2;have hL4:=h.1.ls.1;have E0:Hid (Pz.Env w w sb (jZ sb L p cap i) [] [] []):=Pz.Env.init h (qZ _ _ _ _ _) (jo h) (by intro c hc;cases hc);have PV:Hid (Pz.pv L .dj i=Pz.step L (Pz.pv L) .dj i):=Pz.pv_step L .dj i hle;unfold Pz.step at PV;dsimp only at PV;clear h;go_enter Tryz.func159,Tryz.ntmps159;go_wp2_with fail;have E1:=hid (E0.out.box Pz.z0 #[.int .i64 0,.int .i64 0,.string ⟨#[]⟩,.slice none 0 0] rfl 24);generalize w.alloc (.cells #[.int .i64 0,.int .i64 0,.string ⟨#[]⟩,.slice none 0 0] 24)=w2 at *;clear E0;have AD:Pz.Ok L i (Pz.pv L .cj i) 1:=Pz.pv_adv L .cj i hle;refine(C0.out sb p cap w2 E1.out.st).mono ?_;rintro e w4 ⟨c,rfl,hf⟩;have ADc:Hid (Pz.Ok L i (Pz.pv L .cj i) 1):=AD;generalize Pz.pv L .cj i=r0 at *;obtain⟨o,j⟩:=r0;obtain⟨tsE3,hE,hc,qE⟩:=E1.out.go hf (qJ _ _ _ _ _ _) (by intro d hd;cases hd);have E3:=hid hE;have Tc:=hid hc;have Uc:=hid qE;clear hf hE hc qE E1
 try dsimp only
 rw[Pz.bnd_goL] at PV;have AD2:Hid (i≤j∧j≤L.length):=⟨ADc.out.1,ADc.out.2.1⟩;go_wp2_with fail;have E5:=hid (E3.out.box c #[.int .i64 c.a.op,.int .i64 c.a.num,.string c.a.name,.slice c.a.ptr (len c.k) c.a.cap] rfl 24);generalize hg7:w4.heap.size=g7 at *;generalize w4.alloc (.cells #[.int .i64 c.a.op,.int .i64 c.a.num,.string c.a.name,.slice c.a.ptr (len c.k) c.a.cap] 24)=w6 at *;clear E3 hg7
 go_loopg [7] (L.length - j) (fun g u wr=>∃(o:Option Ch) (j:Nat) (c:Ch) (ts:List Ch),Hid (g=L.length - j∧i≤j∧j≤L.length∧Pz.Env w wr sb (ks sb L p cap o j) [] [(g7,c),(w.heap.size,Pz.z0)] ts∧(∀x,o=some x→Pz.nr c=x∧c∈ ts)∧Pz.pv L .dj i=Pz.goL (fun x=>Pz.pv L (.djL x) j) o j))
 case atStart=>exact⟨o,j,c,_,rfl,AD2.out.1,AD2.out.2,E5.out,Tc.out,PV.out⟩
 case round =>
  clear E5 Tc Uc PV AD2 ADc C0;obtain⟨o,j,c,ts,HR⟩:=hrel;have E4:=hid HR.out.2.2.2.1;cases o with
  | none =>
    have hr:Pz.pv L .dj i=(none,j):=HR.out.2.2.2.2.2;have HQ:=hid hr;clear hr;go_wp2_with fail;refine(qT sb L p cap j _ _ E4.out.st).mono ?_;rintro e w22 ⟨rfl,hb⟩;have E21:=hid (E4.out.below hb);clear hb E4;obtain⟨qp,qo,qn,qg,qm,ql,qk,qj,qi⟩:=(E21.out.bx (g7,c) (by simp)).1;dsimp only at qp qo qn qg qm ql qk qj qi;obtain⟨qA,qz,qy,qs,qx,qw,qv,qu,qt⟩:=(E21.out.bx (w.heap.size,Pz.z0) (by simp)).1;dsimp only[Pz.z0,len] at qA qz qy qs qx qw qv qu qt;go_wp2;refine bodyPost_ret (v:=.agg #[.int .i64 c.a.op,.int .i64 c.a.num,.string c.a.name,.slice c.a.ptr (len c.k) c.a.cap]) ?_ rfl ?_
    ·rw [qd rfl];go_simp
    ·rw [HQ.out];exact⟨c,rfl,(E21.out.tail).done4 c none (fun x hx=>by cases hx) rfl rfl rfl rfl⟩
  | some x =>
    obtain⟨hx1,hx2⟩:=HR.out.2.2.2.2.1 x rfl;have TX4:=hid (And.intro hx1 hx2);have hr:Pz.pv L .dj i=Pz.pv L (.djL x) j:=HR.out.2.2.2.2.2;rw[Pz.pv_step L (.djL x) j HR.out.2.2.1] at hr;unfold Pz.step at hr;dsimp only at hr;have PV:=hid hr;clear hr hx1 hx2;go_wp2_with fail
    by_cases hw0:Pz.isw L j Pz.wOr=true
    ·
     have hj:=Pz.isw_lt hw0;rw[if_pos hw0] at PV;refine(yi sb L p cap j _ _ E4.out.st hw0).mono ?_;rintro e w102 ⟨rfl,hs,hg⟩;have E101:=hid (E4.out.grown hs (qZ _ _ _ _ _) hg);clear hs hg E4;clear hw0;go_wp2_with fail;have hij:=HR.out.2.1;have AD:Pz.Ok L (j+1) (Pz.pv L .cj (j+1)) 1:=Pz.pv_adv L .cj (j+1) hj;have ED:=hid (E101.out.below ((Below.refl _ _).drew));have CC:=hid (C1.out (j+1) (by omega) hj sb p cap _ ED.out.st);have AD9:Hid (Pz.Ok L (j+1) (Pz.pv L .cj (j+1)) 1):=AD;generalize Pz.pv L .cj (j+1)=r0 at *;obtain⟨o2,k⟩:=r0;rw[Pz.bnd_goL] at PV;obtain⟨qp,qo,qn,qg,qm,ql,qk,qj,qi⟩:=(E101.out.bx (g7,c) (by simp)).1;dsimp only at qp qo qn qg qm ql qk qj qi;obtain⟨qA,qz,qy,qs,qx,qw,qv,qu,qt⟩:=(E101.out.bx (w.heap.size,Pz.z0) (by simp)).1;dsimp only[Pz.z0,len] at qA qz qy qs qx qw qv qu qt
     go_region_with (go_at_call 178;refine CC.out.mono ?_;rintro e w9 ⟨d,rfl,hf⟩;obtain⟨ts9,hE,hc9,hs9⟩:=ED.out.go hf (qJ _ _ _ _ _ _) (by intro d hd;cases hd);have E9:=hid hE;have Td:=hid hc9;have Ud:=hid hs9;clear hf hE hc9 hs9;obtain⟨n0c0,n0c1,n0c2,n0c3,n0f0,n0f1,n0f2,n0f3,n0l⟩:=(E9.out.bx (g7,c) (by simp)).1;dsimp only at n0c0 n0c1 n0c2 n0c3 n0f0 n0f1 n0f2 n0f3 n0l;obtain⟨n1c0,n1c1,n1c2,n1c3,n1f0,n1f1,n1f2,n1f3,n1l⟩:=(E9.out.bx (w.heap.size,Pz.z0) (by simp)).1;dsimp only[Pz.z0,len] at n1c0 n1c1 n1c2 n1c3 n1f0 n1f1 n1f2 n1f3 n1l;skip)
     all_goals
      go_wp2;have a1:=AD9.out.1;have a2:=AD9.out.2.1;dsimp only at a1 a2;cases o2 with
      | none =>
        obtain⟨tsN,hEN,hTN⟩:=E9.out.putNode [c,d] 21 2 rfl none (fun x hx=>by cases hx) #[.int .i64 c.a.op,.int .i64 c.a.num,.string c.a.name,.slice c.a.ptr (len c.k) c.a.cap,.int .i64 d.a.op,.int .i64 d.a.num,.string d.a.name,.slice d.a.ptr (len d.k) d.a.cap] rfl 24
        go_roundg (L.length - k)
        case rel=>exact⟨none,k,_,tsN,rfl,by omega,a2,hEN,hTN,by rw[PV.out,Pz.goL_none,Pz.goL_none]⟩
        case measure=>have:=HR.out.1;omega
      | some y =>
        obtain⟨tsN,hEN,hTN⟩:=E9.out.putNode [c,d] 21 2 rfl (some (Pz.tn 21 [x,y])) (fun y hy=>by cases hy;exact⟨(by intro q hq;simp only[List.mem_cons,List.not_mem_nil,or_false] at hq;rcases hq with e9|e9;rw[e9];exact(Ud.out _ TX4.out.2);rw[e9];exact(Td.out y rfl).2),(by rw[List.map_cons,List.map_cons,List.map_nil,TX4.out.1,(Td.out y rfl).1])⟩) #[.int .i64 c.a.op,.int .i64 c.a.num,.string c.a.name,.slice c.a.ptr (len c.k) c.a.cap,.int .i64 d.a.op,.int .i64 d.a.num,.string d.a.name,.slice d.a.ptr (len d.k) d.a.cap] rfl 24
        go_roundg (L.length - k)
        case rel=>exact⟨(some (Pz.tn 21 [x,y])),k,_,tsN,rfl,by omega,a2,hEN,hTN,by rw[PV.out,Pz.goL_some,Pz.goL_some]⟩
        case measure=>have:=HR.out.1;omega
    ·
     have hw0':Pz.isw L j Pz.wOr=false:=(by simpa using hw0);rw[if_neg hw0] at PV;refine(yz sb L p cap j _ _ E4.out.st hw0').mono ?_;rintro e w1002 ⟨rfl,hb⟩;have E1001:=hid (E4.out.below hb);clear hb E4;clear hw0 hw0';obtain⟨qp,qo,qn,qg,qm,ql,qk,qj,qi⟩:=(E1001.out.bx (g7,c) (by simp)).1;dsimp only at qp qo qn qg qm ql qk qj qi;obtain⟨qA,qz,qy,qs,qx,qw,qv,qu,qt⟩:=(E1001.out.bx (w.heap.size,Pz.z0) (by simp)).1;dsimp only[Pz.z0,len] at qA qz qy qs qx qw qv qu qt;go_wp2;refine bodyPost_ret (v:=.agg #[.int .i64 c.a.op,.int .i64 c.a.num,.string c.a.name,.slice c.a.ptr (len c.k) c.a.cap]) ?_ rfl ?_
     ·rw [qd rfl];go_simp
     ·rw [PV.out];exact⟨c,rfl,(E1001.out.tail).done4 c (some x) (fun y hy=>by cases hy;exact TX4.out) rfl rfl rfl rfl⟩
theorem Ul(L:List Tk.T4)(i:Nat)(h0:RC 193 L .ng i)(h1:∀j,i < j→j≤L.length→RC 193 L .ng j):RC 178 L .cj i:=by
 intro sb p cap w h;have C0:=hid h0;have C1:=hid h1;clear h0 h1;have hle:=h.2;have hL4:=h.1.ls.1;have E0:Hid (Pz.Env w w sb (jZ sb L p cap i) [] [] []):=Pz.Env.init h (qZ _ _ _ _ _) (jo h) (by intro c hc;cases hc);have PV:Hid (Pz.pv L .cj i=Pz.step L (Pz.pv L) .cj i):=Pz.pv_step L .cj i hle;unfold Pz.step at PV;dsimp only at PV;clear h;go_enter Tryz.func178,Tryz.ntmps178;go_wp2_with fail;have E1:=hid (E0.out.box Pz.z0 #[.int .i64 0,.int .i64 0,.string ⟨#[]⟩,.slice none 0 0] rfl 24);generalize w.alloc (.cells #[.int .i64 0,.int .i64 0,.string ⟨#[]⟩,.slice none 0 0] 24)=w2 at *;clear E0;have AD:Pz.Ok L i (Pz.pv L .ng i) 1:=Pz.pv_adv L .ng i hle;refine(C0.out sb p cap w2 E1.out.st).mono ?_;rintro e w4 ⟨c,rfl,hf⟩;have ADc:Hid (Pz.Ok L i (Pz.pv L .ng i) 1):=AD;generalize Pz.pv L .ng i=r0 at *;obtain⟨o,j⟩:=r0;obtain⟨tsE3,hE,hc,qE⟩:=E1.out.go hf (qJ _ _ _ _ _ _) (by intro d hd;cases hd);have E3:=hid hE;have Tc:=hid hc;have Uc:=hid qE;clear hf hE hc qE E1
 try dsimp only
 rw[Pz.bnd_goL] at PV;have AD2:Hid (i≤j∧j≤L.length):=⟨ADc.out.1,ADc.out.2.1⟩;go_wp2_with fail;have E5:=hid (E3.out.box c #[.int .i64 c.a.op,.int .i64 c.a.num,.string c.a.name,.slice c.a.ptr (len c.k) c.a.cap] rfl 24);generalize hg7:w4.heap.size=g7 at *;generalize w4.alloc (.cells #[.int .i64 c.a.op,.int .i64 c.a.num,.string c.a.name,.slice c.a.ptr (len c.k) c.a.cap] 24)=w6 at *;clear E3 hg7
 go_loopg [7] (L.length - j) (fun g u wr=>∃(o:Option Ch) (j:Nat) (c:Ch) (ts:List Ch),Hid (g=L.length - j∧i≤j∧j≤L.length∧Pz.Env w wr sb (ks sb L p cap o j) [] [(g7,c),(w.heap.size,Pz.z0)] ts∧(∀x,o=some x→Pz.nr c=x∧c∈ ts)∧Pz.pv L .cj i=Pz.goL (fun x=>Pz.pv L (.cjL x) j) o j))
 case atStart=>exact⟨o,j,c,_,rfl,AD2.out.1,AD2.out.2,E5.out,Tc.out,PV.out⟩
 case round =>
  clear E5 Tc Uc PV AD2 ADc C0;obtain⟨o,j,c,ts,HR⟩:=hrel;have E4:=hid HR.out.2.2.2.1;cases o with
  | none =>
    have hr:Pz.pv L .cj i=(none,j):=HR.out.2.2.2.2.2;have HQ:=hid hr;clear hr;go_wp2_with fail;refine(qT sb L p cap j _ _ E4.out.st).mono ?_;rintro e w22 ⟨rfl,hb⟩;have E21:=hid (E4.out.below hb);clear hb E4;obtain⟨qp,qo,qn,qg,qm,ql,qk,qj,qi⟩:=(E21.out.bx (g7,c) (by simp)).1;dsimp only at qp qo qn qg qm ql qk qj qi;obtain⟨qA,qz,qy,qs,qx,qw,qv,qu,qt⟩:=(E21.out.bx (w.heap.size,Pz.z0) (by simp)).1;dsimp only[Pz.z0,len] at qA qz qy qs qx qw qv qu qt;go_wp2;refine bodyPost_ret (v:=.agg #[.int .i64 c.a.op,.int .i64 c.a.num,.string c.a.name,.slice c.a.ptr (len c.k) c.a.cap]) ?_ rfl ?_
    ·rw [qd rfl];go_simp
    ·rw [HQ.out];exact⟨c,rfl,(E21.out.tail).done4 c none (fun x hx=>by cases hx) rfl rfl rfl rfl⟩
  | some x =>
    obtain⟨hx1,hx2⟩:=HR.out.2.2.2.2.1 x rfl;have TX4:=hid (And.intro hx1 hx2);have hr:Pz.pv L .cj i=Pz.pv L (.cjL x) j:=HR.out.2.2.2.2.2;rw[Pz.pv_step L (.cjL x) j HR.out.2.2.1] at hr;unfold Pz.step at hr;dsimp only at hr;have PV:=hid hr;clear hr hx1 hx2;go_wp2_with fail
    by_cases hw0:Pz.isw L j Pz.wAnd=true
    ·
     have hj:=Pz.isw_lt hw0;rw[if_pos hw0] at PV;refine(yi sb L p cap j _ _ E4.out.st hw0).mono ?_;rintro e w102 ⟨rfl,hs,hg⟩;have E101:=hid (E4.out.grown hs (qZ _ _ _ _ _) hg);clear hs hg E4;clear hw0;go_wp2_with fail;have hij:=HR.out.2.1;have AD:Pz.Ok L (j+1) (Pz.pv L .ng (j+1)) 1:=Pz.pv_adv L .ng (j+1) hj;have ED:=hid (E101.out.below ((Below.refl _ _).drew));have CC:=hid (C1.out (j+1) (by omega) hj sb p cap _ ED.out.st);have AD9:Hid (Pz.Ok L (j+1) (Pz.pv L .ng (j+1)) 1):=AD;generalize Pz.pv L .ng (j+1)=r0 at *;obtain⟨o2,k⟩:=r0;rw[Pz.bnd_goL] at PV;obtain⟨qp,qo,qn,qg,qm,ql,qk,qj,qi⟩:=(E101.out.bx (g7,c) (by simp)).1;dsimp only at qp qo qn qg qm ql qk qj qi;obtain⟨qA,qz,qy,qs,qx,qw,qv,qu,qt⟩:=(E101.out.bx (w.heap.size,Pz.z0) (by simp)).1;dsimp only[Pz.z0,len] at qA qz qy qs qx qw qv qu qt
     go_region_with (go_at_call 193;refine CC.out.mono ?_;rintro e w9 ⟨d,rfl,hf⟩;obtain⟨ts9,hE,hc9,hs9⟩:=ED.out.go hf (qJ _ _ _ _ _ _) (by intro d hd;cases hd);have E9:=hid hE;have Td:=hid hc9;have Ud:=hid hs9;clear hf hE hc9 hs9;obtain⟨n0c0,n0c1,n0c2,n0c3,n0f0,n0f1,n0f2,n0f3,n0l⟩:=(E9.out.bx (g7,c) (by simp)).1;dsimp only at n0c0 n0c1 n0c2 n0c3 n0f0 n0f1 n0f2 n0f3 n0l;obtain⟨n1c0,n1c1,n1c2,n1c3,n1f0,n1f1,n1f2,n1f3,n1l⟩:=(E9.out.bx (w.heap.size,Pz.z0) (by simp)).1;dsimp only[Pz.z0,len] at n1c0 n1c1 n1c2 n1c3 n1f0 n1f1 n1f2 n1f3 n1l;skip)
     all_goals
      go_wp2;have a1:=AD9.out.1;have a2:=AD9.out.2.1;dsimp only at a1 a2;cases o2 with
      | none =>
        obtain⟨tsN,hEN,hTN⟩:=E9.out.putNode [c,d] 20 2 rfl none (fun x hx=>by cases hx) #[.int .i64 c.a.op,.int .i64 c.a.num,.string c.a.name,.slice c.a.ptr (len c.k) c.a.cap,.int .i64 d.a.op,.int .i64 d.a.num,.string d.a.name,.slice d.a.ptr (len d.k) d.a.cap] rfl 24
        go_roundg (L.length - k)
        case rel=>exact⟨none,k,_,tsN,rfl,by omega,a2,hEN,hTN,by rw[PV.out,Pz.goL_none,Pz.goL_none]⟩
        case measure=>have:=HR.out.1;omega
      | some y =>
        obtain⟨tsN,hEN,hTN⟩:=E9.out.putNode [c,d] 20 2 rfl (some (Pz.tn 20 [x,y])) (fun y hy=>by cases hy;exact⟨(by intro q hq;simp only[List.mem_cons,List.not_mem_nil,or_false] at hq;rcases hq with e9|e9;rw[e9];exact(Ud.out _ TX4.out.2);rw[e9];exact(Td.out y rfl).2),(by rw[List.map_cons,List.map_cons,List.map_nil,TX4.out.1,(Td.out y rfl).1])⟩) #[.int .i64 c.a.op,.int .i64 c.a.num,.string c.a.name,.slice c.a.ptr (len c.k) c.a.cap,.int .i64 d.a.op,.int .i64 d.a.num,.string d.a.name,.slice d.a.ptr (len d.k) d.a.cap] rfl 24
        go_roundg (L.length - k)
        case rel=>exact⟨(some (Pz.tn 20 [x,y])),k,_,tsN,rfl,by omega,a2,hEN,hTN,by rw[PV.out,Pz.goL_some,Pz.goL_some]⟩
        case measure=>have:=HR.out.1;omega
    ·
     have hw0':Pz.isw L j Pz.wAnd=false:=(by simpa using hw0);rw[if_neg hw0] at PV;refine(yz sb L p cap j _ _ E4.out.st hw0').mono ?_;rintro e w1002 ⟨rfl,hb⟩;have E1001:=hid (E4.out.below hb);clear hb E4;clear hw0 hw0';obtain⟨qp,qo,qn,qg,qm,ql,qk,qj,qi⟩:=(E1001.out.bx (g7,c) (by simp)).1;dsimp only at qp qo qn qg qm ql qk qj qi;obtain⟨qA,qz,qy,qs,qx,qw,qv,qu,qt⟩:=(E1001.out.bx (w.heap.size,Pz.z0) (by simp)).1;dsimp only[Pz.z0,len] at qA qz qy qs qx qw qv qu qt;go_wp2;refine bodyPost_ret (v:=.agg #[.int .i64 c.a.op,.int .i64 c.a.num,.string c.a.name,.slice c.a.ptr (len c.k) c.a.cap]) ?_ rfl ?_
     ·rw [qd rfl];go_simp
     ·rw [PV.out];exact⟨c,rfl,(E1001.out.tail).done4 c (some x) (fun y hy=>by cases hy;exact TX4.out) rfl rfl rfl rfl⟩
theorem KZ(L:List Tk.T4)(i:Nat)(h0:RC 210 L .tm i)(h1:∀j,i < j→j≤L.length→RC 210 L .tm j):RC 205 L .sm i:=by
 intro sb p cap w h;have C0:=hid h0;have C1:=hid h1;clear h0 h1;have hle:=h.2;have hL4:=h.1.ls.1;have E0:Hid (Pz.Env w w sb (jZ sb L p cap i) [] [] []):=Pz.Env.init h (qZ _ _ _ _ _) (jo h) (by intro c hc;cases hc);have PV:Hid (Pz.pv L .sm i=Pz.step L (Pz.pv L) .sm i):=Pz.pv_step L .sm i hle;unfold Pz.step at PV;dsimp only at PV;clear h;go_enter Tryz.func205,Tryz.ntmps205;go_wp2_with fail;have E1:=hid (E0.out.box Pz.z0 #[.int .i64 0,.int .i64 0,.string ⟨#[]⟩,.slice none 0 0] rfl 24);generalize w.alloc (.cells #[.int .i64 0,.int .i64 0,.string ⟨#[]⟩,.slice none 0 0] 24)=w2 at *;clear E0;have AD:Pz.Ok L i (Pz.pv L .tm i) 1:=Pz.pv_adv L .tm i hle;refine(C0.out sb p cap w2 E1.out.st).mono ?_;rintro e w4 ⟨c,rfl,hf⟩;have ADc:Hid (Pz.Ok L i (Pz.pv L .tm i) 1):=AD;generalize Pz.pv L .tm i=r0 at *;obtain⟨o,j⟩:=r0;obtain⟨tsE3,hE,hc,qE⟩:=E1.out.go hf (qJ _ _ _ _ _ _) (by intro d hd;cases hd);have E3:=hid hE;have Tc:=hid hc;have Uc:=hid qE;clear hf hE hc qE E1
 try dsimp only
 rw[Pz.bnd_goL] at PV;have AD2:Hid (i≤j∧j≤L.length):=⟨ADc.out.1,ADc.out.2.1⟩;go_wp2_with fail;have E5:=hid (E3.out.box c #[.int .i64 c.a.op,.int .i64 c.a.num,.string c.a.name,.slice c.a.ptr (len c.k) c.a.cap] rfl 24);generalize hg7:w4.heap.size=g7 at *;generalize w4.alloc (.cells #[.int .i64 c.a.op,.int .i64 c.a.num,.string c.a.name,.slice c.a.ptr (len c.k) c.a.cap] 24)=w6 at *;clear E3 hg7
 go_loopg [7] (L.length - j) (fun g u wr=>∃(o:Option Ch) (j:Nat) (c:Ch) (ts:List Ch),Hid (g=L.length - j∧i≤j∧j≤L.length∧Pz.Env w wr sb (ks sb L p cap o j) [] [(g7,c),(w.heap.size,Pz.z0)] ts∧(∀x,o=some x→Pz.nr c=x∧c∈ ts)∧Pz.pv L .sm i=Pz.goL (fun x=>Pz.pv L (.smL x) j) o j))
 case atStart=>exact⟨o,j,c,_,rfl,AD2.out.1,AD2.out.2,E5.out,Tc.out,PV.out⟩
 case round =>
  clear E5 Tc Uc PV AD2 ADc C0;obtain⟨o,j,c,ts,HR⟩:=hrel;have E4:=hid HR.out.2.2.2.1;cases o with
  | none =>
    have hr:Pz.pv L .sm i=(none,j):=HR.out.2.2.2.2.2;have HQ:=hid hr;clear hr;go_wp2_with fail;refine(qT sb L p cap j _ _ E4.out.st).mono ?_;rintro e w22 ⟨rfl,hb⟩;have E21:=hid (E4.out.below hb);clear hb E4;go_wp2_with fail;refine(qT sb L p cap j _ _ E21.out.st).mono ?_;rintro e w24 ⟨rfl,hb⟩;have E23:=hid (E21.out.below hb);clear hb E21;obtain⟨qp,qo,qn,qg,qm,ql,qk,qj,qi⟩:=(E23.out.bx (g7,c) (by simp)).1;dsimp only at qp qo qn qg qm ql qk qj qi;obtain⟨qA,qz,qy,qs,qx,qw,qv,qu,qt⟩:=(E23.out.bx (w.heap.size,Pz.z0) (by simp)).1;dsimp only[Pz.z0,len] at qA qz qy qs qx qw qv qu qt;go_wp2;refine bodyPost_ret (v:=.agg #[.int .i64 c.a.op,.int .i64 c.a.num,.string c.a.name,.slice c.a.ptr (len c.k) c.a.cap]) ?_ rfl ?_
    ·rw [qd rfl];go_simp
    ·rw [HQ.out];exact⟨c,rfl,(E23.out.tail).done4 c none (fun x hx=>by cases hx) rfl rfl rfl rfl⟩
  | some x =>
    obtain⟨hx1,hx2⟩:=HR.out.2.2.2.2.1 x rfl;have TX4:=hid (And.intro hx1 hx2);have hr:Pz.pv L .sm i=Pz.pv L (.smL x) j:=HR.out.2.2.2.2.2;rw[Pz.pv_step L (.smL x) j HR.out.2.2.1] at hr;unfold Pz.step at hr;dsimp only at hr;have PV:=hid hr;clear hr hx1 hx2;go_wp2_with fail
    by_cases hw0:Pz.isw L j Pz.wPlus=true
    ·
     have hj:=Pz.isw_lt hw0;rw[if_pos hw0] at PV;refine(yi sb L p cap j _ _ E4.out.st hw0).mono ?_;rintro e w102 ⟨rfl,hs,hg⟩;have E101:=hid (E4.out.grown hs (qZ _ _ _ _ _) hg);clear hs hg E4;clear hw0;go_wp2_with fail;have hij:=HR.out.2.1;have AD:Pz.Ok L (j+1) (Pz.pv L .tm (j+1)) 1:=Pz.pv_adv L .tm (j+1) hj;have ED:=hid (E101.out.below ((Below.refl _ _).drew));have CC:=hid (C1.out (j+1) (by omega) hj sb p cap _ ED.out.st);have AD9:Hid (Pz.Ok L (j+1) (Pz.pv L .tm (j+1)) 1):=AD;generalize Pz.pv L .tm (j+1)=r0 at *;obtain⟨o2,k⟩:=r0;rw[Pz.bnd_goL] at PV;obtain⟨qp,qo,qn,qg,qm,ql,qk,qj,qi⟩:=(E101.out.bx (g7,c) (by simp)).1;dsimp only at qp qo qn qg qm ql qk qj qi;obtain⟨qA,qz,qy,qs,qx,qw,qv,qu,qt⟩:=(E101.out.bx (w.heap.size,Pz.z0) (by simp)).1;dsimp only[Pz.z0,len] at qA qz qy qs qx qw qv qu qt
     go_region_with (go_at_call 210;refine CC.out.mono ?_;rintro e w9 ⟨d,rfl,hf⟩;obtain⟨ts9,hE,hc9,hs9⟩:=ED.out.go hf (qJ _ _ _ _ _ _) (by intro d hd;cases hd);have E9:=hid hE;have Td:=hid hc9;have Ud:=hid hs9;clear hf hE hc9 hs9;obtain⟨n0c0,n0c1,n0c2,n0c3,n0f0,n0f1,n0f2,n0f3,n0l⟩:=(E9.out.bx (g7,c) (by simp)).1;dsimp only at n0c0 n0c1 n0c2 n0c3 n0f0 n0f1 n0f2 n0f3 n0l;obtain⟨n1c0,n1c1,n1c2,n1c3,n1f0,n1f1,n1f2,n1f3,n1l⟩:=(E9.out.bx (w.heap.size,Pz.z0) (by simp)).1;dsimp only[Pz.z0,len] at n1c0 n1c1 n1c2 n1c3 n1f0 n1f1 n1f2 n1f3 n1l;skip)
     all_goals
      go_wp2;have a1:=AD9.out.1;have a2:=AD9.out.2.1;dsimp only at a1 a2;cases o2 with
      | none =>
        obtain⟨tsN,hEN,hTN⟩:=E9.out.putNode [c,d] 8 2 rfl none (fun x hx=>by cases hx) #[.int .i64 c.a.op,.int .i64 c.a.num,.string c.a.name,.slice c.a.ptr (len c.k) c.a.cap,.int .i64 d.a.op,.int .i64 d.a.num,.string d.a.name,.slice d.a.ptr (len d.k) d.a.cap] rfl 24
        go_roundg (L.length - k)
        case rel=>exact⟨none,k,_,tsN,rfl,by omega,a2,hEN,hTN,by rw[PV.out,Pz.goL_none,Pz.goL_none]⟩
        case measure=>have:=HR.out.1;omega
      | some y =>
        obtain⟨tsN,hEN,hTN⟩:=E9.out.putNode [c,d] 8 2 rfl (some (Pz.tn 8 [x,y])) (fun y hy=>by cases hy;exact⟨(by intro q hq;simp only[List.mem_cons,List.not_mem_nil,or_false] at hq;rcases hq with e9|e9;rw[e9];exact(Ud.out _ TX4.out.2);rw[e9];exact(Td.out y rfl).2),(by rw[List.map_cons,List.map_cons,List.map_nil,TX4.out.1,(Td.out y rfl).1])⟩) #[.int .i64 c.a.op,.int .i64 c.a.num,.string c.a.name,.slice c.a.ptr (len c.k) c.a.cap,.int .i64 d.a.op,.int .i64 d.a.num,.string d.a.name,.slice d.a.ptr (len d.k) d.a.cap] rfl 24
        go_roundg (L.length - k)
        case rel=>exact⟨(some (Pz.tn 8 [x,y])),k,_,tsN,rfl,by omega,a2,hEN,hTN,by rw[PV.out,Pz.goL_some,Pz.goL_some]⟩
        case measure=>have:=HR.out.1;omega
    ·
     have hw0':Pz.isw L j Pz.wPlus=false:=(by simpa using hw0);rw[if_neg hw0] at PV;refine(yz sb L p cap j _ _ E4.out.st hw0').mono ?_;rintro e w1002 ⟨rfl,hb⟩;have E1001:=hid (E4.out.below hb);clear hb E4;clear hw0 hw0';go_wp2_with fail
     by_cases hw1:Pz.isw L j Pz.wMinus=true
     ·
      have hj:=Pz.isw_lt hw1;rw[if_pos hw1] at PV;refine(yi sb L p cap j _ _ E1001.out.st hw1).mono ?_;rintro e w202 ⟨rfl,hs,hg⟩;have E201:=hid (E1001.out.grown hs (qZ _ _ _ _ _) hg);clear hs hg E1001;clear hw1;go_wp2_with fail;have hij:=HR.out.2.1;have AD:Pz.Ok L (j+1) (Pz.pv L .tm (j+1)) 1:=Pz.pv_adv L .tm (j+1) hj;have ED:=hid (E201.out.below ((Below.refl _ _).drew));have CC:=hid (C1.out (j+1) (by omega) hj sb p cap _ ED.out.st);have AD9:Hid (Pz.Ok L (j+1) (Pz.pv L .tm (j+1)) 1):=AD;generalize Pz.pv L .tm (j+1)=r0 at *;obtain⟨o2,k⟩:=r0;rw[Pz.bnd_goL] at PV;obtain⟨qp,qo,qn,qg,qm,ql,qk,qj,qi⟩:=(E201.out.bx (g7,c) (by simp)).1;dsimp only at qp qo qn qg qm ql qk qj qi;obtain⟨qA,qz,qy,qs,qx,qw,qv,qu,qt⟩:=(E201.out.bx (w.heap.size,Pz.z0) (by simp)).1;dsimp only[Pz.z0,len] at qA qz qy qs qx qw qv qu qt
      go_region_with (go_at_call 210;refine CC.out.mono ?_;rintro e w9 ⟨d,rfl,hf⟩;obtain⟨ts9,hE,hc9,hs9⟩:=ED.out.go hf (qJ _ _ _ _ _ _) (by intro d hd;cases hd);have E9:=hid hE;have Td:=hid hc9;have Ud:=hid hs9;clear hf hE hc9 hs9;obtain⟨n0c0,n0c1,n0c2,n0c3,n0f0,n0f1,n0f2,n0f3,n0l⟩:=(E9.out.bx (g7,c) (by simp)).1;dsimp only at n0c0 n0c1 n0c2 n0c3 n0f0 n0f1 n0f2 n0f3 n0l;obtain⟨n1c0,n1c1,n1c2,n1c3,n1f0,n1f1,n1f2,n1f3,n1l⟩:=(E9.out.bx (w.heap.size,Pz.z0) (by simp)).1;dsimp only[Pz.z0,len] at n1c0 n1c1 n1c2 n1c3 n1f0 n1f1 n1f2 n1f3 n1l;skip)
      all_goals
       go_wp2;have a1:=AD9.out.1;have a2:=AD9.out.2.1;dsimp only at a1 a2;cases o2 with
       | none =>
         obtain⟨tsN,hEN,hTN⟩:=E9.out.putNode [c,d] 9 2 rfl none (fun x hx=>by cases hx) #[.int .i64 c.a.op,.int .i64 c.a.num,.string c.a.name,.slice c.a.ptr (len c.k) c.a.cap,.int .i64 d.a.op,.int .i64 d.a.num,.string d.a.name,.slice d.a.ptr (len d.k) d.a.cap] rfl 24
         go_roundg (L.length - k)
         case rel=>exact⟨none,k,_,tsN,rfl,by omega,a2,hEN,hTN,by rw[PV.out,Pz.goL_none,Pz.goL_none]⟩
         case measure=>have:=HR.out.1;omega
       | some y =>
         obtain⟨tsN,hEN,hTN⟩:=E9.out.putNode [c,d] 9 2 rfl (some (Pz.tn 9 [x,y])) (fun y hy=>by cases hy;exact⟨(by intro q hq;simp only[List.mem_cons,List.not_mem_nil,or_false] at hq;rcases hq with e9|e9;rw[e9];exact(Ud.out _ TX4.out.2);rw[e9];exact(Td.out y rfl).2),(by rw[List.map_cons,List.map_cons,List.map_nil,TX4.out.1,(Td.out y rfl).1])⟩) #[.int .i64 c.a.op,.int .i64 c.a.num,.string c.a.name,.slice c.a.ptr (len c.k) c.a.cap,.int .i64 d.a.op,.int .i64 d.a.num,.string d.a.name,.slice d.a.ptr (len d.k) d.a.cap] rfl 24
         go_roundg (L.length - k)
         case rel=>exact⟨(some (Pz.tn 9 [x,y])),k,_,tsN,rfl,by omega,a2,hEN,hTN,by rw[PV.out,Pz.goL_some,Pz.goL_some]⟩
         case measure=>have:=HR.out.1;omega
     ·
      have hw1':Pz.isw L j Pz.wMinus=false:=(by simpa using hw1);rw[if_neg hw1] at PV;refine(yz sb L p cap j _ _ E1001.out.st hw1').mono ?_;rintro e w2002 ⟨rfl,hb⟩;have E2001:=hid (E1001.out.below hb);clear hb E1001;clear hw1 hw1';obtain⟨qp,qo,qn,qg,qm,ql,qk,qj,qi⟩:=(E2001.out.bx (g7,c) (by simp)).1;dsimp only at qp qo qn qg qm ql qk qj qi;obtain⟨qA,qz,qy,qs,qx,qw,qv,qu,qt⟩:=(E2001.out.bx (w.heap.size,Pz.z0) (by simp)).1;dsimp only[Pz.z0,len] at qA qz qy qs qx qw qv qu qt;go_wp2;refine bodyPost_ret (v:=.agg #[.int .i64 c.a.op,.int .i64 c.a.num,.string c.a.name,.slice c.a.ptr (len c.k) c.a.cap]) ?_ rfl ?_
      ·rw [qd rfl];go_simp
      ·rw [PV.out];exact⟨c,rfl,(E2001.out.tail).done4 c (some x) (fun y hy=>by cases hy;exact TX4.out) rfl rfl rfl rfl⟩
theorem KV(L:List Tk.T4)(i:Nat)(h0:RC 211 L .fc i)(h1:∀j,i < j→j≤L.length→RC 211 L .fc j):RC 210 L .tm i:=by
 intro sb p cap w h;have C0:=hid h0;have C1:=hid h1;clear h0 h1;have hle:=h.2;have hL4:=h.1.ls.1;have E0:Hid (Pz.Env w w sb (jZ sb L p cap i) [] [] []):=Pz.Env.init h (qZ _ _ _ _ _) (jo h) (by intro c hc;cases hc);have PV:Hid (Pz.pv L .tm i=Pz.step L (Pz.pv L) .tm i):=Pz.pv_step L .tm i hle;unfold Pz.step at PV;dsimp only at PV;clear h;go_enter Tryz.func210,Tryz.ntmps210;go_wp2_with fail;have E1:=hid (E0.out.box Pz.z0 #[.int .i64 0,.int .i64 0,.string ⟨#[]⟩,.slice none 0 0] rfl 24);generalize w.alloc (.cells #[.int .i64 0,.int .i64 0,.string ⟨#[]⟩,.slice none 0 0] 24)=w2 at *;clear E0;have AD:Pz.Ok L i (Pz.pv L .fc i) 1:=Pz.pv_adv L .fc i hle;refine(C0.out sb p cap w2 E1.out.st).mono ?_;rintro e w4 ⟨c,rfl,hf⟩;have ADc:Hid (Pz.Ok L i (Pz.pv L .fc i) 1):=AD;generalize Pz.pv L .fc i=r0 at *;obtain⟨o,j⟩:=r0;obtain⟨tsE3,hE,hc,qE⟩:=E1.out.go hf (qJ _ _ _ _ _ _) (by intro d hd;cases hd);have E3:=hid hE;have Tc:=hid hc;have Uc:=hid qE;clear hf hE hc qE E1
 try dsimp only
 rw[Pz.bnd_goL] at PV;have AD2:Hid (i≤j∧j≤L.length):=⟨ADc.out.1,ADc.out.2.1⟩;go_wp2_with fail;have E5:=hid (E3.out.box c #[.int .i64 c.a.op,.int .i64 c.a.num,.string c.a.name,.slice c.a.ptr (len c.k) c.a.cap] rfl 24);generalize hg7:w4.heap.size=g7 at *;generalize w4.alloc (.cells #[.int .i64 c.a.op,.int .i64 c.a.num,.string c.a.name,.slice c.a.ptr (len c.k) c.a.cap] 24)=w6 at *;clear E3 hg7
 go_loopg [7] (L.length - j) (fun g u wr=>∃(o:Option Ch) (j:Nat) (c:Ch) (ts:List Ch),Hid (g=L.length - j∧i≤j∧j≤L.length∧Pz.Env w wr sb (ks sb L p cap o j) [] [(g7,c),(w.heap.size,Pz.z0)] ts∧(∀x,o=some x→Pz.nr c=x∧c∈ ts)∧Pz.pv L .tm i=Pz.goL (fun x=>Pz.pv L (.tmL x) j) o j))
 case atStart=>exact⟨o,j,c,_,rfl,AD2.out.1,AD2.out.2,E5.out,Tc.out,PV.out⟩
 case round =>
  clear E5 Tc Uc PV AD2 ADc C0;obtain⟨o,j,c,ts,HR⟩:=hrel;have E4:=hid HR.out.2.2.2.1;cases o with
  | none =>
    have hr:Pz.pv L .tm i=(none,j):=HR.out.2.2.2.2.2;have HQ:=hid hr;clear hr;go_wp2_with fail;refine(qT sb L p cap j _ _ E4.out.st).mono ?_;rintro e w22 ⟨rfl,hb⟩;have E21:=hid (E4.out.below hb);clear hb E4;go_wp2_with fail;refine(qT sb L p cap j _ _ E21.out.st).mono ?_;rintro e w24 ⟨rfl,hb⟩;have E23:=hid (E21.out.below hb);clear hb E21;obtain⟨qp,qo,qn,qg,qm,ql,qk,qj,qi⟩:=(E23.out.bx (g7,c) (by simp)).1;dsimp only at qp qo qn qg qm ql qk qj qi;obtain⟨qA,qz,qy,qs,qx,qw,qv,qu,qt⟩:=(E23.out.bx (w.heap.size,Pz.z0) (by simp)).1;dsimp only[Pz.z0,len] at qA qz qy qs qx qw qv qu qt;go_wp2;refine bodyPost_ret (v:=.agg #[.int .i64 c.a.op,.int .i64 c.a.num,.string c.a.name,.slice c.a.ptr (len c.k) c.a.cap]) ?_ rfl ?_
    ·rw [qd rfl];go_simp
    ·rw [HQ.out];exact⟨c,rfl,(E23.out.tail).done4 c none (fun x hx=>by cases hx) rfl rfl rfl rfl⟩
  | some x =>
    obtain⟨hx1,hx2⟩:=HR.out.2.2.2.2.1 x rfl;have TX4:=hid (And.intro hx1 hx2);have hr:Pz.pv L .tm i=Pz.pv L (.tmL x) j:=HR.out.2.2.2.2.2;rw[Pz.pv_step L (.tmL x) j HR.out.2.2.1] at hr;unfold Pz.step at hr;dsimp only at hr;have PV:=hid hr;clear hr hx1 hx2;go_wp2_with fail
    by_cases hw0:Pz.isw L j Pz.wStar=true
    ·
     have hj:=Pz.isw_lt hw0;rw[if_pos hw0] at PV;refine(yi sb L p cap j _ _ E4.out.st hw0).mono ?_;rintro e w102 ⟨rfl,hs,hg⟩;have E101:=hid (E4.out.grown hs (qZ _ _ _ _ _) hg);clear hs hg E4;clear hw0;go_wp2_with fail;have hij:=HR.out.2.1;have AD:Pz.Ok L (j+1) (Pz.pv L .fc (j+1)) 1:=Pz.pv_adv L .fc (j+1) hj;have ED:=hid (E101.out.below ((Below.refl _ _).drew));have CC:=hid (C1.out (j+1) (by omega) hj sb p cap _ ED.out.st);have AD9:Hid (Pz.Ok L (j+1) (Pz.pv L .fc (j+1)) 1):=AD;generalize Pz.pv L .fc (j+1)=r0 at *;obtain⟨o2,k⟩:=r0;rw[Pz.bnd_goL] at PV;obtain⟨qp,qo,qn,qg,qm,ql,qk,qj,qi⟩:=(E101.out.bx (g7,c) (by simp)).1;dsimp only at qp qo qn qg qm ql qk qj qi;obtain⟨qA,qz,qy,qs,qx,qw,qv,qu,qt⟩:=(E101.out.bx (w.heap.size,Pz.z0) (by simp)).1;dsimp only[Pz.z0,len] at qA qz qy qs qx qw qv qu qt
     go_region_with (go_at_call 211;refine CC.out.mono ?_;rintro e w9 ⟨d,rfl,hf⟩;obtain⟨ts9,hE,hc9,hs9⟩:=ED.out.go hf (qJ _ _ _ _ _ _) (by intro d hd;cases hd);have E9:=hid hE;have Td:=hid hc9;have Ud:=hid hs9;clear hf hE hc9 hs9;obtain⟨n0c0,n0c1,n0c2,n0c3,n0f0,n0f1,n0f2,n0f3,n0l⟩:=(E9.out.bx (g7,c) (by simp)).1;dsimp only at n0c0 n0c1 n0c2 n0c3 n0f0 n0f1 n0f2 n0f3 n0l;obtain⟨n1c0,n1c1,n1c2,n1c3,n1f0,n1f1,n1f2,n1f3,n1l⟩:=(E9.out.bx (w.heap.size,Pz.z0) (by simp)).1;dsimp only[Pz.z0,len] at n1c0 n1c1 n1c2 n1c3 n1f0 n1f1 n1f2 n1f3 n1l;skip)
     all_goals
      go_wp2;have a1:=AD9.out.1;have a2:=AD9.out.2.1;dsimp only at a1 a2;cases o2 with
      | none =>
        obtain⟨tsN,hEN,hTN⟩:=E9.out.putNode [c,d] 10 2 rfl none (fun x hx=>by cases hx) #[.int .i64 c.a.op,.int .i64 c.a.num,.string c.a.name,.slice c.a.ptr (len c.k) c.a.cap,.int .i64 d.a.op,.int .i64 d.a.num,.string d.a.name,.slice d.a.ptr (len d.k) d.a.cap] rfl 24
        go_roundg (L.length - k)
        case rel=>exact⟨none,k,_,tsN,rfl,by omega,a2,hEN,hTN,by rw[PV.out,Pz.goL_none,Pz.goL_none]⟩
        case measure=>have:=HR.out.1;omega
      | some y =>
        obtain⟨tsN,hEN,hTN⟩:=E9.out.putNode [c,d] 10 2 rfl (some (Pz.tn 10 [x,y])) (fun y hy=>by cases hy;exact⟨(by intro q hq;simp only[List.mem_cons,List.not_mem_nil,or_false] at hq;rcases hq with e9|e9;rw[e9];exact(Ud.out _ TX4.out.2);rw[e9];exact(Td.out y rfl).2),(by rw[List.map_cons,List.map_cons,List.map_nil,TX4.out.1,(Td.out y rfl).1])⟩) #[.int .i64 c.a.op,.int .i64 c.a.num,.string c.a.name,.slice c.a.ptr (len c.k) c.a.cap,.int .i64 d.a.op,.int .i64 d.a.num,.string d.a.name,.slice d.a.ptr (len d.k) d.a.cap] rfl 24
        go_roundg (L.length - k)
        case rel=>exact⟨(some (Pz.tn 10 [x,y])),k,_,tsN,rfl,by omega,a2,hEN,hTN,by rw[PV.out,Pz.goL_some,Pz.goL_some]⟩
        case measure=>have:=HR.out.1;omega
    ·
     have hw0':Pz.isw L j Pz.wStar=false:=(by simpa using hw0);rw[if_neg hw0] at PV;refine(yz sb L p cap j _ _ E4.out.st hw0').mono ?_;rintro e w1002 ⟨rfl,hb⟩;have E1001:=hid (E4.out.below hb);clear hb E4;clear hw0 hw0';go_wp2_with fail
     by_cases hw1:Pz.isw L j Pz.wSlash=true
     ·
      have hj:=Pz.isw_lt hw1;rw[if_pos hw1] at PV;refine(yi sb L p cap j _ _ E1001.out.st hw1).mono ?_;rintro e w202 ⟨rfl,hs,hg⟩;have E201:=hid (E1001.out.grown hs (qZ _ _ _ _ _) hg);clear hs hg E1001;clear hw1;go_wp2_with fail;have hij:=HR.out.2.1;have AD:Pz.Ok L (j+1) (Pz.pv L .fc (j+1)) 1:=Pz.pv_adv L .fc (j+1) hj;have ED:=hid (E201.out.below ((Below.refl _ _).drew));have CC:=hid (C1.out (j+1) (by omega) hj sb p cap _ ED.out.st);have AD9:Hid (Pz.Ok L (j+1) (Pz.pv L .fc (j+1)) 1):=AD;generalize Pz.pv L .fc (j+1)=r0 at *;obtain⟨o2,k⟩:=r0;rw[Pz.bnd_goL] at PV;obtain⟨qp,qo,qn,qg,qm,ql,qk,qj,qi⟩:=(E201.out.bx (g7,c) (by simp)).1;dsimp only at qp qo qn qg qm ql qk qj qi;obtain⟨qA,qz,qy,qs,qx,qw,qv,qu,qt⟩:=(E201.out.bx (w.heap.size,Pz.z0) (by simp)).1;dsimp only[Pz.z0,len] at qA qz qy qs qx qw qv qu qt
      go_region_with (go_at_call 211;refine CC.out.mono ?_;rintro e w9 ⟨d,rfl,hf⟩;obtain⟨ts9,hE,hc9,hs9⟩:=ED.out.go hf (qJ _ _ _ _ _ _) (by intro d hd;cases hd);have E9:=hid hE;have Td:=hid hc9;have Ud:=hid hs9;clear hf hE hc9 hs9;obtain⟨n0c0,n0c1,n0c2,n0c3,n0f0,n0f1,n0f2,n0f3,n0l⟩:=(E9.out.bx (g7,c) (by simp)).1;dsimp only at n0c0 n0c1 n0c2 n0c3 n0f0 n0f1 n0f2 n0f3 n0l;obtain⟨n1c0,n1c1,n1c2,n1c3,n1f0,n1f1,n1f2,n1f3,n1l⟩:=(E9.out.bx (w.heap.size,Pz.z0) (by simp)).1;dsimp only[Pz.z0,len] at n1c0 n1c1 n1c2 n1c3 n1f0 n1f1 n1f2 n1f3 n1l;skip)
      all_goals
       go_wp2;have a1:=AD9.out.1;have a2:=AD9.out.2.1;dsimp only at a1 a2;cases o2 with
       | none =>
         obtain⟨tsN,hEN,hTN⟩:=E9.out.putNode [c,d] 11 2 rfl none (fun x hx=>by cases hx) #[.int .i64 c.a.op,.int .i64 c.a.num,.string c.a.name,.slice c.a.ptr (len c.k) c.a.cap,.int .i64 d.a.op,.int .i64 d.a.num,.string d.a.name,.slice d.a.ptr (len d.k) d.a.cap] rfl 24
         go_roundg (L.length - k)
         case rel=>exact⟨none,k,_,tsN,rfl,by omega,a2,hEN,hTN,by rw[PV.out,Pz.goL_none,Pz.goL_none]⟩
         case measure=>have:=HR.out.1;omega
       | some y =>
         obtain⟨tsN,hEN,hTN⟩:=E9.out.putNode [c,d] 11 2 rfl (some (Pz.tn 11 [x,y])) (fun y hy=>by cases hy;exact⟨(by intro q hq;simp only[List.mem_cons,List.not_mem_nil,or_false] at hq;rcases hq with e9|e9;rw[e9];exact(Ud.out _ TX4.out.2);rw[e9];exact(Td.out y rfl).2),(by rw[List.map_cons,List.map_cons,List.map_nil,TX4.out.1,(Td.out y rfl).1])⟩) #[.int .i64 c.a.op,.int .i64 c.a.num,.string c.a.name,.slice c.a.ptr (len c.k) c.a.cap,.int .i64 d.a.op,.int .i64 d.a.num,.string d.a.name,.slice d.a.ptr (len d.k) d.a.cap] rfl 24
         go_roundg (L.length - k)
         case rel=>exact⟨(some (Pz.tn 11 [x,y])),k,_,tsN,rfl,by omega,a2,hEN,hTN,by rw[PV.out,Pz.goL_some,Pz.goL_some]⟩
         case measure=>have:=HR.out.1;omega
     ·
      have hw1':Pz.isw L j Pz.wSlash=false:=(by simpa using hw1);rw[if_neg hw1] at PV;refine(yz sb L p cap j _ _ E1001.out.st hw1').mono ?_;rintro e w2002 ⟨rfl,hb⟩;have E2001:=hid (E1001.out.below hb);clear hb E1001;clear hw1 hw1';obtain⟨qp,qo,qn,qg,qm,ql,qk,qj,qi⟩:=(E2001.out.bx (g7,c) (by simp)).1;dsimp only at qp qo qn qg qm ql qk qj qi;obtain⟨qA,qz,qy,qs,qx,qw,qv,qu,qt⟩:=(E2001.out.bx (w.heap.size,Pz.z0) (by simp)).1;dsimp only[Pz.z0,len] at qA qz qy qs qx qw qv qu qt;go_wp2;refine bodyPost_ret (v:=.agg #[.int .i64 c.a.op,.int .i64 c.a.num,.string c.a.name,.slice c.a.ptr (len c.k) c.a.cap]) ?_ rfl ?_
      ·rw [qd rfl];go_simp
      ·rw [PV.out];exact⟨c,rfl,(E2001.out.tail).done4 c (some x) (fun y hy=>by cases hy;exact TX4.out) rfl rfl rfl rfl⟩
end Go.Proofs.YtcejjdmnlejbaaaGreatDoor
