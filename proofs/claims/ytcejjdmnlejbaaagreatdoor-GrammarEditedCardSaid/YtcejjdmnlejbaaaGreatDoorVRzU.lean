import Derived.Test.YtcejjdmnlejbaaaGreatDoorVRzR
import Derived.Test.YtcejjdmnlejbaaaGreatDoorVPzT
namespace Go.Proofs.YtcejjdmnlejbaaaGreatDoor
open Lib(hid)
set_option linter.unusedVariables false
set_option linter.unusedSimpArgs false
open Go.ChangeShapes Go.WideShapes Go.ChangeAt Go.RowKit
open Go.Deep (BT)
set_option maxHeartbeats 8000000
set_option maxRecDepth 100000
theorem U6(L : List Tk.T4)(i:Nat)(hV:∀t∈ L,VT t.t)(h1:∀j,i < j→j≤L.length→RC 211 L .fc j)(h2:∀j,i < j→j≤L.length→RC 133 L .ex j)(h3:i < L.length→∀op,((op=12∧Pz.isw L i Pz.wMax=false)∨(op=13∧Pz.isw L i Pz.wMax=true))→RX L op i):RC 211 L .fc i:=by
 intro sb p cap w h;have C1:=hid h1;have C2:=hid h2;have C3:=hid h3;have HV:=hid hV;clear h1 h2 h3 hV;have hle:=h.2;have hL4:=h.1.ls.1;have E0:Hid (Pz.Env w w sb (jZ sb L p cap i) [] [] []):=Pz.Env.init h (qZ _ _ _ _ _) (jo h) (by intro c hc;cases hc);have PV:Hid (Pz.pv L .fc i=Pz.step L (Pz.pv L) .fc i):=Pz.pv_step L .fc i hle;unfold Pz.step at PV;dsimp only at PV;clear h;go_enter Tryz.func211,Tryz.ntmps211;go_wp2_with fail;have E1:=hid (E0.out.box Pz.z0 #[.int .i64 0,.int .i64 0,.string ⟨#[]⟩,.slice none 0 0] rfl 24);generalize w.alloc (.cells #[.int .i64 0,.int .i64 0,.string ⟨#[]⟩,.slice none 0 0] 24)=w2 at *;clear E0;have hb0:¬(0:Int)≤ -1:=by omega
 have c0:=E1.out.st.1.c0;have c1:=E1.out.st.1.c1;have c2:=E1.out.st.1.c2;have sl:=E1.out.st.1.lt
 by_cases hi:i < L.length
 ·
  have hi':¬(L.length:Int)≤(i:Int):=by omega
  go_quiet (fail)
  go_wp2_with fail;have ED:=hid (E1.out.below (below_drewN (Below.refl _ _) nq));generalize w2.drewN nq=w9 at *;clear E1 c0 c1 c2 sl
  by_cases hw0:Pz.isw L i Pz.wMinus=true
  ·
   have hj:=Pz.isw_lt hw0;rw[if_pos hw0] at PV;refine(yi sb L p cap i _ _ ED.out.st hw0).mono ?_;rintro e w102 ⟨rfl,hs,hg⟩;have E101:=hid (ED.out.grown hs (qZ _ _ _ _ _) hg);clear hs hg ED;clear hw0;go_wp2_with fail;have AD:Pz.Ok L (i+1) (Pz.pv L .fc (i+1)) 1:=Pz.pv_adv L .fc (i+1) hj;refine(C1.out (i+1) (by omega) hj sb p cap w102 E101.out.st).mono ?_;rintro e w104 ⟨c,rfl,hf⟩;have ADc:Hid (Pz.Ok L (i+1) (Pz.pv L .fc (i+1)) 1):=AD;generalize Pz.pv L .fc (i+1)=r0 at *;obtain⟨o,k⟩:=r0;obtain⟨tsE103,hE,hc,qE⟩:=E101.out.go hf (qJ _ _ _ _ _ _) (by intro d hd;cases hd);have E103:=hid hE;have Tc:=hid hc;have Uc:=hid qE;clear hf hE hc qE E101
   try dsimp only
   rw[Pz.bnd_goL] at PV;obtain⟨qp,qo,qn,qg,qm,ql,qk,qj,qi⟩:=(E103.out.bx (w.heap.size,Pz.z0) (by simp)).1;dsimp only[Pz.z0,len] at qp qo qn qg qm ql qk qj qi;cases o with
   | none =>
     go_wp2;refine bodyPost_ret (v:=.agg #[.int .i64 7,.int .i64 0,.string ⟨#[]⟩,.slice (some ⟨w104.heap.size,0,none⟩) 1 1]) ?_ rfl ?_
     ·rw [qd rfl];go_simp
     ·rw [PV.out,Pz.goL_none];exact⟨(⟨w104.heap.size,0,⟨7,0,⟨#[]⟩,some ⟨w104.heap.size,0,none⟩,1⟩,qH [c]⟩:Ch),rfl,(E103.out).done_node [c] 7 1 rfl none (fun x hx=>by cases hx) _ rfl _⟩
   | some x =>
     go_wp2;refine bodyPost_ret (v:=.agg #[.int .i64 7,.int .i64 0,.string ⟨#[]⟩,.slice (some ⟨w104.heap.size,0,none⟩) 1 1]) ?_ rfl ?_
     ·rw [qd rfl];go_simp
     ·rw [PV.out,Pz.goL_some];exact⟨(⟨w104.heap.size,0,⟨7,0,⟨#[]⟩,some ⟨w104.heap.size,0,none⟩,1⟩,qH [c]⟩:Ch),rfl,(E103.out).done_node [c] 7 1 rfl (some (Pz.tn 7 [x])) (fun y hy=>by cases hy;exact⟨(by intro q hq;simp only[List.mem_cons,List.not_mem_nil,or_false] at hq;rw[hq];exact(Tc.out x rfl).2),(by rw[List.map_cons,List.map_nil,(Tc.out x rfl).1])⟩) _ rfl _⟩
  ·
   have hw0':Pz.isw L i Pz.wMinus=false:=(by simpa using hw0);rw[if_neg hw0] at PV;refine(yz sb L p cap i _ _ ED.out.st hw0').mono ?_;rintro e w1002 ⟨rfl,hb⟩;have E1001:=hid (ED.out.below hb);clear hb ED;clear hw0 hw0';go_wp2_with fail
   by_cases hw1:Pz.isw L i Pz.wTrue=true
   ·
    have hj:=Pz.isw_lt hw1;rw[if_pos hw1] at PV;refine(yi sb L p cap i _ _ E1001.out.st hw1).mono ?_;rintro e w202 ⟨rfl,hs,hg⟩;have E201:=hid (E1001.out.grown hs (qZ _ _ _ _ _) hg);clear hs hg E1001;clear hw1;obtain⟨qp,qo,qn,qg,qm,ql,qk,qj,qi⟩:=(E201.out.bx (w.heap.size,Pz.z0) (by simp)).1;dsimp only[Pz.z0,len] at qp qo qn qg qm ql qk qj qi;have EL:=hid (E201.out.leaf 4 0 ⟨#[]⟩);go_wp2;refine bodyPost_ret (v:=.agg #[.int .i64 4,.int .i64 0,.string ⟨#[]⟩,.slice none 0 0]) ?_ rfl ?_
    ·rw [qd rfl];go_simp
    ·rw [PV.out];exact⟨Pz.lf 4 0 ⟨#[]⟩,rfl,EL.out.done4 (Pz.lf 4 0 ⟨#[]⟩) (some (Pz.lf 4 0 ⟨#[]⟩)) (fun z hz=>by cases hz;exact⟨rfl,by simp⟩) rfl rfl rfl rfl⟩
   ·
    have hw1':Pz.isw L i Pz.wTrue=false:=(by simpa using hw1);rw[if_neg hw1] at PV;refine(yz sb L p cap i _ _ E1001.out.st hw1').mono ?_;rintro e w2002 ⟨rfl,hb⟩;have E2001:=hid (E1001.out.below hb);clear hb E1001;clear hw1 hw1';go_wp2_with fail
    by_cases hw2:Pz.isw L i Pz.wFalse=true
    ·
     have hj:=Pz.isw_lt hw2;rw[if_pos hw2] at PV;refine(yi sb L p cap i _ _ E2001.out.st hw2).mono ?_;rintro e w302 ⟨rfl,hs,hg⟩;have E301:=hid (E2001.out.grown hs (qZ _ _ _ _ _) hg);clear hs hg E2001;clear hw2;obtain⟨qp,qo,qn,qg,qm,ql,qk,qj,qi⟩:=(E301.out.bx (w.heap.size,Pz.z0) (by simp)).1;dsimp only[Pz.z0,len] at qp qo qn qg qm ql qk qj qi;have EL:=hid (E301.out.leaf 5 0 ⟨#[]⟩);go_wp2;refine bodyPost_ret (v:=.agg #[.int .i64 5,.int .i64 0,.string ⟨#[]⟩,.slice none 0 0]) ?_ rfl ?_
     ·rw [qd rfl];go_simp
     ·rw [PV.out];exact⟨Pz.lf 5 0 ⟨#[]⟩,rfl,EL.out.done4 (Pz.lf 5 0 ⟨#[]⟩) (some (Pz.lf 5 0 ⟨#[]⟩)) (fun z hz=>by cases hz;exact⟨rfl,by simp⟩) rfl rfl rfl rfl⟩
    ·
     have hw2':Pz.isw L i Pz.wFalse=false:=(by simpa using hw2);rw[if_neg hw2] at PV;refine(yz sb L p cap i _ _ E2001.out.st hw2').mono ?_;rintro e w3002 ⟨rfl,hb⟩;have E3001:=hid (E2001.out.below hb);clear hb E2001;clear hw2 hw2';go_wp2_with fail
     by_cases hw3:Pz.isw L i Pz.wMin=true
     ·
      have hj:=Pz.isw_lt hw3;rw[if_pos hw3] at PV;refine(j8 sb L p cap i Pz.wMin _ E3001.out.st).mono ?_;rintro e w402 ⟨he,hb⟩;rw[hw3] at he;subst he;have E401:=hid (E3001.out.below hb);clear hb E3001
      have hx:Pz.isw L i Pz.wMax=false:=by
       cases hq:Pz.isw L i Pz.wMax with
       | false=>rfl
       | true=>exact absurd (Yb hw3 hq) (by decide)
      have CX:=hid (C3.out hi 12 (.inl ⟨rfl,hx⟩));clear hx;clear hw3;go_wp2_with fail;have AD:Pz.Ok L (i+1) (Pz.pv L (.li 12) (i+1)) 1:=Pz.pv_adv L (.li 12) (i+1) hj;refine(CX.out sb p cap w402 E401.out.st).mono ?_;rintro e w404 ⟨d,rfl,hf⟩;have ADd:Hid (Pz.Ok L (i+1) (Pz.pv L (.li 12) (i+1)) 1):=AD;generalize Pz.pv L (.li 12) (i+1)=r0 at *;obtain⟨o,k⟩:=r0;obtain⟨tsE403,hE,hc,qE⟩:=E401.out.go hf (qJ _ _ _ _ _ _) (by intro d hd;cases hd);have E403:=hid hE;have Td:=hid hc;have Ud:=hid qE;clear hf hE hc qE E401
      try dsimp only
      obtain⟨qp,qo,qn,qg,qm,ql,qk,qj,qi⟩:=(E403.out.bx (w.heap.size,Pz.z0) (by simp)).1;dsimp only[Pz.z0,len] at qp qo qn qg qm ql qk qj qi;go_wp2;refine bodyPost_ret (v:=.agg #[.int .i64 d.a.op,.int .i64 d.a.num,.string d.a.name,.slice d.a.ptr (len d.k) d.a.cap]) ?_ rfl ?_
      ·rw [qd rfl];go_simp
      ·rw [PV.out];exact⟨d,rfl,(E403.out).done4 d o Td.out rfl rfl rfl rfl⟩
     ·
      have hw3':Pz.isw L i Pz.wMin=false:=(by simpa using hw3);rw[if_neg hw3] at PV;refine(j8 sb L p cap i Pz.wMin _ E3001.out.st).mono ?_;rintro e w4002 ⟨he,hb⟩;rw[hw3'] at he;subst he;have E4001:=hid (E3001.out.below hb);clear hb E3001;go_wp2_with fail
      by_cases hw4:Pz.isw L i Pz.wMax=true
      ·
       have hj:=Pz.isw_lt hw4;rw[if_pos hw4] at PV;refine(j8 sb L p cap i Pz.wMax _ E4001.out.st).mono ?_;rintro e w502 ⟨he,hb⟩;rw[hw4] at he;subst he;have E501:=hid (E4001.out.below hb);clear hb E4001;have CX:=hid (C3.out hi 13 (.inr ⟨rfl,hw4⟩));clear hw4;go_wp2_with fail;have AD:Pz.Ok L (i+1) (Pz.pv L (.li 13) (i+1)) 1:=Pz.pv_adv L (.li 13) (i+1) hj;refine(CX.out sb p cap w502 E501.out.st).mono ?_;rintro e w504 ⟨d,rfl,hf⟩;have ADd:Hid (Pz.Ok L (i+1) (Pz.pv L (.li 13) (i+1)) 1):=AD;generalize Pz.pv L (.li 13) (i+1)=r0 at *;obtain⟨o,k⟩:=r0;obtain⟨tsE503,hE,hc,qE⟩:=E501.out.go hf (qJ _ _ _ _ _ _) (by intro d hd;cases hd);have E503:=hid hE;have Td:=hid hc;have Ud:=hid qE;clear hf hE hc qE E501
       try dsimp only
       obtain⟨qp,qo,qn,qg,qm,ql,qk,qj,qi⟩:=(E503.out.bx (w.heap.size,Pz.z0) (by simp)).1;dsimp only[Pz.z0,len] at qp qo qn qg qm ql qk qj qi;go_wp2;refine bodyPost_ret (v:=.agg #[.int .i64 d.a.op,.int .i64 d.a.num,.string d.a.name,.slice d.a.ptr (len d.k) d.a.cap]) ?_ rfl ?_
       ·rw [qd rfl];go_simp
       ·rw [PV.out];exact⟨d,rfl,(E503.out).done4 d o Td.out rfl rfl rfl rfl⟩
      ·
       have hw4':Pz.isw L i Pz.wMax=false:=(by simpa using hw4);rw[if_neg hw4] at PV;refine(j8 sb L p cap i Pz.wMax _ E4001.out.st).mono ?_;rintro e w5002 ⟨he,hb⟩;rw[hw4'] at he;subst he;have E5001:=hid (E4001.out.below hb);clear hb E4001;clear hw4 hw4';go_wp2_with fail
       by_cases hw5:Pz.isw L i Pz.wIf=true
       ·
        have hj:=Pz.isw_lt hw5;rw[if_pos hw5] at PV;refine(yi sb L p cap i _ _ E5001.out.st hw5).mono ?_;rintro e w602 ⟨rfl,hs,hg⟩;have E601:=hid (E5001.out.grown hs (qZ _ _ _ _ _) hg);clear hs hg E5001;clear hw5;go_wp2_with fail;have AD:Pz.Ok L (i+1) (Pz.pv L .ex (i+1)) 1:=Pz.pv_adv L .ex (i+1) hj;refine(C2.out (i+1) (by omega) hj sb p cap w602 E601.out.st).mono ?_;rintro e w604 ⟨a,rfl,hf⟩;have ADa:Hid (Pz.Ok L (i+1) (Pz.pv L .ex (i+1)) 1):=AD;generalize Pz.pv L .ex (i+1)=r0 at *;obtain⟨o,j⟩:=r0;obtain⟨tsE603,hE,hc,qE⟩:=E601.out.go hf (qJ _ _ _ _ _ _) (by intro d hd;cases hd);have E603:=hid hE;have Ta:=hid hc;have Ua:=hid qE;clear hf hE hc qE E601
        try dsimp only
        rw[Pz.bnd_goL] at PV;go_upto_region 13 with (fail);have E605:=hid (E603.out.box a #[.int .i64 a.a.op,.int .i64 a.a.num,.string a.a.name,.slice a.a.ptr (len a.k) a.a.cap] rfl 24);generalize hg607:w604.heap.size=g607 at *;generalize w604.alloc (.cells #[.int .i64 a.a.op,.int .i64 a.a.num,.string a.a.name,.slice a.a.ptr (len a.k) a.a.cap] 24)=w606 at *;clear E603 hg607;go_wp2_with fail;cases o with
        | none =>
          rw[Pz.goL_none] at PV;refine(zq sb L p cap j _ _ E605.out.st).mono ?_;rintro e w609 ⟨rfl,hb⟩;have E608:=hid (E605.out.below hb);clear hb E605;go_wp2_with fail;refine(KS L sb p cap j w609 E608.out.st).mono ?_;rintro e w611 ⟨b,rfl,hf⟩;obtain⟨tsE610,hE,hc,qE⟩:=E608.out.go hf (qJ _ _ _ _ _ _) (by intro d hd;cases hd);have E610:=hid hE;have Tb:=hid hc;have Ub:=hid qE;clear hf hE hc qE E608
          try dsimp only
          go_upto_region 15 with (fail);have E612:=hid (E610.out.box b #[.int .i64 b.a.op,.int .i64 b.a.num,.string b.a.name,.slice b.a.ptr (len b.k) b.a.cap] rfl 24);generalize hg614:w611.heap.size=g614 at *;generalize w611.alloc (.cells #[.int .i64 b.a.op,.int .i64 b.a.num,.string b.a.name,.slice b.a.ptr (len b.k) b.a.cap] 24)=w613 at *;clear E610 hg614;go_wp2_with fail;refine(zq sb L p cap j _ _ E612.out.st).mono ?_;rintro e w616 ⟨rfl,hb⟩;have E615:=hid (E612.out.below hb);clear hb E612;go_wp2_with fail;have ED:=hid (E615.out.below ((Below.refl _ _).drew));have CC:=hid (KS L sb p cap j _ ED.out.st);obtain⟨qp,qo,qn,qg,qm,ql,qk,qj,qi⟩:=(E615.out.bx (g614,b) (by simp)).1;dsimp only at qp qo qn qg qm ql qk qj qi;obtain⟨qA,qz,qy,qs,qx,qw,qv,qu,qt⟩:=(E615.out.bx (g607,a) (by simp)).1;dsimp only at qA qz qy qs qx qw qv qu qt;obtain⟨yy,yx,yw,yv,yu,yt,ys,yr,yq⟩:=(E615.out.bx (w.heap.size,Pz.z0) (by simp)).1;dsimp only[Pz.z0,len] at yy yx yw yv yu yt ys yr yq
          go_region_with (go_at_call 133;refine CC.out.mono ?_;rintro e w9 ⟨cc,rfl,hf⟩;obtain⟨ts9,hE,hc9,hs9⟩:=ED.out.go hf (qJ _ _ _ _ _ _) (by intro d hd;cases hd);have E9:=hid hE;have Tcc:=hid hc9;have Ucc:=hid hs9;clear hf hE hc9 hs9;obtain⟨n0c0,n0c1,n0c2,n0c3,n0f0,n0f1,n0f2,n0f3,n0l⟩:=(E9.out.bx (g614,b) (by simp)).1;dsimp only at n0c0 n0c1 n0c2 n0c3 n0f0 n0f1 n0f2 n0f3 n0l;obtain⟨n1c0,n1c1,n1c2,n1c3,n1f0,n1f1,n1f2,n1f3,n1l⟩:=(E9.out.bx (g607,a) (by simp)).1;dsimp only at n1c0 n1c1 n1c2 n1c3 n1f0 n1f1 n1f2 n1f3 n1l;obtain⟨n2c0,n2c1,n2c2,n2c3,n2f0,n2f1,n2f2,n2f3,n2l⟩:=(E9.out.bx (w.heap.size,Pz.z0) (by simp)).1;dsimp only[Pz.z0,len] at n2c0 n2c1 n2c2 n2c3 n2f0 n2f1 n2f2 n2f3 n2l;skip)
          all_goals
           go_wp2;refine bodyPost_ret (v:=.agg #[.int .i64 14,.int .i64 0,.string ⟨#[]⟩,.slice (some ⟨w9.heap.size,0,none⟩) 3 3]) ?_ rfl ?_
           ·rw [qd rfl];go_simp
           ·rw [PV.out];exact⟨(⟨w9.heap.size,0,⟨14,0,⟨#[]⟩,some ⟨w9.heap.size,0,none⟩,3⟩,qH [a,b,cc]⟩:Ch),rfl,(E9.out.tail.tail).done_node [a,b,cc] 14 3 rfl none (fun x hx=>by cases hx) _ rfl _⟩
        | some x =>
          rw[Pz.goL_some] at PV;have hij:=ADa.out.2.2 rfl;dsimp only at hij
          by_cases ht:Pz.isw L j Pz.wThen=true
          ·
           have hk:=Pz.isw_lt ht;rw[if_pos ht] at PV;refine(zE sb L p cap j _ _ E605.out.st ht).mono ?_;rintro e w709 ⟨rfl,hs,hg⟩;have E708:=hid (E605.out.grown hs (qZ _ _ _ _ _) hg);clear hs hg E605;clear ht;go_wp2_with fail;have AD:Pz.Ok L (j+1) (Pz.pv L .ex (j+1)) 1:=Pz.pv_adv L .ex (j+1) hk;refine(C2.out (j+1) (by omega) hk sb p cap w709 E708.out.st).mono ?_;rintro e w711 ⟨b,rfl,hf⟩;have ADb:Hid (Pz.Ok L (j+1) (Pz.pv L .ex (j+1)) 1):=AD;generalize Pz.pv L .ex (j+1)=r0 at *;obtain⟨o2,k⟩:=r0;obtain⟨tsE710,hE,hc,qE⟩:=E708.out.go hf (qJ _ _ _ _ _ _) (by intro d hd;cases hd);have E710:=hid hE;have Tb:=hid hc;have Ub:=hid qE;clear hf hE hc qE E708
           try dsimp only
           rw[Pz.bnd_goL] at PV;go_upto_region 15 with (fail);have E712:=hid (E710.out.box b #[.int .i64 b.a.op,.int .i64 b.a.num,.string b.a.name,.slice b.a.ptr (len b.k) b.a.cap] rfl 24);generalize hg714:w711.heap.size=g714 at *;generalize w711.alloc (.cells #[.int .i64 b.a.op,.int .i64 b.a.num,.string b.a.name,.slice b.a.ptr (len b.k) b.a.cap] 24)=w713 at *;clear E710 hg714;go_wp2_with fail;cases o2 with
           | none =>
             rw[Pz.goL_none] at PV;refine(zq sb L p cap k _ _ E712.out.st).mono ?_;rintro e w716 ⟨rfl,hb⟩;have E715:=hid (E712.out.below hb);clear hb E712;go_wp2_with fail;have ED:=hid (E715.out.below ((Below.refl _ _).drew));have CC:=hid (KS L sb p cap k _ ED.out.st);obtain⟨qp,qo,qn,qg,qm,ql,qk,qj,qi⟩:=(E715.out.bx (g714,b) (by simp)).1;dsimp only at qp qo qn qg qm ql qk qj qi;obtain⟨qA,qz,qy,qs,qx,qw,qv,qu,qt⟩:=(E715.out.bx (g607,a) (by simp)).1;dsimp only at qA qz qy qs qx qw qv qu qt;obtain⟨yy,yx,yw,yv,yu,yt,ys,yr,yq⟩:=(E715.out.bx (w.heap.size,Pz.z0) (by simp)).1;dsimp only[Pz.z0,len] at yy yx yw yv yu yt ys yr yq
             go_region_with (go_at_call 133;refine CC.out.mono ?_;rintro e w9 ⟨cc,rfl,hf⟩;obtain⟨ts9,hE,hc9,hs9⟩:=ED.out.go hf (qJ _ _ _ _ _ _) (by intro d hd;cases hd);have E9:=hid hE;have Tcc:=hid hc9;have Ucc:=hid hs9;clear hf hE hc9 hs9;obtain⟨n0c0,n0c1,n0c2,n0c3,n0f0,n0f1,n0f2,n0f3,n0l⟩:=(E9.out.bx (g714,b) (by simp)).1;dsimp only at n0c0 n0c1 n0c2 n0c3 n0f0 n0f1 n0f2 n0f3 n0l;obtain⟨n1c0,n1c1,n1c2,n1c3,n1f0,n1f1,n1f2,n1f3,n1l⟩:=(E9.out.bx (g607,a) (by simp)).1;dsimp only at n1c0 n1c1 n1c2 n1c3 n1f0 n1f1 n1f2 n1f3 n1l;obtain⟨n2c0,n2c1,n2c2,n2c3,n2f0,n2f1,n2f2,n2f3,n2l⟩:=(E9.out.bx (w.heap.size,Pz.z0) (by simp)).1;dsimp only[Pz.z0,len] at n2c0 n2c1 n2c2 n2c3 n2f0 n2f1 n2f2 n2f3 n2l;skip)
             all_goals
              go_wp2;refine bodyPost_ret (v:=.agg #[.int .i64 14,.int .i64 0,.string ⟨#[]⟩,.slice (some ⟨w9.heap.size,0,none⟩) 3 3]) ?_ rfl ?_
              ·rw [qd rfl];go_simp
              ·rw [PV.out];exact⟨(⟨w9.heap.size,0,⟨14,0,⟨#[]⟩,some ⟨w9.heap.size,0,none⟩,3⟩,qH [a,b,cc]⟩:Ch),rfl,(E9.out.tail.tail).done_node [a,b,cc] 14 3 rfl none (fun x hx=>by cases hx) _ rfl _⟩
           | some y =>
             rw[Pz.goL_some] at PV;have hjk:=ADb.out.2.2 rfl;dsimp only at hjk
             by_cases ht:Pz.isw L k Pz.wElse=true
             ·
              have hm:=Pz.isw_lt ht;rw[if_pos ht] at PV;refine(zE sb L p cap k _ _ E712.out.st ht).mono ?_;rintro e w816 ⟨rfl,hs,hg⟩;have E815:=hid (E712.out.grown hs (qZ _ _ _ _ _) hg);clear hs hg E712;clear ht;go_wp2_with fail;have AD:Pz.Ok L (k+1) (Pz.pv L .ex (k+1)) 1:=Pz.pv_adv L .ex (k+1) hm;have ED:=hid (E815.out.below ((Below.refl _ _).drew));have CC:=hid (C2.out (k+1) (by omega) hm sb p cap _ ED.out.st);have AD9:Hid (Pz.Ok L (k+1) (Pz.pv L .ex (k+1)) 1):=AD;generalize Pz.pv L .ex (k+1)=r0 at *;obtain⟨o3,m⟩:=r0;rw[Pz.bnd_goL] at PV;obtain⟨qp,qo,qn,qg,qm,ql,qk,qj,qi⟩:=(E815.out.bx (g714,b) (by simp)).1;dsimp only at qp qo qn qg qm ql qk qj qi;obtain⟨qA,qz,qy,qs,qx,qw,qv,qu,qt⟩:=(E815.out.bx (g607,a) (by simp)).1;dsimp only at qA qz qy qs qx qw qv qu qt;obtain⟨yy,yx,yw,yv,yu,yt,ys,yr,yq⟩:=(E815.out.bx (w.heap.size,Pz.z0) (by simp)).1;dsimp only[Pz.z0,len] at yy yx yw yv yu yt ys yr yq
              go_region_with (go_at_call 133;refine CC.out.mono ?_;rintro e w9 ⟨cc,rfl,hf⟩;obtain⟨ts9,hE,hc9,hs9⟩:=ED.out.go hf (qJ _ _ _ _ _ _) (by intro d hd;cases hd);have E9:=hid hE;have Tcc:=hid hc9;have Ucc:=hid hs9;clear hf hE hc9 hs9;obtain⟨n0c0,n0c1,n0c2,n0c3,n0f0,n0f1,n0f2,n0f3,n0l⟩:=(E9.out.bx (g714,b) (by simp)).1;dsimp only at n0c0 n0c1 n0c2 n0c3 n0f0 n0f1 n0f2 n0f3 n0l;obtain⟨n1c0,n1c1,n1c2,n1c3,n1f0,n1f1,n1f2,n1f3,n1l⟩:=(E9.out.bx (g607,a) (by simp)).1;dsimp only at n1c0 n1c1 n1c2 n1c3 n1f0 n1f1 n1f2 n1f3 n1l;obtain⟨n2c0,n2c1,n2c2,n2c3,n2f0,n2f1,n2f2,n2f3,n2l⟩:=(E9.out.bx (w.heap.size,Pz.z0) (by simp)).1;dsimp only[Pz.z0,len] at n2c0 n2c1 n2c2 n2c3 n2f0 n2f1 n2f2 n2f3 n2l;skip)
              all_goals
               cases o3 with
               | none =>
                 go_wp2;refine bodyPost_ret (v:=.agg #[.int .i64 14,.int .i64 0,.string ⟨#[]⟩,.slice (some ⟨w9.heap.size,0,none⟩) 3 3]) ?_ rfl ?_
                 ·rw [qd rfl];go_simp
                 ·rw [PV.out,Pz.goL_none];exact⟨(⟨w9.heap.size,0,⟨14,0,⟨#[]⟩,some ⟨w9.heap.size,0,none⟩,3⟩,qH [a,b,cc]⟩:Ch),rfl,(E9.out.tail.tail).done_node [a,b,cc] 14 3 rfl none (fun x hx=>by cases hx) _ rfl _⟩
               | some z =>
                 go_wp2;refine bodyPost_ret (v:=.agg #[.int .i64 14,.int .i64 0,.string ⟨#[]⟩,.slice (some ⟨w9.heap.size,0,none⟩) 3 3]) ?_ rfl ?_
                 ·rw [qd rfl];go_simp
                 ·rw [PV.out,Pz.goL_some];exact⟨(⟨w9.heap.size,0,⟨14,0,⟨#[]⟩,some ⟨w9.heap.size,0,none⟩,3⟩,qH [a,b,cc]⟩:Ch),rfl,(E9.out.tail.tail).done_node [a,b,cc] 14 3 rfl (some (Pz.tn 14 [x,y,z])) (fun y hy=>by cases hy;exact⟨(by intro q hq;simp only[List.mem_cons,List.not_mem_nil,or_false] at hq;rcases hq with e9|e9|e9;rw[e9];exact(Ucc.out _ (Ub.out _ (Ta.out x rfl).2));rw[e9];exact(Ucc.out _ (Tb.out y rfl).2);rw[e9];exact(Tcc.out z rfl).2),(by rw[List.map_cons,List.map_cons,List.map_cons,List.map_nil,(Ta.out x rfl).1,(Tb.out y rfl).1,(Tcc.out z rfl).1])⟩) _ rfl _⟩
             ·
              have ht':Pz.isw L k Pz.wElse=false:=(by simpa using ht);rw[if_neg ht] at PV;refine(j6 sb L p cap k _ _ E712.out.st ht').mono ?_;rintro e w1016 ⟨rfl,hs,hg⟩;have E1015:=hid (E712.out.grown hs (zS _ _ _ _ _) hg);clear hs hg E712;clear ht ht';go_wp2_with fail;have ED:=hid (E1015.out.below ((Below.refl _ _).drew));have CC:=hid (KS L sb p cap k _ ED.out.st);obtain⟨qp,qo,qn,qg,qm,ql,qk,qj,qi⟩:=(E1015.out.bx (g714,b) (by simp)).1;dsimp only at qp qo qn qg qm ql qk qj qi;obtain⟨qA,qz,qy,qs,qx,qw,qv,qu,qt⟩:=(E1015.out.bx (g607,a) (by simp)).1;dsimp only at qA qz qy qs qx qw qv qu qt;obtain⟨yy,yx,yw,yv,yu,yt,ys,yr,yq⟩:=(E1015.out.bx (w.heap.size,Pz.z0) (by simp)).1;dsimp only[Pz.z0,len] at yy yx yw yv yu yt ys yr yq
              go_region_with (go_at_call 133;refine CC.out.mono ?_;rintro e w9 ⟨cc,rfl,hf⟩;obtain⟨ts9,hE,hc9,hs9⟩:=ED.out.go hf (qJ _ _ _ _ _ _) (by intro d hd;cases hd);have E9:=hid hE;have Tcc:=hid hc9;have Ucc:=hid hs9;clear hf hE hc9 hs9;obtain⟨n0c0,n0c1,n0c2,n0c3,n0f0,n0f1,n0f2,n0f3,n0l⟩:=(E9.out.bx (g714,b) (by simp)).1;dsimp only at n0c0 n0c1 n0c2 n0c3 n0f0 n0f1 n0f2 n0f3 n0l;obtain⟨n1c0,n1c1,n1c2,n1c3,n1f0,n1f1,n1f2,n1f3,n1l⟩:=(E9.out.bx (g607,a) (by simp)).1;dsimp only at n1c0 n1c1 n1c2 n1c3 n1f0 n1f1 n1f2 n1f3 n1l;obtain⟨n2c0,n2c1,n2c2,n2c3,n2f0,n2f1,n2f2,n2f3,n2l⟩:=(E9.out.bx (w.heap.size,Pz.z0) (by simp)).1;dsimp only[Pz.z0,len] at n2c0 n2c1 n2c2 n2c3 n2f0 n2f1 n2f2 n2f3 n2l;skip)
              all_goals
               go_wp2;refine bodyPost_ret (v:=.agg #[.int .i64 14,.int .i64 0,.string ⟨#[]⟩,.slice (some ⟨w9.heap.size,0,none⟩) 3 3]) ?_ rfl ?_
               ·rw [qd rfl];go_simp
               ·rw [PV.out];exact⟨(⟨w9.heap.size,0,⟨14,0,⟨#[]⟩,some ⟨w9.heap.size,0,none⟩,3⟩,qH [a,b,cc]⟩:Ch),rfl,(E9.out.tail.tail).done_node [a,b,cc] 14 3 rfl none (fun x hx=>by cases hx) _ rfl _⟩
          ·
           have ht':Pz.isw L j Pz.wThen=false:=(by simpa using ht);rw[if_neg ht] at PV;refine(j6 sb L p cap j _ _ E605.out.st ht').mono ?_;rintro e w1109 ⟨rfl,hs,hg⟩;have E1108:=hid (E605.out.grown hs (zS _ _ _ _ _) hg);clear hs hg E605;clear ht ht';go_wp2_with fail;refine(KS L sb p cap j w1109 E1108.out.st).mono ?_;rintro e w1111 ⟨b,rfl,hf⟩;obtain⟨tsE1110,hE,hc,qE⟩:=E1108.out.go hf (qJ _ _ _ _ _ _) (by intro d hd;cases hd);have E1110:=hid hE;have Tb:=hid hc;have Ub:=hid qE;clear hf hE hc qE E1108
           try dsimp only
           go_upto_region 15 with (fail);have E1112:=hid (E1110.out.box b #[.int .i64 b.a.op,.int .i64 b.a.num,.string b.a.name,.slice b.a.ptr (len b.k) b.a.cap] rfl 24);generalize hg1114:w1111.heap.size=g1114 at *;generalize w1111.alloc (.cells #[.int .i64 b.a.op,.int .i64 b.a.num,.string b.a.name,.slice b.a.ptr (len b.k) b.a.cap] 24)=w1113 at *;clear E1110 hg1114;go_wp2_with fail;refine(zq sb L p cap j _ _ E1112.out.st).mono ?_;rintro e w1116 ⟨rfl,hb⟩;have E1115:=hid (E1112.out.below hb);clear hb E1112;go_wp2_with fail;have ED:=hid (E1115.out.below ((Below.refl _ _).drew));have CC:=hid (KS L sb p cap j _ ED.out.st);obtain⟨qp,qo,qn,qg,qm,ql,qk,qj,qi⟩:=(E1115.out.bx (g1114,b) (by simp)).1;dsimp only at qp qo qn qg qm ql qk qj qi;obtain⟨qA,qz,qy,qs,qx,qw,qv,qu,qt⟩:=(E1115.out.bx (g607,a) (by simp)).1;dsimp only at qA qz qy qs qx qw qv qu qt;obtain⟨yy,yx,yw,yv,yu,yt,ys,yr,yq⟩:=(E1115.out.bx (w.heap.size,Pz.z0) (by simp)).1;dsimp only[Pz.z0,len] at yy yx yw yv yu yt ys yr yq
           go_region_with (go_at_call 133;refine CC.out.mono ?_;rintro e w9 ⟨cc,rfl,hf⟩;obtain⟨ts9,hE,hc9,hs9⟩:=ED.out.go hf (qJ _ _ _ _ _ _) (by intro d hd;cases hd);have E9:=hid hE;have Tcc:=hid hc9;have Ucc:=hid hs9;clear hf hE hc9 hs9;obtain⟨n0c0,n0c1,n0c2,n0c3,n0f0,n0f1,n0f2,n0f3,n0l⟩:=(E9.out.bx (g1114,b) (by simp)).1;dsimp only at n0c0 n0c1 n0c2 n0c3 n0f0 n0f1 n0f2 n0f3 n0l;obtain⟨n1c0,n1c1,n1c2,n1c3,n1f0,n1f1,n1f2,n1f3,n1l⟩:=(E9.out.bx (g607,a) (by simp)).1;dsimp only at n1c0 n1c1 n1c2 n1c3 n1f0 n1f1 n1f2 n1f3 n1l;obtain⟨n2c0,n2c1,n2c2,n2c3,n2f0,n2f1,n2f2,n2f3,n2l⟩:=(E9.out.bx (w.heap.size,Pz.z0) (by simp)).1;dsimp only[Pz.z0,len] at n2c0 n2c1 n2c2 n2c3 n2f0 n2f1 n2f2 n2f3 n2l;skip)
           all_goals
            go_wp2;refine bodyPost_ret (v:=.agg #[.int .i64 14,.int .i64 0,.string ⟨#[]⟩,.slice (some ⟨w9.heap.size,0,none⟩) 3 3]) ?_ rfl ?_
            ·rw [qd rfl];go_simp
            ·rw [PV.out];exact⟨(⟨w9.heap.size,0,⟨14,0,⟨#[]⟩,some ⟨w9.heap.size,0,none⟩,3⟩,qH [a,b,cc]⟩:Ch),rfl,(E9.out.tail.tail).done_node [a,b,cc] 14 3 rfl none (fun x hx=>by cases hx) _ rfl _⟩
       ·
        have hw5':Pz.isw L i Pz.wIf=false:=(by simpa using hw5);rw[if_neg hw5] at PV;refine(yz sb L p cap i _ _ E5001.out.st hw5').mono ?_;rintro e w6002 ⟨rfl,hb⟩;have E6001:=hid (E5001.out.below hb);clear hb E5001;clear hw5 hw5';go_wp2_with fail
        by_cases hw6:Pz.isw L i Pz.wOpen=true
        ·
         have hj:=Pz.isw_lt hw6;rw[if_pos hw6] at PV;refine(yi sb L p cap i _ _ E6001.out.st hw6).mono ?_;rintro e w702 ⟨rfl,hs,hg⟩;have E701:=hid (E6001.out.grown hs (qZ _ _ _ _ _) hg);clear hs hg E6001;clear hw6;go_wp2_with fail;have AD:Pz.Ok L (i+1) (Pz.pv L .ex (i+1)) 1:=Pz.pv_adv L .ex (i+1) hj;refine(C2.out (i+1) (by omega) hj sb p cap w702 E701.out.st).mono ?_;rintro e w704 ⟨c,rfl,hf⟩;have ADc:Hid (Pz.Ok L (i+1) (Pz.pv L .ex (i+1)) 1):=AD;generalize Pz.pv L .ex (i+1)=r0 at *;obtain⟨o,j⟩:=r0;obtain⟨tsE703,hE,hc,qE⟩:=E701.out.go hf (qJ _ _ _ _ _ _) (by intro d hd;cases hd);have E703:=hid hE;have Tc:=hid hc;have Uc:=hid qE;clear hf hE hc qE E701
         try dsimp only
         rw[Pz.bnd_goL] at PV;go_upto_region 19 with (fail);have E705:=hid (E703.out.box c #[.int .i64 c.a.op,.int .i64 c.a.num,.string c.a.name,.slice c.a.ptr (len c.k) c.a.cap] rfl 24);generalize hg707:w704.heap.size=g707 at *;generalize w704.alloc (.cells #[.int .i64 c.a.op,.int .i64 c.a.num,.string c.a.name,.slice c.a.ptr (len c.k) c.a.cap] 24)=w706 at *;clear E703 hg707;go_wp2_with fail;cases o with
         | none =>
           rw[Pz.goL_none] at PV;refine(zq sb L p cap j _ _ E705.out.st).mono ?_;rintro e w709 ⟨rfl,hb⟩;have E708:=hid (E705.out.below hb);clear hb E705;obtain⟨qp,qo,qn,qg,qm,ql,qk,qj,qi⟩:=(E708.out.bx (g707,c) (by simp)).1;dsimp only at qp qo qn qg qm ql qk qj qi;obtain⟨qA,qz,qy,qs,qx,qw,qv,qu,qt⟩:=(E708.out.bx (w.heap.size,Pz.z0) (by simp)).1;dsimp only[Pz.z0,len] at qA qz qy qs qx qw qv qu qt;go_wp2;refine bodyPost_ret (v:=.agg #[.int .i64 c.a.op,.int .i64 c.a.num,.string c.a.name,.slice c.a.ptr (len c.k) c.a.cap]) ?_ rfl ?_
           ·rw [qd rfl];go_simp
           ·rw [PV.out];exact⟨c,rfl,(E708.out.tail).done4 c none (fun x hx=>by cases hx) rfl rfl rfl rfl⟩
         | some x =>
           rw[Pz.goL_some] at PV
           by_cases ht:Pz.isw L j Pz.wShut=true
           ·
            rw[if_pos ht] at PV;refine(zE sb L p cap j _ _ E705.out.st ht).mono ?_;rintro e w709 ⟨rfl,hs,hg⟩;have E708:=hid (E705.out.grown hs (qZ _ _ _ _ _) hg);clear hs hg E705;obtain⟨qp,qo,qn,qg,qm,ql,qk,qj,qi⟩:=(E708.out.bx (g707,c) (by simp)).1;dsimp only at qp qo qn qg qm ql qk qj qi;obtain⟨qA,qz,qy,qs,qx,qw,qv,qu,qt⟩:=(E708.out.bx (w.heap.size,Pz.z0) (by simp)).1;dsimp only[Pz.z0,len] at qA qz qy qs qx qw qv qu qt;go_wp2;refine bodyPost_ret (v:=.agg #[.int .i64 c.a.op,.int .i64 c.a.num,.string c.a.name,.slice c.a.ptr (len c.k) c.a.cap]) ?_ rfl ?_
            ·rw [qd rfl];go_simp
            ·rw [PV.out];exact⟨c,rfl,(E708.out.tail).done4 c (some x) (fun y hy=>by cases hy;exact⟨(Tc.out x rfl).1,(Tc.out x rfl).2⟩) rfl rfl rfl rfl⟩
           ·
            have ht':Pz.isw L j Pz.wShut=false:=(by simpa using ht);rw[if_neg ht] at PV;refine(j6 sb L p cap j _ _ E705.out.st ht').mono ?_;rintro e w759 ⟨rfl,hs,hg⟩;have E758:=hid (E705.out.grown hs (zS _ _ _ _ _) hg);clear hs hg E705;obtain⟨qp,qo,qn,qg,qm,ql,qk,qj,qi⟩:=(E758.out.bx (g707,c) (by simp)).1;dsimp only at qp qo qn qg qm ql qk qj qi;obtain⟨qA,qz,qy,qs,qx,qw,qv,qu,qt⟩:=(E758.out.bx (w.heap.size,Pz.z0) (by simp)).1;dsimp only[Pz.z0,len] at qA qz qy qs qx qw qv qu qt;go_wp2;refine bodyPost_ret (v:=.agg #[.int .i64 c.a.op,.int .i64 c.a.num,.string c.a.name,.slice c.a.ptr (len c.k) c.a.cap]) ?_ rfl ?_
            ·rw [qd rfl];go_simp
            ·rw [PV.out];exact⟨c,rfl,(E758.out.tail).done4 c none (fun x hx=>by cases hx) rfl rfl rfl rfl⟩
        ·
         have hw6':Pz.isw L i Pz.wOpen=false:=(by simpa using hw6);rw[if_neg hw6] at PV;refine(yz sb L p cap i _ _ E6001.out.st hw6').mono ?_;rintro e w7002 ⟨rfl,hb⟩;have E7001:=hid (E6001.out.below hb);clear hb E6001;clear hw6 hw6';go_wp2_with fail;have hi2:(i:Int) < (L.length:Int):=(by omega);have hi3:(0:Int)≤(i:Int):=(by omega);obtain⟨t,ht⟩:∃t,L[i]?=some t:=⟨_,List.getElem?_eq_getElem hi⟩;have LT:Hid (Pz.pv L .fc i=(match Pz.leafT t.t with|some x=>(some x,i+1)|none=>(none,i))):=PV.out.trans (vZ ht);have VK:=hid (uM (HV.out t (List.mem_of_getElem? ht)));have c0:=E7001.out.st.1.c0;have c1:=E7001.out.st.1.c1;obtain⟨g,O,hp,hg,d0,d1,d2,d3⟩:=E7001.out.st.1.ls.get ht;obtain rfl:=hp;clear PV ht C1 C2 C3 HV;have n0:=World.new_ne w7002 ⟨sb,0,none⟩ c0;have n1:=World.new_ne w7002 ⟨sb,1,none⟩ c1;have m0:=World.new_ne w7002 ⟨g,O+i * 4,none⟩ d0
         go_region_held3 (fun w'=>w'.cell? ⟨sb,0,none⟩=some (.slice (some ⟨g,O,none⟩) L.length cap)∧w'.cell? ⟨sb,1,none⟩=some (.int .i64 i)∧w'.cell? ⟨g,O+i * 4,none⟩=some (.int .i64 t.t.kind)∧w'.cell? ⟨g,O+i * 4+1,none⟩=some (.string t.t.text)∧w'.cell? ⟨g,O+i * 4+2,none⟩=some (.int .i64 t.t.num)∧w'.cell? ⟨g,O+i * 4+3,none⟩=some (.int .i64 t.at')) (go_keep) (fail)
         clear c0 c1 d0 d1 d2 d3 n0 n1 m0;have B3:Hid (Below w7002.heap.size w7002 ((w7002.alloc (.cells #[.int .i64 t.t.kind,.string t.t.text,.int .i64 t.t.num,.int .i64 t.at'] 68)).drew)):=((Below.refl _ _).alloc (Nat.le_refl _) _).drew;have E3:=hid (E7001.out.below B3.out);have t0:((w7002.alloc (.cells #[.int .i64 t.t.kind,.string t.t.text,.int .i64 t.t.num,.int .i64 t.at'] 68)).drew).cell? ⟨w7002.heap.size,0,none⟩=some (.int .i64 t.t.kind):=(by simp[go_sem]);have t1:((w7002.alloc (.cells #[.int .i64 t.t.kind,.string t.t.text,.int .i64 t.t.num,.int .i64 t.at'] 68)).drew).cell? ⟨w7002.heap.size,1,none⟩=some (.string t.t.text):=(by simp[go_sem]);have t2:((w7002.alloc (.cells #[.int .i64 t.t.kind,.string t.t.text,.int .i64 t.t.num,.int .i64 t.at'] 68)).drew).cell? ⟨w7002.heap.size,2,none⟩=some (.int .i64 t.t.num):=(by simp[go_sem]);have tl:w7002.heap.size < ((w7002.alloc (.cells #[.int .i64 t.t.kind,.string t.t.text,.int .i64 t.t.num,.int .i64 t.at'] 68)).drew).heap.size:=(by simp);have nt:sb≠w7002.heap.size:=Nat.ne_of_lt E7001.out.ht;have nr:w7002.heap.size≠w.heap.size:=(by have:=(E7001.out.bx (w.heap.size,Pz.z0) (by simp)).1.lt;dsimp only at this;omega);generalize htb:w7002.heap.size=tb at *;generalize (w7002.alloc (.cells #[.int .i64 t.t.kind,.string t.t.text,.int .i64 t.t.num,.int .i64 t.at'] 68)).drew=w3 at *;clear E7001 B3 htb;rcases VK.out with ⟨hk,h1,h4⟩|⟨hk,h1,h2,h3⟩|⟨hk,h1,h2,h3⟩|⟨hk,h1,h2,h3⟩|⟨hk,-⟩
         ·
          have k1:(t.t.kind==1)=true:=(by simp[hk]);have k2:(t.t.kind==2)=false:=(by simp[hk]);have k3:(t.t.kind==3)=false:=(by simp[hk]);have k4:(t.t.kind==4)=false:=(by simp[hk]);rw[xV hk] at LT;have hs:t.t.text.size≤9223372036854775807:=(by omega);rw[h4] at t2;clear hk h1 h4;go_wp2_with fail;refine(ut t.t.text w3 hs).mono ?_;rintro e w4 ⟨rfl,hb⟩;have E4:=hid (E3.out.below hb);have q1:w4.cell? ⟨tb,1,none⟩=some (.string t.t.text):=(by rw[hb.cell (p:=⟨tb,1,none⟩) tl];exact t1);have q2:w4.cell? ⟨tb,2,none⟩=some (.int .i64 0):=(by rw[hb.cell (p:=⟨tb,2,none⟩) tl];exact t2);clear hb E3 t0 t1 t2 tl
          by_cases ha:zY t.t.text=true
          ·
           rw[if_pos ha] at LT;rw[ha];dsimp only at LT;clear ha;obtain⟨qp,qo,qn,qg,qm,ql,qk,qj,qi⟩:=(E4.out.bx (w.heap.size,Pz.z0) (by simp)).1;dsimp only[Pz.z0,len] at qp qo qn qg qm ql qk qj qi;have c1:=E4.out.st.1.c1;have f1:=E4.out.st.1.f1;have slt:=E4.out.st.1.lt;have ns:sb≠w.heap.size:=(by have:=E4.out.lt;omega);have E9:=hid ((E4.out.grown (St':=jZ sb L (some ⟨g,O,none⟩) cap (i+1)) ⟨(E4.out.st.1.setA _).1,hi⟩ (qZ _ _ _ _ _) (E4.out.st.1.setA _).2).leaf 6 0 t.t.text);go_wp2;refine bodyPost_ret (v:=.agg #[.int .i64 6,.int .i64 0,.string t.t.text,.slice none 0 0]) ?_ rfl ?_
           ·rw [qd rfl];go_simp
           ·rw [LT.out];exact⟨(Pz.lf 6 0 t.t.text),rfl,E9.out.done4 (Pz.lf 6 0 t.t.text) (some (Pz.lf 6 0 t.t.text)) (fun x hx=>by cases hx;exact⟨rfl,by simp⟩) rfl rfl rfl rfl⟩
          ·
           have ha':zY t.t.text=false:=(by simpa using ha);rw[if_neg ha] at LT;rw[ha'];dsimp only at LT;clear ha ha';go_wp2_with fail;refine(jA sb L _ cap i _ E4.out.st).mono ?_;rintro e w8 ⟨rfl,hs,hg⟩;have E8:=hid (E4.out.grown hs (zS _ _ _ _ _) hg);clear hs hg E4;obtain⟨qp,qo,qn,qg,qm,ql,qk,qj,qi⟩:=(E8.out.bx (w.heap.size,Pz.z0) (by simp)).1;dsimp only[Pz.z0,len] at qp qo qn qg qm ql qk qj qi;go_wp2;refine bodyPost_ret (v:=.agg #[.int .i64 0,.int .i64 0,.string ⟨#[]⟩,.slice none 0 0]) ?_ rfl ?_
           ·rw [qd rfl];go_simp
           ·rw [LT.out];exact⟨Pz.z0,rfl,E8.out.done4 Pz.z0 none (fun x hx=>by cases hx) rfl rfl rfl rfl⟩
         ·
          have k1:(t.t.kind==1)=false:=(by simp[hk]);have k2:(t.t.kind==2)=true:=(by simp[hk]);have k3:(t.t.kind==3)=false:=(by simp[hk]);have k4:(t.t.kind==4)=false:=(by simp[hk]);rw[uB hk] at LT;dsimp only at LT;rw[h1] at t1;clear hk h1 h2 h3;obtain⟨qp,qo,qn,qg,qm,ql,qk,qj,qi⟩:=(E3.out.bx (w.heap.size,Pz.z0) (by simp)).1;dsimp only[Pz.z0,len] at qp qo qn qg qm ql qk qj qi;have c1:=E3.out.st.1.c1;have f1:=E3.out.st.1.f1;have slt:=E3.out.st.1.lt;have ns:sb≠w.heap.size:=(by have:=E3.out.lt;omega);have E9:=hid ((E3.out.grown (St':=jZ sb L (some ⟨g,O,none⟩) cap (i+1)) ⟨(E3.out.st.1.setA _).1,hi⟩ (qZ _ _ _ _ _) (E3.out.st.1.setA _).2).leaf 1 t.t.num ⟨#[]⟩);go_wp2;refine bodyPost_ret (v:=.agg #[.int .i64 1,.int .i64 t.t.num,.string ⟨#[]⟩,.slice none 0 0]) ?_ rfl ?_
          ·rw [qd rfl];go_simp
          ·rw [LT.out];exact⟨(Pz.lf 1 t.t.num ⟨#[]⟩),rfl,E9.out.done4 (Pz.lf 1 t.t.num ⟨#[]⟩) (some (Pz.lf 1 t.t.num ⟨#[]⟩)) (fun x hx=>by cases hx;exact⟨rfl,by simp⟩) rfl rfl rfl rfl⟩
         ·
          have k1:(t.t.kind==1)=false:=(by simp[hk]);have k2:(t.t.kind==2)=false:=(by simp[hk]);have k3:(t.t.kind==3)=true:=(by simp[hk]);have k4:(t.t.kind==4)=false:=(by simp[hk]);rw[xT hk] at LT;dsimp only at LT;rw[h1] at t1;clear hk h1 h2 h3;obtain⟨qp,qo,qn,qg,qm,ql,qk,qj,qi⟩:=(E3.out.bx (w.heap.size,Pz.z0) (by simp)).1;dsimp only[Pz.z0,len] at qp qo qn qg qm ql qk qj qi;have c1:=E3.out.st.1.c1;have f1:=E3.out.st.1.f1;have slt:=E3.out.st.1.lt;have ns:sb≠w.heap.size:=(by have:=E3.out.lt;omega);have E9:=hid ((E3.out.grown (St':=jZ sb L (some ⟨g,O,none⟩) cap (i+1)) ⟨(E3.out.st.1.setA _).1,hi⟩ (qZ _ _ _ _ _) (E3.out.st.1.setA _).2).leaf 2 t.t.num ⟨#[]⟩);go_wp2;refine bodyPost_ret (v:=.agg #[.int .i64 2,.int .i64 t.t.num,.string ⟨#[]⟩,.slice none 0 0]) ?_ rfl ?_
          ·rw [qd rfl];go_simp
          ·rw [LT.out];exact⟨(Pz.lf 2 t.t.num ⟨#[]⟩),rfl,E9.out.done4 (Pz.lf 2 t.t.num ⟨#[]⟩) (some (Pz.lf 2 t.t.num ⟨#[]⟩)) (fun x hx=>by cases hx;exact⟨rfl,by simp⟩) rfl rfl rfl rfl⟩
         ·
          have k1:(t.t.kind==1)=false:=(by simp[hk]);have k2:(t.t.kind==2)=false:=(by simp[hk]);have k3:(t.t.kind==3)=false:=(by simp[hk]);have k4:(t.t.kind==4)=true:=(by simp[hk]);rw[xg hk] at LT;dsimp only at LT;rw[h1] at t1;clear hk h1 h2 h3;obtain⟨qp,qo,qn,qg,qm,ql,qk,qj,qi⟩:=(E3.out.bx (w.heap.size,Pz.z0) (by simp)).1;dsimp only[Pz.z0,len] at qp qo qn qg qm ql qk qj qi;have c1:=E3.out.st.1.c1;have f1:=E3.out.st.1.f1;have slt:=E3.out.st.1.lt;have ns:sb≠w.heap.size:=(by have:=E3.out.lt;omega);have E9:=hid ((E3.out.grown (St':=jZ sb L (some ⟨g,O,none⟩) cap (i+1)) ⟨(E3.out.st.1.setA _).1,hi⟩ (qZ _ _ _ _ _) (E3.out.st.1.setA _).2).leaf 3 t.t.num ⟨#[]⟩);go_wp2;refine bodyPost_ret (v:=.agg #[.int .i64 3,.int .i64 t.t.num,.string ⟨#[]⟩,.slice none 0 0]) ?_ rfl ?_
          ·rw [qd rfl];go_simp
          ·rw [LT.out];exact⟨(Pz.lf 3 t.t.num ⟨#[]⟩),rfl,E9.out.done4 (Pz.lf 3 t.t.num ⟨#[]⟩) (some (Pz.lf 3 t.t.num ⟨#[]⟩)) (fun x hx=>by cases hx;exact⟨rfl,by simp⟩) rfl rfl rfl rfl⟩
         ·
          have k1:(t.t.kind==1)=false:=(by simp[hk]);have k2:(t.t.kind==2)=false:=(by simp[hk]);have k3:(t.t.kind==3)=false:=(by simp[hk]);have k4:(t.t.kind==4)=false:=(by simp[hk]);rw[xU hk] at LT;dsimp only at LT;clear hk;go_wp2_with fail;refine(jA sb L _ cap i _ E3.out.st).mono ?_;rintro e w8 ⟨rfl,hs,hg⟩;have E8:=hid (E3.out.grown hs (zS _ _ _ _ _) hg);clear hs hg E3;obtain⟨qp,qo,qn,qg,qm,ql,qk,qj,qi⟩:=(E8.out.bx (w.heap.size,Pz.z0) (by simp)).1;dsimp only[Pz.z0,len] at qp qo qn qg qm ql qk qj qi;go_wp2;refine bodyPost_ret (v:=.agg #[.int .i64 0,.int .i64 0,.string ⟨#[]⟩,.slice none 0 0]) ?_ rfl ?_
          ·rw [qd rfl];go_simp
          ·rw [LT.out];exact⟨Pz.z0,rfl,E8.out.done4 Pz.z0 none (fun x hx=>by cases hx) rfl rfl rfl rfl⟩
 ·
  have hi':(L.length:Int)≤(i:Int):=by omega
  have hn:L.length≤i:=by omega
  simp only[xW hn,Bool.false_eq_true,if_false] at PV;rw[uA hn] at PV
  go_quiet (fail)
  go_wp2_with fail;have ED:=hid (E1.out.below (below_drewN (Below.refl _ _) nq));generalize w2.drewN nq=w9 at *;clear E1 c0 c1 c2 sl;refine(jA sb L p cap i _ ED.out.st).mono ?_;rintro e w8 ⟨rfl,hs,hg⟩;have E8:=hid (ED.out.grown hs (zS _ _ _ _ _) hg);clear hs hg ED;obtain⟨qp,qo,qn,qg,qm,ql,qk,qj,qi⟩:=(E8.out.bx (w.heap.size,Pz.z0) (by simp)).1;dsimp only[Pz.z0,len] at qp qo qn qg qm ql qk qj qi;go_wp2;refine bodyPost_ret (v:=.agg #[.int .i64 0,.int .i64 0,.string ⟨#[]⟩,.slice none 0 0]) ?_ rfl ?_
  ·rw [qd rfl];go_simp
  ·rw [PV.out];exact⟨Pz.z0,rfl,E8.out.done4 Pz.z0 none (fun x hx=>by cases hx) rfl rfl rfl rfl⟩
end Go.Proofs.YtcejjdmnlejbaaaGreatDoor
