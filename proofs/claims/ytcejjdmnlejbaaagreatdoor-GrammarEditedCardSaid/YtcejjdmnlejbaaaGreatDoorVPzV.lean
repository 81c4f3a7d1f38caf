import Derived.Test.YtcejjdmnlejbaaaGreatDoorVPzT
import Derived.Test.YtcejjdmnlejbaaaGreatDoorVPzU
namespace Go.Proofs.YtcejjdmnlejbaaaGreatDoor
open Lib(hid)
set_option linter.unusedVariables false
set_option linter.unusedSimpArgs false
open Go.ChangeShapes Go.WideShapes Go.ChangeAt Go.RowKit
open Go.Deep (BT)
set_option maxHeartbeats 600000
set_option maxRecDepth 100000
theorem JJ{w W:World}{sb:Nat}{gv:List Ch}{St:World→Prop}{o:Option Ch}{c:Ch}(h:Pz.Fin w sb gv St o c W)(hc:∀W W':World,St W→Below (sb+1) W W'→St W'):Pz.Fin w sb gv St o c W.drew :=
 ⟨fun x hx=>⟨(h.1 x hx).1,⟨(h.1 x hx).2.1.1,(h.1 x hx).2.1.2.next ((Below.refl _ _).drew)⟩,(h.1 x hx).2.2⟩,hc _ _ h.2.1 ((Below.refl _ _).drew),Kv h.2.2⟩
theorem UW(L : List Tk.T4)(i:Nat)(hV:∀t∈ L,VT t.t)(h1:∀j,i < j→j≤L.length→PC 204 L .fc j)(h2:∀j,i < j→j≤L.length→PC 35 L .ex j):PC 204 L .fc i:=by
 intro sb p cap w h;have C1:=hid h1;have C2:=hid h2;have HV:=hid hV;clear h1 h2 hV;have H:=hid h;have hle:=h.le;have hL4:=h.ls.1;have E0:Hid (Pz.Env w w sb (fun W=>PSt W sb L p cap i) [] [] []):=Pz.Env.init h (qF _ _ _ _ _) h.lt (by intro c hc;cases hc);have PV:Hid (Pz.pv L .fc i=Pz.step L (Pz.pv L) .fc i):=Pz.pv_step L .fc i hle;unfold Pz.step at PV;dsimp only at PV;clear h;go_enter Tryz.func204,Tryz.ntmps204;go_wp2_with fail;have E1:=hid (E0.out.box Pz.z0 #[.int .i64 0,.int .i64 0,.string ⟨#[]⟩,.slice none 0 0] rfl 24);generalize w.alloc (.cells #[.int .i64 0,.int .i64 0,.string ⟨#[]⟩,.slice none 0 0] 24)=w2 at *;clear E0
 by_cases hw0:Pz.isw L i Pz.wMinus=true
 ·
  have hj:=Pz.isw_lt hw0;rw[if_pos hw0] at PV;refine(qK sb L p cap i _ _ E1.out.st hw0).mono ?_;rintro e w102 ⟨rfl,hs,hg⟩;have E101:=hid (E1.out.grown hs (qF _ _ _ _ _) hg);clear hs hg E1;go_wp2_with fail;have AD:Pz.Ok L (i+1) (Pz.pv L .fc (i+1)) 1:=Pz.pv_adv L .fc (i+1) hj;refine(C1.out (i+1) (by omega) hj sb p cap w102 E101.out.st).mono ?_;rintro e w104 ⟨c,rfl,hf⟩;have ADc:Hid (Pz.Ok L (i+1) (Pz.pv L .fc (i+1)) 1):=AD;generalize Pz.pv L .fc (i+1)=r0 at *;obtain⟨o,k⟩:=r0;obtain⟨tsE103,hE,hc,qE⟩:=E101.out.go hf (qF _ _ _ _ _) (by intro d hd;cases hd);have E103:=hid hE;have Tc:=hid hc;have Uc:=hid qE;clear hf hE hc qE E101;dsimp only;rw[Pz.bnd_goL] at PV;go_upto_region 3 with (fail);have E105:=hid (E103.out.box c #[.int .i64 c.a.op,.int .i64 c.a.num,.string c.a.name,.slice c.a.ptr (len c.k) c.a.cap] rfl 24);generalize hg107:w104.heap.size=g107 at *;generalize w104.alloc (.cells #[.int .i64 c.a.op,.int .i64 c.a.num,.string c.a.name,.slice c.a.ptr (len c.k) c.a.cap] 24)=w106 at *;clear E103 hg107;obtain⟨qp,qo,qn,qg,qm,ql,qk,qj,qi⟩:=(E105.out.bx (g107,c) (by simp)).1;dsimp only at qp qo qn qg qm ql qk qj qi;obtain⟨qA,qz,qy,qs,qx,qw,qv,qu,qt⟩:=(E105.out.bx (w.heap.size,Pz.z0) (by simp)).1;dsimp only[Pz.z0,len] at qA qz qy qs qx qw qv qu qt;cases o with
  | none =>
    go_wp2;refine bodyPost_ret (v:=.tuple #[.agg #[.int .i64 7,.int .i64 0,.string ⟨#[]⟩,.slice (some ⟨w106.heap.size,0,none⟩) 1 1],.bool false]) ?_ rfl ?_
    ·rw [results_cell_tmp rfl];go_simp
    ·rw [PV.out,Pz.goL_none];exact⟨(⟨w106.heap.size,0,⟨7,0,⟨#[]⟩,some ⟨w106.heap.size,0,none⟩,1⟩,qH [c]⟩:Ch),rfl,(E105.out.tail).done_node [c] 7 1 rfl none (fun x hx=>by cases hx) _ rfl _⟩
  | some x =>
    go_wp2;refine bodyPost_ret (v:=.tuple #[.agg #[.int .i64 7,.int .i64 0,.string ⟨#[]⟩,.slice (some ⟨w106.heap.size,0,none⟩) 1 1],.bool true]) ?_ rfl ?_
    ·rw [results_cell_tmp rfl];go_simp
    ·rw [PV.out,Pz.goL_some];exact⟨(⟨w106.heap.size,0,⟨7,0,⟨#[]⟩,some ⟨w106.heap.size,0,none⟩,1⟩,qH [c]⟩:Ch),rfl,(E105.out.tail).done_node [c] 7 1 rfl (some (Pz.tn 7 [x])) (fun y hy=>by cases hy;exact⟨(by intro q hq;simp only[List.mem_cons,List.not_mem_nil,or_false] at hq;rw[hq];exact(Tc.out x rfl).2),(by rw[List.map_cons,List.map_nil,(Tc.out x rfl).1])⟩) _ rfl _⟩
 ·
  have hw0':Pz.isw L i Pz.wMinus=false:=by simpa using hw0
  rw[if_neg hw0] at PV;refine(qQ sb L p cap i _ _ E1.out.st hw0').mono ?_;rintro e w1002 ⟨rfl,hb⟩;have E1001:=hid (E1.out.below hb);clear hb E1;go_wp2_with fail
  by_cases hw1:Pz.isw L i Pz.wTrue=true
  ·
   have hj:=Pz.isw_lt hw1;rw[if_pos hw1] at PV;refine(qK sb L p cap i _ _ E1001.out.st hw1).mono ?_;rintro e w202 ⟨rfl,hs,hg⟩;have E201:=hid (E1001.out.grown hs (qF _ _ _ _ _) hg);clear hs hg E1001;obtain⟨qp,qo,qn,qg,qm,ql,qk,qj,qi⟩:=(E201.out.bx (w.heap.size,Pz.z0) (by simp)).1;dsimp only[Pz.z0,len] at qp qo qn qg qm ql qk qj qi;have EL:=hid (E201.out.leaf 4 0 ⟨#[]⟩);go_wp2;refine bodyPost_ret (v:=.tuple #[.agg #[.int .i64 4,.int .i64 0,.string ⟨#[]⟩,.slice none 0 0],.bool true]) ?_ rfl ?_
   ·rw [results_cell_tmp rfl];go_simp
   ·rw [PV.out];exact⟨Pz.lf 4 0 ⟨#[]⟩,rfl,EL.out.done4 (Pz.lf 4 0 ⟨#[]⟩) (some (Pz.lf 4 0 ⟨#[]⟩)) (fun z hz=>by cases hz;exact⟨rfl,by simp⟩) rfl rfl rfl rfl⟩
  ·
   have hw1':Pz.isw L i Pz.wTrue=false:=(by simpa using hw1);rw[if_neg hw1] at PV;refine(qQ sb L p cap i _ _ E1001.out.st hw1').mono ?_;rintro e w2002 ⟨rfl,hb⟩;have E2001:=hid (E1001.out.below hb);clear hb E1001;go_wp2_with fail
   by_cases hw2:Pz.isw L i Pz.wFalse=true
   ·
    have hj:=Pz.isw_lt hw2;rw[if_pos hw2] at PV;refine(qK sb L p cap i _ _ E2001.out.st hw2).mono ?_;rintro e w302 ⟨rfl,hs,hg⟩;have E301:=hid (E2001.out.grown hs (qF _ _ _ _ _) hg);clear hs hg E2001;obtain⟨qp,qo,qn,qg,qm,ql,qk,qj,qi⟩:=(E301.out.bx (w.heap.size,Pz.z0) (by simp)).1;dsimp only[Pz.z0,len] at qp qo qn qg qm ql qk qj qi;have EL:=hid (E301.out.leaf 5 0 ⟨#[]⟩);go_wp2;refine bodyPost_ret (v:=.tuple #[.agg #[.int .i64 5,.int .i64 0,.string ⟨#[]⟩,.slice none 0 0],.bool true]) ?_ rfl ?_
    ·rw [results_cell_tmp rfl];go_simp
    ·rw [PV.out];exact⟨Pz.lf 5 0 ⟨#[]⟩,rfl,EL.out.done4 (Pz.lf 5 0 ⟨#[]⟩) (some (Pz.lf 5 0 ⟨#[]⟩)) (fun z hz=>by cases hz;exact⟨rfl,by simp⟩) rfl rfl rfl rfl⟩
   ·
    have hw2':Pz.isw L i Pz.wFalse=false:=(by simpa using hw2);rw[if_neg hw2] at PV;refine(qQ sb L p cap i _ _ E2001.out.st hw2').mono ?_;rintro e w3002 ⟨rfl,hb⟩;have E3001:=hid (E2001.out.below hb);clear hb E2001;go_wp2_with fail
    by_cases hw3:Pz.isw L i Pz.wMin=true
    ·
     have hj:=Pz.isw_lt hw3;rw[if_pos hw3] at PV;refine(qK sb L p cap i _ _ E3001.out.st hw3).mono ?_;rintro e w402 ⟨rfl,hs,hg⟩;have E401:=hid (E3001.out.grown hs (qF _ _ _ _ _) hg);clear hs hg E3001;have ADX:Pz.Ok L (i+1) (Pz.pv L (.li 12) (i+1)) 1:=Pz.pv_adv L (.li 12) (i+1) hj;go_wp2_with fail;have AD:Pz.Ok L (i+1) (Pz.pv L (.li 12) (i+1)) 1:=ADX;refine(KM L 12 (i+1) (fun j a b=>C2.out j (by omega) b) sb p cap w402 E401.out.st).mono ?_;rintro e w404 ⟨d,rfl,hf⟩;have ADd:Hid (Pz.Ok L (i+1) (Pz.pv L (.li 12) (i+1)) 1):=AD;generalize Pz.pv L (.li 12) (i+1)=r0 at *;obtain⟨o,k⟩:=r0;obtain⟨tsE403,hE,hc,qE⟩:=E401.out.go hf (qF _ _ _ _ _) (by intro d hd;cases hd);have E403:=hid hE;have Td:=hid hc;have Ud:=hid qE;clear hf hE hc qE E401;dsimp only;obtain⟨qp,qo,qn,qg,qm,ql,qk,qj,qi⟩:=(E403.out.bx (w.heap.size,Pz.z0) (by simp)).1;dsimp only[Pz.z0,len] at qp qo qn qg qm ql qk qj qi;go_wp2;refine bodyPost_ret (v:=.tuple #[.agg #[.int .i64 d.a.op,.int .i64 d.a.num,.string d.a.name,.slice d.a.ptr (len d.k) d.a.cap],.bool o.isSome]) ?_ rfl ?_
     ·rw [results_cell_tmp rfl];go_simp
     ·rw [PV.out];exact⟨d,rfl,(E403.out).done4 d o Td.out rfl rfl rfl rfl⟩
    ·
     have hw3':Pz.isw L i Pz.wMin=false:=(by simpa using hw3);rw[if_neg hw3] at PV;refine(qQ sb L p cap i _ _ E3001.out.st hw3').mono ?_;rintro e w4002 ⟨rfl,hb⟩;have E4001:=hid (E3001.out.below hb);clear hb E3001;go_wp2_with fail
     by_cases hw4:Pz.isw L i Pz.wMax=true
     ·
      have hj:=Pz.isw_lt hw4;rw[if_pos hw4] at PV;refine(qK sb L p cap i _ _ E4001.out.st hw4).mono ?_;rintro e w502 ⟨rfl,hs,hg⟩;have E501:=hid (E4001.out.grown hs (qF _ _ _ _ _) hg);clear hs hg E4001;have ADX:Pz.Ok L (i+1) (Pz.pv L (.li 13) (i+1)) 1:=Pz.pv_adv L (.li 13) (i+1) hj;go_wp2_with fail;have AD:Pz.Ok L (i+1) (Pz.pv L (.li 13) (i+1)) 1:=ADX;refine(KM L 13 (i+1) (fun j a b=>C2.out j (by omega) b) sb p cap w502 E501.out.st).mono ?_;rintro e w504 ⟨d,rfl,hf⟩;have ADd:Hid (Pz.Ok L (i+1) (Pz.pv L (.li 13) (i+1)) 1):=AD;generalize Pz.pv L (.li 13) (i+1)=r0 at *;obtain⟨o,k⟩:=r0;obtain⟨tsE503,hE,hc,qE⟩:=E501.out.go hf (qF _ _ _ _ _) (by intro d hd;cases hd);have E503:=hid hE;have Td:=hid hc;have Ud:=hid qE;clear hf hE hc qE E501;dsimp only;obtain⟨qp,qo,qn,qg,qm,ql,qk,qj,qi⟩:=(E503.out.bx (w.heap.size,Pz.z0) (by simp)).1;dsimp only[Pz.z0,len] at qp qo qn qg qm ql qk qj qi;go_wp2;refine bodyPost_ret (v:=.tuple #[.agg #[.int .i64 d.a.op,.int .i64 d.a.num,.string d.a.name,.slice d.a.ptr (len d.k) d.a.cap],.bool o.isSome]) ?_ rfl ?_
      ·rw [results_cell_tmp rfl];go_simp
      ·rw [PV.out];exact⟨d,rfl,(E503.out).done4 d o Td.out rfl rfl rfl rfl⟩
     ·
      have hw4':Pz.isw L i Pz.wMax=false:=(by simpa using hw4);rw[if_neg hw4] at PV;refine(qQ sb L p cap i _ _ E4001.out.st hw4').mono ?_;rintro e w5002 ⟨rfl,hb⟩;have E5001:=hid (E4001.out.below hb);clear hb E4001;go_wp2_with fail
      by_cases hw5:Pz.isw L i Pz.wIf=true
      ·
       have hj:=Pz.isw_lt hw5;rw[if_pos hw5] at PV;refine(qK sb L p cap i _ _ E5001.out.st hw5).mono ?_;rintro e w602 ⟨rfl,hs,hg⟩;have E601:=hid (E5001.out.grown hs (qF _ _ _ _ _) hg);clear hs hg E5001;have PV2:Hid (Pz.pv L .fc i=Pz.ch0 L (i+1)):=PV.out;clear PV;have PV:=PV2;clear PV2;go_wp2_with fail;refine(YZ L (i+1) (fun j a b=>C2.out j (by omega) b) sb p cap w602 E601.out.st).mono ?_;rintro e w9 ⟨d,rfl,hf⟩;generalize Pz.ch0 L (i+1)=r0 at *;obtain⟨o,k⟩:=r0;obtain⟨ts9,hE,hc,qE⟩:=E601.out.go hf (qF _ _ _ _ _) (by intro d hd;cases hd);have E9:=hid hE;have Td:=hid hc;clear hf hE hc qE E601;dsimp only;obtain⟨qp,qo,qn,qg,qm,ql,qk,qj,qi⟩:=(E9.out.bx (w.heap.size,Pz.z0) (by simp)).1;dsimp only[Pz.z0,len] at qp qo qn qg qm ql qk qj qi;go_wp2;refine bodyPost_ret (v:=.tuple #[.agg #[.int .i64 d.a.op,.int .i64 d.a.num,.string d.a.name,.slice d.a.ptr (len d.k) d.a.cap],.bool o.isSome]) ?_ rfl ?_
       ·rw [results_cell_tmp rfl];go_simp
       ·rw [PV.out];exact⟨d,rfl,(E9.out).done4 d o Td.out rfl rfl rfl rfl⟩
      ·
       have hw5':Pz.isw L i Pz.wIf=false:=(by simpa using hw5);rw[if_neg hw5] at PV;refine(qQ sb L p cap i _ _ E5001.out.st hw5').mono ?_;rintro e w6002 ⟨rfl,hb⟩;have E6001:=hid (E5001.out.below hb);clear hb E5001;go_wp2_with fail
       by_cases hw6:Pz.isw L i Pz.wOpen=true
       ·
        have hj:=Pz.isw_lt hw6;rw[if_pos hw6] at PV;refine(qK sb L p cap i _ _ E6001.out.st hw6).mono ?_;rintro e w702 ⟨rfl,hs,hg⟩;have E701:=hid (E6001.out.grown hs (qF _ _ _ _ _) hg);clear hs hg E6001;go_wp2_with fail;have AD:Pz.Ok L (i+1) (Pz.pv L .ex (i+1)) 1:=Pz.pv_adv L .ex (i+1) hj;refine(C2.out (i+1) (by omega) hj sb p cap w702 E701.out.st).mono ?_;rintro e w704 ⟨c,rfl,hf⟩;have ADc:Hid (Pz.Ok L (i+1) (Pz.pv L .ex (i+1)) 1):=AD;generalize Pz.pv L .ex (i+1)=r0 at *;obtain⟨o,k⟩:=r0;obtain⟨tsE703,hE,hc,qE⟩:=E701.out.go hf (qF _ _ _ _ _) (by intro d hd;cases hd);have E703:=hid hE;have Tc:=hid hc;have Uc:=hid qE;clear hf hE hc qE E701;dsimp only;rw[Pz.bnd_goL] at PV;cases o with
        | none =>
          rw[Pz.goL_none] at PV;dsimp only[Option.isSome];go_upto_region 16 with (fail);have E705:=hid (E703.out.box c #[.int .i64 c.a.op,.int .i64 c.a.num,.string c.a.name,.slice c.a.ptr (len c.k) c.a.cap] rfl 24);generalize hg707:w704.heap.size=g707 at *;generalize w704.alloc (.cells #[.int .i64 c.a.op,.int .i64 c.a.num,.string c.a.name,.slice c.a.ptr (len c.k) c.a.cap] 24)=w706 at *;clear E703 hg707;obtain⟨qp,qo,qn,qg,qm,ql,qk,qj,qi⟩:=(E705.out.bx (g707,c) (by simp)).1;dsimp only at qp qo qn qg qm ql qk qj qi;obtain⟨qA,qz,qy,qs,qx,qw,qv,qu,qt⟩:=(E705.out.bx (w.heap.size,Pz.z0) (by simp)).1;dsimp only[Pz.z0,len] at qA qz qy qs qx qw qv qu qt;have nx0:g707≠w.heap.size:=(List.pairwise_cons.1 E705.out.nd).1 (w.heap.size,Pz.z0) (by simp);have nx1:=nx0.symm;have E9:=hid (((E705.out.tail).done4 c none (fun x hx=>by cases hx) rfl rfl rfl rfl))
          first|(go_region_with (fail))|fail
          all_goals
           go_wp2;refine bodyPost_ret (v:=.tuple #[.agg #[.int .i64 c.a.op,.int .i64 c.a.num,.string c.a.name,.slice c.a.ptr (len c.k) c.a.cap],.bool false]) ?_ rfl ?_
           ·rw [results_cell_tmp rfl];go_simp
           ·rw [PV.out]
            first|exact⟨c,rfl,JJ E9.out (qF _ _ _ _ _)⟩|exact⟨c,rfl,E9.out⟩
        | some x =>
          rw[Pz.goL_some] at PV;dsimp only[Option.isSome];go_upto_region 16 with (fail);have E705:=hid (E703.out.box c #[.int .i64 c.a.op,.int .i64 c.a.num,.string c.a.name,.slice c.a.ptr (len c.k) c.a.cap] rfl 24);generalize hg707:w704.heap.size=g707 at *;generalize w704.alloc (.cells #[.int .i64 c.a.op,.int .i64 c.a.num,.string c.a.name,.slice c.a.ptr (len c.k) c.a.cap] 24)=w706 at *;clear E703 hg707;have hkl:=ADc.out.2.1;dsimp only at hkl;have ED:=hid (E705.out.below ((Below.refl _ _).drew));obtain⟨qp,qo,qn,qg,qm,ql,qk,qj,qi⟩:=(E705.out.bx (g707,c) (by simp)).1;dsimp only at qp qo qn qg qm ql qk qj qi;obtain⟨qA,qz,qy,qs,qx,qw,qv,qu,qt⟩:=(E705.out.bx (w.heap.size,Pz.z0) (by simp)).1;dsimp only[Pz.z0,len] at qA qz qy qs qx qw qv qu qt
          by_cases hs:Pz.isw L k Pz.wShut=true
          ·
           rw[if_pos hs] at PV
           go_region_with (go_at_call 81;refine(qK sb L p cap k _ _ ED.out.st hs).mono ?_;rintro e w9 ⟨rfl,hp9,hg9⟩;have E9:=hid (ED.out.grown hp9 (qF _ _ _ _ _) hg9);obtain⟨d0,d1,d2,d3,-,-,-,-,-⟩:=(E9.out.bx (g707,c) (by simp)).1;obtain⟨m0,m1,m2,m3,e0,e1,e2,e3,el⟩:=(E9.out.bx (w.heap.size,Pz.z0) (by simp)).1;dsimp only[Pz.z0,len] at d0 d1 d2 d3 m0 m1 m2 m3 e0 e1 e2 e3 el)
           all_goals
            go_wp2;refine bodyPost_ret (v:=.tuple #[.agg #[.int .i64 c.a.op,.int .i64 c.a.num,.string c.a.name,.slice c.a.ptr (len c.k) c.a.cap],.bool true]) ?_ rfl ?_
            ·rw [results_cell_tmp rfl];go_simp
            ·rw [PV.out];exact⟨c,rfl,(E9.out.tail).done4 c (some x) (fun z hz=>by cases hz;exact⟨(Tc.out x rfl).1,(Tc.out x rfl).2⟩) rfl rfl rfl rfl⟩
          ·
           have hs':Pz.isw L k Pz.wShut=false:=(by simpa using hs);rw[if_neg hs] at PV
           go_region_with (go_at_call 81;refine(qQ sb L p cap k _ _ ED.out.st hs').mono ?_;rintro e w9 ⟨rfl,hb9⟩;have E9:=hid (ED.out.below hb9);obtain⟨d0,d1,d2,d3,-,-,-,-,-⟩:=(E9.out.bx (g707,c) (by simp)).1;obtain⟨m0,m1,m2,m3,e0,e1,e2,e3,el⟩:=(E9.out.bx (w.heap.size,Pz.z0) (by simp)).1;dsimp only[Pz.z0,len] at d0 d1 d2 d3 m0 m1 m2 m3 e0 e1 e2 e3 el)
           all_goals
            go_wp2;refine bodyPost_ret (v:=.tuple #[.agg #[.int .i64 c.a.op,.int .i64 c.a.num,.string c.a.name,.slice c.a.ptr (len c.k) c.a.cap],.bool false]) ?_ rfl ?_
            ·rw [results_cell_tmp rfl];go_simp
            ·rw [PV.out];exact⟨c,rfl,(E9.out.tail).done4 c none (fun z hz=>by cases hz) rfl rfl rfl rfl⟩
       ·
        have hw6':Pz.isw L i Pz.wOpen=false:=(by simpa using hw6);rw[if_neg hw6] at PV;refine(qQ sb L p cap i _ _ E6001.out.st hw6').mono ?_;rintro e w7002 ⟨rfl,hb⟩;have E7001:=hid (E6001.out.below hb);clear hb E6001;go_wp2_with fail;have ADX:Pz.Ok L i (Pz.leaf L i) 1:=Pz.leaf_ok hle;have AD:=ADX;refine(Kt L i HV.out sb p cap w7002 E7001.out.st).mono ?_;rintro e w9 ⟨d,rfl,hf⟩;generalize Pz.leaf L i=r0 at *;obtain⟨o,k⟩:=r0;obtain⟨ts9,hE,hc,qE⟩:=E7001.out.go hf (qF _ _ _ _ _) (by intro d hd;cases hd);have E9:=hid hE;have Td:=hid hc;clear hf hE hc qE E7001;dsimp only;obtain⟨qp,qo,qn,qg,qm,ql,qk,qj,qi⟩:=(E9.out.bx (w.heap.size,Pz.z0) (by simp)).1;dsimp only[Pz.z0,len] at qp qo qn qg qm ql qk qj qi;go_wp2;refine bodyPost_ret (v:=.tuple #[.agg #[.int .i64 d.a.op,.int .i64 d.a.num,.string d.a.name,.slice d.a.ptr (len d.k) d.a.cap],.bool o.isSome]) ?_ rfl ?_
        ·rw [results_cell_tmp rfl];go_simp
        ·rw [PV.out];exact⟨d,rfl,(E9.out).done4 d o Td.out rfl rfl rfl rfl⟩
structure PAll (L:List Tk.T4) (i:Nat):Prop where
 ex:PC 35 L .ex i
 dj:PC 80 L .dj i
 cj:PC 126 L .cj i
 ng:PC 154 L .ng i
 cm:PC 174 L .cm i
 sm:PC 190 L .sm i
 tm:PC 200 L .tm i
 fc:PC 204 L .fc i
theorem Qz(L:List Tk.T4)(hV:∀t∈ L,VT t.t):∀n i,i≤L.length→L.length - i < n→PAll L i:=by
 intro n
 induction n with
 | zero=>intro i _ h;omega
 | succ n ih =>
   intro i hi hn;have IH:∀j,i < j→j≤L.length→PAll L j:=fun j a b=>ih j b (by omega);have hfc:=UW L i hV (fun j a b=>(IH j a b).fc) (fun j a b=>(IH j a b).ex);have htm:=UH L i hfc (fun j a b=>(IH j a b).fc);have hsm:=UI L i htm (fun j a b=>(IH j a b).tm);have hcm:=V1 L i hsm (fun j a b=>(IH j a b).sm) (fun j a b=>V3 L j (fun k c d=>(IH k (by omega) d).sm));have hng:=UQ L i hcm (fun j a b=>(IH j a b).ng);have hcj:=V2 L i hng (fun j a b=>(IH j a b).ng);have hdj:=UY L i hcj (fun j a b=>(IH j a b).cj);exact⟨UX L i hdj (fun j a b=>(IH j a b).ex),hdj,hcj,hng,hcm,hsm,htm,hfc⟩
theorem xi(L:List Tk.T4)(hV:∀t∈ L,VT t.t)(i:Nat)(hi:i≤L.length):PC 35 L .ex i:=(Qz L hV _ i hi (Nat.lt_succ_self _)).ex
end Go.Proofs.YtcejjdmnlejbaaaGreatDoor
