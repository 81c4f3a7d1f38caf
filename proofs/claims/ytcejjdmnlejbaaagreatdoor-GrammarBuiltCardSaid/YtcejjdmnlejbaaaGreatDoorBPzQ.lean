import Derived.Test.YtcejjdmnlejbaaaGreatDoorBPzP
namespace Go.Proofs.YtcejjdmnlejbaaaGreatDoor
set_option linter.unusedVariables false
set_option linter.unusedSimpArgs false
open Go.ChangeShapes Go.WideShapes Go.ChangeAt Go.RowKit
open Go.Deep (BT)
set_option maxHeartbeats 600000 in
set_option maxRecDepth 100000 in
theorem ng_of (L:List Tk.T4) (i:Nat) (h0:PC 174 L .cm i) (h1:∀ j,i < j→j≤L.length→PC 154 L .ng j):PC 154 L .ng i:=by
 intro sb p cap w h
 have C0:=Lib.hid h0
 have C1:=Lib.hid h1
 clear h0 h1
 have H:=Lib.hid h
 have hle:=h.le
 have hL4:=h.ls.1
 have E0:Hid (Pz.Env w w sb (fun W=>PSt W sb L p cap i) [] [] []):=Pz.Env.init h (pst_cl _ _ _ _ _) h.lt (by intro c hc;cases hc)
 have PV:Hid (Pz.pv L .ng i=Pz.step L (Pz.pv L) .ng i):=Pz.pv_step L .ng i hle
 unfold Pz.step at PV
 dsimp only at PV
 clear h
 go_enter Tryz.func154,Tryz.ntmps154
 go_wp2_with fail
 have E1:=Lib.hid (E0.out.box Pz.z0 #[.int .i64 0,.int .i64 0,.string ⟨#[]⟩,.slice none 0 0] rfl 24)
 generalize w.alloc (.cells #[.int .i64 0,.int .i64 0,.string ⟨#[]⟩,.slice none 0 0] 24)=w2 at *
 clear E0
 by_cases hw:Pz.isw L i Pz.wNot=true
 · have hj:=Pz.isw_lt hw
   rw [if_pos hw] at PV
   refine (accept_yes sb L p cap i _ _ E1.out.st hw).mono ?_
   rintro e w4 ⟨rfl,hs,hg⟩
   have E3:=Lib.hid (E1.out.grown hs (pst_cl _ _ _ _ _) hg)
   clear hs hg E1
   go_wp2_with fail
   have AD:Pz.Ok L (i+1) (Pz.pv L .ng (i+1)) 1:=Pz.pv_adv L .ng (i+1) hj
   refine (C1.out (i+1) (by omega) hj sb p cap w4 E3.out.st).mono ?_
   rintro e w6 ⟨c,rfl,hf⟩
   have ADc:Hid (Pz.Ok L (i+1) (Pz.pv L .ng (i+1)) 1):=AD
   generalize Pz.pv L .ng (i+1)=r0 at *
   obtain ⟨o,k⟩:=r0
   obtain ⟨tsE5,hE,hc,hsub⟩:=E3.out.go hf (pst_cl _ _ _ _ _) (by intro d hd;cases hd)
   have E5:=Lib.hid hE
   have Tc:=Lib.hid hc
   have Uc:=Lib.hid hsub
   clear hf hE hc hsub E3
   dsimp only
   rw [Pz.bnd_goL] at PV
   go_upto_region 3 with (fail)
   have E7:=Lib.hid (E5.out.box c #[.int .i64 c.a.op,.int .i64 c.a.num,.string c.a.name,.slice c.a.ptr (len c.k) c.a.cap] rfl 24)
   generalize hg9:w6.heap.size=g9 at *
   generalize w6.alloc (.cells #[.int .i64 c.a.op,.int .i64 c.a.num,.string c.a.name,.slice c.a.ptr (len c.k) c.a.cap] 24)=w8 at *
   clear E5 hg9
   obtain ⟨b0c0,b0c1,b0c2,b0c3,b0f0,b0f1,b0f2,b0f3,b0lt⟩:=(E7.out.bx (g9,c) (by simp)).1
   dsimp only at b0c0 b0c1 b0c2 b0c3 b0f0 b0f1 b0f2 b0f3 b0lt
   obtain ⟨b1c0,b1c1,b1c2,b1c3,b1f0,b1f1,b1f2,b1f3,b1lt⟩:=(E7.out.bx (w.heap.size,Pz.z0) (by simp)).1
   dsimp only [Pz.z0,len] at b1c0 b1c1 b1c2 b1c3 b1f0 b1f1 b1f2 b1f3 b1lt
   cases o with
   | none =>
     go_wp2
     refine bodyPost_ret (v:=.tuple #[.agg #[.int .i64 19,.int .i64 0,.string ⟨#[]⟩,.slice (some ⟨w8.heap.size,0,none⟩) 1 1],.bool false]) ?_ rfl ?_
     · rw [results_cell_tmp rfl]
       go_simp
     · rw [PV.out,Pz.goL_none]
       exact ⟨(⟨w8.heap.size,0,⟨19,0,⟨#[]⟩,some ⟨w8.heap.size,0,none⟩,1⟩,rowF [c]⟩:Ch),rfl,(E7.out.tail).done_node [c] 19 1 rfl none (fun x hx=>by cases hx) _ rfl _⟩
   | some x =>
     go_wp2
     refine bodyPost_ret (v:=.tuple #[.agg #[.int .i64 19,.int .i64 0,.string ⟨#[]⟩,.slice (some ⟨w8.heap.size,0,none⟩) 1 1],.bool true]) ?_ rfl ?_
     · rw [results_cell_tmp rfl]
       go_simp
     · rw [PV.out,Pz.goL_some]
       exact ⟨(⟨w8.heap.size,0,⟨19,0,⟨#[]⟩,some ⟨w8.heap.size,0,none⟩,1⟩,rowF [c]⟩:Ch),rfl,(E7.out.tail).done_node [c] 19 1 rfl (some (Pz.tn 19 [x])) (fun y hy=>by cases hy;exact ⟨(by intro q hq;simp only [List.mem_cons,List.not_mem_nil,or_false] at hq;rw [hq];exact (Tc.out x rfl).2),(by rw [List.map_cons,List.map_nil,(Tc.out x rfl).1])⟩) _ rfl _⟩
 · have hw':Pz.isw L i Pz.wNot=false:=by simpa using hw
   rw [if_neg hw] at PV
   refine (accept_no sb L p cap i _ _ E1.out.st hw').mono ?_
   rintro e w22 ⟨rfl,hb⟩
   have E21:=Lib.hid (E1.out.below hb)
   clear hb E1
   go_wp2_with fail
   have AD:Pz.Ok L i (Pz.pv L .cm i) 1:=Pz.pv_adv L .cm i hle
   refine (C0.out sb p cap w22 E21.out.st).mono ?_
   rintro e w24 ⟨c,rfl,hf⟩
   have ADc:Hid (Pz.Ok L i (Pz.pv L .cm i) 1):=AD
   generalize Pz.pv L .cm i=r0 at *
   obtain ⟨o,k⟩:=r0
   obtain ⟨tsE23,hE,hc,hsub⟩:=E21.out.go hf (pst_cl _ _ _ _ _) (by intro d hd;cases hd)
   have E23:=Lib.hid hE
   have Tc:=Lib.hid hc
   have Uc:=Lib.hid hsub
   clear hf hE hc hsub E21
   dsimp only
   obtain ⟨b0c0,b0c1,b0c2,b0c3,b0f0,b0f1,b0f2,b0f3,b0lt⟩:=(E23.out.bx (w.heap.size,Pz.z0) (by simp)).1
   dsimp only [Pz.z0,len] at b0c0 b0c1 b0c2 b0c3 b0f0 b0f1 b0f2 b0f3 b0lt
   go_wp2
   refine bodyPost_ret (v:=.tuple #[.agg #[.int .i64 c.a.op,.int .i64 c.a.num,.string c.a.name,.slice c.a.ptr (len c.k) c.a.cap],.bool o.isSome]) ?_ rfl ?_
   · rw [results_cell_tmp rfl]
     go_simp
   · rw [PV.out]
     exact ⟨c,rfl,E23.out.done4 c o Tc.out rfl rfl rfl rfl⟩
set_option maxHeartbeats 600000 in
set_option maxRecDepth 100000 in
theorem ex_of (L:List Tk.T4) (i:Nat) (h0:PC 80 L .dj i) (h1:∀ j,i < j→j≤L.length→PC 35 L .ex j):PC 35 L .ex i:=by
 intro sb p cap w h
 have C0:=Lib.hid h0
 have C1:=Lib.hid h1
 clear h0 h1
 have H:=Lib.hid h
 have hle:=h.le
 have hL4:=h.ls.1
 have E0:Hid (Pz.Env w w sb (fun W=>PSt W sb L p cap i) [] [] []):=Pz.Env.init h (pst_cl _ _ _ _ _) h.lt (by intro c hc;cases hc)
 have PV:Hid (Pz.pv L .ex i=Pz.step L (Pz.pv L) .ex i):=Pz.pv_step L .ex i hle
 unfold Pz.step at PV
 dsimp only at PV
 clear h
 go_enter Tryz.func35,Tryz.ntmps35
 go_wp2_with fail
 have E1:=Lib.hid (E0.out.box Pz.z0 #[.int .i64 0,.int .i64 0,.string ⟨#[]⟩,.slice none 0 0] rfl 24)
 generalize w.alloc (.cells #[.int .i64 0,.int .i64 0,.string ⟨#[]⟩,.slice none 0 0] 24)=w2 at *
 clear E0
 have AD:Pz.Ok L i (Pz.pv L .dj i) 1:=Pz.pv_adv L .dj i hle
 refine (C0.out sb p cap w2 E1.out.st).mono ?_
 rintro e w4 ⟨c,rfl,hf⟩
 have ADc:Hid (Pz.Ok L i (Pz.pv L .dj i) 1):=AD
 generalize Pz.pv L .dj i=r0 at *
 obtain ⟨o,j⟩:=r0
 obtain ⟨tsE3,hE,hc,hsub⟩:=E1.out.go hf (pst_cl _ _ _ _ _) (by intro d hd;cases hd)
 have E3:=Lib.hid hE
 have Tc:=Lib.hid hc
 have Uc:=Lib.hid hsub
 clear hf hE hc hsub E1
 dsimp only
 rw [Pz.bnd_goL] at PV
 cases o with
 | none =>
   rw [Pz.goL_none] at PV
   dsimp only [Option.isSome]
   go_upto_region 2 with (fail)
   have E5:=Lib.hid (E3.out.box c #[.int .i64 c.a.op,.int .i64 c.a.num,.string c.a.name,.slice c.a.ptr (len c.k) c.a.cap] rfl 24)
   generalize hg7:w4.heap.size=g7 at *
   generalize w4.alloc (.cells #[.int .i64 c.a.op,.int .i64 c.a.num,.string c.a.name,.slice c.a.ptr (len c.k) c.a.cap] 24)=w6 at *
   clear E3 hg7
   obtain ⟨b0c0,b0c1,b0c2,b0c3,b0f0,b0f1,b0f2,b0f3,b0lt⟩:=(E5.out.bx (g7,c) (by simp)).1
   dsimp only at b0c0 b0c1 b0c2 b0c3 b0f0 b0f1 b0f2 b0f3 b0lt
   obtain ⟨b1c0,b1c1,b1c2,b1c3,b1f0,b1f1,b1f2,b1f3,b1lt⟩:=(E5.out.bx (w.heap.size,Pz.z0) (by simp)).1
   dsimp only [Pz.z0,len] at b1c0 b1c1 b1c2 b1c3 b1f0 b1f1 b1f2 b1f3 b1lt
   go_wp2
   refine bodyPost_ret (v:=.tuple #[.agg #[.int .i64 c.a.op,.int .i64 c.a.num,.string c.a.name,.slice c.a.ptr (len c.k) c.a.cap],.bool false]) ?_ rfl ?_
   · rw [results_cell_tmp rfl]
     go_simp
   · rw [PV.out]
     exact ⟨c,rfl,(E5.out.tail).done4 c none (fun x hx=>by cases hx) rfl rfl rfl rfl⟩
 | some x =>
   rw [Pz.goL_some] at PV
   dsimp only [Option.isSome]
   go_upto_region 2 with (fail)
   have E5:=Lib.hid (E3.out.box c #[.int .i64 c.a.op,.int .i64 c.a.num,.string c.a.name,.slice c.a.ptr (len c.k) c.a.cap] rfl 24)
   generalize hg7:w4.heap.size=g7 at *
   generalize w4.alloc (.cells #[.int .i64 c.a.op,.int .i64 c.a.num,.string c.a.name,.slice c.a.ptr (len c.k) c.a.cap] 24)=w6 at *
   clear E3 hg7
   by_cases hw:Pz.isw L j Pz.wImplies=true
   ·
    have hj:=Pz.isw_lt hw
    have hij:=ADc.out.2.2 rfl
    dsimp only at hij
    rw [if_pos hw] at PV
    go_wp2_with fail
    refine (accept_yes sb L p cap j _ _ E5.out.st hw).mono ?_
    rintro e w9 ⟨rfl,hs,hg⟩
    have E8:=Lib.hid (E5.out.grown hs (pst_cl _ _ _ _ _) hg)
    clear hs hg E5
    go_wp2_with fail
    have AD:Pz.Ok L (j+1) (Pz.pv L .ex (j+1)) 1:=Pz.pv_adv L .ex (j+1) hj
    refine (C1.out (j+1) (by omega) hj sb p cap w9 E8.out.st).mono ?_
    rintro e w11 ⟨d,rfl,hf⟩
    have ADd:Hid (Pz.Ok L (j+1) (Pz.pv L .ex (j+1)) 1):=AD
    generalize Pz.pv L .ex (j+1)=r0 at *
    obtain ⟨o,k⟩:=r0
    obtain ⟨tsE10,hE,hc,hsub⟩:=E8.out.go hf (pst_cl _ _ _ _ _) (by intro d hd;cases hd)
    have E10:=Lib.hid hE
    have Td:=Lib.hid hc
    have Ud:=Lib.hid hsub
    clear hf hE hc hsub E8
    dsimp only
    rw [Pz.bnd_goL] at PV
    go_upto_region 5 with (fail)
    have E12:=Lib.hid (E10.out.box d #[.int .i64 d.a.op,.int .i64 d.a.num,.string d.a.name,.slice d.a.ptr (len d.k) d.a.cap] rfl 24)
    generalize hg14:w11.heap.size=g14 at *
    generalize w11.alloc (.cells #[.int .i64 d.a.op,.int .i64 d.a.num,.string d.a.name,.slice d.a.ptr (len d.k) d.a.cap] 24)=w13 at *
    clear E10 hg14
    obtain ⟨b0c0,b0c1,b0c2,b0c3,b0f0,b0f1,b0f2,b0f3,b0lt⟩:=(E12.out.bx (g14,d) (by simp)).1
    dsimp only at b0c0 b0c1 b0c2 b0c3 b0f0 b0f1 b0f2 b0f3 b0lt
    obtain ⟨b1c0,b1c1,b1c2,b1c3,b1f0,b1f1,b1f2,b1f3,b1lt⟩:=(E12.out.bx (g7,c) (by simp)).1
    dsimp only at b1c0 b1c1 b1c2 b1c3 b1f0 b1f1 b1f2 b1f3 b1lt
    obtain ⟨b2c0,b2c1,b2c2,b2c3,b2f0,b2f1,b2f2,b2f3,b2lt⟩:=(E12.out.bx (w.heap.size,Pz.z0) (by simp)).1
    dsimp only [Pz.z0,len] at b2c0 b2c1 b2c2 b2c3 b2f0 b2f1 b2f2 b2f3 b2lt
    go_wp2_with fail
    clear b0c0 b0c1 b0c2 b0c3 b0f0 b0f1 b0f2 b0f3 b0lt b1c0 b1c1 b1c2 b1c3 b1f0 b1f1 b1f2 b1f3 b1lt b2c0 b2c1 b2c2 b2c3 b2f0 b2f1 b2f2 b2f3 b2lt
    refine (pair_any 22 c d w13).mono ?_
    rintro e w16 ⟨q17,rfl,hg,hb,hcl⟩
    obtain ⟨tsa,hEa,hna,hsub⟩:=E12.out.pair hb ⟨(Tc.out x rfl).1,(Ud.out _ (Tc.out x rfl).2)⟩ Td.out 22 q17 hg hcl
    have E15:=Lib.hid hEa
    have TN:=Lib.hid hna
    clear hEa hna hg hb hcl hsub E12
    obtain ⟨b0c0,b0c1,b0c2,b0c3,b0f0,b0f1,b0f2,b0f3,b0lt⟩:=(E15.out.bx (g14,d) (by simp)).1
    dsimp only at b0c0 b0c1 b0c2 b0c3 b0f0 b0f1 b0f2 b0f3 b0lt
    obtain ⟨b1c0,b1c1,b1c2,b1c3,b1f0,b1f1,b1f2,b1f3,b1lt⟩:=(E15.out.bx (g7,c) (by simp)).1
    dsimp only at b1c0 b1c1 b1c2 b1c3 b1f0 b1f1 b1f2 b1f3 b1lt
    obtain ⟨b2c0,b2c1,b2c2,b2c3,b2f0,b2f1,b2f2,b2f3,b2lt⟩:=(E15.out.bx (w.heap.size,Pz.z0) (by simp)).1
    dsimp only [Pz.z0,len] at b2c0 b2c1 b2c2 b2c3 b2f0 b2f1 b2f2 b2f3 b2lt
    cases o with
    | none =>
      go_wp2
      refine bodyPost_ret (v:=.tuple #[.agg #[.int .i64 22,.int .i64 0,.string ⟨#[]⟩,.slice (some ⟨q17,0,none⟩) 2 2],.bool false]) ?_ rfl ?_
      · rw [results_cell_tmp rfl]
        go_simp
      · rw [PV.out,Pz.goL_none]
        exact ⟨(⟨q17,0,⟨22,0,⟨#[]⟩,some ⟨q17,0,none⟩,2⟩,rowF [c,d]⟩:Ch),rfl,(E15.out.tail.tail).done4 (⟨q17,0,⟨22,0,⟨#[]⟩,some ⟨q17,0,none⟩,2⟩,rowF [c,d]⟩:Ch) none (fun x hx=>by cases hx) rfl rfl rfl rfl⟩
    | some y =>
      go_wp2
      refine bodyPost_ret (v:=.tuple #[.agg #[.int .i64 22,.int .i64 0,.string ⟨#[]⟩,.slice (some ⟨q17,0,none⟩) 2 2],.bool true]) ?_ rfl ?_
      · rw [results_cell_tmp rfl]
        go_simp
      · rw [PV.out,Pz.goL_some]
        exact ⟨(⟨q17,0,⟨22,0,⟨#[]⟩,some ⟨q17,0,none⟩,2⟩,rowF [c,d]⟩:Ch),rfl,(E15.out.tail.tail).done4 (⟨q17,0,⟨22,0,⟨#[]⟩,some ⟨q17,0,none⟩,2⟩,rowF [c,d]⟩:Ch) (some (Pz.tn 22 [x,y])) (fun z hz=>by cases hz;exact TN.out y rfl) rfl rfl rfl rfl⟩
   ·
    have hw':Pz.isw L j Pz.wImplies=false:=by simpa using hw
    rw [if_neg hw] at PV
    go_wp2_with fail
    refine (accept_no sb L p cap j _ _ E5.out.st hw').mono ?_
    rintro e w42 ⟨rfl,hb⟩
    have E41:=Lib.hid (E5.out.below hb)
    clear hb E5
    obtain ⟨b0c0,b0c1,b0c2,b0c3,b0f0,b0f1,b0f2,b0f3,b0lt⟩:=(E41.out.bx (g7,c) (by simp)).1
    dsimp only at b0c0 b0c1 b0c2 b0c3 b0f0 b0f1 b0f2 b0f3 b0lt
    obtain ⟨b1c0,b1c1,b1c2,b1c3,b1f0,b1f1,b1f2,b1f3,b1lt⟩:=(E41.out.bx (w.heap.size,Pz.z0) (by simp)).1
    dsimp only [Pz.z0,len] at b1c0 b1c1 b1c2 b1c3 b1f0 b1f1 b1f2 b1f3 b1lt
    go_wp2
    refine bodyPost_ret (v:=.tuple #[.agg #[.int .i64 c.a.op,.int .i64 c.a.num,.string c.a.name,.slice c.a.ptr (len c.k) c.a.cap],.bool true]) ?_ rfl ?_
    · rw [results_cell_tmp rfl]
      go_simp
    · rw [PV.out]
      exact ⟨c,rfl,(E41.out.tail).done4 c (some x) Tc.out rfl rfl rfl rfl⟩
def PBd (L:List Tk.T4) (i:Nat):Prop:=∀ (sb:Nat) (p:Option Addr) (cap:Nat) (w:World) (c x:Ch),PSt w sb L p cap i→Pz.nr c=x→ExAt w c.b c.o c.a c.k→Pz.FNe sb c.k c.b →
 Calls Tryz.prog 191 #[.pointer (some ⟨sb,0,none⟩),.agg #[.int .i64 c.a.op,.int .i64 c.a.num,.string c.a.name,.slice c.a.ptr (len c.k) c.a.cap]] w (PFin w sb [c] L p cap (Pz.pv L (.bd x) i))
set_option maxHeartbeats 600000 in
set_option maxRecDepth 100000 in
theorem bd_of (L:List Tk.T4) (i:Nat) (h1:∀ j,i≤j→j≤L.length→PC 190 L .sm j):PBd L i:=by
 intro sb p cap w c x h hnr hex hfn
 have C1:=Lib.hid h1
 have NR:=Lib.hid hnr
 clear h1
 have H:=Lib.hid h
 have hle:=h.le
 have hL4:=h.ls.1
 have E0:Hid (Pz.Env w w sb (fun W=>PSt W sb L p cap i) [c] [] [c]):=Pz.Env.init h (pst_cl _ _ _ _ _) h.lt (by intro d hd;simp only [List.mem_cons,List.not_mem_nil,or_false] at hd;subst hd;exact ⟨hex,hfn⟩)
 have PV:Hid (Pz.pv L (.bd x) i=Pz.step L (Pz.pv L) (.bd x) i):=Pz.pv_step L (.bd x) i hle
 unfold Pz.step at PV
 dsimp only at PV
 clear h hnr hex hfn
 go_enter Tryz.func191,Tryz.ntmps191
 go_wp2_with fail
 have E1:=Lib.hid ((E0.out.box c #[.int .i64 c.a.op,.int .i64 c.a.num,.string c.a.name,.slice c.a.ptr (len c.k) c.a.cap] rfl 24).box Pz.z0 #[.int .i64 0,.int .i64 0,.string ⟨#[]⟩,.slice none 0 0] rfl 24)
 simp only [World.size_alloc] at E1
 generalize (w.alloc (.cells #[.int .i64 c.a.op,.int .i64 c.a.num,.string c.a.name,.slice c.a.ptr (len c.k) c.a.cap] 24)).alloc (.cells #[.int .i64 0,.int .i64 0,.string ⟨#[]⟩,.slice none 0 0] 24)=w1 at *
 clear E0
 have AD:Pz.Ok L i (Pz.pv L .sm i) 1:=Pz.pv_adv L .sm i hle
 refine (C1.out i (Nat.le_refl _) hle sb p cap w1 E1.out.st).mono ?_
 rintro e w3 ⟨d,rfl,hf⟩
 have ADd:Hid (Pz.Ok L i (Pz.pv L .sm i) 1):=AD
 generalize Pz.pv L .sm i=r0 at *
 obtain ⟨o,j⟩:=r0
 obtain ⟨tsE2,hE,hc,hsub⟩:=E1.out.go hf (pst_cl _ _ _ _ _) (by intro d hd;cases hd)
 have E2:=Lib.hid hE
 have Td:=Lib.hid hc
 have Ud:=Lib.hid hsub
 clear hf hE hc hsub E1
 dsimp only
 rw [Pz.bnd_goL] at PV
 cases o with
 | none =>
   rw [Pz.goL_none] at PV
   dsimp only [Option.isSome]
   go_upto_region 2 with (fail)
   have E4:=Lib.hid (E2.out.box d #[.int .i64 d.a.op,.int .i64 d.a.num,.string d.a.name,.slice d.a.ptr (len d.k) d.a.cap] rfl 24)
   generalize hg6:w3.heap.size=g6 at *
   generalize w3.alloc (.cells #[.int .i64 d.a.op,.int .i64 d.a.num,.string d.a.name,.slice d.a.ptr (len d.k) d.a.cap] 24)=w5 at *
   clear E2 hg6
   obtain ⟨b0c0,b0c1,b0c2,b0c3,b0f0,b0f1,b0f2,b0f3,b0lt⟩:=(E4.out.bx (g6,d) (by simp)).1
   dsimp only at b0c0 b0c1 b0c2 b0c3 b0f0 b0f1 b0f2 b0f3 b0lt
   obtain ⟨b1c0,b1c1,b1c2,b1c3,b1f0,b1f1,b1f2,b1f3,b1lt⟩:=(E4.out.bx (w.heap.size+1,Pz.z0) (by simp)).1
   dsimp only [Pz.z0,len] at b1c0 b1c1 b1c2 b1c3 b1f0 b1f1 b1f2 b1f3 b1lt
   obtain ⟨b2c0,b2c1,b2c2,b2c3,b2f0,b2f1,b2f2,b2f3,b2lt⟩:=(E4.out.bx (w.heap.size,c) (by simp)).1
   dsimp only at b2c0 b2c1 b2c2 b2c3 b2f0 b2f1 b2f2 b2f3 b2lt
   go_wp2
   refine bodyPost_ret (v:=.tuple #[.agg #[.int .i64 0,.int .i64 0,.string ⟨#[]⟩,.slice none 0 0],.bool false]) ?_ rfl ?_
   · rw [results_cell_tmp rfl]
     go_simp
   · rw [PV.out]
     exact ⟨Pz.z0,rfl,(E4.out.tail).done4 Pz.z0 none (fun x hx=>by cases hx) rfl rfl rfl rfl⟩
 | some y =>
   rw [Pz.goL_some] at PV
   dsimp only [Option.isSome]
   go_upto_region 2 with (fail)
   have E4:=Lib.hid (E2.out.box d #[.int .i64 d.a.op,.int .i64 d.a.num,.string d.a.name,.slice d.a.ptr (len d.k) d.a.cap] rfl 24)
   generalize hg6:w3.heap.size=g6 at *
   generalize w3.alloc (.cells #[.int .i64 d.a.op,.int .i64 d.a.num,.string d.a.name,.slice d.a.ptr (len d.k) d.a.cap] 24)=w5 at *
   clear E2 hg6
   by_cases hw:Pz.isw L j Pz.wTo=true
   ·
    have hj:=Pz.isw_lt hw
    have hij:=ADd.out.2.2 rfl
    dsimp only at hij
    rw [if_pos hw] at PV
    go_wp2_with fail
    refine (accept_yes sb L p cap j _ _ E4.out.st hw).mono ?_
    rintro e w8 ⟨rfl,hs,hg⟩
    have E7:=Lib.hid (E4.out.grown hs (pst_cl _ _ _ _ _) hg)
    clear hs hg E4
    go_wp2_with fail
    have AD:Pz.Ok L (j+1) (Pz.pv L .sm (j+1)) 1:=Pz.pv_adv L .sm (j+1) hj
    refine (C1.out (j+1) (by omega) hj sb p cap w8 E7.out.st).mono ?_
    rintro e w10 ⟨e1,rfl,hf⟩
    have ADe1:Hid (Pz.Ok L (j+1) (Pz.pv L .sm (j+1)) 1):=AD
    generalize Pz.pv L .sm (j+1)=r0 at *
    obtain ⟨o,k⟩:=r0
    obtain ⟨tsE9,hE,hc,hsub⟩:=E7.out.go hf (pst_cl _ _ _ _ _) (by intro d hd;cases hd)
    have E9:=Lib.hid hE
    have Te1:=Lib.hid hc
    have Ue1:=Lib.hid hsub
    clear hf hE hc hsub E7
    dsimp only
    rw [Pz.bnd_goL] at PV
    go_upto_region 5 with (fail)
    have E11:=Lib.hid (E9.out.box e1 #[.int .i64 e1.a.op,.int .i64 e1.a.num,.string e1.a.name,.slice e1.a.ptr (len e1.k) e1.a.cap] rfl 24)
    generalize hg13:w10.heap.size=g13 at *
    generalize w10.alloc (.cells #[.int .i64 e1.a.op,.int .i64 e1.a.num,.string e1.a.name,.slice e1.a.ptr (len e1.k) e1.a.cap] 24)=w12 at *
    clear E9 hg13
    obtain ⟨b0c0,b0c1,b0c2,b0c3,b0f0,b0f1,b0f2,b0f3,b0lt⟩:=(E11.out.bx (g13,e1) (by simp)).1
    dsimp only at b0c0 b0c1 b0c2 b0c3 b0f0 b0f1 b0f2 b0f3 b0lt
    obtain ⟨b1c0,b1c1,b1c2,b1c3,b1f0,b1f1,b1f2,b1f3,b1lt⟩:=(E11.out.bx (g6,d) (by simp)).1
    dsimp only at b1c0 b1c1 b1c2 b1c3 b1f0 b1f1 b1f2 b1f3 b1lt
    obtain ⟨b2c0,b2c1,b2c2,b2c3,b2f0,b2f1,b2f2,b2f3,b2lt⟩:=(E11.out.bx (w.heap.size+1,Pz.z0) (by simp)).1
    dsimp only [Pz.z0,len] at b2c0 b2c1 b2c2 b2c3 b2f0 b2f1 b2f2 b2f3 b2lt
    obtain ⟨b3c0,b3c1,b3c2,b3c3,b3f0,b3f1,b3f2,b3f3,b3lt⟩:=(E11.out.bx (w.heap.size,c) (by simp)).1
    dsimp only at b3c0 b3c1 b3c2 b3c3 b3f0 b3f1 b3f2 b3f3 b3lt
    cases o with
    | none =>
      go_wp2
      refine bodyPost_ret (v:=.tuple #[.agg #[.int .i64 15,.int .i64 0,.string ⟨#[]⟩,.slice (some ⟨w12.heap.size,0,none⟩) 3 3],.bool false]) ?_ rfl ?_
      · rw [results_cell_tmp rfl]
        go_simp
      · rw [PV.out,Pz.goL_none]
        exact ⟨(⟨w12.heap.size,0,⟨15,0,⟨#[]⟩,some ⟨w12.heap.size,0,none⟩,3⟩,rowF [c,d,e1]⟩:Ch),rfl,(E11.out.tail.tail).done_node [c,d,e1] 15 3 rfl none (fun x hx=>by cases hx) _ rfl _⟩
    | some z =>
      go_wp2
      refine bodyPost_ret (v:=.tuple #[.agg #[.int .i64 15,.int .i64 0,.string ⟨#[]⟩,.slice (some ⟨w12.heap.size,0,none⟩) 3 3],.bool true]) ?_ rfl ?_
      · rw [results_cell_tmp rfl]
        go_simp
      · rw [PV.out,Pz.goL_some]
        exact ⟨(⟨w12.heap.size,0,⟨15,0,⟨#[]⟩,some ⟨w12.heap.size,0,none⟩,3⟩,rowF [c,d,e1]⟩:Ch),rfl,(E11.out.tail.tail).done_node [c,d,e1] 15 3 rfl (some (Pz.tn 15 [x,y,z])) (fun y hy=>by cases hy;exact ⟨(by intro q hq;simp only [List.mem_cons,List.not_mem_nil,or_false] at hq;rcases hq with e9|e9|e9;rw [e9];exact (Ue1.out _ (Ud.out _ (show c ∈ [c] by simp)));rw [e9];exact (Ue1.out _ (Td.out y rfl).2);rw [e9];exact (Te1.out z rfl).2),(by rw [List.map_cons,List.map_cons,List.map_cons,List.map_nil,NR.out,(Td.out y rfl).1,(Te1.out z rfl).1])⟩) _ rfl _⟩
   ·
    have hw':Pz.isw L j Pz.wTo=false:=by simpa using hw
    rw [if_neg hw] at PV
    go_wp2_with fail
    refine (accept_no sb L p cap j _ _ E4.out.st hw').mono ?_
    rintro e w42 ⟨rfl,hb⟩
    have E41:=Lib.hid (E4.out.below hb)
    clear hb E4
    obtain ⟨b0c0,b0c1,b0c2,b0c3,b0f0,b0f1,b0f2,b0f3,b0lt⟩:=(E41.out.bx (g6,d) (by simp)).1
    dsimp only at b0c0 b0c1 b0c2 b0c3 b0f0 b0f1 b0f2 b0f3 b0lt
    obtain ⟨b1c0,b1c1,b1c2,b1c3,b1f0,b1f1,b1f2,b1f3,b1lt⟩:=(E41.out.bx (w.heap.size+1,Pz.z0) (by simp)).1
    dsimp only [Pz.z0,len] at b1c0 b1c1 b1c2 b1c3 b1f0 b1f1 b1f2 b1f3 b1lt
    obtain ⟨b2c0,b2c1,b2c2,b2c3,b2f0,b2f1,b2f2,b2f3,b2lt⟩:=(E41.out.bx (w.heap.size,c) (by simp)).1
    dsimp only at b2c0 b2c1 b2c2 b2c3 b2f0 b2f1 b2f2 b2f3 b2lt
    go_wp2
    refine bodyPost_ret (v:=.tuple #[.agg #[.int .i64 0,.int .i64 0,.string ⟨#[]⟩,.slice none 0 0],.bool false]) ?_ rfl ?_
    · rw [results_cell_tmp rfl]
      go_simp
    · rw [PV.out]
      exact ⟨Pz.z0,rfl,(E41.out.tail).done4 Pz.z0 none (fun x hx=>by cases hx) rfl rfl rfl rfl⟩
set_option maxHeartbeats 600000 in
set_option maxRecDepth 100000 in
theorem cm_of (L:List Tk.T4) (i:Nat) (h0:PC 190 L .sm i) (h1:∀ j,i < j→j≤L.length→PC 190 L .sm j) (h2:∀ j,i < j→j≤L.length→PBd L j):PC 174 L .cm i:=by
 intro sb p cap w h
 have C0:=Lib.hid h0
 have C1:=Lib.hid h1
 have C2:=Lib.hid h2
 clear h0 h1 h2
 have H:=Lib.hid h
 have hle:=h.le
 have hL4:=h.ls.1
 have E0:Hid (Pz.Env w w sb (fun W=>PSt W sb L p cap i) [] [] []):=Pz.Env.init h (pst_cl _ _ _ _ _) h.lt (by intro c hc;cases hc)
 have PV:Hid (Pz.pv L .cm i=Pz.step L (Pz.pv L) .cm i):=Pz.pv_step L .cm i hle
 unfold Pz.step at PV
 dsimp only at PV
 clear h
 go_enter Tryz.func174,Tryz.ntmps174
 go_wp2_with fail
 have E1:=Lib.hid (E0.out.box Pz.z0 #[.int .i64 0,.int .i64 0,.string ⟨#[]⟩,.slice none 0 0] rfl 24)
 generalize w.alloc (.cells #[.int .i64 0,.int .i64 0,.string ⟨#[]⟩,.slice none 0 0] 24)=w2 at *
 clear E0
 have AD:Pz.Ok L i (Pz.pv L .sm i) 1:=Pz.pv_adv L .sm i hle
 refine (C0.out sb p cap w2 E1.out.st).mono ?_
 rintro e w4 ⟨c,rfl,hf⟩
 have ADc:Hid (Pz.Ok L i (Pz.pv L .sm i) 1):=AD
 generalize Pz.pv L .sm i=r0 at *
 obtain ⟨o,j⟩:=r0
 obtain ⟨tsE3,hE,hc,hsub⟩:=E1.out.go hf (pst_cl _ _ _ _ _) (by intro d hd;cases hd)
 have E3:=Lib.hid hE
 have Tc:=Lib.hid hc
 have Uc:=Lib.hid hsub
 clear hf hE hc hsub E1
 dsimp only
 rw [Pz.bnd_goL] at PV
 cases o with
 | none =>
   rw [Pz.goL_none] at PV
   dsimp only [Option.isSome]
   go_upto_region 2 with (fail)
   have E5:=Lib.hid (E3.out.box c #[.int .i64 c.a.op,.int .i64 c.a.num,.string c.a.name,.slice c.a.ptr (len c.k) c.a.cap] rfl 24)
   generalize hg7:w4.heap.size=g7 at *
   generalize w4.alloc (.cells #[.int .i64 c.a.op,.int .i64 c.a.num,.string c.a.name,.slice c.a.ptr (len c.k) c.a.cap] 24)=w6 at *
   clear E3 hg7
   obtain ⟨b0c0,b0c1,b0c2,b0c3,b0f0,b0f1,b0f2,b0f3,b0lt⟩:=(E5.out.bx (g7,c) (by simp)).1
   dsimp only at b0c0 b0c1 b0c2 b0c3 b0f0 b0f1 b0f2 b0f3 b0lt
   obtain ⟨b1c0,b1c1,b1c2,b1c3,b1f0,b1f1,b1f2,b1f3,b1lt⟩:=(E5.out.bx (w.heap.size,Pz.z0) (by simp)).1
   dsimp only [Pz.z0,len] at b1c0 b1c1 b1c2 b1c3 b1f0 b1f1 b1f2 b1f3 b1lt
   go_wp2
   refine bodyPost_ret (v:=.tuple #[.agg #[.int .i64 c.a.op,.int .i64 c.a.num,.string c.a.name,.slice c.a.ptr (len c.k) c.a.cap],.bool false]) ?_ rfl ?_
   · rw [results_cell_tmp rfl]
     go_simp
   · rw [PV.out]
     exact ⟨c,rfl,(E5.out.tail).done4 c none (fun x hx=>by cases hx) rfl rfl rfl rfl⟩
 | some x =>
   rw [Pz.goL_some] at PV
   dsimp only [Option.isSome]
   go_upto_region 2 with (fail)
   have E5:=Lib.hid (E3.out.box c #[.int .i64 c.a.op,.int .i64 c.a.num,.string c.a.name,.slice c.a.ptr (len c.k) c.a.cap] rfl 24)
   generalize hg7:w4.heap.size=g7 at *
   generalize w4.alloc (.cells #[.int .i64 c.a.op,.int .i64 c.a.num,.string c.a.name,.slice c.a.ptr (len c.k) c.a.cap] 24)=w6 at *
   clear E3 hg7
   have hij:=ADc.out.2.2 rfl
   dsimp only at hij
   by_cases hw0:Pz.isw L j Pz.wLess=true
   ·
    have hj:=Pz.isw_lt hw0
    rw [if_pos hw0] at PV
    go_wp2_with fail
    refine (accept_yes sb L p cap j _ _ E5.out.st hw0).mono ?_
    rintro e w102 ⟨rfl,hs,hg⟩
    have E101:=Lib.hid (E5.out.grown hs (pst_cl _ _ _ _ _) hg)
    clear hs hg E5
    go_wp2_with fail
    have AD:Pz.Ok L (j+1) (Pz.pv L .sm (j+1)) 1:=Pz.pv_adv L .sm (j+1) hj
    refine (C1.out (j+1) (by omega) hj sb p cap w102 E101.out.st).mono ?_
    rintro e w104 ⟨d,rfl,hf⟩
    have ADd:Hid (Pz.Ok L (j+1) (Pz.pv L .sm (j+1)) 1):=AD
    generalize Pz.pv L .sm (j+1)=r0 at *
    obtain ⟨o,k⟩:=r0
    obtain ⟨tsE103,hE,hc,hsub⟩:=E101.out.go hf (pst_cl _ _ _ _ _) (by intro d hd;cases hd)
    have E103:=Lib.hid hE
    have Td:=Lib.hid hc
    have Ud:=Lib.hid hsub
    clear hf hE hc hsub E101
    dsimp only
    rw [Pz.bnd_goL] at PV
    go_upto_region 15 with (fail)
    have E105:=Lib.hid (E103.out.box d #[.int .i64 d.a.op,.int .i64 d.a.num,.string d.a.name,.slice d.a.ptr (len d.k) d.a.cap] rfl 24)
    generalize hg107:w104.heap.size=g107 at *
    generalize w104.alloc (.cells #[.int .i64 d.a.op,.int .i64 d.a.num,.string d.a.name,.slice d.a.ptr (len d.k) d.a.cap] 24)=w106 at *
    clear E103 hg107
    obtain ⟨b0c0,b0c1,b0c2,b0c3,b0f0,b0f1,b0f2,b0f3,b0lt⟩:=(E105.out.bx (g107,d) (by simp)).1
    dsimp only at b0c0 b0c1 b0c2 b0c3 b0f0 b0f1 b0f2 b0f3 b0lt
    obtain ⟨b1c0,b1c1,b1c2,b1c3,b1f0,b1f1,b1f2,b1f3,b1lt⟩:=(E105.out.bx (g7,c) (by simp)).1
    dsimp only at b1c0 b1c1 b1c2 b1c3 b1f0 b1f1 b1f2 b1f3 b1lt
    obtain ⟨b2c0,b2c1,b2c2,b2c3,b2f0,b2f1,b2f2,b2f3,b2lt⟩:=(E105.out.bx (w.heap.size,Pz.z0) (by simp)).1
    dsimp only [Pz.z0,len] at b2c0 b2c1 b2c2 b2c3 b2f0 b2f1 b2f2 b2f3 b2lt
    go_wp2_with fail
    clear b0c0 b0c1 b0c2 b0c3 b0f0 b0f1 b0f2 b0f3 b0lt b1c0 b1c1 b1c2 b1c3 b1f0 b1f1 b1f2 b1f3 b1lt b2c0 b2c1 b2c2 b2c3 b2f0 b2f1 b2f2 b2f3 b2lt
    refine (pair_any 16 c d w106).mono ?_
    rintro e w109 ⟨q110,rfl,hg,hb,hcl⟩
    obtain ⟨tsa,hEa,hna,hsub⟩:=E105.out.pair hb ⟨(Tc.out x rfl).1,(Ud.out _ (Tc.out x rfl).2)⟩ Td.out 16 q110 hg hcl
    have E108:=Lib.hid hEa
    have TN:=Lib.hid hna
    clear hEa hna hg hb hcl hsub E105
    obtain ⟨b0c0,b0c1,b0c2,b0c3,b0f0,b0f1,b0f2,b0f3,b0lt⟩:=(E108.out.bx (g107,d) (by simp)).1
    dsimp only at b0c0 b0c1 b0c2 b0c3 b0f0 b0f1 b0f2 b0f3 b0lt
    obtain ⟨b1c0,b1c1,b1c2,b1c3,b1f0,b1f1,b1f2,b1f3,b1lt⟩:=(E108.out.bx (g7,c) (by simp)).1
    dsimp only at b1c0 b1c1 b1c2 b1c3 b1f0 b1f1 b1f2 b1f3 b1lt
    obtain ⟨b2c0,b2c1,b2c2,b2c3,b2f0,b2f1,b2f2,b2f3,b2lt⟩:=(E108.out.bx (w.heap.size,Pz.z0) (by simp)).1
    dsimp only [Pz.z0,len] at b2c0 b2c1 b2c2 b2c3 b2f0 b2f1 b2f2 b2f3 b2lt
    cases o with
    | none =>
      go_wp2
      refine bodyPost_ret (v:=.tuple #[.agg #[.int .i64 16,.int .i64 0,.string ⟨#[]⟩,.slice (some ⟨q110,0,none⟩) 2 2],.bool false]) ?_ rfl ?_
      · rw [results_cell_tmp rfl]
        go_simp
      · rw [PV.out,Pz.goL_none]
        exact ⟨(⟨q110,0,⟨16,0,⟨#[]⟩,some ⟨q110,0,none⟩,2⟩,rowF [c,d]⟩:Ch),rfl,(E108.out.tail.tail).done4 (⟨q110,0,⟨16,0,⟨#[]⟩,some ⟨q110,0,none⟩,2⟩,rowF [c,d]⟩:Ch) none (fun x hx=>by cases hx) rfl rfl rfl rfl⟩
    | some y =>
      go_wp2
      refine bodyPost_ret (v:=.tuple #[.agg #[.int .i64 16,.int .i64 0,.string ⟨#[]⟩,.slice (some ⟨q110,0,none⟩) 2 2],.bool true]) ?_ rfl ?_
      · rw [results_cell_tmp rfl]
        go_simp
      · rw [PV.out,Pz.goL_some]
        exact ⟨(⟨q110,0,⟨16,0,⟨#[]⟩,some ⟨q110,0,none⟩,2⟩,rowF [c,d]⟩:Ch),rfl,(E108.out.tail.tail).done4 (⟨q110,0,⟨16,0,⟨#[]⟩,some ⟨q110,0,none⟩,2⟩,rowF [c,d]⟩:Ch) (some (Pz.tn 16 [x,y])) (fun z hz=>by cases hz;exact TN.out y rfl) rfl rfl rfl rfl⟩
   ·
    have hw0':Pz.isw L j Pz.wLess=false:=by simpa using hw0
    rw [if_neg hw0] at PV
    go_wp2_with fail
    refine (accept_no sb L p cap j _ _ E5.out.st hw0').mono ?_
    rintro e w1002 ⟨rfl,hb⟩
    have E1001:=Lib.hid (E5.out.below hb)
    clear hb E5
    by_cases hw1:Pz.isw L j Pz.wLeq=true
    ·
     have hj:=Pz.isw_lt hw1
     rw [if_pos hw1] at PV
     go_wp2_with fail
     refine (accept_yes sb L p cap j _ _ E1001.out.st hw1).mono ?_
     rintro e w202 ⟨rfl,hs,hg⟩
     have E201:=Lib.hid (E1001.out.grown hs (pst_cl _ _ _ _ _) hg)
     clear hs hg E1001
     go_wp2_with fail
     have AD:Pz.Ok L (j+1) (Pz.pv L .sm (j+1)) 1:=Pz.pv_adv L .sm (j+1) hj
     refine (C1.out (j+1) (by omega) hj sb p cap w202 E201.out.st).mono ?_
     rintro e w204 ⟨d,rfl,hf⟩
     have ADd:Hid (Pz.Ok L (j+1) (Pz.pv L .sm (j+1)) 1):=AD
     generalize Pz.pv L .sm (j+1)=r0 at *
     obtain ⟨o,k⟩:=r0
     obtain ⟨tsE203,hE,hc,hsub⟩:=E201.out.go hf (pst_cl _ _ _ _ _) (by intro d hd;cases hd)
     have E203:=Lib.hid hE
     have Td:=Lib.hid hc
     have Ud:=Lib.hid hsub
     clear hf hE hc hsub E201
     dsimp only
     rw [Pz.bnd_goL] at PV
     go_upto_region 15 with (fail)
     have E205:=Lib.hid (E203.out.box d #[.int .i64 d.a.op,.int .i64 d.a.num,.string d.a.name,.slice d.a.ptr (len d.k) d.a.cap] rfl 24)
     generalize hg207:w204.heap.size=g207 at *
     generalize w204.alloc (.cells #[.int .i64 d.a.op,.int .i64 d.a.num,.string d.a.name,.slice d.a.ptr (len d.k) d.a.cap] 24)=w206 at *
     clear E203 hg207
     obtain ⟨b0c0,b0c1,b0c2,b0c3,b0f0,b0f1,b0f2,b0f3,b0lt⟩:=(E205.out.bx (g207,d) (by simp)).1
     dsimp only at b0c0 b0c1 b0c2 b0c3 b0f0 b0f1 b0f2 b0f3 b0lt
     obtain ⟨b1c0,b1c1,b1c2,b1c3,b1f0,b1f1,b1f2,b1f3,b1lt⟩:=(E205.out.bx (g7,c) (by simp)).1
     dsimp only at b1c0 b1c1 b1c2 b1c3 b1f0 b1f1 b1f2 b1f3 b1lt
     obtain ⟨b2c0,b2c1,b2c2,b2c3,b2f0,b2f1,b2f2,b2f3,b2lt⟩:=(E205.out.bx (w.heap.size,Pz.z0) (by simp)).1
     dsimp only [Pz.z0,len] at b2c0 b2c1 b2c2 b2c3 b2f0 b2f1 b2f2 b2f3 b2lt
     go_wp2_with fail
     clear b0c0 b0c1 b0c2 b0c3 b0f0 b0f1 b0f2 b0f3 b0lt b1c0 b1c1 b1c2 b1c3 b1f0 b1f1 b1f2 b1f3 b1lt b2c0 b2c1 b2c2 b2c3 b2f0 b2f1 b2f2 b2f3 b2lt
     refine (pair_any 17 c d w206).mono ?_
     rintro e w209 ⟨q210,rfl,hg,hb,hcl⟩
     obtain ⟨tsa,hEa,hna,hsub⟩:=E205.out.pair hb ⟨(Tc.out x rfl).1,(Ud.out _ (Tc.out x rfl).2)⟩ Td.out 17 q210 hg hcl
     have E208:=Lib.hid hEa
     have TN:=Lib.hid hna
     clear hEa hna hg hb hcl hsub E205
     obtain ⟨b0c0,b0c1,b0c2,b0c3,b0f0,b0f1,b0f2,b0f3,b0lt⟩:=(E208.out.bx (g207,d) (by simp)).1
     dsimp only at b0c0 b0c1 b0c2 b0c3 b0f0 b0f1 b0f2 b0f3 b0lt
     obtain ⟨b1c0,b1c1,b1c2,b1c3,b1f0,b1f1,b1f2,b1f3,b1lt⟩:=(E208.out.bx (g7,c) (by simp)).1
     dsimp only at b1c0 b1c1 b1c2 b1c3 b1f0 b1f1 b1f2 b1f3 b1lt
     obtain ⟨b2c0,b2c1,b2c2,b2c3,b2f0,b2f1,b2f2,b2f3,b2lt⟩:=(E208.out.bx (w.heap.size,Pz.z0) (by simp)).1
     dsimp only [Pz.z0,len] at b2c0 b2c1 b2c2 b2c3 b2f0 b2f1 b2f2 b2f3 b2lt
     cases o with
     | none =>
       go_wp2
       refine bodyPost_ret (v:=.tuple #[.agg #[.int .i64 17,.int .i64 0,.string ⟨#[]⟩,.slice (some ⟨q210,0,none⟩) 2 2],.bool false]) ?_ rfl ?_
       · rw [results_cell_tmp rfl]
         go_simp
       · rw [PV.out,Pz.goL_none]
         exact ⟨(⟨q210,0,⟨17,0,⟨#[]⟩,some ⟨q210,0,none⟩,2⟩,rowF [c,d]⟩:Ch),rfl,(E208.out.tail.tail).done4 (⟨q210,0,⟨17,0,⟨#[]⟩,some ⟨q210,0,none⟩,2⟩,rowF [c,d]⟩:Ch) none (fun x hx=>by cases hx) rfl rfl rfl rfl⟩
     | some y =>
       go_wp2
       refine bodyPost_ret (v:=.tuple #[.agg #[.int .i64 17,.int .i64 0,.string ⟨#[]⟩,.slice (some ⟨q210,0,none⟩) 2 2],.bool true]) ?_ rfl ?_
       · rw [results_cell_tmp rfl]
         go_simp
       · rw [PV.out,Pz.goL_some]
         exact ⟨(⟨q210,0,⟨17,0,⟨#[]⟩,some ⟨q210,0,none⟩,2⟩,rowF [c,d]⟩:Ch),rfl,(E208.out.tail.tail).done4 (⟨q210,0,⟨17,0,⟨#[]⟩,some ⟨q210,0,none⟩,2⟩,rowF [c,d]⟩:Ch) (some (Pz.tn 17 [x,y])) (fun z hz=>by cases hz;exact TN.out y rfl) rfl rfl rfl rfl⟩
    ·
     have hw1':Pz.isw L j Pz.wLeq=false:=by simpa using hw1
     rw [if_neg hw1] at PV
     go_wp2_with fail
     refine (accept_no sb L p cap j _ _ E1001.out.st hw1').mono ?_
     rintro e w2002 ⟨rfl,hb⟩
     have E2001:=Lib.hid (E1001.out.below hb)
     clear hb E1001
     by_cases hw2:Pz.isw L j Pz.wEq=true
     ·
      have hj:=Pz.isw_lt hw2
      rw [if_pos hw2] at PV
      go_wp2_with fail
      refine (accept_yes sb L p cap j _ _ E2001.out.st hw2).mono ?_
      rintro e w302 ⟨rfl,hs,hg⟩
      have E301:=Lib.hid (E2001.out.grown hs (pst_cl _ _ _ _ _) hg)
      clear hs hg E2001
      go_wp2_with fail
      have AD:Pz.Ok L (j+1) (Pz.pv L .sm (j+1)) 1:=Pz.pv_adv L .sm (j+1) hj
      refine (C1.out (j+1) (by omega) hj sb p cap w302 E301.out.st).mono ?_
      rintro e w304 ⟨d,rfl,hf⟩
      have ADd:Hid (Pz.Ok L (j+1) (Pz.pv L .sm (j+1)) 1):=AD
      generalize Pz.pv L .sm (j+1)=r0 at *
      obtain ⟨o,k⟩:=r0
      obtain ⟨tsE303,hE,hc,hsub⟩:=E301.out.go hf (pst_cl _ _ _ _ _) (by intro d hd;cases hd)
      have E303:=Lib.hid hE
      have Td:=Lib.hid hc
      have Ud:=Lib.hid hsub
      clear hf hE hc hsub E301
      dsimp only
      rw [Pz.bnd_goL] at PV
      go_upto_region 15 with (fail)
      have E305:=Lib.hid (E303.out.box d #[.int .i64 d.a.op,.int .i64 d.a.num,.string d.a.name,.slice d.a.ptr (len d.k) d.a.cap] rfl 24)
      generalize hg307:w304.heap.size=g307 at *
      generalize w304.alloc (.cells #[.int .i64 d.a.op,.int .i64 d.a.num,.string d.a.name,.slice d.a.ptr (len d.k) d.a.cap] 24)=w306 at *
      clear E303 hg307
      obtain ⟨b0c0,b0c1,b0c2,b0c3,b0f0,b0f1,b0f2,b0f3,b0lt⟩:=(E305.out.bx (g307,d) (by simp)).1
      dsimp only at b0c0 b0c1 b0c2 b0c3 b0f0 b0f1 b0f2 b0f3 b0lt
      obtain ⟨b1c0,b1c1,b1c2,b1c3,b1f0,b1f1,b1f2,b1f3,b1lt⟩:=(E305.out.bx (g7,c) (by simp)).1
      dsimp only at b1c0 b1c1 b1c2 b1c3 b1f0 b1f1 b1f2 b1f3 b1lt
      obtain ⟨b2c0,b2c1,b2c2,b2c3,b2f0,b2f1,b2f2,b2f3,b2lt⟩:=(E305.out.bx (w.heap.size,Pz.z0) (by simp)).1
      dsimp only [Pz.z0,len] at b2c0 b2c1 b2c2 b2c3 b2f0 b2f1 b2f2 b2f3 b2lt
      go_wp2_with fail
      clear b0c0 b0c1 b0c2 b0c3 b0f0 b0f1 b0f2 b0f3 b0lt b1c0 b1c1 b1c2 b1c3 b1f0 b1f1 b1f2 b1f3 b1lt b2c0 b2c1 b2c2 b2c3 b2f0 b2f1 b2f2 b2f3 b2lt
      refine (pair_any 18 c d w306).mono ?_
      rintro e w309 ⟨q310,rfl,hg,hb,hcl⟩
      obtain ⟨tsa,hEa,hna,hsub⟩:=E305.out.pair hb ⟨(Tc.out x rfl).1,(Ud.out _ (Tc.out x rfl).2)⟩ Td.out 18 q310 hg hcl
      have E308:=Lib.hid hEa
      have TN:=Lib.hid hna
      clear hEa hna hg hb hcl hsub E305
      obtain ⟨b0c0,b0c1,b0c2,b0c3,b0f0,b0f1,b0f2,b0f3,b0lt⟩:=(E308.out.bx (g307,d) (by simp)).1
      dsimp only at b0c0 b0c1 b0c2 b0c3 b0f0 b0f1 b0f2 b0f3 b0lt
      obtain ⟨b1c0,b1c1,b1c2,b1c3,b1f0,b1f1,b1f2,b1f3,b1lt⟩:=(E308.out.bx (g7,c) (by simp)).1
      dsimp only at b1c0 b1c1 b1c2 b1c3 b1f0 b1f1 b1f2 b1f3 b1lt
      obtain ⟨b2c0,b2c1,b2c2,b2c3,b2f0,b2f1,b2f2,b2f3,b2lt⟩:=(E308.out.bx (w.heap.size,Pz.z0) (by simp)).1
      dsimp only [Pz.z0,len] at b2c0 b2c1 b2c2 b2c3 b2f0 b2f1 b2f2 b2f3 b2lt
      cases o with
      | none =>
        go_wp2
        refine bodyPost_ret (v:=.tuple #[.agg #[.int .i64 18,.int .i64 0,.string ⟨#[]⟩,.slice (some ⟨q310,0,none⟩) 2 2],.bool false]) ?_ rfl ?_
        · rw [results_cell_tmp rfl]
          go_simp
        · rw [PV.out,Pz.goL_none]
          exact ⟨(⟨q310,0,⟨18,0,⟨#[]⟩,some ⟨q310,0,none⟩,2⟩,rowF [c,d]⟩:Ch),rfl,(E308.out.tail.tail).done4 (⟨q310,0,⟨18,0,⟨#[]⟩,some ⟨q310,0,none⟩,2⟩,rowF [c,d]⟩:Ch) none (fun x hx=>by cases hx) rfl rfl rfl rfl⟩
      | some y =>
        go_wp2
        refine bodyPost_ret (v:=.tuple #[.agg #[.int .i64 18,.int .i64 0,.string ⟨#[]⟩,.slice (some ⟨q310,0,none⟩) 2 2],.bool true]) ?_ rfl ?_
        · rw [results_cell_tmp rfl]
          go_simp
        · rw [PV.out,Pz.goL_some]
          exact ⟨(⟨q310,0,⟨18,0,⟨#[]⟩,some ⟨q310,0,none⟩,2⟩,rowF [c,d]⟩:Ch),rfl,(E308.out.tail.tail).done4 (⟨q310,0,⟨18,0,⟨#[]⟩,some ⟨q310,0,none⟩,2⟩,rowF [c,d]⟩:Ch) (some (Pz.tn 18 [x,y])) (fun z hz=>by cases hz;exact TN.out y rfl) rfl rfl rfl rfl⟩
     ·
      have hw2':Pz.isw L j Pz.wEq=false:=by simpa using hw2
      rw [if_neg hw2] at PV
      go_wp2_with fail
      refine (accept_no sb L p cap j _ _ E2001.out.st hw2').mono ?_
      rintro e w3002 ⟨rfl,hb⟩
      have E3001:=Lib.hid (E2001.out.below hb)
      clear hb E2001
      by_cases hw3:Pz.isw L j Pz.wIn=true
      ·
       have hj:=Pz.isw_lt hw3
       rw [if_pos hw3] at PV
       go_wp2_with fail
       refine (accept_yes sb L p cap j _ _ E3001.out.st hw3).mono ?_
       rintro e w402 ⟨rfl,hs,hg⟩
       have E401:=Lib.hid (E3001.out.grown hs (pst_cl _ _ _ _ _) hg)
       clear hs hg E3001
       obtain ⟨b0c0,b0c1,b0c2,b0c3,b0f0,b0f1,b0f2,b0f3,b0lt⟩:=(E401.out.bx (g7,c) (by simp)).1
       dsimp only at b0c0 b0c1 b0c2 b0c3 b0f0 b0f1 b0f2 b0f3 b0lt
       obtain ⟨b1c0,b1c1,b1c2,b1c3,b1f0,b1f1,b1f2,b1f3,b1lt⟩:=(E401.out.bx (w.heap.size,Pz.z0) (by simp)).1
       dsimp only [Pz.z0,len] at b1c0 b1c1 b1c2 b1c3 b1f0 b1f1 b1f2 b1f3 b1lt
       go_wp2_with fail
       have AD:Pz.Ok L (j+1) (Pz.pv L (.bd x) (j+1)) 1:=Pz.pv_adv L (.bd x) (j+1) hj
       have TRc:=E401.out.tr c (Tc.out x rfl).2
       clear b0c0 b0c1 b0c2 b0c3 b0f0 b0f1 b0f2 b0f3 b0lt b1c0 b1c1 b1c2 b1c3 b1f0 b1f1 b1f2 b1f3 b1lt
       refine (C2.out (j+1) (by omega) hj sb p cap w402 c x E401.out.st (Tc.out x rfl).1 TRc.1 TRc.2.1).mono ?_
       rintro e w404 ⟨d,rfl,hf⟩
       have ADd:Hid (Pz.Ok L (j+1) (Pz.pv L (.bd x) (j+1)) 1):=AD
       generalize Pz.pv L (.bd x) (j+1)=r0 at *
       obtain ⟨o,k⟩:=r0
       obtain ⟨tsE403,hE,hc,hsub⟩:=E401.out.go hf (pst_cl _ _ _ _ _) (by intro q hq;simp only [List.mem_cons,List.not_mem_nil,or_false] at hq;subst hq;exact (Tc.out x rfl).2)
       have E403:=Lib.hid hE
       have Td:=Lib.hid hc
       have Ud:=Lib.hid hsub
       clear hf hE hc hsub E401
       dsimp only
       obtain ⟨b0c0,b0c1,b0c2,b0c3,b0f0,b0f1,b0f2,b0f3,b0lt⟩:=(E403.out.bx (g7,c) (by simp)).1
       dsimp only at b0c0 b0c1 b0c2 b0c3 b0f0 b0f1 b0f2 b0f3 b0lt
       obtain ⟨b1c0,b1c1,b1c2,b1c3,b1f0,b1f1,b1f2,b1f3,b1lt⟩:=(E403.out.bx (w.heap.size,Pz.z0) (by simp)).1
       dsimp only [Pz.z0,len] at b1c0 b1c1 b1c2 b1c3 b1f0 b1f1 b1f2 b1f3 b1lt
       go_wp2
       refine bodyPost_ret (v:=.tuple #[.agg #[.int .i64 d.a.op,.int .i64 d.a.num,.string d.a.name,.slice d.a.ptr (len d.k) d.a.cap],.bool o.isSome]) ?_ rfl ?_
       · rw [results_cell_tmp rfl]
         go_simp
       · rw [PV.out]
         exact ⟨d,rfl,(E403.out.tail).done4 d o Td.out rfl rfl rfl rfl⟩
      ·
       have hw3':Pz.isw L j Pz.wIn=false:=by simpa using hw3
       rw [if_neg hw3] at PV
       go_wp2_with fail
       refine (accept_no sb L p cap j _ _ E3001.out.st hw3').mono ?_
       rintro e w4002 ⟨rfl,hb⟩
       have E4001:=Lib.hid (E3001.out.below hb)
       clear hb E3001
       obtain ⟨b0c0,b0c1,b0c2,b0c3,b0f0,b0f1,b0f2,b0f3,b0lt⟩:=(E4001.out.bx (g7,c) (by simp)).1
       dsimp only at b0c0 b0c1 b0c2 b0c3 b0f0 b0f1 b0f2 b0f3 b0lt
       obtain ⟨b1c0,b1c1,b1c2,b1c3,b1f0,b1f1,b1f2,b1f3,b1lt⟩:=(E4001.out.bx (w.heap.size,Pz.z0) (by simp)).1
       dsimp only [Pz.z0,len] at b1c0 b1c1 b1c2 b1c3 b1f0 b1f1 b1f2 b1f3 b1lt
       go_wp2
       refine bodyPost_ret (v:=.tuple #[.agg #[.int .i64 c.a.op,.int .i64 c.a.num,.string c.a.name,.slice c.a.ptr (len c.k) c.a.cap],.bool true]) ?_ rfl ?_
       · rw [results_cell_tmp rfl]
         go_simp
       · rw [PV.out]
         exact ⟨c,rfl,(E4001.out.tail).done4 c (some x) Tc.out rfl rfl rfl rfl⟩
end Go.Proofs.YtcejjdmnlejbaaaGreatDoor
