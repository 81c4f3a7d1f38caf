import Derived.Test.YtcejjdmnlejbaaaGreatDoorBPzS
import Derived.Deep.LoopGhost
namespace Go.Proofs.YtcejjdmnlejbaaaGreatDoor
set_option linter.unusedVariables false
set_option linter.unusedSimpArgs false
open Go.ChangeShapes Go.WideShapes Go.ChangeAt Go.RowKit
open Go.Deep (BT)
def PFin (w:World) (sb:Nat) (gv:List Ch) (L:List Tk.T4) (p:Option Addr) (cap:Nat) (r:Pz.R) (e:Ending) (w':World):Prop :=
 ∃ c:Ch,e=.returned (.tuple #[.agg #[.int .i64 c.a.op,.int .i64 c.a.num,.string c.a.name,.slice c.a.ptr (len c.k) c.a.cap],.bool r.1.isSome])∧Pz.Fin w sb gv (fun W=>PSt W sb L p cap r.2) r.1 c w'
def PC (f:FuncId) (L:List Tk.T4) (nt:Pz.NT) (i:Nat):Prop:=∀ (sb:Nat) (p:Option Addr) (cap:Nat) (w:World),PSt w sb L p cap i →
 Calls Tryz.prog f #[.pointer (some ⟨sb,0,none⟩)] w (PFin w sb [] L p cap (Pz.pv L nt i))
set_option maxHeartbeats 600000 in
set_option maxRecDepth 100000 in
theorem dj_of (L:List Tk.T4) (i:Nat) (h0:PC 126 L .cj i) (h1:∀ j,i < j→j≤L.length→PC 126 L .cj j):PC 80 L .dj i:=by
 intro sb p cap w h
 have C0:=Lib.hid h0
 have C1:=Lib.hid h1
 clear h0 h1
 have H:=Lib.hid h
 have hle:=h.le
 have hL4:=h.ls.1
 have E0:Hid (Pz.Env w w sb (fun W=>PSt W sb L p cap i) [] [] []):=Pz.Env.init h (pst_cl _ _ _ _ _) h.lt (by intro c hc;cases hc)
 have PV:Hid (Pz.pv L .dj i=Pz.step L (Pz.pv L) .dj i):=Pz.pv_step L .dj i hle
 unfold Pz.step at PV
 dsimp only at PV
 clear h
 go_enter Tryz.func80,Tryz.ntmps80
 go_wp2_with fail
 have E1:=Lib.hid (E0.out.box Pz.z0 #[.int .i64 0,.int .i64 0,.string ⟨#[]⟩,.slice none 0 0] rfl 24)
 generalize w.alloc (.cells #[.int .i64 0,.int .i64 0,.string ⟨#[]⟩,.slice none 0 0] 24)=w1 at *
 refine (C0.out sb p cap w1 E1.out.st).mono ?_
 rintro e w2 ⟨c,rfl,hf⟩
 have AD:Hid (Pz.Ok L i (Pz.pv L .cj i) 1):=Pz.pv_adv L .cj i hle
 generalize Pz.pv L .cj i=r0 at *
 obtain ⟨o,j⟩:=r0
 obtain ⟨ts2,hE2,hc2,-⟩:=E1.out.go hf (pst_cl _ _ _ _ _) (by intro d hd;cases hd)
 have E2:=Lib.hid hE2
 have T2:=Lib.hid hc2
 rw [Pz.bnd_goL] at PV
 have PV2:=Lib.hid PV.out
 clear hf hE2 hc2 E1 E0 C0 PV
 dsimp only
 go_wp2_with fail
 have E3:=Lib.hid (E2.out.box c #[.int .i64 c.a.op,.int .i64 c.a.num,.string c.a.name,.slice c.a.ptr (len c.k) c.a.cap] rfl 24)
 generalize hxb:w2.heap.size=xb at *
 generalize w2.alloc (.cells #[.int .i64 c.a.op,.int .i64 c.a.num,.string c.a.name,.slice c.a.ptr (len c.k) c.a.cap] 24)=w3 at *
 clear E2 hxb
 have AD2:Hid (i≤j∧j≤L.length):=⟨AD.out.1,AD.out.2.1⟩
 clear AD
 go_loopg [5] (L.length - j) (fun g ok wr=>∃ (o:Option Ch) (j:Nat) (c:Ch) (ts:List Ch),ok=.bool o.isSome∧Hid (g=L.length - j∧i≤j∧j≤L.length∧Pz.Env w wr sb (fun W=>PSt W sb L p cap j) [] [(xb,c),(w.heap.size,Pz.z0)] ts∧(∀ x,o=some x→Pz.nr c=x∧c ∈ ts)∧Pz.pv L .dj i=Pz.goL (fun x=>Pz.pv L (.djL x) j) o j))
 case atStart=>exact ⟨o,j,c,ts2,rfl,rfl,AD2.out.1,AD2.out.2,E3.out,T2.out,PV2.out⟩
 case round =>
  clear E3 T2 PV2 AD2
  obtain ⟨o,j,c,ts,rfl,HR⟩:=hrel
  have E4:=Lib.hid HR.out.2.2.2.1
  obtain ⟨xc0,xc1,xc2,xc3,xf0,xf1,xf2,xf3,xlt⟩:=(E4.out.bx (xb,c) (by simp)).1
  obtain ⟨rc0,rc1,rc2,rc3,rf0,rf1,rf2,rf3,rlt⟩:=(E4.out.bx (w.heap.size,Pz.z0) (by simp)).1
  dsimp only at xc0 xc1 xc2 xc3 xf0 xf1 xf2 xf3 xlt rc0 rc1 rc2 rc3 rf0 rf1 rf2 rf3 rlt
  have XR:xb≠w.heap.size:=by have:=(List.pairwise_cons.1 E4.out.nd).1 (w.heap.size,Pz.z0) (by simp);exact this
  cases o with
  | none =>
    have hr:Pz.pv L .dj i=(none,j):=HR.out.2.2.2.2.2
    have HQ:=Lib.hid hr
    clear hr
    go_wp2
    refine bodyPost_ret (v:=.tuple #[.agg #[.int .i64 c.a.op,.int .i64 c.a.num,.string c.a.name,.slice c.a.ptr (len c.k) c.a.cap],.bool false]) ?_ rfl ?_
    · rw [results_cell_tmp rfl]
      go_simp
    · rw [HQ.out]
      exact ⟨c,rfl,Pz.Env.done (E4.out.tail) c none (fun x hx=>by cases hx)⟩
  | some x =>
    obtain ⟨hx1,hx2⟩:=HR.out.2.2.2.2.1 x rfl
    have T4:=Lib.hid (And.intro hx1 hx2)
    have hr:Pz.pv L .dj i=Pz.pv L (.djL x) j:=HR.out.2.2.2.2.2
    rw [Pz.pv_step L (.djL x) j HR.out.2.2.1] at hr
    unfold Pz.step at hr
    dsimp only at hr
    have PV5:=Lib.hid hr
    clear hr hx1 hx2
    by_cases hw0:Pz.isw L j Pz.wOr=true
    · have PV6:=Lib.hid PV5.out
      rw [if_pos hw0] at PV6
      go_wp2_with fail
      refine (accept_yes sb L p cap j _ _ E4.out.st hw0).mono ?_
      rintro e w6 ⟨rfl,hs,hg⟩
      have E6:=Lib.hid (E4.out.grown hs (pst_cl _ _ _ _ _) hg)
      have hj:=Pz.isw_lt hw0
      have B6:=Lib.hid hw0
      clear hs hg hw0 E4 xc0 xc1 xc2 xc3 xf0 xf1 xf2 xf3 xlt rc0 rc1 rc2 rc3 rf0 rf1 rf2 rf3 rlt
      go_wp2_with fail
      have E7:=Lib.hid (E6.out.box Pz.z0 #[.int .i64 0,.int .i64 0,.string ⟨#[]⟩,.slice none 0 0] rfl 24)
      generalize hyb:w6.heap.size=yb at *
      generalize w6.alloc (.cells #[.int .i64 0,.int .i64 0,.string ⟨#[]⟩,.slice none 0 0] 24)=w7 at *
      clear E6 hyb
      refine (C1.out (j+1) (by have:=HR.out.2.1;omega) (by omega) sb p cap w7 E7.out.st).mono ?_
      rintro e w8 ⟨d,rfl,hf⟩
      have AD:Hid (Pz.Ok L (j+1) (Pz.pv L .cj (j+1)) 1):=Pz.pv_adv L .cj (j+1) (by omega)
      generalize Pz.pv L .cj (j+1)=r0 at *
      obtain ⟨o,k⟩:=r0
      obtain ⟨ts8,hE8,hd8,hsub⟩:=E7.out.go hf (pst_cl _ _ _ _ _) (by intro d hd;cases hd)
      have E8:=Lib.hid hE8
      have T8:=Lib.hid hd8
      have TX:=Lib.hid (hsub c T4.out.2)
      rw [Pz.bnd_goL] at PV6
      have PV7:=Lib.hid PV6.out
      clear hf hE8 hd8 hsub E7 PV6 PV5
      dsimp only
      obtain ⟨yc0,yc1,yc2,yc3,yf0,yf1,yf2,yf3,ylt⟩:=(E8.out.bx (yb,Pz.z0) (by simp)).1
      obtain ⟨xc0,xc1,xc2,xc3,xf0,xf1,xf2,xf3,xlt⟩:=(E8.out.bx (xb,c) (by simp)).1
      dsimp only at xc0 xc1 xc2 xc3 xf0 xf1 xf2 xf3 xlt yc0 yc1 yc2 yc3 yf0 yf1 yf2 yf3 ylt
      have YX:yb≠xb:=(List.pairwise_cons.1 E8.out.nd).1 (xb,c) (by simp)
      go_wp2_with fail
      have E9:=Lib.hid (E8.out.put d)
      generalize ((((w8.setCell ⟨yb,0,none⟩ (.int .i64 d.a.op)).setCell ⟨yb,1,none⟩ (.int .i64 d.a.num)).setCell ⟨yb,2,none⟩ (.string d.a.name)).setCell ⟨yb,3,none⟩ (.slice d.a.ptr (len d.k) d.a.cap))=w9 at *
      refine (pair_any 21 c d w9).mono ?_
      rintro e wa ⟨g,rfl,hg,hb,hcl⟩
      obtain ⟨tsa,hEa,hna,-⟩:=E9.out.pair hb ⟨T4.out.1,TX.out⟩ T8.out 21 g hg hcl
      have Ea:=Lib.hid (hEa.tail)
      have Ta:=Lib.hid hna
      clear E8 E9 hg hb hcl hEa hna xc0 xc1 xc2 xc3 xf0 xf1 xf2 xf3 xlt yc0 yc1 yc2 yc3 yf0 yf1 yf2 yf3 ylt
      obtain ⟨xc0,xc1,xc2,xc3,xf0,xf1,xf2,xf3,xlt⟩:=(Ea.out.bx (xb,c) (by simp)).1
      dsimp only at xc0 xc1 xc2 xc3 xf0 xf1 xf2 xf3 xlt
      go_wp2
      have a1:=AD.out.1
      have a2:=AD.out.2.1
      dsimp only at a1 a2
      cases o with
      | none =>
        go_roundg (L.length - k)
        case rel=>exact ⟨none,k,(⟨g,0,⟨21,0,⟨#[]⟩,some ⟨g,0,none⟩,2⟩,rowF [c,d]⟩:Ch),tsa,rfl,rfl,by have:=HR.out.2.1;omega,a2,Ea.out.put4 (⟨g,0,⟨21,0,⟨#[]⟩,some ⟨g,0,none⟩,2⟩,rowF [c,d]⟩:Ch) rfl rfl rfl rfl,(fun y hy=>by cases hy),by rw [PV7.out,Pz.goL_none,Pz.goL_none]⟩
        case measure=>have:=HR.out.1;omega
      | some y =>
        go_roundg (L.length - k)
        case rel=>exact ⟨some (Pz.tn 21 [x,y]),k,(⟨g,0,⟨21,0,⟨#[]⟩,some ⟨g,0,none⟩,2⟩,rowF [c,d]⟩:Ch),tsa,rfl,rfl,by have:=HR.out.2.1;omega,a2,Ea.out.put4 (⟨g,0,⟨21,0,⟨#[]⟩,some ⟨g,0,none⟩,2⟩,rowF [c,d]⟩:Ch) rfl rfl rfl rfl,(fun z hz=>by cases hz;exact Ta.out y rfl),by rw [PV7.out,Pz.goL_some,Pz.goL_some]⟩
        case measure=>have:=HR.out.1;omega
    · have N0:=Lib.hid hw0
      have hw0':Pz.isw L j Pz.wOr=false:=by simpa using hw0
      go_wp2_with fail
      refine (accept_no sb L p cap j _ _ E4.out.st hw0').mono ?_
      rintro e w50 ⟨rfl,hb⟩
      have E50:=Lib.hid (E4.out.below hb)
      clear hb hw0 hw0' xc0 xc1 xc2 xc3 xf0 xf1 xf2 xf3 xlt rc0 rc1 rc2 rc3 rf0 rf1 rf2 rf3 rlt
      obtain ⟨xc0,xc1,xc2,xc3,xf0,xf1,xf2,xf3,xlt⟩:=(E50.out.bx (xb,c) (by simp)).1
      obtain ⟨rc0,rc1,rc2,rc3,rf0,rf1,rf2,rf3,rlt⟩:=(E50.out.bx (w.heap.size,Pz.z0) (by simp)).1
      dsimp only at xc0 xc1 xc2 xc3 xf0 xf1 xf2 xf3 xlt rc0 rc1 rc2 rc3 rf0 rf1 rf2 rf3 rlt
      have HQ:=Lib.hid PV5.out
      rw [if_neg N0.out] at HQ
      have E6:=E50
      go_wp2
      refine bodyPost_ret (v:=.tuple #[.agg #[.int .i64 c.a.op,.int .i64 c.a.num,.string c.a.name,.slice c.a.ptr (len c.k) c.a.cap],.bool true]) ?_ rfl ?_
      · rw [results_cell_tmp rfl]
        go_simp
      · rw [HQ.out]
        exact ⟨c,rfl,Pz.Env.done E6.out.tail c (some x) (fun y hy=>by cases hy;exact T4.out)⟩
set_option maxHeartbeats 600000 in
set_option maxRecDepth 100000 in
theorem cj_of (L:List Tk.T4) (i:Nat) (h0:PC 154 L .ng i) (h1:∀ j,i < j→j≤L.length→PC 154 L .ng j):PC 126 L .cj i:=by
 intro sb p cap w h
 have C0:=Lib.hid h0
 have C1:=Lib.hid h1
 clear h0 h1
 have H:=Lib.hid h
 have hle:=h.le
 have hL4:=h.ls.1
 have E0:Hid (Pz.Env w w sb (fun W=>PSt W sb L p cap i) [] [] []):=Pz.Env.init h (pst_cl _ _ _ _ _) h.lt (by intro c hc;cases hc)
 have PV:Hid (Pz.pv L .cj i=Pz.step L (Pz.pv L) .cj i):=Pz.pv_step L .cj i hle
 unfold Pz.step at PV
 dsimp only at PV
 clear h
 go_enter Tryz.func126,Tryz.ntmps126
 go_wp2_with fail
 have E1:=Lib.hid (E0.out.box Pz.z0 #[.int .i64 0,.int .i64 0,.string ⟨#[]⟩,.slice none 0 0] rfl 24)
 generalize w.alloc (.cells #[.int .i64 0,.int .i64 0,.string ⟨#[]⟩,.slice none 0 0] 24)=w1 at *
 refine (C0.out sb p cap w1 E1.out.st).mono ?_
 rintro e w2 ⟨c,rfl,hf⟩
 have AD:Hid (Pz.Ok L i (Pz.pv L .ng i) 1):=Pz.pv_adv L .ng i hle
 generalize Pz.pv L .ng i=r0 at *
 obtain ⟨o,j⟩:=r0
 obtain ⟨ts2,hE2,hc2,-⟩:=E1.out.go hf (pst_cl _ _ _ _ _) (by intro d hd;cases hd)
 have E2:=Lib.hid hE2
 have T2:=Lib.hid hc2
 rw [Pz.bnd_goL] at PV
 have PV2:=Lib.hid PV.out
 clear hf hE2 hc2 E1 E0 C0 PV
 dsimp only
 go_wp2_with fail
 have E3:=Lib.hid (E2.out.box c #[.int .i64 c.a.op,.int .i64 c.a.num,.string c.a.name,.slice c.a.ptr (len c.k) c.a.cap] rfl 24)
 generalize hxb:w2.heap.size=xb at *
 generalize w2.alloc (.cells #[.int .i64 c.a.op,.int .i64 c.a.num,.string c.a.name,.slice c.a.ptr (len c.k) c.a.cap] 24)=w3 at *
 clear E2 hxb
 have AD2:Hid (i≤j∧j≤L.length):=⟨AD.out.1,AD.out.2.1⟩
 clear AD
 go_loopg [5] (L.length - j) (fun g ok wr=>∃ (o:Option Ch) (j:Nat) (c:Ch) (ts:List Ch),ok=.bool o.isSome∧Hid (g=L.length - j∧i≤j∧j≤L.length∧Pz.Env w wr sb (fun W=>PSt W sb L p cap j) [] [(xb,c),(w.heap.size,Pz.z0)] ts∧(∀ x,o=some x→Pz.nr c=x∧c ∈ ts)∧Pz.pv L .cj i=Pz.goL (fun x=>Pz.pv L (.cjL x) j) o j))
 case atStart=>exact ⟨o,j,c,ts2,rfl,rfl,AD2.out.1,AD2.out.2,E3.out,T2.out,PV2.out⟩
 case round =>
  clear E3 T2 PV2 AD2
  obtain ⟨o,j,c,ts,rfl,HR⟩:=hrel
  have E4:=Lib.hid HR.out.2.2.2.1
  obtain ⟨xc0,xc1,xc2,xc3,xf0,xf1,xf2,xf3,xlt⟩:=(E4.out.bx (xb,c) (by simp)).1
  obtain ⟨rc0,rc1,rc2,rc3,rf0,rf1,rf2,rf3,rlt⟩:=(E4.out.bx (w.heap.size,Pz.z0) (by simp)).1
  dsimp only at xc0 xc1 xc2 xc3 xf0 xf1 xf2 xf3 xlt rc0 rc1 rc2 rc3 rf0 rf1 rf2 rf3 rlt
  have XR:xb≠w.heap.size:=by have:=(List.pairwise_cons.1 E4.out.nd).1 (w.heap.size,Pz.z0) (by simp);exact this
  cases o with
  | none =>
    have hr:Pz.pv L .cj i=(none,j):=HR.out.2.2.2.2.2
    have HQ:=Lib.hid hr
    clear hr
    go_wp2
    refine bodyPost_ret (v:=.tuple #[.agg #[.int .i64 c.a.op,.int .i64 c.a.num,.string c.a.name,.slice c.a.ptr (len c.k) c.a.cap],.bool false]) ?_ rfl ?_
    · rw [results_cell_tmp rfl]
      go_simp
    · rw [HQ.out]
      exact ⟨c,rfl,Pz.Env.done (E4.out.tail) c none (fun x hx=>by cases hx)⟩
  | some x =>
    obtain ⟨hx1,hx2⟩:=HR.out.2.2.2.2.1 x rfl
    have T4:=Lib.hid (And.intro hx1 hx2)
    have hr:Pz.pv L .cj i=Pz.pv L (.cjL x) j:=HR.out.2.2.2.2.2
    rw [Pz.pv_step L (.cjL x) j HR.out.2.2.1] at hr
    unfold Pz.step at hr
    dsimp only at hr
    have PV5:=Lib.hid hr
    clear hr hx1 hx2
    by_cases hw0:Pz.isw L j Pz.wAnd=true
    · have PV6:=Lib.hid PV5.out
      rw [if_pos hw0] at PV6
      go_wp2_with fail
      refine (accept_yes sb L p cap j _ _ E4.out.st hw0).mono ?_
      rintro e w6 ⟨rfl,hs,hg⟩
      have E6:=Lib.hid (E4.out.grown hs (pst_cl _ _ _ _ _) hg)
      have hj:=Pz.isw_lt hw0
      have B6:=Lib.hid hw0
      clear hs hg hw0 E4 xc0 xc1 xc2 xc3 xf0 xf1 xf2 xf3 xlt rc0 rc1 rc2 rc3 rf0 rf1 rf2 rf3 rlt
      go_wp2_with fail
      have E7:=Lib.hid (E6.out.box Pz.z0 #[.int .i64 0,.int .i64 0,.string ⟨#[]⟩,.slice none 0 0] rfl 24)
      generalize hyb:w6.heap.size=yb at *
      generalize w6.alloc (.cells #[.int .i64 0,.int .i64 0,.string ⟨#[]⟩,.slice none 0 0] 24)=w7 at *
      clear E6 hyb
      refine (C1.out (j+1) (by have:=HR.out.2.1;omega) (by omega) sb p cap w7 E7.out.st).mono ?_
      rintro e w8 ⟨d,rfl,hf⟩
      have AD:Hid (Pz.Ok L (j+1) (Pz.pv L .ng (j+1)) 1):=Pz.pv_adv L .ng (j+1) (by omega)
      generalize Pz.pv L .ng (j+1)=r0 at *
      obtain ⟨o,k⟩:=r0
      obtain ⟨ts8,hE8,hd8,hsub⟩:=E7.out.go hf (pst_cl _ _ _ _ _) (by intro d hd;cases hd)
      have E8:=Lib.hid hE8
      have T8:=Lib.hid hd8
      have TX:=Lib.hid (hsub c T4.out.2)
      rw [Pz.bnd_goL] at PV6
      have PV7:=Lib.hid PV6.out
      clear hf hE8 hd8 hsub E7 PV6 PV5
      dsimp only
      obtain ⟨yc0,yc1,yc2,yc3,yf0,yf1,yf2,yf3,ylt⟩:=(E8.out.bx (yb,Pz.z0) (by simp)).1
      obtain ⟨xc0,xc1,xc2,xc3,xf0,xf1,xf2,xf3,xlt⟩:=(E8.out.bx (xb,c) (by simp)).1
      dsimp only at xc0 xc1 xc2 xc3 xf0 xf1 xf2 xf3 xlt yc0 yc1 yc2 yc3 yf0 yf1 yf2 yf3 ylt
      have YX:yb≠xb:=(List.pairwise_cons.1 E8.out.nd).1 (xb,c) (by simp)
      go_wp2_with fail
      have E9:=Lib.hid (E8.out.put d)
      generalize ((((w8.setCell ⟨yb,0,none⟩ (.int .i64 d.a.op)).setCell ⟨yb,1,none⟩ (.int .i64 d.a.num)).setCell ⟨yb,2,none⟩ (.string d.a.name)).setCell ⟨yb,3,none⟩ (.slice d.a.ptr (len d.k) d.a.cap))=w9 at *
      refine (pair_any 20 c d w9).mono ?_
      rintro e wa ⟨g,rfl,hg,hb,hcl⟩
      obtain ⟨tsa,hEa,hna,-⟩:=E9.out.pair hb ⟨T4.out.1,TX.out⟩ T8.out 20 g hg hcl
      have Ea:=Lib.hid (hEa.tail)
      have Ta:=Lib.hid hna
      clear E8 E9 hg hb hcl hEa hna xc0 xc1 xc2 xc3 xf0 xf1 xf2 xf3 xlt yc0 yc1 yc2 yc3 yf0 yf1 yf2 yf3 ylt
      obtain ⟨xc0,xc1,xc2,xc3,xf0,xf1,xf2,xf3,xlt⟩:=(Ea.out.bx (xb,c) (by simp)).1
      dsimp only at xc0 xc1 xc2 xc3 xf0 xf1 xf2 xf3 xlt
      go_wp2
      have a1:=AD.out.1
      have a2:=AD.out.2.1
      dsimp only at a1 a2
      cases o with
      | none =>
        go_roundg (L.length - k)
        case rel=>exact ⟨none,k,(⟨g,0,⟨20,0,⟨#[]⟩,some ⟨g,0,none⟩,2⟩,rowF [c,d]⟩:Ch),tsa,rfl,rfl,by have:=HR.out.2.1;omega,a2,Ea.out.put4 (⟨g,0,⟨20,0,⟨#[]⟩,some ⟨g,0,none⟩,2⟩,rowF [c,d]⟩:Ch) rfl rfl rfl rfl,(fun y hy=>by cases hy),by rw [PV7.out,Pz.goL_none,Pz.goL_none]⟩
        case measure=>have:=HR.out.1;omega
      | some y =>
        go_roundg (L.length - k)
        case rel=>exact ⟨some (Pz.tn 20 [x,y]),k,(⟨g,0,⟨20,0,⟨#[]⟩,some ⟨g,0,none⟩,2⟩,rowF [c,d]⟩:Ch),tsa,rfl,rfl,by have:=HR.out.2.1;omega,a2,Ea.out.put4 (⟨g,0,⟨20,0,⟨#[]⟩,some ⟨g,0,none⟩,2⟩,rowF [c,d]⟩:Ch) rfl rfl rfl rfl,(fun z hz=>by cases hz;exact Ta.out y rfl),by rw [PV7.out,Pz.goL_some,Pz.goL_some]⟩
        case measure=>have:=HR.out.1;omega
    · have N0:=Lib.hid hw0
      have hw0':Pz.isw L j Pz.wAnd=false:=by simpa using hw0
      go_wp2_with fail
      refine (accept_no sb L p cap j _ _ E4.out.st hw0').mono ?_
      rintro e w50 ⟨rfl,hb⟩
      have E50:=Lib.hid (E4.out.below hb)
      clear hb hw0 hw0' xc0 xc1 xc2 xc3 xf0 xf1 xf2 xf3 xlt rc0 rc1 rc2 rc3 rf0 rf1 rf2 rf3 rlt
      obtain ⟨xc0,xc1,xc2,xc3,xf0,xf1,xf2,xf3,xlt⟩:=(E50.out.bx (xb,c) (by simp)).1
      obtain ⟨rc0,rc1,rc2,rc3,rf0,rf1,rf2,rf3,rlt⟩:=(E50.out.bx (w.heap.size,Pz.z0) (by simp)).1
      dsimp only at xc0 xc1 xc2 xc3 xf0 xf1 xf2 xf3 xlt rc0 rc1 rc2 rc3 rf0 rf1 rf2 rf3 rlt
      have HQ:=Lib.hid PV5.out
      rw [if_neg N0.out] at HQ
      have E6:=E50
      go_wp2
      refine bodyPost_ret (v:=.tuple #[.agg #[.int .i64 c.a.op,.int .i64 c.a.num,.string c.a.name,.slice c.a.ptr (len c.k) c.a.cap],.bool true]) ?_ rfl ?_
      · rw [results_cell_tmp rfl]
        go_simp
      · rw [HQ.out]
        exact ⟨c,rfl,Pz.Env.done E6.out.tail c (some x) (fun y hy=>by cases hy;exact T4.out)⟩
set_option maxHeartbeats 600000 in
set_option maxRecDepth 100000 in
theorem sm_of (L:List Tk.T4) (i:Nat) (h0:PC 200 L .tm i) (h1:∀ j,i < j→j≤L.length→PC 200 L .tm j):PC 190 L .sm i:=by
 intro sb p cap w h
 have C0:=Lib.hid h0
 have C1:=Lib.hid h1
 clear h0 h1
 have H:=Lib.hid h
 have hle:=h.le
 have hL4:=h.ls.1
 have E0:Hid (Pz.Env w w sb (fun W=>PSt W sb L p cap i) [] [] []):=Pz.Env.init h (pst_cl _ _ _ _ _) h.lt (by intro c hc;cases hc)
 have PV:Hid (Pz.pv L .sm i=Pz.step L (Pz.pv L) .sm i):=Pz.pv_step L .sm i hle
 unfold Pz.step at PV
 dsimp only at PV
 clear h
 go_enter Tryz.func190,Tryz.ntmps190
 go_wp2_with fail
 have E1:=Lib.hid (E0.out.box Pz.z0 #[.int .i64 0,.int .i64 0,.string ⟨#[]⟩,.slice none 0 0] rfl 24)
 generalize w.alloc (.cells #[.int .i64 0,.int .i64 0,.string ⟨#[]⟩,.slice none 0 0] 24)=w1 at *
 refine (C0.out sb p cap w1 E1.out.st).mono ?_
 rintro e w2 ⟨c,rfl,hf⟩
 have AD:Hid (Pz.Ok L i (Pz.pv L .tm i) 1):=Pz.pv_adv L .tm i hle
 generalize Pz.pv L .tm i=r0 at *
 obtain ⟨o,j⟩:=r0
 obtain ⟨ts2,hE2,hc2,-⟩:=E1.out.go hf (pst_cl _ _ _ _ _) (by intro d hd;cases hd)
 have E2:=Lib.hid hE2
 have T2:=Lib.hid hc2
 rw [Pz.bnd_goL] at PV
 have PV2:=Lib.hid PV.out
 clear hf hE2 hc2 E1 E0 C0 PV
 dsimp only
 go_wp2_with fail
 have E3:=Lib.hid (E2.out.box c #[.int .i64 c.a.op,.int .i64 c.a.num,.string c.a.name,.slice c.a.ptr (len c.k) c.a.cap] rfl 24)
 generalize hxb:w2.heap.size=xb at *
 generalize w2.alloc (.cells #[.int .i64 c.a.op,.int .i64 c.a.num,.string c.a.name,.slice c.a.ptr (len c.k) c.a.cap] 24)=w3 at *
 clear E2 hxb
 have AD2:Hid (i≤j∧j≤L.length):=⟨AD.out.1,AD.out.2.1⟩
 clear AD
 go_loopg [5] (L.length - j) (fun g ok wr=>∃ (o:Option Ch) (j:Nat) (c:Ch) (ts:List Ch),ok=.bool o.isSome∧Hid (g=L.length - j∧i≤j∧j≤L.length∧Pz.Env w wr sb (fun W=>PSt W sb L p cap j) [] [(xb,c),(w.heap.size,Pz.z0)] ts∧(∀ x,o=some x→Pz.nr c=x∧c ∈ ts)∧Pz.pv L .sm i=Pz.goL (fun x=>Pz.pv L (.smL x) j) o j))
 case atStart=>exact ⟨o,j,c,ts2,rfl,rfl,AD2.out.1,AD2.out.2,E3.out,T2.out,PV2.out⟩
 case round =>
  clear E3 T2 PV2 AD2
  obtain ⟨o,j,c,ts,rfl,HR⟩:=hrel
  have E4:=Lib.hid HR.out.2.2.2.1
  obtain ⟨xc0,xc1,xc2,xc3,xf0,xf1,xf2,xf3,xlt⟩:=(E4.out.bx (xb,c) (by simp)).1
  obtain ⟨rc0,rc1,rc2,rc3,rf0,rf1,rf2,rf3,rlt⟩:=(E4.out.bx (w.heap.size,Pz.z0) (by simp)).1
  dsimp only at xc0 xc1 xc2 xc3 xf0 xf1 xf2 xf3 xlt rc0 rc1 rc2 rc3 rf0 rf1 rf2 rf3 rlt
  have XR:xb≠w.heap.size:=by have:=(List.pairwise_cons.1 E4.out.nd).1 (w.heap.size,Pz.z0) (by simp);exact this
  cases o with
  | none =>
    have hr:Pz.pv L .sm i=(none,j):=HR.out.2.2.2.2.2
    have HQ:=Lib.hid hr
    clear hr
    go_wp2
    refine bodyPost_ret (v:=.tuple #[.agg #[.int .i64 c.a.op,.int .i64 c.a.num,.string c.a.name,.slice c.a.ptr (len c.k) c.a.cap],.bool false]) ?_ rfl ?_
    · rw [results_cell_tmp rfl]
      go_simp
    · rw [HQ.out]
      exact ⟨c,rfl,Pz.Env.done (E4.out.tail) c none (fun x hx=>by cases hx)⟩
  | some x =>
    obtain ⟨hx1,hx2⟩:=HR.out.2.2.2.2.1 x rfl
    have T4:=Lib.hid (And.intro hx1 hx2)
    have hr:Pz.pv L .sm i=Pz.pv L (.smL x) j:=HR.out.2.2.2.2.2
    rw [Pz.pv_step L (.smL x) j HR.out.2.2.1] at hr
    unfold Pz.step at hr
    dsimp only at hr
    have PV5:=Lib.hid hr
    clear hr hx1 hx2
    by_cases hw0:Pz.isw L j Pz.wPlus=true
    · have PV6:=Lib.hid PV5.out
      rw [if_pos hw0] at PV6
      go_wp2_with fail
      refine (accept_yes sb L p cap j _ _ E4.out.st hw0).mono ?_
      rintro e w6 ⟨rfl,hs,hg⟩
      have E6:=Lib.hid (E4.out.grown hs (pst_cl _ _ _ _ _) hg)
      have hj:=Pz.isw_lt hw0
      have B6:=Lib.hid hw0
      clear hs hg hw0 E4 xc0 xc1 xc2 xc3 xf0 xf1 xf2 xf3 xlt rc0 rc1 rc2 rc3 rf0 rf1 rf2 rf3 rlt
      go_wp2_with fail
      have E7:=Lib.hid (E6.out.box Pz.z0 #[.int .i64 0,.int .i64 0,.string ⟨#[]⟩,.slice none 0 0] rfl 24)
      generalize hyb:w6.heap.size=yb at *
      generalize w6.alloc (.cells #[.int .i64 0,.int .i64 0,.string ⟨#[]⟩,.slice none 0 0] 24)=w7 at *
      clear E6 hyb
      refine (C1.out (j+1) (by have:=HR.out.2.1;omega) (by omega) sb p cap w7 E7.out.st).mono ?_
      rintro e w8 ⟨d,rfl,hf⟩
      have AD:Hid (Pz.Ok L (j+1) (Pz.pv L .tm (j+1)) 1):=Pz.pv_adv L .tm (j+1) (by omega)
      generalize Pz.pv L .tm (j+1)=r0 at *
      obtain ⟨o,k⟩:=r0
      obtain ⟨ts8,hE8,hd8,hsub⟩:=E7.out.go hf (pst_cl _ _ _ _ _) (by intro d hd;cases hd)
      have E8:=Lib.hid hE8
      have T8:=Lib.hid hd8
      have TX:=Lib.hid (hsub c T4.out.2)
      rw [Pz.bnd_goL] at PV6
      have PV7:=Lib.hid PV6.out
      clear hf hE8 hd8 hsub E7 PV6 PV5
      dsimp only
      obtain ⟨yc0,yc1,yc2,yc3,yf0,yf1,yf2,yf3,ylt⟩:=(E8.out.bx (yb,Pz.z0) (by simp)).1
      obtain ⟨xc0,xc1,xc2,xc3,xf0,xf1,xf2,xf3,xlt⟩:=(E8.out.bx (xb,c) (by simp)).1
      dsimp only at xc0 xc1 xc2 xc3 xf0 xf1 xf2 xf3 xlt yc0 yc1 yc2 yc3 yf0 yf1 yf2 yf3 ylt
      have YX:yb≠xb:=(List.pairwise_cons.1 E8.out.nd).1 (xb,c) (by simp)
      go_wp2_with fail
      have E9:=Lib.hid (E8.out.put d)
      generalize ((((w8.setCell ⟨yb,0,none⟩ (.int .i64 d.a.op)).setCell ⟨yb,1,none⟩ (.int .i64 d.a.num)).setCell ⟨yb,2,none⟩ (.string d.a.name)).setCell ⟨yb,3,none⟩ (.slice d.a.ptr (len d.k) d.a.cap))=w9 at *
      refine (pair_any 8 c d w9).mono ?_
      rintro e wa ⟨g,rfl,hg,hb,hcl⟩
      obtain ⟨tsa,hEa,hna,-⟩:=E9.out.pair hb ⟨T4.out.1,TX.out⟩ T8.out 8 g hg hcl
      have Ea:=Lib.hid (hEa.tail)
      have Ta:=Lib.hid hna
      clear E8 E9 hg hb hcl hEa hna xc0 xc1 xc2 xc3 xf0 xf1 xf2 xf3 xlt yc0 yc1 yc2 yc3 yf0 yf1 yf2 yf3 ylt
      obtain ⟨xc0,xc1,xc2,xc3,xf0,xf1,xf2,xf3,xlt⟩:=(Ea.out.bx (xb,c) (by simp)).1
      dsimp only at xc0 xc1 xc2 xc3 xf0 xf1 xf2 xf3 xlt
      go_wp2
      have a1:=AD.out.1
      have a2:=AD.out.2.1
      dsimp only at a1 a2
      cases o with
      | none =>
        go_roundg (L.length - k)
        case rel=>exact ⟨none,k,(⟨g,0,⟨8,0,⟨#[]⟩,some ⟨g,0,none⟩,2⟩,rowF [c,d]⟩:Ch),tsa,rfl,rfl,by have:=HR.out.2.1;omega,a2,Ea.out.put4 (⟨g,0,⟨8,0,⟨#[]⟩,some ⟨g,0,none⟩,2⟩,rowF [c,d]⟩:Ch) rfl rfl rfl rfl,(fun y hy=>by cases hy),by rw [PV7.out,Pz.goL_none,Pz.goL_none]⟩
        case measure=>have:=HR.out.1;omega
      | some y =>
        go_roundg (L.length - k)
        case rel=>exact ⟨some (Pz.tn 8 [x,y]),k,(⟨g,0,⟨8,0,⟨#[]⟩,some ⟨g,0,none⟩,2⟩,rowF [c,d]⟩:Ch),tsa,rfl,rfl,by have:=HR.out.2.1;omega,a2,Ea.out.put4 (⟨g,0,⟨8,0,⟨#[]⟩,some ⟨g,0,none⟩,2⟩,rowF [c,d]⟩:Ch) rfl rfl rfl rfl,(fun z hz=>by cases hz;exact Ta.out y rfl),by rw [PV7.out,Pz.goL_some,Pz.goL_some]⟩
        case measure=>have:=HR.out.1;omega
    · have N0:=Lib.hid hw0
      have hw0':Pz.isw L j Pz.wPlus=false:=by simpa using hw0
      go_wp2_with fail
      refine (accept_no sb L p cap j _ _ E4.out.st hw0').mono ?_
      rintro e w50 ⟨rfl,hb⟩
      have E50:=Lib.hid (E4.out.below hb)
      clear hb hw0 hw0' xc0 xc1 xc2 xc3 xf0 xf1 xf2 xf3 xlt rc0 rc1 rc2 rc3 rf0 rf1 rf2 rf3 rlt
      obtain ⟨xc0,xc1,xc2,xc3,xf0,xf1,xf2,xf3,xlt⟩:=(E50.out.bx (xb,c) (by simp)).1
      obtain ⟨rc0,rc1,rc2,rc3,rf0,rf1,rf2,rf3,rlt⟩:=(E50.out.bx (w.heap.size,Pz.z0) (by simp)).1
      dsimp only at xc0 xc1 xc2 xc3 xf0 xf1 xf2 xf3 xlt rc0 rc1 rc2 rc3 rf0 rf1 rf2 rf3 rlt
      by_cases hw1:Pz.isw L j Pz.wMinus=true
      · have PV6:=Lib.hid PV5.out
        rw [if_neg N0.out,if_pos hw1] at PV6
        go_wp2_with fail
        refine (accept_yes sb L p cap j _ _ E50.out.st hw1).mono ?_
        rintro e w6 ⟨rfl,hs,hg⟩
        have E6:=Lib.hid (E50.out.grown hs (pst_cl _ _ _ _ _) hg)
        have hj:=Pz.isw_lt hw1
        have B6:=Lib.hid hw1
        clear hs hg hw1 E4 xc0 xc1 xc2 xc3 xf0 xf1 xf2 xf3 xlt rc0 rc1 rc2 rc3 rf0 rf1 rf2 rf3 rlt
        go_wp2_with fail
        have E7:=Lib.hid (E6.out.box Pz.z0 #[.int .i64 0,.int .i64 0,.string ⟨#[]⟩,.slice none 0 0] rfl 24)
        generalize hyb:w6.heap.size=yb at *
        generalize w6.alloc (.cells #[.int .i64 0,.int .i64 0,.string ⟨#[]⟩,.slice none 0 0] 24)=w7 at *
        clear E6 hyb
        refine (C1.out (j+1) (by have:=HR.out.2.1;omega) (by omega) sb p cap w7 E7.out.st).mono ?_
        rintro e w8 ⟨d,rfl,hf⟩
        have AD:Hid (Pz.Ok L (j+1) (Pz.pv L .tm (j+1)) 1):=Pz.pv_adv L .tm (j+1) (by omega)
        generalize Pz.pv L .tm (j+1)=r0 at *
        obtain ⟨o,k⟩:=r0
        obtain ⟨ts8,hE8,hd8,hsub⟩:=E7.out.go hf (pst_cl _ _ _ _ _) (by intro d hd;cases hd)
        have E8:=Lib.hid hE8
        have T8:=Lib.hid hd8
        have TX:=Lib.hid (hsub c T4.out.2)
        rw [Pz.bnd_goL] at PV6
        have PV7:=Lib.hid PV6.out
        clear hf hE8 hd8 hsub E7 PV6 PV5
        dsimp only
        obtain ⟨yc0,yc1,yc2,yc3,yf0,yf1,yf2,yf3,ylt⟩:=(E8.out.bx (yb,Pz.z0) (by simp)).1
        obtain ⟨xc0,xc1,xc2,xc3,xf0,xf1,xf2,xf3,xlt⟩:=(E8.out.bx (xb,c) (by simp)).1
        dsimp only at xc0 xc1 xc2 xc3 xf0 xf1 xf2 xf3 xlt yc0 yc1 yc2 yc3 yf0 yf1 yf2 yf3 ylt
        have YX:yb≠xb:=(List.pairwise_cons.1 E8.out.nd).1 (xb,c) (by simp)
        go_wp2_with fail
        have E9:=Lib.hid (E8.out.put d)
        generalize ((((w8.setCell ⟨yb,0,none⟩ (.int .i64 d.a.op)).setCell ⟨yb,1,none⟩ (.int .i64 d.a.num)).setCell ⟨yb,2,none⟩ (.string d.a.name)).setCell ⟨yb,3,none⟩ (.slice d.a.ptr (len d.k) d.a.cap))=w9 at *
        refine (pair_any 9 c d w9).mono ?_
        rintro e wa ⟨g,rfl,hg,hb,hcl⟩
        obtain ⟨tsa,hEa,hna,-⟩:=E9.out.pair hb ⟨T4.out.1,TX.out⟩ T8.out 9 g hg hcl
        have Ea:=Lib.hid (hEa.tail)
        have Ta:=Lib.hid hna
        clear E8 E9 hg hb hcl hEa hna xc0 xc1 xc2 xc3 xf0 xf1 xf2 xf3 xlt yc0 yc1 yc2 yc3 yf0 yf1 yf2 yf3 ylt
        obtain ⟨xc0,xc1,xc2,xc3,xf0,xf1,xf2,xf3,xlt⟩:=(Ea.out.bx (xb,c) (by simp)).1
        dsimp only at xc0 xc1 xc2 xc3 xf0 xf1 xf2 xf3 xlt
        go_wp2
        have a1:=AD.out.1
        have a2:=AD.out.2.1
        dsimp only at a1 a2
        cases o with
        | none =>
          go_roundg (L.length - k)
          case rel=>exact ⟨none,k,(⟨g,0,⟨9,0,⟨#[]⟩,some ⟨g,0,none⟩,2⟩,rowF [c,d]⟩:Ch),tsa,rfl,rfl,by have:=HR.out.2.1;omega,a2,Ea.out.put4 (⟨g,0,⟨9,0,⟨#[]⟩,some ⟨g,0,none⟩,2⟩,rowF [c,d]⟩:Ch) rfl rfl rfl rfl,(fun y hy=>by cases hy),by rw [PV7.out,Pz.goL_none,Pz.goL_none]⟩
          case measure=>have:=HR.out.1;omega
        | some y =>
          go_roundg (L.length - k)
          case rel=>exact ⟨some (Pz.tn 9 [x,y]),k,(⟨g,0,⟨9,0,⟨#[]⟩,some ⟨g,0,none⟩,2⟩,rowF [c,d]⟩:Ch),tsa,rfl,rfl,by have:=HR.out.2.1;omega,a2,Ea.out.put4 (⟨g,0,⟨9,0,⟨#[]⟩,some ⟨g,0,none⟩,2⟩,rowF [c,d]⟩:Ch) rfl rfl rfl rfl,(fun z hz=>by cases hz;exact Ta.out y rfl),by rw [PV7.out,Pz.goL_some,Pz.goL_some]⟩
          case measure=>have:=HR.out.1;omega
      · have N1:=Lib.hid hw1
        have hw1':Pz.isw L j Pz.wMinus=false:=by simpa using hw1
        go_wp2_with fail
        refine (accept_no sb L p cap j _ _ E50.out.st hw1').mono ?_
        rintro e w51 ⟨rfl,hb⟩
        have E51:=Lib.hid (E50.out.below hb)
        clear hb hw1 hw1' xc0 xc1 xc2 xc3 xf0 xf1 xf2 xf3 xlt rc0 rc1 rc2 rc3 rf0 rf1 rf2 rf3 rlt
        obtain ⟨xc0,xc1,xc2,xc3,xf0,xf1,xf2,xf3,xlt⟩:=(E51.out.bx (xb,c) (by simp)).1
        obtain ⟨rc0,rc1,rc2,rc3,rf0,rf1,rf2,rf3,rlt⟩:=(E51.out.bx (w.heap.size,Pz.z0) (by simp)).1
        dsimp only at xc0 xc1 xc2 xc3 xf0 xf1 xf2 xf3 xlt rc0 rc1 rc2 rc3 rf0 rf1 rf2 rf3 rlt
        have HQ:=Lib.hid PV5.out
        rw [if_neg N0.out,if_neg N1.out] at HQ
        have E6:=E51
        go_wp2
        refine bodyPost_ret (v:=.tuple #[.agg #[.int .i64 c.a.op,.int .i64 c.a.num,.string c.a.name,.slice c.a.ptr (len c.k) c.a.cap],.bool true]) ?_ rfl ?_
        · rw [results_cell_tmp rfl]
          go_simp
        · rw [HQ.out]
          exact ⟨c,rfl,Pz.Env.done E6.out.tail c (some x) (fun y hy=>by cases hy;exact T4.out)⟩
set_option maxHeartbeats 600000 in
set_option maxRecDepth 100000 in
theorem tm_of (L:List Tk.T4) (i:Nat) (h0:PC 204 L .fc i) (h1:∀ j,i < j→j≤L.length→PC 204 L .fc j):PC 200 L .tm i:=by
 intro sb p cap w h
 have C0:=Lib.hid h0
 have C1:=Lib.hid h1
 clear h0 h1
 have H:=Lib.hid h
 have hle:=h.le
 have hL4:=h.ls.1
 have E0:Hid (Pz.Env w w sb (fun W=>PSt W sb L p cap i) [] [] []):=Pz.Env.init h (pst_cl _ _ _ _ _) h.lt (by intro c hc;cases hc)
 have PV:Hid (Pz.pv L .tm i=Pz.step L (Pz.pv L) .tm i):=Pz.pv_step L .tm i hle
 unfold Pz.step at PV
 dsimp only at PV
 clear h
 go_enter Tryz.func200,Tryz.ntmps200
 go_wp2_with fail
 have E1:=Lib.hid (E0.out.box Pz.z0 #[.int .i64 0,.int .i64 0,.string ⟨#[]⟩,.slice none 0 0] rfl 24)
 generalize w.alloc (.cells #[.int .i64 0,.int .i64 0,.string ⟨#[]⟩,.slice none 0 0] 24)=w1 at *
 refine (C0.out sb p cap w1 E1.out.st).mono ?_
 rintro e w2 ⟨c,rfl,hf⟩
 have AD:Hid (Pz.Ok L i (Pz.pv L .fc i) 1):=Pz.pv_adv L .fc i hle
 generalize Pz.pv L .fc i=r0 at *
 obtain ⟨o,j⟩:=r0
 obtain ⟨ts2,hE2,hc2,-⟩:=E1.out.go hf (pst_cl _ _ _ _ _) (by intro d hd;cases hd)
 have E2:=Lib.hid hE2
 have T2:=Lib.hid hc2
 rw [Pz.bnd_goL] at PV
 have PV2:=Lib.hid PV.out
 clear hf hE2 hc2 E1 E0 C0 PV
 dsimp only
 go_wp2_with fail
 have E3:=Lib.hid (E2.out.box c #[.int .i64 c.a.op,.int .i64 c.a.num,.string c.a.name,.slice c.a.ptr (len c.k) c.a.cap] rfl 24)
 generalize hxb:w2.heap.size=xb at *
 generalize w2.alloc (.cells #[.int .i64 c.a.op,.int .i64 c.a.num,.string c.a.name,.slice c.a.ptr (len c.k) c.a.cap] 24)=w3 at *
 clear E2 hxb
 have AD2:Hid (i≤j∧j≤L.length):=⟨AD.out.1,AD.out.2.1⟩
 clear AD
 go_loopg [5] (L.length - j) (fun g ok wr=>∃ (o:Option Ch) (j:Nat) (c:Ch) (ts:List Ch),ok=.bool o.isSome∧Hid (g=L.length - j∧i≤j∧j≤L.length∧Pz.Env w wr sb (fun W=>PSt W sb L p cap j) [] [(xb,c),(w.heap.size,Pz.z0)] ts∧(∀ x,o=some x→Pz.nr c=x∧c ∈ ts)∧Pz.pv L .tm i=Pz.goL (fun x=>Pz.pv L (.tmL x) j) o j))
 case atStart=>exact ⟨o,j,c,ts2,rfl,rfl,AD2.out.1,AD2.out.2,E3.out,T2.out,PV2.out⟩
 case round =>
  clear E3 T2 PV2 AD2
  obtain ⟨o,j,c,ts,rfl,HR⟩:=hrel
  have E4:=Lib.hid HR.out.2.2.2.1
  obtain ⟨xc0,xc1,xc2,xc3,xf0,xf1,xf2,xf3,xlt⟩:=(E4.out.bx (xb,c) (by simp)).1
  obtain ⟨rc0,rc1,rc2,rc3,rf0,rf1,rf2,rf3,rlt⟩:=(E4.out.bx (w.heap.size,Pz.z0) (by simp)).1
  dsimp only at xc0 xc1 xc2 xc3 xf0 xf1 xf2 xf3 xlt rc0 rc1 rc2 rc3 rf0 rf1 rf2 rf3 rlt
  have XR:xb≠w.heap.size:=by have:=(List.pairwise_cons.1 E4.out.nd).1 (w.heap.size,Pz.z0) (by simp);exact this
  cases o with
  | none =>
    have hr:Pz.pv L .tm i=(none,j):=HR.out.2.2.2.2.2
    have HQ:=Lib.hid hr
    clear hr
    go_wp2
    refine bodyPost_ret (v:=.tuple #[.agg #[.int .i64 c.a.op,.int .i64 c.a.num,.string c.a.name,.slice c.a.ptr (len c.k) c.a.cap],.bool false]) ?_ rfl ?_
    · rw [results_cell_tmp rfl]
      go_simp
    · rw [HQ.out]
      exact ⟨c,rfl,Pz.Env.done (E4.out.tail) c none (fun x hx=>by cases hx)⟩
  | some x =>
    obtain ⟨hx1,hx2⟩:=HR.out.2.2.2.2.1 x rfl
    have T4:=Lib.hid (And.intro hx1 hx2)
    have hr:Pz.pv L .tm i=Pz.pv L (.tmL x) j:=HR.out.2.2.2.2.2
    rw [Pz.pv_step L (.tmL x) j HR.out.2.2.1] at hr
    unfold Pz.step at hr
    dsimp only at hr
    have PV5:=Lib.hid hr
    clear hr hx1 hx2
    by_cases hw0:Pz.isw L j Pz.wStar=true
    · have PV6:=Lib.hid PV5.out
      rw [if_pos hw0] at PV6
      go_wp2_with fail
      refine (accept_yes sb L p cap j _ _ E4.out.st hw0).mono ?_
      rintro e w6 ⟨rfl,hs,hg⟩
      have E6:=Lib.hid (E4.out.grown hs (pst_cl _ _ _ _ _) hg)
      have hj:=Pz.isw_lt hw0
      have B6:=Lib.hid hw0
      clear hs hg hw0 E4 xc0 xc1 xc2 xc3 xf0 xf1 xf2 xf3 xlt rc0 rc1 rc2 rc3 rf0 rf1 rf2 rf3 rlt
      go_wp2_with fail
      have E7:=Lib.hid (E6.out.box Pz.z0 #[.int .i64 0,.int .i64 0,.string ⟨#[]⟩,.slice none 0 0] rfl 24)
      generalize hyb:w6.heap.size=yb at *
      generalize w6.alloc (.cells #[.int .i64 0,.int .i64 0,.string ⟨#[]⟩,.slice none 0 0] 24)=w7 at *
      clear E6 hyb
      refine (C1.out (j+1) (by have:=HR.out.2.1;omega) (by omega) sb p cap w7 E7.out.st).mono ?_
      rintro e w8 ⟨d,rfl,hf⟩
      have AD:Hid (Pz.Ok L (j+1) (Pz.pv L .fc (j+1)) 1):=Pz.pv_adv L .fc (j+1) (by omega)
      generalize Pz.pv L .fc (j+1)=r0 at *
      obtain ⟨o,k⟩:=r0
      obtain ⟨ts8,hE8,hd8,hsub⟩:=E7.out.go hf (pst_cl _ _ _ _ _) (by intro d hd;cases hd)
      have E8:=Lib.hid hE8
      have T8:=Lib.hid hd8
      have TX:=Lib.hid (hsub c T4.out.2)
      rw [Pz.bnd_goL] at PV6
      have PV7:=Lib.hid PV6.out
      clear hf hE8 hd8 hsub E7 PV6 PV5
      dsimp only
      obtain ⟨yc0,yc1,yc2,yc3,yf0,yf1,yf2,yf3,ylt⟩:=(E8.out.bx (yb,Pz.z0) (by simp)).1
      obtain ⟨xc0,xc1,xc2,xc3,xf0,xf1,xf2,xf3,xlt⟩:=(E8.out.bx (xb,c) (by simp)).1
      dsimp only at xc0 xc1 xc2 xc3 xf0 xf1 xf2 xf3 xlt yc0 yc1 yc2 yc3 yf0 yf1 yf2 yf3 ylt
      have YX:yb≠xb:=(List.pairwise_cons.1 E8.out.nd).1 (xb,c) (by simp)
      go_wp2_with fail
      have E9:=Lib.hid (E8.out.put d)
      generalize ((((w8.setCell ⟨yb,0,none⟩ (.int .i64 d.a.op)).setCell ⟨yb,1,none⟩ (.int .i64 d.a.num)).setCell ⟨yb,2,none⟩ (.string d.a.name)).setCell ⟨yb,3,none⟩ (.slice d.a.ptr (len d.k) d.a.cap))=w9 at *
      refine (pair_any 10 c d w9).mono ?_
      rintro e wa ⟨g,rfl,hg,hb,hcl⟩
      obtain ⟨tsa,hEa,hna,-⟩:=E9.out.pair hb ⟨T4.out.1,TX.out⟩ T8.out 10 g hg hcl
      have Ea:=Lib.hid (hEa.tail)
      have Ta:=Lib.hid hna
      clear E8 E9 hg hb hcl hEa hna xc0 xc1 xc2 xc3 xf0 xf1 xf2 xf3 xlt yc0 yc1 yc2 yc3 yf0 yf1 yf2 yf3 ylt
      obtain ⟨xc0,xc1,xc2,xc3,xf0,xf1,xf2,xf3,xlt⟩:=(Ea.out.bx (xb,c) (by simp)).1
      dsimp only at xc0 xc1 xc2 xc3 xf0 xf1 xf2 xf3 xlt
      go_wp2
      have a1:=AD.out.1
      have a2:=AD.out.2.1
      dsimp only at a1 a2
      cases o with
      | none =>
        go_roundg (L.length - k)
        case rel=>exact ⟨none,k,(⟨g,0,⟨10,0,⟨#[]⟩,some ⟨g,0,none⟩,2⟩,rowF [c,d]⟩:Ch),tsa,rfl,rfl,by have:=HR.out.2.1;omega,a2,Ea.out.put4 (⟨g,0,⟨10,0,⟨#[]⟩,some ⟨g,0,none⟩,2⟩,rowF [c,d]⟩:Ch) rfl rfl rfl rfl,(fun y hy=>by cases hy),by rw [PV7.out,Pz.goL_none,Pz.goL_none]⟩
        case measure=>have:=HR.out.1;omega
      | some y =>
        go_roundg (L.length - k)
        case rel=>exact ⟨some (Pz.tn 10 [x,y]),k,(⟨g,0,⟨10,0,⟨#[]⟩,some ⟨g,0,none⟩,2⟩,rowF [c,d]⟩:Ch),tsa,rfl,rfl,by have:=HR.out.2.1;omega,a2,Ea.out.put4 (⟨g,0,⟨10,0,⟨#[]⟩,some ⟨g,0,none⟩,2⟩,rowF [c,d]⟩:Ch) rfl rfl rfl rfl,(fun z hz=>by cases hz;exact Ta.out y rfl),by rw [PV7.out,Pz.goL_some,Pz.goL_some]⟩
        case measure=>have:=HR.out.1;omega
    · have N0:=Lib.hid hw0
      have hw0':Pz.isw L j Pz.wStar=false:=by simpa using hw0
      go_wp2_with fail
      refine (accept_no sb L p cap j _ _ E4.out.st hw0').mono ?_
      rintro e w50 ⟨rfl,hb⟩
      have E50:=Lib.hid (E4.out.below hb)
      clear hb hw0 hw0' xc0 xc1 xc2 xc3 xf0 xf1 xf2 xf3 xlt rc0 rc1 rc2 rc3 rf0 rf1 rf2 rf3 rlt
      obtain ⟨xc0,xc1,xc2,xc3,xf0,xf1,xf2,xf3,xlt⟩:=(E50.out.bx (xb,c) (by simp)).1
      obtain ⟨rc0,rc1,rc2,rc3,rf0,rf1,rf2,rf3,rlt⟩:=(E50.out.bx (w.heap.size,Pz.z0) (by simp)).1
      dsimp only at xc0 xc1 xc2 xc3 xf0 xf1 xf2 xf3 xlt rc0 rc1 rc2 rc3 rf0 rf1 rf2 rf3 rlt
      by_cases hw1:Pz.isw L j Pz.wSlash=true
      · have PV6:=Lib.hid PV5.out
        rw [if_neg N0.out,if_pos hw1] at PV6
        go_wp2_with fail
        refine (accept_yes sb L p cap j _ _ E50.out.st hw1).mono ?_
        rintro e w6 ⟨rfl,hs,hg⟩
        have E6:=Lib.hid (E50.out.grown hs (pst_cl _ _ _ _ _) hg)
        have hj:=Pz.isw_lt hw1
        have B6:=Lib.hid hw1
        clear hs hg hw1 E4 xc0 xc1 xc2 xc3 xf0 xf1 xf2 xf3 xlt rc0 rc1 rc2 rc3 rf0 rf1 rf2 rf3 rlt
        go_wp2_with fail
        have E7:=Lib.hid (E6.out.box Pz.z0 #[.int .i64 0,.int .i64 0,.string ⟨#[]⟩,.slice none 0 0] rfl 24)
        generalize hyb:w6.heap.size=yb at *
        generalize w6.alloc (.cells #[.int .i64 0,.int .i64 0,.string ⟨#[]⟩,.slice none 0 0] 24)=w7 at *
        clear E6 hyb
        refine (C1.out (j+1) (by have:=HR.out.2.1;omega) (by omega) sb p cap w7 E7.out.st).mono ?_
        rintro e w8 ⟨d,rfl,hf⟩
        have AD:Hid (Pz.Ok L (j+1) (Pz.pv L .fc (j+1)) 1):=Pz.pv_adv L .fc (j+1) (by omega)
        generalize Pz.pv L .fc (j+1)=r0 at *
        obtain ⟨o,k⟩:=r0
        obtain ⟨ts8,hE8,hd8,hsub⟩:=E7.out.go hf (pst_cl _ _ _ _ _) (by intro d hd;cases hd)
        have E8:=Lib.hid hE8
        have T8:=Lib.hid hd8
        have TX:=Lib.hid (hsub c T4.out.2)
        rw [Pz.bnd_goL] at PV6
        have PV7:=Lib.hid PV6.out
        clear hf hE8 hd8 hsub E7 PV6 PV5
        dsimp only
        obtain ⟨yc0,yc1,yc2,yc3,yf0,yf1,yf2,yf3,ylt⟩:=(E8.out.bx (yb,Pz.z0) (by simp)).1
        obtain ⟨xc0,xc1,xc2,xc3,xf0,xf1,xf2,xf3,xlt⟩:=(E8.out.bx (xb,c) (by simp)).1
        dsimp only at xc0 xc1 xc2 xc3 xf0 xf1 xf2 xf3 xlt yc0 yc1 yc2 yc3 yf0 yf1 yf2 yf3 ylt
        have YX:yb≠xb:=(List.pairwise_cons.1 E8.out.nd).1 (xb,c) (by simp)
        go_wp2_with fail
        have E9:=Lib.hid (E8.out.put d)
        generalize ((((w8.setCell ⟨yb,0,none⟩ (.int .i64 d.a.op)).setCell ⟨yb,1,none⟩ (.int .i64 d.a.num)).setCell ⟨yb,2,none⟩ (.string d.a.name)).setCell ⟨yb,3,none⟩ (.slice d.a.ptr (len d.k) d.a.cap))=w9 at *
        refine (pair_any 11 c d w9).mono ?_
        rintro e wa ⟨g,rfl,hg,hb,hcl⟩
        obtain ⟨tsa,hEa,hna,-⟩:=E9.out.pair hb ⟨T4.out.1,TX.out⟩ T8.out 11 g hg hcl
        have Ea:=Lib.hid (hEa.tail)
        have Ta:=Lib.hid hna
        clear E8 E9 hg hb hcl hEa hna xc0 xc1 xc2 xc3 xf0 xf1 xf2 xf3 xlt yc0 yc1 yc2 yc3 yf0 yf1 yf2 yf3 ylt
        obtain ⟨xc0,xc1,xc2,xc3,xf0,xf1,xf2,xf3,xlt⟩:=(Ea.out.bx (xb,c) (by simp)).1
        dsimp only at xc0 xc1 xc2 xc3 xf0 xf1 xf2 xf3 xlt
        go_wp2
        have a1:=AD.out.1
        have a2:=AD.out.2.1
        dsimp only at a1 a2
        cases o with
        | none =>
          go_roundg (L.length - k)
          case rel=>exact ⟨none,k,(⟨g,0,⟨11,0,⟨#[]⟩,some ⟨g,0,none⟩,2⟩,rowF [c,d]⟩:Ch),tsa,rfl,rfl,by have:=HR.out.2.1;omega,a2,Ea.out.put4 (⟨g,0,⟨11,0,⟨#[]⟩,some ⟨g,0,none⟩,2⟩,rowF [c,d]⟩:Ch) rfl rfl rfl rfl,(fun y hy=>by cases hy),by rw [PV7.out,Pz.goL_none,Pz.goL_none]⟩
          case measure=>have:=HR.out.1;omega
        | some y =>
          go_roundg (L.length - k)
          case rel=>exact ⟨some (Pz.tn 11 [x,y]),k,(⟨g,0,⟨11,0,⟨#[]⟩,some ⟨g,0,none⟩,2⟩,rowF [c,d]⟩:Ch),tsa,rfl,rfl,by have:=HR.out.2.1;omega,a2,Ea.out.put4 (⟨g,0,⟨11,0,⟨#[]⟩,some ⟨g,0,none⟩,2⟩,rowF [c,d]⟩:Ch) rfl rfl rfl rfl,(fun z hz=>by cases hz;exact Ta.out y rfl),by rw [PV7.out,Pz.goL_some,Pz.goL_some]⟩
          case measure=>have:=HR.out.1;omega
      · have N1:=Lib.hid hw1
        have hw1':Pz.isw L j Pz.wSlash=false:=by simpa using hw1
        go_wp2_with fail
        refine (accept_no sb L p cap j _ _ E50.out.st hw1').mono ?_
        rintro e w51 ⟨rfl,hb⟩
        have E51:=Lib.hid (E50.out.below hb)
        clear hb hw1 hw1' xc0 xc1 xc2 xc3 xf0 xf1 xf2 xf3 xlt rc0 rc1 rc2 rc3 rf0 rf1 rf2 rf3 rlt
        obtain ⟨xc0,xc1,xc2,xc3,xf0,xf1,xf2,xf3,xlt⟩:=(E51.out.bx (xb,c) (by simp)).1
        obtain ⟨rc0,rc1,rc2,rc3,rf0,rf1,rf2,rf3,rlt⟩:=(E51.out.bx (w.heap.size,Pz.z0) (by simp)).1
        dsimp only at xc0 xc1 xc2 xc3 xf0 xf1 xf2 xf3 xlt rc0 rc1 rc2 rc3 rf0 rf1 rf2 rf3 rlt
        have HQ:=Lib.hid PV5.out
        rw [if_neg N0.out,if_neg N1.out] at HQ
        have E6:=E51
        go_wp2
        refine bodyPost_ret (v:=.tuple #[.agg #[.int .i64 c.a.op,.int .i64 c.a.num,.string c.a.name,.slice c.a.ptr (len c.k) c.a.cap],.bool true]) ?_ rfl ?_
        · rw [results_cell_tmp rfl]
          go_simp
        · rw [HQ.out]
          exact ⟨c,rfl,Pz.Env.done E6.out.tail c (some x) (fun y hy=>by cases hy;exact T4.out)⟩
end Go.Proofs.YtcejjdmnlejbaaaGreatDoor
