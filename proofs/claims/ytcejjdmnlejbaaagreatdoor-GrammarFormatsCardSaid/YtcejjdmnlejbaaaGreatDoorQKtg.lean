import Derived.Test.YtcejjdmnlejbaaaGreatDoorQFpy
import Derived.Test.YtcejjdmnlejbaaaGreatDoorQOpe
import Derived.Test.YtcejjdmnlejbaaaGreatDoorRows
import Derived.Test.YtcejjdmnlejbaaaGreatDoorQKth
import Derived.MakeChecks
import Derived.Stop.LaidErr
import Derived.LaidMore
namespace Go.Proofs.YtcejjdmnlejbaaaGreatDoor
set_option linter.unusedVariables false
set_option linter.unusedSimpArgs false
open Go.ChangeShapes Go.WideShapes Go.ChangeAt Go.RowKit
open Go.Deep (BT)
theorem Fp.fmT_ok (c:Ch) (h:(Fp.fmT c).2=0):(Fp.fmT c).1.size≤9223372036854775807∧Pz.pxT (Fp.fmT c).1=(Pz.nr c,0,0):=by
 unfold Fp.fmT at h ⊢
 by_cases hv:valE c.a c.k=0
 · rw [if_neg (fun q=>q hv)] at h ⊢
   by_cases hl:400 < (Fp.F c).length
   · rw [if_pos hl] at h;cases h
   · rw [if_neg hl]
     refine ⟨?_,Fp.px_back c hv (by omega)⟩
     have hs:sz c.k≤199:=by
      have h:=hv
      unfold valE at h
      split at h
      · rename_i q
        unfold fitB at q
        have:=of_decide_eq_true q
        omega
      · cases h
     have:(Fp.tB (Fp.F c)).size≤201000:=tB_sz (Fp.valE_wf hv) hs
     show (Fp.tB (Fp.F c)).size≤_
     omega
 · rw [if_pos hv] at h;exact absurd h hv
theorem Fp.fmT_bd (c:Ch) : -9223372036854775808≤(Fp.fmT c).2∧(Fp.fmT c).2≤9223372036854775807:=by
 unfold Fp.fmT
 split
 · rcases Fp.valE_cases c.a c.k with h|h|h<;>rw [h]<;>decide
 · split
   · exact ⟨show (-9223372036854775808:Int)≤10 by decide,show (10:Int)≤9223372036854775807 by decide⟩
   · exact ⟨show (-9223372036854775808:Int)≤0 by decide,show (0:Int)≤9223372036854775807 by decide⟩
set_option maxHeartbeats 4000000 in
set_option maxRecDepth 100000 in
theorem walk_grammarFormats (op num:Int) (name:ByteArray) (ptr:Option Addr) (cap:Nat) (k:Fo) (b o:Nat) (w:World) (hx:ExAt w b o ⟨op,num,name,ptr,cap⟩ k) (hok:ExOk ⟨op,num,name,ptr,cap⟩ k) (ht:Tab w) :
 Calls Tryz.prog 3 #[.agg #[.int .i64 op,.int .i64 num,.string name,.slice ptr (len k) cap]] w fun e w'=>e=.returned (.bool true)∧Below w.heap.size w w':=by
 have HX:Hid (∀ W,Below w.heap.size w W→ExAt W b o ⟨op,num,name,ptr,cap⟩ k):=fun W hb=>hx.next hb
 have HT:Hid (∀ W,Below w.heap.size w W→Tab W):=fun W hb=>ht.next hb
 have HOK:=Lib.hid hok
 have C0:Hid (Pz.B4 (w.alloc (.cells #[.int .i64 op,.int .i64 num,.string name,.slice ptr (len k) cap] 24)) w.heap.size ⟨b,o,⟨op,num,name,ptr,cap⟩,k⟩):=Pz.b4_alloc w ⟨b,o,⟨op,num,name,ptr,cap⟩,k⟩ _ rfl _
 have B0:Hid (Below w.heap.size w (w.alloc (.cells #[.int .i64 op,.int .i64 num,.string name,.slice ptr (len k) cap] 24))):=(Below.refl _ _).alloc (Nat.le_refl _) _
 clear hx hok ht
 go_enter Tryz.func3,Tryz.ntmps3
 go_upto_region 1 with (fail)
 generalize w.alloc (.cells #[.int .i64 op,.int .i64 num,.string name,.slice ptr (len k) cap] 24)=w0 at *
 obtain ⟨x0,x1,x2,x3,-,-,-,-,xl⟩:=C0.out
 dsimp only at x0 x1 x2 x3
 go_wp2_with fail
 refine (lightx_any b o ⟨op,num,name,ptr,cap⟩ k w0 (HX.out _ B0.out) HOK.out).mono ?_
 rintro e w1 ⟨m,rfl,hb⟩
 have B1:=Lib.hid (B0.out.trans (hb.mono B0.out.size))
 have C1:=Lib.hid (C0.out.next hb)
 clear hb x0 x1 x2 x3 xl C0
 obtain ⟨x0,x1,x2,x3,-,-,-,-,xl⟩:=C1.out
 dsimp only at x0 x1 x2 x3
 cases m with
 | false =>
   go_wp2_with fail
   refine (gawake_any w1).mono ?_
   rintro e w6 ⟨rfl,hb⟩
   have B6:=Lib.hid (B1.out.trans (hb.mono B1.out.size))
   clear hb
   go_wp2
   go_ret
   exact ⟨rfl,B6.out⟩
 | true =>
   go_wp2_with fail
   refine (pfmtx_any b o op num name ptr cap k w1 (HT.out _ B1.out) (HX.out _ B1.out) HOK.out).mono ?_
   rintro e w2 ⟨rfl,hb⟩
   have B2:=Lib.hid (B1.out.trans (hb.mono B1.out.size))
   have C2:=Lib.hid (C1.out.next hb)
   clear hb x0 x1 x2 x3 xl C1
   obtain ⟨x0,x1,x2,x3,-,-,-,-,xl⟩:=C2.out
   dsimp only at x0 x1 x2 x3
   have FO:=Lib.hid (Fp.fmT_ok ⟨b,o,⟨op,num,name,ptr,cap⟩,k⟩)
   have FB:=Fp.fmT_bd ⟨b,o,⟨op,num,name,ptr,cap⟩,k⟩
   have RF:=Lib.hid (fun W hb=>rfmtx_any b o op num name ptr cap k W (HT.out _ hb) (HX.out _ hb) HOK.out)
   generalize Fp.fmT ⟨b,o,⟨op,num,name,ptr,cap⟩,k⟩=fm at *
   obtain ⟨s,c⟩:=fm
   dsimp only at FO FB RF ⊢
   go_wp2_with fail
   refine (RF.out w2 B2.out).mono ?_
   rintro e w3 ⟨rfl,hb⟩
   have B3:=Lib.hid (B2.out.trans (hb.mono B2.out.size))
   have C3:=Lib.hid (C2.out.next hb)
   clear hb x0 x1 x2 x3 xl C2 RF
   obtain ⟨x0,x1,x2,x3,-,-,-,-,xl⟩:=C3.out
   dsimp only at x0 x1 x2 x3
   have X0:=Lib.hid x0
   have X1:=Lib.hid x1
   have X2:=Lib.hid x2
   have X3:=Lib.hid x3
   clear x0 x1 x2 x3 xl
   have hvr : -9223372036854775808≤valE ⟨op,num,name,ptr,cap⟩ k∧valE ⟨op,num,name,ptr,cap⟩ k≤9223372036854775807:=by rcases Fp.valE_cases ⟨op,num,name,ptr,cap⟩ k with h|h|h<;>rw [h]<;>decide
   have V1:Hid (∀ dq os,Calls Tryz.prog 12 #[.agg #[.int .i64 op,.int .i64 num,.string name,.slice ptr (len k) cap]] (Sort.grow (redrawn w3 dq) os) fun e w''=>e=.returned (.int .i64 (valE ⟨op,num,name,ptr,cap⟩ k))∧∃ p:Regrown,w''=Sort.grow (redrawn w3 p.d) p.os):=fun dq os=>Calls.regrown_of (vexpr_any b o op num name ptr cap k _ (HX.out _ (B3.out.trans ((below_regrown w3 dq os).mono B3.out.size))) HOK.out)
   have V2:Hid (∀ dq os,Calls Tryz.prog 13 #[.agg #[.int .i64 op,.int .i64 num,.string name,.slice ptr (len k) cap]] (Sort.grow (redrawn w3 dq) os) fun e w''=>e=.returned (.int .i64 (valE ⟨op,num,name,ptr,cap⟩ k))∧∃ p:Regrown,w''=Sort.grow (redrawn w3 p.d) p.os):=fun dq os=>Calls.regrown_of (rvexpr_any b o op num name ptr cap k _ (HX.out _ (B3.out.trans ((below_regrown w3 dq os).mono B3.out.size))) HOK.out)
   generalize valE ⟨op,num,name,ptr,cap⟩ k=ve at *
   go_upto_region 5 with (fail)
   have e0:=fun d os=>cell_regrown X0.out d os
   have e1:=fun d os=>cell_regrown X1.out d os
   have e2:=fun d os=>cell_regrown X2.out d os
   have e3:=fun d os=>cell_regrown X3.out d os
   refine wp_region_quiet_below (by kernel_rfl) (by kernel_rfl) ?_
   repeat (quiet_step (first|with_reducible exact V1.out _ _|with_reducible exact V2.out _ _))
   refine wpQuiet_nil ?_
   intro _ hw'
   obtain ⟨⟨dq,osq⟩,hw''⟩:=hw'
   subst hw''
   have hb:=below_regrown w3 dq osq
   have B4:=Lib.hid (B3.out.trans (hb.mono B3.out.size))
   have C4:=Lib.hid (C3.out.next hb)
   clear hb e0 e1 e2 e3 V1 V2 X0 X1 X2 X3 C3
   generalize Sort.grow (redrawn w3 dq) osq=w4 at *
   obtain ⟨x0,x1,x2,x3,-,-,-,-,xl⟩:=C4.out
   dsimp only at x0 x1 x2 x3
   by_cases hc:c=0
   case neg =>
    have hcB:(c != 0)=true:=by simp [hc]
    clear hc FO
    go_wp2_with fail
    refine (gawake_any w4).mono ?_
    rintro e w6 ⟨rfl,hb⟩
    have B6:=Lib.hid (B4.out.trans (hb.mono B4.out.size))
    clear hb
    go_wp2
    go_ret
    exact ⟨rfl,B6.out⟩
   subst hc
   obtain ⟨hsz,hpx⟩:=FO.out rfl
   have PX:=Lib.hid hpx
   clear FO hpx
   go_wp2_with fail
   refine (pparse_any s w4 hsz).mono ?_
   unfold PxP
   rw [PX.out]
   dsimp only
   rintro e w5 ⟨d,rfl,hd,hy,hb⟩
   have E:Hid (Pz.nr (⟨b,o,⟨op,num,name,ptr,cap⟩,k⟩:Ch)=Pz.nr d):=hd.symm
   have Y5:=Lib.hid hy
   have B5:=Lib.hid (B4.out.trans (hb.mono B4.out.size))
   have C5:=Lib.hid (C4.out.next hb)
   clear hd hy hb C4 x0 x1 x2 x3 xl
   go_upto_region 10 with (fail)
   have N1:Hid (Below w5.heap.size w5 (w5.alloc (.cells #[.int .i64 d.a.op,.int .i64 d.a.num,.string d.a.name,.slice d.a.ptr (len d.k) d.a.cap] 24))):=(Below.refl _ _).alloc (Nat.le_refl _) _
   have D6:Hid (Pz.B4 (w5.alloc (.cells #[.int .i64 d.a.op,.int .i64 d.a.num,.string d.a.name,.slice d.a.ptr (len d.k) d.a.cap] 24)) w5.heap.size d):=Pz.b4_alloc w5 d _ rfl _
   have Y6:=Lib.hid (Y5.out.next N1.out)
   have C6:=Lib.hid (C5.out.next N1.out)
   have B6:=Lib.hid (B5.out.trans (N1.out.mono B5.out.size))
   generalize w5.heap.size=yb at *
   generalize w5.alloc (.cells #[.int .i64 d.a.op,.int .i64 d.a.num,.string d.a.name,.slice d.a.ptr (len d.k) d.a.cap] 24)=w6 at *
   clear N1 Y5 C5 B5
   obtain ⟨x0,x1,x2,x3,-,-,-,-,xl⟩:=C6.out
   obtain ⟨y0,y1,y2,y3,-,-,-,-,yl⟩:=D6.out
   dsimp only at x0 x1 x2 x3
   go_wp2_with fail
   refine (same_any17 ⟨b,o,⟨op,num,name,ptr,cap⟩,k⟩ d w6 (HX.out _ B6.out) Y6.out HOK.out E.out).mono ?_
   rintro e w7 ⟨rfl,hb⟩
   have B7:=Lib.hid (B6.out.trans (hb.mono B6.out.size))
   clear hb x0 x1 x2 x3 xl y0 y1 y2 y3 yl
   go_wp2_with fail
   refine (gawake_any w7).mono ?_
   rintro e w8 ⟨rfl,hb⟩
   have B8:=Lib.hid (B7.out.trans (hb.mono B7.out.size))
   clear hb
   go_wp2
   go_ret
   exact ⟨rfl,B8.out⟩
end Go.Proofs.YtcejjdmnlejbaaaGreatDoor
namespace Go.Proofs.YtcejjdmnlejbaaaGreatDoor
set_option linter.unusedVariables false
set_option linter.unusedSimpArgs false
open Go.ChangeShapes Go.WideShapes Go.ChangeAt Go.RowKit
def LaidFacts (W:World):Prop:=Tab W
theorem pow10_data:(Rows.laid_internal_strconv_uint64pow10:DataW Unit)=Lib.tabData .u64 Lib.pow10Tab:=by kernel_rfl
theorem tab_of_laid {w:World} (h:Lib.TabIs Tryz.prog w "internal/strconv.uint64pow10" .u64 Lib.pow10Tab):Tab w :=
 ⟨h,block_lt_of_cell (Lib.TabIs.cell h tabG 0 (by decide))⟩
theorem LaidFacts.of_laid {W:World} (h:laidMetH Tryz.prog [("math/bits.deBruijn32tab",Rows.laid_math_bits_deBruijn32tab),("math/bits.deBruijn64tab",Rows.laid_math_bits_deBruijn64tab),("internal/strconv.uint64pow10",Rows.laid_internal_strconv_uint64pow10)] W):LaidFacts W:=by
 rw [MakeChecks.laidMetH_plain _ _ _ (by kernel_rfl)] at h
 have h2:=h.tail.tail
 rw [pow10_data] at h2
 exact tab_of_laid (Lib.tabIs_of_head tabG (t := 198) (n:=20) (e := 184) (by kernel_rfl) (by kernel_rfl) (by kernel_rfl) (by kernel_rfl) (by kernel_rfl) h2)
end Go.Proofs.YtcejjdmnlejbaaaGreatDoor
