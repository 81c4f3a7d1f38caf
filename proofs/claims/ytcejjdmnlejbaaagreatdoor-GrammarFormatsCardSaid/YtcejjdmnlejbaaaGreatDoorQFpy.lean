import Derived.Test.YtcejjdmnlejbaaaGreatDoorQFps
import Derived.Test.YtcejjdmnlejbaaaGreatDoorQFpx
import Derived.Test.YtcejjdmnlejbaaaGreatDoorQTkR
import Derived.Test.YtcejjdmnlejbaaaGreatDoorQTkS
import Derived.Test.YtcejjdmnlejbaaaGreatDoorQGb
import Derived.Test.YtcejjdmnlejbaaaGreatDoorQGc
namespace Go.Proofs.YtcejjdmnlejbaaaGreatDoor
set_option linter.unusedVariables false
set_option linter.unusedSimpArgs false
open Go.ChangeShapes Go.WideShapes Go.ChangeAt Go.RowKit
open Go.Deep (BT)
set_option maxHeartbeats 4000000 in
set_option maxRecDepth 100000 in
theorem rfmtx_any (b o:Nat) (op num:Int) (name:ByteArray) (ptr:Option Addr) (cap:Nat) (k:Fo) (w:World) (ht:Tab w) (hx:ExAt w b o ⟨op,num,name,ptr,cap⟩ k) (hok:ExOk ⟨op,num,name,ptr,cap⟩ k) :
 Calls Tryz.prog 11 #[.agg #[.int .i64 op,.int .i64 num,.string name,.slice ptr (len k) cap]] w fun e w'=>e=.returned (.tuple #[.string (Fp.fmT ⟨b,o,⟨op,num,name,ptr,cap⟩,k⟩).1,.int .i64 (Fp.fmT ⟨b,o,⟨op,num,name,ptr,cap⟩,k⟩).2])∧Below w.heap.size w w':=by
 have B0:Hid (Below w.heap.size w (w.alloc (.cells #[.int .i64 op,.int .i64 num,.string name,.slice ptr (len k) cap] 24))):=(Below.refl _ _).alloc (Nat.le_refl _) _
 have V:Hid (Calls Tryz.prog 13 #[.agg #[.int .i64 op,.int .i64 num,.string name,.slice ptr (len k) cap]] (w.alloc (.cells #[.int .i64 op,.int .i64 num,.string name,.slice ptr (len k) cap] 24)) fun e w'=>e=.returned (.int .i64 (valE ⟨op,num,name,ptr,cap⟩ k))∧Below (w.alloc (.cells #[.int .i64 op,.int .i64 num,.string name,.slice ptr (len k) cap] 24)).heap.size (w.alloc (.cells #[.int .i64 op,.int .i64 num,.string name,.slice ptr (len k) cap] 24)) w'):=rvexpr_any b o op num name ptr cap k _ (hx.next B0.out) hok
 have hvr : -9223372036854775808≤valE ⟨op,num,name,ptr,cap⟩ k∧valE ⟨op,num,name,ptr,cap⟩ k≤9223372036854775807:=by rcases Fp.valE_cases ⟨op,num,name,ptr,cap⟩ k with h|h|h<;>rw [h]<;>decide
 by_cases hv:valE ⟨op,num,name,ptr,cap⟩ k=0
 · have hw:=Fp.valE_wf hv
   have hs:sz k≤199:=by
    have h:=hv
    unfold valE at h
    split at h
    · rename_i q
      unfold fitB at q
      have:=of_decide_eq_true q
      omega
    · cases h
   have T:Hid (∀ W,Below w.heap.size w W→Calls Tryz.prog 29 #[.agg #[.int .i64 op,.int .i64 num,.string name,.slice ptr (len k) cap]] W fun e w'=>e=.returned (.string (Fp.tB (Fp.F ⟨b,o,⟨op,num,name,ptr,cap⟩,k⟩)))∧Below W.heap.size W w'):=fun W hb=>rtext_all b o ⟨op,num,name,ptr,cap⟩ k W (ht.next hb) (hx.next hb) hok hw hs
   have hsz:(Fp.tB (Fp.F ⟨b,o,⟨op,num,name,ptr,cap⟩,k⟩)).size≤201000:=tB_sz hw hs
   have SF:=Lib.hid (Fp.scan_F ⟨b,o,⟨op,num,name,ptr,cap⟩,k⟩ hv)
   have V2:Hid (Calls Tryz.prog 13 #[.agg #[.int .i64 op,.int .i64 num,.string name,.slice ptr (len k) cap]] (w.alloc (.cells #[.int .i64 op,.int .i64 num,.string name,.slice ptr (len k) cap] 24)) fun e w'=>e=.returned (.int .i64 0)∧Below (w.alloc (.cells #[.int .i64 op,.int .i64 num,.string name,.slice ptr (len k) cap] 24)).heap.size (w.alloc (.cells #[.int .i64 op,.int .i64 num,.string name,.slice ptr (len k) cap] 24)) w'):=by have:=V.out;rw [hv] at this;exact this
   have FM:Hid (Fp.fmT ⟨b,o,⟨op,num,name,ptr,cap⟩,k⟩=if 400 < (Fp.F ⟨b,o,⟨op,num,name,ptr,cap⟩,k⟩).length then (⟨#[]⟩,10) else (Fp.tB (Fp.F ⟨b,o,⟨op,num,name,ptr,cap⟩,k⟩),0)):=by
    unfold Hid Fp.fmT
    rw [if_neg (by intro q;exact q hv)]
   rw [FM.out]
   clear V hvr hv hw hs ht hx hok FM
   generalize Fp.tB (Fp.F ⟨b,o,⟨op,num,name,ptr,cap⟩,k⟩)=s at *
   by_cases hl:400 < (Fp.F ⟨b,o,⟨op,num,name,ptr,cap⟩,k⟩).length
   · rw [if_pos hl]
     obtain ⟨j,hj⟩:=SF.out.2 hl
     have HJ:=Lib.hid hj
     clear hj hl SF
     go_enter Tryz.func11,Tryz.ntmps11
     go_wp2_with (first
      | (go_at_call 13;refine V2.out.mono ?_;rintro e w1 ⟨rfl,hb⟩;have hc0:w1.cell? ⟨w.heap.size,0,none⟩=some (.int .i64 op):=box_cell hb 0;have hc1:w1.cell? ⟨w.heap.size,1,none⟩=some (.int .i64 num):=box_cell hb 1;have hc2:w1.cell? ⟨w.heap.size,2,none⟩=some (.string name):=box_cell hb 2;have hc3:w1.cell? ⟨w.heap.size,3,none⟩=some (.slice ptr (len k) cap):=box_cell hb 3;have B1:Hid (Below w.heap.size w w1):=B0.out.trans (hb.mono B0.out.size);clear hb)
      | (go_at_call 29;refine (T.out _ B1.out).mono ?_;rintro e w2 ⟨rfl,hb⟩;have B2:Hid (Below w.heap.size w w2):=B1.out.trans (hb.mono B1.out.size);clear hb hc0 hc1 hc2 hc3)
      | (go_at_call 30;refine (rscan_any s _ (by omega)).mono ?_;unfold ScanP;rw [HJ.out];dsimp only;rintro e w3 ⟨v,rfl,-,hb⟩;have B3:Hid (Below w.heap.size w w3):=B2.out.trans (hb.mono B2.out.size);clear hb))
     go_ret2
     exact ⟨rfl,B3.out⟩
   · rw [if_neg hl]
     obtain ⟨E,-,hj⟩:=SF.out.1 (by omega)
     have HJ:=Lib.hid hj
     clear hj hl SF
     go_enter Tryz.func11,Tryz.ntmps11
     go_wp2_with (first
      | (go_at_call 13;refine V2.out.mono ?_;rintro e w1 ⟨rfl,hb⟩;have hc0:w1.cell? ⟨w.heap.size,0,none⟩=some (.int .i64 op):=box_cell hb 0;have hc1:w1.cell? ⟨w.heap.size,1,none⟩=some (.int .i64 num):=box_cell hb 1;have hc2:w1.cell? ⟨w.heap.size,2,none⟩=some (.string name):=box_cell hb 2;have hc3:w1.cell? ⟨w.heap.size,3,none⟩=some (.slice ptr (len k) cap):=box_cell hb 3;have B1:Hid (Below w.heap.size w w1):=B0.out.trans (hb.mono B0.out.size);clear hb)
      | (go_at_call 29;refine (T.out _ B1.out).mono ?_;rintro e w2 ⟨rfl,hb⟩;have B2:Hid (Below w.heap.size w w2):=B1.out.trans (hb.mono B1.out.size);clear hb hc0 hc1 hc2 hc3)
      | (go_at_call 30;refine (rscan_any s _ (by omega)).mono ?_;unfold ScanP;rw [HJ.out];dsimp only;rintro e w3 ⟨v,rfl,-,hb⟩;have B3:Hid (Below w.heap.size w w3):=B2.out.trans (hb.mono B2.out.size);clear hb))
     go_ret2
     exact ⟨rfl,B3.out⟩
 · have FM:Hid (Fp.fmT ⟨b,o,⟨op,num,name,ptr,cap⟩,k⟩=(⟨#[]⟩,valE ⟨op,num,name,ptr,cap⟩ k)):=by
    unfold Hid Fp.fmT
    rw [if_pos hv]
   rw [FM.out]
   clear FM ht hx hok
   generalize valE ⟨op,num,name,ptr,cap⟩ k=c at *
   have hcB:(c != 0)=true:=by simp [hv]
   clear hv
   go_enter Tryz.func11,Tryz.ntmps11
   go_wp2_with (go_at_call 13;refine V.out.mono ?_;rintro e w1 ⟨rfl,hb⟩;have B1:Hid (Below w.heap.size w w1):=B0.out.trans (hb.mono B0.out.size);clear hb)
   go_ret2
   exact ⟨rfl,B1.out⟩
set_option maxHeartbeats 4000000 in
set_option maxRecDepth 100000 in
theorem pfmtx_any (b o:Nat) (op num:Int) (name:ByteArray) (ptr:Option Addr) (cap:Nat) (k:Fo) (w:World) (ht:Tab w) (hx:ExAt w b o ⟨op,num,name,ptr,cap⟩ k) (hok:ExOk ⟨op,num,name,ptr,cap⟩ k) :
 Calls Tryz.prog 10 #[.agg #[.int .i64 op,.int .i64 num,.string name,.slice ptr (len k) cap]] w fun e w'=>e=.returned (.tuple #[.string (Fp.fmT ⟨b,o,⟨op,num,name,ptr,cap⟩,k⟩).1,.int .i64 (Fp.fmT ⟨b,o,⟨op,num,name,ptr,cap⟩,k⟩).2])∧Below w.heap.size w w':=by
 have B0:Hid (Below w.heap.size w (w.alloc (.cells #[.int .i64 op,.int .i64 num,.string name,.slice ptr (len k) cap] 24))):=(Below.refl _ _).alloc (Nat.le_refl _) _
 have V:Hid (Calls Tryz.prog 12 #[.agg #[.int .i64 op,.int .i64 num,.string name,.slice ptr (len k) cap]] (w.alloc (.cells #[.int .i64 op,.int .i64 num,.string name,.slice ptr (len k) cap] 24)) fun e w'=>e=.returned (.int .i64 (valE ⟨op,num,name,ptr,cap⟩ k))∧Below (w.alloc (.cells #[.int .i64 op,.int .i64 num,.string name,.slice ptr (len k) cap] 24)).heap.size (w.alloc (.cells #[.int .i64 op,.int .i64 num,.string name,.slice ptr (len k) cap] 24)) w'):=vexpr_any b o op num name ptr cap k _ (hx.next B0.out) hok
 have hvr : -9223372036854775808≤valE ⟨op,num,name,ptr,cap⟩ k∧valE ⟨op,num,name,ptr,cap⟩ k≤9223372036854775807:=by rcases Fp.valE_cases ⟨op,num,name,ptr,cap⟩ k with h|h|h<;>rw [h]<;>decide
 by_cases hv:valE ⟨op,num,name,ptr,cap⟩ k=0
 · have hw:=Fp.valE_wf hv
   have hs:sz k≤199:=by
    have h:=hv
    unfold valE at h
    split at h
    · rename_i q
      unfold fitB at q
      have:=of_decide_eq_true q
      omega
    · cases h
   have T:Hid (∀ W,Below w.heap.size w W→Calls Tryz.prog 27 #[.agg #[.int .i64 op,.int .i64 num,.string name,.slice ptr (len k) cap]] W fun e w'=>e=.returned (.string (Fp.tB (Fp.F ⟨b,o,⟨op,num,name,ptr,cap⟩,k⟩)))∧Below W.heap.size W w'):=fun W hb=>ptext_all b o ⟨op,num,name,ptr,cap⟩ k W (ht.next hb) (hx.next hb) hok hw hs
   have hsz:(Fp.tB (Fp.F ⟨b,o,⟨op,num,name,ptr,cap⟩,k⟩)).size≤201000:=tB_sz hw hs
   have SF:=Lib.hid (Fp.scan_F ⟨b,o,⟨op,num,name,ptr,cap⟩,k⟩ hv)
   have V2:Hid (Calls Tryz.prog 12 #[.agg #[.int .i64 op,.int .i64 num,.string name,.slice ptr (len k) cap]] (w.alloc (.cells #[.int .i64 op,.int .i64 num,.string name,.slice ptr (len k) cap] 24)) fun e w'=>e=.returned (.int .i64 0)∧Below (w.alloc (.cells #[.int .i64 op,.int .i64 num,.string name,.slice ptr (len k) cap] 24)).heap.size (w.alloc (.cells #[.int .i64 op,.int .i64 num,.string name,.slice ptr (len k) cap] 24)) w'):=by have:=V.out;rw [hv] at this;exact this
   have FM:Hid (Fp.fmT ⟨b,o,⟨op,num,name,ptr,cap⟩,k⟩=if 400 < (Fp.F ⟨b,o,⟨op,num,name,ptr,cap⟩,k⟩).length then (⟨#[]⟩,10) else (Fp.tB (Fp.F ⟨b,o,⟨op,num,name,ptr,cap⟩,k⟩),0)):=by
    unfold Hid Fp.fmT
    rw [if_neg (by intro q;exact q hv)]
   rw [FM.out]
   clear V hvr hv hw hs ht hx hok FM
   generalize Fp.tB (Fp.F ⟨b,o,⟨op,num,name,ptr,cap⟩,k⟩)=s at *
   by_cases hl:400 < (Fp.F ⟨b,o,⟨op,num,name,ptr,cap⟩,k⟩).length
   · rw [if_pos hl]
     obtain ⟨j,hj⟩:=SF.out.2 hl
     have HJ:=Lib.hid hj
     clear hj hl SF
     go_enter Tryz.func10,Tryz.ntmps10
     go_wp2_with (first
      | (go_at_call 12;refine V2.out.mono ?_;rintro e w1 ⟨rfl,hb⟩;have hc0:w1.cell? ⟨w.heap.size,0,none⟩=some (.int .i64 op):=box_cell hb 0;have hc1:w1.cell? ⟨w.heap.size,1,none⟩=some (.int .i64 num):=box_cell hb 1;have hc2:w1.cell? ⟨w.heap.size,2,none⟩=some (.string name):=box_cell hb 2;have hc3:w1.cell? ⟨w.heap.size,3,none⟩=some (.slice ptr (len k) cap):=box_cell hb 3;have B1:Hid (Below w.heap.size w w1):=B0.out.trans (hb.mono B0.out.size);clear hb)
      | (go_at_call 27;refine (T.out _ B1.out).mono ?_;rintro e w2 ⟨rfl,hb⟩;have B2:Hid (Below w.heap.size w w2):=B1.out.trans (hb.mono B1.out.size);clear hb hc0 hc1 hc2 hc3)
      | (go_at_call 28;refine (tscan_any s _ (by omega)).mono ?_;unfold ScanP;rw [HJ.out];dsimp only;rintro e w3 ⟨v,rfl,-,hb⟩;have B3:Hid (Below w.heap.size w w3):=B2.out.trans (hb.mono B2.out.size);clear hb))
     go_ret2
     exact ⟨rfl,B3.out⟩
   · rw [if_neg hl]
     obtain ⟨E,-,hj⟩:=SF.out.1 (by omega)
     have HJ:=Lib.hid hj
     clear hj hl SF
     go_enter Tryz.func10,Tryz.ntmps10
     go_wp2_with (first
      | (go_at_call 12;refine V2.out.mono ?_;rintro e w1 ⟨rfl,hb⟩;have hc0:w1.cell? ⟨w.heap.size,0,none⟩=some (.int .i64 op):=box_cell hb 0;have hc1:w1.cell? ⟨w.heap.size,1,none⟩=some (.int .i64 num):=box_cell hb 1;have hc2:w1.cell? ⟨w.heap.size,2,none⟩=some (.string name):=box_cell hb 2;have hc3:w1.cell? ⟨w.heap.size,3,none⟩=some (.slice ptr (len k) cap):=box_cell hb 3;have B1:Hid (Below w.heap.size w w1):=B0.out.trans (hb.mono B0.out.size);clear hb)
      | (go_at_call 27;refine (T.out _ B1.out).mono ?_;rintro e w2 ⟨rfl,hb⟩;have B2:Hid (Below w.heap.size w w2):=B1.out.trans (hb.mono B1.out.size);clear hb hc0 hc1 hc2 hc3)
      | (go_at_call 28;refine (tscan_any s _ (by omega)).mono ?_;unfold ScanP;rw [HJ.out];dsimp only;rintro e w3 ⟨v,rfl,-,hb⟩;have B3:Hid (Below w.heap.size w w3):=B2.out.trans (hb.mono B2.out.size);clear hb))
     go_ret2
     exact ⟨rfl,B3.out⟩
 · have FM:Hid (Fp.fmT ⟨b,o,⟨op,num,name,ptr,cap⟩,k⟩=(⟨#[]⟩,valE ⟨op,num,name,ptr,cap⟩ k)):=by
    unfold Hid Fp.fmT
    rw [if_pos hv]
   rw [FM.out]
   clear FM ht hx hok
   generalize valE ⟨op,num,name,ptr,cap⟩ k=c at *
   have hcB:(c != 0)=true:=by simp [hv]
   clear hv
   go_enter Tryz.func10,Tryz.ntmps10
   go_wp2_with (go_at_call 12;refine V.out.mono ?_;rintro e w1 ⟨rfl,hb⟩;have B1:Hid (Below w.heap.size w w1):=B0.out.trans (hb.mono B0.out.size);clear hb)
   go_ret2
   exact ⟨rfl,B1.out⟩
end Go.Proofs.YtcejjdmnlejbaaaGreatDoor
