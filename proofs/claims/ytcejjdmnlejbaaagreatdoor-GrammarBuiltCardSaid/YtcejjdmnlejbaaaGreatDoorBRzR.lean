import Derived.Test.YtcejjdmnlejbaaaGreatDoorBFpr
import Derived.Test.YtcejjdmnlejbaaaGreatDoorBFpx
import Derived.Test.YtcejjdmnlejbaaaGreatDoorBTkS
import Derived.Test.YtcejjdmnlejbaaaGreatDoorBGb
import Derived.Test.YtcejjdmnlejbaaaGreatDoorBGa
import Derived.Test.YtcejjdmnlejbaaaGreatDoorBPzS
import Derived.Test.YtcejjdmnlejbaaaGreatDoorBPzR
namespace Go.Proofs.YtcejjdmnlejbaaaGreatDoor
set_option linter.unusedVariables false
set_option linter.unusedSimpArgs false
open Go.ChangeShapes Go.WideShapes Go.ChangeAt Go.RowKit
open Go.Deep (BT)
set_option maxHeartbeats 4000000 in
set_option maxRecDepth 100000 in
theorem pfmtx_any (b o:Nat) (op num:Int) (name:ByteArray) (ptr:Option Addr) (cap:Nat) (k:Fo) (w:World) (ht:Tab w) (hx:ExAt w b o ⟨op,num,name,ptr,cap⟩ k) (hok:ExOk ⟨op,num,name,ptr,cap⟩ k) :
 Calls Tryz.prog 10 #[.agg #[.int .i64 op,.int .i64 num,.string name,.slice ptr (len k) cap]] w fun e w'=>e=.returned (.tuple #[.string (Fp.fmT ⟨b,o,⟨op,num,name,ptr,cap⟩,k⟩).1,.int .i64 (Fp.fmT ⟨b,o,⟨op,num,name,ptr,cap⟩,k⟩).2])∧Below w.heap.size w w':=by
 have B0:Hid (Below w.heap.size w (w.alloc (.cells #[.int .i64 op,.int .i64 num,.string name,.slice ptr (len k) cap] 24))):=(Below.refl _ _).alloc (Nat.le_refl _) _
 have V:Hid (Calls Tryz.prog 12 #[.agg #[.int .i64 op,.int .i64 num,.string name,.slice ptr (len k) cap]] (w.alloc (.cells #[.int .i64 op,.int .i64 num,.string name,.slice ptr (len k) cap] 24)) fun e w'=>e=.returned (.int .i64 (valE ⟨op,num,name,ptr,cap⟩ k))∧Below (w.alloc (.cells #[.int .i64 op,.int .i64 num,.string name,.slice ptr (len k) cap] 24)).heap.size (w.alloc (.cells #[.int .i64 op,.int .i64 num,.string name,.slice ptr (len k) cap] 24)) w'):=vexpr_any b o op num name ptr cap k _ (hx.next B0.out) hok
 have hvr : -9223372036854775808≤valE ⟨op,num,name,ptr,cap⟩ k∧valE ⟨op,num,name,ptr,cap⟩ k≤9223372036854775807:=by rcases Fp.valE_cases ⟨op,num,name,ptr,cap⟩ k with h|h|h<;>rw [h]<;>decide
 by_cases hv:valE ⟨op,num,name,ptr,cap⟩ k=0
 · have hw:=Fp.valE_wf hv
   have hs:sz k≤199:=by
    have h:=hv
    unfold valE at h
    split at h
    · rename_i q
      unfold fitB at q
      have:=of_decide_eq_true q
      omega
    · cases h
   have T:Hid (∀ W,Below w.heap.size w W→Calls Tryz.prog 27 #[.agg #[.int .i64 op,.int .i64 num,.string name,.slice ptr (len k) cap]] W fun e w'=>e=.returned (.string (Fp.tB (Fp.F ⟨b,o,⟨op,num,name,ptr,cap⟩,k⟩)))∧Below W.heap.size W w'):=fun W hb=>ptext_all b o ⟨op,num,name,ptr,cap⟩ k W (ht.next hb) (hx.next hb) hok hw hs
   have hsz:(Fp.tB (Fp.F ⟨b,o,⟨op,num,name,ptr,cap⟩,k⟩)).size≤201000:=tB_sz hw hs
   have SF:=Lib.hid (Fp.scan_F ⟨b,o,⟨op,num,name,ptr,cap⟩,k⟩ hv)
   have V2:Hid (Calls Tryz.prog 12 #[.agg #[.int .i64 op,.int .i64 num,.string name,.slice ptr (len k) cap]] (w.alloc (.cells #[.int .i64 op,.int .i64 num,.string name,.slice ptr (len k) cap] 24)) fun e w'=>e=.returned (.int .i64 0)∧Below (w.alloc (.cells #[.int .i64 op,.int .i64 num,.string name,.slice ptr (len k) cap] 24)).heap.size (w.alloc (.cells #[.int .i64 op,.int .i64 num,.string name,.slice ptr (len k) cap] 24)) w'):=by have:=V.out;rw [hv] at this;exact this
   have FM:Hid (Fp.fmT ⟨b,o,⟨op,num,name,ptr,cap⟩,k⟩=if 400 < (Fp.F ⟨b,o,⟨op,num,name,ptr,cap⟩,k⟩).length then (⟨#[]⟩,10) else (Fp.tB (Fp.F ⟨b,o,⟨op,num,name,ptr,cap⟩,k⟩),0)):=by
    unfold Hid Fp.fmT
    rw [if_neg (by intro q;exact q hv)]
   rw [FM.out]
   clear V hvr hv hw hs ht hx hok FM
   generalize Fp.tB (Fp.F ⟨b,o,⟨op,num,name,ptr,cap⟩,k⟩)=s at *
   by_cases hl:400 < (Fp.F ⟨b,o,⟨op,num,name,ptr,cap⟩,k⟩).length
   · rw [if_pos hl]
     obtain ⟨j,hj⟩:=SF.out.2 hl
     have HJ:=Lib.hid hj
     clear hj hl SF
     go_enter Tryz.func10,Tryz.ntmps10
     go_wp2_with (first
      | (go_at_call 12;refine V2.out.mono ?_;rintro e w1 ⟨rfl,hb⟩;have hc0:w1.cell? ⟨w.heap.size,0,none⟩=some (.int .i64 op):=box_cell hb 0;have hc1:w1.cell? ⟨w.heap.size,1,none⟩=some (.int .i64 num):=box_cell hb 1;have hc2:w1.cell? ⟨w.heap.size,2,none⟩=some (.string name):=box_cell hb 2;have hc3:w1.cell? ⟨w.heap.size,3,none⟩=some (.slice ptr (len k) cap):=box_cell hb 3;have B1:Hid (Below w.heap.size w w1):=B0.out.trans (hb.mono B0.out.size);clear hb)
      | (go_at_call 27;refine (T.out _ B1.out).mono ?_;rintro e w2 ⟨rfl,hb⟩;have B2:Hid (Below w.heap.size w w2):=B1.out.trans (hb.mono B1.out.size);clear hb hc0 hc1 hc2 hc3)
      | (go_at_call 28;refine (tscan_any s _ (by omega)).mono ?_;unfold ScanP;rw [HJ.out];dsimp only;rintro e w3 ⟨v,rfl,-,hb⟩;have B3:Hid (Below w.heap.size w w3):=B2.out.trans (hb.mono B2.out.size);clear hb))
     go_ret2
     exact ⟨rfl,B3.out⟩
   · rw [if_neg hl]
     obtain ⟨E,-,hj⟩:=SF.out.1 (by omega)
     have HJ:=Lib.hid hj
     clear hj hl SF
     go_enter Tryz.func10,Tryz.ntmps10
     go_wp2_with (first
      | (go_at_call 12;refine V2.out.mono ?_;rintro e w1 ⟨rfl,hb⟩;have hc0:w1.cell? ⟨w.heap.size,0,none⟩=some (.int .i64 op):=box_cell hb 0;have hc1:w1.cell? ⟨w.heap.size,1,none⟩=some (.int .i64 num):=box_cell hb 1;have hc2:w1.cell? ⟨w.heap.size,2,none⟩=some (.string name):=box_cell hb 2;have hc3:w1.cell? ⟨w.heap.size,3,none⟩=some (.slice ptr (len k) cap):=box_cell hb 3;have B1:Hid (Below w.heap.size w w1):=B0.out.trans (hb.mono B0.out.size);clear hb)
      | (go_at_call 27;refine (T.out _ B1.out).mono ?_;rintro e w2 ⟨rfl,hb⟩;have B2:Hid (Below w.heap.size w w2):=B1.out.trans (hb.mono B1.out.size);clear hb hc0 hc1 hc2 hc3)
      | (go_at_call 28;refine (tscan_any s _ (by omega)).mono ?_;unfold ScanP;rw [HJ.out];dsimp only;rintro e w3 ⟨v,rfl,-,hb⟩;have B3:Hid (Below w.heap.size w w3):=B2.out.trans (hb.mono B2.out.size);clear hb))
     go_ret2
     exact ⟨rfl,B3.out⟩
 · have FM:Hid (Fp.fmT ⟨b,o,⟨op,num,name,ptr,cap⟩,k⟩=(⟨#[]⟩,valE ⟨op,num,name,ptr,cap⟩ k)):=by
    unfold Hid Fp.fmT
    rw [if_pos hv]
   rw [FM.out]
   clear FM ht hx hok
   generalize valE ⟨op,num,name,ptr,cap⟩ k=c at *
   have hcB:(c != 0)=true:=by simp [hv]
   clear hv
   go_enter Tryz.func10,Tryz.ntmps10
   go_wp2_with (go_at_call 12;refine V.out.mono ?_;rintro e w1 ⟨rfl,hb⟩;have B1:Hid (Below w.heap.size w w1):=B0.out.trans (hb.mono B0.out.size);clear hb)
   go_ret2
   exact ⟨rfl,B1.out⟩
end Go.Proofs.YtcejjdmnlejbaaaGreatDoor
namespace Go.Proofs.YtcejjdmnlejbaaaGreatDoor
set_option linter.unusedVariables false
set_option linter.unusedSimpArgs false
open Go.ChangeShapes Go.WideShapes Go.ChangeAt Go.RowKit
open Go.Deep (BT)
structure RSt (w:World) (sb:Nat) (L:List Tk.T4) (p:Option Addr) (cap:Nat) (a b:Int):Prop where
 c0:w.cell? ⟨sb,0,none⟩=some (.slice p L.length cap)
 c1:w.cell? ⟨sb,1,none⟩=some (.int .i64 a)
 c2:w.cell? ⟨sb,2,none⟩=some (.int .i64 b)
 f1:w.frozen? ⟨sb,1,none⟩=false
 f2:w.frozen? ⟨sb,2,none⟩=false
 lt:sb < w.heap.size
 ls:TkB w L p sb
theorem RSt.below {w w':World} {sb:Nat} {L:List Tk.T4} {p:Option Addr} {cap B0:Nat} {a b:Int} (h:RSt w sb L p cap a b) (hb:Below B0 w w') (hs:sb < B0):RSt w' sb L p cap a b where
 c0:=by rw [hb.cell (p:=⟨sb,0,none⟩) hs];exact h.c0
 c1:=by rw [hb.cell (p:=⟨sb,1,none⟩) hs];exact h.c1
 c2:=by rw [hb.cell (p:=⟨sb,2,none⟩) hs];exact h.c2
 f1:=by rw [hb.frozen (p:=⟨sb,1,none⟩) hs];exact h.f1
 f2:=by rw [hb.frozen (p:=⟨sb,2,none⟩) hs];exact h.f2
 lt:=Nat.lt_of_lt_of_le h.lt hb.size
 ls:=h.ls.below hb (Nat.le_of_lt hs)
theorem RSt.next {w w':World} {sb:Nat} {L:List Tk.T4} {p:Option Addr} {cap:Nat} {a b:Int} (h:RSt w sb L p cap a b) (hb:Below w.heap.size w w'):RSt w' sb L p cap a b:=h.below hb h.lt
def RGd (sb:Nat) (L:List Tk.T4) (p:Option Addr) (cap i:Nat) (w:World):Prop:=RSt w sb L p cap i (-1)∧i≤L.length
def RBd (sb:Nat) (L:List Tk.T4) (p:Option Addr) (cap j:Nat) (w:World):Prop:=∃ a:Int,RSt w sb L p cap a j
def RSO (sb:Nat) (L:List Tk.T4) (p:Option Addr) (cap:Nat) (o:Option Ch) (j:Nat):World→Prop:=match o with
 | some _=>RGd sb L p cap j
 | none=>RBd sb L p cap j
def RFin (w:World) (sb:Nat) (gv:List Ch) (L:List Tk.T4) (p:Option Addr) (cap:Nat) (r:Pz.R) (e:Ending) (w':World):Prop :=
 ∃ c:Ch,e=.returned (.agg #[.int .i64 c.a.op,.int .i64 c.a.num,.string c.a.name,.slice c.a.ptr (len c.k) c.a.cap])∧Pz.Fin w sb gv (RSO sb L p cap r.1 r.2) r.1 c w'
def RC (f:FuncId) (L:List Tk.T4) (nt:Pz.NT) (i:Nat):Prop:=∀ (sb:Nat) (p:Option Addr) (cap:Nat) (w:World),RGd sb L p cap i w →
 Calls Tryz.prog f #[.pointer (some ⟨sb,0,none⟩)] w (RFin w sb [] L p cap (Pz.pv L nt i))
namespace Pz
end Pz
end Go.Proofs.YtcejjdmnlejbaaaGreatDoor
namespace Go.Proofs.YtcejjdmnlejbaaaGreatDoor
set_option linter.unusedVariables false
set_option linter.unusedSimpArgs false
open Go.ChangeShapes Go.WideShapes Go.ChangeAt Go.RowKit
open Go.Deep (BT)
namespace Pz
variable {w W W':World} {sb:Nat} {St:World→Prop} {gv:List Ch} {bs:List (Nat × Ch)} {ts:List Ch} {t:TypeId} {p:Option Addr} {cap n:Nat} {xs:List Value}
end Pz
def RX (L:List Tk.T4) (op:Int) (i:Nat):Prop:=∀ (sb:Nat) (p:Option Addr) (cap:Nat) (w:World),RGd sb L p cap i w →
 Calls Tryz.prog 212 #[.pointer (some ⟨sb,0,none⟩)] w (RFin w sb [] L p cap (Pz.pv L (.li op) (i+1)))
end Go.Proofs.YtcejjdmnlejbaaaGreatDoor
