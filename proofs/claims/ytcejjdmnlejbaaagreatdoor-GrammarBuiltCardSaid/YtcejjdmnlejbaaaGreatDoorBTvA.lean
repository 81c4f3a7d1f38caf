import Derived.Test.YtcejjdmnlejbaaaGreatDoorBTvV
namespace Go.Proofs.YtcejjdmnlejbaaaGreatDoor
set_option linter.unusedVariables false
set_option linter.unusedSimpArgs false
open Go.ChangeShapes Go.WideShapes Go.ChangeAt Go.RowKit
def TkOk (D:List Tk.T4):Prop:=∀ t ∈ D,(-9223372036854775808≤t.t.num∧t.t.num≤9223372036854775807)∧t.t.text.size≤9223372036854775807
def VE (D:List Tk.T4) (c:Int):Prop:=(400 < D.length∧c=10)∨(¬ 400 < D.length∧(∀ t ∈ D,VT t.t)∧c=0)∨(¬ 400 < D.length∧¬ (∀ t ∈ D,VT t.t)∧c=1)
theorem VE.zero {D:List Tk.T4} {c:Int} (h:VE D c):c=0↔¬ 400 < D.length∧∀ t ∈ D,VT t.t:=by
 rcases h with ⟨h1,rfl⟩|⟨h1,h2,rfl⟩|⟨h1,h2,rfl⟩
 · exact ⟨(fun q=>by cases q),fun q=>absurd h1 q.1⟩
 · exact ⟨fun _=>⟨h1,h2⟩,fun _=>rfl⟩
 · exact ⟨(fun q=>by cases q),fun q=>absurd q.2 h2⟩
theorem take_vt {D:List Tk.T4} {j:Nat} {t:Tk.T4} (h:∀ t ∈ D.take j,VT t.t) (ht:D[j]?=some t) (hv:VT t.t):∀ t ∈ D.take (j+1),VT t.t:=by
 intro u hu
 rw [List.take_add_one,ht] at hu
 rcases List.mem_append.1 hu with hu|hu
 · exact h u hu
 · rw [List.mem_singleton.1 hu];exact hv
set_option maxHeartbeats 2000000 in
set_option maxRecDepth 100000 in
theorem tvalidate_any (D:List Tk.T4) (p:Option Addr) (cap:Nat) (w:World) (hD:TkAt w D (.slice p D.length cap)) (hok:TkOk D) (ht:Tab w) :
 Calls Tryz.prog 136 #[.slice p D.length cap] w fun e w'=>(∃ c:Int,e=.returned (.int .i64 c)∧VE D c)∧Below w.heap.size w w':=by
 have HD:=Lib.hid hD
 have HO:=Lib.hid hok
 have HT:=Lib.hid ht
 obtain ⟨-,-,-,-,hsm,-⟩:=hD
 clear hok ht
 by_cases h4:400 < D.length
 · have h4':(400:Int) < (D.length:Int):=by omega
   have R:Hid (VE D 10):=.inl ⟨h4,rfl⟩
   go_enter Tryz.func136,Tryz.ntmps136
   go_wp2
   go_ret
   exact ⟨⟨10,rfl,R.out⟩,Below.refl _ _⟩
 · have h4':¬ (400:Int) < (D.length:Int):=by omega
   go_enter Tryz.func136,Tryz.ntmps136
   go_wp2_with fail
   go_loopw [4,10] (fun _ i wr=>∃ j:Nat,i=.int .i64 j∧j≤D.length∧Hid (Below w.heap.size w wr∧∀ t ∈ D.take j,VT t.t)) (fun _ i _=>D.length - (intOf i).toNat)
   case atStart=>exact ⟨0,rfl,Nat.zero_le _,Below.refl _ _,fun t ht=>by simp at ht⟩
   case round =>
    obtain ⟨j,rfl,hj,HR⟩:=hrel
    by_cases hlt:j < D.length
    · have hj':(j:Int) < (D.length:Int):=by omega
      have hj0:(0:Int)≤(j:Int):=by omega
      obtain ⟨t,htD⟩:∃ t,D[j]?=some t:=⟨_,List.getElem?_eq_getElem hlt⟩
      obtain ⟨g,O,rfl,c0,c1,c2,c3⟩:=(HD.out.next HR.out.1).get htD
      have TD:=Lib.hid htD
      have TM:=Lib.hid (HO.out t (List.mem_of_getElem? htD))
      have B1:Hid (Below w.heap.size w (wr.alloc (.cells #[.int .i64 t.t.kind,.string t.t.text,.int .i64 t.t.num,.int .i64 t.at'] 68))):=HR.out.1.alloc HR.out.1.size _
      have T1:=Lib.hid (HT.out.next B1.out)
      clear htD
      go_wp2_with fail
      refine (tvalid_any t.t.kind t.t.text t.t.num t.at' _ T1.out TM.out.2).mono ?_
      rintro e w2 ⟨⟨b,rfl,hb⟩,hbel⟩
      have B2:=Lib.hid (B1.out.trans (hbel.mono B1.out.size))
      have HB:=Lib.hid hb
      clear hb hbel c0 c1 c2 c3
      cases b with
      | true =>
        have HN:=Lib.hid (take_vt HR.out.2 TD.out (HB.out.1 rfl))
        go_wp2
        go_roundw
        case rel=>exact ⟨j+1,by go_num,by omega,B2.out,HN.out⟩
        case measure=>simp [intOf];omega
      | false =>
        have R:Hid (VE D 1):=.inr (.inr ⟨h4,(fun q=>by have:=HB.out.2 (q t (List.mem_of_getElem? TD.out));cases this),rfl⟩)
        go_wp2
        go_ret
        exact ⟨⟨1,rfl,R.out⟩,B2.out⟩
    · have hj':¬ (j:Int) < (D.length:Int):=by omega
      have R:Hid (VE D 0):=.inr (.inl ⟨h4,by have:=HR.out.2;rw [List.take_of_length_le (by omega)] at this;exact this,rfl⟩)
      go_wp2
      go_ret
      exact ⟨⟨0,rfl,R.out⟩,HR.out.1⟩
end Go.Proofs.YtcejjdmnlejbaaaGreatDoor
