import Derived.Test.YtcejjdmnlejbaaaGreatDoorBGh
import Derived.Test.YtcejjdmnlejbaaaGreatDoorBGe
import Derived.Test.YtcejjdmnlejbaaaGreatDoorBGf
import Derived.Deep.LoopGhost
import Derived.Test.YtcejjdmnlejbaaaGreatDoorBGa
import Derived.Test.YtcejjdmnlejbaaaGreatDoorShelf
import Derived.OwnWalk
import Derived.Test.YtcejjdmnlejbaaaGreatDoorBTxtMath
import Derived.Test.YtcejjdmnlejbaaaGreatDoorBGb
import Derived.Deep.AppendLies
import Derived.Deep.RegionLaw
import Derived.Test.YtcejjdmnlejbaaaGreatDoorBBex0
import Derived.ChangeSlices
namespace Go.Proofs.YtcejjdmnlejbaaaGreatDoor
section
set_option linter.unusedVariables false
set_option linter.unusedSimpArgs false
open Go.RowKit
open Go.Deep (BT)
theorem at0 (s:ByteArray):atE 0 s=6:=rfl
end
section
set_option linter.unusedVariables false
set_option linter.unusedSimpArgs false
open Go.RowKit
open Go.Deep (BT)
end
end Go.Proofs.YtcejjdmnlejbaaaGreatDoor
namespace Go.Proofs.YtcejjdmnlejbaaaGreatDoor
section
set_option linter.unusedVariables false
set_option linter.unusedSimpArgs false
open Go.ChangeShapes Go.WideShapes Go.ChangeAt Go.RowKit
open Go.Deep (BT)
theorem bexpr_four:ExprQ 4 5120:=bexpr_of 3 1280 (by omega) (by omega) (by omega) (bexpr_of 2 320 (by omega) (by omega) (by omega) (bexpr_of 1 80 (by omega) (by omega) (by omega) bexpr_one))
def XPost (w:World) (sc kind:Int) (e:Ending) (w':World):Prop:=∃ c:Ch,e=.returned (.agg #[.int .i64 c.a.op,.int .i64 c.a.num,.string c.a.name,.slice c.a.ptr (len c.k) c.a.cap])∧Plain sc kind 4 c.a c.k∧ExAt w' c.b c.o c.a c.k∧Below w.heap.size w w'
set_option maxHeartbeats 4000000 in
set_option maxRecDepth 100000 in
theorem bExpr_any (v:Value) (n:Nat) (sc kind:Int) (w:World) (h:IntsL w v n w.heap.size) (hs:sc=0∨sc=1∨sc=2∨sc=3) (hk:kind=1∨kind=2∨kind=3∨kind=4) :
 Calls Tryz.prog 16 #[v,.int .i64 sc,.int .i64 kind] w (XPost w sc kind):=by
 have H:=Lib.hid h
 have HS:=Lib.hid hs
 have HK:=Lib.hid hk
 obtain ⟨p,cap,rfl,hn,-⟩:=h
 clear hs hk
 go_enter Tryz.func16,Tryz.ntmps16
 go_wp2_with fail
 have B0:Hid (Below w.heap.size w ((w.alloc (.cells #[.int .i64 0,.int .i64 0,.string ⟨#[]⟩,.slice none 0 0] 24)).alloc (.cells #[.slice p n cap,.int .i64 0] 71))):=((Below.refl _ _).alloc (Nat.le_refl _) _).alloc (by simp) _
 have R0:Hid (RB ((w.alloc (.cells #[.int .i64 0,.int .i64 0,.string ⟨#[]⟩,.slice none 0 0] 24)).alloc (.cells #[.slice p n cap,.int .i64 0] 71)) w.heap.size):=by
  refine RB.next (w:=w.alloc (.cells #[.int .i64 0,.int .i64 0,.string ⟨#[]⟩,.slice none 0 0] 24)) ⟨⟨_,by simp [go_sem];rfl⟩,⟨_,by simp [go_sem];rfl⟩,⟨_,by simp [go_sem];rfl⟩,⟨_,by simp [go_sem];rfl⟩,by simp [go_sem],by simp [go_sem],by simp [go_sem],by simp [go_sem],by simp⟩ ((Below.refl _ _).alloc (Nat.le_refl _) _)
 have S0:Hid (Src ((w.alloc (.cells #[.int .i64 0,.int .i64 0,.string ⟨#[]⟩,.slice none 0 0] 24)).alloc (.cells #[.slice p n cap,.int .i64 0] 71)) (w.heap.size+1) (.slice p n cap) n 0):=by
  refine ⟨by simp [go_sem],by simp [go_sem],by simp [go_sem],by simp,?_⟩
  obtain ⟨p',cap',h1,h2,h3⟩:=H.out
  refine ⟨p',cap',h1,h2,fun i hi=>?_⟩
  obtain ⟨B,O,x,q1,q2,q3⟩:=h3 i hi
  exact ⟨B,O,x,q1,Nat.lt_succ_of_lt q2,by rw [B0.out.cell (p:=⟨B,O+i,none⟩) q2];exact q3⟩
 have Z0:Hid (((w.alloc (.cells #[.int .i64 0,.int .i64 0,.string ⟨#[]⟩,.slice none 0 0] 24)).alloc (.cells #[.slice p n cap,.int .i64 0] 71)).heap.size=w.heap.size+2):=by unfold Hid;simp
 generalize (w.alloc (.cells #[.int .i64 0,.int .i64 0,.string ⟨#[]⟩,.slice none 0 0] 24)).alloc (.cells #[.slice p n cap,.int .i64 0] 71)=w1 at *
 refine (bexpr_four (w.heap.size+1) (.slice p n cap) n 0 sc kind 4 w1 S0.out (by omega) HS.out HK.out rfl).mono ?_
 rintro e wx ⟨c,rfl,hp,hc,⟨⟨t9,h91,h92,hS⟩,hg⟩⟩
 have RX:Hid (RB wx w.heap.size):=R0.out.grown hg (by simp)
 have CX:Hid (ChAt wx (w.heap.size+1) c):=hc.mono (by rw [Z0.out];omega)
 have BX:Hid (Below w.heap.size w wx):=B0.out.grown hg (by rw [Z0.out];omega) (fun m hm=>by cases hm;omega)
 have PX:=Lib.hid hp
 clear hS hg hc hp
 obtain ⟨⟨u0,q0⟩,⟨u1,q1⟩,⟨u2,q2⟩,⟨u3,q3⟩,f0,f1,f2,f3,rlt⟩:=RX.out
 go_wp2
 refine bodyPost_ret (v:=.agg #[.int .i64 c.a.op,.int .i64 c.a.num,.string c.a.name,.slice c.a.ptr (len c.k) c.a.cap]) ?_ rfl ⟨c,rfl,PX.out,(ch_four CX.out).1,BX.out.trans below_four⟩
 rw [results_cell1 rfl]
 go_simp
theorem and_3 (n:Int):bits .and .i64 n 3=n % 4:=by
 have h127:(BitVec.ofInt 64 3).toNat=2 ^ 2 - 1:=by decide
 have key:(BitVec.ofInt 64 n &&& BitVec.ofInt 64 3).toNat=(n % ((2 ^ 64:Nat):Int)).toNat % 2 ^ 2:=by
  rw [BitVec.toNat_and,BitVec.toNat_ofInt,h127,Nat.and_two_pow_sub_one_eq_mod]
 show IntKind.i64.wrap ((BitVec.ofInt 64 n &&& BitVec.ofInt 64 3).toNat:Nat)=n % 4
 rw [key,IntKind.wrap_i64]
 omega
set_option maxRecDepth 100000 in
theorem open_intsl {H:Type} {enc:TypeId × Value→H} {w:World} {base:Nat} {spare:Nat→Bool} {held:Bool} {v:Value} {d:DataW H} {p:List MemPlace} {r:Reach} {b0:Nat}
 (hv:Value.okWide Tryz.prog w r b0 34 v) (h:DataW.Trod enc Tryz.prog w base spare held 34 v d p):∃ n,IntsL w v n w.heap.size:=by
 obtain ⟨a,n,cap,rfl⟩:=okWide_slice Tryz.underlying34 hv
 obtain ⟨fuel,hf⟩:=h
 rcases open_ints Tryz.underlying34 Tryz.underlying3 Tryz.cellsI hf with ⟨he,-⟩|⟨a',n',cap',zs,he,-,hl,hm,hz,-,hc,-⟩
 · have he':[Value.slice a n cap]=[Value.slice none 0 0]:=he
   simp only [List.cons.injEq,and_true] at he'
   exact ⟨0,none,0,he',Nat.zero_le _,fun i hi=>absurd hi (Nat.not_lt_zero _)⟩
 · have he':[Value.slice a n cap]=[Value.slice (some a') n' cap']:=he
   simp only [List.cons.injEq,and_true] at he'
   have hzn:n'≤zs.length:=by rw [hz];split<;>omega
   refine ⟨n',some a',cap',he',Nat.le_trans hl hm,fun i hi=>?_⟩
   have q:=hc i (by omega)
   have q0:=hc 0 (by omega)
   have hs:a'.spot=none:=spot_none (by simpa [Addr.add] using q0)
   rw [addr_add0 _ _ hs] at q
   obtain ⟨B,O,sp⟩:=a'
   dsimp only at hs q
   subst hs
   exact ⟨B,O,_,rfl,block_lt_of_cell q,q⟩
end
section
set_option linter.unusedVariables false
set_option linter.unusedSimpArgs false
open Go.ChangeShapes Go.WideShapes Go.ChangeAt Go.RowKit
open Go.Deep (BT)
end
section
set_option linter.unusedVariables false
set_option linter.unusedSimpArgs false
open Go.RowKit
open Go.Deep (BT)
end
end Go.Proofs.YtcejjdmnlejbaaaGreatDoor
