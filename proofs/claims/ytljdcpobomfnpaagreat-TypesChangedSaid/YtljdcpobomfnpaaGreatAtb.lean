import Derived.Test.YtljdcpobomfnpaaGreatGa
import Derived.Laws.BitsLemmas
import Derived.ChangeArms
import Derived.Deep.Slices
import Derived.SizedLaws
import Derived.OpenShut
import Derived.WalkArith
import Derived.ChangeOld
import Derived.Lib.SmallJoins
namespace Go.Proofs.YtljdcpobomfnpaaGreat
set_option linter.unusedVariables false
set_option linter.unusedSimpArgs false
open Go.ChangeShapes Go.WideShapes Go.ChangeAt Go.RowKit
def IntsLA (w:World) (v:Value) (n s:Nat):Prop:=∃ (p:Option Addr) (cap:Nat),v=.slice p n cap∧n≤9223372036854775807∧∀ i,i < n→∃ (B O:Nat) (x:Int),p=some ⟨B,O,none⟩∧B < s∧w.cell? ⟨B,O+i,none⟩=some (.int .i64 x)
theorem IntsLA.below {w w':World} {v:Value} {n s B0:Nat} (h:IntsLA w v n s) (hb:Below B0 w w') (hs:s≤B0):IntsLA w' v n s:=by
 obtain ⟨p,cap,h1,h2,h3⟩:=h
 refine ⟨p,cap,h1,h2,fun i hi=>?_⟩
 obtain ⟨B,O,x,q1,q2,q3⟩:=h3 i hi
 exact ⟨B,O,x,q1,q2,by rw [hb.cell (p:=⟨B,O+i,none⟩) (Nat.lt_of_lt_of_le q2 hs)];exact q3⟩
theorem and_ffffA (n:Int):bits .and .i64 n 65535=n % 65536:=by
 have h127:(BitVec.ofInt 64 65535).toNat=2 ^ 16 - 1:=by decide
 have key:(BitVec.ofInt 64 n &&& BitVec.ofInt 64 65535).toNat=(n % ((2 ^ 64:Nat):Int)).toNat % 2 ^ 16:=by
  rw [BitVec.toNat_and,BitVec.toNat_ofInt,h127,Nat.and_two_pow_sub_one_eq_mod]
 show IntKind.i64.wrap ((BitVec.ofInt 64 n &&& BitVec.ofInt 64 65535).toNat:Nat)=n % 65536
 rw [key,IntKind.wrap_i64]
 omega
set_option maxHeartbeats 2000000 in
set_option maxRecDepth 100000 in
theorem at_anyA (v:Value) (n s t:Nat) (T:Int) (w:World) (h:IntsLA w v n s) (ht:t≤1099511627776) (hT:T=t) :
 Calls Tryz.prog 26 #[v,.int .i64 T] w fun e w'=>(∃ m:Nat,e=.returned (.int .i64 m))∧Below w.heap.size w w':=by
 obtain ⟨p,cap,rfl,hn,hl⟩:=h
 go_enter Tryz.func26,Tryz.ntmps26
 by_cases h0:n=0
 · subst h0
   obtain ⟨y,hy⟩:∃ y:Nat,bits BinOp.and IntKind.i64 T 65535=(y:Int):=⟨t % 65536,by rw [and_ffffA];omega⟩
   clear hT
   go_wp2
   go_ret
   exact ⟨⟨y,rfl⟩,Below.refl _ _⟩
 · obtain ⟨B,O,x,rfl,hB,hc⟩:=hl (t % n) (Nat.mod_lt _ (by omega))
   have q1:T.tmod (n:Int)=((t % n:Nat):Int):=by rw [hT,Int.tmod_eq_emod_of_nonneg (by omega)];rfl
   have q2:T.tdiv (n:Int)=((t / n:Nat):Int):=by rw [hT,Int.tdiv_eq_ediv_of_nonneg (by omega)];rfl
   obtain ⟨y,hy⟩:∃ y:Nat,bits BinOp.and IntKind.i64 x 65535=(y:Int)∧y≤65535:=⟨(x % 65536).toNat,by rw [and_ffffA];omega,by omega⟩
   obtain ⟨hy,hy1⟩:=hy
   have hz:t / n≤t:=Nat.div_le_self _ _
   have hi:t % n < n:=Nat.mod_lt _ (by omega)
   generalize t % n=i at *
   generalize t / n=z at *
   have hi1:(i:Int) < (n:Int):=by omega
   have hi0:(0:Int)≤(i:Int):=by omega
   have n0:¬ (n:Int)=0:=by omega
   have b0:((n:Int)==0)=false:=by simp [h0]
   clear hl hT
   go_upto_region 3 with (fail)
   go_region
   go_wp2
   go_ret
   exact ⟨⟨y+z,by go_num⟩,(Below.refl _ _).drew⟩
end Go.Proofs.YtljdcpobomfnpaaGreat
