import Derived.Laws.BitsLemmas
import Derived.ChangeArms
import Derived.Deep.Slices
import Derived.SizedLaws
import Derived.WalkArith
import Derived.ChangeOld
import Derived.Lib.SmallJoins
import Derived.Test.YtcejjdmnlejbaaaGreatDoorVGa
namespace Go.Proofs.YtcejjdmnlejbaaaGreatDoor
set_option linter.unusedVariables false
set_option linter.unusedSimpArgs false
open Go.ChangeShapes Go.WideShapes Go.ChangeAt Go.RowKit
set_option maxHeartbeats 2000000
set_option maxRecDepth 100000
def IntsLA(w:World)(v:Value)(n s:Nat):Prop:=∃(p:Option Addr)(cap:Nat),v=.slice p n cap∧n≤9223372036854775807∧∀i,i < n→∃(B O:Nat)(x:Int),p=some ⟨B,O,none⟩∧B < s∧w.cell? ⟨B,O+i,none⟩=some (.int .i64 x)
theorem IntsLA.below{w w':World}{v:Value}{n s B0:Nat}(h:IntsLA w v n s)(hb:Below B0 w w')(hs:s≤B0):IntsLA w' v n s:=by
 obtain⟨p,cap,h1,h2,h3⟩:=h;refine⟨p,cap,h1,h2,fun i hi=>?_⟩;obtain⟨B,O,x,q1,q2,q3⟩:=h3 i hi;exact⟨B,O,x,q1,q2,by rw[hb.cell (p:=⟨B,O+i,none⟩) (Nat.lt_of_lt_of_le q2 hs)];exact q3⟩
theorem kY(n:Int):bits .and .i64 n 65535=n % 65536:=by
 have h127:(BitVec.ofInt 64 65535).toNat=2 ^ 16 - 1:=by decide
 have key:(BitVec.ofInt 64 n &&& BitVec.ofInt 64 65535).toNat=(n % ((2 ^ 64:Nat):Int)).toNat % 2 ^ 16:=by
  rw[BitVec.toNat_and,BitVec.toNat_ofInt,h127,Nat.and_two_pow_sub_one_eq_mod]
 show IntKind.i64.wrap ((BitVec.ofInt 64 n &&& BitVec.ofInt 64 65535).toNat:Nat)=n % 65536
 rw[key,IntKind.wrap_i64];omega
theorem KC(v:Value)(n s t:Nat)(T:Int)(w:World)(h:IntsLA w v n s)(ht:t≤1099511627776)(hT:T=t) :
 Calls Tryz.prog 41 #[v,.int .i64 T] w fun e w'=>(∃m:Nat,e=.returned (.int .i64 m))∧Below w.heap.size w w':=by
 obtain⟨p,cap,rfl,hn,hl⟩:=h;go_enter Tryz.func41,Tryz.ntmps41
 by_cases h0:n=0
 ·subst h0;obtain⟨y,hy⟩:∃y:Nat,bits BinOp.and IntKind.i64 T 65535=(y:Int):=⟨t % 65536,by rw[kY];omega⟩;clear hT;go_wp2;go_ret;exact⟨⟨y,rfl⟩,Below.refl _ _⟩
 ·obtain ⟨B,O,x,rfl,hB,hc⟩:=hl (t % n) (Nat.mod_lt _ (by omega));have q1:T.tmod (n:Int)=((t % n:Nat):Int):=(by rw[hT,Int.tmod_eq_emod_of_nonneg (by omega)];rfl);have q2:T.tdiv (n:Int)=((t / n:Nat):Int):=(by rw[hT,Int.tdiv_eq_ediv_of_nonneg (by omega)];rfl);obtain⟨y,hy⟩:∃y:Nat,bits BinOp.and IntKind.i64 x 65535=(y:Int)∧y≤65535:=⟨(x % 65536).toNat,by rw[kY];omega,by omega⟩;obtain⟨hy,hy1⟩:=hy;have hz:t / n≤t:=Nat.div_le_self _ _;have hi:t % n < n:=Nat.mod_lt _ (by omega);generalize t % n=i at *;generalize t / n=z at *;have hi1:(i:Int) < (n:Int):=(by omega);have hi0:(0:Int)≤(i:Int):=(by omega);have n0:¬(n:Int)=0:=(by omega);have b0:((n:Int)==0)=false:=(by simp[h0]);clear hl hT;go_upto_region 3 with (fail)
  go_region
  go_wp2;go_ret;exact⟨⟨y+z,by go_num⟩,(Below.refl _ _).drew⟩
theorem QL(a:Addr)(n:Nat)(h:a.spot=none):a.add n=⟨a.block,a.off+n,none⟩:=by
 obtain⟨b,o,s⟩:=a;dsimp only at h;subst h;unfold Addr.add
 by_cases q:n=0
 ·subst q;rfl
 ·rw[if_neg q]
theorem Ql{w:World}{a:Addr}{v:Value}(h:w.cell? a=some v):a.spot=none:=by
 unfold World.cell? at h
 split at h
 ·cases q:a.spot with
  | none=>rfl
  | some z=>rw[q] at h;simp at h
 ·cases h
theorem Tryz.cellsIA:Tryz.prog.cellsOf 3=1:=by kernel_rfl
theorem vQ{H:Type}{enc:TypeId× Value→H}{w:World}{base:Nat}{spare:Nat→Bool}{held:Bool}{v:Value}{d:DataW H}{p:List MemPlace}{r:Reach}{b0:Nat}
 (hv:Value.okWide Tryz.prog w r b0 34 v) (h:DataW.Trod enc Tryz.prog w base spare held 34 v d p):∃n,IntsLA w v n w.heap.size:=by
 obtain⟨a,n,cap,rfl⟩:=okWide_slice Tryz.underlying34 hv;obtain⟨fuel,hf⟩:=h;rcases open_ints Tryz.underlying34 Tryz.underlying3 Tryz.cellsIA hf with ⟨he,-⟩|⟨a',n',cap',zs,he,-,hl,hm,hz,-,hc,-⟩
 ·have he':[Value.slice a n cap]=[Value.slice none 0 0]:=he;simp only[List.cons.injEq,and_true] at he';exact⟨0,none,0,he',Nat.zero_le _,fun i hi=>absurd hi (Nat.not_lt_zero _)⟩
 ·have he':[Value.slice a n cap]=[Value.slice (some a') n' cap']:=he;simp only[List.cons.injEq,and_true] at he';have hzn:n'≤zs.length:=(by rw[hz];split<;>omega);refine⟨n',some a',cap',he',Nat.le_trans hl hm,fun i hi=>?_⟩;have q:=hc i (by omega);have q0:=hc 0 (by omega);have hs:a'.spot=none:=Ql (by simpa [Addr.add] using q0);rw[QL _ _ hs] at q;obtain⟨B,O,sp⟩:=a';dsimp only at hs q;subst hs;exact⟨B,O,_,rfl,block_lt_of_cell q,q⟩
end Go.Proofs.YtcejjdmnlejbaaaGreatDoor
