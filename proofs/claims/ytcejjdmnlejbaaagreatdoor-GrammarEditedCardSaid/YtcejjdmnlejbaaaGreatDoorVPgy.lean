import Derived.Test.YtcejjdmnlejbaaaGreatDoorVPgr
import Derived.Test.YtcejjdmnlejbaaaGreatDoorVPt
namespace Go.Proofs.YtcejjdmnlejbaaaGreatDoor
open Lib(hid)
set_option linter.unusedVariables false
set_option linter.unusedSimpArgs false
open Go.ChangeShapes Go.WideShapes Go.ChangeAt Go.RowKit
open Go.Deep (BT)
set_option maxHeartbeats 8000000
set_option maxRecDepth 100000
theorem Up(n:Int):bits .and .i64 n 3=n % 4:=by
 have h127:(BitVec.ofInt 64 3).toNat=2 ^ 2 - 1:=by decide
 have key:(BitVec.ofInt 64 n &&& BitVec.ofInt 64 3).toNat=(n % ((2 ^ 64:Nat):Int)).toNat % 2 ^ 2:=by
  rw[BitVec.toNat_and,BitVec.toNat_ofInt,h127,Nat.and_two_pow_sub_one_eq_mod]
 show IntKind.i64.wrap ((BitVec.ofInt 64 n &&& BitVec.ofInt 64 3).toNat:Nat)=n % 4
 rw[key,IntKind.wrap_i64];omega
theorem walk_grammarEdited(v0 : Value)(n0 : Nat)(a1 a2 c3 : Int)(m : Int)(w : World)(h : IntsLA w v0 n0 w.heap.size)(w1:(Lit.int .i64 a1).wf=true)(w2:(Lit.int .i64 a2).wf=true)(w3:(Lit.int .u8 c3).wf=true)(hm:w.cell? ⟨0,0,none⟩=some (.int .i64 m)) :
 Calls Tryz.prog 6 #[v0,.int .i64 a1,.int .i64 a2,.int .u8 c3] w fun e w'=>e=.returned (.bool true)∧Below w.heap.size w w':=by
 have HM:Hid (∀wq,Below w.heap.size w wq→wq.cell? ⟨0,0,none⟩=some (.int .i64 m)):=fun wq hb=>qb hm hb;have H:=hid h;clear hm w1 w2;obtain⟨k,hk⟩:∃z,bits BinOp.and IntKind.i64 a1 3=z:=⟨_,rfl⟩;have hkb:k=0∨k=1∨k=2∨k=3:=by rw[Up] at hk;omega
 obtain⟨r,hr⟩:∃r:Nat,bits BinOp.and IntKind.i64 a2 65535=(r:Int):=⟨(a2 % 65536).toNat,by rw[kY];omega⟩;go_enter Tryz.func6,Tryz.ntmps6;go_wp2_with fail;refine(Jb v0 n0 w H.out).mono ?_;rintro e x1 ⟨s,rfl,hs,hb⟩;have B0:=hid hb;have hs0:0 < s.size:=hs.1;have hs1:s.size≤20000:=hs.2;have HM1:=hid (HM.out x1 hb);clear hb hs H HM h;have b0:((s.size:Int)==0)=false:=by rw[beq_eq_false_iff_ne];omega
 have nz:¬(s.size:Int)=0:=by omega
 obtain⟨i,hi,hil⟩:∃i:Nat,(r:Int).tmod (s.size:Int)=(i:Int)∧i < s.size:=⟨r % s.size,by rw[Int.tmod_eq_emod_of_nonneg (by omega)];rfl,Nat.mod_lt _ hs0⟩;have hi1:(i:Int) < (s.size:Int):=by omega
 have hi2:(i:Int)≤(s.size:Int):=by omega
 have hi3:(i:Int)+1≤(s.size:Int):=by omega
 have i0:(0:Int)≤(i:Int):=by omega
 have i1:(0:Int)≤(i:Int)+1:=by omega
 have e0:(s.extract 0 i).size=i:=by rw[ByteArray.size_extract];omega
 have e1:(s.extract (i+1) s.size).size=s.size - (i+1):=by rw[ByteArray.size_extract];omega
 have e2:(s.extract i s.size).size=s.size - i:=by rw[ByteArray.size_extract];omega
 have wr1:IntKind.i64.wrap ((i:Int)+1)=(i:Int)+1:=IntWalk.i64_in _ (by omega);go_upto_region 3 with (fail)
 have kc : ∀(W : World) (g : Nat), W.cell? ⟨g, 0, none⟩ = some (.int .u8 c3)→(convert 49 9 (.slice (some ⟨g,0,none⟩) 1 1)).run Tryz.prog W=.ok (.string (strOfNums [c3])) W:=fun W g hc =>
  run_convert_bytes_arg W 49 5 Tryz.underlying49 Tryz.underlying5 g 0 1 1 [c3] rfl (fun i hi=>by cases (show i=0 by omega);exact hc) 9 Tryz.underlying9
 have hz:(strOfNums [c3]).size=1:=rfl;generalize strOfNums [c3]=z at *
 go_region
 have B2:Hid (Below w.heap.size w ((x1.alloc (.cells #[.int .u8 c3] 5)).drew)):=(B0.out.alloc B0.out.size _).drew;have HM2:Hid (((x1.alloc (.cells #[.int .u8 c3] 5)).drew).cell? ⟨0,0,none⟩=some (.int .i64 m)):=qb HM1.out (((Below.refl x1.heap.size x1).alloc (Nat.le_refl _) _).drew);obtain⟨X,hX⟩:∃X,s.extract 0 i++z++s.extract (i+1) s.size=X:=⟨_,rfl⟩;have hXs:X.size≤9223372036854775807:=by rw[← hX,ByteArray.size_append,ByteArray.size_append];omega
 rw[hX];clear hX B0 HM1;generalize (x1.alloc (.cells #[.int .u8 c3] 5)).drew=x2 at *;rcases hkb with rfl|rfl|rfl|rfl
 case' inl =>
  go_upto_region 11 with (fail);have B0:=B2;have HM1:=HM2;have HXS:=hid hXs;generalize X=Y at *;generalize x2=x3 at *;clear hXs B2 HM2 kc hs0 hs1 b0 nz hi hil hi1 hi2 hi3 i0 i1 e0 e1 e2 wr1 hz hr hk
 case' inr.inl =>
  clear hXs;go_upto_region 6 with (fail)
  go_region
  have B0:Hid (Below w.heap.size w x2.drew):=B2.out.drew;have HM1:Hid (x2.drew.cell? ⟨0,0,none⟩=some (.int .i64 m)):=qb HM2.out ((Below.refl x2.heap.size x2).drew);obtain⟨Y,hX⟩:∃Y,s.extract 0 i++s.extract (i+1) s.size=Y:=⟨_,rfl⟩;have HXS:Hid (Y.size≤9223372036854775807):=by unfold Hid;rw[← hX,ByteArray.size_append];omega
  rw[hX];generalize x2.drew=x3 at *;clear B2 HM2 kc hX hs0 hs1 b0 nz hi hil hi1 hi2 hi3 i0 i1 e0 e1 e2 wr1 hz hr hk;go_upto_region 11 with (fail)
 case' inr.inr.inl =>
  clear hXs;go_upto_region 8 with (fail)
  go_region
  have B0:Hid (Below w.heap.size w ((x2.alloc (.cells #[.int .u8 c3] 5)).drew)):=(B2.out.alloc B2.out.size _).drew;have HM1:Hid (((x2.alloc (.cells #[.int .u8 c3] 5)).drew).cell? ⟨0,0,none⟩=some (.int .i64 m)):=qb HM2.out (((Below.refl x2.heap.size x2).alloc (Nat.le_refl _) _).drew);obtain⟨Y,hX⟩:∃Y,s.extract 0 i++z++s.extract i s.size=Y:=⟨_,rfl⟩;have HXS:Hid (Y.size≤9223372036854775807):=by unfold Hid;rw[← hX,ByteArray.size_append,ByteArray.size_append];omega
  rw[hX];generalize (x2.alloc (.cells #[.int .u8 c3] 5)).drew=x3 at *;clear B2 HM2 kc hX hs0 hs1 b0 nz hi hil hi1 hi2 hi3 i0 i1 e0 e1 e2 wr1 hz hr hk;go_upto_region 11 with (fail)
 case' inr.inr.inr =>
  clear hXs;have ex:s.size+(s.extract i s.size).size≤9223372036854775807:=by omega
  go_upto_region 11 with (fail);have B0:=B2;have HM1:=HM2;obtain⟨Y,hX⟩:∃Y,s++s.extract i s.size=Y:=⟨_,rfl⟩;have HXS:Hid (Y.size≤9223372036854775807):=by unfold Hid;rw[← hX,ByteArray.size_append];omega
  rw[hX];generalize x2=x3 at *;clear B2 HM2 kc hX hs0 hs1 b0 nz hi hil hi1 hi2 hi3 i0 i1 e0 e1 e2 wr1 hz hr hk ex
 all_goals
  go_wp2_with fail;refine(uu Y m x3 HXS.out HM1.out).mono ?_;intro e w1 hr;obtain⟨c,va,DA,ln,er,rfl,hq,hk,hb⟩:=uU hr;have PA:=hid hq;have KA:=hid hk;have B1:=hid (B0.out.trans (hb.mono B0.out.size));obtain⟨pva,nva,kva,rfl⟩:=hq.sl;clear hr hq hk hb;unfold W9
  try dsimp only
  go_upto_region 12 with (fail);have N1:Hid (Below w1.heap.size w1 (w1.alloc (.cells #[.int .i64 c.rep,.int .i64 c.rel,.int .i64 c.con,.int .i64 c.sit,.int .i64 c.lay,.int .i64 c.nf,.int .i64 c.nt,.slice (pva 0) (nva 0) (kva 0),.slice (pva 1) (nva 1) (kva 1),.slice (pva 2) (nva 2) (kva 2),.slice (pva 3) (nva 3) (kva 3),.slice (pva 4) (nva 4) (kva 4),.slice (pva 5) (nva 5) (kva 5),.int .i64 c.gua] 43))):=(Below.refl _ _).alloc (Nat.le_refl _) _;have C2:=hid (xw w1 c (fun i=>.slice (pva i) (nva i) (kva i)) 43)
  try dsimp only at C2
  have P2:=hid (PA.out.next N1.out);have B2:=hid (B1.out.trans (N1.out.mono B1.out.size));generalize w1.heap.size=xb at *;generalize w1.alloc (.cells #[.int .i64 c.rep,.int .i64 c.rel,.int .i64 c.con,.int .i64 c.sit,.int .i64 c.lay,.int .i64 c.nf,.int .i64 c.nt,.slice (pva 0) (nva 0) (kva 0),.slice (pva 1) (nva 1) (kva 1),.slice (pva 2) (nva 2) (kva 2),.slice (pva 3) (nva 3) (kva 3),.slice (pva 4) (nva 4) (kva 4),.slice (pva 5) (nva 5) (kva 5),.int .i64 c.gua] 43)=w2 at *;clear N1 PA B1;go_wp2_with fail;refine(us Y w2 HXS.out).mono ?_;intro e w3 hr;obtain⟨d,vb,DB,ln2,er2,rfl,hq,hk,hb⟩:=uU hr;obtain⟨rfl,rfl,rfl⟩:=QW KA.out hk;have QB:=hid hq;have P3:=hid (P2.out.next hb);have C3:=hid (C2.out.next hb);have B3:=hid (B2.out.trans (hb.mono B2.out.size));obtain⟨pvb,nvb,kvb,rfl⟩:=hq.sl;clear hr hq hk hb P2 C2 B2 KA;unfold W9
  try dsimp only
  go_upto_region 13 with (fail);have N1:Hid (Below w3.heap.size w3 (w3.alloc (.cells #[.int .i64 c.rep,.int .i64 c.rel,.int .i64 c.con,.int .i64 c.sit,.int .i64 c.lay,.int .i64 c.nf,.int .i64 c.nt,.slice (pvb 0) (nvb 0) (kvb 0),.slice (pvb 1) (nvb 1) (kvb 1),.slice (pvb 2) (nvb 2) (kvb 2),.slice (pvb 3) (nvb 3) (kvb 3),.slice (pvb 4) (nvb 4) (kvb 4),.slice (pvb 5) (nvb 5) (kvb 5),.int .i64 c.gua] 43))):=(Below.refl _ _).alloc (Nat.le_refl _) _;have D4:=hid (xw w3 c (fun i=>.slice (pvb i) (nvb i) (kvb i)) 43)
  try dsimp only at D4
  have Q4:=hid (QB.out.next N1.out);have P4:=hid (P3.out.next N1.out);have C4:=hid (C3.out.next N1.out);have B4:=hid (B3.out.trans (N1.out.mono B3.out.size));generalize w3.heap.size=yb at *;generalize w3.alloc (.cells #[.int .i64 c.rep,.int .i64 c.rel,.int .i64 c.con,.int .i64 c.sit,.int .i64 c.lay,.int .i64 c.nf,.int .i64 c.nt,.slice (pvb 0) (nvb 0) (kvb 0),.slice (pvb 1) (nvb 1) (kvb 1),.slice (pvb 2) (nvb 2) (kvb 2),.slice (pvb 3) (nvb 3) (kvb 3),.slice (pvb 4) (nvb 4) (kvb 4),.slice (pvb 5) (nvb 5) (kvb 5),.int .i64 c.gua] 43)=w4 at *;clear N1 P3 QB C3 B3;have x0:=C4.out 0 _ rfl;have x1:=C4.out 1 _ rfl;have x2:=C4.out 2 _ rfl;have x3:=C4.out 3 _ rfl;have x4:=C4.out 4 _ rfl;have x5:=C4.out 5 _ rfl;have x6:=C4.out 6 _ rfl;have x7:=C4.out 7 _ rfl;have x8:=C4.out 8 _ rfl;have x9:=C4.out 9 _ rfl;have x10:=C4.out 10 _ rfl;have x11:=C4.out 11 _ rfl;have x12:=C4.out 12 _ rfl;have x13:=C4.out 13 _ rfl;have y0:=D4.out 0 _ rfl;have y1:=D4.out 1 _ rfl;have y2:=D4.out 2 _ rfl;have y3:=D4.out 3 _ rfl;have y4:=D4.out 4 _ rfl;have y5:=D4.out 5 _ rfl;have y6:=D4.out 6 _ rfl;have y7:=D4.out 7 _ rfl;have y8:=D4.out 8 _ rfl;have y9:=D4.out 9 _ rfl;have y10:=D4.out 10 _ rfl;have y11:=D4.out 11 _ rfl;have y12:=D4.out 12 _ rfl;have y13:=D4.out 13 _ rfl;have SM:=hid (ur P4.out Q4.out);unfold W9 at SM
  try dsimp only at SM
  clear C4 D4 P4 Q4;go_wp2_with fail;refine SM.out.mono ?_;rintro e w5 ⟨rfl,hb⟩;have B5:=hid (B4.out.trans (hb.mono B4.out.size));clear hb SM x0 y0 x1 y1 x2 y2 x3 y3 x4 y4 x5 y5 x6 y6 x7 y7 x8 y8 x9 y9 x10 y10 x11 y11 x12 y12 x13 y13;go_wp2_with fail;refine(kg w5).mono ?_;rintro e w6 ⟨rfl,hb⟩;have B6:=hid (B5.out.trans (hb.mono B5.out.size));clear hb;go_wp2;go_ret;exact⟨rfl,B6.out⟩
end Go.Proofs.YtcejjdmnlejbaaaGreatDoor
