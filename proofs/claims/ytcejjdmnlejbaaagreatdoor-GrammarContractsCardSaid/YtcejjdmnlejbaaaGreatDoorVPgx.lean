import Derived.Test.YtcejjdmnlejbaaaGreatDoorVPgr
namespace Go.Proofs.YtcejjdmnlejbaaaGreatDoor
open Lib(hid)
set_option linter.unusedVariables false
set_option linter.unusedSimpArgs false
open Go.ChangeShapes Go.WideShapes Go.ChangeAt Go.RowKit
open Go.Deep (BT)
set_option maxHeartbeats 4000000
set_option maxRecDepth 100000
theorem walk_grammarContracts(s0:ByteArray)(m:Int)(w:World)(w0:s0.size≤9223372036854775807)(hm:w.cell? ⟨0,0,none⟩=some (.int .i64 m)) :
 Calls Tryz.prog 5 #[.string s0] w fun e w'=>e=.returned (.bool true)∧Below w.heap.size w w':=by
 by_cases hs:5000 < s0.size
 ·have hs2:(5000:Int) < (s0.size:Int):=by omega
  go_enter Tryz.func5,Tryz.ntmps5;go_wp2_with fail;refine(kg w).mono ?_;rintro e w1 ⟨rfl,hb⟩;have B:=hid hb;clear hb;go_wp2;go_ret;exact⟨rfl,B.out⟩
 have hs2:¬(5000:Int) < (s0.size:Int):=by omega
 have B0:Hid (Below w.heap.size w w):=Below.refl _ _;have HM:=hid hm;have HS:=hid w0;clear hm;go_enter Tryz.func5,Tryz.ntmps5;go_wp2_with fail;refine(uu s0 m w HS.out HM.out).mono ?_;intro e w1 hr;obtain⟨c,va,DA,ln,er,rfl,hq,hk,hb⟩:=uU hr;have PA:=hid hq;have KA:=hid hk;have B1:=hid (B0.out.trans (hb.mono B0.out.size));obtain⟨pva,nva,kva,rfl⟩:=hq.sl;clear hr hq hk hb;unfold W9
 try dsimp only
 go_upto_region 4 with (fail);have N1:Hid (Below w1.heap.size w1 (w1.alloc (.cells #[.int .i64 c.rep,.int .i64 c.rel,.int .i64 c.con,.int .i64 c.sit,.int .i64 c.lay,.int .i64 c.nf,.int .i64 c.nt,.slice (pva 0) (nva 0) (kva 0),.slice (pva 1) (nva 1) (kva 1),.slice (pva 2) (nva 2) (kva 2),.slice (pva 3) (nva 3) (kva 3),.slice (pva 4) (nva 4) (kva 4),.slice (pva 5) (nva 5) (kva 5),.int .i64 c.gua] 43))):=(Below.refl _ _).alloc (Nat.le_refl _) _;have C2:=hid (xw w1 c (fun i=>.slice (pva i) (nva i) (kva i)) 43)
 try dsimp only at C2
 have P2:=hid (PA.out.next N1.out);have B2:=hid (B1.out.trans (N1.out.mono B1.out.size));generalize w1.heap.size=xb at *;generalize w1.alloc (.cells #[.int .i64 c.rep,.int .i64 c.rel,.int .i64 c.con,.int .i64 c.sit,.int .i64 c.lay,.int .i64 c.nf,.int .i64 c.nt,.slice (pva 0) (nva 0) (kva 0),.slice (pva 1) (nva 1) (kva 1),.slice (pva 2) (nva 2) (kva 2),.slice (pva 3) (nva 3) (kva 3),.slice (pva 4) (nva 4) (kva 4),.slice (pva 5) (nva 5) (kva 5),.int .i64 c.gua] 43)=w2 at *;clear N1 PA B1;go_wp2_with fail;refine(us s0 w2 HS.out).mono ?_;intro e w3 hr;obtain⟨d,vb,DB,ln2,er2,rfl,hq,hk,hb⟩:=uU hr;obtain⟨rfl,rfl,rfl⟩:=QW KA.out hk;have QB:=hid hq;have P3:=hid (P2.out.next hb);have C3:=hid (C2.out.next hb);have B3:=hid (B2.out.trans (hb.mono B2.out.size));obtain⟨pvb,nvb,kvb,rfl⟩:=hq.sl;clear hr hq hk hb P2 C2 B2 KA;unfold W9
 try dsimp only
 go_upto_region 5 with (fail);have N1:Hid (Below w3.heap.size w3 (w3.alloc (.cells #[.int .i64 c.rep,.int .i64 c.rel,.int .i64 c.con,.int .i64 c.sit,.int .i64 c.lay,.int .i64 c.nf,.int .i64 c.nt,.slice (pvb 0) (nvb 0) (kvb 0),.slice (pvb 1) (nvb 1) (kvb 1),.slice (pvb 2) (nvb 2) (kvb 2),.slice (pvb 3) (nvb 3) (kvb 3),.slice (pvb 4) (nvb 4) (kvb 4),.slice (pvb 5) (nvb 5) (kvb 5),.int .i64 c.gua] 43))):=(Below.refl _ _).alloc (Nat.le_refl _) _;have D4:=hid (xw w3 c (fun i=>.slice (pvb i) (nvb i) (kvb i)) 43)
 try dsimp only at D4
 have Q4:=hid (QB.out.next N1.out);have P4:=hid (P3.out.next N1.out);have C4:=hid (C3.out.next N1.out);have B4:=hid (B3.out.trans (N1.out.mono B3.out.size));generalize w3.heap.size=yb at *;generalize w3.alloc (.cells #[.int .i64 c.rep,.int .i64 c.rel,.int .i64 c.con,.int .i64 c.sit,.int .i64 c.lay,.int .i64 c.nf,.int .i64 c.nt,.slice (pvb 0) (nvb 0) (kvb 0),.slice (pvb 1) (nvb 1) (kvb 1),.slice (pvb 2) (nvb 2) (kvb 2),.slice (pvb 3) (nvb 3) (kvb 3),.slice (pvb 4) (nvb 4) (kvb 4),.slice (pvb 5) (nvb 5) (kvb 5),.int .i64 c.gua] 43)=w4 at *;clear N1 P3 QB C3 B3;have x0:=C4.out 0 _ rfl;have x1:=C4.out 1 _ rfl;have x2:=C4.out 2 _ rfl;have x3:=C4.out 3 _ rfl;have x4:=C4.out 4 _ rfl;have x5:=C4.out 5 _ rfl;have x6:=C4.out 6 _ rfl;have x7:=C4.out 7 _ rfl;have x8:=C4.out 8 _ rfl;have x9:=C4.out 9 _ rfl;have x10:=C4.out 10 _ rfl;have x11:=C4.out 11 _ rfl;have x12:=C4.out 12 _ rfl;have x13:=C4.out 13 _ rfl;have y0:=D4.out 0 _ rfl;have y1:=D4.out 1 _ rfl;have y2:=D4.out 2 _ rfl;have y3:=D4.out 3 _ rfl;have y4:=D4.out 4 _ rfl;have y5:=D4.out 5 _ rfl;have y6:=D4.out 6 _ rfl;have y7:=D4.out 7 _ rfl;have y8:=D4.out 8 _ rfl;have y9:=D4.out 9 _ rfl;have y10:=D4.out 10 _ rfl;have y11:=D4.out 11 _ rfl;have y12:=D4.out 12 _ rfl;have y13:=D4.out 13 _ rfl;have SM:=hid (ur P4.out Q4.out);unfold W9 at SM
 try dsimp only at SM
 clear C4 D4 P4 Q4;go_wp2_with fail;refine SM.out.mono ?_;rintro e w5 ⟨rfl,hb⟩;have B5:=hid (B4.out.trans (hb.mono B4.out.size));clear hb SM x0 y0 x1 y1 x2 y2 x3 y3 x4 y4 x5 y5 x6 y6 x7 y7 x8 y8 x9 y9 x10 y10 x11 y11 x12 y12 x13 y13;go_wp2_with fail;refine(kg w5).mono ?_;rintro e w6 ⟨rfl,hb⟩;have B6:=hid (B5.out.trans (hb.mono B5.out.size));clear hb;go_wp2;go_ret;exact⟨rfl,B6.out⟩
end Go.Proofs.YtcejjdmnlejbaaaGreatDoor
