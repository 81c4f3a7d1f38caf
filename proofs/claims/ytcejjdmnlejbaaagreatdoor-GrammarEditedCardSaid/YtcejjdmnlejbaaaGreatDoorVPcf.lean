import Derived.Test.YtcejjdmnlejbaaaGreatDoorVPce
import Derived.Test.YtcejjdmnlejbaaaGreatDoorVPcc
namespace Go.Proofs.YtcejjdmnlejbaaaGreatDoor
open Lib(hid)
set_option linter.unusedVariables false
set_option linter.unusedSimpArgs false
open Go.ChangeShapes Go.WideShapes Go.ChangeAt Go.RowKit
open Go.Deep (BT)
set_option maxHeartbeats 4000000
set_option maxRecDepth 100000
def zV(cb sb k:Nat):Prop:=k=cb∨k=sb
def K8(w:World)(cb sb:Nat)(vs:Fin 6→Value)(r:Pc.PC× Int)(e:Ending)(w':World):Prop :=
 e=.returned (.int .i64 r.2)∧(r.2=0→PcB w' cb r.1 vs∧SnB w' sb r.1)∧KpX (zV cb sb) w w'
theorem yC{w:World}{cb sb:Nat}{vs:Fin 6→Value}{r:Pc.PC× Int}{c:Pc.PC}{x:Int}(h:r=(c,x))(hx:x≠0):K8 w cb sb vs r (.returned (.int .i64 x)) w :=
 ⟨by rw[h],fun q=>absurd (by rw[h] at q;exact q) hx,KpX.refl _ _⟩
theorem PcB.seen{w:World}{g:Nat}{c:Pc.PC}{vs:Fin 6→Value}(h:PcB w g c vs)(i:Nat):PcB w g (Pc.setSeen c i) vs :=
 ⟨h.c0,h.c1,h.c2,h.c3,h.c4,h.c5,h.c6,h.c7,h.c8,h.c9,h.c10,h.c11,h.c12,h.c13,h.f0,h.f1,h.f2,h.f3,h.f4,h.f5,h.f6,h.f7,h.f8,h.f9,h.f10,h.f11,h.f12,h.f13,h.n,h.lt⟩
theorem Kl(c:Pc.PC)(vs:Fin 6→Value)(cb sb:Nat)(L:List Tk.T4)(v:Value)(w:World)(hB:PcB w cb c vs)(hvs:∀i,∃q n z,vs i=.slice q n z)(hS:SnB w sb c)(hne:cb≠sb)(ht:TkAt w L v) :
 Calls Tryz.prog 95 #[.pointer (some ⟨cb,0,none⟩),.pointer (some ⟨sb,0,none⟩),v,.int .i64 0] w (K8 w cb sb vs (Pc.fieldT c L 0)):=by
 have HB:=hid hB;have HS:=hid hS;have TA:=hid ht;have K1:=hid (fun(j:Nat) (k:Int) (wq:World) (h:TkAt wq L v)=>zA L v j k wq h);have IW:=hid (fun(j:Nat) (s:ByteArray) (wq:World) (h:TkAt wq L v)=>zL L v j s wq h);have FT:Hid (Pc.fieldT c L 0=if (0:Nat) < 6∧(L.length≠2∨Pc.kd L 1 3=false) then (c,1) else if (0:Nat)=6∧(L.length≠4∨Pc.kd L 1 4=false∨Pc.isW L 2 Pc.wTo=false∨Pc.kd L 3 4=false) then (c,1) else if c.seen 0=true then (c,7) else (Pc.setField (Pc.setSeen c 0) 0 L,0)):=rfl;generalize Pc.fieldT c L 0=R at *;obtain⟨p,cap,hv,h1,h2,h3⟩:=ht;subst hv;clear h1 h2 h3;have s0:=hS.s 0 (by decide);have g0:=hS.f 0 (by decide);clear hS hB
 by_cases hl:L.length=2
 case neg =>
  have hl1:((L.length:Int) != 2)=true:=by simp;omega
  have RQ:Hid (R=(c,1)):=by unfold Hid;rw[FT.out];simp[hl]
  clear FT hl s0 g0;go_enter Tryz.func95,Tryz.ntmps95;go_wp2_with (go_at_call 94;refine(K1.out _ _ _ TA.out).mono ?_;rintro e w' ⟨rfl,rfl⟩);go_ret;exact yC RQ.out (by decide)
 have hl1:((L.length:Int) != 2)=false:=by simp[hl]
 by_cases k1:Pc.kd L 1 3=true
 case neg =>
  have k1f:Pc.kd L 1 3=false:=by simpa using k1
  have RQ:Hid (R=(c,1)):=by unfold Hid;rw[FT.out];simp[hl,k1f]
  clear FT hl s0 g0 k1;go_enter Tryz.func95,Tryz.ntmps95;go_wp2_with (go_at_call 94;refine(K1.out _ _ _ TA.out).mono ?_;rintro e w' ⟨rfl,rfl⟩);go_ret;exact yC RQ.out (by decide)
 by_cases sn:c.seen 0=true
 ·have RQ:Hid (R=(c,7)):=by unfold Hid;rw[FT.out];simp[hl,k1,sn]
  rw[sn] at s0;clear FT hl g0 sn;go_enter Tryz.func95,Tryz.ntmps95;go_wp2_with (go_at_call 94;refine(K1.out _ _ _ TA.out).mono ?_;rintro e w' ⟨rfl,rfl⟩);go_ret;exact yC RQ.out (by decide)
 have snf:c.seen 0=false:=by simpa using sn
 have RQ:Hid (R=(Pc.setField (Pc.setSeen c 0) 0 L,0)):=by unfold Hid;rw[FT.out];simp[hl,k1,snf]
 rw[snf] at s0;obtain⟨t1,hq1⟩:∃t,L[1]?=some t:=⟨_,List.getElem?_eq_getElem (by omega)⟩;have hlc:(1:Int) < (L.length:Int):=by omega
 obtain⟨g,O,rfl,ng1,ng2⟩:=zG TA.out hq1 HB.out hvs HS.out;obtain⟨g',O',e',c0,c1,c2,c3⟩:=TkAt.get TA.out hq1;obtain⟨rfl,rfl⟩:g'=g∧O'=O:=by cases e';exact⟨rfl,rfl⟩
 have T1:=hid (zw hq1);have c6:w.cell? ⟨g',O'+6,none⟩=some (.int .i64 t1.t.num):=c2;have bk:=HB.out.c0;have bf:=HB.out.f0;clear c0 c1 c2 c3 e' hq1 FT sn hl;obtain⟨x,hx⟩:∃x,(Pc.tok L 1).num=x:=⟨_,rfl⟩;rw[← T1.out,hx] at c6;have RQ2:Hid (R=({ Pc.setSeen c 0 with rep:=x },0)):=by unfold Hid;rw[RQ.out,← hx];rfl
 clear RQ hx T1;go_enter Tryz.func95,Tryz.ntmps95;go_wp2_with (go_at_call 94;refine(K1.out _ _ _ TA.out).mono ?_;rintro e w' ⟨rfl,rfl⟩);go_ret;refine⟨by rw[RQ2.out];rfl,fun _=>?_,(KpX.set (X:=zV cb sb) (w:=w) (Or.inr rfl) 0 _).trans (KpX.set (Or.inl rfl) 0 _)⟩;rw[RQ2.out];refine⟨((HB.out.grown (zK w sb 0 _) (by simp;exact hne)).seen 0).set_rep x,?_⟩;exact(SnB.of_block (HS.out.set 0 (by decide)) (Below.heap_setCell _ _ _ _ (fun e=>hne e.symm)) (by simp[World.setCell])).same rfl
theorem Kk(c:Pc.PC)(vs:Fin 6→Value)(cb sb:Nat)(L:List Tk.T4)(v:Value)(w:World)(hB:PcB w cb c vs)(hvs:∀i,∃q n z,vs i=.slice q n z)(hS:SnB w sb c)(hne:cb≠sb)(ht:TkAt w L v) :
 Calls Tryz.prog 95 #[.pointer (some ⟨cb,0,none⟩),.pointer (some ⟨sb,0,none⟩),v,.int .i64 1] w (K8 w cb sb vs (Pc.fieldT c L 1)):=by
 have HB:=hid hB;have HS:=hid hS;have TA:=hid ht;have K1:=hid (fun(j:Nat) (k:Int) (wq:World) (h:TkAt wq L v)=>zA L v j k wq h);have IW:=hid (fun(j:Nat) (s:ByteArray) (wq:World) (h:TkAt wq L v)=>zL L v j s wq h);have FT:Hid (Pc.fieldT c L 1=if (1:Nat) < 6∧(L.length≠2∨Pc.kd L 1 3=false) then (c,1) else if (1:Nat)=6∧(L.length≠4∨Pc.kd L 1 4=false∨Pc.isW L 2 Pc.wTo=false∨Pc.kd L 3 4=false) then (c,1) else if c.seen 1=true then (c,7) else (Pc.setField (Pc.setSeen c 1) 1 L,0)):=rfl;generalize Pc.fieldT c L 1=R at *;obtain⟨p,cap,hv,h1,h2,h3⟩:=ht;subst hv;clear h1 h2 h3;have s0:=hS.s 1 (by decide);have g0:=hS.f 1 (by decide);clear hS hB
 by_cases hl:L.length=2
 case neg =>
  have hl1:((L.length:Int) != 2)=true:=by simp;omega
  have RQ:Hid (R=(c,1)):=by unfold Hid;rw[FT.out];simp[hl]
  clear FT hl s0 g0;go_enter Tryz.func95,Tryz.ntmps95;go_wp2_with (go_at_call 94;refine(K1.out _ _ _ TA.out).mono ?_;rintro e w' ⟨rfl,rfl⟩);go_ret;exact yC RQ.out (by decide)
 have hl1:((L.length:Int) != 2)=false:=by simp[hl]
 by_cases k1:Pc.kd L 1 3=true
 case neg =>
  have k1f:Pc.kd L 1 3=false:=by simpa using k1
  have RQ:Hid (R=(c,1)):=by unfold Hid;rw[FT.out];simp[hl,k1f]
  clear FT hl s0 g0 k1;go_enter Tryz.func95,Tryz.ntmps95;go_wp2_with (go_at_call 94;refine(K1.out _ _ _ TA.out).mono ?_;rintro e w' ⟨rfl,rfl⟩);go_ret;exact yC RQ.out (by decide)
 by_cases sn:c.seen 1=true
 ·have RQ:Hid (R=(c,7)):=by unfold Hid;rw[FT.out];simp[hl,k1,sn]
  rw[sn] at s0;clear FT hl g0 sn;go_enter Tryz.func95,Tryz.ntmps95;go_wp2_with (go_at_call 94;refine(K1.out _ _ _ TA.out).mono ?_;rintro e w' ⟨rfl,rfl⟩);go_ret;exact yC RQ.out (by decide)
 have snf:c.seen 1=false:=by simpa using sn
 have RQ:Hid (R=(Pc.setField (Pc.setSeen c 1) 1 L,0)):=by unfold Hid;rw[FT.out];simp[hl,k1,snf]
 rw[snf] at s0;obtain⟨t1,hq1⟩:∃t,L[1]?=some t:=⟨_,List.getElem?_eq_getElem (by omega)⟩;have hlc:(1:Int) < (L.length:Int):=by omega
 obtain⟨g,O,rfl,ng1,ng2⟩:=zG TA.out hq1 HB.out hvs HS.out;obtain⟨g',O',e',c0,c1,c2,c3⟩:=TkAt.get TA.out hq1;obtain⟨rfl,rfl⟩:g'=g∧O'=O:=by cases e';exact⟨rfl,rfl⟩
 have T1:=hid (zw hq1);have c6:w.cell? ⟨g',O'+6,none⟩=some (.int .i64 t1.t.num):=c2;have bk:=HB.out.c1;have bf:=HB.out.f1;clear c0 c1 c2 c3 e' hq1 FT sn hl;obtain⟨x,hx⟩:∃x,(Pc.tok L 1).num=x:=⟨_,rfl⟩;rw[← T1.out,hx] at c6;have RQ2:Hid (R=({ Pc.setSeen c 1 with rel:=x },0)):=by unfold Hid;rw[RQ.out,← hx];rfl
 clear RQ hx T1;go_enter Tryz.func95,Tryz.ntmps95;go_wp2_with (go_at_call 94;refine(K1.out _ _ _ TA.out).mono ?_;rintro e w' ⟨rfl,rfl⟩);go_ret;refine⟨by rw[RQ2.out];rfl,fun _=>?_,(KpX.set (X:=zV cb sb) (w:=w) (Or.inr rfl) 1 _).trans (KpX.set (Or.inl rfl) 1 _)⟩;rw[RQ2.out];refine⟨((HB.out.grown (zK w sb 1 _) (by simp;exact hne)).seen 1).set_rel x,?_⟩;exact(SnB.of_block (HS.out.set 1 (by decide)) (Below.heap_setCell _ _ _ _ (fun e=>hne e.symm)) (by simp[World.setCell])).same rfl
theorem Kj(c:Pc.PC)(vs:Fin 6→Value)(cb sb:Nat)(L:List Tk.T4)(v:Value)(w:World)(hB:PcB w cb c vs)(hvs:∀i,∃q n z,vs i=.slice q n z)(hS:SnB w sb c)(hne:cb≠sb)(ht:TkAt w L v) :
 Calls Tryz.prog 95 #[.pointer (some ⟨cb,0,none⟩),.pointer (some ⟨sb,0,none⟩),v,.int .i64 2] w (K8 w cb sb vs (Pc.fieldT c L 2)):=by
 have HB:=hid hB;have HS:=hid hS;have TA:=hid ht;have K1:=hid (fun(j:Nat) (k:Int) (wq:World) (h:TkAt wq L v)=>zA L v j k wq h);have IW:=hid (fun(j:Nat) (s:ByteArray) (wq:World) (h:TkAt wq L v)=>zL L v j s wq h);have FT:Hid (Pc.fieldT c L 2=if (2:Nat) < 6∧(L.length≠2∨Pc.kd L 1 3=false) then (c,1) else if (2:Nat)=6∧(L.length≠4∨Pc.kd L 1 4=false∨Pc.isW L 2 Pc.wTo=false∨Pc.kd L 3 4=false) then (c,1) else if c.seen 2=true then (c,7) else (Pc.setField (Pc.setSeen c 2) 2 L,0)):=rfl;generalize Pc.fieldT c L 2=R at *;obtain⟨p,cap,hv,h1,h2,h3⟩:=ht;subst hv;clear h1 h2 h3;have s0:=hS.s 2 (by decide);have g0:=hS.f 2 (by decide);clear hS hB
 by_cases hl:L.length=2
 case neg =>
  have hl1:((L.length:Int) != 2)=true:=by simp;omega
  have RQ:Hid (R=(c,1)):=by unfold Hid;rw[FT.out];simp[hl]
  clear FT hl s0 g0;go_enter Tryz.func95,Tryz.ntmps95;go_wp2_with (go_at_call 94;refine(K1.out _ _ _ TA.out).mono ?_;rintro e w' ⟨rfl,rfl⟩);go_ret;exact yC RQ.out (by decide)
 have hl1:((L.length:Int) != 2)=false:=by simp[hl]
 by_cases k1:Pc.kd L 1 3=true
 case neg =>
  have k1f:Pc.kd L 1 3=false:=by simpa using k1
  have RQ:Hid (R=(c,1)):=by unfold Hid;rw[FT.out];simp[hl,k1f]
  clear FT hl s0 g0 k1;go_enter Tryz.func95,Tryz.ntmps95;go_wp2_with (go_at_call 94;refine(K1.out _ _ _ TA.out).mono ?_;rintro e w' ⟨rfl,rfl⟩);go_ret;exact yC RQ.out (by decide)
 by_cases sn:c.seen 2=true
 ·have RQ:Hid (R=(c,7)):=by unfold Hid;rw[FT.out];simp[hl,k1,sn]
  rw[sn] at s0;clear FT hl g0 sn;go_enter Tryz.func95,Tryz.ntmps95;go_wp2_with (go_at_call 94;refine(K1.out _ _ _ TA.out).mono ?_;rintro e w' ⟨rfl,rfl⟩);go_ret;exact yC RQ.out (by decide)
 have snf:c.seen 2=false:=by simpa using sn
 have RQ:Hid (R=(Pc.setField (Pc.setSeen c 2) 2 L,0)):=by unfold Hid;rw[FT.out];simp[hl,k1,snf]
 rw[snf] at s0;obtain⟨t1,hq1⟩:∃t,L[1]?=some t:=⟨_,List.getElem?_eq_getElem (by omega)⟩;have hlc:(1:Int) < (L.length:Int):=by omega
 obtain⟨g,O,rfl,ng1,ng2⟩:=zG TA.out hq1 HB.out hvs HS.out;obtain⟨g',O',e',c0,c1,c2,c3⟩:=TkAt.get TA.out hq1;obtain⟨rfl,rfl⟩:g'=g∧O'=O:=by cases e';exact⟨rfl,rfl⟩
 have T1:=hid (zw hq1);have c6:w.cell? ⟨g',O'+6,none⟩=some (.int .i64 t1.t.num):=c2;have bk:=HB.out.c2;have bf:=HB.out.f2;clear c0 c1 c2 c3 e' hq1 FT sn hl;obtain⟨x,hx⟩:∃x,(Pc.tok L 1).num=x:=⟨_,rfl⟩;rw[← T1.out,hx] at c6;have RQ2:Hid (R=({ Pc.setSeen c 2 with con:=x },0)):=by unfold Hid;rw[RQ.out,← hx];rfl
 clear RQ hx T1;go_enter Tryz.func95,Tryz.ntmps95;go_wp2_with (go_at_call 94;refine(K1.out _ _ _ TA.out).mono ?_;rintro e w' ⟨rfl,rfl⟩);go_ret;refine⟨by rw[RQ2.out];rfl,fun _=>?_,(KpX.set (X:=zV cb sb) (w:=w) (Or.inr rfl) 2 _).trans (KpX.set (Or.inl rfl) 2 _)⟩;rw[RQ2.out];refine⟨((HB.out.grown (zK w sb 2 _) (by simp;exact hne)).seen 2).set_con x,?_⟩;exact(SnB.of_block (HS.out.set 2 (by decide)) (Below.heap_setCell _ _ _ _ (fun e=>hne e.symm)) (by simp[World.setCell])).same rfl
theorem Ki(c:Pc.PC)(vs:Fin 6→Value)(cb sb:Nat)(L:List Tk.T4)(v:Value)(w:World)(hB:PcB w cb c vs)(hvs:∀i,∃q n z,vs i=.slice q n z)(hS:SnB w sb c)(hne:cb≠sb)(ht:TkAt w L v) :
 Calls Tryz.prog 95 #[.pointer (some ⟨cb,0,none⟩),.pointer (some ⟨sb,0,none⟩),v,.int .i64 3] w (K8 w cb sb vs (Pc.fieldT c L 3)):=by
 have HB:=hid hB;have HS:=hid hS;have TA:=hid ht;have K1:=hid (fun(j:Nat) (k:Int) (wq:World) (h:TkAt wq L v)=>zA L v j k wq h);have IW:=hid (fun(j:Nat) (s:ByteArray) (wq:World) (h:TkAt wq L v)=>zL L v j s wq h);have FT:Hid (Pc.fieldT c L 3=if (3:Nat) < 6∧(L.length≠2∨Pc.kd L 1 3=false) then (c,1) else if (3:Nat)=6∧(L.length≠4∨Pc.kd L 1 4=false∨Pc.isW L 2 Pc.wTo=false∨Pc.kd L 3 4=false) then (c,1) else if c.seen 3=true then (c,7) else (Pc.setField (Pc.setSeen c 3) 3 L,0)):=rfl;generalize Pc.fieldT c L 3=R at *;obtain⟨p,cap,hv,h1,h2,h3⟩:=ht;subst hv;clear h1 h2 h3;have s0:=hS.s 3 (by decide);have g0:=hS.f 3 (by decide);clear hS hB
 by_cases hl:L.length=2
 case neg =>
  have hl1:((L.length:Int) != 2)=true:=by simp;omega
  have RQ:Hid (R=(c,1)):=by unfold Hid;rw[FT.out];simp[hl]
  clear FT hl s0 g0;go_enter Tryz.func95,Tryz.ntmps95;go_wp2_with (go_at_call 94;refine(K1.out _ _ _ TA.out).mono ?_;rintro e w' ⟨rfl,rfl⟩);go_ret;exact yC RQ.out (by decide)
 have hl1:((L.length:Int) != 2)=false:=by simp[hl]
 by_cases k1:Pc.kd L 1 3=true
 case neg =>
  have k1f:Pc.kd L 1 3=false:=by simpa using k1
  have RQ:Hid (R=(c,1)):=by unfold Hid;rw[FT.out];simp[hl,k1f]
  clear FT hl s0 g0 k1;go_enter Tryz.func95,Tryz.ntmps95;go_wp2_with (go_at_call 94;refine(K1.out _ _ _ TA.out).mono ?_;rintro e w' ⟨rfl,rfl⟩);go_ret;exact yC RQ.out (by decide)
 by_cases sn:c.seen 3=true
 ·have RQ:Hid (R=(c,7)):=by unfold Hid;rw[FT.out];simp[hl,k1,sn]
  rw[sn] at s0;clear FT hl g0 sn;go_enter Tryz.func95,Tryz.ntmps95;go_wp2_with (go_at_call 94;refine(K1.out _ _ _ TA.out).mono ?_;rintro e w' ⟨rfl,rfl⟩);go_ret;exact yC RQ.out (by decide)
 have snf:c.seen 3=false:=by simpa using sn
 have RQ:Hid (R=(Pc.setField (Pc.setSeen c 3) 3 L,0)):=by unfold Hid;rw[FT.out];simp[hl,k1,snf]
 rw[snf] at s0;obtain⟨t1,hq1⟩:∃t,L[1]?=some t:=⟨_,List.getElem?_eq_getElem (by omega)⟩;have hlc:(1:Int) < (L.length:Int):=by omega
 obtain⟨g,O,rfl,ng1,ng2⟩:=zG TA.out hq1 HB.out hvs HS.out;obtain⟨g',O',e',c0,c1,c2,c3⟩:=TkAt.get TA.out hq1;obtain⟨rfl,rfl⟩:g'=g∧O'=O:=by cases e';exact⟨rfl,rfl⟩
 have T1:=hid (zw hq1);have c6:w.cell? ⟨g',O'+6,none⟩=some (.int .i64 t1.t.num):=c2;have bk:=HB.out.c3;have bf:=HB.out.f3;clear c0 c1 c2 c3 e' hq1 FT sn hl;obtain⟨x,hx⟩:∃x,(Pc.tok L 1).num=x:=⟨_,rfl⟩;rw[← T1.out,hx] at c6;have RQ2:Hid (R=({ Pc.setSeen c 3 with sit:=x },0)):=by unfold Hid;rw[RQ.out,← hx];rfl
 clear RQ hx T1;go_enter Tryz.func95,Tryz.ntmps95;go_wp2_with (go_at_call 94;refine(K1.out _ _ _ TA.out).mono ?_;rintro e w' ⟨rfl,rfl⟩);go_ret;refine⟨by rw[RQ2.out];rfl,fun _=>?_,(KpX.set (X:=zV cb sb) (w:=w) (Or.inr rfl) 3 _).trans (KpX.set (Or.inl rfl) 3 _)⟩;rw[RQ2.out];refine⟨((HB.out.grown (zK w sb 3 _) (by simp;exact hne)).seen 3).set_sit x,?_⟩;exact(SnB.of_block (HS.out.set 3 (by decide)) (Below.heap_setCell _ _ _ _ (fun e=>hne e.symm)) (by simp[World.setCell])).same rfl
theorem Kh(c:Pc.PC)(vs:Fin 6→Value)(cb sb:Nat)(L:List Tk.T4)(v:Value)(w:World)(hB:PcB w cb c vs)(hvs:∀i,∃q n z,vs i=.slice q n z)(hS:SnB w sb c)(hne:cb≠sb)(ht:TkAt w L v) :
 Calls Tryz.prog 95 #[.pointer (some ⟨cb,0,none⟩),.pointer (some ⟨sb,0,none⟩),v,.int .i64 4] w (K8 w cb sb vs (Pc.fieldT c L 4)):=by
 have HB:=hid hB;have HS:=hid hS;have TA:=hid ht;have K1:=hid (fun(j:Nat) (k:Int) (wq:World) (h:TkAt wq L v)=>zA L v j k wq h);have IW:=hid (fun(j:Nat) (s:ByteArray) (wq:World) (h:TkAt wq L v)=>zL L v j s wq h);have FT:Hid (Pc.fieldT c L 4=if (4:Nat) < 6∧(L.length≠2∨Pc.kd L 1 3=false) then (c,1) else if (4:Nat)=6∧(L.length≠4∨Pc.kd L 1 4=false∨Pc.isW L 2 Pc.wTo=false∨Pc.kd L 3 4=false) then (c,1) else if c.seen 4=true then (c,7) else (Pc.setField (Pc.setSeen c 4) 4 L,0)):=rfl;generalize Pc.fieldT c L 4=R at *;obtain⟨p,cap,hv,h1,h2,h3⟩:=ht;subst hv;clear h1 h2 h3;have s0:=hS.s 4 (by decide);have g0:=hS.f 4 (by decide);clear hS hB
 by_cases hl:L.length=2
 case neg =>
  have hl1:((L.length:Int) != 2)=true:=by simp;omega
  have RQ:Hid (R=(c,1)):=by unfold Hid;rw[FT.out];simp[hl]
  clear FT hl s0 g0;go_enter Tryz.func95,Tryz.ntmps95;go_wp2_with (go_at_call 94;refine(K1.out _ _ _ TA.out).mono ?_;rintro e w' ⟨rfl,rfl⟩);go_ret;exact yC RQ.out (by decide)
 have hl1:((L.length:Int) != 2)=false:=by simp[hl]
 by_cases k1:Pc.kd L 1 3=true
 case neg =>
  have k1f:Pc.kd L 1 3=false:=by simpa using k1
  have RQ:Hid (R=(c,1)):=by unfold Hid;rw[FT.out];simp[hl,k1f]
  clear FT hl s0 g0 k1;go_enter Tryz.func95,Tryz.ntmps95;go_wp2_with (go_at_call 94;refine(K1.out _ _ _ TA.out).mono ?_;rintro e w' ⟨rfl,rfl⟩);go_ret;exact yC RQ.out (by decide)
 by_cases sn:c.seen 4=true
 ·have RQ:Hid (R=(c,7)):=by unfold Hid;rw[FT.out];simp[hl,k1,sn]
  rw[sn] at s0;clear FT hl g0 sn;go_enter Tryz.func95,Tryz.ntmps95;go_wp2_with (go_at_call 94;refine(K1.out _ _ _ TA.out).mono ?_;rintro e w' ⟨rfl,rfl⟩);go_ret;exact yC RQ.out (by decide)
 have snf:c.seen 4=false:=by simpa using sn
 have RQ:Hid (R=(Pc.setField (Pc.setSeen c 4) 4 L,0)):=by unfold Hid;rw[FT.out];simp[hl,k1,snf]
 rw[snf] at s0;obtain⟨t1,hq1⟩:∃t,L[1]?=some t:=⟨_,List.getElem?_eq_getElem (by omega)⟩;have hlc:(1:Int) < (L.length:Int):=by omega
 obtain⟨g,O,rfl,ng1,ng2⟩:=zG TA.out hq1 HB.out hvs HS.out;obtain⟨g',O',e',c0,c1,c2,c3⟩:=TkAt.get TA.out hq1;obtain⟨rfl,rfl⟩:g'=g∧O'=O:=by cases e';exact⟨rfl,rfl⟩
 have T1:=hid (zw hq1);have c6:w.cell? ⟨g',O'+6,none⟩=some (.int .i64 t1.t.num):=c2;have bk:=HB.out.c4;have bf:=HB.out.f4;clear c0 c1 c2 c3 e' hq1 FT sn hl;obtain⟨x,hx⟩:∃x,(Pc.tok L 1).num=x:=⟨_,rfl⟩;rw[← T1.out,hx] at c6;have RQ2:Hid (R=({ Pc.setSeen c 4 with lay:=x },0)):=by unfold Hid;rw[RQ.out,← hx];rfl
 clear RQ hx T1;go_enter Tryz.func95,Tryz.ntmps95;go_wp2_with (go_at_call 94;refine(K1.out _ _ _ TA.out).mono ?_;rintro e w' ⟨rfl,rfl⟩);go_ret;refine⟨by rw[RQ2.out];rfl,fun _=>?_,(KpX.set (X:=zV cb sb) (w:=w) (Or.inr rfl) 4 _).trans (KpX.set (Or.inl rfl) 4 _)⟩;rw[RQ2.out];refine⟨((HB.out.grown (zK w sb 4 _) (by simp;exact hne)).seen 4).set_lay x,?_⟩;exact(SnB.of_block (HS.out.set 4 (by decide)) (Below.heap_setCell _ _ _ _ (fun e=>hne e.symm)) (by simp[World.setCell])).same rfl
theorem Kg(c:Pc.PC)(vs:Fin 6→Value)(cb sb:Nat)(L:List Tk.T4)(v:Value)(w:World)(hB:PcB w cb c vs)(hvs:∀i,∃q n z,vs i=.slice q n z)(hS:SnB w sb c)(hne:cb≠sb)(ht:TkAt w L v) :
 Calls Tryz.prog 95 #[.pointer (some ⟨cb,0,none⟩),.pointer (some ⟨sb,0,none⟩),v,.int .i64 5] w (K8 w cb sb vs (Pc.fieldT c L 5)):=by
 have HB:=hid hB;have HS:=hid hS;have TA:=hid ht;have K1:=hid (fun(j:Nat) (k:Int) (wq:World) (h:TkAt wq L v)=>zA L v j k wq h);have IW:=hid (fun(j:Nat) (s:ByteArray) (wq:World) (h:TkAt wq L v)=>zL L v j s wq h);have FT:Hid (Pc.fieldT c L 5=if (5:Nat) < 6∧(L.length≠2∨Pc.kd L 1 3=false) then (c,1) else if (5:Nat)=6∧(L.length≠4∨Pc.kd L 1 4=false∨Pc.isW L 2 Pc.wTo=false∨Pc.kd L 3 4=false) then (c,1) else if c.seen 5=true then (c,7) else (Pc.setField (Pc.setSeen c 5) 5 L,0)):=rfl;generalize Pc.fieldT c L 5=R at *;obtain⟨p,cap,hv,h1,h2,h3⟩:=ht;subst hv;clear h1 h2 h3;have s0:=hS.s 5 (by decide);have g0:=hS.f 5 (by decide);clear hS hB
 by_cases hl:L.length=2
 case neg =>
  have hl1:((L.length:Int) != 2)=true:=by simp;omega
  have RQ:Hid (R=(c,1)):=by unfold Hid;rw[FT.out];simp[hl]
  clear FT hl s0 g0;go_enter Tryz.func95,Tryz.ntmps95;go_wp2_with (go_at_call 94;refine(K1.out _ _ _ TA.out).mono ?_;rintro e w' ⟨rfl,rfl⟩);go_ret;exact yC RQ.out (by decide)
 have hl1:((L.length:Int) != 2)=false:=by simp[hl]
 by_cases k1:Pc.kd L 1 3=true
 case neg =>
  have k1f:Pc.kd L 1 3=false:=by simpa using k1
  have RQ:Hid (R=(c,1)):=by unfold Hid;rw[FT.out];simp[hl,k1f]
  clear FT hl s0 g0 k1;go_enter Tryz.func95,Tryz.ntmps95;go_wp2_with (go_at_call 94;refine(K1.out _ _ _ TA.out).mono ?_;rintro e w' ⟨rfl,rfl⟩);go_ret;exact yC RQ.out (by decide)
 by_cases sn:c.seen 5=true
 ·have RQ:Hid (R=(c,7)):=by unfold Hid;rw[FT.out];simp[hl,k1,sn]
  rw[sn] at s0;clear FT hl g0 sn;go_enter Tryz.func95,Tryz.ntmps95;go_wp2_with (go_at_call 94;refine(K1.out _ _ _ TA.out).mono ?_;rintro e w' ⟨rfl,rfl⟩);go_ret;exact yC RQ.out (by decide)
 have snf:c.seen 5=false:=by simpa using sn
 have RQ:Hid (R=(Pc.setField (Pc.setSeen c 5) 5 L,0)):=by unfold Hid;rw[FT.out];simp[hl,k1,snf]
 rw[snf] at s0;obtain⟨t1,hq1⟩:∃t,L[1]?=some t:=⟨_,List.getElem?_eq_getElem (by omega)⟩;have hlc:(1:Int) < (L.length:Int):=by omega
 obtain⟨g,O,rfl,ng1,ng2⟩:=zG TA.out hq1 HB.out hvs HS.out;obtain⟨g',O',e',c0,c1,c2,c3⟩:=TkAt.get TA.out hq1;obtain⟨rfl,rfl⟩:g'=g∧O'=O:=by cases e';exact⟨rfl,rfl⟩
 have T1:=hid (zw hq1);have c6:w.cell? ⟨g',O'+6,none⟩=some (.int .i64 t1.t.num):=c2;have bk:=HB.out.c13;have bf:=HB.out.f13;clear c0 c1 c2 c3 e' hq1 FT sn hl;obtain⟨x,hx⟩:∃x,(Pc.tok L 1).num=x:=⟨_,rfl⟩;rw[← T1.out,hx] at c6;have RQ2:Hid (R=({ Pc.setSeen c 5 with gua:=x },0)):=by unfold Hid;rw[RQ.out,← hx];rfl
 clear RQ hx T1;go_enter Tryz.func95,Tryz.ntmps95;go_wp2_with (go_at_call 94;refine(K1.out _ _ _ TA.out).mono ?_;rintro e w' ⟨rfl,rfl⟩);go_ret;refine⟨by rw[RQ2.out];rfl,fun _=>?_,(KpX.set (X:=zV cb sb) (w:=w) (Or.inr rfl) 5 _).trans (KpX.set (Or.inl rfl) 13 _)⟩;rw[RQ2.out];refine⟨((HB.out.grown (zK w sb 5 _) (by simp;exact hne)).seen 5).set_gua x,?_⟩;exact(SnB.of_block (HS.out.set 5 (by decide)) (Below.heap_setCell _ _ _ _ (fun e=>hne e.symm)) (by simp[World.setCell])).same rfl
theorem Kf(c:Pc.PC)(vs:Fin 6→Value)(cb sb:Nat)(L:List Tk.T4)(v:Value)(w:World)(hB:PcB w cb c vs)(hvs:∀i,∃q n z,vs i=.slice q n z)(hS:SnB w sb c)(hne:cb≠sb)(ht:TkAt w L v) :
 Calls Tryz.prog 95 #[.pointer (some ⟨cb,0,none⟩),.pointer (some ⟨sb,0,none⟩),v,.int .i64 6] w (K8 w cb sb vs (Pc.fieldT c L 6)):=by
 have HB:=hid hB;have HS:=hid hS;have TA:=hid ht;have K1:=hid (fun(j:Nat) (k:Int) (wq:World) (h:TkAt wq L v)=>zA L v j k wq h);have IW:=hid (fun(j:Nat) (s:ByteArray) (wq:World) (h:TkAt wq L v)=>zL L v j s wq h);have FT:Hid (Pc.fieldT c L 6=if (6:Nat) < 6∧(L.length≠2∨Pc.kd L 1 3=false) then (c,1) else if (6:Nat)=6∧(L.length≠4∨Pc.kd L 1 4=false∨Pc.isW L 2 Pc.wTo=false∨Pc.kd L 3 4=false) then (c,1) else if c.seen 6=true then (c,7) else (Pc.setField (Pc.setSeen c 6) 6 L,0)):=rfl;generalize Pc.fieldT c L 6=R at *;obtain⟨p,cap,hv,h1,h2,h3⟩:=ht;subst hv;clear h1 h2 h3;have s0:=hS.s 6 (by decide);have g0:=hS.f 6 (by decide);clear hS hB
 by_cases hl:L.length=4
 case neg =>
  have hl1:((L.length:Int) != 4)=true:=by simp;omega
  have RQ:Hid (R=(c,1)):=by unfold Hid;rw[FT.out];simp[hl]
  clear FT hl s0 g0;go_enter Tryz.func95,Tryz.ntmps95;go_wp2_with (go_at_call 94;refine(K1.out _ _ _ TA.out).mono ?_;rintro e w' ⟨rfl,rfl⟩);go_ret;exact yC RQ.out (by decide)
 have hl1:((L.length:Int) != 4)=false:=by simp[hl]
 by_cases k1:Pc.kd L 1 4=true
 case neg =>
  have k1f:Pc.kd L 1 4=false:=by simpa using k1
  have RQ:Hid (R=(c,1)):=by unfold Hid;rw[FT.out];simp[hl,k1f]
  clear FT hl s0 g0 k1;go_enter Tryz.func95,Tryz.ntmps95;go_wp2_with (go_at_call 94;refine(K1.out _ _ _ TA.out).mono ?_;rintro e w' ⟨rfl,rfl⟩);go_ret;exact yC RQ.out (by decide)
 by_cases k2:Pc.isW L 2 Pc.wTo=true
 case neg =>
  have k2f:Pc.isW L 2 Pc.wTo=false:=by simpa using k2
  have RQ:Hid (R=(c,1)):=by unfold Hid;rw[FT.out];simp[hl,k2f,k1]
  clear FT hl s0 g0 k2;go_enter Tryz.func95,Tryz.ntmps95;go_wp2_with (first|(go_at_call 94;refine(K1.out _ _ _ TA.out).mono ?_;rintro e w' ⟨rfl,rfl⟩)|(go_at_call 97;refine(IW.out 2 Pc.wTo _ TA.out).mono ?_;rintro e w' ⟨rfl,rfl⟩));go_ret;exact yC RQ.out (by decide)
 by_cases k3:Pc.kd L 3 4=true
 case neg =>
  have k3f:Pc.kd L 3 4=false:=by simpa using k3
  have RQ:Hid (R=(c,1)):=by unfold Hid;rw[FT.out];simp[hl,k3f,k1,k2]
  clear FT hl s0 g0 k3;go_enter Tryz.func95,Tryz.ntmps95;go_wp2_with (first|(go_at_call 94;refine(K1.out _ _ _ TA.out).mono ?_;rintro e w' ⟨rfl,rfl⟩)|(go_at_call 97;refine(IW.out 2 Pc.wTo _ TA.out).mono ?_;rintro e w' ⟨rfl,rfl⟩));go_ret;exact yC RQ.out (by decide)
 by_cases sn:c.seen 6=true
 ·have RQ:Hid (R=(c,7)):=by unfold Hid;rw[FT.out];simp[hl,k1,k2,k3,sn]
  rw[sn] at s0;clear FT hl g0 sn;go_enter Tryz.func95,Tryz.ntmps95;go_wp2_with (first|(go_at_call 94;refine(K1.out _ _ _ TA.out).mono ?_;rintro e w' ⟨rfl,rfl⟩)|(go_at_call 97;refine(IW.out 2 Pc.wTo _ TA.out).mono ?_;rintro e w' ⟨rfl,rfl⟩));go_ret;exact yC RQ.out (by decide)
 have snf:c.seen 6=false:=by simpa using sn
 have RQ:Hid (R=(Pc.setField (Pc.setSeen c 6) 6 L,0)):=by unfold Hid;rw[FT.out];simp[hl,k1,k2,k3,snf]
 rw[snf] at s0;obtain⟨t1,hq1⟩:∃t,L[1]?=some t:=⟨_,List.getElem?_eq_getElem (by omega)⟩;have hlc:(1:Int) < (L.length:Int):=by omega
 obtain⟨t3,hq3⟩:∃t,L[3]?=some t:=⟨_,List.getElem?_eq_getElem (by omega)⟩;have hlc3:(3:Int) < (L.length:Int):=by omega
 obtain⟨g,O,rfl,ng1,ng2⟩:=zG TA.out hq1 HB.out hvs HS.out;obtain⟨g',O',e',c0,c1,c2,c3⟩:=TkAt.get TA.out hq1;obtain⟨rfl,rfl⟩:g'=g∧O'=O:=by cases e';exact⟨rfl,rfl⟩
 have T1:=hid (zw hq1);obtain⟨g3,O3,e3,q0,q1,q2,q3⟩:=TkAt.get TA.out hq3;obtain⟨rfl,rfl⟩:g3=g'∧O3=O':=by cases e3;exact⟨rfl,rfl⟩
 have T3:=hid (zw hq3);obtain⟨x,hx⟩:∃x,(Pc.tok L 1).num=x:=⟨_,rfl⟩;obtain⟨y,hy⟩:∃y,(Pc.tok L 3).num=y:=⟨_,rfl⟩;rw[← T1.out,hx] at c2;rw[← T3.out,hy] at q2;have gs:=zK w sb 6 (.bool true);have C6:=hid (gs.cell c2 (by simp;exact ng2));have C14:=hid (gs.cell q2 (by simp;exact ng2));have B7:=hid (HB.out.grown gs (by simp;exact hne));have S7:=hid (HS.out.set 6 (by decide));have K7:Hid (KpX (zV cb sb) w (w.setCell ⟨sb,6,none⟩ (.bool true))):=KpX.set (Or.inr rfl) 6 _;have RQ2:Hid (R=({ Pc.setSeen c 6 with nf:=x,nt:=y },0)):=by unfold Hid;rw[RQ.out,← hx,← hy];rfl
 clear c0 c1 c2 c3 q0 q1 q2 q3 e' e3 hq1 hq3 FT sn hl RQ hx hy T1 T3 gs;go_enter Tryz.func95,Tryz.ntmps95;go_upto_region 9 with (first|(go_at_call 94;refine(K1.out _ _ _ TA.out).mono ?_;rintro e w' ⟨rfl,rfl⟩)|(go_at_call 97;refine(IW.out 2 Pc.wTo _ TA.out).mono ?_;rintro e w' ⟨rfl,rfl⟩));generalize w.setCell ⟨sb,6,none⟩ (.bool true)=w7 at *;have c6:w7.cell? ⟨g3,O3+6,none⟩=some (.int .i64 x):=C6.out;have c14:w7.cell? ⟨g3,O3+14,none⟩=some (.int .i64 y):=C14.out;have b5:=B7.out.c5;have b6:=B7.out.c6;have f5:=B7.out.f5;have f6:=B7.out.f6;clear s0 g0
 go_region
 all_goals
  go_wp2;go_ret;refine⟨by rw[RQ2.out];rfl,fun _=>?_,((K7.out.trans (KpX.set (Or.inl rfl) 5 _)).trans (KpX.set (Or.inl rfl) 6 _)).trans (KpX.of_below (Below.refl _ _).drew)⟩;rw[RQ2.out];refine⟨(((B7.out.seen 6).set_nf x).set_nt y).next (Below.refl _ _).drew,?_⟩;have z5:(w7.setCell ⟨cb,5,none⟩ (.int .i64 x)).heap[sb]?=w7.heap[sb]?:=Below.heap_setCell w7 ⟨cb,5,none⟩ (.int .i64 x) sb (fun e=>hne e.symm);have z6:((w7.setCell ⟨cb,5,none⟩ (.int .i64 x)).setCell ⟨cb,6,none⟩ (.int .i64 y)).heap[sb]?=w7.heap[sb]?:=(Below.heap_setCell (w7.setCell ⟨cb,5,none⟩ (.int .i64 x)) ⟨cb,6,none⟩ (.int .i64 y) sb (fun e=>hne e.symm)).trans z5;have z7:SnB ((w7.setCell ⟨cb,5,none⟩ (.int .i64 x)).setCell ⟨cb,6,none⟩ (.int .i64 y)).drew sb (Pc.setSeen c 6):=S7.out.of_block z6 (by show w7.heap.size≤_;simp[World.setCell]);exact z7.same rfl
theorem Qr(c:Pc.PC)(vs:Fin 6→Value)(cb sb:Nat)(L:List Tk.T4)(v:Value)(i:Nat)(hi:i < 7)(w:World)(hB:PcB w cb c vs)(hvs:∀i,∃q n z,vs i=.slice q n z)(hS:SnB w sb c)(hne:cb≠sb)(ht:TkAt w L v) :
 Calls Tryz.prog 95 #[.pointer (some ⟨cb,0,none⟩),.pointer (some ⟨sb,0,none⟩),v,.int .i64 i] w (K8 w cb sb vs (Pc.fieldT c L i)):=by
 have:i=0∨i=1∨i=2∨i=3∨i=4∨i=5∨i=6:=by omega
 rcases this with rfl|rfl|rfl|rfl|rfl|rfl|rfl
 ·exact Kl c vs cb sb L v w hB hvs hS hne ht
 ·exact Kk c vs cb sb L v w hB hvs hS hne ht
 ·exact Kj c vs cb sb L v w hB hvs hS hne ht
 ·exact Ki c vs cb sb L v w hB hvs hS hne ht
 ·exact Kh c vs cb sb L v w hB hvs hS hne ht
 ·exact Kg c vs cb sb L v w hB hvs hS hne ht
 ·exact Kf c vs cb sb L v w hB hvs hS hne ht
end Go.Proofs.YtcejjdmnlejbaaaGreatDoor
