import Derived.OwnWalk
import Derived.Laws.AppendOwn
import Derived.Maps.OwnSet
import Derived.Maps.Views
import Derived.DeepKeys4
import Derived.Test.YtcejjdmnlejbaaaGreatDoorVRzP
import Derived.Test.YtcejjdmnlejbaaaGreatDoorVRzQ
import Derived.Test.YtcejjdmnlejbaaaGreatDoorVRzU
import Derived.Test.YtcejjdmnlejbaaaGreatDoorVRzX
import Derived.Test.YtcejjdmnlejbaaaGreatDoorVTkR
namespace Go.Proofs.YtcejjdmnlejbaaaGreatDoor
open Lib(hid)
set_option linter.unusedVariables false
set_option linter.unusedSimpArgs false
open Go.ChangeShapes Go.WideShapes Go.ChangeAt Go.RowKit
open Go.Deep (BT)
set_option maxHeartbeats 1000000
set_option maxRecDepth 100000
structure RAll (L:List Tk.T4) (i:Nat):Prop where
 ex:RC 133 L .ex i
 dj:RC 159 L .dj i
 cj:RC 178 L .cj i
 ng:RC 193 L .ng i
 cm:RC 201 L .cm i
 sm:RC 205 L .sm i
 tm:RC 210 L .tm i
 fc:RC 211 L .fc i
theorem vG(L:List Tk.T4)(hV:∀t∈ L,VT t.t):∀n i,i≤L.length→L.length - i < n→RAll L i:=by
 intro n
 induction n with
 | zero=>intro i _ h;omega
 | succ n ih =>
   intro i hi hn;have IH:∀j,i < j→j≤L.length→RAll L j:=fun j a b=>ih j b (by omega);have hfc:=U6 L i hV (fun j a b=>(IH j a b).fc) (fun j a b=>(IH j a b).ex) (fun hi op hop=>KT L i hi op hop (fun j a b=>(IH j a b).ex));have htm:=KV L i hfc (fun j a b=>(IH j a b).fc);have hsm:=KZ L i htm (fun j a b=>(IH j a b).tm);have hcm:=Ui L i hsm (fun j a b=>(IH j a b).sm);have hng:=U3 L i hcm (fun j a b=>(IH j a b).ng);have hcj:=Ul L i hng (fun j a b=>(IH j a b).ng);have hdj:=Ug L i hcj (fun j a b=>(IH j a b).cj);exact⟨U8 L i hdj (fun j a b=>(IH j a b).ex),hdj,hcj,hng,hcm,hsm,htm,hfc⟩
theorem uX(L:List Tk.T4)(hV:∀t∈ L,VT t.t)(i:Nat)(hi:i≤L.length):RC 133 L .ex i:=(vG L hV _ i hi (Nat.lt_succ_self _)).ex
def yM(L:List Tk.T4):Int:=match Pz.pv L .ex 0 with
 | (some _,j)=>if j < L.length then j else -1
 | (none,j)=>j
def Uu(L:List Tk.T4)(w:World)(e:Ending)(w':World):Prop:=∃c:Ch,e=.returned (.tuple #[.agg #[.int .i64 c.a.op,.int .i64 c.a.num,.string c.a.name,.slice c.a.ptr (len c.k) c.a.cap],.int .i64 (yM L)])∧(∀x j,Pz.pv L .ex 0=(some x,j)→Pz.nr c=x∧ExAt w' c.b c.o c.a c.k∧∀r,r < w.heap.size→Pz.FNe r c.k c.b)∧Below w.heap.size w w'
theorem xE{L:List Tk.T4}{w W:World}{e:Ending}(h:Uu L w e W):Uu L w e W.drew:=by
 obtain⟨c,h1,h2,h3⟩:=h;exact⟨c,h1,fun x j hx=>⟨(h2 x j hx).1,⟨(h2 x j hx).2.1.1,(h2 x j hx).2.1.2.next ((Below.refl _ _).drew)⟩,(h2 x j hx).2.2⟩,h3.drew⟩
theorem vv(L:List Tk.T4)(p:Option Addr)(cap:Nat)(w:World)(hV:∀t∈ L,VT t.t)(ht:TkB w L p w.heap.size) :
 Calls Tryz.prog 98 #[.slice p L.length cap] w (Uu L w):=by
 have TB:=hid ht;have HV:=hid hV;have hL4:=ht.1;clear ht hV;go_enter Tryz.func98,Tryz.ntmps98;go_wp2_with fail
 have S1:Hid (jZ (w.heap.size+1) L p cap 0 ((w.alloc (.cells #[.int .i64 0,.int .i64 0,.string ⟨#[]⟩,.slice none 0 0] 24)).alloc (.cells #[.slice p L.length cap,.int .i64 0,.int .i64 (-1)] 161))) :=
  ⟨⟨by simp[go_sem],by simp[go_sem],by simp[go_sem],by simp[go_sem],by simp[go_sem],by simp,by
    have h9:=TB.out.below (((Below.refl w.heap.size w).alloc (Nat.le_refl _) (.cells #[.int .i64 0,.int .i64 0,.string ⟨#[]⟩,.slice none 0 0] 24)).alloc (by simp) (.cells #[.slice p L.length cap,.int .i64 0,.int .i64 (-1)] 161)) (Nat.le_refl _);refine⟨h9.1,fun q=>?_⟩;obtain⟨g,O,e,hg,hc⟩:=h9.2 q;exact⟨g,O,e,by omega,hc⟩⟩,Nat.zero_le _⟩
 have B1:Hid (Below w.heap.size w ((w.alloc (.cells #[.int .i64 0,.int .i64 0,.string ⟨#[]⟩,.slice none 0 0] 24)).alloc (.cells #[.slice p L.length cap,.int .i64 0,.int .i64 (-1)] 161))):=((Below.refl _ _).alloc (Nat.le_refl _) _).alloc (by simp) _;have R1:Hid (Pz.B4 ((w.alloc (.cells #[.int .i64 0,.int .i64 0,.string ⟨#[]⟩,.slice none 0 0] 24)).alloc (.cells #[.slice p L.length cap,.int .i64 0,.int .i64 (-1)] 161)) w.heap.size Pz.z0):=(Pz.b4_alloc w Pz.z0 _ rfl _).next ((Below.refl _ _).alloc (Nat.le_refl _) _)
 generalize (w.alloc (.cells #[.int .i64 0,.int .i64 0,.string ⟨#[]⟩,.slice none 0 0] 24)).alloc (.cells #[.slice p L.length cap,.int .i64 0,.int .i64 (-1)] 161)=w1 at *;refine(uX L HV.out 0 (Nat.zero_le _) (w.heap.size+1) p cap w1 S1.out).mono ?_;rintro e w2 ⟨c,rfl,hf⟩;have AD:Hid (Pz.Ok L 0 (Pz.pv L .ex 0) 1):=Pz.pv_adv L .ex 0 (Nat.zero_le _)
 have BT:Hid (yM L=match Pz.pv L .ex 0 with
  | (some _,j)=>if j < L.length then (j:Int) else -1
  | (none,j)=>(j:Int)):=rfl
 have hs1:w.heap.size+1 < w1.heap.size:=jo S1.out;have PV:Hid (Pz.pv L .ex 0=Pz.pv L .ex 0):=rfl;obtain⟨r0,hr0⟩:∃r0,Pz.pv L .ex 0=r0:=⟨_,rfl⟩;rw[hr0] at hf AD BT;clear PV;have PV:=hid hr0;clear hr0;obtain⟨o,j⟩:=r0;dsimp only at BT hf;have F2:=hid hf.1;have S2:=hid hf.2.1;have G2:=hid hf.2.2;have R2:=hid (R1.out.grown hf.2.2 (by simp));have B2:Hid (Below w.heap.size w w2):=B1.out.trans (Pz.below_of_gb G2.out (by omega) hs1);have hjl:j≤L.length:=AD.out.2.1;clear hf B1 S1 R1;go_upto_region 3 with (fail);have X3:Hid (Pz.B4 (w2.alloc (.cells #[.int .i64 c.a.op,.int .i64 c.a.num,.string c.a.name,.slice c.a.ptr (len c.k) c.a.cap] 24)) w2.heap.size c):=Pz.b4_alloc w2 c _ rfl _;have N3:Hid (Below w2.heap.size w2 (w2.alloc (.cells #[.int .i64 c.a.op,.int .i64 c.a.num,.string c.a.name,.slice c.a.ptr (len c.k) c.a.cap] 24))):=(Below.refl _ _).alloc (Nat.le_refl _) _;have hs2:w.heap.size+1 < w2.heap.size:=Nat.lt_of_lt_of_le hs1 G2.out.size;obtain⟨xb,hxb⟩:∃xb,w2.heap.size=xb:=⟨_,rfl⟩;rw[hxb] at X3;rw[hxb];have hxs:w.heap.size+1 < xb:=by omega
 have hxr:xb≠w.heap.size:=by omega
 have hrx:w.heap.size≠xb:=by omega
 have B3:=hid (B2.out.trans (N3.out.mono B2.out.size));have R3:=hid (R2.out.next N3.out)
 have FX:Hid (∀x,o=some x→Pz.nr c=x∧ExAt (w2.alloc (.cells #[.int .i64 c.a.op,.int .i64 c.a.num,.string c.a.name,.slice c.a.ptr (len c.k) c.a.cap] 24)) c.b c.o c.a c.k∧Pz.FNe w.heap.size c.k c.b∧Pz.FNe (w.heap.size+1) c.k c.b):=fun x hx=>by
  obtain⟨h1,h2,h3,h4⟩:=F2.out x hx;exact⟨h1,h2.next N3.out,h4 w.heap.size (by omega) (fun d hd=>by cases hd),h3⟩
 have S3:=hid (qJ _ _ _ _ _ _ _ _ S2.out (N3.out.mono hs2));have FR:Hid (∀x,o=some x→∀r,r < w.heap.size→Pz.FNe r c.k c.b):=fun x hx r hr=>(F2.out x hx).2.2.2 r (by omega) (fun d hd=>by cases hd);generalize w2.alloc (.cells #[.int .i64 c.a.op,.int .i64 c.a.num,.string c.a.name,.slice c.a.ptr (len c.k) c.a.cap] 24)=w3 at *;clear F2 S2 G2 R2 B2 N3 hxb
 have END:Hid (∀(w4:World) (b:Int),Below w.heap.size w w4→Pz.B4 w4 xb c→Pz.B4 w4 w.heap.size Pz.z0→yM L=b→(∀x,o=some x→Pz.nr c=x∧ExAt w4 c.b c.o c.a c.k∧Pz.FNe w.heap.size c.k c.b)→
  Uu L w (.returned (.tuple #[.agg #[.int .i64 c.a.op,.int .i64 c.a.num,.string c.a.name,.slice c.a.ptr (len c.k) c.a.cap],.int .i64 b])) ((((w4.setCell ⟨w.heap.size,0,none⟩ (.int .i64 c.a.op)).setCell ⟨w.heap.size,1,none⟩ (.int .i64 c.a.num)).setCell ⟨w.heap.size,2,none⟩ (.string c.a.name)).setCell ⟨w.heap.size,3,none⟩ (.slice c.a.ptr (len c.k) c.a.cap))):=fun w4 b h1 h2 h3 h4 h5=>by
  refine⟨c,by rw[h4],fun x j9 hx=>?_,h1.trans (Pz.below_of_gb (Pz.gb_four w4 w.heap.size _ _ _ _) (Nat.le_refl _) h3.lt)⟩;rw[PV.out] at hx;obtain⟨q1,q2,q3⟩:=h5 x (by injection hx);exact⟨q1,⟨q2.1,Pz.fat_grown q2.2 q3 (Pz.gb_four _ _ _ _ _ _)⟩,FR.out x (by injection hx)⟩
 cases o with
 | none =>
   obtain⟨a,w3S⟩:=(show Yk (w.heap.size+1) L p cap j w3 from S3.out);have hb0:¬(j:Int) < 0:=(by omega);have y2:=w3S.c2;go_upto_region 5 with (fail);clear y2;have c2:=w3S.c2;obtain⟨x0,x1,x2,x3,-,-,-,-,xl⟩:=X3.out;obtain⟨r0,r1,r2,r3,f0,f1,f2,f3,rl⟩:=R3.out;dsimp only[Pz.z0,len] at r0 r1 r2 r3 f0 f1 f2 f3 rl;have sl:=w3S.lt;have TX:=hid (END.out w3 (j:Int) B3.out X3.out R3.out BT.out (fun x hx=>by cases hx))
   first|(go_region_with (fail))|fail
   all_goals
    go_wp2;refine bodyPost_ret (v:=.tuple #[.agg #[.int .i64 c.a.op,.int .i64 c.a.num,.string c.a.name,.slice c.a.ptr (len c.k) c.a.cap],.int .i64 (j:Int)]) ?_ rfl ?_
    ·rw [results_cell_tmp rfl];go_simp
    ·first|exact TX.out|exact xE TX.out
 | some x =>
   have w3S:=(show jZ (w.heap.size+1) L p cap j w3 from S3.out).1;have hb0:(-1:Int) < 0:=(by omega);have y2:=w3S.c2;have y1:=w3S.c1
   by_cases hj:j < L.length
   ·have hj2:(j:Int) < (L.length:Int):=by omega
    have BT2:Hid (yM L=(j:Int)):=(by unfold Hid;rw[BT.out];exact if_pos hj);go_wp2_with fail;refine(jA (w.heap.size+1) L p cap j w3 S3.out).mono ?_;rintro e w4 ⟨rfl,hs,hg⟩;have X4:=hid (X3.out.grown hg (by simp;omega));have R4:=hid (R3.out.grown hg (by simp));have B4:Hid (Below w.heap.size w w4):=B3.out.trans (Pz.below_of_gb hg (by omega) w3S.lt)
    have FX4:Hid (∀x',some x=some x'→Pz.nr c=x'∧ExAt w4 c.b c.o c.a c.k∧Pz.FNe w.heap.size c.k c.b):=fun x' hx=>by
     obtain⟨h1,h2,h3,h4⟩:=FX.out x' hx;exact⟨h1,⟨h2.1,Pz.fat_grown h2.2 h4 hg⟩,h3⟩
    obtain⟨a,w4S⟩:=hs;clear hg y1 y2 w3S;go_upto_region 5 with (fail);have c2:=w4S.c2;obtain⟨x0,x1,x2,x3,-,-,-,-,xl⟩:=X4.out;obtain⟨r0,r1,r2,r3,f0,f1,f2,f3,rl⟩:=R4.out;dsimp only[Pz.z0,len] at r0 r1 r2 r3 f0 f1 f2 f3 rl;have sl:=w4S.lt;have TX:=hid (END.out w4 (j:Int) B4.out X4.out R4.out BT2.out FX4.out)
    first|(go_region_with (fail))|fail
    all_goals
     go_wp2;refine bodyPost_ret (v:=.tuple #[.agg #[.int .i64 c.a.op,.int .i64 c.a.num,.string c.a.name,.slice c.a.ptr (len c.k) c.a.cap],.int .i64 (j:Int)]) ?_ rfl ?_
     ·rw [results_cell_tmp rfl];go_simp
     ·first|exact TX.out|exact xE TX.out
   ·have hj2:¬(j:Int) < (L.length:Int):=by omega
    have BT2:Hid (yM L = -1):=by unfold Hid;rw[BT.out];exact if_neg hj
    have FX4:Hid (∀x',some x=some x'→Pz.nr c=x'∧ExAt w3 c.b c.o c.a c.k∧Pz.FNe w.heap.size c.k c.b):=fun x' hx=>by
     obtain⟨h1,h2,h3,h4⟩:=FX.out x' hx;exact⟨h1,h2,h3⟩
    go_upto_region 5 with (fail);clear y1 y2;have c2:=w3S.c2;obtain⟨x0,x1,x2,x3,-,-,-,-,xl⟩:=X3.out;obtain⟨r0,r1,r2,r3,f0,f1,f2,f3,rl⟩:=R3.out;dsimp only[Pz.z0,len] at r0 r1 r2 r3 f0 f1 f2 f3 rl;have sl:=w3S.lt;have TX:=hid (END.out w3 (-1) B3.out X3.out R3.out BT2.out FX4.out)
    first|(go_region_with (fail))|fail
    all_goals
     go_wp2;refine bodyPost_ret (v:=.tuple #[.agg #[.int .i64 c.a.op,.int .i64 c.a.num,.string c.a.name,.slice c.a.ptr (len c.k) c.a.cap],.int .i64 (-1)]) ?_ rfl ?_
     ·rw [results_cell_tmp rfl];go_simp
     ·first|exact TX.out|exact xE TX.out
section
open Go Go.RowKit
namespace Att
def duty1:List (List UInt8):=[[108,101,103,115],[104,101,97,100,115],[116,121,112,101,115]]
def duty2:List (List UInt8):=[[98,108,111,99,107],[115,112,97,110],[110,105,103,104,116],[108,111,110,103,101,115,116],[115,104,111,114,116,101,115,116],[115,104,105,102,116]]
def duty3:List (List UInt8):=[[115,116,97,114,116],[101,110,100]]
def pair1:List (List UInt8):=[[100,117,116,105,101,115],[108,101,103,115],[104,101,97,100,115],[100,97,121,115]]
def pair2:List (List UInt8):=[[98,108,111,99,107],[115,112,97,110],[99,114,101,100,105,116]]
def rest:List UInt8:=[114,101,115,116]
def nights:List UInt8:=[110,105,103,104,116,115]
def home:List UInt8:=[104,111,109,101]
def before:List UInt8:=[98,101,102,111,114,101,46]
def after:List UInt8:=[97,102,116,101,114,46]
def isIn(l:List UInt8)(ws:List (List UInt8)):Bool:=ws.any fun x=>l==x
def dutyT(l:List UInt8):Int:=if isIn l duty1=true then 1 else if isIn l duty2=true then 2 else if isIn l duty3=true then 3 else 0
def pairT(l:List UInt8):Int:=if isIn l pair1=true then 1 else if isIn l pair2=true then 2 else 0
def restT(l:List UInt8):Int:=if (l==rest)=true then 2 else if (l==nights)=true then 1 else if (l==home)=true then 4 else
 if Lib.hasPrefix l before=true then dutyT (l.drop 7) else if Lib.hasPrefix l after=true then dutyT (l.drop 6) else 0
def atT(sc:Int)(l:List UInt8):Int:=if sc=1 then dutyT l else if sc=2 then restT l else if sc=3 then pairT l else 0
end Att
def pairS(s:ByteArray):Int:=Att.pairT s.data.toList
def atS(sc:Int)(s:ByteArray):Int:=Att.atT sc s.data.toList
def atE(sc:Int)(s:ByteArray):Int:=if atS sc s=0 then 6 else 0
end
section
end
section
open Go.RowKit
def allI(L:List Int)(k:Int):Bool:=L.all fun x=>x==k
def V5(k:Int):Bool:=decide (k=1∨k=2)
def UK(op a b:Int):Int :=
 if a=1∧b=1 then 1 else if a=2∧b=1 then 2 else if op=10∧a=1∧b=2 then 2 else if op=11∧a=2∧b=2 then 1 else 0
def cmpB(op:Int)(L:List Int):Bool :=
 if op=15 then allI L 3 else if op=16∨op=17 then V5 (L.getD 0 0) && (L.getD 0 0==L.getD 1 0) else if op=18 then (L.getD 0 0==L.getD 1 0) else allI L 4
def Km(op:Int)(L:List Int):Int :=
 if op=1 then 1 else if op=2 then 2 else if op=3 then 3 else if op=4∨op=5 then 4 else
 if op=7∨op=8∨op=9∨op=12∨op=13 then (if (V5 (L.getD 0 0) && allI L (L.getD 0 0))=true then L.getD 0 0 else 0) else
 if op=10∨op=11 then UK op (L.getD 0 0) (L.getD 1 0) else
 if op=14 then (if L.getD 0 0=4∧L.getD 1 0=L.getD 2 0 then L.getD 1 0 else 0) else (if cmpB op L=true then 4 else 0)
abbrev K0:=ByteArray→Int× Int
def KH(look:K0)(sc:Int)(s:ByteArray):Int× Int:=if atE sc s=0 then (atS sc s,0) else look s
def J7(look:K0)(sc:Int):Fo→Int× List Int
 | .nil=>(0,[])
 | .node _ _ a k r =>
   let t:Int× Int:=if a.op=6 then KH look sc a.name else if (J7 look sc k).1=0 then (if Km a.op (J7 look sc k).2=0 then (0,9) else (Km a.op (J7 look sc k).2,0)) else (0,(J7 look sc k).1)
   if t.2=0 then (if (J7 look sc r).1=0 then (0,t.1 :: (J7 look sc r).2) else ((J7 look sc r).1,[])) else (t.2,[])
def tyT(look:K0)(sc:Int)(a:Nd)(k:Fo):Int× Int :=
 if a.op=6 then KH look sc a.name else if (J7 look sc k).1=0 then (if Km a.op (J7 look sc k).2=0 then (0,9) else (Km a.op (J7 look sc k).2,0)) else (0,(J7 look sc k).1)
structure Cn where
 name:ByteArray
 b:Nat
 o:Nat
 a:Nd
 k:Fo
end
section
end
section
end
section
end
section
end
section
open Go.RowKit
end
section
end
section
theorem own_below{w w':World}{base:Nat}{e:TypeId}{size:Nat}{v:Value}{n:Nat}{xs:List Value}(h:w.ownsRow base e size v n xs)(hb:Below w.heap.size w w'):w'.ownsRow base e size v n xs :=
 h.kept (yT hb none) (by cases v.ownBlock<;>simp)
end
section
open Go.Maps (has size IsMap)
end
section
open Go.Maps (has size IsMap)
theorem Tryz.keyS:Go.Maps.Keyed Tryz.prog 9:=Go.Maps.string_keyed Tryz.underlying9
end
section
def Keeps(w w':World):Prop:=∀p v,w.cell? p=some v→w'.cell? p=some v
theorem Keeps.refl(w:World):Keeps w w:=fun _ _ h=>h
theorem Keeps.trans{a b c:World}(h:Keeps a b)(k:Keeps b c):Keeps a c:=fun p v q=>k p v (h p v q)
theorem Keeps.of_below{w w':World}(h:Below w.heap.size w w'):Keeps w w':=fun p v q=>by rw[h.cell (block_lt_of_cell q)];exact q
theorem FoAt.keep{w w':World}{T:Fo}{B O:Nat}(h:FoAt w T B O)(hk:Keeps w w'):FoAt w' T B O:=by
 induction T generalizing B O with
 | nil=>trivial
 | node b o a k r ihk ihr =>
   obtain⟨⟨h0,h1,h2,h3⟩,hp,hkk,hr⟩:=h;exact⟨⟨hk _ _ h0,hk _ _ h1,hk _ _ h2,hk _ _ h3⟩,hp,ihk hkk,ihr hr⟩
theorem ExAt.keep{w w':World}{b o:Nat}{a:Nd}{k:Fo}(h:ExAt w b o a k)(hk:Keeps w w'):ExAt w' b o a k:=⟨h.1,h.2.keep hk⟩
theorem vf{a b:World}(row:Option Nat)(k:Below a.heap.size a b):a.grownBy b row:=⟨k.os,k.tape,k.output,k.size,fun i hi hr=>k.block i hi⟩
end
open Go.Maps (has size IsMap)
def ku(a b:Int):Int:=if a≠0 then a else b
theorem zi{a b:Int}(h:a≠0):ku a b=a:=by unfold ku;rw[if_pos h]
theorem yk(b:Int):ku 0 b=b:=by unfold ku;rw[if_neg (by simp)]
def fe(f:Nat→Int):Nat→Nat→Int
 | _,0=>0
 | j,n+1=>ku (f j) (fe f (j+1) n)
theorem k6{f:Nat→Int}{j n:Nat}(h:j < n):fe f j (n - j)=ku (f j) (fe f (j+1) (n - (j+1))):=by
 obtain⟨m,hm⟩:∃m,n - j=m+1:=⟨n - j - 1,by omega⟩;rw[hm,show n - (j+1)=m by omega];rfl
theorem jp{f:Nat→Int}{j n:Nat}(h:n≤j):fe f j (n - j)=0:=by rw[Nat.sub_eq_zero_of_le h];rfl
structure Ru where
 sc:Int
 name:ByteArray
 b:Nat
 o:Nat
 a:Nd
 k:Fo
structure Co where
 sc:Int
 b:Nat
 o:Nat
 a:Nd
 k:Fo
structure Li where
 name:ByteArray
 meas:ByteArray
 most:Int
 days:Int
structure Of where
 name:ByteArray
 count:Int
 days:Int
def Bd(x:Int):Prop := -9223372036854775808≤x∧x≤9223372036854775807
def X4(w:World)(B O:Nat)(b o:Nat)(a:Nd)(k:Fo):Prop :=
 (w.cell? ⟨B,O,none⟩=some (.int .i64 a.op)∧w.cell? ⟨B,O+1,none⟩=some (.int .i64 a.num)∧w.cell? ⟨B,O+2,none⟩=some (.string a.name)∧w.cell? ⟨B,O+3,none⟩=some (.slice a.ptr (len k) a.cap))∧ExAt w b o a k∧yS a k
def CnP(w:World)(B O:Nat)(c:Cn):Prop:=w.cell? ⟨B,O,none⟩=some (.string c.name)∧X4 w B (O+1) c.b c.o c.a c.k∧c.name.size≤9223372036854775807
def RuP(w:World)(B O:Nat)(r:Ru):Prop:=w.cell? ⟨B,O,none⟩=some (.int .i64 r.sc)∧w.cell? ⟨B,O+1,none⟩=some (.string r.name)∧X4 w B (O+2) r.b r.o r.a r.k∧Bd r.sc∧r.name.size≤9223372036854775807
def CoP(w:World)(B O:Nat)(r:Co):Prop:=w.cell? ⟨B,O,none⟩=some (.int .i64 r.sc)∧X4 w B (O+1) r.b r.o r.a r.k∧Bd r.sc
def LiP(w:World)(B O:Nat)(r:Li):Prop:=w.cell? ⟨B,O,none⟩=some (.string r.name)∧w.cell? ⟨B,O+1,none⟩=some (.string r.meas)∧w.cell? ⟨B,O+2,none⟩=some (.int .i64 r.most)∧w.cell? ⟨B,O+3,none⟩=some (.int .i64 r.days)∧Bd r.most∧Bd r.days∧r.name.size≤9223372036854775807∧r.meas.size≤9223372036854775807
def OfP(w:World)(B O:Nat)(r:Of):Prop:=w.cell? ⟨B,O,none⟩=some (.string r.name)∧w.cell? ⟨B,O+1,none⟩=some (.int .i64 r.count)∧w.cell? ⟨B,O+2,none⟩=some (.int .i64 r.days)∧Bd r.count∧Bd r.days∧r.name.size≤9223372036854775807
theorem qb{w w':World}{a:Addr}{v:Value}(h:w.cell? a=some v)(hb:Below w.heap.size w w'):w'.cell? a=some v:=by rw[hb.cell (block_lt_of_cell h)];exact h
theorem X4.next{w w':World}{B O b o:Nat}{a:Nd}{k:Fo}(h:X4 w B O b o a k)(hb:Below w.heap.size w w'):X4 w' B O b o a k :=
 ⟨⟨qb h.1.1 hb,qb h.1.2.1 hb,qb h.1.2.2.1 hb,qb h.1.2.2.2 hb⟩,h.2.1.next hb,h.2.2⟩
theorem CnP.next{w w':World}{B O:Nat}{c:Cn}(h:CnP w B O c)(hb:Below w.heap.size w w'):CnP w' B O c:=⟨qb h.1 hb,h.2.1.next hb,h.2.2⟩
theorem RuP.next{w w':World}{B O:Nat}{c:Ru}(h:RuP w B O c)(hb:Below w.heap.size w w'):RuP w' B O c:=⟨qb h.1 hb,qb h.2.1 hb,h.2.2.1.next hb,h.2.2.2⟩
theorem CoP.next{w w':World}{B O:Nat}{c:Co}(h:CoP w B O c)(hb:Below w.heap.size w w'):CoP w' B O c:=⟨qb h.1 hb,h.2.1.next hb,h.2.2⟩
theorem LiP.next{w w':World}{B O:Nat}{c:Li}(h:LiP w B O c)(hb:Below w.heap.size w w'):LiP w' B O c:=⟨qb h.1 hb,qb h.2.1 hb,qb h.2.2.1 hb,qb h.2.2.2.1 hb,h.2.2.2.2⟩
theorem OfP.next{w w':World}{B O:Nat}{c:Of}(h:OfP w B O c)(hb:Below w.heap.size w w'):OfP w' B O c:=⟨qb h.1 hb,qb h.2.1 hb,qb h.2.2.1 hb,h.2.2.2⟩
def RowV{α:Type}(P:World→Nat→Nat→α→Prop)(s:Nat)(w:World)(L:List α)(p:Option Addr):Prop :=
 L.length≤9223372036854775807∧∃B O,(L≠[]→p=some ⟨B,O,none⟩)∧∀(i:Nat) (x:α),L[i]?=some x→P w B (O+i * s) x
theorem RowV.get{α:Type}{P:World→Nat→Nat→α→Prop}{s:Nat}{w:World}{L:List α}{p:Option Addr}(h:RowV P s w L p){i:Nat}{x:α}(hi:L[i]?=some x):∃B O,p=some ⟨B,O,none⟩∧P w B (O+i * s) x:=by
 obtain⟨-,B,O,h1,h2⟩:=h;exact⟨B,O,h1 (by rintro rfl;simp at hi),h2 i x hi⟩
theorem RowV.map{α:Type}{P:World→Nat→Nat→α→Prop}{s:Nat}{w w':World}{L:List α}{p:Option Addr}(h:RowV P s w L p)(hP:∀B O x,P w B O x→P w' B O x):RowV P s w' L p:=by
 obtain⟨h0,B,O,h1,h2⟩:=h;exact⟨h0,B,O,h1,fun i x hi=>hP _ _ _ (h2 i x hi)⟩
def CrV(w:World)(T:Fo)(p:Option Addr):Prop:=len T≤9223372036854775807∧jV T∧∃b o,(T≠.nil→p=some ⟨b,o,none⟩)∧FoAt w T b o
theorem CrV.next{w w':World}{T:Fo}{p:Option Addr}(h:CrV w T p)(hb:Below w.heap.size w w'):CrV w' T p:=by
 obtain⟨h0,h1,b,o,h2,h3⟩:=h;exact⟨h0,h1,b,o,h2,h3.next hb⟩
structure Ct where
 rep:Int
 rel:Int
 con:Int
 sit:Int
 lay:Int
 nf:Int
 nt:Int
 gua:Int
 cs:List Cn
 rs:List Ru
 os:List Co
 cr:Fo
 ls:List Li
 fs:List Of
structure Cp where
 cs:Option Addr
 rs:Option Addr
 os:Option Addr
 cr:Option Addr
 ls:Option Addr
 fs:Option Addr
 ccs:Nat
 crs:Nat
 cos:Nat
 ccr:Nat
 cls:Nat
 cfs:Nat
structure CtV (w:World) (c:Ct) (p:Cp):Prop where
 cs:RowV CnP 5 w c.cs p.cs
 rs:RowV RuP 6 w c.rs p.rs
 os:RowV CoP 5 w c.os p.os
 cr:CrV w c.cr p.cr
 ls:RowV LiP 4 w c.ls p.ls
 fs:RowV OfP 3 w c.fs p.fs
 b0:Bd c.rep∧Bd c.rel∧Bd c.con∧Bd c.sit∧Bd c.lay∧Bd c.nf∧Bd c.nt∧Bd c.gua
 cap:c.cs.length≤p.ccs
theorem CtV.next{w w':World}{c:Ct}{p:Cp}(h:CtV w c p)(hb:Below w.heap.size w w'):CtV w' c p where
 cs:=h.cs.map fun _ _ _ q=>q.next hb
 rs:=h.rs.map fun _ _ _ q=>q.next hb
 os:=h.os.map fun _ _ _ q=>q.next hb
 cr:=h.cr.next hb
 ls:=h.ls.map fun _ _ _ q=>q.next hb
 fs:=h.fs.map fun _ _ _ q=>q.next hb
 b0:=h.b0
 cap:=h.cap
def yG{α:Type} [DecidableEq α](L:List α)(x:α):Bool:=decide (x∈ L)
theorem kU{α:Type} [DecidableEq α](L:List α)(y x:α):yG (L++[y]) x=(yG L x || decide (x=y)):=by
 unfold yG;rw[Bool.eq_iff_iff];simp
def Jk(sc:Int):Bool:=decide (1≤sc∧sc≤3)
def zu:List (List UInt8)× List (List UInt8):=([[98,108,111,99,107],[115,112,97,110],[110,105,103,104,116],[99,114,101,100,105,116]],[[108,101,103,115],[104,101,97,100,115],[100,117,116,105,101,115]])
def yn(s:ByteArray):Int:=if zu.1.any (fun x=>s.data.toList==x)=true then 2 else if zu.2.any (fun x=>s.data.toList==x)=true then 1 else 0
def zm(cs:List Cn)(j:Nat):Int:=match cs[j]? with
 | none=>0
 | some c=>if yJ c.name=false then 1 else if yG ((cs.take j).map (·.name)) c.name=true then 7 else yF c.a c.k
def zb(rs:List Ru)(j:Nat):Int:=match rs[j]? with
 | none=>0
 | some r=>if Jk r.sc=false∨yJ r.name=false then 1 else if yG ((rs.take j).map fun r=>(r.sc,r.name)) (r.sc,r.name)=true then 7 else yF r.a r.k
def zX(os:List Co)(j:Nat):Int:=match os[j]? with
 | none=>0
 | some r=>if Jk r.sc=false then 1 else yF r.a r.k
def kL:Fo→Int
 | .nil=>0
 | .node _ _ a k r=>ku (yF a k) (kL r)
def jz(ls:List Li)(j:Nat):Int:=match ls[j]? with
 | none=>0
 | some l=>if yJ l.name=false then 1 else if yG ((ls.take j).map (·.name)) l.name=true then 7 else if yn l.meas=0 then 6 else if (0≤l.most∧l.most≤599999)∧(1≤l.days∧l.days≤31) then 0 else 5
def jx(ls:List Li)(fs:List Of)(j:Nat):Int:=match fs[j]? with
 | none=>0
 | some f=>if yJ f.name=false then 1 else if yG (ls.map (·.name)++(fs.take j).map (·.name)) f.name=true then 7 else if (1≤f.days∧f.days≤31)∧(1≤f.count∧f.count≤f.days) then 0 else 5
def uW(c:Ct):Bool:=decide ((0≤c.rep∧c.rep≤1440)∧(0≤c.rel∧c.rel≤1440)∧(0≤c.con∧c.con≤1440)∧(c.con≤c.sit∧c.sit≤1440)∧(0≤c.lay∧c.lay≤10080)∧(0≤c.nf∧c.nf≤1439)∧(0≤c.nt∧c.nt≤1439)∧(0≤c.gua∧c.gua≤599999))
def jJ(c:Ct):Bool:=decide (c.cs.length≤32∧c.rs.length≤40∧c.os.length≤16∧len c.cr≤1∧c.ls.length≤16∧c.fs.length≤16)
def JO(c:Ct):Int:=fe (zm c.cs) 0 c.cs.length
def Jm(c:Ct):Int:=fe (zb c.rs) 0 c.rs.length
def JN(c:Ct):Int:=fe (zX c.os) 0 c.os.length
def UT(c:Ct):Int:=fe (jz c.ls) 0 c.ls.length
def UN(c:Ct):Int:=fe (jx c.ls c.fs) 0 c.fs.length
def uL(c:Ct):Int:=ku (UT c) (UN c)
def yP(c:Ct):Int:=if uW c=false then 5 else if jJ c=false then 10 else ku (JO c) (ku (Jm c) (ku (JN c) (ku (kL c.cr) (uL c))))
def SetM{α:Type} [DecidableEq α](P:Program)(kt bt:TypeId)(key:α→Value)(w:World)(b:Nat)(L:List α):Prop :=
 ∃D:DataW Unit,w.ownsMap P kt (plainElem P bt) b L.length D∧IsMap D∧∀(x:α) (kl:Lit),keyOf P kt (key x)=some kl→D.atKey kl (.lit (.bool false))=.lit (.bool (yG L x))
theorem SetM.start{α:Type} [DecidableEq α](P:Program)(kt bt:TypeId)(key:α→Value)(w:World):SetM P kt bt key (w.alloc (.map #[] 0)) w.heap.size [] :=
 ⟨.map [],World.ownsMap_made _ _ _ _,⟨[],rfl⟩,fun x kl _=>by simp[yG];rfl⟩
theorem SetM.kept{α:Type} [DecidableEq α]{P:Program}{kt bt:TypeId}{key:α→Value}{w w':World}{b:Nat}{L:List α}{row:Option Nat}(h:SetM P kt bt key w b L)(hg:w.grownBy w' row)(hne:some b≠row):SetM P kt bt key w' b L:=by
 obtain⟨D,h1,h2,h3⟩:=h;exact⟨D,h1.kept hg hne,h2,h3⟩
theorem SetM.next{α:Type} [DecidableEq α]{P:Program}{kt bt:TypeId}{key:α→Value}{w w':World}{b:Nat}{L:List α}(h:SetM P kt bt key w b L)(hb:Below w.heap.size w w'):SetM P kt bt key w' b L :=
 h.kept (yT hb none) (by simp)
theorem SetM.lt{α:Type} [DecidableEq α]{P:Program}{kt bt:TypeId}{key:α→Value}{w:World}{b:Nat}{L:List α}(h:SetM P kt bt key w b L):b < w.heap.size:=by
 obtain⟨D,h1,-⟩:=h;exact h1.lt
theorem k8{P:Program}{e:TypeId}(he:P.underlying e=some .bool){v:Value}{z:DataW Unit× List MemPlace}(h:plainElem P e v=some z):∃x,v=.bool x∧z=(.lit (.bool x),[]):=by
 cases v<;>simp[plainElem,he] at h;exact⟨_,rfl,h.symm⟩
theorem SetM.look{α:Type} [DecidableEq α]{P:Program}{kt bt mt:TypeId}{key:α→Value}{w:World}{b:Nat}{L:List α}(h:SetM P kt bt key w b L)(K:Go.Maps.Keyed P kt)(ht:P.underlying mt=some (.map kt bt))(hb:P.underlying bt=some .bool)(hz:(zeroValue bt).run P w=.ok (.bool false) w)
 (x:α) {kl:Lit} (hk:keyOf P kt (key x)=some kl):(Instr.lookup mt (.map (some b)) (key x) false).run P w=.ok (.bool (yG L x)) w:=by
 obtain⟨D,h1,h2,h3⟩:=h;obtain⟨v,ps,hrun,hv⟩:=h1.lookup K ht hz (plainElem_bool hb false) hk;obtain⟨c,rfl,hc⟩:=k8 hb hv;have q:=h3 x kl hk;have e:=congrArg Prod.fst hc;have h9:(DataW.lit (Lit.bool c):DataW Unit)=.lit (.bool (yG L x)):=e.symm.trans q;injection h9 with h9
 injection h9 with h9
 rw[← h9];exact hrun
theorem SetM.put{α:Type} [DecidableEq α]{P:Program}{kt bt mt:TypeId}{key:α→Value}{w:World}{b:Nat}{L:List α}(h:SetM P kt bt key w b L)(K:Go.Maps.Keyed P kt)(ht:P.underlying mt=some (.map kt bt))(hb:P.underlying bt=some .bool)(hl:L.length < maxLen)(hinj:∀x y,key x=key y→x=y)
 (x:α) {kl:Lit} (hk:keyOf P kt (key x)=some kl):∃w',(Instr.mapUpdate mt (.map (some b)) (key x) (.bool true)).run P w=.ok () w'∧SetM P kt bt key w' b (L++[x])∧w.grownBy w' (some b):=by
 obtain⟨D,h1,h2,h3⟩:=h;obtain⟨w',hrun,ho,hg⟩:=h1.update K ht hl hk (plainElem_bool hb true);refine⟨w',hrun,⟨_,by rw[List.length_append];exact ho,h2.put _ _,fun y ky hy=>?_⟩,hg⟩;rw[kU]
 by_cases e:y=x
 ·subst e;obtain rfl:ky=kl:=Option.some.inj (hy.symm.trans hk);rw[Go.Maps.atKey_put_same h2 (K.key hk)];simp
 ·have hne:ky≠kl:=fun q=>e (hinj _ _ (K.inj hy (q ▸ hk)));rw[Go.Maps.atKey_put_other hne,h3 y ky hy];simp[e]
open Go.RowKit
namespace Pc
structure PC where
 rep:Int
 rel:Int
 con:Int
 sit:Int
 lay:Int
 nf:Int
 nt:Int
 gua:Int
 seen:Nat→Bool
 cs:List (ByteArray× Ch)
 rs:List (Int× ByteArray× Ch)
 os:List (Int× Ch)
 cr:List Ch
 ls:List Li
 fs:List Of
def wReport:ByteArray:=⟨#[114,101,112,111,114,116]⟩
def wRelease:ByteArray:=⟨#[114,101,108,101,97,115,101]⟩
def wConnect:ByteArray:=⟨#[99,111,110,110,101,99,116]⟩
def wSit:ByteArray:=⟨#[115,105,116]⟩
def wLayover:ByteArray:=⟨#[108,97,121,111,118,101,114]⟩
def wGuarantee:ByteArray:=⟨#[103,117,97,114,97,110,116,101,101]⟩
def wNight:ByteArray:=⟨#[110,105,103,104,116]⟩
def wConst:ByteArray:=⟨#[99,111,110,115,116]⟩
def wIs:ByteArray:=⟨#[105,115]⟩
def wRule:ByteArray:=⟨#[114,117,108,101]⟩
def wCost:ByteArray:=⟨#[99,111,115,116]⟩
def wCredit:ByteArray:=⟨#[99,114,101,100,105,116]⟩
def wLimit:ByteArray:=⟨#[108,105,109,105,116]⟩
def wOff:ByteArray:=⟨#[111,102,102]⟩
def wIn:ByteArray:=⟨#[105,110]⟩
def wTo:ByteArray:=⟨#[116,111]⟩
def wDays:ByteArray:=⟨#[100,97,121,115]⟩
def wDuty:ByteArray:=⟨#[100,117,116,121]⟩
def wRest:ByteArray:=⟨#[114,101,115,116]⟩
def wPairing:ByteArray:=⟨#[112,97,105,114,105,110,103]⟩
def fieldsL:List ByteArray:=[wReport,wRelease,wConnect,wSit,wLayover,wGuarantee,wNight]
def scopeT(s:ByteArray):Int:=if s=wDuty then 1 else if s=wRest then 2 else if s=wPairing then 3 else 0
def tok(L:List Tk.T4)(i:Nat):Tk.T3:=match L[i]? with
 | some t=>t.t
 | none=>⟨0,⟨#[]⟩,0⟩
def kd(L:List Tk.T4)(i:Nat)(k:Int):Bool:=decide (i < L.length) && decide ((tok L i).kind=k)
def isW(L:List Tk.T4)(i:Nat)(s:ByteArray):Bool:=kd L i 1 && decide ((tok L i).text=s)
def nmd(L:List Tk.T4)(i:Nat):Bool:=kd L i 1 && yJ (tok L i).text
def tree(L:List Tk.T4):Ch:=match (Pz.pv L .ex 0).1 with
 | some x=>x
 | none=>⟨0,0,⟨0,0,⟨#[]⟩,none,0⟩,.nil⟩
def setSeen(c:PC)(i:Nat):PC:={ c with seen:=fun j=>if j=i then true else c.seen j }
def setField(c:PC)(i:Nat)(L:List Tk.T4):PC:=match i with
 | 0=>{ c with rep:=(tok L 1).num }
 | 1=>{ c with rel:=(tok L 1).num }
 | 2=>{ c with con:=(tok L 1).num }
 | 3=>{ c with sit:=(tok L 1).num }
 | 4=>{ c with lay:=(tok L 1).num }
 | 5=>{ c with gua:=(tok L 1).num }
 | _=>{ c with nf:=(tok L 1).num,nt:=(tok L 3).num }
def fieldT(c:PC)(L:List Tk.T4)(i:Nat):PC× Int :=
 if i < 6∧(L.length≠2∨kd L 1 3=false) then (c,1) else
 if i=6∧(L.length≠4∨kd L 1 4=false∨isW L 2 wTo=false∨kd L 3 4=false) then (c,1) else
 if c.seen i=true then (c,7) else (setField (setSeen c i) i L,0)
def ifEx(c:PC)(L:List Tk.T4)(f:Ch→PC):PC× Int:=if 0≤yM L then (c,1) else (f (tree L),0)
def declT(c:PC)(L:List Tk.T4):PC× Int :=
 if kd L 0 1=false then (c,1) else
 match fieldsL.findIdx? (fun s=>decide (s=(tok L 0).text)) with
 | some i=>fieldT c L i
 | none =>
   if (tok L 0).text=wConst∧nmd L 1=true∧isW L 2 wIs=true then ifEx c (L.drop 3) fun x=>{ c with cs:=c.cs++[((tok L 1).text,x)] } else
   if scopeT (tok L 0).text≠0∧isW L 1 wRule=true∧nmd L 2=true∧isW L 3 wIs=true then ifEx c (L.drop 4) fun x=>{ c with rs:=c.rs++[(scopeT (tok L 0).text,(tok L 2).text,x)] } else
   if scopeT (tok L 0).text≠0∧isW L 1 wCost=true∧isW L 2 wIs=true then ifEx c (L.drop 3) fun x=>{ c with os:=c.os++[(scopeT (tok L 0).text,x)] } else
   if (tok L 0).text=wDuty∧isW L 1 wCredit=true∧isW L 2 wIs=true then ifEx c (L.drop 3) fun x=>{ c with cr:=c.cr++[x] } else
   if (tok L 0).text=wLimit∧L.length=8∧nmd L 1=true∧isW L 2 wIs=true∧kd L 3 1=true∧isW L 5 wIn=true∧kd L 6 2=true∧isW L 7 wDays=true then
    (if (yn (tok L 3).text=2∧kd L 4 3=true)∨(yn (tok L 3).text=1∧kd L 4 2=true) then ({ c with ls:=c.ls++[⟨(tok L 1).text,(tok L 3).text,(tok L 4).num,(tok L 6).num⟩] },0) else (c,1)) else
   if (tok L 0).text=wOff∧L.length=7∧nmd L 1=true∧isW L 2 wIs=true∧kd L 3 2=true∧isW L 4 wIn=true∧kd L 5 2=true∧isW L 6 wDays=true then ({ c with fs:=c.fs++[⟨(tok L 1).text,(tok L 3).num,(tok L 5).num⟩] },0) else
   (c,1)
def linesT:PC→Nat→List ByteArray→PC× Int× Int
 | c,_,[]=>(c,0,0)
 | c,i,s :: r =>
   if (Tk.scanT s).2.2≠0 then (c,(i:Int)+1,(Tk.scanT s).2.2) else
   if (Tk.scanT s).1=[] then linesT c (i+1) r else
   if (declT c (Tk.scanT s).1).2≠0 then (c,(i:Int)+1,(declT c (Tk.scanT s).1).2) else linesT (declT c (Tk.scanT s).1).1 (i+1) r
def pc0:PC:=⟨0,0,0,1440,2880,0,0,0,fun _=>false,[],[],[],[],[],[]⟩
end Pc
end Go.Proofs.YtcejjdmnlejbaaaGreatDoor
