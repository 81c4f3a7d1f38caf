import Derived.Test.YtljdcpobomfnpaaGreatGi
import Derived.Test.YtljdcpobomfnpaaGreatTyo
import Derived.Test.YtljdcpobomfnpaaGreatKtd
import Derived.Deep.QuietTactic
import Derived.BigQuiet
import Derived.Deep.RegionHeld3
import Derived.Laws.OwnMore
import Derived.Maps.AppendAt
import Derived.Lib.LazyBuf
import Derived.Test.YtljdcpobomfnpaaGreatGg
import Derived.Test.YtljdcpobomfnpaaGreatNod
namespace Go.Proofs.YtljdcpobomfnpaaGreat
set_option linter.unusedVariables false
set_option linter.unusedSimpArgs false
open Go.ChangeShapes Go.WideShapes Go.ChangeAt Go.RowKit
open Go.Deep (BT)
def ev1 (nm:ByteArray→Int) (a:Nd) (L:List Int):Int :=
 if a.op=1∨a.op=2∨a.op=3 then a.num else if a.op=4 then 1 else if a.op=5 then 0 else if a.op=6 then nm a.name else opV a.op L
def evF (nm:ByteArray→Int):Fo→List Int
 | .nil=>[]
 | .node _ _ a k r=>ev1 nm a (evF nm k) :: evF nm r
structure FC where
 b:Nat
 o:Nat
 f:Fd
 k:Ff
end Go.Proofs.YtljdcpobomfnpaaGreat
namespace Go.Proofs.YtljdcpobomfnpaaGreat
set_option linter.unusedVariables false
set_option linter.unusedSimpArgs false
open Go.ChangeShapes Go.WideShapes Go.ChangeAt Go.RowKit
open Go.Deep (BT)
structure RT (w:World) (r:Nat):Prop where
 c0:∃ u,w.cell? ⟨r,0,none⟩=some u
 c1:∃ u,w.cell? ⟨r,1,none⟩=some u
 c2:∃ u,w.cell? ⟨r,2,none⟩=some u
 f0:w.frozen? ⟨r,0,none⟩=false
 f1:w.frozen? ⟨r,1,none⟩=false
 f2:w.frozen? ⟨r,2,none⟩=false
 lt:r < w.heap.size
theorem RT.grown {w w':World} {r:Nat} {row:Option Nat} (h:RT w r) (hg:w.grownBy w' row) (hne:some r≠row):RT w' r where
 c0:=by obtain ⟨u,q⟩:=h.c0;exact ⟨u,by rw [World.cell?_of_block (hg.block r h.lt hne)];exact q⟩
 c1:=by obtain ⟨u,q⟩:=h.c1;exact ⟨u,by rw [World.cell?_of_block (hg.block r h.lt hne)];exact q⟩
 c2:=by obtain ⟨u,q⟩:=h.c2;exact ⟨u,by rw [World.cell?_of_block (hg.block r h.lt hne)];exact q⟩
 f0:=by rw [World.frozen?_of_block (hg.block r h.lt hne)];exact h.f0
 f1:=by rw [World.frozen?_of_block (hg.block r h.lt hne)];exact h.f1
 f2:=by rw [World.frozen?_of_block (hg.block r h.lt hne)];exact h.f2
 lt:=Nat.lt_of_lt_of_le h.lt hg.size
theorem RT.next {w w':World} {r:Nat} (h:RT w r) (hb:Below w.heap.size w w'):RT w' r:=h.grown (grw_of_below none hb) (by simp)
end Go.Proofs.YtljdcpobomfnpaaGreat
namespace Go.Proofs.YtljdcpobomfnpaaGreat
set_option linter.unusedVariables false
set_option linter.unusedSimpArgs false
open Go.ChangeShapes Go.WideShapes Go.ChangeAt Go.RowKit
open Go.Maps (has size IsMap)
open Go.Deep (BT)
structure Av where
 name:ByteArray
 val:Int
end Go.Proofs.YtljdcpobomfnpaaGreat
namespace Go.Proofs.YtljdcpobomfnpaaGreat
section
set_option linter.unusedVariables false
set_option linter.unusedSimpArgs false
open Go.RowKit
open Go.Deep (BT)
def nmC (cs:List Cn) (V:List Int) (s:ByteArray):Int:=match firstIx s cs with|some i=>V.getD i 0|none=>0
def cvN (cs:List Cn):Nat→List Int
 | 0=>[]
 | n+1=>cvN cs n++(match cs[n]? with|some c=>[if (rowT cs n).2=0 then ev1 (nmC cs (cvN cs n)) c.a (evF (nmC cs (cvN cs n)) c.k) else 0]|none=>[0])
def cval (cs:List Cn) (i:Nat):Int:=(cvN cs (i+1)).getD i 0
def cvT (cs:List Cn) (s:ByteArray):Int:=match firstIx s cs with|some i=>cval cs i|none=>0
theorem at0 (s:ByteArray):atE 0 s=6:=rfl
end
section
set_option linter.unusedVariables false
set_option linter.unusedSimpArgs false
open Go.RowKit
open Go.Deep (BT)
end
end Go.Proofs.YtljdcpobomfnpaaGreat
namespace Go.Proofs.YtljdcpobomfnpaaGreat
set_option linter.unusedVariables false
set_option linter.unusedSimpArgs false
open Go.RowKit
open Go.Deep (BT)
def vok (t v:Int):Prop:=(t=1∨t=2 → -1099511627776≤v∧v≤1099511627776)∧(t=3→0≤v∧v≤1439)∧(t=4→v=0∨v=1)
end Go.Proofs.YtljdcpobomfnpaaGreat
namespace Go.Proofs.YtljdcpobomfnpaaGreat
section
set_option linter.unusedVariables false
set_option linter.unusedSimpArgs false
open Go.RowKit
open Go.Deep (BT)
def kids:Fo→List Ch
 | .nil=>[]
 | .node b o a k r=>⟨b,o,a,k⟩ :: kids r
def ef:Fo→Fo
 | .nil=>.nil
 | .node _ _ a k r=>.node 0 0 ⟨a.op,a.num,a.name,none,0⟩ (ef k) (ef r)
def ec (c:Ch):Ch:=⟨0,0,⟨c.a.op,c.a.num,c.a.name,none,0⟩,ef c.k⟩
def noN:ByteArray:=⟨#[]⟩
def dE (op num:Int) (s:ByteArray):Ch:=⟨0,0,⟨op,num,s,none,0⟩,.nil⟩
def nE (op:Int) (L:List Ch):Ch:=⟨0,0,⟨op,0,noN,none,0⟩,rowF L⟩
def litE (t v:Int):Ch:=if t=4 then (if v≠0 then dE 4 0 noN else dE 5 0 noN) else if t=3 then dE 3 v noN else if v < 0 then nE 7 [dE (if t=2 then 2 else 1) (-v) noN] else dE (if t=2 then 2 else 1) v noN
def kop (c:Ch):Int:=((kids c.k).headD (dE 0 0 noN)).a.op
def knum (c:Ch):Int:=((kids c.k).headD (dE 0 0 noN)).a.num
def isLit (c:Ch):Bool:=decide (c.a.op=1∨c.a.op=2∨c.a.op=3∨c.a.op=4∨c.a.op=5∨(c.a.op=7∧(kop c=1∨kop c=2)))
def litV (c:Ch):Int:=if c.a.op=1∨c.a.op=2∨c.a.op=3 then c.a.num else if c.a.op=4 then 1 else if c.a.op=5 then 0 else -(knum c)
def zeroB (c:Ch):Bool:=decide ((c.a.op=1∨c.a.op=2)∧c.a.num=0)
def unitB (c:Ch):Bool:=decide (c.a.op=1∧c.a.num=1)
def g0 (L:List Ch):Ch:=L.getD 0 (dE 0 0 noN)
def g1 (L:List Ch):Ch:=L.getD 1 (dE 0 0 noN)
def g2 (L:List Ch):Ch:=L.getD 2 (dE 0 0 noN)
def k0 (c:Ch):Ch:=g0 (kids c.k)
def juncE (op st wk:Int) (L:List Ch):Ch :=
 if (g0 L).a.op=st∨(g1 L).a.op=st then dE st 0 noN else if (g0 L).a.op=wk then g1 L else if (g1 L).a.op=wk then g0 L else nE op L
def notE (c:Ch):Ch:=if c.a.op=19 then k0 c else nE 19 [c]
def implE (L:List Ch):Ch :=
 if (g0 L).a.op=5∨(g1 L).a.op=4 then dE 4 0 noN else if (g0 L).a.op=4 then g1 L else if (g1 L).a.op=5 then notE (g0 L) else nE 22 L
def neutE (op:Int) (is:Ch→Bool) (both:Bool) (L:List Ch):Ch :=
 if is (g1 L)=true then g0 L else if both=true∧is (g0 L)=true then g1 L else nE op L
def redE (op:Int) (L:List Ch):Ch :=
 if op=19 then notE (g0 L) else if op=20 then juncE 20 5 4 L else if op=21 then juncE 21 4 5 L else if op=22 then implE L else
 if op=14 then (if (g0 L).a.op=4 then g1 L else if (g0 L).a.op=5 then g2 L else nE 14 L) else
 if op=8 then neutE 8 zeroB true L else if op=9 then neutE 9 zeroB false L else if op=10 then neutE 10 unitB true L else if op=11 then neutE 11 unitB false L else nE op L
def sim1 (look:Look) (cv:ByteArray→Int) (sc:Int) (a:Nd) (T:List Int) (L:List Ch):Ch :=
 if a.op=6 then (if atE sc a.name=0 then dE 6 0 a.name else litE (look a.name).1 (cv a.name))
 else if L=[] then dE a.op a.num noN
 else if L.all isLit=true then litE (resT a.op T) (opV a.op (L.map litV)) else redE a.op L
def simF (look:Look) (cv:ByteArray→Int) (sc:Int):Fo→List Ch
 | .nil=>[]
 | .node _ _ a k r=>sim1 look cv sc a (tyF look sc k).2 (simF look cv sc k) :: simF look cv sc r
def simT (look:Look) (cv:ByteArray→Int) (sc:Int) (a:Nd) (k:Fo):Ch:=sim1 look cv sc a (tyF look sc k).2 (simF look cv sc k)
def noL:Look:=fun _=>(0,6)
def tyE (sc:Int) (c:Ch):Int × Int:=tyT noL sc c.a c.k
structure SmE (sc t:Int) (c:Ch):Prop where
 ty:tyE sc c=(t,0)
 wf:(wfB c.a (len c.k) && wfT c.k)=true
 er:ec c=c
 lit:isLit c=true→c=litE t (litV c)∧vok t (litV c)
 n19:c.a.op=19→isLit (k0 c)=false∧(k0 c).a.op≠19
def smL (sc:Int):List Int→List Ch→Prop
 | [],[]=>True
 | t :: T,c :: L=>SmE sc t c∧smL sc T L
 | _,_=>False
end
section
set_option linter.unusedVariables false
set_option linter.unusedSimpArgs false
open Go.RowKit
open Go.Deep (BT)
end
section
set_option linter.unusedVariables false
set_option linter.unusedSimpArgs false
open Go.RowKit
open Go.Deep (BT)
end
section
set_option linter.unusedVariables false
set_option linter.unusedSimpArgs false
open Go.RowKit
open Go.Deep (BT)
def kn (t:Int):Int:=if t < 0∨3 < t then 3 else t
def cbE (a b:Int):Int:=if kn a=0 then kn b else if kn b=0∨kn a=kn b then kn a else 3
def ivE (a:Int):Int:=if kn a=1 then 2 else if kn a=2 then 1 else kn a
def sg1 (a:Nd) (S:List (Int × Bool)) (kp:Int):Int × Bool :=
 if a.op=1∨a.op=2 then (min a.num 1,true) else if a.op=7 then (-(S.getD 0 (0,false)).1,(S.getD 0 (0,false)).2 && decide (kp≠7)) else (0,false)
def opF:Fo→Int
 | .nil=>0
 | .node _ _ a _ _=>a.op
def sgF:Fo→List (Int × Bool)
 | .nil=>[]
 | .node _ _ a k r=>sg1 a (sgF k) (opF k) :: sgF r
def scE (t s:Int):Int:=if s=0 then 0 else if s=1 then t else ivE t
def fold3 (L:List Int):Int:=L.foldl cbE 0
def pOp (op:Int) (S:List (Int × Bool)) (L:List Int):Int :=
 if op=7∨op=19 then ivE (L.getD 0 0) else if op=8∨op=20∨op=21∨op=12∨op=13 then fold3 L else
 if op=9 then cbE (L.getD 0 0) (ivE (L.getD 1 0)) else if op=22∨op=16∨op=17 then cbE (ivE (L.getD 0 0)) (L.getD 1 0) else
 if op=10 then (if (S.getD 0 (0,false)).2=true then scE (L.getD 1 0) (S.getD 0 (0,false)).1 else if (S.getD 1 (0,false)).2=true then scE (L.getD 0 0) (S.getD 1 (0,false)).1 else 3) else
 if op=11 then (if (S.getD 1 (0,false)).2=true then scE (L.getD 0 0) (S.getD 1 (0,false)).1 else 3) else
 if op=14 then (if L.getD 0 0=0 then cbE (L.getD 1 0) (L.getD 2 0) else 3) else 3
def nameE (name:ByteArray) (clk:Bool) (s:ByteArray):Int:=if s≠name then 0 else if clk=true then 3 else 1
def pT1 (name:ByteArray) (clk:Bool) (a:Nd) (S:List (Int × Bool)) (L:List Int):Int :=
 if a.op=6 then nameE name clk a.name else if (L.all fun t=>t==0)=true then 0 else pOp a.op S L
def pTF (name:ByteArray) (clk:Bool):Fo→List Int
 | .nil=>[]
 | .node _ _ a k r=>pT1 name clk a (sgF k) (pTF name clk k) :: pTF name clk r
end
end Go.Proofs.YtljdcpobomfnpaaGreat
namespace Go.Proofs.YtljdcpobomfnpaaGreat
set_option linter.unusedVariables false
set_option linter.unusedSimpArgs false
open Go.ChangeShapes Go.WideShapes Go.ChangeAt Go.RowKit
open Go.Deep (BT)
def FoAv (Av:Nat→Prop):Fo→Nat→Prop
 | .nil,_=>True
 | .node b _ _ k r,B=>Av B∧FoAv Av k b∧FoAv Av r B
theorem FoAv.mono {A B:Nat→Prop} (h:∀ g,A g→B g) {T:Fo} {g:Nat} (hT:FoAv A T g):FoAv B T g:=by
 induction T generalizing g with
 | nil=>trivial
 | node b o a k r ihk ihr=>exact ⟨h _ hT.1,ihk hT.2.1,ihr hT.2.2⟩
end Go.Proofs.YtljdcpobomfnpaaGreat
namespace Go.Proofs.YtljdcpobomfnpaaGreat
section
set_option linter.unusedVariables false
set_option linter.unusedSimpArgs false
open Go.ChangeShapes Go.WideShapes Go.ChangeAt Go.RowKit
open Go.Deep (BT)
theorem FoGe.av {T:Fo} {B g:Nat} (h:FoAv (fun x=>B≤x) T g):FoGe B T g:=by
 induction T generalizing g with
 | nil=>trivial
 | node b o a k r ihk ihr=>exact ⟨h.1,ihk h.2.1,ihr h.2.2⟩
theorem FoAv.lt {w:World} {Av:Nat→Prop} {T:Fo} {B O:Nat} (h:FoAt w T B O) (ha:FoAv Av T B):FoAv (fun g=>Av g∧g < w.heap.size) T B:=by
 induction T generalizing B O with
 | nil=>trivial
 | node b o a k r ihk ihr =>
   obtain ⟨⟨h0,-⟩,hp,hkk,hr⟩:=h
   exact ⟨⟨ha.1,block_lt_of_cell h0⟩,ihk hkk ha.2.1,ihr hr ha.2.2⟩
theorem FoAt.grownAv {w w':World} {s:Nat} {T:Fo} {B O:Nat} (h:FoAt w T B O) (ha:FoAv (fun g=>g≠s) T B) (hg:w.grownBy w' (some s)):FoAt w' T B O:=by
 induction T generalizing B O with
 | nil=>trivial
 | node b o a k r ihk ihr =>
   obtain ⟨⟨h0,h1,h2,h3⟩,hp,hkk,hr⟩:=h
   have e:∀ i,w'.cell? ⟨B,i,none⟩=w.cell? ⟨B,i,none⟩:=fun i=>World.cell?_of_block (hg.block B (block_lt_of_cell h0) (fun q=>ha.1 (Option.some.inj q)))
   exact ⟨⟨by rw [e];exact h0,by rw [e];exact h1,by rw [e];exact h2,by rw [e];exact h3⟩,hp,ihk hkk ha.2.1,ihr hr ha.2.2⟩
end
section
set_option linter.unusedVariables false
set_option linter.unusedSimpArgs false
open Go.ChangeShapes Go.WideShapes Go.ChangeAt Go.RowKit
open Go.Maps (has size IsMap)
open Go.Deep (BT)
end
end Go.Proofs.YtljdcpobomfnpaaGreat
namespace Go.Proofs.YtljdcpobomfnpaaGreat
section
set_option linter.unusedVariables false
set_option linter.unusedSimpArgs false
open Go.RowKit
open Go.Deep (BT)
end
section
set_option linter.unusedVariables false
set_option linter.unusedSimpArgs false
open Go.ChangeShapes Go.WideShapes Go.ChangeAt Go.RowKit
open Go.Deep (BT)
theorem ExAt.set4 {wx:World} {B r:Nat} {c:Ch} {u0 u1 u2 u3:Value} (h:ChAt wx B c) (hr:r < B):ChAt ((((wx.setCell ⟨r,0,none⟩ u0).setCell ⟨r,1,none⟩ u1).setCell ⟨r,2,none⟩ u2).setCell ⟨r,3,none⟩ u3) B c:=by
 have g:∀ (w:World) (i:Nat) (u:Value),w.grownBy (w.setCell ⟨r,i,none⟩ u) (some r):=fun w i u=>⟨rfl,rfl,rfl,by simp [World.setCell],fun k hk hr=>Below.heap_setCell _ _ _ _ (fun e=>hr (by rw [e]))⟩
 exact h.grown hr ((((g _ _ _).trans (g _ _ _)).trans (g _ _ _)).trans (g _ _ _))
end
end Go.Proofs.YtljdcpobomfnpaaGreat
namespace Go.Proofs.YtljdcpobomfnpaaGreat
section
set_option linter.unusedVariables false
set_option linter.unusedSimpArgs false
open Go.ChangeShapes Go.WideShapes Go.ChangeAt Go.RowKit
open Go.Deep (BT)
theorem rowC_len4 (L:List Ch):(rowC L).length=L.length * 4:=by
 induction L with
 | nil=>rfl
 | cons c l ih=>simp [rowC,chC] at *;omega
theorem set_four (A:List Value) (x0 x1 x2 x3:Value) (Z:List Value) (a b c d:Value) (i:Nat) (hi:A.length=i):((((A++([x0,x1,x2,x3]++Z)).set i a).set (i+1) b).set (i+2) c).set (i+3) d=A++([a,b,c,d]++Z):=by
 subst hi
 rw [List.set_append_right _ _ (Nat.le_refl _),Nat.sub_self,List.set_append_right _ _ (by omega),List.set_append_right _ _ (by omega),List.set_append_right _ _ (by omega)]
 simp
def set4 (w:World) (g i:Nat) (c:Ch):World:=(((w.setCell ⟨g,i,none⟩ (.int .i64 c.a.op)).setCell ⟨g,i+1,none⟩ (.int .i64 c.a.num)).setCell ⟨g,i+2,none⟩ (.string c.a.name)).setCell ⟨g,i+3,none⟩ (.slice c.a.ptr (len c.k) c.a.cap)
theorem own_set4 {wr:World} {B gs n cap j:Nat} {Dn:List Ch} {x0 x1 x2 x3:Value} {Z:List Value} (h:wr.ownsRow B 34 4 (.slice (some ⟨gs,0,none⟩) n cap) n (rowC Dn++([x0,x1,x2,x3]++Z))) (hd:Dn.length=j) (c:Ch) :
 (set4 wr gs (j * 4) c).ownsRow B 34 4 (.slice (some ⟨gs,0,none⟩) n cap) n (rowC (Dn++[c])++Z)∧wr.grownBy (set4 wr gs (j * 4) c) (some gs):=by
 obtain ⟨o1,g1⟩:=h.stored (j * 4) (.int .i64 c.a.op)
 obtain ⟨o2,g2⟩:=o1.stored (j * 4+1) (.int .i64 c.a.num)
 obtain ⟨o3,g3⟩:=o2.stored (j * 4+2) (.string c.a.name)
 obtain ⟨o4,g4⟩:=o3.stored (j * 4+3) (.slice c.a.ptr (len c.k) c.a.cap)
 have hl:=rowC_len4 Dn
 rw [hd] at hl
 rw [set_four _ _ _ _ _ _ _ _ _ _ _ hl] at o4
 refine ⟨?_,((g1.trans g2).trans g3).trans g4⟩
 have e:rowC (Dn++[c])++Z=rowC Dn++([.int .i64 c.a.op,.int .i64 c.a.num,.string c.a.name,.slice c.a.ptr (len c.k) c.a.cap]++Z):=by simp [rowC,chC]
 rw [e]
 exact o4
end
section
set_option linter.unusedVariables false
set_option linter.unusedSimpArgs false
open Go.ChangeShapes Go.WideShapes Go.ChangeAt Go.RowKit
open Go.Deep (BT)
theorem tl_ne {s t:ByteArray} (h:s≠t):(s.toList==t.toList)=false:=by
 rw [Lib.toList_data,Lib.toList_data]
 simpa using fun q=>h (ByteArray.ext (Array.toList_inj.1 q))
end
end Go.Proofs.YtljdcpobomfnpaaGreat
namespace Go.Proofs.YtljdcpobomfnpaaGreat
set_option linter.unusedVariables false
set_option linter.unusedSimpArgs false
open Go.ChangeShapes Go.WideShapes Go.ChangeAt Go.RowKit
open Go.Deep (BT)
theorem results_cell_tmp {fn:Func} {p u:Tmp} {ty:TypeId} (h:fn.results=#[.cell p ty,.tmp u]) (tmps:Array Value) (P:Program) (w:World) :
 (results fn tmps).run P w=((asAddr (tmps.getD p undef)).run P w).andThen fun a w₁=>((loadVar ty a).run P w₁).andThen fun v w₂=>.ok (.tuple #[v,tmps.getD u undef]) w₂:=by
 simp only [results,h]
 simp [Sem.run_bind,Result.andThen]
def simpR (cs:List Cn) (sc:Int) (a:Nd) (k:Fo):Ch × Int :=
 if (typeOfT cs sc a k).2≠0 then (dE 0 0 noN,(typeOfT cs sc a k).2) else
 if valE (simT (lookT cs (tabN cs cs.length)) (cvT cs) sc a k).a (simT (lookT cs (tabN cs cs.length)) (cvT cs) sc a k).k=10 then (dE 0 0 noN,10) else (simT (lookT cs (tabN cs cs.length)) (cvT cs) sc a k,0)
end Go.Proofs.YtljdcpobomfnpaaGreat
namespace Go.Proofs.YtljdcpobomfnpaaGreat
section
set_option linter.unusedVariables false
set_option linter.unusedSimpArgs false
open Go.ChangeShapes Go.WideShapes Go.ChangeAt Go.RowKit
open Go.Deep (BT)
end
section
set_option linter.unusedVariables false
set_option linter.unusedSimpArgs false
open Go.ChangeShapes Go.WideShapes Go.ChangeAt Go.RowKit
open Go.Deep (BT)
end
section
set_option linter.unusedVariables false
set_option linter.unusedSimpArgs false
open Go.RowKit
open Go.Deep (BT)
theorem CsAt.take {w:World} {cs:List Cn} {B O:Nat} (h:CsAt w cs B O) (j:Nat):CsAt w (cs.take j) B O:=by
 induction cs generalizing O j with
 | nil=>simp;trivial
 | cons c cs ih =>
   cases j with
   | zero=>trivial
   | succ j=>exact ⟨h.1,h.2.1,ih h.2.2 j⟩
theorem CsV.take {w:World} {cs:List Cn} {p:Option Addr} (h:CsV w cs p) (j:Nat):CsV w (cs.take j) p:=by
 obtain ⟨⟨B,O,h1,h2⟩,h3,h4⟩:=h
 refine ⟨⟨B,O,fun q=>h1 (by rintro rfl;simp at q),h2.take j⟩,fun c hc=>h3 c (List.mem_of_mem_take hc),?_⟩
 rw [List.length_take];omega
end
section
set_option linter.unusedVariables false
set_option linter.unusedSimpArgs false
open Go.ChangeShapes Go.WideShapes Go.ChangeAt Go.RowKit
open Go.Deep (BT)
end
section
set_option linter.unusedVariables false
set_option linter.unusedSimpArgs false
open Go.ChangeShapes Go.WideShapes Go.ChangeAt Go.RowKit
open Go.Deep (BT)
end
end Go.Proofs.YtljdcpobomfnpaaGreat
namespace Go.Proofs.YtljdcpobomfnpaaGreat
set_option linter.unusedVariables false
set_option linter.unusedSimpArgs false
open Go.ChangeShapes Go.WideShapes Go.ChangeAt Go.RowKit
open Go.Deep (BT)
theorem grw_set (w:World) (g i:Nat) (u:Value):w.grownBy (w.setCell ⟨g,i,none⟩ u) (some g):=⟨rfl,rfl,rfl,by simp [World.setCell],fun k hk hr=>Below.heap_setCell _ _ _ _ (fun e=>hr (by rw [e]))⟩
theorem ExAt.grownO {w w':World} {b o:Nat} {a:Nd} {k:Fo} {row:Option Nat} (h:ExAt w b o a k) (ha:FoAv (fun g=>row≠some g) k b) (hg:w.grownBy w' row):ExAt w' b o a k:=by
 cases row with
 | some s=>exact ⟨h.1,h.2.grownAv (ha.mono fun g hg e=>hg (by rw [e])) hg⟩
 | none =>
   have hb:Below w.heap.size w w':=⟨hg.os,hg.tape,hg.output,hg.size,fun m hm=>hg.block m hm (by simp)⟩
   exact h.next hb
end Go.Proofs.YtljdcpobomfnpaaGreat
namespace Go.Proofs.YtljdcpobomfnpaaGreat
set_option linter.unusedVariables false
set_option linter.unusedSimpArgs false
open Go.ChangeShapes Go.WideShapes Go.ChangeAt Go.RowKit
open Go.Deep (BT)
theorem FoAv.all {Av:Nat→Prop} (h:∀ g,Av g) (T:Fo) (B:Nat):FoAv Av T B:=by
 induction T generalizing B with
 | nil=>trivial
 | node b o a k r ihk ihr=>exact ⟨h _,ihk _,ihr _⟩
end Go.Proofs.YtljdcpobomfnpaaGreat
namespace Go.Proofs.YtljdcpobomfnpaaGreat
section
set_option linter.unusedVariables false
set_option linter.unusedSimpArgs false
open Go.ChangeShapes Go.WideShapes Go.ChangeAt Go.RowKit
open Go.Deep (BT)
def pC (name:ByteArray) (clk:Bool) (c:Ch):Int:=pT1 name clk c.a (sgF c.k) (pTF name clk c.k)
def ofT (cs:List Cn) (sc:Int) (a:Nd) (k:Fo) (name:ByteArray):Int × Int :=
 if (simpR cs sc a k).2≠0 then (0,(simpR cs sc a k).2) else if atE sc name≠0 then (0,6) else (pC name (decide (atS sc name=3)) (simpR cs sc a k).1,0)
end
section
set_option linter.unusedVariables false
set_option linter.unusedSimpArgs false
open Go.ChangeShapes Go.WideShapes Go.ChangeAt Go.RowKit
open Go.Deep (BT)
end
end Go.Proofs.YtljdcpobomfnpaaGreat
namespace Go.Proofs.YtljdcpobomfnpaaGreat
set_option linter.unusedVariables false
set_option linter.unusedSimpArgs false
open Go.RowKit
open Go.Deep (BT)
def rel (t v w:Int):Prop:=(t=0→v=w)∧(t=1→v≤w)∧(t=2→w≤v)
end Go.Proofs.YtljdcpobomfnpaaGreat
