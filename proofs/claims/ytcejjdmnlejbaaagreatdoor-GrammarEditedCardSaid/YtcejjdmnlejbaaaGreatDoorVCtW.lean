import Derived.Laws.OwnMore
import Derived.Lib.LazyBuf
import Derived.Test.YtcejjdmnlejbaaaGreatDoorVPca
namespace Go.Proofs.YtcejjdmnlejbaaaGreatDoor
open Option.some(inj)
open Lib(hid)
set_option linter.unusedVariables false
set_option linter.unusedSimpArgs false
open Go.ChangeShapes Go.WideShapes Go.ChangeAt Go.RowKit
open Go.Deep (BT)
set_option maxHeartbeats 4000000
set_option maxRecDepth 100000
section
def i64B(x:Int):Prop := -9223372036854775808≤x∧x≤9223372036854775807
def Uk(n:Int):Int:=max (-1099511627776) (min 1099511627776 n)
def UV(b:Bool):Int:=if b=true then 1 else 0
def limV(k n:Int):Int:=if k=3 then n % 1440 else if k=4 then UV (decide (n≠0)) else Uk n
end
section
structure Fd where
 op:Int
 num:Int
 ptr:Option Addr
 cap:Nat
abbrev Ff:=BT Fd
def UP(x:Int):Int:=IntKind.i64.wrap (1 - x)
end
section
end
structure FC where
 b:Nat
 o:Nat
 f:Fd
 k:Ff
open Go.Maps (has size IsMap)
structure Av where
 name:ByteArray
 val:Int
section
open Go.RowKit
theorem at0(s:ByteArray):atE 0 s=6:=rfl
end
section
open Go.RowKit
end
open Go.RowKit
def vok(t v:Int):Prop:=(t=1∨t=2→ -1099511627776≤v∧v≤1099511627776)∧(t=3→0≤v∧v≤1439)∧(t=4→v=0∨v=1)
section
open Go.RowKit
def kids:Fo→List Ch
 | .nil=>[]
 | .node b o a k r=>⟨b,o,a,k⟩ :: kids r
def ef:Fo→Fo
 | .nil=>.nil
 | .node _ _ a k r=>.node 0 0 ⟨a.op,a.num,a.name,none,0⟩ (ef k) (ef r)
def ec(c:Ch):Ch:=⟨0,0,⟨c.a.op,c.a.num,c.a.name,none,0⟩,ef c.k⟩
def Jw:ByteArray:=⟨#[]⟩
def dE(op num:Int)(s:ByteArray):Ch:=⟨0,0,⟨op,num,s,none,0⟩,.nil⟩
def nE(op:Int)(L:List Ch):Ch:=⟨0,0,⟨op,0,Jw,none,0⟩,qH L⟩
def litE(t v:Int):Ch:=if t=4 then (if v≠0 then dE 4 0 Jw else dE 5 0 Jw) else if t=3 then dE 3 v Jw else if v < 0 then nE 7 [dE (if t=2 then 2 else 1) (-v) Jw] else dE (if t=2 then 2 else 1) v Jw
def kop(c:Ch):Int:=((kids c.k).headD (dE 0 0 Jw)).a.op
def knum(c:Ch):Int:=((kids c.k).headD (dE 0 0 Jw)).a.num
def isLit(c:Ch):Bool:=decide (c.a.op=1∨c.a.op=2∨c.a.op=3∨c.a.op=4∨c.a.op=5∨(c.a.op=7∧(kop c=1∨kop c=2)))
def US(c:Ch):Int:=if c.a.op=1∨c.a.op=2∨c.a.op=3 then c.a.num else if c.a.op=4 then 1 else if c.a.op=5 then 0 else -(knum c)
def zeroB(c:Ch):Bool:=decide ((c.a.op=1∨c.a.op=2)∧c.a.num=0)
def g0(L:List Ch):Ch:=L.getD 0 (dE 0 0 Jw)
def g1(L:List Ch):Ch:=L.getD 1 (dE 0 0 Jw)
def g2(L:List Ch):Ch:=L.getD 2 (dE 0 0 Jw)
def k0(c:Ch):Ch:=g0 (kids c.k)
def noL:K0:=fun _=>(0,6)
def tyE(sc:Int)(c:Ch):Int× Int:=tyT noL sc c.a c.k
structure SmE (sc t:Int) (c:Ch):Prop where
 ty:tyE sc c=(t,0)
 wf:(jN c.a (len c.k) && jO c.k)=true
 er:ec c=c
 lit:isLit c=true→c=litE t (US c)∧vok t (US c)
 n19:c.a.op=19→isLit (k0 c)=false∧(k0 c).a.op≠19
def smL(sc:Int):List Int→List Ch→Prop
 | [],[]=>True
 | t :: T,c :: L=>SmE sc t c∧smL sc T L
 | _,_=>False
end
section
open Go.RowKit
end
section
open Go.RowKit
end
section
open Go.RowKit
def kn(t:Int):Int:=if t < 0∨3 < t then 3 else t
def Vc(a b:Int):Int:=if kn a=0 then kn b else if kn b=0∨kn a=kn b then kn a else 3
def V8(a:Int):Int:=if kn a=1 then 2 else if kn a=2 then 1 else kn a
def sg1(a:Nd)(S:List (Int× Bool))(kp:Int):Int× Bool :=
 if a.op=1∨a.op=2 then (min a.num 1,true) else if a.op=7 then (-(S.getD 0 (0,false)).1,(S.getD 0 (0,false)).2 && decide (kp≠7)) else (0,false)
def opF:Fo→Int
 | .nil=>0
 | .node _ _ a _ _=>a.op
def V7:Fo→List (Int× Bool)
 | .nil=>[]
 | .node _ _ a k r=>sg1 a (V7 k) (opF k) :: V7 r
def scE(t s:Int):Int:=if s=0 then 0 else if s=1 then t else V8 t
def UU(L:List Int):Int:=L.foldl Vc 0
def pOp(op:Int)(S:List (Int× Bool))(L:List Int):Int :=
 if op=7∨op=19 then V8 (L.getD 0 0) else if op=8∨op=20∨op=21∨op=12∨op=13 then UU L else
 if op=9 then Vc (L.getD 0 0) (V8 (L.getD 1 0)) else if op=22∨op=16∨op=17 then Vc (V8 (L.getD 0 0)) (L.getD 1 0) else
 if op=10 then (if (S.getD 0 (0,false)).2=true then scE (L.getD 1 0) (S.getD 0 (0,false)).1 else if (S.getD 1 (0,false)).2=true then scE (L.getD 0 0) (S.getD 1 (0,false)).1 else 3) else
 if op=11 then (if (S.getD 1 (0,false)).2=true then scE (L.getD 0 0) (S.getD 1 (0,false)).1 else 3) else
 if op=14 then (if L.getD 0 0=0 then Vc (L.getD 1 0) (L.getD 2 0) else 3) else 3
def UR(name:ByteArray)(clk:Bool)(s:ByteArray):Int:=if s≠name then 0 else if clk=true then 3 else 1
def pT1(name:ByteArray)(clk:Bool)(a:Nd)(S:List (Int× Bool))(L:List Int):Int :=
 if a.op=6 then UR name clk a.name else if (L.all fun t=>t==0)=true then 0 else pOp a.op S L
def pTF(name:ByteArray)(clk:Bool):Fo→List Int
 | .nil=>[]
 | .node _ _ a k r=>pT1 name clk a (V7 k) (pTF name clk k) :: pTF name clk r
end
def FoAv(Av:Nat→Prop):Fo→Nat→Prop
 | .nil,_=>True
 | .node b _ _ k r,B=>Av B∧FoAv Av k b∧FoAv Av r B
theorem FoAv.mono{A B:Nat→Prop}(h:∀g,A g→B g){T:Fo}{g:Nat}(hT:FoAv A T g):FoAv B T g:=by
 induction T generalizing g with
 | nil=>trivial
 | node b o a k r ihk ihr=>exact⟨h _ hT.1,ihk hT.2.1,ihr hT.2.2⟩
section
theorem FoGe.av{T:Fo}{B g:Nat}(h:FoAv (fun x=>B≤x) T g):FoGe B T g:=by
 induction T generalizing g with
 | nil=>trivial
 | node b o a k r ihk ihr=>exact⟨h.1,ihk h.2.1,ihr h.2.2⟩
theorem FoAv.lt{w:World}{Av:Nat→Prop}{T:Fo}{B O:Nat}(h:FoAt w T B O)(ha:FoAv Av T B):FoAv (fun g=>Av g∧g < w.heap.size) T B:=by
 induction T generalizing B O with
 | nil=>trivial
 | node b o a k r ihk ihr =>
   obtain⟨⟨h0,-⟩,hp,hkk,hr⟩:=h;exact⟨⟨ha.1,block_lt_of_cell h0⟩,ihk hkk ha.2.1,ihr hr ha.2.2⟩
theorem FoAt.grownAv{w w':World}{s:Nat}{T:Fo}{B O:Nat}(h:FoAt w T B O)(ha:FoAv (fun g=>g≠s) T B)(hg:w.grownBy w' (some s)):FoAt w' T B O:=by
 induction T generalizing B O with
 | nil=>trivial
 | node b o a k r ihk ihr =>
   obtain⟨⟨h0,h1,h2,h3⟩,hp,hkk,hr⟩:=h;have e:∀i,w'.cell? ⟨B,i,none⟩=w.cell? ⟨B,i,none⟩:=fun i=>World.cell?_of_block (hg.block B (block_lt_of_cell h0) (fun q=>ha.1 (inj q)));exact⟨⟨by rw[e];exact h0,by rw[e];exact h1,by rw[e];exact h2,by rw[e];exact h3⟩,hp,ihk hkk ha.2.1,ihr hr ha.2.2⟩
end
section
open Go.Maps (has size IsMap)
end
theorem results_cell_tmp{fn:Func}{p u:Tmp}{ty:TypeId}(h:fn.results=#[.cell p ty,.tmp u])(tmps:Array Value)(P:Program)(w:World) :
 (results fn tmps).run P w=((asAddr (tmps.getD p undef)).run P w).andThen fun a w₁=>((loadVar ty a).run P w₁).andThen fun v w₂=>.ok (.tuple #[v,tmps.getD u undef]) w₂:=by
 simp only[results,h];simp[Sem.run_bind,Result.andThen]
theorem len1{L:List Int}(h:L.length=1):∃x,L=[x]:=by
 match L,h with
 | [x],_=>exact⟨x,rfl⟩
theorem len2{L:List Int}(h:L.length=2):∃x y,L=[x,y]:=by
 match L,h with
 | [x,y],_=>exact⟨x,y,rfl⟩
theorem len3{L:List Int}(h:L.length=3):∃x y z,L=[x,y,z]:=by
 match L,h with
 | [x,y,z],_=>exact⟨x,y,z,rfl⟩
theorem zK(w:World)(g i:Nat)(u:Value):w.grownBy (w.setCell ⟨g,i,none⟩ u) (some g):=⟨rfl,rfl,rfl,by simp[World.setCell],fun k hk hr=>Below.heap_setCell _ _ _ _ (fun e=>hr (by rw[e]))⟩
theorem ExAt.grownO{w w':World}{b o:Nat}{a:Nd}{k:Fo}{row:Option Nat}(h:ExAt w b o a k)(ha:FoAv (fun g=>row≠some g) k b)(hg:w.grownBy w' row):ExAt w' b o a k:=by
 cases row with
 | some s=>exact⟨h.1,h.2.grownAv (ha.mono fun g hg e=>hg (by rw[e])) hg⟩
 | none =>
   have hb:Below w.heap.size w w':=⟨hg.os,hg.tape,hg.output,hg.size,fun m hm=>hg.block m hm (by simp)⟩;exact h.next hb
theorem FoAv.all{Av:Nat→Prop}(h:∀g,Av g)(T:Fo)(B:Nat):FoAv Av T B:=by
 induction T generalizing B with
 | nil=>trivial
 | node b o a k r ihk ihr=>exact⟨h _,ihk _,ihr _⟩
section
def pC(name:ByteArray)(clk:Bool)(c:Ch):Int:=pT1 name clk c.a (V7 c.k) (pTF name clk c.k)
end
section
end
theorem not_not(v:Int)(h:v=0∨v=1):UP (UP v)=v:=by rcases h with rfl|rfl<;>decide
def rel(t v w:Int):Prop:=(t=0→v=w)∧(t=1→v≤w)∧(t=2→w≤v)
theorem jt{α β:Type}(f:α→β){L:List α}{j:Nat}{x:α}(h:L[j]?=some x):(L.take (j+1)).map f=(L.take j).map f++[f x]:=by rw[List.take_add_one,h];simp
theorem Tryz.zeroB (w:World):(zeroValue 4).run Tryz.prog w=.ok (.bool false) w:=by kernel_rfl
def SS(w:World)(b:Nat)(L:List ByteArray):Prop:=SetM Tryz.prog 9 4 (fun s:ByteArray=>Value.string s) w b L
theorem xq{w:World}{b:Nat}{L:List ByteArray}(h:SS w b L)(s:ByteArray)(hs:s.size≤maxLen):(Instr.lookup 76 (.map (some b)) (.string s) false).run Tryz.prog w=.ok (.bool (yG L s)) w :=
 SetM.look h Tryz.keyS Tryz.underlying76 Tryz.underlying4 (Tryz.zeroB w) s (Go.WideMaps.keyOf_string_mk Tryz.underlying9 hs)
theorem uQ{w:World}{b:Nat}{L:List ByteArray}(h:SS w b L)(s:ByteArray)(hs:s.size≤maxLen)(hl:L.length < maxLen):∃w',(Instr.mapUpdate 76 (.map (some b)) (.string s) (.bool true)).run Tryz.prog w=.ok () w'∧SS w' b (L++[s])∧w.grownBy w' (some b) :=
 SetM.put h Tryz.keyS Tryz.underlying76 Tryz.underlying4 hl (fun x y q=>by injection q) s (Go.WideMaps.keyOf_string_mk Tryz.underlying9 hs)
structure CtBox (w:World) (g:Nat) (c:Ct) (p:Cp):Prop where
 c0:w.cell? ⟨g,0,none⟩=some (.int .i64 c.rep)
 c1:w.cell? ⟨g,1,none⟩=some (.int .i64 c.rel)
 c2:w.cell? ⟨g,2,none⟩=some (.int .i64 c.con)
 c3:w.cell? ⟨g,3,none⟩=some (.int .i64 c.sit)
 c4:w.cell? ⟨g,4,none⟩=some (.int .i64 c.lay)
 c5:w.cell? ⟨g,5,none⟩=some (.int .i64 c.nf)
 c6:w.cell? ⟨g,6,none⟩=some (.int .i64 c.nt)
 c7:w.cell? ⟨g,7,none⟩=some (.slice p.cs c.cs.length p.ccs)
 c8:w.cell? ⟨g,8,none⟩=some (.slice p.rs c.rs.length p.crs)
 c9:w.cell? ⟨g,9,none⟩=some (.slice p.os c.os.length p.cos)
 c10:w.cell? ⟨g,10,none⟩=some (.slice p.cr (len c.cr) p.ccr)
 c11:w.cell? ⟨g,11,none⟩=some (.slice p.ls c.ls.length p.cls)
 c12:w.cell? ⟨g,12,none⟩=some (.slice p.fs c.fs.length p.cfs)
 c13:w.cell? ⟨g,13,none⟩=some (.int .i64 c.gua)
 lt:g < w.heap.size
theorem CtBox.next{w w':World}{g:Nat}{c:Ct}{p:Cp}(h:CtBox w g c p)(hb:Below w.heap.size w w'):CtBox w' g c p where
 c0:=qb h.c0 hb
 c1:=qb h.c1 hb
 c2:=qb h.c2 hb
 c3:=qb h.c3 hb
 c4:=qb h.c4 hb
 c5:=qb h.c5 hb
 c6:=qb h.c6 hb
 c7:=qb h.c7 hb
 c8:=qb h.c8 hb
 c9:=qb h.c9 hb
 c10:=qb h.c10 hb
 c11:=qb h.c11 hb
 c12:=qb h.c12 hb
 c13:=qb h.c13 hb
 lt:=Nat.lt_of_lt_of_le h.lt hb.size
theorem CtBox.grown{w w':World}{g nb:Nat}{c:Ct}{p:Cp}(h:CtBox w g c p)(hb:w.grownBy w' (some nb))(hn:g≠nb):CtBox w' g c p where
 c0:=hb.cell h.c0 (fun e=>hn (inj e))
 c1:=hb.cell h.c1 (fun e=>hn (inj e))
 c2:=hb.cell h.c2 (fun e=>hn (inj e))
 c3:=hb.cell h.c3 (fun e=>hn (inj e))
 c4:=hb.cell h.c4 (fun e=>hn (inj e))
 c5:=hb.cell h.c5 (fun e=>hn (inj e))
 c6:=hb.cell h.c6 (fun e=>hn (inj e))
 c7:=hb.cell h.c7 (fun e=>hn (inj e))
 c8:=hb.cell h.c8 (fun e=>hn (inj e))
 c9:=hb.cell h.c9 (fun e=>hn (inj e))
 c10:=hb.cell h.c10 (fun e=>hn (inj e))
 c11:=hb.cell h.c11 (fun e=>hn (inj e))
 c12:=hb.cell h.c12 (fun e=>hn (inj e))
 c13:=hb.cell h.c13 (fun e=>hn (inj e))
 lt:=Nat.lt_of_lt_of_le h.lt hb.size
theorem CtBox.start(w:World)(c:Ct)(p:Cp):CtBox (w.alloc (.cells #[.int .i64 c.rep,.int .i64 c.rel,.int .i64 c.con,.int .i64 c.sit,.int .i64 c.lay,.int .i64 c.nf,.int .i64 c.nt,.slice p.cs c.cs.length p.ccs,.slice p.rs c.rs.length p.crs,.slice p.os c.os.length p.cos,.slice p.cr (len c.cr) p.ccr,.slice p.ls c.ls.length p.cls,.slice p.fs c.fs.length p.cfs,.int .i64 c.gua] 43)) w.heap.size c p where
 c0:=by simp[go_sem]
 c1:=by simp[go_sem]
 c2:=by simp[go_sem]
 c3:=by simp[go_sem]
 c4:=by simp[go_sem]
 c5:=by simp[go_sem]
 c6:=by simp[go_sem]
 c7:=by simp[go_sem]
 c8:=by simp[go_sem]
 c9:=by simp[go_sem]
 c10:=by simp[go_sem]
 c11:=by simp[go_sem]
 c12:=by simp[go_sem]
 c13:=by simp[go_sem]
 lt:=by simp
def zD(n lo hi:Int):Bool:=decide (lo≤n∧n≤hi)
theorem ym(n lo hi:Int)(w:World):Calls Tryz.prog 56 #[.int .i64 n,.int .i64 lo,.int .i64 hi] w fun e w'=>e=.returned (.bool (zD n lo hi))∧w=w':=by
 by_cases h1:lo≤n
 ·have hb:decide (n ≥ lo)=true:=decide_eq_true h1;go_enter Tryz.func56,Tryz.ntmps56;go_wp2
  all_goals
   go_ret;exact⟨qr (by unfold zD;simp[h1]),rfl⟩
 ·have hb:¬n ≥ lo:=h1;go_enter Tryz.func56,Tryz.ntmps56;go_wp2
  all_goals
   go_ret;exact⟨qr (by unfold zD;rw[decide_eq_false (by omega)]),rfl⟩
theorem ju(n:Int)(w:World):Calls Tryz.prog 59 #[.int .i64 n] w fun e w'=>e=.returned (.bool (Jk n))∧w=w':=by
 have S:Hid (Jk n=zD n 1 3):=rfl;go_enter Tryz.func59,Tryz.ntmps59;go_wp2_with (go_at_call 56;refine(ym _ _ _ _).mono ?_;rw[← S.out];rintro e w1 ⟨rfl,rfl⟩);go_ret;exact⟨rfl,rfl⟩
def xc(s:ByteArray):Int:=if yn s=2 then 3 else if yn s=1 then 2 else 0
theorem QC(s:ByteArray):xc s=0↔yn s=0:=by
 have h:yn s=2∨yn s=1∨yn s=0:=by
  unfold yn
  split
  ·exact .inl rfl
  ·split
   ·exact .inr (.inl rfl)
   ·exact .inr (.inr rfl)
 unfold xc;rcases h with h|h|h<;>simp[h]
theorem je(s:ByteArray)(w:World):Calls Tryz.prog 48 #[.string s] w fun e w'=>e=.returned (.int .i64 (xc s))∧w=w':=by
 have R:Hid (yn s=if zu.1.any (fun x=>s.toList==x)=true then 2 else if zu.2.any (fun x=>s.toList==x)=true then 1 else 0):=by unfold Hid yn;rw[Lib.toList_data]
 go_enter Tryz.func48,Tryz.ntmps48;go_wp2
 all_goals
  go_ret;refine⟨qh ?_,rfl⟩;unfold xc;rw[R.out];simp only[zu,List.any_cons,List.any_nil];clear R
  simp_all
def rkV(x:Int× ByteArray):Value:=.agg #[.int .i64 x.1,.string x.2]
theorem Tryz.wideK:(match Tryz.prog.underlying 146 with|some (.array _ _)|some (.struct _)=>true|_=>false)=true:=by kernel_rfl
theorem Tryz.keyR:Go.Maps.Keyed Tryz.prog 146:=Go.Maps.Keyed.of_law (deep_law_laid (by kernel_rfl) (m:=2) (by omega) (of_decide_eq_true (by kernel_rfl)) (by kernel_rfl) Tryz.wideK)
theorem QZ(sc:Int)(s:ByteArray)(h1:(Lit.int .i64 sc).wf=true)(h2:s.size≤maxLen):∃kl,keyOf Tryz.prog 146 (.agg #[.int .i64 sc,.string s])=some kl:=by
 obtain⟨m,hm⟩:∃m,Tryz.prog.types.size=m+1:=⟨Tryz.prog.types.size - 1,by have:0 < Tryz.prog.types.size:=of_decide_eq_true (by kernel_rfl);omega⟩;have hkt:Tryz.prog.keyType 146=true:=by kernel_rfl
 have hc:Tryz.prog.cellsOf 146=2:=by kernel_rfl
 have hi:Tryz.prog.cellsOf 3=1:=by kernel_rfl
 have hs:Tryz.prog.cellsOf 9=1:=by kernel_rfl
 have hf:(Value.agg #[.int .i64 sc,.string s]).formed Tryz.prog 146=true:=by simp[Value.formed,Tryz.underlying146,hc]
 have k0:Tryz.prog.keyLits (m+1) 3 [.int .i64 sc]=some [.int .i64 sc]:=by simp[Program.keyLits,Tryz.underlying3,h1]
 have k1:Tryz.prog.keyLits (m+1) 9 [.string s]=some [.string s.data.toList]:=by simp[Program.keyLits,Tryz.underlying9,h2]
 have kk:Tryz.prog.keyLits (Tryz.prog.types.size+1) 146 [.int .i64 sc,.string s]=some [.int .i64 sc,.string s.data.toList]:=by
  rw[hm];unfold Program.keyLits;rw[Tryz.underlying146];simp[hc,hi,hs,k0,k1]
 refine⟨.string (keyBytes [.int .i64 sc,.string s.data.toList]),?_⟩;unfold keyOf;rw[Tryz.underlying146];dsimp only;rw[hkt,hf]
 show Option.map _ (Tryz.prog.keyLits (Tryz.prog.types.size+1) 146 [.int .i64 sc,.string s])=_
 rw[kk];rfl
def RS(w:World)(b:Nat)(L:List (Int× ByteArray)):Prop:=SetM Tryz.prog 146 4 rkV w b L
theorem Ke{w:World}{b:Nat}{L:List (Int× ByteArray)}(h:RS w b L)(sc:Int)(s:ByteArray)(h1:(Lit.int .i64 sc).wf=true)(hs:s.size≤maxLen):(Instr.lookup 144 (.map (some b)) (.agg #[.int .i64 sc,.string s]) false).run Tryz.prog w=.ok (.bool (yG L (sc,s))) w:=by
 obtain⟨kl,hk⟩:=QZ sc s h1 hs;exact SetM.look h Tryz.keyR Tryz.underlying144 Tryz.underlying4 (Tryz.zeroB w) (sc,s) hk
theorem U2{w:World}{b:Nat}{L:List (Int× ByteArray)}(h:RS w b L)(sc:Int)(s:ByteArray)(h1:(Lit.int .i64 sc).wf=true)(hs:s.size≤maxLen)(hl:L.length < maxLen):∃w',(Instr.mapUpdate 144 (.map (some b)) (.agg #[.int .i64 sc,.string s]) (.bool true)).run Tryz.prog w=.ok () w'∧RS w' b (L++[(sc,s)])∧w.grownBy w' (some b):=by
 obtain⟨kl,hk⟩:=QZ sc s h1 hs
 exact SetM.put h Tryz.keyR Tryz.underlying144 Tryz.underlying4 hl (fun x y q=>by
  obtain⟨x1,x2⟩:=x;obtain⟨y1,y2⟩:=y;simp only[rkV] at q;injection q with q
  simpa using q) (sc,s) hk
theorem vu(cs:List Cn)(p:Option Addr)(cap:Nat)(w:World)(hcs:RowV CnP 5 w cs p)(hl:cs.length≤32) :
 Calls Tryz.prog 57 #[.slice p cs.length cap] w fun e w'=>e=.returned (.int .i64 (fe (zm cs) 0 cs.length))∧Below w.heap.size w w':=by
 have HCS:=hid hcs;clear hcs;obtain⟨R,hR⟩:∃R,fe (zm cs) 0 cs.length=R:=⟨_,rfl⟩;have HR0:=hid hR;rw[hR];clear hR;have hmm:=@run_makeMap Tryz.prog;go_enter Tryz.func57,Tryz.ntmps57;go_wp2_with fail
 go_loopw [10] (fun i wr=>∃j:Nat,j≤cs.length∧i=.int .i64 j∧Hid (SS wr w.heap.size ((cs.take j).map (·.name))∧Below w.heap.size w wr∧fe (zm cs) j (cs.length - j)=R)) (fun i _=>cs.length - (intOf i).toNat)
 case atStart=>exact⟨0,Nat.zero_le _,rfl,SetM.start _ _ _ _ _,(Below.refl _ _).alloc (Nat.le_refl _) _,HR0.out⟩
 case round =>
  obtain⟨j,hj,rfl,HR⟩:=hrel
  by_cases qN:j < cs.length
  ·obtain ⟨c,hc⟩:∃c,cs[j]?=some c:=⟨_,List.getElem?_eq_getElem (by omega)⟩;obtain⟨B,O,rfl,hP⟩:=HCS.out.get hc;obtain⟨d0,⟨⟨d1,d2,d3,d4⟩,hx,hok⟩,hs⟩:=hP.next HR.out.2.1
   have HX:=hid hP.2.1.2.1;have HOK:=hid hok;have hs':c.name.size≤maxLen:=hs;have hj1:(j:Int) < (cs.length:Int):=(by omega);have FA:=hid ((k6 (f:=zm cs) qN).symm.trans HR.out.2.2);have CA:Hid (zm cs j=if yJ c.name=false then 1 else if yG ((cs.take j).map (·.name)) c.name=true then 7 else yF c.a c.k):=(by unfold Hid zm;rw[hc]);have TS:=hid (jt (·.name) hc);have hln:((cs.take j).map (·.name)).length < maxLen:=(by simp[maxLen];omega);clear hP hx hok hc;go_upto_region 5 with (fail);have B1:Hid (Below w.heap.size w (wr.alloc (.cells #[.string c.name,.int .i64 c.a.op,.int .i64 c.a.num,.string c.a.name,.slice c.a.ptr (len c.k) c.a.cap] 85))):=HR.out.2.1.alloc HR.out.2.1.size _;have S1:Hid (SS (wr.alloc (.cells #[.string c.name,.int .i64 c.a.op,.int .i64 c.a.num,.string c.a.name,.slice c.a.ptr (len c.k) c.a.cap] 85)) w.heap.size ((cs.take j).map (·.name))):=SetM.next HR.out.1 ((Below.refl _ _).alloc (Nat.le_refl _) _)
   have hgw:w.heap.size < wr.heap.size:=SetM.lt HR.out.1;have e0:(wr.alloc (.cells #[.string c.name,.int .i64 c.a.op,.int .i64 c.a.num,.string c.a.name,.slice c.a.ptr (len c.k) c.a.cap] 85)).cell? ⟨wr.heap.size,0,none⟩=some (.string c.name):=(by simp[go_sem]);have e1:(wr.alloc (.cells #[.string c.name,.int .i64 c.a.op,.int .i64 c.a.num,.string c.a.name,.slice c.a.ptr (len c.k) c.a.cap] 85)).cell? ⟨wr.heap.size,1,none⟩=some (.int .i64 c.a.op):=(by simp[go_sem]);have e2:(wr.alloc (.cells #[.string c.name,.int .i64 c.a.op,.int .i64 c.a.num,.string c.a.name,.slice c.a.ptr (len c.k) c.a.cap] 85)).cell? ⟨wr.heap.size,2,none⟩=some (.int .i64 c.a.num):=(by simp[go_sem]);have e3:(wr.alloc (.cells #[.string c.name,.int .i64 c.a.op,.int .i64 c.a.num,.string c.a.name,.slice c.a.ptr (len c.k) c.a.cap] 85)).cell? ⟨wr.heap.size,3,none⟩=some (.string c.a.name):=(by simp[go_sem]);have e4:(wr.alloc (.cells #[.string c.name,.int .i64 c.a.op,.int .i64 c.a.num,.string c.a.name,.slice c.a.ptr (len c.k) c.a.cap] 85)).cell? ⟨wr.heap.size,4,none⟩=some (.slice c.a.ptr (len c.k) c.a.cap):=(by simp[go_sem]);generalize wr.alloc (.cells #[.string c.name,.int .i64 c.a.op,.int .i64 c.a.num,.string c.a.name,.slice c.a.ptr (len c.k) c.a.cap] 85)=w1 at *;have hlook:=xq S1.out c.name hs';clear d0 d1 d2 d3 d4;cases hD:yJ c.name
   ·have HD:=hid hD;have RQ:Hid (R=1):=(by unfold Hid;rw[← FA.out,CA.out,hD];rfl);clear hD;go_wp2_with (go_at_call 108;refine(yc _ _ hs).mono ?_;rw[HD.out];rintro e w2 ⟨rfl,rfl⟩);go_ret;exact⟨qh RQ.out.symm,B1.out⟩
   ·have HD:=hid hD;cases hU:yG ((cs.take j).map (·.name)) c.name
    ·have CQ:Hid (zm cs j=yF c.a c.k):=by unfold Hid;rw[CA.out,hD,hU];rfl
     rw[hU] at hlook;obtain⟨w9,hput,hS9,hG9⟩:=uQ S1.out c.name hs' hln;have S9:=hid hS9;have B9:Hid (Below w.heap.size w w9):=B1.out.grown hG9 B1.out.size (fun m hm=>by cases hm;exact Nat.le_refl _);have hne:some wr.heap.size≠some w.heap.size:=(by simp;omega);have f1:=hG9.cell e1 hne;have f2:=hG9.cell e2 hne;have f3:=hG9.cell e3 hne;have f4:=hG9.cell e4 hne;clear hD hU hS9 hG9;go_wp2_with (go_at_call 108;refine(yc _ _ hs).mono ?_;rw[HD.out];rintro e w2 ⟨rfl,rfl⟩);refine(jq c.b c.o _ _ _ _ _ c.k w9 (HX.out.next B9.out) HOK.out).mono ?_;rintro e w3 ⟨rfl,hb⟩;have B3:=hid (B9.out.trans (hb.mono B9.out.size));have S3:Hid (SS w3 w.heap.size ((cs.take (j+1)).map (·.name))):=(by unfold Hid;rw[TS.out];exact SetM.next S9.out hb);have CQ2:Hid (zm cs j=yF ⟨c.a.op,c.a.num,c.a.name,c.a.ptr,c.a.cap⟩ c.k):=CQ.out;generalize yF ⟨c.a.op,c.a.num,c.a.name,c.a.ptr,c.a.cap⟩ c.k=ve at *;clear hb hput hlook e0 e1 e2 e3 e4 f1 f2 f3 f4
     by_cases h0:ve=0
     ·have b0:(ve != 0)=false:=by simp[h0]
      have RQ:Hid (fe (zm cs) (j+1) (cs.length - (j+1))=R):=(by unfold Hid;rw[← FA.out,CQ2.out,h0,yk]);clear h0;go_wp2
      go_roundw
      case rel=>exact⟨j+1,by omega,by go_num,S3.out,B3.out,RQ.out⟩
      case measure=>simp[intOf];omega
     ·have b0:(ve != 0)=true:=by simp[h0]
      have RQ:Hid (R=ve):=(by unfold Hid;rw[← FA.out,CQ2.out,zi h0]);clear h0;go_wp2;go_ret;exact⟨qh RQ.out.symm,B3.out⟩
    ·have RQ:Hid (R=7):=by unfold Hid;rw[← FA.out,CA.out,hD,hU];rfl
     rw[hU] at hlook;clear hD hU;go_wp2_with (go_at_call 108;refine(yc _ _ hs).mono ?_;rw[HD.out];rintro e w2 ⟨rfl,rfl⟩);go_ret;exact⟨qh RQ.out.symm,B1.out⟩
  ·have hj1:¬(j:Int) < (cs.length:Int):=by omega
   have RQ:Hid (R=0):=(by unfold Hid;rw[← HR.out.2.2,jp (by omega)]);go_wp2;go_ret;exact⟨qh RQ.out.symm,HR.out.2.1⟩
theorem Qk(cs:List Ru)(p:Option Addr)(cap:Nat)(w:World)(hcs:RowV RuP 6 w cs p)(hl:cs.length≤40) :
 Calls Tryz.prog 58 #[.slice p cs.length cap] w fun e w'=>e=.returned (.int .i64 (fe (zb cs) 0 cs.length))∧Below w.heap.size w w':=by
 have HCS:=hid hcs;clear hcs;obtain⟨R,hR⟩:∃R,fe (zb cs) 0 cs.length=R:=⟨_,rfl⟩;have HR0:=hid hR;rw[hR];clear hR;have hmm:=@run_makeMap Tryz.prog;go_enter Tryz.func58,Tryz.ntmps58;go_wp2_with fail
 go_loopw [11] (fun i wr=>∃j:Nat,j≤cs.length∧i=.int .i64 j∧Hid (RS wr w.heap.size ((cs.take j).map fun r=>(r.sc,r.name))∧Below w.heap.size w wr∧fe (zb cs) j (cs.length - j)=R)) (fun i _=>cs.length - (intOf i).toNat)
 case atStart=>exact⟨0,Nat.zero_le _,rfl,SetM.start _ _ _ _ _,(Below.refl _ _).alloc (Nat.le_refl _) _,HR0.out⟩
 case round =>
  obtain⟨j,hj,rfl,HR⟩:=hrel
  by_cases qN:j < cs.length
  ·obtain ⟨c,hc⟩:∃c,cs[j]?=some c:=⟨_,List.getElem?_eq_getElem (by omega)⟩;obtain⟨B,O,rfl,hP⟩:=HCS.out.get hc;obtain⟨d0,d1,⟨⟨d2,d3,d4,d5⟩,hx,hok⟩,hbd,hs⟩:=hP.next HR.out.2.1
   have HX:=hid hP.2.2.1.2.1;have HOK:=hid hok;have hs':c.name.size≤maxLen:=hs;have hwf:(Lit.int .i64 c.sc).wf=true:=WalkArith.wf_i64 hbd;have HWF:=hid hwf;have hj1:(j:Int) < (cs.length:Int):=(by omega);have FA:=hid ((k6 (f:=zb cs) qN).symm.trans HR.out.2.2);have CA:Hid (zb cs j=if Jk c.sc=false∨yJ c.name=false then 1 else if yG ((cs.take j).map fun r=>(r.sc,r.name)) (c.sc,c.name)=true then 7 else yF c.a c.k):=(by unfold Hid zb;rw[hc]);have TS:=hid (jt (fun r:Ru=>(r.sc,r.name)) hc);have hln:((cs.take j).map fun r=>(r.sc,r.name)).length < maxLen:=(by simp[maxLen];omega);clear hP hx hok hc hwf hbd;go_upto_region 5 with (fail);have B1:Hid (Below w.heap.size w (wr.alloc (.cells #[.int .i64 c.sc,.string c.name,.int .i64 c.a.op,.int .i64 c.a.num,.string c.a.name,.slice c.a.ptr (len c.k) c.a.cap] 87))):=HR.out.2.1.alloc HR.out.2.1.size _;have S1:Hid (RS (wr.alloc (.cells #[.int .i64 c.sc,.string c.name,.int .i64 c.a.op,.int .i64 c.a.num,.string c.a.name,.slice c.a.ptr (len c.k) c.a.cap] 87)) w.heap.size ((cs.take j).map fun r=>(r.sc,r.name))):=SetM.next HR.out.1 ((Below.refl _ _).alloc (Nat.le_refl _) _)
   have hgw:w.heap.size < wr.heap.size:=SetM.lt HR.out.1;have hz1:wr.heap.size < (wr.alloc (.cells #[.int .i64 c.sc,.string c.name,.int .i64 c.a.op,.int .i64 c.a.num,.string c.a.name,.slice c.a.ptr (len c.k) c.a.cap] 87)).heap.size:=(by simp);have e0:(wr.alloc (.cells #[.int .i64 c.sc,.string c.name,.int .i64 c.a.op,.int .i64 c.a.num,.string c.a.name,.slice c.a.ptr (len c.k) c.a.cap] 87)).cell? ⟨wr.heap.size,0,none⟩=some (.int .i64 c.sc):=(by simp[go_sem]);have e1:(wr.alloc (.cells #[.int .i64 c.sc,.string c.name,.int .i64 c.a.op,.int .i64 c.a.num,.string c.a.name,.slice c.a.ptr (len c.k) c.a.cap] 87)).cell? ⟨wr.heap.size,1,none⟩=some (.string c.name):=(by simp[go_sem]);have e2:(wr.alloc (.cells #[.int .i64 c.sc,.string c.name,.int .i64 c.a.op,.int .i64 c.a.num,.string c.a.name,.slice c.a.ptr (len c.k) c.a.cap] 87)).cell? ⟨wr.heap.size,2,none⟩=some (.int .i64 c.a.op):=(by simp[go_sem]);have e3:(wr.alloc (.cells #[.int .i64 c.sc,.string c.name,.int .i64 c.a.op,.int .i64 c.a.num,.string c.a.name,.slice c.a.ptr (len c.k) c.a.cap] 87)).cell? ⟨wr.heap.size,3,none⟩=some (.int .i64 c.a.num):=(by simp[go_sem]);have e4:(wr.alloc (.cells #[.int .i64 c.sc,.string c.name,.int .i64 c.a.op,.int .i64 c.a.num,.string c.a.name,.slice c.a.ptr (len c.k) c.a.cap] 87)).cell? ⟨wr.heap.size,4,none⟩=some (.string c.a.name):=(by simp[go_sem]);have e5:(wr.alloc (.cells #[.int .i64 c.sc,.string c.name,.int .i64 c.a.op,.int .i64 c.a.num,.string c.a.name,.slice c.a.ptr (len c.k) c.a.cap] 87)).cell? ⟨wr.heap.size,5,none⟩=some (.slice c.a.ptr (len c.k) c.a.cap):=(by simp[go_sem]);generalize wr.alloc (.cells #[.int .i64 c.sc,.string c.name,.int .i64 c.a.op,.int .i64 c.a.num,.string c.a.name,.slice c.a.ptr (len c.k) c.a.cap] 87)=w1 at *;clear d0 d1 d2 d3 d4 d5;cases hC:Jk c.sc
   ·have HC:=hid hC;have RQ:Hid (R=1):=(by unfold Hid;rw[← FA.out,CA.out,hC];rfl);clear hC;go_wp2_with (go_at_call 59;refine(ju _ _).mono ?_;rw[HC.out];rintro e w2 ⟨rfl,rfl⟩);go_ret;exact⟨qh RQ.out.symm,B1.out⟩
   ·have HC:=hid hC;cases hD:yJ c.name
    ·have HD:=hid hD;have RQ:Hid (R=1):=(by unfold Hid;rw[← FA.out,CA.out,hD];simp[ku]);clear hD hC;go_wp2_with (first|(go_at_call 59;refine(ju _ _).mono ?_;rw[HC.out];rintro e w2 ⟨rfl,rfl⟩)|(go_at_call 108;refine(yc _ _ hs).mono ?_;rw[HD.out];rintro e w2 ⟨rfl,rfl⟩));go_ret;exact⟨qh RQ.out.symm,B1.out⟩
    ·have HD:=hid hD;have CB:Hid (zb cs j=if yG ((cs.take j).map fun r=>(r.sc,r.name)) (c.sc,c.name)=true then 7 else yF c.a c.k):=(by unfold Hid;rw[CA.out,hD,hC];rfl);clear hD hC;go_upto_region 8 with (first|(go_at_call 59;refine(ju _ _).mono ?_;rw[HC.out];rintro e w2 ⟨rfl,rfl⟩)|(go_at_call 108;refine(yc _ _ hs).mono ?_;rw[HD.out];rintro e w2 ⟨rfl,rfl⟩));have B2:Hid (Below w.heap.size w (w1.alloc (.cells #[.int .i64 c.sc,.string c.name] 146))):=B1.out.alloc B1.out.size _;have S2:Hid (RS (w1.alloc (.cells #[.int .i64 c.sc,.string c.name] 146)) w.heap.size ((cs.take j).map fun r=>(r.sc,r.name))):=SetM.next S1.out ((Below.refl _ _).alloc (Nat.le_refl _) _)
     have k0:(w1.alloc (.cells #[.int .i64 c.sc,.string c.name] 146)).cell? ⟨w1.heap.size,0,none⟩=some (.int .i64 c.sc):=(by simp[go_sem]);have k1:(w1.alloc (.cells #[.int .i64 c.sc,.string c.name] 146)).cell? ⟨w1.heap.size,1,none⟩=some (.string c.name):=(by simp[go_sem]);have f2:(w1.alloc (.cells #[.int .i64 c.sc,.string c.name] 146)).cell? ⟨wr.heap.size,2,none⟩=some (.int .i64 c.a.op):=qb e2 ((Below.refl _ _).alloc (Nat.le_refl _) _);have f3:(w1.alloc (.cells #[.int .i64 c.sc,.string c.name] 146)).cell? ⟨wr.heap.size,3,none⟩=some (.int .i64 c.a.num):=qb e3 ((Below.refl _ _).alloc (Nat.le_refl _) _);have f4:(w1.alloc (.cells #[.int .i64 c.sc,.string c.name] 146)).cell? ⟨wr.heap.size,4,none⟩=some (.string c.a.name):=qb e4 ((Below.refl _ _).alloc (Nat.le_refl _) _);have f5:(w1.alloc (.cells #[.int .i64 c.sc,.string c.name] 146)).cell? ⟨wr.heap.size,5,none⟩=some (.slice c.a.ptr (len c.k) c.a.cap):=qb e5 ((Below.refl _ _).alloc (Nat.le_refl _) _);generalize w1.alloc (.cells #[.int .i64 c.sc,.string c.name] 146)=w2 at *;have hlook:=Ke S2.out c.sc c.name HWF.out hs';clear e0 e1 e2 e3 e4 e5;cases hU:yG ((cs.take j).map fun r=>(r.sc,r.name)) (c.sc,c.name)
     ·have CQ:Hid (zb cs j=yF c.a c.k):=by unfold Hid;rw[CB.out,hU];rfl
      rw[hU] at hlook;obtain⟨w9,hput,hS9,hG9⟩:=U2 S2.out c.sc c.name HWF.out hs' hln;have S9:=hid hS9;have B9:Hid (Below w.heap.size w w9):=B2.out.grown hG9 B2.out.size (fun m hm=>by cases hm;exact Nat.le_refl _);have hne:some wr.heap.size≠some w.heap.size:=(by simp;omega);have g2:=hG9.cell f2 hne;have g3:=hG9.cell f3 hne;have g4:=hG9.cell f4 hne;have g5:=hG9.cell f5 hne;clear hU hS9 hG9;go_wp2_with fail;refine(jq c.b c.o _ _ _ _ _ c.k w9 (HX.out.next B9.out) HOK.out).mono ?_;rintro e w3 ⟨rfl,hb⟩;have B3:=hid (B9.out.trans (hb.mono B9.out.size));have S3:Hid (RS w3 w.heap.size ((cs.take (j+1)).map fun r=>(r.sc,r.name))):=(by unfold Hid;rw[TS.out];exact SetM.next S9.out hb);have CQ2:Hid (zb cs j=yF ⟨c.a.op,c.a.num,c.a.name,c.a.ptr,c.a.cap⟩ c.k):=CQ.out;generalize yF ⟨c.a.op,c.a.num,c.a.name,c.a.ptr,c.a.cap⟩ c.k=ve at *;clear hb hput hlook f2 f3 f4 f5 g2 g3 g4 g5 k0 k1
      by_cases h0:ve=0
      ·have b0:(ve != 0)=false:=by simp[h0]
       have RQ:Hid (fe (zb cs) (j+1) (cs.length - (j+1))=R):=(by unfold Hid;rw[← FA.out,CQ2.out,h0,yk]);clear h0;go_wp2
       go_roundw
       case rel=>exact⟨j+1,by omega,by go_num,S3.out,B3.out,RQ.out⟩
       case measure=>simp[intOf];omega
      ·have b0:(ve != 0)=true:=by simp[h0]
       have RQ:Hid (R=ve):=(by unfold Hid;rw[← FA.out,CQ2.out,zi h0]);clear h0;go_wp2;go_ret;exact⟨qh RQ.out.symm,B3.out⟩
     ·have RQ:Hid (R=7):=by unfold Hid;rw[← FA.out,CB.out,hU];rfl
      rw[hU] at hlook;clear hU;go_wp2;go_ret;exact⟨qh RQ.out.symm,B2.out⟩
  ·have hj1:¬(j:Int) < (cs.length:Int):=by omega
   have RQ:Hid (R=0):=(by unfold Hid;rw[← HR.out.2.2,jp (by omega)]);go_wp2;go_ret;exact⟨qh RQ.out.symm,HR.out.2.1⟩
end Go.Proofs.YtcejjdmnlejbaaaGreatDoor
