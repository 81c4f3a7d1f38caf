import Derived.Laws.BitsLemmas
import Derived.ChangeArms
import Derived.Deep.Slices
import Derived.SizedLaws
import Derived.WalkArith
import Derived.ChangeSlices
import Derived.Test.YtcejjdmnlejbaaaGreatDoorVCtW
import Derived.Test.YtcejjdmnlejbaaaGreatDoorVPln
namespace Go.Proofs.YtcejjdmnlejbaaaGreatDoor
open Option.some(inj)
set_option linter.unusedVariables false
set_option linter.unusedSimpArgs false
open Go.ChangeShapes Go.WideShapes Go.ChangeAt Go.RowKit
open Go.Deep (BT)
set_option maxRecDepth 100000
section
def twoN:ByteArray:=⟨#[116,119,111]⟩
def U1:ByteArray:=⟨#[115,104,105,102,116,95,116,105,109,101]⟩
def UC(look:K0):Prop:=look twoN=(1,0)∧look U1=(2,0)
def IntsL(w:World)(v:Value)(n s:Nat):Prop:=∃(p:Option Addr)(cap:Nat),v=.slice p n cap∧n≤9223372036854775807∧∀i,i < n→∃(B O:Nat)(x:Int),p=some ⟨B,O,none⟩∧B < s∧w.cell? ⟨B,O+i,none⟩=some (.int .i64 x)
structure Src (w:World) (sb:Nat) (v:Value) (n t:Nat):Prop where
 c0:w.cell? ⟨sb,0,none⟩=some v
 c1:w.cell? ⟨sb,1,none⟩=some (.int .i64 t)
 f1:w.frozen? ⟨sb,1,none⟩=false
 lt:sb < w.heap.size
 ls:IntsL w v n sb
theorem IntsL.below{w w':World}{v:Value}{n s B0:Nat}(h:IntsL w v n s)(hb:Below B0 w w')(hs:s≤B0):IntsL w' v n s:=by
 obtain⟨p,cap,h1,h2,h3⟩:=h;refine⟨p,cap,h1,h2,fun i hi=>?_⟩;obtain⟨B,O,x,q1,q2,q3⟩:=h3 i hi;exact⟨B,O,x,q1,q2,by rw[hb.cell (p:=⟨B,O+i,none⟩) (Nat.lt_of_lt_of_le q2 hs)];exact q3⟩
theorem Src.below{w w':World}{sb:Nat}{v:Value}{n t B0:Nat}(h:Src w sb v n t)(hb:Below B0 w w')(hs:sb < B0):Src w' sb v n t where
 c0:=by rw[hb.cell (p:=⟨sb,0,none⟩) hs];exact h.c0
 c1:=by rw[hb.cell (p:=⟨sb,1,none⟩) hs];exact h.c1
 f1:=by rw[hb.frozen (p:=⟨sb,1,none⟩) hs];exact h.f1
 lt:=Nat.lt_of_lt_of_le h.lt hb.size
 ls:=h.ls.below hb (Nat.le_of_lt hs)
theorem Src.next{w w':World}{sb:Nat}{v:Value}{n t:Nat}(h:Src w sb v n t)(hb:Below w.heap.size w w'):Src w' sb v n t:=h.below hb h.lt
theorem Qf{w:World}{p:Addr}{u:Value}{B0:Nat}(h:B0≤p.block):Below B0 w (w.setCell p u):=(Below.refl _ _).setCell h _
theorem Src.step{w:World}{sb:Nat}{v:Value}{n t:Nat}(h:Src w sb v n t):Src (w.setCell ⟨sb,1,none⟩ (.int .i64 ((t:Int)+1))) sb v n (t+1)∧w.grownBy (w.setCell ⟨sb,1,none⟩ (.int .i64 ((t:Int)+1))) (some sb):=by
 have h0:=h.c0;have h1:=h.c1;have hf:=h.f1;refine⟨⟨by simp[go_sem,h0,h1],by simp[go_sem,h1],by simp[go_sem,hf],by simp[World.setCell];exact h.lt,h.ls.below (Qf (Nat.le_refl _)) (Nat.le_refl _)⟩,?_⟩;exact⟨rfl,rfl,rfl,by simp[World.setCell],fun k hk hr=>Below.heap_setCell _ _ _ _ (fun e=>hr (by rw[e]))⟩
structure RB (w:World) (r:Nat):Prop where
 c0:∃u,w.cell? ⟨r,0,none⟩=some u
 c1:∃u,w.cell? ⟨r,1,none⟩=some u
 c2:∃u,w.cell? ⟨r,2,none⟩=some u
 c3:∃u,w.cell? ⟨r,3,none⟩=some u
 f0:w.frozen? ⟨r,0,none⟩=false
 f1:w.frozen? ⟨r,1,none⟩=false
 f2:w.frozen? ⟨r,2,none⟩=false
 f3:w.frozen? ⟨r,3,none⟩=false
 lt:r < w.heap.size
theorem RB.grown{w w':World}{r:Nat}{row:Option Nat}(h:RB w r)(hg:w.grownBy w' row)(hne:some r≠row):RB w' r where
 c0:=by obtain⟨u,q⟩:=h.c0;exact⟨u,by rw[World.cell?_of_block (hg.block r h.lt hne)];exact q⟩
 c1:=by obtain⟨u,q⟩:=h.c1;exact⟨u,by rw[World.cell?_of_block (hg.block r h.lt hne)];exact q⟩
 c2:=by obtain⟨u,q⟩:=h.c2;exact⟨u,by rw[World.cell?_of_block (hg.block r h.lt hne)];exact q⟩
 c3:=by obtain⟨u,q⟩:=h.c3;exact⟨u,by rw[World.cell?_of_block (hg.block r h.lt hne)];exact q⟩
 f0:=by rw[World.frozen?_of_block (hg.block r h.lt hne)];exact h.f0
 f1:=by rw[World.frozen?_of_block (hg.block r h.lt hne)];exact h.f1
 f2:=by rw[World.frozen?_of_block (hg.block r h.lt hne)];exact h.f2
 f3:=by rw[World.frozen?_of_block (hg.block r h.lt hne)];exact h.f3
 lt:=Nat.lt_of_lt_of_le h.lt hg.size
theorem RB.next{w w':World}{r:Nat}(h:RB w r)(hb:Below w.heap.size w w'):RB w' r:=h.grown (vf none hb) (by simp)
def BP(w:World)(sb:Nat)(v:Value)(n t m:Nat)(w':World):Prop:=(∃t',t≤t'∧t'≤t+m∧Src w' sb v n t')∧w.grownBy w' (some sb)
theorem BP.mono{w w':World}{sb:Nat}{v:Value}{n t m m':Nat}(h:BP w sb v n t m w')(hm:m≤m'):BP w sb v n t m' w':=by
 obtain⟨⟨t',h1,h2,h3⟩,h4⟩:=h;exact⟨⟨t',h1,by omega,h3⟩,h4⟩
end
section
end
section
end
section
end
section
open Go.RowKit
structure Bx (sc kind:Int) (S D:Nat) (c:Ch):Prop where
 ok:yS c.a c.k
 wf:(jN c.a (len c.k) && jO c.k)=true
 sz:sz c.k+1≤S
 dp:dp c.k+1≤D
 ty:∀look,UC look→tyT look sc c.a c.k=(kind,0)
theorem Bx.mono{sc kind:Int}{S D S' D':Nat}{c:Ch}(h:Bx sc kind S D c)(hS:S≤S')(hD:D≤D'):Bx sc kind S' D' c:=⟨h.ok,h.wf,Nat.le_trans h.sz hS,Nat.le_trans h.dp hD,h.ty⟩
end
variable {P:Program} {Q:Exit→Act→World→Prop}
theorem qD{o:Oper}{a:Act}{w w':World}{K:Act→World→Prop}{v:Value}(h:(execOp a.eval o).run P w=.ok (.value v) w')(hk:K (a.put o.dst v) w'):o.wp P a w K Q:=by
 unfold Oper.wp;rw[h];exact hk
theorem vr{o:Oper}{a:Act}{w w':World}{K:Act→World→Prop}{f:FuncId}{vs:Array Value}{R:Value→World→Prop}(h:(execOp a.eval o).run P w=.ok (.enter f vs) w')(hc:Calls P f vs w' fun e w''=>∃v,e=.returned v∧R v w'')(hk:∀v w'',R v w''→K (a.put o.dst v) w''):o.wp P a w K Q:=by
 unfold Oper.wp;rw[h];exact hc.mono fun e w'' ⟨v,he,hr⟩=>by subst he;exact hk v w'' hr
section
variable {ρ:Operand→Value}{d:Option Tmp}{ty:TypeId}{pos:String}{af:Array Edge}{gd:Option (Nat×Bool)}{w:World}
theorem run_move(x:Operand)(v:Value)(h:ρ x=v):(execOp ρ ⟨d,.move x,ty,pos,af,gd⟩).run P w=.ok (.value v) w:=by
 simp[execOp,h,go_sem]
theorem run_assign(x:Operand)(v:Value)(h:ρ x=v):(execOp ρ ⟨d,.assign x,ty,pos,af,gd⟩).run P w=.ok (.value v) w:=by
 simp[execOp,h,go_sem]
theorem zy{f:FuncId}{fn:Func}{c:Code}(args:Array Operand)(vs:Array Value)(tys:Array TypeId)(hfn:P.funcs[f]?=some fn)(hname:(fn.name == "runtime.NumGoroutine")=false)(hb:fn.body=some c)(hf:ρ (.func f)=.func (.func f) #[] #[])(hv:args.map ρ=vs):(execOp ρ ⟨d,.call ⟨.value (.func f),args,tys⟩,ty,pos,af,gd⟩).run P w=.ok (.enter f vs) w:=by
 have hc:(callFunc f vs).run P w=.ok (.enter f vs) w:=by
  have hn:¬fn.name = "runtime.NumGoroutine":=by simpa using hname
  simp[callFunc,Sem.run_bind,Result.andThen,hfn,hn,hb,go_sem]
 simp[execOp,resolve,hv,hf,go_sem];exact hc
end
theorem QD{α β:Type}(f:α→β)(x y:α):#[x,y].map f=#[f x,f y]:=by simp
def za(tbl:List (Nat× Nat))(t:Nat):Option Nat:=(tbl.find? fun p=>p.1==t).map fun p=>p.2
def xa(ops:Array Oper)(tbl:List (Nat× Nat))(n:Nat):Bool :=
 ((List.range ops.size).all fun i=>match ops[i]? with
   | some o=>(match o.dst with|some d=>(za tbl d==some i) && decide (d < n)|none=>true) && (o.after.all fun x=>!Region.binds .any x || decide (x.on < i))
   | none=>true) && (tbl.all fun p=>match ops[p.2]? with|some o=>o.dst==some p.1|none=>false)
theorem vK{ops:Array Oper}{tbl:List (Nat× Nat)}{n:Nat}(h:xa ops tbl n=true):∀i o d,ops[i]?=some o→o.dst=some d→za tbl d=some i∧d < n:=by
 intro i o d ho hd;unfold xa at h;rw[Bool.and_eq_true,List.all_eq_true] at h;have h1:=h.1 i (List.mem_range.2 (Array.getElem?_eq_some_iff.1 ho).1);rw[ho] at h1;simp only[hd,Bool.and_eq_true,decide_eq_true_eq] at h1;exact⟨eq_of_beq h1.1.1,h1.1.2⟩
theorem vL{ops:Array Oper}{tbl:List (Nat× Nat)}{n:Nat}(h:xa ops tbl n=true):∀i o,ops[i]?=some o→∀x∈ o.after,Region.binds .any x=true→x.on < i:=by
 intro i o ho x hx hb;unfold xa at h;rw[Bool.and_eq_true,List.all_eq_true] at h;have h1:=h.1 i (List.mem_range.2 (Array.getElem?_eq_some_iff.1 ho).1);rw[ho] at h1;simp only[Bool.and_eq_true] at h1;have h2:=h1.2;rw[Array.all_eq_true_iff_forall_mem] at h2;have h3:=h2 x hx;rw[hb] at h3
 simpa using h3
theorem vM{ops:Array Oper}{tbl:List (Nat× Nat)}{n:Nat}(h:xa ops tbl n=true):∀t i,za tbl t=some i→∃o,ops[i]?=some o∧o.dst=some t:=by
 intro t i hs;unfold xa at h;rw[Bool.and_eq_true,List.all_eq_true,List.all_eq_true] at h;unfold za at hs;cases hf:tbl.find? (fun p=>p.1==t) with
 | none=>rw[hf] at hs;cases hs
 | some p =>
   rw[hf] at hs;obtain rfl:p.2=i:=inj hs;have h1:p.1=t:=(by have:=List.find?_some hf;simpa using this);have h2:=h.2 p (List.mem_of_find?_eq_some hf);cases ho:ops[p.2]? with
   | none=>rw[ho] at h2;cases h2
   | some o =>
     rw[ho] at h2;exact⟨o,rfl,by rw[← h1];exact eq_of_beq h2⟩
section
variable {G:Nat→Value→World→Prop} {i:Nat} {o:Oper} {a:Act} {w w':World} {v:Value}
theorem yL(h:(execOp a.eval o).run P w=.ok (.value v) w')(he:Ext w w')(hg:G i v w'):o.wp P a w (fun a' w'=>∃v,a'=a.put o.dst v∧Ext w w'∧(o.dst.isSome=true→G i v w')) Q :=
 qD h ⟨v,rfl,he,fun _=>hg⟩
theorem zx{f:FuncId}{vs:Array Value}(h:(execOp a.eval o).run P w=.ok (.enter f vs) w)(hc:Calls P f vs w fun e w''=>∃v,e=.returned v∧Ext w w''∧G i v w''):o.wp P a w (fun a' w'=>∃v,a'=a.put o.dst v∧Ext w w'∧(o.dst.isSome=true→G i v w')) Q :=
 vr (R:=fun v w''=>Ext w w''∧G i v w'') h hc fun v w'' hr=>⟨v,rfl,hr.1,fun _=>hr.2⟩
end
theorem qI{P:Program}{ops:Array Oper}{Q:Exit→Act→World→Prop}{src:Nat→Option Nat}{G:Nat→Value→World→Prop}{s0:Array Value}{w0:World}{i:Nat}{oc o:Oper}(ho:some oc=some o)(h:∀(a:Act)(w:World),Ext w0 w→(∀t,src t=none→a.tmps.getD t undef=s0.getD t undef)→(∀t e,src t=some e→(oc.after.toList.any fun x=>x.on == e && Region.binds .any x)=true→G e (a.tmps.getD t undef) w)→Region.wanted oc (yielded ops a.tmps)=true∧∃v,(execOp a.eval oc).run P w=.ok (.value v) w∧G i v w):ua P ops Q src G s0 w0 i o:=by
 obtain rfl:=inj ho
 intro a w hx qq qa _
 obtain ⟨h1,v,h2,h3⟩:=h a w hx qq qa
 exact ⟨h1,yL h2 (Ext.refl _) h3⟩
def nd(op:Int)(g:Nat)(l:List Ch):Ch:=⟨g,0,⟨op,0,⟨#[]⟩,some ⟨g,0,none⟩,l.length⟩,qH l⟩
section
variable (ρ:Operand→Value) (d:Option Tmp) (ty:TypeId) (pos:String) (af:Array Edge) (gd:Option (Nat× Bool)) (w:World)
end
def frameT(tbl:List (Nat× Nat))(x:Nat→Value)(s:Array Value):Array Value:=tbl.foldl (fun s p=>s.setIfInBounds p.1 (x p.1)) s
theorem Qa(tbl:List (Nat× Nat))(x:Nat→Value)(s:Array Value):(frameT tbl x s).size=s.size:=by
 unfold frameT
 induction tbl generalizing s with
 | nil=>rfl
 | cons p l ih=>rw[List.foldl_cons,ih,Array.size_setIfInBounds]
theorem QG(tbl:List (Nat× Nat))(x:Nat→Value)(s:Array Value)(t:Nat)(ht:t < s.size):(frameT tbl x s)[t]?=if (za tbl t).isSome=true then some (x t) else s[t]?:=by
 unfold frameT
 induction tbl generalizing s with
 | nil=>rfl
 | cons p l ih =>
   rw[List.foldl_cons,ih _ (by rw[Array.size_setIfInBounds];exact ht),Array.getElem?_setIfInBounds]
   have hs:za (p :: l) t=if p.1=t then some p.2 else za l t:=by
    unfold za;rw[List.find?_cons]
    by_cases q:p.1=t
    ·simp[q]
    ·have:(p.1==t)=false:=by simp[q]
     rw[this,if_neg q]
   rw[hs]
   by_cases q:p.1=t
   ·rw [if_pos q,if_pos q];subst q;simp[ht]
   ·rw[if_neg q,if_neg q]
theorem uE(tbl:List (Nat× Nat))(x:Nat→Value)(s:Array Value):zC s (za tbl) x=frameT tbl x s:=by
 apply Array.ext_getElem?;intro t
 by_cases ht:t < s.size
 ·rw [QG tbl x s t ht];unfold zC;rw[List.getElem?_toArray,List.getElem?_mapIdx,Array.getElem?_toList,Array.getElem?_eq_getElem ht];cases hs:za tbl t with
  | some i=>simp[hs]
  | none=>simp[hs]
 ·rw[Array.getElem?_eq_none (by unfold zC;simp;omega),Array.getElem?_eq_none (by rw[Qa];omega)]
theorem vJ{ops:Array Oper}{id:Nat}{a0:Act}{w:World}(tbl:List (Nat× Nat))(G:Nat→Value→World→Prop)(z:Nat)(F:(Nat→Value)→World→World→Prop)
 (hm:P.follows .mixedOrders=true) (hchk:xa ops tbl a0.tmps.size=true)
 (hG:∀i v w w',G i v w→Ext w w'→G i v w')
 (hF:∀x x' w1 w',(∀t,(za tbl t=none∨∃e,za tbl t=some e∧(e=z∨((ops[z]?).any fun p=>p.after.toList.any fun x=>x.on==e && Region.binds .any x)=true))→x t=x' t)→F x w1 w'→F x' w1 w')
 (hst:∀i o,ops[i]?=some o→i≠z→ua P ops Q (za tbl) G a0.tmps w.drew i o)
 (hpu:∀i o,ops[i]?=some o→i≠z→((ops[z]?).any fun p=>p.after.toList.any fun x=>x.on==i && Region.binds .any x)=true∨ops.size≤z∨JY P ops Q (za tbl) G a0.tmps w.drew i o)
 (hla:∀o,ops[z]?=some o→K3 P ops Q (za tbl) G F a0.tmps w.drew z o)
 (hfin:∀(x:Nat→Value) (w1 w':World),Ext w.drew w1→(∀t i,za tbl t=some i→G i (x t) w1)→(z < ops.size→F x w1 w')→(ops.size≤z→w'=w1)→Q .normal ⟨frameT tbl x a0.tmps,a0.defers⟩ w') :
 (Code.region id ops true).wp P Q a0 w :=
 xz hm (za tbl) G z F hG (vK hchk) (vL hchk) (vM hchk) hF hst hpu hla (fun x w1 w' h1 h2 h3 h4=>by rw[uE];exact hfin x w1 w' h1 h2 h3 h4)
section
variable {P:Program} {ops:Array Oper} {Q:Exit→Act→World→Prop}
def Yl(P:Program)(ops:Array Oper)(Q:Exit→Act→World→Prop)(src:Nat→Option Nat)(G:Nat→Value→World→Prop)(F:(Nat→Value)→World→World→Prop)(s0:Array Value)(w0:World)(i:Nat)(o:Oper):Prop :=
 ∀ (a:Act) (w1 w:World),Ext w0 w1→a.tmps.size=s0.size→(∀t,src t=none→a.tmps.getD t undef=s0.getD t undef)→
   (∀t e,src t=some e→(o.after.toList.any fun x=>x.on==e && Region.binds .any x)=true→G e (a.tmps.getD t undef) w1)→
   (∀t e,src t=some e→((ops[e]?).any fun p=>p.after.toList.any fun x=>x.on==i && Region.binds .any x)=true→a.tmps.getD t undef=s0.getD t undef)→
   F (fun t=>a.tmps.getD t undef) w1 w→
   Region.wanted o (yielded ops a.tmps)=true∧o.wp P a w (fun a' w'=>∃v,a'=a.put o.dst v∧w'=w∧(o.dst.isSome=true→G i v w1)∧F (fun t=>(a.put o.dst v).tmps.getD t undef) w1 w) Q
def Yn(P:Program)(ops:Array Oper)(Q:Exit→Act→World→Prop)(src:Nat→Option Nat)(G:Nat→Value→World→Prop)(F:(Nat→Value)→World→World→Prop)(s0:Array Value)(w0:World)(i:Nat)(o:Oper):Prop :=
 ∀ (a:Act) (w:World),Ext w0 w→a.tmps.size=s0.size→(∀t,src t=none→a.tmps.getD t undef=s0.getD t undef)→
   (∀t e,src t=some e→(o.after.toList.any fun x=>x.on==e && Region.binds .any x)=true→G e (a.tmps.getD t undef) w)→
   (∀t e,src t=some e→((ops[e]?).any fun p=>p.after.toList.any fun x=>x.on==i && Region.binds .any x)=true→a.tmps.getD t undef=s0.getD t undef)→
   Region.wanted o (yielded ops a.tmps)=true∧o.wp P a w (fun a' w'=>∃v,a'=a.put o.dst v∧(o.dst.isSome=true→G i v w)∧F (fun t=>(a.put o.dst v).tmps.getD t undef) w w') Q
def Us(ops:Array Oper)(A:Nat→Bool)(z:Nat):Bool:=(List.range ops.size).all fun i=>!A i || (List.range ops.size).any fun e=>decide (i < e) && (e==z || A e) && (match ops[e]? with|some p=>p.after.toList.any fun x=>x.on==i && Region.binds .any x|none=>false)
theorem Uq{A:Nat→Bool}{z:Nat}(h:Us ops A z=true):∀i,(A i && decide (i < ops.size))=true→∃e p,i < e∧(e=z∨(A e && decide (e < ops.size))=true)∧ops[e]?=some p∧(p.after.toList.any fun x=>x.on==i && Region.binds .any x)=true:=by
 intro i hi;rw[Bool.and_eq_true,decide_eq_true_eq] at hi;unfold Us at h;rw[List.all_eq_true] at h;have h1:=h i (List.mem_range.2 hi.2);rw[hi.1,Bool.not_true,Bool.false_or,List.any_eq_true] at h1;obtain⟨e,he,h2⟩:=h1;rw[Bool.and_eq_true,Bool.and_eq_true,decide_eq_true_eq,Bool.or_eq_true,beq_iff_eq] at h2;obtain⟨⟨h3,h4⟩,h5⟩:=h2;have hes:=List.mem_range.1 he;cases hp:ops[e]? with
 | none=>rw[hp] at h5;cases h5
 | some p =>
   rw[hp] at h5;refine⟨e,p,h3,?_,hp,h5⟩;rcases h4 with h4|h4
   ·exact .inl h4
   ·right;rw[h4];simp[hes]
end
variable {P:Program} {Q:Exit→Act→World→Prop}
section
variable {P:Program} {ops:Array Oper} {Q:Exit→Act→World→Prop}
def Ym(P:Program)(ops:Array Oper)(Q:Exit→Act→World→Prop)(src:Nat→Option Nat)(G:Nat→Value→World→Prop)(F F2:(Nat→Value)→World→World→Prop)(s0:Array Value)(w0:World)(i:Nat)(o:Oper):Prop :=
 ∀ (a:Act) (w1 w:World),Ext w0 w1→a.tmps.size=s0.size→(∀t,src t=none→a.tmps.getD t undef=s0.getD t undef)→
   (∀t e,src t=some e→(o.after.toList.any fun x=>x.on==e && Region.binds .any x)=true→G e (a.tmps.getD t undef) w1)→
   (∀t e,src t=some e→((ops[e]?).any fun p=>p.after.toList.any fun x=>x.on==i && Region.binds .any x)=true→a.tmps.getD t undef=s0.getD t undef)→
   F (fun t=>a.tmps.getD t undef) w1 w→
   Region.wanted o (yielded ops a.tmps)=true∧o.wp P a w (fun a' w'=>∃v,a'=a.put o.dst v∧(o.dst.isSome=true→G i v w1)∧F2 (fun t=>(a.put o.dst v).tmps.getD t undef) w1 w') Q
theorem xk{id:Nat}{a0:Act}{w:World}(hm:P.follows .mixedOrders=true)(src:Nat→Option Nat)(G:Nat→Value→World→Prop)(z y:Nat)(F F2:(Nat→Value)→World→World→Prop)
 (hG:∀i v w w',G i v w→Ext w w'→G i v w')
 (hsrc:∀i o d,ops[i]?=some o→o.dst=some d→src d=some i∧d < a0.tmps.size)
 (hlow:∀i o,ops[i]?=some o→∀x∈ o.after,Region.binds .any x=true→x.on < i)
 (hall:∀t i,src t=some i→∃o,ops[i]?=some o∧o.dst=some t)
 (A:Nat→Bool) (hA:∀i,A i=true→∃e p,i < e∧(e=z∨A e=true)∧ops[e]?=some p∧(p.after.toList.any fun x=>x.on==i && Region.binds .any x)=true)
 (hzy:z≠y) (hyl:y < ops.size) (hzl:z < ops.size) (hB:∀i,i < ops.size→i≠y→∃e p,i < e∧ops[e]?=some p∧(p.after.toList.any fun x=>x.on==i && Region.binds .any x)=true)
 (hst:∀i o,ops[i]?=some o→i≠z→i≠y→ua P ops Q src G a0.tmps w.drew i o)
 (hpu:∀i o,ops[i]?=some o→i≠z→i≠y→A i=true∨Yl P ops Q src G F a0.tmps w.drew i o)
 (hla:∀o,ops[z]?=some o→Yn P ops Q src G F a0.tmps w.drew z o)
 (hyo:∀o,ops[y]?=some o→Ym P ops Q src G F F2 a0.tmps w.drew y o)
 (hfin:∀(x:Nat→Value) (w1 w':World),Ext w.drew w1→(∀t i,src t=some i→G i (x t) w1)→F2 x w1 w'→Q .normal ⟨zC a0.tmps src x,a0.defers⟩ w') :
 (Code.region id ops true).wp P Q a0 w:=by
 refine wp_region_any hm ?_;refine ue (fun listed a w'=>∃w1,PInv ops src G a0.tmps a0.defers w.drew listed a w1∧((listed.getD z false=false∧w'=w1)∨(listed.getD z false=true∧listed.getD y false=false∧F (fun t=>a.tmps.getD t undef) w1 w')∨(listed.getD y false=true∧F2 (fun t=>a.tmps.getD t undef) w1 w'))) ?_ ?_ ops.size _ a0 _ ?_ ?_
 ·rintro listed a w2 i ⟨w1,hI,hZ⟩ hi;obtain⟨o,ho,hl,haf⟩:=jH hi
  have hil:i < listed.size:=by
   by_cases q:i < listed.size
   ·exact q
   ·rw[Array.getD_eq_getD_getElem?,Array.getElem?_eq_none (by omega)] at hl;cases hl
  have hl2:listed.getD i false=false:=by
   rw[Array.getD_eq_getD_getElem?,Array.getElem?_eq_getElem hil] at hl ⊢;simpa using hl
  have qa:∀t e,src t=some e→(o.after.toList.any fun x=>x.on==e && Region.binds .any x)=true→G e (a.tmps.getD t undef) w1:=fun t e hs ha=>by
   rw[List.any_eq_true] at ha;obtain⟨x,hx,hq⟩:=ha;rw[Bool.and_eq_true] at hq;have:=haf x (by simpa using hx) hq.2;rw[eq_of_beq hq.1] at this;exact hI.sl t e hs this
  have qM:∀t e,src t=some e→((ops[e]?).any fun p=>p.after.toList.any fun x=>x.on==i && Region.binds .any x)=true→a.tmps.getD t undef=a0.tmps.getD t undef:=fun t e hs ha=>by
   cases hp:ops[e]? with
   | none=>rw[hp] at ha;cases ha
   | some p =>
     rw[hp] at ha;have ha':(p.after.toList.any fun x=>x.on==i && Region.binds .any x)=true:=ha;rw[List.any_eq_true] at ha';obtain⟨x,hx,hq⟩:=ha';rw[Bool.and_eq_true] at hq;refine hI.un t e hs ?_;cases hle:listed.getD e false with
     | false=>rfl
     | true =>
       have:=hI.cl e p hp hle x (by simpa using hx) hq.2;rw[eq_of_beq hq.1,hl2] at this;cases this
  have key : ∀v w1',Ext w1 w1'→(o.dst.isSome=true→G i v w1')→PInv ops src G a0.tmps a0.defers w.drew (listed.setIfInBounds i true) (a.put o.dst v) w1':=by
   intro v w1' hext hg;refine⟨by rw[Array.size_setIfInBounds];exact hI.ls,?_,?_,hI.ex.trans hext,?_,?_,?_,?_⟩
   ·cases o.dst with
    | none=>exact hI.sz
    | some d=>show(a.tmps.setIfInBounds d v).size=_;rw[Array.size_setIfInBounds];exact hI.sz
   ·cases o.dst with
    | none=>exact hI.df
    | some d=>exact hI.df
   ·intro t j hs hj
    by_cases hji:j=i
    ·subst hji;obtain⟨o2,ho2,hd2⟩:=hall t j hs;rw[ho] at ho2;cases ho2;rw[hd2,yj,if_pos ⟨rfl,by rw[hI.sz];exact(hsrc j o t ho hd2).2⟩];exact hg (by rw[hd2];rfl)
    ·rw [yB] at hj;rcases hj with ⟨e,-⟩|hj
     ·exact absurd e hji
     ·have h9:=hI.sl t j hs hj
      have e9:(a.put o.dst v).tmps.getD t undef=a.tmps.getD t undef:=by
       cases hd:o.dst with
       | none=>rfl
       | some d =>
         rw[yj,if_neg];rintro ⟨rfl,-⟩;rw[(hsrc i o d ho hd).1] at hs;exact hji (inj hs).symm
      rw[e9];exact hG j _ _ _ h9 hext
   ·intro t j hs hj
    have hji:j≠i:=by
     rintro rfl;have:(listed.setIfInBounds j true).getD j false=true:=(yB _ _ _).2 (.inl ⟨rfl,hil⟩);rw[this] at hj;cases hj
    have hj2:listed.getD j false=false:=by
     cases q:listed.getD j false with
     | false=>rfl
     | true =>
       have:(listed.setIfInBounds i true).getD j false=true:=(yB _ _ _).2 (.inr q);rw[this] at hj;cases hj
    have e9:(a.put o.dst v).tmps.getD t undef=a.tmps.getD t undef:=by
     cases hd:o.dst with
     | none=>rfl
     | some d =>
       rw[yj,if_neg];rintro ⟨rfl,-⟩;rw[(hsrc i o d ho hd).1] at hs;exact hji (inj hs).symm
    rw[e9];exact hI.un t j hs hj2
   ·intro t hs
    have e9:(a.put o.dst v).tmps.getD t undef=a.tmps.getD t undef:=by
     cases hd:o.dst with
     | none=>rfl
     | some d =>
       rw[yj,if_neg];rintro ⟨rfl,-⟩;rw[(hsrc i o d ho hd).1] at hs;cases hs
    rw[e9];exact hI.ol t hs
   ·intro e p hp he x hx hb;rw[yB];right;rw[yB] at he;rcases he with ⟨rfl,-⟩|he
    ·rw [ho] at hp;cases hp;exact haf x hx hb
    ·exact hI.cl e p hp he x hx hb
  have hall2:(∀e,e=y→∀p,ops[e]?=some p→∀x∈ p.after,Region.binds .any x=true→listed.getD x.on false=true)→∀n i,ops.size - i≤n→i < ops.size→i≠y→listed.getD i false=true:=by
   intro hyd n
   induction n with
   | zero=>intro i hn hi;omega
   | succ n ih =>
     intro i hn hi hne;obtain⟨e,p,qN,hp,ha⟩:=hB i hi hne;have hes:=(Array.getElem?_eq_some_iff.1 hp).1;rw[List.any_eq_true] at ha;obtain⟨x,hx,hq⟩:=ha;rw[Bool.and_eq_true] at hq
     by_cases hey:e=y
     ·have:=hyd e hey p hp x (by simpa using hx) hq.2;rw[eq_of_beq hq.1] at this;exact this
     ·have hel:=ih e (by omega) hes hey;have:=hI.cl e p hp hel x (by simpa using hx) hq.2;rw[eq_of_beq hq.1] at this;exact this
  have hend:listed.getD y false=true→False:=by
   intro hy
   by_cases hiy:i=y
   ·rw[hiy,hy] at hl2;cases hl2
   ·have:=hall2 (fun e he p hp x hx hb=>hI.cl e p hp (by rw[he];exact hy) x hx hb) _ i (Nat.le_refl _) (by rw[← hI.ls];exact hil) hiy;rw[this] at hl2;cases hl2
  by_cases hiz:i=z
  ·subst hiz;rcases hZ with ⟨-,rfl⟩|⟨h,-⟩|⟨h,-⟩
   ·obtain ⟨h1,h2⟩:=hla o ho a w2 hI.ex hI.sz hI.ol qa qM;unfold wpOp;rw[ho];simp only[h1,if_true];refine .inl (Oper.wp_mono ?_ h2);rintro a' w' ⟨v,rfl,hg,hf⟩;refine⟨w2,key v w2 (Ext.refl _) hg,.inr (.inl ⟨(yB _ _ _).2 (.inl ⟨rfl,hil⟩),?_,hf⟩)⟩;cases q2:(listed.setIfInBounds i true).getD y false with
    | false=>rfl
    | true =>
      rcases(yB _ _ _).1 q2 with ⟨e,-⟩|e
      ·exact absurd e.symm hzy
      ·exact(hend e).elim
   ·rw[h] at hl2;cases hl2
   ·exact(hend h).elim
  ·by_cases hiy:i=y
   ·subst hiy;have hz1:listed.getD z false=true:=hall2 (fun e he p hp x hx hb=>by subst he;rw[ho] at hp;cases hp;exact haf x hx hb) _ z (Nat.le_refl _) hzl hzy;rcases hZ with ⟨h,-⟩|⟨-,-,hf⟩|⟨h,-⟩
    ·rw[hz1] at h;cases h
    ·obtain ⟨h1,h2⟩:=hyo o ho a w1 w2 hI.ex hI.sz hI.ol qa qM hf;unfold wpOp;rw[ho];simp only[h1,if_true];refine .inl (Oper.wp_mono ?_ h2);rintro a' w' ⟨v,rfl,hg,hf'⟩;exact⟨w1,key v w1 (Ext.refl _) hg,.inr (.inr ⟨(yB _ _ _).2 (.inl ⟨rfl,hil⟩),hf'⟩)⟩
    ·exact(hend h).elim
   have hy':(listed.setIfInBounds i true).getD y false=false:=by
    cases q2:(listed.setIfInBounds i true).getD y false with
    | false=>rfl
    | true =>
      rcases(yB _ _ _).1 q2 with ⟨e,-⟩|e
      ·exact absurd e.symm hiy
      ·exact(hend e).elim
   have hz':(listed.setIfInBounds i true).getD z false=listed.getD z false:=by
    cases q:listed.getD z false with
    | true=>exact(yB _ _ _).2 (.inr q)
    | false =>
      cases q2:(listed.setIfInBounds i true).getD z false with
      | false=>rfl
      | true =>
        rcases(yB _ _ _).1 q2 with ⟨e,-⟩|e
        ·exact absurd e.symm hiz
        ·rw[q] at e;cases e
   rcases hZ with ⟨hz0,rfl⟩|⟨hz1,hy0,hf⟩|⟨h,-⟩
   ·obtain ⟨h1,h2⟩:=hst i o ho hiz hiy a w2 hI.ex hI.ol qa qM;unfold wpOp;rw[ho];simp only[h1,if_true];refine .inl (Oper.wp_mono ?_ h2);rintro a' w' ⟨v,rfl,hext,hg⟩;exact⟨w',key v w' hext hg,.inl ⟨by rw[hz'];exact hz0,rfl⟩⟩
   ·rcases hpu i o ho hiz hiy with hb|hb
    ·exfalso
     have hanc:∀n i,ops.size - i≤n→A i=true→listed.getD i false=true:=by
      intro n
      induction n with
      | zero =>
        intro i hn hAi;obtain⟨e,p,qN,he,hp,ha⟩:=hA i hAi;have:=(Array.getElem?_eq_some_iff.1 hp).1;omega
      | succ n ih =>
        intro i hn hAi;obtain⟨e,p,qN,he,hp,ha⟩:=hA i hAi
        have hel:listed.getD e false=true:=by
         rcases he with rfl|he
         ·exact hz1
         ·exact ih e (by omega) he
        rw[List.any_eq_true] at ha;obtain⟨x,hx,hq⟩:=ha;rw[Bool.and_eq_true] at hq;have:=hI.cl e p hp hel x (by simpa using hx) hq.2;rw[eq_of_beq hq.1] at this;exact this
     rw[hanc _ i (Nat.le_refl _) hb] at hl2;cases hl2
    ·obtain ⟨h1,h2⟩:=hb a w1 w2 hI.ex hI.sz hI.ol qa qM hf;unfold wpOp;rw[ho];simp only[h1,if_true];refine .inl (Oper.wp_mono ?_ h2);rintro a' w' ⟨v,rfl,rfl,hg,hf'⟩;exact⟨w1,key v w1 (Ext.refl _) hg,.inr (.inl ⟨by rw[hz'];exact hz1,hy',hf'⟩)⟩
   ·exact(hend h).elim
 ·rintro listed a w2 ⟨w1,hI,hZ⟩ hr
  have hlist:∀i o,ops[i]?=some o→listed.getD i false=true:=by
   intro i
   induction i using Nat.strongRecOn with
   | _ i ih =>
     intro o ho;have hi:i < ops.size:=(Array.getElem?_eq_some_iff.1 ho).1;cases hq:listed.getD i false with
     | true=>rfl
     | false =>
       exfalso
       have hl:listed.getD i true=false:=by
        rw[Array.getD_eq_getD_getElem?,Array.getElem?_eq_getElem (by rw[hI.ls];exact hi)] at hq ⊢
        simpa using hq
       have:i∈ Region.ready .any ops listed:=vH ho hl (fun x hx hb=>by
        have qN:=hlow i o ho x hx hb;obtain⟨p,hp⟩:∃p,ops[x.on]?=some p:=⟨_,Array.getElem?_eq_getElem (by omega)⟩;exact ih x.on qN p hp)
       rw[hr] at this;cases this
  have hsl:∀t i,src t=some i→G i (a.tmps.getD t undef) w1:=by
   intro t i hs;obtain⟨o,ho,-⟩:=hall t i hs;exact hI.sl t i hs (hlist i o ho)
  have hfr:a.tmps=zC a0.tmps src (fun t=>a.tmps.getD t undef):=by
   apply Array.ext
   ·unfold zC;simp;exact hI.sz
   ·intro t h1 h2;unfold zC;simp only[List.getElem_toArray,List.getElem_mapIdx];cases hs:src t with
    | some i=>simp[Array.getD,h1,hs]
    | none =>
      have h9:=hI.ol t hs;have h3:t < a0.tmps.size:=(by rw[← hI.sz];exact h1);rw[Array.getD_eq_getD_getElem?,Array.getD_eq_getD_getElem?,Array.getElem?_eq_getElem h1,Array.getElem?_eq_getElem h3] at h9
      simpa [hs] using h9
  obtain⟨oy,hoy⟩:∃o,ops[y]?=some o:=⟨_,Array.getElem?_eq_getElem hyl⟩;obtain⟨oz,hoz⟩:∃o,ops[z]?=some o:=⟨_,Array.getElem?_eq_getElem hzl⟩
  have hf2:F2 (fun t=>a.tmps.getD t undef) w1 w2:=by
   rcases hZ with ⟨h,-⟩|⟨-,h,-⟩|⟨-,h⟩
   ·rw[hlist z oz hoz] at h;cases h
   ·rw[hlist y oy hoy] at h;cases h
   ·exact h
  have:=hfin (fun t=>a.tmps.getD t undef) w1 w2 hI.ex hsl hf2;rw[← hfr,← hI.df] at this;exact this
 ·rw [Array.toList_replicate];unfold left;simp
 ·refine ⟨_,⟨Array.size_replicate,rfl,rfl,Ext.refl _,?_,fun _ _ _ _=>rfl,fun _ _=>rfl,?_⟩,.inl ⟨?_,rfl⟩⟩
  ·intro t i hs hl;rw[Array.getD_eq_getD_getElem?,Array.getElem?_replicate] at hl
   split at hl<;>cases hl
  ·intro e o ho hl;rw[Array.getD_eq_getD_getElem?,Array.getElem?_replicate] at hl
   split at hl<;>cases hl
  ·rw [Array.getD_eq_getD_getElem?,Array.getElem?_replicate]
   split<;>rfl
end
def Ur(ops:Array Oper)(y:Nat):Bool:=decide (y < ops.size) && (List.range ops.size).all fun i=>(i==y) || (List.range ops.size).any fun e=>decide (i < e) && (match ops[e]? with|some p=>p.after.toList.any fun x=>x.on==i && Region.binds .any x|none=>false)
theorem vn{ops:Array Oper}{y:Nat}(h:Ur ops y=true):y < ops.size∧∀i,i < ops.size→i≠y→∃e p,i < e∧ops[e]?=some p∧(p.after.toList.any fun x=>x.on==i && Region.binds .any x)=true:=by
 unfold Ur at h;rw[Bool.and_eq_true,decide_eq_true_eq,List.all_eq_true] at h;refine⟨h.1,fun i hi hne=>?_⟩;have h1:=h.2 i (List.mem_range.2 hi);rw[Bool.or_eq_true,beq_iff_eq,List.any_eq_true] at h1;rcases h1 with h1|⟨e,he,h2⟩
 ·exact absurd h1 hne
 ·rw [Bool.and_eq_true,decide_eq_true_eq] at h2;cases hp:ops[e]? with
  | none=>rw[hp] at h2;exact absurd h2.2 (by simp)
  | some p =>
    rw[hp] at h2;exact⟨e,p,h2.1,hp,h2.2⟩
variable {P:Program} {Q:Exit→Act→World→Prop}
theorem yN{ops:Array Oper}{id:Nat}{a0:Act}{w:World}(tbl:List (Nat× Nat))(G:Nat→Value→World→Prop)(z y:Nat)(F F2:(Nat→Value)→World→World→Prop)
 (hm:P.follows .mixedOrders=true) (hchk:xa ops tbl a0.tmps.size=true)
 (hG:∀i v w w',G i v w→Ext w w'→G i v w')
 (A:Nat→Bool) (hA:Us ops A z=true) (hy:Ur ops y=true) (hzy:z < y)
 (hst:∀i o,ops[i]?=some o→i≠z→i≠y→ua P ops Q (za tbl) G a0.tmps w.drew i o)
 (hpu:∀i o,ops[i]?=some o→i≠z→i≠y→A i=true∨Yl P ops Q (za tbl) G F a0.tmps w.drew i o)
 (hla:∀o,ops[z]?=some o→Yn P ops Q (za tbl) G F a0.tmps w.drew z o)
 (hyo:∀o,ops[y]?=some o→Ym P ops Q (za tbl) G F F2 a0.tmps w.drew y o)
 (hfin:∀(x:Nat→Value) (w1 w':World),Ext w.drew w1→(∀t i,za tbl t=some i→G i (x t) w1)→F2 x w1 w'→Q .normal ⟨frameT tbl x a0.tmps,a0.defers⟩ w') :
 (Code.region id ops true).wp P Q a0 w :=
 xk hm (za tbl) G z y F F2 hG (vK hchk) (vL hchk) (vM hchk) _ (Uq hA) (by omega) (vn hy).1 (by have:=(vn hy).1;omega) (vn hy).2 hst (fun i o ho hz hy'=>(hpu i o ho hz hy').imp (fun q=>by rw[q];simp[(Array.getElem?_eq_some_iff.1 ho).1]) (fun q=>q)) hla hyo (fun x w1 w' h1 h2 h3=>by rw[uE];exact hfin x w1 w' h1 h2 h3)
end Go.Proofs.YtcejjdmnlejbaaaGreatDoor
