import Derived.Test.YtljdcpobomfnpaaGreatGg
import Derived.ChangeArms
import Derived.Deep.Slices
import Derived.SizedLaws
import Derived.OpenShut
import Derived.WalkArith
import Derived.Test.YtljdcpobomfnpaaGreatBex
import Derived.ChangeSlices
import Derived.Test.YtljdcpobomfnpaaGreatSnb
import Derived.Test.YtljdcpobomfnpaaGreatGe
import Derived.Test.YtljdcpobomfnpaaGreatGk
import Derived.Test.YtljdcpobomfnpaaGreatGi
namespace Go.Proofs.YtljdcpobomfnpaaGreat
set_option linter.unusedVariables false
set_option linter.unusedSimpArgs false
set_option maxRecDepth 100000
open Go.ChangeShapes Go.WideShapes Go.RowKit
open Go.Deep (BT)
theorem addr_add0 (a:Addr) (n:Nat) (h:a.spot=none):a.add n=⟨a.block,a.off+n,none⟩:=by
 obtain ⟨b,o,s⟩:=a
 dsimp only at h
 subst h
 unfold Addr.add
 by_cases q:n=0
 · subst q;rfl
 · rw [if_neg q]
theorem spot_none {w:World} {a:Addr} {v:Value} (h:w.cell? a=some v):a.spot=none:=by
 unfold World.cell? at h
 split at h
 · cases q:a.spot with
   | none=>rfl
   | some z=>rw [q] at h;simp at h
 · cases h
section
variable {H:Type} {enc:TypeId × Value→H} {w:World} {base:Nat} {spare:Nat→Bool} {held:Bool}
theorem Tryz.cellsI:Tryz.prog.cellsOf 3=1:=by kernel_rfl
end
end Go.Proofs.YtljdcpobomfnpaaGreat
namespace Go.Proofs.YtljdcpobomfnpaaGreat
section
set_option linter.unusedVariables false
set_option linter.unusedSimpArgs false
open Go.ChangeShapes Go.WideShapes Go.ChangeAt Go.RowKit
open Go.Deep (BT)
theorem bexpr_four:ExprQ 4 5120:=bexpr_of 3 1280 (by omega) (by omega) (by omega) (bexpr_of 2 320 (by omega) (by omega) (by omega) (bexpr_of 1 80 (by omega) (by omega) (by omega) bexpr_one))
def bcs (g:Nat):List Cn:=[⟨twoN,0,0,⟨1,2,⟨#[]⟩,none,0⟩,.nil⟩,⟨shiftN,g,0,⟨10,0,⟨#[]⟩,some ⟨g,0,none⟩,2⟩,.node 0 0 ⟨6,0,twoN,none,0⟩ .nil (.node 0 0 ⟨2,45,⟨#[]⟩,none,0⟩ .nil .nil)⟩]
theorem bcs_ok (g:Nat):CsOk (bcs g):=by
 intro c hc
 simp only [bcs,List.mem_cons,List.not_mem_nil,or_false] at hc
 rcases hc with rfl|rfl
 · simp only [CnOk,ExOk,NdOk,FoOk,len];decide
 · simp only [CnOk,ExOk,NdOk,FoOk,len];decide
set_option maxRecDepth 100000 in
theorem open_intsl {H:Type} {enc:TypeId × Value→H} {w:World} {base:Nat} {spare:Nat→Bool} {held:Bool} {v:Value} {d:DataW H} {p:List MemPlace} {r:Reach} {b0:Nat}
 (hv:Value.okWide Tryz.prog w r b0 22 v) (h:DataW.Trod enc Tryz.prog w base spare held 22 v d p):∃ n,IntsL w v n w.heap.size:=by
 obtain ⟨a,n,cap,rfl⟩:=okWide_slice Tryz.underlying22 hv
 obtain ⟨fuel,hf⟩:=h
 rcases open_ints Tryz.underlying22 Tryz.underlying3 Tryz.cellsI hf with ⟨he,-⟩|⟨a',n',cap',zs,he,-,hl,hm,hz,-,hc,-⟩
 · have he':[Value.slice a n cap]=[Value.slice none 0 0]:=he
   simp only [List.cons.injEq,and_true] at he'
   exact ⟨0,none,0,he',Nat.zero_le _,fun i hi=>absurd hi (Nat.not_lt_zero _)⟩
 · have he':[Value.slice a n cap]=[Value.slice (some a') n' cap']:=he
   simp only [List.cons.injEq,and_true] at he'
   have hzn:n'≤zs.length:=by rw [hz];split<;>omega
   refine ⟨n',some a',cap',he',Nat.le_trans hl hm,fun i hi=>?_⟩
   have q:=hc i (by omega)
   have q0:=hc 0 (by omega)
   have hs:a'.spot=none:=spot_none (by simpa [Addr.add] using q0)
   rw [addr_add0 _ _ hs] at q
   obtain ⟨B,O,sp⟩:=a'
   dsimp only at hs q
   subst hs
   exact ⟨B,O,_,rfl,block_lt_of_cell q,q⟩
end
section
set_option linter.unusedVariables false
set_option linter.unusedSimpArgs false
open Go.ChangeShapes Go.WideShapes Go.ChangeAt Go.RowKit
open Go.Deep (BT)
end
section
set_option linter.unusedVariables false
set_option linter.unusedSimpArgs false
open Go.RowKit
open Go.Deep (BT)
end
end Go.Proofs.YtljdcpobomfnpaaGreat
namespace Go.Proofs.YtljdcpobomfnpaaGreat
set_option linter.unusedVariables false
set_option linter.unusedSimpArgs false
set_option maxRecDepth 100000
open Go.ChangeShapes Go.WideShapes Go.ChangeAt Go.RowKit
open Go.Deep (BT)
variable {P:Program} {Q:Exit→Act→World→Prop}
theorem wp_of_run {o:Oper} {a:Act} {w w':World} {K:Act→World→Prop} {v:Value} (h:(execOp a.eval o).run P w=.ok (.value v) w') (hk:K (a.put o.dst v) w'):o.wp P a w K Q:=by
 unfold Oper.wp;rw [h];exact hk
theorem wp_of_enter {o:Oper} {a:Act} {w w':World} {K:Act→World→Prop} {f:FuncId} {vs:Array Value} {R:Value→World→Prop} (h:(execOp a.eval o).run P w=.ok (.enter f vs) w') (hc:Calls P f vs w' fun e w''=>∃ v,e=.returned v∧R v w'') (hk:∀ v w'',R v w''→K (a.put o.dst v) w''):o.wp P a w K Q:=by
 unfold Oper.wp;rw [h]
 exact hc.mono fun e w'' ⟨v,he,hr⟩=>by subst he;exact hk v w'' hr
section
variable (ρ:Operand→Value) (d:Option Tmp) (ty:TypeId) (pos:String) (af:Array Edge) (gd:Option (Nat × Bool)) (w:World)
theorem run_move (x:Operand) (v:Value) (h:ρ x=v):(execOp ρ ⟨d,.move x,ty,pos,af,gd⟩).run P w=.ok (.value v) w:=by
 simp [execOp,h,go_sem]
theorem run_assign (x:Operand) (v:Value) (h:ρ x=v):(execOp ρ ⟨d,.assign x,ty,pos,af,gd⟩).run P w=.ok (.value v) w:=by
 simp [execOp,h,go_sem]
theorem run_call {f:FuncId} {fn:Func} {c:Code} (args:Array Operand) (vs:Array Value) (tys:Array TypeId) (hfn:P.funcs[f]?=some fn) (hname:(fn.name == "runtime.NumGoroutine")=false) (hb:fn.body=some c) (hf:ρ (.func f)=.func (.func f) #[] #[]) (hv:args.map ρ=vs):(execOp ρ ⟨d,.call ⟨.value (.func f),args,tys⟩,ty,pos,af,gd⟩).run P w=.ok (.enter f vs) w:=by
 have hc:(callFunc f vs).run P w=.ok (.enter f vs) w:=by
  have hn:¬ fn.name = "runtime.NumGoroutine":=by simpa using hname
  simp [callFunc,Sem.run_bind,Result.andThen,hfn,hn,hb,go_sem]
 simp [execOp,resolve,hv,hf,go_sem]
 exact hc
end
theorem map2 {α β:Type} (f:α→β) (x y:α):#[x,y].map f=#[f x,f y]:=by simp
def srcOf (tbl:List (Nat × Nat)) (t:Nat):Option Nat:=(tbl.find? fun p=>p.1==t).map fun p=>p.2
def planB (ops:Array Oper) (tbl:List (Nat × Nat)) (n:Nat):Bool :=
 ((List.range ops.size).all fun i=>match ops[i]? with
   | some o=>(match o.dst with|some d=>(srcOf tbl d==some i) && decide (d < n)|none=>true) && (o.after.all fun x=>!Region.binds .any x || decide (x.on < i))
   | none=>true) && (tbl.all fun p=>match ops[p.2]? with|some o=>o.dst==some p.1|none=>false)
theorem plan_src {ops:Array Oper} {tbl:List (Nat × Nat)} {n:Nat} (h:planB ops tbl n=true):∀ i o d,ops[i]?=some o→o.dst=some d→srcOf tbl d=some i∧d < n:=by
 intro i o d ho hd
 unfold planB at h
 rw [Bool.and_eq_true,List.all_eq_true] at h
 have h1:=h.1 i (List.mem_range.2 (Array.getElem?_eq_some_iff.1 ho).1)
 rw [ho] at h1
 simp only [hd,Bool.and_eq_true,decide_eq_true_eq] at h1
 exact ⟨eq_of_beq h1.1.1,h1.1.2⟩
theorem plan_low {ops:Array Oper} {tbl:List (Nat × Nat)} {n:Nat} (h:planB ops tbl n=true):∀ i o,ops[i]?=some o→∀ x ∈ o.after,Region.binds .any x=true→x.on < i:=by
 intro i o ho x hx hb
 unfold planB at h
 rw [Bool.and_eq_true,List.all_eq_true] at h
 have h1:=h.1 i (List.mem_range.2 (Array.getElem?_eq_some_iff.1 ho).1)
 rw [ho] at h1
 simp only [Bool.and_eq_true] at h1
 have h2:=h1.2
 rw [Array.all_eq_true_iff_forall_mem] at h2
 have h3:=h2 x hx
 rw [hb] at h3
 simpa using h3
theorem plan_all {ops:Array Oper} {tbl:List (Nat × Nat)} {n:Nat} (h:planB ops tbl n=true):∀ t i,srcOf tbl t=some i→∃ o,ops[i]?=some o∧o.dst=some t:=by
 intro t i hs
 unfold planB at h
 rw [Bool.and_eq_true,List.all_eq_true,List.all_eq_true] at h
 unfold srcOf at hs
 cases hf:tbl.find? (fun p=>p.1==t) with
 | none=>rw [hf] at hs;cases hs
 | some p =>
   rw [hf] at hs
   obtain rfl:p.2=i:=Option.some.inj hs
   have h1:p.1=t:=by have:=List.find?_some hf;simpa using this
   have h2:=h.2 p (List.mem_of_find?_eq_some hf)
   cases ho:ops[p.2]? with
   | none=>rw [ho] at h2;cases h2
   | some o =>
     rw [ho] at h2
     exact ⟨o,rfl,by rw [← h1];exact eq_of_beq h2⟩
section
variable {G:Nat→Value→World→Prop} {i:Nat} {o:Oper} {a:Act} {w w':World} {v:Value}
theorem st_run (h:(execOp a.eval o).run P w=.ok (.value v) w') (he:Ext w w') (hg:G i v w'):o.wp P a w (fun a' w'=>∃ v,a'=a.put o.dst v∧Ext w w'∧(o.dst.isSome=true→G i v w')) Q :=
 wp_of_run h ⟨v,rfl,he,fun _=>hg⟩
theorem st_enter {f:FuncId} {vs:Array Value} (h:(execOp a.eval o).run P w=.ok (.enter f vs) w) (hc:Calls P f vs w fun e w''=>∃ v,e=.returned v∧Ext w w''∧G i v w''):o.wp P a w (fun a' w'=>∃ v,a'=a.put o.dst v∧Ext w w'∧(o.dst.isSome=true→G i v w')) Q :=
 wp_of_enter (R:=fun v w''=>Ext w w''∧G i v w'') h hc fun v w'' hr=>⟨v,rfl,hr.1,fun _=>hr.2⟩
end
def nd (op:Int) (g:Nat) (l:List Ch):Ch:=⟨g,0,⟨op,0,⟨#[]⟩,some ⟨g,0,none⟩,l.length⟩,rowF l⟩
section
variable (ρ:Operand→Value) (d:Option Tmp) (ty:TypeId) (pos:String) (af:Array Edge) (gd:Option (Nat × Bool)) (w:World)
end
def frameT (tbl:List (Nat × Nat)) (x:Nat→Value) (s:Array Value):Array Value:=tbl.foldl (fun s p=>s.setIfInBounds p.1 (x p.1)) s
theorem frameT_size (tbl:List (Nat × Nat)) (x:Nat→Value) (s:Array Value):(frameT tbl x s).size=s.size:=by
 unfold frameT
 induction tbl generalizing s with
 | nil=>rfl
 | cons p l ih=>rw [List.foldl_cons,ih,Array.size_setIfInBounds]
theorem frameT_get (tbl:List (Nat × Nat)) (x:Nat→Value) (s:Array Value) (t:Nat) (ht:t < s.size):(frameT tbl x s)[t]?=if (srcOf tbl t).isSome=true then some (x t) else s[t]?:=by
 unfold frameT
 induction tbl generalizing s with
 | nil=>rfl
 | cons p l ih =>
   rw [List.foldl_cons,ih _ (by rw [Array.size_setIfInBounds];exact ht),Array.getElem?_setIfInBounds]
   have hs:srcOf (p :: l) t=if p.1=t then some p.2 else srcOf l t:=by
    unfold srcOf
    rw [List.find?_cons]
    by_cases q:p.1=t
    · simp [q]
    · have:(p.1==t)=false:=by simp [q]
      rw [this,if_neg q]
   rw [hs]
   by_cases q:p.1=t
   · rw [if_pos q,if_pos q]
     subst q
     simp [ht]
   · rw [if_neg q,if_neg q]
theorem frame_tbl (tbl:List (Nat × Nat)) (x:Nat→Value) (s:Array Value):frameOf s (srcOf tbl) x=frameT tbl x s:=by
 apply Array.ext_getElem?
 intro t
 by_cases ht:t < s.size
 · rw [frameT_get tbl x s t ht]
   unfold frameOf
   rw [List.getElem?_toArray,List.getElem?_mapIdx,Array.getElem?_toList,Array.getElem?_eq_getElem ht]
   cases hs:srcOf tbl t with
   | some i=>simp [hs]
   | none=>simp [hs]
 · rw [Array.getElem?_eq_none (by unfold frameOf;simp;omega),Array.getElem?_eq_none (by rw [frameT_size];omega)]
theorem plan_tbl {ops:Array Oper} {id:Nat} {a0:Act} {w:World} (tbl:List (Nat × Nat)) (G:Nat→Value→World→Prop) (z:Nat) (F:(Nat→Value)→World→World→Prop)
 (hm:P.follows .mixedOrders=true) (hchk:planB ops tbl a0.tmps.size=true)
 (hG:∀ i v w w',G i v w→Ext w w'→G i v w')
 (hF:∀ x x' w1 w',(∀ t,(srcOf tbl t=none∨∃ e,srcOf tbl t=some e∧(e=z∨((ops[z]?).any fun p=>p.after.toList.any fun x=>x.on==e && Region.binds .any x)=true))→x t=x' t)→F x w1 w'→F x' w1 w')
 (hst:∀ i o,ops[i]?=some o→i≠z→StepOk P ops Q (srcOf tbl) G a0.tmps w.drew i o)
 (hpu:∀ i o,ops[i]?=some o→i≠z→((ops[z]?).any fun p=>p.after.toList.any fun x=>x.on==i && Region.binds .any x)=true∨ops.size≤z∨PureOk P ops Q (srcOf tbl) G a0.tmps w.drew i o)
 (hla:∀ o,ops[z]?=some o→LastOk P ops Q (srcOf tbl) G F a0.tmps w.drew z o)
 (hfin:∀ (x:Nat→Value) (w1 w':World),Ext w.drew w1→(∀ t i,srcOf tbl t=some i→G i (x t) w1)→(z < ops.size→F x w1 w')→(ops.size≤z→w'=w1)→Q .normal ⟨frameT tbl x a0.tmps,a0.defers⟩ w') :
 (Code.region id ops true).wp P Q a0 w :=
 wp_region_plan hm (srcOf tbl) G z F hG (plan_src hchk) (plan_low hchk) (plan_all hchk) hF hst hpu hla (fun x w1 w' h1 h2 h3 h4=>by rw [frame_tbl];exact hfin x w1 w' h1 h2 h3 h4)
end Go.Proofs.YtljdcpobomfnpaaGreat
namespace Go.Proofs.YtljdcpobomfnpaaGreat
set_option linter.unusedVariables false
set_option linter.unusedSimpArgs false
set_option maxRecDepth 100000
open Go.ChangeShapes Go.WideShapes Go.ChangeAt Go.RowKit
section
variable {P:Program} {ops:Array Oper} {Q:Exit→Act→World→Prop}
def PureOk2 (P:Program) (ops:Array Oper) (Q:Exit→Act→World→Prop) (src:Nat→Option Nat) (G:Nat→Value→World→Prop) (F:(Nat→Value)→World→World→Prop) (s0:Array Value) (w0:World) (i:Nat) (o:Oper):Prop :=
 ∀ (a:Act) (w1 w:World),Ext w0 w1→a.tmps.size=s0.size→(∀ t,src t=none→a.tmps.getD t undef=s0.getD t undef) →
   (∀ t e,src t=some e→(o.after.toList.any fun x=>x.on==e && Region.binds .any x)=true→G e (a.tmps.getD t undef) w1) →
   (∀ t e,src t=some e→((ops[e]?).any fun p=>p.after.toList.any fun x=>x.on==i && Region.binds .any x)=true→a.tmps.getD t undef=s0.getD t undef) →
   F (fun t=>a.tmps.getD t undef) w1 w →
   Region.wanted o (yielded ops a.tmps)=true∧o.wp P a w (fun a' w'=>∃ v,a'=a.put o.dst v∧w'=w∧(o.dst.isSome=true→G i v w1)∧F (fun t=>(a.put o.dst v).tmps.getD t undef) w1 w) Q
def LastOk2 (P:Program) (ops:Array Oper) (Q:Exit→Act→World→Prop) (src:Nat→Option Nat) (G:Nat→Value→World→Prop) (F:(Nat→Value)→World→World→Prop) (s0:Array Value) (w0:World) (i:Nat) (o:Oper):Prop :=
 ∀ (a:Act) (w:World),Ext w0 w→a.tmps.size=s0.size→(∀ t,src t=none→a.tmps.getD t undef=s0.getD t undef) →
   (∀ t e,src t=some e→(o.after.toList.any fun x=>x.on==e && Region.binds .any x)=true→G e (a.tmps.getD t undef) w) →
   (∀ t e,src t=some e→((ops[e]?).any fun p=>p.after.toList.any fun x=>x.on==i && Region.binds .any x)=true→a.tmps.getD t undef=s0.getD t undef) →
   Region.wanted o (yielded ops a.tmps)=true∧o.wp P a w (fun a' w'=>∃ v,a'=a.put o.dst v∧(o.dst.isSome=true→G i v w)∧F (fun t=>(a.put o.dst v).tmps.getD t undef) w w') Q
def ancB (ops:Array Oper) (A:Nat→Bool) (z:Nat):Bool:=(List.range ops.size).all fun i=>!A i || (List.range ops.size).any fun e=>decide (i < e) && (e==z || A e) && (match ops[e]? with|some p=>p.after.toList.any fun x=>x.on==i && Region.binds .any x|none=>false)
theorem anc_of {A:Nat→Bool} {z:Nat} (h:ancB ops A z=true):∀ i,(A i && decide (i < ops.size))=true→∃ e p,i < e∧(e=z∨(A e && decide (e < ops.size))=true)∧ops[e]?=some p∧(p.after.toList.any fun x=>x.on==i && Region.binds .any x)=true:=by
 intro i hi
 rw [Bool.and_eq_true,decide_eq_true_eq] at hi
 unfold ancB at h
 rw [List.all_eq_true] at h
 have h1:=h i (List.mem_range.2 hi.2)
 rw [hi.1,Bool.not_true,Bool.false_or,List.any_eq_true] at h1
 obtain ⟨e,he,h2⟩:=h1
 rw [Bool.and_eq_true,Bool.and_eq_true,decide_eq_true_eq,Bool.or_eq_true,beq_iff_eq] at h2
 obtain ⟨⟨h3,h4⟩,h5⟩:=h2
 have hes:=List.mem_range.1 he
 cases hp:ops[e]? with
 | none=>rw [hp] at h5;cases h5
 | some p =>
   rw [hp] at h5
   refine ⟨e,p,h3,?_,hp,h5⟩
   rcases h4 with h4|h4
   · exact .inl h4
   · right;rw [h4];simp [hes]
end
variable {P:Program} {Q:Exit→Act→World→Prop}
end Go.Proofs.YtljdcpobomfnpaaGreat
namespace Go.Proofs.YtljdcpobomfnpaaGreat
set_option linter.unusedVariables false
set_option linter.unusedSimpArgs false
set_option maxRecDepth 100000
open Go.ChangeShapes Go.WideShapes Go.ChangeAt Go.RowKit
section
variable {P:Program} {ops:Array Oper} {Q:Exit→Act→World→Prop}
def LastOk3 (P:Program) (ops:Array Oper) (Q:Exit→Act→World→Prop) (src:Nat→Option Nat) (G:Nat→Value→World→Prop) (F F2:(Nat→Value)→World→World→Prop) (s0:Array Value) (w0:World) (i:Nat) (o:Oper):Prop :=
 ∀ (a:Act) (w1 w:World),Ext w0 w1→a.tmps.size=s0.size→(∀ t,src t=none→a.tmps.getD t undef=s0.getD t undef) →
   (∀ t e,src t=some e→(o.after.toList.any fun x=>x.on==e && Region.binds .any x)=true→G e (a.tmps.getD t undef) w1) →
   (∀ t e,src t=some e→((ops[e]?).any fun p=>p.after.toList.any fun x=>x.on==i && Region.binds .any x)=true→a.tmps.getD t undef=s0.getD t undef) →
   F (fun t=>a.tmps.getD t undef) w1 w →
   Region.wanted o (yielded ops a.tmps)=true∧o.wp P a w (fun a' w'=>∃ v,a'=a.put o.dst v∧(o.dst.isSome=true→G i v w1)∧F2 (fun t=>(a.put o.dst v).tmps.getD t undef) w1 w') Q
theorem wp_region_plan3 {id:Nat} {a0:Act} {w:World} (hm:P.follows .mixedOrders=true) (src:Nat→Option Nat) (G:Nat→Value→World→Prop) (z y:Nat) (F F2:(Nat→Value)→World→World→Prop)
 (hG:∀ i v w w',G i v w→Ext w w'→G i v w')
 (hsrc:∀ i o d,ops[i]?=some o→o.dst=some d→src d=some i∧d < a0.tmps.size)
 (hlow:∀ i o,ops[i]?=some o→∀ x ∈ o.after,Region.binds .any x=true→x.on < i)
 (hall:∀ t i,src t=some i→∃ o,ops[i]?=some o∧o.dst=some t)
 (A:Nat→Bool) (hA:∀ i,A i=true→∃ e p,i < e∧(e=z∨A e=true)∧ops[e]?=some p∧(p.after.toList.any fun x=>x.on==i && Region.binds .any x)=true)
 (hzy:z≠y) (hyl:y < ops.size) (hzl:z < ops.size) (hB:∀ i,i < ops.size→i≠y→∃ e p,i < e∧ops[e]?=some p∧(p.after.toList.any fun x=>x.on==i && Region.binds .any x)=true)
 (hst:∀ i o,ops[i]?=some o→i≠z→i≠y→StepOk P ops Q src G a0.tmps w.drew i o)
 (hpu:∀ i o,ops[i]?=some o→i≠z→i≠y→A i=true∨PureOk2 P ops Q src G F a0.tmps w.drew i o)
 (hla:∀ o,ops[z]?=some o→LastOk2 P ops Q src G F a0.tmps w.drew z o)
 (hyo:∀ o,ops[y]?=some o→LastOk3 P ops Q src G F F2 a0.tmps w.drew y o)
 (hfin:∀ (x:Nat→Value) (w1 w':World),Ext w.drew w1→(∀ t i,src t=some i→G i (x t) w1)→F2 x w1 w'→Q .normal ⟨frameOf a0.tmps src x,a0.defers⟩ w') :
 (Code.region id ops true).wp P Q a0 w:=by
 refine wp_region_any hm ?_
 refine wpAny_inv (fun listed a w'=>∃ w1,PInv ops src G a0.tmps a0.defers w.drew listed a w1∧((listed.getD z false=false∧w'=w1)∨(listed.getD z false=true∧listed.getD y false=false∧F (fun t=>a.tmps.getD t undef) w1 w')∨(listed.getD y false=true∧F2 (fun t=>a.tmps.getD t undef) w1 w'))) ?_ ?_ ops.size _ a0 _ ?_ ?_
 · rintro listed a w2 i ⟨w1,hI,hZ⟩ hi
   obtain ⟨o,ho,hl,haf⟩:=ready_spec hi
   have hil:i < listed.size:=by
    by_cases q:i < listed.size
    · exact q
    · rw [Array.getD_eq_getD_getElem?,Array.getElem?_eq_none (by omega)] at hl;cases hl
   have hl2:listed.getD i false=false:=by
    rw [Array.getD_eq_getD_getElem?,Array.getElem?_eq_getElem hil] at hl ⊢;simpa using hl
   have hdep:∀ t e,src t=some e→(o.after.toList.any fun x=>x.on==e && Region.binds .any x)=true→G e (a.tmps.getD t undef) w1:=fun t e hs ha=>by
    rw [List.any_eq_true] at ha
    obtain ⟨x,hx,hq⟩:=ha
    rw [Bool.and_eq_true] at hq
    have:=haf x (by simpa using hx) hq.2
    rw [eq_of_beq hq.1] at this
    exact hI.sl t e hs this
   have hwar:∀ t e,src t=some e→((ops[e]?).any fun p=>p.after.toList.any fun x=>x.on==i && Region.binds .any x)=true→a.tmps.getD t undef=a0.tmps.getD t undef:=fun t e hs ha=>by
    cases hp:ops[e]? with
    | none=>rw [hp] at ha;cases ha
    | some p =>
      rw [hp] at ha
      have ha':(p.after.toList.any fun x=>x.on==i && Region.binds .any x)=true:=ha
      rw [List.any_eq_true] at ha'
      obtain ⟨x,hx,hq⟩:=ha'
      rw [Bool.and_eq_true] at hq
      refine hI.un t e hs ?_
      cases hle:listed.getD e false with
      | false=>rfl
      | true =>
        have:=hI.cl e p hp hle x (by simpa using hx) hq.2
        rw [eq_of_beq hq.1,hl2] at this
        cases this
   have key : ∀ v w1',Ext w1 w1'→(o.dst.isSome=true→G i v w1')→PInv ops src G a0.tmps a0.defers w.drew (listed.setIfInBounds i true) (a.put o.dst v) w1':=by
    intro v w1' hext hg
    refine ⟨by rw [Array.size_setIfInBounds];exact hI.ls,?_,?_,hI.ex.trans hext,?_,?_,?_,?_⟩
    · cases o.dst with
      | none=>exact hI.sz
      | some d=>show (a.tmps.setIfInBounds d v).size=_;rw [Array.size_setIfInBounds];exact hI.sz
    · cases o.dst with
      | none=>exact hI.df
      | some d=>exact hI.df
    · intro t j hs hj
      by_cases hji:j=i
      · subst hji
        obtain ⟨o2,ho2,hd2⟩:=hall t j hs
        rw [ho] at ho2
        cases ho2
        rw [hd2,put_getD,if_pos ⟨rfl,by rw [hI.sz];exact (hsrc j o t ho hd2).2⟩]
        exact hg (by rw [hd2];rfl)
      · rw [getD_set] at hj
        rcases hj with ⟨e,-⟩|hj
        · exact absurd e hji
        · have h9:=hI.sl t j hs hj
          have e9:(a.put o.dst v).tmps.getD t undef=a.tmps.getD t undef:=by
           cases hd:o.dst with
           | none=>rfl
           | some d =>
             rw [put_getD,if_neg]
             rintro ⟨rfl,-⟩
             rw [(hsrc i o d ho hd).1] at hs
             exact hji (Option.some.inj hs).symm
          rw [e9]
          exact hG j _ _ _ h9 hext
    · intro t j hs hj
      have hji:j≠i:=by
       rintro rfl
       have:(listed.setIfInBounds j true).getD j false=true:=(getD_set _ _ _).2 (.inl ⟨rfl,hil⟩)
       rw [this] at hj;cases hj
      have hj2:listed.getD j false=false:=by
       cases q:listed.getD j false with
       | false=>rfl
       | true =>
         have:(listed.setIfInBounds i true).getD j false=true:=(getD_set _ _ _).2 (.inr q)
         rw [this] at hj;cases hj
      have e9:(a.put o.dst v).tmps.getD t undef=a.tmps.getD t undef:=by
       cases hd:o.dst with
       | none=>rfl
       | some d =>
         rw [put_getD,if_neg]
         rintro ⟨rfl,-⟩
         rw [(hsrc i o d ho hd).1] at hs
         exact hji (Option.some.inj hs).symm
      rw [e9]
      exact hI.un t j hs hj2
    · intro t hs
      have e9:(a.put o.dst v).tmps.getD t undef=a.tmps.getD t undef:=by
       cases hd:o.dst with
       | none=>rfl
       | some d =>
         rw [put_getD,if_neg]
         rintro ⟨rfl,-⟩
         rw [(hsrc i o d ho hd).1] at hs
         cases hs
      rw [e9]
      exact hI.ol t hs
    · intro e p hp he x hx hb
      rw [getD_set]
      right
      rw [getD_set] at he
      rcases he with ⟨rfl,-⟩|he
      · rw [ho] at hp
        cases hp
        exact haf x hx hb
      · exact hI.cl e p hp he x hx hb
   have hall2:(∀ e,e=y→∀ p,ops[e]?=some p→∀ x ∈ p.after,Region.binds .any x=true→listed.getD x.on false=true)→∀ n i,ops.size - i≤n→i < ops.size→i≠y→listed.getD i false=true:=by
    intro hyd n
    induction n with
    | zero=>intro i hn hi;omega
    | succ n ih =>
      intro i hn hi hne
      obtain ⟨e,p,hlt,hp,ha⟩:=hB i hi hne
      have hes:=(Array.getElem?_eq_some_iff.1 hp).1
      rw [List.any_eq_true] at ha
      obtain ⟨x,hx,hq⟩:=ha
      rw [Bool.and_eq_true] at hq
      by_cases hey:e=y
      · have:=hyd e hey p hp x (by simpa using hx) hq.2
        rw [eq_of_beq hq.1] at this
        exact this
      · have hel:=ih e (by omega) hes hey
        have:=hI.cl e p hp hel x (by simpa using hx) hq.2
        rw [eq_of_beq hq.1] at this
        exact this
   have hend:listed.getD y false=true→False:=by
    intro hy
    by_cases hiy:i=y
    · rw [hiy,hy] at hl2;cases hl2
    · have:=hall2 (fun e he p hp x hx hb=>hI.cl e p hp (by rw [he];exact hy) x hx hb) _ i (Nat.le_refl _) (by rw [← hI.ls];exact hil) hiy
      rw [this] at hl2;cases hl2
   by_cases hiz:i=z
   · subst hiz
     rcases hZ with ⟨-,rfl⟩|⟨h,-⟩|⟨h,-⟩
     · obtain ⟨h1,h2⟩:=hla o ho a w2 hI.ex hI.sz hI.ol hdep hwar
       unfold wpOp
       rw [ho]
       simp only [h1,if_true]
       refine .inl (Oper.wp_mono ?_ h2)
       rintro a' w' ⟨v,rfl,hg,hf⟩
       refine ⟨w2,key v w2 (Ext.refl _) hg,.inr (.inl ⟨(getD_set _ _ _).2 (.inl ⟨rfl,hil⟩),?_,hf⟩)⟩
       cases q2:(listed.setIfInBounds i true).getD y false with
       | false=>rfl
       | true =>
         rcases (getD_set _ _ _).1 q2 with ⟨e,-⟩|e
         · exact absurd e.symm hzy
         · exact (hend e).elim
     · rw [h] at hl2;cases hl2
     · exact (hend h).elim
   · by_cases hiy:i=y
     · subst hiy
       have hz1:listed.getD z false=true:=hall2 (fun e he p hp x hx hb=>by subst he;rw [ho] at hp;cases hp;exact haf x hx hb) _ z (Nat.le_refl _) hzl hzy
       rcases hZ with ⟨h,-⟩|⟨-,-,hf⟩|⟨h,-⟩
       · rw [hz1] at h;cases h
       · obtain ⟨h1,h2⟩:=hyo o ho a w1 w2 hI.ex hI.sz hI.ol hdep hwar hf
         unfold wpOp
         rw [ho]
         simp only [h1,if_true]
         refine .inl (Oper.wp_mono ?_ h2)
         rintro a' w' ⟨v,rfl,hg,hf'⟩
         exact ⟨w1,key v w1 (Ext.refl _) hg,.inr (.inr ⟨(getD_set _ _ _).2 (.inl ⟨rfl,hil⟩),hf'⟩)⟩
       · exact (hend h).elim
     have hy':(listed.setIfInBounds i true).getD y false=false:=by
      cases q2:(listed.setIfInBounds i true).getD y false with
      | false=>rfl
      | true =>
        rcases (getD_set _ _ _).1 q2 with ⟨e,-⟩|e
        · exact absurd e.symm hiy
        · exact (hend e).elim
     have hz':(listed.setIfInBounds i true).getD z false=listed.getD z false:=by
      cases q:listed.getD z false with
      | true=>exact (getD_set _ _ _).2 (.inr q)
      | false =>
        cases q2:(listed.setIfInBounds i true).getD z false with
        | false=>rfl
        | true =>
          rcases (getD_set _ _ _).1 q2 with ⟨e,-⟩|e
          · exact absurd e.symm hiz
          · rw [q] at e;cases e
     rcases hZ with ⟨hz0,rfl⟩|⟨hz1,hy0,hf⟩|⟨h,-⟩
     · obtain ⟨h1,h2⟩:=hst i o ho hiz hiy a w2 hI.ex hI.ol hdep hwar
       unfold wpOp
       rw [ho]
       simp only [h1,if_true]
       refine .inl (Oper.wp_mono ?_ h2)
       rintro a' w' ⟨v,rfl,hext,hg⟩
       exact ⟨w',key v w' hext hg,.inl ⟨by rw [hz'];exact hz0,rfl⟩⟩
     · rcases hpu i o ho hiz hiy with hb|hb
       · exfalso
         have hanc:∀ n i,ops.size - i≤n→A i=true→listed.getD i false=true:=by
          intro n
          induction n with
          | zero =>
            intro i hn hAi
            obtain ⟨e,p,hlt,he,hp,ha⟩:=hA i hAi
            have:=(Array.getElem?_eq_some_iff.1 hp).1
            omega
          | succ n ih =>
            intro i hn hAi
            obtain ⟨e,p,hlt,he,hp,ha⟩:=hA i hAi
            have hel:listed.getD e false=true:=by
             rcases he with rfl|he
             · exact hz1
             · exact ih e (by omega) he
            rw [List.any_eq_true] at ha
            obtain ⟨x,hx,hq⟩:=ha
            rw [Bool.and_eq_true] at hq
            have:=hI.cl e p hp hel x (by simpa using hx) hq.2
            rw [eq_of_beq hq.1] at this
            exact this
         rw [hanc _ i (Nat.le_refl _) hb] at hl2
         cases hl2
       · obtain ⟨h1,h2⟩:=hb a w1 w2 hI.ex hI.sz hI.ol hdep hwar hf
         unfold wpOp
         rw [ho]
         simp only [h1,if_true]
         refine .inl (Oper.wp_mono ?_ h2)
         rintro a' w' ⟨v,rfl,rfl,hg,hf'⟩
         exact ⟨w1,key v w1 (Ext.refl _) hg,.inr (.inl ⟨by rw [hz'];exact hz1,hy',hf'⟩)⟩
     · exact (hend h).elim
 · rintro listed a w2 ⟨w1,hI,hZ⟩ hr
   have hlist:∀ i o,ops[i]?=some o→listed.getD i false=true:=by
    intro i
    induction i using Nat.strongRecOn with
    | _ i ih =>
      intro o ho
      have hi:i < ops.size:=(Array.getElem?_eq_some_iff.1 ho).1
      cases hq:listed.getD i false with
      | true=>rfl
      | false =>
        exfalso
        have hl:listed.getD i true=false:=by
         rw [Array.getD_eq_getD_getElem?,Array.getElem?_eq_getElem (by rw [hI.ls];exact hi)] at hq ⊢
         simpa using hq
        have:i ∈ Region.ready .any ops listed:=ready_of ho hl (fun x hx hb=>by
         have hlt:=hlow i o ho x hx hb
         obtain ⟨p,hp⟩:∃ p,ops[x.on]?=some p:=⟨_,Array.getElem?_eq_getElem (by omega)⟩
         exact ih x.on hlt p hp)
        rw [hr] at this
        cases this
   have hsl:∀ t i,src t=some i→G i (a.tmps.getD t undef) w1:=by
    intro t i hs
    obtain ⟨o,ho,-⟩:=hall t i hs
    exact hI.sl t i hs (hlist i o ho)
   have hfr:a.tmps=frameOf a0.tmps src (fun t=>a.tmps.getD t undef):=by
    apply Array.ext
    · unfold frameOf;simp;exact hI.sz
    · intro t h1 h2
      unfold frameOf
      simp only [List.getElem_toArray,List.getElem_mapIdx]
      cases hs:src t with
      | some i=>simp [Array.getD,h1,hs]
      | none =>
        have h9:=hI.ol t hs
        have h3:t < a0.tmps.size:=by rw [← hI.sz];exact h1
        rw [Array.getD_eq_getD_getElem?,Array.getD_eq_getD_getElem?,Array.getElem?_eq_getElem h1,Array.getElem?_eq_getElem h3] at h9
        simpa [hs] using h9
   obtain ⟨oy,hoy⟩:∃ o,ops[y]?=some o:=⟨_,Array.getElem?_eq_getElem hyl⟩
   obtain ⟨oz,hoz⟩:∃ o,ops[z]?=some o:=⟨_,Array.getElem?_eq_getElem hzl⟩
   have hf2:F2 (fun t=>a.tmps.getD t undef) w1 w2:=by
    rcases hZ with ⟨h,-⟩|⟨-,h,-⟩|⟨-,h⟩
    · rw [hlist z oz hoz] at h;cases h
    · rw [hlist y oy hoy] at h;cases h
    · exact h
   have:=hfin (fun t=>a.tmps.getD t undef) w1 w2 hI.ex hsl hf2
   rw [← hfr,← hI.df] at this
   exact this
 · rw [Array.toList_replicate]
   unfold left
   simp
 · refine ⟨_,⟨Array.size_replicate,rfl,rfl,Ext.refl _,?_,fun _ _ _ _=>rfl,fun _ _=>rfl,?_⟩,.inl ⟨?_,rfl⟩⟩
   · intro t i hs hl
     rw [Array.getD_eq_getD_getElem?,Array.getElem?_replicate] at hl
     split at hl<;>cases hl
   · intro e o ho hl
     rw [Array.getD_eq_getD_getElem?,Array.getElem?_replicate] at hl
     split at hl<;>cases hl
   · rw [Array.getD_eq_getD_getElem?,Array.getElem?_replicate]
     split<;>rfl
end
def ancY (ops:Array Oper) (y:Nat):Bool:=decide (y < ops.size) && (List.range ops.size).all fun i=>(i==y) || (List.range ops.size).any fun e=>decide (i < e) && (match ops[e]? with|some p=>p.after.toList.any fun x=>x.on==i && Region.binds .any x|none=>false)
theorem ancY_of {ops:Array Oper} {y:Nat} (h:ancY ops y=true):y < ops.size∧∀ i,i < ops.size→i≠y→∃ e p,i < e∧ops[e]?=some p∧(p.after.toList.any fun x=>x.on==i && Region.binds .any x)=true:=by
 unfold ancY at h
 rw [Bool.and_eq_true,decide_eq_true_eq,List.all_eq_true] at h
 refine ⟨h.1,fun i hi hne=>?_⟩
 have h1:=h.2 i (List.mem_range.2 hi)
 rw [Bool.or_eq_true,beq_iff_eq,List.any_eq_true] at h1
 rcases h1 with h1|⟨e,he,h2⟩
 · exact absurd h1 hne
 · rw [Bool.and_eq_true,decide_eq_true_eq] at h2
   cases hp:ops[e]? with
   | none=>rw [hp] at h2;exact absurd h2.2 (by simp)
   | some p =>
     rw [hp] at h2
     exact ⟨e,p,h2.1,hp,h2.2⟩
variable {P:Program} {Q:Exit→Act→World→Prop}
theorem plan_tbl3 {ops:Array Oper} {id:Nat} {a0:Act} {w:World} (tbl:List (Nat × Nat)) (G:Nat→Value→World→Prop) (z y:Nat) (F F2:(Nat→Value)→World→World→Prop)
 (hm:P.follows .mixedOrders=true) (hchk:planB ops tbl a0.tmps.size=true)
 (hG:∀ i v w w',G i v w→Ext w w'→G i v w')
 (A:Nat→Bool) (hA:ancB ops A z=true) (hy:ancY ops y=true) (hzy:z < y)
 (hst:∀ i o,ops[i]?=some o→i≠z→i≠y→StepOk P ops Q (srcOf tbl) G a0.tmps w.drew i o)
 (hpu:∀ i o,ops[i]?=some o→i≠z→i≠y→A i=true∨PureOk2 P ops Q (srcOf tbl) G F a0.tmps w.drew i o)
 (hla:∀ o,ops[z]?=some o→LastOk2 P ops Q (srcOf tbl) G F a0.tmps w.drew z o)
 (hyo:∀ o,ops[y]?=some o→LastOk3 P ops Q (srcOf tbl) G F F2 a0.tmps w.drew y o)
 (hfin:∀ (x:Nat→Value) (w1 w':World),Ext w.drew w1→(∀ t i,srcOf tbl t=some i→G i (x t) w1)→F2 x w1 w'→Q .normal ⟨frameT tbl x a0.tmps,a0.defers⟩ w') :
 (Code.region id ops true).wp P Q a0 w :=
 wp_region_plan3 hm (srcOf tbl) G z y F F2 hG (plan_src hchk) (plan_low hchk) (plan_all hchk) _ (anc_of hA) (by omega) (ancY_of hy).1 (by have:=(ancY_of hy).1;omega) (ancY_of hy).2 hst (fun i o ho hz hy'=>(hpu i o ho hz hy').imp (fun q=>by rw [q];simp [(Array.getElem?_eq_some_iff.1 ho).1]) (fun q=>q)) hla hyo (fun x w1 w' h1 h2 h3=>by rw [frame_tbl];exact hfin x w1 w' h1 h2 h3)
end Go.Proofs.YtljdcpobomfnpaaGreat
