import Derived.Maps.AppendAt
import Derived.Test.YtcejjdmnlejbaaaGreatDoorVRzB
namespace Go.Proofs.YtcejjdmnlejbaaaGreatDoor
open Option.some(inj)
set_option linter.unusedVariables false
set_option linter.unusedSimpArgs false
open Go.ChangeShapes Go.WideShapes Go.ChangeAt Go.RowKit
open Go.Deep (BT)
namespace Pz
def xN(op:Int)(p:Option Addr)(cap:Nat)(l:List Ch):Ch:=⟨match p with|some a=>a.block|none=>0,0,⟨op,0,⟨#[]⟩,p,cap⟩,qH l⟩
theorem rowC_snoc(l:List Ch)(c:Ch):zR (l++[c])=zR l++jI c:=by unfold zR;simp
structure EnvR (w W:World) (sb:Nat) (St:World→Prop) (gv:List Ch) (bs:List (Nat× Ch)) (ts:List Ch) (t:TypeId) (p:Option Addr) (cap:Nat) (l:List Ch):Prop where
 env:Env w W sb St gv bs ts
 own:W.ownsRow w.heap.size t 4 (.slice p l.length cap) l.length (zR l)
 bn:∀g,(Value.slice p l.length cap).ownBlock=some g→(∀q∈ bs,q.1≠g)∧∀c∈ ts,FNe g c.k c.b
 mem:∀c∈ l,c∈ ts
variable {w W W':World} {sb:Nat} {St:World→Prop} {gv:List Ch} {bs:List (Nat× Ch)} {ts:List Ch} {t:TypeId} {p:Option Addr} {cap:Nat} {l:List Ch}
theorem EnvR.init(E:Env w W sb St gv bs ts)(t:TypeId):EnvR w W sb St gv bs ts t none 0 [] :=
 ⟨E,⟨rfl,.inl ⟨rfl,rfl⟩⟩,(fun g h=>by cases h),(fun c h=>by cases h)⟩
theorem EnvR.gl(R:EnvR w W sb St gv bs ts t p cap l){g:Nat}(h:(Value.slice p l.length cap).ownBlock=some g):w.heap.size≤g∧g < W.heap.size:=R.own.lt g h
theorem ob_ne{v:Value}{k:Nat}(h:∀g,v.ownBlock=some g→g≠k):v.ownBlock=none∨v.ownBlock≠some k:=by
 cases hv:v.ownBlock with
 | none=>exact .inl rfl
 | some g=>right;intro e;exact h g hv (inj e)
theorem EnvR.below(R:EnvR w W sb St gv bs ts t p cap l)(hb:Below W.heap.size W W'):EnvR w W' sb St gv bs ts t p cap l :=
 ⟨R.env.below hb,R.own.kept (yT hb none) (by cases hv:(Value.slice p l.length cap).ownBlock<;>simp),R.bn,R.mem⟩
theorem EnvR.grown{St':World→Prop}(R:EnvR w W sb St gv bs ts t p cap l)(hs:St' W')(hc:∀W W':World,St' W→Below (sb+1) W W'→St' W')(hg:W.grownBy W' (some sb)):EnvR w W' sb St' gv bs ts t p cap l :=
 ⟨R.env.grown hs hc hg,R.own.kept hg (ob_ne fun g h=>by have:=(R.gl h).1;have:=R.env.lt;omega),R.bn,R.mem⟩
theorem EnvR.go{St':World→Prop}{given:List Ch}{c:Ch}{o:Option Ch}(R:EnvR w W sb St gv bs ts t p cap l)(h:Fin W sb given St' o c W')(hc:∀W W':World,St' W→Below (sb+1) W W'→St' W')(hgiv:∀d∈ given,d∈ ts) :
 ∃ts',EnvR w W' sb St' gv bs ts' t p cap l∧(∀x,o=some x→nr c=x∧c∈ ts')∧∀d∈ ts,d∈ ts':=by
 have G:=R.grown h.2.1 hc h.2.2;cases o with
 | none=>exact⟨ts,G,(fun x hx=>by cases hx),fun d hd=>hd⟩
 | some x =>
   obtain⟨h1,h2⟩:=R.env.call h hc hgiv;obtain⟨-,-,-,h4⟩:=h.1 x rfl;refine⟨c :: ts,⟨h2,G.own,fun g hg=>⟨(R.bn g hg).1,fun d hd=>?_⟩,fun d hd=>List.mem_cons_of_mem _ (R.mem d hd)⟩,(fun y hy=>by cases hy;exact⟨h1,by simp⟩),fun d hd=>by simp[hd]⟩;rcases List.mem_cons.1 hd with e|hd
   ·rw[e];exact h4 g (R.gl hg).2 fun q hq=>(R.bn g hg).2 q (hgiv q hq)
   ·exact(R.bn g hg).2 d hd
theorem EnvR.box(R:EnvR w W sb St gv bs ts t p cap l)(c:Ch)(cells:Array Value)(h:cells=(jI c).toArray)(ty:TypeId):EnvR w (W.alloc (.cells cells ty)) sb St gv ((W.heap.size,c) :: bs) ts t p cap l:=by
 have B:=R.below ((Below.refl W.heap.size W).alloc (Nat.le_refl _) (.cells cells ty));refine⟨R.env.box c cells h ty,B.own,fun g hg=>⟨fun q hq=>?_,(R.bn g hg).2⟩,R.mem⟩;rcases List.mem_cons.1 hq with rfl|hq
 ·have:=(R.gl hg).2;show W.heap.size≠g;omega
 ·exact(R.bn g hg).1 q hq
theorem EnvR.tail{q:Nat× Ch}(R:EnvR w W sb St gv (q :: bs) ts t p cap l):EnvR w W sb St gv bs ts t p cap l :=
 ⟨R.env.tail,R.own,fun g hg=>⟨fun q hq=>(R.bn g hg).1 q (by simp[hq]),(R.bn g hg).2⟩,R.mem⟩
theorem EnvR.app{k:Nat}{op:Int}{a:Ch}{v:Value}(R:EnvR w W sb St gv ((k,xN op p cap l) :: bs) ts t p cap l)(ha:a∈ ts)(h1:W'.ownsRow w.heap.size t 4 v (l.length+1) (zR l++jI a))(h2:W.grownBy W' (Value.slice p l.length cap).ownBlock)(h3:v.ownBlock=(Value.slice p l.length cap).ownBlock∨v.ownBlock=some W.heap.size) :
 ∃p' cap',v=.slice p' (l.length+1) cap'∧B4 W' k (xN op p cap l)∧EnvR w (W'.setCell ⟨k,3,none⟩ (.slice p' (l.length+1) cap')) sb St gv ((k,xN op p' cap' (l++[a])) :: bs) ts t p' cap' (l++[a]):=by
 have hbox:=R.env.bx (k,xN op p cap l) (by simp)
 have hsl:∃p' cap',v=.slice p' (l.length+1) cap':=by
  rcases h1.2 with ⟨-,h0⟩|⟨g,c,cur,hv,-⟩
  ·omega
  ·exact⟨_,_,hv⟩
 obtain⟨p',cap',rfl⟩:=hsl;have qN:=R.env.ht;have hbs:∀q∈ (k,xN op p cap l) :: bs,B4 W' q.1 q.2:=fun q hq=>(R.env.bx q hq).1.grown h2 (fun e=>((R.bn q.1 e.symm).1 q hq) rfl)
 have htr:∀c∈ ts,ExAt W' c.b c.o c.a c.k:=fun c hc=>by
  cases hv:(Value.slice p l.length cap).ownBlock with
  | none=>rw[hv] at h2;exact(R.env.tr c hc).1.next ⟨h2.os,h2.tape,h2.output,h2.size,fun i hi=>h2.block i hi (by simp)⟩
  | some g=>rw[hv] at h2;exact⟨(R.env.tr c hc).1.1,fat_grown (R.env.tr c hc).1.2 ((R.bn g hv).2 c hc) h2⟩
 have hws:w.heap.size≤W.heap.size:=R.env.gr.size;have hbel:∀B,B≤w.heap.size→Below B W W':=fun B hB=>⟨h2.os,h2.tape,h2.output,h2.size,fun i hi=>h2.block i (by omega) (fun e=>by have:=(R.gl e.symm).1;omega)⟩;have g3:W'.grownBy (W'.setCell ⟨k,3,none⟩ (.slice p' (l.length+1) cap')) (some k):=yR (p:=⟨k,3,none⟩) (jm _ _) _;have hkw:w.heap.size≤k:=hbox.2;have hk':=(hbs (k,xN op p cap l) (by simp)).lt;dsimp only at hk'
 have hnew:∀g,(Value.slice p' (l.length+1) cap').ownBlock=some g→(∀q∈ (k,xN op p cap l) :: bs,q.1≠g)∧∀c∈ ts,FNe g c.k c.b:=fun g hg=>by
  rcases h3 with e|e
  ·rw[e] at hg;exact R.bn g hg
  ·rw [e] at hg;obtain rfl:=inj hg;exact⟨fun q hq=>Nat.ne_of_lt (R.env.bx q hq).1.lt,fun c hc=>FNe.ofLt (R.env.tr c hc).1.2.lt⟩
 refine⟨p',cap',rfl,hbs (k,xN op p cap l) (by simp),⟨?_,?_,?_,?_⟩⟩
 ·refine ⟨R.env.cl _ _ (R.env.cl _ _ R.env.st (hbel (sb+1) (by have:=R.env.lt;omega))) (below_of_gb g3 (by have:=R.env.lt;omega) hk'),R.env.cl,R.env.lt,gb_next (gb_next R.env.gr (hbel _ (Nat.le_refl _))) (below_of_gb g3 hkw hk'),fun q hq=>?_,?_,fun c hc=>?_⟩
  ·rcases List.mem_cons.1 hq with rfl|hq
   ·obtain ⟨c0,c1,c2,c3,f0,f1,f2,f3,lt⟩:=hbs (k,xN op p cap l) (by simp);dsimp only[xN] at c0 c1 c2 c3 f0 f1 f2 f3 lt;refine⟨⟨?_,?_,?_,?_,?_,?_,?_,?_,?_⟩,hkw⟩<;>dsimp only[xN]<;>simp[go_sem,c0,c1,c2,c3,f0,f1,f2,f3,lt,qC]
   ·have hn:=(List.pairwise_cons.1 R.env.nd).1 q hq;exact⟨(hbs q (by simp[hq])).grown g3 (fun e=>hn (inj e).symm),(R.env.bx q (by simp[hq])).2⟩
  ·exact List.pairwise_cons.2 ⟨fun q hq=>(List.pairwise_cons.1 R.env.nd).1 q hq,(List.pairwise_cons.1 R.env.nd).2⟩
  ·have ht:=R.env.tr c hc;refine⟨⟨ht.1.1,fat_grown (htr c hc).2 (ht.2.2.1 (k,xN op p cap l) (by simp)) g3⟩,ht.2.1,(fun q hq=>?_),ht.2.2.2⟩;rcases List.mem_cons.1 hq with rfl|hq
   ·exact ht.2.2.1 (k,xN op p cap l) (by simp)
   ·exact ht.2.2.1 q (by simp[hq])
 ·have h4:=h1.kept g3 (ob_ne fun g hg=>fun e=>(hnew g hg).1 (k,xN op p cap l) (by simp) e.symm);rw[List.length_append,rowC_snoc];exact h4
 ·intro g hg;rw[List.length_append] at hg;refine⟨fun q hq=>?_,(hnew g hg).2⟩;rcases List.mem_cons.1 hq with rfl|hq
  ·exact(hnew g hg).1 (k,xN op p cap l) (by simp)
  ·exact(hnew g hg).1 q (by simp[hq])
 ·intro c hc;rcases List.mem_append.1 hc with hc|hc
  ·exact R.mem c hc
  ·simp only[List.mem_cons,List.not_mem_nil,or_false] at hc;rw[hc];exact ha
theorem EnvR.node(R:EnvR w W sb St gv bs ts t p cap l)(op:Int)(hl:l≠[]):Env w W sb St gv bs (xN op p cap l :: ts):=by
 have hsl:∃g,p=some ⟨g,0,none⟩:=by
  rcases R.own.2 with ⟨-,h0⟩|⟨g,c,cur,hv,-⟩
  ·exact absurd (List.eq_nil_of_length_eq_zero h0) hl
  ·injection hv with e;exact⟨g,e⟩
 obtain⟨g,rfl⟩:=hsl;have hob:(Value.slice (some ⟨g,0,none⟩) l.length cap).ownBlock=some g:=rfl;have hgl:=R.gl hob;have qN:=R.env.lt
 have hr:=(uV (w:=W) (B0:=0) (g:=g) (O:=0) l (fun c hx=>⟨(R.env.tr c (R.mem c hx)).1,foge _ _⟩) (fun j u hu=>by
  have h9:=R.own.cells hob j u hu;rw[Nat.zero_add];have e:(⟨g,0,none⟩:Addr).add j=⟨g,j,none⟩:=by by_cases hj:j=0<;>simp[Addr.add,hj]
  rw[e] at h9;exact h9) (Nat.zero_le _)).1
 refine R.env.add _ ⟨fun _=>rfl,hr⟩ (fne_row (fun c hx=>(R.env.tr c (R.mem c hx)).2.1) (by show g≠sb;omega)) (fun q hq=>fne_row (fun c hx=>(R.env.tr c (R.mem c hx)).2.2.1 q hq) (fun e=>(R.bn g hob).1 q hq e.symm)) fun r hr q=>fne_row (fun c hx=>(R.env.tr c (R.mem c hx)).2.2.2 r hr q) (by show g≠r;omega)
theorem nr_xN(op:Int)(p:Option Addr)(cap:Nat)(l:List Ch):nr (xN op p cap l)=tn op (l.map nr):=by
 show(⟨0,0,⟨op,0,⟨#[]⟩,none,0⟩,nrm (qH l)⟩:Ch)=_
 rw[nrm_rowF];rfl
end Pz
namespace Pz
def xO(op:Int)(p:Option Addr)(cap n:Nat):Ch:=xN op p cap (List.replicate n z0)
theorem xO_len(op:Int)(p:Option Addr)(cap n:Nat):len (xO op p cap n).k=n:=by
 show len (qH (List.replicate n z0))=n
 rw[qC,List.length_replicate]
structure EnvO (w W:World) (sb:Nat) (St:World→Prop) (gv:List Ch) (bs:List (Nat× Ch)) (ts:List Ch) (t:TypeId) (p:Option Addr) (cap n:Nat) (xs:List Value):Prop where
 env:Env w W sb St gv bs ts
 own:W.ownsRow w.heap.size t 4 (.slice p n cap) n xs
 bn:∀g,(Value.slice p n cap).ownBlock=some g→(∀q∈ bs,q.1≠g)∧∀c∈ ts,FNe g c.k c.b
variable {w W W':World} {sb:Nat} {St:World→Prop} {gv:List Ch} {bs:List (Nat× Ch)} {ts:List Ch} {t:TypeId} {p:Option Addr} {cap n:Nat} {xs:List Value}
theorem EnvO.init(E:Env w W sb St gv bs ts)(t:TypeId):EnvO w W sb St gv bs ts t none 0 0 [] :=
 ⟨E,⟨rfl,.inl ⟨rfl,rfl⟩⟩,(fun g h=>by cases h)⟩
theorem EnvO.gl(R:EnvO w W sb St gv bs ts t p cap n xs){g:Nat}(h:(Value.slice p n cap).ownBlock=some g):w.heap.size≤g∧g < W.heap.size:=R.own.lt g h
theorem EnvO.below(R:EnvO w W sb St gv bs ts t p cap n xs)(hb:Below W.heap.size W W'):EnvO w W' sb St gv bs ts t p cap n xs :=
 ⟨R.env.below hb,R.own.kept (yT hb none) (by cases hv:(Value.slice p n cap).ownBlock<;>simp),R.bn⟩
theorem EnvO.grown{St':World→Prop}(R:EnvO w W sb St gv bs ts t p cap n xs)(hs:St' W')(hc:∀W W':World,St' W→Below (sb+1) W W'→St' W')(hg:W.grownBy W' (some sb)):EnvO w W' sb St' gv bs ts t p cap n xs :=
 ⟨R.env.grown hs hc hg,R.own.kept hg (ob_ne fun g h=>by have:=(R.gl h).1;have:=R.env.lt;omega),R.bn⟩
theorem EnvO.go{St':World→Prop}{given:List Ch}{c:Ch}{o:Option Ch}(R:EnvO w W sb St gv bs ts t p cap n xs)(h:Fin W sb given St' o c W')(hc:∀W W':World,St' W→Below (sb+1) W W'→St' W')(hgiv:∀d∈ given,d∈ ts) :
 ∃ts',EnvO w W' sb St' gv bs ts' t p cap n xs∧(∀x,o=some x→nr c=x∧c∈ ts')∧∀d∈ ts,d∈ ts':=by
 have G:=R.grown h.2.1 hc h.2.2;cases o with
 | none=>exact⟨ts,G,(fun x hx=>by cases hx),fun d hd=>hd⟩
 | some x =>
   obtain⟨h1,h2⟩:=R.env.call h hc hgiv;obtain⟨-,-,-,h4⟩:=h.1 x rfl;refine⟨c :: ts,⟨h2,G.own,fun g hg=>⟨(R.bn g hg).1,fun d hd=>?_⟩⟩,(fun y hy=>by cases hy;exact⟨h1,by simp⟩),fun d hd=>by simp[hd]⟩;rcases List.mem_cons.1 hd with e|hd
   ·rw[e];exact h4 g (R.gl hg).2 fun q hq=>(R.bn g hg).2 q (hgiv q hq)
   ·exact(R.bn g hg).2 d hd
theorem EnvO.box(R:EnvO w W sb St gv bs ts t p cap n xs)(c:Ch)(cells:Array Value)(h:cells=(jI c).toArray)(ty:TypeId):EnvO w (W.alloc (.cells cells ty)) sb St gv ((W.heap.size,c) :: bs) ts t p cap n xs:=by
 have B:=R.below ((Below.refl W.heap.size W).alloc (Nat.le_refl _) (.cells cells ty));refine⟨R.env.box c cells h ty,B.own,fun g hg=>⟨fun q hq=>?_,(R.bn g hg).2⟩⟩;rcases List.mem_cons.1 hq with rfl|hq
 ·have:=(R.gl hg).2;show W.heap.size≠g;omega
 ·exact(R.bn g hg).1 q hq
theorem EnvO.tail{q:Nat× Ch}(R:EnvO w W sb St gv (q :: bs) ts t p cap n xs):EnvO w W sb St gv bs ts t p cap n xs :=
 ⟨R.env.tail,R.own,fun g hg=>⟨fun q hq=>(R.bn g hg).1 q (by simp[hq]),(R.bn g hg).2⟩⟩
theorem EnvO.app{k:Nat}{op:Int}{news:List Value}{v:Value}(R:EnvO w W sb St gv ((k,xO op p cap n) :: bs) ts t p cap n xs)(h1:W'.ownsRow w.heap.size t 4 v (n+1) (xs++news))(h2:W.grownBy W' (Value.slice p n cap).ownBlock)(h3:v.ownBlock=(Value.slice p n cap).ownBlock∨v.ownBlock=some W.heap.size) :
 ∃p' cap',v=.slice p' (n+1) cap'∧B4 W' k (xO op p cap n)∧EnvO w (W'.setCell ⟨k,3,none⟩ (.slice p' (n+1) cap')) sb St gv ((k,xO op p' cap' (n+1)) :: bs) ts t p' cap' (n+1) (xs++news):=by
 have hbox:=R.env.bx (k,xO op p cap n) (by simp)
 have hsl:∃p' cap',v=.slice p' (n+1) cap':=by
  rcases h1.2 with ⟨-,h0⟩|⟨g,c,cur,hv,-⟩
  ·omega
  ·exact⟨_,_,hv⟩
 obtain⟨p',cap',rfl⟩:=hsl;have qN:=R.env.ht;have hbs:∀q∈ (k,xO op p cap n) :: bs,B4 W' q.1 q.2:=fun q hq=>(R.env.bx q hq).1.grown h2 (fun e=>((R.bn q.1 e.symm).1 q hq) rfl)
 have htr:∀c∈ ts,ExAt W' c.b c.o c.a c.k:=fun c hc=>by
  cases hv:(Value.slice p n cap).ownBlock with
  | none=>rw[hv] at h2;exact(R.env.tr c hc).1.next ⟨h2.os,h2.tape,h2.output,h2.size,fun i hi=>h2.block i hi (by simp)⟩
  | some g=>rw[hv] at h2;exact⟨(R.env.tr c hc).1.1,fat_grown (R.env.tr c hc).1.2 ((R.bn g hv).2 c hc) h2⟩
 have hws:w.heap.size≤W.heap.size:=R.env.gr.size;have hbel:∀B,B≤w.heap.size→Below B W W':=fun B hB=>⟨h2.os,h2.tape,h2.output,h2.size,fun i hi=>h2.block i (by omega) (fun e=>by have:=(R.gl e.symm).1;omega)⟩;have g3:W'.grownBy (W'.setCell ⟨k,3,none⟩ (.slice p' (n+1) cap')) (some k):=yR (p:=⟨k,3,none⟩) (jm _ _) _;have hkw:w.heap.size≤k:=hbox.2;have hk':=(hbs (k,xO op p cap n) (by simp)).lt;dsimp only at hk'
 have hnew:∀g,(Value.slice p' (n+1) cap').ownBlock=some g→(∀q∈ (k,xO op p cap n) :: bs,q.1≠g)∧∀c∈ ts,FNe g c.k c.b:=fun g hg=>by
  rcases h3 with e|e
  ·rw[e] at hg;exact R.bn g hg
  ·rw [e] at hg;obtain rfl:=inj hg;exact⟨fun q hq=>Nat.ne_of_lt (R.env.bx q hq).1.lt,fun c hc=>FNe.ofLt (R.env.tr c hc).1.2.lt⟩
 refine⟨p',cap',rfl,hbs (k,xO op p cap n) (by simp),⟨?_,?_,?_⟩⟩
 ·refine ⟨R.env.cl _ _ (R.env.cl _ _ R.env.st (hbel (sb+1) (by have:=R.env.lt;omega))) (below_of_gb g3 (by have:=R.env.lt;omega) hk'),R.env.cl,R.env.lt,gb_next (gb_next R.env.gr (hbel _ (Nat.le_refl _))) (below_of_gb g3 hkw hk'),fun q hq=>?_,?_,fun c hc=>?_⟩
  ·rcases List.mem_cons.1 hq with rfl|hq
   ·obtain ⟨c0,c1,c2,c3,f0,f1,f2,f3,lt⟩:=hbs (k,xO op p cap n) (by simp);dsimp only[xO,xN] at c0 c1 c2 c3 f0 f1 f2 f3 lt;refine⟨⟨?_,?_,?_,?_,?_,?_,?_,?_,?_⟩,hkw⟩<;>dsimp only[xO,xN]<;>simp[go_sem,c0,c1,c2,c3,f0,f1,f2,f3,lt,qC]
   ·have hn:=(List.pairwise_cons.1 R.env.nd).1 q hq;exact⟨(hbs q (by simp[hq])).grown g3 (fun e=>hn (inj e).symm),(R.env.bx q (by simp[hq])).2⟩
  ·exact List.pairwise_cons.2 ⟨fun q hq=>(List.pairwise_cons.1 R.env.nd).1 q hq,(List.pairwise_cons.1 R.env.nd).2⟩
  ·have ht:=R.env.tr c hc;refine⟨⟨ht.1.1,fat_grown (htr c hc).2 (ht.2.2.1 (k,xO op p cap n) (by simp)) g3⟩,ht.2.1,(fun q hq=>?_),ht.2.2.2⟩;rcases List.mem_cons.1 hq with rfl|hq
   ·exact ht.2.2.1 (k,xO op p cap n) (by simp)
   ·exact ht.2.2.1 q (by simp[hq])
 ·have h4:=h1.kept g3 (ob_ne fun g hg=>fun e=>(hnew g hg).1 (k,xO op p cap n) (by simp) e.symm);exact h4
 ·intro g hg;refine⟨fun q hq=>?_,(hnew g hg).2⟩;rcases List.mem_cons.1 hq with rfl|hq
  ·exact(hnew g hg).1 (k,xO op p cap n) (by simp)
  ·exact(hnew g hg).1 q (by simp[hq])
theorem EnvO.node(R:EnvO w W sb St gv bs ts t p cap n xs)(op:Int)(l:List Ch)(hl:l≠[])(hn:n=l.length)(hx:xs=zR l)(hm:∀c∈ l,c∈ ts):Env w W sb St gv bs (xN op p cap l :: ts):=by
 subst hn hx
 have hsl:∃g,p=some ⟨g,0,none⟩:=by
  rcases R.own.2 with ⟨-,h0⟩|⟨g,c,cur,hv,-⟩
  ·exact absurd (List.eq_nil_of_length_eq_zero h0) hl
  ·injection hv with e;exact⟨g,e⟩
 obtain⟨g,rfl⟩:=hsl;have hob:(Value.slice (some ⟨g,0,none⟩) l.length cap).ownBlock=some g:=rfl;have hgl:=R.gl hob;have qN:=R.env.lt
 have hr:=(uV (w:=W) (B0:=0) (g:=g) (O:=0) l (fun c hx=>⟨(R.env.tr c (hm c hx)).1,foge _ _⟩) (fun j u hu=>by
  have h9:=R.own.cells hob j u hu;rw[Nat.zero_add];have e:(⟨g,0,none⟩:Addr).add j=⟨g,j,none⟩:=by by_cases hj:j=0<;>simp[Addr.add,hj]
  rw[e] at h9;exact h9) (Nat.zero_le _)).1
 refine R.env.add _ ⟨fun _=>rfl,hr⟩ (fne_row (fun c hx=>(R.env.tr c (hm c hx)).2.1) (by show g≠sb;omega)) (fun q hq=>fne_row (fun c hx=>(R.env.tr c (hm c hx)).2.2.1 q hq) (fun e=>(R.bn g hob).1 q hq e.symm)) fun r hr q=>fne_row (fun c hx=>(R.env.tr c (hm c hx)).2.2.2 r hr q) (by show g≠r;omega)
end Pz
def RX(L:List Tk.T4)(op:Int)(i:Nat):Prop:=∀(sb:Nat)(p:Option Addr)(cap:Nat)(w:World),jZ sb L p cap i w→
 Calls Tryz.prog 212 #[.pointer (some ⟨sb,0,none⟩)] w (Uy w sb [] L p cap (Pz.pv L (.li op) (i+1)))
theorem Yb{L:List Tk.T4}{i:Nat}{s t:ByteArray}(h:Pz.isw L i s=true)(k:Pz.isw L i t=true):s.data.toList=t.data.toList:=by
 unfold Pz.isw at h k
 split at h
 ·rename_i x hx
  rw[hx] at k;dsimp only at k;rw[Bool.and_eq_true,decide_eq_true_eq] at h k;rw[← h.2,← k.2]
 ·cases h
end Go.Proofs.YtcejjdmnlejbaaaGreatDoor
