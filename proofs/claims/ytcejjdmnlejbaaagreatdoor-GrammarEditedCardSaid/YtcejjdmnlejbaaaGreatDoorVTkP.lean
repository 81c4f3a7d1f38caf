import Derived.Laws.ResultCell
import Derived.Test.YtcejjdmnlejbaaaGreatDoorVPz
namespace Go.Proofs.YtcejjdmnlejbaaaGreatDoor
open Lib(hid)
set_option linter.unusedVariables false
set_option linter.unusedSimpArgs false
open Go.ChangeShapes Go.WideShapes Go.ChangeAt Go.RowKit
open Go.Deep (BT)
set_option maxHeartbeats 2000000
namespace Pz
def FNe(s:Nat):Fo→Nat→Prop
 | .nil,_=>True
 | .node b _ _ k r,B=>B≠s∧FNe s k b∧FNe s r B
theorem FNe.ofLt{s:Nat}{T:Fo}{B:Nat}(h:FoLt s T B):FNe s T B:=by
 induction T generalizing B with
 | nil=>trivial
 | node b o a k r ihk ihr=>exact⟨Nat.ne_of_lt h.1,ihk h.2.1,ihr h.2.2⟩
theorem fat_grown{w w':World}{s:Nat}{T:Fo}{B O:Nat}(h:FoAt w T B O)(hn:FNe s T B)(hg:w.grownBy w' (some s)):FoAt w' T B O:=by
 induction T generalizing B O with
 | nil=>trivial
 | node b o a k r ihk ihr =>
   obtain⟨⟨h0,h1,h2,h3⟩,hp,hk,hr⟩:=h;obtain⟨n0,nk,nr⟩:=hn;have hne:some B≠some s:=fun e=>n0 (Option.some.inj e);exact⟨⟨hg.cell h0 hne,hg.cell h1 hne,hg.cell h2 hne,hg.cell h3 hne⟩,hp,ihk hk nk,ihr hr nr⟩
theorem fne_row{s g:Nat}{l:List Ch}(h:∀c∈ l,FNe s c.k c.b)(hg:g≠s):FNe s (qH l) g:=by
 induction l with
 | nil=>trivial
 | cons c l ih=>exact⟨hg,h c (by simp),ih fun d hd=>h d (by simp[hd])⟩
theorem gb_next{a b c:World}{row:Option Nat}(h:a.grownBy b row)(k:Below a.heap.size b c):a.grownBy c row:=⟨k.os.trans h.os,k.tape.trans h.tape,k.output.trans h.output,Nat.le_trans h.size k.size,fun i hi hr=>(k.block i hi).trans (h.block i hi hr)⟩
def z0:Ch:=⟨0,0,⟨0,0,⟨#[]⟩,none,0⟩,.nil⟩
structure B4 (w:World) (b:Nat) (c:Ch):Prop where
 c0:w.cell? ⟨b,0,none⟩=some (.int .i64 c.a.op)
 c1:w.cell? ⟨b,1,none⟩=some (.int .i64 c.a.num)
 c2:w.cell? ⟨b,2,none⟩=some (.string c.a.name)
 c3:w.cell? ⟨b,3,none⟩=some (.slice c.a.ptr (len c.k) c.a.cap)
 f0:w.frozen? ⟨b,0,none⟩=false
 f1:w.frozen? ⟨b,1,none⟩=false
 f2:w.frozen? ⟨b,2,none⟩=false
 f3:w.frozen? ⟨b,3,none⟩=false
 lt:b < w.heap.size
theorem B4.grown{w w':World}{b:Nat}{c:Ch}{row:Option Nat}(h:B4 w b c)(hg:w.grownBy w' row)(hne:some b≠row):B4 w' b c where
 c0:=by rw[World.cell?_of_block (hg.block b h.lt hne)];exact h.c0
 c1:=by rw[World.cell?_of_block (hg.block b h.lt hne)];exact h.c1
 c2:=by rw[World.cell?_of_block (hg.block b h.lt hne)];exact h.c2
 c3:=by rw[World.cell?_of_block (hg.block b h.lt hne)];exact h.c3
 f0:=by rw[World.frozen?_of_block (hg.block b h.lt hne)];exact h.f0
 f1:=by rw[World.frozen?_of_block (hg.block b h.lt hne)];exact h.f1
 f2:=by rw[World.frozen?_of_block (hg.block b h.lt hne)];exact h.f2
 f3:=by rw[World.frozen?_of_block (hg.block b h.lt hne)];exact h.f3
 lt:=Nat.lt_of_lt_of_le h.lt hg.size
theorem B4.next{w w':World}{b:Nat}{c:Ch}(h:B4 w b c)(hb:Below w.heap.size w w'):B4 w' b c:=h.grown (yT hb none) (by simp)
structure Fr4 (w:World) (b:Nat):Prop where
 c0:∃u,w.cell? ⟨b,0,none⟩=some u
 c1:∃u,w.cell? ⟨b,1,none⟩=some u
 c2:∃u,w.cell? ⟨b,2,none⟩=some u
 c3:∃u,w.cell? ⟨b,3,none⟩=some u
 f0:w.frozen? ⟨b,0,none⟩=false
 f1:w.frozen? ⟨b,1,none⟩=false
 f2:w.frozen? ⟨b,2,none⟩=false
 f3:w.frozen? ⟨b,3,none⟩=false
 lt:b < w.heap.size
theorem B4.fr{w:World}{b:Nat}{c:Ch}(h:B4 w b c):Fr4 w b:=⟨⟨_,h.c0⟩,⟨_,h.c1⟩,⟨_,h.c2⟩,⟨_,h.c3⟩,h.f0,h.f1,h.f2,h.f3,h.lt⟩
theorem b4_alloc(w:World)(c:Ch)(cells:Array Value)(h:cells=(jI c).toArray)(t:TypeId):B4 (w.alloc (.cells cells t)) w.heap.size c:=by
 subst h;refine⟨?_,?_,?_,?_,?_,?_,?_,?_,?_⟩<;>simp[jI,go_sem]
theorem b4_four{w:World}{b:Nat}(h:Fr4 w b)(c:Ch):B4 ((((w.setCell ⟨b,0,none⟩ (.int .i64 c.a.op)).setCell ⟨b,1,none⟩ (.int .i64 c.a.num)).setCell ⟨b,2,none⟩ (.string c.a.name)).setCell ⟨b,3,none⟩ (.slice c.a.ptr (len c.k) c.a.cap)) b c:=by
 obtain⟨⟨u0,c0⟩,⟨u1,c1⟩,⟨u2,c2⟩,⟨u3,c3⟩,f0,f1,f2,f3,lt⟩:=h;refine⟨?_,?_,?_,?_,?_,?_,?_,?_,?_⟩<;>simp[go_sem,c0,c1,c2,c3,f0,f1,f2,f3,lt]
theorem gb_four(w:World)(b:Nat)(x0 x1 x2 x3:Value):w.grownBy ((((w.setCell ⟨b,0,none⟩ x0).setCell ⟨b,1,none⟩ x1).setCell ⟨b,2,none⟩ x2).setCell ⟨b,3,none⟩ x3) (some b) :=
 yR (p:=⟨b,3,none⟩) (yR (p:=⟨b,2,none⟩) (yR (p:=⟨b,1,none⟩) (yR (p:=⟨b,0,none⟩) (jm _ _) _) _) _) _
theorem below_of_gb{w w':World}{b B:Nat}(h:w.grownBy w' (some b))(hb:B≤b)(hs:b < w.heap.size):Below B w w':=⟨h.os,h.tape,h.output,h.size,fun k hk=>h.block k (by omega) (by simp;omega)⟩
structure Env (w W:World) (sb:Nat) (St:World→Prop) (gv:List Ch) (bs:List (Nat× Ch)) (ts:List Ch):Prop where
 st:St W
 cl:∀W W':World,St W→Below (sb+1) W W'→St W'
 lt:sb < w.heap.size
 gr:w.grownBy W (some sb)
 bx:∀q∈ bs,B4 W q.1 q.2∧w.heap.size≤q.1
 nd:bs.Pairwise fun a b=>a.1≠b.1
 tr:∀c∈ ts,ExAt W c.b c.o c.a c.k∧FNe sb c.k c.b∧(∀q∈ bs,FNe q.1 c.k c.b)∧∀r,r < w.heap.size→(∀d∈ gv,FNe r d.k d.b)→FNe r c.k c.b
variable {w W W':World} {sb:Nat} {St:World→Prop} {gv:List Ch} {bs:List (Nat× Ch)} {ts:List Ch}
theorem Env.init{St:World→Prop}(h:St w)(hc:∀W W':World,St W→Below (sb+1) W W'→St W')(hl:sb < w.heap.size)(hg:∀c∈ gv,ExAt w c.b c.o c.a c.k∧FNe sb c.k c.b):Env w w sb St gv [] gv :=
 ⟨h,hc,hl,jm _ _,(fun _ h=>by cases h),.nil,fun c h=>⟨(hg c h).1,(hg c h).2,(fun _ h=>by cases h),fun r _ q=>q c h⟩⟩
theorem Env.ht(E:Env w W sb St gv bs ts):sb < W.heap.size:=Nat.lt_of_lt_of_le E.lt E.gr.size
theorem Env.below(E:Env w W sb St gv bs ts)(hb:Below W.heap.size W W'):Env w W' sb St gv bs ts where
 st:=E.cl _ _ E.st (hb.mono E.ht)
 cl:=E.cl
 lt:=E.lt
 gr:=gb_next E.gr (hb.mono E.gr.size)
 bx:=fun q hq=>⟨(E.bx q hq).1.next hb,(E.bx q hq).2⟩
 nd:=E.nd
 tr:=fun c hc=>⟨(E.tr c hc).1.next hb,(E.tr c hc).2⟩
theorem Env.grown{St':World→Prop}(E:Env w W sb St gv bs ts)(hs:St' W')(hc:∀W W':World,St' W→Below (sb+1) W W'→St' W')(hg:W.grownBy W' (some sb)):Env w W' sb St' gv bs ts where
 st:=hs
 cl:=hc
 lt:=E.lt
 gr:=zO E.gr hg
 bx:=fun q hq=>⟨(E.bx q hq).1.grown hg (by have:=(E.bx q hq).2;have:=E.lt;simp;omega),(E.bx q hq).2⟩
 nd:=E.nd
 tr:=fun c hc=>⟨⟨(E.tr c hc).1.1,fat_grown (E.tr c hc).1.2 (E.tr c hc).2.1 hg⟩,(E.tr c hc).2⟩
theorem Env.add(E:Env w W sb St gv bs ts)(c:Ch)(hx:ExAt W c.b c.o c.a c.k)(h1:FNe sb c.k c.b)(h2:∀q∈ bs,FNe q.1 c.k c.b)(h3:∀r,r < w.heap.size→(∀d∈ gv,FNe r d.k d.b)→FNe r c.k c.b):Env w W sb St gv bs (c :: ts) :=
 ⟨E.st,E.cl,E.lt,E.gr,E.bx,E.nd,fun d hd=>by rcases List.mem_cons.1 hd with rfl|hd;exact⟨hx,h1,h2,h3⟩;exact E.tr d hd⟩
theorem Env.box(E:Env w W sb St gv bs ts)(c:Ch)(cells:Array Value)(h:cells=(jI c).toArray)(t:TypeId):Env w (W.alloc (.cells cells t)) sb St gv ((W.heap.size,c) :: bs) ts:=by
 have B:=E.below ((Below.refl W.heap.size W).alloc (Nat.le_refl _) (.cells cells t));refine⟨B.st,B.cl,B.lt,B.gr,fun q hq=>?_,?_,fun d hd=>⟨(B.tr d hd).1,(B.tr d hd).2.1,(fun q hq=>?_),(B.tr d hd).2.2.2⟩⟩
 ·rcases List.mem_cons.1 hq with rfl|hq
  ·exact⟨b4_alloc W c cells h t,E.gr.size⟩
  ·exact B.bx q hq
 ·refine List.pairwise_cons.2 ⟨fun q hq=>?_,E.nd⟩;have:=(E.bx q hq).1.lt
  show W.heap.size≠q.1
  omega
 ·rcases List.mem_cons.1 hq with rfl|hq
  ·exact FNe.ofLt ((E.tr d hd).1.2.lt)
  ·exact(B.tr d hd).2.2.1 q hq
theorem Env.put{k:Nat}{c0:Ch}(E:Env w W sb St gv ((k,c0) :: bs) ts)(c:Ch) :
 Env w ((((W.setCell ⟨k,0,none⟩ (.int .i64 c.a.op)).setCell ⟨k,1,none⟩ (.int .i64 c.a.num)).setCell ⟨k,2,none⟩ (.string c.a.name)).setCell ⟨k,3,none⟩ (.slice c.a.ptr (len c.k) c.a.cap)) sb St gv ((k,c) :: bs) ts:=by
 have hk:=E.bx (k,c0) (by simp);have hg:=gb_four W k (.int .i64 c.a.op) (.int .i64 c.a.num) (.string c.a.name) (.slice c.a.ptr (len c.k) c.a.cap);have hkw:w.heap.size≤k:=hk.2;have hkl:k < W.heap.size:=hk.1.lt;have qN:=E.lt;refine⟨E.cl _ _ E.st (below_of_gb hg (by omega) hkl),E.cl,E.lt,gb_next E.gr (below_of_gb hg hkw hkl),fun q hq=>?_,?_,fun d hd=>?_⟩
 ·rcases List.mem_cons.1 hq with rfl|hq
  ·exact⟨b4_four hk.1.fr c,hk.2⟩
  ·have hn:=(List.pairwise_cons.1 E.nd).1 q hq;exact⟨(E.bx q (by simp[hq])).1.grown hg (fun e=>hn (Option.some.inj e).symm),(E.bx q (by simp[hq])).2⟩
 ·exact List.pairwise_cons.2 ⟨fun q hq=>(List.pairwise_cons.1 E.nd).1 q hq,(List.pairwise_cons.1 E.nd).2⟩
 ·have ht:=E.tr d hd;refine⟨⟨ht.1.1,fat_grown ht.1.2 (ht.2.2.1 (k,c0) (by simp)) hg⟩,ht.2.1,(fun q hq=>?_),ht.2.2.2⟩;rcases List.mem_cons.1 hq with rfl|hq
  ·exact ht.2.2.1 (k,c0) (by simp)
  ·exact ht.2.2.1 q (by simp[hq])
theorem Env.put4{k:Nat}{c0:Ch}(E:Env w W sb St gv ((k,c0) :: bs) ts)(c:Ch){v0 v1 v2 v3:Value}(h0:v0=.int .i64 c.a.op)(h1:v1=.int .i64 c.a.num)(h2:v2=.string c.a.name)(h3:v3=.slice c.a.ptr (len c.k) c.a.cap) :
 Env w ((((W.setCell ⟨k,0,none⟩ v0).setCell ⟨k,1,none⟩ v1).setCell ⟨k,2,none⟩ v2).setCell ⟨k,3,none⟩ v3) sb St gv ((k,c) :: bs) ts:=by
 subst h0 h1 h2 h3;exact E.put c
theorem Env.tail{q:Nat× Ch}(E:Env w W sb St gv (q :: bs) ts):Env w W sb St gv bs ts :=
 ⟨E.st,E.cl,E.lt,E.gr,fun p hp=>E.bx p (by simp[hp]),(List.pairwise_cons.1 E.nd).2,fun d hd=>⟨(E.tr d hd).1,(E.tr d hd).2.1,(fun p hp=>(E.tr d hd).2.2.1 p (by simp[hp])),(E.tr d hd).2.2.2⟩⟩
theorem foge:∀(T:Fo)(B:Nat),FoGe 0 T B:=by
 intro T
 induction T with
 | nil=>intro B;trivial
 | node b o a k r ihk ihr=>intro B;exact⟨Nat.zero_le _,ihk _,ihr _⟩
theorem Env.row(E:Env w W sb St gv bs ts)(hb:Below W.heap.size W W')(l:List Ch)(h:∀c∈ l,c∈ ts)(op:Int)(g n:Nat)(hg:W.heap.size≤g)(hc:∀j u,(zR l)[j]?=some u→W'.cell? ⟨g,j,none⟩=some u) :
 Env w W' sb St gv bs ((⟨g,0,⟨op,0,⟨#[]⟩,some ⟨g,0,none⟩,n⟩,qH l⟩:Ch) :: ts):=by
 have B:=E.below hb;have hr:=(uV (w:=W') (B0:=0) (g:=g) (O:=0) l (fun c hx=>⟨(B.tr c (h c hx)).1,foge _ _⟩) (fun j u hu=>by rw[Nat.zero_add];exact hc j u hu) (Nat.zero_le _)).1;have qN:=E.ht;have hgr:=E.gr.size;refine B.add _ ⟨fun _=>rfl,hr⟩ (fne_row (fun c hx=>(E.tr c (h c hx)).2.1) (by show g≠sb;omega)) (fun q hq=>fne_row (fun c hx=>(E.tr c (h c hx)).2.2.1 q hq) (by have:=(E.bx q hq).1.lt;show g≠q.1;omega)) fun r hr q=>fne_row (fun c hx=>(E.tr c (h c hx)).2.2.2 r hr q) (by show g≠r;omega)
theorem Env.node(E:Env w W sb St gv bs ts)(l:List Ch)(h:∀c∈ l,c∈ ts)(op:Int)(cells:Array Value)(hc:cells=(zR l).toArray)(t:TypeId)(n:Nat) :
 Env w (W.alloc (.cells cells t)) sb St gv bs ((⟨W.heap.size,0,⟨op,0,⟨#[]⟩,some ⟨W.heap.size,0,none⟩,n⟩,qH l⟩:Ch) :: ts):=by
 subst hc;refine E.row ((Below.refl _ _).alloc (Nat.le_refl _) _) l h op W.heap.size n (Nat.le_refl _) fun j u hu=>?_;rw[World.cell?_alloc_new,List.getElem?_toArray];exact hu
theorem nr_node(g n:Nat)(op:Int)(p:Option Addr)(l:List Ch):nr ⟨g,0,⟨op,0,⟨#[]⟩,p,n⟩,qH l⟩=tn op (l.map nr):=by
 unfold nr tn;rw[nrm_rowF];rfl
def Fin(w:World)(sb:Nat)(given:List Ch)(St:World→Prop)(o:Option Ch)(c:Ch)(w':World):Prop :=
 (∀x,o=some x→nr c=x∧ExAt w' c.b c.o c.a c.k∧FNe sb c.k c.b∧∀r,r < w.heap.size→(∀d∈ given,FNe r d.k d.b)→FNe r c.k c.b)∧St w'∧w.grownBy w' (some sb)
theorem Env.call{St':World→Prop}{c x:Ch}{given:List Ch}(E:Env w W sb St gv bs ts)(h:Fin W sb given St' (some x) c W')(hc:∀W W':World,St' W→Below (sb+1) W W'→St' W')(hgiv:∀d∈ given,d∈ ts):nr c=x∧Env w W' sb St' gv bs (c :: ts):=by
 obtain⟨h1,h2,h3,h4⟩:=h.1 x rfl;exact⟨h1,(E.grown h.2.1 hc h.2.2).add c h2 h3 (fun q hq=>h4 q.1 (E.bx q hq).1.lt fun d hd=>(E.tr d (hgiv d hd)).2.2.1 q hq) fun r hr q=>h4 r (Nat.lt_of_lt_of_le hr E.gr.size) fun d hd=>(E.tr d (hgiv d hd)).2.2.2 r hr q⟩
theorem Env.callno{St':World→Prop}{c:Ch}{o:Option Ch}{given:List Ch}(E:Env w W sb St gv bs ts)(h:Fin W sb given St' o c W')(hc:∀W W':World,St' W→Below (sb+1) W W'→St' W'):Env w W' sb St' gv bs ts:=E.grown h.2.1 hc h.2.2
theorem Env.done{k:Nat}{z:Ch}(E:Env w W sb St gv ((k,z) :: bs) ts)(c:Ch)(o:Option Ch)(ho:∀x,o=some x→nr c=x∧c∈ ts) :
 Fin w sb gv St o c ((((W.setCell ⟨k,0,none⟩ (.int .i64 c.a.op)).setCell ⟨k,1,none⟩ (.int .i64 c.a.num)).setCell ⟨k,2,none⟩ (.string c.a.name)).setCell ⟨k,3,none⟩ (.slice c.a.ptr (len c.k) c.a.cap)) :=
 ⟨fun x hx=>⟨(ho x hx).1,((E.put c).tr c (ho x hx).2).1,((E.put c).tr c (ho x hx).2).2.1,((E.put c).tr c (ho x hx).2).2.2.2⟩,(E.put c).st,(E.put c).gr⟩
theorem Env.done4{k:Nat}{z:Ch}(E:Env w W sb St gv ((k,z) :: bs) ts)(c:Ch)(o:Option Ch)(ho:∀x,o=some x→nr c=x∧c∈ ts){v0 v1 v2 v3:Value}(h0:v0=.int .i64 c.a.op)(h1:v1=.int .i64 c.a.num)(h2:v2=.string c.a.name)(h3:v3=.slice c.a.ptr (len c.k) c.a.cap) :
 Fin w sb gv St o c ((((W.setCell ⟨k,0,none⟩ v0).setCell ⟨k,1,none⟩ v1).setCell ⟨k,2,none⟩ v2).setCell ⟨k,3,none⟩ v3):=by
 subst h0 h1 h2 h3;exact E.done c o ho
theorem Env.fin(E:Env w W sb St gv bs ts)(c:Ch)(o:Option Ch)(ho:∀x,o=some x→nr c=x∧c∈ ts):Fin w sb gv St o c W :=
 ⟨fun x hx=>⟨(ho x hx).1,(E.tr c (ho x hx).2).1,(E.tr c (ho x hx).2).2.1,(E.tr c (ho x hx).2).2.2.2⟩,E.st,E.gr⟩
theorem Env.done_node{k:Nat}{z:Ch}(E:Env w W sb St gv ((k,z) :: bs) ts)(l:List Ch)(op:Int)(n:Nat)(hn:l.length=n)(o:Option Ch)(ho:∀x,o=some x→(∀c∈ l,c∈ ts)∧tn op (l.map nr)=x)(cells:Array Value)(hc:cells=(zR l).toArray)(t:TypeId) :
 Fin w sb gv St o ⟨W.heap.size,0,⟨op,0,⟨#[]⟩,some ⟨W.heap.size,0,none⟩,n⟩,qH l⟩
  (((((W.setCell ⟨k,0,none⟩ (.int .i64 op)).setCell ⟨k,1,none⟩ (.int .i64 0)).setCell ⟨k,2,none⟩ (.string ⟨#[]⟩)).setCell ⟨k,3,none⟩ (.slice (some ⟨W.heap.size,0,none⟩) n n)).alloc (.cells cells t)):=by
 have P:=E.put4 (⟨W.heap.size,0,⟨op,0,⟨#[]⟩,some ⟨W.heap.size,0,none⟩,n⟩,qH l⟩:Ch) (v0:=.int .i64 op) (v1:=.int .i64 0) (v2:=.string ⟨#[]⟩) (v3:=.slice (some ⟨W.heap.size,0,none⟩) n n) rfl rfl rfl (by rw[qC,hn]);have hz:((((W.setCell ⟨k,0,none⟩ (.int .i64 op)).setCell ⟨k,1,none⟩ (.int .i64 0)).setCell ⟨k,2,none⟩ (.string ⟨#[]⟩)).setCell ⟨k,3,none⟩ (.slice (some ⟨W.heap.size,0,none⟩) n n)).heap.size=W.heap.size:=by simp
 generalize ((((W.setCell ⟨k,0,none⟩ (.int .i64 op)).setCell ⟨k,1,none⟩ (.int .i64 0)).setCell ⟨k,2,none⟩ (.string ⟨#[]⟩)).setCell ⟨k,3,none⟩ (.slice (some ⟨W.heap.size,0,none⟩) n n))=V at *;cases o with
 | none=>exact(P.below ((Below.refl _ _).alloc (Nat.le_refl _) _)).fin _ _ fun x hx=>by cases hx
 | some x =>
   obtain⟨h1,h2⟩:=ho x rfl;have Q:=P.node l h1 op cells hc t n;rw[hz] at Q;exact Q.fin _ _ fun y hy=>by cases hy;exact⟨by rw[nr_node,h2],by simp⟩
theorem exat_lf(W:World)(op num:Int)(s:ByteArray):ExAt W (lf op num s).b (lf op num s).o (lf op num s).a (lf op num s).k:=⟨fun h=>absurd rfl h,trivial⟩
theorem Env.leaf(E:Env w W sb St gv bs ts)(op num:Int)(s:ByteArray):Env w W sb St gv bs (lf op num s :: ts):=E.add _ (exat_lf W op num s) trivial (fun _ _=>trivial) fun _ _ _=>trivial
end Pz
namespace Pz
theorem Env.go{w W W':World}{sb:Nat}{St St':World→Prop}{gv given:List Ch}{bs:List (Nat× Ch)}{ts:List Ch}{c:Ch}{o:Option Ch}(E:Env w W sb St gv bs ts)(h:Fin W sb given St' o c W')(hc:∀W W':World,St' W→Below (sb+1) W W'→St' W')(hgiv:∀d∈ given,d∈ ts) :
 ∃ts',Env w W' sb St' gv bs ts'∧(∀x,o=some x→nr c=x∧c∈ ts')∧∀d∈ ts,d∈ ts':=by
 cases o with
 | none=>exact⟨ts,E.callno h hc,(fun x hx=>by cases hx),fun d hd=>hd⟩
 | some x =>
   obtain⟨h1,h2⟩:=E.call h hc hgiv;exact⟨c :: ts,h2,(fun y hy=>by cases hy;exact⟨h1,by simp⟩),fun d hd=>by simp[hd]⟩
def goL(f:Ch→R)(o:Option Ch)(j:Nat):R:=match o with
 | none=>(none,j)
 | some x=>f x
theorem Env.pair{w W W':World}{sb:Nat}{St:World→Prop}{gv:List Ch}{bs:List (Nat× Ch)}{ts:List Ch}(E:Env w W sb St gv bs ts)(hb:Below W.heap.size W W'){c d x:Ch}{o:Option Ch}(hc:nr c=x∧c∈ ts)(hd:∀y,o=some y→nr d=y∧d∈ ts)(op:Int)(g:Nat)(hg:W.heap.size≤g)(hr:∀j u,(zR [c,d])[j]?=some u→W'.cell? ⟨g,j,none⟩=some u) :
 ∃ts',Env w W' sb St gv bs ts'∧(∀y,o=some y→nr (⟨g,0,⟨op,0,⟨#[]⟩,some ⟨g,0,none⟩,2⟩,qH [c,d]⟩:Ch)=tn op [x,y]∧(⟨g,0,⟨op,0,⟨#[]⟩,some ⟨g,0,none⟩,2⟩,qH [c,d]⟩:Ch)∈ ts')∧∀e∈ ts,e∈ ts':=by
 cases o with
 | none=>exact⟨ts,E.below hb,(fun y hy=>by cases hy),fun e he=>he⟩
 | some y =>
   obtain⟨h1,h2⟩:=hd y rfl;refine⟨_,E.row hb [c,d] (fun e he=>?_) op g 2 hg hr,(fun z hz=>?_),fun e he=>List.mem_cons_of_mem _ he⟩
   ·simp only [List.mem_cons,List.not_mem_nil,or_false] at he;rcases he with rfl|rfl
    ·exact hc.2
    ·exact h2
   ·obtain rfl:=Option.some.inj hz;refine⟨?_,by simp⟩;rw[nr_node,List.map_cons,List.map_cons,List.map_nil,hc.1,h1]
theorem goL_none(f:Ch→R)(j:Nat):goL f none j=(none,j):=rfl
theorem goL_some(f:Ch→R)(x:Ch)(j:Nat):goL f (some x) j=f x:=rfl
theorem bnd_goL(o:Option Ch)(j:Nat)(f:Ch→Nat→R):bnd (o,j) f=goL (fun x=>f x j) o j:=by cases o<;>rfl
end Pz
def jL(c:Int):Bool:=decide ((97≤c∧c≤122)∨(48≤c∧c≤57)∨c=95∨c=46∨c=58∨c=64)
theorem jW(c:UInt8):jL (c.toNat:Int)=Tk.inW c:=by
 unfold jL Tk.inW
 congr 1
 apply propext;omega
theorem xX(c:Int)(w:World):Calls Tryz.prog 66 #[.int .u8 c] w fun e w'=>e=.returned (.bool (jL c))∧w=w':=by
 obtain⟨R,hR⟩:∃R,R=jL c:=⟨_,rfl⟩;rw[← hR];have HR:=hid hR;clear hR;go_enter Tryz.func66,Tryz.ntmps66
 by_cases h1:97≤c∧c≤122
 ·obtain ⟨a1,a2⟩:=h1;have RQ:Hid (R=true):=(by unfold Hid;rw[HR.out];unfold jL;rw[decide_eq_true_eq];omega);go_wp2;go_ret;exact⟨qV RQ.out.symm,rfl⟩
 ·by_cases h2:48≤c∧c≤57
  ·obtain ⟨a1,a2⟩:=h2;have n1:¬ 97≤c:=(by omega);have RQ:Hid (R=true):=(by unfold Hid;rw[HR.out];unfold jL;rw[decide_eq_true_eq];omega);clear h1;go_wp2;go_ret;exact⟨qV RQ.out.symm,rfl⟩
  ·have RQ:Hid (R=((c==95) || (c==46) || (c==58) || (c==64))):=by
    unfold Hid;rw[HR.out];unfold jL;rw[Bool.eq_iff_iff];simp only[decide_eq_true_eq,Bool.or_eq_true,beq_iff_eq];omega
   have H1:=hid h1;have H2:=hid h2;clear h1 h2
   by_cases k1:97≤c
   ·have k2:¬c≤122:=fun q=>H1.out ⟨k1,q⟩;have k3:48≤c:=(by omega);have k4:¬c≤57:=(by omega);cases e1:(c==95)<;>cases e2:(c==46)<;>cases e3:(c==58)<;>cases e4:(c==64)<;>(rw[e1,e2,e3,e4] at RQ)<;>(go_wp2;go_ret;exact⟨qV RQ.out.symm,rfl⟩)
   ·by_cases k3:48≤c
    ·have k4:¬c≤57:=fun q=>H2.out ⟨k3,q⟩;cases e1:(c==95)<;>cases e2:(c==46)<;>cases e3:(c==58)<;>cases e4:(c==64)<;>(rw[e1,e2,e3,e4] at RQ)<;>(go_wp2;go_ret;exact⟨qV RQ.out.symm,rfl⟩)
    ·cases e1:(c==95)<;>cases e2:(c==46)<;>cases e3:(c==58)<;>cases e4:(c==64)<;>(rw[e1,e2,e3,e4] at RQ)<;>(go_wp2;go_ret;exact⟨qV RQ.out.symm,rfl⟩)
theorem ji(c:Int)(w:World):Calls Tryz.prog 72 #[.int .u8 c] w fun e w'=>e=.returned (.bool (jL c))∧w=w':=by
 obtain⟨R,hR⟩:∃R,R=jL c:=⟨_,rfl⟩;rw[← hR];have HR:=hid hR;clear hR;go_enter Tryz.func72,Tryz.ntmps72
 by_cases h1:97≤c∧c≤122
 ·obtain ⟨a1,a2⟩:=h1;have RQ:Hid (R=true):=(by unfold Hid;rw[HR.out];unfold jL;rw[decide_eq_true_eq];omega);go_wp2;go_ret;exact⟨qV RQ.out.symm,rfl⟩
 ·by_cases h2:48≤c∧c≤57
  ·obtain ⟨a1,a2⟩:=h2;have n1:¬ 97≤c:=(by omega);have RQ:Hid (R=true):=(by unfold Hid;rw[HR.out];unfold jL;rw[decide_eq_true_eq];omega);clear h1;go_wp2;go_ret;exact⟨qV RQ.out.symm,rfl⟩
  ·have RQ:Hid (R=((c==95) || (c==46) || (c==58) || (c==64))):=by
    unfold Hid;rw[HR.out];unfold jL;rw[Bool.eq_iff_iff];simp only[decide_eq_true_eq,Bool.or_eq_true,beq_iff_eq];omega
   have H1:=hid h1;have H2:=hid h2;clear h1 h2
   by_cases k1:97≤c
   ·have k2:¬c≤122:=fun q=>H1.out ⟨k1,q⟩;have k3:48≤c:=(by omega);have k4:¬c≤57:=(by omega);cases e1:(c==95)<;>cases e2:(c==46)<;>cases e3:(c==58)<;>cases e4:(c==64)<;>(rw[e1,e2,e3,e4] at RQ)<;>(go_wp2;go_ret;exact⟨qV RQ.out.symm,rfl⟩)
   ·by_cases k3:48≤c
    ·have k4:¬c≤57:=fun q=>H2.out ⟨k3,q⟩;cases e1:(c==95)<;>cases e2:(c==46)<;>cases e3:(c==58)<;>cases e4:(c==64)<;>(rw[e1,e2,e3,e4] at RQ)<;>(go_wp2;go_ret;exact⟨qV RQ.out.symm,rfl⟩)
    ·cases e1:(c==95)<;>cases e2:(c==46)<;>cases e3:(c==58)<;>cases e4:(c==64)<;>(rw[e1,e2,e3,e4] at RQ)<;>(go_wp2;go_ret;exact⟨qV RQ.out.symm,rfl⟩)
theorem JB(l:List UInt8)(c:UInt8)(k:Nat)(h:k < l.length)(hn:∀x∈ l.take k,x≠c) :
 (l.getD k 0=c→Lib.indexByte l c=k)∧(l.getD k 0≠c→∀x∈ l.take (k+1),x≠c):=by
 have hd:l.getD k 0=l[k]:=by rw[List.getD_eq_getElem?_getD,List.getElem?_eq_getElem h];rfl
 rw[hd];constructor
 ·intro e;refine(Txt.ix_some l c k).2 ⟨⟨l.drop (k+1),?_⟩,h,hn⟩;rw[← e,← List.drop_eq_getElem_cons h,List.take_append_drop]
 ·intro e x hx;rw[List.take_succ_eq_append_getElem h] at hx;rcases List.mem_append.1 hx with hx|hx
  ·exact hn x hx
  ·rw[List.mem_singleton.1 hx];exact e
theorem xK(s:ByteArray)(c:UInt8)(w:World)(hs:s.size≤9223372036854775807) :
 Calls Tryz.prog 120 #[.string s,.int .u8 c.toNat] w fun e w'=>e=.returned (.int .i64 (Lib.indexByte s.data.toList c))∧w=w':=by
 go_enter Tryz.func120,Tryz.ntmps120;go_wp2_with fail
 go_loop [5] (fun i=>∃k:Nat,k≤s.size∧i=.int .i64 k∧Hid (∀x∈ s.data.toList.take k,x≠c)) (fun i=>s.size - (intOf i).toNat)
 case atStart=>exact⟨0,by omega,rfl,by intro x hx;simp at hx⟩
 case round =>
  obtain⟨k,hk,rfl,HR⟩:=hrel
  by_cases qN:k < s.size
  ·have hst:=JB s.data.toList c k (by rw[qG];exact qN) HR.out;rw[yo s k qN] at hst;have ST:=hid hst;clear hst;have hi:(k:Int) < (s.size:Int):=by omega
   by_cases he:s[k]=c
   ·have hb:((s[k].toNat:Int)==(c.toNat:Int))=true:=by rw[he];simp
    have V:=hid (ST.out.1 he);clear he;go_wp2;go_ret;exact⟨xL V.out.symm,rfl⟩
   ·have hb:((s[k].toNat:Int)==(c.toNat:Int))=false:=by
     have:s[k].toNat≠c.toNat:=fun q=>he (UInt8.toNat_inj.1 q);simp;omega
    have V:=hid (ST.out.2 he);clear he;go_wp2
    go_round
    case rel=>exact⟨k+1,by omega,by go_num,V.out⟩
    case measure=>simp[intOf];omega
  ·have V:Hid (Lib.indexByte s.data.toList c = -1):=by
    have:=HR.out;rw[List.take_of_length_le (by rw[qG];omega)] at this;exact(Txt.ix_none _ _).2 this
   go_wp2;go_ret;exact⟨xL V.out.symm,rfl⟩
theorem JD(c:UInt8):decide (0≤Lib.indexByte [43,45,42,47,40,41,44,60,61] c)=Tk.inS c:=by
 have h1:=Txt.ix_none [43,45,42,47,40,41,44,60,61] c;have h2:=Txt.ix_ge [43,45,42,47,40,41,44,60,61] c;unfold Tk.inS;rw[Bool.eq_iff_iff];simp only[decide_eq_true_eq]
 have h3:0≤Lib.indexByte [43,45,42,47,40,41,44,60,61] c↔¬∀x∈ ([43,45,42,47,40,41,44,60,61]:List UInt8),x≠c:=by
  rw[← h1];omega
 rw[h3];simp only[List.mem_cons,List.not_mem_nil,or_false,forall_eq_or_imp,forall_eq];have e:∀k:UInt8,k≠c↔¬c.toNat=k.toNat:=fun k=>⟨fun h q=>h (UInt8.toNat_inj.1 q.symm),fun h q=>h (by rw[q])⟩;simp only[e];have:(43:UInt8).toNat=43∧(45:UInt8).toNat=45∧(42:UInt8).toNat=42∧(47:UInt8).toNat=47∧(40:UInt8).toNat=40∧(41:UInt8).toNat=41∧(44:UInt8).toNat=44∧(60:UInt8).toNat=60∧(61:UInt8).toNat=61:=by decide
 obtain⟨e1,e2,e3,e4,e5,e6,e7,e8,e9⟩:=this;rw[e1,e2,e3,e4,e5,e6,e7,e8,e9];omega
theorem uR(l:List UInt8):Lib.hasPrefix l [60,61]=decide ((l.getD 0 0).toNat=60∧(l.getD 1 0).toNat=61):=by
 unfold Lib.hasPrefix
 match l with
 | []=>rfl
 | [a]=>simp[List.isPrefixOf]
 | a :: b :: l =>
   simp only[List.isPrefixOf,List.getD_cons_zero,List.getD_cons_succ];rw[Bool.eq_iff_iff];simp only[Bool.and_eq_true,beq_iff_eq,decide_eq_true_eq,and_true];constructor
   ·rintro ⟨h1,h2⟩;rw[← h1,← h2];exact⟨rfl,rfl⟩
   ·rintro ⟨h1,h2⟩;exact⟨(UInt8.toNat_inj.1 h1).symm,(UInt8.toNat_inj.1 h2).symm⟩
namespace Tk
theorem wl_cons(c:UInt8)(l:List UInt8):wl (c :: l)=if inW c=true then wl l+1 else 0:=by
 unfold wl;rw[List.takeWhile_cons]
 split<;>simp
theorem wl_step(l:List UInt8):∀j,j≤wl l→j < l.length→(inW (l.getD j 0)=true→j+1≤wl l)∧(inW (l.getD j 0)=false→wl l=j):=by
 induction l with
 | nil=>intro j _ h;simp at h
 | cons c l ih =>
   intro j hj hl;rw[wl_cons] at hj ⊢;cases j with
   | zero =>
     rw[List.getD_cons_zero];constructor
     ·intro h;rw[if_pos h];omega
     ·intro h;rw[h];rfl
   | succ j =>
     rw[List.getD_cons_succ]
     by_cases hc:inW c=true
     ·rw [if_pos hc] at hj ⊢;obtain⟨q1,q2⟩:=ih j (by omega) (by simpa using hl);exact⟨fun h=>by have:=q1 h;omega,fun h=>by rw[q2 h]⟩
     ·rw[if_neg hc] at hj;omega
theorem take_wl(l:List UInt8):l.take (wl l)=l.takeWhile inW:=by
 induction l with
 | nil=>rfl
 | cons c l ih =>
   rw[wl_cons,List.takeWhile_cons]
   split
   ·rw[List.take_succ_cons,ih]
   ·rfl
theorem word_bytes(s:ByteArray)(i:Nat):∀b∈ (s.extract i (i+wl (s.data.toList.drop i))).data.toList,inW b=true:=by
 intro b hb;rw[ext_list,List.drop_take,show i+wl (s.data.toList.drop i) - i=wl (s.data.toList.drop i) by omega,take_wl] at hb;exact List.all_eq_true.1 List.all_takeWhile b hb
end Tk
def jQ(D:List Tk.T4):List Value:=D.flatMap fun t=>[.int .i64 t.t.kind,.string t.t.text,.int .i64 t.t.num,.int .i64 t.at']
theorem QP(D:List Tk.T4):(jQ D).length=D.length * 4:=by
 induction D with
 | nil=>rfl
 | cons c l ih=>simp[jQ] at *;omega
theorem kA(D:List Tk.T4)(t:Tk.T4):jQ (D++[t])=jQ D++[.int .i64 t.t.kind,.string t.t.text,.int .i64 t.t.num,.int .i64 t.at']:=by simp[jQ]
theorem QQ(D:List Tk.T4)(i:Nat)(t:Tk.T4)(h:D[i]?=some t):(jQ D)[i * 4]?=some (.int .i64 t.t.kind)∧(jQ D)[i * 4+1]?=some (.string t.t.text)∧(jQ D)[i * 4+2]?=some (.int .i64 t.t.num)∧(jQ D)[i * 4+3]?=some (.int .i64 t.at'):=by
 induction D generalizing i with
 | nil=>simp at h
 | cons c l ih =>
   have e:jQ (c :: l)=[.int .i64 c.t.kind,.string c.t.text,.int .i64 c.t.num,.int .i64 c.at']++jQ l:=(by simp[jQ]);cases i with
   | zero=>simp at h;subst h;rw[e];exact⟨rfl,rfl,rfl,rfl⟩
   | succ i =>
     have:=ih i (by simpa using h);rw[e];refine⟨?_,?_,?_,?_⟩
     ·rw[show(i+1) * 4=4+i * 4 by omega,List.getElem?_append_right (by simp)];simpa using this.1
     ·rw[show(i+1) * 4+1=4+(i * 4+1) by omega,List.getElem?_append_right (by simp)];simpa using this.2.1
     ·rw[show(i+1) * 4+2=4+(i * 4+2) by omega,List.getElem?_append_right (by simp)];simpa using this.2.2.1
     ·rw[show(i+1) * 4+3=4+(i * 4+3) by omega,List.getElem?_append_right (by simp)];simpa using this.2.2.2
def TkAt(w:World)(D:List Tk.T4)(v:Value):Prop:=∃(p:Option Addr)(cap:Nat),v=.slice p D.length cap∧D.length≤cap∧D.length≤2932031007402∧(D≠[]→∃g O,p=some ⟨g,O,none⟩∧∀j u,(jQ D)[j]?=some u→w.cell? ⟨g,O+j,none⟩=some u)
theorem TkAt.next{w w':World}{D:List Tk.T4}{v:Value}(h:TkAt w D v)(hb:Below w.heap.size w w'):TkAt w' D v:=by
 obtain⟨p,cap,h1,h2,h3,h4⟩:=h;refine⟨p,cap,h1,h2,h3,fun q=>?_⟩;obtain⟨g,O,e,hc⟩:=h4 q;refine⟨g,O,e,fun j u hu=>?_⟩;have:=hc j u hu;rw[hb.cell (block_lt_of_cell this)];exact this
theorem TkAt.get{w:World}{D:List Tk.T4}{p:Option Addr}{n cap:Nat}(h:TkAt w D (.slice p n cap)){i:Nat}{t:Tk.T4}(hi:D[i]?=some t):∃g O,p=some ⟨g,O,none⟩∧
 w.cell? ⟨g,O+i * 4,none⟩=some (.int .i64 t.t.kind)∧w.cell? ⟨g,O+i * 4+1,none⟩=some (.string t.t.text)∧w.cell? ⟨g,O+i * 4+2,none⟩=some (.int .i64 t.t.num)∧w.cell? ⟨g,O+i * 4+3,none⟩=some (.int .i64 t.at'):=by
 obtain⟨p',cap',h1,h2,h3,h4⟩:=h;obtain⟨g,O,e,hc⟩:=h4 (by intro q;rw[q] at hi;simp at hi);injection h1 with q1 q2 q3
 obtain⟨c0,c1,c2,c3⟩:=QQ D i t hi;exact⟨g,O,q1.trans e,hc _ _ c0,by rw[Nat.add_assoc];exact hc _ _ c1,by rw[Nat.add_assoc];exact hc _ _ c2,by rw[Nat.add_assoc];exact hc _ _ c3⟩
theorem j5{w:World}{base n:Nat}{v:Value}{D:List Tk.T4}(h:w.ownsRow base 68 4 v n (jQ D))(hn:n≤2932031007402):TkAt w D v:=by
 have hl:=h.1;rw[QP] at hl;have hl2:D.length=n:=by omega
 rcases h.2 with ⟨hv,h0⟩|⟨g,cap,cur,hv,hcap⟩
 ·obtain rfl:D=[]:=List.eq_nil_of_length_eq_zero (by omega);exact⟨none,0,hv,Nat.zero_le _,Nat.zero_le _,fun q=>absurd rfl q⟩
 ·subst hv;refine⟨some ⟨g,0,none⟩,cap,by rw[hl2],by rw[hl2];exact hcap.2.2.1,by omega,fun _=>⟨g,0,rfl,fun j u hu=>?_⟩⟩;have hj:=(List.getElem?_eq_some_iff.1 hu).1;rw[QP] at hj;rw[Nat.zero_add,h.cellAt j (by omega)];exact hu
theorem Tryz.infoTk:(Tryz.prog.info? 68).map (fun i=>(i.zero,i.size,i.bytes))=some (some (.agg #[.int .i64 0,.string ⟨#[]⟩,.int .i64 0,.int .i64 0]),4,40):=by kernel_rfl
end Go.Proofs.YtcejjdmnlejbaaaGreatDoor
