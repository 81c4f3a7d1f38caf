import Derived.Test.YtljdcpobomfnpaaGreatTkP
import Derived.Maps.AppendAt
import Derived.Test.YtljdcpobomfnpaaGreatRzB
import Derived.Test.YtljdcpobomfnpaaGreatPzS
import Derived.Deep.LoopGhost
namespace Go.Proofs.YtljdcpobomfnpaaGreat
set_option linter.unusedVariables false
set_option linter.unusedSimpArgs false
open Go.ChangeShapes Go.WideShapes Go.ChangeAt Go.RowKit
open Go.Deep (BT)
namespace Pz
def xN (op:Int) (p:Option Addr) (cap:Nat) (l:List Ch):Ch:=⟨match p with|some a=>a.block|none=>0,0,⟨op,0,⟨#[]⟩,p,cap⟩,rowF l⟩
theorem rowC_snoc (l:List Ch) (c:Ch):rowC (l++[c])=rowC l++chC c:=by unfold rowC;simp
variable {w W W':World} {sb:Nat} {St:World→Prop} {gv:List Ch} {bs:List (Nat × Ch)} {ts:List Ch} {t:TypeId} {p:Option Addr} {cap:Nat} {l:List Ch}
theorem ob_ne {v:Value} {k:Nat} (h:∀ g,v.ownBlock=some g→g≠k):v.ownBlock=none∨v.ownBlock≠some k:=by
 cases hv:v.ownBlock with
 | none=>exact .inl rfl
 | some g=>right;intro e;exact h g hv (Option.some.inj e)
theorem nr_xN (op:Int) (p:Option Addr) (cap:Nat) (l:List Ch):nr (xN op p cap l)=tn op (l.map nr):=by
 show (⟨0,0,⟨op,0,⟨#[]⟩,none,0⟩,nrm (rowF l)⟩:Ch)=_
 rw [nrm_rowF];rfl
end Pz
end Go.Proofs.YtljdcpobomfnpaaGreat
namespace Go.Proofs.YtljdcpobomfnpaaGreat
set_option linter.unusedVariables false
set_option linter.unusedSimpArgs false
open Go.ChangeShapes Go.WideShapes Go.ChangeAt Go.RowKit
open Go.Deep (BT)
namespace Pz
def xO (op:Int) (p:Option Addr) (cap n:Nat):Ch:=xN op p cap (List.replicate n z0)
theorem xO_len (op:Int) (p:Option Addr) (cap n:Nat):len (xO op p cap n).k=n:=by
 show len (rowF (List.replicate n z0))=n
 rw [rowF_len,List.length_replicate]
structure EnvO (w W:World) (sb:Nat) (St:World→Prop) (gv:List Ch) (bs:List (Nat × Ch)) (ts:List Ch) (t:TypeId) (p:Option Addr) (cap n:Nat) (xs:List Value):Prop where
 env:Env w W sb St gv bs ts
 own:W.ownsRow w.heap.size t 4 (.slice p n cap) n xs
 bn:∀ g,(Value.slice p n cap).ownBlock=some g→(∀ q ∈ bs,q.1≠g)∧∀ c ∈ ts,FNe g c.k c.b
variable {w W W':World} {sb:Nat} {St:World→Prop} {gv:List Ch} {bs:List (Nat × Ch)} {ts:List Ch} {t:TypeId} {p:Option Addr} {cap n:Nat} {xs:List Value}
theorem EnvO.init (E:Env w W sb St gv bs ts) (t:TypeId):EnvO w W sb St gv bs ts t none 0 0 [] :=
 ⟨E,⟨rfl,.inl ⟨rfl,rfl⟩⟩,(fun g h=>by cases h)⟩
theorem EnvO.gl (R:EnvO w W sb St gv bs ts t p cap n xs) {g:Nat} (h:(Value.slice p n cap).ownBlock=some g):w.heap.size≤g∧g < W.heap.size:=R.own.lt g h
theorem EnvO.below (R:EnvO w W sb St gv bs ts t p cap n xs) (hb:Below W.heap.size W W'):EnvO w W' sb St gv bs ts t p cap n xs :=
 ⟨R.env.below hb,R.own.kept (gb_of_below hb none) (by cases hv:(Value.slice p n cap).ownBlock<;>simp),R.bn⟩
theorem EnvO.grown {St':World→Prop} (R:EnvO w W sb St gv bs ts t p cap n xs) (hs:St' W') (hc:∀ W W':World,St' W→Below (sb+1) W W'→St' W') (hg:W.grownBy W' (some sb)):EnvO w W' sb St' gv bs ts t p cap n xs :=
 ⟨R.env.grown hs hc hg,R.own.kept hg (ob_ne fun g h=>by have:=(R.gl h).1;have:=R.env.lt;omega),R.bn⟩
theorem EnvO.go {St':World→Prop} {given:List Ch} {c:Ch} {o:Option Ch} (R:EnvO w W sb St gv bs ts t p cap n xs) (h:Fin W sb given St' o c W') (hc:∀ W W':World,St' W→Below (sb+1) W W'→St' W') (hgiv:∀ d ∈ given,d ∈ ts) :
 ∃ ts',EnvO w W' sb St' gv bs ts' t p cap n xs∧(∀ x,o=some x→nr c=x∧c ∈ ts')∧∀ d ∈ ts,d ∈ ts':=by
 have G:=R.grown h.2.1 hc h.2.2
 cases o with
 | none=>exact ⟨ts,G,(fun x hx=>by cases hx),fun d hd=>hd⟩
 | some x =>
   obtain ⟨h1,h2⟩:=R.env.call h hc hgiv
   obtain ⟨-,-,-,h4⟩:=h.1 x rfl
   refine ⟨c :: ts,⟨h2,G.own,fun g hg=>⟨(R.bn g hg).1,fun d hd=>?_⟩⟩,(fun y hy=>by cases hy;exact ⟨h1,by simp⟩),fun d hd=>by simp [hd]⟩
   rcases List.mem_cons.1 hd with e|hd
   · rw [e];exact h4 g (R.gl hg).2 fun q hq=>(R.bn g hg).2 q (hgiv q hq)
   · exact (R.bn g hg).2 d hd
theorem EnvO.box (R:EnvO w W sb St gv bs ts t p cap n xs) (c:Ch) (cells:Array Value) (h:cells=(chC c).toArray) (ty:TypeId):EnvO w (W.alloc (.cells cells ty)) sb St gv ((W.heap.size,c) :: bs) ts t p cap n xs:=by
 have B:=R.below ((Below.refl W.heap.size W).alloc (Nat.le_refl _) (.cells cells ty))
 refine ⟨R.env.box c cells h ty,B.own,fun g hg=>⟨fun q hq=>?_,(R.bn g hg).2⟩⟩
 rcases List.mem_cons.1 hq with rfl|hq
 · have:=(R.gl hg).2;show W.heap.size≠g;omega
 · exact (R.bn g hg).1 q hq
theorem EnvO.tail {q:Nat × Ch} (R:EnvO w W sb St gv (q :: bs) ts t p cap n xs):EnvO w W sb St gv bs ts t p cap n xs :=
 ⟨R.env.tail,R.own,fun g hg=>⟨fun q hq=>(R.bn g hg).1 q (by simp [hq]),(R.bn g hg).2⟩⟩
theorem EnvO.app {k:Nat} {op:Int} {news:List Value} {v:Value} (R:EnvO w W sb St gv ((k,xO op p cap n) :: bs) ts t p cap n xs) (h1:W'.ownsRow w.heap.size t 4 v (n+1) (xs++news)) (h2:W.grownBy W' (Value.slice p n cap).ownBlock) (h3:v.ownBlock=(Value.slice p n cap).ownBlock∨v.ownBlock=some W.heap.size) :
 ∃ p' cap',v=.slice p' (n+1) cap'∧B4 W' k (xO op p cap n)∧EnvO w (W'.setCell ⟨k,3,none⟩ (.slice p' (n+1) cap')) sb St gv ((k,xO op p' cap' (n+1)) :: bs) ts t p' cap' (n+1) (xs++news):=by
 have hbox:=R.env.bx (k,xO op p cap n) (by simp)
 have hsl:∃ p' cap',v=.slice p' (n+1) cap':=by
  rcases h1.2 with ⟨-,h0⟩|⟨g,c,cur,hv,-⟩
  · omega
  · exact ⟨_,_,hv⟩
 obtain ⟨p',cap',rfl⟩:=hsl
 have hlt:=R.env.ht
 have hbs:∀ q ∈ (k,xO op p cap n) :: bs,B4 W' q.1 q.2:=fun q hq=>(R.env.bx q hq).1.grown h2 (fun e=>((R.bn q.1 e.symm).1 q hq) rfl)
 have htr:∀ c ∈ ts,ExAt W' c.b c.o c.a c.k:=fun c hc=>by
  cases hv:(Value.slice p n cap).ownBlock with
  | none=>rw [hv] at h2;exact (R.env.tr c hc).1.next ⟨h2.os,h2.tape,h2.output,h2.size,fun i hi=>h2.block i hi (by simp)⟩
  | some g=>rw [hv] at h2;exact ⟨(R.env.tr c hc).1.1,fat_grown (R.env.tr c hc).1.2 ((R.bn g hv).2 c hc) h2⟩
 have hws:w.heap.size≤W.heap.size:=R.env.gr.size
 have hbel:∀ B,B≤w.heap.size→Below B W W':=fun B hB=>⟨h2.os,h2.tape,h2.output,h2.size,fun i hi=>h2.block i (by omega) (fun e=>by have:=(R.gl e.symm).1;omega)⟩
 have g3:W'.grownBy (W'.setCell ⟨k,3,none⟩ (.slice p' (n+1) cap')) (some k):=gb_setCell (p:=⟨k,3,none⟩) (gb_refl _ _) _
 have hkw:w.heap.size≤k:=hbox.2
 have hk':=(hbs (k,xO op p cap n) (by simp)).lt
 dsimp only at hk'
 have hnew:∀ g,(Value.slice p' (n+1) cap').ownBlock=some g→(∀ q ∈ (k,xO op p cap n) :: bs,q.1≠g)∧∀ c ∈ ts,FNe g c.k c.b:=fun g hg=>by
  rcases h3 with e|e
  · rw [e] at hg;exact R.bn g hg
  · rw [e] at hg
    obtain rfl:=Option.some.inj hg
    exact ⟨fun q hq=>Nat.ne_of_lt (R.env.bx q hq).1.lt,fun c hc=>FNe.ofLt (R.env.tr c hc).1.2.lt⟩
 refine ⟨p',cap',rfl,hbs (k,xO op p cap n) (by simp),⟨?_,?_,?_⟩⟩
 · refine ⟨R.env.cl _ _ (R.env.cl _ _ R.env.st (hbel (sb+1) (by have:=R.env.lt;omega))) (below_of_gb g3 (by have:=R.env.lt;omega) hk'),R.env.cl,R.env.lt,gb_next (gb_next R.env.gr (hbel _ (Nat.le_refl _))) (below_of_gb g3 hkw hk'),fun q hq=>?_,?_,fun c hc=>?_⟩
   · rcases List.mem_cons.1 hq with rfl|hq
     · obtain ⟨c0,c1,c2,c3,f0,f1,f2,f3,lt⟩:=hbs (k,xO op p cap n) (by simp)
       dsimp only [xO,xN] at c0 c1 c2 c3 f0 f1 f2 f3 lt
       refine ⟨⟨?_,?_,?_,?_,?_,?_,?_,?_,?_⟩,hkw⟩<;>dsimp only [xO,xN]<;>simp [go_sem,c0,c1,c2,c3,f0,f1,f2,f3,lt,rowF_len]
     · have hn:=(List.pairwise_cons.1 R.env.nd).1 q hq
       exact ⟨(hbs q (by simp [hq])).grown g3 (fun e=>hn (Option.some.inj e).symm),(R.env.bx q (by simp [hq])).2⟩
   · exact List.pairwise_cons.2 ⟨fun q hq=>(List.pairwise_cons.1 R.env.nd).1 q hq,(List.pairwise_cons.1 R.env.nd).2⟩
   · have ht:=R.env.tr c hc
     refine ⟨⟨ht.1.1,fat_grown (htr c hc).2 (ht.2.2.1 (k,xO op p cap n) (by simp)) g3⟩,ht.2.1,(fun q hq=>?_),ht.2.2.2⟩
     rcases List.mem_cons.1 hq with rfl|hq
     · exact ht.2.2.1 (k,xO op p cap n) (by simp)
     · exact ht.2.2.1 q (by simp [hq])
 · have h4:=h1.kept g3 (ob_ne fun g hg=>fun e=>(hnew g hg).1 (k,xO op p cap n) (by simp) e.symm)
   exact h4
 · intro g hg
   refine ⟨fun q hq=>?_,(hnew g hg).2⟩
   rcases List.mem_cons.1 hq with rfl|hq
   · exact (hnew g hg).1 (k,xO op p cap n) (by simp)
   · exact (hnew g hg).1 q (by simp [hq])
theorem EnvO.node (R:EnvO w W sb St gv bs ts t p cap n xs) (op:Int) (l:List Ch) (hl:l≠[]) (hn:n=l.length) (hx:xs=rowC l) (hm:∀ c ∈ l,c ∈ ts):Env w W sb St gv bs (xN op p cap l :: ts):=by
 subst hn hx
 have hsl:∃ g,p=some ⟨g,0,none⟩:=by
  rcases R.own.2 with ⟨-,h0⟩|⟨g,c,cur,hv,-⟩
  · exact absurd (List.eq_nil_of_length_eq_zero h0) hl
  · injection hv with e;exact ⟨g,e⟩
 obtain ⟨g,rfl⟩:=hsl
 have hob:(Value.slice (some ⟨g,0,none⟩) l.length cap).ownBlock=some g:=rfl
 have hgl:=R.gl hob
 have hlt:=R.env.lt
 have hr:=(rowF_at (w:=W) (B0:=0) (g:=g) (O:=0) l (fun c hx=>⟨(R.env.tr c (hm c hx)).1,foge _ _⟩) (fun j u hu=>by
  have h9:=R.own.cells hob j u hu
  rw [Nat.zero_add]
  have e:(⟨g,0,none⟩:Addr).add j=⟨g,j,none⟩:=by by_cases hj:j=0<;>simp [Addr.add,hj]
  rw [e] at h9;exact h9) (Nat.zero_le _)).1
 refine R.env.add _ ⟨fun _=>rfl,hr⟩ (fne_row (fun c hx=>(R.env.tr c (hm c hx)).2.1) (by show g≠sb;omega)) (fun q hq=>fne_row (fun c hx=>(R.env.tr c (hm c hx)).2.2.1 q hq) (fun e=>(R.bn g hob).1 q hq e.symm)) fun r hr q=>fne_row (fun c hx=>(R.env.tr c (hm c hx)).2.2.2 r hr q) (by show g≠r;omega)
end Pz
def RX (L:List Tk.T4) (op:Int) (i:Nat):Prop:=∀ (sb:Nat) (p:Option Addr) (cap:Nat) (w:World),RGd sb L p cap i w →
 Calls Tryz.prog 117 #[.pointer (some ⟨sb,0,none⟩)] w (RFin w sb [] L p cap (Pz.pv L (.li op) (i+1)))
theorem isw_one {L:List Tk.T4} {i:Nat} {s t:ByteArray} (h:Pz.isw L i s=true) (k:Pz.isw L i t=true):s.data.toList=t.data.toList:=by
 unfold Pz.isw at h k
 split at h
 · rename_i x hx
   rw [hx] at k
   dsimp only at k
   rw [Bool.and_eq_true,decide_eq_true_eq] at h k
   rw [← h.2,← k.2]
 · cases h
end Go.Proofs.YtljdcpobomfnpaaGreat
namespace Go.Proofs.YtljdcpobomfnpaaGreat
set_option linter.unusedVariables false
set_option linter.unusedSimpArgs false
open Go.ChangeShapes Go.WideShapes Go.ChangeAt Go.RowKit
open Go.Deep (BT)
def PFin (w:World) (sb:Nat) (gv:List Ch) (L:List Tk.T4) (p:Option Addr) (cap:Nat) (r:Pz.R) (e:Ending) (w':World):Prop :=
 ∃ c:Ch,e=.returned (.tuple #[.agg #[.int .i64 c.a.op,.int .i64 c.a.num,.string c.a.name,.slice c.a.ptr (len c.k) c.a.cap],.bool r.1.isSome])∧Pz.Fin w sb gv (fun W=>PSt W sb L p cap r.2) r.1 c w'
def PC (f:FuncId) (L:List Tk.T4) (nt:Pz.NT) (i:Nat):Prop:=∀ (sb:Nat) (p:Option Addr) (cap:Nat) (w:World),PSt w sb L p cap i →
 Calls Tryz.prog f #[.pointer (some ⟨sb,0,none⟩)] w (PFin w sb [] L p cap (Pz.pv L nt i))
end Go.Proofs.YtljdcpobomfnpaaGreat
namespace Go.Proofs.YtljdcpobomfnpaaGreat
set_option linter.unusedVariables false
set_option linter.unusedSimpArgs false
open Go.ChangeShapes Go.WideShapes Go.ChangeAt Go.RowKit
def VT (t:Tk.T3):Prop :=
 (t.kind=1∧(∀ b ∈ t.text.data.toList,Tk.inW b=true)∧Tk.word t.text=some ⟨1,t.text,0⟩∧t.num=0) ∨
 ((t.kind=2∨t.kind=3)∧t.text=⟨#[]⟩∧0≤t.num∧t.num≤1099511627776) ∨
 (t.kind=4∧t.text=⟨#[]⟩∧0≤t.num∧t.num≤1439) ∨
 (t.kind=5∧0 < t.text.size∧Tk.sgn t.text.data.toList=t.text.size∧t.num=0)
theorem duR_plain {l:List UInt8} (h:∀ b ∈ l,Tk.inW b=true):Txt.duNeg l=false:=by
 cases hq:Txt.duNeg l with
 | false=>rfl
 | true =>
   obtain ⟨t,rfl⟩:=(Txt.dash_iff l).1 hq
   have:=h 45 (List.mem_cons_self ..)
   revert this;decide
theorem word_valid {s:ByteArray} {t:Tk.T3} (hw:∀ b ∈ s.data.toList,Tk.inW b=true) (h:Tk.word s=some t):VT t:=by
 have h':=h
 unfold Tk.word at h
 split at h
 · split at h
   · cases h
   · obtain rfl:=Option.some.inj h
     exact .inl ⟨rfl,hw,h',rfl⟩
 · split at h
   · split at h
     · rename_i hpe
       obtain rfl:=Option.some.inj h
       refine .inr (.inr (.inl ⟨rfl,rfl,?_⟩))
       dsimp only
       unfold pcE at hpe
       unfold pcV
       split at hpe
       · rename_i hf
         split at hpe
         · rename_i hb
           rw [if_pos hf,if_pos hb]
           obtain ⟨hl,-,h1,h2⟩:=(fits5 _).1 hf
           rw [len_atT] at hl h2
           rw [← ext_list] at h1 h2
           have m1:=numB_bd ((s.extract 1 s.size).extract 0 2) 2 (by rw [ByteArray.size_extract];omega) h1
           have m2:=numB_bd ((s.extract 1 s.size).extract 3 (s.extract 1 s.size).size) 2 (by rw [ByteArray.size_extract];omega) h2
           unfold pcB at hb
           rw [decide_eq_true_eq] at hb
           unfold pcH pcM at hb ⊢
           omega
         · cases hpe
       · cases hpe
     · cases h
   · split at h
     · split at h
       · rename_i hdu
         obtain rfl:=Option.some.inj h
         refine .inr (.inl ⟨.inr rfl,rfl,?_⟩)
         dsimp only
         have hn:=duR_plain hw
         unfold Txt.duV
         rw [if_pos hdu,hn,if_neg (by simp)]
         unfold Txt.duE at hdu
         split at hdu
         · rename_i hb
           split at hdu
           · rename_i hq
             refine ⟨?_,hq.2⟩
             unfold Txt.duB at hb
             rw [decide_eq_true_eq] at hb
             have b1:=(Txt.num_bd _ hb.2.2.2.1).1
             have b2:=(Txt.num_bd _ hb.2.2.2.2.1).1
             unfold Txt.duN
             omega
           · cases hdu
         · cases hdu
       · cases h
     · split at h
       · rename_i hno
         obtain rfl:=Option.some.inj h
         unfold Tk.numOk at hno
         rw [decide_eq_true_eq] at hno
         exact .inr (.inl ⟨.inl rfl,rfl,(Txt.num_bd _ hno.2.2.1).1,hno.2.2.2.2⟩)
       · cases h
theorem sgn_take (l:List UInt8) (h:Tk.sgn l≠0):Tk.sgn (l.take (Tk.sgn l))=Tk.sgn l:=by
 unfold Tk.sgn at h ⊢
 by_cases h2:(l.getD 0 0).toNat=60∧(l.getD 1 0).toNat=61
 · rw [if_pos h2]
   match l,h2 with
   | [],h2=>simp at h2
   | [a],h2=>simp at h2
   | a :: b :: l,h2=>exact if_pos h2
 · rw [if_neg h2] at h ⊢
   by_cases h1:1≤l.length∧Tk.inS (l.getD 0 0)=true
   · rw [if_pos h1]
     match l,h1 with
     | [],h1=>simp at h1
     | a :: l,h1=>simpa using h1.2
   · rw [if_neg h1] at h;exact absurd rfl h
theorem tok_valid {s:ByteArray} {i m:Nat} {t:Tk.T3} (hi:i < s.size) (h:Tk.tokAt s i=(some t,m)):VT t:=by
 unfold Tk.tokAt at h
 by_cases hw:Tk.inW (s.data.toList.getD i 0)=true
 · rw [if_pos hw] at h
   exact word_valid (Tk.word_bytes s i) (Prod.mk.inj h).1
 · rw [if_neg hw] at h
   obtain ⟨h1,h2⟩:=Prod.mk.inj h
   by_cases hg:Tk.sgn (s.data.toList.drop i)=0
   · rw [if_pos hg] at h1;cases h1
   · rw [if_neg hg] at h1
     obtain rfl:=Option.some.inj h1
     have hle:=Tk.sgn_le (s.data.toList.drop i)
     rw [List.length_drop,len_atT] at hle
     have hz:(s.extract i (i+Tk.sgn (s.data.toList.drop i))).size=Tk.sgn (s.data.toList.drop i):=by rw [ByteArray.size_extract];omega
     refine .inr (.inr (.inr ⟨rfl,by dsimp only;omega,?_,rfl⟩))
     dsimp only
     rw [hz,ext_list,List.drop_take,show i+Tk.sgn (s.data.toList.drop i) - i=Tk.sgn (s.data.toList.drop i) by omega]
     exact sgn_take _ hg
theorem scan_valid (s:ByteArray):∀ (n i:Nat) (D:List Tk.T4),(∀ t ∈ D,VT t.t)→∀ t ∈ (Tk.scan s n i D).1,VT t.t:=by
 intro n
 induction n with
 | zero=>intro i D h;exact h
 | succ n ih =>
   intro i D h
   rw [Tk.scan]
   by_cases h1:s.size≤i
   · rw [if_pos h1];exact h
   · rw [if_neg h1]
     split
     · exact h
     · split
       · exact ih _ _ h
       · split
         · intro t ht;cases ht
         · rename_i t m hq
           split
           · intro t ht;cases ht
           · refine ih _ _ ?_
             intro u hu
             rcases List.mem_append.1 hu with hu|hu
             · exact h u hu
             · rw [List.mem_singleton.1 hu];exact tok_valid (by omega) hq
theorem scanT_valid (s:ByteArray):∀ t ∈ (Tk.scanT s).1,VT t.t:=scan_valid s _ _ _ (fun t ht=>by cases ht)
end Go.Proofs.YtljdcpobomfnpaaGreat
namespace Go.Proofs.YtljdcpobomfnpaaGreat
set_option linter.unusedVariables false
set_option linter.unusedSimpArgs false
open Go.ChangeShapes Go.WideShapes Go.ChangeAt Go.RowKit
open Go.Deep (BT)
theorem leaf_none {L:List Tk.T4} {i:Nat} (h:L.length≤i):Pz.leaf L i=(none,i):=by unfold Pz.leaf;rw [List.getElem?_eq_none h]
theorem leaf_tok {L:List Tk.T4} {i:Nat} {t:Tk.T4} (h:L[i]?=some t):Pz.leaf L i=(match Pz.leafT t.t with|some x=>(some x,i+1)|none=>(none,i)):=by
 unfold Pz.leaf;rw [h];dsimp only;cases Pz.leafT t.t<;>rfl
theorem leafT_num {t:Tk.T3} (h:t.kind=2):Pz.leafT t=some (Pz.lf 1 t.num ⟨#[]⟩):=by unfold Pz.leafT;rw [if_pos h]
theorem leafT_time {t:Tk.T3} (h:t.kind=3):Pz.leafT t=some (Pz.lf 2 t.num ⟨#[]⟩):=by unfold Pz.leafT;rw [if_neg (by omega),if_pos h]
theorem leafT_clock {t:Tk.T3} (h:t.kind=4):Pz.leafT t=some (Pz.lf 3 t.num ⟨#[]⟩):=by unfold Pz.leafT;rw [if_neg (by omega),if_neg (by omega),if_pos h]
theorem leafT_name {t:Tk.T3} (h:t.kind=1):Pz.leafT t=if attrS t.text=true then some (Pz.lf 6 0 t.text) else none:=by unfold Pz.leafT;rw [if_neg (by omega),if_neg (by omega),if_neg (by omega),if_pos h]
theorem leafT_sign {t:Tk.T3} (h:t.kind=5):Pz.leafT t=none:=by unfold Pz.leafT;rw [if_neg (by omega),if_neg (by omega),if_neg (by omega),if_neg (by omega)]
theorem vt_kind {t:Tk.T3} (h:VT t):(t.kind=1∧t.text.size≤33∧t.num=0)∨(t.kind=2∧t.text=⟨#[]⟩∧0≤t.num∧t.num≤1099511627776)∨(t.kind=3∧t.text=⟨#[]⟩∧0≤t.num∧t.num≤1099511627776)∨(t.kind=4∧t.text=⟨#[]⟩∧0≤t.num∧t.num≤1439)∨(t.kind=5∧t.num=0):=by
 rcases h with ⟨h1,h2,h3,h4⟩|⟨h1,h2⟩|h|⟨h1,h2,h3,h4⟩
 · refine .inl ⟨h1,?_,h4⟩
   unfold Tk.word at h3
   split at h3
   · split at h3
     · cases h3
     · rename_i q;omega
   · split at h3
     · split at h3
       · have:=congrArg (fun o=>o.map (fun t:Tk.T3=>t.kind)) h3;simp at this
       · cases h3
     · split at h3
       · split at h3
         · have:=congrArg (fun o=>o.map (fun t:Tk.T3=>t.kind)) h3;simp at this
         · cases h3
       · split at h3
         · have:=congrArg (fun o=>o.map (fun t:Tk.T3=>t.kind)) h3;simp at this
         · cases h3
 · rcases h1 with h1|h1
   · exact .inr (.inl ⟨h1,h2⟩)
   · exact .inr (.inr (.inl ⟨h1,h2⟩))
 · exact .inr (.inr (.inr (.inl h)))
 · exact .inr (.inr (.inr (.inr ⟨h1,h4⟩)))
end Go.Proofs.YtljdcpobomfnpaaGreat
