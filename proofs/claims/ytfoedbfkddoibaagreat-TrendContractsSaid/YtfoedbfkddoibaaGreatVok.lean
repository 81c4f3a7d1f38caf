import Derived.Test.YtfoedbfkddoibaaGreatGj
import Derived.Test.YtfoedbfkddoibaaGreatChs
import Derived.Test.YtfoedbfkddoibaaGreatTyo
namespace Go.Proofs.YtfoedbfkddoibaaGreat
section
set_option linter.unusedVariables false
set_option linter.unusedSimpArgs false
open Go.ChangeShapes Go.WideShapes Go.ChangeAt Go.RowKit
open Go.Deep (BT)
def placeT (sc:Int) (s:ByteArray):Option Nat:=if 0≤sc∧sc < 4 then posN (Att.listL sc) (Att.listL sc).length s else none
def nS (sc:Int):Nat:=(Att.listL sc).length
def ev1 (nm:ByteArray→Int) (a:Nd) (L:List Int):Int :=
 if a.op=1∨a.op=2∨a.op=3 then a.num else if a.op=4 then 1 else if a.op=5 then 0 else if a.op=6 then nm a.name else opV a.op L
def evF (nm:ByteArray→Int):Fo→List Int
 | .nil=>[]
 | .node _ _ a k r=>ev1 nm a (evF nm k) :: evF nm r
def nmT (sc:Int) (vals:List Int) (cv:ByteArray→Int) (s:ByteArray):Int:=match placeT sc s with|some i=>vals.getD i 0|none=>cv s
structure FC where
 b:Nat
 o:Nat
 f:Fd
 k:Ff
def FmGe (B0:Nat):Ff→Nat→Prop
 | .nil,_=>True
 | .node b _ _ k r,B=>B0≤B∧FmGe B0 k b∧FmGe B0 r B
theorem FmGe.mono {B0 B1:Nat} {T:Ff} {B:Nat} (h:FmGe B0 T B) (hb:B1≤B0):FmGe B1 T B:=by
 induction T generalizing B with
 | nil=>trivial
 | node b o a k r ihk ihr=>exact ⟨Nat.le_trans hb h.1,ihk h.2.1,ihr h.2.2⟩
theorem FmAt.keep {w w':World} {T:Ff} {B O:Nat} (h:FmAt w T B O) (hk:Keeps w w'):FmAt w' T B O:=by
 induction T generalizing B O with
 | nil=>trivial
 | node b o a k r ihk ihr =>
   obtain ⟨⟨h0,h1,h2⟩,hp,hkk,hr⟩:=h
   exact ⟨⟨hk _ _ h0,hk _ _ h1,hk _ _ h2⟩,hp,ihk hkk,ihr hr⟩
theorem FmAt.below {w w':World} {T:Ff} {B O B0 s:Nat} (h:FmAt w T B O) (hl:FmGe B0 T B) (hs:s < B0) (hg:w.grownBy w' (some s)):FmAt w' T B O:=by
 induction T generalizing B O with
 | nil=>trivial
 | node b o a k r ihk ihr =>
   obtain ⟨⟨h0,h1,h2⟩,hp,hk,hr⟩:=h
   obtain ⟨n0,nk,nr⟩:=hl
   have key:∀ (i:Nat) (u:Value),w.cell? ⟨B,i,none⟩=some u→w'.cell? ⟨B,i,none⟩=some u:=fun i u q=>by
    rw [World.cell?_of_block (hg.block B (block_lt_of_cell q) (fun e=>by have:=Option.some.inj e;omega))];exact q
   exact ⟨⟨key _ _ h0,key _ _ h1,key _ _ h2⟩,hp,ihk hk nk,ihr hr nr⟩
def FCAt (w:World) (B0:Nat) (c:FC):Prop:=(c.k≠.nil→c.f.ptr=some ⟨c.b,c.o,none⟩)∧FmAt w c.k c.b c.o∧FmGe B0 c.k c.b
theorem FCAt.keep {w w':World} {B0:Nat} {c:FC} (h:FCAt w B0 c) (hk:Keeps w w'):FCAt w' B0 c:=⟨h.1,h.2.1.keep hk,h.2.2⟩
theorem FCAt.next {w w':World} {B0:Nat} {c:FC} (h:FCAt w B0 c) (hb:Below w.heap.size w w'):FCAt w' B0 c:=⟨h.1,h.2.1.next hb,h.2.2⟩
theorem FCAt.set {w w':World} {B0 s:Nat} {c:FC} (h:FCAt w B0 c) (hs:s < B0) (hg:w.grownBy w' (some s)):FCAt w' B0 c:=⟨h.1,h.2.1.below h.2.2 hs hg,h.2.2⟩
theorem FCAt.mono {w:World} {B0 B1:Nat} {c:FC} (h:FCAt w B0 c) (hb:B1≤B0):FCAt w B1 c:=⟨h.1,h.2.1,h.2.2.mono hb⟩
def fcC (c:FC):List Value:=[.int .i64 c.f.op,.int .i64 c.f.num,.slice c.f.ptr (flen c.k) c.f.cap]
def frowC (l:List FC):List Value:=l.flatMap fcC
def frowF:List FC→Ff
 | []=>.nil
 | c :: r=>.node c.b c.o c.f c.k (frowF r)
theorem frowF_len (l:List FC):flen (frowF l)=l.length:=by
 induction l with
 | nil=>rfl
 | cons c l ih=>simp [frowF,flen,ih]
theorem frowF_val (vals:List Int) (l:List FC):fvF vals (frowF l)=l.map fun c=>fv1 vals c.f (fvF vals c.k):=by
 induction l with
 | nil=>rfl
 | cons c l ih=>simp [frowF,fvF,ih]
theorem frowF_at {w:World} {B0 g O:Nat} (l:List FC) (h:∀ c ∈ l,FCAt w B0 c) (hc:∀ j u,(frowC l)[j]?=some u→w.cell? ⟨g,O+j,none⟩=some u) (hg:B0≤g):FmAt w (frowF l) g O∧FmGe B0 (frowF l) g:=by
 induction l generalizing O with
 | nil=>exact ⟨trivial,trivial⟩
 | cons c l ih =>
   obtain ⟨h1,h2,h3⟩:=h c (by simp)
   obtain ⟨r1,r2⟩:=ih (O:=O+3) (fun d hd=>h d (by simp [hd])) (fun j u hu=>by
    have:=hc (3+j) u (by unfold frowC;rw [List.flatMap_cons,List.getElem?_append_right (by simp [fcC])];simpa [fcC,frowC] using hu)
    rw [← Nat.add_assoc] at this
    exact this)
   exact ⟨⟨⟨hc 0 _ rfl,hc 1 _ rfl,hc 2 _ rfl⟩,h1,h2,r1⟩,hg,h3,r2⟩
structure CompR (sc:Int) (cv:ByteArray→Int) (a:Nd) (k:Fo) (c:FC):Prop where
 v:∀ vals,fv1 vals c.f (fvF vals c.k)=ev1 (nmT sc vals cv) a (evF (nmT sc vals cv) k)
 o1:fOk1 (nS sc) c.f (flen c.k)
 l:flen c.k≤200
 o:fOk (nS sc) c.k
theorem frowF_ok (n:Nat) (l:List FC) (h:∀ c ∈ l,fOk1 n c.f (flen c.k)∧flen c.k≤200∧fOk n c.k):fOk n (frowF l):=by
 induction l with
 | nil=>trivial
 | cons c l ih =>
   obtain ⟨h1,h2,h3⟩:=h c (by simp)
   exact ⟨h1,by omega,h3,ih (fun d hd=>h d (by simp [hd]))⟩
theorem evF_len (nm:ByteArray→Int) (T:Fo):(evF nm T).length=len T:=by
 induction T with
 | nil=>rfl
 | node b o a k r ihk ihr=>simp [evF,len,ihr]
def NamF (Q:ByteArray→Prop):Fo→Prop
 | .nil=>True
 | .node _ _ a k r=>((a.op=6→Q a.name)∧NamF Q k)∧NamF Q r
theorem comp_leaf (sc:Int) (cv:ByteArray→Int) (a:Nd) (k:Fo) (n:Int) (hb:i64B n) (h:∀ vals,ev1 (nmT sc vals cv) a (evF (nmT sc vals cv) k)=n):CompR sc cv a k ⟨0,0,⟨1,n,none,0⟩,.nil⟩ :=
 ⟨fun vals=>by rw [h vals];rfl,⟨hb,.inl rfl⟩,Nat.zero_le _,trivial⟩
theorem comp_node (sc:Int) (cv:ByteArray→Int) (a:Nd) (k:Fo) (l:List FC) (g:Nat) (h7:7≤a.op∧a.op≤22) (hw:argB a.op (len k)=true) (hl:l.length=len k) (hz:len k≤200) (hok:∀ c ∈ l,fOk1 (nS sc) c.f (flen c.k)∧flen c.k≤200∧fOk (nS sc) c.k)
 (hv:∀ vals,(l.map fun c=>fv1 vals c.f (fvF vals c.k))=evF (nmT sc vals cv) k) (p:Option Addr) (cap:Nat):CompR sc cv a k ⟨g,0,⟨a.op,0,p,cap⟩,frowF l⟩:=by
 refine ⟨fun vals=>?_,⟨?_,?_⟩,by rw [frowF_len,hl];exact hz,frowF_ok _ l hok⟩
 · show fv1 vals ⟨a.op,0,p,cap⟩ (fvF vals (frowF l))=_
   rw [frowF_val,hv vals]
   unfold fv1 ev1
   dsimp only
   rw [if_neg (by omega),if_neg (by omega),if_neg (by omega),if_neg (by omega),if_neg (by omega),if_neg (by omega)]
 · unfold i64B;dsimp only;omega
 · rw [frowF_len,hl]
   dsimp only
   unfold argB at hw
   (repeat' split at hw)<;>(simp only [decide_eq_true_eq] at hw;omega)
end
section
set_option linter.unusedVariables false
set_option linter.unusedSimpArgs false
open Go.ChangeShapes Go.WideShapes Go.ChangeAt Go.RowKit
open Go.Deep (BT)
theorem Tryz.infoF:(Tryz.prog.info? 161).map (fun i=>(i.zero,i.size,i.bytes))=some (some (.agg #[.int .i64 0,.int .i64 0,.slice none 0 0]),3,40):=by kernel_rfl
structure RT (w:World) (r:Nat):Prop where
 c0:∃ u,w.cell? ⟨r,0,none⟩=some u
 c1:∃ u,w.cell? ⟨r,1,none⟩=some u
 c2:∃ u,w.cell? ⟨r,2,none⟩=some u
 f0:w.frozen? ⟨r,0,none⟩=false
 f1:w.frozen? ⟨r,1,none⟩=false
 f2:w.frozen? ⟨r,2,none⟩=false
 lt:r < w.heap.size
theorem RT.grown {w w':World} {r:Nat} {row:Option Nat} (h:RT w r) (hg:w.grownBy w' row) (hne:some r≠row):RT w' r where
 c0:=by obtain ⟨u,q⟩:=h.c0;exact ⟨u,by rw [World.cell?_of_block (hg.block r h.lt hne)];exact q⟩
 c1:=by obtain ⟨u,q⟩:=h.c1;exact ⟨u,by rw [World.cell?_of_block (hg.block r h.lt hne)];exact q⟩
 c2:=by obtain ⟨u,q⟩:=h.c2;exact ⟨u,by rw [World.cell?_of_block (hg.block r h.lt hne)];exact q⟩
 f0:=by rw [World.frozen?_of_block (hg.block r h.lt hne)];exact h.f0
 f1:=by rw [World.frozen?_of_block (hg.block r h.lt hne)];exact h.f1
 f2:=by rw [World.frozen?_of_block (hg.block r h.lt hne)];exact h.f2
 lt:=Nat.lt_of_lt_of_le h.lt hg.size
theorem RT.next {w w':World} {r:Nat} (h:RT w r) (hb:Below w.heap.size w w'):RT w' r:=h.grown (grw_of_below none hb) (by simp)
theorem gb_three (w:World) (r:Nat) (a b c:Value):w.grownBy (((w.setCell ⟨r,0,none⟩ a).setCell ⟨r,1,none⟩ b).setCell ⟨r,2,none⟩ c) (some r):=by
 have g:∀ (w:World) (i:Nat) (u:Value),w.grownBy (w.setCell ⟨r,i,none⟩ u) (some r):=fun w i u=>⟨rfl,rfl,rfl,by simp [World.setCell],fun k hk hr=>Below.heap_setCell _ _ _ _ (fun e=>hr (by rw [e]))⟩
 exact ((g _ _ _).trans (g _ _ _)).trans (g _ _ _)
def zerosF (n:Nat):List Value:=(List.replicate n [Value.int .i64 0,.int .i64 0,.slice none 0 0]).flatten
theorem frowC_len (l:List FC):(frowC l).length=l.length * 3:=by
 induction l with
 | nil=>rfl
 | cons c l ih=>simp [frowC,fcC] at *;omega
structure CmSt (w wc wr:World) (fb gs:Nat) (op:Int) (m:Nat) (Dn:List FC) (rest:Nat):Prop where
 c0:wr.cell? ⟨fb,0,none⟩=some (.int .i64 op)
 c1:wr.cell? ⟨fb,1,none⟩=some (.int .i64 0)
 c2:wr.cell? ⟨fb,2,none⟩=some (.slice (some ⟨gs,0,none⟩) m m)
 ow:wr.ownsRow (w.heap.size+2) 161 3 (.slice (some ⟨gs,0,none⟩) m m) m (frowC Dn++zerosF rest)
 ch:∀ c ∈ Dn,FCAt wr wc.heap.size c
 rt:RT wr (w.heap.size+1)
 sz:wc.heap.size≤wr.heap.size
theorem made_zeros (n:Nat):(madeCells #[Value.int .i64 0,.int .i64 0,.slice none 0 0] (n * 3)).toList=zerosF n:=by
 have e:(madeCells #[Value.int .i64 0,.int .i64 0,.slice none 0 0] (n * 3)).toList=(List.range (n * 3)).map (fun i=>(#[Value.int .i64 0,.int .i64 0,.slice none 0 0]:Array Value)[i % 3]!):=by
  unfold madeCells
  simp
 rw [e]
 clear e
 induction n with
 | zero=>rfl
 | succ n ih =>
   have r:List.range ((n+1) * 3)=List.range (n * 3)++[n * 3,n * 3+1,n * 3+2]:=by
    rw [show (n+1) * 3=n * 3+1+1+1 by omega,List.range_succ,List.range_succ,List.range_succ];simp
   rw [r,List.map_append,ih]
   unfold zerosF
   rw [List.replicate_succ',List.flatten_append]
   have m0:n * 3 % 3=0:=by omega
   have m1:(n * 3+1) % 3=1:=by omega
   have m2:(n * 3+2) % 3=2:=by omega
   simp [m0,m1,m2]
theorem zerosF_succ (n:Nat):zerosF (n+1)=[Value.int .i64 0,.int .i64 0,.slice none 0 0]++zerosF n:=by
 unfold zerosF;rw [List.replicate_succ];rfl
theorem CmSt.zero {w wc wr:World} {fb gs:Nat} {op:Int} {m:Nat} {Dn:List FC} {n j:Nat} (h:CmSt w wc wr fb gs op m Dn (n+1)) (hd:Dn.length=j) (hj:j < m) :
 wr.cell? ⟨gs,j * 3,none⟩=some (.int .i64 0)∧wr.cell? ⟨gs,j * 3+1,none⟩=some (.int .i64 0)∧wr.cell? ⟨gs,j * 3+2,none⟩=some (.slice none 0 0):=by
 have hl:=frowC_len Dn
 rw [hd] at hl
 have g:∀ i u,i < 3→([Value.int .i64 0,.int .i64 0,.slice none 0 0]++zerosF n)[i]?=some u→wr.cell? ⟨gs,j * 3+i,none⟩=some u:=fun i u hi hu=>by
  rw [h.ow.cellAt (j * 3+i) (by omega),List.getElem?_append_right (by omega),hl,Nat.add_sub_cancel_left,zerosF_succ]
  exact hu
 exact ⟨g 0 _ (by omega) rfl,g 1 _ (by omega) rfl,g 2 _ (by omega) rfl⟩
theorem set_three (A:List Value) (x0 x1 x2:Value) (Z:List Value) (a b c:Value) (i:Nat) (hi:A.length=i):(((A++([x0,x1,x2]++Z)).set i a).set (i+1) b).set (i+2) c=A++([a,b,c]++Z):=by
 subst hi
 rw [List.set_append_right _ _ (Nat.le_refl _),Nat.sub_self,List.set_append_right _ _ (by omega),List.set_append_right _ _ (by omega)]
 simp
theorem CmSt.store {w wc wr:World} {fb gs:Nat} {op:Int} {m:Nat} {Dn:List FC} {n j:Nat} {c:FC} (h:CmSt w wc wr fb gs op m Dn (n+1)) (hd:Dn.length=j) (hne:fb≠gs) (hgs:w.heap.size+2≤gs) (hg2:gs < wc.heap.size) (hc:FCAt wr wc.heap.size c) :
 CmSt w wc (((wr.setCell ⟨gs,j * 3,none⟩ (.int .i64 c.f.op)).setCell ⟨gs,j * 3+1,none⟩ (.int .i64 c.f.num)).setCell ⟨gs,j * 3+2,none⟩ (.slice c.f.ptr (flen c.k) c.f.cap)) fb gs op m (Dn++[c]) n ∧
 wr.grownBy (((wr.setCell ⟨gs,j * 3,none⟩ (.int .i64 c.f.op)).setCell ⟨gs,j * 3+1,none⟩ (.int .i64 c.f.num)).setCell ⟨gs,j * 3+2,none⟩ (.slice c.f.ptr (flen c.k) c.f.cap)) (some gs):=by
 obtain ⟨o1,g1⟩:=h.ow.stored (j * 3) (.int .i64 c.f.op)
 obtain ⟨o2,g2⟩:=o1.stored (j * 3+1) (.int .i64 c.f.num)
 obtain ⟨o3,g3⟩:=o2.stored (j * 3+2) (.slice c.f.ptr (flen c.k) c.f.cap)
 have g:=(g1.trans g2).trans g3
 have hl:=frowC_len Dn
 rw [hd] at hl
 have e:(((frowC Dn++zerosF (n+1)).set (j * 3) (.int .i64 c.f.op)).set (j * 3+1) (.int .i64 c.f.num)).set (j * 3+2) (.slice c.f.ptr (flen c.k) c.f.cap)=frowC (Dn++[c])++zerosF n:=by
  rw [zerosF_succ,set_three _ _ _ _ _ _ _ _ _ hl]
  simp [frowC,fcC]
 rw [e] at o3
 have cell:∀ (i:Nat) (u:Value),wr.cell? ⟨fb,i,none⟩=some u→(((wr.setCell ⟨gs,j * 3,none⟩ (.int .i64 c.f.op)).setCell ⟨gs,j * 3+1,none⟩ (.int .i64 c.f.num)).setCell ⟨gs,j * 3+2,none⟩ (.slice c.f.ptr (flen c.k) c.f.cap)).cell? ⟨fb,i,none⟩=some u:=fun i u q=>by
  rw [World.cell?_of_block (g.block fb (block_lt_of_cell q) (by simpa using hne))];exact q
 refine ⟨⟨cell _ _ h.c0,cell _ _ h.c1,cell _ _ h.c2,o3,fun d hd2=>?_,h.rt.grown g (by simp;omega),Nat.le_trans h.sz g.size⟩,g⟩
 rcases List.mem_append.1 hd2 with q|q
 · exact (h.ch d q).set hg2 g
 · rw [List.mem_singleton.1 q];exact hc.set hg2 g
end
section
set_option linter.unusedVariables false
set_option linter.unusedSimpArgs false
open Go.ChangeShapes Go.WideShapes Go.ChangeAt Go.RowKit
open Go.Maps (has size IsMap)
open Go.Deep (BT)
structure Av where
 name:ByteArray
 val:Int
def AvAt (w:World):List Av→Nat→Nat→Prop
 | [],_,_=>True
 | a :: l,B,O=>(w.cell? ⟨B,O,none⟩=some (.string a.name)∧w.cell? ⟨B,O+1,none⟩=some (.int .i64 a.val))∧AvAt w l B (O+2)
def AvOk (a:Av):Prop:=a.name.size≤9223372036854775807∧i64B a.val
structure AvV (w:World) (L:List Av) (p:Option Addr):Prop where
 ex:∃ B O,(L≠[]→p=some ⟨B,O,none⟩)∧AvAt w L B O
 ok:∀ a ∈ L,AvOk a
 small:L.length≤2932031007402
theorem AvAt.get {w:World} {L:List Av} {B O i:Nat} {a:Av} (h:AvAt w L B O) (hi:L[i]?=some a):w.cell? ⟨B,O+i * 2,none⟩=some (.string a.name)∧w.cell? ⟨B,O+i * 2+1,none⟩=some (.int .i64 a.val):=by
 induction L generalizing O i with
 | nil=>simp at hi
 | cons d L ih =>
   cases i with
   | zero=>simp at hi;subst hi;simp only [Nat.zero_mul,Nat.add_zero];exact h.1
   | succ i =>
     have:=ih h.2 (by simpa using hi)
     rw [show O+2+i * 2=O+(i+1) * 2 by omega] at this
     exact this
theorem AvAt.keep {w w':World} {L:List Av} {B O:Nat} (h:AvAt w L B O) (hk:Keeps w w'):AvAt w' L B O:=by
 induction L generalizing O with
 | nil=>trivial
 | cons a l ih=>exact ⟨⟨hk _ _ h.1.1,hk _ _ h.1.2⟩,ih h.2⟩
theorem AvV.keep {w w':World} {L:List Av} {p:Option Addr} (h:AvV w L p) (hk:Keeps w w'):AvV w' L p:=by
 obtain ⟨⟨B,O,h1,h2⟩,h3,h4⟩:=h
 exact ⟨⟨B,O,h1,h2.keep hk⟩,h3,h4⟩
theorem AvV.get {w:World} {L:List Av} {p:Option Addr} (h:AvV w L p) {i:Nat} {a:Av} (hi:L[i]?=some a):∃ B O,p=some ⟨B,O,none⟩∧w.cell? ⟨B,O+i * 2,none⟩=some (.string a.name)∧w.cell? ⟨B,O+i * 2+1,none⟩=some (.int .i64 a.val):=by
 obtain ⟨⟨B,O,h1,h2⟩,h3,h4⟩:=h
 exact ⟨B,O,h1 (by rintro rfl;simp at hi),h2.get hi⟩
def firstAv (s:ByteArray):List Av→Option Int
 | []=>none
 | a :: l=>if a.name=s then some a.val else firstAv s l
theorem firstAv_i64 (s:ByteArray) (L:List Av) (v:Int) (h:∀ a ∈ L,AvOk a) (hv:firstAv s L=some v):i64B v:=by
 induction L with
 | nil=>cases hv
 | cons d L ih =>
   unfold firstAv at hv
   split at hv
   · cases hv;exact (h d (by simp)).2
   · exact ih (fun a ha=>h a (by simp [ha])) hv
end
section
section
set_option linter.unusedVariables false
set_option linter.unusedSimpArgs false
open Go.RowKit
open Go.Deep (BT)
def nmC (cs:List Cn) (V:List Int) (s:ByteArray):Int:=match firstIx s cs with|some i=>V.getD i 0|none=>0
def cvN (cs:List Cn):Nat→List Int
 | 0=>[]
 | n+1=>cvN cs n++(match cs[n]? with|some c=>[if (rowT cs n).2=0 then ev1 (nmC cs (cvN cs n)) c.a (evF (nmC cs (cvN cs n)) c.k) else 0]|none=>[0])
def cval (cs:List Cn) (i:Nat):Int:=(cvN cs (i+1)).getD i 0
def cvT (cs:List Cn) (s:ByteArray):Int:=match firstIx s cs with|some i=>cval cs i|none=>0
theorem cvN_len (cs:List Cn) (n:Nat):(cvN cs n).length=n:=by
 induction n with
 | zero=>rfl
 | succ n ih=>rw [cvN,List.length_append,ih];cases cs[n]?<;>rfl
theorem cvN_get (cs:List Cn) (n i:Nat) (h:i < n):(cvN cs n).getD i 0=cval cs i:=by
 induction n with
 | zero=>omega
 | succ n ih =>
   by_cases e:i=n
   · subst e;rfl
   · have:(cvN cs (n+1)).getD i 0=(cvN cs n).getD i 0:=by
      rw [cvN,List.getD_eq_getElem?_getD,List.getElem?_append_left (by rw [cvN_len];omega),← List.getD_eq_getElem?_getD]
     rw [this];exact ih (by omega)
theorem cval_eq (cs:List Cn) (i:Nat) (c:Cn) (h:cs[i]?=some c) (ht:(rowT cs i).2=0):cval cs i=ev1 (nmC cs (cvN cs i)) c.a (evF (nmC cs (cvN cs i)) c.k):=by
 unfold cval
 rw [cvN,h,List.getD_eq_getElem?_getD,List.getElem?_append_right (by rw [cvN_len];omega),cvN_len]
 simp [ht]
theorem place0 (s:ByteArray):placeT 0 s=none:=rfl
theorem at0 (s:ByteArray):atE 0 s=6:=rfl
def ErlQ (cs:List Cn) (sc:Int) (n:Nat) (s:ByteArray):Prop:=atE sc s=0∨∃ j,firstIx s cs=some j∧j < n∧(rowT cs j).2=0
theorem name_erl (cs:List Cn) (sc:Int) (n:Nat) (s:ByteArray) (h:(nameT (lookT cs (tabN cs n)) sc s).2=0):ErlQ cs sc n s:=by
 unfold nameT at h
 by_cases q:atE sc s=0
 · exact .inl q
 · rw [if_neg q,lookT_tab] at h
   right
   cases f:firstIx s cs with
   | none=>rw [f] at h;simp at h
   | some j =>
     rw [f] at h
     by_cases hj:j < n
     · simp only [if_pos hj] at h;exact ⟨j,rfl,hj,h⟩
     · simp only [if_neg hj] at h;simp at h
theorem names_row (cs:List Cn) (sc:Int) (n:Nat) (T:Fo) (h:(tyF (lookT cs (tabN cs n)) sc T).1=0) (hw:wfT T=true):NamF (ErlQ cs sc n) T:=by
 induction T with
 | nil=>trivial
 | node b o a k r ihk ihr =>
   rw [tyF_node] at h
   have hw':((wfB a (len k) && wfT k) && wfT r)=true:=hw
   simp only [Bool.and_eq_true] at hw'
   obtain ⟨⟨w1,w2⟩,w3⟩:=hw'
   by_cases h1:(tyT (lookT cs (tabN cs n)) sc a k).2=0
   · rw [if_pos h1] at h
     have h2:(tyF (lookT cs (tabN cs n)) sc r).1=0:=by
      by_cases q:(tyF (lookT cs (tabN cs n)) sc r).1=0
      · exact q
      · rw [if_neg q] at h;exact absurd h q
     refine ⟨⟨fun h6=>?_,?_⟩,ihr h2 w3⟩
     · unfold tyT at h1
       rw [if_pos h6] at h1
       exact name_erl cs sc n _ h1
     · by_cases h6:a.op=6
       · have hk0:k=.nil:=by
          apply len_zero
          unfold wfB argB at w1
          rw [h6] at w1
          simp at w1
          omega
         subst hk0
         trivial
       · unfold tyT at h1
         rw [if_neg h6] at h1
         refine ihk ?_ w2
         by_cases q:(tyF (lookT cs (tabN cs n)) sc k).1=0
         · exact q
         · rw [if_neg q] at h1;exact absurd h1 q
   · rw [if_neg h1] at h;exact absurd h h1
theorem names_expr (cs:List Cn) (sc:Int) (n:Nat) (a:Nd) (k:Fo) (h:(tyT (lookT cs (tabN cs n)) sc a k).2=0) (hw:(wfB a (len k) && wfT k)=true):(a.op=6→ErlQ cs sc n a.name)∧NamF (ErlQ cs sc n) k:=by
 have h9:=names_row cs sc n (.node 0 0 a k .nil) (by rw [tyF_node,if_pos h];rfl) (by show ((wfB a (len k) && wfT k) && true)=true;rw [hw];rfl)
 exact h9.1
theorem evF_congr {nm nm':ByteArray→Int} (T:Fo) (h:NamF (fun s=>nm s=nm' s) T):evF nm T=evF nm' T:=by
 induction T with
 | nil=>rfl
 | node b o a k r ihk ihr =>
   obtain ⟨⟨h1,h2⟩,h3⟩:=h
   rw [evF,evF,ihk h2,ihr h3]
   congr 1
   unfold ev1
   by_cases h6:a.op=6
   · rw [h1 h6]
   · rw [if_neg h6,if_neg h6]
theorem ev1_congr {nm nm':ByteArray→Int} (a:Nd) (k:Fo) (h:a.op=6→nm a.name=nm' a.name) (hk:NamF (fun s=>nm s=nm' s) k):ev1 nm a (evF nm k)=ev1 nm' a (evF nm' k):=by
 have h9:=evF_congr (nm:=nm) (nm':=nm') (.node 0 0 a k .nil) ⟨⟨h,hk⟩,trivial⟩
 rw [evF,evF] at h9
 exact (List.cons.inj h9).1
theorem namF_mono {Q Q':ByteArray→Prop} {T:Fo} (h:NamF Q T) (hq:∀ s,Q s→Q' s):NamF Q' T:=by
 induction T with
 | nil=>trivial
 | node b o a k r ihk ihr=>exact ⟨⟨fun h6=>hq _ (h.1.1 h6),ihk h.1.2⟩,ihr h.2⟩
theorem cval_all (cs:List Cn) (i:Nat) (c:Cn) (h:cs[i]?=some c) (ht:(rowT cs i).2=0) (vals:List Int):cval cs i=ev1 (nmT 0 vals (cvT cs)) c.a (evF (nmT 0 vals (cvT cs)) c.k):=by
 rw [cval_eq cs i c h ht]
 have hr:=rowT_eq cs i c h
 rw [hr] at ht
 unfold oneT at ht
 by_cases hv:valE c.a c.k=0
 · rw [if_pos hv] at ht
   have hw:(wfB c.a (len c.k) && wfT c.k)=true:=(val_ok c.a c.k hv).1
   obtain ⟨n1,n2⟩:=names_expr cs 0 i c.a c.k ht hw
   have key:∀ s,ErlQ cs 0 i s→nmC cs (cvN cs i) s=nmT 0 vals (cvT cs) s:=by
    intro s hs
    rcases hs with hs|⟨j,hj,hji,-⟩
    · rw [at0] at hs;cases hs
    · unfold nmC nmT cvT
      rw [place0,hj]
      exact cvN_get cs i j hji
   exact ev1_congr c.a c.k (fun h6=>key _ (n1 h6)) (namF_mono n2 key)
 · rw [if_neg hv] at ht;exact absurd ht hv
theorem ev1_i64 (nm:ByteArray→Int) (hn:∀ s,i64B (nm s)) (a:Nd) (L:List Int) (ha:i64B a.num) (hL:∀ x ∈ L,i64B x):i64B (ev1 nm a L):=by
 unfold ev1
 (repeat' split)
 · exact ha
 · unfold i64B;decide
 · unfold i64B;decide
 · exact hn _
 · exact opV_i64 _ _ hL
theorem evF_i64 (nm:ByteArray→Int) (hn:∀ s,i64B (nm s)) (T:Fo) (h:FoOk T):∀ x ∈ evF nm T,i64B x:=by
 induction T with
 | nil=>intro x hx;cases hx
 | node b o a k r ihk ihr =>
   obtain ⟨h1,h2,h3⟩:=h
   intro x hx
   rcases List.mem_cons.1 hx with rfl|hx
   · exact ev1_i64 nm hn a _ h1.2.1 (ihk h2)
   · exact ihr h3 x hx
theorem cval_i64 (cs:List Cn) (hcs:CsOk cs) (i:Nat):i64B (cval cs i):=by
 induction i using Nat.strongRecOn with
 | _ i ih =>
   have z:i64B 0:=by unfold i64B;decide
   cases hc:cs[i]? with
   | none =>
     unfold cval
     rw [cvN,hc,List.getD_eq_getElem?_getD,List.getElem?_append_right (by rw [cvN_len];omega),cvN_len]
     simpa using z
   | some c =>
     by_cases ht:(rowT cs i).2=0
     · rw [cval_eq cs i c hc ht]
       have hok:=(hcs c (List.mem_of_getElem? hc)).2
       have hn:∀ s,i64B (nmC cs (cvN cs i) s):=by
        intro s
        unfold nmC
        cases firstIx s cs with
        | none=>exact z
        | some j =>
          by_cases hj:j < i
          · show i64B ((cvN cs i).getD j 0)
            rw [cvN_get cs i j hj];exact ih j hj
          · show i64B ((cvN cs i).getD j 0)
            rw [List.getD_eq_getElem?_getD,List.getElem?_eq_none (by rw [cvN_len];omega)]
            exact z
       exact ev1_i64 _ hn _ _ hok.1.2.1 (evF_i64 _ hn _ hok.2)
     · unfold cval
       rw [cvN,hc,List.getD_eq_getElem?_getD,List.getElem?_append_right (by rw [cvN_len];omega),cvN_len]
       simp only [Nat.sub_self,List.getElem?_cons_zero,Option.getD_some,if_neg ht]
       exact z
end
section
set_option linter.unusedVariables false
set_option linter.unusedSimpArgs false
open Go.RowKit
open Go.Deep (BT)
theorem limV_i64 (k n:Int) (h:i64B n):i64B (limV k n):=by
 unfold limV
 (repeat' split)
 · unfold i64B;omega
 · exact flagI_i64 _
 · exact clampI_i64 _
end
end
section
set_option linter.unusedVariables false
set_option linter.unusedSimpArgs false
open Go.RowKit
open Go.Deep (BT)
def vok (t v:Int):Prop:=(t=1∨t=2 → -1099511627776≤v∧v≤1099511627776)∧(t=3→0≤v∧v≤1439)∧(t=4→v=0∨v=1)
def voks:List Int→List Int→Prop
 | [],[]=>True
 | t :: T,v :: V=>vok t v∧voks T V
 | _,_=>False
theorem voks_len:∀ {T V:List Int},voks T V→T.length=V.length
 | [],[],_=>rfl
 | _ :: T,_ :: V,h=>by simp [voks_len h.2]
 | [],_ :: _,h=>h.elim
 | _ :: _,[],h=>h.elim
theorem voks_get:∀ {T V:List Int},voks T V→∀ i,i < T.length→vok (T.getD i 0) (V.getD i 0)
 | [],[],_,i,h=>by simp at h
 | t :: T,v :: V,h,0,_=>h.1
 | t :: T,v :: V,h,i+1,hi=>by simpa using voks_get h.2 i (by simpa using hi)
 | [],_ :: _,h,_,_=>h.elim
 | _ :: _,[],h,_,_=>h.elim
theorem voks_all {T V:List Int} (h:voks T V) (t:Int) (ha:allI T t=true):∀ v ∈ V,vok t v:=by
 induction T generalizing V with
 | nil=>cases V with
   | nil=>intro v hv;cases hv
   | cons v V=>exact h.elim
 | cons x T ih=>cases V with
   | nil=>exact h.elim
   | cons v V =>
     unfold allI at ha
     rw [List.all_cons,Bool.and_eq_true] at ha
     intro u hu
     rcases List.mem_cons.1 hu with rfl|hu
     · rw [← eq_of_beq ha.1];exact h.1
     · exact ih h.2 ha.2 u hu
theorem vok_clamp (t n:Int) (h:t=1∨t=2):vok t (clampI n):=by
 have:=clampI_bd n
 exact ⟨fun _=>this,fun q=>by omega,fun q=>by omega⟩
theorem vok_flag (b:Bool):vok 4 (flagI b):=⟨fun q=>by omega,fun q=>by omega,fun _=>by cases b<;>simp [flagI]⟩
theorem minL_ok (t:Int) (x:Int) (L:List Int) (hx:vok t x) (h:∀ y ∈ L,vok t y):vok t (minL x L):=by
 induction L generalizing x with
 | nil=>exact hx
 | cons y l ih =>
   have hy:=h y (by simp)
   refine ih _ ?_ (fun z hz=>h z (by simp [hz]))
   rcases Int.le_total x y with q|q
   · rw [Int.min_eq_left q];exact hx
   · rw [Int.min_eq_right q];exact hy
theorem maxL_ok (t:Int) (x:Int) (L:List Int) (hx:vok t x) (h:∀ y ∈ L,vok t y):vok t (maxL x L):=by
 induction L generalizing x with
 | nil=>exact hx
 | cons y l ih =>
   have hy:=h y (by simp)
   refine ih _ ?_ (fun z hz=>h z (by simp [hz]))
   rcases Int.le_total x y with q|q
   · rw [Int.max_eq_right q];exact hy
   · rw [Int.max_eq_left q];exact hx
theorem div_ok (t a b:Int) (h:t=1∨t=2):vok t (divV a b):=by
 unfold divV
 split
 · exact ⟨fun _=>by omega,fun q=>by omega,fun q=>by omega⟩
 · exact vok_clamp t _ h
theorem allI_get {T:List Int} {t:Int} (h:allI T t=true) (i:Nat) (hi:i < T.length):T.getD i 0=t:=by
 unfold allI at h
 rw [List.all_eq_true] at h
 rw [List.getD_eq_getElem?_getD,List.getElem?_eq_getElem hi]
 exact eq_of_beq (h _ (List.getElem_mem hi))
def boolArgs (op:Int) (V:List Int):Prop:=(op=14→V.getD 0 0=0∨V.getD 0 0=1)∧(op=19→V.getD 0 0=0∨V.getD 0 0=1)∧(op=20∨op=21∨op=22→(V.getD 0 0=0∨V.getD 0 0=1)∧(V.getD 1 0=0∨V.getD 1 0=1))
theorem bool_args (op:Int) (n:Int) (T V:List Int) (h:voks T V) (hn:n=T.length) (h7:7≤op∧op≤22) (ha:argB op n=true) (hr:resT op T≠0):boolArgs op V:=by
 subst hn
 have hg:=voks_get h
 refine ⟨fun e=>?_,fun e=>?_,fun e=>?_⟩
 · subst e
   have hl:T.length=3:=by simp [argB] at ha;omega
   unfold resT at hr
   simp at hr
   exact (hg 0 (by omega)).2.2 (by simpa using hr.1)
 · subst e
   have hl:T.length=1:=by simp [argB] at ha;omega
   have hc:allI T 4=true:=by
    unfold resT cmpB at hr
    simp at hr
    exact hr
   exact (hg 0 (by omega)).2.2 (allI_get hc 0 (by omega))
 · have hl:T.length=2:=by
    unfold argB at ha
    rw [if_neg (by omega),if_neg (by omega),if_neg (by omega),if_neg (by omega)] at ha
    simp at ha
    omega
   have hc:allI T 4=true:=by
    have hc2:cmpB op T=allI T 4:=by unfold cmpB;rw [if_neg (by omega),if_neg (by omega),if_neg (by omega)]
    unfold resT at hr
    rw [if_neg (by omega),if_neg (by omega),if_neg (by omega),if_neg (by omega),if_neg (by omega),if_neg (by omega),if_neg (by omega),hc2] at hr
    by_cases q:allI T 4=true
    · exact q
    · rw [if_neg q] at hr;exact absurd rfl hr
   exact ⟨(hg 0 (by omega)).2.2 (allI_get hc 0 (by omega)),(hg 1 (by omega)).2.2 (allI_get hc 1 (by omega))⟩
theorem bits01 (a b:Int) (ha:a=0∨a=1) (hb:b=0∨b=1):bits .and .i64 a b=min a b∧bits .or .i64 a b=max a b∧bits .or .i64 (notV a) b=max (1 - a) b∧notV a=1 - a:=by
 rcases ha with rfl|rfl<;>rcases hb with rfl|rfl<;>decide
theorem op_ok (op:Int) (T V:List Int) (h:voks T V) (h7:7≤op∧op≤22) (ha:argB op (T.length:Int)=true) (hr:resT op T≠0):vok (resT op T) (opV op V):=by
 have hB:=bool_args op _ T V h rfl h7 ha hr
 have hg:=voks_get h
 have hl:=voks_len h
 unfold resT at hr ⊢
 rw [if_neg (by omega),if_neg (by omega),if_neg (by omega),if_neg (by omega)] at hr ⊢
 by_cases q1:op=7∨op=8∨op=9∨op=12∨op=13
 · rw [if_pos q1] at hr ⊢
   by_cases q2:(amtB (T.getD 0 0) && allI T (T.getD 0 0))=true
   · rw [if_pos q2] at hr ⊢
     rw [Bool.and_eq_true] at q2
     obtain ⟨q3,q4⟩:=q2
     have hA:T.getD 0 0=1∨T.getD 0 0=2:=by unfold amtB at q3;simpa using q3
     have hV:=voks_all h _ q4
     generalize T.getD 0 0=t at *
     have hpos:1≤T.length:=by
      unfold argB at ha
      (repeat' split at ha)<;>(simp at ha;omega)
     have h0:vok t (V.getD 0 0):=by
      refine hV _ ?_
      rw [List.getD_eq_getElem?_getD,List.getElem?_eq_getElem (by omega)]
      exact List.getElem_mem _
     have hd:∀ y ∈ V.drop 1,vok t y:=fun y hy=>hV y (List.mem_of_mem_drop hy)
     unfold opV
     rcases q1 with e|e|e|e|e<;>subst e
     · simp only [show ¬ (7:Int)=14 by decide,show ¬ (7:Int)=12 by decide,show ¬ (7:Int)=13 by decide,show ¬ (7:Int)=15 by decide,if_false,if_true];exact vok_clamp t _ hA
     · simp only [show ¬ (8:Int)=14 by decide,show ¬ (8:Int)=12 by decide,show ¬ (8:Int)=13 by decide,show ¬ (8:Int)=15 by decide,show ¬ (8:Int)=7 by decide,show ¬ (8:Int)=19 by decide,if_false,cmbV,if_true];exact vok_clamp t _ hA
     · simp only [show ¬ (9:Int)=14 by decide,show ¬ (9:Int)=12 by decide,show ¬ (9:Int)=13 by decide,show ¬ (9:Int)=15 by decide,show ¬ (9:Int)=7 by decide,show ¬ (9:Int)=19 by decide,show ¬ (9:Int)=8 by decide,if_false,cmbV,if_true];exact vok_clamp t _ hA
     · simp only [show ¬ (12:Int)=14 by decide,if_false,if_true];exact minL_ok t _ _ h0 hd
     · simp only [show ¬ (13:Int)=14 by decide,show ¬ (13:Int)=12 by decide,if_false,if_true];exact maxL_ok t _ _ h0 hd
   · rw [if_neg q2] at hr;exact absurd rfl hr
 · rw [if_neg q1] at hr ⊢
   by_cases q2:op=10∨op=11
   · rw [if_pos q2] at hr ⊢
     have hp:prodT op (T.getD 0 0) (T.getD 1 0)=1∨prodT op (T.getD 0 0) (T.getD 1 0)=2:=by
      generalize T.getD 0 0=a at *
      generalize T.getD 1 0=b at *
      unfold prodT at hr ⊢
      (repeat' split)<;>first|exact .inl rfl|exact .inr rfl|(exfalso;apply hr;(repeat' split)<;>first|rfl|omega)
     generalize prodT op (T.getD 0 0) (T.getD 1 0)=t at *
     unfold opV cmbV
     rcases q2 with e|e<;>subst e
     · simp only [show ¬ (10:Int)=14 by decide,show ¬ (10:Int)=12 by decide,show ¬ (10:Int)=13 by decide,show ¬ (10:Int)=15 by decide,show ¬ (10:Int)=7 by decide,show ¬ (10:Int)=19 by decide,show ¬ (10:Int)=8 by decide,show ¬ (10:Int)=9 by decide,if_false,if_true];exact vok_clamp t _ hp
     · simp only [show ¬ (11:Int)=14 by decide,show ¬ (11:Int)=12 by decide,show ¬ (11:Int)=13 by decide,show ¬ (11:Int)=15 by decide,show ¬ (11:Int)=7 by decide,show ¬ (11:Int)=19 by decide,show ¬ (11:Int)=8 by decide,show ¬ (11:Int)=9 by decide,show ¬ (11:Int)=10 by decide,if_false,if_true];exact div_ok t _ _ hp
   · rw [if_neg q2] at hr ⊢
     by_cases q3:op=14
     · rw [if_pos q3] at hr ⊢
       subst q3
       have hl3:T.length=3:=by simp [argB] at ha;omega
       by_cases q4:T.getD 0 0=4∧T.getD 1 0=T.getD 2 0
       · rw [if_pos q4]
         unfold opV
         rw [if_pos rfl]
         split
         · exact hg 1 (by omega)
         · rw [q4.2];exact hg 2 (by omega)
       · rw [if_neg q4] at hr;exact absurd rfl hr
     · rw [if_neg q3] at hr ⊢
       by_cases q4:cmpB op T=true
       · rw [if_pos q4]
         have hop:op=15∨op=16∨op=17∨op=18∨op=19∨op=20∨op=21∨op=22:=by omega
         unfold opV cmbV
         rcases hop with e|e|e|e|e|e|e|e<;>subst e
         · simp only [show ¬ (15:Int)=14 by decide,show ¬ (15:Int)=12 by decide,show ¬ (15:Int)=13 by decide,if_false,if_true];exact vok_flag _
         · simp (config:={ decide:=true }) only [if_false,if_true];exact vok_flag _
         · simp (config:={ decide:=true }) only [if_false,if_true];exact vok_flag _
         · simp (config:={ decide:=true }) only [if_false,if_true];exact vok_flag _
         · simp (config:={ decide:=true }) only [if_false,if_true]
           have h9:=hB.2.1 rfl
           rw [(bits01 _ 0 h9 (.inl rfl)).2.2.2]
           exact ⟨fun q=>by omega,fun q=>by omega,fun _=>by omega⟩
         · simp (config:={ decide:=true }) only [if_false,if_true]
           have h9:=hB.2.2 (.inl rfl)
           rw [(bits01 _ _ h9.1 h9.2).1]
           exact ⟨fun q=>by omega,fun q=>by omega,fun _=>by omega⟩
         · simp (config:={ decide:=true }) only [if_false,if_true]
           have h9:=hB.2.2 (.inr (.inl rfl))
           rw [(bits01 _ _ h9.1 h9.2).2.1]
           exact ⟨fun q=>by omega,fun q=>by omega,fun _=>by omega⟩
         · simp (config:={ decide:=true }) only [if_false,if_true]
           have h9:=hB.2.2 (.inr (.inr rfl))
           rw [(bits01 _ _ h9.1 h9.2).2.2.1]
           exact ⟨fun q=>by omega,fun q=>by omega,fun _=>by omega⟩
       · rw [if_neg q4] at hr;exact absurd rfl hr
def NmOk (look:Look) (sc:Int) (nm:ByteArray→Int):Prop:=∀ s,(nameT look sc s).2=0→vok (nameT look sc s).1 (nm s)
theorem lit_ok (a:Nd) (n:Int) (hw:wfB a n=true) (h6:a.op≠6) (h7:¬ 7≤a.op) (T V:List Int) (nm:ByteArray→Int):vok (resT a.op T) (ev1 nm a V):=by
 unfold wfB at hw
 simp only [Bool.and_eq_true,decide_eq_true_eq] at hw
 obtain ⟨⟨⟨h1,-⟩,h2⟩,-⟩:=hw
 have hop:a.op=1∨a.op=2∨a.op=3∨a.op=4∨a.op=5:=by omega
 unfold numB at h2
 unfold resT ev1
 rcases hop with e|e|e|e|e<;>rw [e] at h2 ⊢<;>simp (config:={ decide:=true }) only [if_true,if_false,decide_eq_true_eq] at h2 ⊢
 · exact ⟨fun _=>by omega,fun q=>by omega,fun q=>by omega⟩
 · exact ⟨fun _=>by omega,fun q=>by omega,fun q=>by omega⟩
 · exact ⟨fun q=>by omega,fun _=>by omega,fun q=>by omega⟩
 · exact ⟨fun q=>by omega,fun q=>by omega,fun _=>.inr rfl⟩
 · exact ⟨fun q=>by omega,fun q=>by omega,fun _=>.inl rfl⟩
theorem ty_parts (look:Look) (sc:Int) (a:Nd) (k:Fo) (h:(tyT look sc a k).2=0) (h6:a.op≠6):(tyF look sc k).1=0∧resT a.op (tyF look sc k).2≠0∧(tyT look sc a k).1=resT a.op (tyF look sc k).2:=by
 unfold tyT at h ⊢
 rw [if_neg h6] at h ⊢
 by_cases q:(tyF look sc k).1=0
 · rw [if_pos q] at h ⊢
   by_cases q2:resT a.op (tyF look sc k).2=0
   · rw [if_pos q2] at h;cases h
   · rw [if_neg q2];exact ⟨q,q2,rfl⟩
 · rw [if_neg q] at h;exact absurd h q
theorem ty_row (look:Look) (sc:Int) (b o:Nat) (a:Nd) (k r:Fo) (h:(tyF look sc (.node b o a k r)).1=0):(tyT look sc a k).2=0∧(tyF look sc r).1=0∧(tyF look sc (.node b o a k r)).2=(tyT look sc a k).1 :: (tyF look sc r).2:=by
 rw [tyF_node] at h ⊢
 by_cases h1:(tyT look sc a k).2=0
 · rw [if_pos h1] at h ⊢
   by_cases h2:(tyF look sc r).1=0
   · rw [if_pos h2];exact ⟨h1,h2,rfl⟩
   · rw [if_neg h2] at h;exact absurd h h2
 · rw [if_neg h1] at h;exact absurd h h1
theorem evF_ok (look:Look) (sc:Int) (nm:ByteArray→Int) (hn:NmOk look sc nm) (T:Fo) (h:(tyF look sc T).1=0) (hw:wfT T=true):voks (tyF look sc T).2 (evF nm T):=by
 induction T with
 | nil=>trivial
 | node b o a k r ihk ihr =>
   obtain ⟨h1,h2,h3⟩:=ty_row look sc b o a k r h
   have hw':((wfB a (len k) && wfT k) && wfT r)=true:=hw
   simp only [Bool.and_eq_true] at hw'
   obtain ⟨⟨w1,w2⟩,w3⟩:=hw'
   rw [h3,evF]
   refine ⟨?_,ihr h2 w3⟩
   by_cases h6:a.op=6
   · have e1:tyT look sc a k=nameT look sc a.name:=by unfold tyT;rw [if_pos h6]
     have e2:ev1 nm a (evF nm k)=nm a.name:=by unfold ev1;rw [if_neg (by omega),if_neg (by omega),if_neg (by omega),if_pos h6]
     rw [e1] at h1 ⊢
     rw [e2]
     exact hn _ h1
   · obtain ⟨p1,p2,p3⟩:=ty_parts look sc a k h1 h6
     rw [p3]
     by_cases h7:7≤a.op
     · have hb:a.op≤22:=by
        unfold wfB at w1
        simp only [Bool.and_eq_true,decide_eq_true_eq] at w1
        omega
       have ha:argB a.op (len k)=true:=by
        unfold wfB at w1
        simp only [Bool.and_eq_true,decide_eq_true_eq] at w1
        exact w1.1.1.2
       have e2:ev1 nm a (evF nm k)=opV a.op (evF nm k):=by unfold ev1;rw [if_neg (by omega),if_neg (by omega),if_neg (by omega),if_neg h6]
       rw [e2]
       exact op_ok a.op _ _ (ihk p1 w2) ⟨h7,hb⟩ (by rw [tyF_len look sc k p1];exact ha) p2
     · exact lit_ok a _ w1 h6 h7 _ _ nm
theorem ev_ok (look:Look) (sc:Int) (nm:ByteArray→Int) (hn:NmOk look sc nm) (a:Nd) (k:Fo) (h:(tyT look sc a k).2=0) (hw:(wfB a (len k) && wfT k)=true):vok (tyT look sc a k).1 (ev1 nm a (evF nm k)):=by
 have h9:=evF_ok look sc nm hn (.node 0 0 a k .nil) (by rw [tyF_node,if_pos h];rfl) (by show ((wfB a (len k) && wfT k) && true)=true;rw [hw];rfl)
 rw [(ty_row look sc 0 0 a k .nil (by rw [tyF_node,if_pos h];rfl)).2.2,evF] at h9
 exact h9.1
theorem cval_ok (cs:List Cn) (i:Nat) (ht:(rowT cs i).2=0):vok (rowT cs i).1 (cval cs i):=by
 induction i using Nat.strongRecOn with
 | _ i ih =>
   cases hc:cs[i]? with
   | none =>
     unfold rowT at ht
     rw [tabN,hc,List.getD_eq_getElem?_getD,List.getElem?_append_right (by rw [tabN_len];omega),tabN_len] at ht
     simp at ht
   | some c =>
     rw [cval_eq cs i c hc ht]
     rw [rowT_eq cs i c hc] at ht ⊢
     unfold oneT at ht ⊢
     by_cases hv:valE c.a c.k=0
     · rw [if_pos hv] at ht ⊢
       refine ev_ok _ 0 _ ?_ c.a c.k ht (val_ok c.a c.k hv).1
       intro s hs
       have e:nameT (lookT cs (tabN cs i)) 0 s=lookT cs (tabN cs i) s:=rfl
       rw [e,lookT_tab] at hs ⊢
       unfold nmC
       cases f:firstIx s cs with
       | none=>rw [f] at hs;simp at hs
       | some j =>
         rw [f] at hs
         by_cases hj:j < i
         · simp only [if_pos hj] at hs ⊢
           rw [show (cvN cs i).getD j 0=cval cs j from cvN_get cs i j hj]
           exact ih j hj hs
         · simp only [if_neg hj] at hs;simp at hs
     · rw [if_neg hv] at ht;exact absurd ht hv
end
end Go.Proofs.YtfoedbfkddoibaaGreat
