import Derived.Test.YtfoedbfkddoibaaGreatGg
import Derived.ChangeArms
import Derived.Deep.Slices
import Derived.SizedLaws
import Derived.OpenShut
import Derived.WalkArith
import Derived.Test.YtfoedbfkddoibaaGreatCtW
namespace Go.Proofs.YtfoedbfkddoibaaGreat
section
set_option linter.unusedVariables false
set_option linter.unusedSimpArgs false
set_option maxRecDepth 100000
open Go.ChangeShapes Go.WideShapes Go.RowKit
open Go.Deep (BT)
def ExS (w:World) (cs:List Value):Prop:=∃ (a:Nd) (k:Fo) (b o:Nat),cs=[.int .i64 a.op,.int .i64 a.num,.string a.name,.slice a.ptr (len k) a.cap]∧ExAt w b o a k∧ExOk a k∧len k≤a.cap
theorem i64_of_wf {x:Int} (h:(Lit.int .i64 x).wf=true) : -9223372036854775808≤x∧x≤9223372036854775807:=by
 exact bounds_i64 h
theorem addr_add0 (a:Addr) (n:Nat) (h:a.spot=none):a.add n=⟨a.block,a.off+n,none⟩:=by
 obtain ⟨b,o,s⟩:=a
 dsimp only at h
 subst h
 unfold Addr.add
 by_cases q:n=0
 · subst q;rfl
 · rw [if_neg q]
theorem spot_none {w:World} {a:Addr} {v:Value} (h:w.cell? a=some v):a.spot=none:=by
 unfold World.cell? at h
 split at h
 · cases q:a.spot with
   | none=>rfl
   | some z=>rw [q] at h;simp at h
 · cases h
theorem row_of {w:World} (n:Nat) (B O:Nat) (h:∀ i,i < n→∃ c0 c1 c2 c3,w.cell? ⟨B,O+i * 4,none⟩=some c0∧w.cell? ⟨B,O+i * 4+1,none⟩=some c1∧w.cell? ⟨B,O+i * 4+2,none⟩=some c2∧w.cell? ⟨B,O+i * 4+3,none⟩=some c3∧ExS w [c0,c1,c2,c3]) :
 ∃ T:Fo,len T=n∧FoAt w T B O∧FoOk T:=by
 induction n generalizing O with
 | zero=>exact ⟨.nil,rfl,trivial,trivial⟩
 | succ n ih =>
   obtain ⟨T,h1,h2,h3⟩:=ih (O+4) (fun i hi=>by
    have:=h (i+1) (by omega)
    rw [show O+(i+1) * 4=O+4+i * 4 by omega] at this
    exact this)
   obtain ⟨c0,c1,c2,c3,k0,k1,k2,k3,a,k,b,o,he,hx,hok,-⟩:=h 0 (by omega)
   simp only [Nat.zero_mul,Nat.add_zero] at k0 k1 k2 k3
   simp only [List.cons.injEq,and_true] at he
   obtain ⟨rfl,rfl,rfl,rfl⟩:=he
   exact ⟨.node b o a k T,by simp [len,h1],⟨⟨k0,k1,k2,k3⟩,hx.1,hx.2,h2⟩,hok.1,hok.2,h3⟩
section
variable {H:Type} {enc:TypeId × Value→H} {w:World} {base:Nat} {spare:Nat→Bool} {held:Bool}
theorem Tryz.cellsE:Tryz.prog.cellsOf 25=4:=by kernel_rfl
theorem Tryz.cellsI:Tryz.prog.cellsOf 3=1:=by kernel_rfl
theorem Tryz.cellsS:Tryz.prog.cellsOf 9=1:=by kernel_rfl
theorem Tryz.cellsL:Tryz.prog.cellsOf 23=1:=by kernel_rfl
def SlS (w:World) (cs:List Value):Prop:=∃ (k:Fo) (p:Option Addr) (cap b o:Nat),cs=[.slice p (len k) cap]∧(k≠.nil→p=some ⟨b,o,none⟩)∧FoAt w k b o∧FoOk k∧len k≤maxLen∧len k≤cap
theorem open_sl (fuel:Nat) (ih:∀ m,m < fuel→∀ cs x,DataW.trod enc Tryz.prog w base spare held m 25 cs=some x→ExS w cs) (cs:List Value) (x:DataW H × List MemPlace)
 (h:DataW.trod enc Tryz.prog w base spare held fuel 23 cs=some x):SlS w cs:=by
 rcases DataW.trod_slice Tryz.underlying23 h with ⟨rfl,-⟩|⟨a,n,cap,elems,rest,m,rfl,rfl,-,hb,hl,hm,hlen,hel,-,-⟩
 · exact ⟨.nil,none,0,0,0,rfl,fun q=>absurd rfl q,trivial,trivial,Nat.zero_le _,Nat.zero_le _⟩
 · have key:∀ i,i < n→∃ c0 c1 c2 c3,w.cell? (a.add (i * 4))=some c0∧w.cell? ((a.add (i * 4)).add 1)=some c1∧w.cell? ((a.add (i * 4)).add 2)=some c2∧w.cell? ((a.add (i * 4)).add 3)=some c3∧ExS w [c0,c1,c2,c3]:=by
    intro i hi
    have q:=hel i hi
    rw [List.getElem?_eq_getElem (by omega),Tryz.cellsE] at q
    obtain ⟨cs',hc,ht⟩:=Option.bind_eq_some_iff.1 q
    obtain ⟨-,h4,hcell⟩:=World.cells?_some hc
    match cs',h4 with
    | [c0,c1,c2,c3],_ =>
      refine ⟨c0,c1,c2,c3,?_,hcell 1 (by omega),hcell 2 (by omega),hcell 3 (by omega),ih m (Nat.lt_succ_self m) _ _ ht⟩
      have:=hcell 0 (by omega)
      simpa [Addr.add] using this
   by_cases h0:n=0
   · subst h0
     exact ⟨.nil,some a,cap,0,0,rfl,fun q=>absurd rfl q,trivial,trivial,Nat.zero_le _,Nat.zero_le _⟩
   · have hs:a.spot=none:=by
      obtain ⟨c0,c1,c2,c3,q,-⟩:=key 0 (by omega)
      exact spot_none (by simpa [Addr.add] using q)
     obtain ⟨T,t1,t2,t3⟩:=row_of (w:=w) n a.block a.off (fun i hi=>by
      obtain ⟨c0,c1,c2,c3,q0,q1,q2,q3,q⟩:=key i hi
      rw [Go.Deep.add_add,addr_add0 _ _ hs,← Nat.add_assoc] at q1 q2 q3
      rw [addr_add0 _ _ hs] at q0
      exact ⟨c0,c1,c2,c3,q0,q1,q2,q3,q⟩)
     refine ⟨T,some a,cap,a.block,a.off,by rw [t1],fun _=>?_,t2,t3,by omega,by omega⟩
     obtain ⟨b,o,s⟩:=a
     dsimp only at hs
     subst hs
     rfl
theorem open_ex (fuel:Nat):∀ (cs:List Value) (x:DataW H × List MemPlace),DataW.trod enc Tryz.prog w base spare held fuel 25 cs=some x→ExS w cs:=by
 induction fuel using Nat.strongRecOn with
 | _ fuel ih =>
   intro cs x h
   obtain ⟨xs,n,rfl,-,h4,hx,hf⟩:=DataW.trod_struct Tryz.underlying25 h
   rw [Tryz.cellsE] at h4
   match cs,h4,xs,hx with
   | [c0,c1,c2,c3],_,[y0,y1,y2,y3],_ =>
     have g0:DataW.trod enc Tryz.prog w base spare held n 3 (List.take (Tryz.prog.cellsOf 3) (List.drop 0 [c0,c1,c2,c3]))=some y0:=hf 0 _ rfl
     have g1:DataW.trod enc Tryz.prog w base spare held n 3 (List.take (Tryz.prog.cellsOf 3) (List.drop 1 [c0,c1,c2,c3]))=some y1:=hf 1 _ rfl
     have g2:DataW.trod enc Tryz.prog w base spare held n 9 (List.take (Tryz.prog.cellsOf 9) (List.drop 2 [c0,c1,c2,c3]))=some y2:=hf 2 _ rfl
     have g3:DataW.trod enc Tryz.prog w base spare held n 23 (List.take (Tryz.prog.cellsOf 23) (List.drop 3 [c0,c1,c2,c3]))=some y3:=hf 3 _ rfl
     rw [Tryz.cellsI] at g0 g1
     rw [Tryz.cellsS] at g2
     rw [Tryz.cellsL] at g3
     simp only [List.drop,List.take] at g0 g1 g2 g3
     obtain ⟨op,e0,-,w0⟩:=DataW.trod_int Tryz.underlying3 g0
     obtain ⟨num,e1,-,w1⟩:=DataW.trod_int Tryz.underlying3 g1
     obtain ⟨name,e2,-,w2⟩:=DataW.trod_string Tryz.underlying9 g2
     obtain ⟨k,p,cap,b,o,e3,hp,hat,hok,hl,hlc⟩:=open_sl n (fun m hm=>ih m (by omega)) _ _ g3
     simp only [List.cons.injEq,and_true] at e0 e1 e2 e3
     subst e0 e1 e2 e3
     exact ⟨⟨op,num,name,p,cap⟩,k,b,o,rfl,⟨hp,hat⟩,⟨⟨i64_of_wf w0,i64_of_wf w1,w2,hl⟩,hok⟩,hlc⟩
end
end
section
set_option linter.unusedVariables false
set_option linter.unusedSimpArgs false
set_option maxRecDepth 100000
open Go.ChangeShapes Go.WideShapes Go.RowKit
open Go.Deep (BT)
theorem list_of {α:Type} {Q:Nat→α→Prop} (n:Nat) (h:∀ i,i < n→∃ y,Q i y):∃ L:List α,L.length=n∧∀ (i:Nat) (y:α),L[i]?=some y→Q i y:=by
 induction n with
 | zero=>exact ⟨[],rfl,fun i y q=>by simp at q⟩
 | succ n ih =>
   obtain ⟨L,h1,h2⟩:=ih (fun i hi=>h i (by omega))
   obtain ⟨y,hy⟩:=h n (by omega)
   refine ⟨L++[y],by simp [h1],fun i z hz=>?_⟩
   by_cases hi:i < n
   · rw [List.getElem?_append_left (by omega)] at hz
     exact h2 i z hz
   · rw [List.getElem?_append_right (by omega)] at hz
     have:i - L.length=0:=by
      have:=(List.getElem?_eq_some_iff.1 hz).1
      simp at this
      omega
     rw [this] at hz
     simp at hz
     subst hz
     rw [show i=n by omega]
     exact hy
section
variable {H:Type} {enc:TypeId × Value→H} {w:World} {base:Nat} {spare:Nat→Bool} {held:Bool}
theorem open_row {α:Type} (Q:World→Nat→Nat→α→Prop) (s:Nat) (st et:TypeId) (hst:Tryz.prog.underlying st=some (.slice et)) (hs:Tryz.prog.cellsOf et=s) (h0:0 < s)
 (key:∀ (m:Nat) (cs:List Value) (x:DataW H × List MemPlace) (B O:Nat),DataW.trod enc Tryz.prog w base spare held m et cs=some x→(∀ i,i < s→w.cell? ⟨B,O+i,none⟩=cs[i]?)→cs.length=s→∃ y:α,Q w B O y)
 (fuel:Nat) (cs:List Value) (x:DataW H × List MemPlace) (h:DataW.trod enc Tryz.prog w base spare held fuel st cs=some x) :
 ∃ (L:List α) (p:Option Addr) (cap:Nat),cs=[.slice p L.length cap]∧RowV Q s w L p∧L.length≤cap:=by
 rcases DataW.trod_slice hst h with ⟨rfl,-⟩|⟨a,n,cap,elems,rest,m,rfl,rfl,hx,hb,hl,hm,hlen,hel,-,-⟩
 · exact ⟨[],none,0,rfl,⟨Nat.zero_le _,0,0,fun q=>absurd rfl q,fun i x q=>by simp at q⟩,Nat.zero_le _⟩
 · have hn:n≤9223372036854775807:=Nat.le_trans hl hm
   have cellsOk:∀ i,i < n→∃ (cs':List Value) (z:DataW H × List MemPlace),DataW.trod enc Tryz.prog w base spare held m et cs'=some z∧cs'.length=s∧∀ k,k < s→w.cell? ((a.add (i * s)).add k)=cs'[k]?:=by
    intro i hi
    have q:=hel i hi
    rw [List.getElem?_eq_getElem (by omega),hs] at q
    obtain ⟨cs',hc,ht⟩:=Option.bind_eq_some_iff.1 q
    obtain ⟨-,h4,hcell⟩:=World.cells?_some hc
    exact ⟨cs',_,ht,h4,hcell⟩
   by_cases hz:n=0
   · subst hz
     exact ⟨[],some a,cap,rfl,⟨Nat.zero_le _,0,0,fun q=>absurd rfl q,fun i x q=>by simp at q⟩,Nat.zero_le _⟩
   · have hsp:a.spot=none:=by
      obtain ⟨cs',z,-,h4,hc⟩:=cellsOk 0 (by omega)
      have q:=hc 0 h0
      rw [List.getElem?_eq_getElem (by omega)] at q
      exact spot_none (by simpa [Addr.add] using q)
     obtain ⟨L,hL,hQ⟩:=list_of (Q:=fun i y=>Q w a.block (a.off+i * s) y) n (fun i hi=>by
      obtain ⟨cs',z,ht,h4,hc⟩:=cellsOk i hi
      refine key m cs' z a.block (a.off+i * s) ht (fun k hk=>?_) h4
      have q:=hc k hk
      rw [Go.Deep.add_add,addr_add0 _ _ hsp,← Nat.add_assoc] at q
      exact q)
     refine ⟨L,some a,cap,by rw [hL],⟨by omega,a.block,a.off,fun _=>?_,hQ⟩,by omega⟩
     obtain ⟨b,o,sp⟩:=a
     dsimp only at hsp
     subst hsp
     rfl
theorem x4_of {B O:Nat} {c0 c1 c2 c3:Value} (h:ExS w [c0,c1,c2,c3]) (k0:w.cell? ⟨B,O,none⟩=some c0) (k1:w.cell? ⟨B,O+1,none⟩=some c1) (k2:w.cell? ⟨B,O+2,none⟩=some c2) (k3:w.cell? ⟨B,O+3,none⟩=some c3) :
 ∃ (b o:Nat) (a:Nd) (k:Fo),X4 w B O b o a k:=by
 obtain ⟨a,k,b,o,he,hx,hok,-⟩:=h
 simp only [List.cons.injEq,and_true] at he
 obtain ⟨rfl,rfl,rfl,rfl⟩:=he
 exact ⟨b,o,a,k,⟨k0,k1,k2,k3⟩,hx,hok⟩
theorem Tryz.cells_Const:Tryz.prog.cellsOf 52=5:=by kernel_rfl
theorem open_Const (m:Nat) (cs:List Value) (x:DataW H × List MemPlace) (B O:Nat) (h:DataW.trod enc Tryz.prog w base spare held m 52 cs=some x) (hc:∀ i,i < 5→w.cell? ⟨B,O+i,none⟩=cs[i]?) (hl:cs.length=5):∃ y:Cn,CnP w B O y:=by
 obtain ⟨xs,n,rfl,-,-,hx,hf⟩:=DataW.trod_struct Tryz.underlying52 h
 match cs,hl,xs,hx with
 | [c0,c1,c2,c3,c4],_,[y0,y1],_ =>
   have hk:∀ (i:Nat) (v:Value),i < 5→[c0,c1,c2,c3,c4][i]?=some v→w.cell? ⟨B,O+i,none⟩=some v:=fun i v hi hv=>(hc i hi).trans hv
   have g0:DataW.trod enc Tryz.prog w base spare held n 9 (List.take (Tryz.prog.cellsOf 9) (List.drop 0 [c0,c1,c2,c3,c4]))=some y0:=hf 0 _ rfl
   have g1:DataW.trod enc Tryz.prog w base spare held n 25 (List.take (Tryz.prog.cellsOf 25) (List.drop 1 [c0,c1,c2,c3,c4]))=some y1:=hf 1 _ rfl
   rw [Tryz.cellsS] at g0
   rw [Tryz.cellsE] at g1
   simp only [List.drop,List.take] at g0 g1
   obtain ⟨v0,e0,-,w0⟩:=DataW.trod_string Tryz.underlying9 g0
   obtain ⟨b,o,a,k,hX⟩:=x4_of (w:=w) (B:=B) (O:=O+1) (open_ex _ _ _ g1) (hk 1 _ (by omega) rfl) (hk 2 _ (by omega) rfl) (hk 3 _ (by omega) rfl) (hk 4 _ (by omega) rfl)
   simp only [List.cons.injEq,and_true] at e0
   subst e0
   exact ⟨⟨v0,b,o,a,k⟩,hk 0 _ (by omega) rfl,hX,w0⟩
theorem Tryz.cells_Rule:Tryz.prog.cellsOf 65=6:=by kernel_rfl
theorem open_Rule (m:Nat) (cs:List Value) (x:DataW H × List MemPlace) (B O:Nat) (h:DataW.trod enc Tryz.prog w base spare held m 65 cs=some x) (hc:∀ i,i < 6→w.cell? ⟨B,O+i,none⟩=cs[i]?) (hl:cs.length=6):∃ y:Ru,RuP w B O y:=by
 obtain ⟨xs,n,rfl,-,-,hx,hf⟩:=DataW.trod_struct Tryz.underlying65 h
 match cs,hl,xs,hx with
 | [c0,c1,c2,c3,c4,c5],_,[y0,y1,y2],_ =>
   have hk:∀ (i:Nat) (v:Value),i < 6→[c0,c1,c2,c3,c4,c5][i]?=some v→w.cell? ⟨B,O+i,none⟩=some v:=fun i v hi hv=>(hc i hi).trans hv
   have g0:DataW.trod enc Tryz.prog w base spare held n 3 (List.take (Tryz.prog.cellsOf 3) (List.drop 0 [c0,c1,c2,c3,c4,c5]))=some y0:=hf 0 _ rfl
   have g1:DataW.trod enc Tryz.prog w base spare held n 9 (List.take (Tryz.prog.cellsOf 9) (List.drop 1 [c0,c1,c2,c3,c4,c5]))=some y1:=hf 1 _ rfl
   have g2:DataW.trod enc Tryz.prog w base spare held n 25 (List.take (Tryz.prog.cellsOf 25) (List.drop 2 [c0,c1,c2,c3,c4,c5]))=some y2:=hf 2 _ rfl
   rw [Tryz.cellsI] at g0
   rw [Tryz.cellsS] at g1
   rw [Tryz.cellsE] at g2
   simp only [List.drop,List.take] at g0 g1 g2
   obtain ⟨v0,e0,-,w0⟩:=DataW.trod_int Tryz.underlying3 g0
   obtain ⟨v1,e1,-,w1⟩:=DataW.trod_string Tryz.underlying9 g1
   obtain ⟨b,o,a,k,hX⟩:=x4_of (w:=w) (B:=B) (O:=O+2) (open_ex _ _ _ g2) (hk 2 _ (by omega) rfl) (hk 3 _ (by omega) rfl) (hk 4 _ (by omega) rfl) (hk 5 _ (by omega) rfl)
   simp only [List.cons.injEq,and_true] at e0 e1
   subst e0 e1
   exact ⟨⟨v0,v1,b,o,a,k⟩,hk 0 _ (by omega) rfl,hk 1 _ (by omega) rfl,hX,i64_of_wf w0,w1⟩
theorem Tryz.cells_Cost:Tryz.prog.cellsOf 67=5:=by kernel_rfl
theorem open_Cost (m:Nat) (cs:List Value) (x:DataW H × List MemPlace) (B O:Nat) (h:DataW.trod enc Tryz.prog w base spare held m 67 cs=some x) (hc:∀ i,i < 5→w.cell? ⟨B,O+i,none⟩=cs[i]?) (hl:cs.length=5):∃ y:Co,CoP w B O y:=by
 obtain ⟨xs,n,rfl,-,-,hx,hf⟩:=DataW.trod_struct Tryz.underlying67 h
 match cs,hl,xs,hx with
 | [c0,c1,c2,c3,c4],_,[y0,y1],_ =>
   have hk:∀ (i:Nat) (v:Value),i < 5→[c0,c1,c2,c3,c4][i]?=some v→w.cell? ⟨B,O+i,none⟩=some v:=fun i v hi hv=>(hc i hi).trans hv
   have g0:DataW.trod enc Tryz.prog w base spare held n 3 (List.take (Tryz.prog.cellsOf 3) (List.drop 0 [c0,c1,c2,c3,c4]))=some y0:=hf 0 _ rfl
   have g1:DataW.trod enc Tryz.prog w base spare held n 25 (List.take (Tryz.prog.cellsOf 25) (List.drop 1 [c0,c1,c2,c3,c4]))=some y1:=hf 1 _ rfl
   rw [Tryz.cellsI] at g0
   rw [Tryz.cellsE] at g1
   simp only [List.drop,List.take] at g0 g1
   obtain ⟨v0,e0,-,w0⟩:=DataW.trod_int Tryz.underlying3 g0
   obtain ⟨b,o,a,k,hX⟩:=x4_of (w:=w) (B:=B) (O:=O+1) (open_ex _ _ _ g1) (hk 1 _ (by omega) rfl) (hk 2 _ (by omega) rfl) (hk 3 _ (by omega) rfl) (hk 4 _ (by omega) rfl)
   simp only [List.cons.injEq,and_true] at e0
   subst e0
   exact ⟨⟨v0,b,o,a,k⟩,hk 0 _ (by omega) rfl,hX,i64_of_wf w0⟩
theorem Tryz.cells_Limit:Tryz.prog.cellsOf 96=4:=by kernel_rfl
theorem open_Limit (m:Nat) (cs:List Value) (x:DataW H × List MemPlace) (B O:Nat) (h:DataW.trod enc Tryz.prog w base spare held m 96 cs=some x) (hc:∀ i,i < 4→w.cell? ⟨B,O+i,none⟩=cs[i]?) (hl:cs.length=4):∃ y:Li,LiP w B O y:=by
 obtain ⟨xs,n,rfl,-,-,hx,hf⟩:=DataW.trod_struct Tryz.underlying96 h
 match cs,hl,xs,hx with
 | [c0,c1,c2,c3],_,[y0,y1,y2,y3],_ =>
   have hk:∀ (i:Nat) (v:Value),i < 4→[c0,c1,c2,c3][i]?=some v→w.cell? ⟨B,O+i,none⟩=some v:=fun i v hi hv=>(hc i hi).trans hv
   have g0:DataW.trod enc Tryz.prog w base spare held n 9 (List.take (Tryz.prog.cellsOf 9) (List.drop 0 [c0,c1,c2,c3]))=some y0:=hf 0 _ rfl
   have g1:DataW.trod enc Tryz.prog w base spare held n 9 (List.take (Tryz.prog.cellsOf 9) (List.drop 1 [c0,c1,c2,c3]))=some y1:=hf 1 _ rfl
   have g2:DataW.trod enc Tryz.prog w base spare held n 3 (List.take (Tryz.prog.cellsOf 3) (List.drop 2 [c0,c1,c2,c3]))=some y2:=hf 2 _ rfl
   have g3:DataW.trod enc Tryz.prog w base spare held n 3 (List.take (Tryz.prog.cellsOf 3) (List.drop 3 [c0,c1,c2,c3]))=some y3:=hf 3 _ rfl
   rw [Tryz.cellsS] at g0
   rw [Tryz.cellsS] at g1
   rw [Tryz.cellsI] at g2
   rw [Tryz.cellsI] at g3
   simp only [List.drop,List.take] at g0 g1 g2 g3
   obtain ⟨v0,e0,-,w0⟩:=DataW.trod_string Tryz.underlying9 g0
   obtain ⟨v1,e1,-,w1⟩:=DataW.trod_string Tryz.underlying9 g1
   obtain ⟨v2,e2,-,w2⟩:=DataW.trod_int Tryz.underlying3 g2
   obtain ⟨v3,e3,-,w3⟩:=DataW.trod_int Tryz.underlying3 g3
   simp only [List.cons.injEq,and_true] at e0 e1 e2 e3
   subst e0 e1 e2 e3
   exact ⟨⟨v0,v1,v2,v3⟩,hk 0 _ (by omega) rfl,hk 1 _ (by omega) rfl,hk 2 _ (by omega) rfl,hk 3 _ (by omega) rfl,i64_of_wf w2,i64_of_wf w3,w0,w1⟩
theorem Tryz.cells_Off:Tryz.prog.cellsOf 99=3:=by kernel_rfl
theorem open_Off (m:Nat) (cs:List Value) (x:DataW H × List MemPlace) (B O:Nat) (h:DataW.trod enc Tryz.prog w base spare held m 99 cs=some x) (hc:∀ i,i < 3→w.cell? ⟨B,O+i,none⟩=cs[i]?) (hl:cs.length=3):∃ y:Of,OfP w B O y:=by
 obtain ⟨xs,n,rfl,-,-,hx,hf⟩:=DataW.trod_struct Tryz.underlying99 h
 match cs,hl,xs,hx with
 | [c0,c1,c2],_,[y0,y1,y2],_ =>
   have hk:∀ (i:Nat) (v:Value),i < 3→[c0,c1,c2][i]?=some v→w.cell? ⟨B,O+i,none⟩=some v:=fun i v hi hv=>(hc i hi).trans hv
   have g0:DataW.trod enc Tryz.prog w base spare held n 9 (List.take (Tryz.prog.cellsOf 9) (List.drop 0 [c0,c1,c2]))=some y0:=hf 0 _ rfl
   have g1:DataW.trod enc Tryz.prog w base spare held n 3 (List.take (Tryz.prog.cellsOf 3) (List.drop 1 [c0,c1,c2]))=some y1:=hf 1 _ rfl
   have g2:DataW.trod enc Tryz.prog w base spare held n 3 (List.take (Tryz.prog.cellsOf 3) (List.drop 2 [c0,c1,c2]))=some y2:=hf 2 _ rfl
   rw [Tryz.cellsS] at g0
   rw [Tryz.cellsI] at g1
   rw [Tryz.cellsI] at g2
   simp only [List.drop,List.take] at g0 g1 g2
   obtain ⟨v0,e0,-,w0⟩:=DataW.trod_string Tryz.underlying9 g0
   obtain ⟨v1,e1,-,w1⟩:=DataW.trod_int Tryz.underlying3 g1
   obtain ⟨v2,e2,-,w2⟩:=DataW.trod_int Tryz.underlying3 g2
   simp only [List.cons.injEq,and_true] at e0 e1 e2
   subst e0 e1 e2
   exact ⟨⟨v0,v1,v2⟩,hk 0 _ (by omega) rfl,hk 1 _ (by omega) rfl,hk 2 _ (by omega) rfl,i64_of_wf w1,i64_of_wf w2,w0⟩
theorem Tryz.cells_Ct:Tryz.prog.cellsOf 44=14:=by kernel_rfl
theorem Tryz.cells_Consts:Tryz.prog.cellsOf 22=1:=by kernel_rfl
theorem Tryz.cells_Rules:Tryz.prog.cellsOf 39=1:=by kernel_rfl
theorem Tryz.cells_Costs:Tryz.prog.cellsOf 40=1:=by kernel_rfl
theorem Tryz.cells_Limits:Tryz.prog.cellsOf 41=1:=by kernel_rfl
theorem Tryz.cells_Offs:Tryz.prog.cellsOf 42=1:=by kernel_rfl
theorem open_contract {v:Value} {d:DataW H} {pl:List MemPlace} {r:Reach} {b0:Nat} (hv:Value.okWide Tryz.prog w r b0 44 v) (h:DataW.Trod enc Tryz.prog w base spare held 44 v d pl) :
 ∃ (c:Ct) (p:Cp),v=.agg #[.int .i64 c.rep,.int .i64 c.rel,.int .i64 c.con,.int .i64 c.sit,.int .i64 c.lay,.int .i64 c.nf,.int .i64 c.nt,.slice p.cs c.cs.length p.ccs,.slice p.rs c.rs.length p.crs,.slice p.os c.os.length p.cos,.slice p.cr (len c.cr) p.ccr,.slice p.ls c.ls.length p.cls,.slice p.fs c.fs.length p.cfs,.int .i64 c.gua]∧CtV w c p:=by
 obtain ⟨⟨l⟩,rfl,hsz⟩:=okWide_struct Tryz.underlying44 hv
 obtain ⟨fuel,hf0⟩:=h
 have hf1:DataW.trod enc Tryz.prog w base spare held fuel 44 l=some (d,pl):=hf0
 obtain ⟨xs,n,rfl,-,h14,hx,hf⟩:=DataW.trod_struct Tryz.underlying44 hf1
 rw [Tryz.cells_Ct] at h14
 clear hf0 hf1 hsz hv
 match l,h14,xs,hx with
 | [c0,c1,c2,c3,c4,c5,c6,c7,c8,c9,c10,c11,c12,c13],_,[y0,y1,y2,y3,y4,y5,y6,y7,y8,y9,y10,y11,y12,y13],_ =>
   have g0:DataW.trod enc Tryz.prog w base spare held n 3 (List.take (Tryz.prog.cellsOf 3) (List.drop 0 [c0,c1,c2,c3,c4,c5,c6,c7,c8,c9,c10,c11,c12,c13]))=some y0:=hf 0 _ rfl
   have g1:DataW.trod enc Tryz.prog w base spare held n 3 (List.take (Tryz.prog.cellsOf 3) (List.drop 1 [c0,c1,c2,c3,c4,c5,c6,c7,c8,c9,c10,c11,c12,c13]))=some y1:=hf 1 _ rfl
   have g2:DataW.trod enc Tryz.prog w base spare held n 3 (List.take (Tryz.prog.cellsOf 3) (List.drop 2 [c0,c1,c2,c3,c4,c5,c6,c7,c8,c9,c10,c11,c12,c13]))=some y2:=hf 2 _ rfl
   have g3:DataW.trod enc Tryz.prog w base spare held n 3 (List.take (Tryz.prog.cellsOf 3) (List.drop 3 [c0,c1,c2,c3,c4,c5,c6,c7,c8,c9,c10,c11,c12,c13]))=some y3:=hf 3 _ rfl
   have g4:DataW.trod enc Tryz.prog w base spare held n 3 (List.take (Tryz.prog.cellsOf 3) (List.drop 4 [c0,c1,c2,c3,c4,c5,c6,c7,c8,c9,c10,c11,c12,c13]))=some y4:=hf 4 _ rfl
   have g5:DataW.trod enc Tryz.prog w base spare held n 3 (List.take (Tryz.prog.cellsOf 3) (List.drop 5 [c0,c1,c2,c3,c4,c5,c6,c7,c8,c9,c10,c11,c12,c13]))=some y5:=hf 5 _ rfl
   have g6:DataW.trod enc Tryz.prog w base spare held n 3 (List.take (Tryz.prog.cellsOf 3) (List.drop 6 [c0,c1,c2,c3,c4,c5,c6,c7,c8,c9,c10,c11,c12,c13]))=some y6:=hf 6 _ rfl
   have g7:DataW.trod enc Tryz.prog w base spare held n 22 (List.take (Tryz.prog.cellsOf 22) (List.drop 7 [c0,c1,c2,c3,c4,c5,c6,c7,c8,c9,c10,c11,c12,c13]))=some y7:=hf 7 _ rfl
   have g8:DataW.trod enc Tryz.prog w base spare held n 39 (List.take (Tryz.prog.cellsOf 39) (List.drop 8 [c0,c1,c2,c3,c4,c5,c6,c7,c8,c9,c10,c11,c12,c13]))=some y8:=hf 8 _ rfl
   have g9:DataW.trod enc Tryz.prog w base spare held n 40 (List.take (Tryz.prog.cellsOf 40) (List.drop 9 [c0,c1,c2,c3,c4,c5,c6,c7,c8,c9,c10,c11,c12,c13]))=some y9:=hf 9 _ rfl
   have g10:DataW.trod enc Tryz.prog w base spare held n 23 (List.take (Tryz.prog.cellsOf 23) (List.drop 10 [c0,c1,c2,c3,c4,c5,c6,c7,c8,c9,c10,c11,c12,c13]))=some y10:=hf 10 _ rfl
   have g11:DataW.trod enc Tryz.prog w base spare held n 41 (List.take (Tryz.prog.cellsOf 41) (List.drop 11 [c0,c1,c2,c3,c4,c5,c6,c7,c8,c9,c10,c11,c12,c13]))=some y11:=hf 11 _ rfl
   have g12:DataW.trod enc Tryz.prog w base spare held n 42 (List.take (Tryz.prog.cellsOf 42) (List.drop 12 [c0,c1,c2,c3,c4,c5,c6,c7,c8,c9,c10,c11,c12,c13]))=some y12:=hf 12 _ rfl
   have g13:DataW.trod enc Tryz.prog w base spare held n 3 (List.take (Tryz.prog.cellsOf 3) (List.drop 13 [c0,c1,c2,c3,c4,c5,c6,c7,c8,c9,c10,c11,c12,c13]))=some y13:=hf 13 _ rfl
   rw [Tryz.cellsI] at g0
   rw [Tryz.cellsI] at g1
   rw [Tryz.cellsI] at g2
   rw [Tryz.cellsI] at g3
   rw [Tryz.cellsI] at g4
   rw [Tryz.cellsI] at g5
   rw [Tryz.cellsI] at g6
   rw [Tryz.cells_Consts] at g7
   rw [Tryz.cells_Rules] at g8
   rw [Tryz.cells_Costs] at g9
   rw [Tryz.cellsL] at g10
   rw [Tryz.cells_Limits] at g11
   rw [Tryz.cells_Offs] at g12
   rw [Tryz.cellsI] at g13
   simp only [List.drop,List.take] at g0 g1 g2 g3 g4 g5 g6 g7 g8 g9 g10 g11 g12 g13
   obtain ⟨v0,e0,-,w0⟩:=DataW.trod_int Tryz.underlying3 g0
   obtain ⟨v1,e1,-,w1⟩:=DataW.trod_int Tryz.underlying3 g1
   obtain ⟨v2,e2,-,w2⟩:=DataW.trod_int Tryz.underlying3 g2
   obtain ⟨v3,e3,-,w3⟩:=DataW.trod_int Tryz.underlying3 g3
   obtain ⟨v4,e4,-,w4⟩:=DataW.trod_int Tryz.underlying3 g4
   obtain ⟨v5,e5,-,w5⟩:=DataW.trod_int Tryz.underlying3 g5
   obtain ⟨v6,e6,-,w6⟩:=DataW.trod_int Tryz.underlying3 g6
   obtain ⟨L7,p7,cap7,e7,hr7,hc7⟩:=open_row CnP 5 22 52 Tryz.underlying22 Tryz.cells_Const (by omega) open_Const n _ _ g7
   obtain ⟨L8,p8,cap8,e8,hr8,hc8⟩:=open_row RuP 6 39 65 Tryz.underlying39 Tryz.cells_Rule (by omega) open_Rule n _ _ g8
   obtain ⟨L9,p9,cap9,e9,hr9,hc9⟩:=open_row CoP 5 40 67 Tryz.underlying40 Tryz.cells_Cost (by omega) open_Cost n _ _ g9
   obtain ⟨cr,pcr,ccr,kb,ko,e10,hp10,hat10,hok10,hl10,-⟩:=open_sl n (fun m _=>open_ex m) _ _ g10
   obtain ⟨L11,p11,cap11,e11,hr11,hc11⟩:=open_row LiP 4 41 96 Tryz.underlying41 Tryz.cells_Limit (by omega) open_Limit n _ _ g11
   obtain ⟨L12,p12,cap12,e12,hr12,hc12⟩:=open_row OfP 3 42 99 Tryz.underlying42 Tryz.cells_Off (by omega) open_Off n _ _ g12
   obtain ⟨v13,e13,-,w13⟩:=DataW.trod_int Tryz.underlying3 g13
   simp only [List.cons.injEq,and_true] at e0 e1 e2 e3 e4 e5 e6 e7 e8 e9 e10 e11 e12 e13
   subst e0 e1 e2 e3 e4 e5 e6 e7 e8 e9 e10 e11 e12 e13
   exact ⟨⟨v0,v1,v2,v3,v4,v5,v6,v13,L7,L8,L9,cr,L11,L12⟩,⟨p7,p8,p9,pcr,p11,p12,cap7,cap8,cap9,ccr,cap11,cap12⟩,rfl,⟨hr7,hr8,hr9,⟨hl10,hok10,kb,ko,hp10,hat10⟩,hr11,hr12,⟨i64_of_wf w0,i64_of_wf w1,i64_of_wf w2,i64_of_wf w3,i64_of_wf w4,i64_of_wf w5,i64_of_wf w6,i64_of_wf w13⟩,hc7⟩⟩
end
end
end Go.Proofs.YtfoedbfkddoibaaGreat
