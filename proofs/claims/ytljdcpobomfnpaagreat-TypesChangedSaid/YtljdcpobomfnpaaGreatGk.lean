import Derived.Orders
import Derived.Below
import Derived.WalkKit
import Derived.Test.YtljdcpobomfnpaaGreatKtd
import Derived.Test.YtljdcpobomfnpaaGreatGh
import Derived.Test.YtljdcpobomfnpaaGreatTyo
import Derived.Test.YtljdcpobomfnpaaGreatGe
import Derived.Laws.BitsLemmas
namespace Go.Proofs.YtljdcpobomfnpaaGreat
set_option linter.unusedVariables false
set_option linter.unusedSimpArgs false
open Go Go.RowKit
def Ext (w w':World):Prop:=Below w.heap.size w w'
theorem Ext.refl (w:World):Ext w w:=Below.refl _ _
theorem Ext.trans {a b c:World} (h:Ext a b) (k:Ext b c):Ext a c:=Below.trans h (Below.mono k h.size)
theorem Ext.alloc (w:World) (o:Obj):Ext w (w.alloc o):=(Below.refl _ _).alloc (Nat.le_refl _) o
section
variable {P:Program} {ops:Array Oper} {Q:Exit→Act→World→Prop}
theorem ready_spec {md:Region.Mode} {listed:Array Bool} {i:Nat} (h:i ∈ Region.ready md ops listed):∃ o,ops[i]?=some o∧listed.getD i true=false∧∀ e ∈ o.after,Region.binds md e=true→listed.getD e.on false=true:=by
 unfold Region.ready at h
 rw [List.mem_filter] at h
 obtain ⟨-,h2⟩:=h
 rw [Bool.and_eq_true] at h2
 cases ho:ops[i]? with
 | none=>rw [ho] at h2;simp at h2
 | some o =>
   rw [ho] at h2
   refine ⟨o,rfl,by simpa using h2.1,fun e he hb=>?_⟩
   have h3:=h2.2
   simp only [Option.map_some,Option.getD_some] at h3
   rw [Array.all_eq_true_iff_forall_mem] at h3
   have h4:=h3 e he
   rw [hb] at h4
   simpa using h4
theorem ready_of {md:Region.Mode} {listed:Array Bool} {i:Nat} {o:Oper} (ho:ops[i]?=some o) (hl:listed.getD i true=false) (ha:∀ e ∈ o.after,Region.binds md e=true→listed.getD e.on false=true):i ∈ Region.ready md ops listed:=by
 unfold Region.ready
 rw [List.mem_filter]
 refine ⟨List.mem_range.2 (Array.getElem?_eq_some_iff.1 ho).1,?_⟩
 rw [Bool.and_eq_true,ho,hl]
 refine ⟨rfl,?_⟩
 simp only [Option.map_some,Option.getD_some]
 rw [Array.all_eq_true_iff_forall_mem]
 intro e he
 cases hb:Region.binds md e with
 | false=>rfl
 | true=>rw [ha e he hb];rfl
def left (l:List Bool):Nat:=(l.filter (fun b=>!b)).length
theorem left_set (l:List Bool) (i:Nat) (h:l[i]?=some false):left (l.set i true)+1=left l:=by
 induction l generalizing i with
 | nil=>simp at h
 | cons b l ih =>
   cases i with
   | zero=>simp at h;subst h;simp [left]
   | succ i =>
     have:=ih i (by simpa using h)
     cases b<;>simp [left] at this ⊢<;>omega
theorem left_zero (l:List Bool) (h:left l=0) (i:Nat):l.getD i true=true:=by
 induction l generalizing i with
 | nil=>rfl
 | cons b l ih =>
   cases b with
   | false=>simp [left] at h
   | true =>
     cases i with
     | zero=>rfl
     | succ i=>simpa using ih (by simpa [left] using h) i
theorem getD_toList (l:Array Bool) (i:Nat) (d:Bool):l.getD i d=l.toList.getD i d:=by
 rw [Array.getD_eq_getD_getElem?,List.getD_eq_getElem?_getD,Array.getElem?_toList]
theorem unlisted {l:Array Bool} {i:Nat} (h:l.getD i true=false):l.toList[i]?=some false:=by
 rw [getD_toList,List.getD_eq_getElem?_getD] at h
 cases q:l.toList[i]? with
 | none=>rw [q] at h;cases h
 | some b=>rw [q] at h;cases b<;>first|rfl|cases h
theorem wpAny_inv (I:Array Bool→Act→World→Prop)
 (hstep:∀ listed a w i,I listed a w→i ∈ Region.ready .any ops listed→wpOp P ops Q i (fun a' w'=>I (listed.setIfInBounds i true) a' w') a w)
 (hdone:∀ listed a w,I listed a w→Region.ready .any ops listed=[]→Q .normal a w) :
 ∀ fuel listed a w,left listed.toList≤fuel→I listed a w→wpAny P .any ops Q fuel listed a w:=by
 intro fuel
 induction fuel with
 | zero =>
   intro listed a w hl hI
   have hr:Region.ready .any ops listed=[]:=by
    rw [List.eq_nil_iff_forall_not_mem]
    intro i hi
    obtain ⟨o,-,h2,-⟩:=ready_spec hi
    rw [getD_toList,left_zero _ (by omega)] at h2
    cases h2
   exact ⟨hr,hdone listed a w hI hr⟩
 | succ fuel ih =>
   intro listed a w hl hI
   refine ⟨hdone listed a w hI,fun i hi=>?_⟩
   obtain ⟨o,-,h2,-⟩:=ready_spec hi
   have h3:=left_set _ _ (unlisted h2)
   refine wpOp_mono (fun a' w' h'=>ih _ a' w' ?_ h') (hstep listed a w i hI hi)
   rw [Array.toList_setIfInBounds]
   omega
structure PInv (ops:Array Oper) (src:Nat→Option Nat) (G:Nat→Value→World→Prop) (s0:Array Value) (d0:List Deferred) (w0:World) (listed:Array Bool) (a:Act) (w:World):Prop where
 ls:listed.size=ops.size
 sz:a.tmps.size=s0.size
 df:a.defers=d0
 ex:Ext w0 w
 sl:∀ t i,src t=some i→listed.getD i false=true→G i (a.tmps.getD t undef) w
 un:∀ t i,src t=some i→listed.getD i false=false→a.tmps.getD t undef=s0.getD t undef
 ol:∀ t,src t=none→a.tmps.getD t undef=s0.getD t undef
 cl:∀ e o,ops[e]?=some o→listed.getD e false=true→∀ x ∈ o.after,Region.binds .any x=true→listed.getD x.on false=true
def StepOk (P:Program) (ops:Array Oper) (Q:Exit→Act→World→Prop) (src:Nat→Option Nat) (G:Nat→Value→World→Prop) (s0:Array Value) (w0:World) (i:Nat) (o:Oper):Prop :=
 ∀ (a:Act) (w:World),Ext w0 w→(∀ t,src t=none→a.tmps.getD t undef=s0.getD t undef) →
   (∀ t e,src t=some e→(o.after.toList.any fun x=>x.on==e && Region.binds .any x)=true→G e (a.tmps.getD t undef) w) →
   (∀ t e,src t=some e→((ops[e]?).any fun p=>p.after.toList.any fun x=>x.on==i && Region.binds .any x)=true→a.tmps.getD t undef=s0.getD t undef) →
   Region.wanted o (yielded ops a.tmps)=true∧o.wp P a w (fun a' w'=>∃ v,a'=a.put o.dst v∧Ext w w'∧(o.dst.isSome=true→G i v w')) Q
def frameOf (s0:Array Value) (src:Nat→Option Nat) (x:Nat→Value):Array Value:=(s0.toList.mapIdx fun t v=>match src t with|some _=>x t|none=>v).toArray
theorem getD_set (l:Array Bool) (i j:Nat):(l.setIfInBounds i true).getD j false=true↔(j=i∧i < l.size)∨l.getD j false=true:=by
 rw [Array.getD_eq_getD_getElem?,Array.getD_eq_getD_getElem?,Array.getElem?_setIfInBounds]
 by_cases h:i=j
 · subst h
   by_cases q:i < l.size
   · simp [q]
   · simp [q]
 · have:¬ j=i:=fun e=>h e.symm
   simp [h,this]
theorem put_getD (a:Act) (d t:Nat) (v:Value):(a.put (some d) v).tmps.getD t undef=if d=t∧d < a.tmps.size then v else a.tmps.getD t undef:=by
 show (a.tmps.setIfInBounds d v).getD t undef=_
 rw [Array.getD_eq_getD_getElem?,Array.getD_eq_getD_getElem?,Array.getElem?_setIfInBounds]
 by_cases h:d=t
 · subst h
   by_cases q:d < a.tmps.size
   · simp [q]
   · simp [q]
 · simp [h]
def PureOk (P:Program) (ops:Array Oper) (Q:Exit→Act→World→Prop) (src:Nat→Option Nat) (G:Nat→Value→World→Prop) (s0:Array Value) (w0:World) (i:Nat) (o:Oper):Prop :=
 ∀ (a:Act) (w1 w:World),Ext w0 w1→(∀ t,src t=none→a.tmps.getD t undef=s0.getD t undef) →
   (∀ t e,src t=some e→(o.after.toList.any fun x=>x.on==e && Region.binds .any x)=true→G e (a.tmps.getD t undef) w1) →
   (∀ t e,src t=some e→((ops[e]?).any fun p=>p.after.toList.any fun x=>x.on==i && Region.binds .any x)=true→a.tmps.getD t undef=s0.getD t undef) →
   Region.wanted o (yielded ops a.tmps)=true∧o.wp P a w (fun a' w'=>∃ v,a'=a.put o.dst v∧w'=w∧(o.dst.isSome=true→G i v w1)) Q
def LastOk (P:Program) (ops:Array Oper) (Q:Exit→Act→World→Prop) (src:Nat→Option Nat) (G:Nat→Value→World→Prop) (F:(Nat→Value)→World→World→Prop) (s0:Array Value) (w0:World) (i:Nat) (o:Oper):Prop :=
 ∀ (a:Act) (w:World),Ext w0 w→(∀ t,src t=none→a.tmps.getD t undef=s0.getD t undef) →
   (∀ t e,src t=some e→(o.after.toList.any fun x=>x.on==e && Region.binds .any x)=true→G e (a.tmps.getD t undef) w) →
   (∀ t e,src t=some e→((ops[e]?).any fun p=>p.after.toList.any fun x=>x.on==i && Region.binds .any x)=true→a.tmps.getD t undef=s0.getD t undef) →
   Region.wanted o (yielded ops a.tmps)=true∧o.wp P a w (fun a' w'=>∃ v,a'=a.put o.dst v∧(o.dst.isSome=true→G i v w)∧F (fun t=>(a.put o.dst v).tmps.getD t undef) w w') Q
theorem wp_region_plan {id:Nat} {a0:Act} {w:World} (hm:P.follows .mixedOrders=true) (src:Nat→Option Nat) (G:Nat→Value→World→Prop) (z:Nat) (F:(Nat→Value)→World→World→Prop)
 (hG:∀ i v w w',G i v w→Ext w w'→G i v w')
 (hsrc:∀ i o d,ops[i]?=some o→o.dst=some d→src d=some i∧d < a0.tmps.size)
 (hlow:∀ i o,ops[i]?=some o→∀ x ∈ o.after,Region.binds .any x=true→x.on < i)
 (hall:∀ t i,src t=some i→∃ o,ops[i]?=some o∧o.dst=some t)
 (hF:∀ x x' w1 w',(∀ t,(src t=none∨∃ e,src t=some e∧(e=z∨((ops[z]?).any fun p=>p.after.toList.any fun x=>x.on==e && Region.binds .any x)=true))→x t=x' t)→F x w1 w'→F x' w1 w')
 (hst:∀ i o,ops[i]?=some o→i≠z→StepOk P ops Q src G a0.tmps w.drew i o)
 (hpu:∀ i o,ops[i]?=some o→i≠z→((ops[z]?).any fun p=>p.after.toList.any fun x=>x.on==i && Region.binds .any x)=true∨ops.size≤z∨PureOk P ops Q src G a0.tmps w.drew i o)
 (hla:∀ o,ops[z]?=some o→LastOk P ops Q src G F a0.tmps w.drew z o)
 (hfin:∀ (x:Nat→Value) (w1 w':World),Ext w.drew w1→(∀ t i,src t=some i→G i (x t) w1)→(z < ops.size→F x w1 w')→(ops.size≤z→w'=w1)→Q .normal ⟨frameOf a0.tmps src x,a0.defers⟩ w') :
 (Code.region id ops true).wp P Q a0 w:=by
 refine wp_region_any hm ?_
 refine wpAny_inv (fun listed a w'=>∃ w1,PInv ops src G a0.tmps a0.defers w.drew listed a w1∧((listed.getD z false=false∧w'=w1)∨(listed.getD z false=true∧F (fun t=>a.tmps.getD t undef) w1 w'))) ?_ ?_ ops.size _ a0 _ ?_ ?_
 · rintro listed a w2 i ⟨w1,hI,hZ⟩ hi
   obtain ⟨o,ho,hl,haf⟩:=ready_spec hi
   have hil:i < listed.size:=by
    by_cases q:i < listed.size
    · exact q
    · rw [Array.getD_eq_getD_getElem?,Array.getElem?_eq_none (by omega)] at hl;cases hl
   have hl2:listed.getD i false=false:=by
    rw [Array.getD_eq_getD_getElem?,Array.getElem?_eq_getElem hil] at hl ⊢;simpa using hl
   have hdep:∀ t e,src t=some e→(o.after.toList.any fun x=>x.on==e && Region.binds .any x)=true→G e (a.tmps.getD t undef) w1:=fun t e hs ha=>by
    rw [List.any_eq_true] at ha
    obtain ⟨x,hx,hq⟩:=ha
    rw [Bool.and_eq_true] at hq
    have:=haf x (by simpa using hx) hq.2
    rw [eq_of_beq hq.1] at this
    exact hI.sl t e hs this
   have hwar:∀ t e,src t=some e→((ops[e]?).any fun p=>p.after.toList.any fun x=>x.on==i && Region.binds .any x)=true→a.tmps.getD t undef=a0.tmps.getD t undef:=fun t e hs ha=>by
    cases hp:ops[e]? with
    | none=>rw [hp] at ha;cases ha
    | some p =>
      rw [hp] at ha
      have ha':(p.after.toList.any fun x=>x.on==i && Region.binds .any x)=true:=ha
      rw [List.any_eq_true] at ha'
      obtain ⟨x,hx,hq⟩:=ha'
      rw [Bool.and_eq_true] at hq
      refine hI.un t e hs ?_
      cases hle:listed.getD e false with
      | false=>rfl
      | true =>
        have:=hI.cl e p hp hle x (by simpa using hx) hq.2
        rw [eq_of_beq hq.1,hl2] at this
        cases this
   have key : ∀ v w1',Ext w1 w1'→(o.dst.isSome=true→G i v w1')→PInv ops src G a0.tmps a0.defers w.drew (listed.setIfInBounds i true) (a.put o.dst v) w1':=by
    intro v w1' hext hg
    refine ⟨by rw [Array.size_setIfInBounds];exact hI.ls,?_,?_,hI.ex.trans hext,?_,?_,?_,?_⟩
    · cases o.dst with
      | none=>exact hI.sz
      | some d=>show (a.tmps.setIfInBounds d v).size=_;rw [Array.size_setIfInBounds];exact hI.sz
    · cases o.dst with
      | none=>exact hI.df
      | some d=>exact hI.df
    · intro t j hs hj
      by_cases hji:j=i
      · subst hji
        obtain ⟨o2,ho2,hd2⟩:=hall t j hs
        rw [ho] at ho2
        cases ho2
        rw [hd2,put_getD,if_pos ⟨rfl,by rw [hI.sz];exact (hsrc j o t ho hd2).2⟩]
        exact hg (by rw [hd2];rfl)
      · rw [getD_set] at hj
        rcases hj with ⟨e,-⟩|hj
        · exact absurd e hji
        · have h9:=hI.sl t j hs hj
          have e9:(a.put o.dst v).tmps.getD t undef=a.tmps.getD t undef:=by
           cases hd:o.dst with
           | none=>rfl
           | some d =>
             rw [put_getD,if_neg]
             rintro ⟨rfl,-⟩
             rw [(hsrc i o d ho hd).1] at hs
             exact hji (Option.some.inj hs).symm
          rw [e9]
          exact hG j _ _ _ h9 hext
    · intro t j hs hj
      have hji:j≠i:=by
       rintro rfl
       have:(listed.setIfInBounds j true).getD j false=true:=(getD_set _ _ _).2 (.inl ⟨rfl,hil⟩)
       rw [this] at hj;cases hj
      have hj2:listed.getD j false=false:=by
       cases q:listed.getD j false with
       | false=>rfl
       | true =>
         have:(listed.setIfInBounds i true).getD j false=true:=(getD_set _ _ _).2 (.inr q)
         rw [this] at hj;cases hj
      have e9:(a.put o.dst v).tmps.getD t undef=a.tmps.getD t undef:=by
       cases hd:o.dst with
       | none=>rfl
       | some d =>
         rw [put_getD,if_neg]
         rintro ⟨rfl,-⟩
         rw [(hsrc i o d ho hd).1] at hs
         exact hji (Option.some.inj hs).symm
      rw [e9]
      exact hI.un t j hs hj2
    · intro t hs
      have e9:(a.put o.dst v).tmps.getD t undef=a.tmps.getD t undef:=by
       cases hd:o.dst with
       | none=>rfl
       | some d =>
         rw [put_getD,if_neg]
         rintro ⟨rfl,-⟩
         rw [(hsrc i o d ho hd).1] at hs
         cases hs
      rw [e9]
      exact hI.ol t hs
    · intro e p hp he x hx hb
      rw [getD_set]
      right
      rw [getD_set] at he
      rcases he with ⟨rfl,-⟩|he
      · rw [ho] at hp
        cases hp
        exact haf x hx hb
      · exact hI.cl e p hp he x hx hb
   by_cases hiz:i=z
   · subst hiz
     rcases hZ with ⟨-,rfl⟩|⟨h,-⟩
     · obtain ⟨h1,h2⟩:=hla o ho a w2 hI.ex hI.ol hdep hwar
       unfold wpOp
       rw [ho]
       simp only [h1,if_true]
       refine .inl (Oper.wp_mono ?_ h2)
       rintro a' w' ⟨v,rfl,hg,hf⟩
       exact ⟨w2,key v w2 (Ext.refl _) hg,.inr ⟨(getD_set _ _ _).2 (.inl ⟨rfl,hil⟩),hf⟩⟩
     · rw [h] at hl2;cases hl2
   · have hz' : (listed.setIfInBounds i true).getD z false=listed.getD z false:=by
      cases q:listed.getD z false with
      | true=>exact (getD_set _ _ _).2 (.inr q)
      | false =>
        cases q2:(listed.setIfInBounds i true).getD z false with
        | false=>rfl
        | true =>
          rcases (getD_set _ _ _).1 q2 with ⟨e,-⟩|e
          · exact absurd e.symm hiz
          · rw [q] at e;cases e
     rcases hZ with ⟨hz0,rfl⟩|⟨hz1,hf⟩
     · obtain ⟨h1,h2⟩:=hst i o ho hiz a w2 hI.ex hI.ol hdep hwar
       unfold wpOp
       rw [ho]
       simp only [h1,if_true]
       refine .inl (Oper.wp_mono ?_ h2)
       rintro a' w' ⟨v,rfl,hext,hg⟩
       exact ⟨w',key v w' hext hg,.inl ⟨by rw [hz'];exact hz0,rfl⟩⟩
     · rcases hpu i o ho hiz with hb|hb|hb
       · exfalso
         cases hp:ops[z]? with
         | none=>rw [hp] at hb;cases hb
         | some p =>
           rw [hp] at hb
           have hb':(p.after.toList.any fun x=>x.on==i && Region.binds .any x)=true:=hb
           rw [List.any_eq_true] at hb'
           obtain ⟨x,hx,hq⟩:=hb'
           rw [Bool.and_eq_true] at hq
           have:=hI.cl z p hp hz1 x (by simpa using hx) hq.2
           rw [eq_of_beq hq.1,hl2] at this
           cases this
       · exfalso
         rw [Array.getD_eq_getD_getElem?,Array.getElem?_eq_none (by rw [hI.ls];exact hb)] at hz1
         cases hz1
       · obtain ⟨h1,h2⟩:=hb a w1 w2 hI.ex hI.ol hdep hwar
         unfold wpOp
         rw [ho]
         simp only [h1,if_true]
         refine .inl (Oper.wp_mono ?_ h2)
         rintro a' w' ⟨v,rfl,rfl,hg⟩
         refine ⟨w1,key v w1 (Ext.refl _) hg,.inr ⟨by rw [hz'];exact hz1,hF _ _ _ _ ?_ hf⟩⟩
         intro t ht
         cases hd:o.dst with
         | none=>rfl
         | some d =>
           rw [put_getD,if_neg]
           rintro ⟨rfl,-⟩
           have hs:=(hsrc i o d ho hd).1
           rcases ht with ht|⟨e,he,hee⟩
           · rw [hs] at ht;cases ht
           · rw [hs] at he
             obtain rfl:i=e:=Option.some.inj he
             rcases hee with rfl|hee
             · exact hiz rfl
             · cases hp:ops[z]? with
               | none=>rw [hp] at hee;cases hee
               | some p =>
                 rw [hp] at hee
                 have hb':(p.after.toList.any fun x=>x.on==i && Region.binds .any x)=true:=hee
                 rw [List.any_eq_true] at hb'
                 obtain ⟨x,hx,hq⟩:=hb'
                 rw [Bool.and_eq_true] at hq
                 have:=hI.cl z p hp hz1 x (by simpa using hx) hq.2
                 rw [eq_of_beq hq.1,hl2] at this
                 cases this
 · rintro listed a w2 ⟨w1,hI,hZ⟩ hr
   have hlist:∀ i o,ops[i]?=some o→listed.getD i false=true:=by
    intro i
    induction i using Nat.strongRecOn with
    | _ i ih =>
      intro o ho
      have hi:i < ops.size:=(Array.getElem?_eq_some_iff.1 ho).1
      cases hq:listed.getD i false with
      | true=>rfl
      | false =>
        exfalso
        have hl:listed.getD i true=false:=by
         rw [Array.getD_eq_getD_getElem?,Array.getElem?_eq_getElem (by rw [hI.ls];exact hi)] at hq ⊢
         simpa using hq
        have:i ∈ Region.ready .any ops listed:=ready_of ho hl (fun x hx hb=>by
         have hlt:=hlow i o ho x hx hb
         obtain ⟨p,hp⟩:∃ p,ops[x.on]?=some p:=⟨_,Array.getElem?_eq_getElem (by omega)⟩
         exact ih x.on hlt p hp)
        rw [hr] at this
        cases this
   have hsl:∀ t i,src t=some i→G i (a.tmps.getD t undef) w1:=by
    intro t i hs
    obtain ⟨o,ho,-⟩:=hall t i hs
    exact hI.sl t i hs (hlist i o ho)
   have hfr:a.tmps=frameOf a0.tmps src (fun t=>a.tmps.getD t undef):=by
    apply Array.ext
    · unfold frameOf;simp;exact hI.sz
    · intro t h1 h2
      unfold frameOf
      simp only [List.getElem_toArray,List.getElem_mapIdx]
      cases hs:src t with
      | some i=>simp [Array.getD,h1,hs]
      | none =>
        have h9:=hI.ol t hs
        have h3:t < a0.tmps.size:=by rw [← hI.sz];exact h1
        rw [Array.getD_eq_getD_getElem?,Array.getD_eq_getD_getElem?,Array.getElem?_eq_getElem h1,Array.getElem?_eq_getElem h3] at h9
        simpa [hs] using h9
   have := hfin (fun t=>a.tmps.getD t undef) w1 w2 hI.ex hsl (fun hz=>by
    obtain ⟨o,ho⟩:∃ o,ops[z]?=some o:=⟨_,Array.getElem?_eq_getElem hz⟩
    rcases hZ with ⟨h,-⟩|⟨-,h⟩
    · rw [hlist z o ho] at h;cases h
    · exact h) (fun hz=>by
    rcases hZ with ⟨-,h⟩|⟨h,-⟩
    · exact h
    · rw [Array.getD_eq_getD_getElem?,Array.getElem?_eq_none (by rw [hI.ls];exact hz)] at h
      cases h)
   rw [← hfr,← hI.df] at this
   exact this
 · rw [Array.toList_replicate]
   unfold left
   simp
 · refine ⟨_,⟨Array.size_replicate,rfl,rfl,Ext.refl _,?_,fun _ _ _ _=>rfl,fun _ _=>rfl,?_⟩,.inl ⟨?_,rfl⟩⟩
   · intro t i hs hl
     rw [Array.getD_eq_getD_getElem?,Array.getElem?_replicate] at hl
     split at hl<;>cases hl
   · intro e o ho hl
     rw [Array.getD_eq_getD_getElem?,Array.getElem?_replicate] at hl
     split at hl<;>cases hl
   · rw [Array.getD_eq_getD_getElem?,Array.getElem?_replicate]
     split<;>rfl
end
end Go.Proofs.YtljdcpobomfnpaaGreat
namespace Go.Proofs.YtljdcpobomfnpaaGreat
section
set_option linter.unusedVariables false
set_option linter.unusedSimpArgs false
open Go.ChangeShapes Go.WideShapes Go.ChangeAt Go.RowKit
open Go.Deep (BT)
def twoN:ByteArray:=⟨#[116,119,111]⟩
def shiftN:ByteArray:=⟨#[115,104,105,102,116,95,116,105,109,101]⟩
def LookOk (look:Look):Prop:=look twoN=(1,0)∧look shiftN=(2,0)
def szB:Nat→Nat
 | 0=>0
 | n+1=>1+3 * szB n
structure Plain (sc kind:Int) (lv:Nat) (a:Nd) (k:Fo):Prop where
 ok:ExOk a k
 wf:(wfB a (len k) && wfT k)=true
 sz:sz k+1≤szB lv
 dp:dp k+1≤lv
 ty:∀ look,LookOk look→tyT look sc a k=(kind,0)
theorem szB_le {m n:Nat} (h:m≤n):szB m≤szB n:=by
 induction n with
 | zero => obtain rfl:m=0:=by omega
           exact Nat.le_refl _
 | succ n ih =>
   by_cases e:m=n+1
   · subst e;exact Nat.le_refl _
   · have:=ih (by omega)
     simp only [szB];omega
theorem Plain.mono {sc kind:Int} {lv lv':Nat} {a:Nd} {k:Fo} (h:Plain sc kind lv a k) (hl:lv≤lv'):Plain sc kind lv' a k:=⟨h.ok,h.wf,Nat.le_trans h.sz (szB_le hl),Nat.le_trans h.dp hl,h.ty⟩
theorem Plain.val {sc kind:Int} {lv:Nat} {a:Nd} {k:Fo} (h:Plain sc kind lv a k) (hl:lv≤5):valE a k=0:=by
 have h1:=h.sz
 have h2:=h.dp
 have h3:szB lv≤121:=szB_le (n:=5) hl
 have hf:fitB 0 1 k=true:=by unfold fitB;rw [decide_eq_true_eq];omega
 unfold valE
 rw [if_pos hf,if_pos h.wf]
def PlainL (sc:Int) (lv:Nat):List Ch→List Int→Prop
 | [],[]=>True
 | c :: cs,kd :: kds=>Plain sc kd lv c.a c.k∧PlainL sc lv cs kds
 | _,_=>False
theorem rowF_plain (sc:Int) (lv:Nat) (l:List Ch) (kds:List Int) (h:PlainL sc lv l kds) :
 FoOk (rowF l)∧wfT (rowF l)=true∧sz (rowF l)≤l.length * szB lv∧dp (rowF l)≤lv∧∀ look,LookOk look→tyF look sc (rowF l)=(0,kds):=by
 induction l generalizing kds with
 | nil =>
   cases kds with
   | nil=>exact ⟨trivial,rfl,Nat.zero_le _,Nat.zero_le _,fun _ _=>rfl⟩
   | cons=>exact h.elim
 | cons c l ih =>
   cases kds with
   | nil=>exact h.elim
   | cons kd kds =>
     obtain ⟨hc,hr⟩:=h
     obtain ⟨h1,h2,h3,h4,h5⟩:=ih kds hr
     refine ⟨⟨hc.ok.1,hc.ok.2,h1⟩,?_,?_,?_,?_⟩
     · show ((wfB c.a (len c.k) && wfT c.k) && wfT (rowF l))=true
       rw [hc.wf,h2];rfl
     · have:=hc.sz
       show 1+sz c.k+sz (rowF l)≤(l.length+1) * szB lv
       rw [Nat.add_mul];omega
     · have:=hc.dp
       show max (1+dp c.k) (dp (rowF l))≤lv
       omega
     · intro look hl
       show tyF look sc (.node c.b c.o c.a c.k (rowF l))=_
       rw [tyF_node,hc.ty look hl,h5 look hl]
       rfl
theorem plain_node (sc:Int) (lv:Nat) (l:List Ch) (kds:List Int) (op kind:Int) (h:PlainL sc lv l kds) (h3:l.length≤3) (hop:7≤op∧op≤22) (hw:argB op l.length=true) (hr:resT op kds=kind) (h0:kind≠0) (p:Option Addr) (cap:Nat) :
 Plain sc kind (lv+1) ⟨op,0,⟨#[]⟩,p,cap⟩ (rowF l):=by
 obtain ⟨h1,h2,h3',h4,h5⟩:=rowF_plain sc lv l kds h
 have h6:¬ op=6:=by omega
 refine ⟨⟨⟨by dsimp only;omega,by dsimp only;omega,Nat.zero_le _,by rw [rowF_len];omega⟩,h1⟩,?_,?_,by omega,?_⟩
 · rw [h2,Bool.and_true,rowF_len]
   unfold wfB
   dsimp only
   have q1:numB op 0=true:=by unfold numB;rw [if_neg (by omega),if_neg (by omega)];rfl
   have q2:namB op ⟨#[]⟩=true:=by unfold namB;rw [if_neg h6];rfl
   rw [hw,q1,q2]
   simp;omega
 · have:l.length * szB lv≤3 * szB lv:=Nat.mul_le_mul_right _ h3
   simp only [szB];omega
 · intro look hl
   unfold tyT
   dsimp only
   rw [if_neg h6,h5 look hl]
   dsimp only
   rw [if_pos rfl,hr,if_neg h0]
def IntsL (w:World) (v:Value) (n s:Nat):Prop:=∃ (p:Option Addr) (cap:Nat),v=.slice p n cap∧n≤9223372036854775807∧∀ i,i < n→∃ (B O:Nat) (x:Int),p=some ⟨B,O,none⟩∧B < s∧w.cell? ⟨B,O+i,none⟩=some (.int .i64 x)
structure Src (w:World) (sb:Nat) (v:Value) (n t:Nat):Prop where
 c0:w.cell? ⟨sb,0,none⟩=some v
 c1:w.cell? ⟨sb,1,none⟩=some (.int .i64 t)
 f1:w.frozen? ⟨sb,1,none⟩=false
 lt:sb < w.heap.size
 ls:IntsL w v n sb
theorem IntsL.below {w w':World} {v:Value} {n s B0:Nat} (h:IntsL w v n s) (hb:Below B0 w w') (hs:s≤B0):IntsL w' v n s:=by
 obtain ⟨p,cap,h1,h2,h3⟩:=h
 refine ⟨p,cap,h1,h2,fun i hi=>?_⟩
 obtain ⟨B,O,x,q1,q2,q3⟩:=h3 i hi
 exact ⟨B,O,x,q1,q2,by rw [hb.cell (p:=⟨B,O+i,none⟩) (Nat.lt_of_lt_of_le q2 hs)];exact q3⟩
theorem Src.below {w w':World} {sb:Nat} {v:Value} {n t B0:Nat} (h:Src w sb v n t) (hb:Below B0 w w') (hs:sb < B0):Src w' sb v n t where
 c0:=by rw [hb.cell (p:=⟨sb,0,none⟩) hs];exact h.c0
 c1:=by rw [hb.cell (p:=⟨sb,1,none⟩) hs];exact h.c1
 f1:=by rw [hb.frozen (p:=⟨sb,1,none⟩) hs];exact h.f1
 lt:=Nat.lt_of_lt_of_le h.lt hb.size
 ls:=h.ls.below hb (Nat.le_of_lt hs)
theorem Src.next {w w':World} {sb:Nat} {v:Value} {n t:Nat} (h:Src w sb v n t) (hb:Below w.heap.size w w'):Src w' sb v n t:=h.below hb h.lt
theorem below_store {w:World} {p:Addr} {u:Value} {B0:Nat} (h:B0≤p.block):Below B0 w (w.setCell p u):=(Below.refl _ _).setCell h _
theorem Src.step {w:World} {sb:Nat} {v:Value} {n t:Nat} (h:Src w sb v n t):Src (w.setCell ⟨sb,1,none⟩ (.int .i64 ((t:Int)+1))) sb v n (t+1)∧w.grownBy (w.setCell ⟨sb,1,none⟩ (.int .i64 ((t:Int)+1))) (some sb):=by
 have h0:=h.c0
 have h1:=h.c1
 have hf:=h.f1
 refine ⟨⟨by simp [go_sem,h0,h1],by simp [go_sem,h1],by simp [go_sem,hf],by simp [World.setCell];exact h.lt,h.ls.below (below_store (Nat.le_refl _)) (Nat.le_refl _)⟩,?_⟩
 exact ⟨rfl,rfl,rfl,by simp [World.setCell],fun k hk hr=>Below.heap_setCell _ _ _ _ (fun e=>hr (by rw [e]))⟩
structure RB (w:World) (r:Nat):Prop where
 c0:∃ u,w.cell? ⟨r,0,none⟩=some u
 c1:∃ u,w.cell? ⟨r,1,none⟩=some u
 c2:∃ u,w.cell? ⟨r,2,none⟩=some u
 c3:∃ u,w.cell? ⟨r,3,none⟩=some u
 f0:w.frozen? ⟨r,0,none⟩=false
 f1:w.frozen? ⟨r,1,none⟩=false
 f2:w.frozen? ⟨r,2,none⟩=false
 f3:w.frozen? ⟨r,3,none⟩=false
 lt:r < w.heap.size
theorem RB.grown {w w':World} {r:Nat} {row:Option Nat} (h:RB w r) (hg:w.grownBy w' row) (hne:some r≠row):RB w' r where
 c0:=by obtain ⟨u,q⟩:=h.c0;exact ⟨u,by rw [World.cell?_of_block (hg.block r h.lt hne)];exact q⟩
 c1:=by obtain ⟨u,q⟩:=h.c1;exact ⟨u,by rw [World.cell?_of_block (hg.block r h.lt hne)];exact q⟩
 c2:=by obtain ⟨u,q⟩:=h.c2;exact ⟨u,by rw [World.cell?_of_block (hg.block r h.lt hne)];exact q⟩
 c3:=by obtain ⟨u,q⟩:=h.c3;exact ⟨u,by rw [World.cell?_of_block (hg.block r h.lt hne)];exact q⟩
 f0:=by rw [World.frozen?_of_block (hg.block r h.lt hne)];exact h.f0
 f1:=by rw [World.frozen?_of_block (hg.block r h.lt hne)];exact h.f1
 f2:=by rw [World.frozen?_of_block (hg.block r h.lt hne)];exact h.f2
 f3:=by rw [World.frozen?_of_block (hg.block r h.lt hne)];exact h.f3
 lt:=Nat.lt_of_lt_of_le h.lt hg.size
theorem RB.next {w w':World} {r:Nat} (h:RB w r) (hb:Below w.heap.size w w'):RB w' r:=h.grown (grw_of_below none hb) (by simp)
def BP (w:World) (sb:Nat) (v:Value) (n t m:Nat) (w':World):Prop:=(∃ t',t≤t'∧t'≤t+m∧Src w' sb v n t')∧w.grownBy w' (some sb)
theorem BP.mono {w w':World} {sb:Nat} {v:Value} {n t m m':Nat} (h:BP w sb v n t m w') (hm:m≤m'):BP w sb v n t m' w':=by
 obtain ⟨⟨t',h1,h2,h3⟩,h4⟩:=h
 exact ⟨⟨t',h1,by omega,h3⟩,h4⟩
theorem plain_lit (sc:Int) (op num:Int) (kind:Int) (h:wfB ⟨op,num,⟨#[]⟩,none,0⟩ 0=true) (hb : -9223372036854775808≤num∧num≤9223372036854775807) (hop:1≤op∧op≤5) (hr:resT op []=kind) (h0:kind≠0):Plain sc kind 1 ⟨op,num,⟨#[]⟩,none,0⟩ .nil:=by
 refine ⟨⟨⟨by dsimp only;omega,hb,Nat.zero_le _,Nat.zero_le _⟩,trivial⟩,by rw [show ((len .nil:Nat):Int)=0 from rfl,h];rfl,Nat.le_refl _,Nat.le_refl _,fun look _=>?_⟩
 unfold tyT
 dsimp only
 rw [if_neg (by omega)]
 show (if (0:Int)=0 then (if resT op []=0 then ((0:Int),(9:Int)) else (resT op [],0)) else (0,0))=_
 rw [if_pos rfl,hr,if_neg h0]
theorem list_wf (sc:Int) (hs:sc=1∨sc=2∨sc=3):∀ l ∈ Att.listL sc,attrS ⟨l.toArray⟩=true∧l.length≤20:=by
 rcases hs with rfl|rfl|rfl<;>decide +kernel
theorem plain_attr (sc kind:Int) (hs:sc=1∨sc=2∨sc=3) (l:List UInt8) (hl:l ∈ Att.listL sc) (ht:Att.atT sc l=kind) (h0:kind≠0):Plain sc kind 1 ⟨6,0,⟨l.toArray⟩,none,0⟩ .nil:=by
 obtain ⟨h1,h2⟩:=list_wf sc hs l hl
 have hA:atS sc ⟨l.toArray⟩=kind:=by unfold atS;simpa using ht
 have hE:atE sc ⟨l.toArray⟩=0:=by unfold atE;rw [if_neg (by rw [hA];exact h0)]
 have hsz:(⟨l.toArray⟩:ByteArray).size≤9223372036854775807:=by show l.toArray.size≤_;simp;omega
 refine ⟨⟨⟨by dsimp only;omega,by dsimp only;omega,hsz,Nat.zero_le _⟩,trivial⟩,?_,Nat.le_refl _,Nat.le_refl _,fun look _=>?_⟩
 · show (wfB ⟨6,0,⟨l.toArray⟩,none,0⟩ 0 && true)=true
   unfold wfB namB
   dsimp only
   rw [if_pos rfl,h1]
   rfl
 · unfold tyT
   dsimp only
   rw [if_pos rfl]
   unfold nameT
   rw [if_pos hE,hA]
theorem plain_const (sc kind:Int) (hs:sc=1∨sc=2∨sc=3) (s:ByteArray) (h:(s=twoN∧kind=1)∨(s=shiftN∧kind=2)):Plain sc kind 1 ⟨6,0,s,none,0⟩ .nil:=by
 have hw:attrS s=true∧s.size≤20∧atE sc s≠0:=by
  rcases h with ⟨rfl,-⟩|⟨rfl,-⟩<;>rcases hs with rfl|rfl|rfl<;>decide +kernel
 obtain ⟨h1,h2,h3⟩:=hw
 refine ⟨⟨⟨by dsimp only;omega,by dsimp only;omega,by dsimp only;omega,Nat.zero_le _⟩,trivial⟩,?_,Nat.le_refl _,Nat.le_refl _,fun look hl=>?_⟩
 · show (wfB ⟨6,0,s,none,0⟩ 0 && true)=true
   unfold wfB namB
   dsimp only
   rw [if_pos rfl,h1]
   rfl
 · unfold tyT
   dsimp only
   rw [if_pos rfl]
   unfold nameT
   rw [if_neg h3]
   rcases h with ⟨rfl,rfl⟩|⟨rfl,rfl⟩
   · exact hl.1
   · exact hl.2
end
section
set_option linter.unusedVariables false
set_option linter.unusedSimpArgs false
open Go.ChangeShapes Go.WideShapes Go.ChangeAt Go.RowKit
open Go.Deep (BT)
theorem and_ffff (n:Int):bits .and .i64 n 65535=n % 65536:=by
 have h127:(BitVec.ofInt 64 65535).toNat=2 ^ 16 - 1:=by decide
 have key:(BitVec.ofInt 64 n &&& BitVec.ofInt 64 65535).toNat=(n % ((2 ^ 64:Nat):Int)).toNat % 2 ^ 16:=by
  rw [BitVec.toNat_and,BitVec.toNat_ofInt,h127,Nat.and_two_pow_sub_one_eq_mod]
 show IntKind.i64.wrap ((BitVec.ofInt 64 n &&& BitVec.ofInt 64 65535).toNat:Nat)=n % 65536
 rw [key,IntKind.wrap_i64]
 omega
set_option maxHeartbeats 2000000 in
set_option maxRecDepth 100000 in
theorem at_any (v:Value) (n s t:Nat) (T:Int) (w:World) (h:IntsL w v n s) (ht:t≤1099511627776) (hT:T=t) :
 Calls Tryz.prog 26 #[v,.int .i64 T] w fun e w'=>(∃ m:Nat,e=.returned (.int .i64 m))∧Below w.heap.size w w':=by
 obtain ⟨p,cap,rfl,hn,hl⟩:=h
 go_enter Tryz.func26,Tryz.ntmps26
 by_cases h0:n=0
 · subst h0
   obtain ⟨y,hy⟩:∃ y:Nat,bits BinOp.and IntKind.i64 T 65535=(y:Int):=⟨t % 65536,by rw [and_ffff];omega⟩
   clear hT
   go_wp2
   go_ret
   exact ⟨⟨y,rfl⟩,Below.refl _ _⟩
 · obtain ⟨B,O,x,rfl,hB,hc⟩:=hl (t % n) (Nat.mod_lt _ (by omega))
   have q1:T.tmod (n:Int)=((t % n:Nat):Int):=by rw [hT,Int.tmod_eq_emod_of_nonneg (by omega)];rfl
   have q2:T.tdiv (n:Int)=((t / n:Nat):Int):=by rw [hT,Int.tdiv_eq_ediv_of_nonneg (by omega)];rfl
   obtain ⟨y,hy⟩:∃ y:Nat,bits BinOp.and IntKind.i64 x 65535=(y:Int)∧y≤65535:=⟨(x % 65536).toNat,by rw [and_ffff];omega,by omega⟩
   obtain ⟨hy,hy1⟩:=hy
   have hz:t / n≤t:=Nat.div_le_self _ _
   have hi:t % n < n:=Nat.mod_lt _ (by omega)
   generalize t % n=i at *
   generalize t / n=z at *
   have hi1:(i:Int) < (n:Int):=by omega
   have hi0:(0:Int)≤(i:Int):=by omega
   have n0:¬ (n:Int)=0:=by omega
   have b0:((n:Int)==0)=false:=by simp [h0]
   clear hl hT
   go_upto_region 3 with (fail)
   go_region
   go_wp2
   go_ret
   exact ⟨⟨y+z,by go_num⟩,(Below.refl _ _).drew⟩
set_option maxHeartbeats 2000000 in
set_option maxRecDepth 100000 in
theorem next_any (sb:Nat) (v:Value) (n t k:Nat) (w:World) (h:Src w sb v n t) (ht:t < 1099511627776) (hk:0 < k) (hk2:k≤1000) :
 Calls Tryz.prog 30 #[.pointer (some ⟨sb,0,none⟩),.int .i64 k] w fun e w'=>(∃ r:Nat,r < k∧e=.returned (.int .i64 r))∧Src w' sb v n (t+1)∧w.grownBy w' (some sb):=by
 have H:=Lib.hid h
 have S:=Lib.hid h.step
 have y1:=h.c1
 have y2:=h.f1
 clear h
 have hT:(t:Int)+1=((t+1:Nat):Int):=by omega
 have HT:=Lib.hid hT
 have h0:0≤(t:Int)∧(t:Int)≤1099511627776:=by omega
 generalize (t:Int)=T at *
 obtain ⟨T1,hT1⟩:∃ T1,T1=T+1:=⟨_,rfl⟩
 have hw:IntKind.i64.wrap (T+1)=T1:=by rw [hT1];exact IntWalk.i64_in _ (by omega)
 rw [← hT1] at S HT
 clear hT hT1 h0
 go_enter Tryz.func30,Tryz.ntmps30
 go_upto_region 2 with (fail)
 clear hw y1 y2
 generalize w.setCell ⟨sb,1,none⟩ (.int .i64 T1)=w1 at *
 have z0:=S.out.1.c0
 have z1:=S.out.1.c1
 rw [← HT.out] at z1
 have k0:¬ (k:Int)=0:=by omega
 have b0:((k:Int)==0)=false:=by simp;omega
 have SD:=Lib.hid (S.out.1.next (Below.refl _ _).drew)
 go_region_with (go_at_call 26;refine (at_any v n sb (t+1) T1 _ SD.out.ls (by omega) HT.out).mono ?_;rintro e w2 ⟨⟨m,rfl⟩,hb⟩;have B2:=Lib.hid hb;clear hb)
 all_goals (
  go_wp2
  go_ret
  refine ⟨⟨m % k,Nat.mod_lt _ hk,?_⟩,SD.out.next B2.out,?_⟩
  · have q:(m:Int).tmod (k:Int)=((m % k:Nat):Int):=by rw [Int.tmod_eq_emod_of_nonneg (by omega)];rfl
    exact ret_int q
  · exact S.out.2.trans (grw_below (grw_of_below _ (Below.refl _ _).drew) B2.out))
theorem bnode_any (op:Int) (p:Option Addr) (m c:Nat) (w:World):Calls Tryz.prog 32 #[.int .i64 op,.slice p m c] w fun e w'=>e=.returned (.agg #[.int .i64 op,.int .i64 0,.string ⟨#[]⟩,.slice p m c])∧Below w.heap.size w w':=by
 go_enter Tryz.func32,Tryz.ntmps32
 go_wp2
 refine bodyPost_ret (v:=.agg #[.int .i64 op,.int .i64 0,.string ⟨#[]⟩,.slice p m c]) ?_ rfl ⟨rfl,(Below.refl _ _).alloc (Nat.le_refl _) _⟩
 rw [results_cell1 rfl]
 go_simp
end
end Go.Proofs.YtljdcpobomfnpaaGreat
