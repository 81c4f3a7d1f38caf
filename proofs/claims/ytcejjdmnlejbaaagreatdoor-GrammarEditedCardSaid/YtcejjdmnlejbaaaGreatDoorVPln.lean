import Derived.Orders
import Derived.Below
import Derived.WalkKit
namespace Go.Proofs.YtcejjdmnlejbaaaGreatDoor
set_option linter.unusedVariables false
set_option linter.unusedSimpArgs false
open Go Go.RowKit
def Ext(w w':World):Prop:=Below w.heap.size w w'
theorem Ext.refl(w:World):Ext w w:=Below.refl _ _
theorem Ext.trans{a b c:World}(h:Ext a b)(k:Ext b c):Ext a c:=Below.trans h (Below.mono k h.size)
theorem Ext.alloc(w:World)(o:Obj):Ext w (w.alloc o):=(Below.refl _ _).alloc (Nat.le_refl _) o
section
variable {P:Program} {ops:Array Oper} {Q:Exit→Act→World→Prop}
theorem jH{md:Region.Mode}{listed:Array Bool}{i:Nat}(h:i∈ Region.ready md ops listed):∃o,ops[i]?=some o∧listed.getD i true=false∧∀e∈ o.after,Region.binds md e=true→listed.getD e.on false=true:=by
 unfold Region.ready at h;rw[List.mem_filter] at h;obtain⟨-,h2⟩:=h;rw[Bool.and_eq_true] at h2;cases ho:ops[i]? with
 | none=>rw[ho] at h2;simp at h2
 | some o =>
   rw[ho] at h2;refine⟨o,rfl,by simpa using h2.1,fun e he hb=>?_⟩;have h3:=h2.2;simp only[Option.map_some,Option.getD_some] at h3;rw[Array.all_eq_true_iff_forall_mem] at h3;have h4:=h3 e he;rw[hb] at h4
   simpa using h4
theorem vH{md:Region.Mode}{listed:Array Bool}{i:Nat}{o:Oper}(ho:ops[i]?=some o)(hl:listed.getD i true=false)(ha:∀e∈ o.after,Region.binds md e=true→listed.getD e.on false=true):i∈ Region.ready md ops listed:=by
 unfold Region.ready;rw[List.mem_filter];refine⟨List.mem_range.2 (Array.getElem?_eq_some_iff.1 ho).1,?_⟩;rw[Bool.and_eq_true,ho,hl];refine⟨rfl,?_⟩;simp only[Option.map_some,Option.getD_some];rw[Array.all_eq_true_iff_forall_mem];intro e he;cases hb:Region.binds md e with
 | false=>rfl
 | true=>rw[ha e he hb];rfl
def left(l:List Bool):Nat:=(l.filter (fun b=>!b)).length
theorem Jz(l:List Bool)(i:Nat)(h:l[i]?=some false):left (l.set i true)+1=left l:=by
 induction l generalizing i with
 | nil=>simp at h
 | cons b l ih =>
   cases i with
   | zero=>simp at h;subst h;simp[left]
   | succ i =>
     have:=ih i (by simpa using h);cases b<;>simp[left] at this ⊢<;>omega
theorem YL(l:List Bool)(h:left l=0)(i:Nat):l.getD i true=true:=by
 induction l generalizing i with
 | nil=>rfl
 | cons b l ih =>
   cases b with
   | false=>simp[left] at h
   | true =>
     cases i with
     | zero=>rfl
     | succ i=>simpa using ih (by simpa [left] using h) i
theorem getD_toList(l:Array Bool)(i:Nat)(d:Bool):l.getD i d=l.toList.getD i d:=by
 rw[Array.getD_eq_getD_getElem?,List.getD_eq_getElem?_getD,Array.getElem?_toList]
theorem J6{l:Array Bool}{i:Nat}(h:l.getD i true=false):l.toList[i]?=some false:=by
 rw[getD_toList,List.getD_eq_getElem?_getD] at h;cases q:l.toList[i]? with
 | none=>rw[q] at h;cases h
 | some b=>rw[q] at h;cases b<;>first|rfl|cases h
theorem ue(I:Array Bool→Act→World→Prop)
 (hstep:∀listed a w i,I listed a w→i∈ Region.ready .any ops listed→wpOp P ops Q i (fun a' w'=>I (listed.setIfInBounds i true) a' w') a w)
 (hdone:∀listed a w,I listed a w→Region.ready .any ops listed=[]→Q .normal a w) :
 ∀fuel listed a w,left listed.toList≤fuel→I listed a w→wpAny P .any ops Q fuel listed a w:=by
 intro fuel
 induction fuel with
 | zero =>
   intro listed a w hl hI
   have hr:Region.ready .any ops listed=[]:=by
    rw[List.eq_nil_iff_forall_not_mem];intro i hi;obtain⟨o,-,h2,-⟩:=jH hi;rw[getD_toList,YL _ (by omega)] at h2;cases h2
   exact⟨hr,hdone listed a w hI hr⟩
 | succ fuel ih =>
   intro listed a w hl hI;refine⟨hdone listed a w hI,fun i hi=>?_⟩;obtain⟨o,-,h2,-⟩:=jH hi;have h3:=Jz _ _ (J6 h2);refine wpOp_mono (fun a' w' h'=>ih _ a' w' ?_ h') (hstep listed a w i hI hi);rw[Array.toList_setIfInBounds];omega
structure PInv (ops:Array Oper) (src:Nat→Option Nat) (G:Nat→Value→World→Prop) (s0:Array Value) (d0:List Deferred) (w0:World) (listed:Array Bool) (a:Act) (w:World):Prop where
 ls:listed.size=ops.size
 sz:a.tmps.size=s0.size
 df:a.defers=d0
 ex:Ext w0 w
 sl:∀t i,src t=some i→listed.getD i false=true→G i (a.tmps.getD t undef) w
 un:∀t i,src t=some i→listed.getD i false=false→a.tmps.getD t undef=s0.getD t undef
 ol:∀t,src t=none→a.tmps.getD t undef=s0.getD t undef
 cl:∀e o,ops[e]?=some o→listed.getD e false=true→∀x∈ o.after,Region.binds .any x=true→listed.getD x.on false=true
def ua(P:Program)(ops:Array Oper)(Q:Exit→Act→World→Prop)(src:Nat→Option Nat)(G:Nat→Value→World→Prop)(s0:Array Value)(w0:World)(i:Nat)(o:Oper):Prop :=
 ∀ (a:Act) (w:World),Ext w0 w→(∀t,src t=none→a.tmps.getD t undef=s0.getD t undef)→
   (∀t e,src t=some e→(o.after.toList.any fun x=>x.on==e && Region.binds .any x)=true→G e (a.tmps.getD t undef) w)→
   (∀t e,src t=some e→((ops[e]?).any fun p=>p.after.toList.any fun x=>x.on==i && Region.binds .any x)=true→a.tmps.getD t undef=s0.getD t undef)→
   Region.wanted o (yielded ops a.tmps)=true∧o.wp P a w (fun a' w'=>∃v,a'=a.put o.dst v∧Ext w w'∧(o.dst.isSome=true→G i v w')) Q
def zC(s0:Array Value)(src:Nat→Option Nat)(x:Nat→Value):Array Value:=(s0.toList.mapIdx fun t v=>match src t with|some _=>x t|none=>v).toArray
theorem yB(l:Array Bool)(i j:Nat):(l.setIfInBounds i true).getD j false=true↔(j=i∧i < l.size)∨l.getD j false=true:=by
 rw[Array.getD_eq_getD_getElem?,Array.getD_eq_getD_getElem?,Array.getElem?_setIfInBounds]
 by_cases h:i=j
 ·subst h
  by_cases q:i < l.size
  ·simp[q]
  ·simp[q]
 ·have:¬j=i:=fun e=>h e.symm;simp[h,this]
theorem yj(a:Act)(d t:Nat)(v:Value):(a.put (some d) v).tmps.getD t undef=if d=t∧d < a.tmps.size then v else a.tmps.getD t undef:=by
 show(a.tmps.setIfInBounds d v).getD t undef=_
 rw[Array.getD_eq_getD_getElem?,Array.getD_eq_getD_getElem?,Array.getElem?_setIfInBounds]
 by_cases h:d=t
 ·subst h
  by_cases q:d < a.tmps.size
  ·simp[q]
  ·simp[q]
 ·simp[h]
theorem jj{α β:Type}{a:Act}{N M:Nat}{v:Value}{V:α→β→Value}{R:α→β→Prop}(h:N≠M∧M≠N)(hf:∃pn cn,a.tmps.getD M undef=V pn cn∧R pn cn):∃pn cn,(a.put (some N) v).tmps.getD M undef=V pn cn∧R pn cn:=hf.imp fun pn q=>q.imp fun cn q=>⟨(show(a.put (some N) v).tmps.getD M undef=_ from by rw[yj,if_neg (fun e=>by first|exact h.1 e.1|exact h.2 e.1)];exact q.1),q.2⟩
def JY(P:Program)(ops:Array Oper)(Q:Exit→Act→World→Prop)(src:Nat→Option Nat)(G:Nat→Value→World→Prop)(s0:Array Value)(w0:World)(i:Nat)(o:Oper):Prop :=
 ∀ (a:Act) (w1 w:World),Ext w0 w1→(∀t,src t=none→a.tmps.getD t undef=s0.getD t undef)→
   (∀t e,src t=some e→(o.after.toList.any fun x=>x.on==e && Region.binds .any x)=true→G e (a.tmps.getD t undef) w1)→
   (∀t e,src t=some e→((ops[e]?).any fun p=>p.after.toList.any fun x=>x.on==i && Region.binds .any x)=true→a.tmps.getD t undef=s0.getD t undef)→
   Region.wanted o (yielded ops a.tmps)=true∧o.wp P a w (fun a' w'=>∃v,a'=a.put o.dst v∧w'=w∧(o.dst.isSome=true→G i v w1)) Q
def K3(P:Program)(ops:Array Oper)(Q:Exit→Act→World→Prop)(src:Nat→Option Nat)(G:Nat→Value→World→Prop)(F:(Nat→Value)→World→World→Prop)(s0:Array Value)(w0:World)(i:Nat)(o:Oper):Prop :=
 ∀ (a:Act) (w:World),Ext w0 w→(∀t,src t=none→a.tmps.getD t undef=s0.getD t undef)→
   (∀t e,src t=some e→(o.after.toList.any fun x=>x.on==e && Region.binds .any x)=true→G e (a.tmps.getD t undef) w)→
   (∀t e,src t=some e→((ops[e]?).any fun p=>p.after.toList.any fun x=>x.on==i && Region.binds .any x)=true→a.tmps.getD t undef=s0.getD t undef)→
   Region.wanted o (yielded ops a.tmps)=true∧o.wp P a w (fun a' w'=>∃v,a'=a.put o.dst v∧(o.dst.isSome=true→G i v w)∧F (fun t=>(a.put o.dst v).tmps.getD t undef) w w') Q
theorem xz{id:Nat}{a0:Act}{w:World}(hm:P.follows .mixedOrders=true)(src:Nat→Option Nat)(G:Nat→Value→World→Prop)(z:Nat)(F:(Nat→Value)→World→World→Prop)
 (hG:∀i v w w',G i v w→Ext w w'→G i v w')
 (hsrc:∀i o d,ops[i]?=some o→o.dst=some d→src d=some i∧d < a0.tmps.size)
 (hlow:∀i o,ops[i]?=some o→∀x∈ o.after,Region.binds .any x=true→x.on < i)
 (hall:∀t i,src t=some i→∃o,ops[i]?=some o∧o.dst=some t)
 (hF:∀x x' w1 w',(∀t,(src t=none∨∃e,src t=some e∧(e=z∨((ops[z]?).any fun p=>p.after.toList.any fun x=>x.on==e && Region.binds .any x)=true))→x t=x' t)→F x w1 w'→F x' w1 w')
 (hst:∀i o,ops[i]?=some o→i≠z→ua P ops Q src G a0.tmps w.drew i o)
 (hpu:∀i o,ops[i]?=some o→i≠z→((ops[z]?).any fun p=>p.after.toList.any fun x=>x.on==i && Region.binds .any x)=true∨ops.size≤z∨JY P ops Q src G a0.tmps w.drew i o)
 (hla:∀o,ops[z]?=some o→K3 P ops Q src G F a0.tmps w.drew z o)
 (hfin:∀(x:Nat→Value) (w1 w':World),Ext w.drew w1→(∀t i,src t=some i→G i (x t) w1)→(z < ops.size→F x w1 w')→(ops.size≤z→w'=w1)→Q .normal ⟨zC a0.tmps src x,a0.defers⟩ w') :
 (Code.region id ops true).wp P Q a0 w:=by
 refine wp_region_any hm ?_;refine ue (fun listed a w'=>∃w1,PInv ops src G a0.tmps a0.defers w.drew listed a w1∧((listed.getD z false=false∧w'=w1)∨(listed.getD z false=true∧F (fun t=>a.tmps.getD t undef) w1 w'))) ?_ ?_ ops.size _ a0 _ ?_ ?_
 ·rintro listed a w2 i ⟨w1,hI,hZ⟩ hi;obtain⟨o,ho,hl,haf⟩:=jH hi
  have hil:i < listed.size:=by
   by_cases q:i < listed.size
   ·exact q
   ·rw[Array.getD_eq_getD_getElem?,Array.getElem?_eq_none (by omega)] at hl;cases hl
  have hl2:listed.getD i false=false:=by
   rw[Array.getD_eq_getD_getElem?,Array.getElem?_eq_getElem hil] at hl ⊢;simpa using hl
  have qa:∀t e,src t=some e→(o.after.toList.any fun x=>x.on==e && Region.binds .any x)=true→G e (a.tmps.getD t undef) w1:=fun t e hs ha=>by
   rw[List.any_eq_true] at ha;obtain⟨x,hx,hq⟩:=ha;rw[Bool.and_eq_true] at hq;have:=haf x (by simpa using hx) hq.2;rw[eq_of_beq hq.1] at this;exact hI.sl t e hs this
  have qM:∀t e,src t=some e→((ops[e]?).any fun p=>p.after.toList.any fun x=>x.on==i && Region.binds .any x)=true→a.tmps.getD t undef=a0.tmps.getD t undef:=fun t e hs ha=>by
   cases hp:ops[e]? with
   | none=>rw[hp] at ha;cases ha
   | some p =>
     rw[hp] at ha;have ha':(p.after.toList.any fun x=>x.on==i && Region.binds .any x)=true:=ha;rw[List.any_eq_true] at ha';obtain⟨x,hx,hq⟩:=ha';rw[Bool.and_eq_true] at hq;refine hI.un t e hs ?_;cases hle:listed.getD e false with
     | false=>rfl
     | true =>
       have:=hI.cl e p hp hle x (by simpa using hx) hq.2;rw[eq_of_beq hq.1,hl2] at this;cases this
  have key : ∀v w1',Ext w1 w1'→(o.dst.isSome=true→G i v w1')→PInv ops src G a0.tmps a0.defers w.drew (listed.setIfInBounds i true) (a.put o.dst v) w1':=by
   intro v w1' hext hg;refine⟨by rw[Array.size_setIfInBounds];exact hI.ls,?_,?_,hI.ex.trans hext,?_,?_,?_,?_⟩
   ·cases o.dst with
    | none=>exact hI.sz
    | some d=>show(a.tmps.setIfInBounds d v).size=_;rw[Array.size_setIfInBounds];exact hI.sz
   ·cases o.dst with
    | none=>exact hI.df
    | some d=>exact hI.df
   ·intro t j hs hj
    by_cases hji:j=i
    ·subst hji;obtain⟨o2,ho2,hd2⟩:=hall t j hs;rw[ho] at ho2;cases ho2;rw[hd2,yj,if_pos ⟨rfl,by rw[hI.sz];exact(hsrc j o t ho hd2).2⟩];exact hg (by rw[hd2];rfl)
    ·rw [yB] at hj;rcases hj with ⟨e,-⟩|hj
     ·exact absurd e hji
     ·have h9:=hI.sl t j hs hj
      have e9:(a.put o.dst v).tmps.getD t undef=a.tmps.getD t undef:=by
       cases hd:o.dst with
       | none=>rfl
       | some d =>
         rw[yj,if_neg];rintro ⟨rfl,-⟩;rw[(hsrc i o d ho hd).1] at hs;exact hji (Option.some.inj hs).symm
      rw[e9];exact hG j _ _ _ h9 hext
   ·intro t j hs hj
    have hji:j≠i:=by
     rintro rfl;have:(listed.setIfInBounds j true).getD j false=true:=(yB _ _ _).2 (.inl ⟨rfl,hil⟩);rw[this] at hj;cases hj
    have hj2:listed.getD j false=false:=by
     cases q:listed.getD j false with
     | false=>rfl
     | true =>
       have:(listed.setIfInBounds i true).getD j false=true:=(yB _ _ _).2 (.inr q);rw[this] at hj;cases hj
    have e9:(a.put o.dst v).tmps.getD t undef=a.tmps.getD t undef:=by
     cases hd:o.dst with
     | none=>rfl
     | some d =>
       rw[yj,if_neg];rintro ⟨rfl,-⟩;rw[(hsrc i o d ho hd).1] at hs;exact hji (Option.some.inj hs).symm
    rw[e9];exact hI.un t j hs hj2
   ·intro t hs
    have e9:(a.put o.dst v).tmps.getD t undef=a.tmps.getD t undef:=by
     cases hd:o.dst with
     | none=>rfl
     | some d =>
       rw[yj,if_neg];rintro ⟨rfl,-⟩;rw[(hsrc i o d ho hd).1] at hs;cases hs
    rw[e9];exact hI.ol t hs
   ·intro e p hp he x hx hb;rw[yB];right;rw[yB] at he;rcases he with ⟨rfl,-⟩|he
    ·rw [ho] at hp;cases hp;exact haf x hx hb
    ·exact hI.cl e p hp he x hx hb
  by_cases hiz:i=z
  ·subst hiz;rcases hZ with ⟨-,rfl⟩|⟨h,-⟩
   ·obtain ⟨h1,h2⟩:=hla o ho a w2 hI.ex hI.ol qa qM;unfold wpOp;rw[ho];simp only[h1,if_true];refine .inl (Oper.wp_mono ?_ h2);rintro a' w' ⟨v,rfl,hg,hf⟩;exact⟨w2,key v w2 (Ext.refl _) hg,.inr ⟨(yB _ _ _).2 (.inl ⟨rfl,hil⟩),hf⟩⟩
   ·rw[h] at hl2;cases hl2
  ·have hz' : (listed.setIfInBounds i true).getD z false=listed.getD z false:=by
    cases q:listed.getD z false with
    | true=>exact(yB _ _ _).2 (.inr q)
    | false =>
      cases q2:(listed.setIfInBounds i true).getD z false with
      | false=>rfl
      | true =>
        rcases(yB _ _ _).1 q2 with ⟨e,-⟩|e
        ·exact absurd e.symm hiz
        ·rw[q] at e;cases e
   rcases hZ with ⟨hz0,rfl⟩|⟨hz1,hf⟩
   ·obtain ⟨h1,h2⟩:=hst i o ho hiz a w2 hI.ex hI.ol qa qM;unfold wpOp;rw[ho];simp only[h1,if_true];refine .inl (Oper.wp_mono ?_ h2);rintro a' w' ⟨v,rfl,hext,hg⟩;exact⟨w',key v w' hext hg,.inl ⟨by rw[hz'];exact hz0,rfl⟩⟩
   ·rcases hpu i o ho hiz with hb|hb|hb
    ·exfalso;cases hp:ops[z]? with
     | none=>rw[hp] at hb;cases hb
     | some p =>
       rw[hp] at hb;have hb':(p.after.toList.any fun x=>x.on==i && Region.binds .any x)=true:=hb;rw[List.any_eq_true] at hb';obtain⟨x,hx,hq⟩:=hb';rw[Bool.and_eq_true] at hq;have:=hI.cl z p hp hz1 x (by simpa using hx) hq.2;rw[eq_of_beq hq.1,hl2] at this;cases this
    ·exfalso;rw[Array.getD_eq_getD_getElem?,Array.getElem?_eq_none (by rw[hI.ls];exact hb)] at hz1;cases hz1
    ·obtain ⟨h1,h2⟩:=hb a w1 w2 hI.ex hI.ol qa qM;unfold wpOp;rw[ho];simp only[h1,if_true];refine .inl (Oper.wp_mono ?_ h2);rintro a' w' ⟨v,rfl,rfl,hg⟩;refine⟨w1,key v w1 (Ext.refl _) hg,.inr ⟨by rw[hz'];exact hz1,hF _ _ _ _ ?_ hf⟩⟩;intro t ht;cases hd:o.dst with
     | none=>rfl
     | some d =>
       rw[yj,if_neg];rintro ⟨rfl,-⟩;have hs:=(hsrc i o d ho hd).1;rcases ht with ht|⟨e,he,hee⟩
       ·rw[hs] at ht;cases ht
       ·rw [hs] at he;obtain rfl:i=e:=Option.some.inj he;rcases hee with rfl|hee
        ·exact hiz rfl
        ·cases hp:ops[z]? with
         | none=>rw[hp] at hee;cases hee
         | some p =>
           rw[hp] at hee;have hb':(p.after.toList.any fun x=>x.on==i && Region.binds .any x)=true:=hee;rw[List.any_eq_true] at hb';obtain⟨x,hx,hq⟩:=hb';rw[Bool.and_eq_true] at hq;have:=hI.cl z p hp hz1 x (by simpa using hx) hq.2;rw[eq_of_beq hq.1,hl2] at this;cases this
 ·rintro listed a w2 ⟨w1,hI,hZ⟩ hr
  have hlist:∀i o,ops[i]?=some o→listed.getD i false=true:=by
   intro i
   induction i using Nat.strongRecOn with
   | _ i ih =>
     intro o ho;have hi:i < ops.size:=(Array.getElem?_eq_some_iff.1 ho).1;cases hq:listed.getD i false with
     | true=>rfl
     | false =>
       exfalso
       have hl:listed.getD i true=false:=by
        rw[Array.getD_eq_getD_getElem?,Array.getElem?_eq_getElem (by rw[hI.ls];exact hi)] at hq ⊢
        simpa using hq
       have:i∈ Region.ready .any ops listed:=vH ho hl (fun x hx hb=>by
        have qN:=hlow i o ho x hx hb;obtain⟨p,hp⟩:∃p,ops[x.on]?=some p:=⟨_,Array.getElem?_eq_getElem (by omega)⟩;exact ih x.on qN p hp)
       rw[hr] at this;cases this
  have hsl:∀t i,src t=some i→G i (a.tmps.getD t undef) w1:=by
   intro t i hs;obtain⟨o,ho,-⟩:=hall t i hs;exact hI.sl t i hs (hlist i o ho)
  have hfr:a.tmps=zC a0.tmps src (fun t=>a.tmps.getD t undef):=by
   apply Array.ext
   ·unfold zC;simp;exact hI.sz
   ·intro t h1 h2;unfold zC;simp only[List.getElem_toArray,List.getElem_mapIdx];cases hs:src t with
    | some i=>simp[Array.getD,h1,hs]
    | none =>
      have h9:=hI.ol t hs;have h3:t < a0.tmps.size:=(by rw[← hI.sz];exact h1);rw[Array.getD_eq_getD_getElem?,Array.getD_eq_getD_getElem?,Array.getElem?_eq_getElem h1,Array.getElem?_eq_getElem h3] at h9
      simpa [hs] using h9
  have := hfin (fun t=>a.tmps.getD t undef) w1 w2 hI.ex hsl (fun hz=>by
   obtain⟨o,ho⟩:∃o,ops[z]?=some o:=⟨_,Array.getElem?_eq_getElem hz⟩;rcases hZ with ⟨h,-⟩|⟨-,h⟩
   ·rw[hlist z o ho] at h;cases h
   ·exact h) (fun hz=>by
   rcases hZ with ⟨-,h⟩|⟨h,-⟩
   ·exact h
   ·rw [Array.getD_eq_getD_getElem?,Array.getElem?_eq_none (by rw[hI.ls];exact hz)] at h;cases h)
  rw[← hfr,← hI.df] at this;exact this
 ·rw [Array.toList_replicate];unfold left;simp
 ·refine ⟨_,⟨Array.size_replicate,rfl,rfl,Ext.refl _,?_,fun _ _ _ _=>rfl,fun _ _=>rfl,?_⟩,.inl ⟨?_,rfl⟩⟩
  ·intro t i hs hl;rw[Array.getD_eq_getD_getElem?,Array.getElem?_replicate] at hl
   split at hl<;>cases hl
  ·intro e o ho hl;rw[Array.getD_eq_getD_getElem?,Array.getElem?_replicate] at hl
   split at hl<;>cases hl
  ·rw [Array.getD_eq_getD_getElem?,Array.getElem?_replicate]
   split<;>rfl
end
end Go.Proofs.YtcejjdmnlejbaaaGreatDoor
