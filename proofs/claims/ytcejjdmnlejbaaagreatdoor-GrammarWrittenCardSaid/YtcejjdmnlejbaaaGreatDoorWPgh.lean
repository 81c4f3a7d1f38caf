import Derived.Test.YtcejjdmnlejbaaaGreatDoorWPl2
import Derived.Test.YtcejjdmnlejbaaaGreatDoorWCrV
import Derived.Test.YtcejjdmnlejbaaaGreatDoorWPgf
namespace Go.Proofs.YtcejjdmnlejbaaaGreatDoor
open Option.some(inj)
open Lib(hid)
set_option linter.unusedVariables false
set_option linter.unusedSimpArgs false
open Go.ChangeShapes Go.WideShapes Go.ChangeAt Go.RowKit
open Go.Deep (BT)
set_option maxHeartbeats 8000000
set_option maxRecDepth 100000
section
variable {P:Program} {ops:Array Oper} {Q:Exit→Act→World→Prop}
def Ys(P:Program)(ops:Array Oper)(Q:Exit→Act→World→Prop)(src:Nat→Option Nat)(G:Nat→Value→World→Prop)(F F2:(Nat→Value)→World→World→Prop)(s0:Array Value)(w0:World)(i:Nat)(o:Oper):Prop :=
 ∀ (a:Act) (w1 w:World),Ext w0 w1→a.tmps.size=s0.size→(∀t,src t=none→a.tmps.getD t undef=s0.getD t undef)→
   (∀t e,src t=some e→(o.after.toList.any fun x=>x.on==e && Region.binds .any x)=true→G e (a.tmps.getD t undef) w1)→
   (∀t e,src t=some e→((ops[e]?).any fun p=>p.after.toList.any fun x=>x.on==i && Region.binds .any x)=true→a.tmps.getD t undef=s0.getD t undef)→
   F (fun t=>a.tmps.getD t undef) w1 w→
   Region.wanted o (yielded ops a.tmps)=true∧o.wp P a w (fun a' w'=>∃v,a'=a.put o.dst v∧(o.dst.isSome=true→G i v w1)∧F2 (fun t=>(a.put o.dst v).tmps.getD t undef) w1 w') Q
theorem xG{id:Nat}{a0:Act}{w:World}(hm:P.follows .mixedOrders=true)(src:Nat→Option Nat)(G:Nat→Value→World→Prop)(z y:Nat)(F F2:(Nat→Value)→World→World→Prop)
 (hG:∀i v w w',G i v w→Ext w w'→G i v w')
 (hsrc:∀i o d,ops[i]?=some o→o.dst=some d→src d=some i∧d < a0.tmps.size)
 (hlow:∀i o,ops[i]?=some o→∀x∈ o.after,Region.binds .any x=true→x.on < i)
 (hall:∀t i,src t=some i→∃o,ops[i]?=some o∧o.dst=some t)
 (A:Nat→Bool) (hA:∀i,A i=true→∃e p,i < e∧(e=z∨A e=true)∧ops[e]?=some p∧(p.after.toList.any fun x=>x.on==i && Region.binds .any x)=true)
 (hzy:z≠y) (hyl:y < ops.size) (hzl:z < ops.size) (hB:∀i,i < ops.size→i≠y→∃e p,i < e∧ops[e]?=some p∧(p.after.toList.any fun x=>x.on==i && Region.binds .any x)=true)
 (hst:∀i o,ops[i]?=some o→i≠z→i≠y→QP P ops Q src G a0.tmps w.drew i o)
 (hpu:∀i o,ops[i]?=some o→i≠z→i≠y→A i=true∨Yr P ops Q src G F a0.tmps w.drew i o)
 (hla:∀o,ops[z]?=some o→Yt P ops Q src G F a0.tmps w.drew z o)
 (hyo:∀o,ops[y]?=some o→Ys P ops Q src G F F2 a0.tmps w.drew y o)
 (hfin:∀(x:Nat→Value) (w1 w':World),Ext w.drew w1→(∀t i,src t=some i→G i (x t) w1)→F2 x w1 w'→Q .normal ⟨jO a0.tmps src x,a0.defers⟩ w') :
 (Code.region id ops true).wp P Q a0 w:=by
 refine wp_region_any hm ?_;refine Yv (fun listed a w'=>∃w1,PInv ops src G a0.tmps a0.defers w.drew listed a w1∧((listed.getD z false=false∧w'=w1)∨(listed.getD z false=true∧listed.getD y false=false∧F (fun t=>a.tmps.getD t undef) w1 w')∨(listed.getD y false=true∧F2 (fun t=>a.tmps.getD t undef) w1 w'))) ?_ ?_ ops.size _ a0 _ ?_ ?_
 ·rintro listed a w2 i ⟨w1,hI,hZ⟩ hi;obtain⟨o,ho,hl,haf⟩:=kD hi
  have hil:i < listed.size:=by
   by_cases q:i < listed.size
   ·exact q
   ·rw[Array.getD_eq_getD_getElem?,Array.getElem?_eq_none (by omega)] at hl;cases hl
  have hl2:listed.getD i false=false:=by
   rw[Array.getD_eq_getD_getElem?,Array.getElem?_eq_getElem hil] at hl ⊢;simpa using hl
  have qb:∀t e,src t=some e→(o.after.toList.any fun x=>x.on==e && Region.binds .any x)=true→G e (a.tmps.getD t undef) w1:=fun t e hs ha=>by
   rw[List.any_eq_true] at ha;obtain⟨x,hx,hq⟩:=ha;rw[Bool.and_eq_true] at hq;have:=haf x (by simpa using hx) hq.2;rw[eq_of_beq hq.1] at this;exact hI.sl t e hs this
  have yn:∀t e,src t=some e→((ops[e]?).any fun p=>p.after.toList.any fun x=>x.on==i && Region.binds .any x)=true→a.tmps.getD t undef=a0.tmps.getD t undef:=fun t e hs ha=>by
   cases hp:ops[e]? with
   | none=>rw[hp] at ha;cases ha
   | some p =>
     rw[hp] at ha;have ha':(p.after.toList.any fun x=>x.on==i && Region.binds .any x)=true:=ha;rw[List.any_eq_true] at ha';obtain⟨x,hx,hq⟩:=ha';rw[Bool.and_eq_true] at hq;refine hI.un t e hs ?_;cases hle:listed.getD e false with
     | false=>rfl
     | true =>
       have:=hI.cl e p hp hle x (by simpa using hx) hq.2;rw[eq_of_beq hq.1,hl2] at this;cases this
  have key : ∀v w1',Ext w1 w1'→(o.dst.isSome=true→G i v w1')→PInv ops src G a0.tmps a0.defers w.drew (listed.setIfInBounds i true) (a.put o.dst v) w1':=by
   intro v w1' hext hg;refine⟨by rw[Array.size_setIfInBounds];exact hI.ls,?_,?_,hI.ex.trans hext,?_,?_,?_,?_⟩
   ·cases o.dst with
    | none=>exact hI.sz
    | some d=>show(a.tmps.setIfInBounds d v).size=_;rw[Array.size_setIfInBounds];exact hI.sz
   ·cases o.dst with
    | none=>exact hI.df
    | some d=>exact hI.df
   ·intro t j hs hj
    by_cases hji:j=i
    ·subst hji;obtain⟨o2,ho2,hd2⟩:=hall t j hs;rw[ho] at ho2;cases ho2;rw[hd2,yM,if_pos ⟨rfl,by rw[hI.sz];exact(hsrc j o t ho hd2).2⟩];exact hg (by rw[hd2];rfl)
    ·rw [yY] at hj;rcases hj with ⟨e,-⟩|hj
     ·exact absurd e hji
     ·have h9:=hI.sl t j hs hj
      have e9:(a.put o.dst v).tmps.getD t undef=a.tmps.getD t undef:=by
       cases hd:o.dst with
       | none=>rfl
       | some d =>
         rw[yM,if_neg];rintro ⟨rfl,-⟩;rw[(hsrc i o d ho hd).1] at hs;exact hji (inj hs).symm
      rw[e9];exact hG j _ _ _ h9 hext
   ·intro t j hs hj
    have hji:j≠i:=by
     rintro rfl;have:(listed.setIfInBounds j true).getD j false=true:=(yY _ _ _).2 (.inl ⟨rfl,hil⟩);rw[this] at hj;cases hj
    have hj2:listed.getD j false=false:=by
     cases q:listed.getD j false with
     | false=>rfl
     | true =>
       have:(listed.setIfInBounds i true).getD j false=true:=(yY _ _ _).2 (.inr q);rw[this] at hj;cases hj
    have e9:(a.put o.dst v).tmps.getD t undef=a.tmps.getD t undef:=by
     cases hd:o.dst with
     | none=>rfl
     | some d =>
       rw[yM,if_neg];rintro ⟨rfl,-⟩;rw[(hsrc i o d ho hd).1] at hs;exact hji (inj hs).symm
    rw[e9];exact hI.un t j hs hj2
   ·intro t hs
    have e9:(a.put o.dst v).tmps.getD t undef=a.tmps.getD t undef:=by
     cases hd:o.dst with
     | none=>rfl
     | some d =>
       rw[yM,if_neg];rintro ⟨rfl,-⟩;rw[(hsrc i o d ho hd).1] at hs;cases hs
    rw[e9];exact hI.ol t hs
   ·intro e p hp he x hx hb;rw[yY];right;rw[yY] at he;rcases he with ⟨rfl,-⟩|he
    ·rw [ho] at hp;cases hp;exact haf x hx hb
    ·exact hI.cl e p hp he x hx hb
  have hall2:(∀e,e=y→∀p,ops[e]?=some p→∀x∈ p.after,Region.binds .any x=true→listed.getD x.on false=true)→∀n i,ops.size - i≤n→i < ops.size→i≠y→listed.getD i false=true:=by
   intro hyd n
   induction n with
   | zero=>intro i hn hi;omega
   | succ n ih =>
     intro i hn hi hne;obtain⟨e,p,qD,hp,ha⟩:=hB i hi hne;have hes:=(Array.getElem?_eq_some_iff.1 hp).1;rw[List.any_eq_true] at ha;obtain⟨x,hx,hq⟩:=ha;rw[Bool.and_eq_true] at hq
     by_cases hey:e=y
     ·have:=hyd e hey p hp x (by simpa using hx) hq.2;rw[eq_of_beq hq.1] at this;exact this
     ·have hel:=ih e (by omega) hes hey;have:=hI.cl e p hp hel x (by simpa using hx) hq.2;rw[eq_of_beq hq.1] at this;exact this
  have hend:listed.getD y false=true→False:=by
   intro hy
   by_cases hiy:i=y
   ·rw[hiy,hy] at hl2;cases hl2
   ·have:=hall2 (fun e he p hp x hx hb=>hI.cl e p hp (by rw[he];exact hy) x hx hb) _ i (Nat.le_refl _) (by rw[← hI.ls];exact hil) hiy;rw[this] at hl2;cases hl2
  by_cases hiz:i=z
  ·subst hiz;rcases hZ with ⟨-,rfl⟩|⟨h,-⟩|⟨h,-⟩
   ·obtain ⟨h1,h2⟩:=hla o ho a w2 hI.ex hI.sz hI.ol qb yn;unfold wpOp;rw[ho];simp only[h1,if_true];refine .inl (Oper.wp_mono ?_ h2);rintro a' w' ⟨v,rfl,hg,hf⟩;refine⟨w2,key v w2 (Ext.refl _) hg,.inr (.inl ⟨(yY _ _ _).2 (.inl ⟨rfl,hil⟩),?_,hf⟩)⟩;cases q2:(listed.setIfInBounds i true).getD y false with
    | false=>rfl
    | true =>
      rcases(yY _ _ _).1 q2 with ⟨e,-⟩|e
      ·exact absurd e.symm hzy
      ·exact(hend e).elim
   ·rw[h] at hl2;cases hl2
   ·exact(hend h).elim
  ·by_cases hiy:i=y
   ·subst hiy;have hz1:listed.getD z false=true:=hall2 (fun e he p hp x hx hb=>by subst he;rw[ho] at hp;cases hp;exact haf x hx hb) _ z (Nat.le_refl _) hzl hzy;rcases hZ with ⟨h,-⟩|⟨-,-,hf⟩|⟨h,-⟩
    ·rw[hz1] at h;cases h
    ·obtain ⟨h1,h2⟩:=hyo o ho a w1 w2 hI.ex hI.sz hI.ol qb yn hf;unfold wpOp;rw[ho];simp only[h1,if_true];refine .inl (Oper.wp_mono ?_ h2);rintro a' w' ⟨v,rfl,hg,hf'⟩;exact⟨w1,key v w1 (Ext.refl _) hg,.inr (.inr ⟨(yY _ _ _).2 (.inl ⟨rfl,hil⟩),hf'⟩)⟩
    ·exact(hend h).elim
   have hy':(listed.setIfInBounds i true).getD y false=false:=by
    cases q2:(listed.setIfInBounds i true).getD y false with
    | false=>rfl
    | true =>
      rcases(yY _ _ _).1 q2 with ⟨e,-⟩|e
      ·exact absurd e.symm hiy
      ·exact(hend e).elim
   have hz':(listed.setIfInBounds i true).getD z false=listed.getD z false:=by
    cases q:listed.getD z false with
    | true=>exact(yY _ _ _).2 (.inr q)
    | false =>
      cases q2:(listed.setIfInBounds i true).getD z false with
      | false=>rfl
      | true =>
        rcases(yY _ _ _).1 q2 with ⟨e,-⟩|e
        ·exact absurd e.symm hiz
        ·rw[q] at e;cases e
   rcases hZ with ⟨hz0,rfl⟩|⟨hz1,hy0,hf⟩|⟨h,-⟩
   ·obtain ⟨h1,h2⟩:=hst i o ho hiz hiy a w2 hI.ex hI.ol qb yn;unfold wpOp;rw[ho];simp only[h1,if_true];refine .inl (Oper.wp_mono ?_ h2);rintro a' w' ⟨v,rfl,hext,hg⟩;exact⟨w',key v w' hext hg,.inl ⟨by rw[hz'];exact hz0,rfl⟩⟩
   ·rcases hpu i o ho hiz hiy with hb|hb
    ·exfalso
     have hanc:∀n i,ops.size - i≤n→A i=true→listed.getD i false=true:=by
      intro n
      induction n with
      | zero =>
        intro i hn hAi;obtain⟨e,p,qD,he,hp,ha⟩:=hA i hAi;have:=(Array.getElem?_eq_some_iff.1 hp).1;omega
      | succ n ih =>
        intro i hn hAi;obtain⟨e,p,qD,he,hp,ha⟩:=hA i hAi
        have hel:listed.getD e false=true:=by
         rcases he with rfl|he
         ·exact hz1
         ·exact ih e (by omega) he
        rw[List.any_eq_true] at ha;obtain⟨x,hx,hq⟩:=ha;rw[Bool.and_eq_true] at hq;have:=hI.cl e p hp hel x (by simpa using hx) hq.2;rw[eq_of_beq hq.1] at this;exact this
     rw[hanc _ i (Nat.le_refl _) hb] at hl2;cases hl2
    ·obtain ⟨h1,h2⟩:=hb a w1 w2 hI.ex hI.sz hI.ol qb yn hf;unfold wpOp;rw[ho];simp only[h1,if_true];refine .inl (Oper.wp_mono ?_ h2);rintro a' w' ⟨v,rfl,rfl,hg,hf'⟩;exact⟨w1,key v w1 (Ext.refl _) hg,.inr (.inl ⟨by rw[hz'];exact hz1,hy',hf'⟩)⟩
   ·exact(hend h).elim
 ·rintro listed a w2 ⟨w1,hI,hZ⟩ hr
  have hlist:∀i o,ops[i]?=some o→listed.getD i false=true:=by
   intro i
   induction i using Nat.strongRecOn with
   | _ i ih =>
     intro o ho;have hi:i < ops.size:=(Array.getElem?_eq_some_iff.1 ho).1;cases hq:listed.getD i false with
     | true=>rfl
     | false =>
       exfalso
       have hl:listed.getD i true=false:=by
        rw[Array.getD_eq_getD_getElem?,Array.getElem?_eq_getElem (by rw[hI.ls];exact hi)] at hq ⊢
        simpa using hq
       have:i∈ Region.ready .any ops listed:=JG ho hl (fun x hx hb=>by
        have qD:=hlow i o ho x hx hb;obtain⟨p,hp⟩:∃p,ops[x.on]?=some p:=⟨_,Array.getElem?_eq_getElem (by omega)⟩;exact ih x.on qD p hp)
       rw[hr] at this;cases this
  have hsl:∀t i,src t=some i→G i (a.tmps.getD t undef) w1:=by
   intro t i hs;obtain⟨o,ho,-⟩:=hall t i hs;exact hI.sl t i hs (hlist i o ho)
  have hfr:a.tmps=jO a0.tmps src (fun t=>a.tmps.getD t undef):=by
   apply Array.ext
   ·unfold jO;simp;exact hI.sz
   ·intro t h1 h2;unfold jO;simp only[List.getElem_toArray,List.getElem_mapIdx];cases hs:src t with
    | some i=>simp[Array.getD,h1,hs]
    | none =>
      have h9:=hI.ol t hs;have h3:t < a0.tmps.size:=(by rw[← hI.sz];exact h1);rw[Array.getD_eq_getD_getElem?,Array.getD_eq_getD_getElem?,Array.getElem?_eq_getElem h1,Array.getElem?_eq_getElem h3] at h9
      simpa [hs] using h9
  obtain⟨oy,hoy⟩:∃o,ops[y]?=some o:=⟨_,Array.getElem?_eq_getElem hyl⟩;obtain⟨oz,hoz⟩:∃o,ops[z]?=some o:=⟨_,Array.getElem?_eq_getElem hzl⟩
  have hf2:F2 (fun t=>a.tmps.getD t undef) w1 w2:=by
   rcases hZ with ⟨h,-⟩|⟨-,h,-⟩|⟨-,h⟩
   ·rw[hlist z oz hoz] at h;cases h
   ·rw[hlist y oy hoy] at h;cases h
   ·exact h
  have:=hfin (fun t=>a.tmps.getD t undef) w1 w2 hI.ex hsl hf2;rw[← hfr,← hI.df] at this;exact this
 ·rw [Array.toList_replicate];unfold left;simp
 ·refine ⟨_,⟨Array.size_replicate,rfl,rfl,Ext.refl _,?_,fun _ _ _ _=>rfl,fun _ _=>rfl,?_⟩,.inl ⟨?_,rfl⟩⟩
  ·intro t i hs hl;rw[Array.getD_eq_getD_getElem?,Array.getElem?_replicate] at hl
   split at hl<;>cases hl
  ·intro e o ho hl;rw[Array.getD_eq_getD_getElem?,Array.getElem?_replicate] at hl
   split at hl<;>cases hl
  ·rw [Array.getD_eq_getD_getElem?,Array.getElem?_replicate]
   split<;>rfl
end
def V7(ops:Array Oper)(y:Nat):Bool:=decide (y < ops.size) && (List.range ops.size).all fun i=>(i==y) || (List.range ops.size).any fun e=>decide (i < e) && (match ops[e]? with|some p=>p.after.toList.any fun x=>x.on==i && Region.binds .any x|none=>false)
theorem vr{ops:Array Oper}{y:Nat}(h:V7 ops y=true):y < ops.size∧∀i,i < ops.size→i≠y→∃e p,i < e∧ops[e]?=some p∧(p.after.toList.any fun x=>x.on==i && Region.binds .any x)=true:=by
 unfold V7 at h;rw[Bool.and_eq_true,decide_eq_true_eq,List.all_eq_true] at h;refine⟨h.1,fun i hi hne=>?_⟩;have h1:=h.2 i (List.mem_range.2 hi);rw[Bool.or_eq_true,beq_iff_eq,List.any_eq_true] at h1;rcases h1 with h1|⟨e,he,h2⟩
 ·exact absurd h1 hne
 ·rw [Bool.and_eq_true,decide_eq_true_eq] at h2;cases hp:ops[e]? with
  | none=>rw[hp] at h2;exact absurd h2.2 (by simp)
  | some p =>
    rw[hp] at h2;exact⟨e,p,h2.1,hp,h2.2⟩
variable {P:Program} {Q:Exit→Act→World→Prop}
theorem zp{ops:Array Oper}{id:Nat}{a0:Act}{w:World}(tbl:List (Nat× Nat))(G:Nat→Value→World→Prop)(z y:Nat)(F F2:(Nat→Value)→World→World→Prop)
 (hm:P.follows .mixedOrders=true) (hchk:uf ops tbl a0.tmps.size=true)
 (hG:∀i v w w',G i v w→Ext w w'→G i v w')
 (A:Nat→Bool) (hA:V8 ops A z=true) (hy:V7 ops y=true) (hzy:z < y)
 (hst:∀i o,ops[i]?=some o→i≠z→i≠y→QP P ops Q (zM tbl) G a0.tmps w.drew i o)
 (hpu:∀i o,ops[i]?=some o→i≠z→i≠y→A i=true∨Yr P ops Q (zM tbl) G F a0.tmps w.drew i o)
 (hla:∀o,ops[z]?=some o→Yt P ops Q (zM tbl) G F a0.tmps w.drew z o)
 (hyo:∀o,ops[y]?=some o→Ys P ops Q (zM tbl) G F F2 a0.tmps w.drew y o)
 (hfin:∀(x:Nat→Value) (w1 w':World),Ext w.drew w1→(∀t i,zM tbl t=some i→G i (x t) w1)→F2 x w1 w'→Q .normal ⟨frameT tbl x a0.tmps,a0.defers⟩ w') :
 (Code.region id ops true).wp P Q a0 w :=
 xG hm (zM tbl) G z y F F2 hG (JH hchk) (JI hchk) (JJ hchk) _ (V4 hA) (by omega) (vr hy).1 (by have:=(vr hy).1;omega) (vr hy).2 hst (fun i o ho hz hy'=>(hpu i o ho hz hy').imp (fun q=>by rw[q];simp[(Array.getElem?_eq_some_iff.1 ho).1]) (fun q=>q)) hla hyo (fun x w1 w' h1 h2 h3=>by rw[J9];exact hfin x w1 w' h1 h2 h3)
theorem yu(w:World)(o:Obj):Below w.heap.size w (w.alloc o):=(Below.refl _ _).alloc (Nat.le_refl _) o
theorem isw_lt{L:List Tk.T4}{i:Nat}{s:ByteArray}(h:Pc.isW L i s=true):i < L.length:=by
 apply Classical.byContradiction;intro q;unfold Pc.isW at h;rw[Vq q 1] at h;cases h
theorem xH{P:Program}(w:World){ops:Array Oper}{o:Oper}{a:Act}{K:Act→World→Prop}{Q:Exit→Act→World→Prop}{E:Prop}(hgd:o.guard=none)(s x:Operand)(t:TypeId)
 (ho:o.op=.call { callee:=.builtin .append,args:=#[s,x],argTypes:=#[t,t] })
 (base:Nat) (e:TypeId) (i:TypeInfo) (z:Value) (size bytes:Nat) (ht:P.underlying t=some (.slice e)) (hi:P.info? e=some i) (hz:i.zero=some z)
 (hsize:i.size=size) (hby:i.bytes=bytes) (hzs:z.cells.size=size) (ym:0 < size)
 (v:Value) (n:Nat) (xs:List Value) (hs:a.eval s=v) (qi:w.ownsRow base e size v n xs)
 (ad:Addr) (m c:Nat) (news:List Value) (hx:a.eval x=.slice (some ad) m c) (hl:news.length=m * size) (hnews:∀j u,news[j]?=some u→w.cell? (ad.add j)=some u) (h1:∀u∈ news,u.oneCell'=true)
 (h63:n+m≤maxLen) (hbytes:(n+m) * bytes≤140737488355328) (hbase:base≤w.heap.size)
 (h:∀v' w',w'.ownsRow base e size v' (n+m) (xs++news)→w.grownBy w' v.ownBlock→(v'.ownBlock=v.ownBlock∨v'.ownBlock=some w.heap.size)→K (a.put o.dst v') w') :
 if Region.wanted o (yielded ops a.tmps)=true then Oper.wp P o a w K Q else E:=by
 have hw:Region.wanted o (yielded ops a.tmps)=true:=by simp[Region.wanted,hgd]
 rw[if_pos hw];obtain⟨v',w',hr,h2,h3,_,h5⟩:=run_append_own_at (P:=P) w base t o.type e i z size bytes ht hi hz hsize hby hzs ym v n xs qi ad m c news hl hnews h1 h63 hbytes hbase;unfold Oper.wp execOp;simp only[ho,resolve,invoke,builtin,Sem.run_bind,Sem.run_pure,Result.andThen_ok,List.map_toArray,List.map_cons,List.map_nil,hs,hx,hr];exact h v' w' h2 h3 h5
theorem Tryz.infoCnP:(Tryz.prog.info? 85).map (fun i=>(i.zero,i.size,i.bytes))=some (some (.agg #[.string ⟨#[]⟩,.int .i64 0,.int .i64 0,.string ⟨#[]⟩,.slice none 0 0]),5,72):=by kernel_rfl
theorem Tryz.infoRuP:(Tryz.prog.info? 87).map (fun i=>(i.zero,i.size,i.bytes))=some (some (.agg #[.int .i64 0,.string ⟨#[]⟩,.int .i64 0,.int .i64 0,.string ⟨#[]⟩,.slice none 0 0]),6,80):=by kernel_rfl
theorem Tryz.infoCoP:(Tryz.prog.info? 89).map (fun i=>(i.zero,i.size,i.bytes))=some (some (.agg #[.int .i64 0,.int .i64 0,.int .i64 0,.string ⟨#[]⟩,.slice none 0 0]),5,64):=by kernel_rfl
theorem Tryz.infoXpP:(Tryz.prog.info? 24).map (fun i=>(i.zero,i.size,i.bytes))=some (some (.agg #[.int .i64 0,.int .i64 0,.string ⟨#[]⟩,.slice none 0 0]),4,56):=by kernel_rfl
theorem Tryz.infoLiP:(Tryz.prog.info? 91).map (fun i=>(i.zero,i.size,i.bytes))=some (some (.agg #[.string ⟨#[]⟩,.string ⟨#[]⟩,.int .i64 0,.int .i64 0]),4,48):=by kernel_rfl
theorem Tryz.infoOfP:(Tryz.prog.info? 93).map (fun i=>(i.zero,i.size,i.bytes))=some (some (.agg #[.string ⟨#[]⟩,.int .i64 0,.int .i64 0]),3,32):=by kernel_rfl
theorem Yh(r:Cn):∀u∈ j4 r,u.oneCell'=true:=by
 intro u hu;simp only[j4,List.mem_cons,List.not_mem_nil,or_false] at hu;rcases hu with rfl|rfl|rfl|rfl|rfl<;>rfl
theorem Yf(r:Ru):∀u∈ zV r,u.oneCell'=true:=by
 intro u hu;simp only[zV,List.mem_cons,List.not_mem_nil,or_false] at hu;rcases hu with rfl|rfl|rfl|rfl|rfl|rfl<;>rfl
theorem Yg(r:Co):∀u∈ j3 r,u.oneCell'=true:=by
 intro u hu;simp only[j3,List.mem_cons,List.not_mem_nil,or_false] at hu;rcases hu with rfl|rfl|rfl|rfl|rfl<;>rfl
theorem U4(r:Li):∀u∈ kH r,u.oneCell'=true:=by
 intro u hu;simp only[kH,List.mem_cons,List.not_mem_nil,or_false] at hu;rcases hu with rfl|rfl|rfl|rfl<;>rfl
theorem U3(r:Of):∀u∈ kF r,u.oneCell'=true:=by
 intro u hu;simp only[kF,List.mem_cons,List.not_mem_nil,or_false] at hu;rcases hu with rfl|rfl|rfl<;>rfl
theorem xU(w:World)(x:Ch):∃wa,w.alloc (.cells #[.int .i64 x.a.op,.int .i64 x.a.num,.string x.a.name,.slice x.a.ptr (len x.k) x.a.cap] 24)=wa∧Below w.heap.size w wa∧wa.cell? ⟨w.heap.size,0,none⟩=some (.int .i64 x.a.op)∧wa.cell? ⟨w.heap.size,1,none⟩=some (.int .i64 x.a.num)∧wa.cell? ⟨w.heap.size,2,none⟩=some (.string x.a.name)∧wa.cell? ⟨w.heap.size,3,none⟩=some (.slice x.a.ptr (len x.k) x.a.cap) :=
 ⟨_,rfl,yu _ _,by simp[go_sem],by simp[go_sem],by simp[go_sem],by simp[go_sem]⟩
theorem tok_num{L:List Tk.T4}(hV:∀t∈ L,VT t.t)(i:Nat):0≤(Pc.tok L i).num∧(Pc.tok L i).num≤1099511627776:=by
 unfold Pc.tok;cases h:L[i]? with
 | none=>exact⟨by show(0:Int)≤0;omega,by show(0:Int)≤_;omega⟩
 | some t =>
   have q:=hV t (List.mem_of_getElem? h)
   show 0≤t.t.num∧t.t.num≤_
   rcases q with q|q|q|q<;>omega
theorem tok_bd{L:List Tk.T4}(hV:∀t∈ L,VT t.t)(i:Nat):Bd (Pc.tok L i).num:=by
 have:=tok_num hV i;unfold Bd;omega
theorem zd{n cb:Nat}{w w1 w2:World}{row:Option Nat}(h:Below n w w1)(hn:n≤w.heap.size)(hg:w1.grownBy w2 row)(hr:∀g,row=some g→n≤g)(hc:n≤cb)(k:Nat)(u:Value):Below n w (w2.setCell ⟨cb,k,none⟩ u):=by
 have h2:Below n w w2:=⟨hg.os.trans h.os,hg.tape.trans h.tape,hg.output.trans h.output,Nat.le_trans h.size hg.size,fun q hq=>(hg.block q (by have:=h.size;omega) (fun e=>by have:=hr q e.symm;omega)).trans (h.block q hq)⟩;exact h2.setCell (p:=⟨cb,k,none⟩) hc u
section
variable {ρ:Operand→Value}{d:Option Tmp}{ty:TypeId}{pos:String}{af:Array Edge}{gd:Option (Nat×Bool)}{w:World}
theorem qZ(x:Operand)(p:Addr)(h:ρ x=.pointer (some p)):(execOp ρ ⟨d,.nilCheck x,ty,pos,af,gd⟩).run Tryz.prog w=.ok (.value (.pointer (some p))) w:=by
 simp only[execOp,h];go_simp
theorem zq(x:Operand)(b k i:Nat)(hi:i=1∨i=2)(h:ρ x=.pointer (some ⟨b,k,none⟩)):(execOp ρ ⟨d,.fieldAddr 68 x i,ty,pos,af,gd⟩).run Tryz.prog w=.ok (.value (.pointer (some ⟨b,k+i,none⟩))) w:=by
 rcases hi with rfl|rfl
 ·simp only [execOp,h];go_simp
 ·simp only [execOp,h];go_simp
theorem zO(x:Operand)(b k n c i:Nat)(hc:ρ (.const (.int .i64 i))=.int .i64 i)(hi:i < n)(h:ρ x=.slice (some ⟨b,k,none⟩) n c):(execOp ρ ⟨d,.indexAddr 56 x (.const (.int .i64 i)),ty,pos,af,gd⟩).run Tryz.prog w=.ok (.value (.pointer (some ⟨b,k+i * 4,none⟩))) w:=by
 have h1:(i:Int) < (n:Int):=by omega
 simp only[execOp,h,hc];go_simp
theorem yO(x:Operand)(p:Addr)(T:TypeId)(hT:T = 9∨T = 3∨T = 40∨T = 41∨T = 38∨T = 39)(v:Value)(h:ρ x=.pointer (some p))(hv:w.cell? p=some v):(execOp ρ ⟨d,.load T x,ty,pos,af,gd⟩).run Tryz.prog w=.ok (.value v) w:=by
 rcases hT with rfl|rfl|rfl|rfl|rfl|rfl
 ·simp only [execOp,h];go_simp
 ·simp only [execOp,h];go_simp
 ·simp only [execOp,h];go_simp
 ·simp only [execOp,h];go_simp
 ·simp only [execOp,h];go_simp
 ·simp only [execOp,h];go_simp
theorem JB(a b c e:Operand)(x y:ByteArray)(m n:Int)(h1:ρ a=.string x)(h2:ρ b=.string y)(h3:ρ c=.int .i64 m)(h4:ρ e=.int .i64 n):(execOp ρ ⟨d,.build 91 #[(0,a),(1,b),(2,c),(3,e)],ty,pos,af,gd⟩).run Tryz.prog w=.ok (.value (.agg #[.string x,.string y,.int .i64 m,.int .i64 n])) w:=by
 simp only[execOp,List.map_toArray,List.map,h1,h2,h3,h4];go_simp
theorem JA(a c e:Operand)(x:ByteArray)(m n:Int)(h1:ρ a=.string x)(h3:ρ c=.int .i64 m)(h4:ρ e=.int .i64 n):(execOp ρ ⟨d,.build 93 #[(0,a),(1,c),(2,e)],ty,pos,af,gd⟩).run Tryz.prog w=.ok (.value (.agg #[.string x,.int .i64 m,.int .i64 n])) w:=by
 simp only[execOp,List.map_toArray,List.map,h1,h3,h4];go_simp
theorem vE(a b c:Operand)(m:Int)(x:ByteArray)(u0 u1 u2 u3:Value)(h1:ρ a=.int .i64 m)(h2:ρ b=.string x)(h3:ρ c=.agg #[u0,u1,u2,u3]):(execOp ρ ⟨d,.build 87 #[(0,a),(1,b),(2,c)],ty,pos,af,gd⟩).run Tryz.prog w=.ok (.value (.agg #[.int .i64 m,.string x,u0,u1,u2,u3])) w:=by
 simp only[execOp,List.map_toArray,List.map,h1,h2,h3];go_simp
theorem vF(a c:Operand)(m:Int)(u0 u1 u2 u3:Value)(h1:ρ a=.int .i64 m)(h3:ρ c=.agg #[u0,u1,u2,u3]):(execOp ρ ⟨d,.build 89 #[(0,a),(1,c)],ty,pos,af,gd⟩).run Tryz.prog w=.ok (.value (.agg #[.int .i64 m,u0,u1,u2,u3])) w:=by
 simp only[execOp,List.map_toArray,List.map,h1,h3];go_simp
theorem Y6(a:Operand)(u0 u1 u2 u3 u4 u5:Value)(h:ρ a=.agg #[u0,u1,u2,u3,u4,u5]):(execOp ρ ⟨d,.buildSlice 38 1 #[(0,a)],ty,pos,af,gd⟩).run Tryz.prog w=.ok (.value (.slice (some ⟨w.heap.size,0,none⟩) 1 1)) (w.alloc (.cells #[u0,u1,u2,u3,u4,u5] 87)):=by
 simp only[execOp,List.map_toArray,List.map,h];go_simp
theorem Y7(a:Operand)(u0 u1 u2 u3 u4:Value)(h:ρ a=.agg #[u0,u1,u2,u3,u4]):(execOp ρ ⟨d,.buildSlice 39 1 #[(0,a)],ty,pos,af,gd⟩).run Tryz.prog w=.ok (.value (.slice (some ⟨w.heap.size,0,none⟩) 1 1)) (w.alloc (.cells #[u0,u1,u2,u3,u4] 89)):=by
 simp only[execOp,List.map_toArray,List.map,h];go_simp
theorem KV(a:Operand)(u0 u1 u2 u3:Value)(h:ρ a=.agg #[u0,u1,u2,u3]):(execOp ρ ⟨d,.buildSlice 40 1 #[(0,a)],ty,pos,af,gd⟩).run Tryz.prog w=.ok (.value (.slice (some ⟨w.heap.size,0,none⟩) 1 1)) (w.alloc (.cells #[u0,u1,u2,u3] 91)):=by
 simp only[execOp,List.map_toArray,List.map,h];go_simp
theorem KU(a:Operand)(u0 u1 u2:Value)(h:ρ a=.agg #[u0,u1,u2]):(execOp ρ ⟨d,.buildSlice 41 1 #[(0,a)],ty,pos,af,gd⟩).run Tryz.prog w=.ok (.value (.slice (some ⟨w.heap.size,0,none⟩) 1 1)) (w.alloc (.cells #[u0,u1,u2] 93)):=by
 simp only[execOp,List.map_toArray,List.map,h];go_simp
theorem kh(x y:Operand)(p:Addr)(T:TypeId)(hT:T = 40∨T = 41∨T = 38∨T = 39)(q:Option Addr)(n c:Nat)(o:Value)(h:ρ x=.pointer (some p))(h':ρ y=.slice q n c)(hc:w.cell? p=some o)(hf:w.frozen? p=false):(execOp ρ ⟨none,.store T x y,ty,pos,af,gd⟩).run Tryz.prog w=.ok .skip (w.setCell p (.slice q n c)):=by
 rcases hT with rfl|rfl|rfl|rfl
 ·simp only [execOp,h,h'];go_simp
 ·simp only [execOp,h,h'];go_simp
 ·simp only [execOp,h,h'];go_simp
 ·simp only [execOp,h,h'];go_simp
end
inductive Wl where
 | eq (v:Value)
 | row (B:Nat) (l:List Value)
 | any
def Wl.ok:Wl→Value→World→Prop
 | .eq u,v,_=>v=u
 | .row B l,v,w=>∃b,v=.slice (some ⟨b,0,none⟩) 1 1∧B≤b∧b < w.heap.size∧∀j u,l[j]?=some u→w.cell? ⟨b,j,none⟩=some u
 | .any,_,_=>True
theorem Wl.ext{x:Wl}{v:Value}{w w':World}(h:x.ok v w)(he:Ext w w'):x.ok v w':=by
 cases x with
 | eq u=>exact h
 | any=>exact h
 | row B l =>
   obtain⟨b,h1,h2,h3,h4⟩:=h;exact⟨b,h1,h2,Nat.lt_of_lt_of_le h3 he.size,fun j u hj=>by rw[Below.cell he (p:=⟨b,j,none⟩) h3];exact h4 j u hj⟩
theorem KD(w:World)(B:Nat)(hB:B≤w.heap.size)(u0 u1 u2 u3:Value)(t:TypeId):(Wl.row B [u0,u1,u2,u3]).ok (.slice (some ⟨w.heap.size,0,none⟩) 1 1) (w.alloc (.cells #[u0,u1,u2,u3] t)):=by
 refine⟨_,rfl,hB,by simp,fun j u hj=>?_⟩
 match j,hj with
 | 0,hj=>(cases hj;simp[go_sem])
 | 1,hj=>(cases hj;simp[go_sem])
 | 2,hj=>(cases hj;simp[go_sem])
 | 3,hj=>(cases hj;simp[go_sem])
 | j+4,hj=>simp at hj
theorem xL(w:World)(B:Nat)(hB:B≤w.heap.size)(u0 u1 u2 u3 u4:Value)(t:TypeId):(Wl.row B [u0,u1,u2,u3,u4]).ok (.slice (some ⟨w.heap.size,0,none⟩) 1 1) (w.alloc (.cells #[u0,u1,u2,u3,u4] t)):=by
 refine⟨_,rfl,hB,by simp,fun j u hj=>?_⟩
 match j,hj with
 | 0,hj=>(cases hj;simp[go_sem])
 | 1,hj=>(cases hj;simp[go_sem])
 | 2,hj=>(cases hj;simp[go_sem])
 | 3,hj=>(cases hj;simp[go_sem])
 | 4,hj=>(cases hj;simp[go_sem])
 | j+5,hj=>simp at hj
theorem QR(w:World)(B:Nat)(hB:B≤w.heap.size)(u0 u1 u2 u3 u4 u5:Value)(t:TypeId):(Wl.row B [u0,u1,u2,u3,u4,u5]).ok (.slice (some ⟨w.heap.size,0,none⟩) 1 1) (w.alloc (.cells #[u0,u1,u2,u3,u4,u5] t)):=by
 refine⟨_,rfl,hB,by simp,fun j u hj=>?_⟩
 match j,hj with
 | 0,hj=>(cases hj;simp[go_sem])
 | 1,hj=>(cases hj;simp[go_sem])
 | 2,hj=>(cases hj;simp[go_sem])
 | 3,hj=>(cases hj;simp[go_sem])
 | 4,hj=>(cases hj;simp[go_sem])
 | 5,hj=>(cases hj;simp[go_sem])
 | j+6,hj=>simp at hj
theorem KE(w:World)(B:Nat)(hB:B≤w.heap.size)(u0 u1 u2:Value)(t:TypeId):(Wl.row B [u0,u1,u2]).ok (.slice (some ⟨w.heap.size,0,none⟩) 1 1) (w.alloc (.cells #[u0,u1,u2] t)):=by
 refine⟨_,rfl,hB,by simp,fun j u hj=>?_⟩
 match j,hj with
 | 0,hj=>(cases hj;simp[go_sem])
 | 1,hj=>(cases hj;simp[go_sem])
 | 2,hj=>(cases hj;simp[go_sem])
 | j+3,hj=>simp at hj
theorem zD{P:Program}{Q:Exit→Act→World→Prop}{o:Oper}{a:Act}{w w':World}{K:Act→World→Prop}(h:(execOp a.eval o).run P w=.ok .skip w')(hk:K (a.put o.dst undef) w'):o.wp P a w K Q:=by
 unfold Oper.wp;rw[h];exact hk
theorem yJ{P:Program}(w:World){o:Oper}{a:Act}{K:Act→World→Prop}{Q:Exit→Act→World→Prop}(hgd:o.guard=none)(s x:Operand)(t:TypeId)
 (ho:o.op=.call { callee:=.builtin .append,args:=#[s,x],argTypes:=#[t,t] })
 (base:Nat) (e:TypeId) (i:TypeInfo) (z:Value) (size bytes:Nat) (ht:P.underlying t=some (.slice e)) (hi:P.info? e=some i) (hz:i.zero=some z)
 (hsize:i.size=size) (hby:i.bytes=bytes) (hzs:z.cells.size=size) (ym:0 < size)
 (v:Value) (n:Nat) (xs:List Value) (hs:a.eval s=v) (qi:w.ownsRow base e size v n xs)
 (ad:Addr) (m c:Nat) (news:List Value) (hx:a.eval x=.slice (some ad) m c) (hl:news.length=m * size) (hnews:∀j u,news[j]?=some u→w.cell? (ad.add j)=some u) (h1:∀u∈ news,u.oneCell'=true)
 (h63:n+m≤maxLen) (hbytes:(n+m) * bytes≤140737488355328) (hbase:base≤w.heap.size)
 (h:∀v' w',w'.ownsRow base e size v' (n+m) (xs++news)→w.grownBy w' v.ownBlock→(v'.ownBlock=v.ownBlock∨v'.ownBlock=some w.heap.size)→K (a.put o.dst v') w') :
 Oper.wp P o a w K Q:=by
 obtain⟨v',w',hr,h2,h3,_,h5⟩:=run_append_own_at (P:=P) w base t o.type e i z size bytes ht hi hz hsize hby hzs ym v n xs qi ad m c news hl hnews h1 h63 hbytes hbase;unfold Oper.wp execOp;simp only[ho,resolve,invoke,builtin,Sem.run_bind,Sem.run_pure,Result.andThen_ok,List.map_toArray,List.map_cons,List.map_nil,hs,hx,hr];exact h v' w' h2 h3 h5
theorem kX{ρ:Operand→Value}{d:Option Tmp}{ty:TypeId}{pos:String}{af:Array Edge}{gd:Option (Nat×Bool)}{w:World}(x:Operand)(b:Nat)(c0 c1 c2 c3:Value)(h:ρ x=.pointer (some ⟨b,0,none⟩))(h0:w.cell? ⟨b,0,none⟩=some c0)(h1:w.cell? ⟨b,1,none⟩=some c1)(h2:w.cell? ⟨b,2,none⟩=some c2)(h3:w.cell? ⟨b,3,none⟩=some c3):(execOp ρ ⟨d,.load 24 x,ty,pos,af,gd⟩).run Tryz.prog w=.ok (.value (.agg #[c0,c1,c2,c3])) w:=by
 simp only[execOp,h];go_simp
theorem JQ:∀u∈ ([.int .i64 0,.int .i64 0,.string ⟨#[]⟩,.slice none 0 0]:List Value),u.oneCell'=true:=by
 intro u hu;simp only[List.mem_cons,List.not_mem_nil,or_false] at hu;rcases hu with rfl|rfl|rfl|rfl<;>rfl
theorem YS{w:World}{B:Nat}{e:TypeId}{size:Nat}{v:Value}{n:Nat}{xs:List Value}(h:w.ownsRow B e size v (n+1) xs):∃g cap,v=.slice (some ⟨g,0,none⟩) (n+1) cap:=by
 rcases h.2 with ⟨-,h0⟩|⟨g,cap,cur,rfl,-⟩
 ·omega
 ·exact⟨_,_,rfl⟩
theorem Qg{w:World}{B:Nat}{e:TypeId}{g cap n:Nat}{xs:List Value}{u0 u1 u2 u3:Value}(hl:xs.length=n * 4)(h:w.ownsRow B e 4 (.slice (some ⟨g,0,none⟩) (n+1) cap) (n+1) (xs++[u0,u1,u2,u3])) :
 w.cell? ⟨g,n * 4,none⟩=some u0∧w.cell? ⟨g,n * 4+1,none⟩=some u1∧w.cell? ⟨g,n * 4+2,none⟩=some u2∧w.cell? ⟨g,n * 4+3,none⟩=some u3:=by
 refine⟨?_,?_,?_,?_⟩
 ·rw[h.cellAt _ (by omega),List.getElem?_append_right (by omega),hl,Nat.sub_self];rfl
 ·rw[h.cellAt _ (by omega),List.getElem?_append_right (by omega),hl,show n * 4+1 - n * 4=1 by omega];rfl
 ·rw[h.cellAt _ (by omega),List.getElem?_append_right (by omega),hl,show n * 4+2 - n * 4=2 by omega];rfl
 ·rw[h.cellAt _ (by omega),List.getElem?_append_right (by omega),hl,show n * 4+3 - n * 4=3 by omega];rfl
theorem xf{w we:World}{row:Option Nat}(hg:w.grownBy we row){g:Nat}(ho:some g=row∨w.heap.size≤g)(k:Nat)(u:Value):w.grownBy (we.setCell ⟨g,k,none⟩ u) row:=by
 have h2:=vh we g k u;refine⟨h2.os.trans hg.os,h2.tape.trans hg.tape,h2.output.trans hg.output,Nat.le_trans hg.size h2.size,fun q hq hn=>(h2.block q (Nat.lt_of_lt_of_le hq hg.size) ?_).trans (hg.block q hq hn)⟩;intro e;have e2:=inj e;rcases ho with ho|ho
 ·exact hn (by rw[e2];exact ho)
 ·omega
theorem vR{α:Type}(a:Array α){i j:Nat}(h:i≠j)(f g:α→α):(a.modify i f).modify j g=(a.modify j g).modify i f:=by
 apply Array.ext
 ·simp
 ·intro k h1 h2;simp only[Array.getElem_modify]
  by_cases e1:j=k
  ·have e2:¬i=k:=fun e=>h (e.trans e1.symm);simp[e1,e2]
  ·simp[e1]
theorem v9(w:World){a b:Nat}{i j:Nat}(h:a≠b)(u v:Value):(w.setCell ⟨a,i,none⟩ u).setCell ⟨b,j,none⟩ v=(w.setCell ⟨b,j,none⟩ v).setCell ⟨a,i,none⟩ u:=by
 unfold World.setCell;simp only[vR w.heap h]
theorem YT{w:World}{B:Nat}{e:TypeId}{g cap n:Nat}{xs:List Value}{u0 u1 u2 u3:Value}(hl:xs.length=n * 4)(h:w.ownsRow B e 4 (.slice (some ⟨g,0,none⟩) (n+1) cap) (n+1) (xs++[u0,u1,u2,u3]))(v0 v1 v2 v3:Value) :
 ((((w.setCell ⟨g,n * 4,none⟩ v0).setCell ⟨g,n * 4+1,none⟩ v1).setCell ⟨g,n * 4+2,none⟩ v2).setCell ⟨g,n * 4+3,none⟩ v3).ownsRow B e 4 (.slice (some ⟨g,0,none⟩) (n+1) cap) (n+1) (xs++[v0,v1,v2,v3]):=by
 have q:=(((h.stored (n * 4) v0).1.stored (n * 4+1) v1).1.stored (n * 4+2) v2).1.stored (n * 4+3) v3;have q1:=q.1;rw[← hl] at q1 ⊢;rw[List.set_append_right _ _ (by omega),List.set_append_right _ _ (by omega),List.set_append_right _ _ (by omega),List.set_append_right _ _ (by omega)] at q1;rw[Nat.sub_self,show xs.length+1 - xs.length=1 by omega,show xs.length+2 - xs.length=2 by omega,show xs.length+3 - xs.length=3 by omega] at q1;exact q1
theorem JV(s:ByteArray):qW s=0∨qW s=1∨qW s=2:=by
 unfold qW
 repeat' split
 all_goals first|exact .inl rfl|exact .inr (.inl rfl)|exact .inr (.inr rfl)
theorem YC(s:ByteArray):Pc.scopeT s=0∨Pc.scopeT s=1∨Pc.scopeT s=2∨Pc.scopeT s=3:=by
 unfold Pc.scopeT
 repeat' split
 ·exact .inr (.inl rfl)
 ·exact .inr (.inr (.inl rfl))
 ·exact .inr (.inr (.inr rfl))
 ·exact .inl rfl
section
variable {ρ:Operand→Value}{d:Option Tmp}{ty:TypeId}{pos:String}{af:Array Edge}{gd:Option (Nat×Bool)}{w:World}
theorem ya(x:Operand)(b:Nat)(h:ρ x=.pointer (some ⟨b,0,none⟩)):(execOp ρ ⟨d,.fieldAddr 78 x 0,ty,pos,af,gd⟩).run Tryz.prog w=.ok (.value (.pointer (some ⟨b,0,none⟩))) w:=by
 simp only[execOp,h];go_simp
theorem yc(x:Operand)(b i:Nat)(hi:i=7∨i=8∨i=9∨i=10∨i=11∨i=12)(h:ρ x=.pointer (some ⟨b,0,none⟩)):(execOp ρ ⟨d,.fieldAddr 43 x i,ty,pos,af,gd⟩).run Tryz.prog w=.ok (.value (.pointer (some ⟨b,i,none⟩))) w:=by
 rcases hi with rfl|rfl|rfl|rfl|rfl|rfl
 all_goals
  simp only[execOp,h];go_simp
theorem vD(x:Operand)(p:Addr)(v:Value)(h:ρ x=.pointer (some p))(hv:w.cell? p=some v):(execOp ρ ⟨d,.load 37 x,ty,pos,af,gd⟩).run Tryz.prog w=.ok (.value v) w:=by
 simp only[execOp,h];go_simp
theorem Y8(x:Operand)(b:Nat)(c0 c1 c2 c3 c4:Value)(h:ρ x=.pointer (some ⟨b,0,none⟩))(h0:w.cell? ⟨b,0,none⟩=some c0)(h1:w.cell? ⟨b,1,none⟩=some c1)(h2:w.cell? ⟨b,2,none⟩=some c2)(h3:w.cell? ⟨b,3,none⟩=some c3)(h4:w.cell? ⟨b,4,none⟩=some c4):(execOp ρ ⟨d,.load 85 x,ty,pos,af,gd⟩).run Tryz.prog w=.ok (.value (.agg #[c0,c1,c2,c3,c4])) w:=by
 simp only[execOp,h];go_simp
theorem vC(a:Operand)(u0 u1 u2 u3 u4:Value)(h:ρ a=.agg #[u0,u1,u2,u3,u4]):(execOp ρ ⟨d,.buildSlice 37 1 #[(0,a)],ty,pos,af,gd⟩).run Tryz.prog w=.ok (.value (.slice (some ⟨w.heap.size,0,none⟩) 1 1)) (w.alloc (.cells #[u0,u1,u2,u3,u4] 85)):=by
 simp only[execOp,List.map_toArray,List.map,h];go_simp
theorem vB(x y:Operand)(p:Addr)(q:Option Addr)(n c:Nat)(o:Value)(h:ρ x=.pointer (some p))(h':ρ y=.slice q n c)(hc:w.cell? p=some o)(hf:w.frozen? p=false):(execOp ρ ⟨none,.store 37 x y,ty,pos,af,gd⟩).run Tryz.prog w=.ok .skip (w.setCell p (.slice q n c)):=by
 simp only[execOp,h,h'];go_simp
end
theorem Pc.cnt_eqG(c:Pc.PC):Pc.cnt c=c.cs.length+c.rs.length+c.os.length+c.cr.length+c.ls.length+c.fs.length:=rfl
theorem xW{w:World}{bs rb mb n:Nat}{c:Pc.PC}{vs:Fin 6→Value}{D:Six}(h:PgV w bs rb mb n c vs D):D.cs.length+D.rs.length+D.os.length+D.cr.length+D.ls.length+D.fs.length=Pc.cnt c:=by
 rw[Pc.cnt_eqG,← h.ecs,← h.ers,← h.eos,← h.ecr,← h.els,← h.efs];simp only[List.length_map]
theorem Kl{w w':World}{bs rb mb n:Nat}{r:Pc.PC× Int}{d:Pc.PC}{vs:Fin 6→Value}{D:Six}(hR:r.2=0→r.1=d∧PgV w' bs rb mb n d vs D)(hb:∀m,m≤rb→m≤mb→m≤bs→m≤w.heap.size→Below m w w'):Qe w bs rb mb n r w' :=
 ⟨fun q=>by obtain⟨h1,h2⟩:=hR q;exact⟨vs,D,by rw[h1];exact h2.more (Nat.le_succ n)⟩,hb⟩
theorem xM{L:List Tk.T4}(hV:∀t∈ L,VT t.t)(i:Nat):Bd (Pc.tok L i).num:=by
 unfold Pc.tok;cases h:L[i]? with
 | none=>exact⟨by show(-9223372036854775808:Int)≤0;decide,by show(0:Int)≤9223372036854775807;decide⟩
 | some t =>
   have q:=kQ (hV t (List.mem_of_getElem? h));dsimp only;unfold Bd;rcases q with q|q|q|q|q<;>omega
theorem jH{L:List Tk.T4}(hs:∀t∈ L,t.t.text.size≤9223372036854775807)(i:Nat):(Pc.tok L i).text.size≤9223372036854775807:=by
 unfold Pc.tok;cases h:L[i]? with
 | none=>show(0:Nat)≤_;omega
 | some t=>exact hs t (List.mem_of_getElem? h)
theorem Jq{L:List Tk.T4}{w w':World}{e:Ending}(hV:∀t∈ L,VT t.t)(hL:L.length≤400)(h:Ve L w e w'):∃c:Ch,e=.returned (.tuple #[.agg #[.int .i64 c.a.op,.int .i64 c.a.num,.string c.a.name,.slice c.a.ptr (len c.k) c.a.cap],.bool (decide (kz L < 0))])∧Below w.heap.size w w'∧(kz L < 0→Pz.nr c=Pc.tree L∧ExAt w' c.b c.o c.a c.k∧FoAv (fun g=>w.heap.size≤g) c.k c.b∧yN c.a c.k):=by
 obtain⟨c,h1,h2,h3⟩:=h;refine⟨c,h1,h3,fun q=>?_⟩;unfold kz at q;unfold Pc.tree;cases hp:Pz.pv L .ex 0 with
 | mk o j =>
   rw[hp] at q;cases o with
   | none=>dsimp only at q;omega
   | some x =>
     obtain⟨q1,q2,q3⟩:=h2 x j hp;exact⟨q1,q2,UY q3,((Pz.ex_good hV hL hp).of_nr q1).ok⟩
theorem whC{L:List Tk.T4}{g O cap:Nat}{w:World}(n:Nat)(hV:∀t∈ L,VT t.t)(h40:L.length≤400)(TA:∀wq,Below w.heap.size w wq→TkAt wq L (.slice (some ⟨g,O,none⟩) L.length cap)) :
 ∀(wq:World) (pq:Option Addr) (kq:Nat),Below w.heap.size w wq→(pq=some ⟨g,O+n * 4,none⟩∨L.length≤n)→Calls Tryz.prog 90 #[.slice pq (L.length - n:Nat) kq] wq (Ve (L.drop n) wq):=fun wq pq kq hb hq=>by
 have q:=Yw (L.drop n) pq kq wq (fun t ht=>hV t (List.mem_of_mem_drop ht)) (by
  rcases hq with rfl|hq
  ·exact Jv (TA wq hb) n h40
  ·rw [List.drop_eq_nil_of_le hq];exact⟨Nat.zero_le _,fun q=>absurd rfl q⟩)
 rw[List.length_drop] at q;exact q
theorem xe{c:Pc.PC}{L:List Tk.T4}{f:Ch→Pc.PC}{b:Bool}(h:decide (kz L < 0)=b):Pc.ifEx c L f=if b=true then (f (Pc.tree L),0) else (c,1):=by
 unfold Pc.ifEx;cases b with
 | true=>rw[if_neg (by have:=of_decide_eq_true h;omega),if_pos rfl]
 | false=>rw[if_pos (by have:=of_decide_eq_false h;omega),if_neg (by decide)]
theorem VC{L:List Tk.T4}{g O cap:Nat}{w:World}(n:Nat)(hV:∀t∈ L,VT t.t)(h40:L.length≤400)(TA:∀wq,Below w.heap.size w wq→TkAt wq L (.slice (some ⟨g,O,none⟩) L.length cap)) :
 ∀(wq:World) (pq:Option Addr) (kq:Nat),Below w.heap.size w wq→(pq=some ⟨g,O+n * 4,none⟩∨L.length≤n)→Calls Tryz.prog 90 #[.slice pq (L.length - n:Nat) kq] wq fun e w'=>∃c:Ch,e=.returned (.tuple #[.agg #[.int .i64 c.a.op,.int .i64 c.a.num,.string c.a.name,.slice c.a.ptr (len c.k) c.a.cap],.bool (decide (kz (L.drop n) < 0))])∧Below wq.heap.size wq w'∧(decide (kz (L.drop n) < 0)=true→Pz.nr c=Pc.tree (L.drop n)∧ExAt w' c.b c.o c.a c.k∧FoAv (fun g=>wq.heap.size≤g) c.k c.b∧yN c.a c.k):=fun wq pq kq hb hq=>by
 refine(whC n hV h40 TA wq pq kq hb hq).mono fun e w' h=>?_;obtain⟨c,h1,h2,h3⟩:=Jq (fun t ht=>hV t (List.mem_of_mem_drop ht)) (by rw[List.length_drop];omega) h;exact⟨c,h1,h2,fun q=>h3 (of_decide_eq_true q)⟩
theorem xV{R:Pc.PC× Int}{ok:Bool}{d c:Pc.PC}(h:R=if ok=true then (d,0) else (c,1)):Ending.returned (.bool ok)=.returned (.bool (decide (R.2=0))):=by
 cases ok<;>rw[h]<;>rfl
theorem kM{w w':World}{bs rb mb n:Nat}{R:Pc.PC× Int}{ok:Bool}{d c:Pc.PC}{vs:Fin 6→Value}{D:Six}(h:R=if ok=true then (d,0) else (c,1))(hp:ok=true→PgV w' bs rb mb n d vs D)(hb:∀m,m≤rb→m≤mb→m≤bs→m≤w.heap.size→Below m w w'):Qe w bs rb mb n R w':=by
 refine Kl (fun q=>?_) hb (d:=d) (vs:=vs) (D:=D);cases ok with
 | false=>rw[h] at q;cases q
 | true=>rw[h];exact⟨rfl,hp rfl⟩
def glT:List (Nat× Nat):=[(31,0),(32,1),(33,2),(34,3),(35,4),(36,5),(37,6),(38,7),(39,8),(40,9),(41,10),(42,11),(43,12),(44,13),(45,14),(46,15),(47,16),(48,17),(49,18),(50,19),(51,20),(52,21),(53,22),(54,23),(55,24),(56,25),(57,26),(58,27)]
def glW(rb g O Ll cap nn cv B0:Nat)(pv:Option Addr)(t11:ByteArray)(t31:ByteArray)(t42:Int)(t62:Int)(i:Nat):Wl :=
 match i with
 | 0=>.eq (.pointer (some ⟨rb,0,none⟩))
 | 1=>.eq (.pointer (some ⟨rb,0,none⟩))
 | 2=>.eq (.pointer (some ⟨rb,0,none⟩))
 | 3=>.eq (.pointer (some ⟨rb,0,none⟩))
 | 4=>.eq (.pointer (some ⟨rb,11,none⟩))
 | 5=>.eq (.slice pv nn cv)
 | 6=>.eq (.slice (some ⟨g,O,none⟩) Ll cap)
 | 7=>.eq (.pointer (some ⟨g,O+1 * 4,none⟩))
 | 8=>.eq (.pointer (some ⟨g,O+1 * 4+1,none⟩))
 | 9=>.eq (.string t11)
 | 10=>.eq (.slice (some ⟨g,O,none⟩) Ll cap)
 | 11=>.eq (.pointer (some ⟨g,O+3 * 4,none⟩))
 | 12=>.eq (.pointer (some ⟨g,O+3 * 4+1,none⟩))
 | 13=>.eq (.string t31)
 | 14=>.eq (.slice (some ⟨g,O,none⟩) Ll cap)
 | 15=>.eq (.pointer (some ⟨g,O+4 * 4,none⟩))
 | 16=>.eq (.pointer (some ⟨g,O+4 * 4+2,none⟩))
 | 17=>.eq (.int .i64 t42)
 | 18=>.eq (.slice (some ⟨g,O,none⟩) Ll cap)
 | 19=>.eq (.pointer (some ⟨g,O+6 * 4,none⟩))
 | 20=>.eq (.pointer (some ⟨g,O+6 * 4+2,none⟩))
 | 21=>.eq (.int .i64 t62)
 | 22=>.eq (.agg #[.string t11,.string t31,.int .i64 t42,.int .i64 t62])
 | 23=>.row B0 [.string t11,.string t31,.int .i64 t42,.int .i64 t62]
 | 24=>.any
 | 25=>.eq (.pointer (some ⟨rb,0,none⟩))
 | 26=>.eq (.pointer (some ⟨rb,0,none⟩))
 | 27=>.eq (.pointer (some ⟨rb,11,none⟩))
 | _=>.any
def glG(rb g O Ll cap nn cv B0:Nat)(pv:Option Addr)(t11:ByteArray)(t31:ByteArray)(t42:Int)(t62:Int)(i:Nat)(v:Value)(w:World):Prop:=(glW rb g O Ll cap nn cv B0 pv t11 t31 t42 t62 i).ok v w
theorem JW(s:ByteArray):zZ s=if qW s=2 then 3 else if qW s=1 then 2 else 0:=by
 rfl
theorem J0(bs rb mb n:Nat)(c:Pc.PC)(vs:Fin 6→Value)(D:Six)(L:List Tk.T4)(g O cap:Nat)(w:World)(hp:PgV w bs rb mb n c vs D)(ht:TkAt w L (.slice (some ⟨g,O,none⟩) L.length cap))(hV:∀t∈ L,VT t.t)(hs:∀t∈ L,t.t.text.size≤9223372036854775807)(hl:0 < L.length)(h40:L.length≤400)(hbs:bs≤w.heap.size)(hct:Pc.cnt c≤1000)
 :
 Calls Tryz.prog 92 #[.pointer (some ⟨rb,0,none⟩),.slice (some ⟨g,O,none⟩) L.length cap] w fun e w'=>e=.returned (.bool (decide ((Pg.limQ c L).2=0)))∧Qe w bs rb mb n (Pg.limQ c L) w':=by
 have hcap:L.length≤cap:=by obtain⟨p',cap',e,h2,-⟩:=ht;injection e with e1 e2 e3;omega
 have hl0:(0:Int) < (L.length:Int):=by omega
 have hc1:(1:Int)≤(L.length:Int):=by omega
 have hc2:(L.length:Int)≤(cap:Int):=by omega
 have PV:=hid hp;have HT:=hid ht;have HVV:=hid hV;have HS:=hid hs;have H40:=hid h40;have LB:Hid (rb < bs∧bs≤w.heap.size):=⟨hp.rows.lt rb (Or.inl rfl),hbs⟩;have CL:=hid (xW hp);have LC:=hid hct;have TK:Hid (∀i,i < L.length→∀W,Below w.heap.size w W→W.cell? ⟨g,O+i * 4,none⟩=some (.int .i64 (Pc.tok L i).kind)∧W.cell? ⟨g,O+i * 4+1,none⟩=some (.string (Pc.tok L i).text)∧W.cell? ⟨g,O+i * 4+2,none⟩=some (.int .i64 (Pc.tok L i).num)):=fun i hi W hb=>uW (HT.out.next hb) hi;clear hp ht hV hs h40 hbs hct;obtain⟨R,hR⟩:∃R,Pg.limQ c L=R:=⟨_,rfl⟩;rw[hR]
 by_cases hlen:L.length≤3
 case pos =>
  have b0:¬(3:Int) < (L.length:Int):=by omega
  have RQ:Hid (R=(c,1)):=by unfold Hid;rw[← hR];unfold Pg.limQ;rw[if_pos hlen]
  clear hR hlen;go_enter Tryz.func92,Tryz.ntmps92;go_wp2;go_ret;exact⟨by rw[RQ.out];rfl,zc (by rw[RQ.out];show(1:Int)≠0;decide) (kv (Below.refl _ _))⟩
 have b0:(3:Int) < (L.length:Int):=by omega
 have HLN3:Hid (3 < L.length):=by unfold Hid;omega
 have RD:Hid (R=match Pg.amt (Pc.tok L 3).text with
  | none=>(c,1)
  | some a=>if Pg.sh L [Pc.wLimit,Pg.pN,Pc.wIs,(Pc.tok L 3).text,a,Pc.wIn,Pg.pD,Pc.wDays]=true then ({ c with ls:=c.ls++[⟨(Pc.tok L 1).text,(Pc.tok L 3).text,(Pc.tok L 4).num,(Pc.tok L 6).num⟩] },0) else (c,1)):=by unfold Hid;rw[← hR];unfold Pg.limQ;rw[if_neg hlen];rfl
 have SH:Hid (∀(W:World) (gb cp:Nat) (a:ByteArray) (b:Bool),Below w.heap.size w W→PtA W [Pc.wLimit,Pg.pN,Pc.wIs,(Pc.tok L 3).text,a,Pc.wIn,Pg.pD,Pc.wDays] gb 0→Pg.sh L [Pc.wLimit,Pg.pN,Pc.wIs,(Pc.tok L 3).text,a,Pc.wIn,Pg.pD,Pc.wDays]=b→Calls Tryz.prog 91 #[.slice (some ⟨g,O,none⟩) L.length cap,.slice (some ⟨gb,0,none⟩) 8 cp] W fun e w'=>e=.returned (.bool b)∧Below W.heap.size W w'):=fun W gb cp a b hb hP hq=>by
  have q:=zo L _ cap _ gb 0 cp W (HT.out.next hb) HS.out hP (by simp);rw[hq] at q;exact q
 have k3:=(TK.out 3 HLN3.out w (Below.refl _ _)).2.1;rw[show O+3 * 4+1=O+12+1 by omega] at k3;have NS31:Hid ((Pc.tok L 3).text.size≤9223372036854775807):=jH HS.out 3;have T3E:Hid ((Pc.tok L 3).text=(Pc.tok L 3).text):=rfl;obtain⟨t31,ht31⟩:∃z,(Pc.tok L 3).text=z:=⟨_,rfl⟩;have T31:=hid ht31;rw[ht31] at RD SH k3 NS31;clear ht31 hR hlen T3E;have ME:=hid (JW t31)
 obtain m|⟨P,q,AM,mk,hP⟩:qW t31=0∨∃(P:_) (q:Int),Pg.amt t31=some P∧zZ t31=q∧((P=Pg.pD∧q=2)∨(P=Pg.pT∧q=3)):=by
  rcases JV t31 with m|m|m
  ·exact .inl m
  ·exact .inr ⟨Pg.pD,2,by unfold Pg.amt;rw[m];rfl,by rw[ME.out,m];rfl,.inl ⟨rfl,rfl⟩⟩
  ·exact .inr ⟨Pg.pT,3,by unfold Pg.amt;rw[m];rfl,by rw[ME.out,m];rfl,.inr ⟨rfl,rfl⟩⟩
 ·have RQ:Hid (R=(c,1)):=by unfold Hid;rw[RD.out];unfold Pg.amt;rw[m];rfl
  have mk:zZ t31=0:=(by rw[ME.out,m];rfl);have MK:=hid mk;clear m mk ME;go_enter Tryz.func92,Tryz.ntmps92;go_wp2_with (go_at_call 48;refine(zE t31 w).mono ?_;rw[MK.out];rintro e w' ⟨rfl,rfl⟩);go_ret;exact⟨by rw[RQ.out];rfl,zc (by rw[RQ.out];show(1:Int)≠0;decide) (kv (Below.refl _ _))⟩
 ·have MK := hid mk;clear mk ME;cases hsh:Pg.sh L [Pc.wLimit,Pg.pN,Pc.wIs,t31,P,Pc.wIn,Pg.pD,Pc.wDays] with
  | false =>
    rcases hP with ⟨rfl,rfl⟩|⟨rfl,rfl⟩
    all_goals
     have RQ:Hid (R=(c,1)):=(by unfold Hid;rw[RD.out,AM];dsimp only;rw[hsh];rfl);have HSH:=hid hsh;clear hsh AM RD;go_enter Tryz.func92,Tryz.ntmps92;go_upto_region 8 with (go_at_call 48;refine(zE t31 w).mono ?_;rw[MK.out];rintro e w' ⟨rfl,rfl⟩);go_wp2_with fail
     (first|refine(SH.out _ _ _ Pg.pD _ (yu _ _) (qT _ _ _ rfl _) HSH.out).mono ?_|refine(SH.out _ _ _ Pg.pT _ (yu _ _) (qT _ _ _ rfl _) HSH.out).mono ?_)
     rintro e w3 ⟨rfl,hb⟩;have B3:=hid ((yu _ _).trans (hb.mono (by simp)));clear hb;go_wp2;go_ret;exact⟨by rw[RQ.out];rfl,zc (by rw[RQ.out];show(1:Int)≠0;decide) (kv B3.out)⟩
  | true =>
    rcases hP with ⟨rfl,rfl⟩|⟨rfl,rfl⟩
    all_goals
     have RQ:Hid (R=({ c with ls:=c.ls++[⟨(Pc.tok L 1).text,t31,(Pc.tok L 4).num,(Pc.tok L 6).num⟩] },0)):=(by unfold Hid;rw[RD.out,AM];dsimp only;rw[hsh];rfl);have HLN:Hid (L.length=8):=Pg.sh_len hsh;have HSH:=hid hsh;clear hsh AM RD;have ix1:(1:Int) < (L.length:Int):=(by have:=HLN.out;omega);have IX1:Hid (1 < L.length):=(by have:=HLN.out;unfold Hid;omega);have ix4:(4:Int) < (L.length:Int):=(by have:=HLN.out;omega);have IX4:Hid (4 < L.length):=(by have:=HLN.out;unfold Hid;omega);have ix6:(6:Int) < (L.length:Int):=(by have:=HLN.out;omega);have IX6:Hid (6 < L.length):=(by have:=HLN.out;unfold Hid;omega);have TK11:Hid (∀wq,Below w.heap.size w wq→wq.cell? ⟨g,O+1 * 4+1,none⟩=some (.string (Pc.tok L 1).text)):=fun wq hb=>(TK.out 1 IX1.out wq hb).2.1;have NS11:Hid ((Pc.tok L 1).text.size≤9223372036854775807):=jH HS.out 1;obtain⟨t11,ht11⟩:∃z,(Pc.tok L 1).text=z:=⟨_,rfl⟩;rw[ht11] at TK11 NS11 RQ;have TK42:Hid (∀wq,Below w.heap.size w wq→wq.cell? ⟨g,O+4 * 4+2,none⟩=some (.int .i64 (Pc.tok L 4).num)):=fun wq hb=>(TK.out 4 IX4.out wq hb).2.2;have NS42:Hid (Bd (Pc.tok L 4).num):=xM HVV.out 4;obtain⟨t42,ht42⟩:∃z,(Pc.tok L 4).num=z:=⟨_,rfl⟩;rw[ht42] at TK42 NS42 RQ;have TK62:Hid (∀wq,Below w.heap.size w wq→wq.cell? ⟨g,O+6 * 4+2,none⟩=some (.int .i64 (Pc.tok L 6).num)):=fun wq hb=>(TK.out 6 IX6.out wq hb).2.2;have NS62:Hid (Bd (Pc.tok L 6).num):=xM HVV.out 6;obtain⟨t62,ht62⟩:∃z,(Pc.tok L 6).num=z:=⟨_,rfl⟩;rw[ht62] at TK62 NS62 RQ;have ix3:(3:Int) < (L.length:Int):=(by have:=HLN.out;omega);have IX3:Hid (3 < L.length):=by have:=HLN.out;unfold Hid;omega
     have TK31:Hid (∀wq,Below w.heap.size w wq→wq.cell? ⟨g,O+3 * 4+1,none⟩=some (.string t31)):=fun wq hb=>by
      have q:=(TK.out 3 IX3.out wq hb).2.1;rw[T31.out] at q;exact q
     have LD:Hid (D.ls.length≤1000):=(by have:=CL.out;have:=LC.out;unfold Hid;omega);go_enter Tryz.func92,Tryz.ntmps92;go_upto_region 8 with (go_at_call 48;refine(zE t31 w).mono ?_;rw[MK.out];rintro e w' ⟨rfl,rfl⟩);go_upto_region 10 with (go_at_call 91;(first|refine(SH.out _ _ _ Pg.pD _ (yu _ _) (qT _ _ _ rfl _) HSH.out).mono ?_|refine(SH.out _ _ _ Pg.pT _ (yu _ _) (qT _ _ _ rfl _) HSH.out).mono ?_);rintro e w6 ⟨rfl,hb⟩;have B6:=hid ((yu _ _).trans (hb.mono (by simp)));clear hb);clear k3;obtain⟨ir,hir,hir0,hir1,hir2⟩:=info_parts Tryz.infoLiP;have P6:=hid (PV.out.next B6.out);obtain⟨pv,cv,hv⟩:∃pv cv,vs 4=.slice pv D.ls.length cv:=yt (P6.out.rows.ow 4);have HV:=hid hv;clear hv;have EX:Hid (∀wq,Ext w6.drew wq→Below w.heap.size w wq):=fun wq hq=>(B6.out.drew).trans (Below.mono hq (by have:=B6.out.size;simpa using this));have PX:Hid (∀wq,Ext w6.drew wq→PgV wq bs rb mb n c vs D):=fun wq hq=>PV.out.next (EX.out wq hq)
     have EXN:Hid (∀wq,Ext w6.drew wq→Below w6.heap.size w6 wq):=fun wq hq=>((Below.refl _ _).drew).trans (Below.mono hq (by simp));have HB0:Hid (w6.heap.size≤w6.drew.heap.size):=(by unfold Hid;simp);have OB:Hid (bs≤w6.heap.size∧rb < bs):=⟨Nat.le_trans LB.out.2 B6.out.size,LB.out.1⟩;have CB:Hid (∀wq,Ext w6.drew wq→wq.cell? ⟨rb,11,none⟩=some (.slice pv D.ls.length cv)):=fun wq hq=>by rw[← HV.out];exact(PX.out wq hq).box.c11
     have TC11:Hid (∀wq,Ext w6.drew wq→wq.cell? ⟨g,O+1 * 4+1,none⟩=some (.string t11)):=fun wq hq=>TK11.out wq (EX.out wq hq);have TC31:Hid (∀wq,Ext w6.drew wq→wq.cell? ⟨g,O+3 * 4+1,none⟩=some (.string t31)):=fun wq hq=>TK31.out wq (EX.out wq hq);have TC42:Hid (∀wq,Ext w6.drew wq→wq.cell? ⟨g,O+4 * 4+2,none⟩=some (.int .i64 t42)):=fun wq hq=>TK42.out wq (EX.out wq hq);have TC62:Hid (∀wq,Ext w6.drew wq→wq.cell? ⟨g,O+6 * 4+2,none⟩=some (.int .i64 t62)):=fun wq hq=>TK62.out wq (EX.out wq hq);refine zp glT (glG rb g O L.length cap D.ls.length cv w6.heap.size pv t11 t31 t42 t62) 24 28 (fun x w1 w'=>∃pn cn,x 55=.slice pn (D.ls.length+1) cn∧w'.ownsRow bs 91 4 (.slice pn (D.ls.length+1) cn) (D.ls.length+1) (D.ls.flatMap kH++kH ⟨t11,t31,t42,t62⟩)∧w1.grownBy w' (vs 4).ownBlock∧((Value.slice pn (D.ls.length+1) cn).ownBlock=(vs 4).ownBlock∨(Value.slice pn (D.ls.length+1) cn).ownBlock=some w1.heap.size)) (fun x w1 w'=>∃pn cn we,w'=we.setCell ⟨rb,11,none⟩ (.slice pn (D.ls.length+1) cn)∧we.ownsRow bs 91 4 (.slice pn (D.ls.length+1) cn) (D.ls.length+1) (D.ls.flatMap kH++kH ⟨t11,t31,t42,t62⟩)∧w1.grownBy we (vs 4).ownBlock∧((Value.slice pn (D.ls.length+1) cn).ownBlock=(vs 4).ownBlock∨(Value.slice pn (D.ls.length+1) cn).ownBlock=some w1.heap.size)) (by kernel_rfl) (by kernel_rfl) (fun i v w w' h he=>Wl.ext h he) (fun i=>decide (i≠0∧i≠25∧i≠26∧i≠27∧i < 24)) (by kernel_rfl) (by kernel_rfl) (by decide) ?hst ?hpu ?hla ?hyo ?hfin
     case hst =>
      intro i o ho hz hy
      match i,ho with
      | 0,ho=>exact yl ho fun a w3 hx qz qb=>⟨rfl,_,run_move (.tmp 0) (.pointer (some ⟨rb,0,none⟩)) (qz 0 rfl),rfl⟩
      | 1,ho=>exact yl ho fun a w3 hx qz qb=>⟨rfl,_,run_move (.tmp 0) (.pointer (some ⟨rb,0,none⟩)) (qz 0 rfl),rfl⟩
      | 2,ho=>exact yl ho fun a w3 hx qz qb=>⟨rfl,_,qZ (.tmp 32) ⟨rb,0,none⟩ (qb 32 1 rfl rfl),rfl⟩
      | 3,ho=>exact yl ho fun a w3 hx qz qb=>⟨rfl,_,ya (.tmp 33) rb (qb 33 2 rfl rfl),rfl⟩
      | 4,ho=>exact yl ho fun a w3 hx qz qb=>⟨rfl,_,yc (.tmp 34) rb 11 (by decide) (qb 34 3 rfl rfl),rfl⟩
      | 5,ho=>exact yl ho fun a w3 hx qz qb=>⟨rfl,_,yO (.tmp 35) ⟨rb,11,none⟩ 40 (by decide) _ (qb 35 4 rfl rfl) (CB.out w3 hx),rfl⟩
      | 6,ho=>exact yl ho fun a w3 hx qz qb=>⟨rfl,_,run_move (.tmp 1) (.slice (some ⟨g,O,none⟩) L.length cap) (qz 1 rfl),rfl⟩
      | 7,ho=>exact yl ho fun a w3 hx qz qb=>⟨rfl,_,zO (.tmp 37) g O L.length cap 1 rfl IX1.out (qb 37 6 rfl rfl),rfl⟩
      | 8,ho=>exact yl ho fun a w3 hx qz qb=>⟨rfl,_,zq (.tmp 38) g (O+1 * 4) 1 (by decide) (qb 38 7 rfl rfl),rfl⟩
      | 9,ho=>exact yl ho fun a w3 hx qz qb=>⟨rfl,_,yO (.tmp 39) ⟨g,O+1 * 4+1,none⟩ 9 (by decide) (.string t11) (qb 39 8 rfl rfl) (TC11.out w3 hx),rfl⟩
      | 10,ho=>exact yl ho fun a w3 hx qz qb=>⟨rfl,_,run_move (.tmp 1) (.slice (some ⟨g,O,none⟩) L.length cap) (qz 1 rfl),rfl⟩
      | 11,ho=>exact yl ho fun a w3 hx qz qb=>⟨rfl,_,zO (.tmp 41) g O L.length cap 3 rfl IX3.out (qb 41 10 rfl rfl),rfl⟩
      | 12,ho=>exact yl ho fun a w3 hx qz qb=>⟨rfl,_,zq (.tmp 42) g (O+3 * 4) 1 (by decide) (qb 42 11 rfl rfl),rfl⟩
      | 13,ho=>exact yl ho fun a w3 hx qz qb=>⟨rfl,_,yO (.tmp 43) ⟨g,O+3 * 4+1,none⟩ 9 (by decide) (.string t31) (qb 43 12 rfl rfl) (TC31.out w3 hx),rfl⟩
      | 14,ho=>exact yl ho fun a w3 hx qz qb=>⟨rfl,_,run_move (.tmp 1) (.slice (some ⟨g,O,none⟩) L.length cap) (qz 1 rfl),rfl⟩
      | 15,ho=>exact yl ho fun a w3 hx qz qb=>⟨rfl,_,zO (.tmp 45) g O L.length cap 4 rfl IX4.out (qb 45 14 rfl rfl),rfl⟩
      | 16,ho=>exact yl ho fun a w3 hx qz qb=>⟨rfl,_,zq (.tmp 46) g (O+4 * 4) 2 (by decide) (qb 46 15 rfl rfl),rfl⟩
      | 17,ho=>exact yl ho fun a w3 hx qz qb=>⟨rfl,_,yO (.tmp 47) ⟨g,O+4 * 4+2,none⟩ 3 (by decide) (.int .i64 t42) (qb 47 16 rfl rfl) (TC42.out w3 hx),rfl⟩
      | 18,ho=>exact yl ho fun a w3 hx qz qb=>⟨rfl,_,run_move (.tmp 1) (.slice (some ⟨g,O,none⟩) L.length cap) (qz 1 rfl),rfl⟩
      | 19,ho=>exact yl ho fun a w3 hx qz qb=>⟨rfl,_,zO (.tmp 49) g O L.length cap 6 rfl IX6.out (qb 49 18 rfl rfl),rfl⟩
      | 20,ho=>exact yl ho fun a w3 hx qz qb=>⟨rfl,_,zq (.tmp 50) g (O+6 * 4) 2 (by decide) (qb 50 19 rfl rfl),rfl⟩
      | 21,ho=>exact yl ho fun a w3 hx qz qb=>⟨rfl,_,yO (.tmp 51) ⟨g,O+6 * 4+2,none⟩ 3 (by decide) (.int .i64 t62) (qb 51 20 rfl rfl) (TC62.out w3 hx),rfl⟩
      | 22,ho=>exact yl ho fun a w3 hx qz qb=>⟨rfl,_,JB (.tmp 40) (.tmp 44) (.tmp 48) (.tmp 52) t11 t31 t42 t62 (qb 40 9 rfl rfl) (qb 44 13 rfl rfl) (qb 48 17 rfl rfl) (qb 52 21 rfl rfl),rfl⟩
      | 23,ho=>obtain rfl:=inj ho;intro a w3 hx qz qb yn;have hz:=(hx.size:(w6.drew).heap.size≤w3.heap.size);exact⟨rfl,jI (KV (.tmp 53) (.string t11) (.string t31) (.int .i64 t42) (.int .i64 t62) (qb 53 22 rfl rfl)) (Ext.alloc _ _) (KD w3 w6.heap.size (Nat.le_trans HB0.out hz) (.string t11) (.string t31) (.int .i64 t42) (.int .i64 t62) _)⟩
      | 24,ho=>exact absurd rfl hz
      | 25,ho=>exact yl ho fun a w3 hx qz qb=>⟨rfl,_,qZ (.tmp 31) ⟨rb,0,none⟩ (qb 31 0 rfl rfl),rfl⟩
      | 26,ho=>exact yl ho fun a w3 hx qz qb=>⟨rfl,_,ya (.tmp 56) rb (qb 56 25 rfl rfl),rfl⟩
      | 27,ho=>exact yl ho fun a w3 hx qz qb=>⟨rfl,_,yc (.tmp 57) rb 11 (by decide) (qb 57 26 rfl rfl),rfl⟩
      | 28,ho=>exact absurd rfl hy
      | i+29,ho=>cases ho
     case hpu =>
      intro i o ho hz hy
      match i,ho with
      | 0,ho=>obtain rfl:=inj ho;refine .inr ?_;intro a w1 w3 hx ym qz qb yn hf;exact⟨rfl,qo (run_move (.tmp 0) (.pointer (some ⟨rb,0,none⟩)) (qz 0 rfl)) ⟨_,rfl,rfl,fun _=>rfl,kA (by decide) hf⟩⟩
      | 1,ho=>exact .inl rfl
      | 2,ho=>exact .inl rfl
      | 3,ho=>exact .inl rfl
      | 4,ho=>exact .inl rfl
      | 5,ho=>exact .inl rfl
      | 6,ho=>exact .inl rfl
      | 7,ho=>exact .inl rfl
      | 8,ho=>exact .inl rfl
      | 9,ho=>exact .inl rfl
      | 10,ho=>exact .inl rfl
      | 11,ho=>exact .inl rfl
      | 12,ho=>exact .inl rfl
      | 13,ho=>exact .inl rfl
      | 14,ho=>exact .inl rfl
      | 15,ho=>exact .inl rfl
      | 16,ho=>exact .inl rfl
      | 17,ho=>exact .inl rfl
      | 18,ho=>exact .inl rfl
      | 19,ho=>exact .inl rfl
      | 20,ho=>exact .inl rfl
      | 21,ho=>exact .inl rfl
      | 22,ho=>exact .inl rfl
      | 23,ho=>exact .inl rfl
      | 24,ho=>exact absurd rfl hz
      | 25,ho=>obtain rfl:=inj ho;refine .inr ?_;intro a w1 w3 hx ym qz qb yn hf;exact⟨rfl,qo (qZ (.tmp 31) ⟨rb,0,none⟩ (qb 31 0 rfl rfl)) ⟨_,rfl,rfl,fun _=>rfl,kA (by decide) hf⟩⟩
      | 26,ho=>obtain rfl:=inj ho;refine .inr ?_;intro a w1 w3 hx ym qz qb yn hf;exact⟨rfl,qo (ya (.tmp 56) rb (qb 56 25 rfl rfl)) ⟨_,rfl,rfl,fun _=>rfl,kA (by decide) hf⟩⟩
      | 27,ho=>obtain rfl:=inj ho;refine .inr ?_;intro a w1 w3 hx ym qz qb yn hf;exact⟨rfl,qo (yc (.tmp 57) rb 11 (by decide) (qb 57 26 rfl rfl)) ⟨_,rfl,rfl,fun _=>rfl,kA (by decide) hf⟩⟩
      | 28,ho=>exact absurd rfl hy
      | i+29,ho=>cases ho
     case hla =>
      intro o ho;obtain rfl:=inj ho;intro a w3 hx ym qz qb yn;obtain⟨b,h1,h2,h3,h4⟩:=(qb 54 23 rfl rfl:(Wl.row w6.heap.size (kH ⟨t11,t31,t42,t62⟩)).ok (a.tmps.getD 54 undef) w3);have h5:a.tmps.getD 36 undef=.slice pv D.ls.length cv:=qb 36 5 rfl rfl;have PQ:=PX.out w3 hx;have OW:w3.ownsRow bs 91 4 (.slice pv D.ls.length cv) D.ls.length (D.ls.flatMap kH):=(by have q:=PQ.rows.ow 4;rw[← HV.out];exact q);refine⟨rfl,?_⟩;refine yJ w3 rfl (.tmp 36) (.tmp 54) 40 rfl bs 91 ir (.agg #[.string ⟨#[]⟩,.string ⟨#[]⟩,.int .i64 0,.int .i64 0]) 4 48 Tryz.underlying40 hir hir0 hir1 hir2 rfl (by decide) (.slice pv D.ls.length cv) D.ls.length (D.ls.flatMap kH) h5 OW ⟨b,0,none⟩ 1 1 (kH ⟨t11,t31,t42,t62⟩) h1 rfl (fun j u hj=>by have q:=h4 j u hj;by_cases e:j=0;(subst e;simpa [Addr.add] using q);simpa [Addr.add,e] using q) (U4 _) (by have:=LD.out;unfold maxLen;omega) (by have:=LD.out;omega) (by have q1:=OB.out;have q2:w6.drew.heap.size≤w3.heap.size:=hx.size;have q3:=HB0.out;omega) ?_;intro v' w' qi qk hob;obtain⟨pn,cn,hvn⟩:=yt qi;subst hvn;refine⟨_,rfl,fun _=>trivial,pn,cn,?_,qi,by rw[HV.out];exact qk,by rw[HV.out];exact hob⟩
      show(a.put (some 55) _).tmps.getD 55 undef=_
      rw[yM,if_pos ⟨rfl,by rw[ym];exact(show(55:Nat) < 59 from by decide)⟩]
     case hyo =>
      intro o ho;obtain rfl:=inj ho;intro a w1 w3 hx ym qz qb yn hf;obtain⟨pn,cn,h1,qi,qk,hob⟩:=hf;have h2:a.tmps.getD 58 undef=.pointer (some ⟨rb,11,none⟩):=qb 58 27 rfl rfl;have PQ:=PX.out w1 hx;have GB:=PQ.box.grown qk (by rw[HV.out];exact fun e'=>by have q:=((PQ.rows.ow 4).lt rb (by show(vs 4).ownBlock=_;rw[HV.out];exact e'.symm)).1;have:=OB.out;omega);exact⟨rfl,zD (kh (.tmp 58) (.tmp 55) ⟨rb,11,none⟩ 40 (by decide) pn _ cn _ h2 h1 GB.c11 GB.f11) ⟨undef,rfl,fun h=>absurd h (by decide),pn,cn,w3,rfl,qi,qk,hob⟩⟩
     case hfin =>
      rintro x w1 w9 h1 h2 ⟨pn,cn,we,rfl,qi,qk,hob⟩
      have APP:Hid (True→PgV (we.setCell ⟨rb,11,none⟩ (.slice pn (D.ls.length+1) cn)) bs rb mb n { c with ls:=c.ls++[⟨t11,t31,t42,t62⟩] } (qU vs 4 (.slice pn (D.ls.length+1) cn)) { D with ls:=D.ls++[⟨t11,t31,t42,t62⟩] }):=fun hcd=>by
       have q:=PgV.app4 (PX.out w1 h1) ⟨t11,t31,t42,t62⟩ (⟨NS42.out,NS62.out,NS11.out,NS31.out⟩) qi qk hob
       skip
       exact q
      have BEL:Hid (∀m,m≤rb→m≤mb→m≤bs→m≤w.heap.size→Below m w (we.setCell ⟨rb,11,none⟩ (.slice pn (D.ls.length+1) cn))):=(fun m q1 _ q2 q3=>zd (yp (EX.out w1 h1) q3) q3 qk (fun g' e'=>Nat.le_trans q2 (((PX.out w1 h1).rows.ow 4).lt g' e').1) q1 _ _);clear h1 h2 qi qk hob;generalize we.setCell ⟨rb,11,none⟩ (.slice pn (D.ls.length+1) cn)=w9 at *;dsimp only[frameT,glT,List.foldl];generalize x 31=q31;generalize x 32=q32;generalize x 33=q33;generalize x 34=q34;generalize x 35=q35;generalize x 36=q36;generalize x 37=q37;generalize x 38=q38;generalize x 39=q39;generalize x 40=q40;generalize x 41=q41;generalize x 42=q42;generalize x 43=q43;generalize x 44=q44;generalize x 45=q45;generalize x 46=q46;generalize x 47=q47;generalize x 48=q48;generalize x 49=q49;generalize x 50=q50;generalize x 51=q51;generalize x 52=q52;generalize x 53=q53;generalize x 54=q54;generalize x 55=q55;generalize x 56=q56;generalize x 57=q57;generalize x 58=q58;clear x;go_simp;go_wp2_with fail;go_ret;exact⟨by rw[RQ.out];rfl,Kl (fun _=>⟨by rw[RQ.out],APP.out trivial⟩) BEL.out⟩
end Go.Proofs.YtcejjdmnlejbaaaGreatDoor
