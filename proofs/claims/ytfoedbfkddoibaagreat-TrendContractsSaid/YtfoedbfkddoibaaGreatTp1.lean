import Derived.Test.YtfoedbfkddoibaaGreatVok
import Derived.Test.YtfoedbfkddoibaaGreatChs
namespace Go.Proofs.YtfoedbfkddoibaaGreat
section
set_option linter.unusedVariables false
set_option linter.unusedSimpArgs false
open Go.RowKit
open Go.Deep (BT)
def kids:Fo→List Ch
 | .nil=>[]
 | .node b o a k r=>⟨b,o,a,k⟩ :: kids r
theorem rowF_kids (T:Fo):rowF (kids T)=T:=by
 induction T with
 | nil=>rfl
 | node b o a k r _ ihr=>simp [kids,rowF,ihr]
theorem kids_rowF (L:List Ch):kids (rowF L)=L:=by
 induction L with
 | nil=>rfl
 | cons c l ih=>simp [kids,rowF,ih]
def ef:Fo→Fo
 | .nil=>.nil
 | .node _ _ a k r=>.node 0 0 ⟨a.op,a.num,a.name,none,0⟩ (ef k) (ef r)
def ec (c:Ch):Ch:=⟨0,0,⟨c.a.op,c.a.num,c.a.name,none,0⟩,ef c.k⟩
theorem ef_row (L:List Ch):ef (rowF L)=rowF (L.map ec):=by
 induction L with
 | nil=>rfl
 | cons c l ih=>simp [rowF,ef,ec,ih]
def noN:ByteArray:=⟨#[]⟩
def dE (op num:Int) (s:ByteArray):Ch:=⟨0,0,⟨op,num,s,none,0⟩,.nil⟩
def nE (op:Int) (L:List Ch):Ch:=⟨0,0,⟨op,0,noN,none,0⟩,rowF L⟩
def litE (t v:Int):Ch:=if t=4 then (if v≠0 then dE 4 0 noN else dE 5 0 noN) else if t=3 then dE 3 v noN else if v < 0 then nE 7 [dE (if t=2 then 2 else 1) (-v) noN] else dE (if t=2 then 2 else 1) v noN
def kop (c:Ch):Int:=((kids c.k).headD (dE 0 0 noN)).a.op
def knum (c:Ch):Int:=((kids c.k).headD (dE 0 0 noN)).a.num
def isLit (c:Ch):Bool:=decide (c.a.op=1∨c.a.op=2∨c.a.op=3∨c.a.op=4∨c.a.op=5∨(c.a.op=7∧(kop c=1∨kop c=2)))
def litV (c:Ch):Int:=if c.a.op=1∨c.a.op=2∨c.a.op=3 then c.a.num else if c.a.op=4 then 1 else if c.a.op=5 then 0 else -(knum c)
def zeroB (c:Ch):Bool:=decide ((c.a.op=1∨c.a.op=2)∧c.a.num=0)
def unitB (c:Ch):Bool:=decide (c.a.op=1∧c.a.num=1)
def g0 (L:List Ch):Ch:=L.getD 0 (dE 0 0 noN)
def g1 (L:List Ch):Ch:=L.getD 1 (dE 0 0 noN)
def g2 (L:List Ch):Ch:=L.getD 2 (dE 0 0 noN)
def k0 (c:Ch):Ch:=g0 (kids c.k)
def juncE (op st wk:Int) (L:List Ch):Ch :=
 if (g0 L).a.op=st∨(g1 L).a.op=st then dE st 0 noN else if (g0 L).a.op=wk then g1 L else if (g1 L).a.op=wk then g0 L else nE op L
def notE (c:Ch):Ch:=if c.a.op=19 then k0 c else nE 19 [c]
def implE (L:List Ch):Ch :=
 if (g0 L).a.op=5∨(g1 L).a.op=4 then dE 4 0 noN else if (g0 L).a.op=4 then g1 L else if (g1 L).a.op=5 then notE (g0 L) else nE 22 L
def neutE (op:Int) (is:Ch→Bool) (both:Bool) (L:List Ch):Ch :=
 if is (g1 L)=true then g0 L else if both=true∧is (g0 L)=true then g1 L else nE op L
def redE (op:Int) (L:List Ch):Ch :=
 if op=19 then notE (g0 L) else if op=20 then juncE 20 5 4 L else if op=21 then juncE 21 4 5 L else if op=22 then implE L else
 if op=14 then (if (g0 L).a.op=4 then g1 L else if (g0 L).a.op=5 then g2 L else nE 14 L) else
 if op=8 then neutE 8 zeroB true L else if op=9 then neutE 9 zeroB false L else if op=10 then neutE 10 unitB true L else if op=11 then neutE 11 unitB false L else nE op L
def sim1 (look:Look) (cv:ByteArray→Int) (sc:Int) (a:Nd) (T:List Int) (L:List Ch):Ch :=
 if a.op=6 then (if atE sc a.name=0 then dE 6 0 a.name else litE (look a.name).1 (cv a.name))
 else if L=[] then dE a.op a.num noN
 else if L.all isLit=true then litE (resT a.op T) (opV a.op (L.map litV)) else redE a.op L
def simF (look:Look) (cv:ByteArray→Int) (sc:Int):Fo→List Ch
 | .nil=>[]
 | .node _ _ a k r=>sim1 look cv sc a (tyF look sc k).2 (simF look cv sc k) :: simF look cv sc r
def simT (look:Look) (cv:ByteArray→Int) (sc:Int) (a:Nd) (k:Fo):Ch:=sim1 look cv sc a (tyF look sc k).2 (simF look cv sc k)
theorem simF_len (look:Look) (cv:ByteArray→Int) (sc:Int) (T:Fo):(simF look cv sc T).length=len T:=by
 induction T with
 | nil=>rfl
 | node b o a k r _ ihr=>simp [simF,len,ihr]
theorem litE_isLit (t v:Int):isLit (litE t v)=true:=by
 unfold litE
 (repeat' split)<;>simp [isLit,dE,nE,kop,kids,rowF]
theorem litE_val (t v:Int) (h1:1≤t∧t≤4) (h:vok t v):litV (litE t v)=v:=by
 obtain ⟨ha,hb,hc⟩:=h
 unfold litE
 by_cases h4:t=4
 · rw [if_pos h4]
   rcases hc h4 with rfl|rfl<;>simp [litV,dE]
 · rw [if_neg h4]
   by_cases h3:t=3
   · rw [if_pos h3];simp [litV,dE]
   · rw [if_neg h3]
     by_cases hv:v < 0
     · rw [if_pos hv];simp [litV,nE,knum,kids,rowF,dE]
     · rw [if_neg hv]
       by_cases h2:t=2<;>simp [litV,dE,h2]
def noL:Look:=fun _=>(0,6)
def tyE (sc:Int) (c:Ch):Int × Int:=tyT noL sc c.a c.k
structure SmE (sc t:Int) (c:Ch):Prop where
 ty:tyE sc c=(t,0)
 wf:(wfB c.a (len c.k) && wfT c.k)=true
 er:ec c=c
 lit:isLit c=true→c=litE t (litV c)∧vok t (litV c)
 n19:c.a.op=19→isLit (k0 c)=false∧(k0 c).a.op≠19
theorem ec_nE (op:Int) (L:List Ch) (h:∀ c ∈ L,ec c=c):ec (nE op L)=nE op L:=by
 have:L.map ec=L:=by
  conv=>rhs;rw [← List.map_id L]
  exact List.map_congr_left fun c hc=>h c hc
 unfold ec nE
 simp only [ef_row,this]
theorem litE_sm (sc t v:Int) (h1:1≤t∧t≤4) (h:vok t v):SmE sc t (litE t v):=by
 have hv:=litE_val t v h1 h
 refine ⟨?_,?_,?_,fun _=>⟨by rw [hv],by rw [hv];exact h⟩,?_⟩
 · unfold litE
   obtain ⟨ha,hb,hc⟩:=h
   by_cases h4:t=4
   · subst h4
     rcases hc rfl with rfl|rfl<;>rfl
   · rw [if_neg h4]
     by_cases h3:t=3
     · subst h3;rfl
     · rw [if_neg h3]
       have ht:t=1∨t=2:=by omega
       by_cases hv:v < 0
       · rw [if_pos hv]
         rcases ht with rfl|rfl<;>rfl
       · rw [if_neg hv]
         rcases ht with rfl|rfl<;>rfl
 · unfold litE
   obtain ⟨ha,hb,hc⟩:=h
   by_cases h4:t=4
   · subst h4
     rcases hc rfl with rfl|rfl<;>decide
   · rw [if_neg h4]
     by_cases h3:t=3
     · subst h3
       have:=hb rfl
       simp [dE,wfB,wfT,argB,numB,namB,len,noN,ByteArray.size]
       omega
     · rw [if_neg h3]
       have ht:t=1∨t=2:=by omega
       have:=ha ht
       by_cases hv:v < 0
       · rw [if_pos hv]
         rcases ht with rfl|rfl<;>(simp [nE,dE,rowF,wfB,wfT,argB,numB,namB,len,noN,ByteArray.size];omega)
       · rw [if_neg hv]
         rcases ht with rfl|rfl<;>(simp [dE,wfB,wfT,argB,numB,namB,len,noN,ByteArray.size];omega)
 · unfold litE
   (repeat' split)<;>rfl
 · unfold litE
   (repeat' split)<;>simp [dE,nE]
def smL (sc:Int):List Int→List Ch→Prop
 | [],[]=>True
 | t :: T,c :: L=>SmE sc t c∧smL sc T L
 | _,_=>False
theorem smL_len (sc:Int):∀ {T:List Int} {L:List Ch},smL sc T L→T.length=L.length
 | [],[],_=>rfl
 | _ :: T,_ :: L,h=>by simp [smL_len sc h.2]
 | [],_ :: _,h=>h.elim
 | _ :: _,[],h=>h.elim
theorem smL_ty (sc:Int):∀ {T:List Int} {L:List Ch},smL sc T L→tyF noL sc (rowF L)=(0,T)
 | [],[],_=>rfl
 | t :: T,c :: L,h=>by
   have h1:tyT noL sc c.a c.k=(t,0):=h.1.ty
   rw [rowF,tyF_node,h1,smL_ty sc h.2];rfl
 | [],_ :: _,h=>h.elim
 | _ :: _,[],h=>h.elim
theorem smL_wf (sc:Int):∀ {T:List Int} {L:List Ch},smL sc T L→wfT (rowF L)=true
 | [],[],_=>rfl
 | t :: T,c :: L,h=>by
   show ((wfB c.a (len c.k) && wfT c.k) && wfT (rowF L))=true
   rw [h.1.wf,smL_wf sc h.2];rfl
 | [],_ :: _,h=>h.elim
 | _ :: _,[],h=>h.elim
theorem smL_er (sc:Int):∀ {T:List Int} {L:List Ch},smL sc T L→∀ c ∈ L,ec c=c
 | [],[],_,c,hc=>by cases hc
 | t :: T,d :: L,h,c,hc=>by
   rcases List.mem_cons.1 hc with rfl|hc
   · exact h.1.er
   · exact smL_er sc h.2 c hc
 | [],_ :: _,h,_,_=>h.elim
 | _ :: _,[],h,_,_=>h.elim
theorem smL_voks (sc:Int):∀ {T:List Int} {L:List Ch},smL sc T L→L.all isLit=true→voks T (L.map litV)
 | [],[],_,_=>trivial
 | t :: T,d :: L,h,ha=>by
   rw [List.all_cons,Bool.and_eq_true] at ha
   exact ⟨(h.1.lit ha.1).2,smL_voks sc h.2 ha.2⟩
 | [],_ :: _,h,_=>h.elim
 | _ :: _,[],h,_=>h.elim
theorem nE_ty (sc op:Int) (T:List Int) (L:List Ch) (h:smL sc T L) (h6:op≠6) (hr:resT op T≠0):tyE sc (nE op L)=(resT op T,0):=by
 unfold tyE tyT nE
 simp only [if_neg h6,smL_ty sc h]
 simp [hr]
theorem nE_wf (sc op:Int) (T:List Int) (L:List Ch) (h:smL sc T L) (h7:7≤op∧op≤22) (ha:argB op (L.length:Int)=true):(wfB (nE op L).a (len (nE op L).k) && wfT (nE op L).k)=true:=by
 have h1:wfT (nE op L).k=true:=smL_wf sc h
 rw [h1,Bool.and_true]
 have hl:((len (nE op L).k:Nat):Int)=(L.length:Int):=by show ((len (rowF L):Nat):Int)=_;rw [rowF_len]
 unfold wfB
 rw [hl]
 have e1:numB op 0=true:=by unfold numB;rw [if_neg (by omega),if_neg (by omega)];rfl
 have e2:namB op noN=true:=by unfold namB;rw [if_neg (by omega)];rfl
 show (decide (1≤op∧op≤22) && argB op (L.length:Int) && numB op 0 && namB op noN)=true
 rw [e1,e2,ha]
 simp;omega
theorem isLit_nE (op:Int) (L:List Ch) (h7:7≤op):isLit (nE op L)=true→op=7∧isLit (g0 L)=true:=by
 intro h
 unfold isLit at h
 rw [decide_eq_true_eq] at h
 have e:(nE op L).a.op=op:=rfl
 rw [e] at h
 have hk:kop (nE op L)=(g0 L).a.op:=by
  unfold kop nE g0
  simp only [kids_rowF]
  cases L<;>rfl
 rw [hk] at h
 have h7':op=7∧((g0 L).a.op=1∨(g0 L).a.op=2):=by omega
 refine ⟨h7'.1,?_⟩
 unfold isLit
 rw [decide_eq_true_eq]
 omega
theorem nE_sm (sc op:Int) (T:List Int) (L:List Ch) (h:smL sc T L) (h7:7≤op∧op≤22) (hr:resT op T≠0) (ha:argB op (L.length:Int)=true) (hn:L.all isLit≠true) (h19:op=19→(g0 L).a.op≠19):SmE sc (resT op T) (nE op L):=by
 have one:op=7∨op=19→L=[g0 L]:=by
  intro q
  unfold argB at ha
  rw [if_neg (by omega),if_pos q,decide_eq_true_eq] at ha
  match L,ha with
  | [c],_=>rfl
  | [],ha=>simp at ha
  | _ :: _ :: _,ha=>simp at ha;omega
 refine ⟨nE_ty sc op T L h (by omega) hr,nE_wf sc op T L h h7 ha,ec_nE op L (smL_er sc h),fun q=>?_,fun q=>?_⟩
 · obtain ⟨q1,q2⟩:=isLit_nE op L h7.1 q
   exfalso
   apply hn
   rw [one (.inl q1)]
   simp [q2]
 · have e:op=19:=q
   have hk:k0 (nE op L)=g0 L:=by unfold k0 nE;simp only [kids_rowF]
   rw [hk]
   refine ⟨?_,h19 e⟩
   cases hq:isLit (g0 L) with
   | false=>rfl
   | true =>
     exfalso
     apply hn
     rw [one (.inr e)]
     simp [hq]
end
section
set_option linter.unusedVariables false
set_option linter.unusedSimpArgs false
open Go.RowKit
open Go.Deep (BT)
theorem smL2 {sc:Int} {T:List Int} {L:List Ch} (h:smL sc T L) (hl:L.length=2):∃ t u c d,T=[t,u]∧L=[c,d]∧SmE sc t c∧SmE sc u d:=by
 match T,L,h,hl with
 | [t,u],[c,d],h,_=>exact ⟨t,u,c,d,rfl,rfl,h.1,h.2.1⟩
 | [t],[c,d],h,_=>exact h.2.elim
 | [],[c,d],h,_=>exact h.elim
 | t :: u :: v :: T,[c,d],h,_=>exact h.2.2.elim
theorem smL1 {sc:Int} {T:List Int} {L:List Ch} (h:smL sc T L) (hl:L.length=1):∃ t c,T=[t]∧L=[c]∧SmE sc t c:=by
 match T,L,h,hl with
 | [t],[c],h,_=>exact ⟨t,c,rfl,rfl,h.1⟩
 | [],[c],h,_=>exact h.elim
 | t :: u :: T,[c],h,_=>exact h.2.elim
theorem smL3 {sc:Int} {T:List Int} {L:List Ch} (h:smL sc T L) (hl:L.length=3):∃ t u v c d e,T=[t,u,v]∧L=[c,d,e]∧SmE sc t c∧SmE sc u d∧SmE sc v e:=by
 match T,L,h,hl with
 | [t,u,v],[c,d,e],h,_=>exact ⟨t,u,v,c,d,e,rfl,rfl,h.1,h.2.1,h.2.2.1⟩
 | [t,u],[c,d,e],h,_=>exact h.2.2.elim
 | [t],[c,d,e],h,_=>exact h.2.elim
 | [],[c,d,e],h,_=>exact h.elim
 | t :: u :: v :: x :: T,[c,d,e],h,_=>exact h.2.2.2.elim
theorem res_not (t:Int) (h:resT 19 [t]≠0):t=4∧resT 19 [t]=4:=by
 by_cases q:t=4
 · subst q;exact ⟨rfl,rfl⟩
 · exfalso;apply h;simp [resT,cmpB,allI,q]
theorem res_junc (op t u:Int) (ho:op=20∨op=21∨op=22) (h:resT op [t,u]≠0):t=4∧u=4∧resT op [t,u]=4:=by
 by_cases q:t=4∧u=4
 · obtain ⟨rfl,rfl⟩:=q
   rcases ho with rfl|rfl|rfl<;>exact ⟨rfl,rfl,rfl⟩
 · exfalso;apply h
   have:allI [t,u] 4=false:=by
    unfold allI
    simp
    intro e;exact fun e2=>q ⟨e,e2⟩
   rcases ho with rfl|rfl|rfl<;>simp [resT,cmpB,this]
theorem res_if (t u v:Int) (h:resT 14 [t,u,v]≠0):t=4∧u=v∧resT 14 [t,u,v]=u:=by
 by_cases q:t=4∧u=v
 · obtain ⟨rfl,rfl⟩:=q
   refine ⟨rfl,rfl,?_⟩
   simp [resT]
 · exfalso;apply h
   simp only [resT]
   simp
   intro e e2;exact absurd ⟨e,e2⟩ q
theorem res_sum (op t u:Int) (ho:op=8∨op=9) (h:resT op [t,u]≠0):t=u∧(t=1∨t=2)∧resT op [t,u]=t:=by
 have e:resT op [t,u]=if (amtB t && allI [t,u] t)=true then t else 0:=by
  rcases ho with rfl|rfl<;>simp [resT]
 rw [e] at h ⊢
 by_cases q:(amtB t && allI [t,u] t)=true
 · rw [if_pos q]
   rw [Bool.and_eq_true] at q
   unfold amtB allI at q
   simp at q
   exact ⟨q.2.symm,q.1,rfl⟩
 · rw [if_neg q] at h;exact absurd rfl h
theorem res_mul (t u:Int) (h:resT 10 [t,u]≠0):resT 10 [t,u]=prodT 10 t u:=by simp [resT]
theorem res_div (t u:Int) (h:resT 11 [t,u]≠0):resT 11 [t,u]=prodT 11 t u:=by simp [resT]
theorem lit_dE (sc op:Int) (h:op=4∨op=5):SmE sc 4 (dE op 0 noN):=by
 rcases h with rfl|rfl
 · have:=litE_sm sc 4 1 (by omega) ⟨fun q=>by omega,fun q=>by omega,fun _=>.inr rfl⟩
   exact this
 · have:=litE_sm sc 4 0 (by omega) ⟨fun q=>by omega,fun q=>by omega,fun _=>.inl rfl⟩
   exact this
theorem k0_sm {sc:Int} {c:Ch} (h:SmE sc 4 c) (h19:c.a.op=19):SmE sc 4 (k0 c):=by
 obtain ⟨b,o,a,k⟩:=c
 have hw:=h.wf
 have hw2:wfB a (len k)=true∧wfT k=true:=by rw [Bool.and_eq_true] at hw;exact hw
 have ha:argB a.op (len k)=true:=by
  have:=hw2.1
  unfold wfB at this
  simp only [Bool.and_eq_true] at this
  exact this.1.1.2
 have e19:a.op=19:=h19
 rw [e19] at ha
 have hl:len k=1:=by simp [argB] at ha;omega
 cases k with
 | nil=>simp [len] at hl
 | node b1 o1 a1 k1 r1 =>
   have hr:r1=.nil:=len_zero (by simp [len] at hl;exact hl)
   subst hr
   have hk:k0 ⟨b,o,a,.node b1 o1 a1 k1 .nil⟩=⟨b1,o1,a1,k1⟩:=rfl
   have h9:=h.n19 e19
   rw [hk] at h9 ⊢
   have hty:=h.ty
   have hp:=ty_parts noL sc a (.node b1 o1 a1 k1 .nil) (by have:=congrArg Prod.snd hty;exact this) (by omega)
   have hrow:=ty_row noL sc b1 o1 a1 k1 .nil hp.1
   have hT:(tyF noL sc (.node b1 o1 a1 k1 .nil)).2=[(tyT noL sc a1 k1).1]:=hrow.2.2
   have hn:=hp.2.1
   rw [hT,e19] at hn
   have h4:=(res_not _ hn).1
   have hwk:((wfB a1 (len k1) && wfT k1) && true)=true:=hw2.2
   have her:=h.er
   have hec:(⟨b1,o1,a1,k1⟩:Ch)=ec ⟨b1,o1,a1,k1⟩:=by
    have h1:=congrArg Ch.k her
    have h2:BT.node 0 0 ⟨a1.op,a1.num,a1.name,none,0⟩ (ef k1) .nil=BT.node b1 o1 a1 k1 .nil:=h1
    injection h2 with h3 h4 h5 h6 h7
    show (⟨b1,o1,a1,k1⟩:Ch)=⟨0,0,⟨a1.op,a1.num,a1.name,none,0⟩,ef k1⟩
    rw [h6,← h3,← h4]
    congr 1
    exact h5.symm
   refine ⟨?_,?_,hec.symm,fun q=>?_,fun q=>?_⟩
   · show tyT noL sc a1 k1=(4,0)
     rw [← h4,← hrow.1]
   · rw [Bool.and_true] at hwk;exact hwk
   · rw [h9.1] at q;cases q
   · exact absurd q h9.2
theorem not_sm {sc:Int} {c:Ch} (h:SmE sc 4 c) (hn:isLit c≠true):SmE sc 4 (notE c):=by
 unfold notE
 by_cases h19:c.a.op=19
 · rw [if_pos h19];exact k0_sm h h19
 · rw [if_neg h19]
   have:=nE_sm sc 19 [4] [c] ⟨h,trivial⟩ (by omega) (by decide) (by simp [argB]) (by simpa using hn) (fun _=>h19)
   exact this
theorem junc_sm {sc st wk op:Int} {c d:Ch} (hc:SmE sc 4 c) (hd:SmE sc 4 d) (ho:op=20∨op=21) (hst:st=4∨st=5) (hn:[c,d].all isLit≠true):SmE sc 4 (juncE op st wk [c,d]):=by
 unfold juncE
 have e0:g0 [c,d]=c:=rfl
 have e1:g1 [c,d]=d:=rfl
 rw [e0,e1]
 (repeat' split)
 · exact lit_dE sc st hst
 · exact hd
 · exact hc
 · have hr:resT op [4,4]=4:=by rcases ho with rfl|rfl<;>rfl
   have:=nE_sm sc op [4,4] [c,d] ⟨hc,hd,trivial⟩ (by omega) (by rw [hr];decide) (by rcases ho with rfl|rfl<;>simp [argB]) hn (fun q=>by omega)
   rw [hr] at this
   exact this
theorem bool_lit {sc:Int} {c:Ch} (h:SmE sc 4 c) (h4:c.a.op≠4) (h5:c.a.op≠5):isLit c≠true:=by
 intro q
 have h1:=(h.lit q).1
 have h2:(litE 4 (litV c)).a.op=4∨(litE 4 (litV c)).a.op=5:=by
  unfold litE
  rw [if_pos rfl]
  split
  · exact .inl rfl
  · exact .inr rfl
 rw [← h1] at h2
 omega
theorem red_sm (sc op : Int) (T:List Int) (L:List Ch) (h:smL sc T L) (h7:7≤op∧op≤22) (hr:resT op T≠0) (ha:argB op (L.length:Int)=true) (hn:L.all isLit≠true):SmE sc (resT op T) (redE op L):=by
 unfold redE
 by_cases o19:op=19
 · rw [if_pos o19]
   subst o19
   obtain ⟨t,c,rfl,rfl,hc⟩:=smL1 h (by simp [argB] at ha;omega)
   obtain ⟨rfl,e⟩:=res_not t hr
   rw [e]
   exact not_sm (c:=g0 [c]) hc (fun q=>hn (by show (isLit c && true)=true;rw [Bool.and_true];exact q))
 · rw [if_neg o19]
   by_cases o20:op=20
   · rw [if_pos o20]
     subst o20
     obtain ⟨t,u,c,d,rfl,rfl,hc,hd⟩:=smL2 h (by simp [argB] at ha;omega)
     obtain ⟨rfl,rfl,e⟩:=res_junc 20 t u (.inl rfl) hr
     rw [e]
     exact junc_sm hc hd (.inl rfl) (.inr rfl) hn
   · rw [if_neg o20]
     by_cases o21:op=21
     · rw [if_pos o21]
       subst o21
       obtain ⟨t,u,c,d,rfl,rfl,hc,hd⟩:=smL2 h (by simp [argB] at ha;omega)
       obtain ⟨rfl,rfl,e⟩:=res_junc 21 t u (.inr (.inl rfl)) hr
       rw [e]
       exact junc_sm hc hd (.inr rfl) (.inl rfl) hn
     · rw [if_neg o21]
       by_cases o22:op=22
       · rw [if_pos o22]
         subst o22
         obtain ⟨t,u,c,d,rfl,rfl,hc,hd⟩:=smL2 h (by simp [argB] at ha;omega)
         obtain ⟨rfl,rfl,e⟩:=res_junc 22 t u (.inr (.inr rfl)) hr
         have hy:=nE_sm sc 22 [4,4] [c,d] h (by omega) hr ha hn (fun q=>by omega)
         rw [e] at hy ⊢
         unfold implE
         have e0:g0 [c,d]=c:=rfl
         have e1:g1 [c,d]=d:=rfl
         rw [e0,e1]
         split
         · exact lit_dE sc 4 (.inl rfl)
         · rename_i q1
           split
           · exact hd
           · rename_i q2
             split
             · exact not_sm hc (bool_lit hc q2 (fun q=>q1 (.inl q)))
             · exact hy
       · rw [if_neg o22]
         by_cases o14:op=14
         · rw [if_pos o14]
           subst o14
           obtain ⟨t,u,v,c,d,e,rfl,rfl,hc,hd,he⟩:=smL3 h (by simp [argB] at ha;omega)
           have hy:=nE_sm sc 14 _ _ h (by omega) hr ha hn (fun q=>by omega)
           obtain ⟨rfl,rfl,e9⟩:=res_if t u v hr
           rw [e9] at hy ⊢
           have e0:g0 [c,d,e]=c:=rfl
           have e1:g1 [c,d,e]=d:=rfl
           have e2:g2 [c,d,e]=e:=rfl
           rw [e0,e1,e2]
           (repeat' split)
           · exact hd
           · exact he
           · exact hy
         · rw [if_neg o14]
           have neut:∀ (is:Ch→Bool) (both:Bool) (c d:Ch) (t:Int),L=[c,d]→SmE sc t (nE op L)→(is d=true→SmE sc t c)→(both=true→is c=true→SmE sc t d)→SmE sc t (neutE op is both L):=by
            intro is both c d t hL hy h1 h2
            subst hL
            unfold neutE
            have e0:g0 [c,d]=c:=rfl
            have e1:g1 [c,d]=d:=rfl
            rw [e0,e1]
            split
            · rename_i q;exact h1 q
            · split
              · rename_i q;exact h2 q.1 q.2
              · exact hy
           have hy:=nE_sm sc op _ _ h h7 hr ha hn (fun q=>absurd q o19)
           have two:op=8∨op=9∨op=10∨op=11→L.length=2:=by
            intro q
            unfold argB at ha
            rw [if_neg (by omega),if_neg (by omega),if_neg (by omega),if_neg (by omega),decide_eq_true_eq] at ha
            omega
           by_cases o8:op=8
           · rw [if_pos o8]
             obtain ⟨t,u,c,d,rfl,rfl,hc,hd⟩:=smL2 h (two (.inl o8))
             obtain ⟨rfl,-,e⟩:=res_sum op t u (.inl o8) hr
             rw [e] at hy ⊢
             have:=neut zeroB true c d t rfl hy (fun _=>hc) (fun _ _=>hd)
             rw [o8] at this
             exact this
           · rw [if_neg o8]
             by_cases o9:op=9
             · rw [if_pos o9]
               obtain ⟨t,u,c,d,rfl,rfl,hc,hd⟩:=smL2 h (two (.inr (.inl o9)))
               obtain ⟨rfl,-,e⟩:=res_sum op t u (.inr o9) hr
               rw [e] at hy ⊢
               have:=neut zeroB false c d t rfl hy (fun _=>hc) (fun q=>by cases q)
               rw [o9] at this
               exact this
             · rw [if_neg o9]
               have unit1:∀ {t:Int} {c:Ch},SmE sc t c→unitB c=true→t=1:=by
                intro t c hc q
                unfold unitB at q
                rw [decide_eq_true_eq] at q
                have:=hc.ty
                unfold tyE tyT at this
                rw [if_neg (by omega)] at this
                have e1:resT c.a.op (tyF noL sc c.k).2=1:=by rw [q.1];rfl
                by_cases q2:(tyF noL sc c.k).1=0
                · rw [if_pos q2,e1] at this
                  simp at this
                  exact this.symm
                · rw [if_neg q2] at this
                  have:=congrArg Prod.snd this
                  exact absurd this q2
               by_cases o10:op=10
               · rw [if_pos o10]
                 obtain ⟨t,u,c,d,rfl,rfl,hc,hd⟩:=smL2 h (two (.inr (.inr (.inl o10))))
                 rw [o10] at hr
                 have e:=res_mul t u hr
                 rw [o10] at hy ⊢
                 rw [e] at hr hy ⊢
                 have:=neut unitB true c d (prodT 10 t u) rfl (by rw [o10];exact hy) (fun q=>by
                  have:=unit1 hd q;subst this
                  have:prodT 10 t 1=t:=by unfold prodT at hr ⊢;(repeat' split)<;>first|omega|(exfalso;apply hr;(repeat' split)<;>first|rfl|omega)
                  rw [this];exact hc) (fun _ q=>by
                  have:=unit1 hc q;subst this
                  have:prodT 10 1 u=u:=by unfold prodT at hr ⊢;(repeat' split)<;>first|omega|(exfalso;apply hr;(repeat' split)<;>first|rfl|omega)
                  rw [this];exact hd)
                 rw [o10] at this
                 exact this
               · rw [if_neg o10]
                 by_cases o11:op=11
                 · rw [if_pos o11]
                   obtain ⟨t,u,c,d,rfl,rfl,hc,hd⟩:=smL2 h (two (.inr (.inr (.inr o11))))
                   rw [o11] at hr
                   have e:=res_div t u hr
                   rw [o11] at hy ⊢
                   rw [e] at hr hy ⊢
                   have:=neut unitB false c d (prodT 11 t u) rfl (by rw [o11];exact hy) (fun q=>by
                    have:=unit1 hd q;subst this
                    have:prodT 11 t 1=t:=by unfold prodT at hr ⊢;(repeat' split)<;>first|omega|(exfalso;apply hr;(repeat' split)<;>first|rfl|omega)
                    rw [this];exact hc) (fun q=>by cases q)
                   rw [o11] at this
                   exact this
                 · rw [if_neg o11];exact hy
end
section
set_option linter.unusedVariables false
set_option linter.unusedSimpArgs false
open Go.RowKit
open Go.Deep (BT)
def CvOk (look:Look) (cv:ByteArray→Int):Prop:=∀ s,(look s).2=0→(1≤(look s).1∧(look s).1≤4)∧vok (look s).1 (cv s)
theorem wf_parts {a:Nd} {n:Int} (h:wfB a n=true):(1≤a.op∧a.op≤22)∧argB a.op n=true∧numB a.op a.num=true∧namB a.op a.name=true:=by
 unfold wfB at h
 simp only [Bool.and_eq_true,decide_eq_true_eq] at h
 exact ⟨h.1.1.1,h.1.1.2,h.1.2,h.2⟩
theorem att_sm (sc:Int) (s:ByteArray) (h:atE sc s=0) (hn:attrS s=true):SmE sc (atS sc s) (dE 6 0 s):=by
 refine ⟨?_,?_,rfl,fun q=>by simp [isLit,dE] at q,fun q=>by simp [dE] at q⟩
 · show tyT noL sc ⟨6,0,s,none,0⟩ .nil=_
   unfold tyT
   rw [if_pos rfl]
   unfold nameT
   rw [if_pos h]
 · show (wfB ⟨6,0,s,none,0⟩ (len .nil) && true)=true
   simp [wfB,argB,numB,namB,hn,len]
theorem leaf_sm (sc:Int) (a:Nd) (n:Int) (hw:wfB a n=true) (h6:a.op≠6) (h7:¬ 7≤a.op):SmE sc (resT a.op []) (dE a.op a.num noN)∧1≤resT a.op []∧resT a.op []≤4:=by
 obtain ⟨h1,-,h2,-⟩:=wf_parts hw
 have hop:a.op=1∨a.op=2∨a.op=3∨a.op=4∨a.op=5:=by omega
 rcases hop with e|e|e|e|e<;>rw [e] at h2 ⊢
 · have hb:0≤a.num∧a.num≤1099511627776:=by simpa [numB] using h2
   have:=litE_sm sc 1 a.num (by omega) ⟨fun _=>by omega,fun q=>by omega,fun q=>by omega⟩
   unfold litE at this
   rw [if_neg (by decide),if_neg (by decide),if_neg (by omega),if_neg (by decide)] at this
   exact ⟨this,by decide,by decide⟩
 · have hb:0≤a.num∧a.num≤1099511627776:=by simpa [numB] using h2
   have:=litE_sm sc 2 a.num (by omega) ⟨fun _=>by omega,fun q=>by omega,fun q=>by omega⟩
   unfold litE at this
   rw [if_neg (by decide),if_neg (by decide),if_neg (by omega),if_pos rfl] at this
   exact ⟨this,by decide,by decide⟩
 · have hb:0≤a.num∧a.num≤1439:=by simpa [numB] using h2
   have:=litE_sm sc 3 a.num (by omega) ⟨fun q=>by omega,fun _=>by omega,fun q=>by omega⟩
   unfold litE at this
   rw [if_neg (by decide),if_pos rfl] at this
   exact ⟨this,by decide,by decide⟩
 · have hb:a.num=0:=by simpa [numB] using h2
   rw [hb]
   exact ⟨lit_dE sc 4 (.inl rfl),by decide,by decide⟩
 · have hb:a.num=0:=by simpa [numB] using h2
   rw [hb]
   exact ⟨lit_dE sc 5 (.inr rfl),by decide,by decide⟩
theorem res_range (op:Int) (T:List Int) (hT:∀ t ∈ T,1≤t∧t≤4) (h7:7≤op∧op≤22) (hr:resT op T≠0):1≤resT op T∧resT op T≤4:=by
 have hg:∀ i,T.getD i 0=0∨(1≤T.getD i 0∧T.getD i 0≤4):=by
  intro i
  rw [List.getD_eq_getElem?_getD]
  cases q:T[i]? with
  | none=>exact .inl rfl
  | some t=>exact .inr (hT t (List.mem_of_getElem? q))
 have g0:=hg 0
 have g1:=hg 1
 have hp:prodT op (T.getD 0 0) (T.getD 1 0)=0∨prodT op (T.getD 0 0) (T.getD 1 0)=1∨prodT op (T.getD 0 0) (T.getD 1 0)=2:=by
  generalize T.getD 0 0=a
  generalize T.getD 1 0=b
  unfold prodT
  (repeat' split)<;>omega
 unfold resT at hr ⊢
 rw [if_neg (by omega),if_neg (by omega),if_neg (by omega),if_neg (by omega)] at hr ⊢
 by_cases q1:op=7∨op=8∨op=9∨op=12∨op=13
 · rw [if_pos q1] at hr ⊢
   by_cases q2:(amtB (T.getD 0 0) && allI T (T.getD 0 0))=true
   · rw [if_pos q2] at hr ⊢;omega
   · rw [if_neg q2] at hr;exact absurd rfl hr
 · rw [if_neg q1] at hr ⊢
   by_cases q2:op=10∨op=11
   · rw [if_pos q2] at hr ⊢;omega
   · rw [if_neg q2] at hr ⊢
     by_cases q3:op=14
     · rw [if_pos q3] at hr ⊢
       by_cases q4:T.getD 0 0=4∧T.getD 1 0=T.getD 2 0
       · rw [if_pos q4] at hr ⊢;omega
       · rw [if_neg q4] at hr;exact absurd rfl hr
     · rw [if_neg q3] at hr ⊢
       by_cases q4:cmpB op T=true
       · rw [if_pos q4];decide
       · rw [if_neg q4] at hr;exact absurd rfl hr
theorem sim_node (look:Look) (cv:ByteArray→Int) (sc:Int) (a:Nd) (k:Fo) (h:(tyT look sc a k).2=0) (hw:(wfB a (len k) && wfT k)=true) (hc:CvOk look cv)
 (ih:(tyF look sc k).1=0→wfT k=true→smL sc (tyF look sc k).2 (simF look cv sc k)∧∀ t ∈ (tyF look sc k).2,1≤t∧t≤4) :
 SmE sc (tyT look sc a k).1 (simT look cv sc a k)∧1≤(tyT look sc a k).1∧(tyT look sc a k).1≤4:=by
 rw [Bool.and_eq_true] at hw
 obtain ⟨h1,h2,h3,h4⟩:=wf_parts hw.1
 unfold simT sim1
 by_cases h6:a.op=6
 · rw [if_pos h6]
   have e1:tyT look sc a k=nameT look sc a.name:=by unfold tyT;rw [if_pos h6]
   rw [e1] at h ⊢
   unfold nameT at h ⊢
   by_cases hq:atE sc a.name=0
   · rw [if_pos hq] at h ⊢
     rw [if_pos hq]
     have hb:=atS_bd sc a.name
     have hne:atS sc a.name≠0:=by
      intro q
      unfold atE at hq
      rw [q] at hq
      simp at hq
     exact ⟨att_sm sc a.name hq (by unfold namB at h4;rw [if_pos h6] at h4;exact h4),by show 1≤atS sc a.name;omega,by show atS sc a.name≤4;omega⟩
   · rw [if_neg hq] at h ⊢
     rw [if_neg hq]
     obtain ⟨q1,q2⟩:=hc a.name h
     exact ⟨litE_sm sc _ _ q1 q2,q1.1,q1.2⟩
 · rw [if_neg h6]
   obtain ⟨p1,p2,p3⟩:=ty_parts look sc a k h h6
   rw [p3]
   obtain ⟨s1,s2⟩:=ih p1 hw.2
   by_cases h7:7≤a.op
   · have hl:=simF_len look cv sc k
     have hne:simF look cv sc k≠[]:=by
      intro q
      rw [q] at hl
      have:len k=0:=hl.symm
      rw [this] at h2
      unfold argB at h2
      rw [if_neg (by omega)] at h2
      (repeat' split at h2)<;>simp at h2
     rw [if_neg hne]
     have hr:=res_range a.op _ s2 ⟨h7,h1.2⟩ p2
     have ha:argB a.op ((simF look cv sc k).length:Int)=true:=by rw [hl];exact h2
     have hTl:((tyF look sc k).2.length:Int)=(len k:Int):=by rw [tyF_len look sc k p1]
     by_cases hall:(simF look cv sc k).all isLit=true
     · rw [if_pos hall]
       exact ⟨litE_sm sc _ _ hr (op_ok a.op _ _ (smL_voks sc s1 hall) ⟨h7,h1.2⟩ (by rw [hTl];exact h2) p2),hr.1,hr.2⟩
     · rw [if_neg hall]
       exact ⟨red_sm sc a.op _ _ s1 ⟨h7,h1.2⟩ p2 ha hall,hr.1,hr.2⟩
   · have hk:len k=0:=by
      unfold argB at h2
      rw [if_pos (by omega)] at h2
      simpa using h2
     have hkn:=len_zero hk
     subst hkn
     have e0:simF look cv sc .nil=[]:=rfl
     rw [e0,if_pos rfl]
     exact leaf_sm sc a _ hw.1 h6 h7
theorem simF_sm (look:Look) (cv:ByteArray→Int) (sc:Int) (hc:CvOk look cv) (T:Fo) (h:(tyF look sc T).1=0) (hw:wfT T=true) :
 smL sc (tyF look sc T).2 (simF look cv sc T)∧∀ t ∈ (tyF look sc T).2,1≤t∧t≤4:=by
 induction T with
 | nil=>exact ⟨trivial,fun t ht=>by cases ht⟩
 | node b o a k r ihk ihr =>
   obtain ⟨h1,h2,h3⟩:=ty_row look sc b o a k r h
   have hw':((wfB a (len k) && wfT k) && wfT r)=true:=hw
   rw [Bool.and_eq_true] at hw'
   obtain ⟨r1,r2⟩:=ihr h2 hw'.2
   obtain ⟨n1,n2,n3⟩:=sim_node look cv sc a k h1 hw'.1 hc ihk
   rw [h3]
   refine ⟨⟨n1,r1⟩,fun t ht=>?_⟩
   rcases List.mem_cons.1 ht with rfl|ht
   · exact ⟨n2,n3⟩
   · exact r2 t ht
theorem sim_sm (look:Look) (cv:ByteArray→Int) (sc:Int) (hc:CvOk look cv) (a:Nd) (k:Fo) (h:(tyT look sc a k).2=0) (hw:(wfB a (len k) && wfT k)=true) :
 SmE sc (tyT look sc a k).1 (simT look cv sc a k)∧1≤(tyT look sc a k).1∧(tyT look sc a k).1≤4:=sim_node look cv sc a k h hw hc (simF_sm look cv sc hc k)
theorem simF_lit (look:Look) (cv:ByteArray→Int) (hc:CvOk look cv) (T:Fo) (h:(tyF look 0 T).1=0) (hw:wfT T=true) :
 (simF look cv 0 T).all isLit=true∧(simF look cv 0 T).map litV=evF cv T:=by
 induction T with
 | nil=>exact ⟨rfl,rfl⟩
 | node b o a k r ihk ihr =>
   obtain ⟨h1,h2,h3⟩:=ty_row look 0 b o a k r h
   have hw':((wfB a (len k) && wfT k) && wfT r)=true:=hw
   rw [Bool.and_eq_true] at hw'
   have hwk:=hw'.1
   rw [Bool.and_eq_true] at hwk
   obtain ⟨r1,r2⟩:=ihr h2 hw'.2
   have key : simT look cv 0 a k=litE (tyT look 0 a k).1 (ev1 cv a (evF cv k))∧(1≤(tyT look 0 a k).1∧(tyT look 0 a k).1≤4)∧vok (tyT look 0 a k).1 (ev1 cv a (evF cv k)):=by
    have hrg:=(sim_sm look cv 0 hc a k h1 hw'.1).2
    have hnm:NmOk look 0 cv:=fun s hs=>(hc s hs).2
    have hv:=ev_ok look 0 cv hnm a k h1 hw'.1
    refine ⟨?_,hrg,hv⟩
    obtain ⟨p1',p2',p3',p4'⟩:=wf_parts hwk.1
    unfold simT sim1
    by_cases h6:a.op=6
    · rw [if_pos h6,if_neg (show ¬ atE 0 a.name=0 from by rw [at0];decide)]
      have e1:tyT look 0 a k=look a.name:=by unfold tyT;rw [if_pos h6];unfold nameT;rw [at0,if_neg (by decide)]
      have e2:ev1 cv a (evF cv k)=cv a.name:=by unfold ev1;rw [if_neg (by omega),if_neg (by omega),if_neg (by omega),if_pos h6]
      rw [e1,e2]
    · rw [if_neg h6]
      obtain ⟨p1,p2,p3⟩:=ty_parts look 0 a k h1 h6
      obtain ⟨k1,k2⟩:=ihk p1 hwk.2
      by_cases h7:7≤a.op
      · have hl:=simF_len look cv 0 k
        have hne:simF look cv 0 k≠[]:=by
         intro q
         rw [q] at hl
         have:len k=0:=hl.symm
         rw [this] at p2'
         unfold argB at p2'
         rw [if_neg (by omega)] at p2'
         (repeat' split at p2')<;>simp at p2'
        rw [if_neg hne,if_pos k1,k2,p3]
        have e2:ev1 cv a (evF cv k)=opV a.op (evF cv k):=by unfold ev1;rw [if_neg (by omega),if_neg (by omega),if_neg (by omega),if_neg h6]
        rw [e2]
      · have hk:len k=0:=by
         unfold argB at p2'
         rw [if_pos (by omega)] at p2'
         simpa using p2'
        have hkn:=len_zero hk
        subst hkn
        rw [show simF look cv 0 .nil=[] from rfl,if_pos rfl,p3]
        have hn:=p3'
        have hop:a.op=1∨a.op=2∨a.op=3∨a.op=4∨a.op=5:=by omega
        unfold numB at hn
        unfold ev1 resT litE
        rcases hop with e|e|e|e|e<;>rw [e] at hn ⊢<;>simp (config:={ decide:=true }) only [if_true,if_false,decide_eq_true_eq] at hn ⊢
        · rw [if_neg (by omega)]
        · rw [if_neg (by omega)]
        · rw [hn]
        · rw [hn]
   have e:simF look cv 0 (.node b o a k r)=simT look cv 0 a k :: simF look cv 0 r:=rfl
   rw [e,key.1]
   refine ⟨by rw [List.all_cons,litE_isLit,r1];rfl,?_⟩
   rw [List.map_cons,litE_val _ _ key.2.1 key.2.2,r2]
   rfl
end
section
set_option linter.unusedVariables false
set_option linter.unusedSimpArgs false
open Go.RowKit
open Go.Deep (BT)
def kn (t:Int):Int:=if t < 0∨3 < t then 3 else t
def cbE (a b:Int):Int:=if kn a=0 then kn b else if kn b=0∨kn a=kn b then kn a else 3
def ivE (a:Int):Int:=if kn a=1 then 2 else if kn a=2 then 1 else kn a
def sg1 (a:Nd) (S:List (Int × Bool)) (kp:Int):Int × Bool :=
 if a.op=1∨a.op=2 then (min a.num 1,true) else if a.op=7 then (-(S.getD 0 (0,false)).1,(S.getD 0 (0,false)).2 && decide (kp≠7)) else (0,false)
def opF:Fo→Int
 | .nil=>0
 | .node _ _ a _ _=>a.op
def sgF:Fo→List (Int × Bool)
 | .nil=>[]
 | .node _ _ a k r=>sg1 a (sgF k) (opF k) :: sgF r
def scE (t s:Int):Int:=if s=0 then 0 else if s=1 then t else ivE t
def li1 (a:Nd) (k:Fo):Int × Bool :=
 if a.op=1∨a.op=2∨a.op=3 then (a.num,true) else if a.op=4 then (1,true) else if a.op=5 then (0,true) else
 if a.op=7 then (match k with|.node _ _ b _ _=>if b.op=1∨b.op=2 then (-b.num,true) else (0,false)|.nil=>(0,false)) else (0,false)
def liF:Fo→List (Int × Bool)
 | .nil=>[]
 | .node _ _ a k r=>li1 a k :: liF r
def tmE (n t:Int):Int:=if n=0 then 0 else if n < 0 then ivE t else t
def fold3 (L:List Int):Int:=L.foldl cbE 0
def pOp (op:Int) (S:List (Int × Bool)) (L:List Int):Int :=
 if op=7∨op=19 then ivE (L.getD 0 0) else if op=8∨op=20∨op=21∨op=12∨op=13 then fold3 L else
 if op=9 then cbE (L.getD 0 0) (ivE (L.getD 1 0)) else if op=22∨op=16∨op=17 then cbE (ivE (L.getD 0 0)) (L.getD 1 0) else
 if op=10 then (if (S.getD 0 (0,false)).2=true then scE (L.getD 1 0) (S.getD 0 (0,false)).1 else if (S.getD 1 (0,false)).2=true then scE (L.getD 0 0) (S.getD 1 (0,false)).1 else 3) else
 if op=11 then (if (S.getD 1 (0,false)).2=true then scE (L.getD 0 0) (S.getD 1 (0,false)).1 else 3) else
 if op=14 then (if L.getD 0 0=0 then cbE (L.getD 1 0) (L.getD 2 0) else 3) else 3
def nameE (name:ByteArray) (clk:Bool) (s:ByteArray):Int:=if s≠name then 0 else if clk=true then 3 else 1
def pT1 (name:ByteArray) (clk:Bool) (a:Nd) (S:List (Int × Bool)) (L:List Int):Int :=
 if a.op=6 then nameE name clk a.name else if (L.all fun t=>t==0)=true then 0 else pOp a.op S L
def pTF (name:ByteArray) (clk:Bool):Fo→List Int
 | .nil=>[]
 | .node _ _ a k r=>pT1 name clk a (sgF k) (pTF name clk k) :: pTF name clk r
def anyE (L:List Int):Int:=if (L.all fun t=>t==0)=true then 0 else 3
def rOp (op:Int) (S:List (Int × Bool)) (L:List Int):Int :=
 if op=7∨op=19 then ivE (L.getD 0 0) else if op=8∨op=20∨op=21∨op=12∨op=13 then fold3 L else
 if op=9 then cbE (L.getD 0 0) (ivE (L.getD 1 0)) else if op=22∨op=16∨op=17 then cbE (ivE (L.getD 0 0)) (L.getD 1 0) else
 if op=10 then (if (S.getD 0 (0,false)).2=true then tmE (S.getD 0 (0,false)).1 (L.getD 1 0) else if (S.getD 1 (0,false)).2=true then tmE (S.getD 1 (0,false)).1 (L.getD 0 0) else anyE L) else
 if op=11 then (if (S.getD 1 (0,false)).2=true then tmE (S.getD 1 (0,false)).1 (L.getD 0 0) else anyE L) else
 if op=14 then (if L.getD 0 0=0 then cbE (L.getD 1 0) (L.getD 2 0) else 3) else anyE L
def rT1 (name:ByteArray) (clk:Bool) (a:Nd) (S:List (Int × Bool)) (L:List Int):Int:=if a.op=6 then nameE name clk a.name else rOp a.op S L
def rTF (name:ByteArray) (clk:Bool):Fo→List Int
 | .nil=>[]
 | .node _ _ a k r=>rT1 name clk a (liF k) (rTF name clk k) :: rTF name clk r
theorem getD_zero {L:List Int} (h:(L.all fun t=>t==0)=true) (i:Nat):L.getD i 0=0:=by
 rw [List.all_eq_true] at h
 rw [List.getD_eq_getElem?_getD]
 cases q:L[i]? with
 | none=>rfl
 | some t=>exact eq_of_beq (h t (List.mem_of_getElem? q))
theorem fold_zero (L:List Int) (h:(L.all fun t=>t==0)=true):fold3 L=0:=by
 unfold fold3
 suffices ∀ L:List Int,(L.all fun t=>t==0)=true→L.foldl cbE 0=0 from this L h
 intro L
 induction L with
 | nil=>intro _;rfl
 | cons t l ih =>
   intro h
   rw [List.all_cons,Bool.and_eq_true] at h
   rw [List.foldl_cons,eq_of_beq h.1]
   exact ih h.2
theorem rOp_zero (op:Int) (S:List (Int × Bool)) (L:List Int) (h:(L.all fun t=>t==0)=true):rOp op S L=0:=by
 have g:=getD_zero h
 have ea:anyE L=0:=by unfold anyE;rw [if_pos h]
 have e1:ivE 0=0:=rfl
 have e2:cbE 0 0=0:=rfl
 have e3:∀ n,tmE n 0=0:=fun n=>by unfold tmE;(repeat' split)<;>rfl
 unfold rOp
 simp only [g,fold_zero L h,ea,e1,e2,e3]
 (repeat' split)<;>first|rfl|(rename_i q;exact absurd trivial q)
theorem sign_lit (sc:Int) (a:Nd) (k:Fo) (h:(tyT noL sc a k).2=0) (ht:(tyT noL sc a k).1=1∨(tyT noL sc a k).1=2) (hw:(wfB a (len k) && wfT k)=true) :
 (sg1 a (sgF k) (opF k)).2=(li1 a k).2∧((li1 a k).2=true→∀ t,scE t (sg1 a (sgF k) (opF k)).1=tmE (li1 a k).1 t):=by
 rw [Bool.and_eq_true] at hw
 obtain ⟨h1,h2,h3,h4⟩:=wf_parts hw.1
 have num:∀ n:Int,0≤n→∀ t,scE t (min n 1)=tmE n t:=by
  intro n hn t
  unfold scE tmE
  by_cases q:n=0
  · subst q;rfl
  · rw [show min n 1=1 by omega,if_neg (by decide),if_pos rfl,if_neg q,if_neg (by omega)]
 have nneg:∀ n:Int,0≤n→∀ t,scE t (-(min n 1))=tmE (-n) t:=by
  intro n hn t
  unfold scE tmE
  by_cases q:n=0
  · subst q;rfl
  · rw [show min n 1=1 by omega,if_neg (by decide),if_neg (by decide),if_neg (by omega),if_pos (by omega)]
 by_cases q:a.op=1∨a.op=2
 · have hn:0≤a.num:=by
    unfold numB at h3
    rw [if_pos q,decide_eq_true_eq] at h3
    exact h3.1
   have e1:sg1 a (sgF k) (opF k)=(min a.num 1,true):=by unfold sg1;rw [if_pos q]
   have e2:li1 a k=(a.num,true):=by unfold li1;rw [if_pos (by omega)]
   rw [e1,e2]
   exact ⟨rfl,fun _ t=>num a.num hn t⟩
 · by_cases h6 : a.op=6
   · have e1:sg1 a (sgF k) (opF k)=(0,false):=by unfold sg1;rw [if_neg q,if_neg (by omega)]
     have e2:li1 a k=(0,false):=by unfold li1;rw [if_neg (by omega),if_neg (by omega),if_neg (by omega),if_neg (by omega)]
     rw [e1,e2]
     exact ⟨rfl,fun q=>by cases q⟩
   · obtain ⟨p1, p2,p3⟩:=ty_parts noL sc a k h h6
     have n3:a.op≠3:=by intro e;rw [p3,e] at ht;have:resT 3 (tyF noL sc k).2=3:=rfl;omega
     have n4:a.op≠4:=by intro e;rw [p3,e] at ht;have:resT 4 (tyF noL sc k).2=4:=rfl;omega
     have n5:a.op≠5:=by intro e;rw [p3,e] at ht;have:resT 5 (tyF noL sc k).2=4:=rfl;omega
     by_cases h7:a.op=7
     · cases k with
       | nil=>rw [h7] at h2;simp [argB,len] at h2
       | node b o c k1 r =>
         have hwk:((wfB c (len k1) && wfT k1) && wfT r)=true:=hw.2
         simp only [Bool.and_eq_true] at hwk
         obtain ⟨c1,c2,c3,c4⟩:=wf_parts hwk.1.1
         by_cases qc:c.op=1∨c.op=2
         · have hn:0≤c.num:=by
            unfold numB at c3
            rw [if_pos qc,decide_eq_true_eq] at c3
            exact c3.1
           have e0:sg1 c (sgF k1) (opF k1)=(min c.num 1,true):=by unfold sg1;rw [if_pos qc]
           have e1:sg1 a (sgF (.node b o c k1 r)) (opF (.node b o c k1 r))=(-(min c.num 1),true):=by
            unfold sg1
            rw [if_neg q,if_pos h7]
            show (-(sg1 c (sgF k1) (opF k1)).1,(sg1 c (sgF k1) (opF k1)).2 && decide (c.op≠7))=_
            rw [e0]
            simp;omega
           have e2:li1 a (.node b o c k1 r)=(-c.num,true):=by
            unfold li1
            rw [if_neg (by omega),if_neg (by omega),if_neg (by omega),if_pos h7]
            show (if c.op=1∨c.op=2 then (-c.num,true) else (0,false))=_
            rw [if_pos qc]
           rw [e1,e2]
           exact ⟨rfl,fun _ t=>nneg c.num hn t⟩
         · have e2:li1 a (.node b o c k1 r)=(0,false):=by
            unfold li1
            rw [if_neg (by omega),if_neg (by omega),if_neg (by omega),if_pos h7]
            show (if c.op=1∨c.op=2 then (-c.num,true) else (0,false))=_
            rw [if_neg qc]
           have e1:(sg1 a (sgF (.node b o c k1 r)) (opF (.node b o c k1 r))).2=false:=by
            unfold sg1
            rw [if_neg q,if_pos h7]
            show ((sg1 c (sgF k1) (opF k1)).2 && decide (c.op≠7))=false
            by_cases c7:c.op=7
            · simp [c7]
            · have:(sg1 c (sgF k1) (opF k1)).2=false:=by unfold sg1;rw [if_neg qc,if_neg c7]
              rw [this];rfl
           rw [e1,e2]
           exact ⟨rfl,fun q=>by cases q⟩
     · have e1:sg1 a (sgF k) (opF k)=(0,false):=by unfold sg1;rw [if_neg q,if_neg h7]
       have e2:li1 a k=(0,false):=by unfold li1;rw [if_neg (by omega),if_neg (by omega),if_neg (by omega),if_neg h7]
       rw [e1,e2]
       exact ⟨rfl,fun q=>by cases q⟩
theorem trend_eq (name:ByteArray) (clk:Bool) (sc:Int) (T:Fo) (h:(tyF noL sc T).1=0) (hw:wfT T=true):pTF name clk T=rTF name clk T:=by
 induction T with
 | nil=>rfl
 | node b o a k r ihk ihr =>
   obtain ⟨h1,h2,h3⟩:=ty_row noL sc b o a k r h
   have hw':((wfB a (len k) && wfT k) && wfT r)=true:=hw
   rw [Bool.and_eq_true] at hw'
   have hwk:=hw'.1
   rw [Bool.and_eq_true] at hwk
   rw [pTF,rTF,ihr h2 hw'.2]
   congr 1
   unfold pT1 rT1
   by_cases h6:a.op=6
   · rw [if_pos h6,if_pos h6]
   · rw [if_neg h6,if_neg h6]
     obtain ⟨p1,p2,p3⟩:=ty_parts noL sc a k h1 h6
     rw [ihk p1 hwk.2]
     generalize hL:rTF name clk k=L
     by_cases hz:(L.all fun t=>t==0)=true
     · rw [if_pos hz,rOp_zero _ _ _ hz]
     · rw [if_neg hz]
       have ea:anyE L=3:=by unfold anyE;rw [if_neg hz]
       obtain ⟨w1,w2,w3,w4⟩:=wf_parts hwk.1
       have fac : (a.op=10∨a.op=11)→∃ b1 o1 c1 k1 b2 o2 c2 k2,k=.node b1 o1 c1 k1 (.node b2 o2 c2 k2 .nil) ∧
        ((sg1 c1 (sgF k1) (opF k1)).2=(li1 c1 k1).2∧((li1 c1 k1).2=true→∀ t,scE t (sg1 c1 (sgF k1) (opF k1)).1=tmE (li1 c1 k1).1 t)) ∧
        ((sg1 c2 (sgF k2) (opF k2)).2=(li1 c2 k2).2∧((li1 c2 k2).2=true→∀ t,scE t (sg1 c2 (sgF k2) (opF k2)).1=tmE (li1 c2 k2).1 t)):=by
        intro q
        have hl:len k=2:=by
         unfold argB at w2
         rw [if_neg (by omega),if_neg (by omega),if_neg (by omega),if_neg (by omega),decide_eq_true_eq] at w2
         omega
        cases k with
        | nil=>simp [len] at hl
        | node b1 o1 c1 k1 r1 =>
          cases r1 with
          | nil=>simp [len] at hl
          | node b2 o2 c2 k2 r2 =>
            have hr2:r2=.nil:=len_zero (by simp [len] at hl;exact hl)
            subst hr2
            obtain ⟨t1,t2,t3⟩:=ty_row noL sc b1 o1 c1 k1 _ p1
            obtain ⟨u1,u2,u3⟩:=ty_row noL sc b2 o2 c2 k2 _ t2
            have hwr:((wfB c1 (len k1) && wfT k1) && ((wfB c2 (len k2) && wfT k2) && true))=true:=hwk.2
            rw [Bool.and_true,Bool.and_eq_true] at hwr
            have hT:(tyF noL sc (.node b1 o1 c1 k1 (.node b2 o2 c2 k2 .nil))).2=[(tyT noL sc c1 k1).1,(tyT noL sc c2 k2).1]:=by rw [t3,u3];rfl
            have hp:prodT a.op (tyT noL sc c1 k1).1 (tyT noL sc c2 k2).1≠0:=by
             rw [hT] at p2
             unfold resT at p2
             rw [if_neg (by omega),if_neg (by omega),if_neg (by omega),if_neg (by omega),if_neg (by omega),if_pos q] at p2
             exact p2
            have h12:((tyT noL sc c1 k1).1=1∨(tyT noL sc c1 k1).1=2)∧((tyT noL sc c2 k2).1=1∨(tyT noL sc c2 k2).1=2):=by
             generalize (tyT noL sc c1 k1).1=x at *
             generalize (tyT noL sc c2 k2).1=y at *
             unfold prodT at hp
             (repeat' split at hp)<;>first|omega|exact absurd rfl hp
            exact ⟨b1,o1,c1,k1,b2,o2,c2,k2,rfl,sign_lit sc c1 k1 t1 h12.1 hwr.1,sign_lit sc c2 k2 u1 h12.2 hwr.2⟩
       unfold pOp rOp
       by_cases o10:a.op=10
       · obtain ⟨b1,o1,c1,k1,b2,o2,c2,k2,rfl,⟨f1,f2⟩,⟨f3,f4⟩⟩:=fac (.inl o10)
         have s0:(sgF (.node b1 o1 c1 k1 (.node b2 o2 c2 k2 .nil))).getD 0 (0,false)=sg1 c1 (sgF k1) (opF k1):=rfl
         have s1:(sgF (.node b1 o1 c1 k1 (.node b2 o2 c2 k2 .nil))).getD 1 (0,false)=sg1 c2 (sgF k2) (opF k2):=rfl
         have l0:(liF (.node b1 o1 c1 k1 (.node b2 o2 c2 k2 .nil))).getD 0 (0,false)=li1 c1 k1:=rfl
         have l1:(liF (.node b1 o1 c1 k1 (.node b2 o2 c2 k2 .nil))).getD 1 (0,false)=li1 c2 k2:=rfl
         simp only [o10,s0,s1,l0,l1,f1,f3,ea,show ¬ ((10:Int)=7∨(10:Int)=19) by omega,show ¬ ((10:Int)=8∨(10:Int)=20∨(10:Int)=21∨(10:Int)=12∨(10:Int)=13) by omega,show ¬ (10:Int)=9 by omega,show ¬ ((10:Int)=22∨(10:Int)=16∨(10:Int)=17) by omega,if_false,if_true]
         by_cases q1:(li1 c1 k1).2=true
         · rw [if_pos q1,if_pos q1];exact f2 q1 _
         · rw [if_neg q1,if_neg q1]
           by_cases q2:(li1 c2 k2).2=true
           · rw [if_pos q2,if_pos q2];exact f4 q2 _
           · rw [if_neg q2,if_neg q2]
       · by_cases o11:a.op=11
         · obtain ⟨b1,o1,c1,k1,b2,o2,c2,k2,rfl,⟨f1,f2⟩,⟨f3,f4⟩⟩:=fac (.inr o11)
           have s1:(sgF (.node b1 o1 c1 k1 (.node b2 o2 c2 k2 .nil))).getD 1 (0,false)=sg1 c2 (sgF k2) (opF k2):=rfl
           have l1:(liF (.node b1 o1 c1 k1 (.node b2 o2 c2 k2 .nil))).getD 1 (0,false)=li1 c2 k2:=rfl
           simp only [o11,s1,l1,f3,ea,show ¬ ((11:Int)=7∨(11:Int)=19) by omega,show ¬ ((11:Int)=8∨(11:Int)=20∨(11:Int)=21∨(11:Int)=12∨(11:Int)=13) by omega,show ¬ (11:Int)=9 by omega,show ¬ ((11:Int)=22∨(11:Int)=16∨(11:Int)=17) by omega,show ¬ (11:Int)=10 by omega,if_false,if_true]
           by_cases q2:(li1 c2 k2).2=true
           · rw [if_pos q2,if_pos q2];exact f4 q2 _
           · rw [if_neg q2,if_neg q2]
         · simp only [o10,o11,ea,if_false]
end
end Go.Proofs.YtfoedbfkddoibaaGreat
