import Derived.Test.YtfoedbfkddoibaaGreatTsF
import Derived.Test.YtfoedbfkddoibaaGreatTs1
import Derived.Test.YtfoedbfkddoibaaGreatRvz
namespace Go.Proofs.YtfoedbfkddoibaaGreat
set_option linter.unusedVariables false
set_option linter.unusedSimpArgs false
open Go.ChangeShapes Go.WideShapes Go.ChangeAt Go.RowKit
open Go.Deep (BT)
set_option maxHeartbeats 1000000 in
theorem rred_any (Av:Nat→Prop) (b o cap:Nat) (op:Int) (k:Fo) (w:World) (hx:FoAt w k b o) (ha:FoAv Av k b) (hfree:∀ g,w.heap.size≤g→Av g) (hw:wfT k=true) (h7:7≤op∧op≤22) (har:argB op (len k)=true) :
 Calls Tryz.prog 89 #[.agg #[.int .i64 op,.int .i64 0,.string ⟨#[]⟩,.slice (some ⟨b,o,none⟩) (len k) cap]] w (ReP w Av (redE op ((kids k).map ec))):=by
 by_cases q19:op=19
 · subst q19
   obtain ⟨b1,o1,a1,k1,rfl⟩:=fo_one (k:=k) (by simp [argB] at har;omega)
   exact rred19_any Av b o cap b1 o1 a1 k1 w hx ha hfree (wf_not hw)
 by_cases q20:op=20
 · subst q20
   obtain ⟨b1,o1,a1,k1,b2,o2,a2,k2,rfl⟩:=fo_two (k:=k) (by simp [argB] at har;omega)
   exact rred20_any Av b o cap b1 o1 a1 k1 b2 o2 a2 k2 w hx ha hfree
 by_cases q21:op=21
 · subst q21
   obtain ⟨b1,o1,a1,k1,b2,o2,a2,k2,rfl⟩:=fo_two (k:=k) (by simp [argB] at har;omega)
   exact rred21_any Av b o cap b1 o1 a1 k1 b2 o2 a2 k2 w hx ha hfree
 by_cases q22:op=22
 · subst q22
   obtain ⟨b1,o1,a1,k1,b2,o2,a2,k2,rfl⟩:=fo_two (k:=k) (by simp [argB] at har;omega)
   exact rred22_any Av b o cap b1 o1 a1 k1 b2 o2 a2 k2 w hx ha hfree (wf_not hw)
 by_cases q14:op=14
 · subst q14
   obtain ⟨b1,o1,a1,k1,b2,o2,a2,k2,b3,o3,a3,k3,rfl⟩:=fo_three (k:=k) (by simp [argB] at har;omega)
   exact rred14_any Av b o cap b1 o1 a1 k1 b2 o2 a2 k2 b3 o3 a3 k3 w hx ha hfree
 by_cases q8:op=8
 · subst q8
   obtain ⟨b1,o1,a1,k1,b2,o2,a2,k2,rfl⟩:=fo_two (k:=k) (by simp [argB] at har;omega)
   exact rred8_any Av b o cap b1 o1 a1 k1 b2 o2 a2 k2 w hx ha hfree
 by_cases q9:op=9
 · subst q9
   obtain ⟨b1,o1,a1,k1,b2,o2,a2,k2,rfl⟩:=fo_two (k:=k) (by simp [argB] at har;omega)
   exact rred9_any Av b o cap b1 o1 a1 k1 b2 o2 a2 k2 w hx ha hfree
 by_cases q10:op=10
 · subst q10
   obtain ⟨b1,o1,a1,k1,b2,o2,a2,k2,rfl⟩:=fo_two (k:=k) (by simp [argB] at har;omega)
   exact rred10_any Av b o cap b1 o1 a1 k1 b2 o2 a2 k2 w hx ha hfree
 by_cases q11:op=11
 · subst q11
   obtain ⟨b1,o1,a1,k1,b2,o2,a2,k2,rfl⟩:=fo_two (k:=k) (by simp [argB] at har;omega)
   exact rred11_any Av b o cap b1 o1 a1 k1 b2 o2 a2 k2 w hx ha hfree
 have e:redE op ((kids k).map ec)=nE op ((kids k).map ec):=by
  unfold redE
  rw [if_neg q19,if_neg q20,if_neg q21,if_neg q22,if_neg q14,if_neg q8,if_neg q9,if_neg q10,if_neg q11]
 rw [e]
 exact rredoth_any Av b o cap op k w hx ha ⟨q19,q20,q21,q22,q14,q8,q9,q10,q11⟩
def FdA (w:World) (Av:Nat→Prop) (fb:Nat) (vx vy:Value) (g:Nat):Prop:=Av g∧g≠w.heap.size+1∧g≠fb∧vx.ownBlock≠some g∧vy.ownBlock≠some g
structure FdSt (w wr:World) (Av:Nat→Prop) (fb:Nat) (op:Int) (xs:Value) (vx vy:Value) (Dn:List Ch) (V:List Int):Prop where
 yb:BX4 wr fb (.int .i64 op) (.int .i64 0) (.string ⟨#[]⟩) vx
 rb:BX4 wr (w.heap.size+1) (.int .i64 0) (.int .i64 0) (.string ⟨#[]⟩) (.slice none 0 0)
 x3:wr.cell? ⟨w.heap.size,3,none⟩=some xs
 ow:wr.ownsRow (fb+1) 25 4 vx Dn.length (rowC Dn)
 ov:wr.ownsRow (fb+1) 3 1 vy V.length (intV V)
 ne:∀ g,vx.ownBlock=some g→vy.ownBlock≠some g
 ch:∀ c ∈ Dn,ExAt wr c.b c.o c.a c.k∧FoAv (FdA w Av fb vx vy) c.k c.b
 bl:Below w.heap.size w wr
 lt:w.heap.size+2≤fb
theorem FdSt.next {w wr w2:World} {Av:Nat→Prop} {fb:Nat} {op:Int} {xs vx vy:Value} {Dn:List Ch} {V:List Int} (h:FdSt w wr Av fb op xs vx vy Dn V) (hb:Below wr.heap.size wr w2):FdSt w w2 Av fb op xs vx vy Dn V :=
 ⟨h.yb.next hb,h.rb.next hb,by rw [hb.cell (block_lt_of_cell h.x3)];exact h.x3,own_below h.ow hb,own_below h.ov hb,h.ne,fun c hc=>⟨(h.ch c hc).1.next hb,(h.ch c hc).2⟩,h.bl.trans (hb.mono h.bl.size),h.lt⟩
theorem BX4.set3 {w:World} {g:Nat} {v0 v1 v2 v3:Value} (h:BX4 w g v0 v1 v2 v3) (u:Value):BX4 (w.setCell ⟨g,3,none⟩ u) g v0 v1 v2 u:=by
 obtain ⟨r0,r1,r2,r3,f0,f1,f2,f3,hl⟩:=h
 refine ⟨?_,?_,?_,?_,?_,?_,?_,?_,by simp [World.setCell];exact hl⟩<;>simp [go_sem,r0,r1,r2,r3,f0,f1,f2,f3]
theorem grw_set (w:World) (g i:Nat) (u:Value):w.grownBy (w.setCell ⟨g,i,none⟩ u) (some g):=⟨rfl,rfl,rfl,by simp [World.setCell],fun k hk hr=>Below.heap_setCell _ _ _ _ (fun e=>hr (by rw [e]))⟩
theorem ExAt.grownO {w w':World} {b o:Nat} {a:Nd} {k:Fo} {row:Option Nat} (h:ExAt w b o a k) (ha:FoAv (fun g=>row≠some g) k b) (hg:w.grownBy w' row):ExAt w' b o a k:=by
 cases row with
 | some s=>exact ⟨h.1,h.2.grownAv (ha.mono fun g hg e=>hg (by rw [e])) hg⟩
 | none =>
   have hb:Below w.heap.size w w':=⟨hg.os,hg.tape,hg.output,hg.size,fun m hm=>hg.block m hm (by simp)⟩
   exact h.next hb
theorem FdSt.app {w wr w2:World} {Av:Nat→Prop} {fb:Nat} {op:Int} {xs vx vy v':Value} {Dn:List Ch} {V:List Int} {c:Ch} (h:FdSt w wr Av fb op xs vx vy Dn V)
 (hx:ExAt wr c.b c.o c.a c.k) (ha:FoAv (FdA w Av fb vx vy) c.k c.b) (ho:w2.ownsRow (fb+1) 25 4 v' (Dn.length+1) (rowC Dn++chC c)) (hg:wr.grownBy w2 vx.ownBlock) (hob:v'.ownBlock=vx.ownBlock∨v'.ownBlock=some wr.heap.size) :
 FdSt w (w2.setCell ⟨fb,3,none⟩ v') Av fb op xs v' vy (Dn++[c]) V:=by
 have hvx:∀ g,vx.ownBlock=some g→fb+1≤g∧g < wr.heap.size:=fun g q=>h.ow.lt g q
 have hvy:∀ g,vy.ownBlock=some g→fb+1≤g∧g < wr.heap.size:=fun g q=>h.ov.lt g q
 have hv':∀ g,v'.ownBlock=some g→fb+1≤g∧g < w2.heap.size:=fun g q=>ho.lt g q
 have hlt:=h.lt
 have g2:=grw_set w2 fb 3 v'
 have y2:BX4 w2 fb (.int .i64 op) (.int .i64 0) (.string ⟨#[]⟩) vx:=h.yb.grown hg (fun e=>by have:=hvx fb e.symm;omega)
 have ex:∀ d:Ch,ExAt wr d.b d.o d.a d.k→FoAv (FdA w Av fb vx vy) d.k d.b→ExAt (w2.setCell ⟨fb,3,none⟩ v') d.b d.o d.a d.k∧FoAv (FdA w Av fb v' vy) d.k d.b:=by
  intro d h1 h2
  have h3:ExAt w2 d.b d.o d.a d.k:=h1.grownO (h2.mono fun g q=>q.2.2.2.1) hg
  refine ⟨h3.grownO (h2.mono fun g q e=>q.2.2.1 (Option.some.inj e).symm) g2,?_⟩
  refine (FoAv.lt h1.2 h2).mono fun g q=>⟨q.1.1,q.1.2.1,q.1.2.2.1,fun e=>?_,q.1.2.2.2.2⟩
  rcases hob with hob|hob
  · exact q.1.2.2.2.1 (hob.symm.trans e)
  · have:=Option.some.inj (hob.symm.trans e);omega
 refine ⟨y2.set3 v',(h.rb.grown hg (fun e=>by have:=hvx _ e.symm;omega)).grown g2 (by simp;omega),?_,?_,?_,?_,?_,?_,h.lt⟩
 · have:w2.cell? ⟨w.heap.size,3,none⟩=some xs:=by rw [World.cell?_of_block (hg.block _ (block_lt_of_cell h.x3) (fun e=>by have:=hvx _ e.symm;simp at this;omega))];exact h.x3
   rw [World.cell?_of_block (g2.block _ (block_lt_of_cell this) (by simp;omega))];exact this
 · have e:rowC (Dn++[c])=rowC Dn++chC c:=by simp [rowC]
   rw [List.length_append,List.length_singleton,e]
   exact ho.kept g2 (by
    cases q:v'.ownBlock with
    | none=>exact .inl rfl
    | some g=>exact .inr (by simp;have:=hv' g q;omega))
 · have h1:=h.ov.kept hg (by
    cases q:vy.ownBlock with
    | none=>exact .inl rfl
    | some g=>exact .inr (fun e=>h.ne g e.symm q))
   exact h1.kept g2 (by
    cases q:vy.ownBlock with
    | none=>exact .inl rfl
    | some g=>exact .inr (by simp;have:=hvy g q;omega))
 · intro g q
   rcases hob with hob|hob
   · exact h.ne g (hob.symm.trans q)
   · intro e;have h1:=hvy g e;have:=Option.some.inj (hob.symm.trans q);omega
 · intro d hd
   rcases List.mem_append.1 hd with q|q
   · exact ex d (h.ch d q).1 (h.ch d q).2
   · rw [List.mem_singleton.1 q];exact ex c hx ha
 · have h1:Below w.heap.size w w2:=h.bl.grown hg h.bl.size (fun m hm=>by have:=hvx m hm;omega)
   exact h1.grown g2 h1.size (fun m hm=>by cases hm;omega)
theorem FdSt.lit {w wr w2:World} {Av:Nat→Prop} {fb:Nat} {op:Int} {xs vx vy v':Value} {Dn:List Ch} {V:List Int} {x:Int} (h:FdSt w wr Av fb op xs vx vy Dn V)
 (ho:w2.ownsRow (fb+1) 3 1 v' (V.length+1) (intV V++[.int .i64 x])) (hg:wr.grownBy w2 vy.ownBlock) (hob:v'.ownBlock=vy.ownBlock∨v'.ownBlock=some wr.heap.size) :
 FdSt w w2 Av fb op xs vx v' Dn (V++[x]):=by
 have hvx:∀ g,vx.ownBlock=some g→fb+1≤g∧g < wr.heap.size:=fun g q=>h.ow.lt g q
 have hvy:∀ g,vy.ownBlock=some g→fb+1≤g∧g < wr.heap.size:=fun g q=>h.ov.lt g q
 have hlt:=h.lt
 refine ⟨h.yb.grown hg (fun e=>by have:=hvy fb e.symm;omega),h.rb.grown hg (fun e=>by have:=hvy _ e.symm;omega),?_,?_,?_,?_,?_,?_,h.lt⟩
 · rw [World.cell?_of_block (hg.block _ (block_lt_of_cell h.x3) (fun e=>by have:=hvy _ e.symm;simp at this;omega))];exact h.x3
 · exact h.ow.kept hg (by
    cases q:vx.ownBlock with
    | none=>exact .inl rfl
    | some g=>exact .inr (fun e=>h.ne g q e.symm))
 · have e:intV (V++[x])=intV V++[.int .i64 x]:=by simp [intV]
   rw [List.length_append,List.length_singleton,e];exact ho
 · intro g q e
   rcases hob with hob|hob
   · exact h.ne g q (hob.symm.trans e)
   · have h1:=hvx g q;have:=Option.some.inj (hob.symm.trans e);omega
 · intro d hd
   obtain ⟨h1,h2⟩:=h.ch d hd
   refine ⟨h1.grownO (h2.mono fun g q=>q.2.2.2.2) hg,(FoAv.lt h1.2 h2).mono fun g q=>⟨q.1.1,q.1.2.1,q.1.2.2.1,q.1.2.2.2.1,fun e=>?_⟩⟩
   rcases hob with hob|hob
   · exact q.1.2.2.2.2 (hob.symm.trans e)
   · have:=Option.some.inj (hob.symm.trans e);omega
 · exact h.bl.grown hg h.bl.size (fun m hm=>by have:=hvy m hm;omega)
theorem rowF_av {w:World} {Av:Nat→Prop} {g O:Nat} (l:List Ch) (h:∀ c ∈ l,ExAt w c.b c.o c.a c.k∧FoAv Av c.k c.b) (hc:∀ j u,(rowC l)[j]?=some u→w.cell? ⟨g,O+j,none⟩=some u) (hg:Av g):FoAt w (rowF l) g O∧FoAv Av (rowF l) g:=by
 induction l generalizing O with
 | nil=>exact ⟨trivial,trivial⟩
 | cons c l ih =>
   obtain ⟨h1,h2⟩:=h c (by simp)
   have e:rowC (c :: l)=chC c++rowC l:=rfl
   have q:∀ i u,i < 4→(chC c)[i]?=some u→w.cell? ⟨g,O+i,none⟩=some u:=fun i u hi hu=>hc i u (by rw [e,List.getElem?_append_left (by simpa [chC] using hi)];exact hu)
   obtain ⟨i1,i2⟩:=ih (O:=O+4) (fun d hd=>h d (by simp [hd])) (fun j u hu=>by
    have:=hc (4+j) u (by rw [e,List.getElem?_append_right (by simp [chC])];simpa [chC] using hu)
    rw [show O+4+j=O+(4+j) by omega];exact this)
   exact ⟨⟨⟨q 0 _ (by omega) rfl,q 1 _ (by omega) rfl,q 2 _ (by omega) rfl,q 3 _ (by omega) rfl⟩,h1.1,h1.2,i1⟩,hg,h2,i2⟩
def litL (L:List Ch):List Int:=(L.filter isLit).map litV
theorem litL_snoc_t (L:List Ch) (c:Ch) (h:isLit c=true):litL (L++[c])=litL L++[litV c]:=by
 unfold litL;rw [List.filter_append];simp [h]
theorem litL_snoc_f (L:List Ch) (c:Ch) (h:isLit c=false):litL (L++[c])=litL L:=by
 unfold litL;rw [List.filter_append];simp [h]
theorem litL_len (L:List Ch):(litL L).length≤L.length:=by
 unfold litL;rw [List.length_map];exact List.length_filter_le _ _
theorem litL_all (L:List Ch):(litL L).length=L.length↔L.all isLit=true:=by
 unfold litL
 rw [List.length_map,List.length_filter_eq_length_iff,List.all_eq_true]
theorem litL_eq (L:List Ch) (h:L.all isLit=true):litL L=L.map litV:=by
 unfold litL
 rw [List.filter_eq_self.2 (List.all_eq_true.1 h)]
theorem sm_each (sc:Int):∀ {T:List Int} {L:List Ch},smL sc T L→∀ c ∈ L,∃ t,SmE sc t c
 | [],[],_,c,hc=>by cases hc
 | t :: T,d :: L,h,c,hc=>by
   rcases List.mem_cons.1 hc with rfl|hc
   · exact ⟨t,h.1⟩
   · exact sm_each sc h.2 c hc
 | [],_ :: _,h,_,_=>h.elim
 | _ :: _,[],h,_,_=>h.elim
theorem sm_lit_at {w:World} {sc t:Int} {c:Ch} (h:SmE sc t (ec c)) (hx:ExAt w c.b c.o c.a c.k) (hl:LnC c) :
 MinAt w c.a.op c.a.ptr (len c.k) (kop c) (knum c)∧(litB c.a.op (kop c)=true→c.a.op=7 → -9223372036854775807≤knum c∧knum c≤9223372036854775807):=by
 have hw:wfB c.a (len c.k)=true∧wfT c.k=true:=by
  have h1:(wfB c.a (len (ef c.k)) && wfT (ef c.k))=true:=h.wf
  rw [ef_len,wfT_ef,Bool.and_eq_true] at h1
  exact h1
 refine ⟨MinAt.of hx (fun h7=>?_) (by have:=hl.1;omega),fun _ h7=>?_⟩
 · have:=(wf_parts hw.1).2.1
   rw [h7] at this
   simp [argB] at this
   omega
 · have hk:=hw.2
   unfold knum
   revert hk
   cases c.k with
   | nil=>intro _;show -9223372036854775807≤(0:Int)∧(0:Int)≤9223372036854775807;decide
   | node b1 o1 a1 k1 r1 =>
     intro hk
     have h9 : -9223372036854775807≤a1.num∧a1.num≤9223372036854775807:=by
      have h':((wfB a1 (len k1) && wfT k1) && wfT r1)=true:=hk
      rw [Bool.and_eq_true,Bool.and_eq_true] at h'
      have h3:=(wf_parts h'.1.1).2.2.1
      unfold numB at h3
      (repeat' split at h3)<;>(simp only [decide_eq_true_eq] at h3;omega)
     exact h9
end Go.Proofs.YtfoedbfkddoibaaGreat
