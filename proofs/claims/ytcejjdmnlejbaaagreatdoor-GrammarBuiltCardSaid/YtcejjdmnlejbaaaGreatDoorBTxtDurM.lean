import Derived.Test.YtcejjdmnlejbaaaGreatDoorBTxtMath
import Derived.Lib.Bytealg
import Derived.Lib.Strings
namespace Go.Proofs.YtcejjdmnlejbaaaGreatDoor.Txt
set_option linter.unusedVariables false
set_option linter.unusedSimpArgs false
open Go
theorem ix_ge (l:List UInt8) (c:UInt8) : -1≤Lib.indexByte l c:=by
 induction l with
 | nil=>simp [Lib.indexByte]
 | cons d l ih =>
   rw [Lib.indexByte]
   split
   · omega
   · split<;>omega
theorem ix_none (l:List UInt8) (c:UInt8):Lib.indexByte l c = -1↔∀ x ∈ l,x≠c:=by
 induction l with
 | nil=>simp [Lib.indexByte]
 | cons b l ih =>
   rw [Lib.indexByte]
   by_cases h:b=c
   · subst h;simp
   · have h':(b==c)=false:=by simp [h]
     rw [h']
     simp only [Bool.false_eq_true,if_false]
     have hge:=ix_ge l c
     split
     · rename_i q;simp at q;simp [h];exact ih.1 q
     · rename_i q
       simp at q
       constructor
       · intro e;omega
       · intro e;exact absurd (ih.2 fun x hx=>e x (by simp [hx])) q
theorem ix_some (l:List UInt8) (c:UInt8) (k:Nat):Lib.indexByte l c=k↔(∃ r,l=l.take k++c :: r)∧k < l.length∧∀ x ∈ l.take k,x≠c:=by
 induction l generalizing k with
 | nil=>simp [Lib.indexByte]
 | cons b l ih =>
   rw [Lib.indexByte]
   by_cases h:b=c
   · subst h
     simp only [beq_self_eq_true,if_true]
     constructor
     · intro e
       have:k=0:=by omega
       subst this;simp
     · rintro ⟨-,-,h3⟩
       cases k with
       | zero=>rfl
       | succ k=>exact absurd rfl (h3 b (by simp))
   · have h':(b==c)=false:=by simp [h]
     rw [h']
     simp only [Bool.false_eq_true,if_false]
     cases k with
     | zero =>
       constructor
       · intro e
         split at e
         · omega
         · rename_i q;simp at q
           have hge:=ix_ge l c
           have:Lib.indexByte l c ≠ -1:=q
           omega
       · rintro ⟨⟨r,hr⟩,-,-⟩
         simp at hr;exact absurd hr.1 h
     | succ k =>
       have:=ih k
       constructor
       · intro e
         have e':Lib.indexByte l c=k:=by split at e<;>omega
         obtain ⟨⟨r,hr⟩,h2,h3⟩:=this.1 e'
         refine ⟨⟨r,?_⟩,by simp;omega,?_⟩
         · rw [List.take_succ_cons,List.cons_append,← hr]
         · intro x hx;rw [List.take_succ_cons] at hx;rcases List.mem_cons.1 hx with rfl|hx
           · exact h
           · exact h3 x hx
       · rintro ⟨⟨r,hr⟩,h2,h3⟩
         have e':Lib.indexByte l c=k:=this.2 ⟨⟨r,by rw [List.take_succ_cons,List.cons_append] at hr;exact (List.cons.inj hr).2⟩,by simp at h2;omega,fun x hx=>h3 x (by rw [List.take_succ_cons];exact List.mem_cons_of_mem _ hx)⟩
         rw [e'];simp
def duR (l:List UInt8):List UInt8:=Lib.trimPrefix l [45]
def duNeg (l:List UInt8):Bool:=Lib.hasPrefix l [45]
def duK (l:List UInt8):Nat:=(duR l).length - 3
def duH (l:List UInt8):List UInt8:=(duR l).take (duK l)
def duM (l:List UInt8):List UInt8:=(duR l).drop (duK l+1)
def plainL (l:List UInt8):Bool:=decide (l.length=1) || (decide (1 < l.length) && !(l.getD 0 0==48))
def duB (l:List UInt8):Bool:=decide (4≤(duR l).length∧(duR l).length≤14∧(duR l).getD (duK l) 0=58∧allD (duH l)=true∧allD (duM l)=true∧plainL (duH l)=true∧¬ (duNeg l=true∧num (duH l)=0∧num (duM l)=0))
def duN (l:List UInt8):Int:=60 * num (duH l)+num (duM l)
def duE (l:List UInt8):Int:=if duB l=true then (if num (duM l)≤59∧duN l≤1099511627776 then 0 else 5) else 1
def duV (l:List UInt8):Int:=if duE l=0 then (if duNeg l=true then - duN l else duN l) else 0
theorem plain_iff (hh:List UInt8) (h:1≤hh.length):plainL hh=true↔¬ ((hh.getD 0 0).toNat=48∧1 < hh.length):=by
 cases hh with
 | nil=>simp at h
 | cons c t =>
   have hc:(c==48)=decide (c.toNat=48):=by
    rw [Bool.eq_iff_iff];simp only [beq_iff_eq,decide_eq_true_eq]
    exact ⟨fun q=>by rw [q];rfl,fun q=>UInt8.toNat_inj.1 q⟩
   unfold plainL
   rw [List.getD_cons_zero,hc,List.length_cons]
   by_cases q:c.toNat=48
   · simp only [q,decide_true,Bool.not_true,Bool.and_false,Bool.or_false,decide_eq_true_eq,true_and];omega
   · simp only [q,decide_false,Bool.not_false,Bool.and_true,Bool.or_eq_true,decide_eq_true_eq,false_and,not_false_eq_true,iff_true];omega
theorem fits2 (l:List UInt8):fits l [48,48]=true↔l.length=2∧allD l=true:=by
 constructor
 · intro h
   have hl:=fits_len _ _ h
   match l,hl with
   | [a,b],_=>simp [fits,fitB,allD] at h ⊢;exact h
 · rintro ⟨hl,h⟩
   match l,hl with
   | [a,b],_=>simp [fits,fitB,allD] at h ⊢;exact h
theorem fits_zeros (l:List UInt8):fits l (List.replicate l.length 48)=allD l:=by
 induction l with
 | nil=>rfl
 | cons c l ih =>
   rw [List.length_cons,List.replicate_succ,fits,ih]
   simp [allD,fitB]
theorem isD_ne (c:UInt8) (h:isD c=true):c≠58:=by
 rintro rfl;simp [isD] at h
theorem cut_iff (r:List UInt8) (k:Nat) (hk:Lib.indexByte r 58=k):fits (r.drop (k+1)) [48,48]=true∧1≤k∧k≤11∧allD (r.take k)=true ↔
 (4≤r.length∧r.length≤14∧r.getD (r.length - 3) 0=58∧allD (r.take (r.length - 3))=true∧allD (r.drop (r.length - 3+1))=true):=by
 obtain ⟨⟨t,ht⟩,h2,h3⟩:=(ix_some r 58 k).1 hk
 have hd:r.drop (k+1)=t:=by
  have hl:(r.take k).length=k:=by simp;omega
  conv=>lhs;rw [ht]
  rw [List.drop_append,hl]
  simp
  omega
 have hlen:r.length=k+1+t.length:=by
  have:=congrArg List.length hd
  simp at this;omega
 constructor
 · rintro ⟨f1,f2,f3,f4⟩
   rw [hd] at f1
   obtain ⟨g1,g2⟩:=(fits2 t).1 f1
   have e:r.length - 3=k:=by omega
   rw [e,hd]
   refine ⟨by omega,by omega,?_,f4,g2⟩
   rw [List.getD_eq_getElem?_getD,ht,List.getElem?_append_right (by simp;omega)]
   have hl:(r.take k).length=k:=by simp;omega
   rw [hl];simp
 · rintro ⟨f1,f2,f3,f4,f5⟩
   have e : r.length - 3=k:=by
    rcases Nat.lt_trichotomy (r.length - 3) k with q|q|q
    · exfalso
      have:(58:UInt8) ∈ r.take k:=by
       rw [List.getD_eq_getElem?_getD,List.getElem?_eq_getElem (by omega)] at f3
       simp at f3
       rw [List.mem_iff_getElem]
       exact ⟨r.length - 3,by simp;omega,by rw [List.getElem_take];exact f3⟩
      exact h3 58 this rfl
    · exact q
    · exfalso
      have:(58:UInt8) ∈ r.take (r.length - 3):=by
       rw [List.mem_iff_getElem]
       refine ⟨k,by simp;omega,?_⟩
       rw [List.getElem_take]
       have hl:(r.take k).length=k:=by simp;omega
       have:r[k]?=(r.take k++58 :: t)[k]?:=congrArg (fun l=>l[k]?) ht
       rw [List.getElem?_append_right (by omega),hl,List.getElem?_eq_getElem (by omega)] at this
       simpa using this
      exact isD_ne 58 (List.all_eq_true.1 f4 58 this) rfl
   rw [e] at f4 f5
   rw [hd] at f5 ⊢
   exact ⟨(fits2 t).2 ⟨by omega,f5⟩,by omega,by omega,f4⟩
theorem dash_iff (l:List UInt8):duNeg l=true↔∃ t,l=45 :: t:=by
 unfold duNeg Lib.hasPrefix
 cases l with
 | nil=>simp
 | cons c l=>simp [List.isPrefixOf];exact eq_comm
theorem duR_neg (t:List UInt8):duR (45 :: t)=t:=by simp [duR,Lib.trimPrefix,Lib.hasPrefix,List.isPrefixOf]
theorem duR_pos (l:List UInt8) (h:duNeg l=false):duR l=l:=by unfold duR Lib.trimPrefix;rw [show Lib.hasPrefix l [45]=false from h];simp
theorem num_zero (l:List UInt8) (h:allD l=true):num l=0↔∀ x ∈ l,x=48:=by
 induction l with
 | nil=>simp [num]
 | cons c l ih =>
   simp only [allD,List.all_cons,Bool.and_eq_true] at h
   have hc:=(isD_iff c).1 h.1
   have hb:=num_bd l h.2
   have hp:0 < 10 ^ l.length:=Nat.pow_pos (by omega)
   rw [num_cons]
   have ih':=ih h.2
   constructor
   · intro e
     have hm:0≤dv c * ((10 ^ l.length:Nat):Int):=Int.mul_nonneg (by unfold dv;omega) (by omega)
     have h0:num l=0:=by omega
     have h1:dv c * ((10 ^ l.length:Nat):Int)=0:=by omega
     rcases Int.mul_eq_zero.1 h1 with q|q
     · intro x hx
       rcases List.mem_cons.1 hx with rfl|hx
       · unfold dv at q;apply UInt8.toNat_inj.1;show x.toNat=48;omega
       · exact ih'.1 h0 x hx
     · omega
   · intro e
     have:=e c (by simp)
     subst this
     rw [ih'.2 fun x hx=>e x (by simp [hx])]
     simp [dv]
theorem zero_aux (t:List UInt8) (hk:4≤t.length) (hc:t.getD (t.length - 3) 0=58) (h1:allD (t.take (t.length - 3))=true) (h2:allD (t.drop (t.length - 3+1))=true) (h3:plainL (t.take (t.length - 3))=true)
 (n2:num (t.take (t.length - 3))=0) (n3:num (t.drop (t.length - 3+1))=0):t=[48,58,48,48]:=by
 have z1:=(num_zero _ h1).1 n2
 have z2:=(num_zero _ h2).1 n3
 have hl:(t.take (t.length - 3)).length=1:=by
  unfold plainL at h3
  simp only [Bool.or_eq_true,decide_eq_true_eq,Bool.and_eq_true] at h3
  rcases h3 with h3|⟨h3,h4⟩
  · exact h3
  · exfalso
    have:(t.take (t.length - 3)).getD 0 0=48:=by
     rw [List.getD_eq_getElem?_getD,List.getElem?_eq_getElem (by omega)]
     exact z1 _ (List.getElem_mem _)
    rw [this] at h4;simp at h4
 have ht:t.length=4:=by simp at hl;omega
 match t,ht with
 | [a,b,c,d],_ =>
   simp at z1 z2 hc
   simp [z1,z2,hc]
theorem zero_iff (l:List UInt8) (hk:4≤(duR l).length) (hc:(duR l).getD (duK l) 0=58) (h1:allD (duH l)=true) (h2:allD (duM l)=true) (h3:plainL (duH l)=true) :
 (duNeg l=true∧num (duH l)=0∧num (duM l)=0)↔l=[45,48,58,48,48]:=by
 constructor
 · rintro ⟨n1,n2,n3⟩
   have:=zero_aux (duR l) hk hc h1 h2 h3 n2 n3
   obtain ⟨t,rfl⟩:=(dash_iff l).1 n1
   rw [duR_neg] at this
   rw [this]
 · rintro rfl
   decide
theorem duB_iff (l:List UInt8) (k:Nat) (hk:Lib.indexByte (duR l) 58=k):duB l=true ↔
 (l≠[45,48,58,48,48]∧1≤k∧k≤11∧fits ((duR l).drop (k+1)) [48,48]=true∧allD ((duR l).take k)=true∧plainL ((duR l).take k)=true):=by
 have hc:=cut_iff (duR l) k hk
 have hke:(4≤(duR l).length∧(duR l).length≤14∧(duR l).getD ((duR l).length - 3) 0=58∧allD ((duR l).take ((duR l).length - 3))=true∧allD ((duR l).drop ((duR l).length - 3+1))=true)→k=duK l:=by
  intro q
  obtain ⟨f1,f2,f3,f4⟩:=hc.2 q
  have:=((fits2 _).1 f1).1
  unfold duK
  simp at this;omega
 unfold duB
 rw [decide_eq_true_eq]
 constructor
 · rintro ⟨a1,a2,a3,a4,a5,a6,a7⟩
   have e:=hke ⟨a1,a2,a3,a4,a5⟩
   obtain ⟨f1,f2,f3,f4⟩:=hc.2 ⟨a1,a2,a3,a4,a5⟩
   refine ⟨fun q=>a7 ((zero_iff l a1 a3 a4 a5 a6).2 q),f2,f3,f1,f4,?_⟩
   rw [e];exact a6
 · rintro ⟨b1,b2,b3,b4,b5,b6⟩
   have q:=hc.1 ⟨b4,b2,b3,b5⟩
   have e:=hke q
   obtain ⟨a1,a2,a3,a4,a5⟩:=q
   rw [e] at b6
   exact ⟨a1,a2,a3,a4,a5,b6,fun z=>b1 ((zero_iff l a1 a3 a4 a5 b6).1 z)⟩
theorem duB_none (l:List UInt8) (hk:Lib.indexByte (duR l) 58 = -1):duB l=false:=by
 rw [Bool.eq_false_iff]
 intro h
 unfold duB at h
 rw [decide_eq_true_eq] at h
 obtain ⟨a1,a2,a3,-⟩:=h
 have hn:=(ix_none _ _).1 hk
 unfold duK at a3
 rw [List.getD_eq_getElem?_getD,List.getElem?_eq_getElem (by omega)] at a3
 exact hn _ (List.getElem_mem _) a3
theorem ix_cases (l:List UInt8) (c:UInt8):Lib.indexByte l c = -1∨∃ k:Nat,Lib.indexByte l c=k∧k < l.length:=by
 have hge:=ix_ge l c
 by_cases h:Lib.indexByte l c = -1
 · exact .inl h
 · obtain ⟨k,hk⟩:=Int.eq_ofNat_of_zero_le (show 0≤Lib.indexByte l c by omega)
   exact .inr ⟨k,hk,((ix_some l c k).1 hk).2.1⟩
end Go.Proofs.YtcejjdmnlejbaaaGreatDoor.Txt
