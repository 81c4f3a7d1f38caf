import Derived.Test.YtcejjdmnlejbaaaGreatDoorBFpi
import Derived.Test.YtcejjdmnlejbaaaGreatDoorBTkT
import Derived.Test.YtcejjdmnlejbaaaGreatDoorBTvF
import Derived.Lib.QuietBelow
namespace Go.Proofs.YtcejjdmnlejbaaaGreatDoor
set_option linter.unusedVariables false
set_option linter.unusedSimpArgs false
open Go.Deep (BT)
namespace Fp
open Pz
theorem sz_kl {k:Fo} {l:List Ch} (h:kl k=l):sz k=sz (rowF l):=by rw [← h,rowF_kl]
theorem len_I (c:Ch):(I c).length≤(F c).length+2:=by
 unfold I tI
 split
 · omega
 · simp
theorem len_jnC:∀ (l:List Ch),(∀ c ∈ l,(F c).length+2≤5 * (1+sz c.k))→l≠[]→(jnC (l.map fun c=>(F c,I c))).length+1≤5 * sz (rowF l):=by
 intro l
 induction l with
 | nil=>intro _ h;exact absurd rfl h
 | cons c l ih =>
   intro hl _
   have h0:=hl c (List.mem_cons_self ..)
   cases l with
   | nil =>
     show (F c).length+1≤5 * (1+sz c.k+0)
     omega
   | cons d l =>
     have q:=ih (fun x hx=>hl x (List.mem_cons_of_mem _ hx)) (by simp)
     have e:(jnC ((c :: d :: l).map fun c=>(F c,I c))).length=(F c).length+(1+(jnC ((d :: l).map fun c=>(F c,I c))).length):=by
      show (F c++(false,sg wComma) :: bl (jnC ((d :: l).map fun c=>(F c,I c)))).length=_
      rw [List.length_append,List.length_cons,bl_len];omega
     have e2:sz (rowF (c :: d :: l))=1+sz c.k+sz (rowF (d :: l)):=rfl
     rw [e,e2];omega
theorem len_F (c:Ch) (hw:wfB c.a (len c.k)=true) (hg:∀ x ∈ kl c.k,(F x).length+2≤5 * (1+sz x.k)):(F c).length+2≤5 * (1+sz c.k):=by
 unfold wfB at hw
 rw [Bool.and_eq_true,Bool.and_eq_true,Bool.and_eq_true,decide_eq_true_eq] at hw
 obtain ⟨⟨⟨⟨o1,o2⟩,ha⟩,hn⟩,hm⟩:=hw
 have hkl:=kl_len c.k
 unfold argB at ha
 have hop:c.a.op=1∨c.a.op=2∨c.a.op=3∨c.a.op=4∨c.a.op=5∨c.a.op=6∨c.a.op=7∨c.a.op=19∨c.a.op=12∨c.a.op=13∨c.a.op=14∨c.a.op=15 ∨
  (c.a.op=8∨c.a.op=9∨c.a.op=10∨c.a.op=11∨c.a.op=16∨c.a.op=17∨c.a.op=18∨c.a.op=20∨c.a.op=21∨c.a.op=22):=by omega
 have one:∀ t:Tk.T3,([(false,t)]:List P).length+2≤5 * (1+sz c.k):=fun t=>by simp only [List.length_cons,List.length_nil];omega
 rcases hop with h|h|h|h|h|h|h|h|h|h|h|h|h
 · rw [tF_eq c 1 h];exact one _
 · rw [tF_eq c 2 h];exact one _
 · rw [tF_eq c 3 h];exact one _
 · rw [tF_eq c 4 h];exact one _
 · rw [tF_eq c 5 h];exact one _
 · rw [tF_eq c 6 h];exact one _
 · rw [h] at ha
   have k1:len c.k=1:=by have:=of_decide_eq_true ha;omega
   obtain ⟨x,hx⟩:=len_one (hkl.trans k1)
   have s:sz c.k=1+sz x.k+0:=sz_kl hx
   have g:=hg x (by rw [hx];simp)
   have i:=len_I x
   rw [tF_eq c 7 h,tK_one hx]
   show ((false,sg wMinus) :: I x).length+2≤_
   rw [List.length_cons];omega
 · rw [h] at ha
   have k1:len c.k=1:=by have:=of_decide_eq_true ha;omega
   obtain ⟨x,hx⟩:=len_one (hkl.trans k1)
   have s:sz c.k=1+sz x.k+0:=sz_kl hx
   have g:=hg x (by rw [hx];simp)
   have i:=len_I x
   rw [tF_eq c 19 h,tK_one hx]
   show ((false,wd wNot) :: bl (I x)).length+2≤_
   rw [List.length_cons,bl_len];omega
 · rw [h] at ha
   have k2:2≤len c.k:=by have:=of_decide_eq_true ha;omega
   have q:=len_jnC (kl c.k) hg (fun e=>by rw [e] at hkl;simp at hkl;omega)
   rw [rowF_kl] at q
   rw [tF_eq c 12 h,tK_kl]
   show ((false,wd wMin) :: (false,sg wOpen) :: (jnC _++[(false,sg wShut)])).length+2≤_
   rw [List.length_cons,List.length_cons,List.length_append]
   simp only [List.length_cons,List.length_nil]
   omega
 · rw [h] at ha
   have k2:2≤len c.k:=by have:=of_decide_eq_true ha;omega
   have q:=len_jnC (kl c.k) hg (fun e=>by rw [e] at hkl;simp at hkl;omega)
   rw [rowF_kl] at q
   rw [tF_eq c 13 h,tK_kl]
   show ((false,wd wMax) :: (false,sg wOpen) :: (jnC _++[(false,sg wShut)])).length+2≤_
   rw [List.length_cons,List.length_cons,List.length_append]
   simp only [List.length_cons,List.length_nil]
   omega
 · rw [h] at ha
   have k3:len c.k=3:=by have:=of_decide_eq_true ha;omega
   obtain ⟨x,y,z,hx⟩:=len_three (hkl.trans k3)
   have s:sz c.k=1+sz x.k+(1+sz y.k+(1+sz z.k+0)):=sz_kl hx
   have g1:=hg x (by rw [hx];simp)
   have g2:=hg y (by rw [hx];simp)
   have g3:=hg z (by rw [hx];simp)
   rw [tF_eq c 14 h,tK_three hx]
   show ((false,wd wIf) :: (bl (F x)++(true,wd wThen) :: (bl (F y)++(true,wd wElse) :: bl (F z)))).length+2≤_
   simp only [List.length_cons,List.length_append,bl_len]
   omega
 · rw [h] at ha
   have k3:len c.k=3:=by have:=of_decide_eq_true ha;omega
   obtain ⟨x,y,z,hx⟩:=len_three (hkl.trans k3)
   have s:sz c.k=1+sz x.k+(1+sz y.k+(1+sz z.k+0)):=sz_kl hx
   have g1:=hg x (by rw [hx];simp)
   have g2:=hg y (by rw [hx];simp)
   have g3:=hg z (by rw [hx];simp)
   have i1:=len_I x
   have i2:=len_I y
   have i3:=len_I z
   rw [tF_eq c 15 h,tK_three hx]
   show (I x++(true,wd wIn) :: (bl (I y)++(true,wd wTo) :: bl (I z))).length+2≤_
   simp only [List.length_cons,List.length_append,bl_len]
   omega
 · rw [if_neg (by omega),if_neg (by omega),if_neg (by omega),if_neg (by omega)] at ha
   have k2:len c.k=2:=by have:=of_decide_eq_true ha;omega
   obtain ⟨x,y,hx⟩:=len_two (hkl.trans k2)
   have s:sz c.k=1+sz x.k+(1+sz y.k+0):=sz_kl hx
   have g1:=hg x (by rw [hx];simp)
   have g2:=hg y (by rw [hx];simp)
   have i1:=len_I x
   have i2:=len_I y
   have e:F c=I x++(true,opW c.a.op) :: bl (I y):=by
    unfold F tF
    rw [tK_two hx]
    rw [if_neg (by omega),if_neg (by omega),if_neg (by omega),if_neg (by omega),if_neg (by omega),if_neg (by omega),if_neg (by omega),if_neg (by omega),if_neg (by omega),if_neg (by omega),if_neg (by omega),if_neg (by omega)]
    rfl
   rw [e]
   simp only [List.length_cons,List.length_append,bl_len]
   omega
theorem len_all (k:Fo):wfT k=true→∀ c ∈ kl k,(F c).length+2≤5 * (1+sz c.k):=by
 induction k with
 | nil=>intro _ c hc;cases hc
 | node b o a k r ihk ihr =>
   intro hw c hc
   unfold wfT at hw
   rw [Bool.and_eq_true,Bool.and_eq_true] at hw
   rcases List.mem_cons.1 hc with rfl|hc
   · exact len_F _ hw.1.1 (ihk hw.1.2)
   · exact ihr hw.2 c hc
theorem len_wf (c:Ch) (hw:(wfB c.a (len c.k) && wfT c.k)=true):(F c).length+2≤5 * (1+sz c.k):=by
 rw [Bool.and_eq_true] at hw
 exact len_F c hw.1 (len_all c.k hw.2)
theorem len_tb {t:Tk.T3} (h:VT t):(tb t).length≤200:=by
 unfold tb
 rw [len_atT]
 exact vt_size (t:=⟨t,0⟩) h
theorem len_bts:∀ (l:List P),VL l→(bts l).length≤201 * l.length:=by
 intro l
 induction l with
 | nil=>intro _;exact Nat.le_refl _
 | cons p l ih =>
   intro h
   have h0:=len_tb (h p (List.mem_cons_self ..))
   have h1:=ih (fun q hq=>h q (List.mem_cons_of_mem _ hq))
   have h2:(pb p).length≤201:=by
    unfold pb
    split
    · rw [List.length_cons];omega
    · omega
   rw [bts_cons,List.length_append,List.length_cons];omega
theorem len_tF (c:Ch) (hw:(wfB c.a (len c.k) && wfT c.k)=true):(tF' c).length≤1005 * (1+sz c.k):=by
 have h1:=len_bts (F c) (nice_of c hw).1
 have h2:=len_wf c hw
 unfold tF'
 omega
theorem len_tI (c:Ch) (hw:(wfB c.a (len c.k) && wfT c.k)=true):(tI' c).length≤1005 * (1+sz c.k):=by
 have n:=nice_I (nice_of c hw)
 have h1:=len_bts (I c) n.1
 have h2:=len_wf c hw
 have h3:=len_I c
 unfold tI'
 omega
theorem wf_kl (k:Fo):wfT k=true→∀ c ∈ kl k,(wfB c.a (len c.k) && wfT c.k)=true∧1+sz c.k≤sz k:=by
 induction k with
 | nil=>intro _ c hc;cases hc
 | node b o a k r ihk ihr =>
   intro hw c hc
   unfold wfT at hw
   rw [Bool.and_eq_true] at hw
   have e:sz (BT.node b o a k r)=1+sz k+sz r:=rfl
   rcases List.mem_cons.1 hc with rfl|hc
   · exact ⟨hw.1,by rw [e];show 1+sz k≤_;omega⟩
   · have q:=ihr hw.2 c hc
     exact ⟨q.1,by rw [e];omega⟩
end Fp
end Go.Proofs.YtcejjdmnlejbaaaGreatDoor
namespace Go.Proofs.YtcejjdmnlejbaaaGreatDoor
set_option linter.unusedVariables false
set_option linter.unusedSimpArgs false
open Go.ChangeShapes Go.WideShapes Go.ChangeAt Go.RowKit
open Go.Deep (BT)
namespace Fp
open Pz
theorem fo_succ {k:Fo} {n:Nat} (h:len k=n+1):∃ b o a k1 r,k=.node b o a k1 r∧len r=n:=by
 cases k with
 | nil=>simp [len] at h
 | node b o a k1 r=>exact ⟨b,o,a,k1,r,rfl,by simp [len] at h;omega⟩
def bin (op:Int):Prop:=op=8∨op=9∨op=10∨op=11∨op=16∨op=17∨op=18∨op=20∨op=21∨op=22
theorem shape (a:Nd) (k:Fo) (hw:(wfB a (len k) && wfT k)=true) :
 ((a.op=1∨a.op=2∨a.op=3∨a.op=4∨a.op=5∨a.op=6)∧k=.nil) ∨
 ((a.op=7∨a.op=19)∧∃ b1 o1 a1 k1,k=.node b1 o1 a1 k1 .nil) ∨
 ((a.op=12∨a.op=13)∧2≤len k) ∨
 ((a.op=14∨a.op=15)∧∃ b1 o1 a1 k1 b2 o2 a2 k2 b3 o3 a3 k3,k=.node b1 o1 a1 k1 (.node b2 o2 a2 k2 (.node b3 o3 a3 k3 .nil))) ∨
 (bin a.op∧∃ b1 o1 a1 k1 b2 o2 a2 k2,k=.node b1 o1 a1 k1 (.node b2 o2 a2 k2 .nil)):=by
 rw [Bool.and_eq_true] at hw
 have hw:=hw.1
 unfold wfB at hw
 rw [Bool.and_eq_true,Bool.and_eq_true,Bool.and_eq_true,decide_eq_true_eq] at hw
 obtain ⟨⟨⟨⟨o1,o2⟩,ha⟩,hn⟩,hm⟩:=hw
 unfold argB at ha
 unfold bin
 by_cases h1:1≤a.op∧a.op≤6
 · rw [if_pos h1] at ha
   left
   exact ⟨by omega,lz0 (by have:=of_decide_eq_true ha;omega)⟩
 · rw [if_neg h1] at ha
   by_cases h2:a.op=7∨a.op=19
   · rw [if_pos h2] at ha
     right;left
     obtain ⟨b1,o1,a1,k1,r1,rfl,e⟩:=fo_succ (n:=0) (k:=k) (by have:=of_decide_eq_true ha;omega)
     obtain rfl:=lz0 e
     exact ⟨h2,b1,o1,a1,k1,rfl⟩
   · rw [if_neg h2] at ha
     by_cases h3:a.op=12∨a.op=13
     · rw [if_pos h3] at ha
       right;right;left
       exact ⟨h3,by have:=of_decide_eq_true ha;omega⟩
     · rw [if_neg h3] at ha
       by_cases h4:a.op=14∨a.op=15
       · rw [if_pos h4] at ha
         right;right;right;left
         obtain ⟨b1,o1,a1,k1,r1,rfl,e1⟩:=fo_succ (n:=2) (k:=k) (by have:=of_decide_eq_true ha;omega)
         obtain ⟨b2,o2,a2,k2,r2,rfl,e2⟩:=fo_succ (n:=1) e1
         obtain ⟨b3,o3,a3,k3,r3,rfl,e3⟩:=fo_succ (n:=0) e2
         obtain rfl:=lz0 e3
         exact ⟨h4,b1,o1,a1,k1,b2,o2,a2,k2,b3,o3,a3,k3,rfl⟩
       · rw [if_neg h4] at ha
         right;right;right;right
         obtain ⟨b1,o1,a1,k1,r1,rfl,e1⟩:=fo_succ (n:=1) (k:=k) (by have:=of_decide_eq_true ha;omega)
         obtain ⟨b2,o2,a2,k2,r2,rfl,e2⟩:=fo_succ (n:=0) e1
         obtain rfl:=lz0 e2
         exact ⟨by omega,b1,o1,a1,k1,b2,o2,a2,k2,rfl⟩
theorem vt_lit (c:Ch) (hw:(wfB c.a (len c.k) && wfT c.k)=true):(c.a.op=1→VT ⟨2,⟨#[]⟩,c.a.num⟩)∧(c.a.op=2→VT ⟨3,⟨#[]⟩,c.a.num⟩)∧(c.a.op=3→VT ⟨4,⟨#[]⟩,c.a.num⟩):=by
 have n:=(nice_of c hw).1
 refine ⟨fun h=>?_,fun h=>?_,fun h=>?_⟩
 · rw [tF_eq c 1 h] at n;exact n _ (List.mem_singleton.2 rfl)
 · rw [tF_eq c 2 h] at n;exact n _ (List.mem_singleton.2 rfl)
 · rw [tF_eq c 3 h] at n;exact n _ (List.mem_singleton.2 rfl)
theorem fst_kl {c:Ch} (hw:(wfB c.a (len c.k) && wfT c.k)=true):∀ x ∈ kl c.k,Fst (F x):=by
 rw [Bool.and_eq_true] at hw
 exact fst_all c.k hw.2
theorem tJ_take (l:List Ch) (j:Nat) (x:Ch) (h:l[j]?=some x) (hF:∀ c ∈ l,Fst (F c)):tJ' (l.take (j+1))=if j=0 then tF' x else tJ' (l.take j)++([44,32]++tF' x):=by
 have hj:=(List.getElem?_eq_some_iff.1 h).1
 rw [List.take_add_one,h]
 show tJ' (l.take j++[x])=_
 by_cases h0:j=0
 · rw [if_pos h0,h0];rfl
 · rw [if_neg h0]
   exact tJ_snoc (l.take j) x (fun c hc=>hF c (List.mem_of_mem_take hc)) (hF x (List.mem_of_getElem? h)) (fun e=>by have:=congrArg List.length e;rw [List.length_take,List.length_nil] at this;omega)
theorem tJ_join:∀ (l:List Ch),(∀ c ∈ l,Fst (F c))→Lib.join (l.map tF') [44,32]=tJ' l:=by
 intro l hF
 have key:∀ n,n≤l.length→Lib.join ((l.take n).map tF') [44,32]=tJ' (l.take n):=by
  intro n
  induction n with
  | zero=>intro _;rfl
  | succ n ih =>
    intro hn
    have e:l[n]?=some l[n]:=List.getElem?_eq_getElem (by omega)
    rw [tJ_take l n _ e hF,List.take_add_one,e]
    show Lib.join ((l.take n++[l[n]]).map tF') [44,32]=_
    rw [List.map_append,List.map_singleton,join_snoc,ih (by omega)]
    by_cases h0:n=0
    · rw [if_pos h0,if_pos (by rw [h0];rfl)]
    · rw [if_neg h0,if_neg (fun q=>by have:=congrArg List.length q;rw [List.length_map,List.length_take,List.length_nil] at this;omega),List.append_assoc]
 have:=key l.length (Nat.le_refl _)
 rwa [List.take_length] at this
end Fp
end Go.Proofs.YtcejjdmnlejbaaaGreatDoor
namespace Go.Proofs.YtcejjdmnlejbaaaGreatDoor
set_option linter.unusedVariables false
set_option linter.unusedSimpArgs false
open Go.ChangeShapes Go.WideShapes Go.ChangeAt Go.RowKit
open Go.Deep (BT)
theorem fI_bare (c:Ch) (h:len c.k=0∨c.a.op=12∨c.a.op=13):Fp.I c=Fp.F c:=by unfold Fp.I Fp.tI;rw [if_pos h]
theorem fI_par (c:Ch) (h:¬ (len c.k=0∨c.a.op=12∨c.a.op=13)):Fp.tB (Fp.I c)=⟨#[40]⟩++Fp.tB (Fp.F c)++⟨#[41]⟩:=by
 apply Fp.ba_eq
 rw [app_list,app_list,Fp.tB_list,Fp.tB_list]
 exact Fp.tI_paren c h
theorem tB_sz {b o:Nat} {a:Nd} {k:Fo} (hw:(wfB a (len k) && wfT k)=true) (hs:sz k≤199):(Fp.tB (Fp.F ⟨b,o,a,k⟩)).size≤201000:=by
 have:=Fp.len_tF ⟨b,o,a,k⟩ hw
 rw [← len_atT]
 show (Fp.tF' _).length≤_
 dsimp only at this
 omega
theorem tB_szI {b o:Nat} {a:Nd} {k:Fo} (hw:(wfB a (len k) && wfT k)=true) (hs:sz k≤199):(Fp.tB (Fp.I ⟨b,o,a,k⟩)).size≤201000:=by
 have:=Fp.len_tI ⟨b,o,a,k⟩ hw
 rw [← len_atT]
 show (Fp.tI' _).length≤_
 dsimp only at this
 omega
end Go.Proofs.YtcejjdmnlejbaaaGreatDoor
