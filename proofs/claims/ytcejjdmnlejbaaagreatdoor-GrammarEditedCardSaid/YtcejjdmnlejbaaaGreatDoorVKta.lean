import Derived.Lib.ItoaNum
import Derived.Lib.Repeat
import Derived.WalkSmall
import Derived.PlainAid
import Derived.StillTailTactics
import Derived.Test.YtcejjdmnlejbaaaGreatDoorVGa
import Derived.Test.YtcejjdmnlejbaaaGreatDoorVShelf
namespace Go.Proofs.YtcejjdmnlejbaaaGreatDoor
set_option linter.unusedVariables false
set_option linter.unusedSimpArgs false
open Go.ChangeShapes Go.WideShapes Go.ChangeAt Go.RowKit
open Go.Deep (BT)
section
structure Ch where
 b:Nat
 o:Nat
 a:Nd
 k:Fo
def qH:List Ch→Fo
 | []=>.nil
 | c :: r=>.node c.b c.o c.a c.k (qH r)
def jI(c:Ch):List Value:=[.int .i64 c.a.op,.int .i64 c.a.num,.string c.a.name,.slice c.a.ptr (len c.k) c.a.cap]
def zR(l:List Ch):List Value:=l.flatMap jI
theorem qC(l:List Ch):len (qH l)=l.length:=by
 induction l with
 | nil=>rfl
 | cons c l ih=>simp[qH,len,ih]
def FoGe(B0:Nat):Fo→Nat→Prop
 | .nil,_=>True
 | .node b _ _ k r,B=>B0≤B∧FoGe B0 k b∧FoGe B0 r B
theorem FoGe.mono{B0 B1:Nat}{T:Fo}{B:Nat}(h:FoGe B0 T B)(hb:B1≤B0):FoGe B1 T B:=by
 induction T generalizing B with
 | nil=>trivial
 | node b o a k r ihk ihr=>exact⟨Nat.le_trans hb h.1,ihk h.2.1,ihr h.2.2⟩
theorem FoAt.grownGe{w w':World}{s B0:Nat}{T:Fo}{B O:Nat}(h:FoAt w T B O)(hn:FoGe B0 T B)(hs:s < B0)(hg:w.grownBy w' (some s)):FoAt w' T B O:=by
 induction T generalizing B O with
 | nil=>trivial
 | node b o a k r ihk ihr =>
   obtain⟨⟨h0,h1,h2,h3⟩,hp,hk,hr⟩:=h;obtain⟨n0,nk,nr⟩:=hn
   have key:∀(i:Nat) (u:Value),w.cell? ⟨B,i,none⟩=some u→w'.cell? ⟨B,i,none⟩=some u:=fun i u q=>by
    rw[World.cell?_of_block (hg.block B (block_lt_of_cell q) (fun e=>by have:=Option.some.inj e;omega))];exact q
   exact⟨⟨key _ _ h0,key _ _ h1,key _ _ h2,key _ _ h3⟩,hp,ihk hk nk,ihr hr nr⟩
def ChAt(w:World)(B0:Nat)(c:Ch):Prop:=ExAt w c.b c.o c.a c.k∧FoGe B0 c.k c.b
theorem ChAt.grown{w w':World}{s B0:Nat}{c:Ch}(h:ChAt w B0 c)(hs:s < B0)(hg:w.grownBy w' (some s)):ChAt w' B0 c:=⟨⟨h.1.1,h.1.2.grownGe h.2 hs hg⟩,h.2⟩
theorem ChAt.next{w w':World}{B0:Nat}{c:Ch}(h:ChAt w B0 c)(hb:Below w.heap.size w w'):ChAt w' B0 c:=⟨h.1.next hb,h.2⟩
theorem ChAt.mono{w:World}{B0 B1:Nat}{c:Ch}(h:ChAt w B0 c)(hb:B1≤B0):ChAt w B1 c:=⟨h.1,h.2.mono hb⟩
theorem uV{w:World}{B0 g O:Nat}(l:List Ch)(h:∀c∈ l,ChAt w B0 c)(hc:∀j u,(zR l)[j]?=some u→w.cell? ⟨g,O+j,none⟩=some u)(hg:B0≤g):FoAt w (qH l) g O∧FoGe B0 (qH l) g:=by
 induction l generalizing O with
 | nil=>exact⟨trivial,trivial⟩
 | cons c l ih =>
   obtain⟨h1,h2⟩:=h c (by simp)
   obtain ⟨r1,r2⟩:=ih (O:=O+4) (fun d hd=>h d (by simp[hd])) (fun j u hu=>by
    have:=hc (4+j) u (by unfold zR;rw[List.flatMap_cons,List.getElem?_append_right (by simp[jI])];simpa [jI,zR] using hu);rw[← Nat.add_assoc] at this;exact this)
   exact⟨⟨⟨hc 0 _ rfl,hc 1 _ rfl,hc 2 _ rfl,hc 3 _ rfl⟩,h1.1,h1.2,r1⟩,hg,h2,r2⟩
theorem qd{fn:Func}{p:Tmp}{ty:TypeId}(h:fn.results=#[.cell p ty])(tmps:Array Value)(P:Program)(w:World) :
 (results fn tmps).run P w=((asAddr (tmps.getD p undef)).run P w).andThen fun a w₁=>(loadVar ty a).run P w₁:=by
 simp only[results,h];simp[Sem.run_bind,Result.andThen]
end
namespace Txt
open Go
def isD(c:UInt8):Bool:=decide (48≤c.toNat∧c.toNat≤57)
def dv(c:UInt8):Int:=(c.toNat:Int) - 48
def num(l:List UInt8):Int:=l.foldl (fun n c=>10 * n+dv c) 0
def allD(l:List UInt8):Bool:=l.all isD
theorem num_snoc(l:List UInt8)(c:UInt8):num (l++[c])=10 * num l+dv c:=by simp[num]
theorem allD_snoc(l:List UInt8)(c:UInt8):allD (l++[c])=(allD l && isD c):=by simp[allD]
theorem isD_iff(c:UInt8):isD c=true↔48≤c.toNat∧c.toNat≤57:=by simp[isD]
theorem isD_no(c:UInt8):isD c=false↔¬(48≤c.toNat∧c.toNat≤57):=by simp[isD]
theorem snoc_ind{P:List UInt8→Prop}(h0:P [])(h1:∀l c,P l→P (l++[c])):∀l,P l:=by
 intro l;rw[← List.reverse_reverse l]
 induction l.reverse with
 | nil=>exact h0
 | cons c t ih=>rw[List.reverse_cons];exact h1 _ _ ih
theorem num_bd(l:List UInt8)(h:allD l=true):0≤num l∧num l < (10 ^ l.length:Nat):=by
 induction l using snoc_ind with
 | h0=>simp[num]
 | h1 l c ih =>
   rw[allD_snoc,Bool.and_eq_true] at h;have hc:=(isD_iff c).1 h.2;have:=ih h.1;rw[num_snoc,List.length_append];simp only[List.length_cons,List.length_nil,Nat.zero_add,Nat.pow_succ,dv];generalize 10 ^ l.length=k at *;omega
def fitB(c p:UInt8):Bool:=if p=48 then isD c else c==p
def fits:List UInt8→List UInt8→Bool
 | [],[]=>true
 | c :: s,p :: q=>fitB c p && fits s q
 | _,_=>false
theorem fits_len:∀(s p:List UInt8),fits s p=true→s.length=p.length
 | [],[],_=>rfl
 | c :: s,p :: q,h=>by simp[fits] at h;simp[fits_len s q h.2]
 | [],_ :: _,h=>by simp[fits] at h
 | _ :: _,[],h=>by simp[fits] at h
theorem fits_take(s p:List UInt8)(hl:s.length=p.length)(k:Nat)(hk:k < s.length) :
 fits (s.take (k+1)) (p.take (k+1))=(fits (s.take k) (p.take k) && fitB (s.getD k 0) (p.getD k 0)):=by
 induction s generalizing p k with
 | nil=>simp at hk
 | cons c s ih =>
   cases p with
   | nil=>simp at hl
   | cons q p =>
     cases k with
     | zero=>simp[fits]
     | succ k =>
       have:=ih p (by simpa using hl) k (by simpa using hk);simp only[List.take_succ_cons,fits,this,List.getD_cons_succ,Bool.and_assoc]
theorem fits_all(s p:List UInt8)(hl:s.length=p.length):fits s p=true↔∀k,k < s.length→fitB (s.getD k 0) (p.getD k 0)=true:=by
 induction s generalizing p with
 | nil=>cases p with
   | nil=>simp[fits]
   | cons q p=>simp at hl
 | cons c s ih =>
   cases p with
   | nil=>simp at hl
   | cons q p =>
     rw[fits,Bool.and_eq_true,ih p (by simpa using hl)];constructor
     ·rintro⟨h0,h1⟩ k hk;cases k with
      | zero=>simpa using h0
      | succ k=>simpa using h1 k (by simpa using hk)
     ·intro h;exact⟨by simpa using h 0 (by simp),fun k hk=>by simpa using h (k+1) (by simpa using hk)⟩
theorem repeatL_one(k:Nat):Lib.repeatL [48] k=List.replicate k 48:=by
 induction k with
 | zero=>rfl
 | succ k ih=>simp[Lib.repeatL,ih,List.replicate_succ]
theorem num_cons(c:UInt8)(l:List UInt8):num (c :: l)=dv c * (10 ^ l.length:Nat)+num l:=by
 induction l using snoc_ind with
 | h0=>simp[num]
 | h1 l d ih =>
   rw[← List.cons_append,num_snoc,ih,num_snoc,List.length_append];simp only[List.length_cons,List.length_nil,Nat.zero_add,Nat.pow_succ,Int.natCast_mul];generalize ((10 ^ l.length:Nat):Int)=k
   have:dv c * (k * (10:Nat))=10 * (dv c * k):=by
    rw[show((10:Nat):Int)=10 from rfl,← Int.mul_assoc,Int.mul_comm]
   rw[this];omega
end Txt
namespace Txt
open Go
theorem ix_ge(l:List UInt8)(c:UInt8) : -1≤Lib.indexByte l c:=by
 induction l with
 | nil=>simp[Lib.indexByte]
 | cons d l ih =>
   rw[Lib.indexByte]
   split
   ·omega
   ·split<;>omega
theorem ix_none(l:List UInt8)(c:UInt8):Lib.indexByte l c = -1↔∀x∈ l,x≠c:=by
 induction l with
 | nil=>simp[Lib.indexByte]
 | cons b l ih =>
   rw[Lib.indexByte]
   by_cases h:b=c
   ·subst h;simp
   ·have h':(b==c)=false:=by simp[h]
    rw[h'];simp only[Bool.false_eq_true,if_false];have hge:=ix_ge l c
    split
    ·rename_i q;simp at q;simp[h];exact ih.1 q
    ·rename_i q
     simp at q;constructor
     ·intro e;omega
     ·intro e;exact absurd (ih.2 fun x hx=>e x (by simp[hx])) q
theorem ix_some(l:List UInt8)(c:UInt8)(k:Nat):Lib.indexByte l c=k↔(∃r,l=l.take k++c :: r)∧k < l.length∧∀x∈ l.take k,x≠c:=by
 induction l generalizing k with
 | nil=>simp[Lib.indexByte]
 | cons b l ih =>
   rw[Lib.indexByte]
   by_cases h:b=c
   ·subst h;simp only[beq_self_eq_true,if_true];constructor
    ·intro e;have:k=0:=(by omega);subst this;simp
    ·rintro⟨-,-,h3⟩;cases k with
     | zero=>rfl
     | succ k=>exact absurd rfl (h3 b (by simp))
   ·have h':(b==c)=false:=by simp[h]
    rw[h'];simp only[Bool.false_eq_true,if_false];cases k with
    | zero =>
      constructor
      ·intro e
       split at e
       ·omega
       ·rename_i q;simp at q
        have hge:=ix_ge l c;have:Lib.indexByte l c≠ -1:=q;omega
      ·rintro⟨⟨r,hr⟩,-,-⟩;simp at hr;exact absurd hr.1 h
    | succ k =>
      have:=ih k;constructor
      ·intro e;have e':Lib.indexByte l c=k:=(by split at e<;>omega);obtain⟨⟨r,hr⟩,h2,h3⟩:=this.1 e';refine⟨⟨r,?_⟩,by simp;omega,?_⟩
       ·rw[List.take_succ_cons,List.cons_append,← hr]
       ·intro x hx;rw[List.take_succ_cons] at hx;rcases List.mem_cons.1 hx with rfl|hx
        ·exact h
        ·exact h3 x hx
      ·rintro⟨⟨r,hr⟩,h2,h3⟩;have e':Lib.indexByte l c=k:=this.2 ⟨⟨r,by rw[List.take_succ_cons,List.cons_append] at hr;exact(List.cons.inj hr).2⟩,by simp at h2;omega,fun x hx=>h3 x (by rw[List.take_succ_cons];exact List.mem_cons_of_mem _ hx)⟩;rw[e'];simp
def duR(l:List UInt8):List UInt8:=Lib.trimPrefix l [45]
def duNeg(l:List UInt8):Bool:=Lib.hasPrefix l [45]
def duK(l:List UInt8):Nat:=(duR l).length - 3
def duH(l:List UInt8):List UInt8:=(duR l).take (duK l)
def duM(l:List UInt8):List UInt8:=(duR l).drop (duK l+1)
def plainL(l:List UInt8):Bool:=decide (l.length=1) || (decide (1 < l.length) && !(l.getD 0 0==48))
def duB(l:List UInt8):Bool:=decide (4≤(duR l).length∧(duR l).length≤14∧(duR l).getD (duK l) 0=58∧allD (duH l)=true∧allD (duM l)=true∧plainL (duH l)=true∧¬(duNeg l=true∧num (duH l)=0∧num (duM l)=0))
def duN(l:List UInt8):Int:=60 * num (duH l)+num (duM l)
def duE(l:List UInt8):Int:=if duB l=true then (if num (duM l)≤59∧duN l≤1099511627776 then 0 else 5) else 1
def duV(l:List UInt8):Int:=if duE l=0 then (if duNeg l=true then - duN l else duN l) else 0
theorem plain_iff(hh:List UInt8)(h:1≤hh.length):plainL hh=true↔¬((hh.getD 0 0).toNat=48∧1 < hh.length):=by
 cases hh with
 | nil=>simp at h
 | cons c t =>
   have hc:(c==48)=decide (c.toNat=48):=by
    rw[Bool.eq_iff_iff];simp only[beq_iff_eq,decide_eq_true_eq];exact⟨fun q=>by rw[q];rfl,fun q=>UInt8.toNat_inj.1 q⟩
   unfold plainL;rw[List.getD_cons_zero,hc,List.length_cons]
   by_cases q:c.toNat=48
   ·simp only[q,decide_true,Bool.not_true,Bool.and_false,Bool.or_false,decide_eq_true_eq,true_and];omega
   ·simp only[q,decide_false,Bool.not_false,Bool.and_true,Bool.or_eq_true,decide_eq_true_eq,false_and,not_false_eq_true,iff_true];omega
theorem fits2(l:List UInt8):fits l [48,48]=true↔l.length=2∧allD l=true:=by
 constructor
 ·intro h;have hl:=fits_len _ _ h
  match l,hl with
  | [a,b],_=>simp[fits,fitB,allD] at h ⊢;exact h
 ·rintro⟨hl,h⟩
  match l,hl with
  | [a,b],_=>simp[fits,fitB,allD] at h ⊢;exact h
theorem fits_zeros(l:List UInt8):fits l (List.replicate l.length 48)=allD l:=by
 induction l with
 | nil=>rfl
 | cons c l ih =>
   rw[List.length_cons,List.replicate_succ,fits,ih];simp[allD,fitB]
theorem isD_ne(c:UInt8)(h:isD c=true):c≠58:=by
 rintro rfl;simp[isD] at h
theorem cut_iff(r:List UInt8)(k:Nat)(hk:Lib.indexByte r 58=k):fits (r.drop (k+1)) [48,48]=true∧1≤k∧k≤11∧allD (r.take k)=true↔
 (4≤r.length∧r.length≤14∧r.getD (r.length - 3) 0=58∧allD (r.take (r.length - 3))=true∧allD (r.drop (r.length - 3+1))=true):=by
 obtain⟨⟨t,ht⟩,h2,h3⟩:=(ix_some r 58 k).1 hk
 have hd:r.drop (k+1)=t:=by
  have hl:(r.take k).length=k:=by simp;omega
  conv=>lhs;rw[ht]
  rw[List.drop_append,hl];simp;omega
 have hlen:r.length=k+1+t.length:=by
  have:=congrArg List.length hd;simp at this;omega
 constructor
 ·rintro⟨f1,f2,f3,f4⟩;rw[hd] at f1;obtain⟨g1,g2⟩:=(fits2 t).1 f1;have e:r.length - 3=k:=(by omega);rw[e,hd];refine⟨by omega,by omega,?_,f4,g2⟩;rw[List.getD_eq_getElem?_getD,ht,List.getElem?_append_right (by simp;omega)];have hl:(r.take k).length=k:=(by simp;omega);rw[hl];simp
 ·rintro ⟨f1,f2,f3,f4,f5⟩
  have e : r.length - 3=k:=by
   rcases Nat.lt_trichotomy (r.length - 3) k with q|q|q
   ·exfalso
    have:(58:UInt8)∈ r.take k:=by
     rw[List.getD_eq_getElem?_getD,List.getElem?_eq_getElem (by omega)] at f3;simp at f3;rw[List.mem_iff_getElem];exact⟨r.length - 3,by simp;omega,by rw[List.getElem_take];exact f3⟩
    exact h3 58 this rfl
   ·exact q
   ·exfalso
    have:(58:UInt8)∈ r.take (r.length - 3):=by
     rw[List.mem_iff_getElem];refine⟨k,by simp;omega,?_⟩;rw[List.getElem_take];have hl:(r.take k).length=k:=(by simp;omega);have:r[k]?=(r.take k++58 :: t)[k]?:=congrArg (fun l=>l[k]?) ht;rw[List.getElem?_append_right (by omega),hl,List.getElem?_eq_getElem (by omega)] at this
     simpa using this
    exact isD_ne 58 (List.all_eq_true.1 f4 58 this) rfl
  rw[e] at f4 f5;rw[hd] at f5 ⊢;exact⟨(fits2 t).2 ⟨by omega,f5⟩,by omega,by omega,f4⟩
theorem dash_iff(l:List UInt8):duNeg l=true↔∃t,l=45 :: t:=by
 unfold duNeg Lib.hasPrefix;cases l with
 | nil=>simp
 | cons c l=>simp[List.isPrefixOf];exact eq_comm
theorem duR_neg(t:List UInt8):duR (45 :: t)=t:=by simp[duR,Lib.trimPrefix,Lib.hasPrefix,List.isPrefixOf]
theorem duR_pos(l:List UInt8)(h:duNeg l=false):duR l=l:=by unfold duR Lib.trimPrefix;rw[show Lib.hasPrefix l [45]=false from h];simp
theorem duR_len(l:List UInt8):(duR l).length≤l.length:=by
 unfold duR Lib.trimPrefix;cases Lib.hasPrefix l [45]<;>simp
theorem num_zero(l:List UInt8)(h:allD l=true):num l=0↔∀x∈ l,x=48:=by
 induction l with
 | nil=>simp[num]
 | cons c l ih =>
   simp only[allD,List.all_cons,Bool.and_eq_true] at h;have hc:=(isD_iff c).1 h.1;have hb:=num_bd l h.2;have hp:0 < 10 ^ l.length:=Nat.pow_pos (by omega);rw[num_cons];have ih':=ih h.2;constructor
   ·intro e;have hm:0≤dv c * ((10 ^ l.length:Nat):Int):=Int.mul_nonneg (by unfold dv;omega) (by omega);have h0:num l=0:=(by omega);have h1:dv c * ((10 ^ l.length:Nat):Int)=0:=(by omega);rcases Int.mul_eq_zero.1 h1 with q|q
    ·intro x hx;rcases List.mem_cons.1 hx with rfl|hx
     ·unfold dv at q;apply UInt8.toNat_inj.1;show x.toNat=48;omega
     ·exact ih'.1 h0 x hx
    ·omega
   ·intro e;have:=e c (by simp);subst this;rw[ih'.2 fun x hx=>e x (by simp[hx])];simp[dv]
theorem zero_aux(t:List UInt8)(hk:4≤t.length)(hc:t.getD (t.length - 3) 0=58)(h1:allD (t.take (t.length - 3))=true)(h2:allD (t.drop (t.length - 3+1))=true)(h3:plainL (t.take (t.length - 3))=true)
 (n2:num (t.take (t.length - 3))=0) (n3:num (t.drop (t.length - 3+1))=0):t=[48,58,48,48]:=by
 have z1:=(num_zero _ h1).1 n2;have z2:=(num_zero _ h2).1 n3
 have hl:(t.take (t.length - 3)).length=1:=by
  unfold plainL at h3;simp only[Bool.or_eq_true,decide_eq_true_eq,Bool.and_eq_true] at h3;rcases h3 with h3|⟨h3,h4⟩
  ·exact h3
  ·exfalso
   have:(t.take (t.length - 3)).getD 0 0=48:=by
    rw[List.getD_eq_getElem?_getD,List.getElem?_eq_getElem (by omega)];exact z1 _ (List.getElem_mem _)
   rw[this] at h4;simp at h4
 have ht:t.length=4:=by simp at hl;omega
 match t,ht with
 | [a,b,c,d],_ =>
   simp at z1 z2 hc;simp[z1,z2,hc]
theorem zero_iff(l:List UInt8)(hk:4≤(duR l).length)(hc:(duR l).getD (duK l) 0=58)(h1:allD (duH l)=true)(h2:allD (duM l)=true)(h3:plainL (duH l)=true) :
 (duNeg l=true∧num (duH l)=0∧num (duM l)=0)↔l=[45,48,58,48,48]:=by
 constructor
 ·rintro⟨n1,n2,n3⟩;have:=zero_aux (duR l) hk hc h1 h2 h3 n2 n3;obtain⟨t,rfl⟩:=(dash_iff l).1 n1;rw[duR_neg] at this;rw[this]
 ·rintro rfl;decide
theorem duB_iff(l:List UInt8)(k:Nat)(hk:Lib.indexByte (duR l) 58=k):duB l=true↔
 (l≠[45,48,58,48,48]∧1≤k∧k≤11∧fits ((duR l).drop (k+1)) [48,48]=true∧allD ((duR l).take k)=true∧plainL ((duR l).take k)=true):=by
 have hc:=cut_iff (duR l) k hk
 have hke:(4≤(duR l).length∧(duR l).length≤14∧(duR l).getD ((duR l).length - 3) 0=58∧allD ((duR l).take ((duR l).length - 3))=true∧allD ((duR l).drop ((duR l).length - 3+1))=true)→k=duK l:=by
  intro q;obtain⟨f1,f2,f3,f4⟩:=hc.2 q;have:=((fits2 _).1 f1).1;unfold duK;simp at this;omega
 unfold duB;rw[decide_eq_true_eq];constructor
 ·rintro⟨a1,a2,a3,a4,a5,a6,a7⟩;have e:=hke ⟨a1,a2,a3,a4,a5⟩;obtain⟨f1,f2,f3,f4⟩:=hc.2 ⟨a1,a2,a3,a4,a5⟩;refine⟨fun q=>a7 ((zero_iff l a1 a3 a4 a5 a6).2 q),f2,f3,f1,f4,?_⟩;rw[e];exact a6
 ·rintro⟨b1,b2,b3,b4,b5,b6⟩;have q:=hc.1 ⟨b4,b2,b3,b5⟩;have e:=hke q;obtain⟨a1,a2,a3,a4,a5⟩:=q;rw[e] at b6;exact⟨a1,a2,a3,a4,a5,b6,fun z=>b1 ((zero_iff l a1 a3 a4 a5 b6).1 z)⟩
theorem duB_none(l:List UInt8)(hk:Lib.indexByte (duR l) 58 = -1):duB l=false:=by
 rw[Bool.eq_false_iff];intro h;unfold duB at h;rw[decide_eq_true_eq] at h;obtain⟨a1,a2,a3,-⟩:=h;have hn:=(ix_none _ _).1 hk;unfold duK at a3;rw[List.getD_eq_getElem?_getD,List.getElem?_eq_getElem (by omega)] at a3;exact hn _ (List.getElem_mem _) a3
theorem ix_cases(l:List UInt8)(c:UInt8):Lib.indexByte l c = -1∨∃k:Nat,Lib.indexByte l c=k∧k < l.length:=by
 have hge:=ix_ge l c
 by_cases h:Lib.indexByte l c = -1
 ·exact .inl h
 ·obtain ⟨k,hk⟩:=Int.eq_ofNat_of_zero_le (show 0≤Lib.indexByte l c by omega);exact .inr ⟨k,hk,((ix_some l c k).1 hk).2.1⟩
end Txt
theorem xL{k:IntKind}{a b:Int}(h:a=b):Ending.returned (.int k a)=.returned (.int k b):=by rw[h]
theorem qV{a b:Bool}(h:a=b):Ending.returned (.bool a)=.returned (.bool b):=by rw[h]
theorem YA{k j:IntKind}{a b c d:Int}(h:a=b)(h':c=d):Ending.returned (.tuple #[.int k a,.int j c])=.returned (.tuple #[.int k b,.int j d]):=by rw[h,h']
theorem kN{w w1:World}{xs:Array Value}{T:TypeId}(hb:Below (w.alloc (.cells xs T)).heap.size (w.alloc (.cells xs T)) w1)(o:Nat):w1.cell? ⟨w.heap.size,o,none⟩=xs[o]?:=by
 rw[hb.cell (p:=⟨w.heap.size,o,none⟩) (by simp)];simp
theorem kM{w w1:World}{xs:Array Value}{T:TypeId}(hb:Below (w.alloc (.cells xs T)).heap.size (w.alloc (.cells xs T)) w1)(o:Nat):w1.frozen? ⟨w.heap.size,o,none⟩=false:=by
 rw[hb.frozen (p:=⟨w.heap.size,o,none⟩) (by simp)];simp
theorem JQ{w w1:World}{o:Obj}(hb:Below (w.alloc o).heap.size (w.alloc o) w1):w.heap.size < w1.heap.size:=by have:=hb.size;simp at this;omega
theorem zg{B:Nat}{w w1:World}(h:Below B w w1)(n:Nat):Below B w (w1.drewN n):=⟨h.os,h.tape,h.output,h.size,h.block⟩
theorem Kz(s:ByteArray):(⟨s.data.toList.toArray⟩:ByteArray)=s:=by cases s;simp
end Go.Proofs.YtcejjdmnlejbaaaGreatDoor
