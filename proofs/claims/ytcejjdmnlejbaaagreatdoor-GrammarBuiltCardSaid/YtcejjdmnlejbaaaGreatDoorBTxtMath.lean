import Derived.Test.YtcejjdmnlejbaaaGreatDoorBGa
import Derived.WalkKit
import Derived.Lib.ItoaNum
import Derived.Lib.Repeat
namespace Go.Proofs.YtcejjdmnlejbaaaGreatDoor
section
set_option linter.unusedVariables false
set_option linter.unusedSimpArgs false
open Go.ChangeShapes Go.WideShapes Go.ChangeAt Go.RowKit
open Go.Deep (BT)
structure Ch where
 b:Nat
 o:Nat
 a:Nd
 k:Fo
def rowF:List Ch→Fo
 | []=>.nil
 | c :: r=>.node c.b c.o c.a c.k (rowF r)
def chC (c:Ch):List Value:=[.int .i64 c.a.op,.int .i64 c.a.num,.string c.a.name,.slice c.a.ptr (len c.k) c.a.cap]
def rowC (l:List Ch):List Value:=l.flatMap chC
theorem rowF_len (l:List Ch):len (rowF l)=l.length:=by
 induction l with
 | nil=>rfl
 | cons c l ih=>simp [rowF,len,ih]
def FoGe (B0:Nat):Fo→Nat→Prop
 | .nil,_=>True
 | .node b _ _ k r,B=>B0≤B∧FoGe B0 k b∧FoGe B0 r B
theorem FoGe.mono {B0 B1:Nat} {T:Fo} {B:Nat} (h:FoGe B0 T B) (hb:B1≤B0):FoGe B1 T B:=by
 induction T generalizing B with
 | nil=>trivial
 | node b o a k r ihk ihr=>exact ⟨Nat.le_trans hb h.1,ihk h.2.1,ihr h.2.2⟩
theorem FoAt.grownGe {w w':World} {s B0:Nat} {T:Fo} {B O:Nat} (h:FoAt w T B O) (hn:FoGe B0 T B) (hs:s < B0) (hg:w.grownBy w' (some s)):FoAt w' T B O:=by
 induction T generalizing B O with
 | nil=>trivial
 | node b o a k r ihk ihr =>
   obtain ⟨⟨h0,h1,h2,h3⟩,hp,hk,hr⟩:=h
   obtain ⟨n0,nk,nr⟩:=hn
   have key:∀ (i:Nat) (u:Value),w.cell? ⟨B,i,none⟩=some u→w'.cell? ⟨B,i,none⟩=some u:=fun i u q=>by
    rw [World.cell?_of_block (hg.block B (block_lt_of_cell q) (fun e=>by have:=Option.some.inj e;omega))];exact q
   exact ⟨⟨key _ _ h0,key _ _ h1,key _ _ h2,key _ _ h3⟩,hp,ihk hk nk,ihr hr nr⟩
def ChAt (w:World) (B0:Nat) (c:Ch):Prop:=ExAt w c.b c.o c.a c.k∧FoGe B0 c.k c.b
theorem ChAt.grown {w w':World} {s B0:Nat} {c:Ch} (h:ChAt w B0 c) (hs:s < B0) (hg:w.grownBy w' (some s)):ChAt w' B0 c:=⟨⟨h.1.1,h.1.2.grownGe h.2 hs hg⟩,h.2⟩
theorem ChAt.next {w w':World} {B0:Nat} {c:Ch} (h:ChAt w B0 c) (hb:Below w.heap.size w w'):ChAt w' B0 c:=⟨h.1.next hb,h.2⟩
theorem ChAt.mono {w:World} {B0 B1:Nat} {c:Ch} (h:ChAt w B0 c) (hb:B1≤B0):ChAt w B1 c:=⟨h.1,h.2.mono hb⟩
theorem rowF_at {w:World} {B0 g O:Nat} (l:List Ch) (h:∀ c ∈ l,ChAt w B0 c) (hc:∀ j u,(rowC l)[j]?=some u→w.cell? ⟨g,O+j,none⟩=some u) (hg:B0≤g):FoAt w (rowF l) g O∧FoGe B0 (rowF l) g:=by
 induction l generalizing O with
 | nil=>exact ⟨trivial,trivial⟩
 | cons c l ih =>
   obtain ⟨h1,h2⟩:=h c (by simp)
   obtain ⟨r1,r2⟩:=ih (O:=O+4) (fun d hd=>h d (by simp [hd])) (fun j u hu=>by
    have:=hc (4+j) u (by unfold rowC;rw [List.flatMap_cons,List.getElem?_append_right (by simp [chC])];simpa [chC,rowC] using hu)
    rw [← Nat.add_assoc] at this
    exact this)
   exact ⟨⟨⟨hc 0 _ rfl,hc 1 _ rfl,hc 2 _ rfl,hc 3 _ rfl⟩,h1.1,h1.2,r1⟩,hg,h2,r2⟩
theorem row_new {w:World} {B0:Nat} (l:List Ch) (h:∀ c ∈ l,ChAt w B0 c) (hs:B0≤w.heap.size) (e:TypeId) (cells:Array Value) (hcells:cells=(rowC l).toArray):FoAt (w.alloc (.cells cells e)) (rowF l) w.heap.size 0∧FoGe B0 (rowF l) w.heap.size:=by
 subst hcells
 refine rowF_at l (fun c hc=>(h c hc).next ((Below.refl _ _).alloc (Nat.le_refl _) _)) (fun j u hu=>?_) hs
 rw [World.cell?_alloc_new,Nat.zero_add]
 show (rowC l).toArray[j]?=some u
 rw [List.getElem?_toArray];exact hu
theorem results_cell1 {fn:Func} {p:Tmp} {ty:TypeId} (h:fn.results=#[.cell p ty]) (tmps:Array Value) (P:Program) (w:World) :
 (results fn tmps).run P w=((asAddr (tmps.getD p undef)).run P w).andThen fun a w₁=>(loadVar ty a).run P w₁:=by
 simp only [results,h]
 simp [Sem.run_bind,Result.andThen]
end
end Go.Proofs.YtcejjdmnlejbaaaGreatDoor
namespace Go.Proofs.YtcejjdmnlejbaaaGreatDoor.Txt
set_option linter.unusedVariables false
set_option linter.unusedSimpArgs false
open Go
def isD (c:UInt8):Bool:=decide (48≤c.toNat∧c.toNat≤57)
def dv (c:UInt8):Int:=(c.toNat:Int) - 48
def num (l:List UInt8):Int:=l.foldl (fun n c=>10 * n+dv c) 0
def allD (l:List UInt8):Bool:=l.all isD
theorem num_snoc (l:List UInt8) (c:UInt8):num (l++[c])=10 * num l+dv c:=by simp [num]
theorem allD_snoc (l:List UInt8) (c:UInt8):allD (l++[c])=(allD l && isD c):=by simp [allD]
theorem isD_iff (c:UInt8):isD c=true↔48≤c.toNat∧c.toNat≤57:=by simp [isD]
theorem isD_no (c:UInt8):isD c=false↔¬ (48≤c.toNat∧c.toNat≤57):=by simp [isD]
theorem snoc_ind {P:List UInt8→Prop} (h0:P []) (h1:∀ l c,P l→P (l++[c])):∀ l,P l:=by
 intro l
 rw [← List.reverse_reverse l]
 induction l.reverse with
 | nil=>exact h0
 | cons c t ih=>rw [List.reverse_cons];exact h1 _ _ ih
theorem num_bd (l:List UInt8) (h:allD l=true):0≤num l∧num l < (10 ^ l.length:Nat):=by
 induction l using snoc_ind with
 | h0=>simp [num]
 | h1 l c ih =>
   rw [allD_snoc,Bool.and_eq_true] at h
   have hc:=(isD_iff c).1 h.2
   have:=ih h.1
   rw [num_snoc,List.length_append]
   simp only [List.length_cons,List.length_nil,Nat.zero_add,Nat.pow_succ,dv]
   generalize 10 ^ l.length=k at *
   omega
def fitB (c p:UInt8):Bool:=if p=48 then isD c else c==p
def fits:List UInt8→List UInt8→Bool
 | [],[]=>true
 | c :: s,p :: q=>fitB c p && fits s q
 | _,_=>false
theorem fits_len:∀ (s p:List UInt8),fits s p=true→s.length=p.length
 | [],[],_=>rfl
 | c :: s,p :: q,h=>by simp [fits] at h;simp [fits_len s q h.2]
 | [],_ :: _,h=>by simp [fits] at h
 | _ :: _,[],h=>by simp [fits] at h
theorem fits_take (s p:List UInt8) (hl:s.length=p.length) (k:Nat) (hk:k < s.length) :
 fits (s.take (k+1)) (p.take (k+1))=(fits (s.take k) (p.take k) && fitB (s.getD k 0) (p.getD k 0)):=by
 induction s generalizing p k with
 | nil=>simp at hk
 | cons c s ih =>
   cases p with
   | nil=>simp at hl
   | cons q p =>
     cases k with
     | zero=>simp [fits]
     | succ k =>
       have:=ih p (by simpa using hl) k (by simpa using hk)
       simp only [List.take_succ_cons,fits,this,List.getD_cons_succ,Bool.and_assoc]
theorem fits_all (s p:List UInt8) (hl:s.length=p.length):fits s p=true↔∀ k,k < s.length→fitB (s.getD k 0) (p.getD k 0)=true:=by
 induction s generalizing p with
 | nil=>cases p with
   | nil=>simp [fits]
   | cons q p=>simp at hl
 | cons c s ih =>
   cases p with
   | nil=>simp at hl
   | cons q p =>
     rw [fits,Bool.and_eq_true,ih p (by simpa using hl)]
     constructor
     · rintro ⟨h0,h1⟩ k hk
       cases k with
       | zero=>simpa using h0
       | succ k=>simpa using h1 k (by simpa using hk)
     · intro h
       exact ⟨by simpa using h 0 (by simp),fun k hk=>by simpa using h (k+1) (by simpa using hk)⟩
def pad (n:Nat) (k:Nat):List UInt8:=List.replicate (k - (Lib.decDigits n).length) 48++Lib.decDigits n
theorem repeatL_one (k:Nat):Lib.repeatL [48] k=List.replicate k 48:=by
 induction k with
 | zero=>rfl
 | succ k ih=>simp [Lib.repeatL,ih,List.replicate_succ]
theorem pad_len (n k:Nat) (h:(Lib.decDigits n).length≤k):(pad n k).length=k:=by simp [pad];omega
theorem toNat_digit (d:Nat) (h:d < 10):(UInt8.ofNat (48+d)).toNat=48+d:=by
 have:d=0∨d=1∨d=2∨d=3∨d=4∨d=5∨d=6∨d=7∨d=8∨d=9:=by omega
 rcases this with rfl|rfl|rfl|rfl|rfl|rfl|rfl|rfl|rfl|rfl<;>rfl
theorem dec_allD (n:Nat):allD (Lib.decDigits n)=true:=by
 induction n using Nat.strongRecOn with
 | ind n ih =>
   rw [Lib.decDigits]
   split
   · rename_i h;simp [allD,isD,toNat_digit n h];omega
   · rename_i h
     rw [allD_snoc,ih (n / 10) (by omega)]
     simp [isD,toNat_digit (n % 10) (by omega)];omega
theorem dec_num (n:Nat):num (Lib.decDigits n)=n:=by
 induction n using Nat.strongRecOn with
 | ind n ih =>
   rw [Lib.decDigits]
   split
   · rename_i h;simp only [num,dv,List.foldl_cons,List.foldl_nil,toNat_digit n h];omega
   · rename_i h
     rw [num_snoc,ih (n / 10) (by omega)]
     simp only [dv,toNat_digit (n % 10) (by omega)]
     omega
theorem num_zeros (k:Nat) (l:List UInt8):num (List.replicate k 48++l)=num l:=by
 induction k with
 | zero=>simp
 | succ k ih =>
   have:num (48 :: (List.replicate k 48++l))=num (List.replicate k 48++l):=by simp [num,dv]
   rw [List.replicate_succ,List.cons_append,this,ih]
theorem pad_num (n k:Nat):num (pad n k)=n:=by rw [pad,num_zeros,dec_num]
theorem pad_allD (n k:Nat):allD (pad n k)=true:=by
 rw [pad,allD,List.all_append,Bool.and_eq_true]
 exact ⟨by simp [isD],dec_allD n⟩
theorem dec_len_le (n k:Nat) (hk:1≤k) (h:n < 10 ^ k):(Lib.decDigits n).length≤k:=by
 induction k generalizing n with
 | zero=>omega
 | succ k ih =>
   rw [Lib.decDigits]
   split
   · simp
   · rename_i h10
     have hk1:1≤k:=by
      cases k with
      | zero=>simp at h;omega
      | succ k=>omega
     have:=ih (n / 10) hk1 (by rw [Nat.pow_succ] at h;omega)
     rw [List.length_append];simp;omega
theorem num_cons (c:UInt8) (l:List UInt8):num (c :: l)=dv c * (10 ^ l.length:Nat)+num l:=by
 induction l using snoc_ind with
 | h0=>simp [num]
 | h1 l d ih =>
   rw [← List.cons_append,num_snoc,ih,num_snoc,List.length_append]
   simp only [List.length_cons,List.length_nil,Nat.zero_add,Nat.pow_succ,Int.natCast_mul]
   generalize ((10 ^ l.length:Nat):Int)=k
   have:dv c * (k * (10:Nat))=10 * (dv c * k):=by
    rw [show ((10:Nat):Int)=10 from rfl,← Int.mul_assoc,Int.mul_comm]
   rw [this];omega
end Go.Proofs.YtcejjdmnlejbaaaGreatDoor.Txt
