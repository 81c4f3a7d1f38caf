import Derived.Test.YtljdcpobomfnpaaGreatGa
import Derived.WalkKit
import Derived.Lib.ItoaNum
import Derived.Lib.Repeat
import Derived.Lib.Bytealg
import Derived.Lib.Strings
import Derived.Test.YtljdcpobomfnpaaGreatShelf
import Derived.Lib.QuietBelow
import Derived.WalkSmall
import Derived.PlainAid
import Derived.StillTailTactics
import Derived.ProofKit
import Derived.OpenShut
import Derived.WalkSpells
import Derived.WalkLawsBesides
import Derived.Outline
import Derived.LoopTactic
import Derived.Deep.QuietTactic
import Derived.BigQuiet
import Derived.Lib.Hide
import Derived.Deep.RegionHeld3
import Derived.Deep.RegionWith
import Derived.Deep.DeepCutAuto
import Derived.Deep.CutBlock
import Derived.Deep.DeepMust
import Derived.Deep.DeepFit
namespace Go.Proofs.YtljdcpobomfnpaaGreat
section
set_option linter.unusedVariables false
set_option linter.unusedSimpArgs false
open Go.ChangeShapes Go.WideShapes Go.ChangeAt Go.RowKit
open Go.Deep (BT)
structure Ch where
 b:Nat
 o:Nat
 a:Nd
 k:Fo
def rowF:List Ch→Fo
 | []=>.nil
 | c :: r=>.node c.b c.o c.a c.k (rowF r)
def chC (c:Ch):List Value:=[.int .i64 c.a.op,.int .i64 c.a.num,.string c.a.name,.slice c.a.ptr (len c.k) c.a.cap]
def rowC (l:List Ch):List Value:=l.flatMap chC
theorem rowF_len (l:List Ch):len (rowF l)=l.length:=by
 induction l with
 | nil=>rfl
 | cons c l ih=>simp [rowF,len,ih]
def FoGe (B0:Nat):Fo→Nat→Prop
 | .nil,_=>True
 | .node b _ _ k r,B=>B0≤B∧FoGe B0 k b∧FoGe B0 r B
theorem FoGe.mono {B0 B1:Nat} {T:Fo} {B:Nat} (h:FoGe B0 T B) (hb:B1≤B0):FoGe B1 T B:=by
 induction T generalizing B with
 | nil=>trivial
 | node b o a k r ihk ihr=>exact ⟨Nat.le_trans hb h.1,ihk h.2.1,ihr h.2.2⟩
theorem FoAt.grownGe {w w':World} {s B0:Nat} {T:Fo} {B O:Nat} (h:FoAt w T B O) (hn:FoGe B0 T B) (hs:s < B0) (hg:w.grownBy w' (some s)):FoAt w' T B O:=by
 induction T generalizing B O with
 | nil=>trivial
 | node b o a k r ihk ihr =>
   obtain ⟨⟨h0,h1,h2,h3⟩,hp,hk,hr⟩:=h
   obtain ⟨n0,nk,nr⟩:=hn
   have key:∀ (i:Nat) (u:Value),w.cell? ⟨B,i,none⟩=some u→w'.cell? ⟨B,i,none⟩=some u:=fun i u q=>by
    rw [World.cell?_of_block (hg.block B (block_lt_of_cell q) (fun e=>by have:=Option.some.inj e;omega))];exact q
   exact ⟨⟨key _ _ h0,key _ _ h1,key _ _ h2,key _ _ h3⟩,hp,ihk hk nk,ihr hr nr⟩
def ChAt (w:World) (B0:Nat) (c:Ch):Prop:=ExAt w c.b c.o c.a c.k∧FoGe B0 c.k c.b
theorem ChAt.grown {w w':World} {s B0:Nat} {c:Ch} (h:ChAt w B0 c) (hs:s < B0) (hg:w.grownBy w' (some s)):ChAt w' B0 c:=⟨⟨h.1.1,h.1.2.grownGe h.2 hs hg⟩,h.2⟩
theorem ChAt.next {w w':World} {B0:Nat} {c:Ch} (h:ChAt w B0 c) (hb:Below w.heap.size w w'):ChAt w' B0 c:=⟨h.1.next hb,h.2⟩
theorem ChAt.mono {w:World} {B0 B1:Nat} {c:Ch} (h:ChAt w B0 c) (hb:B1≤B0):ChAt w B1 c:=⟨h.1,h.2.mono hb⟩
theorem rowF_at {w:World} {B0 g O:Nat} (l:List Ch) (h:∀ c ∈ l,ChAt w B0 c) (hc:∀ j u,(rowC l)[j]?=some u→w.cell? ⟨g,O+j,none⟩=some u) (hg:B0≤g):FoAt w (rowF l) g O∧FoGe B0 (rowF l) g:=by
 induction l generalizing O with
 | nil=>exact ⟨trivial,trivial⟩
 | cons c l ih =>
   obtain ⟨h1,h2⟩:=h c (by simp)
   obtain ⟨r1,r2⟩:=ih (O:=O+4) (fun d hd=>h d (by simp [hd])) (fun j u hu=>by
    have:=hc (4+j) u (by unfold rowC;rw [List.flatMap_cons,List.getElem?_append_right (by simp [chC])];simpa [chC,rowC] using hu)
    rw [← Nat.add_assoc] at this
    exact this)
   exact ⟨⟨⟨hc 0 _ rfl,hc 1 _ rfl,hc 2 _ rfl,hc 3 _ rfl⟩,h1.1,h1.2,r1⟩,hg,h2,r2⟩
theorem row_new {w:World} {B0:Nat} (l:List Ch) (h:∀ c ∈ l,ChAt w B0 c) (hs:B0≤w.heap.size) (e:TypeId) (cells:Array Value) (hcells:cells=(rowC l).toArray):FoAt (w.alloc (.cells cells e)) (rowF l) w.heap.size 0∧FoGe B0 (rowF l) w.heap.size:=by
 subst hcells
 refine rowF_at l (fun c hc=>(h c hc).next ((Below.refl _ _).alloc (Nat.le_refl _) _)) (fun j u hu=>?_) hs
 rw [World.cell?_alloc_new,Nat.zero_add]
 show (rowC l).toArray[j]?=some u
 rw [List.getElem?_toArray];exact hu
theorem results_cell1 {fn:Func} {p:Tmp} {ty:TypeId} (h:fn.results=#[.cell p ty]) (tmps:Array Value) (P:Program) (w:World) :
 (results fn tmps).run P w=((asAddr (tmps.getD p undef)).run P w).andThen fun a w₁=>(loadVar ty a).run P w₁:=by
 simp only [results,h]
 simp [Sem.run_bind,Result.andThen]
end
end Go.Proofs.YtljdcpobomfnpaaGreat
namespace Go.Proofs.YtljdcpobomfnpaaGreat.Txt
set_option linter.unusedVariables false
set_option linter.unusedSimpArgs false
open Go
def isD (c:UInt8):Bool:=decide (48≤c.toNat∧c.toNat≤57)
def dv (c:UInt8):Int:=(c.toNat:Int) - 48
def num (l:List UInt8):Int:=l.foldl (fun n c=>10 * n+dv c) 0
def allD (l:List UInt8):Bool:=l.all isD
theorem num_snoc (l:List UInt8) (c:UInt8):num (l++[c])=10 * num l+dv c:=by simp [num]
theorem allD_snoc (l:List UInt8) (c:UInt8):allD (l++[c])=(allD l && isD c):=by simp [allD]
theorem isD_iff (c:UInt8):isD c=true↔48≤c.toNat∧c.toNat≤57:=by simp [isD]
theorem snoc_ind {P:List UInt8→Prop} (h0:P []) (h1:∀ l c,P l→P (l++[c])):∀ l,P l:=by
 intro l
 rw [← List.reverse_reverse l]
 induction l.reverse with
 | nil=>exact h0
 | cons c t ih=>rw [List.reverse_cons];exact h1 _ _ ih
theorem num_bd (l:List UInt8) (h:allD l=true):0≤num l∧num l < (10 ^ l.length:Nat):=by
 induction l using snoc_ind with
 | h0=>simp [num]
 | h1 l c ih =>
   rw [allD_snoc,Bool.and_eq_true] at h
   have hc:=(isD_iff c).1 h.2
   have:=ih h.1
   rw [num_snoc,List.length_append]
   simp only [List.length_cons,List.length_nil,Nat.zero_add,Nat.pow_succ,dv]
   generalize 10 ^ l.length=k at *
   omega
def fitB (c p:UInt8):Bool:=if p=48 then isD c else c==p
def fits:List UInt8→List UInt8→Bool
 | [],[]=>true
 | c :: s,p :: q=>fitB c p && fits s q
 | _,_=>false
theorem fits_len:∀ (s p:List UInt8),fits s p=true→s.length=p.length
 | [],[],_=>rfl
 | c :: s,p :: q,h=>by simp [fits] at h;simp [fits_len s q h.2]
 | [],_ :: _,h=>by simp [fits] at h
 | _ :: _,[],h=>by simp [fits] at h
end Go.Proofs.YtljdcpobomfnpaaGreat.Txt
namespace Go.Proofs.YtljdcpobomfnpaaGreat.Txt
set_option linter.unusedVariables false
set_option linter.unusedSimpArgs false
open Go
theorem ix_ge (l:List UInt8) (c:UInt8) : -1≤Lib.indexByte l c:=by
 induction l with
 | nil=>simp [Lib.indexByte]
 | cons d l ih =>
   rw [Lib.indexByte]
   split
   · omega
   · split<;>omega
theorem ix_none (l:List UInt8) (c:UInt8):Lib.indexByte l c = -1↔∀ x ∈ l,x≠c:=by
 induction l with
 | nil=>simp [Lib.indexByte]
 | cons b l ih =>
   rw [Lib.indexByte]
   by_cases h:b=c
   · subst h;simp
   · have h':(b==c)=false:=by simp [h]
     rw [h']
     simp only [Bool.false_eq_true,if_false]
     have hge:=ix_ge l c
     split
     · rename_i q;simp at q;simp [h];exact ih.1 q
     · rename_i q
       simp at q
       constructor
       · intro e;omega
       · intro e;exact absurd (ih.2 fun x hx=>e x (by simp [hx])) q
theorem ix_some (l:List UInt8) (c:UInt8) (k:Nat):Lib.indexByte l c=k↔(∃ r,l=l.take k++c :: r)∧k < l.length∧∀ x ∈ l.take k,x≠c:=by
 induction l generalizing k with
 | nil=>simp [Lib.indexByte]
 | cons b l ih =>
   rw [Lib.indexByte]
   by_cases h:b=c
   · subst h
     simp only [beq_self_eq_true,if_true]
     constructor
     · intro e
       have:k=0:=by omega
       subst this;simp
     · rintro ⟨-,-,h3⟩
       cases k with
       | zero=>rfl
       | succ k=>exact absurd rfl (h3 b (by simp))
   · have h':(b==c)=false:=by simp [h]
     rw [h']
     simp only [Bool.false_eq_true,if_false]
     cases k with
     | zero =>
       constructor
       · intro e
         split at e
         · omega
         · rename_i q;simp at q
           have hge:=ix_ge l c
           have:Lib.indexByte l c ≠ -1:=q
           omega
       · rintro ⟨⟨r,hr⟩,-,-⟩
         simp at hr;exact absurd hr.1 h
     | succ k =>
       have:=ih k
       constructor
       · intro e
         have e':Lib.indexByte l c=k:=by split at e<;>omega
         obtain ⟨⟨r,hr⟩,h2,h3⟩:=this.1 e'
         refine ⟨⟨r,?_⟩,by simp;omega,?_⟩
         · rw [List.take_succ_cons,List.cons_append,← hr]
         · intro x hx;rw [List.take_succ_cons] at hx;rcases List.mem_cons.1 hx with rfl|hx
           · exact h
           · exact h3 x hx
       · rintro ⟨⟨r,hr⟩,h2,h3⟩
         have e':Lib.indexByte l c=k:=this.2 ⟨⟨r,by rw [List.take_succ_cons,List.cons_append] at hr;exact (List.cons.inj hr).2⟩,by simp at h2;omega,fun x hx=>h3 x (by rw [List.take_succ_cons];exact List.mem_cons_of_mem _ hx)⟩
         rw [e'];simp
def duR (l:List UInt8):List UInt8:=Lib.trimPrefix l [45]
def duNeg (l:List UInt8):Bool:=Lib.hasPrefix l [45]
def duK (l:List UInt8):Nat:=(duR l).length - 3
def duH (l:List UInt8):List UInt8:=(duR l).take (duK l)
def duM (l:List UInt8):List UInt8:=(duR l).drop (duK l+1)
def plainL (l:List UInt8):Bool:=decide (l.length=1) || (decide (1 < l.length) && !(l.getD 0 0==48))
def duB (l:List UInt8):Bool:=decide (4≤(duR l).length∧(duR l).length≤14∧(duR l).getD (duK l) 0=58∧allD (duH l)=true∧allD (duM l)=true∧plainL (duH l)=true∧¬ (duNeg l=true∧num (duH l)=0∧num (duM l)=0))
def duN (l:List UInt8):Int:=60 * num (duH l)+num (duM l)
def duE (l:List UInt8):Int:=if duB l=true then (if num (duM l)≤59∧duN l≤1099511627776 then 0 else 5) else 1
def duV (l:List UInt8):Int:=if duE l=0 then (if duNeg l=true then - duN l else duN l) else 0
theorem plain_iff (hh:List UInt8) (h:1≤hh.length):plainL hh=true↔¬ ((hh.getD 0 0).toNat=48∧1 < hh.length):=by
 cases hh with
 | nil=>simp at h
 | cons c t =>
   have hc:(c==48)=decide (c.toNat=48):=by
    rw [Bool.eq_iff_iff];simp only [beq_iff_eq,decide_eq_true_eq]
    exact ⟨fun q=>by rw [q];rfl,fun q=>UInt8.toNat_inj.1 q⟩
   unfold plainL
   rw [List.getD_cons_zero,hc,List.length_cons]
   by_cases q:c.toNat=48
   · simp only [q,decide_true,Bool.not_true,Bool.and_false,Bool.or_false,decide_eq_true_eq,true_and];omega
   · simp only [q,decide_false,Bool.not_false,Bool.and_true,Bool.or_eq_true,decide_eq_true_eq,false_and,not_false_eq_true,iff_true];omega
theorem dash_iff (l:List UInt8):duNeg l=true↔∃ t,l=45 :: t:=by
 unfold duNeg Lib.hasPrefix
 cases l with
 | nil=>simp
 | cons c l=>simp [List.isPrefixOf];exact eq_comm
theorem duR_neg (t:List UInt8):duR (45 :: t)=t:=by simp [duR,Lib.trimPrefix,Lib.hasPrefix,List.isPrefixOf]
theorem duR_pos (l:List UInt8) (h:duNeg l=false):duR l=l:=by unfold duR Lib.trimPrefix;rw [show Lib.hasPrefix l [45]=false from h];simp
theorem duR_len (l:List UInt8):(duR l).length≤l.length:=by
 unfold duR Lib.trimPrefix
 cases Lib.hasPrefix l [45]<;>simp
theorem ix_cases (l:List UInt8) (c:UInt8):Lib.indexByte l c = -1∨∃ k:Nat,Lib.indexByte l c=k∧k < l.length:=by
 have hge:=ix_ge l c
 by_cases h:Lib.indexByte l c = -1
 · exact .inl h
 · obtain ⟨k,hk⟩:=Int.eq_ofNat_of_zero_le (show 0≤Lib.indexByte l c by omega)
   exact .inr ⟨k,hk,((ix_some l c k).1 hk).2.1⟩
end Go.Proofs.YtljdcpobomfnpaaGreat.Txt
namespace Go.Proofs.YtljdcpobomfnpaaGreat
set_option linter.unusedVariables false
set_option linter.unusedSimpArgs false
open Go.ChangeShapes Go.WideShapes Go.ChangeAt Go.RowKit
theorem ret_intT {k:IntKind} {a b:Int} (h:a=b):Ending.returned (.int k a)=.returned (.int k b):=by rw [h]
theorem ret_boolT {a b:Bool} (h:a=b):Ending.returned (.bool a)=.returned (.bool b):=by rw [h]
theorem box_cell {w w1:World} {xs:Array Value} {T:TypeId} (hb:Below (w.alloc (.cells xs T)).heap.size (w.alloc (.cells xs T)) w1) (o:Nat):w1.cell? ⟨w.heap.size,o,none⟩=xs[o]?:=by
 rw [hb.cell (p:=⟨w.heap.size,o,none⟩) (by simp)];simp
theorem box_free {w w1:World} {xs:Array Value} {T:TypeId} (hb:Below (w.alloc (.cells xs T)).heap.size (w.alloc (.cells xs T)) w1) (o:Nat):w1.frozen? ⟨w.heap.size,o,none⟩=false:=by
 rw [hb.frozen (p:=⟨w.heap.size,o,none⟩) (by simp)];simp
theorem box_size {w w1:World} {o:Obj} (hb:Below (w.alloc o).heap.size (w.alloc o) w1):w.heap.size < w1.heap.size:=by have:=hb.size;simp at this;omega
theorem ba_self (s:ByteArray):(⟨s.data.toList.toArray⟩:ByteArray)=s:=by cases s;simp
end Go.Proofs.YtljdcpobomfnpaaGreat
namespace Go.Proofs.YtljdcpobomfnpaaGreat
set_option linter.unusedVariables false
set_option linter.unusedSimpArgs false
open Go.ChangeShapes Go.WideShapes Go.ChangeAt Go.RowKit
theorem take_snocT (s:ByteArray) (k:Nat) (h:k < s.size):s.data.toList.take (k+1)=s.data.toList.take k++[s[k]]:=by
 rw [List.take_succ_eq_append_getElem (by simpa using h)];rfl
theorem getD_atT (s:ByteArray) (k:Nat) (h:k < s.size):s.data.toList.getD k 0=s[k]:=by
 rw [List.getD_eq_getElem?_getD,List.getElem?_eq_getElem (by simpa using h)];rfl
theorem len_atT (s:ByteArray):s.data.toList.length=s.size:=Array.length_toList
def digV (l:List UInt8) (a b:Int):Int:=if a≤l.length∧l.length≤b∧Txt.allD l=true then Txt.num l else 0
def digB (l:List UInt8) (a b:Int):Bool:=decide (a≤l.length∧l.length≤b∧Txt.allD l=true)
set_option maxHeartbeats 400000 in
theorem isdigit_ref (c:Int) (w:World) :
 Calls Tryz.prog 87 #[.int .u8 c] w fun e w'=>e=.returned (.bool (decide (48≤c∧c≤57)))∧w=w':=by
 by_cases h1:48≤c
 · by_cases h2:c≤57
   · go_enter Tryz.func87,Tryz.ntmps87
     go_wp2
     go_ret
     exact ⟨ret_boolT (by simp [h1,h2]),rfl⟩
   · go_enter Tryz.func87,Tryz.ntmps87
     go_wp2
     go_ret
     exact ⟨ret_boolT (by simp;omega),rfl⟩
 · go_enter Tryz.func87,Tryz.ntmps87
   go_wp2
   go_ret
   exact ⟨ret_boolT (by simp;omega),rfl⟩
set_option maxHeartbeats 1000000 in
theorem digits_any (s:ByteArray) (a b:Int) (w:World) (hs:s.size≤9223372036854775807) (hb:b≤13) :
 Calls Tryz.prog 76 #[.string s,.int .i64 a,.int .i64 b] w fun e w'=>e=.returned (.tuple #[.int .i64 (digV s.data.toList a b),.bool (digB s.data.toList a b)])∧w=w':=by
 by_cases hab:a≤(s.size:Int)∧(s.size:Int)≤b
 · obtain ⟨h1, h2⟩:=hab
   have hs11:s.size≤13:=by omega
   go_enter Tryz.func76,Tryz.ntmps76
   go_wp2_with fail
   go_loop [8,9] (fun n i=>∃ k:Nat,∃ m:Int,k≤s.size∧i=.int .i64 k∧n=.int .i64 m∧0≤m∧m≤10000000000000∧Hid (m=Txt.num (s.data.toList.take k)∧Txt.allD (s.data.toList.take k)=true)) (fun _ i=>s.size - (intOf i).toNat)
   case atStart=>exact ⟨0,0,by omega,rfl,rfl,by omega,by omega,rfl,rfl⟩
   case round =>
    obtain ⟨k,m,hk,rfl,rfl,hm0,hm1,HM⟩:=hrel
    by_cases hlt:k < s.size
    · have HN:Hid (Txt.num (s.data.toList.take (k+1))=10 * Txt.num (s.data.toList.take k)+((s[k].toNat:Int) - 48)):=by unfold Hid;rw [take_snocT s k hlt,Txt.num_snoc];rfl
      have HA:Hid (Txt.allD (s.data.toList.take (k+1))=Txt.isD s[k]):=by unfold Hid;rw [take_snocT s k hlt,Txt.allD_snoc,HM.out.2,Bool.true_and]
      have hi1:(k:Int) < (s.size:Int):=by omega
      by_cases hd:48≤s[k].toNat∧s[k].toNat≤57
      · have hdB:decide (48≤(s[k].toNat:Int)∧(s[k].toNat:Int)≤57)=true:=by simp;omega
        have HD:=Lib.hid hd
        obtain ⟨hd1,hd2⟩:=hd
        go_wp2_with (go_at_call 87;refine (isdigit_ref _ _).mono ?_;rw [hdB];rintro e w' ⟨rfl,rfl⟩)
        go_round
        case rel =>
         have hA:Txt.allD (s.data.toList.take (k+1))=true:=by rw [HA.out,Txt.isD_iff];exact HD.out
         have hbd:=Txt.num_bd _ hA
         have hpw:(10 ^ (s.data.toList.take (k+1)).length:Nat)≤10 ^ 13:=Nat.pow_le_pow_right (by omega) (by simp;omega)
         have e:10 * m+((s[k].toNat:Int) - 48)=Txt.num (s.data.toList.take (k+1)):=by rw [HN.out,HM.out.1]
         exact ⟨k+1,10 * m+((s[k].toNat:Int) - 48),by omega,by go_num,rfl,by omega,by rw [e];omega,e,hA⟩
        case measure=>simp [intOf];omega
      · have hdB:decide (48≤(s[k].toNat:Int)∧(s[k].toNat:Int)≤57)=false:=by simp;omega
        have hF:Hid (Txt.allD s.data.toList=false):=by
         cases hq:Txt.allD s.data.toList
         · rfl
         · have hc:Txt.isD s[k]=true:=List.all_eq_true.1 hq s[k] (by rw [show s[k]=s.data.toList[k]'(by rw [len_atT];exact hlt) from rfl];exact List.getElem_mem _)
           rw [Txt.isD_iff] at hc;exact absurd hc hd
        clear hd
        go_wp2_with (go_at_call 87;refine (isdigit_ref _ _).mono ?_;rw [hdB];rintro e w' ⟨rfl,rfl⟩)
        go_ret2
        refine ⟨?_,rfl⟩
        have e1:digV s.data.toList a b=0:=by unfold digV;rw [if_neg (by rw [hF.out];simp)]
        have e2:digB s.data.toList a b=false:=by unfold digB;rw [hF.out];simp
        rw [e1,e2];rfl
    · go_wp2
      go_ret2
      refine ⟨?_,rfl⟩
      obtain ⟨rfl,hA⟩:=HM.out
      rw [List.take_of_length_le (by rw [len_atT];omega)] at hA ⊢
      have hl:(s.data.toList.length:Int)=s.size:=by rw [len_atT]
      have e1:digV s.data.toList a b=Txt.num s.data.toList:=by unfold digV;rw [if_pos ⟨by omega,by omega,hA⟩]
      have e2:digB s.data.toList a b=true:=by unfold digB;rw [hA];simp;omega
      rw [e1,e2];rfl
 · have e1:Hid (digV s.data.toList a b=0):=by unfold Hid digV;rw [len_atT];exact if_neg (fun h=>hab ⟨h.1,h.2.1⟩)
   have e2:Hid (digB s.data.toList a b=false):=by unfold Hid digB;rw [len_atT];exact decide_eq_false (fun h=>hab ⟨h.1,h.2.1⟩)
   by_cases h1:a≤(s.size:Int)
   · have h2:¬ (s.size:Int)≤b:=fun h=>hab ⟨h1,h⟩
     clear hab
     go_enter Tryz.func76,Tryz.ntmps76
     go_wp2
     go_ret2
     exact ⟨by rw [e1.out,e2.out];rfl,rfl⟩
   · clear hab
     go_enter Tryz.func76,Tryz.ntmps76
     go_wp2
     go_ret2
     exact ⟨by rw [e1.out,e2.out];rfl,rfl⟩
end Go.Proofs.YtljdcpobomfnpaaGreat
namespace Go.Proofs.YtljdcpobomfnpaaGreat
set_option linter.unusedVariables false
set_option linter.unusedSimpArgs false
open Go.ChangeShapes Go.WideShapes Go.ChangeAt Go.RowKit
theorem list5 (l:List UInt8) (h:l.length=5):∃ a b c d e,l=[a,b,c,d,e]:=by
 match l,h with
 | [a,b,c,d,e],_=>exact ⟨a,b,c,d,e,rfl⟩
theorem ext_list (s:ByteArray) (a b:Nat):(s.extract a b).data.toList=(s.data.toList.take b).drop a:=by
 rw [ByteArray.data_extract];simp [List.extract_eq_take_drop,List.take_drop]
 by_cases h:a≤b
 · rw [show a+(b - a)=b from by omega]
 · rw [List.drop_eq_nil_of_le (by simp;omega),List.drop_eq_nil_of_le (by simp;omega)]
def numBT (s:ByteArray):Int:=Txt.num s.data.toList
def allB (s:ByteArray):Bool:=Txt.allD s.data.toList
theorem numB_bd (s:ByteArray) (k:Nat) (hs:s.size≤k) (hd:allB s=true):0≤numBT s∧numBT s < (10 ^ k:Nat):=by
 have h:=Txt.num_bd _ hd
 rw [len_atT] at h
 have:10 ^ s.size≤10 ^ k:=Nat.pow_le_pow_right (by omega) hs
 exact ⟨h.1,by unfold numBT;omega⟩
def dgV (s:ByteArray) (a b:Int):Int:=digV s.data.toList a b
def dgB (s:ByteArray) (a b:Int):Bool:=digB s.data.toList a b
theorem digits_same (s:ByteArray) (a b:Int) (w:World) (hs:s.size≤9223372036854775807) (hb:b≤13) :
 Calls Tryz.prog 76 #[.string s,.int .i64 a,.int .i64 b] w fun e w'=>e=.returned (.tuple #[.int .i64 (dgV s a b),.bool (dgB s a b)])∧w=w':=digits_any s a b w hs hb
theorem dg_exact (s:ByteArray) (k:Nat) (h:s.size=k):dgB s k k=allB s∧(allB s=true→dgV s k k=numBT s):=by
 unfold dgB dgV digB digV allB numBT
 rw [len_atT,h]
 cases Txt.allD s.data.toList<;>simp
end Go.Proofs.YtljdcpobomfnpaaGreat
namespace Go.Proofs.YtljdcpobomfnpaaGreat
set_option linter.unusedVariables false
set_option linter.unusedSimpArgs false
open Go.ChangeShapes Go.WideShapes Go.ChangeAt Go.RowKit
def pat5:List UInt8:=[48,48,58,48,48]
theorem fits5 (l:List UInt8):Txt.fits l pat5=true↔(l.length=5∧l.getD 2 0=58∧Txt.allD ((l.take 2).drop 0)=true∧Txt.allD ((l.take l.length).drop 3)=true):=by
 constructor
 · intro h
   have hl:=Txt.fits_len _ _ h
   obtain ⟨a,b,c,d,e,rfl⟩:=list5 l hl
   simp [pat5,Txt.fits,Txt.fitB,Txt.allD] at h ⊢
   exact ⟨h.2.2.1,⟨h.1,h.2.1⟩,h.2.2.2⟩
 · rintro ⟨hl,h⟩
   obtain ⟨a,b,c,d,e,rfl⟩:=list5 l hl
   simp [pat5,Txt.fits,Txt.fitB,Txt.allD] at h ⊢
   obtain ⟨h1,⟨h2,h3⟩,h4,h5⟩:=h
   exact ⟨h2,h3,h1,h4,h5⟩
theorem getD_58 (s:ByteArray) (k:Nat) (h:k < s.size):s.data.toList.getD k 0=58↔s[k].toNat=58:=by
 rw [getD_atT s k h]
 exact ⟨fun e=>by rw [e];rfl,fun e=>UInt8.toNat_inj.1 e⟩
def pcH (s:ByteArray):Int:=numBT (s.extract 0 2)
def pcM (s:ByteArray):Int:=numBT (s.extract 3 s.size)
def pcB (s:ByteArray):Bool:=decide (pcH s≤23∧pcM s≤59)
def pcE (s:ByteArray):Int:=if Txt.fits s.data.toList pat5=true then (if pcB s=true then 0 else 5) else 1
def pcV (s:ByteArray):Int:=if Txt.fits s.data.toList pat5=true then (if pcB s=true then 60 * pcH s+pcM s else 0) else 0
set_option maxHeartbeats 2000000 in
theorem pclock_ref_syntax (s:ByteArray) (w:World) (hs:s.size≤9223372036854775807) (h:Txt.fits s.data.toList pat5=false) :
 Calls Tryz.prog 74 #[.string s] w fun e w'=>e=.returned (.tuple #[.int .i64 0,.int .i64 1])∧w=w':=by
 have hn:¬ (s.data.toList.length=5∧s.data.toList.getD 2 0=58∧Txt.allD ((s.data.toList.take 2).drop 0)=true∧Txt.allD ((s.data.toList.take s.data.toList.length).drop 3)=true):=by
  intro q;rw [(fits5 _).2 q] at h;cases h
 rw [len_atT] at hn
 clear h
 by_cases h5:s.size=5
 · have l2:2 < s.size:=by omega
   rw [getD_58 s 2 l2] at hn
   have n5:((s.size:Int) != 5)=false:=by rw [h5];rfl
   by_cases h2:s[2].toNat=58
   · have b2:((s[2].toNat:Int) != 58)=false:=by rw [h2];rfl
     have z1:(s.extract 0 2).size=2:=by rw [ByteArray.size_extract];omega
     have z2:(s.extract 3 s.size).size=2:=by rw [ByteArray.size_extract];omega
     have hn2:¬ (allB (s.extract 0 2)=true∧allB (s.extract 3 s.size)=true):=by
      unfold allB;rw [ext_list,ext_list];exact fun q=>hn ⟨h5,h2,q⟩
     rw [← (dg_exact _ 2 z1).1,← (dg_exact _ 2 z2).1] at hn2
     have Z:Hid ((s.extract 0 2).size=2∧(s.extract 3 s.size).size=2):=⟨z1,z2⟩
     clear z1 z2 hn h2
     have i2:2≤s.size:=by omega
     have i3:3≤s.size:=by omega
     have j2:(2:Int) < (s.size:Int):=by omega
     clear h5
     rcases h1:dgB (s.extract 0 2) 2 2 with _|_<;>rcases h3:dgB (s.extract 3 s.size) 2 2 with _|_
     all_goals simp [h1,h3] at hn2
     all_goals
      try clear hn2
      go_enter Tryz.func74,Tryz.ntmps74
      go_wp2_with (go_at_call 76;refine (digits_same _ _ _ _ (by first|(rw [Z.out.1];omega)|(rw [Z.out.2];omega)) (by omega)).mono ?_;rintro e w1 ⟨rfl,rfl⟩)
      go_ret2
      exact ⟨rfl,rfl⟩
   · have b2:((s[2].toNat:Int) != 58)=true:=by simp;omega
     clear hn h2 h5
     go_enter Tryz.func74,Tryz.ntmps74
     go_wp2
     go_ret2
     exact ⟨rfl,rfl⟩
 · have n5:((s.size:Int) != 5)=true:=by simp;omega
   clear hn h5
   go_enter Tryz.func74,Tryz.ntmps74
   go_wp2
   go_ret2
   exact ⟨rfl,rfl⟩
set_option maxHeartbeats 2000000 in
theorem pclock_ref_fits (s:ByteArray) (w:World) (h:Txt.fits s.data.toList pat5=true) :
 Calls Tryz.prog 74 #[.string s] w fun e w'=>e=.returned (.tuple #[.int .i64 (pcV s),.int .i64 (pcE s)])∧w=w':=by
 obtain ⟨hl,q2,h1,h2⟩:=(fits5 _).1 h
 rw [len_atT] at hl h2
 rw [← ext_list] at h1 h2
 have E:Hid (pcE s=if pcB s=true then 0 else 5):=by unfold Hid pcE;rw [if_pos h]
 have V:Hid (pcV s=if pcB s=true then 60 * pcH s+pcM s else 0):=by unfold Hid pcV;rw [if_pos h]
 have l2:2 < s.size:=by omega
 rw [getD_58 s 2 l2] at q2
 have n5:((s.size:Int) != 5)=false:=by rw [hl];rfl
 have b2:((s[2].toNat:Int) != 58)=false:=by rw [q2];rfl
 have z1:(s.extract 0 2).size=2:=by rw [ByteArray.size_extract];omega
 have z2:(s.extract 3 s.size).size=2:=by rw [ByteArray.size_extract];omega
 have m1:=numB_bd _ 2 (by omega) h1
 have m2:=numB_bd _ 2 (show (s.extract 3 s.size).size≤2 by omega) h2
 obtain ⟨g1,v1⟩:=dg_exact _ 2 z1
 obtain ⟨g2,v2⟩:=dg_exact _ 2 z2
 have d1:dgB (s.extract 0 2) 2 2=true:=g1.trans h1
 have d2:dgB (s.extract 3 s.size) 2 2=true:=g2.trans h2
 have N1:dgV (s.extract 0 2) 2 2=pcH s:=v1 h1
 have N2:dgV (s.extract 3 s.size) 2 2=pcM s:=v2 h2
 have Z:Hid ((s.extract 0 2).size=2∧(s.extract 3 s.size).size=2):=⟨z1,z2⟩
 have m3:0≤dgV (s.extract 0 2) 2 2:=by rw [N1];exact m1.1
 have m4:0≤dgV (s.extract 3 s.size) 2 2:=by rw [N2];exact m2.1
 have m5:dgV (s.extract 0 2) 2 2≤99:=by rw [N1];unfold pcH;omega
 have m6:dgV (s.extract 3 s.size) 2 2≤99:=by rw [N2];unfold pcM;omega
 have B:Hid (pcB s=decide (dgV (s.extract 0 2) 2 2≤23∧dgV (s.extract 3 s.size) 2 2≤59)):=by unfold Hid pcB;rw [N1,N2]
 have HN:=Lib.hid N1
 have HM:=Lib.hid N2
 have i2:2≤s.size:=by omega
 have i3:3≤s.size:=by omega
 have j2:(2:Int) < (s.size:Int):=by omega
 clear z1 z2 h1 h2 g1 g2 v1 v2 q2 h m1 m2 N1 N2 hl
 by_cases q1:dgV (s.extract 0 2) 2 2≤23
 · by_cases q2:dgV (s.extract 3 s.size) 2 2≤59
   · have hB:Hid (pcB s=true):=by unfold Hid;rw [B.out];simp [q1,q2]
     go_enter Tryz.func74,Tryz.ntmps74
     go_wp2_with (go_at_call 76;refine (digits_same _ _ _ _ (by first|(rw [Z.out.1];omega)|(rw [Z.out.2];omega)) (by omega)).mono ?_;rintro e w1 ⟨rfl,rfl⟩)
     go_ret2
     refine ⟨?_,rfl⟩
     rw [E.out,V.out,if_pos hB.out,if_pos hB.out,← HN.out,← HM.out];rfl
   · have hB:Hid (pcB s=false):=by unfold Hid;rw [B.out];simp;omega
     go_enter Tryz.func74,Tryz.ntmps74
     go_wp2_with (go_at_call 76;refine (digits_same _ _ _ _ (by first|(rw [Z.out.1];omega)|(rw [Z.out.2];omega)) (by omega)).mono ?_;rintro e w1 ⟨rfl,rfl⟩)
     go_ret2
     exact ⟨by rw [E.out,V.out,hB.out];rfl,rfl⟩
 · have hB:Hid (pcB s=false):=by unfold Hid;rw [B.out];simp;omega
   go_enter Tryz.func74,Tryz.ntmps74
   go_wp2_with (go_at_call 76;refine (digits_same _ _ _ _ (by first|(rw [Z.out.1];omega)|(rw [Z.out.2];omega)) (by omega)).mono ?_;rintro e w1 ⟨rfl,rfl⟩)
   go_ret2
   exact ⟨by rw [E.out,V.out,hB.out];rfl,rfl⟩
theorem pclock_ref_any (s:ByteArray) (w:World) (hs:s.size≤9223372036854775807) :
 Calls Tryz.prog 74 #[.string s] w fun e w'=>e=.returned (.tuple #[.int .i64 (pcV s),.int .i64 (pcE s)])∧w=w':=by
 cases h:Txt.fits s.data.toList pat5
 · have:=pclock_ref_syntax s w hs h
   simpa [pcV,pcE,h] using this
 · exact pclock_ref_fits s w h
end Go.Proofs.YtljdcpobomfnpaaGreat
