import Derived.Test.YtfoedbfkddoibaaGreatGg
import Derived.Test.YtfoedbfkddoibaaGreatGd
import Derived.Test.YtfoedbfkddoibaaGreatGh
import Derived.Deep.LoopGhost
namespace Go.Proofs.YtfoedbfkddoibaaGreat
section
set_option linter.unusedVariables false
set_option linter.unusedSimpArgs false
open Go.ChangeShapes Go.WideShapes Go.ChangeAt Go.RowKit
set_option maxHeartbeats 1000000 in
theorem attrs1 (w:World):Calls Tryz.prog 77 #[.int .i64 1] w fun e w'=>e=.returned (.slice (some ⟨w.heap.size,0,none⟩) 11 11)∧w'=w.alloc (.cells (strV Att.dutyL).toArray 9):=by
 go_enter Tryz.func77,Tryz.ntmps77
 go_wp2
 go_ret
 exact ⟨rfl,rfl⟩
def preL:List (List UInt8):=[Att.before,Att.after]
theorem pre_at (j:Nat) (h:j < 2):∃ P,preL[j]?=some P∧P.length≤7∧(Att.restL.take (3+11 * j)++Att.dutyL.map (P++·))=Att.restL.take (3+11 * (j+1))∧∃ X,Att.restL.take (3+11 * j)=Att.rest :: X:=by
 match j,h with
 | 0,_=>exact ⟨_,rfl,by decide,by decide,_,rfl⟩
 | 1,_=>exact ⟨_,rfl,by decide,by decide,_,rfl⟩
set_option maxHeartbeats 4000000 in
set_option maxRecDepth 100000 in
theorem attrs2 (w:World):Calls Tryz.prog 77 #[.int .i64 2] w (StrsPost Att.restL w):=by
 obtain ⟨i0,hi,hz0,hz1,hz2⟩:=info_parts Tryz.infoS
 go_enter Tryz.func77,Tryz.ntmps77
 go_wp2_with fail
 go_loopw [3,17] (fun v i wr=>∃ j:Nat,j≤2∧i=.int .i64 j∧w.heap.size+1 < wr.heap.size∧Hid (wr.ownsRow w.heap.size 9 1 v (3+11 * j) (strV (Att.restL.take (3+11 * j))) ∧
  (∀ q u,(strV preL)[q]?=some u→wr.cell? ⟨w.heap.size+1,q,none⟩=some u)∧Below w.heap.size w wr)) (fun _ i _=>2 - (intOf i).toNat)
 case atStart =>
  refine ⟨0,by omega,rfl,by simp,?_,?_,((Below.refl _ _).alloc (Nat.le_refl _) _).alloc (by simp) _⟩
  · exact (World.ownsRow_lit _ _ 3 (Nat.le_refl _) (by decide) rfl).alloc _
  · intro q u h;simp [go_sem];exact h
 case round =>
  obtain ⟨j,hj,rfl,hsz,HR⟩:=hrel
  by_cases hlt:j < 2
  · obtain ⟨P,hP,hPl,hPn,X,hX⟩:=pre_at j hlt
    have hc:wr.cell? ⟨w.heap.size+1,j,none⟩=some (.string ⟨P.toArray⟩):=HR.out.2.1 j _ (by simp [strV,hP])
    have PN:=Lib.hid hPn
    rw [hX] at HR PN
    have hi1:(j:Int) < 2:=by omega
    clear hP hPn hX
    go_wp2_with (go_at_call 77;refine (attrs1 _).mono ?_;rintro e w' ⟨rfl,rfl⟩)
    obtain ⟨wo,hwo⟩:∃ wo:World,wo=wr:=⟨_,rfl⟩
    rw [← hwo] at HR hsz hc
    rw [← hwo]
    clear hwo
    clear hc
    go_loopw [3,23] (fun v i wr=>∃ k:Nat,k≤11∧i=.int .i64 k∧w.heap.size+1 < wr.heap.size∧Hid (wr.ownsRow w.heap.size 9 1 v (3+11 * j+k) (strV (Att.rest :: (X++(Att.dutyL.map (P++·)).take k))) ∧
     (∀ q u,(strV Att.dutyL)[q]?=some u→wr.cell? ⟨wo.heap.size,q,none⟩=some u)∧(∀ q u,(strV preL)[q]?=some u→wr.cell? ⟨w.heap.size+1,q,none⟩=some u)∧Below w.heap.size w wr)) (fun _ i _=>11 - (intOf i).toNat)
    case atStart =>
     have hb:Below wo.heap.size wo (wo.alloc (.cells (strV Att.dutyL).toArray 9)):=(Below.refl _ _).alloc (Nat.le_refl _) _
     refine ⟨0,by omega,rfl,by have:=hb.size;omega,?_,?_,?_,HR.out.2.2.trans (hb.mono HR.out.2.2.size)⟩
     · simp only [List.take_zero,List.append_nil];exact HR.out.1.alloc _
     · intro q u h;rw [World.cell?_alloc_new];show (strV Att.dutyL).toArray[q]?=some u;rw [List.getElem?_toArray];exact h
     · intro q u h
       have:=HR.out.2.1 q u h
       rw [hb.cell (block_lt_of_cell this)];exact this
    case round =>
     clear HR hsz
     obtain ⟨k,hk,rfl,hsz,HR⟩:=hrel
     by_cases hlt2:k < 11
     · obtain ⟨l,hl1,hl2⟩:∃ l,Att.dutyL[k]?=some l∧l.length≤8:=duty_at k hlt2
       have hc:wr.cell? ⟨wo.heap.size,k,none⟩=some (.string ⟨l.toArray⟩):=HR.out.2.1 k _ (by simp [strV,hl1])
       have L1:=Lib.hid hl1
       clear hl1
       have hi2:(k:Int) < 11:=by omega
       have hb:¬ 9223372036854775807 < P.length+l.length:=by omega
       go_wp2_with (at_builtin;refine wpList_append_own _ rfl _ _ 35 rfl w.heap.size 9 i0 (.string ⟨#[]⟩) 1 16 Tryz.underlying35 hi hz0 hz1 hz2 rfl (by decide) _ _ _ rfl (HR.out.1.alloc _) ⟨wr.heap.size,0,none⟩ 1 1 [.string (⟨P.toArray⟩++⟨l.toArray⟩)] rfl rfl ?c1 ?c2 ?c3 ?c4 ?c5 ?_)
       case c1=>intro q u hu;cases q with
        | zero=>simp at hu;subst hu;simp [Addr.add]
        | succ q=>simp at hu
       case c2=>intro u hu;simp at hu;subst hu;rfl
       case c3=>unfold maxLen;omega
       case c4=>omega
       case c5=>simp;omega
       intro v' w1 hown hgrow hnil
       have hst:=row_step (p:=P) (x:=Att.rest) (y:=[108,101,103,115]) (gd:=wo.heap.size) (w:=w) (HR.out.2.1 0 _ rfl) (by decide) HR.out.1 HR.out.2.1 HR.out.2.2.2 hown hgrow
       have hst2:=row_step (p:=P) (x:=Att.rest) (y:=Att.before) (gd:=w.heap.size+1) (w:=w) (HR.out.2.2.1 0 _ rfl) (by decide) HR.out.1 HR.out.2.2.1 HR.out.2.2.2 hown hgrow
       have ST:=Lib.hid hst
       have ST2:=Lib.hid hst2.2.1
       have hz1:w.heap.size+1 < w1.heap.size:=by have:=hst.2.2.2;omega
       clear hst hst2 hown hgrow hnil hc
       go_wp2
       go_roundw
       case rel =>
        refine ⟨k+1,by omega,by go_num,hz1,?_,ST.out.2.1,ST2.out,ST.out.2.2.1⟩
        have:=ST.out.1
        have e:(Att.dutyL.map (P++·)).take (k+1)=(Att.dutyL.map (P++·)).take k++[P++l]:=by
         rw [List.take_add_one];simp [L1.out]
        rw [e,← List.append_assoc]
        exact this
       case measure=>simp [intOf];omega
     · have hj3:¬ (k:Int) < 11:=by omega
       have HR2:Hid (wr.ownsRow w.heap.size 9 1 u3 (3+11 * (j+1)) (strV (Att.restL.take (3+11 * (j+1))))∧(∀ q u,(strV preL)[q]?=some u→wr.cell? ⟨w.heap.size+1,q,none⟩=some u)∧Below w.heap.size w wr):=by
        obtain rfl:k=11:=by omega
        have h1:=HR.out.1
        have e:Att.rest :: (X++(Att.dutyL.map (P++·)).take 11)=Att.restL.take (3+11 * (j+1)):=PN.out
        rw [e] at h1
        exact ⟨h1,HR.out.2.2⟩
       clear HR
       go_wp2
       go_roundw
       case rel=>exact ⟨j+1,by omega,by go_num,hsz,HR2.out⟩
       case measure=>simp [intOf];omega
  · have hj2:¬ (j:Int) < 2:=by omega
    have HR2:Hid (wr.ownsRow w.heap.size 9 1 u3 25 (strV Att.restL)∧Below w.heap.size w wr):=by
     obtain rfl:j=2:=by omega
     exact ⟨HR.out.1,HR.out.2.2⟩
    go_wp2
    go_ret
    exact ⟨_,rfl,strs_of_own HR2.out.1 (by omega),HR2.out.2⟩
set_option maxHeartbeats 1000000 in
theorem attrs_any (sc:Int) (w:World):Calls Tryz.prog 77 #[.int .i64 sc] w (StrsPost (Att.listL sc) w):=by
 by_cases h1:sc=1
 · subst h1
   refine (attrs1 w).mono ?_
   rintro e w' ⟨rfl,rfl⟩
   refine ⟨_,rfl,.inr ⟨w.heap.size,11,rfl,fun i u hu=>?_⟩,(Below.refl _ _).alloc (Nat.le_refl _) _⟩
   rw [World.cell?_alloc_new];show (strV Att.dutyL).toArray[i]?=some u;rw [List.getElem?_toArray];exact hu
 · by_cases h2:sc=2
   · subst h2;exact attrs2 w
   · by_cases h3:sc=3
     · subst h3
       go_enter Tryz.func77,Tryz.ntmps77
       go_wp2
       go_ret
       refine ⟨_,rfl,.inr ⟨w.heap.size,7,rfl,fun i u hu=>?_⟩,(Below.refl _ _).alloc (Nat.le_refl _) _⟩
       rw [World.cell?_alloc_new]
       show (strV Att.pairL).toArray[i]?=some u
       rw [List.getElem?_toArray]
       exact hu
     · have b1:(sc==1)=false:=by simp [h1]
       have b2:(sc==2)=false:=by simp [h2]
       have b3:(sc==3)=false:=by simp [h3]
       have L:Hid (Att.listL sc=[]):=by unfold Hid Att.listL;rw [if_neg h1,if_neg h2,if_neg h3]
       clear h1 h2 h3
       go_enter Tryz.func77,Tryz.ntmps77
       go_wp2
       go_ret
       exact ⟨_,rfl,.inl ⟨L.out,rfl⟩,Below.refl _ _⟩
theorem strs_shape {w:World} {v:Value} {L:List (List UInt8)} (h:StrsAt w v L):∃ p cap,v=.slice p L.length cap∧∀ (i:Nat) l,L[i]?=some l→∃ g,p=some ⟨g,0,none⟩∧w.cell? ⟨g,i,none⟩=some (.string ⟨l.toArray⟩):=by
 rcases h with ⟨rfl,rfl⟩|⟨g,cap,rfl,hc⟩
 · exact ⟨none,0,rfl,fun i l h=>by simp at h⟩
 · exact ⟨_,cap,rfl,fun i l h=>⟨g,rfl,hc i _ (by simp [strV,h])⟩⟩
end
section
section
set_option linter.unusedVariables false
set_option linter.unusedSimpArgs false
open Go.ChangeShapes Go.WideShapes Go.ChangeAt Go.RowKit
open Go.Maps (has size IsMap)
def posN (L:List (List UInt8)):Nat→ByteArray→Option Nat
 | 0,_=>none
 | j+1,s=>if L[j]?=some s.data.toList then some j else posN L j s
def PlMap (P:Program) (w:World) (L:List (List UInt8)) (j b:Nat):Prop :=
 ∃ D:DataW Unit,w.ownsMap P 9 (plainElem P 3) b j D∧IsMap D∧∀ s:ByteArray,match posN L j s with
   | some i=>has D (strK s)=true∧D.atKey (strK s) (.lit (.int .i64 0))=.lit (.int .i64 i)
   | none=>has D (strK s)=false
theorem PlMap.kept {P:Program} {w w':World} {L:List (List UInt8)} {j b:Nat} {row:Option Nat} (h:PlMap P w L j b) (hg:w.grownBy w' row) (hne:some b≠row):PlMap P w' L j b:=by
 obtain ⟨D,h1,h2,h3⟩:=h
 exact ⟨D,h1.kept hg hne,h2,h3⟩
theorem PlMap.start (P:Program) (w:World) (L:List (List UInt8)):PlMap P (w.alloc (.map #[] 0)) L 0 w.heap.size :=
 ⟨.map [],World.ownsMap_made _ _ _ _,⟨[],rfl⟩,fun s=>rfl⟩
theorem PlMap.lt {P:Program} {w:World} {L:List (List UInt8)} {j b:Nat} (h:PlMap P w L j b):b < w.heap.size:=by
 obtain ⟨D,⟨es,clock,hb,-⟩,-⟩:=h
 exact (Array.getElem?_eq_some_iff.1 hb).1
theorem pl_put {w:World} {L:List (List UInt8)} {j b:Nat} {l:List UInt8} (h:PlMap Tryz.prog w L j b) (hl:L[j]?=some l) (hs:l.length≤1000) (hj:j < 1000) :
 ∃ w',(Instr.mapUpdate 113 (.map (some b)) (.string ⟨l.toArray⟩) (.int .i64 j)).run Tryz.prog w=.ok () w'∧PlMap Tryz.prog w' L (j+1) b∧w.grownBy w' (some b):=by
 obtain ⟨D,h1,h2,h3⟩:=h
 have hsz:(⟨l.toArray⟩:ByteArray).size≤maxLen:=by show l.toArray.size≤_;unfold maxLen;simp;omega
 obtain ⟨w',hrun,ho,hg⟩:=h1.update Tryz.keyS Tryz.underlying113 (by unfold maxLen;omega) (Go.WideMaps.keyOf_string_mk Tryz.underlying9 hsz) (plainElem_int Tryz.underlying3 (a:=(j:Int)) (WalkArith.wf_i64 (by omega)))
 refine ⟨w',hrun,⟨_,ho,h2.put _ _,fun s=>?_⟩,hg⟩
 have q:=h3 s
 show match (if L[j]?=some s.data.toList then some j else posN L j s) with|some i=>_|none=>_
 by_cases e:s=⟨l.toArray⟩
 · subst e
   rw [if_pos (by rw [hl])]
   exact ⟨Go.Maps.has_put_same h2 (by first|trivial|exact .inl ⟨_,rfl⟩|simp [WideAt.IsKeyLit,strK,intK]) _,Go.Maps.atKey_put_same h2 (by first|trivial|exact .inl ⟨_,rfl⟩|simp [WideAt.IsKeyLit,strK,intK]) _ _⟩
 · have hne:strK s≠strK ⟨l.toArray⟩:=strK_ne e
   rw [if_neg (fun q=>e (by rw [hl] at q;have:=Option.some.inj q;rw [this]))]
   cases f:posN L j s with
   | some i =>
     rw [f] at q
     exact ⟨(Go.Maps.has_put_other hne _).trans q.1,(Go.Maps.atKey_put_other hne _ _).trans q.2⟩
   | none =>
     rw [f] at q
     exact (Go.Maps.has_put_other hne _).trans q
def VMap (P:Program) (w:World) (f:Nat→Int) (N b:Nat):Prop :=
 ∃ (D:DataW Unit) (K:List Nat),w.ownsMap P 3 (plainElem P 3) b K.length D∧IsMap D∧K.Nodup∧(∀ i ∈ K,i < N)∧size D=K.length ∧
   (∀ i ∈ K,has D (intK i)=true∧D.atKey (intK i) (.lit (.int .i64 0))=.lit (.int .i64 (f i)))∧∀ i:Nat,i ∉ K→has D (intK i)=false
theorem VMap.kept {P:Program} {w w':World} {f:Nat→Int} {N b:Nat} {row:Option Nat} (h:VMap P w f N b) (hg:w.grownBy w' row) (hne:some b≠row):VMap P w' f N b:=by
 obtain ⟨D,K,h1,h2⟩:=h
 exact ⟨D,K,h1.kept hg hne,h2⟩
theorem VMap.start (P:Program) (w:World) (f:Nat→Int) (N:Nat):VMap P (w.alloc (.map #[] 0)) f N w.heap.size :=
 ⟨.map [],[],World.ownsMap_made _ _ _ _,⟨[],rfl⟩,List.nodup_nil,by simp,rfl,by simp,fun i _=>rfl⟩
theorem VMap.lt {P:Program} {w:World} {f:Nat→Int} {N b:Nat} (h:VMap P w f N b):b < w.heap.size:=by
 obtain ⟨D,K,⟨es,clock,hb,-⟩,-⟩:=h
 exact (Array.getElem?_eq_some_iff.1 hb).1
structure CmpS (P:Program) (w:World) (kb ib vb:Nat) (cs:List Cn) (j:Nat) (p:Option Addr) (cap:Nat) (f:Nat→Int):Prop where
 c0:w.cell? ⟨kb,0,none⟩=some (.slice p cs.length cap)
 c1:w.cell? ⟨kb,1,none⟩=some (.map (some ib))
 c2:w.cell? ⟨kb,2,none⟩=some (.map (some vb))
 ix:IxMap P w cs j ib
 vm:VMap P w f cs.length vb
 n1:kb≠ib
 n2:kb≠vb
 n3:ib≠vb
 lt:kb < w.heap.size
theorem CmpS.grown {P:Program} {w w':World} {kb ib vb:Nat} {cs:List Cn} {j:Nat} {p:Option Addr} {cap:Nat} {f:Nat→Int} {row:Option Nat} (h:CmpS P w kb ib vb cs j p cap f) (hg:w.grownBy w' row) (h1:some kb≠row) (h2:some ib≠row) (h3:some vb≠row):CmpS P w' kb ib vb cs j p cap f where
 c0:=by rw [World.cell?_of_block (hg.block kb h.lt h1)];exact h.c0
 c1:=by rw [World.cell?_of_block (hg.block kb h.lt h1)];exact h.c1
 c2:=by rw [World.cell?_of_block (hg.block kb h.lt h1)];exact h.c2
 ix:=h.ix.kept hg h2
 vm:=h.vm.kept hg h3
 n1:=h.n1
 n2:=h.n2
 n3:=h.n3
 lt:=Nat.lt_of_lt_of_le h.lt hg.size
theorem CmpS.next {P:Program} {w w':World} {kb ib vb:Nat} {cs:List Cn} {j:Nat} {p:Option Addr} {cap:Nat} {f:Nat→Int} (h:CmpS P w kb ib vb cs j p cap f) (hb:Below w.heap.size w w'):CmpS P w' kb ib vb cs j p cap f:=h.grown (grw_of_below none hb) (by simp) (by simp) (by simp)
theorem CmpS.put {P:Program} {w w':World} {kb ib vb:Nat} {cs:List Cn} {j:Nat} {p:Option Addr} {cap:Nat} {f:Nat→Int} (h:CmpS P w kb ib vb cs j p cap f) (hi:IxMap P w' cs (j+1) ib) (hg:w.grownBy w' (some ib)):CmpS P w' kb ib vb cs (j+1) p cap f where
 c0:=by rw [World.cell?_of_block (hg.block kb h.lt (fun e=>h.n1 (Option.some.inj e)))];exact h.c0
 c1:=by rw [World.cell?_of_block (hg.block kb h.lt (fun e=>h.n1 (Option.some.inj e)))];exact h.c1
 c2:=by rw [World.cell?_of_block (hg.block kb h.lt (fun e=>h.n1 (Option.some.inj e)))];exact h.c2
 ix:=hi
 vm:=h.vm.kept hg (fun e=>h.n3 (Option.some.inj e).symm)
 n1:=h.n1
 n2:=h.n2
 n3:=h.n3
 lt:=Nat.lt_of_lt_of_le h.lt hg.size
structure PlS (P:Program) (w:World) (kb s:Nat) (pb:Nat→Nat):Prop where
 c:∀ i,i < s→w.cell? ⟨kb,3+i,none⟩=some (.map (some (pb i)))
 m:∀ i,i < s→PlMap P w (Att.listL i) (Att.listL i).length (pb i)
 z:∀ i,s≤i→i < 4→w.cell? ⟨kb,3+i,none⟩=some (.map none)
 f:∀ i,i < 4→w.frozen? ⟨kb,3+i,none⟩=false
 lt:kb < w.heap.size
theorem PlS.grown {P:Program} {w w':World} {kb s:Nat} {pb:Nat→Nat} {row:Option Nat} (h:PlS P w kb s pb) (hg:w.grownBy w' row) (h1:some kb≠row) (h2:∀ i,i < s→some (pb i)≠row):PlS P w' kb s pb where
 c:=fun i hi=>by rw [World.cell?_of_block (hg.block kb h.lt h1)];exact h.c i hi
 m:=fun i hi=>(h.m i hi).kept hg (h2 i hi)
 z:=fun i h3 h4=>by rw [World.cell?_of_block (hg.block kb h.lt h1)];exact h.z i h3 h4
 f:=fun i hi=>by rw [World.frozen?_of_block (hg.block kb h.lt h1)];exact h.f i hi
 lt:=Nat.lt_of_lt_of_le h.lt hg.size
theorem PlS.next {P:Program} {w w':World} {kb s:Nat} {pb:Nat→Nat} (h:PlS P w kb s pb) (hb:Below w.heap.size w w'):PlS P w' kb s pb:=h.grown (grw_of_below none hb) (by simp) (fun _ _=>by simp)
end
section
set_option linter.unusedVariables false
set_option linter.unusedSimpArgs false
open Go.ChangeShapes Go.WideShapes Go.ChangeAt Go.RowKit
open Go.Maps (has size IsMap)
theorem Keeps.of_pl {P:Program} {w w':World} {L:List (List UInt8)} {j b:Nat} (hk:PlMap P w L j b) (h:w.grownBy w' (some b)):Keeps w w':=fun p v q=>by
 obtain ⟨D,ho,-⟩:=hk
 have hne:some p.block≠some b:=fun e=>by rw [no_cell ho p (Option.some.inj e)] at q;cases q
 rw [World.cell?_of_block (h.block p.block (block_lt_of_cell q) hne)];exact q
theorem StrsAt.keep {w w':World} {v:Value} {L:List (List UInt8)} (h:StrsAt w v L) (hk:Keeps w w'):StrsAt w' v L:=by
 rcases h with h|⟨g,cap,h1,h2⟩
 · exact .inl h
 · exact .inr ⟨g,cap,h1,fun i u hu=>hk _ _ (h2 i u hu)⟩
structure PlI (P:Program) (w:World) (kb s:Nat) (pb:Nat→Nat) (g j:Nat):Prop where
 c:∀ i,i < s→w.cell? ⟨kb,3+i,none⟩=some (.map (some (pb i)))
 cg:w.cell? ⟨kb,3+s,none⟩=some (.map (some g))
 m:∀ i,i < s→PlMap P w (Att.listL i) (Att.listL i).length (pb i)
 mg:PlMap P w (Att.listL s) j g
 z:∀ i,s < i→i < 4→w.cell? ⟨kb,3+i,none⟩=some (.map none)
 f:∀ i,i < 4→w.frozen? ⟨kb,3+i,none⟩=false
 lt:kb < w.heap.size
theorem PlI.next {P:Program} {w w':World} {kb s:Nat} {pb:Nat→Nat} {g j:Nat} (h:PlI P w kb s pb g j) (hb:Below w.heap.size w w'):PlI P w' kb s pb g j where
 c:=fun i hi=>by rw [hb.cell (p:=⟨kb,3+i,none⟩) h.lt];exact h.c i hi
 cg:=by rw [hb.cell (p:=⟨kb,3+s,none⟩) h.lt];exact h.cg
 m:=fun i hi=>(h.m i hi).kept (grw_of_below none hb) (by simp)
 mg:=h.mg.kept (grw_of_below none hb) (by simp)
 z:=fun i h3 h4=>by rw [hb.cell (p:=⟨kb,3+i,none⟩) h.lt];exact h.z i h3 h4
 f:=fun i hi=>by rw [hb.frozen (p:=⟨kb,3+i,none⟩) h.lt];exact h.f i hi
 lt:=Nat.lt_of_lt_of_le h.lt hb.size
theorem PlI.put {P:Program} {w w':World} {kb s:Nat} {pb:Nat→Nat} {g j:Nat} (h:PlI P w kb s pb g j) (hm:PlMap P w' (Att.listL s) (j+1) g) (hg:w.grownBy w' (some g)) (h1:kb≠g) (h2:∀ i,i < s→pb i≠g):PlI P w' kb s pb g (j+1) where
 c:=fun i hi=>by rw [World.cell?_of_block (hg.block kb h.lt (by simpa using h1))];exact h.c i hi
 cg:=by rw [World.cell?_of_block (hg.block kb h.lt (by simpa using h1))];exact h.cg
 m:=fun i hi=>(h.m i hi).kept hg (by simpa using h2 i hi)
 mg:=hm
 z:=fun i h3 h4=>by rw [World.cell?_of_block (hg.block kb h.lt (by simpa using h1))];exact h.z i h3 h4
 f:=fun i hi=>by rw [World.frozen?_of_block (hg.block kb h.lt (by simpa using h1))];exact h.f i hi
 lt:=Nat.lt_of_lt_of_le h.lt hg.size
theorem PlI.close {P:Program} {w:World} {kb s:Nat} {pb:Nat→Nat} {g:Nat} (h:PlI P w kb s pb g (Att.listL s).length):PlS P w kb (s+1) (fun i=>if i=s then g else pb i) where
 c := fun i hi=>by
   by_cases e:i=s
   · subst e;simp only [if_true];exact h.cg
   · simp only [if_neg e];exact h.c i (by omega)
 m := fun i hi=>by
   by_cases e:i=s
   · subst e;simp only [if_true];exact h.mg
   · simp only [if_neg e];exact h.m i (by omega)
 z:=fun i h3 h4=>h.z i (by omega) h4
 f:=h.f
 lt:=h.lt
theorem PlS.open {P:Program} {w:World} {kb s:Nat} {pb:Nat→Nat} (h:PlS P w kb s pb) (hs:s < 4) (hp:∀ i,i < s→pb i≠kb):PlI P ((w.alloc (.map #[] 0)).setCell ⟨kb,3+s,none⟩ (.map (some w.heap.size))) kb s pb w.heap.size 0:=by
 have hlt:=h.lt
 have hb:Below w.heap.size w (w.alloc (.map #[] 0)):=(Below.refl _ _).alloc (Nat.le_refl _) _
 have hc:∀ i,(w.alloc (.map #[] 0)).cell? ⟨kb,i,none⟩=w.cell? ⟨kb,i,none⟩:=fun i=>hb.cell (p:=⟨kb,i,none⟩) hlt
 have hf:∀ i,(w.alloc (.map #[] 0)).frozen? ⟨kb,i,none⟩=w.frozen? ⟨kb,i,none⟩:=fun i=>hb.frozen (p:=⟨kb,i,none⟩) hlt
 have gS:(w.alloc (.map #[] 0)).grownBy ((w.alloc (.map #[] 0)).setCell ⟨kb,3+s,none⟩ (.map (some w.heap.size))) (some kb):=⟨rfl,rfl,rfl,by simp [World.setCell],fun k hk hr=>Below.heap_setCell _ _ _ _ (fun e=>hr (by rw [e]))⟩
 have cz:(w.alloc (.map #[] 0)).cell? ⟨kb,3+s,none⟩=some (.map none):=by rw [hc];exact h.z s (Nat.le_refl _) hs
 refine ⟨fun i hi=>?_,?_,fun i hi=>?_,?_,fun i h3 h4=>?_,fun i hi=>?_,?_⟩
 · have:(w.alloc (.map #[] 0)).cell? ⟨kb,3+i,none⟩=some (.map (some (pb i))):=by rw [hc];exact h.c i hi
   have hne:¬ i=s:=by omega
   simp [go_sem,this,cz,hne]
 · simp [go_sem,cz]
 · exact ((h.m i hi).kept (grw_of_below none hb) (by simp)).kept gS (by simpa using hp i hi)
 · exact (PlMap.start P w _).kept gS (by simp;omega)
 · have:(w.alloc (.map #[] 0)).cell? ⟨kb,3+i,none⟩=some (.map none):=by rw [hc];exact h.z i (by omega) h4
   have hne:¬ i=s:=by omega
   simp [go_sem,this,cz,hne]
 · have:(w.alloc (.map #[] 0)).frozen? ⟨kb,3+i,none⟩=false:=by rw [hf];exact h.f i hi
   simp [go_sem,this]
 · simp [World.setCell];omega
theorem CmpS.open {P:Program} {w:World} {kb ib vb:Nat} {cs:List Cn} {j:Nat} {p:Option Addr} {cap:Nat} {f:Nat→Int} (h:CmpS P w kb ib vb cs j p cap f) (s:Nat) (u:Value) (hz:∃ u0,w.cell? ⟨kb,3+s,none⟩=some u0):CmpS P ((w.alloc (.map #[] 0)).setCell ⟨kb,3+s,none⟩ u) kb ib vb cs j p cap f:=by
 have hlt:=h.lt
 have hb:Below w.heap.size w (w.alloc (.map #[] 0)):=(Below.refl _ _).alloc (Nat.le_refl _) _
 have h':=h.next hb
 obtain ⟨u0,hz⟩:=hz
 have cz:(w.alloc (.map #[] 0)).cell? ⟨kb,3+s,none⟩=some u0:=by rw [hb.cell (p:=⟨kb,3+s,none⟩) hlt];exact hz
 have gS:(w.alloc (.map #[] 0)).grownBy ((w.alloc (.map #[] 0)).setCell ⟨kb,3+s,none⟩ u) (some kb):=⟨rfl,rfl,rfl,by simp [World.setCell],fun k hk hr=>Below.heap_setCell _ _ _ _ (fun e=>hr (by rw [e]))⟩
 have k0:=h'.c0
 have k1:=h'.c1
 have k2:=h'.c2
 have n0:¬ 0=3+s:=by omega
 have n1:¬ 1=3+s:=by omega
 have n2:¬ 2=3+s:=by omega
 refine ⟨?_,?_,?_,h'.ix.kept gS (by simpa using h.n1.symm),h'.vm.kept gS (by simpa using h.n2.symm),h.n1,h.n2,h.n3,by simp [World.setCell];omega⟩
 · simp [go_sem,k0,cz,n0]
 · simp [go_sem,k1,cz,n1]
 · simp [go_sem,k2,cz,n2]
structure CmpX (w:World) (kb ib vb:Nat) (pb:Nat→Nat) (cs:List Cn) (p:Option Addr) (cap:Nat) (f:Nat→Int):Prop where
 s:CmpS Tryz.prog w kb ib vb cs cs.length p cap f
 l:PlS Tryz.prog w kb 4 pb
 n:∀ i,i < 4→pb i≠vb
theorem CmpX.grown {w w':World} {kb ib vb:Nat} {pb:Nat→Nat} {cs:List Cn} {p:Option Addr} {cap:Nat} {f:Nat→Int} {row:Option Nat} (h:CmpX w kb ib vb pb cs p cap f) (hg:w.grownBy w' row) (h1:some kb≠row) (h2:some ib≠row) (h3:some vb≠row) (h4:∀ i,i < 4→some (pb i)≠row):CmpX w' kb ib vb pb cs p cap f:=⟨h.s.grown hg h1 h2 h3,h.l.grown hg h1 h4,h.n⟩
theorem CmpX.next {w w':World} {kb ib vb:Nat} {pb:Nat→Nat} {cs:List Cn} {p:Option Addr} {cap:Nat} {f:Nat→Int} (h:CmpX w kb ib vb pb cs p cap f) (hb:Below w.heap.size w w'):CmpX w' kb ib vb pb cs p cap f:=⟨h.s.next hb,h.l.next hb,h.n⟩
theorem listlen25 (sc:Int):(Att.listL sc).length≤25:=by
 unfold Att.listL
 (repeat' split)<;>decide
theorem listname20 (sc:Int):∀ l ∈ Att.listL sc,l.length≤20:=by
 unfold Att.listL
 (repeat' split)<;>decide
set_option maxHeartbeats 8000000 in
set_option maxRecDepth 100000 in
theorem newcmp_any (cs:List Cn) (p:Option Addr) (cap:Nat) (f:Nat→Int) (w:World) (hcs:CsV w cs p) :
 Calls Tryz.prog 39 #[.slice p cs.length cap] w fun e w'=>∃ kb ib vb pb,e=.returned (.pointer (some ⟨kb,0,none⟩))∧CmpX w' kb ib vb pb cs p cap f∧w.heap.size≤vb∧Below w.heap.size w w':=by
 have HCS:=Lib.hid hcs
 have hsm:=hcs.small
 clear hcs
 have hmm:=@run_makeMap Tryz.prog
 go_enter Tryz.func39,Tryz.ntmps39
 go_wp2_with fail
 go_loopg [18] cs.length (fun g i wr=>∃ j:Nat,j≤cs.length∧i=.int .i64 j∧Hid (g=cs.length - j∧CmpS Tryz.prog wr (w.heap.size+2) w.heap.size (w.heap.size+1) cs j p cap f∧PlS Tryz.prog wr (w.heap.size+2) 0 (fun _=>0)∧Below w.heap.size w wr))
 case atStart =>
  refine ⟨0,by omega,rfl,by omega,⟨by simp [go_sem],by simp [go_sem],by simp [go_sem],?_,?_,by omega,by omega,by omega,by simp⟩,⟨fun i hi=>absurd hi (Nat.not_lt_zero _),fun i hi=>absurd hi (Nat.not_lt_zero _),fun i _ hi=>?_,fun i hi=>?_,by simp⟩,(((Below.refl _ _).alloc (Nat.le_refl _) _).alloc (by simp) _).alloc (by simp;omega) _⟩
  · exact ((IxMap.start _ w cs).kept (World.grownBy_alloc _ _ none) (by simp)).kept (World.grownBy_alloc _ _ none) (by simp)
  · have:=(VMap.start Tryz.prog (w.alloc (.map #[] 0)) f cs.length).kept (World.grownBy_alloc _ (.cells #[.slice p cs.length cap,.map (some w.heap.size),.map (some (w.heap.size+1)),.map none,.map none,.map none,.map none] 117) none) (by simp)
    simpa using this
  · match i,hi with
    | 0,_=>simp [go_sem]
    | 1,_=>simp [go_sem]
    | 2,_=>simp [go_sem]
    | 3,_=>simp [go_sem]
  · match i,hi with
    | 0,_=>simp [go_sem]
    | 1,_=>simp [go_sem]
    | 2,_=>simp [go_sem]
    | 3,_=>simp [go_sem]
 case round =>
  obtain ⟨j,hjn,rfl,HR⟩:=hrel
  by_cases hlt:j < cs.length
  · clear hmm
    obtain ⟨c,hc⟩:∃ c,cs[j]?=some c:=⟨_,List.getElem?_eq_getElem (by omega)⟩
    have hcv:CsV wr cs p:=HCS.out.next HR.out.2.2.2
    obtain ⟨B,O,rfl,⟨d0,d1,d2,d3,d4⟩,hx⟩:=hcv.get hc
    have hi1':(j:Int) < (cs.length:Int):=by omega
    go_upto_region 5 with (fail)
    have hns:c.name.size≤maxLen:=(HCS.out.ok c (List.mem_of_getElem? hc)).1
    have HC:=Lib.hid hc
    have AB:Below wr.heap.size wr (wr.alloc (.cells #[.string c.name,.int .i64 c.a.op,.int .i64 c.a.num,.string c.a.name,.slice c.a.ptr (len c.k) c.a.cap] 52)):=(Below.refl _ _).alloc (Nat.le_refl _) _
    have CH:Hid (CmpS Tryz.prog (wr.alloc (.cells #[.string c.name,.int .i64 c.a.op,.int .i64 c.a.num,.string c.a.name,.slice c.a.ptr (len c.k) c.a.cap] 52)) (w.heap.size+2) w.heap.size (w.heap.size+1) cs j (some ⟨B,O,none⟩) cap f):=HR.out.2.1.next AB
    have PH:Hid (PlS Tryz.prog (wr.alloc (.cells #[.string c.name,.int .i64 c.a.op,.int .i64 c.a.num,.string c.a.name,.slice c.a.ptr (len c.k) c.a.cap] 52)) (w.heap.size+2) 0 (fun _=>0)):=HR.out.2.2.1.next AB
    have BB:Hid (Below w.heap.size w (wr.alloc (.cells #[.string c.name,.int .i64 c.a.op,.int .i64 c.a.num,.string c.a.name,.slice c.a.ptr (len c.k) c.a.cap] 52))):=HR.out.2.2.2.alloc HR.out.2.2.2.size _
    have e0:(wr.alloc (.cells #[.string c.name,.int .i64 c.a.op,.int .i64 c.a.num,.string c.a.name,.slice c.a.ptr (len c.k) c.a.cap] 52)).cell? ⟨wr.heap.size,0,none⟩=some (.string c.name):=by simp [go_sem]
    clear d0 d1 d2 d3 d4 hx hcv hc AB
    generalize wr.alloc (.cells #[.string c.name,.int .i64 c.a.op,.int .i64 c.a.num,.string c.a.name,.slice c.a.ptr (len c.k) c.a.cap] 52)=wa at *
    obtain ⟨v,hb,hrun,hv⟩:=ix_look (w:=wa.drew) (CH.out.next (Below.refl _ _).drew).ix c.name hns
    have HV:=Lib.hid hv
    clear hv
    have y0:=CH.out.c1
    go_region
    clear hrun
    have hjm:j < maxLen:=by unfold maxLen;omega
    cases hf:firstIx c.name (cs.take j) with
    | some i =>
      have hq:hb=true:=by have:=HV.out;rw [hf] at this;exact this.1
      subst hq
      have HF:=Lib.hid hf
      clear hf HV
      go_wp2
      go_roundg (cs.length - (j+1))
      case measure=>have:=HR.out.1;omega
      case rel =>
       have C2:=CH.out.next (Below.refl _ _).drew
       exact ⟨j+1,by omega,by go_num,rfl,⟨C2.c0,C2.c1,C2.c2,ix_keep C2.ix HC.out HF.out,C2.vm,C2.n1,C2.n2,C2.n3,C2.lt⟩,PH.out.next (Below.refl _ _).drew,BB.out.drew⟩
    | none =>
      have hq:hb=false:=by have:=HV.out;rw [hf] at this;exact this
      subst hq
      have C2:=Lib.hid ((CH.out.next (Below.refl _ _).drew).next (Below.refl _ _).drew)
      have P2:=Lib.hid ((PH.out.next (Below.refl _ _).drew).next (Below.refl _ _).drew)
      obtain ⟨w9,hrun9,hix9,hg9⟩:=ix_put C2.out.ix HC.out hns hjm hf
      have IX9:=Lib.hid hix9
      have G9:=Lib.hid hg9
      clear hf HV hix9 hg9
      go_upto_region 7 with (fail)
      go_region
      go_wp2
      go_roundg (cs.length - (j+1))
      case measure=>have:=HR.out.1;omega
      case rel =>
       exact ⟨j+1,by omega,by go_num,rfl,C2.out.put IX9.out G9.out,P2.out.grown G9.out (by simp) (fun i hi=>absurd hi (Nat.not_lt_zero _)),BB.out.drew.drew.grown G9.out (by have:=BB.out.size;simpa using this) (fun k hk=>by cases hk;exact Nat.le_refl _)⟩
  · obtain rfl : j=cs.length:=by omega
    have hn:¬ (cs.length:Int) < (cs.length:Int):=by omega
    go_wp2_with fail
    obtain ⟨wo,hwo⟩:∃ wo:World,wo=wr:=⟨_,rfl⟩
    rw [← hwo] at HR
    rw [← hwo]
    clear hwo
    go_loopw [43] (fun i wr=>∃ (s:Nat) (pb:Nat→Nat),s≤4∧i=.int .i64 s∧Hid (CmpS Tryz.prog wr (w.heap.size+2) w.heap.size (w.heap.size+1) cs cs.length p cap f∧PlS Tryz.prog wr (w.heap.size+2) s pb∧(∀ i,i < s→w.heap.size+3≤pb i)∧Below w.heap.size w wr)) (fun i _=>4 - (intOf i).toNat)
    case atStart=>exact ⟨0,fun _=>0,by omega,rfl,HR.out.2.1,HR.out.2.2.1,fun i hi=>absurd hi (Nat.not_lt_zero _),HR.out.2.2.2⟩
    case round =>
     clear HR
     obtain ⟨s,pb,hs4,rfl,HR⟩:=hrel
     by_cases hs:s < 4
     · have hs1:(s:Int) < 4:=by omega
       have hs0:(0:Int)≤(s:Int):=by omega
       have hkb:w.heap.size+2 < wr.heap.size:=HR.out.1.lt
       have cz:wr.cell? ⟨w.heap.size+2,3+s,none⟩=some (.map none):=HR.out.2.1.z s (Nat.le_refl _) hs
       have fz:wr.frozen? ⟨w.heap.size+2,3+s,none⟩=false:=HR.out.2.1.f s hs
       have PI:=Lib.hid (HR.out.2.1.open hs (fun i hi=>by have:=HR.out.2.2.1 i hi;omega))
       have CI:=Lib.hid (HR.out.1.open s (.map (some wr.heap.size)) ⟨_,cz⟩)
       have BI:Hid (Below w.heap.size w ((wr.alloc (.map #[] 0)).setCell ⟨w.heap.size+2,3+s,none⟩ (.map (some wr.heap.size)))):=(HR.out.2.2.2.alloc HR.out.2.2.2.size _).setCell (p:=⟨w.heap.size+2,3+s,none⟩) (by simp) _
       go_wp2_with fail
       clear hmm cz fz
       have hww:(wr.alloc (.map #[] 0)).setCell ⟨w.heap.size+2,3+s,none⟩ (.map (some wr.heap.size))=(wr.setCell ⟨w.heap.size+1+1,3+s,none⟩ (.map (some wr.heap.size))).alloc (.map #[] 0):=by simp [go_sem,hkb]
       rw [hww] at PI CI BI
       clear hww
       generalize (wr.setCell ⟨w.heap.size+1+1,3+s,none⟩ (.map (some wr.heap.size))).alloc (.map #[] 0)=wi at *
       have DD:Hid ((∀ i,i < s→w.heap.size+3≤pb i)∧∀ i,i < s→pb i≠wr.heap.size):=⟨HR.out.2.2.1,fun i hi=>by have:=(HR.out.2.1.m i hi).lt;omega⟩
       clear HR
       generalize wr.heap.size=G at *
       refine (attrs_any (s:Int) wi).mono ?_
       rintro e w2 ⟨av,rfl,hav,hb⟩
       obtain ⟨p1,cap1,rfl,-⟩:=strs_shape hav
       have AV:=Lib.hid hav
       have PI2:=Lib.hid (PI.out.next hb)
       have CI2:=Lib.hid (CI.out.next hb)
       have BI2:=Lib.hid (BI.out.trans (hb.mono BI.out.size))
       have hlen:(Att.listL (s:Int)).length≤25:=listlen25 _
       clear hav hb PI CI BI
       go_wp2_with fail
       go_loopw [55] (fun i wr=>∃ j:Nat,j≤(Att.listL (s:Int)).length∧i=.int .i64 j∧Hid (CmpS Tryz.prog wr (w.heap.size+2) w.heap.size (w.heap.size+1) cs cs.length p cap f∧PlI Tryz.prog wr (w.heap.size+2) s pb G j∧StrsAt wr (.slice p1 (Att.listL (s:Int)).length cap1) (Att.listL (s:Int))∧Below w.heap.size w wr)) (fun i _=>(Att.listL (s:Int)).length - (intOf i).toNat)
       case atStart=>exact ⟨0,by omega,rfl,CI2.out,PI2.out,AV.out,BI2.out⟩
       case round =>
        clear CI2 PI2 AV BI2
        obtain ⟨j,hj,rfl,HR⟩:=hrel
        by_cases hlt2:j < (Att.listL (s:Int)).length
        · obtain ⟨l,hl⟩:∃ l,(Att.listL (s:Int))[j]?=some l:=⟨_,List.getElem?_eq_getElem hlt2⟩
          obtain ⟨p2,cap2,he,gg⟩:=strs_shape HR.out.2.2.1
          simp only [Value.slice.injEq,true_and] at he
          obtain ⟨rfl,rfl⟩:=he
          obtain ⟨g1,rfl,k1⟩:=gg j l hl
          have hj1:(j:Int) < ((Att.listL (s:Int)).length:Int):=by omega
          have hj0:(0:Int)≤(j:Int):=by omega
          have hln:l.length≤1000:=Nat.le_trans (listname20 _ l (List.mem_of_getElem? hl)) (by omega)
          obtain ⟨w9,hrun9,hm9,hg9⟩:=pl_put HR.out.2.1.mg hl hln (by omega)
          have M9:=Lib.hid hm9
          have G9:=Lib.hid hg9
          have cgg:=HR.out.2.1.cg
          clear hm9 hg9 gg hl
          go_wp2
          go_roundw
          case rel =>
           refine ⟨j+1,by omega,by go_num,HR.out.1.grown G9.out (by simp;omega) (by simp;omega) (by simp;omega),HR.out.2.1.put M9.out G9.out (by omega) (fun i hi=>?_),HR.out.2.2.1.keep (Keeps.of_pl HR.out.2.1.mg G9.out),HR.out.2.2.2.grown G9.out HR.out.2.2.2.size (fun k hk=>by cases hk;omega)⟩
           exact DD.out.2 i hi
          case measure=>simp [intOf];omega
        · obtain rfl:j=(Att.listL (s:Int)).length:=by omega
          have hj2:¬ ((Att.listL (s:Int)).length:Int) < ((Att.listL (s:Int)).length:Int):=by omega
          go_wp2
          go_roundw
          case rel =>
           refine ⟨s+1,fun i=>if i=s then G else pb i,by omega,by go_num,HR.out.1,HR.out.2.1.close,fun i hi=>?_,HR.out.2.2.2⟩
           by_cases e:i=s
           · simp only [if_pos e];omega
           · simp only [if_neg e];exact DD.out.1 i (by omega)
          case measure=>simp [intOf];omega
     · obtain rfl:s=4:=by omega
       go_wp2
       go_ret
       exact ⟨_,_,_,pb,rfl,⟨HR.out.1,HR.out.2.1,fun i hi=>by have:=HR.out.2.2.1 i hi;omega⟩,by omega,HR.out.2.2.2⟩
end
end
end Go.Proofs.YtfoedbfkddoibaaGreat
