import Derived.Test.YtcejjdmnlejbaaaGreatDoorBGa
import Derived.Test.YtcejjdmnlejbaaaGreatDoorBGb
import Derived.Test.YtcejjdmnlejbaaaGreatDoorBGf
import Derived.OwnWalk
import Derived.Laws.AppendOwn
namespace Go.Proofs.YtcejjdmnlejbaaaGreatDoor
section
set_option linter.unusedVariables false
set_option linter.unusedSimpArgs false
open Go.ChangeShapes Go.WideShapes Go.ChangeAt Go.RowKit
def strV (L:List (List UInt8)):List Value:=L.map fun l=>Value.string ⟨l.toArray⟩
def StrsAt (w:World) (v:Value) (L:List (List UInt8)):Prop:=(L=[]∧v=.slice none 0 0)∨∃ g cap:Nat,v=.slice (some ⟨g,0,none⟩) L.length cap∧∀ i u,(strV L)[i]?=some u→w.cell? ⟨g,i,none⟩=some u
def StrsPost (L:List (List UInt8)) (w:World) (e:Ending) (w':World):Prop:=∃ v,e=.returned v∧StrsAt w' v L∧Below w.heap.size w w'
theorem StrsAt.next {w w':World} {v:Value} {L:List (List UInt8)} (h:StrsAt w v L) (hb:Below w.heap.size w w'):StrsAt w' v L:=by
 rcases h with h|⟨g,cap,h1,h2⟩
 · exact .inl h
 · exact .inr ⟨g,cap,h1,fun i u hu=>by rw [hb.cell (block_lt_of_cell (h2 i u hu))];exact h2 i u hu⟩
theorem Tryz.infoS:(Tryz.prog.info? 9).map (fun i=>(i.zero,i.size,i.bytes))=some (some (.string ⟨#[]⟩),1,16):=by kernel_rfl
theorem rdutyNames (w:World):Calls Tryz.prog 155 #[] w fun e w'=>e=.returned (.slice (some ⟨w.heap.size,0,none⟩) 11 11)∧w'=w.alloc (.cells (strV Att.dutyL).toArray 9):=by
 go_enter Tryz.func155,Tryz.ntmps155
 go_wp2
 go_ret
 exact ⟨rfl,rfl⟩
theorem own_ne {w:World} {base:Nat} {e:TypeId} {v:Value} {n:Nat} {x0:Value} {xs:List Value} (h:w.ownsRow base e 1 v n (x0 :: xs)) {gd:Nat} {u:Value} (hc:w.cell? ⟨gd,0,none⟩=some u) (hne:u≠x0):v.ownBlock≠some gd:=by
 intro hg
 have:=h.cells hg 0 x0 rfl
 simp only [Addr.add,if_true] at this
 rw [hc] at this
 exact hne (Option.some.inj this)
theorem strs_of_own {w:World} {base:Nat} {v:Value} {n:Nat} {L:List (List UInt8)} (h:w.ownsRow base 9 1 v n (strV L)) (hn:0 < n):StrsAt w v L:=by
 have hl:=h.1
 simp [strV] at hl
 rcases h.2 with ⟨-,h0⟩|⟨g,cap,cur,hv,-⟩
 · omega
 · refine .inr ⟨g,cap,by rw [hv,hl],fun i u hu=>?_⟩
   subst hv
   have hi:i < n * 1:=by
    have:=(List.getElem?_eq_some_iff.1 hu).1
    simp [strV] at this;omega
   rw [h.cellAt i hi];exact hu
theorem duty_at (j:Nat) (h:j < 11):∃ l,Att.dutyL[j]?=some l∧l.length≤8:=by
 match j,h with
 | 0,_=>exact ⟨_,rfl,by decide⟩
 | 1,_=>exact ⟨_,rfl,by decide⟩
 | 2,_=>exact ⟨_,rfl,by decide⟩
 | 3,_=>exact ⟨_,rfl,by decide⟩
 | 4,_=>exact ⟨_,rfl,by decide⟩
 | 5,_=>exact ⟨_,rfl,by decide⟩
 | 6,_=>exact ⟨_,rfl,by decide⟩
 | 7,_=>exact ⟨_,rfl,by decide⟩
 | 8,_=>exact ⟨_,rfl,by decide⟩
 | 9,_=>exact ⟨_,rfl,by decide⟩
 | 10,_=>exact ⟨_,rfl,by decide⟩
theorem str_ne (a b:List UInt8) (h:a≠b):Value.string ⟨a.toArray⟩≠Value.string ⟨b.toArray⟩:=by
 intro q
 injection q with q
 exact h (by simpa using congrArg (fun s:ByteArray=>s.data.toList) q)
theorem row_step {w wr w1:World} {v v':Value} {n gd:Nat} {x y p l:List UInt8} {X:List (List UInt8)} {D:List (List UInt8)} {o:Obj} (hd:wr.cell? ⟨gd,0,none⟩=some (.string ⟨y.toArray⟩)) (hxy:y≠x)
 (hown:wr.ownsRow w.heap.size 9 1 v n (strV (x :: X))) (hD:∀ q u,(strV D)[q]?=some u→wr.cell? ⟨gd,q,none⟩=some u) (hB:Below w.heap.size w wr)
 (h1:w1.ownsRow w.heap.size 9 1 v' (n+1) (strV (x :: X)++[.string (⟨p.toArray⟩++⟨l.toArray⟩)])) (hg:(wr.alloc o).grownBy w1 v.ownBlock) :
 w1.ownsRow w.heap.size 9 1 v' (n+1) (strV (x :: (X++[p++l])))∧(∀ q u,(strV D)[q]?=some u→w1.cell? ⟨gd,q,none⟩=some u)∧Below w.heap.size w w1∧wr.heap.size < w1.heap.size:=by
 have hne:v.ownBlock≠some gd:=own_ne (x0:=.string ⟨x.toArray⟩) (xs:=strV X) hown hd (str_ne _ _ hxy)
 have e:(⟨p.toArray⟩:ByteArray)++⟨l.toArray⟩=⟨(p++l).toArray⟩:=by apply ByteArray.ext;simp
 rw [e] at h1
 refine ⟨?_,?_,?_,?_⟩
 · have:strV (x :: X)++[.string ⟨(p++l).toArray⟩]=strV (x :: (X++[p++l])):=by simp [strV]
   rw [this] at h1;exact h1
 · intro q u hu
   have hc:=hD q u hu
   refine hg.cell (a:=⟨gd,q,none⟩) ?_ (Ne.symm hne)
   have hlt:=block_lt_of_cell hc
   simp at hlt
   simp [go_sem,hc,hlt]
 · refine (hB.alloc hB.size o).grown hg (by have:=hB.size;simp;omega) ?_
   intro k hk
   exact (hown.lt k hk).1
 · have:=hg.size;simp at this;omega
set_option maxHeartbeats 2000000 in
set_option maxRecDepth 100000 in
theorem rattrs2 (w:World):Calls Tryz.prog 128 #[.int .i64 2] w (StrsPost Att.restL w):=by
 obtain ⟨i0,hi,hz0,hz1,hz2⟩:=info_parts Tryz.infoS
 go_enter Tryz.func128,Tryz.ntmps128
 go_wp2_with (go_at_call 155;refine (rdutyNames _).mono ?_;rintro e w' ⟨rfl,rfl⟩)
 go_loopw [3,5] (fun v i wr=>∃ j:Nat,j≤11∧i=.int .i64 j∧w.heap.size+1 < wr.heap.size∧Hid (wr.ownsRow w.heap.size 9 1 v (3+j) (strV ([Att.rest,Att.nights,Att.home]++(Att.dutyL.map (Att.before++·)).take j)) ∧
  (∀ q u,(strV Att.dutyL)[q]?=some u→wr.cell? ⟨w.heap.size+1,q,none⟩=some u)∧Below w.heap.size w wr)) (fun _ i _=>11 - (intOf i).toNat)
 case atStart =>
  refine ⟨0,by omega,rfl,by simp,?_,?_,((Below.refl _ _).alloc (Nat.le_refl _) _).alloc (by simp) _⟩
  · exact (World.ownsRow_lit _ _ 3 (Nat.le_refl _) (by decide) rfl).alloc _
  · intro q u h;simp [go_sem];simpa using h
 case round =>
  obtain ⟨j,hj,rfl,hsz,HR⟩:=hrel
  by_cases hlt:j < 11
  · obtain ⟨l,hl1,hl2⟩:∃ l,Att.dutyL[j]?=some l∧l.length≤8:=duty_at j hlt
    have hc:wr.cell? ⟨w.heap.size+1,j,none⟩=some (.string ⟨l.toArray⟩):=HR.out.2.1 j _ (by simp [strV,hl1])
    have L1:=Lib.hid hl1
    clear hl1
    have hi1:(j:Int) < 11:=by omega
    have hb:¬ 9223372036854775807 < 7+l.length:=by omega
    go_wp2_with (at_builtin;refine wpList_append_own _ rfl _ _ 73 rfl w.heap.size 9 i0 (.string ⟨#[]⟩) 1 16 Tryz.underlying73 hi hz0 hz1 hz2 rfl (by decide) _ _ _ rfl (HR.out.1.alloc _) ⟨wr.heap.size,0,none⟩ 1 1 [.string (⟨#[98,101,102,111,114,101,46]⟩++⟨l.toArray⟩)] rfl rfl ?c1 ?c2 ?c3 ?c4 ?c5 ?_)
    case c1=>intro q u hu;cases q with
     | zero=>simp at hu;subst hu;simp [Addr.add]
     | succ q=>simp at hu
    case c2=>intro u hu;simp at hu;subst hu;rfl
    case c3=>unfold maxLen;omega
    case c4=>omega
    case c5=>simp;omega
    intro v' w1 hown hgrow hnil
    have hst:=row_step (p:=Att.before) (x:=Att.rest) (y:=[108,101,103,115]) (gd:=w.heap.size+1) (w:=w) (HR.out.2.1 0 _ rfl) (by decide) HR.out.1 HR.out.2.1 HR.out.2.2 hown hgrow
    have ST:=Lib.hid hst
    have hz1:w.heap.size+1 < w1.heap.size:=by have:=hst.2.2.2;omega
    clear hst hown hgrow hnil hc
    go_wp2
    go_roundw
    case rel =>
     refine ⟨j+1,by omega,by go_num,hz1,?_,ST.out.2.1,ST.out.2.2.1⟩
     have:=ST.out.1
     have e:(Att.dutyL.map (Att.before++·)).take (j+1)=(Att.dutyL.map (Att.before++·)).take j++[Att.before++l]:=by
      rw [List.take_add_one];simp [L1.out]
     rw [e]
     exact this
    case measure=>simp [intOf];omega
  · have hj2 : ¬ (j:Int) < 11:=by omega
    have HR2:Hid (wr.ownsRow w.heap.size 9 1 u3 14 (strV ([Att.rest,Att.nights,Att.home]++Att.dutyL.map (Att.before++·)))∧(∀ q u,(strV Att.dutyL)[q]?=some u→wr.cell? ⟨w.heap.size+1,q,none⟩=some u)∧Below w.heap.size w wr):=by
     obtain rfl:j=11:=by omega
     exact HR.out
    clear HR
    go_wp2_with fail
    obtain ⟨wo,hwo⟩:∃ wo:World,wo=wr:=⟨_,rfl⟩
    rw [← hwo] at HR2 hsz
    rw [← hwo]
    clear hwo
    go_loopw [3,6] (fun v i wr=>∃ j:Nat,j≤11∧i=.int .i64 j∧w.heap.size+1 < wr.heap.size∧Hid (wr.ownsRow w.heap.size 9 1 v (14+j) (strV ([Att.rest,Att.nights,Att.home]++Att.dutyL.map (Att.before++·)++(Att.dutyL.map (Att.after++·)).take j)) ∧
     (∀ q u,(strV Att.dutyL)[q]?=some u→wr.cell? ⟨w.heap.size+1,q,none⟩=some u)∧Below w.heap.size w wr)) (fun _ i _=>11 - (intOf i).toNat)
    case atStart=>exact ⟨0,by omega,rfl,hsz,HR2.out⟩
    case round =>
     clear HR2 hsz
     obtain ⟨k,hk,rfl,hsz,HR⟩:=hrel
     by_cases hlt2:k < 11
     · obtain ⟨l,hl1,hl2⟩:∃ l,Att.dutyL[k]?=some l∧l.length≤8:=duty_at k hlt2
       have hc:wr.cell? ⟨w.heap.size+1,k,none⟩=some (.string ⟨l.toArray⟩):=HR.out.2.1 k _ (by simp [strV,hl1])
       have L1:=Lib.hid hl1
       clear hl1
       have hi1:(k:Int) < 11:=by omega
       have hb:¬ 9223372036854775807 < 6+l.length:=by omega
       go_wp2_with (at_builtin;refine wpList_append_own _ rfl _ _ 73 rfl w.heap.size 9 i0 (.string ⟨#[]⟩) 1 16 Tryz.underlying73 hi hz0 hz1 hz2 rfl (by decide) _ _ _ rfl (HR.out.1.alloc _) ⟨wr.heap.size,0,none⟩ 1 1 [.string (⟨#[97,102,116,101,114,46]⟩++⟨l.toArray⟩)] rfl rfl ?c1 ?c2 ?c3 ?c4 ?c5 ?_)
       case c1=>intro q u hu;cases q with
        | zero=>simp at hu;subst hu;simp [Addr.add]
        | succ q=>simp at hu
       case c2=>intro u hu;simp at hu;subst hu;rfl
       case c3=>unfold maxLen;omega
       case c4=>omega
       case c5=>simp;omega
       intro v' w1 hown hgrow hnil
       have hst:=row_step (p:=Att.after) (x:=Att.rest) (y:=[108,101,103,115]) (gd:=w.heap.size+1) (w:=w) (HR.out.2.1 0 _ rfl) (by decide) HR.out.1 HR.out.2.1 HR.out.2.2 hown hgrow
       have ST:=Lib.hid hst
       have hz1:w.heap.size+1 < w1.heap.size:=by have:=hst.2.2.2;omega
       clear hst hown hgrow hnil hc
       go_wp2
       go_roundw
       case rel =>
        refine ⟨k+1,by omega,by go_num,hz1,?_,ST.out.2.1,ST.out.2.2.1⟩
        have:=ST.out.1
        have e:(Att.dutyL.map (Att.after++·)).take (k+1)=(Att.dutyL.map (Att.after++·)).take k++[Att.after++l]:=by
         rw [List.take_add_one];simp [L1.out]
        rw [e]
        exact this
       case measure=>simp [intOf];omega
     · have hj3:¬ (k:Int) < 11:=by omega
       have HR2:Hid (wr.ownsRow w.heap.size 9 1 u3 25 (strV Att.restL)∧Below w.heap.size w wr):=by
        obtain rfl:k=11:=by omega
        exact ⟨HR.out.1,HR.out.2.2⟩
       go_wp2
       go_ret
       exact ⟨_,rfl,strs_of_own HR2.out.1 (by omega),HR2.out.2⟩
set_option maxHeartbeats 1000000 in
theorem rattrs_any (sc:Int) (w:World):Calls Tryz.prog 128 #[.int .i64 sc] w (StrsPost (Att.listL sc) w):=by
 by_cases h1:sc=1
 · subst h1
   go_enter Tryz.func128,Tryz.ntmps128
   go_wp2_with (go_at_call 155;refine (rdutyNames _).mono ?_;rintro e w' ⟨rfl,rfl⟩)
   go_ret
   refine ⟨_,rfl,.inr ⟨w.heap.size,11,rfl,fun i u hu=>?_⟩,(Below.refl _ _).alloc (Nat.le_refl _) _⟩
   simp
   exact hu
 · by_cases h2:sc=2
   · subst h2;exact rattrs2 w
   · by_cases h3:sc=3
     · subst h3
       go_enter Tryz.func128,Tryz.ntmps128
       go_wp2
       go_ret
       refine ⟨_,rfl,.inr ⟨w.heap.size,7,rfl,fun i u hu=>?_⟩,(Below.refl _ _).alloc (Nat.le_refl _) _⟩
       rw [World.cell?_alloc_new]
       show (strV Att.pairL).toArray[i]?=some u
       rw [List.getElem?_toArray]
       exact hu
     · have b1:(sc==1)=false:=by simp [h1]
       have b2:(sc==2)=false:=by simp [h2]
       have b3:(sc==3)=false:=by simp [h3]
       have L:Hid (Att.listL sc=[]):=by unfold Hid Att.listL;rw [if_neg h1,if_neg h2,if_neg h3]
       clear h1 h2 h3
       go_enter Tryz.func128,Tryz.ntmps128
       go_wp2
       go_ret
       exact ⟨_,rfl,.inl ⟨L.out,rfl⟩,Below.refl _ _⟩
end
section
set_option linter.unusedVariables false
set_option linter.unusedSimpArgs false
open Go.ChangeShapes Go.WideShapes Go.ChangeAt Go.RowKit
def ratT (L:List (List UInt8)) (s:ByteArray):Int:=Att.refT L s.data.toList
def ratE (L:List (List UInt8)) (s:ByteArray):Int:=if ratT L s=0 then 6 else 0
theorem kind_ne (l:List UInt8):Att.kindR l≠0:=by unfold Att.kindR;(repeat' split)<;>omega
theorem rat_no (L:List (List UInt8)) (s:ByteArray) (h:Att.isIn s.toList L=false):ratT L s=0∧ratE L s=6:=by
 have:ratT L s=0:=by unfold ratT Att.refT;rw [← Lib.toList_data,h];rfl
 exact ⟨this,by unfold ratE;rw [if_pos this]⟩
theorem rat_yes (L:List (List UInt8)) (s:ByteArray) (h:Att.isIn s.toList L=true):ratT L s=Att.kindR s.toList∧ratE L s=0:=by
 have:ratT L s=Att.kindR s.toList:=by unfold ratT Att.refT;rw [← Lib.toList_data,if_pos h]
 exact ⟨this,by unfold ratE;rw [if_neg (by rw [this];exact kind_ne _)]⟩
set_option maxHeartbeats 4000000 in
set_option maxRecDepth 100000 in
theorem ratt_list (sc:Int) (s:ByteArray) (L:List (List UInt8)) (w:World) (hL:Att.listL sc=L) (hLn:L.length≤25) (hs:s.size≤9223372036854775807) (h1:sc=2→¬ (7 < s.size∧(s.extract 0 7).toList=Att.before)) (h2:sc=2→¬ (6 < s.size∧(s.extract 0 6).toList=Att.after)) :
 Calls Tryz.prog 129 #[.int .i64 sc,.string s] w fun e w'=>e=.returned (.tuple #[.int .i64 (ratT L s),.int .i64 (ratE L s)])∧Below w.heap.size w w':=by
 have H1:=Lib.hid h1
 have H2:=Lib.hid h2
 have HL:=Lib.hid hL
 clear h1 h2 hL
 go_enter Tryz.func129,Tryz.ntmps129
 go_upto_region 1 with (fail)
 go_cut [19] (fun v wx=>v=.bool false∧w=wx)
 case first =>
  by_cases q:sc=2
  · have b:(sc==2)=true:=by simp [q]
    have H:=H1.out q
    clear q
    by_cases q7:7 < s.size
    · have j7:(7:Int) < (s.size:Int):=by omega
      have k7:(7:Int)≤(s.size:Int):=by omega
      have e7:((s.extract 0 7).toList==[98,101,102,111,114,101,46])=false:=by
       rw [beq_eq_false_iff_ne];exact fun z=>H ⟨q7,z⟩
      clear H
      go_wp2
      go_meet
      exact ⟨rfl,rfl⟩
    · have j7:¬ (7:Int) < (s.size:Int):=by omega
      clear H
      go_wp2
      go_meet
      exact ⟨rfl,rfl⟩
  · have b:(sc==2)=false:=by simp [q]
    clear q
    go_wp2
    go_meet
    exact ⟨rfl,rfl⟩
 case rest =>
  obtain ⟨rfl,rfl⟩:=hcut
  go_upto_region 3 with (fail)
  go_cut [36] (fun v wx=>v=.bool false∧w=wx)
  case first =>
   by_cases q:sc=2
   · have b:(sc==2)=true:=by simp [q]
     have H:=H2.out q
     clear q
     by_cases q7:6 < s.size
     · have j7:(6:Int) < (s.size:Int):=by omega
       have k7:(6:Int)≤(s.size:Int):=by omega
       have e7:((s.extract 0 6).toList==[97,102,116,101,114,46])=false:=by
        rw [beq_eq_false_iff_ne];exact fun z=>H ⟨q7,z⟩
       clear H
       go_wp2
       go_meet
       exact ⟨rfl,rfl⟩
     · have j7:¬ (6:Int) < (s.size:Int):=by omega
       clear H
       go_wp2
       go_meet
       exact ⟨rfl,rfl⟩
   · have b:(sc==2)=false:=by simp [q]
     clear q
     go_wp2
     go_meet
     exact ⟨rfl,rfl⟩
  case rest =>
   obtain ⟨rfl,rfl⟩:=hcut
   clear H1 H2
   go_wp2_with fail
   refine (rattrs_any _ _).mono ?_
   have N:=Lib.hid (rat_no L s)
   have Y:=Lib.hid (rat_yes L s)
   rw [HL.out]
   rintro e w1 ⟨v,rfl,hst,hb⟩
   have HB:=Lib.hid hb
   clear hb
   rcases hst with ⟨rfl,rfl⟩|⟨g,cap,rfl,hcell⟩
   · have R:=Lib.hid (N.out rfl)
     clear N Y
     go_wp2_with fail
     go_loop [7] (fun i=>i=.int .i64 0) (fun _=>0)
     case atStart=>rfl
     case round =>
      subst hrel
      go_wp2
      go_ret2
      exact ⟨by rw [R.out.1,R.out.2];rfl,HB.out⟩
   · have HC := Lib.hid hcell
     clear hcell
     go_wp2_with fail
     go_loop [7] (fun i=>∃ k:Nat,k≤L.length∧i=.int .i64 k∧Hid (Att.isIn s.toList L=Att.isIn s.toList (L.drop k))) (fun i=>L.length - (intOf i).toNat)
     case atStart=>exact ⟨0,by omega,rfl,rfl⟩
     case round =>
      obtain ⟨k,hk,rfl,HR⟩:=hrel
      by_cases hlt:k < L.length
      · have hkl:(strV L)[k]?=some (.string ⟨(L[k]'hlt).toArray⟩):=by simp [strV,hlt]
        have hc:=HC.out k _ hkl
        have ST:Hid (Att.isIn s.toList L=((L[k]'hlt==s.toList) || Att.isIn s.toList (L.drop (k+1)))):=by
         unfold Hid
         rw [HR.out,List.drop_eq_getElem_cons hlt]
         unfold Att.isIn
         rw [List.any_cons,Bool.beq_comm]
        obtain ⟨l,hl⟩:∃ l,l=L[k]'hlt:=⟨_,rfl⟩
        rw [← hl] at hc ST
        clear hkl hl
        have hi:(k:Int) < (L.length:Int):=by omega
        cases hb:(l==s.toList)
        · have HB1:=Lib.hid hb
          have hb2:(!(l==s.toList))=true:=by rw [hb];rfl
          go_wp2
          go_round
          case rel=>exact ⟨k+1,by omega,by go_num,by unfold Hid;rw [ST.out,HB1.out,Bool.false_or]⟩
          case measure=>simp [intOf];omega
        · have R:=Lib.hid (Y.out (by rw [ST.out,hb];rfl))
          have hb2:(!(l==s.toList))=false:=by rw [hb];rfl
          clear hb N Y ST HR HC
          go_wp2
          all_goals
           go_ret2
           refine ⟨?_,HB.out⟩
           rw [R.out.1,R.out.2]
           refine ret_int2 ?_ rfl
           go_light
           clear R HB HL hb2
           simp only [Att.kindR,Att.isIn,Att.num1,Att.duty3,Att.home,List.any_cons,List.any_nil]
           simp_all
      · have hi:¬ (k:Int) < (L.length:Int):=by omega
        have R:=Lib.hid (N.out (by rw [HR.out,List.drop_eq_nil_of_le (by omega)];rfl))
        go_wp2
        go_ret2
        exact ⟨by rw [R.out.1,R.out.2];rfl,HB.out⟩
theorem ext_toList (s:ByteArray) (k:Nat):(s.extract 0 k).toList=s.data.toList.take k:=by
 rw [Lib.toList_data]
 obtain ⟨l,e1,e2⟩:=ba_mk s
 rw [e2,e1,ext_mk,List.drop_zero]
theorem ext_drop (s:ByteArray) (k:Nat):(s.extract k s.size).data.toList=s.data.toList.drop k:=by
 obtain ⟨l,e1,e2⟩:=ba_mk s
 rw [← len_at,e2,e1,ext_mk,List.take_length]
theorem list_bd (sc:Int):(Att.listL sc).length≤25:=by
 unfold Att.listL;(repeat' split)<;>decide
theorem rat_same (sc:Int) (s:ByteArray) (h:ratT (Att.listL sc) s=atS sc s):ratE (Att.listL sc) s=atE sc s:=by unfold ratE atE;rw [h]
theorem ratt_duty (s:ByteArray) (w:World) (hs:s.size≤9223372036854775807) :
 Calls Tryz.prog 129 #[.int .i64 1,.string s] w fun e w'=>e=.returned (.tuple #[.int .i64 (atS 1 s),.int .i64 (atE 1 s)])∧Below w.heap.size w w':=by
 have e:ratT (Att.listL 1) s=atS 1 s:=Att.ref_duty _
 have:=ratt_list 1 s _ w rfl (list_bd 1) hs (fun q=>by omega) (fun q=>by omega)
 rw [e,rat_same 1 s e] at this
 exact this
set_option maxHeartbeats 2000000 in
theorem ratt_any (sc:Int) (s:ByteArray) (w:World) (hs:s.size≤9223372036854775807) :
 Calls Tryz.prog 129 #[.int .i64 sc,.string s] w fun e w'=>e=.returned (.tuple #[.int .i64 (atS sc s),.int .i64 (atE sc s)])∧Below w.heap.size w w':=by
 by_cases hb:sc=2∧7 < s.size∧(s.extract 0 7).toList=Att.before
 · obtain ⟨rfl,h7,hp⟩:=hb
   have E:Hid (atS 2 s=atS 1 (s.extract 7 s.size)∧atE 2 s=atE 1 (s.extract 7 s.size)):=by
    have e:atS 2 s=atS 1 (s.extract 7 s.size):=by
     show Att.restT s.data.toList=Att.dutyT (s.extract 7 s.size).data.toList
     rw [ext_drop]
     exact Att.rest_before _ (by rw [← ext_toList];exact hp)
    exact ⟨e,by unfold atE;rw [e]⟩
   have b7:((s.extract 0 7).toList==[98,101,102,111,114,101,46])=true:=by rw [beq_iff_eq];exact hp
   have i7:(7:Int) < (s.size:Int):=by omega
   have k7:(7:Int)≤(s.size:Int):=by omega
   have z:Hid ((s.extract 7 s.size).size≤9223372036854775807):=by unfold Hid;rw [ByteArray.size_extract];omega
   clear hp
   go_enter Tryz.func129,Tryz.ntmps129
   go_wp2_with fail
   refine (ratt_duty _ _ z.out).mono ?_
   rw [← E.out.1,← E.out.2]
   rintro e w1 ⟨rfl,hb⟩
   go_wp2
   go_ret2
   exact ⟨rfl,hb⟩
 · by_cases ha:sc=2∧6 < s.size∧(s.extract 0 6).toList=Att.after
   · obtain ⟨rfl,h6,hp⟩:=ha
     have E:Hid (atS 2 s=atS 1 (s.extract 6 s.size)∧atE 2 s=atE 1 (s.extract 6 s.size)):=by
      have e:atS 2 s=atS 1 (s.extract 6 s.size):=by
       show Att.restT s.data.toList=Att.dutyT (s.extract 6 s.size).data.toList
       rw [ext_drop]
       exact Att.rest_after _ (by rw [← ext_toList];exact hp)
      exact ⟨e,by unfold atE;rw [e]⟩
     have b6:((s.extract 0 6).toList==[97,102,116,101,114,46])=true:=by rw [beq_iff_eq];exact hp
     have i6:(6:Int) < (s.size:Int):=by omega
     have k6:(6:Int)≤(s.size:Int):=by omega
     have z:Hid ((s.extract 6 s.size).size≤9223372036854775807):=by unfold Hid;rw [ByteArray.size_extract];omega
     by_cases h7:7 < s.size
     · have i7:(7:Int) < (s.size:Int):=by omega
       have k7:(7:Int)≤(s.size:Int):=by omega
       have b7:((s.extract 0 7).toList==[98,101,102,111,114,101,46])=false:=by
        rw [beq_eq_false_iff_ne];exact fun q=>hb ⟨rfl,h7,q⟩
       clear hp hb
       go_enter Tryz.func129,Tryz.ntmps129
       go_wp2_with fail
       refine (ratt_duty _ _ z.out).mono ?_
       rw [← E.out.1,← E.out.2]
       rintro e w1 ⟨rfl,hb⟩
       go_wp2
       go_ret2
       exact ⟨rfl,hb⟩
     · have i7:¬ (7:Int) < (s.size:Int):=by omega
       clear hp hb
       go_enter Tryz.func129,Tryz.ntmps129
       go_wp2_with fail
       refine (ratt_duty _ _ z.out).mono ?_
       rw [← E.out.1,← E.out.2]
       rintro e w1 ⟨rfl,hb⟩
       go_wp2
       go_ret2
       exact ⟨rfl,hb⟩
   · have e : ratT (Att.listL sc) s=atS sc s:=by
      show Att.refT (Att.listL sc) s.data.toList=Att.atT sc s.data.toList
      unfold Att.listL Att.atT
      by_cases q1:sc=1
      · rw [if_pos q1,if_pos q1];exact Att.ref_duty _
      · rw [if_neg q1,if_neg q1]
        by_cases q2:sc=2
        · rw [if_pos q2,if_pos q2]
          refine Att.ref_rest _ (fun q=>hb ⟨q2,?_,?_⟩) (fun q=>ha ⟨q2,?_,?_⟩)
          · rw [← len_at];exact q.1
          · rw [ext_toList];exact q.2
          · rw [← len_at];exact q.1
          · rw [ext_toList];exact q.2
        · rw [if_neg q2,if_neg q2]
          by_cases q3:sc=3
          · rw [if_pos q3,if_pos q3];exact Att.ref_pair _
          · rw [if_neg q3,if_neg q3];rfl
     have:=ratt_list sc s _ w rfl (list_bd sc) hs (fun q z=>hb ⟨q,z⟩) (fun q z=>ha ⟨q,z⟩)
     rw [e,rat_same sc s e] at this
     exact this
end
end Go.Proofs.YtcejjdmnlejbaaaGreatDoor
