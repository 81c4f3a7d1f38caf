import Derived.Test.YtfoedbfkddoibaaGreatGi
import Derived.Test.YtfoedbfkddoibaaGreatGh
import Derived.OwnWalk
import Derived.Test.YtfoedbfkddoibaaGreatGa
namespace Go.Proofs.YtfoedbfkddoibaaGreat
section
set_option linter.unusedVariables false
set_option linter.unusedSimpArgs false
open Go.ChangeShapes Go.WideShapes Go.ChangeAt Go.RowKit
open Go.Deep (BT)
def FdCells (w:World) (B O:Nat) (f:Fd) (m:Nat):Prop:=w.cell? ⟨B,O,none⟩=some (.int .i64 f.op)∧w.cell? ⟨B,O+1,none⟩=some (.int .i64 f.num)∧w.cell? ⟨B,O+2,none⟩=some (.slice f.ptr m f.cap)
def ValC (b o:Nat) (f:Fd) (k:Ff):Prop:=∀ (w:World) (v:Value) (vals:List Int) (B O n:Nat),
 IntsAt w v vals→vals.length=n→n≤9223372036854775807→(∀ x ∈ vals,i64B x)→FdCells w B O f (flen k)→(k≠.nil→f.ptr=some ⟨b,o,none⟩)→FmAt w k b o→fOk1 n f (flen k)→flen k≤9223372036854775807→fOk n k →
 Calls Tryz.prog 120 #[.pointer (some ⟨B,O,none⟩),v] w fun e w'=>e=.returned (.int .i64 (fv1 vals f (fvF vals k)))∧Below w.heap.size w w'
theorem child_val {v:Value} {vals:List Int} {n:Nat} (hn:vals.length=n) (hn2:n≤9223372036854775807) (hvb:∀ x ∈ vals,i64B x):∀ (k:Ff) (w:World) (b o i:Nat),IntsAt w v vals→AllG ValC k→FmAt w k b o→fOk n k→i < flen k →
 Calls Tryz.prog 120 #[.pointer (some ⟨b,o+i * 3,none⟩),v] w fun e w'=>e=.returned (.int .i64 ((fvF vals k).getD i 0))∧Below w.heap.size w w':=by
 intro k
 induction k with
 | nil=>intro w b o i _ _ _ _ hi;simp [flen] at hi
 | node b1 o1 f1 k1 r ihk ihr =>
   intro w b o i hv hall hat hok hi
   obtain ⟨hc,hp,hk,hr⟩:=hat
   obtain ⟨hok1,h63,hokk,hokr⟩:=hok
   cases i with
   | zero =>
     rw [Nat.zero_mul,Nat.add_zero]
     exact hall.1 w v vals b o n hv hn hn2 hvb hc hp hk hok1 h63 hokk
   | succ i =>
     have:=ihr w b (o+3) i hv hall.2 hr hokr (by simp [flen] at hi;omega)
     rw [show o+3+i * 3=o+(i+1) * 3 by omega] at this
     exact this
set_option maxHeartbeats 8000000 in
set_option maxRecDepth 100000 in
theorem value_any (b o:Nat) (f:Fd) (k:Ff):ValC b o f k:=by
 refine treeG_of (P:=ValC) ?_ b o f k
 clear b o f k
 intro b o f k ih w v vals B O n hv hn hn2 hvb hc hp hat hok1 hk63 hok
 obtain ⟨op,num,ptr,cap⟩:=f
 obtain ⟨c0,c1,c2⟩:=hc
 dsimp only at c0 c1 c2 hp
 have CH:Hid (∀ i,i < flen k→∀ w',Below w.heap.size w w'→Calls Tryz.prog 120 #[.pointer (some ⟨b,o+i * 3,none⟩),v] w' fun e w''=>e=.returned (.int .i64 ((fvF vals k).getD i 0))∧Below w'.heap.size w' w'') :=
  fun i hi w' hb=>child_val hn hn2 hvb k w' b o i (hv.next hb) ih (hat.next hb) hok hi
 have LV:=Lib.hid (fvF_i64 n vals hvb k hok)
 have LL:=Lib.hid (fvF_len vals k)
 have HV:=Lib.hid hv
 have R:Hid (fv1 vals ⟨op,num,ptr,cap⟩ (fvF vals k)=if op=1 then num else if op=6 then vals.getD num.toNat 0 else opV op (fvF vals k)):=rfl
 have HP:=Lib.hid hp
 generalize fv1 vals ⟨op,num,ptr,cap⟩ (fvF vals k)=R0 at *
 generalize fvF vals k=L at *
 obtain ⟨hnum,hcase⟩:=hok1
 dsimp only at hnum hcase
 have HN:=Lib.hid hn
 clear ih hat hok hp hv hvb hnum hn
 have PT:Hid (1≤flen k→ptr=some ⟨b,o,none⟩):=fun q=>HP.out (by rintro rfl;simp [flen] at q)
 generalize flen k=m at *
 clear HP
 rcases hcase with rfl|⟨rfl,h60,h61⟩|⟨h145,rfl⟩|⟨h123,hm⟩|⟨h719,rfl⟩|⟨h2,rfl⟩
 · have RQ:Hid (R0=num):=R.out
   go_enter Tryz.func120,Tryz.ntmps120
   go_wp2
   go_ret
   exact ⟨ret_int RQ.out.symm,Below.refl _ _⟩
 · obtain ⟨j,rfl⟩:=Int.eq_ofNat_of_zero_le h60
   have RQ:Hid (R0=vals.getD j 0):=R.out
   rcases HV.out with ⟨rfl,-⟩|⟨g,gc,rfl,hg⟩
   · have:=HN.out;simp at this;omega
   · have hj:j < vals.length:=by rw [HN.out];omega
     have k1:=hg j _ (List.getElem?_eq_getElem hj)
     have RZ:Hid (R0=vals[j]):=by unfold Hid;rw [RQ.out,List.getD_eq_getElem?_getD,List.getElem?_eq_getElem hj];rfl
     generalize vals[j]=xj at *
     have j1:(j:Int) < (vals.length:Int):=by omega
     have j0:(0:Int)≤(j:Int):=by omega
     clear hg h60 h61
     go_enter Tryz.func120,Tryz.ntmps120
     go_wp2
     go_ret
     exact ⟨ret_int RZ.out.symm,Below.refl _ _⟩
 · obtain rfl:=PT.out (by omega)
   have C0:Hid (∀ w',Below w.heap.size w w'→Calls Tryz.prog 120 #[.pointer (some ⟨b,o,none⟩),v] w' fun e w''=>e=.returned (.int .i64 (L.getD 0 0))∧Below w'.heap.size w' w''):=fun w' hb=>by have:=CH.out 0 (by omega) w' hb;simpa using this
   have C1:Hid (∀ w',Below w.heap.size w w'→Calls Tryz.prog 120 #[.pointer (some ⟨b,o+3,none⟩),v] w' fun e w''=>e=.returned (.int .i64 (L.getD 1 0))∧Below w'.heap.size w' w''):=fun w' hb=>CH.out 1 (by omega) w' hb
   have C2:Hid (∀ w',Below w.heap.size w w'→Calls Tryz.prog 120 #[.pointer (some ⟨b,o+6,none⟩),v] w' fun e w''=>e=.returned (.int .i64 (L.getD 2 0))∧Below w'.heap.size w' w''):=fun w' hb=>CH.out 2 (by omega) w' hb
   rcases h145 with rfl|rfl
   · have RQ:Hid (R0=if L.getD 0 0≠0 then L.getD 1 0 else L.getD 2 0):=R.out
     clear R CH
     generalize L.getD 0 0=x0 at *
     generalize L.getD 1 0=x1 at *
     generalize L.getD 2 0=x2 at *
     go_enter Tryz.func120,Tryz.ntmps120
     go_wp2_with fail
     refine (C0.out w (Below.refl _ _)).mono ?_
     rintro e w1 ⟨rfl,hb⟩
     have d2:w1.cell? ⟨B,O+2,none⟩=some (.slice (some ⟨b,o,none⟩) 3 cap):=by rw [hb.cell (block_lt_of_cell c2)];exact c2
     have B1:=Lib.hid hb
     clear hb c0 c1 c2
     by_cases h0:x0=0
     · have b0:(x0 != 0)=false:=by simp [h0]
       have RZ:Hid (R0=x2):=by unfold Hid;rw [RQ.out];simp [h0]
       clear h0
       go_wp2_with fail
       refine (C2.out w1 B1.out).mono ?_
       rintro e w2 ⟨rfl,hb⟩
       have B2:=Lib.hid (B1.out.trans (hb.mono B1.out.size))
       clear hb
       go_wp2
       go_ret
       exact ⟨ret_int RZ.out.symm,B2.out⟩
     · have b0:(x0 != 0)=true:=by simp [h0]
       have RZ:Hid (R0=x1):=by unfold Hid;rw [RQ.out];simp [h0]
       clear h0
       go_wp2_with fail
       refine (C1.out w1 B1.out).mono ?_
       rintro e w2 ⟨rfl,hb⟩
       have B2:=Lib.hid (B1.out.trans (hb.mono B1.out.size))
       clear hb
       go_wp2
       go_ret
       exact ⟨ret_int RZ.out.symm,B2.out⟩
   · have RQ:Hid (R0=flagI (bandB (L.getD 0 0) (L.getD 1 0) (L.getD 2 0))):=R.out
     clear R CH
     generalize L.getD 0 0=x0 at *
     generalize L.getD 1 0=x1 at *
     generalize L.getD 2 0=x2 at *
     have Q0:Hid (∀ dq os,Calls Tryz.prog 120 #[.pointer (some ⟨b,o,none⟩),v] (Sort.grow (redrawn w dq) os) fun e w''=>e=.returned (.int .i64 x0)∧∃ p:Regrown,w''=Sort.grow (redrawn w p.d) p.os):=fun dq os=>Calls.regrown_of (C0.out _ (below_regrown w dq os))
     have Q1:Hid (∀ dq os,Calls Tryz.prog 120 #[.pointer (some ⟨b,o+3,none⟩),v] (Sort.grow (redrawn w dq) os) fun e w''=>e=.returned (.int .i64 x1)∧∃ p:Regrown,w''=Sort.grow (redrawn w p.d) p.os):=fun dq os=>Calls.regrown_of (C1.out _ (below_regrown w dq os))
     have Q2:Hid (∀ dq os,Calls Tryz.prog 120 #[.pointer (some ⟨b,o+6,none⟩),v] (Sort.grow (redrawn w dq) os) fun e w''=>e=.returned (.int .i64 x2)∧∃ p:Regrown,w''=Sort.grow (redrawn w p.d) p.os):=fun dq os=>Calls.regrown_of (C2.out _ (below_regrown w dq os))
     have Q3:Hid (∀ dq os,Calls Tryz.prog 158 #[.int .i64 x0,.int .i64 x1,.int .i64 x2] (Sort.grow (redrawn w dq) os) fun e w''=>e=.returned (.bool (bandB x0 x1 x2))∧∃ p:Regrown,w''=Sort.grow (redrawn w p.d) p.os):=fun dq os=>Calls.regrown_of ((band_any x0 x1 x2 _).mono fun e w' h=>⟨h.1,by rw [← h.2];exact Below.refl _ _⟩)
     have Q4:Hid (∀ bb dq os,Calls Tryz.prog 157 #[.bool bb] (Sort.grow (redrawn w dq) os) fun e w''=>e=.returned (.int .i64 (flagI bb))∧∃ p:Regrown,w''=Sort.grow (redrawn w p.d) p.os):=fun bb dq os=>Calls.regrown_of ((truth_any bb _).mono fun e w' h=>⟨h.1,by rw [← h.2];exact Below.refl _ _⟩)
     generalize bandB x0 x1 x2=bb at *
     have e2:=fun d os=>cell_regrown c2 d os
     go_enter Tryz.func120,Tryz.ntmps120
     go_upto_region 22 with (fail)
     refine wp_region_quiet_below (by kernel_rfl) (by kernel_rfl) ?_
     repeat (quiet_step (with_reducible first|exact Q0.out _ _|exact Q1.out _ _|exact Q2.out _ _|exact Q3.out _ _|exact Q4.out _ _ _))
     refine wpQuiet_nil ?_
     intro _ hw'
     obtain ⟨⟨dq,osq⟩,hw''⟩:=hw'
     subst hw''
     go_wp2
     go_ret
     exact ⟨ret_int RQ.out.symm,below_regrown w dq osq⟩
 · obtain rfl:=PT.out (by omega)
   rcases h123 with rfl|rfl
   · have RQ:Hid (R0=minL (L.getD 0 0) (L.drop 1)):=R.out
     have C0:Hid (∀ w',Below w.heap.size w w'→Calls Tryz.prog 120 #[.pointer (some ⟨b,o,none⟩),v] w' fun e w''=>e=.returned (.int .i64 (L.getD 0 0))∧Below w'.heap.size w' w''):=fun w' hb=>by have:=CH.out 0 (by omega) w' hb;simpa using this
     clear R
     have h0m:(0:Int) < (m:Int):=by omega
     go_enter Tryz.func120,Tryz.ntmps120
     go_wp2_with fail
     refine (C0.out w (Below.refl _ _)).mono ?_
     rintro e w1 ⟨rfl,hb⟩
     have B1:=Lib.hid hb
     clear hb
     go_wp2_with fail
     go_loopw [5,6] (fun nv i wr=>∃ (j:Nat) (acc:Int),j≤m∧i=.int .i64 j∧nv=.int .i64 acc∧Hid (minL acc (L.drop j)=R0∧Below w.heap.size w wr)) (fun _ i _=>m - (intOf i).toNat)
     case atStart=>exact ⟨1,_,hm,rfl,rfl,RQ.out.symm,B1.out⟩
     case round =>
      obtain ⟨j,acc,hj,rfl,rfl,HR⟩:=hrel
      have d0:wr.cell? ⟨B,O,none⟩=some (.int .i64 12):=by rw [HR.out.2.cell (block_lt_of_cell c0)];exact c0
      have d2:wr.cell? ⟨B,O+2,none⟩=some (.slice (some ⟨b,o,none⟩) m cap):=by rw [HR.out.2.cell (block_lt_of_cell c2)];exact c2
      by_cases hlt:j < m
      · have hj1:(j:Int) < (m:Int):=by omega
        have hj0:(0:Int)≤(j:Int):=by omega
        have CJ:=Lib.hid (CH.out j hlt wr HR.out.2)
        have ST:Hid (minL acc (L.drop j)=minL (min acc (L.getD j 0)) (L.drop (j+1))):=by
         have hjl:j < L.length:=by rw [LL.out];exact hlt
         unfold Hid
         rw [List.drop_eq_getElem_cons hjl,List.getD_eq_getElem?_getD,List.getElem?_eq_getElem hjl]
         rfl
        generalize L.getD j 0=xj at *
        go_wp2_with fail
        refine CJ.out.mono ?_
        rintro e w2 ⟨rfl,hb⟩
        have B2:=Lib.hid (HR.out.2.trans (hb.mono HR.out.2.size))
        have k0:w2.cell? ⟨B,O,none⟩=some (.int .i64 12):=by rw [hb.cell (block_lt_of_cell d0)];exact d0
        clear hb d0 d2
        go_wp2
        all_goals (
         go_roundw
         case rel=>exact ⟨j+1,min acc xj,by omega,by go_num,by first|rfl|(congr 1;omega),by have:=HR.out.1;rw [ST.out] at this;exact this,B2.out⟩
         case measure=>(simp [intOf];omega))
      · have hj1:¬ (j:Int) < (m:Int):=by omega
        have RZ:Hid (R0=acc):=by
         have:=HR.out.1
         rw [List.drop_eq_nil_of_le (by rw [LL.out];omega)] at this
         exact this.symm
        go_wp2
        go_ret
        exact ⟨ret_int RZ.out.symm,HR.out.2⟩
   · have RQ:Hid (R0=maxL (L.getD 0 0) (L.drop 1)):=R.out
     have C0:Hid (∀ w',Below w.heap.size w w'→Calls Tryz.prog 120 #[.pointer (some ⟨b,o,none⟩),v] w' fun e w''=>e=.returned (.int .i64 (L.getD 0 0))∧Below w'.heap.size w' w''):=fun w' hb=>by have:=CH.out 0 (by omega) w' hb;simpa using this
     clear R
     have h0m:(0:Int) < (m:Int):=by omega
     go_enter Tryz.func120,Tryz.ntmps120
     go_wp2_with fail
     refine (C0.out w (Below.refl _ _)).mono ?_
     rintro e w1 ⟨rfl,hb⟩
     have B1:=Lib.hid hb
     clear hb
     go_wp2_with fail
     go_loopw [5,6] (fun nv i wr=>∃ (j:Nat) (acc:Int),j≤m∧i=.int .i64 j∧nv=.int .i64 acc∧Hid (maxL acc (L.drop j)=R0∧Below w.heap.size w wr)) (fun _ i _=>m - (intOf i).toNat)
     case atStart=>exact ⟨1,_,hm,rfl,rfl,RQ.out.symm,B1.out⟩
     case round =>
      obtain ⟨j,acc,hj,rfl,rfl,HR⟩:=hrel
      have d0:wr.cell? ⟨B,O,none⟩=some (.int .i64 13):=by rw [HR.out.2.cell (block_lt_of_cell c0)];exact c0
      have d2:wr.cell? ⟨B,O+2,none⟩=some (.slice (some ⟨b,o,none⟩) m cap):=by rw [HR.out.2.cell (block_lt_of_cell c2)];exact c2
      by_cases hlt:j < m
      · have hj1:(j:Int) < (m:Int):=by omega
        have hj0:(0:Int)≤(j:Int):=by omega
        have CJ:=Lib.hid (CH.out j hlt wr HR.out.2)
        have ST:Hid (maxL acc (L.drop j)=maxL (max acc (L.getD j 0)) (L.drop (j+1))):=by
         have hjl:j < L.length:=by rw [LL.out];exact hlt
         unfold Hid
         rw [List.drop_eq_getElem_cons hjl,List.getD_eq_getElem?_getD,List.getElem?_eq_getElem hjl]
         rfl
        generalize L.getD j 0=xj at *
        go_wp2_with fail
        refine CJ.out.mono ?_
        rintro e w2 ⟨rfl,hb⟩
        have B2:=Lib.hid (HR.out.2.trans (hb.mono HR.out.2.size))
        have k0:w2.cell? ⟨B,O,none⟩=some (.int .i64 13):=by rw [hb.cell (block_lt_of_cell d0)];exact d0
        clear hb d0 d2
        go_wp2
        all_goals (
         go_roundw
         case rel=>exact ⟨j+1,max acc xj,by omega,by go_num,by first|rfl|(congr 1;omega),by have:=HR.out.1;rw [ST.out] at this;exact this,B2.out⟩
         case measure=>(simp [intOf];omega))
      · have hj1:¬ (j:Int) < (m:Int):=by omega
        have RZ:Hid (R0=acc):=by
         have:=HR.out.1
         rw [List.drop_eq_nil_of_le (by rw [LL.out];omega)] at this
         exact this.symm
        go_wp2
        go_ret
        exact ⟨ret_int RZ.out.symm,HR.out.2⟩
 · obtain rfl:=PT.out (by omega)
   have C0:Hid (∀ w',Below w.heap.size w w'→Calls Tryz.prog 120 #[.pointer (some ⟨b,o,none⟩),v] w' fun e w''=>e=.returned (.int .i64 (L.getD 0 0))∧Below w'.heap.size w' w''):=fun w' hb=>by have:=CH.out 0 (by omega) w' hb;simpa using this
   have LB:=Lib.hid (getD_i64 L 0 LV.out)
   rcases h719 with rfl|rfl
   · have RQ:Hid (R0=addV 0 (negV (L.getD 0 0))):=R.out
     clear R CH
     generalize L.getD 0 0=x0 at *
     obtain ⟨nb,hnb⟩:∃ nb,IntKind.i64.wrap (-x0)=nb:=⟨_,rfl⟩
     have HN2:Hid (i64B nb):=by unfold Hid;rw [← hnb];exact wrap_i64B _
     have RZ:Hid (R0=addV 0 nb):=by unfold Hid;rw [RQ.out,← hnb];rfl
     clear RQ
     go_enter Tryz.func120,Tryz.ntmps120
     go_wp2_with fail
     refine (C0.out w (Below.refl _ _)).mono ?_
     rintro e w1 ⟨rfl,hb⟩
     have B1:=Lib.hid hb
     clear hb
     go_wp2_with (go_at_call 159;refine (fadd_any 0 nb _ (by unfold i64B;decide) HN2.out).mono ?_;rintro e w' ⟨rfl,rfl⟩)
     go_ret
     exact ⟨ret_int RZ.out.symm,B1.out⟩
   · have RQ:Hid (R0=notV (L.getD 0 0)):=R.out
     clear R CH
     generalize L.getD 0 0=x0 at *
     obtain ⟨nb,hnb⟩:∃ nb,IntKind.i64.wrap (1 - x0)=nb:=⟨_,rfl⟩
     have RZ:Hid (R0=nb):=by unfold Hid;rw [RQ.out,← hnb];rfl
     clear RQ
     go_enter Tryz.func120,Tryz.ntmps120
     go_wp2_with fail
     refine (C0.out w (Below.refl _ _)).mono ?_
     rintro e w1 ⟨rfl,hb⟩
     have B1:=Lib.hid hb
     clear hb
     go_wp2
     go_ret
     exact ⟨ret_int RZ.out.symm,B1.out⟩
 · obtain rfl:=PT.out (by omega)
   have C0:Hid (∀ w',Below w.heap.size w w'→Calls Tryz.prog 120 #[.pointer (some ⟨b,o,none⟩),v] w' fun e w''=>e=.returned (.int .i64 (L.getD 0 0))∧Below w'.heap.size w' w''):=fun w' hb=>by have:=CH.out 0 (by omega) w' hb;simpa using this
   have C1:Hid (∀ w',Below w.heap.size w w'→Calls Tryz.prog 120 #[.pointer (some ⟨b,o+3,none⟩),v] w' fun e w''=>e=.returned (.int .i64 (L.getD 1 0))∧Below w'.heap.size w' w''):=fun w' hb=>CH.out 1 (by omega) w' hb
   have LB0:=Lib.hid (getD_i64 L 0 LV.out)
   have LB1:=Lib.hid (getD_i64 L 1 LV.out)
   have RQ:Hid (R0=cmbV op (L.getD 0 0) (L.getD 1 0)):=by
    unfold Hid;rw [R.out,if_neg (by omega),if_neg (by omega)]
    unfold opV
    rw [if_neg (by omega),if_neg (by omega),if_neg (by omega),if_neg (by omega),if_neg (by omega),if_neg (by omega)]
   have HO:=Lib.hid h2
   have n1:(op==1)=false:=by simp;omega
   have n6:(op==6)=false:=by simp;omega
   have n14:(op==14)=false:=by simp;omega
   have n12:(op==12)=false:=by simp;omega
   have n13:(op==13)=false:=by simp;omega
   have n15:(op==15)=false:=by simp;omega
   have n7:(op==7)=false:=by simp;omega
   have n19:(op==19)=false:=by simp;omega
   clear R CH h2
   generalize L.getD 0 0=x0 at *
   generalize L.getD 1 0=x1 at *
   have Q0:Hid (∀ dq os,Calls Tryz.prog 120 #[.pointer (some ⟨b,o,none⟩),v] (Sort.grow (redrawn w dq) os) fun e w''=>e=.returned (.int .i64 x0)∧∃ p:Regrown,w''=Sort.grow (redrawn w p.d) p.os):=fun dq os=>Calls.regrown_of (C0.out _ (below_regrown w dq os))
   have Q1:Hid (∀ dq os,Calls Tryz.prog 120 #[.pointer (some ⟨b,o+3,none⟩),v] (Sort.grow (redrawn w dq) os) fun e w''=>e=.returned (.int .i64 x1)∧∃ p:Regrown,w''=Sort.grow (redrawn w p.d) p.os):=fun dq os=>Calls.regrown_of (C1.out _ (below_regrown w dq os))
   have Q2:Hid (∀ dq os,Calls Tryz.prog 160 #[.int .i64 op,.int .i64 x0,.int .i64 x1] (Sort.grow (redrawn w dq) os) fun e w''=>e=.returned (.int .i64 (cmbV op x0 x1))∧∃ p:Regrown,w''=Sort.grow (redrawn w p.d) p.os):=fun dq os=>Calls.regrown_of ((combine_any op x0 x1 _ LB0.out LB1.out HO.out).mono fun e w' h=>⟨h.1,by rw [← h.2];exact Below.refl _ _⟩)
   generalize cmbV op x0 x1=cv at *
   have e0:=fun d os=>cell_regrown c0 d os
   have e2:=fun d os=>cell_regrown c2 d os
   go_enter Tryz.func120,Tryz.ntmps120
   go_upto_region 27 with (fail)
   refine wp_region_quiet_below (by kernel_rfl) (by kernel_rfl) ?_
   repeat (quiet_step (with_reducible first|exact Q0.out _ _|exact Q1.out _ _|exact Q2.out _ _))
   refine wpQuiet_nil ?_
   intro _ hw'
   obtain ⟨⟨dq,osq⟩,hw''⟩:=hw'
   subst hw''
   go_wp2
   go_ret
   exact ⟨ret_int RQ.out.symm,below_regrown w dq osq⟩
end
section
set_option linter.unusedVariables false
set_option linter.unusedSimpArgs false
open Go.ChangeShapes Go.WideShapes Go.ChangeAt Go.RowKit
open Go.Maps (has size IsMap)
open Go.Deep (BT)
def NP (w:World) (cs:List Cn) (p:Option Addr) (cap kb ib mb:Nat) (R:Int × Int) (e:Ending) (w':World):Prop :=
 e=.returned (.tuple #[.int .i64 R.1,.int .i64 R.2])∧ChkJ Tryz.prog w' kb ib mb cs cs.length p cap∧w.grownBy w' (some mb)
def NodeC (n:Nat) (b o:Nat) (a:Nd) (k:Fo):Prop:=∀ (w:World) (cs:List Cn) (p:Option Addr) (cap kb ib mb:Nat) (sc:Int),
 n≤cs.length→ChkJ Tryz.prog w kb ib mb cs cs.length p cap→CsV w cs p→ExAt w b o a k→ExOk a k→(wfB a (len k) && wfT k)=true→sz k≤200 →
 Calls Tryz.prog 111 #[.pointer (some ⟨kb,0,none⟩),.int .i64 sc,.int .i64 n,.agg #[.int .i64 a.op,.int .i64 a.num,.string a.name,.slice a.ptr (len k) a.cap]] w (NP w cs p cap kb ib mb (tyT (lookT cs (tabN cs n)) sc a k))
def ConstC (i:Nat):Prop:=∀ (w:World) (cs:List Cn) (p:Option Addr) (cap kb ib mb:Nat),
 i < cs.length→ChkJ Tryz.prog w kb ib mb cs cs.length p cap→CsV w cs p →
 Calls Tryz.prog 94 #[.pointer (some ⟨kb,0,none⟩),.int .i64 i] w (NP w cs p cap kb ib mb (rowT cs i))
theorem made_ints (n:Nat):(madeCells #[Value.int .i64 0] n).toList=intV (List.replicate n 0):=by
 unfold madeCells intV
 apply List.ext_getElem
 · simp
 · intro i h1 h2
   simp [Nat.mod_one]
theorem set_ints (L:List Int) (m:Nat) (y:Int):(intV (L++List.replicate (m+1) 0)).set L.length (.int .i64 y)=intV ((L++[y])++List.replicate m 0):=by
 unfold intV
 rw [List.map_append,List.set_append_right _ _ (by simp)]
 simp [List.replicate_succ]
set_option maxHeartbeats 4000000 in
set_option maxRecDepth 100000 in
theorem node_of (n:Nat) (ihc:∀ i,i < n→ConstC i) (b o:Nat) (a:Nd) (k:Fo):NodeC n b o a k:=by
 refine tree_of (P:=NodeC n) ?_ b o a k
 clear b o a k
 intro b o a k ih w cs p cap kb ib mb sc hn hch hcs hx hok hwf hz
 obtain ⟨op,num,name,ptr,acap⟩:=a
 obtain ⟨i0,hi,hi0,hi1,hi2⟩:=info_parts Tryz.infoI
 show Calls Tryz.prog 111 #[.pointer (some ⟨kb,0,none⟩),.int .i64 sc,.int .i64 n,.agg #[.int .i64 op,.int .i64 num,.string name,.slice ptr (len k) acap]] w _
 have IH:=Lib.hid ih
 have IHC:=Lib.hid ihc
 have HX:=Lib.hid hx
 have HOK:=Lib.hid hok
 have HW:=Lib.hid hwf
 have HZ:=Lib.hid hz
 have HCS:=Lib.hid hcs
 have HCH:=Lib.hid hch
 have hk:len k≤200:=Nat.le_trans (len_le_sz k) hz
 have hN:n≤2932031007402:=Nat.le_trans hn hcs.small
 have hs:name.size≤9223372036854775807:=hok.1.2.2.1
 have hkb:kb < w.heap.size:=hch.lt
 clear ih ihc hx hok hwf hz hcs hch
 obtain ⟨R,hR⟩:∃ R,R=tyT (lookT cs (tabN cs n)) sc ⟨op,num,name,ptr,acap⟩ k:=⟨_,rfl⟩
 have V:Hid (R=if op=6 then nameT (lookT cs (tabN cs n)) sc name else if (tyF (lookT cs (tabN cs n)) sc k).1=0 then (if resT op (tyF (lookT cs (tabN cs n)) sc k).2=0 then (0,9) else (resT op (tyF (lookT cs (tabN cs n)) sc k).2,0)) else (0,(tyF (lookT cs (tabN cs n)) sc k).1)):=hR
 rw [← hR]
 clear hR
 go_enter Tryz.func111,Tryz.ntmps111
 by_cases h6:op=6
 · have b6:(op==6)=true:=by simp [h6]
   have RR:Hid (R=nameT (lookT cs (tabN cs n)) sc name):=by unfold Hid;rw [V.out,if_pos h6]
   have N:Hid (nameT (lookT cs (tabN cs n)) sc name=if atE sc name=0 then (atS sc name,0) else lookT cs (tabN cs n) name):=rfl
   clear h6 V
   go_wp2_with fail
   refine (attr_any sc name _).mono ?_
   rintro e w1 ⟨rfl,hw⟩
   subst hw
   have B0:Hid (Below w.heap.size w (w.alloc (.cells #[.int .i64 op,.int .i64 num,.string name,.slice ptr (len k) acap] 25))):=(Below.refl _ _).alloc (Nat.le_refl _) _
   have x2:(w.alloc (.cells #[.int .i64 op,.int .i64 num,.string name,.slice ptr (len k) acap] 25)).cell? ⟨w.heap.size,2,none⟩=some (.string name):=by simp [go_sem]
   generalize w.alloc (.cells #[.int .i64 op,.int .i64 num,.string name,.slice ptr (len k) acap] 25)=wa at *
   have CH:=Lib.hid (HCH.out.next B0.out)
   by_cases h0:atE sc name=0
   · have RQ:Hid (R=(atS sc name,0)):=by unfold Hid;rw [RR.out,N.out,if_pos h0]
     have b0:(atE sc name==0)=true:=by simp [h0]
     clear h0
     go_wp2
     go_ret2
     exact ⟨by rw [RQ.out];rfl,CH.out,grw_of_below _ B0.out⟩
   · have RQ:Hid (R=match firstIx name cs with|some i=>if i < n then rowT cs i else (0,6)|none=>(0,6)):=by unfold Hid;rw [RR.out,N.out,if_neg h0,lookT_tab];cases firstIx name cs<;>rfl
     have b0:(atE sc name==0)=false:=by simp [h0]
     clear h0 RR N
     go_upto_region 5 with (fail)
     have C1:=Lib.hid (CH.out.next (Below.refl _ _).drew)
     have B1:=Lib.hid (B0.out.drew)
     obtain ⟨v,hb,hrun,hv⟩:=ix_look (w:=wa.drew) C1.out.ix name hs
     have HV:=Lib.hid hv
     clear hv
     have y0:=CH.out.c1
     go_region
     clear hrun
     cases hf:firstIx name cs with
     | none =>
       have RZ:Hid (R=(0,6)):=by unfold Hid;rw [RQ.out,hf]
       have hq:hb=false:=by have:=HV.out;rw [List.take_length,hf] at this;exact this
       subst hq
       clear hf RQ HV
       go_wp2
       go_ret2
       exact ⟨by rw [RZ.out];rfl,C1.out,grw_of_below _ B1.out⟩
     | some i =>
       have hq:hb=true∧v=i:=by have:=HV.out;rw [List.take_length,hf] at this;exact this
       obtain ⟨hq1,hq2⟩:=hq
       subst hq1
       subst hq2
       have IL:=Lib.hid (firstIx_lt name cs i hf)
       by_cases hi:i < n
       · have RZ:Hid (R=rowT cs i):=by unfold Hid;rw [RQ.out,hf];exact if_pos hi
         have hi1:(i:Int) < (n:Int):=by omega
         have HI:=Lib.hid hi
         clear hf RQ HV hi
         go_wp2_with fail
         refine (IHC.out i HI.out _ cs p cap kb ib mb IL.out C1.out (HCS.out.next B1.out)).mono ?_
         rw [← RZ.out]
         rintro e w3 ⟨rfl,ch3,g3⟩
         have CH3:=Lib.hid ch3
         have G3:=Lib.hid g3
         clear ch3 g3
         go_wp2
         go_ret2
         exact ⟨rfl,CH3.out,(grw_of_below _ B1.out).trans G3.out⟩
       · have RZ:Hid (R=(0,6)):=by unfold Hid;rw [RQ.out,hf];exact if_neg hi
         have hi1:¬ (i:Int) < (n:Int):=by omega
         clear hf RQ HV hi
         go_wp2
         go_ret2
         exact ⟨by rw [RZ.out];rfl,C1.out,grw_of_below _ B1.out⟩
 · have b6 : (op==6)=false:=by simp [h6]
   have hmb:mb < w.heap.size:=HCH.out.kn.lt
   have hib:ib < w.heap.size:=HCH.out.ix.lt
   go_wp2_with (refine wpList_make_full _ rfl _ _ 33 rfl (w.heap.size+1) 3 i0 (.int .i64 0) 1 Tryz.underlying33 hi hi0 hi1 .i64 .i64 _ _ (len k) rfl rfl rfl rfl ?m1 ?m2 ?m3 ?_)
   case m1=>rw [hi2];omega
   case m2=>unfold maxLen;omega
   case m3=>simp
   intro w2 hown hgrow
   have BA:Hid (Below w.heap.size w (w.alloc (.cells #[.int .i64 op,.int .i64 num,.string name,.slice ptr (len k) acap] 25))):=(Below.refl _ _).alloc (Nat.le_refl _) _
   have BG:Hid (Below (w.heap.size+1) (w.alloc (.cells #[.int .i64 op,.int .i64 num,.string name,.slice ptr (len k) acap] 25)) w2):=(Below.refl _ _).grown hgrow (by simp) (fun m hm=>by cases hm)
   have B0:Hid (Below w.heap.size w w2):=BA.out.trans (BG.out.mono (by omega))
   have x0:w2.cell? ⟨w.heap.size,0,none⟩=some (.int .i64 op):=by rw [BG.out.cell (p:=⟨w.heap.size,0,none⟩) (by simp)];simp [go_sem]
   have x3:w2.cell? ⟨w.heap.size,3,none⟩=some (.slice ptr (len k) acap):=by rw [BG.out.cell (p:=⟨w.heap.size,3,none⟩) (by simp)];simp [go_sem]
   have OW0:Hid (w2.ownsRow (w.heap.size+1) 3 1 (.slice (some ⟨w.heap.size+1,0,none⟩) (len k) (len k)) (len k) (intV (List.replicate (len k) 0))):=by
    rw [made_ints] at hown
    exact hown
   clear hown hgrow BA BG
   go_wp2_with fail
   go_loopw [61] (fun i wr=>∃ (j:Nat) (r:Fo) (L:List Int),i=.int .i64 j∧w.heap.size+1 < wr.heap.size∧wr.cell? ⟨w.heap.size,0,none⟩=some (.int .i64 op)∧wr.cell? ⟨w.heap.size,3,none⟩=some (.slice ptr (len k) acap) ∧
    Hid (j+len r=len k∧FoAt wr r b (o+j * 4)∧FoOk r∧AllT (NodeC n) r∧wfT r=true∧sz r≤200∧L.length=j∧wr.ownsRow (w.heap.size+1) 3 1 (.slice (some ⟨w.heap.size+1,0,none⟩) (len k) (len k)) (len k) (intV (L++List.replicate (len r) 0)) ∧
     ChkJ Tryz.prog wr kb ib mb cs cs.length p cap∧w.grownBy wr (some mb)∧restF L (tyF (lookT cs (tabN cs n)) sc r)=tyF (lookT cs (tabN cs n)) sc k∧FoLt w.heap.size r b)) (fun i _=>len k - (intOf i).toNat)
   case atStart =>
    refine ⟨0,k,[],rfl,?_,x0,x3,by omega,?_,HOK.out.2,IH.out,?_,HZ.out,rfl,OW0.out,HCH.out.next B0.out,grw_of_below _ B0.out,restF_nil _ (tyF_err _ _ _),HX.out.2.lt⟩
    · exact (OW0.out.lt (w.heap.size+1) rfl).2
    · rw [Nat.zero_mul,Nat.add_zero];exact HX.out.2.next B0.out
    · have:=HW.out;rw [Bool.and_eq_true] at this;exact this.2
   case round =>
    obtain ⟨j,r,L,rfl,hsz,y0,y3,HR⟩:=hrel
    cases r with
    | nil =>
      have hj:¬ (j:Int) < (len k:Int):=by have:=HR.out.1;simp [len] at this;omega
      have F:Hid (tyF (lookT cs (tabN cs n)) sc k=(0,L)):=by
       have:=HR.out.2.2.2.2.2.2.2.2.2.2.1
       unfold Hid;rw [← this];simp [restF,tyF]
      have hjl:Hid (L.length=len k):=by
       have h1:=HR.out.1
       have h2:=HR.out.2.2.2.2.2.2.1
       simp [len] at h1;unfold Hid;omega
      have IT:Hid (IntsAt wr (.slice (some ⟨w.heap.size+1,0,none⟩) (len k) (len k)) L):=by
       have:=HR.out.2.2.2.2.2.2.2.1
       simp only [len,List.replicate_zero,List.append_nil] at this
       exact ints_of_own this
      have hr:1≤op∧op≤22∧argB op L.length=true:=by
       have h:=HW.out
       unfold wfB at h
       dsimp only at h
       rw [hjl.out]
       simp only [Bool.and_eq_true,decide_eq_true_eq] at h
       exact ⟨h.1.1.1.1.1,h.1.1.1.1.2,h.1.1.1.2⟩
      have RR:Hid (R=if resT op L=0 then (0,9) else (resT op L,0)):=by
       unfold Hid;rw [V.out,if_neg h6,F.out];simp
      have C:=Lib.hid (result_any op _ L wr IT.out (by rw [hjl.out];omega) hr.2.2 hr.1 hr.2.1 h6)
      clear V hr F h6
      go_wp2_with fail
      refine C.out.mono ?_
      generalize resT op L=z at *
      rintro e w1 ⟨rfl,hb⟩
      have B1:=Lib.hid hb
      clear hb C
      by_cases h0:z=0
      · have b0:(z != 0)=false:=by simp [h0]
        have RQ:Hid (R=(0,9)):=by unfold Hid;rw [RR.out,if_pos h0]
        clear h0
        go_wp2
        go_ret2
        exact ⟨by rw [RQ.out];rfl,HR.out.2.2.2.2.2.2.2.2.1.next B1.out,grw_below HR.out.2.2.2.2.2.2.2.2.2.1 (B1.out.mono HR.out.2.2.2.2.2.2.2.2.2.1.size)⟩
      · have b0:(z != 0)=true:=by simp [h0]
        have RQ:Hid (R=(z,0)):=by unfold Hid;rw [RR.out,if_neg h0]
        clear h0
        go_wp2
        go_ret2
        exact ⟨by rw [RQ.out];rfl,HR.out.2.2.2.2.2.2.2.2.1.next B1.out,grw_below HR.out.2.2.2.2.2.2.2.2.2.1 (B1.out.mono HR.out.2.2.2.2.2.2.2.2.2.1.size)⟩
    | node b1 o1 a1 k1 r1 =>
      have hj:j < len k:=by have:=HR.out.1;simp [len] at this;omega
      obtain rfl:ptr=some ⟨b,o,none⟩:=HX.out.1 (by rintro rfl;simp [len] at hj)
      obtain ⟨⟨c0,c1,c2,c3⟩,hp1,hk1,hr1⟩:=HR.out.2.1
      have X1:Hid (ExAt wr b1 o1 a1 k1):=⟨hp1,hk1⟩
      have N1:=Lib.hid hr1
      clear hp1 hk1 hr1
      have hj1:(j:Int) < (len k:Int):=by omega
      have hj0:(0:Int)≤(j:Int):=by omega
      have W1:Hid ((wfB a1 (len k1) && wfT k1)=true∧wfT r1=true):=by
       have h:((wfB a1 (len k1) && wfT k1) && wfT r1)=true:=HR.out.2.2.2.2.1
       rw [Bool.and_eq_true] at h;exact h
      have Z1:Hid (sz k1≤200∧sz r1≤200):=by
       have e1:sz (BT.node b1 o1 a1 k1 r1)=1+sz k1+sz r1:=rfl
       have:=HR.out.2.2.2.2.2.1
       rw [e1] at this
       exact ⟨by omega,by omega⟩
      go_wp2_with fail
      have BB:Hid (Below wr.heap.size wr (wr.alloc (.cells #[.int .i64 a1.op,.int .i64 a1.num,.string a1.name,.slice a1.ptr (len k1) a1.cap] 25))):=(Below.refl _ _).alloc (Nat.le_refl _) _
      generalize hwb:wr.alloc (.cells #[.int .i64 a1.op,.int .i64 a1.num,.string a1.name,.slice a1.ptr (len k1) a1.cap] 25)=wb at *
      have hzb:wr.heap.size≤wb.heap.size:=BB.out.size
      clear hwb
      have CHB:=Lib.hid (HR.out.2.2.2.2.2.2.2.2.1.next BB.out)
      have GB:Hid (w.grownBy wb (some mb)):=grw_below HR.out.2.2.2.2.2.2.2.2.2.1 (BB.out.mono HR.out.2.2.2.2.2.2.2.2.2.1.size)
      refine (HR.out.2.2.2.1.1 wb cs p cap kb ib mb sc hn CHB.out (HCS.out.keep (Keeps.of_grown HCH.out.kn GB.out)) (X1.out.next BB.out) ⟨HR.out.2.2.1.1,HR.out.2.2.1.2.1⟩ W1.out.1 Z1.out.1).mono ?_
      have ST:=Lib.hid (restF_node L (lookT cs (tabN cs n)) sc b1 o1 a1 k1 r1)
      generalize tyT (lookT cs (tabN cs n)) sc a1 k1=t1 at *
      obtain ⟨z1,z2⟩:=t1
      rintro e w1 ⟨rfl,ch1,g1⟩
      have CH1:=Lib.hid ch1
      have G1:=Lib.hid (GB.out.trans g1)
      have K1:Hid (Keeps wr w1):=(Keeps.of_below BB.out).trans (Keeps.of_grown CHB.out.kn g1)
      have hz1:w.heap.size+1 < w1.heap.size:=Nat.lt_of_lt_of_le hsz (Nat.le_trans hzb g1.size)
      have OW1:Hid (w1.ownsRow (w.heap.size+1) 3 1 (.slice (some ⟨w.heap.size+1,0,none⟩) (len k) (len k)) (len k) (intV (L++List.replicate (len r1+1) 0))):=by
       have:=(own_below HR.out.2.2.2.2.2.2.2.1 BB.out).kept g1 (.inr (by simp [Value.ownBlock];omega))
       exact this
      have u0:=K1.out _ _ y0
      have u3:=K1.out _ _ y3
      clear ch1 g1 y0 y3 c0 c1 c2 c3
      dsimp only at ST ⊢
      by_cases h0:z2=0
      · subst h0
        have S1:=Lib.hid (ST.out.1 rfl)
        have hLj:Hid (L.length=j):=HR.out.2.2.2.2.2.2.1
        have q1:w1.cell? ⟨w.heap.size+1,j,none⟩=some (.int .i64 0):=by
         rw [OW1.out.cellAt j (by omega)]
         unfold intV
         rw [List.getElem?_map,List.getElem?_append_right (by rw [hLj.out];omega),hLj.out]
         simp
        have q2:w1.frozen? ⟨w.heap.size+1,j,none⟩=false:=OW1.out.frozenAt j
        clear ST
        go_wp2
        have ST2:=Lib.hid (OW1.out.stored j (.int .i64 z1))
        have hbs:Hid (Below (w.heap.size+1) w1 (w1.setCell ⟨w.heap.size+1,j,none⟩ (.int .i64 z1))):=(Below.refl _ _).grown ST2.out.2 (by omega) (fun m hm=>by cases hm;exact Nat.le_refl _)
        go_roundw
        case rel =>
         obtain ⟨q1,-,q3,q4,-,-,q7,-,-,-,q10,q11⟩:=HR.out
         simp [len] at q1
         refine ⟨j+1,r1,L++[z1],by go_num,by simpa using hz1,?_,?_,by omega,?_,q3.2.2,q4.2,W1.out.2,Z1.out.2,by simp [q7],?_,CH1.out.grown ST2.out.2 (by simp;omega) (by simp;omega) (by simp;omega),grw_new G1.out ST2.out.2 (by omega),?_,q11.2.2⟩
         · rw [hbs.out.cell (p:=⟨w.heap.size,0,none⟩) (by simp)];exact u0
         · rw [hbs.out.cell (p:=⟨w.heap.size,3,none⟩) (by simp)];exact u3
         · rw [Nat.add_mul,Nat.one_mul,← Nat.add_assoc]
           exact (N1.out.keep K1.out).below (q11.2.2.mono (Nat.le_succ _)) hbs.out
         · have:=ST2.out.1
           have e:=set_ints L (len r1) z1
           rw [hLj.out] at e
           rw [e] at this
           exact this
         · rw [← S1.out];exact q10
        case measure=>simp [intOf];omega
      · have S1:=Lib.hid (ST.out.2 h0)
        have b0:(z2 != 0)=true:=by simp [h0]
        have RR:Hid (R=(0,z2)):=by
         unfold Hid
         rw [V.out,if_neg h6]
         have:=HR.out.2.2.2.2.2.2.2.2.2.2.1
         rw [← this,S1.out,if_neg h0]
        clear h0 ST
        go_wp2
        go_ret2
        exact ⟨by rw [RR.out];rfl,CH1.out,G1.out⟩
end
section
section
set_option linter.unusedVariables false
set_option linter.unusedSimpArgs false
open Go.ChangeShapes Go.WideShapes Go.ChangeAt Go.RowKit
open Go.Deep (BT)
structure Ch where
 b:Nat
 o:Nat
 a:Nd
 k:Fo
def rowF:List Ch→Fo
 | []=>.nil
 | c :: r=>.node c.b c.o c.a c.k (rowF r)
def chC (c:Ch):List Value:=[.int .i64 c.a.op,.int .i64 c.a.num,.string c.a.name,.slice c.a.ptr (len c.k) c.a.cap]
def rowC (l:List Ch):List Value:=l.flatMap chC
theorem rowF_len (l:List Ch):len (rowF l)=l.length:=by
 induction l with
 | nil=>rfl
 | cons c l ih=>simp [rowF,len,ih]
def FoGe (B0:Nat):Fo→Nat→Prop
 | .nil,_=>True
 | .node b _ _ k r,B=>B0≤B∧FoGe B0 k b∧FoGe B0 r B
theorem FoGe.mono {B0 B1:Nat} {T:Fo} {B:Nat} (h:FoGe B0 T B) (hb:B1≤B0):FoGe B1 T B:=by
 induction T generalizing B with
 | nil=>trivial
 | node b o a k r ihk ihr=>exact ⟨Nat.le_trans hb h.1,ihk h.2.1,ihr h.2.2⟩
theorem FoAt.grownGe {w w':World} {s B0:Nat} {T:Fo} {B O:Nat} (h:FoAt w T B O) (hn:FoGe B0 T B) (hs:s < B0) (hg:w.grownBy w' (some s)):FoAt w' T B O:=by
 induction T generalizing B O with
 | nil=>trivial
 | node b o a k r ihk ihr =>
   obtain ⟨⟨h0,h1,h2,h3⟩,hp,hk,hr⟩:=h
   obtain ⟨n0,nk,nr⟩:=hn
   have key:∀ (i:Nat) (u:Value),w.cell? ⟨B,i,none⟩=some u→w'.cell? ⟨B,i,none⟩=some u:=fun i u q=>by
    rw [World.cell?_of_block (hg.block B (block_lt_of_cell q) (fun e=>by have:=Option.some.inj e;omega))];exact q
   exact ⟨⟨key _ _ h0,key _ _ h1,key _ _ h2,key _ _ h3⟩,hp,ihk hk nk,ihr hr nr⟩
def ChAt (w:World) (B0:Nat) (c:Ch):Prop:=ExAt w c.b c.o c.a c.k∧FoGe B0 c.k c.b
theorem ChAt.grown {w w':World} {s B0:Nat} {c:Ch} (h:ChAt w B0 c) (hs:s < B0) (hg:w.grownBy w' (some s)):ChAt w' B0 c:=⟨⟨h.1.1,h.1.2.grownGe h.2 hs hg⟩,h.2⟩
theorem ChAt.next {w w':World} {B0:Nat} {c:Ch} (h:ChAt w B0 c) (hb:Below w.heap.size w w'):ChAt w' B0 c:=⟨h.1.next hb,h.2⟩
theorem ChAt.mono {w:World} {B0 B1:Nat} {c:Ch} (h:ChAt w B0 c) (hb:B1≤B0):ChAt w B1 c:=⟨h.1,h.2.mono hb⟩
theorem rowF_at {w:World} {B0 g O:Nat} (l:List Ch) (h:∀ c ∈ l,ChAt w B0 c) (hc:∀ j u,(rowC l)[j]?=some u→w.cell? ⟨g,O+j,none⟩=some u) (hg:B0≤g):FoAt w (rowF l) g O∧FoGe B0 (rowF l) g:=by
 induction l generalizing O with
 | nil=>exact ⟨trivial,trivial⟩
 | cons c l ih =>
   obtain ⟨h1,h2⟩:=h c (by simp)
   obtain ⟨r1,r2⟩:=ih (O:=O+4) (fun d hd=>h d (by simp [hd])) (fun j u hu=>by
    have:=hc (4+j) u (by unfold rowC;rw [List.flatMap_cons,List.getElem?_append_right (by simp [chC])];simpa [chC,rowC] using hu)
    rw [← Nat.add_assoc] at this
    exact this)
   exact ⟨⟨⟨hc 0 _ rfl,hc 1 _ rfl,hc 2 _ rfl,hc 3 _ rfl⟩,h1.1,h1.2,r1⟩,hg,h2,r2⟩
theorem row_new {w:World} {B0:Nat} (l:List Ch) (h:∀ c ∈ l,ChAt w B0 c) (hs:B0≤w.heap.size) (e:TypeId) (cells:Array Value) (hcells:cells=(rowC l).toArray):FoAt (w.alloc (.cells cells e)) (rowF l) w.heap.size 0∧FoGe B0 (rowF l) w.heap.size:=by
 subst hcells
 refine rowF_at l (fun c hc=>(h c hc).next ((Below.refl _ _).alloc (Nat.le_refl _) _)) (fun j u hu=>?_) hs
 rw [World.cell?_alloc_new,Nat.zero_add]
 show (rowC l).toArray[j]?=some u
 rw [List.getElem?_toArray];exact hu
theorem results_cell1 {fn:Func} {p:Tmp} {ty:TypeId} (h:fn.results=#[.cell p ty]) (tmps:Array Value) (P:Program) (w:World) :
 (results fn tmps).run P w=((asAddr (tmps.getD p undef)).run P w).andThen fun a w₁=>(loadVar ty a).run P w₁:=by
 simp only [results,h]
 simp [Sem.run_bind,Result.andThen]
end
end
end Go.Proofs.YtfoedbfkddoibaaGreat
