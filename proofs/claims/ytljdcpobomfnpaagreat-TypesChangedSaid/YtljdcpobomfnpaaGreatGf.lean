import Derived.Test.YtljdcpobomfnpaaGreatGa
import Derived.Test.YtljdcpobomfnpaaGreatGd
namespace Go.Proofs.YtljdcpobomfnpaaGreat
section
set_option linter.unusedVariables false
set_option linter.unusedSimpArgs false
open Go.RowKit
open Go.Deep (BT)
def allI (L:List Int) (k:Int):Bool:=L.all fun x=>x==k
def amtB (k:Int):Bool:=decide (k=1∨k=2)
def prodT (op a b:Int):Int :=
 if a=1∧b=1 then 1 else if a=2∧b=1 then 2 else if op=10∧a=1∧b=2 then 2 else if op=11∧a=2∧b=2 then 1 else 0
def cmpB (op:Int) (L:List Int):Bool :=
 if op=15 then allI L 3 else if op=16∨op=17 then amtB (L.getD 0 0) && (L.getD 0 0==L.getD 1 0) else if op=18 then (L.getD 0 0==L.getD 1 0) else allI L 4
def resT (op:Int) (L:List Int):Int :=
 if op=1 then 1 else if op=2 then 2 else if op=3 then 3 else if op=4∨op=5 then 4 else
 if op=7∨op=8∨op=9∨op=12∨op=13 then (if (amtB (L.getD 0 0) && allI L (L.getD 0 0))=true then L.getD 0 0 else 0) else
 if op=10∨op=11 then prodT op (L.getD 0 0) (L.getD 1 0) else
 if op=14 then (if L.getD 0 0=4∧L.getD 1 0=L.getD 2 0 then L.getD 1 0 else 0) else (if cmpB op L=true then 4 else 0)
abbrev Look:=ByteArray→Int × Int
def nameT (look:Look) (sc:Int) (s:ByteArray):Int × Int:=if atE sc s=0 then (atS sc s,0) else look s
def tyF (look:Look) (sc:Int):Fo→Int × List Int
 | .nil=>(0,[])
 | .node _ _ a k r =>
   let t:Int × Int:=if a.op=6 then nameT look sc a.name else if (tyF look sc k).1=0 then (if resT a.op (tyF look sc k).2=0 then (0,9) else (resT a.op (tyF look sc k).2,0)) else (0,(tyF look sc k).1)
   if t.2=0 then (if (tyF look sc r).1=0 then (0,t.1 :: (tyF look sc r).2) else ((tyF look sc r).1,[])) else (t.2,[])
def tyT (look:Look) (sc:Int) (a:Nd) (k:Fo):Int × Int :=
 if a.op=6 then nameT look sc a.name else if (tyF look sc k).1=0 then (if resT a.op (tyF look sc k).2=0 then (0,9) else (resT a.op (tyF look sc k).2,0)) else (0,(tyF look sc k).1)
theorem tyF_node (look:Look) (sc:Int) (b o:Nat) (a:Nd) (k r:Fo):tyF look sc (.node b o a k r) =
 if (tyT look sc a k).2=0 then (if (tyF look sc r).1=0 then (0,(tyT look sc a k).1 :: (tyF look sc r).2) else ((tyF look sc r).1,[])) else ((tyT look sc a k).2,[]):=rfl
structure Cn where
 name:ByteArray
 b:Nat
 o:Nat
 a:Nd
 k:Fo
def firstIx (s:ByteArray):List Cn→Option Nat
 | []=>none
 | c :: cs=>if c.name=s then some 0 else (firstIx s cs).map (·+1)
def lookT (cs:List Cn) (T:List (Int × Int)):Look:=fun s =>
 match firstIx s cs with
 | some i=>if i < T.length then T.getD i (0,6) else (0,6)
 | none=>(0,6)
def oneT (cs:List Cn) (T:List (Int × Int)) (c:Cn):Int × Int :=
 if valE c.a c.k=0 then tyT (lookT cs T) 0 c.a c.k else (0,valE c.a c.k)
def tabN (cs:List Cn):Nat→List (Int × Int)
 | 0=>[]
 | n+1=>tabN cs n++(match cs[n]? with|some c=>[oneT cs (tabN cs n) c]|none=>[(0,6)])
def typeOfT (cs:List Cn) (sc:Int) (a:Nd) (k:Fo):Int × Int :=
 if valE a k=0 then tyT (lookT cs (tabN cs cs.length)) sc a k else (0,valE a k)
def rowT (cs:List Cn) (i:Nat):Int × Int:=(tabN cs (i+1)).getD i (0,6)
theorem tabN_len (cs:List Cn) (n:Nat):(tabN cs n).length=n:=by
 induction n with
 | zero=>rfl
 | succ n ih=>rw [tabN,List.length_append,ih];cases cs[n]?<;>rfl
theorem tabN_get (cs:List Cn) (n i:Nat) (h:i < n):(tabN cs n).getD i (0,6)=rowT cs i:=by
 induction n with
 | zero=>omega
 | succ n ih =>
   by_cases e:i=n
   · subst e;rfl
   · have:(tabN cs (n+1)).getD i (0,6)=(tabN cs n).getD i (0,6):=by
      rw [tabN,List.getD_eq_getElem?_getD,List.getElem?_append_left (by rw [tabN_len];omega),← List.getD_eq_getElem?_getD]
     rw [this];exact ih (by omega)
theorem rowT_eq (cs:List Cn) (i:Nat) (c:Cn) (h:cs[i]?=some c):rowT cs i=oneT cs (tabN cs i) c:=by
 unfold rowT
 rw [tabN,h,List.getD_eq_getElem?_getD,List.getElem?_append_right (by rw [tabN_len];omega),tabN_len]
 simp
theorem lookT_tab (cs:List Cn) (n:Nat) (s:ByteArray):lookT cs (tabN cs n) s=match firstIx s cs with|some i=>if i < n then rowT cs i else (0,6)|none=>(0,6):=by
 unfold lookT
 rw [tabN_len]
 cases firstIx s cs with
 | none=>rfl
 | some i =>
   by_cases h:i < n
   · simp only [if_pos h,tabN_get cs n i h]
   · simp only [if_neg h]
end
section
set_option linter.unusedVariables false
set_option linter.unusedSimpArgs false
open Go.ChangeShapes Go.WideShapes Go.ChangeAt Go.RowKit
def IntsAt (w:World) (v:Value) (L:List Int):Prop:=(L=[]∧∃ p c,v=.slice p 0 c)∨∃ g cap:Nat,v=.slice (some ⟨g,0,none⟩) L.length cap∧∀ i x,L[i]?=some x→w.cell? ⟨g,i,none⟩=some (.int .i64 x)
theorem IntsAt.next {w w':World} {v:Value} {L:List Int} (h:IntsAt w v L) (hb:Below w.heap.size w w'):IntsAt w' v L:=by
 rcases h with h|⟨g,cap,h1,h2⟩
 · exact .inl h
 · exact .inr ⟨g,cap,h1,fun i u hu=>by rw [hb.cell (block_lt_of_cell (h2 i u hu))];exact h2 i u hu⟩
theorem allI_step (L:List Int) (k:Int) (i:Nat) (h:i < L.length):allI (L.drop i) k=((L[i]==k) && allI (L.drop (i+1)) k):=by
 rw [List.drop_eq_getElem_cons h];rfl
set_option maxHeartbeats 1000000 in
theorem all_any (v:Value) (L:List Int) (k:Int) (w:World) (hv:IntsAt w v L) (hL:L.length≤9223372036854775807) :
 Calls Tryz.prog 98 #[v,.int .i64 k] w fun e w'=>e=.returned (.bool (allI L k))∧w=w':=by
 rcases hv with ⟨rfl,p,c,rfl⟩|⟨g,cap,rfl,hc⟩
 · go_enter Tryz.func98,Tryz.ntmps98
   go_wp2_with fail
   go_loop [6,9] (fun _ i=>i=.int .i64 0) (fun _ _=>0)
   case atStart=>rfl
   case round =>
    subst hrel
    go_wp2
    go_ret
    exact ⟨rfl,rfl⟩
 · have HC:=Lib.hid hc
   clear hc
   go_enter Tryz.func98,Tryz.ntmps98
   go_wp2_with fail
   go_loop [6,9] (fun _ i=>∃ j:Nat,j≤L.length∧i=.int .i64 j∧Hid (allI L k=allI (L.drop j) k)) (fun _ i=>L.length - (intOf i).toNat)
   case atStart=>exact ⟨0,by omega,rfl,rfl⟩
   case round =>
    obtain ⟨j,hj,rfl,HR⟩:=hrel
    by_cases hlt:j < L.length
    · have hcell:=HC.out j _ (List.getElem?_eq_getElem hlt)
      have ST:Hid (allI L k=((L[j]==k) && allI (L.drop (j+1)) k)):=HR.out.trans (allI_step L k j hlt)
      generalize L[j]=x at *
      have hi:(j:Int) < (L.length:Int):=by omega
      cases hb:(x==k)
      · have HB:=Lib.hid hb
        have hb2:(x != k)=true:=by unfold bne;rw [hb];rfl
        go_wp2
        go_ret
        exact ⟨ret_bool (by rw [ST.out,HB.out];rfl),rfl⟩
      · have HB:=Lib.hid hb
        have hb2:(x != k)=false:=by unfold bne;rw [hb];rfl
        go_wp2
        go_round
        case rel=>exact ⟨j+1,by omega,by go_num,by unfold Hid;rw [ST.out,HB.out];rfl⟩
        case measure=>simp [intOf];omega
    · have hi:¬ (j:Int) < (L.length:Int):=by omega
      have R:Hid (allI L k=true):=by unfold Hid;rw [HR.out,List.drop_eq_nil_of_le (by omega)];rfl
      go_wp2
      go_ret
      exact ⟨ret_bool R.out.symm,rfl⟩
theorem amount_any (k:Int) (w:World):Calls Tryz.prog 97 #[.int .i64 k] w fun e w'=>e=.returned (.bool (amtB k))∧w'=w:=by
 go_enter Tryz.func97,Tryz.ntmps97
 go_wp2
 all_goals
  go_ret
  refine ⟨ret_bool ?_,rfl⟩
  go_light
  try simp only [beq_iff_eq,beq_eq_false_iff_ne] at *
  unfold amtB
  rw [Bool.eq_iff_iff]
  simp
  try omega
set_option maxHeartbeats 1000000 in
theorem product_any (op a b:Int) (w:World):Calls Tryz.prog 99 #[.int .i64 op,.int .i64 a,.int .i64 b] w fun e w'=>e=.returned (.int .i64 (prodT op a b))∧w'=w:=by
 go_enter Tryz.func99,Tryz.ntmps99
 go_wp2
 all_goals
  go_ret
  refine ⟨ret_int ?_,rfl⟩
  go_light
  try simp only [beq_iff_eq,beq_eq_false_iff_ne] at *
  unfold prodT
  (repeat' split)<;>first|rfl|(exfalso;omega)
end
section
set_option linter.unusedVariables false
set_option linter.unusedSimpArgs false
open Go.ChangeShapes Go.WideShapes Go.ChangeAt Go.RowKit
theorem ints_two {w:World} {v:Value} {L:List Int} (h:IntsAt w v L) (h2:2≤L.length):∃ g cap:Nat,v=.slice (some ⟨g,0,none⟩) L.length cap∧w.cell? ⟨g,0,none⟩=some (.int .i64 (L.getD 0 0))∧w.cell? ⟨g,1,none⟩=some (.int .i64 (L.getD 1 0)):=by
 rcases h with ⟨rfl,-⟩|⟨g,cap,h1,hc⟩
 · simp at h2
 · refine ⟨g,cap,h1,hc 0 _ ?_,hc 1 _ ?_⟩
   · rw [List.getD_eq_getElem?_getD,List.getElem?_eq_getElem (by omega)];rfl
   · rw [List.getD_eq_getElem?_getD,List.getElem?_eq_getElem (by omega)];rfl
theorem ints_one {w:World} {v:Value} {L:List Int} (h:IntsAt w v L) (h2:1≤L.length):∃ g cap:Nat,v=.slice (some ⟨g,0,none⟩) L.length cap∧w.cell? ⟨g,0,none⟩=some (.int .i64 (L.getD 0 0)):=by
 rcases h with ⟨rfl,-⟩|⟨g,cap,h1,hc⟩
 · simp at h2
 · refine ⟨g,cap,h1,hc 0 _ ?_⟩
   rw [List.getD_eq_getElem?_getD,List.getElem?_eq_getElem (by omega)];rfl
theorem ints_three {w:World} {v:Value} {L:List Int} (h:IntsAt w v L) (h2:3≤L.length):∃ g cap:Nat,v=.slice (some ⟨g,0,none⟩) L.length cap∧w.cell? ⟨g,0,none⟩=some (.int .i64 (L.getD 0 0))∧w.cell? ⟨g,1,none⟩=some (.int .i64 (L.getD 1 0))∧w.cell? ⟨g,2,none⟩=some (.int .i64 (L.getD 2 0)):=by
 rcases h with ⟨rfl,-⟩|⟨g,cap,h1,hc⟩
 · simp at h2
 · refine ⟨g,cap,h1,hc 0 _ ?_,hc 1 _ ?_,hc 2 _ ?_⟩
   · rw [List.getD_eq_getElem?_getD,List.getElem?_eq_getElem (by omega)];rfl
   · rw [List.getD_eq_getElem?_getD,List.getElem?_eq_getElem (by omega)];rfl
   · rw [List.getD_eq_getElem?_getD,List.getElem?_eq_getElem (by omega)];rfl
set_option maxHeartbeats 2000000 in
set_option maxRecDepth 100000 in
theorem comparison_any (op:Int) (v:Value) (L:List Int) (w:World) (hv:IntsAt w v L) (hL:L.length≤9223372036854775807) (h2:op=16∨op=17∨op=18→2≤L.length) :
 Calls Tryz.prog 100 #[.int .i64 op,v] w fun e w'=>e=.returned (.bool (cmpB op L))∧Below w.heap.size w w':=by
 by_cases q15:op=15
 · have R:Hid (cmpB op L=allI L 3):=by unfold Hid cmpB;rw [if_pos q15]
   have b15:(op==15)=true:=by simp [q15]
   clear q15 h2
   go_enter Tryz.func100,Tryz.ntmps100
   go_wp2_with (go_at_call 98;refine (all_any _ _ _ _ hv hL).mono ?_;rw [← R.out];rintro e w' ⟨rfl,rfl⟩)
   go_ret
   exact ⟨rfl,Below.refl _ _⟩
 · have b15:(op==15)=false:=by simp [q15]
   by_cases q16:op=16∨op=17
   · have R:Hid (cmpB op L=(amtB (L.getD 0 0) && (L.getD 0 0==L.getD 1 0))):=by unfold Hid cmpB;rw [if_neg q15,if_pos q16]
     obtain ⟨g,cap,rfl,c0,c1⟩:=ints_two hv (h2 (by omega))
     have i0:(0:Int) < (L.length:Int):=by have:=h2 (by omega);omega
     have i1:(1:Int) < (L.length:Int):=by have:=h2 (by omega);omega
     have C:Hid (∀ w,Calls Tryz.prog 97 #[.int .i64 (L.getD 0 0)] w fun e w'=>e=.returned (.bool (amtB (L.getD 0 0)))∧w'=w):=fun w=>amount_any _ w
     generalize L.getD 0 0=x0 at *
     generalize L.getD 1 0=x1 at *
     clear hv h2 hL
     have bb:(op==16)=true∨((op==16)=false∧(op==17)=true):=by
      rcases q16 with q|q
      · exact .inl (by simp [q])
      · exact .inr ⟨by simp [q],by simp [q]⟩
     clear q15 q16
     generalize hA:amtB x0=am at *
     have HA:=Lib.hid hA
     clear hA
     rcases bb with b16|⟨b16,b17⟩
     all_goals
      cases am
      · go_enter Tryz.func100,Tryz.ntmps100
        go_wp2_with fail
        go_quiet ((go_at_call 97;exact Calls.quiet_of_same (C.out _)))
        go_wp2
        go_ret
        exact ⟨ret_bool (by rw [R.out];rfl),below_drewN (Below.refl _ _) _⟩
      · go_enter Tryz.func100,Tryz.ntmps100
        go_wp2_with fail
        go_quiet ((go_at_call 97;exact Calls.quiet_of_same (C.out _)))
        go_wp2
        go_ret
        exact ⟨ret_bool (by rw [R.out];rfl),below_drewN (Below.refl _ _) _⟩
   · have b16:(op==16)=false:=by simp;omega
     have b17:(op==17)=false:=by simp;omega
     by_cases q18:op=18
     · have R:Hid (cmpB op L=(L.getD 0 0==L.getD 1 0)):=by unfold Hid cmpB;rw [if_neg q15,if_neg q16,if_pos q18]
       obtain ⟨g,cap,rfl,c0,c1⟩:=ints_two hv (h2 (by omega))
       have i0:(0:Int) < (L.length:Int):=by have:=h2 (by omega);omega
       have i1:(1:Int) < (L.length:Int):=by have:=h2 (by omega);omega
       have b18:(op==18)=true:=by simp [q18]
       generalize L.getD 0 0=x0 at *
       generalize L.getD 1 0=x1 at *
       clear hv h2 hL q15 q16 q18
       go_enter Tryz.func100,Tryz.ntmps100
       go_wp2_with fail
       go_quiet (fail)
       go_wp2
       go_ret
       exact ⟨ret_bool (by rw [R.out]),below_drewN (Below.refl _ _) _⟩
     · have R:Hid (cmpB op L=allI L 4):=by unfold Hid cmpB;rw [if_neg q15,if_neg q16,if_neg q18]
       have b18:(op==18)=false:=by simp [q18]
       clear q15 q16 q18 h2
       go_enter Tryz.func100,Tryz.ntmps100
       go_wp2_with (go_at_call 98;refine (all_any _ _ _ _ hv hL).mono ?_;rw [← R.out];rintro e w' ⟨rfl,rfl⟩)
       go_ret
       exact ⟨rfl,Below.refl _ _⟩
end
section
set_option linter.unusedVariables false
set_option linter.unusedSimpArgs false
open Go.ChangeShapes Go.WideShapes Go.ChangeAt Go.RowKit
theorem arg_len (op:Int) (n:Nat) (h:argB op n=true) (h1:1≤op) (h2:op≤22) (h6:op≠6) :
 ((op=7∨op=8∨op=9∨op=12∨op=13)→1≤n)∧(op=10∨op=11→2≤n)∧(op=14→3≤n)∧(op=16∨op=17∨op=18→2≤n):=by
 unfold argB at h
 (repeat' split at h)<;>(simp at h;omega)
set_option maxHeartbeats 4000000 in
set_option maxRecDepth 100000 in
theorem result_any (op:Int) (v:Value) (L:List Int) (w:World) (hv:IntsAt w v L) (hL:L.length≤9223372036854775807) (hA:argB op L.length=true) (h1:1≤op) (h2:op≤22) (h6:op≠6) :
 Calls Tryz.prog 85 #[.int .i64 op,v] w fun e w'=>e=.returned (.int .i64 (resT op L))∧Below w.heap.size w w':=by
 obtain ⟨n1,n2,n3,n4⟩:=arg_len op L.length hA h1 h2 h6
 clear hA
 by_cases g0:op≤5
 · have:op=1∨op=2∨op=3∨op=4∨op=5:=by omega
   clear n1 n2 n3 n4 g0 h1 h2 h6
   rcases this with rfl|rfl|rfl|rfl|rfl
   all_goals
    go_enter Tryz.func85,Tryz.ntmps85
    go_wp2
    go_ret
    exact ⟨rfl,Below.refl _ _⟩
 · by_cases g1:op=7∨op=8∨op=9∨op=12∨op=13
   · have hv':=hv
     obtain ⟨g,cap,rfl,c0⟩:=ints_one hv (n1 g1)
     have i0:(0:Int) < (L.length:Int):=by have:=n1 g1;omega
     have C2:Hid (∀ k w,IntsAt w (.slice (some ⟨g,0,none⟩) L.length cap) L→Calls Tryz.prog 98 #[.slice (some ⟨g,0,none⟩) L.length cap,.int .i64 k] w fun e w'=>e=.returned (.bool (allI L k))∧w=w'):=fun k w h=>all_any _ L k w h hL
     have HV:=Lib.hid hv'
     clear n1 n2 n3 n4 g0 h1 h2 h6 hv hv'
     have R1:Hid (resT op L=if (amtB (L.getD 0 0) && allI L (L.getD 0 0))=true then L.getD 0 0 else 0):=by
      unfold Hid resT
      rw [if_neg (by omega),if_neg (by omega),if_neg (by omega),if_neg (by omega),if_pos g1]
     generalize L.getD 0 0=x0 at *
     rcases g1 with rfl|rfl|rfl|rfl|rfl
     all_goals
      go_enter Tryz.func85,Tryz.ntmps85
      go_wp2_with fail
      refine (amount_any _ _).mono ?_
      generalize amtB x0=y at *
      rintro e w' ⟨rfl,hw⟩
      subst hw
      cases y
      · go_wp2
        go_ret
        exact ⟨ret_int (by rw [R1.out];rfl),Below.refl _ _⟩
      · go_wp2_with fail
        refine (C2.out _ _ HV.out).mono ?_
        generalize allI L x0=z at *
        rintro e w1 ⟨rfl,hw⟩
        subst hw
        cases z
        · go_wp2
          go_ret
          exact ⟨ret_int (by rw [R1.out];rfl),Below.refl _ _⟩
        · go_wp2
          go_ret
          exact ⟨ret_int (by rw [R1.out];rfl),Below.refl _ _⟩
   · by_cases g2:op=10∨op=11
     · obtain ⟨g,cap,rfl,c0,c1⟩:=ints_two hv (n2 g2)
       have i0:(0:Int) < (L.length:Int):=by have:=n2 g2;omega
       have i1:(1:Int) < (L.length:Int):=by have:=n2 g2;omega
       have R1:Hid (resT op L=prodT op (L.getD 0 0) (L.getD 1 0)):=by
        unfold Hid resT
        rw [if_neg (by omega),if_neg (by omega),if_neg (by omega),if_neg (by omega),if_neg (by omega),if_pos g2]
       clear n1 n2 n3 n4 g0 h1 h2 h6 hv g1 hL
       generalize L.getD 0 0=x0 at *
       generalize L.getD 1 0=x1 at *
       rcases g2 with rfl|rfl
       all_goals
        go_enter Tryz.func85,Tryz.ntmps85
        go_wp2_with fail
        go_quiet ((go_at_call 99;exact Calls.quiet_of_same (product_any _ _ _ _)))
        go_wp2
        go_ret
        exact ⟨ret_int R1.out.symm,below_drewN (Below.refl _ _) _⟩
     · by_cases g3:op=14
       · obtain ⟨g,cap,rfl,c0,c1,c2⟩:=ints_three hv (n3 g3)
         have i0:(0:Int) < (L.length:Int):=by have:=n3 g3;omega
         have i1:(1:Int) < (L.length:Int):=by have:=n3 g3;omega
         have i2:(2:Int) < (L.length:Int):=by have:=n3 g3;omega
         subst g3
         have R:Hid (resT 14 L=if L.getD 0 0=4∧L.getD 1 0=L.getD 2 0 then L.getD 1 0 else 0):=rfl
         clear n1 n2 n3 n4 g0 h1 h2 h6 hv g1 g2 hL
         generalize L.getD 0 0=x0 at *
         generalize L.getD 1 0=x1 at *
         generalize L.getD 2 0=x2 at *
         by_cases y:x0=4
         · have b0:(x0==4)=true:=by simp [y]
           by_cases z:x1=x2
           · have b1:(x1==x2)=true:=by simp [z]
             have R1:Hid (resT 14 L=x1):=by unfold Hid;rw [R.out,if_pos ⟨y,z⟩]
             clear y z R
             go_enter Tryz.func85,Tryz.ntmps85
             go_wp2_with fail
             go_quiet (fail)
             go_wp2
             go_ret
             exact ⟨ret_int R1.out.symm,below_drewN (Below.refl _ _) _⟩
           · have b1:(x1==x2)=false:=by simp [z]
             have R1:Hid (resT 14 L=0):=by unfold Hid;rw [R.out,if_neg (fun q=>z q.2)]
             clear y z R
             go_enter Tryz.func85,Tryz.ntmps85
             go_wp2_with fail
             go_quiet (fail)
             go_wp2
             go_ret
             exact ⟨ret_int R1.out.symm,below_drewN (Below.refl _ _) _⟩
         · have b0:(x0==4)=false:=by simp [y]
           have R1:Hid (resT 14 L=0):=by unfold Hid;rw [R.out,if_neg (fun q=>y q.1)]
           clear y R
           go_enter Tryz.func85,Tryz.ntmps85
           go_wp2_with fail
           go_quiet (fail)
           go_wp2
           go_ret
           exact ⟨ret_int R1.out.symm,below_drewN (Below.refl _ _) _⟩
       · have this:op=15∨op=16∨op=17∨op=18∨op=19∨op=20∨op=21∨op=22:=by omega
         have R:Hid (resT op L=if cmpB op L=true then 4 else 0):=by
          unfold Hid resT
          rw [if_neg (by omega),if_neg (by omega),if_neg (by omega),if_neg (by omega),if_neg (by omega),if_neg (by omega),if_neg (by omega)]
         have C:=Lib.hid (comparison_any op v L w hv hL n4)
         clear n1 n2 n3 n4 g0 h1 h2 h6 hv g1 g2 g3 hL
         have b1:(op==1)=false∧(op==2)=false∧(op==3)=false∧(op==4)=false∧(op==5)=false∧(op==7)=false∧(op==8)=false∧(op==9)=false∧(op==10)=false∧(op==11)=false∧(op==12)=false∧(op==13)=false∧(op==14)=false:=by
          refine ⟨?_,?_,?_,?_,?_,?_,?_,?_,?_,?_,?_,?_,?_⟩<;>(simp;omega)
         obtain ⟨b1,b2,b3,b4,b5,b7,b8,b9,b10,b11,b12,b13,b14⟩:=b1
         clear this
         go_enter Tryz.func85,Tryz.ntmps85
         go_wp2_with fail
         refine C.out.mono ?_
         generalize cmpB op L=y at *
         rintro e w1 ⟨rfl,hb⟩
         cases y
         · go_wp2
           go_ret
           exact ⟨ret_int (by rw [R.out];rfl),hb⟩
         · go_wp2
           go_ret
           exact ⟨ret_int (by rw [R.out];rfl),hb⟩
end
section
set_option linter.unusedVariables false
set_option linter.unusedSimpArgs false
open Go.ChangeShapes Go.WideShapes Go.ChangeAt Go.RowKit
set_option maxHeartbeats 1000000 in
theorem rall_any (v:Value) (L:List Int) (k:Int) (w:World) (hv:IntsAt w v L) (hL:L.length≤9223372036854775807) :
 Calls Tryz.prog 91 #[v,.int .i64 k] w fun e w'=>e=.returned (.bool (allI L k))∧w=w':=by
 rcases hv with ⟨rfl,p,c,rfl⟩|⟨g,cap,rfl,hc⟩
 · go_enter Tryz.func91,Tryz.ntmps91
   go_wp2_with fail
   go_loop [5] (fun i=>i=.int .i64 0) (fun _=>0)
   case atStart=>rfl
   case round =>
    subst hrel
    go_wp2
    go_ret
    exact ⟨rfl,rfl⟩
 · have HC:=Lib.hid hc
   clear hc
   go_enter Tryz.func91,Tryz.ntmps91
   go_wp2_with fail
   go_loop [5] (fun i=>∃ j:Nat,j≤L.length∧i=.int .i64 j∧Hid (allI L k=allI (L.drop j) k)) (fun i=>L.length - (intOf i).toNat)
   case atStart=>exact ⟨0,by omega,rfl,rfl⟩
   case round =>
    obtain ⟨j,hj,rfl,HR⟩:=hrel
    by_cases hlt:j < L.length
    · have hcell:=HC.out j _ (List.getElem?_eq_getElem hlt)
      have ST:Hid (allI L k=((L[j]==k) && allI (L.drop (j+1)) k)):=HR.out.trans (allI_step L k j hlt)
      generalize L[j]=x at *
      have hi:(j:Int) < (L.length:Int):=by omega
      cases hb:(x==k)
      · have HB:=Lib.hid hb
        have hb2:(x != k)=true:=by unfold bne;rw [hb];rfl
        go_wp2
        go_ret
        exact ⟨ret_bool (by rw [ST.out,HB.out];rfl),rfl⟩
      · have HB:=Lib.hid hb
        have hb2:(x != k)=false:=by unfold bne;rw [hb];rfl
        go_wp2
        go_round
        case rel=>exact ⟨j+1,by omega,by go_num,by unfold Hid;rw [ST.out,HB.out];rfl⟩
        case measure=>simp [intOf];omega
    · have hi:¬ (j:Int) < (L.length:Int):=by omega
      have R:Hid (allI L k=true):=by unfold Hid;rw [HR.out,List.drop_eq_nil_of_le (by omega)];rfl
      go_wp2
      go_ret
      exact ⟨ret_bool R.out.symm,rfl⟩
theorem arg_exact (op:Int) (n:Nat) (h:argB op n=true):(op=10∨op=11∨op=16∨op=17∨op=18→n=2)∧(op=14→n=3):=by
 unfold argB at h
 (repeat' split at h)<;>(simp at h;omega)
theorem amt_all (L:List Int) (h:1≤L.length):(if (amtB (L.getD 0 0) && allI L (L.getD 0 0))=true then L.getD 0 0 else 0)=if allI L 1=true then 1 else if allI L 2=true then 2 else 0:=by
 cases L with
 | nil=>simp at h
 | cons x t =>
   have hx:∀ k,allI (x :: t) k=((x==k) && allI t k):=fun k=>rfl
   rw [List.getD_cons_zero,hx,hx,hx]
   by_cases h1:x=1
   · subst h1;simp [amtB]
   · by_cases h2:x=2
     · subst h2;simp [amtB]
     · simp [amtB,h1,h2]
theorem list2 (L:List Int) (h:L.length=2):∃ a b,L=[a,b]:=by
 match L,h with
 | [a,b],_=>exact ⟨a,b,rfl⟩
theorem list3 (L:List Int) (h:L.length=3):∃ a b c,L=[a,b,c]:=by
 match L,h with
 | [a,b,c],_=>exact ⟨a,b,c,rfl⟩
theorem all2 (a b k:Int):allI [a,b] k=decide (a=k∧b=k):=by
 unfold allI;simp;rfl
set_option maxHeartbeats 8000000 in
set_option maxRecDepth 100000 in
theorem rresult_any (op:Int) (v:Value) (L:List Int) (w:World) (hv:IntsAt w v L) (hL:L.length≤9223372036854775807) (hA:argB op L.length=true) (h1:1≤op) (h2:op≤22) (h6:op≠6) :
 Calls Tryz.prog 72 #[.int .i64 op,v] w fun e w'=>e=.returned (.int .i64 (resT op L))∧Below w.heap.size w w':=by
 obtain ⟨n1,n2,n3,n4⟩:=arg_len op L.length hA h1 h2 h6
 obtain ⟨m1,m2⟩:=arg_exact op L.length hA
 have C:Hid (∀ k,Calls Tryz.prog 91 #[v,.int .i64 k] w fun e w'=>e=.returned (.bool (allI L k))∧w=w'):=fun k=>rall_any v L k w hv hL
 clear hA
 by_cases g0:op≤5
 · have:op=1∨op=2∨op=3∨op=4∨op=5:=by omega
   clear n1 n2 n3 n4 g0 h1 h2 h6
   rcases this with rfl|rfl|rfl|rfl|rfl
   all_goals
    go_enter Tryz.func72,Tryz.ntmps72
    go_wp2
    go_ret
    exact ⟨rfl,Below.refl _ _⟩
 · by_cases g1 : op=7∨op=8∨op=9∨op=12∨op=13
   · have R1:Hid (resT op L=if allI L 1=true then 1 else if allI L 2=true then 2 else 0):=by
      unfold Hid;rw [← amt_all L (n1 g1)];unfold resT
      rw [if_neg (by omega),if_neg (by omega),if_neg (by omega),if_neg (by omega),if_pos g1]
     clear n1 n2 n3 n4 g0 h1 h2 h6 m1 m2
     rcases g1 with rfl|rfl|rfl|rfl|rfl
     all_goals
      go_enter Tryz.func72,Tryz.ntmps72
      go_wp2_with fail
      refine (C.out 1).mono ?_
      generalize allI L 1=y at *
      rintro e w' ⟨rfl,hw⟩
      subst hw
      cases y
      · go_wp2_with fail
        refine (C.out 2).mono ?_
        generalize allI L 2=z at *
        rintro e w1 ⟨rfl,hw⟩
        subst hw
        cases z
        · go_wp2
          go_ret
          exact ⟨ret_int (by rw [R1.out];rfl),Below.refl _ _⟩
        · go_wp2
          go_ret
          exact ⟨ret_int (by rw [R1.out];rfl),Below.refl _ _⟩
      · go_wp2
        go_ret
        exact ⟨ret_int (by rw [R1.out];rfl),Below.refl _ _⟩
   · by_cases g2:op=10∨op=11∨op=16∨op=17∨op=18
     · obtain ⟨x0,x1,rfl⟩:=list2 L (m1 g2)
       obtain ⟨g,cap,rfl,c0,c1⟩:=ints_two hv (by simp)
       simp only [List.getD_cons_zero,List.getD_cons_succ] at c0 c1
       have a1:=all2 x0 x1 1
       have a2:=all2 x0 x1 2
       have A1:=Lib.hid a1
       have A2:=Lib.hid a2
       clear n1 n2 n3 n4 g0 h1 h2 h6 m1 m2 g1 hv a1 a2 hL
       simp only [List.length_cons,List.length_nil,Nat.zero_add,Nat.reduceAdd] at C ⊢
       rcases g2 with rfl|rfl|rfl|rfl|rfl
       · have R:Hid (resT 10 [x0,x1]=prodT 10 x0 x1):=rfl
         go_enter Tryz.func72,Tryz.ntmps72
         go_wp2_with fail
         refine (C.out 1).mono ?_
         generalize allI [x0,x1] 1=y at *
         rintro e w' ⟨rfl,hw⟩
         subst hw
         cases y
         · go_wp2
           all_goals
            go_ret
            refine ⟨ret_int ?_,Below.refl _ _⟩
            go_light
            rw [R.out]
            have q:=A1.out
            clear R A1 A2 C c0 c1
            try simp only [beq_iff_eq,beq_eq_false_iff_ne] at *
            simp only [false_eq_decide_iff] at q
            unfold prodT
            (repeat' split)<;>first|rfl|(exfalso;omega)
         · go_wp2
           go_ret
           refine ⟨ret_int ?_,Below.refl _ _⟩
           rw [R.out]
           have q:=A1.out
           simp only [true_eq_decide_iff] at q
           unfold prodT;rw [if_pos q]
       · have R : Hid (resT 11 [x0,x1]=prodT 11 x0 x1):=rfl
         go_enter Tryz.func72,Tryz.ntmps72
         go_wp2_with fail
         refine (C.out 1).mono ?_
         generalize allI [x0,x1] 1=y at *
         rintro e w' ⟨rfl,hw⟩
         subst hw
         cases y
         · go_wp2_with fail
           refine (C.out 2).mono ?_
           generalize allI [x0,x1] 2=z at *
           rintro e w1 ⟨rfl,hw⟩
           subst hw
           cases z
           · go_wp2
             all_goals
              go_ret
              refine ⟨ret_int ?_,Below.refl _ _⟩
              go_light
              rw [R.out]
              have q:=A1.out
              have q':=A2.out
              clear R A1 A2 C c0 c1
              try simp only [beq_iff_eq,beq_eq_false_iff_ne] at *
              simp only [false_eq_decide_iff] at q q'
              unfold prodT
              (repeat' split)<;>first|rfl|(exfalso;omega)
           · go_wp2
             go_ret
             refine ⟨ret_int ?_,Below.refl _ _⟩
             rw [R.out]
             have q:=A2.out
             simp only [true_eq_decide_iff] at q
             obtain ⟨rfl,rfl⟩:=q
             rfl
         · go_wp2
           go_ret
           refine ⟨ret_int ?_,Below.refl _ _⟩
           rw [R.out]
           have q:=A1.out
           simp only [true_eq_decide_iff] at q
           unfold prodT;rw [if_pos q]
       · have R:Hid (resT 16 [x0,x1]=if (amtB x0 && (x0==x1))=true then 4 else 0):=rfl
         go_enter Tryz.func72,Tryz.ntmps72
         go_wp2_with fail
         refine (C.out 1).mono ?_
         generalize allI [x0,x1] 1=y at *
         rintro e w' ⟨rfl,hw⟩
         subst hw
         cases y
         · go_wp2_with fail
           refine (C.out 2).mono ?_
           generalize allI [x0,x1] 2=z at *
           rintro e w1 ⟨rfl,hw⟩
           subst hw
           cases z
           · go_wp2
             go_ret
             refine ⟨ret_int ?_,Below.refl _ _⟩
             rw [R.out]
             have q:=A1.out
             have q':=A2.out
             simp only [false_eq_decide_iff] at q q'
             rw [if_neg]
             simp [amtB];omega
           · go_wp2
             go_ret
             refine ⟨ret_int ?_,Below.refl _ _⟩
             rw [R.out]
             have q:=A2.out
             simp only [true_eq_decide_iff] at q
             obtain ⟨rfl,rfl⟩:=q
             rfl
         · go_wp2
           go_ret
           refine ⟨ret_int ?_,Below.refl _ _⟩
           rw [R.out]
           have q:=A1.out
           simp only [true_eq_decide_iff] at q
           obtain ⟨rfl,rfl⟩:=q
           rfl
       · have R:Hid (resT 17 [x0,x1]=if (amtB x0 && (x0==x1))=true then 4 else 0):=rfl
         go_enter Tryz.func72,Tryz.ntmps72
         go_wp2_with fail
         refine (C.out 1).mono ?_
         generalize allI [x0,x1] 1=y at *
         rintro e w' ⟨rfl,hw⟩
         subst hw
         cases y
         · go_wp2_with fail
           refine (C.out 2).mono ?_
           generalize allI [x0,x1] 2=z at *
           rintro e w1 ⟨rfl,hw⟩
           subst hw
           cases z
           · go_wp2
             go_ret
             refine ⟨ret_int ?_,Below.refl _ _⟩
             rw [R.out]
             have q:=A1.out
             have q':=A2.out
             simp only [false_eq_decide_iff] at q q'
             rw [if_neg]
             simp [amtB];omega
           · go_wp2
             go_ret
             refine ⟨ret_int ?_,Below.refl _ _⟩
             rw [R.out]
             have q:=A2.out
             simp only [true_eq_decide_iff] at q
             obtain ⟨rfl,rfl⟩:=q
             rfl
         · go_wp2
           go_ret
           refine ⟨ret_int ?_,Below.refl _ _⟩
           rw [R.out]
           have q:=A1.out
           simp only [true_eq_decide_iff] at q
           obtain ⟨rfl,rfl⟩:=q
           rfl
       · have R:Hid (resT 18 [x0,x1]=if (x0==x1)=true then 4 else 0):=rfl
         cases hb:(x0==x1)
         · have HB:=Lib.hid hb
           go_enter Tryz.func72,Tryz.ntmps72
           go_wp2_with fail
           go_quiet (fail)
           go_wp2
           go_ret
           exact ⟨ret_int (by rw [R.out,HB.out];rfl),below_drewN (Below.refl _ _) _⟩
         · have HB:=Lib.hid hb
           go_enter Tryz.func72,Tryz.ntmps72
           go_wp2_with fail
           go_quiet (fail)
           go_wp2
           go_ret
           exact ⟨ret_int (by rw [R.out,HB.out];rfl),below_drewN (Below.refl _ _) _⟩
     · by_cases g3:op=14
       · obtain ⟨x0,x1,x2,rfl⟩:=list3 L (m2 g3)
         obtain ⟨g,cap,rfl,c0,c1,c2⟩:=ints_three hv (by simp)
         simp only [List.getD_cons_zero,List.getD_cons_succ] at c0 c1 c2
         clear n1 n2 n3 n4 g0 h1 h2 h6 m1 m2 g1 g2 hv hL C
         simp only [List.length_cons,List.length_nil,Nat.zero_add,Nat.reduceAdd]
         subst g3
         have R:Hid (resT 14 [x0,x1,x2]=if x0=4∧x1=x2 then x1 else 0):=rfl
         by_cases y:x0=4
         · have b0:(x0==4)=true:=by simp [y]
           by_cases z:x1=x2
           · have b1:(x1==x2)=true:=by simp [z]
             have R1:Hid (resT 14 [x0,x1,x2]=x1):=by unfold Hid;rw [R.out,if_pos ⟨y,z⟩]
             clear y z R
             go_enter Tryz.func72,Tryz.ntmps72
             go_wp2_with fail
             go_quiet (fail)
             go_wp2
             go_ret
             exact ⟨ret_int R1.out.symm,below_drewN (Below.refl _ _) _⟩
           · have b1:(x1==x2)=false:=by simp [z]
             have R1:Hid (resT 14 [x0,x1,x2]=0):=by unfold Hid;rw [R.out,if_neg (fun q=>z q.2)]
             clear y z R
             go_enter Tryz.func72,Tryz.ntmps72
             go_wp2_with fail
             go_quiet (fail)
             go_wp2
             go_ret
             exact ⟨ret_int R1.out.symm,below_drewN (Below.refl _ _) _⟩
         · have b0:(x0==4)=false:=by simp [y]
           have R1:Hid (resT 14 [x0,x1,x2]=0):=by unfold Hid;rw [R.out,if_neg (fun q=>y q.1)]
           clear y R
           go_enter Tryz.func72,Tryz.ntmps72
           go_wp2_with fail
           go_quiet (fail)
           go_wp2
           go_ret
           exact ⟨ret_int R1.out.symm,below_drewN (Below.refl _ _) _⟩
       · have this:op=15∨op=19∨op=20∨op=21∨op=22:=by omega
         have R : Hid (resT op L=if allI L (if op=15 then 3 else 4)=true then 4 else 0):=by
          have hc:cmpB op L=allI L (if op=15 then 3 else 4):=by
           unfold cmpB
           by_cases q:op=15
           · rw [if_pos q,if_pos q]
           · have q1:¬ (op=16∨op=17):=by omega
             have q2:¬ op=18:=by omega
             rw [if_neg q,if_neg q1,if_neg q2,if_neg q]
          unfold Hid
          rw [← hc]
          unfold resT
          rw [if_neg (by omega),if_neg (by omega),if_neg (by omega),if_neg (by omega),if_neg (by omega),if_neg (by omega),if_neg (by omega)]
         clear n1 n2 n3 n4 g0 h1 h2 h6 m1 m2 g1 g2 g3 hv hL
         rcases this with rfl|rfl|rfl|rfl|rfl
         · have R1:Hid (resT 15 L=if allI L 3=true then 4 else 0):=R
           clear R
           go_enter Tryz.func72,Tryz.ntmps72
           go_wp2_with fail
           refine (C.out 3).mono ?_
           generalize allI L 3=y at *
           rintro e w' ⟨rfl,hw⟩
           subst hw
           cases y
           · go_wp2
             go_ret
             exact ⟨ret_int (by rw [R1.out];rfl),Below.refl _ _⟩
           · go_wp2
             go_ret
             exact ⟨ret_int (by rw [R1.out];rfl),Below.refl _ _⟩
         all_goals
          have R1:Hid (resT _ L=if allI L 4=true then 4 else 0):=R
          clear R
          go_enter Tryz.func72,Tryz.ntmps72
          go_wp2_with fail
          refine (C.out 4).mono ?_
          generalize allI L 4=y at *
          rintro e w' ⟨rfl,hw⟩
          subst hw
          cases y
          · go_wp2
            go_ret
            exact ⟨ret_int (by rw [R1.out];rfl),Below.refl _ _⟩
          · go_wp2
            go_ret
            exact ⟨ret_int (by rw [R1.out];rfl),Below.refl _ _⟩
end
end Go.Proofs.YtljdcpobomfnpaaGreat
