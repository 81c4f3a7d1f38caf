import Derived.Test.YtcejjdmnlejbaaaGreatDoorBTvA
import Derived.Lib.Join
namespace Go.Proofs.YtcejjdmnlejbaaaGreatDoor
set_option linter.unusedVariables false
set_option linter.unusedSimpArgs false
open Go.ChangeShapes Go.WideShapes Go.ChangeAt Go.RowKit
def tx (t:Tk.T4):ByteArray:=txtR t.t.kind t.t.text t.t.num
def jnL (D:List Tk.T4):List UInt8:=Lib.join ((D.map tx).map (·.data.toList)) [32]
def jn (D:List Tk.T4):ByteArray:=⟨(jnL D).toArray⟩
theorem join_snoc (xs:List (List UInt8)) (x sep:List UInt8):Lib.join (xs++[x]) sep=if xs=[] then x else Lib.join xs sep++sep++x:=by
 cases xs with
 | nil=>rw [if_pos rfl];exact Lib.join_one x sep
 | cons y r =>
   rw [if_neg (by simp),List.cons_append,Lib.join_cons,Lib.join_cons]
   simp [Lib.joinTail]
theorem jn_snoc (D:List Tk.T4) (t:Tk.T4):jn (D++[t])=if D=[] then tx t else jn D++⟨#[32]⟩++tx t:=by
 have e:jnL (D++[t])=if D=[] then (tx t).data.toList else jnL D++[32]++(tx t).data.toList:=by
  unfold jnL
  rw [List.map_append,List.map_append]
  refine (join_snoc _ _ _).trans ?_
  cases D with
  | nil=>rfl
  | cons d D=>rfl
 unfold jn
 rw [e]
 by_cases h:D=[]
 · rw [if_pos h,if_pos h,ba_self]
 · rw [if_neg h,if_neg h,← ba_app,← ba_app,ba_self]
theorem vt_size {t:Tk.T4} (h:VT t.t):(tx t).size≤200:=by
 obtain ⟨⟨k,x,n⟩,a⟩:=t
 unfold tx
 rcases h with ⟨h1,h2,h3,h4⟩|⟨h1,h2,h3,h4⟩|⟨h1,h2,h3,h4⟩|⟨h1,h2,h3,h4⟩
 · dsimp only at h1 h2 h3 h4 ⊢
   subst h1 h4
   have e:txtR 1 x 0=x:=by unfold txtR;rw [if_pos (.inl rfl)]
   rw [e]
   unfold Tk.word at h3
   split at h3
   · split at h3
     · cases h3
     · rename_i q;omega
   · split at h3
     · split at h3
       · have:=congrArg Tk.T3.kind (Option.some.inj h3);dsimp only at this;omega
       · cases h3
     · split at h3
       · split at h3
         · have:=congrArg Tk.T3.kind (Option.some.inj h3);dsimp only at this;omega
         · cases h3
       · split at h3
         · have:=congrArg Tk.T3.kind (Option.some.inj h3);dsimp only at this;omega
         · cases h3
 · dsimp only at h1 h2 h3 h4 ⊢
   subst h2
   rcases h1 with rfl|rfl
   · have e:txtR 2 ⟨#[]⟩ n=itoaB n:=by unfold txtR;rw [if_neg (by omega),if_pos rfl]
     rw [e];have:=itoa_size n (by omega) (by omega);omega
   · have e:txtR 3 ⟨#[]⟩ n=fuV n:=by unfold txtR;rw [if_neg (by omega),if_neg (by omega),if_pos rfl]
     rw [e];have:=fu_size n;omega
 · dsimp only at h1 h2 h3 h4 ⊢
   subst h1 h2
   have e:txtR 4 ⟨#[]⟩ n=⟨#[64]⟩++fcV n:=by unfold txtR;rw [if_neg (by omega),if_neg (by omega),if_neg (by omega),if_pos rfl]
   rw [e,ByteArray.size_append];have:=fc_size n;have h9:(⟨#[64]⟩:ByteArray).size=1:=rfl;omega
 · dsimp only at h1 h2 h3 h4 ⊢
   subst h1 h4
   have e:txtR 5 x 0=x:=by unfold txtR;rw [if_pos (.inr rfl)]
   rw [e,← h3]
   unfold Tk.sgn
   split
   · omega
   · split<;>omega
theorem jn_size (D:List Tk.T4) (h:∀ t ∈ D,VT t.t):(jn D).size≤201 * D.length:=by
 have key:∀ n,∀ D:List Tk.T4,D.length=n→(∀ t ∈ D,VT t.t)→(jn D).size≤201 * D.length:=by
  intro n
  induction n with
  | zero=>intro D hD _;rw [List.eq_nil_of_length_eq_zero hD];decide
  | succ n ih =>
    intro D hD hv
    obtain ⟨E,t,rfl⟩:∃ E t,D=E++[t]:=⟨D.dropLast,D.getLast (by rintro rfl;simp at hD),(List.dropLast_concat_getLast _).symm⟩
    have hE:E.length=n:=by simpa using hD
    have h1:=ih E hE (fun u hu=>hv u (List.mem_append_left _ hu))
    have h2:=vt_size (hv t (List.mem_append_right _ (List.mem_singleton.2 rfl)))
    rw [jn_snoc,List.length_append]
    split
    · simp;omega
    · rw [ByteArray.size_append,ByteArray.size_append]
      have h9:(⟨#[32]⟩:ByteArray).size=1:=rfl
      simp;omega
 exact key _ D rfl h
def strL (D:List Tk.T4) (j:Nat):List Value:=(List.range D.length).map fun i=>.string (if i < j then tx (D.getD i ⟨⟨0,⟨#[]⟩,0⟩,0⟩) else ⟨#[]⟩)
theorem strL_get (D:List Tk.T4) (j i:Nat) (h:i < D.length):(strL D j)[i]?=some (.string (if i < j then tx (D.getD i ⟨⟨0,⟨#[]⟩,0⟩,0⟩) else ⟨#[]⟩)):=by simp [strL,h]
theorem strL_at (D:List Tk.T4) (j i:Nat) (h:i < D.length) (hi:j≤i):(strL D j)[i]?=some (.string ⟨#[]⟩):=by rw [strL_get D j i h,if_neg (by omega)]
theorem strL_set (D:List Tk.T4) (j:Nat) (t:Tk.T4) (h:D[j]?=some t):(strL D j).set j (.string (tx t))=strL D (j+1):=by
 have hj:=(List.getElem?_eq_some_iff.1 h).1
 apply List.ext_getElem?
 intro i
 by_cases hi:i < D.length
 · rw [List.getElem?_set]
   by_cases hij:j=i
   · subst hij
     rw [if_pos rfl,if_pos (by simp [strL];omega),strL_get D _ _ hi,if_pos (by omega),List.getD_eq_getElem?_getD,h]
     rfl
   · rw [if_neg hij,strL_get D _ _ hi,strL_get D _ _ hi]
     by_cases h1:i < j
     · rw [if_pos h1,if_pos (by omega)]
     · rw [if_neg h1,if_neg (by omega)]
 · rw [List.getElem?_eq_none (by simp [strL];omega),List.getElem?_eq_none (by simp [strL];omega)]
theorem strL_zero (D:List Tk.T4):(madeCells #[Value.string ⟨#[]⟩] D.length).toList=strL D 0:=by
 rw [toList_madeCells_one]
 apply List.ext_getElem?
 intro i
 by_cases hi:i < D.length
 · rw [strL_get D 0 i hi,if_neg (by omega)];simp [hi]
 · rw [List.getElem?_eq_none (by simp;omega),List.getElem?_eq_none (by simp [strL];omega)]
theorem strL_all (D:List Tk.T4) (i:Nat) (x:ByteArray) (h:(D.map tx)[i]?=some x):(strL D D.length)[i]?=some (.string x):=by
 rw [List.getElem?_map] at h
 cases hq:D[i]? with
 | none=>rw [hq] at h;cases h
 | some t =>
   rw [hq] at h
   obtain rfl:=Option.some.inj h
   have hi:=(List.getElem?_eq_some_iff.1 hq).1
   rw [strL_get D _ i hi,if_pos hi,List.getD_eq_getElem?_getD,hq]
   rfl
theorem Tryz.infoST:(Tryz.prog.info? 9).map (fun i=>(i.zero,i.size,i.bytes))=some (some (.string ⟨#[]⟩),1,16):=by kernel_rfl
def FP (D:List Tk.T4) (w:World) (e:Ending) (w':World):Prop:=(∃ c:Int,VE D c∧e=.returned (.tuple #[.string (if c=0 then jn D else ⟨#[]⟩),.int .i64 c]))∧Below w.heap.size w w'
theorem fp_no {D:List Tk.T4} {w w':World} {c:Int} (h:VE D c) (hc:c≠0) (hb:Below w.heap.size w w'):FP D w (.returned (.tuple #[.string ⟨#[]⟩,.int .i64 c])) w':=⟨⟨c,h,by rw [if_neg hc]⟩,hb⟩
theorem fp_yes {D:List Tk.T4} {w w':World} {s:ByteArray} (h:VE D 0) (hs:s=jn D) (hb:Below w.heap.size w w'):FP D w (.returned (.tuple #[.string s,.int .i64 0])) w':=⟨⟨0,h,by rw [if_pos rfl,hs]⟩,hb⟩
set_option maxHeartbeats 2000000 in
set_option maxRecDepth 100000 in
theorem tformat_any (D:List Tk.T4) (p:Option Addr) (cap:Nat) (w:World) (hD:TkAt w D (.slice p D.length cap)) (hok:TkOk D) (ht:Tab w):Calls Tryz.prog 103 #[.slice p D.length cap] w (FP D w):=by
 obtain ⟨i0,hi,hi0,hi1,hi2⟩:=info_parts Tryz.infoST
 have HI2:=Lib.hid hi2
 have HD:=Lib.hid hD
 have HO:=Lib.hid hok
 have HT:=Lib.hid ht
 go_enter Tryz.func103,Tryz.ntmps103
 go_wp2_with fail
 refine (tvalidate_any D p cap w hD hok ht).mono ?_
 clear hD hok ht
 rintro e w1 ⟨⟨c,rfl,hve⟩,hb⟩
 have V:=Lib.hid hve
 have B0:=Lib.hid hb
 clear hve hb
 by_cases hc:c=0
 · obtain ⟨hn4, hall⟩:=V.out.zero.1 hc
   have AL:=Lib.hid hall
   have hn:D.length≤400:=by omega
   subst hc
   clear hall hn4
   go_wp2_with (refine wpList_make_full _ rfl _ _ 73 rfl w1.heap.size 9 i0 (.string ⟨#[]⟩) 1 Tryz.underlying73 hi hi0 hi1 .i64 .i64 _ _ D.length rfl rfl rfl rfl ?m1 ?m2 ?m3 ?_)
   case m1=>rw [HI2.out];omega
   case m2=>unfold maxLen;omega
   case m3=>exact Nat.le_refl _
   intro w2 hown hg
   have hown':w2.ownsRow w1.heap.size 9 1 (.slice (some ⟨w1.heap.size,0,none⟩) D.length D.length) D.length (strL D 0):=by
    rw [← strL_zero D];simpa using hown
   have O0:=Lib.hid hown'
   have B1:Hid (Below w.heap.size w w2):=B0.out.trans (Below.mono ⟨hg.os,hg.tape,hg.output,hg.size,fun i hi=>hg.block i hi (by simp)⟩ B0.out.size)
   have hg0:w.heap.size≤w1.heap.size:=B0.out.size
   clear hown hown' hg
   go_wp2_with fail
   generalize hB:w1.heap.size=g0 at *
   clear hB
   go_loopw [6,7,8,9,20] (fun _ _ _ _ i wr=>∃ j:Nat,i=.int .i64 j∧j≤D.length∧g0 < wr.heap.size∧Hid (wr.ownsRow g0 9 1 (.slice (some ⟨g0,0,none⟩) D.length D.length) D.length (strL D j))∧Hid (Below w.heap.size w wr)) (fun _ _ _ _ i _=>D.length - (intOf i).toNat)
   case atStart=>exact ⟨0,rfl,Nat.zero_le _,(O0.out.lt _ rfl).2,O0.out,B1.out⟩
   case round =>
    obtain ⟨j,rfl,hj,hgz,O1',B1'⟩:=hrel
    clear O0 B1
    by_cases hlt:j < D.length
    · have hj' : (j:Int) < (D.length:Int):=by omega
      have hj0:(0:Int)≤(j:Int):=by omega
      obtain ⟨t,htD⟩:∃ t,D[j]?=some t:=⟨_,List.getElem?_eq_getElem hlt⟩
      obtain ⟨g,O,rfl,c0,c1,c2,c3⟩:=(HD.out.next B1'.out).get htD
      have TD:=Lib.hid htD
      have VT1:=Lib.hid (AL.out t (List.mem_of_getElem? htD))
      have B1:Hid (Below w.heap.size w (wr.alloc (.cells #[.int .i64 t.t.kind,.string t.t.text,.int .i64 t.t.num,.int .i64 t.at'] 68))):=B1'.out.alloc B1'.out.size _
      have T1:=Lib.hid (HT.out.next B1.out)
      have O1:Hid ((wr.alloc (.cells #[.int .i64 t.t.kind,.string t.t.text,.int .i64 t.t.num,.int .i64 t.at'] 68)).ownsRow g0 9 1 (.slice (some ⟨g0,0,none⟩) D.length D.length) D.length (strL D j)):=O1'.out.alloc _
      clear htD
      by_cases k2:t.t.kind=2
      · have q2:(t.t.kind==2)=true:=by simp [k2]
        have nn:=(vt23 (k:=t.t.kind) (x:=t.t.text) (n:=t.t.num) (.inl k2)).1 VT1.out
        have n0:0≤t.t.num:=nn.2.1
        have n1:t.t.num≤1099511627776:=nn.2.2
        clear nn
        have TX:Hid (decS t.t.num=tx t):=by
         unfold Hid tx txtR itoaB decS Lib.itoa
         rw [if_neg (by omega),if_pos k2,if_neg (by omega)]
        clear k2
        go_wp2_with fail
        refine (fmtint_int t.t.num _ n0 (by omega) T1.out).mono ?_
        rw [TX.out]
        rintro e w2 ⟨rfl,hb⟩
        have OWN2:=Lib.hid (own_next O1.out hb)
        have B2:=Lib.hid (B1.out.trans (hb.mono B1.out.size))
        have d2:w2.cell? ⟨wr.heap.size,2,none⟩=some (.int .i64 t.t.num):=box_cell hb 2
        have hz2:=box_size hb
        have s0:=OWN2.out.cellAt j (by omega)
        rw [strL_at _ _ _ (by omega) (Nat.le_refl _)] at s0
        have s1:=OWN2.out.frozenAt j
        have ST:=OWN2.out.stored j (.string (tx t))
        have OWN3:Hid ((w2.setCell ⟨g0,j,none⟩ (.string (tx t))).ownsRow g0 9 1 (.slice (some ⟨g0,0,none⟩) D.length D.length) D.length (strL D (j+1))):=by
         have:=ST.1
         rw [strL_set D j t TD.out] at this
         exact this
        have B3:Hid (Below w.heap.size w (w2.setCell ⟨g0,j,none⟩ (.string (tx t)))):=B2.out.setCell (p:=⟨g0,j,none⟩) hg0 _
        have hz3:g0 < w2.heap.size:=by omega
        clear hb ST
        go_wp2
        go_roundw
        case rel=>exact ⟨j+1,by go_num,by omega,by simpa using hz3,OWN3.out,B3.out⟩
        case measure=>simp [intOf];omega
      · have q2 : (t.t.kind==2)=false:=by simp [k2]
        by_cases k3:t.t.kind=3
        · have q3:(t.t.kind==3)=true:=by simp [k3]
          have TX:Hid (fuV t.t.num=tx t):=by
           unfold Hid tx txtR
           rw [if_neg (by omega),if_neg k2,if_pos k3]
          clear k2 k3
          go_wp2_with fail
          refine (fdur_any t.t.num _ T1.out).mono ?_
          rw [TX.out]
          rintro e w2 ⟨rfl,hb⟩
          have OWN2:=Lib.hid (own_next O1.out hb)
          have B2:=Lib.hid (B1.out.trans (hb.mono B1.out.size))
          have d2:w2.cell? ⟨wr.heap.size,2,none⟩=some (.int .i64 t.t.num):=box_cell hb 2
          have hz2:=box_size hb
          have s0:=OWN2.out.cellAt j (by omega)
          rw [strL_at _ _ _ (by omega) (Nat.le_refl _)] at s0
          have s1:=OWN2.out.frozenAt j
          have ST:=OWN2.out.stored j (.string (tx t))
          have OWN3:Hid ((w2.setCell ⟨g0,j,none⟩ (.string (tx t))).ownsRow g0 9 1 (.slice (some ⟨g0,0,none⟩) D.length D.length) D.length (strL D (j+1))):=by
           have:=ST.1
           rw [strL_set D j t TD.out] at this
           exact this
          have B3:Hid (Below w.heap.size w (w2.setCell ⟨g0,j,none⟩ (.string (tx t)))):=B2.out.setCell (p:=⟨g0,j,none⟩) hg0 _
          have hz3:g0 < w2.heap.size:=by omega
          clear hb ST
          go_wp2
          go_roundw
          case rel=>exact ⟨j+1,by go_num,by omega,by simpa using hz3,OWN3.out,B3.out⟩
          case measure=>simp [intOf];omega
        · have q3:(t.t.kind==3)=false:=by simp [k3]
          by_cases k4:t.t.kind=4
          · have q4:(t.t.kind==4)=true:=by simp [k4]
            have TX:Hid (⟨#[64]⟩++fcV t.t.num=tx t):=by
             unfold Hid tx txtR
             rw [if_neg (by omega),if_neg k2,if_neg k3,if_pos k4]
            have hfs:=fc_size t.t.num
            clear k2 k3 k4
            go_wp2_with fail
            refine (fclock_any t.t.num _ T1.out).mono ?_
            generalize fcV t.t.num=fv at *
            rintro e w2 ⟨rfl,hb⟩
            have OWN2:=Lib.hid (own_next O1.out hb)
            have B2:=Lib.hid (B1.out.trans (hb.mono B1.out.size))
            have d2:w2.cell? ⟨wr.heap.size,2,none⟩=some (.int .i64 t.t.num):=box_cell hb 2
            have hz2:=box_size hb
            have s0:=OWN2.out.cellAt j (by omega)
            rw [strL_at _ _ _ (by omega) (Nat.le_refl _)] at s0
            have s1:=OWN2.out.frozenAt j
            have ST:=OWN2.out.stored j (.string (tx t))
            have OWN3:Hid ((w2.setCell ⟨g0,j,none⟩ (.string (tx t))).ownsRow g0 9 1 (.slice (some ⟨g0,0,none⟩) D.length D.length) D.length (strL D (j+1))):=by
             have:=ST.1
             rw [strL_set D j t TD.out] at this
             exact this
            have B3:Hid (Below w.heap.size w (w2.setCell ⟨g0,j,none⟩ (.string (tx t)))):=B2.out.setCell (p:=⟨g0,j,none⟩) hg0 _
            have hz3:g0 < w2.heap.size:=by omega
            clear hb ST
            have TXO:=TX.out
            go_wp2
            go_roundw
            case rel=>exact ⟨j+1,by go_num,by omega,by simpa using hz3,OWN3.out,B3.out⟩
            case measure=>simp [intOf];omega
          · have q4:(t.t.kind==4)=false:=by simp [k4]
            have TX:Hid (t.t.text=tx t):=by
             unfold Hid tx txtR
             have:t.t.kind=1∨t.t.kind=5:=by
              rcases VT1.out with ⟨h,-⟩|⟨h,-⟩|⟨h,-⟩|⟨h,-⟩
              · exact .inl h
              · exact absurd h (fun q=>q.elim k2 k3)
              · exact absurd h k4
              · exact .inr h
             rw [if_pos this]
            clear k2 k3 k4
            have s0:=O1'.out.cellAt j (by omega)
            rw [strL_at _ _ _ (by omega) (Nat.le_refl _)] at s0
            have s1:=O1'.out.frozenAt j
            have ST:=O1'.out.stored j (.string t.t.text)
            have OWN3:Hid (((wr.setCell ⟨g0,j,none⟩ (.string t.t.text)).alloc (.cells #[.int .i64 t.t.kind,.string t.t.text,.int .i64 t.t.num,.int .i64 t.at'] 68)).ownsRow g0 9 1 (.slice (some ⟨g0,0,none⟩) D.length D.length) D.length (strL D (j+1))):=by
             have:=ST.1.alloc (.cells #[.int .i64 t.t.kind,.string t.t.text,.int .i64 t.t.num,.int .i64 t.at'] 68)
             rw [TX.out,strL_set D j t TD.out] at this
             rw [TX.out]
             exact this
            have B3:Hid (Below w.heap.size w ((wr.setCell ⟨g0,j,none⟩ (.string t.t.text)).alloc (.cells #[.int .i64 t.t.kind,.string t.t.text,.int .i64 t.t.num,.int .i64 t.at'] 68))):=(B1'.out.setCell (p:=⟨g0,j,none⟩) hg0 _).alloc (by simp;exact B1'.out.size) _
            clear ST
            go_wp2
            go_roundw
            case rel=>exact ⟨j+1,by go_num,by omega,by simp;omega,OWN3.out,B3.out⟩
            case measure=>simp [intOf];omega
    · have hj':¬ (j:Int) < (D.length:Int):=by omega
      obtain rfl:j=D.length:=by omega
      have JS:=jn_size D AL.out
      by_cases hz:D.length=0
      · have hz2:=List.eq_nil_of_length_eq_zero hz
        have JN:Hid ((⟨#[]⟩:ByteArray)=jn D):=by unfold Hid;rw [hz2];rfl
        have HZ:=Lib.hid hz
        clear hz hz2
        go_wp2_with fail
        rw [HZ.out]
        refine (Tryz.strings_Join_none _ _ _ _).mono ?_
        rintro e w3 ⟨rfl,rfl⟩
        go_wp2
        go_ret2
        exact fp_yes V.out JN.out B1'.out
      · have J:=Tryz.strings_Join g0 0 D.length (D.map tx) ⟨#[32]⟩ wr (fun q x hx=>by
         rw [Nat.zero_add,O1'.out.cellAt q (by have:=(List.getElem?_eq_some_iff.1 hx).1;simpa using this)]
         exact strL_all D q x hx) hgz (by rw [List.length_map];omega) (by rw [List.length_map];exact Nat.le_refl _) (by
          have h1:(jn D).size=(jnL D).length:=by show (jnL D).toArray.size=_;simp
          show (jnL D).length≤_
          omega)
        rw [List.length_map] at J
        have HJ:=Lib.hid J
        clear J
        go_wp2_with fail
        refine HJ.out.mono ?_
        rintro e w3 ⟨rfl,hb⟩
        have B3:=Lib.hid (B1'.out.trans (hb.mono B1'.out.size))
        clear hb HJ
        go_wp2
        go_ret2
        exact fp_yes V.out (by unfold jn jnL;rw [List.map_map]) B3.out
 · have hcB:(c != 0)=true:=by simp [hc]
   have HC:=Lib.hid hc
   clear hc
   go_wp2
   go_ret2
   exact fp_no V.out HC.out B0.out
end Go.Proofs.YtcejjdmnlejbaaaGreatDoor
