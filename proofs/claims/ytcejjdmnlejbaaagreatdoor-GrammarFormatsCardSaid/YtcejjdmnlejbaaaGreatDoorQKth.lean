import Derived.Test.YtcejjdmnlejbaaaGreatDoorQKtd
namespace Go.Proofs.YtcejjdmnlejbaaaGreatDoor
set_option linter.unusedVariables false
set_option linter.unusedSimpArgs false
open Go.ChangeShapes Go.WideShapes Go.ChangeAt Go.RowKit
def Tab (w:World):Prop:=Lib.TabIs Tryz.prog w "internal/strconv.uint64pow10" .u64 Lib.pow10Tab ∧ 1 < w.heap.size
theorem tabG:Tryz.prog.globalNamed "internal/strconv.uint64pow10"=some 1:=by kernel_rfl
theorem Tab.below {B:Nat} {w w':World} (h:Tab w) (hb:Below B w w') (hB : 1 < B):Tab w' :=
 ⟨var?_below hb tabG hB h.1,by have:=hb.size;have:=h.2;omega⟩
theorem Tab.next {w w':World} (h:Tab w) (hb:Below w.heap.size w w'):Tab w':=h.below hb h.2
theorem Tab.alloc {w:World} (h:Tab w) (o:Obj):Tab (w.alloc o):=h.next ((Below.refl _ _).alloc (Nat.le_refl _) o)
theorem itoa_any (n:Nat) (w:World) (hn:n≤9223372036854775807) (ht:Tab w) :
 Calls Tryz.prog 104 #[.int .i64 n] w fun e w'=>e=.returned (.string ⟨(Lib.decDigits n).toArray⟩)∧Below w.heap.size w w':=by
 refine (Tryz.strconv_Itoa (n:Int) (by omega) (by omega) w ht.1).mono ?_
 rintro e w' ⟨rfl,k,os,rfl⟩
 refine ⟨?_,below_grow _ _ _⟩
 have:Lib.itoa (n:Int)=Lib.decDigits n:=by unfold Lib.itoa;rw [if_neg (by omega)];simp
 rw [this]
theorem fmtint_prog (n:Nat) (w:World) (hn:n≤9223372036854775807) (ht:Tab w) :
 Calls Tryz.prog 49 #[.int .i64 n] w fun e w'=>e=.returned (.string ⟨(Lib.decDigits n).toArray⟩)∧Below w.heap.size w w':=by
 go_enter Tryz.func49,Tryz.ntmps49
 go_wp2_with (go_at_call 104;refine (itoa_any _ _ hn ht).mono ?_;rintro e w1 ⟨rfl,hb⟩)
 go_ret
 exact ⟨rfl,hb⟩
theorem fmtint_ref (n:Nat) (w:World) (hn:n≤9223372036854775807) (ht:Tab w) :
 Calls Tryz.prog 54 #[.int .i64 n] w fun e w'=>e=.returned (.string ⟨(Lib.decDigits n).toArray⟩)∧Below w.heap.size w w':=by
 go_enter Tryz.func54,Tryz.ntmps54
 go_wp2_with (go_at_call 104;refine (itoa_any _ _ hn ht).mono ?_;rintro e w1 ⟨rfl,hb⟩)
 go_ret
 exact ⟨rfl,hb⟩
set_option maxHeartbeats 1000000 in
theorem padded_any (n k:Nat) (w:World) (hn:n≤9223372036854775807) (hk:k≤100) (ht:Tab w) :
 Calls Tryz.prog 135 #[.int .i64 n,.int .i64 k] w fun e w'=>e=.returned (.string ⟨(Txt.pad n k).toArray⟩)∧Below w.heap.size w w':=by
 have P:Hid (Txt.pad n k=Lib.repeatL [48] (k - (Lib.decDigits n).length)++Lib.decDigits n):=by unfold Hid Txt.pad;rw [Txt.repeatL_one]
 obtain ⟨dd,hdd⟩:∃ dd,dd=Lib.decDigits n:=⟨_,rfl⟩
 rw [← hdd] at P
 have D:=Lib.hid hdd
 clear hdd
 by_cases hl:dd.length < k
 · go_enter Tryz.func135,Tryz.ntmps135
   go_wp2_with fail
   refine (fmtint_prog n _ hn ht).mono ?_
   rw [← D.out]
   rintro e w1 ⟨rfl,hb1⟩
   have hk2:(dd.length:Int) < (k:Int):=by omega
   go_wp2_with fail
   rw [show (k:Int) - (dd.length:Int)=((k - dd.length:Nat):Int) from by omega]
   have hrl:(Lib.repeatL [48] (k - dd.length)).length≤100:=by rw [Lib.repeatL_length];simp;omega
   refine (Tryz.strings_Repeat ⟨#[48]⟩ (k - dd.length) _ (by omega) (by simp [ByteArray.size];omega)).mono ?_
   generalize hrr:Lib.repeatL [48] (k - dd.length)=rr at *
   have R:=Lib.hid hrr
   clear hrr
   have hs:¬ 9223372036854775807 < rr.length+dd.length:=by omega
   rintro e w2 ⟨rfl,hb2⟩
   go_wp2
   go_ret
   exact ⟨ret_str (by rw [P.out];exact ba_app _ _),hb1.trans (hb2.mono hb1.size)⟩
 · have P2:Hid (Txt.pad n k=dd):=by rw [P.out,show k - dd.length=0 from by omega];rfl
   have hk2:¬ (dd.length:Int) < (k:Int):=by omega
   go_enter Tryz.func135,Tryz.ntmps135
   go_wp2_with fail
   refine (fmtint_prog n _ hn ht).mono ?_
   rw [← D.out]
   rintro e w1 ⟨rfl,hb1⟩
   go_wp2
   go_ret
   exact ⟨ret_str (by rw [P2.out]),hb1⟩
set_option maxHeartbeats 1000000 in
theorem two_any (n k:Nat) (w:World) (hn:n≤9223372036854775807) (hk:k≤100) (ht:Tab w) :
 Calls Tryz.prog 151 #[.int .i64 n,.int .i64 k] w fun e w'=>e=.returned (.string ⟨(Txt.pad n k).toArray⟩)∧Below w.heap.size w w':=by
 have P:Hid (Txt.pad n k=List.replicate (k - (Lib.decDigits n).length) 48++Lib.decDigits n):=rfl
 obtain ⟨dd,hdd⟩:∃ dd,dd=Lib.decDigits n:=⟨_,rfl⟩
 have hd20:dd.length≤20:=by rw [hdd];exact Txt.dec_len_le n 20 (by omega) (by omega)
 rw [← hdd] at P
 have D:=Lib.hid hdd
 clear hdd
 go_enter Tryz.func151,Tryz.ntmps151
 go_wp2_with fail
 refine (fmtint_ref n _ hn ht).mono ?_
 rw [← D.out]
 rintro e w1 ⟨rfl,hb1⟩
 go_wp2_with fail
 go_loop [5] (fun v=>∃ j:Nat,∃ l:List UInt8,l.length≤120∧v=.string ⟨l.toArray⟩∧Hid (l=List.replicate j 48++dd∧(j=0∨j+dd.length≤k))) (fun v=>k - (match v with|.string s=>s.size|_=>0))
 case atStart=>exact ⟨0,dd,by omega,rfl,by simp,.inl rfl⟩
 case round =>
  obtain ⟨j,l,hl,rfl,HL⟩:=hrel
  by_cases hlt:l.length < k
  · have h2:(l.length:Int) < (k:Int):=by omega
    have hs:¬ 9223372036854775807 < 1+l.length:=by omega
    go_wp2
    go_round
    case rel =>
     obtain ⟨rfl,hj⟩:=HL.out
     simp at hlt
     exact ⟨j+1,48 :: (List.replicate j 48++dd),by simp at hl ⊢;omega,congrArg Value.string (ba_app [48] (List.replicate j 48++dd)),by simp [List.replicate_succ],.inr (by omega)⟩
    case measure =>
     simp [ByteArray.size]
     omega
  · have h2:¬ (l.length:Int) < (k:Int):=by omega
    go_wp2
    go_ret
    refine ⟨ret_str ?_,hb1⟩
    obtain ⟨rfl,hj⟩:=HL.out
    simp at hlt
    rw [P.out]
    rcases hj with rfl|hj
    · simp at hlt ⊢;simp [show k - dd.length=0 from by omega]
    · rw [show k - dd.length=j from by omega]
end Go.Proofs.YtcejjdmnlejbaaaGreatDoor
namespace Go.Proofs.YtcejjdmnlejbaaaGreatDoor
set_option linter.unusedVariables false
set_option linter.unusedSimpArgs false
open Go.ChangeShapes Go.WideShapes Go.ChangeAt Go.RowKit
def padS (n:Int) (k:Nat):ByteArray:=⟨(Txt.pad n.toNat k).toArray⟩
theorem padS_size (n:Int) (k:Nat) (hk:1≤k) (h1:n < (10 ^ k:Nat)):(padS n k).size=k:=by
 show (Txt.pad n.toNat k).toArray.size=k
 rw [List.size_toArray]
 refine Txt.pad_len _ _ (Txt.dec_len_le _ _ hk ?_)
 have hp:0 < 10 ^ k:=Nat.pow_pos (by omega)
 generalize 10 ^ k=K at *
 omega
theorem padded_int (n:Int) (k:Nat) (w:World) (h0:0≤n) (hn:n≤9223372036854775807) (hk:k≤100) (ht:Tab w) :
 Calls Tryz.prog 135 #[.int .i64 n,.int .i64 k] w fun e w'=>e=.returned (.string (padS n k))∧Below w.heap.size w w':=by
 obtain ⟨m,rfl⟩:=Int.eq_ofNat_of_zero_le h0
 have:=padded_any m k w (by omega) hk ht
 simpa [padS] using this
theorem two_int (n:Int) (k:Nat) (w:World) (h0:0≤n) (hn:n≤9223372036854775807) (hk:k≤100) (ht:Tab w) :
 Calls Tryz.prog 151 #[.int .i64 n,.int .i64 k] w fun e w'=>e=.returned (.string (padS n k))∧Below w.heap.size w w':=by
 obtain ⟨m,rfl⟩:=Int.eq_ofNat_of_zero_le h0
 have:=two_any m k w (by omega) hk ht
 simpa [padS] using this
theorem padded2 (n:Int) (w:World) (h0:0≤n) (hn:n≤9223372036854775807) (ht:Tab w) :
 Calls Tryz.prog 135 #[.int .i64 n,.int .i64 2] w fun e w'=>e=.returned (.string (padS n 2))∧Below w.heap.size w w':=padded_int n 2 w h0 hn (by omega) ht
theorem two2 (n:Int) (w:World) (h0:0≤n) (hn:n≤9223372036854775807) (ht:Tab w) :
 Calls Tryz.prog 151 #[.int .i64 n,.int .i64 2] w fun e w'=>e=.returned (.string (padS n 2))∧Below w.heap.size w w':=two_int n 2 w h0 hn (by omega) ht
def fcS (c:Int):ByteArray:=padS (c / 60) 2++⟨#[58]⟩++padS (c % 60) 2
def fcBK (c:Int):Bool:=decide (0≤c∧c < 1440)
def fcV (c:Int):ByteArray:=if fcBK c=true then fcS c else ⟨#[]⟩
def fcE (c:Int):Int:=if fcBK c=true then 0 else 5
set_option maxHeartbeats 2000000 in
theorem fclock_any (c:Int) (w:World) (ht:Tab w) :
 Calls Tryz.prog 102 #[.int .i64 c] w fun e w'=>e=.returned (.tuple #[.string (fcV c),.int .i64 (fcE c)])∧Below w.heap.size w w':=by
 by_cases h:0≤c∧c < 1440
 · have hB:fcBK c=true:=by simp [fcBK];exact h
   have E1:Hid (fcV c=fcS c):=by unfold Hid fcV;rw [if_pos hB]
   have E2:Hid (fcE c=0):=by unfold Hid fcE;rw [if_pos hB]
   obtain ⟨h0,h1⟩:=h
   clear hB
   have h2:c≤1439:=by omega
   have d1:0≤c / 60:=by omega
   have d2:c / 60≤23:=by omega
   have d3:0≤c % 60:=by omega
   have d4:c % 60≤59:=by omega
   have z1:(padS (c / 60) 2).size=2:=padS_size _ 2 (by omega) (by omega)
   have z2:(padS (c % 60) 2).size=2:=padS_size _ 2 (by omega) (by omega)
   go_enter Tryz.func102,Tryz.ntmps102
   go_wp2_with fail
   refine (padded2 _ _ (by omega) (by omega) ht).mono ?_
   rintro e w1 ⟨rfl,hb1⟩
   go_wp2_with fail
   refine (padded2 _ _ (by omega) (by omega) (ht.next hb1)).mono ?_
   rintro e w2 ⟨rfl,hb2⟩
   go_wp2
   go_ret2
   exact ⟨by rw [E1.out,E2.out];rfl,hb1.trans (hb2.mono hb1.size)⟩
 · have hB:fcBK c=false:=by simp [fcBK];omega
   have E1:Hid (fcV c=⟨#[]⟩):=by unfold Hid fcV;rw [if_neg (by rw [hB];simp)]
   have E2:Hid (fcE c=5):=by unfold Hid fcE;rw [if_neg (by rw [hB];simp)]
   clear hB
   by_cases h0:0≤c
   · have h1:¬ c < 1440:=fun q=>h ⟨h0,q⟩
     clear h
     go_enter Tryz.func102,Tryz.ntmps102
     go_wp2
     go_ret2
     exact ⟨by rw [E1.out,E2.out];rfl,Below.refl _ _⟩
   · clear h
     go_enter Tryz.func102,Tryz.ntmps102
     go_wp2
     go_ret2
     exact ⟨by rw [E1.out,E2.out];rfl,Below.refl _ _⟩
set_option maxHeartbeats 2000000 in
theorem fclock_ref_any (c:Int) (w:World) (ht:Tab w) :
 Calls Tryz.prog 119 #[.int .i64 c] w fun e w'=>e=.returned (.tuple #[.string (fcV c),.int .i64 (fcE c)])∧Below w.heap.size w w':=by
 by_cases h:0≤c∧c < 1440
 · have hB:fcBK c=true:=by simp [fcBK];exact h
   have E1:Hid (fcV c=fcS c):=by unfold Hid fcV;rw [if_pos hB]
   have E2:Hid (fcE c=0):=by unfold Hid fcE;rw [if_pos hB]
   obtain ⟨h0,h1⟩:=h
   clear hB
   have h2:c≤1439:=by omega
   have d1:0≤c / 60:=by omega
   have d2:c / 60≤23:=by omega
   have d3:0≤c % 60:=by omega
   have d4:c % 60≤59:=by omega
   have z1:(padS (c / 60) 2).size=2:=padS_size _ 2 (by omega) (by omega)
   have z2:(padS (c % 60) 2).size=2:=padS_size _ 2 (by omega) (by omega)
   go_enter Tryz.func119,Tryz.ntmps119
   go_wp2_with fail
   refine (two2 _ _ (by omega) (by omega) ht).mono ?_
   rintro e w1 ⟨rfl,hb1⟩
   go_wp2_with fail
   refine (two2 _ _ (by omega) (by omega) (ht.next hb1)).mono ?_
   rintro e w2 ⟨rfl,hb2⟩
   go_wp2
   go_ret2
   exact ⟨by rw [E1.out,E2.out];rfl,hb1.trans (hb2.mono hb1.size)⟩
 · have hB:fcBK c=false:=by simp [fcBK];omega
   have E1:Hid (fcV c=⟨#[]⟩):=by unfold Hid fcV;rw [if_neg (by rw [hB];simp)]
   have E2:Hid (fcE c=5):=by unfold Hid fcE;rw [if_neg (by rw [hB];simp)]
   clear hB
   by_cases h0:0≤c
   · have h1:¬ c < 1440:=fun q=>h ⟨h0,q⟩
     clear h
     go_enter Tryz.func119,Tryz.ntmps119
     go_wp2
     go_ret2
     exact ⟨by rw [E1.out,E2.out];rfl,Below.refl _ _⟩
   · clear h
     go_enter Tryz.func119,Tryz.ntmps119
     go_wp2
     go_ret2
     exact ⟨by rw [E1.out,E2.out];rfl,Below.refl _ _⟩
end Go.Proofs.YtcejjdmnlejbaaaGreatDoor
