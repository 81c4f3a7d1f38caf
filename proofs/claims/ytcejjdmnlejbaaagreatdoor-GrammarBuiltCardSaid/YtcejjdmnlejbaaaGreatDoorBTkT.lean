import Derived.Test.YtcejjdmnlejbaaaGreatDoorBKtd
import Derived.Test.YtcejjdmnlejbaaaGreatDoorBKte
import Derived.Test.YtcejjdmnlejbaaaGreatDoorBTkS
namespace Go.Proofs.YtcejjdmnlejbaaaGreatDoor
set_option linter.unusedVariables false
set_option linter.unusedSimpArgs false
open Go.ChangeShapes Go.WideShapes Go.ChangeAt Go.RowKit
def Tab (w:World):Prop:=Lib.TabIs Tryz.prog w "internal/strconv.uint64pow10" .u64 Lib.pow10Tab ∧ 1 < w.heap.size
theorem tabG:Tryz.prog.globalNamed "internal/strconv.uint64pow10"=some 1:=by kernel_rfl
theorem Tab.below {B:Nat} {w w':World} (h:Tab w) (hb:Below B w w') (hB : 1 < B):Tab w' :=
 ⟨var?_below hb tabG hB h.1,by have:=hb.size;have:=h.2;omega⟩
theorem Tab.next {w w':World} (h:Tab w) (hb:Below w.heap.size w w'):Tab w':=h.below hb h.2
theorem Tab.alloc {w:World} (h:Tab w) (o:Obj):Tab (w.alloc o):=h.next ((Below.refl _ _).alloc (Nat.le_refl _) o)
theorem itoa_any (n:Nat) (w:World) (hn:n≤9223372036854775807) (ht:Tab w) :
 Calls Tryz.prog 104 #[.int .i64 n] w fun e w'=>e=.returned (.string ⟨(Lib.decDigits n).toArray⟩)∧Below w.heap.size w w':=by
 refine (Tryz.strconv_Itoa (n:Int) (by omega) (by omega) w ht.1).mono ?_
 rintro e w' ⟨rfl,k,os,rfl⟩
 refine ⟨?_,below_grow _ _ _⟩
 have:Lib.itoa (n:Int)=Lib.decDigits n:=by unfold Lib.itoa;rw [if_neg (by omega)];simp
 rw [this]
theorem fmtint_prog (n:Nat) (w:World) (hn:n≤9223372036854775807) (ht:Tab w) :
 Calls Tryz.prog 49 #[.int .i64 n] w fun e w'=>e=.returned (.string ⟨(Lib.decDigits n).toArray⟩)∧Below w.heap.size w w':=by
 go_enter Tryz.func49,Tryz.ntmps49
 go_wp2_with (go_at_call 104;refine (itoa_any _ _ hn ht).mono ?_;rintro e w1 ⟨rfl,hb⟩)
 go_ret
 exact ⟨rfl,hb⟩
set_option maxHeartbeats 1000000 in
theorem padded_any (n k:Nat) (w:World) (hn:n≤9223372036854775807) (hk:k≤100) (ht:Tab w) :
 Calls Tryz.prog 135 #[.int .i64 n,.int .i64 k] w fun e w'=>e=.returned (.string ⟨(Txt.pad n k).toArray⟩)∧Below w.heap.size w w':=by
 have P:Hid (Txt.pad n k=Lib.repeatL [48] (k - (Lib.decDigits n).length)++Lib.decDigits n):=by unfold Hid Txt.pad;rw [Txt.repeatL_one]
 obtain ⟨dd,hdd⟩:∃ dd,dd=Lib.decDigits n:=⟨_,rfl⟩
 rw [← hdd] at P
 have D:=Lib.hid hdd
 clear hdd
 by_cases hl:dd.length < k
 · go_enter Tryz.func135,Tryz.ntmps135
   go_wp2_with fail
   refine (fmtint_prog n _ hn ht).mono ?_
   rw [← D.out]
   rintro e w1 ⟨rfl,hb1⟩
   have hk2:(dd.length:Int) < (k:Int):=by omega
   go_wp2_with fail
   rw [show (k:Int) - (dd.length:Int)=((k - dd.length:Nat):Int) from by omega]
   have hrl:(Lib.repeatL [48] (k - dd.length)).length≤100:=by rw [Lib.repeatL_length];simp;omega
   refine (Tryz.strings_Repeat ⟨#[48]⟩ (k - dd.length) _ (by omega) (by simp [ByteArray.size];omega)).mono ?_
   generalize hrr:Lib.repeatL [48] (k - dd.length)=rr at *
   have R:=Lib.hid hrr
   clear hrr
   have hs:¬ 9223372036854775807 < rr.length+dd.length:=by omega
   rintro e w2 ⟨rfl,hb2⟩
   go_wp2
   go_ret
   exact ⟨ret_str (by rw [P.out];exact ba_app _ _),hb1.trans (hb2.mono hb1.size)⟩
 · have P2:Hid (Txt.pad n k=dd):=by rw [P.out,show k - dd.length=0 from by omega];rfl
   have hk2:¬ (dd.length:Int) < (k:Int):=by omega
   go_enter Tryz.func135,Tryz.ntmps135
   go_wp2_with fail
   refine (fmtint_prog n _ hn ht).mono ?_
   rw [← D.out]
   rintro e w1 ⟨rfl,hb1⟩
   go_wp2
   go_ret
   exact ⟨ret_str (by rw [P2.out]),hb1⟩
end Go.Proofs.YtcejjdmnlejbaaaGreatDoor
namespace Go.Proofs.YtcejjdmnlejbaaaGreatDoor
set_option linter.unusedVariables false
set_option linter.unusedSimpArgs false
open Go.ChangeShapes Go.WideShapes Go.ChangeAt Go.RowKit
def padS (n:Int) (k:Nat):ByteArray:=⟨(Txt.pad n.toNat k).toArray⟩
theorem padS_size (n:Int) (k:Nat) (hk:1≤k) (h1:n < (10 ^ k:Nat)):(padS n k).size=k:=by
 show (Txt.pad n.toNat k).toArray.size=k
 rw [List.size_toArray]
 refine Txt.pad_len _ _ (Txt.dec_len_le _ _ hk ?_)
 have hp:0 < 10 ^ k:=Nat.pow_pos (by omega)
 generalize 10 ^ k=K at *
 omega
theorem padded_int (n:Int) (k:Nat) (w:World) (h0:0≤n) (hn:n≤9223372036854775807) (hk:k≤100) (ht:Tab w) :
 Calls Tryz.prog 135 #[.int .i64 n,.int .i64 k] w fun e w'=>e=.returned (.string (padS n k))∧Below w.heap.size w w':=by
 obtain ⟨m,rfl⟩:=Int.eq_ofNat_of_zero_le h0
 have:=padded_any m k w (by omega) hk ht
 simpa [padS] using this
theorem padded2 (n:Int) (w:World) (h0:0≤n) (hn:n≤9223372036854775807) (ht:Tab w) :
 Calls Tryz.prog 135 #[.int .i64 n,.int .i64 2] w fun e w'=>e=.returned (.string (padS n 2))∧Below w.heap.size w w':=padded_int n 2 w h0 hn (by omega) ht
def fcS (c:Int):ByteArray:=padS (c / 60) 2++⟨#[58]⟩++padS (c % 60) 2
def fcBK (c:Int):Bool:=decide (0≤c∧c < 1440)
def fcV (c:Int):ByteArray:=if fcBK c=true then fcS c else ⟨#[]⟩
def fcE (c:Int):Int:=if fcBK c=true then 0 else 5
set_option maxHeartbeats 2000000 in
theorem fclock_any (c:Int) (w:World) (ht:Tab w) :
 Calls Tryz.prog 102 #[.int .i64 c] w fun e w'=>e=.returned (.tuple #[.string (fcV c),.int .i64 (fcE c)])∧Below w.heap.size w w':=by
 by_cases h:0≤c∧c < 1440
 · have hB:fcBK c=true:=by simp [fcBK];exact h
   have E1:Hid (fcV c=fcS c):=by unfold Hid fcV;rw [if_pos hB]
   have E2:Hid (fcE c=0):=by unfold Hid fcE;rw [if_pos hB]
   obtain ⟨h0,h1⟩:=h
   clear hB
   have h2:c≤1439:=by omega
   have d1:0≤c / 60:=by omega
   have d2:c / 60≤23:=by omega
   have d3:0≤c % 60:=by omega
   have d4:c % 60≤59:=by omega
   have z1:(padS (c / 60) 2).size=2:=padS_size _ 2 (by omega) (by omega)
   have z2:(padS (c % 60) 2).size=2:=padS_size _ 2 (by omega) (by omega)
   go_enter Tryz.func102,Tryz.ntmps102
   go_wp2_with fail
   refine (padded2 _ _ (by omega) (by omega) ht).mono ?_
   rintro e w1 ⟨rfl,hb1⟩
   go_wp2_with fail
   refine (padded2 _ _ (by omega) (by omega) (ht.next hb1)).mono ?_
   rintro e w2 ⟨rfl,hb2⟩
   go_wp2
   go_ret2
   exact ⟨by rw [E1.out,E2.out];rfl,hb1.trans (hb2.mono hb1.size)⟩
 · have hB:fcBK c=false:=by simp [fcBK];omega
   have E1:Hid (fcV c=⟨#[]⟩):=by unfold Hid fcV;rw [if_neg (by rw [hB];simp)]
   have E2:Hid (fcE c=5):=by unfold Hid fcE;rw [if_neg (by rw [hB];simp)]
   clear hB
   by_cases h0:0≤c
   · have h1:¬ c < 1440:=fun q=>h ⟨h0,q⟩
     clear h
     go_enter Tryz.func102,Tryz.ntmps102
     go_wp2
     go_ret2
     exact ⟨by rw [E1.out,E2.out];rfl,Below.refl _ _⟩
   · clear h
     go_enter Tryz.func102,Tryz.ntmps102
     go_wp2
     go_ret2
     exact ⟨by rw [E1.out,E2.out];rfl,Below.refl _ _⟩
end Go.Proofs.YtcejjdmnlejbaaaGreatDoor
namespace Go.Proofs.YtcejjdmnlejbaaaGreatDoor
set_option linter.unusedVariables false
set_option linter.unusedSimpArgs false
open Go.ChangeShapes Go.WideShapes Go.ChangeAt Go.RowKit
def decS (n:Int):ByteArray:=⟨(Lib.decDigits n.toNat).toArray⟩
theorem fmtint_int (n:Int) (w:World) (h0:0≤n) (hn:n≤9223372036854775807) (ht:Tab w) :
 Calls Tryz.prog 49 #[.int .i64 n] w fun e w'=>e=.returned (.string (decS n))∧Below w.heap.size w w':=by
 obtain ⟨m,rfl⟩:=Int.eq_ofNat_of_zero_le h0
 exact fmtint_prog m w (by omega) ht
theorem decS_size (n:Int) (h:n≤9223372036854775807):(decS n).size≤20:=by
 show (Lib.decDigits n.toNat).toArray.size≤20
 rw [List.size_toArray]
 exact Txt.dec_len_le _ 20 (by omega) (by omega)
def sgS (n:Int):ByteArray:=if n < 0 then ⟨#[45]⟩ else ⟨#[]⟩
theorem sgS_size (n:Int):(sgS n).size≤1:=by unfold sgS;split<;>decide
def absI (n:Int):Int:=if n < 0 then - n else n
def fuS (n:Int):ByteArray:=sgS n++decS (absI n / 60)++⟨#[58]⟩++padS (absI n % 60) 2
def fuB (n:Int):Bool:=decide (-1099511627776≤n∧n≤1099511627776)
def fuV (n:Int):ByteArray:=if fuB n=true then fuS n else ⟨#[]⟩
def fuE (n:Int):Int:=if fuB n=true then 0 else 5
set_option maxHeartbeats 2000000 in
set_option maxRecDepth 100000 in
theorem fdur_any (n:Int) (w:World) (ht:Tab w) :
 Calls Tryz.prog 101 #[.int .i64 n] w fun e w'=>e=.returned (.tuple #[.string (fuV n),.int .i64 (fuE n)])∧Below w.heap.size w w':=by
 by_cases hr : -1099511627776≤n∧n≤1099511627776
 · have V:Hid (fuV n=fuS n∧fuE n=0):=by unfold Hid fuV fuE fuB;simp [hr]
   obtain ⟨h1,h2⟩:=hr
   go_enter Tryz.func101,Tryz.ntmps101
   go_upto_if 12 with (fail)
   go_cut [0,4] (fun v0 v4 wx=>v0=.int .i64 (absI n)∧v4=.string (sgS n)∧wx=w)
   case first =>
    by_cases hn:n < 0
    · have A:Hid (absI n = - n∧sgS n=⟨#[45]⟩):=by unfold Hid absI sgS;simp [hn]
      go_wp2
      go_meet
      exact ⟨by rw [A.out.1],by rw [A.out.2],rfl⟩
    · have A:Hid (absI n=n∧sgS n=⟨#[]⟩):=by unfold Hid absI sgS;simp [hn]
      go_wp2
      go_meet
      exact ⟨by rw [A.out.1],by rw [A.out.2],rfl⟩
   case rest =>
    obtain ⟨rfl,rfl,rfl⟩:=hcut
    have a1:0≤absI n:=by unfold absI;split<;>omega
    have a2:absI n≤1099511627776:=by unfold absI;split<;>omega
    have V2:Hid (fuV n=sgS n++decS (absI n / 60)++⟨#[58]⟩++padS (absI n % 60) 2∧fuE n=0):=V.out
    have s1:=sgS_size n
    have s2:=decS_size (absI n / 60) (by omega)
    have s3:=padS_size (absI n % 60) 2 (by omega) (by omega)
    generalize absI n=m at *
    generalize sgS n=sg at *
    go_wp2_with fail
    refine (fmtint_int _ _ (by omega) (by omega) ht).mono ?_
    rintro e w1 ⟨rfl,hb1⟩
    go_wp2_with fail
    refine (padded2 _ _ (by omega) (by omega) (ht.next hb1)).mono ?_
    rintro e w2 ⟨rfl,hb2⟩
    go_wp2
    go_ret2
    exact ⟨by rw [V2.out.1,V2.out.2];rfl,hb1.trans (hb2.mono hb1.size)⟩
 · have V:Hid (fuV n=⟨#[]⟩∧fuE n=5):=by unfold Hid fuV fuE fuB;simp [hr]
   by_cases h1:n < -1099511627776
   · clear hr
     go_enter Tryz.func101,Tryz.ntmps101
     go_wp2
     go_ret2
     exact ⟨by rw [V.out.1,V.out.2];rfl,Below.refl _ _⟩
   · have h2:1099511627776 < n:=by omega
     clear hr
     go_enter Tryz.func101,Tryz.ntmps101
     go_wp2
     go_ret2
     exact ⟨by rw [V.out.1,V.out.2];rfl,Below.refl _ _⟩
end Go.Proofs.YtcejjdmnlejbaaaGreatDoor
namespace Go.Proofs.YtcejjdmnlejbaaaGreatDoor
set_option linter.unusedVariables false
set_option linter.unusedSimpArgs false
open Go.ChangeShapes Go.WideShapes Go.ChangeAt Go.RowKit
def itoaB (n:Int):ByteArray:=⟨(Lib.itoa n).toArray⟩
def txtR (k:Int) (x:ByteArray) (n:Int):ByteArray:=if k=1∨k=5 then x else if k=2 then itoaB n else if k=3 then fuV n else if k=4 then ⟨#[64]⟩++fcV n else ⟨#[]⟩
theorem bytes_ne {a b:ByteArray} (h:a≠b):(a.toList==b.toList)=false:=by
 rw [Lib.toList_data,Lib.toList_data]
 exact beq_eq_false_iff_ne.2 fun q=>h (ByteArray.ext (Array.toList_inj.1 q))
theorem itoa_size (n:Int) (h0 : -9223372036854775808≤n) (h1:n≤9223372036854775807):(itoaB n).size≤21:=by
 show (Lib.itoa n).toArray.size≤21
 rw [List.size_toArray]
 unfold Lib.itoa
 have h2:n.natAbs < 10 ^ 20:=by omega
 have:=Txt.dec_len_le n.natAbs 20 (by omega) h2
 have h3:=Txt.dec_len_le n.toNat 20 (by omega) (by omega)
 split
 · simp;omega
 · omega
theorem fu_size (n:Int):(fuV n).size≤100:=by
 unfold fuV
 split
 · rename_i q
   unfold fuB at q;rw [decide_eq_true_eq] at q
   have ha:0≤absI n∧absI n≤1099511627776:=by unfold absI;split<;>omega
   unfold fuS
   rw [ByteArray.size_append,ByteArray.size_append,ByteArray.size_append]
   have h1:=sgS_size n
   have h2:=decS_size (absI n / 60) (by omega)
   have h3:=padS_size (absI n % 60) 2 (by omega) (by omega)
   have h4:(⟨#[58]⟩:ByteArray).size=1:=rfl
   omega
 · decide
theorem fc_size (n:Int):(fcV n).size≤100:=by
 unfold fcV
 split
 · rename_i q
   unfold fcBK at q;rw [decide_eq_true_eq] at q
   unfold fcS
   rw [ByteArray.size_append,ByteArray.size_append]
   have h3:=padS_size (n / 60) 2 (by omega) (by omega)
   have h5:=padS_size (n % 60) 2 (by omega) (by omega)
   have h4:(⟨#[58]⟩:ByteArray).size=1:=rfl
   omega
 · decide
end Go.Proofs.YtcejjdmnlejbaaaGreatDoor
