import Derived.Test.YtcejjdmnlejbaaaGreatDoorQKth
import Derived.Test.YtcejjdmnlejbaaaGreatDoorQKte
namespace Go.Proofs.YtcejjdmnlejbaaaGreatDoor
set_option linter.unusedVariables false
set_option linter.unusedSimpArgs false
open Go.ChangeShapes Go.WideShapes Go.ChangeAt Go.RowKit
def decS (n:Int):ByteArray:=⟨(Lib.decDigits n.toNat).toArray⟩
theorem fmtint_int (n:Int) (w:World) (h0:0≤n) (hn:n≤9223372036854775807) (ht:Tab w) :
 Calls Tryz.prog 49 #[.int .i64 n] w fun e w'=>e=.returned (.string (decS n))∧Below w.heap.size w w':=by
 obtain ⟨m,rfl⟩:=Int.eq_ofNat_of_zero_le h0
 exact fmtint_prog m w (by omega) ht
theorem fmtint_rint (n:Int) (w:World) (h0:0≤n) (hn:n≤9223372036854775807) (ht:Tab w) :
 Calls Tryz.prog 54 #[.int .i64 n] w fun e w'=>e=.returned (.string (decS n))∧Below w.heap.size w w':=by
 obtain ⟨m,rfl⟩:=Int.eq_ofNat_of_zero_le h0
 exact fmtint_ref m w (by omega) ht
theorem decS_size (n:Int) (h:n≤9223372036854775807):(decS n).size≤20:=by
 show (Lib.decDigits n.toNat).toArray.size≤20
 rw [List.size_toArray]
 exact Txt.dec_len_le _ 20 (by omega) (by omega)
def sgS (n:Int):ByteArray:=if n < 0 then ⟨#[45]⟩ else ⟨#[]⟩
theorem sgS_size (n:Int):(sgS n).size≤1:=by unfold sgS;split<;>decide
def absI (n:Int):Int:=if n < 0 then - n else n
def fuS (n:Int):ByteArray:=sgS n++decS (absI n / 60)++⟨#[58]⟩++padS (absI n % 60) 2
def fuB (n:Int):Bool:=decide (-1099511627776≤n∧n≤1099511627776)
def fuV (n:Int):ByteArray:=if fuB n=true then fuS n else ⟨#[]⟩
def fuE (n:Int):Int:=if fuB n=true then 0 else 5
set_option maxHeartbeats 2000000 in
set_option maxRecDepth 100000 in
theorem fdur_any (n:Int) (w:World) (ht:Tab w) :
 Calls Tryz.prog 101 #[.int .i64 n] w fun e w'=>e=.returned (.tuple #[.string (fuV n),.int .i64 (fuE n)])∧Below w.heap.size w w':=by
 by_cases hr : -1099511627776≤n∧n≤1099511627776
 · have V:Hid (fuV n=fuS n∧fuE n=0):=by unfold Hid fuV fuE fuB;simp [hr]
   obtain ⟨h1,h2⟩:=hr
   go_enter Tryz.func101,Tryz.ntmps101
   go_upto_if 12 with (fail)
   go_cut [0,4] (fun v0 v4 wx=>v0=.int .i64 (absI n)∧v4=.string (sgS n)∧wx=w)
   case first =>
    by_cases hn:n < 0
    · have A:Hid (absI n = - n∧sgS n=⟨#[45]⟩):=by unfold Hid absI sgS;simp [hn]
      go_wp2
      go_meet
      exact ⟨by rw [A.out.1],by rw [A.out.2],rfl⟩
    · have A:Hid (absI n=n∧sgS n=⟨#[]⟩):=by unfold Hid absI sgS;simp [hn]
      go_wp2
      go_meet
      exact ⟨by rw [A.out.1],by rw [A.out.2],rfl⟩
   case rest =>
    obtain ⟨rfl,rfl,rfl⟩:=hcut
    have a1:0≤absI n:=by unfold absI;split<;>omega
    have a2:absI n≤1099511627776:=by unfold absI;split<;>omega
    have V2:Hid (fuV n=sgS n++decS (absI n / 60)++⟨#[58]⟩++padS (absI n % 60) 2∧fuE n=0):=V.out
    have s1:=sgS_size n
    have s2:=decS_size (absI n / 60) (by omega)
    have s3:=padS_size (absI n % 60) 2 (by omega) (by omega)
    generalize absI n=m at *
    generalize sgS n=sg at *
    go_wp2_with fail
    refine (fmtint_int _ _ (by omega) (by omega) ht).mono ?_
    rintro e w1 ⟨rfl,hb1⟩
    go_wp2_with fail
    refine (padded2 _ _ (by omega) (by omega) (ht.next hb1)).mono ?_
    rintro e w2 ⟨rfl,hb2⟩
    go_wp2
    go_ret2
    exact ⟨by rw [V2.out.1,V2.out.2];rfl,hb1.trans (hb2.mono hb1.size)⟩
 · have V:Hid (fuV n=⟨#[]⟩∧fuE n=5):=by unfold Hid fuV fuE fuB;simp [hr]
   by_cases h1:n < -1099511627776
   · clear hr
     go_enter Tryz.func101,Tryz.ntmps101
     go_wp2
     go_ret2
     exact ⟨by rw [V.out.1,V.out.2];rfl,Below.refl _ _⟩
   · have h2:1099511627776 < n:=by omega
     clear hr
     go_enter Tryz.func101,Tryz.ntmps101
     go_wp2
     go_ret2
     exact ⟨by rw [V.out.1,V.out.2];rfl,Below.refl _ _⟩
set_option maxHeartbeats 2000000 in
set_option maxRecDepth 100000 in
theorem fdur_ref_any (n:Int) (w:World) (ht:Tab w) :
 Calls Tryz.prog 118 #[.int .i64 n] w fun e w'=>e=.returned (.tuple #[.string (fuV n),.int .i64 (fuE n)])∧Below w.heap.size w w':=by
 by_cases hr : -1099511627776≤n∧n≤1099511627776
 · have V:Hid (fuV n=fuS n∧fuE n=0):=by unfold Hid fuV fuE fuB;simp [hr]
   obtain ⟨h1,h2⟩:=hr
   go_enter Tryz.func118,Tryz.ntmps118
   go_upto_if 12 with (fail)
   go_cut [0,4] (fun v0 v4 wx=>v0=.int .i64 (absI n)∧v4=.string (sgS n)∧wx=w)
   case first =>
    by_cases hn:n < 0
    · have A:Hid (absI n = - n∧sgS n=⟨#[45]⟩):=by unfold Hid absI sgS;simp [hn]
      go_wp2
      go_meet
      exact ⟨by rw [A.out.1],by rw [A.out.2],rfl⟩
    · have A:Hid (absI n=n∧sgS n=⟨#[]⟩):=by unfold Hid absI sgS;simp [hn]
      go_wp2
      go_meet
      exact ⟨by rw [A.out.1],by rw [A.out.2],rfl⟩
   case rest =>
    obtain ⟨rfl,rfl,rfl⟩:=hcut
    have a1:0≤absI n:=by unfold absI;split<;>omega
    have a2:absI n≤1099511627776:=by unfold absI;split<;>omega
    have V2:Hid (fuV n=sgS n++decS (absI n / 60)++⟨#[58]⟩++padS (absI n % 60) 2∧fuE n=0):=V.out
    have s1:=sgS_size n
    have s2:=decS_size (absI n / 60) (by omega)
    have s3:=padS_size (absI n % 60) 2 (by omega) (by omega)
    generalize absI n=m at *
    generalize sgS n=sg at *
    go_wp2_with fail
    refine (fmtint_rint _ _ (by omega) (by omega) ht).mono ?_
    rintro e w1 ⟨rfl,hb1⟩
    go_wp2_with fail
    refine (two2 _ _ (by omega) (by omega) (ht.next hb1)).mono ?_
    rintro e w2 ⟨rfl,hb2⟩
    go_wp2
    go_ret2
    exact ⟨by rw [V2.out.1,V2.out.2];rfl,hb1.trans (hb2.mono hb1.size)⟩
 · have V:Hid (fuV n=⟨#[]⟩∧fuE n=5):=by unfold Hid fuV fuE fuB;simp [hr]
   by_cases h1:n < -1099511627776
   · clear hr
     go_enter Tryz.func118,Tryz.ntmps118
     go_wp2
     go_ret2
     exact ⟨by rw [V.out.1,V.out.2];rfl,Below.refl _ _⟩
   · have h2:1099511627776 < n:=by omega
     clear hr
     go_enter Tryz.func118,Tryz.ntmps118
     go_wp2
     go_ret2
     exact ⟨by rw [V.out.1,V.out.2];rfl,Below.refl _ _⟩
end Go.Proofs.YtcejjdmnlejbaaaGreatDoor
