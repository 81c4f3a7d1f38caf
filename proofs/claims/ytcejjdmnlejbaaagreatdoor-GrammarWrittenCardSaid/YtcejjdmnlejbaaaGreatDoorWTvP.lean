import Derived.Test.YtcejjdmnlejbaaaGreatDoorWTkR
namespace Go.Proofs.YtcejjdmnlejbaaaGreatDoor
open Lib(hid)
set_option linter.unusedVariables false
set_option linter.unusedSimpArgs false
open Go.ChangeShapes Go.WideShapes Go.ChangeAt Go.RowKit
set_option maxHeartbeats 8000000
set_option maxRecDepth 100000
def Tab(w:World):Prop:=Lib.TabIs Tryz.prog w "internal/strconv.uint64pow10" .u64 Lib.pow10Tab∧ 1 < w.heap.size
theorem UF:Tryz.prog.globalNamed "internal/strconv.uint64pow10"=some 1:=by kernel_rfl
theorem Tab.below{B:Nat}{w w':World}(h:Tab w)(hb:Below B w w')(hB : 1 < B):Tab w' :=
 ⟨var?_below hb UF hB h.1,by have:=hb.size;have:=h.2;omega⟩
theorem Tab.next{w w':World}(h:Tab w)(hb:Below w.heap.size w w'):Tab w':=h.below hb h.2
theorem Tab.alloc{w:World}(h:Tab w)(o:Obj):Tab (w.alloc o):=h.next ((Below.refl _ _).alloc (Nat.le_refl _) o)
theorem vZ(n:Nat)(w:World)(hn:n≤9223372036854775807)(ht:Tab w) :
 Calls Tryz.prog 104 #[.int .i64 n] w fun e w'=>e=.returned (.string ⟨(Lib.decDigits n).toArray⟩)∧Below w.heap.size w w':=by
 refine(Tryz.strconv_Itoa (n:Int) (by omega) (by omega) w ht.1).mono ?_;rintro e w' ⟨rfl,k,os,rfl⟩;refine⟨?_,below_grow _ _ _⟩;have:Lib.itoa (n:Int)=Lib.decDigits n:=by unfold Lib.itoa;rw[if_neg (by omega)];simp
 rw[this]
theorem jZ(n:Nat)(w:World)(hn:n≤9223372036854775807)(ht:Tab w) :
 Calls Tryz.prog 49 #[.int .i64 n] w fun e w'=>e=.returned (.string ⟨(Lib.decDigits n).toArray⟩)∧Below w.heap.size w w':=by
 go_enter Tryz.func49,Tryz.ntmps49;go_wp2_with (go_at_call 104;refine(vZ _ _ hn ht).mono ?_;rintro e w1 ⟨rfl,hb⟩);go_ret;exact⟨rfl,hb⟩
theorem ul(n:Nat)(w:World)(hn:n≤9223372036854775807)(ht:Tab w) :
 Calls Tryz.prog 54 #[.int .i64 n] w fun e w'=>e=.returned (.string ⟨(Lib.decDigits n).toArray⟩)∧Below w.heap.size w w':=by
 go_enter Tryz.func54,Tryz.ntmps54;go_wp2_with (go_at_call 104;refine(vZ _ _ hn ht).mono ?_;rintro e w1 ⟨rfl,hb⟩);go_ret;exact⟨rfl,hb⟩
theorem Qw(n k:Nat)(w:World)(hn:n≤9223372036854775807)(hk:k≤100)(ht:Tab w) :
 Calls Tryz.prog 135 #[.int .i64 n,.int .i64 k] w fun e w'=>e=.returned (.string ⟨(Txt.pad n k).toArray⟩)∧Below w.heap.size w w':=by
 have P:Hid (Txt.pad n k=Lib.repeatL [48] (k - (Lib.decDigits n).length)++Lib.decDigits n):=by unfold Hid Txt.pad;rw[Txt.repeatL_one]
 obtain⟨dd,hdd⟩:∃dd,dd=Lib.decDigits n:=⟨_,rfl⟩;rw[← hdd] at P;have D:=hid hdd;clear hdd
 by_cases hl:dd.length < k
 ·go_enter Tryz.func135,Tryz.ntmps135;go_wp2_with fail;refine(jZ n _ hn ht).mono ?_;rw[← D.out];rintro e w1 ⟨rfl,hb1⟩;have hk2:(dd.length:Int) < (k:Int):=(by omega);go_wp2_with fail;rw[show(k:Int) - (dd.length:Int)=((k - dd.length:Nat):Int) from by omega];have hrl:(Lib.repeatL [48] (k - dd.length)).length≤100:=(by rw[Lib.repeatL_length];simp;omega);refine(Tryz.strings_Repeat ⟨#[48]⟩ (k - dd.length) _ (by omega) (by simp[ByteArray.size];omega)).mono ?_;generalize hrr:Lib.repeatL [48] (k - dd.length)=rr at *;have R:=hid hrr;clear hrr;have hs:¬ 9223372036854775807 < rr.length+dd.length:=(by omega);rintro e w2 ⟨rfl,hb2⟩;go_wp2;go_ret;exact⟨vb (by rw[P.out];exact vq _ _),hb1.trans (hb2.mono hb1.size)⟩
 ·have P2:Hid (Txt.pad n k=dd):=by rw[P.out,show k - dd.length=0 from by omega];rfl
  have hk2:¬(dd.length:Int) < (k:Int):=(by omega);go_enter Tryz.func135,Tryz.ntmps135;go_wp2_with fail;refine(jZ n _ hn ht).mono ?_;rw[← D.out];rintro e w1 ⟨rfl,hb1⟩;go_wp2;go_ret;exact⟨vb (by rw[P2.out]),hb1⟩
theorem KH(n k:Nat)(w:World)(hn:n≤9223372036854775807)(hk:k≤100)(ht:Tab w) :
 Calls Tryz.prog 151 #[.int .i64 n,.int .i64 k] w fun e w'=>e=.returned (.string ⟨(Txt.pad n k).toArray⟩)∧Below w.heap.size w w':=by
 have P:Hid (Txt.pad n k=List.replicate (k - (Lib.decDigits n).length) 48++Lib.decDigits n):=rfl;obtain⟨dd,hdd⟩:∃dd,dd=Lib.decDigits n:=⟨_,rfl⟩;have hd20:dd.length≤20:=by rw[hdd];exact Txt.dec_len_le n 20 (by omega) (by omega)
 rw[← hdd] at P;have D:=hid hdd;clear hdd;go_enter Tryz.func151,Tryz.ntmps151;go_wp2_with fail;refine(ul n _ hn ht).mono ?_;rw[← D.out];rintro e w1 ⟨rfl,hb1⟩;go_wp2_with fail
 go_loop [5] (fun v=>∃j:Nat,∃l:List UInt8,l.length≤120∧v=.string ⟨l.toArray⟩∧Hid (l=List.replicate j 48++dd∧(j=0∨j+dd.length≤k))) (fun v=>k - (match v with|.string s=>s.size|_=>0))
 case atStart=>exact⟨0,dd,by omega,rfl,by simp,.inl rfl⟩
 case round =>
  obtain⟨j,l,hl,rfl,HL⟩:=hrel
  by_cases qD:l.length < k
  ·have h2:(l.length:Int) < (k:Int):=by omega
   have hs:¬ 9223372036854775807 < 1+l.length:=(by omega);go_wp2
   go_round
   case rel =>
    obtain⟨rfl,hj⟩:=HL.out;simp at qD;exact⟨j+1,48 :: (List.replicate j 48++dd),by simp at hl ⊢;omega,congrArg Value.string (vq [48] (List.replicate j 48++dd)),by simp[List.replicate_succ],.inr (by omega)⟩
   case measure =>
    simp[ByteArray.size];omega
  ·have h2:¬(l.length:Int) < (k:Int):=by omega
   go_wp2;go_ret;refine⟨vb ?_,hb1⟩;obtain⟨rfl,hj⟩:=HL.out;simp at qD;rw[P.out];rcases hj with rfl|hj
   ·simp at qD ⊢;simp[show k - dd.length=0 from by omega]
   ·rw[show k - dd.length=j from by omega]
def jS(n:Int)(k:Nat):ByteArray:=⟨(Txt.pad n.toNat k).toArray⟩
theorem yR(n:Int)(k:Nat)(hk:1≤k)(h1:n < (10 ^ k:Nat)):(jS n k).size=k:=by
 show(Txt.pad n.toNat k).toArray.size=k
 rw[List.size_toArray];refine Txt.pad_len _ _ (Txt.dec_len_le _ _ hk ?_);have hp:0 < 10 ^ k:=Nat.pow_pos (by omega);generalize 10 ^ k=K at *;omega
theorem Qv(n:Int)(k:Nat)(w:World)(h0:0≤n)(hn:n≤9223372036854775807)(hk:k≤100)(ht:Tab w) :
 Calls Tryz.prog 135 #[.int .i64 n,.int .i64 k] w fun e w'=>e=.returned (.string (jS n k))∧Below w.heap.size w w':=by
 obtain⟨m,rfl⟩:=Int.eq_ofNat_of_zero_le h0;have:=Qw m k w (by omega) hk ht
 simpa [jS] using this
theorem KG(n:Int)(k:Nat)(w:World)(h0:0≤n)(hn:n≤9223372036854775807)(hk:k≤100)(ht:Tab w) :
 Calls Tryz.prog 151 #[.int .i64 n,.int .i64 k] w fun e w'=>e=.returned (.string (jS n k))∧Below w.heap.size w w':=by
 obtain⟨m,rfl⟩:=Int.eq_ofNat_of_zero_le h0;have:=KH m k w (by omega) hk ht
 simpa [jS] using this
theorem vg(n:Int)(w:World)(h0:0≤n)(hn:n≤9223372036854775807)(ht:Tab w) :
 Calls Tryz.prog 135 #[.int .i64 n,.int .i64 2] w fun e w'=>e=.returned (.string (jS n 2))∧Below w.heap.size w w':=Qv n 2 w h0 hn (by omega) ht
theorem UC(n:Int)(w:World)(h0:0≤n)(hn:n≤9223372036854775807)(ht:Tab w) :
 Calls Tryz.prog 151 #[.int .i64 n,.int .i64 2] w fun e w'=>e=.returned (.string (jS n 2))∧Below w.heap.size w w':=KG n 2 w h0 hn (by omega) ht
theorem Tab.regrown{w:World}(h:Tab w)(d:Nat)(os:Array Obj):Tab (Sort.grow (redrawn w d) os):=h.next (below_regrown w d os)
def jQ(c:Int):ByteArray:=jS (c / 60) 2++⟨#[58]⟩++jS (c % 60) 2
def jb(c:Int):Bool:=decide (0≤c∧c < 1440)
def ja(c:Int):ByteArray:=if jb c=true then jQ c else ⟨#[]⟩
def Jc(c:Int):Int:=if jb c=true then 0 else 5
theorem jP(c:Int)(w:World)(ht:Tab w) :
 Calls Tryz.prog 102 #[.int .i64 c] w fun e w'=>e=.returned (.tuple #[.string (ja c),.int .i64 (Jc c)])∧Below w.heap.size w w':=by
 by_cases h:0≤c∧c < 1440
 ·have hB:jb c=true:=by simp[jb];exact h
  have E1:Hid (ja c=jQ c):=(by unfold Hid ja;rw[if_pos hB]);have E2:Hid (Jc c=0):=(by unfold Hid Jc;rw[if_pos hB]);obtain⟨h0,h1⟩:=h;clear hB;have h2:c≤1439:=(by omega);have d1:0≤c / 60:=(by omega);have d2:c / 60≤23:=(by omega);have d3:0≤c % 60:=(by omega);have d4:c % 60≤59:=(by omega);have z1:(jS (c / 60) 2).size=2:=yR _ 2 (by omega) (by omega);have z2:(jS (c % 60) 2).size=2:=yR _ 2 (by omega) (by omega);go_enter Tryz.func102,Tryz.ntmps102;go_wp2_with fail;refine(vg _ _ (by omega) (by omega) ht).mono ?_;rintro e w1 ⟨rfl,hb1⟩;go_wp2_with fail;refine(vg _ _ (by omega) (by omega) (ht.next hb1)).mono ?_;rintro e w2 ⟨rfl,hb2⟩;go_wp2
  go_ret2
  exact⟨by rw[E1.out,E2.out];rfl,hb1.trans (hb2.mono hb1.size)⟩
 ·have hB:jb c=false:=by simp[jb];omega
  have E1:Hid (ja c=⟨#[]⟩):=(by unfold Hid ja;rw[if_neg (by rw[hB];simp)]);have E2:Hid (Jc c=5):=(by unfold Hid Jc;rw[if_neg (by rw[hB];simp)]);clear hB
  by_cases h0:0≤c
  ·have h1:¬c < 1440:=fun q=>h ⟨h0,q⟩;clear h;go_enter Tryz.func102,Tryz.ntmps102;go_wp2
   go_ret2
   exact⟨by rw[E1.out,E2.out];rfl,Below.refl _ _⟩
  ·clear h;go_enter Tryz.func102,Tryz.ntmps102;go_wp2
   go_ret2
   exact⟨by rw[E1.out,E2.out];rfl,Below.refl _ _⟩
theorem uq(c:Int)(w:World)(ht:Tab w) :
 Calls Tryz.prog 119 #[.int .i64 c] w fun e w'=>e=.returned (.tuple #[.string (ja c),.int .i64 (Jc c)])∧Below w.heap.size w w':=by
 by_cases h:0≤c∧c < 1440
 ·have hB:jb c=true:=by simp[jb];exact h
  have E1:Hid (ja c=jQ c):=(by unfold Hid ja;rw[if_pos hB]);have E2:Hid (Jc c=0):=(by unfold Hid Jc;rw[if_pos hB]);obtain⟨h0,h1⟩:=h;clear hB;have h2:c≤1439:=(by omega);have d1:0≤c / 60:=(by omega);have d2:c / 60≤23:=(by omega);have d3:0≤c % 60:=(by omega);have d4:c % 60≤59:=(by omega);have z1:(jS (c / 60) 2).size=2:=yR _ 2 (by omega) (by omega);have z2:(jS (c % 60) 2).size=2:=yR _ 2 (by omega) (by omega);go_enter Tryz.func119,Tryz.ntmps119;go_wp2_with fail;refine(UC _ _ (by omega) (by omega) ht).mono ?_;rintro e w1 ⟨rfl,hb1⟩;go_wp2_with fail;refine(UC _ _ (by omega) (by omega) (ht.next hb1)).mono ?_;rintro e w2 ⟨rfl,hb2⟩;go_wp2
  go_ret2
  exact⟨by rw[E1.out,E2.out];rfl,hb1.trans (hb2.mono hb1.size)⟩
 ·have hB:jb c=false:=by simp[jb];omega
  have E1:Hid (ja c=⟨#[]⟩):=(by unfold Hid ja;rw[if_neg (by rw[hB];simp)]);have E2:Hid (Jc c=5):=(by unfold Hid Jc;rw[if_neg (by rw[hB];simp)]);clear hB
  by_cases h0:0≤c
  ·have h1:¬c < 1440:=fun q=>h ⟨h0,q⟩;clear h;go_enter Tryz.func119,Tryz.ntmps119;go_wp2
   go_ret2
   exact⟨by rw[E1.out,E2.out];rfl,Below.refl _ _⟩
  ·clear h;go_enter Tryz.func119,Tryz.ntmps119;go_wp2
   go_ret2
   exact⟨by rw[E1.out,E2.out];rfl,Below.refl _ _⟩
def uz(n:Int):ByteArray:=⟨(Lib.decDigits n.toNat).toArray⟩
theorem j1(n:Int)(w:World)(h0:0≤n)(hn:n≤9223372036854775807)(ht:Tab w) :
 Calls Tryz.prog 49 #[.int .i64 n] w fun e w'=>e=.returned (.string (uz n))∧Below w.heap.size w w':=by
 obtain⟨m,rfl⟩:=Int.eq_ofNat_of_zero_le h0;exact jZ m w (by omega) ht
theorem zG(n:Int)(w:World)(h0:0≤n)(hn:n≤9223372036854775807)(ht:Tab w) :
 Calls Tryz.prog 54 #[.int .i64 n] w fun e w'=>e=.returned (.string (uz n))∧Below w.heap.size w w':=by
 obtain⟨m,rfl⟩:=Int.eq_ofNat_of_zero_le h0;exact ul m w (by omega) ht
theorem xA(n:Int)(h:n≤9223372036854775807):(uz n).size≤20:=by
 show(Lib.decDigits n.toNat).toArray.size≤20
 rw[List.size_toArray];exact Txt.dec_len_le _ 20 (by omega) (by omega)
def v8(n:Int):ByteArray:=if n < 0 then ⟨#[45]⟩ else ⟨#[]⟩
theorem ub(n:Int):(v8 n).size≤1:=by unfold v8;split<;>decide
def yq(n:Int):Int:=if n < 0 then - n else n
def vt(n:Int):ByteArray:=v8 n++uz (yq n / 60)++⟨#[58]⟩++jS (yq n % 60) 2
def J8(n:Int):Bool:=decide (-1099511627776≤n∧n≤1099511627776)
def zg(n:Int):ByteArray:=if J8 n=true then vt n else ⟨#[]⟩
def Jk(n:Int):Int:=if J8 n=true then 0 else 5
theorem Qa(n:Int)(w:World)(ht:Tab w) :
 Calls Tryz.prog 101 #[.int .i64 n] w fun e w'=>e=.returned (.tuple #[.string (zg n),.int .i64 (Jk n)])∧Below w.heap.size w w':=by
 by_cases hr : -1099511627776≤n∧n≤1099511627776
 ·have V:Hid (zg n=vt n∧Jk n=0):=by unfold Hid zg Jk J8;simp[hr]
  obtain⟨h1,h2⟩:=hr;go_enter Tryz.func101,Tryz.ntmps101
  go_upto_if 12 with (fail)
  go_cut [0,4] (fun v0 v4 wx=>v0=.int .i64 (yq n)∧v4=.string (v8 n)∧wx=w)
  case first =>
   by_cases hn:n < 0
   ·have A:Hid (yq n = - n∧v8 n=⟨#[45]⟩):=by unfold Hid yq v8;simp[hn]
    go_wp2
    go_meet
    exact⟨by rw[A.out.1],by rw[A.out.2],rfl⟩
   ·have A:Hid (yq n=n∧v8 n=⟨#[]⟩):=by unfold Hid yq v8;simp[hn]
    go_wp2
    go_meet
    exact⟨by rw[A.out.1],by rw[A.out.2],rfl⟩
  case rest =>
   obtain⟨rfl,rfl,rfl⟩:=hcut;have a1:0≤yq n:=(by unfold yq;split<;>omega);have a2:yq n≤1099511627776:=(by unfold yq;split<;>omega);have V2:Hid (zg n=v8 n++uz (yq n / 60)++⟨#[58]⟩++jS (yq n % 60) 2∧Jk n=0):=V.out;have s1:=ub n;have s2:=xA (yq n / 60) (by omega);have s3:=yR (yq n % 60) 2 (by omega) (by omega);generalize yq n=m at *;generalize v8 n=sg at *;go_wp2_with fail;refine(j1 _ _ (by omega) (by omega) ht).mono ?_;rintro e w1 ⟨rfl,hb1⟩;go_wp2_with fail;refine(vg _ _ (by omega) (by omega) (ht.next hb1)).mono ?_;rintro e w2 ⟨rfl,hb2⟩;go_wp2
   go_ret2
   exact⟨by rw[V2.out.1,V2.out.2];rfl,hb1.trans (hb2.mono hb1.size)⟩
 ·have V:Hid (zg n=⟨#[]⟩∧Jk n=5):=by unfold Hid zg Jk J8;simp[hr]
  by_cases h1:n < -1099511627776
  ·clear hr;go_enter Tryz.func101,Tryz.ntmps101;go_wp2
   go_ret2
   exact⟨by rw[V.out.1,V.out.2];rfl,Below.refl _ _⟩
  ·have h2:1099511627776 < n:=by omega
   clear hr;go_enter Tryz.func101,Tryz.ntmps101;go_wp2
   go_ret2
   exact⟨by rw[V.out.1,V.out.2];rfl,Below.refl _ _⟩
theorem vj(n:Int)(w:World)(ht:Tab w) :
 Calls Tryz.prog 118 #[.int .i64 n] w fun e w'=>e=.returned (.tuple #[.string (zg n),.int .i64 (Jk n)])∧Below w.heap.size w w':=by
 by_cases hr : -1099511627776≤n∧n≤1099511627776
 ·have V:Hid (zg n=vt n∧Jk n=0):=by unfold Hid zg Jk J8;simp[hr]
  obtain⟨h1,h2⟩:=hr;go_enter Tryz.func118,Tryz.ntmps118
  go_upto_if 12 with (fail)
  go_cut [0,4] (fun v0 v4 wx=>v0=.int .i64 (yq n)∧v4=.string (v8 n)∧wx=w)
  case first =>
   by_cases hn:n < 0
   ·have A:Hid (yq n = - n∧v8 n=⟨#[45]⟩):=by unfold Hid yq v8;simp[hn]
    go_wp2
    go_meet
    exact⟨by rw[A.out.1],by rw[A.out.2],rfl⟩
   ·have A:Hid (yq n=n∧v8 n=⟨#[]⟩):=by unfold Hid yq v8;simp[hn]
    go_wp2
    go_meet
    exact⟨by rw[A.out.1],by rw[A.out.2],rfl⟩
  case rest =>
   obtain⟨rfl,rfl,rfl⟩:=hcut;have a1:0≤yq n:=(by unfold yq;split<;>omega);have a2:yq n≤1099511627776:=(by unfold yq;split<;>omega);have V2:Hid (zg n=v8 n++uz (yq n / 60)++⟨#[58]⟩++jS (yq n % 60) 2∧Jk n=0):=V.out;have s1:=ub n;have s2:=xA (yq n / 60) (by omega);have s3:=yR (yq n % 60) 2 (by omega) (by omega);generalize yq n=m at *;generalize v8 n=sg at *;go_wp2_with fail;refine(zG _ _ (by omega) (by omega) ht).mono ?_;rintro e w1 ⟨rfl,hb1⟩;go_wp2_with fail;refine(UC _ _ (by omega) (by omega) (ht.next hb1)).mono ?_;rintro e w2 ⟨rfl,hb2⟩;go_wp2
   go_ret2
   exact⟨by rw[V2.out.1,V2.out.2];rfl,hb1.trans (hb2.mono hb1.size)⟩
 ·have V:Hid (zg n=⟨#[]⟩∧Jk n=5):=by unfold Hid zg Jk J8;simp[hr]
  by_cases h1:n < -1099511627776
  ·clear hr;go_enter Tryz.func118,Tryz.ntmps118;go_wp2
   go_ret2
   exact⟨by rw[V.out.1,V.out.2];rfl,Below.refl _ _⟩
  ·have h2:1099511627776 < n:=by omega
   clear hr;go_enter Tryz.func118,Tryz.ntmps118;go_wp2
   go_ret2
   exact⟨by rw[V.out.1,V.out.2];rfl,Below.refl _ _⟩
def ye(n:Int):ByteArray:=⟨(Lib.itoa n).toArray⟩
def qY(k:Int)(x:ByteArray)(n:Int):ByteArray:=if k=1∨k=5 then x else if k=2 then ye n else if k=3 then zg n else if k=4 then ⟨#[64]⟩++ja n else ⟨#[]⟩
structure OkT (s:ByteArray) (k:Int) (x:ByteArray) (n:Int):Prop where
 pos:0 < s.size
 n32:(s.data.toList.getD 0 0).toNat≠32
 n35:(s.data.toList.getD 0 0).toNat≠35
 err:(Tk.scanT s).2.2=0
 one:∃p,(Tk.scanT s).1=[⟨⟨k,x,n⟩,p⟩]
 last:(s.data.toList.getD (s.size - 1) 0).toNat≠32
 none:Tk.has s.data.toList 35=false
def TTP(w:World)(k:Int)(x:ByteArray)(n:Int)(e:Ending)(w':World):Prop:=(∃r:ByteArray,e=.returned (.string r)∧(OkT (qY k x n) k x n→r=qY k x n)∧(¬OkT (qY k x n) k x n→r=⟨#[]⟩))∧Below w.heap.size w w'
theorem jp{w w':World}{k:Int}{x:ByteArray}{n:Int}(h:¬OkT (qY k x n) k x n)(hb:Below w.heap.size w w'):TTP w k x n (.returned (.string ⟨#[]⟩)) w':=⟨⟨_,rfl,fun q=>absurd q h,fun _=>rfl⟩,hb⟩
theorem KI{w w':World}{k:Int}{x:ByteArray}{n:Int}{s:ByteArray}(hs:s=qY k x n)(h:OkT (qY k x n) k x n)(hb:Below w.heap.size w w'):TTP w k x n (.returned (.string s)) w':=⟨⟨_,rfl,fun _=>hs,fun q=>absurd h q⟩,hb⟩
theorem K8(n:Int)(w:World)(h0 : -9223372036854775808≤n)(h1:n≤9223372036854775807)(ht:Tab w) :
 Calls Tryz.prog 104 #[.int .i64 n] w fun e w'=>e=.returned (.string (ye n))∧Below w.heap.size w w':=by
 refine(Tryz.strconv_Itoa n h0 h1 w ht.1).mono ?_;rintro e w' ⟨rfl,k,os,rfl⟩;exact⟨rfl,below_grow _ _ _⟩
theorem Qd{a b:ByteArray}(h:a≠b):(a.toList==b.toList)=false:=by
 rw[Lib.toList_data,Lib.toList_data];exact beq_eq_false_iff_ne.2 fun q=>h (ByteArray.ext (Array.toList_inj.1 q))
theorem zb(n:Int)(h0 : -9223372036854775808≤n)(h1:n≤9223372036854775807):(ye n).size≤21:=by
 show(Lib.itoa n).toArray.size≤21
 rw[List.size_toArray];unfold Lib.itoa;have h2:n.natAbs < 10 ^ 20:=by omega
 have:=Txt.dec_len_le n.natAbs 20 (by omega) h2;have h3:=Txt.dec_len_le n.toNat 20 (by omega) (by omega)
 split
 ·simp;omega
 ·omega
theorem zC(n:Int):(zg n).size≤100:=by
 unfold zg
 split
 ·rename_i q
  unfold J8 at q;rw[decide_eq_true_eq] at q;have ha:0≤yq n∧yq n≤1099511627776:=(by unfold yq;split<;>omega);unfold vt;rw[ByteArray.size_append,ByteArray.size_append,ByteArray.size_append];have h1:=ub n;have h2:=xA (yq n / 60) (by omega);have h3:=yR (yq n % 60) 2 (by omega) (by omega);have h4:(⟨#[58]⟩:ByteArray).size=1:=rfl;omega
 ·decide
theorem jm(n:Int):(ja n).size≤100:=by
 unfold ja
 split
 ·rename_i q
  unfold jb at q;rw[decide_eq_true_eq] at q;unfold jQ;rw[ByteArray.size_append,ByteArray.size_append];have h3:=yR (n / 60) 2 (by omega) (by omega);have h5:=yR (n % 60) 2 (by omega) (by omega);have h4:(⟨#[58]⟩:ByteArray).size=1:=rfl;omega
 ·decide
theorem Yx(k:Int)(x:ByteArray)(n:Int)(h0 : -9223372036854775808≤n)(h1:n≤9223372036854775807)(hx:x.size≤9223372036854775807):(qY k x n).size≤9223372036854775807:=by
 unfold qY;have:=zb n h0 h1;have:=zC n;have:=jm n
 split
 ·exact hx
 ·split
  ·omega
  ·split
   ·omega
   ·split
    ·rw[ByteArray.size_append];have h4:(⟨#[64]⟩:ByteArray).size=1:=rfl;omega
    ·decide
theorem ju(k : Int)(x:ByteArray)(n a:Int)(w:World)(ht:Tab w)(h0 : -9223372036854775808≤n)(h1:n≤9223372036854775807)(hx:x.size≤9223372036854775807) :
 Calls Tryz.prog 69 #[.agg #[.int .i64 k,.string x,.int .i64 n,.int .i64 a]] w (TTP w k x n):=by
 have HT:Hid (Tab (w.alloc (.cells #[.int .i64 k,.string x,.int .i64 n,.int .i64 a] 68))):=ht.alloc _;have B0:Hid (Below w.heap.size w (w.alloc (.cells #[.int .i64 k,.string x,.int .i64 n,.int .i64 a] 68))):=ba1;clear ht;go_enter Tryz.func69,Tryz.ntmps69
 go_upto_block 0 with (fail)
 go_cut [3] (fun v wx=>v=.string (qY k x n)∧Hid (Below (w.alloc (.cells #[.int .i64 k,.string x,.int .i64 n,.int .i64 a] 68)).heap.size (w.alloc (.cells #[.int .i64 k,.string x,.int .i64 n,.int .i64 a] 68)) wx))
 case first =>
  by_cases k1:k=1
  ·have q1:(k==1)=true:=by simp[k1]
   have E:Hid (qY k x n=x):=(by unfold Hid qY;rw[if_pos (.inl k1)]);clear k1;go_wp2
   go_meet
   exact⟨by rw[E.out],Below.refl _ _⟩
  ·have q1 : (k==1)=false:=by simp[k1]
   by_cases k5:k=5
   ·have q5:(k==5)=true:=by simp[k5]
    have E:Hid (qY k x n=x):=(by unfold Hid qY;rw[if_pos (.inr k5)]);clear k1 k5;go_wp2
    go_meet
    exact⟨by rw[E.out],Below.refl _ _⟩
   ·have q5:(k==5)=false:=by simp[k5]
    have n15:¬(k=1∨k=5):=fun q=>q.elim k1 k5
    by_cases k2:k=2
    ·have q2:(k==2)=true:=by simp[k2]
     have E:Hid (qY k x n=ye n):=(by unfold Hid qY;rw[if_neg n15,if_pos k2]);clear k1 k5 k2 n15;go_wp2_with fail;refine(K8 n _ h0 h1 HT.out).mono ?_;rintro e w1 ⟨rfl,hb⟩;have HB:=hid hb;clear hb;go_wp2
     go_meet
     exact⟨by rw[E.out],HB.out⟩
    ·have q2:(k==2)=false:=by simp[k2]
     by_cases k3:k=3
     ·have q3:(k==3)=true:=by simp[k3]
      have E:Hid (qY k x n=zg n):=(by unfold Hid qY;rw[if_neg n15,if_neg k2,if_pos k3]);clear k1 k5 k2 k3 n15;go_wp2_with fail;refine(vj n _ HT.out).mono ?_;rintro e w1 ⟨rfl,hb⟩;have HB:=hid hb;clear hb;go_wp2
      go_meet
      exact⟨by rw[E.out],HB.out⟩
     ·have q3:(k==3)=false:=by simp[k3]
      by_cases k4:k=4
      ·have q4:(k==4)=true:=by simp[k4]
       have E:Hid (qY k x n=⟨#[64]⟩++ja n):=(by unfold Hid qY;rw[if_neg n15,if_neg k2,if_neg k3,if_pos k4]);clear k1 k5 k2 k3 k4 n15;have hz:=jm n;go_wp2_with fail;refine(uq n _ HT.out).mono ?_;generalize ja n=fv at *;rintro e w1 ⟨rfl,hb⟩;have HB:=hid hb;clear hb;go_wp2
       go_meet
       exact⟨by rw[E.out],HB.out⟩
      ·have q4:(k==4)=false:=by simp[k4]
       have E:Hid (qY k x n=⟨#[]⟩):=(by unfold Hid qY;rw[if_neg n15,if_neg k2,if_neg k3,if_neg k4]);clear k1 k5 k2 k3 k4 n15;go_wp2
       go_meet
       exact⟨by rw[E.out],Below.refl _ _⟩
 case rest =>
  obtain⟨rfl,HC⟩:=hcut;have ym:=Yx k x n h0 h1 hx;obtain⟨s,hs⟩:∃s,s=qY k x n:=⟨_,rfl⟩;rw[← hs] at ym ⊢;have HS:=hid hs;clear hs;have B1:Hid (Below w.heap.size w wc):=B0.out.trans (HC.out.mono B0.out.size);have c0:wc.cell? ⟨w.heap.size,0,none⟩=some (.int .i64 k):=yQ HC.out 0;have c1:wc.cell? ⟨w.heap.size,1,none⟩=some (.string x):=yQ HC.out 1;have c2:wc.cell? ⟨w.heap.size,2,none⟩=some (.int .i64 n):=yQ HC.out 2;have hzc:w.heap.size < wc.heap.size:=j5 HC.out
  by_cases z0:s.size=0
  ·have e1:s.toList.isEmpty=true:=by rw[yx];simp[z0]
   have NO:Hid (¬OkT (qY k x n) k x n):=fun q=>by have:=q.pos;rw[← HS.out] at this;omega
   clear z0;go_wp2;go_ret;exact jp NO.out B1.out
  ·have e1 : s.toList.isEmpty=false:=by rw[yx];simp[z0]
   have qD:0 < s.size:=(by omega);have G0:=hid (qR s 0 qD);clear z0
   by_cases z1:s[0].toNat=32
   ·have b1:((s[0].toNat:Int)==32)=true:=by simp;omega
    have NO:Hid (¬OkT (qY k x n) k x n):=fun q=>by have:=q.n32;rw[← HS.out,G0.out] at this;exact this z1
    clear z1;go_wp2;go_ret;exact jp NO.out B1.out
   ·have b1 : ((s[0].toNat:Int)==32)=false:=by simp;omega
    by_cases z2:s[0].toNat=35
    ·have b2:((s[0].toNat:Int)==35)=true:=by simp;omega
     have NO:Hid (¬OkT (qY k x n) k x n):=fun q=>by have:=q.n35;rw[← HS.out,G0.out] at this;exact this z2
     clear z1 z2;go_wp2;go_ret;exact jp NO.out B1.out
    ·have b2 : ((s[0].toNat:Int)==35)=false:=by simp;omega
     have Z1:Hid ((s.data.toList.getD 0 0).toNat≠32∧(s.data.toList.getD 0 0).toNat≠35):=(by unfold Hid;rw[G0.out];exact⟨z1,z2⟩);clear z1 z2;have FC:Hid (∀w,Calls Tryz.prog 120 #[.string s,.int .u8 35] w fun e w'=>e=.returned (.int .i64 (Lib.indexByte s.data.toList 35))∧w'=w):=fun w=>(kC s 35 w ym).mono fun _ _ h=>⟨h.1,h.2.symm⟩;have IX:Hid (decide (0≤Lib.indexByte s.data.toList 35)=Tk.has s.data.toList 35):=QJ _ 35 35 rfl;generalize Lib.indexByte s.data.toList 35=ix at *;go_wp2_with fail;refine(xu s wc ym).mono ?_;rintro e w2 ⟨v,rfl,htk,hb⟩;have B2:=hid (bt9 B1 hb);have d0:w2.cell? ⟨w.heap.size,0,none⟩=some (.int .i64 k):=(by rw[hb.cell (p:=⟨w.heap.size,0,none⟩) hzc];exact c0);have d1:w2.cell? ⟨w.heap.size,1,none⟩=some (.string x):=(by rw[hb.cell (p:=⟨w.heap.size,1,none⟩) hzc];exact c1);have d2:w2.cell? ⟨w.heap.size,2,none⟩=some (.int .i64 n):=(by rw[hb.cell (p:=⟨w.heap.size,2,none⟩) hzc];exact c2);have TK:=hid htk;clear hb htk c0 c1 c2 hzc HC;have RS:Hid (∃R,Tk.scanT s=R):=⟨_,rfl⟩;obtain⟨D,at',er,hR⟩:∃D at' er,Tk.scanT s=(D,at',er):=⟨_,_,_,rfl⟩;rw[hR] at TK ⊢;have HR:=hid hR;clear hR RS;dsimp only at TK ⊢;obtain⟨vp,vc,rfl,hvc,-,hcs⟩:=TK.out;have HCS:=hid hcs;clear hcs TK
     by_cases y0:er=0
     ·have a0 : (er != 0)=false:=by simp[y0]
      have Y0:=hid y0;clear y0
      by_cases y1:D.length=1
      ·obtain ⟨d, rfl⟩:∃d,D=[d]:=List.length_eq_one_iff.1 y1;clear y1;obtain⟨g,O,rfl,hcell⟩:=HCS.out (by simp);have f0:w2.cell? ⟨g,O,none⟩=some (.int .i64 d.t.kind):=hcell 0 _ rfl;have f1:w2.cell? ⟨g,O+1,none⟩=some (.string d.t.text):=hcell 1 _ rfl;have f2:w2.cell? ⟨g,O+2,none⟩=some (.int .i64 d.t.num):=hcell 2 _ rfl;clear hcell HCS;simp only[List.length_cons,List.length_nil] at hvc ⊢
       by_cases y2:d.t.kind=k
       ·have a2 : (d.t.kind != k)=false:=by simp[y2]
        by_cases y3:d.t.text=x
        ·rw [y3] at f1
         by_cases y4:d.t.num=n
         ·have a4:(d.t.num != n)=false:=by simp[y4]
          have DT:Hid (d=⟨⟨k,x,n⟩,d.at'⟩):=by
           obtain⟨⟨dk,dx,dn⟩,da⟩:=d;dsimp only at y2 y3 y4;subst y2 y3 y4;rfl
          clear y2 y3 y4;obtain⟨m,hm⟩:∃m,s.size=m+1:=⟨s.size - 1,by omega⟩;have hl1:m < s.size:=(by omega);have HGL:Hid (s.data.toList.getD (s.size - 1) 0=s[m]):=(by unfold Hid;rw[show s.size - 1=m by omega];exact qR s m hl1);have hwz:IntKind.i64.wrap ((s.size:Int) - 1)=(m:Int):=(by rw[IntWalk.i64_in _ (by omega)];omega);have hm1:(m:Int) < (s.size:Int):=(by omega);clear hm
          by_cases y5:s[m].toNat=32
          ·have a5:((s[m].toNat:Int)==32)=true:=by simp;omega
           have NO:Hid (¬OkT (qY k x n) k x n):=fun q=>by have:=q.last;rw[← HS.out,HGL.out] at this;exact this y5
           clear y5;go_wp2_with fail
           go_quiet ((go_at_call 120;exact Calls.quiet_of_same (FC.out _)))
           go_wp2;go_ret;exact jp NO.out (qN B2.out _)
          ·have a5:((s[m].toNat:Int)==32)=false:=by simp;omega
           have LA:Hid ((s.data.toList.getD (s.size - 1) 0).toNat≠32):=(by unfold Hid;rw[HGL.out];exact y5);clear y5
           by_cases y6:0≤ix
           ·have NO:Hid (¬OkT (qY k x n) k x n):=fun q=>by have:=q.none;rw[← HS.out,← IX.out,decide_eq_true y6] at this;cases this
            go_wp2_with fail
            go_quiet ((go_at_call 120;exact Calls.quiet_of_same (FC.out _)))
            go_wp2;go_ret;exact jp NO.out (qN B2.out _)
           ·have YES:Hid (OkT (qY k x n) k x n):=by
             unfold Hid;rw[← HS.out];exact⟨qD,Z1.out.1,Z1.out.2,by rw[HR.out];exact Y0.out,⟨d.at',by rw[HR.out,← DT.out]⟩,LA.out,by rw[← IX.out];exact decide_eq_false y6⟩
            go_wp2_with fail
            go_quiet ((go_at_call 120;exact Calls.quiet_of_same (FC.out _)))
            go_wp2;go_ret;exact KI HS.out YES.out (qN B2.out _)
         ·have a4:(d.t.num != n)=true:=by simp[y4]
          have NO:Hid (¬OkT (qY k x n) k x n):=fun q=>by
           obtain⟨p,hp⟩:=q.one;rw[← HS.out,HR.out] at hp;injection hp with hp;rw[hp] at y4;exact y4 rfl
          clear y4 y3 y2;go_wp2_with fail
          go_quiet ((go_at_call 120;exact Calls.quiet_of_same (FC.out _)))
          go_wp2;go_ret;exact jp NO.out (qN B2.out _)
        ·have a3:(d.t.text.toList==x.toList)=false:=Qd y3;have a3':(d.t.text.toList != x.toList)=true:=by unfold bne;rw[a3];rfl
         have NO:Hid (¬OkT (qY k x n) k x n):=fun q=>by
          obtain⟨p,hp⟩:=q.one;rw[← HS.out,HR.out] at hp;injection hp with hp;rw[hp] at y3;exact y3 rfl
         clear y3 y2;go_wp2_with fail
         go_quiet ((go_at_call 120;exact Calls.quiet_of_same (FC.out _)))
         go_wp2;go_ret;exact jp NO.out (qN B2.out _)
       ·have a2:(d.t.kind != k)=true:=by simp[y2]
        have NO:Hid (¬OkT (qY k x n) k x n):=fun q=>by
         obtain⟨p,hp⟩:=q.one;rw[← HS.out,HR.out] at hp;injection hp with hp;rw[hp] at y2;exact y2 rfl
        clear y2;go_wp2_with fail
        go_quiet ((go_at_call 120;exact Calls.quiet_of_same (FC.out _)))
        go_wp2;go_ret;exact jp NO.out (qN B2.out _)
      ·have a1:((D.length:Int) != 1)=true:=by rw[bne_iff_ne];omega
       have NO:Hid (¬OkT (qY k x n) k x n):=fun q=>by
        obtain⟨p,hp⟩:=q.one;rw[← HS.out,HR.out] at hp;rw[show D=[_] from hp] at y1;exact y1 rfl
       clear y1;go_wp2_with fail
       go_quiet ((go_at_call 120;exact Calls.quiet_of_same (FC.out _)))
       go_wp2;go_ret;exact jp NO.out (qN B2.out _)
     ·have a0:(er != 0)=true:=by simp[y0]
      have NO:Hid (¬OkT (qY k x n) k x n):=fun q=>by have:=q.err;rw[← HS.out,HR.out] at this;exact y0 this
      clear y0;go_wp2_with fail
      go_quiet ((go_at_call 120;exact Calls.quiet_of_same (FC.out _)))
      go_wp2;go_ret;exact jp NO.out (qN B2.out _)
theorem JX(l:List UInt8)(h:l.length=2):∃a b,l=[a,b]:=by
 match l,h with
 | [a,b],_=>exact⟨a,b,rfl⟩
theorem xx(n:Int)(k:Nat):(jS n k).data.toList=Txt.pad n.toNat k:=by simp[jS]
theorem qP(a b:ByteArray):(a++b).data.toList=a.data.toList++b.data.toList:=by simp
theorem kp(n:Int)(k:Nat)(h0:0≤n)(hk:1≤k)(h1:n < (10 ^ k:Nat)):(Txt.pad n.toNat k).length=k∧Txt.allD (Txt.pad n.toNat k)=true∧Txt.num (Txt.pad n.toNat k)=n:=by
 refine⟨?_,Txt.pad_allD _ _,by rw[Txt.pad_num];omega⟩;have:=yR n k hk h1;rw[← qe,xx] at this;exact this
theorem xh(c:Int):(jQ c).data.toList=Txt.pad (c / 60).toNat 2++[58]++Txt.pad (c % 60).toNat 2:=by
 unfold jQ;rw[qP,qP,xx,xx]
theorem Kj(c:Int)(h:jb c=true):(jQ c).size=5:=by
 simp[jb] at h;have p1:=(kp (c / 60) 2 (by omega) (by omega) (by omega)).1;have p2:=(kp (c % 60) 2 (by omega) (by omega) (by omega)).1;rw[← qe,xh];simp[p1,p2]
theorem QO(c:Int)(h:jb c=true):Txt.fits (jQ c).data.toList xJ=true∧YR (jQ c)=c / 60∧YQ (jQ c)=c % 60:=by
 have hz:=Kj c h;simp[jb] at h;obtain⟨l1,e1,n1⟩:=kp (c / 60) 2 (by omega) (by omega) (by omega);obtain⟨l2,e2,n2⟩:=kp (c % 60) 2 (by omega) (by omega) (by omega);obtain⟨p,q,hp⟩:=JX _ l1;obtain⟨t,u,ht⟩:=JX _ l2;have hl:(jQ c).data.toList=[p,q,58,t,u]:=by rw[xh,hp,ht];rfl
 rw[hp] at e1 n1;rw[ht] at e2 n2;refine⟨?_,?_,?_⟩
 ·rw[Q8,hl];exact⟨rfl,rfl,e1,e2⟩
 ·unfold YR zx;rw[ext_list,hl];exact n1
 ·unfold YQ zx;rw[ext_list,hl,hz];exact n2
theorem kc(c:Int)(h:jb c=true):vO (jQ c)=0∧vN (jQ c)=c:=by
 obtain⟨h1,h2,h3⟩:=QO c h;have hB:uK (jQ c)=true:=by simp[jb] at h;unfold uK;rw[h2,h3];simp;omega
 unfold vO vN;rw[h1,hB,h2,h3];simp;omega
theorem kN(n:Nat):1≤(Lib.decDigits n).length:=by
 rw[Lib.decDigits];split<;>simp
theorem ur(n:Nat)(h:1≤n):((Lib.decDigits n).getD 0 0).toNat≠48:=by
 induction n using Nat.strongRecOn with
 | ind n ih =>
   rw[Lib.decDigits]
   split
   ·rename_i h10
    simp[Txt.toNat_digit n h10];omega
   ·rename_i h10
    have:=ih (n / 10) (by omega) (by omega);have hl:=kN (n / 10);rw[List.getD_eq_getElem?_getD,List.getElem?_append_left (by omega),← List.getD_eq_getElem?_getD];exact this
theorem Je(n:Nat):Txt.plainL (Lib.decDigits n)=true:=by
 rw[Txt.plain_iff _ (kN n)];rintro ⟨h1,h2⟩
 by_cases h:1≤n
 ·exact ur n h h1
 ·obtain rfl:n=0:=by omega
  rw[Lib.decDigits] at h2;simp at h2
theorem Uq(sg:Bool)(H M:Nat)(hH:H < 100000000000)(hM:M < 60)(hz:sg=true→1≤60 * H+M)(hx:60 * H+M≤1099511627776)(l:List UInt8)
 (hl:l=(if sg=true then [45] else [])++(Lib.decDigits H++([58]++Txt.pad M 2))):Txt.duE l=0∧Txt.duV l=(if sg=true then - ((60 * H+M:Nat):Int) else ((60 * H+M:Nat):Int)):=by
 have d1:=kN H;have d2:=Txt.dec_len_le H 11 (by omega) (by omega);have p1:(Txt.pad M 2).length=2:=Txt.pad_len _ _ (Txt.dec_len_le M 2 (by omega) (by omega))
 have hneg:Txt.duNeg l=sg:=by
  cases sg
  ·rw [Bool.eq_false_iff];intro q;obtain⟨t,ht⟩:=(Txt.dash_iff l).1 q;rw[hl] at ht
   have h0:(Lib.decDigits H++([58]++Txt.pad M 2)).getD 0 0=45:=by
    have:(if (false:Bool)=true then [(45:UInt8)] else [])=[]:=rfl;rw[this,List.nil_append] at ht;rw[ht];rfl
   rw[List.getD_eq_getElem?_getD,List.getElem?_append_left (by omega)] at h0;have hd:=Txt.dec_allD H;rw[List.getElem?_eq_getElem (by omega)] at h0;simp only[Option.getD_some] at h0;have:=List.all_eq_true.1 hd _ (List.getElem_mem (show 0 < _ by omega));rw[h0] at this
   revert this;decide
  ·rw[hl];exact(Txt.dash_iff _).2 ⟨_,rfl⟩
 have hR:Txt.duR l=Lib.decDigits H++([58]++Txt.pad M 2):=by
  cases sg
  ·rw[Txt.duR_pos l hneg,hl];rfl
  ·rw[hl];exact Txt.duR_neg _
 have hlen:(Txt.duR l).length=(Lib.decDigits H).length+3:=by rw[hR];simp[p1]
 have hK:Txt.duK l=(Lib.decDigits H).length:=by unfold Txt.duK;omega
 have hHH:Txt.duH l=Lib.decDigits H:=by unfold Txt.duH;rw[hK,hR,List.take_left]
 have hMM:Txt.duM l=Txt.pad M 2:=by
  unfold Txt.duM;rw[hK,hR,← List.append_assoc];have:(Lib.decDigits H).length+1=(Lib.decDigits H++[58]).length:=by simp
  rw[this,List.drop_left]
 have hc:(Txt.duR l).getD (Txt.duK l) 0=58:=by
  rw[hK,hR,List.getD_eq_getElem?_getD,List.getElem?_append_right (by omega)];simp
 have hB:Txt.duB l=true:=by
  unfold Txt.duB;rw[decide_eq_true_eq,hHH,hMM,hneg,Txt.dec_num,Txt.pad_num];refine⟨by omega,by omega,hc,Txt.dec_allD H,Txt.pad_allD M 2,Je H,?_⟩;rintro ⟨q1,q2,q3⟩;have:=hz q1;omega
 have hN:Txt.duN l=((60 * H+M:Nat):Int):=by unfold Txt.duN;rw[hHH,hMM,Txt.dec_num,Txt.pad_num];omega
 have hE:Txt.duE l=0:=by
  unfold Txt.duE;rw[if_pos hB,hMM,Txt.pad_num,hN,if_pos ⟨by omega,by omega⟩]
 exact⟨hE,by unfold Txt.duV;rw[if_pos hE,hneg,hN]⟩
theorem uk(n:Int):(vt n).data.toList=(if decide (n < 0)=true then [45] else [])++(Lib.decDigits (yq n / 60).toNat++([58]++Txt.pad (yq n % 60).toNat 2)):=by
 unfold vt;rw[qP,qP,qP]
 have e1:(v8 n).data.toList=if decide (n < 0)=true then [45] else []:=by
  unfold v8;by_cases h:n < 0<;>simp[h]
 rw[e1]
 show _++Lib.decDigits _++[58]++Txt.pad _ 2=_
 simp only[List.append_assoc]
theorem Qb(n:Int)(h:J8 n=true):Txt.duE (vt n).data.toList=0∧Txt.duV (vt n).data.toList=n:=by
 simp only[J8,decide_eq_true_eq] at h;have a1:0≤yq n:=by unfold yq;split<;>omega
 have a2:yq n≤1099511627776:=by unfold yq;split<;>omega
 have a3:yq n=if decide (n < 0)=true then - n else n:=by unfold yq;simp
 obtain ⟨h1,h2⟩:=Uq (decide (n < 0)) (yq n / 60).toNat (yq n % 60).toNat (by omega) (by omega)
  (by intro q;simp at q;have:yq n = - n:=by unfold yq;rw[if_pos q]
      omega) (by omega) _ (uk n)
 refine⟨h1,?_⟩;rw[h2];have e:((60 * (yq n / 60).toNat+(yq n % 60).toNat:Nat):Int)=yq n:=by omega
 rw[e];unfold yq
 by_cases q:n < 0
 ·simp[q]
 ·simp[q]
theorem jX{b:UInt8}(h:Tk.inW b=true):b.toNat≠32∧b.toNat≠35:=by
 unfold Tk.inW at h;rw[decide_eq_true_eq] at h;omega
theorem jq{b:UInt8}(h:Tk.inS b=true):b.toNat≠32∧b.toNat≠35∧Tk.inW b=false:=by
 unfold Tk.inS at h;rw[decide_eq_true_eq] at h;refine⟨by omega,by omega,?_⟩;unfold Tk.inW;rw[decide_eq_false_iff_not];omega
theorem UA(l:List UInt8)(h:∀b∈ l,Tk.inW b=true):Tk.wl l=l.length:=by
 induction l with
 | nil=>rfl
 | cons c l ih =>
   rw[Tk.wl_cons,if_pos (h c (List.mem_cons_self ..)),ih (fun b hb=>h b (List.mem_cons_of_mem _ hb))];rfl
theorem vl(s:ByteArray):s.extract 0 s.size=s:=by
 apply ByteArray.ext;simp
theorem zu{l:List UInt8}{i:Nat}(h:i < l.length):l.getD i 0∈ l:=by
 rw[List.getD_eq_getElem?_getD,List.getElem?_eq_getElem h];exact List.getElem_mem _
theorem Kd{l:List UInt8}(h:∀b∈ l,b.toNat≠35):Tk.has l 35=false:=by
 unfold Tk.has;rw[List.any_eq_false];intro b hb
 simpa using h b hb
theorem vy{s:ByteArray}{t:Tk.T3}(hs:0 < s.size)(h1:(s.data.toList.getD 0 0).toNat≠32)(h2:(s.data.toList.getD 0 0).toNat≠35)(h:Tk.tokAt s 0=(some t,s.size)):Tk.scanT s=([⟨t,0⟩],0,0):=by
 have q:=Tk.scan_step s 0 [] hs;rw[Nat.sub_zero,if_neg h2,if_neg h1,h] at q;dsimp only at q;rw[if_neg (by decide),Nat.zero_add,Tk.scan_end s s.size _ (Nat.le_refl _)] at q;exact q
theorem kZ{s:ByteArray}{k:Int}{x:ByteArray}{n:Int}(hs:0 < s.size)(hw:∀b∈ s.data.toList,Tk.inW b=true)(h:Tk.word s=some ⟨k,x,n⟩):OkT s k x n:=by
 have g:∀i,i < s.size→Tk.inW (s.data.toList.getD i 0)=true:=fun i hi=>hw _ (zu (by rw[qe];exact hi))
 have ht:Tk.tokAt s 0=(some ⟨k,x,n⟩,s.size):=by
  unfold Tk.tokAt;rw[if_pos (g 0 hs),List.drop_zero,UA _ hw,qe,Nat.zero_add,vl,h]
 have hq:=vy hs (jX (g 0 hs)).1 (jX (g 0 hs)).2 ht;exact⟨hs,(jX (g 0 hs)).1,(jX (g 0 hs)).2,by rw[hq],⟨0,by rw[hq]⟩,(jX (g (s.size - 1) (by omega))).1,Kd fun b hb=>(jX (hw b hb)).2⟩
theorem xr{l:List UInt8}(h:Tk.sgn l=l.length)(hp:0 < l.length):(∀b∈ l,Tk.inS b=true):=by
 unfold Tk.sgn at h
 by_cases h2:(l.getD 0 0).toNat=60∧(l.getD 1 0).toNat=61
 ·rw [if_pos h2] at h
  match l,h,h2 with
  | [a,b],_,h2 =>
    intro c hc;have ha:a.toNat=60:=(by simpa using h2.1);have hb:b.toNat=61:=(by simpa using h2.2);simp only[List.mem_cons,List.not_mem_nil,or_false] at hc;unfold Tk.inS;rw[decide_eq_true_eq];rcases hc with rfl|rfl<;>omega
 ·rw [if_neg h2] at h
  by_cases h1:1≤l.length∧Tk.inS (l.getD 0 0)=true
  ·rw [if_pos h1] at h
   match l,h,h1 with
   | [a],_,h1 =>
     intro c hc;rw[List.mem_singleton.1 hc]
     simpa using h1.2
  ·rw[if_neg h1] at h;omega
theorem JT{s:ByteArray}(hs:0 < s.size)(h:Tk.sgn s.data.toList=s.size):OkT s 5 s 0:=by
 have hb:=xr (by rw[h,qe]) (by rw[qe];exact hs);have g:∀i,i < s.size→Tk.inS (s.data.toList.getD i 0)=true:=fun i hi=>hb _ (zu (by rw[qe];exact hi))
 have ht:Tk.tokAt s 0=(some ⟨5,s,0⟩,s.size):=by
  unfold Tk.tokAt;rw[if_neg (by rw[(jq (g 0 hs)).2.2];simp),List.drop_zero,h,if_neg (by omega),Nat.zero_add,vl]
 have hq:=vy hs (jq (g 0 hs)).1 (jq (g 0 hs)).2.1 ht;exact⟨hs,(jq (g 0 hs)).1,(jq (g 0 hs)).2.1,by rw[hq],⟨0,by rw[hq]⟩,(jq (g (s.size - 1) (by omega))).1,Kd fun b hb'=>(jq (hb b hb')).2.1⟩
theorem yw{l:List UInt8}(h:Txt.allD l=true):∀b∈ l,Tk.inW b=true∧b.toNat≠58∧b.toNat < 97∧b.toNat≠64:=by
 intro b hb;have:=(Txt.isD_iff b).1 (List.all_eq_true.1 h b hb);refine⟨?_,by omega,by omega,by omega⟩;unfold Tk.inW;rw[decide_eq_true_eq];omega
theorem U6(n:Int)(h0:0≤n)(h1:n≤1099511627776):OkT (ye n) 2 ⟨#[]⟩ n:=by
 have e:(ye n).data.toList=Lib.decDigits n.toNat:=by unfold ye Lib.itoa;rw[if_neg (by omega)]
 have hd:=Txt.dec_allD n.toNat;have hp:=kN n.toNat;have hz:(ye n).size=(Lib.decDigits n.toNat).length:=by rw[← qe,e]
 have hw:∀b∈ (ye n).data.toList,Tk.inW b=true:=by rw[e];exact fun b hb=>(yw hd b hb).1
 refine kZ (by omega) hw ?_;have qD:0 < (ye n).size:=by omega
 have g0:(ye n)[0]∈ Lib.decDigits n.toNat:=by rw[← e,← qR _ 0 qD];exact zu (by rw[qe];exact qD)
 have f0:=yw hd _ g0
 have hh:Tk.has (ye n).data.toList 58=false:=by
  rw[e];unfold Tk.has;rw[List.any_eq_false];intro b hb;simpa using (yw hd b hb).2.1
 rw[kP qD (by omega) f0.2.2.2 hh,e];have hl:=Txt.dec_len_le n.toNat 13 (by omega) (by omega);have hv:Txt.num (Lib.decDigits n.toNat)=n:=by rw[Txt.dec_num];omega
 rw[jW ⟨hp,hl,hd,?_,by rw[hv];exact h1⟩,hv];rintro ⟨q1,q2⟩
 by_cases hn:n.toNat=0
 ·rw [hn] at q2;have:=Txt.dec_len_le 0 1 (by omega) (by omega);omega
 ·exact ur n.toNat (by omega) q1
theorem JR(n:Int)(h0:0≤n)(h1:n≤1099511627776):OkT (zg n) 3 ⟨#[]⟩ n:=by
 have hb:J8 n=true:=by unfold J8;rw[decide_eq_true_eq];omega
 have ev:zg n=vt n:=by unfold zg;rw[if_pos hb]
 rw[ev];obtain⟨d1,d2⟩:=Qb n hb;have e:=uk n;rw[if_neg (by simp;omega),List.nil_append] at e;have hA:yq n=n:=by unfold yq;rw[if_neg (by omega)]
 rw[hA] at e;have hd:=Txt.dec_allD (n / 60).toNat;have hpd:=Txt.pad_allD (n % 60).toNat 2;have hp:=kN (n / 60).toNat;have i58:Tk.inW 58=true:=by decide
 have hw:∀b∈ (vt n).data.toList,Tk.inW b=true:=by
  rw[e];intro b hb';rcases List.mem_append.1 hb' with q|q
  ·exact(yw hd b q).1
  ·rcases List.mem_append.1 q with q|q
   ·rw[List.mem_singleton.1 q];exact i58
   ·exact(yw hpd b q).1
 have hz:0 < (vt n).size:=by rw[← qe,e,List.length_append];omega
 refine kZ hz hw ?_
 have g0:(vt n)[0]∈ Lib.decDigits (n / 60).toNat:=by
  rw[← qR _ 0 hz,e,List.getD_eq_getElem?_getD,List.getElem?_append_left (by omega),← List.getD_eq_getElem?_getD];exact zu (by omega)
 have f0:=yw hd _ g0
 have hh:Tk.has (vt n).data.toList 58=true:=by
  rw[e];unfold Tk.has;rw[List.any_eq_true];exact⟨58,List.mem_append.2 (.inr (List.mem_append.2 (.inl (List.mem_singleton.2 rfl)))),by decide⟩
 rw[ke hz (by omega) f0.2.2.2 hh,if_pos d1,d2]
theorem YW(n:Int)(h0:0≤n)(h1:n≤1439):OkT (⟨#[64]⟩++ja n) 4 ⟨#[]⟩ n:=by
 have hb:jb n=true:=by unfold jb;rw[decide_eq_true_eq];omega
 have ev:ja n=jQ n:=by unfold ja;rw[if_pos hb]
 rw[ev];obtain⟨d1,d2⟩:=kc n hb;have e:(⟨#[64]⟩++jQ n:ByteArray).data.toList=64 :: (jQ n).data.toList:=by rw[qP];rfl
 have e2:=xh n;have i58:Tk.inW 58=true:=by decide
 have i64:Tk.inW 64=true:=by decide
 have hw:∀b∈ (⟨#[64]⟩++jQ n:ByteArray).data.toList,Tk.inW b=true:=by
  rw[e,e2];intro b hb';rcases List.mem_cons.1 hb' with rfl|q
  ·exact i64
  ·rcases List.mem_append.1 q with q|q
   ·rcases List.mem_append.1 q with q|q
    ·exact(yw (Txt.pad_allD _ 2) b q).1
    ·rw[List.mem_singleton.1 q];exact i58
   ·exact(yw (Txt.pad_allD _ 2) b q).1
 have hz:0 < (⟨#[64]⟩++jQ n:ByteArray).size:=by rw[← qe,e];simp
 refine kZ hz hw ?_
 have g0:(⟨#[64]⟩++jQ n:ByteArray)[0].toNat=64:=by
  rw[← qR _ 0 hz,e];rfl
 have ex:(⟨#[64]⟩++jQ n:ByteArray).extract 1 (⟨#[64]⟩++jQ n:ByteArray).size=jQ n:=by
  apply ByteArray.ext;apply Array.toList_inj.1
  show((⟨#[64]⟩++jQ n:ByteArray).extract 1 (⟨#[64]⟩++jQ n:ByteArray).size).data.toList=(jQ n).data.toList
  rw[ext_list,List.take_of_length_le (by rw[qe];exact Nat.le_refl _),e];rfl
 rw[jG hz g0,ex,if_pos d1,d2]
theorem kR(k:Int)(x:ByteArray)(n:Int):OkT (qY k x n) k x n↔VT ⟨k,x,n⟩:=by
 constructor
 ·intro h;obtain⟨p,hp⟩:=h.one;have:=jV (qY k x n) ⟨⟨k,x,n⟩,p⟩ (by rw[hp];exact List.mem_singleton.2 rfl);exact this
 ·rintro (⟨h1,h2,h3,h4⟩|⟨h1,h2,h3,h4⟩|⟨h1,h2,h3,h4⟩|⟨h1,h2,h3,h4⟩)
  ·dsimp only at h1 h2 h3 h4;subst h1 h4;have e:qY 1 x 0=x:=(by unfold qY;rw[if_pos (.inl rfl)]);rw[e];refine kZ ?_ h2 h3
   by_cases hz:x.size=0
   ·rw[xY hz] at h3;cases h3
   ·omega
  ·dsimp only at h1 h2 h3 h4;subst h2;rcases h1 with rfl|rfl
   ·have e:qY 2 ⟨#[]⟩ n=ye n:=by unfold qY;rw[if_neg (by omega),if_pos rfl]
    rw[e];exact U6 n h3 h4
   ·have e:qY 3 ⟨#[]⟩ n=zg n:=by unfold qY;rw[if_neg (by omega),if_neg (by omega),if_pos rfl]
    rw[e];exact JR n h3 h4
  ·dsimp only at h1 h2 h3 h4;subst h1 h2;have e:qY 4 ⟨#[]⟩ n=⟨#[64]⟩++ja n:=(by unfold qY;rw[if_neg (by omega),if_neg (by omega),if_neg (by omega),if_pos rfl]);rw[e];exact YW n h3 h4
  ·dsimp only at h1 h2 h3 h4;subst h1 h4;have e:qY 5 x 0=x:=(by unfold qY;rw[if_pos (.inr rfl)]);rw[e];exact JT h2 h3
end Go.Proofs.YtcejjdmnlejbaaaGreatDoor
