import Derived.Test.YtfoedbfkddoibaaGreatGa
import Derived.Test.YtfoedbfkddoibaaGreatShelf
import Derived.Test.YtfoedbfkddoibaaGreatGf
namespace Go.Proofs.YtfoedbfkddoibaaGreat
section
set_option linter.unusedVariables false
set_option linter.unusedSimpArgs false
open Go.ChangeShapes Go.WideShapes Go.ChangeAt Go.RowKit
def i64B (x:Int):Prop := -9223372036854775808≤x∧x≤9223372036854775807
def clampI (n:Int):Int:=max (-1099511627776) (min 1099511627776 n)
def addV (a b:Int):Int:=clampI (a+b)
def mulV (a b:Int):Int:=clampI (a * b)
def divV (a b:Int):Int:=if b=0 then 0 else clampI (a.fdiv b)
def bandB (c f t:Int):Bool:=if f≤t then decide (f≤c∧c < t) else decide (f≤c∨c < t)
def flagI (b:Bool):Int:=if b=true then 1 else 0
def limV (k n:Int):Int:=if k=3 then n % 1440 else if k=4 then flagI (decide (n≠0)) else clampI n
theorem clampI_bd (n:Int) : -1099511627776≤clampI n∧clampI n≤1099511627776:=by unfold clampI;omega
theorem clamp_any (n:Int) (w:World):Calls Tryz.prog 180 #[.int .i64 n] w fun e w'=>e=.returned (.int .i64 (clampI n))∧w=w':=by
 go_enter Tryz.func180,Tryz.ntmps180
 go_wp2
 all_goals (go_ret;exact ⟨ret_int (by unfold clampI;omega),rfl⟩)
set_option maxHeartbeats 1000000 in
theorem fadd_any (a b:Int) (w:World) (ha:i64B a) (hb:i64B b):Calls Tryz.prog 159 #[.int .i64 a,.int .i64 b] w fun e w'=>e=.returned (.int .i64 (addV a b))∧w=w':=by
 obtain ⟨s,hs⟩:∃ s,IntKind.i64.wrap (a+b)=s:=⟨_,rfl⟩
 have hsv:(s=a+b∧i64B (a+b))∨(9223372036854775807 < a+b∧s=a+b - 18446744073709551616)∨(a+b < -9223372036854775808∧s=a+b+18446744073709551616):=by
  rw [← hs,IntKind.wrap_i64]
  unfold i64B at *
  omega
 have HS:=Lib.hid hsv
 have HA:=Lib.hid ha
 have HB:=Lib.hid hb
 obtain ⟨R,hR⟩:∃ R,R=addV a b:=⟨_,rfl⟩
 rw [← hR]
 have HR:=Lib.hid hR
 clear hsv ha hb hR
 go_enter Tryz.func159,Tryz.ntmps159
 by_cases h1:0≤a∧0≤b∧s < 0
 · obtain ⟨q1,q2,q3⟩:=h1
   have RQ:Hid (R=1099511627776):=by
    have h1:=HS.out;have h2:=HA.out;have h3:=HB.out
    unfold Hid;rw [HR.out];unfold addV clampI;unfold i64B at *;omega
   go_wp2
   go_ret
   exact ⟨ret_int RQ.out.symm,rfl⟩
 · by_cases h2:a < 0∧b < 0∧0≤s
   · obtain ⟨q1,q2,q3⟩:=h2
     have RQ:Hid (R = -1099511627776):=by
      have h1:=HS.out;have h2:=HA.out;have h3:=HB.out
      unfold Hid;rw [HR.out];unfold addV clampI;unfold i64B at *;omega
     have q4:¬ 0≤a:=by omega
     clear h1
     go_wp2
     go_ret
     exact ⟨ret_int RQ.out.symm,rfl⟩
   · have RQ:Hid (R=clampI s):=by
      have h1:=HS.out;have h2:=HA.out;have h3:=HB.out
      unfold Hid;rw [HR.out];unfold addV clampI;unfold i64B at *;omega
     have H1:=Lib.hid h1
     have H2:=Lib.hid h2
     clear h1 h2
     by_cases k1:0≤a
     · by_cases k2:0≤b
       · have k3:¬ s < 0:=fun q=>H1.out ⟨k1,k2,q⟩
         have k4:¬ a < 0:=by omega
         go_wp2_with (go_at_call 180;refine (clamp_any _ _).mono ?_;rintro e w' ⟨rfl,rfl⟩)
         go_ret
         exact ⟨ret_int RQ.out.symm,rfl⟩
       · have k4:¬ a < 0:=by omega
         go_wp2_with (go_at_call 180;refine (clamp_any _ _).mono ?_;rintro e w' ⟨rfl,rfl⟩)
         go_ret
         exact ⟨ret_int RQ.out.symm,rfl⟩
     · have k4:a < 0:=by omega
       by_cases k2:b < 0
       · have k3:¬ 0≤s:=fun q=>H2.out ⟨k4,k2,q⟩
         go_wp2_with (go_at_call 180;refine (clamp_any _ _).mono ?_;rintro e w' ⟨rfl,rfl⟩)
         go_ret
         exact ⟨ret_int RQ.out.symm,rfl⟩
       · go_wp2_with (go_at_call 180;refine (clamp_any _ _).mono ?_;rintro e w' ⟨rfl,rfl⟩)
         go_ret
         exact ⟨ret_int RQ.out.symm,rfl⟩
theorem mag_any (a:Int) (w:World) (ha:i64B a):Calls Tryz.prog 189 #[.int .i64 a] w fun e w'=>e=.returned (.int .u64 (a.natAbs:Int))∧w=w':=by
 have HA:=Lib.hid ha
 clear ha
 go_enter Tryz.func189,Tryz.ntmps189
 by_cases h:a < 0
 · go_wp2
   go_ret
   refine ⟨ret_int ?_,rfl⟩
   have:=HA.out
   unfold i64B at this
   simp only [IntKind.wrap,IntKind.bits,IntKind.signed]
   first|omega|(simp;omega)
 · go_wp2
   go_ret
   refine ⟨ret_int ?_,rfl⟩
   have:=HA.out
   unfold i64B at this
   simp only [IntKind.wrap,IntKind.bits,IntKind.signed]
   first|omega|(simp;omega)
theorem truth_any (b:Bool) (w:World):Calls Tryz.prog 157 #[.bool b] w fun e w'=>e=.returned (.int .i64 (flagI b))∧w=w':=by
 cases b
 · go_enter Tryz.func157,Tryz.ntmps157
   go_wp2
   go_ret
   exact ⟨rfl,rfl⟩
 · go_enter Tryz.func157,Tryz.ntmps157
   go_wp2
   go_ret
   exact ⟨rfl,rfl⟩
theorem band_any (c f t:Int) (w:World):Calls Tryz.prog 158 #[.int .i64 c,.int .i64 f,.int .i64 t] w fun e w'=>e=.returned (.bool (bandB c f t))∧w=w':=by
 go_enter Tryz.func158,Tryz.ntmps158
 by_cases h:f≤t
 · by_cases h1:f≤c
   · by_cases h2:c < t
     · go_wp2
       go_ret
       exact ⟨ret_bool (by unfold bandB;simp [h,h1,h2]),rfl⟩
     · go_wp2
       go_ret
       exact ⟨ret_bool (by unfold bandB;simp [h,h1,h2]),rfl⟩
   · go_wp2
     go_ret
     exact ⟨ret_bool (by unfold bandB;rw [if_pos h,decide_eq_false];intro q;omega),rfl⟩
 · by_cases h1:f≤c
   · go_wp2
     go_ret
     exact ⟨ret_bool (by unfold bandB;simp [h,h1]),rfl⟩
   · by_cases h2:c < t
     · go_wp2
       go_ret
       exact ⟨ret_bool (by unfold bandB;simp [h,h1,h2]),rfl⟩
     · go_wp2
       go_ret
       exact ⟨ret_bool (by unfold bandB;simp [h,h1,h2]),rfl⟩
theorem fdiv_cases (a b:Int) (hb:¬ b=0):(a.tmod b=0→a.fdiv b=a.tdiv b)∧(a.tmod b≠0∧((a < 0∧b < 0)∨(¬ a < 0∧¬ b < 0))→a.fdiv b=a.tdiv b)∧(a.tmod b≠0∧((a < 0∧¬ b < 0)∨(¬ a < 0∧b < 0))→a.fdiv b=a.tdiv b - 1)∧True:=by
 have e:=@Int.fdiv_eq_tdiv a b
 have hd:b ∣ a↔a.tmod b=0:=⟨fun h=>Int.tmod_eq_zero_of_dvd h,Int.dvd_of_tmod_eq_zero⟩
 refine ⟨fun h=>?_,fun h=>?_,fun h=>?_,trivial⟩
 · rw [e,if_pos (hd.2 h)];omega
 · rw [e,if_neg (fun q=>h.1 (hd.1 q))]
   rcases h.2 with ⟨h1,h2⟩|⟨h1,h2⟩
   · rw [if_neg (by omega),if_neg (by omega),Int.sign_eq_neg_one_of_neg h2];omega
   · rw [if_pos (by omega),if_pos (by omega)];omega
 · rw [e,if_neg (fun q=>h.1 (hd.1 q))]
   rcases h.2 with ⟨h1,h2⟩|⟨h1,h2⟩
   · rw [if_neg (by omega),if_pos (by omega),Int.sign_eq_one_of_pos (by omega)]
   · rw [if_pos (by omega),if_neg (by omega)]
theorem mul_cases (a b:Int):((a < 0∧b < 0)→a * b=((a.natAbs * b.natAbs:Nat):Int))∧((¬ a < 0∧¬ b < 0)→a * b=((a.natAbs * b.natAbs:Nat):Int))∧((a < 0∧¬ b < 0)→a * b = -((a.natAbs * b.natAbs:Nat):Int))∧((¬ a < 0∧b < 0)→a * b = -((a.natAbs * b.natAbs:Nat):Int)):=by
 have e:((a.natAbs * b.natAbs:Nat):Int)=(a.natAbs:Int) * (b.natAbs:Int):=by simp
 rw [e]
 refine ⟨fun h=>?_,fun h=>?_,fun h=>?_,fun h=>?_⟩
 · rw [show (a.natAbs:Int) = -a by omega,show (b.natAbs:Int) = -b by omega,Int.neg_mul_neg]
 · rw [show (a.natAbs:Int)=a by omega,show (b.natAbs:Int)=b by omega]
 · rw [show (a.natAbs:Int) = -a by omega,show (b.natAbs:Int)=b by omega,Int.neg_mul,Int.neg_neg]
 · rw [show (a.natAbs:Int)=a by omega,show (b.natAbs:Int) = -b by omega,Int.mul_neg,Int.neg_neg]
set_option maxHeartbeats 4000000 in
theorem fmul_any (a b:Int) (w:World) (ha:i64B a) (hb:i64B b):Calls Tryz.prog 181 #[.int .i64 a,.int .i64 b] w fun e w'=>e=.returned (.int .i64 (mulV a b))∧w=w':=by
 have HA:=Lib.hid ha
 have HB:=Lib.hid hb
 obtain ⟨R,hR⟩:∃ R,R=mulV a b:=⟨_,rfl⟩
 rw [← hR]
 have HR:Hid (R=clampI (a * b)):=hR
 clear ha hb hR
 have MC:=Lib.hid (mul_cases a b)
 have hA:a.natAbs < 18446744073709551616:=by have:=HA.out;unfold i64B at this;omega
 have hB:b.natAbs < 18446744073709551616:=by have:=HB.out;unfold i64B at this;omega
 have QM:=Lib.hid (fun w=>Tryz.bits_Mul64 a.natAbs b.natAbs hA hB w)
 generalize a * b=X at *
 generalize a.natAbs * b.natAbs=p at *
 go_enter Tryz.func181,Tryz.ntmps181
 by_cases sa:a < 0
 · by_cases sb:b < 0
   · have hX:Hid (X=(p:Int)):=MC.out.1 ⟨sa,sb⟩
     go_wp2_with (first|(go_at_call 189;refine (mag_any _ _ (by first|exact HA.out|exact HB.out)).mono ?_;rintro e w' ⟨rfl,rfl⟩)|(go_at_call 188;refine (QM.out _).mono ?_;rintro e w' ⟨rfl,rfl⟩))
     all_goals (
      go_ret
      refine ⟨ret_int ?_,rfl⟩
      have h1:=hX.out
      have h2:=HR.out
      subst h1
      unfold clampI at h2
      first|(rw [h2];omega)|(exfalso;rename_i hh;simp at hh;omega))
   · have hX:Hid (X = -(p:Int)):=MC.out.2.2.1 ⟨sa,sb⟩
     go_wp2_with (first|(go_at_call 189;refine (mag_any _ _ (by first|exact HA.out|exact HB.out)).mono ?_;rintro e w' ⟨rfl,rfl⟩)|(go_at_call 188;refine (QM.out _).mono ?_;rintro e w' ⟨rfl,rfl⟩))
     all_goals (
      go_ret
      refine ⟨ret_int ?_,rfl⟩
      have h1:=hX.out
      have h2:=HR.out
      subst h1
      unfold clampI at h2
      first|(rw [h2];omega)|(exfalso;rename_i hh;simp at hh;omega))
 · by_cases sb:b < 0
   · have hX:Hid (X = -(p:Int)):=MC.out.2.2.2 ⟨sa,sb⟩
     go_wp2_with (first|(go_at_call 189;refine (mag_any _ _ (by first|exact HA.out|exact HB.out)).mono ?_;rintro e w' ⟨rfl,rfl⟩)|(go_at_call 188;refine (QM.out _).mono ?_;rintro e w' ⟨rfl,rfl⟩))
     all_goals (
      go_ret
      refine ⟨ret_int ?_,rfl⟩
      have h1:=hX.out
      have h2:=HR.out
      subst h1
      unfold clampI at h2
      first|(rw [h2];omega)|(exfalso;rename_i hh;simp at hh;omega))
   · have hX:Hid (X=(p:Int)):=MC.out.2.1 ⟨sa,sb⟩
     go_wp2_with (first|(go_at_call 189;refine (mag_any _ _ (by first|exact HA.out|exact HB.out)).mono ?_;rintro e w' ⟨rfl,rfl⟩)|(go_at_call 188;refine (QM.out _).mono ?_;rintro e w' ⟨rfl,rfl⟩))
     all_goals (
      go_ret
      refine ⟨ret_int ?_,rfl⟩
      have h1:=hX.out
      have h2:=HR.out
      subst h1
      unfold clampI at h2
      first|(rw [h2];omega)|(exfalso;rename_i hh;simp at hh;omega))
set_option maxHeartbeats 4000000 in
theorem fdiv_any (a b:Int) (w:World) (ha:i64B a) (hb:i64B b):Calls Tryz.prog 182 #[.int .i64 a,.int .i64 b] w fun e w'=>e=.returned (.int .i64 (divV a b))∧w=w':=by
 have HA:=Lib.hid ha
 have HB:=Lib.hid hb
 obtain ⟨R,hR⟩:∃ R,R=divV a b:=⟨_,rfl⟩
 rw [← hR]
 have HR:Hid (R=if b=0 then 0 else clampI (a.fdiv b)):=hR
 clear ha hb hR
 go_enter Tryz.func182,Tryz.ntmps182
 by_cases b0:b=0
 · have c0:(b==0)=true:=by simp [b0]
   have RQ:Hid (R=0):=by unfold Hid;rw [HR.out,if_pos b0]
   clear b0
   go_wp2
   go_ret
   exact ⟨ret_int RQ.out.symm,rfl⟩
 · have c0 : (b==0)=false:=by simp [b0]
   have RQ:Hid (R=clampI (a.fdiv b)):=by unfold Hid;rw [HR.out,if_neg b0]
   by_cases b1:b = -1
   · have c1:(b == -1)=true:=by simp [b1]
     have RZ:Hid (R=mulV a (-1)):=by
      unfold Hid mulV;rw [RQ.out,b1]
      congr 1
      rw [Int.fdiv_eq_ediv_of_dvd ⟨-a,by omega⟩];omega
     clear b0 b1
     go_wp2_with (go_at_call 181;refine (fmul_any a (-1) _ HA.out (by unfold i64B;omega)).mono ?_;rintro e w' ⟨rfl,rfl⟩)
     go_ret
     exact ⟨ret_int RZ.out.symm,rfl⟩
   · have c1:(b == -1)=false:=by simp [b1]
     obtain ⟨q,hq⟩:∃ q,a.tdiv b=q:=⟨_,rfl⟩
     obtain ⟨m,hm⟩:∃ m,a.tmod b=m:=⟨_,rfl⟩
     have hq3:(m=0∧i64B q)∨(-4611686018427387905 < q∧q < 4611686018427387905):=by
      have h1:=HA.out
      unfold i64B at *
      by_cases bo:b=1
      · left
        rw [← hq,← hm,bo,Int.tdiv_one,Int.tmod_one]
        exact ⟨rfl,h1⟩
      · right
        have h2:q.natAbs≤a.natAbs / 2:=by rw [← hq,Int.natAbs_tdiv];exact Nat.div_le_div_left (by omega) (by omega)
        omega
     have hqb:i64B q:=by unfold i64B at *;omega
     have HQ3:=Lib.hid hq3
     clear hq3
     have hf:=fdiv_cases a b b0
     rw [hq,hm] at hf
     have HF:=Lib.hid hf
     have hw:IntKind.i64.wrap q=q:=IntWalk.i64_in _ (by unfold i64B at hqb;exact hqb)
     have HQ:=Lib.hid hqb
     have nb:¬ b=0:=b0
     clear hf hqb b1
     by_cases m0:m=0
     · have c2:(m != 0)=false:=by simp [m0]
       have RZ:Hid (R=clampI q):=by unfold Hid;rw [RQ.out,HF.out.1 m0]
       clear m0
       go_wp2_with (go_at_call 180;refine (clamp_any _ _).mono ?_;rintro e w' ⟨rfl,rfl⟩)
       go_ret
       exact ⟨ret_int RZ.out.symm,rfl⟩
     · have c2:(m != 0)=true:=by simp [m0]
       by_cases sa:a < 0
       · by_cases sb:b < 0
         · have RZ:Hid (R=clampI q):=by unfold Hid;rw [RQ.out,HF.out.2.1 ⟨m0,.inl ⟨sa,sb⟩⟩]
           clear m0
           go_wp2_with (go_at_call 180;refine (clamp_any _ _).mono ?_;rintro e w' ⟨rfl,rfl⟩)
           go_ret
           exact ⟨ret_int RZ.out.symm,rfl⟩
         · have RZ:Hid (R=clampI (q - 1)∧i64B (q - 1)):=⟨by rw [RQ.out,HF.out.2.2.1 ⟨m0,.inl ⟨sa,sb⟩⟩],by have h1:=HQ3.out;unfold i64B at *;omega⟩
           have hw2:IntKind.i64.wrap (q - 1)=q - 1:=IntWalk.i64_in _ RZ.out.2
           clear m0
           go_wp2_with (go_at_call 180;refine (clamp_any _ _).mono ?_;rintro e w' ⟨rfl,rfl⟩)
           go_ret
           exact ⟨ret_int (by rw [RZ.out.1]),rfl⟩
       · by_cases sb:b < 0
         · have RZ:Hid (R=clampI (q - 1)∧i64B (q - 1)):=⟨by rw [RQ.out,HF.out.2.2.1 ⟨m0,.inr ⟨sa,sb⟩⟩],by have h1:=HQ3.out;unfold i64B at *;omega⟩
           have hw2:IntKind.i64.wrap (q - 1)=q - 1:=IntWalk.i64_in _ RZ.out.2
           clear m0
           go_wp2_with (go_at_call 180;refine (clamp_any _ _).mono ?_;rintro e w' ⟨rfl,rfl⟩)
           go_ret
           exact ⟨ret_int (by rw [RZ.out.1]),rfl⟩
         · have RZ:Hid (R=clampI q):=by unfold Hid;rw [RQ.out,HF.out.2.1 ⟨m0,.inr ⟨sa,sb⟩⟩]
           clear m0
           go_wp2_with (go_at_call 180;refine (clamp_any _ _).mono ?_;rintro e w' ⟨rfl,rfl⟩)
           go_ret
           exact ⟨ret_int RZ.out.symm,rfl⟩
end
section
set_option linter.unusedVariables false
set_option linter.unusedSimpArgs false
open Go.ChangeShapes Go.WideShapes Go.ChangeAt Go.RowKit
open Go.Deep (BT)
structure Fd where
 op:Int
 num:Int
 ptr:Option Addr
 cap:Nat
abbrev Ff:=BT Fd
def flen:Ff→Nat
 | .nil=>0
 | .node _ _ _ _ r=>flen r+1
def FmAt (w:World):Ff→Nat→Nat→Prop
 | .nil,_,_=>True
 | .node b o a k r,B,O=>(w.cell? ⟨B,O,none⟩=some (.int .i64 a.op)∧w.cell? ⟨B,O+1,none⟩=some (.int .i64 a.num)∧w.cell? ⟨B,O+2,none⟩=some (.slice a.ptr (flen k) a.cap)) ∧
  (k≠.nil→a.ptr=some ⟨b,o,none⟩)∧FmAt w k b o∧FmAt w r B (O+3)
theorem FmAt.next {w w':World} {T:Ff} {B O:Nat} (h:FmAt w T B O) (hb:Below w.heap.size w w'):FmAt w' T B O:=by
 induction T generalizing B O with
 | nil=>trivial
 | node b o a k r ihk ihr =>
   obtain ⟨⟨h0,h1,h2⟩,hp,hk,hr⟩:=h
   refine ⟨⟨?_,?_,?_⟩,hp,ihk hk,ihr hr⟩
   · rw [hb.cell (block_lt_of_cell h0)];exact h0
   · rw [hb.cell (block_lt_of_cell h1)];exact h1
   · rw [hb.cell (block_lt_of_cell h2)];exact h2
def negV (x:Int):Int:=IntKind.i64.wrap (-x)
def notV (x:Int):Int:=IntKind.i64.wrap (1 - x)
def cmbV (op a b:Int):Int :=
 if op=8 then addV a b else if op=9 then addV a (negV b) else if op=10 then mulV a b else if op=11 then divV a b else
 if op=16 then flagI (decide (a < b)) else if op=17 then flagI (decide (a≤b)) else if op=18 then flagI (decide (a=b)) else
 if op=20 then bits .and .i64 a b else if op=21 then bits .or .i64 a b else bits .or .i64 (notV a) b
def minL (x:Int):List Int→Int
 | []=>x
 | y :: l=>minL (min x y) l
def maxL (x:Int):List Int→Int
 | []=>x
 | y :: l=>maxL (max x y) l
def opV (op:Int) (L:List Int):Int :=
 if op=14 then (if L.getD 0 0≠0 then L.getD 1 0 else L.getD 2 0) else
 if op=12 then minL (L.getD 0 0) (L.drop 1) else if op=13 then maxL (L.getD 0 0) (L.drop 1) else
 if op=15 then flagI (bandB (L.getD 0 0) (L.getD 1 0) (L.getD 2 0)) else
 if op=7 then addV 0 (negV (L.getD 0 0)) else if op=19 then notV (L.getD 0 0) else cmbV op (L.getD 0 0) (L.getD 1 0)
def fv1 (vals:List Int) (f:Fd) (L:List Int):Int:=if f.op=1 then f.num else if f.op=6 then vals.getD f.num.toNat 0 else opV f.op L
def fvF (vals:List Int):Ff→List Int
 | .nil=>[]
 | .node _ _ f k r=>fv1 vals f (fvF vals k) :: fvF vals r
theorem fvF_len (vals:List Int) (T:Ff):(fvF vals T).length=flen T:=by
 induction T with
 | nil=>rfl
 | node b o a k r ihk ihr=>simp [fvF,flen,ihr]
def fOk1 (n:Nat) (f:Fd) (m:Nat):Prop:=i64B f.num∧(f.op=1∨(f.op=6∧0≤f.num∧f.num < n)∨((f.op=14∨f.op=15)∧m=3)∨((f.op=12∨f.op=13)∧1≤m)∨((f.op=7∨f.op=19)∧m=1)∨((f.op=8∨f.op=9∨f.op=10∨f.op=11∨f.op=16∨f.op=17∨f.op=18∨f.op=20∨f.op=21∨f.op=22)∧m=2))
def fOk (n:Nat):Ff→Prop
 | .nil=>True
 | .node _ _ f k r=>fOk1 n f (flen k)∧flen k≤9223372036854775807∧fOk n k∧fOk n r
def AllG (P:Nat→Nat→Fd→Ff→Prop):Ff→Prop
 | .nil=>True
 | .node b o a k r=>P b o a k∧AllG P r
theorem allG_of {P:Nat→Nat→Fd→Ff→Prop} (h:∀ b o a k,AllG P k→P b o a k):∀ T:Ff,AllG P T:=by
 intro T
 induction T with
 | nil=>trivial
 | node b o a k r ihk ihr=>exact ⟨h b o a k ihk,ihr⟩
theorem treeG_of {P:Nat→Nat→Fd→Ff→Prop} (h:∀ b o a k,AllG P k→P b o a k) (b o:Nat) (a:Fd) (k:Ff):P b o a k:=h b o a k (allG_of h k)
theorem clampI_i64 (n:Int):i64B (clampI n):=by have:=clampI_bd n;unfold i64B;omega
theorem wrap_i64B (x:Int):i64B (IntKind.i64.wrap x):=by rw [IntKind.wrap_i64];unfold i64B;omega
theorem flagI_i64 (b:Bool):i64B (flagI b):=by cases b<;>(unfold i64B flagI;decide)
theorem bits_i64 (o:BinOp) (a b:Int):i64B (bits o .i64 a b):=by
 unfold bits
 split<;>exact wrap_i64B _
theorem divV_i64 (a b:Int):i64B (divV a b):=by
 unfold divV
 split
 · unfold i64B;decide
 · exact clampI_i64 _
theorem cmbV_i64 (op a b:Int):i64B (cmbV op a b):=by
 unfold cmbV
 (repeat' split)<;>first|exact clampI_i64 _|exact divV_i64 _ _|exact flagI_i64 _|exact bits_i64 _ _ _
theorem minL_i64 (x:Int) (L:List Int) (hx:i64B x) (h:∀ y ∈ L,i64B y):i64B (minL x L):=by
 induction L generalizing x with
 | nil=>exact hx
 | cons y l ih =>
   have hy:=h y (by simp)
   exact ih _ (by unfold i64B at *;omega) (fun z hz=>h z (by simp [hz]))
theorem maxL_i64 (x:Int) (L:List Int) (hx:i64B x) (h:∀ y ∈ L,i64B y):i64B (maxL x L):=by
 induction L generalizing x with
 | nil=>exact hx
 | cons y l ih =>
   have hy:=h y (by simp)
   exact ih _ (by unfold i64B at *;omega) (fun z hz=>h z (by simp [hz]))
theorem getD_i64 (L:List Int) (i:Nat) (h:∀ y ∈ L,i64B y):i64B (L.getD i 0):=by
 rw [List.getD_eq_getElem?_getD]
 cases q:L[i]? with
 | none=>show i64B 0;unfold i64B;decide
 | some x=>exact h x (List.mem_of_getElem? q)
theorem opV_i64 (op:Int) (L:List Int) (h:∀ y ∈ L,i64B y):i64B (opV op L):=by
 unfold opV
 have hd:∀ y ∈ L.drop 1,i64B y:=fun y hy=>h y (List.mem_of_mem_drop hy)
 (repeat' split)<;>first|exact getD_i64 _ _ h|exact minL_i64 _ _ (getD_i64 _ _ h) hd|exact maxL_i64 _ _ (getD_i64 _ _ h) hd|exact flagI_i64 _|exact clampI_i64 _|exact wrap_i64B _|exact cmbV_i64 _ _ _
theorem fvF_i64 (n:Nat) (vals:List Int) (hv:∀ x ∈ vals,i64B x) (T:Ff) (h:fOk n T):∀ x ∈ fvF vals T,i64B x:=by
 induction T with
 | nil=>intro x hx;cases hx
 | node b o a k r ihk ihr =>
   obtain ⟨h1,-,h2,h3⟩:=h
   intro x hx
   rcases List.mem_cons.1 hx with rfl|hx
   · unfold fv1
     (repeat' split)
     · exact h1.1
     · exact getD_i64 _ _ hv
     · exact opV_i64 _ _ (ihk h2)
   · exact ihr h3 x hx
end
section
set_option linter.unusedVariables false
set_option linter.unusedSimpArgs false
open Go.ChangeShapes Go.WideShapes Go.ChangeAt Go.RowKit
open Go.Deep (BT)
set_option maxHeartbeats 2000000 in
set_option maxRecDepth 100000 in
theorem combine_any (op a b:Int) (w:World) (ha:i64B a) (hb:i64B b) (ho:op=8∨op=9∨op=10∨op=11∨op=16∨op=17∨op=18∨op=20∨op=21∨op=22) :
 Calls Tryz.prog 160 #[.int .i64 op,.int .i64 a,.int .i64 b] w fun e w'=>e=.returned (.int .i64 (cmbV op a b))∧w=w':=by
 have HA:=Lib.hid ha
 have HB:=Lib.hid hb
 clear ha hb
 rcases ho with rfl|rfl|rfl|rfl|rfl|rfl|rfl|rfl|rfl|rfl
 · have R:Hid (cmbV 8 a b=addV a b):=rfl
   generalize cmbV 8 a b=R0 at *
   go_enter Tryz.func160,Tryz.ntmps160
   go_wp2_with (go_at_call 159;refine (fadd_any a b _ HA.out HB.out).mono ?_;rintro e w' ⟨rfl,rfl⟩)
   go_ret
   exact ⟨ret_int R.out.symm,rfl⟩
 · obtain ⟨nb,hnb⟩:∃ nb,IntKind.i64.wrap (-b)=nb:=⟨_,rfl⟩
   have HN:Hid (i64B nb):=by unfold Hid;rw [← hnb];exact wrap_i64B _
   have R:Hid (cmbV 9 a b=addV a nb):=by unfold Hid;rw [← hnb];rfl
   generalize cmbV 9 a b=R0 at *
   go_enter Tryz.func160,Tryz.ntmps160
   go_wp2_with (go_at_call 159;refine (fadd_any a nb _ HA.out HN.out).mono ?_;rintro e w' ⟨rfl,rfl⟩)
   go_ret
   exact ⟨ret_int R.out.symm,rfl⟩
 · have R:Hid (cmbV 10 a b=mulV a b):=rfl
   generalize cmbV 10 a b=R0 at *
   go_enter Tryz.func160,Tryz.ntmps160
   go_wp2_with (go_at_call 181;refine (fmul_any a b _ HA.out HB.out).mono ?_;rintro e w' ⟨rfl,rfl⟩)
   go_ret
   exact ⟨ret_int R.out.symm,rfl⟩
 · have R:Hid (cmbV 11 a b=divV a b):=rfl
   generalize cmbV 11 a b=R0 at *
   go_enter Tryz.func160,Tryz.ntmps160
   go_wp2_with (go_at_call 182;refine (fdiv_any a b _ HA.out HB.out).mono ?_;rintro e w' ⟨rfl,rfl⟩)
   go_ret
   exact ⟨ret_int R.out.symm,rfl⟩
 · have R:Hid (cmbV 16 a b=flagI (decide (a < b))):=rfl
   generalize cmbV 16 a b=R0 at *
   go_enter Tryz.func160,Tryz.ntmps160
   go_wp2_with (go_at_call 157;refine (truth_any _ _).mono ?_;rintro e w' ⟨rfl,rfl⟩)
   go_ret
   exact ⟨ret_int R.out.symm,rfl⟩
 · have R:Hid (cmbV 17 a b=flagI (decide (a≤b))):=rfl
   generalize cmbV 17 a b=R0 at *
   go_enter Tryz.func160,Tryz.ntmps160
   go_wp2_with (go_at_call 157;refine (truth_any _ _).mono ?_;rintro e w' ⟨rfl,rfl⟩)
   go_ret
   exact ⟨ret_int R.out.symm,rfl⟩
 · have R:Hid (cmbV 18 a b=flagI (decide (a=b))):=rfl
   generalize cmbV 18 a b=R0 at *
   go_enter Tryz.func160,Tryz.ntmps160
   go_wp2_with (go_at_call 157;refine (truth_any _ _).mono ?_;rintro e w' ⟨rfl,rfl⟩)
   go_ret
   exact ⟨ret_int R.out.symm,rfl⟩
 · have R:Hid (cmbV 20 a b=bits .and .i64 a b):=rfl
   generalize cmbV 20 a b=R0 at *
   go_enter Tryz.func160,Tryz.ntmps160
   go_wp2_with fail
   go_ret
   exact ⟨ret_int R.out.symm,rfl⟩
 · have R:Hid (cmbV 21 a b=bits .or .i64 a b):=rfl
   generalize cmbV 21 a b=R0 at *
   go_enter Tryz.func160,Tryz.ntmps160
   go_wp2_with fail
   go_ret
   exact ⟨ret_int R.out.symm,rfl⟩
 · obtain ⟨na,hna⟩:∃ na,IntKind.i64.wrap (1 - a)=na:=⟨_,rfl⟩
   have R:Hid (cmbV 22 a b=bits .or .i64 na b):=by unfold Hid;rw [← hna];rfl
   generalize cmbV 22 a b=R0 at *
   go_enter Tryz.func160,Tryz.ntmps160
   go_wp2_with fail
   go_ret
   exact ⟨ret_int R.out.symm,rfl⟩
end
end Go.Proofs.YtfoedbfkddoibaaGreat
