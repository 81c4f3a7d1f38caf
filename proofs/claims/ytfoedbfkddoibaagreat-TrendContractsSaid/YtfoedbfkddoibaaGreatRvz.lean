import Derived.Test.YtfoedbfkddoibaaGreatGi
import Derived.Test.YtfoedbfkddoibaaGreatVok
import Derived.Test.YtfoedbfkddoibaaGreatGg
import Derived.Test.YtfoedbfkddoibaaGreatTyo
import Derived.Test.YtfoedbfkddoibaaGreatTrK
namespace Go.Proofs.YtfoedbfkddoibaaGreat
section
set_option linter.unusedVariables false
set_option linter.unusedSimpArgs false
open Go.ChangeShapes Go.WideShapes Go.ChangeAt Go.RowKit
theorem tneg (t:Int) (h:¬ 0≤t):(t.tmod 1440 < 0∧t / 1440=t.tdiv 1440 - 1∧t % 1440=t.tmod 1440+1440 ∧ -1440 < t.tmod 1440∧t.tdiv 1440≤0∧t≤1440 * t.tdiv 1440)∨(¬ t.tmod 1440 < 0∧t / 1440=t.tdiv 1440∧t % 1440=t.tmod 1440):=by
 rw [Int.tdiv_eq_ediv,Int.tmod_eq_emod]
 by_cases hd:(1440:Int) ∣ t
 · rw [if_pos (Or.inr hd),if_pos (Or.inr hd)];right;omega
 · have hn:¬ (0≤t∨(1440:Int) ∣ t):=by intro q;rcases q with q|q<;>contradiction
   rw [if_neg hn,if_neg hn]
   left
   have e1:Int.sign 1440=1:=rfl
   have e2:Int.natAbs 1440=1440:=rfl
   rw [e1,e2]
   omega
set_option maxHeartbeats 400000 in
theorem floor_pos (t k:Int) (w:World) (h:(Lit.int .i64 t).wf=true) (hk:1≤k) (h0:0≤t) :
 Calls Tryz.prog 185 #[.int .i64 t,.int .i64 k] w fun e w'=>e=.returned (.int .i64 (t / k))∧w=w':=by
 have hb:=Go.bounds_i64 h
 have hm:=Int.emod_nonneg t (show k≠0 by omega)
 go_enter Tryz.func185,Tryz.ntmps185
 go_wp2
 go_ret
 exact ⟨rfl,rfl⟩
set_option maxHeartbeats 400000 in
theorem floor_day (t:Int) (w:World) (h:(Lit.int .i64 t).wf=true) :
 Calls Tryz.prog 185 #[.int .i64 t,.int .i64 1440] w fun e w'=>e=.returned (.int .i64 (t / 1440))∧w=w':=by
 by_cases h0:0≤t
 · exact floor_pos t 1440 w h (by omega) h0
 · have hb:=Go.bounds_i64 h
   rcases tneg t h0 with ⟨a,b,c,d,f,g⟩|⟨a,b,c⟩
   all_goals
    have B:=Lib.hid b
    clear b c
    go_enter Tryz.func185,Tryz.ntmps185
    go_wp2
    go_ret
    exact ⟨ret_int B.out.symm,rfl⟩
theorem wsub (t:Int) (h : -9223372036854775808≤t∧t≤9223372036854775807):wrap64 (t - wrap64 (1440 * (t / 1440)))=t % 1440:=by
 unfold wrap64;omega
set_option maxHeartbeats 400000 in
theorem split_ref (t:Int) (w:World) (h:(Lit.int .i64 t).wf=true) :
 Calls Tryz.prog 169 #[.int .i64 t] w fun e w'=>e=.returned (.tuple #[.int .i64 (t / 1440),.int .i64 (t % 1440)])∧w=w':=by
 have hb:=Go.bounds_i64 h
 go_enter Tryz.func169,Tryz.ntmps169
 go_wp2_with (go_at_call 185;refine (floor_day t _ h).mono ?_;rintro e w' ⟨rfl,rfl⟩)
 go_ret2
 exact ⟨ret_int2 rfl (wsub t hb),rfl⟩
theorem rband5_any (c f t:Int) (w:World):Calls Tryz.prog 168 #[.int .i64 c,.int .i64 f,.int .i64 t] w fun e w'=>e=.returned (.bool (bandB c f t))∧w=w':=by
 go_enter Tryz.func168,Tryz.ntmps168
 by_cases h:f≤t
 · by_cases h1:f≤c
   · by_cases h2:c < t
     · go_wp2
       go_ret
       exact ⟨ret_bool (by unfold bandB;simp [h,h1,h2]),rfl⟩
     · go_wp2
       go_ret
       exact ⟨ret_bool (by unfold bandB;simp [h,h1,h2]),rfl⟩
   · go_wp2
     go_ret
     exact ⟨ret_bool (by unfold bandB;rw [if_pos h,decide_eq_false];intro q;omega),rfl⟩
 · by_cases h1:f≤c
   · go_wp2
     go_ret
     exact ⟨ret_bool (by unfold bandB;simp [h,h1]),rfl⟩
   · by_cases h2:c < t
     · go_wp2
       go_ret
       exact ⟨ret_bool (by unfold bandB;simp [h,h1,h2]),rfl⟩
     · go_wp2
       go_ret
       exact ⟨ret_bool (by unfold bandB;simp [h,h1,h2]),rfl⟩
theorem rband_any (c f t:Int) (w:World):Calls Tryz.prog 134 #[.int .i64 c,.int .i64 f,.int .i64 t] w fun e w'=>e=.returned (.bool (bandB c f t))∧w=w':=by
 go_enter Tryz.func134,Tryz.ntmps134
 go_wp2_with (go_at_call 168;refine (rband5_any c f t _).mono ?_;rintro e w' ⟨rfl,rfl⟩)
 go_ret
 exact ⟨rfl,rfl⟩
theorem rflag_any (b:Bool) (w:World):Calls Tryz.prog 133 #[.bool b] w fun e w'=>e=.returned (.int .i64 (flagI b))∧w=w':=by
 cases b
 · go_enter Tryz.func133,Tryz.ntmps133
   go_wp2
   go_ret
   exact ⟨rfl,rfl⟩
 · go_enter Tryz.func133,Tryz.ntmps133
   go_wp2
   go_ret
   exact ⟨rfl,rfl⟩
theorem rclamp_any (n:Int) (w:World):Calls Tryz.prog 166 #[.int .i64 n] w fun e w'=>e=.returned (.int .i64 (clampI n))∧w=w':=by
 go_enter Tryz.func166,Tryz.ntmps166
 go_wp2
 all_goals (go_ret;exact ⟨ret_int (by unfold clampI;omega),rfl⟩)
set_option maxHeartbeats 1000000 in
theorem rlim_any (k n:Int) (w:World) (hn:i64B n):Calls Tryz.prog 136 #[.int .i64 k,.int .i64 n] w fun e w'=>e=.returned (.int .i64 (limV k n))∧w=w':=by
 obtain ⟨R,hR⟩:∃ R,R=limV k n:=⟨_,rfl⟩
 rw [← hR]
 have HR:Hid (R=if k=3 then n % 1440 else if k=4 then flagI (decide (n≠0)) else clampI n):=hR
 have hwf:(Lit.int .i64 n).wf=true:=WalkArith.wf_i64 (by unfold i64B at hn;omega)
 clear hR
 go_enter Tryz.func136,Tryz.ntmps136
 by_cases k3:k=3
 · have c3:(k==3)=true:=by simp [k3]
   have RQ:Hid (R=n % 1440):=by unfold Hid;rw [HR.out,if_pos k3]
   clear k3
   go_wp2_with (go_at_call 169;refine (split_ref n _ hwf).mono ?_;rintro e w' ⟨rfl,rfl⟩)
   go_ret
   exact ⟨ret_int (by rw [RQ.out]),rfl⟩
 · have c3:(k==3)=false:=by simp [k3]
   by_cases k4:k=4
   · have c4:(k==4)=true:=by simp [k4]
     have RQ:Hid (R=flagI (decide (n≠0))):=by unfold Hid;rw [HR.out,if_neg k3,if_pos k4]
     clear k3 k4
     by_cases n0:n=0
     · have c5:(n != 0)=false:=by simp [n0]
       have RZ:Hid (R=flagI false):=by unfold Hid;rw [RQ.out];simp [n0]
       clear n0
       go_wp2_with (go_at_call 133;refine (rflag_any _ _).mono ?_;rintro e w' ⟨rfl,rfl⟩)
       go_ret
       exact ⟨ret_int (by rw [RZ.out]),rfl⟩
     · have c5:(n != 0)=true:=by simp [n0]
       have RZ:Hid (R=flagI true):=by unfold Hid;rw [RQ.out];simp [n0]
       clear n0
       go_wp2_with (go_at_call 133;refine (rflag_any _ _).mono ?_;rintro e w' ⟨rfl,rfl⟩)
       go_ret
       exact ⟨ret_int (by rw [RZ.out]),rfl⟩
   · have c4:(k==4)=false:=by simp [k4]
     have RQ:Hid (R=clampI n):=by unfold Hid;rw [HR.out,if_neg k3,if_neg k4]
     clear k3 k4
     go_wp2_with (go_at_call 166;refine (rclamp_any _ _).mono ?_;rintro e w' ⟨rfl,rfl⟩)
     go_ret
     exact ⟨ret_int (by rw [RQ.out]),rfl⟩
set_option maxHeartbeats 1000000 in
theorem radd_any (a b:Int) (w:World) (ha:i64B a) (hb:i64B b):Calls Tryz.prog 130 #[.int .i64 a,.int .i64 b] w fun e w'=>e=.returned (.int .i64 (addV a b))∧w=w':=by
 obtain ⟨s,hs⟩:∃ s,IntKind.i64.wrap (a+b)=s:=⟨_,rfl⟩
 have hsv:(s=a+b∧i64B (a+b))∨(9223372036854775807 < a+b∧s=a+b - 18446744073709551616)∨(a+b < -9223372036854775808∧s=a+b+18446744073709551616):=by
  rw [← hs,IntKind.wrap_i64]
  unfold i64B at *
  omega
 have HS:=Lib.hid hsv
 have HA:=Lib.hid ha
 have HB:=Lib.hid hb
 obtain ⟨R,hR⟩:∃ R,R=addV a b:=⟨_,rfl⟩
 rw [← hR]
 have HR:=Lib.hid hR
 clear hsv ha hb hR
 go_enter Tryz.func130,Tryz.ntmps130
 by_cases h1:0 < a∧0 < b∧s < 0
 · obtain ⟨q1,q2,q3⟩:=h1
   have RQ:Hid (R=1099511627776):=by
    have h1:=HS.out;have h2:=HA.out;have h3:=HB.out
    unfold Hid;rw [HR.out];unfold addV clampI;unfold i64B at *;omega
   go_wp2
   go_ret
   exact ⟨ret_int RQ.out.symm,rfl⟩
 · by_cases h2:a < 0∧b < 0∧0≤s
   · obtain ⟨q1,q2,q3⟩:=h2
     have RQ:Hid (R = -1099511627776):=by
      have h1:=HS.out;have h2:=HA.out;have h3:=HB.out
      unfold Hid;rw [HR.out];unfold addV clampI;unfold i64B at *;omega
     have q4:¬ 0 < a:=by omega
     clear h1
     go_wp2
     go_ret
     exact ⟨ret_int RQ.out.symm,rfl⟩
   · have RQ:Hid (R=clampI s):=by
      have h1:=HS.out;have h2:=HA.out;have h3:=HB.out
      unfold Hid;rw [HR.out];unfold addV clampI;unfold i64B at *;omega
     have H1:=Lib.hid h1
     have H2:=Lib.hid h2
     clear h1 h2
     by_cases k1:0 < a
     · by_cases k2:0 < b
       · have k3:¬ s < 0:=fun q=>H1.out ⟨k1,k2,q⟩
         have k4:¬ a < 0:=by omega
         go_wp2_with (go_at_call 166;refine (rclamp_any _ _).mono ?_;rintro e w' ⟨rfl,rfl⟩)
         go_ret
         exact ⟨ret_int RQ.out.symm,rfl⟩
       · have k4:¬ a < 0:=by omega
         go_wp2_with (go_at_call 166;refine (rclamp_any _ _).mono ?_;rintro e w' ⟨rfl,rfl⟩)
         go_ret
         exact ⟨ret_int RQ.out.symm,rfl⟩
     · by_cases k4:a < 0
       · by_cases k2:b < 0
         · have k3:¬ 0≤s:=fun q=>H2.out ⟨k4,k2,q⟩
           go_wp2_with (go_at_call 166;refine (rclamp_any _ _).mono ?_;rintro e w' ⟨rfl,rfl⟩)
           go_ret
           exact ⟨ret_int RQ.out.symm,rfl⟩
         · go_wp2_with (go_at_call 166;refine (rclamp_any _ _).mono ?_;rintro e w' ⟨rfl,rfl⟩)
           go_ret
           exact ⟨ret_int RQ.out.symm,rfl⟩
       · go_wp2_with (go_at_call 166;refine (rclamp_any _ _).mono ?_;rintro e w' ⟨rfl,rfl⟩)
         go_ret
         exact ⟨ret_int RQ.out.symm,rfl⟩
theorem rsize_any (a:Int) (w:World) (ha:i64B a):Calls Tryz.prog 167 #[.int .i64 a] w fun e w'=>e=.returned (.int .u64 (a.natAbs:Int))∧w=w':=by
 have HA:=Lib.hid ha
 clear ha
 go_enter Tryz.func167,Tryz.ntmps167
 by_cases h:a < 0
 · go_wp2
   go_ret
   refine ⟨ret_int ?_,rfl⟩
   have:=HA.out
   unfold i64B at this
   simp only [IntKind.wrap,IntKind.bits,IntKind.signed]
   first|omega|(simp;omega)
 · go_wp2
   go_ret
   refine ⟨ret_int ?_,rfl⟩
   have:=HA.out
   unfold i64B at this
   simp only [IntKind.wrap,IntKind.bits,IntKind.signed]
   first|omega|(simp;omega)
theorem rm_le (x y:Nat) (hy:y≠0) (h:(x:Int)≤1099511627776 / (y:Int)):x * y≤1099511627776∧wrap64 (IntKind.u64.wrap ((x:Int) * (y:Int)))=((x * y:Nat):Int)∧wrap64 (-((x * y:Nat):Int)) = -((x * y:Nat):Int):=by
 have h1:x≤1099511627776 / y:=by
  have e:((1099511627776 / y:Nat):Int)=1099511627776 / (y:Int):=by simp
  omega
 have h2:x * y≤1099511627776:=(Nat.le_div_iff_mul_le (by omega)).1 h1
 have e2:(x:Int) * (y:Int)=((x * y:Nat):Int):=by simp
 rw [e2]
 generalize x * y=p at *
 refine ⟨h2,?_,by unfold wrap64;omega⟩
 have e3:IntKind.u64.wrap (p:Int)=p:=by simp only [IntKind.wrap,IntKind.bits,IntKind.signed];first|omega|(simp;omega)
 rw [e3]
 unfold wrap64
 omega
theorem rm_gt (x y:Nat) (hy:y≠0) (h:1099511627776 / (y:Int) < (x:Int)):1099511627776 < x * y:=by
 have h1:1099511627776 / y < x:=by
  have e:((1099511627776 / y:Nat):Int)=1099511627776 / (y:Int):=by simp
  omega
 exact (Nat.div_lt_iff_lt_mul (by omega)).1 h1
set_option maxHeartbeats 4000000 in
theorem rmul_any (a b:Int) (w:World) (ha:i64B a) (hb:i64B b):Calls Tryz.prog 131 #[.int .i64 a,.int .i64 b] w fun e w'=>e=.returned (.int .i64 (mulV a b))∧w=w':=by
 have HA:=Lib.hid ha
 have HB:=Lib.hid hb
 obtain ⟨R,hR⟩:∃ R,R=mulV a b:=⟨_,rfl⟩
 rw [← hR]
 have HR:Hid (R=clampI (a * b)):=hR
 clear ha hb hR
 have MC:=Lib.hid (mul_cases a b)
 have hA:a.natAbs≤9223372036854775808:=by have:=HA.out;unfold i64B at this;omega
 have hB:b.natAbs≤9223372036854775808:=by have:=HB.out;unfold i64B at this;omega
 go_enter Tryz.func131,Tryz.ntmps131
 by_cases a0:a=0
 · have c0:(a==0)=true:=by simp [a0]
   have RQ:Hid (R=0):=by unfold Hid;rw [HR.out,a0,Int.zero_mul];rfl
   clear a0
   go_wp2
   go_ret
   exact ⟨ret_int (by rw [RQ.out]),rfl⟩
 · have c0 : (a==0)=false:=by simp [a0]
   by_cases b0:b=0
   · have c1:(b==0)=true:=by simp [b0]
     have RQ:Hid (R=0):=by unfold Hid;rw [HR.out,b0,Int.mul_zero];rfl
     clear a0 b0
     go_wp2
     go_ret
     exact ⟨ret_int (by rw [RQ.out]),rfl⟩
   · have c1 : (b==0)=false:=by simp [b0]
     have hy:Hid (b.natAbs≠0):=by unfold Hid;omega
     by_cases hq:(a.natAbs:Int)≤1099511627776 / (b.natAbs:Int)
     · have Q := Lib.hid (rm_le _ _ hy.out hq)
       by_cases sa:a < 0
       · by_cases sb:b < 0
         · have RQ:Hid (R=((a.natAbs * b.natAbs:Nat):Int)):=by
            have h1:=Q.out.1
            unfold Hid;rw [HR.out,MC.out.1 ⟨sa,sb⟩]
            generalize a.natAbs * b.natAbs=p at *
            unfold clampI;omega
           go_wp2_with (go_at_call 167;refine (rsize_any _ _ (by first|exact HA.out|exact HB.out)).mono ?_;rintro e w' ⟨rfl,rfl⟩)
           all_goals (go_ret;first|(exfalso;rename_i hh;simp at hh;omega)|exact ⟨ret_int (by rw [RQ.out,Q.out.2.1]),rfl⟩)
         · have RQ:Hid (R = -((a.natAbs * b.natAbs:Nat):Int)):=by
            have h1:=Q.out.1
            unfold Hid;rw [HR.out,MC.out.2.2.1 ⟨sa,sb⟩]
            generalize a.natAbs * b.natAbs=p at *
            unfold clampI;omega
           go_wp2_with (go_at_call 167;refine (rsize_any _ _ (by first|exact HA.out|exact HB.out)).mono ?_;rintro e w' ⟨rfl,rfl⟩)
           all_goals (go_ret;first|(exfalso;rename_i hh;simp at hh;omega)|exact ⟨ret_int (by rw [RQ.out,Q.out.2.1,Q.out.2.2]),rfl⟩)
       · by_cases sb:b < 0
         · have RQ:Hid (R = -((a.natAbs * b.natAbs:Nat):Int)):=by
            have h1:=Q.out.1
            unfold Hid;rw [HR.out,MC.out.2.2.2 ⟨sa,sb⟩]
            generalize a.natAbs * b.natAbs=p at *
            unfold clampI;omega
           go_wp2_with (go_at_call 167;refine (rsize_any _ _ (by first|exact HA.out|exact HB.out)).mono ?_;rintro e w' ⟨rfl,rfl⟩)
           all_goals (go_ret;first|(exfalso;rename_i hh;simp at hh;omega)|exact ⟨ret_int (by rw [RQ.out,Q.out.2.1,Q.out.2.2]),rfl⟩)
         · have RQ:Hid (R=((a.natAbs * b.natAbs:Nat):Int)):=by
            have h1:=Q.out.1
            unfold Hid;rw [HR.out,MC.out.2.1 ⟨sa,sb⟩]
            generalize a.natAbs * b.natAbs=p at *
            unfold clampI;omega
           go_wp2_with (go_at_call 167;refine (rsize_any _ _ (by first|exact HA.out|exact HB.out)).mono ?_;rintro e w' ⟨rfl,rfl⟩)
           all_goals (go_ret;first|(exfalso;rename_i hh;simp at hh;omega)|exact ⟨ret_int (by rw [RQ.out,Q.out.2.1]),rfl⟩)
     · have Q := Lib.hid (rm_gt _ _ hy.out (Int.not_le.1 hq))
       by_cases sa:a < 0
       · by_cases sb:b < 0
         · have RQ:Hid (R=1099511627776):=by
            have h1:=Q.out
            unfold Hid;rw [HR.out,MC.out.1 ⟨sa,sb⟩]
            generalize a.natAbs * b.natAbs=p at *
            unfold clampI;omega
           go_wp2_with (go_at_call 167;refine (rsize_any _ _ (by first|exact HA.out|exact HB.out)).mono ?_;rintro e w' ⟨rfl,rfl⟩)
           all_goals (go_ret;first|(exfalso;rename_i hh;simp at hh;omega)|exact ⟨ret_int (by rw [RQ.out]),rfl⟩)
         · have RQ:Hid (R = -1099511627776):=by
            have h1:=Q.out
            unfold Hid;rw [HR.out,MC.out.2.2.1 ⟨sa,sb⟩]
            generalize a.natAbs * b.natAbs=p at *
            unfold clampI;omega
           go_wp2_with (go_at_call 167;refine (rsize_any _ _ (by first|exact HA.out|exact HB.out)).mono ?_;rintro e w' ⟨rfl,rfl⟩)
           all_goals (go_ret;first|(exfalso;rename_i hh;simp at hh;omega)|exact ⟨ret_int (by rw [RQ.out]),rfl⟩)
       · by_cases sb:b < 0
         · have RQ:Hid (R = -1099511627776):=by
            have h1:=Q.out
            unfold Hid;rw [HR.out,MC.out.2.2.2 ⟨sa,sb⟩]
            generalize a.natAbs * b.natAbs=p at *
            unfold clampI;omega
           go_wp2_with (go_at_call 167;refine (rsize_any _ _ (by first|exact HA.out|exact HB.out)).mono ?_;rintro e w' ⟨rfl,rfl⟩)
           all_goals (go_ret;first|(exfalso;rename_i hh;simp at hh;omega)|exact ⟨ret_int (by rw [RQ.out]),rfl⟩)
         · have RQ:Hid (R=1099511627776):=by
            have h1:=Q.out
            unfold Hid;rw [HR.out,MC.out.2.1 ⟨sa,sb⟩]
            generalize a.natAbs * b.natAbs=p at *
            unfold clampI;omega
           go_wp2_with (go_at_call 167;refine (rsize_any _ _ (by first|exact HA.out|exact HB.out)).mono ?_;rintro e w' ⟨rfl,rfl⟩)
           all_goals (go_ret;first|(exfalso;rename_i hh;simp at hh;omega)|exact ⟨ret_int (by rw [RQ.out]),rfl⟩)
theorem fdiv_abs (a b:Int) (hb:b≠0):(((a < 0∧b < 0)∨(¬ a < 0∧¬ b < 0))→a.fdiv b=((a.natAbs / b.natAbs:Nat):Int))∧(((a < 0∧¬ b < 0)∨(¬ a < 0∧b < 0))→a.fdiv b=if a.natAbs % b.natAbs=0 then -((a.natAbs / b.natAbs:Nat):Int) else -((a.natAbs / b.natAbs+1:Nat):Int)):=by
 have hy:b.natAbs≠0:=by omega
 have e0:((a.natAbs / b.natAbs:Nat):Int)=(a.natAbs:Int) / (b.natAbs:Int):=by simp
 have key:(-(a.natAbs:Int)) / (b.natAbs:Int)=if a.natAbs % b.natAbs=0 then -((a.natAbs / b.natAbs:Nat):Int) else -((a.natAbs / b.natAbs+1:Nat):Int):=by
  rw [Int.neg_ediv,← e0]
  have hs:((b.natAbs:Nat):Int).sign=1:=Int.sign_eq_one_of_pos (by omega)
  by_cases q:a.natAbs % b.natAbs=0
  · rw [if_pos q,if_pos (Int.natCast_dvd_natCast.2 (Nat.dvd_of_mod_eq_zero q))];omega
  · rw [if_neg q,if_neg (fun h=>q (Nat.mod_eq_zero_of_dvd (Int.natCast_dvd_natCast.1 h))),hs];omega
 have hn:∀ x y:Int,x.fdiv y=(-x).fdiv (-y):=fun x y=>(Int.neg_fdiv_neg x y).symm
 refine ⟨fun h=>?_,fun h=>?_⟩
 · rcases h with ⟨h1,h2⟩|⟨h1,h2⟩
   · rw [hn,Int.fdiv_eq_ediv_of_nonneg _ (by omega),e0,show (a.natAbs:Int) = -a by omega,show (b.natAbs:Int) = -b by omega]
   · rw [Int.fdiv_eq_ediv_of_nonneg _ (by omega),e0,show (a.natAbs:Int)=a by omega,show (b.natAbs:Int)=b by omega]
 · rw [← key]
   rcases h with ⟨h1,h2⟩|⟨h1,h2⟩
   · rw [Int.fdiv_eq_ediv_of_nonneg _ (by omega),show -(a.natAbs:Int)=a by omega,show (b.natAbs:Int)=b by omega]
   · rw [hn,Int.fdiv_eq_ediv_of_nonneg _ (by omega),show -(a.natAbs:Int) = -a by omega,show (b.natAbs:Int) = -b by omega]
set_option maxHeartbeats 4000000 in
theorem rdiv_any (a b:Int) (w:World) (ha:i64B a) (hb:i64B b):Calls Tryz.prog 132 #[.int .i64 a,.int .i64 b] w fun e w'=>e=.returned (.int .i64 (divV a b))∧w=w':=by
 have HA:=Lib.hid ha
 have HB:=Lib.hid hb
 obtain ⟨R,hR⟩:∃ R,R=divV a b:=⟨_,rfl⟩
 rw [← hR]
 have HR:Hid (R=if b=0 then 0 else clampI (a.fdiv b)):=hR
 clear ha hb hR
 have hA:a.natAbs≤9223372036854775808:=by have:=HA.out;unfold i64B at this;omega
 have hB:b.natAbs≤9223372036854775808:=by have:=HB.out;unfold i64B at this;omega
 go_enter Tryz.func132,Tryz.ntmps132
 by_cases b0:b=0
 · have c1:(b==0)=true:=by simp [b0]
   have RQ:Hid (R=0):=by unfold Hid;rw [HR.out,if_pos b0]
   clear b0
   go_wp2
   go_ret
   exact ⟨ret_int (by rw [RQ.out]),rfl⟩
 · have c1:(b==0)=false:=by simp [b0]
   have FD:=Lib.hid (fdiv_abs a b b0)
   have RQ:Hid (R=clampI (a.fdiv b)):=by unfold Hid;rw [HR.out,if_neg b0]
   have hy:¬ (b.natAbs:Int)=0:=by omega
   obtain ⟨q,hq⟩:∃ q:Nat,a.natAbs / b.natAbs=q:=⟨_,rfl⟩
   obtain ⟨m,hm⟩:∃ m:Nat,a.natAbs % b.natAbs=m:=⟨_,rfl⟩
   have hqb:q≤9223372036854775808:=by rw [← hq];exact Nat.le_trans (Nat.div_le_self _ _) hA
   have eq1:(a.natAbs:Int) / (b.natAbs:Int)=(q:Int):=by rw [← hq];simp
   have em1:(a.natAbs:Int) % (b.natAbs:Int)=(m:Int):=by rw [← hm];simp
   rw [hq,hm] at FD
   by_cases sa:a < 0
   · by_cases sb:b < 0
     · have RZ:Hid (R=clampI q):=by unfold Hid;rw [RQ.out,FD.out.1 (.inl ⟨sa,sb⟩)]
       go_wp2_with (go_at_call 167;refine (rsize_any _ _ (by first|exact HA.out|exact HB.out)).mono ?_;rintro e w' ⟨rfl,rfl⟩)
       all_goals (go_ret;first|(exfalso;rename_i hh;simp at hh;omega)|(refine ⟨ret_int ?_,rfl⟩;rw [RZ.out];unfold clampI;omega))
     · by_cases m0:m=0
       · have RZ:Hid (R=clampI (-(q:Int))):=by unfold Hid;rw [RQ.out,FD.out.2 (.inl ⟨sa,sb⟩),if_pos m0]
         have m1:¬ 0 < m:=by omega
         go_wp2_with (go_at_call 167;refine (rsize_any _ _ (by first|exact HA.out|exact HB.out)).mono ?_;rintro e w' ⟨rfl,rfl⟩)
         all_goals (go_ret;first|(exfalso;rename_i hh;simp at hh;omega)|(refine ⟨ret_int ?_,rfl⟩;rw [RZ.out];unfold clampI;omega))
       · have RZ:Hid (R=clampI (-((q+1:Nat):Int))):=by unfold Hid;rw [RQ.out,FD.out.2 (.inl ⟨sa,sb⟩),if_neg m0]
         have m1:0 < m:=by omega
         go_wp2_with (go_at_call 167;refine (rsize_any _ _ (by first|exact HA.out|exact HB.out)).mono ?_;rintro e w' ⟨rfl,rfl⟩)
         all_goals (go_ret;first|(exfalso;rename_i hh;simp at hh;omega)|(refine ⟨ret_int ?_,rfl⟩;rw [RZ.out];unfold clampI;omega))
   · by_cases sb:b < 0
     · by_cases m0:m=0
       · have RZ:Hid (R=clampI (-(q:Int))):=by unfold Hid;rw [RQ.out,FD.out.2 (.inr ⟨sa,sb⟩),if_pos m0]
         have m1:¬ 0 < m:=by omega
         go_wp2_with (go_at_call 167;refine (rsize_any _ _ (by first|exact HA.out|exact HB.out)).mono ?_;rintro e w' ⟨rfl,rfl⟩)
         all_goals (go_ret;first|(exfalso;rename_i hh;simp at hh;omega)|(refine ⟨ret_int ?_,rfl⟩;rw [RZ.out];unfold clampI;omega))
       · have RZ:Hid (R=clampI (-((q+1:Nat):Int))):=by unfold Hid;rw [RQ.out,FD.out.2 (.inr ⟨sa,sb⟩),if_neg m0]
         have m1:0 < m:=by omega
         go_wp2_with (go_at_call 167;refine (rsize_any _ _ (by first|exact HA.out|exact HB.out)).mono ?_;rintro e w' ⟨rfl,rfl⟩)
         all_goals (go_ret;first|(exfalso;rename_i hh;simp at hh;omega)|(refine ⟨ret_int ?_,rfl⟩;rw [RZ.out];unfold clampI;omega))
     · have RZ:Hid (R=clampI q):=by unfold Hid;rw [RQ.out,FD.out.1 (.inr ⟨sa,sb⟩)]
       go_wp2_with (go_at_call 167;refine (rsize_any _ _ (by first|exact HA.out|exact HB.out)).mono ?_;rintro e w' ⟨rfl,rfl⟩)
       all_goals (go_ret;first|(exfalso;rename_i hh;simp at hh;omega)|(exfalso;rename_i hh hk;simp at hh;omega)|(exfalso;rename_i hh hk hl;simp at hh;omega)|(exfalso;rename_i hh hk hl hn;simp at hh;omega)|(refine ⟨ret_int ?_,rfl⟩;rw [RZ.out];unfold clampI;omega))
end
section
set_option linter.unusedVariables false
set_option linter.unusedSimpArgs false
set_option maxRecDepth 100000
open Go.ChangeShapes Go.WideShapes Go.ChangeAt Go.RowKit
def apV (op num:Int) (L:List Int):Int:=if op=1∨op=2∨op=3 then num else if op=4 then 1 else if op=5 then 0 else opV op L
theorem ev1_ap (nm:ByteArray→Int) (a:Nd) (L:List Int) (h6:a.op≠6):ev1 nm a L=apV a.op a.num L:=by
 unfold ev1 apV
 rw [if_neg h6]
theorem len1 {L:List Int} (h:L.length=1):∃ x,L=[x]:=by
 match L,h with
 | [x],_=>exact ⟨x,rfl⟩
theorem len2 {L:List Int} (h:L.length=2):∃ x y,L=[x,y]:=by
 match L,h with
 | [x,y],_=>exact ⟨x,y,rfl⟩
theorem len3 {L:List Int} (h:L.length=3):∃ x y z,L=[x,y,z]:=by
 match L,h with
 | [x,y,z],_=>exact ⟨x,y,z,rfl⟩
theorem ints_cons {w:World} {v:Value} {x:Int} {L:List Int} (h:IntsAt w v (x :: L)):∃ g cap:Nat,v=.slice (some ⟨g,0,none⟩) (L.length+1) cap∧∀ i y,(x :: L)[i]?=some y→w.cell? ⟨g,i,none⟩=some (.int .i64 y):=by
 rcases h with ⟨h,-⟩|⟨g,cap,h1,h2⟩
 · cases h
 · exact ⟨g,cap,h1,h2⟩
def ApC (op num:Int) (v:Value) (L:List Int) (w:World):Prop:=Calls Tryz.prog 88 #[.int .i64 op,.int .i64 num,v] w fun e w'=>e=.returned (.int .i64 (apV op num L))∧Below w.heap.size w w'
theorem rap1 (num:Int) (v:Value) (L:List Int) (w:World):ApC 1 num v L w:=by
 unfold ApC
 rw [show apV 1 num L=num from rfl]
 go_enter Tryz.func88,Tryz.ntmps88
 go_wp2
 go_ret
 exact ⟨rfl,Below.refl _ _⟩
theorem rap2 (num:Int) (v:Value) (L:List Int) (w:World):ApC 2 num v L w:=by
 unfold ApC
 rw [show apV 2 num L=num from rfl]
 go_enter Tryz.func88,Tryz.ntmps88
 go_wp2
 go_ret
 exact ⟨rfl,Below.refl _ _⟩
theorem rap3 (num:Int) (v:Value) (L:List Int) (w:World):ApC 3 num v L w:=by
 unfold ApC
 rw [show apV 3 num L=num from rfl]
 go_enter Tryz.func88,Tryz.ntmps88
 go_wp2
 go_ret
 exact ⟨rfl,Below.refl _ _⟩
theorem rap4 (num:Int) (v:Value) (L:List Int) (w:World):ApC 4 num v L w:=by
 unfold ApC
 rw [show apV 4 num L=1 from rfl]
 go_enter Tryz.func88,Tryz.ntmps88
 go_wp2
 go_ret
 exact ⟨rfl,Below.refl _ _⟩
theorem rap5 (num:Int) (v:Value) (L:List Int) (w:World):ApC 5 num v L w:=by
 unfold ApC
 rw [show apV 5 num L=0 from rfl]
 go_enter Tryz.func88,Tryz.ntmps88
 go_wp2
 go_ret
 exact ⟨rfl,Below.refl _ _⟩
theorem rap7 (num x:Int) (v:Value) (w:World) (hv:IntsAt w v [x]):ApC 7 num v [x] w:=by
 unfold ApC
 obtain ⟨nb,hnb⟩:∃ nb,IntKind.i64.wrap (-x)=nb:=⟨_,rfl⟩
 have HN:Hid (i64B nb):=by unfold Hid;rw [← hnb];exact wrap_i64B _
 rw [show apV 7 num [x]=addV 0 (IntKind.i64.wrap (-x)) from rfl,hnb]
 obtain ⟨g,cap,rfl,hc⟩:=ints_cons hv
 have k0:=hc 0 x rfl
 clear hc hv
 go_enter Tryz.func88,Tryz.ntmps88
 go_wp2_with (go_at_call 130;refine (radd_any 0 nb _ (by unfold i64B;decide) HN.out).mono ?_;rintro e w' ⟨rfl,rfl⟩)
 go_ret
 exact ⟨rfl,Below.refl _ _⟩
theorem rap19 (num x:Int) (v:Value) (w:World) (hv:IntsAt w v [x]):ApC 19 num v [x] w:=by
 unfold ApC
 obtain ⟨nb,hnb⟩:∃ nb,IntKind.i64.wrap (1 - x)=nb:=⟨_,rfl⟩
 rw [show apV 19 num [x]=IntKind.i64.wrap (1 - x) from rfl,hnb]
 obtain ⟨g,cap,rfl,hc⟩:=ints_cons hv
 have k0:=hc 0 x rfl
 clear hc hv
 go_enter Tryz.func88,Tryz.ntmps88
 go_wp2
 go_ret
 exact ⟨rfl,Below.refl _ _⟩
set_option maxHeartbeats 1000000 in
theorem rap8 (num x y:Int) (v:Value) (w:World) (hv:IntsAt w v [x,y]) (hx:i64B x) (hy:i64B y):ApC 8 num v [x,y] w:=by
 unfold ApC
 have HX:=Lib.hid hx
 have HY:=Lib.hid hy
 obtain ⟨g,cap,rfl,hc⟩:=ints_cons hv
 have k0:=hc 0 x rfl
 have k1:=hc 1 y rfl
 clear hc hv hx hy
 rw [show apV 8 num [x,y]=addV x y from rfl]
 have Q:Hid (∀ dq os,Calls Tryz.prog 130 #[.int .i64 x,.int .i64 y] (Sort.grow (redrawn w dq) os) fun e w''=>e=.returned (.int .i64 (addV x y))∧∃ p:Regrown,w''=Sort.grow (redrawn w p.d) p.os):=fun dq os=>Calls.regrown_of ((radd_any x y _ HX.out HY.out).mono fun e w' h=>⟨h.1,by rw [← h.2];exact Below.refl _ _⟩)
 have e0:=fun d os=>cell_regrown k0 d os
 have e1:=fun d os=>cell_regrown k1 d os
 generalize addV x y=R at *
 go_enter Tryz.func88,Tryz.ntmps88
 go_upto_region 13 with (fail)
 refine wp_region_quiet_below (by kernel_rfl) (by kernel_rfl) ?_
 repeat (quiet_step (with_reducible exact Q.out _ _))
 refine wpQuiet_nil ?_
 intro _ hw'
 obtain ⟨⟨dq,osq⟩,hw''⟩:=hw'
 subst hw''
 go_wp2
 go_ret
 exact ⟨rfl,below_regrown w dq osq⟩
set_option maxHeartbeats 1000000 in
theorem rap10 (num x y:Int) (v:Value) (w:World) (hv:IntsAt w v [x,y]) (hx:i64B x) (hy:i64B y):ApC 10 num v [x,y] w:=by
 unfold ApC
 have HX:=Lib.hid hx
 have HY:=Lib.hid hy
 obtain ⟨g,cap,rfl,hc⟩:=ints_cons hv
 have k0:=hc 0 x rfl
 have k1:=hc 1 y rfl
 clear hc hv hx hy
 rw [show apV 10 num [x,y]=mulV x y from rfl]
 have Q:Hid (∀ dq os,Calls Tryz.prog 131 #[.int .i64 x,.int .i64 y] (Sort.grow (redrawn w dq) os) fun e w''=>e=.returned (.int .i64 (mulV x y))∧∃ p:Regrown,w''=Sort.grow (redrawn w p.d) p.os):=fun dq os=>Calls.regrown_of ((rmul_any x y _ HX.out HY.out).mono fun e w' h=>⟨h.1,by rw [← h.2];exact Below.refl _ _⟩)
 have e0:=fun d os=>cell_regrown k0 d os
 have e1:=fun d os=>cell_regrown k1 d os
 generalize mulV x y=R at *
 go_enter Tryz.func88,Tryz.ntmps88
 go_upto_region 17 with (fail)
 refine wp_region_quiet_below (by kernel_rfl) (by kernel_rfl) ?_
 repeat (quiet_step (with_reducible exact Q.out _ _))
 refine wpQuiet_nil ?_
 intro _ hw'
 obtain ⟨⟨dq,osq⟩,hw''⟩:=hw'
 subst hw''
 go_wp2
 go_ret
 exact ⟨rfl,below_regrown w dq osq⟩
set_option maxHeartbeats 1000000 in
theorem rap11 (num x y:Int) (v:Value) (w:World) (hv:IntsAt w v [x,y]) (hx:i64B x) (hy:i64B y):ApC 11 num v [x,y] w:=by
 unfold ApC
 have HX:=Lib.hid hx
 have HY:=Lib.hid hy
 obtain ⟨g,cap,rfl,hc⟩:=ints_cons hv
 have k0:=hc 0 x rfl
 have k1:=hc 1 y rfl
 clear hc hv hx hy
 rw [show apV 11 num [x,y]=divV x y from rfl]
 have Q:Hid (∀ dq os,Calls Tryz.prog 132 #[.int .i64 x,.int .i64 y] (Sort.grow (redrawn w dq) os) fun e w''=>e=.returned (.int .i64 (divV x y))∧∃ p:Regrown,w''=Sort.grow (redrawn w p.d) p.os):=fun dq os=>Calls.regrown_of ((rdiv_any x y _ HX.out HY.out).mono fun e w' h=>⟨h.1,by rw [← h.2];exact Below.refl _ _⟩)
 have e0:=fun d os=>cell_regrown k0 d os
 have e1:=fun d os=>cell_regrown k1 d os
 generalize divV x y=R at *
 go_enter Tryz.func88,Tryz.ntmps88
 go_upto_region 19 with (fail)
 refine wp_region_quiet_below (by kernel_rfl) (by kernel_rfl) ?_
 repeat (quiet_step (with_reducible exact Q.out _ _))
 refine wpQuiet_nil ?_
 intro _ hw'
 obtain ⟨⟨dq,osq⟩,hw''⟩:=hw'
 subst hw''
 go_wp2
 go_ret
 exact ⟨rfl,below_regrown w dq osq⟩
set_option maxHeartbeats 1000000 in
theorem rap9 (num x y:Int) (v:Value) (w:World) (hv:IntsAt w v [x,y]) (hx:i64B x) (hy:i64B y):ApC 9 num v [x,y] w:=by
 unfold ApC
 have HX:=Lib.hid hx
 have HY:=Lib.hid hy
 obtain ⟨g,cap,rfl,hc⟩:=ints_cons hv
 have k0:=hc 0 x rfl
 have k1:=hc 1 y rfl
 clear hc hv hx hy
 obtain ⟨nb,hnb⟩:∃ nb,IntKind.i64.wrap (-y)=nb:=⟨_,rfl⟩
 have HN:Hid (i64B nb):=by unfold Hid;rw [← hnb];exact wrap_i64B _
 rw [show apV 9 num [x,y]=addV x (IntKind.i64.wrap (-y)) from rfl,hnb]
 have Q:Hid (∀ dq os,Calls Tryz.prog 130 #[.int .i64 x,.int .i64 nb] (Sort.grow (redrawn w dq) os) fun e w''=>e=.returned (.int .i64 (addV x nb))∧∃ p:Regrown,w''=Sort.grow (redrawn w p.d) p.os):=fun dq os=>Calls.regrown_of ((radd_any x nb _ HX.out HN.out).mono fun e w' h=>⟨h.1,by rw [← h.2];exact Below.refl _ _⟩)
 have e0:=fun d os=>cell_regrown k0 d os
 have e1:=fun d os=>cell_regrown k1 d os
 generalize addV x nb=R at *
 go_enter Tryz.func88,Tryz.ntmps88
 go_upto_region 15 with (fail)
 refine wp_region_quiet_below (by kernel_rfl) (by kernel_rfl) ?_
 repeat (quiet_step (with_reducible exact Q.out _ _))
 refine wpQuiet_nil ?_
 intro _ hw'
 obtain ⟨⟨dq,osq⟩,hw''⟩:=hw'
 subst hw''
 go_wp2
 go_ret
 exact ⟨rfl,below_regrown w dq osq⟩
set_option maxHeartbeats 1000000 in
theorem rap16 (num x y:Int) (v:Value) (w:World) (hv:IntsAt w v [x,y]):ApC 16 num v [x,y] w:=by
 unfold ApC
 obtain ⟨g,cap,rfl,hc⟩:=ints_cons hv
 have k0:=hc 0 x rfl
 have k1:=hc 1 y rfl
 clear hc hv
 rw [show apV 16 num [x,y]=flagI (decide (x < y)) from rfl]
 have Q:Hid (∀ bb dq os,Calls Tryz.prog 133 #[.bool bb] (Sort.grow (redrawn w dq) os) fun e w''=>e=.returned (.int .i64 (flagI bb))∧∃ p:Regrown,w''=Sort.grow (redrawn w p.d) p.os):=fun bb dq os=>Calls.regrown_of ((rflag_any bb _).mono fun e w' h=>⟨h.1,by rw [← h.2];exact Below.refl _ _⟩)
 have e0:=fun d os=>cell_regrown k0 d os
 have e1:=fun d os=>cell_regrown k1 d os
 go_enter Tryz.func88,Tryz.ntmps88
 go_upto_region 36 with (fail)
 refine wp_region_quiet_below (by kernel_rfl) (by kernel_rfl) ?_
 repeat (quiet_step (with_reducible exact Q.out _ _ _))
 refine wpQuiet_nil ?_
 intro _ hw'
 obtain ⟨⟨dq,osq⟩,hw''⟩:=hw'
 subst hw''
 go_wp2
 go_ret
 exact ⟨rfl,below_regrown w dq osq⟩
set_option maxHeartbeats 1000000 in
theorem rap17 (num x y:Int) (v:Value) (w:World) (hv:IntsAt w v [x,y]):ApC 17 num v [x,y] w:=by
 unfold ApC
 obtain ⟨g,cap,rfl,hc⟩:=ints_cons hv
 have k0:=hc 0 x rfl
 have k1:=hc 1 y rfl
 clear hc hv
 rw [show apV 17 num [x,y]=flagI (decide (x≤y)) from rfl]
 have Q:Hid (∀ bb dq os,Calls Tryz.prog 133 #[.bool bb] (Sort.grow (redrawn w dq) os) fun e w''=>e=.returned (.int .i64 (flagI bb))∧∃ p:Regrown,w''=Sort.grow (redrawn w p.d) p.os):=fun bb dq os=>Calls.regrown_of ((rflag_any bb _).mono fun e w' h=>⟨h.1,by rw [← h.2];exact Below.refl _ _⟩)
 have e0:=fun d os=>cell_regrown k0 d os
 have e1:=fun d os=>cell_regrown k1 d os
 go_enter Tryz.func88,Tryz.ntmps88
 go_upto_region 38 with (fail)
 refine wp_region_quiet_below (by kernel_rfl) (by kernel_rfl) ?_
 repeat (quiet_step (with_reducible exact Q.out _ _ _))
 refine wpQuiet_nil ?_
 intro _ hw'
 obtain ⟨⟨dq,osq⟩,hw''⟩:=hw'
 subst hw''
 go_wp2
 go_ret
 exact ⟨rfl,below_regrown w dq osq⟩
set_option maxHeartbeats 1000000 in
theorem rap18 (num x y:Int) (v:Value) (w:World) (hv:IntsAt w v [x,y]):ApC 18 num v [x,y] w:=by
 unfold ApC
 obtain ⟨g,cap,rfl,hc⟩:=ints_cons hv
 have k0:=hc 0 x rfl
 have k1:=hc 1 y rfl
 clear hc hv
 rw [show apV 18 num [x,y]=flagI (decide (x=y)) from rfl]
 have Q:Hid (∀ bb dq os,Calls Tryz.prog 133 #[.bool bb] (Sort.grow (redrawn w dq) os) fun e w''=>e=.returned (.int .i64 (flagI bb))∧∃ p:Regrown,w''=Sort.grow (redrawn w p.d) p.os):=fun bb dq os=>Calls.regrown_of ((rflag_any bb _).mono fun e w' h=>⟨h.1,by rw [← h.2];exact Below.refl _ _⟩)
 have e0:=fun d os=>cell_regrown k0 d os
 have e1:=fun d os=>cell_regrown k1 d os
 go_enter Tryz.func88,Tryz.ntmps88
 go_upto_region 40 with (fail)
 refine wp_region_quiet_below (by kernel_rfl) (by kernel_rfl) ?_
 repeat (quiet_step (with_reducible exact Q.out _ _ _))
 refine wpQuiet_nil ?_
 intro _ hw'
 obtain ⟨⟨dq,osq⟩,hw''⟩:=hw'
 subst hw''
 go_wp2
 go_ret
 exact ⟨rfl,below_regrown w dq osq⟩
set_option maxHeartbeats 1000000 in
theorem rap15 (num x y z:Int) (v:Value) (w:World) (hv:IntsAt w v [x,y,z]):ApC 15 num v [x,y,z] w:=by
 unfold ApC
 obtain ⟨g,cap,rfl,hc⟩:=ints_cons hv
 have k0:=hc 0 x rfl
 have k1:=hc 1 y rfl
 have k2:=hc 2 z rfl
 clear hc hv
 rw [show apV 15 num [x,y,z]=flagI (bandB x y z) from rfl]
 have Q:Hid (∀ bb dq os,Calls Tryz.prog 133 #[.bool bb] (Sort.grow (redrawn w dq) os) fun e w''=>e=.returned (.int .i64 (flagI bb))∧∃ p:Regrown,w''=Sort.grow (redrawn w p.d) p.os):=fun bb dq os=>Calls.regrown_of ((rflag_any bb _).mono fun e w' h=>⟨h.1,by rw [← h.2];exact Below.refl _ _⟩)
 have Q1:Hid (∀ dq os,Calls Tryz.prog 134 #[.int .i64 x,.int .i64 y,.int .i64 z] (Sort.grow (redrawn w dq) os) fun e w''=>e=.returned (.bool (bandB x y z))∧∃ p:Regrown,w''=Sort.grow (redrawn w p.d) p.os):=fun dq os=>Calls.regrown_of ((rband_any x y z _).mono fun e w' h=>⟨h.1,by rw [← h.2];exact Below.refl _ _⟩)
 generalize bandB x y z=bb at *
 have e0:=fun d os=>cell_regrown k0 d os
 have e1:=fun d os=>cell_regrown k1 d os
 have e2:=fun d os=>cell_regrown k2 d os
 go_enter Tryz.func88,Tryz.ntmps88
 go_upto_region 34 with (fail)
 refine wp_region_quiet_below (by kernel_rfl) (by kernel_rfl) ?_
 repeat (quiet_step (with_reducible first|exact Q.out _ _ _|exact Q1.out _ _))
 refine wpQuiet_nil ?_
 intro _ hw'
 obtain ⟨⟨dq,osq⟩,hw''⟩:=hw'
 subst hw''
 go_wp2
 go_ret
 exact ⟨rfl,below_regrown w dq osq⟩
theorem rap14 (num x y z:Int) (v:Value) (w:World) (hv:IntsAt w v [x,y,z]) (hx:x=0∨x=1):ApC 14 num v [x,y,z] w:=by
 unfold ApC
 obtain ⟨g,cap,rfl,hc⟩:=ints_cons hv
 have k0:=hc 0 x rfl
 have k1:=hc 1 y rfl
 have k2:=hc 2 z rfl
 clear hc hv
 rcases hx with rfl|rfl
 · rw [show apV 14 num [0,y,z]=z from rfl]
   go_enter Tryz.func88,Tryz.ntmps88
   go_wp2
   go_ret
   exact ⟨rfl,Below.refl _ _⟩
 · rw [show apV 14 num [1,y,z]=y from rfl]
   go_enter Tryz.func88,Tryz.ntmps88
   go_wp2
   go_ret
   exact ⟨rfl,Below.refl _ _⟩
set_option maxHeartbeats 1000000 in
theorem rap20 (num x y:Int) (v:Value) (w:World) (hv:IntsAt w v [x,y]) (hx:x=0∨x=1) (hy:y=0∨y=1):ApC 20 num v [x,y] w:=by
 unfold ApC
 obtain ⟨g,cap,rfl,hc⟩:=ints_cons hv
 have k0:=hc 0 x rfl
 have k1:=hc 1 y rfl
 clear hc hv
 have Bd:Hid (Below w.heap.size w w.drew):=(Below.refl _ _).drew
 rcases hx with rfl|rfl<;>rcases hy with rfl|rfl
 · rw [show apV 20 num [0,0]=opV 20 [0,0] from rfl,show opV 20 [0,0]=0 by decide]
   go_enter Tryz.func88,Tryz.ntmps88
   go_upto_region 44 with (fail)
   go_region
   all_goals (go_wp2;go_ret;exact ⟨rfl,Bd.out⟩)
 · rw [show apV 20 num [0,1]=opV 20 [0,1] from rfl,show opV 20 [0,1]=0 by decide]
   go_enter Tryz.func88,Tryz.ntmps88
   go_upto_region 44 with (fail)
   go_region
   all_goals (go_wp2;go_ret;exact ⟨rfl,Bd.out⟩)
 · rw [show apV 20 num [1,0]=opV 20 [1,0] from rfl,show opV 20 [1,0]=0 by decide]
   go_enter Tryz.func88,Tryz.ntmps88
   go_upto_region 44 with (fail)
   go_region
   all_goals (go_wp2;go_ret;exact ⟨rfl,Bd.out⟩)
 · rw [show apV 20 num [1,1]=opV 20 [1,1] from rfl,show opV 20 [1,1]=1 by decide]
   go_enter Tryz.func88,Tryz.ntmps88
   go_upto_region 44 with (fail)
   go_region
   all_goals (go_wp2;go_ret;exact ⟨rfl,Bd.out⟩)
set_option maxHeartbeats 1000000 in
theorem rap21 (num x y:Int) (v:Value) (w:World) (hv:IntsAt w v [x,y]) (hx:x=0∨x=1) (hy:y=0∨y=1):ApC 21 num v [x,y] w:=by
 unfold ApC
 obtain ⟨g,cap,rfl,hc⟩:=ints_cons hv
 have k0:=hc 0 x rfl
 have k1:=hc 1 y rfl
 clear hc hv
 have Bd:Hid (Below w.heap.size w w.drew):=(Below.refl _ _).drew
 rcases hx with rfl|rfl<;>rcases hy with rfl|rfl
 · rw [show apV 21 num [0,0]=opV 21 [0,0] from rfl,show opV 21 [0,0]=0 by decide]
   go_enter Tryz.func88,Tryz.ntmps88
   go_upto_region 46 with (fail)
   go_region
   all_goals (go_wp2;go_ret;exact ⟨rfl,Bd.out⟩)
 · rw [show apV 21 num [0,1]=opV 21 [0,1] from rfl,show opV 21 [0,1]=1 by decide]
   go_enter Tryz.func88,Tryz.ntmps88
   go_upto_region 46 with (fail)
   go_region
   all_goals (go_wp2;go_ret;exact ⟨rfl,Bd.out⟩)
 · rw [show apV 21 num [1,0]=opV 21 [1,0] from rfl,show opV 21 [1,0]=1 by decide]
   go_enter Tryz.func88,Tryz.ntmps88
   go_upto_region 46 with (fail)
   go_region
   all_goals (go_wp2;go_ret;exact ⟨rfl,Bd.out⟩)
 · rw [show apV 21 num [1,1]=opV 21 [1,1] from rfl,show opV 21 [1,1]=1 by decide]
   go_enter Tryz.func88,Tryz.ntmps88
   go_upto_region 46 with (fail)
   go_region
   all_goals (go_wp2;go_ret;exact ⟨rfl,Bd.out⟩)
set_option maxHeartbeats 1000000 in
theorem rap22 (num x y:Int) (v:Value) (w:World) (hv:IntsAt w v [x,y]) (hx:x=0∨x=1) (hy:y=0∨y=1):ApC 22 num v [x,y] w:=by
 unfold ApC
 obtain ⟨g,cap,rfl,hc⟩:=ints_cons hv
 have k0:=hc 0 x rfl
 have k1:=hc 1 y rfl
 clear hc hv
 have Bd:Hid (Below w.heap.size w w.drew):=(Below.refl _ _).drew
 rcases hx with rfl|rfl<;>rcases hy with rfl|rfl
 · rw [show apV 22 num [0,0]=opV 22 [0,0] from rfl,show opV 22 [0,0]=1 by decide]
   go_enter Tryz.func88,Tryz.ntmps88
   go_upto_region 47 with (fail)
   go_region
   all_goals (go_wp2;go_ret;exact ⟨rfl,Bd.out⟩)
 · rw [show apV 22 num [0,1]=opV 22 [0,1] from rfl,show opV 22 [0,1]=1 by decide]
   go_enter Tryz.func88,Tryz.ntmps88
   go_upto_region 47 with (fail)
   go_region
   all_goals (go_wp2;go_ret;exact ⟨rfl,Bd.out⟩)
 · rw [show apV 22 num [1,0]=opV 22 [1,0] from rfl,show opV 22 [1,0]=0 by decide]
   go_enter Tryz.func88,Tryz.ntmps88
   go_upto_region 47 with (fail)
   go_region
   all_goals (go_wp2;go_ret;exact ⟨rfl,Bd.out⟩)
 · rw [show apV 22 num [1,1]=opV 22 [1,1] from rfl,show opV 22 [1,1]=1 by decide]
   go_enter Tryz.func88,Tryz.ntmps88
   go_upto_region 47 with (fail)
   go_region
   all_goals (go_wp2;go_ret;exact ⟨rfl,Bd.out⟩)
set_option maxHeartbeats 2000000 in
theorem rap12 (num x:Int) (L:List Int) (v:Value) (w:World) (hv:IntsAt w v (x :: L)) (hl:L.length+1≤9223372036854775807):ApC 12 num v (x :: L) w:=by
 unfold ApC
 obtain ⟨g,cap,rfl,hc⟩:=ints_cons hv
 have k0:=hc 0 x rfl
 have HC:=Lib.hid hc
 clear hc hv
 obtain ⟨R,hR⟩:∃ R,R=apV 12 num (x :: L):=⟨_,rfl⟩
 rw [← hR]
 have HR:Hid (minL x L=R):=hR.symm
 clear hR
 go_enter Tryz.func88,Tryz.ntmps88
 go_wp2_with fail
 go_loop [7,8] (fun m i=>∃ (j:Nat) (acc:Int),j≤L.length∧i=.int .i64 ((j:Int)+1)∧m=.int .i64 acc∧Hid (minL acc (L.drop j)=R)) (fun _ i=>L.length+1 - (intOf i).toNat)
 case atStart=>exact ⟨0,x,by omega,rfl,rfl,HR.out⟩
 case round =>
  obtain ⟨j,acc,hj,rfl,rfl,HS⟩:=hrel
  by_cases hlt:j < L.length
  · have kj:=HC.out (j+1) L[j] (by simp)
    have ST:Hid (minL (min acc L[j]) (L.drop (j+1))=R):=by
     have h9:=HS.out
     rw [List.drop_eq_getElem_cons hlt] at h9
     exact h9
    generalize L[j]=xj at *
    have hi:(j:Int)+1 < (L.length:Int)+1:=by omega
    have hi0:(0:Int)≤(j:Int)+1:=by omega
    have kj2:w.cell? ⟨g,((j:Int)+1).toNat,none⟩=some (.int .i64 xj):=by rw [show ((j:Int)+1).toNat=j+1 by omega];exact kj
    by_cases hq:xj < acc
    · have HQ:=Lib.hid hq
      go_wp2
      all_goals (
       go_round
       case rel=>exact ⟨j+1,min acc xj,by omega,by go_num,by first|rfl|(congr 1;have:=HQ.out;omega),ST.out⟩
       case measure=>simp [intOf];omega)
    · have HQ:=Lib.hid hq
      go_wp2
      all_goals (
       go_round
       case rel=>exact ⟨j+1,min acc xj,by omega,by go_num,by first|rfl|(congr 1;have:=HQ.out;omega),ST.out⟩
       case measure=>simp [intOf];omega)
  · have hi:¬ (j:Int)+1 < (L.length:Int)+1:=by omega
    have RZ:Hid (R=acc):=by
     have h9:=HS.out
     rw [List.drop_eq_nil_of_le (by omega)] at h9
     exact h9.symm
    go_wp2
    go_ret
    exact ⟨ret_int RZ.out.symm,Below.refl _ _⟩
set_option maxHeartbeats 2000000 in
theorem rap13 (num x:Int) (L:List Int) (v:Value) (w:World) (hv:IntsAt w v (x :: L)) (hl:L.length+1≤9223372036854775807):ApC 13 num v (x :: L) w:=by
 unfold ApC
 obtain ⟨g,cap,rfl,hc⟩:=ints_cons hv
 have k0:=hc 0 x rfl
 have HC:=Lib.hid hc
 clear hc hv
 obtain ⟨R,hR⟩:∃ R,R=apV 13 num (x :: L):=⟨_,rfl⟩
 rw [← hR]
 have HR:Hid (maxL x L=R):=hR.symm
 clear hR
 go_enter Tryz.func88,Tryz.ntmps88
 go_wp2_with fail
 go_loop [7,8] (fun m i=>∃ (j:Nat) (acc:Int),j≤L.length∧i=.int .i64 ((j:Int)+1)∧m=.int .i64 acc∧Hid (maxL acc (L.drop j)=R)) (fun _ i=>L.length+1 - (intOf i).toNat)
 case atStart=>exact ⟨0,x,by omega,rfl,rfl,HR.out⟩
 case round =>
  obtain ⟨j,acc,hj,rfl,rfl,HS⟩:=hrel
  by_cases hlt:j < L.length
  · have kj:=HC.out (j+1) L[j] (by simp)
    have ST:Hid (maxL (max acc L[j]) (L.drop (j+1))=R):=by
     have h9:=HS.out
     rw [List.drop_eq_getElem_cons hlt] at h9
     exact h9
    generalize L[j]=xj at *
    have hi:(j:Int)+1 < (L.length:Int)+1:=by omega
    have hi0:(0:Int)≤(j:Int)+1:=by omega
    have kj2:w.cell? ⟨g,((j:Int)+1).toNat,none⟩=some (.int .i64 xj):=by rw [show ((j:Int)+1).toNat=j+1 by omega];exact kj
    by_cases hq:xj < acc
    · have HQ:=Lib.hid hq
      go_wp2
      all_goals (
       go_round
       case rel=>exact ⟨j+1,max acc xj,by omega,by go_num,by first|rfl|(congr 1;have:=HQ.out;omega),ST.out⟩
       case measure=>simp [intOf];omega)
    · have HQ:=Lib.hid hq
      go_wp2
      all_goals (
       go_round
       case rel=>exact ⟨j+1,max acc xj,by omega,by go_num,by first|rfl|(congr 1;have:=HQ.out;omega),ST.out⟩
       case measure=>simp [intOf];omega)
  · have hi:¬ (j:Int)+1 < (L.length:Int)+1:=by omega
    have RZ:Hid (R=acc):=by
     have h9:=HS.out
     rw [List.drop_eq_nil_of_le (by omega)] at h9
     exact h9.symm
    go_wp2
    go_ret
    exact ⟨ret_int RZ.out.symm,Below.refl _ _⟩
theorem rapply_any (op num:Int) (v:Value) (L:List Int) (w:World) (hv:IntsAt w v L) (hl:L.length≤9223372036854775807) (h1:1≤op) (h2:op≤22) (h6:op≠6) (ha:argB op L.length=true) (hb:boolArgs op L) (hi:∀ x ∈ L,i64B x):ApC op num v L w:=by
 have hop:op=1∨op=2∨op=3∨op=4∨op=5∨op=7∨op=8∨op=9∨op=10∨op=11∨op=12∨op=13∨op=14∨op=15∨op=16∨op=17∨op=18∨op=19∨op=20∨op=21∨op=22:=by omega
 obtain ⟨b14,b19,b20⟩:=hb
 rcases hop with e|e|e|e|e|e|e|e|e|e|e|e|e|e|e|e|e|e|e|e|e<;>subst e
 · exact rap1 num v L w
 · exact rap2 num v L w
 · exact rap3 num v L w
 · exact rap4 num v L w
 · exact rap5 num v L w
 · obtain ⟨x,rfl⟩:=len1 (L:=L) (by simp [argB] at ha;omega)
   exact rap7 num x v w hv
 · obtain ⟨x,y,rfl⟩:=len2 (L:=L) (by simp [argB] at ha;omega)
   exact rap8 num x y v w hv (hi x (by simp)) (hi y (by simp))
 · obtain ⟨x,y,rfl⟩:=len2 (L:=L) (by simp [argB] at ha;omega)
   exact rap9 num x y v w hv (hi x (by simp)) (hi y (by simp))
 · obtain ⟨x,y,rfl⟩:=len2 (L:=L) (by simp [argB] at ha;omega)
   exact rap10 num x y v w hv (hi x (by simp)) (hi y (by simp))
 · obtain ⟨x,y,rfl⟩:=len2 (L:=L) (by simp [argB] at ha;omega)
   exact rap11 num x y v w hv (hi x (by simp)) (hi y (by simp))
 · cases L with
   | nil=>simp [argB] at ha
   | cons x L=>exact rap12 num x L v w hv (by simpa using hl)
 · cases L with
   | nil=>simp [argB] at ha
   | cons x L=>exact rap13 num x L v w hv (by simpa using hl)
 · obtain ⟨x,y,z,rfl⟩:=len3 (L:=L) (by simp [argB] at ha;omega)
   exact rap14 num x y z v w hv (b14 rfl)
 · obtain ⟨x,y,z,rfl⟩:=len3 (L:=L) (by simp [argB] at ha;omega)
   exact rap15 num x y z v w hv
 · obtain ⟨x,y,rfl⟩:=len2 (L:=L) (by simp [argB] at ha;omega)
   exact rap16 num x y v w hv
 · obtain ⟨x,y,rfl⟩:=len2 (L:=L) (by simp [argB] at ha;omega)
   exact rap17 num x y v w hv
 · obtain ⟨x,y,rfl⟩:=len2 (L:=L) (by simp [argB] at ha;omega)
   exact rap18 num x y v w hv
 · obtain ⟨x,rfl⟩:=len1 (L:=L) (by simp [argB] at ha;omega)
   exact rap19 num x v w hv
 · obtain ⟨x,y,rfl⟩:=len2 (L:=L) (by simp [argB] at ha;omega)
   exact rap20 num x y v w hv (b20 (.inl rfl)).1 (b20 (.inl rfl)).2
 · obtain ⟨x,y,rfl⟩:=len2 (L:=L) (by simp [argB] at ha;omega)
   exact rap21 num x y v w hv (b20 (.inr (.inl rfl))).1 (b20 (.inr (.inl rfl))).2
 · obtain ⟨x,y,rfl⟩:=len2 (L:=L) (by simp [argB] at ha;omega)
   exact rap22 num x y v w hv (b20 (.inr (.inr rfl))).1 (b20 (.inr (.inr rfl))).2
end
section
section
set_option linter.unusedVariables false
set_option linter.unusedSimpArgs false
open Go.ChangeShapes Go.WideShapes Go.ChangeAt Go.RowKit
open Go.Deep (BT)
def avIx (s:ByteArray):List Av→Option Nat
 | []=>none
 | a :: l=>if a.name=s then some 0 else (avIx s l).map (·+1)
theorem avIx_none (s:ByteArray) (L:List Av):avIx s L=none↔∀ a ∈ L,a.name≠s:=by
 induction L with
 | nil=>simp [avIx]
 | cons c L ih =>
   unfold avIx
   by_cases h:c.name=s
   · simp [h]
   · rw [if_neg h];simp [ih,h]
theorem avIx_some (s:ByteArray) (L:List Av) (i:Nat):avIx s L=some i↔(∃ a,L[i]?=some a∧a.name=s)∧∀ a ∈ L.take i,a.name≠s:=by
 induction L generalizing i with
 | nil=>simp [avIx]
 | cons c L ih =>
   unfold avIx
   by_cases h:c.name=s
   · rw [if_pos h]
     constructor
     · intro e;cases e;exact ⟨⟨c,rfl,h⟩,by simp⟩
     · rintro ⟨-,h2⟩
       cases i with
       | zero=>rfl
       | succ i=>exact absurd h (h2 c (by simp))
   · rw [if_neg h]
     cases i with
     | zero =>
       constructor
       · intro e;cases q:avIx s L<;>simp [q] at e
       · rintro ⟨⟨d,hd,hn⟩,-⟩;simp at hd;subst hd;exact absurd hn h
     | succ i =>
       have hi:=ih i
       have e1:((avIx s L).map (·+1)=some (i+1))↔avIx s L=some i:=by
        cases avIx s L<;>simp
       rw [e1,hi]
       simp [h]
theorem firstAv_ix (s:ByteArray) (L:List Av):firstAv s L=match avIx s L with|some i=>(L[i]?).map (·.val)|none=>none:=by
 induction L with
 | nil=>rfl
 | cons c L ih =>
   unfold firstAv avIx
   by_cases h:c.name=s
   · rw [if_pos h,if_pos h];rfl
   · rw [if_neg h,if_neg h,ih]
     cases avIx s L<;>rfl
theorem AvV.next {w w':World} {L:List Av} {p:Option Addr} (h:AvV w L p) (hb:Below w.heap.size w w'):AvV w' L p:=h.keep (Keeps.of_below hb)
set_option maxHeartbeats 1000000 in
theorem ravfind_any (L:List Av) (p:Option Addr) (cap:Nat) (s:ByteArray) (w:World) (h:AvV w L p) :
 Calls Tryz.prog 137 #[.slice p L.length cap,.string s] w fun e w'=>e=.returned (.int .i64 (ixI (avIx s L)))∧w=w':=by
 have HC:=Lib.hid h
 have hn2:L.length≤2932031007402:=h.small
 clear h
 go_enter Tryz.func137,Tryz.ntmps137
 go_wp2_with fail
 go_loop [5] (fun i=>∃ j:Nat,j≤L.length∧i=.int .i64 j∧Hid (∀ c ∈ L.take j,c.name≠s)) (fun i=>L.length - (intOf i).toNat)
 case atStart=>exact ⟨0,by omega,rfl,by intro c hc;simp at hc⟩
 case round =>
  obtain ⟨j,hj,rfl,HR⟩:=hrel
  by_cases hlt:j < L.length
  · obtain ⟨c,hc⟩:∃ c,L[j]?=some c:=⟨_,List.getElem?_eq_getElem (by omega)⟩
    obtain ⟨B,O,rfl,c0,-⟩:=HC.out.get hc
    have hi:(j:Int) < (L.length:Int):=by omega
    have CJ:=Lib.hid hc
    clear hc
    by_cases he:c.name=s
    · have hb:(c.name.toList==s.toList)=true:=by rw [he];simp
      have R:Hid (avIx s L=some j):=(avIx_some _ _ _).2 ⟨⟨c,CJ.out,he⟩,HR.out⟩
      clear he
      go_wp2
      go_ret
      exact ⟨ret_int (by rw [R.out];rfl),rfl⟩
    · have hb:(c.name.toList==s.toList)=false:=by
       rw [beq_eq_false_iff_ne,Lib.toList_data,Lib.toList_data]
       exact fun q=>he (ByteArray.ext (Array.toList_inj.1 q))
      have R:Hid (∀ c ∈ L.take (j+1),c.name≠s):=by
       intro d hd
       rw [List.take_add_one,CJ.out] at hd
       rcases List.mem_append.1 hd with hd|hd
       · exact HR.out d hd
       · simp at hd;rw [hd];exact he
      clear he
      go_wp2
      go_round
      case rel=>exact ⟨j+1,by omega,by go_num,R.out⟩
      case measure=>simp [intOf];omega
  · have hi:¬ (j:Int) < (L.length:Int):=by omega
    have R:Hid (avIx s L=none):=by
     obtain rfl:j=L.length:=by omega
     have h9:=HR.out
     rw [List.take_length] at h9
     exact (avIx_none _ _).2 h9
    go_wp2
    go_ret
    exact ⟨ret_int (by rw [R.out];rfl),rfl⟩
end
section
set_option linter.unusedVariables false
set_option linter.unusedSimpArgs false
open Go.ChangeShapes Go.WideShapes Go.ChangeAt Go.RowKit
open Go.Deep (BT)
def nmR (sc:Int) (L:List Av) (cs:List Cn) (V:List Int) (s:ByteArray):Int:=if atE sc s=0 then limV (atS sc s) ((firstAv s L).getD 0) else nmC cs V s
def NQ (sc:Int) (L:List Av) (cs:List Cn) (V:List Int) (s:ByteArray):Prop:=(atE sc s=0→(firstAv s L).isSome=true)∧(atE sc s≠0→∃ j,firstIx s cs=some j∧j < V.length)
theorem nmR_i64 (sc:Int) (L:List Av) (cs:List Cn) (V:List Int) (hL:∀ a ∈ L,AvOk a) (hV:∀ x ∈ V,i64B x) (s:ByteArray):i64B (nmR sc L cs V s):=by
 have z:i64B 0:=by unfold i64B;decide
 unfold nmR
 split
 · refine limV_i64 _ _ ?_
   cases q:firstAv s L with
   | none=>exact z
   | some u=>exact firstAv_i64 _ L u hL q
 · unfold nmC
   cases firstIx s cs with
   | none=>exact z
   | some j=>exact getD_i64 V j hV
def RvC (b o:Nat) (a:Nd) (k:Fo):Prop:=∀ (w:World) (cs:List Cn) (p:Option Addr) (cap:Nat) (V:List Int) (vv:Value) (sc:Int) (L:List Av) (ap:Option Addr) (apc:Nat) (look:Look),
 ExAt w b o a k→ExOk a k→(wfB a (len k) && wfT k)=true→sz k≤200→CsV w cs p→IntsAt w vv V→AvV w L ap→(∀ x ∈ V,i64B x)→V.length≤9223372036854775807→(tyT look sc a k).2=0→NmOk look sc (nmR sc L cs V)→(a.op=6→NQ sc L cs V a.name)→NamF (NQ sc L cs V) k →
 Calls Tryz.prog 90 #[vv,.slice p cs.length cap,.int .i64 sc,.slice ap L.length apc,.agg #[.int .i64 a.op,.int .i64 a.num,.string a.name,.slice a.ptr (len k) a.cap]] w
  fun e w'=>e=.returned (.int .i64 (ev1 (nmR sc L cs V) a (evF (nmR sc L cs V) k)))∧Below w.heap.size w w'
theorem ints_get {w:World} {v:Value} {V:List Int} {i:Nat} (h:IntsAt w v V) (hi:i < V.length):∃ g cap,v=.slice (some ⟨g,0,none⟩) V.length cap∧w.cell? ⟨g,i,none⟩=some (.int .i64 (V.getD i 0)):=by
 rcases h with ⟨rfl,-⟩|⟨g,cap,h1,h2⟩
 · simp at hi
 · refine ⟨g,cap,h1,?_⟩
   rw [List.getD_eq_getElem?_getD,List.getElem?_eq_getElem hi]
   exact h2 i _ (List.getElem?_eq_getElem hi)
set_option maxHeartbeats 1000000 in
set_option maxRecDepth 100000 in
theorem rvalue_any (b o:Nat) (a:Nd) (k:Fo):RvC b o a k:=by
 refine tree_of (P:=RvC) ?_ b o a k
 clear b o a k
 intro b o a k ih w cs p cap V vv sc L ap apc look hx hok hwf hz hcs hvv hav hV hVl hty hnm hn1 hn2
 obtain ⟨op,num,name,ptr,acap⟩:=a
 obtain ⟨i0,hi,hi0,hi1,hi2⟩:=info_parts Tryz.infoI
 show Calls Tryz.prog 90 #[vv,.slice p cs.length cap,.int .i64 sc,.slice ap L.length apc,.agg #[.int .i64 op,.int .i64 num,.string name,.slice ptr (len k) acap]] w _
 have IH:=Lib.hid ih
 have HX:=Lib.hid hx
 have HOK:=Lib.hid hok
 have HW:=Lib.hid hwf
 have HZ:=Lib.hid hz
 have HCS:=Lib.hid hcs
 have HVV:=Lib.hid hvv
 have HAV:=Lib.hid hav
 have HV:=Lib.hid hV
 have HT:=Lib.hid hty
 have HNM:=Lib.hid hnm
 have HN1:=Lib.hid hn1
 have HN2:=Lib.hid hn2
 have hk:len k≤200:=Nat.le_trans (len_le_sz k) hz
 have hL2:L.length≤2932031007402:=hav.small
 have hc2:cs.length≤2932031007402:=hcs.small
 have NI:=Lib.hid (nmR_i64 sc L cs V hav.ok hV)
 clear ih hx hok hwf hz hcs hvv hav hV hty hnm hn1 hn2
 have hs:name.size≤9223372036854775807:=HOK.out.1.2.2.1
 have hw1:Hid (1≤op∧op≤22∧argB op (len k)=true):=by
  have h:=HW.out
  unfold wfB at h
  dsimp only at h
  simp only [Bool.and_eq_true,decide_eq_true_eq] at h
  exact ⟨h.1.1.1.1.1,h.1.1.1.1.2,h.1.1.1.2⟩
 have NR:Hid (∀ s,nmR sc L cs V s=if atE sc s=0 then limV (atS sc s) ((firstAv s L).getD 0) else nmC cs V s):=fun _=>rfl
 have EV:Hid (op=6→ev1 (nmR sc L cs V) ⟨op,num,name,ptr,acap⟩ (evF (nmR sc L cs V) k)=nmR sc L cs V name):=by
  intro h6
  unfold ev1
  dsimp only
  rw [if_neg (by omega),if_neg (by omega),if_neg (by omega),if_pos h6]
 have EA:Hid (op≠6→ev1 (nmR sc L cs V) ⟨op,num,name,ptr,acap⟩ (evF (nmR sc L cs V) k)=apV op num (evF (nmR sc L cs V) k)):=fun h6=>ev1_ap _ ⟨op,num,name,ptr,acap⟩ _ h6
 have TP:Hid (op≠6→(tyF look sc k).1=0∧resT op (tyF look sc k).2≠0∧(tyT look sc ⟨op,num,name,ptr,acap⟩ k).1=resT op (tyF look sc k).2):=fun h6=>ty_parts look sc ⟨op,num,name,ptr,acap⟩ k HT.out h6
 generalize ev1 (nmR sc L cs V) ⟨op,num,name,ptr,acap⟩ (evF (nmR sc L cs V) k)=R at *
 have B0:Hid (Below w.heap.size w (w.alloc (.cells #[.int .i64 op,.int .i64 num,.string name,.slice ptr (len k) acap] 25))):=(Below.refl _ _).alloc (Nat.le_refl _) _
 have BX:Hid (∀ wr,Below (w.heap.size+1) (w.alloc (.cells #[.int .i64 op,.int .i64 num,.string name,.slice ptr (len k) acap] 25)) wr →
  (wr.cell? ⟨w.heap.size,0,none⟩=some (.int .i64 op)∧wr.cell? ⟨w.heap.size,1,none⟩=some (.int .i64 num)∧wr.cell? ⟨w.heap.size,2,none⟩=some (.string name)∧wr.cell? ⟨w.heap.size,3,none⟩=some (.slice ptr (len k) acap))):=by
  intro wr hb
  refine ⟨?_,?_,?_,?_⟩
  · rw [hb.cell (p:=⟨w.heap.size,0,none⟩) (by simp)];simp [go_sem]
  · rw [hb.cell (p:=⟨w.heap.size,1,none⟩) (by simp)];simp [go_sem]
  · rw [hb.cell (p:=⟨w.heap.size,2,none⟩) (by simp)];simp [go_sem]
  · rw [hb.cell (p:=⟨w.heap.size,3,none⟩) (by simp)];simp [go_sem]
 have z0:Hid ((w.alloc (.cells #[.int .i64 op,.int .i64 num,.string name,.slice ptr (len k) acap] 25)).heap.size=w.heap.size+1):=by unfold Hid;simp
 go_enter Tryz.func90,Tryz.ntmps90
 by_cases h6:op=6
 · have b6:(op==6)=true:=by simp [h6]
   have RQ:=Lib.hid (EV.out h6)
   have NN:=Lib.hid (HN1.out h6)
   clear h6 EV EA TP
   go_wp2_with fail
   generalize w.alloc (.cells #[.int .i64 op,.int .i64 num,.string name,.slice ptr (len k) acap] 25)=w0 at *
   refine (ratt_any sc name _ hs).mono ?_
   rintro e w1 ⟨rfl,hb⟩
   have Y1:Hid (Below (w.heap.size+1) w0 w1):=by rw [← z0.out];exact hb
   have B1:Hid (Below w.heap.size w w1):=B0.out.trans (Y1.out.mono (by omega))
   obtain ⟨x0,x1,x2,x3⟩:=BX.out w1 Y1.out
   clear hb
   have FX:=Lib.hid (firstAv_ix name L)
   by_cases h0:atE sc name=0
   · have b0:(atE sc name==0)=true:=by simp [h0]
     have RZ:Hid (R=limV (atS sc name) ((firstAv name L).getD 0)):=by unfold Hid;rw [RQ.out,NR.out,if_pos h0]
     have SM:=Lib.hid (NN.out.1 h0)
     clear h0
     cases hq:avIx name L with
     | none =>
       exfalso
       have h9:=SM.out
       rw [FX.out,hq] at h9
       cases h9
     | some i =>
       obtain ⟨⟨av,ha,-⟩,-⟩:=(avIx_some name L i).1 hq
       have RY:Hid (R=limV (atS sc name) av.val):=by unfold Hid;rw [RZ.out,FX.out,hq];simp [ha]
       have AI:Hid (i64B av.val):=(HAV.out.ok av (List.mem_of_getElem? ha)).2
       obtain ⟨BA,OA,rfl,-,a1⟩:=(HAV.out.next B1.out).get ha
       have hil:i < L.length:=(List.getElem?_eq_some_iff.1 ha).1
       have hi1:(i:Int) < (L.length:Int):=by omega
       have hi0':(0:Int)≤(i:Int):=by omega
       have FQ:=Lib.hid (ravfind_any L (some ⟨BA,OA,none⟩) apc name w1 (HAV.out.next B1.out))
       rw [hq,show ixI (some i)=(i:Int) from rfl] at FQ
       clear ha hq
       go_wp2_with fail
       refine FQ.out.mono ?_
       rintro e w2 ⟨rfl,hw⟩
       subst hw
       go_wp2_with (go_at_call 136;refine (rlim_any _ _ _ AI.out).mono ?_;rintro e w' ⟨rfl,rfl⟩)
       go_ret
       exact ⟨ret_int RY.out.symm,B1.out⟩
   · have b0:(atE sc name==0)=false:=by simp [h0]
     have RZ:Hid (R=nmC cs V name):=by unfold Hid;rw [RQ.out,NR.out,if_neg h0]
     obtain ⟨j,hj,hjV⟩:=NN.out.2 h0
     clear h0
     have RY:Hid (R=V.getD j 0):=by unfold Hid;rw [RZ.out];unfold nmC;rw [hj]
     obtain ⟨g,vc,rfl,kj⟩:=ints_get (HVV.out.next B1.out) hjV
     have CQ:=Lib.hid (rcix_any cs p cs.length cap name w1 (HCS.out.next B1.out) (Nat.le_refl _))
     rw [List.take_length,hj,show ixI (some j)=(j:Int) from rfl] at CQ
     have hj1:(j:Int) < (V.length:Int):=by omega
     have hj0:(0:Int)≤(j:Int):=by omega
     generalize V.getD j 0=xj at *
     clear hj hjV
     go_wp2_with fail
     refine CQ.out.mono ?_
     rintro e w2 ⟨rfl,hw⟩
     subst hw
     go_wp2
     go_ret
     exact ⟨ret_int RY.out.symm,B1.out⟩
 · have b6:(op==6)=false:=by simp [h6]
   have RQ:=Lib.hid (EA.out h6)
   have TQ:=Lib.hid (TP.out h6)
   have H6:=Lib.hid h6
   clear h6 EV EA TP
   have WT:Hid (wfT k=true):=by have:=HW.out;rw [Bool.and_eq_true] at this;exact this.2
   go_wp2_with fail
   generalize w.alloc (.cells #[.int .i64 op,.int .i64 num,.string name,.slice ptr (len k) acap] 25)=w0 at *
   go_loopw [13,14] (fun v i wr=>∃ (vx:Value) (j:Nat) (r:Fo) (D:List Int),vx=v∧i=.int .i64 j∧w.heap.size < wr.heap.size ∧
    Hid (j+len r=len k∧FoAt wr r b (o+j * 4)∧FoOk r∧AllT RvC r∧wfT r=true∧sz r≤200∧D.length=j∧wr.ownsRow (w.heap.size+1) 3 1 vx j (intV D) ∧
     Below (w.heap.size+1) w0 wr∧D++evF (nmR sc L cs V) r=evF (nmR sc L cs V) k∧FoLt w.heap.size r b∧(tyF look sc r).1=0∧NamF (NQ sc L cs V) r)) (fun _ i _=>len k - (intOf i).toNat)
   case atStart =>
    refine ⟨_,0,k,[],rfl,rfl,by rw [z0.out];omega,by omega,?_,HOK.out.2,IH.out,WT.out,HZ.out,rfl,World.ownsRow_nil _ _ _ _,Below.refl _ _,rfl,HX.out.2.lt,TQ.out.1,HN2.out⟩
    rw [Nat.zero_mul,Nat.add_zero];exact HX.out.2.next B0.out
   case round =>
    obtain ⟨vx,j,r,D,rfl,rfl,hsz,HR⟩:=hrel
    have BW:Hid (Below w.heap.size w wr):=B0.out.trans (HR.out.2.2.2.2.2.2.2.2.1.mono (by omega))
    obtain ⟨x0,x1,x2,x3⟩:=BX.out wr HR.out.2.2.2.2.2.2.2.2.1
    cases r with
    | nil =>
      have hj:¬ (j:Int) < (len k:Int):=by have:=HR.out.1;simp [len] at this;omega
      have DE:Hid (D=evF (nmR sc L cs V) k):=by
       have h9:=HR.out.2.2.2.2.2.2.2.2.2.1
       unfold Hid;rw [← h9];simp [evF]
      have IT:=Lib.hid (ints_of_own HR.out.2.2.2.2.2.2.2.1)
      have VO:=Lib.hid (evF_ok look sc (nmR sc L cs V) HNM.out k TQ.out.1 WT.out)
      have LF:=Lib.hid (tyF_len look sc k TQ.out.1)
      have LE:=Lib.hid (evF_len (nmR sc L cs V) k)
      have AP:Hid (ApC op num vx D wr):=by
       have hb:=hw1.out
       rw [DE.out] at IT
       unfold Hid
       rw [DE.out]
       by_cases h7:7≤op
       · exact rapply_any op num vx _ wr IT.out (by rw [LE.out];omega) hb.1 hb.2.1 H6.out (by rw [LE.out];exact hb.2.2) (bool_args op (len k) _ _ VO.out (by rw [LF.out]) ⟨h7,hb.2.1⟩ hb.2.2 TQ.out.2.1) (evF_i64 _ NI.out k HOK.out.2)
       · exact rapply_any op num vx _ wr IT.out (by rw [LE.out];omega) hb.1 hb.2.1 H6.out (by rw [LE.out];exact hb.2.2) ⟨fun e=>by omega,fun e=>by omega,fun e=>by omega⟩ (evF_i64 _ NI.out k HOK.out.2)
      have AQ:Hid (Calls Tryz.prog 88 #[.int .i64 op,.int .i64 num,vx] wr fun e w'=>e=.returned (.int .i64 R)∧Below wr.heap.size wr w'):=by
       have h9:=AP.out
       unfold ApC at h9
       rw [DE.out,← RQ.out] at h9
       exact h9
      clear AP
      go_wp2_with fail
      refine AQ.out.mono ?_
      rintro e w2 ⟨rfl,hb⟩
      have B2:=Lib.hid (BW.out.trans (hb.mono BW.out.size))
      clear hb
      go_wp2
      go_ret
      exact ⟨rfl,B2.out⟩
    | node b1 o1 a1 k1 r1 =>
      have hj:j < len k:=by have:=HR.out.1;simp [len] at this;omega
      obtain rfl:ptr=some ⟨b,o,none⟩:=HX.out.1 (by rintro rfl;simp [len] at hj)
      obtain ⟨⟨c0,c1,c2,c3⟩,hp1,hk1,hr1⟩:=HR.out.2.1
      have X1:Hid (ExAt wr b1 o1 a1 k1):=⟨hp1,hk1⟩
      have N1:=Lib.hid hr1
      clear hp1 hk1 hr1
      have hj1:(j:Int) < (len k:Int):=by omega
      have hj0:(0:Int)≤(j:Int):=by omega
      have W1:Hid ((wfB a1 (len k1) && wfT k1)=true∧wfT r1=true):=by
       have h:((wfB a1 (len k1) && wfT k1) && wfT r1)=true:=HR.out.2.2.2.2.1
       rw [Bool.and_eq_true] at h;exact h
      have Z1:Hid (sz k1≤200∧sz r1≤200):=by
       have e1:sz (BT.node b1 o1 a1 k1 r1)=1+sz k1+sz r1:=rfl
       have:=HR.out.2.2.2.2.2.1
       rw [e1] at this
       exact ⟨by omega,by omega⟩
      obtain ⟨q1,-,q3,q4,-,-,q7,q8,q9,q10,q11,q12,q13⟩:=HR.out
      obtain ⟨t1,t2,-⟩:=ty_row look sc b1 o1 a1 k1 r1 q12
      have C:=Lib.hid (q4.1 wr cs p cap V vv sc L ap apc look X1.out ⟨q3.1,q3.2.1⟩ W1.out.1 Z1.out.1 (HCS.out.next BW.out) (HVV.out.next BW.out) (HAV.out.next BW.out) HV.out hVl t1 HNM.out q13.1.1 q13.1.2)
      have T2:=Lib.hid t2
      have ST:Hid ((D++[ev1 (nmR sc L cs V) a1 (evF (nmR sc L cs V) k1)])++evF (nmR sc L cs V) r1=evF (nmR sc L cs V) k):=by
       unfold Hid;rw [← q10];simp [evF]
      clear q1 q3 q4 q7 q8 q9 q10 q11 q12 q13 t1 t2
      generalize ev1 (nmR sc L cs V) a1 (evF (nmR sc L cs V) k1)=y1 at *
      go_wp2_with fail
      refine C.out.mono ?_
      rintro e w1 ⟨rfl,hb⟩
      have B1:=Lib.hid hb
      have hz1:w.heap.size < w1.heap.size:=Nat.lt_of_lt_of_le hsz hb.size
      clear hb c0 c1 c2 c3 x0 x1 x2 x3
      have OW:=Lib.hid (own_below HR.out.2.2.2.2.2.2.2.1 B1.out)
      go_wp2_with (at_builtin;refine wpList_append_own _ rfl _ _ 33 rfl (w.heap.size+1) 3 i0 (.int .i64 0) 1 8 Tryz.underlying33 hi hi0 hi1 hi2 rfl (by decide) _ _ _ rfl (OW.out.alloc _) ⟨w1.heap.size,0,none⟩ 1 1 [.int .i64 y1] rfl rfl ?c1 ?c2 ?c3 ?c4 ?c5 ?_)
      case c1=>intro q u hu;cases q with
       | zero=>simp at hu;subst hu;simp [Addr.add]
       | succ q=>simp at hu
      case c2=>intro u hu;simp at hu;subst hu;rfl
      case c3=>unfold maxLen;omega
      case c4=>omega
      case c5=>simp;omega
      intro v' w2 hown hgrow hnil
      have B2:Hid (Below (w.heap.size+1) w0 w2):=by
       have q:=(HR.out.2.2.2.2.2.2.2.2.1.trans (B1.out.mono (by omega))).alloc (by omega) (.cells #[.int .i64 y1] 3)
       exact q.grown hgrow (by simp;omega) (fun m hm=>(OW.out.lt m hm).1)
      have N2:Hid (FoAt w2 r1 b (o+j * 4+4)):=by
       have q:FoAt (w1.alloc (.cells #[.int .i64 y1] 3)) r1 b (o+j * 4+4):=(N1.out.next B1.out).next ((Below.refl _ _).alloc (Nat.le_refl _) _)
       have hl:FoLt (w.heap.size+1) r1 b:=HR.out.2.2.2.2.2.2.2.2.2.2.1.2.2.mono (by omega)
       refine q.below hl ⟨hgrow.os,hgrow.tape,hgrow.output,hgrow.size,fun m hm=>hgrow.block m (by simp;omega) (fun e=>?_)⟩
       have:=(OW.out.lt m e.symm).1
       omega
      have OW2:Hid (w2.ownsRow (w.heap.size+1) 3 1 v' (j+1) (intV (D++[y1]))):=by
       have:intV D++[Value.int .i64 y1]=intV (D++[y1]):=by simp [intV]
       rw [this] at hown;exact hown
      have hz2':w.heap.size < w2.heap.size:=by have:=hgrow.size;simp at this;omega
      clear hown hgrow hnil
      go_wp2
      go_roundw
      case rel =>
       obtain ⟨q1,-,q3,q4,-,-,q7,-,-,-,q11,-,q13⟩:=HR.out
       simp [len] at q1
       refine ⟨_,j+1,r1,D++[y1],rfl,by go_num,hz2',by omega,?_,q3.2.2,q4.2,W1.out.2,Z1.out.2,by simp [q7],OW2.out,B2.out,ST.out,q11.2.2,T2.out,q13.2⟩
       rw [Nat.add_mul,Nat.one_mul,← Nat.add_assoc];exact N2.out
      case measure=>simp [intOf];omega
end
section
set_option linter.unusedVariables false
set_option linter.unusedSimpArgs false
open Go.RowKit
open Go.Deep (BT)
theorem look_take (cs:List Cn) (j i:Nat) (hij:i≤j) (ih:∀ m,m < i→rowT (cs.take j) m=rowT cs m):lookT (cs.take j) (tabN (cs.take j) i)=lookT cs (tabN cs i):=by
 funext s
 rw [lookT_tab,lookT_tab,firstIx_take]
 cases firstIx s cs with
 | none=>rfl
 | some m =>
   by_cases hm:m < j
   · simp only [if_pos hm]
     by_cases hmi:m < i
     · simp only [if_pos hmi];exact ih m hmi
     · simp only [if_neg hmi]
   · have hmi:¬ m < i:=by omega
     simp only [if_neg hm,if_neg hmi]
theorem row_take (cs:List Cn) (j i:Nat) (h:i < j):rowT (cs.take j) i=rowT cs i:=by
 induction i using Nat.strongRecOn with
 | _ i ih =>
   have ht:(cs.take j)[i]?=cs[i]?:=List.getElem?_take_of_lt h
   cases hc:cs[i]? with
   | none =>
     unfold rowT
     rw [tabN,tabN,ht,hc,List.getD_eq_getElem?_getD,List.getD_eq_getElem?_getD,List.getElem?_append_right (by rw [tabN_len];omega),List.getElem?_append_right (by rw [tabN_len];omega),tabN_len,tabN_len]
   | some c =>
     rw [rowT_eq cs i c hc,rowT_eq (cs.take j) i c (by rw [ht];exact hc)]
     unfold oneT
     rw [look_take cs j i (by omega) (fun m hm=>ih m hm (by omega))]
theorem type_take (cs:List Cn) (j:Nat) (c:Cn) (h:cs[j]?=some c):typeOfT (cs.take j) 0 c.a c.k=rowT cs j:=by
 have hl:(cs.take j).length=j:=by
  rw [List.length_take]
  have:=(List.getElem?_eq_some_iff.1 h).1
  omega
 rw [rowT_eq cs j c h]
 unfold typeOfT oneT
 rw [hl,look_take cs j j (Nat.le_refl _) (fun m hm=>row_take cs j m hm)]
theorem row_typed (cs:List Cn) (j:Nat) (c:Cn) (h:cs[j]?=some c) (ht:(rowT cs j).2=0):valE c.a c.k=0∧(tyT (lookT cs (tabN cs j)) 0 c.a c.k).2=0:=by
 rw [rowT_eq cs j c h] at ht
 unfold oneT at ht
 by_cases hv:valE c.a c.k=0
 · rw [if_pos hv] at ht;exact ⟨hv,ht⟩
 · rw [if_neg hv] at ht;exact absurd ht hv
theorem nmR_erl (cs:List Cn) (j:Nat) (s:ByteArray) (h:ErlQ cs 0 j s):∃ i,i < j∧firstIx s cs=some i∧(rowT cs i).2=0∧NQ 0 [] (cs.take j) (cvN cs j) s∧nmR 0 [] (cs.take j) (cvN cs j) s=cval cs i:=by
 rcases h with h|⟨i,hi,hij,hit⟩
 · rw [at0] at h;cases h
 · have hf:firstIx s (cs.take j)=some i:=by rw [firstIx_take,hi];simp [hij]
   refine ⟨i,hij,hi,hit,⟨fun e=>(by rw [at0] at e;cases e),fun _=>⟨i,hf,(by rw [cvN_len];exact hij)⟩⟩,?_⟩
   unfold nmR nmC
   rw [if_neg (by rw [at0];decide),hf]
   exact cvN_get cs j i hij
theorem row_names (cs:List Cn) (j:Nat) (c:Cn) (h:cs[j]?=some c) (ht:(rowT cs j).2=0):(c.a.op=6→NQ 0 [] (cs.take j) (cvN cs j) c.a.name)∧NamF (NQ 0 [] (cs.take j) (cvN cs j)) c.k:=by
 obtain ⟨hv,hty⟩:=row_typed cs j c h ht
 obtain ⟨n1,n2⟩:=names_expr cs 0 j c.a c.k hty (val_ok c.a c.k hv).1
 exact ⟨fun h6=>by obtain ⟨i,-,-,-,q,-⟩:=nmR_erl cs j _ (n1 h6);exact q,namF_mono n2 (fun s hs=>by obtain ⟨i,-,-,-,q,-⟩:=nmR_erl cs j s hs;exact q)⟩
theorem row_nmok (cs:List Cn) (j:Nat):NmOk (lookT cs (tabN cs j)) 0 (nmR 0 [] (cs.take j) (cvN cs j)):=by
 intro s hs
 obtain ⟨i,hij,hi,hit,-,e⟩:=nmR_erl cs j s (name_erl cs 0 j s hs)
 rw [e]
 have q:nameT (lookT cs (tabN cs j)) 0 s=rowT cs i:=by
  show lookT cs (tabN cs j) s=_
  rw [lookT_tab,hi]
  simp [hij]
 rw [q]
 exact cval_ok cs i hit
theorem row_val (cs:List Cn) (j:Nat) (c:Cn) (h:cs[j]?=some c) (ht:(rowT cs j).2=0):ev1 (nmR 0 [] (cs.take j) (cvN cs j)) c.a (evF (nmR 0 [] (cs.take j) (cvN cs j)) c.k)=cval cs j:=by
 obtain ⟨hv,hty⟩:=row_typed cs j c h ht
 obtain ⟨n1,n2⟩:=names_expr cs 0 j c.a c.k hty (val_ok c.a c.k hv).1
 rw [cval_eq cs j c h ht]
 have key:∀ s,ErlQ cs 0 j s→nmR 0 [] (cs.take j) (cvN cs j) s=nmC cs (cvN cs j) s:=by
  intro s hs
  obtain ⟨i,hij,hi,-,-,e⟩:=nmR_erl cs j s hs
  rw [e]
  unfold nmC
  rw [hi]
  exact (cvN_get cs j i hij).symm
 exact ev1_congr c.a c.k (fun h6=>key _ (n1 h6)) (namF_mono n2 key)
theorem cvN_step (cs:List Cn) (j:Nat) (c:Cn) (h:cs[j]?=some c):cvN cs (j+1)=cvN cs j++[if (rowT cs j).2=0 then cval cs j else 0]:=by
 rw [cvN,h]
 by_cases ht:(rowT cs j).2=0
 · simp only [if_pos ht];rw [cval_eq cs j c h ht]
 · simp only [if_neg ht]
theorem cvN_i64 (cs:List Cn) (hok:CsOk cs) (n:Nat):∀ x ∈ cvN cs n,i64B x:=by
 intro x hx
 obtain ⟨i,hi⟩:=List.getElem?_of_mem hx
 have hl:=(List.getElem?_eq_some_iff.1 hi).1
 rw [cvN_len] at hl
 have h9:=cvN_get cs n i hl
 rw [List.getD_eq_getElem?_getD,hi] at h9
 rw [show x=cval cs i from h9]
 exact cval_i64 cs hok i
theorem CsAt.take {w:World} {cs:List Cn} {B O:Nat} (h:CsAt w cs B O) (j:Nat):CsAt w (cs.take j) B O:=by
 induction cs generalizing O j with
 | nil=>simp;trivial
 | cons c cs ih =>
   cases j with
   | zero=>trivial
   | succ j=>exact ⟨h.1,h.2.1,ih h.2.2 j⟩
theorem CsV.take {w:World} {cs:List Cn} {p:Option Addr} (h:CsV w cs p) (j:Nat):CsV w (cs.take j) p:=by
 obtain ⟨⟨B,O,h1,h2⟩,h3,h4⟩:=h
 refine ⟨⟨B,O,fun q=>h1 (by rintro rfl;simp at q),h2.take j⟩,fun c hc=>h3 c (List.mem_of_mem_take hc),?_⟩
 rw [List.length_take];omega
end
section
set_option linter.unusedVariables false
set_option linter.unusedSimpArgs false
open Go.ChangeShapes Go.WideShapes Go.ChangeAt Go.RowKit
open Go.Deep (BT)
theorem av_nil (w:World):AvV w [] none:=⟨⟨0,0,fun q=>absurd rfl q,trivial⟩,(fun c hc=>by cases hc),Nat.zero_le _⟩
theorem type_take_any (cs:List Cn) (p:Option Addr) (cap j:Nat) (c:Cn) (w:World) (hcs:CsV w cs p) (hcap:cs.length≤cap) (hc:cs[j]?=some c) (hx:ExAt w c.b c.o c.a c.k) :
 Calls Tryz.prog 48 #[.slice p j cap,.int .i64 0,.agg #[.int .i64 c.a.op,.int .i64 c.a.num,.string c.a.name,.slice c.a.ptr (len c.k) c.a.cap]] w
  fun e w'=>e=.returned (.tuple #[.int .i64 (rowT cs j).1,.int .i64 (rowT cs j).2])∧Below w.heap.size w w':=by
 have hj:=(List.getElem?_eq_some_iff.1 hc).1
 have hl:(cs.take j).length=j:=by rw [List.length_take];omega
 have q:=rtypeof_any (cs.take j) p cap 0 c.b c.o c.a.op c.a.num c.a.name c.a.ptr c.a.cap c.k w (hcs.take j) (by omega) hx (hcs.ok c (List.mem_of_getElem? hc)).2
 rw [hl,type_take cs j c hc] at q
 exact q
theorem value_take_any (cs:List Cn) (p:Option Addr) (cap j:Nat) (c:Cn) (vv:Value) (w:World) (hcs:CsV w cs p) (hc:cs[j]?=some c) (hx:ExAt w c.b c.o c.a c.k) (ht:(rowT cs j).2=0) (hv:IntsAt w vv (cvN cs j)) :
 Calls Tryz.prog 90 #[vv,.slice p j cap,.int .i64 0,.slice none 0 0,.agg #[.int .i64 c.a.op,.int .i64 c.a.num,.string c.a.name,.slice c.a.ptr (len c.k) c.a.cap]] w
  fun e w'=>e=.returned (.int .i64 (cval cs j))∧Below w.heap.size w w':=by
 have hj:=(List.getElem?_eq_some_iff.1 hc).1
 have hsm:=hcs.small
 have hl:(cs.take j).length=j:=by rw [List.length_take];omega
 obtain ⟨h1,h2⟩:=row_typed cs j c hc ht
 obtain ⟨n1,n2⟩:=row_names cs j c hc ht
 have q:=rvalue_any c.b c.o c.a c.k w (cs.take j) p cap (cvN cs j) vv 0 [] none 0 (lookT cs (tabN cs j)) hx (hcs.ok c (List.mem_of_getElem? hc)).2 (val_ok c.a c.k h1).1 (val_ok c.a c.k h1).2 (hcs.take j) hv (av_nil w) (cvN_i64 cs hcs.ok j) (by rw [cvN_len];omega) h2 (row_nmok cs j) n1 n2
 rw [hl,row_val cs j c hc ht] at q
 exact q
set_option maxHeartbeats 2000000 in
set_option maxRecDepth 100000 in
theorem rconsts_any (cs:List Cn) (p:Option Addr) (cap:Nat) (w:World) (hcs:CsV w cs p) (hcap:cs.length≤cap) :
 Calls Tryz.prog 50 #[.slice p cs.length cap] w fun e w'=>∃ vv,e=.returned vv∧IntsAt w' vv (cvN cs cs.length)∧Below w.heap.size w w':=by
 have HCS:=Lib.hid hcs
 have hsm:=hcs.small
 obtain ⟨i0,hi,hi0,hi1,hi2⟩:=info_parts Tryz.infoI
 clear hcs
 go_enter Tryz.func50,Tryz.ntmps50
 go_wp2_with fail
 go_loopw [3,4] (fun v i wr=>∃ (vx:Value) (j:Nat),vx=v∧i=.int .i64 j∧j≤cs.length∧w.heap.size≤wr.heap.size∧Hid (wr.ownsRow w.heap.size 3 1 vx j (intV (cvN cs j))∧Below w.heap.size w wr)) (fun _ i _=>cs.length - (intOf i).toNat)
 case atStart=>exact ⟨_,0,rfl,rfl,by omega,Nat.le_refl _,World.ownsRow_nil _ _ _ _,Below.refl _ _⟩
 case round =>
  obtain ⟨vx,j,rfl,rfl,hj,hsz,HR⟩:=hrel
  by_cases hlt:j < cs.length
  · obtain ⟨c,hc⟩:∃ c,cs[j]?=some c:=⟨_,List.getElem?_eq_getElem hlt⟩
    obtain ⟨B,O,rfl,⟨c0,c1,c2,c3,c4⟩,hx⟩:=(HCS.out.next HR.out.2).get hc
    have X1:=Lib.hid hx
    have HC:=Lib.hid hc
    have ST:=Lib.hid (cvN_step cs j c hc)
    clear hc hx
    have hj1:(j:Int) < (cs.length:Int):=by omega
    have hj0:(0:Int)≤(j:Int):=by omega
    have hjc:(j:Int)≤(cap:Int):=by omega
    have hjc2:j≤cap:=by omega
    have C:Hid (∀ dq os,Calls Tryz.prog 48 #[.slice (some ⟨B,O,none⟩) j cap,.int .i64 0,.agg #[.int .i64 c.a.op,.int .i64 c.a.num,.string c.a.name,.slice c.a.ptr (len c.k) c.a.cap]] (Sort.grow (redrawn wr dq) os)
     fun e w''=>e=.returned (.tuple #[.int .i64 (rowT cs j).1,.int .i64 (rowT cs j).2])∧∃ p:Regrown,w''=Sort.grow (redrawn wr p.d) p.os):=by
     intro dq os
     have hb:=below_regrown wr dq os
     have hbw:=HR.out.2.trans (hb.mono HR.out.2.size)
     exact Calls.regrown_of (type_take_any cs _ cap j c _ (HCS.out.next hbw) hcap HC.out (X1.out.next hb))
    have TQ:Hid (∀ w' vv,CsV w' cs (some ⟨B,O,none⟩)→ExAt w' c.b c.o c.a c.k→(rowT cs j).2=0→IntsAt w' vv (cvN cs j)→Calls Tryz.prog 90 #[vv,.slice (some ⟨B,O,none⟩) j cap,.int .i64 0,.slice none 0 0,.agg #[.int .i64 c.a.op,.int .i64 c.a.num,.string c.a.name,.slice c.a.ptr (len c.k) c.a.cap]] w'
     fun e w''=>e=.returned (.int .i64 (cval cs j))∧Below w'.heap.size w' w''):=fun w' vv h1 h2 h3 h4=>value_take_any cs _ cap j c vv w' h1 HC.out h2 h3 h4
    generalize rowT cs j=t1 at *
    obtain ⟨y1,y2⟩:=t1
    dsimp only at C ST TQ
    have e0:=fun d os=>cell_regrown c0 d os
    have e1:=fun d os=>cell_regrown c1 d os
    have e2:=fun d os=>cell_regrown c2 d os
    have e3:=fun d os=>cell_regrown c3 d os
    have e4:=fun d os=>cell_regrown c4 d os
    go_upto_region 6 with (fail)
    refine wp_region_quiet_below (by kernel_rfl) (by kernel_rfl) ?_
    repeat (quiet_step (with_reducible exact C.out _ _))
    refine wpQuiet_nil ?_
    intro _ hw'
    obtain ⟨⟨dq,osq⟩,hw''⟩:=hw'
    subst hw''
    have hb:=below_regrown wr dq osq
    clear e0 e1 e2 e3 e4 C
    generalize Sort.grow (redrawn wr dq) osq=w1 at *
    have B1:=Lib.hid hb
    have hz1:w.heap.size≤w1.heap.size:=Nat.le_trans hsz hb.size
    have OW:=Lib.hid (own_below HR.out.1 hb)
    have BW:Hid (Below w.heap.size w w1):=HR.out.2.trans (hb.mono HR.out.2.size)
    have k0:w1.cell? ⟨B,O+j * 5,none⟩=some (.string c.name):=by rw [hb.cell (block_lt_of_cell c0)];exact c0
    have k1:w1.cell? ⟨B,O+j * 5+1,none⟩=some (.int .i64 c.a.op):=by rw [hb.cell (block_lt_of_cell c1)];exact c1
    have k2:w1.cell? ⟨B,O+j * 5+2,none⟩=some (.int .i64 c.a.num):=by rw [hb.cell (block_lt_of_cell c2)];exact c2
    have k3:w1.cell? ⟨B,O+j * 5+3,none⟩=some (.string c.a.name):=by rw [hb.cell (block_lt_of_cell c3)];exact c3
    have k4:w1.cell? ⟨B,O+j * 5+4,none⟩=some (.slice c.a.ptr (len c.k) c.a.cap):=by rw [hb.cell (block_lt_of_cell c4)];exact c4
    clear hb c0 c1 c2 c3 c4
    by_cases h0:y2=0
    · have b0:(y2==0)=true:=by simp [h0]
      have S1:Hid (cvN cs (j+1)=cvN cs j++[cval cs j]):=by unfold Hid;rw [ST.out,if_pos h0]
      have C2:Hid (∀ dq os,Calls Tryz.prog 90 #[vx,.slice (some ⟨B,O,none⟩) j cap,.int .i64 0,.slice none 0 0,.agg #[.int .i64 c.a.op,.int .i64 c.a.num,.string c.a.name,.slice c.a.ptr (len c.k) c.a.cap]] (Sort.grow (redrawn w1 dq) os)
       fun e w''=>e=.returned (.int .i64 (cval cs j))∧∃ p:Regrown,w''=Sort.grow (redrawn w1 p.d) p.os):=by
       intro dq os
       have hb:=below_regrown w1 dq os
       have hbw:=BW.out.trans (hb.mono BW.out.size)
       exact Calls.regrown_of (TQ.out _ vx (HCS.out.next hbw) ((X1.out.next B1.out).next hb) h0 ((ints_of_own OW.out).next hb))
      clear h0 ST TQ
      generalize cval cs j=x1 at *
      have e0:=fun d os=>cell_regrown k0 d os
      have e1:=fun d os=>cell_regrown k1 d os
      have e2:=fun d os=>cell_regrown k2 d os
      have e3:=fun d os=>cell_regrown k3 d os
      have e4:=fun d os=>cell_regrown k4 d os
      go_upto_region 8 with (fail)
      refine wp_region_quiet_below (by kernel_rfl) (by kernel_rfl) ?_
      repeat (quiet_step (with_reducible exact C2.out _ _))
      refine wpQuiet_nil ?_
      intro _ hw'
      obtain ⟨⟨dq2,osq2⟩,hw''⟩:=hw'
      subst hw''
      have hb:=below_regrown w1 dq2 osq2
      clear e0 e1 e2 e3 e4 C2 k0 k1 k2 k3 k4
      generalize Sort.grow (redrawn w1 dq2) osq2=w2 at *
      have hz2:w.heap.size≤w2.heap.size:=Nat.le_trans hz1 hb.size
      have OW2:=Lib.hid (own_below OW.out hb)
      have BW2:Hid (Below w.heap.size w w2):=BW.out.trans (hb.mono BW.out.size)
      clear hb
      go_wp2_with (at_builtin;refine wpList_append_own _ rfl _ _ 33 rfl w.heap.size 3 i0 (.int .i64 0) 1 8 Tryz.underlying33 hi hi0 hi1 hi2 rfl (by decide) _ _ _ rfl (OW2.out.alloc _) ⟨w2.heap.size,0,none⟩ 1 1 [.int .i64 x1] rfl rfl ?c1 ?c2 ?c3 ?c4 ?c5 ?_)
      case c1=>intro q u hu;cases q with
       | zero=>simp at hu;subst hu;simp [Addr.add]
       | succ q=>simp at hu
      case c2=>intro u hu;simp at hu;subst hu;rfl
      case c3=>unfold maxLen;omega
      case c4=>omega
      case c5=>simp;omega
      intro v' w3 hown hgrow hnil
      have B3:Hid (Below w.heap.size w w3):=(BW2.out.alloc (by omega) (.cells #[.int .i64 x1] 3)).grown hgrow (by simp;omega) (fun m hm=>(OW2.out.lt m hm).1)
      have OW3:Hid (w3.ownsRow w.heap.size 3 1 v' (j+1) (intV (cvN cs (j+1)))):=by
       have h9:intV (cvN cs j)++[Value.int .i64 x1]=intV (cvN cs (j+1)):=by rw [S1.out];simp [intV]
       rw [h9] at hown;exact hown
      have hz3:w.heap.size≤w3.heap.size:=B3.out.size
      clear hown hgrow hnil
      go_wp2
      go_roundw
      case rel=>exact ⟨_,j+1,rfl,by go_num,by omega,hz3,OW3.out,B3.out⟩
      case measure=>simp [intOf];omega
    · have b0:(y2==0)=false:=by simp [h0]
      have S1:Hid (cvN cs (j+1)=cvN cs j++[0]):=by unfold Hid;rw [ST.out,if_neg h0]
      clear h0 ST TQ k0 k1 k2 k3 k4
      go_wp2_with (at_builtin;refine wpList_append_own _ rfl _ _ 33 rfl w.heap.size 3 i0 (.int .i64 0) 1 8 Tryz.underlying33 hi hi0 hi1 hi2 rfl (by decide) _ _ _ rfl (OW.out.alloc _) ⟨w1.heap.size,0,none⟩ 1 1 [.int .i64 0] rfl rfl ?c1 ?c2 ?c3 ?c4 ?c5 ?_)
      case c1=>intro q u hu;cases q with
       | zero=>simp at hu;subst hu;simp [Addr.add]
       | succ q=>simp at hu
      case c2=>intro u hu;simp at hu;subst hu;rfl
      case c3=>unfold maxLen;omega
      case c4=>omega
      case c5=>simp;omega
      intro v' w3 hown hgrow hnil
      have B3:Hid (Below w.heap.size w w3):=(BW.out.alloc (by omega) (.cells #[.int .i64 0] 3)).grown hgrow (by simp;omega) (fun m hm=>(OW.out.lt m hm).1)
      have OW3:Hid (w3.ownsRow w.heap.size 3 1 v' (j+1) (intV (cvN cs (j+1)))):=by
       have h9:intV (cvN cs j)++[Value.int .i64 0]=intV (cvN cs (j+1)):=by rw [S1.out];simp [intV]
       rw [h9] at hown;exact hown
      have hz3:w.heap.size≤w3.heap.size:=B3.out.size
      clear hown hgrow hnil
      go_wp2
      go_roundw
      case rel=>exact ⟨_,j+1,rfl,by go_num,by omega,hz3,OW3.out,B3.out⟩
      case measure=>simp [intOf];omega
  · have hj1:¬ (j:Int) < (cs.length:Int):=by omega
    obtain rfl:j=cs.length:=by omega
    have IT:=Lib.hid (ints_of_own HR.out.1)
    go_wp2
    go_ret
    exact ⟨_,rfl,IT.out,HR.out.2⟩
end
section
set_option linter.unusedVariables false
set_option linter.unusedSimpArgs false
open Go.ChangeShapes Go.WideShapes Go.ChangeAt Go.RowKit
open Go.Deep (BT)
end
end
end Go.Proofs.YtfoedbfkddoibaaGreat
