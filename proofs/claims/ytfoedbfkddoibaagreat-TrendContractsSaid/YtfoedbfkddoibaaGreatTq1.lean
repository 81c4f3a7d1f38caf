import Derived.Test.YtfoedbfkddoibaaGreatTp1
import Derived.Deep.QuietTactic
import Derived.BigQuiet
import Derived.Deep.RegionHeld3
namespace Go.Proofs.YtfoedbfkddoibaaGreat
section
set_option linter.unusedVariables false
set_option linter.unusedSimpArgs false
open Go.ChangeShapes Go.WideShapes Go.ChangeAt Go.RowKit
open Go.Deep (BT)
theorem tknown_any (a:Int) (w:World):Calls Tryz.prog 60 #[.int .i64 a] w fun e w'=>e=.returned (.int .i64 (kn a))∧w=w':=by
 by_cases h:a < 0
 · have e:Hid (kn a=3):=by unfold Hid kn;rw [if_pos (.inl h)]
   go_enter Tryz.func60,Tryz.ntmps60
   go_wp2
   go_ret
   exact ⟨ret_int e.out.symm,rfl⟩
 · by_cases h2:3 < a
   · have e:Hid (kn a=3):=by unfold Hid kn;rw [if_pos (.inr h2)]
     go_enter Tryz.func60,Tryz.ntmps60
     go_wp2
     go_ret
     exact ⟨ret_int e.out.symm,rfl⟩
   · have e:Hid (kn a=a):=by unfold Hid kn;rw [if_neg (by omega)]
     go_enter Tryz.func60,Tryz.ntmps60
     go_wp2
     go_ret
     exact ⟨ret_int e.out.symm,rfl⟩
theorem rtrend_any (a:Int) (w:World):Calls Tryz.prog 65 #[.int .i64 a] w fun e w'=>e=.returned (.int .i64 (kn a))∧w=w':=by
 by_cases h:a < 0
 · have e:Hid (kn a=3):=by unfold Hid kn;rw [if_pos (.inl h)]
   go_enter Tryz.func65,Tryz.ntmps65
   go_wp2
   go_ret
   exact ⟨ret_int e.out.symm,rfl⟩
 · by_cases h2:3 < a
   · have e:Hid (kn a=3):=by unfold Hid kn;rw [if_pos (.inr h2)]
     go_enter Tryz.func65,Tryz.ntmps65
     go_wp2
     go_ret
     exact ⟨ret_int e.out.symm,rfl⟩
   · have e:Hid (kn a=a):=by unfold Hid kn;rw [if_neg (by omega)]
     go_enter Tryz.func65,Tryz.ntmps65
     go_wp2
     go_ret
     exact ⟨ret_int e.out.symm,rfl⟩
theorem tcomb_any (a b:Int) (w:World):Calls Tryz.prog 30 #[.int .i64 a,.int .i64 b] w fun e w'=>e=.returned (.int .i64 (cbE a b))∧w=w':=by
 have KA:=Lib.hid (fun w=>tknown_any a w)
 have KB:=Lib.hid (fun w=>tknown_any b w)
 have V:Hid (cbE a b=if kn a=0 then kn b else if kn b=0∨kn a=kn b then kn a else 3):=rfl
 obtain ⟨R,hR⟩:∃ R,cbE a b=R:=⟨_,rfl⟩
 rw [hR] at V ⊢
 clear hR
 generalize kn a=x at *
 generalize kn b=y at *
 by_cases h:x=0
 · have e:Hid (R=y):=by unfold Hid;rw [V.out,if_pos h]
   clear V
   subst h
   go_enter Tryz.func30,Tryz.ntmps30
   go_wp2_with (first|(go_at_call 60;(with_reducible refine (KA.out _).mono ?_);rintro e w' ⟨rfl,hw⟩;subst hw)|(go_at_call 60;(with_reducible refine (KB.out _).mono ?_);rintro e w' ⟨rfl,hw⟩;subst hw))
   go_ret
   exact ⟨ret_int e.out.symm,rfl⟩
 · have b1:(x==0)=false:=beq_eq_false_iff_ne.2 h
   by_cases h2:y=0
   · have e:Hid (R=x):=by unfold Hid;rw [V.out,if_neg h,if_pos (.inl h2)]
     clear V h
     subst h2
     go_enter Tryz.func30,Tryz.ntmps30
     go_wp2_with (first|(go_at_call 60;(with_reducible refine (KA.out _).mono ?_);rintro e w' ⟨rfl,hw⟩;subst hw)|(go_at_call 60;(with_reducible refine (KB.out _).mono ?_);rintro e w' ⟨rfl,hw⟩;subst hw))
     go_ret
     exact ⟨ret_int e.out.symm,rfl⟩
   · have b2:(y==0)=false:=beq_eq_false_iff_ne.2 h2
     by_cases h3:x=y
     · have e:Hid (R=x):=by unfold Hid;rw [V.out,if_neg h,if_pos (.inr h3)]
       clear V h h2
       subst h3
       go_enter Tryz.func30,Tryz.ntmps30
       go_wp2_with (first|(go_at_call 60;(with_reducible refine (KA.out _).mono ?_);rintro e w' ⟨rfl,hw⟩;subst hw)|(go_at_call 60;(with_reducible refine (KB.out _).mono ?_);rintro e w' ⟨rfl,hw⟩;subst hw))
       go_ret
       exact ⟨ret_int e.out.symm,rfl⟩
     · have e:Hid (R=3):=by unfold Hid;rw [V.out,if_neg h,if_neg (by omega)]
       have b3:(x==y)=false:=beq_eq_false_iff_ne.2 h3
       clear V h h2 h3
       go_enter Tryz.func30,Tryz.ntmps30
       go_wp2_with (first|(go_at_call 60;(with_reducible refine (KA.out _).mono ?_);rintro e w' ⟨rfl,hw⟩;subst hw)|(go_at_call 60;(with_reducible refine (KB.out _).mono ?_);rintro e w' ⟨rfl,hw⟩;subst hw))
       go_ret
       exact ⟨ret_int e.out.symm,rfl⟩
theorem rcomb_any (a b:Int) (w:World):Calls Tryz.prog 33 #[.int .i64 a,.int .i64 b] w fun e w'=>e=.returned (.int .i64 (cbE a b))∧w=w':=by
 have KA:=Lib.hid (fun w=>rtrend_any a w)
 have KB:=Lib.hid (fun w=>rtrend_any b w)
 have V:Hid (cbE a b=if kn a=0 then kn b else if kn b=0∨kn a=kn b then kn a else 3):=rfl
 obtain ⟨R,hR⟩:∃ R,cbE a b=R:=⟨_,rfl⟩
 rw [hR] at V ⊢
 clear hR
 generalize kn a=x at *
 generalize kn b=y at *
 by_cases h:x=0
 · have e:Hid (R=y):=by unfold Hid;rw [V.out,if_pos h]
   clear V
   subst h
   go_enter Tryz.func33,Tryz.ntmps33
   go_wp2_with (first|(go_at_call 65;(with_reducible refine (KA.out _).mono ?_);rintro e w' ⟨rfl,hw⟩;subst hw)|(go_at_call 65;(with_reducible refine (KB.out _).mono ?_);rintro e w' ⟨rfl,hw⟩;subst hw))
   go_ret
   exact ⟨ret_int e.out.symm,rfl⟩
 · have b1:(x==0)=false:=beq_eq_false_iff_ne.2 h
   by_cases h2:y=0
   · have e:Hid (R=x):=by unfold Hid;rw [V.out,if_neg h,if_pos (.inl h2)]
     clear V h
     subst h2
     go_enter Tryz.func33,Tryz.ntmps33
     go_wp2_with (first|(go_at_call 65;(with_reducible refine (KA.out _).mono ?_);rintro e w' ⟨rfl,hw⟩;subst hw)|(go_at_call 65;(with_reducible refine (KB.out _).mono ?_);rintro e w' ⟨rfl,hw⟩;subst hw))
     go_ret
     exact ⟨ret_int e.out.symm,rfl⟩
   · have b2:(y==0)=false:=beq_eq_false_iff_ne.2 h2
     by_cases h3:x=y
     · have e:Hid (R=x):=by unfold Hid;rw [V.out,if_neg h,if_pos (.inr h3)]
       clear V h h2
       subst h3
       go_enter Tryz.func33,Tryz.ntmps33
       go_wp2_with (first|(go_at_call 65;(with_reducible refine (KA.out _).mono ?_);rintro e w' ⟨rfl,hw⟩;subst hw)|(go_at_call 65;(with_reducible refine (KB.out _).mono ?_);rintro e w' ⟨rfl,hw⟩;subst hw))
       go_ret
       exact ⟨ret_int e.out.symm,rfl⟩
     · have e:Hid (R=3):=by unfold Hid;rw [V.out,if_neg h,if_neg (by omega)]
       have b3:(x==y)=false:=beq_eq_false_iff_ne.2 h3
       clear V h h2 h3
       go_enter Tryz.func33,Tryz.ntmps33
       go_wp2_with (first|(go_at_call 65;(with_reducible refine (KA.out _).mono ?_);rintro e w' ⟨rfl,hw⟩;subst hw)|(go_at_call 65;(with_reducible refine (KB.out _).mono ?_);rintro e w' ⟨rfl,hw⟩;subst hw))
       go_ret
       exact ⟨ret_int e.out.symm,rfl⟩
theorem tinv_any (a:Int) (w:World):Calls Tryz.prog 45 #[.int .i64 a] w fun e w'=>e=.returned (.int .i64 (ivE a))∧w=w':=by
 have KA:=Lib.hid (fun w=>tknown_any a w)
 have V:Hid (ivE a=if kn a=1 then 2 else if kn a=2 then 1 else kn a):=rfl
 obtain ⟨R,hR⟩:∃ R,ivE a=R:=⟨_,rfl⟩
 rw [hR] at V ⊢
 clear hR
 generalize kn a=x at *
 by_cases h:x=1
 · have e:Hid (R=2):=by unfold Hid;rw [V.out,if_pos h]
   clear V
   subst h
   go_enter Tryz.func45,Tryz.ntmps45
   go_wp2_with (go_at_call 60;(with_reducible refine (KA.out _).mono ?_);rintro e w' ⟨rfl,hw⟩;subst hw)
   go_ret
   exact ⟨ret_int e.out.symm,rfl⟩
 · by_cases h2:x=2
   · have e:Hid (R=1):=by unfold Hid;rw [V.out,if_neg h,if_pos h2]
     clear V h
     subst h2
     go_enter Tryz.func45,Tryz.ntmps45
     go_wp2_with (go_at_call 60;(with_reducible refine (KA.out _).mono ?_);rintro e w' ⟨rfl,hw⟩;subst hw)
     go_ret
     exact ⟨ret_int e.out.symm,rfl⟩
   · have e:Hid (R=x):=by unfold Hid;rw [V.out,if_neg h,if_neg h2]
     have b1:(x==1)=false:=beq_eq_false_iff_ne.2 h
     have b2:(x==2)=false:=beq_eq_false_iff_ne.2 h2
     clear V h h2
     go_enter Tryz.func45,Tryz.ntmps45
     go_wp2_with (go_at_call 60;(with_reducible refine (KA.out _).mono ?_);rintro e w' ⟨rfl,hw⟩;subst hw)
     go_ret
     exact ⟨ret_int e.out.symm,rfl⟩
theorem rinv_any (a:Int) (w:World):Calls Tryz.prog 35 #[.int .i64 a] w fun e w'=>e=.returned (.int .i64 (ivE a))∧w=w':=by
 have KA:=Lib.hid (fun w=>rtrend_any a w)
 have V:Hid (ivE a=if kn a=1 then 2 else if kn a=2 then 1 else kn a):=rfl
 obtain ⟨R,hR⟩:∃ R,ivE a=R:=⟨_,rfl⟩
 rw [hR] at V ⊢
 clear hR
 generalize kn a=x at *
 by_cases h:x=1
 · have e:Hid (R=2):=by unfold Hid;rw [V.out,if_pos h]
   clear V
   subst h
   go_enter Tryz.func35,Tryz.ntmps35
   go_wp2_with (go_at_call 65;(with_reducible refine (KA.out _).mono ?_);rintro e w' ⟨rfl,hw⟩;subst hw)
   go_ret
   exact ⟨ret_int e.out.symm,rfl⟩
 · by_cases h2:x=2
   · have e:Hid (R=1):=by unfold Hid;rw [V.out,if_neg h,if_pos h2]
     clear V h
     subst h2
     go_enter Tryz.func35,Tryz.ntmps35
     go_wp2_with (go_at_call 65;(with_reducible refine (KA.out _).mono ?_);rintro e w' ⟨rfl,hw⟩;subst hw)
     go_ret
     exact ⟨ret_int e.out.symm,rfl⟩
   · have e:Hid (R=x):=by unfold Hid;rw [V.out,if_neg h,if_neg h2]
     have b1:(x==1)=false:=beq_eq_false_iff_ne.2 h
     have b2:(x==2)=false:=beq_eq_false_iff_ne.2 h2
     clear V h h2
     go_enter Tryz.func35,Tryz.ntmps35
     go_wp2_with (go_at_call 65;(with_reducible refine (KA.out _).mono ?_);rintro e w' ⟨rfl,hw⟩;subst hw)
     go_ret
     exact ⟨ret_int e.out.symm,rfl⟩
theorem tscaled_any (a s:Int) (w:World):Calls Tryz.prog 47 #[.int .i64 a,.int .i64 s] w fun e w'=>e=.returned (.int .i64 (scE a s))∧w=w':=by
 have KI:=Lib.hid (fun w=>tinv_any a w)
 by_cases h:s=0
 · have e:Hid (scE a s=0):=by unfold Hid scE;rw [if_pos h]
   subst h
   go_enter Tryz.func47,Tryz.ntmps47
   go_wp2
   go_ret
   exact ⟨ret_int e.out.symm,rfl⟩
 · by_cases h2:s=1
   · have e:Hid (scE a s=a):=by unfold Hid scE;rw [if_neg h,if_pos h2]
     clear h
     subst h2
     go_enter Tryz.func47,Tryz.ntmps47
     go_wp2
     go_ret
     exact ⟨ret_int e.out.symm,rfl⟩
   · have e:Hid (scE a s=ivE a):=by unfold Hid scE;rw [if_neg h,if_neg h2]
     have b1:(s==0)=false:=beq_eq_false_iff_ne.2 h
     have b2:(s==1)=false:=beq_eq_false_iff_ne.2 h2
     clear h h2
     go_enter Tryz.func47,Tryz.ntmps47
     go_wp2_with (go_at_call 45;(with_reducible refine (KI.out _).mono ?_);rintro e w' ⟨rfl,hw⟩;subst hw)
     go_ret
     exact ⟨ret_int e.out.symm,rfl⟩
theorem rtimes_any (n t:Int) (w:World):Calls Tryz.prog 53 #[.int .i64 n,.int .i64 t] w fun e w'=>e=.returned (.int .i64 (tmE n t))∧w=w':=by
 have KI:=Lib.hid (fun w=>rinv_any t w)
 by_cases h:n=0
 · have e:Hid (tmE n t=0):=by unfold Hid tmE;rw [if_pos h]
   subst h
   go_enter Tryz.func53,Tryz.ntmps53
   go_wp2
   go_ret
   exact ⟨ret_int e.out.symm,rfl⟩
 · have b1:(n==0)=false:=beq_eq_false_iff_ne.2 h
   by_cases h2:n < 0
   · have e:Hid (tmE n t=ivE t):=by unfold Hid tmE;rw [if_neg h,if_pos h2]
     clear h
     go_enter Tryz.func53,Tryz.ntmps53
     go_wp2_with (go_at_call 35;(with_reducible refine (KI.out _).mono ?_);rintro e w' ⟨rfl,hw⟩;subst hw)
     go_ret
     exact ⟨ret_int e.out.symm,rfl⟩
   · have e:Hid (tmE n t=t):=by unfold Hid tmE;rw [if_neg h,if_neg h2]
     clear h
     go_enter Tryz.func53,Tryz.ntmps53
     go_wp2_with (go_at_call 35;(with_reducible refine (KI.out _).mono ?_);rintro e w' ⟨rfl,hw⟩;subst hw)
     go_ret
     exact ⟨ret_int e.out.symm,rfl⟩
end
section
set_option linter.unusedVariables false
set_option linter.unusedSimpArgs false
open Go.ChangeShapes Go.WideShapes Go.ChangeAt Go.RowKit
open Go.Deep (BT)
def TsP (w:World) (b:Bool) (e:Ending) (w':World):Prop:=e=.returned (.bool b)∧Below w.heap.size w w'
theorem below_box (w:World) (o:Obj):Below w.heap.size w (w.alloc o):=(Below.refl _ _).alloc (Nat.le_refl _) o
set_option maxHeartbeats 1000000 in
theorem iszero_any (op num:Int) (name:ByteArray) (ptr:Option Addr) (n cap:Nat) (w:World):Calls Tryz.prog 124 #[.agg #[.int .i64 op,.int .i64 num,.string name,.slice ptr n cap]] w (TsP w (decide ((op=1∨op=2)∧num=0))):=by
 obtain ⟨R,hR⟩:∃ R,decide ((op=1∨op=2)∧num=0)=R:=⟨_,rfl⟩
 have HR:=Lib.hid hR
 rw [hR]
 clear hR
 by_cases h1:op=1
 · by_cases h3:num=0
   · have e:Hid (R=true):=by unfold Hid;rw [← HR.out];simp [h1,h3]
     clear HR
     subst h1 h3
     go_enter Tryz.func124,Tryz.ntmps124
     go_wp2
     go_ret
     exact ⟨ret_bool e.out.symm,below_box _ _⟩
   · have e:Hid (R=false):=by unfold Hid;rw [← HR.out];simp [h1,h3]
     have b3:(num==0)=false:=beq_eq_false_iff_ne.2 h3
     clear HR h3
     subst h1
     go_enter Tryz.func124,Tryz.ntmps124
     go_wp2
     go_ret
     exact ⟨ret_bool e.out.symm,below_box _ _⟩
 · have b1:(op==1)=false:=beq_eq_false_iff_ne.2 h1
   by_cases h2:op=2
   · by_cases h3:num=0
     · have e:Hid (R=true):=by unfold Hid;rw [← HR.out];simp [h2,h3]
       clear HR h1
       subst h2 h3
       go_enter Tryz.func124,Tryz.ntmps124
       go_wp2
       go_ret
       exact ⟨ret_bool e.out.symm,below_box _ _⟩
     · have e:Hid (R=false):=by unfold Hid;rw [← HR.out];simp [h2,h3]
       have b3:(num==0)=false:=beq_eq_false_iff_ne.2 h3
       clear HR h3 h1
       subst h2
       go_enter Tryz.func124,Tryz.ntmps124
       go_wp2
       go_ret
       exact ⟨ret_bool e.out.symm,below_box _ _⟩
   · have e:Hid (R=false):=by unfold Hid;rw [← HR.out];simp [h1,h2]
     have b2:(op==2)=false:=beq_eq_false_iff_ne.2 h2
     clear HR h1 h2
     go_enter Tryz.func124,Tryz.ntmps124
     go_wp2
     go_ret
     exact ⟨ret_bool e.out.symm,below_box _ _⟩
set_option maxHeartbeats 1000000 in
theorem rzero_any (op num:Int) (name:ByteArray) (ptr:Option Addr) (n cap:Nat) (w:World):Calls Tryz.prog 64 #[.agg #[.int .i64 op,.int .i64 num,.string name,.slice ptr n cap]] w (TsP w (decide ((op=1∨op=2)∧num=0))):=by
 obtain ⟨R,hR⟩:∃ R,decide ((op=1∨op=2)∧num=0)=R:=⟨_,rfl⟩
 have HR:=Lib.hid hR
 rw [hR]
 clear hR
 by_cases h1:op=1
 · by_cases h3:num=0
   · have e:Hid (R=true):=by unfold Hid;rw [← HR.out];simp [h1,h3]
     clear HR
     subst h1 h3
     go_enter Tryz.func64,Tryz.ntmps64
     go_wp2
     go_ret
     exact ⟨ret_bool e.out.symm,below_box _ _⟩
   · have e:Hid (R=false):=by unfold Hid;rw [← HR.out];simp [h1,h3]
     have b3:(num==0)=false:=beq_eq_false_iff_ne.2 h3
     clear HR h3
     subst h1
     go_enter Tryz.func64,Tryz.ntmps64
     go_wp2
     go_ret
     exact ⟨ret_bool e.out.symm,below_box _ _⟩
 · have b1:(op==1)=false:=beq_eq_false_iff_ne.2 h1
   by_cases h2:op=2
   · by_cases h3:num=0
     · have e:Hid (R=true):=by unfold Hid;rw [← HR.out];simp [h2,h3]
       clear HR h1
       subst h2 h3
       go_enter Tryz.func64,Tryz.ntmps64
       go_wp2
       go_ret
       exact ⟨ret_bool e.out.symm,below_box _ _⟩
     · have e:Hid (R=false):=by unfold Hid;rw [← HR.out];simp [h2,h3]
       have b3:(num==0)=false:=beq_eq_false_iff_ne.2 h3
       clear HR h3 h1
       subst h2
       go_enter Tryz.func64,Tryz.ntmps64
       go_wp2
       go_ret
       exact ⟨ret_bool e.out.symm,below_box _ _⟩
   · have e:Hid (R=false):=by unfold Hid;rw [← HR.out];simp [h1,h2]
     have b2:(op==2)=false:=beq_eq_false_iff_ne.2 h2
     clear HR h1 h2
     go_enter Tryz.func64,Tryz.ntmps64
     go_wp2
     go_ret
     exact ⟨ret_bool e.out.symm,below_box _ _⟩
theorem isone_any (op num:Int) (name:ByteArray) (ptr:Option Addr) (n cap:Nat) (w:World):Calls Tryz.prog 125 #[.agg #[.int .i64 op,.int .i64 num,.string name,.slice ptr n cap]] w (TsP w (decide (op=1∧num=1))):=by
 obtain ⟨R,hR⟩:∃ R,decide (op=1∧num=1)=R:=⟨_,rfl⟩
 have HR:=Lib.hid hR
 rw [hR]
 clear hR
 by_cases h1:op=1
 · by_cases h3:num=1
   · have e:Hid (R=true):=by unfold Hid;rw [← HR.out];simp [h1,h3]
     clear HR
     subst h1 h3
     go_enter Tryz.func125,Tryz.ntmps125
     go_wp2
     go_ret
     exact ⟨ret_bool e.out.symm,below_box _ _⟩
   · have e:Hid (R=false):=by unfold Hid;rw [← HR.out];simp [h1,h3]
     have b3:(num==1)=false:=beq_eq_false_iff_ne.2 h3
     clear HR h3
     subst h1
     go_enter Tryz.func125,Tryz.ntmps125
     go_wp2
     go_ret
     exact ⟨ret_bool e.out.symm,below_box _ _⟩
 · have b1:(op==1)=false:=beq_eq_false_iff_ne.2 h1
   have e:Hid (R=false):=by unfold Hid;rw [← HR.out];simp [h1]
   clear HR h1
   go_enter Tryz.func125,Tryz.ntmps125
   go_wp2
   go_ret
   exact ⟨ret_bool e.out.symm,below_box _ _⟩
theorem runit_any (op num:Int) (name:ByteArray) (ptr:Option Addr) (n cap:Nat) (w:World):Calls Tryz.prog 135 #[.agg #[.int .i64 op,.int .i64 num,.string name,.slice ptr n cap]] w (TsP w (decide (op=1∧num=1))):=by
 obtain ⟨R,hR⟩:∃ R,decide (op=1∧num=1)=R:=⟨_,rfl⟩
 have HR:=Lib.hid hR
 rw [hR]
 clear hR
 by_cases h1:op=1
 · by_cases h3:num=1
   · have e:Hid (R=true):=by unfold Hid;rw [← HR.out];simp [h1,h3]
     clear HR
     subst h1 h3
     go_enter Tryz.func135,Tryz.ntmps135
     go_wp2
     go_ret
     exact ⟨ret_bool e.out.symm,below_box _ _⟩
   · have e:Hid (R=false):=by unfold Hid;rw [← HR.out];simp [h1,h3]
     have b3:(num==1)=false:=beq_eq_false_iff_ne.2 h3
     clear HR h3
     subst h1
     go_enter Tryz.func135,Tryz.ntmps135
     go_wp2
     go_ret
     exact ⟨ret_bool e.out.symm,below_box _ _⟩
 · have b1:(op==1)=false:=beq_eq_false_iff_ne.2 h1
   have e:Hid (R=false):=by unfold Hid;rw [← HR.out];simp [h1]
   clear HR h1
   go_enter Tryz.func135,Tryz.ntmps135
   go_wp2
   go_ret
   exact ⟨ret_bool e.out.symm,below_box _ _⟩
def ExP (w:World) (x:Ch) (e:Ending) (w':World):Prop:=∃ c:Ch,e=.returned (.agg #[.int .i64 c.a.op,.int .i64 c.a.num,.string c.a.name,.slice c.a.ptr (len c.k) c.a.cap])∧ec c=x∧ChAt w' w.heap.size c∧Below w.heap.size w w'
theorem chat_one (w:World) (o:Obj) (op n:Int) (T:TypeId):ChAt ((w.alloc o).alloc (.cells #[.int .i64 op,.int .i64 n,.string ⟨#[]⟩,.slice none 0 0] T)) w.heap.size ⟨w.heap.size+1,0,⟨7,0,⟨#[]⟩,some ⟨w.heap.size+1,0,none⟩,1⟩,.node 0 0 ⟨op,n,⟨#[]⟩,none,0⟩ .nil .nil⟩:=by
 have h:=row_new (w:=w.alloc o) (B0:=w.heap.size) [⟨0,0,⟨op,n,⟨#[]⟩,none,0⟩,.nil⟩] (fun c hc=>by rw [List.mem_singleton.1 hc];exact ⟨⟨fun q=>absurd rfl q,trivial⟩,trivial⟩) (by simp) T _ rfl
 rw [World.size_alloc] at h
 exact ⟨⟨fun _=>rfl,h.1⟩,h.2⟩
theorem chat_leaf (w:World) (B:Nat) (a:Nd):ChAt w B ⟨0,0,a,.nil⟩:=⟨⟨fun q=>absurd rfl q,trivial⟩,trivial⟩
set_option maxHeartbeats 2000000 in
theorem literal_any (t n:Int) (w:World) (ht:1≤t∧t≤4) (hv:vok t n):Calls Tryz.prog 118 #[.int .i64 t,.int .i64 n] w (ExP w (litE t n)):=by
 by_cases h4:t=4
 · subst h4
   rcases hv.2.2 rfl with rfl|rfl
   · have e:Hid (litE 4 0=dE 5 0 noN):=rfl
     clear hv ht
     go_enter Tryz.func118,Tryz.ntmps118
     go_wp2
     refine bodyPost_ret (v:=.agg #[.int .i64 5,.int .i64 0,.string ⟨#[]⟩,.slice none 0 0]) ?_ rfl ?_
     · rw [results_cell1 rfl];go_simp
     · refine ⟨⟨0,0,⟨5,0,⟨#[]⟩,none,0⟩,.nil⟩,rfl,?_,chat_leaf _ _ _,(by first|exact ((Below.refl _ _).alloc (Nat.le_refl _) _)|exact (((Below.refl _ _).alloc (Nat.le_refl _) _).alloc (by simp) _))⟩
       rw [e.out];rfl
   · have e:Hid (litE 4 1=dE 4 0 noN):=rfl
     clear hv ht
     go_enter Tryz.func118,Tryz.ntmps118
     go_wp2
     refine bodyPost_ret (v:=.agg #[.int .i64 4,.int .i64 0,.string ⟨#[]⟩,.slice none 0 0]) ?_ rfl ?_
     · rw [results_cell1 rfl];go_simp
     · refine ⟨⟨0,0,⟨4,0,⟨#[]⟩,none,0⟩,.nil⟩,rfl,?_,chat_leaf _ _ _,(by first|exact ((Below.refl _ _).alloc (Nat.le_refl _) _)|exact (((Below.refl _ _).alloc (Nat.le_refl _) _).alloc (by simp) _))⟩
       rw [e.out];rfl
 · have b4 : (t==4)=false:=beq_eq_false_iff_ne.2 h4
   by_cases h3:t=3
   · have e:Hid (litE t n=dE 3 n noN):=by unfold Hid litE;rw [if_neg h4,if_pos h3]
     clear hv ht h4 b4
     subst h3
     go_enter Tryz.func118,Tryz.ntmps118
     go_wp2
     refine bodyPost_ret (v:=.agg #[.int .i64 3,.int .i64 n,.string ⟨#[]⟩,.slice none 0 0]) ?_ rfl ?_
     · rw [results_cell1 rfl];go_simp
     · refine ⟨⟨0,0,⟨3,n,⟨#[]⟩,none,0⟩,.nil⟩,rfl,?_,chat_leaf _ _ _,(by first|exact ((Below.refl _ _).alloc (Nat.le_refl _) _)|exact (((Below.refl _ _).alloc (Nat.le_refl _) _).alloc (by simp) _))⟩
       rw [e.out];rfl
   · have b3:(t==3)=false:=beq_eq_false_iff_ne.2 h3
     have hb:=hv.1 (by omega)
     have hb1:=hb.1
     have hb2:=hb.2
     have hnw:IntKind.i64.wrap (-n) = -n:=IntWalk.i64_in _ (by omega)
     by_cases h2:t=2
     · by_cases hn:n < 0
       · have e:Hid (litE t n=nE 7 [dE 2 (-n) noN]):=by unfold Hid litE;rw [if_neg h4,if_neg h3,if_pos hn,if_pos h2]
         clear hv ht h4 b4 h3 b3 hb
         subst h2
         go_enter Tryz.func118,Tryz.ntmps118
         go_wp2
         refine bodyPost_ret (v:=.agg #[.int .i64 7,.int .i64 0,.string ⟨#[]⟩,.slice (some ⟨w.heap.size+1,0,none⟩) 1 1]) ?_ rfl ?_
         · rw [results_cell1 rfl];go_simp
         · refine ⟨⟨w.heap.size+1,0,⟨7,0,⟨#[]⟩,some ⟨w.heap.size+1,0,none⟩,1⟩,.node 0 0 ⟨2,-n,⟨#[]⟩,none,0⟩ .nil .nil⟩,rfl,?_,?_,(((Below.refl _ _).alloc (Nat.le_refl _) _).alloc (by simp) _)⟩
           · rw [e.out];rfl
           · exact chat_one w _ _ _ _
       · have e:Hid (litE t n=dE 2 n noN):=by unfold Hid litE;rw [if_neg h4,if_neg h3,if_neg hn,if_pos h2]
         clear hv ht h4 b4 h3 b3 hb
         subst h2
         go_enter Tryz.func118,Tryz.ntmps118
         go_wp2
         refine bodyPost_ret (v:=.agg #[.int .i64 2,.int .i64 n,.string ⟨#[]⟩,.slice none 0 0]) ?_ rfl ?_
         · rw [results_cell1 rfl];go_simp
         · refine ⟨⟨0,0,⟨2,n,⟨#[]⟩,none,0⟩,.nil⟩,rfl,?_,chat_leaf _ _ _,(by first|exact ((Below.refl _ _).alloc (Nat.le_refl _) _)|exact (((Below.refl _ _).alloc (Nat.le_refl _) _).alloc (by simp) _))⟩
           rw [e.out];rfl
     · have b2:(t==2)=false:=beq_eq_false_iff_ne.2 h2
       by_cases hn:n < 0
       · have e:Hid (litE t n=nE 7 [dE 1 (-n) noN]):=by unfold Hid litE;rw [if_neg h4,if_neg h3,if_pos hn,if_neg h2]
         clear hv ht h4 h3 hb h2
         go_enter Tryz.func118,Tryz.ntmps118
         go_wp2
         refine bodyPost_ret (v:=.agg #[.int .i64 7,.int .i64 0,.string ⟨#[]⟩,.slice (some ⟨w.heap.size+1,0,none⟩) 1 1]) ?_ rfl ?_
         · rw [results_cell1 rfl];go_simp
         · refine ⟨⟨w.heap.size+1,0,⟨7,0,⟨#[]⟩,some ⟨w.heap.size+1,0,none⟩,1⟩,.node 0 0 ⟨1,-n,⟨#[]⟩,none,0⟩ .nil .nil⟩,rfl,?_,?_,(((Below.refl _ _).alloc (Nat.le_refl _) _).alloc (by simp) _)⟩
           · rw [e.out];rfl
           · exact chat_one w _ _ _ _
       · have e:Hid (litE t n=dE 1 n noN):=by unfold Hid litE;rw [if_neg h4,if_neg h3,if_neg hn,if_neg h2]
         clear hv ht h4 h3 hb h2
         go_enter Tryz.func118,Tryz.ntmps118
         go_wp2
         refine bodyPost_ret (v:=.agg #[.int .i64 1,.int .i64 n,.string ⟨#[]⟩,.slice none 0 0]) ?_ rfl ?_
         · rw [results_cell1 rfl];go_simp
         · refine ⟨⟨0,0,⟨1,n,⟨#[]⟩,none,0⟩,.nil⟩,rfl,?_,chat_leaf _ _ _,(by first|exact ((Below.refl _ _).alloc (Nat.le_refl _) _)|exact (((Below.refl _ _).alloc (Nat.le_refl _) _).alloc (by simp) _))⟩
           rw [e.out];rfl
set_option maxHeartbeats 2000000 in
theorem rliteral_any (t n:Int) (w:World) (ht:1≤t∧t≤4) (hv:vok t n):Calls Tryz.prog 87 #[.int .i64 t,.int .i64 n] w (ExP w (litE t n)):=by
 by_cases h4:t=4
 · subst h4
   rcases hv.2.2 rfl with rfl|rfl
   · have e:Hid (litE 4 0=dE 5 0 noN):=rfl
     clear hv ht
     go_enter Tryz.func87,Tryz.ntmps87
     go_wp2
     refine bodyPost_ret (v:=.agg #[.int .i64 5,.int .i64 0,.string ⟨#[]⟩,.slice none 0 0]) ?_ rfl ?_
     · rw [results_cell1 rfl];go_simp
     · refine ⟨⟨0,0,⟨5,0,⟨#[]⟩,none,0⟩,.nil⟩,rfl,?_,chat_leaf _ _ _,(by first|exact ((Below.refl _ _).alloc (Nat.le_refl _) _)|exact (((Below.refl _ _).alloc (Nat.le_refl _) _).alloc (by simp) _))⟩
       rw [e.out];rfl
   · have e:Hid (litE 4 1=dE 4 0 noN):=rfl
     clear hv ht
     go_enter Tryz.func87,Tryz.ntmps87
     go_wp2
     refine bodyPost_ret (v:=.agg #[.int .i64 4,.int .i64 0,.string ⟨#[]⟩,.slice none 0 0]) ?_ rfl ?_
     · rw [results_cell1 rfl];go_simp
     · refine ⟨⟨0,0,⟨4,0,⟨#[]⟩,none,0⟩,.nil⟩,rfl,?_,chat_leaf _ _ _,(by first|exact ((Below.refl _ _).alloc (Nat.le_refl _) _)|exact (((Below.refl _ _).alloc (Nat.le_refl _) _).alloc (by simp) _))⟩
       rw [e.out];rfl
 · have b4 : (t==4)=false:=beq_eq_false_iff_ne.2 h4
   by_cases h3:t=3
   · have e:Hid (litE t n=dE 3 n noN):=by unfold Hid litE;rw [if_neg h4,if_pos h3]
     clear hv ht h4 b4
     subst h3
     go_enter Tryz.func87,Tryz.ntmps87
     go_wp2
     refine bodyPost_ret (v:=.agg #[.int .i64 3,.int .i64 n,.string ⟨#[]⟩,.slice none 0 0]) ?_ rfl ?_
     · rw [results_cell1 rfl];go_simp
     · refine ⟨⟨0,0,⟨3,n,⟨#[]⟩,none,0⟩,.nil⟩,rfl,?_,chat_leaf _ _ _,(by first|exact ((Below.refl _ _).alloc (Nat.le_refl _) _)|exact (((Below.refl _ _).alloc (Nat.le_refl _) _).alloc (by simp) _))⟩
       rw [e.out];rfl
   · have b3:(t==3)=false:=beq_eq_false_iff_ne.2 h3
     have hb:=hv.1 (by omega)
     have hb1:=hb.1
     have hb2:=hb.2
     have hnw:IntKind.i64.wrap (-n) = -n:=IntWalk.i64_in _ (by omega)
     by_cases h2:t=2
     · by_cases hn:n < 0
       · have e:Hid (litE t n=nE 7 [dE 2 (-n) noN]):=by unfold Hid litE;rw [if_neg h4,if_neg h3,if_pos hn,if_pos h2]
         clear hv ht h4 b4 h3 b3 hb
         subst h2
         go_enter Tryz.func87,Tryz.ntmps87
         go_wp2
         refine bodyPost_ret (v:=.agg #[.int .i64 7,.int .i64 0,.string ⟨#[]⟩,.slice (some ⟨w.heap.size+1,0,none⟩) 1 1]) ?_ rfl ?_
         · rw [results_cell1 rfl];go_simp
         · refine ⟨⟨w.heap.size+1,0,⟨7,0,⟨#[]⟩,some ⟨w.heap.size+1,0,none⟩,1⟩,.node 0 0 ⟨2,-n,⟨#[]⟩,none,0⟩ .nil .nil⟩,rfl,?_,?_,(((Below.refl _ _).alloc (Nat.le_refl _) _).alloc (by simp) _)⟩
           · rw [e.out];rfl
           · exact chat_one w _ _ _ _
       · have e:Hid (litE t n=dE 2 n noN):=by unfold Hid litE;rw [if_neg h4,if_neg h3,if_neg hn,if_pos h2]
         clear hv ht h4 b4 h3 b3 hb
         subst h2
         go_enter Tryz.func87,Tryz.ntmps87
         go_wp2
         refine bodyPost_ret (v:=.agg #[.int .i64 2,.int .i64 n,.string ⟨#[]⟩,.slice none 0 0]) ?_ rfl ?_
         · rw [results_cell1 rfl];go_simp
         · refine ⟨⟨0,0,⟨2,n,⟨#[]⟩,none,0⟩,.nil⟩,rfl,?_,chat_leaf _ _ _,(by first|exact ((Below.refl _ _).alloc (Nat.le_refl _) _)|exact (((Below.refl _ _).alloc (Nat.le_refl _) _).alloc (by simp) _))⟩
           rw [e.out];rfl
     · have b2:(t==2)=false:=beq_eq_false_iff_ne.2 h2
       by_cases hn:n < 0
       · have e:Hid (litE t n=nE 7 [dE 1 (-n) noN]):=by unfold Hid litE;rw [if_neg h4,if_neg h3,if_pos hn,if_neg h2]
         clear hv ht h4 h3 hb h2
         go_enter Tryz.func87,Tryz.ntmps87
         go_wp2
         refine bodyPost_ret (v:=.agg #[.int .i64 7,.int .i64 0,.string ⟨#[]⟩,.slice (some ⟨w.heap.size+1,0,none⟩) 1 1]) ?_ rfl ?_
         · rw [results_cell1 rfl];go_simp
         · refine ⟨⟨w.heap.size+1,0,⟨7,0,⟨#[]⟩,some ⟨w.heap.size+1,0,none⟩,1⟩,.node 0 0 ⟨1,-n,⟨#[]⟩,none,0⟩ .nil .nil⟩,rfl,?_,?_,(((Below.refl _ _).alloc (Nat.le_refl _) _).alloc (by simp) _)⟩
           · rw [e.out];rfl
           · exact chat_one w _ _ _ _
       · have e:Hid (litE t n=dE 1 n noN):=by unfold Hid litE;rw [if_neg h4,if_neg h3,if_neg hn,if_neg h2]
         clear hv ht h4 h3 hb h2
         go_enter Tryz.func87,Tryz.ntmps87
         go_wp2
         refine bodyPost_ret (v:=.agg #[.int .i64 1,.int .i64 n,.string ⟨#[]⟩,.slice none 0 0]) ?_ rfl ?_
         · rw [results_cell1 rfl];go_simp
         · refine ⟨⟨0,0,⟨1,n,⟨#[]⟩,none,0⟩,.nil⟩,rfl,?_,chat_leaf _ _ _,(by first|exact ((Below.refl _ _).alloc (Nat.le_refl _) _)|exact (((Below.refl _ _).alloc (Nat.le_refl _) _).alloc (by simp) _))⟩
           rw [e.out];rfl
end
section
set_option linter.unusedVariables false
set_option linter.unusedSimpArgs false
open Go.ChangeShapes Go.WideShapes Go.ChangeAt Go.RowKit
open Go.Deep (BT)
def MinAt (w:World) (op:Int) (ptr:Option Addr) (n:Nat) (kp kv:Int):Prop:=op=7→∃ g o,ptr=some ⟨g,o,none⟩∧0 < n∧n≤9223372036854775807∧w.cell? ⟨g,o,none⟩=some (.int .i64 kp)∧w.cell? ⟨g,o+1,none⟩=some (.int .i64 kv)
theorem MinAt.of {w:World} {c:Ch} (h:ExAt w c.b c.o c.a c.k) (hn:c.a.op=7→0 < len c.k) (hl:len c.k≤9223372036854775807):MinAt w c.a.op c.a.ptr (len c.k) (kop c) (knum c):=by
 intro h7
 have hn:=hn h7
 obtain ⟨hp,hk⟩:=h
 revert hp hk hn hl
 unfold kop knum
 cases c.k with
 | nil=>intro _ hn;exact absurd hn (by simp [len])
 | node b o a k r=>intro hl hn hp hk;exact ⟨c.b,c.o,hp (by simp),hn,hl,hk.1.1,hk.1.2.1⟩
def litB (op kp:Int):Bool:=decide (op=1∨op=2∨op=3∨op=4∨op=5∨(op=7∧(kp=1∨kp=2)))
theorem isLit_b (c:Ch):isLit c=litB c.a.op (kop c):=rfl
def litN (op num kv:Int):Int:=if op=1∨op=2∨op=3 then num else if op=4 then 1 else if op=5 then 0 else -kv
theorem litV_b (c:Ch):litV c=litN c.a.op c.a.num (knum c):=rfl
def LtP (w:World) (v:Int) (b:Bool) (e:Ending) (w':World):Prop:=e=.returned (.tuple #[.int .i64 v,.bool b])∧Below w.heap.size w w'
set_option maxHeartbeats 2000000 in
theorem notlit_any (op num:Int) (name:ByteArray) (ptr:Option Addr) (n cap:Nat) (kp kv:Int) (w:World) (hk:MinAt w op ptr n kp kv):Calls Tryz.prog 116 #[.agg #[.int .i64 op,.int .i64 num,.string name,.slice ptr n cap]] w (TsP w (!litB op kp)):=by
 obtain ⟨R,hR⟩:∃ R,(!litB op kp)=R:=⟨_,rfl⟩
 have HR:=Lib.hid hR
 rw [hR]
 clear hR
 by_cases q1:op=1
 · subst q1
   have e:Hid (R=false):=by unfold Hid;rw [← HR.out];simp [litB]
   clear HR
   clear hk
   go_enter Tryz.func116,Tryz.ntmps116
   go_wp2
   (go_ret;exact ⟨ret_bool e.out.symm,below_box _ _⟩)
 have b1:(op==1)=false:=beq_eq_false_iff_ne.2 q1
 by_cases q2:op=2
 · subst q2
   have e:Hid (R=false):=by unfold Hid;rw [← HR.out];simp [litB]
   clear HR
   clear hk
   go_enter Tryz.func116,Tryz.ntmps116
   go_wp2
   (go_ret;exact ⟨ret_bool e.out.symm,below_box _ _⟩)
 have b2:(op==2)=false:=beq_eq_false_iff_ne.2 q2
 by_cases q3:op=3
 · subst q3
   have e:Hid (R=false):=by unfold Hid;rw [← HR.out];simp [litB]
   clear HR
   clear hk
   go_enter Tryz.func116,Tryz.ntmps116
   go_wp2
   (go_ret;exact ⟨ret_bool e.out.symm,below_box _ _⟩)
 have b3:(op==3)=false:=beq_eq_false_iff_ne.2 q3
 by_cases q4:op=4
 · subst q4
   have e:Hid (R=false):=by unfold Hid;rw [← HR.out];simp [litB]
   clear HR
   clear hk
   go_enter Tryz.func116,Tryz.ntmps116
   go_wp2
   (go_ret;exact ⟨ret_bool e.out.symm,below_box _ _⟩)
 have b4:(op==4)=false:=beq_eq_false_iff_ne.2 q4
 by_cases q5:op=5
 · subst q5
   have e:Hid (R=false):=by unfold Hid;rw [← HR.out];simp [litB]
   clear HR
   clear hk
   go_enter Tryz.func116,Tryz.ntmps116
   go_wp2
   (go_ret;exact ⟨ret_bool e.out.symm,below_box _ _⟩)
 have b5:(op==5)=false:=beq_eq_false_iff_ne.2 q5
 by_cases q7:op=7
 · subst q7
   obtain ⟨g,o,rfl,hn0,hn1,c0,c1⟩:=hk rfl
   clear hk b1 b2 b3 b4 b5 q1 q2 q3 q4 q5
   have hg:=block_lt_of_cell c0
   simp at hg
   have hn2:(0:Int) < (n:Int):=by omega
   have hbx:Below w.heap.size w (w.alloc (.cells #[.int .i64 7,.int .i64 num,.string name,.slice (some ⟨g,o,none⟩) n cap] 25)):=below_box _ _
   have d0:(w.alloc (.cells #[.int .i64 7,.int .i64 num,.string name,.slice (some ⟨g,o,none⟩) n cap] 25)).cell? ⟨g,o,none⟩=some (.int .i64 kp):=by rw [hbx.cell (p:=⟨g,o,none⟩) hg];exact c0
   have d1:(w.alloc (.cells #[.int .i64 7,.int .i64 num,.string name,.slice (some ⟨g,o,none⟩) n cap] 25)).cell? ⟨g,o+1,none⟩=some (.int .i64 kv):=by rw [hbx.cell (p:=⟨g,o+1,none⟩) hg];exact c1
   clear c0 c1 hbx
   by_cases k1:kp=1
   · subst k1
     have e:Hid (R=false):=by unfold Hid;rw [← HR.out];simp [litB]
     clear HR
     go_enter Tryz.func116,Tryz.ntmps116
     go_wp2
     (go_ret;exact ⟨ret_bool e.out.symm,below_box _ _⟩)
   have e1:(kp==1)=false:=beq_eq_false_iff_ne.2 k1
   by_cases k2:kp=2
   · subst k2
     have e:Hid (R=false):=by unfold Hid;rw [← HR.out];simp [litB]
     clear HR
     go_enter Tryz.func116,Tryz.ntmps116
     go_wp2
     (go_ret;exact ⟨ret_bool e.out.symm,below_box _ _⟩)
   have e2:(kp==2)=false:=beq_eq_false_iff_ne.2 k2
   have e:Hid (R=true):=by unfold Hid;rw [← HR.out];simp [litB,k1,k2]
   have f1:(kp != 1)=true:=by simp [k1]
   have f2:(kp != 2)=true:=by simp [k2]
   clear HR
   clear k1 k2
   go_enter Tryz.func116,Tryz.ntmps116
   go_wp2
   (go_ret;exact ⟨ret_bool e.out.symm,below_box _ _⟩)
 have b7:(op==7)=false:=beq_eq_false_iff_ne.2 q7
 have e:Hid (R=true):=by unfold Hid;rw [← HR.out];simp [litB,q1,q2,q3,q4,q5,q7]
 clear HR
 clear hk q1 q2 q3 q4 q5 q7
 go_enter Tryz.func116,Tryz.ntmps116
 go_wp2
 (go_ret;exact ⟨ret_bool e.out.symm,below_box _ _⟩)
set_option maxHeartbeats 2000000 in
theorem rlit_any (op num:Int) (name:ByteArray) (ptr:Option Addr) (n cap:Nat) (kp kv:Int) (w:World) (hk:MinAt w op ptr n kp kv) (hb:litB op kp=true→op=7 → -9223372036854775807≤kv∧kv≤9223372036854775807):Calls Tryz.prog 52 #[.agg #[.int .i64 op,.int .i64 num,.string name,.slice ptr n cap]] w (LtP w (if litB op kp=true then litN op num kv else 0) (litB op kp)):=by
 obtain ⟨R,hR⟩:∃ R,litB op kp=R:=⟨_,rfl⟩
 obtain ⟨V,hV⟩:∃ V,(if litB op kp=true then litN op num kv else 0)=V:=⟨_,rfl⟩
 have HR:=Lib.hid hR
 have HV:=Lib.hid hV
 have HB:=Lib.hid hb
 rw [hV,hR]
 clear hR hV hb
 by_cases q1:op=1
 · subst q1
   have e:Hid (R=true):=by unfold Hid;rw [← HR.out];simp [litB]
   have f:Hid (V=num):=by unfold Hid;rw [← HV.out];simp [litB,litN]
   clear HR HV HB
   clear hk
   go_enter Tryz.func52,Tryz.ntmps52
   go_wp2
   (go_ret2;exact ⟨by rw [e.out,f.out];rfl,below_box _ _⟩)
 have b1:(op==1)=false:=beq_eq_false_iff_ne.2 q1
 by_cases q2:op=2
 · subst q2
   have e:Hid (R=true):=by unfold Hid;rw [← HR.out];simp [litB]
   have f:Hid (V=num):=by unfold Hid;rw [← HV.out];simp [litB,litN]
   clear HR HV HB
   clear hk
   go_enter Tryz.func52,Tryz.ntmps52
   go_wp2
   (go_ret2;exact ⟨by rw [e.out,f.out];rfl,below_box _ _⟩)
 have b2:(op==2)=false:=beq_eq_false_iff_ne.2 q2
 by_cases q3:op=3
 · subst q3
   have e:Hid (R=true):=by unfold Hid;rw [← HR.out];simp [litB]
   have f:Hid (V=num):=by unfold Hid;rw [← HV.out];simp [litB,litN]
   clear HR HV HB
   clear hk
   go_enter Tryz.func52,Tryz.ntmps52
   go_wp2
   (go_ret2;exact ⟨by rw [e.out,f.out];rfl,below_box _ _⟩)
 have b3:(op==3)=false:=beq_eq_false_iff_ne.2 q3
 by_cases q4:op=4
 · subst q4
   have e:Hid (R=true):=by unfold Hid;rw [← HR.out];simp [litB]
   have f:Hid (V=1):=by unfold Hid;rw [← HV.out];simp [litB,litN]
   clear HR HV HB
   clear hk
   go_enter Tryz.func52,Tryz.ntmps52
   go_wp2
   (go_ret2;exact ⟨by rw [e.out,f.out];rfl,below_box _ _⟩)
 have b4:(op==4)=false:=beq_eq_false_iff_ne.2 q4
 by_cases q5:op=5
 · subst q5
   have e:Hid (R=true):=by unfold Hid;rw [← HR.out];simp [litB]
   have f:Hid (V=0):=by unfold Hid;rw [← HV.out];simp [litB,litN]
   clear HR HV HB
   clear hk
   go_enter Tryz.func52,Tryz.ntmps52
   go_wp2
   (go_ret2;exact ⟨by rw [e.out,f.out];rfl,below_box _ _⟩)
 have b5:(op==5)=false:=beq_eq_false_iff_ne.2 q5
 by_cases q7:op=7
 · subst q7
   obtain ⟨g,o,rfl,hn0,hn1,c0,c1⟩:=hk rfl
   clear hk b1 b2 b3 b4 b5 q1 q2 q3 q4 q5
   have hg:=block_lt_of_cell c0
   simp at hg
   have hn2:(0:Int) < (n:Int):=by omega
   have hbx:Below w.heap.size w (w.alloc (.cells #[.int .i64 7,.int .i64 num,.string name,.slice (some ⟨g,o,none⟩) n cap] 25)):=below_box _ _
   have d0:(w.alloc (.cells #[.int .i64 7,.int .i64 num,.string name,.slice (some ⟨g,o,none⟩) n cap] 25)).cell? ⟨g,o,none⟩=some (.int .i64 kp):=by rw [hbx.cell (p:=⟨g,o,none⟩) hg];exact c0
   have d1:(w.alloc (.cells #[.int .i64 7,.int .i64 num,.string name,.slice (some ⟨g,o,none⟩) n cap] 25)).cell? ⟨g,o+1,none⟩=some (.int .i64 kv):=by rw [hbx.cell (p:=⟨g,o+1,none⟩) hg];exact c1
   clear c0 c1 hbx
   by_cases k1:kp=1
   · subst k1
     have hb:=HB.out (by simp [litB]) rfl
     have hb1:=hb.1
     have hb2:=hb.2
     have hnw:IntKind.i64.wrap (-kv) = -kv:=IntWalk.i64_in _ (by omega)
     have e:Hid (R=true):=by unfold Hid;rw [← HR.out];simp [litB]
     have f:Hid (V = -kv):=by unfold Hid;rw [← HV.out];simp [litB,litN]
     clear HR HV HB hb
     go_enter Tryz.func52,Tryz.ntmps52
     go_wp2
     (go_ret2;exact ⟨by rw [e.out,f.out];rfl,below_box _ _⟩)
   have e1:(kp==1)=false:=beq_eq_false_iff_ne.2 k1
   by_cases k2:kp=2
   · subst k2
     have hb:=HB.out (by simp [litB]) rfl
     have hb1:=hb.1
     have hb2:=hb.2
     have hnw:IntKind.i64.wrap (-kv) = -kv:=IntWalk.i64_in _ (by omega)
     have e:Hid (R=true):=by unfold Hid;rw [← HR.out];simp [litB]
     have f:Hid (V = -kv):=by unfold Hid;rw [← HV.out];simp [litB,litN]
     clear HR HV HB hb
     go_enter Tryz.func52,Tryz.ntmps52
     go_wp2
     (go_ret2;exact ⟨by rw [e.out,f.out];rfl,below_box _ _⟩)
   have e2:(kp==2)=false:=beq_eq_false_iff_ne.2 k2
   have e:Hid (R=false):=by unfold Hid;rw [← HR.out];simp [litB,k1,k2]
   have f:Hid (V=0):=by unfold Hid;rw [← HV.out];simp [litB,k1,k2]
   clear HR HV HB
   clear k1 k2
   go_enter Tryz.func52,Tryz.ntmps52
   go_wp2
   (go_ret2;exact ⟨by rw [e.out,f.out];rfl,below_box _ _⟩)
 have b7:(op==7)=false:=beq_eq_false_iff_ne.2 q7
 have e:Hid (R=false):=by unfold Hid;rw [← HR.out];simp [litB,q1,q2,q3,q4,q5,q7]
 have f:Hid (V=0):=by unfold Hid;rw [← HV.out];simp [litB,q1,q2,q3,q4,q5,q7]
 clear HR HV HB
 clear hk q1 q2 q3 q4 q5 q7
 go_enter Tryz.func52,Tryz.ntmps52
 go_wp2
 (go_ret2;exact ⟨by rw [e.out,f.out];rfl,below_box _ _⟩)
end
section
set_option linter.unusedVariables false
set_option linter.unusedSimpArgs false
open Go.ChangeShapes Go.WideShapes Go.ChangeAt Go.RowKit
open Go.Deep (BT)
theorem wfT_node {b o:Nat} {a:Nd} {k r:Fo} (h:wfT (.node b o a k r)=true):(wfB a (len k) && wfT k)=true∧wfT r=true:=by
 have h':((wfB a (len k) && wfT k) && wfT r)=true:=h
 rw [Bool.and_eq_true] at h'
 exact h'
theorem sg_bd (b o:Nat) (a:Nd) (k:Fo):(wfB a (len k) && wfT k)=true → -1≤(sg1 a (sgF k) (opF k)).1∧(sg1 a (sgF k) (opF k)).1≤1:=by
 refine tree_of (P:=fun b o a k=>(wfB a (len k) && wfT k)=true → -1≤(sg1 a (sgF k) (opF k)).1∧(sg1 a (sgF k) (opF k)).1≤1) ?_ b o a k
 clear b o a k
 intro b o a k ih hw
 rw [Bool.and_eq_true] at hw
 obtain ⟨hq1,hq2,hq3,hq4⟩:=wf_parts hw.1
 unfold sg1
 split
 · rename_i h
   have hn:0≤a.num:=by
    rcases h with h|h<;>(rw [h] at hq3;simp [numB] at hq3;omega)
   show -1≤min a.num 1∧min a.num 1≤1
   omega
 · split
   · cases k with
     | nil=>exact ⟨by decide,by decide⟩
     | node b1 o1 a1 k1 r1 =>
       have h:=ih.1 (wfT_node hw.2).1
       show -1 ≤ -(sg1 a1 (sgF k1) (opF k1)).1 ∧ -(sg1 a1 (sgF k1) (opF k1)).1≤1
       omega
   · exact ⟨by decide,by decide⟩
def SgC (b o:Nat) (a:Nd) (k:Fo):Prop:=∀ w:World,ExAt w b o a k→ExOk a k→(wfB a (len k) && wfT k)=true→Calls Tryz.prog 46 #[.agg #[.int .i64 a.op,.int .i64 a.num,.string a.name,.slice a.ptr (len k) a.cap]] w (LtP w (sg1 a (sgF k) (opF k)).1 (sg1 a (sgF k) (opF k)).2)
set_option maxHeartbeats 2000000 in
theorem sign_any (b o:Nat) (a:Nd) (k:Fo):SgC b o a k:=by
 refine tree_of (P:=SgC) ?_ b o a k
 clear b o a k
 intro b o a k ih w hx hok hw
 obtain ⟨op,num,name,ptr,acap⟩:=a
 rw [Bool.and_eq_true] at hw
 obtain ⟨hq1,hq2,hq3,hq4⟩:=wf_parts hw.1
 obtain ⟨R,hR⟩:∃ R,sg1 ⟨op,num,name,ptr,acap⟩ (sgF k) (opF k)=R:=⟨_,rfl⟩
 have HR:=Lib.hid hR
 rw [hR]
 clear hR
 show Calls Tryz.prog 46 #[.agg #[.int .i64 op,.int .i64 num,.string name,.slice ptr (len k) acap]] w _
 have leaf:∀ (q:op=1∨op=2),Hid (R=(min num 1,true)):=fun q=>by unfold Hid;rw [← HR.out];unfold sg1;rw [if_pos q]
 have LF:=Lib.hid leaf
 clear leaf
 by_cases q1:op=1
 · have e:=LF.out (Or.inl q1)
   subst q1
   clear ih hx hok hw hq1 hq2 hq3 hq4 HR LF
   go_enter Tryz.func46,Tryz.ntmps46
   go_wp2
   all_goals
    go_ret2
    exact ⟨by rw [e.out];first|rfl|(simp;omega),below_box _ _⟩
 have b1:(op==1)=false:=beq_eq_false_iff_ne.2 q1
 by_cases q2:op=2
 · have e:=LF.out (Or.inr q2)
   subst q2
   clear ih hx hok hw hq1 hq2 hq3 hq4 HR LF
   go_enter Tryz.func46,Tryz.ntmps46
   go_wp2
   all_goals
    go_ret2
    exact ⟨by rw [e.out];first|rfl|(simp;omega),below_box _ _⟩
 have b2:(op==2)=false:=beq_eq_false_iff_ne.2 q2
 clear LF
 by_cases q7:op=7
 · subst q7
   have hl:0 < len k:=by simp [argB] at hq2;omega
   cases k with
   | nil=>exact absurd hl (by simp [len])
   | node b1 o1 a1 k1 r1 =>
   obtain rfl:ptr=some ⟨b,o,none⟩:=hx.1 (by simp)
   obtain ⟨⟨c0,c1,c2,c3⟩,hp1,hk1,hr1⟩:=hx.2
   have X1:=Lib.hid (show ExAt w b1 o1 a1 k1 from ⟨hp1,hk1⟩)
   have OK1:=Lib.hid (show ExOk a1 k1 from ⟨hok.2.1,hok.2.2.1⟩)
   have W1:=Lib.hid (wfT_node hw.2).1
   have IH:=Lib.hid ih.1
   have hlen:len (.node b1 o1 a1 k1 r1)≤9223372036854775807:=hok.1.2.2.2
   have hlp:(0:Int) < (len (.node b1 o1 a1 k1 r1):Int):=by omega
   have e:Hid (R=(-(sg1 a1 (sgF k1) (opF k1)).1,(sg1 a1 (sgF k1) (opF k1)).2 && decide (a1.op≠7))):=by unfold Hid;rw [← HR.out];rfl
   clear HR hx hok hw hq1 hq2 hq3 hq4 hp1 hk1 hr1 ih
   generalize hS:sg1 a1 (sgF k1) (opF k1)=S at *
   have HS:=Lib.hid hS
   clear hS
   obtain ⟨s,q⟩:=S
   have e':Hid (R=(-s,q && decide (a1.op≠7))):=e
   clear e
   have e:=e'
   clear e'
   have hg:=block_lt_of_cell c0
   simp at hg
   have hbx:Below w.heap.size w (w.alloc (.cells #[.int .i64 7,.int .i64 num,.string name,.slice (some ⟨b,o,none⟩) (len (.node b1 o1 a1 k1 r1)) acap] 25)):=below_box _ _
   have X2:=Lib.hid (X1.out.next hbx)
   go_enter Tryz.func46,Tryz.ntmps46
   go_wp2_with fail
   refine (IH.out _ X2.out OK1.out W1.out).mono ?_
   rw [HS.out]
   rintro e1 w1 ⟨rfl,hb1⟩
   have hz:=hbx.size
   simp at hz
   have hb0:Below (w.alloc (.cells #[.int .i64 7,.int .i64 num,.string name,.slice (some ⟨b,o,none⟩) (len (.node b1 o1 a1 k1 r1)) acap] 25)).heap.size (w.alloc (.cells #[.int .i64 7,.int .i64 num,.string name,.slice (some ⟨b,o,none⟩) (len (.node b1 o1 a1 k1 r1)) acap] 25)) w1:=hb1
   have x3:w1.cell? ⟨w.heap.size,3,none⟩=some (.slice (some ⟨b,o,none⟩) (len (.node b1 o1 a1 k1 r1)) acap):=by rw [hb0.cell (p:=⟨w.heap.size,3,none⟩) (by simp)];simp [go_sem]
   have y0:w1.cell? ⟨b,o,none⟩=some (.int .i64 a1.op):=by rw [(hbx.trans (hb0.mono (by simp))).cell (p:=⟨b,o,none⟩) hg];exact c0
   have HB:=Lib.hid (hbx.trans (hb0.mono (by simp)))
   clear hb1 hb0 c0 c1 c2 c3 X2 hbx hz
   go_wp2_with fail
   have hbd:=sg_bd b1 o1 a1 k1 W1.out
   rw [HS.out] at hbd
   have hbd1 : -1≤s:=hbd.1
   have hbd2:s≤1:=hbd.2
   have hnw:IntKind.i64.wrap (-s) = -s:=IntWalk.i64_in _ (by omega)
   clear hbd
   have B1:=Lib.hid HB.out.drew
   cases q
   · have ef:Hid (R=(-s,false)):=by unfold Hid;rw [e.out];rfl
     clear e HB HS
     go_region
     go_wp2
     go_ret2
     exact ⟨by rw [ef.out];rfl,B1.out⟩
   · by_cases h7:a1.op=7
     · have n7:(a1.op != 7)=false:=by simp [h7]
       have ef:Hid (R=(-s,false)):=by unfold Hid;rw [e.out];simp [h7]
       clear e HB HS h7
       go_region
       go_wp2
       go_ret2
       exact ⟨by rw [ef.out];rfl,B1.out⟩
     · have n7:(a1.op != 7)=true:=by simp [h7]
       have ef:Hid (R=(-s,true)):=by unfold Hid;rw [e.out];simp [h7]
       clear e HB HS h7
       go_region
       go_wp2
       go_ret2
       exact ⟨by rw [ef.out];rfl,B1.out⟩
 have b7:(op==7)=false:=beq_eq_false_iff_ne.2 q7
 have e:Hid (R=(0,false)):=by unfold Hid;rw [← HR.out];unfold sg1;rw [if_neg (by simp [q1,q2]),if_neg q7]
 clear ih hx hok hw hq1 hq2 hq3 hq4 HR q1 q2 q7
 go_enter Tryz.func46,Tryz.ntmps46
 go_wp2
 go_ret2
 exact ⟨by rw [e.out];rfl,below_box _ _⟩
end
section
set_option linter.unusedVariables false
set_option linter.unusedSimpArgs false
open Go.ChangeShapes Go.WideShapes Go.ChangeAt Go.RowKit
open Go.Deep (BT)
def kd1 (op:Int) (K:List Int):Int :=
 if op=1 then 1 else if op=2 then 2 else if op=3 then 3 else if op=7∨op=8∨op=9∨op=12∨op=13 then K.getD 0 0 else if op=14 then K.getD 1 0 else
 if op=10 then max (K.getD 0 0) (K.getD 1 0) else if op=11 then (if K.getD 1 0=2 then 1 else K.getD 0 0) else 4
def kdF:Fo→List Int
 | .nil=>[]
 | .node _ _ a k r=>kd1 a.op (kdF k) :: kdF r
def kdT (a:Nd) (k:Fo):Int:=kd1 a.op (kdF k)
def NuP (w:World) (v:Int) (e:Ending) (w':World):Prop:=e=.returned (.int .i64 v)∧Below w.heap.size w w'
def KdC (b o:Nat) (a:Nd) (k:Fo):Prop:=∀ w:World,ExAt w b o a k→ExOk a k→(wfB a (len k) && wfT k)=true→Calls Tryz.prog 119 #[.agg #[.int .i64 a.op,.int .i64 a.num,.string a.name,.slice a.ptr (len k) a.cap]] w (NuP w (kdT a k))
set_option maxHeartbeats 4000000 in
theorem kind_any (b o:Nat) (a:Nd) (k:Fo):KdC b o a k:=by
 refine tree_of (P:=KdC) ?_ b o a k
 clear b o a k
 intro b o a k ih w hx hok hw
 obtain ⟨op,num,name,ptr,acap⟩:=a
 rw [Bool.and_eq_true] at hw
 obtain ⟨hq1,hq2,hq3,hq4⟩:=wf_parts hw.1
 obtain ⟨R,hR⟩:∃ R,kdT ⟨op,num,name,ptr,acap⟩ k=R:=⟨_,rfl⟩
 have HR:=Lib.hid hR
 rw [hR]
 clear hR
 show Calls Tryz.prog 119 #[.agg #[.int .i64 op,.int .i64 num,.string name,.slice ptr (len k) acap]] w _
 by_cases q1:op=1
 · subst q1
   have e:Hid (R=1):=HR.out.symm
   clear ih hx hok hw hq1 hq2 hq3 hq4 HR
   go_enter Tryz.func119,Tryz.ntmps119
   go_wp2
   go_ret
   exact ⟨by rw [e.out];rfl,below_box _ _⟩
 have b1:(op==1)=false:=beq_eq_false_iff_ne.2 q1
 by_cases q2:op=2
 · subst q2
   have e:Hid (R=2):=HR.out.symm
   clear ih hx hok hw hq1 hq2 hq3 hq4 HR
   go_enter Tryz.func119,Tryz.ntmps119
   go_wp2
   go_ret
   exact ⟨by rw [e.out];rfl,below_box _ _⟩
 have b2:(op==2)=false:=beq_eq_false_iff_ne.2 q2
 by_cases q3:op=3
 · subst q3
   have e:Hid (R=3):=HR.out.symm
   clear ih hx hok hw hq1 hq2 hq3 hq4 HR
   go_enter Tryz.func119,Tryz.ntmps119
   go_wp2
   go_ret
   exact ⟨by rw [e.out];rfl,below_box _ _⟩
 have b3:(op==3)=false:=beq_eq_false_iff_ne.2 q3
 by_cases q7:op=7
 · subst q7
   have hl:0 < len k:=by simp [argB] at hq2;omega
   cases k with
   | nil=>exact absurd hl (by simp [len])
   | node b1 o1 a1 k1 r1 =>
   obtain rfl:ptr=some ⟨b,o,none⟩:=hx.1 (by simp)
   obtain ⟨⟨c0,c1,c2,c3⟩,hp1,hk1,hr1⟩:=hx.2
   have X1:=Lib.hid (show ExAt w b1 o1 a1 k1 from ⟨hp1,hk1⟩)
   have OK1:=Lib.hid (show ExOk a1 k1 from ⟨hok.2.1,hok.2.2.1⟩)
   have W1:=Lib.hid (wfT_node hw.2).1
   have IH:=Lib.hid ih.1
   have hlen:len (.node b1 o1 a1 k1 r1)≤9223372036854775807:=hok.1.2.2.2
   have hg:=block_lt_of_cell c0
   simp at hg
   have hbx:Below w.heap.size w (w.alloc (.cells #[.int .i64 7,.int .i64 num,.string name,.slice (some ⟨b,o,none⟩) (len (.node b1 o1 a1 k1 r1)) acap] 25)):=below_box _ _
   have X2:=Lib.hid (X1.out.next hbx)
   have hlp:(0:Int) < (len (.node b1 o1 a1 k1 r1):Int):=by omega
   have e:Hid (R=kdT a1 k1):=HR.out.symm
   clear HR hx hok hw hq1 hq2 hq3 hq4 hp1 hk1 hr1 ih
   go_enter Tryz.func119,Tryz.ntmps119
   go_wp2_with fail
   refine (IH.out _ X2.out OK1.out W1.out).mono ?_
   rintro e1 w1 ⟨rfl,hb1⟩
   have HB:=Lib.hid (hbx.trans (hb1.mono (by simp)))
   clear hb1 c0 c1 c2 c3 X2 hbx
   go_wp2
   go_ret
   exact ⟨by rw [e.out];rfl,HB.out⟩
 have b7:(op==7)=false:=beq_eq_false_iff_ne.2 q7
 by_cases q8:op=8
 · subst q8
   have hl:0 < len k:=by simp [argB] at hq2;omega
   cases k with
   | nil=>exact absurd hl (by simp [len])
   | node b1 o1 a1 k1 r1 =>
   obtain rfl:ptr=some ⟨b,o,none⟩:=hx.1 (by simp)
   obtain ⟨⟨c0,c1,c2,c3⟩,hp1,hk1,hr1⟩:=hx.2
   have X1:=Lib.hid (show ExAt w b1 o1 a1 k1 from ⟨hp1,hk1⟩)
   have OK1:=Lib.hid (show ExOk a1 k1 from ⟨hok.2.1,hok.2.2.1⟩)
   have W1:=Lib.hid (wfT_node hw.2).1
   have IH:=Lib.hid ih.1
   have hlen:len (.node b1 o1 a1 k1 r1)≤9223372036854775807:=hok.1.2.2.2
   have hg:=block_lt_of_cell c0
   simp at hg
   have hbx:Below w.heap.size w (w.alloc (.cells #[.int .i64 8,.int .i64 num,.string name,.slice (some ⟨b,o,none⟩) (len (.node b1 o1 a1 k1 r1)) acap] 25)):=below_box _ _
   have X2:=Lib.hid (X1.out.next hbx)
   have hlp:(0:Int) < (len (.node b1 o1 a1 k1 r1):Int):=by omega
   have e:Hid (R=kdT a1 k1):=HR.out.symm
   clear HR hx hok hw hq1 hq2 hq3 hq4 hp1 hk1 hr1 ih
   go_enter Tryz.func119,Tryz.ntmps119
   go_wp2_with fail
   refine (IH.out _ X2.out OK1.out W1.out).mono ?_
   rintro e1 w1 ⟨rfl,hb1⟩
   have HB:=Lib.hid (hbx.trans (hb1.mono (by simp)))
   clear hb1 c0 c1 c2 c3 X2 hbx
   go_wp2
   go_ret
   exact ⟨by rw [e.out];rfl,HB.out⟩
 have b8:(op==8)=false:=beq_eq_false_iff_ne.2 q8
 by_cases q9:op=9
 · subst q9
   have hl:0 < len k:=by simp [argB] at hq2;omega
   cases k with
   | nil=>exact absurd hl (by simp [len])
   | node b1 o1 a1 k1 r1 =>
   obtain rfl:ptr=some ⟨b,o,none⟩:=hx.1 (by simp)
   obtain ⟨⟨c0,c1,c2,c3⟩,hp1,hk1,hr1⟩:=hx.2
   have X1:=Lib.hid (show ExAt w b1 o1 a1 k1 from ⟨hp1,hk1⟩)
   have OK1:=Lib.hid (show ExOk a1 k1 from ⟨hok.2.1,hok.2.2.1⟩)
   have W1:=Lib.hid (wfT_node hw.2).1
   have IH:=Lib.hid ih.1
   have hlen:len (.node b1 o1 a1 k1 r1)≤9223372036854775807:=hok.1.2.2.2
   have hg:=block_lt_of_cell c0
   simp at hg
   have hbx:Below w.heap.size w (w.alloc (.cells #[.int .i64 9,.int .i64 num,.string name,.slice (some ⟨b,o,none⟩) (len (.node b1 o1 a1 k1 r1)) acap] 25)):=below_box _ _
   have X2:=Lib.hid (X1.out.next hbx)
   have hlp:(0:Int) < (len (.node b1 o1 a1 k1 r1):Int):=by omega
   have e:Hid (R=kdT a1 k1):=HR.out.symm
   clear HR hx hok hw hq1 hq2 hq3 hq4 hp1 hk1 hr1 ih
   go_enter Tryz.func119,Tryz.ntmps119
   go_wp2_with fail
   refine (IH.out _ X2.out OK1.out W1.out).mono ?_
   rintro e1 w1 ⟨rfl,hb1⟩
   have HB:=Lib.hid (hbx.trans (hb1.mono (by simp)))
   clear hb1 c0 c1 c2 c3 X2 hbx
   go_wp2
   go_ret
   exact ⟨by rw [e.out];rfl,HB.out⟩
 have b9:(op==9)=false:=beq_eq_false_iff_ne.2 q9
 by_cases q12:op=12
 · subst q12
   have hl:0 < len k:=by simp [argB] at hq2;omega
   cases k with
   | nil=>exact absurd hl (by simp [len])
   | node b1 o1 a1 k1 r1 =>
   obtain rfl:ptr=some ⟨b,o,none⟩:=hx.1 (by simp)
   obtain ⟨⟨c0,c1,c2,c3⟩,hp1,hk1,hr1⟩:=hx.2
   have X1:=Lib.hid (show ExAt w b1 o1 a1 k1 from ⟨hp1,hk1⟩)
   have OK1:=Lib.hid (show ExOk a1 k1 from ⟨hok.2.1,hok.2.2.1⟩)
   have W1:=Lib.hid (wfT_node hw.2).1
   have IH:=Lib.hid ih.1
   have hlen:len (.node b1 o1 a1 k1 r1)≤9223372036854775807:=hok.1.2.2.2
   have hg:=block_lt_of_cell c0
   simp at hg
   have hbx:Below w.heap.size w (w.alloc (.cells #[.int .i64 12,.int .i64 num,.string name,.slice (some ⟨b,o,none⟩) (len (.node b1 o1 a1 k1 r1)) acap] 25)):=below_box _ _
   have X2:=Lib.hid (X1.out.next hbx)
   have hlp:(0:Int) < (len (.node b1 o1 a1 k1 r1):Int):=by omega
   have e:Hid (R=kdT a1 k1):=HR.out.symm
   clear HR hx hok hw hq1 hq2 hq3 hq4 hp1 hk1 hr1 ih
   go_enter Tryz.func119,Tryz.ntmps119
   go_wp2_with fail
   refine (IH.out _ X2.out OK1.out W1.out).mono ?_
   rintro e1 w1 ⟨rfl,hb1⟩
   have HB:=Lib.hid (hbx.trans (hb1.mono (by simp)))
   clear hb1 c0 c1 c2 c3 X2 hbx
   go_wp2
   go_ret
   exact ⟨by rw [e.out];rfl,HB.out⟩
 have b12:(op==12)=false:=beq_eq_false_iff_ne.2 q12
 by_cases q13:op=13
 · subst q13
   have hl:0 < len k:=by simp [argB] at hq2;omega
   cases k with
   | nil=>exact absurd hl (by simp [len])
   | node b1 o1 a1 k1 r1 =>
   obtain rfl:ptr=some ⟨b,o,none⟩:=hx.1 (by simp)
   obtain ⟨⟨c0,c1,c2,c3⟩,hp1,hk1,hr1⟩:=hx.2
   have X1:=Lib.hid (show ExAt w b1 o1 a1 k1 from ⟨hp1,hk1⟩)
   have OK1:=Lib.hid (show ExOk a1 k1 from ⟨hok.2.1,hok.2.2.1⟩)
   have W1:=Lib.hid (wfT_node hw.2).1
   have IH:=Lib.hid ih.1
   have hlen:len (.node b1 o1 a1 k1 r1)≤9223372036854775807:=hok.1.2.2.2
   have hg:=block_lt_of_cell c0
   simp at hg
   have hbx:Below w.heap.size w (w.alloc (.cells #[.int .i64 13,.int .i64 num,.string name,.slice (some ⟨b,o,none⟩) (len (.node b1 o1 a1 k1 r1)) acap] 25)):=below_box _ _
   have X2:=Lib.hid (X1.out.next hbx)
   have hlp:(0:Int) < (len (.node b1 o1 a1 k1 r1):Int):=by omega
   have e:Hid (R=kdT a1 k1):=HR.out.symm
   clear HR hx hok hw hq1 hq2 hq3 hq4 hp1 hk1 hr1 ih
   go_enter Tryz.func119,Tryz.ntmps119
   go_wp2_with fail
   refine (IH.out _ X2.out OK1.out W1.out).mono ?_
   rintro e1 w1 ⟨rfl,hb1⟩
   have HB:=Lib.hid (hbx.trans (hb1.mono (by simp)))
   clear hb1 c0 c1 c2 c3 X2 hbx
   go_wp2
   go_ret
   exact ⟨by rw [e.out];rfl,HB.out⟩
 have b13:(op==13)=false:=beq_eq_false_iff_ne.2 q13
 by_cases q14:op=14
 · subst q14
   have hl:0 < len k:=by simp [argB] at hq2;omega
   cases k with
   | nil=>exact absurd hl (by simp [len])
   | node b1 o1 a1 k1 r1 =>
   obtain rfl:ptr=some ⟨b,o,none⟩:=hx.1 (by simp)
   obtain ⟨⟨c0,c1,c2,c3⟩,hp1,hk1,hr1⟩:=hx.2
   have X1:=Lib.hid (show ExAt w b1 o1 a1 k1 from ⟨hp1,hk1⟩)
   have OK1:=Lib.hid (show ExOk a1 k1 from ⟨hok.2.1,hok.2.2.1⟩)
   have W1:=Lib.hid (wfT_node hw.2).1
   have IH:=Lib.hid ih.1
   have hlen:len (.node b1 o1 a1 k1 r1)≤9223372036854775807:=hok.1.2.2.2
   have hg:=block_lt_of_cell c0
   simp at hg
   have hbx:Below w.heap.size w (w.alloc (.cells #[.int .i64 14,.int .i64 num,.string name,.slice (some ⟨b,o,none⟩) (len (.node b1 o1 a1 k1 r1)) acap] 25)):=below_box _ _
   have X2:=Lib.hid (X1.out.next hbx)
   have hl2:1 < len (.node b1 o1 a1 k1 r1):=by simp [argB] at hq2;omega
   cases r1 with
   | nil=>exact absurd hl2 (by simp [len])
   | node b2 o2 a2 k2 r2 =>
   obtain ⟨⟨d0,d1,d2,d3⟩,hp2,hk2,hr2⟩:=hr1
   have Y1:=Lib.hid (show ExAt w b2 o2 a2 k2 from ⟨hp2,hk2⟩)
   have OK2:=Lib.hid (show ExOk a2 k2 from ⟨hok.2.2.2.1,hok.2.2.2.2.1⟩)
   have W2:=Lib.hid (wfT_node (wfT_node hw.2).2).1
   have IH2:=Lib.hid ih.2.1
   have Y2:=Lib.hid (Y1.out.next hbx)
   have hlp1:(1:Int) < (len (.node b1 o1 a1 k1 (.node b2 o2 a2 k2 r2)):Int):=by omega
   have hlp:(0:Int) < (len (.node b1 o1 a1 k1 (.node b2 o2 a2 k2 r2)):Int):=by omega
   have e:Hid (R=kdT a2 k2):=HR.out.symm
   clear HR hx hok hw hq1 hq2 hq3 hq4 hp1 hk1 hp2 hk2 hr2 ih
   go_enter Tryz.func119,Tryz.ntmps119
   go_wp2_with fail
   refine (IH2.out _ Y2.out OK2.out W2.out).mono ?_
   rintro e1 w1 ⟨rfl,hb1⟩
   have HB:=Lib.hid (hbx.trans (hb1.mono (by simp)))
   clear hb1 c0 c1 c2 c3 d0 d1 d2 d3 X2 Y2 hbx
   go_wp2
   go_ret
   exact ⟨by rw [e.out];rfl,HB.out⟩
 have b14:(op==14)=false:=beq_eq_false_iff_ne.2 q14
 by_cases q10:op=10
 · subst q10
   have hl:0 < len k:=by simp [argB] at hq2;omega
   cases k with
   | nil=>exact absurd hl (by simp [len])
   | node b1 o1 a1 k1 r1 =>
   obtain rfl:ptr=some ⟨b,o,none⟩:=hx.1 (by simp)
   obtain ⟨⟨c0,c1,c2,c3⟩,hp1,hk1,hr1⟩:=hx.2
   have X1:=Lib.hid (show ExAt w b1 o1 a1 k1 from ⟨hp1,hk1⟩)
   have OK1:=Lib.hid (show ExOk a1 k1 from ⟨hok.2.1,hok.2.2.1⟩)
   have W1:=Lib.hid (wfT_node hw.2).1
   have IH:=Lib.hid ih.1
   have hlen:len (.node b1 o1 a1 k1 r1)≤9223372036854775807:=hok.1.2.2.2
   have hg:=block_lt_of_cell c0
   simp at hg
   have hbx:Below w.heap.size w (w.alloc (.cells #[.int .i64 10,.int .i64 num,.string name,.slice (some ⟨b,o,none⟩) (len (.node b1 o1 a1 k1 r1)) acap] 25)):=below_box _ _
   have X2:=Lib.hid (X1.out.next hbx)
   have hl2:1 < len (.node b1 o1 a1 k1 r1):=by simp [argB] at hq2;omega
   cases r1 with
   | nil=>exact absurd hl2 (by simp [len])
   | node b2 o2 a2 k2 r2 =>
   obtain ⟨⟨d0,d1,d2,d3⟩,hp2,hk2,hr2⟩:=hr1
   have Y1:=Lib.hid (show ExAt w b2 o2 a2 k2 from ⟨hp2,hk2⟩)
   have OK2:=Lib.hid (show ExOk a2 k2 from ⟨hok.2.2.2.1,hok.2.2.2.2.1⟩)
   have W2:=Lib.hid (wfT_node (wfT_node hw.2).2).1
   have IH2:=Lib.hid ih.2.1
   have Y2:=Lib.hid (Y1.out.next hbx)
   have hlp1:(1:Int) < (len (.node b1 o1 a1 k1 (.node b2 o2 a2 k2 r2)):Int):=by omega
   have hlp:(0:Int) < (len (.node b1 o1 a1 k1 (.node b2 o2 a2 k2 r2)):Int):=by omega
   have e:Hid (R=max (kdT a1 k1) (kdT a2 k2)):=HR.out.symm
   clear HR hx hok hw hq1 hq2 hq3 hq4 hp1 hk1 hp2 hk2 hr2 ih
   generalize hm1:kdT a1 k1=m1 at *
   generalize hm2:kdT a2 k2=m2 at *
   have HM:=Lib.hid (And.intro hm1 hm2)
   clear hm1 hm2
   go_enter Tryz.func119,Tryz.ntmps119
   go_upto_region 17 with (fail)
   have x3:(w.alloc (.cells #[.int .i64 10,.int .i64 num,.string name,.slice (some ⟨b,o,none⟩) (len (.node b1 o1 a1 k1 (.node b2 o2 a2 k2 r2))) acap] 25)).cell? ⟨w.heap.size,3,none⟩=some (.slice (some ⟨b,o,none⟩) (len (.node b1 o1 a1 k1 (.node b2 o2 a2 k2 r2))) acap):=by simp [go_sem]
   have c0':(w.alloc (.cells #[.int .i64 10,.int .i64 num,.string name,.slice (some ⟨b,o,none⟩) (len (.node b1 o1 a1 k1 (.node b2 o2 a2 k2 r2))) acap] 25)).cell? ⟨b,o,none⟩=some (.int .i64 a1.op):=by rw [hbx.cell (p:=⟨b,o,none⟩) hg];exact c0
   have c1':(w.alloc (.cells #[.int .i64 10,.int .i64 num,.string name,.slice (some ⟨b,o,none⟩) (len (.node b1 o1 a1 k1 (.node b2 o2 a2 k2 r2))) acap] 25)).cell? ⟨b,o+1,none⟩=some (.int .i64 a1.num):=by rw [hbx.cell (p:=⟨b,o+1,none⟩) hg];exact c1
   have c2':(w.alloc (.cells #[.int .i64 10,.int .i64 num,.string name,.slice (some ⟨b,o,none⟩) (len (.node b1 o1 a1 k1 (.node b2 o2 a2 k2 r2))) acap] 25)).cell? ⟨b,o+2,none⟩=some (.string a1.name):=by rw [hbx.cell (p:=⟨b,o+2,none⟩) hg];exact c2
   have c3':(w.alloc (.cells #[.int .i64 10,.int .i64 num,.string name,.slice (some ⟨b,o,none⟩) (len (.node b1 o1 a1 k1 (.node b2 o2 a2 k2 r2))) acap] 25)).cell? ⟨b,o+3,none⟩=some (.slice a1.ptr (len k1) a1.cap):=by rw [hbx.cell (p:=⟨b,o+3,none⟩) hg];exact c3
   have d0':(w.alloc (.cells #[.int .i64 10,.int .i64 num,.string name,.slice (some ⟨b,o,none⟩) (len (.node b1 o1 a1 k1 (.node b2 o2 a2 k2 r2))) acap] 25)).cell? ⟨b,o+4,none⟩=some (.int .i64 a2.op):=by rw [hbx.cell (p:=⟨b,o+4,none⟩) hg];exact d0
   have d1':(w.alloc (.cells #[.int .i64 10,.int .i64 num,.string name,.slice (some ⟨b,o,none⟩) (len (.node b1 o1 a1 k1 (.node b2 o2 a2 k2 r2))) acap] 25)).cell? ⟨b,o+4+1,none⟩=some (.int .i64 a2.num):=by rw [hbx.cell (p:=⟨b,o+4+1,none⟩) hg];exact d1
   have d2':(w.alloc (.cells #[.int .i64 10,.int .i64 num,.string name,.slice (some ⟨b,o,none⟩) (len (.node b1 o1 a1 k1 (.node b2 o2 a2 k2 r2))) acap] 25)).cell? ⟨b,o+4+2,none⟩=some (.string a2.name):=by rw [hbx.cell (p:=⟨b,o+4+2,none⟩) hg];exact d2
   have d3':(w.alloc (.cells #[.int .i64 10,.int .i64 num,.string name,.slice (some ⟨b,o,none⟩) (len (.node b1 o1 a1 k1 (.node b2 o2 a2 k2 r2))) acap] 25)).cell? ⟨b,o+4+3,none⟩=some (.slice a2.ptr (len k2) a2.cap):=by rw [hbx.cell (p:=⟨b,o+4+3,none⟩) hg];exact d3
   have BW:=Lib.hid hbx
   clear c0 c1 c2 c3 d0 d1 d2 d3 hbx
   generalize w.alloc (.cells #[.int .i64 10,.int .i64 num,.string name,.slice (some ⟨b,o,none⟩) (len (.node b1 o1 a1 k1 (.node b2 o2 a2 k2 r2))) acap] 25)=w1 at *
   have C1:Hid (∀ dq os,Calls Tryz.prog 119 #[.agg #[.int .i64 a1.op,.int .i64 a1.num,.string a1.name,.slice a1.ptr (len k1) a1.cap]] (Sort.grow (redrawn w1 dq) os) fun e w''=>e=.returned (.int .i64 m1)∧∃ p:Regrown,w''=Sort.grow (redrawn w1 p.d) p.os):=by
    intro dq os
    have hb:=below_regrown w1 dq os
    have q:=IH.out _ (X2.out.next hb) OK1.out W1.out
    rw [HM.out.1] at q
    exact Calls.regrown_of q
   have C2:Hid (∀ dq os,Calls Tryz.prog 119 #[.agg #[.int .i64 a2.op,.int .i64 a2.num,.string a2.name,.slice a2.ptr (len k2) a2.cap]] (Sort.grow (redrawn w1 dq) os) fun e w''=>e=.returned (.int .i64 m2)∧∃ p:Regrown,w''=Sort.grow (redrawn w1 p.d) p.os):=by
    intro dq os
    have hb:=below_regrown w1 dq os
    have q:=IH2.out _ (Y2.out.next hb) OK2.out W2.out
    rw [HM.out.2] at q
    exact Calls.regrown_of q
   have e0:=fun d os=>cell_regrown c0' d os
   have e1:=fun d os=>cell_regrown c1' d os
   have e2:=fun d os=>cell_regrown c2' d os
   have e3:=fun d os=>cell_regrown c3' d os
   have e4:=fun d os=>cell_regrown d0' d os
   have e5:=fun d os=>cell_regrown d1' d os
   have e6:=fun d os=>cell_regrown d2' d os
   have e7:=fun d os=>cell_regrown d3' d os
   have e8:=fun d os=>cell_regrown x3 d os
   refine wp_region_quiet_below (by kernel_rfl) (by kernel_rfl) ?_
   repeat (quiet_step (with_reducible first|exact C1.out _ _|exact C2.out _ _))
   all_goals
    refine wpQuiet_nil ?_
    intro _ hw'
    obtain ⟨⟨dq,osq⟩,hw''⟩:=hw'
    subst hw''
    have hb:=below_regrown w1 dq osq
    have HB:=Lib.hid (BW.out.trans (hb.mono BW.out.size))
    clear hb e0 e1 e2 e3 e4 e5 e6 e7 e8 C1 C2 X2 Y2
    generalize Sort.grow (redrawn w1 dq) osq=w4 at *
    go_wp2
    go_ret
    exact ⟨by rw [e.out];rfl,HB.out⟩
 have b10:(op==10)=false:=beq_eq_false_iff_ne.2 q10
 by_cases q11:op=11
 · subst q11
   have hl:0 < len k:=by simp [argB] at hq2;omega
   cases k with
   | nil=>exact absurd hl (by simp [len])
   | node b1 o1 a1 k1 r1 =>
   obtain rfl:ptr=some ⟨b,o,none⟩:=hx.1 (by simp)
   obtain ⟨⟨c0,c1,c2,c3⟩,hp1,hk1,hr1⟩:=hx.2
   have X1:=Lib.hid (show ExAt w b1 o1 a1 k1 from ⟨hp1,hk1⟩)
   have OK1:=Lib.hid (show ExOk a1 k1 from ⟨hok.2.1,hok.2.2.1⟩)
   have W1:=Lib.hid (wfT_node hw.2).1
   have IH:=Lib.hid ih.1
   have hlen:len (.node b1 o1 a1 k1 r1)≤9223372036854775807:=hok.1.2.2.2
   have hg:=block_lt_of_cell c0
   simp at hg
   have hbx:Below w.heap.size w (w.alloc (.cells #[.int .i64 11,.int .i64 num,.string name,.slice (some ⟨b,o,none⟩) (len (.node b1 o1 a1 k1 r1)) acap] 25)):=below_box _ _
   have X2:=Lib.hid (X1.out.next hbx)
   have hl2:1 < len (.node b1 o1 a1 k1 r1):=by simp [argB] at hq2;omega
   cases r1 with
   | nil=>exact absurd hl2 (by simp [len])
   | node b2 o2 a2 k2 r2 =>
   obtain ⟨⟨d0,d1,d2,d3⟩,hp2,hk2,hr2⟩:=hr1
   have Y1:=Lib.hid (show ExAt w b2 o2 a2 k2 from ⟨hp2,hk2⟩)
   have OK2:=Lib.hid (show ExOk a2 k2 from ⟨hok.2.2.2.1,hok.2.2.2.2.1⟩)
   have W2:=Lib.hid (wfT_node (wfT_node hw.2).2).1
   have IH2:=Lib.hid ih.2.1
   have Y2:=Lib.hid (Y1.out.next hbx)
   have hlp1:(1:Int) < (len (.node b1 o1 a1 k1 (.node b2 o2 a2 k2 r2)):Int):=by omega
   have hlp:(0:Int) < (len (.node b1 o1 a1 k1 (.node b2 o2 a2 k2 r2)):Int):=by omega
   have e:Hid (R=if kdT a2 k2=2 then 1 else kdT a1 k1):=HR.out.symm
   clear HR hx hok hw hq1 hq2 hq3 hq4 hp1 hk1 hp2 hk2 hr2 ih
   go_enter Tryz.func119,Tryz.ntmps119
   go_wp2_with fail
   refine (IH2.out _ Y2.out OK2.out W2.out).mono ?_
   rintro e1 w1 ⟨rfl,hb1⟩
   have hb0:Below (w.alloc (.cells #[.int .i64 11,.int .i64 num,.string name,.slice (some ⟨b,o,none⟩) (len (.node b1 o1 a1 k1 (.node b2 o2 a2 k2 r2))) acap] 25)).heap.size (w.alloc (.cells #[.int .i64 11,.int .i64 num,.string name,.slice (some ⟨b,o,none⟩) (len (.node b1 o1 a1 k1 (.node b2 o2 a2 k2 r2))) acap] 25)) w1:=hb1
   have x3:w1.cell? ⟨w.heap.size,3,none⟩=some (.slice (some ⟨b,o,none⟩) (len (.node b1 o1 a1 k1 (.node b2 o2 a2 k2 r2))) acap):=by rw [hb0.cell (p:=⟨w.heap.size,3,none⟩) (by simp)];simp [go_sem]
   have hbw:=hbx.trans (hb0.mono (by simp))
   have y0:w1.cell? ⟨b,o,none⟩=some (.int .i64 a1.op):=by rw [hbw.cell (p:=⟨b,o,none⟩) hg];exact c0
   have y1:w1.cell? ⟨b,o+1,none⟩=some (.int .i64 a1.num):=by rw [hbw.cell (p:=⟨b,o+1,none⟩) hg];exact c1
   have y2:w1.cell? ⟨b,o+2,none⟩=some (.string a1.name):=by rw [hbw.cell (p:=⟨b,o+2,none⟩) hg];exact c2
   have y3:w1.cell? ⟨b,o+3,none⟩=some (.slice a1.ptr (len k1) a1.cap):=by rw [hbw.cell (p:=⟨b,o+3,none⟩) hg];exact c3
   have HB:=Lib.hid hbw
   have X3:=Lib.hid (X1.out.next hbw)
   clear hb1 hb0 hbw c0 c1 c2 c3 d0 d1 d2 d3 X2 Y2 hbx
   by_cases h2:kdT a2 k2=2
   · have n2:(kdT a2 k2==2)=true:=by simp [h2]
     have ef:Hid (R=1):=by unfold Hid;rw [e.out,if_pos h2]
     clear e h2
     go_wp2
     go_ret
     exact ⟨by rw [ef.out];rfl,HB.out⟩
   · have n2:(kdT a2 k2==2)=false:=by simp [h2]
     have ef:Hid (R=kdT a1 k1):=by unfold Hid;rw [e.out,if_neg h2]
     clear e h2
     go_wp2_with fail
     refine (IH.out _ X3.out OK1.out W1.out).mono ?_
     rintro e2 w2 ⟨rfl,hb2⟩
     have HB2:=Lib.hid (HB.out.trans (hb2.mono HB.out.size))
     clear hb2
     go_wp2
     go_ret
     exact ⟨by rw [ef.out];rfl,HB2.out⟩
 have b11:(op==11)=false:=beq_eq_false_iff_ne.2 q11
 have e:Hid (R=4):=by unfold Hid;rw [← HR.out];simp [kdT,kd1,q1,q2,q3,q7,q8,q9,q10,q11,q12,q13,q14]
 clear ih hx hok hw hq1 hq2 hq3 hq4 HR q1 q2 q3 q7 q8 q9 q10 q11 q12 q13 q14
 go_enter Tryz.func119,Tryz.ntmps119
 go_wp2
 go_ret
 exact ⟨by rw [e.out];rfl,below_box _ _⟩
end
section
set_option linter.unusedVariables false
set_option linter.unusedSimpArgs false
open Go.ChangeShapes Go.WideShapes Go.ChangeAt Go.RowKit
open Go.Deep (BT)
def nlV:Value:=.func (.func 116) #[] #[]
def IxP (w:World) (B:Bool) (e:Ending) (w':World):Prop:=∃ v:Int,e=.returned (.int .i64 v)∧(decide (0≤v)=!B)∧Below w.heap.size w w'
set_option maxHeartbeats 2000000 in
theorem index_any (b o cap:Nat) (ptr:Option Addr) (k:Fo) (w:World) (hp:k≠.nil→ptr=some ⟨b,o,none⟩) (hx:FoAt w k b o) (hok:FoOk k) (hw:wfT k=true) (hlen:len k≤9223372036854775806) :
 Calls Tryz.prog 155 #[.slice ptr (len k) cap,nlV] w (IxP w ((kids k).all isLit)):=by
 have HX:=Lib.hid hx
 have HOK:=Lib.hid hok
 have HP:=Lib.hid hp
 have HW:=Lib.hid hw
 clear hx hok hp hw
 obtain ⟨R,hR⟩:∃ R,(kids k).all isLit=R:=⟨_,rfl⟩
 have HR0:=Lib.hid hR
 rw [hR]
 clear hR
 unfold nlV
 go_enter Tryz.func155,Tryz.ntmps155
 go_wp2_with fail
 go_loopw [8] (fun i wr=>∃ (j:Nat) (r:Fo),i=.int .i64 j∧Hid (j+len r=len k∧FoAt wr r b (o+j * 4)∧FoOk r∧wfT r=true∧(kids r).all isLit=R∧Below w.heap.size w wr)) (fun i _=>len k - (intOf i).toNat)
 case atStart =>
  exact ⟨0,k,rfl,by omega,by rw [Nat.zero_mul,Nat.add_zero];exact HX.out,HOK.out,HW.out,HR0.out,Below.refl _ _⟩
 case round =>
  obtain ⟨j,r,rfl,HR⟩:=hrel
  cases r with
  | nil =>
    have hj:¬ (j:Int) < (len k:Int):=by have:=HR.out.1;simp [len] at this;omega
    go_wp2
    go_ret
    exact ⟨-1,rfl,by rw [← HR.out.2.2.2.2.1];rfl,HR.out.2.2.2.2.2⟩
  | node b1 o1 a1 k1 r1 =>
    have hj:j < len k:=by have:=HR.out.1;simp [len] at this;omega
    obtain rfl:ptr=some ⟨b,o,none⟩:=HP.out (by rintro rfl;simp [len] at hj)
    obtain ⟨⟨c0,c1,c2,c3⟩,hp1,hk1,hr1⟩:=HR.out.2.1
    have X1:Hid (ExAt wr b1 o1 a1 k1):=⟨hp1,hk1⟩
    have N1:=Lib.hid hr1
    clear hp1 hk1 hr1
    have hj1:(j:Int) < (len k:Int):=by omega
    have W1:=Lib.hid (wfT_node HR.out.2.2.2.1)
    have OK1:=Lib.hid HR.out.2.2.1
    have hm:Hid (MinAt wr a1.op a1.ptr (len k1) (kop ⟨b1,o1,a1,k1⟩) (knum ⟨b1,o1,a1,k1⟩)):=MinAt.of (c:=⟨b1,o1,a1,k1⟩) X1.out (fun h=>by
     have hq:=W1.out.1
     rw [Bool.and_eq_true] at hq
     have h2:=(wf_parts hq.1).2.1
     have h':a1.op=7:=h
     rw [h'] at h2
     simp [argB] at h2
     show 0 < len k1
     omega) OK1.out.1.2.2.2
    have A1:Hid ((isLit ⟨b1,o1,a1,k1⟩ && (kids r1).all isLit)=R):=HR.out.2.2.2.2.1
    go_wp2_with fail
    refine (notlit_any _ _ _ _ _ _ _ _ _ hm.out).mono ?_
    rintro e w1 ⟨rfl,hb⟩
    rw [← isLit_b ⟨b1,o1,a1,k1⟩]
    have B1:=Lib.hid (HR.out.2.2.2.2.2.trans (hb.mono HR.out.2.2.2.2.2.size))
    have N2:=Lib.hid (N1.out.next hb)
    clear hb c0 c1 c2 c3
    cases hl:isLit ⟨b1,o1,a1,k1⟩
    · have A2:Hid (R=false):=by unfold Hid;rw [← A1.out,hl];rfl
      clear A1 hl
      go_wp2
      go_ret
      exact ⟨j,rfl,by rw [A2.out];simp,B1.out⟩
    · have A2:Hid ((kids r1).all isLit=R):=by unfold Hid;rw [← A1.out,hl];rfl
      clear A1 hl
      go_wp2
      go_roundw
      case rel =>
       obtain ⟨q1,-,-,-,-,-⟩:=HR.out
       simp [len] at q1
       refine ⟨j+1,r1,by go_num,by omega,?_,OK1.out.2.2,W1.out.2,A2.out,B1.out⟩
       rw [Nat.add_mul,Nat.one_mul,← Nat.add_assoc];exact N2.out
      case measure=>simp [intOf];omega
theorem contains_any (b o cap:Nat) (ptr:Option Addr) (k:Fo) (w:World) (hp:k≠.nil→ptr=some ⟨b,o,none⟩) (hx:FoAt w k b o) (hok:FoOk k) (hw:wfT k=true) (hlen:len k≤9223372036854775806) :
 Calls Tryz.prog 115 #[.slice ptr (len k) cap,nlV] w (TsP w (!((kids k).all isLit))):=by
 have C:=Lib.hid (index_any b o cap ptr k w hp hx hok hw hlen)
 clear hp hx hok hw
 generalize (kids k).all isLit=R at *
 unfold nlV at *
 go_enter Tryz.func115,Tryz.ntmps115
 go_wp2_with fail
 refine C.out.mono ?_
 rintro e w1 ⟨v,rfl,hv,hb⟩
 have HV:=Lib.hid hv
 have HB:=Lib.hid hb
 clear hv hb
 go_wp2
 go_ret
 exact ⟨by rw [← HV.out];rfl,HB.out⟩
end
end Go.Proofs.YtfoedbfkddoibaaGreat
