import Derived.Test.YtcejjdmnlejbaaaGreatDoorBTkN
import Derived.Test.YtcejjdmnlejbaaaGreatDoorBTvt
namespace Go.Proofs.YtcejjdmnlejbaaaGreatDoor
set_option linter.unusedVariables false
set_option linter.unusedSimpArgs false
open Go.ChangeShapes Go.WideShapes Go.ChangeAt Go.RowKit
theorem isEmpty_size (s:ByteArray):s.toList.isEmpty=decide (s.size=0):=by
 rw [Lib.toList_data]
 cases h:s.data.toList with
 | nil=>have:=len_atT s;rw [h] at this;simp at this;simp [← this]
 | cons a l=>have:=len_atT s;rw [h] at this;simp at this;simp [← this]
theorem hp_le (s:ByteArray) (b:Bool) (w:World) (h:Lib.hasPrefix s.data.toList [60,61]=b):Calls Tryz.prog 116 #[.string s,.string ⟨#[60,61]⟩] w fun e w'=>e=.returned (.bool b)∧w=w':=by
 refine (Tryz.strings_HasPrefix s ⟨#[60,61]⟩ w).mono ?_
 rintro e w' ⟨rfl,rfl⟩
 exact ⟨ret_boolT h,rfl⟩
theorem ix_sg (c:UInt8) (w:World):Calls Tryz.prog 117 #[.string ⟨#[43,45,42,47,40,41,44,60,61]⟩,.int .u8 c.toNat] w fun e w'=>∃ m:Int,e=.returned (.int .i64 m)∧w=w'∧decide (0≤m)=Tk.inS c:=by
 refine (Tryz.strings_IndexByte ⟨#[43,45,42,47,40,41,44,60,61]⟩ c.toNat w).mono ?_
 rintro e w' ⟨rfl,rfl⟩
 refine ⟨_,rfl,rfl,?_⟩
 have:(c.toNat:Int).toNat.toUInt8=c:=by rw [Int.toNat_natCast];exact UInt8.ofNat_toNat
 rw [this]
 exact inS_ix c
theorem ex00 (s:ByteArray):s.extract 0 0=⟨#[]⟩:=by
 apply ByteArray.ext
 simp
theorem sgn_two {l:List UInt8} (h:Lib.hasPrefix l [60,61]=true):Tk.sgn l=2∧2≤l.length:=by
 rw [sgn_has,decide_eq_true_eq] at h
 have h2:=Tk.sgn_le l
 have h1:Tk.sgn l=2:=by unfold Tk.sgn;rw [if_pos h]
 exact ⟨h1,by omega⟩
theorem sgn_one {l:List UInt8} (h:Lib.hasPrefix l [60,61]=false) (hl:1≤l.length):Tk.sgn l=if Tk.inS (l.getD 0 0)=true then 1 else 0:=by
 rw [sgn_has,decide_eq_false_iff_not] at h
 unfold Tk.sgn
 rw [if_neg h]
 by_cases q:Tk.inS (l.getD 0 0)=true
 · rw [if_pos ⟨hl,q⟩,if_pos q]
 · rw [if_neg (fun z=>q z.2),if_neg q]
theorem sgn_nil {l:List UInt8} (hl:l.length=0):Tk.sgn l=0:=by have:=Tk.sgn_le l;omega
set_option maxHeartbeats 1000000 in
theorem tsign_any (s:ByteArray) (w:World) (hs:s.size≤9223372036854775807) :
 Calls Tryz.prog 68 #[.string s] w fun e w'=>e=.returned (.string (s.extract 0 (Tk.sgn s.data.toList)))∧w=w':=by
 cases hp:Lib.hasPrefix s.data.toList [60,61] with
 | true =>
   obtain ⟨h1,h2⟩:=sgn_two hp
   rw [len_atT] at h2
   rw [h1]
   have HP:=Lib.hid hp
   clear hp h1
   go_enter Tryz.func68,Tryz.ntmps68
   go_wp2_with (go_at_call 116;refine (hp_le _ _ _ HP.out).mono ?_;rintro e w' ⟨rfl,rfl⟩)
   go_ret
   exact ⟨rfl,rfl⟩
 | false =>
   have HP:=Lib.hid hp
   by_cases h0:s.size=0
   · have h1:=sgn_nil (l:=s.data.toList) (by rw [len_atT];exact h0)
     have e1:s.toList.isEmpty=true:=by rw [isEmpty_size];simp [h0]
     have e2:(!s.toList.isEmpty)=false:=by rw [e1];rfl
     rw [h1,ex00]
     clear hp h0 h1
     go_enter Tryz.func68,Tryz.ntmps68
     go_wp2_with (go_at_call 116;refine (hp_le _ _ _ HP.out).mono ?_;rintro e w' ⟨rfl,rfl⟩)
     go_ret
     exact ⟨rfl,rfl⟩
   · have hlt:0 < s.size:=by omega
     have h1:=sgn_one hp (by rw [len_atT];omega)
     rw [getD_atT s 0 hlt] at h1
     have e1:s.toList.isEmpty=false:=by rw [isEmpty_size];simp [h0]
     have e2:(!s.toList.isEmpty)=true:=by rw [e1];rfl
     cases hi:Tk.inS s[0] with
     | true =>
       rw [hi,if_pos rfl] at h1
       rw [h1]
       have HI:=Lib.hid hi
       clear hp h0 h1 hi
       go_enter Tryz.func68,Tryz.ntmps68
       go_wp2_with (first|(go_at_call 116;refine (hp_le _ _ _ HP.out).mono ?_;rintro e w' ⟨rfl,rfl⟩)|(go_at_call 117;refine (ix_sg _ _).mono ?_;rintro e w' ⟨m,rfl,rfl,hm⟩;rw [HI.out,decide_eq_true_eq] at hm))
       go_ret
       exact ⟨rfl,rfl⟩
     | false =>
       rw [hi,if_neg (by simp)] at h1
       rw [h1,ex00]
       have HI:=Lib.hid hi
       clear hp h0 h1 hi
       go_enter Tryz.func68,Tryz.ntmps68
       go_wp2_with (first|(go_at_call 116;refine (hp_le _ _ _ HP.out).mono ?_;rintro e w' ⟨rfl,rfl⟩)|(go_at_call 117;refine (ix_sg _ _).mono ?_;rintro e w' ⟨m,rfl,rfl,hm⟩;rw [HI.out,decide_eq_false_iff_not] at hm))
       go_ret
       exact ⟨rfl,rfl⟩
end Go.Proofs.YtcejjdmnlejbaaaGreatDoor
