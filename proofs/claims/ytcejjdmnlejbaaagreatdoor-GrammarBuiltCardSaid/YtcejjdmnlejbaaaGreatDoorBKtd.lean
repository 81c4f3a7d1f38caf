import Derived.Test.YtcejjdmnlejbaaaGreatDoorBKtb
namespace Go.Proofs.YtcejjdmnlejbaaaGreatDoor
set_option linter.unusedVariables false
set_option linter.unusedSimpArgs false
open Go.ChangeShapes Go.WideShapes Go.ChangeAt Go.RowKit
theorem list5 (l:List UInt8) (h:l.length=5):∃ a b c d e,l=[a,b,c,d,e]:=by
 match l,h with
 | [a,b,c,d,e],_=>exact ⟨a,b,c,d,e,rfl⟩
theorem ext_list (s:ByteArray) (a b:Nat):(s.extract a b).data.toList=(s.data.toList.take b).drop a:=by
 rw [ByteArray.data_extract];simp [List.extract_eq_take_drop,List.take_drop]
 by_cases h:a≤b
 · rw [show a+(b - a)=b from by omega]
 · rw [List.drop_eq_nil_of_le (by simp;omega),List.drop_eq_nil_of_le (by simp;omega)]
theorem matches_lit (s p:ByteArray) (q:List UInt8) (b:Bool) (w:World) (hq:p.data.toList=q) (hs:s.size≤9223372036854775807) (hp:p.size≤100) (h:Txt.fits s.data.toList q=b) :
 Calls Tryz.prog 144 #[.string s,.string p] w fun e w'=>e=.returned (.bool b)∧∃ n,w'=w.drewN n:=by
 rw [← h,← hq];exact matches_any s p w hs (by omega)
def numBT (s:ByteArray):Int:=Txt.num s.data.toList
def allB (s:ByteArray):Bool:=Txt.allD s.data.toList
theorem number_same (s:ByteArray) (w:World) (hs:s.size≤11) (hd:allB s=true) :
 Calls Tryz.prog 145 #[.string s] w fun e w'=>e=.returned (.int .i64 (numBT s))∧w'=w :=
 (number_any s w hs hd).mono fun _ _ ⟨he,hw⟩=>⟨he,hw.symm⟩
theorem numB_bd (s:ByteArray) (k:Nat) (hs:s.size≤k) (hd:allB s=true):0≤numBT s∧numBT s < (10 ^ k:Nat):=by
 have h:=Txt.num_bd _ hd
 rw [len_atT] at h
 have:10 ^ s.size≤10 ^ k:=Nat.pow_le_pow_right (by omega) hs
 exact ⟨h.1,by unfold numBT;omega⟩
end Go.Proofs.YtcejjdmnlejbaaaGreatDoor
namespace Go.Proofs.YtcejjdmnlejbaaaGreatDoor
set_option linter.unusedVariables false
set_option linter.unusedSimpArgs false
open Go.ChangeShapes Go.WideShapes Go.ChangeAt Go.RowKit
def pat5:List UInt8:=[48,48,58,48,48]
theorem fits5 (l:List UInt8):Txt.fits l pat5=true↔(l.length=5∧l.getD 2 0=58∧Txt.allD ((l.take 2).drop 0)=true∧Txt.allD ((l.take l.length).drop 3)=true):=by
 constructor
 · intro h
   have hl:=Txt.fits_len _ _ h
   obtain ⟨a,b,c,d,e,rfl⟩:=list5 l hl
   simp [pat5,Txt.fits,Txt.fitB,Txt.allD] at h ⊢
   exact ⟨h.2.2.1,⟨h.1,h.2.1⟩,h.2.2.2⟩
 · rintro ⟨hl,h⟩
   obtain ⟨a,b,c,d,e,rfl⟩:=list5 l hl
   simp [pat5,Txt.fits,Txt.fitB,Txt.allD] at h ⊢
   obtain ⟨h1,⟨h2,h3⟩,h4,h5⟩:=h
   exact ⟨h2,h3,h1,h4,h5⟩
theorem matches_bel (s p:ByteArray) (q:List UInt8) (b:Bool) (w:World) (hq:p.data.toList=q) (hs:s.size≤9223372036854775807) (hp:p.size≤100) (h:Txt.fits s.data.toList q=b) :
 Calls Tryz.prog 144 #[.string s,.string p] w fun e w'=>e=.returned (.bool b)∧Below w.heap.size w w' :=
 (matches_lit s p q b w hq hs hp h).mono fun _ _ ⟨he,n,hn⟩=>⟨he,hn ▸ below_drewNT (Below.refl _ _) n⟩
def pcH (s:ByteArray):Int:=numBT (s.extract 0 2)
def pcM (s:ByteArray):Int:=numBT (s.extract 3 s.size)
def pcB (s:ByteArray):Bool:=decide (pcH s≤23∧pcM s≤59)
def pcE (s:ByteArray):Int:=if Txt.fits s.data.toList pat5=true then (if pcB s=true then 0 else 5) else 1
def pcV (s:ByteArray):Int:=if Txt.fits s.data.toList pat5=true then (if pcB s=true then 60 * pcH s+pcM s else 0) else 0
set_option maxHeartbeats 2000000 in
theorem pclock_syntax (s:ByteArray) (w:World) (hs:s.size≤9223372036854775807) (h:Txt.fits s.data.toList pat5=false) :
 Calls Tryz.prog 112 #[.string s] w fun e w'=>e=.returned (.tuple #[.int .i64 0,.int .i64 1])∧Below w.heap.size w w':=by
 have H:=Lib.hid h
 clear h
 go_enter Tryz.func112,Tryz.ntmps112
 go_wp2_with (go_at_call 144;refine (matches_bel _ _ _ _ _ (by rfl) hs (by decide) H.out).mono ?_;rintro e w1 ⟨rfl,hb⟩)
 go_ret2
 exact ⟨rfl,hb⟩
set_option maxHeartbeats 2000000 in
theorem pclock_fits (s:ByteArray) (w:World) (h:Txt.fits s.data.toList pat5=true) :
 Calls Tryz.prog 112 #[.string s] w fun e w'=>e=.returned (.tuple #[.int .i64 (pcV s),.int .i64 (pcE s)])∧Below w.heap.size w w':=by
 obtain ⟨hl,-,h1,h2⟩:=(fits5 _).1 h
 rw [len_atT] at hl h2
 rw [← ext_list] at h1 h2
 have E:Hid (pcE s=if pcB s=true then 0 else 5):=by unfold Hid pcE;rw [if_pos h]
 have V:Hid (pcV s=if pcB s=true then 60 * pcH s+pcM s else 0):=by unfold Hid pcV;rw [if_pos h]
 have H:=Lib.hid h
 have H1:Hid (allB (s.extract 0 2)=true):=h1
 have H2:Hid (allB (s.extract 3 s.size)=true):=h2
 have k1:(s.extract 0 2).size≤2:=by rw [ByteArray.size_extract];omega
 have k2:(s.extract 3 s.size).size≤2:=by rw [ByteArray.size_extract];omega
 have m1:=numB_bd _ 2 k1 h1
 have m2:=numB_bd _ 2 k2 h2
 have K1:=Lib.hid k1
 have K2:=Lib.hid k2
 have b2:2≤s.size:=by omega
 have b3:3≤s.size:=by omega
 have i2:(2:Int)≤(s.size:Int):=by omega
 have i3:(3:Int)≤(s.size:Int):=by omega
 have hsz:s.size≤9223372036854775807:=by omega
 clear h h1 h2 hl k1 k2
 have m3:numBT (s.extract 0 2)≤99:=by omega
 have m4:numBT (s.extract 3 s.size)≤99:=by omega
 have m5:=m1.1
 have m6:=m2.1
 clear m1 m2
 have C1:Hid (∀ w,Calls Tryz.prog 145 #[.string (s.extract 0 2)] w fun e w'=>e=.returned (.int .i64 (numBT (s.extract 0 2)))∧w'=w):=fun w=>number_same _ w (by have:=K1.out;omega) H1.out
 have C2:Hid (∀ w,Calls Tryz.prog 145 #[.string (s.extract 3 s.size)] w fun e w'=>e=.returned (.int .i64 (numBT (s.extract 3 s.size)))∧w'=w):=fun w=>number_same _ w (by have:=K2.out;omega) H2.out
 by_cases q1:numBT (s.extract 0 2)≤23
 · by_cases q2:numBT (s.extract 3 s.size)≤59
   · have hB:Hid (pcB s=true):=by unfold Hid pcB pcH pcM;simp [q1,q2]
     go_enter Tryz.func112,Tryz.ntmps112
     go_wp2_with (go_at_call 144;refine (matches_bel _ _ _ _ _ (by rfl) hsz (by decide) H.out).mono ?_;rintro e w1 ⟨rfl,hb⟩)
     go_quiet (first|(with_reducible exact Calls.quiet_of_same (C1.out _))|(with_reducible exact Calls.quiet_of_same (C2.out _)))
     go_wp2
     go_ret2
     refine ⟨?_,below_drewNT hb _⟩
     rw [E.out,V.out,if_pos hB.out,if_pos hB.out]
     exact ret_int2T (by unfold pcH pcM;omega) rfl
   · have hB:Hid (pcB s=false):=by unfold Hid pcB pcH pcM;simp;omega
     go_enter Tryz.func112,Tryz.ntmps112
     go_wp2_with (go_at_call 144;refine (matches_bel _ _ _ _ _ (by rfl) hsz (by decide) H.out).mono ?_;rintro e w1 ⟨rfl,hb⟩)
     go_quiet (first|(with_reducible exact Calls.quiet_of_same (C1.out _))|(with_reducible exact Calls.quiet_of_same (C2.out _)))
     go_wp2
     go_ret2
     refine ⟨?_,below_drewNT hb _⟩
     rw [E.out,V.out,hB.out];rfl
 · have hB:Hid (pcB s=false):=by unfold Hid pcB pcH pcM;simp;omega
   go_enter Tryz.func112,Tryz.ntmps112
   go_wp2_with (go_at_call 144;refine (matches_bel _ _ _ _ _ (by rfl) hsz (by decide) H.out).mono ?_;rintro e w1 ⟨rfl,hb⟩)
   go_quiet (first|(with_reducible exact Calls.quiet_of_same (C1.out _))|(with_reducible exact Calls.quiet_of_same (C2.out _)))
   go_wp2
   go_ret2
   refine ⟨?_,below_drewNT hb _⟩
   rw [E.out,V.out,hB.out];rfl
theorem pclock_any (s:ByteArray) (w:World) (hs:s.size≤9223372036854775807) :
 Calls Tryz.prog 112 #[.string s] w fun e w'=>e=.returned (.tuple #[.int .i64 (pcV s),.int .i64 (pcE s)])∧Below w.heap.size w w':=by
 cases h:Txt.fits s.data.toList pat5
 · have:=pclock_syntax s w hs h
   simpa [pcV,pcE,h] using this
 · exact pclock_fits s w h
end Go.Proofs.YtcejjdmnlejbaaaGreatDoor
