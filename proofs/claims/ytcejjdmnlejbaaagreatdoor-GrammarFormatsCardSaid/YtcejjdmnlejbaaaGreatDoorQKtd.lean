import Derived.Test.YtcejjdmnlejbaaaGreatDoorQKtb
namespace Go.Proofs.YtcejjdmnlejbaaaGreatDoor
set_option linter.unusedVariables false
set_option linter.unusedSimpArgs false
open Go.ChangeShapes Go.WideShapes Go.ChangeAt Go.RowKit
theorem list5 (l:List UInt8) (h:l.length=5):∃ a b c d e,l=[a,b,c,d,e]:=by
 match l,h with
 | [a,b,c,d,e],_=>exact ⟨a,b,c,d,e,rfl⟩
theorem ext_list (s:ByteArray) (a b:Nat):(s.extract a b).data.toList=(s.data.toList.take b).drop a:=by
 rw [ByteArray.data_extract];simp [List.extract_eq_take_drop,List.take_drop]
 by_cases h:a≤b
 · rw [show a+(b - a)=b from by omega]
 · rw [List.drop_eq_nil_of_le (by simp;omega),List.drop_eq_nil_of_le (by simp;omega)]
theorem matches_lit (s p:ByteArray) (q:List UInt8) (b:Bool) (w:World) (hq:p.data.toList=q) (hs:s.size≤9223372036854775807) (hp:p.size≤100) (h:Txt.fits s.data.toList q=b) :
 Calls Tryz.prog 144 #[.string s,.string p] w fun e w'=>e=.returned (.bool b)∧∃ n,w'=w.drewN n:=by
 rw [← h,← hq];exact matches_any s p w hs (by omega)
def numBT (s:ByteArray):Int:=Txt.num s.data.toList
def allB (s:ByteArray):Bool:=Txt.allD s.data.toList
theorem number_same (s:ByteArray) (w:World) (hs:s.size≤11) (hd:allB s=true) :
 Calls Tryz.prog 145 #[.string s] w fun e w'=>e=.returned (.int .i64 (numBT s))∧w'=w :=
 (number_any s w hs hd).mono fun _ _ ⟨he,hw⟩=>⟨he,hw.symm⟩
theorem numB_bd (s:ByteArray) (k:Nat) (hs:s.size≤k) (hd:allB s=true):0≤numBT s∧numBT s < (10 ^ k:Nat):=by
 have h:=Txt.num_bd _ hd
 rw [len_atT] at h
 have:10 ^ s.size≤10 ^ k:=Nat.pow_le_pow_right (by omega) hs
 exact ⟨h.1,by unfold numBT;omega⟩
def dgV (s:ByteArray) (a b:Int):Int:=digV s.data.toList a b
def dgB (s:ByteArray) (a b:Int):Bool:=digB s.data.toList a b
theorem digits_same (s:ByteArray) (a b:Int) (w:World) (hs:s.size≤9223372036854775807) (hb:b≤13) :
 Calls Tryz.prog 123 #[.string s,.int .i64 a,.int .i64 b] w fun e w'=>e=.returned (.tuple #[.int .i64 (dgV s a b),.bool (dgB s a b)])∧w=w':=digits_any s a b w hs hb
theorem dg_exact (s:ByteArray) (k:Nat) (h:s.size=k):dgB s k k=allB s∧(allB s=true→dgV s k k=numBT s):=by
 unfold dgB dgV digB digV allB numBT
 rw [len_atT,h]
 cases Txt.allD s.data.toList<;>simp
end Go.Proofs.YtcejjdmnlejbaaaGreatDoor
namespace Go.Proofs.YtcejjdmnlejbaaaGreatDoor
set_option linter.unusedVariables false
set_option linter.unusedSimpArgs false
open Go.ChangeShapes Go.WideShapes Go.ChangeAt Go.RowKit
def pat5:List UInt8:=[48,48,58,48,48]
theorem fits5 (l:List UInt8):Txt.fits l pat5=true↔(l.length=5∧l.getD 2 0=58∧Txt.allD ((l.take 2).drop 0)=true∧Txt.allD ((l.take l.length).drop 3)=true):=by
 constructor
 · intro h
   have hl:=Txt.fits_len _ _ h
   obtain ⟨a,b,c,d,e,rfl⟩:=list5 l hl
   simp [pat5,Txt.fits,Txt.fitB,Txt.allD] at h ⊢
   exact ⟨h.2.2.1,⟨h.1,h.2.1⟩,h.2.2.2⟩
 · rintro ⟨hl,h⟩
   obtain ⟨a,b,c,d,e,rfl⟩:=list5 l hl
   simp [pat5,Txt.fits,Txt.fitB,Txt.allD] at h ⊢
   obtain ⟨h1,⟨h2,h3⟩,h4,h5⟩:=h
   exact ⟨h2,h3,h1,h4,h5⟩
theorem getD_58 (s:ByteArray) (k:Nat) (h:k < s.size):s.data.toList.getD k 0=58↔s[k].toNat=58:=by
 rw [getD_atT s k h]
 exact ⟨fun e=>by rw [e];rfl,fun e=>UInt8.toNat_inj.1 e⟩
theorem matches_bel (s p:ByteArray) (q:List UInt8) (b:Bool) (w:World) (hq:p.data.toList=q) (hs:s.size≤9223372036854775807) (hp:p.size≤100) (h:Txt.fits s.data.toList q=b) :
 Calls Tryz.prog 144 #[.string s,.string p] w fun e w'=>e=.returned (.bool b)∧Below w.heap.size w w' :=
 (matches_lit s p q b w hq hs hp h).mono fun _ _ ⟨he,n,hn⟩=>⟨he,hn ▸ below_drewNT (Below.refl _ _) n⟩
def pcH (s:ByteArray):Int:=numBT (s.extract 0 2)
def pcM (s:ByteArray):Int:=numBT (s.extract 3 s.size)
def pcB (s:ByteArray):Bool:=decide (pcH s≤23∧pcM s≤59)
def pcE (s:ByteArray):Int:=if Txt.fits s.data.toList pat5=true then (if pcB s=true then 0 else 5) else 1
def pcV (s:ByteArray):Int:=if Txt.fits s.data.toList pat5=true then (if pcB s=true then 60 * pcH s+pcM s else 0) else 0
set_option maxHeartbeats 2000000 in
theorem pclock_syntax (s:ByteArray) (w:World) (hs:s.size≤9223372036854775807) (h:Txt.fits s.data.toList pat5=false) :
 Calls Tryz.prog 112 #[.string s] w fun e w'=>e=.returned (.tuple #[.int .i64 0,.int .i64 1])∧Below w.heap.size w w':=by
 have H:=Lib.hid h
 clear h
 go_enter Tryz.func112,Tryz.ntmps112
 go_wp2_with (go_at_call 144;refine (matches_bel _ _ _ _ _ (by rfl) hs (by decide) H.out).mono ?_;rintro e w1 ⟨rfl,hb⟩)
 go_ret2
 exact ⟨rfl,hb⟩
set_option maxHeartbeats 2000000 in
theorem pclock_fits (s:ByteArray) (w:World) (h:Txt.fits s.data.toList pat5=true) :
 Calls Tryz.prog 112 #[.string s] w fun e w'=>e=.returned (.tuple #[.int .i64 (pcV s),.int .i64 (pcE s)])∧Below w.heap.size w w':=by
 obtain ⟨hl,-,h1,h2⟩:=(fits5 _).1 h
 rw [len_atT] at hl h2
 rw [← ext_list] at h1 h2
 have E:Hid (pcE s=if pcB s=true then 0 else 5):=by unfold Hid pcE;rw [if_pos h]
 have V:Hid (pcV s=if pcB s=true then 60 * pcH s+pcM s else 0):=by unfold Hid pcV;rw [if_pos h]
 have H:=Lib.hid h
 have H1:Hid (allB (s.extract 0 2)=true):=h1
 have H2:Hid (allB (s.extract 3 s.size)=true):=h2
 have k1:(s.extract 0 2).size≤2:=by rw [ByteArray.size_extract];omega
 have k2:(s.extract 3 s.size).size≤2:=by rw [ByteArray.size_extract];omega
 have m1:=numB_bd _ 2 k1 h1
 have m2:=numB_bd _ 2 k2 h2
 have K1:=Lib.hid k1
 have K2:=Lib.hid k2
 have b2:2≤s.size:=by omega
 have b3:3≤s.size:=by omega
 have i2:(2:Int)≤(s.size:Int):=by omega
 have i3:(3:Int)≤(s.size:Int):=by omega
 have hsz:s.size≤9223372036854775807:=by omega
 clear h h1 h2 hl k1 k2
 have m3:numBT (s.extract 0 2)≤99:=by omega
 have m4:numBT (s.extract 3 s.size)≤99:=by omega
 have m5:=m1.1
 have m6:=m2.1
 clear m1 m2
 have C1:Hid (∀ w,Calls Tryz.prog 145 #[.string (s.extract 0 2)] w fun e w'=>e=.returned (.int .i64 (numBT (s.extract 0 2)))∧w'=w):=fun w=>number_same _ w (by have:=K1.out;omega) H1.out
 have C2:Hid (∀ w,Calls Tryz.prog 145 #[.string (s.extract 3 s.size)] w fun e w'=>e=.returned (.int .i64 (numBT (s.extract 3 s.size)))∧w'=w):=fun w=>number_same _ w (by have:=K2.out;omega) H2.out
 by_cases q1:numBT (s.extract 0 2)≤23
 · by_cases q2:numBT (s.extract 3 s.size)≤59
   · have hB:Hid (pcB s=true):=by unfold Hid pcB pcH pcM;simp [q1,q2]
     go_enter Tryz.func112,Tryz.ntmps112
     go_wp2_with (go_at_call 144;refine (matches_bel _ _ _ _ _ (by rfl) hsz (by decide) H.out).mono ?_;rintro e w1 ⟨rfl,hb⟩)
     go_quiet (first|(with_reducible exact Calls.quiet_of_same (C1.out _))|(with_reducible exact Calls.quiet_of_same (C2.out _)))
     go_wp2
     go_ret2
     refine ⟨?_,below_drewNT hb _⟩
     rw [E.out,V.out,if_pos hB.out,if_pos hB.out]
     exact ret_int2T (by unfold pcH pcM;omega) rfl
   · have hB:Hid (pcB s=false):=by unfold Hid pcB pcH pcM;simp;omega
     go_enter Tryz.func112,Tryz.ntmps112
     go_wp2_with (go_at_call 144;refine (matches_bel _ _ _ _ _ (by rfl) hsz (by decide) H.out).mono ?_;rintro e w1 ⟨rfl,hb⟩)
     go_quiet (first|(with_reducible exact Calls.quiet_of_same (C1.out _))|(with_reducible exact Calls.quiet_of_same (C2.out _)))
     go_wp2
     go_ret2
     refine ⟨?_,below_drewNT hb _⟩
     rw [E.out,V.out,hB.out];rfl
 · have hB:Hid (pcB s=false):=by unfold Hid pcB pcH pcM;simp;omega
   go_enter Tryz.func112,Tryz.ntmps112
   go_wp2_with (go_at_call 144;refine (matches_bel _ _ _ _ _ (by rfl) hsz (by decide) H.out).mono ?_;rintro e w1 ⟨rfl,hb⟩)
   go_quiet (first|(with_reducible exact Calls.quiet_of_same (C1.out _))|(with_reducible exact Calls.quiet_of_same (C2.out _)))
   go_wp2
   go_ret2
   refine ⟨?_,below_drewNT hb _⟩
   rw [E.out,V.out,hB.out];rfl
theorem pclock_any (s:ByteArray) (w:World) (hs:s.size≤9223372036854775807) :
 Calls Tryz.prog 112 #[.string s] w fun e w'=>e=.returned (.tuple #[.int .i64 (pcV s),.int .i64 (pcE s)])∧Below w.heap.size w w':=by
 cases h:Txt.fits s.data.toList pat5
 · have:=pclock_syntax s w hs h
   simpa [pcV,pcE,h] using this
 · exact pclock_fits s w h
set_option maxHeartbeats 2000000 in
theorem pclock_ref_syntax (s:ByteArray) (w:World) (hs:s.size≤9223372036854775807) (h:Txt.fits s.data.toList pat5=false) :
 Calls Tryz.prog 121 #[.string s] w fun e w'=>e=.returned (.tuple #[.int .i64 0,.int .i64 1])∧w=w':=by
 have hn:¬ (s.data.toList.length=5∧s.data.toList.getD 2 0=58∧Txt.allD ((s.data.toList.take 2).drop 0)=true∧Txt.allD ((s.data.toList.take s.data.toList.length).drop 3)=true):=by
  intro q;rw [(fits5 _).2 q] at h;cases h
 rw [len_atT] at hn
 clear h
 by_cases h5:s.size=5
 · have l2:2 < s.size:=by omega
   rw [getD_58 s 2 l2] at hn
   have n5:((s.size:Int) != 5)=false:=by rw [h5];rfl
   by_cases h2:s[2].toNat=58
   · have b2:((s[2].toNat:Int) != 58)=false:=by rw [h2];rfl
     have z1:(s.extract 0 2).size=2:=by rw [ByteArray.size_extract];omega
     have z2:(s.extract 3 s.size).size=2:=by rw [ByteArray.size_extract];omega
     have hn2:¬ (allB (s.extract 0 2)=true∧allB (s.extract 3 s.size)=true):=by
      unfold allB;rw [ext_list,ext_list];exact fun q=>hn ⟨h5,h2,q⟩
     rw [← (dg_exact _ 2 z1).1,← (dg_exact _ 2 z2).1] at hn2
     have Z:Hid ((s.extract 0 2).size=2∧(s.extract 3 s.size).size=2):=⟨z1,z2⟩
     clear z1 z2 hn h2
     have i2:2≤s.size:=by omega
     have i3:3≤s.size:=by omega
     have j2:(2:Int) < (s.size:Int):=by omega
     clear h5
     rcases h1:dgB (s.extract 0 2) 2 2 with _|_<;>rcases h3:dgB (s.extract 3 s.size) 2 2 with _|_
     all_goals simp [h1,h3] at hn2
     all_goals
      try clear hn2
      go_enter Tryz.func121,Tryz.ntmps121
      go_wp2_with (go_at_call 123;refine (digits_same _ _ _ _ (by first|(rw [Z.out.1];omega)|(rw [Z.out.2];omega)) (by omega)).mono ?_;rintro e w1 ⟨rfl,rfl⟩)
      go_ret2
      exact ⟨rfl,rfl⟩
   · have b2:((s[2].toNat:Int) != 58)=true:=by simp;omega
     clear hn h2 h5
     go_enter Tryz.func121,Tryz.ntmps121
     go_wp2
     go_ret2
     exact ⟨rfl,rfl⟩
 · have n5:((s.size:Int) != 5)=true:=by simp;omega
   clear hn h5
   go_enter Tryz.func121,Tryz.ntmps121
   go_wp2
   go_ret2
   exact ⟨rfl,rfl⟩
set_option maxHeartbeats 2000000 in
theorem pclock_ref_fits (s:ByteArray) (w:World) (h:Txt.fits s.data.toList pat5=true) :
 Calls Tryz.prog 121 #[.string s] w fun e w'=>e=.returned (.tuple #[.int .i64 (pcV s),.int .i64 (pcE s)])∧w=w':=by
 obtain ⟨hl,q2,h1,h2⟩:=(fits5 _).1 h
 rw [len_atT] at hl h2
 rw [← ext_list] at h1 h2
 have E:Hid (pcE s=if pcB s=true then 0 else 5):=by unfold Hid pcE;rw [if_pos h]
 have V:Hid (pcV s=if pcB s=true then 60 * pcH s+pcM s else 0):=by unfold Hid pcV;rw [if_pos h]
 have l2:2 < s.size:=by omega
 rw [getD_58 s 2 l2] at q2
 have n5:((s.size:Int) != 5)=false:=by rw [hl];rfl
 have b2:((s[2].toNat:Int) != 58)=false:=by rw [q2];rfl
 have z1:(s.extract 0 2).size=2:=by rw [ByteArray.size_extract];omega
 have z2:(s.extract 3 s.size).size=2:=by rw [ByteArray.size_extract];omega
 have m1:=numB_bd _ 2 (by omega) h1
 have m2:=numB_bd _ 2 (show (s.extract 3 s.size).size≤2 by omega) h2
 obtain ⟨g1,v1⟩:=dg_exact _ 2 z1
 obtain ⟨g2,v2⟩:=dg_exact _ 2 z2
 have d1:dgB (s.extract 0 2) 2 2=true:=g1.trans h1
 have d2:dgB (s.extract 3 s.size) 2 2=true:=g2.trans h2
 have N1:dgV (s.extract 0 2) 2 2=pcH s:=v1 h1
 have N2:dgV (s.extract 3 s.size) 2 2=pcM s:=v2 h2
 have Z:Hid ((s.extract 0 2).size=2∧(s.extract 3 s.size).size=2):=⟨z1,z2⟩
 have m3:0≤dgV (s.extract 0 2) 2 2:=by rw [N1];exact m1.1
 have m4:0≤dgV (s.extract 3 s.size) 2 2:=by rw [N2];exact m2.1
 have m5:dgV (s.extract 0 2) 2 2≤99:=by rw [N1];unfold pcH;omega
 have m6:dgV (s.extract 3 s.size) 2 2≤99:=by rw [N2];unfold pcM;omega
 have B:Hid (pcB s=decide (dgV (s.extract 0 2) 2 2≤23∧dgV (s.extract 3 s.size) 2 2≤59)):=by unfold Hid pcB;rw [N1,N2]
 have HN:=Lib.hid N1
 have HM:=Lib.hid N2
 have i2:2≤s.size:=by omega
 have i3:3≤s.size:=by omega
 have j2:(2:Int) < (s.size:Int):=by omega
 clear z1 z2 h1 h2 g1 g2 v1 v2 q2 h m1 m2 N1 N2 hl
 by_cases q1:dgV (s.extract 0 2) 2 2≤23
 · by_cases q2:dgV (s.extract 3 s.size) 2 2≤59
   · have hB:Hid (pcB s=true):=by unfold Hid;rw [B.out];simp [q1,q2]
     go_enter Tryz.func121,Tryz.ntmps121
     go_wp2_with (go_at_call 123;refine (digits_same _ _ _ _ (by first|(rw [Z.out.1];omega)|(rw [Z.out.2];omega)) (by omega)).mono ?_;rintro e w1 ⟨rfl,rfl⟩)
     go_ret2
     refine ⟨?_,rfl⟩
     rw [E.out,V.out,if_pos hB.out,if_pos hB.out,← HN.out,← HM.out];rfl
   · have hB:Hid (pcB s=false):=by unfold Hid;rw [B.out];simp;omega
     go_enter Tryz.func121,Tryz.ntmps121
     go_wp2_with (go_at_call 123;refine (digits_same _ _ _ _ (by first|(rw [Z.out.1];omega)|(rw [Z.out.2];omega)) (by omega)).mono ?_;rintro e w1 ⟨rfl,rfl⟩)
     go_ret2
     exact ⟨by rw [E.out,V.out,hB.out];rfl,rfl⟩
 · have hB:Hid (pcB s=false):=by unfold Hid;rw [B.out];simp;omega
   go_enter Tryz.func121,Tryz.ntmps121
   go_wp2_with (go_at_call 123;refine (digits_same _ _ _ _ (by first|(rw [Z.out.1];omega)|(rw [Z.out.2];omega)) (by omega)).mono ?_;rintro e w1 ⟨rfl,rfl⟩)
   go_ret2
   exact ⟨by rw [E.out,V.out,hB.out];rfl,rfl⟩
theorem pclock_ref_any (s:ByteArray) (w:World) (hs:s.size≤9223372036854775807) :
 Calls Tryz.prog 121 #[.string s] w fun e w'=>e=.returned (.tuple #[.int .i64 (pcV s),.int .i64 (pcE s)])∧w=w':=by
 cases h:Txt.fits s.data.toList pat5
 · have:=pclock_ref_syntax s w hs h
   simpa [pcV,pcE,h] using this
 · exact pclock_ref_fits s w h
end Go.Proofs.YtcejjdmnlejbaaaGreatDoor
