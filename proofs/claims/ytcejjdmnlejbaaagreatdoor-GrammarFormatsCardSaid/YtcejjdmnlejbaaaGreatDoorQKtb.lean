import Derived.Test.YtcejjdmnlejbaaaGreatDoorQKta
namespace Go.Proofs.YtcejjdmnlejbaaaGreatDoor
set_option linter.unusedVariables false
set_option linter.unusedSimpArgs false
open Go.ChangeShapes Go.WideShapes Go.ChangeAt Go.RowKit
theorem take_snocT (s:ByteArray) (k:Nat) (h:k < s.size):s.data.toList.take (k+1)=s.data.toList.take k++[s[k]]:=by
 rw [List.take_succ_eq_append_getElem (by simpa using h)];rfl
theorem getD_atT (s:ByteArray) (k:Nat) (h:k < s.size):s.data.toList.getD k 0=s[k]:=by
 rw [List.getD_eq_getElem?_getD,List.getElem?_eq_getElem (by simpa using h)];rfl
theorem len_atT (s:ByteArray):s.data.toList.length=s.size:=Array.length_toList
theorem byte_eq (a b:UInt8):(a==b)=decide (a.toNat=b.toNat):=by
 by_cases h:a=b
 · subst h;simp
 · have:a.toNat≠b.toNat:=fun e=>h (UInt8.toNat_inj.1 e)
   simp [h,this]
theorem fitB_zero (c p:UInt8) (hp:p.toNat=48):Txt.fitB c p=Txt.isD c:=by
 have:p=48:=UInt8.toNat_inj.1 hp
 simp [Txt.fitB,this]
theorem fitB_other (c p:UInt8) (hp:p.toNat≠48):Txt.fitB c p=decide (c.toNat=p.toNat):=by
 have:¬ p=48:=fun e=>hp (by rw [e];rfl)
 simp only [Txt.fitB,this,if_false];exact byte_eq c p
set_option maxHeartbeats 1000000 in
theorem matches_any (s p:ByteArray) (w:World) (hs:s.size≤9223372036854775807) (hp:p.size≤9223372036854775807) :
 Calls Tryz.prog 144 #[.string s,.string p] w fun e w'=>e=.returned (.bool (Txt.fits s.data.toList p.data.toList))∧∃ n,w'=w.drewN n:=by
 by_cases hl:s.size=p.size
 · have HL := Lib.hid hl
   have hne:((s.size:Int) != (p.size:Int))=false:=by rw [hl];simp
   have hle:s.size≤p.size:=by omega
   clear hl
   go_enter Tryz.func144,Tryz.ntmps144
   go_wp2_with fail
   go_loopw [5,13] (fun _ i wr=>∃ k:Nat,k≤s.size∧i=.int .i64 k∧Hid (Txt.fits (s.data.toList.take k) (p.data.toList.take k)=true∧∃ n,wr=w.drewN n)) (fun _ i _=>s.size - (intOf i).toNat)
   case atStart=>exact ⟨0,by omega,rfl,by simp [Txt.fits],0,rfl⟩
   case round =>
    obtain ⟨k,hk,rfl,HR⟩:=hrel
    by_cases hlt:k < s.size
    · have hlp:k < p.size:=by omega
      have hft:=Txt.fits_take s.data.toList p.data.toList (by rw [len_atT,len_atT,HL.out]) k (by rw [len_atT];exact hlt)
      rw [getD_atT s k hlt,getD_atT p k hlp] at hft
      rw [HR.out.1,Bool.true_and] at hft
      have HF:=Lib.hid hft
      clear hft
      have hno:Hid (Txt.fitB s[k] p[k]=false→Txt.fits s.data.toList p.data.toList=false):=by
       intro hf
       cases hb:Txt.fits s.data.toList p.data.toList
       · rfl
       · have:=(Txt.fits_all s.data.toList p.data.toList (by rw [len_atT,len_atT,HL.out])).1 hb k (by rw [len_atT];exact hlt)
         rw [getD_atT s k hlt,getD_atT p k hlp,hf] at this
         cases this
      obtain ⟨n,rfl⟩:=HR.out.2
      have hi0:(0:Int)≤(k:Int):=by omega
      have hi1:(k:Int) < (s.size:Int):=by omega
      have hi2:(k:Int) < (p.size:Int):=by omega
      by_cases hp:p[k].toNat=48
      · have hpB:((p[k].toNat:Int)==48)=true:=by simp;omega
        have HP:=Lib.hid hp
        clear hp
        by_cases hd:48≤s[k].toNat∧s[k].toNat≤57
        · obtain ⟨hd1,hd2⟩:=hd
          have h1:¬ (s[k].toNat:Int) < 48:=by omega
          have h2:¬ 57 < (s[k].toNat:Int):=by omega
          go_wp2
          go_roundw
          case rel=>exact ⟨k+1,by omega,by go_num,by rw [HF.out,fitB_zero _ _ HP.out,Txt.isD_iff];omega,n,rfl⟩
          case measure=>simp [intOf];omega
        · have hr:Hid (Txt.fits s.data.toList p.data.toList=false):=hno.out (by rw [fitB_zero _ _ HP.out,Txt.isD_no];exact hd)
          by_cases h1:(s[k].toNat:Int) < 48
          · go_wp2
            go_ret
            exact ⟨ret_boolT hr.out.symm,n,rfl⟩
          · have h2:57 < (s[k].toNat:Int):=by omega
            clear hd
            go_wp2
            go_ret
            exact ⟨ret_boolT hr.out.symm,n,rfl⟩
      · have hpB:((p[k].toNat:Int)==48)=false:=by simp;omega
        have HP:=Lib.hid hp
        clear hp
        by_cases hd:s[k].toNat=p[k].toNat
        · have hB:((s[k].toNat:Int) != (p[k].toNat:Int))=false:=by simp [hd]
          have HD:=Lib.hid hd
          clear hd
          go_wp2_with fail
          go_quiet (fail)
          go_wp2
          go_roundw
          case rel=>exact ⟨k+1,by omega,by go_num,by rw [HF.out,fitB_other _ _ HP.out];simp [HD.out],n+nq,by first|rfl|rw [World.drewN_drewN]⟩
          case measure=>simp [intOf];omega
        · have hB:((s[k].toNat:Int) != (p[k].toNat:Int))=true:=by simp;omega
          have hr:Hid (Txt.fits s.data.toList p.data.toList=false):=hno.out (by rw [fitB_other _ _ HP.out];simp [hd])
          clear hd
          go_wp2_with fail
          go_quiet (fail)
          go_wp2
          go_ret
          exact ⟨ret_boolT hr.out.symm,n+nq,by first|rfl|rw [World.drewN_drewN]⟩
    · have hr:Hid (Txt.fits s.data.toList p.data.toList=true):=by
       have:=HR.out.1
       rw [List.take_of_length_le (by rw [len_atT];omega),List.take_of_length_le (by rw [len_atT,← HL.out];omega)] at this
       exact this
      obtain ⟨n,rfl⟩:=HR.out.2
      go_wp2
      go_ret
      exact ⟨ret_boolT hr.out.symm,n,rfl⟩
 · have hne:((s.size:Int) != (p.size:Int))=true:=by simp;omega
   have hr:Hid (Txt.fits s.data.toList p.data.toList=false):=by
    cases hb:Txt.fits s.data.toList p.data.toList
    · rfl
    · have:=Txt.fits_len _ _ hb;rw [len_atT,len_atT] at this;exact absurd this hl
   clear hl
   go_enter Tryz.func144,Tryz.ntmps144
   go_wp2
   go_ret
   exact ⟨ret_boolT hr.out.symm,0,rfl⟩
set_option maxHeartbeats 1000000 in
theorem number_any (s:ByteArray) (w:World) (hs:s.size≤11) (hd:Txt.allD s.data.toList=true) :
 Calls Tryz.prog 145 #[.string s] w fun e w'=>e=.returned (.int .i64 (Txt.num s.data.toList))∧w=w':=by
 have HD:=Lib.hid hd
 clear hd
 go_enter Tryz.func145,Tryz.ntmps145
 go_wp2_with fail
 go_loop [3,4,7] (fun n _ i=>∃ k:Nat,k≤s.size∧i=.int .i64 k∧n=.int .i64 (Txt.num (s.data.toList.take k))) (fun _ _ i=>s.size - (intOf i).toNat)
 case atStart=>exact ⟨0,by omega,rfl,rfl⟩
 case round =>
  obtain ⟨k,hk,rfl,rfl⟩:=hrel
  by_cases hlt:k < s.size
  · have hda:Txt.allD (s.data.toList.take k)=true:=by
     rw [Txt.allD,List.all_eq_true];intro x hx
     exact List.all_eq_true.1 HD.out x (List.mem_of_mem_take hx)
    have hb:=Txt.num_bd _ hda
    have hpw:(10 ^ (s.data.toList.take k).length:Nat)≤10 ^ 11:=Nat.pow_le_pow_right (by omega) (by simp;omega)
    have hc:Txt.isD s[k]=true:=List.all_eq_true.1 HD.out s[k] (by rw [show s[k]=s.data.toList[k]'(by rw [len_atT];exact hlt) from rfl];exact List.getElem_mem _)
    rw [Txt.isD_iff] at hc
    have HN:Hid (Txt.num (s.data.toList.take (k+1))=10 * Txt.num (s.data.toList.take k)+((s[k].toNat:Int) - 48)):=by unfold Hid;rw [take_snocT s k hlt,Txt.num_snoc];rfl
    obtain ⟨hc1,hc2⟩:=hc
    have hn1:0≤Txt.num (s.data.toList.take k):=hb.1
    have hn2:Txt.num (s.data.toList.take k)≤100000000000:=by have:=hb.2;omega
    clear hb hpw hda
    generalize Txt.num (s.data.toList.take k)=m at *
    go_wp2
    go_round
    case rel=>exact ⟨k+1,by omega,by go_num,by rw [HN.out]⟩
    case measure=>simp [intOf];omega
  · go_wp2
    go_ret
    exact ⟨ret_intT (by rw [List.take_of_length_le (by rw [len_atT];omega)]),rfl⟩
def digV (l:List UInt8) (a b:Int):Int:=if a≤l.length∧l.length≤b∧Txt.allD l=true then Txt.num l else 0
def digB (l:List UInt8) (a b:Int):Bool:=decide (a≤l.length∧l.length≤b∧Txt.allD l=true)
set_option maxHeartbeats 400000 in
theorem isdigit_ref (c:Int) (w:World) :
 Calls Tryz.prog 142 #[.int .u8 c] w fun e w'=>e=.returned (.bool (decide (48≤c∧c≤57)))∧w=w':=by
 by_cases h1:48≤c
 · by_cases h2:c≤57
   · go_enter Tryz.func142,Tryz.ntmps142
     go_wp2
     go_ret
     exact ⟨ret_boolT (by simp [h1,h2]),rfl⟩
   · go_enter Tryz.func142,Tryz.ntmps142
     go_wp2
     go_ret
     exact ⟨ret_boolT (by simp;omega),rfl⟩
 · go_enter Tryz.func142,Tryz.ntmps142
   go_wp2
   go_ret
   exact ⟨ret_boolT (by simp;omega),rfl⟩
set_option maxHeartbeats 1000000 in
theorem digits_any (s:ByteArray) (a b:Int) (w:World) (hs:s.size≤9223372036854775807) (hb:b≤13) :
 Calls Tryz.prog 123 #[.string s,.int .i64 a,.int .i64 b] w fun e w'=>e=.returned (.tuple #[.int .i64 (digV s.data.toList a b),.bool (digB s.data.toList a b)])∧w=w':=by
 by_cases hab:a≤(s.size:Int)∧(s.size:Int)≤b
 · obtain ⟨h1, h2⟩:=hab
   have hs11:s.size≤13:=by omega
   go_enter Tryz.func123,Tryz.ntmps123
   go_wp2_with fail
   go_loop [8,9] (fun n i=>∃ k:Nat,∃ m:Int,k≤s.size∧i=.int .i64 k∧n=.int .i64 m∧0≤m∧m≤10000000000000∧Hid (m=Txt.num (s.data.toList.take k)∧Txt.allD (s.data.toList.take k)=true)) (fun _ i=>s.size - (intOf i).toNat)
   case atStart=>exact ⟨0,0,by omega,rfl,rfl,by omega,by omega,rfl,rfl⟩
   case round =>
    obtain ⟨k,m,hk,rfl,rfl,hm0,hm1,HM⟩:=hrel
    by_cases hlt:k < s.size
    · have HN:Hid (Txt.num (s.data.toList.take (k+1))=10 * Txt.num (s.data.toList.take k)+((s[k].toNat:Int) - 48)):=by unfold Hid;rw [take_snocT s k hlt,Txt.num_snoc];rfl
      have HA:Hid (Txt.allD (s.data.toList.take (k+1))=Txt.isD s[k]):=by unfold Hid;rw [take_snocT s k hlt,Txt.allD_snoc,HM.out.2,Bool.true_and]
      have hi1:(k:Int) < (s.size:Int):=by omega
      by_cases hd:48≤s[k].toNat∧s[k].toNat≤57
      · have hdB:decide (48≤(s[k].toNat:Int)∧(s[k].toNat:Int)≤57)=true:=by simp;omega
        have HD:=Lib.hid hd
        obtain ⟨hd1,hd2⟩:=hd
        go_wp2_with (go_at_call 142;refine (isdigit_ref _ _).mono ?_;rw [hdB];rintro e w' ⟨rfl,rfl⟩)
        go_round
        case rel =>
         have hA:Txt.allD (s.data.toList.take (k+1))=true:=by rw [HA.out,Txt.isD_iff];exact HD.out
         have hbd:=Txt.num_bd _ hA
         have hpw:(10 ^ (s.data.toList.take (k+1)).length:Nat)≤10 ^ 13:=Nat.pow_le_pow_right (by omega) (by simp;omega)
         have e:10 * m+((s[k].toNat:Int) - 48)=Txt.num (s.data.toList.take (k+1)):=by rw [HN.out,HM.out.1]
         exact ⟨k+1,10 * m+((s[k].toNat:Int) - 48),by omega,by go_num,rfl,by omega,by rw [e];omega,e,hA⟩
        case measure=>simp [intOf];omega
      · have hdB:decide (48≤(s[k].toNat:Int)∧(s[k].toNat:Int)≤57)=false:=by simp;omega
        have hF:Hid (Txt.allD s.data.toList=false):=by
         cases hq:Txt.allD s.data.toList
         · rfl
         · have hc:Txt.isD s[k]=true:=List.all_eq_true.1 hq s[k] (by rw [show s[k]=s.data.toList[k]'(by rw [len_atT];exact hlt) from rfl];exact List.getElem_mem _)
           rw [Txt.isD_iff] at hc;exact absurd hc hd
        clear hd
        go_wp2_with (go_at_call 142;refine (isdigit_ref _ _).mono ?_;rw [hdB];rintro e w' ⟨rfl,rfl⟩)
        go_ret2
        refine ⟨?_,rfl⟩
        have e1:digV s.data.toList a b=0:=by unfold digV;rw [if_neg (by rw [hF.out];simp)]
        have e2:digB s.data.toList a b=false:=by unfold digB;rw [hF.out];simp
        rw [e1,e2];rfl
    · go_wp2
      go_ret2
      refine ⟨?_,rfl⟩
      obtain ⟨rfl,hA⟩:=HM.out
      rw [List.take_of_length_le (by rw [len_atT];omega)] at hA ⊢
      have hl:(s.data.toList.length:Int)=s.size:=by rw [len_atT]
      have e1:digV s.data.toList a b=Txt.num s.data.toList:=by unfold digV;rw [if_pos ⟨by omega,by omega,hA⟩]
      have e2:digB s.data.toList a b=true:=by unfold digB;rw [hA];simp;omega
      rw [e1,e2];rfl
 · have e1:Hid (digV s.data.toList a b=0):=by unfold Hid digV;rw [len_atT];exact if_neg (fun h=>hab ⟨h.1,h.2.1⟩)
   have e2:Hid (digB s.data.toList a b=false):=by unfold Hid digB;rw [len_atT];exact decide_eq_false (fun h=>hab ⟨h.1,h.2.1⟩)
   by_cases h1:a≤(s.size:Int)
   · have h2:¬ (s.size:Int)≤b:=fun h=>hab ⟨h1,h⟩
     clear hab
     go_enter Tryz.func123,Tryz.ntmps123
     go_wp2
     go_ret2
     exact ⟨by rw [e1.out,e2.out];rfl,rfl⟩
   · clear hab
     go_enter Tryz.func123,Tryz.ntmps123
     go_wp2
     go_ret2
     exact ⟨by rw [e1.out,e2.out];rfl,rfl⟩
end Go.Proofs.YtcejjdmnlejbaaaGreatDoor
