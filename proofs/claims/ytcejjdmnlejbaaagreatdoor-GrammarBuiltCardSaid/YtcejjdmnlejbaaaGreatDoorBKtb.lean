import Derived.Test.YtcejjdmnlejbaaaGreatDoorBTxtMath
import Derived.Test.YtcejjdmnlejbaaaGreatDoorShelf
import Derived.Lib.QuietBelow
import Derived.WalkSmall
import Derived.PlainAid
import Derived.StillTailTactics
import Derived.WalkKit
import Derived.ProofKit
import Derived.OpenShut
import Derived.WalkSpells
import Derived.WalkLawsBesides
import Derived.Outline
import Derived.LoopTactic
import Derived.Deep.QuietTactic
import Derived.BigQuiet
import Derived.Lib.Hide
import Derived.Deep.RegionHeld3
import Derived.Deep.RegionWith
import Derived.Deep.DeepCutAuto
import Derived.Deep.CutBlock
import Derived.Deep.DeepMust
import Derived.Deep.DeepFit
namespace Go.Proofs.YtcejjdmnlejbaaaGreatDoor
set_option linter.unusedVariables false
set_option linter.unusedSimpArgs false
open Go.ChangeShapes Go.WideShapes Go.ChangeAt Go.RowKit
theorem ret_intT {k:IntKind} {a b:Int} (h:a=b):Ending.returned (.int k a)=.returned (.int k b):=by rw [h]
theorem ret_boolT {a b:Bool} (h:a=b):Ending.returned (.bool a)=.returned (.bool b):=by rw [h]
theorem ret_int2T {k j:IntKind} {a b c d:Int} (h:a=b) (h':c=d):Ending.returned (.tuple #[.int k a,.int j c])=.returned (.tuple #[.int k b,.int j d]):=by rw [h,h']
theorem box_cell {w w1:World} {xs:Array Value} {T:TypeId} (hb:Below (w.alloc (.cells xs T)).heap.size (w.alloc (.cells xs T)) w1) (o:Nat):w1.cell? ⟨w.heap.size,o,none⟩=xs[o]?:=by
 rw [hb.cell (p:=⟨w.heap.size,o,none⟩) (by simp)];simp
theorem box_free {w w1:World} {xs:Array Value} {T:TypeId} (hb:Below (w.alloc (.cells xs T)).heap.size (w.alloc (.cells xs T)) w1) (o:Nat):w1.frozen? ⟨w.heap.size,o,none⟩=false:=by
 rw [hb.frozen (p:=⟨w.heap.size,o,none⟩) (by simp)];simp
theorem box_size {w w1:World} {o:Obj} (hb:Below (w.alloc o).heap.size (w.alloc o) w1):w.heap.size < w1.heap.size:=by have:=hb.size;simp at this;omega
theorem below_drewNT {B:Nat} {w w1:World} (h:Below B w w1) (n:Nat):Below B w (w1.drewN n):=⟨h.os,h.tape,h.output,h.size,h.block⟩
theorem below_grow (w:World) (q:Nat) (os:Array Obj):Below w.heap.size w (Sort.grow (w.drewN q) os) :=
 ⟨rfl,rfl,rfl,by simp,fun k hk=>Sort.heap_grow_old _ _ (by simpa using hk)⟩
theorem ba_app (a b:List UInt8):(⟨a.toArray⟩:ByteArray)++⟨b.toArray⟩=⟨(a++b).toArray⟩:=by
 apply ByteArray.ext;simp
theorem ba_self (s:ByteArray):(⟨s.data.toList.toArray⟩:ByteArray)=s:=by cases s;simp
theorem ret_str {a b:ByteArray} (h:a=b):Ending.returned (.string a)=.returned (.string b):=by rw [h]
end Go.Proofs.YtcejjdmnlejbaaaGreatDoor
namespace Go.Proofs.YtcejjdmnlejbaaaGreatDoor
set_option linter.unusedVariables false
set_option linter.unusedSimpArgs false
open Go.ChangeShapes Go.WideShapes Go.ChangeAt Go.RowKit
theorem take_snocT (s:ByteArray) (k:Nat) (h:k < s.size):s.data.toList.take (k+1)=s.data.toList.take k++[s[k]]:=by
 rw [List.take_succ_eq_append_getElem (by simpa using h)];rfl
theorem getD_atT (s:ByteArray) (k:Nat) (h:k < s.size):s.data.toList.getD k 0=s[k]:=by
 rw [List.getD_eq_getElem?_getD,List.getElem?_eq_getElem (by simpa using h)];rfl
theorem len_atT (s:ByteArray):s.data.toList.length=s.size:=Array.length_toList
theorem byte_eq (a b:UInt8):(a==b)=decide (a.toNat=b.toNat):=by
 by_cases h:a=b
 · subst h;simp
 · have:a.toNat≠b.toNat:=fun e=>h (UInt8.toNat_inj.1 e)
   simp [h,this]
theorem fitB_zero (c p:UInt8) (hp:p.toNat=48):Txt.fitB c p=Txt.isD c:=by
 have:p=48:=UInt8.toNat_inj.1 hp
 simp [Txt.fitB,this]
theorem fitB_other (c p:UInt8) (hp:p.toNat≠48):Txt.fitB c p=decide (c.toNat=p.toNat):=by
 have:¬ p=48:=fun e=>hp (by rw [e];rfl)
 simp only [Txt.fitB,this,if_false];exact byte_eq c p
set_option maxHeartbeats 1000000 in
theorem matches_any (s p:ByteArray) (w:World) (hs:s.size≤9223372036854775807) (hp:p.size≤9223372036854775807) :
 Calls Tryz.prog 144 #[.string s,.string p] w fun e w'=>e=.returned (.bool (Txt.fits s.data.toList p.data.toList))∧∃ n,w'=w.drewN n:=by
 by_cases hl:s.size=p.size
 · have HL := Lib.hid hl
   have hne:((s.size:Int) != (p.size:Int))=false:=by rw [hl];simp
   have hle:s.size≤p.size:=by omega
   clear hl
   go_enter Tryz.func144,Tryz.ntmps144
   go_wp2_with fail
   go_loopw [5,13] (fun _ i wr=>∃ k:Nat,k≤s.size∧i=.int .i64 k∧Hid (Txt.fits (s.data.toList.take k) (p.data.toList.take k)=true∧∃ n,wr=w.drewN n)) (fun _ i _=>s.size - (intOf i).toNat)
   case atStart=>exact ⟨0,by omega,rfl,by simp [Txt.fits],0,rfl⟩
   case round =>
    obtain ⟨k,hk,rfl,HR⟩:=hrel
    by_cases hlt:k < s.size
    · have hlp:k < p.size:=by omega
      have hft:=Txt.fits_take s.data.toList p.data.toList (by rw [len_atT,len_atT,HL.out]) k (by rw [len_atT];exact hlt)
      rw [getD_atT s k hlt,getD_atT p k hlp] at hft
      rw [HR.out.1,Bool.true_and] at hft
      have HF:=Lib.hid hft
      clear hft
      have hno:Hid (Txt.fitB s[k] p[k]=false→Txt.fits s.data.toList p.data.toList=false):=by
       intro hf
       cases hb:Txt.fits s.data.toList p.data.toList
       · rfl
       · have:=(Txt.fits_all s.data.toList p.data.toList (by rw [len_atT,len_atT,HL.out])).1 hb k (by rw [len_atT];exact hlt)
         rw [getD_atT s k hlt,getD_atT p k hlp,hf] at this
         cases this
      obtain ⟨n,rfl⟩:=HR.out.2
      have hi0:(0:Int)≤(k:Int):=by omega
      have hi1:(k:Int) < (s.size:Int):=by omega
      have hi2:(k:Int) < (p.size:Int):=by omega
      by_cases hp:p[k].toNat=48
      · have hpB:((p[k].toNat:Int)==48)=true:=by simp;omega
        have HP:=Lib.hid hp
        clear hp
        by_cases hd:48≤s[k].toNat∧s[k].toNat≤57
        · obtain ⟨hd1,hd2⟩:=hd
          have h1:¬ (s[k].toNat:Int) < 48:=by omega
          have h2:¬ 57 < (s[k].toNat:Int):=by omega
          go_wp2
          go_roundw
          case rel=>exact ⟨k+1,by omega,by go_num,by rw [HF.out,fitB_zero _ _ HP.out,Txt.isD_iff];omega,n,rfl⟩
          case measure=>simp [intOf];omega
        · have hr:Hid (Txt.fits s.data.toList p.data.toList=false):=hno.out (by rw [fitB_zero _ _ HP.out,Txt.isD_no];exact hd)
          by_cases h1:(s[k].toNat:Int) < 48
          · go_wp2
            go_ret
            exact ⟨ret_boolT hr.out.symm,n,rfl⟩
          · have h2:57 < (s[k].toNat:Int):=by omega
            clear hd
            go_wp2
            go_ret
            exact ⟨ret_boolT hr.out.symm,n,rfl⟩
      · have hpB:((p[k].toNat:Int)==48)=false:=by simp;omega
        have HP:=Lib.hid hp
        clear hp
        by_cases hd:s[k].toNat=p[k].toNat
        · have hB:((s[k].toNat:Int) != (p[k].toNat:Int))=false:=by simp [hd]
          have HD:=Lib.hid hd
          clear hd
          go_wp2_with fail
          go_quiet (fail)
          go_wp2
          go_roundw
          case rel=>exact ⟨k+1,by omega,by go_num,by rw [HF.out,fitB_other _ _ HP.out];simp [HD.out],n+nq,by first|rfl|rw [World.drewN_drewN]⟩
          case measure=>simp [intOf];omega
        · have hB:((s[k].toNat:Int) != (p[k].toNat:Int))=true:=by simp;omega
          have hr:Hid (Txt.fits s.data.toList p.data.toList=false):=hno.out (by rw [fitB_other _ _ HP.out];simp [hd])
          clear hd
          go_wp2_with fail
          go_quiet (fail)
          go_wp2
          go_ret
          exact ⟨ret_boolT hr.out.symm,n+nq,by first|rfl|rw [World.drewN_drewN]⟩
    · have hr:Hid (Txt.fits s.data.toList p.data.toList=true):=by
       have:=HR.out.1
       rw [List.take_of_length_le (by rw [len_atT];omega),List.take_of_length_le (by rw [len_atT,← HL.out];omega)] at this
       exact this
      obtain ⟨n,rfl⟩:=HR.out.2
      go_wp2
      go_ret
      exact ⟨ret_boolT hr.out.symm,n,rfl⟩
 · have hne:((s.size:Int) != (p.size:Int))=true:=by simp;omega
   have hr:Hid (Txt.fits s.data.toList p.data.toList=false):=by
    cases hb:Txt.fits s.data.toList p.data.toList
    · rfl
    · have:=Txt.fits_len _ _ hb;rw [len_atT,len_atT] at this;exact absurd this hl
   clear hl
   go_enter Tryz.func144,Tryz.ntmps144
   go_wp2
   go_ret
   exact ⟨ret_boolT hr.out.symm,0,rfl⟩
set_option maxHeartbeats 1000000 in
theorem number_any (s:ByteArray) (w:World) (hs:s.size≤11) (hd:Txt.allD s.data.toList=true) :
 Calls Tryz.prog 145 #[.string s] w fun e w'=>e=.returned (.int .i64 (Txt.num s.data.toList))∧w=w':=by
 have HD:=Lib.hid hd
 clear hd
 go_enter Tryz.func145,Tryz.ntmps145
 go_wp2_with fail
 go_loop [3,4,7] (fun n _ i=>∃ k:Nat,k≤s.size∧i=.int .i64 k∧n=.int .i64 (Txt.num (s.data.toList.take k))) (fun _ _ i=>s.size - (intOf i).toNat)
 case atStart=>exact ⟨0,by omega,rfl,rfl⟩
 case round =>
  obtain ⟨k,hk,rfl,rfl⟩:=hrel
  by_cases hlt:k < s.size
  · have hda:Txt.allD (s.data.toList.take k)=true:=by
     rw [Txt.allD,List.all_eq_true];intro x hx
     exact List.all_eq_true.1 HD.out x (List.mem_of_mem_take hx)
    have hb:=Txt.num_bd _ hda
    have hpw:(10 ^ (s.data.toList.take k).length:Nat)≤10 ^ 11:=Nat.pow_le_pow_right (by omega) (by simp;omega)
    have hc:Txt.isD s[k]=true:=List.all_eq_true.1 HD.out s[k] (by rw [show s[k]=s.data.toList[k]'(by rw [len_atT];exact hlt) from rfl];exact List.getElem_mem _)
    rw [Txt.isD_iff] at hc
    have HN:Hid (Txt.num (s.data.toList.take (k+1))=10 * Txt.num (s.data.toList.take k)+((s[k].toNat:Int) - 48)):=by unfold Hid;rw [take_snocT s k hlt,Txt.num_snoc];rfl
    obtain ⟨hc1,hc2⟩:=hc
    have hn1:0≤Txt.num (s.data.toList.take k):=hb.1
    have hn2:Txt.num (s.data.toList.take k)≤100000000000:=by have:=hb.2;omega
    clear hb hpw hda
    generalize Txt.num (s.data.toList.take k)=m at *
    go_wp2
    go_round
    case rel=>exact ⟨k+1,by omega,by go_num,by rw [HN.out]⟩
    case measure=>simp [intOf];omega
  · go_wp2
    go_ret
    exact ⟨ret_intT (by rw [List.take_of_length_le (by rw [len_atT];omega)]),rfl⟩
end Go.Proofs.YtcejjdmnlejbaaaGreatDoor
