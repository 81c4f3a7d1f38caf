import Derived.Test.YtcejjdmnlejbaaaGreatDoorBTvt
import Derived.Test.YtcejjdmnlejbaaaGreatDoorShelf
import Derived.Laws.ResultCell
namespace Go.Proofs.YtcejjdmnlejbaaaGreatDoor
set_option linter.unusedVariables false
set_option linter.unusedSimpArgs false
open Go.ChangeShapes Go.WideShapes Go.ChangeAt Go.RowKit
def WR (o:Option Tk.T3) (e:Ending):Prop:=∃ (k:Int) (x:ByteArray) (n:Int),e=.returned (.tuple #[.agg #[.int .i64 k,.string x,.int .i64 n,.int .i64 0],.bool o.isSome])∧∀ t,o=some t→k=t.kind∧x=t.text∧n=t.num
theorem WR.none {o:Option Tk.T3} (h:o=none) (k:Int) (x:ByteArray) (n:Int):WR o (.returned (.tuple #[.agg #[.int .i64 k,.string x,.int .i64 n,.int .i64 0],.bool false])) :=
 ⟨k,x,n,by rw [h];rfl,fun t ht=>by rw [h] at ht;cases ht⟩
theorem WR.some {o:Option Tk.T3} {k:Int} {x:ByteArray} {n:Int} (h:o=some ⟨k,x,n⟩):WR o (.returned (.tuple #[.agg #[.int .i64 k,.string x,.int .i64 n,.int .i64 0],.bool true])) :=
 ⟨k,x,n,by rw [h];rfl,fun t ht=>by rw [h] at ht;cases ht;exact ⟨rfl,rfl,rfl⟩⟩
def numO (l:List UInt8):Option Tk.T3:=if Tk.numOk l=true then some ⟨2,⟨#[]⟩,Txt.num l⟩ else none
theorem numO_no {l:List UInt8} (h:¬ (1≤l.length∧l.length≤13∧Txt.allD l=true∧¬ ((l.getD 0 0).toNat=48∧1 < l.length)∧Txt.num l≤1099511627776)):numO l=none:=by
 unfold numO Tk.numOk;rw [decide_eq_false h];rfl
theorem numO_yes {l:List UInt8} (h:1≤l.length∧l.length≤13∧Txt.allD l=true∧¬ ((l.getD 0 0).toNat=48∧1 < l.length)∧Txt.num l≤1099511627776):numO l=some ⟨2,⟨#[]⟩,Txt.num l⟩:=by
 unfold numO Tk.numOk;rw [decide_eq_true h];rfl
theorem below_alloc1 (w:World) (o:Obj):Below w.heap.size w (w.alloc o):=(Below.refl _ _).alloc (Nat.le_refl _) _
set_option maxHeartbeats 2000000 in
theorem tnum_any (s:ByteArray) (w:World) (hs:s.size≤9223372036854775807) (h1:1≤s.size) :
 Calls Tryz.prog 115 #[.string s] w fun e w'=>WR (numO s.data.toList) e∧Below w.heap.size w w':=by
 have h0:0 < s.size:=h1
 have hL:=Lib.hid (len_atT s)
 have HG0:=Lib.hid (getD_atT s 0 h0)
 by_cases h13:s.size≤13
 · have n13 : ¬ (13:Int) < (s.size:Int):=by omega
   by_cases hz:s[0].toNat=48∧1 < s.size
   · have z1:((s[0].toNat:Int)==48)=true:=by simp;omega
     have z2:(1:Int) < (s.size:Int):=by omega
     have N:Hid (numO s.data.toList=none):=numO_no (by rw [hL.out,HG0.out];exact fun q=>q.2.2.2.1 hz)
     clear hz
     go_enter Tryz.func115,Tryz.ntmps115
     go_wp2
     refine bodyPost_ret (v:=.tuple #[.agg #[.int .i64 0,.string ⟨#[]⟩,.int .i64 0,.int .i64 0],.bool false]) ?_ rfl ⟨WR.none N.out _ _ _,below_alloc1 _ _⟩
     rw [results_cell_tmp rfl]
     go_simp
   · have HZ := Lib.hid hz
     by_cases c:s[0].toNat=48
     · have z1 : ((s[0].toNat:Int)==48)=true:=by simp;omega
       have z2:¬ (1:Int) < (s.size:Int):=by omega
       clear hz c
       go_enter Tryz.func115,Tryz.ntmps115
       go_wp2_with fail
       go_loop [4,5,22] (fun n _ i=>∃ k:Nat,∃ m:Int,k≤s.size∧i=.int .i64 k∧n=.int .i64 m∧0≤m∧m≤10000000000000∧Hid (m=Txt.num (s.data.toList.take k)∧Txt.allD (s.data.toList.take k)=true)) (fun _ _ i=>s.size - (intOf i).toNat)
       case atStart=>exact ⟨0,0,by omega,rfl,rfl,by omega,by omega,rfl,rfl⟩
       case round =>
        obtain ⟨k,m,hk,rfl,rfl,hm0,hm1,HM⟩:=hrel
        by_cases hlt:k < s.size
        · have HN:Hid (Txt.num (s.data.toList.take (k+1))=10 * Txt.num (s.data.toList.take k)+((s[k].toNat:Int) - 48)):=by unfold Hid;rw [take_snocT s k hlt,Txt.num_snoc];rfl
          have HA:Hid (Txt.allD (s.data.toList.take (k+1))=Txt.isD s[k]):=by unfold Hid;rw [take_snocT s k hlt,Txt.allD_snoc,HM.out.2,Bool.true_and]
          have hi1:(k:Int) < (s.size:Int):=by omega
          by_cases hd:48≤s[k].toNat∧s[k].toNat≤57
          · have HD:=Lib.hid hd
            obtain ⟨hd1,hd2⟩:=hd
            have q1:¬ (s[k].toNat:Int) < 48:=by omega
            have q2:¬ (57:Int) < (s[k].toNat:Int):=by omega
            go_wp2
            go_round
            case rel =>
             have hA:Txt.allD (s.data.toList.take (k+1))=true:=by rw [HA.out,Txt.isD_iff];exact HD.out
             have hbd:=Txt.num_bd _ hA
             have hpw:(10 ^ (s.data.toList.take (k+1)).length:Nat)≤10 ^ 13:=Nat.pow_le_pow_right (by omega) (by simp;omega)
             have e:10 * m+((s[k].toNat:Int) - 48)=Txt.num (s.data.toList.take (k+1)):=by rw [HN.out,HM.out.1]
             exact ⟨k+1,10 * m+((s[k].toNat:Int) - 48),by omega,by go_num,rfl,by omega,by rw [e];omega,e,hA⟩
            case measure=>simp [intOf];omega
          · have hF:Hid (numO s.data.toList=none):=by
             refine numO_no fun q=>?_
             have hc:Txt.isD s[k]=true:=List.all_eq_true.1 q.2.2.1 s[k] (by rw [show s[k]=s.data.toList[k]'(by rw [len_atT];exact hlt) from rfl];exact List.getElem_mem _)
             rw [Txt.isD_iff] at hc;exact absurd hc hd
            by_cases q1:(s[k].toNat:Int) < 48
            · clear hd
              go_wp2
              refine bodyPost_ret (v:=.tuple #[.agg #[.int .i64 0,.string ⟨#[]⟩,.int .i64 0,.int .i64 0],.bool false]) ?_ rfl ⟨WR.none hF.out _ _ _,below_alloc1 _ _⟩
              rw [results_cell_tmp rfl]
              go_simp
            · have q2:(57:Int) < (s[k].toNat:Int):=by omega
              clear hd
              go_wp2
              refine bodyPost_ret (v:=.tuple #[.agg #[.int .i64 0,.string ⟨#[]⟩,.int .i64 0,.int .i64 0],.bool false]) ?_ rfl ⟨WR.none hF.out _ _ _,below_alloc1 _ _⟩
              rw [results_cell_tmp rfl]
              go_simp
        · have hi1:¬ (k:Int) < (s.size:Int):=by omega
          have hm:Hid (m=Txt.num s.data.toList∧Txt.allD s.data.toList=true):=by
           have:=HM.out
           rw [List.take_of_length_le (by rw [len_atT];omega)] at this
           exact this
          by_cases q1:m≤1099511627776
          · have N:Hid (numO s.data.toList=some ⟨2,⟨#[]⟩,m⟩):=by
             unfold Hid;rw [hm.out.1]
             exact numO_yes ⟨by rw [len_atT];omega,by rw [len_atT];omega,hm.out.2,by rw [len_atT,HG0.out];exact HZ.out,by rw [← hm.out.1];exact q1⟩
            go_wp2
            refine bodyPost_ret (v:=.tuple #[.agg #[.int .i64 2,.string ⟨#[]⟩,.int .i64 m,.int .i64 0],.bool true]) ?_ rfl ⟨WR.some N.out,below_alloc1 _ _⟩
            rw [results_cell_tmp rfl]
            go_simp
          · have N:Hid (numO s.data.toList=none):=by
             refine numO_no fun q=>q1 ?_
             rw [hm.out.1];exact q.2.2.2.2
            go_wp2
            refine bodyPost_ret (v:=.tuple #[.agg #[.int .i64 2,.string ⟨#[]⟩,.int .i64 m,.int .i64 0],.bool false]) ?_ rfl ⟨WR.none N.out _ _ _,below_alloc1 _ _⟩
            rw [results_cell_tmp rfl]
            go_simp
     · have z1 : ((s[0].toNat:Int)==48)=false:=by simp;omega
       clear hz c
       go_enter Tryz.func115,Tryz.ntmps115
       go_wp2_with fail
       go_loop [4,5,22] (fun n _ i=>∃ k:Nat,∃ m:Int,k≤s.size∧i=.int .i64 k∧n=.int .i64 m∧0≤m∧m≤10000000000000∧Hid (m=Txt.num (s.data.toList.take k)∧Txt.allD (s.data.toList.take k)=true)) (fun _ _ i=>s.size - (intOf i).toNat)
       case atStart=>exact ⟨0,0,by omega,rfl,rfl,by omega,by omega,rfl,rfl⟩
       case round =>
        obtain ⟨k,m,hk,rfl,rfl,hm0,hm1,HM⟩:=hrel
        by_cases hlt:k < s.size
        · have HN:Hid (Txt.num (s.data.toList.take (k+1))=10 * Txt.num (s.data.toList.take k)+((s[k].toNat:Int) - 48)):=by unfold Hid;rw [take_snocT s k hlt,Txt.num_snoc];rfl
          have HA:Hid (Txt.allD (s.data.toList.take (k+1))=Txt.isD s[k]):=by unfold Hid;rw [take_snocT s k hlt,Txt.allD_snoc,HM.out.2,Bool.true_and]
          have hi1:(k:Int) < (s.size:Int):=by omega
          by_cases hd:48≤s[k].toNat∧s[k].toNat≤57
          · have HD:=Lib.hid hd
            obtain ⟨hd1,hd2⟩:=hd
            have q1:¬ (s[k].toNat:Int) < 48:=by omega
            have q2:¬ (57:Int) < (s[k].toNat:Int):=by omega
            go_wp2
            go_round
            case rel =>
             have hA:Txt.allD (s.data.toList.take (k+1))=true:=by rw [HA.out,Txt.isD_iff];exact HD.out
             have hbd:=Txt.num_bd _ hA
             have hpw:(10 ^ (s.data.toList.take (k+1)).length:Nat)≤10 ^ 13:=Nat.pow_le_pow_right (by omega) (by simp;omega)
             have e:10 * m+((s[k].toNat:Int) - 48)=Txt.num (s.data.toList.take (k+1)):=by rw [HN.out,HM.out.1]
             exact ⟨k+1,10 * m+((s[k].toNat:Int) - 48),by omega,by go_num,rfl,by omega,by rw [e];omega,e,hA⟩
            case measure=>simp [intOf];omega
          · have hF:Hid (numO s.data.toList=none):=by
             refine numO_no fun q=>?_
             have hc:Txt.isD s[k]=true:=List.all_eq_true.1 q.2.2.1 s[k] (by rw [show s[k]=s.data.toList[k]'(by rw [len_atT];exact hlt) from rfl];exact List.getElem_mem _)
             rw [Txt.isD_iff] at hc;exact absurd hc hd
            by_cases q1:(s[k].toNat:Int) < 48
            · clear hd
              go_wp2
              refine bodyPost_ret (v:=.tuple #[.agg #[.int .i64 0,.string ⟨#[]⟩,.int .i64 0,.int .i64 0],.bool false]) ?_ rfl ⟨WR.none hF.out _ _ _,below_alloc1 _ _⟩
              rw [results_cell_tmp rfl]
              go_simp
            · have q2:(57:Int) < (s[k].toNat:Int):=by omega
              clear hd
              go_wp2
              refine bodyPost_ret (v:=.tuple #[.agg #[.int .i64 0,.string ⟨#[]⟩,.int .i64 0,.int .i64 0],.bool false]) ?_ rfl ⟨WR.none hF.out _ _ _,below_alloc1 _ _⟩
              rw [results_cell_tmp rfl]
              go_simp
        · have hi1:¬ (k:Int) < (s.size:Int):=by omega
          have hm:Hid (m=Txt.num s.data.toList∧Txt.allD s.data.toList=true):=by
           have:=HM.out
           rw [List.take_of_length_le (by rw [len_atT];omega)] at this
           exact this
          by_cases q1:m≤1099511627776
          · have N:Hid (numO s.data.toList=some ⟨2,⟨#[]⟩,m⟩):=by
             unfold Hid;rw [hm.out.1]
             exact numO_yes ⟨by rw [len_atT];omega,by rw [len_atT];omega,hm.out.2,by rw [len_atT,HG0.out];exact HZ.out,by rw [← hm.out.1];exact q1⟩
            go_wp2
            refine bodyPost_ret (v:=.tuple #[.agg #[.int .i64 2,.string ⟨#[]⟩,.int .i64 m,.int .i64 0],.bool true]) ?_ rfl ⟨WR.some N.out,below_alloc1 _ _⟩
            rw [results_cell_tmp rfl]
            go_simp
          · have N:Hid (numO s.data.toList=none):=by
             refine numO_no fun q=>q1 ?_
             rw [hm.out.1];exact q.2.2.2.2
            go_wp2
            refine bodyPost_ret (v:=.tuple #[.agg #[.int .i64 2,.string ⟨#[]⟩,.int .i64 m,.int .i64 0],.bool false]) ?_ rfl ⟨WR.none N.out _ _ _,below_alloc1 _ _⟩
            rw [results_cell_tmp rfl]
            go_simp
 · have n13:(13:Int) < (s.size:Int):=by omega
   have N:Hid (numO s.data.toList=none):=numO_no (by rw [hL.out];exact fun q=>h13 q.2.1)
   go_enter Tryz.func115,Tryz.ntmps115
   go_wp2
   refine bodyPost_ret (v:=.tuple #[.agg #[.int .i64 0,.string ⟨#[]⟩,.int .i64 0,.int .i64 0],.bool false]) ?_ rfl ⟨WR.none N.out _ _ _,below_alloc1 _ _⟩
   rw [results_cell_tmp rfl]
   go_simp
end Go.Proofs.YtcejjdmnlejbaaaGreatDoor
