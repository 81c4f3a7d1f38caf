import Derived.Test.YtcejjdmnlejbaaaGreatDoorBTvP
namespace Go.Proofs.YtcejjdmnlejbaaaGreatDoor
set_option linter.unusedVariables false
set_option linter.unusedSimpArgs false
open Go.ChangeShapes Go.WideShapes Go.ChangeAt Go.RowKit
theorem word_one {s:ByteArray} {t:Tk.T3} (h:Tk.word s=some t) (hk:t.kind=1):t=⟨1,s,0⟩:=by
 unfold Tk.word at h
 split at h
 · split at h
   · cases h
   · exact (Option.some.inj h).symm
 · split at h
   · split at h
     · obtain rfl:=Option.some.inj h;dsimp only at hk;omega
     · cases h
   · split at h
     · split at h
       · obtain rfl:=Option.some.inj h;dsimp only at hk;omega
       · cases h
     · split at h
       · obtain rfl:=Option.some.inj h;dsimp only at hk;omega
       · cases h
def VP (w:World) (k:Int) (x:ByteArray) (n:Int) (e:Ending) (w':World):Prop:=(∃ b:Bool,e=.returned (.bool b)∧(b=true↔VT ⟨k,x,n⟩))∧Below w.heap.size w w'
theorem vp_no {w w':World} {k:Int} {x:ByteArray} {n:Int} (h:¬ VT ⟨k,x,n⟩) (hb:Below w.heap.size w w'):VP w k x n (.returned (.bool false)) w':=⟨⟨false,rfl,(fun q=>by cases q),fun q=>absurd q h⟩,hb⟩
theorem vp_yes {w w':World} {k:Int} {x:ByteArray} {n:Int} (h:VT ⟨k,x,n⟩) (hb:Below w.heap.size w w'):VP w k x n (.returned (.bool true)) w':=⟨⟨true,rfl,fun _=>h,fun _=>rfl⟩,hb⟩
theorem vt1 {x:ByteArray} {n:Int}:VT ⟨1,x,n⟩↔(∀ b ∈ x.data.toList,Tk.inW b=true)∧Tk.word x=some ⟨1,x,0⟩∧n=0:=by
 constructor
 · rintro (⟨-,h⟩|⟨h,-⟩|⟨h,-⟩|⟨h,-⟩)
   · exact h
   · rcases h with h|h<;>(dsimp only at h;omega)
   · dsimp only at h;omega
   · dsimp only at h;omega
 · intro h;exact .inl ⟨rfl,h⟩
theorem vt23 {k:Int} {x:ByteArray} {n:Int} (hk:k=2∨k=3):VT ⟨k,x,n⟩↔x=⟨#[]⟩∧0≤n∧n≤1099511627776:=by
 constructor
 · rintro (⟨h,-⟩|⟨-,h⟩|⟨h,-⟩|⟨h,-⟩)
   · dsimp only at h;omega
   · exact h
   · dsimp only at h;omega
   · dsimp only at h;omega
 · intro h;exact .inr (.inl ⟨hk,h⟩)
theorem vt4 {x:ByteArray} {n:Int}:VT ⟨4,x,n⟩↔x=⟨#[]⟩∧0≤n∧n≤1439:=by
 constructor
 · rintro (⟨h,-⟩|⟨h,-⟩|⟨-,h⟩|⟨h,-⟩)
   · dsimp only at h;omega
   · rcases h with h|h<;>(dsimp only at h;omega)
   · exact h
   · dsimp only at h;omega
 · intro h;exact .inr (.inr (.inl ⟨rfl,h⟩))
theorem vt5 {x:ByteArray} {n:Int}:VT ⟨5,x,n⟩↔0 < x.size∧Tk.sgn x.data.toList=x.size∧n=0:=by
 constructor
 · rintro (⟨h,-⟩|⟨h,-⟩|⟨h,-⟩|⟨-,h⟩)
   · dsimp only at h;omega
   · rcases h with h|h<;>(dsimp only at h;omega)
   · dsimp only at h;omega
   · exact h
 · intro h;exact .inr (.inr (.inr ⟨rfl,h⟩))
theorem vt_else {k:Int} {x:ByteArray} {n:Int} (h1:k≠1) (h2:k≠2) (h3:k≠3) (h4:k≠4) (h5:k≠5):¬ VT ⟨k,x,n⟩:=by
 rintro (⟨h,-⟩|⟨h,-⟩|⟨h,-⟩|⟨h,-⟩)
 · exact h1 h
 · rcases h with h|h
   · exact h2 h
   · exact h3 h
 · exact h4 h
 · exact h5 h
theorem nil_size {x:ByteArray}:x=⟨#[]⟩↔x.size=0:=by
 constructor
 · rintro rfl;rfl
 · intro h;apply ByteArray.ext;exact Array.eq_empty_of_size_eq_zero h
theorem ext_eq {x:ByteArray} {g:Nat} (hg:g≤x.size):x.extract 0 g=x↔g=x.size:=by
 constructor
 · intro h
   have:=congrArg ByteArray.size h
   rw [ByteArray.size_extract] at this;omega
 · rintro rfl;exact ext_all x
set_option maxHeartbeats 2000000 in
set_option maxRecDepth 100000 in
theorem tvalid_any (k:Int) (x:ByteArray) (n a:Int) (w:World) (ht:Tab w) (hx:x.size≤9223372036854775807) :
 Calls Tryz.prog 161 #[.agg #[.int .i64 k,.string x,.int .i64 n,.int .i64 a]] w (VP w k x n):=by
 have HT:Hid (Tab (w.alloc (.cells #[.int .i64 k,.string x,.int .i64 n,.int .i64 a] 68))):=ht.alloc _
 have B0:Hid (Below w.heap.size w (w.alloc (.cells #[.int .i64 k,.string x,.int .i64 n,.int .i64 a] 68))):=(Below.refl _ _).alloc (Nat.le_refl _) _
 have B2:Hid (Below w.heap.size w ((w.alloc (.cells #[.int .i64 k,.string x,.int .i64 n,.int .i64 a] 68)).drewN 0)):=B0.out
 clear ht
 by_cases k1:k=1
 · subst k1
   go_enter Tryz.func161,Tryz.ntmps161
   go_wp2_with fail
   go_loop [3,15] (fun _ i=>∃ j:Nat,i=.int .i64 j∧j≤x.size∧Hid (∀ b ∈ x.data.toList.take j,Tk.inW b=true)) (fun _ i=>x.size - (intOf i).toNat)
   case atStart=>exact ⟨0,rfl,Nat.zero_le _,by intro b hb;simp at hb⟩
   case round =>
    obtain ⟨j,rfl,hj,HJ⟩:=hrel
    by_cases hlt:j < x.size
    · have hj':(j:Int) < (x.size:Int):=by omega
      cases hw:Tk.inW x[j] with
      | false =>
        have NO:Hid (¬ VT ⟨1,x,n⟩):=fun q=>by
         have:=(vt1.1 q).1 x[j] (by rw [show x[j]=x.data.toList[j]'(by rw [len_atT];exact hlt) from rfl];exact List.getElem_mem _)
         rw [hw] at this;cases this
        have HW:Hid (inWI (x[j].toNat:Int)=false):=by unfold Hid;rw [inW_int,hw]
        clear hw
        go_wp2_with (go_at_call 66;refine (inword_any _ _).mono ?_;rw [HW.out];rintro e w' ⟨rfl,rfl⟩)
        go_ret
        exact vp_no NO.out B0.out
      | true =>
        have HW:Hid (inWI (x[j].toNat:Int)=true):=by unfold Hid;rw [inW_int,hw]
        have HN:Hid (∀ b ∈ x.data.toList.take (j+1),Tk.inW b=true):=by
         intro b hb
         rw [take_snocT x j hlt] at hb
         rcases List.mem_append.1 hb with hb|hb
         · exact HJ.out b hb
         · rw [List.mem_singleton.1 hb];exact hw
        clear hw
        go_wp2_with (go_at_call 66;refine (inword_any _ _).mono ?_;rw [HW.out];rintro e w' ⟨rfl,rfl⟩)
        go_round
        case rel=>exact ⟨j+1,by go_num,by omega,HN.out⟩
        case measure=>simp [intOf];omega
    · have hj':¬ (j:Int) < (x.size:Int):=by omega
      have ALL:Hid (∀ b ∈ x.data.toList,Tk.inW b=true):=by
       have:=HJ.out
       rw [List.take_of_length_le (by rw [len_atT];omega)] at this
       exact this
      go_wp2_with fail
      refine (tword_any x _ hx ALL.out).mono ?_
      rintro e w1 ⟨⟨t1,t2,t3,rfl,hq⟩,hb⟩
      have c2:w1.cell? ⟨w.heap.size,2,none⟩=some (.int .i64 n):=box_cell hb 2
      have hz1:=box_size hb
      have B1:Hid (Below w.heap.size w (w1.alloc (.cells #[.int .i64 t1,.string t2,.int .i64 t3,.int .i64 0] 68))):=(B0.out.trans (hb.mono (by simp))).alloc (Nat.le_of_lt hz1) _
      have HQ:=Lib.hid hq
      clear hb hq
      cases ho:Tk.word x with
      | none =>
        have NO:Hid (¬ VT ⟨1,x,n⟩):=fun q=>by have:=(vt1.1 q).2.1;rw [ho] at this;cases this
        clear ho HQ
        rw [show (none:Option Tk.T3).isSome=false from rfl]
        go_wp2
        go_ret
        exact vp_no NO.out B1.out
      | some t =>
        obtain ⟨rfl,rfl,rfl⟩:=HQ.out t ho
        rw [show (some t:Option Tk.T3).isSome=true from rfl]
        by_cases y1:t.kind=1
        · have a1:(t.kind==1)=true:=by simp [y1]
          have TE:=Lib.hid (word_one ho y1)
          by_cases y2:n=0
          · have a2:(n==0)=true:=by simp [y2]
            have YES:Hid (VT ⟨1,x,n⟩):=vt1.2 ⟨ALL.out,by rw [ho,TE.out],y2⟩
            clear ho HQ y1 y2
            go_wp2
            go_ret
            exact vp_yes YES.out B1.out
          · have a2:(n==0)=false:=by simp [y2]
            have NO:Hid (¬ VT ⟨1,x,n⟩):=fun q=>y2 (vt1.1 q).2.2
            clear ho HQ y1 y2
            go_wp2
            go_ret
            exact vp_no NO.out B1.out
        · have a1:(t.kind==1)=false:=by simp [y1]
          have NO:Hid (¬ VT ⟨1,x,n⟩):=fun q=>by have:=(vt1.1 q).2.1;rw [ho] at this;obtain rfl:=Option.some.inj this;exact y1 rfl
          clear ho HQ y1
          go_wp2
          go_ret
          exact vp_no NO.out B1.out
 · have q1 : (k == 1)=false:=by simp [k1]
   have E0:Hid (x.toList.isEmpty=decide (x.size=0)):=isEmpty_size x
   by_cases k23:k=2∨k=3
   · have VV := Lib.hid (vt23 (x:=x) (n:=n) k23)
     have qq:(k==2)=true∨((k==2)=false∧(k==3)=true):=by
      rcases k23 with rfl|rfl
      · exact .inl rfl
      · exact .inr ⟨rfl,rfl⟩
     clear k1 k23
     by_cases z0:x.size=0
     · have e1:x.toList.isEmpty=true:=by rw [E0.out];simp [z0]
       have XE:=Lib.hid (nil_size.2 z0)
       clear z0
       by_cases z1:0≤n
       · by_cases z2:n≤1099511627776
         · have YES:Hid (VT ⟨k,x,n⟩):=VV.out.2 ⟨XE.out,z1,z2⟩
           rcases qq with q2|⟨q2,q3⟩
           · go_enter Tryz.func161,Tryz.ntmps161
             go_wp2
             go_ret
             exact vp_yes YES.out B0.out
           · go_enter Tryz.func161,Tryz.ntmps161
             go_wp2
             go_ret
             exact vp_yes YES.out B0.out
         · have NO:Hid (¬ VT ⟨k,x,n⟩):=fun q=>z2 (VV.out.1 q).2.2
           rcases qq with q2|⟨q2,q3⟩
           · go_enter Tryz.func161,Tryz.ntmps161
             go_wp2
             go_ret
             exact vp_no NO.out B0.out
           · go_enter Tryz.func161,Tryz.ntmps161
             go_wp2
             go_ret
             exact vp_no NO.out B0.out
       · have NO:Hid (¬ VT ⟨k,x,n⟩):=fun q=>z1 (VV.out.1 q).2.1
         rcases qq with q2|⟨q2,q3⟩
         · go_enter Tryz.func161,Tryz.ntmps161
           go_wp2
           go_ret
           exact vp_no NO.out B0.out
         · go_enter Tryz.func161,Tryz.ntmps161
           go_wp2
           go_ret
           exact vp_no NO.out B0.out
     · have e1:x.toList.isEmpty=false:=by rw [E0.out];simp [z0]
       have NO:Hid (¬ VT ⟨k,x,n⟩):=fun q=>z0 (nil_size.1 (VV.out.1 q).1)
       clear z0
       rcases qq with q2|⟨q2,q3⟩
       · go_enter Tryz.func161,Tryz.ntmps161
         go_wp2
         go_ret
         exact vp_no NO.out B0.out
       · go_enter Tryz.func161,Tryz.ntmps161
         go_wp2
         go_ret
         exact vp_no NO.out B0.out
   · have q2 : (k==2)=false:=by simp;omega
     have q3:(k==3)=false:=by simp;omega
     by_cases k4:k=4
     · subst k4
       clear k1 k23
       have FE:Hid (fcE n=0↔0≤n∧n≤1439):=by
        unfold Hid fcE fcBK
        by_cases q:0≤n∧n < 1440
        · rw [decide_eq_true q,if_pos rfl];exact ⟨fun _=>by omega,fun _=>rfl⟩
        · rw [decide_eq_false q,if_neg (by simp)];exact ⟨(fun h=>by cases h),fun h=>absurd ⟨h.1,by omega⟩ q⟩
       go_enter Tryz.func161,Tryz.ntmps161
       go_wp2_with fail
       refine (fclock_any n _ HT.out).mono ?_
       generalize fcE n=fe at *
       generalize fcV n=fv at *
       rintro e w1 ⟨rfl,hb⟩
       have c1:w1.cell? ⟨w.heap.size,1,none⟩=some (.string x):=box_cell hb 1
       have hz1:=box_size hb
       have B1:Hid (Below w.heap.size w w1):=B0.out.trans (hb.mono (by simp))
       clear hb
       by_cases z0:x.size=0
       · have e1:x.toList.isEmpty=true:=by rw [E0.out];simp [z0]
         by_cases z1:fe=0
         · have a1:(fe==0)=true:=by simp [z1]
           have YES:Hid (VT ⟨4,x,n⟩):=vt4.2 ⟨nil_size.2 z0,FE.out.1 z1⟩
           clear z0 z1
           go_wp2
           go_ret
           exact vp_yes YES.out B1.out
         · have a1:(fe==0)=false:=by simp [z1]
           have NO:Hid (¬ VT ⟨4,x,n⟩):=fun q=>z1 (FE.out.2 (vt4.1 q).2)
           clear z0 z1
           go_wp2
           go_ret
           exact vp_no NO.out B1.out
       · have e1:x.toList.isEmpty=false:=by rw [E0.out];simp [z0]
         have NO:Hid (¬ VT ⟨4,x,n⟩):=fun q=>z0 (nil_size.1 (vt4.1 q).1)
         clear z0
         go_wp2
         go_ret
         exact vp_no NO.out B1.out
     · have q4 : (k==4)=false:=by simp [k4]
       by_cases k5:k=5
       · subst k5
         clear k1 k23 k4
         have SG:Hid (∀ w,Calls Tryz.prog 68 #[.string x] w fun e w'=>e=.returned (.string (x.extract 0 (Tk.sgn x.data.toList)))∧w'=w):=fun w=>(tsign_any x w hx).mono fun _ _ h=>⟨h.1,h.2.symm⟩
         have hsl:=Tk.sgn_le x.data.toList
         rw [len_atT] at hsl
         have EX:=Lib.hid (ext_eq hsl)
         have V5:=Lib.hid (vt5 (x:=x) (n:=n))
         generalize Tk.sgn x.data.toList=sg at *
         by_cases z0:x.size=0
         · have e1:x.toList.isEmpty=true:=by rw [E0.out];simp [z0]
           have e2:(!x.toList.isEmpty)=false:=by rw [e1];rfl
           have NO:Hid (¬ VT ⟨5,x,n⟩):=fun q=>by have:=(V5.out.1 q).1;omega
           clear z0
           go_enter Tryz.func161,Tryz.ntmps161
           go_wp2_with fail
           go_quiet ((go_at_call 68;exact Calls.quiet_of_same (SG.out _)))
           go_wp2
           go_ret
           exact vp_no NO.out (below_drewNT B0.out _)
         · have e1:x.toList.isEmpty=false:=by rw [E0.out];simp [z0]
           have e2:(!x.toList.isEmpty)=true:=by rw [e1];rfl
           by_cases z1:sg=x.size
           · have XE:=EX.out.2 z1
             rw [XE] at SG
             by_cases z2:n=0
             · have a2:(n==0)=true:=by simp [z2]
               have YES:Hid (VT ⟨5,x,n⟩):=V5.out.2 ⟨by omega,z1,z2⟩
               clear z0 z1 z2 XE EX V5
               go_enter Tryz.func161,Tryz.ntmps161
               go_wp2_with fail
               go_quiet ((go_at_call 68;exact Calls.quiet_of_same (SG.out _)))
               go_wp2
               go_ret
               exact vp_yes YES.out (below_drewNT B0.out _)
             · have a2:(n==0)=false:=by simp [z2]
               have NO:Hid (¬ VT ⟨5,x,n⟩):=fun q=>z2 (V5.out.1 q).2.2
               clear z0 z1 z2 XE EX V5
               go_enter Tryz.func161,Tryz.ntmps161
               go_wp2_with fail
               go_quiet ((go_at_call 68;exact Calls.quiet_of_same (SG.out _)))
               go_wp2
               go_ret
               exact vp_no NO.out (below_drewNT B0.out _)
           · have NO:Hid (¬ VT ⟨5,x,n⟩):=fun q=>z1 (V5.out.1 q).2.1
             have a3:((x.extract 0 sg).toList==x.toList)=false:=bytes_ne fun q=>z1 (EX.out.1 q)
             clear z0 z1
             generalize x.extract 0 sg=y at *
             go_enter Tryz.func161,Tryz.ntmps161
             go_wp2_with fail
             go_quiet ((go_at_call 68;exact Calls.quiet_of_same (SG.out _)))
             go_wp2
             go_ret
             exact vp_no NO.out (below_drewNT B0.out _)
       · have q5:(k==5)=false:=by simp [k5]
         have NO:Hid (¬ VT ⟨k,x,n⟩):=vt_else k1 (fun q=>k23 (.inl q)) (fun q=>k23 (.inr q)) k4 k5
         clear k1 k23 k4 k5
         go_enter Tryz.func161,Tryz.ntmps161
         go_wp2
         go_ret
         exact vp_no NO.out B0.out
end Go.Proofs.YtcejjdmnlejbaaaGreatDoor
