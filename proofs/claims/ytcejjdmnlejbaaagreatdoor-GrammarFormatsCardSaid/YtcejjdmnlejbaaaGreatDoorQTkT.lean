import Derived.Test.YtcejjdmnlejbaaaGreatDoorQTkR
import Derived.Test.YtcejjdmnlejbaaaGreatDoorQKti
namespace Go.Proofs.YtcejjdmnlejbaaaGreatDoor
set_option linter.unusedVariables false
set_option linter.unusedSimpArgs false
open Go.ChangeShapes Go.WideShapes Go.ChangeAt Go.RowKit
def itoaB (n:Int):ByteArray:=⟨(Lib.itoa n).toArray⟩
def txtR (k:Int) (x:ByteArray) (n:Int):ByteArray:=if k=1∨k=5 then x else if k=2 then itoaB n else if k=3 then fuV n else if k=4 then ⟨#[64]⟩++fcV n else ⟨#[]⟩
structure OkT (s:ByteArray) (k:Int) (x:ByteArray) (n:Int):Prop where
 pos:0 < s.size
 n32:(s.data.toList.getD 0 0).toNat≠32
 n35:(s.data.toList.getD 0 0).toNat≠35
 err:(Tk.scanT s).2.2=0
 one:∃ p,(Tk.scanT s).1=[⟨⟨k,x,n⟩,p⟩]
 last:(s.data.toList.getD (s.size - 1) 0).toNat≠32
 none:Tk.has s.data.toList 35=false
def TTP (w:World) (k:Int) (x:ByteArray) (n:Int) (e:Ending) (w':World):Prop:=(∃ r:ByteArray,e=.returned (.string r)∧(OkT (txtR k x n) k x n→r=txtR k x n)∧(¬ OkT (txtR k x n) k x n→r=⟨#[]⟩))∧Below w.heap.size w w'
theorem ttp_no {w w':World} {k:Int} {x:ByteArray} {n:Int} (h:¬ OkT (txtR k x n) k x n) (hb:Below w.heap.size w w'):TTP w k x n (.returned (.string ⟨#[]⟩)) w':=⟨⟨_,rfl,fun q=>absurd q h,fun _=>rfl⟩,hb⟩
theorem ttp_yes {w w':World} {k:Int} {x:ByteArray} {n:Int} {s:ByteArray} (hs:s=txtR k x n) (h:OkT (txtR k x n) k x n) (hb:Below w.heap.size w w'):TTP w k x n (.returned (.string s)) w':=⟨⟨_,rfl,fun _=>hs,fun q=>absurd h q⟩,hb⟩
theorem itoa_gen (n:Int) (w:World) (h0 : -9223372036854775808≤n) (h1:n≤9223372036854775807) (ht:Tab w) :
 Calls Tryz.prog 104 #[.int .i64 n] w fun e w'=>e=.returned (.string (itoaB n))∧Below w.heap.size w w':=by
 refine (Tryz.strconv_Itoa n h0 h1 w ht.1).mono ?_
 rintro e w' ⟨rfl,k,os,rfl⟩
 exact ⟨rfl,below_grow _ _ _⟩
theorem bytes_ne {a b:ByteArray} (h:a≠b):(a.toList==b.toList)=false:=by
 rw [Lib.toList_data,Lib.toList_data]
 exact beq_eq_false_iff_ne.2 fun q=>h (ByteArray.ext (Array.toList_inj.1 q))
theorem itoa_size (n:Int) (h0 : -9223372036854775808≤n) (h1:n≤9223372036854775807):(itoaB n).size≤21:=by
 show (Lib.itoa n).toArray.size≤21
 rw [List.size_toArray]
 unfold Lib.itoa
 have h2:n.natAbs < 10 ^ 20:=by omega
 have:=Txt.dec_len_le n.natAbs 20 (by omega) h2
 have h3:=Txt.dec_len_le n.toNat 20 (by omega) (by omega)
 split
 · simp;omega
 · omega
theorem fu_size (n:Int):(fuV n).size≤100:=by
 unfold fuV
 split
 · rename_i q
   unfold fuB at q;rw [decide_eq_true_eq] at q
   have ha:0≤absI n∧absI n≤1099511627776:=by unfold absI;split<;>omega
   unfold fuS
   rw [ByteArray.size_append,ByteArray.size_append,ByteArray.size_append]
   have h1:=sgS_size n
   have h2:=decS_size (absI n / 60) (by omega)
   have h3:=padS_size (absI n % 60) 2 (by omega) (by omega)
   have h4:(⟨#[58]⟩:ByteArray).size=1:=rfl
   omega
 · decide
theorem fc_size (n:Int):(fcV n).size≤100:=by
 unfold fcV
 split
 · rename_i q
   unfold fcBK at q;rw [decide_eq_true_eq] at q
   unfold fcS
   rw [ByteArray.size_append,ByteArray.size_append]
   have h3:=padS_size (n / 60) 2 (by omega) (by omega)
   have h5:=padS_size (n % 60) 2 (by omega) (by omega)
   have h4:(⟨#[58]⟩:ByteArray).size=1:=rfl
   omega
 · decide
theorem txtR_size (k:Int) (x:ByteArray) (n:Int) (h0 : -9223372036854775808≤n) (h1:n≤9223372036854775807) (hx:x.size≤9223372036854775807):(txtR k x n).size≤9223372036854775807:=by
 unfold txtR
 have:=itoa_size n h0 h1
 have:=fu_size n
 have:=fc_size n
 split
 · exact hx
 · split
   · omega
   · split
     · omega
     · split
       · rw [ByteArray.size_append];have h4:(⟨#[64]⟩:ByteArray).size=1:=rfl;omega
       · decide
set_option maxHeartbeats 8000000 in
set_option maxRecDepth 100000 in
theorem ttext_any (k : Int) (x:ByteArray) (n a:Int) (w:World) (ht:Tab w) (h0 : -9223372036854775808≤n) (h1:n≤9223372036854775807) (hx:x.size≤9223372036854775807) :
 Calls Tryz.prog 69 #[.agg #[.int .i64 k,.string x,.int .i64 n,.int .i64 a]] w (TTP w k x n):=by
 have HT:Hid (Tab (w.alloc (.cells #[.int .i64 k,.string x,.int .i64 n,.int .i64 a] 68))):=ht.alloc _
 have B0:Hid (Below w.heap.size w (w.alloc (.cells #[.int .i64 k,.string x,.int .i64 n,.int .i64 a] 68))):=(Below.refl _ _).alloc (Nat.le_refl _) _
 clear ht
 go_enter Tryz.func69,Tryz.ntmps69
 go_upto_block 0 with (fail)
 go_cut [3] (fun v wx=>v=.string (txtR k x n)∧Hid (Below (w.alloc (.cells #[.int .i64 k,.string x,.int .i64 n,.int .i64 a] 68)).heap.size (w.alloc (.cells #[.int .i64 k,.string x,.int .i64 n,.int .i64 a] 68)) wx))
 case first =>
  by_cases k1:k=1
  · have q1:(k==1)=true:=by simp [k1]
    have E:Hid (txtR k x n=x):=by unfold Hid txtR;rw [if_pos (.inl k1)]
    clear k1
    go_wp2
    go_meet
    exact ⟨by rw [E.out],Below.refl _ _⟩
  · have q1 : (k==1)=false:=by simp [k1]
    by_cases k5:k=5
    · have q5:(k==5)=true:=by simp [k5]
      have E:Hid (txtR k x n=x):=by unfold Hid txtR;rw [if_pos (.inr k5)]
      clear k1 k5
      go_wp2
      go_meet
      exact ⟨by rw [E.out],Below.refl _ _⟩
    · have q5:(k==5)=false:=by simp [k5]
      have n15:¬ (k=1∨k=5):=fun q=>q.elim k1 k5
      by_cases k2:k=2
      · have q2:(k==2)=true:=by simp [k2]
        have E:Hid (txtR k x n=itoaB n):=by unfold Hid txtR;rw [if_neg n15,if_pos k2]
        clear k1 k5 k2 n15
        go_wp2_with fail
        refine (itoa_gen n _ h0 h1 HT.out).mono ?_
        rintro e w1 ⟨rfl,hb⟩
        have HB:=Lib.hid hb
        clear hb
        go_wp2
        go_meet
        exact ⟨by rw [E.out],HB.out⟩
      · have q2:(k==2)=false:=by simp [k2]
        by_cases k3:k=3
        · have q3:(k==3)=true:=by simp [k3]
          have E:Hid (txtR k x n=fuV n):=by unfold Hid txtR;rw [if_neg n15,if_neg k2,if_pos k3]
          clear k1 k5 k2 k3 n15
          go_wp2_with fail
          refine (fdur_ref_any n _ HT.out).mono ?_
          rintro e w1 ⟨rfl,hb⟩
          have HB:=Lib.hid hb
          clear hb
          go_wp2
          go_meet
          exact ⟨by rw [E.out],HB.out⟩
        · have q3:(k==3)=false:=by simp [k3]
          by_cases k4:k=4
          · have q4:(k==4)=true:=by simp [k4]
            have E:Hid (txtR k x n=⟨#[64]⟩++fcV n):=by unfold Hid txtR;rw [if_neg n15,if_neg k2,if_neg k3,if_pos k4]
            clear k1 k5 k2 k3 k4 n15
            have hz:=fc_size n
            go_wp2_with fail
            refine (fclock_ref_any n _ HT.out).mono ?_
            generalize fcV n=fv at *
            rintro e w1 ⟨rfl,hb⟩
            have HB:=Lib.hid hb
            clear hb
            go_wp2
            go_meet
            exact ⟨by rw [E.out],HB.out⟩
          · have q4:(k==4)=false:=by simp [k4]
            have E:Hid (txtR k x n=⟨#[]⟩):=by unfold Hid txtR;rw [if_neg n15,if_neg k2,if_neg k3,if_neg k4]
            clear k1 k5 k2 k3 k4 n15
            go_wp2
            go_meet
            exact ⟨by rw [E.out],Below.refl _ _⟩
 case rest =>
  obtain ⟨rfl,HC⟩:=hcut
  have hsz:=txtR_size k x n h0 h1 hx
  obtain ⟨s,hs⟩:∃ s,s=txtR k x n:=⟨_,rfl⟩
  rw [← hs] at hsz ⊢
  have HS:=Lib.hid hs
  clear hs
  have B1:Hid (Below w.heap.size w wc):=B0.out.trans (HC.out.mono B0.out.size)
  have c0:wc.cell? ⟨w.heap.size,0,none⟩=some (.int .i64 k):=box_cell HC.out 0
  have c1:wc.cell? ⟨w.heap.size,1,none⟩=some (.string x):=box_cell HC.out 1
  have c2:wc.cell? ⟨w.heap.size,2,none⟩=some (.int .i64 n):=box_cell HC.out 2
  have hzc:w.heap.size < wc.heap.size:=box_size HC.out
  by_cases z0:s.size=0
  · have e1:s.toList.isEmpty=true:=by rw [isEmpty_size];simp [z0]
    have NO:Hid (¬ OkT (txtR k x n) k x n):=fun q=>by have:=q.pos;rw [← HS.out] at this;omega
    clear z0
    go_wp2
    go_ret
    exact ttp_no NO.out B1.out
  · have e1 : s.toList.isEmpty=false:=by rw [isEmpty_size];simp [z0]
    have hlt:0 < s.size:=by omega
    have G0:=Lib.hid (getD_atT s 0 hlt)
    clear z0
    by_cases z1:s[0].toNat=32
    · have b1:((s[0].toNat:Int)==32)=true:=by simp;omega
      have NO:Hid (¬ OkT (txtR k x n) k x n):=fun q=>by have:=q.n32;rw [← HS.out,G0.out] at this;exact this z1
      clear z1
      go_wp2
      go_ret
      exact ttp_no NO.out B1.out
    · have b1 : ((s[0].toNat:Int)==32)=false:=by simp;omega
      by_cases z2:s[0].toNat=35
      · have b2:((s[0].toNat:Int)==35)=true:=by simp;omega
        have NO:Hid (¬ OkT (txtR k x n) k x n):=fun q=>by have:=q.n35;rw [← HS.out,G0.out] at this;exact this z2
        clear z1 z2
        go_wp2
        go_ret
        exact ttp_no NO.out B1.out
      · have b2 : ((s[0].toNat:Int)==35)=false:=by simp;omega
        have Z1:Hid ((s.data.toList.getD 0 0).toNat≠32∧(s.data.toList.getD 0 0).toNat≠35):=by unfold Hid;rw [G0.out];exact ⟨z1,z2⟩
        clear z1 z2
        have FC:Hid (∀ w,Calls Tryz.prog 120 #[.string s,.int .u8 35] w fun e w'=>e=.returned (.int .i64 (Lib.indexByte s.data.toList 35))∧w'=w):=fun w=>(rfind_anyT s 35 w hsz).mono fun _ _ h=>⟨h.1,h.2.symm⟩
        have IX:Hid (decide (0≤Lib.indexByte s.data.toList 35)=Tk.has s.data.toList 35):=has_ix _ 35 35 rfl
        generalize Lib.indexByte s.data.toList 35=ix at *
        go_wp2_with fail
        refine (rscan_any s wc hsz).mono ?_
        rintro e w2 ⟨v,rfl,htk,hb⟩
        have B2:=Lib.hid (B1.out.trans (hb.mono B1.out.size))
        have d0:w2.cell? ⟨w.heap.size,0,none⟩=some (.int .i64 k):=by rw [hb.cell (p:=⟨w.heap.size,0,none⟩) hzc];exact c0
        have d1:w2.cell? ⟨w.heap.size,1,none⟩=some (.string x):=by rw [hb.cell (p:=⟨w.heap.size,1,none⟩) hzc];exact c1
        have d2:w2.cell? ⟨w.heap.size,2,none⟩=some (.int .i64 n):=by rw [hb.cell (p:=⟨w.heap.size,2,none⟩) hzc];exact c2
        have TK:=Lib.hid htk
        clear hb htk c0 c1 c2 hzc HC
        have RS:Hid (∃ R,Tk.scanT s=R):=⟨_,rfl⟩
        obtain ⟨D,at',er,hR⟩:∃ D at' er,Tk.scanT s=(D,at',er):=⟨_,_,_,rfl⟩
        rw [hR] at TK ⊢
        have HR:=Lib.hid hR
        clear hR RS
        dsimp only at TK ⊢
        obtain ⟨vp,vc,rfl,hvc,-,hcs⟩:=TK.out
        have HCS:=Lib.hid hcs
        clear hcs TK
        by_cases y0:er=0
        · have a0 : (er != 0)=false:=by simp [y0]
          have Y0:=Lib.hid y0
          clear y0
          by_cases y1:D.length=1
          · obtain ⟨d, rfl⟩:∃ d,D=[d]:=List.length_eq_one_iff.1 y1
            clear y1
            obtain ⟨g,O,rfl,hcell⟩:=HCS.out (by simp)
            have f0:w2.cell? ⟨g,O,none⟩=some (.int .i64 d.t.kind):=hcell 0 _ rfl
            have f1:w2.cell? ⟨g,O+1,none⟩=some (.string d.t.text):=hcell 1 _ rfl
            have f2:w2.cell? ⟨g,O+2,none⟩=some (.int .i64 d.t.num):=hcell 2 _ rfl
            clear hcell HCS
            simp only [List.length_cons,List.length_nil] at hvc ⊢
            by_cases y2:d.t.kind=k
            · have a2 : (d.t.kind != k)=false:=by simp [y2]
              by_cases y3:d.t.text=x
              · rw [y3] at f1
                by_cases y4:d.t.num=n
                · have a4:(d.t.num != n)=false:=by simp [y4]
                  have DT:Hid (d=⟨⟨k,x,n⟩,d.at'⟩):=by
                   obtain ⟨⟨dk,dx,dn⟩,da⟩:=d
                   dsimp only at y2 y3 y4
                   subst y2 y3 y4;rfl
                  clear y2 y3 y4
                  obtain ⟨m,hm⟩:∃ m,s.size=m+1:=⟨s.size - 1,by omega⟩
                  have hl1:m < s.size:=by omega
                  have HGL:Hid (s.data.toList.getD (s.size - 1) 0=s[m]):=by unfold Hid;rw [show s.size - 1=m by omega];exact getD_atT s m hl1
                  have hwz:IntKind.i64.wrap ((s.size:Int) - 1)=(m:Int):=by rw [IntWalk.i64_in _ (by omega)];omega
                  have hm1:(m:Int) < (s.size:Int):=by omega
                  clear hm
                  by_cases y5:s[m].toNat=32
                  · have a5:((s[m].toNat:Int)==32)=true:=by simp;omega
                    have NO:Hid (¬ OkT (txtR k x n) k x n):=fun q=>by have:=q.last;rw [← HS.out,HGL.out] at this;exact this y5
                    clear y5
                    go_wp2_with fail
                    go_quiet ((go_at_call 120;exact Calls.quiet_of_same (FC.out _)))
                    go_wp2
                    go_ret
                    exact ttp_no NO.out (below_drewNT B2.out _)
                  · have a5:((s[m].toNat:Int)==32)=false:=by simp;omega
                    have LA:Hid ((s.data.toList.getD (s.size - 1) 0).toNat≠32):=by unfold Hid;rw [HGL.out];exact y5
                    clear y5
                    by_cases y6:0≤ix
                    · have NO:Hid (¬ OkT (txtR k x n) k x n):=fun q=>by have:=q.none;rw [← HS.out,← IX.out,decide_eq_true y6] at this;cases this
                      go_wp2_with fail
                      go_quiet ((go_at_call 120;exact Calls.quiet_of_same (FC.out _)))
                      go_wp2
                      go_ret
                      exact ttp_no NO.out (below_drewNT B2.out _)
                    · have YES:Hid (OkT (txtR k x n) k x n):=by
                       unfold Hid;rw [← HS.out]
                       exact ⟨hlt,Z1.out.1,Z1.out.2,by rw [HR.out];exact Y0.out,⟨d.at',by rw [HR.out,← DT.out]⟩,LA.out,by rw [← IX.out];exact decide_eq_false y6⟩
                      go_wp2_with fail
                      go_quiet ((go_at_call 120;exact Calls.quiet_of_same (FC.out _)))
                      go_wp2
                      go_ret
                      exact ttp_yes HS.out YES.out (below_drewNT B2.out _)
                · have a4:(d.t.num != n)=true:=by simp [y4]
                  have NO:Hid (¬ OkT (txtR k x n) k x n):=fun q=>by
                   obtain ⟨p,hp⟩:=q.one;rw [← HS.out,HR.out] at hp;injection hp with hp;rw [hp] at y4;exact y4 rfl
                  clear y4 y3 y2
                  go_wp2_with fail
                  go_quiet ((go_at_call 120;exact Calls.quiet_of_same (FC.out _)))
                  go_wp2
                  go_ret
                  exact ttp_no NO.out (below_drewNT B2.out _)
              · have a3:(d.t.text.toList==x.toList)=false:=bytes_ne y3
                have a3':(d.t.text.toList != x.toList)=true:=by unfold bne;rw [a3];rfl
                have NO:Hid (¬ OkT (txtR k x n) k x n):=fun q=>by
                 obtain ⟨p,hp⟩:=q.one;rw [← HS.out,HR.out] at hp;injection hp with hp;rw [hp] at y3;exact y3 rfl
                clear y3 y2
                go_wp2_with fail
                go_quiet ((go_at_call 120;exact Calls.quiet_of_same (FC.out _)))
                go_wp2
                go_ret
                exact ttp_no NO.out (below_drewNT B2.out _)
            · have a2:(d.t.kind != k)=true:=by simp [y2]
              have NO:Hid (¬ OkT (txtR k x n) k x n):=fun q=>by
               obtain ⟨p,hp⟩:=q.one;rw [← HS.out,HR.out] at hp;injection hp with hp;rw [hp] at y2;exact y2 rfl
              clear y2
              go_wp2_with fail
              go_quiet ((go_at_call 120;exact Calls.quiet_of_same (FC.out _)))
              go_wp2
              go_ret
              exact ttp_no NO.out (below_drewNT B2.out _)
          · have a1:((D.length:Int) != 1)=true:=by rw [bne_iff_ne];omega
            have NO:Hid (¬ OkT (txtR k x n) k x n):=fun q=>by
             obtain ⟨p,hp⟩:=q.one;rw [← HS.out,HR.out] at hp;rw [show D=[_] from hp] at y1;exact y1 rfl
            clear y1
            go_wp2_with fail
            go_quiet ((go_at_call 120;exact Calls.quiet_of_same (FC.out _)))
            go_wp2
            go_ret
            exact ttp_no NO.out (below_drewNT B2.out _)
        · have a0:(er != 0)=true:=by simp [y0]
          have NO:Hid (¬ OkT (txtR k x n) k x n):=fun q=>by have:=q.err;rw [← HS.out,HR.out] at this;exact y0 this
          clear y0
          go_wp2_with fail
          go_quiet ((go_at_call 120;exact Calls.quiet_of_same (FC.out _)))
          go_wp2
          go_ret
          exact ttp_no NO.out (below_drewNT B2.out _)
end Go.Proofs.YtcejjdmnlejbaaaGreatDoor
