import Derived.Test.YtcejjdmnlejbaaaGreatDoorBKtd
import Derived.Test.YtcejjdmnlejbaaaGreatDoorBTxtDurM
namespace Go.Proofs.YtcejjdmnlejbaaaGreatDoor
set_option linter.unusedVariables false
set_option linter.unusedSimpArgs false
open Go.ChangeShapes Go.WideShapes Go.ChangeAt Go.RowKit
theorem ext_mkT (l:List UInt8) (a b:Nat):(⟨l.toArray⟩:ByteArray).extract a b=⟨((l.take b).drop a).toArray⟩:=by
 apply ByteArray.ext;simp [List.drop_take]
set_option maxHeartbeats 1000000 in
theorem lcut_noneT (l:List UInt8) (c:UInt8) (w:World) (h:Lib.indexByte l c = -1) :
 Calls Tryz.prog 153 #[.string ⟨l.toArray⟩,.string ⟨#[c]⟩] w fun e w'=>e=.returned (.tuple #[.string ⟨l.toArray⟩,.string ⟨#[]⟩,.bool false])∧∃ n,w'=w.drewN n:=by
 have H:=Lib.hid h
 clear h
 go_enter Tryz.func153,Tryz.ntmps153
 go_wp2_with (go_at_call 169;refine (Tryz.stringslite_Index_one _ _ _).mono ?_;rintro e w' ⟨rfl,rfl⟩;rw [show Lib.indexByte _ _=_ from H.out])
 go_ret3
 exact ⟨rfl,0,rfl⟩
set_option maxHeartbeats 1000000 in
theorem lcut_someT (l:List UInt8) (c:UInt8) (k:Nat) (w:World) (hl:l.length≤9223372036854775807) (h:Lib.indexByte l c=k) (hk:k < l.length) :
 Calls Tryz.prog 153 #[.string ⟨l.toArray⟩,.string ⟨#[c]⟩] w fun e w'=>e=.returned (.tuple #[.string ⟨(l.take k).toArray⟩,.string ⟨(l.drop (k+1)).toArray⟩,.bool true])∧∃ n,w'=w.drewN n:=by
 have H:=Lib.hid h
 clear h
 have c1:(0:Int)≤↑k:=by omega
 have c2:(↑k:Int)≤↑l.length:=by omega
 have c3:(0:Int)≤↑k+1:=by omega
 have c4:(↑k+1:Int)≤↑l.length:=by omega
 go_enter Tryz.func153,Tryz.ntmps153
 go_wp2_with (go_at_call 169;refine (Tryz.stringslite_Index_one _ _ _).mono ?_;rintro e w' ⟨rfl,rfl⟩;rw [show Lib.indexByte _ _=_ from H.out])
 go_quiet (fail)
 go_wp2
 go_ret3
 refine ⟨?_,nq,rfl⟩
 rw [ext_mkT,ext_mkT,List.drop_zero,List.take_length];rfl
theorem cut_noneT (l:List UInt8) (c:UInt8) (w:World) (h:Lib.indexByte l c = -1) :
 Calls Tryz.prog 124 #[.string ⟨l.toArray⟩,.string ⟨#[c]⟩] w fun e w'=>e=.returned (.tuple #[.string ⟨l.toArray⟩,.string ⟨#[]⟩,.bool false])∧∃ n,w'=w.drewN n:=by
 have H:=Lib.hid h
 clear h
 go_enter Tryz.func124,Tryz.ntmps124
 go_wp2_with (go_at_call 153;refine (lcut_noneT _ _ _ H.out).mono ?_;rintro e w' ⟨rfl,n,rfl⟩)
 go_ret3
 exact ⟨rfl,n,rfl⟩
theorem cut_someT (l:List UInt8) (c:UInt8) (k:Nat) (w:World) (hl:l.length≤9223372036854775807) (h:Lib.indexByte l c=k) (hk:k < l.length) :
 Calls Tryz.prog 124 #[.string ⟨l.toArray⟩,.string ⟨#[c]⟩] w fun e w'=>e=.returned (.tuple #[.string ⟨(l.take k).toArray⟩,.string ⟨(l.drop (k+1)).toArray⟩,.bool true])∧∃ n,w'=w.drewN n:=by
 have H:=Lib.hid h
 clear h
 go_enter Tryz.func124,Tryz.ntmps124
 go_wp2_with (go_at_call 153;refine (lcut_someT _ _ _ _ hl H.out hk).mono ?_;rintro e w' ⟨rfl,n,rfl⟩)
 go_ret3
 exact ⟨rfl,n,rfl⟩
set_option maxHeartbeats 2000000 in
theorem pdur_any (s : ByteArray) (w:World) (hs:s.size≤9223372036854775807) :
 Calls Tryz.prog 114 #[.string s] w fun e w'=>e=.returned (.tuple #[.int .i64 (Txt.duV s.data.toList),.int .i64 (Txt.duE s.data.toList)])∧Below w.heap.size w w':=by
 by_cases hz:s=⟨#[45,48,58,48,48]⟩
 · subst hz
   go_enter Tryz.func114,Tryz.ntmps114
   go_wp2
   go_ret2
   exact ⟨by rfl,Below.refl _ _⟩
 · have Z : Hid (s.data.toList≠[45,48,58,48,48]):=fun q=>hz (ByteArray.ext (Array.toList_inj.1 q))
   have hb:(s.toList==[45,48,58,48,48])=false:=by rw [Lib.toList_data];exact beq_eq_false_iff_ne.2 Z.out
   clear hz
   go_enter Tryz.func114,Tryz.ntmps114
   go_wp2_with fail
   refine (Tryz.strings_TrimPrefix _ _ _).mono ?_
   rintro e w' ⟨rfl,rfl⟩
   go_wp2_with fail
   show Calls _ _ #[.string ⟨(Txt.duR s.data.toList).toArray⟩,_] _ _
   obtain ⟨r,hr⟩:∃ r,r=Txt.duR s.data.toList:=⟨_,rfl⟩
   have hrl:r.length≤9223372036854775807:=by
    rw [hr];unfold Txt.duR Lib.trimPrefix;split<;>simp<;>omega
   rw [← hr]
   have R:=Lib.hid hr
   clear hr
   rcases Txt.ix_cases r 58 with h|⟨k,h,hk⟩
   · have E:Hid (Txt.duB s.data.toList=false):=Txt.duB_none _ (by rw [← R.out];exact h)
     have H:=Lib.hid h
     clear h
     refine (cut_noneT _ _ _ H.out).mono ?_
     rintro e w' ⟨rfl,n,rfl⟩
     go_wp2
     go_ret2
     refine ⟨?_,below_drewNT (Below.refl _ _) n⟩
     unfold Txt.duV Txt.duE;rw [E.out];rfl
   · have E := Txt.duB_iff s.data.toList k (by rw [← R.out];exact h)
     rw [← R.out] at E
     have H:=Lib.hid h
     have HE:=Lib.hid E
     clear h E
     refine (cut_someT _ _ _ _ hrl H.out hk).mono ?_
     rintro e w' ⟨rfl,n,rfl⟩
     have B:=below_drewNT (Below.refl w'.heap.size w') n
     generalize w'.drewN n=w1 at *
     obtain ⟨hh,hhh⟩:∃ hh,hh=r.take k:=⟨_,rfl⟩
     obtain ⟨mm,hmm⟩:∃ mm,mm=r.drop (k+1):=⟨_,rfl⟩
     obtain rfl:k=hh.length:=by rw [hhh];simp;omega
     have hml:mm.length≤9223372036854775807:=by rw [hmm];simp;omega
     have HK:Hid (hh.length < r.length):=hk
     rw [← hhh,← hmm]
     have HE2:Hid (Txt.duB s.data.toList=true↔s.data.toList≠[45,48,58,48,48]∧1≤hh.length∧hh.length≤11∧Txt.fits mm [48,48]=true∧Txt.allD hh=true∧Txt.plainL hh=true):=by
      have:=HE.out;rw [← hhh,← hmm] at this;exact this
     have HN:Hid (Txt.duB s.data.toList=true→Txt.duH s.data.toList=hh∧Txt.duM s.data.toList=mm):=by
      intro q
      have f:=((Txt.fits2 mm).1 (HE2.out.1 q).2.2.2.1).1
      have:Txt.duK s.data.toList=hh.length:=by
       unfold Txt.duK;rw [← R.out]
       have:=congrArg List.length hmm
       simp at this;omega
      unfold Txt.duH Txt.duM
      rw [this,← R.out];exact ⟨hhh.symm,hmm.symm⟩
     clear hhh hmm HE hk
     by_cases c1:1≤hh.length
     · by_cases c2 : hh.length≤11
       · cases c3 : Txt.fits mm [48,48]
         · have C3:=Lib.hid c3
           clear c3
           go_wp2_with fail
           refine (matches_bel _ _ [48,48] false _ (by rfl) (by exact hml) (by decide) C3.out).mono ?_
           rintro e w2 ⟨rfl,hb2⟩
           go_wp2_with fail
           go_ret2
           refine ⟨?_,B.trans (hb2.mono B.size)⟩
           have:Txt.duB s.data.toList=false:=by rw [Bool.eq_false_iff];intro q;rw [(HE2.out.1 q).2.2.2.1] at C3;exact absurd C3.out (by decide)
           unfold Txt.duV Txt.duE;rw [this];rfl
         · have C3 := Lib.hid c3
           clear c3
           go_wp2_with fail
           refine (matches_bel _ _ [48,48] true _ (by rfl) (by exact hml) (by decide) C3.out).mono ?_
           rintro e w2 ⟨rfl,hb2⟩
           go_wp2_with fail
           replace B:=B.trans (hb2.mono B.size)
           clear hb2
           refine (Tryz.strings_Repeat ⟨#[48]⟩ hh.length _ (by omega) (by simp [ByteArray.size];omega)).mono ?_
           rw [show (⟨#[48]⟩:ByteArray).data.toList=[48] from rfl,Txt.repeatL_one]
           obtain ⟨zz,hzz⟩:∃ zz,zz=List.replicate hh.length (48:UInt8):=⟨_,rfl⟩
           have hzl:zz.length≤100:=by rw [hzz];simp;omega
           have HF:Hid (Txt.fits hh zz=Txt.allD hh):=by unfold Hid;rw [hzz];exact Txt.fits_zeros hh
           rw [← hzz]
           clear hzz
           rintro e w3 ⟨rfl,hb3⟩
           replace B:=B.trans (hb3.mono B.size)
           clear hb3
           go_wp2_with fail
           refine (matches_bel _ _ zz (Txt.allD hh) _ (by rfl) (by show hh.length≤_;omega) (by exact hzl) HF.out).mono ?_
           cases c4:Txt.allD hh
           · have C4:=Lib.hid c4
             clear c4
             rintro e w4 ⟨rfl,hb4⟩
             replace B:=B.trans (hb4.mono B.size)
             clear hb4
             go_wp2
             go_ret2
             refine ⟨?_,B⟩
             have:Txt.duB s.data.toList=false:=by rw [Bool.eq_false_iff];intro q;rw [(HE2.out.1 q).2.2.2.2.1] at C4;exact absurd C4.out (by decide)
             unfold Txt.duV Txt.duE;rw [this];rfl
           · have C4 := Lib.hid c4
             clear c4
             rintro e w4 ⟨rfl,hb4⟩
             replace B:=B.trans (hb4.mono B.size)
             clear hb4
             have hpl:Hid (Txt.plainL hh=true↔¬ ((hh.getD 0 0).toNat=48∧1 < hh.length)):=Txt.plain_iff hh c1
             have hg0:(⟨hh.toArray⟩:ByteArray)[0]'c1=hh.getD 0 0:=by
              rw [List.getD_eq_getElem?_getD,List.getElem?_eq_getElem c1];rfl
             obtain ⟨c,hc⟩:∃ c,c=hh.getD 0 0:=⟨_,rfl⟩
             rw [← hc] at hg0 hpl
             clear hc
             have i0:(0:Int) < (hh.length:Int):=by omega
             by_cases p:c.toNat=48∧1 < hh.length
             · have p1:((c.toNat:Int)==48)=true:=by simp;omega
               have p2:(1:Int) < (hh.length:Int):=by omega
               have P:=Lib.hid p
               clear p
               go_wp2_with fail
               go_ret2
               refine ⟨?_,B⟩
               have:Txt.duB s.data.toList=false:=by rw [Bool.eq_false_iff];intro q;exact hpl.out.1 (HE2.out.1 q).2.2.2.2.2 P.out
               unfold Txt.duV Txt.duE;rw [this];rfl
             · have P : Hid (Txt.duB s.data.toList=true):=HE2.out.2 ⟨Z.out,c1,c2,C3.out,C4.out,hpl.out.2 p⟩
               have p1:((c.toNat:Int)==48)=true∧¬ (1:Int) < (hh.length:Int)∨((c.toNat:Int)==48)=false:=by
                by_cases q:c.toNat=48
                · exact .inl ⟨by simp;omega,by omega⟩
                · exact .inr (by simp;omega)
               clear p
               have hq:=C4.out
               have hm:=((Txt.fits2 mm).1 C3.out)
               have q1:=numB_bd ⟨hh.toArray⟩ 11 (by exact c2) hq
               have q2:=numB_bd ⟨mm.toArray⟩ 2 (by show mm.length≤2;omega) hm.2
               have D1:=fun w=>number_same ⟨hh.toArray⟩ w (by exact c2) hq
               have D2:=fun w=>number_same ⟨mm.toArray⟩ w (by show mm.length≤11;omega) hm.2
               have e1:numBT ⟨hh.toArray⟩=Txt.num (Txt.duH s.data.toList):=by rw [(HN.out P.out).1];rfl
               have e2:numBT ⟨mm.toArray⟩=Txt.num (Txt.duM s.data.toList):=by rw [(HN.out P.out).2];rfl
               rw [e1] at q1 D1
               rw [e2] at q2 D2
               have G:Hid (Txt.duN s.data.toList=60 * Txt.num (Txt.duH s.data.toList)+Txt.num (Txt.duM s.data.toList)):=rfl
               have V:Hid (Txt.duE s.data.toList=(if Txt.num (Txt.duM s.data.toList)≤59∧Txt.duN s.data.toList≤1099511627776 then 0 else 5)):=by unfold Hid Txt.duE;rw [if_pos P.out]
               have C1:=Lib.hid D1
               have C2:=Lib.hid D2
               clear hq hm e1 e2 D1 D2
               generalize Txt.num (Txt.duH s.data.toList)=NH at *
               generalize Txt.num (Txt.duM s.data.toList)=NM at *
               obtain ⟨q3,q4⟩:=q1
               obtain ⟨q5,q6⟩:=q2
               have q7:NH≤100000000000:=by omega
               have q8:NM≤100:=by omega
               clear q4 q6
               rcases p1 with ⟨p1,p2⟩|p1
               all_goals
                go_wp2_with fail
                refine (C1.out _).mono ?_
                rintro e w5 ⟨rfl,rfl⟩
                go_wp2_with fail
                refine (C2.out _).mono ?_
                rintro e w5 ⟨rfl,rfl⟩
                go_wp2_with fail
                refine (C2.out _).mono ?_
                rintro e w5 ⟨rfl,rfl⟩
                by_cases t1:NM≤59
                · by_cases t2:NH * 60+NM≤1099511627776
                  · have W:Hid (Txt.duE s.data.toList=0):=by unfold Hid;rw [V.out,if_pos ⟨t1,by rw [G.out];omega⟩]
                    have W2:Hid (Txt.duV s.data.toList=if Lib.hasPrefix s.data.toList [45]=true then - (NH * 60+NM) else NH * 60+NM):=by
                     unfold Hid Txt.duV;rw [if_pos W.out,G.out,Int.mul_comm NH 60];rfl
                    cases c5:Lib.hasPrefix s.data.toList [45]
                    · have C5:=Lib.hid c5
                      clear c5
                      go_wp2_with (go_at_call 116;refine (Tryz.strings_HasPrefix _ _ _).mono ?_;rw [show Lib.hasPrefix s.data.toList _=false from C5.out];rintro e w6 ⟨rfl,rfl⟩)
                      go_ret2
                      refine ⟨?_,B⟩
                      rw [W.out,W2.out,C5.out];rfl
                    · have C5:=Lib.hid c5
                      clear c5
                      go_wp2_with (go_at_call 116;refine (Tryz.strings_HasPrefix _ _ _).mono ?_;rw [show Lib.hasPrefix s.data.toList _=true from C5.out];rintro e w6 ⟨rfl,rfl⟩)
                      go_ret2
                      refine ⟨?_,B⟩
                      rw [W.out,W2.out,C5.out];rfl
                  · have W:Hid (Txt.duE s.data.toList=5):=by unfold Hid;rw [V.out,if_neg (by rw [G.out];omega)]
                    have W2:Hid (Txt.duV s.data.toList=0):=by unfold Hid Txt.duV;rw [if_neg (by rw [W.out];decide)]
                    go_wp2
                    go_ret2
                    exact ⟨by rw [W.out,W2.out];rfl,B⟩
                · have W:Hid (Txt.duE s.data.toList=5):=by unfold Hid;rw [V.out,if_neg (by omega)]
                  have W2:Hid (Txt.duV s.data.toList=0):=by unfold Hid Txt.duV;rw [if_neg (by rw [W.out];decide)]
                  go_wp2
                  go_ret2
                  exact ⟨by rw [W.out,W2.out];rfl,B⟩
       · go_wp2
         go_ret2
         refine ⟨?_,B⟩
         have:Txt.duB s.data.toList=false:=by rw [Bool.eq_false_iff];intro q;exact c2 (HE2.out.1 q).2.2.1
         unfold Txt.duV Txt.duE;rw [this];rfl
     · go_wp2
       go_ret2
       refine ⟨?_,B⟩
       have:Txt.duB s.data.toList=false:=by rw [Bool.eq_false_iff];intro q;exact c1 (HE2.out.1 q).2.1
       unfold Txt.duV Txt.duE;rw [this];rfl
end Go.Proofs.YtcejjdmnlejbaaaGreatDoor
