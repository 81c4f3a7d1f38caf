import Derived.Test.YtcejjdmnlejbaaaGreatDoorBGa
import Derived.Test.YtcejjdmnlejbaaaGreatDoorShelf
namespace Go.Proofs.YtcejjdmnlejbaaaGreatDoor
section
set_option linter.unusedVariables false
set_option linter.unusedSimpArgs false
open Go.ChangeShapes Go.WideShapes Go.ChangeAt Go.RowKit
theorem len_at (s:ByteArray):s.data.toList.length=s.size:=Array.length_toList
theorem getD_at (s:ByteArray) (k:Nat) (h:k < s.size):s.data.toList.getD k 0=s[k]:=by
 rw [List.getD_eq_getElem?_getD,List.getElem?_eq_getElem (by simpa using h)];rfl
theorem ext_mk (l:List UInt8) (a b:Nat):(⟨l.toArray⟩:ByteArray).extract a b=⟨((l.take b).drop a).toArray⟩:=by
 apply ByteArray.ext;simp [List.drop_take]
theorem ba_mk (s:ByteArray):∃ l:List UInt8,s=⟨l.toArray⟩∧s.data.toList=l:=⟨s.data.toList,by cases s;simp,rfl⟩
set_option maxHeartbeats 2000000 in
theorem isname_any (s:ByteArray) (w:World) (hs:s.size≤9223372036854775807) :
 Calls Tryz.prog 125 #[.string s] w fun e w'=>e=.returned (.bool (nameS s))∧w=w':=by
 by_cases h1:1≤s.size∧s.size≤16
 · obtain ⟨h1, h2⟩:=h1
   go_enter Tryz.func125,Tryz.ntmps125
   go_wp2_with fail
   go_loop [3,4,15,21,28] (fun _ _ i _ _=>∃ k:Nat,k≤s.size∧i=.int .i64 k∧Hid (Nam.good s.data.toList k=true)) (fun _ _ i _ _=>s.size - (intOf i).toNat)
   case atStart=>exact ⟨0,by omega,rfl,Nam.good_zero _⟩
   case round =>
    obtain ⟨k,hk,rfl,HG⟩:=hrel
    by_cases hlt:k < s.size
    · have hst:=Nam.good_step s.data.toList k (by rw [len_at];exact hlt)
      rw [HG.out,Bool.true_and,getD_at s k hlt] at hst
      have ST:=Lib.hid hst
      clear hst
      have SP:Hid (Nam.good s.data.toList (k+1)=false→nameS s=false):=fun q=>Nam.good_stop _ k (by rw [len_at];exact hlt) q
      have hi:(k:Int) < (s.size:Int):=by omega
      obtain ⟨c,hc⟩:∃ c:UInt8,s[k]=c:=⟨_,rfl⟩
      rw [hc] at ST
      go_wp2
      all_goals first
       | (go_round
          case rel =>
           refine ⟨k+1,by omega,by go_num,?_⟩
           unfold Hid
           rw [ST.out,Bool.or_eq_true,Bool.and_eq_true]
           simp only [Nam.lowB,Nam.wordB,decide_eq_true_eq]
           try simp only [beq_iff_eq] at *
           omega
          case measure=>simp [intOf];omega)
       | (go_ret
          refine ⟨ret_bool (SP.out ?_).symm,rfl⟩
          rw [ST.out,Bool.or_eq_false_iff,Bool.and_eq_false_iff]
          simp only [Nam.lowB,Nam.wordB,decide_eq_false_iff_not]
          try simp only [beq_eq_false_iff_ne] at *
          omega)
    · have hr:Hid (nameS s=true):=by
       have:=HG.out
       obtain rfl:k=s.size:=by omega
       rw [← len_at,Nam.good_all _ (by rw [len_at];exact h1) (by rw [len_at];exact h2)] at this
       exact this
      go_wp2
      go_ret
      exact ⟨ret_bool hr.out.symm,rfl⟩
 · have hn:Hid (nameS s=false):=by
    unfold Hid nameS Nam.isName;rw [len_at];exact decide_eq_false (fun q=>h1 ⟨q.1,q.2.1⟩)
   by_cases h2:1≤s.size
   · have h3:¬ s.size≤16:=fun q=>h1 ⟨h2,q⟩
     clear h1
     go_enter Tryz.func125,Tryz.ntmps125
     go_wp2
     go_ret
     exact ⟨ret_bool hn.out.symm,rfl⟩
   · clear h1
     go_enter Tryz.func125,Tryz.ntmps125
     go_wp2
     go_ret
     exact ⟨ret_bool hn.out.symm,rfl⟩
set_option maxHeartbeats 2000000 in
theorem reserved_any (s:ByteArray) (w:World) :
 Calls Tryz.prog 140 #[.string s] w fun e w'=>e=.returned (.bool (resS s))∧w=w':=by
 have R:Hid (resS s=(Nam.words.any fun x=>s.toList==x)):=by unfold Hid resS Nam.reserved;rw [Lib.toList_data]
 go_enter Tryz.func140,Tryz.ntmps140
 go_wp2
 all_goals
  go_ret
  refine ⟨ret_bool ?_,rfl⟩
  rw [R.out]
  simp only [Nam.words,List.any_cons,List.any_nil]
  clear R
  simp_all
theorem isdecl_any (s:ByteArray) (w:World) (hs:s.size≤9223372036854775807) :
 Calls Tryz.prog 108 #[.string s] w fun e w'=>e=.returned (.bool (declS s))∧w=w':=by
 have D:Hid (declS s=(nameS s && !resS s)):=rfl
 go_enter Tryz.func108,Tryz.ntmps108
 go_wp2_with fail
 refine (isname_any _ _ hs).mono ?_
 generalize nameS s=x at *
 rintro e w' ⟨rfl,rfl⟩
 cases x
 · go_wp2
   go_ret
   exact ⟨ret_bool D.out.symm,rfl⟩
 · go_wp2_with fail
   refine (reserved_any _ _).mono ?_
   generalize resS s=y at *
   rintro e w' ⟨rfl,rfl⟩
   go_wp2
   go_ret
   exact ⟨ret_bool D.out.symm,rfl⟩
set_option maxHeartbeats 1000000 in
theorem lcut_none (l:List UInt8) (c:UInt8) (w:World) (h:Lib.indexByte l c = -1) :
 Calls Tryz.prog 153 #[.string ⟨l.toArray⟩,.string ⟨#[c]⟩] w fun e w'=>e=.returned (.tuple #[.string ⟨l.toArray⟩,.string ⟨#[]⟩,.bool false])∧∃ n,w'=w.drewN n:=by
 have H:=Lib.hid h
 clear h
 go_enter Tryz.func153,Tryz.ntmps153
 go_wp2_with (go_at_call 169;refine (Tryz.stringslite_Index_one _ _ _).mono ?_;rintro e w' ⟨rfl,rfl⟩;rw [show Lib.indexByte _ _=_ from H.out])
 go_ret3
 exact ⟨rfl,0,rfl⟩
set_option maxHeartbeats 1000000 in
theorem lcut_some (l:List UInt8) (c:UInt8) (k:Nat) (w:World) (hl:l.length≤9223372036854775807) (h:Lib.indexByte l c=k) (hk:k < l.length) :
 Calls Tryz.prog 153 #[.string ⟨l.toArray⟩,.string ⟨#[c]⟩] w fun e w'=>e=.returned (.tuple #[.string ⟨(l.take k).toArray⟩,.string ⟨(l.drop (k+1)).toArray⟩,.bool true])∧∃ n,w'=w.drewN n:=by
 have H:=Lib.hid h
 clear h
 have c1:(0:Int)≤↑k:=by omega
 have c2:(↑k:Int)≤↑l.length:=by omega
 have c3:(0:Int)≤↑k+1:=by omega
 have c4:(↑k+1:Int)≤↑l.length:=by omega
 go_enter Tryz.func153,Tryz.ntmps153
 go_wp2_with (go_at_call 169;refine (Tryz.stringslite_Index_one _ _ _).mono ?_;rintro e w' ⟨rfl,rfl⟩;rw [show Lib.indexByte _ _=_ from H.out])
 go_quiet (fail)
 go_wp2
 go_ret3
 refine ⟨?_,nq,rfl⟩
 rw [ext_mk,ext_mk,List.drop_zero,List.take_length];rfl
theorem cut_none (l:List UInt8) (c:UInt8) (w:World) (h:Lib.indexByte l c = -1) :
 Calls Tryz.prog 124 #[.string ⟨l.toArray⟩,.string ⟨#[c]⟩] w fun e w'=>e=.returned (.tuple #[.string ⟨l.toArray⟩,.string ⟨#[]⟩,.bool false])∧∃ n,w'=w.drewN n:=by
 have H:=Lib.hid h
 clear h
 go_enter Tryz.func124,Tryz.ntmps124
 go_wp2_with (go_at_call 153;refine (lcut_none _ _ _ H.out).mono ?_;rintro e w' ⟨rfl,n,rfl⟩)
 go_ret3
 exact ⟨rfl,n,rfl⟩
theorem cut_some (l:List UInt8) (c:UInt8) (k:Nat) (w:World) (hl:l.length≤9223372036854775807) (h:Lib.indexByte l c=k) (hk:k < l.length) :
 Calls Tryz.prog 124 #[.string ⟨l.toArray⟩,.string ⟨#[c]⟩] w fun e w'=>e=.returned (.tuple #[.string ⟨(l.take k).toArray⟩,.string ⟨(l.drop (k+1)).toArray⟩,.bool true])∧∃ n,w'=w.drewN n:=by
 have H:=Lib.hid h
 clear h
 go_enter Tryz.func124,Tryz.ntmps124
 go_wp2_with (go_at_call 153;refine (lcut_some _ _ _ _ hl H.out hk).mono ?_;rintro e w' ⟨rfl,n,rfl⟩)
 go_ret3
 exact ⟨rfl,n,rfl⟩
theorem below_drewN {B:Nat} {a w:World} (h:Below B a w) (n:Nat):Below B a (w.drewN n):=⟨h.os,h.tape,h.output,h.size,h.block⟩
set_option maxHeartbeats 1000000 in
theorem isattr_any (s:ByteArray) (w:World) (hs:s.size≤9223372036854775807) :
 Calls Tryz.prog 76 #[.string s] w fun e w'=>e=.returned (.bool (attrS s))∧Below w.heap.size w w':=by
 obtain ⟨l,rfl,hl⟩:=ba_mk s
 clear hl
 have hl:l.length≤9223372036854775807:=hs
 rcases Nam.ix_cases l 46 with h|⟨k,h,hk⟩
 · have A:Hid (attrS ⟨l.toArray⟩=declS ⟨l.toArray⟩):=by
    show Nam.attr l=Nam.declName l
    unfold Nam.attr;rw [if_pos h]
   have H:=Lib.hid h
   clear h
   go_enter Tryz.func76,Tryz.ntmps76
   go_wp2_with fail
   refine (cut_none _ _ _ H.out).mono ?_
   rintro e w' ⟨rfl,n,rfl⟩
   go_wp2_with fail
   refine (isdecl_any _ _ hs).mono ?_
   rw [← A.out]
   rintro e w1 ⟨rfl,rfl⟩
   go_wp2
   go_ret
   exact ⟨rfl,below_drewN (Below.refl _ _) n⟩
 · have A:Hid (attrS ⟨l.toArray⟩=(nameS ⟨(l.take k).toArray⟩ && nameS ⟨(l.drop (k+1)).toArray⟩)):=by
    show Nam.attr l=(Nam.isName (l.take k) && Nam.isName (l.drop (k+1)))
    unfold Nam.attr;rw [if_neg (by omega),h];rfl
   have H:=Lib.hid h
   clear h
   go_enter Tryz.func76,Tryz.ntmps76
   go_wp2_with fail
   refine (cut_some _ _ _ _ hl H.out hk).mono ?_
   rintro e w' ⟨rfl,n,rfl⟩
   have z1:(l.take k).length≤9223372036854775807:=by simp;omega
   have z2:(l.drop (k+1)).length≤9223372036854775807:=by simp;omega
   generalize l.take k=l1 at *
   generalize l.drop (k+1)=l2 at *
   go_wp2_with fail
   refine (isname_any _ _ (by exact z1)).mono ?_
   generalize nameS ⟨l1.toArray⟩=x at *
   rintro e w1 ⟨rfl,rfl⟩
   cases x
   · go_wp2
     go_ret
     exact ⟨ret_bool A.out.symm,below_drewN (Below.refl _ _) n⟩
   · go_wp2_with fail
     refine (isname_any _ _ (by exact z2)).mono ?_
     generalize nameS ⟨l2.toArray⟩=y at *
     rintro e w1 ⟨rfl,rfl⟩
     go_wp2
     go_ret
     exact ⟨ret_bool (by rw [A.out];simp),below_drewN (Below.refl _ _) n⟩
end
section
set_option linter.unusedVariables false
set_option linter.unusedSimpArgs false
open Go.ChangeShapes Go.WideShapes Go.ChangeAt Go.RowKit
open Go.Deep (BT)
set_option maxHeartbeats 2000000 in
theorem argsfit_any (op n:Int) (w:World) :
 Calls Tryz.prog 75 #[.int .i64 op,.int .i64 n] w fun e w'=>e=.returned (.bool (argB op n))∧w=w':=by
 go_enter Tryz.func75,Tryz.ntmps75
 go_wp2
 all_goals
  go_ret
  refine ⟨ret_bool ?_,rfl⟩
  simp only [beq_iff_eq,beq_eq_false_iff_ne] at *
  unfold argB
  (repeat' split)<;>first|(exfalso;omega)|rfl|(rw [Bool.eq_iff_iff];simp)
def WfC (b o:Nat) (a:Nd) (k:Fo):Prop:=∀ (w:World),ExAt w b o a k→ExOk a k →
 Calls Tryz.prog 32 #[.agg #[.int .i64 a.op,.int .i64 a.num,.string a.name,.slice a.ptr (len k) a.cap]] w fun e w'=>e=.returned (.bool (wfB a (len k) && wfT k))∧Below w.heap.size w w'
theorem wf_false1 (a:Nd) (k:Fo) (n:Int) (h:argB a.op n=false):(wfB a n && wfT k)=false:=by unfold wfB;rw [h];simp
theorem wf_false2 (a:Nd) (k:Fo) (n:Int) (h:numB a.op a.num=false):(wfB a n && wfT k)=false:=by unfold wfB;rw [h];simp
theorem wf_false3 (a:Nd) (k:Fo) (n:Int) (h:namB a.op a.name=false):(wfB a n && wfT k)=false:=by unfold wfB;rw [h];simp
theorem wf_false0 (a:Nd) (k:Fo) (n:Int) (h:¬ (1≤a.op∧a.op≤22)):(wfB a n && wfT k)=false:=by unfold wfB;rw [decide_eq_false h];simp
theorem wf_true (a:Nd) (k:Fo) (n:Int) (h0:1≤a.op∧a.op≤22) (h1:argB a.op n=true) (h2:numB a.op a.num=true) (h3:namB a.op a.name=true):(wfB a n && wfT k)=wfT k:=by unfold wfB;rw [decide_eq_true h0,h1,h2,h3];simp
theorem empty_iff (s:ByteArray):s.toList.isEmpty=decide (s.size=0):=by
 rw [Lib.toList_data,← len_at]
 cases s.data.toList<;>simp
set_option maxHeartbeats 4000000 in
set_option maxRecDepth 100000 in
theorem wf_any (b o:Nat) (a:Nd) (k:Fo):WfC b o a k:=by
 refine tree_of (P:=WfC) ?_ b o a k
 clear b o a k
 intro b o a k ih w hx hok
 obtain ⟨op,num,name,ptr,cap⟩:=a
 show Calls Tryz.prog 32 #[.agg #[.int .i64 op,.int .i64 num,.string name,.slice ptr (len k) cap]] w _
 have IH:=Lib.hid ih
 have HX:=Lib.hid hx
 have HOK:=Lib.hid hok
 clear ih hx hok
 have hk:len k≤9223372036854775807:=HOK.out.1.2.2.2
 have hs:name.size≤9223372036854775807:=HOK.out.1.2.2.1
 have F0:=Lib.hid (wf_false0 ⟨op,num,name,ptr,cap⟩ k (len k))
 have F1:=Lib.hid (wf_false1 ⟨op,num,name,ptr,cap⟩ k (len k))
 have F2:=Lib.hid (wf_false2 ⟨op,num,name,ptr,cap⟩ k (len k))
 have F3:=Lib.hid (wf_false3 ⟨op,num,name,ptr,cap⟩ k (len k))
 have FT:=Lib.hid (wf_true ⟨op,num,name,ptr,cap⟩ k (len k))
 dsimp only at F0 F1 F2 F3 FT
 generalize (wfB ⟨op,num,name,ptr,cap⟩ (len k) && wfT k)=RES at *
 by_cases h1:1≤op∧op≤22
 · cases hA : argB op (len k)
   · have R:=Lib.hid (F1.out hA)
     have HA:=Lib.hid hA
     clear hA
     obtain ⟨h1,h2⟩:=h1
     go_enter Tryz.func32,Tryz.ntmps32
     go_wp2_with (go_at_call 75;refine (argsfit_any _ _ _).mono ?_;rw [HA.out];rintro e w' ⟨rfl,rfl⟩)
     go_ret
     exact ⟨ret_bool R.out.symm,(Below.refl _ _).alloc (Nat.le_refl _) _⟩
   · have HA := Lib.hid hA
     have H1:=Lib.hid h1
     clear hA
     obtain ⟨h1,h2⟩:=h1
     go_enter Tryz.func32,Tryz.ntmps32
     go_upto_block 0 with (go_at_call 75;refine (argsfit_any _ _ _).mono ?_;rw [HA.out];rintro e w' ⟨rfl,rfl⟩)
     go_cut [2] (fun v wx=>v=.bool false∧wx=w.alloc (.cells #[.int .i64 op,.int .i64 num,.string name,.slice ptr (len k) cap] 24)∧Hid (numB op num=true))
     case first =>
      go_wp2
      all_goals first
       | (go_ret
          refine ⟨ret_bool (F2.out ?_).symm,(Below.refl _ _).alloc (Nat.le_refl _) _⟩
          go_light
          simp only [beq_iff_eq,beq_eq_false_iff_ne,bne_iff_ne] at *
          unfold numB
          (repeat' split)<;>first|(exfalso;omega)|(simp only [decide_eq_false_iff_not];omega))
       | (go_meet
          refine ⟨rfl,rfl,?_⟩
          go_light
          simp only [beq_iff_eq,beq_eq_false_iff_ne,bne_eq_false_iff_eq] at *
          unfold Hid numB
          (repeat' split)<;>first|(exfalso;omega)|(simp only [decide_eq_true_eq];omega))
     case rest =>
      obtain ⟨rfl,rfl,HN⟩:=hcut
      go_upto_if 50 with (fail)
      go_cut [2] (fun v wx=>v=.bool false∧Hid (Below (w.heap.size+1) (w.alloc (.cells #[.int .i64 op,.int .i64 num,.string name,.slice ptr (len k) cap] 24)) wx∧namB op name=true))
      case first =>
       by_cases h6:op=6
       · have b6:(op==6)=true:=by simp [h6]
         cases hT:attrS name
         · have R:=Lib.hid (F3.out (by unfold namB;rw [if_pos h6];exact hT))
           have HT:=Lib.hid hT
           clear hT h6
           go_wp2_with (go_at_call 76;refine (isattr_any _ _ hs).mono ?_;rw [HT.out];rintro e w1 ⟨rfl,hb⟩)
           go_ret
           exact ⟨ret_bool R.out.symm,((Below.refl _ _).alloc (Nat.le_refl _) _).trans (hb.mono (by simp))⟩
         · have R:Hid (namB op name=true):=by unfold Hid namB;rw [if_pos h6];exact hT
           have HT:=Lib.hid hT
           clear hT h6
           go_wp2_with (go_at_call 76;refine (isattr_any _ _ hs).mono ?_;rw [HT.out];rintro e w1 ⟨rfl,hb⟩)
           go_meet
           exact ⟨rfl,hb.mono (by simp),R.out⟩
       · have b6:(op==6)=false:=by simp [h6]
         have E:=empty_iff name
         by_cases h0:name.size=0
         · have e1:name.toList.isEmpty=true:=by rw [E];simp [h0]
           have e2:(!name.toList.isEmpty)=false:=by rw [e1];rfl
           have R:Hid (namB op name=true):=by unfold Hid namB;rw [if_neg h6];simp [h0]
           clear E h0 h6
           go_wp2
           go_meet
           exact ⟨rfl,Below.refl _ _,R.out⟩
         · have e1:name.toList.isEmpty=false:=by rw [E];simp [h0]
           have e2:(!name.toList.isEmpty)=true:=by rw [e1];rfl
           have R:=Lib.hid (F3.out (by unfold namB;rw [if_neg h6];simp [h0]))
           clear E h0 h6
           go_wp2
           go_ret
           exact ⟨ret_bool R.out.symm,(Below.refl _ _).alloc (Nat.le_refl _) _⟩
      case rest =>
       obtain ⟨rfl,HB⟩:=hcut
       have R:=Lib.hid (FT.out H1.out HA.out HN.out HB.out.2)
       have hc3:wc.cell? ⟨w.heap.size,3,none⟩=some (.slice ptr (len k) cap):=by
        rw [HB.out.1.cell (p:=⟨w.heap.size,3,none⟩) (by simp)];simp
       have BW:Hid (Below w.heap.size w wc):=((Below.refl _ _).alloc (Nat.le_refl _) _).trans (HB.out.1.mono (by omega))
       have XW:=Lib.hid (HX.out.next BW.out)
       clear F0 F1 F2 F3 FT HN HA H1 h1 h2 HB
       go_wp2_with fail
       go_loopw [4,61] (fun _ i wr=>∃ (j:Nat) (r:Fo),i=.int .i64 j ∧
        Hid (j+len r=len k∧FoAt wr r b (o+j * 4)∧FoOk r∧AllT WfC r∧Below w.heap.size w wr∧RES=wfT r)) (fun _ i _=>len k - (intOf i).toNat)
       case atStart =>
        exact ⟨0,k,rfl,by omega,by rw [Nat.zero_mul,Nat.add_zero];exact XW.out.2,HOK.out.2,IH.out,BW.out,R.out⟩
       case round =>
        obtain ⟨j,r,rfl,HR⟩:=hrel
        cases r with
        | nil =>
          have hj:¬ (j:Int) < (len k:Int):=by have:=HR.out.1;simp [len] at this;omega
          go_wp2
          go_ret
          exact ⟨ret_bool (by rw [HR.out.2.2.2.2.2];rfl),HR.out.2.2.2.2.1⟩
        | node b1 o1 a1 k1 r1 =>
          have hj:j < len k:=by have:=HR.out.1;simp [len] at this;omega
          obtain rfl:ptr=some ⟨b,o,none⟩:=HX.out.1 (by rintro rfl;simp [len] at hj)
          obtain ⟨⟨c0,c1,c2,c3⟩,hp1,hk1,hr1⟩:=HR.out.2.1
          have X1:Hid (ExAt wr b1 o1 a1 k1):=⟨hp1,hk1⟩
          have N1:=Lib.hid hr1
          clear hp1 hk1 hr1
          have hj1:(j:Int) < (len k:Int):=by omega
          have hbw:=block_lt_of_cell c0
          simp at hbw
          go_wp2_with fail
          refine (HR.out.2.2.2.1.1 _ (X1.out.next ((Below.refl _ _).alloc (Nat.le_refl _) _)) ⟨HR.out.2.2.1.1,HR.out.2.2.1.2.1⟩).mono ?_
          rintro e w1 ⟨he,hb⟩
          have B1:Hid (Below wr.heap.size wr w1):=((Below.refl _ _).alloc (Nat.le_refl _) _).trans (hb.mono (by simp))
          have Z:Hid (RES=((wfB a1 (len k1) && wfT k1) && wfT r1)):=HR.out.2.2.2.2.2
          clear hb c0 c1 c2 c3
          generalize (wfB a1 (len k1) && wfT k1)=y at *
          subst he
          cases y
          · go_wp2
            go_ret
            exact ⟨ret_bool (by rw [Z.out];rfl),HR.out.2.2.2.2.1.trans (B1.out.mono HR.out.2.2.2.2.1.size)⟩
          · go_wp2
            go_roundw
            case rel =>
             obtain ⟨q1,-,q3,q4,q5,-⟩:=HR.out
             simp [len] at q1
             refine ⟨j+1,r1,by go_num,by omega,?_,q3.2.2,q4.2,q5.trans (B1.out.mono q5.size),by rw [Z.out];rfl⟩
             rw [Nat.add_mul,Nat.one_mul,← Nat.add_assoc];exact N1.out.next B1.out
            case measure=>simp [intOf];omega
 · have R:=Lib.hid (F0.out h1)
   have h2:op < 1∨22 < op:=by omega
   rcases h2 with h2|h2
   · go_enter Tryz.func32,Tryz.ntmps32
     go_wp2
     go_ret
     exact ⟨ret_bool R.out.symm,(Below.refl _ _).alloc (Nat.le_refl _) _⟩
   · have h3:¬ op < 1:=by omega
     clear h1
     go_enter Tryz.func32,Tryz.ntmps32
     go_wp2
     go_ret
     exact ⟨ret_bool R.out.symm,(Below.refl _ _).alloc (Nat.le_refl _) _⟩
end
section
set_option linter.unusedVariables false
set_option linter.unusedSimpArgs false
open Go.ChangeShapes Go.WideShapes Go.ChangeAt Go.RowKit
open Go.Deep (BT)
set_option maxHeartbeats 1000000 in
theorem vexpr_any (b o:Nat) (op num:Int) (name:ByteArray) (ptr:Option Addr) (cap:Nat) (k:Fo) (w:World) (hx:ExAt w b o ⟨op,num,name,ptr,cap⟩ k) (hok:ExOk ⟨op,num,name,ptr,cap⟩ k) :
 Calls Tryz.prog 12 #[.agg #[.int .i64 op,.int .i64 num,.string name,.slice ptr (len k) cap]] w fun e w'=>e=.returned (.int .i64 (valE ⟨op,num,name,ptr,cap⟩ k))∧Below w.heap.size w w':=by
 have B0:Below w.heap.size w ((w.alloc (.cells #[.int .i64 op,.int .i64 num,.string name,.slice ptr (len k) cap] 24)).alloc (.cells #[.int .i64 0] 3)):=((Below.refl _ _).alloc (Nat.le_refl _) _).alloc (by simp) _
 have X0:=hx.next B0
 have L0:FoLt (w.heap.size+1) k b:=hx.2.lt.mono (by omega)
 have C1:=fits_any b o ⟨op,num,name,ptr,cap⟩ k _ (w.heap.size+1) 0 1 X0 hok L0 (by simp [go_sem]) (by simp [go_sem]) (by omega) (by omega) (by omega) (by omega)
 have HC:=Lib.hid C1
 have HB:=Lib.hid B0
 have HX:=Lib.hid hx
 have HOK:=Lib.hid hok
 clear C1 B0 X0 hx hok L0
 have V:Hid (valE ⟨op,num,name,ptr,cap⟩ k=if fitB 0 1 k=true then (if (wfB ⟨op,num,name,ptr,cap⟩ (len k) && wfT k)=true then 0 else 1) else 10):=rfl
 go_enter Tryz.func12,Tryz.ntmps12
 go_wp2_with fail
 refine HC.out.mono ?_
 rintro e w1 ⟨he,-,-,hg⟩
 have B1:Below w.heap.size w w1:=HB.out.grown hg (by simp;omega) (by rintro k' h;simp at h;omega)
 have hc:∀ j v,(#[Value.int .i64 op,.int .i64 num,.string name,.slice ptr (len k) cap]:Array Value)[j]?=some v→w1.cell? ⟨w.heap.size,j,none⟩=some v:=by
  intro j v hv
  exact hg.cell (by simp [go_sem,hv]) (by simp)
 have c0:=hc 0 _ rfl
 have c1:=hc 1 _ rfl
 have c2:=hc 2 _ rfl
 have c3:=hc 3 _ rfl
 clear hc hg HC
 subst he
 cases hf:fitB 0 1 k
 · have HF:=Lib.hid hf
   clear hf
   go_wp2
   go_ret
   exact ⟨ret_int (by rw [V.out,HF.out];rfl),B1⟩
 · have HF:=Lib.hid hf
   clear hf
   have C2:=wf_any b o ⟨op,num,name,ptr,cap⟩ k w1 (HX.out.next B1) HOK.out
   have HW:=Lib.hid C2
   clear C2
   generalize (wfB ⟨op,num,name,ptr,cap⟩ (len k) && wfT k)=y at *
   go_wp2_with fail
   refine HW.out.mono ?_
   rintro e w2 ⟨rfl,hb⟩
   have B2:=B1.trans (hb.mono B1.size)
   clear hb c0 c1 c2 c3
   cases y
   · go_wp2
     go_ret
     exact ⟨ret_int (by rw [V.out,HF.out];rfl),B2⟩
   · go_wp2
     go_ret
     exact ⟨ret_int (by rw [V.out,HF.out];rfl),B2⟩
end
end Go.Proofs.YtcejjdmnlejbaaaGreatDoor
