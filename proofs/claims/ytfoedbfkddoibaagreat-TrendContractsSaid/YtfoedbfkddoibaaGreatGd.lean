import Derived.Test.YtfoedbfkddoibaaGreatGa
import Derived.Test.YtfoedbfkddoibaaGreatShelf
import Derived.Lib.Strings
namespace Go.Proofs.YtfoedbfkddoibaaGreat
section
section
set_option linter.unusedVariables false
set_option linter.unusedSimpArgs false
open Go.ChangeShapes Go.WideShapes Go.ChangeAt Go.RowKit
theorem len_at (s:ByteArray):s.data.toList.length=s.size:=Array.length_toList
theorem getD_at (s:ByteArray) (k:Nat) (h:k < s.size):s.data.toList.getD k 0=s[k]:=by
 rw [List.getD_eq_getElem?_getD,List.getElem?_eq_getElem (by simpa using h)];rfl
theorem ext_mk (l:List UInt8) (a b:Nat):(⟨l.toArray⟩:ByteArray).extract a b=⟨((l.take b).drop a).toArray⟩:=by
 apply ByteArray.ext;simp [List.drop_take]
theorem ba_mk (s:ByteArray):∃ l:List UInt8,s=⟨l.toArray⟩∧s.data.toList=l:=⟨s.data.toList,by cases s;simp,rfl⟩
set_option maxHeartbeats 2000000 in
theorem isname_any (s:ByteArray) (w:World) (hs:s.size≤9223372036854775807) :
 Calls Tryz.prog 162 #[.string s] w fun e w'=>e=.returned (.bool (nameS s))∧w=w':=by
 by_cases h1:1≤s.size∧s.size≤16
 · obtain ⟨h1, h2⟩:=h1
   go_enter Tryz.func162,Tryz.ntmps162
   go_wp2_with fail
   go_loop [3,4,15,21,28] (fun _ _ i _ _=>∃ k:Nat,k≤s.size∧i=.int .i64 k∧Hid (Nam.good s.data.toList k=true)) (fun _ _ i _ _=>s.size - (intOf i).toNat)
   case atStart=>exact ⟨0,by omega,rfl,Nam.good_zero _⟩
   case round =>
    obtain ⟨k,hk,rfl,HG⟩:=hrel
    by_cases hlt:k < s.size
    · have hst:=Nam.good_step s.data.toList k (by rw [len_at];exact hlt)
      rw [HG.out,Bool.true_and,getD_at s k hlt] at hst
      have ST:=Lib.hid hst
      clear hst
      have SP:Hid (Nam.good s.data.toList (k+1)=false→nameS s=false):=fun q=>Nam.good_stop _ k (by rw [len_at];exact hlt) q
      have hi:(k:Int) < (s.size:Int):=by omega
      obtain ⟨c,hc⟩:∃ c:UInt8,s[k]=c:=⟨_,rfl⟩
      rw [hc] at ST
      go_wp2
      all_goals first
       | (go_round
          case rel =>
           refine ⟨k+1,by omega,by go_num,?_⟩
           unfold Hid
           rw [ST.out,Bool.or_eq_true,Bool.and_eq_true]
           simp only [Nam.lowB,Nam.wordB,decide_eq_true_eq]
           try simp only [beq_iff_eq] at *
           omega
          case measure=>simp [intOf];omega)
       | (go_ret
          refine ⟨ret_bool (SP.out ?_).symm,rfl⟩
          rw [ST.out,Bool.or_eq_false_iff,Bool.and_eq_false_iff]
          simp only [Nam.lowB,Nam.wordB,decide_eq_false_iff_not]
          try simp only [beq_eq_false_iff_ne] at *
          omega)
    · have hr:Hid (nameS s=true):=by
       have:=HG.out
       obtain rfl:k=s.size:=by omega
       rw [← len_at,Nam.good_all _ (by rw [len_at];exact h1) (by rw [len_at];exact h2)] at this
       exact this
      go_wp2
      go_ret
      exact ⟨ret_bool hr.out.symm,rfl⟩
 · have hn:Hid (nameS s=false):=by
    unfold Hid nameS Nam.isName;rw [len_at];exact decide_eq_false (fun q=>h1 ⟨q.1,q.2.1⟩)
   by_cases h2:1≤s.size
   · have h3:¬ s.size≤16:=fun q=>h1 ⟨h2,q⟩
     clear h1
     go_enter Tryz.func162,Tryz.ntmps162
     go_wp2
     go_ret
     exact ⟨ret_bool hn.out.symm,rfl⟩
   · clear h1
     go_enter Tryz.func162,Tryz.ntmps162
     go_wp2
     go_ret
     exact ⟨ret_bool hn.out.symm,rfl⟩
set_option maxHeartbeats 2000000 in
theorem reserved_any (s:ByteArray) (w:World) :
 Calls Tryz.prog 184 #[.string s] w fun e w'=>e=.returned (.bool (resS s))∧w=w':=by
 have R:Hid (resS s=(Nam.words.any fun x=>s.toList==x)):=by unfold Hid resS Nam.reserved;rw [Lib.toList_data]
 go_enter Tryz.func184,Tryz.ntmps184
 go_wp2
 all_goals
  go_ret
  refine ⟨ret_bool ?_,rfl⟩
  rw [R.out]
  simp only [Nam.words,List.any_cons,List.any_nil]
  clear R
  simp_all
theorem isdecl_any (s:ByteArray) (w:World) (hs:s.size≤9223372036854775807) :
 Calls Tryz.prog 163 #[.string s] w fun e w'=>e=.returned (.bool (declS s))∧w=w':=by
 have D:Hid (declS s=(nameS s && !resS s)):=rfl
 go_enter Tryz.func163,Tryz.ntmps163
 go_wp2_with fail
 refine (isname_any _ _ hs).mono ?_
 generalize nameS s=x at *
 rintro e w' ⟨rfl,rfl⟩
 cases x
 · go_wp2
   go_ret
   exact ⟨ret_bool D.out.symm,rfl⟩
 · go_wp2_with fail
   refine (reserved_any _ _).mono ?_
   generalize resS s=y at *
   rintro e w' ⟨rfl,rfl⟩
   go_wp2
   go_ret
   exact ⟨ret_bool D.out.symm,rfl⟩
set_option maxHeartbeats 1000000 in
theorem lcut_none (l:List UInt8) (c:UInt8) (w:World) (h:Lib.indexByte l c = -1) :
 Calls Tryz.prog 183 #[.string ⟨l.toArray⟩,.string ⟨#[c]⟩] w fun e w'=>e=.returned (.tuple #[.string ⟨l.toArray⟩,.string ⟨#[]⟩,.bool false])∧∃ n,w'=w.drewN n:=by
 have H:=Lib.hid h
 clear h
 go_enter Tryz.func183,Tryz.ntmps183
 go_wp2_with (go_at_call 190;refine (Tryz.stringslite_Index_one _ _ _).mono ?_;rintro e w' ⟨rfl,rfl⟩;rw [show Lib.indexByte _ _=_ from H.out])
 go_ret3
 exact ⟨rfl,0,rfl⟩
set_option maxHeartbeats 1000000 in
theorem lcut_some (l:List UInt8) (c:UInt8) (k:Nat) (w:World) (hl:l.length≤9223372036854775807) (h:Lib.indexByte l c=k) (hk:k < l.length) :
 Calls Tryz.prog 183 #[.string ⟨l.toArray⟩,.string ⟨#[c]⟩] w fun e w'=>e=.returned (.tuple #[.string ⟨(l.take k).toArray⟩,.string ⟨(l.drop (k+1)).toArray⟩,.bool true])∧∃ n,w'=w.drewN n:=by
 have H:=Lib.hid h
 clear h
 have c1:(0:Int)≤↑k:=by omega
 have c2:(↑k:Int)≤↑l.length:=by omega
 have c3:(0:Int)≤↑k+1:=by omega
 have c4:(↑k+1:Int)≤↑l.length:=by omega
 go_enter Tryz.func183,Tryz.ntmps183
 go_wp2_with (go_at_call 190;refine (Tryz.stringslite_Index_one _ _ _).mono ?_;rintro e w' ⟨rfl,rfl⟩;rw [show Lib.indexByte _ _=_ from H.out])
 go_quiet (fail)
 go_wp2
 go_ret3
 refine ⟨?_,nq,rfl⟩
 rw [ext_mk,ext_mk,List.drop_zero,List.take_length];rfl
theorem cut_none (l:List UInt8) (c:UInt8) (w:World) (h:Lib.indexByte l c = -1) :
 Calls Tryz.prog 161 #[.string ⟨l.toArray⟩,.string ⟨#[c]⟩] w fun e w'=>e=.returned (.tuple #[.string ⟨l.toArray⟩,.string ⟨#[]⟩,.bool false])∧∃ n,w'=w.drewN n:=by
 have H:=Lib.hid h
 clear h
 go_enter Tryz.func161,Tryz.ntmps161
 go_wp2_with (go_at_call 183;refine (lcut_none _ _ _ H.out).mono ?_;rintro e w' ⟨rfl,n,rfl⟩)
 go_ret3
 exact ⟨rfl,n,rfl⟩
theorem cut_some (l:List UInt8) (c:UInt8) (k:Nat) (w:World) (hl:l.length≤9223372036854775807) (h:Lib.indexByte l c=k) (hk:k < l.length) :
 Calls Tryz.prog 161 #[.string ⟨l.toArray⟩,.string ⟨#[c]⟩] w fun e w'=>e=.returned (.tuple #[.string ⟨(l.take k).toArray⟩,.string ⟨(l.drop (k+1)).toArray⟩,.bool true])∧∃ n,w'=w.drewN n:=by
 have H:=Lib.hid h
 clear h
 go_enter Tryz.func161,Tryz.ntmps161
 go_wp2_with (go_at_call 183;refine (lcut_some _ _ _ _ hl H.out hk).mono ?_;rintro e w' ⟨rfl,n,rfl⟩)
 go_ret3
 exact ⟨rfl,n,rfl⟩
theorem below_drewN {B:Nat} {a w:World} (h:Below B a w) (n:Nat):Below B a (w.drewN n):=⟨h.os,h.tape,h.output,h.size,h.block⟩
set_option maxHeartbeats 1000000 in
theorem isattr_any (s:ByteArray) (w:World) (hs:s.size≤9223372036854775807) :
 Calls Tryz.prog 127 #[.string s] w fun e w'=>e=.returned (.bool (attrS s))∧Below w.heap.size w w':=by
 obtain ⟨l,rfl,hl⟩:=ba_mk s
 clear hl
 have hl:l.length≤9223372036854775807:=hs
 rcases Nam.ix_cases l 46 with h|⟨k,h,hk⟩
 · have A:Hid (attrS ⟨l.toArray⟩=declS ⟨l.toArray⟩):=by
    show Nam.attr l=Nam.declName l
    unfold Nam.attr;rw [if_pos h]
   have H:=Lib.hid h
   clear h
   go_enter Tryz.func127,Tryz.ntmps127
   go_wp2_with fail
   refine (cut_none _ _ _ H.out).mono ?_
   rintro e w' ⟨rfl,n,rfl⟩
   go_wp2_with fail
   refine (isdecl_any _ _ hs).mono ?_
   rw [← A.out]
   rintro e w1 ⟨rfl,rfl⟩
   go_wp2
   go_ret
   exact ⟨rfl,below_drewN (Below.refl _ _) n⟩
 · have A:Hid (attrS ⟨l.toArray⟩=(nameS ⟨(l.take k).toArray⟩ && nameS ⟨(l.drop (k+1)).toArray⟩)):=by
    show Nam.attr l=(Nam.isName (l.take k) && Nam.isName (l.drop (k+1)))
    unfold Nam.attr;rw [if_neg (by omega),h];rfl
   have H:=Lib.hid h
   clear h
   go_enter Tryz.func127,Tryz.ntmps127
   go_wp2_with fail
   refine (cut_some _ _ _ _ hl H.out hk).mono ?_
   rintro e w' ⟨rfl,n,rfl⟩
   have z1:(l.take k).length≤9223372036854775807:=by simp;omega
   have z2:(l.drop (k+1)).length≤9223372036854775807:=by simp;omega
   generalize l.take k=l1 at *
   generalize l.drop (k+1)=l2 at *
   go_wp2_with fail
   refine (isname_any _ _ (by exact z1)).mono ?_
   generalize nameS ⟨l1.toArray⟩=x at *
   rintro e w1 ⟨rfl,rfl⟩
   cases x
   · go_wp2
     go_ret
     exact ⟨ret_bool A.out.symm,below_drewN (Below.refl _ _) n⟩
   · go_wp2_with fail
     refine (isname_any _ _ (by exact z2)).mono ?_
     generalize nameS ⟨l2.toArray⟩=y at *
     rintro e w1 ⟨rfl,rfl⟩
     go_wp2
     go_ret
     exact ⟨ret_bool (by rw [A.out];simp),below_drewN (Below.refl _ _) n⟩
end
section
set_option linter.unusedVariables false
set_option linter.unusedSimpArgs false
open Go.ChangeShapes Go.WideShapes Go.ChangeAt Go.RowKit
open Go.Deep (BT)
set_option maxHeartbeats 2000000 in
theorem argsfit_any (op n:Int) (w:World) :
 Calls Tryz.prog 126 #[.int .i64 op,.int .i64 n] w fun e w'=>e=.returned (.bool (argB op n))∧w=w':=by
 go_enter Tryz.func126,Tryz.ntmps126
 go_wp2
 all_goals
  go_ret
  refine ⟨ret_bool ?_,rfl⟩
  simp only [beq_iff_eq,beq_eq_false_iff_ne] at *
  unfold argB
  (repeat' split)<;>first|(exfalso;omega)|rfl|(rw [Bool.eq_iff_iff];simp)
def WfC (b o:Nat) (a:Nd) (k:Fo):Prop:=∀ (w:World),ExAt w b o a k→ExOk a k →
 Calls Tryz.prog 82 #[.agg #[.int .i64 a.op,.int .i64 a.num,.string a.name,.slice a.ptr (len k) a.cap]] w fun e w'=>e=.returned (.bool (wfB a (len k) && wfT k))∧Below w.heap.size w w'
theorem wf_false1 (a:Nd) (k:Fo) (n:Int) (h:argB a.op n=false):(wfB a n && wfT k)=false:=by unfold wfB;rw [h];simp
theorem wf_false2 (a:Nd) (k:Fo) (n:Int) (h:numB a.op a.num=false):(wfB a n && wfT k)=false:=by unfold wfB;rw [h];simp
theorem wf_false3 (a:Nd) (k:Fo) (n:Int) (h:namB a.op a.name=false):(wfB a n && wfT k)=false:=by unfold wfB;rw [h];simp
theorem wf_false0 (a:Nd) (k:Fo) (n:Int) (h:¬ (1≤a.op∧a.op≤22)):(wfB a n && wfT k)=false:=by unfold wfB;rw [decide_eq_false h];simp
theorem wf_true (a:Nd) (k:Fo) (n:Int) (h0:1≤a.op∧a.op≤22) (h1:argB a.op n=true) (h2:numB a.op a.num=true) (h3:namB a.op a.name=true):(wfB a n && wfT k)=wfT k:=by unfold wfB;rw [decide_eq_true h0,h1,h2,h3];simp
theorem empty_iff (s:ByteArray):s.toList.isEmpty=decide (s.size=0):=by
 rw [Lib.toList_data,← len_at]
 cases s.data.toList<;>simp
set_option maxHeartbeats 4000000 in
set_option maxRecDepth 100000 in
theorem wf_any (b o:Nat) (a:Nd) (k:Fo):WfC b o a k:=by
 refine tree_of (P:=WfC) ?_ b o a k
 clear b o a k
 intro b o a k ih w hx hok
 obtain ⟨op,num,name,ptr,cap⟩:=a
 show Calls Tryz.prog 82 #[.agg #[.int .i64 op,.int .i64 num,.string name,.slice ptr (len k) cap]] w _
 have IH:=Lib.hid ih
 have HX:=Lib.hid hx
 have HOK:=Lib.hid hok
 clear ih hx hok
 have hk:len k≤9223372036854775807:=HOK.out.1.2.2.2
 have hs:name.size≤9223372036854775807:=HOK.out.1.2.2.1
 have F0:=Lib.hid (wf_false0 ⟨op,num,name,ptr,cap⟩ k (len k))
 have F1:=Lib.hid (wf_false1 ⟨op,num,name,ptr,cap⟩ k (len k))
 have F2:=Lib.hid (wf_false2 ⟨op,num,name,ptr,cap⟩ k (len k))
 have F3:=Lib.hid (wf_false3 ⟨op,num,name,ptr,cap⟩ k (len k))
 have FT:=Lib.hid (wf_true ⟨op,num,name,ptr,cap⟩ k (len k))
 dsimp only at F0 F1 F2 F3 FT
 generalize (wfB ⟨op,num,name,ptr,cap⟩ (len k) && wfT k)=RES at *
 by_cases h1:1≤op∧op≤22
 · cases hA : argB op (len k)
   · have R:=Lib.hid (F1.out hA)
     have HA:=Lib.hid hA
     clear hA
     obtain ⟨h1,h2⟩:=h1
     go_enter Tryz.func82,Tryz.ntmps82
     go_wp2_with (go_at_call 126;refine (argsfit_any _ _ _).mono ?_;rw [HA.out];rintro e w' ⟨rfl,rfl⟩)
     go_ret
     exact ⟨ret_bool R.out.symm,(Below.refl _ _).alloc (Nat.le_refl _) _⟩
   · have HA := Lib.hid hA
     have H1:=Lib.hid h1
     clear hA
     obtain ⟨h1,h2⟩:=h1
     go_enter Tryz.func82,Tryz.ntmps82
     go_upto_block 0 with (go_at_call 126;refine (argsfit_any _ _ _).mono ?_;rw [HA.out];rintro e w' ⟨rfl,rfl⟩)
     go_cut [2] (fun v wx=>v=.bool false∧wx=w.alloc (.cells #[.int .i64 op,.int .i64 num,.string name,.slice ptr (len k) cap] 25)∧Hid (numB op num=true))
     case first =>
      go_wp2
      all_goals first
       | (go_ret
          refine ⟨ret_bool (F2.out ?_).symm,(Below.refl _ _).alloc (Nat.le_refl _) _⟩
          go_light
          simp only [beq_iff_eq,beq_eq_false_iff_ne,bne_iff_ne] at *
          unfold numB
          (repeat' split)<;>first|(exfalso;omega)|(simp only [decide_eq_false_iff_not];omega))
       | (go_meet
          refine ⟨rfl,rfl,?_⟩
          go_light
          simp only [beq_iff_eq,beq_eq_false_iff_ne,bne_eq_false_iff_eq] at *
          unfold Hid numB
          (repeat' split)<;>first|(exfalso;omega)|(simp only [decide_eq_true_eq];omega))
     case rest =>
      obtain ⟨rfl,rfl,HN⟩:=hcut
      go_upto_if 50 with (fail)
      go_cut [2] (fun v wx=>v=.bool false∧Hid (Below (w.heap.size+1) (w.alloc (.cells #[.int .i64 op,.int .i64 num,.string name,.slice ptr (len k) cap] 25)) wx∧namB op name=true))
      case first =>
       by_cases h6:op=6
       · have b6:(op==6)=true:=by simp [h6]
         cases hT:attrS name
         · have R:=Lib.hid (F3.out (by unfold namB;rw [if_pos h6];exact hT))
           have HT:=Lib.hid hT
           clear hT h6
           go_wp2_with (go_at_call 127;refine (isattr_any _ _ hs).mono ?_;rw [HT.out];rintro e w1 ⟨rfl,hb⟩)
           go_ret
           exact ⟨ret_bool R.out.symm,((Below.refl _ _).alloc (Nat.le_refl _) _).trans (hb.mono (by simp))⟩
         · have R:Hid (namB op name=true):=by unfold Hid namB;rw [if_pos h6];exact hT
           have HT:=Lib.hid hT
           clear hT h6
           go_wp2_with (go_at_call 127;refine (isattr_any _ _ hs).mono ?_;rw [HT.out];rintro e w1 ⟨rfl,hb⟩)
           go_meet
           exact ⟨rfl,hb.mono (by simp),R.out⟩
       · have b6:(op==6)=false:=by simp [h6]
         have E:=empty_iff name
         by_cases h0:name.size=0
         · have e1:name.toList.isEmpty=true:=by rw [E];simp [h0]
           have e2:(!name.toList.isEmpty)=false:=by rw [e1];rfl
           have R:Hid (namB op name=true):=by unfold Hid namB;rw [if_neg h6];simp [h0]
           clear E h0 h6
           go_wp2
           go_meet
           exact ⟨rfl,Below.refl _ _,R.out⟩
         · have e1:name.toList.isEmpty=false:=by rw [E];simp [h0]
           have e2:(!name.toList.isEmpty)=true:=by rw [e1];rfl
           have R:=Lib.hid (F3.out (by unfold namB;rw [if_neg h6];simp [h0]))
           clear E h0 h6
           go_wp2
           go_ret
           exact ⟨ret_bool R.out.symm,(Below.refl _ _).alloc (Nat.le_refl _) _⟩
      case rest =>
       obtain ⟨rfl,HB⟩:=hcut
       have R:=Lib.hid (FT.out H1.out HA.out HN.out HB.out.2)
       have hc3:wc.cell? ⟨w.heap.size,3,none⟩=some (.slice ptr (len k) cap):=by
        rw [HB.out.1.cell (p:=⟨w.heap.size,3,none⟩) (by simp)];simp
       have BW:Hid (Below w.heap.size w wc):=((Below.refl _ _).alloc (Nat.le_refl _) _).trans (HB.out.1.mono (by omega))
       have XW:=Lib.hid (HX.out.next BW.out)
       clear F0 F1 F2 F3 FT HN HA H1 h1 h2 HB
       go_wp2_with fail
       go_loopw [4,61] (fun _ i wr=>∃ (j:Nat) (r:Fo),i=.int .i64 j ∧
        Hid (j+len r=len k∧FoAt wr r b (o+j * 4)∧FoOk r∧AllT WfC r∧Below w.heap.size w wr∧RES=wfT r)) (fun _ i _=>len k - (intOf i).toNat)
       case atStart =>
        exact ⟨0,k,rfl,by omega,by rw [Nat.zero_mul,Nat.add_zero];exact XW.out.2,HOK.out.2,IH.out,BW.out,R.out⟩
       case round =>
        obtain ⟨j,r,rfl,HR⟩:=hrel
        cases r with
        | nil =>
          have hj:¬ (j:Int) < (len k:Int):=by have:=HR.out.1;simp [len] at this;omega
          go_wp2
          go_ret
          exact ⟨ret_bool (by rw [HR.out.2.2.2.2.2];rfl),HR.out.2.2.2.2.1⟩
        | node b1 o1 a1 k1 r1 =>
          have hj:j < len k:=by have:=HR.out.1;simp [len] at this;omega
          obtain rfl:ptr=some ⟨b,o,none⟩:=HX.out.1 (by rintro rfl;simp [len] at hj)
          obtain ⟨⟨c0,c1,c2,c3⟩,hp1,hk1,hr1⟩:=HR.out.2.1
          have X1:Hid (ExAt wr b1 o1 a1 k1):=⟨hp1,hk1⟩
          have N1:=Lib.hid hr1
          clear hp1 hk1 hr1
          have hj1:(j:Int) < (len k:Int):=by omega
          have hbw:=block_lt_of_cell c0
          simp at hbw
          go_wp2_with fail
          refine (HR.out.2.2.2.1.1 _ (X1.out.next ((Below.refl _ _).alloc (Nat.le_refl _) _)) ⟨HR.out.2.2.1.1,HR.out.2.2.1.2.1⟩).mono ?_
          rintro e w1 ⟨he,hb⟩
          have B1:Hid (Below wr.heap.size wr w1):=((Below.refl _ _).alloc (Nat.le_refl _) _).trans (hb.mono (by simp))
          have Z:Hid (RES=((wfB a1 (len k1) && wfT k1) && wfT r1)):=HR.out.2.2.2.2.2
          clear hb c0 c1 c2 c3
          generalize (wfB a1 (len k1) && wfT k1)=y at *
          subst he
          cases y
          · go_wp2
            go_ret
            exact ⟨ret_bool (by rw [Z.out];rfl),HR.out.2.2.2.2.1.trans (B1.out.mono HR.out.2.2.2.2.1.size)⟩
          · go_wp2
            go_roundw
            case rel =>
             obtain ⟨q1,-,q3,q4,q5,-⟩:=HR.out
             simp [len] at q1
             refine ⟨j+1,r1,by go_num,by omega,?_,q3.2.2,q4.2,q5.trans (B1.out.mono q5.size),by rw [Z.out];rfl⟩
             rw [Nat.add_mul,Nat.one_mul,← Nat.add_assoc];exact N1.out.next B1.out
            case measure=>simp [intOf];omega
 · have R:=Lib.hid (F0.out h1)
   have h2:op < 1∨22 < op:=by omega
   rcases h2 with h2|h2
   · go_enter Tryz.func82,Tryz.ntmps82
     go_wp2
     go_ret
     exact ⟨ret_bool R.out.symm,(Below.refl _ _).alloc (Nat.le_refl _) _⟩
   · have h3:¬ op < 1:=by omega
     clear h1
     go_enter Tryz.func82,Tryz.ntmps82
     go_wp2
     go_ret
     exact ⟨ret_bool R.out.symm,(Below.refl _ _).alloc (Nat.le_refl _) _⟩
end
section
set_option linter.unusedVariables false
set_option linter.unusedSimpArgs false
open Go.ChangeShapes Go.WideShapes Go.ChangeAt Go.RowKit
open Go.Deep (BT)
set_option maxHeartbeats 1000000 in
theorem vexpr_any (b o:Nat) (op num:Int) (name:ByteArray) (ptr:Option Addr) (cap:Nat) (k:Fo) (w:World) (hx:ExAt w b o ⟨op,num,name,ptr,cap⟩ k) (hok:ExOk ⟨op,num,name,ptr,cap⟩ k) :
 Calls Tryz.prog 41 #[.agg #[.int .i64 op,.int .i64 num,.string name,.slice ptr (len k) cap]] w fun e w'=>e=.returned (.int .i64 (valE ⟨op,num,name,ptr,cap⟩ k))∧Below w.heap.size w w':=by
 have B0:Below w.heap.size w ((w.alloc (.cells #[.int .i64 op,.int .i64 num,.string name,.slice ptr (len k) cap] 25)).alloc (.cells #[.int .i64 0] 3)):=((Below.refl _ _).alloc (Nat.le_refl _) _).alloc (by simp) _
 have X0:=hx.next B0
 have L0:FoLt (w.heap.size+1) k b:=hx.2.lt.mono (by omega)
 have C1:=fits_any b o ⟨op,num,name,ptr,cap⟩ k _ (w.heap.size+1) 0 1 X0 hok L0 (by simp [go_sem]) (by simp [go_sem]) (by omega) (by omega) (by omega) (by omega)
 have HC:=Lib.hid C1
 have HB:=Lib.hid B0
 have HX:=Lib.hid hx
 have HOK:=Lib.hid hok
 clear C1 B0 X0 hx hok L0
 have V:Hid (valE ⟨op,num,name,ptr,cap⟩ k=if fitB 0 1 k=true then (if (wfB ⟨op,num,name,ptr,cap⟩ (len k) && wfT k)=true then 0 else 1) else 10):=rfl
 go_enter Tryz.func41,Tryz.ntmps41
 go_wp2_with fail
 refine HC.out.mono ?_
 rintro e w1 ⟨he,-,-,hg⟩
 have B1:Below w.heap.size w w1:=HB.out.grown hg (by simp;omega) (by rintro k' h;simp at h;omega)
 have hc:∀ j v,(#[Value.int .i64 op,.int .i64 num,.string name,.slice ptr (len k) cap]:Array Value)[j]?=some v→w1.cell? ⟨w.heap.size,j,none⟩=some v:=by
  intro j v hv
  exact hg.cell (by simp [go_sem,hv]) (by simp)
 have c0:=hc 0 _ rfl
 have c1:=hc 1 _ rfl
 have c2:=hc 2 _ rfl
 have c3:=hc 3 _ rfl
 clear hc hg HC
 subst he
 cases hf:fitB 0 1 k
 · have HF:=Lib.hid hf
   clear hf
   go_wp2
   go_ret
   exact ⟨ret_int (by rw [V.out,HF.out];rfl),B1⟩
 · have HF:=Lib.hid hf
   clear hf
   have C2:=wf_any b o ⟨op,num,name,ptr,cap⟩ k w1 (HX.out.next B1) HOK.out
   have HW:=Lib.hid C2
   clear C2
   generalize (wfB ⟨op,num,name,ptr,cap⟩ (len k) && wfT k)=y at *
   go_wp2_with fail
   refine HW.out.mono ?_
   rintro e w2 ⟨rfl,hb⟩
   have B2:=B1.trans (hb.mono B1.size)
   clear hb c0 c1 c2 c3
   cases y
   · go_wp2
     go_ret
     exact ⟨ret_int (by rw [V.out,HF.out];rfl),B2⟩
   · go_wp2
     go_ret
     exact ⟨ret_int (by rw [V.out,HF.out];rfl),B2⟩
end
end
section
section
set_option linter.unusedVariables false
set_option linter.unusedSimpArgs false
open Go Go.RowKit
namespace Att
def duty1:List (List UInt8):=[[108,101,103,115],[104,101,97,100,115],[116,121,112,101,115]]
def duty2:List (List UInt8):=[[98,108,111,99,107],[115,112,97,110],[110,105,103,104,116],[108,111,110,103,101,115,116],[115,104,111,114,116,101,115,116],[115,104,105,102,116]]
def duty3:List (List UInt8):=[[115,116,97,114,116],[101,110,100]]
def pair1:List (List UInt8):=[[100,117,116,105,101,115],[108,101,103,115],[104,101,97,100,115],[100,97,121,115]]
def pair2:List (List UInt8):=[[98,108,111,99,107],[115,112,97,110],[99,114,101,100,105,116]]
def rest:List UInt8:=[114,101,115,116]
def nights:List UInt8:=[110,105,103,104,116,115]
def home:List UInt8:=[104,111,109,101]
def before:List UInt8:=[98,101,102,111,114,101,46]
def after:List UInt8:=[97,102,116,101,114,46]
def isIn (l:List UInt8) (ws:List (List UInt8)):Bool:=ws.any fun x=>l==x
def dutyT (l:List UInt8):Int:=if isIn l duty1=true then 1 else if isIn l duty2=true then 2 else if isIn l duty3=true then 3 else 0
def pairT (l:List UInt8):Int:=if isIn l pair1=true then 1 else if isIn l pair2=true then 2 else 0
def restT (l:List UInt8):Int:=if (l==rest)=true then 2 else if (l==nights)=true then 1 else if (l==home)=true then 4 else
 if Lib.hasPrefix l before=true then dutyT (l.drop 7) else if Lib.hasPrefix l after=true then dutyT (l.drop 6) else 0
def atT (sc:Int) (l:List UInt8):Int:=if sc=1 then dutyT l else if sc=2 then restT l else if sc=3 then pairT l else 0
def dutyL:List (List UInt8):=duty1++duty2++duty3
def restL:List (List UInt8):=[rest,nights,home]++dutyL.map (before++·)++dutyL.map (after++·)
def pairL:List (List UInt8):=pair1++pair2
def listL (sc:Int):List (List UInt8):=if sc=1 then dutyL else if sc=2 then restL else if sc=3 then pairL else []
def num1:List (List UInt8):=[[108,101,103,115],[104,101,97,100,115],[116,121,112,101,115],[110,105,103,104,116,115],[100,117,116,105,101,115],[100,97,121,115]]
def kindR (l:List UInt8):Int:=if isIn l num1=true then 1 else if isIn l duty3=true then 3 else if (l==home)=true then 4 else 2
def refT (L:List (List UInt8)) (l:List UInt8):Int:=if isIn l L=true then kindR l else 0
theorem isIn_iff (l:List UInt8) (ws:List (List UInt8)):isIn l ws=true↔l ∈ ws:=by
 unfold isIn;rw [List.any_eq_true]
 exact ⟨fun ⟨x,hx,he⟩=>by rw [eq_of_beq he];exact hx,fun h=>⟨l,h,by simp⟩⟩
theorem ref_duty (l:List UInt8):refT dutyL l=dutyT l:=by
 unfold refT
 by_cases h:l ∈ dutyL
 · rw [if_pos ((isIn_iff _ _).2 h)]
   revert l
   decide
 · rw [if_neg (fun q=>h ((isIn_iff _ _).1 q))]
   unfold dutyT
   unfold dutyL at h
   simp only [List.mem_append,not_or] at h
   rw [if_neg (fun q=>h.1.1 ((isIn_iff _ _).1 q)),if_neg (fun q=>h.1.2 ((isIn_iff _ _).1 q)),if_neg (fun q=>h.2 ((isIn_iff _ _).1 q))]
theorem ref_pair (l:List UInt8):refT pairL l=pairT l:=by
 unfold refT
 by_cases h:l ∈ pairL
 · rw [if_pos ((isIn_iff _ _).2 h)]
   revert l
   decide
 · rw [if_neg (fun q=>h ((isIn_iff _ _).1 q))]
   unfold pairT
   unfold pairL at h
   simp only [List.mem_append,not_or] at h
   rw [if_neg (fun q=>h.1 ((isIn_iff _ _).1 q)),if_neg (fun q=>h.2 ((isIn_iff _ _).1 q))]
theorem pre_iff (l p:List UInt8):Lib.hasPrefix l p=true↔l.take p.length=p:=by
 unfold Lib.hasPrefix
 rw [List.isPrefixOf_iff_prefix,List.prefix_iff_eq_take]
 exact eq_comm
theorem duty_nil:dutyT []=0:=by decide
theorem ref_rest (l:List UInt8) (h1:¬ (7 < l.length∧l.take 7=before)) (h2:¬ (6 < l.length∧l.take 6=after)):refT restL l=restT l:=by
 have n1:∀ d,dutyT d≠0→l≠before++d:=by
  rintro d hd rfl
  apply h1
  cases d with
  | nil=>exact absurd duty_nil hd
  | cons c d=>exact ⟨by simp [before],by simp [before]⟩
 have n2:∀ d,dutyT d≠0→l≠after++d:=by
  rintro d hd rfl
  apply h2
  cases d with
  | nil=>exact absurd duty_nil hd
  | cons c d=>exact ⟨by simp [after],by simp [after]⟩
 have hall:∀ d ∈ dutyL,dutyT d≠0:=by decide
 have z1:Lib.hasPrefix l before=true→dutyT (l.drop 7)=0:=by
  intro q
  rw [pre_iff] at q
  have hl:l=before++l.drop 7:=by
   conv=>lhs;rw [← List.take_append_drop 7 l]
   rw [show l.take 7=before from q]
  by_cases z:dutyT (l.drop 7)=0
  · exact z
  · exact absurd hl (n1 _ z)
 have z2:Lib.hasPrefix l after=true→dutyT (l.drop 6)=0:=by
  intro q
  rw [pre_iff] at q
  have hl:l=after++l.drop 6:=by
   conv=>lhs;rw [← List.take_append_drop 6 l]
   rw [show l.take 6=after from q]
  by_cases z:dutyT (l.drop 6)=0
  · exact z
  · exact absurd hl (n2 _ z)
 unfold refT restT
 by_cases r1:l=rest
 · subst r1;decide
 · by_cases r2:l=nights
   · subst r2;decide
   · by_cases r3:l=home
     · subst r3;decide
     · have hn:isIn l restL=false:=by
        rw [Bool.eq_false_iff]
        intro q
        rw [isIn_iff] at q
        unfold restL at q
        simp only [List.mem_append,List.mem_cons,List.not_mem_nil,or_false,List.mem_map] at q
        rcases q with (q|⟨d,hd,q⟩)|⟨d,hd,q⟩
        · rcases q with q|q|q
          · exact r1 q
          · exact r2 q
          · exact r3 q
        · exact n1 d (hall d hd) q.symm
        · exact n2 d (hall d hd) q.symm
       have b1:(l==rest)=false:=by simp [r1]
       have b2:(l==nights)=false:=by simp [r2]
       have b3:(l==home)=false:=by simp [r3]
       rw [hn,b1,b2,b3]
       simp only [Bool.false_eq_true,if_false]
       split
       · rename_i q;exact (z1 q).symm
       · split
         · rename_i q;exact (z2 q).symm
         · rfl
theorem rest_before (l:List UInt8) (h:l.take 7=before):restT l=dutyT (l.drop 7):=by
 have hp:Lib.hasPrefix l before=true:=(pre_iff _ _).2 h
 have b1:(l==rest)=false:=by rw [beq_eq_false_iff_ne];rintro rfl;revert h;decide
 have b2:(l==nights)=false:=by rw [beq_eq_false_iff_ne];rintro rfl;revert h;decide
 have b3:(l==home)=false:=by rw [beq_eq_false_iff_ne];rintro rfl;revert h;decide
 unfold restT;rw [b1,b2,b3,hp];simp
theorem rest_after (l:List UInt8) (h:l.take 6=after):restT l=dutyT (l.drop 6):=by
 have hp:Lib.hasPrefix l after=true:=(pre_iff _ _).2 h
 have hq:Lib.hasPrefix l before=false:=by
  rw [Bool.eq_false_iff];intro q;rw [pre_iff] at q
  have e1:(l.take 6).take 1=after.take 1:=by rw [h]
  have e2:(l.take before.length).take 1=before.take 1:=by rw [q]
  rw [List.take_take] at e1 e2
  have:after.take 1=before.take 1:=e1.symm.trans e2
  revert this;decide
 have b1:(l==rest)=false:=by rw [beq_eq_false_iff_ne];rintro rfl;revert h;decide
 have b2:(l==nights)=false:=by rw [beq_eq_false_iff_ne];rintro rfl;revert h;decide
 have b3:(l==home)=false:=by rw [beq_eq_false_iff_ne];rintro rfl;revert h;decide
 unfold restT;rw [b1,b2,b3,hp,hq];simp
end Att
def dutyS (s:ByteArray):Int:=Att.dutyT s.data.toList
def restS (s:ByteArray):Int:=Att.restT s.data.toList
def pairS (s:ByteArray):Int:=Att.pairT s.data.toList
def atS (sc:Int) (s:ByteArray):Int:=Att.atT sc s.data.toList
def atE (sc:Int) (s:ByteArray):Int:=if atS sc s=0 then 6 else 0
end
section
set_option linter.unusedVariables false
set_option linter.unusedSimpArgs false
open Go.ChangeShapes Go.WideShapes Go.ChangeAt Go.RowKit
set_option maxHeartbeats 2000000 in
theorem duty_any (s:ByteArray) (w:World) :
 Calls Tryz.prog 42 #[.string s] w fun e w'=>e=.returned (.int .i64 (dutyS s))∧w=w':=by
 have R:Hid (dutyS s=Att.dutyT s.toList):=by unfold Hid dutyS;rw [Lib.toList_data]
 go_enter Tryz.func42,Tryz.ntmps42
 go_wp2
 all_goals
  go_ret
  refine ⟨ret_int ?_,rfl⟩
  rw [R.out]
  simp only [Att.dutyT,Att.isIn,Att.duty1,Att.duty2,Att.duty3,List.any_cons,List.any_nil]
  clear R
  simp_all
set_option maxHeartbeats 2000000 in
theorem pair_any (s:ByteArray) (w:World) :
 Calls Tryz.prog 44 #[.string s] w fun e w'=>e=.returned (.int .i64 (pairS s))∧w=w':=by
 have R:Hid (pairS s=Att.pairT s.toList):=by unfold Hid pairS;rw [Lib.toList_data]
 go_enter Tryz.func44,Tryz.ntmps44
 go_wp2
 all_goals
  go_ret
  refine ⟨ret_int ?_,rfl⟩
  rw [R.out]
  simp only [Att.pairT,Att.isIn,Att.pair1,Att.pair2,List.any_cons,List.any_nil]
  clear R
  simp_all
set_option maxHeartbeats 2000000 in
theorem rest_any (s:ByteArray) (w:World) :
 Calls Tryz.prog 43 #[.string s] w fun e w'=>e=.returned (.int .i64 (restS s))∧w=w':=by
 have R:Hid (restS s=if (s.toList==Att.rest)=true then 2 else if (s.toList==Att.nights)=true then 1 else if (s.toList==Att.home)=true then 4 else
  if Lib.hasPrefix s.data.toList Att.before=true then Att.dutyT (s.data.toList.drop 7) else if Lib.hasPrefix s.data.toList Att.after=true then Att.dutyT (s.data.toList.drop 6) else 0):=by
   unfold Hid restS;rw [Lib.toList_data];rfl
 have T1:Hid (Lib.hasPrefix s.data.toList Att.before=true→Lib.trimPrefix s.data.toList Att.before=s.data.toList.drop 7):=by
  intro h;unfold Lib.trimPrefix;rw [h];rfl
 have T2:Hid (Lib.hasPrefix s.data.toList Att.after=true→Lib.trimPrefix s.data.toList Att.after=s.data.toList.drop 6):=by
  intro h;unfold Lib.trimPrefix;rw [h];rfl
 unfold Att.rest Att.nights Att.home at R
 cases r1:(s.toList==[114,101,115,116])
 · cases r2 : (s.toList==[110,105,103,104,116,115])
   · cases r3:(s.toList==[104,111,109,101])
     · rw [r1,r2,r3] at R
       have R2:Hid (restS s=if Lib.hasPrefix s.data.toList Att.before=true then Att.dutyT (s.data.toList.drop 7) else if Lib.hasPrefix s.data.toList Att.after=true then Att.dutyT (s.data.toList.drop 6) else 0):=R
       go_enter Tryz.func43,Tryz.ntmps43
       go_wp2_with fail
       refine (Tryz.strings_CutPrefix _ _ _).mono ?_
       rw [show (⟨#[98,101,102,111,114,101,46]⟩:ByteArray).data.toList=Att.before from rfl]
       cases b1:Lib.hasPrefix s.data.toList Att.before
       · have B1:=Lib.hid b1
         clear b1 T1
         generalize Lib.trimPrefix s.data.toList Att.before=t1
         rintro e w1 ⟨rfl,rfl⟩
         go_wp2_with fail
         refine (Tryz.strings_CutPrefix _ _ _).mono ?_
         rw [show (⟨#[97,102,116,101,114,46]⟩:ByteArray).data.toList=Att.after from rfl]
         cases b2:Lib.hasPrefix s.data.toList Att.after
         · have B2:=Lib.hid b2
           clear b2 T2
           generalize Lib.trimPrefix s.data.toList Att.after=t2
           rintro e w1 ⟨rfl,rfl⟩
           go_wp2
           go_ret
           exact ⟨ret_int (by rw [R2.out,B1.out,B2.out];rfl),rfl⟩
         · have B2:=Lib.hid b2
           rw [T2.out b2]
           clear b2 T2
           rintro e w1 ⟨rfl,rfl⟩
           go_wp2_with fail
           refine (duty_any _ _).mono ?_
           rintro e w1 ⟨rfl,rfl⟩
           go_wp2
           go_ret
           exact ⟨ret_int (by rw [R2.out,B1.out,B2.out];rfl),rfl⟩
       · have B1:=Lib.hid b1
         rw [T1.out b1]
         clear b1 T1
         rintro e w1 ⟨rfl,rfl⟩
         go_wp2_with fail
         refine (duty_any _ _).mono ?_
         rintro e w1 ⟨rfl,rfl⟩
         go_wp2
         go_ret
         exact ⟨ret_int (by rw [R2.out,B1.out];rfl),rfl⟩
     · rw [r1,r2,r3] at R
       go_enter Tryz.func43,Tryz.ntmps43
       go_wp2
       go_ret
       exact ⟨ret_int (by rw [R.out];rfl),rfl⟩
   · rw [r1,r2] at R
     go_enter Tryz.func43,Tryz.ntmps43
     go_wp2
     go_ret
     exact ⟨ret_int (by rw [R.out];rfl),rfl⟩
 · rw [r1] at R
   go_enter Tryz.func43,Tryz.ntmps43
   go_wp2
   go_ret
   exact ⟨ret_int (by rw [R.out];rfl),rfl⟩
set_option maxHeartbeats 2000000 in
set_option maxRecDepth 100000 in
theorem attr_any (sc:Int) (s:ByteArray) (w:World) :
 Calls Tryz.prog 21 #[.int .i64 sc,.string s] w fun e w'=>e=.returned (.tuple #[.int .i64 (atS sc s),.int .i64 (atE sc s)])∧w=w':=by
 have A:Hid (atS sc s=if sc=1 then dutyS s else if sc=2 then restS s else if sc=3 then pairS s else 0):=rfl
 have E:Hid (atE sc s=if atS sc s=0 then 6 else 0):=rfl
 go_enter Tryz.func21,Tryz.ntmps21
 go_upto_block 0 with (fail)
 go_cut [6] (fun v wx=>v=.int .i64 (atS sc s)∧w=wx)
 case first =>
  by_cases h1:sc=1
  · have V:Hid (atS sc s=dutyS s):=by unfold Hid;rw [A.out,if_pos h1]
    have b1:(sc==1)=true:=by simp [h1]
    clear h1
    go_wp2_with (go_at_call 42;refine (duty_any _ _).mono ?_;rw [← V.out];rintro e w1 ⟨rfl,rfl⟩)
    go_meet
    exact ⟨rfl,rfl⟩
  · have b1:(sc==1)=false:=by simp [h1]
    by_cases h2:sc=2
    · have V:Hid (atS sc s=restS s):=by unfold Hid;rw [A.out,if_neg h1,if_pos h2]
      have b2:(sc==2)=true:=by simp [h2]
      clear h1 h2
      go_wp2_with (go_at_call 43;refine (rest_any _ _).mono ?_;rw [← V.out];rintro e w1 ⟨rfl,rfl⟩)
      go_meet
      exact ⟨rfl,rfl⟩
    · have b2:(sc==2)=false:=by simp [h2]
      by_cases h3:sc=3
      · have V:Hid (atS sc s=pairS s):=by unfold Hid;rw [A.out,if_neg h1,if_neg h2,if_pos h3]
        have b3:(sc==3)=true:=by simp [h3]
        clear h1 h2 h3
        go_wp2_with (go_at_call 44;refine (pair_any _ _).mono ?_;rw [← V.out];rintro e w1 ⟨rfl,rfl⟩)
        go_meet
        exact ⟨rfl,rfl⟩
      · have V:Hid (atS sc s=0):=by unfold Hid;rw [A.out,if_neg h1,if_neg h2,if_neg h3]
        have b3:(sc==3)=false:=by simp [h3]
        clear h1 h2 h3
        go_wp2
        go_meet
        exact ⟨by rw [V.out],rfl⟩
 case rest =>
  obtain ⟨rfl,rfl⟩:=hcut
  by_cases h0:atS sc s=0
  · have b0:(atS sc s==0)=true:=by simp [h0]
    have H0:=Lib.hid h0
    clear h0
    go_wp2
    go_ret2
    exact ⟨by rw [E.out,if_pos H0.out,H0.out];rfl,rfl⟩
  · have b0:(atS sc s==0)=false:=by simp [h0]
    have H0:=Lib.hid h0
    clear h0
    go_wp2
    go_ret2
    exact ⟨by rw [E.out,if_neg H0.out];rfl,rfl⟩
end
end
end Go.Proofs.YtfoedbfkddoibaaGreat
