import Derived.IntWalk
import Derived.Deep.LoopGhost
import Derived.Test.YtcejjdmnlejbaaaGreatDoorWPzE
namespace Go.Proofs.YtcejjdmnlejbaaaGreatDoor
open Lib(hid)
set_option linter.unusedVariables false
set_option linter.unusedSimpArgs false
open Go.ChangeShapes Go.WideShapes Go.ChangeAt Go.RowKit
open Go.Deep (BT)
set_option maxHeartbeats 4000000
set_option maxRecDepth 100000
section
theorem zm(s:ByteArray):s.data.toList.length=s.size:=Array.length_toList
theorem getD_at(s:ByteArray)(k:Nat)(h:k < s.size):s.data.toList.getD k 0=s[k]:=by
 rw[List.getD_eq_getElem?_getD,List.getElem?_eq_getElem (by simpa using h)];rfl
theorem vk(l:List UInt8)(a b:Nat):(⟨l.toArray⟩:ByteArray).extract a b=⟨((l.take b).drop a).toArray⟩:=by
 apply ByteArray.ext;simp[List.drop_take]
theorem Kr(s:ByteArray):∃l:List UInt8,s=⟨l.toArray⟩∧s.data.toList=l:=⟨s.data.toList,by cases s;simp,rfl⟩
theorem kI(s:ByteArray)(w:World)(hs:s.size≤9223372036854775807) :
 Calls Tryz.prog 125 #[.string s] w fun e w'=>e=.returned (.bool (yU s))∧w=w':=by
 by_cases h1:1≤s.size∧s.size≤16
 ·obtain ⟨h1, h2⟩:=h1;go_enter Tryz.func125,Tryz.ntmps125;go_wp2_with fail
  go_loop [3,4,15,21,28] (fun _ _ i _ _=>∃k:Nat,k≤s.size∧i=.int .i64 k∧Hid (Nam.good s.data.toList k=true)) (fun _ _ i _ _=>s.size - (intOf i).toNat)
  case atStart=>exact⟨0,by omega,rfl,Nam.good_zero _⟩
  case round =>
   obtain⟨k,hk,rfl,HG⟩:=hrel
   by_cases qD:k < s.size
   ·have hst:=Nam.good_step s.data.toList k (by rw[zm];exact qD);rw[HG.out,Bool.true_and,getD_at s k qD] at hst;have ST:=hid hst;clear hst;have SP:Hid (Nam.good s.data.toList (k+1)=false→yU s=false):=fun q=>Nam.good_stop _ k (by rw[zm];exact qD) q;have hi:(k:Int) < (s.size:Int):=(by omega);obtain⟨c,hc⟩:∃c:UInt8,s[k]=c:=⟨_,rfl⟩;rw[hc] at ST;go_wp2
    all_goals first
     | (go_round
        case rel =>
         refine⟨k+1,by omega,by go_num,?_⟩;unfold Hid;rw[ST.out,Bool.or_eq_true,Bool.and_eq_true];simp only[Nam.lowB,Nam.wordB,decide_eq_true_eq]
         try simp only[beq_iff_eq] at *
         omega
        case measure=>simp[intOf];omega)
     | (go_ret
        refine⟨qh (SP.out ?_).symm,rfl⟩;rw[ST.out,Bool.or_eq_false_iff,Bool.and_eq_false_iff];simp only[Nam.lowB,Nam.wordB,decide_eq_false_iff_not]
        try simp only[beq_eq_false_iff_ne] at *
        omega)
   ·have hr:Hid (yU s=true):=by
     have:=HG.out;obtain rfl:k=s.size:=by omega
     rw[← zm,Nam.good_all _ (by rw[zm];exact h1) (by rw[zm];exact h2)] at this;exact this
    go_wp2;go_ret;exact⟨qh hr.out.symm,rfl⟩
 ·have hn:Hid (yU s=false):=by
   unfold Hid yU Nam.isName;rw[zm];exact decide_eq_false (fun q=>h1 ⟨q.1,q.2.1⟩)
  by_cases h2:1≤s.size
  ·have h3:¬s.size≤16:=fun q=>h1 ⟨h2,q⟩;clear h1;go_enter Tryz.func125,Tryz.ntmps125;go_wp2;go_ret;exact⟨qh hn.out.symm,rfl⟩
  ·clear h1;go_enter Tryz.func125,Tryz.ntmps125;go_wp2;go_ret;exact⟨qh hn.out.symm,rfl⟩
theorem vd(s:ByteArray)(w:World) :
 Calls Tryz.prog 140 #[.string s] w fun e w'=>e=.returned (.bool (xw s))∧w=w':=by
 have R:Hid (xw s=(Nam.words.any fun x=>s.toList==x)):=by unfold Hid xw Nam.reserved;rw[Lib.toList_data]
 go_enter Tryz.func140,Tryz.ntmps140;go_wp2
 all_goals
  go_ret;refine⟨qh ?_,rfl⟩;rw[R.out];simp only[Nam.words,List.any_cons,List.any_nil];clear R
  simp_all
theorem qX(s:ByteArray)(w:World)(hs:s.size≤9223372036854775807) :
 Calls Tryz.prog 108 #[.string s] w fun e w'=>e=.returned (.bool (yh s))∧w=w':=by
 have D:Hid (yh s=(yU s && !xw s)):=rfl;go_enter Tryz.func108,Tryz.ntmps108;go_wp2_with fail;refine(kI _ _ hs).mono ?_;generalize yU s=x at *;rintro e w' ⟨rfl,rfl⟩;cases x
 ·go_wp2;go_ret;exact⟨qh D.out.symm,rfl⟩
 ·go_wp2_with fail;refine(vd _ _).mono ?_;generalize xw s=y at *;rintro e w' ⟨rfl,rfl⟩;go_wp2;go_ret;exact⟨qh D.out.symm,rfl⟩
theorem J6(l:List UInt8)(c:UInt8)(w:World)(h:Lib.indexByte l c = -1) :
 Calls Tryz.prog 153 #[.string ⟨l.toArray⟩,.string ⟨#[c]⟩] w fun e w'=>e=.returned (.tuple #[.string ⟨l.toArray⟩,.string ⟨#[]⟩,.bool false])∧∃n,w'=w.drewN n:=by
 have H:=hid h;clear h;go_enter Tryz.func153,Tryz.ntmps153;go_wp2_with (go_at_call 169;refine(Tryz.stringslite_Index_one _ _ _).mono ?_;rintro e w' ⟨rfl,rfl⟩;rw[show Lib.indexByte _ _=_ from H.out])
 go_ret3
 exact⟨rfl,0,rfl⟩
theorem J5(l:List UInt8)(c:UInt8)(k:Nat)(w:World)(hl:l.length≤9223372036854775807)(h:Lib.indexByte l c=k)(hk:k < l.length) :
 Calls Tryz.prog 153 #[.string ⟨l.toArray⟩,.string ⟨#[c]⟩] w fun e w'=>e=.returned (.tuple #[.string ⟨(l.take k).toArray⟩,.string ⟨(l.drop (k+1)).toArray⟩,.bool true])∧∃n,w'=w.drewN n:=by
 have H:=hid h;clear h;have c1:(0:Int)≤↑k:=by omega
 have c2:(↑k:Int)≤↑l.length:=by omega
 have c3:(0:Int)≤↑k+1:=by omega
 have c4:(↑k+1:Int)≤↑l.length:=by omega
 go_enter Tryz.func153,Tryz.ntmps153;go_wp2_with (go_at_call 169;refine(Tryz.stringslite_Index_one _ _ _).mono ?_;rintro e w' ⟨rfl,rfl⟩;rw[show Lib.indexByte _ _=_ from H.out])
 go_quiet (fail)
 go_wp2
 go_ret3
 refine⟨?_,nq,rfl⟩;rw[vk,vk,List.drop_zero,List.take_length];rfl
theorem cut_none(l:List UInt8)(c:UInt8)(w:World)(h:Lib.indexByte l c = -1) :
 Calls Tryz.prog 124 #[.string ⟨l.toArray⟩,.string ⟨#[c]⟩] w fun e w'=>e=.returned (.tuple #[.string ⟨l.toArray⟩,.string ⟨#[]⟩,.bool false])∧∃n,w'=w.drewN n:=by
 have H:=hid h;clear h;go_enter Tryz.func124,Tryz.ntmps124;go_wp2_with (go_at_call 153;refine(J6 _ _ _ H.out).mono ?_;rintro e w' ⟨rfl,n,rfl⟩)
 go_ret3
 exact⟨rfl,n,rfl⟩
theorem Km(l:List UInt8)(c:UInt8)(k:Nat)(w:World)(hl:l.length≤9223372036854775807)(h:Lib.indexByte l c=k)(hk:k < l.length) :
 Calls Tryz.prog 124 #[.string ⟨l.toArray⟩,.string ⟨#[c]⟩] w fun e w'=>e=.returned (.tuple #[.string ⟨(l.take k).toArray⟩,.string ⟨(l.drop (k+1)).toArray⟩,.bool true])∧∃n,w'=w.drewN n:=by
 have H:=hid h;clear h;go_enter Tryz.func124,Tryz.ntmps124;go_wp2_with (go_at_call 153;refine(J5 _ _ _ _ hl H.out hk).mono ?_;rintro e w' ⟨rfl,n,rfl⟩)
 go_ret3
 exact⟨rfl,n,rfl⟩
theorem below_drewN{B:Nat}{a w:World}(h:Below B a w)(n:Nat):Below B a (w.drewN n):=⟨h.os,h.tape,h.output,h.size,h.block⟩
theorem kJ(s:ByteArray)(w:World)(hs:s.size≤9223372036854775807) :
 Calls Tryz.prog 76 #[.string s] w fun e w'=>e=.returned (.bool (zv s))∧Below w.heap.size w w':=by
 obtain⟨l,rfl,hl⟩:=Kr s;clear hl;have hl:l.length≤9223372036854775807:=hs;rcases Nam.ix_cases l 46 with h|⟨k,h,hk⟩
 ·have A:Hid (zv ⟨l.toArray⟩=yh ⟨l.toArray⟩):=by
   show Nam.attr l=Nam.declName l
   unfold Nam.attr;rw[if_pos h]
  have H:=hid h;clear h;go_enter Tryz.func76,Tryz.ntmps76;go_wp2_with fail;refine(cut_none _ _ _ H.out).mono ?_;rintro e w' ⟨rfl,n,rfl⟩;go_wp2_with fail;refine(qX _ _ hs).mono ?_;rw[← A.out];rintro e w1 ⟨rfl,rfl⟩;go_wp2;go_ret;exact⟨rfl,below_drewN (Below.refl _ _) n⟩
 ·have A:Hid (zv ⟨l.toArray⟩=(yU ⟨(l.take k).toArray⟩ && yU ⟨(l.drop (k+1)).toArray⟩)):=by
   show Nam.attr l=(Nam.isName (l.take k) && Nam.isName (l.drop (k+1)))
   unfold Nam.attr;rw[if_neg (by omega),h];rfl
  have H:=hid h;clear h;go_enter Tryz.func76,Tryz.ntmps76;go_wp2_with fail;refine(Km _ _ _ _ hl H.out hk).mono ?_;rintro e w' ⟨rfl,n,rfl⟩;have z1:(l.take k).length≤9223372036854775807:=(by simp;omega);have z2:(l.drop (k+1)).length≤9223372036854775807:=(by simp;omega);generalize l.take k=l1 at *;generalize l.drop (k+1)=l2 at *;go_wp2_with fail;refine(kI _ _ (by exact z1)).mono ?_;generalize yU ⟨l1.toArray⟩=x at *;rintro e w1 ⟨rfl,rfl⟩;cases x
  ·go_wp2;go_ret;exact⟨qh A.out.symm,below_drewN (Below.refl _ _) n⟩
  ·go_wp2_with fail;refine(kI _ _ (by exact z2)).mono ?_;generalize yU ⟨l2.toArray⟩=y at *;rintro e w1 ⟨rfl,rfl⟩;go_wp2;go_ret;exact⟨qh (by rw[A.out];simp),below_drewN (Below.refl _ _) n⟩
end
section
theorem xF(op n:Int)(w:World) :
 Calls Tryz.prog 75 #[.int .i64 op,.int .i64 n] w fun e w'=>e=.returned (.bool (j6 op n))∧w=w':=by
 go_enter Tryz.func75,Tryz.ntmps75;go_wp2
 all_goals
  go_ret;refine⟨qh ?_,rfl⟩;simp only[beq_iff_eq,beq_eq_false_iff_ne] at *;unfold j6
  (repeat' split)<;>first|(exfalso;omega)|rfl|(rw[Bool.eq_iff_iff];simp)
def WfC(b o:Nat)(a:Nd)(k:Fo):Prop:=∀(w:World),ExAt w b o a k→yN a k→
 Calls Tryz.prog 32 #[.agg #[.int .i64 a.op,.int .i64 a.num,.string a.name,.slice a.ptr (len k) a.cap]] w fun e w'=>e=.returned (.bool (zk a (len k) && za k))∧Below w.heap.size w w'
theorem uE(a:Nd)(k:Fo)(n:Int)(h:j6 a.op n=false):(zk a n && za k)=false:=by unfold zk;rw[h];simp
theorem uD(a:Nd)(k:Fo)(n:Int)(h:j8 a.op a.num=false):(zk a n && za k)=false:=by unfold zk;rw[h];simp
theorem uC(a:Nd)(k:Fo)(n:Int)(h:zQ a.op a.name=false):(zk a n && za k)=false:=by unfold zk;rw[h];simp
theorem uF(a:Nd)(k:Fo)(n:Int)(h:¬(1≤a.op∧a.op≤22)):(zk a n && za k)=false:=by unfold zk;rw[decide_eq_false h];simp
theorem QS(a:Nd)(k:Fo)(n:Int)(h0:1≤a.op∧a.op≤22)(h1:j6 a.op n=true)(h2:j8 a.op a.num=true)(h3:zQ a.op a.name=true):(zk a n && za k)=za k:=by unfold zk;rw[decide_eq_true h0,h1,h2,h3];simp
theorem uQ(s:ByteArray):s.toList.isEmpty=decide (s.size=0):=by
 rw[Lib.toList_data,← zm];cases s.data.toList<;>simp
theorem UB(b o:Nat)(a:Nd)(k:Fo):WfC b o a k:=by
 refine jf (P:=WfC) ?_ b o a k;clear b o a k;intro b o a k ih w hx hok;obtain⟨op,num,name,ptr,cap⟩:=a
 show Calls Tryz.prog 32 #[.agg #[.int .i64 op,.int .i64 num,.string name,.slice ptr (len k) cap]] w _
 have IH:=hid ih;have HX:=hid hx;have HOK:=hid hok;clear ih hx hok;have hk:len k≤9223372036854775807:=HOK.out.1.2.2.2;have hs:name.size≤9223372036854775807:=HOK.out.1.2.2.1;have F0:=hid (uF ⟨op,num,name,ptr,cap⟩ k (len k));have F1:=hid (uE ⟨op,num,name,ptr,cap⟩ k (len k));have F2:=hid (uD ⟨op,num,name,ptr,cap⟩ k (len k));have F3:=hid (uC ⟨op,num,name,ptr,cap⟩ k (len k));have FT:=hid (QS ⟨op,num,name,ptr,cap⟩ k (len k));dsimp only at F0 F1 F2 F3 FT;generalize (zk ⟨op,num,name,ptr,cap⟩ (len k) && za k)=RES at *
 by_cases h1:1≤op∧op≤22
 ·cases hA : j6 op (len k)
  ·have R:=hid (F1.out hA);have HA:=hid hA;clear hA;obtain⟨h1,h2⟩:=h1;go_enter Tryz.func32,Tryz.ntmps32;go_wp2_with (go_at_call 75;refine(xF _ _ _).mono ?_;rw[HA.out];rintro e w' ⟨rfl,rfl⟩);go_ret;exact⟨qh R.out.symm,ba1⟩
  ·have HA := hid hA;have H1:=hid h1;clear hA;obtain⟨h1,h2⟩:=h1;go_enter Tryz.func32,Tryz.ntmps32
   go_upto_block 0 with (go_at_call 75;refine(xF _ _ _).mono ?_;rw[HA.out];rintro e w' ⟨rfl,rfl⟩)
   go_cut [2] (fun v wx=>v=.bool false∧wx=w.alloc (.cells #[.int .i64 op,.int .i64 num,.string name,.slice ptr (len k) cap] 24)∧Hid (j8 op num=true))
   case first =>
    go_wp2
    all_goals first
     | (go_ret
        refine⟨qh (F2.out ?_).symm,ba1⟩
        go_light
        simp only[beq_iff_eq,beq_eq_false_iff_ne,bne_iff_ne] at *;unfold j8
        (repeat' split)<;>first|(exfalso;omega)|(simp only[decide_eq_false_iff_not];omega))
     | (go_meet
        refine⟨rfl,rfl,?_⟩
        go_light
        simp only[beq_iff_eq,beq_eq_false_iff_ne,bne_eq_false_iff_eq] at *;unfold Hid j8
        (repeat' split)<;>first|(exfalso;omega)|(simp only[decide_eq_true_eq];omega))
   case rest =>
    obtain⟨rfl,rfl,HN⟩:=hcut
    go_upto_if 50 with (fail)
    go_cut [2] (fun v wx=>v=.bool false∧Hid (Below (w.heap.size+1) (w.alloc (.cells #[.int .i64 op,.int .i64 num,.string name,.slice ptr (len k) cap] 24)) wx∧zQ op name=true))
    case first =>
     by_cases h6:op=6
     ·have b6:(op==6)=true:=by simp[h6]
      cases hT:zv name
      ·have R:=hid (F3.out (by unfold zQ;rw[if_pos h6];exact hT));have HT:=hid hT;clear hT h6;go_wp2_with (go_at_call 76;refine(kJ _ _ hs).mono ?_;rw[HT.out];rintro e w1 ⟨rfl,hb⟩);go_ret;exact⟨qh R.out.symm,ba1.trans (hb.mono (by simp))⟩
      ·have R:Hid (zQ op name=true):=by unfold Hid zQ;rw[if_pos h6];exact hT
       have HT:=hid hT;clear hT h6;go_wp2_with (go_at_call 76;refine(kJ _ _ hs).mono ?_;rw[HT.out];rintro e w1 ⟨rfl,hb⟩)
       go_meet
       exact⟨rfl,hb.mono (by simp),R.out⟩
     ·have b6:(op==6)=false:=by simp[h6]
      have E:=uQ name
      by_cases h0:name.size=0
      ·have e1:name.toList.isEmpty=true:=by rw[E];simp[h0]
       have e2:(!name.toList.isEmpty)=false:=(by rw[e1];rfl);have R:Hid (zQ op name=true):=(by unfold Hid zQ;rw[if_neg h6];simp[h0]);clear E h0 h6;go_wp2
       go_meet
       exact⟨rfl,Below.refl _ _,R.out⟩
      ·have e1:name.toList.isEmpty=false:=by rw[E];simp[h0]
       have e2:(!name.toList.isEmpty)=true:=(by rw[e1];rfl);have R:=hid (F3.out (by unfold zQ;rw[if_neg h6];simp[h0]));clear E h0 h6;go_wp2;go_ret;exact⟨qh R.out.symm,ba1⟩
    case rest =>
     obtain⟨rfl,HB⟩:=hcut;have R:=hid (FT.out H1.out HA.out HN.out HB.out.2)
     have hc3:wc.cell? ⟨w.heap.size,3,none⟩=some (.slice ptr (len k) cap):=by
      rw[HB.out.1.cell (p:=⟨w.heap.size,3,none⟩) (by simp)];simp
     have BW:Hid (Below w.heap.size w wc):=ba1.trans (HB.out.1.mono (by omega));have XW:=hid (HX.out.next BW.out);clear F0 F1 F2 F3 FT HN HA H1 h1 h2 HB;go_wp2_with fail
     go_loopw [4,61] (fun _ i wr=>∃(j:Nat) (r:Fo),i=.int .i64 j∧
      Hid (j+len r=len k∧FoAt wr r b (o+j * 4)∧je r∧xo WfC r∧Below w.heap.size w wr∧RES=za r)) (fun _ i _=>len k - (intOf i).toNat)
     case atStart =>
      exact⟨0,k,rfl,by omega,by rw[Nat.zero_mul,Nat.add_zero];exact XW.out.2,HOK.out.2,IH.out,BW.out,R.out⟩
     case round =>
      obtain⟨j,r,rfl,HR⟩:=hrel;cases r with
      | nil =>
        have hj:¬(j:Int) < (len k:Int):=(by have:=HR.out.1;simp[len] at this;omega);go_wp2;go_ret;exact⟨qh (by rw[HR.out.2.2.2.2.2];rfl),HR.out.2.2.2.2.1⟩
      | node b1 o1 a1 k1 r1 =>
        have hj:j < len k:=(by have:=HR.out.1;simp[len] at this;omega);obtain rfl:ptr=some ⟨b,o,none⟩:=HX.out.1 (by rintro rfl;simp[len] at hj);obtain⟨⟨c0,c1,c2,c3⟩,hp1,hk1,hr1⟩:=HR.out.2.1;have X1:Hid (ExAt wr b1 o1 a1 k1):=⟨hp1,hk1⟩;have N1:=hid hr1;clear hp1 hk1 hr1;have hj1:(j:Int) < (len k:Int):=(by omega);have hbw:=block_lt_of_cell c0;simp at hbw;go_wp2_with fail;refine(HR.out.2.2.2.1.1 _ (X1.out.next ba1) ⟨HR.out.2.2.1.1,HR.out.2.2.1.2.1⟩).mono ?_;rintro e w1 ⟨he,hb⟩;have B1:Hid (Below wr.heap.size wr w1):=ba1.trans (hb.mono (by simp));have Z:Hid (RES=((zk a1 (len k1) && za k1) && za r1)):=HR.out.2.2.2.2.2;clear hb c0 c1 c2 c3;generalize (zk a1 (len k1) && za k1)=y at *;subst he;cases y
        ·go_wp2;go_ret;exact⟨qh (by rw[Z.out];rfl),HR.out.2.2.2.2.1.trans (B1.out.mono HR.out.2.2.2.2.1.size)⟩
        ·go_wp2
         go_roundw
         case rel =>
          obtain⟨q1,-,q3,q4,q5,-⟩:=HR.out;simp[len] at q1;refine⟨j+1,r1,by go_num,by omega,?_,q3.2.2,q4.2,q5.trans (B1.out.mono q5.size),by rw[Z.out];rfl⟩;rw[Nat.add_mul,Nat.one_mul,← Nat.add_assoc];exact N1.out.next B1.out
         case measure=>simp[intOf];omega
 ·have R:=hid (F0.out h1);have h2:op < 1∨22 < op:=(by omega);rcases h2 with h2|h2
  ·go_enter Tryz.func32,Tryz.ntmps32;go_wp2;go_ret;exact⟨qh R.out.symm,ba1⟩
  ·have h3:¬op < 1:=by omega
   clear h1;go_enter Tryz.func32,Tryz.ntmps32;go_wp2;go_ret;exact⟨qh R.out.symm,ba1⟩
end
section
theorem js(b o:Nat)(op num:Int)(name:ByteArray)(ptr:Option Addr)(cap:Nat)(k:Fo)(w:World)(hx:ExAt w b o ⟨op,num,name,ptr,cap⟩ k)(hok:yN ⟨op,num,name,ptr,cap⟩ k) :
 Calls Tryz.prog 12 #[.agg #[.int .i64 op,.int .i64 num,.string name,.slice ptr (len k) cap]] w fun e w'=>e=.returned (.int .i64 (qQ ⟨op,num,name,ptr,cap⟩ k))∧Below w.heap.size w w':=by
 have B0:Below w.heap.size w ((w.alloc (.cells #[.int .i64 op,.int .i64 num,.string name,.slice ptr (len k) cap] 24)).alloc (.cells #[.int .i64 0] 3)):=ba1.alloc (by simp) _;have X0:=hx.next B0
 have L0:FoLt (w.heap.size+1) k b:=hx.2.lt.mono (by omega);have C1:=Kf b o ⟨op,num,name,ptr,cap⟩ k _ (w.heap.size+1) 0 1 X0 hok L0 (by simp[go_sem]) (by simp[go_sem]) (by omega) (by omega) (by omega) (by omega);have HC:=hid C1;have HB:=hid B0;have HX:=hid hx;have HOK:=hid hok;clear C1 B0 X0 hx hok L0;have V:Hid (qQ ⟨op,num,name,ptr,cap⟩ k=if fitB 0 1 k=true then (if (zk ⟨op,num,name,ptr,cap⟩ (len k) && za k)=true then 0 else 1) else 10):=rfl;go_enter Tryz.func12,Tryz.ntmps12;go_wp2_with fail;refine HC.out.mono ?_;rintro e w1 ⟨he,-,-,hg⟩;have B1:Below w.heap.size w w1:=HB.out.grown hg (by simp;omega) (by rintro k' h;simp at h;omega)
 have hc:∀j v,(#[Value.int .i64 op,.int .i64 num,.string name,.slice ptr (len k) cap]:Array Value)[j]?=some v→w1.cell? ⟨w.heap.size,j,none⟩=some v:=by
  intro j v hv;exact hg.cell (by simp[go_sem,hv]) (by simp)
 have c0:=hc 0 _ rfl;have c1:=hc 1 _ rfl;have c2:=hc 2 _ rfl;have c3:=hc 3 _ rfl;clear hc hg HC;subst he;cases hf:fitB 0 1 k
 ·have HF:=hid hf;clear hf;go_wp2;go_ret;exact⟨qg (by rw[V.out,HF.out];rfl),B1⟩
 ·have HF:=hid hf;clear hf;have C2:=UB b o ⟨op,num,name,ptr,cap⟩ k w1 (HX.out.next B1) HOK.out;have HW:=hid C2;clear C2;generalize (zk ⟨op,num,name,ptr,cap⟩ (len k) && za k)=y at *;go_wp2_with fail;refine HW.out.mono ?_;rintro e w2 ⟨rfl,hb⟩;have B2:=B1.trans (hb.mono B1.size);clear hb c0 c1 c2 c3;cases y
  ·go_wp2;go_ret;exact⟨qg (by rw[V.out,HF.out];rfl),B2⟩
  ·go_wp2;go_ret;exact⟨qg (by rw[V.out,HF.out];rfl),B2⟩
end
def TkB(w:World)(L:List Tk.T4)(p:Option Addr)(s:Nat):Prop:=L.length≤400∧(L≠[]→∃g O,p=some ⟨g,O,none⟩∧g < s∧∀j u,(jF L)[j]?=some u→w.cell? ⟨g,O+j,none⟩=some u)
theorem TkB.below{w w':World}{L:List Tk.T4}{p:Option Addr}{s B0:Nat}(h:TkB w L p s)(hb:Below B0 w w')(hs:s≤B0):TkB w' L p s:=by
 refine⟨h.1,fun q=>?_⟩;obtain⟨g,O,e,hg,hc⟩:=h.2 q;refine⟨g,O,e,hg,fun j u hu=>?_⟩;rw[hb.cell (p:=⟨g,O+j,none⟩) (Nat.lt_of_lt_of_le hg hs)];exact hc j u hu
theorem TkB.get{w:World}{L:List Tk.T4}{p:Option Addr}{s:Nat}(h:TkB w L p s){i:Nat}{t:Tk.T4}(hi:L[i]?=some t):∃g O,p=some ⟨g,O,none⟩∧g < s∧
 w.cell? ⟨g,O+i * 4,none⟩=some (.int .i64 t.t.kind)∧w.cell? ⟨g,O+i * 4+1,none⟩=some (.string t.t.text)∧w.cell? ⟨g,O+i * 4+2,none⟩=some (.int .i64 t.t.num)∧w.cell? ⟨g,O+i * 4+3,none⟩=some (.int .i64 t.at'):=by
 obtain⟨g,O,e,hg,hc⟩:=h.2 (by intro q;rw[q] at hi;simp at hi);obtain⟨c0,c1,c2,c3⟩:=QY L i t hi;exact⟨g,O,e,hg,hc _ _ c0,by rw[Nat.add_assoc];exact hc _ _ c1,by rw[Nat.add_assoc];exact hc _ _ c2,by rw[Nat.add_assoc];exact hc _ _ c3⟩
structure PSt (w:World) (sb:Nat) (L:List Tk.T4) (p:Option Addr) (cap i:Nat):Prop where
 c0:w.cell? ⟨sb,0,none⟩=some (.slice p L.length cap)
 c1:w.cell? ⟨sb,1,none⟩=some (.int .i64 i)
 f1:w.frozen? ⟨sb,1,none⟩=false
 lt:sb < w.heap.size
 ls:TkB w L p sb
 le:i≤L.length
theorem PSt.below{w w':World}{sb:Nat}{L:List Tk.T4}{p:Option Addr}{cap i B0:Nat}(h:PSt w sb L p cap i)(hb:Below B0 w w')(hs:sb < B0):PSt w' sb L p cap i where
 c0:=by rw[hb.cell (p:=⟨sb,0,none⟩) hs];exact h.c0
 c1:=by rw[hb.cell (p:=⟨sb,1,none⟩) hs];exact h.c1
 f1:=by rw[hb.frozen (p:=⟨sb,1,none⟩) hs];exact h.f1
 lt:=Nat.lt_of_lt_of_le h.lt hb.size
 ls:=h.ls.below hb (Nat.le_of_lt hs)
 le:=h.le
theorem PSt.next{w w':World}{sb:Nat}{L:List Tk.T4}{p:Option Addr}{cap i:Nat}(h:PSt w sb L p cap i)(hb:Below w.heap.size w w'):PSt w' sb L p cap i:=h.below hb h.lt
theorem PSt.step{w:World}{sb:Nat}{L:List Tk.T4}{p:Option Addr}{cap i:Nat}(h:PSt w sb L p cap i)(hi:i < L.length):PSt (w.setCell ⟨sb,1,none⟩ (.int .i64 ((i:Int)+1))) sb L p cap (i+1)∧w.grownBy (w.setCell ⟨sb,1,none⟩ (.int .i64 ((i:Int)+1))) (some sb):=by
 have h0:=h.c0;have h1:=h.c1;have hf:=h.f1;refine⟨⟨by simp[go_sem,h0,h1],by simp[go_sem,h1],by simp[go_sem,hf],by simp[World.setCell];exact h.lt,h.ls.below ((Below.refl _ _).setCell (Nat.le_refl _) _) (Nat.le_refl _),hi⟩,?_⟩;exact⟨rfl,rfl,rfl,by simp[World.setCell],fun k hk hr=>Below.heap_setCell _ _ _ _ (fun e=>hr (by rw[e]))⟩
theorem Ka{L:List Tk.T4}{i:Nat}{s:ByteArray}(h:L.length≤i):Pz.isw L i s=false:=by
 unfold Pz.isw;rw[List.getElem?_eq_none h]
theorem K9{L:List Tk.T4}{i:Nat}{s:ByteArray}{t:Tk.T4}(h:L[i]?=some t):Pz.isw L i s=((decide (t.t.kind=1) || decide (t.t.kind=5)) && decide (t.t.text.data.toList=s.data.toList)):=by
 unfold Pz.isw;rw[h]
theorem vK(sb:Nat)(L:List Tk.T4)(p:Option Addr)(cap i:Nat)(s:ByteArray)(w:World)(h:PSt w sb L p cap i) :
 Calls Tryz.prog 127 #[.pointer (some ⟨sb,0,none⟩),.string s] w fun e w'=>e=.returned (.bool (Pz.isw L i s))∧Below w.heap.size w w':=by
 have H:=hid h;have c0:=h.c0;have c1:=h.c1;have qD:=h.lt;have hL:L.length≤400:=h.ls.1;have hle:=h.le;clear h
 by_cases hi:i < L.length
 ·have hi':¬(L.length:Int)≤(i:Int):=by omega
  have hi2:(i:Int) < (L.length:Int):=(by omega);have hi3:(0:Int)≤(i:Int):=(by omega);obtain⟨t,ht⟩:∃t,L[i]?=some t:=⟨_,List.getElem?_eq_getElem hi⟩;obtain⟨g,O,rfl,hg,d0,d1,d2,d3⟩:=H.out.ls.get ht;have HI:=hid (K9 (s:=s) ht);have hd:=block_lt_of_cell d0;simp at hd;clear ht;go_enter Tryz.func127,Tryz.ntmps127;go_wp2_with fail
  go_quiet (fail)
  go_wp2_with fail;have B1:Hid (Below w.heap.size w (w.drewN nq)):=below_drewN (Below.refl _ _) _;have z1:w.heap.size≤(w.drewN nq).heap.size:=B1.out.size;have c0:(w.drewN nq).cell? ⟨sb,0,none⟩=some (.slice (some ⟨g,O,none⟩) L.length cap):=c0;have c1:(w.drewN nq).cell? ⟨sb,1,none⟩=some (.int .i64 i):=c1;have d0:(w.drewN nq).cell? ⟨g,O+i * 4,none⟩=some (.int .i64 t.t.kind):=d0;have d1:(w.drewN nq).cell? ⟨g,O+i * 4+1,none⟩=some (.string t.t.text):=d1;have d2:(w.drewN nq).cell? ⟨g,O+i * 4+2,none⟩=some (.int .i64 t.t.num):=d2;have d3:(w.drewN nq).cell? ⟨g,O+i * 4+3,none⟩=some (.int .i64 t.at'):=d3;generalize w.drewN nq=w1 at *;have n0:=World.new_ne w1 ⟨sb,0,none⟩ c0;have n1:=World.new_ne w1 ⟨sb,1,none⟩ c1;have m0:=World.new_ne w1 ⟨g,O+i * 4,none⟩ d0
  go_region_held3 (fun w'=>w'.cell? ⟨sb,0,none⟩=some (.slice (some ⟨g,O,none⟩) L.length cap)∧w'.cell? ⟨sb,1,none⟩=some (.int .i64 i)∧w'.cell? ⟨g,O+i * 4,none⟩=some (.int .i64 t.t.kind)∧w'.cell? ⟨g,O+i * 4+1,none⟩=some (.string t.t.text)∧w'.cell? ⟨g,O+i * 4+2,none⟩=some (.int .i64 t.t.num)∧w'.cell? ⟨g,O+i * 4+3,none⟩=some (.int .i64 t.at')) (go_keep) (fail)
  clear c0 c1 d0 d1 d2 d3;go_wp2
  all_goals
   go_ret;refine⟨qh ?_,(B1.out.drew).alloc z1 _⟩;rw[HI.out]
   first|(simp[*,Lib.toList_data];done)|(simp[*,Lib.toList_data];rw[Bool.eq_iff_iff];simp;done)|(simp[*,Lib.toList_data];rw[Bool.eq_iff_iff,beq_iff_eq,decide_eq_true_eq])
 ·have hi':(L.length:Int)≤(i:Int):=by omega
  go_enter Tryz.func127,Tryz.ntmps127;go_wp2_with fail
  go_quiet (fail)
  go_wp2;go_ret;exact⟨qh (Ka (by omega)).symm,below_drewN (Below.refl _ _) _⟩
theorem qj(sb:Nat)(L:List Tk.T4)(p:Option Addr)(cap i:Nat):∀W W':World,PSt W sb L p cap i→Below (sb+1) W W'→PSt W' sb L p cap i:=fun W W' h hb=>h.below hb (Nat.lt_succ_self _)
theorem qM(sb:Nat)(L:List Tk.T4)(p:Option Addr)(cap i:Nat)(s:ByteArray)(w:World)(h:PSt w sb L p cap i)(hq:Pz.isw L i s=false) :
 Calls Tryz.prog 81 #[.pointer (some ⟨sb,0,none⟩),.string s] w fun e w'=>e=.returned (.bool false)∧Below w.heap.size w w':=by
 have PK:=hid (vK sb L p cap i s w h);rw[hq] at PK;clear h hq;go_enter Tryz.func81,Tryz.ntmps81;go_wp2_with fail;refine PK.out.mono ?_;rintro e w1 ⟨rfl,hb⟩;have B:=hid hb;clear hb;go_wp2;go_ret;exact⟨rfl,B.out⟩
theorem qA(sb:Nat)(L:List Tk.T4)(p:Option Addr)(cap i:Nat)(s:ByteArray)(w:World)(h:PSt w sb L p cap i)(hq:Pz.isw L i s=true) :
 Calls Tryz.prog 81 #[.pointer (some ⟨sb,0,none⟩),.string s] w fun e w'=>e=.returned (.bool true)∧PSt w' sb L p cap (i+1)∧w.grownBy w' (some sb):=by
 have PK:=hid (vK sb L p cap i s w h);have hi:=Pz.isw_lt hq;have H:=hid h;have hL:=h.ls.1;rw[hq] at PK;clear h hq;go_enter Tryz.func81,Tryz.ntmps81;go_wp2_with fail;refine PK.out.mono ?_;rintro e w1 ⟨rfl,hb⟩;have S1:=hid (H.out.next hb);have G1:Hid (w.grownBy w1 (some sb)):=zF hb _;have c1:=S1.out.c1;have f1:=S1.out.f1;have qD:=S1.out.lt;clear hb;go_wp2;go_ret;exact⟨rfl,(S1.out.step hi).1,jD G1.out (S1.out.step hi).2⟩
theorem zh(op:Int)(a b:Ch)(w:World) :
 Calls Tryz.prog 82 #[.int .i64 op,.agg #[.int .i64 a.a.op,.int .i64 a.a.num,.string a.a.name,.slice a.a.ptr (len a.k) a.a.cap],.agg #[.int .i64 b.a.op,.int .i64 b.a.num,.string b.a.name,.slice b.a.ptr (len b.k) b.a.cap]] w fun e w' =>
  ∃g,e=.returned (.agg #[.int .i64 op,.int .i64 0,.string ⟨#[]⟩,.slice (some ⟨g,0,none⟩) 2 2])∧w.heap.size≤g∧Below w.heap.size w w'∧∀j u,(jL [a,b])[j]?=some u→w'.cell? ⟨g,j,none⟩=some u:=by
 go_enter Tryz.func82,Tryz.ntmps82;go_wp2;refine bodyPost_ret (v:=.agg #[.int .i64 op,.int .i64 0,.string ⟨#[]⟩,.slice (some ⟨w.heap.size+3,0,none⟩) 2 2]) ?_ rfl ⟨_,rfl,by omega,?_,?_⟩
 ·rw [uv rfl];go_simp
 ·exact((ba1.alloc (by simp) _).alloc (by simp;omega) _).alloc (by simp;omega) _
 ·intro j u hu;have hu':(jL [a,b]).toArray[j]?=some u:=(by rw[List.getElem?_toArray];exact hu);have e:=World.cell?_alloc_new (((w.alloc (.cells #[.int .i64 a.a.op,.int .i64 a.a.num,.string a.a.name,.slice a.a.ptr (len a.k) a.a.cap] 24)).alloc (.cells #[.int .i64 b.a.op,.int .i64 b.a.num,.string b.a.name,.slice b.a.ptr (len b.k) b.a.cap] 24)).alloc (.cells #[.int .i64 op,.int .i64 0,.string ⟨#[]⟩,.slice (some ⟨w.heap.size+3,0,none⟩) 2 2] 24)) (jL [a,b]).toArray 24 j;simp only[World.size_alloc] at e;rw[← hu'];exact e
def Kz(w:World)(sb:Nat)(gv:List Ch)(L:List Tk.T4)(p:Option Addr)(cap:Nat)(r:Pz.R)(e:Ending)(w':World):Prop :=
 ∃c:Ch,e=.returned (.tuple #[.agg #[.int .i64 c.a.op,.int .i64 c.a.num,.string c.a.name,.slice c.a.ptr (len c.k) c.a.cap],.bool r.1.isSome])∧Pz.Fin w sb gv (fun W=>PSt W sb L p cap r.2) r.1 c w'
def PC(f:FuncId)(L:List Tk.T4)(nt:Pz.NT)(i:Nat):Prop:=∀(sb:Nat)(p:Option Addr)(cap:Nat)(w:World),PSt w sb L p cap i→
 Calls Tryz.prog f #[.pointer (some ⟨sb,0,none⟩)] w (Kz w sb [] L p cap (Pz.pv L nt i))
theorem dj_of(L:List Tk.T4)(i:Nat)(h0:PC 126 L .cj i)(h1:∀j,i < j→j≤L.length→PC 126 L .cj j):PC 80 L .dj i:=by
 intro sb p cap w h;have C0:=hid h0;have C1:=hid h1;clear h0 h1;have H:=hid h;have hle:=h.le;have hL4:=h.ls.1;have E0:Hid (Pz.Env w w sb (fun W=>PSt W sb L p cap i) [] [] []):=Pz.Env.init h (qj _ _ _ _ _) h.lt (by intro c hc;cases hc);have PV:Hid (Pz.pv L .dj i=Pz.step L (Pz.pv L) .dj i):=Pz.pv_step L .dj i hle;unfold Pz.step at PV;dsimp only at PV;clear h;go_enter Tryz.func80,Tryz.ntmps80;go_wp2_with fail;have E1:=hid (E0.out.box Pz.z0 #[.int .i64 0,.int .i64 0,.string ⟨#[]⟩,.slice none 0 0] rfl 24);generalize w.alloc (.cells #[.int .i64 0,.int .i64 0,.string ⟨#[]⟩,.slice none 0 0] 24)=w1 at *;refine(C0.out sb p cap w1 E1.out.st).mono ?_;rintro e w2 ⟨c,rfl,hf⟩;have AD:Hid (Pz.Ok L i (Pz.pv L .cj i) 1):=Pz.pv_adv L .cj i hle;generalize Pz.pv L .cj i=r0 at *;obtain⟨o,j⟩:=r0;obtain⟨ts2,hE2,hc2,-⟩:=E1.out.go hf (qj _ _ _ _ _) (by intro d hd;cases hd);have E2:=hid hE2;have T2:=hid hc2;rw[Pz.bnd_goL] at PV;have PV2:=hid PV.out;clear hf hE2 hc2 E1 E0 C0 PV;dsimp only;go_wp2_with fail;have E3:=hid (E2.out.box c #[.int .i64 c.a.op,.int .i64 c.a.num,.string c.a.name,.slice c.a.ptr (len c.k) c.a.cap] rfl 24);generalize hxb:w2.heap.size=xb at *;generalize w2.alloc (.cells #[.int .i64 c.a.op,.int .i64 c.a.num,.string c.a.name,.slice c.a.ptr (len c.k) c.a.cap] 24)=w3 at *;clear E2 hxb;have AD2:Hid (i≤j∧j≤L.length):=⟨AD.out.1,AD.out.2.1⟩;clear AD
 go_loopg [5] (L.length - j) (fun g ok wr=>∃(o:Option Ch) (j:Nat) (c:Ch) (ts:List Ch),ok=.bool o.isSome∧Hid (g=L.length - j∧i≤j∧j≤L.length∧Pz.Env w wr sb (fun W=>PSt W sb L p cap j) [] [(xb,c),(w.heap.size,Pz.z0)] ts∧(∀x,o=some x→Pz.nr c=x∧c∈ ts)∧Pz.pv L .dj i=Pz.goL (fun x=>Pz.pv L (.djL x) j) o j))
 case atStart=>exact⟨o,j,c,ts2,rfl,rfl,AD2.out.1,AD2.out.2,E3.out,T2.out,PV2.out⟩
 case round =>
  clear E3 T2 PV2 AD2;obtain⟨o,j,c,ts,rfl,HR⟩:=hrel;have E4:=hid HR.out.2.2.2.1;obtain⟨xc0,xc1,xc2,xc3,xf0,xf1,xf2,xf3,xlt⟩:=(E4.out.bx (xb,c) (by simp)).1;obtain⟨rc0,rc1,rc2,rc3,rf0,rf1,rf2,rf3,rlt⟩:=(E4.out.bx (w.heap.size,Pz.z0) (by simp)).1;dsimp only at xc0 xc1 xc2 xc3 xf0 xf1 xf2 xf3 xlt rc0 rc1 rc2 rc3 rf0 rf1 rf2 rf3 rlt;have XR:xb≠w.heap.size:=by have:=(List.pairwise_cons.1 E4.out.nd).1 (w.heap.size,Pz.z0) (by simp);exact this
  cases o with
  | none =>
    have hr:Pz.pv L .dj i=(none,j):=HR.out.2.2.2.2.2;have HQ:=hid hr;clear hr;go_wp2;refine bodyPost_ret (v:=.tuple #[.agg #[.int .i64 c.a.op,.int .i64 c.a.num,.string c.a.name,.slice c.a.ptr (len c.k) c.a.cap],.bool false]) ?_ rfl ?_
    ·rw [results_cell_tmp rfl];go_simp
    ·rw [HQ.out];exact⟨c,rfl,Pz.Env.done (E4.out.tail) c none (fun x hx=>by cases hx)⟩
  | some x =>
    obtain⟨hx1,hx2⟩:=HR.out.2.2.2.2.1 x rfl;have T4:=hid (And.intro hx1 hx2);have hr:Pz.pv L .dj i=Pz.pv L (.djL x) j:=HR.out.2.2.2.2.2;rw[Pz.pv_step L (.djL x) j HR.out.2.2.1] at hr;unfold Pz.step at hr;dsimp only at hr;have PV5:=hid hr;clear hr hx1 hx2
    by_cases hw0:Pz.isw L j Pz.wOr=true
    ·have PV6:=hid PV5.out;rw[if_pos hw0] at PV6;go_wp2_with fail;refine(qA sb L p cap j _ _ E4.out.st hw0).mono ?_;rintro e w6 ⟨rfl,hs,hg⟩;have E6:=hid (E4.out.grown hs (qj _ _ _ _ _) hg);have hj:=Pz.isw_lt hw0;have B6:=hid hw0;clear hs hg hw0 E4 xc0 xc1 xc2 xc3 xf0 xf1 xf2 xf3 xlt rc0 rc1 rc2 rc3 rf0 rf1 rf2 rf3 rlt;go_wp2_with fail;have E7:=hid (E6.out.box Pz.z0 #[.int .i64 0,.int .i64 0,.string ⟨#[]⟩,.slice none 0 0] rfl 24);generalize hyb:w6.heap.size=yb at *;generalize w6.alloc (.cells #[.int .i64 0,.int .i64 0,.string ⟨#[]⟩,.slice none 0 0] 24)=w7 at *;clear E6 hyb;refine(C1.out (j+1) (by have:=HR.out.2.1;omega) (by omega) sb p cap w7 E7.out.st).mono ?_;rintro e w8 ⟨d,rfl,hf⟩;have AD:Hid (Pz.Ok L (j+1) (Pz.pv L .cj (j+1)) 1):=Pz.pv_adv L .cj (j+1) (by omega);generalize Pz.pv L .cj (j+1)=r0 at *;obtain⟨o,k⟩:=r0;obtain⟨ts8,hE8,hd8,qV⟩:=E7.out.go hf (qj _ _ _ _ _) (by intro d hd;cases hd);have E8:=hid hE8;have T8:=hid hd8;have TX:=hid (qV c T4.out.2);rw[Pz.bnd_goL] at PV6;have PV7:=hid PV6.out;clear hf hE8 hd8 qV E7 PV6 PV5;dsimp only;obtain⟨yc0,yc1,yc2,yc3,yf0,yf1,yf2,yf3,ylt⟩:=(E8.out.bx (yb,Pz.z0) (by simp)).1;obtain⟨xc0,xc1,xc2,xc3,xf0,xf1,xf2,xf3,xlt⟩:=(E8.out.bx (xb,c) (by simp)).1;dsimp only at xc0 xc1 xc2 xc3 xf0 xf1 xf2 xf3 xlt yc0 yc1 yc2 yc3 yf0 yf1 yf2 yf3 ylt;have YX:yb≠xb:=(List.pairwise_cons.1 E8.out.nd).1 (xb,c) (by simp);go_wp2_with fail;have E9:=hid (E8.out.put d);generalize ((((w8.setCell ⟨yb,0,none⟩ (.int .i64 d.a.op)).setCell ⟨yb,1,none⟩ (.int .i64 d.a.num)).setCell ⟨yb,2,none⟩ (.string d.a.name)).setCell ⟨yb,3,none⟩ (.slice d.a.ptr (len d.k) d.a.cap))=w9 at *;refine(zh 21 c d w9).mono ?_;rintro e wa ⟨g,rfl,hg,hb,hcl⟩;obtain⟨tsa,hEa,hna,-⟩:=E9.out.pair hb ⟨T4.out.1,TX.out⟩ T8.out 21 g hg hcl;have Ea:=hid (hEa.tail);have Ta:=hid hna;clear E8 E9 hg hb hcl hEa hna xc0 xc1 xc2 xc3 xf0 xf1 xf2 xf3 xlt yc0 yc1 yc2 yc3 yf0 yf1 yf2 yf3 ylt;obtain⟨xc0,xc1,xc2,xc3,xf0,xf1,xf2,xf3,xlt⟩:=(Ea.out.bx (xb,c) (by simp)).1;dsimp only at xc0 xc1 xc2 xc3 xf0 xf1 xf2 xf3 xlt;go_wp2;have a1:=AD.out.1;have a2:=AD.out.2.1;dsimp only at a1 a2;cases o with
     | none =>
       go_roundg (L.length - k)
       case rel=>exact⟨none,k,(⟨g,0,⟨21,0,⟨#[]⟩,some ⟨g,0,none⟩,2⟩,qC [c,d]⟩:Ch),tsa,rfl,rfl,by have:=HR.out.2.1;omega,a2,Ea.out.put4 (⟨g,0,⟨21,0,⟨#[]⟩,some ⟨g,0,none⟩,2⟩,qC [c,d]⟩:Ch) rfl rfl rfl rfl,(fun y hy=>by cases hy),by rw[PV7.out,Pz.goL_none,Pz.goL_none]⟩
       case measure=>have:=HR.out.1;omega
     | some y =>
       go_roundg (L.length - k)
       case rel=>exact⟨some (Pz.tn 21 [x,y]),k,(⟨g,0,⟨21,0,⟨#[]⟩,some ⟨g,0,none⟩,2⟩,qC [c,d]⟩:Ch),tsa,rfl,rfl,by have:=HR.out.2.1;omega,a2,Ea.out.put4 (⟨g,0,⟨21,0,⟨#[]⟩,some ⟨g,0,none⟩,2⟩,qC [c,d]⟩:Ch) rfl rfl rfl rfl,(fun z hz=>by cases hz;exact Ta.out y rfl),by rw[PV7.out,Pz.goL_some,Pz.goL_some]⟩
       case measure=>have:=HR.out.1;omega
    ·have N0:=hid hw0;have hw0':Pz.isw L j Pz.wOr=false:=(by simpa using hw0);go_wp2_with fail;refine(qM sb L p cap j _ _ E4.out.st hw0').mono ?_;rintro e w50 ⟨rfl,hb⟩;have E50:=hid (E4.out.below hb);clear hb hw0 hw0' xc0 xc1 xc2 xc3 xf0 xf1 xf2 xf3 xlt rc0 rc1 rc2 rc3 rf0 rf1 rf2 rf3 rlt;obtain⟨xc0,xc1,xc2,xc3,xf0,xf1,xf2,xf3,xlt⟩:=(E50.out.bx (xb,c) (by simp)).1;obtain⟨rc0,rc1,rc2,rc3,rf0,rf1,rf2,rf3,rlt⟩:=(E50.out.bx (w.heap.size,Pz.z0) (by simp)).1;dsimp only at xc0 xc1 xc2 xc3 xf0 xf1 xf2 xf3 xlt rc0 rc1 rc2 rc3 rf0 rf1 rf2 rf3 rlt;have HQ:=hid PV5.out;rw[if_neg N0.out] at HQ;have E6:=E50;go_wp2;refine bodyPost_ret (v:=.tuple #[.agg #[.int .i64 c.a.op,.int .i64 c.a.num,.string c.a.name,.slice c.a.ptr (len c.k) c.a.cap],.bool true]) ?_ rfl ?_
     ·rw [results_cell_tmp rfl];go_simp
     ·rw [HQ.out];exact⟨c,rfl,Pz.Env.done E6.out.tail c (some x) (fun y hy=>by cases hy;exact T4.out)⟩
theorem cj_of(L:List Tk.T4)(i:Nat)(h0:PC 154 L .ng i)(h1:∀j,i < j→j≤L.length→PC 154 L .ng j):PC 126 L .cj i:=by
 intro sb p cap w h;have C0:=hid h0;have C1:=hid h1;clear h0 h1;have H:=hid h;have hle:=h.le;have hL4:=h.ls.1;have E0:Hid (Pz.Env w w sb (fun W=>PSt W sb L p cap i) [] [] []):=Pz.Env.init h (qj _ _ _ _ _) h.lt (by intro c hc;cases hc);have PV:Hid (Pz.pv L .cj i=Pz.step L (Pz.pv L) .cj i):=Pz.pv_step L .cj i hle;unfold Pz.step at PV;dsimp only at PV;clear h;go_enter Tryz.func126,Tryz.ntmps126;go_wp2_with fail;have E1:=hid (E0.out.box Pz.z0 #[.int .i64 0,.int .i64 0,.string ⟨#[]⟩,.slice none 0 0] rfl 24);generalize w.alloc (.cells #[.int .i64 0,.int .i64 0,.string ⟨#[]⟩,.slice none 0 0] 24)=w1 at *;refine(C0.out sb p cap w1 E1.out.st).mono ?_;rintro e w2 ⟨c,rfl,hf⟩;have AD:Hid (Pz.Ok L i (Pz.pv L .ng i) 1):=Pz.pv_adv L .ng i hle;generalize Pz.pv L .ng i=r0 at *;obtain⟨o,j⟩:=r0;obtain⟨ts2,hE2,hc2,-⟩:=E1.out.go hf (qj _ _ _ _ _) (by intro d hd;cases hd);have E2:=hid hE2;have T2:=hid hc2;rw[Pz.bnd_goL] at PV;have PV2:=hid PV.out;clear hf hE2 hc2 E1 E0 C0 PV;dsimp only;go_wp2_with fail;have E3:=hid (E2.out.box c #[.int .i64 c.a.op,.int .i64 c.a.num,.string c.a.name,.slice c.a.ptr (len c.k) c.a.cap] rfl 24);generalize hxb:w2.heap.size=xb at *;generalize w2.alloc (.cells #[.int .i64 c.a.op,.int .i64 c.a.num,.string c.a.name,.slice c.a.ptr (len c.k) c.a.cap] 24)=w3 at *;clear E2 hxb;have AD2:Hid (i≤j∧j≤L.length):=⟨AD.out.1,AD.out.2.1⟩;clear AD
 go_loopg [5] (L.length - j) (fun g ok wr=>∃(o:Option Ch) (j:Nat) (c:Ch) (ts:List Ch),ok=.bool o.isSome∧Hid (g=L.length - j∧i≤j∧j≤L.length∧Pz.Env w wr sb (fun W=>PSt W sb L p cap j) [] [(xb,c),(w.heap.size,Pz.z0)] ts∧(∀x,o=some x→Pz.nr c=x∧c∈ ts)∧Pz.pv L .cj i=Pz.goL (fun x=>Pz.pv L (.cjL x) j) o j))
 case atStart=>exact⟨o,j,c,ts2,rfl,rfl,AD2.out.1,AD2.out.2,E3.out,T2.out,PV2.out⟩
 case round =>
  clear E3 T2 PV2 AD2;obtain⟨o,j,c,ts,rfl,HR⟩:=hrel;have E4:=hid HR.out.2.2.2.1;obtain⟨xc0,xc1,xc2,xc3,xf0,xf1,xf2,xf3,xlt⟩:=(E4.out.bx (xb,c) (by simp)).1;obtain⟨rc0,rc1,rc2,rc3,rf0,rf1,rf2,rf3,rlt⟩:=(E4.out.bx (w.heap.size,Pz.z0) (by simp)).1;dsimp only at xc0 xc1 xc2 xc3 xf0 xf1 xf2 xf3 xlt rc0 rc1 rc2 rc3 rf0 rf1 rf2 rf3 rlt;have XR:xb≠w.heap.size:=by have:=(List.pairwise_cons.1 E4.out.nd).1 (w.heap.size,Pz.z0) (by simp);exact this
  cases o with
  | none =>
    have hr:Pz.pv L .cj i=(none,j):=HR.out.2.2.2.2.2;have HQ:=hid hr;clear hr;go_wp2;refine bodyPost_ret (v:=.tuple #[.agg #[.int .i64 c.a.op,.int .i64 c.a.num,.string c.a.name,.slice c.a.ptr (len c.k) c.a.cap],.bool false]) ?_ rfl ?_
    ·rw [results_cell_tmp rfl];go_simp
    ·rw [HQ.out];exact⟨c,rfl,Pz.Env.done (E4.out.tail) c none (fun x hx=>by cases hx)⟩
  | some x =>
    obtain⟨hx1,hx2⟩:=HR.out.2.2.2.2.1 x rfl;have T4:=hid (And.intro hx1 hx2);have hr:Pz.pv L .cj i=Pz.pv L (.cjL x) j:=HR.out.2.2.2.2.2;rw[Pz.pv_step L (.cjL x) j HR.out.2.2.1] at hr;unfold Pz.step at hr;dsimp only at hr;have PV5:=hid hr;clear hr hx1 hx2
    by_cases hw0:Pz.isw L j Pz.wAnd=true
    ·have PV6:=hid PV5.out;rw[if_pos hw0] at PV6;go_wp2_with fail;refine(qA sb L p cap j _ _ E4.out.st hw0).mono ?_;rintro e w6 ⟨rfl,hs,hg⟩;have E6:=hid (E4.out.grown hs (qj _ _ _ _ _) hg);have hj:=Pz.isw_lt hw0;have B6:=hid hw0;clear hs hg hw0 E4 xc0 xc1 xc2 xc3 xf0 xf1 xf2 xf3 xlt rc0 rc1 rc2 rc3 rf0 rf1 rf2 rf3 rlt;go_wp2_with fail;have E7:=hid (E6.out.box Pz.z0 #[.int .i64 0,.int .i64 0,.string ⟨#[]⟩,.slice none 0 0] rfl 24);generalize hyb:w6.heap.size=yb at *;generalize w6.alloc (.cells #[.int .i64 0,.int .i64 0,.string ⟨#[]⟩,.slice none 0 0] 24)=w7 at *;clear E6 hyb;refine(C1.out (j+1) (by have:=HR.out.2.1;omega) (by omega) sb p cap w7 E7.out.st).mono ?_;rintro e w8 ⟨d,rfl,hf⟩;have AD:Hid (Pz.Ok L (j+1) (Pz.pv L .ng (j+1)) 1):=Pz.pv_adv L .ng (j+1) (by omega);generalize Pz.pv L .ng (j+1)=r0 at *;obtain⟨o,k⟩:=r0;obtain⟨ts8,hE8,hd8,qV⟩:=E7.out.go hf (qj _ _ _ _ _) (by intro d hd;cases hd);have E8:=hid hE8;have T8:=hid hd8;have TX:=hid (qV c T4.out.2);rw[Pz.bnd_goL] at PV6;have PV7:=hid PV6.out;clear hf hE8 hd8 qV E7 PV6 PV5;dsimp only;obtain⟨yc0,yc1,yc2,yc3,yf0,yf1,yf2,yf3,ylt⟩:=(E8.out.bx (yb,Pz.z0) (by simp)).1;obtain⟨xc0,xc1,xc2,xc3,xf0,xf1,xf2,xf3,xlt⟩:=(E8.out.bx (xb,c) (by simp)).1;dsimp only at xc0 xc1 xc2 xc3 xf0 xf1 xf2 xf3 xlt yc0 yc1 yc2 yc3 yf0 yf1 yf2 yf3 ylt;have YX:yb≠xb:=(List.pairwise_cons.1 E8.out.nd).1 (xb,c) (by simp);go_wp2_with fail;have E9:=hid (E8.out.put d);generalize ((((w8.setCell ⟨yb,0,none⟩ (.int .i64 d.a.op)).setCell ⟨yb,1,none⟩ (.int .i64 d.a.num)).setCell ⟨yb,2,none⟩ (.string d.a.name)).setCell ⟨yb,3,none⟩ (.slice d.a.ptr (len d.k) d.a.cap))=w9 at *;refine(zh 20 c d w9).mono ?_;rintro e wa ⟨g,rfl,hg,hb,hcl⟩;obtain⟨tsa,hEa,hna,-⟩:=E9.out.pair hb ⟨T4.out.1,TX.out⟩ T8.out 20 g hg hcl;have Ea:=hid (hEa.tail);have Ta:=hid hna;clear E8 E9 hg hb hcl hEa hna xc0 xc1 xc2 xc3 xf0 xf1 xf2 xf3 xlt yc0 yc1 yc2 yc3 yf0 yf1 yf2 yf3 ylt;obtain⟨xc0,xc1,xc2,xc3,xf0,xf1,xf2,xf3,xlt⟩:=(Ea.out.bx (xb,c) (by simp)).1;dsimp only at xc0 xc1 xc2 xc3 xf0 xf1 xf2 xf3 xlt;go_wp2;have a1:=AD.out.1;have a2:=AD.out.2.1;dsimp only at a1 a2;cases o with
     | none =>
       go_roundg (L.length - k)
       case rel=>exact⟨none,k,(⟨g,0,⟨20,0,⟨#[]⟩,some ⟨g,0,none⟩,2⟩,qC [c,d]⟩:Ch),tsa,rfl,rfl,by have:=HR.out.2.1;omega,a2,Ea.out.put4 (⟨g,0,⟨20,0,⟨#[]⟩,some ⟨g,0,none⟩,2⟩,qC [c,d]⟩:Ch) rfl rfl rfl rfl,(fun y hy=>by cases hy),by rw[PV7.out,Pz.goL_none,Pz.goL_none]⟩
       case measure=>have:=HR.out.1;omega
     | some y =>
       go_roundg (L.length - k)
       case rel=>exact⟨some (Pz.tn 20 [x,y]),k,(⟨g,0,⟨20,0,⟨#[]⟩,some ⟨g,0,none⟩,2⟩,qC [c,d]⟩:Ch),tsa,rfl,rfl,by have:=HR.out.2.1;omega,a2,Ea.out.put4 (⟨g,0,⟨20,0,⟨#[]⟩,some ⟨g,0,none⟩,2⟩,qC [c,d]⟩:Ch) rfl rfl rfl rfl,(fun z hz=>by cases hz;exact Ta.out y rfl),by rw[PV7.out,Pz.goL_some,Pz.goL_some]⟩
       case measure=>have:=HR.out.1;omega
    ·have N0:=hid hw0;have hw0':Pz.isw L j Pz.wAnd=false:=(by simpa using hw0);go_wp2_with fail;refine(qM sb L p cap j _ _ E4.out.st hw0').mono ?_;rintro e w50 ⟨rfl,hb⟩;have E50:=hid (E4.out.below hb);clear hb hw0 hw0' xc0 xc1 xc2 xc3 xf0 xf1 xf2 xf3 xlt rc0 rc1 rc2 rc3 rf0 rf1 rf2 rf3 rlt;obtain⟨xc0,xc1,xc2,xc3,xf0,xf1,xf2,xf3,xlt⟩:=(E50.out.bx (xb,c) (by simp)).1;obtain⟨rc0,rc1,rc2,rc3,rf0,rf1,rf2,rf3,rlt⟩:=(E50.out.bx (w.heap.size,Pz.z0) (by simp)).1;dsimp only at xc0 xc1 xc2 xc3 xf0 xf1 xf2 xf3 xlt rc0 rc1 rc2 rc3 rf0 rf1 rf2 rf3 rlt;have HQ:=hid PV5.out;rw[if_neg N0.out] at HQ;have E6:=E50;go_wp2;refine bodyPost_ret (v:=.tuple #[.agg #[.int .i64 c.a.op,.int .i64 c.a.num,.string c.a.name,.slice c.a.ptr (len c.k) c.a.cap],.bool true]) ?_ rfl ?_
     ·rw [results_cell_tmp rfl];go_simp
     ·rw [HQ.out];exact⟨c,rfl,Pz.Env.done E6.out.tail c (some x) (fun y hy=>by cases hy;exact T4.out)⟩
theorem sm_of(L:List Tk.T4)(i:Nat)(h0:PC 200 L .tm i)(h1:∀j,i < j→j≤L.length→PC 200 L .tm j):PC 190 L .sm i:=by
 intro sb p cap w h;have C0:=hid h0;have C1:=hid h1;clear h0 h1;have H:=hid h;have hle:=h.le;have hL4:=h.ls.1;have E0:Hid (Pz.Env w w sb (fun W=>PSt W sb L p cap i) [] [] []):=Pz.Env.init h (qj _ _ _ _ _) h.lt (by intro c hc;cases hc);have PV:Hid (Pz.pv L .sm i=Pz.step L (Pz.pv L) .sm i):=Pz.pv_step L .sm i hle;unfold Pz.step at PV;dsimp only at PV;clear h;go_enter Tryz.func190,Tryz.ntmps190;go_wp2_with fail;have E1:=hid (E0.out.box Pz.z0 #[.int .i64 0,.int .i64 0,.string ⟨#[]⟩,.slice none 0 0] rfl 24);generalize w.alloc (.cells #[.int .i64 0,.int .i64 0,.string ⟨#[]⟩,.slice none 0 0] 24)=w1 at *;refine(C0.out sb p cap w1 E1.out.st).mono ?_;rintro e w2 ⟨c,rfl,hf⟩;have AD:Hid (Pz.Ok L i (Pz.pv L .tm i) 1):=Pz.pv_adv L .tm i hle;generalize Pz.pv L .tm i=r0 at *;obtain⟨o,j⟩:=r0;obtain⟨ts2,hE2,hc2,-⟩:=E1.out.go hf (qj _ _ _ _ _) (by intro d hd;cases hd);have E2:=hid hE2;have T2:=hid hc2;rw[Pz.bnd_goL] at PV;have PV2:=hid PV.out;clear hf hE2 hc2 E1 E0 C0 PV;dsimp only;go_wp2_with fail;have E3:=hid (E2.out.box c #[.int .i64 c.a.op,.int .i64 c.a.num,.string c.a.name,.slice c.a.ptr (len c.k) c.a.cap] rfl 24);generalize hxb:w2.heap.size=xb at *;generalize w2.alloc (.cells #[.int .i64 c.a.op,.int .i64 c.a.num,.string c.a.name,.slice c.a.ptr (len c.k) c.a.cap] 24)=w3 at *;clear E2 hxb;have AD2:Hid (i≤j∧j≤L.length):=⟨AD.out.1,AD.out.2.1⟩;clear AD
 go_loopg [5] (L.length - j) (fun g ok wr=>∃(o:Option Ch) (j:Nat) (c:Ch) (ts:List Ch),ok=.bool o.isSome∧Hid (g=L.length - j∧i≤j∧j≤L.length∧Pz.Env w wr sb (fun W=>PSt W sb L p cap j) [] [(xb,c),(w.heap.size,Pz.z0)] ts∧(∀x,o=some x→Pz.nr c=x∧c∈ ts)∧Pz.pv L .sm i=Pz.goL (fun x=>Pz.pv L (.smL x) j) o j))
 case atStart=>exact⟨o,j,c,ts2,rfl,rfl,AD2.out.1,AD2.out.2,E3.out,T2.out,PV2.out⟩
 case round =>
  clear E3 T2 PV2 AD2;obtain⟨o,j,c,ts,rfl,HR⟩:=hrel;have E4:=hid HR.out.2.2.2.1;obtain⟨xc0,xc1,xc2,xc3,xf0,xf1,xf2,xf3,xlt⟩:=(E4.out.bx (xb,c) (by simp)).1;obtain⟨rc0,rc1,rc2,rc3,rf0,rf1,rf2,rf3,rlt⟩:=(E4.out.bx (w.heap.size,Pz.z0) (by simp)).1;dsimp only at xc0 xc1 xc2 xc3 xf0 xf1 xf2 xf3 xlt rc0 rc1 rc2 rc3 rf0 rf1 rf2 rf3 rlt;have XR:xb≠w.heap.size:=by have:=(List.pairwise_cons.1 E4.out.nd).1 (w.heap.size,Pz.z0) (by simp);exact this
  cases o with
  | none =>
    have hr:Pz.pv L .sm i=(none,j):=HR.out.2.2.2.2.2;have HQ:=hid hr;clear hr;go_wp2;refine bodyPost_ret (v:=.tuple #[.agg #[.int .i64 c.a.op,.int .i64 c.a.num,.string c.a.name,.slice c.a.ptr (len c.k) c.a.cap],.bool false]) ?_ rfl ?_
    ·rw [results_cell_tmp rfl];go_simp
    ·rw [HQ.out];exact⟨c,rfl,Pz.Env.done (E4.out.tail) c none (fun x hx=>by cases hx)⟩
  | some x =>
    obtain⟨hx1,hx2⟩:=HR.out.2.2.2.2.1 x rfl;have T4:=hid (And.intro hx1 hx2);have hr:Pz.pv L .sm i=Pz.pv L (.smL x) j:=HR.out.2.2.2.2.2;rw[Pz.pv_step L (.smL x) j HR.out.2.2.1] at hr;unfold Pz.step at hr;dsimp only at hr;have PV5:=hid hr;clear hr hx1 hx2
    by_cases hw0:Pz.isw L j Pz.wPlus=true
    ·have PV6:=hid PV5.out;rw[if_pos hw0] at PV6;go_wp2_with fail;refine(qA sb L p cap j _ _ E4.out.st hw0).mono ?_;rintro e w6 ⟨rfl,hs,hg⟩;have E6:=hid (E4.out.grown hs (qj _ _ _ _ _) hg);have hj:=Pz.isw_lt hw0;have B6:=hid hw0;clear hs hg hw0 E4 xc0 xc1 xc2 xc3 xf0 xf1 xf2 xf3 xlt rc0 rc1 rc2 rc3 rf0 rf1 rf2 rf3 rlt;go_wp2_with fail;have E7:=hid (E6.out.box Pz.z0 #[.int .i64 0,.int .i64 0,.string ⟨#[]⟩,.slice none 0 0] rfl 24);generalize hyb:w6.heap.size=yb at *;generalize w6.alloc (.cells #[.int .i64 0,.int .i64 0,.string ⟨#[]⟩,.slice none 0 0] 24)=w7 at *;clear E6 hyb;refine(C1.out (j+1) (by have:=HR.out.2.1;omega) (by omega) sb p cap w7 E7.out.st).mono ?_;rintro e w8 ⟨d,rfl,hf⟩;have AD:Hid (Pz.Ok L (j+1) (Pz.pv L .tm (j+1)) 1):=Pz.pv_adv L .tm (j+1) (by omega);generalize Pz.pv L .tm (j+1)=r0 at *;obtain⟨o,k⟩:=r0;obtain⟨ts8,hE8,hd8,qV⟩:=E7.out.go hf (qj _ _ _ _ _) (by intro d hd;cases hd);have E8:=hid hE8;have T8:=hid hd8;have TX:=hid (qV c T4.out.2);rw[Pz.bnd_goL] at PV6;have PV7:=hid PV6.out;clear hf hE8 hd8 qV E7 PV6 PV5;dsimp only;obtain⟨yc0,yc1,yc2,yc3,yf0,yf1,yf2,yf3,ylt⟩:=(E8.out.bx (yb,Pz.z0) (by simp)).1;obtain⟨xc0,xc1,xc2,xc3,xf0,xf1,xf2,xf3,xlt⟩:=(E8.out.bx (xb,c) (by simp)).1;dsimp only at xc0 xc1 xc2 xc3 xf0 xf1 xf2 xf3 xlt yc0 yc1 yc2 yc3 yf0 yf1 yf2 yf3 ylt;have YX:yb≠xb:=(List.pairwise_cons.1 E8.out.nd).1 (xb,c) (by simp);go_wp2_with fail;have E9:=hid (E8.out.put d);generalize ((((w8.setCell ⟨yb,0,none⟩ (.int .i64 d.a.op)).setCell ⟨yb,1,none⟩ (.int .i64 d.a.num)).setCell ⟨yb,2,none⟩ (.string d.a.name)).setCell ⟨yb,3,none⟩ (.slice d.a.ptr (len d.k) d.a.cap))=w9 at *;refine(zh 8 c d w9).mono ?_;rintro e wa ⟨g,rfl,hg,hb,hcl⟩;obtain⟨tsa,hEa,hna,-⟩:=E9.out.pair hb ⟨T4.out.1,TX.out⟩ T8.out 8 g hg hcl;have Ea:=hid (hEa.tail);have Ta:=hid hna;clear E8 E9 hg hb hcl hEa hna xc0 xc1 xc2 xc3 xf0 xf1 xf2 xf3 xlt yc0 yc1 yc2 yc3 yf0 yf1 yf2 yf3 ylt;obtain⟨xc0,xc1,xc2,xc3,xf0,xf1,xf2,xf3,xlt⟩:=(Ea.out.bx (xb,c) (by simp)).1;dsimp only at xc0 xc1 xc2 xc3 xf0 xf1 xf2 xf3 xlt;go_wp2;have a1:=AD.out.1;have a2:=AD.out.2.1;dsimp only at a1 a2;cases o with
     | none =>
       go_roundg (L.length - k)
       case rel=>exact⟨none,k,(⟨g,0,⟨8,0,⟨#[]⟩,some ⟨g,0,none⟩,2⟩,qC [c,d]⟩:Ch),tsa,rfl,rfl,by have:=HR.out.2.1;omega,a2,Ea.out.put4 (⟨g,0,⟨8,0,⟨#[]⟩,some ⟨g,0,none⟩,2⟩,qC [c,d]⟩:Ch) rfl rfl rfl rfl,(fun y hy=>by cases hy),by rw[PV7.out,Pz.goL_none,Pz.goL_none]⟩
       case measure=>have:=HR.out.1;omega
     | some y =>
       go_roundg (L.length - k)
       case rel=>exact⟨some (Pz.tn 8 [x,y]),k,(⟨g,0,⟨8,0,⟨#[]⟩,some ⟨g,0,none⟩,2⟩,qC [c,d]⟩:Ch),tsa,rfl,rfl,by have:=HR.out.2.1;omega,a2,Ea.out.put4 (⟨g,0,⟨8,0,⟨#[]⟩,some ⟨g,0,none⟩,2⟩,qC [c,d]⟩:Ch) rfl rfl rfl rfl,(fun z hz=>by cases hz;exact Ta.out y rfl),by rw[PV7.out,Pz.goL_some,Pz.goL_some]⟩
       case measure=>have:=HR.out.1;omega
    ·have N0:=hid hw0;have hw0':Pz.isw L j Pz.wPlus=false:=(by simpa using hw0);go_wp2_with fail;refine(qM sb L p cap j _ _ E4.out.st hw0').mono ?_;rintro e w50 ⟨rfl,hb⟩;have E50:=hid (E4.out.below hb);clear hb hw0 hw0' xc0 xc1 xc2 xc3 xf0 xf1 xf2 xf3 xlt rc0 rc1 rc2 rc3 rf0 rf1 rf2 rf3 rlt;obtain⟨xc0,xc1,xc2,xc3,xf0,xf1,xf2,xf3,xlt⟩:=(E50.out.bx (xb,c) (by simp)).1;obtain⟨rc0,rc1,rc2,rc3,rf0,rf1,rf2,rf3,rlt⟩:=(E50.out.bx (w.heap.size,Pz.z0) (by simp)).1;dsimp only at xc0 xc1 xc2 xc3 xf0 xf1 xf2 xf3 xlt rc0 rc1 rc2 rc3 rf0 rf1 rf2 rf3 rlt
     by_cases hw1:Pz.isw L j Pz.wMinus=true
     ·have PV6:=hid PV5.out;rw[if_neg N0.out,if_pos hw1] at PV6;go_wp2_with fail;refine(qA sb L p cap j _ _ E50.out.st hw1).mono ?_;rintro e w6 ⟨rfl,hs,hg⟩;have E6:=hid (E50.out.grown hs (qj _ _ _ _ _) hg);have hj:=Pz.isw_lt hw1;have B6:=hid hw1;clear hs hg hw1 E4 xc0 xc1 xc2 xc3 xf0 xf1 xf2 xf3 xlt rc0 rc1 rc2 rc3 rf0 rf1 rf2 rf3 rlt;go_wp2_with fail;have E7:=hid (E6.out.box Pz.z0 #[.int .i64 0,.int .i64 0,.string ⟨#[]⟩,.slice none 0 0] rfl 24);generalize hyb:w6.heap.size=yb at *;generalize w6.alloc (.cells #[.int .i64 0,.int .i64 0,.string ⟨#[]⟩,.slice none 0 0] 24)=w7 at *;clear E6 hyb;refine(C1.out (j+1) (by have:=HR.out.2.1;omega) (by omega) sb p cap w7 E7.out.st).mono ?_;rintro e w8 ⟨d,rfl,hf⟩;have AD:Hid (Pz.Ok L (j+1) (Pz.pv L .tm (j+1)) 1):=Pz.pv_adv L .tm (j+1) (by omega);generalize Pz.pv L .tm (j+1)=r0 at *;obtain⟨o,k⟩:=r0;obtain⟨ts8,hE8,hd8,qV⟩:=E7.out.go hf (qj _ _ _ _ _) (by intro d hd;cases hd);have E8:=hid hE8;have T8:=hid hd8;have TX:=hid (qV c T4.out.2);rw[Pz.bnd_goL] at PV6;have PV7:=hid PV6.out;clear hf hE8 hd8 qV E7 PV6 PV5;dsimp only;obtain⟨yc0,yc1,yc2,yc3,yf0,yf1,yf2,yf3,ylt⟩:=(E8.out.bx (yb,Pz.z0) (by simp)).1;obtain⟨xc0,xc1,xc2,xc3,xf0,xf1,xf2,xf3,xlt⟩:=(E8.out.bx (xb,c) (by simp)).1;dsimp only at xc0 xc1 xc2 xc3 xf0 xf1 xf2 xf3 xlt yc0 yc1 yc2 yc3 yf0 yf1 yf2 yf3 ylt;have YX:yb≠xb:=(List.pairwise_cons.1 E8.out.nd).1 (xb,c) (by simp);go_wp2_with fail;have E9:=hid (E8.out.put d);generalize ((((w8.setCell ⟨yb,0,none⟩ (.int .i64 d.a.op)).setCell ⟨yb,1,none⟩ (.int .i64 d.a.num)).setCell ⟨yb,2,none⟩ (.string d.a.name)).setCell ⟨yb,3,none⟩ (.slice d.a.ptr (len d.k) d.a.cap))=w9 at *;refine(zh 9 c d w9).mono ?_;rintro e wa ⟨g,rfl,hg,hb,hcl⟩;obtain⟨tsa,hEa,hna,-⟩:=E9.out.pair hb ⟨T4.out.1,TX.out⟩ T8.out 9 g hg hcl;have Ea:=hid (hEa.tail);have Ta:=hid hna;clear E8 E9 hg hb hcl hEa hna xc0 xc1 xc2 xc3 xf0 xf1 xf2 xf3 xlt yc0 yc1 yc2 yc3 yf0 yf1 yf2 yf3 ylt;obtain⟨xc0,xc1,xc2,xc3,xf0,xf1,xf2,xf3,xlt⟩:=(Ea.out.bx (xb,c) (by simp)).1;dsimp only at xc0 xc1 xc2 xc3 xf0 xf1 xf2 xf3 xlt;go_wp2;have a1:=AD.out.1;have a2:=AD.out.2.1;dsimp only at a1 a2;cases o with
      | none =>
        go_roundg (L.length - k)
        case rel=>exact⟨none,k,(⟨g,0,⟨9,0,⟨#[]⟩,some ⟨g,0,none⟩,2⟩,qC [c,d]⟩:Ch),tsa,rfl,rfl,by have:=HR.out.2.1;omega,a2,Ea.out.put4 (⟨g,0,⟨9,0,⟨#[]⟩,some ⟨g,0,none⟩,2⟩,qC [c,d]⟩:Ch) rfl rfl rfl rfl,(fun y hy=>by cases hy),by rw[PV7.out,Pz.goL_none,Pz.goL_none]⟩
        case measure=>have:=HR.out.1;omega
      | some y =>
        go_roundg (L.length - k)
        case rel=>exact⟨some (Pz.tn 9 [x,y]),k,(⟨g,0,⟨9,0,⟨#[]⟩,some ⟨g,0,none⟩,2⟩,qC [c,d]⟩:Ch),tsa,rfl,rfl,by have:=HR.out.2.1;omega,a2,Ea.out.put4 (⟨g,0,⟨9,0,⟨#[]⟩,some ⟨g,0,none⟩,2⟩,qC [c,d]⟩:Ch) rfl rfl rfl rfl,(fun z hz=>by cases hz;exact Ta.out y rfl),by rw[PV7.out,Pz.goL_some,Pz.goL_some]⟩
        case measure=>have:=HR.out.1;omega
     ·have N1:=hid hw1;have hw1':Pz.isw L j Pz.wMinus=false:=(by simpa using hw1);go_wp2_with fail;refine(qM sb L p cap j _ _ E50.out.st hw1').mono ?_;rintro e w51 ⟨rfl,hb⟩;have E51:=hid (E50.out.below hb);clear hb hw1 hw1' xc0 xc1 xc2 xc3 xf0 xf1 xf2 xf3 xlt rc0 rc1 rc2 rc3 rf0 rf1 rf2 rf3 rlt;obtain⟨xc0,xc1,xc2,xc3,xf0,xf1,xf2,xf3,xlt⟩:=(E51.out.bx (xb,c) (by simp)).1;obtain⟨rc0,rc1,rc2,rc3,rf0,rf1,rf2,rf3,rlt⟩:=(E51.out.bx (w.heap.size,Pz.z0) (by simp)).1;dsimp only at xc0 xc1 xc2 xc3 xf0 xf1 xf2 xf3 xlt rc0 rc1 rc2 rc3 rf0 rf1 rf2 rf3 rlt;have HQ:=hid PV5.out;rw[if_neg N0.out,if_neg N1.out] at HQ;have E6:=E51;go_wp2;refine bodyPost_ret (v:=.tuple #[.agg #[.int .i64 c.a.op,.int .i64 c.a.num,.string c.a.name,.slice c.a.ptr (len c.k) c.a.cap],.bool true]) ?_ rfl ?_
      ·rw [results_cell_tmp rfl];go_simp
      ·rw [HQ.out];exact⟨c,rfl,Pz.Env.done E6.out.tail c (some x) (fun y hy=>by cases hy;exact T4.out)⟩
theorem tm_of(L:List Tk.T4)(i:Nat)(h0:PC 204 L .fc i)(h1:∀j,i < j→j≤L.length→PC 204 L .fc j):PC 200 L .tm i:=by
 intro sb p cap w h;have C0:=hid h0;have C1:=hid h1;clear h0 h1;have H:=hid h;have hle:=h.le;have hL4:=h.ls.1;have E0:Hid (Pz.Env w w sb (fun W=>PSt W sb L p cap i) [] [] []):=Pz.Env.init h (qj _ _ _ _ _) h.lt (by intro c hc;cases hc);have PV:Hid (Pz.pv L .tm i=Pz.step L (Pz.pv L) .tm i):=Pz.pv_step L .tm i hle;unfold Pz.step at PV;dsimp only at PV;clear h;go_enter Tryz.func200,Tryz.ntmps200;go_wp2_with fail;have E1:=hid (E0.out.box Pz.z0 #[.int .i64 0,.int .i64 0,.string ⟨#[]⟩,.slice none 0 0] rfl 24);generalize w.alloc (.cells #[.int .i64 0,.int .i64 0,.string ⟨#[]⟩,.slice none 0 0] 24)=w1 at *;refine(C0.out sb p cap w1 E1.out.st).mono ?_;rintro e w2 ⟨c,rfl,hf⟩;have AD:Hid (Pz.Ok L i (Pz.pv L .fc i) 1):=Pz.pv_adv L .fc i hle;generalize Pz.pv L .fc i=r0 at *;obtain⟨o,j⟩:=r0;obtain⟨ts2,hE2,hc2,-⟩:=E1.out.go hf (qj _ _ _ _ _) (by intro d hd;cases hd);have E2:=hid hE2;have T2:=hid hc2;rw[Pz.bnd_goL] at PV;have PV2:=hid PV.out;clear hf hE2 hc2 E1 E0 C0 PV;dsimp only;go_wp2_with fail;have E3:=hid (E2.out.box c #[.int .i64 c.a.op,.int .i64 c.a.num,.string c.a.name,.slice c.a.ptr (len c.k) c.a.cap] rfl 24);generalize hxb:w2.heap.size=xb at *;generalize w2.alloc (.cells #[.int .i64 c.a.op,.int .i64 c.a.num,.string c.a.name,.slice c.a.ptr (len c.k) c.a.cap] 24)=w3 at *;clear E2 hxb;have AD2:Hid (i≤j∧j≤L.length):=⟨AD.out.1,AD.out.2.1⟩;clear AD
 go_loopg [5] (L.length - j) (fun g ok wr=>∃(o:Option Ch) (j:Nat) (c:Ch) (ts:List Ch),ok=.bool o.isSome∧Hid (g=L.length - j∧i≤j∧j≤L.length∧Pz.Env w wr sb (fun W=>PSt W sb L p cap j) [] [(xb,c),(w.heap.size,Pz.z0)] ts∧(∀x,o=some x→Pz.nr c=x∧c∈ ts)∧Pz.pv L .tm i=Pz.goL (fun x=>Pz.pv L (.tmL x) j) o j))
 case atStart=>exact⟨o,j,c,ts2,rfl,rfl,AD2.out.1,AD2.out.2,E3.out,T2.out,PV2.out⟩
 case round =>
  clear E3 T2 PV2 AD2;obtain⟨o,j,c,ts,rfl,HR⟩:=hrel;have E4:=hid HR.out.2.2.2.1;obtain⟨xc0,xc1,xc2,xc3,xf0,xf1,xf2,xf3,xlt⟩:=(E4.out.bx (xb,c) (by simp)).1;obtain⟨rc0,rc1,rc2,rc3,rf0,rf1,rf2,rf3,rlt⟩:=(E4.out.bx (w.heap.size,Pz.z0) (by simp)).1;dsimp only at xc0 xc1 xc2 xc3 xf0 xf1 xf2 xf3 xlt rc0 rc1 rc2 rc3 rf0 rf1 rf2 rf3 rlt;have XR:xb≠w.heap.size:=by have:=(List.pairwise_cons.1 E4.out.nd).1 (w.heap.size,Pz.z0) (by simp);exact this
  cases o with
  | none =>
    have hr:Pz.pv L .tm i=(none,j):=HR.out.2.2.2.2.2;have HQ:=hid hr;clear hr;go_wp2;refine bodyPost_ret (v:=.tuple #[.agg #[.int .i64 c.a.op,.int .i64 c.a.num,.string c.a.name,.slice c.a.ptr (len c.k) c.a.cap],.bool false]) ?_ rfl ?_
    ·rw [results_cell_tmp rfl];go_simp
    ·rw [HQ.out];exact⟨c,rfl,Pz.Env.done (E4.out.tail) c none (fun x hx=>by cases hx)⟩
  | some x =>
    obtain⟨hx1,hx2⟩:=HR.out.2.2.2.2.1 x rfl;have T4:=hid (And.intro hx1 hx2);have hr:Pz.pv L .tm i=Pz.pv L (.tmL x) j:=HR.out.2.2.2.2.2;rw[Pz.pv_step L (.tmL x) j HR.out.2.2.1] at hr;unfold Pz.step at hr;dsimp only at hr;have PV5:=hid hr;clear hr hx1 hx2
    by_cases hw0:Pz.isw L j Pz.wStar=true
    ·have PV6:=hid PV5.out;rw[if_pos hw0] at PV6;go_wp2_with fail;refine(qA sb L p cap j _ _ E4.out.st hw0).mono ?_;rintro e w6 ⟨rfl,hs,hg⟩;have E6:=hid (E4.out.grown hs (qj _ _ _ _ _) hg);have hj:=Pz.isw_lt hw0;have B6:=hid hw0;clear hs hg hw0 E4 xc0 xc1 xc2 xc3 xf0 xf1 xf2 xf3 xlt rc0 rc1 rc2 rc3 rf0 rf1 rf2 rf3 rlt;go_wp2_with fail;have E7:=hid (E6.out.box Pz.z0 #[.int .i64 0,.int .i64 0,.string ⟨#[]⟩,.slice none 0 0] rfl 24);generalize hyb:w6.heap.size=yb at *;generalize w6.alloc (.cells #[.int .i64 0,.int .i64 0,.string ⟨#[]⟩,.slice none 0 0] 24)=w7 at *;clear E6 hyb;refine(C1.out (j+1) (by have:=HR.out.2.1;omega) (by omega) sb p cap w7 E7.out.st).mono ?_;rintro e w8 ⟨d,rfl,hf⟩;have AD:Hid (Pz.Ok L (j+1) (Pz.pv L .fc (j+1)) 1):=Pz.pv_adv L .fc (j+1) (by omega);generalize Pz.pv L .fc (j+1)=r0 at *;obtain⟨o,k⟩:=r0;obtain⟨ts8,hE8,hd8,qV⟩:=E7.out.go hf (qj _ _ _ _ _) (by intro d hd;cases hd);have E8:=hid hE8;have T8:=hid hd8;have TX:=hid (qV c T4.out.2);rw[Pz.bnd_goL] at PV6;have PV7:=hid PV6.out;clear hf hE8 hd8 qV E7 PV6 PV5;dsimp only;obtain⟨yc0,yc1,yc2,yc3,yf0,yf1,yf2,yf3,ylt⟩:=(E8.out.bx (yb,Pz.z0) (by simp)).1;obtain⟨xc0,xc1,xc2,xc3,xf0,xf1,xf2,xf3,xlt⟩:=(E8.out.bx (xb,c) (by simp)).1;dsimp only at xc0 xc1 xc2 xc3 xf0 xf1 xf2 xf3 xlt yc0 yc1 yc2 yc3 yf0 yf1 yf2 yf3 ylt;have YX:yb≠xb:=(List.pairwise_cons.1 E8.out.nd).1 (xb,c) (by simp);go_wp2_with fail;have E9:=hid (E8.out.put d);generalize ((((w8.setCell ⟨yb,0,none⟩ (.int .i64 d.a.op)).setCell ⟨yb,1,none⟩ (.int .i64 d.a.num)).setCell ⟨yb,2,none⟩ (.string d.a.name)).setCell ⟨yb,3,none⟩ (.slice d.a.ptr (len d.k) d.a.cap))=w9 at *;refine(zh 10 c d w9).mono ?_;rintro e wa ⟨g,rfl,hg,hb,hcl⟩;obtain⟨tsa,hEa,hna,-⟩:=E9.out.pair hb ⟨T4.out.1,TX.out⟩ T8.out 10 g hg hcl;have Ea:=hid (hEa.tail);have Ta:=hid hna;clear E8 E9 hg hb hcl hEa hna xc0 xc1 xc2 xc3 xf0 xf1 xf2 xf3 xlt yc0 yc1 yc2 yc3 yf0 yf1 yf2 yf3 ylt;obtain⟨xc0,xc1,xc2,xc3,xf0,xf1,xf2,xf3,xlt⟩:=(Ea.out.bx (xb,c) (by simp)).1;dsimp only at xc0 xc1 xc2 xc3 xf0 xf1 xf2 xf3 xlt;go_wp2;have a1:=AD.out.1;have a2:=AD.out.2.1;dsimp only at a1 a2;cases o with
     | none =>
       go_roundg (L.length - k)
       case rel=>exact⟨none,k,(⟨g,0,⟨10,0,⟨#[]⟩,some ⟨g,0,none⟩,2⟩,qC [c,d]⟩:Ch),tsa,rfl,rfl,by have:=HR.out.2.1;omega,a2,Ea.out.put4 (⟨g,0,⟨10,0,⟨#[]⟩,some ⟨g,0,none⟩,2⟩,qC [c,d]⟩:Ch) rfl rfl rfl rfl,(fun y hy=>by cases hy),by rw[PV7.out,Pz.goL_none,Pz.goL_none]⟩
       case measure=>have:=HR.out.1;omega
     | some y =>
       go_roundg (L.length - k)
       case rel=>exact⟨some (Pz.tn 10 [x,y]),k,(⟨g,0,⟨10,0,⟨#[]⟩,some ⟨g,0,none⟩,2⟩,qC [c,d]⟩:Ch),tsa,rfl,rfl,by have:=HR.out.2.1;omega,a2,Ea.out.put4 (⟨g,0,⟨10,0,⟨#[]⟩,some ⟨g,0,none⟩,2⟩,qC [c,d]⟩:Ch) rfl rfl rfl rfl,(fun z hz=>by cases hz;exact Ta.out y rfl),by rw[PV7.out,Pz.goL_some,Pz.goL_some]⟩
       case measure=>have:=HR.out.1;omega
    ·have N0:=hid hw0;have hw0':Pz.isw L j Pz.wStar=false:=(by simpa using hw0);go_wp2_with fail;refine(qM sb L p cap j _ _ E4.out.st hw0').mono ?_;rintro e w50 ⟨rfl,hb⟩;have E50:=hid (E4.out.below hb);clear hb hw0 hw0' xc0 xc1 xc2 xc3 xf0 xf1 xf2 xf3 xlt rc0 rc1 rc2 rc3 rf0 rf1 rf2 rf3 rlt;obtain⟨xc0,xc1,xc2,xc3,xf0,xf1,xf2,xf3,xlt⟩:=(E50.out.bx (xb,c) (by simp)).1;obtain⟨rc0,rc1,rc2,rc3,rf0,rf1,rf2,rf3,rlt⟩:=(E50.out.bx (w.heap.size,Pz.z0) (by simp)).1;dsimp only at xc0 xc1 xc2 xc3 xf0 xf1 xf2 xf3 xlt rc0 rc1 rc2 rc3 rf0 rf1 rf2 rf3 rlt
     by_cases hw1:Pz.isw L j Pz.wSlash=true
     ·have PV6:=hid PV5.out;rw[if_neg N0.out,if_pos hw1] at PV6;go_wp2_with fail;refine(qA sb L p cap j _ _ E50.out.st hw1).mono ?_;rintro e w6 ⟨rfl,hs,hg⟩;have E6:=hid (E50.out.grown hs (qj _ _ _ _ _) hg);have hj:=Pz.isw_lt hw1;have B6:=hid hw1;clear hs hg hw1 E4 xc0 xc1 xc2 xc3 xf0 xf1 xf2 xf3 xlt rc0 rc1 rc2 rc3 rf0 rf1 rf2 rf3 rlt;go_wp2_with fail;have E7:=hid (E6.out.box Pz.z0 #[.int .i64 0,.int .i64 0,.string ⟨#[]⟩,.slice none 0 0] rfl 24);generalize hyb:w6.heap.size=yb at *;generalize w6.alloc (.cells #[.int .i64 0,.int .i64 0,.string ⟨#[]⟩,.slice none 0 0] 24)=w7 at *;clear E6 hyb;refine(C1.out (j+1) (by have:=HR.out.2.1;omega) (by omega) sb p cap w7 E7.out.st).mono ?_;rintro e w8 ⟨d,rfl,hf⟩;have AD:Hid (Pz.Ok L (j+1) (Pz.pv L .fc (j+1)) 1):=Pz.pv_adv L .fc (j+1) (by omega);generalize Pz.pv L .fc (j+1)=r0 at *;obtain⟨o,k⟩:=r0;obtain⟨ts8,hE8,hd8,qV⟩:=E7.out.go hf (qj _ _ _ _ _) (by intro d hd;cases hd);have E8:=hid hE8;have T8:=hid hd8;have TX:=hid (qV c T4.out.2);rw[Pz.bnd_goL] at PV6;have PV7:=hid PV6.out;clear hf hE8 hd8 qV E7 PV6 PV5;dsimp only;obtain⟨yc0,yc1,yc2,yc3,yf0,yf1,yf2,yf3,ylt⟩:=(E8.out.bx (yb,Pz.z0) (by simp)).1;obtain⟨xc0,xc1,xc2,xc3,xf0,xf1,xf2,xf3,xlt⟩:=(E8.out.bx (xb,c) (by simp)).1;dsimp only at xc0 xc1 xc2 xc3 xf0 xf1 xf2 xf3 xlt yc0 yc1 yc2 yc3 yf0 yf1 yf2 yf3 ylt;have YX:yb≠xb:=(List.pairwise_cons.1 E8.out.nd).1 (xb,c) (by simp);go_wp2_with fail;have E9:=hid (E8.out.put d);generalize ((((w8.setCell ⟨yb,0,none⟩ (.int .i64 d.a.op)).setCell ⟨yb,1,none⟩ (.int .i64 d.a.num)).setCell ⟨yb,2,none⟩ (.string d.a.name)).setCell ⟨yb,3,none⟩ (.slice d.a.ptr (len d.k) d.a.cap))=w9 at *;refine(zh 11 c d w9).mono ?_;rintro e wa ⟨g,rfl,hg,hb,hcl⟩;obtain⟨tsa,hEa,hna,-⟩:=E9.out.pair hb ⟨T4.out.1,TX.out⟩ T8.out 11 g hg hcl;have Ea:=hid (hEa.tail);have Ta:=hid hna;clear E8 E9 hg hb hcl hEa hna xc0 xc1 xc2 xc3 xf0 xf1 xf2 xf3 xlt yc0 yc1 yc2 yc3 yf0 yf1 yf2 yf3 ylt;obtain⟨xc0,xc1,xc2,xc3,xf0,xf1,xf2,xf3,xlt⟩:=(Ea.out.bx (xb,c) (by simp)).1;dsimp only at xc0 xc1 xc2 xc3 xf0 xf1 xf2 xf3 xlt;go_wp2;have a1:=AD.out.1;have a2:=AD.out.2.1;dsimp only at a1 a2;cases o with
      | none =>
        go_roundg (L.length - k)
        case rel=>exact⟨none,k,(⟨g,0,⟨11,0,⟨#[]⟩,some ⟨g,0,none⟩,2⟩,qC [c,d]⟩:Ch),tsa,rfl,rfl,by have:=HR.out.2.1;omega,a2,Ea.out.put4 (⟨g,0,⟨11,0,⟨#[]⟩,some ⟨g,0,none⟩,2⟩,qC [c,d]⟩:Ch) rfl rfl rfl rfl,(fun y hy=>by cases hy),by rw[PV7.out,Pz.goL_none,Pz.goL_none]⟩
        case measure=>have:=HR.out.1;omega
      | some y =>
        go_roundg (L.length - k)
        case rel=>exact⟨some (Pz.tn 11 [x,y]),k,(⟨g,0,⟨11,0,⟨#[]⟩,some ⟨g,0,none⟩,2⟩,qC [c,d]⟩:Ch),tsa,rfl,rfl,by have:=HR.out.2.1;omega,a2,Ea.out.put4 (⟨g,0,⟨11,0,⟨#[]⟩,some ⟨g,0,none⟩,2⟩,qC [c,d]⟩:Ch) rfl rfl rfl rfl,(fun z hz=>by cases hz;exact Ta.out y rfl),by rw[PV7.out,Pz.goL_some,Pz.goL_some]⟩
        case measure=>have:=HR.out.1;omega
     ·have N1:=hid hw1;have hw1':Pz.isw L j Pz.wSlash=false:=(by simpa using hw1);go_wp2_with fail;refine(qM sb L p cap j _ _ E50.out.st hw1').mono ?_;rintro e w51 ⟨rfl,hb⟩;have E51:=hid (E50.out.below hb);clear hb hw1 hw1' xc0 xc1 xc2 xc3 xf0 xf1 xf2 xf3 xlt rc0 rc1 rc2 rc3 rf0 rf1 rf2 rf3 rlt;obtain⟨xc0,xc1,xc2,xc3,xf0,xf1,xf2,xf3,xlt⟩:=(E51.out.bx (xb,c) (by simp)).1;obtain⟨rc0,rc1,rc2,rc3,rf0,rf1,rf2,rf3,rlt⟩:=(E51.out.bx (w.heap.size,Pz.z0) (by simp)).1;dsimp only at xc0 xc1 xc2 xc3 xf0 xf1 xf2 xf3 xlt rc0 rc1 rc2 rc3 rf0 rf1 rf2 rf3 rlt;have HQ:=hid PV5.out;rw[if_neg N0.out,if_neg N1.out] at HQ;have E6:=E51;go_wp2;refine bodyPost_ret (v:=.tuple #[.agg #[.int .i64 c.a.op,.int .i64 c.a.num,.string c.a.name,.slice c.a.ptr (len c.k) c.a.cap],.bool true]) ?_ rfl ?_
      ·rw [results_cell_tmp rfl];go_simp
      ·rw [HQ.out];exact⟨c,rfl,Pz.Env.done E6.out.tail c (some x) (fun y hy=>by cases hy;exact T4.out)⟩
end Go.Proofs.YtcejjdmnlejbaaaGreatDoor
