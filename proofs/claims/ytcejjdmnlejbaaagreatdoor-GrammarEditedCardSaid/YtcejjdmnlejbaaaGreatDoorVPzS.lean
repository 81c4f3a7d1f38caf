import Derived.IntWalk
import Derived.Test.YtcejjdmnlejbaaaGreatDoorVTkP
namespace Go.Proofs.YtcejjdmnlejbaaaGreatDoor
open Lib(hid)
set_option linter.unusedVariables false
set_option linter.unusedSimpArgs false
open Go.ChangeShapes Go.WideShapes Go.ChangeAt Go.RowKit
open Go.Deep (BT)
set_option maxHeartbeats 4000000
set_option maxRecDepth 100000
section
theorem zp(s:ByteArray):s.data.toList.length=s.size:=Array.length_toList
theorem getD_at(s:ByteArray)(k:Nat)(h:k < s.size):s.data.toList.getD k 0=s[k]:=by
 rw[List.getD_eq_getElem?_getD,List.getElem?_eq_getElem (by simpa using h)];rfl
theorem vh(l:List UInt8)(a b:Nat):(⟨l.toArray⟩:ByteArray).extract a b=⟨((l.take b).drop a).toArray⟩:=by
 apply ByteArray.ext;simp[List.drop_take]
theorem JR(s:ByteArray):∃l:List UInt8,s=⟨l.toArray⟩∧s.data.toList=l:=⟨s.data.toList,by cases s;simp,rfl⟩
theorem ke(s:ByteArray)(w:World)(hs:s.size≤9223372036854775807) :
 Calls Tryz.prog 125 #[.string s] w fun e w'=>e=.returned (.bool (yY s))∧w=w':=by
 by_cases h1:1≤s.size∧s.size≤16
 ·obtain ⟨h1, h2⟩:=h1;go_enter Tryz.func125,Tryz.ntmps125;go_wp2_with fail
  go_loop [3,4,15,21,28] (fun _ _ i _ _=>∃k:Nat,k≤s.size∧i=.int .i64 k∧Hid (Nam.good s.data.toList k=true)) (fun _ _ i _ _=>s.size - (intOf i).toNat)
  case atStart=>exact⟨0,by omega,rfl,Nam.good_zero _⟩
  case round =>
   obtain⟨k,hk,rfl,HG⟩:=hrel
   by_cases qN:k < s.size
   ·have hst:=Nam.good_step s.data.toList k (by rw[zp];exact qN);rw[HG.out,Bool.true_and,getD_at s k qN] at hst;have ST:=hid hst;clear hst;have SP:Hid (Nam.good s.data.toList (k+1)=false→yY s=false):=fun q=>Nam.good_stop _ k (by rw[zp];exact qN) q;have hi:(k:Int) < (s.size:Int):=(by omega);obtain⟨c,hc⟩:∃c:UInt8,s[k]=c:=⟨_,rfl⟩;rw[hc] at ST;go_wp2
    all_goals first
     | (go_round
        case rel =>
         refine⟨k+1,by omega,by go_num,?_⟩;unfold Hid;rw[ST.out,Bool.or_eq_true,Bool.and_eq_true];simp only[Nam.lowB,Nam.wordB,decide_eq_true_eq]
         try simp only[beq_iff_eq] at *
         omega
        case measure=>simp[intOf];omega)
     | (go_ret
        refine⟨qr (SP.out ?_).symm,rfl⟩;rw[ST.out,Bool.or_eq_false_iff,Bool.and_eq_false_iff];simp only[Nam.lowB,Nam.wordB,decide_eq_false_iff_not]
        try simp only[beq_eq_false_iff_ne] at *
        omega)
   ·have hr:Hid (yY s=true):=by
     have:=HG.out;obtain rfl:k=s.size:=by omega
     rw[← zp,Nam.good_all _ (by rw[zp];exact h1) (by rw[zp];exact h2)] at this;exact this
    go_wp2;go_ret;exact⟨qr hr.out.symm,rfl⟩
 ·have hn:Hid (yY s=false):=by
   unfold Hid yY Nam.isName;rw[zp];exact decide_eq_false (fun q=>h1 ⟨q.1,q.2.1⟩)
  by_cases h2:1≤s.size
  ·have h3:¬s.size≤16:=fun q=>h1 ⟨h2,q⟩;clear h1;go_enter Tryz.func125,Tryz.ntmps125;go_wp2;go_ret;exact⟨qr hn.out.symm,rfl⟩
  ·clear h1;go_enter Tryz.func125,Tryz.ntmps125;go_wp2;go_ret;exact⟨qr hn.out.symm,rfl⟩
theorem uY(s:ByteArray)(w:World) :
 Calls Tryz.prog 140 #[.string s] w fun e w'=>e=.returned (.bool (kS s))∧w=w':=by
 have R:Hid (kS s=(Nam.words.any fun x=>s.toList==x)):=by unfold Hid kS Nam.reserved;rw[Lib.toList_data]
 go_enter Tryz.func140,Tryz.ntmps140;go_wp2
 all_goals
  go_ret;refine⟨qr ?_,rfl⟩;rw[R.out];simp only[Nam.words,List.any_cons,List.any_nil];clear R
  simp_all
theorem yc(s:ByteArray)(w:World)(hs:s.size≤9223372036854775807) :
 Calls Tryz.prog 108 #[.string s] w fun e w'=>e=.returned (.bool (yJ s))∧w=w':=by
 have D:Hid (yJ s=(yY s && !kS s)):=rfl;go_enter Tryz.func108,Tryz.ntmps108;go_wp2_with fail;refine(ke _ _ hs).mono ?_;generalize yY s=x at *;rintro e w' ⟨rfl,rfl⟩;cases x
 ·go_wp2;go_ret;exact⟨qr D.out.symm,rfl⟩
 ·go_wp2_with fail;refine(uY _ _).mono ?_;generalize kS s=y at *;rintro e w' ⟨rfl,rfl⟩;go_wp2;go_ret;exact⟨qr D.out.symm,rfl⟩
theorem YN(l:List UInt8)(c:UInt8)(w:World)(h:Lib.indexByte l c = -1) :
 Calls Tryz.prog 153 #[.string ⟨l.toArray⟩,.string ⟨#[c]⟩] w fun e w'=>e=.returned (.tuple #[.string ⟨l.toArray⟩,.string ⟨#[]⟩,.bool false])∧∃n,w'=w.drewN n:=by
 have H:=hid h;clear h;go_enter Tryz.func153,Tryz.ntmps153;go_wp2_with (go_at_call 169;refine(Tryz.stringslite_Index_one _ _ _).mono ?_;rintro e w' ⟨rfl,rfl⟩;rw[show Lib.indexByte _ _=_ from H.out])
 go_ret3
 exact⟨rfl,0,rfl⟩
theorem YM(l:List UInt8)(c:UInt8)(k:Nat)(w:World)(hl:l.length≤9223372036854775807)(h:Lib.indexByte l c=k)(hk:k < l.length) :
 Calls Tryz.prog 153 #[.string ⟨l.toArray⟩,.string ⟨#[c]⟩] w fun e w'=>e=.returned (.tuple #[.string ⟨(l.take k).toArray⟩,.string ⟨(l.drop (k+1)).toArray⟩,.bool true])∧∃n,w'=w.drewN n:=by
 have H:=hid h;clear h;have c1:(0:Int)≤↑k:=by omega
 have c2:(↑k:Int)≤↑l.length:=by omega
 have c3:(0:Int)≤↑k+1:=by omega
 have c4:(↑k+1:Int)≤↑l.length:=by omega
 go_enter Tryz.func153,Tryz.ntmps153;go_wp2_with (go_at_call 169;refine(Tryz.stringslite_Index_one _ _ _).mono ?_;rintro e w' ⟨rfl,rfl⟩;rw[show Lib.indexByte _ _=_ from H.out])
 go_quiet (fail)
 go_wp2
 go_ret3
 refine⟨?_,nq,rfl⟩;rw[vh,vh,List.drop_zero,List.take_length];rfl
theorem cut_none(l:List UInt8)(c:UInt8)(w:World)(h:Lib.indexByte l c = -1) :
 Calls Tryz.prog 124 #[.string ⟨l.toArray⟩,.string ⟨#[c]⟩] w fun e w'=>e=.returned (.tuple #[.string ⟨l.toArray⟩,.string ⟨#[]⟩,.bool false])∧∃n,w'=w.drewN n:=by
 have H:=hid h;clear h;go_enter Tryz.func124,Tryz.ntmps124;go_wp2_with (go_at_call 153;refine(YN _ _ _ H.out).mono ?_;rintro e w' ⟨rfl,n,rfl⟩)
 go_ret3
 exact⟨rfl,n,rfl⟩
theorem JM(l:List UInt8)(c:UInt8)(k:Nat)(w:World)(hl:l.length≤9223372036854775807)(h:Lib.indexByte l c=k)(hk:k < l.length) :
 Calls Tryz.prog 124 #[.string ⟨l.toArray⟩,.string ⟨#[c]⟩] w fun e w'=>e=.returned (.tuple #[.string ⟨(l.take k).toArray⟩,.string ⟨(l.drop (k+1)).toArray⟩,.bool true])∧∃n,w'=w.drewN n:=by
 have H:=hid h;clear h;go_enter Tryz.func124,Tryz.ntmps124;go_wp2_with (go_at_call 153;refine(YM _ _ _ _ hl H.out hk).mono ?_;rintro e w' ⟨rfl,n,rfl⟩)
 go_ret3
 exact⟨rfl,n,rfl⟩
theorem below_drewN{B:Nat}{a w:World}(h:Below B a w)(n:Nat):Below B a (w.drewN n):=⟨h.os,h.tape,h.output,h.size,h.block⟩
theorem kf(s:ByteArray)(w:World)(hs:s.size≤9223372036854775807) :
 Calls Tryz.prog 76 #[.string s] w fun e w'=>e=.returned (.bool (zY s))∧Below w.heap.size w w':=by
 obtain⟨l,rfl,hl⟩:=JR s;clear hl;have hl:l.length≤9223372036854775807:=hs;rcases Nam.ix_cases l 46 with h|⟨k,h,hk⟩
 ·have A:Hid (zY ⟨l.toArray⟩=yJ ⟨l.toArray⟩):=by
   show Nam.attr l=Nam.declName l
   unfold Nam.attr;rw[if_pos h]
  have H:=hid h;clear h;go_enter Tryz.func76,Tryz.ntmps76;go_wp2_with fail;refine(cut_none _ _ _ H.out).mono ?_;rintro e w' ⟨rfl,n,rfl⟩;go_wp2_with fail;refine(yc _ _ hs).mono ?_;rw[← A.out];rintro e w1 ⟨rfl,rfl⟩;go_wp2;go_ret;exact⟨rfl,below_drewN (Below.refl _ _) n⟩
 ·have A:Hid (zY ⟨l.toArray⟩=(yY ⟨(l.take k).toArray⟩ && yY ⟨(l.drop (k+1)).toArray⟩)):=by
   show Nam.attr l=(Nam.isName (l.take k) && Nam.isName (l.drop (k+1)))
   unfold Nam.attr;rw[if_neg (by omega),h];rfl
  have H:=hid h;clear h;go_enter Tryz.func76,Tryz.ntmps76;go_wp2_with fail;refine(JM _ _ _ _ hl H.out hk).mono ?_;rintro e w' ⟨rfl,n,rfl⟩;have z1:(l.take k).length≤9223372036854775807:=(by simp;omega);have z2:(l.drop (k+1)).length≤9223372036854775807:=(by simp;omega);generalize l.take k=l1 at *;generalize l.drop (k+1)=l2 at *;go_wp2_with fail;refine(ke _ _ (by exact z1)).mono ?_;generalize yY ⟨l1.toArray⟩=x at *;rintro e w1 ⟨rfl,rfl⟩;cases x
  ·go_wp2;go_ret;exact⟨qr A.out.symm,below_drewN (Below.refl _ _) n⟩
  ·go_wp2_with fail;refine(ke _ _ (by exact z2)).mono ?_;generalize yY ⟨l2.toArray⟩=y at *;rintro e w1 ⟨rfl,rfl⟩;go_wp2;go_ret;exact⟨qr (by rw[A.out];simp),below_drewN (Below.refl _ _) n⟩
end
section
theorem xj(op n:Int)(w:World) :
 Calls Tryz.prog 75 #[.int .i64 op,.int .i64 n] w fun e w'=>e=.returned (.bool (jM op n))∧w=w':=by
 go_enter Tryz.func75,Tryz.ntmps75;go_wp2
 all_goals
  go_ret;refine⟨qr ?_,rfl⟩;simp only[beq_iff_eq,beq_eq_false_iff_ne] at *;unfold jM
  (repeat' split)<;>first|(exfalso;omega)|rfl|(rw[Bool.eq_iff_iff];simp)
def WfC(b o:Nat)(a:Nd)(k:Fo):Prop:=∀(w:World),ExAt w b o a k→yS a k→
 Calls Tryz.prog 32 #[.agg #[.int .i64 a.op,.int .i64 a.num,.string a.name,.slice a.ptr (len k) a.cap]] w fun e w'=>e=.returned (.bool (jN a (len k) && jO k))∧Below w.heap.size w w'
theorem uj(a:Nd)(k:Fo)(n:Int)(h:jM a.op n=false):(jN a n && jO k)=false:=by unfold jN;rw[h];simp
theorem ui(a:Nd)(k:Fo)(n:Int)(h:jy a.op a.num=false):(jN a n && jO k)=false:=by unfold jN;rw[h];simp
theorem uh(a:Nd)(k:Fo)(n:Int)(h:jh a.op a.name=false):(jN a n && jO k)=false:=by unfold jN;rw[h];simp
theorem uk(a:Nd)(k:Fo)(n:Int)(h:¬(1≤a.op∧a.op≤22)):(jN a n && jO k)=false:=by unfold jN;rw[decide_eq_false h];simp
theorem QO(a:Nd)(k:Fo)(n:Int)(h0:1≤a.op∧a.op≤22)(h1:jM a.op n=true)(h2:jy a.op a.num=true)(h3:jh a.op a.name=true):(jN a n && jO k)=jO k:=by unfold jN;rw[decide_eq_true h0,h1,h2,h3];simp
theorem uH(s:ByteArray):s.toList.isEmpty=decide (s.size=0):=by
 rw[Lib.toList_data,← zp];cases s.data.toList<;>simp
theorem KU(b o:Nat)(a:Nd)(k:Fo):WfC b o a k:=by
 refine kz (P:=WfC) ?_ b o a k;clear b o a k;intro b o a k ih w hx hok;obtain⟨op,num,name,ptr,cap⟩:=a
 show Calls Tryz.prog 32 #[.agg #[.int .i64 op,.int .i64 num,.string name,.slice ptr (len k) cap]] w _
 have IH:=hid ih;have HX:=hid hx;have HOK:=hid hok;clear ih hx hok;have hk:len k≤9223372036854775807:=HOK.out.1.2.2.2;have hs:name.size≤9223372036854775807:=HOK.out.1.2.2.1;have F0:=hid (uk ⟨op,num,name,ptr,cap⟩ k (len k));have F1:=hid (uj ⟨op,num,name,ptr,cap⟩ k (len k));have F2:=hid (ui ⟨op,num,name,ptr,cap⟩ k (len k));have F3:=hid (uh ⟨op,num,name,ptr,cap⟩ k (len k));have FT:=hid (QO ⟨op,num,name,ptr,cap⟩ k (len k));dsimp only at F0 F1 F2 F3 FT;generalize (jN ⟨op,num,name,ptr,cap⟩ (len k) && jO k)=RES at *
 by_cases h1:1≤op∧op≤22
 ·cases hA : jM op (len k)
  ·have R:=hid (F1.out hA);have HA:=hid hA;clear hA;obtain⟨h1,h2⟩:=h1;go_enter Tryz.func32,Tryz.ntmps32;go_wp2_with (go_at_call 75;refine(xj _ _ _).mono ?_;rw[HA.out];rintro e w' ⟨rfl,rfl⟩);go_ret;exact⟨qr R.out.symm,(Below.refl _ _).alloc (Nat.le_refl _) _⟩
  ·have HA := hid hA;have H1:=hid h1;clear hA;obtain⟨h1,h2⟩:=h1;go_enter Tryz.func32,Tryz.ntmps32
   go_upto_block 0 with (go_at_call 75;refine(xj _ _ _).mono ?_;rw[HA.out];rintro e w' ⟨rfl,rfl⟩)
   go_cut [2] (fun v wx=>v=.bool false∧wx=w.alloc (.cells #[.int .i64 op,.int .i64 num,.string name,.slice ptr (len k) cap] 24)∧Hid (jy op num=true))
   case first =>
    go_wp2
    all_goals first
     | (go_ret
        refine⟨qr (F2.out ?_).symm,(Below.refl _ _).alloc (Nat.le_refl _) _⟩
        go_light
        simp only[beq_iff_eq,beq_eq_false_iff_ne,bne_iff_ne] at *;unfold jy
        (repeat' split)<;>first|(exfalso;omega)|(simp only[decide_eq_false_iff_not];omega))
     | (go_meet
        refine⟨rfl,rfl,?_⟩
        go_light
        simp only[beq_iff_eq,beq_eq_false_iff_ne,bne_eq_false_iff_eq] at *;unfold Hid jy
        (repeat' split)<;>first|(exfalso;omega)|(simp only[decide_eq_true_eq];omega))
   case rest =>
    obtain⟨rfl,rfl,HN⟩:=hcut
    go_upto_if 50 with (fail)
    go_cut [2] (fun v wx=>v=.bool false∧Hid (Below (w.heap.size+1) (w.alloc (.cells #[.int .i64 op,.int .i64 num,.string name,.slice ptr (len k) cap] 24)) wx∧jh op name=true))
    case first =>
     by_cases h6:op=6
     ·have b6:(op==6)=true:=by simp[h6]
      cases hT:zY name
      ·have R:=hid (F3.out (by unfold jh;rw[if_pos h6];exact hT));have HT:=hid hT;clear hT h6;go_wp2_with (go_at_call 76;refine(kf _ _ hs).mono ?_;rw[HT.out];rintro e w1 ⟨rfl,hb⟩);go_ret;exact⟨qr R.out.symm,((Below.refl _ _).alloc (Nat.le_refl _) _).trans (hb.mono (by simp))⟩
      ·have R:Hid (jh op name=true):=by unfold Hid jh;rw[if_pos h6];exact hT
       have HT:=hid hT;clear hT h6;go_wp2_with (go_at_call 76;refine(kf _ _ hs).mono ?_;rw[HT.out];rintro e w1 ⟨rfl,hb⟩)
       go_meet
       exact⟨rfl,hb.mono (by simp),R.out⟩
     ·have b6:(op==6)=false:=by simp[h6]
      have E:=uH name
      by_cases h0:name.size=0
      ·have e1:name.toList.isEmpty=true:=by rw[E];simp[h0]
       have e2:(!name.toList.isEmpty)=false:=(by rw[e1];rfl);have R:Hid (jh op name=true):=(by unfold Hid jh;rw[if_neg h6];simp[h0]);clear E h0 h6;go_wp2
       go_meet
       exact⟨rfl,Below.refl _ _,R.out⟩
      ·have e1:name.toList.isEmpty=false:=by rw[E];simp[h0]
       have e2:(!name.toList.isEmpty)=true:=(by rw[e1];rfl);have R:=hid (F3.out (by unfold jh;rw[if_neg h6];simp[h0]));clear E h0 h6;go_wp2;go_ret;exact⟨qr R.out.symm,(Below.refl _ _).alloc (Nat.le_refl _) _⟩
    case rest =>
     obtain⟨rfl,HB⟩:=hcut;have R:=hid (FT.out H1.out HA.out HN.out HB.out.2)
     have hc3:wc.cell? ⟨w.heap.size,3,none⟩=some (.slice ptr (len k) cap):=by
      rw[HB.out.1.cell (p:=⟨w.heap.size,3,none⟩) (by simp)];simp
     have BW:Hid (Below w.heap.size w wc):=((Below.refl _ _).alloc (Nat.le_refl _) _).trans (HB.out.1.mono (by omega));have XW:=hid (HX.out.next BW.out);clear F0 F1 F2 F3 FT HN HA H1 h1 h2 HB;go_wp2_with fail
     go_loopw [4,61] (fun _ i wr=>∃(j:Nat) (r:Fo),i=.int .i64 j∧
      Hid (j+len r=len k∧FoAt wr r b (o+j * 4)∧jV r∧vo WfC r∧Below w.heap.size w wr∧RES=jO r)) (fun _ i _=>len k - (intOf i).toNat)
     case atStart =>
      exact⟨0,k,rfl,by omega,by rw[Nat.zero_mul,Nat.add_zero];exact XW.out.2,HOK.out.2,IH.out,BW.out,R.out⟩
     case round =>
      obtain⟨j,r,rfl,HR⟩:=hrel;cases r with
      | nil =>
        have hj:¬(j:Int) < (len k:Int):=(by have:=HR.out.1;simp[len] at this;omega);go_wp2;go_ret;exact⟨qr (by rw[HR.out.2.2.2.2.2];rfl),HR.out.2.2.2.2.1⟩
      | node b1 o1 a1 k1 r1 =>
        have hj:j < len k:=(by have:=HR.out.1;simp[len] at this;omega);obtain rfl:ptr=some ⟨b,o,none⟩:=HX.out.1 (by rintro rfl;simp[len] at hj);obtain⟨⟨c0,c1,c2,c3⟩,hp1,hk1,hr1⟩:=HR.out.2.1;have X1:Hid (ExAt wr b1 o1 a1 k1):=⟨hp1,hk1⟩;have N1:=hid hr1;clear hp1 hk1 hr1;have hj1:(j:Int) < (len k:Int):=(by omega);have hbw:=block_lt_of_cell c0;simp at hbw;go_wp2_with fail;refine(HR.out.2.2.2.1.1 _ (X1.out.next ((Below.refl _ _).alloc (Nat.le_refl _) _)) ⟨HR.out.2.2.1.1,HR.out.2.2.1.2.1⟩).mono ?_;rintro e w1 ⟨he,hb⟩;have B1:Hid (Below wr.heap.size wr w1):=((Below.refl _ _).alloc (Nat.le_refl _) _).trans (hb.mono (by simp));have Z:Hid (RES=((jN a1 (len k1) && jO k1) && jO r1)):=HR.out.2.2.2.2.2;clear hb c0 c1 c2 c3;generalize (jN a1 (len k1) && jO k1)=y at *;subst he;cases y
        ·go_wp2;go_ret;exact⟨qr (by rw[Z.out];rfl),HR.out.2.2.2.2.1.trans (B1.out.mono HR.out.2.2.2.2.1.size)⟩
        ·go_wp2
         go_roundw
         case rel =>
          obtain⟨q1,-,q3,q4,q5,-⟩:=HR.out;simp[len] at q1;refine⟨j+1,r1,by go_num,by omega,?_,q3.2.2,q4.2,q5.trans (B1.out.mono q5.size),by rw[Z.out];rfl⟩;rw[Nat.add_mul,Nat.one_mul,← Nat.add_assoc];exact N1.out.next B1.out
         case measure=>simp[intOf];omega
 ·have R:=hid (F0.out h1);have h2:op < 1∨22 < op:=(by omega);rcases h2 with h2|h2
  ·go_enter Tryz.func32,Tryz.ntmps32;go_wp2;go_ret;exact⟨qr R.out.symm,(Below.refl _ _).alloc (Nat.le_refl _) _⟩
  ·have h3:¬op < 1:=by omega
   clear h1;go_enter Tryz.func32,Tryz.ntmps32;go_wp2;go_ret;exact⟨qr R.out.symm,(Below.refl _ _).alloc (Nat.le_refl _) _⟩
end
section
theorem jq(b o:Nat)(op num:Int)(name:ByteArray)(ptr:Option Addr)(cap:Nat)(k:Fo)(w:World)(hx:ExAt w b o ⟨op,num,name,ptr,cap⟩ k)(hok:yS ⟨op,num,name,ptr,cap⟩ k) :
 Calls Tryz.prog 12 #[.agg #[.int .i64 op,.int .i64 num,.string name,.slice ptr (len k) cap]] w fun e w'=>e=.returned (.int .i64 (yF ⟨op,num,name,ptr,cap⟩ k))∧Below w.heap.size w w':=by
 have B0:Below w.heap.size w ((w.alloc (.cells #[.int .i64 op,.int .i64 num,.string name,.slice ptr (len k) cap] 24)).alloc (.cells #[.int .i64 0] 3)):=((Below.refl _ _).alloc (Nat.le_refl _) _).alloc (by simp) _;have X0:=hx.next B0
 have L0:FoLt (w.heap.size+1) k b:=hx.2.lt.mono (by omega);have C1:=JH b o ⟨op,num,name,ptr,cap⟩ k _ (w.heap.size+1) 0 1 X0 hok L0 (by simp[go_sem]) (by simp[go_sem]) (by omega) (by omega) (by omega) (by omega);have HC:=hid C1;have HB:=hid B0;have HX:=hid hx;have HOK:=hid hok;clear C1 B0 X0 hx hok L0;have V:Hid (yF ⟨op,num,name,ptr,cap⟩ k=if fitB 0 1 k=true then (if (jN ⟨op,num,name,ptr,cap⟩ (len k) && jO k)=true then 0 else 1) else 10):=rfl;go_enter Tryz.func12,Tryz.ntmps12;go_wp2_with fail;refine HC.out.mono ?_;rintro e w1 ⟨he,-,-,hg⟩;have B1:Below w.heap.size w w1:=HB.out.grown hg (by simp;omega) (by rintro k' h;simp at h;omega)
 have hc:∀j v,(#[Value.int .i64 op,.int .i64 num,.string name,.slice ptr (len k) cap]:Array Value)[j]?=some v→w1.cell? ⟨w.heap.size,j,none⟩=some v:=by
  intro j v hv;exact hg.cell (by simp[go_sem,hv]) (by simp)
 have c0:=hc 0 _ rfl;have c1:=hc 1 _ rfl;have c2:=hc 2 _ rfl;have c3:=hc 3 _ rfl;clear hc hg HC;subst he;cases hf:fitB 0 1 k
 ·have HF:=hid hf;clear hf;go_wp2;go_ret;exact⟨qh (by rw[V.out,HF.out];rfl),B1⟩
 ·have HF:=hid hf;clear hf;have C2:=KU b o ⟨op,num,name,ptr,cap⟩ k w1 (HX.out.next B1) HOK.out;have HW:=hid C2;clear C2;generalize (jN ⟨op,num,name,ptr,cap⟩ (len k) && jO k)=y at *;go_wp2_with fail;refine HW.out.mono ?_;rintro e w2 ⟨rfl,hb⟩;have B2:=B1.trans (hb.mono B1.size);clear hb c0 c1 c2 c3;cases y
  ·go_wp2;go_ret;exact⟨qh (by rw[V.out,HF.out];rfl),B2⟩
  ·go_wp2;go_ret;exact⟨qh (by rw[V.out,HF.out];rfl),B2⟩
end
def TkB(w:World)(L:List Tk.T4)(p:Option Addr)(s:Nat):Prop:=L.length≤400∧(L≠[]→∃g O,p=some ⟨g,O,none⟩∧g < s∧∀j u,(jQ L)[j]?=some u→w.cell? ⟨g,O+j,none⟩=some u)
theorem TkB.below{w w':World}{L:List Tk.T4}{p:Option Addr}{s B0:Nat}(h:TkB w L p s)(hb:Below B0 w w')(hs:s≤B0):TkB w' L p s:=by
 refine⟨h.1,fun q=>?_⟩;obtain⟨g,O,e,hg,hc⟩:=h.2 q;refine⟨g,O,e,hg,fun j u hu=>?_⟩;rw[hb.cell (p:=⟨g,O+j,none⟩) (Nat.lt_of_lt_of_le hg hs)];exact hc j u hu
theorem TkB.get{w:World}{L:List Tk.T4}{p:Option Addr}{s:Nat}(h:TkB w L p s){i:Nat}{t:Tk.T4}(hi:L[i]?=some t):∃g O,p=some ⟨g,O,none⟩∧g < s∧
 w.cell? ⟨g,O+i * 4,none⟩=some (.int .i64 t.t.kind)∧w.cell? ⟨g,O+i * 4+1,none⟩=some (.string t.t.text)∧w.cell? ⟨g,O+i * 4+2,none⟩=some (.int .i64 t.t.num)∧w.cell? ⟨g,O+i * 4+3,none⟩=some (.int .i64 t.at'):=by
 obtain⟨g,O,e,hg,hc⟩:=h.2 (by intro q;rw[q] at hi;simp at hi);obtain⟨c0,c1,c2,c3⟩:=QQ L i t hi;exact⟨g,O,e,hg,hc _ _ c0,by rw[Nat.add_assoc];exact hc _ _ c1,by rw[Nat.add_assoc];exact hc _ _ c2,by rw[Nat.add_assoc];exact hc _ _ c3⟩
structure PSt (w:World) (sb:Nat) (L:List Tk.T4) (p:Option Addr) (cap i:Nat):Prop where
 c0:w.cell? ⟨sb,0,none⟩=some (.slice p L.length cap)
 c1:w.cell? ⟨sb,1,none⟩=some (.int .i64 i)
 f1:w.frozen? ⟨sb,1,none⟩=false
 lt:sb < w.heap.size
 ls:TkB w L p sb
 le:i≤L.length
theorem PSt.below{w w':World}{sb:Nat}{L:List Tk.T4}{p:Option Addr}{cap i B0:Nat}(h:PSt w sb L p cap i)(hb:Below B0 w w')(hs:sb < B0):PSt w' sb L p cap i where
 c0:=by rw[hb.cell (p:=⟨sb,0,none⟩) hs];exact h.c0
 c1:=by rw[hb.cell (p:=⟨sb,1,none⟩) hs];exact h.c1
 f1:=by rw[hb.frozen (p:=⟨sb,1,none⟩) hs];exact h.f1
 lt:=Nat.lt_of_lt_of_le h.lt hb.size
 ls:=h.ls.below hb (Nat.le_of_lt hs)
 le:=h.le
theorem PSt.next{w w':World}{sb:Nat}{L:List Tk.T4}{p:Option Addr}{cap i:Nat}(h:PSt w sb L p cap i)(hb:Below w.heap.size w w'):PSt w' sb L p cap i:=h.below hb h.lt
theorem PSt.step{w:World}{sb:Nat}{L:List Tk.T4}{p:Option Addr}{cap i:Nat}(h:PSt w sb L p cap i)(hi:i < L.length):PSt (w.setCell ⟨sb,1,none⟩ (.int .i64 ((i:Int)+1))) sb L p cap (i+1)∧w.grownBy (w.setCell ⟨sb,1,none⟩ (.int .i64 ((i:Int)+1))) (some sb):=by
 have h0:=h.c0;have h1:=h.c1;have hf:=h.f1;refine⟨⟨by simp[go_sem,h0,h1],by simp[go_sem,h1],by simp[go_sem,hf],by simp[World.setCell];exact h.lt,h.ls.below ((Below.refl _ _).setCell (Nat.le_refl _) _) (Nat.le_refl _),hi⟩,?_⟩;exact⟨rfl,rfl,rfl,by simp[World.setCell],fun k hk hr=>Below.heap_setCell _ _ _ _ (fun e=>hr (by rw[e]))⟩
theorem xW{L:List Tk.T4}{i:Nat}{s:ByteArray}(h:L.length≤i):Pz.isw L i s=false:=by
 unfold Pz.isw;rw[List.getElem?_eq_none h]
theorem Q5{L:List Tk.T4}{i:Nat}{s:ByteArray}{t:Tk.T4}(h:L[i]?=some t):Pz.isw L i s=((decide (t.t.kind=1) || decide (t.t.kind=5)) && decide (t.t.text.data.toList=s.data.toList)):=by
 unfold Pz.isw;rw[h]
theorem vN(sb:Nat)(L:List Tk.T4)(p:Option Addr)(cap i:Nat)(s:ByteArray)(w:World)(h:PSt w sb L p cap i) :
 Calls Tryz.prog 127 #[.pointer (some ⟨sb,0,none⟩),.string s] w fun e w'=>e=.returned (.bool (Pz.isw L i s))∧Below w.heap.size w w':=by
 have H:=hid h;have c0:=h.c0;have c1:=h.c1;have qN:=h.lt;have hL:L.length≤400:=h.ls.1;have hle:=h.le;clear h
 by_cases hi:i < L.length
 ·have hi':¬(L.length:Int)≤(i:Int):=by omega
  have hi2:(i:Int) < (L.length:Int):=(by omega);have hi3:(0:Int)≤(i:Int):=(by omega);obtain⟨t,ht⟩:∃t,L[i]?=some t:=⟨_,List.getElem?_eq_getElem hi⟩;obtain⟨g,O,rfl,hg,d0,d1,d2,d3⟩:=H.out.ls.get ht;have HI:=hid (Q5 (s:=s) ht);have hd:=block_lt_of_cell d0;simp at hd;clear ht;go_enter Tryz.func127,Tryz.ntmps127;go_wp2_with fail
  go_quiet (fail)
  go_wp2_with fail;have B1:Hid (Below w.heap.size w (w.drewN nq)):=below_drewN (Below.refl _ _) _;have z1:w.heap.size≤(w.drewN nq).heap.size:=B1.out.size;have c0:(w.drewN nq).cell? ⟨sb,0,none⟩=some (.slice (some ⟨g,O,none⟩) L.length cap):=c0;have c1:(w.drewN nq).cell? ⟨sb,1,none⟩=some (.int .i64 i):=c1;have d0:(w.drewN nq).cell? ⟨g,O+i * 4,none⟩=some (.int .i64 t.t.kind):=d0;have d1:(w.drewN nq).cell? ⟨g,O+i * 4+1,none⟩=some (.string t.t.text):=d1;have d2:(w.drewN nq).cell? ⟨g,O+i * 4+2,none⟩=some (.int .i64 t.t.num):=d2;have d3:(w.drewN nq).cell? ⟨g,O+i * 4+3,none⟩=some (.int .i64 t.at'):=d3;generalize w.drewN nq=w1 at *;have n0:=World.new_ne w1 ⟨sb,0,none⟩ c0;have n1:=World.new_ne w1 ⟨sb,1,none⟩ c1;have m0:=World.new_ne w1 ⟨g,O+i * 4,none⟩ d0
  go_region_held3 (fun w'=>w'.cell? ⟨sb,0,none⟩=some (.slice (some ⟨g,O,none⟩) L.length cap)∧w'.cell? ⟨sb,1,none⟩=some (.int .i64 i)∧w'.cell? ⟨g,O+i * 4,none⟩=some (.int .i64 t.t.kind)∧w'.cell? ⟨g,O+i * 4+1,none⟩=some (.string t.t.text)∧w'.cell? ⟨g,O+i * 4+2,none⟩=some (.int .i64 t.t.num)∧w'.cell? ⟨g,O+i * 4+3,none⟩=some (.int .i64 t.at')) (go_keep) (fail)
  clear c0 c1 d0 d1 d2 d3;go_wp2
  all_goals
   go_ret;refine⟨qr ?_,(B1.out.drew).alloc z1 _⟩;rw[HI.out]
   first|(simp[*,Lib.toList_data];done)|(simp[*,Lib.toList_data];rw[Bool.eq_iff_iff];simp;done)|(simp[*,Lib.toList_data];rw[Bool.eq_iff_iff,beq_iff_eq,decide_eq_true_eq])
 ·have hi':(L.length:Int)≤(i:Int):=by omega
  go_enter Tryz.func127,Tryz.ntmps127;go_wp2_with fail
  go_quiet (fail)
  go_wp2;go_ret;exact⟨qr (xW (by omega)).symm,below_drewN (Below.refl _ _) _⟩
theorem qF(sb:Nat)(L:List Tk.T4)(p:Option Addr)(cap i:Nat):∀W W':World,PSt W sb L p cap i→Below (sb+1) W W'→PSt W' sb L p cap i:=fun W W' h hb=>h.below hb (Nat.lt_succ_self _)
theorem qQ(sb:Nat)(L:List Tk.T4)(p:Option Addr)(cap i:Nat)(s:ByteArray)(w:World)(h:PSt w sb L p cap i)(hq:Pz.isw L i s=false) :
 Calls Tryz.prog 81 #[.pointer (some ⟨sb,0,none⟩),.string s] w fun e w'=>e=.returned (.bool false)∧Below w.heap.size w w':=by
 have PK:=hid (vN sb L p cap i s w h);rw[hq] at PK;clear h hq;go_enter Tryz.func81,Tryz.ntmps81;go_wp2_with fail;refine PK.out.mono ?_;rintro e w1 ⟨rfl,hb⟩;have B:=hid hb;clear hb;go_wp2;go_ret;exact⟨rfl,B.out⟩
theorem qK(sb:Nat)(L:List Tk.T4)(p:Option Addr)(cap i:Nat)(s:ByteArray)(w:World)(h:PSt w sb L p cap i)(hq:Pz.isw L i s=true) :
 Calls Tryz.prog 81 #[.pointer (some ⟨sb,0,none⟩),.string s] w fun e w'=>e=.returned (.bool true)∧PSt w' sb L p cap (i+1)∧w.grownBy w' (some sb):=by
 have PK:=hid (vN sb L p cap i s w h);have hi:=Pz.isw_lt hq;have H:=hid h;have hL:=h.ls.1;rw[hq] at PK;clear h hq;go_enter Tryz.func81,Tryz.ntmps81;go_wp2_with fail;refine PK.out.mono ?_;rintro e w1 ⟨rfl,hb⟩;have S1:=hid (H.out.next hb);have G1:Hid (w.grownBy w1 (some sb)):=yT hb _;have c1:=S1.out.c1;have f1:=S1.out.f1;have qN:=S1.out.lt;clear hb;go_wp2;go_ret;exact⟨rfl,(S1.out.step hi).1,zO G1.out (S1.out.step hi).2⟩
theorem zk(op:Int)(a b:Ch)(w:World) :
 Calls Tryz.prog 82 #[.int .i64 op,.agg #[.int .i64 a.a.op,.int .i64 a.a.num,.string a.a.name,.slice a.a.ptr (len a.k) a.a.cap],.agg #[.int .i64 b.a.op,.int .i64 b.a.num,.string b.a.name,.slice b.a.ptr (len b.k) b.a.cap]] w fun e w' =>
  ∃g,e=.returned (.agg #[.int .i64 op,.int .i64 0,.string ⟨#[]⟩,.slice (some ⟨g,0,none⟩) 2 2])∧w.heap.size≤g∧Below w.heap.size w w'∧∀j u,(zR [a,b])[j]?=some u→w'.cell? ⟨g,j,none⟩=some u:=by
 go_enter Tryz.func82,Tryz.ntmps82;go_wp2;refine bodyPost_ret (v:=.agg #[.int .i64 op,.int .i64 0,.string ⟨#[]⟩,.slice (some ⟨w.heap.size+3,0,none⟩) 2 2]) ?_ rfl ⟨_,rfl,by omega,?_,?_⟩
 ·rw [qd rfl];go_simp
 ·exact((((Below.refl _ _).alloc (Nat.le_refl _) _).alloc (by simp) _).alloc (by simp;omega) _).alloc (by simp;omega) _
 ·intro j u hu;have hu':(zR [a,b]).toArray[j]?=some u:=(by rw[List.getElem?_toArray];exact hu);have e:=World.cell?_alloc_new (((w.alloc (.cells #[.int .i64 a.a.op,.int .i64 a.a.num,.string a.a.name,.slice a.a.ptr (len a.k) a.a.cap] 24)).alloc (.cells #[.int .i64 b.a.op,.int .i64 b.a.num,.string b.a.name,.slice b.a.ptr (len b.k) b.a.cap] 24)).alloc (.cells #[.int .i64 op,.int .i64 0,.string ⟨#[]⟩,.slice (some ⟨w.heap.size+3,0,none⟩) 2 2] 24)) (zR [a,b]).toArray 24 j;simp only[World.size_alloc] at e;rw[← hu'];exact e
end Go.Proofs.YtcejjdmnlejbaaaGreatDoor
