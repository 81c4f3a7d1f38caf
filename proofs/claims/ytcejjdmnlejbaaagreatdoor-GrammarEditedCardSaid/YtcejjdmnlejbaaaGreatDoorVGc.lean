import Derived.Test.YtcejjdmnlejbaaaGreatDoorVPzS
namespace Go.Proofs.YtcejjdmnlejbaaaGreatDoor
open Lib(hid)
set_option linter.unusedVariables false
set_option linter.unusedSimpArgs false
open Go.ChangeShapes Go.WideShapes Go.ChangeAt Go.RowKit
open Go.Deep (BT)
set_option maxHeartbeats 4000000
set_option maxRecDepth 100000
section
def Yj(w:World)(lv:Int)(k:Fo)(e:Ending)(w':World):Prop :=
 ∃n d:Int,e=.returned (.tuple #[.int .i64 n,.int .i64 d])∧1≤n∧n≤200 * (17 - lv)+1∧1≤d∧d≤18 - lv∧(n≤200∧d+lv - 1≤16↔1+(sz k:Int)≤200∧lv+dp k≤16)∧(n≤200→d+lv - 1≤16→n=1+sz k)∧Below w.heap.size w w'
def Uv(b o:Nat)(a:Nd)(k:Fo):Prop:=∀(w:World)(lv:Int),ExAt w b o a k→yS a k→1≤lv→lv≤17→
 Calls Tryz.prog 77 #[.agg #[.int .i64 a.op,.int .i64 a.num,.string a.name,.slice a.ptr (len k) a.cap],.int .i64 lv] w (Yj w lv k)
theorem Kd(b o:Nat)(a:Nd)(k:Fo):Uv b o a k:=by
 refine kz (P:=Uv) ?_ b o a k;clear b o a k;intro b o a k ih w lv hx hok h1 h2;obtain⟨op,num,name,ptr,cap⟩:=a
 show Calls Tryz.prog 77 #[.agg #[.int .i64 op,.int .i64 num,.string name,.slice ptr (len k) cap],.int .i64 lv] w _
 have IH:=hid ih;have HX:=hid hx;have HOK:=hid hok;clear ih hx hok;have hk:len k≤9223372036854775807:=HOK.out.1.2.2.2
 by_cases h16:16 < lv
 ·go_enter Tryz.func77,Tryz.ntmps77;go_wp2
  go_ret2
  exact⟨1,1,rfl,by omega,by omega,by omega,by omega,by omega,by omega,(Below.refl _ _).alloc (Nat.le_refl _) _⟩
 ·go_enter Tryz.func77,Tryz.ntmps77;go_wp2_with fail
  go_loopw [6,7,8] (fun n d i wr=>∃(j:Nat) (r:Fo) (m q:Int),i=.int .i64 j∧n=.int .i64 m∧d=.int .i64 q∧1≤m∧m≤200 * (17 - lv)+1∧1≤q∧q≤18 - lv∧wr.cell? ⟨w.heap.size,3,none⟩=some (.slice ptr (len k) cap)∧w.heap.size < wr.heap.size∧
   Hid (j+len r=len k∧FoAt wr r b (o+j * 4)∧jV r∧vo Uv r∧Below w.heap.size w wr∧(1+(sz k:Int)≤200∧lv+dp k≤16↔m+sz r≤200∧q+lv - 1≤16∧lv+dp r≤16)∧(m≤200→q+lv - 1≤16→m+sz r=1+sz k))) (fun _ _ i _=>len k - (intOf i).toNat)
  case atStart =>
   refine⟨0,k,1,1,rfl,rfl,rfl,by omega,by omega,by omega,by omega,by simp,by simp,by omega,?_,HOK.out.2,IH.out,(Below.refl _ _).alloc (Nat.le_refl _) _,by omega,by omega⟩;rw[Nat.zero_mul,Nat.add_zero];exact HX.out.2.next ((Below.refl _ _).alloc (Nat.le_refl _) _)
  case round =>
   obtain⟨j,r,m,q,rfl,rfl,rfl,hm1,hm2,hq1,hq2,hc,yD,HR⟩:=hrel;cases r with
   | nil =>
     have hj:¬(j:Int) < (len k:Int):=(by have:=HR.out.1;simp[len] at this;omega);go_wp2
     go_ret2
     obtain⟨-,-,-,-,g5,g6,g7⟩:=HR.out;simp only[sz,dp] at g6 g7;exact⟨m,q,rfl,hm1,hm2,hq1,hq2,by omega,by omega,g5⟩
   | node b1 o1 a1 k1 r1 =>
     have hj:j < len k:=(by have:=HR.out.1;simp[len] at this;omega);obtain rfl:ptr=some ⟨b,o,none⟩:=HX.out.1 (by rintro rfl;simp[len] at hj);obtain⟨⟨c0,c1,c2,c3⟩,hp1,hk1,hr1⟩:=HR.out.2.1;have X1:Hid (ExAt wr b1 o1 a1 k1):=⟨hp1,hk1⟩;have N1:=hid hr1;clear hp1 hk1 hr1;have hj1:(j:Int) < (len k:Int):=by omega
     by_cases hm:m≤200
     ·go_wp2_with fail;refine(HR.out.2.2.2.1.1 _ (lv+1) X1.out ⟨HR.out.2.2.1.1,HR.out.2.2.1.2.1⟩ (by omega) (by omega)).mono ?_;rintro e w1 ⟨n1,d1,rfl,n2,n3,n4,n5,n6,n7,hb⟩
      have hc':w1.cell? ⟨w.heap.size,3,none⟩=some (.slice (some ⟨b,o,none⟩) (len k) cap):=by
       rw[hb.cell (p:=⟨w.heap.size,3,none⟩) yD,hc]
      have hz':w.heap.size < w1.heap.size:=Nat.lt_of_lt_of_le yD hb.size;have N2:=hid (N1.out.next hb);have B2:=hid (HR.out.2.2.2.2.1.trans (hb.mono (Nat.le_of_lt yD)));have K:=hid (And.intro n6 n7);clear hc c0 c1 c2 c3 hb yD X1 N1 n6 n7
      by_cases hd:q < d1+1
      all_goals
       go_wp2
       go_roundw
       case rel =>
        obtain⟨n6,n7⟩:=K.out;obtain⟨g1,-,g3,g4,-,g6,g7⟩:=HR.out;simp only[len] at g1;have e1:sz (BT.node b1 o1 a1 k1 r1)=1+sz k1+sz r1:=rfl;have e2:dp (BT.node b1 o1 a1 k1 r1)=max (1+dp k1) (dp r1):=rfl;rw[e1,e2] at g6;rw[e1] at g7;refine⟨j+1,r1,m+n1,_,by go_num,rfl,rfl,by omega,by omega,by omega,by omega,hc',hz',by omega,?_,g3.2.2,g4.2,B2.out,by omega,by omega⟩;rw[Nat.add_mul,Nat.one_mul,← Nat.add_assoc];exact N2.out
       case measure=>simp[intOf];omega
     ·go_wp2
      go_ret2
      obtain⟨-,-,-,-,g5,g6,g7⟩:=HR.out;exact⟨m,q,rfl,hm1,hm2,hq1,hq2,by omega,by omega,g5⟩
end
section
theorem jd(c:Int)(w:World) :
 Calls Tryz.prog 141 #[.int .u8 c] w fun e w'=>e=.returned (.bool (decide (97≤c∧c≤122)))∧w=w':=by
 go_enter Tryz.func141,Tryz.ntmps141;go_wp2
 all_goals
  go_ret;refine⟨qr ?_,rfl⟩
  go_light
  simp
  try omega
theorem kZ(c:Int)(w:World) :
 Calls Tryz.prog 142 #[.int .u8 c] w fun e w'=>e=.returned (.bool (decide (48≤c∧c≤57)))∧w=w':=by
 go_enter Tryz.func142,Tryz.ntmps142;go_wp2
 all_goals
  go_ret;refine⟨qr ?_,rfl⟩
  go_light
  simp
  try omega
theorem Jx(s:ByteArray)(h1:1≤s.size)(h2:s.size≤16):yY s=(decide ((97:Int)≤(s[0].toNat:Int)∧(s[0].toNat:Int)≤122) && s.data.toList.all Nam.wordB):=by
 unfold yY Nam.isName;rw[zp,getD_at s 0 h1,Bool.eq_iff_iff,decide_eq_true_eq,Bool.and_eq_true,decide_eq_true_eq];unfold Nam.lowB;rw[decide_eq_true_eq];constructor
 ·rintro ⟨-,-,a,b⟩;exact⟨by omega,b⟩
 ·rintro ⟨a,b⟩;exact⟨h1,h2,by omega,b⟩
theorem JU(l:List UInt8)(k:Nat)(h:k < l.length):(l.take (k+1)).all Nam.wordB=((l.take k).all Nam.wordB && Nam.wordB (l.getD k 0)):=by
 have hd:l.getD k 0=l[k]:=by rw[List.getD_eq_getElem?_getD,List.getElem?_eq_getElem h];rfl
 rw[List.take_succ_eq_append_getElem h,List.all_append,hd];simp
theorem JV(l:List UInt8)(k:Nat)(h:(l.take k).all Nam.wordB=false):l.all Nam.wordB=false:=by
 rw[Bool.eq_false_iff] at h ⊢;intro q;apply h;rw[List.all_eq_true] at q ⊢;exact fun x hx=>q x (List.mem_of_mem_take hx)
theorem kR(s : ByteArray)(w:World)(hs:s.size≤9223372036854775807) :
 Calls Tryz.prog 109 #[.string s] w fun e w'=>e=.returned (.bool (yY s))∧w=w':=by
 by_cases h1:1≤s.size∧s.size≤16
 ·obtain ⟨h1, h2⟩ := h1;have hN:=Jx s h1 h2;have HN:=hid hN;clear hN;have i0:(0:Int) < (s.size:Int):=(by omega);cases hl:decide ((97:Int)≤(s[0].toNat:Int)∧(s[0].toNat:Int)≤122)
  ·have HL:=hid hl;clear hl;go_enter Tryz.func109,Tryz.ntmps109;go_wp2_with (go_at_call 141;refine(jd _ _).mono ?_;rw[HL.out];rintro e w' ⟨rfl,rfl⟩);go_ret;exact⟨qr (by rw[HN.out,HL.out];rfl),rfl⟩
  ·have HL := hid hl;clear hl;go_enter Tryz.func109,Tryz.ntmps109;go_wp2_with (go_at_call 141;refine(jd _ _).mono ?_;rw[HL.out];rintro e w' ⟨rfl,rfl⟩)
   go_loop [3] (fun i=>∃k:Nat,k≤s.size∧i=.int .i64 k∧Hid ((s.data.toList.take k).all Nam.wordB=true)) (fun i=>s.size - (intOf i).toNat)
   case atStart=>exact⟨0,by omega,rfl,rfl⟩
   case round =>
    obtain⟨k,hk,rfl,HG⟩:=hrel
    by_cases qN:k < s.size
    ·have hst := JU s.data.toList k (by rw[zp];exact qN);rw[HG.out,Bool.true_and,getD_at s k qN] at hst;have ST:=hid hst;clear hst;have SP:Hid ((s.data.toList.take (k+1)).all Nam.wordB=false→yY s=false):=fun q=>by rw[HN.out,JV _ _ q,Bool.and_false]
     have hi:(k:Int) < (s.size:Int):=(by omega);obtain⟨c,hc⟩:∃c:UInt8,s[k]=c:=⟨_,rfl⟩;rw[hc] at ST
     have W:Hid (Nam.wordB c=(decide ((97:Int)≤(c.toNat:Int)∧(c.toNat:Int)≤122) || decide ((48:Int)≤(c.toNat:Int)∧(c.toNat:Int)≤57) || ((c.toNat:Int)==95))):=by
      unfold Hid Nam.wordB;rw[Bool.eq_iff_iff];simp only[decide_eq_true_eq,Bool.or_eq_true,beq_iff_eq];omega
     cases q1:decide ((97:Int)≤(c.toNat:Int)∧(c.toNat:Int)≤122)
     ·cases q2 : decide ((48:Int)≤(c.toNat:Int)∧(c.toNat:Int)≤57)
      ·have Q1 := hid q1;have Q2:=hid q2;clear q1 q2;go_wp2_with (first|(go_at_call 141;refine(jd _ _).mono ?_;rw[Q1.out];rintro e w' ⟨rfl,rfl⟩)|(go_at_call 142;refine(kZ _ _).mono ?_;rw[Q2.out];rintro e w' ⟨rfl,rfl⟩))
       all_goals first
        | (go_round
           case rel =>
            refine⟨k+1,by omega,by go_num,?_⟩
            go_light
            simp only[bne_eq_false_iff_eq] at *;unfold Hid;rw[ST.out,W.out];simp only[Bool.or_eq_true,beq_iff_eq];omega
           case measure=>simp[intOf];omega)
        | (go_ret
           refine⟨qr (SP.out ?_).symm,rfl⟩
           go_light
           simp only[bne_iff_ne] at *;rw[ST.out,W.out,Q1.out,Q2.out];simp only[Bool.or_eq_false_iff,beq_eq_false_iff_ne];refine⟨⟨?_,?_⟩,?_⟩<;>first|trivial|omega)
      ·have Q1:=hid q1;have Q2:=hid q2;clear q1 q2;go_wp2_with (first|(go_at_call 141;refine(jd _ _).mono ?_;rw[Q1.out];rintro e w' ⟨rfl,rfl⟩)|(go_at_call 142;refine(kZ _ _).mono ?_;rw[Q2.out];rintro e w' ⟨rfl,rfl⟩))
       go_round
       case rel=>exact⟨k+1,by omega,by go_num,by unfold Hid;rw[ST.out,W.out,Q2.out];simp⟩
       case measure=>simp[intOf];omega
     ·have Q1:=hid q1;clear q1;go_wp2_with (go_at_call 141;refine(jd _ _).mono ?_;rw[Q1.out];rintro e w' ⟨rfl,rfl⟩)
      go_round
      case rel=>exact⟨k+1,by omega,by go_num,by unfold Hid;rw[ST.out,W.out,Q1.out];simp⟩
      case measure=>simp[intOf];omega
    ·have hr:Hid (yY s=true):=by
      have:=HG.out;obtain rfl:k=s.size:=by omega
      rw[← zp,List.take_length] at this;unfold Hid;rw[HN.out,HL.out,this];rfl
     go_wp2;go_ret;exact⟨qr hr.out.symm,rfl⟩
 ·have hn:Hid (yY s=false):=by
   unfold Hid yY Nam.isName;rw[zp];exact decide_eq_false (fun q=>h1 ⟨q.1,q.2.1⟩)
  by_cases h2:1≤s.size
  ·have h3:¬s.size≤16:=fun q=>h1 ⟨h2,q⟩;clear h1;go_enter Tryz.func109,Tryz.ntmps109;go_wp2;go_ret;exact⟨qr hn.out.symm,rfl⟩
  ·clear h1;go_enter Tryz.func109,Tryz.ntmps109;go_wp2;go_ret;exact⟨qr hn.out.symm,rfl⟩
def xA:Array Value:=#[.string ⟨#[97,110,100]⟩,.string ⟨#[111,114]⟩,.string ⟨#[110,111,116]⟩,.string ⟨#[105,109,112,108,105,101,115]⟩,.string ⟨#[105,110]⟩,.string ⟨#[116,111]⟩,.string ⟨#[116,114,117,101]⟩,.string ⟨#[102,97,108,115,101]⟩,.string ⟨#[109,105,110]⟩,.string ⟨#[109,97,120]⟩,.string ⟨#[105,102]⟩,.string ⟨#[116,104,101,110]⟩,.string ⟨#[101,108,115,101]⟩]
theorem J2(k:Nat)(h:k < 13):∃l:List UInt8,Nam.words[k]?=some l∧xA[k]?=some (.string ⟨l.toArray⟩):=by
 match k,h with
 | 0,_=>exact⟨_,rfl,rfl⟩
 | 1,_=>exact⟨_,rfl,rfl⟩
 | 2,_=>exact⟨_,rfl,rfl⟩
 | 3,_=>exact⟨_,rfl,rfl⟩
 | 4,_=>exact⟨_,rfl,rfl⟩
 | 5,_=>exact⟨_,rfl,rfl⟩
 | 6,_=>exact⟨_,rfl,rfl⟩
 | 7,_=>exact⟨_,rfl,rfl⟩
 | 8,_=>exact⟨_,rfl,rfl⟩
 | 9,_=>exact⟨_,rfl,rfl⟩
 | 10,_=>exact⟨_,rfl,rfl⟩
 | 11,_=>exact⟨_,rfl,rfl⟩
 | 12,_=>exact⟨_,rfl,rfl⟩
theorem Jn(s:ByteArray)(w:World) :
 Calls Tryz.prog 110 #[.string s] w fun e w'=>e=.returned (.bool (kS s))∧Below w.heap.size w w':=by
 have B0:Below w.heap.size w (w.alloc (.cells xA 9)):=(Below.refl _ _).alloc (Nat.le_refl _) _;have C0:∀k v,xA[k]?=some v→(w.alloc (.cells xA 9)).cell? ⟨w.heap.size,k,none⟩=some v:=fun k v h=>by simp[h]
 have HB:=hid B0;have HC:=hid C0;clear B0 C0;have R:Hid (kS s=(Nam.words.any fun x=>s.toList==x)):=by unfold Hid kS Nam.reserved;rw[Lib.toList_data]
 go_enter Tryz.func110,Tryz.ntmps110;go_wp2_with fail
 go_loopw [4] (fun i wr=>∃k:Nat,k≤13∧i=.int .i64 k∧Hid (Below w.heap.size w wr∧(∀j v,xA[j]?=some v→wr.cell? ⟨w.heap.size,j,none⟩=some v)∧kS s=((Nam.words.drop k).any fun x=>s.toList==x))) (fun i _=>13 - (intOf i).toNat)
 case atStart=>exact⟨0,by omega,rfl,HB.out,HC.out,R.out⟩
 case round =>
  obtain⟨k,hk,rfl,HR⟩:=hrel
  by_cases qN:k < 13
  ·obtain ⟨l,w1,w2⟩:=J2 k qN;have hc:=HR.out.2.1 _ _ w2
   have ST:Hid (kS s=((s.toList==l) || ((Nam.words.drop (k+1)).any fun x=>s.toList==x))):=by
    have:=HR.out.2.2;have hkl:k < Nam.words.length:=qN;rw[List.drop_eq_getElem_cons hkl,List.any_cons] at this;rw[List.getElem?_eq_getElem hkl] at w1;rw[Option.some.inj w1] at this;exact this
   clear w1 w2;have hi:(k:Int) < 13:=(by omega);rw[show(s.toList==l)=(l==s.toList) from Bool.beq_comm] at ST;cases hb:(l==s.toList)
   ·have HB1:=hid hb;go_wp2
    go_roundw
    case rel=>exact⟨k+1,by omega,by go_num,HR.out.1,HR.out.2.1,by rw[ST.out,HB1.out,Bool.false_or]⟩
    case measure=>simp[intOf];omega
   ·have HB1:=hid hb;go_wp2;go_ret;exact⟨qr (by rw[ST.out,HB1.out];rfl),HR.out.1⟩
  ·have:Hid (kS s=false):=by
    have:=HR.out.2.2;rw[List.drop_eq_nil_of_le (show Nam.words.length≤k by show 13≤k;omega)] at this;exact this
   go_wp2;go_ret;exact⟨qr this.out.symm,HR.out.1⟩
theorem zI(s:ByteArray)(w:World)(hs:s.size≤9223372036854775807) :
 Calls Tryz.prog 62 #[.string s] w fun e w'=>e=.returned (.bool (yJ s))∧Below w.heap.size w w':=by
 have D:Hid (yJ s=(yY s && !kS s)):=rfl;go_enter Tryz.func62,Tryz.ntmps62;go_wp2_with fail;refine(kR _ _ hs).mono ?_;generalize yY s=x at *;rintro e w' ⟨rfl,rfl⟩;cases x
 ·go_wp2;go_ret;exact⟨qr D.out.symm,Below.refl _ _⟩
 ·go_wp2_with fail;refine(Jn _ _).mono ?_;generalize kS s=y at *;rintro e w' ⟨rfl,hb⟩;go_wp2;go_ret;exact⟨qr D.out.symm,hb⟩
theorem Ku(l:List UInt8)(c:UInt8)(k:Nat)(h:k < l.length)(hn:∀x∈ l.take k,x≠c) :
 (l.getD k 0=c→Lib.indexByte l c=k)∧(l.getD k 0≠c→∀x∈ l.take (k+1),x≠c):=by
 have hd:l.getD k 0=l[k]:=by rw[List.getD_eq_getElem?_getD,List.getElem?_eq_getElem h];rfl
 rw[hd];constructor
 ·intro e;refine(Nam.ix_some l c k).2 ⟨⟨l.drop (k+1),?_⟩,h,hn⟩;rw[← e,← List.drop_eq_getElem_cons h,List.take_append_drop]
 ·intro e x hx;rw[List.take_succ_eq_append_getElem h] at hx;rcases List.mem_append.1 hx with hx|hx
  ·exact hn x hx
  ·rw[List.mem_singleton.1 hx];exact e
theorem Yz(s:ByteArray)(c:UInt8)(w:World)(hs:s.size≤9223372036854775807) :
 Calls Tryz.prog 120 #[.string s,.int .u8 c.toNat] w fun e w'=>e=.returned (.int .i64 (Lib.indexByte s.data.toList c))∧w=w':=by
 go_enter Tryz.func120,Tryz.ntmps120;go_wp2_with fail
 go_loop [5] (fun i=>∃k:Nat,k≤s.size∧i=.int .i64 k∧Hid (∀x∈ s.data.toList.take k,x≠c)) (fun i=>s.size - (intOf i).toNat)
 case atStart=>exact⟨0,by omega,rfl,by intro x hx;simp at hx⟩
 case round =>
  obtain⟨k,hk,rfl,HR⟩:=hrel
  by_cases qN:k < s.size
  ·have hst:=Ku s.data.toList c k (by rw[zp];exact qN) HR.out;rw[getD_at s k qN] at hst;have ST:=hid hst;clear hst;have hi:(k:Int) < (s.size:Int):=by omega
   by_cases he:s[k]=c
   ·have hb:((s[k].toNat:Int)==(c.toNat:Int))=true:=by rw[he];simp
    have V:=hid (ST.out.1 he);clear he;go_wp2;go_ret;exact⟨qh V.out.symm,rfl⟩
   ·have hb:((s[k].toNat:Int)==(c.toNat:Int))=false:=by
     have:s[k].toNat≠c.toNat:=fun q=>he (UInt8.toNat_inj.1 q);simp;omega
    have V:=hid (ST.out.2 he);clear he;go_wp2
    go_round
    case rel=>exact⟨k+1,by omega,by go_num,V.out⟩
    case measure=>simp[intOf];omega
  ·have V:Hid (Lib.indexByte s.data.toList c = -1):=by
    have:=HR.out;rw[List.take_of_length_le (by rw[zp];omega)] at this;exact(Nam.ix_none _ _).2 this
   go_wp2;go_ret;exact⟨qh V.out.symm,rfl⟩
theorem ut(s:ByteArray)(w:World)(hs:s.size≤9223372036854775807) :
 Calls Tryz.prog 79 #[.string s] w fun e w'=>e=.returned (.bool (zY s))∧Below w.heap.size w w':=by
 have C:=Yz s 46 w hs;rcases Nam.ix_cases s.data.toList 46 with h|⟨k,h,hk⟩
 ·have A:Hid (zY s=yJ s):=by
   show Nam.attr s.data.toList=Nam.declName s.data.toList
   unfold Nam.attr;rw[if_pos h]
  rw[h] at C;have HC:=hid C;clear h C;go_enter Tryz.func79,Tryz.ntmps79;go_wp2_with fail;refine HC.out.mono ?_;rintro e w' ⟨rfl,rfl⟩;go_wp2_with fail;refine(zI _ _ hs).mono ?_;rw[← A.out];rintro e w1 ⟨rfl,hb⟩;go_wp2;go_ret;exact⟨rfl,hb⟩
 ·have hk':k < s.size:=by rw[← zp];exact hk
  have x1:s.extract 0 k=⟨(s.data.toList.take k).toArray⟩:=by
   obtain⟨l,e1,e2⟩:=JR s;rw[e2,e1,vh];rfl
  have x2:s.extract (k+1) s.size=⟨(s.data.toList.drop (k+1)).toArray⟩:=by
   rw[← zp];obtain⟨l,e1,e2⟩:=JR s;rw[e2,e1,vh,List.take_length]
  have A:Hid (zY s=(yY (s.extract 0 k) && yY (s.extract (k+1) s.size))):=by
   rw[x1,x2]
   show Nam.attr s.data.toList=(Nam.isName (s.data.toList.take k) && Nam.isName (s.data.toList.drop (k+1)))
   unfold Nam.attr;rw[if_neg (by omega),h];rfl
  rw[h] at C;have HC:=hid C;have z1:(s.extract 0 k).size≤9223372036854775807:=(by rw[ByteArray.size_extract];omega);have z2:(s.extract (k+1) s.size).size≤9223372036854775807:=(by rw[ByteArray.size_extract];omega);have Z1:=hid z1;have Z2:=hid z2;clear h C x1 x2 z1 z2 hk;have i1:(k:Int)≤(s.size:Int):=(by omega);have i2:(k:Int)+1≤(s.size:Int):=(by omega);go_enter Tryz.func79,Tryz.ntmps79;go_wp2_with fail;refine HC.out.mono ?_;rintro e w' ⟨rfl,rfl⟩;go_wp2_with fail;refine(kR _ _ Z1.out).mono ?_;generalize yY (s.extract 0 k)=x at *;rintro e w1 ⟨rfl,rfl⟩;cases x
  ·go_wp2;go_ret;exact⟨qr A.out.symm,Below.refl _ _⟩
  ·go_wp2_with fail;refine(kR _ _ Z2.out).mono ?_;generalize yY (s.extract (k+1) s.size)=y at *;rintro e w1 ⟨rfl,rfl⟩;go_wp2;go_ret;exact⟨qr (by rw[A.out];simp),Below.refl _ _⟩
end
section
def KJ(op:Int):Int:=if 1≤op∧op≤6 then 0 else if op=7∨op=19 then 1 else if op=12∨op=13 then 2 else if op=14∨op=15 then 3 else 2
def KP(op:Int):Int:=if 1≤op∧op≤6 then 0 else if op=7∨op=19 then 1 else if op=12∨op=13 then 200 else if op=14∨op=15 then 3 else 2
theorem KE(op n:Int)(h:n≤200):jM op n=(decide (KJ op≤n) && decide (n≤KP op)):=by
 unfold jM KJ KP
 (repeat' split)<;>(rw[Bool.eq_iff_iff];simp only[Bool.and_eq_true,decide_eq_true_eq];omega)
theorem Kr(op:Int):0≤KJ op∧KJ op≤3∧0≤KP op∧KP op≤200:=by
 unfold KJ KP;(repeat' split)<;>omega
theorem J0(op:Int)(w:World) :
 Calls Tryz.prog 78 #[.int .i64 op] w fun e w'=>e=.returned (.tuple #[.int .i64 (KJ op),.int .i64 (KP op)])∧w=w':=by
 go_enter Tryz.func78,Tryz.ntmps78;go_wp2
 all_goals
  go_ret2
  refine⟨Jp ?_ ?_,rfl⟩
  all_goals
   go_light
   simp only[beq_iff_eq,beq_eq_false_iff_ne] at *
   first|unfold KJ|unfold KP
   (repeat' split)<;>first|rfl|(exfalso;omega)
def vT(op:Int):Int:=if op=1∨op=2 then 1099511627776 else if op=3 then 1439 else 0
theorem Kp(op num:Int):jy op num=(!decide (num < 0) && !decide (vT op < num)):=by
 unfold jy vT
 (repeat' split)<;>(rw[Bool.eq_iff_iff];simp only[Bool.and_eq_true,decide_eq_true_eq,Bool.not_eq_true',decide_eq_false_iff_not];omega)
def Ux(b o:Nat)(a:Nd)(k:Fo):Prop:=∀(w:World),ExAt w b o a k→yS a k→sz k≤200→
 Calls Tryz.prog 34 #[.agg #[.int .i64 a.op,.int .i64 a.num,.string a.name,.slice a.ptr (len k) a.cap]] w fun e w'=>e=.returned (.bool (jN a (len k) && jO k))∧Below w.heap.size w w'
theorem Yx(b o : Nat)(a:Nd)(k:Fo):Ux b o a k:=by
 refine kz (P:=Ux) ?_ b o a k;clear b o a k;intro b o a k ih w hx hok hz;obtain⟨op,num,name,ptr,cap⟩:=a
 show Calls Tryz.prog 34 #[.agg #[.int .i64 op,.int .i64 num,.string name,.slice ptr (len k) cap]] w _
 have IH:=hid ih;have HX:=hid hx;have HOK:=hid hok;have HZ:=hid hz;have hk:len k≤200:=Nat.le_trans (YK k) hz;clear ih hx hok hz;have hs:name.size≤9223372036854775807:=HOK.out.1.2.2.1;have F0:=hid (uk ⟨op,num,name,ptr,cap⟩ k (len k));have F1:=hid (uj ⟨op,num,name,ptr,cap⟩ k (len k));have F2:=hid (ui ⟨op,num,name,ptr,cap⟩ k (len k));have F3:=hid (uh ⟨op,num,name,ptr,cap⟩ k (len k));have FT:=hid (QO ⟨op,num,name,ptr,cap⟩ k (len k));dsimp only at F0 F1 F2 F3 FT;generalize (jN ⟨op,num,name,ptr,cap⟩ (len k) && jO k)=RES at *;have AI:=hid (KE op (len k) (by omega))
 by_cases h1:1≤op∧op≤22
 ·have H1 := hid h1;obtain⟨h1,h2⟩:=h1;obtain⟨l1,l2,l3,l4⟩:=Kr op;go_enter Tryz.func34,Tryz.ntmps34;go_wp2_with fail;refine(J0 _ _).mono ?_;generalize KJ op=lo at *;generalize KP op=hi at *;rintro e w' ⟨rfl,hw⟩;subst hw
  by_cases g1:(len k:Int) < lo
  ·have R:=hid (F1.out (by rw[AI.out];simp;omega));go_wp2;go_ret;exact⟨qr R.out.symm,(Below.refl _ _).alloc (Nat.le_refl _) _⟩
  ·by_cases g2 : hi < (len k:Int)
   ·have R:=hid (F1.out (by rw[AI.out];simp;omega));go_wp2;go_ret;exact⟨qr R.out.symm,(Below.refl _ _).alloc (Nat.le_refl _) _⟩
   ·have HA : Hid (jM op (len k)=true):=by unfold Hid;rw[AI.out];simp;omega
    clear AI
    go_upto_block 0 with (fail)
    go_cut [5] (fun v wx=>v=.int .i64 (vT op)∧wx=w.alloc (.cells #[.int .i64 op,.int .i64 num,.string name,.slice ptr (len k) cap] 24))
    case first =>
     go_wp2
     all_goals
      go_meet
      refine⟨?_,rfl⟩
      go_light
      simp only[beq_iff_eq,beq_eq_false_iff_ne] at *;unfold vT
      (repeat' split)<;>first|rfl|(exfalso;omega)
    case rest =>
     obtain⟨rfl,rfl⟩:=hcut;have NI:=hid (Kp op num);generalize vT op=most at *;go_upto_region 13 with (fail)
     go_cut [69] (fun v wx=>v=.bool (!(jy op num && jh op name))∧Hid (Below (w.heap.size+1) (w.alloc (.cells #[.int .i64 op,.int .i64 num,.string name,.slice ptr (len k) cap] 24)) wx))
     case first =>
      by_cases n1:num < 0
      ·have R:Hid (jy op num=false):=by unfold Hid;rw[NI.out];simp[n1]
       go_wp2
       go_meet
       exact⟨by rw[R.out];rfl,Below.refl _ _⟩
      ·by_cases n2:most < num
       ·have R:Hid (jy op num=false):=by unfold Hid;rw[NI.out];simp[n2]
        go_wp2
        go_meet
        exact⟨by rw[R.out];rfl,Below.refl _ _⟩
       ·have N:Hid (jy op num=true):=by unfold Hid;rw[NI.out];simp[n1,n2]
        by_cases h6:op=6
        ·have b6:(op==6)=true:=by simp[h6]
         have d6:(op != 6)=false:=(by simp[h6]);have A:Hid (jh op name=zY name):=(by unfold Hid jh;rw[if_pos h6]);clear h6;cases hT:zY name
         all_goals
          have HT:=hid hT;clear hT;go_wp2_with fail;refine(ut _ _ hs).mono ?_;rw[HT.out];rintro e w1 ⟨rfl,hb⟩;have c0:w1.cell? ⟨w.heap.size,0,none⟩=some (.int .i64 op):=(by rw[hb.cell (p:=⟨w.heap.size,0,none⟩) (by simp)];simp);have B1:=hid hb;clear hb;go_wp2
          go_meet
          exact⟨by rw[N.out,A.out,HT.out];rfl,B1.out.mono (by simp)⟩
        ·have b6:(op==6)=false:=by simp[h6]
         have d6:(op != 6)=true:=(by simp[h6]);have A:Hid (jh op name=decide (name.size=0)):=(by unfold Hid jh;rw[if_neg h6]);have E:=uH name;rw[← E] at A;clear h6 E;cases e1:name.toList.isEmpty
         ·have E1:=hid e1;have e2:(!name.toList.isEmpty)=true:=(by rw[e1];rfl);go_wp2
          go_meet
          exact⟨by rw[N.out,A.out,E1.out];rfl,Below.refl _ _⟩
         ·have E1:=hid e1;have e2:(!name.toList.isEmpty)=false:=(by rw[e1];rfl);go_wp2
          go_meet
          exact⟨by rw[N.out,A.out,E1.out];rfl,Below.refl _ _⟩
     case rest =>
      obtain⟨rfl,HB⟩:=hcut;have BW:Hid (Below w.heap.size w wc):=((Below.refl _ _).alloc (Nat.le_refl _) _).trans (HB.out.mono (by omega));cases hg:(jy op num && jh op name)
      ·have R:Hid (RES=false):=by
        cases q:jy op num
        ·exact F2.out q
        ·rw[q] at hg;exact F3.out hg
       clear hg;go_wp2;go_ret;exact⟨qr R.out.symm,BW.out⟩
      ·rw [Bool.and_eq_true] at hg;have R:=hid (FT.out H1.out HA.out hg.1 hg.2);clear hg
       have hc3:wc.cell? ⟨w.heap.size,3,none⟩=some (.slice ptr (len k) cap):=by
        rw[HB.out.cell (p:=⟨w.heap.size,3,none⟩) (by simp)];simp
       have yD:w.heap.size < wc.heap.size:=(by have:=HB.out.size;simp at this;omega);have XW:=hid (HX.out.next BW.out);clear F0 F1 F2 F3 FT HA H1 h1 h2 HB NI;rw[show(!true)=false from rfl];go_wp2_with fail
       go_loopw [6] (fun i wr=>∃(j:Nat) (r:Fo),i=.int .i64 j∧wr.cell? ⟨w.heap.size,3,none⟩=some (.slice ptr (len k) cap)∧w.heap.size < wr.heap.size∧
        Hid (j+len r=len k∧FoAt wr r b (o+j * 4)∧jV r∧vo Ux r∧Below w.heap.size w wr∧RES=jO r∧sz r≤200)) (fun i _=>len k - (intOf i).toNat)
       case atStart =>
        exact⟨0,k,rfl,hc3,yD,by omega,by rw[Nat.zero_mul,Nat.add_zero];exact XW.out.2,HOK.out.2,IH.out,BW.out,R.out,HZ.out⟩
       case round =>
        clear hc3 yD;obtain⟨j,r,rfl,hc,yD,HR⟩:=hrel;cases r with
        | nil =>
          have hj:¬(j:Int) < (len k:Int):=(by have:=HR.out.1;simp[len] at this;omega);go_wp2;go_ret;exact⟨qr (by rw[HR.out.2.2.2.2.2.1];rfl),HR.out.2.2.2.2.1⟩
        | node b1 o1 a1 k1 r1 =>
          have hj:j < len k:=(by have:=HR.out.1;simp[len] at this;omega);obtain rfl:ptr=some ⟨b,o,none⟩:=HX.out.1 (by rintro rfl;simp[len] at hj);obtain⟨⟨c0,c1,c2,c3⟩,hp1,hk1,hr1⟩:=HR.out.2.1;have X1:Hid (ExAt wr b1 o1 a1 k1):=⟨hp1,hk1⟩;have N1:=hid hr1;clear hp1 hk1 hr1;have hj1:(j:Int) < (len k:Int):=by omega
          have ZZ:Hid (sz k1≤200∧sz r1≤200):=by
           have e1:sz (BT.node b1 o1 a1 k1 r1)=1+sz k1+sz r1:=rfl;have:=HR.out.2.2.2.2.2.2;rw[e1] at this;exact⟨by omega,by omega⟩
          go_wp2_with fail;refine(HR.out.2.2.2.1.1 _ X1.out ⟨HR.out.2.2.1.1,HR.out.2.2.1.2.1⟩ ZZ.out.1).mono ?_;rintro e w1 ⟨he,hb⟩
          have hc':w1.cell? ⟨w.heap.size,3,none⟩=some (.slice (some ⟨b,o,none⟩) (len k) cap):=by
           rw[hb.cell (p:=⟨w.heap.size,3,none⟩) yD,hc]
          have hz':w.heap.size < w1.heap.size:=Nat.lt_of_lt_of_le yD hb.size;have B1:=hid hb;have Z:Hid (RES=((jN a1 (len k1) && jO k1) && jO r1)):=HR.out.2.2.2.2.2.1;clear hb c0 c1 c2 c3 hc yD;generalize (jN a1 (len k1) && jO k1)=y at *;subst he;cases y
          ·go_wp2;go_ret;exact⟨qr (by rw[Z.out];rfl),HR.out.2.2.2.2.1.trans (B1.out.mono HR.out.2.2.2.2.1.size)⟩
          ·go_wp2
           go_roundw
           case rel =>
            obtain⟨q1,-,q3,q4,q5,-,-⟩:=HR.out;simp[len] at q1;refine⟨j+1,r1,by go_num,hc',hz',by omega,?_,q3.2.2,q4.2,q5.trans (B1.out.mono q5.size),by rw[Z.out];rfl,ZZ.out.2⟩;rw[Nat.add_mul,Nat.one_mul,← Nat.add_assoc];exact N1.out.next B1.out
           case measure=>simp[intOf];omega
 ·have R:=hid (F0.out h1);have h2:op < 1∨22 < op:=(by omega);rcases h2 with h2|h2
  ·go_enter Tryz.func34,Tryz.ntmps34;go_wp2;go_ret;exact⟨qr R.out.symm,(Below.refl _ _).alloc (Nat.le_refl _) _⟩
  ·have h3:¬op < 1:=by omega
   clear h1;go_enter Tryz.func34,Tryz.ntmps34;go_wp2;go_ret;exact⟨qr R.out.symm,(Below.refl _ _).alloc (Nat.le_refl _) _⟩
theorem YF(b o:Nat)(op num:Int)(name:ByteArray)(ptr:Option Addr)(cap:Nat)(k:Fo)(w:World)(hx:ExAt w b o ⟨op,num,name,ptr,cap⟩ k)(hok:yS ⟨op,num,name,ptr,cap⟩ k) :
 Calls Tryz.prog 33 #[.agg #[.int .i64 op,.int .i64 num,.string name,.slice ptr (len k) cap]] w (Yj w 1 k):=by
 have B0:Below w.heap.size w (w.alloc (.cells #[.int .i64 op,.int .i64 num,.string name,.slice ptr (len k) cap] 24)):=(Below.refl _ _).alloc (Nat.le_refl _) _;have C:=Kd b o ⟨op,num,name,ptr,cap⟩ k _ 1 (hx.next B0) hok (by omega) (by omega);have HC:=hid C;have HB:=hid B0;clear C B0 hx hok;go_enter Tryz.func33,Tryz.ntmps33;go_wp2_with fail;refine HC.out.mono ?_;rintro e w1 ⟨n,d,rfl,n2,n3,n4,n5,n6,n7,hb⟩;have K:=hid (And.intro n6 n7);have B1:=hid (HB.out.trans (hb.mono (by simp)));clear n6 n7 hb;go_wp2
 go_ret2
 exact⟨n,d,rfl,n2,n3,n4,n5,K.out.1,K.out.2,B1.out⟩
theorem jE(b o:Nat)(op num:Int)(name:ByteArray)(ptr:Option Addr)(cap:Nat)(k:Fo)(w:World)(hx:ExAt w b o ⟨op,num,name,ptr,cap⟩ k)(hok:yS ⟨op,num,name,ptr,cap⟩ k) :
 Calls Tryz.prog 13 #[.agg #[.int .i64 op,.int .i64 num,.string name,.slice ptr (len k) cap]] w fun e w'=>e=.returned (.int .i64 (yF ⟨op,num,name,ptr,cap⟩ k))∧Below w.heap.size w w':=by
 have B0:Below w.heap.size w (w.alloc (.cells #[.int .i64 op,.int .i64 num,.string name,.slice ptr (len k) cap] 24)):=(Below.refl _ _).alloc (Nat.le_refl _) _;have C:=YF b o op num name ptr cap k _ (hx.next B0) hok;have HC:=hid C;have HB:=hid B0;have HX:=hid hx;have HOK:=hid hok;clear C B0 hx hok;have V:Hid (yF ⟨op,num,name,ptr,cap⟩ k=if fitB 0 1 k=true then (if (jN ⟨op,num,name,ptr,cap⟩ (len k) && jO k)=true then 0 else 1) else 10):=rfl;go_enter Tryz.func13,Tryz.ntmps13;go_wp2_with fail;refine HC.out.mono ?_;rintro e w1 ⟨n,d,rfl,n2,n3,n4,n5,n6,n7,hb⟩
 have F:Hid (fitB 0 1 k=decide (n≤200∧d≤16)):=by
  unfold Hid fitB;rw[Bool.eq_iff_iff,decide_eq_true_eq,decide_eq_true_eq];omega
 have Z:Hid (fitB 0 1 k=true→sz k≤200):=by
  intro q;unfold fitB at q;rw[decide_eq_true_eq] at q;omega
 have B1:Below w.heap.size w w1:=HB.out.trans (hb.mono (by simp))
 have hc:∀j v,(#[Value.int .i64 op,.int .i64 num,.string name,.slice ptr (len k) cap]:Array Value)[j]?=some v→w1.cell? ⟨w.heap.size,j,none⟩=some v:=by
  intro j v hv;rw[hb.cell (p:=⟨w.heap.size,j,none⟩) (by simp)];simp[hv]
 have c0:=hc 0 _ rfl;have c1:=hc 1 _ rfl;have c2:=hc 2 _ rfl;have c3:=hc 3 _ rfl;clear n6 n7 hb hc HC
 by_cases h1:200 < n
 ·have HF:Hid (fitB 0 1 k=false):=by unfold Hid;rw[F.out];simp;omega
  go_wp2;go_ret;exact⟨qh (by rw[V.out,HF.out];rfl),B1⟩
 ·by_cases h2:16 < d
  ·have HF:Hid (fitB 0 1 k=false):=by unfold Hid;rw[F.out];simp;omega
   go_wp2;go_ret;exact⟨qh (by rw[V.out,HF.out];rfl),B1⟩
  ·have HF:Hid (fitB 0 1 k=true):=by unfold Hid;rw[F.out];simp;omega
   have C2:=Yx b o ⟨op,num,name,ptr,cap⟩ k w1 (HX.out.next B1) HOK.out (Z.out HF.out);have HW:=hid C2;clear C2 Z F;generalize (jN ⟨op,num,name,ptr,cap⟩ (len k) && jO k)=y at *;go_wp2_with fail;refine HW.out.mono ?_;rintro e w2 ⟨rfl,hb⟩;have B2:=B1.trans (hb.mono B1.size);clear hb c0 c1 c2 c3;cases y
   ·go_wp2;go_ret;exact⟨qh (by rw[V.out,HF.out];rfl),B2⟩
   ·go_wp2;go_ret;exact⟨qh (by rw[V.out,HF.out];rfl),B2⟩
end
end Go.Proofs.YtcejjdmnlejbaaaGreatDoor
