import Derived.Laws.ResultCell
import Derived.Test.YtcejjdmnlejbaaaGreatDoorWTvt
namespace Go.Proofs.YtcejjdmnlejbaaaGreatDoor
open Lib(hid)
set_option linter.unusedVariables false
set_option linter.unusedSimpArgs false
open Go.ChangeShapes Go.WideShapes Go.ChangeAt Go.RowKit
set_option maxHeartbeats 4000000
set_option maxRecDepth 100000
def WR(o:Option Tk.T3)(e:Ending):Prop:=∃(k:Int)(x:ByteArray)(n:Int),e=.returned (.tuple #[.agg #[.int .i64 k,.string x,.int .i64 n,.int .i64 0],.bool o.isSome])∧∀t,o=some t→k=t.kind∧x=t.text∧n=t.num
theorem WR.none{o:Option Tk.T3}(h:o=none)(k:Int)(x:ByteArray)(n:Int):WR o (.returned (.tuple #[.agg #[.int .i64 k,.string x,.int .i64 n,.int .i64 0],.bool false])) :=
 ⟨k,x,n,by rw[h];rfl,fun t ht=>by rw[h] at ht;cases ht⟩
theorem WR.some{o:Option Tk.T3}{k:Int}{x:ByteArray}{n:Int}(h:o=some ⟨k,x,n⟩):WR o (.returned (.tuple #[.agg #[.int .i64 k,.string x,.int .i64 n,.int .i64 0],.bool true])) :=
 ⟨k,x,n,by rw[h];rfl,fun t ht=>by rw[h] at ht;cases ht;exact⟨rfl,rfl,rfl⟩⟩
def xa(l:List UInt8):Option Tk.T3:=if Tk.numOk l=true then some ⟨2,⟨#[]⟩,Txt.num l⟩ else none
theorem zP{l:List UInt8}(h:¬(1≤l.length∧l.length≤13∧Txt.allD l=true∧¬((l.getD 0 0).toNat=48∧1 < l.length)∧Txt.num l≤1099511627776)):xa l=none:=by
 unfold xa Tk.numOk;rw[decide_eq_false h];rfl
theorem jW{l:List UInt8}(h:1≤l.length∧l.length≤13∧Txt.allD l=true∧¬((l.getD 0 0).toNat=48∧1 < l.length)∧Txt.num l≤1099511627776):xa l=some ⟨2,⟨#[]⟩,Txt.num l⟩:=by
 unfold xa Tk.numOk;rw[decide_eq_true h];rfl
theorem below_alloc1(w:World)(o:Obj):Below w.heap.size w (w.alloc o):=ba1
theorem Ju(s:ByteArray)(w:World)(hs:s.size≤9223372036854775807)(h1:1≤s.size) :
 Calls Tryz.prog 115 #[.string s] w fun e w'=>WR (xa s.data.toList) e∧Below w.heap.size w w':=by
 have h0:0 < s.size:=h1;have hL:=hid (qe s);have HG0:=hid (qR s 0 h0)
 by_cases h13:s.size≤13
 ·have n13 : ¬ (13:Int) < (s.size:Int):=by omega
  by_cases hz:s[0].toNat=48∧1 < s.size
  ·have z1:((s[0].toNat:Int)==48)=true:=by simp;omega
   have z2:(1:Int) < (s.size:Int):=(by omega);have N:Hid (xa s.data.toList=none):=zP (by rw[hL.out,HG0.out];exact fun q=>q.2.2.2.1 hz);clear hz;go_enter Tryz.func115,Tryz.ntmps115;go_wp2;refine bodyPost_ret (v:=.tuple #[.agg #[.int .i64 0,.string ⟨#[]⟩,.int .i64 0,.int .i64 0],.bool false]) ?_ rfl ⟨WR.none N.out _ _ _,below_alloc1 _ _⟩;rw[results_cell_tmp rfl];go_simp
  ·have HZ := hid hz
   by_cases c:s[0].toNat=48
   ·have z1 : ((s[0].toNat:Int)==48)=true:=by simp;omega
    have z2:¬(1:Int) < (s.size:Int):=(by omega);clear hz c;go_enter Tryz.func115,Tryz.ntmps115;go_wp2_with fail
    go_loop [4,5,22] (fun n _ i=>∃k:Nat,∃m:Int,k≤s.size∧i=.int .i64 k∧n=.int .i64 m∧0≤m∧m≤10000000000000∧Hid (m=Txt.num (s.data.toList.take k)∧Txt.allD (s.data.toList.take k)=true)) (fun _ _ i=>s.size - (intOf i).toNat)
    case atStart=>exact⟨0,0,by omega,rfl,rfl,by omega,by omega,rfl,rfl⟩
    case round =>
     obtain⟨k,m,hk,rfl,rfl,hm0,hm1,HM⟩:=hrel
     by_cases qD:k < s.size
     ·have HN:Hid (Txt.num (s.data.toList.take (k+1))=10 * Txt.num (s.data.toList.take k)+((s[k].toNat:Int) - 48)):=by unfold Hid;rw[yW s k qD,Txt.num_snoc];rfl
      have HA:Hid (Txt.allD (s.data.toList.take (k+1))=Txt.isD s[k]):=(by unfold Hid;rw[yW s k qD,Txt.allD_snoc,HM.out.2,Bool.true_and]);have hi1:(k:Int) < (s.size:Int):=by omega
      by_cases hd:48≤s[k].toNat∧s[k].toNat≤57
      ·have HD:=hid hd;obtain⟨hd1,hd2⟩:=hd;have q1:¬(s[k].toNat:Int) < 48:=(by omega);have q2:¬(57:Int) < (s[k].toNat:Int):=(by omega);go_wp2
       go_round
       case rel =>
        have hA:Txt.allD (s.data.toList.take (k+1))=true:=(by rw[HA.out,Txt.isD_iff];exact HD.out);have hbd:=Txt.num_bd _ hA;have hpw:(10 ^ (s.data.toList.take (k+1)).length:Nat)≤10 ^ 13:=Nat.pow_le_pow_right (by omega) (by simp;omega);have e:10 * m+((s[k].toNat:Int) - 48)=Txt.num (s.data.toList.take (k+1)):=(by rw[HN.out,HM.out.1]);exact⟨k+1,10 * m+((s[k].toNat:Int) - 48),by omega,by go_num,rfl,by omega,by rw[e];omega,e,hA⟩
       case measure=>simp[intOf];omega
      ·have hF:Hid (xa s.data.toList=none):=by
        refine zP fun q=>?_;have hc:Txt.isD s[k]=true:=List.all_eq_true.1 q.2.2.1 s[k] (by rw[show s[k]=s.data.toList[k]'(by rw[qe];exact qD) from rfl];exact List.getElem_mem _);rw[Txt.isD_iff] at hc;exact absurd hc hd
       by_cases q1:(s[k].toNat:Int) < 48
       ·clear hd;go_wp2;refine bodyPost_ret (v:=.tuple #[.agg #[.int .i64 0,.string ⟨#[]⟩,.int .i64 0,.int .i64 0],.bool false]) ?_ rfl ⟨WR.none hF.out _ _ _,below_alloc1 _ _⟩;rw[results_cell_tmp rfl];go_simp
       ·have q2:(57:Int) < (s[k].toNat:Int):=by omega
        clear hd;go_wp2;refine bodyPost_ret (v:=.tuple #[.agg #[.int .i64 0,.string ⟨#[]⟩,.int .i64 0,.int .i64 0],.bool false]) ?_ rfl ⟨WR.none hF.out _ _ _,below_alloc1 _ _⟩;rw[results_cell_tmp rfl];go_simp
     ·have hi1:¬(k:Int) < (s.size:Int):=by omega
      have hm:Hid (m=Txt.num s.data.toList∧Txt.allD s.data.toList=true):=by
       have:=HM.out;rw[List.take_of_length_le (by rw[qe];omega)] at this;exact this
      by_cases q1:m≤1099511627776
      ·have N:Hid (xa s.data.toList=some ⟨2,⟨#[]⟩,m⟩):=by
        unfold Hid;rw[hm.out.1];exact jW ⟨by rw[qe];omega,by rw[qe];omega,hm.out.2,by rw[qe,HG0.out];exact HZ.out,by rw[← hm.out.1];exact q1⟩
       go_wp2;refine bodyPost_ret (v:=.tuple #[.agg #[.int .i64 2,.string ⟨#[]⟩,.int .i64 m,.int .i64 0],.bool true]) ?_ rfl ⟨WR.some N.out,below_alloc1 _ _⟩;rw[results_cell_tmp rfl];go_simp
      ·have N:Hid (xa s.data.toList=none):=by
        refine zP fun q=>q1 ?_;rw[hm.out.1];exact q.2.2.2.2
       go_wp2;refine bodyPost_ret (v:=.tuple #[.agg #[.int .i64 2,.string ⟨#[]⟩,.int .i64 m,.int .i64 0],.bool false]) ?_ rfl ⟨WR.none N.out _ _ _,below_alloc1 _ _⟩;rw[results_cell_tmp rfl];go_simp
   ·have z1 : ((s[0].toNat:Int)==48)=false:=by simp;omega
    clear hz c;go_enter Tryz.func115,Tryz.ntmps115;go_wp2_with fail
    go_loop [4,5,22] (fun n _ i=>∃k:Nat,∃m:Int,k≤s.size∧i=.int .i64 k∧n=.int .i64 m∧0≤m∧m≤10000000000000∧Hid (m=Txt.num (s.data.toList.take k)∧Txt.allD (s.data.toList.take k)=true)) (fun _ _ i=>s.size - (intOf i).toNat)
    case atStart=>exact⟨0,0,by omega,rfl,rfl,by omega,by omega,rfl,rfl⟩
    case round =>
     obtain⟨k,m,hk,rfl,rfl,hm0,hm1,HM⟩:=hrel
     by_cases qD:k < s.size
     ·have HN:Hid (Txt.num (s.data.toList.take (k+1))=10 * Txt.num (s.data.toList.take k)+((s[k].toNat:Int) - 48)):=by unfold Hid;rw[yW s k qD,Txt.num_snoc];rfl
      have HA:Hid (Txt.allD (s.data.toList.take (k+1))=Txt.isD s[k]):=(by unfold Hid;rw[yW s k qD,Txt.allD_snoc,HM.out.2,Bool.true_and]);have hi1:(k:Int) < (s.size:Int):=by omega
      by_cases hd:48≤s[k].toNat∧s[k].toNat≤57
      ·have HD:=hid hd;obtain⟨hd1,hd2⟩:=hd;have q1:¬(s[k].toNat:Int) < 48:=(by omega);have q2:¬(57:Int) < (s[k].toNat:Int):=(by omega);go_wp2
       go_round
       case rel =>
        have hA:Txt.allD (s.data.toList.take (k+1))=true:=(by rw[HA.out,Txt.isD_iff];exact HD.out);have hbd:=Txt.num_bd _ hA;have hpw:(10 ^ (s.data.toList.take (k+1)).length:Nat)≤10 ^ 13:=Nat.pow_le_pow_right (by omega) (by simp;omega);have e:10 * m+((s[k].toNat:Int) - 48)=Txt.num (s.data.toList.take (k+1)):=(by rw[HN.out,HM.out.1]);exact⟨k+1,10 * m+((s[k].toNat:Int) - 48),by omega,by go_num,rfl,by omega,by rw[e];omega,e,hA⟩
       case measure=>simp[intOf];omega
      ·have hF:Hid (xa s.data.toList=none):=by
        refine zP fun q=>?_;have hc:Txt.isD s[k]=true:=List.all_eq_true.1 q.2.2.1 s[k] (by rw[show s[k]=s.data.toList[k]'(by rw[qe];exact qD) from rfl];exact List.getElem_mem _);rw[Txt.isD_iff] at hc;exact absurd hc hd
       by_cases q1:(s[k].toNat:Int) < 48
       ·clear hd;go_wp2;refine bodyPost_ret (v:=.tuple #[.agg #[.int .i64 0,.string ⟨#[]⟩,.int .i64 0,.int .i64 0],.bool false]) ?_ rfl ⟨WR.none hF.out _ _ _,below_alloc1 _ _⟩;rw[results_cell_tmp rfl];go_simp
       ·have q2:(57:Int) < (s[k].toNat:Int):=by omega
        clear hd;go_wp2;refine bodyPost_ret (v:=.tuple #[.agg #[.int .i64 0,.string ⟨#[]⟩,.int .i64 0,.int .i64 0],.bool false]) ?_ rfl ⟨WR.none hF.out _ _ _,below_alloc1 _ _⟩;rw[results_cell_tmp rfl];go_simp
     ·have hi1:¬(k:Int) < (s.size:Int):=by omega
      have hm:Hid (m=Txt.num s.data.toList∧Txt.allD s.data.toList=true):=by
       have:=HM.out;rw[List.take_of_length_le (by rw[qe];omega)] at this;exact this
      by_cases q1:m≤1099511627776
      ·have N:Hid (xa s.data.toList=some ⟨2,⟨#[]⟩,m⟩):=by
        unfold Hid;rw[hm.out.1];exact jW ⟨by rw[qe];omega,by rw[qe];omega,hm.out.2,by rw[qe,HG0.out];exact HZ.out,by rw[← hm.out.1];exact q1⟩
       go_wp2;refine bodyPost_ret (v:=.tuple #[.agg #[.int .i64 2,.string ⟨#[]⟩,.int .i64 m,.int .i64 0],.bool true]) ?_ rfl ⟨WR.some N.out,below_alloc1 _ _⟩;rw[results_cell_tmp rfl];go_simp
      ·have N:Hid (xa s.data.toList=none):=by
        refine zP fun q=>q1 ?_;rw[hm.out.1];exact q.2.2.2.2
       go_wp2;refine bodyPost_ret (v:=.tuple #[.agg #[.int .i64 2,.string ⟨#[]⟩,.int .i64 m,.int .i64 0],.bool false]) ?_ rfl ⟨WR.none N.out _ _ _,below_alloc1 _ _⟩;rw[results_cell_tmp rfl];go_simp
 ·have n13:(13:Int) < (s.size:Int):=by omega
  have N:Hid (xa s.data.toList=none):=zP (by rw[hL.out];exact fun q=>h13 q.2.1);go_enter Tryz.func115,Tryz.ntmps115;go_wp2;refine bodyPost_ret (v:=.tuple #[.agg #[.int .i64 0,.string ⟨#[]⟩,.int .i64 0,.int .i64 0],.bool false]) ?_ rfl ⟨WR.none N.out _ _ _,below_alloc1 _ _⟩;rw[results_cell_tmp rfl];go_simp
theorem yx(s:ByteArray):s.toList.isEmpty=decide (s.size=0):=by
 rw[Lib.toList_data];cases h:s.data.toList with
 | nil=>have:=qe s;rw[h] at this;simp at this;simp[← this]
 | cons a l=>have:=qe s;rw[h] at this;simp at this;simp[← this]
theorem Yk(s:ByteArray)(b:Bool)(w:World)(h:Lib.hasPrefix s.data.toList [60,61]=b):Calls Tryz.prog 116 #[.string s,.string ⟨#[60,61]⟩] w fun e w'=>e=.returned (.bool b)∧w=w':=by
 refine(Tryz.strings_HasPrefix s ⟨#[60,61]⟩ w).mono ?_;rintro e w' ⟨rfl,rfl⟩;exact⟨qS h,rfl⟩
theorem Uy(c:UInt8)(w:World):Calls Tryz.prog 117 #[.string ⟨#[43,45,42,47,40,41,44,60,61]⟩,.int .u8 c.toNat] w fun e w'=>∃m:Int,e=.returned (.int .i64 m)∧w=w'∧decide (0≤m)=Tk.inS c:=by
 refine(Tryz.strings_IndexByte ⟨#[43,45,42,47,40,41,44,60,61]⟩ c.toNat w).mono ?_;rintro e w' ⟨rfl,rfl⟩;refine⟨_,rfl,rfl,?_⟩;have:(c.toNat:Int).toNat.toUInt8=c:=by rw[Int.toNat_natCast];exact UInt8.ofNat_toNat
 rw[this];exact Kc c
theorem UZ(s:ByteArray):s.extract 0 0=⟨#[]⟩:=by
 apply ByteArray.ext;simp
theorem QZ{l:List UInt8}(h:Lib.hasPrefix l [60,61]=true):Tk.sgn l=2∧2≤l.length:=by
 rw[uZ,decide_eq_true_eq] at h;have h2:=Tk.sgn_le l;have h1:Tk.sgn l=2:=by unfold Tk.sgn;rw[if_pos h]
 exact⟨h1,by omega⟩
theorem sgn_one{l:List UInt8}(h:Lib.hasPrefix l [60,61]=false)(hl:1≤l.length):Tk.sgn l=if Tk.inS (l.getD 0 0)=true then 1 else 0:=by
 rw[uZ,decide_eq_false_iff_not] at h;unfold Tk.sgn;rw[if_neg h]
 by_cases q:Tk.inS (l.getD 0 0)=true
 ·rw[if_pos ⟨hl,q⟩,if_pos q]
 ·rw[if_neg (fun z=>q z.2),if_neg q]
theorem KQ{l:List UInt8}(hl:l.length=0):Tk.sgn l=0:=by have:=Tk.sgn_le l;omega
theorem uG(s:ByteArray)(w:World)(hs:s.size≤9223372036854775807) :
 Calls Tryz.prog 68 #[.string s] w fun e w'=>e=.returned (.string (s.extract 0 (Tk.sgn s.data.toList)))∧w=w':=by
 cases hp:Lib.hasPrefix s.data.toList [60,61] with
 | true =>
   obtain⟨h1,h2⟩:=QZ hp;rw[qe] at h2;rw[h1];have HP:=hid hp;clear hp h1;go_enter Tryz.func68,Tryz.ntmps68;go_wp2_with (go_at_call 116;refine(Yk _ _ _ HP.out).mono ?_;rintro e w' ⟨rfl,rfl⟩);go_ret;exact⟨rfl,rfl⟩
 | false =>
   have HP:=hid hp
   by_cases h0:s.size=0
   ·have h1:=KQ (l:=s.data.toList) (by rw[qe];exact h0);have e1:s.toList.isEmpty=true:=(by rw[yx];simp[h0]);have e2:(!s.toList.isEmpty)=false:=(by rw[e1];rfl);rw[h1,UZ];clear hp h0 h1;go_enter Tryz.func68,Tryz.ntmps68;go_wp2_with (go_at_call 116;refine(Yk _ _ _ HP.out).mono ?_;rintro e w' ⟨rfl,rfl⟩);go_ret;exact⟨rfl,rfl⟩
   ·have qD:0 < s.size:=by omega
    have h1:=sgn_one hp (by rw[qe];omega);rw[qR s 0 qD] at h1;have e1:s.toList.isEmpty=false:=(by rw[yx];simp[h0]);have e2:(!s.toList.isEmpty)=true:=(by rw[e1];rfl);cases hi:Tk.inS s[0] with
    | true =>
      rw[hi,if_pos rfl] at h1;rw[h1];have HI:=hid hi;clear hp h0 h1 hi;go_enter Tryz.func68,Tryz.ntmps68;go_wp2_with (first|(go_at_call 116;refine(Yk _ _ _ HP.out).mono ?_;rintro e w' ⟨rfl,rfl⟩)|(go_at_call 117;refine(Uy _ _).mono ?_;rintro e w' ⟨m,rfl,rfl,hm⟩;rw[HI.out,decide_eq_true_eq] at hm));go_ret;exact⟨rfl,rfl⟩
    | false =>
      rw[hi,if_neg (by simp)] at h1;rw[h1,UZ];have HI:=hid hi;clear hp h0 h1 hi;go_enter Tryz.func68,Tryz.ntmps68;go_wp2_with (first|(go_at_call 116;refine(Yk _ _ _ HP.out).mono ?_;rintro e w' ⟨rfl,rfl⟩)|(go_at_call 117;refine(Uy _ _).mono ?_;rintro e w' ⟨m,rfl,rfl,hm⟩;rw[HI.out,decide_eq_false_iff_not] at hm));go_ret;exact⟨rfl,rfl⟩
theorem Kq(s:ByteArray)(h:1 < s.size):((s.extract 0 2).toList==[60,61])=Lib.hasPrefix s.data.toList [60,61]:=by
 rw[uZ,Lib.toList_data,ext_list,List.drop_zero];have hl:=qe s
 match hq:s.data.toList with
 | []=>rw[hq] at hl;simp at hl;omega
 | [a]=>rw[hq] at hl;simp at hl;omega
 | a :: b :: l =>
   simp only[List.take_succ_cons,List.take_zero,List.getD_cons_zero,List.getD_cons_succ];rw[Bool.eq_iff_iff];simp only[beq_iff_eq,decide_eq_true_eq,List.cons.injEq,and_true];constructor
   ·rintro ⟨rfl,rfl⟩;exact⟨rfl,rfl⟩
   ·rintro ⟨h1,h2⟩;exact⟨UInt8.toNat_inj.1 h1,UInt8.toNat_inj.1 h2⟩
theorem YG(s:ByteArray)(w:World)(hs:s.size≤9223372036854775807)(h1:1≤s.size) :
 Calls Tryz.prog 74 #[.string s] w fun e w'=>e=.returned (.string (s.extract 0 (Tk.sgn s.data.toList)))∧w=w':=by
 have qD:0 < s.size:=h1
 have FI:Hid (∀(c:UInt8) (b:Bool) (w:World),Tk.inS c=b→Calls Tryz.prog 120 #[.string ⟨#[43,45,42,47,40,41,44,60,61]⟩,.int .u8 c.toNat] w fun e w'=>∃m:Int,e=.returned (.int .i64 m)∧w=w'∧decide (0≤m)=b):=by
  intro c b w hb;refine(kC ⟨#[43,45,42,47,40,41,44,60,61]⟩ c w (by decide)).mono ?_;rintro e w' ⟨rfl,rfl⟩;exact⟨_,rfl,rfl,(Kc c).trans hb⟩
 cases hp:Lib.hasPrefix s.data.toList [60,61] with
 | true =>
   obtain⟨g1,g2⟩:=QZ hp;rw[qe] at g2;rw[g1];have hb:((s.extract 0 2).toList==[60,61])=true:=(by rw[Kq s (by omega),hp]);have hz:(1:Int) < (s.size:Int):=(by omega);clear hp g1;go_enter Tryz.func74,Tryz.ntmps74;go_wp2;go_ret;exact⟨rfl,rfl⟩
 | false =>
   have g1:=sgn_one hp (by rw[qe];omega);rw[qR s 0 qD] at g1
   have hz:(1 < (s.size:Int)∧((s.extract 0 2).toList==[60,61])=false)∨¬(1:Int) < (s.size:Int):=by
    by_cases q:1 < s.size
    ·exact .inl ⟨by omega,by rw[Kq s q,hp]⟩
    ·exact .inr (by omega)
   cases hi:Tk.inS s[0] with
   | true =>
     rw[hi,if_pos rfl] at g1;rw[g1];have HI:=hid hi;clear hp g1 hi;rcases hz with ⟨z1,z2⟩|z1
     ·go_enter Tryz.func74,Tryz.ntmps74;go_wp2_with (go_at_call 120;refine(FI.out _ _ _ HI.out).mono ?_;rintro e w' ⟨m,rfl,rfl,hm⟩;rw[decide_eq_true_eq] at hm);go_ret;exact⟨rfl,rfl⟩
     ·go_enter Tryz.func74,Tryz.ntmps74;go_wp2_with (go_at_call 120;refine(FI.out _ _ _ HI.out).mono ?_;rintro e w' ⟨m,rfl,rfl,hm⟩;rw[decide_eq_true_eq] at hm);go_ret;exact⟨rfl,rfl⟩
   | false =>
     rw[hi,if_neg (by simp)] at g1;rw[g1,UZ];have HI:=hid hi;clear hp g1 hi;rcases hz with ⟨z1,z2⟩|z1
     ·go_enter Tryz.func74,Tryz.ntmps74;go_wp2_with (go_at_call 120;refine(FI.out _ _ _ HI.out).mono ?_;rintro e w' ⟨m,rfl,rfl,hm⟩;rw[decide_eq_false_iff_not] at hm);go_ret;exact⟨rfl,rfl⟩
     ·go_enter Tryz.func74,Tryz.ntmps74;go_wp2_with (go_at_call 120;refine(FI.out _ _ _ HI.out).mono ?_;rintro e w' ⟨m,rfl,rfl,hm⟩;rw[decide_eq_false_iff_not] at hm);go_ret;exact⟨rfl,rfl⟩
theorem Yz{w w1:World}(hb:Below (w.alloc (.cells #[.int .i64 0,.string ⟨#[]⟩,.int .i64 0,.int .i64 0] 68)).heap.size (w.alloc (.cells #[.int .i64 0,.string ⟨#[]⟩,.int .i64 0,.int .i64 0] 68)) w1) :
 w1.cell? ⟨w.heap.size,0,none⟩=some (.int .i64 0)∧w1.cell? ⟨w.heap.size,1,none⟩=some (.string ⟨#[]⟩)∧w1.cell? ⟨w.heap.size,2,none⟩=some (.int .i64 0)∧w1.cell? ⟨w.heap.size,3,none⟩=some (.int .i64 0)∧
 w1.frozen? ⟨w.heap.size,0,none⟩=false∧w1.frozen? ⟨w.heap.size,1,none⟩=false∧w1.frozen? ⟨w.heap.size,2,none⟩=false∧w1.frozen? ⟨w.heap.size,3,none⟩=false :=
 ⟨yQ hb 0,yQ hb 1,yQ hb 2,yQ hb 3,xm hb 0,xm hb 1,xm hb 2,xm hb 3⟩
theorem V3(l:List UInt8):Lib.containsAny l [58,64]=(Tk.has l 58 || Tk.has l 64):=by
 unfold Lib.containsAny
 induction l with
 | nil=>rfl
 | cons c l ih =>
   have hg:=Lib.indexAny_ge [58,64] l;have e58:(c==58)=decide (c.toNat=58):=(vn c 58);have e64:(c==64)=decide (c.toNat=64):=vn c 64
   have hc:([58,64]:List UInt8).contains c=(decide (c.toNat=58) || decide (c.toNat=64)):=by
    rw[← e58,← e64];simp[List.contains_cons,List.elem_eq_contains];rfl
   unfold Lib.indexAny;rw[hc];have hh:∀k,Tk.has (c :: l) k=(decide (c.toNat=k) || Tk.has l k):=fun k=>rfl;rw[hh,hh];cases h1:decide (c.toNat=58) with
   | true=>simp
   | false =>
     cases h2:decide (c.toNat=64) with
     | true=>simp
     | false =>
       simp only[Bool.or_self,Bool.false_or,Bool.false_eq_true,if_false];rw[← ih]
       by_cases q:Lib.indexAny l [58,64] = -1
       ·rw[q];rfl
       ·rw [if_neg (by simpa using q)]
        congr 1
        apply propext;omega
theorem QJ(l:List UInt8)(k:Nat)(c:UInt8)(hk:c.toNat=k):decide (0≤Lib.indexByte l c)=Tk.has l k:=by
 have h1:=Txt.ix_none l c;have h2:=Txt.ix_ge l c;unfold Tk.has;rw[Bool.eq_iff_iff,decide_eq_true_eq,List.any_eq_true];have h3:0≤Lib.indexByte l c↔¬∀x∈ l,x≠c:=by rw[← h1];omega
 rw[h3];constructor
 ·intro h
  by_cases q:∃x,x∈ l∧decide (x.toNat=k)=true
  ·exact q
  ·refine absurd (fun x hx e=>q ⟨x,hx,?_⟩) h;rw[e,hk];simp
 ·rintro⟨x,hx,e⟩ h;rw[decide_eq_true_eq] at e;exact h x hx (UInt8.toNat_inj.1 (by rw[e,hk]))
theorem Vv(s:ByteArray)(b:Bool)(w:World)(hs:s.size≤33)(hw:∀x∈ s.data.toList,Tk.inW x=true)(h:(Tk.has s.data.toList 58 || Tk.has s.data.toList 64)=b) :
 Calls Tryz.prog 111 #[.string s,.string ⟨#[58,64]⟩] w fun e w'=>e=.returned (.bool b)∧Below w.heap.size w w':=by
 refine(Tryz.strings_ContainsAny_laid s ⟨#[58,64]⟩ w (by omega) (by decide) ?_ ?_).mono ?_
 ·intro j x hx;have:=hw x (List.mem_of_getElem? hx);unfold Tk.inW at this;rw[decide_eq_true_eq] at this;omega
 ·intro j x hx
  match j with
  | 0=>simp at hx;subst hx;decide
  | 1=>simp at hx;subst hx;decide
  | j+2=>simp at hx
 ·rintro e w' ⟨rfl,hb⟩;exact⟨qS ((V3 _).trans h),hb⟩
theorem Vn(s:ByteArray)(b:Bool)(w:World)(h:Tk.has s.data.toList 58=b) :
 Calls Tryz.prog 113 #[.string s,.string ⟨#[58]⟩] w fun e w'=>e=.returned (.bool b)∧w=w':=by
 refine(Tryz.strings_Contains_one s 58 w).mono ?_;rintro e w' ⟨rfl,rfl⟩;exact⟨qS ((QJ _ 58 58 rfl).trans h),rfl⟩
theorem uo(s:ByteArray)(c:UInt8)(k:Nat)(b:Bool)(w:World)(hs:s.size≤9223372036854775807)(hk:c.toNat=k)(h:Tk.has s.data.toList k=b) :
 Calls Tryz.prog 120 #[.string s,.int .u8 k] w fun e w'=>∃m:Int,e=.returned (.int .i64 m)∧w=w'∧decide (0≤m)=b:=by
 subst hk;refine(kC s c w hs).mono ?_;rintro e w' ⟨rfl,rfl⟩;exact⟨_,rfl,rfl,(QJ _ _ c rfl).trans h⟩
theorem uB{s:ByteArray}(h0:0 < s.size)(h1:97≤s[0].toNat)(h2:s[0].toNat≤122):Tk.word s=if 33 < s.size∨Tk.has s.data.toList 58=true∨Tk.has s.data.toList 64=true then none else some ⟨1,s,0⟩:=by
 unfold Tk.word;rw[qR s 0 h0,if_pos ⟨h1,h2⟩]
theorem jG{s:ByteArray}(h0:0 < s.size)(h1:s[0].toNat=64):Tk.word s=if vO (s.extract 1 s.size)=0 then some ⟨4,⟨#[]⟩,vN (s.extract 1 s.size)⟩ else none:=by
 unfold Tk.word;rw[qR s 0 h0,if_neg (by omega),if_pos h1]
theorem ke{s:ByteArray}(h0:0 < s.size)(h1:¬ 97≤s[0].toNat)(h2:s[0].toNat≠64)(h3:Tk.has s.data.toList 58=true):Tk.word s=if Txt.duE s.data.toList=0 then some ⟨3,⟨#[]⟩,Txt.duV s.data.toList⟩ else none:=by
 unfold Tk.word;rw[qR s 0 h0,if_neg (by omega),if_neg h2,if_pos h3]
theorem kP{s:ByteArray}(h0:0 < s.size)(h1:¬ 97≤s[0].toNat)(h2:s[0].toNat≠64)(h3:Tk.has s.data.toList 58=false):Tk.word s=xa s.data.toList:=by
 unfold Tk.word;rw[qR s 0 h0,if_neg (by omega),if_neg h2,if_neg (by rw[h3];simp)];rfl
theorem xY{s:ByteArray}(h0:s.size=0):Tk.word s=none:=by
 obtain rfl:s=⟨#[]⟩:=by
  apply ByteArray.ext;exact Array.eq_empty_of_size_eq_zero h0
 rfl
theorem Kb{s:ByteArray}(h0:0 < s.size)(hw:∀x∈ s.data.toList,Tk.inW x=true):s[0].toNat≤122:=by
 have:=hw s[0] (by rw[show s[0]=s.data.toList[0]'(by rw[qe];exact h0) from rfl];exact List.getElem_mem _);unfold Tk.inW at this;rw[decide_eq_true_eq] at this;omega
theorem xq(s:ByteArray)(w:World)(hs:s.size≤9223372036854775807)(hw:∀x∈ s.data.toList,Tk.inW x=true) :
 Calls Tryz.prog 67 #[.string s] w fun e w'=>WR (Tk.word s) e∧Below w.heap.size w w':=by
 have HW:=hid hw;clear hw
 by_cases h0:s.size=0
 ·have N:=hid (xY h0);have e1:s.toList.isEmpty=true:=(by rw[yx];simp[h0]);clear h0;go_enter Tryz.func67,Tryz.ntmps67;go_wp2;refine bodyPost_ret (v:=.tuple #[.agg #[.int .i64 0,.string ⟨#[]⟩,.int .i64 0,.int .i64 0],.bool false]) ?_ rfl ⟨WR.none N.out _ _ _,below_alloc1 _ _⟩;rw[results_cell_tmp rfl];go_simp
 ·have e1 : s.toList.isEmpty=false:=by rw[yx];simp[h0]
  have qD:0 < s.size:=(by omega);clear h0
  by_cases h1:97≤s[0].toNat
  ·have h2:=Kb qD HW.out;have W:=hid (uB qD h1 h2);have h1':(97:Int)≤(s[0].toNat:Int):=(by omega);have h2':(s[0].toNat:Int)≤122:=by omega
   by_cases h3:33 < s.size
   ·have h3':(33:Int) < (s.size:Int):=by omega
    have N:Hid (Tk.word s=none):=(by unfold Hid;rw[W.out,if_pos (.inl h3)]);go_enter Tryz.func67,Tryz.ntmps67;go_wp2;refine bodyPost_ret (v:=.tuple #[.agg #[.int .i64 0,.string ⟨#[]⟩,.int .i64 0,.int .i64 0],.bool false]) ?_ rfl ⟨WR.none N.out _ _ _,below_alloc1 _ _⟩;rw[results_cell_tmp rfl];go_simp
   ·have h3':¬(33:Int) < (s.size:Int):=by omega
    cases hq:(Tk.has s.data.toList 58 || Tk.has s.data.toList 64) with
    | true =>
      have N:Hid (Tk.word s=none):=(by unfold Hid;rw[W.out,if_pos (.inr (by simpa using hq))]);have HQ:=hid hq;clear hq;go_enter Tryz.func67,Tryz.ntmps67;go_wp2_with fail;refine(Vv s _ _ (by omega) HW.out HQ.out).mono ?_;rintro e w1 ⟨rfl,hb⟩;have B1:Hid (Below w.heap.size w w1):=(below_alloc1 w _).trans (hb.mono (by simp));obtain⟨c0,c1,c2,c3,f0,f1,f2,f3⟩:=Yz hb;clear hb;go_wp2;refine bodyPost_ret (v:=.tuple #[.agg #[.int .i64 0,.string ⟨#[]⟩,.int .i64 0,.int .i64 0],.bool false]) ?_ rfl ⟨WR.none N.out _ _ _,((((B1.out).setCell (p:=⟨w.heap.size,0,none⟩) (Nat.le_refl _) _).setCell (p:=⟨w.heap.size,1,none⟩) (Nat.le_refl _) _).setCell (p:=⟨w.heap.size,2,none⟩) (Nat.le_refl _) _).setCell (p:=⟨w.heap.size,3,none⟩) (Nat.le_refl _) _⟩;rw[results_cell_tmp rfl];go_simp
    | false =>
      have N:Hid (Tk.word s=some ⟨1,s,0⟩):=(by unfold Hid;rw[W.out,if_neg (by rintro (q|q|q);exact h3 q;simp[q] at hq;simp[q] at hq)]);have HQ:=hid hq;clear hq;go_enter Tryz.func67,Tryz.ntmps67;go_wp2_with fail;refine(Vv s _ _ (by omega) HW.out HQ.out).mono ?_;rintro e w1 ⟨rfl,hb⟩;have B1:Hid (Below w.heap.size w w1):=(below_alloc1 w _).trans (hb.mono (by simp));obtain⟨c0,c1,c2,c3,f0,f1,f2,f3⟩:=Yz hb;clear hb;go_wp2;refine bodyPost_ret (v:=.tuple #[.agg #[.int .i64 1,.string s,.int .i64 0,.int .i64 0],.bool true]) ?_ rfl ⟨WR.some N.out,((((B1.out).setCell (p:=⟨w.heap.size,0,none⟩) (Nat.le_refl _) _).setCell (p:=⟨w.heap.size,1,none⟩) (Nat.le_refl _) _).setCell (p:=⟨w.heap.size,2,none⟩) (Nat.le_refl _) _).setCell (p:=⟨w.heap.size,3,none⟩) (Nat.le_refl _) _⟩;rw[results_cell_tmp rfl];go_simp
  ·have h1':¬(97:Int)≤(s[0].toNat:Int):=by omega
   by_cases h2:s[0].toNat=64
   ·have h2':((s[0].toNat:Int)==64)=true:=by simp;omega
    have W:=hid (jG qD h2);clear h2;have hz:(s.extract 1 s.size).size≤9223372036854775807:=(by rw[ByteArray.size_extract];omega);go_enter Tryz.func67,Tryz.ntmps67;go_wp2_with fail;refine(Qt (s.extract 1 s.size) _ hz).mono ?_;generalize vO (s.extract 1 s.size)=pe at *;generalize vN (s.extract 1 s.size)=pv at *;rintro e w1 ⟨rfl,hb⟩;have B1:Hid (Below w.heap.size w w1):=(below_alloc1 w _).trans (hb.mono (by simp));obtain⟨c0,c1,c2,c3,f0,f1,f2,f3⟩:=Yz hb;clear hb
    by_cases h3:pe=0
    ·have h3':(pe==0)=true:=by simp[h3]
     have N:Hid (Tk.word s=some ⟨4,⟨#[]⟩,pv⟩):=(by unfold Hid;rw[W.out,if_pos h3]);clear h3;go_wp2;refine bodyPost_ret (v:=.tuple #[.agg #[.int .i64 4,.string ⟨#[]⟩,.int .i64 pv,.int .i64 0],.bool true]) ?_ rfl ⟨WR.some N.out,((((B1.out).setCell (p:=⟨w.heap.size,0,none⟩) (Nat.le_refl _) _).setCell (p:=⟨w.heap.size,1,none⟩) (Nat.le_refl _) _).setCell (p:=⟨w.heap.size,2,none⟩) (Nat.le_refl _) _).setCell (p:=⟨w.heap.size,3,none⟩) (Nat.le_refl _) _⟩;rw[results_cell_tmp rfl];go_simp
    ·have h3':(pe==0)=false:=by simp[h3]
     have N:Hid (Tk.word s=none):=(by unfold Hid;rw[W.out,if_neg h3]);clear h3;go_wp2;refine bodyPost_ret (v:=.tuple #[.agg #[.int .i64 4,.string ⟨#[]⟩,.int .i64 pv,.int .i64 0],.bool false]) ?_ rfl ⟨WR.none N.out _ _ _,((((B1.out).setCell (p:=⟨w.heap.size,0,none⟩) (Nat.le_refl _) _).setCell (p:=⟨w.heap.size,1,none⟩) (Nat.le_refl _) _).setCell (p:=⟨w.heap.size,2,none⟩) (Nat.le_refl _) _).setCell (p:=⟨w.heap.size,3,none⟩) (Nat.le_refl _) _⟩;rw[results_cell_tmp rfl];go_simp
   ·have h2':((s[0].toNat:Int)==64)=false:=by simp;omega
    cases h3:Tk.has s.data.toList 58 with
    | true =>
      have W:=hid (ke qD h1 h2 h3);have H3:=hid h3;clear h3 h2;go_enter Tryz.func67,Tryz.ntmps67;go_wp2_with fail;refine(Vn s _ _ H3.out).mono ?_;rintro e w' ⟨rfl,rfl⟩;go_wp2_with fail;refine(JM s _ hs).mono ?_;generalize Txt.duE s.data.toList=pe at *;generalize Txt.duV s.data.toList=pv at *;rintro e w1 ⟨rfl,hb⟩;have B1:Hid (Below w.heap.size w w1):=(below_alloc1 w _).trans (hb.mono (by simp));obtain⟨c0,c1,c2,c3,f0,f1,f2,f3⟩:=Yz hb;clear hb
      by_cases h3:pe=0
      ·have h3':(pe==0)=true:=by simp[h3]
       have N:Hid (Tk.word s=some ⟨3,⟨#[]⟩,pv⟩):=(by unfold Hid;rw[W.out,if_pos h3]);clear h3;go_wp2;refine bodyPost_ret (v:=.tuple #[.agg #[.int .i64 3,.string ⟨#[]⟩,.int .i64 pv,.int .i64 0],.bool true]) ?_ rfl ⟨WR.some N.out,((((B1.out).setCell (p:=⟨w.heap.size,0,none⟩) (Nat.le_refl _) _).setCell (p:=⟨w.heap.size,1,none⟩) (Nat.le_refl _) _).setCell (p:=⟨w.heap.size,2,none⟩) (Nat.le_refl _) _).setCell (p:=⟨w.heap.size,3,none⟩) (Nat.le_refl _) _⟩;rw[results_cell_tmp rfl];go_simp
      ·have h3':(pe==0)=false:=by simp[h3]
       have N:Hid (Tk.word s=none):=(by unfold Hid;rw[W.out,if_neg h3]);clear h3;go_wp2;refine bodyPost_ret (v:=.tuple #[.agg #[.int .i64 3,.string ⟨#[]⟩,.int .i64 pv,.int .i64 0],.bool false]) ?_ rfl ⟨WR.none N.out _ _ _,((((B1.out).setCell (p:=⟨w.heap.size,0,none⟩) (Nat.le_refl _) _).setCell (p:=⟨w.heap.size,1,none⟩) (Nat.le_refl _) _).setCell (p:=⟨w.heap.size,2,none⟩) (Nat.le_refl _) _).setCell (p:=⟨w.heap.size,3,none⟩) (Nat.le_refl _) _⟩;rw[results_cell_tmp rfl];go_simp
    | false =>
      have W:=hid (kP qD h1 h2 h3);have H3:=hid h3;clear h3 h2;go_enter Tryz.func67,Tryz.ntmps67;go_wp2_with fail;refine(Vn s _ _ H3.out).mono ?_;rintro e w' ⟨rfl,rfl⟩;go_wp2_with fail;refine(Ju s _ hs qD).mono ?_;rw[← W.out];rintro e w1 ⟨⟨k,x,n,rfl,hx⟩,hb⟩;have HX:Hid (WR (Tk.word s) (.returned (.tuple #[.agg #[.int .i64 k,.string x,.int .i64 n,.int .i64 0],.bool (Tk.word s).isSome]))):=⟨k,x,n,rfl,hx⟩;clear hx;generalize (Tk.word s).isSome=ob at *;have B1:Hid (Below w.heap.size w w1):=(below_alloc1 w _).trans (hb.mono (by simp));obtain⟨c0,c1,c2,c3,f0,f1,f2,f3⟩:=Yz hb;clear hb;go_wp2;refine bodyPost_ret (v:=.tuple #[.agg #[.int .i64 k,.string x,.int .i64 n,.int .i64 0],.bool ob]) ?_ rfl ⟨HX.out,((((B1.out).setCell (p:=⟨w.heap.size,0,none⟩) (Nat.le_refl _) _).setCell (p:=⟨w.heap.size,1,none⟩) (Nat.le_refl _) _).setCell (p:=⟨w.heap.size,2,none⟩) (Nat.le_refl _) _).setCell (p:=⟨w.heap.size,3,none⟩) (Nat.le_refl _) _⟩;rw[results_cell_tmp rfl];go_simp
theorem YF(s:ByteArray)(w:World)(hs:s.size≤9223372036854775807)(hw:∀x∈ s.data.toList,Tk.inW x=true)(qD:0 < s.size) :
 Calls Tryz.prog 73 #[.string s] w fun e w'=>WR (Tk.word s) e∧Below w.heap.size w w':=by
 have HW:=hid hw;clear hw
 by_cases h1:97≤s[0].toNat
 ·have h2:=Kb qD HW.out;have W:=hid (uB qD h1 h2);have h1':(97:Int)≤(s[0].toNat:Int):=(by omega);have h2':(s[0].toNat:Int)≤122:=by omega
  by_cases h3:33 < s.size
  ·have h3':(33:Int) < (s.size:Int):=by omega
   have N:Hid (Tk.word s=none):=(by unfold Hid;rw[W.out,if_pos (.inl h3)]);go_enter Tryz.func73,Tryz.ntmps73;go_wp2;refine bodyPost_ret (v:=.tuple #[.agg #[.int .i64 0,.string ⟨#[]⟩,.int .i64 0,.int .i64 0],.bool false]) ?_ rfl ⟨WR.none N.out _ _ _,below_alloc1 _ _⟩;rw[results_cell_tmp rfl];go_simp
  ·have h3':¬(33:Int) < (s.size:Int):=by omega
   cases hq:Tk.has s.data.toList 58 with
   | true =>
     have N:Hid (Tk.word s=none):=(by unfold Hid;rw[W.out,if_pos (.inr (.inl hq))]);have HQ:=hid hq;clear hq;go_enter Tryz.func73,Tryz.ntmps73;go_wp2_with fail;refine(uo s 58 58 _ _ hs rfl HQ.out).mono ?_;rintro e w1 ⟨m,rfl,rfl,hm⟩;rw[decide_eq_true_eq] at hm;go_wp2;refine bodyPost_ret (v:=.tuple #[.agg #[.int .i64 0,.string ⟨#[]⟩,.int .i64 0,.int .i64 0],.bool false]) ?_ rfl ⟨WR.none N.out _ _ _,below_alloc1 _ _⟩;rw[results_cell_tmp rfl];go_simp
   | false =>
     have HQ:=hid hq;cases hr:Tk.has s.data.toList 64 with
     | true =>
       have N:Hid (Tk.word s=none):=(by unfold Hid;rw[W.out,if_pos (.inr (.inr hr))]);have HR:=hid hr;clear hq hr;go_enter Tryz.func73,Tryz.ntmps73;go_wp2_with fail;refine(uo s 58 58 _ _ hs rfl HQ.out).mono ?_;rintro e w1 ⟨m,rfl,rfl,hm⟩;rw[decide_eq_false_iff_not] at hm;go_wp2_with fail;refine(uo s 64 64 _ _ hs rfl HR.out).mono ?_;rintro e w1 ⟨m2,rfl,rfl,hm2⟩;rw[decide_eq_true_eq] at hm2;go_wp2;refine bodyPost_ret (v:=.tuple #[.agg #[.int .i64 0,.string ⟨#[]⟩,.int .i64 0,.int .i64 0],.bool false]) ?_ rfl ⟨WR.none N.out _ _ _,below_alloc1 _ _⟩;rw[results_cell_tmp rfl];go_simp
     | false =>
       have N:Hid (Tk.word s=some ⟨1,s,0⟩):=(by unfold Hid;rw[W.out,if_neg (by rintro (q|q|q);exact h3 q;simp[q] at hq;simp[q] at hr)]);have HR:=hid hr;clear hq hr;go_enter Tryz.func73,Tryz.ntmps73;go_wp2_with fail;refine(uo s 58 58 _ _ hs rfl HQ.out).mono ?_;rintro e w1 ⟨m,rfl,rfl,hm⟩;rw[decide_eq_false_iff_not] at hm;go_wp2_with fail;refine(uo s 64 64 _ _ hs rfl HR.out).mono ?_;rintro e w1 ⟨m2,rfl,rfl,hm2⟩;rw[decide_eq_false_iff_not] at hm2;go_wp2;refine bodyPost_ret (v:=.tuple #[.agg #[.int .i64 1,.string s,.int .i64 0,.int .i64 0],.bool true]) ?_ rfl ⟨WR.some N.out,below_alloc1 _ _⟩;rw[results_cell_tmp rfl];go_simp
 ·have h1' : ¬ (97:Int)≤(s[0].toNat:Int):=by omega
  by_cases h2:s[0].toNat=64
  ·have h2':((s[0].toNat:Int)==64)=true:=by simp;omega
   have W:=hid (jG qD h2);clear h2;have hz:(s.extract 1 s.size).size≤9223372036854775807:=(by rw[ByteArray.size_extract];omega);go_enter Tryz.func73,Tryz.ntmps73;go_wp2_with fail;refine(ug (s.extract 1 s.size) _ hz).mono ?_;generalize vO (s.extract 1 s.size)=pe at *;generalize vN (s.extract 1 s.size)=pv at *;rintro e w1 ⟨rfl,rfl⟩
   by_cases h3:pe=0
   ·have h3':(pe==0)=true:=by simp[h3]
    have N:Hid (Tk.word s=some ⟨4,⟨#[]⟩,pv⟩):=(by unfold Hid;rw[W.out,if_pos h3]);clear h3;go_wp2;refine bodyPost_ret (v:=.tuple #[.agg #[.int .i64 4,.string ⟨#[]⟩,.int .i64 pv,.int .i64 0],.bool true]) ?_ rfl ⟨WR.some N.out,below_alloc1 _ _⟩;rw[results_cell_tmp rfl];go_simp
   ·have h3':(pe==0)=false:=by simp[h3]
    have N:Hid (Tk.word s=none):=(by unfold Hid;rw[W.out,if_neg h3]);clear h3;go_wp2;refine bodyPost_ret (v:=.tuple #[.agg #[.int .i64 4,.string ⟨#[]⟩,.int .i64 pv,.int .i64 0],.bool false]) ?_ rfl ⟨WR.none N.out _ _ _,below_alloc1 _ _⟩;rw[results_cell_tmp rfl];go_simp
  ·have h2' : ((s[0].toNat:Int)==64)=false:=by simp;omega
   cases h3:Tk.has s.data.toList 58 with
   | true =>
     have W:=hid (ke qD h1 h2 h3);have H3:=hid h3;clear h3 h2;go_enter Tryz.func73,Tryz.ntmps73;go_wp2_with fail;refine(uo s 58 58 _ _ hs rfl H3.out).mono ?_;rintro e w1 ⟨m,rfl,rfl,hm⟩;rw[decide_eq_true_eq] at hm;go_wp2_with fail;have PD:=vf s.data.toList (w.alloc (.cells #[.int .i64 0,.string ⟨#[]⟩,.int .i64 0,.int .i64 0] 68)) (by rw[qe];exact hs);rw[vo] at PD;refine PD.mono ?_;clear PD;generalize Txt.duE s.data.toList=pe at *;generalize Txt.duV s.data.toList=pv at *;rintro e w1 ⟨rfl,rfl⟩
     by_cases h3:pe=0
     ·have h3':(pe==0)=true:=by simp[h3]
      have N:Hid (Tk.word s=some ⟨3,⟨#[]⟩,pv⟩):=(by unfold Hid;rw[W.out,if_pos h3]);clear h3;go_wp2;refine bodyPost_ret (v:=.tuple #[.agg #[.int .i64 3,.string ⟨#[]⟩,.int .i64 pv,.int .i64 0],.bool true]) ?_ rfl ⟨WR.some N.out,below_alloc1 _ _⟩;rw[results_cell_tmp rfl];go_simp
     ·have h3':(pe==0)=false:=by simp[h3]
      have N:Hid (Tk.word s=none):=(by unfold Hid;rw[W.out,if_neg h3]);clear h3;go_wp2;refine bodyPost_ret (v:=.tuple #[.agg #[.int .i64 3,.string ⟨#[]⟩,.int .i64 pv,.int .i64 0],.bool false]) ?_ rfl ⟨WR.none N.out _ _ _,below_alloc1 _ _⟩;rw[results_cell_tmp rfl];go_simp
   | false =>
     have W:=hid (kP qD h1 h2 h3);have H3:=hid h3;clear h3 h2;have HL:=hid (qe s);have HG:=hid (qR s 0 qD)
     have DV:Hid (Jl s 1 13=true→Qf s 1 13=Txt.num s.data.toList):=by
      intro q;unfold Jl digB at q;rw[decide_eq_true_eq] at q;unfold Qf kw;rw[if_pos q]
     have DB:Hid (Jl s 1 13=decide (1≤s.data.toList.length∧s.data.toList.length≤13∧Txt.allD s.data.toList=true)):=by
      unfold Hid Jl digB;congr 1;apply propext;exact⟨fun q=>⟨by omega,by omega,q.2.2⟩,fun q=>⟨by omega,by omega,q.2.2⟩⟩
     go_enter Tryz.func73,Tryz.ntmps73;go_wp2_with fail;refine(uo s 58 58 _ _ hs rfl H3.out).mono ?_;rintro e w1 ⟨m,rfl,rfl,hm⟩;rw[decide_eq_false_iff_not] at hm;go_wp2_with fail;refine(zH s 1 13 _ hs (by omega)).mono ?_;generalize Jl s 1 13=db at *;generalize Qf s 1 13=dv at *;rintro e w1 ⟨rfl,rfl⟩;cases db with
     | false =>
       have N:Hid (Tk.word s=none):=by
        unfold Hid;rw[W.out];refine zP fun q=>?_
        have:=DB.out;rw[decide_eq_true ⟨q.1,q.2.1,q.2.2.1⟩] at this;cases this
       go_wp2;refine bodyPost_ret (v:=.tuple #[.agg #[.int .i64 0,.string ⟨#[]⟩,.int .i64 0,.int .i64 0],.bool false]) ?_ rfl ⟨WR.none N.out _ _ _,below_alloc1 _ _⟩;rw[results_cell_tmp rfl];go_simp
     | true =>
       have DQ:Hid (1≤s.data.toList.length∧s.data.toList.length≤13∧Txt.allD s.data.toList=true):=(by have:=DB.out;unfold Hid;exact of_decide_eq_true this.symm);have DV2:=hid (DV.out rfl)
       by_cases h4:1 < s.size∧s[0].toNat=48
       ·have N:Hid (Tk.word s=none):=by unfold Hid;rw[W.out];exact zP fun q=>q.2.2.2.1 (by rw[HL.out,HG.out];exact⟨h4.2,h4.1⟩)
        have z1:(1:Int) < (s.size:Int):=(by omega);have z2:((s[0].toNat:Int)==48)=true:=(by simp;omega);clear h4 DV DB;go_wp2;refine bodyPost_ret (v:=.tuple #[.agg #[.int .i64 0,.string ⟨#[]⟩,.int .i64 0,.int .i64 0],.bool false]) ?_ rfl ⟨WR.none N.out _ _ _,below_alloc1 _ _⟩;rw[results_cell_tmp rfl];go_simp
       ·have H4:=hid h4
        have hz:(1 < (s.size:Int)∧((s[0].toNat:Int)==48)=false)∨¬(1:Int) < (s.size:Int):=by
         by_cases q:1 < s.size
         ·exact .inl ⟨by omega,by simp;omega⟩
         ·exact .inr (by omega)
        clear h4 DV DB
        by_cases h5:dv≤1099511627776
        ·have N:Hid (Tk.word s=some ⟨2,⟨#[]⟩,dv⟩):=by
          unfold Hid;rw[W.out,DV2.out];exact jW ⟨DQ.out.1,DQ.out.2.1,DQ.out.2.2,by rw[HL.out,HG.out];exact fun q=>H4.out ⟨q.2,q.1⟩,by rw[← DV2.out];exact h5⟩
         have n5:¬ 1099511627776 < dv:=(by omega);rcases hz with ⟨z1,z2⟩|z1
         ·go_wp2;refine bodyPost_ret (v:=.tuple #[.agg #[.int .i64 2,.string ⟨#[]⟩,.int .i64 dv,.int .i64 0],.bool true]) ?_ rfl ⟨WR.some N.out,below_alloc1 _ _⟩;rw[results_cell_tmp rfl];go_simp
         ·go_wp2;refine bodyPost_ret (v:=.tuple #[.agg #[.int .i64 2,.string ⟨#[]⟩,.int .i64 dv,.int .i64 0],.bool true]) ?_ rfl ⟨WR.some N.out,below_alloc1 _ _⟩;rw[results_cell_tmp rfl];go_simp
        ·have N:Hid (Tk.word s=none):=by unfold Hid;rw[W.out];exact zP fun q=>h5 (by rw[DV2.out];exact q.2.2.2.2)
         have n5:1099511627776 < dv:=(by omega);rcases hz with ⟨z1,z2⟩|z1
         ·go_wp2;refine bodyPost_ret (v:=.tuple #[.agg #[.int .i64 0,.string ⟨#[]⟩,.int .i64 0,.int .i64 0],.bool false]) ?_ rfl ⟨WR.none N.out _ _ _,below_alloc1 _ _⟩;rw[results_cell_tmp rfl];go_simp
         ·go_wp2;refine bodyPost_ret (v:=.tuple #[.agg #[.int .i64 0,.string ⟨#[]⟩,.int .i64 0,.int .i64 0],.bool false]) ?_ rfl ⟨WR.none N.out _ _ _,below_alloc1 _ _⟩;rw[results_cell_tmp rfl];go_simp
theorem zY{w w':World}{base:Nat}{e:TypeId}{size:Nat}{v:Value}{n:Nat}{xs:List Value}(h:w.ownsRow base e size v n xs)(hb:Below w.heap.size w w'):w'.ownsRow base e size v n xs :=
 h.kept (row:=none) ⟨hb.os,hb.tape,hb.output,hb.size,fun k hk _=>hb.block k hk⟩ (by cases v.ownBlock<;>simp)
def ut(s:ByteArray)(w:World)(e:Ending)(w':World):Prop:=∃v,e=.returned (.tuple #[v,.int .i64 (Tk.scanT s).2.1,.int .i64 (Tk.scanT s).2.2])∧TkAt w' (Tk.scanT s).1 v∧Below w.heap.size w w'
theorem jT(w:World):TkAt w [] (.slice none 0 0):=⟨none,0,rfl,Nat.zero_le _,Nat.zero_le _,fun q=>absurd rfl q⟩
theorem yP{s:ByteArray}{w w':World}{D:List Tk.T4}{v:Value}{a c:Int}(h:Tk.scanT s=(D,a,c))(ht:TkAt w' D v)(hb:Below w.heap.size w w'):ut s w (.returned (.tuple #[v,.int .i64 a,.int .i64 c])) w':=by
 refine⟨v,?_,?_,hb⟩<;>rw[h];exact ht
theorem Yo(s:ByteArray)(k g:Nat)(h:k+g≤s.size):(s.extract k s.size).extract 0 g=s.extract k (k+g):=by
 apply ByteArray.ext;apply Array.toList_inj.1
 show((s.extract k s.size).extract 0 g).data.toList=(s.extract k (k+g)).data.toList
 rw[ext_list,ext_list,ext_list,List.drop_zero,List.take_of_length_le (l:=s.data.toList) (by rw[qe];exact Nat.le_refl _),List.drop_take,show k+g - k=g by omega]
theorem uR(s:ByteArray)(k:Nat):(s.extract k s.size).data.toList=s.data.toList.drop k:=by
 rw[ext_list,List.take_of_length_le (by rw[qe];exact Nat.le_refl _)]
theorem uj(s:ByteArray)(k j:Nat)(h:k+j < s.size):(s.data.toList.drop k).getD j 0=s[k+j]:=by
 rw[List.getD_eq_getElem?_getD,List.getElem?_drop,← List.getD_eq_getElem?_getD];exact qR s (k+j) h
theorem kg(s : ByteArray)(w:World)(hs:s.size≤9223372036854775807):Calls Tryz.prog 28 #[.string s] w (ut s w):=by
 obtain⟨i0,hi,hi0,hi1,hi2⟩:=info_parts Tryz.infoTk;go_enter Tryz.func28,Tryz.ntmps28;go_wp2_with fail
 go_loopw [2,5,6,7,8,9] (fun l i _ _ _ _ wr=>∃(vx:Value) (k:Nat) (D:List Tk.T4),vx=l∧i=.int .i64 k∧k≤s.size∧w.heap.size≤wr.heap.size∧D.length≤400∧
  Hid (wr.ownsRow w.heap.size 68 4 vx D.length (jF D)∧Below w.heap.size w wr∧Tk.scanT s=Tk.scan s (s.size - k) k D)) (fun _ i _ _ _ _ _=>s.size - (intOf i).toNat)
 case atStart=>exact⟨_,0,[],rfl,rfl,by omega,Nat.le_refl _,by simp,World.ownsRow_nil _ _ _ _,Below.refl _ _,rfl⟩
 case round =>
  obtain⟨vx,k,D,rfl,rfl,hk,ym,hD4,HR⟩:=hrel
  by_cases qD:k < s.size
  ·have hi' : (k : Int) < (s.size:Int):=by omega
   have ST:Hid (Tk.scanT s=if s[k].toNat=35 then (D,0,0) else if s[k].toNat=32 then Tk.scan s (s.size - (k+1)) (k+1) D else
    match Tk.tokAt s k with
    | (none,_)=>([],(k:Int),1)
    | (some t,m)=>if D.length=400 then ([],(k:Int),10) else Tk.scan s (s.size - (k+m)) (k+m) (D++[⟨t,k⟩])):=by
    have:=HR.out.2.2.trans (Tk.scan_step s k D qD);rw[qR s k qD] at this;exact this
   by_cases h35:s[k].toNat=35
   ·have b35:((s[k].toNat:Int) != 35)=false:=by simp;omega
    have R:Hid (Tk.scanT s=(D,0,0)):=(by unfold Hid;rw[ST.out,if_pos h35]);clear h35;go_wp2
    go_ret3
    exact yP R.out (zS HR.out.1 (by omega)) HR.out.2.1
   ·have b35 : ((s[k].toNat:Int) != 35)=true:=by simp;omega
    by_cases h32:s[k].toNat=32
    ·have b32:((s[k].toNat:Int)==32)=true:=by simp;omega
     have R:Hid (Tk.scanT s=Tk.scan s (s.size - (k+1)) (k+1) D):=(by unfold Hid;rw[ST.out,if_neg h35,if_pos h32]);clear h35 h32;go_wp2
     go_roundw
     case rel=>exact⟨_,k+1,D,rfl,by go_num,by omega,ym,hD4,HR.out.1,HR.out.2.1,R.out⟩
     case measure=>simp[intOf];omega
    ·have b32 : ((s[k].toNat:Int)==32)=false:=by simp;omega
     have ST2:=ST.out;rw[if_neg h35,if_neg h32] at ST2;clear ST h35 h32;have ST:=hid ST2;clear ST2;have hwl:=Tk.wl_le (s.data.toList.drop k);rw[List.length_drop,qe] at hwl
     have WS:Hid (∀j,j≤Tk.wl (s.data.toList.drop k)→∀h:k+j < s.size,(Tk.inW s[k+j]=true→j+1≤Tk.wl (s.data.toList.drop k))∧(Tk.inW s[k+j]=false→Tk.wl (s.data.toList.drop k)=j)):=by
      intro j hj h;have:=Tk.wl_step (s.data.toList.drop k) j hj (by rw[List.length_drop,qe];omega);rw[uj s k j h] at this;exact this
     have WA:Hid (Tk.inW s[k]=true→1≤Tk.wl (s.data.toList.drop k)∧Tk.tokAt s k=(Tk.word (s.extract k (k+Tk.wl (s.data.toList.drop k))),Tk.wl (s.data.toList.drop k))):=by
      intro q;refine⟨(WS.out 0 (Nat.zero_le _) (by omega)).1 q,?_⟩;unfold Tk.tokAt;rw[qR s k qD,if_pos q]
     have WB:Hid (Tk.inW s[k]=false→Tk.wl (s.data.toList.drop k)=0∧Tk.tokAt s k=(if Tk.sgn (s.data.toList.drop k)=0 then none else some ⟨5,s.extract k (k+Tk.sgn (s.data.toList.drop k)),0⟩,Tk.sgn (s.data.toList.drop k))):=by
      intro q;refine⟨(WS.out 0 (Nat.zero_le _) (by omega)).2 q,?_⟩;unfold Tk.tokAt;rw[qR s k qD,if_neg (by rw[q];simp)]
     have BY:=hid (Tk.word_bytes s k);generalize Tk.wl (s.data.toList.drop k)=L at *
     go_upto_block 2 with (fail)
     go_cut [6] (fun e wx=>e=.int .i64 ((k:Int)+(L:Int))∧wx=wr)
     case first =>
      go_wp2_with fail
      go_loop [6] (fun e=>∃j:Nat,e=.int .i64 ((k:Int)+(j:Int))∧k+j≤s.size∧Hid (j≤L)) (fun e=>s.size - (intOf e).toNat)
      case atStart=>exact⟨0,by simp,by omega,Nat.zero_le _⟩
      case round =>
       obtain⟨j,rfl,hj,HJ⟩:=hrel
       by_cases hjl:k+j < s.size
       ·have W2:=hid (WS.out j HJ.out hjl);have hj':((k:Int)+(j:Int)) < (s.size:Int):=(by omega);cases hw:Tk.inW s[k+j] with
        | false =>
          have WL:=hid (W2.out.2 hw);have HW:Hid (jC (s[k+j].toNat:Int)=false):=(by unfold Hid;rw[jl,hw]);clear hw;go_wp2_with (go_at_call 66;refine(jN _ _).mono ?_;rw[HW.out];rintro e w' ⟨rfl,rfl⟩)
          go_meet
          exact⟨by rw[WL.out],rfl⟩
        | true =>
          have WL:=hid (W2.out.1 hw);have HW:Hid (jC (s[k+j].toNat:Int)=true):=(by unfold Hid;rw[jl,hw]);clear hw;go_wp2_with (go_at_call 66;refine(jN _ _).mono ?_;rw[HW.out];rintro e w' ⟨rfl,rfl⟩)
          go_round
          case rel=>exact⟨j+1,by go_num,by omega,WL.out⟩
          case measure=>simp[intOf];omega
       ·have hj':¬((k:Int)+(j:Int)) < (s.size:Int):=by omega
        have WL:Hid (L=j):=(by have:=HJ.out;unfold Hid;omega);go_wp2
        go_meet
        exact⟨by rw[WL.out],rfl⟩
     case rest =>
      obtain⟨rfl,rfl⟩:=hcut;obtain⟨vp,vcap,rfl,hvc,-,-⟩:=zS HR.out.1 (by omega);cases hw:Tk.inW s[k] with
      | true =>
        obtain⟨hL1,hTK⟩:=WA.out hw;have TK:=hid hTK;clear hTK hw WA WB WS;have hne:(((k:Int)+(L:Int))==(k:Int))=false:=(by simp;omega);have hx9:(s.extract k (k+L)).size≤9223372036854775807:=(by rw[ByteArray.size_extract];omega);go_wp2_with fail;refine(xq (s.extract k (k+L)) _ hx9 BY.out).mono ?_;rintro e w1 ⟨⟨t1,t2,t3,rfl,hx⟩,hb⟩;have B1:=hid (HR.out.2.1.trans (hb.mono ym));have hz1:w.heap.size≤w1.heap.size:=B1.out.size;have O1:=hid (zY HR.out.1 hb);have HX:=hid hx;clear hb hx;cases ho:Tk.word (s.extract k (k+L)) with
        | none =>
          rw[ho] at TK;have R:Hid (Tk.scanT s=([],(k:Int),1)):=(by unfold Hid;rw[ST.out,TK.out]);clear ho HX;rw[show(none:Option Tk.T3).isSome=false from rfl];go_wp2
          go_ret3
          exact yP R.out (jT _) (B1.out.alloc hz1 _)
        | some t =>
          rw[ho] at TK;obtain⟨rfl,rfl,rfl⟩:=HX.out t ho;clear ho HX;rw[show(some t:Option Tk.T3).isSome=true from rfl]
          by_cases h4:D.length=400
          ·have h4':((D.length:Int)==400)=true:=by simp[h4]
           have R:Hid (Tk.scanT s=([],(k:Int),10)):=(by unfold Hid;rw[ST.out,TK.out];dsimp only;rw[if_pos h4]);clear h4;go_wp2
           go_ret3
           exact yP R.out (jT _) (B1.out.alloc hz1 _)
          ·have h4':((D.length:Int)==400)=false:=by simp;omega
           have R:Hid (Tk.scanT s=Tk.scan s (s.size - (k+L)) (k+L) (D++[(⟨t,(k:Int)⟩:Tk.T4)])):=(by unfold Hid;rw[ST.out,TK.out];dsimp only;rw[if_neg h4]);have hD3:D.length < 400:=(by omega);clear h4;go_wp2_with (at_builtin;refine wpList_append_own _ rfl _ _ 56 rfl w.heap.size 68 i0 (.agg #[.int .i64 0,.string ⟨#[]⟩,.int .i64 0,.int .i64 0]) 4 40 Tryz.underlying56 hi hi0 hi1 hi2 rfl (by decide) _ _ _ rfl ((O1.out.alloc _).alloc _) ⟨w1.heap.size+1,0,none⟩ 1 1 [.int .i64 t.kind,.string t.text,.int .i64 t.num,.int .i64 k] rfl rfl ?c1 ?c2 ?c3 ?c4 ?c5 ?_)
           case c1 =>
            intro q u hu
            match q with
            | 0=>simp at hu;subst hu;simp[Addr.add]
            | 1=>simp at hu;subst hu;simp[Addr.add]
            | 2=>simp at hu;subst hu;simp[Addr.add]
            | 3=>simp at hu;subst hu;simp[Addr.add]
            | q+4=>simp at hu
           case c2=>intro u hu;simp at hu;rcases hu with rfl|rfl|rfl|rfl<;>rfl
           case c3=>unfold maxLen;omega
           case c4=>omega
           case c5=>simp;omega
           intro v' w4 qi qk hnil;have B4:Hid (Below w.heap.size w w4):=(((B1.out.alloc hz1 _)).alloc (by simp;omega) (.cells #[.int .i64 t.kind,.string t.text,.int .i64 t.num,.int .i64 k] 68)).grown qk (by simp;omega) (fun m hm=>(O1.out.lt m hm).1)
           have O4:Hid (w4.ownsRow w.heap.size 68 4 v' (D++[(⟨t,(k:Int)⟩:Tk.T4)]).length (jF (D++[(⟨t,(k:Int)⟩:Tk.T4)]))):=by
            unfold Hid;rw[kU,List.length_append];exact qi
           have hz4:w.heap.size≤w4.heap.size:=B4.out.size;clear qi qk hnil;go_wp2
           go_roundw
           case rel=>exact⟨_,k+L,D++[(⟨t,(k:Int)⟩:Tk.T4)],rfl,by go_num,by omega,hz4,by rw[List.length_append];show D.length+1≤400;omega,O4.out,B4.out,R.out⟩
           case measure=>simp[intOf];omega
      | false =>
        obtain⟨hL1,hTK⟩:=WB.out hw;obtain rfl:L=0:=hL1;have TK:=hid hTK;clear hTK hw WA WB WS
        have BY0:Hid (∀x∈ ByteArray.empty.data.toList,Tk.inW x=true):=by
         intro x hx;have hx':x∈ ([]:List UInt8):=hx;cases hx'
        rw[show((k:Int)+((0:Nat):Int))=(k:Int) by simp];go_wp2_with fail;refine(xq ByteArray.empty _ (by decide) BY0.out).mono ?_;rintro e w1 ⟨⟨t1,t2,t3,rfl,hx⟩,hb⟩;have B1:=hid (HR.out.2.1.trans (hb.mono ym));have hz1:w.heap.size≤w1.heap.size:=B1.out.size;have O1:=hid (zY HR.out.1 hb);clear hb hx;have hg:=Tk.sgn_le (s.data.toList.drop k);rw[List.length_drop,qe] at hg;have hx8:(s.extract k s.size).size≤9223372036854775807:=(by rw[ByteArray.size_extract];omega);go_wp2_with fail;refine(uG (s.extract k s.size) _ hx8).mono ?_;rw[uR];generalize Tk.sgn (s.data.toList.drop k)=g at *;rw[Yo s k g (by omega)];have hXs:(s.extract k (k+g)).size=g:=(by rw[ByteArray.size_extract];omega);rintro e w2 ⟨rfl,rfl⟩;generalize s.extract k (k+g)=X at *
        by_cases hg0:g=0
        ·have e1:X.toList.isEmpty=true:=by rw[yx,hXs];simp[hg0]
         have e2:(!X.toList.isEmpty)=false:=(by rw[e1];rfl);have R:Hid (Tk.scanT s=([],(k:Int),1)):=(by unfold Hid;rw[ST.out,TK.out,if_pos hg0]);have hXz:X.size≤9223372036854775807:=(by omega);clear hg0 hXs;go_wp2
         go_ret3
         exact yP R.out (jT _) (B1.out.alloc hz1 _)
        ·have e1:X.toList.isEmpty=false:=by rw[yx,hXs];simp[hg0]
         have e2:(!X.toList.isEmpty)=true:=(by rw[e1];rfl);have TK2:Hid (Tk.tokAt s k=(some ⟨5,X,0⟩,g)):=(by unfold Hid;rw[TK.out,if_neg hg0]);clear TK;have TK:=TK2;clear TK2;obtain rfl:g=X.size:=hXs.symm;clear hXs
         by_cases h4:D.length=400
         ·have h4':((D.length:Int)==400)=true:=by simp[h4]
          have R:Hid (Tk.scanT s=([],(k:Int),10)):=(by unfold Hid;rw[ST.out,TK.out];dsimp only;rw[if_pos h4]);clear h4;go_wp2
          go_ret3
          exact yP R.out (jT _) (B1.out.alloc hz1 _)
         ·have h4':((D.length:Int)==400)=false:=by simp;omega
          have R:Hid (Tk.scanT s=Tk.scan s (s.size - (k+X.size)) (k+X.size) (D++[(⟨⟨5,X,0⟩,(k:Int)⟩:Tk.T4)])):=(by unfold Hid;rw[ST.out,TK.out];dsimp only;rw[if_neg h4]);have hD3:D.length < 400:=(by omega);clear h4;go_wp2_with (at_builtin;refine wpList_append_own _ rfl _ _ 56 rfl w.heap.size 68 i0 (.agg #[.int .i64 0,.string ⟨#[]⟩,.int .i64 0,.int .i64 0]) 4 40 Tryz.underlying56 hi hi0 hi1 hi2 rfl (by decide) _ _ _ rfl ((O1.out.alloc _).alloc _) ⟨w1.heap.size+1,0,none⟩ 1 1 [.int .i64 5,.string X,.int .i64 0,.int .i64 k] rfl rfl ?c1 ?c2 ?c3 ?c4 ?c5 ?_)
          case c1 =>
           intro q u hu
           match q with
           | 0=>simp at hu;subst hu;simp[Addr.add]
           | 1=>simp at hu;subst hu;simp[Addr.add]
           | 2=>simp at hu;subst hu;simp[Addr.add]
           | 3=>simp at hu;subst hu;simp[Addr.add]
           | q+4=>simp at hu
          case c2=>intro u hu;simp at hu;rcases hu with rfl|rfl|rfl|rfl<;>rfl
          case c3=>unfold maxLen;omega
          case c4=>omega
          case c5=>simp;omega
          intro v' w4 qi qk hnil;have B4:Hid (Below w.heap.size w w4):=(((B1.out.alloc hz1 _)).alloc (by simp;omega) (.cells #[.int .i64 5,.string X,.int .i64 0,.int .i64 k] 68)).grown qk (by simp;omega) (fun m hm=>(O1.out.lt m hm).1)
          have O4:Hid (w4.ownsRow w.heap.size 68 4 v' (D++[(⟨⟨5,X,0⟩,(k:Int)⟩:Tk.T4)]).length (jF (D++[(⟨⟨5,X,0⟩,(k:Int)⟩:Tk.T4)]))):=by
           unfold Hid;rw[kU,List.length_append];exact qi
          have hz4:w.heap.size≤w4.heap.size:=B4.out.size;clear qi qk hnil;go_wp2
          go_roundw
          case rel=>exact⟨_,k+X.size,D++[(⟨⟨5,X,0⟩,(k:Int)⟩:Tk.T4)],rfl,by go_num,by omega,hz4,by rw[List.length_append];show D.length+1≤400;omega,O4.out,B4.out,R.out⟩
          case measure=>simp[intOf];omega
  ·have hi':¬(k:Int) < (s.size:Int):=by omega
   have R:Hid (Tk.scanT s=(D,0,0)):=(by unfold Hid;rw[HR.out.2.2];exact Tk.scan_end s k D (by omega));go_wp2
   go_ret3
   exact yP R.out (zS HR.out.1 (by omega)) HR.out.2.1
theorem J7{a b c:World}{row:Option Nat}(h:a.grownBy b row)(g:b.grownBy c row):a.grownBy c row :=
 ⟨g.os.trans h.os,g.tape.trans h.tape,g.output.trans h.output,Nat.le_trans h.size g.size,fun k hk hr=>(g.block k (Nat.lt_of_lt_of_le hk h.size) hr).trans (h.block k hk hr)⟩
theorem xg{a b:World}{p:Addr}(h:a.grownBy b (some p.block))(u:Value):a.grownBy (b.setCell p u) (some p.block) :=
 J7 h ⟨rfl,rfl,rfl,by simp[World.setCell],fun k hk hr=>Below.heap_setCell _ _ _ _ (fun e=>hr (by rw[e]))⟩
theorem Yd{w:World}{base:Nat}{e:TypeId}{size:Nat}{v:Value}{n:Nat}{xs:List Value}{g i:Nat}(h:w.ownsRow base e size v n xs)(hg:v.ownBlock≠some g)(a:Value):(w.setCell ⟨g,i,none⟩ a).ownsRow base e size v n xs :=
 h.kept (row:=some g) (xg (p:=⟨g,i,none⟩) ⟨rfl,rfl,rfl,Nat.le_refl _,fun _ _ _=>rfl⟩ a) (.inr hg)
theorem U2{w:World}{base:Nat}{e:TypeId}{size:Nat}{v:Value}{n:Nat}{xs:List Value}{g:Nat}(h:w.ownsRow base e size v n xs)(hg:v.ownBlock≠some g)(a b c d:Value) :
 ((((w.setCell ⟨g,0,none⟩ a).setCell ⟨g,1,none⟩ b).setCell ⟨g,2,none⟩ c).setCell ⟨g,3,none⟩ d).ownsRow base e size v n xs :=
 h.kept (row:=some g) (xg (p:=⟨g,3,none⟩) (xg (p:=⟨g,2,none⟩) (xg (p:=⟨g,1,none⟩) (xg (p:=⟨g,0,none⟩) ⟨rfl,rfl,rfl,Nat.le_refl _,fun _ _ _=>rfl⟩ a) b) c) d) (.inr hg)
theorem xu(s : ByteArray)(w:World)(hs:s.size≤9223372036854775807):Calls Tryz.prog 30 #[.string s] w (ut s w):=by
 obtain⟨i0,hi,hi0,hi1,hi2⟩:=info_parts Tryz.infoTk;go_enter Tryz.func30,Tryz.ntmps30;go_wp2_with fail
 go_loopw [5,6,7,8,9] (fun l i _ _ _ wr=>∃(vx:Value) (k:Nat) (D:List Tk.T4),vx=l∧i=.int .i64 k∧k≤s.size∧w.heap.size≤wr.heap.size∧D.length≤400∧
  Hid (wr.ownsRow w.heap.size 68 4 vx D.length (jF D)∧Below w.heap.size w wr∧Tk.scanT s=Tk.scan s (s.size - k) k D)) (fun _ i _ _ _ _=>s.size - (intOf i).toNat)
 case atStart=>exact⟨_,0,[],rfl,rfl,by omega,Nat.le_refl _,by simp,World.ownsRow_nil _ _ _ _,Below.refl _ _,rfl⟩
 case round =>
  obtain⟨vx,k,D,rfl,rfl,hk,ym,hD4,HR⟩:=hrel
  by_cases qD:k < s.size
  ·have hi' : (k : Int) < (s.size:Int):=by omega
   have ST:Hid (Tk.scanT s=if s[k].toNat=35 then (D,0,0) else if s[k].toNat=32 then Tk.scan s (s.size - (k+1)) (k+1) D else
    match Tk.tokAt s k with
    | (none,_)=>([],(k:Int),1)
    | (some t,m)=>if D.length=400 then ([],(k:Int),10) else Tk.scan s (s.size - (k+m)) (k+m) (D++[⟨t,k⟩])):=by
    have:=HR.out.2.2.trans (Tk.scan_step s k D qD);rw[qR s k qD] at this;exact this
   by_cases h35:s[k].toNat=35
   ·have b35:((s[k].toNat:Int) != 35)=false:=by simp;omega
    have R:Hid (Tk.scanT s=(D,0,0)):=(by unfold Hid;rw[ST.out,if_pos h35]);clear h35;go_wp2
    go_ret3
    exact yP R.out (zS HR.out.1 (by omega)) HR.out.2.1
   ·have b35 : ((s[k].toNat:Int) != 35)=true:=by simp;omega
    by_cases h32:s[k].toNat=32
    ·have b32:((s[k].toNat:Int)==32)=true:=by simp;omega
     have R:Hid (Tk.scanT s=Tk.scan s (s.size - (k+1)) (k+1) D):=(by unfold Hid;rw[ST.out,if_neg h35,if_pos h32]);clear h35 h32;go_wp2
     go_roundw
     case rel=>exact⟨_,k+1,D,rfl,by go_num,by omega,ym,hD4,HR.out.1,HR.out.2.1,R.out⟩
     case measure=>simp[intOf];omega
    ·have b32 : ((s[k].toNat:Int)==32)=false:=by simp;omega
     have ST2:=ST.out;rw[if_neg h35,if_neg h32] at ST2;clear ST h35 h32;have ST:=hid ST2;clear ST2;have hwl:=Tk.wl_le (s.data.toList.drop k);rw[List.length_drop,qe] at hwl
     have WS:Hid (∀j,j≤Tk.wl (s.data.toList.drop k)→∀h:k+j < s.size,(Tk.inW s[k+j]=true→j+1≤Tk.wl (s.data.toList.drop k))∧(Tk.inW s[k+j]=false→Tk.wl (s.data.toList.drop k)=j)):=by
      intro j hj h;have:=Tk.wl_step (s.data.toList.drop k) j hj (by rw[List.length_drop,qe];omega);rw[uj s k j h] at this;exact this
     have WA:Hid (Tk.inW s[k]=true→1≤Tk.wl (s.data.toList.drop k)∧Tk.tokAt s k=(Tk.word (s.extract k (k+Tk.wl (s.data.toList.drop k))),Tk.wl (s.data.toList.drop k))):=by
      intro q;refine⟨(WS.out 0 (Nat.zero_le _) (by omega)).1 q,?_⟩;unfold Tk.tokAt;rw[qR s k qD,if_pos q]
     have WB:Hid (Tk.inW s[k]=false→Tk.wl (s.data.toList.drop k)=0∧Tk.tokAt s k=(if Tk.sgn (s.data.toList.drop k)=0 then none else some ⟨5,s.extract k (k+Tk.sgn (s.data.toList.drop k)),0⟩,Tk.sgn (s.data.toList.drop k))):=by
      intro q;refine⟨(WS.out 0 (Nat.zero_le _) (by omega)).2 q,?_⟩;unfold Tk.tokAt;rw[qR s k qD,if_neg (by rw[q];simp)]
     have BY:=hid (Tk.word_bytes s k);generalize Tk.wl (s.data.toList.drop k)=L at *;obtain⟨vp,vcap,rfl,hvc,-,-⟩:=zS HR.out.1 (by omega);cases hw:Tk.inW s[k] with
     | true =>
       obtain⟨hL1,hTK⟩:=WA.out hw;have TK:=hid hTK;have HW0:Hid (jC (s[k].toNat:Int)=true):=(by unfold Hid;rw[jl,hw]);clear hTK hw WA WB
       go_upto_block 2 with (go_at_call 72;refine(jg _ _).mono ?_;rw[HW0.out];rintro e w' ⟨rfl,rfl⟩)
       go_cut [9] (fun e wx=>e=.int .i64 (L:Int)∧wx=wr.alloc (.cells #[.int .i64 0,.string ⟨#[]⟩,.int .i64 0,.int .i64 0] 68))
       case first =>
        go_wp2_with fail
        go_loop [9] (fun e=>∃j:Nat,e=.int .i64 (j:Int)∧k+j≤s.size∧Hid (j≤L)) (fun e=>s.size - k - (intOf e).toNat)
        case atStart=>exact⟨0,rfl,by omega,Nat.zero_le _⟩
        case round =>
         obtain⟨j,rfl,hj,HJ⟩:=hrel;have hwr:IntKind.i64.wrap ((k:Int)+(j:Int))=(k:Int)+(j:Int):=IntWalk.i64_in _ (by omega)
         by_cases hjl:k+j < s.size
         ·have W2:=hid (WS.out j HJ.out hjl);have hj':((k:Int)+(j:Int)) < (s.size:Int):=(by omega);cases hw:Tk.inW s[k+j] with
          | false =>
            have WL:=hid (W2.out.2 hw);have HW:Hid (jC (s[k+j].toNat:Int)=false):=(by unfold Hid;rw[jl,hw]);clear hw;go_wp2_with (go_at_call 72;refine(jg _ _).mono ?_;rw[HW.out];rintro e w' ⟨rfl,rfl⟩)
            go_meet
            exact⟨by rw[WL.out],rfl⟩
          | true =>
            have WL:=hid (W2.out.1 hw);have HW:Hid (jC (s[k+j].toNat:Int)=true):=(by unfold Hid;rw[jl,hw]);clear hw;go_wp2_with (go_at_call 72;refine(jg _ _).mono ?_;rw[HW.out];rintro e w' ⟨rfl,rfl⟩)
            go_round
            case rel=>exact⟨j+1,by go_num,by omega,WL.out⟩
            case measure=>simp[intOf];omega
         ·have hj':¬((k:Int)+(j:Int)) < (s.size:Int):=by omega
          have WL:Hid (L=j):=(by have:=HJ.out;unfold Hid;omega);go_wp2
          go_meet
          exact⟨by rw[WL.out],rfl⟩
       case rest =>
        obtain⟨rfl,rfl⟩:=hcut;clear WS HW0;have hwr:IntKind.i64.wrap ((k:Int)+(L:Int))=(k:Int)+(L:Int):=IntWalk.i64_in _ (by omega);have hx9:(s.extract k (k+L)).size≤9223372036854775807:=(by rw[ByteArray.size_extract];omega);have hx1:0 < (s.extract k (k+L)).size:=(by rw[ByteArray.size_extract];omega);go_wp2_with fail;refine(YF (s.extract k (k+L)) _ hx9 BY.out hx1).mono ?_;rintro e w1 ⟨⟨t1,t2,t3,rfl,hx⟩,hb⟩;have B1:Hid (Below w.heap.size w w1):=(HR.out.2.1.alloc ym _).trans (hb.mono (by simp;omega));have hz1:wr.heap.size < w1.heap.size:=j5 hb;have O1:Hid (w1.ownsRow w.heap.size 68 4 (.slice vp D.length vcap) D.length (jF D)):=zY (HR.out.1.alloc _) hb;have OB:Hid ((Value.slice vp D.length vcap).ownBlock≠some wr.heap.size):=fun q=>absurd (HR.out.1.lt _ q).2 (Nat.lt_irrefl _);obtain⟨c0,c1,c2,c3,f0,f1,f2,f3⟩:=Yz hb;have HX:=hid hx;clear hb hx;cases ho:Tk.word (s.extract k (k+L)) with
        | none =>
          rw[ho] at TK;have R:Hid (Tk.scanT s=([],(k:Int),1)):=(by unfold Hid;rw[ST.out,TK.out]);clear ho HX;rw[show(none:Option Tk.T3).isSome=false from rfl];go_wp2
          go_ret3
          exact yP R.out (jT _) (((((B1.out).setCell (p:=⟨wr.heap.size,0,none⟩) ym _).setCell (p:=⟨wr.heap.size,1,none⟩) ym _).setCell (p:=⟨wr.heap.size,2,none⟩) ym _).setCell (p:=⟨wr.heap.size,3,none⟩) ym _)
        | some t =>
          rw[ho] at TK;obtain⟨rfl,rfl,rfl⟩:=HX.out t ho;clear ho HX;rw[show(some t:Option Tk.T3).isSome=true from rfl];go_upto_region 15 with (fail)
          go_cut [67] (fun v wx=>v=.bool false∧Hid (Below w.heap.size w wx∧wr.heap.size < wx.heap.size∧wx.ownsRow w.heap.size 68 4 (.slice vp D.length vcap) D.length (jF D)∧
           (wx.cell? ⟨wr.heap.size,0,none⟩=some (.int .i64 t.kind)∧wx.cell? ⟨wr.heap.size,1,none⟩=some (.string t.text)∧wx.cell? ⟨wr.heap.size,2,none⟩=some (.int .i64 t.num)∧wx.cell? ⟨wr.heap.size,3,none⟩=some (.int .i64 0))∧wx.frozen? ⟨wr.heap.size,3,none⟩=false))
          case first =>
           have K:Hid (((((w1.setCell ⟨wr.heap.size,0,none⟩ (.int .i64 t.kind)).setCell ⟨wr.heap.size,1,none⟩ (.string t.text)).setCell ⟨wr.heap.size,2,none⟩ (.int .i64 t.num)).setCell ⟨wr.heap.size,3,none⟩ (.int .i64 0)).cell? ⟨wr.heap.size,0,none⟩=some (.int .i64 t.kind)∧
            ((((w1.setCell ⟨wr.heap.size,0,none⟩ (.int .i64 t.kind)).setCell ⟨wr.heap.size,1,none⟩ (.string t.text)).setCell ⟨wr.heap.size,2,none⟩ (.int .i64 t.num)).setCell ⟨wr.heap.size,3,none⟩ (.int .i64 0)).cell? ⟨wr.heap.size,1,none⟩=some (.string t.text)∧
            ((((w1.setCell ⟨wr.heap.size,0,none⟩ (.int .i64 t.kind)).setCell ⟨wr.heap.size,1,none⟩ (.string t.text)).setCell ⟨wr.heap.size,2,none⟩ (.int .i64 t.num)).setCell ⟨wr.heap.size,3,none⟩ (.int .i64 0)).cell? ⟨wr.heap.size,2,none⟩=some (.int .i64 t.num)∧
            ((((w1.setCell ⟨wr.heap.size,0,none⟩ (.int .i64 t.kind)).setCell ⟨wr.heap.size,1,none⟩ (.string t.text)).setCell ⟨wr.heap.size,2,none⟩ (.int .i64 t.num)).setCell ⟨wr.heap.size,3,none⟩ (.int .i64 0)).cell? ⟨wr.heap.size,3,none⟩=some (.int .i64 0)):=by
            refine⟨?_,?_,?_,?_⟩<;>simp[go_sem,c0,c1,c2,c3]
           have F:Hid (((((w1.setCell ⟨wr.heap.size,0,none⟩ (.int .i64 t.kind)).setCell ⟨wr.heap.size,1,none⟩ (.string t.text)).setCell ⟨wr.heap.size,2,none⟩ (.int .i64 t.num)).setCell ⟨wr.heap.size,3,none⟩ (.int .i64 0)).frozen? ⟨wr.heap.size,3,none⟩=false):=by
            unfold Hid;simp[go_sem,f3]
           go_wp2
           go_meet
           exact⟨rfl,((((B1.out).setCell (p:=⟨wr.heap.size,0,none⟩) ym _).setCell (p:=⟨wr.heap.size,1,none⟩) ym _).setCell (p:=⟨wr.heap.size,2,none⟩) ym _).setCell (p:=⟨wr.heap.size,3,none⟩) ym _,by simp;omega,U2 O1.out OB.out _ _ _ _,K.out,F.out⟩
          case rest =>
           obtain⟨rfl,HF⟩:=hcut;clear c0 c1 c2 c3 f0 f1 f2 f3 O1 B1 hz1;have B1:=hid HF.out.1;have hz1:=HF.out.2.1;have O1:=hid HF.out.2.2.1;have c0:=HF.out.2.2.2.1.1;have c1:=HF.out.2.2.2.1.2.1;have c2:=HF.out.2.2.2.1.2.2.1;have c3:=HF.out.2.2.2.1.2.2.2;have f3:=HF.out.2.2.2.2;clear HF
           by_cases h4:D.length=400
           ·have h4':(400:Int)≤(D.length:Int):=by omega
            have R:Hid (Tk.scanT s=([],(k:Int),10)):=(by unfold Hid;rw[ST.out,TK.out];dsimp only;rw[if_pos h4]);clear h4;go_wp2
            go_ret3
            exact yP R.out (jT _) B1.out
           ·have h4':¬(400:Int)≤(D.length:Int):=by omega
            have R:Hid (Tk.scanT s=Tk.scan s (s.size - (k+L)) (k+L) (D++[(⟨t,(k:Int)⟩:Tk.T4)])):=(by unfold Hid;rw[ST.out,TK.out];dsimp only;rw[if_neg h4]);have hD3:D.length < 400:=(by omega);clear h4
            skip
            go_wp2_with (at_builtin;refine wpList_append_own _ rfl _ _ 56 rfl w.heap.size 68 i0 (.agg #[.int .i64 0,.string ⟨#[]⟩,.int .i64 0,.int .i64 0]) 4 40 Tryz.underlying56 hi hi0 hi1 hi2 rfl (by decide) _ _ _ rfl (((Yd O1.out OB.out (.int .i64 k)).alloc _)) ⟨wc.heap.size,0,none⟩ 1 1 [.int .i64 t.kind,.string t.text,.int .i64 t.num,.int .i64 k] rfl rfl ?d1 ?d2 ?d3 ?d4 ?d5 ?_)
            case d2=>first|exact⟨rfl,rfl,rfl,rfl⟩|(intro u hu;simp at hu;rcases hu with rfl|rfl|rfl|rfl<;>rfl)
            case d3=>first|omega|(unfold maxLen;omega)
            case d4=>omega
            case d5=>first|omega|(simp;omega)
            intro v' w4 qi qk hnil;have B4:Hid (Below w.heap.size w w4):=(((B1.out.setCell (p:=⟨wr.heap.size,3,none⟩) ym (.int .i64 k))).alloc (by simp;omega) (.cells #[.int .i64 t.kind,.string t.text,.int .i64 t.num,.int .i64 k] 68)).grown qk (by simp;omega) (fun m hm=>((Yd (i:=3) O1.out OB.out (.int .i64 k)).lt m hm).1)
            have O4:Hid (w4.ownsRow w.heap.size 68 4 v' (D++[(⟨t,(k:Int)⟩:Tk.T4)]).length (jF (D++[(⟨t,(k:Int)⟩:Tk.T4)]))):=by
             unfold Hid;rw[kU,List.length_append];exact qi
            have hz4:w.heap.size≤w4.heap.size:=B4.out.size;clear qi qk hnil;go_wp2
            go_roundw
            case rel=>exact⟨_,k+L,D++[(⟨t,(k:Int)⟩:Tk.T4)],rfl,by go_num,by omega,hz4,by rw[List.length_append];show D.length+1≤400;omega,O4.out,B4.out,R.out⟩
            case measure=>simp[intOf];omega
     | false =>
       obtain⟨hL1,hTK⟩:=WB.out hw;clear hL1;have TK:=hid hTK;have HW0:Hid (jC (s[k].toNat:Int)=false):=(by unfold Hid;rw[jl,hw]);clear hTK hw WA WB WS;have hg:=Tk.sgn_le (s.data.toList.drop k);rw[List.length_drop,qe] at hg;have hx8:(s.extract k s.size).size≤9223372036854775807:=(by rw[ByteArray.size_extract];omega);have hx1:1≤(s.extract k s.size).size:=(by rw[ByteArray.size_extract];omega);go_wp2_with (go_at_call 72;refine(jg _ _).mono ?_;rw[HW0.out];rintro e w' ⟨rfl,rfl⟩);refine(YG (s.extract k s.size) _ hx8 hx1).mono ?_;rw[uR];generalize Tk.sgn (s.data.toList.drop k)=g at *;rw[Yo s k g (by omega)];have hXs:(s.extract k (k+g)).size=g:=(by rw[ByteArray.size_extract];omega);rintro e w2 ⟨rfl,rfl⟩;generalize s.extract k (k+g)=X at *
       by_cases hg0:g=0
       ·have e1:¬ 0 < X.size:=by omega
        have R:Hid (Tk.scanT s=([],(k:Int),1)):=(by unfold Hid;rw[ST.out,TK.out,if_pos hg0]);have hXz:X.size≤9223372036854775807:=(by omega);clear hg0 hXs;go_wp2
        go_ret3
        exact yP R.out (jT _) (HR.out.2.1.alloc ym _)
       ·have e1:0 < X.size:=by omega
        have TK2:Hid (Tk.tokAt s k=(some ⟨5,X,0⟩,g)):=(by unfold Hid;rw[TK.out,if_neg hg0]);clear TK;have TK:=TK2;clear TK2;obtain rfl:g=X.size:=hXs.symm;clear hXs
        by_cases h4:D.length=400
        ·have h4':(400:Int)≤(D.length:Int):=by omega
         have R:Hid (Tk.scanT s=([],(k:Int),10)):=(by unfold Hid;rw[ST.out,TK.out];dsimp only;rw[if_pos h4]);clear h4;go_wp2
         go_ret3
         exact yP R.out (jT _) (HR.out.2.1.alloc ym _)
        ·have h4':¬(400:Int)≤(D.length:Int):=by omega
         have R:Hid (Tk.scanT s=Tk.scan s (s.size - (k+X.size)) (k+X.size) (D++[(⟨⟨5,X,0⟩,(k:Int)⟩:Tk.T4)])):=(by unfold Hid;rw[ST.out,TK.out];dsimp only;rw[if_neg h4]);have hD3:D.length < 400:=(by omega);clear h4
         skip
         go_wp2_with (at_builtin;refine wpList_append_own _ rfl _ _ 56 rfl w.heap.size 68 i0 (.agg #[.int .i64 0,.string ⟨#[]⟩,.int .i64 0,.int .i64 0]) 4 40 Tryz.underlying56 hi hi0 hi1 hi2 rfl (by decide) _ _ _ rfl (((HR.out.1.alloc _).alloc _)) ⟨wr.heap.size+1,0,none⟩ 1 1 [.int .i64 5,.string X,.int .i64 0,.int .i64 k] rfl rfl ?c1 ?c2 ?c3 ?c4 ?c5 ?_)
         case c1 =>
          intro q u hu
          match q with
          | 0=>simp at hu;subst hu;simp[Addr.add]
          | 1=>simp at hu;subst hu;simp[Addr.add]
          | 2=>simp at hu;subst hu;simp[Addr.add]
          | 3=>simp at hu;subst hu;simp[Addr.add]
          | q+4=>simp at hu
         case c2=>first|exact⟨rfl,rfl,rfl,rfl⟩|(intro u hu;simp at hu;rcases hu with rfl|rfl|rfl|rfl<;>rfl)
         case c3=>first|omega|(unfold maxLen;omega)
         case c4=>omega
         case c5=>first|omega|(simp;omega)
         intro v' w4 qi qk hnil;have B4:Hid (Below w.heap.size w w4):=(((HR.out.2.1.alloc ym _)).alloc (by simp;omega) (.cells #[.int .i64 5,.string X,.int .i64 0,.int .i64 k] 68)).grown qk (by simp;omega) (fun m hm=>(HR.out.1.lt m hm).1)
         have O4:Hid (w4.ownsRow w.heap.size 68 4 v' (D++[(⟨⟨5,X,0⟩,(k:Int)⟩:Tk.T4)]).length (jF (D++[(⟨⟨5,X,0⟩,(k:Int)⟩:Tk.T4)]))):=by
          unfold Hid;rw[kU,List.length_append];exact qi
         have hz4:w.heap.size≤w4.heap.size:=B4.out.size;clear qi qk hnil;go_wp2
         go_roundw
         case rel=>exact⟨_,k+X.size,D++[(⟨⟨5,X,0⟩,(k:Int)⟩:Tk.T4)],rfl,by go_num,by omega,hz4,by rw[List.length_append];show D.length+1≤400;omega,O4.out,B4.out,R.out⟩
         case measure=>simp[intOf];omega
  ·have hi':¬(k:Int) < (s.size:Int):=by omega
   have R:Hid (Tk.scanT s=(D,0,0)):=(by unfold Hid;rw[HR.out.2.2];exact Tk.scan_end s k D (by omega));go_wp2
   go_ret3
   exact yP R.out (zS HR.out.1 (by omega)) HR.out.2.1
end Go.Proofs.YtcejjdmnlejbaaaGreatDoor
