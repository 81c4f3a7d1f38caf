import Derived.Test.YtcejjdmnlejbaaaGreatDoorWFpk
namespace Go.Proofs.YtcejjdmnlejbaaaGreatDoor
open Lib(hid)
set_option linter.unusedVariables false
set_option linter.unusedSimpArgs false
open Go.ChangeShapes Go.WideShapes Go.ChangeAt Go.RowKit
open Go.Deep (BT)
set_option maxHeartbeats 4000000
set_option maxRecDepth 100000
theorem Yn(c:Ch)(h:len c.k=0∨c.a.op=12∨c.a.op=13):Fp.I c=Fp.F c:=by unfold Fp.I Fp.tI;rw[if_pos h]
theorem Kk(c:Ch)(h:¬(len c.k=0∨c.a.op=12∨c.a.op=13)):Fp.tB (Fp.I c)=⟨#[40]⟩++Fp.tB (Fp.F c)++⟨#[41]⟩:=by
 apply Fp.ba_eq;rw[qP,qP,Fp.tB_list,Fp.tB_list];exact Fp.tI_paren c h
theorem jU{b o:Nat}{a:Nd}{k:Fo}(hw:(zk a (len k) && za k)=true)(hs:sz k≤199):(Fp.tB (Fp.F ⟨b,o,a,k⟩)).size≤201000:=by
 have:=Fp.len_tF ⟨b,o,a,k⟩ hw;rw[← qe]
 show(Fp.tF' _).length≤_
 dsimp only at this;omega
theorem zJ{b o:Nat}{a:Nd}{k:Fo}(hw:(zk a (len k) && za k)=true)(hs:sz k≤199):(Fp.tB (Fp.I ⟨b,o,a,k⟩)).size≤201000:=by
 have:=Fp.len_tI ⟨b,o,a,k⟩ hw;rw[← qe]
 show(Fp.tI' _).length≤_
 dsimp only at this;omega
theorem KZ(op:Int)(w:World)(h:Fp.bin op):Calls Tryz.prog 71 #[.int .i64 op] w fun e w'=>e=.returned (.string (Fp.opW op).text)∧w=w':=by
 rcases h with rfl|rfl|rfl|rfl|rfl|rfl|rfl|rfl|rfl|rfl
 all_goals
  go_enter Tryz.func71,Tryz.ntmps71;go_wp2;go_ret;exact⟨rfl,rfl⟩
def zr(b o:Nat)(a:Nd)(k:Fo):Prop:=∀w:World,Tab w→ExAt w b o a k→yN a k→(zk a (len k) && za k)=true→sz k≤199→
 Calls Tryz.prog 29 #[.agg #[.int .i64 a.op,.int .i64 a.num,.string a.name,.slice a.ptr (len k) a.cap]] w fun e w'=>e=.returned (.string (Fp.tB (Fp.F ⟨b,o,a,k⟩)))∧Below w.heap.size w w'
def rinC(b o:Nat)(a:Nd)(k:Fo):Prop:=∀w:World,Tab w→ExAt w b o a k→yN a k→(zk a (len k) && za k)=true→sz k≤199→
 Calls Tryz.prog 70 #[.agg #[.int .i64 a.op,.int .i64 a.num,.string a.name,.slice a.ptr (len k) a.cap]] w fun e w'=>e=.returned (.string (Fp.tB (Fp.I ⟨b,o,a,k⟩)))∧Below w.heap.size w w'
theorem kj{b o:Nat}{a:Nd}{k:Fo}(h:zr b o a k):rinC b o a k:=by
 intro w ht hx hok hw hs;obtain⟨op,num,name,ptr,cap⟩:=a;have hr0:=jU (b:=b) (o:=o) hw hs;have EB:=hid (Yn ⟨b,o,⟨op,num,name,ptr,cap⟩,k⟩);have EP:=hid (Kk ⟨b,o,⟨op,num,name,ptr,cap⟩,k⟩);obtain⟨r,hr⟩:∃r,Fp.tB (Fp.F ⟨b,o,⟨op,num,name,ptr,cap⟩,k⟩)=r:=⟨_,rfl⟩
 have H:Hid (∀W,Below w.heap.size w W→Calls Tryz.prog 29 #[.agg #[.int .i64 op,.int .i64 num,.string name,.slice ptr (len k) cap]] W fun e w'=>e=.returned (.string r)∧Below W.heap.size W w'):=fun W hb=>by
  have:=h W (ht.next hb) (hx.next hb) hok hw hs;rw[hr] at this;exact this
 rw[hr] at hr0 EP
 show Calls Tryz.prog 70 #[.agg #[.int .i64 op,.int .i64 num,.string name,.slice ptr (len k) cap]] w _
 by_cases q:len k=0∨op=12∨op=13
 ·rw [EB.out q,hr];have hk9:len k≤9223372036854775807:=hok.1.2.2.2;clear EB EP hr h ht hx hok hw hs
  by_cases q1:len k=0
  ·have q0:(len k:Int)=0:=by omega
   clear q q1;go_enter Tryz.func70,Tryz.ntmps70;go_wp2_with (go_at_call 29;refine(H.out _ ba1).mono ?_;rintro e w1 ⟨rfl,hb⟩;have B1:Hid (Below w.heap.size w w1):=((Below.refl w.heap.size w).alloc (Nat.le_refl _) _).trans (hb.mono (by simp));clear hb);go_ret;exact⟨rfl,B1.out⟩
  ·have q0:¬(len k:Int)=0:=by omega
   by_cases q2:op=12
   ·subst q2;clear q q1;go_enter Tryz.func70,Tryz.ntmps70;go_wp2_with (go_at_call 29;refine(H.out _ ba1).mono ?_;rintro e w1 ⟨rfl,hb⟩;have B1:Hid (Below w.heap.size w w1):=((Below.refl w.heap.size w).alloc (Nat.le_refl _) _).trans (hb.mono (by simp));clear hb);go_ret;exact⟨rfl,B1.out⟩
   ·have q3:op=13:=by omega
    subst q3;clear q q1 q2;go_enter Tryz.func70,Tryz.ntmps70;go_wp2_with (go_at_call 29;refine(H.out _ ba1).mono ?_;rintro e w1 ⟨rfl,hb⟩;have B1:Hid (Below w.heap.size w w1):=((Below.refl w.heap.size w).alloc (Nat.le_refl _) _).trans (hb.mono (by simp));clear hb);go_ret;exact⟨rfl,B1.out⟩
 ·have q0:¬(len k:Int)=0:=fun e=>q (.inl (by omega));have q2:¬op=12:=fun e=>q (.inr (.inl e));have q3:¬op=13:=fun e=>q (.inr (.inr e));have e0:((len k:Int)==0)=false:=beq_eq_false_iff_ne.2 q0;have e2:(op==12)=false:=beq_eq_false_iff_ne.2 q2;have e3:(op==13)=false:=beq_eq_false_iff_ne.2 q3;rw[EP.out q];have hk9:len k≤9223372036854775807:=hok.1.2.2.2;clear EB EP hr h ht hx hok hw hs q;go_enter Tryz.func70,Tryz.ntmps70;go_wp2_with (go_at_call 29;refine(H.out _ ba1).mono ?_;rintro e w1 ⟨rfl,hb⟩;have B1:Hid (Below w.heap.size w w1):=((Below.refl w.heap.size w).alloc (Nat.le_refl _) _).trans (hb.mono (by simp));clear hb);go_ret;exact⟨rfl,B1.out⟩
theorem Vj(b o:Nat)(op num:Int)(name:ByteArray)(ptr:Option Addr)(cap:Nat)(w:World)(ht:Tab w)(hok:yN ⟨op,num,name,ptr,cap⟩ .nil)(hw:(zk ⟨op,num,name,ptr,cap⟩ (len (.nil:Fo)) && za .nil)=true)
 (h:op=1∨op=2∨op=3∨op=4∨op=5∨op=6):Calls Tryz.prog 29 #[.agg #[.int .i64 op,.int .i64 num,.string name,.slice ptr (len (.nil:Fo)) cap]] w fun e w'=>e=.returned (.string (Fp.tB (Fp.F ⟨b,o,⟨op,num,name,ptr,cap⟩,.nil⟩)))∧Below w.heap.size w w':=by
 rcases h with rfl|rfl|rfl|rfl|rfl|rfl
 ·skip
  have VT1:=(Fp.vt_lit ⟨b,o,⟨1,num,name,ptr,cap⟩,.nil⟩ hw).1 rfl;have OK:=(kR 2 ⟨#[]⟩ num).2 VT1;have hn:=hok.1.2.1
  have H:Hid (∀W,Below w.heap.size w W→Calls Tryz.prog 69 #[.agg #[.int .i64 2,.string ⟨#[]⟩,.int .i64 num,.int .i64 0]] W fun e w'=>e=.returned (.string (tx ⟨⟨2,⟨#[]⟩,num⟩,0⟩))∧Below W.heap.size W w'):=fun W hb=>by
   refine(ju 2 ⟨#[]⟩ num 0 W (ht.next hb) hn.1 hn.2 (by decide)).mono ?_;rintro e w' ⟨⟨r,rfl,hy,-⟩,hb⟩;exact⟨by rw[hy OK];rfl,hb⟩
  have E:Hid (tx ⟨⟨2,⟨#[]⟩,num⟩,0⟩=Fp.tB (Fp.F ⟨b,o,⟨1,num,name,ptr,cap⟩,.nil⟩)):=Fp.ba_eq (Fp.b1 ⟨b,o,⟨1,num,name,ptr,cap⟩,.nil⟩ rfl).symm;rw[← E.out];clear E OK VT1 hn ht hok hw;generalize tx ⟨⟨2,⟨#[]⟩,num⟩,0⟩=r at *;go_enter Tryz.func29,Tryz.ntmps29;go_wp2_with (go_at_call 69;refine(H.out _ ba1).mono ?_;rintro e w1 ⟨rfl,hb⟩;have B1:Hid (Below w.heap.size w w1):=((Below.refl w.heap.size w).alloc (Nat.le_refl _) _).trans (hb.mono (by simp));clear hb);go_ret;exact⟨rfl,B1.out⟩
 ·skip
  have VT1:=(Fp.vt_lit ⟨b,o,⟨2,num,name,ptr,cap⟩,.nil⟩ hw).2.1 rfl;have OK:=(kR 3 ⟨#[]⟩ num).2 VT1;have hn:=hok.1.2.1
  have H:Hid (∀W,Below w.heap.size w W→Calls Tryz.prog 69 #[.agg #[.int .i64 3,.string ⟨#[]⟩,.int .i64 num,.int .i64 0]] W fun e w'=>e=.returned (.string (tx ⟨⟨3,⟨#[]⟩,num⟩,0⟩))∧Below W.heap.size W w'):=fun W hb=>by
   refine(ju 3 ⟨#[]⟩ num 0 W (ht.next hb) hn.1 hn.2 (by decide)).mono ?_;rintro e w' ⟨⟨r,rfl,hy,-⟩,hb⟩;exact⟨by rw[hy OK];rfl,hb⟩
  have E:Hid (tx ⟨⟨3,⟨#[]⟩,num⟩,0⟩=Fp.tB (Fp.F ⟨b,o,⟨2,num,name,ptr,cap⟩,.nil⟩)):=Fp.ba_eq (Fp.b2 ⟨b,o,⟨2,num,name,ptr,cap⟩,.nil⟩ rfl).symm;rw[← E.out];clear E OK VT1 hn ht hok hw;generalize tx ⟨⟨3,⟨#[]⟩,num⟩,0⟩=r at *;go_enter Tryz.func29,Tryz.ntmps29;go_wp2_with (go_at_call 69;refine(H.out _ ba1).mono ?_;rintro e w1 ⟨rfl,hb⟩;have B1:Hid (Below w.heap.size w w1):=((Below.refl w.heap.size w).alloc (Nat.le_refl _) _).trans (hb.mono (by simp));clear hb);go_ret;exact⟨rfl,B1.out⟩
 ·skip
  have VT1:=(Fp.vt_lit ⟨b,o,⟨3,num,name,ptr,cap⟩,.nil⟩ hw).2.2 rfl;have OK:=(kR 4 ⟨#[]⟩ num).2 VT1;have hn:=hok.1.2.1
  have H:Hid (∀W,Below w.heap.size w W→Calls Tryz.prog 69 #[.agg #[.int .i64 4,.string ⟨#[]⟩,.int .i64 num,.int .i64 0]] W fun e w'=>e=.returned (.string (tx ⟨⟨4,⟨#[]⟩,num⟩,0⟩))∧Below W.heap.size W w'):=fun W hb=>by
   refine(ju 4 ⟨#[]⟩ num 0 W (ht.next hb) hn.1 hn.2 (by decide)).mono ?_;rintro e w' ⟨⟨r,rfl,hy,-⟩,hb⟩;exact⟨by rw[hy OK];rfl,hb⟩
  have E:Hid (tx ⟨⟨4,⟨#[]⟩,num⟩,0⟩=Fp.tB (Fp.F ⟨b,o,⟨3,num,name,ptr,cap⟩,.nil⟩)):=Fp.ba_eq (Fp.b3 ⟨b,o,⟨3,num,name,ptr,cap⟩,.nil⟩ rfl).symm;rw[← E.out];clear E OK VT1 hn ht hok hw;generalize tx ⟨⟨4,⟨#[]⟩,num⟩,0⟩=r at *;go_enter Tryz.func29,Tryz.ntmps29;go_wp2_with (go_at_call 69;refine(H.out _ ba1).mono ?_;rintro e w1 ⟨rfl,hb⟩;have B1:Hid (Below w.heap.size w w1):=((Below.refl w.heap.size w).alloc (Nat.le_refl _) _).trans (hb.mono (by simp));clear hb);go_ret;exact⟨rfl,B1.out⟩
 ·have E:Hid (⟨#[116,114,117,101]⟩=Fp.tB (Fp.F ⟨b,o,⟨4,num,name,ptr,cap⟩,.nil⟩)):=Fp.ba_eq (Fp.b4 ⟨b,o,⟨4,num,name,ptr,cap⟩,.nil⟩ rfl).symm;rw[← E.out];clear E ht hok hw;go_enter Tryz.func29,Tryz.ntmps29;go_wp2;go_ret;exact⟨rfl,ba1⟩
 ·have E:Hid (⟨#[102,97,108,115,101]⟩=Fp.tB (Fp.F ⟨b,o,⟨5,num,name,ptr,cap⟩,.nil⟩)):=Fp.ba_eq (Fp.b5 ⟨b,o,⟨5,num,name,ptr,cap⟩,.nil⟩ rfl).symm;rw[← E.out];clear E ht hok hw;go_enter Tryz.func29,Tryz.ntmps29;go_wp2;go_ret;exact⟨rfl,ba1⟩
 ·have E:Hid (name=Fp.tB (Fp.F ⟨b,o,⟨6,num,name,ptr,cap⟩,.nil⟩)):=Fp.ba_eq (Fp.b6 ⟨b,o,⟨6,num,name,ptr,cap⟩,.nil⟩ rfl).symm;rw[← E.out];clear E ht hok hw;go_enter Tryz.func29,Tryz.ntmps29;go_wp2;go_ret;exact⟨rfl,ba1⟩
theorem rone(b o:Nat)(op num:Int)(name:ByteArray)(ptr:Option Addr)(cap:Nat)(b1 o1:Nat)(a1:Nd)(k1:Fo)(h1:zr b1 o1 a1 k1)(h:op=7∨op=19):zr b o ⟨op,num,name,ptr,cap⟩ (.node b1 o1 a1 k1 .nil):=by
 intro w ht hx hok hw hs;have hfs:=Fp.fst_kl (c:=⟨b,o,⟨op,num,name,ptr,cap⟩,(.node b1 o1 a1 k1 .nil)⟩) hw;have hwk:=Fp.wf_kl (.node b1 o1 a1 k1 .nil) (by rw[Bool.and_eq_true] at hw;exact hw.2);obtain rfl:ptr=some ⟨b,o,none⟩:=hx.1 (by simp);have HX:=hid hx.2;have hqI1:=zJ (b:=b1) (o:=o1) (a:=a1) (k:=k1) (hwk ⟨b1,o1,a1,k1⟩ (by simp[Fp.kl])).1 (by have:=(hwk ⟨b1,o1,a1,k1⟩ (by simp[Fp.kl])).2;dsimp only at this;omega)
 have I1:Hid (∀W,Below w.heap.size w W→Calls Tryz.prog 70 #[.agg #[.int .i64 a1.op,.int .i64 a1.num,.string a1.name,.slice a1.ptr (len k1) a1.cap]] W fun e w'=>e=.returned (.string (Fp.tB (Fp.I ⟨b1,o1,a1,k1⟩)))∧Below W.heap.size W w'):=fun W hb=>by
  have hy:=HX.out.next hb
  exact(kj h1) W (ht.next hb) ⟨hy.2.1,hy.2.2.1⟩ ⟨hok.2.1,hok.2.2.1⟩ (hwk ⟨b1,o1,a1,k1⟩ (by simp[Fp.kl])).1 (by have:=(hwk ⟨b1,o1,a1,k1⟩ (by simp[Fp.kl])).2;dsimp only at this;omega)
 have HF:=hid hfs;clear hfs hwk hx hok hw hs ht h1;rcases h with rfl|rfl
 ·have E:Hid (⟨#[45]⟩++Fp.tB (Fp.I ⟨b1,o1,a1,k1⟩)=Fp.tB (Fp.F ⟨b,o,⟨7,num,name,some ⟨b,o,none⟩,cap⟩,(.node b1 o1 a1 k1 .nil)⟩)):=by
   apply Fp.ba_eq;refine Eq.trans ?_ (Fp.b7 (c:=⟨b,o,⟨7,num,name,some ⟨b,o,none⟩,cap⟩,(.node b1 o1 a1 k1 .nil)⟩) ⟨b1,o1,a1,k1⟩ rfl rfl).symm;simp only[qP,Fp.tB_list,List.append_assoc,List.cons_append,List.nil_append];rfl
  show Calls Tryz.prog 29 #[.agg #[.int .i64 7,.int .i64 num,.string name,.slice (some ⟨b,o,none⟩) 1 cap]] w _
  rw[← E.out];clear E HF;generalize Fp.tB (Fp.I ⟨b1,o1,a1,k1⟩)=rI1 at *;have B0:Below w.heap.size w (w.alloc (.cells #[.int .i64 7,.int .i64 num,.string name,.slice (some ⟨b,o,none⟩) 1 cap] 24)):=ba1;obtain⟨⟨d10,d11,d12,d13⟩,-,-,-⟩:=HX.out.next B0
  clear HX;clear B0;go_enter Tryz.func29,Tryz.ntmps29;go_wp2_with (go_at_call 70;refine(I1.out _ ba1).mono ?_;rintro e w1 ⟨rfl,hb⟩;have B1:Hid (Below w.heap.size w w1):=((Below.refl w.heap.size w).alloc (Nat.le_refl _) _).trans (hb.mono (by simp));clear hb);go_ret;exact⟨rfl,B1.out⟩
 ·have E:Hid (⟨#[110,111,116,32]⟩++Fp.tB (Fp.I ⟨b1,o1,a1,k1⟩)=Fp.tB (Fp.F ⟨b,o,⟨19,num,name,some ⟨b,o,none⟩,cap⟩,(.node b1 o1 a1 k1 .nil)⟩)):=by
   apply Fp.ba_eq;refine Eq.trans ?_ (Fp.b19 (c:=⟨b,o,⟨19,num,name,some ⟨b,o,none⟩,cap⟩,(.node b1 o1 a1 k1 .nil)⟩) ⟨b1,o1,a1,k1⟩ rfl rfl (HF.out ⟨b1,o1,a1,k1⟩ (by simp[Fp.kl]))).symm;simp only[qP,Fp.tB_list,List.append_assoc,List.cons_append,List.nil_append];rfl
  show Calls Tryz.prog 29 #[.agg #[.int .i64 19,.int .i64 num,.string name,.slice (some ⟨b,o,none⟩) 1 cap]] w _
  rw[← E.out];clear E HF;generalize Fp.tB (Fp.I ⟨b1,o1,a1,k1⟩)=rI1 at *;have B0:Below w.heap.size w (w.alloc (.cells #[.int .i64 19,.int .i64 num,.string name,.slice (some ⟨b,o,none⟩) 1 cap] 24)):=ba1;obtain⟨⟨d10,d11,d12,d13⟩,-,-,-⟩:=HX.out.next B0
  clear HX;clear B0;go_enter Tryz.func29,Tryz.ntmps29;go_wp2_with (go_at_call 70;refine(I1.out _ ba1).mono ?_;rintro e w1 ⟨rfl,hb⟩;have B1:Hid (Below w.heap.size w w1):=((Below.refl w.heap.size w).alloc (Nat.le_refl _) _).trans (hb.mono (by simp));clear hb);go_ret;exact⟨rfl,B1.out⟩
theorem rifc(b o:Nat)(op num:Int)(name:ByteArray)(ptr:Option Addr)(cap:Nat)(b1 o1:Nat)(a1:Nd)(k1:Fo)(b2 o2:Nat)(a2:Nd)(k2:Fo)(b3 o3:Nat)(a3:Nd)(k3:Fo)(h1:zr b1 o1 a1 k1)(h2:zr b2 o2 a2 k2)(h3:zr b3 o3 a3 k3)(h:op=14):zr b o ⟨op,num,name,ptr,cap⟩ (.node b1 o1 a1 k1 (.node b2 o2 a2 k2 (.node b3 o3 a3 k3 .nil))):=by
 intro w ht hx hok hw hs;have hfs:=Fp.fst_kl (c:=⟨b,o,⟨op,num,name,ptr,cap⟩,(.node b1 o1 a1 k1 (.node b2 o2 a2 k2 (.node b3 o3 a3 k3 .nil)))⟩) hw;have hwk:=Fp.wf_kl (.node b1 o1 a1 k1 (.node b2 o2 a2 k2 (.node b3 o3 a3 k3 .nil))) (by rw[Bool.and_eq_true] at hw;exact hw.2);obtain rfl:ptr=some ⟨b,o,none⟩:=hx.1 (by simp);have HX:=hid hx.2;have hqT1:=jU (b:=b1) (o:=o1) (a:=a1) (k:=k1) (hwk ⟨b1,o1,a1,k1⟩ (by simp[Fp.kl])).1 (by have:=(hwk ⟨b1,o1,a1,k1⟩ (by simp[Fp.kl])).2;dsimp only at this;omega)
 have T1:Hid (∀W,Below w.heap.size w W→Calls Tryz.prog 29 #[.agg #[.int .i64 a1.op,.int .i64 a1.num,.string a1.name,.slice a1.ptr (len k1) a1.cap]] W fun e w'=>e=.returned (.string (Fp.tB (Fp.F ⟨b1,o1,a1,k1⟩)))∧Below W.heap.size W w'):=fun W hb=>by
  have hy:=HX.out.next hb
  exact(h1) W (ht.next hb) ⟨hy.2.1,hy.2.2.1⟩ ⟨hok.2.1,hok.2.2.1⟩ (hwk ⟨b1,o1,a1,k1⟩ (by simp[Fp.kl])).1 (by have:=(hwk ⟨b1,o1,a1,k1⟩ (by simp[Fp.kl])).2;dsimp only at this;omega)
 have hqT2:=jU (b:=b2) (o:=o2) (a:=a2) (k:=k2) (hwk ⟨b2,o2,a2,k2⟩ (by simp[Fp.kl])).1 (by have:=(hwk ⟨b2,o2,a2,k2⟩ (by simp[Fp.kl])).2;dsimp only at this;omega)
 have T2:Hid (∀W,Below w.heap.size w W→Calls Tryz.prog 29 #[.agg #[.int .i64 a2.op,.int .i64 a2.num,.string a2.name,.slice a2.ptr (len k2) a2.cap]] W fun e w'=>e=.returned (.string (Fp.tB (Fp.F ⟨b2,o2,a2,k2⟩)))∧Below W.heap.size W w'):=fun W hb=>by
  have hy:=HX.out.next hb
  exact(h2) W (ht.next hb) ⟨hy.2.2.2.2.1,hy.2.2.2.2.2.1⟩ ⟨hok.2.2.2.1,hok.2.2.2.2.1⟩ (hwk ⟨b2,o2,a2,k2⟩ (by simp[Fp.kl])).1 (by have:=(hwk ⟨b2,o2,a2,k2⟩ (by simp[Fp.kl])).2;dsimp only at this;omega)
 have hqT3:=jU (b:=b3) (o:=o3) (a:=a3) (k:=k3) (hwk ⟨b3,o3,a3,k3⟩ (by simp[Fp.kl])).1 (by have:=(hwk ⟨b3,o3,a3,k3⟩ (by simp[Fp.kl])).2;dsimp only at this;omega)
 have T3:Hid (∀W,Below w.heap.size w W→Calls Tryz.prog 29 #[.agg #[.int .i64 a3.op,.int .i64 a3.num,.string a3.name,.slice a3.ptr (len k3) a3.cap]] W fun e w'=>e=.returned (.string (Fp.tB (Fp.F ⟨b3,o3,a3,k3⟩)))∧Below W.heap.size W w'):=fun W hb=>by
  have hy:=HX.out.next hb
  exact(h3) W (ht.next hb) ⟨hy.2.2.2.2.2.2.2.1,hy.2.2.2.2.2.2.2.2.1⟩ ⟨hok.2.2.2.2.2.1,hok.2.2.2.2.2.2.1⟩ (hwk ⟨b3,o3,a3,k3⟩ (by simp[Fp.kl])).1 (by have:=(hwk ⟨b3,o3,a3,k3⟩ (by simp[Fp.kl])).2;dsimp only at this;omega)
 have HF:=hid hfs;clear hfs hwk hx hok hw hs ht h1 h2 h3;subst h
 have E:Hid (⟨#[105,102,32]⟩++Fp.tB (Fp.F ⟨b1,o1,a1,k1⟩)++⟨#[32,116,104,101,110,32]⟩++Fp.tB (Fp.F ⟨b2,o2,a2,k2⟩)++⟨#[32,101,108,115,101,32]⟩++Fp.tB (Fp.F ⟨b3,o3,a3,k3⟩)=Fp.tB (Fp.F ⟨b,o,⟨14,num,name,some ⟨b,o,none⟩,cap⟩,(.node b1 o1 a1 k1 (.node b2 o2 a2 k2 (.node b3 o3 a3 k3 .nil)))⟩)):=by
  apply Fp.ba_eq;refine Eq.trans ?_ (Fp.b14 (c:=⟨b,o,⟨14,num,name,some ⟨b,o,none⟩,cap⟩,(.node b1 o1 a1 k1 (.node b2 o2 a2 k2 (.node b3 o3 a3 k3 .nil)))⟩) ⟨b1,o1,a1,k1⟩ ⟨b2,o2,a2,k2⟩ ⟨b3,o3,a3,k3⟩ rfl rfl (HF.out ⟨b1,o1,a1,k1⟩ (by simp[Fp.kl])) (HF.out ⟨b2,o2,a2,k2⟩ (by simp[Fp.kl])) (HF.out ⟨b3,o3,a3,k3⟩ (by simp[Fp.kl]))).symm;simp only[qP,Fp.tB_list,List.append_assoc,List.cons_append,List.nil_append];rfl
 show Calls Tryz.prog 29 #[.agg #[.int .i64 14,.int .i64 num,.string name,.slice (some ⟨b,o,none⟩) 3 cap]] w _
 rw[← E.out];clear E HF;generalize Fp.tB (Fp.F ⟨b1,o1,a1,k1⟩)=rT1 at *;generalize Fp.tB (Fp.F ⟨b2,o2,a2,k2⟩)=rT2 at *;generalize Fp.tB (Fp.F ⟨b3,o3,a3,k3⟩)=rT3 at *;have B0:Below w.heap.size w (w.alloc (.cells #[.int .i64 14,.int .i64 num,.string name,.slice (some ⟨b,o,none⟩) 3 cap] 24)):=ba1;obtain⟨⟨d10,d11,d12,d13⟩,-,-,⟨d20,d21,d22,d23⟩,-,-,⟨d30,d31,d32,d33⟩,-,-,-⟩:=HX.out.next B0
 clear HX;have p0:(w.alloc (.cells #[.int .i64 14,.int .i64 num,.string name,.slice (some ⟨b,o,none⟩) 3 cap] 24)).cell? ⟨w.heap.size,0,none⟩=some (.int .i64 14):=by simp[go_sem]
 have p3:(w.alloc (.cells #[.int .i64 14,.int .i64 num,.string name,.slice (some ⟨b,o,none⟩) 3 cap] 24)).cell? ⟨w.heap.size,3,none⟩=some (.slice (some ⟨b,o,none⟩) 3 cap):=by simp[go_sem]
 have P0:=hid p0;have P3:=hid p3;clear p0 p3;have D10:=hid d10;have D11:=hid d11;have D12:=hid d12;have D13:=hid d13;have D20:=hid d20;have D21:=hid d21;have D22:=hid d22;have D23:=hid d23;have D30:=hid d30;have D31:=hid d31;have D32:=hid d32;have D33:=hid d33;clear d10 d11 d12 d13 d20 d21 d22 d23 d30 d31 d32 d33;have BW:=hid B0;clear B0;go_enter Tryz.func29,Tryz.ntmps29;go_upto_region 31 with (fail);generalize (w.alloc (.cells #[.int .i64 14,.int .i64 num,.string name,.slice (some ⟨b,o,none⟩) 3 cap] 24))=w0 at *;have C1:Hid (QC Tryz.prog 29 #[.agg #[.int .i64 a1.op,.int .i64 a1.num,.string a1.name,.slice a1.ptr (len k1) a1.cap]] (.string rT1) w0):=fun dq os=>Calls.regrown_of (T1.out _ (BW.out.trans ((below_regrown w0 dq os).mono BW.out.size)));have C2:Hid (QC Tryz.prog 29 #[.agg #[.int .i64 a2.op,.int .i64 a2.num,.string a2.name,.slice a2.ptr (len k2) a2.cap]] (.string rT2) w0):=fun dq os=>Calls.regrown_of (T2.out _ (BW.out.trans ((below_regrown w0 dq os).mono BW.out.size)));have C3:Hid (QC Tryz.prog 29 #[.agg #[.int .i64 a3.op,.int .i64 a3.num,.string a3.name,.slice a3.ptr (len k3) a3.cap]] (.string rT3) w0):=fun dq os=>Calls.regrown_of (T3.out _ (BW.out.trans ((below_regrown w0 dq os).mono BW.out.size)));have e0:=fun d os=>cell_regrown P0.out d os;have e3:=fun d os=>cell_regrown P3.out d os;have f10:=fun d os=>cell_regrown D10.out d os;have f11:=fun d os=>cell_regrown D11.out d os;have f12:=fun d os=>cell_regrown D12.out d os;have f13:=fun d os=>cell_regrown D13.out d os;have f20:=fun d os=>cell_regrown D20.out d os;have f21:=fun d os=>cell_regrown D21.out d os;have f22:=fun d os=>cell_regrown D22.out d os;have f23:=fun d os=>cell_regrown D23.out d os;have f30:=fun d os=>cell_regrown D30.out d os;have f31:=fun d os=>cell_regrown D31.out d os;have f32:=fun d os=>cell_regrown D32.out d os;have f33:=fun d os=>cell_regrown D33.out d os;refine wp_region_quiet_below (by kernel_rfl) (by kernel_rfl) ?_;have z0:¬ 9223372036854775807 < 3+rT1.size:=by omega
 have z1:¬ 9223372036854775807 < 3+rT1.size+6:=by omega
 have z2:¬ 9223372036854775801 < 3+rT1.size:=by omega
 have z3:¬ 9223372036854775807 < 3+rT1.size+6+rT2.size:=by omega
 have z4:¬ 9223372036854775807 < 3+rT1.size+6+rT2.size+6:=by omega
 have z5:¬ 9223372036854775801 < 3+rT1.size+6+rT2.size:=by omega
 have z6:¬ 9223372036854775807 < 3+rT1.size+6+rT2.size+6+rT3.size:=by omega
 repeat (quiet_step (first|with_reducible exact C1.out _ _|with_reducible exact C2.out _ _|with_reducible exact C3.out _ _))
 refine wpQuiet_nil ?_;intro _ hw';obtain⟨⟨dq,osq⟩,hw''⟩:=hw';subst hw'';have hb:=below_regrown w0 dq osq;have B1:=hid (bt9 BW hb);clear hb e0 e3 z0 z1 z2 z3 z4 z5 z6 f10 f11 f12 f13 f20 f21 f22 f23 f30 f31 f32 f33;generalize Sort.grow (redrawn w0 dq) osq=w1 at *;go_wp2;go_ret;exact⟨rfl,B1.out⟩
theorem rinc(b o:Nat)(op num:Int)(name:ByteArray)(ptr:Option Addr)(cap:Nat)(b1 o1:Nat)(a1:Nd)(k1:Fo)(b2 o2:Nat)(a2:Nd)(k2:Fo)(b3 o3:Nat)(a3:Nd)(k3:Fo)(h1:zr b1 o1 a1 k1)(h2:zr b2 o2 a2 k2)(h3:zr b3 o3 a3 k3)(h:op=15):zr b o ⟨op,num,name,ptr,cap⟩ (.node b1 o1 a1 k1 (.node b2 o2 a2 k2 (.node b3 o3 a3 k3 .nil))):=by
 intro w ht hx hok hw hs;have hfs:=Fp.fst_kl (c:=⟨b,o,⟨op,num,name,ptr,cap⟩,(.node b1 o1 a1 k1 (.node b2 o2 a2 k2 (.node b3 o3 a3 k3 .nil)))⟩) hw;have hwk:=Fp.wf_kl (.node b1 o1 a1 k1 (.node b2 o2 a2 k2 (.node b3 o3 a3 k3 .nil))) (by rw[Bool.and_eq_true] at hw;exact hw.2);obtain rfl:ptr=some ⟨b,o,none⟩:=hx.1 (by simp);have HX:=hid hx.2;have hqI1:=zJ (b:=b1) (o:=o1) (a:=a1) (k:=k1) (hwk ⟨b1,o1,a1,k1⟩ (by simp[Fp.kl])).1 (by have:=(hwk ⟨b1,o1,a1,k1⟩ (by simp[Fp.kl])).2;dsimp only at this;omega)
 have I1:Hid (∀W,Below w.heap.size w W→Calls Tryz.prog 70 #[.agg #[.int .i64 a1.op,.int .i64 a1.num,.string a1.name,.slice a1.ptr (len k1) a1.cap]] W fun e w'=>e=.returned (.string (Fp.tB (Fp.I ⟨b1,o1,a1,k1⟩)))∧Below W.heap.size W w'):=fun W hb=>by
  have hy:=HX.out.next hb
  exact(kj h1) W (ht.next hb) ⟨hy.2.1,hy.2.2.1⟩ ⟨hok.2.1,hok.2.2.1⟩ (hwk ⟨b1,o1,a1,k1⟩ (by simp[Fp.kl])).1 (by have:=(hwk ⟨b1,o1,a1,k1⟩ (by simp[Fp.kl])).2;dsimp only at this;omega)
 have hqI2:=zJ (b:=b2) (o:=o2) (a:=a2) (k:=k2) (hwk ⟨b2,o2,a2,k2⟩ (by simp[Fp.kl])).1 (by have:=(hwk ⟨b2,o2,a2,k2⟩ (by simp[Fp.kl])).2;dsimp only at this;omega)
 have I2:Hid (∀W,Below w.heap.size w W→Calls Tryz.prog 70 #[.agg #[.int .i64 a2.op,.int .i64 a2.num,.string a2.name,.slice a2.ptr (len k2) a2.cap]] W fun e w'=>e=.returned (.string (Fp.tB (Fp.I ⟨b2,o2,a2,k2⟩)))∧Below W.heap.size W w'):=fun W hb=>by
  have hy:=HX.out.next hb
  exact(kj h2) W (ht.next hb) ⟨hy.2.2.2.2.1,hy.2.2.2.2.2.1⟩ ⟨hok.2.2.2.1,hok.2.2.2.2.1⟩ (hwk ⟨b2,o2,a2,k2⟩ (by simp[Fp.kl])).1 (by have:=(hwk ⟨b2,o2,a2,k2⟩ (by simp[Fp.kl])).2;dsimp only at this;omega)
 have hqI3:=zJ (b:=b3) (o:=o3) (a:=a3) (k:=k3) (hwk ⟨b3,o3,a3,k3⟩ (by simp[Fp.kl])).1 (by have:=(hwk ⟨b3,o3,a3,k3⟩ (by simp[Fp.kl])).2;dsimp only at this;omega)
 have I3:Hid (∀W,Below w.heap.size w W→Calls Tryz.prog 70 #[.agg #[.int .i64 a3.op,.int .i64 a3.num,.string a3.name,.slice a3.ptr (len k3) a3.cap]] W fun e w'=>e=.returned (.string (Fp.tB (Fp.I ⟨b3,o3,a3,k3⟩)))∧Below W.heap.size W w'):=fun W hb=>by
  have hy:=HX.out.next hb
  exact(kj h3) W (ht.next hb) ⟨hy.2.2.2.2.2.2.2.1,hy.2.2.2.2.2.2.2.2.1⟩ ⟨hok.2.2.2.2.2.1,hok.2.2.2.2.2.2.1⟩ (hwk ⟨b3,o3,a3,k3⟩ (by simp[Fp.kl])).1 (by have:=(hwk ⟨b3,o3,a3,k3⟩ (by simp[Fp.kl])).2;dsimp only at this;omega)
 have HF:=hid hfs;clear hfs hwk hx hok hw hs ht h1 h2 h3;subst h
 have E:Hid (Fp.tB (Fp.I ⟨b1,o1,a1,k1⟩)++⟨#[32,105,110,32]⟩++Fp.tB (Fp.I ⟨b2,o2,a2,k2⟩)++⟨#[32,116,111,32]⟩++Fp.tB (Fp.I ⟨b3,o3,a3,k3⟩)=Fp.tB (Fp.F ⟨b,o,⟨15,num,name,some ⟨b,o,none⟩,cap⟩,(.node b1 o1 a1 k1 (.node b2 o2 a2 k2 (.node b3 o3 a3 k3 .nil)))⟩)):=by
  apply Fp.ba_eq;refine Eq.trans ?_ (Fp.b15 (c:=⟨b,o,⟨15,num,name,some ⟨b,o,none⟩,cap⟩,(.node b1 o1 a1 k1 (.node b2 o2 a2 k2 (.node b3 o3 a3 k3 .nil)))⟩) ⟨b1,o1,a1,k1⟩ ⟨b2,o2,a2,k2⟩ ⟨b3,o3,a3,k3⟩ rfl rfl (HF.out ⟨b2,o2,a2,k2⟩ (by simp[Fp.kl])) (HF.out ⟨b3,o3,a3,k3⟩ (by simp[Fp.kl]))).symm;simp only[qP,Fp.tB_list,List.append_assoc,List.cons_append,List.nil_append];rfl
 show Calls Tryz.prog 29 #[.agg #[.int .i64 15,.int .i64 num,.string name,.slice (some ⟨b,o,none⟩) 3 cap]] w _
 rw[← E.out];clear E HF;generalize Fp.tB (Fp.I ⟨b1,o1,a1,k1⟩)=rI1 at *;generalize Fp.tB (Fp.I ⟨b2,o2,a2,k2⟩)=rI2 at *;generalize Fp.tB (Fp.I ⟨b3,o3,a3,k3⟩)=rI3 at *;have B0:Below w.heap.size w (w.alloc (.cells #[.int .i64 15,.int .i64 num,.string name,.slice (some ⟨b,o,none⟩) 3 cap] 24)):=ba1;obtain⟨⟨d10,d11,d12,d13⟩,-,-,⟨d20,d21,d22,d23⟩,-,-,⟨d30,d31,d32,d33⟩,-,-,-⟩:=HX.out.next B0
 clear HX;have p0:(w.alloc (.cells #[.int .i64 15,.int .i64 num,.string name,.slice (some ⟨b,o,none⟩) 3 cap] 24)).cell? ⟨w.heap.size,0,none⟩=some (.int .i64 15):=by simp[go_sem]
 have p3:(w.alloc (.cells #[.int .i64 15,.int .i64 num,.string name,.slice (some ⟨b,o,none⟩) 3 cap] 24)).cell? ⟨w.heap.size,3,none⟩=some (.slice (some ⟨b,o,none⟩) 3 cap):=by simp[go_sem]
 have P0:=hid p0;have P3:=hid p3;clear p0 p3;have D10:=hid d10;have D11:=hid d11;have D12:=hid d12;have D13:=hid d13;have D20:=hid d20;have D21:=hid d21;have D22:=hid d22;have D23:=hid d23;have D30:=hid d30;have D31:=hid d31;have D32:=hid d32;have D33:=hid d33;clear d10 d11 d12 d13 d20 d21 d22 d23 d30 d31 d32 d33;have BW:=hid B0;clear B0;go_enter Tryz.func29,Tryz.ntmps29;go_upto_region 33 with (fail);generalize (w.alloc (.cells #[.int .i64 15,.int .i64 num,.string name,.slice (some ⟨b,o,none⟩) 3 cap] 24))=w0 at *;have C1:Hid (QC Tryz.prog 70 #[.agg #[.int .i64 a1.op,.int .i64 a1.num,.string a1.name,.slice a1.ptr (len k1) a1.cap]] (.string rI1) w0):=fun dq os=>Calls.regrown_of (I1.out _ (BW.out.trans ((below_regrown w0 dq os).mono BW.out.size)));have C2:Hid (QC Tryz.prog 70 #[.agg #[.int .i64 a2.op,.int .i64 a2.num,.string a2.name,.slice a2.ptr (len k2) a2.cap]] (.string rI2) w0):=fun dq os=>Calls.regrown_of (I2.out _ (BW.out.trans ((below_regrown w0 dq os).mono BW.out.size)));have C3:Hid (QC Tryz.prog 70 #[.agg #[.int .i64 a3.op,.int .i64 a3.num,.string a3.name,.slice a3.ptr (len k3) a3.cap]] (.string rI3) w0):=fun dq os=>Calls.regrown_of (I3.out _ (BW.out.trans ((below_regrown w0 dq os).mono BW.out.size)));have e0:=fun d os=>cell_regrown P0.out d os;have e3:=fun d os=>cell_regrown P3.out d os;have f10:=fun d os=>cell_regrown D10.out d os;have f11:=fun d os=>cell_regrown D11.out d os;have f12:=fun d os=>cell_regrown D12.out d os;have f13:=fun d os=>cell_regrown D13.out d os;have f20:=fun d os=>cell_regrown D20.out d os;have f21:=fun d os=>cell_regrown D21.out d os;have f22:=fun d os=>cell_regrown D22.out d os;have f23:=fun d os=>cell_regrown D23.out d os;have f30:=fun d os=>cell_regrown D30.out d os;have f31:=fun d os=>cell_regrown D31.out d os;have f32:=fun d os=>cell_regrown D32.out d os;have f33:=fun d os=>cell_regrown D33.out d os;refine wp_region_quiet_below (by kernel_rfl) (by kernel_rfl) ?_;have z0:¬ 9223372036854775807 < rI1.size+4:=by omega
 have z1:¬ 9223372036854775803 < rI1.size:=by omega
 have z2:¬ 9223372036854775807 < rI1.size+4+rI2.size:=by omega
 have z3:¬ 9223372036854775807 < rI1.size+4+rI2.size+4:=by omega
 have z4:¬ 9223372036854775803 < rI1.size+4+rI2.size:=by omega
 have z5:¬ 9223372036854775807 < rI1.size+4+rI2.size+4+rI3.size:=by omega
 repeat (quiet_step (first|with_reducible exact C1.out _ _|with_reducible exact C2.out _ _|with_reducible exact C3.out _ _))
 refine wpQuiet_nil ?_;intro _ hw';obtain⟨⟨dq,osq⟩,hw''⟩:=hw';subst hw'';have hb:=below_regrown w0 dq osq;have B1:=hid (bt9 BW hb);clear hb e0 e3 z0 z1 z2 z3 z4 z5 f10 f11 f12 f13 f20 f21 f22 f23 f30 f31 f32 f33;generalize Sort.grow (redrawn w0 dq) osq=w1 at *;go_wp2;go_ret;exact⟨rfl,B1.out⟩
theorem rtwo(b o:Nat)(op num:Int)(name:ByteArray)(ptr:Option Addr)(cap:Nat)(b1 o1:Nat)(a1:Nd)(k1:Fo)(b2 o2:Nat)(a2:Nd)(k2:Fo)(h1:zr b1 o1 a1 k1)(h2:zr b2 o2 a2 k2)(h:Fp.bin op):zr b o ⟨op,num,name,ptr,cap⟩ (.node b1 o1 a1 k1 (.node b2 o2 a2 k2 .nil)):=by
 intro w ht hx hok hw hs;have hfs:=Fp.fst_kl (c:=⟨b,o,⟨op,num,name,ptr,cap⟩,(.node b1 o1 a1 k1 (.node b2 o2 a2 k2 .nil))⟩) hw;have hwk:=Fp.wf_kl (.node b1 o1 a1 k1 (.node b2 o2 a2 k2 .nil)) (by rw[Bool.and_eq_true] at hw;exact hw.2);obtain rfl:ptr=some ⟨b,o,none⟩:=hx.1 (by simp);have HX:=hid hx.2;have hqI1:=zJ (b:=b1) (o:=o1) (a:=a1) (k:=k1) (hwk ⟨b1,o1,a1,k1⟩ (by simp[Fp.kl])).1 (by have:=(hwk ⟨b1,o1,a1,k1⟩ (by simp[Fp.kl])).2;dsimp only at this;omega)
 have I1:Hid (∀W,Below w.heap.size w W→Calls Tryz.prog 70 #[.agg #[.int .i64 a1.op,.int .i64 a1.num,.string a1.name,.slice a1.ptr (len k1) a1.cap]] W fun e w'=>e=.returned (.string (Fp.tB (Fp.I ⟨b1,o1,a1,k1⟩)))∧Below W.heap.size W w'):=fun W hb=>by
  have hy:=HX.out.next hb
  exact(kj h1) W (ht.next hb) ⟨hy.2.1,hy.2.2.1⟩ ⟨hok.2.1,hok.2.2.1⟩ (hwk ⟨b1,o1,a1,k1⟩ (by simp[Fp.kl])).1 (by have:=(hwk ⟨b1,o1,a1,k1⟩ (by simp[Fp.kl])).2;dsimp only at this;omega)
 have hqI2:=zJ (b:=b2) (o:=o2) (a:=a2) (k:=k2) (hwk ⟨b2,o2,a2,k2⟩ (by simp[Fp.kl])).1 (by have:=(hwk ⟨b2,o2,a2,k2⟩ (by simp[Fp.kl])).2;dsimp only at this;omega)
 have I2:Hid (∀W,Below w.heap.size w W→Calls Tryz.prog 70 #[.agg #[.int .i64 a2.op,.int .i64 a2.num,.string a2.name,.slice a2.ptr (len k2) a2.cap]] W fun e w'=>e=.returned (.string (Fp.tB (Fp.I ⟨b2,o2,a2,k2⟩)))∧Below W.heap.size W w'):=fun W hb=>by
  have hy:=HX.out.next hb
  exact(kj h2) W (ht.next hb) ⟨hy.2.2.2.2.1,hy.2.2.2.2.2.1⟩ ⟨hok.2.2.2.1,hok.2.2.2.2.1⟩ (hwk ⟨b2,o2,a2,k2⟩ (by simp[Fp.kl])).1 (by have:=(hwk ⟨b2,o2,a2,k2⟩ (by simp[Fp.kl])).2;dsimp only at this;omega)
 have HF:=hid hfs;clear hfs hwk hx hok hw hs ht h1 h2
 have E:Hid (Fp.tB (Fp.I ⟨b1,o1,a1,k1⟩)++⟨#[32]⟩++(Fp.opW op).text++⟨#[32]⟩++Fp.tB (Fp.I ⟨b2,o2,a2,k2⟩)=Fp.tB (Fp.F ⟨b,o,⟨op,num,name,some ⟨b,o,none⟩,cap⟩,(.node b1 o1 a1 k1 (.node b2 o2 a2 k2 .nil))⟩)):=by
  apply Fp.ba_eq;refine Eq.trans ?_ (Fp.bbin (c:=⟨b,o,⟨op,num,name,some ⟨b,o,none⟩,cap⟩,(.node b1 o1 a1 k1 (.node b2 o2 a2 k2 .nil))⟩) ⟨b1,o1,a1,k1⟩ ⟨b2,o2,a2,k2⟩ (show Fp.bin op from h) rfl (HF.out ⟨b2,o2,a2,k2⟩ (by simp[Fp.kl]))).symm;simp only[qP,Fp.tB_list,List.append_assoc,List.cons_append,List.nil_append];rfl
 show Calls Tryz.prog 29 #[.agg #[.int .i64 op,.int .i64 num,.string name,.slice (some ⟨b,o,none⟩) 2 cap]] w _
 rw[← E.out];clear E HF;generalize Fp.tB (Fp.I ⟨b1,o1,a1,k1⟩)=rI1 at *;generalize Fp.tB (Fp.I ⟨b2,o2,a2,k2⟩)=rI2 at *;have B0:Below w.heap.size w (w.alloc (.cells #[.int .i64 op,.int .i64 num,.string name,.slice (some ⟨b,o,none⟩) 2 cap] 24)):=ba1;obtain⟨⟨d10,d11,d12,d13⟩,-,-,⟨d20,d21,d22,d23⟩,-,-,-⟩:=HX.out.next B0
 clear HX;have p0:(w.alloc (.cells #[.int .i64 op,.int .i64 num,.string name,.slice (some ⟨b,o,none⟩) 2 cap] 24)).cell? ⟨w.heap.size,0,none⟩=some (.int .i64 op):=by simp[go_sem]
 have p3:(w.alloc (.cells #[.int .i64 op,.int .i64 num,.string name,.slice (some ⟨b,o,none⟩) 2 cap] 24)).cell? ⟨w.heap.size,3,none⟩=some (.slice (some ⟨b,o,none⟩) 2 cap):=by simp[go_sem]
 have P0:=hid p0;have P3:=hid p3;clear p0 p3;have D10:=hid d10;have D11:=hid d11;have D12:=hid d12;have D13:=hid d13;have D20:=hid d20;have D21:=hid d21;have D22:=hid d22;have D23:=hid d23;clear d10 d11 d12 d13 d20 d21 d22 d23;have BW:=hid B0;clear B0;have OP:Hid (∀W,Calls Tryz.prog 71 #[.int .i64 op] W fun e w'=>e=.returned (.string (Fp.opW op).text)∧W=w'):=fun W=>KZ op W h;have ho:(Fp.opW op).text.size≤7:=Fp.opW_sz op;generalize (Fp.opW op).text=ro at *;have n1:(op==1)=false:=Fp.bin_ne h (by unfold Fp.bin;omega);have n2:(op==2)=false:=Fp.bin_ne h (by unfold Fp.bin;omega);have n3:(op==3)=false:=Fp.bin_ne h (by unfold Fp.bin;omega);have n4:(op==4)=false:=Fp.bin_ne h (by unfold Fp.bin;omega);have n5:(op==5)=false:=Fp.bin_ne h (by unfold Fp.bin;omega);have n6:(op==6)=false:=Fp.bin_ne h (by unfold Fp.bin;omega);have n7:(op==7)=false:=Fp.bin_ne h (by unfold Fp.bin;omega);have n12:(op==12)=false:=Fp.bin_ne h (by unfold Fp.bin;omega);have n13:(op==13)=false:=Fp.bin_ne h (by unfold Fp.bin;omega);have n14:(op==14)=false:=Fp.bin_ne h (by unfold Fp.bin;omega);have n15:(op==15)=false:=Fp.bin_ne h (by unfold Fp.bin;omega);have n19:(op==19)=false:=Fp.bin_ne h (by unfold Fp.bin;omega);clear h;go_enter Tryz.func29,Tryz.ntmps29;go_upto_region 34 with (fail);generalize (w.alloc (.cells #[.int .i64 op,.int .i64 num,.string name,.slice (some ⟨b,o,none⟩) 2 cap] 24))=w0 at *;have C1:Hid (QC Tryz.prog 70 #[.agg #[.int .i64 a1.op,.int .i64 a1.num,.string a1.name,.slice a1.ptr (len k1) a1.cap]] (.string rI1) w0):=fun dq os=>Calls.regrown_of (I1.out _ (BW.out.trans ((below_regrown w0 dq os).mono BW.out.size)));have C2:Hid (QC Tryz.prog 70 #[.agg #[.int .i64 a2.op,.int .i64 a2.num,.string a2.name,.slice a2.ptr (len k2) a2.cap]] (.string rI2) w0):=fun dq os=>Calls.regrown_of (I2.out _ (BW.out.trans ((below_regrown w0 dq os).mono BW.out.size)));have CO:Hid (QC Tryz.prog 71 #[.int .i64 op] (.string ro) w0):=fun dq os=>Calls.regrown_of ((OP.out _).mono fun e w' q=>⟨q.1,q.2 ▸ Below.refl _ _⟩);have e0:=fun d os=>cell_regrown P0.out d os;have e3:=fun d os=>cell_regrown P3.out d os;have f10:=fun d os=>cell_regrown D10.out d os;have f11:=fun d os=>cell_regrown D11.out d os;have f12:=fun d os=>cell_regrown D12.out d os;have f13:=fun d os=>cell_regrown D13.out d os;have f20:=fun d os=>cell_regrown D20.out d os;have f21:=fun d os=>cell_regrown D21.out d os;have f22:=fun d os=>cell_regrown D22.out d os;have f23:=fun d os=>cell_regrown D23.out d os;refine wp_region_quiet_below (by kernel_rfl) (by kernel_rfl) ?_;have z0:¬ 9223372036854775807 < rI1.size+1:=by omega
 have z1:¬ 9223372036854775806 < rI1.size:=by omega
 have z2:¬ 9223372036854775807 < rI1.size+1+ro.size:=by omega
 have z3:¬ 9223372036854775807 < rI1.size+1+ro.size+1:=by omega
 have z4:¬ 9223372036854775806 < rI1.size+1+ro.size:=by omega
 have z5:¬ 9223372036854775807 < rI1.size+1+ro.size+1+rI2.size:=by omega
 repeat (quiet_step (first|with_reducible exact C1.out _ _|with_reducible exact C2.out _ _|with_reducible exact CO.out _ _))
 refine wpQuiet_nil ?_;intro _ hw';obtain⟨⟨dq,osq⟩,hw''⟩:=hw';subst hw'';have hb:=below_regrown w0 dq osq;have B1:=hid (bt9 BW hb);clear hb e0 e3 z0 z1 z2 z3 z4 z5 f10 f11 f12 f13 f20 f21 f22 f23;generalize Sort.grow (redrawn w0 dq) osq=w1 at *;go_wp2;go_ret;exact⟨rfl,B1.out⟩
end Go.Proofs.YtcejjdmnlejbaaaGreatDoor
