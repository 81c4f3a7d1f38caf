import Derived.Deep.Onto
import Derived.Test.YtcejjdmnlejbaaaGreatDoorWFce
namespace Go.Proofs.YtcejjdmnlejbaaaGreatDoor
open Lib(hid)
set_option linter.unusedVariables false
set_option linter.unusedSimpArgs false
open Go.ChangeShapes Go.WideShapes Go.ChangeAt Go.RowKit
open Go.Deep (BT)
set_option maxHeartbeats 4000000
set_option maxRecDepth 100000
theorem U1(op:Int)(w:World)(h:Fp.bin op):Calls Tryz.prog 65 #[.int .i64 op] w fun e w'=>e=.returned (.string (Fp.opW op).text)∧w=w':=by
 rcases h with rfl|rfl|rfl|rfl|rfl|rfl|rfl|rfl|rfl|rfl
 all_goals
  go_enter Tryz.func65,Tryz.ntmps65;go_wp2;go_ret;exact⟨rfl,rfl⟩
theorem US(op:Int)(w:World)(h:op=12∨op=13):Calls Tryz.prog 65 #[.int .i64 op] w fun e w'=>e=.returned (.string (if op=12 then ⟨#[109,105,110]⟩ else ⟨#[109,97,120]⟩))∧w=w':=by
 rcases h with rfl|rfl
 all_goals
  go_enter Tryz.func65,Tryz.ntmps65;go_wp2;go_ret;exact⟨rfl,rfl⟩
def zt(b o:Nat)(a:Nd)(k:Fo):Prop:=∀w:World,Tab w→ExAt w b o a k→yN a k→(zk a (len k) && za k)=true→sz k≤199→
 Calls Tryz.prog 27 #[.agg #[.int .i64 a.op,.int .i64 a.num,.string a.name,.slice a.ptr (len k) a.cap]] w fun e w'=>e=.returned (.string (Fp.tB (Fp.F ⟨b,o,a,k⟩)))∧Below w.heap.size w w'
def pinC(b o:Nat)(a:Nd)(k:Fo):Prop:=∀w:World,Tab w→ExAt w b o a k→yN a k→(zk a (len k) && za k)=true→sz k≤199→
 Calls Tryz.prog 64 #[.agg #[.int .i64 a.op,.int .i64 a.num,.string a.name,.slice a.ptr (len k) a.cap]] w fun e w'=>e=.returned (.string (Fp.tB (Fp.I ⟨b,o,a,k⟩)))∧Below w.heap.size w w'
theorem kn{b o:Nat}{a:Nd}{k:Fo}(h:zt b o a k):pinC b o a k:=by
 intro w ht hx hok hw hs;obtain⟨op,num,name,ptr,cap⟩:=a;have hr0:=jU (b:=b) (o:=o) hw hs;have EB:=hid (Yn ⟨b,o,⟨op,num,name,ptr,cap⟩,k⟩);have EP:=hid (Kk ⟨b,o,⟨op,num,name,ptr,cap⟩,k⟩);obtain⟨r,hr⟩:∃r,Fp.tB (Fp.F ⟨b,o,⟨op,num,name,ptr,cap⟩,k⟩)=r:=⟨_,rfl⟩
 have H:Hid (∀W,Below w.heap.size w W→Calls Tryz.prog 27 #[.agg #[.int .i64 op,.int .i64 num,.string name,.slice ptr (len k) cap]] W fun e w'=>e=.returned (.string r)∧Below W.heap.size W w'):=fun W hb=>by
  have:=h W (ht.next hb) (hx.next hb) hok hw hs;rw[hr] at this;exact this
 rw[hr] at hr0 EP
 show Calls Tryz.prog 64 #[.agg #[.int .i64 op,.int .i64 num,.string name,.slice ptr (len k) cap]] w _
 by_cases q:len k=0∨op=12∨op=13
 ·rw [EB.out q,hr];have hk9:len k≤9223372036854775807:=hok.1.2.2.2;clear EB EP hr h ht hx hok hw hs
  by_cases q1:len k=0
  ·have q0:(len k:Int)=0:=by omega
   clear q q1;go_enter Tryz.func64,Tryz.ntmps64;go_wp2_with (go_at_call 27;refine(H.out _ ba1).mono ?_;rintro e w1 ⟨rfl,hb⟩;have B1:Hid (Below w.heap.size w w1):=((Below.refl w.heap.size w).alloc (Nat.le_refl _) _).trans (hb.mono (by simp));clear hb);go_ret;exact⟨rfl,B1.out⟩
  ·have q0:¬(len k:Int)=0:=by omega
   by_cases q2:op=12
   ·subst q2;clear q q1;go_enter Tryz.func64,Tryz.ntmps64;go_wp2_with (go_at_call 27;refine(H.out _ ba1).mono ?_;rintro e w1 ⟨rfl,hb⟩;have B1:Hid (Below w.heap.size w w1):=((Below.refl w.heap.size w).alloc (Nat.le_refl _) _).trans (hb.mono (by simp));clear hb);go_ret;exact⟨rfl,B1.out⟩
   ·have q3:op=13:=by omega
    subst q3;clear q q1 q2;go_enter Tryz.func64,Tryz.ntmps64;go_wp2_with (go_at_call 27;refine(H.out _ ba1).mono ?_;rintro e w1 ⟨rfl,hb⟩;have B1:Hid (Below w.heap.size w w1):=((Below.refl w.heap.size w).alloc (Nat.le_refl _) _).trans (hb.mono (by simp));clear hb);go_ret;exact⟨rfl,B1.out⟩
 ·have q0:¬(len k:Int)=0:=fun e=>q (.inl (by omega));have q2:¬op=12:=fun e=>q (.inr (.inl e));have q3:¬op=13:=fun e=>q (.inr (.inr e));have e0:((len k:Int)==0)=false:=beq_eq_false_iff_ne.2 q0;have e2:(op==12)=false:=beq_eq_false_iff_ne.2 q2;have e3:(op==13)=false:=beq_eq_false_iff_ne.2 q3;rw[EP.out q];have hk9:len k≤9223372036854775807:=hok.1.2.2.2;clear EB EP hr h ht hx hok hw hs q;go_enter Tryz.func64,Tryz.ntmps64;go_wp2_with (go_at_call 27;refine(H.out _ ba1).mono ?_;rintro e w1 ⟨rfl,hb⟩;have B1:Hid (Below w.heap.size w w1):=((Below.refl w.heap.size w).alloc (Nat.le_refl _) _).trans (hb.mono (by simp));clear hb);go_ret;exact⟨rfl,B1.out⟩
theorem xd(k n:Int)(w:World)(ht:Tab w)(hv:VT ⟨k,⟨#[]⟩,n⟩)(h0 : -9223372036854775808≤n)(h1:n≤9223372036854775807):Calls Tryz.prog 47 #[.int .i64 k,.int .i64 n] w fun e w'=>e=.returned (.string (tx ⟨⟨k,⟨#[]⟩,n⟩,0⟩))∧Below w.heap.size w w':=by
 have H:Hid (∀(t:TypeId),Calls Tryz.prog 103 #[.slice (some ⟨w.heap.size,0,none⟩) 1 1] (w.alloc (.cells #[.int .i64 k,.string ⟨#[]⟩,.int .i64 n,.int .i64 0] t)) fun e w'=>e=.returned (.tuple #[.string (tx ⟨⟨k,⟨#[]⟩,n⟩,0⟩),.int .i64 0])∧Below w.heap.size w w'):=fun t=>by
  have hb:Below w.heap.size w (w.alloc (.cells #[.int .i64 k,.string ⟨#[]⟩,.int .i64 n,.int .i64 0] t)):=ba1
  have TA:TkAt (w.alloc (.cells #[.int .i64 k,.string ⟨#[]⟩,.int .i64 n,.int .i64 0] t)) [⟨⟨k,⟨#[]⟩,n⟩,0⟩] (.slice (some ⟨w.heap.size,0,none⟩) 1 1):=by
   refine⟨_,_,rfl,Nat.le_refl _,by simp,fun _=>⟨_,_,rfl,fun j u hu=>?_⟩⟩
   match j,hu with
   | 0,hu=>simp[jF] at hu;subst hu;simp[go_sem]
   | 1,hu=>simp[jF] at hu;subst hu;simp[go_sem]
   | 2,hu=>simp[jF] at hu;subst hu;simp[go_sem]
   | 3,hu=>simp[jF] at hu;subst hu;simp[go_sem]
   | j+4,hu=>simp[jF] at hu
  refine(vw [⟨⟨k,⟨#[]⟩,n⟩,0⟩] _ 1 _ TA (fun t ht=>by rw[List.mem_singleton.1 ht];exact⟨⟨h0,h1⟩,by show(0:Nat)≤_;omega⟩) (ht.next hb)).mono ?_;rintro e w' ⟨⟨c,he,rfl⟩,hb2⟩
  have hc:c=0:=by
   rcases he with ⟨h1,-⟩|⟨-,-,h⟩|⟨-,h2,-⟩
   ·simp at h1
   ·exact h
   ·exact absurd (fun t ht=>by rw[List.mem_singleton.1 ht];exact hv) h2
  subst hc;refine⟨?_,hb.trans (hb2.mono hb.size)⟩;rw[if_pos rfl];have e:jn [⟨⟨k,⟨#[]⟩,n⟩,0⟩]=tx ⟨⟨k,⟨#[]⟩,n⟩,0⟩:=Fp.ba_eq (Lib.join_one (tx ⟨⟨k,⟨#[]⟩,n⟩,0⟩).data.toList [32]);rw[e]
 clear ht hv;generalize tx ⟨⟨k,⟨#[]⟩,n⟩,0⟩=r at *;go_enter Tryz.func47,Tryz.ntmps47;go_wp2_with (go_at_call 103;refine(H.out _).mono ?_;rintro e w1 ⟨rfl,hb⟩;have B1:=hid hb;clear hb);go_ret;exact⟨rfl,B1.out⟩
theorem Vl(b o:Nat)(op num:Int)(name:ByteArray)(ptr:Option Addr)(cap:Nat)(w:World)(ht:Tab w)(hok:yN ⟨op,num,name,ptr,cap⟩ .nil)(hw:(zk ⟨op,num,name,ptr,cap⟩ (len (.nil:Fo)) && za .nil)=true)
 (h:op=1∨op=2∨op=3∨op=4∨op=5∨op=6):Calls Tryz.prog 27 #[.agg #[.int .i64 op,.int .i64 num,.string name,.slice ptr (len (.nil:Fo)) cap]] w fun e w'=>e=.returned (.string (Fp.tB (Fp.F ⟨b,o,⟨op,num,name,ptr,cap⟩,.nil⟩)))∧Below w.heap.size w w':=by
 rcases h with rfl|rfl|rfl|rfl|rfl|rfl
 ·skip
  have VT1:=(Fp.vt_lit ⟨b,o,⟨1,num,name,ptr,cap⟩,.nil⟩ hw).1 rfl;have hn:=hok.1.2.1;have H:Hid (∀W,Below w.heap.size w W→Calls Tryz.prog 47 #[.int .i64 2,.int .i64 num] W fun e w'=>e=.returned (.string (tx ⟨⟨2,⟨#[]⟩,num⟩,0⟩))∧Below W.heap.size W w'):=fun W hb=>xd 2 num W (ht.next hb) VT1 hn.1 hn.2;have E:Hid (tx ⟨⟨2,⟨#[]⟩,num⟩,0⟩=Fp.tB (Fp.F ⟨b,o,⟨1,num,name,ptr,cap⟩,.nil⟩)):=Fp.ba_eq (Fp.b1 ⟨b,o,⟨1,num,name,ptr,cap⟩,.nil⟩ rfl).symm;rw[← E.out];clear E VT1 hn ht hok hw;generalize tx ⟨⟨2,⟨#[]⟩,num⟩,0⟩=r at *;go_enter Tryz.func27,Tryz.ntmps27;go_wp2_with (go_at_call 47;refine(H.out _ ba1).mono ?_;rintro e w1 ⟨rfl,hb⟩;have B1:Hid (Below w.heap.size w w1):=((Below.refl w.heap.size w).alloc (Nat.le_refl _) _).trans (hb.mono (by simp));clear hb);go_ret;exact⟨rfl,B1.out⟩
 ·skip
  have VT1:=(Fp.vt_lit ⟨b,o,⟨2,num,name,ptr,cap⟩,.nil⟩ hw).2.1 rfl;have hn:=hok.1.2.1;have H:Hid (∀W,Below w.heap.size w W→Calls Tryz.prog 47 #[.int .i64 3,.int .i64 num] W fun e w'=>e=.returned (.string (tx ⟨⟨3,⟨#[]⟩,num⟩,0⟩))∧Below W.heap.size W w'):=fun W hb=>xd 3 num W (ht.next hb) VT1 hn.1 hn.2;have E:Hid (tx ⟨⟨3,⟨#[]⟩,num⟩,0⟩=Fp.tB (Fp.F ⟨b,o,⟨2,num,name,ptr,cap⟩,.nil⟩)):=Fp.ba_eq (Fp.b2 ⟨b,o,⟨2,num,name,ptr,cap⟩,.nil⟩ rfl).symm;rw[← E.out];clear E VT1 hn ht hok hw;generalize tx ⟨⟨3,⟨#[]⟩,num⟩,0⟩=r at *;go_enter Tryz.func27,Tryz.ntmps27;go_wp2_with (go_at_call 47;refine(H.out _ ba1).mono ?_;rintro e w1 ⟨rfl,hb⟩;have B1:Hid (Below w.heap.size w w1):=((Below.refl w.heap.size w).alloc (Nat.le_refl _) _).trans (hb.mono (by simp));clear hb);go_ret;exact⟨rfl,B1.out⟩
 ·skip
  have VT1:=(Fp.vt_lit ⟨b,o,⟨3,num,name,ptr,cap⟩,.nil⟩ hw).2.2 rfl;have hn:=hok.1.2.1;have H:Hid (∀W,Below w.heap.size w W→Calls Tryz.prog 47 #[.int .i64 4,.int .i64 num] W fun e w'=>e=.returned (.string (tx ⟨⟨4,⟨#[]⟩,num⟩,0⟩))∧Below W.heap.size W w'):=fun W hb=>xd 4 num W (ht.next hb) VT1 hn.1 hn.2;have E:Hid (tx ⟨⟨4,⟨#[]⟩,num⟩,0⟩=Fp.tB (Fp.F ⟨b,o,⟨3,num,name,ptr,cap⟩,.nil⟩)):=Fp.ba_eq (Fp.b3 ⟨b,o,⟨3,num,name,ptr,cap⟩,.nil⟩ rfl).symm;rw[← E.out];clear E VT1 hn ht hok hw;generalize tx ⟨⟨4,⟨#[]⟩,num⟩,0⟩=r at *;go_enter Tryz.func27,Tryz.ntmps27;go_wp2_with (go_at_call 47;refine(H.out _ ba1).mono ?_;rintro e w1 ⟨rfl,hb⟩;have B1:Hid (Below w.heap.size w w1):=((Below.refl w.heap.size w).alloc (Nat.le_refl _) _).trans (hb.mono (by simp));clear hb);go_ret;exact⟨rfl,B1.out⟩
 ·have E:Hid (⟨#[116,114,117,101]⟩=Fp.tB (Fp.F ⟨b,o,⟨4,num,name,ptr,cap⟩,.nil⟩)):=Fp.ba_eq (Fp.b4 ⟨b,o,⟨4,num,name,ptr,cap⟩,.nil⟩ rfl).symm;rw[← E.out];clear E ht hok hw;go_enter Tryz.func27,Tryz.ntmps27;go_wp2;go_ret;exact⟨rfl,ba1⟩
 ·have E:Hid (⟨#[102,97,108,115,101]⟩=Fp.tB (Fp.F ⟨b,o,⟨5,num,name,ptr,cap⟩,.nil⟩)):=Fp.ba_eq (Fp.b5 ⟨b,o,⟨5,num,name,ptr,cap⟩,.nil⟩ rfl).symm;rw[← E.out];clear E ht hok hw;go_enter Tryz.func27,Tryz.ntmps27;go_wp2;go_ret;exact⟨rfl,ba1⟩
 ·have E:Hid (name=Fp.tB (Fp.F ⟨b,o,⟨6,num,name,ptr,cap⟩,.nil⟩)):=Fp.ba_eq (Fp.b6 ⟨b,o,⟨6,num,name,ptr,cap⟩,.nil⟩ rfl).symm;rw[← E.out];clear E ht hok hw;go_enter Tryz.func27,Tryz.ntmps27;go_wp2;go_ret;exact⟨rfl,ba1⟩
theorem pone(b o:Nat)(op num:Int)(name:ByteArray)(ptr:Option Addr)(cap:Nat)(b1 o1:Nat)(a1:Nd)(k1:Fo)(h1:zt b1 o1 a1 k1)(h:op=7∨op=19):zt b o ⟨op,num,name,ptr,cap⟩ (.node b1 o1 a1 k1 .nil):=by
 intro w ht hx hok hw hs;have hfs:=Fp.fst_kl (c:=⟨b,o,⟨op,num,name,ptr,cap⟩,(.node b1 o1 a1 k1 .nil)⟩) hw;have hwk:=Fp.wf_kl (.node b1 o1 a1 k1 .nil) (by rw[Bool.and_eq_true] at hw;exact hw.2);obtain rfl:ptr=some ⟨b,o,none⟩:=hx.1 (by simp);have HX:=hid hx.2;have hqI1:=zJ (b:=b1) (o:=o1) (a:=a1) (k:=k1) (hwk ⟨b1,o1,a1,k1⟩ (by simp[Fp.kl])).1 (by have:=(hwk ⟨b1,o1,a1,k1⟩ (by simp[Fp.kl])).2;dsimp only at this;omega)
 have I1:Hid (∀W,Below w.heap.size w W→Calls Tryz.prog 64 #[.agg #[.int .i64 a1.op,.int .i64 a1.num,.string a1.name,.slice a1.ptr (len k1) a1.cap]] W fun e w'=>e=.returned (.string (Fp.tB (Fp.I ⟨b1,o1,a1,k1⟩)))∧Below W.heap.size W w'):=fun W hb=>by
  have hy:=HX.out.next hb
  exact(kn h1) W (ht.next hb) ⟨hy.2.1,hy.2.2.1⟩ ⟨hok.2.1,hok.2.2.1⟩ (hwk ⟨b1,o1,a1,k1⟩ (by simp[Fp.kl])).1 (by have:=(hwk ⟨b1,o1,a1,k1⟩ (by simp[Fp.kl])).2;dsimp only at this;omega)
 have HF:=hid hfs;clear hfs hwk hx hok hw hs ht h1;rcases h with rfl|rfl
 ·have E:Hid (⟨#[45]⟩++Fp.tB (Fp.I ⟨b1,o1,a1,k1⟩)=Fp.tB (Fp.F ⟨b,o,⟨7,num,name,some ⟨b,o,none⟩,cap⟩,(.node b1 o1 a1 k1 .nil)⟩)):=by
   apply Fp.ba_eq;refine Eq.trans ?_ (Fp.b7 (c:=⟨b,o,⟨7,num,name,some ⟨b,o,none⟩,cap⟩,(.node b1 o1 a1 k1 .nil)⟩) ⟨b1,o1,a1,k1⟩ rfl rfl).symm;simp only[qP,Fp.tB_list,List.append_assoc,List.cons_append,List.nil_append];rfl
  show Calls Tryz.prog 27 #[.agg #[.int .i64 7,.int .i64 num,.string name,.slice (some ⟨b,o,none⟩) 1 cap]] w _
  rw[← E.out];clear E HF;generalize Fp.tB (Fp.I ⟨b1,o1,a1,k1⟩)=rI1 at *;have B0:Below w.heap.size w (w.alloc (.cells #[.int .i64 7,.int .i64 num,.string name,.slice (some ⟨b,o,none⟩) 1 cap] 24)):=ba1;obtain⟨⟨d10,d11,d12,d13⟩,-,-,-⟩:=HX.out.next B0
  clear HX;clear B0;go_enter Tryz.func27,Tryz.ntmps27;go_wp2_with (go_at_call 64;refine(I1.out _ ba1).mono ?_;rintro e w1 ⟨rfl,hb⟩;have B1:Hid (Below w.heap.size w w1):=((Below.refl w.heap.size w).alloc (Nat.le_refl _) _).trans (hb.mono (by simp));clear hb);go_ret;exact⟨rfl,B1.out⟩
 ·have E:Hid (⟨#[110,111,116,32]⟩++Fp.tB (Fp.I ⟨b1,o1,a1,k1⟩)=Fp.tB (Fp.F ⟨b,o,⟨19,num,name,some ⟨b,o,none⟩,cap⟩,(.node b1 o1 a1 k1 .nil)⟩)):=by
   apply Fp.ba_eq;refine Eq.trans ?_ (Fp.b19 (c:=⟨b,o,⟨19,num,name,some ⟨b,o,none⟩,cap⟩,(.node b1 o1 a1 k1 .nil)⟩) ⟨b1,o1,a1,k1⟩ rfl rfl (HF.out ⟨b1,o1,a1,k1⟩ (by simp[Fp.kl]))).symm;simp only[qP,Fp.tB_list,List.append_assoc,List.cons_append,List.nil_append];rfl
  show Calls Tryz.prog 27 #[.agg #[.int .i64 19,.int .i64 num,.string name,.slice (some ⟨b,o,none⟩) 1 cap]] w _
  rw[← E.out];clear E HF;generalize Fp.tB (Fp.I ⟨b1,o1,a1,k1⟩)=rI1 at *;have B0:Below w.heap.size w (w.alloc (.cells #[.int .i64 19,.int .i64 num,.string name,.slice (some ⟨b,o,none⟩) 1 cap] 24)):=ba1;obtain⟨⟨d10,d11,d12,d13⟩,-,-,-⟩:=HX.out.next B0
  clear HX;clear B0;go_enter Tryz.func27,Tryz.ntmps27;go_wp2_with (go_at_call 64;refine(I1.out _ ba1).mono ?_;rintro e w1 ⟨rfl,hb⟩;have B1:Hid (Below w.heap.size w w1):=((Below.refl w.heap.size w).alloc (Nat.le_refl _) _).trans (hb.mono (by simp));clear hb);go_ret;exact⟨rfl,B1.out⟩
theorem pifc(b o:Nat)(op num:Int)(name:ByteArray)(ptr:Option Addr)(cap:Nat)(b1 o1:Nat)(a1:Nd)(k1:Fo)(b2 o2:Nat)(a2:Nd)(k2:Fo)(b3 o3:Nat)(a3:Nd)(k3:Fo)(h1:zt b1 o1 a1 k1)(h2:zt b2 o2 a2 k2)(h3:zt b3 o3 a3 k3)(h:op=14):zt b o ⟨op,num,name,ptr,cap⟩ (.node b1 o1 a1 k1 (.node b2 o2 a2 k2 (.node b3 o3 a3 k3 .nil))):=by
 intro w ht hx hok hw hs;have hfs:=Fp.fst_kl (c:=⟨b,o,⟨op,num,name,ptr,cap⟩,(.node b1 o1 a1 k1 (.node b2 o2 a2 k2 (.node b3 o3 a3 k3 .nil)))⟩) hw;have hwk:=Fp.wf_kl (.node b1 o1 a1 k1 (.node b2 o2 a2 k2 (.node b3 o3 a3 k3 .nil))) (by rw[Bool.and_eq_true] at hw;exact hw.2);obtain rfl:ptr=some ⟨b,o,none⟩:=hx.1 (by simp);have HX:=hid hx.2;have hqT1:=jU (b:=b1) (o:=o1) (a:=a1) (k:=k1) (hwk ⟨b1,o1,a1,k1⟩ (by simp[Fp.kl])).1 (by have:=(hwk ⟨b1,o1,a1,k1⟩ (by simp[Fp.kl])).2;dsimp only at this;omega)
 have T1:Hid (∀W,Below w.heap.size w W→Calls Tryz.prog 27 #[.agg #[.int .i64 a1.op,.int .i64 a1.num,.string a1.name,.slice a1.ptr (len k1) a1.cap]] W fun e w'=>e=.returned (.string (Fp.tB (Fp.F ⟨b1,o1,a1,k1⟩)))∧Below W.heap.size W w'):=fun W hb=>by
  have hy:=HX.out.next hb
  exact(h1) W (ht.next hb) ⟨hy.2.1,hy.2.2.1⟩ ⟨hok.2.1,hok.2.2.1⟩ (hwk ⟨b1,o1,a1,k1⟩ (by simp[Fp.kl])).1 (by have:=(hwk ⟨b1,o1,a1,k1⟩ (by simp[Fp.kl])).2;dsimp only at this;omega)
 have hqT2:=jU (b:=b2) (o:=o2) (a:=a2) (k:=k2) (hwk ⟨b2,o2,a2,k2⟩ (by simp[Fp.kl])).1 (by have:=(hwk ⟨b2,o2,a2,k2⟩ (by simp[Fp.kl])).2;dsimp only at this;omega)
 have T2:Hid (∀W,Below w.heap.size w W→Calls Tryz.prog 27 #[.agg #[.int .i64 a2.op,.int .i64 a2.num,.string a2.name,.slice a2.ptr (len k2) a2.cap]] W fun e w'=>e=.returned (.string (Fp.tB (Fp.F ⟨b2,o2,a2,k2⟩)))∧Below W.heap.size W w'):=fun W hb=>by
  have hy:=HX.out.next hb
  exact(h2) W (ht.next hb) ⟨hy.2.2.2.2.1,hy.2.2.2.2.2.1⟩ ⟨hok.2.2.2.1,hok.2.2.2.2.1⟩ (hwk ⟨b2,o2,a2,k2⟩ (by simp[Fp.kl])).1 (by have:=(hwk ⟨b2,o2,a2,k2⟩ (by simp[Fp.kl])).2;dsimp only at this;omega)
 have hqT3:=jU (b:=b3) (o:=o3) (a:=a3) (k:=k3) (hwk ⟨b3,o3,a3,k3⟩ (by simp[Fp.kl])).1 (by have:=(hwk ⟨b3,o3,a3,k3⟩ (by simp[Fp.kl])).2;dsimp only at this;omega)
 have T3:Hid (∀W,Below w.heap.size w W→Calls Tryz.prog 27 #[.agg #[.int .i64 a3.op,.int .i64 a3.num,.string a3.name,.slice a3.ptr (len k3) a3.cap]] W fun e w'=>e=.returned (.string (Fp.tB (Fp.F ⟨b3,o3,a3,k3⟩)))∧Below W.heap.size W w'):=fun W hb=>by
  have hy:=HX.out.next hb
  exact(h3) W (ht.next hb) ⟨hy.2.2.2.2.2.2.2.1,hy.2.2.2.2.2.2.2.2.1⟩ ⟨hok.2.2.2.2.2.1,hok.2.2.2.2.2.2.1⟩ (hwk ⟨b3,o3,a3,k3⟩ (by simp[Fp.kl])).1 (by have:=(hwk ⟨b3,o3,a3,k3⟩ (by simp[Fp.kl])).2;dsimp only at this;omega)
 have HF:=hid hfs;clear hfs hwk hx hok hw hs ht h1 h2 h3;subst h
 have E:Hid (⟨#[105,102,32]⟩++Fp.tB (Fp.F ⟨b1,o1,a1,k1⟩)++⟨#[32,116,104,101,110,32]⟩++Fp.tB (Fp.F ⟨b2,o2,a2,k2⟩)++⟨#[32,101,108,115,101,32]⟩++Fp.tB (Fp.F ⟨b3,o3,a3,k3⟩)=Fp.tB (Fp.F ⟨b,o,⟨14,num,name,some ⟨b,o,none⟩,cap⟩,(.node b1 o1 a1 k1 (.node b2 o2 a2 k2 (.node b3 o3 a3 k3 .nil)))⟩)):=by
  apply Fp.ba_eq;refine Eq.trans ?_ (Fp.b14 (c:=⟨b,o,⟨14,num,name,some ⟨b,o,none⟩,cap⟩,(.node b1 o1 a1 k1 (.node b2 o2 a2 k2 (.node b3 o3 a3 k3 .nil)))⟩) ⟨b1,o1,a1,k1⟩ ⟨b2,o2,a2,k2⟩ ⟨b3,o3,a3,k3⟩ rfl rfl (HF.out ⟨b1,o1,a1,k1⟩ (by simp[Fp.kl])) (HF.out ⟨b2,o2,a2,k2⟩ (by simp[Fp.kl])) (HF.out ⟨b3,o3,a3,k3⟩ (by simp[Fp.kl]))).symm;simp only[qP,Fp.tB_list,List.append_assoc,List.cons_append,List.nil_append];rfl
 show Calls Tryz.prog 27 #[.agg #[.int .i64 14,.int .i64 num,.string name,.slice (some ⟨b,o,none⟩) 3 cap]] w _
 rw[← E.out];clear E HF;generalize Fp.tB (Fp.F ⟨b1,o1,a1,k1⟩)=rT1 at *;generalize Fp.tB (Fp.F ⟨b2,o2,a2,k2⟩)=rT2 at *;generalize Fp.tB (Fp.F ⟨b3,o3,a3,k3⟩)=rT3 at *;have B0:Below w.heap.size w (w.alloc (.cells #[.int .i64 14,.int .i64 num,.string name,.slice (some ⟨b,o,none⟩) 3 cap] 24)):=ba1;obtain⟨⟨d10,d11,d12,d13⟩,-,-,⟨d20,d21,d22,d23⟩,-,-,⟨d30,d31,d32,d33⟩,-,-,-⟩:=HX.out.next B0
 clear HX;have p0:(w.alloc (.cells #[.int .i64 14,.int .i64 num,.string name,.slice (some ⟨b,o,none⟩) 3 cap] 24)).cell? ⟨w.heap.size,0,none⟩=some (.int .i64 14):=by simp[go_sem]
 have p3:(w.alloc (.cells #[.int .i64 14,.int .i64 num,.string name,.slice (some ⟨b,o,none⟩) 3 cap] 24)).cell? ⟨w.heap.size,3,none⟩=some (.slice (some ⟨b,o,none⟩) 3 cap):=by simp[go_sem]
 have P0:=hid p0;have P3:=hid p3;clear p0 p3;have D10:=hid d10;have D11:=hid d11;have D12:=hid d12;have D13:=hid d13;have D20:=hid d20;have D21:=hid d21;have D22:=hid d22;have D23:=hid d23;have D30:=hid d30;have D31:=hid d31;have D32:=hid d32;have D33:=hid d33;clear d10 d11 d12 d13 d20 d21 d22 d23 d30 d31 d32 d33;have BW:=hid B0;clear B0;go_enter Tryz.func27,Tryz.ntmps27;go_upto_region 28 with (fail);generalize (w.alloc (.cells #[.int .i64 14,.int .i64 num,.string name,.slice (some ⟨b,o,none⟩) 3 cap] 24))=w0 at *;have C1:Hid (QC Tryz.prog 27 #[.agg #[.int .i64 a1.op,.int .i64 a1.num,.string a1.name,.slice a1.ptr (len k1) a1.cap]] (.string rT1) w0):=fun dq os=>Calls.regrown_of (T1.out _ (BW.out.trans ((below_regrown w0 dq os).mono BW.out.size)));have C2:Hid (QC Tryz.prog 27 #[.agg #[.int .i64 a2.op,.int .i64 a2.num,.string a2.name,.slice a2.ptr (len k2) a2.cap]] (.string rT2) w0):=fun dq os=>Calls.regrown_of (T2.out _ (BW.out.trans ((below_regrown w0 dq os).mono BW.out.size)));have C3:Hid (QC Tryz.prog 27 #[.agg #[.int .i64 a3.op,.int .i64 a3.num,.string a3.name,.slice a3.ptr (len k3) a3.cap]] (.string rT3) w0):=fun dq os=>Calls.regrown_of (T3.out _ (BW.out.trans ((below_regrown w0 dq os).mono BW.out.size)));have e0:=fun d os=>cell_regrown P0.out d os;have e3:=fun d os=>cell_regrown P3.out d os;have f10:=fun d os=>cell_regrown D10.out d os;have f11:=fun d os=>cell_regrown D11.out d os;have f12:=fun d os=>cell_regrown D12.out d os;have f13:=fun d os=>cell_regrown D13.out d os;have f20:=fun d os=>cell_regrown D20.out d os;have f21:=fun d os=>cell_regrown D21.out d os;have f22:=fun d os=>cell_regrown D22.out d os;have f23:=fun d os=>cell_regrown D23.out d os;have f30:=fun d os=>cell_regrown D30.out d os;have f31:=fun d os=>cell_regrown D31.out d os;have f32:=fun d os=>cell_regrown D32.out d os;have f33:=fun d os=>cell_regrown D33.out d os;refine wp_region_quiet_below (by kernel_rfl) (by kernel_rfl) ?_;have z0:¬ 9223372036854775807 < 3+rT1.size:=by omega
 have z1:¬ 9223372036854775807 < 3+rT1.size+6:=by omega
 have z2:¬ 9223372036854775801 < 3+rT1.size:=by omega
 have z3:¬ 9223372036854775807 < 3+rT1.size+6+rT2.size:=by omega
 have z4:¬ 9223372036854775807 < 3+rT1.size+6+rT2.size+6:=by omega
 have z5:¬ 9223372036854775801 < 3+rT1.size+6+rT2.size:=by omega
 have z6:¬ 9223372036854775807 < 3+rT1.size+6+rT2.size+6+rT3.size:=by omega
 repeat (quiet_step (first|with_reducible exact C1.out _ _|with_reducible exact C2.out _ _|with_reducible exact C3.out _ _))
 refine wpQuiet_nil ?_;intro _ hw';obtain⟨⟨dq,osq⟩,hw''⟩:=hw';subst hw'';have hb:=below_regrown w0 dq osq;have B1:=hid (bt9 BW hb);clear hb e0 e3 z0 z1 z2 z3 z4 z5 z6 f10 f11 f12 f13 f20 f21 f22 f23 f30 f31 f32 f33;generalize Sort.grow (redrawn w0 dq) osq=w1 at *;go_wp2;go_ret;exact⟨rfl,B1.out⟩
theorem pinc(b o:Nat)(op num:Int)(name:ByteArray)(ptr:Option Addr)(cap:Nat)(b1 o1:Nat)(a1:Nd)(k1:Fo)(b2 o2:Nat)(a2:Nd)(k2:Fo)(b3 o3:Nat)(a3:Nd)(k3:Fo)(h1:zt b1 o1 a1 k1)(h2:zt b2 o2 a2 k2)(h3:zt b3 o3 a3 k3)(h:op=15):zt b o ⟨op,num,name,ptr,cap⟩ (.node b1 o1 a1 k1 (.node b2 o2 a2 k2 (.node b3 o3 a3 k3 .nil))):=by
 intro w ht hx hok hw hs;have hfs:=Fp.fst_kl (c:=⟨b,o,⟨op,num,name,ptr,cap⟩,(.node b1 o1 a1 k1 (.node b2 o2 a2 k2 (.node b3 o3 a3 k3 .nil)))⟩) hw;have hwk:=Fp.wf_kl (.node b1 o1 a1 k1 (.node b2 o2 a2 k2 (.node b3 o3 a3 k3 .nil))) (by rw[Bool.and_eq_true] at hw;exact hw.2);obtain rfl:ptr=some ⟨b,o,none⟩:=hx.1 (by simp);have HX:=hid hx.2;have hqI1:=zJ (b:=b1) (o:=o1) (a:=a1) (k:=k1) (hwk ⟨b1,o1,a1,k1⟩ (by simp[Fp.kl])).1 (by have:=(hwk ⟨b1,o1,a1,k1⟩ (by simp[Fp.kl])).2;dsimp only at this;omega)
 have I1:Hid (∀W,Below w.heap.size w W→Calls Tryz.prog 64 #[.agg #[.int .i64 a1.op,.int .i64 a1.num,.string a1.name,.slice a1.ptr (len k1) a1.cap]] W fun e w'=>e=.returned (.string (Fp.tB (Fp.I ⟨b1,o1,a1,k1⟩)))∧Below W.heap.size W w'):=fun W hb=>by
  have hy:=HX.out.next hb
  exact(kn h1) W (ht.next hb) ⟨hy.2.1,hy.2.2.1⟩ ⟨hok.2.1,hok.2.2.1⟩ (hwk ⟨b1,o1,a1,k1⟩ (by simp[Fp.kl])).1 (by have:=(hwk ⟨b1,o1,a1,k1⟩ (by simp[Fp.kl])).2;dsimp only at this;omega)
 have hqI2:=zJ (b:=b2) (o:=o2) (a:=a2) (k:=k2) (hwk ⟨b2,o2,a2,k2⟩ (by simp[Fp.kl])).1 (by have:=(hwk ⟨b2,o2,a2,k2⟩ (by simp[Fp.kl])).2;dsimp only at this;omega)
 have I2:Hid (∀W,Below w.heap.size w W→Calls Tryz.prog 64 #[.agg #[.int .i64 a2.op,.int .i64 a2.num,.string a2.name,.slice a2.ptr (len k2) a2.cap]] W fun e w'=>e=.returned (.string (Fp.tB (Fp.I ⟨b2,o2,a2,k2⟩)))∧Below W.heap.size W w'):=fun W hb=>by
  have hy:=HX.out.next hb
  exact(kn h2) W (ht.next hb) ⟨hy.2.2.2.2.1,hy.2.2.2.2.2.1⟩ ⟨hok.2.2.2.1,hok.2.2.2.2.1⟩ (hwk ⟨b2,o2,a2,k2⟩ (by simp[Fp.kl])).1 (by have:=(hwk ⟨b2,o2,a2,k2⟩ (by simp[Fp.kl])).2;dsimp only at this;omega)
 have hqI3:=zJ (b:=b3) (o:=o3) (a:=a3) (k:=k3) (hwk ⟨b3,o3,a3,k3⟩ (by simp[Fp.kl])).1 (by have:=(hwk ⟨b3,o3,a3,k3⟩ (by simp[Fp.kl])).2;dsimp only at this;omega)
 have I3:Hid (∀W,Below w.heap.size w W→Calls Tryz.prog 64 #[.agg #[.int .i64 a3.op,.int .i64 a3.num,.string a3.name,.slice a3.ptr (len k3) a3.cap]] W fun e w'=>e=.returned (.string (Fp.tB (Fp.I ⟨b3,o3,a3,k3⟩)))∧Below W.heap.size W w'):=fun W hb=>by
  have hy:=HX.out.next hb
  exact(kn h3) W (ht.next hb) ⟨hy.2.2.2.2.2.2.2.1,hy.2.2.2.2.2.2.2.2.1⟩ ⟨hok.2.2.2.2.2.1,hok.2.2.2.2.2.2.1⟩ (hwk ⟨b3,o3,a3,k3⟩ (by simp[Fp.kl])).1 (by have:=(hwk ⟨b3,o3,a3,k3⟩ (by simp[Fp.kl])).2;dsimp only at this;omega)
 have HF:=hid hfs;clear hfs hwk hx hok hw hs ht h1 h2 h3;subst h
 have E:Hid (Fp.tB (Fp.I ⟨b1,o1,a1,k1⟩)++⟨#[32,105,110,32]⟩++Fp.tB (Fp.I ⟨b2,o2,a2,k2⟩)++⟨#[32,116,111,32]⟩++Fp.tB (Fp.I ⟨b3,o3,a3,k3⟩)=Fp.tB (Fp.F ⟨b,o,⟨15,num,name,some ⟨b,o,none⟩,cap⟩,(.node b1 o1 a1 k1 (.node b2 o2 a2 k2 (.node b3 o3 a3 k3 .nil)))⟩)):=by
  apply Fp.ba_eq;refine Eq.trans ?_ (Fp.b15 (c:=⟨b,o,⟨15,num,name,some ⟨b,o,none⟩,cap⟩,(.node b1 o1 a1 k1 (.node b2 o2 a2 k2 (.node b3 o3 a3 k3 .nil)))⟩) ⟨b1,o1,a1,k1⟩ ⟨b2,o2,a2,k2⟩ ⟨b3,o3,a3,k3⟩ rfl rfl (HF.out ⟨b2,o2,a2,k2⟩ (by simp[Fp.kl])) (HF.out ⟨b3,o3,a3,k3⟩ (by simp[Fp.kl]))).symm;simp only[qP,Fp.tB_list,List.append_assoc,List.cons_append,List.nil_append];rfl
 show Calls Tryz.prog 27 #[.agg #[.int .i64 15,.int .i64 num,.string name,.slice (some ⟨b,o,none⟩) 3 cap]] w _
 rw[← E.out];clear E HF;generalize Fp.tB (Fp.I ⟨b1,o1,a1,k1⟩)=rI1 at *;generalize Fp.tB (Fp.I ⟨b2,o2,a2,k2⟩)=rI2 at *;generalize Fp.tB (Fp.I ⟨b3,o3,a3,k3⟩)=rI3 at *;have B0:Below w.heap.size w (w.alloc (.cells #[.int .i64 15,.int .i64 num,.string name,.slice (some ⟨b,o,none⟩) 3 cap] 24)):=ba1;obtain⟨⟨d10,d11,d12,d13⟩,-,-,⟨d20,d21,d22,d23⟩,-,-,⟨d30,d31,d32,d33⟩,-,-,-⟩:=HX.out.next B0
 clear HX;have p0:(w.alloc (.cells #[.int .i64 15,.int .i64 num,.string name,.slice (some ⟨b,o,none⟩) 3 cap] 24)).cell? ⟨w.heap.size,0,none⟩=some (.int .i64 15):=by simp[go_sem]
 have p3:(w.alloc (.cells #[.int .i64 15,.int .i64 num,.string name,.slice (some ⟨b,o,none⟩) 3 cap] 24)).cell? ⟨w.heap.size,3,none⟩=some (.slice (some ⟨b,o,none⟩) 3 cap):=by simp[go_sem]
 have P0:=hid p0;have P3:=hid p3;clear p0 p3;have D10:=hid d10;have D11:=hid d11;have D12:=hid d12;have D13:=hid d13;have D20:=hid d20;have D21:=hid d21;have D22:=hid d22;have D23:=hid d23;have D30:=hid d30;have D31:=hid d31;have D32:=hid d32;have D33:=hid d33;clear d10 d11 d12 d13 d20 d21 d22 d23 d30 d31 d32 d33;have BW:=hid B0;clear B0;go_enter Tryz.func27,Tryz.ntmps27;go_upto_region 30 with (fail);generalize (w.alloc (.cells #[.int .i64 15,.int .i64 num,.string name,.slice (some ⟨b,o,none⟩) 3 cap] 24))=w0 at *;have C1:Hid (QC Tryz.prog 64 #[.agg #[.int .i64 a1.op,.int .i64 a1.num,.string a1.name,.slice a1.ptr (len k1) a1.cap]] (.string rI1) w0):=fun dq os=>Calls.regrown_of (I1.out _ (BW.out.trans ((below_regrown w0 dq os).mono BW.out.size)));have C2:Hid (QC Tryz.prog 64 #[.agg #[.int .i64 a2.op,.int .i64 a2.num,.string a2.name,.slice a2.ptr (len k2) a2.cap]] (.string rI2) w0):=fun dq os=>Calls.regrown_of (I2.out _ (BW.out.trans ((below_regrown w0 dq os).mono BW.out.size)));have C3:Hid (QC Tryz.prog 64 #[.agg #[.int .i64 a3.op,.int .i64 a3.num,.string a3.name,.slice a3.ptr (len k3) a3.cap]] (.string rI3) w0):=fun dq os=>Calls.regrown_of (I3.out _ (BW.out.trans ((below_regrown w0 dq os).mono BW.out.size)));have e0:=fun d os=>cell_regrown P0.out d os;have e3:=fun d os=>cell_regrown P3.out d os;have f10:=fun d os=>cell_regrown D10.out d os;have f11:=fun d os=>cell_regrown D11.out d os;have f12:=fun d os=>cell_regrown D12.out d os;have f13:=fun d os=>cell_regrown D13.out d os;have f20:=fun d os=>cell_regrown D20.out d os;have f21:=fun d os=>cell_regrown D21.out d os;have f22:=fun d os=>cell_regrown D22.out d os;have f23:=fun d os=>cell_regrown D23.out d os;have f30:=fun d os=>cell_regrown D30.out d os;have f31:=fun d os=>cell_regrown D31.out d os;have f32:=fun d os=>cell_regrown D32.out d os;have f33:=fun d os=>cell_regrown D33.out d os;refine wp_region_quiet_below (by kernel_rfl) (by kernel_rfl) ?_;have z0:¬ 9223372036854775807 < rI1.size+4:=by omega
 have z1:¬ 9223372036854775803 < rI1.size:=by omega
 have z2:¬ 9223372036854775807 < rI1.size+4+rI2.size:=by omega
 have z3:¬ 9223372036854775807 < rI1.size+4+rI2.size+4:=by omega
 have z4:¬ 9223372036854775803 < rI1.size+4+rI2.size:=by omega
 have z5:¬ 9223372036854775807 < rI1.size+4+rI2.size+4+rI3.size:=by omega
 repeat (quiet_step (first|with_reducible exact C1.out _ _|with_reducible exact C2.out _ _|with_reducible exact C3.out _ _))
 refine wpQuiet_nil ?_;intro _ hw';obtain⟨⟨dq,osq⟩,hw''⟩:=hw';subst hw'';have hb:=below_regrown w0 dq osq;have B1:=hid (bt9 BW hb);clear hb e0 e3 z0 z1 z2 z3 z4 z5 f10 f11 f12 f13 f20 f21 f22 f23 f30 f31 f32 f33;generalize Sort.grow (redrawn w0 dq) osq=w1 at *;go_wp2;go_ret;exact⟨rfl,B1.out⟩
theorem ptwo(b o:Nat)(op num:Int)(name:ByteArray)(ptr:Option Addr)(cap:Nat)(b1 o1:Nat)(a1:Nd)(k1:Fo)(b2 o2:Nat)(a2:Nd)(k2:Fo)(h1:zt b1 o1 a1 k1)(h2:zt b2 o2 a2 k2)(h:Fp.bin op):zt b o ⟨op,num,name,ptr,cap⟩ (.node b1 o1 a1 k1 (.node b2 o2 a2 k2 .nil)):=by
 intro w ht hx hok hw hs;have hfs:=Fp.fst_kl (c:=⟨b,o,⟨op,num,name,ptr,cap⟩,(.node b1 o1 a1 k1 (.node b2 o2 a2 k2 .nil))⟩) hw;have hwk:=Fp.wf_kl (.node b1 o1 a1 k1 (.node b2 o2 a2 k2 .nil)) (by rw[Bool.and_eq_true] at hw;exact hw.2);obtain rfl:ptr=some ⟨b,o,none⟩:=hx.1 (by simp);have HX:=hid hx.2;have hqI1:=zJ (b:=b1) (o:=o1) (a:=a1) (k:=k1) (hwk ⟨b1,o1,a1,k1⟩ (by simp[Fp.kl])).1 (by have:=(hwk ⟨b1,o1,a1,k1⟩ (by simp[Fp.kl])).2;dsimp only at this;omega)
 have I1:Hid (∀W,Below w.heap.size w W→Calls Tryz.prog 64 #[.agg #[.int .i64 a1.op,.int .i64 a1.num,.string a1.name,.slice a1.ptr (len k1) a1.cap]] W fun e w'=>e=.returned (.string (Fp.tB (Fp.I ⟨b1,o1,a1,k1⟩)))∧Below W.heap.size W w'):=fun W hb=>by
  have hy:=HX.out.next hb
  exact(kn h1) W (ht.next hb) ⟨hy.2.1,hy.2.2.1⟩ ⟨hok.2.1,hok.2.2.1⟩ (hwk ⟨b1,o1,a1,k1⟩ (by simp[Fp.kl])).1 (by have:=(hwk ⟨b1,o1,a1,k1⟩ (by simp[Fp.kl])).2;dsimp only at this;omega)
 have hqI2:=zJ (b:=b2) (o:=o2) (a:=a2) (k:=k2) (hwk ⟨b2,o2,a2,k2⟩ (by simp[Fp.kl])).1 (by have:=(hwk ⟨b2,o2,a2,k2⟩ (by simp[Fp.kl])).2;dsimp only at this;omega)
 have I2:Hid (∀W,Below w.heap.size w W→Calls Tryz.prog 64 #[.agg #[.int .i64 a2.op,.int .i64 a2.num,.string a2.name,.slice a2.ptr (len k2) a2.cap]] W fun e w'=>e=.returned (.string (Fp.tB (Fp.I ⟨b2,o2,a2,k2⟩)))∧Below W.heap.size W w'):=fun W hb=>by
  have hy:=HX.out.next hb
  exact(kn h2) W (ht.next hb) ⟨hy.2.2.2.2.1,hy.2.2.2.2.2.1⟩ ⟨hok.2.2.2.1,hok.2.2.2.2.1⟩ (hwk ⟨b2,o2,a2,k2⟩ (by simp[Fp.kl])).1 (by have:=(hwk ⟨b2,o2,a2,k2⟩ (by simp[Fp.kl])).2;dsimp only at this;omega)
 have HF:=hid hfs;clear hfs hwk hx hok hw hs ht h1 h2
 have E:Hid (Fp.tB (Fp.I ⟨b1,o1,a1,k1⟩)++⟨#[32]⟩++(Fp.opW op).text++⟨#[32]⟩++Fp.tB (Fp.I ⟨b2,o2,a2,k2⟩)=Fp.tB (Fp.F ⟨b,o,⟨op,num,name,some ⟨b,o,none⟩,cap⟩,(.node b1 o1 a1 k1 (.node b2 o2 a2 k2 .nil))⟩)):=by
  apply Fp.ba_eq;refine Eq.trans ?_ (Fp.bbin (c:=⟨b,o,⟨op,num,name,some ⟨b,o,none⟩,cap⟩,(.node b1 o1 a1 k1 (.node b2 o2 a2 k2 .nil))⟩) ⟨b1,o1,a1,k1⟩ ⟨b2,o2,a2,k2⟩ (show Fp.bin op from h) rfl (HF.out ⟨b2,o2,a2,k2⟩ (by simp[Fp.kl]))).symm;simp only[qP,Fp.tB_list,List.append_assoc,List.cons_append,List.nil_append];rfl
 show Calls Tryz.prog 27 #[.agg #[.int .i64 op,.int .i64 num,.string name,.slice (some ⟨b,o,none⟩) 2 cap]] w _
 rw[← E.out];clear E HF;generalize Fp.tB (Fp.I ⟨b1,o1,a1,k1⟩)=rI1 at *;generalize Fp.tB (Fp.I ⟨b2,o2,a2,k2⟩)=rI2 at *;have B0:Below w.heap.size w (w.alloc (.cells #[.int .i64 op,.int .i64 num,.string name,.slice (some ⟨b,o,none⟩) 2 cap] 24)):=ba1;obtain⟨⟨d10,d11,d12,d13⟩,-,-,⟨d20,d21,d22,d23⟩,-,-,-⟩:=HX.out.next B0
 clear HX;have p0:(w.alloc (.cells #[.int .i64 op,.int .i64 num,.string name,.slice (some ⟨b,o,none⟩) 2 cap] 24)).cell? ⟨w.heap.size,0,none⟩=some (.int .i64 op):=by simp[go_sem]
 have p3:(w.alloc (.cells #[.int .i64 op,.int .i64 num,.string name,.slice (some ⟨b,o,none⟩) 2 cap] 24)).cell? ⟨w.heap.size,3,none⟩=some (.slice (some ⟨b,o,none⟩) 2 cap):=by simp[go_sem]
 have P0:=hid p0;have P3:=hid p3;clear p0 p3;have D10:=hid d10;have D11:=hid d11;have D12:=hid d12;have D13:=hid d13;have D20:=hid d20;have D21:=hid d21;have D22:=hid d22;have D23:=hid d23;clear d10 d11 d12 d13 d20 d21 d22 d23;have BW:=hid B0;clear B0;have OP:Hid (∀W,Calls Tryz.prog 65 #[.int .i64 op] W fun e w'=>e=.returned (.string (Fp.opW op).text)∧W=w'):=fun W=>U1 op W h;have ho:(Fp.opW op).text.size≤7:=Fp.opW_sz op;generalize (Fp.opW op).text=ro at *;have n1:(op==1)=false:=Fp.bin_ne h (by unfold Fp.bin;omega);have n2:(op==2)=false:=Fp.bin_ne h (by unfold Fp.bin;omega);have n3:(op==3)=false:=Fp.bin_ne h (by unfold Fp.bin;omega);have n4:(op==4)=false:=Fp.bin_ne h (by unfold Fp.bin;omega);have n5:(op==5)=false:=Fp.bin_ne h (by unfold Fp.bin;omega);have n6:(op==6)=false:=Fp.bin_ne h (by unfold Fp.bin;omega);have n7:(op==7)=false:=Fp.bin_ne h (by unfold Fp.bin;omega);have n12:(op==12)=false:=Fp.bin_ne h (by unfold Fp.bin;omega);have n13:(op==13)=false:=Fp.bin_ne h (by unfold Fp.bin;omega);have n14:(op==14)=false:=Fp.bin_ne h (by unfold Fp.bin;omega);have n15:(op==15)=false:=Fp.bin_ne h (by unfold Fp.bin;omega);have n19:(op==19)=false:=Fp.bin_ne h (by unfold Fp.bin;omega);clear h;go_enter Tryz.func27,Tryz.ntmps27;go_upto_region 31 with (fail);generalize (w.alloc (.cells #[.int .i64 op,.int .i64 num,.string name,.slice (some ⟨b,o,none⟩) 2 cap] 24))=w0 at *;have C1:Hid (QC Tryz.prog 64 #[.agg #[.int .i64 a1.op,.int .i64 a1.num,.string a1.name,.slice a1.ptr (len k1) a1.cap]] (.string rI1) w0):=fun dq os=>Calls.regrown_of (I1.out _ (BW.out.trans ((below_regrown w0 dq os).mono BW.out.size)));have C2:Hid (QC Tryz.prog 64 #[.agg #[.int .i64 a2.op,.int .i64 a2.num,.string a2.name,.slice a2.ptr (len k2) a2.cap]] (.string rI2) w0):=fun dq os=>Calls.regrown_of (I2.out _ (BW.out.trans ((below_regrown w0 dq os).mono BW.out.size)));have CO:Hid (QC Tryz.prog 65 #[.int .i64 op] (.string ro) w0):=fun dq os=>Calls.regrown_of ((OP.out _).mono fun e w' q=>⟨q.1,q.2 ▸ Below.refl _ _⟩);have e0:=fun d os=>cell_regrown P0.out d os;have e3:=fun d os=>cell_regrown P3.out d os;have f10:=fun d os=>cell_regrown D10.out d os;have f11:=fun d os=>cell_regrown D11.out d os;have f12:=fun d os=>cell_regrown D12.out d os;have f13:=fun d os=>cell_regrown D13.out d os;have f20:=fun d os=>cell_regrown D20.out d os;have f21:=fun d os=>cell_regrown D21.out d os;have f22:=fun d os=>cell_regrown D22.out d os;have f23:=fun d os=>cell_regrown D23.out d os;refine wp_region_quiet_below (by kernel_rfl) (by kernel_rfl) ?_;have z0:¬ 9223372036854775807 < rI1.size+1:=by omega
 have z1:¬ 9223372036854775806 < rI1.size:=by omega
 have z2:¬ 9223372036854775807 < rI1.size+1+ro.size:=by omega
 have z3:¬ 9223372036854775807 < rI1.size+1+ro.size+1:=by omega
 have z4:¬ 9223372036854775806 < rI1.size+1+ro.size:=by omega
 have z5:¬ 9223372036854775807 < rI1.size+1+ro.size+1+rI2.size:=by omega
 repeat (quiet_step (first|with_reducible exact C1.out _ _|with_reducible exact C2.out _ _|with_reducible exact CO.out _ _))
 refine wpQuiet_nil ?_;intro _ hw';obtain⟨⟨dq,osq⟩,hw''⟩:=hw';subst hw'';have hb:=below_regrown w0 dq osq;have B1:=hid (bt9 BW hb);clear hb e0 e3 z0 z1 z2 z3 z4 z5 f10 f11 f12 f13 f20 f21 f22 f23;generalize Sort.grow (redrawn w0 dq) osq=w1 at *;go_wp2;go_ret;exact⟨rfl,B1.out⟩
def sB(D:List ByteArray)(j:Nat):List Value:=(List.range D.length).map fun i=>.string (if i < j then D.getD i ⟨#[]⟩ else ⟨#[]⟩)
theorem xt(D:List ByteArray)(j i:Nat)(h:i < D.length):(sB D j)[i]?=some (.string (if i < j then D.getD i ⟨#[]⟩ else ⟨#[]⟩)):=by simp[sB,h]
theorem Vh(D:List ByteArray)(j i:Nat)(h:i < D.length)(hi:j≤i):(sB D j)[i]?=some (.string ⟨#[]⟩):=by rw[xt D j i h,if_neg (by omega)]
theorem UM(D:List ByteArray)(j:Nat)(t:ByteArray)(h:D[j]?=some t):(sB D j).set j (.string t)=sB D (j+1):=by
 have hj:=(List.getElem?_eq_some_iff.1 h).1;apply List.ext_getElem?;intro i
 by_cases hi:i < D.length
 ·rw [List.getElem?_set]
  by_cases hij:j=i
  ·subst hij;rw[if_pos rfl,if_pos (by simp[sB];omega),xt D _ _ hi,if_pos (by omega),List.getD_eq_getElem?_getD,h];rfl
  ·rw [if_neg hij,xt D _ _ hi,xt D _ _ hi]
   by_cases h1:i < j
   ·rw[if_pos h1,if_pos (by omega)]
   ·rw[if_neg h1,if_neg (by omega)]
 ·rw[List.getElem?_eq_none (by simp[sB];omega),List.getElem?_eq_none (by simp[sB];omega)]
theorem KT(D:List ByteArray):(madeCells #[Value.string ⟨#[]⟩] D.length).toList=sB D 0:=by
 rw[toList_madeCells_one];apply List.ext_getElem?;intro i
 by_cases hi:i < D.length
 ·rw[xt D 0 i hi,if_neg (by omega)];simp[hi]
 ·rw[List.getElem?_eq_none (by simp;omega),List.getElem?_eq_none (by simp[sB];omega)]
theorem UN(D:List ByteArray)(i:Nat)(x:ByteArray)(h:D[i]?=some x):(sB D D.length)[i]?=some (.string x):=by
 have hi:=(List.getElem?_eq_some_iff.1 h).1;rw[xt D _ i hi,if_pos hi,List.getD_eq_getElem?_getD,h];rfl
def kT(k:Fo):List ByteArray:=(Fp.kl k).map fun c=>Fp.tB (Fp.F c)
theorem Yp{w w':World}{a:Addr}{v:Value}(h:w.cell? a=some v)(hb:Below w.heap.size w w'):w'.cell? a=some v:=by rw[hb.cell (block_lt_of_cell h)];exact h
theorem UX(k:Fo):(kT k).length=len k:=by unfold kT;rw[List.length_map,Fp.kl_len]
theorem Uh(k:Fo)(h:∀c∈ Fp.kl k,Fp.Fst (Fp.F c)):Lib.join ((kT k).map (·.data.toList)) [44,32]=Fp.tJ' (Fp.kl k):=by
 rw[← Fp.tJ_join (Fp.kl k) h];unfold kT;rw[List.map_map];rfl
theorem Vk(b o:Nat)(op num:Int)(name:ByteArray)(ptr:Option Addr)(cap:Nat)(k:Fo)(ih:xo zt k)(h:op=12∨op=13)(h2:2≤len k):zt b o ⟨op,num,name,ptr,cap⟩ k:=by
 intro w ht hx hok hw hs;obtain⟨i0,hi,hi0,hi1,hi2⟩:=info_parts Tryz.infoST;have HI2:=hid hi2;have hfs:=Fp.fst_kl (c:=⟨b,o,⟨op,num,name,ptr,cap⟩,k⟩) hw;have hwT:za k=true:=by rw[Bool.and_eq_true] at hw;exact hw.2
 have hkn:k≠.nil:=by rintro rfl;simp[len] at h2
 obtain rfl:ptr=some ⟨b,o,none⟩:=hx.1 hkn;have hl9:len k≤199:=Nat.le_trans (xy k) hs;have hSZ:=jU (b:=b) (o:=o) hw hs
 have EQ:Hid (∀S:ByteArray,S.data.toList=Fp.tJ' (Fp.kl k)→(if op=12 then ⟨#[109,105,110]⟩ else ⟨#[109,97,120]⟩)++⟨#[40]⟩++S++⟨#[41]⟩=Fp.tB (Fp.F ⟨b,o,⟨op,num,name,some ⟨b,o,none⟩,cap⟩,k⟩)):=fun S hS=>by
  apply Fp.ba_eq;rw[qP,qP,qP,hS];rcases h with rfl|rfl
  ·refine Eq.trans ?_ (Fp.b12 ⟨b,o,⟨12,num,name,some ⟨b,o,none⟩,cap⟩,k⟩ rfl).symm;rw[if_pos rfl];simp only[List.append_assoc,List.cons_append,List.nil_append]
  ·refine Eq.trans ?_ (Fp.b13 ⟨b,o,⟨13,num,name,some ⟨b,o,none⟩,cap⟩,k⟩ rfl).symm;rw[if_neg (by decide)];simp only[List.append_assoc,List.cons_append,List.nil_append]
 have JN:Hid ((⟨(Lib.join ((kT k).map (·.data.toList)) [44,32]).toArray⟩:ByteArray).data.toList=Fp.tJ' (Fp.kl k)):=by
  show(Lib.join ((kT k).map (·.data.toList)) [44,32]).toArray.toList=_
  rw[List.toList_toArray];exact Uh k hfs
 have EJ:=EQ.out _ JN.out
 have JL:(Lib.join ((kT k).map (·.data.toList)) [44,32]).length+5≤201000:=by
  have e:=congrArg ByteArray.size EJ;rw[ByteArray.size_append,ByteArray.size_append,ByteArray.size_append] at e;have e1:(⟨#[40]⟩:ByteArray).size=1:=rfl;have e2:(⟨#[41]⟩:ByteArray).size=1:=rfl
  have e3:(⟨(Lib.join ((kT k).map (·.data.toList)) [44,32]).toArray⟩:ByteArray).size=(Lib.join ((kT k).map (·.data.toList)) [44,32]).length:=by
   show(Lib.join ((kT k).map (·.data.toList)) [44,32]).toArray.size=_
   simp
  have e4:(if op=12 then (⟨#[109,105,110]⟩:ByteArray) else ⟨#[109,97,120]⟩).size=3:=by split<;>rfl
  omega
 have HX:=hid hx.2;have HT:=hid ht;have IH:=hid ih;have HOK:=hid hok.2;have HW:=hid hwT;have HS:=hid hs;have HEJ:=hid EJ;clear EJ EQ JN hfs hwT hkn hx hok hw hs ht ih;have KL:=hid (UX k);have B0:Below w.heap.size w (w.alloc (.cells #[.int .i64 op,.int .i64 num,.string name,.slice (some ⟨b,o,none⟩) (len k) cap] 24)):=ba1;have p0:(w.alloc (.cells #[.int .i64 op,.int .i64 num,.string name,.slice (some ⟨b,o,none⟩) (len k) cap] 24)).cell? ⟨w.heap.size,0,none⟩=some (.int .i64 op):=by simp[go_sem]
 have p3:(w.alloc (.cells #[.int .i64 op,.int .i64 num,.string name,.slice (some ⟨b,o,none⟩) (len k) cap] 24)).cell? ⟨w.heap.size,3,none⟩=some (.slice (some ⟨b,o,none⟩) (len k) cap):=by simp[go_sem]
 have hz0:w.heap.size < (w.alloc (.cells #[.int .i64 op,.int .i64 num,.string name,.slice (some ⟨b,o,none⟩) (len k) cap] 24)).heap.size:=by simp
 have BW:=hid B0;have P0:=hid p0;have P3:=hid p3;clear B0 p0 p3
 show Calls Tryz.prog 27 #[.agg #[.int .i64 op,.int .i64 num,.string name,.slice (some ⟨b,o,none⟩) (len k) cap]] w _
 obtain⟨X,hX⟩:∃X,Fp.tB (Fp.F ⟨b,o,⟨op,num,name,some ⟨b,o,none⟩,cap⟩,k⟩)=X:=⟨_,rfl⟩;rw[hX] at HEJ hSZ ⊢;clear hX;have OP:Hid (∀W,Calls Tryz.prog 65 #[.int .i64 op] W fun e w'=>e=.returned (.string (if op=12 then ⟨#[109,105,110]⟩ else ⟨#[109,97,120]⟩))∧W=w'):=fun W=>US op W h;have hws:(if op=12 then (⟨#[109,105,110]⟩:ByteArray) else ⟨#[109,97,120]⟩).size=3:=by split<;>rfl
 generalize (if op=12 then (⟨#[109,105,110]⟩:ByteArray) else ⟨#[109,97,120]⟩)=ro at *;have HWS:=hid hws;clear hws;obtain⟨JS,hJS⟩:∃JS:ByteArray,(⟨(Lib.join ((kT k).map (·.data.toList)) [44,32]).toArray⟩:ByteArray)=JS:=⟨_,rfl⟩;rw[hJS] at HEJ;have HJS:=hid hJS
 have hjz:JS.size+5≤201000:=by
  rw[← hJS]
  show(Lib.join ((kT k).map (·.data.toList)) [44,32]).toArray.size+5≤_
  simpa using JL
 have HJZ:=hid hjz;have HJL:=hid JL;clear hJS hjz JL;have hl64:len k≤9223372036854775807:=by omega
 obtain⟨OPC,hOPC⟩:∃P:World→Prop,P=fun W=>W.cell? ⟨w.heap.size,0,none⟩=some (.int .i64 op):=⟨_,rfl⟩;have OC:=hid hOPC;clear hOPC;rcases h with rfl|rfl
 all_goals
  go_enter Tryz.func27,Tryz.ntmps27;go_upto_region 20 with (fail);generalize w.alloc (.cells #[.int .i64 _,.int .i64 num,.string name,.slice (some ⟨b,o,none⟩) (len k) cap] 24)=w0 at *;have q3:=P3.out;go_wp2_with (refine wpList_make_full _ rfl _ _ 73 rfl w0.heap.size 9 i0 (.string ⟨#[]⟩) 1 Tryz.underlying73 hi hi0 hi1 .i64 .i64 _ _ (len k) rfl rfl rfl rfl ?m1 ?m2 ?m3 ?_)
  case m1=>rw[HI2.out];omega
  case m2=>unfold maxLen;omega
  case m3=>exact Nat.le_refl _
  intro w2 qi hg
  have O0:Hid (w2.ownsRow w0.heap.size 9 1 (.slice (some ⟨w0.heap.size,0,none⟩) (len k) (len k)) (len k) (sB (kT k) 0)):=by
   unfold Hid;rw[← KT (kT k),KL.out];simpa using qi
  have N0:Below w0.heap.size w0 w2:=⟨hg.os,hg.tape,hg.output,hg.size,fun i hi=>hg.block i hi (by simp)⟩;have B1:=hid (bt9 BW N0);have R0:Hid (OPC w2):=by unfold Hid;rw[OC.out];exact Yp P0.out N0
  have r3:w2.cell? ⟨w.heap.size,3,none⟩=some (.slice (some ⟨b,o,none⟩) (len k) cap):=Yp q3 N0;have hg0:w.heap.size < w0.heap.size:=hz0;clear qi hg q3 P0 P3 N0 BW hz0;go_wp2_with fail;generalize hB:w0.heap.size=g0 at *;clear hB r3
  go_loopw [4,5,57] (fun _ _ i wr=>∃(j:Nat) (r:Fo),i=.int .i64 j∧g0 < wr.heap.size∧
   Hid (j+len r=len k∧FoAt w r b (o+j * 4)∧je r∧xo zt r∧Below w.heap.size w wr∧za r=true∧sz r≤199∧OPC wr∧wr.ownsRow g0 9 1 (.slice (some ⟨g0,0,none⟩) (len k) (len k)) (len k) (sB (kT k) j)∧∃A,A.length=j∧Fp.kl k=A++Fp.kl r)) (fun _ _ i _=>len k - (intOf i).toNat)
  case atStart =>
   refine⟨0,k,rfl,(O0.out.lt _ rfl).2,by simp,?_,HOK.out,IH.out,B1.out,HW.out,HS.out,R0.out,O0.out,[],rfl,rfl⟩;rw[Nat.zero_mul,Nat.add_zero];exact HX.out
  case round =>
   obtain⟨j,r,rfl,hgz,HR⟩:=hrel;clear O0 B1 R0;cases r with
   | nil =>
     have hjk:j=len k:=(by have:=HR.out.1;simp[len] at this;omega);have hj:¬(j:Int) < (len k:Int):=(by omega);obtain⟨-,-,-,-,g5,-,-,g8,g9,-⟩:=HR.out;rw[hjk] at g9;have B5:=hid g5
     have J := Tryz.strings_Join g0 0 (len k) (kT k) ⟨#[44,32]⟩ wr (fun q x hx=>by
      rw[Nat.zero_add,g9.cellAt q (by have:=(List.getElem?_eq_some_iff.1 hx).1;have:=KL.out;omega)];have:=UN (kT k) q x hx;rw[KL.out] at this
      exact this) hgz (by have:=KL.out;omega) (by have:=KL.out;omega) (by
       have:=HJL.out
       show(Lib.join ((kT k).map (·.data.toList)) [44,32]).length≤_
       omega)
     rw[KL.out] at J
     have J2:Hid (Calls Tryz.prog 50 #[.slice (some ⟨g0,0,none⟩) (len k) (len k),.string ⟨#[44,32]⟩] wr fun e w'=>e=.returned (.string JS)∧Below wr.heap.size wr w'):=by
      unfold Hid;rw[← HJS.out];exact J
     have c0:=g8;rw[OC.out] at c0;have hws:=HWS.out;have hjz:=HJZ.out;clear J HR g5 g8 g9
     go_wp2_with (first
      | (go_at_call 65;refine(OP.out _).mono ?_;rintro e w3 ⟨rfl,rfl⟩)
      | (go_at_call 50;refine J2.out.mono ?_;rintro e w3 ⟨rfl,hb⟩;have B6:=hid (bt9 B5 hb);clear hb))
     go_ret;exact⟨by rw[← HEJ.out];rfl,B6.out⟩
   | node b1 o1 a1 k1 r1 =>
     have hj:j < len k:=(by have:=HR.out.1;simp[len] at this;omega);have hj':(j:Int) < (len k:Int):=(by omega);have hj0:(0:Int)≤(j:Int):=(by omega);obtain⟨g1,g2,g3,g4,g5,g6,g7,g8,g9,g10⟩:=HR.out;obtain⟨⟨c0,c1,c2,c3⟩,-,-,-⟩:=g2.next g5
     obtain⟨-,hp1,hk1,hr1⟩:=g2;have g6':=g6;unfold za at g6';rw[Bool.and_eq_true] at g6';have e7:sz (BT.node b1 o1 a1 k1 r1)=1+sz k1+sz r1:=rfl;have B1:Hid (Below w.heap.size w (wr.alloc (.cells #[.int .i64 a1.op,.int .i64 a1.num,.string a1.name,.slice a1.ptr (len k1) a1.cap] 24))):=g5.alloc g5.size _;have O1:Hid ((wr.alloc (.cells #[.int .i64 a1.op,.int .i64 a1.num,.string a1.name,.slice a1.ptr (len k1) a1.cap] 24)).ownsRow g0 9 1 (.slice (some ⟨g0,0,none⟩) (len k) (len k)) (len k) (sB (kT k) j)):=g9.alloc _;have hq:=jU (b:=b1) (o:=o1) g6'.1 (by omega)
     have X1:Hid (Calls Tryz.prog 27 #[.agg #[.int .i64 a1.op,.int .i64 a1.num,.string a1.name,.slice a1.ptr (len k1) a1.cap]] (wr.alloc (.cells #[.int .i64 a1.op,.int .i64 a1.num,.string a1.name,.slice a1.ptr (len k1) a1.cap] 24)) fun e w'=>e=.returned (.string (Fp.tB (Fp.F ⟨b1,o1,a1,k1⟩)))∧Below (wr.alloc (.cells #[.int .i64 a1.op,.int .i64 a1.num,.string a1.name,.slice a1.ptr (len k1) a1.cap] 24)).heap.size (wr.alloc (.cells #[.int .i64 a1.op,.int .i64 a1.num,.string a1.name,.slice a1.ptr (len k1) a1.cap] 24)) w') :=
      g4.1 _ (HT.out.next B1.out) (ExAt.next ⟨hp1,hk1⟩ B1.out) ⟨g3.1,g3.2.1⟩ g6'.1 (by omega)
     obtain⟨A,hA1,hA2⟩:=g10
     have KJ:Hid ((kT k)[j]?=some (Fp.tB (Fp.F ⟨b1,o1,a1,k1⟩))):=by
      unfold Hid kT;rw[List.getElem?_map,hA2,List.getElem?_append_right (by omega),hA1,Nat.sub_self];rfl
     have A2:Hid (∃A,A.length=j+1∧Fp.kl k=A++Fp.kl r1):=⟨A++[⟨b1,o1,a1,k1⟩],by simp[hA1],by rw[hA2];simp[Fp.kl]⟩;obtain⟨rr,hrr⟩:∃rr,Fp.tB (Fp.F ⟨b1,o1,a1,k1⟩)=rr:=⟨_,rfl⟩;rw[hrr] at hq X1 KJ;have N1:=hid (And.intro hr1 (And.intro g3.2.2 (And.intro g4.2 (And.intro g6'.2 (show sz r1≤199 by omega)))));have HJ:Hid (j+1+len r1=len k):=(by unfold Hid;simp[len] at g1;omega);have G8:=hid g8;clear hrr hp1 hk1 hr1 g1 g3 g4 g5 g6 g6' g7 g8 g9 hA1 hA2 e7 HR hq;go_wp2_with fail;refine X1.out.mono ?_;rintro e w3 ⟨rfl,hb⟩;have OWN2:=hid (zY O1.out hb);have B2:=hid (bt9 B1 hb);have hz2:wr.heap.size+1≤w3.heap.size:=(by have:=hb.size;simpa using this);have s0:=OWN2.out.cellAt j (by have:=KL.out;simp[sB];omega);rw[Vh _ _ _ (by have:=KL.out;omega) (Nat.le_refl _)] at s0;have s1:=OWN2.out.frozenAt j
     have OWN3:Hid ((w3.setCell ⟨g0,j,none⟩ (.string rr)).ownsRow g0 9 1 (.slice (some ⟨g0,0,none⟩) (len k) (len k)) (len k) (sB (kT k) (j+1))):=by
      have ST:=(OWN2.out.stored j (.string rr)).1;rw[UM (kT k) j rr KJ.out] at ST;exact ST
     have B3:Hid (Below w.heap.size w (w3.setCell ⟨g0,j,none⟩ (.string rr))):=B2.out.setCell (p:=⟨g0,j,none⟩) (Nat.le_of_lt hg0) _
     have R3:Hid (OPC (w3.setCell ⟨g0,j,none⟩ (.string rr))):=by
      unfold Hid;rw[OC.out];have q:=G8.out;rw[OC.out] at q;dsimp only at q ⊢;rw[World.cell?_of_block (a:=⟨w.heap.size,0,none⟩) (Below.heap_setCell w3 ⟨g0,j,none⟩ (.string rr) w.heap.size (Nat.ne_of_lt hg0))];exact Yp (Yp q ba1) hb
     have hz3:g0 < w3.heap.size:=(by omega);clear hb c0 c1 c2 c3;go_wp2
     go_roundw
     case rel=>exact⟨j+1,r1,by go_num,by simpa using hz3,HJ.out,by rw[Nat.add_mul,Nat.one_mul,← Nat.add_assoc];exact N1.out.1,N1.out.2.1,N1.out.2.2.1,B3.out,N1.out.2.2.2.1,N1.out.2.2.2.2,R3.out,OWN3.out,A2.out⟩
     case measure=>simp[intOf];omega
theorem km(b o:Nat)(a:Nd)(k:Fo):zt b o a k:=by
 refine jf (P:=zt) ?_ b o a k;clear b o a k;intro b o a k ih w ht hx hok hw hs;obtain⟨op,num,name,ptr,cap⟩:=a;rcases Fp.shape ⟨op,num,name,ptr,cap⟩ k hw with ⟨h,rfl⟩|⟨h,b1,o1,a1,k1,rfl⟩|⟨h,h2⟩|⟨h,b1,o1,a1,k1,b2,o2,a2,k2,b3,o3,a3,k3,rfl⟩|⟨h,b1,o1,a1,k1,b2,o2,a2,k2,rfl⟩
 ·exact Vl b o op num name ptr cap w ht hok hw h
 ·exact pone b o op num name ptr cap b1 o1 a1 k1 ih.1 h w ht hx hok hw hs
 ·exact Vk b o op num name ptr cap k ih h h2 w ht hx hok hw hs
 ·rcases h with h|h
  ·exact pifc b o op num name ptr cap b1 o1 a1 k1 b2 o2 a2 k2 b3 o3 a3 k3 ih.1 ih.2.1 ih.2.2.1 h w ht hx hok hw hs
  ·exact pinc b o op num name ptr cap b1 o1 a1 k1 b2 o2 a2 k2 b3 o3 a3 k3 ih.1 ih.2.1 ih.2.2.1 h w ht hx hok hw hs
 ·exact ptwo b o op num name ptr cap b1 o1 a1 k1 b2 o2 a2 k2 ih.1 ih.2.1 h w ht hx hok hw hs
theorem vH(n:Int)(w:World)(h:1≤n∧n≤3):Calls Tryz.prog 46 #[.int .i64 n] w fun e w'=>e=.returned (.string (Fp.scW n))∧Below w.heap.size w w':=by
 rcases(show n=1∨n=2∨n=3 by omega) with rfl|rfl|rfl
 all_goals
  clear h;go_enter Tryz.func46,Tryz.ntmps46;go_wp2;go_ret;exact⟨rfl,Below.refl _ _⟩
theorem UW(m:ByteArray)(n:Int)(w:World)(ht:Tab w)(hm:qW m≠0)(hn:0≤n∧n≤599999):Calls Tryz.prog 47 #[.int .i64 (zZ m),.int .i64 n] w fun e w'=>e=.returned (.string (Fp.amS m n))∧Below w.heap.size w w':=by
 rcases Fp.meas_ty m with q|q|q
 ·exact absurd q hm
 ·have e1:zZ m=2:=by unfold zZ;rw[if_neg (by omega),if_pos q]
  have e2:Fp.amS m n=ye n:=(by unfold Fp.amS;rw[if_neg (by omega)]);rw[e1,e2];exact xd 2 n w ht (Fp.vt_num ⟨hn.1,by omega⟩) (by omega) (by omega)
 ·have e1:zZ m=3:=by unfold zZ;rw[if_pos q]
  have e2:Fp.amS m n=zg n:=(by unfold Fp.amS;rw[if_pos q]);rw[e1,e2];exact xd 3 n w ht (Fp.vt_dur ⟨hn.1,by omega⟩) (by omega) (by omega)
structure LvB (w:World) (lb:Nat) (D:List ByteArray) (v:Value):Prop where
 c:w.cell? ⟨lb,0,none⟩=some v
 f:w.frozen? ⟨lb,0,none⟩=false
 o:OwS w (lb+1) D v
theorem LvB.next{w w':World}{lb:Nat}{D:List ByteArray}{v:Value}(h:LvB w lb D v)(hb:Below w.heap.size w w'):LvB w' lb D v :=
 ⟨qa h.c hb,by rw[hb.frozen (p:=⟨lb,0,none⟩) (by have:=h.o.2.2;show lb < _;omega)];exact h.f,h.o.next hb⟩
theorem LvB.set{w:World}{lb:Nat}{D:List ByteArray}{u v:Value}(hc:w.cell? ⟨lb,0,none⟩=some u)(hf:w.frozen? ⟨lb,0,none⟩=false)(h:OwS w (lb+1) D v):LvB (w.setCell ⟨lb,0,none⟩ v) lb D v :=
 ⟨by simp[go_sem,hc],by simp[go_sem,hf],ownsRow_setCell_below h.1 (Nat.lt_succ_self _) v,h.2.1,by have:=h.2.2;simp[World.setCell];omega⟩
theorem jA(name:ByteArray)(n:Int)(lb:Nat)(D:List ByteArray)(v:Value)(w:World)(h:LvB w lb D v)(ht:Tab w)(hz:name.size≤100)(hD:D.length≤100) :
 Calls Tryz.prog 100 #[.string name,.int .i64 n,.pointer (some ⟨lb,0,none⟩)] w fun e w'=>e=.returned (.tuple #[])∧(∃v',LvB w' lb (D++[name++⟨#[32]⟩++zg n]) v')∧Below lb w w':=by
 have H:=hid h;have HD:=hid hD;have fz:=zC n;clear h hD;go_enter Tryz.func100,Tryz.ntmps100;go_wp2_with fail;refine(Qa n w ht).mono ?_;rintro e w1 ⟨rfl,hb⟩;have H1:=hid (H.out.next hb);have B1:Hid (Below lb w w1):=hb.mono (by have:=H.out.o.2.2;omega);clear hb ht H;generalize hft:zg n=t at *;have HFT:=hid hft;clear hft;obtain⟨pv,cv,hv⟩:=H1.out.o.slc;subst hv;have c0:=H1.out.c;have f0:=H1.out.f;have z0:¬ 9223372036854775807 < name.size+1:=by omega
 have z1:¬ 9223372036854775806 < name.size:=by omega
 have z2:¬ 9223372036854775807 < name.size+1+t.size:=by omega
 have hl1:lb < w1.heap.size:=by have:=H1.out.o.2.2;omega
 have W4:=hid (H1.out.o.next ((Below.refl w1.heap.size w1).alloc (Nat.le_refl _) (.cells #[.string (name++⟨#[32]⟩++t)] 9)));have N4:Hid (Below w1.heap.size w1 (w1.alloc (.cells #[.string (name++⟨#[32]⟩++t)] 9))):=ba1;go_wp2_with (at_builtin;go_loud (refine yS rfl _ _ rfl (lb+1) _ _ rfl W4.out (by have:=HD.out;omega) _ ⟨w1.heap.size,0,none⟩ 1 rfl (by simp[Addr.add,go_sem];rfl) ?_);intro pn cn we qi hbel;have O5:=hid qi;have B5:=hid hbel;have c5:we.cell? ⟨lb,0,none⟩=some (.slice pv D.length cv):=(by rw[hbel.cell (p:=⟨lb,0,none⟩) (Nat.lt_succ_self _)];exact qa c0 N4.out);have f5:we.frozen? ⟨lb,0,none⟩=false:=(by rw[hbel.frozen (p:=⟨lb,0,none⟩) (Nat.lt_succ_self _),N4.out.frozen (p:=⟨lb,0,none⟩) hl1];exact f0);clear qi hbel)
 go_end0
 exact⟨rfl,⟨_,by rw[HFT.out];exact LvB.set c5 f5 O5.out⟩,((B1.out.alloc (by omega) _).trans (B5.out.mono (Nat.le_succ _))).setCell (Nat.le_refl _) _⟩
theorem OwS.joins{w:World}{B:Nat}{D:List ByteArray}{p:Option Addr}{n cap:Nat}(h:OwS w B D (.slice p n cap))(hD:0 < D.length):∃g,p=some ⟨g,0,none⟩∧g < w.heap.size∧D.length≤cap∧∀(i:Nat)(s:ByteArray),D[i]?=some s→w.cell? ⟨g,0+i,none⟩=some (.string s):=by
 obtain⟨h,h0,h1⟩:=h;rcases h.2 with ⟨hv,h2⟩|⟨g,cap',cur,hv,h3,h4,h5,h6⟩
 ·omega
 ·injection hv with e1 e2 e3
  subst e1 e2 e3;refine⟨g,rfl,(h.lt g rfl).2,h5,fun i s hi=>?_⟩;have q2:=(List.getElem?_eq_some_iff.1 hi).1;rw[Nat.zero_add,h.cellAt i (by omega)];unfold uX;rw[List.getElem?_map,hi];rfl
theorem C14.upto{w W:World}{g n:Nat}{A:Array Value}(h:C14 w g A)(hb:Below n w W)(hg:g < n):C14 W g A:=fun i u hi=>by rw[hb.cell (p:=⟨g,i,none⟩) hg];exact h i u hi
theorem OwS.mono{w:World}{B B':Nat}{D:List ByteArray}{v:Value}(h:OwS w B D v)(hb:B'≤B):OwS w B' D v:=⟨h.1.mono hb,h.2.1,Nat.le_trans hb h.2.2⟩
theorem vJ(c:Ct)(p:Cp)(w:World)(ht:Tab w):Calls Tryz.prog 45 #[.agg (zN c p)] w fun e w'=>(∃q k,e=.returned (.slice q 7 k)∧OwS w' w.heap.size ((Fp.lnH c).map Fp.tB) (.slice q 7 k))∧Below w.heap.size w w':=by
 have HT:Hid (∀W,Below w.heap.size w W→Tab W):=fun W hb=>ht.next hb
 have BA:Hid (Below w.heap.size w ((w.alloc (.cells #[.int .i64 c.rep,.int .i64 c.rel,.int .i64 c.con,.int .i64 c.sit,.int .i64 c.lay,.int .i64 c.nf,.int .i64 c.nt,.slice p.cs c.cs.length p.ccs,.slice p.rs c.rs.length p.crs,.slice p.os c.os.length p.cos,.slice p.cr (len c.cr) p.ccr,.slice p.ls c.ls.length p.cls,.slice p.fs c.fs.length p.cfs,.int .i64 c.gua] 43)).alloc (.cells #[.slice none 0 0] 73))):=ba1.alloc (by simp) _;have CA:Hid (C14 ((w.alloc (.cells #[.int .i64 c.rep,.int .i64 c.rel,.int .i64 c.con,.int .i64 c.sit,.int .i64 c.lay,.int .i64 c.nf,.int .i64 c.nt,.slice p.cs c.cs.length p.ccs,.slice p.rs c.rs.length p.crs,.slice p.os c.os.length p.cos,.slice p.cr (len c.cr) p.ccr,.slice p.ls c.ls.length p.cls,.slice p.fs c.fs.length p.cfs,.int .i64 c.gua] 43)).alloc (.cells #[.slice none 0 0] 73)) w.heap.size #[.int .i64 c.rep,.int .i64 c.rel,.int .i64 c.con,.int .i64 c.sit,.int .i64 c.lay,.int .i64 c.nf,.int .i64 c.nt,.slice p.cs c.cs.length p.ccs,.slice p.rs c.rs.length p.crs,.slice p.os c.os.length p.cos,.slice p.cr (len c.cr) p.ccr,.slice p.ls c.ls.length p.cls,.slice p.fs c.fs.length p.cfs,.int .i64 c.gua]):=(jo w #[.int .i64 c.rep,.int .i64 c.rel,.int .i64 c.con,.int .i64 c.sit,.int .i64 c.lay,.int .i64 c.nf,.int .i64 c.nt,.slice p.cs c.cs.length p.ccs,.slice p.rs c.rs.length p.crs,.slice p.os c.os.length p.cos,.slice p.cr (len c.cr) p.ccr,.slice p.ls c.ls.length p.cls,.slice p.fs c.fs.length p.cfs,.int .i64 c.gua] 43).next ba1
 have LA:Hid (LvB ((w.alloc (.cells #[.int .i64 c.rep,.int .i64 c.rel,.int .i64 c.con,.int .i64 c.sit,.int .i64 c.lay,.int .i64 c.nf,.int .i64 c.nt,.slice p.cs c.cs.length p.ccs,.slice p.rs c.rs.length p.crs,.slice p.os c.os.length p.cos,.slice p.cr (len c.cr) p.ccr,.slice p.ls c.ls.length p.cls,.slice p.fs c.fs.length p.cfs,.int .i64 c.gua] 43)).alloc (.cells #[.slice none 0 0] 73)) (w.heap.size+1) [] (.slice none 0 0)):=⟨by simp[go_sem],by simp[go_sem],OwS.nil _ _ (by simp)⟩
 have LE:Hid ((Fp.lnH c).map Fp.tB=[]++[⟨#[114,101,112,111,114,116]⟩++⟨#[32]⟩++zg c.rep]++[⟨#[114,101,108,101,97,115,101]⟩++⟨#[32]⟩++zg c.rel]++[⟨#[99,111,110,110,101,99,116]⟩++⟨#[32]⟩++zg c.con]++[⟨#[115,105,116]⟩++⟨#[32]⟩++zg c.sit]++[⟨#[108,97,121,111,118,101,114]⟩++⟨#[32]⟩++zg c.lay]++[⟨#[103,117,97,114,97,110,116,101,101]⟩++⟨#[32]⟩++zg c.gua]++[⟨#[110,105,103,104,116,32,64]⟩++ja c.nf++⟨#[32,116,111,32,64]⟩++ja c.nt]):=by
  unfold Hid Fp.lnH;simp only[List.map_cons,List.map_nil,Fp.t_fld,Fp.t_night];rfl
 have fz0:=jm c.nf;have fz1:=jm c.nt;clear ht;unfold zN;go_enter Tryz.func45,Tryz.ntmps45;go_upto_region 3 with (fail);generalize ((w.alloc (.cells #[.int .i64 c.rep,.int .i64 c.rel,.int .i64 c.con,.int .i64 c.sit,.int .i64 c.lay,.int .i64 c.nf,.int .i64 c.nt,.slice p.cs c.cs.length p.ccs,.slice p.rs c.rs.length p.crs,.slice p.os c.os.length p.cos,.slice p.cr (len c.cr) p.ccr,.slice p.ls c.ls.length p.cls,.slice p.fs c.fs.length p.cfs,.int .i64 c.gua] 43)).alloc (.cells #[.slice none 0 0] 73))=x0 at *;obtain⟨lb,hlb⟩:∃z,w.heap.size+1=z:=⟨_,rfl⟩;have HLB:=hid hlb;rw[hlb] at LA;simp only[hlb];clear hlb;have c0:=LA.out.c;have k0:=CA.out 0 _ rfl;go_wp2_with fail;refine(jA ⟨#[114,101,112,111,114,116]⟩ c.rep lb _ _ x0 LA.out (HT.out _ BA.out) (by decide) (by simp)).mono ?_;rintro e x1 ⟨rfl,⟨v1,hL⟩,hb⟩;have L1:=hid hL;have C1:=hid (CA.out.upto hb (by rw[← HLB.out];exact Nat.lt_succ_self _));have B1:=hid (BA.out.trans (hb.mono (by rw[← HLB.out];exact Nat.le_succ _)));clear hb hL c0 k0 BA CA LA;have c0:=L1.out.c;have k0:=C1.out 1 _ rfl;go_wp2_with fail;refine(jA ⟨#[114,101,108,101,97,115,101]⟩ c.rel lb _ _ x1 L1.out (HT.out _ B1.out) (by decide) (by simp)).mono ?_;rintro e x2 ⟨rfl,⟨v2,hL⟩,hb⟩;have L2:=hid hL;have C2:=hid (C1.out.upto hb (by rw[← HLB.out];exact Nat.lt_succ_self _));have B2:=hid (B1.out.trans (hb.mono (by rw[← HLB.out];exact Nat.le_succ _)));clear hb hL c0 k0 B1 C1 L1;have c0:=L2.out.c;have k0:=C2.out 2 _ rfl;go_wp2_with fail;refine(jA ⟨#[99,111,110,110,101,99,116]⟩ c.con lb _ _ x2 L2.out (HT.out _ B2.out) (by decide) (by simp)).mono ?_;rintro e x3 ⟨rfl,⟨v3,hL⟩,hb⟩;have L3:=hid hL;have C3:=hid (C2.out.upto hb (by rw[← HLB.out];exact Nat.lt_succ_self _));have B3:=hid (B2.out.trans (hb.mono (by rw[← HLB.out];exact Nat.le_succ _)));clear hb hL c0 k0 B2 C2 L2;have c0:=L3.out.c;have k0:=C3.out 3 _ rfl;go_wp2_with fail;refine(jA ⟨#[115,105,116]⟩ c.sit lb _ _ x3 L3.out (HT.out _ B3.out) (by decide) (by simp)).mono ?_;rintro e x4 ⟨rfl,⟨v4,hL⟩,hb⟩;have L4:=hid hL;have C4:=hid (C3.out.upto hb (by rw[← HLB.out];exact Nat.lt_succ_self _));have B4:=hid (B3.out.trans (hb.mono (by rw[← HLB.out];exact Nat.le_succ _)));clear hb hL c0 k0 B3 C3 L3;have c0:=L4.out.c;have k0:=C4.out 4 _ rfl;go_wp2_with fail;refine(jA ⟨#[108,97,121,111,118,101,114]⟩ c.lay lb _ _ x4 L4.out (HT.out _ B4.out) (by decide) (by simp)).mono ?_;rintro e x5 ⟨rfl,⟨v5,hL⟩,hb⟩;have L5:=hid hL;have C5:=hid (C4.out.upto hb (by rw[← HLB.out];exact Nat.lt_succ_self _));have B5:=hid (B4.out.trans (hb.mono (by rw[← HLB.out];exact Nat.le_succ _)));clear hb hL c0 k0 B4 C4 L4;have c0:=L5.out.c;have k0:=C5.out 13 _ rfl;go_wp2_with fail;refine(jA ⟨#[103,117,97,114,97,110,116,101,101]⟩ c.gua lb _ _ x5 L5.out (HT.out _ B5.out) (by decide) (by simp)).mono ?_;rintro e x6 ⟨rfl,⟨v6,hL⟩,hb⟩;have L6:=hid hL;have C6:=hid (C5.out.upto hb (by rw[← HLB.out];exact Nat.lt_succ_self _));have B6:=hid (B5.out.trans (hb.mono (by rw[← HLB.out];exact Nat.le_succ _)));clear hb hL c0 k0 B5 C5 L5;have k5:=C6.out 5 _ rfl;go_wp2_with fail;refine(jP c.nf x6 (HT.out _ B6.out)).mono ?_;rintro e x7 ⟨rfl,hb⟩;have L7:=hid (L6.out.next hb);have C7:=hid (C6.out.next hb);have B7:=hid (bt9 B6 hb);clear hb k5 L6 C6 B6;have k6:=C7.out 6 _ rfl;go_wp2_with fail;refine(jP c.nt x7 (HT.out _ B7.out)).mono ?_;rintro e x8 ⟨rfl,hb⟩;have L8:=hid (L7.out.next hb);have B8:=hid (bt9 B7 hb);clear hb k6 L7 C7 B7;obtain⟨pv,cv,hv⟩:=L8.out.o.slc;have c0:=L8.out.c;rw[hv] at c0;have OD:=hid L8.out.o;rw[hv] at OD;have HLZ:lb < x8.heap.size:=by have:=L8.out.o.2.2;omega
 clear L8 hv;generalize hq0:ja c.nf=q0 at *;generalize hq1:ja c.nt=q1 at *;clear hq0 hq1;generalize hDD:[]++[⟨#[114,101,112,111,114,116]⟩++⟨#[32]⟩++zg c.rep]++[⟨#[114,101,108,101,97,115,101]⟩++⟨#[32]⟩++zg c.rel]++[⟨#[99,111,110,110,101,99,116]⟩++⟨#[32]⟩++zg c.con]++[⟨#[115,105,116]⟩++⟨#[32]⟩++zg c.sit]++[⟨#[108,97,121,111,118,101,114]⟩++⟨#[32]⟩++zg c.lay]++[⟨#[103,117,97,114,97,110,116,101,101]⟩++⟨#[32]⟩++zg c.gua]=D at *;have DL:Hid (D.length=6):=by unfold Hid;rw[← hDD];rfl
 clear hDD;have DL2:=DL.out;have z0:¬ 9223372036854775807 < 7+q0.size:=by omega
 have z1:¬ 9223372036854775807 < 7+q0.size+5:=by omega
 have z2:¬ 9223372036854775802 < 7+q0.size:=by omega
 have z3:¬ 9223372036854775807 < 7+q0.size+5+q1.size:=by omega
 rw[DL2] at OD c0;clear DL2;go_upto_region 11 with (fail);have W4:=hid (OD.out.next ((Below.refl x8.heap.size x8).alloc (Nat.le_refl _) (.cells #[.string (⟨#[110,105,103,104,116,32,64]⟩++q0++⟨#[32,116,111,32,64]⟩++q1)] 9)));go_wp2_with (at_builtin;go_loud (refine yS rfl _ _ rfl (lb+1) _ _ rfl W4.out (by have:=DL.out;omega) _ ⟨x8.heap.size,0,none⟩ 1 rfl (by simp[Addr.add,go_sem];rfl) ?_);intro pn cn we qi hbel;rw[DL.out] at qi;have O5:=hid qi;have B5:=hid (B8.out.trans (((Below.refl w.heap.size x8).alloc B8.out.size _).trans (hbel.mono (by rw[← HLB.out];omega))));clear qi hbel;have DL3:=DL.out);go_ret;exact⟨⟨_,_,rfl,by rw[LE.out];exact O5.out.mono (by rw[← HLB.out];omega)⟩,B5.out⟩
end Go.Proofs.YtcejjdmnlejbaaaGreatDoor
