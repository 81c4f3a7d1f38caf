import Derived.Test.YtcejjdmnlejbaaaGreatDoorBFpr
import Derived.Test.YtcejjdmnlejbaaaGreatDoorBTkT
import Derived.Test.YtcejjdmnlejbaaaGreatDoorBTvF
import Derived.Lib.QuietBelow
namespace Go.Proofs.YtcejjdmnlejbaaaGreatDoor
set_option linter.unusedVariables false
set_option linter.unusedSimpArgs false
open Go.ChangeShapes Go.WideShapes Go.ChangeAt Go.RowKit
open Go.Deep (BT)
theorem pop_any (op:Int) (w:World) (h:Fp.bin op):Calls Tryz.prog 65 #[.int .i64 op] w fun e w'=>e=.returned (.string (Fp.opW op).text)∧w=w':=by
 rcases h with rfl|rfl|rfl|rfl|rfl|rfl|rfl|rfl|rfl|rfl
 all_goals
  go_enter Tryz.func65,Tryz.ntmps65
  go_wp2
  go_ret
  exact ⟨rfl,rfl⟩
theorem pop_mm (op:Int) (w:World) (h:op=12∨op=13):Calls Tryz.prog 65 #[.int .i64 op] w fun e w'=>e=.returned (.string (if op=12 then ⟨#[109,105,110]⟩ else ⟨#[109,97,120]⟩))∧w=w':=by
 rcases h with rfl|rfl
 all_goals
  go_enter Tryz.func65,Tryz.ntmps65
  go_wp2
  go_ret
  exact ⟨rfl,rfl⟩
def ptxtC (b o:Nat) (a:Nd) (k:Fo):Prop:=∀ w:World,Tab w→ExAt w b o a k→ExOk a k→(wfB a (len k) && wfT k)=true→sz k≤199 →
 Calls Tryz.prog 27 #[.agg #[.int .i64 a.op,.int .i64 a.num,.string a.name,.slice a.ptr (len k) a.cap]] w fun e w'=>e=.returned (.string (Fp.tB (Fp.F ⟨b,o,a,k⟩)))∧Below w.heap.size w w'
def pinC (b o:Nat) (a:Nd) (k:Fo):Prop:=∀ w:World,Tab w→ExAt w b o a k→ExOk a k→(wfB a (len k) && wfT k)=true→sz k≤199 →
 Calls Tryz.prog 64 #[.agg #[.int .i64 a.op,.int .i64 a.num,.string a.name,.slice a.ptr (len k) a.cap]] w fun e w'=>e=.returned (.string (Fp.tB (Fp.I ⟨b,o,a,k⟩)))∧Below w.heap.size w w'
set_option maxHeartbeats 2000000 in
set_option maxRecDepth 100000 in
theorem pin_any {b o:Nat} {a:Nd} {k:Fo} (h:ptxtC b o a k):pinC b o a k:=by
 intro w ht hx hok hw hs
 obtain ⟨op,num,name,ptr,cap⟩:=a
 have hr0:=tB_sz (b:=b) (o:=o) hw hs
 have EB:=Lib.hid (fI_bare ⟨b,o,⟨op,num,name,ptr,cap⟩,k⟩)
 have EP:=Lib.hid (fI_par ⟨b,o,⟨op,num,name,ptr,cap⟩,k⟩)
 obtain ⟨r,hr⟩:∃ r,Fp.tB (Fp.F ⟨b,o,⟨op,num,name,ptr,cap⟩,k⟩)=r:=⟨_,rfl⟩
 have H:Hid (∀ W,Below w.heap.size w W→Calls Tryz.prog 27 #[.agg #[.int .i64 op,.int .i64 num,.string name,.slice ptr (len k) cap]] W fun e w'=>e=.returned (.string r)∧Below W.heap.size W w'):=fun W hb=>by
  have:=h W (ht.next hb) (hx.next hb) hok hw hs
  rw [hr] at this
  exact this
 rw [hr] at hr0 EP
 show Calls Tryz.prog 64 #[.agg #[.int .i64 op,.int .i64 num,.string name,.slice ptr (len k) cap]] w _
 by_cases q:len k=0∨op=12∨op=13
 · rw [EB.out q,hr]
   have hk9:len k≤9223372036854775807:=hok.1.2.2.2
   clear EB EP hr h ht hx hok hw hs
   by_cases q1:len k=0
   · have q0:(len k:Int)=0:=by omega
     clear q q1
     go_enter Tryz.func64,Tryz.ntmps64
     go_wp2_with (go_at_call 27;refine (H.out _ ((Below.refl _ _).alloc (Nat.le_refl _) _)).mono ?_;rintro e w1 ⟨rfl,hb⟩;have B1:Hid (Below w.heap.size w w1):=((Below.refl w.heap.size w).alloc (Nat.le_refl _) _).trans (hb.mono (by simp));clear hb)
     go_ret
     exact ⟨rfl,B1.out⟩
   · have q0:¬ (len k:Int)=0:=by omega
     by_cases q2:op=12
     · subst q2
       clear q q1
       go_enter Tryz.func64,Tryz.ntmps64
       go_wp2_with (go_at_call 27;refine (H.out _ ((Below.refl _ _).alloc (Nat.le_refl _) _)).mono ?_;rintro e w1 ⟨rfl,hb⟩;have B1:Hid (Below w.heap.size w w1):=((Below.refl w.heap.size w).alloc (Nat.le_refl _) _).trans (hb.mono (by simp));clear hb)
       go_ret
       exact ⟨rfl,B1.out⟩
     · have q3:op=13:=by omega
       subst q3
       clear q q1 q2
       go_enter Tryz.func64,Tryz.ntmps64
       go_wp2_with (go_at_call 27;refine (H.out _ ((Below.refl _ _).alloc (Nat.le_refl _) _)).mono ?_;rintro e w1 ⟨rfl,hb⟩;have B1:Hid (Below w.heap.size w w1):=((Below.refl w.heap.size w).alloc (Nat.le_refl _) _).trans (hb.mono (by simp));clear hb)
       go_ret
       exact ⟨rfl,B1.out⟩
 · have q0:¬ (len k:Int)=0:=fun e=>q (.inl (by omega))
   have q2:¬ op=12:=fun e=>q (.inr (.inl e))
   have q3:¬ op=13:=fun e=>q (.inr (.inr e))
   have e0:((len k:Int)==0)=false:=beq_eq_false_iff_ne.2 q0
   have e2:(op==12)=false:=beq_eq_false_iff_ne.2 q2
   have e3:(op==13)=false:=beq_eq_false_iff_ne.2 q3
   rw [EP.out q]
   have hk9:len k≤9223372036854775807:=hok.1.2.2.2
   clear EB EP hr h ht hx hok hw hs q
   go_enter Tryz.func64,Tryz.ntmps64
   go_wp2_with (go_at_call 27;refine (H.out _ ((Below.refl _ _).alloc (Nat.le_refl _) _)).mono ?_;rintro e w1 ⟨rfl,hb⟩;have B1:Hid (Below w.heap.size w w1):=((Below.refl w.heap.size w).alloc (Nat.le_refl _) _).trans (hb.mono (by simp));clear hb)
   go_ret
   exact ⟨rfl,B1.out⟩
set_option maxHeartbeats 2000000 in
theorem lit_any (k n:Int) (w:World) (ht:Tab w) (hv:VT ⟨k,⟨#[]⟩,n⟩) (h0 : -9223372036854775808≤n) (h1:n≤9223372036854775807):Calls Tryz.prog 47 #[.int .i64 k,.int .i64 n] w fun e w'=>e=.returned (.string (tx ⟨⟨k,⟨#[]⟩,n⟩,0⟩))∧Below w.heap.size w w':=by
 have H:Hid (∀ (t:TypeId),Calls Tryz.prog 103 #[.slice (some ⟨w.heap.size,0,none⟩) 1 1] (w.alloc (.cells #[.int .i64 k,.string ⟨#[]⟩,.int .i64 n,.int .i64 0] t)) fun e w'=>e=.returned (.tuple #[.string (tx ⟨⟨k,⟨#[]⟩,n⟩,0⟩),.int .i64 0])∧Below w.heap.size w w'):=fun t=>by
  have hb:Below w.heap.size w (w.alloc (.cells #[.int .i64 k,.string ⟨#[]⟩,.int .i64 n,.int .i64 0] t)):=(Below.refl _ _).alloc (Nat.le_refl _) _
  have TA:TkAt (w.alloc (.cells #[.int .i64 k,.string ⟨#[]⟩,.int .i64 n,.int .i64 0] t)) [⟨⟨k,⟨#[]⟩,n⟩,0⟩] (.slice (some ⟨w.heap.size,0,none⟩) 1 1):=by
   refine ⟨_,_,rfl,Nat.le_refl _,by simp,fun _=>⟨_,_,rfl,fun j u hu=>?_⟩⟩
   match j,hu with
   | 0,hu=>simp [tkC] at hu;subst hu;simp [go_sem]
   | 1,hu=>simp [tkC] at hu;subst hu;simp [go_sem]
   | 2,hu=>simp [tkC] at hu;subst hu;simp [go_sem]
   | 3,hu=>simp [tkC] at hu;subst hu;simp [go_sem]
   | j+4,hu=>simp [tkC] at hu
  refine (tformat_any [⟨⟨k,⟨#[]⟩,n⟩,0⟩] _ 1 _ TA (fun t ht=>by rw [List.mem_singleton.1 ht];exact ⟨⟨h0,h1⟩,by show (0:Nat)≤_;omega⟩) (ht.next hb)).mono ?_
  rintro e w' ⟨⟨c,he,rfl⟩,hb2⟩
  have hc:c=0:=by
   rcases he with ⟨h1,-⟩|⟨-,-,h⟩|⟨-,h2,-⟩
   · simp at h1
   · exact h
   · exact absurd (fun t ht=>by rw [List.mem_singleton.1 ht];exact hv) h2
  subst hc
  refine ⟨?_,hb.trans (hb2.mono hb.size)⟩
  rw [if_pos rfl]
  have e:jn [⟨⟨k,⟨#[]⟩,n⟩,0⟩]=tx ⟨⟨k,⟨#[]⟩,n⟩,0⟩:=Fp.ba_eq (Lib.join_one (tx ⟨⟨k,⟨#[]⟩,n⟩,0⟩).data.toList [32])
  rw [e]
 clear ht hv
 generalize tx ⟨⟨k,⟨#[]⟩,n⟩,0⟩=r at *
 go_enter Tryz.func47,Tryz.ntmps47
 go_wp2_with (go_at_call 103;refine (H.out _).mono ?_;rintro e w1 ⟨rfl,hb⟩;have B1:=Lib.hid hb;clear hb)
 go_ret
 exact ⟨rfl,B1.out⟩
set_option maxHeartbeats 4000000 in
set_option maxRecDepth 100000 in
theorem pleaf (b o:Nat) (op num:Int) (name:ByteArray) (ptr:Option Addr) (cap:Nat) (w:World) (ht:Tab w) (hok:ExOk ⟨op,num,name,ptr,cap⟩ .nil) (hw:(wfB ⟨op,num,name,ptr,cap⟩ (len (.nil:Fo)) && wfT .nil)=true)
 (h:op=1∨op=2∨op=3∨op=4∨op=5∨op=6):Calls Tryz.prog 27 #[.agg #[.int .i64 op,.int .i64 num,.string name,.slice ptr (len (.nil:Fo)) cap]] w fun e w'=>e=.returned (.string (Fp.tB (Fp.F ⟨b,o,⟨op,num,name,ptr,cap⟩,.nil⟩)))∧Below w.heap.size w w':=by
 rcases h with rfl|rfl|rfl|rfl|rfl|rfl
 · skip
   have VT1:=(Fp.vt_lit ⟨b,o,⟨1,num,name,ptr,cap⟩,.nil⟩ hw).1 rfl
   have hn:=hok.1.2.1
   have H:Hid (∀ W,Below w.heap.size w W→Calls Tryz.prog 47 #[.int .i64 2,.int .i64 num] W fun e w'=>e=.returned (.string (tx ⟨⟨2,⟨#[]⟩,num⟩,0⟩))∧Below W.heap.size W w'):=fun W hb=>lit_any 2 num W (ht.next hb) VT1 hn.1 hn.2
   have E:Hid (tx ⟨⟨2,⟨#[]⟩,num⟩,0⟩=Fp.tB (Fp.F ⟨b,o,⟨1,num,name,ptr,cap⟩,.nil⟩)):=Fp.ba_eq (Fp.b1 ⟨b,o,⟨1,num,name,ptr,cap⟩,.nil⟩ rfl).symm
   rw [← E.out]
   clear E VT1 hn ht hok hw
   generalize tx ⟨⟨2,⟨#[]⟩,num⟩,0⟩=r at *
   go_enter Tryz.func27,Tryz.ntmps27
   go_wp2_with (go_at_call 47;refine (H.out _ ((Below.refl _ _).alloc (Nat.le_refl _) _)).mono ?_;rintro e w1 ⟨rfl,hb⟩;have B1:Hid (Below w.heap.size w w1):=((Below.refl w.heap.size w).alloc (Nat.le_refl _) _).trans (hb.mono (by simp));clear hb)
   go_ret
   exact ⟨rfl,B1.out⟩
 · skip
   have VT1:=(Fp.vt_lit ⟨b,o,⟨2,num,name,ptr,cap⟩,.nil⟩ hw).2.1 rfl
   have hn:=hok.1.2.1
   have H:Hid (∀ W,Below w.heap.size w W→Calls Tryz.prog 47 #[.int .i64 3,.int .i64 num] W fun e w'=>e=.returned (.string (tx ⟨⟨3,⟨#[]⟩,num⟩,0⟩))∧Below W.heap.size W w'):=fun W hb=>lit_any 3 num W (ht.next hb) VT1 hn.1 hn.2
   have E:Hid (tx ⟨⟨3,⟨#[]⟩,num⟩,0⟩=Fp.tB (Fp.F ⟨b,o,⟨2,num,name,ptr,cap⟩,.nil⟩)):=Fp.ba_eq (Fp.b2 ⟨b,o,⟨2,num,name,ptr,cap⟩,.nil⟩ rfl).symm
   rw [← E.out]
   clear E VT1 hn ht hok hw
   generalize tx ⟨⟨3,⟨#[]⟩,num⟩,0⟩=r at *
   go_enter Tryz.func27,Tryz.ntmps27
   go_wp2_with (go_at_call 47;refine (H.out _ ((Below.refl _ _).alloc (Nat.le_refl _) _)).mono ?_;rintro e w1 ⟨rfl,hb⟩;have B1:Hid (Below w.heap.size w w1):=((Below.refl w.heap.size w).alloc (Nat.le_refl _) _).trans (hb.mono (by simp));clear hb)
   go_ret
   exact ⟨rfl,B1.out⟩
 · skip
   have VT1:=(Fp.vt_lit ⟨b,o,⟨3,num,name,ptr,cap⟩,.nil⟩ hw).2.2 rfl
   have hn:=hok.1.2.1
   have H:Hid (∀ W,Below w.heap.size w W→Calls Tryz.prog 47 #[.int .i64 4,.int .i64 num] W fun e w'=>e=.returned (.string (tx ⟨⟨4,⟨#[]⟩,num⟩,0⟩))∧Below W.heap.size W w'):=fun W hb=>lit_any 4 num W (ht.next hb) VT1 hn.1 hn.2
   have E:Hid (tx ⟨⟨4,⟨#[]⟩,num⟩,0⟩=Fp.tB (Fp.F ⟨b,o,⟨3,num,name,ptr,cap⟩,.nil⟩)):=Fp.ba_eq (Fp.b3 ⟨b,o,⟨3,num,name,ptr,cap⟩,.nil⟩ rfl).symm
   rw [← E.out]
   clear E VT1 hn ht hok hw
   generalize tx ⟨⟨4,⟨#[]⟩,num⟩,0⟩=r at *
   go_enter Tryz.func27,Tryz.ntmps27
   go_wp2_with (go_at_call 47;refine (H.out _ ((Below.refl _ _).alloc (Nat.le_refl _) _)).mono ?_;rintro e w1 ⟨rfl,hb⟩;have B1:Hid (Below w.heap.size w w1):=((Below.refl w.heap.size w).alloc (Nat.le_refl _) _).trans (hb.mono (by simp));clear hb)
   go_ret
   exact ⟨rfl,B1.out⟩
 · have E:Hid (⟨#[116,114,117,101]⟩=Fp.tB (Fp.F ⟨b,o,⟨4,num,name,ptr,cap⟩,.nil⟩)):=Fp.ba_eq (Fp.b4 ⟨b,o,⟨4,num,name,ptr,cap⟩,.nil⟩ rfl).symm
   rw [← E.out]
   clear E ht hok hw
   go_enter Tryz.func27,Tryz.ntmps27
   go_wp2
   go_ret
   exact ⟨rfl,(Below.refl _ _).alloc (Nat.le_refl _) _⟩
 · have E:Hid (⟨#[102,97,108,115,101]⟩=Fp.tB (Fp.F ⟨b,o,⟨5,num,name,ptr,cap⟩,.nil⟩)):=Fp.ba_eq (Fp.b5 ⟨b,o,⟨5,num,name,ptr,cap⟩,.nil⟩ rfl).symm
   rw [← E.out]
   clear E ht hok hw
   go_enter Tryz.func27,Tryz.ntmps27
   go_wp2
   go_ret
   exact ⟨rfl,(Below.refl _ _).alloc (Nat.le_refl _) _⟩
 · have E:Hid (name=Fp.tB (Fp.F ⟨b,o,⟨6,num,name,ptr,cap⟩,.nil⟩)):=Fp.ba_eq (Fp.b6 ⟨b,o,⟨6,num,name,ptr,cap⟩,.nil⟩ rfl).symm
   rw [← E.out]
   clear E ht hok hw
   go_enter Tryz.func27,Tryz.ntmps27
   go_wp2
   go_ret
   exact ⟨rfl,(Below.refl _ _).alloc (Nat.le_refl _) _⟩
set_option maxHeartbeats 4000000 in
set_option maxRecDepth 100000 in
theorem pone (b o:Nat) (op num:Int) (name:ByteArray) (ptr:Option Addr) (cap:Nat) (b1 o1:Nat) (a1:Nd) (k1:Fo) (h1:ptxtC b1 o1 a1 k1) (h:op=7∨op=19):ptxtC b o ⟨op,num,name,ptr,cap⟩ (.node b1 o1 a1 k1 .nil):=by
 intro w ht hx hok hw hs
 have hfs:=Fp.fst_kl (c:=⟨b,o,⟨op,num,name,ptr,cap⟩,(.node b1 o1 a1 k1 .nil)⟩) hw
 have hwk:=Fp.wf_kl (.node b1 o1 a1 k1 .nil) (by rw [Bool.and_eq_true] at hw;exact hw.2)
 obtain rfl:ptr=some ⟨b,o,none⟩:=hx.1 (by simp)
 have HX:=Lib.hid hx.2
 have hqI1:=tB_szI (b:=b1) (o:=o1) (a:=a1) (k:=k1) (hwk ⟨b1,o1,a1,k1⟩ (by simp [Fp.kl])).1 (by have:=(hwk ⟨b1,o1,a1,k1⟩ (by simp [Fp.kl])).2;dsimp only at this;omega)
 have I1:Hid (∀ W,Below w.heap.size w W→Calls Tryz.prog 64 #[.agg #[.int .i64 a1.op,.int .i64 a1.num,.string a1.name,.slice a1.ptr (len k1) a1.cap]] W fun e w'=>e=.returned (.string (Fp.tB (Fp.I ⟨b1,o1,a1,k1⟩)))∧Below W.heap.size W w'):=fun W hb=>by
  have hy:=HX.out.next hb
  exact (pin_any h1) W (ht.next hb) ⟨hy.2.1,hy.2.2.1⟩ ⟨hok.2.1,hok.2.2.1⟩ (hwk ⟨b1,o1,a1,k1⟩ (by simp [Fp.kl])).1 (by have:=(hwk ⟨b1,o1,a1,k1⟩ (by simp [Fp.kl])).2;dsimp only at this;omega)
 have HF:=Lib.hid hfs
 clear hfs hwk hx hok hw hs ht h1
 rcases h with rfl|rfl
 · have E:Hid (⟨#[45]⟩++Fp.tB (Fp.I ⟨b1,o1,a1,k1⟩)=Fp.tB (Fp.F ⟨b,o,⟨7,num,name,some ⟨b,o,none⟩,cap⟩,(.node b1 o1 a1 k1 .nil)⟩)):=by
    apply Fp.ba_eq
    refine Eq.trans ?_ (Fp.b7 (c:=⟨b,o,⟨7,num,name,some ⟨b,o,none⟩,cap⟩,(.node b1 o1 a1 k1 .nil)⟩) ⟨b1,o1,a1,k1⟩ rfl rfl).symm
    simp only [app_list,Fp.tB_list,List.append_assoc,List.cons_append,List.nil_append]
    rfl
   show Calls Tryz.prog 27 #[.agg #[.int .i64 7,.int .i64 num,.string name,.slice (some ⟨b,o,none⟩) 1 cap]] w _
   rw [← E.out]
   clear E HF
   generalize Fp.tB (Fp.I ⟨b1,o1,a1,k1⟩)=rI1 at *
   have B0:Below w.heap.size w (w.alloc (.cells #[.int .i64 7,.int .i64 num,.string name,.slice (some ⟨b,o,none⟩) 1 cap] 24)):=(Below.refl _ _).alloc (Nat.le_refl _) _
   obtain ⟨⟨d10,d11,d12,d13⟩,-,-,-⟩:=HX.out.next B0
   clear HX
   clear B0
   go_enter Tryz.func27,Tryz.ntmps27
   go_wp2_with (go_at_call 64;refine (I1.out _ ((Below.refl _ _).alloc (Nat.le_refl _) _)).mono ?_;rintro e w1 ⟨rfl,hb⟩;have B1:Hid (Below w.heap.size w w1):=((Below.refl w.heap.size w).alloc (Nat.le_refl _) _).trans (hb.mono (by simp));clear hb)
   go_ret
   exact ⟨rfl,B1.out⟩
 · have E:Hid (⟨#[110,111,116,32]⟩++Fp.tB (Fp.I ⟨b1,o1,a1,k1⟩)=Fp.tB (Fp.F ⟨b,o,⟨19,num,name,some ⟨b,o,none⟩,cap⟩,(.node b1 o1 a1 k1 .nil)⟩)):=by
    apply Fp.ba_eq
    refine Eq.trans ?_ (Fp.b19 (c:=⟨b,o,⟨19,num,name,some ⟨b,o,none⟩,cap⟩,(.node b1 o1 a1 k1 .nil)⟩) ⟨b1,o1,a1,k1⟩ rfl rfl (HF.out ⟨b1,o1,a1,k1⟩ (by simp [Fp.kl]))).symm
    simp only [app_list,Fp.tB_list,List.append_assoc,List.cons_append,List.nil_append]
    rfl
   show Calls Tryz.prog 27 #[.agg #[.int .i64 19,.int .i64 num,.string name,.slice (some ⟨b,o,none⟩) 1 cap]] w _
   rw [← E.out]
   clear E HF
   generalize Fp.tB (Fp.I ⟨b1,o1,a1,k1⟩)=rI1 at *
   have B0:Below w.heap.size w (w.alloc (.cells #[.int .i64 19,.int .i64 num,.string name,.slice (some ⟨b,o,none⟩) 1 cap] 24)):=(Below.refl _ _).alloc (Nat.le_refl _) _
   obtain ⟨⟨d10,d11,d12,d13⟩,-,-,-⟩:=HX.out.next B0
   clear HX
   clear B0
   go_enter Tryz.func27,Tryz.ntmps27
   go_wp2_with (go_at_call 64;refine (I1.out _ ((Below.refl _ _).alloc (Nat.le_refl _) _)).mono ?_;rintro e w1 ⟨rfl,hb⟩;have B1:Hid (Below w.heap.size w w1):=((Below.refl w.heap.size w).alloc (Nat.le_refl _) _).trans (hb.mono (by simp));clear hb)
   go_ret
   exact ⟨rfl,B1.out⟩
set_option maxHeartbeats 4000000 in
set_option maxRecDepth 100000 in
theorem pifc (b o:Nat) (op num:Int) (name:ByteArray) (ptr:Option Addr) (cap:Nat) (b1 o1:Nat) (a1:Nd) (k1:Fo) (b2 o2:Nat) (a2:Nd) (k2:Fo) (b3 o3:Nat) (a3:Nd) (k3:Fo) (h1:ptxtC b1 o1 a1 k1) (h2:ptxtC b2 o2 a2 k2) (h3:ptxtC b3 o3 a3 k3) (h:op=14):ptxtC b o ⟨op,num,name,ptr,cap⟩ (.node b1 o1 a1 k1 (.node b2 o2 a2 k2 (.node b3 o3 a3 k3 .nil))):=by
 intro w ht hx hok hw hs
 have hfs:=Fp.fst_kl (c:=⟨b,o,⟨op,num,name,ptr,cap⟩,(.node b1 o1 a1 k1 (.node b2 o2 a2 k2 (.node b3 o3 a3 k3 .nil)))⟩) hw
 have hwk:=Fp.wf_kl (.node b1 o1 a1 k1 (.node b2 o2 a2 k2 (.node b3 o3 a3 k3 .nil))) (by rw [Bool.and_eq_true] at hw;exact hw.2)
 obtain rfl:ptr=some ⟨b,o,none⟩:=hx.1 (by simp)
 have HX:=Lib.hid hx.2
 have hqT1:=tB_sz (b:=b1) (o:=o1) (a:=a1) (k:=k1) (hwk ⟨b1,o1,a1,k1⟩ (by simp [Fp.kl])).1 (by have:=(hwk ⟨b1,o1,a1,k1⟩ (by simp [Fp.kl])).2;dsimp only at this;omega)
 have T1:Hid (∀ W,Below w.heap.size w W→Calls Tryz.prog 27 #[.agg #[.int .i64 a1.op,.int .i64 a1.num,.string a1.name,.slice a1.ptr (len k1) a1.cap]] W fun e w'=>e=.returned (.string (Fp.tB (Fp.F ⟨b1,o1,a1,k1⟩)))∧Below W.heap.size W w'):=fun W hb=>by
  have hy:=HX.out.next hb
  exact (h1) W (ht.next hb) ⟨hy.2.1,hy.2.2.1⟩ ⟨hok.2.1,hok.2.2.1⟩ (hwk ⟨b1,o1,a1,k1⟩ (by simp [Fp.kl])).1 (by have:=(hwk ⟨b1,o1,a1,k1⟩ (by simp [Fp.kl])).2;dsimp only at this;omega)
 have hqT2:=tB_sz (b:=b2) (o:=o2) (a:=a2) (k:=k2) (hwk ⟨b2,o2,a2,k2⟩ (by simp [Fp.kl])).1 (by have:=(hwk ⟨b2,o2,a2,k2⟩ (by simp [Fp.kl])).2;dsimp only at this;omega)
 have T2:Hid (∀ W,Below w.heap.size w W→Calls Tryz.prog 27 #[.agg #[.int .i64 a2.op,.int .i64 a2.num,.string a2.name,.slice a2.ptr (len k2) a2.cap]] W fun e w'=>e=.returned (.string (Fp.tB (Fp.F ⟨b2,o2,a2,k2⟩)))∧Below W.heap.size W w'):=fun W hb=>by
  have hy:=HX.out.next hb
  exact (h2) W (ht.next hb) ⟨hy.2.2.2.2.1,hy.2.2.2.2.2.1⟩ ⟨hok.2.2.2.1,hok.2.2.2.2.1⟩ (hwk ⟨b2,o2,a2,k2⟩ (by simp [Fp.kl])).1 (by have:=(hwk ⟨b2,o2,a2,k2⟩ (by simp [Fp.kl])).2;dsimp only at this;omega)
 have hqT3:=tB_sz (b:=b3) (o:=o3) (a:=a3) (k:=k3) (hwk ⟨b3,o3,a3,k3⟩ (by simp [Fp.kl])).1 (by have:=(hwk ⟨b3,o3,a3,k3⟩ (by simp [Fp.kl])).2;dsimp only at this;omega)
 have T3:Hid (∀ W,Below w.heap.size w W→Calls Tryz.prog 27 #[.agg #[.int .i64 a3.op,.int .i64 a3.num,.string a3.name,.slice a3.ptr (len k3) a3.cap]] W fun e w'=>e=.returned (.string (Fp.tB (Fp.F ⟨b3,o3,a3,k3⟩)))∧Below W.heap.size W w'):=fun W hb=>by
  have hy:=HX.out.next hb
  exact (h3) W (ht.next hb) ⟨hy.2.2.2.2.2.2.2.1,hy.2.2.2.2.2.2.2.2.1⟩ ⟨hok.2.2.2.2.2.1,hok.2.2.2.2.2.2.1⟩ (hwk ⟨b3,o3,a3,k3⟩ (by simp [Fp.kl])).1 (by have:=(hwk ⟨b3,o3,a3,k3⟩ (by simp [Fp.kl])).2;dsimp only at this;omega)
 have HF:=Lib.hid hfs
 clear hfs hwk hx hok hw hs ht h1 h2 h3
 subst h
 have E:Hid (⟨#[105,102,32]⟩++Fp.tB (Fp.F ⟨b1,o1,a1,k1⟩)++⟨#[32,116,104,101,110,32]⟩++Fp.tB (Fp.F ⟨b2,o2,a2,k2⟩)++⟨#[32,101,108,115,101,32]⟩++Fp.tB (Fp.F ⟨b3,o3,a3,k3⟩)=Fp.tB (Fp.F ⟨b,o,⟨14,num,name,some ⟨b,o,none⟩,cap⟩,(.node b1 o1 a1 k1 (.node b2 o2 a2 k2 (.node b3 o3 a3 k3 .nil)))⟩)):=by
  apply Fp.ba_eq
  refine Eq.trans ?_ (Fp.b14 (c:=⟨b,o,⟨14,num,name,some ⟨b,o,none⟩,cap⟩,(.node b1 o1 a1 k1 (.node b2 o2 a2 k2 (.node b3 o3 a3 k3 .nil)))⟩) ⟨b1,o1,a1,k1⟩ ⟨b2,o2,a2,k2⟩ ⟨b3,o3,a3,k3⟩ rfl rfl (HF.out ⟨b1,o1,a1,k1⟩ (by simp [Fp.kl])) (HF.out ⟨b2,o2,a2,k2⟩ (by simp [Fp.kl])) (HF.out ⟨b3,o3,a3,k3⟩ (by simp [Fp.kl]))).symm
  simp only [app_list,Fp.tB_list,List.append_assoc,List.cons_append,List.nil_append]
  rfl
 show Calls Tryz.prog 27 #[.agg #[.int .i64 14,.int .i64 num,.string name,.slice (some ⟨b,o,none⟩) 3 cap]] w _
 rw [← E.out]
 clear E HF
 generalize Fp.tB (Fp.F ⟨b1,o1,a1,k1⟩)=rT1 at *
 generalize Fp.tB (Fp.F ⟨b2,o2,a2,k2⟩)=rT2 at *
 generalize Fp.tB (Fp.F ⟨b3,o3,a3,k3⟩)=rT3 at *
 have B0:Below w.heap.size w (w.alloc (.cells #[.int .i64 14,.int .i64 num,.string name,.slice (some ⟨b,o,none⟩) 3 cap] 24)):=(Below.refl _ _).alloc (Nat.le_refl _) _
 obtain ⟨⟨d10,d11,d12,d13⟩,-,-,⟨d20,d21,d22,d23⟩,-,-,⟨d30,d31,d32,d33⟩,-,-,-⟩:=HX.out.next B0
 clear HX
 have p0:(w.alloc (.cells #[.int .i64 14,.int .i64 num,.string name,.slice (some ⟨b,o,none⟩) 3 cap] 24)).cell? ⟨w.heap.size,0,none⟩=some (.int .i64 14):=by simp [go_sem]
 have p3:(w.alloc (.cells #[.int .i64 14,.int .i64 num,.string name,.slice (some ⟨b,o,none⟩) 3 cap] 24)).cell? ⟨w.heap.size,3,none⟩=some (.slice (some ⟨b,o,none⟩) 3 cap):=by simp [go_sem]
 have P0:=Lib.hid p0
 have P3:=Lib.hid p3
 clear p0 p3
 have D10:=Lib.hid d10
 have D11:=Lib.hid d11
 have D12:=Lib.hid d12
 have D13:=Lib.hid d13
 have D20:=Lib.hid d20
 have D21:=Lib.hid d21
 have D22:=Lib.hid d22
 have D23:=Lib.hid d23
 have D30:=Lib.hid d30
 have D31:=Lib.hid d31
 have D32:=Lib.hid d32
 have D33:=Lib.hid d33
 clear d10 d11 d12 d13 d20 d21 d22 d23 d30 d31 d32 d33
 have BW:=Lib.hid B0
 clear B0
 go_enter Tryz.func27,Tryz.ntmps27
 go_upto_region 28 with (fail)
 generalize (w.alloc (.cells #[.int .i64 14,.int .i64 num,.string name,.slice (some ⟨b,o,none⟩) 3 cap] 24))=w0 at *
 have C1:Hid (∀ dq os,Calls Tryz.prog 27 #[.agg #[.int .i64 a1.op,.int .i64 a1.num,.string a1.name,.slice a1.ptr (len k1) a1.cap]] (Sort.grow (redrawn w0 dq) os) fun e w''=>e=.returned (.string rT1)∧∃ p:Regrown,w''=Sort.grow (redrawn w0 p.d) p.os):=fun dq os=>Calls.regrown_of (T1.out _ (BW.out.trans ((below_regrown w0 dq os).mono BW.out.size)))
 have C2:Hid (∀ dq os,Calls Tryz.prog 27 #[.agg #[.int .i64 a2.op,.int .i64 a2.num,.string a2.name,.slice a2.ptr (len k2) a2.cap]] (Sort.grow (redrawn w0 dq) os) fun e w''=>e=.returned (.string rT2)∧∃ p:Regrown,w''=Sort.grow (redrawn w0 p.d) p.os):=fun dq os=>Calls.regrown_of (T2.out _ (BW.out.trans ((below_regrown w0 dq os).mono BW.out.size)))
 have C3:Hid (∀ dq os,Calls Tryz.prog 27 #[.agg #[.int .i64 a3.op,.int .i64 a3.num,.string a3.name,.slice a3.ptr (len k3) a3.cap]] (Sort.grow (redrawn w0 dq) os) fun e w''=>e=.returned (.string rT3)∧∃ p:Regrown,w''=Sort.grow (redrawn w0 p.d) p.os):=fun dq os=>Calls.regrown_of (T3.out _ (BW.out.trans ((below_regrown w0 dq os).mono BW.out.size)))
 have e0:=fun d os=>cell_regrown P0.out d os
 have e3:=fun d os=>cell_regrown P3.out d os
 have f10:=fun d os=>cell_regrown D10.out d os
 have f11:=fun d os=>cell_regrown D11.out d os
 have f12:=fun d os=>cell_regrown D12.out d os
 have f13:=fun d os=>cell_regrown D13.out d os
 have f20:=fun d os=>cell_regrown D20.out d os
 have f21:=fun d os=>cell_regrown D21.out d os
 have f22:=fun d os=>cell_regrown D22.out d os
 have f23:=fun d os=>cell_regrown D23.out d os
 have f30:=fun d os=>cell_regrown D30.out d os
 have f31:=fun d os=>cell_regrown D31.out d os
 have f32:=fun d os=>cell_regrown D32.out d os
 have f33:=fun d os=>cell_regrown D33.out d os
 refine wp_region_quiet_below (by kernel_rfl) (by kernel_rfl) ?_
 have z0:¬ 9223372036854775807 < 3+rT1.size:=by omega
 have z1:¬ 9223372036854775807 < 3+rT1.size+6:=by omega
 have z2:¬ 9223372036854775801 < 3+rT1.size:=by omega
 have z3:¬ 9223372036854775807 < 3+rT1.size+6+rT2.size:=by omega
 have z4:¬ 9223372036854775807 < 3+rT1.size+6+rT2.size+6:=by omega
 have z5:¬ 9223372036854775801 < 3+rT1.size+6+rT2.size:=by omega
 have z6:¬ 9223372036854775807 < 3+rT1.size+6+rT2.size+6+rT3.size:=by omega
 repeat (quiet_step (first|with_reducible exact C1.out _ _|with_reducible exact C2.out _ _|with_reducible exact C3.out _ _))
 refine wpQuiet_nil ?_
 intro _ hw'
 obtain ⟨⟨dq,osq⟩,hw''⟩:=hw'
 subst hw''
 have hb:=below_regrown w0 dq osq
 have B1:=Lib.hid (BW.out.trans (hb.mono BW.out.size))
 clear hb e0 e3 z0 z1 z2 z3 z4 z5 z6 f10 f11 f12 f13 f20 f21 f22 f23 f30 f31 f32 f33
 generalize Sort.grow (redrawn w0 dq) osq=w1 at *
 go_wp2
 go_ret
 exact ⟨rfl,B1.out⟩
set_option maxHeartbeats 4000000 in
set_option maxRecDepth 100000 in
theorem pinc (b o:Nat) (op num:Int) (name:ByteArray) (ptr:Option Addr) (cap:Nat) (b1 o1:Nat) (a1:Nd) (k1:Fo) (b2 o2:Nat) (a2:Nd) (k2:Fo) (b3 o3:Nat) (a3:Nd) (k3:Fo) (h1:ptxtC b1 o1 a1 k1) (h2:ptxtC b2 o2 a2 k2) (h3:ptxtC b3 o3 a3 k3) (h:op=15):ptxtC b o ⟨op,num,name,ptr,cap⟩ (.node b1 o1 a1 k1 (.node b2 o2 a2 k2 (.node b3 o3 a3 k3 .nil))):=by
 intro w ht hx hok hw hs
 have hfs:=Fp.fst_kl (c:=⟨b,o,⟨op,num,name,ptr,cap⟩,(.node b1 o1 a1 k1 (.node b2 o2 a2 k2 (.node b3 o3 a3 k3 .nil)))⟩) hw
 have hwk:=Fp.wf_kl (.node b1 o1 a1 k1 (.node b2 o2 a2 k2 (.node b3 o3 a3 k3 .nil))) (by rw [Bool.and_eq_true] at hw;exact hw.2)
 obtain rfl:ptr=some ⟨b,o,none⟩:=hx.1 (by simp)
 have HX:=Lib.hid hx.2
 have hqI1:=tB_szI (b:=b1) (o:=o1) (a:=a1) (k:=k1) (hwk ⟨b1,o1,a1,k1⟩ (by simp [Fp.kl])).1 (by have:=(hwk ⟨b1,o1,a1,k1⟩ (by simp [Fp.kl])).2;dsimp only at this;omega)
 have I1:Hid (∀ W,Below w.heap.size w W→Calls Tryz.prog 64 #[.agg #[.int .i64 a1.op,.int .i64 a1.num,.string a1.name,.slice a1.ptr (len k1) a1.cap]] W fun e w'=>e=.returned (.string (Fp.tB (Fp.I ⟨b1,o1,a1,k1⟩)))∧Below W.heap.size W w'):=fun W hb=>by
  have hy:=HX.out.next hb
  exact (pin_any h1) W (ht.next hb) ⟨hy.2.1,hy.2.2.1⟩ ⟨hok.2.1,hok.2.2.1⟩ (hwk ⟨b1,o1,a1,k1⟩ (by simp [Fp.kl])).1 (by have:=(hwk ⟨b1,o1,a1,k1⟩ (by simp [Fp.kl])).2;dsimp only at this;omega)
 have hqI2:=tB_szI (b:=b2) (o:=o2) (a:=a2) (k:=k2) (hwk ⟨b2,o2,a2,k2⟩ (by simp [Fp.kl])).1 (by have:=(hwk ⟨b2,o2,a2,k2⟩ (by simp [Fp.kl])).2;dsimp only at this;omega)
 have I2:Hid (∀ W,Below w.heap.size w W→Calls Tryz.prog 64 #[.agg #[.int .i64 a2.op,.int .i64 a2.num,.string a2.name,.slice a2.ptr (len k2) a2.cap]] W fun e w'=>e=.returned (.string (Fp.tB (Fp.I ⟨b2,o2,a2,k2⟩)))∧Below W.heap.size W w'):=fun W hb=>by
  have hy:=HX.out.next hb
  exact (pin_any h2) W (ht.next hb) ⟨hy.2.2.2.2.1,hy.2.2.2.2.2.1⟩ ⟨hok.2.2.2.1,hok.2.2.2.2.1⟩ (hwk ⟨b2,o2,a2,k2⟩ (by simp [Fp.kl])).1 (by have:=(hwk ⟨b2,o2,a2,k2⟩ (by simp [Fp.kl])).2;dsimp only at this;omega)
 have hqI3:=tB_szI (b:=b3) (o:=o3) (a:=a3) (k:=k3) (hwk ⟨b3,o3,a3,k3⟩ (by simp [Fp.kl])).1 (by have:=(hwk ⟨b3,o3,a3,k3⟩ (by simp [Fp.kl])).2;dsimp only at this;omega)
 have I3:Hid (∀ W,Below w.heap.size w W→Calls Tryz.prog 64 #[.agg #[.int .i64 a3.op,.int .i64 a3.num,.string a3.name,.slice a3.ptr (len k3) a3.cap]] W fun e w'=>e=.returned (.string (Fp.tB (Fp.I ⟨b3,o3,a3,k3⟩)))∧Below W.heap.size W w'):=fun W hb=>by
  have hy:=HX.out.next hb
  exact (pin_any h3) W (ht.next hb) ⟨hy.2.2.2.2.2.2.2.1,hy.2.2.2.2.2.2.2.2.1⟩ ⟨hok.2.2.2.2.2.1,hok.2.2.2.2.2.2.1⟩ (hwk ⟨b3,o3,a3,k3⟩ (by simp [Fp.kl])).1 (by have:=(hwk ⟨b3,o3,a3,k3⟩ (by simp [Fp.kl])).2;dsimp only at this;omega)
 have HF:=Lib.hid hfs
 clear hfs hwk hx hok hw hs ht h1 h2 h3
 subst h
 have E:Hid (Fp.tB (Fp.I ⟨b1,o1,a1,k1⟩)++⟨#[32,105,110,32]⟩++Fp.tB (Fp.I ⟨b2,o2,a2,k2⟩)++⟨#[32,116,111,32]⟩++Fp.tB (Fp.I ⟨b3,o3,a3,k3⟩)=Fp.tB (Fp.F ⟨b,o,⟨15,num,name,some ⟨b,o,none⟩,cap⟩,(.node b1 o1 a1 k1 (.node b2 o2 a2 k2 (.node b3 o3 a3 k3 .nil)))⟩)):=by
  apply Fp.ba_eq
  refine Eq.trans ?_ (Fp.b15 (c:=⟨b,o,⟨15,num,name,some ⟨b,o,none⟩,cap⟩,(.node b1 o1 a1 k1 (.node b2 o2 a2 k2 (.node b3 o3 a3 k3 .nil)))⟩) ⟨b1,o1,a1,k1⟩ ⟨b2,o2,a2,k2⟩ ⟨b3,o3,a3,k3⟩ rfl rfl (HF.out ⟨b2,o2,a2,k2⟩ (by simp [Fp.kl])) (HF.out ⟨b3,o3,a3,k3⟩ (by simp [Fp.kl]))).symm
  simp only [app_list,Fp.tB_list,List.append_assoc,List.cons_append,List.nil_append]
  rfl
 show Calls Tryz.prog 27 #[.agg #[.int .i64 15,.int .i64 num,.string name,.slice (some ⟨b,o,none⟩) 3 cap]] w _
 rw [← E.out]
 clear E HF
 generalize Fp.tB (Fp.I ⟨b1,o1,a1,k1⟩)=rI1 at *
 generalize Fp.tB (Fp.I ⟨b2,o2,a2,k2⟩)=rI2 at *
 generalize Fp.tB (Fp.I ⟨b3,o3,a3,k3⟩)=rI3 at *
 have B0:Below w.heap.size w (w.alloc (.cells #[.int .i64 15,.int .i64 num,.string name,.slice (some ⟨b,o,none⟩) 3 cap] 24)):=(Below.refl _ _).alloc (Nat.le_refl _) _
 obtain ⟨⟨d10,d11,d12,d13⟩,-,-,⟨d20,d21,d22,d23⟩,-,-,⟨d30,d31,d32,d33⟩,-,-,-⟩:=HX.out.next B0
 clear HX
 have p0:(w.alloc (.cells #[.int .i64 15,.int .i64 num,.string name,.slice (some ⟨b,o,none⟩) 3 cap] 24)).cell? ⟨w.heap.size,0,none⟩=some (.int .i64 15):=by simp [go_sem]
 have p3:(w.alloc (.cells #[.int .i64 15,.int .i64 num,.string name,.slice (some ⟨b,o,none⟩) 3 cap] 24)).cell? ⟨w.heap.size,3,none⟩=some (.slice (some ⟨b,o,none⟩) 3 cap):=by simp [go_sem]
 have P0:=Lib.hid p0
 have P3:=Lib.hid p3
 clear p0 p3
 have D10:=Lib.hid d10
 have D11:=Lib.hid d11
 have D12:=Lib.hid d12
 have D13:=Lib.hid d13
 have D20:=Lib.hid d20
 have D21:=Lib.hid d21
 have D22:=Lib.hid d22
 have D23:=Lib.hid d23
 have D30:=Lib.hid d30
 have D31:=Lib.hid d31
 have D32:=Lib.hid d32
 have D33:=Lib.hid d33
 clear d10 d11 d12 d13 d20 d21 d22 d23 d30 d31 d32 d33
 have BW:=Lib.hid B0
 clear B0
 go_enter Tryz.func27,Tryz.ntmps27
 go_upto_region 30 with (fail)
 generalize (w.alloc (.cells #[.int .i64 15,.int .i64 num,.string name,.slice (some ⟨b,o,none⟩) 3 cap] 24))=w0 at *
 have C1:Hid (∀ dq os,Calls Tryz.prog 64 #[.agg #[.int .i64 a1.op,.int .i64 a1.num,.string a1.name,.slice a1.ptr (len k1) a1.cap]] (Sort.grow (redrawn w0 dq) os) fun e w''=>e=.returned (.string rI1)∧∃ p:Regrown,w''=Sort.grow (redrawn w0 p.d) p.os):=fun dq os=>Calls.regrown_of (I1.out _ (BW.out.trans ((below_regrown w0 dq os).mono BW.out.size)))
 have C2:Hid (∀ dq os,Calls Tryz.prog 64 #[.agg #[.int .i64 a2.op,.int .i64 a2.num,.string a2.name,.slice a2.ptr (len k2) a2.cap]] (Sort.grow (redrawn w0 dq) os) fun e w''=>e=.returned (.string rI2)∧∃ p:Regrown,w''=Sort.grow (redrawn w0 p.d) p.os):=fun dq os=>Calls.regrown_of (I2.out _ (BW.out.trans ((below_regrown w0 dq os).mono BW.out.size)))
 have C3:Hid (∀ dq os,Calls Tryz.prog 64 #[.agg #[.int .i64 a3.op,.int .i64 a3.num,.string a3.name,.slice a3.ptr (len k3) a3.cap]] (Sort.grow (redrawn w0 dq) os) fun e w''=>e=.returned (.string rI3)∧∃ p:Regrown,w''=Sort.grow (redrawn w0 p.d) p.os):=fun dq os=>Calls.regrown_of (I3.out _ (BW.out.trans ((below_regrown w0 dq os).mono BW.out.size)))
 have e0:=fun d os=>cell_regrown P0.out d os
 have e3:=fun d os=>cell_regrown P3.out d os
 have f10:=fun d os=>cell_regrown D10.out d os
 have f11:=fun d os=>cell_regrown D11.out d os
 have f12:=fun d os=>cell_regrown D12.out d os
 have f13:=fun d os=>cell_regrown D13.out d os
 have f20:=fun d os=>cell_regrown D20.out d os
 have f21:=fun d os=>cell_regrown D21.out d os
 have f22:=fun d os=>cell_regrown D22.out d os
 have f23:=fun d os=>cell_regrown D23.out d os
 have f30:=fun d os=>cell_regrown D30.out d os
 have f31:=fun d os=>cell_regrown D31.out d os
 have f32:=fun d os=>cell_regrown D32.out d os
 have f33:=fun d os=>cell_regrown D33.out d os
 refine wp_region_quiet_below (by kernel_rfl) (by kernel_rfl) ?_
 have z0:¬ 9223372036854775807 < rI1.size+4:=by omega
 have z1:¬ 9223372036854775803 < rI1.size:=by omega
 have z2:¬ 9223372036854775807 < rI1.size+4+rI2.size:=by omega
 have z3:¬ 9223372036854775807 < rI1.size+4+rI2.size+4:=by omega
 have z4:¬ 9223372036854775803 < rI1.size+4+rI2.size:=by omega
 have z5:¬ 9223372036854775807 < rI1.size+4+rI2.size+4+rI3.size:=by omega
 repeat (quiet_step (first|with_reducible exact C1.out _ _|with_reducible exact C2.out _ _|with_reducible exact C3.out _ _))
 refine wpQuiet_nil ?_
 intro _ hw'
 obtain ⟨⟨dq,osq⟩,hw''⟩:=hw'
 subst hw''
 have hb:=below_regrown w0 dq osq
 have B1:=Lib.hid (BW.out.trans (hb.mono BW.out.size))
 clear hb e0 e3 z0 z1 z2 z3 z4 z5 f10 f11 f12 f13 f20 f21 f22 f23 f30 f31 f32 f33
 generalize Sort.grow (redrawn w0 dq) osq=w1 at *
 go_wp2
 go_ret
 exact ⟨rfl,B1.out⟩
set_option maxHeartbeats 4000000 in
set_option maxRecDepth 100000 in
theorem ptwo (b o:Nat) (op num:Int) (name:ByteArray) (ptr:Option Addr) (cap:Nat) (b1 o1:Nat) (a1:Nd) (k1:Fo) (b2 o2:Nat) (a2:Nd) (k2:Fo) (h1:ptxtC b1 o1 a1 k1) (h2:ptxtC b2 o2 a2 k2) (h:Fp.bin op):ptxtC b o ⟨op,num,name,ptr,cap⟩ (.node b1 o1 a1 k1 (.node b2 o2 a2 k2 .nil)):=by
 intro w ht hx hok hw hs
 have hfs:=Fp.fst_kl (c:=⟨b,o,⟨op,num,name,ptr,cap⟩,(.node b1 o1 a1 k1 (.node b2 o2 a2 k2 .nil))⟩) hw
 have hwk:=Fp.wf_kl (.node b1 o1 a1 k1 (.node b2 o2 a2 k2 .nil)) (by rw [Bool.and_eq_true] at hw;exact hw.2)
 obtain rfl:ptr=some ⟨b,o,none⟩:=hx.1 (by simp)
 have HX:=Lib.hid hx.2
 have hqI1:=tB_szI (b:=b1) (o:=o1) (a:=a1) (k:=k1) (hwk ⟨b1,o1,a1,k1⟩ (by simp [Fp.kl])).1 (by have:=(hwk ⟨b1,o1,a1,k1⟩ (by simp [Fp.kl])).2;dsimp only at this;omega)
 have I1:Hid (∀ W,Below w.heap.size w W→Calls Tryz.prog 64 #[.agg #[.int .i64 a1.op,.int .i64 a1.num,.string a1.name,.slice a1.ptr (len k1) a1.cap]] W fun e w'=>e=.returned (.string (Fp.tB (Fp.I ⟨b1,o1,a1,k1⟩)))∧Below W.heap.size W w'):=fun W hb=>by
  have hy:=HX.out.next hb
  exact (pin_any h1) W (ht.next hb) ⟨hy.2.1,hy.2.2.1⟩ ⟨hok.2.1,hok.2.2.1⟩ (hwk ⟨b1,o1,a1,k1⟩ (by simp [Fp.kl])).1 (by have:=(hwk ⟨b1,o1,a1,k1⟩ (by simp [Fp.kl])).2;dsimp only at this;omega)
 have hqI2:=tB_szI (b:=b2) (o:=o2) (a:=a2) (k:=k2) (hwk ⟨b2,o2,a2,k2⟩ (by simp [Fp.kl])).1 (by have:=(hwk ⟨b2,o2,a2,k2⟩ (by simp [Fp.kl])).2;dsimp only at this;omega)
 have I2:Hid (∀ W,Below w.heap.size w W→Calls Tryz.prog 64 #[.agg #[.int .i64 a2.op,.int .i64 a2.num,.string a2.name,.slice a2.ptr (len k2) a2.cap]] W fun e w'=>e=.returned (.string (Fp.tB (Fp.I ⟨b2,o2,a2,k2⟩)))∧Below W.heap.size W w'):=fun W hb=>by
  have hy:=HX.out.next hb
  exact (pin_any h2) W (ht.next hb) ⟨hy.2.2.2.2.1,hy.2.2.2.2.2.1⟩ ⟨hok.2.2.2.1,hok.2.2.2.2.1⟩ (hwk ⟨b2,o2,a2,k2⟩ (by simp [Fp.kl])).1 (by have:=(hwk ⟨b2,o2,a2,k2⟩ (by simp [Fp.kl])).2;dsimp only at this;omega)
 have HF:=Lib.hid hfs
 clear hfs hwk hx hok hw hs ht h1 h2
 rcases h with rfl|rfl|rfl|rfl|rfl|rfl|rfl|rfl|rfl|rfl
 · have E:Hid (Fp.tB (Fp.I ⟨b1,o1,a1,k1⟩)++⟨#[32]⟩++(Fp.opW 8).text++⟨#[32]⟩++Fp.tB (Fp.I ⟨b2,o2,a2,k2⟩)=Fp.tB (Fp.F ⟨b,o,⟨8,num,name,some ⟨b,o,none⟩,cap⟩,(.node b1 o1 a1 k1 (.node b2 o2 a2 k2 .nil))⟩)):=by
    apply Fp.ba_eq
    refine Eq.trans ?_ (Fp.bbin (c:=⟨b,o,⟨8,num,name,some ⟨b,o,none⟩,cap⟩,(.node b1 o1 a1 k1 (.node b2 o2 a2 k2 .nil))⟩) ⟨b1,o1,a1,k1⟩ ⟨b2,o2,a2,k2⟩ (by dsimp only;omega) rfl (HF.out ⟨b2,o2,a2,k2⟩ (by simp [Fp.kl]))).symm
    simp only [app_list,Fp.tB_list,List.append_assoc,List.cons_append,List.nil_append]
    rfl
   show Calls Tryz.prog 27 #[.agg #[.int .i64 8,.int .i64 num,.string name,.slice (some ⟨b,o,none⟩) 2 cap]] w _
   rw [← E.out]
   clear E HF
   generalize Fp.tB (Fp.I ⟨b1,o1,a1,k1⟩)=rI1 at *
   generalize Fp.tB (Fp.I ⟨b2,o2,a2,k2⟩)=rI2 at *
   have B0:Below w.heap.size w (w.alloc (.cells #[.int .i64 8,.int .i64 num,.string name,.slice (some ⟨b,o,none⟩) 2 cap] 24)):=(Below.refl _ _).alloc (Nat.le_refl _) _
   obtain ⟨⟨d10,d11,d12,d13⟩,-,-,⟨d20,d21,d22,d23⟩,-,-,-⟩:=HX.out.next B0
   clear HX
   have p0:(w.alloc (.cells #[.int .i64 8,.int .i64 num,.string name,.slice (some ⟨b,o,none⟩) 2 cap] 24)).cell? ⟨w.heap.size,0,none⟩=some (.int .i64 8):=by simp [go_sem]
   have p3:(w.alloc (.cells #[.int .i64 8,.int .i64 num,.string name,.slice (some ⟨b,o,none⟩) 2 cap] 24)).cell? ⟨w.heap.size,3,none⟩=some (.slice (some ⟨b,o,none⟩) 2 cap):=by simp [go_sem]
   have P0:=Lib.hid p0
   have P3:=Lib.hid p3
   clear p0 p3
   have D10:=Lib.hid d10
   have D11:=Lib.hid d11
   have D12:=Lib.hid d12
   have D13:=Lib.hid d13
   have D20:=Lib.hid d20
   have D21:=Lib.hid d21
   have D22:=Lib.hid d22
   have D23:=Lib.hid d23
   clear d10 d11 d12 d13 d20 d21 d22 d23
   have BW:=Lib.hid B0
   clear B0
   have OP:Hid (∀ W,Calls Tryz.prog 65 #[.int .i64 8] W fun e w'=>e=.returned (.string (Fp.opW 8).text)∧W=w'):=fun W=>pop_any 8 W (by unfold Fp.bin;omega)
   have ho:(Fp.opW 8).text.size≤7:=by decide
   generalize (Fp.opW 8).text=ro at *
   go_enter Tryz.func27,Tryz.ntmps27
   go_upto_region 31 with (fail)
   generalize (w.alloc (.cells #[.int .i64 8,.int .i64 num,.string name,.slice (some ⟨b,o,none⟩) 2 cap] 24))=w0 at *
   have C1:Hid (∀ dq os,Calls Tryz.prog 64 #[.agg #[.int .i64 a1.op,.int .i64 a1.num,.string a1.name,.slice a1.ptr (len k1) a1.cap]] (Sort.grow (redrawn w0 dq) os) fun e w''=>e=.returned (.string rI1)∧∃ p:Regrown,w''=Sort.grow (redrawn w0 p.d) p.os):=fun dq os=>Calls.regrown_of (I1.out _ (BW.out.trans ((below_regrown w0 dq os).mono BW.out.size)))
   have C2:Hid (∀ dq os,Calls Tryz.prog 64 #[.agg #[.int .i64 a2.op,.int .i64 a2.num,.string a2.name,.slice a2.ptr (len k2) a2.cap]] (Sort.grow (redrawn w0 dq) os) fun e w''=>e=.returned (.string rI2)∧∃ p:Regrown,w''=Sort.grow (redrawn w0 p.d) p.os):=fun dq os=>Calls.regrown_of (I2.out _ (BW.out.trans ((below_regrown w0 dq os).mono BW.out.size)))
   have CO:Hid (∀ dq os,Calls Tryz.prog 65 #[.int .i64 8] (Sort.grow (redrawn w0 dq) os) fun e w''=>e=.returned (.string ro)∧∃ p:Regrown,w''=Sort.grow (redrawn w0 p.d) p.os):=fun dq os=>Calls.regrown_of ((OP.out _).mono fun e w' q=>⟨q.1,q.2 ▸ Below.refl _ _⟩)
   have e0:=fun d os=>cell_regrown P0.out d os
   have e3:=fun d os=>cell_regrown P3.out d os
   have f10:=fun d os=>cell_regrown D10.out d os
   have f11:=fun d os=>cell_regrown D11.out d os
   have f12:=fun d os=>cell_regrown D12.out d os
   have f13:=fun d os=>cell_regrown D13.out d os
   have f20:=fun d os=>cell_regrown D20.out d os
   have f21:=fun d os=>cell_regrown D21.out d os
   have f22:=fun d os=>cell_regrown D22.out d os
   have f23:=fun d os=>cell_regrown D23.out d os
   refine wp_region_quiet_below (by kernel_rfl) (by kernel_rfl) ?_
   have z0:¬ 9223372036854775807 < rI1.size+1:=by omega
   have z1:¬ 9223372036854775806 < rI1.size:=by omega
   have z2:¬ 9223372036854775807 < rI1.size+1+ro.size:=by omega
   have z3:¬ 9223372036854775807 < rI1.size+1+ro.size+1:=by omega
   have z4:¬ 9223372036854775806 < rI1.size+1+ro.size:=by omega
   have z5:¬ 9223372036854775807 < rI1.size+1+ro.size+1+rI2.size:=by omega
   repeat (quiet_step (first|with_reducible exact C1.out _ _|with_reducible exact C2.out _ _|with_reducible exact CO.out _ _))
   refine wpQuiet_nil ?_
   intro _ hw'
   obtain ⟨⟨dq,osq⟩,hw''⟩:=hw'
   subst hw''
   have hb:=below_regrown w0 dq osq
   have B1:=Lib.hid (BW.out.trans (hb.mono BW.out.size))
   clear hb e0 e3 z0 z1 z2 z3 z4 z5 f10 f11 f12 f13 f20 f21 f22 f23
   generalize Sort.grow (redrawn w0 dq) osq=w1 at *
   go_wp2
   go_ret
   exact ⟨rfl,B1.out⟩
 · have E:Hid (Fp.tB (Fp.I ⟨b1,o1,a1,k1⟩)++⟨#[32]⟩++(Fp.opW 9).text++⟨#[32]⟩++Fp.tB (Fp.I ⟨b2,o2,a2,k2⟩)=Fp.tB (Fp.F ⟨b,o,⟨9,num,name,some ⟨b,o,none⟩,cap⟩,(.node b1 o1 a1 k1 (.node b2 o2 a2 k2 .nil))⟩)):=by
    apply Fp.ba_eq
    refine Eq.trans ?_ (Fp.bbin (c:=⟨b,o,⟨9,num,name,some ⟨b,o,none⟩,cap⟩,(.node b1 o1 a1 k1 (.node b2 o2 a2 k2 .nil))⟩) ⟨b1,o1,a1,k1⟩ ⟨b2,o2,a2,k2⟩ (by dsimp only;omega) rfl (HF.out ⟨b2,o2,a2,k2⟩ (by simp [Fp.kl]))).symm
    simp only [app_list,Fp.tB_list,List.append_assoc,List.cons_append,List.nil_append]
    rfl
   show Calls Tryz.prog 27 #[.agg #[.int .i64 9,.int .i64 num,.string name,.slice (some ⟨b,o,none⟩) 2 cap]] w _
   rw [← E.out]
   clear E HF
   generalize Fp.tB (Fp.I ⟨b1,o1,a1,k1⟩)=rI1 at *
   generalize Fp.tB (Fp.I ⟨b2,o2,a2,k2⟩)=rI2 at *
   have B0:Below w.heap.size w (w.alloc (.cells #[.int .i64 9,.int .i64 num,.string name,.slice (some ⟨b,o,none⟩) 2 cap] 24)):=(Below.refl _ _).alloc (Nat.le_refl _) _
   obtain ⟨⟨d10,d11,d12,d13⟩,-,-,⟨d20,d21,d22,d23⟩,-,-,-⟩:=HX.out.next B0
   clear HX
   have p0:(w.alloc (.cells #[.int .i64 9,.int .i64 num,.string name,.slice (some ⟨b,o,none⟩) 2 cap] 24)).cell? ⟨w.heap.size,0,none⟩=some (.int .i64 9):=by simp [go_sem]
   have p3:(w.alloc (.cells #[.int .i64 9,.int .i64 num,.string name,.slice (some ⟨b,o,none⟩) 2 cap] 24)).cell? ⟨w.heap.size,3,none⟩=some (.slice (some ⟨b,o,none⟩) 2 cap):=by simp [go_sem]
   have P0:=Lib.hid p0
   have P3:=Lib.hid p3
   clear p0 p3
   have D10:=Lib.hid d10
   have D11:=Lib.hid d11
   have D12:=Lib.hid d12
   have D13:=Lib.hid d13
   have D20:=Lib.hid d20
   have D21:=Lib.hid d21
   have D22:=Lib.hid d22
   have D23:=Lib.hid d23
   clear d10 d11 d12 d13 d20 d21 d22 d23
   have BW:=Lib.hid B0
   clear B0
   have OP:Hid (∀ W,Calls Tryz.prog 65 #[.int .i64 9] W fun e w'=>e=.returned (.string (Fp.opW 9).text)∧W=w'):=fun W=>pop_any 9 W (by unfold Fp.bin;omega)
   have ho:(Fp.opW 9).text.size≤7:=by decide
   generalize (Fp.opW 9).text=ro at *
   go_enter Tryz.func27,Tryz.ntmps27
   go_upto_region 31 with (fail)
   generalize (w.alloc (.cells #[.int .i64 9,.int .i64 num,.string name,.slice (some ⟨b,o,none⟩) 2 cap] 24))=w0 at *
   have C1:Hid (∀ dq os,Calls Tryz.prog 64 #[.agg #[.int .i64 a1.op,.int .i64 a1.num,.string a1.name,.slice a1.ptr (len k1) a1.cap]] (Sort.grow (redrawn w0 dq) os) fun e w''=>e=.returned (.string rI1)∧∃ p:Regrown,w''=Sort.grow (redrawn w0 p.d) p.os):=fun dq os=>Calls.regrown_of (I1.out _ (BW.out.trans ((below_regrown w0 dq os).mono BW.out.size)))
   have C2:Hid (∀ dq os,Calls Tryz.prog 64 #[.agg #[.int .i64 a2.op,.int .i64 a2.num,.string a2.name,.slice a2.ptr (len k2) a2.cap]] (Sort.grow (redrawn w0 dq) os) fun e w''=>e=.returned (.string rI2)∧∃ p:Regrown,w''=Sort.grow (redrawn w0 p.d) p.os):=fun dq os=>Calls.regrown_of (I2.out _ (BW.out.trans ((below_regrown w0 dq os).mono BW.out.size)))
   have CO:Hid (∀ dq os,Calls Tryz.prog 65 #[.int .i64 9] (Sort.grow (redrawn w0 dq) os) fun e w''=>e=.returned (.string ro)∧∃ p:Regrown,w''=Sort.grow (redrawn w0 p.d) p.os):=fun dq os=>Calls.regrown_of ((OP.out _).mono fun e w' q=>⟨q.1,q.2 ▸ Below.refl _ _⟩)
   have e0:=fun d os=>cell_regrown P0.out d os
   have e3:=fun d os=>cell_regrown P3.out d os
   have f10:=fun d os=>cell_regrown D10.out d os
   have f11:=fun d os=>cell_regrown D11.out d os
   have f12:=fun d os=>cell_regrown D12.out d os
   have f13:=fun d os=>cell_regrown D13.out d os
   have f20:=fun d os=>cell_regrown D20.out d os
   have f21:=fun d os=>cell_regrown D21.out d os
   have f22:=fun d os=>cell_regrown D22.out d os
   have f23:=fun d os=>cell_regrown D23.out d os
   refine wp_region_quiet_below (by kernel_rfl) (by kernel_rfl) ?_
   have z0:¬ 9223372036854775807 < rI1.size+1:=by omega
   have z1:¬ 9223372036854775806 < rI1.size:=by omega
   have z2:¬ 9223372036854775807 < rI1.size+1+ro.size:=by omega
   have z3:¬ 9223372036854775807 < rI1.size+1+ro.size+1:=by omega
   have z4:¬ 9223372036854775806 < rI1.size+1+ro.size:=by omega
   have z5:¬ 9223372036854775807 < rI1.size+1+ro.size+1+rI2.size:=by omega
   repeat (quiet_step (first|with_reducible exact C1.out _ _|with_reducible exact C2.out _ _|with_reducible exact CO.out _ _))
   refine wpQuiet_nil ?_
   intro _ hw'
   obtain ⟨⟨dq,osq⟩,hw''⟩:=hw'
   subst hw''
   have hb:=below_regrown w0 dq osq
   have B1:=Lib.hid (BW.out.trans (hb.mono BW.out.size))
   clear hb e0 e3 z0 z1 z2 z3 z4 z5 f10 f11 f12 f13 f20 f21 f22 f23
   generalize Sort.grow (redrawn w0 dq) osq=w1 at *
   go_wp2
   go_ret
   exact ⟨rfl,B1.out⟩
 · have E:Hid (Fp.tB (Fp.I ⟨b1,o1,a1,k1⟩)++⟨#[32]⟩++(Fp.opW 10).text++⟨#[32]⟩++Fp.tB (Fp.I ⟨b2,o2,a2,k2⟩)=Fp.tB (Fp.F ⟨b,o,⟨10,num,name,some ⟨b,o,none⟩,cap⟩,(.node b1 o1 a1 k1 (.node b2 o2 a2 k2 .nil))⟩)):=by
    apply Fp.ba_eq
    refine Eq.trans ?_ (Fp.bbin (c:=⟨b,o,⟨10,num,name,some ⟨b,o,none⟩,cap⟩,(.node b1 o1 a1 k1 (.node b2 o2 a2 k2 .nil))⟩) ⟨b1,o1,a1,k1⟩ ⟨b2,o2,a2,k2⟩ (by dsimp only;omega) rfl (HF.out ⟨b2,o2,a2,k2⟩ (by simp [Fp.kl]))).symm
    simp only [app_list,Fp.tB_list,List.append_assoc,List.cons_append,List.nil_append]
    rfl
   show Calls Tryz.prog 27 #[.agg #[.int .i64 10,.int .i64 num,.string name,.slice (some ⟨b,o,none⟩) 2 cap]] w _
   rw [← E.out]
   clear E HF
   generalize Fp.tB (Fp.I ⟨b1,o1,a1,k1⟩)=rI1 at *
   generalize Fp.tB (Fp.I ⟨b2,o2,a2,k2⟩)=rI2 at *
   have B0:Below w.heap.size w (w.alloc (.cells #[.int .i64 10,.int .i64 num,.string name,.slice (some ⟨b,o,none⟩) 2 cap] 24)):=(Below.refl _ _).alloc (Nat.le_refl _) _
   obtain ⟨⟨d10,d11,d12,d13⟩,-,-,⟨d20,d21,d22,d23⟩,-,-,-⟩:=HX.out.next B0
   clear HX
   have p0:(w.alloc (.cells #[.int .i64 10,.int .i64 num,.string name,.slice (some ⟨b,o,none⟩) 2 cap] 24)).cell? ⟨w.heap.size,0,none⟩=some (.int .i64 10):=by simp [go_sem]
   have p3:(w.alloc (.cells #[.int .i64 10,.int .i64 num,.string name,.slice (some ⟨b,o,none⟩) 2 cap] 24)).cell? ⟨w.heap.size,3,none⟩=some (.slice (some ⟨b,o,none⟩) 2 cap):=by simp [go_sem]
   have P0:=Lib.hid p0
   have P3:=Lib.hid p3
   clear p0 p3
   have D10:=Lib.hid d10
   have D11:=Lib.hid d11
   have D12:=Lib.hid d12
   have D13:=Lib.hid d13
   have D20:=Lib.hid d20
   have D21:=Lib.hid d21
   have D22:=Lib.hid d22
   have D23:=Lib.hid d23
   clear d10 d11 d12 d13 d20 d21 d22 d23
   have BW:=Lib.hid B0
   clear B0
   have OP:Hid (∀ W,Calls Tryz.prog 65 #[.int .i64 10] W fun e w'=>e=.returned (.string (Fp.opW 10).text)∧W=w'):=fun W=>pop_any 10 W (by unfold Fp.bin;omega)
   have ho:(Fp.opW 10).text.size≤7:=by decide
   generalize (Fp.opW 10).text=ro at *
   go_enter Tryz.func27,Tryz.ntmps27
   go_upto_region 31 with (fail)
   generalize (w.alloc (.cells #[.int .i64 10,.int .i64 num,.string name,.slice (some ⟨b,o,none⟩) 2 cap] 24))=w0 at *
   have C1:Hid (∀ dq os,Calls Tryz.prog 64 #[.agg #[.int .i64 a1.op,.int .i64 a1.num,.string a1.name,.slice a1.ptr (len k1) a1.cap]] (Sort.grow (redrawn w0 dq) os) fun e w''=>e=.returned (.string rI1)∧∃ p:Regrown,w''=Sort.grow (redrawn w0 p.d) p.os):=fun dq os=>Calls.regrown_of (I1.out _ (BW.out.trans ((below_regrown w0 dq os).mono BW.out.size)))
   have C2:Hid (∀ dq os,Calls Tryz.prog 64 #[.agg #[.int .i64 a2.op,.int .i64 a2.num,.string a2.name,.slice a2.ptr (len k2) a2.cap]] (Sort.grow (redrawn w0 dq) os) fun e w''=>e=.returned (.string rI2)∧∃ p:Regrown,w''=Sort.grow (redrawn w0 p.d) p.os):=fun dq os=>Calls.regrown_of (I2.out _ (BW.out.trans ((below_regrown w0 dq os).mono BW.out.size)))
   have CO:Hid (∀ dq os,Calls Tryz.prog 65 #[.int .i64 10] (Sort.grow (redrawn w0 dq) os) fun e w''=>e=.returned (.string ro)∧∃ p:Regrown,w''=Sort.grow (redrawn w0 p.d) p.os):=fun dq os=>Calls.regrown_of ((OP.out _).mono fun e w' q=>⟨q.1,q.2 ▸ Below.refl _ _⟩)
   have e0:=fun d os=>cell_regrown P0.out d os
   have e3:=fun d os=>cell_regrown P3.out d os
   have f10:=fun d os=>cell_regrown D10.out d os
   have f11:=fun d os=>cell_regrown D11.out d os
   have f12:=fun d os=>cell_regrown D12.out d os
   have f13:=fun d os=>cell_regrown D13.out d os
   have f20:=fun d os=>cell_regrown D20.out d os
   have f21:=fun d os=>cell_regrown D21.out d os
   have f22:=fun d os=>cell_regrown D22.out d os
   have f23:=fun d os=>cell_regrown D23.out d os
   refine wp_region_quiet_below (by kernel_rfl) (by kernel_rfl) ?_
   have z0:¬ 9223372036854775807 < rI1.size+1:=by omega
   have z1:¬ 9223372036854775806 < rI1.size:=by omega
   have z2:¬ 9223372036854775807 < rI1.size+1+ro.size:=by omega
   have z3:¬ 9223372036854775807 < rI1.size+1+ro.size+1:=by omega
   have z4:¬ 9223372036854775806 < rI1.size+1+ro.size:=by omega
   have z5:¬ 9223372036854775807 < rI1.size+1+ro.size+1+rI2.size:=by omega
   repeat (quiet_step (first|with_reducible exact C1.out _ _|with_reducible exact C2.out _ _|with_reducible exact CO.out _ _))
   refine wpQuiet_nil ?_
   intro _ hw'
   obtain ⟨⟨dq,osq⟩,hw''⟩:=hw'
   subst hw''
   have hb:=below_regrown w0 dq osq
   have B1:=Lib.hid (BW.out.trans (hb.mono BW.out.size))
   clear hb e0 e3 z0 z1 z2 z3 z4 z5 f10 f11 f12 f13 f20 f21 f22 f23
   generalize Sort.grow (redrawn w0 dq) osq=w1 at *
   go_wp2
   go_ret
   exact ⟨rfl,B1.out⟩
 · have E:Hid (Fp.tB (Fp.I ⟨b1,o1,a1,k1⟩)++⟨#[32]⟩++(Fp.opW 11).text++⟨#[32]⟩++Fp.tB (Fp.I ⟨b2,o2,a2,k2⟩)=Fp.tB (Fp.F ⟨b,o,⟨11,num,name,some ⟨b,o,none⟩,cap⟩,(.node b1 o1 a1 k1 (.node b2 o2 a2 k2 .nil))⟩)):=by
    apply Fp.ba_eq
    refine Eq.trans ?_ (Fp.bbin (c:=⟨b,o,⟨11,num,name,some ⟨b,o,none⟩,cap⟩,(.node b1 o1 a1 k1 (.node b2 o2 a2 k2 .nil))⟩) ⟨b1,o1,a1,k1⟩ ⟨b2,o2,a2,k2⟩ (by dsimp only;omega) rfl (HF.out ⟨b2,o2,a2,k2⟩ (by simp [Fp.kl]))).symm
    simp only [app_list,Fp.tB_list,List.append_assoc,List.cons_append,List.nil_append]
    rfl
   show Calls Tryz.prog 27 #[.agg #[.int .i64 11,.int .i64 num,.string name,.slice (some ⟨b,o,none⟩) 2 cap]] w _
   rw [← E.out]
   clear E HF
   generalize Fp.tB (Fp.I ⟨b1,o1,a1,k1⟩)=rI1 at *
   generalize Fp.tB (Fp.I ⟨b2,o2,a2,k2⟩)=rI2 at *
   have B0:Below w.heap.size w (w.alloc (.cells #[.int .i64 11,.int .i64 num,.string name,.slice (some ⟨b,o,none⟩) 2 cap] 24)):=(Below.refl _ _).alloc (Nat.le_refl _) _
   obtain ⟨⟨d10,d11,d12,d13⟩,-,-,⟨d20,d21,d22,d23⟩,-,-,-⟩:=HX.out.next B0
   clear HX
   have p0:(w.alloc (.cells #[.int .i64 11,.int .i64 num,.string name,.slice (some ⟨b,o,none⟩) 2 cap] 24)).cell? ⟨w.heap.size,0,none⟩=some (.int .i64 11):=by simp [go_sem]
   have p3:(w.alloc (.cells #[.int .i64 11,.int .i64 num,.string name,.slice (some ⟨b,o,none⟩) 2 cap] 24)).cell? ⟨w.heap.size,3,none⟩=some (.slice (some ⟨b,o,none⟩) 2 cap):=by simp [go_sem]
   have P0:=Lib.hid p0
   have P3:=Lib.hid p3
   clear p0 p3
   have D10:=Lib.hid d10
   have D11:=Lib.hid d11
   have D12:=Lib.hid d12
   have D13:=Lib.hid d13
   have D20:=Lib.hid d20
   have D21:=Lib.hid d21
   have D22:=Lib.hid d22
   have D23:=Lib.hid d23
   clear d10 d11 d12 d13 d20 d21 d22 d23
   have BW:=Lib.hid B0
   clear B0
   have OP:Hid (∀ W,Calls Tryz.prog 65 #[.int .i64 11] W fun e w'=>e=.returned (.string (Fp.opW 11).text)∧W=w'):=fun W=>pop_any 11 W (by unfold Fp.bin;omega)
   have ho:(Fp.opW 11).text.size≤7:=by decide
   generalize (Fp.opW 11).text=ro at *
   go_enter Tryz.func27,Tryz.ntmps27
   go_upto_region 31 with (fail)
   generalize (w.alloc (.cells #[.int .i64 11,.int .i64 num,.string name,.slice (some ⟨b,o,none⟩) 2 cap] 24))=w0 at *
   have C1:Hid (∀ dq os,Calls Tryz.prog 64 #[.agg #[.int .i64 a1.op,.int .i64 a1.num,.string a1.name,.slice a1.ptr (len k1) a1.cap]] (Sort.grow (redrawn w0 dq) os) fun e w''=>e=.returned (.string rI1)∧∃ p:Regrown,w''=Sort.grow (redrawn w0 p.d) p.os):=fun dq os=>Calls.regrown_of (I1.out _ (BW.out.trans ((below_regrown w0 dq os).mono BW.out.size)))
   have C2:Hid (∀ dq os,Calls Tryz.prog 64 #[.agg #[.int .i64 a2.op,.int .i64 a2.num,.string a2.name,.slice a2.ptr (len k2) a2.cap]] (Sort.grow (redrawn w0 dq) os) fun e w''=>e=.returned (.string rI2)∧∃ p:Regrown,w''=Sort.grow (redrawn w0 p.d) p.os):=fun dq os=>Calls.regrown_of (I2.out _ (BW.out.trans ((below_regrown w0 dq os).mono BW.out.size)))
   have CO:Hid (∀ dq os,Calls Tryz.prog 65 #[.int .i64 11] (Sort.grow (redrawn w0 dq) os) fun e w''=>e=.returned (.string ro)∧∃ p:Regrown,w''=Sort.grow (redrawn w0 p.d) p.os):=fun dq os=>Calls.regrown_of ((OP.out _).mono fun e w' q=>⟨q.1,q.2 ▸ Below.refl _ _⟩)
   have e0:=fun d os=>cell_regrown P0.out d os
   have e3:=fun d os=>cell_regrown P3.out d os
   have f10:=fun d os=>cell_regrown D10.out d os
   have f11:=fun d os=>cell_regrown D11.out d os
   have f12:=fun d os=>cell_regrown D12.out d os
   have f13:=fun d os=>cell_regrown D13.out d os
   have f20:=fun d os=>cell_regrown D20.out d os
   have f21:=fun d os=>cell_regrown D21.out d os
   have f22:=fun d os=>cell_regrown D22.out d os
   have f23:=fun d os=>cell_regrown D23.out d os
   refine wp_region_quiet_below (by kernel_rfl) (by kernel_rfl) ?_
   have z0:¬ 9223372036854775807 < rI1.size+1:=by omega
   have z1:¬ 9223372036854775806 < rI1.size:=by omega
   have z2:¬ 9223372036854775807 < rI1.size+1+ro.size:=by omega
   have z3:¬ 9223372036854775807 < rI1.size+1+ro.size+1:=by omega
   have z4:¬ 9223372036854775806 < rI1.size+1+ro.size:=by omega
   have z5:¬ 9223372036854775807 < rI1.size+1+ro.size+1+rI2.size:=by omega
   repeat (quiet_step (first|with_reducible exact C1.out _ _|with_reducible exact C2.out _ _|with_reducible exact CO.out _ _))
   refine wpQuiet_nil ?_
   intro _ hw'
   obtain ⟨⟨dq,osq⟩,hw''⟩:=hw'
   subst hw''
   have hb:=below_regrown w0 dq osq
   have B1:=Lib.hid (BW.out.trans (hb.mono BW.out.size))
   clear hb e0 e3 z0 z1 z2 z3 z4 z5 f10 f11 f12 f13 f20 f21 f22 f23
   generalize Sort.grow (redrawn w0 dq) osq=w1 at *
   go_wp2
   go_ret
   exact ⟨rfl,B1.out⟩
 · have E:Hid (Fp.tB (Fp.I ⟨b1,o1,a1,k1⟩)++⟨#[32]⟩++(Fp.opW 16).text++⟨#[32]⟩++Fp.tB (Fp.I ⟨b2,o2,a2,k2⟩)=Fp.tB (Fp.F ⟨b,o,⟨16,num,name,some ⟨b,o,none⟩,cap⟩,(.node b1 o1 a1 k1 (.node b2 o2 a2 k2 .nil))⟩)):=by
    apply Fp.ba_eq
    refine Eq.trans ?_ (Fp.bbin (c:=⟨b,o,⟨16,num,name,some ⟨b,o,none⟩,cap⟩,(.node b1 o1 a1 k1 (.node b2 o2 a2 k2 .nil))⟩) ⟨b1,o1,a1,k1⟩ ⟨b2,o2,a2,k2⟩ (by dsimp only;omega) rfl (HF.out ⟨b2,o2,a2,k2⟩ (by simp [Fp.kl]))).symm
    simp only [app_list,Fp.tB_list,List.append_assoc,List.cons_append,List.nil_append]
    rfl
   show Calls Tryz.prog 27 #[.agg #[.int .i64 16,.int .i64 num,.string name,.slice (some ⟨b,o,none⟩) 2 cap]] w _
   rw [← E.out]
   clear E HF
   generalize Fp.tB (Fp.I ⟨b1,o1,a1,k1⟩)=rI1 at *
   generalize Fp.tB (Fp.I ⟨b2,o2,a2,k2⟩)=rI2 at *
   have B0:Below w.heap.size w (w.alloc (.cells #[.int .i64 16,.int .i64 num,.string name,.slice (some ⟨b,o,none⟩) 2 cap] 24)):=(Below.refl _ _).alloc (Nat.le_refl _) _
   obtain ⟨⟨d10,d11,d12,d13⟩,-,-,⟨d20,d21,d22,d23⟩,-,-,-⟩:=HX.out.next B0
   clear HX
   have p0:(w.alloc (.cells #[.int .i64 16,.int .i64 num,.string name,.slice (some ⟨b,o,none⟩) 2 cap] 24)).cell? ⟨w.heap.size,0,none⟩=some (.int .i64 16):=by simp [go_sem]
   have p3:(w.alloc (.cells #[.int .i64 16,.int .i64 num,.string name,.slice (some ⟨b,o,none⟩) 2 cap] 24)).cell? ⟨w.heap.size,3,none⟩=some (.slice (some ⟨b,o,none⟩) 2 cap):=by simp [go_sem]
   have P0:=Lib.hid p0
   have P3:=Lib.hid p3
   clear p0 p3
   have D10:=Lib.hid d10
   have D11:=Lib.hid d11
   have D12:=Lib.hid d12
   have D13:=Lib.hid d13
   have D20:=Lib.hid d20
   have D21:=Lib.hid d21
   have D22:=Lib.hid d22
   have D23:=Lib.hid d23
   clear d10 d11 d12 d13 d20 d21 d22 d23
   have BW:=Lib.hid B0
   clear B0
   have OP:Hid (∀ W,Calls Tryz.prog 65 #[.int .i64 16] W fun e w'=>e=.returned (.string (Fp.opW 16).text)∧W=w'):=fun W=>pop_any 16 W (by unfold Fp.bin;omega)
   have ho:(Fp.opW 16).text.size≤7:=by decide
   generalize (Fp.opW 16).text=ro at *
   go_enter Tryz.func27,Tryz.ntmps27
   go_upto_region 31 with (fail)
   generalize (w.alloc (.cells #[.int .i64 16,.int .i64 num,.string name,.slice (some ⟨b,o,none⟩) 2 cap] 24))=w0 at *
   have C1:Hid (∀ dq os,Calls Tryz.prog 64 #[.agg #[.int .i64 a1.op,.int .i64 a1.num,.string a1.name,.slice a1.ptr (len k1) a1.cap]] (Sort.grow (redrawn w0 dq) os) fun e w''=>e=.returned (.string rI1)∧∃ p:Regrown,w''=Sort.grow (redrawn w0 p.d) p.os):=fun dq os=>Calls.regrown_of (I1.out _ (BW.out.trans ((below_regrown w0 dq os).mono BW.out.size)))
   have C2:Hid (∀ dq os,Calls Tryz.prog 64 #[.agg #[.int .i64 a2.op,.int .i64 a2.num,.string a2.name,.slice a2.ptr (len k2) a2.cap]] (Sort.grow (redrawn w0 dq) os) fun e w''=>e=.returned (.string rI2)∧∃ p:Regrown,w''=Sort.grow (redrawn w0 p.d) p.os):=fun dq os=>Calls.regrown_of (I2.out _ (BW.out.trans ((below_regrown w0 dq os).mono BW.out.size)))
   have CO:Hid (∀ dq os,Calls Tryz.prog 65 #[.int .i64 16] (Sort.grow (redrawn w0 dq) os) fun e w''=>e=.returned (.string ro)∧∃ p:Regrown,w''=Sort.grow (redrawn w0 p.d) p.os):=fun dq os=>Calls.regrown_of ((OP.out _).mono fun e w' q=>⟨q.1,q.2 ▸ Below.refl _ _⟩)
   have e0:=fun d os=>cell_regrown P0.out d os
   have e3:=fun d os=>cell_regrown P3.out d os
   have f10:=fun d os=>cell_regrown D10.out d os
   have f11:=fun d os=>cell_regrown D11.out d os
   have f12:=fun d os=>cell_regrown D12.out d os
   have f13:=fun d os=>cell_regrown D13.out d os
   have f20:=fun d os=>cell_regrown D20.out d os
   have f21:=fun d os=>cell_regrown D21.out d os
   have f22:=fun d os=>cell_regrown D22.out d os
   have f23:=fun d os=>cell_regrown D23.out d os
   refine wp_region_quiet_below (by kernel_rfl) (by kernel_rfl) ?_
   have z0:¬ 9223372036854775807 < rI1.size+1:=by omega
   have z1:¬ 9223372036854775806 < rI1.size:=by omega
   have z2:¬ 9223372036854775807 < rI1.size+1+ro.size:=by omega
   have z3:¬ 9223372036854775807 < rI1.size+1+ro.size+1:=by omega
   have z4:¬ 9223372036854775806 < rI1.size+1+ro.size:=by omega
   have z5:¬ 9223372036854775807 < rI1.size+1+ro.size+1+rI2.size:=by omega
   repeat (quiet_step (first|with_reducible exact C1.out _ _|with_reducible exact C2.out _ _|with_reducible exact CO.out _ _))
   refine wpQuiet_nil ?_
   intro _ hw'
   obtain ⟨⟨dq,osq⟩,hw''⟩:=hw'
   subst hw''
   have hb:=below_regrown w0 dq osq
   have B1:=Lib.hid (BW.out.trans (hb.mono BW.out.size))
   clear hb e0 e3 z0 z1 z2 z3 z4 z5 f10 f11 f12 f13 f20 f21 f22 f23
   generalize Sort.grow (redrawn w0 dq) osq=w1 at *
   go_wp2
   go_ret
   exact ⟨rfl,B1.out⟩
 · have E:Hid (Fp.tB (Fp.I ⟨b1,o1,a1,k1⟩)++⟨#[32]⟩++(Fp.opW 17).text++⟨#[32]⟩++Fp.tB (Fp.I ⟨b2,o2,a2,k2⟩)=Fp.tB (Fp.F ⟨b,o,⟨17,num,name,some ⟨b,o,none⟩,cap⟩,(.node b1 o1 a1 k1 (.node b2 o2 a2 k2 .nil))⟩)):=by
    apply Fp.ba_eq
    refine Eq.trans ?_ (Fp.bbin (c:=⟨b,o,⟨17,num,name,some ⟨b,o,none⟩,cap⟩,(.node b1 o1 a1 k1 (.node b2 o2 a2 k2 .nil))⟩) ⟨b1,o1,a1,k1⟩ ⟨b2,o2,a2,k2⟩ (by dsimp only;omega) rfl (HF.out ⟨b2,o2,a2,k2⟩ (by simp [Fp.kl]))).symm
    simp only [app_list,Fp.tB_list,List.append_assoc,List.cons_append,List.nil_append]
    rfl
   show Calls Tryz.prog 27 #[.agg #[.int .i64 17,.int .i64 num,.string name,.slice (some ⟨b,o,none⟩) 2 cap]] w _
   rw [← E.out]
   clear E HF
   generalize Fp.tB (Fp.I ⟨b1,o1,a1,k1⟩)=rI1 at *
   generalize Fp.tB (Fp.I ⟨b2,o2,a2,k2⟩)=rI2 at *
   have B0:Below w.heap.size w (w.alloc (.cells #[.int .i64 17,.int .i64 num,.string name,.slice (some ⟨b,o,none⟩) 2 cap] 24)):=(Below.refl _ _).alloc (Nat.le_refl _) _
   obtain ⟨⟨d10,d11,d12,d13⟩,-,-,⟨d20,d21,d22,d23⟩,-,-,-⟩:=HX.out.next B0
   clear HX
   have p0:(w.alloc (.cells #[.int .i64 17,.int .i64 num,.string name,.slice (some ⟨b,o,none⟩) 2 cap] 24)).cell? ⟨w.heap.size,0,none⟩=some (.int .i64 17):=by simp [go_sem]
   have p3:(w.alloc (.cells #[.int .i64 17,.int .i64 num,.string name,.slice (some ⟨b,o,none⟩) 2 cap] 24)).cell? ⟨w.heap.size,3,none⟩=some (.slice (some ⟨b,o,none⟩) 2 cap):=by simp [go_sem]
   have P0:=Lib.hid p0
   have P3:=Lib.hid p3
   clear p0 p3
   have D10:=Lib.hid d10
   have D11:=Lib.hid d11
   have D12:=Lib.hid d12
   have D13:=Lib.hid d13
   have D20:=Lib.hid d20
   have D21:=Lib.hid d21
   have D22:=Lib.hid d22
   have D23:=Lib.hid d23
   clear d10 d11 d12 d13 d20 d21 d22 d23
   have BW:=Lib.hid B0
   clear B0
   have OP:Hid (∀ W,Calls Tryz.prog 65 #[.int .i64 17] W fun e w'=>e=.returned (.string (Fp.opW 17).text)∧W=w'):=fun W=>pop_any 17 W (by unfold Fp.bin;omega)
   have ho:(Fp.opW 17).text.size≤7:=by decide
   generalize (Fp.opW 17).text=ro at *
   go_enter Tryz.func27,Tryz.ntmps27
   go_upto_region 31 with (fail)
   generalize (w.alloc (.cells #[.int .i64 17,.int .i64 num,.string name,.slice (some ⟨b,o,none⟩) 2 cap] 24))=w0 at *
   have C1:Hid (∀ dq os,Calls Tryz.prog 64 #[.agg #[.int .i64 a1.op,.int .i64 a1.num,.string a1.name,.slice a1.ptr (len k1) a1.cap]] (Sort.grow (redrawn w0 dq) os) fun e w''=>e=.returned (.string rI1)∧∃ p:Regrown,w''=Sort.grow (redrawn w0 p.d) p.os):=fun dq os=>Calls.regrown_of (I1.out _ (BW.out.trans ((below_regrown w0 dq os).mono BW.out.size)))
   have C2:Hid (∀ dq os,Calls Tryz.prog 64 #[.agg #[.int .i64 a2.op,.int .i64 a2.num,.string a2.name,.slice a2.ptr (len k2) a2.cap]] (Sort.grow (redrawn w0 dq) os) fun e w''=>e=.returned (.string rI2)∧∃ p:Regrown,w''=Sort.grow (redrawn w0 p.d) p.os):=fun dq os=>Calls.regrown_of (I2.out _ (BW.out.trans ((below_regrown w0 dq os).mono BW.out.size)))
   have CO:Hid (∀ dq os,Calls Tryz.prog 65 #[.int .i64 17] (Sort.grow (redrawn w0 dq) os) fun e w''=>e=.returned (.string ro)∧∃ p:Regrown,w''=Sort.grow (redrawn w0 p.d) p.os):=fun dq os=>Calls.regrown_of ((OP.out _).mono fun e w' q=>⟨q.1,q.2 ▸ Below.refl _ _⟩)
   have e0:=fun d os=>cell_regrown P0.out d os
   have e3:=fun d os=>cell_regrown P3.out d os
   have f10:=fun d os=>cell_regrown D10.out d os
   have f11:=fun d os=>cell_regrown D11.out d os
   have f12:=fun d os=>cell_regrown D12.out d os
   have f13:=fun d os=>cell_regrown D13.out d os
   have f20:=fun d os=>cell_regrown D20.out d os
   have f21:=fun d os=>cell_regrown D21.out d os
   have f22:=fun d os=>cell_regrown D22.out d os
   have f23:=fun d os=>cell_regrown D23.out d os
   refine wp_region_quiet_below (by kernel_rfl) (by kernel_rfl) ?_
   have z0:¬ 9223372036854775807 < rI1.size+1:=by omega
   have z1:¬ 9223372036854775806 < rI1.size:=by omega
   have z2:¬ 9223372036854775807 < rI1.size+1+ro.size:=by omega
   have z3:¬ 9223372036854775807 < rI1.size+1+ro.size+1:=by omega
   have z4:¬ 9223372036854775806 < rI1.size+1+ro.size:=by omega
   have z5:¬ 9223372036854775807 < rI1.size+1+ro.size+1+rI2.size:=by omega
   repeat (quiet_step (first|with_reducible exact C1.out _ _|with_reducible exact C2.out _ _|with_reducible exact CO.out _ _))
   refine wpQuiet_nil ?_
   intro _ hw'
   obtain ⟨⟨dq,osq⟩,hw''⟩:=hw'
   subst hw''
   have hb:=below_regrown w0 dq osq
   have B1:=Lib.hid (BW.out.trans (hb.mono BW.out.size))
   clear hb e0 e3 z0 z1 z2 z3 z4 z5 f10 f11 f12 f13 f20 f21 f22 f23
   generalize Sort.grow (redrawn w0 dq) osq=w1 at *
   go_wp2
   go_ret
   exact ⟨rfl,B1.out⟩
 · have E:Hid (Fp.tB (Fp.I ⟨b1,o1,a1,k1⟩)++⟨#[32]⟩++(Fp.opW 18).text++⟨#[32]⟩++Fp.tB (Fp.I ⟨b2,o2,a2,k2⟩)=Fp.tB (Fp.F ⟨b,o,⟨18,num,name,some ⟨b,o,none⟩,cap⟩,(.node b1 o1 a1 k1 (.node b2 o2 a2 k2 .nil))⟩)):=by
    apply Fp.ba_eq
    refine Eq.trans ?_ (Fp.bbin (c:=⟨b,o,⟨18,num,name,some ⟨b,o,none⟩,cap⟩,(.node b1 o1 a1 k1 (.node b2 o2 a2 k2 .nil))⟩) ⟨b1,o1,a1,k1⟩ ⟨b2,o2,a2,k2⟩ (by dsimp only;omega) rfl (HF.out ⟨b2,o2,a2,k2⟩ (by simp [Fp.kl]))).symm
    simp only [app_list,Fp.tB_list,List.append_assoc,List.cons_append,List.nil_append]
    rfl
   show Calls Tryz.prog 27 #[.agg #[.int .i64 18,.int .i64 num,.string name,.slice (some ⟨b,o,none⟩) 2 cap]] w _
   rw [← E.out]
   clear E HF
   generalize Fp.tB (Fp.I ⟨b1,o1,a1,k1⟩)=rI1 at *
   generalize Fp.tB (Fp.I ⟨b2,o2,a2,k2⟩)=rI2 at *
   have B0:Below w.heap.size w (w.alloc (.cells #[.int .i64 18,.int .i64 num,.string name,.slice (some ⟨b,o,none⟩) 2 cap] 24)):=(Below.refl _ _).alloc (Nat.le_refl _) _
   obtain ⟨⟨d10,d11,d12,d13⟩,-,-,⟨d20,d21,d22,d23⟩,-,-,-⟩:=HX.out.next B0
   clear HX
   have p0:(w.alloc (.cells #[.int .i64 18,.int .i64 num,.string name,.slice (some ⟨b,o,none⟩) 2 cap] 24)).cell? ⟨w.heap.size,0,none⟩=some (.int .i64 18):=by simp [go_sem]
   have p3:(w.alloc (.cells #[.int .i64 18,.int .i64 num,.string name,.slice (some ⟨b,o,none⟩) 2 cap] 24)).cell? ⟨w.heap.size,3,none⟩=some (.slice (some ⟨b,o,none⟩) 2 cap):=by simp [go_sem]
   have P0:=Lib.hid p0
   have P3:=Lib.hid p3
   clear p0 p3
   have D10:=Lib.hid d10
   have D11:=Lib.hid d11
   have D12:=Lib.hid d12
   have D13:=Lib.hid d13
   have D20:=Lib.hid d20
   have D21:=Lib.hid d21
   have D22:=Lib.hid d22
   have D23:=Lib.hid d23
   clear d10 d11 d12 d13 d20 d21 d22 d23
   have BW:=Lib.hid B0
   clear B0
   have OP:Hid (∀ W,Calls Tryz.prog 65 #[.int .i64 18] W fun e w'=>e=.returned (.string (Fp.opW 18).text)∧W=w'):=fun W=>pop_any 18 W (by unfold Fp.bin;omega)
   have ho:(Fp.opW 18).text.size≤7:=by decide
   generalize (Fp.opW 18).text=ro at *
   go_enter Tryz.func27,Tryz.ntmps27
   go_upto_region 31 with (fail)
   generalize (w.alloc (.cells #[.int .i64 18,.int .i64 num,.string name,.slice (some ⟨b,o,none⟩) 2 cap] 24))=w0 at *
   have C1:Hid (∀ dq os,Calls Tryz.prog 64 #[.agg #[.int .i64 a1.op,.int .i64 a1.num,.string a1.name,.slice a1.ptr (len k1) a1.cap]] (Sort.grow (redrawn w0 dq) os) fun e w''=>e=.returned (.string rI1)∧∃ p:Regrown,w''=Sort.grow (redrawn w0 p.d) p.os):=fun dq os=>Calls.regrown_of (I1.out _ (BW.out.trans ((below_regrown w0 dq os).mono BW.out.size)))
   have C2:Hid (∀ dq os,Calls Tryz.prog 64 #[.agg #[.int .i64 a2.op,.int .i64 a2.num,.string a2.name,.slice a2.ptr (len k2) a2.cap]] (Sort.grow (redrawn w0 dq) os) fun e w''=>e=.returned (.string rI2)∧∃ p:Regrown,w''=Sort.grow (redrawn w0 p.d) p.os):=fun dq os=>Calls.regrown_of (I2.out _ (BW.out.trans ((below_regrown w0 dq os).mono BW.out.size)))
   have CO:Hid (∀ dq os,Calls Tryz.prog 65 #[.int .i64 18] (Sort.grow (redrawn w0 dq) os) fun e w''=>e=.returned (.string ro)∧∃ p:Regrown,w''=Sort.grow (redrawn w0 p.d) p.os):=fun dq os=>Calls.regrown_of ((OP.out _).mono fun e w' q=>⟨q.1,q.2 ▸ Below.refl _ _⟩)
   have e0:=fun d os=>cell_regrown P0.out d os
   have e3:=fun d os=>cell_regrown P3.out d os
   have f10:=fun d os=>cell_regrown D10.out d os
   have f11:=fun d os=>cell_regrown D11.out d os
   have f12:=fun d os=>cell_regrown D12.out d os
   have f13:=fun d os=>cell_regrown D13.out d os
   have f20:=fun d os=>cell_regrown D20.out d os
   have f21:=fun d os=>cell_regrown D21.out d os
   have f22:=fun d os=>cell_regrown D22.out d os
   have f23:=fun d os=>cell_regrown D23.out d os
   refine wp_region_quiet_below (by kernel_rfl) (by kernel_rfl) ?_
   have z0:¬ 9223372036854775807 < rI1.size+1:=by omega
   have z1:¬ 9223372036854775806 < rI1.size:=by omega
   have z2:¬ 9223372036854775807 < rI1.size+1+ro.size:=by omega
   have z3:¬ 9223372036854775807 < rI1.size+1+ro.size+1:=by omega
   have z4:¬ 9223372036854775806 < rI1.size+1+ro.size:=by omega
   have z5:¬ 9223372036854775807 < rI1.size+1+ro.size+1+rI2.size:=by omega
   repeat (quiet_step (first|with_reducible exact C1.out _ _|with_reducible exact C2.out _ _|with_reducible exact CO.out _ _))
   refine wpQuiet_nil ?_
   intro _ hw'
   obtain ⟨⟨dq,osq⟩,hw''⟩:=hw'
   subst hw''
   have hb:=below_regrown w0 dq osq
   have B1:=Lib.hid (BW.out.trans (hb.mono BW.out.size))
   clear hb e0 e3 z0 z1 z2 z3 z4 z5 f10 f11 f12 f13 f20 f21 f22 f23
   generalize Sort.grow (redrawn w0 dq) osq=w1 at *
   go_wp2
   go_ret
   exact ⟨rfl,B1.out⟩
 · have E:Hid (Fp.tB (Fp.I ⟨b1,o1,a1,k1⟩)++⟨#[32]⟩++(Fp.opW 20).text++⟨#[32]⟩++Fp.tB (Fp.I ⟨b2,o2,a2,k2⟩)=Fp.tB (Fp.F ⟨b,o,⟨20,num,name,some ⟨b,o,none⟩,cap⟩,(.node b1 o1 a1 k1 (.node b2 o2 a2 k2 .nil))⟩)):=by
    apply Fp.ba_eq
    refine Eq.trans ?_ (Fp.bbin (c:=⟨b,o,⟨20,num,name,some ⟨b,o,none⟩,cap⟩,(.node b1 o1 a1 k1 (.node b2 o2 a2 k2 .nil))⟩) ⟨b1,o1,a1,k1⟩ ⟨b2,o2,a2,k2⟩ (by dsimp only;omega) rfl (HF.out ⟨b2,o2,a2,k2⟩ (by simp [Fp.kl]))).symm
    simp only [app_list,Fp.tB_list,List.append_assoc,List.cons_append,List.nil_append]
    rfl
   show Calls Tryz.prog 27 #[.agg #[.int .i64 20,.int .i64 num,.string name,.slice (some ⟨b,o,none⟩) 2 cap]] w _
   rw [← E.out]
   clear E HF
   generalize Fp.tB (Fp.I ⟨b1,o1,a1,k1⟩)=rI1 at *
   generalize Fp.tB (Fp.I ⟨b2,o2,a2,k2⟩)=rI2 at *
   have B0:Below w.heap.size w (w.alloc (.cells #[.int .i64 20,.int .i64 num,.string name,.slice (some ⟨b,o,none⟩) 2 cap] 24)):=(Below.refl _ _).alloc (Nat.le_refl _) _
   obtain ⟨⟨d10,d11,d12,d13⟩,-,-,⟨d20,d21,d22,d23⟩,-,-,-⟩:=HX.out.next B0
   clear HX
   have p0:(w.alloc (.cells #[.int .i64 20,.int .i64 num,.string name,.slice (some ⟨b,o,none⟩) 2 cap] 24)).cell? ⟨w.heap.size,0,none⟩=some (.int .i64 20):=by simp [go_sem]
   have p3:(w.alloc (.cells #[.int .i64 20,.int .i64 num,.string name,.slice (some ⟨b,o,none⟩) 2 cap] 24)).cell? ⟨w.heap.size,3,none⟩=some (.slice (some ⟨b,o,none⟩) 2 cap):=by simp [go_sem]
   have P0:=Lib.hid p0
   have P3:=Lib.hid p3
   clear p0 p3
   have D10:=Lib.hid d10
   have D11:=Lib.hid d11
   have D12:=Lib.hid d12
   have D13:=Lib.hid d13
   have D20:=Lib.hid d20
   have D21:=Lib.hid d21
   have D22:=Lib.hid d22
   have D23:=Lib.hid d23
   clear d10 d11 d12 d13 d20 d21 d22 d23
   have BW:=Lib.hid B0
   clear B0
   have OP:Hid (∀ W,Calls Tryz.prog 65 #[.int .i64 20] W fun e w'=>e=.returned (.string (Fp.opW 20).text)∧W=w'):=fun W=>pop_any 20 W (by unfold Fp.bin;omega)
   have ho:(Fp.opW 20).text.size≤7:=by decide
   generalize (Fp.opW 20).text=ro at *
   go_enter Tryz.func27,Tryz.ntmps27
   go_upto_region 31 with (fail)
   generalize (w.alloc (.cells #[.int .i64 20,.int .i64 num,.string name,.slice (some ⟨b,o,none⟩) 2 cap] 24))=w0 at *
   have C1:Hid (∀ dq os,Calls Tryz.prog 64 #[.agg #[.int .i64 a1.op,.int .i64 a1.num,.string a1.name,.slice a1.ptr (len k1) a1.cap]] (Sort.grow (redrawn w0 dq) os) fun e w''=>e=.returned (.string rI1)∧∃ p:Regrown,w''=Sort.grow (redrawn w0 p.d) p.os):=fun dq os=>Calls.regrown_of (I1.out _ (BW.out.trans ((below_regrown w0 dq os).mono BW.out.size)))
   have C2:Hid (∀ dq os,Calls Tryz.prog 64 #[.agg #[.int .i64 a2.op,.int .i64 a2.num,.string a2.name,.slice a2.ptr (len k2) a2.cap]] (Sort.grow (redrawn w0 dq) os) fun e w''=>e=.returned (.string rI2)∧∃ p:Regrown,w''=Sort.grow (redrawn w0 p.d) p.os):=fun dq os=>Calls.regrown_of (I2.out _ (BW.out.trans ((below_regrown w0 dq os).mono BW.out.size)))
   have CO:Hid (∀ dq os,Calls Tryz.prog 65 #[.int .i64 20] (Sort.grow (redrawn w0 dq) os) fun e w''=>e=.returned (.string ro)∧∃ p:Regrown,w''=Sort.grow (redrawn w0 p.d) p.os):=fun dq os=>Calls.regrown_of ((OP.out _).mono fun e w' q=>⟨q.1,q.2 ▸ Below.refl _ _⟩)
   have e0:=fun d os=>cell_regrown P0.out d os
   have e3:=fun d os=>cell_regrown P3.out d os
   have f10:=fun d os=>cell_regrown D10.out d os
   have f11:=fun d os=>cell_regrown D11.out d os
   have f12:=fun d os=>cell_regrown D12.out d os
   have f13:=fun d os=>cell_regrown D13.out d os
   have f20:=fun d os=>cell_regrown D20.out d os
   have f21:=fun d os=>cell_regrown D21.out d os
   have f22:=fun d os=>cell_regrown D22.out d os
   have f23:=fun d os=>cell_regrown D23.out d os
   refine wp_region_quiet_below (by kernel_rfl) (by kernel_rfl) ?_
   have z0:¬ 9223372036854775807 < rI1.size+1:=by omega
   have z1:¬ 9223372036854775806 < rI1.size:=by omega
   have z2:¬ 9223372036854775807 < rI1.size+1+ro.size:=by omega
   have z3:¬ 9223372036854775807 < rI1.size+1+ro.size+1:=by omega
   have z4:¬ 9223372036854775806 < rI1.size+1+ro.size:=by omega
   have z5:¬ 9223372036854775807 < rI1.size+1+ro.size+1+rI2.size:=by omega
   repeat (quiet_step (first|with_reducible exact C1.out _ _|with_reducible exact C2.out _ _|with_reducible exact CO.out _ _))
   refine wpQuiet_nil ?_
   intro _ hw'
   obtain ⟨⟨dq,osq⟩,hw''⟩:=hw'
   subst hw''
   have hb:=below_regrown w0 dq osq
   have B1:=Lib.hid (BW.out.trans (hb.mono BW.out.size))
   clear hb e0 e3 z0 z1 z2 z3 z4 z5 f10 f11 f12 f13 f20 f21 f22 f23
   generalize Sort.grow (redrawn w0 dq) osq=w1 at *
   go_wp2
   go_ret
   exact ⟨rfl,B1.out⟩
 · have E:Hid (Fp.tB (Fp.I ⟨b1,o1,a1,k1⟩)++⟨#[32]⟩++(Fp.opW 21).text++⟨#[32]⟩++Fp.tB (Fp.I ⟨b2,o2,a2,k2⟩)=Fp.tB (Fp.F ⟨b,o,⟨21,num,name,some ⟨b,o,none⟩,cap⟩,(.node b1 o1 a1 k1 (.node b2 o2 a2 k2 .nil))⟩)):=by
    apply Fp.ba_eq
    refine Eq.trans ?_ (Fp.bbin (c:=⟨b,o,⟨21,num,name,some ⟨b,o,none⟩,cap⟩,(.node b1 o1 a1 k1 (.node b2 o2 a2 k2 .nil))⟩) ⟨b1,o1,a1,k1⟩ ⟨b2,o2,a2,k2⟩ (by dsimp only;omega) rfl (HF.out ⟨b2,o2,a2,k2⟩ (by simp [Fp.kl]))).symm
    simp only [app_list,Fp.tB_list,List.append_assoc,List.cons_append,List.nil_append]
    rfl
   show Calls Tryz.prog 27 #[.agg #[.int .i64 21,.int .i64 num,.string name,.slice (some ⟨b,o,none⟩) 2 cap]] w _
   rw [← E.out]
   clear E HF
   generalize Fp.tB (Fp.I ⟨b1,o1,a1,k1⟩)=rI1 at *
   generalize Fp.tB (Fp.I ⟨b2,o2,a2,k2⟩)=rI2 at *
   have B0:Below w.heap.size w (w.alloc (.cells #[.int .i64 21,.int .i64 num,.string name,.slice (some ⟨b,o,none⟩) 2 cap] 24)):=(Below.refl _ _).alloc (Nat.le_refl _) _
   obtain ⟨⟨d10,d11,d12,d13⟩,-,-,⟨d20,d21,d22,d23⟩,-,-,-⟩:=HX.out.next B0
   clear HX
   have p0:(w.alloc (.cells #[.int .i64 21,.int .i64 num,.string name,.slice (some ⟨b,o,none⟩) 2 cap] 24)).cell? ⟨w.heap.size,0,none⟩=some (.int .i64 21):=by simp [go_sem]
   have p3:(w.alloc (.cells #[.int .i64 21,.int .i64 num,.string name,.slice (some ⟨b,o,none⟩) 2 cap] 24)).cell? ⟨w.heap.size,3,none⟩=some (.slice (some ⟨b,o,none⟩) 2 cap):=by simp [go_sem]
   have P0:=Lib.hid p0
   have P3:=Lib.hid p3
   clear p0 p3
   have D10:=Lib.hid d10
   have D11:=Lib.hid d11
   have D12:=Lib.hid d12
   have D13:=Lib.hid d13
   have D20:=Lib.hid d20
   have D21:=Lib.hid d21
   have D22:=Lib.hid d22
   have D23:=Lib.hid d23
   clear d10 d11 d12 d13 d20 d21 d22 d23
   have BW:=Lib.hid B0
   clear B0
   have OP:Hid (∀ W,Calls Tryz.prog 65 #[.int .i64 21] W fun e w'=>e=.returned (.string (Fp.opW 21).text)∧W=w'):=fun W=>pop_any 21 W (by unfold Fp.bin;omega)
   have ho:(Fp.opW 21).text.size≤7:=by decide
   generalize (Fp.opW 21).text=ro at *
   go_enter Tryz.func27,Tryz.ntmps27
   go_upto_region 31 with (fail)
   generalize (w.alloc (.cells #[.int .i64 21,.int .i64 num,.string name,.slice (some ⟨b,o,none⟩) 2 cap] 24))=w0 at *
   have C1:Hid (∀ dq os,Calls Tryz.prog 64 #[.agg #[.int .i64 a1.op,.int .i64 a1.num,.string a1.name,.slice a1.ptr (len k1) a1.cap]] (Sort.grow (redrawn w0 dq) os) fun e w''=>e=.returned (.string rI1)∧∃ p:Regrown,w''=Sort.grow (redrawn w0 p.d) p.os):=fun dq os=>Calls.regrown_of (I1.out _ (BW.out.trans ((below_regrown w0 dq os).mono BW.out.size)))
   have C2:Hid (∀ dq os,Calls Tryz.prog 64 #[.agg #[.int .i64 a2.op,.int .i64 a2.num,.string a2.name,.slice a2.ptr (len k2) a2.cap]] (Sort.grow (redrawn w0 dq) os) fun e w''=>e=.returned (.string rI2)∧∃ p:Regrown,w''=Sort.grow (redrawn w0 p.d) p.os):=fun dq os=>Calls.regrown_of (I2.out _ (BW.out.trans ((below_regrown w0 dq os).mono BW.out.size)))
   have CO:Hid (∀ dq os,Calls Tryz.prog 65 #[.int .i64 21] (Sort.grow (redrawn w0 dq) os) fun e w''=>e=.returned (.string ro)∧∃ p:Regrown,w''=Sort.grow (redrawn w0 p.d) p.os):=fun dq os=>Calls.regrown_of ((OP.out _).mono fun e w' q=>⟨q.1,q.2 ▸ Below.refl _ _⟩)
   have e0:=fun d os=>cell_regrown P0.out d os
   have e3:=fun d os=>cell_regrown P3.out d os
   have f10:=fun d os=>cell_regrown D10.out d os
   have f11:=fun d os=>cell_regrown D11.out d os
   have f12:=fun d os=>cell_regrown D12.out d os
   have f13:=fun d os=>cell_regrown D13.out d os
   have f20:=fun d os=>cell_regrown D20.out d os
   have f21:=fun d os=>cell_regrown D21.out d os
   have f22:=fun d os=>cell_regrown D22.out d os
   have f23:=fun d os=>cell_regrown D23.out d os
   refine wp_region_quiet_below (by kernel_rfl) (by kernel_rfl) ?_
   have z0:¬ 9223372036854775807 < rI1.size+1:=by omega
   have z1:¬ 9223372036854775806 < rI1.size:=by omega
   have z2:¬ 9223372036854775807 < rI1.size+1+ro.size:=by omega
   have z3:¬ 9223372036854775807 < rI1.size+1+ro.size+1:=by omega
   have z4:¬ 9223372036854775806 < rI1.size+1+ro.size:=by omega
   have z5:¬ 9223372036854775807 < rI1.size+1+ro.size+1+rI2.size:=by omega
   repeat (quiet_step (first|with_reducible exact C1.out _ _|with_reducible exact C2.out _ _|with_reducible exact CO.out _ _))
   refine wpQuiet_nil ?_
   intro _ hw'
   obtain ⟨⟨dq,osq⟩,hw''⟩:=hw'
   subst hw''
   have hb:=below_regrown w0 dq osq
   have B1:=Lib.hid (BW.out.trans (hb.mono BW.out.size))
   clear hb e0 e3 z0 z1 z2 z3 z4 z5 f10 f11 f12 f13 f20 f21 f22 f23
   generalize Sort.grow (redrawn w0 dq) osq=w1 at *
   go_wp2
   go_ret
   exact ⟨rfl,B1.out⟩
 · have E:Hid (Fp.tB (Fp.I ⟨b1,o1,a1,k1⟩)++⟨#[32]⟩++(Fp.opW 22).text++⟨#[32]⟩++Fp.tB (Fp.I ⟨b2,o2,a2,k2⟩)=Fp.tB (Fp.F ⟨b,o,⟨22,num,name,some ⟨b,o,none⟩,cap⟩,(.node b1 o1 a1 k1 (.node b2 o2 a2 k2 .nil))⟩)):=by
    apply Fp.ba_eq
    refine Eq.trans ?_ (Fp.bbin (c:=⟨b,o,⟨22,num,name,some ⟨b,o,none⟩,cap⟩,(.node b1 o1 a1 k1 (.node b2 o2 a2 k2 .nil))⟩) ⟨b1,o1,a1,k1⟩ ⟨b2,o2,a2,k2⟩ (by dsimp only;omega) rfl (HF.out ⟨b2,o2,a2,k2⟩ (by simp [Fp.kl]))).symm
    simp only [app_list,Fp.tB_list,List.append_assoc,List.cons_append,List.nil_append]
    rfl
   show Calls Tryz.prog 27 #[.agg #[.int .i64 22,.int .i64 num,.string name,.slice (some ⟨b,o,none⟩) 2 cap]] w _
   rw [← E.out]
   clear E HF
   generalize Fp.tB (Fp.I ⟨b1,o1,a1,k1⟩)=rI1 at *
   generalize Fp.tB (Fp.I ⟨b2,o2,a2,k2⟩)=rI2 at *
   have B0:Below w.heap.size w (w.alloc (.cells #[.int .i64 22,.int .i64 num,.string name,.slice (some ⟨b,o,none⟩) 2 cap] 24)):=(Below.refl _ _).alloc (Nat.le_refl _) _
   obtain ⟨⟨d10,d11,d12,d13⟩,-,-,⟨d20,d21,d22,d23⟩,-,-,-⟩:=HX.out.next B0
   clear HX
   have p0:(w.alloc (.cells #[.int .i64 22,.int .i64 num,.string name,.slice (some ⟨b,o,none⟩) 2 cap] 24)).cell? ⟨w.heap.size,0,none⟩=some (.int .i64 22):=by simp [go_sem]
   have p3:(w.alloc (.cells #[.int .i64 22,.int .i64 num,.string name,.slice (some ⟨b,o,none⟩) 2 cap] 24)).cell? ⟨w.heap.size,3,none⟩=some (.slice (some ⟨b,o,none⟩) 2 cap):=by simp [go_sem]
   have P0:=Lib.hid p0
   have P3:=Lib.hid p3
   clear p0 p3
   have D10:=Lib.hid d10
   have D11:=Lib.hid d11
   have D12:=Lib.hid d12
   have D13:=Lib.hid d13
   have D20:=Lib.hid d20
   have D21:=Lib.hid d21
   have D22:=Lib.hid d22
   have D23:=Lib.hid d23
   clear d10 d11 d12 d13 d20 d21 d22 d23
   have BW:=Lib.hid B0
   clear B0
   have OP:Hid (∀ W,Calls Tryz.prog 65 #[.int .i64 22] W fun e w'=>e=.returned (.string (Fp.opW 22).text)∧W=w'):=fun W=>pop_any 22 W (by unfold Fp.bin;omega)
   have ho:(Fp.opW 22).text.size≤7:=by decide
   generalize (Fp.opW 22).text=ro at *
   go_enter Tryz.func27,Tryz.ntmps27
   go_upto_region 31 with (fail)
   generalize (w.alloc (.cells #[.int .i64 22,.int .i64 num,.string name,.slice (some ⟨b,o,none⟩) 2 cap] 24))=w0 at *
   have C1:Hid (∀ dq os,Calls Tryz.prog 64 #[.agg #[.int .i64 a1.op,.int .i64 a1.num,.string a1.name,.slice a1.ptr (len k1) a1.cap]] (Sort.grow (redrawn w0 dq) os) fun e w''=>e=.returned (.string rI1)∧∃ p:Regrown,w''=Sort.grow (redrawn w0 p.d) p.os):=fun dq os=>Calls.regrown_of (I1.out _ (BW.out.trans ((below_regrown w0 dq os).mono BW.out.size)))
   have C2:Hid (∀ dq os,Calls Tryz.prog 64 #[.agg #[.int .i64 a2.op,.int .i64 a2.num,.string a2.name,.slice a2.ptr (len k2) a2.cap]] (Sort.grow (redrawn w0 dq) os) fun e w''=>e=.returned (.string rI2)∧∃ p:Regrown,w''=Sort.grow (redrawn w0 p.d) p.os):=fun dq os=>Calls.regrown_of (I2.out _ (BW.out.trans ((below_regrown w0 dq os).mono BW.out.size)))
   have CO:Hid (∀ dq os,Calls Tryz.prog 65 #[.int .i64 22] (Sort.grow (redrawn w0 dq) os) fun e w''=>e=.returned (.string ro)∧∃ p:Regrown,w''=Sort.grow (redrawn w0 p.d) p.os):=fun dq os=>Calls.regrown_of ((OP.out _).mono fun e w' q=>⟨q.1,q.2 ▸ Below.refl _ _⟩)
   have e0:=fun d os=>cell_regrown P0.out d os
   have e3:=fun d os=>cell_regrown P3.out d os
   have f10:=fun d os=>cell_regrown D10.out d os
   have f11:=fun d os=>cell_regrown D11.out d os
   have f12:=fun d os=>cell_regrown D12.out d os
   have f13:=fun d os=>cell_regrown D13.out d os
   have f20:=fun d os=>cell_regrown D20.out d os
   have f21:=fun d os=>cell_regrown D21.out d os
   have f22:=fun d os=>cell_regrown D22.out d os
   have f23:=fun d os=>cell_regrown D23.out d os
   refine wp_region_quiet_below (by kernel_rfl) (by kernel_rfl) ?_
   have z0:¬ 9223372036854775807 < rI1.size+1:=by omega
   have z1:¬ 9223372036854775806 < rI1.size:=by omega
   have z2:¬ 9223372036854775807 < rI1.size+1+ro.size:=by omega
   have z3:¬ 9223372036854775807 < rI1.size+1+ro.size+1:=by omega
   have z4:¬ 9223372036854775806 < rI1.size+1+ro.size:=by omega
   have z5:¬ 9223372036854775807 < rI1.size+1+ro.size+1+rI2.size:=by omega
   repeat (quiet_step (first|with_reducible exact C1.out _ _|with_reducible exact C2.out _ _|with_reducible exact CO.out _ _))
   refine wpQuiet_nil ?_
   intro _ hw'
   obtain ⟨⟨dq,osq⟩,hw''⟩:=hw'
   subst hw''
   have hb:=below_regrown w0 dq osq
   have B1:=Lib.hid (BW.out.trans (hb.mono BW.out.size))
   clear hb e0 e3 z0 z1 z2 z3 z4 z5 f10 f11 f12 f13 f20 f21 f22 f23
   generalize Sort.grow (redrawn w0 dq) osq=w1 at *
   go_wp2
   go_ret
   exact ⟨rfl,B1.out⟩
end Go.Proofs.YtcejjdmnlejbaaaGreatDoor
