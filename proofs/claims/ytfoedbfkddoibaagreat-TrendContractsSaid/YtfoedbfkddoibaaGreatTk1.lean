import Derived.Test.YtfoedbfkddoibaaGreatTsE
import Derived.Test.YtfoedbfkddoibaaGreatTsI
import Derived.Test.YtfoedbfkddoibaaGreatTsJ
namespace Go.Proofs.YtfoedbfkddoibaaGreat
section
set_option linter.unusedVariables false
set_option linter.unusedSimpArgs false
open Go.ChangeShapes Go.WideShapes Go.ChangeAt Go.RowKit
open Go.Deep (BT)
theorem opF_ef (T:Fo):opF (ef T)=opF T:=by cases T<;>rfl
theorem sgF_ef (T:Fo):sgF (ef T)=sgF T:=by
 induction T with
 | nil=>rfl
 | node b o a k r ihk ihr=>simp only [ef,sgF,ihk,ihr,opF_ef];rfl
theorem liF_ef (T:Fo):liF (ef T)=liF T:=by
 induction T with
 | nil=>rfl
 | node b o a k r ihk ihr =>
   simp only [ef,liF,ihr]
   congr 1
   cases k<;>rfl
theorem pTF_ef (name:ByteArray) (clk:Bool) (T:Fo):pTF name clk (ef T)=pTF name clk T:=by
 induction T with
 | nil=>rfl
 | node b o a k r ihk ihr=>simp only [ef,pTF,ihk,ihr,sgF_ef];rfl
theorem rTF_ef (name:ByteArray) (clk:Bool) (T:Fo):rTF name clk (ef T)=rTF name clk T:=by
 induction T with
 | nil=>rfl
 | node b o a k r ihk ihr=>simp only [ef,rTF,ihk,ihr,liF_ef];rfl
def pC (name:ByteArray) (clk:Bool) (c:Ch):Int:=pT1 name clk c.a (sgF c.k) (pTF name clk c.k)
def rC (name:ByteArray) (clk:Bool) (c:Ch):Int:=rT1 name clk c.a (liF c.k) (rTF name clk c.k)
theorem pC_ec (name:ByteArray) (clk:Bool) (c:Ch):pC name clk (ec c)=pC name clk c:=by
 show pT1 name clk ⟨c.a.op,c.a.num,c.a.name,none,0⟩ (sgF (ef c.k)) (pTF name clk (ef c.k))=_
 rw [sgF_ef,pTF_ef];rfl
theorem rC_ec (name:ByteArray) (clk:Bool) (c:Ch):rC name clk (ec c)=rC name clk c:=by
 show rT1 name clk ⟨c.a.op,c.a.num,c.a.name,none,0⟩ (liF (ef c.k)) (rTF name clk (ef c.k))=_
 rw [liF_ef,rTF_ef];rfl
theorem pC_rC (name:ByteArray) (clk:Bool) (sc t:Int) (c:Ch) (h:SmE sc t c):pC name clk c=rC name clk c:=by
 have h1:tyT noL sc c.a c.k=(t,0):=h.ty
 have h2:(tyF noL sc (BT.node 0 0 c.a c.k .nil)).1=0:=by rw [tyF_node,h1];rfl
 have h3:wfT (BT.node 0 0 c.a c.k .nil)=true:=by
  show ((wfB c.a (len c.k) && wfT c.k) && true)=true
  rw [h.wf];rfl
 exact (List.cons.inj (trend_eq name clk sc (BT.node 0 0 c.a c.k .nil) h2 h3)).1
theorem simpR_ok (cs:List Cn) (sc:Int) (a:Nd) (k:Fo) (h:(simpR cs sc a k).2=0):(∃ t,SmE sc t (simpR cs sc a k).1)∧valE (simpR cs sc a k).1.a (simpR cs sc a k).1.k=0∧LnC (simpR cs sc a k).1:=by
 unfold simpR at h ⊢
 by_cases h1:(typeOfT cs sc a k).2≠0
 · rw [if_pos h1] at h;exact absurd h h1
 rw [if_neg h1] at h ⊢
 have h0:(typeOfT cs sc a k).2=0:=Classical.byContradiction h1
 by_cases h2:valE (simT (lookT cs (tabN cs cs.length)) (cvT cs) sc a k).a (simT (lookT cs (tabN cs cs.length)) (cvT cs) sc a k).k=10
 · rw [if_pos h2] at h;cases h
 rw [if_neg h2] at h ⊢
 have hvt:valE a k=0∧(tyT (lookT cs (tabN cs cs.length)) sc a k).2=0:=by
  unfold typeOfT at h0
  by_cases hv:valE a k=0
  · rw [if_pos hv] at h0;exact ⟨hv,h0⟩
  · rw [if_neg hv] at h0;exact absurd h0 hv
 obtain ⟨v1,v2⟩:=val_ok a k hvt.1
 have SM:=(sim_sm _ _ sc (cvok_of cs cs.length) a k hvt.2 v1).1
 refine ⟨⟨_,SM⟩,?_,sim_lnc _ _ sc a k (Nat.le_trans (len_le_sz k) v2) (sz_lnb k v2)⟩
 unfold valE at h2 ⊢
 split at h2
 · rename_i q
   rw [if_pos q,if_pos SM.wf]
 · exact absurd rfl h2
def ofT (cs:List Cn) (sc:Int) (a:Nd) (k:Fo) (name:ByteArray):Int × Int :=
 if (simpR cs sc a k).2≠0 then (0,(simpR cs sc a k).2) else if atE sc name≠0 then (0,6) else (pC name (decide (atS sc name=3)) (simpR cs sc a k).1,0)
def AnP (w:World) (r:Int × Int) (e:Ending) (w':World):Prop:=e=.returned (.tuple #[.int .i64 r.1,.int .i64 r.2])∧Below w.heap.size w w'
theorem atE_val (sc:Int) (s:ByteArray):atE sc s=0∨atE sc s=6:=by unfold atE;split<;>simp
set_option maxHeartbeats 4000000 in
set_option maxRecDepth 100000 in
theorem ofP_any (cs:List Cn) (p:Option Addr) (cap:Nat) (sc:Int) (b o:Nat) (op num:Int) (name:ByteArray) (ptr:Option Addr) (acap:Nat) (k:Fo) (s:ByteArray) (w:World) (hcs:CsV w cs p) (hx:ExAt w b o ⟨op,num,name,ptr,acap⟩ k) (hok:ExOk ⟨op,num,name,ptr,acap⟩ k) :
 Calls Tryz.prog 10 #[.slice p cs.length cap,.int .i64 sc,.agg #[.int .i64 op,.int .i64 num,.string name,.slice ptr (len k) acap],.string s] w (AnP w (ofT cs sc ⟨op,num,name,ptr,acap⟩ k s)):=by
 have OT:Hid (ofT cs sc ⟨op,num,name,ptr,acap⟩ k s=if (simpR cs sc ⟨op,num,name,ptr,acap⟩ k).2≠0 then (0,(simpR cs sc ⟨op,num,name,ptr,acap⟩ k).2) else if atE sc s≠0 then (0,6) else (pC s (decide (atS sc s=3)) (simpR cs sc ⟨op,num,name,ptr,acap⟩ k).1,0)):=rfl
 have SK:=Lib.hid (simpR_ok cs sc ⟨op,num,name,ptr,acap⟩ k)
 have bx:Hid (Below w.heap.size w (w.alloc (.cells #[.int .i64 op,.int .i64 num,.string name,.slice ptr (len k) acap] 25))):=below_box _ _
 have YB0:Hid (BX4 (w.alloc (.cells #[.int .i64 op,.int .i64 num,.string name,.slice ptr (len k) acap] 25)) w.heap.size (.int .i64 op) (.int .i64 num) (.string name) (.slice ptr (len k) acap)):=BX4.new w _ _ _ _ _
 have CC:=Lib.hid (simplifyF_any cs p cap sc b o op num name ptr acap k (w.alloc (.cells #[.int .i64 op,.int .i64 num,.string name,.slice ptr (len k) acap] 25)) (hcs.next bx.out) (hx.next bx.out) hok)
 clear hcs hx hok
 generalize simpR cs sc ⟨op,num,name,ptr,acap⟩ k=Q at *
 generalize ofT cs sc ⟨op,num,name,ptr,acap⟩ k s=R at *
 obtain ⟨y0,y1,y2,y3,-,-,-,-,-⟩:=YB0.out
 go_enter Tryz.func10,Tryz.ntmps10
 go_wp2_with fail
 refine CC.out.mono ?_
 rintro e w1 ⟨c,rfl,hc,hcx,hb⟩
 have EC:=Lib.hid hc
 have X1:Hid (ExAt w1 c.b c.o c.a c.k):=hcx.1
 have B1:=Lib.hid (bx.out.trans (hb.mono bx.out.size))
 have bc:Below w1.heap.size w1 (w1.alloc (.cells #[.int .i64 c.a.op,.int .i64 c.a.num,.string c.a.name,.slice c.a.ptr (len c.k) c.a.cap] 25)):=below_box _ _
 have B2:=Lib.hid (B1.out.trans (bc.mono B1.out.size))
 have X2:=Lib.hid (X1.out.next bc)
 have C2:Hid (BX4 (w1.alloc (.cells #[.int .i64 c.a.op,.int .i64 c.a.num,.string c.a.name,.slice c.a.ptr (len c.k) c.a.cap] 25)) w1.heap.size (.int .i64 c.a.op) (.int .i64 c.a.num) (.string c.a.name) (.slice c.a.ptr (len c.k) c.a.cap)):=BX4.new w1 _ _ _ _ _
 clear hc hcx hb bc CC YB0 y0 y1 y2 y3
 by_cases h0:Q.2=0
 · have n0:(Q.2 != 0)=false:=by simp [h0]
   have OT2:Hid (R=if atE sc s≠0 then (0,6) else (pC s (decide (atS sc s=3)) Q.1,0)):=by unfold Hid;rw [OT.out,if_neg (by simp [h0])]
   have SK2:=Lib.hid (SK.out h0)
   clear OT SK h0
   obtain ⟨c0,c1,c2,c3,-,-,-,-,-⟩:=C2.out
   go_wp2_with fail
   refine (attr_any sc s _).mono ?_
   rintro e w2 ⟨rfl,rfl⟩
   by_cases ha:atE sc s=0
   · have na:(atE sc s != 0)=false:=by simp [ha]
     have OT3:Hid (R=(pC s (decide (atS sc s=3)) Q.1,0)):=by unfold Hid;rw [OT2.out,if_neg (by simp [ha])]
     have WC2:Hid (wfB c.a (len c.k)=true∧wfT c.k=true):=by
      obtain ⟨t,ht⟩:=SK2.out.1
      have h2:(wfB (ec c).a (len (ec c).k) && wfT (ec c).k)=true:=by rw [EC.out];exact ht.wf
      have h3:(wfB c.a (len (ef c.k)) && wfT (ef c.k))=true:=h2
      rw [ef_len,wfT_ef,Bool.and_eq_true] at h3
      exact h3
     have LC:Hid (LnC c):=(lnc_ec c).1 (by rw [EC.out];exact SK2.out.2.2)
     have SZ:Hid (sz c.k≤200):=by
      have h:=SK2.out.2.1
      rw [← EC.out,valE_ec] at h
      exact (val_ok c.a c.k h).2
     have TC:=Lib.hid (tof_any s (decide (atS sc s=3)) c.b c.o c.a c.k (w1.alloc (.cells #[.int .i64 c.a.op,.int .i64 c.a.num,.string c.a.name,.slice c.a.ptr (len c.k) c.a.cap] 25)) X2.out ⟨nd_ok c.a (len c.k) WC2.out.1 LC.out.1,fo_ok c.k WC2.out.2 LC.out.2⟩ (by rw [Bool.and_eq_true];exact WC2.out) SZ.out)
     have RE:Hid (R=(pT1 s (decide (atS sc s=3)) c.a (sgF c.k) (pTF s (decide (atS sc s=3)) c.k),0)):=by unfold Hid;rw [OT3.out,← EC.out,pC_ec];rfl
     generalize pT1 s (decide (atS sc s=3)) c.a (sgF c.k) (pTF s (decide (atS sc s=3)) c.k)=z at *
     by_cases hk:atS sc s=3
     · have nk:(atS sc s==3)=true:=by simp [hk]
       rw [decide_eq_true hk] at TC
       clear hk ha
       go_wp2_with fail
       refine TC.out.mono ?_
       rintro e w3 ⟨rfl,hb⟩
       have B4:=Lib.hid (B2.out.trans (hb.mono B2.out.size))
       clear hb
       go_wp2
       go_ret2
       exact ⟨by rw [RE.out];rfl,B4.out⟩
     · have nk:(atS sc s==3)=false:=beq_eq_false_iff_ne.2 hk
       rw [decide_eq_false hk] at TC
       clear hk ha
       go_wp2_with fail
       refine TC.out.mono ?_
       rintro e w3 ⟨rfl,hb⟩
       have B4:=Lib.hid (B2.out.trans (hb.mono B2.out.size))
       clear hb
       go_wp2
       go_ret2
       exact ⟨by rw [RE.out];rfl,B4.out⟩
   · have na:(atE sc s != 0)=true:=by simp [ha]
     have h6:Hid (atE sc s=6):=(atE_val sc s).resolve_left ha
     have OT3:Hid (R=(0,6)):=by unfold Hid;rw [OT2.out,if_pos ha]
     clear ha
     go_wp2
     go_ret2
     exact ⟨by rw [OT3.out];rfl,B2.out⟩
 · have n0:(Q.2 != 0)=true:=by simp [h0]
   have OT2:Hid (R=(0,Q.2)):=by unfold Hid;rw [OT.out,if_pos h0]
   clear OT SK h0
   go_wp2
   go_ret2
   exact ⟨by rw [OT2.out];rfl,B2.out⟩
set_option maxHeartbeats 4000000 in
set_option maxRecDepth 100000 in
theorem ofR_any (cs:List Cn) (p:Option Addr) (cap:Nat) (sc:Int) (b o:Nat) (op num:Int) (name:ByteArray) (ptr:Option Addr) (acap:Nat) (k:Fo) (s:ByteArray) (w:World) (hcs:CsV w cs p) (hcap:cs.length≤cap) (hs:s.size≤9223372036854775807) (hx:ExAt w b o ⟨op,num,name,ptr,acap⟩ k) (hok:ExOk ⟨op,num,name,ptr,acap⟩ k) :
 Calls Tryz.prog 11 #[.slice p cs.length cap,.int .i64 sc,.agg #[.int .i64 op,.int .i64 num,.string name,.slice ptr (len k) acap],.string s] w (AnP w (ofT cs sc ⟨op,num,name,ptr,acap⟩ k s)):=by
 have OT:Hid (ofT cs sc ⟨op,num,name,ptr,acap⟩ k s=if (simpR cs sc ⟨op,num,name,ptr,acap⟩ k).2≠0 then (0,(simpR cs sc ⟨op,num,name,ptr,acap⟩ k).2) else if atE sc s≠0 then (0,6) else (pC s (decide (atS sc s=3)) (simpR cs sc ⟨op,num,name,ptr,acap⟩ k).1,0)):=rfl
 have SK:=Lib.hid (simpR_ok cs sc ⟨op,num,name,ptr,acap⟩ k)
 have bx:Hid (Below w.heap.size w (w.alloc (.cells #[.int .i64 op,.int .i64 num,.string name,.slice ptr (len k) acap] 25))):=below_box _ _
 have YB0:Hid (BX4 (w.alloc (.cells #[.int .i64 op,.int .i64 num,.string name,.slice ptr (len k) acap] 25)) w.heap.size (.int .i64 op) (.int .i64 num) (.string name) (.slice ptr (len k) acap)):=BX4.new w _ _ _ _ _
 have CC:=Lib.hid (simplifyR_any cs p cap sc b o op num name ptr acap k (w.alloc (.cells #[.int .i64 op,.int .i64 num,.string name,.slice ptr (len k) acap] 25)) (hcs.next bx.out) hcap (hx.next bx.out) hok)
 clear hcs hx hok
 generalize simpR cs sc ⟨op,num,name,ptr,acap⟩ k=Q at *
 generalize ofT cs sc ⟨op,num,name,ptr,acap⟩ k s=R at *
 obtain ⟨y0,y1,y2,y3,-,-,-,-,-⟩:=YB0.out
 go_enter Tryz.func11,Tryz.ntmps11
 go_wp2_with fail
 refine CC.out.mono ?_
 rintro e w1 ⟨c,rfl,hc,hcx,hb⟩
 have EC:=Lib.hid hc
 have X1:Hid (ExAt w1 c.b c.o c.a c.k):=hcx
 have B1:=Lib.hid (bx.out.trans (hb.mono bx.out.size))
 have bc:Below w1.heap.size w1 (w1.alloc (.cells #[.int .i64 c.a.op,.int .i64 c.a.num,.string c.a.name,.slice c.a.ptr (len c.k) c.a.cap] 25)):=below_box _ _
 have B2:=Lib.hid (B1.out.trans (bc.mono B1.out.size))
 have X2:=Lib.hid (X1.out.next bc)
 have C2:Hid (BX4 (w1.alloc (.cells #[.int .i64 c.a.op,.int .i64 c.a.num,.string c.a.name,.slice c.a.ptr (len c.k) c.a.cap] 25)) w1.heap.size (.int .i64 c.a.op) (.int .i64 c.a.num) (.string c.a.name) (.slice c.a.ptr (len c.k) c.a.cap)):=BX4.new w1 _ _ _ _ _
 clear hc hcx hb bc CC YB0 y0 y1 y2 y3
 by_cases h0:Q.2=0
 · have n0:(Q.2 != 0)=false:=by simp [h0]
   have OT2:Hid (R=if atE sc s≠0 then (0,6) else (pC s (decide (atS sc s=3)) Q.1,0)):=by unfold Hid;rw [OT.out,if_neg (by simp [h0])]
   have SK2:=Lib.hid (SK.out h0)
   clear OT SK h0
   go_wp2_with fail
   refine (ratt_any sc s _ hs).mono ?_
   rintro e w2 ⟨rfl,hb⟩
   have B3:=Lib.hid (B2.out.trans (hb.mono B2.out.size))
   have X3:=Lib.hid (X2.out.next hb)
   have C3:=Lib.hid (C2.out.next hb)
   clear hb X2 C2 B2 X1 B1
   obtain ⟨c0,c1,c2,c3,-,-,-,-,-⟩:=C3.out
   by_cases ha:atE sc s=0
   · have na:(atE sc s != 0)=false:=by simp [ha]
     have OT3:Hid (R=(pC s (decide (atS sc s=3)) Q.1,0)):=by unfold Hid;rw [OT2.out,if_neg (by simp [ha])]
     have WC2:Hid (wfB c.a (len c.k)=true∧wfT c.k=true):=by
      obtain ⟨t,ht⟩:=SK2.out.1
      have h2:(wfB (ec c).a (len (ec c).k) && wfT (ec c).k)=true:=by rw [EC.out];exact ht.wf
      have h3:(wfB c.a (len (ef c.k)) && wfT (ef c.k))=true:=h2
      rw [ef_len,wfT_ef,Bool.and_eq_true] at h3
      exact h3
     have LC:Hid (LnC c):=(lnc_ec c).1 (by rw [EC.out];exact SK2.out.2.2)
     have SZ:Hid (sz c.k≤200):=by
      have h:=SK2.out.2.1
      rw [← EC.out,valE_ec] at h
      exact (val_ok c.a c.k h).2
     have TC:=Lib.hid (rof_any s (atS sc s) c.b c.o c.a c.k w2 X3.out ⟨nd_ok c.a (len c.k) WC2.out.1 LC.out.1,fo_ok c.k WC2.out.2 LC.out.2⟩ (by rw [Bool.and_eq_true];exact WC2.out) SZ.out)
     have RE:Hid (R=(rT1 s (decide (atS sc s=3)) c.a (liF c.k) (rTF s (decide (atS sc s=3)) c.k),0)):=by
      obtain ⟨t,ht⟩:=SK2.out.1
      unfold Hid;rw [OT3.out,pC_rC s _ sc t Q.1 ht,← EC.out,rC_ec];rfl
     generalize rT1 s (decide (atS sc s=3)) c.a (liF c.k) (rTF s (decide (atS sc s=3)) c.k)=z at *
     clear ha
     go_wp2_with fail
     refine TC.out.mono ?_
     rintro e w3 ⟨rfl,hb⟩
     have B4:=Lib.hid (B3.out.trans (hb.mono B3.out.size))
     clear hb
     go_wp2
     go_ret2
     exact ⟨by rw [RE.out];rfl,B4.out⟩
   · have na:(atE sc s != 0)=true:=by simp [ha]
     have h6:Hid (atE sc s=6):=(atE_val sc s).resolve_left ha
     have OT3:Hid (R=(0,6)):=by unfold Hid;rw [OT2.out,if_pos ha]
     clear ha
     go_wp2
     go_ret2
     exact ⟨by rw [OT3.out];rw [← h6.out];rfl,B3.out⟩
 · have n0:(Q.2 != 0)=true:=by simp [h0]
   have OT2:Hid (R=(0,Q.2)):=by unfold Hid;rw [OT.out,if_pos h0]
   clear OT SK h0
   go_wp2
   go_ret2
   exact ⟨by rw [OT2.out];rfl,B2.out⟩
end
section
set_option linter.unusedVariables false
set_option linter.unusedSimpArgs false
open Go.ChangeShapes Go.WideShapes Go.ChangeAt Go.RowKit
open Go.Deep (BT)
theorem tcsv_nil (w:World):CsV w [] none:=⟨⟨0,0,fun q=>absurd rfl q,trivial⟩,(fun c hc=>by cases hc),Nat.zero_le _⟩
def taw (g2 g4:Nat):Fo :=
 .node 0 0 ⟨6,0,⟨#[115,112,97,110]⟩,none,0⟩ .nil
  (.node g4 0 ⟨9,0,⟨#[]⟩,some ⟨g4,0,none⟩,2⟩
    (.node 0 0 ⟨2,780,⟨#[]⟩,none,0⟩ .nil
      (.node g2 0 ⟨10,0,⟨#[]⟩,some ⟨g2,0,none⟩,2⟩
        (.node 0 0 ⟨6,0,⟨#[108,101,103,115]⟩,none,0⟩ .nil (.node 0 0 ⟨2,30,⟨#[]⟩,none,0⟩ .nil .nil)) .nil)) .nil)
theorem taw_span (g2 g4:Nat) (q:Option Addr):ofT [] 1 ⟨17,0,⟨#[]⟩,q,2⟩ (taw g2 g4) ⟨#[115,112,97,110]⟩=(2,0):=by kernel_rfl
theorem taw_legs (g2 g4:Nat) (q:Option Addr):ofT [] 1 ⟨17,0,⟨#[]⟩,q,2⟩ (taw g2 g4) ⟨#[108,101,103,115]⟩=(2,0):=by kernel_rfl
theorem taw_block (g2 g4:Nat) (q:Option Addr):ofT [] 1 ⟨17,0,⟨#[]⟩,q,2⟩ (taw g2 g4) ⟨#[98,108,111,99,107]⟩=(0,0):=by kernel_rfl
theorem taw_ok (g2 g4:Nat) (q:Option Addr):ExOk ⟨17,0,⟨#[]⟩,q,2⟩ (taw g2 g4):=by
 unfold taw
 simp only [ExOk,FoOk,NdOk,len]
 decide
set_option maxHeartbeats 4000000 in
set_option maxRecDepth 100000 in
theorem tawake_any (w:World):Calls Tryz.prog 9 #[] w fun e w'=>e=.returned (.bool true)∧Below w.heap.size w w':=by
 go_enter Tryz.func9,Tryz.ntmps9
 go_wp2_with fail
 have C6:BX4 (((((((w.alloc (.cells #[.int .i64 6,.int .i64 0,.string ⟨#[108,101,103,115]⟩,.slice none 0 0] 25)).alloc (.cells #[.int .i64 6,.int .i64 0,.string ⟨#[115,112,97,110]⟩,.slice none 0 0] 25)).alloc (.cells #[.int .i64 6,.int .i64 0,.string ⟨#[108,101,103,115]⟩,.slice none 0 0,.int .i64 2,.int .i64 30,.string ⟨#[]⟩,.slice none 0 0] 25)).alloc (.cells #[.int .i64 10,.int .i64 0,.string ⟨#[]⟩,.slice (some ⟨w.heap.size+1+1,0,none⟩) 2 2] 25)).alloc (.cells #[.int .i64 2,.int .i64 780,.string ⟨#[]⟩,.slice none 0 0,.int .i64 10,.int .i64 0,.string ⟨#[]⟩,.slice (some ⟨w.heap.size+1+1,0,none⟩) 2 2] 25)).alloc (.cells #[.int .i64 6,.int .i64 0,.string ⟨#[115,112,97,110]⟩,.slice none 0 0,.int .i64 9,.int .i64 0,.string ⟨#[]⟩,.slice (some ⟨w.heap.size+1+1+1+1,0,none⟩) 2 2] 25)).alloc (.cells #[.int .i64 17,.int .i64 0,.string ⟨#[]⟩,.slice (some ⟨w.heap.size+1+1+1+1+1,0,none⟩) 2 2] 25)) (w.heap.size+1+1+1+1+1+1) (.int .i64 17) (.int .i64 0) (.string ⟨#[]⟩) (.slice (some ⟨w.heap.size+1+1+1+1+1,0,none⟩) 2 2):=by
  refine ⟨?_,?_,?_,?_,?_,?_,?_,?_,?_⟩<;>simp [go_sem]
 have EX:ExAt (((((((w.alloc (.cells #[.int .i64 6,.int .i64 0,.string ⟨#[108,101,103,115]⟩,.slice none 0 0] 25)).alloc (.cells #[.int .i64 6,.int .i64 0,.string ⟨#[115,112,97,110]⟩,.slice none 0 0] 25)).alloc (.cells #[.int .i64 6,.int .i64 0,.string ⟨#[108,101,103,115]⟩,.slice none 0 0,.int .i64 2,.int .i64 30,.string ⟨#[]⟩,.slice none 0 0] 25)).alloc (.cells #[.int .i64 10,.int .i64 0,.string ⟨#[]⟩,.slice (some ⟨w.heap.size+1+1,0,none⟩) 2 2] 25)).alloc (.cells #[.int .i64 2,.int .i64 780,.string ⟨#[]⟩,.slice none 0 0,.int .i64 10,.int .i64 0,.string ⟨#[]⟩,.slice (some ⟨w.heap.size+1+1,0,none⟩) 2 2] 25)).alloc (.cells #[.int .i64 6,.int .i64 0,.string ⟨#[115,112,97,110]⟩,.slice none 0 0,.int .i64 9,.int .i64 0,.string ⟨#[]⟩,.slice (some ⟨w.heap.size+1+1+1+1,0,none⟩) 2 2] 25)).alloc (.cells #[.int .i64 17,.int .i64 0,.string ⟨#[]⟩,.slice (some ⟨w.heap.size+1+1+1+1+1,0,none⟩) 2 2] 25)) (w.heap.size+1+1+1+1+1) 0 ⟨17,0,⟨#[]⟩,some ⟨w.heap.size+1+1+1+1+1,0,none⟩,2⟩ (taw (w.heap.size+1+1) (w.heap.size+1+1+1+1)):=by
  refine ⟨fun _=>rfl,⟨?_,?_,?_,?_⟩,fun h=>absurd rfl h,trivial,⟨?_,?_,?_,?_⟩,fun _=>rfl,⟨⟨?_,?_,?_,?_⟩,fun h=>absurd rfl h,trivial,⟨?_,?_,?_,?_⟩,fun _=>rfl,⟨⟨?_,?_,?_,?_⟩,fun h=>absurd rfl h,trivial,⟨?_,?_,?_,?_⟩,fun h=>absurd rfl h,trivial,trivial⟩,trivial⟩,trivial⟩<;>simp [go_sem,len]
 have B0:Below w.heap.size w (((((((w.alloc (.cells #[.int .i64 6,.int .i64 0,.string ⟨#[108,101,103,115]⟩,.slice none 0 0] 25)).alloc (.cells #[.int .i64 6,.int .i64 0,.string ⟨#[115,112,97,110]⟩,.slice none 0 0] 25)).alloc (.cells #[.int .i64 6,.int .i64 0,.string ⟨#[108,101,103,115]⟩,.slice none 0 0,.int .i64 2,.int .i64 30,.string ⟨#[]⟩,.slice none 0 0] 25)).alloc (.cells #[.int .i64 10,.int .i64 0,.string ⟨#[]⟩,.slice (some ⟨w.heap.size+1+1,0,none⟩) 2 2] 25)).alloc (.cells #[.int .i64 2,.int .i64 780,.string ⟨#[]⟩,.slice none 0 0,.int .i64 10,.int .i64 0,.string ⟨#[]⟩,.slice (some ⟨w.heap.size+1+1,0,none⟩) 2 2] 25)).alloc (.cells #[.int .i64 6,.int .i64 0,.string ⟨#[115,112,97,110]⟩,.slice none 0 0,.int .i64 9,.int .i64 0,.string ⟨#[]⟩,.slice (some ⟨w.heap.size+1+1+1+1,0,none⟩) 2 2] 25)).alloc (.cells #[.int .i64 17,.int .i64 0,.string ⟨#[]⟩,.slice (some ⟨w.heap.size+1+1+1+1+1,0,none⟩) 2 2] 25)):=(by (repeat (first|exact Below.refl _ _|refine Below.alloc ?_ (by first|exact Nat.le_refl _|(simp<;>omega)) _)))
 generalize (((((((w.alloc (.cells #[.int .i64 6,.int .i64 0,.string ⟨#[108,101,103,115]⟩,.slice none 0 0] 25)).alloc (.cells #[.int .i64 6,.int .i64 0,.string ⟨#[115,112,97,110]⟩,.slice none 0 0] 25)).alloc (.cells #[.int .i64 6,.int .i64 0,.string ⟨#[108,101,103,115]⟩,.slice none 0 0,.int .i64 2,.int .i64 30,.string ⟨#[]⟩,.slice none 0 0] 25)).alloc (.cells #[.int .i64 10,.int .i64 0,.string ⟨#[]⟩,.slice (some ⟨w.heap.size+1+1,0,none⟩) 2 2] 25)).alloc (.cells #[.int .i64 2,.int .i64 780,.string ⟨#[]⟩,.slice none 0 0,.int .i64 10,.int .i64 0,.string ⟨#[]⟩,.slice (some ⟨w.heap.size+1+1,0,none⟩) 2 2] 25)).alloc (.cells #[.int .i64 6,.int .i64 0,.string ⟨#[115,112,97,110]⟩,.slice none 0 0,.int .i64 9,.int .i64 0,.string ⟨#[]⟩,.slice (some ⟨w.heap.size+1+1+1+1,0,none⟩) 2 2] 25)).alloc (.cells #[.int .i64 17,.int .i64 0,.string ⟨#[]⟩,.slice (some ⟨w.heap.size+1+1+1+1+1,0,none⟩) 2 2] 25))=w0 at *
 have HC:=Lib.hid C6
 have HE:=Lib.hid EX
 have HB:=Lib.hid B0
 clear C6 EX B0
 have OF:=Lib.hid (fun (wq:World) (s:ByteArray) hx=>ofP_any [] none 0 1 (w.heap.size+1+1+1+1+1) 0 17 0 ⟨#[]⟩ (some ⟨w.heap.size+1+1+1+1+1,0,none⟩) 2 (taw (w.heap.size+1+1) (w.heap.size+1+1+1+1)) s wq (tcsv_nil wq) hx (taw_ok _ _ _))
 have Q1:=Lib.hid (OF.out w0 ⟨#[115,112,97,110]⟩ HE.out)
 rw [taw_span] at Q1
 refine Q1.out.mono ?_
 rintro e w1 ⟨rfl,hb1⟩
 have HC1:=Lib.hid (HC.out.next hb1)
 have HE1:=Lib.hid (HE.out.next hb1)
 have HB1:=Lib.hid (HB.out.trans (hb1.mono HB.out.size))
 have Q2:=Lib.hid (OF.out w1 ⟨#[108,101,103,115]⟩ HE1.out)
 rw [taw_legs] at Q2
 clear hb1 HC HE HB Q1
 obtain ⟨c0,c1,c2,c3,-,-,-,-,-⟩:=HC1.out
 go_wp2_with fail
 refine Q2.out.mono ?_
 rintro e w2 ⟨rfl,hb2⟩
 have HC2:=Lib.hid (HC1.out.next hb2)
 have HE2:=Lib.hid (HE1.out.next hb2)
 have HB2:=Lib.hid (HB1.out.trans (hb2.mono HB1.out.size))
 have Q3:=Lib.hid (OF.out w2 ⟨#[98,108,111,99,107]⟩ HE2.out)
 rw [taw_block] at Q3
 clear hb2 HC1 HE1 HB1 Q2 c0 c1 c2 c3
 obtain ⟨c0,c1,c2,c3,-,-,-,-,-⟩:=HC2.out
 go_wp2_with fail
 refine Q3.out.mono ?_
 rintro e w3 ⟨rfl,hb3⟩
 have HB3:=Lib.hid (HB2.out.trans (hb3.mono HB2.out.size))
 clear hb3 c0 c1 c2 c3
 go_wp2
 go_ret
 exact ⟨rfl,HB3.out⟩
end
end Go.Proofs.YtfoedbfkddoibaaGreat
