import Derived.Test.YtfoedbfkddoibaaGreatTda
import Derived.Test.YtfoedbfkddoibaaGreatTk1
import Derived.Test.YtfoedbfkddoibaaGreatTsE
namespace Go.Proofs.YtfoedbfkddoibaaGreat
section
set_option linter.unusedVariables false
set_option linter.unusedSimpArgs false
open Go.RowKit
open Go.Deep (BT)
theorem tyF_ef (look:Look) (sc:Int) (T:Fo):tyF look sc (ef T)=tyF look sc T:=by
 induction T with
 | nil=>rfl
 | node b o a k r ihk ihr =>
   show tyF look sc (BT.node 0 0 ⟨a.op,a.num,a.name,none,0⟩ (ef k) (ef r))=_
   simp only [tyF,ihk,ihr]
theorem tyT_ef (look:Look) (sc:Int) (c:Ch):tyT look sc (ec c).a (ec c).k=tyT look sc c.a c.k:=by
 show tyT look sc ⟨c.a.op,c.a.num,c.a.name,none,0⟩ (ef c.k)=_
 unfold tyT
 rw [tyF_ef]
theorem simF_ef (look:Look) (cv:ByteArray→Int) (sc:Int) (T:Fo):simF look cv sc (ef T)=simF look cv sc T:=by
 induction T with
 | nil=>rfl
 | node b o a k r ihk ihr =>
   show sim1 look cv sc ⟨a.op,a.num,a.name,none,0⟩ (tyF look sc (ef k)).2 (simF look cv sc (ef k)) :: simF look cv sc (ef r)=sim1 look cv sc a (tyF look sc k).2 (simF look cv sc k) :: simF look cv sc r
   rw [tyF_ef,ihk,ihr]
   rfl
theorem look_nil:lookT [] (tabN [] ([]:List Cn).length)=noL:=by
 funext s
 show lookT [] (tabN [] 0) s=noL s
 rw [lookT_tab]
 rfl
theorem sim_again (cv:ByteArray→Int) (sc t:Int) (c:Ch) (h:SmE sc t (ec c)) (hN:NfC (ec c)):simT noL cv sc c.a c.k=ec c:=by
 have ht:tyT noL sc (ec c).a (ec c).k=(t,0):=h.ty
 have hk:ef (ec c).k=(ec c).k:=by
  have:=congrArg Ch.k h.er
  exact this
 have q:=idem cv sc (BT.node 0 0 (ec c).a (ec c).k .nil) (by rw [tyF_node,ht];rfl) (by show ((wfB (ec c).a (len (ec c).k) && wfT (ec c).k) && true)=true;rw [h.wf];rfl) ⟨hN,trivial⟩ (by
  show BT.node 0 0 (⟨(ec c).a.op,(ec c).a.num,(ec c).a.name,none,0⟩:Nd) (ef (ec c).k) .nil=_
  rw [hk];rfl)
 have q2:[simT noL cv sc (ec c).a (ec c).k]=[(⟨0,0,(ec c).a,(ec c).k⟩:Ch)]:=q
 have q3:=(List.cons.inj q2).1
 have q4:simT noL cv sc (ec c).a (ec c).k=simT noL cv sc c.a c.k:=by
  show sim1 noL cv sc ⟨c.a.op,c.a.num,c.a.name,none,0⟩ (tyF noL sc (ef c.k)).2 (simF noL cv sc (ef c.k))=sim1 noL cv sc c.a (tyF noL sc c.k).2 (simF noL cv sc c.k)
  rw [tyF_ef,simF_ef]
  rfl
 rw [← q4,q3]
 rfl
theorem of_again (sc t:Int) (c:Ch) (s:ByteArray) (h:SmE sc t (ec c)) (hN:NfC (ec c)) (hv:valE c.a c.k=0):ofT [] sc c.a c.k s=if atE sc s≠0 then (0,6) else (pC s (decide (atS sc s=3)) c,0):=by
 have ht:tyT noL sc c.a c.k=(t,0):=by rw [← tyT_ef];exact h.ty
 have hty:typeOfT [] sc c.a c.k=(t,0):=by
  unfold typeOfT
  rw [if_pos hv,look_nil,ht]
 have hs:simpR [] sc c.a c.k=(ec c,0):=by
  unfold simpR
  rw [hty,look_nil,sim_again _ sc t c h hN]
  rw [if_neg (show ¬ (t,(0:Int)).2≠0 by simp),if_neg (by rw [valE_ec,hv];decide)]
 unfold ofT
 rw [hs]
 rw [if_neg (show ¬ (ec c,(0:Int)).2≠0 by simp)]
 split
 · rfl
 · show (pC s _ (ec c),(0:Int))=_
   rw [pC_ec]
theorem pTF_none (name:ByteArray) (clk:Bool) (sc:Int) (hna:atE sc name≠0) (T:Fo) (h:(tyF noL sc T).1=0):((pTF name clk T).all fun t=>t==0)=true:=by
 induction T with
 | nil=>rfl
 | node b o a k r ihk ihr =>
   obtain ⟨h1,h2,h3⟩:=ty_row noL sc b o a k r h
   show ((pT1 name clk a (sgF k) (pTF name clk k) :: pTF name clk r).all fun t=>t==0)=true
   rw [List.all_cons,ihr h2,Bool.and_true]
   have e : pT1 name clk a (sgF k) (pTF name clk k)=0:=by
    unfold pT1
    by_cases h6:a.op=6
    · rw [if_pos h6]
      have hat:atE sc a.name=0:=by
       unfold tyT nameT at h1
       rw [if_pos h6] at h1
       by_cases q:atE sc a.name=0
       · exact q
       · rw [if_neg q] at h1;cases h1
      unfold nameE
      rw [if_pos (fun q=>hna (by rw [← q];exact hat))]
    · rw [if_neg h6]
      obtain ⟨p1,p2,p3⟩:=ty_parts noL sc a k h1 h6
      rw [if_pos (ihk p1)]
   rw [e];rfl
theorem pC_none (name:ByteArray) (clk:Bool) (sc t:Int) (c:Ch) (hna:atE sc name≠0) (h:SmE sc t (ec c)):pC name clk c=0:=by
 have ht:tyT noL sc c.a c.k=(t,0):=by rw [← tyT_ef];exact h.ty
 have q:=pTF_none name clk sc hna (BT.node 0 0 c.a c.k .nil) (by rw [tyF_node,ht];rfl)
 have q2:([pC name clk c].all fun t=>t==0)=true:=q
 simpa using q2
theorem of_fst (sc t:Int) (c:Ch) (s:ByteArray) (h:SmE sc t (ec c)) (hN:NfC (ec c)) (hv:valE c.a c.k=0):(ofT [] sc c.a c.k s).1=pC s (decide (atS sc s=3)) c:=by
 rw [of_again sc t c s h hN hv]
 by_cases q:atE sc s≠0
 · rw [if_pos q,pC_none s _ sc t c q h]
 · rw [if_neg q]
def thr (r k:Int):Int:=if r=0∨k=0 then 0 else if r=3∨k=3 then 3 else if r=1 then k else ivE k
theorem thr_inv (r k:Int) (hr:0≤r∧r≤3) (hk:0≤k∧k≤3):thr (ivE r) k=ivE (thr r k):=by
 have h1:r=0∨r=1∨r=2∨r=3:=by omega
 have h2:k=0∨k=1∨k=2∨k=3:=by omega
 rcases h1 with rfl|rfl|rfl|rfl<;>rcases h2 with rfl|rfl|rfl|rfl<;>decide
theorem cb_inv (a b:Int) (ha:0≤a∧a≤3) (hb:0≤b∧b≤3):cbE (ivE a) (ivE b)=ivE (cbE a b)∧cbE a b=cbE b a:=by
 have h1:a=0∨a=1∨a=2∨a=3:=by omega
 have h2:b=0∨b=1∨b=2∨b=3:=by omega
 rcases h1 with rfl|rfl|rfl|rfl<;>rcases h2 with rfl|rfl|rfl|rfl<;>decide
end
section
set_option linter.unusedVariables false
set_option linter.unusedSimpArgs false
open Go.ChangeShapes Go.WideShapes Go.ChangeAt Go.RowKit
open Go.Deep (BT)
set_option maxHeartbeats 2000000 in
set_option maxRecDepth 100000 in
theorem tthr_any (r k:Int) (w:World):Calls Tryz.prog 62 #[.int .i64 r,.int .i64 k] w fun e w'=>e=.returned (.int .i64 (thr r k))∧w=w':=by
 have V:Hid (thr r k=if r=0∨k=0 then 0 else if r=3∨k=3 then 3 else if r=1 then k else ivE k):=rfl
 generalize thr r k=R at *
 go_enter Tryz.func62,Tryz.ntmps62
 by_cases h1:r=0
 · have n1:(r==0)=true:=by simp [h1]
   have RV:Hid (R=0):=by unfold Hid;rw [V.out,if_pos (.inl h1)]
   clear V h1
   go_wp2
   go_ret
   exact ⟨ret_int RV.out.symm,rfl⟩
 have n1:(r==0)=false:=by simp [h1]
 by_cases h2:k=0
 · have n2:(k==0)=true:=by simp [h2]
   have RV:Hid (R=0):=by unfold Hid;rw [V.out,if_pos (.inr h2)]
   clear V h1 h2
   go_wp2
   go_ret
   exact ⟨ret_int RV.out.symm,rfl⟩
 have n2:(k==0)=false:=by simp [h2]
 by_cases h3:r=3
 · have n3:(r==3)=true:=by simp [h3]
   have RV:Hid (R=3):=by unfold Hid;rw [V.out,if_neg (by omega),if_pos (.inl h3)]
   clear V h1 h2 h3
   go_wp2
   go_ret
   exact ⟨ret_int RV.out.symm,rfl⟩
 have n3:(r==3)=false:=by simp [h3]
 by_cases h4:k=3
 · have n4:(k==3)=true:=by simp [h4]
   have RV:Hid (R=3):=by unfold Hid;rw [V.out,if_neg (by omega),if_pos (.inr h4)]
   clear V h1 h2 h3 h4
   go_wp2
   go_ret
   exact ⟨ret_int RV.out.symm,rfl⟩
 have n4:(k==3)=false:=by simp [h4]
 by_cases h5:r=1
 · have n5:(r==1)=true:=by simp [h5]
   have RV:Hid (R=k):=by unfold Hid;rw [V.out,if_neg (by omega),if_neg (by omega),if_pos h5]
   clear V h1 h2 h3 h4 h5
   go_wp2
   go_ret
   exact ⟨ret_int RV.out.symm,rfl⟩
 have n5:(r==1)=false:=by simp [h5]
 have RV:Hid (R=ivE k):=by unfold Hid;rw [V.out,if_neg (by omega),if_neg (by omega),if_neg h5]
 clear V h1 h2 h3 h4 h5
 go_wp2_with (go_at_call 45;refine (tinv_any _ _).mono ?_;rintro e w' ⟨rfl,rfl⟩)
 go_ret
 exact ⟨ret_int RV.out.symm,rfl⟩
set_option maxHeartbeats 2000000 in
set_option maxRecDepth 100000 in
theorem rthr_any (r k:Int) (w:World):Calls Tryz.prog 66 #[.int .i64 r,.int .i64 k] w fun e w'=>e=.returned (.int .i64 (thr r k))∧w=w':=by
 have V:Hid (thr r k=if r=0∨k=0 then 0 else if r=3∨k=3 then 3 else if r=1 then k else ivE k):=rfl
 generalize thr r k=R at *
 go_enter Tryz.func66,Tryz.ntmps66
 by_cases h1:r=0
 · have n1:(r==0)=true:=by simp [h1]
   have RV:Hid (R=0):=by unfold Hid;rw [V.out,if_pos (.inl h1)]
   clear V h1
   go_wp2
   go_ret
   exact ⟨ret_int RV.out.symm,rfl⟩
 have n1:(r==0)=false:=by simp [h1]
 by_cases h2:k=0
 · have n2:(k==0)=true:=by simp [h2]
   have RV:Hid (R=0):=by unfold Hid;rw [V.out,if_pos (.inr h2)]
   clear V h1 h2
   go_wp2
   go_ret
   exact ⟨ret_int RV.out.symm,rfl⟩
 have n2:(k==0)=false:=by simp [h2]
 by_cases h3:r=3
 · have n3:(r==3)=true:=by simp [h3]
   have RV:Hid (R=3):=by unfold Hid;rw [V.out,if_neg (by omega),if_pos (.inl h3)]
   clear V h1 h2 h3
   go_wp2
   go_ret
   exact ⟨ret_int RV.out.symm,rfl⟩
 have n3:(r==3)=false:=by simp [h3]
 by_cases h4:k=3
 · have n4:(k==3)=true:=by simp [h4]
   have RV:Hid (R=3):=by unfold Hid;rw [V.out,if_neg (by omega),if_pos (.inr h4)]
   clear V h1 h2 h3 h4
   go_wp2
   go_ret
   exact ⟨ret_int RV.out.symm,rfl⟩
 have n4:(k==3)=false:=by simp [h4]
 by_cases h5:r=1
 · have n5:(r==1)=true:=by simp [h5]
   have RV:Hid (R=k):=by unfold Hid;rw [V.out,if_neg (by omega),if_neg (by omega),if_pos h5]
   clear V h1 h2 h3 h4 h5
   go_wp2
   go_ret
   exact ⟨ret_int RV.out.symm,rfl⟩
 have n5:(r==1)=false:=by simp [h5]
 have RV:Hid (R=ivE k):=by unfold Hid;rw [V.out,if_neg (by omega),if_neg (by omega),if_neg h5]
 clear V h1 h2 h3 h4 h5
 go_wp2_with (go_at_call 35;refine (rinv_any _ _).mono ?_;rintro e w' ⟨rfl,rfl⟩)
 go_ret
 exact ⟨ret_int RV.out.symm,rfl⟩
def quA (x:Ch) (clk cost:Bool) (s:ByteArray):Int:=if cost=true then ivE (pC s clk x) else pC s clk x
structure QuB (w:World) (cb xb ob:Nat) (clk cost:Bool) (c:Ch):Prop where
 k:w.cell? ⟨cb,0,none⟩=some (.bool clk)
 x:BX4 w xb (.int .i64 c.a.op) (.int .i64 c.a.num) (.string c.a.name) (.slice c.a.ptr (len c.k) c.a.cap)
 o:w.cell? ⟨ob,0,none⟩=some (.bool cost)
 at_:ExAt w c.b c.o c.a c.k
theorem QuB.next {w w':World} {cb xb ob:Nat} {clk cost:Bool} {c:Ch} (h:QuB w cb xb ob clk cost c) (hb:Below w.heap.size w w'):QuB w' cb xb ob clk cost c :=
 ⟨by rw [hb.cell (block_lt_of_cell h.k)];exact h.k,h.x.next hb,by rw [hb.cell (block_lt_of_cell h.o)];exact h.o,h.at_.next hb⟩
set_option maxHeartbeats 2000000 in
set_option maxRecDepth 100000 in
theorem quf_any (cb xb ob:Nat) (clk cost:Bool) (c:Ch) (s:ByteArray) (w:World) (h:QuB w cb xb ob clk cost c) (hok:ExOk c.a c.k) (hwf:(wfB c.a (len c.k) && wfT c.k)=true) (hz:sz c.k≤200) :
 Calls Tryz.prog 61 #[.string s,.pointer (some ⟨cb,0,none⟩),.pointer (some ⟨xb,0,none⟩),.pointer (some ⟨ob,0,none⟩)] w fun e w'=>e=.returned (.int .i64 (quA c clk cost s))∧Below w.heap.size w w':=by
 have V:Hid (quA c clk cost s=if cost=true then ivE (pT1 s clk c.a (sgF c.k) (pTF s clk c.k)) else pT1 s clk c.a (sgF c.k) (pTF s clk c.k)):=rfl
 have HB:=Lib.hid h
 have TC:=Lib.hid (fun wq hx=>tof_any s clk c.b c.o c.a c.k wq hx hok hwf hz)
 generalize quA c clk cost s=R at *
 generalize pT1 s clk c.a (sgF c.k) (pTF s clk c.k)=z at *
 have k0:=h.k
 have x0:=h.x.r0
 have x1:=h.x.r1
 have x2:=h.x.r2
 have x3:=h.x.r3
 have CC:=Lib.hid (TC.out w h.at_)
 clear h hok hwf hz TC
 go_enter Tryz.func61,Tryz.ntmps61
 go_wp2_with fail
 refine CC.out.mono ?_
 rintro e w1 ⟨rfl,hb⟩
 have H1:=Lib.hid (HB.out.next hb)
 have B1:Hid (Below w.heap.size w w1):=hb
 have o0:=H1.out.o
 clear hb k0 x0 x1 x2 x3
 cases cost
 · have RV:Hid (R=z):=V.out
   go_wp2
   go_ret
   exact ⟨ret_int RV.out.symm,B1.out⟩
 · have RV:Hid (R=ivE z):=V.out
   go_wp2_with (go_at_call 45;refine (tinv_any _ _).mono ?_;rintro e w' ⟨rfl,rfl⟩)
   go_ret
   exact ⟨ret_int RV.out.symm,B1.out⟩
end
section
set_option linter.unusedVariables false
set_option linter.unusedSimpArgs false
open Go.ChangeShapes Go.WideShapes Go.ChangeAt Go.RowKit
open Go.Deep (BT)
def crdN:ByteArray:=⟨#[99,114,101,100,105,116]⟩
def befN:ByteArray:=⟨#[98,101,102,111,114,101,46]⟩
def aftN:ByteArray:=⟨#[97,102,116,101,114,46]⟩
def lhb (s:ByteArray):Bool:=decide (s.toList=[108,101,103,115]∨s.toList=[104,101,97,100,115]∨s.toList=[98,108,111,99,107])
def quP (sc:Int) (x:Ch) (name:ByteArray) (clk:Bool) (kt:Int) (cost:Bool):Int :=
 if sc=1 then quA x clk cost name else if sc=2 then cbE (quA x clk cost (befN++name)) (quA x clk cost (aftN++name)) else
 if lhb name=true then cbE (thr (quA x false cost crdN) kt) (quA x false cost name) else thr (quA x false cost crdN) kt
set_option maxHeartbeats 4000000 in
set_option maxRecDepth 100000 in
theorem qual_any (sc:Int) (c:Ch) (name:ByteArray) (clk:Bool) (kt:Int) (cost:Bool) (w:World) (hx:ExAt w c.b c.o c.a c.k) (hok:ExOk c.a c.k) (hwf:(wfB c.a (len c.k) && wfT c.k)=true) (hz:sz c.k≤200) (hn:name.size≤100) :
 Calls Tryz.prog 31 #[.int .i64 sc,.agg #[.int .i64 c.a.op,.int .i64 c.a.num,.string c.a.name,.slice c.a.ptr (len c.k) c.a.cap],.string name,.bool clk,.int .i64 kt,.bool cost] w fun e w'=>e=.returned (.int .i64 (quP sc c name clk kt cost))∧Below w.heap.size w w':=by
 have V:Hid (quP sc c name clk kt cost=if sc=1 then quA c clk cost name else if sc=2 then cbE (quA c clk cost (befN++name)) (quA c clk cost (aftN++name)) else if lhb name=true then cbE (thr (quA c false cost crdN) kt) (quA c false cost name) else thr (quA c false cost crdN) kt):=rfl
 generalize quP sc c name clk kt cost=R at *
 have HX:=Lib.hid hx
 have QF:=Lib.hid (fun (cb xb ob:Nat) (ck:Bool) (s:ByteArray) (wq:World) (h:QuB wq cb xb ob ck cost c)=>quf_any cb xb ob ck cost c s wq h hok hwf hz)
 have b0:Below w.heap.size w (((w.alloc (.cells #[.int .i64 c.a.op,.int .i64 c.a.num,.string c.a.name,.slice c.a.ptr (len c.k) c.a.cap] 25)).alloc (.cells #[.bool clk] 4)).alloc (.cells #[.bool cost] 4)):=by
  repeat (first|exact Below.refl _ _|refine Below.alloc ?_ (by first|exact Nat.le_refl _|(simp<;>omega)) _)
 have Q0:Hid (QuB (((w.alloc (.cells #[.int .i64 c.a.op,.int .i64 c.a.num,.string c.a.name,.slice c.a.ptr (len c.k) c.a.cap] 25)).alloc (.cells #[.bool clk] 4)).alloc (.cells #[.bool cost] 4)) (w.heap.size+1) w.heap.size (w.heap.size+1+1) clk cost c):=by
  refine ⟨by simp [go_sem],⟨?_,?_,?_,?_,?_,?_,?_,?_,?_⟩,by simp [go_sem],hx.next b0⟩<;>simp [go_sem]
 have B0:=Lib.hid b0
 clear b0 hx hok hwf hz
 go_enter Tryz.func31,Tryz.ntmps31
 by_cases h1:sc=1
 · have n1:(sc==1)=true:=by simp [h1]
   have RV:Hid (R=quA c clk cost name):=by unfold Hid;rw [V.out,if_pos h1]
   clear V h1
   go_wp2_with (go_at_call 61;refine (QF.out _ _ _ _ _ _ Q0.out).mono ?_;rintro e w1 ⟨rfl,hb⟩)
   go_ret
   exact ⟨ret_int RV.out.symm,B0.out.trans (hb.mono B0.out.size)⟩
 have n1:(sc==1)=false:=by simp [h1]
 by_cases h2:sc=2
 · have n2:(sc==2)=true:=by simp [h2]
   have RV:Hid (R=cbE (quA c clk cost (befN++name)) (quA c clk cost (aftN++name))):=by unfold Hid;rw [V.out,if_neg h1,if_pos h2]
   clear V h1 h2
   have l1:¬ 9223372036854775807 < 7+name.size:=by omega
   have l2:¬ 9223372036854775807 < 6+name.size:=by omega
   go_wp2_with (fail)
   refine (QF.out _ _ _ _ _ _ Q0.out).mono ?_
   rintro e w1 ⟨rfl,hb⟩
   have Q1:=Lib.hid (Q0.out.next hb)
   have B1:=Lib.hid (B0.out.trans (hb.mono B0.out.size))
   clear hb Q0 B0
   go_wp2_with (first
    | (go_at_call 61;refine (QF.out _ _ _ _ _ _ Q1.out).mono ?_;rintro e w2 ⟨rfl,hb⟩)
    | (go_at_call 30;refine (tcomb_any _ _ _).mono ?_;rintro e w' ⟨rfl,rfl⟩))
   go_ret
   exact ⟨ret_int RV.out.symm,B1.out.trans (hb.mono B1.out.size)⟩
 have n2:(sc==2)=false:=by simp [h2]
 have RW:Hid (R=if lhb name=true then cbE (thr (quA c false cost crdN) kt) (quA c false cost name) else thr (quA c false cost crdN) kt):=by unfold Hid;rw [V.out,if_neg h1,if_neg h2]
 clear V h1 h2 Q0 B0
 go_wp2_with (fail)
 have b0:Below w.heap.size w (((w.alloc (.cells #[.int .i64 c.a.op,.int .i64 c.a.num,.string c.a.name,.slice c.a.ptr (len c.k) c.a.cap] 25)).alloc (.cells #[.bool false] 4)).alloc (.cells #[.bool cost] 4)):=by
  repeat (first|exact Below.refl _ _|refine Below.alloc ?_ (by first|exact Nat.le_refl _|(simp<;>omega)) _)
 have Q0:Hid (QuB (((w.alloc (.cells #[.int .i64 c.a.op,.int .i64 c.a.num,.string c.a.name,.slice c.a.ptr (len c.k) c.a.cap] 25)).alloc (.cells #[.bool false] 4)).alloc (.cells #[.bool cost] 4)) (w.heap.size+1) w.heap.size (w.heap.size+1+1) false cost c):=by
  refine ⟨by simp [go_sem],⟨?_,?_,?_,?_,?_,?_,?_,?_,?_⟩,by simp [go_sem],HX.out.next b0⟩<;>simp [go_sem]
 have B0:=Lib.hid b0
 clear b0
 refine (QF.out _ _ _ _ _ _ Q0.out).mono ?_
 rintro e w1 ⟨rfl,hb⟩
 have Q1:=Lib.hid (Q0.out.next hb)
 have B1:=Lib.hid (B0.out.trans (hb.mono B0.out.size))
 clear hb Q0 B0
 go_wp2_with (first
  | (go_at_call 61;refine (QF.out _ _ _ _ _ _ Q1.out).mono ?_;rintro e w2 ⟨rfl,hb⟩)
  | (go_at_call 62;refine (tthr_any _ _ _).mono ?_;rintro e w' ⟨rfl,rfl⟩)
  | (go_at_call 30;refine (tcomb_any _ _ _).mono ?_;rintro e w' ⟨rfl,rfl⟩))
 all_goals first
  | (have RV:R=cbE (thr (quA c false cost crdN) kt) (quA c false cost name):=by rw [RW.out,if_pos (by unfold lhb;simp_all)]
     go_ret
     exact ⟨ret_int RV.symm,B1.out.trans (hb.mono B1.out.size)⟩)
  | (have RV:R=thr (quA c false cost crdN) kt:=by rw [RW.out,if_neg (by unfold lhb;simp_all)]
     go_ret
     exact ⟨ret_int RV.symm,B1.out⟩)
end
section
set_option linter.unusedVariables false
set_option linter.unusedSimpArgs false
open Go.RowKit
open Go.Deep (BT)
def rel (t v w:Int):Prop:=(t=0→v=w)∧(t=1→v≤w)∧(t=2→w≤v)
def tr3 (t:Int):Prop:=0≤t∧t≤3
theorem kn_in {t:Int} (h:tr3 t):kn t=t:=by unfold kn;unfold tr3 at h;rw [if_neg (by omega)]
theorem kn_rng (t:Int):tr3 (kn t):=by unfold kn tr3;split<;>omega
theorem cb_eq {a b:Int} (ha:tr3 a) (hb:tr3 b):cbE a b=if a=0 then b else if b=0∨a=b then a else 3:=by unfold cbE;rw [kn_in ha,kn_in hb]
theorem cb_rng (a b:Int):tr3 (cbE a b):=by
 unfold cbE
 have h1:=kn_rng a
 have h2:=kn_rng b
 unfold tr3 at *
 (repeat' split)<;>omega
theorem iv_rng (a:Int):tr3 (ivE a):=by
 unfold ivE
 have h1:=kn_rng a
 unfold tr3 at *
 (repeat' split)<;>omega
end
section
set_option linter.unusedVariables false
set_option linter.unusedSimpArgs false
open Go.RowKit
open Go.Deep (BT)
theorem sc_rng (t s:Int) (h:tr3 t):tr3 (scE t s):=by
 unfold scE
 split
 · unfold tr3;omega
 · split
   · exact h
   · exact iv_rng _
theorem name_rng (name:ByteArray) (clk:Bool) (s:ByteArray):tr3 (nameE name clk s):=by
 unfold nameE tr3
 (repeat' split)<;>omega
theorem fold_rng (D:List Int) (a:Int) (h:tr3 a):tr3 (D.foldl cbE a):=by
 induction D generalizing a with
 | nil=>exact h
 | cons d l ih=>exact ih _ (cb_rng _ _)
theorem pT_rng (name:ByteArray) (clk:Bool) (a:Nd) (S:List (Int × Bool)) (L:List Int) (h:∀ i,tr3 (L.getD i 0)):tr3 (pT1 name clk a S L):=by
 have z:tr3 0:=by unfold tr3;omega
 have t:tr3 3:=by unfold tr3;omega
 unfold pT1
 split
 · exact name_rng _ _ _
 split
 · exact z
 unfold pOp
 split
 · exact iv_rng _
 split
 · exact fold_rng _ _ z
 split
 · exact cb_rng _ _
 split
 · exact cb_rng _ _
 split
 · split
   · exact sc_rng _ _ (h 1)
   · split
     · exact sc_rng _ _ (h 0)
     · exact t
 split
 · split
   · exact sc_rng _ _ (h 0)
   · exact t
 split
 · split
   · exact cb_rng _ _
   · exact t
 exact t
end
section
set_option linter.unusedVariables false
set_option linter.unusedSimpArgs false
open Go.RowKit
open Go.Deep (BT)
theorem pTF_rng (name:ByteArray) (clk:Bool) (T:Fo):∀ i,tr3 ((pTF name clk T).getD i 0):=by
 induction T with
 | nil=>intro i;simp [pTF,tr3]
 | node b o a k r ihk ihr =>
   intro i
   cases i with
   | zero=>exact pT_rng name clk a _ _ ihk
   | succ i=>simpa [pTF] using ihr i
theorem pC_rng (name:ByteArray) (clk:Bool) (c:Ch):0≤pC name clk c∧pC name clk c≤3:=pT_rng name clk c.a _ _ (pTF_rng name clk c.k)
theorem at_bef (s:ByteArray):atS 2 (befN++s)=atS 1 s:=by
 have e:(befN++s).data.toList=Att.before++s.data.toList:=by simp [befN,Att.before]
 unfold atS
 rw [e]
 show Att.restT (Att.before++s.data.toList)=Att.dutyT s.data.toList
 unfold Att.restT
 rw [if_neg (by simp [Att.before,Att.rest]),if_neg (by simp [Att.before,Att.nights]),if_neg (by simp [Att.before,Att.home]),if_pos (by simp [Att.before,Lib.hasPrefix])]
 rfl
theorem at_aft (s:ByteArray):atS 2 (aftN++s)=atS 1 s:=by
 have e:(aftN++s).data.toList=Att.after++s.data.toList:=by simp [aftN,Att.after]
 unfold atS
 rw [e]
 show Att.restT (Att.after++s.data.toList)=Att.dutyT s.data.toList
 unfold Att.restT
 rw [if_neg (by simp [Att.after,Att.rest]),if_neg (by simp [Att.after,Att.nights]),if_neg (by simp [Att.after,Att.home]),if_neg (by simp [Att.after,Att.before,Lib.hasPrefix]),if_pos (by simp [Att.after,Lib.hasPrefix])]
 rfl
theorem at_pair (s:ByteArray):atS 3 s≠3:=by
 show Att.pairT s.data.toList≠3
 unfold Att.pairT
 (repeat' split)<;>omega
def paR (sc:Int) (x:Ch) (name:ByteArray) (kt:Int):Int :=
 if sc=1 then pC name (decide (atS 1 name=3)) x else if sc=2 then cbE (pC (befN++name) (decide (atS 2 (befN++name)=3)) x) (pC (aftN++name) (decide (atS 2 (aftN++name)=3)) x) else
 cbE (if lhb name=true then pC name (decide (atS sc name=3)) x else 0) (thr (pC crdN (decide (atS sc crdN=3)) x) kt)
theorem thr_rng (r k:Int) (hr:0≤r∧r≤3) (hk:0≤k∧k≤3):0≤thr r k∧thr r k≤3:=by
 have:=iv_rng k
 unfold tr3 at this
 unfold thr
 (repeat' split)<;>omega
theorem qu_pa (sc:Int) (x:Ch) (name:ByteArray) (kt:Int) (cost:Bool) (hs:sc=1∨sc=2∨sc=3) (hk:0≤kt∧kt≤3):quP sc x name (decide (atS 1 name=3)) kt cost=if cost=true then ivE (paR sc x name kt) else paR sc x name kt:=by
 rcases hs with rfl|rfl|rfl
 · show quA x _ cost name=_
   unfold quA
   rfl
 · show cbE (quA x (decide (atS 1 name=3)) cost (befN++name)) (quA x (decide (atS 1 name=3)) cost (aftN++name))=if cost=true then ivE (cbE (pC (befN++name) (decide (atS 2 (befN++name)=3)) x) (pC (aftN++name) (decide (atS 2 (aftN++name)=3)) x)) else cbE (pC (befN++name) (decide (atS 2 (befN++name)=3)) x) (pC (aftN++name) (decide (atS 2 (aftN++name)=3)) x)
   rw [at_bef,at_aft]
   unfold quA
   cases cost
   · rfl
   · exact (cb_inv _ _ (pC_rng _ _ x) (pC_rng _ _ x)).1
 · have e:∀ s,decide (atS 3 s=3)=false:=fun s=>decide_eq_false (at_pair s)
   have p1:=pC_rng crdN false x
   have p2:=pC_rng name false x
   have t1:=thr_rng _ kt p1 hk
   have z:∀ u:Int,0≤u∧u≤3→cbE 0 u=u:=fun u hu=>by rw [cb_eq (by unfold tr3;omega) hu,if_pos rfl]
   show (if lhb name=true then cbE (thr (quA x false cost crdN) kt) (quA x false cost name) else thr (quA x false cost crdN) kt)=if cost=true then ivE (cbE (if lhb name=true then pC name (decide (atS 3 name=3)) x else 0) (thr (pC crdN (decide (atS 3 crdN=3)) x) kt)) else cbE (if lhb name=true then pC name (decide (atS 3 name=3)) x else 0) (thr (pC crdN (decide (atS 3 crdN=3)) x) kt)
   rw [e,e]
   unfold quA
   cases cost
   · by_cases h:lhb name=true
     · rw [if_pos h,if_pos h]
       exact (cb_inv _ _ t1 p2).2
     · rw [if_neg h,if_neg h]
       exact (z _ t1).symm
   · by_cases h:lhb name=true
     · rw [if_pos h,if_pos h]
       show cbE (thr (ivE (pC crdN false x)) kt) (ivE (pC name false x))=ivE (cbE (pC name false x) (thr (pC crdN false x) kt))
       rw [thr_inv _ _ p1 hk,(cb_inv _ _ t1 p2).1,(cb_inv _ _ t1 p2).2]
     · rw [if_neg h,if_neg h]
       show thr (ivE (pC crdN false x)) kt=ivE (cbE 0 (thr (pC crdN false x) kt))
       rw [thr_inv _ _ p1 hk,z _ t1]
end
end Go.Proofs.YtfoedbfkddoibaaGreat
