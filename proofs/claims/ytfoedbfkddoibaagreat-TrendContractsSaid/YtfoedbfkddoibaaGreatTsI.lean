import Derived.Test.YtfoedbfkddoibaaGreatTsD
import Derived.Test.YtfoedbfkddoibaaGreatTsH
namespace Go.Proofs.YtfoedbfkddoibaaGreat
set_option linter.unusedVariables false
set_option linter.unusedSimpArgs false
open Go.ChangeShapes Go.WideShapes Go.ChangeAt Go.RowKit
open Go.Deep (BT)
theorem below_then {w a b:World} (h2:Below a.heap.size a b) (h1:Below w.heap.size w a):Below w.heap.size w b:=h1.trans (h2.mono h1.size)
theorem FoAv.all {Av:Nat→Prop} (h:∀ g,Av g) (T:Fo) (B:Nat):FoAv Av T B:=by
 induction T generalizing B with
 | nil=>trivial
 | node b o a k r ihk ihr=>exact ⟨h _,ihk _,ihr _⟩
theorem BX4.set4 {w:World} {g:Nat} {v0 v1 v2 v3:Value} (h:BX4 w g v0 v1 v2 v3) (a b c d:Value):BX4 ((((w.setCell ⟨g,0,none⟩ a).setCell ⟨g,1,none⟩ b).setCell ⟨g,2,none⟩ c).setCell ⟨g,3,none⟩ d) g a b c d:=by
 obtain ⟨r0,r1,r2,r3,f0,f1,f2,f3,hl⟩:=h
 refine ⟨?_,?_,?_,?_,?_,?_,?_,?_,by simp [World.setCell];exact hl⟩<;>simp [go_sem,r0,r1,r2,r3,f0,f1,f2,f3]
def SimpR (w:World) (r:Ch × Int) (e:Ending) (w':World):Prop :=
 ∃ c:Ch,e=.returned (.tuple #[.agg #[.int .i64 c.a.op,.int .i64 c.a.num,.string c.a.name,.slice c.a.ptr (len c.k) c.a.cap],.int .i64 r.2])∧ec c=r.1∧ExAt w' c.b c.o c.a c.k∧Below w.heap.size w w'
def SimpRA (w:World) (Av:Nat→Prop) (r:Ch × Int) (e:Ending) (w':World):Prop :=
 ∃ c:Ch,e=.returned (.tuple #[.agg #[.int .i64 c.a.op,.int .i64 c.a.num,.string c.a.name,.slice c.a.ptr (len c.k) c.a.cap],.int .i64 r.2])∧ec c=r.1∧ExAt w' c.b c.o c.a c.k∧FoAv Av c.k c.b∧Below w.heap.size w w'
set_option maxHeartbeats 8000000 in
set_option maxRecDepth 100000 in
theorem simplifyRA_any (Av:Nat→Prop) (cs:List Cn) (p:Option Addr) (cap:Nat) (sc:Int) (b o:Nat) (op num:Int) (name:ByteArray) (ptr:Option Addr) (acap:Nat) (k:Fo) (w:World) (hcs:CsV w cs p) (hcap:cs.length≤cap) (hx:ExAt w b o ⟨op,num,name,ptr,acap⟩ k) (hok:ExOk ⟨op,num,name,ptr,acap⟩ k) (hav:FoAv Av k b) (hfr:∀ g,w.heap.size≤g→Av g) :
 Calls Tryz.prog 23 #[.slice p cs.length cap,.int .i64 sc,.agg #[.int .i64 op,.int .i64 num,.string name,.slice ptr (len k) acap]] w (SimpRA w Av (simpR cs sc ⟨op,num,name,ptr,acap⟩ k)):=by
 have AFREE:=Lib.hid hfr
 have HAV:=Lib.hid hav
 have HCS:=Lib.hid hcs
 have HX:=Lib.hid hx
 have HOK:=Lib.hid hok
 have TY:Hid ((typeOfT cs sc ⟨op,num,name,ptr,acap⟩ k).2=0→valE ⟨op,num,name,ptr,acap⟩ k=0∧(tyT (lookT cs (tabN cs cs.length)) sc ⟨op,num,name,ptr,acap⟩ k).2=0):=by
  intro q
  unfold typeOfT at q
  by_cases hv:valE ⟨op,num,name,ptr,acap⟩ k=0
  · rw [if_pos hv] at q;exact ⟨hv,q⟩
  · rw [if_neg hv] at q;exact absurd q hv
 have SR:Hid (simpR cs sc ⟨op,num,name,ptr,acap⟩ k=if (typeOfT cs sc ⟨op,num,name,ptr,acap⟩ k).2≠0 then (dE 0 0 noN,(typeOfT cs sc ⟨op,num,name,ptr,acap⟩ k).2) else if valE (simT (lookT cs (tabN cs cs.length)) (cvT cs) sc ⟨op,num,name,ptr,acap⟩ k).a (simT (lookT cs (tabN cs cs.length)) (cvT cs) sc ⟨op,num,name,ptr,acap⟩ k).k=10 then (dE 0 0 noN,10) else ((simT (lookT cs (tabN cs cs.length)) (cvT cs) sc ⟨op,num,name,ptr,acap⟩ k),0)):=rfl
 have SM:Hid (valE ⟨op,num,name,ptr,acap⟩ k=0→(tyT (lookT cs (tabN cs cs.length)) sc ⟨op,num,name,ptr,acap⟩ k).2=0→(wfB (simT (lookT cs (tabN cs cs.length)) (cvT cs) sc ⟨op,num,name,ptr,acap⟩ k).a (len (simT (lookT cs (tabN cs cs.length)) (cvT cs) sc ⟨op,num,name,ptr,acap⟩ k).k) && wfT (simT (lookT cs (tabN cs cs.length)) (cvT cs) sc ⟨op,num,name,ptr,acap⟩ k).k)=true∧LnC (simT (lookT cs (tabN cs cs.length)) (cvT cs) sc ⟨op,num,name,ptr,acap⟩ k)):=by
  intro hv ht
  obtain ⟨h1,h2⟩:=val_ok ⟨op,num,name,ptr,acap⟩ k hv
  exact ⟨(sim_sm _ _ sc (cvok_of cs cs.length) ⟨op,num,name,ptr,acap⟩ k ht h1).1.wf,sim_lnc _ _ sc ⟨op,num,name,ptr,acap⟩ k (Nat.le_trans (len_le_sz k) h2) (sz_lnb k h2)⟩
 have FD:Hid (∀ (w':World) (vv:Value) (Av:Nat→Prop),CsV w' cs p→IntsAt w' vv (cvN cs cs.length)→ExAt w' b o ⟨op,num,name,ptr,acap⟩ k→valE ⟨op,num,name,ptr,acap⟩ k=0→(tyT (lookT cs (tabN cs cs.length)) sc ⟨op,num,name,ptr,acap⟩ k).2=0→FoAv Av k b→(∀ g,w'.heap.size≤g→Av g) →
  Calls Tryz.prog 49 #[vv,.slice p cs.length cap,.int .i64 sc,.agg #[.int .i64 op,.int .i64 num,.string name,.slice ptr (len k) acap]] w' (ReP w' Av (simT (lookT cs (tabN cs cs.length)) (cvT cs) sc ⟨op,num,name,ptr,acap⟩ k))):=by
  intro w' vv Av h1 h2 h3 hv ht ha hf
  obtain ⟨hw,h5⟩:=val_ok ⟨op,num,name,ptr,acap⟩ k hv
  have hfit:fitB 0 1 k=true:=by
   unfold valE at hv
   by_cases q:fitB 0 1 k=true
   · exact q
   · rw [if_neg q] at hv;cases hv
  unfold fitB at hfit
  rw [decide_eq_true_eq] at hfit
  exact rf_of cs sc b o ⟨op,num,name,ptr,acap⟩ k w' Av p cap vv h1 hcap h2 h3 HOK.out hw (by omega) (by omega) ht ha hf
 have TA:=Lib.hid (fun (w:World) hcs hx=>rtypeof_any cs p cap sc b o op num name ptr acap k w hcs hcap hx hok)
 have RCS:=Lib.hid (fun (w:World) hcs=>rconsts_any cs p cap w hcs hcap)
 clear hcs hx hok hav hfr
 generalize simpR cs sc ⟨op,num,name,ptr,acap⟩ k=R at *
 generalize typeOfT cs sc ⟨op,num,name,ptr,acap⟩ k=t at *
 have hba:Hid (Below w.heap.size w ((w.alloc (.cells #[.int .i64 op,.int .i64 num,.string name,.slice ptr (len k) acap] 25)).alloc (.cells #[.int .i64 0,.int .i64 0,.string ⟨#[]⟩,.slice none 0 0] 25))):=(below_box w _).trans ((below_box _ _).mono (by simp))
 have YB0:=Lib.hid ((BX4.new w (.int .i64 op) (.int .i64 num) (.string name) (.slice ptr (len k) acap) 25).next (below_box _ (.cells #[.int .i64 0,.int .i64 0,.string ⟨#[]⟩,.slice none 0 0] 25)))
 have RB0:Hid (BX4 ((w.alloc (.cells #[.int .i64 op,.int .i64 num,.string name,.slice ptr (len k) acap] 25)).alloc (.cells #[.int .i64 0,.int .i64 0,.string ⟨#[]⟩,.slice none 0 0] 25)) (w.heap.size+1) (.int .i64 0) (.int .i64 0) (.string ⟨#[]⟩) (.slice none 0 0)):=by
  have h:=BX4.new (w.alloc (.cells #[.int .i64 op,.int .i64 num,.string name,.slice ptr (len k) acap] 25)) (.int .i64 0) (.int .i64 0) (.string ⟨#[]⟩) (.slice none 0 0) 25
  rw [World.size_alloc] at h
  exact h
 go_enter Tryz.func23,Tryz.ntmps23
 go_wp2_with fail
 refine (TA.out ((w.alloc (.cells #[.int .i64 op,.int .i64 num,.string name,.slice ptr (len k) acap] 25)).alloc (.cells #[.int .i64 0,.int .i64 0,.string ⟨#[]⟩,.slice none 0 0] 25)) (HCS.out.next hba.out) (HX.out.next hba.out)).mono ?_
 rintro e w1 ⟨rfl,hb⟩
 have YB1:=Lib.hid (YB0.out.next hb)
 have RB1:=Lib.hid (RB0.out.next hb)
 have B1:=Lib.hid (hba.out.trans (hb.mono hba.out.size))
 clear hb YB0 RB0 TA
 have hz1:w.heap.size+1 < w1.heap.size:=RB1.out.lt
 by_cases h0:t.2=0
 · have n0 : (t.2 != 0)=false:=by simp [h0]
   have T:=Lib.hid (TY.out h0)
   have SR2:=SR.out
   rw [if_neg (by simp [h0])] at SR2
   have SRH:=Lib.hid SR2
   have SMH:=Lib.hid (SM.out T.out.1 T.out.2)
   clear SR2 SR SM TY
   have CS1:=Lib.hid (HCS.out.next B1.out)
   have HX1:=Lib.hid (HX.out.next B1.out)
   have AV0:Hid (FoAv (fun g=>Av g∧g < w.heap.size) k b):=FoAv.lt HX.out.2 HAV.out
   have BK:=Lib.hid (Below.refl w1.heap.size w1)
   have hzk:w1.heap.size≤w1.heap.size:=Nat.le_refl _
   have hzz:w.heap.size < w1.heap.size:=by omega
   have F1:Hid (∀ (w':World) (vv:Value),Below w1.heap.size w1 w'→IntsAt w' vv (cvN cs cs.length)→Calls Tryz.prog 49 #[vv,.slice p cs.length cap,.int .i64 sc,.agg #[.int .i64 op,.int .i64 num,.string name,.slice ptr (len k) acap]] w' (ReP w' (fun g=>(Av g∧g < w.heap.size)∨w'.heap.size≤g) (simT (lookT cs (tabN cs cs.length)) (cvT cs) sc ⟨op,num,name,ptr,acap⟩ k))) :=
    fun w' vv hb hv=>FD.out w' vv _ (CS1.out.next hb) hv (HX1.out.next hb) T.out.1 T.out.2 (AV0.out.mono fun g h=>.inl h) (fun g h=>.inr h)
   obtain ⟨x0,x1,x2,x3,-,-,-,-,-⟩:=YB1.out
   clear FD HX1 AV0 HCS HX T
   generalize (simT (lookT cs (tabN cs cs.length)) (cvT cs) sc ⟨op,num,name,ptr,acap⟩ k)=X at *
   go_upto_region 4 with (fail)
   go_cut [10] (fun v wx=>∃ (tb:Nat) (c:Ch),v=.pointer (some ⟨tb,0,none⟩)∧Hid (BX4 wx tb (.int .i64 c.a.op) (.int .i64 c.a.num) (.string c.a.name) (.slice c.a.ptr (len c.k) c.a.cap)∧ec c=X∧ExAt wx c.b c.o c.a c.k∧FoAv (fun g=>g≠w.heap.size+1∧Av g) c.k c.b∧Below w1.heap.size w1 wx))
   case first =>
    go_region_with (first
     | (go_at_call 50;go_must (refine (RCS.out _ (CS1.out.next (by (repeat (first|exact BK.out|exact Below.refl _ _|refine Below.drew ?_|refine Below.alloc ?_ (by first|exact Nat.le_refl _|assumption|(simp<;>omega)) _))))).mono ?_;rintro e wk ⟨vv,rfl,hiv,hb⟩;have IV:=Lib.hid hiv;have BKn:Hid (Below w1.heap.size w1 wk):=below_then hb (by (repeat (first|exact BK.out|exact Below.refl _ _|refine Below.drew ?_|refine Below.alloc ?_ (by first|exact Nat.le_refl _|assumption|(simp<;>omega)) _)));clear BK hzk;have BK:=BKn;clear BKn;have hzk:=BK.out.size;have hbC:=Lib.hid hb;have YK:=Lib.hid (YB1.out.next BK.out);have hzz2:w.heap.size < wk.heap.size:=(by omega);clear hb hiv x0 x1 x2 x3;obtain ⟨x0,x1,x2,x3,-,-,-,-,-⟩:=YK.out))
     | (go_at_call 49;go_must (refine (F1.out _ vv (by (repeat (first|exact BK.out|exact Below.refl _ _|refine Below.drew ?_|refine Below.alloc ?_ (by first|exact Nat.le_refl _|assumption|(simp<;>omega)) _))) (by first|exact IV.out|exact IV.out.next (below_box _ _))).mono ?_;rintro e wf ⟨c,rfl,hc,hcx,hca,hcb⟩;have EF:=Lib.hid hc;have XF:=Lib.hid hcx;have AF:=Lib.hid hca;have BF:Hid (Below w1.heap.size w1 wf):=below_then hcb (by (repeat (first|exact BK.out|exact Below.refl _ _|refine Below.drew ?_|refine Below.alloc ?_ (by first|exact Nat.le_refl _|assumption|(simp<;>omega)) _)));have hzf:=hcb.size;first
         | (guard_hyp hbC:Hid (Below (w1.alloc (.cells #[.int .i64 0,.int .i64 0,.string ⟨#[]⟩,.slice none 0 0] 25)).drew.heap.size (w1.alloc (.cells #[.int .i64 0,.int .i64 0,.string ⟨#[]⟩,.slice none 0 0] 25)).drew wk);have TB:Hid (BX4 wf w1.heap.size (.int .i64 0) (.int .i64 0) (.string ⟨#[]⟩) (.slice none 0 0)):=((((BX4.new w1 (.int .i64 0) (.int .i64 0) (.string ⟨#[]⟩) (.slice none 0 0) 25).next ((Below.refl _ _).drew)).next hbC.out).next hcb);have htb:w1.heap.size < wk.heap.size:=(by have:=hbC.out.size;simp at this;omega);obtain ⟨t0,t1,t2,t3,q0,q1,q2,q3,-⟩:=TB.out)
         | (guard_hyp hcb:Below (wk.alloc (.cells #[.int .i64 0,.int .i64 0,.string ⟨#[]⟩,.slice none 0 0] 25)).heap.size (wk.alloc (.cells #[.int .i64 0,.int .i64 0,.string ⟨#[]⟩,.slice none 0 0] 25)) wf;have TB:Hid (BX4 wf wk.heap.size (.int .i64 0) (.int .i64 0) (.string ⟨#[]⟩) (.slice none 0 0)):=((BX4.new wk (.int .i64 0) (.int .i64 0) (.string ⟨#[]⟩) (.slice none 0 0) 25).next hcb);obtain ⟨t0,t1,t2,t3,q0,q1,q2,q3,-⟩:=TB.out)
         | skip)))
    all_goals (go_wp2;go_meet)
    all_goals (first
     | exact ⟨_,c,rfl,BX4.set4 TB.out _ _ _ _,EF.out,XF.out.av4 (AF.out.mono fun g h=>by rcases h with h|h<;>(try simp at h)<;>omega),AF.out.mono (fun g h=>(by rcases h with h|h;exact And.intro (by omega) h.1;(try simp at h);exact And.intro (by omega) (AFREE.out g (by omega)))),set4_below BF.out (by omega)⟩
     | exact ⟨_,c,rfl,BX4.new wf _ _ _ _ _,EF.out,XF.out.next (below_box _ _),AF.out.mono (fun g h=>(by rcases h with h|h;exact And.intro (by omega) h.1;(try simp at h);exact And.intro (by omega) (AFREE.out g (by omega)))),BF.out.trans ((below_box _ _).mono BF.out.size)⟩)
   case rest =>
    obtain ⟨tb,c,rfl,HD⟩:=hcut
    have EF:Hid (ec c=X):=HD.out.2.1
    have XF:Hid (ExAt wc c.b c.o c.a c.k):=HD.out.2.2.1
    have AF:Hid (FoAv (fun g=>g≠w.heap.size+1∧Av g) c.k c.b):=HD.out.2.2.2.1
    have B4:Hid (Below w.heap.size w wc):=B1.out.trans (HD.out.2.2.2.2.mono B1.out.size)
    have RB4:=Lib.hid (RB1.out.next HD.out.2.2.2.2)
    have LC:Hid (LnC c):=(lnc_ec c).1 (by rw [EF.out];exact SMH.out.2)
    have WC2:Hid (wfB c.a (len c.k)=true∧wfT c.k=true):=by
     have h:=SMH.out.1
     rw [← EF.out] at h
     have h2:(wfB c.a (len (ef c.k)) && wfT (ef c.k))=true:=h
     rw [ef_len,wfT_ef,Bool.and_eq_true] at h2
     exact h2
    have VX:Hid (valE X.a X.k=valE ⟨c.a.op,c.a.num,c.a.name,c.a.ptr,c.a.cap⟩ c.k∧(valE ⟨c.a.op,c.a.num,c.a.name,c.a.ptr,c.a.cap⟩ c.k=0∨valE ⟨c.a.op,c.a.num,c.a.name,c.a.ptr,c.a.cap⟩ c.k=10)):=by
     refine ⟨by rw [← EF.out];exact valE_ec c,?_⟩
     unfold valE
     split
     · left
       exact if_pos (by rw [Bool.and_eq_true];exact WC2.out)
     · right;rfl
    have VC:=Lib.hid (rvexpr_any c.b c.o c.a.op c.a.num c.a.name c.a.ptr c.a.cap c.k wc XF.out ⟨nd_ok c.a (len c.k) WC2.out.1 LC.out.1,fo_ok c.k WC2.out.2 LC.out.2⟩)
    obtain ⟨c0,c1,c2,c3,-,-,-,-,-⟩:=HD.out.1
    clear x0 x1 x2 x3 F1 RCS CS1 YB1 BK
    have hz4:w.heap.size+1 < wc.heap.size:=RB4.out.lt
    go_wp2_with fail
    refine VC.out.mono ?_
    rintro e w4 ⟨rfl,hb⟩
    have B5:=Lib.hid (B4.out.trans (hb.mono B4.out.size))
    have X6:=Lib.hid (XF.out.next hb)
    have RB6:=Lib.hid (RB4.out.next hb)
    have C6:=Lib.hid (HD.out.1.next hb)
    clear hb VC RB4 XF B4 c0 c1 c2 c3
    obtain ⟨c0,c1,c2,c3,-,-,-,-,-⟩:=C6.out
    obtain ⟨r0,r1,r2,r3,f0,f1,f2,f3,-⟩:=RB6.out
    by_cases hv:valE ⟨c.a.op,c.a.num,c.a.name,c.a.ptr,c.a.cap⟩ c.k=10
    · have nv:(valE ⟨c.a.op,c.a.num,c.a.name,c.a.ptr,c.a.cap⟩ c.k != 0)=true:=by rw [hv];rfl
      have e1:Hid (R=(dE 0 0 noN,10)):=by unfold Hid;rw [SRH.out,if_pos (by rw [VX.out.1];exact hv)]
      clear hv SRH
      go_wp2
      refine bodyPost_ret (v:=.tuple #[.agg #[.int .i64 0,.int .i64 0,.string ⟨#[]⟩,.slice none 0 0],.int .i64 10]) ?_ rfl ?_
      · rw [results_cell_tmp rfl];go_simp
      · rw [e1.out]
        exact ⟨⟨0,0,⟨0,0,⟨#[]⟩,none,0⟩,.nil⟩,rfl,rfl,⟨fun q=>absurd rfl q,trivial⟩,trivial,set4_below B5.out (by omega)⟩
    · have hv0:valE ⟨c.a.op,c.a.num,c.a.name,c.a.ptr,c.a.cap⟩ c.k=0:=VX.out.2.resolve_right hv
      have nv:(valE ⟨c.a.op,c.a.num,c.a.name,c.a.ptr,c.a.cap⟩ c.k != 0)=false:=by rw [hv0];rfl
      have e1:Hid (R=(ec c,0)):=by unfold Hid;rw [SRH.out,if_neg (by rw [VX.out.1];exact hv),EF.out]
      clear hv hv0 SRH
      go_wp2
      refine bodyPost_ret (v:=.tuple #[.agg #[.int .i64 c.a.op,.int .i64 c.a.num,.string c.a.name,.slice c.a.ptr (len c.k) c.a.cap],.int .i64 0]) ?_ rfl ?_
      · rw [results_cell_tmp rfl];go_simp
      · rw [e1.out]
        exact ⟨c,rfl,rfl,X6.out.av4 (AF.out.mono fun g h=>h.1),AF.out.mono (fun g h=>h.2),set4_below B5.out (by omega)⟩
 · have n0:(t.2 != 0)=true:=by simp [h0]
   have e1:Hid (R=(dE 0 0 noN,t.2)):=by unfold Hid;rw [SR.out,if_pos h0]
   obtain ⟨r0,r1,r2,r3,f0,f1,f2,f3,-⟩:=RB1.out
   clear SR SM TY
   go_wp2
   refine bodyPost_ret (v:=.tuple #[.agg #[.int .i64 0,.int .i64 0,.string ⟨#[]⟩,.slice none 0 0],.int .i64 t.2]) ?_ rfl ?_
   · rw [results_cell_tmp rfl];go_simp
   · rw [e1.out]
     exact ⟨⟨0,0,⟨0,0,⟨#[]⟩,none,0⟩,.nil⟩,rfl,rfl,⟨fun q=>absurd rfl q,trivial⟩,trivial,set4_below B1.out (by omega)⟩
theorem simplifyR_any (cs:List Cn) (p:Option Addr) (cap:Nat) (sc:Int) (b o:Nat) (op num:Int) (name:ByteArray) (ptr:Option Addr) (acap:Nat) (k:Fo) (w:World) (hcs:CsV w cs p) (hcap:cs.length≤cap) (hx:ExAt w b o ⟨op,num,name,ptr,acap⟩ k) (hok:ExOk ⟨op,num,name,ptr,acap⟩ k) :
 Calls Tryz.prog 23 #[.slice p cs.length cap,.int .i64 sc,.agg #[.int .i64 op,.int .i64 num,.string name,.slice ptr (len k) acap]] w (SimpR w (simpR cs sc ⟨op,num,name,ptr,acap⟩ k)) :=
 (simplifyRA_any (fun _=>True) cs p cap sc b o op num name ptr acap k w hcs hcap hx hok (FoAv.all (fun _=>trivial) k b) (fun _ _=>trivial)).mono fun _ _ ⟨c,h1,h2,h3,_,h5⟩=>⟨c,h1,h2,h3,h5⟩
end Go.Proofs.YtfoedbfkddoibaaGreat
