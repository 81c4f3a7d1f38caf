import Derived.Test.YtfoedbfkddoibaaGreatTs1
namespace Go.Proofs.YtfoedbfkddoibaaGreat
set_option linter.unusedVariables false
set_option linter.unusedSimpArgs false
open Go.ChangeShapes Go.WideShapes Go.ChangeAt Go.RowKit
open Go.Deep (BT)
theorem results_cell_tmp {fn:Func} {p u:Tmp} {ty:TypeId} (h:fn.results=#[.cell p ty,.tmp u]) (tmps:Array Value) (P:Program) (w:World) :
 (results fn tmps).run P w=((asAddr (tmps.getD p undef)).run P w).andThen fun a w₁=>((loadVar ty a).run P w₁).andThen fun v w₂=>.ok (.tuple #[v,tmps.getD u undef]) w₂:=by
 simp only [results,h]
 simp [Sem.run_bind,Result.andThen]
theorem sz_ef (T:Fo):sz (ef T)=sz T:=by
 induction T with
 | nil=>rfl
 | node b o a k r ihk ihr=>show 1+sz (ef k)+sz (ef r)=1+sz k+sz r;rw [ihk,ihr]
theorem dp_ef (T:Fo):dp (ef T)=dp T:=by
 induction T with
 | nil=>rfl
 | node b o a k r ihk ihr=>simp only [ef,dp,ihk,ihr]
theorem valE_ec (c:Ch):valE (ec c).a (ec c).k=valE c.a c.k:=by
 unfold valE fitB
 show (if decide ((0:Int)+1+sz (ef c.k)≤200∧(1:Int)+dp (ef c.k)≤16)=true then (if (wfB ⟨c.a.op,c.a.num,c.a.name,none,0⟩ (len (ef c.k)) && wfT (ef c.k))=true then (0:Int) else 1) else 10)=_
 rw [sz_ef,dp_ef,ef_len,wfT_ef]
 rfl
def simpR (cs:List Cn) (sc:Int) (a:Nd) (k:Fo):Ch × Int :=
 if (typeOfT cs sc a k).2≠0 then (dE 0 0 noN,(typeOfT cs sc a k).2) else
 if valE (simT (lookT cs (tabN cs cs.length)) (cvT cs) sc a k).a (simT (lookT cs (tabN cs cs.length)) (cvT cs) sc a k).k=10 then (dE 0 0 noN,10) else (simT (lookT cs (tabN cs cs.length)) (cvT cs) sc a k,0)
def SimpP (w:World) (r:Ch × Int) (e:Ending) (w':World):Prop :=
 ∃ c:Ch,e=.returned (.tuple #[.agg #[.int .i64 c.a.op,.int .i64 c.a.num,.string c.a.name,.slice c.a.ptr (len c.k) c.a.cap],.int .i64 r.2])∧ec c=r.1∧ChAt w' w.heap.size c∧Below w.heap.size w w'
theorem simp_store {w wx:World} {r:Nat} {c:Ch} {x:Ch} {e:Int} {B:Nat} {u0 u1 u2 u3:Value} (hc:ec c=x) (hx:ChAt wx B c) (hg:Below w.heap.size w wx) (hr:w.heap.size≤r) (hB:r < B) :
 SimpP w (x,e) (.returned (.tuple #[.agg #[.int .i64 c.a.op,.int .i64 c.a.num,.string c.a.name,.slice c.a.ptr (len c.k) c.a.cap],.int .i64 e])) ((((wx.setCell ⟨r,0,none⟩ u0).setCell ⟨r,1,none⟩ u1).setCell ⟨r,2,none⟩ u2).setCell ⟨r,3,none⟩ u3) :=
 ⟨c,rfl,hc,(ExAt.set4 hx hB).mono (by omega),set4_below hg hr⟩
set_option maxHeartbeats 8000000 in
theorem simplifyF_any (cs:List Cn) (p:Option Addr) (cap:Nat) (sc:Int) (b o:Nat) (op num:Int) (name:ByteArray) (ptr:Option Addr) (acap:Nat) (k:Fo) (w:World) (hcs:CsV w cs p) (hx:ExAt w b o ⟨op,num,name,ptr,acap⟩ k) (hok:ExOk ⟨op,num,name,ptr,acap⟩ k) :
 Calls Tryz.prog 20 #[.slice p cs.length cap,.int .i64 sc,.agg #[.int .i64 op,.int .i64 num,.string name,.slice ptr (len k) acap]] w (SimpP w (simpR cs sc ⟨op,num,name,ptr,acap⟩ k)):=by
 have HCS:=Lib.hid hcs
 have HX:=Lib.hid hx
 have HOK:=Lib.hid hok
 have hcl:=hcs.small
 have TY:Hid ((typeOfT cs sc ⟨op,num,name,ptr,acap⟩ k).2=0→valE ⟨op,num,name,ptr,acap⟩ k=0∧(tyT (lookT cs (tabN cs cs.length)) sc ⟨op,num,name,ptr,acap⟩ k).2=0∧typeOfT cs sc ⟨op,num,name,ptr,acap⟩ k=tyT (lookT cs (tabN cs cs.length)) sc ⟨op,num,name,ptr,acap⟩ k):=by
  intro q
  unfold typeOfT at q ⊢
  by_cases hv:valE ⟨op,num,name,ptr,acap⟩ k=0
  · rw [if_pos hv] at q ⊢;exact ⟨hv,q,rfl⟩
  · rw [if_neg hv] at q;exact absurd q hv
 have SR:Hid (simpR cs sc ⟨op,num,name,ptr,acap⟩ k=if (typeOfT cs sc ⟨op,num,name,ptr,acap⟩ k).2≠0 then (dE 0 0 noN,(typeOfT cs sc ⟨op,num,name,ptr,acap⟩ k).2) else if valE (simT (lookT cs (tabN cs cs.length)) (cvT cs) sc ⟨op,num,name,ptr,acap⟩ k).a (simT (lookT cs (tabN cs cs.length)) (cvT cs) sc ⟨op,num,name,ptr,acap⟩ k).k=10 then (dE 0 0 noN,10) else (simT (lookT cs (tabN cs cs.length)) (cvT cs) sc ⟨op,num,name,ptr,acap⟩ k,0)):=rfl
 have SM:Hid (valE ⟨op,num,name,ptr,acap⟩ k=0→(tyT (lookT cs (tabN cs cs.length)) sc ⟨op,num,name,ptr,acap⟩ k).2=0→(wfB (simT (lookT cs (tabN cs cs.length)) (cvT cs) sc ⟨op,num,name,ptr,acap⟩ k).a (len (simT (lookT cs (tabN cs cs.length)) (cvT cs) sc ⟨op,num,name,ptr,acap⟩ k).k) && wfT (simT (lookT cs (tabN cs cs.length)) (cvT cs) sc ⟨op,num,name,ptr,acap⟩ k).k)=true∧LnC (simT (lookT cs (tabN cs cs.length)) (cvT cs) sc ⟨op,num,name,ptr,acap⟩ k)):=by
  intro hv ht
  obtain ⟨h1,h2⟩:=val_ok ⟨op,num,name,ptr,acap⟩ k hv
  exact ⟨(sim_sm _ _ sc (cvok_of cs cs.length) ⟨op,num,name,ptr,acap⟩ k ht h1).1.wf,sim_lnc _ _ sc ⟨op,num,name,ptr,acap⟩ k (Nat.le_trans (len_le_sz k) h2) (sz_lnb k h2)⟩
 have SA:=Lib.hid (fun (w:World) (sb mb:Nat) (kp:Option Addr) hj hcs hx hv ht hf=>simplify_any cs cs.length sc b o ⟨op,num,name,ptr,acap⟩ k w (fun _=>True) sb mb kp p cap hj hcs hx hok (val_ok ⟨op,num,name,ptr,acap⟩ k hv).1 (Nat.le_trans (len_le_sz k) (val_ok ⟨op,num,name,ptr,acap⟩ k hv).2) (sz_lnb k (val_ok ⟨op,num,name,ptr,acap⟩ k hv).2) ht hf hcl)
 have TA:=Lib.hid (fun (w:World) hcs hx=>typeof_any cs p cap sc b o op num name ptr acap k w hcs hx hok)
 have hmm:=@run_makeMap Tryz.prog
 clear hcs hx hok
 generalize simpR cs sc ⟨op,num,name,ptr,acap⟩ k=R at *
 generalize typeOfT cs sc ⟨op,num,name,ptr,acap⟩ k=t at *
 have hba:Hid (Below w.heap.size w ((w.alloc (.cells #[.int .i64 op,.int .i64 num,.string name,.slice ptr (len k) acap] 25)).alloc (.cells #[.int .i64 0,.int .i64 0,.string ⟨#[]⟩,.slice none 0 0] 25))):=(below_box w _).trans ((below_box _ _).mono (by simp))
 have YB0:=Lib.hid ((BX4.new w (.int .i64 op) (.int .i64 num) (.string name) (.slice ptr (len k) acap) 25).next (below_box _ (.cells #[.int .i64 0,.int .i64 0,.string ⟨#[]⟩,.slice none 0 0] 25)))
 have RB0:Hid (BX4 ((w.alloc (.cells #[.int .i64 op,.int .i64 num,.string name,.slice ptr (len k) acap] 25)).alloc (.cells #[.int .i64 0,.int .i64 0,.string ⟨#[]⟩,.slice none 0 0] 25)) (w.heap.size+1) (.int .i64 0) (.int .i64 0) (.string ⟨#[]⟩) (.slice none 0 0)):=by
  have h:=BX4.new (w.alloc (.cells #[.int .i64 op,.int .i64 num,.string name,.slice ptr (len k) acap] 25)) (.int .i64 0) (.int .i64 0) (.string ⟨#[]⟩) (.slice none 0 0) 25
  rw [World.size_alloc] at h
  exact h
 go_enter Tryz.func20,Tryz.ntmps20
 go_wp2_with fail
 refine (TA.out ((w.alloc (.cells #[.int .i64 op,.int .i64 num,.string name,.slice ptr (len k) acap] 25)).alloc (.cells #[.int .i64 0,.int .i64 0,.string ⟨#[]⟩,.slice none 0 0] 25)) (HCS.out.keep (Keeps.of_below hba.out)) (HX.out.next hba.out)).mono ?_
 rintro e w1 ⟨rfl,hb⟩
 have YB1:=Lib.hid (YB0.out.next hb)
 have RB1:=Lib.hid (RB0.out.next hb)
 have B1:=Lib.hid (hba.out.trans (hb.mono hba.out.size))
 clear hb YB0 RB0 TA
 have hz1:w.heap.size+1 < w1.heap.size:=RB1.out.lt
 by_cases h0:t.2=0
 · have n0:(t.2 != 0)=false:=by simp [h0]
   obtain ⟨hv,ht,het⟩:=TY.out h0
   have T:=Lib.hid (And.intro hv ht)
   have SR2:=SR.out
   rw [if_neg (by simp [h0])] at SR2
   have SRH:=Lib.hid SR2
   have SMH:=Lib.hid (SM.out hv ht)
   clear SR2 hv ht het SR SM TY
   go_wp2_with fail
   have M2:Hid (SmMap Tryz.prog (w1.alloc (.map #[] 0)) cs (fun _=>True) w1.heap.size):=SmMap.start _ _ _ _
   have bm:Below w1.heap.size w1 (w1.alloc (.map #[] 0)):=(Below.refl _ _).alloc (Nat.le_refl _) _
   have NC:=Lib.hid (newcmp_any [] none 0 (fun _=>0) (w1.alloc (.map #[] 0)) ⟨⟨0,0,fun q=>absurd rfl q,trivial⟩,(fun c hc=>by cases hc),Nat.zero_le _⟩)
   refine NC.out.mono ?_
   rintro e w2 ⟨kb,ib,vb,pb,rfl,-,-,hb2⟩
   have M3:=Lib.hid (M2.out.next hb2)
   have B2:=Lib.hid (B1.out.trans ((bm.trans (hb2.mono bm.size)).mono B1.out.size))
   have YB2:=Lib.hid (YB1.out.next (bm.trans (hb2.mono bm.size)))
   have RB2:=Lib.hid (RB1.out.next (bm.trans (hb2.mono bm.size)))
   have hz2:w1.heap.size < w2.heap.size:=by have:=hb2.size;simp at this;omega
   clear hb2 bm NC M2 YB1 RB1
   have YB3:=Lib.hid (YB2.out.next (below_box w2 (.cells #[.slice p cs.length cap,.map (some w1.heap.size),.pointer (some ⟨kb,0,none⟩)] 83)))
   obtain ⟨y0,y1,y2,y3,-,-,-,-,-⟩:=YB3.out
   have B3:=Lib.hid (B2.out.trans ((below_box w2 (.cells #[.slice p cs.length cap,.map (some w1.heap.size),.pointer (some ⟨kb,0,none⟩)] 83)).mono B2.out.size))
   have J3:Hid (SmJ (w2.alloc (.cells #[.slice p cs.length cap,.map (some w1.heap.size),.pointer (some ⟨kb,0,none⟩)] 83)) cs (fun _=>True) w2.heap.size w1.heap.size (some ⟨kb,0,none⟩) p cap):=by
    refine ⟨?_,?_,?_,M3.out.next (below_box _ _)⟩<;>simp [go_sem]
   have CC:=Lib.hid (SA.out (w2.alloc (.cells #[.slice p cs.length cap,.map (some w1.heap.size),.pointer (some ⟨kb,0,none⟩)] 83)) w2.heap.size w1.heap.size (some ⟨kb,0,none⟩) J3.out (HCS.out.keep (Keeps.of_below B3.out)) (HX.out.next B3.out) T.out.1 T.out.2 (fun _ _=>trivial))
   have hz3:(w2.alloc (.cells #[.slice p cs.length cap,.map (some w1.heap.size),.pointer (some ⟨kb,0,none⟩)] 83)).heap.size=w2.heap.size+1:=by simp
   have RB3:=Lib.hid (RB2.out.next (below_box w2 (.cells #[.slice p cs.length cap,.map (some w1.heap.size),.pointer (some ⟨kb,0,none⟩)] 83)))
   clear M3 YB2 YB3 B2 J3 RB2 SA HCS HX HOK
   go_wp2_with fail
   refine CC.out.mono ?_
   rintro e w3 ⟨c,rfl,hc,hcx,-,hcg⟩
   have B4:=Lib.hid (B3.out.grown hcg B3.out.size (fun m hm=>by cases hm;omega))
   have E4:=Lib.hid hc
   have X4:Hid (ChAt w3 w.heap.size c):=hcx.mono (by omega)
   have hwz:w.heap.size+2≤w1.heap.size:=by omega
   have X5:Hid (w.heap.size+1 < w2.heap.size+1∧ChAt w3 (w2.heap.size+1) c):=⟨by omega,by rw [← hz3];exact hcx⟩
   have RB4:=Lib.hid (RB3.out.grown hcg (by simp;omega))
   clear hc hcx hcg CC RB3 B3 y0 y1 y2 y3
   have LC:Hid (LnC c):=(lnc_ec c).1 (by rw [E4.out];exact SMH.out.2)
   have WC:Hid ((wfB c.a (len c.k) && wfT c.k)=true):=by
    have h:=SMH.out.1
    rw [← E4.out] at h
    have h2:(wfB c.a (len (ef c.k)) && wfT (ef c.k))=true:=h
    rw [ef_len,wfT_ef] at h2
    exact h2
   have WC2:Hid (wfB c.a (len c.k)=true∧wfT c.k=true):=by have h:=WC.out;rw [Bool.and_eq_true] at h;exact h
   have VE:Hid (valE (ec c).a (ec c).k=valE c.a c.k):=valE_ec c
   have RB5:=Lib.hid (RB4.out.next (below_box w3 (.cells #[.int .i64 c.a.op,.int .i64 c.a.num,.string c.a.name,.slice c.a.ptr (len c.k) c.a.cap] 25)))
   have VC:=Lib.hid (vexpr_any c.b c.o c.a.op c.a.num c.a.name c.a.ptr c.a.cap c.k (w3.alloc (.cells #[.int .i64 c.a.op,.int .i64 c.a.num,.string c.a.name,.slice c.a.ptr (len c.k) c.a.cap] 25)) (X4.out.1.next (below_box _ _)) ⟨nd_ok c.a (len c.k) WC2.out.1 LC.out.1,fo_ok c.k WC2.out.2 LC.out.2⟩)
   have hz4:w.heap.size+1 < w3.heap.size:=RB4.out.lt
   go_wp2_with fail
   refine VC.out.mono ?_
   rintro e w4 ⟨rfl,hb⟩
   have bx:Below w3.heap.size w3 (w3.alloc (.cells #[.int .i64 c.a.op,.int .i64 c.a.num,.string c.a.name,.slice c.a.ptr (len c.k) c.a.cap] 25)):=below_box _ _
   have b5:=bx.trans (hb.mono bx.size)
   have B5:=Lib.hid (B4.out.trans (b5.mono B4.out.size))
   have X6:Hid (w.heap.size+1 < w2.heap.size+1∧ChAt w4 (w2.heap.size+1) c):=⟨X5.out.1,X5.out.2.next b5⟩
   have RB6:=Lib.hid (RB5.out.next hb)
   have C6:=Lib.hid ((BX4.new w3 (.int .i64 c.a.op) (.int .i64 c.a.num) (.string c.a.name) (.slice c.a.ptr (len c.k) c.a.cap) 25).next hb)
   clear bx b5 hb VC RB5 X5 X4 B4
   obtain ⟨c0,c1,c2,c3,-,-,-,-,-⟩:=C6.out
   obtain ⟨r0,r1,r2,r3,f0,f1,f2,f3,-⟩:=RB6.out
   have VV:Hid (valE c.a c.k=valE ⟨c.a.op,c.a.num,c.a.name,c.a.ptr,c.a.cap⟩ c.k):=rfl
   by_cases hv:valE ⟨c.a.op,c.a.num,c.a.name,c.a.ptr,c.a.cap⟩ c.k=10
   · have nv:(valE ⟨c.a.op,c.a.num,c.a.name,c.a.ptr,c.a.cap⟩ c.k==10)=true:=by rw [hv];rfl
     have e1:Hid (R=(dE 0 0 noN,10)):=by unfold Hid;rw [SRH.out,if_pos (by rw [← E4.out,VE.out,VV.out];exact hv)]
     clear hv SRH
     go_wp2
     refine bodyPost_ret (v:=.tuple #[.agg #[.int .i64 0,.int .i64 0,.string ⟨#[]⟩,.slice none 0 0],.int .i64 10]) ?_ rfl ?_
     · rw [results_cell_tmp rfl];go_simp
     · rw [e1.out]
       exact simp_store (c:=⟨0,0,⟨0,0,⟨#[]⟩,none,0⟩,.nil⟩) (B:=w.heap.size+2) rfl (chat_leaf _ _ _) B5.out (by omega) (by omega)
   · have nv:(valE ⟨c.a.op,c.a.num,c.a.name,c.a.ptr,c.a.cap⟩ c.k==10)=false:=beq_eq_false_iff_ne.2 hv
     have e1:Hid (R=(ec c,0)):=by unfold Hid;rw [SRH.out,if_neg (by rw [← E4.out,VE.out,VV.out];exact hv),E4.out]
     clear hv SRH
     go_wp2
     refine bodyPost_ret (v:=.tuple #[.agg #[.int .i64 c.a.op,.int .i64 c.a.num,.string c.a.name,.slice c.a.ptr (len c.k) c.a.cap],.int .i64 0]) ?_ rfl ?_
     · rw [results_cell_tmp rfl];go_simp
     · rw [e1.out]
       exact simp_store (c:=c) (B:=w2.heap.size+1) rfl X6.out.2 B5.out (by omega) X6.out.1
 · have n0:(t.2 != 0)=true:=by simp [h0]
   have e1:Hid (R=(dE 0 0 noN,t.2)):=by unfold Hid;rw [SR.out,if_pos h0]
   obtain ⟨r0,r1,r2,r3,f0,f1,f2,f3,-⟩:=RB1.out
   clear SR SM TY
   go_wp2
   refine bodyPost_ret (v:=.tuple #[.agg #[.int .i64 0,.int .i64 0,.string ⟨#[]⟩,.slice none 0 0],.int .i64 t.2]) ?_ rfl ?_
   · rw [results_cell_tmp rfl];go_simp
   · rw [e1.out]
     exact simp_store (c:=⟨0,0,⟨0,0,⟨#[]⟩,none,0⟩,.nil⟩) (B:=w.heap.size+2) rfl (chat_leaf _ _ _) B1.out (by omega) (by omega)
end Go.Proofs.YtfoedbfkddoibaaGreat
