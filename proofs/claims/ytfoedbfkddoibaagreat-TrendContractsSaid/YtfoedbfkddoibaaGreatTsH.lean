import Derived.Test.YtfoedbfkddoibaaGreatTsG
namespace Go.Proofs.YtfoedbfkddoibaaGreat
set_option linter.unusedVariables false
set_option linter.unusedSimpArgs false
open Go.ChangeShapes Go.WideShapes Go.ChangeAt Go.RowKit
open Go.Deep (BT)
def RfC (cs:List Cn) (sc:Int) (b o:Nat) (a:Nd) (k:Fo):Prop:=∀ (w:World) (Av:Nat→Prop) (p:Option Addr) (cap:Nat) (vv:Value),
 CsV w cs p→cs.length≤cap→IntsAt w vv (cvN cs cs.length)→ExAt w b o a k→ExOk a k→(wfB a (len k) && wfT k)=true→sz k≤199→dp k≤15→(tyT (lookT cs (tabN cs cs.length)) sc a k).2=0→FoAv Av k b→(∀ g,w.heap.size≤g→Av g) →
 Calls Tryz.prog 49 #[vv,.slice p cs.length cap,.int .i64 sc,.agg #[.int .i64 a.op,.int .i64 a.num,.string a.name,.slice a.ptr (len k) a.cap]] w (ReP w Av (simT (lookT cs (tabN cs cs.length)) (cvT cs) sc a k))
theorem voks_i64:∀ (T:List Int) (V:List Int),voks T V→(∀ t ∈ T,1≤t∧t≤4)→∀ x ∈ V,i64B x
 | [],[],_,_,x,hx=>by cases hx
 | t :: T,v :: V,h,ht,x,hx=>by
   rcases List.mem_cons.1 hx with rfl|hx
   · obtain ⟨h1,h2,h3⟩:=h.1
     have:=ht t (by simp)
     have hc:t=1∨t=2∨t=3∨t=4:=by omega
     unfold i64B
     rcases hc with q|q|q|q
     · have:=h1 (.inl q);omega
     · have:=h1 (.inr q);omega
     · have:=h2 q;omega
     · have:=h3 q;omega
   · exact voks_i64 T V h.2 (fun t ht2=>ht t (by simp [ht2])) x hx
 | [],_ :: _,h,_,_,_=>h.elim
 | _ :: _,[],h,_,_,_=>h.elim
theorem own_slc {w:World} {B:Nat} {e:TypeId} {size:Nat} {v:Value} {n:Nat} {xs:List Value} (h:w.ownsRow B e size v n xs):∃ p cap,v=.slice p n cap:=by
 rcases h.2 with ⟨rfl,hn⟩|⟨g,cap,cur,rfl,-⟩
 · exact ⟨none,0,by rw [hn]⟩
 · exact ⟨_,_,rfl⟩
theorem own_addr {w:World} {B:Nat} {e:TypeId} {size:Nat} {v:Value} {n:Nat} {xs:List Value} (h:w.ownsRow B e size v n xs) (hn:0 < n):∃ g cap,v=.slice (some ⟨g,0,none⟩) n cap:=by
 rcases h.2 with ⟨rfl,h0⟩|⟨g,cap,cur,rfl,-⟩
 · omega
 · exact ⟨_,_,rfl⟩
set_option maxHeartbeats 16000000 in
set_option maxRecDepth 100000 in
theorem rf_name (cs:List Cn) (sc:Int) (b o:Nat) (num:Int) (name:ByteArray) (ptr:Option Addr) (acap:Nat) (k:Fo) (w:World) (Av:Nat→Prop) (p:Option Addr) (cap:Nat) (vv:Value) (hcs:CsV w cs p) (hcap:cs.length≤cap) (hvv:IntsAt w vv (cvN cs cs.length)) (hxx:ExAt w b o ⟨6,num,name,ptr,acap⟩ k) (hok:ExOk ⟨6,num,name,ptr,acap⟩ k) (hwf:(wfB ⟨6,num,name,ptr,acap⟩ (len k) && wfT k)=true) (hz:sz k≤199) (hd:dp k≤15) (hty:(tyT (lookT cs (tabN cs cs.length)) sc ⟨6,num,name,ptr,acap⟩ k).2=0) (hav:FoAv Av k b) (hfree:∀ g,w.heap.size≤g→Av g) :
 Calls Tryz.prog 49 #[vv,.slice p cs.length cap,.int .i64 sc,.agg #[.int .i64 6,.int .i64 num,.string name,.slice ptr (len k) acap]] w (ReP w Av (simT (lookT cs (tabN cs cs.length)) (cvT cs) sc ⟨6,num,name,ptr,acap⟩ k)):=by
 have HCS:=Lib.hid hcs
 have HVV:=Lib.hid hvv
 have HE:=Lib.hid hxx
 have HF:=Lib.hid hfree
 have HAV:=Lib.hid hav
 have hns:name.size≤9223372036854775807:=hok.1.2.2.1
 have hcl:cs.length≤2932031007402:=hcs.small
 have hwb:wfB ⟨6,num,name,ptr,acap⟩ (len k)=true∧wfT k=true:=by rw [Bool.and_eq_true] at hwf;exact hwf
 have hk0:k=.nil:=by
  have:=(wf_parts hwb.1).2.1
  simp [argB] at this
  exact len_zero (by omega)
 have hn0:num=0:=by
  have:=(wf_parts hwb.1).2.2.1
  simp [numB] at this
  exact this
 subst hk0
 subst hn0
 have HT:=Lib.hid hty
 have SN:=Lib.hid (sim_name cs cs.length sc ⟨6,0,name,ptr,acap⟩ .nil rfl)
 have CV:=Lib.hid (cvok_of cs cs.length name)
 generalize simT (lookT cs (tabN cs cs.length)) (cvT cs) sc ⟨6,0,name,ptr,acap⟩ .nil=R at *
 clear hcs hvv hxx hok hwf hz hd hty hav hfree hwb
 have hba:Hid (Below w.heap.size w ((w.alloc (.cells #[.int .i64 6,.int .i64 0,.string name,.slice ptr (len BT.nil) acap] 25)).alloc (.cells #[.int .i64 0,.int .i64 0,.string ⟨#[]⟩,.slice none 0 0] 25))):=(below_box w _).trans ((below_box _ _).mono (by simp))
 have hz0:((w.alloc (.cells #[.int .i64 6,.int .i64 0,.string name,.slice ptr (len BT.nil) acap] 25)).alloc (.cells #[.int .i64 0,.int .i64 0,.string ⟨#[]⟩,.slice none 0 0] 25)).heap.size=w.heap.size+2:=by simp
 have RB0:Hid (BX4 ((w.alloc (.cells #[.int .i64 6,.int .i64 0,.string name,.slice ptr (len BT.nil) acap] 25)).alloc (.cells #[.int .i64 0,.int .i64 0,.string ⟨#[]⟩,.slice none 0 0] 25)) (w.heap.size+1) (.int .i64 0) (.int .i64 0) (.string ⟨#[]⟩) (.slice none 0 0)):=by
  have h:=BX4.new (w.alloc (.cells #[.int .i64 6,.int .i64 0,.string name,.slice ptr (len BT.nil) acap] 25)) (.int .i64 0) (.int .i64 0) (.string ⟨#[]⟩) (.slice none 0 0) 25
  rw [World.size_alloc] at h
  exact h
 have YB0:Hid (BX4 ((w.alloc (.cells #[.int .i64 6,.int .i64 0,.string name,.slice ptr (len BT.nil) acap] 25)).alloc (.cells #[.int .i64 0,.int .i64 0,.string ⟨#[]⟩,.slice none 0 0] 25)) w.heap.size (.int .i64 6) (.int .i64 0) (.string name) (.slice ptr (len BT.nil) acap)):=(BX4.new w _ _ _ _ _).next (below_box _ _)
 go_enter Tryz.func49,Tryz.ntmps49
 go_wp2_with fail
 refine (ratt_any sc name _ hns).mono ?_
 rintro e w1 ⟨rfl,hb⟩
 have RB1:=Lib.hid (RB0.out.next hb)
 have YB1:=Lib.hid (YB0.out.next hb)
 have B1:=Lib.hid (hba.out.trans (hb.mono (by omega)))
 have hw1:w.heap.size+2≤w1.heap.size:=by have:=hb.size;omega
 clear hb RB0 YB0
 obtain ⟨x0,x1,x2,x3,-,-,-,-,-⟩:=YB1.out
 obtain ⟨r0,r1,r2,r3,f0,f1,f2,f3,-⟩:=RB1.out
 by_cases hq:atE sc name=0
 · have n7:(atE sc name==0)=true:=by simp [hq]
   have e1:Hid (R=dE 6 0 name):=SN.out.1 hq
   clear SN HT hq CV
   go_wp2
   refine bodyPost_ret (v:=.agg #[.int .i64 6,.int .i64 0,.string name,.slice ptr (len BT.nil) acap]) ?_ rfl (ReP.mk ⟨0,0,⟨6,0,name,ptr,acap⟩,.nil⟩ (set4_below B1.out (by omega)) e1.out.symm (fun _=>⟨fun q=>absurd rfl q,trivial⟩) trivial)
   rw [results_cell1 rfl];go_simp
 · have n7:(atE sc name==0)=false:=by simp [hq]
   obtain ⟨j,hj1,hj2,hj3⟩:∃ j,firstIx name cs=some j∧j < cs.length∧(rowT cs j).2=0:=by
    have ht:=HT.out
    unfold tyT at ht
    rw [if_pos rfl] at ht
    rcases name_erl cs sc cs.length name ht with q|q
    · exact absurd q hq
    · exact q
   have e1:Hid (R=litE (rowT cs j).1 (cval cs j)):=SN.out.2 hq j hj1 hj2
   have VO:Hid ((1≤(rowT cs j).1∧(rowT cs j).1≤4)∧vok (rowT cs j).1 (cval cs j)):=by
    have h:=CV.out
    rw [lookT_tab] at h
    unfold cvT at h
    rw [hj1] at h
    dsimp only at h
    rw [if_pos hj2] at h
    exact h hj3
   have CQ:=Lib.hid (rcix_any cs p cs.length cap name w1 (HCS.out.next B1.out) (Nat.le_refl _))
   rw [List.take_length,hj1,show ixI (some j)=(j:Int) from rfl] at CQ
   clear SN HT hq CV hj1
   obtain ⟨c,hc⟩:∃ c,cs[j]?=some c:=⟨_,List.getElem?_eq_getElem hj2⟩
   have HC:=Lib.hid hc
   clear hc
   have hj3':Hid ((rowT cs j).2=0):=hj3
   clear hj3
   have hji:(j:Int) < (cs.length:Int):=by omega
   have hj0:(0:Int)≤(j:Int):=by omega
   have hjc:(j:Int)≤(cap:Int):=by omega
   have hjc2:j≤cap:=by omega
   go_wp2_with fail
   refine CQ.out.mono ?_
   rintro e w2 ⟨rfl,hw⟩
   subst hw
   clear CQ
   obtain ⟨B,O,rfl,⟨c0,c1,c2,c3,c4⟩,hx⟩:=(HCS.out.next B1.out).get HC.out
   have X1:=Lib.hid hx
   clear hx
   have C:Hid (∀ dq os,Calls Tryz.prog 48 #[.slice (some ⟨B,O,none⟩) j cap,.int .i64 0,.agg #[.int .i64 c.a.op,.int .i64 c.a.num,.string c.a.name,.slice c.a.ptr (len c.k) c.a.cap]] (Sort.grow (redrawn w1 dq) os)
    fun e w''=>e=.returned (.tuple #[.int .i64 (rowT cs j).1,.int .i64 (rowT cs j).2])∧∃ p:Regrown,w''=Sort.grow (redrawn w1 p.d) p.os):=by
    intro dq os
    have hb:=below_regrown w1 dq os
    have hbw:=B1.out.trans (hb.mono B1.out.size)
    exact Calls.regrown_of (type_take_any cs _ cap j c _ (HCS.out.next hbw) hcap HC.out (X1.out.next hb))
   have e0:=fun d os=>cell_regrown c0 d os
   have e1':=fun d os=>cell_regrown c1 d os
   have e2:=fun d os=>cell_regrown c2 d os
   have e3:=fun d os=>cell_regrown c3 d os
   have e4:=fun d os=>cell_regrown c4 d os
   go_upto_region 6 with (fail)
   refine wp_region_quiet_below (by kernel_rfl) (by kernel_rfl) ?_
   repeat (quiet_step (with_reducible exact C.out _ _))
   refine wpQuiet_nil ?_
   intro _ hw'
   obtain ⟨⟨dq,osq⟩,hw''⟩:=hw'
   subst hw''
   have hb:=below_regrown w1 dq osq
   clear e0 e1' e2 e3 e4 C x0 x1 x2 x3 r0 r1 r2 r3 f0 f1 f2 f3 c0 c1 c2 c3 c4
   generalize Sort.grow (redrawn w1 dq) osq=w2 at *
   have B2:=Lib.hid (B1.out.trans (hb.mono B1.out.size))
   have RB2:=Lib.hid (RB1.out.next hb)
   have hw2:w.heap.size+2≤w2.heap.size:=Nat.le_trans hw1 hb.size
   obtain ⟨g,vc,rfl,kj⟩:=ints_get (HVV.out.next B2.out) (i:=j) (by rw [cvN_len];exact hj2)
   rw [cvN_get cs cs.length j hj2] at kj
   have hjv:(j:Int) < ((cvN cs cs.length).length:Int):=by rw [cvN_len];omega
   have LC:=Lib.hid (rliteral_any (rowT cs j).1 (cval cs j) w2 VO.out.1 VO.out.2)
   have RV:Hid (R=litE (rowT cs j).1 (cval cs j)):=e1
   clear hb e1 VO
   generalize rowT cs j=t1 at *
   generalize cval cs j=x1 at *
   go_wp2_with fail
   refine LC.out.mono ?_
   rintro e w3 ⟨d,rfl,hd,hdx,hdb⟩
   have E3:Hid (ec d=R):=hd.trans RV.out.symm
   have X3:=Lib.hid hdx
   have B3:=Lib.hid (B2.out.trans (hdb.mono B2.out.size))
   have RB3:=Lib.hid (RB2.out.next hdb)
   clear hd hdx hdb LC kj
   obtain ⟨r0,r1,r2,r3,f0,f1,f2,f3,-⟩:=RB3.out
   go_wp2
   refine bodyPost_ret (v:=.agg #[.int .i64 d.a.op,.int .i64 d.a.num,.string d.a.name,.slice d.a.ptr (len d.k) d.a.cap]) ?_ rfl ⟨d,rfl,E3.out,ExAt.av4 X3.out.1 ((FoAv.ge X3.out.2).mono fun g h=>by omega),(FoAv.ge X3.out.2).mono fun g h=>HF.out g (by omega),set4_below B3.out (by omega)⟩
   rw [results_cell1 rfl];go_simp
set_option maxHeartbeats 16000000 in
set_option maxRecDepth 100000 in
theorem rf_leaf (cs:List Cn) (sc:Int) (b o:Nat) (op num:Int) (name:ByteArray) (ptr:Option Addr) (acap:Nat) (k:Fo) (h6:op≠6) (hk0:k=.nil) (w:World) (Av:Nat→Prop) (p:Option Addr) (cap:Nat) (vv:Value) (hcs:CsV w cs p) (hcap:cs.length≤cap) (hvv:IntsAt w vv (cvN cs cs.length)) (hxx:ExAt w b o ⟨op,num,name,ptr,acap⟩ k) (hok:ExOk ⟨op,num,name,ptr,acap⟩ k) (hwf:(wfB ⟨op,num,name,ptr,acap⟩ (len k) && wfT k)=true) (hz:sz k≤199) (hd:dp k≤15) (hty:(tyT (lookT cs (tabN cs cs.length)) sc ⟨op,num,name,ptr,acap⟩ k).2=0) (hav:FoAv Av k b) (hfree:∀ g,w.heap.size≤g→Av g) :
 Calls Tryz.prog 49 #[vv,.slice p cs.length cap,.int .i64 sc,.agg #[.int .i64 op,.int .i64 num,.string name,.slice ptr (len k) acap]] w (ReP w Av (simT (lookT cs (tabN cs cs.length)) (cvT cs) sc ⟨op,num,name,ptr,acap⟩ k)):=by
 have HCS:=Lib.hid hcs
 have HVV:=Lib.hid hvv
 have HE:=Lib.hid hxx
 have HF:=Lib.hid hfree
 have HAV:=Lib.hid hav
 have hns:name.size≤9223372036854775807:=hok.1.2.2.1
 have hcl:cs.length≤2932031007402:=hcs.small
 have n6:(op==6)=false:=by simp [h6]
 subst hk0
 have hnm:name=noN:=by
  have hwb:wfB ⟨op,num,name,ptr,acap⟩ (len BT.nil)=true∧wfT .nil=true:=by rw [Bool.and_eq_true] at hwf;exact hwf
  have h:=(wf_parts hwb.1).2.2.2
  unfold namB at h
  rw [if_neg h6,decide_eq_true_eq] at h
  exact ByteArray.ext (Array.eq_empty_of_size_eq_zero h)
 have e1:Hid (simT (lookT cs (tabN cs cs.length)) (cvT cs) sc ⟨op,num,name,ptr,acap⟩ .nil=dE op num noN):=by
  unfold Hid simT sim1
  dsimp only
  rw [if_neg h6,if_pos (show simF (lookT cs (tabN cs cs.length)) (cvT cs) sc .nil=[] from rfl)]
 generalize simT (lookT cs (tabN cs cs.length)) (cvT cs) sc ⟨op,num,name,ptr,acap⟩ .nil=R at *
 clear hcs hvv hxx hok hwf hz hd hty hav hfree
 go_enter Tryz.func49,Tryz.ntmps49
 go_wp2
 refine bodyPost_ret (v:=.agg #[.int .i64 op,.int .i64 num,.string name,.slice ptr (len BT.nil) acap]) ?_ rfl ?_
 · rw [results_cell1 rfl];go_simp
 · refine ReP.mk ⟨0,0,⟨op,num,name,ptr,acap⟩,.nil⟩ (by (repeat (first|exact Below.refl _ _|refine Below.drew ?_|refine Below.alloc ?_ (by first|exact Nat.le_refl _|(simp<;>omega)) _|refine Below.setCell ?_ (by first|exact Nat.le_refl _|(simp<;>omega)) _))) ?_ (fun _=>⟨fun q=>absurd rfl q,trivial⟩) trivial
   rw [e1.out,hnm];rfl
set_option maxHeartbeats 16000000 in
set_option maxRecDepth 100000 in
theorem rf_node (cs:List Cn) (sc:Int) (b o:Nat) (op num:Int) (name:ByteArray) (ptr:Option Addr) (acap:Nat) (k:Fo) (ih:AllT (RfC cs sc) k) (h6:op≠6) (hk0:k≠.nil) (w:World) (Av:Nat→Prop) (p:Option Addr) (cap:Nat) (vv:Value) (hcs:CsV w cs p) (hcap:cs.length≤cap) (hvv:IntsAt w vv (cvN cs cs.length)) (hxx:ExAt w b o ⟨op,num,name,ptr,acap⟩ k) (hok:ExOk ⟨op,num,name,ptr,acap⟩ k) (hwf:(wfB ⟨op,num,name,ptr,acap⟩ (len k) && wfT k)=true) (hz:sz k≤199) (hd:dp k≤15) (hty:(tyT (lookT cs (tabN cs cs.length)) sc ⟨op,num,name,ptr,acap⟩ k).2=0) (hav:FoAv Av k b) (hfree:∀ g,w.heap.size≤g→Av g) :
 Calls Tryz.prog 49 #[vv,.slice p cs.length cap,.int .i64 sc,.agg #[.int .i64 op,.int .i64 num,.string name,.slice ptr (len k) acap]] w (ReP w Av (simT (lookT cs (tabN cs cs.length)) (cvT cs) sc ⟨op,num,name,ptr,acap⟩ k)):=by
 have HCS:=Lib.hid hcs
 have HVV:=Lib.hid hvv
 have HE:=Lib.hid hxx
 have HF:=Lib.hid hfree
 have HAV:=Lib.hid hav
 have hns:name.size≤9223372036854775807:=hok.1.2.2.1
 have hcl:cs.length≤2932031007402:=hcs.small
 have IH:=Lib.hid ih
 have HOK:=Lib.hid hok
 have HZ:=Lib.hid hz
 have HD:=Lib.hid hd
 have hwb:wfB ⟨op,num,name,ptr,acap⟩ (len k)=true∧wfT k=true:=by rw [Bool.and_eq_true] at hwf;exact hwf
 have HWT:=Lib.hid hwb.2
 have h1:=(wf_parts hwb.1).1
 have har:=(wf_parts hwb.1).2.1
 dsimp only at h1 har
 have hk1:0 < len k:=Nat.pos_of_ne_zero (fun q=>hk0 (len_zero q))
 have hk2:len k≤199:=Nat.le_trans (len_le_sz k) hz
 have h7:7≤op∧op≤22:=by
  refine ⟨?_,h1.2⟩
  apply Int.not_lt.1
  intro q
  have:=har
  unfold argB at this
  rw [if_pos (by have:=h1.1;omega)] at this
  simp at this
  omega
 obtain ⟨t1,t2,t3⟩:=ty_parts (lookT cs (tabN cs cs.length)) sc ⟨op,num,name,ptr,acap⟩ k hty h6
 obtain ⟨s1,s2⟩:=simF_sm (lookT cs (tabN cs cs.length)) (cvT cs) sc (cvok_of cs cs.length) k t1 hwb.2
 have hTl:(tyF (lookT cs (tabN cs cs.length)) sc k).2.length=len k:=tyF_len (lookT cs (tabN cs cs.length)) sc k t1
 have hve:valE ⟨op,num,name,ptr,acap⟩ k=0:=by
  unfold valE fitB
  rw [if_pos (by simp;omega),if_pos hwf]
 have TO:Hid (typeOfT cs sc ⟨op,num,name,ptr,acap⟩ k=(resT op (tyF (lookT cs (tabN cs cs.length)) sc k).2,0)):=by
  unfold Hid typeOfT
  rw [if_pos hve]
  exact Prod.ext t3 hty
 have SF:Hid (simT (lookT cs (tabN cs cs.length)) (cvT cs) sc ⟨op,num,name,ptr,acap⟩ k=if (simF (lookT cs (tabN cs cs.length)) (cvT cs) sc k).all isLit=true then litE (resT op (tyF (lookT cs (tabN cs cs.length)) sc k).2) (opV op ((simF (lookT cs (tabN cs cs.length)) (cvT cs) sc k).map litV)) else redE op (simF (lookT cs (tabN cs cs.length)) (cvT cs) sc k)):=by
  unfold Hid simT sim1
  dsimp only
  have hl:=simF_len (lookT cs (tabN cs cs.length)) (cvT cs) sc k
  rw [if_neg h6,if_neg (fun q=>by rw [q] at hl;simp at hl;omega)]
 have SM:=Lib.hid s1
 have LN:=Lib.hid (simF_lnc (lookT cs (tabN cs cs.length)) (cvT cs) sc k (sz_lnb k (by omega)))
 have RT:=Lib.hid (res_range op _ s2 h7 t2)
 have OV:Hid ((simF (lookT cs (tabN cs cs.length)) (cvT cs) sc k).all isLit=true→vok (resT op (tyF (lookT cs (tabN cs cs.length)) sc k).2) (opV op ((simF (lookT cs (tabN cs cs.length)) (cvT cs) sc k).map litV))):=fun hall=>op_ok op _ _ (smL_voks sc s1 hall) h7 (by rw [hTl];exact har) t2
 have BA:Hid ((simF (lookT cs (tabN cs cs.length)) (cvT cs) sc k).all isLit=true→boolArgs op ((simF (lookT cs (tabN cs cs.length)) (cvT cs) sc k).map litV)∧∀ x ∈ (simF (lookT cs (tabN cs cs.length)) (cvT cs) sc k).map litV,i64B x):=fun hall=>⟨bool_args op (len k) _ _ (smL_voks sc s1 hall) (by rw [hTl]) h7 har t2,voks_i64 _ _ (smL_voks sc s1 hall) s2⟩
 have TYC:=Lib.hid (fun (w:World) hcs hx=>rtypeof_any cs p cap sc b o op num name ptr acap k w hcs hcap hx HOK.out)
 rw [TO.out] at TYC
 have TY1:=Lib.hid t1
 clear hcs hvv hxx hok hwf hz hd hty hav hfree ih hwb h1 t1 t2 t3 s1 s2 hTl hve TO
 generalize simT (lookT cs (tabN cs cs.length)) (cvT cs) sc ⟨op,num,name,ptr,acap⟩ k=R at *
 generalize resT op (tyF (lookT cs (tabN cs cs.length)) sc k).2=tk at *
 have n6:(op==6)=false:=by simp [h6]
 have n0:((len k:Int)==0)=false:=by simp;omega
 obtain ⟨i0,hi,hi0,hi1,hi2⟩:=info_parts Tryz.infoI
 obtain ⟨j0,hj0,hj1,hj2,hj3⟩:=info_parts Tryz.infoXc
 have hba:Hid (Below w.heap.size w ((w.alloc (.cells #[.int .i64 op,.int .i64 num,.string name,.slice ptr (len k) acap] 25)).alloc (.cells #[.int .i64 0,.int .i64 0,.string ⟨#[]⟩,.slice none 0 0] 25))):=(below_box w _).trans ((below_box _ _).mono (by simp))
 have hz0:((w.alloc (.cells #[.int .i64 op,.int .i64 num,.string name,.slice ptr (len k) acap] 25)).alloc (.cells #[.int .i64 0,.int .i64 0,.string ⟨#[]⟩,.slice none 0 0] 25)).heap.size=w.heap.size+2:=by simp
 have RB0:Hid (BX4 ((w.alloc (.cells #[.int .i64 op,.int .i64 num,.string name,.slice ptr (len k) acap] 25)).alloc (.cells #[.int .i64 0,.int .i64 0,.string ⟨#[]⟩,.slice none 0 0] 25)) (w.heap.size+1) (.int .i64 0) (.int .i64 0) (.string ⟨#[]⟩) (.slice none 0 0)):=by
  have h:=BX4.new (w.alloc (.cells #[.int .i64 op,.int .i64 num,.string name,.slice ptr (len k) acap] 25)) (.int .i64 0) (.int .i64 0) (.string ⟨#[]⟩) (.slice none 0 0) 25
  rw [World.size_alloc] at h
  exact h
 have YB0:Hid (BX4 ((w.alloc (.cells #[.int .i64 op,.int .i64 num,.string name,.slice ptr (len k) acap] 25)).alloc (.cells #[.int .i64 0,.int .i64 0,.string ⟨#[]⟩,.slice none 0 0] 25)) w.heap.size (.int .i64 op) (.int .i64 num) (.string name) (.slice ptr (len k) acap)):=(BX4.new w _ _ _ _ _).next (below_box _ _)
 have TYD:=Lib.hid (TYC.out ((w.alloc (.cells #[.int .i64 op,.int .i64 num,.string name,.slice ptr (len k) acap] 25)).alloc (.cells #[.int .i64 0,.int .i64 0,.string ⟨#[]⟩,.slice none 0 0] 25)) (HCS.out.next hba.out) (HE.out.next hba.out))
 go_enter Tryz.func49,Tryz.ntmps49
 go_wp2_with fail
 refine TYD.out.mono ?_
 rintro e w1 ⟨rfl,hb⟩
 have RB1:=Lib.hid (RB0.out.next hb)
 have YB1:=Lib.hid (YB0.out.next hb)
 have B1:=Lib.hid (hba.out.trans (hb.mono (by omega)))
 have hw1:w.heap.size+2≤w1.heap.size:=by have:=hb.size;omega
 clear hb RB0 YB0 TYD TYC hba hz0
 obtain ⟨x0,x1,x2,x3,-,-,-,-,-⟩:=YB1.out
 have bn:Below w1.heap.size w1 (w1.alloc (.cells #[.int .i64 op,.int .i64 0,.string ⟨#[]⟩,.slice none 0 0] 25)):=below_box _ _
 have S0:Hid (FdSt w (w1.alloc (.cells #[.int .i64 op,.int .i64 0,.string ⟨#[]⟩,.slice none 0 0] 25)) Av w1.heap.size op (.slice ptr (len k) acap) (.slice none 0 0) (.slice none 0 0) [] []) :=
  ⟨BX4.new w1 _ _ _ _ _,RB1.out.next bn,(YB1.out.next bn).r3,World.ownsRow_nil _ _ _ _,World.ownsRow_nil _ _ _ _,(fun g q=>by cases q),(fun c hc=>by cases hc),B1.out.trans (bn.mono B1.out.size),hw1⟩
 clear bn
 go_wp2_with fail
 clear x0 x1 x2 x3
 generalize w1.alloc (.cells #[.int .i64 op,.int .i64 0,.string ⟨#[]⟩,.slice none 0 0] 25)=wc at *
 generalize w1.heap.size=fb at *
 go_loopw [17,18] (fun vy i wr=>∃ (vz vx:Value) (j:Nat) (r:Fo) (Dn:List Ch) (V:List Int),vz=vy∧i=.int .i64 j∧Hid (j+len r=len k∧FoAt w r b (o+j * 4)∧FoOk r∧AllT (RfC cs sc) r∧wfT r=true∧sz r≤199∧dp r≤15∧(tyF (lookT cs (tabN cs cs.length)) sc r).1=0∧Dn.length=j ∧
  FdSt w wr Av fb op (.slice ptr (len k) acap) vx vz Dn V∧V=litL Dn∧(Dn.map ec++simF (lookT cs (tabN cs cs.length)) (cvT cs) sc r=simF (lookT cs (tabN cs cs.length)) (cvT cs) sc k)∧FoLt w.heap.size r b∧FoAv (fun g=>Av g∧g < w.heap.size) r b)) (fun _ i _=>len k - (intOf i).toNat)
 case atStart =>
  exact ⟨_,.slice none 0 0,0,k,[],[],rfl,rfl,by omega,by rw [Nat.zero_mul,Nat.add_zero];exact HE.out.2,HOK.out.2,IH.out,HWT.out,HZ.out,HD.out,TY1.out,rfl,S0.out,rfl,rfl,HE.out.2.lt,FoAv.lt HE.out.2 HAV.out⟩
 case round =>
  obtain ⟨vz,vx,j,r,Dn,V,rfl,rfl,HR⟩:=hrel
  have S1:Hid (FdSt w wr Av fb op (.slice ptr (len k) acap) vx vz Dn V):=HR.out.2.2.2.2.2.2.2.2.2.1
  have hlt:w.heap.size+2≤fb:=S1.out.lt
  have hfb:fb < wr.heap.size:=S1.out.yb.lt
  cases r with
  | nil =>
    have hj:¬ (j:Int) < (len k:Int):=by have:=HR.out.1;simp [len] at this;omega
    have hl:Hid (Dn.length=len k):=by have h1:=HR.out.1;have h2:=HR.out.2.2.2.2.2.2.2.2.1;simp [len] at h1;unfold Hid;omega
    have hm:Hid (Dn.map ec=simF (lookT cs (tabN cs cs.length)) (cvT cs) sc k):=by
     have h:=HR.out.2.2.2.2.2.2.2.2.2.2.2.1
     rw [show simF (lookT cs (tabN cs cs.length)) (cvT cs) sc .nil=[] from rfl,List.append_nil] at h
     exact h
    have hV:Hid (V=litL Dn):=HR.out.2.2.2.2.2.2.2.2.2.2.1
    obtain ⟨g,cx,rfl⟩:=own_addr S1.out.ow (by rw [hl.out];omega)
    obtain ⟨py,cy,rfl⟩:=own_slc S1.out.ov
    have hgs:=S1.out.ow.lt g rfl
    have IT:=Lib.hid (ints_of_own S1.out.ov)
    have how:=S1.out.ow
    rw [hl.out] at S1 how
    have HOW:=Lib.hid how
    clear how
    have FX:Hid (FoAt wr (rowF Dn) g 0∧FoAv (fun y=>Av y∧y≠w.heap.size+1) (rowF Dn) g):=by
     have hc4:∀ i u,(rowC Dn)[i]?=some u→wr.cell? ⟨g,0+i,none⟩=some u:=fun i u hu=>by
      have h1:=(List.getElem?_eq_some_iff.1 hu).1
      have h2:=rowC_len4 Dn
      have h9:i < len k * 4:=by have:=hl.out;omega
      rw [Nat.zero_add,HOW.out.cellAt i h9];exact hu
     exact rowF_av Dn (fun c hc=>⟨(S1.out.ch c hc).1,(S1.out.ch c hc).2.mono fun y q=>⟨q.1,q.2.1⟩⟩) hc4 ⟨HF.out g (by omega),by omega⟩
    have S1y:=S1.out.yb
    obtain ⟨y0,y1,y2,y3,-,-,-,-,-⟩:=S1y
    obtain ⟨r0,r1,r2,r3,f0,f1,f2,f3,-⟩:=S1.out.rb
    have x3:=S1.out.x3
    by_cases hall:(simF (lookT cs (tabN cs cs.length)) (cvT cs) sc k).all isLit=true
    · have hlen:Hid (V.length=len k):=by unfold Hid;rw [hV.out,← hl.out];exact (litL_all Dn).2 (by rw [← all_ec,hm.out];exact hall)
      have nl:((V.length:Int)==(len k:Int))=true:=by rw [hlen.out];simp
      have VE:Hid (V=(simF (lookT cs (tabN cs cs.length)) (cvT cs) sc k).map litV):=by unfold Hid;rw [hV.out,litL_eq Dn (by rw [← all_ec,hm.out];exact hall),← hm.out,map_litV_ec]
      have RV:Hid (R=litE tk (opV op V)):=by unfold Hid;rw [SF.out,if_pos hall,VE.out]
      have VK:Hid (vok tk (opV op V)):=by unfold Hid;rw [VE.out];exact OV.out hall
      have BB:Hid (boolArgs op V∧∀ x ∈ V,i64B x):=by unfold Hid;rw [VE.out];exact BA.out hall
      have AP:=Lib.hid (rapply_any op 0 (.slice py V.length cy) V wr IT.out (by rw [hlen.out];omega) (by omega) h7.2 h6 (by rw [hlen.out];exact har) BB.out.1 BB.out.2)
      have AE:Hid (apV op 0 V=opV op V):=by
       unfold Hid apV
       rw [if_neg (by omega),if_neg (by omega),if_neg (by omega)]
      unfold ApC at AP
      rw [AE.out] at AP
      clear VE SF OV BA BB hV hm
      go_wp2_with fail
      refine AP.out.mono ?_
      rintro e w2 ⟨rfl,hb⟩
      have S2:=Lib.hid (S1.out.next hb)
      have LC:=Lib.hid (rliteral_any tk (opV op V) w2 RT.out VK.out)
      have hw2:w.heap.size≤w2.heap.size:=S2.out.bl.size
      clear hb AP y0 y1 y2 y3 r0 r1 r2 r3 f0 f1 f2 f3 x3
      go_wp2_with fail
      refine LC.out.mono ?_
      rintro e w3 ⟨d,rfl,hd,hdx,hdb⟩
      have E3:Hid (ec d=R):=hd.trans RV.out.symm
      have X3:=Lib.hid hdx
      have B3:=Lib.hid (S2.out.bl.trans (hdb.mono S2.out.bl.size))
      have RB3:=Lib.hid (S2.out.rb.next hdb)
      have hlb:w.heap.size+1 < w2.heap.size:=S2.out.rb.lt
      clear hd hdx hdb LC
      obtain ⟨r0,r1,r2,r3,f0,f1,f2,f3,-⟩:=RB3.out
      go_wp2
      refine bodyPost_ret (v:=.agg #[.int .i64 d.a.op,.int .i64 d.a.num,.string d.a.name,.slice d.a.ptr (len d.k) d.a.cap]) ?_ rfl ⟨d,rfl,E3.out,ExAt.av4 X3.out.1 ((FoAv.ge X3.out.2).mono fun g h=>by omega),(FoAv.ge X3.out.2).mono fun g h=>HF.out g (by omega),set4_below B3.out (by omega)⟩
      rw [results_cell1 rfl];go_simp
    · have hlen:V.length≠len k:=by rw [hV.out,← hl.out];exact fun q=>hall (by rw [← hm.out,all_ec];exact (litL_all Dn).1 q)
      have nl:((V.length:Int)==(len k:Int))=false:=by simp;omega
      clear hlen
      have RV:Hid (R=redE op (Dn.map ec)):=by unfold Hid;rw [SF.out,if_neg hall,hm.out]
      have WF:Hid (wfT (rowF Dn)=true):=smL_ef sc _ _ (by rw [kids_rowF,hm.out];exact SM.out)
      have RC:=Lib.hid (rred_any (fun y=>Av y∧y≠w.heap.size+1) g 0 cx op (rowF Dn) wr FX.out.1 FX.out.2 (fun y hy=>⟨HF.out y (by have:=S1.out.bl.size;omega),by omega⟩) WF.out h7 (by rw [rowF_len,hl.out];exact har))
      rw [rowF_len,hl.out,kids_rowF,← RV.out] at RC
      clear SF OV BA hV hm
      go_wp2_with fail
      refine RC.out.mono ?_
      rintro e w2 ⟨c,rfl,hc,hcx,hca,hcb⟩
      have S2:=Lib.hid (S1.out.next hcb)
      have E2:=Lib.hid hc
      have X2:=Lib.hid (And.intro hcx hca)
      clear hc hcx hca hcb RC y0 y1 y2 y3 r0 r1 r2 r3 f0 f1 f2 f3 x3
      obtain ⟨r0,r1,r2,r3,f0,f1,f2,f3,-⟩:=S2.out.rb
      go_wp2
      refine bodyPost_ret (v:=.agg #[.int .i64 c.a.op,.int .i64 c.a.num,.string c.a.name,.slice c.a.ptr (len c.k) c.a.cap]) ?_ rfl ⟨c,rfl,E2.out,X2.out.1.av4 (X2.out.2.mono fun g h=>h.2),X2.out.2.mono fun g h=>h.1,set4_below S2.out.bl (by omega)⟩
      rw [results_cell1 rfl];go_simp
  | node b1 o1 a1 k1 r1 =>
    have hj:j < len k:=by have:=HR.out.1;simp [len] at this;omega
    obtain rfl:ptr=some ⟨b,o,none⟩:=HE.out.1 hk0
    obtain ⟨⟨c0,c1,c2,c3⟩,hp1,hkk1,-⟩:=HR.out.2.1.next S1.out.bl
    obtain ⟨-,-,-,hr1⟩:=HR.out.2.1
    have E1:Hid (ExAt wr b1 o1 a1 k1):=⟨hp1,hkk1⟩
    have N1:=Lib.hid hr1
    clear hp1 hkk1 hr1
    have hji:(j:Int) < (len k:Int):=by omega
    have hjz:(0:Int)≤(j:Int):=by omega
    have W1:Hid ((wfB a1 (len k1) && wfT k1)=true∧wfT r1=true):=wfT_node HR.out.2.2.2.2.1
    have Z1:Hid ((sz k1≤199∧sz r1≤199)∧(dp k1≤15∧dp r1≤15)):=by
     have e1:sz (BT.node b1 o1 a1 k1 r1)=1+sz k1+sz r1:=rfl
     have e2:dp (BT.node b1 o1 a1 k1 r1)=max (1+dp k1) (dp r1):=rfl
     have h1:=HR.out.2.2.2.2.2.1
     have h2:=HR.out.2.2.2.2.2.2.1
     rw [e1] at h1
     rw [e2] at h2
     exact ⟨⟨by omega,by omega⟩,by omega,by omega⟩
    have T1:=Lib.hid (ty_row (lookT cs (tabN cs cs.length)) sc b1 o1 a1 k1 r1 HR.out.2.2.2.2.2.2.2.1)
    have HFA:Hid (∀ y,wr.heap.size≤y→FdA w Av fb vx vz y):=fun y hy=>⟨HF.out y (by have:=S1.out.bl.size;omega),by omega,by omega,fun q=>by have:=S1.out.ow.lt y q;omega,fun q=>by have:=S1.out.ov.lt y q;omega⟩
    have AVK:Hid (FoAv (FdA w Av fb vx vz) k1 b1):=HR.out.2.2.2.2.2.2.2.2.2.2.2.2.2.2.1.mono fun y q=>⟨q.1,by omega,by omega,fun e=>by have:=S1.out.ow.lt y e;omega,fun e=>by have:=S1.out.ov.lt y e;omega⟩
    have CC:=Lib.hid (HR.out.2.2.2.1.1 wr (FdA w Av fb vx vz) p cap vv (HCS.out.next S1.out.bl) hcap (HVV.out.next S1.out.bl) E1.out ⟨HR.out.2.2.1.1,HR.out.2.2.1.2.1⟩ W1.out.1 Z1.out.1.1 Z1.out.2.1 T1.out.1 AVK.out HFA.out)
    have x3:=S1.out.x3
    go_wp2_with fail
    refine CC.out.mono ?_
    rintro e w2 ⟨c,rfl,hc,hcx,hca,hcb⟩
    have EC:=Lib.hid hc
    have CA:=Lib.hid hca
    have bb:Below w2.heap.size w2 (w2.alloc (.cells #[.int .i64 c.a.op,.int .i64 c.a.num,.string c.a.name,.slice c.a.ptr (len c.k) c.a.cap] 25)):=below_box _ _
    have bc:Below (w2.alloc (.cells #[.int .i64 c.a.op,.int .i64 c.a.num,.string c.a.name,.slice c.a.ptr (len c.k) c.a.cap] 25)).heap.size (w2.alloc (.cells #[.int .i64 c.a.op,.int .i64 c.a.num,.string c.a.name,.slice c.a.ptr (len c.k) c.a.cap] 25)) ((w2.alloc (.cells #[.int .i64 c.a.op,.int .i64 c.a.num,.string c.a.name,.slice c.a.ptr (len c.k) c.a.cap] 25)).alloc (.cells #[.int .i64 c.a.op,.int .i64 c.a.num,.string c.a.name,.slice c.a.ptr (len c.k) c.a.cap] 25)):=below_box _ _
    have bd:Below w2.heap.size w2 ((w2.alloc (.cells #[.int .i64 c.a.op,.int .i64 c.a.num,.string c.a.name,.slice c.a.ptr (len c.k) c.a.cap] 25)).alloc (.cells #[.int .i64 c.a.op,.int .i64 c.a.num,.string c.a.name,.slice c.a.ptr (len c.k) c.a.cap] 25)):=bb.trans (bc.mono bb.size)
    have S2:=Lib.hid (S1.out.next (hcb.trans (bd.mono hcb.size)))
    have CX:=Lib.hid (hcx.next bd)
    have NB:=Lib.hid (hcb.trans (bd.mono hcb.size))
    have CB19:=Lib.hid ((BX4.new w2 (.int .i64 c.a.op) (.int .i64 c.a.num) (.string c.a.name) (.slice c.a.ptr (len c.k) c.a.cap) 25).next bc)
    have S2a:=Lib.hid (S1.out.next (hcb.trans (bb.mono hcb.size)))
    have hsz2:wr.heap.size≤w2.heap.size:=hcb.size
    have hfb2:fb < w2.heap.size:=Nat.lt_of_lt_of_le hfb hcb.size
    have hz2:((w2.alloc (.cells #[.int .i64 c.a.op,.int .i64 c.a.num,.string c.a.name,.slice c.a.ptr (len c.k) c.a.cap] 25)).alloc (.cells #[.int .i64 c.a.op,.int .i64 c.a.num,.string c.a.name,.slice c.a.ptr (len c.k) c.a.cap] 25)).heap.size=w2.heap.size+2:=by simp
    obtain ⟨y0,y1,y2,y3,-,-,-,-,-⟩:=S2a.out.yb
    have ES:Hid (Dn.map ec++(simT (lookT cs (tabN cs cs.length)) (cvT cs) sc a1 k1 :: simF (lookT cs (tabN cs cs.length)) (cvT cs) sc r1)=simF (lookT cs (tabN cs cs.length)) (cvT cs) sc k):=HR.out.2.2.2.2.2.2.2.2.2.2.2.1
    have IN:Hid (ec c ∈ simF (lookT cs (tabN cs cs.length)) (cvT cs) sc k):=by unfold Hid;rw [← ES.out,EC.out];simp
    obtain ⟨ts,hts⟩:=sm_each sc SM.out (ec c) IN.out
    have LT:=Lib.hid (fun (w:World) hx=>sm_lit_at (w:=w) hts hx ((lnc_ec c).1 (LN.out _ IN.out)))
    have hDl:Hid (Dn.length=j):=HR.out.2.2.2.2.2.2.2.2.1
    have hVl:V.length≤200:=by rw [HR.out.2.2.2.2.2.2.2.2.2.2.1];have:=litL_len Dn;rw [hDl.out] at this;omega
    clear hc hcx hca hcb bb bc bd CC c0 c1 c2 c3 x3 hts S2a
    go_wp2_with (at_builtin;refine wpList_append_own_at _ rfl _ _ 23 rfl (fb+1) 25 j0 (.agg #[.int .i64 0,.int .i64 0,.string ⟨#[]⟩,.slice none 0 0]) 4 56 Tryz.underlying23 hj0 hj1 hj2 hj3 rfl (by decide) vx Dn.length (rowC Dn) rfl S2.out.ow ⟨w2.heap.size+1,0,none⟩ 1 1 (chC c) (by go_simp) rfl ?c1 (one4c c) ?c3 ?c4 ?c5 ?_)
    case c1=>intro q u hu;match q,hu with
     | 0,hu=>simp [chC] at hu;subst hu;simp [Addr.add,go_sem]
     | 1,hu=>simp [chC] at hu;subst hu;simp [Addr.add,go_sem]
     | 2,hu=>simp [chC] at hu;subst hu;simp [Addr.add,go_sem]
     | 3,hu=>simp [chC] at hu;subst hu;simp [Addr.add,go_sem]
     | q+4,hu=>simp [chC] at hu
    case c3=>have:=hDl.out;unfold maxLen;omega
    case c4=>have:=hDl.out;omega
    case c5=>omega
    intro vn w3 hown hgrow hnil hob
    obtain ⟨pv,cv,hvn⟩:=own_slc hown
    subst hvn
    have Y3:=Lib.hid (S2.out.yb.grown hgrow (fun e=>by have:=S2.out.ow.lt _ e.symm;omega))
    have S4:=Lib.hid (FdSt.app S2.out CX.out CA.out hown hgrow (hob.imp id (fun q=>by rw [q,hz2])))
    have C4:Hid (BX4 (w3.setCell ⟨fb,3,none⟩ (.slice pv (Dn.length+1) cv)) w2.heap.size (.int .i64 c.a.op) (.int .i64 c.a.num) (.string c.a.name) (.slice c.a.ptr (len c.k) c.a.cap)):=(CB19.out.grown hgrow (fun e=>by have:=S1.out.ow.lt _ e.symm;omega)).grown (grw_set _ _ _ _) (by simp;omega)
    obtain ⟨y0,y1,y2,y3,g0,g1,g2,g3,-⟩:=Y3.out
    clear hown hgrow hnil hob Y3
    obtain ⟨z0,z1,z2,z3,-,-,-,-,-⟩:=C4.out
    go_wp2_with fail
    clear y0 y1 y2 y3 g0 g1 g2 g3
    generalize (w3.setCell ⟨fb,3,none⟩ (.slice pv (Dn.length+1) cv))=w4 at *
    have L4:=LT.out w4 (S4.out.ch c (by simp)).1
    refine (rlit_any c.a.op c.a.num c.a.name c.a.ptr (len c.k) c.a.cap (kop c) (knum c) w4 L4.1 L4.2).mono ?_
    rintro e w5 ⟨rfl,hb⟩
    have S5:=Lib.hid (S4.out.next hb)
    clear hb L4 LT z0 z1 z2 z3 C4
    have hlen1:Hid (j+1+len r1=len k):=by have:=HR.out.1;simp [len] at this;unfold Hid;omega
    cases hl:litB c.a.op (kop c)
    · have LL:Hid (litL (Dn++[c])=litL Dn):=litL_snoc_f Dn c hl
      have x3:=S5.out.x3
      go_wp2
      go_roundw
      case rel =>
       obtain ⟨p1,-,p3,p4,-,-,-,-,p9,-,p11,-,p13,p14⟩:=HR.out
       refine ⟨_,.slice pv (Dn.length+1) cv,j+1,r1,Dn++[c],V,rfl,by go_num,hlen1.out,?_,p3.2.2,p4.2,W1.out.2,Z1.out.1.2,Z1.out.2.2,T1.out.2.1,by simp [p9],S5.out,by rw [LL.out];exact p11,?_,p13.2.2,p14.2.2⟩
       · rw [Nat.add_mul,Nat.one_mul,← Nat.add_assoc];exact N1.out
       · rw [List.map_append,List.append_assoc,← ES.out]
         simp only [List.map_cons,List.map_nil,List.singleton_append]
         rw [EC.out]
      case measure=>simp [intOf];omega
    · have LL:Hid (litL (Dn++[c])=litL Dn++[litV c]):=litL_snoc_t Dn c hl
      have x3:=S5.out.x3
      rw [if_pos rfl]
      have LV:Hid (litV c=litN c.a.op c.a.num (knum c)):=litV_b c
      generalize litN c.a.op c.a.num (knum c)=lv at *
      have S6:=Lib.hid (S5.out.next (below_box w5 (.cells #[.int .i64 lv] 3)))
      go_wp2_with (at_builtin;refine wpList_append_own_at _ rfl _ _ 33 rfl (fb+1) 3 i0 (.int .i64 0) 1 8 Tryz.underlying33 hi hi0 hi1 hi2 rfl (by decide) vz V.length (intV V) rfl S6.out.ov ⟨w5.heap.size,0,none⟩ 1 1 [.int .i64 lv] rfl rfl ?d1 ?d2 ?d3 ?d4 ?d5 ?_)
      case d1=>intro q u hu;cases q with
       | zero=>simp at hu;subst hu;simp [Addr.add,go_sem]
       | succ q=>simp at hu
      case d2=>intro u hu;simp at hu;subst hu;rfl
      case d3=>unfold maxLen;omega
      case d4=>omega
      case d5=>have:=S6.out.yb.lt;omega
      intro vm w6 hown hgrow hnil hob
      have S7:=Lib.hid (FdSt.lit S6.out hown hgrow (hob.imp id (fun q=>by rw [q];simp)))
      clear hown hgrow hnil hob S6 x3
      go_wp2
      go_roundw
      case rel =>
       obtain ⟨p1,-,p3,p4,-,-,-,-,p9,-,p11,-,p13,p14⟩:=HR.out
       refine ⟨_,.slice pv (Dn.length+1) cv,j+1,r1,Dn++[c],V++[lv],rfl,by go_num,hlen1.out,?_,p3.2.2,p4.2,W1.out.2,Z1.out.1.2,Z1.out.2.2,T1.out.2.1,by simp [p9],S7.out,by rw [LL.out,p11,LV.out],?_,p13.2.2,p14.2.2⟩
       · rw [Nat.add_mul,Nat.one_mul,← Nat.add_assoc];exact N1.out
       · rw [List.map_append,List.append_assoc,← ES.out]
         simp only [List.map_cons,List.map_nil,List.singleton_append]
         rw [EC.out]
      case measure=>simp [intOf];omega
theorem rf_of (cs:List Cn) (sc:Int) (b o:Nat) (a:Nd) (k:Fo):RfC cs sc b o a k:=by
 refine tree_of (P:=RfC cs sc) ?_ b o a k
 clear b o a k
 intro b o a k ih w Av p cap vv hcs hcap hvv hxx hok hwf hz hd hty hav hfree
 obtain ⟨op,num,name,ptr,acap⟩:=a
 by_cases h6:op=6
 · subst h6
   exact rf_name cs sc b o num name ptr acap k w Av p cap vv hcs hcap hvv hxx hok hwf hz hd hty hav hfree
 · by_cases hk0:k=.nil
   · exact rf_leaf cs sc b o op num name ptr acap k h6 hk0 w Av p cap vv hcs hcap hvv hxx hok hwf hz hd hty hav hfree
   · exact rf_node cs sc b o op num name ptr acap k ih h6 hk0 w Av p cap vv hcs hcap hvv hxx hok hwf hz hd hty hav hfree
end Go.Proofs.YtfoedbfkddoibaaGreat
