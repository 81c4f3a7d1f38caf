import Derived.Test.YtfoedbfkddoibaaGreatTi1
import Derived.Test.YtfoedbfkddoibaaGreatVok
import Derived.Test.YtfoedbfkddoibaaGreatTp1
import Derived.Test.YtfoedbfkddoibaaGreatTrH
import Derived.Test.YtfoedbfkddoibaaGreatTyo
namespace Go.Proofs.YtfoedbfkddoibaaGreat
section
set_option linter.unusedVariables false
set_option linter.unusedSimpArgs false
open Go.ChangeShapes Go.WideShapes Go.ChangeAt Go.RowKit
open Go.Deep (BT)
def LnB:Fo→Prop
 | .nil=>True
 | .node _ _ _ k r=>(len k≤200∧LnB k)∧LnB r
def CPl (w:World) (a:Nd) (k:Fo) (e:Ending) (w':World):Prop :=
 ∃ c:FC,e=.returned (.agg #[.int .i64 c.f.op,.int .i64 c.f.num,.slice c.f.ptr (flen c.k) c.f.cap])∧FCAt w' w.heap.size c∧CompR 0 (fun _=>0) a k c∧Below w.heap.size w w'
def CmlC (b o:Nat) (a:Nd) (k:Fo):Prop:=∀ (w:World) (kp:Option Addr),ExAt w b o a k→ExOk a k→(wfB a (len k) && wfT k)=true→len k≤200→LnB k→a.op≠6→NamF (fun _=>False) k →
 Calls Tryz.prog 117 #[.pointer kp,.int .i64 0,.agg #[.int .i64 a.op,.int .i64 a.num,.string a.name,.slice a.ptr (len k) a.cap]] w (CPl w a k)
theorem cpl_store {w wx:World} {a:Nd} {k:Fo} {c:FC} {r:Nat} {u0 u1 u2:Value} (hg:Below w.heap.size w wx) (hc:FCAt wx (r+1) c) (hr:CompR 0 (fun _=>0) a k c) (hw:w.heap.size≤r) :
 CPl w a k (.returned (.agg #[.int .i64 c.f.op,.int .i64 c.f.num,.slice c.f.ptr (flen c.k) c.f.cap])) (((wx.setCell ⟨r,0,none⟩ u0).setCell ⟨r,1,none⟩ u1).setCell ⟨r,2,none⟩ u2):=by
 have g:=gb_three wx r u0 u1 u2
 exact ⟨c,rfl,(hc.set (Nat.lt_succ_self r) g).mono (by omega),hr,hg.grown g hg.size (fun m hm=>by cases hm;exact hw)⟩
theorem cml_call {w wc wr w2:World} {fb gs:Nat} {op:Int} {m:Nat} {Dn:List FC} {rest:Nat} (h:CmSt w wc wr fb gs op m Dn rest) (hb:Below wr.heap.size wr w2):CmSt w wc w2 fb gs op m Dn rest:=by
 have K:Keeps wr w2:=Keeps.of_below hb
 exact ⟨K _ _ h.c0,K _ _ h.c1,K _ _ h.c2,own_below h.ow hb,fun c hc=>(h.ch c hc).keep K,h.rt.next hb,Nat.le_trans h.sz hb.size⟩
set_option maxHeartbeats 16000000 in
set_option maxRecDepth 100000 in
theorem complit_any (b o:Nat) (a:Nd) (k:Fo):CmlC b o a k:=by
 refine tree_of (P:=CmlC) ?_ b o a k
 clear b o a k
 intro b o a k ih w kp hxx hok hwf hk hz hq hqk
 obtain ⟨op,num,name,ptr,acap⟩:=a
 obtain ⟨i0,hi,hi0,hi1,hi2⟩:=info_parts Tryz.infoF
 show Calls Tryz.prog 117 #[.pointer kp,.int .i64 0,.agg #[.int .i64 op,.int .i64 num,.string name,.slice ptr (len k) acap]] w _
 have IH:=Lib.hid ih
 have HE:=Lib.hid hxx
 have HOK:=Lib.hid hok
 have HW:=Lib.hid hwf
 have HZ:=Lib.hid hz
 have HQ:Hid (op≠6):=hq
 have HQK:=Lib.hid hqk
 have hs:name.size≤9223372036854775807:=hok.1.2.2.1
 have hnum:Hid (i64B num):=hok.1.2.1
 have hopr:1≤op∧op≤22∧argB op (len k)=true:=by
  have h:=hwf
  unfold wfB at h
  dsimp only at h
  simp only [Bool.and_eq_true,decide_eq_true_eq] at h
  exact ⟨h.1.1.1.1.1,h.1.1.1.1.2,h.1.1.1.2⟩
 have HO:=Lib.hid hopr
 clear ih hxx hok hwf hz hq hqk hopr
 have B0:Hid (Below w.heap.size w ((w.alloc (.cells #[.int .i64 op,.int .i64 num,.string name,.slice ptr (len k) acap] 25)).alloc (.cells #[.int .i64 0,.int .i64 0,.slice none 0 0] 161))):=((Below.refl _ _).alloc (Nat.le_refl _) _).alloc (by simp) _
 have R0:Hid (RT ((w.alloc (.cells #[.int .i64 op,.int .i64 num,.string name,.slice ptr (len k) acap] 25)).alloc (.cells #[.int .i64 0,.int .i64 0,.slice none 0 0] 161)) (w.heap.size+1)):=⟨⟨_,by simp [go_sem];rfl⟩,⟨_,by simp [go_sem];rfl⟩,⟨_,by simp [go_sem];rfl⟩,by simp [go_sem],by simp [go_sem],by simp [go_sem],by simp⟩
 have XC:Hid (∀ wr,Below (w.heap.size+2) ((w.alloc (.cells #[.int .i64 op,.int .i64 num,.string name,.slice ptr (len k) acap] 25)).alloc (.cells #[.int .i64 0,.int .i64 0,.slice none 0 0] 161)) wr→True):=fun _ _=>trivial
 have x0:((w.alloc (.cells #[.int .i64 op,.int .i64 num,.string name,.slice ptr (len k) acap] 25)).alloc (.cells #[.int .i64 0,.int .i64 0,.slice none 0 0] 161)).cell? ⟨w.heap.size,0,none⟩=some (.int .i64 op):=by simp [go_sem]
 have x1:((w.alloc (.cells #[.int .i64 op,.int .i64 num,.string name,.slice ptr (len k) acap] 25)).alloc (.cells #[.int .i64 0,.int .i64 0,.slice none 0 0] 161)).cell? ⟨w.heap.size,1,none⟩=some (.int .i64 num):=by simp [go_sem]
 have x2:((w.alloc (.cells #[.int .i64 op,.int .i64 num,.string name,.slice ptr (len k) acap] 25)).alloc (.cells #[.int .i64 0,.int .i64 0,.slice none 0 0] 161)).cell? ⟨w.heap.size,2,none⟩=some (.string name):=by simp [go_sem]
 have x3:((w.alloc (.cells #[.int .i64 op,.int .i64 num,.string name,.slice ptr (len k) acap] 25)).alloc (.cells #[.int .i64 0,.int .i64 0,.slice none 0 0] 161)).cell? ⟨w.heap.size,3,none⟩=some (.slice ptr (len k) acap):=by simp [go_sem]
 have z0:((w.alloc (.cells #[.int .i64 op,.int .i64 num,.string name,.slice ptr (len k) acap] 25)).alloc (.cells #[.int .i64 0,.int .i64 0,.slice none 0 0] 161)).heap.size=w.heap.size+2:=by simp
 go_enter Tryz.func117,Tryz.ntmps117
 go_upto_region 2 with (fail)
 generalize (w.alloc (.cells #[.int .i64 op,.int .i64 num,.string name,.slice ptr (len k) acap] 25)).alloc (.cells #[.int .i64 0,.int .i64 0,.slice none 0 0] 161)=w0 at *
 clear XC
 by_cases hlow:op≤5
 · have h5:op=1∨op=2∨op=3∨op=4∨op=5:=by have:=HO.out.1;omega
   have GX:=B0
   have RX:=R0
   obtain ⟨⟨u0,q0⟩,⟨u1,q1⟩,⟨u2,q2⟩,f0,f1,f2,rlt⟩:=RX.out
   rcases h5 with rfl|rfl|rfl|rfl|rfl
   · go_wp2
     refine bodyPost_ret (v:=.agg #[.int .i64 1,.int .i64 num,.slice none 0 0]) ?_ rfl (cpl_store (c:=⟨0,0,⟨1,num,none,0⟩,.nil⟩) GX.out ⟨fun q=>absurd rfl q,trivial,trivial⟩ (comp_leaf 0 (fun _=>0) _ k num hnum.out (fun vals=>rfl)) (Nat.le_succ _))
     rw [results_cell1 rfl]
     go_simp
   · go_wp2
     refine bodyPost_ret (v:=.agg #[.int .i64 1,.int .i64 num,.slice none 0 0]) ?_ rfl (cpl_store (c:=⟨0,0,⟨1,num,none,0⟩,.nil⟩) GX.out ⟨fun q=>absurd rfl q,trivial,trivial⟩ (comp_leaf 0 (fun _=>0) _ k num hnum.out (fun vals=>rfl)) (Nat.le_succ _))
     rw [results_cell1 rfl]
     go_simp
   · go_wp2
     refine bodyPost_ret (v:=.agg #[.int .i64 1,.int .i64 num,.slice none 0 0]) ?_ rfl (cpl_store (c:=⟨0,0,⟨1,num,none,0⟩,.nil⟩) GX.out ⟨fun q=>absurd rfl q,trivial,trivial⟩ (comp_leaf 0 (fun _=>0) _ k num hnum.out (fun vals=>rfl)) (Nat.le_succ _))
     rw [results_cell1 rfl]
     go_simp
   · go_wp2
     refine bodyPost_ret (v:=.agg #[.int .i64 1,.int .i64 1,.slice none 0 0]) ?_ rfl (cpl_store (c:=⟨0,0,⟨1,1,none,0⟩,.nil⟩) GX.out ⟨fun q=>absurd rfl q,trivial,trivial⟩ (comp_leaf 0 (fun _=>0) _ k 1 (by unfold i64B;decide) (fun vals=>rfl)) (Nat.le_succ _))
     rw [results_cell1 rfl]
     go_simp
   · go_wp2
     refine bodyPost_ret (v:=.agg #[.int .i64 1,.int .i64 0,.slice none 0 0]) ?_ rfl (cpl_store (c:=⟨0,0,⟨1,0,none,0⟩,.nil⟩) GX.out ⟨fun q=>absurd rfl q,trivial,trivial⟩ (comp_leaf 0 (fun _=>0) _ k 0 (by unfold i64B;decide) (fun vals=>rfl)) (Nat.le_succ _))
     rw [results_cell1 rfl]
     go_simp
 · by_cases h6 : op=6
   · exact absurd h6 HQ.out
   · have h7 : Hid (7≤op∧op≤22∧argB op (len k)=true):=⟨by have:=HO.out.1;omega,HO.out.2.1,HO.out.2.2⟩
     clear HQ
     have n1:(op==1)=false:=by simp;omega
     have n2:(op==2)=false:=by simp;omega
     have n3:(op==3)=false:=by simp;omega
     have n4:(op==4)=false:=by simp;omega
     have n5:(op==5)=false:=by simp;omega
     have n6:(op==6)=false:=by simp;omega
     clear h6 hlow
     go_upto_region 16 with (fail)
     go_cut [9] (fun v9 wx=>∃ fb gs:Nat,v9=.pointer (some ⟨fb,0,none⟩)∧Hid (wx.cell? ⟨fb,0,none⟩=some (.int .i64 op)∧wx.cell? ⟨fb,1,none⟩=some (.int .i64 0)∧wx.cell? ⟨fb,2,none⟩=some (.slice (some ⟨gs,0,none⟩) (len k) (len k)) ∧
      wx.ownsRow (w.heap.size+2) 161 3 (.slice (some ⟨gs,0,none⟩) (len k) (len k)) (len k) (zerosF (len k))∧fb≠gs∧w.heap.size+2≤fb∧fb < wx.heap.size∧Below (w.heap.size+2) w0 wx))
     case first =>
      have bD:w.heap.size+2≤w0.drew.heap.size:=by show w.heap.size+2≤w0.heap.size;omega
      obtain ⟨wm,hm,om,gm⟩:=run_make_full (P:=Tryz.prog) w0.drew (w.heap.size+2) 159 161 i0 (.agg #[.int .i64 0,.int .i64 0,.slice none 0 0]) 3 Tryz.underlying159 hi hi0 hi1 .i64 .i64 (len k) (by rw [hi2];omega) (by unfold maxLen;omega) bD
      obtain ⟨wn,hn,on,gn⟩:=run_make_full (P:=Tryz.prog) (w0.alloc (.cells #[.int .i64 0,.int .i64 0,.slice none 0 0] 161)).drew (w.heap.size+2) 159 161 i0 (.agg #[.int .i64 0,.int .i64 0,.slice none 0 0]) 3 Tryz.underlying159 hi hi0 hi1 .i64 .i64 (len k) (by rw [hi2];omega) (by unfold maxLen;omega) (by simp;omega)
      have OM:Hid (wm.ownsRow (w.heap.size+2) 161 3 (.slice (some ⟨w.heap.size+2,0,none⟩) (len k) (len k)) (len k) (zerosF (len k))):=by
       have h:=om
       rw [show (Value.agg #[.int .i64 0,.int .i64 0,.slice none 0 0]).cells=#[.int .i64 0,.int .i64 0,.slice none 0 0] from rfl,made_zeros,show w0.drew.heap.size=w.heap.size+2 from z0] at h
       exact h
      have GM:=Lib.hid gm
      have ON:Hid (wn.ownsRow (w.heap.size+2) 161 3 (.slice (some ⟨w.heap.size+2+1,0,none⟩) (len k) (len k)) (len k) (zerosF (len k))):=by
       have h:=on
       rw [show (Value.agg #[.int .i64 0,.int .i64 0,.slice none 0 0]).cells=#[.int .i64 0,.int .i64 0,.slice none 0 0] from rfl,made_zeros,show (w0.alloc (.cells #[.int .i64 0,.int .i64 0,.slice none 0 0] 161)).drew.heap.size=w.heap.size+2+1 by simp [z0]] at h
       exact h
      have GN:=Lib.hid gn
      clear om on
      have hl0:w.heap.size < w0.heap.size:=by omega
      have a0:wm.cell? ⟨w.heap.size,0,none⟩=some (.int .i64 op):=(gb_cell gm (p:=⟨w.heap.size,0,none⟩) (by show w.heap.size < w0.heap.size;omega) (by simp)).trans x0
      have a3:wm.cell? ⟨w.heap.size,3,none⟩=some (.slice ptr (len k) acap):=(gb_cell gm (p:=⟨w.heap.size,3,none⟩) (by show w.heap.size < w0.heap.size;omega) (by simp)).trans x3
      have b0:wn.cell? ⟨w.heap.size,0,none⟩=some (.int .i64 op):=(gb_cell gn (p:=⟨w.heap.size,0,none⟩) (by simp;omega) (by simp)).trans (by simp [go_sem,hl0,x0])
      have b3:wn.cell? ⟨w.heap.size,3,none⟩=some (.slice ptr (len k) acap):=(gb_cell gn (p:=⟨w.heap.size,3,none⟩) (by simp;omega) (by simp)).trans (by simp [go_sem,hl0,x3])
      have d0:wn.cell? ⟨w.heap.size+2,0,none⟩=some (.int .i64 0):=(gb_cell gn (p:=⟨w.heap.size+2,0,none⟩) (by simp;omega) (by simp)).trans (by rw [← z0];simp [go_sem])
      have d1:wn.cell? ⟨w.heap.size+2,1,none⟩=some (.int .i64 0):=(gb_cell gn (p:=⟨w.heap.size+2,1,none⟩) (by simp;omega) (by simp)).trans (by rw [← z0];simp [go_sem])
      have d2:wn.cell? ⟨w.heap.size+2,2,none⟩=some (.slice none 0 0):=(gb_cell gn (p:=⟨w.heap.size+2,2,none⟩) (by simp;omega) (by simp)).trans (by rw [← z0];simp [go_sem])
      have e0:wn.frozen? ⟨w.heap.size+2,0,none⟩=false:=(gb_frozen gn (p:=⟨w.heap.size+2,0,none⟩) (by simp;omega) (by simp)).trans (by rw [← z0];simp [go_sem])
      have e1:wn.frozen? ⟨w.heap.size+2,1,none⟩=false:=(gb_frozen gn (p:=⟨w.heap.size+2,1,none⟩) (by simp;omega) (by simp)).trans (by rw [← z0];simp [go_sem])
      have e2:wn.frozen? ⟨w.heap.size+2,2,none⟩=false:=(gb_frozen gn (p:=⟨w.heap.size+2,2,none⟩) (by simp;omega) (by simp)).trans (by rw [← z0];simp [go_sem])
      have hlm:w.heap.size < wm.heap.size:=by have:=gm.size;simp at this;omega
      have hln:w.heap.size < wn.heap.size:=by have:=gn.size;simp at this;omega
      clear gm gn
      go_region
      · go_wp2
        go_meet
        have hl2:w.heap.size+2 < wm.heap.size:=(OM.out.lt _ rfl).2
        refine ⟨wm.heap.size,w.heap.size+2,rfl,by simp [go_sem],by simp [go_sem],by simp [go_sem],OM.out.alloc _,by omega,by omega,by simp,?_⟩
        exact (((Below.refl _ _).drew).grown GM.out (by simp;omega) (fun m hm=>by cases hm)).alloc (by omega) _
      · go_wp2
        go_meet
        have hl2:w.heap.size+2+1 < wn.heap.size:=(ON.out.lt _ rfl).2
        refine ⟨w.heap.size+2,w.heap.size+2+1,rfl,by simp [go_sem,d0,d1,d2],by simp [go_sem,d0,d1,d2],by simp [go_sem,d0,d1,d2],own_setCell_ne (own_setCell_ne (own_setCell_ne ON.out (by simp [Value.ownBlock]) _) (by simp [Value.ownBlock]) _) (by simp [Value.ownBlock]) _,by omega,by omega,by simp [World.setCell];omega,?_⟩
        exact ((((((Below.refl _ _).alloc (by omega) _).drew).grown GN.out (by simp;omega) (fun m hm=>by cases hm)).setCell (by simp) _).setCell (by simp) _).setCell (by simp) _
     case rest =>
      obtain ⟨fb,gs,rfl,HF⟩:=hcut
      have BC:Hid (Below w0.heap.size w0 wc):=by unfold Hid;rw [z0];exact HF.out.2.2.2.2.2.2.2
      have G1:Hid (Below w.heap.size w wc):=B0.out.trans (BC.out.mono B0.out.size)
      have R1:=Lib.hid (R0.out.next BC.out)
      have hgs:=(HF.out.2.2.2.1.lt gs rfl)
      have hfb:w.heap.size+2≤fb:=HF.out.2.2.2.2.2.1
      have hfb2:fb < wc.heap.size:=HF.out.2.2.2.2.2.2.1
      have hne:fb≠gs:=HF.out.2.2.2.2.1
      have y3:wc.cell? ⟨w.heap.size,3,none⟩=some (.slice ptr (len k) acap):=by rw [BC.out.cell (p:=⟨w.heap.size,3,none⟩) (by show w.heap.size < w0.heap.size;omega)];exact x3
      clear x0 x1 x2 x3
      go_wp2_with fail
      clear y3
      go_loopw [65] (fun i wr=>∃ (j:Nat) (r:Fo) (Dn:List FC),i=.int .i64 j∧Hid (j+len r=len k∧FoAt wr r b (o+j * 4)∧FoOk r∧AllT CmlC r∧wfT r=true∧LnB r∧NamF (fun _=>False) r∧Dn.length=j ∧
       CmSt w wc wr fb gs op (len k) Dn (len r)∧(∀ c ∈ Dn,fOk1 (nS 0) c.f (flen c.k)∧flen c.k≤200∧fOk (nS 0) c.k)∧(∀ vals,(Dn.map fun c=>fv1 vals c.f (fvF vals c.k))++evF (nmT 0 vals (fun _=>0)) r=evF (nmT 0 vals (fun _=>0)) k)∧Below w.heap.size w wr∧FoLt w.heap.size r b)) (fun i _=>len k - (intOf i).toNat)
      case atStart =>
       refine ⟨0,k,[],rfl,by omega,?_,HOK.out.2,IH.out,?_,HZ.out,HQK.out,rfl,⟨HF.out.1,HF.out.2.1,HF.out.2.2.1,HF.out.2.2.2.1,(fun c hc=>by cases hc),R1.out,Nat.le_refl _⟩,(fun c hc=>by cases hc),fun vals=>rfl,G1.out,HE.out.2.lt⟩
       · rw [Nat.zero_mul,Nat.add_zero];exact (HE.out.2.next B0.out).next BC.out
       · have:=HW.out;rw [Bool.and_eq_true] at this;exact this.2
      case round =>
       obtain ⟨j,r,Dn,rfl,HR⟩:=hrel
       have ST:=Lib.hid HR.out.2.2.2.2.2.2.2.2.1
       cases r with
       | nil =>
         have hj:¬ (j:Int) < (len k:Int):=by have:=HR.out.1;simp [len] at this;omega
         have GX:=Lib.hid HR.out.2.2.2.2.2.2.2.2.2.2.2.1
         have RX:=Lib.hid ST.out.rt
         have hlen:Hid (Dn.length=len k):=by have h1:=HR.out.1;have h2:=HR.out.2.2.2.2.2.2.2.1;simp [len] at h1;unfold Hid;omega
         have FX:Hid (FCAt wr (w.heap.size+2) ⟨gs,0,⟨op,0,some ⟨gs,0,none⟩,len k⟩,frowF Dn⟩):=by
          have h:=frowF_at (w:=wr) (B0:=w.heap.size+2) (g:=gs) (O:=0) Dn (fun c hc=>(ST.out.ch c hc).mono (by omega)) (fun i u hu=>by
           have how:=ST.out.ow
           simp only [len] at how
           have hi9:i < len k * 3:=by
            have h1:=(List.getElem?_eq_some_iff.1 hu).1
            have h2:=frowC_len Dn
            have h3:=hlen.out
            omega
           rw [Nat.zero_add,how.cellAt i hi9,List.getElem?_append_left (by exact (List.getElem?_eq_some_iff.1 hu).1)];exact hu) hgs.1
          exact ⟨fun _=>rfl,h.1,h.2⟩
         have CR:Hid (CompR 0 (fun _=>0) ⟨op,num,name,ptr,acap⟩ k ⟨gs,0,⟨op,0,some ⟨gs,0,none⟩,len k⟩,frowF Dn⟩):=comp_node 0 (fun _=>0) ⟨op,num,name,ptr,acap⟩ k Dn gs ⟨h7.out.1,h7.out.2.1⟩ h7.out.2.2 hlen.out hk HR.out.2.2.2.2.2.2.2.2.2.1 (fun vals=>by have:=HR.out.2.2.2.2.2.2.2.2.2.2.1 vals;simpa [evF] using this) _ _
         have t0:=ST.out.c0
         have t1:=ST.out.c1
         have t2:=ST.out.c2
         obtain ⟨⟨u0,q0⟩,⟨u1,q1⟩,⟨u2,q2⟩,f0,f1,f2,rlt⟩:=RX.out
         go_wp2
         refine bodyPost_ret (v:=.agg #[.int .i64 op,.int .i64 0,.slice (some ⟨gs,0,none⟩) (len k) (len k)]) ?_ rfl ?_
         · rw [results_cell1 rfl]
           go_simp
         · have h9:=cpl_store (w:=w) (r:=w.heap.size+1) (u0:=.int .i64 op) (u1:=.int .i64 0) (u2:=.slice (some ⟨gs,0,none⟩) (len k) (len k)) GX.out FX.out CR.out (Nat.le_succ _)
           rw [show flen (frowF Dn)=len k by rw [frowF_len];exact hlen.out] at h9
           exact h9
       | node b1 o1 a1 k1 r1 =>
         have hj:j < len k:=by have:=HR.out.1;simp [len] at this;omega
         obtain rfl:ptr=some ⟨b,o,none⟩:=HE.out.1 (by rintro rfl;simp [len] at hj)
         obtain ⟨⟨c0,c1,c2,c3⟩,hp1,hk1,hr1⟩:=HR.out.2.1
         have E1:Hid (ExAt wr b1 o1 a1 k1):=⟨hp1,hk1⟩
         have N1:=Lib.hid hr1
         clear hp1 hk1 hr1
         have hj1:(j:Int) < (len k:Int):=by omega
         have hj0:(0:Int)≤(j:Int):=by omega
         have W1:Hid ((wfB a1 (len k1) && wfT k1)=true∧wfT r1=true):=by
          have h:((wfB a1 (len k1) && wfT k1) && wfT r1)=true:=HR.out.2.2.2.2.1
          rw [Bool.and_eq_true] at h;exact h
         have Z1:Hid ((len k1≤200∧LnB k1)∧LnB r1):=HR.out.2.2.2.2.2.1
         go_upto_region 20 with (fail)
         have AB:Hid (Below wr.heap.size wr (wr.alloc (.cells #[.int .i64 a1.op,.int .i64 a1.num,.string a1.name,.slice a1.ptr (len k1) a1.cap] 25)).drew):=((Below.refl _ _).alloc (Nat.le_refl _) _).drew
         have e0:(wr.alloc (.cells #[.int .i64 a1.op,.int .i64 a1.num,.string a1.name,.slice a1.ptr (len k1) a1.cap] 25)).cell? ⟨wr.heap.size,0,none⟩=some (.int .i64 a1.op):=by simp [go_sem]
         have e1:(wr.alloc (.cells #[.int .i64 a1.op,.int .i64 a1.num,.string a1.name,.slice a1.ptr (len k1) a1.cap] 25)).cell? ⟨wr.heap.size,1,none⟩=some (.int .i64 a1.num):=by simp [go_sem]
         have e2:(wr.alloc (.cells #[.int .i64 a1.op,.int .i64 a1.num,.string a1.name,.slice a1.ptr (len k1) a1.cap] 25)).cell? ⟨wr.heap.size,2,none⟩=some (.string a1.name):=by simp [go_sem]
         have e3:(wr.alloc (.cells #[.int .i64 a1.op,.int .i64 a1.num,.string a1.name,.slice a1.ptr (len k1) a1.cap] 25)).cell? ⟨wr.heap.size,3,none⟩=some (.slice a1.ptr (len k1) a1.cap):=by simp [go_sem]
         have hsz:wc.heap.size≤wr.heap.size:=ST.out.sz
         have t2:(wr.alloc (.cells #[.int .i64 a1.op,.int .i64 a1.num,.string a1.name,.slice a1.ptr (len k1) a1.cap] 25)).cell? ⟨fb,2,none⟩=some (.slice (some ⟨gs,0,none⟩) (len k) (len k)):=by
          have hl:fb < wr.heap.size:=by omega
          simp [go_sem,ST.out.c2,hl]
         generalize wr.alloc (.cells #[.int .i64 a1.op,.int .i64 a1.num,.string a1.name,.slice a1.ptr (len k1) a1.cap] 25)=wb at *
         have GD:Hid (Below w.heap.size w wb.drew):=HR.out.2.2.2.2.2.2.2.2.2.2.2.1.trans (AB.out.mono HR.out.2.2.2.2.2.2.2.2.2.2.2.1.size)
         have NQ:Hid ((a1.op=6→False)∧NamF (fun _=>False) k1∧NamF (fun _=>False) r1):=⟨HR.out.2.2.2.2.2.2.1.1.1,HR.out.2.2.2.2.2.2.1.1.2,HR.out.2.2.2.2.2.2.1.2⟩
         have CC:=Lib.hid (HR.out.2.2.2.1.1 wb.drew kp (E1.out.next AB.out) ⟨HR.out.2.2.1.1,HR.out.2.2.1.2.1⟩ W1.out.1 Z1.out.1.1 Z1.out.1.2 NQ.out.1 NQ.out.2.1)
         clear c0 c1 c2 c3
         go_region_with (go_at_call 117;refine CC.out.mono ?_;rintro e w2 ⟨c,rfl,hc,hr,hg2⟩;have CR:=Lib.hid hr;have CA:=Lib.hid hc;have G2:=Lib.hid hg2;have S2:=Lib.hid (cml_call ST.out (AB.out.trans (hg2.mono AB.out.size)));have m2:=S2.out.c2;obtain ⟨m3,m4,m5⟩:=CmSt.zero (n:=len r1) S2.out HR.out.2.2.2.2.2.2.2.1 hj;have m6:=S2.out.ow.frozenAt (j * 3);have m7:=S2.out.ow.frozenAt (j * 3+1);have m8:=S2.out.ow.frozenAt (j * 3+2);clear hc hr hg2)
         all_goals (
          go_wp2
          have SS:=Lib.hid (CmSt.store (n:=len r1) (c:=c) S2.out HR.out.2.2.2.2.2.2.2.1 hne hgs.1 hgs.2 (CA.out.mono (Nat.le_trans ST.out.sz AB.out.size)))
          go_roundw
          case rel=>(
           obtain ⟨q1,-,q3,q4,-,-,-,q8,-,q10,q11,-,q14⟩:=HR.out
           simp [len] at q1
           have GN:=(GD.out.trans (G2.out.mono GD.out.size)).size
           refine ⟨j+1,r1,Dn++[c],by go_num,by omega,?_,q3.2.2,q4.2,W1.out.2,Z1.out.2,NQ.out.2.2,by simp [q8],SS.out.1,?_,?_,(GD.out.trans (G2.out.mono GD.out.size)).grown SS.out.2 GN (fun m hm=>by cases hm;omega),q14.2.2⟩
           · rw [Nat.add_mul,Nat.one_mul,← Nat.add_assoc]
             exact ((N1.out.next AB.out).next G2.out).below (q14.2.2.mono (Nat.le_refl _)) ((Below.refl _ _).grown SS.out.2 GN (fun m hm=>by cases hm;omega))
           · intro d hd
             rcases List.mem_append.1 hd with q|q
             · exact q10 d q
             · rw [List.mem_singleton.1 q];exact ⟨CR.out.o1,CR.out.l,CR.out.o⟩
           · intro vals
             have:=q11 vals
             rw [List.map_append,List.append_assoc]
             simp only [List.map_cons,List.map_nil,List.singleton_append]
             rw [CR.out.v vals]
             exact this)
          case measure=>(simp [intOf];omega))
end
section
section
set_option linter.unusedVariables false
set_option linter.unusedSimpArgs false
open Go.ChangeShapes Go.WideShapes Go.ChangeAt Go.RowKit
open Go.Deep (BT)
theorem rowT_none (cs:List Cn) (i:Nat) (h:cs[i]?=none):(rowT cs i).2≠0:=by
 unfold rowT
 rw [tabN,h,List.getD_eq_getElem?_getD,List.getElem?_append_right (by rw [tabN_len];omega),tabN_len]
 simp
theorem rowT_some (cs:List Cn) (i:Nat) (c:Cn) (h:cs[i]?=some c) (ht:(rowT cs i).2=0):valE c.a c.k=0∧rowT cs i=tyT (lookT cs (tabN cs i)) 0 c.a c.k:=by
 rw [rowT_eq cs i c h] at ht ⊢
 unfold oneT at ht ⊢
 by_cases hv:valE c.a c.k=0
 · rw [if_pos hv];exact ⟨hv,rfl⟩
 · rw [if_neg hv] at ht;exact absurd ht hv
theorem cvok_at (cs:List Cn) (n:Nat) (h:∀ i,i < n→(rowT cs i).2=0→1≤(rowT cs i).1∧(rowT cs i).1≤4):CvOk (lookT cs (tabN cs n)) (cvT cs):=by
 intro s hs
 rw [lookT_tab] at hs ⊢
 cases hf:firstIx s cs with
 | none=>rw [hf] at hs;simp at hs
 | some i =>
   rw [hf] at hs
   by_cases hi:i < n
   · simp only [if_pos hi] at hs ⊢
     have hv:cvT cs s=cval cs i:=by unfold cvT;rw [hf]
     rw [hv]
     exact ⟨h i hi hs,cval_ok cs i hs⟩
   · simp [hi] at hs
theorem row_rng (cs:List Cn) (i:Nat) (ht:(rowT cs i).2=0):1≤(rowT cs i).1∧(rowT cs i).1≤4:=by
 induction i using Nat.strongRecOn with
 | _ i ih =>
   cases hc:cs[i]? with
   | none=>exact absurd ht (rowT_none cs i hc)
   | some c =>
     obtain ⟨hv,e⟩:=rowT_some cs i c hc ht
     rw [e] at ht ⊢
     exact (sim_sm _ (cvT cs) 0 (cvok_at cs i (fun j hj=>ih j hj)) c.a c.k ht (val_ok c.a c.k hv).1).2
theorem cvok_of (cs:List Cn) (n:Nat):CvOk (lookT cs (tabN cs n)) (cvT cs):=cvok_at cs n fun i _=>row_rng cs i
theorem sim_lit (look:Look) (cv:ByteArray→Int) (hc:CvOk look cv) (a:Nd) (k:Fo) (h:(tyT look 0 a k).2=0) (hw:(wfB a (len k) && wfT k)=true):simT look cv 0 a k=litE (tyT look 0 a k).1 (ev1 cv a (evF cv k)):=by
 have h1:=simF_lit look cv hc (.node 0 0 a k .nil) (by rw [tyF_node,if_pos h];rfl) (by show ((wfB a (len k) && wfT k) && true)=true;rw [hw];rfl)
 have e1:simF look cv 0 (.node 0 0 a k .nil)=[simT look cv 0 a k]:=rfl
 rw [e1] at h1
 have hl:isLit (simT look cv 0 a k)=true:=by simpa using h1.1
 have hv:litV (simT look cv 0 a k)=ev1 cv a (evF cv k):=by
  have:=h1.2
  rw [evF] at this
  simpa [evF] using this
 have q:=((sim_sm look cv 0 hc a k h hw).1.lit hl).1
 rw [hv] at q
 exact q
theorem con_lit (cs:List Cn) (i:Nat) (c:Cn) (h:cs[i]?=some c) (ht:(rowT cs i).2=0):simT (lookT cs (tabN cs i)) (cvT cs) 0 c.a c.k=litE (rowT cs i).1 (cval cs i):=by
 obtain ⟨hv,e⟩:=rowT_some cs i c h ht
 rw [cval_all cs i c h ht [],e]
 rw [e] at ht
 exact sim_lit _ _ (cvok_of cs i) c.a c.k ht (val_ok c.a c.k hv).1
theorem sim_name (cs:List Cn) (n:Nat) (sc:Int) (a:Nd) (k:Fo) (h6:a.op=6):(atE sc a.name=0→simT (lookT cs (tabN cs n)) (cvT cs) sc a k=dE 6 0 a.name)∧(atE sc a.name≠0→∀ j,firstIx a.name cs=some j→j < n→simT (lookT cs (tabN cs n)) (cvT cs) sc a k=litE (rowT cs j).1 (cval cs j)):=by
 unfold simT sim1
 rw [if_pos h6]
 refine ⟨fun q=>by rw [if_pos q],fun q j hj hn=>?_⟩
 rw [if_neg q,lookT_tab,hj]
 unfold cvT
 rw [hj]
 simp only [if_pos hn]
theorem FoAv.ge {T:Fo} {B g:Nat} (h:FoGe B T g):FoAv (fun x=>B≤x) T g:=by
 induction T generalizing g with
 | nil=>trivial
 | node b o a k r ihk ihr=>exact ⟨h.1,ihk h.2.1,ihr h.2.2⟩
theorem FoGe.av {T:Fo} {B g:Nat} (h:FoAv (fun x=>B≤x) T g):FoGe B T g:=by
 induction T generalizing g with
 | nil=>trivial
 | node b o a k r ihk ihr=>exact ⟨h.1,ihk h.2.1,ihr h.2.2⟩
theorem FoAv.lt {w:World} {Av:Nat→Prop} {T:Fo} {B O:Nat} (h:FoAt w T B O) (ha:FoAv Av T B):FoAv (fun g=>Av g∧g < w.heap.size) T B:=by
 induction T generalizing B O with
 | nil=>trivial
 | node b o a k r ihk ihr =>
   obtain ⟨⟨h0,-⟩,hp,hkk,hr⟩:=h
   exact ⟨⟨ha.1,block_lt_of_cell h0⟩,ihk hkk ha.2.1,ihr hr ha.2.2⟩
theorem FoAt.grownAv {w w':World} {s:Nat} {T:Fo} {B O:Nat} (h:FoAt w T B O) (ha:FoAv (fun g=>g≠s) T B) (hg:w.grownBy w' (some s)):FoAt w' T B O:=by
 induction T generalizing B O with
 | nil=>trivial
 | node b o a k r ihk ihr =>
   obtain ⟨⟨h0,h1,h2,h3⟩,hp,hkk,hr⟩:=h
   have e:∀ i,w'.cell? ⟨B,i,none⟩=w.cell? ⟨B,i,none⟩:=fun i=>World.cell?_of_block (hg.block B (block_lt_of_cell h0) (fun q=>ha.1 (Option.some.inj q)))
   exact ⟨⟨by rw [e];exact h0,by rw [e];exact h1,by rw [e];exact h2,by rw [e];exact h3⟩,hp,ihk hkk ha.2.1,ihr hr ha.2.2⟩
theorem ExAt.av4 {w:World} {b o r:Nat} {a:Nd} {k:Fo} {u0 u1 u2 u3:Value} (h:ExAt w b o a k) (ha:FoAv (fun g=>g≠r) k b):ExAt ((((w.setCell ⟨r,0,none⟩ u0).setCell ⟨r,1,none⟩ u1).setCell ⟨r,2,none⟩ u2).setCell ⟨r,3,none⟩ u3) b o a k:=by
 have g:∀ (w:World) (i:Nat) (u:Value),w.grownBy (w.setCell ⟨r,i,none⟩ u) (some r):=fun w i u=>⟨rfl,rfl,rfl,by simp [World.setCell],fun k hk hr=>Below.heap_setCell _ _ _ _ (fun e=>hr (by rw [e]))⟩
 exact ⟨h.1,h.2.grownAv ha ((((g _ _ _).trans (g _ _ _)).trans (g _ _ _)).trans (g _ _ _))⟩
theorem ef_len (T:Fo):len (ef T)=len T:=by
 induction T with
 | nil=>rfl
 | node b o a k r _ ihr=>simp [ef,len,ihr]
theorem ef_kids (T:Fo):ef T=rowF ((kids T).map ec):=by rw [← ef_row,rowF_kids]
theorem kids_len (T:Fo):(kids T).length=len T:=by
 induction T with
 | nil=>rfl
 | node b o a k r _ ihr=>simp [kids,len,ihr]
theorem wfT_ef (T:Fo):wfT (ef T)=wfT T:=by
 induction T with
 | nil=>rfl
 | node b o a k r ihk ihr =>
   show ((wfB ⟨a.op,a.num,a.name,none,0⟩ (len (ef k)) && wfT (ef k)) && wfT (ef r))=((wfB a (len k) && wfT k) && wfT r)
   rw [ihk,ihr,ef_len]
   rfl
theorem kop_ec (c:Ch):kop (ec c)=kop c:=by
 obtain ⟨b,o,a,k⟩:=c
 cases k<;>rfl
theorem knum_ec (c:Ch):knum (ec c)=knum c:=by
 obtain ⟨b,o,a,k⟩:=c
 cases k<;>rfl
theorem isLit_ec (c:Ch):isLit (ec c)=isLit c:=by
 unfold isLit
 rw [kop_ec]
 rfl
theorem litV_ec (c:Ch):litV (ec c)=litV c:=by
 unfold litV
 rw [knum_ec]
 rfl
theorem all_ec (L:List Ch):(L.map ec).all isLit=L.all isLit:=by
 rw [List.all_map]
 congr 1
 exact funext isLit_ec
theorem map_litV_ec (L:List Ch):(L.map ec).map litV=L.map litV:=by
 rw [List.map_map]
 congr 1
 exact funext litV_ec
theorem kd_ef (T:Fo):kdF (ef T)=kdF T:=by
 induction T with
 | nil=>rfl
 | node b o a k r ihk ihr=>simp [ef,kdF,ihk,ihr]
end
section
set_option linter.unusedVariables false
set_option linter.unusedSimpArgs false
open Go.ChangeShapes Go.WideShapes Go.ChangeAt Go.RowKit
open Go.Maps (has size IsMap)
open Go.Deep (BT)
def heldV (v:Value):Option (DataW Value × List MemPlace):=some (.held v,[])
def xpV (a:Nd) (k:Fo):Value:=.agg #[.int .i64 a.op,.int .i64 a.num,.string a.name,.slice a.ptr (len k) a.cap]
def zxV:Value:=.agg #[.int .i64 0,.int .i64 0,.string ⟨#[]⟩,.slice none 0 0]
theorem own_tightG {H:Type} {P:Program} {k:TypeId} {R:Value→Option (DataW H × List MemPlace)} {w:World} {b n:Nat} {D:DataW H} (h:w.ownsMap P k R b n D):w.ownsMap P k R b (size D) D:=by
 obtain ⟨es,clock,hb,F,hs,hD⟩:=h
 refine ⟨es,clock,hb,F,?_,hD⟩
 rw [hD]
 show es.size≤_
 rw [Go.Maps.size_eq,length_sorted]
 simp
def SmK (w:World) (cs:List Cn) (Av:Nat→Prop) (D:DataW Value) (i:Nat) (s:ByteArray):Prop :=
 has D (strK s)=true∧(rowT cs i).2=0∧∃ c:Ch,D.atKey (strK s) (.held zxV)=.held (xpV c.a c.k)∧ec c=litE (rowT cs i).1 (cval cs i)∧ExAt w c.b c.o c.a c.k∧FoAv Av c.k c.b
def SmMap (P:Program) (w:World) (cs:List Cn) (Av:Nat→Prop) (b:Nat):Prop :=
 ∃ (D:DataW Value) (K:List Nat),w.ownsMap P 9 heldV b K.length D∧IsMap D∧K.Nodup∧(∀ i ∈ K,i < cs.length)∧size D=K.length ∧
   (∀ s i,firstIx s cs=some i→i ∈ K→SmK w cs Av D i s)∧∀ s,(∀ i ∈ K,firstIx s cs≠some i)→has D (strK s)=false
theorem SmK.move {w w':World} {cs:List Cn} {Av Av':Nat→Prop} {D:DataW Value} {i:Nat} {s:ByteArray} (h:SmK w cs Av D i s) (hx:∀ c:Ch,ExAt w c.b c.o c.a c.k→FoAv Av c.k c.b→ExAt w' c.b c.o c.a c.k∧FoAv Av' c.k c.b):SmK w' cs Av' D i s:=by
 obtain ⟨h1,h2,c,h3,h4,h5,h6⟩:=h
 exact ⟨h1,h2,c,h3,h4,hx c h5 h6⟩
theorem SmMap.move {P:Program} {w w':World} {cs:List Cn} {Av Av':Nat→Prop} {b:Nat} {row:Option Nat} (h:SmMap P w cs Av b) (hg:w.grownBy w' row) (hne:some b≠row)
 (hx:∀ c:Ch,ExAt w c.b c.o c.a c.k→FoAv Av c.k c.b→ExAt w' c.b c.o c.a c.k∧FoAv Av' c.k c.b):SmMap P w' cs Av' b:=by
 obtain ⟨D,K,h1,h2,h3,h4,h5,h6,h7⟩:=h
 exact ⟨D,K,h1.kept hg hne,h2,h3,h4,h5,fun s i hs hi=>(h6 s i hs hi).move hx,h7⟩
theorem SmMap.next {P:Program} {w w':World} {cs:List Cn} {Av:Nat→Prop} {b:Nat} (h:SmMap P w cs Av b) (hb:Below w.heap.size w w'):SmMap P w' cs Av b:=h.move (grw_of_below none hb) (by simp) (fun c h1 h2=>⟨h1.next hb,h2⟩)
theorem SmMap.lt {P:Program} {w:World} {cs:List Cn} {Av:Nat→Prop} {b:Nat} (h:SmMap P w cs Av b):b < w.heap.size:=by
 obtain ⟨D,K,h1,-⟩:=h
 exact h1.lt
theorem SmMap.mono {P:Program} {w:World} {cs:List Cn} {Av Av':Nat→Prop} {b:Nat} (h:SmMap P w cs Av b) (hA:∀ g,Av g→Av' g):SmMap P w cs Av' b:=by
 obtain ⟨D,K,h1,h2,h3,h4,h5,h6,h7⟩:=h
 exact ⟨D,K,h1,h2,h3,h4,h5,fun s i hs hi=>(h6 s i hs hi).move fun c e1 e2=>⟨e1,e2.mono hA⟩,h7⟩
theorem SmMap.here {P:Program} {w:World} {cs:List Cn} {Av:Nat→Prop} {b:Nat} (h:SmMap P w cs Av b):SmMap P w cs (fun g=>Av g∧g < w.heap.size) b:=by
 obtain ⟨D,K,h1,h2,h3,h4,h5,h6,h7⟩:=h
 exact ⟨D,K,h1,h2,h3,h4,h5,fun s i hs hi=>(h6 s i hs hi).move fun c e1 e2=>⟨e1,FoAv.lt e1.2 e2⟩,h7⟩
theorem SmMap.grown {P:Program} {w w':World} {cs:List Cn} {Av:Nat→Prop} {b s:Nat} (h:SmMap P w cs Av b) (hg:w.grownBy w' (some s)) (hs:b≠s) (hA:∀ g,Av g→g≠s):SmMap P w' cs Av b :=
 h.move hg (fun q=>hs (Option.some.inj q)) (fun c h1 h2=>⟨⟨h1.1,h1.2.grownAv (h2.mono hA) hg⟩,h2⟩)
theorem SmMap.start (P:Program) (w:World) (cs:List Cn) (Av:Nat→Prop):SmMap P (w.alloc (.map #[] 0)) cs Av w.heap.size :=
 ⟨.map [],[],World.ownsMap_made _ _ _ _,⟨[],rfl⟩,List.nodup_nil,by simp,rfl,fun s i _ hi=>by simp at hi,fun i _=>rfl⟩
theorem no_cellG {H:Type} {P:Program} {w:World} {k:TypeId} {R:Value→Option (DataW H × List MemPlace)} {b n:Nat} {D:DataW H} (h:w.ownsMap P k R b n D) (p:Addr) (hp:p.block=b):w.cell? p=none:=by
 obtain ⟨es,clock,hb,-⟩:=h
 subst hp
 simp [World.cell?,hb]
theorem SmMap.noCell {P:Program} {w:World} {cs:List Cn} {Av:Nat→Prop} {b:Nat} (h:SmMap P w cs Av b) (p:Addr) (hp:p.block=b):w.cell? p=none:=by
 obtain ⟨D,K,ho,-⟩:=h
 exact no_cellG ho p hp
theorem Keeps.of_sm {P:Program} {w w':World} {cs:List Cn} {Av:Nat→Prop} {b:Nat} (hk:SmMap P w cs Av b) (h:w.grownBy w' (some b)):Keeps w w':=fun p v q=>by
 have hne:some p.block≠some b:=fun e=>by rw [hk.noCell p (Option.some.inj e)] at q;cases q
 rw [World.cell?_of_block (h.block p.block (block_lt_of_cell q) hne)];exact q
theorem Tryz.zeroX (w:World):(zeroValue 25).run Tryz.prog w=.ok zxV w:=by kernel_rfl
theorem firstIx_inj {cs:List Cn} {s t:ByteArray} {i:Nat} (h:firstIx s cs=some i) (g:firstIx t cs=some i):s=t:=by
 obtain ⟨⟨c,h1,h2⟩,-⟩:=(firstIx_some s cs i).1 h
 obtain ⟨⟨d,g1,g2⟩,-⟩:=(firstIx_some t cs i).1 g
 rw [h1] at g1
 cases g1
 exact h2.symm.trans g2
theorem sm_upd {w:World} {cs:List Cn} {Av:Nat→Prop} {b:Nat} (h:SmMap Tryz.prog w cs Av b) (s:ByteArray) (hs:s.size≤maxLen) (c:Ch) (i:Nat) (hi:firstIx s cs=some i) (hil:i < cs.length) (hcl:cs.length≤2932031007402) (hr:(rowT cs i).2=0) (he:ec c=litE (rowT cs i).1 (cval cs i)) (hx:ExAt w c.b c.o c.a c.k) (ha:FoAv Av c.k c.b) :
 ∃ w',(Instr.mapUpdate 79 (.map (some b)) (.string s) (xpV c.a c.k)).run Tryz.prog w=.ok () w'∧SmMap Tryz.prog w' cs Av b∧w.grownBy w' (some b):=by
 have hsm:=h
 obtain ⟨D,K,h1,h2,h3,h4,h5,h6,h7⟩:=h
 have hl:=nodup_len cs.length K h3 h4
 obtain ⟨w',hrun,ho,hg⟩:=h1.update Tryz.keyS Tryz.underlying79 (by unfold maxLen;omega) (Go.WideMaps.keyOf_string_mk Tryz.underlying9 hs) (show heldV (xpV c.a c.k)=some (.held (xpV c.a c.k),[]) from rfl)
 have hk:=Keeps.of_sm hsm hg
 refine ⟨w',hrun,?_,hg⟩
 have hsz:=Go.Maps.size_put (k:=strK s) (h1.tidy Tryz.keyS) (.held (xpV c.a c.k))
 have key:Go.WideAt.IsKeyLit (strK s):=by first|trivial|exact .inl ⟨_,rfl⟩|simp [WideAt.IsKeyLit,strK]
 have same:SmK w' cs Av (D.put (strK s) (.held (xpV c.a c.k))) i s:=⟨Go.Maps.has_put_same h2 key _,hr,c,Go.Maps.atKey_put_same h2 key _ _,he,hx.keep hk,ha⟩
 have other:∀ t,t≠s→∀ j,SmK w cs Av D j t→SmK w' cs Av (D.put (strK s) (.held (xpV c.a c.k))) j t:=fun t ht j q=>by
  obtain ⟨q1,q2,d,q3,q4,q5,q6⟩:=q
  exact ⟨by rw [Go.Maps.has_put_other (strK_ne ht)];exact q1,q2,d,by rw [Go.Maps.atKey_put_other (strK_ne ht)];exact q3,q4,q5.keep hk,q6⟩
 by_cases hiK:i ∈ K
 · rw [if_pos (h6 s i hi hiK).1,h5] at hsz
   refine ⟨_,K,hsz ▸ own_tightG ho,h2.put _ _,h3,h4,hsz,?_,?_⟩
   · intro t j ht hj
     by_cases q:t=s
     · subst q
       rw [hi] at ht
       cases ht
       exact same
     · exact other t q j (h6 t j ht hj)
   · intro t ht
     have q:t≠s:=by rintro rfl;exact ht i hiK hi
     rw [Go.Maps.has_put_other (strK_ne q)]
     exact h7 t ht
 · have hn:has D (strK s)=false:=h7 s (fun j hj e=>by
    rw [hi] at e
    cases e
    exact hiK hj)
   rw [if_neg (by rw [hn];simp),h5] at hsz
   refine ⟨_,i :: K,?_,h2.put _ _,List.nodup_cons.2 ⟨hiK,h3⟩,?_,hsz,?_,?_⟩
   · have h9:=own_tightG ho
     have hsz':size (D.put (Lit.string s.data.toList) (DataW.held (xpV c.a c.k)))=K.length+1:=hsz
     rw [hsz'] at h9
     exact h9
   · intro j hj
     rcases List.mem_cons.1 hj with rfl|hj
     · exact hil
     · exact h4 j hj
   · intro t j ht hj
     by_cases q:t=s
     · subst q
       rw [hi] at ht
       cases ht
       exact same
     · rcases List.mem_cons.1 hj with rfl|hj
       · exact absurd (firstIx_inj ht hi) q
       · exact other t q j (h6 t j ht hj)
   · intro t ht
     have q:t≠s:=by rintro rfl;exact ht i (by simp) hi
     rw [Go.Maps.has_put_other (strK_ne q)]
     exact h7 t (fun j hj=>ht j (by simp [hj]))
structure SmJ (w:World) (cs:List Cn) (Av:Nat→Prop) (sb mb:Nat) (kp:Option Addr) (p:Option Addr) (cap:Nat):Prop where
 c0:w.cell? ⟨sb,0,none⟩=some (.slice p cs.length cap)
 c1:w.cell? ⟨sb,1,none⟩=some (.map (some mb))
 c2:w.cell? ⟨sb,2,none⟩=some (.pointer kp)
 m:SmMap Tryz.prog w cs Av mb
theorem SmJ.next {w w':World} {cs:List Cn} {Av:Nat→Prop} {sb mb:Nat} {kp p:Option Addr} {cap:Nat} (h:SmJ w cs Av sb mb kp p cap) (hb:Below w.heap.size w w'):SmJ w' cs Av sb mb kp p cap :=
 have K:=Keeps.of_below hb
 ⟨K _ _ h.c0,K _ _ h.c1,K _ _ h.c2,h.m.next hb⟩
theorem SmJ.turn {w w':World} {cs:List Cn} {Av Av':Nat→Prop} {sb mb:Nat} {kp p:Option Addr} {cap:Nat} (h:SmJ w cs Av sb mb kp p cap) (hg:w.grownBy w' (some mb)) (hm:SmMap Tryz.prog w' cs Av' mb):SmJ w' cs Av' sb mb kp p cap :=
 have K:=Keeps.of_sm h.m hg
 ⟨K _ _ h.c0,K _ _ h.c1,K _ _ h.c2,hm⟩
end
end
section
section
set_option linter.unusedVariables false
set_option linter.unusedSimpArgs false
open Go.RowKit
open Go.Deep (BT)
theorem lit_form (c:Ch) (h:isLit c=true) (hw:(wfB c.a (len c.k) && wfT c.k)=true) :
 (c.k=.nil∧1≤c.a.op∧c.a.op≤5)∨∃ b o a,c.k=.node b o a .nil .nil∧c.a.op=7∧(a.op=1∨a.op=2)∧0≤a.num∧a.num≤1099511627776:=by
 obtain ⟨b,o,a,k⟩:=c
 dsimp only at hw ⊢
 rw [Bool.and_eq_true] at hw
 obtain ⟨h1,h2,h3,h4⟩:=wf_parts hw.1
 unfold isLit at h
 rw [decide_eq_true_eq] at h
 dsimp only at h
 by_cases h5:a.op≤5
 · left
   refine ⟨?_,h1.1,h5⟩
   unfold argB at h2
   rw [if_pos (by omega)] at h2
   exact len_zero (by simpa using h2)
 · right
   have h7:a.op=7∧(kop ⟨b,o,a,k⟩=1∨kop ⟨b,o,a,k⟩=2):=by
    rcases h with h|h|h|h|h|h
    · omega
    · omega
    · omega
    · omega
    · omega
    · exact h
   unfold argB at h2
   rw [if_neg (by omega),if_pos (Or.inl h7.1)] at h2
   have hl:len k=1:=by simp at h2;omega
   cases k with
   | nil=>simp [len] at hl
   | node b1 o1 a1 k1 r1 =>
     have hr:r1=.nil:=len_zero (by simp [len] at hl;omega)
     subst hr
     have hk:a1.op=1∨a1.op=2:=h7.2
     have hw2:((wfB a1 (len k1) && wfT k1) && true)=true:=hw.2
     rw [Bool.and_true,Bool.and_eq_true] at hw2
     obtain ⟨g1,g2,g3,g4⟩:=wf_parts hw2.1
     unfold argB at g2
     rw [if_pos (by omega)] at g2
     have hk1:k1=.nil:=len_zero (by simpa using g2)
     subst hk1
     unfold numB at g3
     rw [if_pos hk,decide_eq_true_eq] at g3
     exact ⟨b1,o1,a1,rfl,h7.1,hk,g3.1,g3.2⟩
theorem lit_ev (nm:ByteArray→Int) (c:Ch) (h:isLit c=true) (hw:(wfB c.a (len c.k) && wfT c.k)=true):ev1 nm c.a (evF nm c.k)=litV c:=by
 rcases lit_form c h hw with ⟨hk,h1,h5⟩|⟨b,o,a,hk,h7,ha,h0,hn9⟩
 · unfold ev1 litV
   by_cases q1:c.a.op=1∨c.a.op=2∨c.a.op=3
   · rw [if_pos q1,if_pos q1]
   · rw [if_neg q1,if_neg q1]
     by_cases q4:c.a.op=4
     · rw [if_pos q4,if_pos q4]
     · rw [if_neg q4,if_neg q4,if_pos (by omega),if_pos (by omega)]
 · have e:knum c=a.num:=by unfold knum;rw [hk];rfl
   unfold litV
   rw [e,hk]
   have e2:evF nm (.node b o a .nil .nil)=[a.num]:=by
    rw [evF]
    congr 1
    unfold ev1
    rw [if_pos (by omega)]
   rw [e2]
   unfold ev1
   rw [if_neg (by omega),if_neg (by omega),if_neg (by omega),if_neg (by omega),if_neg (by omega),if_neg (by omega),if_neg (by omega),h7]
   unfold opV
   rw [if_neg (by omega),if_neg (by omega),if_neg (by omega),if_neg (by omega),if_pos rfl]
   show addV 0 (negV a.num) = -a.num
   have hn:negV a.num = -a.num:=by unfold negV;rw [IntKind.wrap_i64];omega
   rw [hn]
   unfold addV clampI
   omega
theorem lits_ok (nm:ByteArray→Int) (k:Fo) (h:(kids k).all isLit=true) (hw:wfT k=true):LnB k∧NamF (fun _=>False) k∧evF nm k=(kids k).map litV:=by
 induction k with
 | nil=>exact ⟨trivial,trivial,rfl⟩
 | node b o a k r ihk ihr =>
   have h':(isLit ⟨b,o,a,k⟩ && (kids r).all isLit)=true:=h
   rw [Bool.and_eq_true] at h'
   have hw':((wfB a (len k) && wfT k) && wfT r)=true:=hw
   rw [Bool.and_eq_true] at hw'
   obtain ⟨r1,r2,r3⟩:=ihr h'.2 hw'.2
   have hv:=lit_ev nm ⟨b,o,a,k⟩ h'.1 hw'.1
   refine ⟨⟨?_,r1⟩,⟨⟨?_,?_⟩,r2⟩,?_⟩
   · rcases lit_form ⟨b,o,a,k⟩ h'.1 hw'.1 with ⟨hk,-⟩|⟨b1,o1,a1,hk,-⟩
     · dsimp only at hk;subst hk;exact ⟨by simp [len],trivial⟩
     · dsimp only at hk;subst hk;exact ⟨by simp [len],⟨by simp [len],trivial⟩,trivial⟩
   · intro q
     rcases lit_form ⟨b,o,a,k⟩ h'.1 hw'.1 with ⟨hk,h1,h5⟩|⟨b1,o1,a1,hk,h7,-⟩
     · dsimp only at h5;omega
     · dsimp only at h7;omega
   · rcases lit_form ⟨b,o,a,k⟩ h'.1 hw'.1 with ⟨hk,-⟩|⟨b1,o1,a1,hk,h7,ha,-⟩
     · dsimp only at hk;subst hk;trivial
     · dsimp only at hk;subst hk;exact ⟨⟨fun q=>by omega,trivial⟩,trivial⟩
   · show ev1 nm a (evF nm k) :: evF nm r=litV ⟨b,o,a,k⟩ :: (kids r).map litV
     rw [hv,r3]
theorem smL_ef (sc:Int) (T:List Int) (k:Fo) (h:smL sc T ((kids k).map ec)):wfT k=true:=by
 have:=smL_wf sc h
 rw [← ef_kids,wfT_ef] at this
 exact this
theorem kd_kids (sc:Int) (T:List Int) (k:Fo) (h:smL sc T ((kids k).map ec)) (hT:∀ t ∈ T,1≤t∧t≤4) (hl:(kids k).all isLit=true):kdF k=T:=by
 have:=kdF_sm sc h hT (by rw [all_ec];exact hl)
 rw [← ef_kids,kd_ef] at this
 exact this
end
section
set_option linter.unusedVariables false
set_option linter.unusedSimpArgs false
open Go.ChangeShapes Go.WideShapes Go.ChangeAt Go.RowKit
open Go.Deep (BT)
structure BX4 (w:World) (g:Nat) (v0 v1 v2 v3:Value):Prop where
 r0:w.cell? ⟨g,0,none⟩=some v0
 r1:w.cell? ⟨g,1,none⟩=some v1
 r2:w.cell? ⟨g,2,none⟩=some v2
 r3:w.cell? ⟨g,3,none⟩=some v3
 f0:w.frozen? ⟨g,0,none⟩=false
 f1:w.frozen? ⟨g,1,none⟩=false
 f2:w.frozen? ⟨g,2,none⟩=false
 f3:w.frozen? ⟨g,3,none⟩=false
 lt:g < w.heap.size
theorem BX4.next {w w':World} {g:Nat} {v0 v1 v2 v3:Value} (h:BX4 w g v0 v1 v2 v3) (hb:Below w.heap.size w w'):BX4 w' g v0 v1 v2 v3 where
 r0:=by rw [hb.cell (p:=⟨g,0,none⟩) h.lt];exact h.r0
 r1:=by rw [hb.cell (p:=⟨g,1,none⟩) h.lt];exact h.r1
 r2:=by rw [hb.cell (p:=⟨g,2,none⟩) h.lt];exact h.r2
 r3:=by rw [hb.cell (p:=⟨g,3,none⟩) h.lt];exact h.r3
 f0:=by rw [hb.frozen (p:=⟨g,0,none⟩) h.lt];exact h.f0
 f1:=by rw [hb.frozen (p:=⟨g,1,none⟩) h.lt];exact h.f1
 f2:=by rw [hb.frozen (p:=⟨g,2,none⟩) h.lt];exact h.f2
 f3:=by rw [hb.frozen (p:=⟨g,3,none⟩) h.lt];exact h.f3
 lt:=Nat.lt_of_lt_of_le h.lt hb.size
theorem BX4.new (w:World) (v0 v1 v2 v3:Value) (T:TypeId):BX4 (w.alloc (.cells #[v0,v1,v2,v3] T)) w.heap.size v0 v1 v2 v3:=by
 constructor<;>simp [go_sem]
theorem set4_below {w wx:World} {r:Nat} {a b c d:Value} (hg:Below w.heap.size w wx) (hw:w.heap.size≤r):Below w.heap.size w ((((wx.setCell ⟨r,0,none⟩ a).setCell ⟨r,1,none⟩ b).setCell ⟨r,2,none⟩ c).setCell ⟨r,3,none⟩ d) :=
 (((hg.setCell hw _).setCell hw _).setCell hw _).setCell hw _
theorem ExAt.set4 {wx:World} {B r:Nat} {c:Ch} {u0 u1 u2 u3:Value} (h:ChAt wx B c) (hr:r < B):ChAt ((((wx.setCell ⟨r,0,none⟩ u0).setCell ⟨r,1,none⟩ u1).setCell ⟨r,2,none⟩ u2).setCell ⟨r,3,none⟩ u3) B c:=by
 have g:∀ (w:World) (i:Nat) (u:Value),w.grownBy (w.setCell ⟨r,i,none⟩ u) (some r):=fun w i u=>⟨rfl,rfl,rfl,by simp [World.setCell],fun k hk hr=>Below.heap_setCell _ _ _ _ (fun e=>hr (by rw [e]))⟩
 exact h.grown hr ((((g _ _ _).trans (g _ _ _)).trans (g _ _ _)).trans (g _ _ _))
end
end
section
set_option linter.unusedVariables false
set_option linter.unusedSimpArgs false
open Go.RowKit
open Go.Deep (BT)
def Nf1 (a:Nd) (L:List Ch):Prop:=7≤a.op→(∃ t v:Int,(t=1∨t=2)∧v < 0 ∧ -1099511627776≤v∧a.op=7∧L=[dE t (-v) noN])∨(L.all isLit=false∧redE a.op L=nE a.op L)
def NfF:Fo→Prop
 | .nil=>True
 | .node _ _ a k r=>(Nf1 a (kids k)∧NfF k)∧NfF r
def NfC (c:Ch):Prop:=Nf1 c.a (kids c.k)∧NfF c.k
theorem nfF_row (L:List Ch):NfF (rowF L)↔∀ c ∈ L,NfC c:=by
 induction L with
 | nil=>exact ⟨fun _ c hc=>(by cases hc),fun _=>trivial⟩
 | cons c l ih =>
   show ((Nf1 c.a (kids c.k)∧NfF c.k)∧NfF (rowF l))↔_
   rw [ih]
   constructor
   · rintro ⟨h1,h2⟩ d hd
     rcases List.mem_cons.1 hd with rfl|hd
     · exact h1
     · exact h2 d hd
   · intro h
     exact ⟨h c (by simp),fun d hd=>h d (by simp [hd])⟩
theorem nfF_kids (k:Fo) (h:NfF k):∀ c ∈ kids k,NfC c:=(nfF_row _).1 (by rw [rowF_kids];exact h)
theorem nf_dE (op num:Int) (s:ByteArray) (h:op < 7):NfC (dE op num s):=by
 refine ⟨fun q=>?_,trivial⟩
 have e:(dE op num s).a.op=op:=rfl
 rw [e] at q
 omega
theorem nf_getD (L:List Ch) (i:Nat) (h:∀ c ∈ L,NfC c):NfC (L.getD i (dE 0 0 noN)):=by
 rw [List.getD_eq_getElem?_getD]
 cases q:L[i]? with
 | none=>exact nf_dE _ _ _ (by decide)
 | some c=>exact h c (List.mem_of_getElem? q)
theorem nf_k0 (c:Ch) (h:NfC c):NfC (k0 c):=nf_getD _ 0 (nfF_kids _ h.2)
theorem nf_nE (op:Int) (L:List Ch) (h:∀ c ∈ L,NfC c) (hn:L.all isLit=false) (e:redE op L=nE op L):NfC (nE op L):=by
 refine ⟨fun _=>.inr ?_,?_⟩
 · have ek:kids (nE op L).k=L:=by show kids (rowF L)=L;rw [kids_rowF]
   rw [ek]
   exact ⟨hn,e⟩
 · show NfF (rowF L)
   exact (nfF_row L).2 h
theorem nf_litE (t v:Int) (h1:1≤t∧t≤4) (h:vok t v):NfC (litE t v):=by
 unfold litE
 split
 · split
   · exact nf_dE _ _ _ (by decide)
   · exact nf_dE _ _ _ (by decide)
 · rename_i h4
   split
   · exact nf_dE _ _ _ (by decide)
   · rename_i h3
     have ht:t=1∨t=2:=by omega
     split
     · rename_i hv
       refine ⟨fun _=>.inl ⟨t,v,ht,hv,(h.1 ht).1,rfl,?_⟩,?_⟩
       · show kids (rowF _)=_
         rw [kids_rowF]
         rcases ht with rfl|rfl<;>rfl
       · show NfF (rowF [_])
         rw [nfF_row]
         intro c hc
         rw [List.mem_singleton.1 hc]
         exact nf_dE _ _ _ (by split<;>decide)
     · exact nf_dE _ _ _ (by split<;>decide)
theorem red_cases (op:Int) (L:List Ch):redE op L=nE op L∨(∃ o,o < 7∧redE op L=dE o 0 noN)∨redE op L=g0 L∨redE op L=g1 L∨redE op L=g2 L∨(op=19∧redE op L=notE (g0 L))∨(op=22∧(g0 L).a.op≠4∧(g0 L).a.op≠5∧redE op L=notE (g0 L)):=by
 unfold redE
 by_cases q19:op=19
 · rw [if_pos q19];exact .inr (.inr (.inr (.inr (.inr (.inl ⟨q19,rfl⟩)))))
 rw [if_neg q19]
 by_cases q20:op=20
 · subst q20
   rw [if_pos rfl]
   unfold juncE
   split
   · exact .inr (.inl ⟨5,by decide,rfl⟩)
   split
   · exact .inr (.inr (.inr (.inl rfl)))
   split
   · exact .inr (.inr (.inl rfl))
   · exact .inl rfl
 rw [if_neg q20]
 by_cases q21:op=21
 · subst q21
   rw [if_pos rfl]
   unfold juncE
   split
   · exact .inr (.inl ⟨4,by decide,rfl⟩)
   split
   · exact .inr (.inr (.inr (.inl rfl)))
   split
   · exact .inr (.inr (.inl rfl))
   · exact .inl rfl
 rw [if_neg q21]
 by_cases q22:op=22
 · subst q22
   rw [if_pos rfl]
   unfold implE
   split
   · exact .inr (.inl ⟨4,by decide,rfl⟩)
   rename_i n1
   split
   · exact .inr (.inr (.inr (.inl rfl)))
   rename_i n2
   split
   · exact .inr (.inr (.inr (.inr (.inr (.inr ⟨rfl,n2,fun q=>n1 (.inl q),rfl⟩)))))
   · exact .inl rfl
 rw [if_neg q22]
 by_cases q14:op=14
 · subst q14
   rw [if_pos rfl]
   split
   · exact .inr (.inr (.inr (.inl rfl)))
   split
   · exact .inr (.inr (.inr (.inr (.inl rfl))))
   · exact .inl rfl
 rw [if_neg q14]
 have nt:∀ (o:Int) (is:Ch→Bool) (both:Bool),neutE o is both L=nE o L∨neutE o is both L=g0 L∨neutE o is both L=g1 L:=by
  intro o is both
  unfold neutE
  split
  · exact .inr (.inl rfl)
  split
  · exact .inr (.inr rfl)
  · exact .inl rfl
 have fin:∀ (o:Int) (is:Ch→Bool) (both:Bool),op=o→(neutE o is both L=nE op L∨(∃ o',o' < 7∧neutE o is both L=dE o' 0 noN)∨neutE o is both L=g0 L∨neutE o is both L=g1 L∨neutE o is both L=g2 L∨(op=19∧neutE o is both L=notE (g0 L))∨(op=22∧(g0 L).a.op≠4∧(g0 L).a.op≠5∧neutE o is both L=notE (g0 L))):=by
  intro o is both e
  subst e
  rcases nt op is both with q|q|q
  · exact .inl q
  · exact .inr (.inr (.inl q))
  · exact .inr (.inr (.inr (.inl q)))
 split
 · rename_i e;exact fin 8 _ _ e
 split
 · rename_i e;exact fin 9 _ _ e
 split
 · rename_i e;exact fin 10 _ _ e
 split
 · rename_i e;exact fin 11 _ _ e
 · exact .inl rfl
theorem red_nf (sc op:Int) (T:List Int) (L:List Ch) (h:smL sc T L) (hN:∀ c ∈ L,NfC c) (h7:7≤op∧op≤22) (hr:resT op T≠0) (ha:argB op (L.length:Int)=true) (hn:L.all isLit=false):NfC (redE op L):=by
 rcases red_cases op L with e|⟨o,ho,e⟩|e|e|e|⟨rfl,e⟩|⟨rfl,n4,n5,e⟩
 · rw [e];exact nf_nE op L hN hn e
 · rw [e];exact nf_dE _ _ _ ho
 · rw [e];exact nf_getD L 0 hN
 · rw [e];exact nf_getD L 1 hN
 · rw [e];exact nf_getD L 2 hN
 · obtain ⟨t,c,rfl,rfl,hc⟩:=smL1 h (by simp [argB] at ha;omega)
   rw [e]
   show NfC (notE c)
   by_cases q:c.a.op=19
   · unfold notE;rw [if_pos q];exact nf_k0 c (hN c (by simp))
   · have e2:notE c=nE 19 [c]:=by unfold notE;rw [if_neg q]
     rw [e2]
     exact nf_nE 19 [c] hN hn (by show notE c=_;exact e2)
 · obtain ⟨t,u,c,d,rfl,rfl,hc,hd⟩:=smL2 h (by simp [argB] at ha;omega)
   obtain ⟨rfl,rfl,-⟩:=res_junc 22 t u (by decide) hr
   rw [e]
   show NfC (notE c)
   have hl:=bool_lit hc n4 n5
   by_cases q:c.a.op=19
   · unfold notE;rw [if_pos q];exact nf_k0 c (hN c (by simp))
   · have e2:notE c=nE 19 [c]:=by unfold notE;rw [if_neg q]
     rw [e2]
     exact nf_nE 19 [c] (fun x hx=>by rw [List.mem_singleton.1 hx];exact hN c (by simp)) (by simpa using hl) (by show notE c=_;exact e2)
theorem sim_nf (look:Look) (cv:ByteArray→Int) (sc:Int) (hc:CvOk look cv) (T:Fo) (h:(tyF look sc T).1=0) (hw:wfT T=true):∀ c ∈ simF look cv sc T,NfC c:=by
 induction T with
 | nil=>intro c hc;cases hc
 | node b o a k r ihk ihr =>
   obtain ⟨h1,h2,h3⟩:=ty_row look sc b o a k r h
   have hw':((wfB a (len k) && wfT k) && wfT r)=true:=hw
   rw [Bool.and_eq_true] at hw'
   have hwk:=hw'.1
   rw [Bool.and_eq_true] at hwk
   intro c hcm
   rcases List.mem_cons.1 hcm with rfl|hcm
   · unfold sim1
     by_cases h6:a.op=6
     · rw [if_pos h6]
       by_cases h0:atE sc a.name=0
       · rw [if_pos h0];exact nf_dE _ _ _ (by decide)
       · rw [if_neg h0]
         have ht:(look a.name).2=0:=by
          unfold tyT nameT at h1
          rw [if_pos h6,if_neg h0] at h1
          exact h1
         exact nf_litE _ _ (hc a.name ht).1 (hc a.name ht).2
     · rw [if_neg h6]
       obtain ⟨p1,p2,p3⟩:=ty_parts look sc a k h1 h6
       obtain ⟨s1,s2⟩:=simF_sm look cv sc hc k p1 hwk.2
       have hl:=simF_len look cv sc k
       obtain ⟨w1,w2,w3,w4⟩:=wf_parts hwk.1
       by_cases hk:simF look cv sc k=[]
       · rw [if_pos hk]
         refine nf_dE _ _ _ ?_
         apply Int.not_le.1
         intro q
         rw [hk] at hl
         simp at hl
         rw [← hl] at w2
         unfold argB at w2
         rw [if_neg (by omega)] at w2
         (repeat' split at w2)<;>simp at w2
       · rw [if_neg hk]
         have h7:7≤a.op∧a.op≤22:=by
          refine ⟨?_,w1.2⟩
          apply Int.not_lt.1
          intro q
          unfold argB at w2
          rw [if_pos (by omega)] at w2
          simp at w2
          exact hk (List.length_eq_zero_iff.1 (by rw [hl];omega))
         by_cases hall:(simF look cv sc k).all isLit=true
         · rw [if_pos hall]
           have hTl:(tyF look sc k).2.length=len k:=tyF_len look sc k p1
           exact nf_litE _ _ (res_range a.op _ s2 h7 p2) (op_ok a.op _ _ (smL_voks sc s1 hall) h7 (by rw [hTl];exact w2) p2)
         · rw [if_neg hall]
           exact red_nf sc a.op _ _ s1 (ihk p1 hwk.2) h7 p2 (by rw [hl];exact w2) (by simpa using hall)
   · exact ihr h2 hw'.2 c hcm
theorem idem (cv:ByteArray→Int) (sc:Int) (T:Fo) (h:(tyF noL sc T).1=0) (hw:wfT T=true) (hN:NfF T) (he:ef T=T):simF noL cv sc T=kids T:=by
 induction T with
 | nil=>rfl
 | node b o a k r ihk ihr =>
   obtain ⟨h1,h2,h3⟩:=ty_row noL sc b o a k r h
   have hw':((wfB a (len k) && wfT k) && wfT r)=true:=hw
   rw [Bool.and_eq_true] at hw'
   have hwk:=hw'.1
   rw [Bool.and_eq_true] at hwk
   have he':BT.node 0 0 (⟨a.op,a.num,a.name,none,0⟩:Nd) (ef k) (ef r)=BT.node b o a k r:=he
   injection he' with e1 e2 e3 e4 e5
   subst e1
   subst e2
   show sim1 noL cv sc a (tyF noL sc k).2 (simF noL cv sc k) :: simF noL cv sc r=⟨0,0,a,k⟩ :: kids r
   rw [ihr h2 hw'.2 hN.2 e5]
   congr 1
   obtain ⟨w1,w2,w3,w4⟩:=wf_parts hwk.1
   unfold sim1
   by_cases h6:a.op=6
   · rw [if_pos h6]
     have hat:atE sc a.name=0:=by
      unfold tyT nameT at h1
      rw [if_pos h6] at h1
      by_cases q:atE sc a.name=0
      · exact q
      · rw [if_neg q] at h1;cases h1
     rw [if_pos hat]
     have hk:k=.nil:=by
      rw [h6] at w2
      simp [argB] at w2
      exact len_zero (by omega)
     have hn:a.num=0:=by
      rw [h6] at w3
      simpa [numB] using w3
     subst hk
     show (⟨0,0,⟨6,0,a.name,none,0⟩,.nil⟩:Ch)=⟨0,0,a,.nil⟩
     rw [← e3]
     simp only [h6,hn]
   · rw [if_neg h6]
     obtain ⟨p1,p2,p3⟩:=ty_parts noL sc a k h1 h6
     have ik:=ihk p1 hwk.2 hN.1.2 e4
     have hnm:a.name=noN:=by
      unfold namB at w4
      rw [if_neg h6,decide_eq_true_eq] at w4
      exact ByteArray.ext (Array.eq_empty_of_size_eq_zero w4)
     rw [ik]
     by_cases hk:kids k=[]
     · rw [if_pos hk]
       have hkn:k=.nil:=len_zero (by rw [← kids_len,hk];rfl)
       subst hkn
       show (⟨0,0,⟨a.op,a.num,noN,none,0⟩,.nil⟩:Ch)=⟨0,0,a,.nil⟩
       rw [← hnm,e3]
     · rw [if_neg hk]
       have h7:7≤a.op:=by
        apply Int.not_lt.1
        intro q
        unfold argB at w2
        rw [if_pos (by omega)] at w2
        simp at w2
        exact hk (by rw [len_zero (k:=k) (by omega)];rfl)
       have hn0:a.num=0:=by
        unfold numB at w3
        rw [if_neg (by omega),if_neg (by omega),decide_eq_true_eq] at w3
        exact w3
       have ea:(⟨a.op,0,noN,none,0⟩:Nd)=a:=by rw [← hn0,← hnm];exact e3
       have eN:nE a.op (kids k)=⟨0,0,a,k⟩:=by
        show (⟨0,0,⟨a.op,0,noN,none,0⟩,rowF (kids k)⟩:Ch)=_
        rw [ea,rowF_kids]
       rcases hN.1.1 h7 with ⟨t,v,ht,hv,hb,h77,hL⟩|⟨hn,hr⟩
       · have hT:(tyF noL sc k).2=[t]:=by
          have ek:k=rowF [dE t (-v) noN]:=by rw [← hL,rowF_kids]
          rw [ek]
          rcases ht with rfl|rfl<;>rfl
         rw [← eN,hL,hT,h77]
         have hall:[dE t (-v) noN].all isLit=true:=by rcases ht with rfl|rfl<;>simp [isLit,dE]
         rw [if_pos hall]
         have hlv:litV (dE t (-v) noN) = -v:=by rcases ht with rfl|rfl<;>simp [litV,dE]
         show litE (resT 7 [t]) (opV 7 [litV (dE t (-v) noN)])=nE 7 [dE t (-v) noN]
         rw [hlv]
         have hrt:resT 7 [t]=t:=by rcases ht with rfl|rfl<;>rfl
         have hov:opV 7 [-v]=v:=by
          show clampI (0+IntKind.i64.wrap (- -v))=v
          rw [Int.neg_neg,show IntKind.i64.wrap v=v from IntWalk.i64_in _ (by omega)]
          unfold clampI;omega
         rw [hrt,hov]
         unfold litE
         rw [if_neg (by omega),if_neg (by omega),if_pos hv]
         rcases ht with rfl|rfl<;>rfl
       · rw [if_neg (by rw [hn];simp),hr];exact eN
end
end Go.Proofs.YtfoedbfkddoibaaGreat
