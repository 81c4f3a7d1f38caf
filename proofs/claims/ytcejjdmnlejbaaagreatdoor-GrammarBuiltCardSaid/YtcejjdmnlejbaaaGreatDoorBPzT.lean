import Derived.Test.YtcejjdmnlejbaaaGreatDoorBPzQ
import Derived.Test.YtcejjdmnlejbaaaGreatDoorBTvt
namespace Go.Proofs.YtcejjdmnlejbaaaGreatDoor
set_option linter.unusedVariables false
set_option linter.unusedSimpArgs false
open Go.ChangeShapes Go.WideShapes Go.ChangeAt Go.RowKit
open Go.Deep (BT)
theorem leaf_none {L:List Tk.T4} {i:Nat} (h:L.length≤i):Pz.leaf L i=(none,i):=by unfold Pz.leaf;rw [List.getElem?_eq_none h]
theorem leaf_tok {L:List Tk.T4} {i:Nat} {t:Tk.T4} (h:L[i]?=some t):Pz.leaf L i=(match Pz.leafT t.t with|some x=>(some x,i+1)|none=>(none,i)):=by
 unfold Pz.leaf;rw [h];dsimp only;cases Pz.leafT t.t<;>rfl
theorem leafT_num {t:Tk.T3} (h:t.kind=2):Pz.leafT t=some (Pz.lf 1 t.num ⟨#[]⟩):=by unfold Pz.leafT;rw [if_pos h]
theorem leafT_time {t:Tk.T3} (h:t.kind=3):Pz.leafT t=some (Pz.lf 2 t.num ⟨#[]⟩):=by unfold Pz.leafT;rw [if_neg (by omega),if_pos h]
theorem leafT_clock {t:Tk.T3} (h:t.kind=4):Pz.leafT t=some (Pz.lf 3 t.num ⟨#[]⟩):=by unfold Pz.leafT;rw [if_neg (by omega),if_neg (by omega),if_pos h]
theorem leafT_name {t:Tk.T3} (h:t.kind=1):Pz.leafT t=if attrS t.text=true then some (Pz.lf 6 0 t.text) else none:=by unfold Pz.leafT;rw [if_neg (by omega),if_neg (by omega),if_neg (by omega),if_pos h]
theorem leafT_sign {t:Tk.T3} (h:t.kind=5):Pz.leafT t=none:=by unfold Pz.leafT;rw [if_neg (by omega),if_neg (by omega),if_neg (by omega),if_neg (by omega)]
theorem vt_kind {t:Tk.T3} (h:VT t):(t.kind=1∧t.text.size≤33∧t.num=0)∨(t.kind=2∧t.text=⟨#[]⟩∧0≤t.num∧t.num≤1099511627776)∨(t.kind=3∧t.text=⟨#[]⟩∧0≤t.num∧t.num≤1099511627776)∨(t.kind=4∧t.text=⟨#[]⟩∧0≤t.num∧t.num≤1439)∨(t.kind=5∧t.num=0):=by
 rcases h with ⟨h1,h2,h3,h4⟩|⟨h1,h2⟩|h|⟨h1,h2,h3,h4⟩
 · refine .inl ⟨h1,?_,h4⟩
   unfold Tk.word at h3
   split at h3
   · split at h3
     · cases h3
     · rename_i q;omega
   · split at h3
     · split at h3
       · have:=congrArg (fun o=>o.map (fun t:Tk.T3=>t.kind)) h3;simp at this
       · cases h3
     · split at h3
       · split at h3
         · have:=congrArg (fun o=>o.map (fun t:Tk.T3=>t.kind)) h3;simp at this
         · cases h3
       · split at h3
         · have:=congrArg (fun o=>o.map (fun t:Tk.T3=>t.kind)) h3;simp at this
         · cases h3
 · rcases h1 with h1|h1
   · exact .inr (.inl ⟨h1,h2⟩)
   · exact .inr (.inr (.inl ⟨h1,h2⟩))
 · exact .inr (.inr (.inr (.inl h)))
 · exact .inr (.inr (.inr (.inr ⟨h1,h4⟩)))
set_option maxHeartbeats 600000 in
set_option maxRecDepth 100000 in
theorem leaf_of (L:List Tk.T4) (i:Nat) (hV:∀ t ∈ L,VT t.t) (sb:Nat) (p:Option Addr) (cap:Nat) (w:World) (h:PSt w sb L p cap i) :
 Calls Tryz.prog 209 #[.pointer (some ⟨sb,0,none⟩)] w (PFin w sb [] L p cap (Pz.leaf L i)):=by
 have H:=Lib.hid h
 have hle:=h.le
 have hL4:=h.ls.1
 have E0:Hid (Pz.Env w w sb (fun W=>PSt W sb L p cap i) [] [] []):=Pz.Env.init h (pst_cl _ _ _ _ _) h.lt (by intro c hc;cases hc)
 clear h
 by_cases hi:i < L.length
 · have hi':¬ (L.length:Int)≤(i:Int):=by omega
   have hi2:(i:Int) < (L.length:Int):=by omega
   have hi3:(0:Int)≤(i:Int):=by omega
   obtain ⟨t,ht⟩:∃ t,L[i]?=some t:=⟨_,List.getElem?_eq_getElem hi⟩
   have LT:=Lib.hid (leaf_tok ht)
   have VK:=Lib.hid (vt_kind (hV t (List.mem_of_getElem? ht)))
   have HT:=Lib.hid ht
   clear ht hV
   go_enter Tryz.func209,Tryz.ntmps209
   go_wp2_with fail
   have E1:=Lib.hid (E0.out.box Pz.z0 #[.int .i64 0,.int .i64 0,.string ⟨#[]⟩,.slice none 0 0] rfl 24)
   generalize w.alloc (.cells #[.int .i64 0,.int .i64 0,.string ⟨#[]⟩,.slice none 0 0] 24)=w1 at *
   clear E0
   have c0:=E1.out.st.c0
   have c1:=E1.out.st.c1
   have hlt:=E1.out.st.lt
   go_quiet (fail)
   go_wp2_with fail
   have B2:Hid (Below w1.heap.size w1 (w1.drewN nq)):=below_drewN (Below.refl _ _) _
   have E2:=Lib.hid (E1.out.below B2.out)
   generalize w1.drewN nq=w2 at *
   clear E1 c0 c1 hlt B2
   have c0:=E2.out.st.c0
   have c1:=E2.out.st.c1
   obtain ⟨g,O,hp,hg,d0,d1,d2,d3⟩:=E2.out.st.ls.get HT.out
   obtain rfl:=hp
   have n0:=World.new_ne w2 ⟨sb,0,none⟩ c0
   have n1:=World.new_ne w2 ⟨sb,1,none⟩ c1
   have m0:=World.new_ne w2 ⟨g,O+i * 4,none⟩ d0
   go_region_held3 (fun w'=>w'.cell? ⟨sb,0,none⟩=some (.slice (some ⟨g,O,none⟩) L.length cap)∧w'.cell? ⟨sb,1,none⟩=some (.int .i64 i)∧w'.cell? ⟨g,O+i * 4,none⟩=some (.int .i64 t.t.kind)∧w'.cell? ⟨g,O+i * 4+1,none⟩=some (.string t.t.text)∧w'.cell? ⟨g,O+i * 4+2,none⟩=some (.int .i64 t.t.num)∧w'.cell? ⟨g,O+i * 4+3,none⟩=some (.int .i64 t.at')) (go_keep) (fail)
   clear c0 c1 d0 d1 d2 d3 n0 n1 m0
   have B3:Hid (Below w2.heap.size w2 ((w2.alloc (.cells #[.int .i64 t.t.kind,.string t.t.text,.int .i64 t.t.num,.int .i64 t.at'] 68)).drew)):=((Below.refl _ _).alloc (Nat.le_refl _) _).drew
   have E3:=Lib.hid (E2.out.below B3.out)
   have t0:((w2.alloc (.cells #[.int .i64 t.t.kind,.string t.t.text,.int .i64 t.t.num,.int .i64 t.at'] 68)).drew).cell? ⟨w2.heap.size,0,none⟩=some (.int .i64 t.t.kind):=by simp [go_sem]
   have t1:((w2.alloc (.cells #[.int .i64 t.t.kind,.string t.t.text,.int .i64 t.t.num,.int .i64 t.at'] 68)).drew).cell? ⟨w2.heap.size,1,none⟩=some (.string t.t.text):=by simp [go_sem]
   have t2:((w2.alloc (.cells #[.int .i64 t.t.kind,.string t.t.text,.int .i64 t.t.num,.int .i64 t.at'] 68)).drew).cell? ⟨w2.heap.size,2,none⟩=some (.int .i64 t.t.num):=by simp [go_sem]
   have tl:w2.heap.size < ((w2.alloc (.cells #[.int .i64 t.t.kind,.string t.t.text,.int .i64 t.t.num,.int .i64 t.at'] 68)).drew).heap.size:=by simp
   generalize htb:w2.heap.size=tb at *
   generalize (w2.alloc (.cells #[.int .i64 t.t.kind,.string t.t.text,.int .i64 t.t.num,.int .i64 t.at'] 68)).drew=w3 at *
   clear E2 B3 htb
   rcases VK.out with ⟨hk,h1,-⟩|⟨hk,h1,h2,h3⟩|⟨hk,h1,h2,h3⟩|⟨hk,h1,h2,h3⟩|⟨hk,-⟩
   ·
    have k1:(t.t.kind==1)=true:=by simp [hk]
    have k2:(t.t.kind==2)=false:=by simp [hk]
    have k3:(t.t.kind==3)=false:=by simp [hk]
    have k4:(t.t.kind==4)=false:=by simp [hk]
    rw [leafT_name hk] at LT
    have hs:t.t.text.size≤9223372036854775807:=by omega
    clear hk h1
    go_wp2_with fail
    have TB:Hid (∀ W,Below w3.heap.size w3 W→W.cell? ⟨tb,1,none⟩=some (.string t.t.text)):=fun W hb=>by rw [hb.cell (p:=⟨tb,1,none⟩) tl];exact t1
    have BB:Hid (Below w3.heap.size w3 (w3.alloc (.cells #[.int .i64 0,.int .i64 0,.string ⟨#[]⟩,.slice none 0 0] 24))):=(Below.refl _ _).alloc (Nat.le_refl _) _
    have E4:=Lib.hid (E3.out.box Pz.z0 #[.int .i64 0,.int .i64 0,.string ⟨#[]⟩,.slice none 0 0] rfl 24)
    generalize hg6:w3.heap.size=g6 at *
    generalize w3.alloc (.cells #[.int .i64 0,.int .i64 0,.string ⟨#[]⟩,.slice none 0 0] 24)=w5 at *
    clear E3 hg6
    refine (isattr_any t.t.text w5 hs).mono ?_
    rintro e w7 ⟨rfl,hb⟩
    have E8:=Lib.hid (E4.out.below hb)
    have tt:=TB.out _ (BB.out.trans (hb.mono (Nat.le_of_lt (E4.out.bx (g6,Pz.z0) (by simp)).1.lt)))
    clear hb E4 BB TB t0 t1 t2 tl
    by_cases ha:attrS t.t.text=true
    ·
     rw [if_pos ha] at LT
     rw [ha]
     dsimp only at LT
     obtain ⟨b0c0,b0c1,b0c2,b0c3,b0f0,b0f1,b0f2,b0f3,b0lt⟩:=(E8.out.bx (g6,Pz.z0) (by simp)).1
     dsimp only [Pz.z0,len] at b0c0 b0c1 b0c2 b0c3 b0f0 b0f1 b0f2 b0f3 b0lt
     obtain ⟨b1c0,b1c1,b1c2,b1c3,b1f0,b1f1,b1f2,b1f3,b1lt⟩:=(E8.out.bx (w.heap.size,Pz.z0) (by simp)).1
     dsimp only [Pz.z0,len] at b1c0 b1c1 b1c2 b1c3 b1f0 b1f1 b1f2 b1f3 b1lt
     go_upto_region 17 with (fail)
     have E9:=Lib.hid (E8.out.put4 (Pz.lf 6 0 t.t.text) (v0:=.int .i64 6) (v1:=.int .i64 0) (v2:=.string t.t.text) (v3:=.slice none 0 0) rfl rfl rfl rfl)
     clear b0c0 b0c1 b0c2 b0c3 b0f0 b0f1 b0f2 b0f3 b0lt b1c0 b1c1 b1c2 b1c3 b1f0 b1f1 b1f2 b1f3 b1lt
     clear tt
     generalize ((((w7.setCell ⟨g6,0,none⟩ (.int .i64 6)).setCell ⟨g6,1,none⟩ (.int .i64 0)).setCell ⟨g6,2,none⟩ (.string t.t.text)).setCell ⟨g6,3,none⟩ (.slice none 0 0))=w9 at *
     clear E8
     have E10:=E9
     clear E9
     obtain ⟨b0c0,b0c1,b0c2,b0c3,b0f0,b0f1,b0f2,b0f3,b0lt⟩:=(E10.out.bx (g6,(Pz.lf 6 0 t.t.text)) (by simp)).1
     dsimp only [Pz.lf,len] at b0c0 b0c1 b0c2 b0c3 b0f0 b0f1 b0f2 b0f3 b0lt
     obtain ⟨b1c0,b1c1,b1c2,b1c3,b1f0,b1f1,b1f2,b1f3,b1lt⟩:=(E10.out.bx (w.heap.size,Pz.z0) (by simp)).1
     dsimp only [Pz.z0,len] at b1c0 b1c1 b1c2 b1c3 b1f0 b1f1 b1f2 b1f3 b1lt
     have c1:=E10.out.st.c1
     have f1:=E10.out.st.f1
     have slt:=E10.out.st.lt
     have nx:sb≠g6:=by have:=(E10.out.bx (g6,(Pz.lf 6 0 t.t.text)) (by simp)).2;have:=E10.out.lt;dsimp only at *;omega
     have nr:sb≠w.heap.size:=by have:=E10.out.lt;omega
     have hx0:w.heap.size≠g6:=fun q=>(List.pairwise_cons.1 E10.out.nd).1 (w.heap.size,Pz.z0) (by simp) q.symm
     have E9:=Lib.hid ((E10.out.grown (E10.out.st.step hi).1 (pst_cl _ _ _ _ _) (E10.out.st.step hi).2).leaf 6 0 t.t.text)
     go_wp2
     refine bodyPost_ret (v:=.tuple #[.agg #[.int .i64 6,.int .i64 0,.string t.t.text,.slice none 0 0],.bool true]) ?_ rfl ?_
     · rw [results_cell_tmp rfl]
       go_simp
     · rw [LT.out]
       exact ⟨(Pz.lf 6 0 t.t.text),rfl,(E9.out.tail).done4 (Pz.lf 6 0 t.t.text) (some (Pz.lf 6 0 t.t.text)) (fun x hx=>by cases hx;exact ⟨rfl,by simp⟩) rfl rfl rfl rfl⟩
    ·
     have ha':attrS t.t.text=false:=by simpa using ha
     rw [if_neg ha] at LT
     rw [ha']
     dsimp only at LT
     clear ha ha'
     obtain ⟨b0c0,b0c1,b0c2,b0c3,b0f0,b0f1,b0f2,b0f3,b0lt⟩:=(E8.out.bx (g6,Pz.z0) (by simp)).1
     dsimp only [Pz.z0,len] at b0c0 b0c1 b0c2 b0c3 b0f0 b0f1 b0f2 b0f3 b0lt
     obtain ⟨b1c0,b1c1,b1c2,b1c3,b1f0,b1f1,b1f2,b1f3,b1lt⟩:=(E8.out.bx (w.heap.size,Pz.z0) (by simp)).1
     dsimp only [Pz.z0,len] at b1c0 b1c1 b1c2 b1c3 b1f0 b1f1 b1f2 b1f3 b1lt
     go_wp2
     refine bodyPost_ret (v:=.tuple #[.agg #[.int .i64 0,.int .i64 0,.string ⟨#[]⟩,.slice none 0 0],.bool false]) ?_ rfl ?_
     · rw [results_cell_tmp rfl]
       go_simp
     · rw [LT.out]
       exact ⟨Pz.z0,rfl,(E8.out.tail).done4 Pz.z0 none (fun x hx=>by cases hx) rfl rfl rfl rfl⟩
   ·
    have k1:(t.t.kind==1)=false:=by simp [hk]
    have k2:(t.t.kind==2)=true:=by simp [hk]
    have k3:(t.t.kind==3)=false:=by simp [hk]
    have k4:(t.t.kind==4)=false:=by simp [hk]
    rw [leafT_num hk] at LT
    dsimp only at LT
    clear hk h1 h2 h3
    go_upto_region 17 with (fail)
    have E4:=Lib.hid (E3.out.box (Pz.lf 1 t.t.num ⟨#[]⟩) #[.int .i64 1,.int .i64 t.t.num,.string ⟨#[]⟩,.slice none 0 0] rfl 24)
    generalize hg4:w3.heap.size=g4 at *
    generalize w3.alloc (.cells #[.int .i64 1,.int .i64 t.t.num,.string ⟨#[]⟩,.slice none 0 0] 24)=w4 at *
    clear E3 hg4 t0 t1 t2 tl
    obtain ⟨b0c0,b0c1,b0c2,b0c3,b0f0,b0f1,b0f2,b0f3,b0lt⟩:=(E4.out.bx (g4,(Pz.lf 1 t.t.num ⟨#[]⟩)) (by simp)).1
    dsimp only [Pz.lf,len] at b0c0 b0c1 b0c2 b0c3 b0f0 b0f1 b0f2 b0f3 b0lt
    obtain ⟨b1c0,b1c1,b1c2,b1c3,b1f0,b1f1,b1f2,b1f3,b1lt⟩:=(E4.out.bx (w.heap.size,Pz.z0) (by simp)).1
    dsimp only [Pz.z0,len] at b1c0 b1c1 b1c2 b1c3 b1f0 b1f1 b1f2 b1f3 b1lt
    have c1:=E4.out.st.c1
    have f1:=E4.out.st.f1
    have slt:=E4.out.st.lt
    have nx:sb≠g4:=by have:=(E4.out.bx (g4,(Pz.lf 1 t.t.num ⟨#[]⟩)) (by simp)).2;have:=E4.out.lt;dsimp only at *;omega
    have nr:sb≠w.heap.size:=by have:=E4.out.lt;omega
    have hx0:w.heap.size≠g4:=fun q=>(List.pairwise_cons.1 E4.out.nd).1 (w.heap.size,Pz.z0) (by simp) q.symm
    have E9:=Lib.hid ((E4.out.grown (E4.out.st.step hi).1 (pst_cl _ _ _ _ _) (E4.out.st.step hi).2).leaf 1 t.t.num ⟨#[]⟩)
    go_wp2
    refine bodyPost_ret (v:=.tuple #[.agg #[.int .i64 1,.int .i64 t.t.num,.string ⟨#[]⟩,.slice none 0 0],.bool true]) ?_ rfl ?_
    · rw [results_cell_tmp rfl]
      go_simp
    · rw [LT.out]
      exact ⟨(Pz.lf 1 t.t.num ⟨#[]⟩),rfl,(E9.out.tail).done4 (Pz.lf 1 t.t.num ⟨#[]⟩) (some (Pz.lf 1 t.t.num ⟨#[]⟩)) (fun x hx=>by cases hx;exact ⟨rfl,by simp⟩) rfl rfl rfl rfl⟩
   ·
    have k1:(t.t.kind==1)=false:=by simp [hk]
    have k2:(t.t.kind==2)=false:=by simp [hk]
    have k3:(t.t.kind==3)=true:=by simp [hk]
    have k4:(t.t.kind==4)=false:=by simp [hk]
    rw [leafT_time hk] at LT
    dsimp only at LT
    clear hk h1 h2 h3
    go_upto_region 17 with (fail)
    have E4:=Lib.hid (E3.out.box (Pz.lf 2 t.t.num ⟨#[]⟩) #[.int .i64 2,.int .i64 t.t.num,.string ⟨#[]⟩,.slice none 0 0] rfl 24)
    generalize hg4:w3.heap.size=g4 at *
    generalize w3.alloc (.cells #[.int .i64 2,.int .i64 t.t.num,.string ⟨#[]⟩,.slice none 0 0] 24)=w4 at *
    clear E3 hg4 t0 t1 t2 tl
    obtain ⟨b0c0,b0c1,b0c2,b0c3,b0f0,b0f1,b0f2,b0f3,b0lt⟩:=(E4.out.bx (g4,(Pz.lf 2 t.t.num ⟨#[]⟩)) (by simp)).1
    dsimp only [Pz.lf,len] at b0c0 b0c1 b0c2 b0c3 b0f0 b0f1 b0f2 b0f3 b0lt
    obtain ⟨b1c0,b1c1,b1c2,b1c3,b1f0,b1f1,b1f2,b1f3,b1lt⟩:=(E4.out.bx (w.heap.size,Pz.z0) (by simp)).1
    dsimp only [Pz.z0,len] at b1c0 b1c1 b1c2 b1c3 b1f0 b1f1 b1f2 b1f3 b1lt
    have c1:=E4.out.st.c1
    have f1:=E4.out.st.f1
    have slt:=E4.out.st.lt
    have nx:sb≠g4:=by have:=(E4.out.bx (g4,(Pz.lf 2 t.t.num ⟨#[]⟩)) (by simp)).2;have:=E4.out.lt;dsimp only at *;omega
    have nr:sb≠w.heap.size:=by have:=E4.out.lt;omega
    have hx0:w.heap.size≠g4:=fun q=>(List.pairwise_cons.1 E4.out.nd).1 (w.heap.size,Pz.z0) (by simp) q.symm
    have E9:=Lib.hid ((E4.out.grown (E4.out.st.step hi).1 (pst_cl _ _ _ _ _) (E4.out.st.step hi).2).leaf 2 t.t.num ⟨#[]⟩)
    go_wp2
    refine bodyPost_ret (v:=.tuple #[.agg #[.int .i64 2,.int .i64 t.t.num,.string ⟨#[]⟩,.slice none 0 0],.bool true]) ?_ rfl ?_
    · rw [results_cell_tmp rfl]
      go_simp
    · rw [LT.out]
      exact ⟨(Pz.lf 2 t.t.num ⟨#[]⟩),rfl,(E9.out.tail).done4 (Pz.lf 2 t.t.num ⟨#[]⟩) (some (Pz.lf 2 t.t.num ⟨#[]⟩)) (fun x hx=>by cases hx;exact ⟨rfl,by simp⟩) rfl rfl rfl rfl⟩
   ·
    have k1:(t.t.kind==1)=false:=by simp [hk]
    have k2:(t.t.kind==2)=false:=by simp [hk]
    have k3:(t.t.kind==3)=false:=by simp [hk]
    have k4:(t.t.kind==4)=true:=by simp [hk]
    rw [leafT_clock hk] at LT
    dsimp only at LT
    clear hk h1 h2 h3
    go_upto_region 17 with (fail)
    have E4:=Lib.hid (E3.out.box (Pz.lf 3 t.t.num ⟨#[]⟩) #[.int .i64 3,.int .i64 t.t.num,.string ⟨#[]⟩,.slice none 0 0] rfl 24)
    generalize hg4:w3.heap.size=g4 at *
    generalize w3.alloc (.cells #[.int .i64 3,.int .i64 t.t.num,.string ⟨#[]⟩,.slice none 0 0] 24)=w4 at *
    clear E3 hg4 t0 t1 t2 tl
    obtain ⟨b0c0,b0c1,b0c2,b0c3,b0f0,b0f1,b0f2,b0f3,b0lt⟩:=(E4.out.bx (g4,(Pz.lf 3 t.t.num ⟨#[]⟩)) (by simp)).1
    dsimp only [Pz.lf,len] at b0c0 b0c1 b0c2 b0c3 b0f0 b0f1 b0f2 b0f3 b0lt
    obtain ⟨b1c0,b1c1,b1c2,b1c3,b1f0,b1f1,b1f2,b1f3,b1lt⟩:=(E4.out.bx (w.heap.size,Pz.z0) (by simp)).1
    dsimp only [Pz.z0,len] at b1c0 b1c1 b1c2 b1c3 b1f0 b1f1 b1f2 b1f3 b1lt
    have c1:=E4.out.st.c1
    have f1:=E4.out.st.f1
    have slt:=E4.out.st.lt
    have nx:sb≠g4:=by have:=(E4.out.bx (g4,(Pz.lf 3 t.t.num ⟨#[]⟩)) (by simp)).2;have:=E4.out.lt;dsimp only at *;omega
    have nr:sb≠w.heap.size:=by have:=E4.out.lt;omega
    have hx0:w.heap.size≠g4:=fun q=>(List.pairwise_cons.1 E4.out.nd).1 (w.heap.size,Pz.z0) (by simp) q.symm
    have E9:=Lib.hid ((E4.out.grown (E4.out.st.step hi).1 (pst_cl _ _ _ _ _) (E4.out.st.step hi).2).leaf 3 t.t.num ⟨#[]⟩)
    go_wp2
    refine bodyPost_ret (v:=.tuple #[.agg #[.int .i64 3,.int .i64 t.t.num,.string ⟨#[]⟩,.slice none 0 0],.bool true]) ?_ rfl ?_
    · rw [results_cell_tmp rfl]
      go_simp
    · rw [LT.out]
      exact ⟨(Pz.lf 3 t.t.num ⟨#[]⟩),rfl,(E9.out.tail).done4 (Pz.lf 3 t.t.num ⟨#[]⟩) (some (Pz.lf 3 t.t.num ⟨#[]⟩)) (fun x hx=>by cases hx;exact ⟨rfl,by simp⟩) rfl rfl rfl rfl⟩
   ·
    have k1:(t.t.kind==1)=false:=by simp [hk]
    have k2:(t.t.kind==2)=false:=by simp [hk]
    have k3:(t.t.kind==3)=false:=by simp [hk]
    have k4:(t.t.kind==4)=false:=by simp [hk]
    rw [leafT_sign hk] at LT
    dsimp only at LT
    clear hk
    go_upto_region 6 with (fail)
    have E4:=Lib.hid (E3.out.box Pz.z0 #[.int .i64 0,.int .i64 0,.string ⟨#[]⟩,.slice none 0 0] rfl 24)
    generalize hg6:w3.heap.size=g6 at *
    generalize w3.alloc (.cells #[.int .i64 0,.int .i64 0,.string ⟨#[]⟩,.slice none 0 0] 24)=w5 at *
    clear E3 hg6
    obtain ⟨b0c0,b0c1,b0c2,b0c3,b0f0,b0f1,b0f2,b0f3,b0lt⟩:=(E4.out.bx (g6,Pz.z0) (by simp)).1
    dsimp only [Pz.z0,len] at b0c0 b0c1 b0c2 b0c3 b0f0 b0f1 b0f2 b0f3 b0lt
    obtain ⟨b1c0,b1c1,b1c2,b1c3,b1f0,b1f1,b1f2,b1f3,b1lt⟩:=(E4.out.bx (w.heap.size,Pz.z0) (by simp)).1
    dsimp only [Pz.z0,len] at b1c0 b1c1 b1c2 b1c3 b1f0 b1f1 b1f2 b1f3 b1lt
    go_wp2
    refine bodyPost_ret (v:=.tuple #[.agg #[.int .i64 0,.int .i64 0,.string ⟨#[]⟩,.slice none 0 0],.bool false]) ?_ rfl ?_
    · rw [results_cell_tmp rfl]
      go_simp
    · rw [LT.out]
      exact ⟨Pz.z0,rfl,(E4.out.tail).done4 Pz.z0 none (fun x hx=>by cases hx) rfl rfl rfl rfl⟩
 · have hi':(L.length:Int)≤(i:Int):=by omega
   go_enter Tryz.func209,Tryz.ntmps209
   go_wp2_with fail
   have E1:=Lib.hid (E0.out.box Pz.z0 #[.int .i64 0,.int .i64 0,.string ⟨#[]⟩,.slice none 0 0] rfl 24)
   generalize w.alloc (.cells #[.int .i64 0,.int .i64 0,.string ⟨#[]⟩,.slice none 0 0] 24)=w1 at *
   clear E0
   have c0:=E1.out.st.c0
   have c1:=E1.out.st.c1
   have hlt:=E1.out.st.lt
   go_quiet (fail)
   have B2:Hid (Below w1.heap.size w1 (w1.drewN nq)):=below_drewN (Below.refl _ _) _
   have E2:=Lib.hid (E1.out.below B2.out)
   generalize w1.drewN nq=w2 at *
   clear E1 c0 c1 hlt B2
   obtain ⟨b0c0,b0c1,b0c2,b0c3,b0f0,b0f1,b0f2,b0f3,b0lt⟩:=(E2.out.bx (w.heap.size,Pz.z0) (by simp)).1
   dsimp only [Pz.z0,len] at b0c0 b0c1 b0c2 b0c3 b0f0 b0f1 b0f2 b0f3 b0lt
   go_wp2
   refine bodyPost_ret (v:=.tuple #[.agg #[.int .i64 0,.int .i64 0,.string ⟨#[]⟩,.slice none 0 0],.bool false]) ?_ rfl ?_
   · rw [results_cell_tmp rfl]
     go_simp
   · rw [leaf_none (by omega)]
     exact ⟨Pz.z0,rfl,E2.out.done4 Pz.z0 none (fun x hx=>by cases hx) rfl rfl rfl rfl⟩
end Go.Proofs.YtcejjdmnlejbaaaGreatDoor
