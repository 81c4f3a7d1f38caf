import Derived.Test.YtcejjdmnlejbaaaGreatDoorVPzQ
namespace Go.Proofs.YtcejjdmnlejbaaaGreatDoor
open Option.some(inj)
open Lib(hid)
set_option linter.unusedVariables false
set_option linter.unusedSimpArgs false
open Go.ChangeShapes Go.WideShapes Go.ChangeAt Go.RowKit
open Go.Deep (BT)
set_option maxHeartbeats 600000
set_option maxRecDepth 100000
def VT(t:Tk.T3):Prop :=
 (t.kind=1∧(∀b∈ t.text.data.toList,Tk.inW b=true)∧Tk.word t.text=some ⟨1,t.text,0⟩∧t.num=0)∨
 ((t.kind=2∨t.kind=3)∧t.text=⟨#[]⟩∧0≤t.num∧t.num≤1099511627776)∨
 (t.kind=4∧t.text=⟨#[]⟩∧0≤t.num∧t.num≤1439)∨
 (t.kind=5∧0 < t.text.size∧Tk.sgn t.text.data.toList=t.text.size∧t.num=0)
theorem YS{l:List UInt8}(h:∀b∈ l,Tk.inW b=true):Txt.duNeg l=false:=by
 cases hq:Txt.duNeg l with
 | false=>rfl
 | true =>
   obtain⟨t,rfl⟩:=(Txt.dash_iff l).1 hq;have:=h 45 (List.mem_cons_self ..)
   revert this;decide
theorem Qj{s:ByteArray}{t:Tk.T3}(hw:∀b∈ s.data.toList,Tk.inW b=true)(h:Tk.word s=some t):VT t:=by
 have h':=h;unfold Tk.word at h
 split at h
 ·split at h
  ·cases h
  ·obtain rfl:=inj h;exact .inl ⟨rfl,hw,h',rfl⟩
 ·split at h
  ·split at h
   ·rename_i hpe
    obtain rfl:=inj h;refine .inr (.inr (.inl ⟨rfl,rfl,?_⟩));dsimp only;unfold Qy at hpe;unfold Qx
    split at hpe
    ·rename_i hf
     split at hpe
     ·rename_i hb
      rw[if_pos hf,if_pos hb];obtain⟨hl,-,h1,h2⟩:=(Yh _).1 hf;rw[qG] at hl h2;rw[← ext_list] at h1 h2;have m1:=jl ((s.extract 1 s.size).extract 0 2) 2 (by rw[ByteArray.size_extract];omega) h1;have m2:=jl ((s.extract 1 s.size).extract 3 (s.extract 1 s.size).size) 2 (by rw[ByteArray.size_extract];omega) h2;unfold vq at hb;rw[decide_eq_true_eq] at hb;unfold Ju Jt at hb ⊢;omega
     ·cases hpe
    ·cases hpe
   ·cases h
  ·split at h
   ·split at h
    ·rename_i hdu
     obtain rfl:=inj h;refine .inr (.inl ⟨.inr rfl,rfl,?_⟩);dsimp only;have hn:=YS hw;unfold Txt.duV;rw[if_pos hdu,hn,if_neg (by simp)];unfold Txt.duE at hdu
     split at hdu
     ·rename_i hb
      split at hdu
      ·rename_i hq
       refine⟨?_,hq.2⟩;unfold Txt.duB at hb;rw[decide_eq_true_eq] at hb;have b1:=(Txt.num_bd _ hb.2.2.2.1).1;have b2:=(Txt.num_bd _ hb.2.2.2.2.1).1;unfold Txt.duN;omega
      ·cases hdu
     ·cases hdu
    ·cases h
   ·split at h
    ·rename_i hno
     obtain rfl:=inj h;unfold Tk.numOk at hno;rw[decide_eq_true_eq] at hno;exact .inr (.inl ⟨.inl rfl,rfl,(Txt.num_bd _ hno.2.2.1).1,hno.2.2.2.2⟩)
    ·cases h
theorem Ji(l:List UInt8)(h:Tk.sgn l≠0):Tk.sgn (l.take (Tk.sgn l))=Tk.sgn l:=by
 unfold Tk.sgn at h ⊢
 by_cases h2:(l.getD 0 0).toNat=60∧(l.getD 1 0).toNat=61
 ·rw [if_pos h2]
  match l,h2 with
  | [],h2=>simp at h2
  | [a],h2=>simp at h2
  | a :: b :: l,h2=>exact if_pos h2
 ·rw [if_neg h2] at h ⊢
  by_cases h1:1≤l.length∧Tk.inS (l.getD 0 0)=true
  ·rw [if_pos h1]
   match l,h1 with
   | [],h1=>simp at h1
   | a :: l,h1=>simpa using h1.2
  ·rw[if_neg h1] at h;exact absurd rfl h
theorem Yq{s:ByteArray}{i m:Nat}{t:Tk.T3}(hi:i < s.size)(h:Tk.tokAt s i=(some t,m)):VT t:=by
 unfold Tk.tokAt at h
 by_cases hw:Tk.inW (s.data.toList.getD i 0)=true
 ·rw [if_pos hw] at h;exact Qj (Tk.word_bytes s i) (Prod.mk.inj h).1
 ·rw [if_neg hw] at h;obtain⟨h1,h2⟩:=Prod.mk.inj h
  by_cases hg:Tk.sgn (s.data.toList.drop i)=0
  ·rw[if_pos hg] at h1;cases h1
  ·rw [if_neg hg] at h1;obtain rfl:=inj h1;have hle:=Tk.sgn_le (s.data.toList.drop i);rw[List.length_drop,qG] at hle;have hz:(s.extract i (i+Tk.sgn (s.data.toList.drop i))).size=Tk.sgn (s.data.toList.drop i):=(by rw[ByteArray.size_extract];omega);refine .inr (.inr (.inr ⟨rfl,by dsimp only;omega,?_,rfl⟩));dsimp only;rw[hz,ext_list,List.drop_take,show i+Tk.sgn (s.data.toList.drop i) - i=Tk.sgn (s.data.toList.drop i) by omega];exact Ji _ hg
theorem Qn(s:ByteArray):∀(n i:Nat)(D:List Tk.T4),(∀t∈ D,VT t.t)→∀t∈ (Tk.scan s n i D).1,VT t.t:=by
 intro n
 induction n with
 | zero=>intro i D h;exact h
 | succ n ih =>
   intro i D h;rw[Tk.scan]
   by_cases h1:s.size≤i
   ·rw[if_pos h1];exact h
   ·rw [if_neg h1]
    split
    ·exact h
    ·split
     ·exact ih _ _ h
     ·split
      ·intro t ht;cases ht
      ·rename_i t m hq
       split
       ·intro t ht;cases ht
       ·refine ih _ _ ?_;intro u hu;rcases List.mem_append.1 hu with hu|hu
        ·exact h u hu
        ·rw[List.mem_singleton.1 hu];exact Yq (by omega) hq
theorem jR(s:ByteArray):∀t∈ (Tk.scanT s).1,VT t.t:=Qn s _ _ _ (fun t ht=>by cases ht)
theorem uA{L:List Tk.T4}{i:Nat}(h:L.length≤i):Pz.leaf L i=(none,i):=by unfold Pz.leaf;rw[List.getElem?_eq_none h]
theorem vZ{L:List Tk.T4}{i:Nat}{t:Tk.T4}(h:L[i]?=some t):Pz.leaf L i=(match Pz.leafT t.t with|some x=>(some x,i+1)|none=>(none,i)):=by
 unfold Pz.leaf;rw[h];dsimp only;cases Pz.leafT t.t<;>rfl
theorem uB{t:Tk.T3}(h:t.kind=2):Pz.leafT t=some (Pz.lf 1 t.num ⟨#[]⟩):=by unfold Pz.leafT;rw[if_pos h]
theorem xT{t:Tk.T3}(h:t.kind=3):Pz.leafT t=some (Pz.lf 2 t.num ⟨#[]⟩):=by unfold Pz.leafT;rw[if_neg (by omega),if_pos h]
theorem xg{t:Tk.T3}(h:t.kind=4):Pz.leafT t=some (Pz.lf 3 t.num ⟨#[]⟩):=by unfold Pz.leafT;rw[if_neg (by omega),if_neg (by omega),if_pos h]
theorem xV{t:Tk.T3}(h:t.kind=1):Pz.leafT t=if zY t.text=true then some (Pz.lf 6 0 t.text) else none:=by unfold Pz.leafT;rw[if_neg (by omega),if_neg (by omega),if_neg (by omega),if_pos h]
theorem xU{t:Tk.T3}(h:t.kind=5):Pz.leafT t=none:=by unfold Pz.leafT;rw[if_neg (by omega),if_neg (by omega),if_neg (by omega),if_neg (by omega)]
theorem uM{t:Tk.T3}(h:VT t):(t.kind=1∧t.text.size≤33∧t.num=0)∨(t.kind=2∧t.text=⟨#[]⟩∧0≤t.num∧t.num≤1099511627776)∨(t.kind=3∧t.text=⟨#[]⟩∧0≤t.num∧t.num≤1099511627776)∨(t.kind=4∧t.text=⟨#[]⟩∧0≤t.num∧t.num≤1439)∨(t.kind=5∧t.num=0):=by
 rcases h with ⟨h1,h2,h3,h4⟩|⟨h1,h2⟩|h|⟨h1,h2,h3,h4⟩
 ·refine .inl ⟨h1,?_,h4⟩;unfold Tk.word at h3
  split at h3
  ·split at h3
   ·cases h3
   ·rename_i q;omega
  ·split at h3
   ·split at h3
    ·have:=congrArg (fun o=>o.map (fun t:Tk.T3=>t.kind)) h3;simp at this
    ·cases h3
   ·split at h3
    ·split at h3
     ·have:=congrArg (fun o=>o.map (fun t:Tk.T3=>t.kind)) h3;simp at this
     ·cases h3
    ·split at h3
     ·have:=congrArg (fun o=>o.map (fun t:Tk.T3=>t.kind)) h3;simp at this
     ·cases h3
 ·rcases h1 with h1|h1
  ·exact .inr (.inl ⟨h1,h2⟩)
  ·exact .inr (.inr (.inl ⟨h1,h2⟩))
 ·exact .inr (.inr (.inr (.inl h)))
 ·exact .inr (.inr (.inr (.inr ⟨h1,h4⟩)))
theorem Kt(L:List Tk.T4)(i:Nat)(hV:∀t∈ L,VT t.t)(sb:Nat)(p:Option Addr)(cap:Nat)(w:World)(h:PSt w sb L p cap i) :
 Calls Tryz.prog 209 #[.pointer (some ⟨sb,0,none⟩)] w (JZ w sb [] L p cap (Pz.leaf L i)):=by
 have H:=hid h;have hle:=h.le;have hL4:=h.ls.1;have E0:Hid (Pz.Env w w sb (fun W=>PSt W sb L p cap i) [] [] []):=Pz.Env.init h (qF _ _ _ _ _) h.lt (by intro c hc;cases hc);clear h
 by_cases hi:i < L.length
 ·have hi':¬(L.length:Int)≤(i:Int):=by omega
  have hi2:(i:Int) < (L.length:Int):=(by omega);have hi3:(0:Int)≤(i:Int):=(by omega);obtain⟨t,ht⟩:∃t,L[i]?=some t:=⟨_,List.getElem?_eq_getElem hi⟩;have LT:=hid (vZ ht);have VK:=hid (uM (hV t (List.mem_of_getElem? ht)));have HT:=hid ht;clear ht hV;go_enter Tryz.func209,Tryz.ntmps209;go_wp2_with fail;have E1:=hid (E0.out.box Pz.z0 #[.int .i64 0,.int .i64 0,.string ⟨#[]⟩,.slice none 0 0] rfl 24);generalize w.alloc (.cells #[.int .i64 0,.int .i64 0,.string ⟨#[]⟩,.slice none 0 0] 24)=w1 at *;clear E0;have c0:=E1.out.st.c0;have c1:=E1.out.st.c1;have qN:=E1.out.st.lt
  go_quiet (fail)
  go_wp2_with fail;have B2:Hid (Below w1.heap.size w1 (w1.drewN nq)):=below_drewN (Below.refl _ _) _;have E2:=hid (E1.out.below B2.out);generalize w1.drewN nq=w2 at *;clear E1 c0 c1 qN B2;have c0:=E2.out.st.c0;have c1:=E2.out.st.c1;obtain⟨g,O,hp,hg,d0,d1,d2,d3⟩:=E2.out.st.ls.get HT.out;obtain rfl:=hp;have n0:=World.new_ne w2 ⟨sb,0,none⟩ c0;have n1:=World.new_ne w2 ⟨sb,1,none⟩ c1;have m0:=World.new_ne w2 ⟨g,O+i * 4,none⟩ d0
  go_region_held3 (fun w'=>w'.cell? ⟨sb,0,none⟩=some (.slice (some ⟨g,O,none⟩) L.length cap)∧w'.cell? ⟨sb,1,none⟩=some (.int .i64 i)∧w'.cell? ⟨g,O+i * 4,none⟩=some (.int .i64 t.t.kind)∧w'.cell? ⟨g,O+i * 4+1,none⟩=some (.string t.t.text)∧w'.cell? ⟨g,O+i * 4+2,none⟩=some (.int .i64 t.t.num)∧w'.cell? ⟨g,O+i * 4+3,none⟩=some (.int .i64 t.at')) (go_keep) (fail)
  clear c0 c1 d0 d1 d2 d3 n0 n1 m0;have B3:Hid (Below w2.heap.size w2 ((w2.alloc (.cells #[.int .i64 t.t.kind,.string t.t.text,.int .i64 t.t.num,.int .i64 t.at'] 68)).drew)):=((Below.refl _ _).alloc (Nat.le_refl _) _).drew;have E3:=hid (E2.out.below B3.out);have t0:((w2.alloc (.cells #[.int .i64 t.t.kind,.string t.t.text,.int .i64 t.t.num,.int .i64 t.at'] 68)).drew).cell? ⟨w2.heap.size,0,none⟩=some (.int .i64 t.t.kind):=(by simp[go_sem]);have t1:((w2.alloc (.cells #[.int .i64 t.t.kind,.string t.t.text,.int .i64 t.t.num,.int .i64 t.at'] 68)).drew).cell? ⟨w2.heap.size,1,none⟩=some (.string t.t.text):=(by simp[go_sem]);have t2:((w2.alloc (.cells #[.int .i64 t.t.kind,.string t.t.text,.int .i64 t.t.num,.int .i64 t.at'] 68)).drew).cell? ⟨w2.heap.size,2,none⟩=some (.int .i64 t.t.num):=(by simp[go_sem]);have tl:w2.heap.size < ((w2.alloc (.cells #[.int .i64 t.t.kind,.string t.t.text,.int .i64 t.t.num,.int .i64 t.at'] 68)).drew).heap.size:=(by simp);generalize htb:w2.heap.size=tb at *;generalize (w2.alloc (.cells #[.int .i64 t.t.kind,.string t.t.text,.int .i64 t.t.num,.int .i64 t.at'] 68)).drew=w3 at *;clear E2 B3 htb;rcases VK.out with ⟨hk,h1,-⟩|⟨hk,h1,h2,h3⟩|⟨hk,h1,h2,h3⟩|⟨hk,h1,h2,h3⟩|⟨hk,-⟩
  ·
   have k1:(t.t.kind==1)=true:=(by simp[hk]);have k2:(t.t.kind==2)=false:=(by simp[hk]);have k3:(t.t.kind==3)=false:=(by simp[hk]);have k4:(t.t.kind==4)=false:=(by simp[hk]);rw[xV hk] at LT;have hs:t.t.text.size≤9223372036854775807:=(by omega);clear hk h1;go_wp2_with fail;have TB:Hid (∀W,Below w3.heap.size w3 W→W.cell? ⟨tb,1,none⟩=some (.string t.t.text)):=fun W hb=>by rw[hb.cell (p:=⟨tb,1,none⟩) tl];exact t1
   have BB:Hid (Below w3.heap.size w3 (w3.alloc (.cells #[.int .i64 0,.int .i64 0,.string ⟨#[]⟩,.slice none 0 0] 24))):=(Below.refl _ _).alloc (Nat.le_refl _) _;have E4:=hid (E3.out.box Pz.z0 #[.int .i64 0,.int .i64 0,.string ⟨#[]⟩,.slice none 0 0] rfl 24);generalize hg6:w3.heap.size=g6 at *;generalize w3.alloc (.cells #[.int .i64 0,.int .i64 0,.string ⟨#[]⟩,.slice none 0 0] 24)=w5 at *;clear E3 hg6;refine(kf t.t.text w5 hs).mono ?_;rintro e w7 ⟨rfl,hb⟩;have E8:=hid (E4.out.below hb);have tt:=TB.out _ (BB.out.trans (hb.mono (Nat.le_of_lt (E4.out.bx (g6,Pz.z0) (by simp)).1.lt)));clear hb E4 BB TB t0 t1 t2 tl
   by_cases ha:zY t.t.text=true
   ·
    rw[if_pos ha] at LT;rw[ha];dsimp only at LT;obtain⟨qp,qo,qn,qg,qm,ql,qk,qj,qi⟩:=(E8.out.bx (g6,Pz.z0) (by simp)).1;dsimp only[Pz.z0,len] at qp qo qn qg qm ql qk qj qi;obtain⟨qA,qz,qy,qs,qx,qw,qv,qu,qt⟩:=(E8.out.bx (w.heap.size,Pz.z0) (by simp)).1;dsimp only[Pz.z0,len] at qA qz qy qs qx qw qv qu qt;go_upto_region 17 with (fail);have E9:=hid (E8.out.put4 (Pz.lf 6 0 t.t.text) (v0:=.int .i64 6) (v1:=.int .i64 0) (v2:=.string t.t.text) (v3:=.slice none 0 0) rfl rfl rfl rfl);clear qp qo qn qg qm ql qk qj qi qA qz qy qs qx qw qv qu qt;clear tt;generalize ((((w7.setCell ⟨g6,0,none⟩ (.int .i64 6)).setCell ⟨g6,1,none⟩ (.int .i64 0)).setCell ⟨g6,2,none⟩ (.string t.t.text)).setCell ⟨g6,3,none⟩ (.slice none 0 0))=w9 at *;clear E8;have E10:=E9;clear E9;obtain⟨qp,qo,qn,qg,qm,ql,qk,qj,qi⟩:=(E10.out.bx (g6,(Pz.lf 6 0 t.t.text)) (by simp)).1;dsimp only[Pz.lf,len] at qp qo qn qg qm ql qk qj qi;obtain⟨qA,qz,qy,qs,qx,qw,qv,qu,qt⟩:=(E10.out.bx (w.heap.size,Pz.z0) (by simp)).1;dsimp only[Pz.z0,len] at qA qz qy qs qx qw qv qu qt;have c1:=E10.out.st.c1;have f1:=E10.out.st.f1;have slt:=E10.out.st.lt;have nx:sb≠g6:=(by have:=(E10.out.bx (g6,(Pz.lf 6 0 t.t.text)) (by simp)).2;have:=E10.out.lt;dsimp only at *;omega);have nr:sb≠w.heap.size:=(by have:=E10.out.lt;omega);have hx0:w.heap.size≠g6:=fun q=>(List.pairwise_cons.1 E10.out.nd).1 (w.heap.size,Pz.z0) (by simp) q.symm;have E9:=hid ((E10.out.grown (E10.out.st.step hi).1 (qF _ _ _ _ _) (E10.out.st.step hi).2).leaf 6 0 t.t.text);go_wp2;refine bodyPost_ret (v:=.tuple #[.agg #[.int .i64 6,.int .i64 0,.string t.t.text,.slice none 0 0],.bool true]) ?_ rfl ?_
    ·rw [results_cell_tmp rfl];go_simp
    ·rw [LT.out];exact⟨(Pz.lf 6 0 t.t.text),rfl,(E9.out.tail).done4 (Pz.lf 6 0 t.t.text) (some (Pz.lf 6 0 t.t.text)) (fun x hx=>by cases hx;exact⟨rfl,by simp⟩) rfl rfl rfl rfl⟩
   ·
    have ha':zY t.t.text=false:=(by simpa using ha);rw[if_neg ha] at LT;rw[ha'];dsimp only at LT;clear ha ha';obtain⟨qp,qo,qn,qg,qm,ql,qk,qj,qi⟩:=(E8.out.bx (g6,Pz.z0) (by simp)).1;dsimp only[Pz.z0,len] at qp qo qn qg qm ql qk qj qi;obtain⟨qA,qz,qy,qs,qx,qw,qv,qu,qt⟩:=(E8.out.bx (w.heap.size,Pz.z0) (by simp)).1;dsimp only[Pz.z0,len] at qA qz qy qs qx qw qv qu qt;go_wp2;refine bodyPost_ret (v:=.tuple #[.agg #[.int .i64 0,.int .i64 0,.string ⟨#[]⟩,.slice none 0 0],.bool false]) ?_ rfl ?_
    ·rw [results_cell_tmp rfl];go_simp
    ·rw [LT.out];exact⟨Pz.z0,rfl,(E8.out.tail).done4 Pz.z0 none (fun x hx=>by cases hx) rfl rfl rfl rfl⟩
  ·
   have k1:(t.t.kind==1)=false:=(by simp[hk]);have k2:(t.t.kind==2)=true:=(by simp[hk]);have k3:(t.t.kind==3)=false:=(by simp[hk]);have k4:(t.t.kind==4)=false:=(by simp[hk]);rw[uB hk] at LT;dsimp only at LT;clear hk h1 h2 h3;go_upto_region 17 with (fail);have E4:=hid (E3.out.box (Pz.lf 1 t.t.num ⟨#[]⟩) #[.int .i64 1,.int .i64 t.t.num,.string ⟨#[]⟩,.slice none 0 0] rfl 24);generalize hg4:w3.heap.size=g4 at *;generalize w3.alloc (.cells #[.int .i64 1,.int .i64 t.t.num,.string ⟨#[]⟩,.slice none 0 0] 24)=w4 at *;clear E3 hg4 t0 t1 t2 tl;obtain⟨qp,qo,qn,qg,qm,ql,qk,qj,qi⟩:=(E4.out.bx (g4,(Pz.lf 1 t.t.num ⟨#[]⟩)) (by simp)).1;dsimp only[Pz.lf,len] at qp qo qn qg qm ql qk qj qi;obtain⟨qA,qz,qy,qs,qx,qw,qv,qu,qt⟩:=(E4.out.bx (w.heap.size,Pz.z0) (by simp)).1;dsimp only[Pz.z0,len] at qA qz qy qs qx qw qv qu qt;have c1:=E4.out.st.c1;have f1:=E4.out.st.f1;have slt:=E4.out.st.lt;have nx:sb≠g4:=(by have:=(E4.out.bx (g4,(Pz.lf 1 t.t.num ⟨#[]⟩)) (by simp)).2;have:=E4.out.lt;dsimp only at *;omega);have nr:sb≠w.heap.size:=(by have:=E4.out.lt;omega);have hx0:w.heap.size≠g4:=fun q=>(List.pairwise_cons.1 E4.out.nd).1 (w.heap.size,Pz.z0) (by simp) q.symm;have E9:=hid ((E4.out.grown (E4.out.st.step hi).1 (qF _ _ _ _ _) (E4.out.st.step hi).2).leaf 1 t.t.num ⟨#[]⟩);go_wp2;refine bodyPost_ret (v:=.tuple #[.agg #[.int .i64 1,.int .i64 t.t.num,.string ⟨#[]⟩,.slice none 0 0],.bool true]) ?_ rfl ?_
   ·rw [results_cell_tmp rfl];go_simp
   ·rw [LT.out];exact⟨(Pz.lf 1 t.t.num ⟨#[]⟩),rfl,(E9.out.tail).done4 (Pz.lf 1 t.t.num ⟨#[]⟩) (some (Pz.lf 1 t.t.num ⟨#[]⟩)) (fun x hx=>by cases hx;exact⟨rfl,by simp⟩) rfl rfl rfl rfl⟩
  ·
   have k1:(t.t.kind==1)=false:=(by simp[hk]);have k2:(t.t.kind==2)=false:=(by simp[hk]);have k3:(t.t.kind==3)=true:=(by simp[hk]);have k4:(t.t.kind==4)=false:=(by simp[hk]);rw[xT hk] at LT;dsimp only at LT;clear hk h1 h2 h3;go_upto_region 17 with (fail);have E4:=hid (E3.out.box (Pz.lf 2 t.t.num ⟨#[]⟩) #[.int .i64 2,.int .i64 t.t.num,.string ⟨#[]⟩,.slice none 0 0] rfl 24);generalize hg4:w3.heap.size=g4 at *;generalize w3.alloc (.cells #[.int .i64 2,.int .i64 t.t.num,.string ⟨#[]⟩,.slice none 0 0] 24)=w4 at *;clear E3 hg4 t0 t1 t2 tl;obtain⟨qp,qo,qn,qg,qm,ql,qk,qj,qi⟩:=(E4.out.bx (g4,(Pz.lf 2 t.t.num ⟨#[]⟩)) (by simp)).1;dsimp only[Pz.lf,len] at qp qo qn qg qm ql qk qj qi;obtain⟨qA,qz,qy,qs,qx,qw,qv,qu,qt⟩:=(E4.out.bx (w.heap.size,Pz.z0) (by simp)).1;dsimp only[Pz.z0,len] at qA qz qy qs qx qw qv qu qt;have c1:=E4.out.st.c1;have f1:=E4.out.st.f1;have slt:=E4.out.st.lt;have nx:sb≠g4:=(by have:=(E4.out.bx (g4,(Pz.lf 2 t.t.num ⟨#[]⟩)) (by simp)).2;have:=E4.out.lt;dsimp only at *;omega);have nr:sb≠w.heap.size:=(by have:=E4.out.lt;omega);have hx0:w.heap.size≠g4:=fun q=>(List.pairwise_cons.1 E4.out.nd).1 (w.heap.size,Pz.z0) (by simp) q.symm;have E9:=hid ((E4.out.grown (E4.out.st.step hi).1 (qF _ _ _ _ _) (E4.out.st.step hi).2).leaf 2 t.t.num ⟨#[]⟩);go_wp2;refine bodyPost_ret (v:=.tuple #[.agg #[.int .i64 2,.int .i64 t.t.num,.string ⟨#[]⟩,.slice none 0 0],.bool true]) ?_ rfl ?_
   ·rw [results_cell_tmp rfl];go_simp
   ·rw [LT.out];exact⟨(Pz.lf 2 t.t.num ⟨#[]⟩),rfl,(E9.out.tail).done4 (Pz.lf 2 t.t.num ⟨#[]⟩) (some (Pz.lf 2 t.t.num ⟨#[]⟩)) (fun x hx=>by cases hx;exact⟨rfl,by simp⟩) rfl rfl rfl rfl⟩
  ·
   have k1:(t.t.kind==1)=false:=(by simp[hk]);have k2:(t.t.kind==2)=false:=(by simp[hk]);have k3:(t.t.kind==3)=false:=(by simp[hk]);have k4:(t.t.kind==4)=true:=(by simp[hk]);rw[xg hk] at LT;dsimp only at LT;clear hk h1 h2 h3;go_upto_region 17 with (fail);have E4:=hid (E3.out.box (Pz.lf 3 t.t.num ⟨#[]⟩) #[.int .i64 3,.int .i64 t.t.num,.string ⟨#[]⟩,.slice none 0 0] rfl 24);generalize hg4:w3.heap.size=g4 at *;generalize w3.alloc (.cells #[.int .i64 3,.int .i64 t.t.num,.string ⟨#[]⟩,.slice none 0 0] 24)=w4 at *;clear E3 hg4 t0 t1 t2 tl;obtain⟨qp,qo,qn,qg,qm,ql,qk,qj,qi⟩:=(E4.out.bx (g4,(Pz.lf 3 t.t.num ⟨#[]⟩)) (by simp)).1;dsimp only[Pz.lf,len] at qp qo qn qg qm ql qk qj qi;obtain⟨qA,qz,qy,qs,qx,qw,qv,qu,qt⟩:=(E4.out.bx (w.heap.size,Pz.z0) (by simp)).1;dsimp only[Pz.z0,len] at qA qz qy qs qx qw qv qu qt;have c1:=E4.out.st.c1;have f1:=E4.out.st.f1;have slt:=E4.out.st.lt;have nx:sb≠g4:=(by have:=(E4.out.bx (g4,(Pz.lf 3 t.t.num ⟨#[]⟩)) (by simp)).2;have:=E4.out.lt;dsimp only at *;omega);have nr:sb≠w.heap.size:=(by have:=E4.out.lt;omega);have hx0:w.heap.size≠g4:=fun q=>(List.pairwise_cons.1 E4.out.nd).1 (w.heap.size,Pz.z0) (by simp) q.symm;have E9:=hid ((E4.out.grown (E4.out.st.step hi).1 (qF _ _ _ _ _) (E4.out.st.step hi).2).leaf 3 t.t.num ⟨#[]⟩);go_wp2;refine bodyPost_ret (v:=.tuple #[.agg #[.int .i64 3,.int .i64 t.t.num,.string ⟨#[]⟩,.slice none 0 0],.bool true]) ?_ rfl ?_
   ·rw [results_cell_tmp rfl];go_simp
   ·rw [LT.out];exact⟨(Pz.lf 3 t.t.num ⟨#[]⟩),rfl,(E9.out.tail).done4 (Pz.lf 3 t.t.num ⟨#[]⟩) (some (Pz.lf 3 t.t.num ⟨#[]⟩)) (fun x hx=>by cases hx;exact⟨rfl,by simp⟩) rfl rfl rfl rfl⟩
  ·
   have k1:(t.t.kind==1)=false:=(by simp[hk]);have k2:(t.t.kind==2)=false:=(by simp[hk]);have k3:(t.t.kind==3)=false:=(by simp[hk]);have k4:(t.t.kind==4)=false:=(by simp[hk]);rw[xU hk] at LT;dsimp only at LT;clear hk;go_upto_region 6 with (fail);have E4:=hid (E3.out.box Pz.z0 #[.int .i64 0,.int .i64 0,.string ⟨#[]⟩,.slice none 0 0] rfl 24);generalize hg6:w3.heap.size=g6 at *;generalize w3.alloc (.cells #[.int .i64 0,.int .i64 0,.string ⟨#[]⟩,.slice none 0 0] 24)=w5 at *;clear E3 hg6;obtain⟨qp,qo,qn,qg,qm,ql,qk,qj,qi⟩:=(E4.out.bx (g6,Pz.z0) (by simp)).1;dsimp only[Pz.z0,len] at qp qo qn qg qm ql qk qj qi;obtain⟨qA,qz,qy,qs,qx,qw,qv,qu,qt⟩:=(E4.out.bx (w.heap.size,Pz.z0) (by simp)).1;dsimp only[Pz.z0,len] at qA qz qy qs qx qw qv qu qt;go_wp2;refine bodyPost_ret (v:=.tuple #[.agg #[.int .i64 0,.int .i64 0,.string ⟨#[]⟩,.slice none 0 0],.bool false]) ?_ rfl ?_
   ·rw [results_cell_tmp rfl];go_simp
   ·rw [LT.out];exact⟨Pz.z0,rfl,(E4.out.tail).done4 Pz.z0 none (fun x hx=>by cases hx) rfl rfl rfl rfl⟩
 ·have hi':(L.length:Int)≤(i:Int):=by omega
  go_enter Tryz.func209,Tryz.ntmps209;go_wp2_with fail;have E1:=hid (E0.out.box Pz.z0 #[.int .i64 0,.int .i64 0,.string ⟨#[]⟩,.slice none 0 0] rfl 24);generalize w.alloc (.cells #[.int .i64 0,.int .i64 0,.string ⟨#[]⟩,.slice none 0 0] 24)=w1 at *;clear E0;have c0:=E1.out.st.c0;have c1:=E1.out.st.c1;have qN:=E1.out.st.lt
  go_quiet (fail)
  have B2:Hid (Below w1.heap.size w1 (w1.drewN nq)):=below_drewN (Below.refl _ _) _;have E2:=hid (E1.out.below B2.out);generalize w1.drewN nq=w2 at *;clear E1 c0 c1 qN B2;obtain⟨qp,qo,qn,qg,qm,ql,qk,qj,qi⟩:=(E2.out.bx (w.heap.size,Pz.z0) (by simp)).1;dsimp only[Pz.z0,len] at qp qo qn qg qm ql qk qj qi;go_wp2;refine bodyPost_ret (v:=.tuple #[.agg #[.int .i64 0,.int .i64 0,.string ⟨#[]⟩,.slice none 0 0],.bool false]) ?_ rfl ?_
  ·rw [results_cell_tmp rfl];go_simp
  ·rw [uA (by omega)];exact⟨Pz.z0,rfl,E2.out.done4 Pz.z0 none (fun x hx=>by cases hx) rfl rfl rfl rfl⟩
end Go.Proofs.YtcejjdmnlejbaaaGreatDoor
