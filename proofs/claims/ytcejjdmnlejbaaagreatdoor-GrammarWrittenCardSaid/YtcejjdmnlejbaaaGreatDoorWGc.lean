import Derived.Test.YtcejjdmnlejbaaaGreatDoorWPzX
namespace Go.Proofs.YtcejjdmnlejbaaaGreatDoor
open Lib(hid)
set_option linter.unusedVariables false
set_option linter.unusedSimpArgs false
open Go.ChangeShapes Go.WideShapes Go.ChangeAt Go.RowKit
open Go.Deep (BT)
set_option maxHeartbeats 4000000
set_option maxRecDepth 100000
namespace Fp
open Pz
def tB(l:List P):ByteArray:=⟨(bts l).toArray⟩
theorem tB_list(l:List P):(tB l).data.toList=bts l:=rfl
theorem ba_eq{a b:ByteArray}(h:a.data.toList=b.data.toList):a=b:=by
 apply ByteArray.ext;exact Array.toList_inj.1 h
theorem tB_app(l m:List P):tB (l++m)=tB l++tB m:=by
 apply ba_eq;rw[qP,tB_list,tB_list,tB_list];unfold bts;rw[List.flatMap_append]
theorem tB_cons(p:P)(l:List P):tB (p :: l)=tB [p]++tB l:=tB_app [p] l
def fmT(c:Ch):ByteArray× Int:=if qQ c.a c.k≠0 then (⟨#[]⟩,qQ c.a c.k) else if 400 < (F c).length then (⟨#[]⟩,10) else (tB (F c),0)
theorem valE_cases(a:Nd)(k:Fo):qQ a k=0∨qQ a k=1∨qQ a k=10:=by
 unfold qQ
 split
 ·split
  ·exact .inl rfl
  ·exact .inr (.inl rfl)
 ·exact .inr (.inr rfl)
theorem valE_wf{a:Nd}{k:Fo}(h:qQ a k=0):(zk a (len k) && za k)=true:=by
 unfold qQ at h
 split at h
 ·split at h
  ·assumption
  ·cases h
 ·cases h
theorem scan_F(c:Ch)(h:qQ c.a c.k=0):((F c).length≤400→∃E:List Tk.T4,E.map (fun t=>t.t)=(F c).map (fun p=>p.2)∧Tk.scanT (tB (F c))=(E,0,0))∧(400 < (F c).length→∃j,Tk.scanT (tB (F c))=([],j,10)):=by
 obtain⟨h1,h2⟩:=nice_of c (valE_wf h);exact scan_text (tB (F c)) (F c) h1 h2 (tB_list _)
theorem px_back(c:Ch)(h:qQ c.a c.k=0)(hl:(F c).length≤400):pxT (tB (F c))=(nr c,0,0):=by
 obtain⟨E,e1,e2⟩:=(scan_F c h).1 hl;have hp:=read_back c (valE_wf h) E e1;unfold pxT;rw[e2];dsimp only;rw[if_neg (by simp),hp];dsimp only;rw[if_neg (Nat.lt_irrefl _),val_nr,h,if_pos rfl]
def PF(c:Ch):List P:=(false,sg wOpen) :: (F c++[(false,sg wShut)])
theorem px_paren(c:Ch)(h:qQ c.a c.k=0)(hl:(F c).length+2≤400):pxT (tB (PF c))=(nr c,0,0):=by
 obtain⟨n1,n2⟩:=nice_of c (valE_wf h);have nv:VL (PF c):=vl_cons (vt_sg (by decide) (by decide)) (vl_app n1 (vl_cons (vt_sg (by decide) (by decide)) vl_nil));have no:okL (PF c):=okL_cons (okL_app n2 trivial fun q hq=>by cases hq;exact .inr (.inl rfl)) fun q _=>.inr (.inr (.inl rfl));have pl:(PF c).length=(F c).length+2:=by unfold PF;simp
 obtain⟨E,e1,e2⟩:=(scan_text (tB (PF c)) (PF c) nv no (tB_list _)).1 (by omega);have hE:E.length=(F c).length+2:=by have:=congrArg List.length e1;simp at this;omega
 have hp:pv E .ex 0=(some (nr c),E.length):=by
  have hw:=valE_wf h;rw[Bool.and_eq_true] at hw;have g:=good_node c hw.1 (good_all c.k hw.2)
  have hs:Seg E 0 (PF c):=fun k p hp=>by
   have q:=congrArg (fun l=>l[k]?) e1;simp only[List.getElem?_map,hp,Option.map_some] at q;rw[Nat.zero_add];cases hu:E[k]? with
   | none=>rw[hu] at q;cases q
   | some u=>rw[hu] at q;exact⟨u,rfl,Option.some.inj q⟩
  obtain⟨h1,h2⟩:=seg_cons hs;obtain⟨h3,h4⟩:=seg_app h2;obtain⟨h5,-⟩:=seg_cons h4;have b:=(g E (0+1) (by omega)).2 h3 (stp_shut h5);have r:=ex_fc (fc_paren h1 b h5) (fst_not h1 (by decide)) (stp_end (by omega));have:=r.2.2;rw[show 0+1+(F c).length+1=E.length by omega] at this;exact this
 unfold pxT;rw[e2];dsimp only;rw[if_neg (by simp),hp];dsimp only;rw[if_neg (Nat.lt_irrefl _),val_nr,h,if_pos rfl]
end Fp
namespace Fp
open Pz
def Fst(l:List P):Prop:=∃t m,l=(false,t) :: m
theorem fst_app{l m:List P}(h:Fst l):Fst (l++m):=by
 obtain⟨t,k,rfl⟩:=h;exact⟨t,k++m,rfl⟩
theorem fst_I{c:Ch}(h:Fst (F c)):Fst (I c):=by
 unfold I tI
 by_cases q:len c.k=0∨c.a.op=12∨c.a.op=13
 ·rw[if_pos q];exact h
 ·rw[if_neg q];exact⟨_,_,rfl⟩
theorem fst_node(c:Ch)(hw:zk c.a (len c.k)=true)(hg:∀x∈ kl c.k,Fst (F x)):Fst (F c):=by
 unfold zk at hw;rw[Bool.and_eq_true,Bool.and_eq_true,Bool.and_eq_true,decide_eq_true_eq] at hw;obtain⟨⟨⟨⟨o1,o2⟩,ha⟩,hn⟩,hm⟩:=hw;have hkl:=kl_len c.k;unfold j6 at ha
 have hop:c.a.op=1∨c.a.op=2∨c.a.op=3∨c.a.op=4∨c.a.op=5∨c.a.op=6∨c.a.op=7∨c.a.op=19∨c.a.op=12∨c.a.op=13∨c.a.op=14∨c.a.op=15∨
  (c.a.op=8∨c.a.op=9∨c.a.op=10∨c.a.op=11∨c.a.op=16∨c.a.op=17∨c.a.op=18∨c.a.op=20∨c.a.op=21∨c.a.op=22):=by omega
 rcases hop with h|h|h|h|h|h|h|h|h|h|h|h|h
 ·rw[tF_eq c 1 h];exact⟨_,_,rfl⟩
 ·rw[tF_eq c 2 h];exact⟨_,_,rfl⟩
 ·rw[tF_eq c 3 h];exact⟨_,_,rfl⟩
 ·rw[tF_eq c 4 h];exact⟨_,_,rfl⟩
 ·rw[tF_eq c 5 h];exact⟨_,_,rfl⟩
 ·rw[tF_eq c 6 h];exact⟨_,_,rfl⟩
 ·rw[tF_eq c 7 h];exact⟨_,_,rfl⟩
 ·rw[tF_eq c 19 h];exact⟨_,_,rfl⟩
 ·rw[tF_eq c 12 h];exact⟨_,_,rfl⟩
 ·rw[tF_eq c 13 h];exact⟨_,_,rfl⟩
 ·rw[tF_eq c 14 h];exact⟨_,_,rfl⟩
 ·rw [h] at ha;have k3:len c.k=3:=(by have:=of_decide_eq_true ha;omega);obtain⟨x,y,z,hx⟩:=len_three (hkl.trans k3);rw[tF_eq c 15 h,tK_three hx];exact fst_app (fst_I (hg x (by rw[hx];simp)))
 ·rw [if_neg (by omega),if_neg (by omega),if_neg (by omega),if_neg (by omega)] at ha;have k2:len c.k=2:=(by have:=of_decide_eq_true ha;omega);obtain⟨x,y,hx⟩:=len_two (hkl.trans k2)
  have e:F c=I x++(true,opW c.a.op) :: bl (I y):=by
   unfold F tF;rw[tK_two hx];rw[if_neg (by omega),if_neg (by omega),if_neg (by omega),if_neg (by omega),if_neg (by omega),if_neg (by omega),if_neg (by omega),if_neg (by omega),if_neg (by omega),if_neg (by omega),if_neg (by omega),if_neg (by omega)];rfl
  rw[e];exact fst_app (fst_I (hg x (by rw[hx];simp)))
theorem fst_all(k:Fo):za k=true→∀c∈ kl k,Fst (F c):=by
 induction k with
 | nil=>intro _ c hc;cases hc
 | node b o a k r ihk ihr =>
   intro hw c hc;unfold za at hw;rw[Bool.and_eq_true,Bool.and_eq_true] at hw;rcases List.mem_cons.1 hc with rfl|hc
   ·exact fst_node _ hw.1.1 (ihk hw.1.2)
   ·exact ihr hw.2 c hc
theorem tB_bl{l:List P}(h:Fst l):tB (bl l)=⟨#[32]⟩++tB l:=by
 obtain⟨t,m,rfl⟩:=h;apply ba_eq;rw[qP,tB_list,tB_list];rfl
theorem tB_sg(b:Bool)(w:ByteArray):tB [(b,sg w)]=if b=true then ⟨#[32]⟩++w else w:=by
 cases b with
 | false =>
   apply ba_eq
   show bts [(false,sg w)]=w.data.toList
   unfold bts;simp[pb,tb,tx,sg,qY]
 | true =>
   apply ba_eq;rw[if_pos rfl,qP]
   show bts [(true,sg w)]=_
   unfold bts;simp[pb,tb,tx,sg,qY]
theorem tB_wd(b:Bool)(w:ByteArray):tB [(b,wd w)]=if b=true then ⟨#[32]⟩++w else w:=by
 cases b with
 | false =>
   apply ba_eq
   show bts [(false,wd w)]=w.data.toList
   unfold bts;simp[pb,tb,tx,wd,qY]
 | true =>
   apply ba_eq;rw[if_pos rfl,qP]
   show bts [(true,wd w)]=_
   unfold bts;simp[pb,tb,tx,wd,qY]
theorem fst_jnC(c:Ch)(l:List Ch)(h:Fst (F c)):Fst (jnC ((c :: l).map fun c=>(F c,I c))):=by
 cases l with
 | nil=>exact h
 | cons d l=>exact fst_app h
theorem jnC_snoc(l:List Ch)(x:Ch)(hF:∀c∈ l,Fst (F c))(h:l≠[]):jnC ((l++[x]).map fun c=>(F c,I c))=jnC (l.map fun c=>(F c,I c))++(false,sg wComma) :: bl (F x):=by
 induction l with
 | nil=>exact absurd rfl h
 | cons c l ih =>
   cases l with
   | nil=>rfl
   | cons d l =>
     have q:=ih (fun c hc=>hF c (List.mem_cons_of_mem _ hc)) (by simp)
     show F c++(false,sg wComma) :: bl (jnC (((d :: l)++[x]).map fun c=>(F c,I c)))=_
     rw[q]
     show _=(F c++(false,sg wComma) :: bl (jnC ((d :: l).map fun c=>(F c,I c))))++_
     obtain⟨t,m,e⟩:=fst_jnC d l (hF d (by simp));rw[e,List.append_assoc,List.cons_append];rfl
end Fp
namespace Fp
open Pz
theorem bts_nil:bts []=[]:=rfl
theorem bts_cons(p:P)(l:List P):bts (p :: l)=pb p++bts l:=by unfold bts;rw[List.flatMap_cons]
theorem bts_app(l m:List P):bts (l++m)=bts l++bts m:=by unfold bts;rw[List.flatMap_append]
theorem bts_bl{l:List P}(h:Fst l):bts (bl l)=32 :: bts l:=by
 obtain⟨t,m,rfl⟩:=h;rfl
theorem tb_txt{t:Tk.T3}(h:t.kind=1∨t.kind=5):tb t=t.text.data.toList:=by
 unfold tb tx qY;rw[if_pos h]
theorem pb_f{t:Tk.T3}(h:t.kind=1∨t.kind=5):pb (false,t)=t.text.data.toList:=tb_txt h
theorem pb_t{t:Tk.T3}(h:t.kind=1∨t.kind=5):pb (true,t)=32 :: t.text.data.toList:=by
 show 32 :: tb t=_
 rw[tb_txt h]
theorem opW_kind(op:Int):(opW op).kind=1∨(opW op).kind=5:=by
 unfold opW
 repeat' split
 all_goals first|exact .inr rfl|exact .inl rfl
def tF'(c:Ch):List UInt8:=bts (F c)
def tI'(c:Ch):List UInt8:=bts (I c)
theorem tI_bare(c:Ch)(h:len c.k=0∨c.a.op=12∨c.a.op=13):tI' c=tF' c:=by
 unfold tI' I tI;rw[if_pos h];rfl
theorem tI_paren(c:Ch)(h:¬(len c.k=0∨c.a.op=12∨c.a.op=13)):tI' c=40 :: (tF' c++[41]):=by
 unfold tI' I tI;rw[if_neg h,bts_cons,bts_app];rfl
theorem b1(c:Ch)(h:c.a.op=1):tF' c=tb ⟨2,⟨#[]⟩,c.a.num⟩:=by unfold tF';rw[tF_eq c 1 h];show bts [_]=_;rw[bts_cons,bts_nil,List.append_nil];rfl
theorem b2(c:Ch)(h:c.a.op=2):tF' c=tb ⟨3,⟨#[]⟩,c.a.num⟩:=by unfold tF';rw[tF_eq c 2 h];show bts [_]=_;rw[bts_cons,bts_nil,List.append_nil];rfl
theorem b3(c:Ch)(h:c.a.op=3):tF' c=tb ⟨4,⟨#[]⟩,c.a.num⟩:=by unfold tF';rw[tF_eq c 3 h];show bts [_]=_;rw[bts_cons,bts_nil,List.append_nil];rfl
theorem b4(c:Ch)(h:c.a.op=4):tF' c=[116,114,117,101]:=by unfold tF';rw[tF_eq c 4 h];rfl
theorem b5(c:Ch)(h:c.a.op=5):tF' c=[102,97,108,115,101]:=by unfold tF';rw[tF_eq c 5 h];rfl
theorem b6(c:Ch)(h:c.a.op=6):tF' c=c.a.name.data.toList:=by
 unfold tF';rw[tF_eq c 6 h];show bts [(false,wd c.a.name)]=_;rw[bts_cons,bts_nil,List.append_nil,pb_f (.inl rfl)];rfl
theorem b7(c x:Ch)(h:c.a.op=7)(hk:kl c.k=[x]):tF' c=45 :: tI' x:=by
 unfold tF';rw[tF_eq c 7 h,tK_one hk]
 show bts ((false,sg wMinus) :: I x)=_
 rw[bts_cons];rfl
theorem b19(c x:Ch)(h:c.a.op=19)(hk:kl c.k=[x])(hx:Fst (F x)):tF' c=[110,111,116,32]++tI' x:=by
 unfold tF';rw[tF_eq c 19 h,tK_one hk]
 show bts ((false,wd wNot) :: bl (I x))=_
 rw[bts_cons,bts_bl (fst_I hx)];rfl
def tJ'(l:List Ch):List UInt8:=bts (jnC (l.map fun c=>(F c,I c)))
theorem b12(c:Ch)(h:c.a.op=12):tF' c=[109,105,110,40]++(tJ' (kl c.k)++[41]):=by
 unfold tF';rw[tF_eq c 12 h,tK_kl]
 show bts ((false,wd wMin) :: (false,sg wOpen) :: (jnC _++[(false,sg wShut)]))=_
 rw[bts_cons,bts_cons,bts_app];rfl
theorem b13(c:Ch)(h:c.a.op=13):tF' c=[109,97,120,40]++(tJ' (kl c.k)++[41]):=by
 unfold tF';rw[tF_eq c 13 h,tK_kl]
 show bts ((false,wd wMax) :: (false,sg wOpen) :: (jnC _++[(false,sg wShut)]))=_
 rw[bts_cons,bts_cons,bts_app];rfl
theorem tJ_one(x:Ch):tJ' [x]=tF' x:=rfl
theorem tJ_snoc(l:List Ch)(x:Ch)(hF:∀c∈ l,Fst (F c))(hx:Fst (F x))(h:l≠[]):tJ' (l++[x])=tJ' l++([44,32]++tF' x):=by
 unfold tJ';rw[jnC_snoc l x hF h,bts_app,bts_cons,bts_bl hx];rfl
theorem b14(c x y z:Ch)(h:c.a.op=14)(hk:kl c.k=[x,y,z])(hx:Fst (F x))(hy:Fst (F y))(hz:Fst (F z)) :
 tF' c=[105,102,32]++(tF' x++([32,116,104,101,110,32]++(tF' y++([32,101,108,115,101,32]++tF' z)))):=by
 unfold tF';rw[tF_eq c 14 h,tK_three hk]
 show bts ((false,wd wIf) :: (bl (F x)++(true,wd wThen) :: (bl (F y)++(true,wd wElse) :: bl (F z))))=_
 rw[bts_cons,bts_app,bts_bl hx,bts_cons,bts_app,bts_bl hy,bts_cons,bts_bl hz];rfl
theorem b15(c x y z:Ch)(h:c.a.op=15)(hk:kl c.k=[x,y,z])(hy:Fst (F y))(hz:Fst (F z)) :
 tF' c=tI' x++([32,105,110,32]++(tI' y++([32,116,111,32]++tI' z))):=by
 unfold tF';rw[tF_eq c 15 h,tK_three hk]
 show bts (I x++(true,wd wIn) :: (bl (I y)++(true,wd wTo) :: bl (I z)))=_
 rw[bts_app,bts_cons,bts_app,bts_bl (fst_I hy),bts_cons,bts_bl (fst_I hz)];rfl
theorem bbin(c x y:Ch)(h:c.a.op=8∨c.a.op=9∨c.a.op=10∨c.a.op=11∨c.a.op=16∨c.a.op=17∨c.a.op=18∨c.a.op=20∨c.a.op=21∨c.a.op=22)(hk:kl c.k=[x,y])(hy:Fst (F y)) :
 tF' c=tI' x++(32 :: ((opW c.a.op).text.data.toList++(32 :: tI' y))):=by
 have e:F c=I x++(true,opW c.a.op) :: bl (I y):=by
  unfold F tF;rw[tK_two hk];rw[if_neg (by omega),if_neg (by omega),if_neg (by omega),if_neg (by omega),if_neg (by omega),if_neg (by omega),if_neg (by omega),if_neg (by omega),if_neg (by omega),if_neg (by omega),if_neg (by omega),if_neg (by omega)];rfl
 unfold tF';rw[e,bts_app,bts_cons,bts_bl (fst_I hy),pb_t (opW_kind _)];rfl
end Fp
namespace Fp
open Pz
theorem sz_kl{k:Fo}{l:List Ch}(h:kl k=l):sz k=sz (qC l):=by rw[← h,rowF_kl]
theorem len_I(c:Ch):(I c).length≤(F c).length+2:=by
 unfold I tI
 split
 ·omega
 ·simp
theorem len_jnC:∀(l:List Ch),(∀c∈ l,(F c).length+2≤5 * (1+sz c.k))→l≠[]→(jnC (l.map fun c=>(F c,I c))).length+1≤5 * sz (qC l):=by
 intro l
 induction l with
 | nil=>intro _ h;exact absurd rfl h
 | cons c l ih =>
   intro hl _;have h0:=hl c (List.mem_cons_self ..);cases l with
   | nil =>
     show(F c).length+1≤5 * (1+sz c.k+0)
     omega
   | cons d l =>
     have q:=ih (fun x hx=>hl x (List.mem_cons_of_mem _ hx)) (by simp)
     have e:(jnC ((c :: d :: l).map fun c=>(F c,I c))).length=(F c).length+(1+(jnC ((d :: l).map fun c=>(F c,I c))).length):=by
      show(F c++(false,sg wComma) :: bl (jnC ((d :: l).map fun c=>(F c,I c)))).length=_
      rw[List.length_append,List.length_cons,bl_len];omega
     have e2:sz (qC (c :: d :: l))=1+sz c.k+sz (qC (d :: l)):=rfl;rw[e,e2];omega
theorem len_F(c:Ch)(hw:zk c.a (len c.k)=true)(hg:∀x∈ kl c.k,(F x).length+2≤5 * (1+sz x.k)):(F c).length+2≤5 * (1+sz c.k):=by
 unfold zk at hw;rw[Bool.and_eq_true,Bool.and_eq_true,Bool.and_eq_true,decide_eq_true_eq] at hw;obtain⟨⟨⟨⟨o1,o2⟩,ha⟩,hn⟩,hm⟩:=hw;have hkl:=kl_len c.k;unfold j6 at ha
 have hop:c.a.op=1∨c.a.op=2∨c.a.op=3∨c.a.op=4∨c.a.op=5∨c.a.op=6∨c.a.op=7∨c.a.op=19∨c.a.op=12∨c.a.op=13∨c.a.op=14∨c.a.op=15∨
  (c.a.op=8∨c.a.op=9∨c.a.op=10∨c.a.op=11∨c.a.op=16∨c.a.op=17∨c.a.op=18∨c.a.op=20∨c.a.op=21∨c.a.op=22):=by omega
 have one:∀t:Tk.T3,([(false,t)]:List P).length+2≤5 * (1+sz c.k):=fun t=>by simp only[List.length_cons,List.length_nil];omega
 rcases hop with h|h|h|h|h|h|h|h|h|h|h|h|h
 ·rw[tF_eq c 1 h];exact one _
 ·rw[tF_eq c 2 h];exact one _
 ·rw[tF_eq c 3 h];exact one _
 ·rw[tF_eq c 4 h];exact one _
 ·rw[tF_eq c 5 h];exact one _
 ·rw[tF_eq c 6 h];exact one _
 ·rw [h] at ha;have k1:len c.k=1:=(by have:=of_decide_eq_true ha;omega);obtain⟨x,hx⟩:=len_one (hkl.trans k1);have s:sz c.k=1+sz x.k+0:=sz_kl hx;have g:=hg x (by rw[hx];simp);have i:=len_I x;rw[tF_eq c 7 h,tK_one hx]
  show((false,sg wMinus) :: I x).length+2≤_
  rw[List.length_cons];omega
 ·rw [h] at ha;have k1:len c.k=1:=(by have:=of_decide_eq_true ha;omega);obtain⟨x,hx⟩:=len_one (hkl.trans k1);have s:sz c.k=1+sz x.k+0:=sz_kl hx;have g:=hg x (by rw[hx];simp);have i:=len_I x;rw[tF_eq c 19 h,tK_one hx]
  show((false,wd wNot) :: bl (I x)).length+2≤_
  rw[List.length_cons,bl_len];omega
 ·rw [h] at ha;have k2:2≤len c.k:=(by have:=of_decide_eq_true ha;omega);have q:=len_jnC (kl c.k) hg (fun e=>by rw[e] at hkl;simp at hkl;omega);rw[rowF_kl] at q;rw[tF_eq c 12 h,tK_kl]
  show((false,wd wMin) :: (false,sg wOpen) :: (jnC _++[(false,sg wShut)])).length+2≤_
  rw[List.length_cons,List.length_cons,List.length_append];simp only[List.length_cons,List.length_nil];omega
 ·rw [h] at ha;have k2:2≤len c.k:=(by have:=of_decide_eq_true ha;omega);have q:=len_jnC (kl c.k) hg (fun e=>by rw[e] at hkl;simp at hkl;omega);rw[rowF_kl] at q;rw[tF_eq c 13 h,tK_kl]
  show((false,wd wMax) :: (false,sg wOpen) :: (jnC _++[(false,sg wShut)])).length+2≤_
  rw[List.length_cons,List.length_cons,List.length_append];simp only[List.length_cons,List.length_nil];omega
 ·rw [h] at ha;have k3:len c.k=3:=(by have:=of_decide_eq_true ha;omega);obtain⟨x,y,z,hx⟩:=len_three (hkl.trans k3);have s:sz c.k=1+sz x.k+(1+sz y.k+(1+sz z.k+0)):=sz_kl hx;have g1:=hg x (by rw[hx];simp);have g2:=hg y (by rw[hx];simp);have g3:=hg z (by rw[hx];simp);rw[tF_eq c 14 h,tK_three hx]
  show((false,wd wIf) :: (bl (F x)++(true,wd wThen) :: (bl (F y)++(true,wd wElse) :: bl (F z)))).length+2≤_
  simp only[List.length_cons,List.length_append,bl_len];omega
 ·rw [h] at ha;have k3:len c.k=3:=(by have:=of_decide_eq_true ha;omega);obtain⟨x,y,z,hx⟩:=len_three (hkl.trans k3);have s:sz c.k=1+sz x.k+(1+sz y.k+(1+sz z.k+0)):=sz_kl hx;have g1:=hg x (by rw[hx];simp);have g2:=hg y (by rw[hx];simp);have g3:=hg z (by rw[hx];simp);have i1:=len_I x;have i2:=len_I y;have i3:=len_I z;rw[tF_eq c 15 h,tK_three hx]
  show(I x++(true,wd wIn) :: (bl (I y)++(true,wd wTo) :: bl (I z))).length+2≤_
  simp only[List.length_cons,List.length_append,bl_len];omega
 ·rw [if_neg (by omega),if_neg (by omega),if_neg (by omega),if_neg (by omega)] at ha;have k2:len c.k=2:=(by have:=of_decide_eq_true ha;omega);obtain⟨x,y,hx⟩:=len_two (hkl.trans k2);have s:sz c.k=1+sz x.k+(1+sz y.k+0):=sz_kl hx;have g1:=hg x (by rw[hx];simp);have g2:=hg y (by rw[hx];simp);have i1:=len_I x;have i2:=len_I y
  have e:F c=I x++(true,opW c.a.op) :: bl (I y):=by
   unfold F tF;rw[tK_two hx];rw[if_neg (by omega),if_neg (by omega),if_neg (by omega),if_neg (by omega),if_neg (by omega),if_neg (by omega),if_neg (by omega),if_neg (by omega),if_neg (by omega),if_neg (by omega),if_neg (by omega),if_neg (by omega)];rfl
  rw[e];simp only[List.length_cons,List.length_append,bl_len];omega
theorem len_all(k:Fo):za k=true→∀c∈ kl k,(F c).length+2≤5 * (1+sz c.k):=by
 induction k with
 | nil=>intro _ c hc;cases hc
 | node b o a k r ihk ihr =>
   intro hw c hc;unfold za at hw;rw[Bool.and_eq_true,Bool.and_eq_true] at hw;rcases List.mem_cons.1 hc with rfl|hc
   ·exact len_F _ hw.1.1 (ihk hw.1.2)
   ·exact ihr hw.2 c hc
theorem len_wf(c:Ch)(hw:(zk c.a (len c.k) && za c.k)=true):(F c).length+2≤5 * (1+sz c.k):=by
 rw[Bool.and_eq_true] at hw;exact len_F c hw.1 (len_all c.k hw.2)
theorem len_tb{t:Tk.T3}(h:VT t):(tb t).length≤200:=by
 unfold tb;rw[qe];exact QU (t:=⟨t,0⟩) h
theorem len_bts:∀(l:List P),VL l→(bts l).length≤201 * l.length:=by
 intro l
 induction l with
 | nil=>intro _;exact Nat.le_refl _
 | cons p l ih =>
   intro h;have h0:=len_tb (h p (List.mem_cons_self ..));have h1:=ih (fun q hq=>h q (List.mem_cons_of_mem _ hq))
   have h2:(pb p).length≤201:=by
    unfold pb
    split
    ·rw[List.length_cons];omega
    ·omega
   rw[bts_cons,List.length_append,List.length_cons];omega
theorem len_tF(c:Ch)(hw:(zk c.a (len c.k) && za c.k)=true):(tF' c).length≤1005 * (1+sz c.k):=by
 have h1:=len_bts (F c) (nice_of c hw).1;have h2:=len_wf c hw;unfold tF';omega
theorem len_tI(c:Ch)(hw:(zk c.a (len c.k) && za c.k)=true):(tI' c).length≤1005 * (1+sz c.k):=by
 have n:=nice_I (nice_of c hw);have h1:=len_bts (I c) n.1;have h2:=len_wf c hw;have h3:=len_I c;unfold tI';omega
theorem wf_kl(k:Fo):za k=true→∀c∈ kl k,(zk c.a (len c.k) && za c.k)=true∧1+sz c.k≤sz k:=by
 induction k with
 | nil=>intro _ c hc;cases hc
 | node b o a k r ihk ihr =>
   intro hw c hc;unfold za at hw;rw[Bool.and_eq_true] at hw;have e:sz (BT.node b o a k r)=1+sz k+sz r:=rfl;rcases List.mem_cons.1 hc with rfl|hc
   ·exact⟨hw.1,by rw[e];show 1+sz k≤_;omega⟩
   ·have q:=ihr hw.2 c hc;exact⟨q.1,by rw[e];omega⟩
end Fp
section
open Go Go.RowKit
namespace Att
def pair1:List (List UInt8):=[[100,117,116,105,101,115],[108,101,103,115],[104,101,97,100,115],[100,97,121,115]]
def pair2:List (List UInt8):=[[98,108,111,99,107],[115,112,97,110],[99,114,101,100,105,116]]
def rest:List UInt8:=[114,101,115,116]
def before:List UInt8:=[98,101,102,111,114,101,46]
def after:List UInt8:=[97,102,116,101,114,46]
def isIn(l:List UInt8)(ws:List (List UInt8)):Bool:=ws.any fun x=>l==x
def pairT(l:List UInt8):Int:=if isIn l pair1=true then 1 else if isIn l pair2=true then 2 else 0
end Att
def pairS(s:ByteArray):Int:=Att.pairT s.data.toList
end
section
end
section
open Go.RowKit
def allI(L:List Int)(k:Int):Bool:=L.all fun x=>x==k
structure Cn where
 name:ByteArray
 b:Nat
 o:Nat
 a:Nd
 k:Fo
end
section
end
section
end
section
end
section
end
section
def Yq(w:World)(lv:Int)(k:Fo)(e:Ending)(w':World):Prop :=
 ∃n d:Int,e=.returned (.tuple #[.int .i64 n,.int .i64 d])∧1≤n∧n≤200 * (17 - lv)+1∧1≤d∧d≤18 - lv∧(n≤200∧d+lv - 1≤16↔1+(sz k:Int)≤200∧lv+dp k≤16)∧(n≤200→d+lv - 1≤16→n=1+sz k)∧Below w.heap.size w w'
def V9(b o:Nat)(a:Nd)(k:Fo):Prop:=∀(w:World)(lv:Int),ExAt w b o a k→yN a k→1≤lv→lv≤17→
 Calls Tryz.prog 77 #[.agg #[.int .i64 a.op,.int .i64 a.num,.string a.name,.slice a.ptr (len k) a.cap],.int .i64 lv] w (Yq w lv k)
theorem KW(b o:Nat)(a:Nd)(k:Fo):V9 b o a k:=by
 refine jf (P:=V9) ?_ b o a k;clear b o a k;intro b o a k ih w lv hx hok h1 h2;obtain⟨op,num,name,ptr,cap⟩:=a
 show Calls Tryz.prog 77 #[.agg #[.int .i64 op,.int .i64 num,.string name,.slice ptr (len k) cap],.int .i64 lv] w _
 have IH:=hid ih;have HX:=hid hx;have HOK:=hid hok;clear ih hx hok;have hk:len k≤9223372036854775807:=HOK.out.1.2.2.2
 by_cases h16:16 < lv
 ·go_enter Tryz.func77,Tryz.ntmps77;go_wp2
  go_ret2
  exact⟨1,1,rfl,by omega,by omega,by omega,by omega,by omega,by omega,ba1⟩
 ·go_enter Tryz.func77,Tryz.ntmps77;go_wp2_with fail
  go_loopw [6,7,8] (fun n d i wr=>∃(j:Nat) (r:Fo) (m q:Int),i=.int .i64 j∧n=.int .i64 m∧d=.int .i64 q∧1≤m∧m≤200 * (17 - lv)+1∧1≤q∧q≤18 - lv∧wr.cell? ⟨w.heap.size,3,none⟩=some (.slice ptr (len k) cap)∧w.heap.size < wr.heap.size∧
   Hid (j+len r=len k∧FoAt wr r b (o+j * 4)∧je r∧xo V9 r∧Below w.heap.size w wr∧(1+(sz k:Int)≤200∧lv+dp k≤16↔m+sz r≤200∧q+lv - 1≤16∧lv+dp r≤16)∧(m≤200→q+lv - 1≤16→m+sz r=1+sz k))) (fun _ _ i _=>len k - (intOf i).toNat)
  case atStart =>
   refine⟨0,k,1,1,rfl,rfl,rfl,by omega,by omega,by omega,by omega,by simp,by simp,by omega,?_,HOK.out.2,IH.out,ba1,by omega,by omega⟩;rw[Nat.zero_mul,Nat.add_zero];exact HX.out.2.next ba1
  case round =>
   obtain⟨j,r,m,q,rfl,rfl,rfl,hm1,hm2,hq1,hq2,hc,ym,HR⟩:=hrel;cases r with
   | nil =>
     have hj:¬(j:Int) < (len k:Int):=(by have:=HR.out.1;simp[len] at this;omega);go_wp2
     go_ret2
     obtain⟨-,-,-,-,g5,g6,g7⟩:=HR.out;simp only[sz,dp] at g6 g7;exact⟨m,q,rfl,hm1,hm2,hq1,hq2,by omega,by omega,g5⟩
   | node b1 o1 a1 k1 r1 =>
     have hj:j < len k:=(by have:=HR.out.1;simp[len] at this;omega);obtain rfl:ptr=some ⟨b,o,none⟩:=HX.out.1 (by rintro rfl;simp[len] at hj);obtain⟨⟨c0,c1,c2,c3⟩,hp1,hk1,hr1⟩:=HR.out.2.1;have X1:Hid (ExAt wr b1 o1 a1 k1):=⟨hp1,hk1⟩;have N1:=hid hr1;clear hp1 hk1 hr1;have hj1:(j:Int) < (len k:Int):=by omega
     by_cases hm:m≤200
     ·go_wp2_with fail;refine(HR.out.2.2.2.1.1 _ (lv+1) X1.out ⟨HR.out.2.2.1.1,HR.out.2.2.1.2.1⟩ (by omega) (by omega)).mono ?_;rintro e w1 ⟨n1,d1,rfl,n2,n3,n4,n5,n6,n7,hb⟩
      have hc':w1.cell? ⟨w.heap.size,3,none⟩=some (.slice (some ⟨b,o,none⟩) (len k) cap):=by
       rw[hb.cell (p:=⟨w.heap.size,3,none⟩) ym,hc]
      have hz':w.heap.size < w1.heap.size:=Nat.lt_of_lt_of_le ym hb.size;have N2:=hid (N1.out.next hb);have B2:=hid (HR.out.2.2.2.2.1.trans (hb.mono (Nat.le_of_lt ym)));have K:=hid (And.intro n6 n7);clear hc c0 c1 c2 c3 hb ym X1 N1 n6 n7
      by_cases hd:q < d1+1
      all_goals
       go_wp2
       go_roundw
       case rel =>
        obtain⟨n6,n7⟩:=K.out;obtain⟨g1,-,g3,g4,-,g6,g7⟩:=HR.out;simp only[len] at g1;have e1:sz (BT.node b1 o1 a1 k1 r1)=1+sz k1+sz r1:=rfl;have e2:dp (BT.node b1 o1 a1 k1 r1)=max (1+dp k1) (dp r1):=rfl;rw[e1,e2] at g6;rw[e1] at g7;refine⟨j+1,r1,m+n1,_,by go_num,rfl,rfl,by omega,by omega,by omega,by omega,hc',hz',by omega,?_,g3.2.2,g4.2,B2.out,by omega,by omega⟩;rw[Nat.add_mul,Nat.one_mul,← Nat.add_assoc];exact N2.out
       case measure=>simp[intOf];omega
     ·go_wp2
      go_ret2
      obtain⟨-,-,-,-,g5,g6,g7⟩:=HR.out;exact⟨m,q,rfl,hm1,hm2,hq1,hq2,by omega,by omega,g5⟩
end
section
theorem zW(c:Int)(w:World) :
 Calls Tryz.prog 141 #[.int .u8 c] w fun e w'=>e=.returned (.bool (decide (97≤c∧c≤122)))∧w=w':=by
 go_enter Tryz.func141,Tryz.ntmps141;go_wp2
 all_goals
  go_ret;refine⟨qh ?_,rfl⟩
  go_light
  simp
  try omega
theorem xC(c:Int)(w:World) :
 Calls Tryz.prog 142 #[.int .u8 c] w fun e w'=>e=.returned (.bool (decide (48≤c∧c≤57)))∧w=w':=by
 go_enter Tryz.func142,Tryz.ntmps142;go_wp2
 all_goals
  go_ret;refine⟨qh ?_,rfl⟩
  go_light
  simp
  try omega
theorem JU(s:ByteArray)(h1:1≤s.size)(h2:s.size≤16):yU s=(decide ((97:Int)≤(s[0].toNat:Int)∧(s[0].toNat:Int)≤122) && s.data.toList.all Nam.wordB):=by
 unfold yU Nam.isName;rw[zm,getD_at s 0 h1,Bool.eq_iff_iff,decide_eq_true_eq,Bool.and_eq_true,decide_eq_true_eq];unfold Nam.lowB;rw[decide_eq_true_eq];constructor
 ·rintro ⟨-,-,a,b⟩;exact⟨by omega,b⟩
 ·rintro ⟨a,b⟩;exact⟨h1,h2,by omega,b⟩
theorem Ku(l:List UInt8)(k:Nat)(h:k < l.length):(l.take (k+1)).all Nam.wordB=((l.take k).all Nam.wordB && Nam.wordB (l.getD k 0)):=by
 have hd:l.getD k 0=l[k]:=by rw[List.getD_eq_getElem?_getD,List.getElem?_eq_getElem h];rfl
 rw[List.take_succ_eq_append_getElem h,List.all_append,hd];simp
theorem Kv(l:List UInt8)(k:Nat)(h:(l.take k).all Nam.wordB=false):l.all Nam.wordB=false:=by
 rw[Bool.eq_false_iff] at h ⊢;intro q;apply h;rw[List.all_eq_true] at q ⊢;exact fun x hx=>q x (List.mem_of_mem_take hx)
theorem xv(s : ByteArray)(w:World)(hs:s.size≤9223372036854775807) :
 Calls Tryz.prog 109 #[.string s] w fun e w'=>e=.returned (.bool (yU s))∧w=w':=by
 by_cases h1:1≤s.size∧s.size≤16
 ·obtain ⟨h1, h2⟩ := h1;have hN:=JU s h1 h2;have HN:=hid hN;clear hN;have i0:(0:Int) < (s.size:Int):=(by omega);cases hl:decide ((97:Int)≤(s[0].toNat:Int)∧(s[0].toNat:Int)≤122)
  ·have HL:=hid hl;clear hl;go_enter Tryz.func109,Tryz.ntmps109;go_wp2_with (go_at_call 141;refine(zW _ _).mono ?_;rw[HL.out];rintro e w' ⟨rfl,rfl⟩);go_ret;exact⟨qh (by rw[HN.out,HL.out];rfl),rfl⟩
  ·have HL := hid hl;clear hl;go_enter Tryz.func109,Tryz.ntmps109;go_wp2_with (go_at_call 141;refine(zW _ _).mono ?_;rw[HL.out];rintro e w' ⟨rfl,rfl⟩)
   go_loop [3] (fun i=>∃k:Nat,k≤s.size∧i=.int .i64 k∧Hid ((s.data.toList.take k).all Nam.wordB=true)) (fun i=>s.size - (intOf i).toNat)
   case atStart=>exact⟨0,by omega,rfl,rfl⟩
   case round =>
    obtain⟨k,hk,rfl,HG⟩:=hrel
    by_cases qD:k < s.size
    ·have hst := Ku s.data.toList k (by rw[zm];exact qD);rw[HG.out,Bool.true_and,getD_at s k qD] at hst;have ST:=hid hst;clear hst;have SP:Hid ((s.data.toList.take (k+1)).all Nam.wordB=false→yU s=false):=fun q=>by rw[HN.out,Kv _ _ q,Bool.and_false]
     have hi:(k:Int) < (s.size:Int):=(by omega);obtain⟨c,hc⟩:∃c:UInt8,s[k]=c:=⟨_,rfl⟩;rw[hc] at ST
     have W:Hid (Nam.wordB c=(decide ((97:Int)≤(c.toNat:Int)∧(c.toNat:Int)≤122) || decide ((48:Int)≤(c.toNat:Int)∧(c.toNat:Int)≤57) || ((c.toNat:Int)==95))):=by
      unfold Hid Nam.wordB;rw[Bool.eq_iff_iff];simp only[decide_eq_true_eq,Bool.or_eq_true,beq_iff_eq];omega
     cases q1:decide ((97:Int)≤(c.toNat:Int)∧(c.toNat:Int)≤122)
     ·cases q2 : decide ((48:Int)≤(c.toNat:Int)∧(c.toNat:Int)≤57)
      ·have Q1 := hid q1;have Q2:=hid q2;clear q1 q2;go_wp2_with (first|(go_at_call 141;refine(zW _ _).mono ?_;rw[Q1.out];rintro e w' ⟨rfl,rfl⟩)|(go_at_call 142;refine(xC _ _).mono ?_;rw[Q2.out];rintro e w' ⟨rfl,rfl⟩))
       all_goals first
        | (go_round
           case rel =>
            refine⟨k+1,by omega,by go_num,?_⟩
            go_light
            simp only[bne_eq_false_iff_eq] at *;unfold Hid;rw[ST.out,W.out];simp only[Bool.or_eq_true,beq_iff_eq];omega
           case measure=>simp[intOf];omega)
        | (go_ret
           refine⟨qh (SP.out ?_).symm,rfl⟩
           go_light
           simp only[bne_iff_ne] at *;rw[ST.out,W.out,Q1.out,Q2.out];simp only[Bool.or_eq_false_iff,beq_eq_false_iff_ne];refine⟨⟨?_,?_⟩,?_⟩<;>first|trivial|omega)
      ·have Q1:=hid q1;have Q2:=hid q2;clear q1 q2;go_wp2_with (first|(go_at_call 141;refine(zW _ _).mono ?_;rw[Q1.out];rintro e w' ⟨rfl,rfl⟩)|(go_at_call 142;refine(xC _ _).mono ?_;rw[Q2.out];rintro e w' ⟨rfl,rfl⟩))
       go_round
       case rel=>exact⟨k+1,by omega,by go_num,by unfold Hid;rw[ST.out,W.out,Q2.out];simp⟩
       case measure=>simp[intOf];omega
     ·have Q1:=hid q1;clear q1;go_wp2_with (go_at_call 141;refine(zW _ _).mono ?_;rw[Q1.out];rintro e w' ⟨rfl,rfl⟩)
      go_round
      case rel=>exact⟨k+1,by omega,by go_num,by unfold Hid;rw[ST.out,W.out,Q1.out];simp⟩
      case measure=>simp[intOf];omega
    ·have hr:Hid (yU s=true):=by
      have:=HG.out;obtain rfl:k=s.size:=by omega
      rw[← zm,List.take_length] at this;unfold Hid;rw[HN.out,HL.out,this];rfl
     go_wp2;go_ret;exact⟨qh hr.out.symm,rfl⟩
 ·have hn:Hid (yU s=false):=by
   unfold Hid yU Nam.isName;rw[zm];exact decide_eq_false (fun q=>h1 ⟨q.1,q.2.1⟩)
  by_cases h2:1≤s.size
  ·have h3:¬s.size≤16:=fun q=>h1 ⟨h2,q⟩;clear h1;go_enter Tryz.func109,Tryz.ntmps109;go_wp2;go_ret;exact⟨qh hn.out.symm,rfl⟩
  ·clear h1;go_enter Tryz.func109,Tryz.ntmps109;go_wp2;go_ret;exact⟨qh hn.out.symm,rfl⟩
def xX:Array Value:=#[.string ⟨#[97,110,100]⟩,.string ⟨#[111,114]⟩,.string ⟨#[110,111,116]⟩,.string ⟨#[105,109,112,108,105,101,115]⟩,.string ⟨#[105,110]⟩,.string ⟨#[116,111]⟩,.string ⟨#[116,114,117,101]⟩,.string ⟨#[102,97,108,115,101]⟩,.string ⟨#[109,105,110]⟩,.string ⟨#[109,97,120]⟩,.string ⟨#[105,102]⟩,.string ⟨#[116,104,101,110]⟩,.string ⟨#[101,108,115,101]⟩]
theorem Jo(k:Nat)(h:k < 13):∃l:List UInt8,Nam.words[k]?=some l∧xX[k]?=some (.string ⟨l.toArray⟩):=by
 match k,h with
 | 0,_=>exact⟨_,rfl,rfl⟩
 | 1,_=>exact⟨_,rfl,rfl⟩
 | 2,_=>exact⟨_,rfl,rfl⟩
 | 3,_=>exact⟨_,rfl,rfl⟩
 | 4,_=>exact⟨_,rfl,rfl⟩
 | 5,_=>exact⟨_,rfl,rfl⟩
 | 6,_=>exact⟨_,rfl,rfl⟩
 | 7,_=>exact⟨_,rfl,rfl⟩
 | 8,_=>exact⟨_,rfl,rfl⟩
 | 9,_=>exact⟨_,rfl,rfl⟩
 | 10,_=>exact⟨_,rfl,rfl⟩
 | 11,_=>exact⟨_,rfl,rfl⟩
 | 12,_=>exact⟨_,rfl,rfl⟩
theorem JD(s:ByteArray)(w:World) :
 Calls Tryz.prog 110 #[.string s] w fun e w'=>e=.returned (.bool (xw s))∧Below w.heap.size w w':=by
 have B0:Below w.heap.size w (w.alloc (.cells xX 9)):=ba1;have C0:∀k v,xX[k]?=some v→(w.alloc (.cells xX 9)).cell? ⟨w.heap.size,k,none⟩=some v:=fun k v h=>by simp[h]
 have HB:=hid B0;have HC:=hid C0;clear B0 C0;have R:Hid (xw s=(Nam.words.any fun x=>s.toList==x)):=by unfold Hid xw Nam.reserved;rw[Lib.toList_data]
 go_enter Tryz.func110,Tryz.ntmps110;go_wp2_with fail
 go_loopw [4] (fun i wr=>∃k:Nat,k≤13∧i=.int .i64 k∧Hid (Below w.heap.size w wr∧(∀j v,xX[j]?=some v→wr.cell? ⟨w.heap.size,j,none⟩=some v)∧xw s=((Nam.words.drop k).any fun x=>s.toList==x))) (fun i _=>13 - (intOf i).toNat)
 case atStart=>exact⟨0,by omega,rfl,HB.out,HC.out,R.out⟩
 case round =>
  obtain⟨k,hk,rfl,HR⟩:=hrel
  by_cases qD:k < 13
  ·obtain ⟨l,w1,w2⟩:=Jo k qD;have hc:=HR.out.2.1 _ _ w2
   have ST:Hid (xw s=((s.toList==l) || ((Nam.words.drop (k+1)).any fun x=>s.toList==x))):=by
    have:=HR.out.2.2;have hkl:k < Nam.words.length:=qD;rw[List.drop_eq_getElem_cons hkl,List.any_cons] at this;rw[List.getElem?_eq_getElem hkl] at w1;rw[Option.some.inj w1] at this;exact this
   clear w1 w2;have hi:(k:Int) < 13:=(by omega);rw[show(s.toList==l)=(l==s.toList) from Bool.beq_comm] at ST;cases hb:(l==s.toList)
   ·have HB1:=hid hb;go_wp2
    go_roundw
    case rel=>exact⟨k+1,by omega,by go_num,HR.out.1,HR.out.2.1,by rw[ST.out,HB1.out,Bool.false_or]⟩
    case measure=>simp[intOf];omega
   ·have HB1:=hid hb;go_wp2;go_ret;exact⟨qh (by rw[ST.out,HB1.out];rfl),HR.out.1⟩
  ·have:Hid (xw s=false):=by
    have:=HR.out.2.2;rw[List.drop_eq_nil_of_le (show Nam.words.length≤k by show 13≤k;omega)] at this;exact this
   go_wp2;go_ret;exact⟨qh this.out.symm,HR.out.1⟩
theorem zU(s:ByteArray)(w:World)(hs:s.size≤9223372036854775807) :
 Calls Tryz.prog 62 #[.string s] w fun e w'=>e=.returned (.bool (yh s))∧Below w.heap.size w w':=by
 have D:Hid (yh s=(yU s && !xw s)):=rfl;go_enter Tryz.func62,Tryz.ntmps62;go_wp2_with fail;refine(xv _ _ hs).mono ?_;generalize yU s=x at *;rintro e w' ⟨rfl,rfl⟩;cases x
 ·go_wp2;go_ret;exact⟨qh D.out.symm,Below.refl _ _⟩
 ·go_wp2_with fail;refine(JD _ _).mono ?_;generalize xw s=y at *;rintro e w' ⟨rfl,hb⟩;go_wp2;go_ret;exact⟨qh D.out.symm,hb⟩
theorem Uk(l:List UInt8)(c:UInt8)(k:Nat)(h:k < l.length)(hn:∀x∈ l.take k,x≠c) :
 (l.getD k 0=c→Lib.indexByte l c=k)∧(l.getD k 0≠c→∀x∈ l.take (k+1),x≠c):=by
 have hd:l.getD k 0=l[k]:=by rw[List.getD_eq_getElem?_getD,List.getElem?_eq_getElem h];rfl
 rw[hd];constructor
 ·intro e;refine(Nam.ix_some l c k).2 ⟨⟨l.drop (k+1),?_⟩,h,hn⟩;rw[← e,← List.drop_eq_getElem_cons h,List.take_append_drop]
 ·intro e x hx;rw[List.take_succ_eq_append_getElem h] at hx;rcases List.mem_append.1 hx with hx|hx
  ·exact hn x hx
  ·rw[List.mem_singleton.1 hx];exact e
theorem YJ(s:ByteArray)(c:UInt8)(w:World)(hs:s.size≤9223372036854775807) :
 Calls Tryz.prog 120 #[.string s,.int .u8 c.toNat] w fun e w'=>e=.returned (.int .i64 (Lib.indexByte s.data.toList c))∧w=w':=by
 go_enter Tryz.func120,Tryz.ntmps120;go_wp2_with fail
 go_loop [5] (fun i=>∃k:Nat,k≤s.size∧i=.int .i64 k∧Hid (∀x∈ s.data.toList.take k,x≠c)) (fun i=>s.size - (intOf i).toNat)
 case atStart=>exact⟨0,by omega,rfl,by intro x hx;simp at hx⟩
 case round =>
  obtain⟨k,hk,rfl,HR⟩:=hrel
  by_cases qD:k < s.size
  ·have hst:=Uk s.data.toList c k (by rw[zm];exact qD) HR.out;rw[getD_at s k qD] at hst;have ST:=hid hst;clear hst;have hi:(k:Int) < (s.size:Int):=by omega
   by_cases he:s[k]=c
   ·have hb:((s[k].toNat:Int)==(c.toNat:Int))=true:=by rw[he];simp
    have V:=hid (ST.out.1 he);clear he;go_wp2;go_ret;exact⟨qg V.out.symm,rfl⟩
   ·have hb:((s[k].toNat:Int)==(c.toNat:Int))=false:=by
     have:s[k].toNat≠c.toNat:=fun q=>he (UInt8.toNat_inj.1 q);simp;omega
    have V:=hid (ST.out.2 he);clear he;go_wp2
    go_round
    case rel=>exact⟨k+1,by omega,by go_num,V.out⟩
    case measure=>simp[intOf];omega
  ·have V:Hid (Lib.indexByte s.data.toList c = -1):=by
    have:=HR.out;rw[List.take_of_length_le (by rw[zm];omega)] at this;exact(Nam.ix_none _ _).2 this
   go_wp2;go_ret;exact⟨qg V.out.symm,rfl⟩
theorem YL(s:ByteArray)(w:World)(hs:s.size≤9223372036854775807) :
 Calls Tryz.prog 79 #[.string s] w fun e w'=>e=.returned (.bool (zv s))∧Below w.heap.size w w':=by
 have C:=YJ s 46 w hs;rcases Nam.ix_cases s.data.toList 46 with h|⟨k,h,hk⟩
 ·have A:Hid (zv s=yh s):=by
   show Nam.attr s.data.toList=Nam.declName s.data.toList
   unfold Nam.attr;rw[if_pos h]
  rw[h] at C;have HC:=hid C;clear h C;go_enter Tryz.func79,Tryz.ntmps79;go_wp2_with fail;refine HC.out.mono ?_;rintro e w' ⟨rfl,rfl⟩;go_wp2_with fail;refine(zU _ _ hs).mono ?_;rw[← A.out];rintro e w1 ⟨rfl,hb⟩;go_wp2;go_ret;exact⟨rfl,hb⟩
 ·have hk':k < s.size:=by rw[← zm];exact hk
  have x1:s.extract 0 k=⟨(s.data.toList.take k).toArray⟩:=by
   obtain⟨l,e1,e2⟩:=Kr s;rw[e2,e1,vk];rfl
  have x2:s.extract (k+1) s.size=⟨(s.data.toList.drop (k+1)).toArray⟩:=by
   rw[← zm];obtain⟨l,e1,e2⟩:=Kr s;rw[e2,e1,vk,List.take_length]
  have A:Hid (zv s=(yU (s.extract 0 k) && yU (s.extract (k+1) s.size))):=by
   rw[x1,x2]
   show Nam.attr s.data.toList=(Nam.isName (s.data.toList.take k) && Nam.isName (s.data.toList.drop (k+1)))
   unfold Nam.attr;rw[if_neg (by omega),h];rfl
  rw[h] at C;have HC:=hid C;have z1:(s.extract 0 k).size≤9223372036854775807:=(by rw[ByteArray.size_extract];omega);have z2:(s.extract (k+1) s.size).size≤9223372036854775807:=(by rw[ByteArray.size_extract];omega);have Z1:=hid z1;have Z2:=hid z2;clear h C x1 x2 z1 z2 hk;have i1:(k:Int)≤(s.size:Int):=(by omega);have i2:(k:Int)+1≤(s.size:Int):=(by omega);go_enter Tryz.func79,Tryz.ntmps79;go_wp2_with fail;refine HC.out.mono ?_;rintro e w' ⟨rfl,rfl⟩;go_wp2_with fail;refine(xv _ _ Z1.out).mono ?_;generalize yU (s.extract 0 k)=x at *;rintro e w1 ⟨rfl,rfl⟩;cases x
  ·go_wp2;go_ret;exact⟨qh A.out.symm,Below.refl _ _⟩
  ·go_wp2_with fail;refine(xv _ _ Z2.out).mono ?_;generalize yU (s.extract (k+1) s.size)=y at *;rintro e w1 ⟨rfl,rfl⟩;go_wp2;go_ret;exact⟨qh (by rw[A.out];simp),Below.refl _ _⟩
end
section
def Uu(op:Int):Int:=if 1≤op∧op≤6 then 0 else if op=7∨op=19 then 1 else if op=12∨op=13 then 2 else if op=14∨op=15 then 3 else 2
def Uz(op:Int):Int:=if 1≤op∧op≤6 then 0 else if op=7∨op=19 then 1 else if op=12∨op=13 then 200 else if op=14∨op=15 then 3 else 2
theorem Ur(op n:Int)(h:n≤200):j6 op n=(decide (Uu op≤n) && decide (n≤Uz op)):=by
 unfold j6 Uu Uz
 (repeat' split)<;>(rw[Bool.eq_iff_iff];simp only[Bool.and_eq_true,decide_eq_true_eq];omega)
theorem Ub(op:Int):0≤Uu op∧Uu op≤3∧0≤Uz op∧Uz op≤200:=by
 unfold Uu Uz;(repeat' split)<;>omega
theorem Jj(op:Int)(w:World) :
 Calls Tryz.prog 78 #[.int .i64 op] w fun e w'=>e=.returned (.tuple #[.int .i64 (Uu op),.int .i64 (Uz op)])∧w=w':=by
 go_enter Tryz.func78,Tryz.ntmps78;go_wp2
 all_goals
  go_ret2
  refine⟨JF ?_ ?_,rfl⟩
  all_goals
   go_light
   simp only[beq_iff_eq,beq_eq_false_iff_ne] at *
   first|unfold Uu|unfold Uz
   (repeat' split)<;>first|rfl|(exfalso;omega)
def vQ(op:Int):Int:=if op=1∨op=2 then 1099511627776 else if op=3 then 1439 else 0
theorem U7(op num:Int):j8 op num=(!decide (num < 0) && !decide (vQ op < num)):=by
 unfold j8 vQ
 (repeat' split)<;>(rw[Bool.eq_iff_iff];simp only[Bool.and_eq_true,decide_eq_true_eq,Bool.not_eq_true',decide_eq_false_iff_not];omega)
def Va(b o:Nat)(a:Nd)(k:Fo):Prop:=∀(w:World),ExAt w b o a k→yN a k→sz k≤200→
 Calls Tryz.prog 34 #[.agg #[.int .i64 a.op,.int .i64 a.num,.string a.name,.slice a.ptr (len k) a.cap]] w fun e w'=>e=.returned (.bool (zk a (len k) && za k))∧Below w.heap.size w w'
theorem YI(b o : Nat)(a:Nd)(k:Fo):Va b o a k:=by
 refine jf (P:=Va) ?_ b o a k;clear b o a k;intro b o a k ih w hx hok hz;obtain⟨op,num,name,ptr,cap⟩:=a
 show Calls Tryz.prog 34 #[.agg #[.int .i64 op,.int .i64 num,.string name,.slice ptr (len k) cap]] w _
 have IH:=hid ih;have HX:=hid hx;have HOK:=hid hok;have HZ:=hid hz;have hk:len k≤200:=Nat.le_trans (xy k) hz;clear ih hx hok hz;have hs:name.size≤9223372036854775807:=HOK.out.1.2.2.1;have F0:=hid (uF ⟨op,num,name,ptr,cap⟩ k (len k));have F1:=hid (uE ⟨op,num,name,ptr,cap⟩ k (len k));have F2:=hid (uD ⟨op,num,name,ptr,cap⟩ k (len k));have F3:=hid (uC ⟨op,num,name,ptr,cap⟩ k (len k));have FT:=hid (QS ⟨op,num,name,ptr,cap⟩ k (len k));dsimp only at F0 F1 F2 F3 FT;generalize (zk ⟨op,num,name,ptr,cap⟩ (len k) && za k)=RES at *;have AI:=hid (Ur op (len k) (by omega))
 by_cases h1:1≤op∧op≤22
 ·have H1 := hid h1;obtain⟨h1,h2⟩:=h1;obtain⟨l1,l2,l3,l4⟩:=Ub op;go_enter Tryz.func34,Tryz.ntmps34;go_wp2_with fail;refine(Jj _ _).mono ?_;generalize Uu op=lo at *;generalize Uz op=hi at *;rintro e w' ⟨rfl,hw⟩;subst hw
  by_cases g1:(len k:Int) < lo
  ·have R:=hid (F1.out (by rw[AI.out];simp;omega));go_wp2;go_ret;exact⟨qh R.out.symm,ba1⟩
  ·by_cases g2 : hi < (len k:Int)
   ·have R:=hid (F1.out (by rw[AI.out];simp;omega));go_wp2;go_ret;exact⟨qh R.out.symm,ba1⟩
   ·have HA : Hid (j6 op (len k)=true):=by unfold Hid;rw[AI.out];simp;omega
    clear AI
    go_upto_block 0 with (fail)
    go_cut [5] (fun v wx=>v=.int .i64 (vQ op)∧wx=w.alloc (.cells #[.int .i64 op,.int .i64 num,.string name,.slice ptr (len k) cap] 24))
    case first =>
     go_wp2
     all_goals
      go_meet
      refine⟨?_,rfl⟩
      go_light
      simp only[beq_iff_eq,beq_eq_false_iff_ne] at *;unfold vQ
      (repeat' split)<;>first|rfl|(exfalso;omega)
    case rest =>
     obtain⟨rfl,rfl⟩:=hcut;have NI:=hid (U7 op num);generalize vQ op=most at *;go_upto_region 13 with (fail)
     go_cut [69] (fun v wx=>v=.bool (!(j8 op num && zQ op name))∧Hid (Below (w.heap.size+1) (w.alloc (.cells #[.int .i64 op,.int .i64 num,.string name,.slice ptr (len k) cap] 24)) wx))
     case first =>
      by_cases n1:num < 0
      ·have R:Hid (j8 op num=false):=by unfold Hid;rw[NI.out];simp[n1]
       go_wp2
       go_meet
       exact⟨by rw[R.out];rfl,Below.refl _ _⟩
      ·by_cases n2:most < num
       ·have R:Hid (j8 op num=false):=by unfold Hid;rw[NI.out];simp[n2]
        go_wp2
        go_meet
        exact⟨by rw[R.out];rfl,Below.refl _ _⟩
       ·have N:Hid (j8 op num=true):=by unfold Hid;rw[NI.out];simp[n1,n2]
        by_cases h6:op=6
        ·have b6:(op==6)=true:=by simp[h6]
         have d6:(op != 6)=false:=(by simp[h6]);have A:Hid (zQ op name=zv name):=(by unfold Hid zQ;rw[if_pos h6]);clear h6;cases hT:zv name
         all_goals
          have HT:=hid hT;clear hT;go_wp2_with fail;refine(YL _ _ hs).mono ?_;rw[HT.out];rintro e w1 ⟨rfl,hb⟩;have c0:w1.cell? ⟨w.heap.size,0,none⟩=some (.int .i64 op):=(by rw[hb.cell (p:=⟨w.heap.size,0,none⟩) (by simp)];simp);have B1:=hid hb;clear hb;go_wp2
          go_meet
          exact⟨by rw[N.out,A.out,HT.out];rfl,B1.out.mono (by simp)⟩
        ·have b6:(op==6)=false:=by simp[h6]
         have d6:(op != 6)=true:=(by simp[h6]);have A:Hid (zQ op name=decide (name.size=0)):=(by unfold Hid zQ;rw[if_neg h6]);have E:=uQ name;rw[← E] at A;clear h6 E;cases e1:name.toList.isEmpty
         ·have E1:=hid e1;have e2:(!name.toList.isEmpty)=true:=(by rw[e1];rfl);go_wp2
          go_meet
          exact⟨by rw[N.out,A.out,E1.out];rfl,Below.refl _ _⟩
         ·have E1:=hid e1;have e2:(!name.toList.isEmpty)=false:=(by rw[e1];rfl);go_wp2
          go_meet
          exact⟨by rw[N.out,A.out,E1.out];rfl,Below.refl _ _⟩
     case rest =>
      obtain⟨rfl,HB⟩:=hcut;have BW:Hid (Below w.heap.size w wc):=ba1.trans (HB.out.mono (by omega));cases hg:(j8 op num && zQ op name)
      ·have R:Hid (RES=false):=by
        cases q:j8 op num
        ·exact F2.out q
        ·rw[q] at hg;exact F3.out hg
       clear hg;go_wp2;go_ret;exact⟨qh R.out.symm,BW.out⟩
      ·rw [Bool.and_eq_true] at hg;have R:=hid (FT.out H1.out HA.out hg.1 hg.2);clear hg
       have hc3:wc.cell? ⟨w.heap.size,3,none⟩=some (.slice ptr (len k) cap):=by
        rw[HB.out.cell (p:=⟨w.heap.size,3,none⟩) (by simp)];simp
       have ym:w.heap.size < wc.heap.size:=(by have:=HB.out.size;simp at this;omega);have XW:=hid (HX.out.next BW.out);clear F0 F1 F2 F3 FT HA H1 h1 h2 HB NI;rw[show(!true)=false from rfl];go_wp2_with fail
       go_loopw [6] (fun i wr=>∃(j:Nat) (r:Fo),i=.int .i64 j∧wr.cell? ⟨w.heap.size,3,none⟩=some (.slice ptr (len k) cap)∧w.heap.size < wr.heap.size∧
        Hid (j+len r=len k∧FoAt wr r b (o+j * 4)∧je r∧xo Va r∧Below w.heap.size w wr∧RES=za r∧sz r≤200)) (fun i _=>len k - (intOf i).toNat)
       case atStart =>
        exact⟨0,k,rfl,hc3,ym,by omega,by rw[Nat.zero_mul,Nat.add_zero];exact XW.out.2,HOK.out.2,IH.out,BW.out,R.out,HZ.out⟩
       case round =>
        clear hc3 ym;obtain⟨j,r,rfl,hc,ym,HR⟩:=hrel;cases r with
        | nil =>
          have hj:¬(j:Int) < (len k:Int):=(by have:=HR.out.1;simp[len] at this;omega);go_wp2;go_ret;exact⟨qh (by rw[HR.out.2.2.2.2.2.1];rfl),HR.out.2.2.2.2.1⟩
        | node b1 o1 a1 k1 r1 =>
          have hj:j < len k:=(by have:=HR.out.1;simp[len] at this;omega);obtain rfl:ptr=some ⟨b,o,none⟩:=HX.out.1 (by rintro rfl;simp[len] at hj);obtain⟨⟨c0,c1,c2,c3⟩,hp1,hk1,hr1⟩:=HR.out.2.1;have X1:Hid (ExAt wr b1 o1 a1 k1):=⟨hp1,hk1⟩;have N1:=hid hr1;clear hp1 hk1 hr1;have hj1:(j:Int) < (len k:Int):=by omega
          have ZZ:Hid (sz k1≤200∧sz r1≤200):=by
           have e1:sz (BT.node b1 o1 a1 k1 r1)=1+sz k1+sz r1:=rfl;have:=HR.out.2.2.2.2.2.2;rw[e1] at this;exact⟨by omega,by omega⟩
          go_wp2_with fail;refine(HR.out.2.2.2.1.1 _ X1.out ⟨HR.out.2.2.1.1,HR.out.2.2.1.2.1⟩ ZZ.out.1).mono ?_;rintro e w1 ⟨he,hb⟩
          have hc':w1.cell? ⟨w.heap.size,3,none⟩=some (.slice (some ⟨b,o,none⟩) (len k) cap):=by
           rw[hb.cell (p:=⟨w.heap.size,3,none⟩) ym,hc]
          have hz':w.heap.size < w1.heap.size:=Nat.lt_of_lt_of_le ym hb.size;have B1:=hid hb;have Z:Hid (RES=((zk a1 (len k1) && za k1) && za r1)):=HR.out.2.2.2.2.2.1;clear hb c0 c1 c2 c3 hc ym;generalize (zk a1 (len k1) && za k1)=y at *;subst he;cases y
          ·go_wp2;go_ret;exact⟨qh (by rw[Z.out];rfl),HR.out.2.2.2.2.1.trans (B1.out.mono HR.out.2.2.2.2.1.size)⟩
          ·go_wp2
           go_roundw
           case rel =>
            obtain⟨q1,-,q3,q4,q5,-,-⟩:=HR.out;simp[len] at q1;refine⟨j+1,r1,by go_num,hc',hz',by omega,?_,q3.2.2,q4.2,q5.trans (B1.out.mono q5.size),by rw[Z.out];rfl,ZZ.out.2⟩;rw[Nat.add_mul,Nat.one_mul,← Nat.add_assoc];exact N1.out.next B1.out
           case measure=>simp[intOf];omega
 ·have R:=hid (F0.out h1);have h2:op < 1∨22 < op:=(by omega);rcases h2 with h2|h2
  ·go_enter Tryz.func34,Tryz.ntmps34;go_wp2;go_ret;exact⟨qh R.out.symm,ba1⟩
  ·have h3:¬op < 1:=by omega
   clear h1;go_enter Tryz.func34,Tryz.ntmps34;go_wp2;go_ret;exact⟨qh R.out.symm,ba1⟩
theorem YM(b o:Nat)(op num:Int)(name:ByteArray)(ptr:Option Addr)(cap:Nat)(k:Fo)(w:World)(hx:ExAt w b o ⟨op,num,name,ptr,cap⟩ k)(hok:yN ⟨op,num,name,ptr,cap⟩ k) :
 Calls Tryz.prog 33 #[.agg #[.int .i64 op,.int .i64 num,.string name,.slice ptr (len k) cap]] w (Yq w 1 k):=by
 have B0:Below w.heap.size w (w.alloc (.cells #[.int .i64 op,.int .i64 num,.string name,.slice ptr (len k) cap] 24)):=ba1;have C:=KW b o ⟨op,num,name,ptr,cap⟩ k _ 1 (hx.next B0) hok (by omega) (by omega);have HC:=hid C;have HB:=hid B0;clear C B0 hx hok;go_enter Tryz.func33,Tryz.ntmps33;go_wp2_with fail;refine HC.out.mono ?_;rintro e w1 ⟨n,d,rfl,n2,n3,n4,n5,n6,n7,hb⟩;have K:=hid (And.intro n6 n7);have B1:=hid (HB.out.trans (hb.mono (by simp)));clear n6 n7 hb;go_wp2
 go_ret2
 exact⟨n,d,rfl,n2,n3,n4,n5,K.out.1,K.out.2,B1.out⟩
theorem jK(b o:Nat)(op num:Int)(name:ByteArray)(ptr:Option Addr)(cap:Nat)(k:Fo)(w:World)(hx:ExAt w b o ⟨op,num,name,ptr,cap⟩ k)(hok:yN ⟨op,num,name,ptr,cap⟩ k) :
 Calls Tryz.prog 13 #[.agg #[.int .i64 op,.int .i64 num,.string name,.slice ptr (len k) cap]] w fun e w'=>e=.returned (.int .i64 (qQ ⟨op,num,name,ptr,cap⟩ k))∧Below w.heap.size w w':=by
 have B0:Below w.heap.size w (w.alloc (.cells #[.int .i64 op,.int .i64 num,.string name,.slice ptr (len k) cap] 24)):=ba1;have C:=YM b o op num name ptr cap k _ (hx.next B0) hok;have HC:=hid C;have HB:=hid B0;have HX:=hid hx;have HOK:=hid hok;clear C B0 hx hok;have V:Hid (qQ ⟨op,num,name,ptr,cap⟩ k=if fitB 0 1 k=true then (if (zk ⟨op,num,name,ptr,cap⟩ (len k) && za k)=true then 0 else 1) else 10):=rfl;go_enter Tryz.func13,Tryz.ntmps13;go_wp2_with fail;refine HC.out.mono ?_;rintro e w1 ⟨n,d,rfl,n2,n3,n4,n5,n6,n7,hb⟩
 have F:Hid (fitB 0 1 k=decide (n≤200∧d≤16)):=by
  unfold Hid fitB;rw[Bool.eq_iff_iff,decide_eq_true_eq,decide_eq_true_eq];omega
 have Z:Hid (fitB 0 1 k=true→sz k≤200):=by
  intro q;unfold fitB at q;rw[decide_eq_true_eq] at q;omega
 have B1:Below w.heap.size w w1:=HB.out.trans (hb.mono (by simp))
 have hc:∀j v,(#[Value.int .i64 op,.int .i64 num,.string name,.slice ptr (len k) cap]:Array Value)[j]?=some v→w1.cell? ⟨w.heap.size,j,none⟩=some v:=by
  intro j v hv;rw[hb.cell (p:=⟨w.heap.size,j,none⟩) (by simp)];simp[hv]
 have c0:=hc 0 _ rfl;have c1:=hc 1 _ rfl;have c2:=hc 2 _ rfl;have c3:=hc 3 _ rfl;clear n6 n7 hb hc HC
 by_cases h1:200 < n
 ·have HF:Hid (fitB 0 1 k=false):=by unfold Hid;rw[F.out];simp;omega
  go_wp2;go_ret;exact⟨qg (by rw[V.out,HF.out];rfl),B1⟩
 ·by_cases h2:16 < d
  ·have HF:Hid (fitB 0 1 k=false):=by unfold Hid;rw[F.out];simp;omega
   go_wp2;go_ret;exact⟨qg (by rw[V.out,HF.out];rfl),B1⟩
  ·have HF:Hid (fitB 0 1 k=true):=by unfold Hid;rw[F.out];simp;omega
   have C2:=YI b o ⟨op,num,name,ptr,cap⟩ k w1 (HX.out.next B1) HOK.out (Z.out HF.out);have HW:=hid C2;clear C2 Z F;generalize (zk ⟨op,num,name,ptr,cap⟩ (len k) && za k)=y at *;go_wp2_with fail;refine HW.out.mono ?_;rintro e w2 ⟨rfl,hb⟩;have B2:=B1.trans (hb.mono B1.size);clear hb c0 c1 c2 c3;cases y
   ·go_wp2;go_ret;exact⟨qg (by rw[V.out,HF.out];rfl),B2⟩
   ·go_wp2;go_ret;exact⟨qg (by rw[V.out,HF.out];rfl),B2⟩
end
end Go.Proofs.YtcejjdmnlejbaaaGreatDoor
