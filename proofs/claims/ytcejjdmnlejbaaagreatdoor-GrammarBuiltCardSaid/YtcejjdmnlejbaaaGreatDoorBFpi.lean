import Derived.Test.YtcejjdmnlejbaaaGreatDoorBFpf
import Derived.Test.YtcejjdmnlejbaaaGreatDoorBPzX
namespace Go.Proofs.YtcejjdmnlejbaaaGreatDoor
set_option linter.unusedVariables false
set_option linter.unusedSimpArgs false
open Go.Deep (BT)
namespace Fp
open Pz
def tB (l:List P):ByteArray:=⟨(bts l).toArray⟩
theorem tB_list (l:List P):(tB l).data.toList=bts l:=rfl
theorem ba_eq {a b:ByteArray} (h:a.data.toList=b.data.toList):a=b:=by
 apply ByteArray.ext
 exact Array.toList_inj.1 h
theorem tB_app (l m:List P):tB (l++m)=tB l++tB m:=by
 apply ba_eq
 rw [app_list,tB_list,tB_list,tB_list]
 unfold bts
 rw [List.flatMap_append]
theorem tB_cons (p:P) (l:List P):tB (p :: l)=tB [p]++tB l:=tB_app [p] l
def fmT (c:Ch):ByteArray × Int:=if valE c.a c.k≠0 then (⟨#[]⟩,valE c.a c.k) else if 400 < (F c).length then (⟨#[]⟩,10) else (tB (F c),0)
theorem valE_cases (a:Nd) (k:Fo):valE a k=0∨valE a k=1∨valE a k=10:=by
 unfold valE
 split
 · split
   · exact .inl rfl
   · exact .inr (.inl rfl)
 · exact .inr (.inr rfl)
theorem valE_wf {a:Nd} {k:Fo} (h:valE a k=0):(wfB a (len k) && wfT k)=true:=by
 unfold valE at h
 split at h
 · split at h
   · assumption
   · cases h
 · cases h
theorem scan_F (c:Ch) (h:valE c.a c.k=0):((F c).length≤400→∃ E:List Tk.T4,E.map (fun t=>t.t)=(F c).map (fun p=>p.2)∧Tk.scanT (tB (F c))=(E,0,0))∧(400 < (F c).length→∃ j,Tk.scanT (tB (F c))=([],j,10)):=by
 obtain ⟨h1,h2⟩:=nice_of c (valE_wf h)
 exact scan_text (tB (F c)) (F c) h1 h2 (tB_list _)
theorem px_back (c:Ch) (h:valE c.a c.k=0) (hl:(F c).length≤400):pxT (tB (F c))=(nr c,0,0):=by
 obtain ⟨E,e1,e2⟩:=(scan_F c h).1 hl
 have hp:=read_back c (valE_wf h) E e1
 unfold pxT
 rw [e2]
 dsimp only
 rw [if_neg (by simp),hp]
 dsimp only
 rw [if_neg (Nat.lt_irrefl _),val_nr,h,if_pos rfl]
def PF (c:Ch):List P:=(false,sg wOpen) :: (F c++[(false,sg wShut)])
theorem px_paren (c:Ch) (h:valE c.a c.k=0) (hl:(F c).length+2≤400):pxT (tB (PF c))=(nr c,0,0):=by
 obtain ⟨n1,n2⟩:=nice_of c (valE_wf h)
 have nv:VL (PF c):=vl_cons (vt_sg (by decide) (by decide)) (vl_app n1 (vl_cons (vt_sg (by decide) (by decide)) vl_nil))
 have no:okL (PF c):=okL_cons (okL_app n2 trivial fun q hq=>by cases hq;exact .inr (.inl rfl)) fun q _=>.inr (.inr (.inl rfl))
 have pl:(PF c).length=(F c).length+2:=by unfold PF;simp
 obtain ⟨E,e1,e2⟩:=(scan_text (tB (PF c)) (PF c) nv no (tB_list _)).1 (by omega)
 have hE:E.length=(F c).length+2:=by have:=congrArg List.length e1;simp at this;omega
 have hp:pv E .ex 0=(some (nr c),E.length):=by
  have hw:=valE_wf h
  rw [Bool.and_eq_true] at hw
  have g:=good_node c hw.1 (good_all c.k hw.2)
  have hs:Seg E 0 (PF c):=fun k p hp=>by
   have q:=congrArg (fun l=>l[k]?) e1
   simp only [List.getElem?_map,hp,Option.map_some] at q
   rw [Nat.zero_add]
   cases hu:E[k]? with
   | none=>rw [hu] at q;cases q
   | some u=>rw [hu] at q;exact ⟨u,rfl,Option.some.inj q⟩
  obtain ⟨h1,h2⟩:=seg_cons hs
  obtain ⟨h3,h4⟩:=seg_app h2
  obtain ⟨h5,-⟩:=seg_cons h4
  have b:=(g E (0+1) (by omega)).2 h3 (stp_shut h5)
  have r:=ex_fc (fc_paren h1 b h5) (fst_not h1 (by decide)) (stp_end (by omega))
  have:=r.2.2
  rw [show 0+1+(F c).length+1=E.length by omega] at this
  exact this
 unfold pxT
 rw [e2]
 dsimp only
 rw [if_neg (by simp),hp]
 dsimp only
 rw [if_neg (Nat.lt_irrefl _),val_nr,h,if_pos rfl]
end Fp
end Go.Proofs.YtcejjdmnlejbaaaGreatDoor
namespace Go.Proofs.YtcejjdmnlejbaaaGreatDoor
set_option linter.unusedVariables false
set_option linter.unusedSimpArgs false
open Go.Deep (BT)
namespace Fp
open Pz
def Fst (l:List P):Prop:=∃ t m,l=(false,t) :: m
theorem fst_app {l m:List P} (h:Fst l):Fst (l++m):=by
 obtain ⟨t,k,rfl⟩:=h
 exact ⟨t,k++m,rfl⟩
theorem fst_I {c:Ch} (h:Fst (F c)):Fst (I c):=by
 unfold I tI
 by_cases q:len c.k=0∨c.a.op=12∨c.a.op=13
 · rw [if_pos q];exact h
 · rw [if_neg q];exact ⟨_,_,rfl⟩
theorem fst_node (c:Ch) (hw:wfB c.a (len c.k)=true) (hg:∀ x ∈ kl c.k,Fst (F x)):Fst (F c):=by
 unfold wfB at hw
 rw [Bool.and_eq_true,Bool.and_eq_true,Bool.and_eq_true,decide_eq_true_eq] at hw
 obtain ⟨⟨⟨⟨o1,o2⟩,ha⟩,hn⟩,hm⟩:=hw
 have hkl:=kl_len c.k
 unfold argB at ha
 have hop:c.a.op=1∨c.a.op=2∨c.a.op=3∨c.a.op=4∨c.a.op=5∨c.a.op=6∨c.a.op=7∨c.a.op=19∨c.a.op=12∨c.a.op=13∨c.a.op=14∨c.a.op=15 ∨
  (c.a.op=8∨c.a.op=9∨c.a.op=10∨c.a.op=11∨c.a.op=16∨c.a.op=17∨c.a.op=18∨c.a.op=20∨c.a.op=21∨c.a.op=22):=by omega
 rcases hop with h|h|h|h|h|h|h|h|h|h|h|h|h
 · rw [tF_eq c 1 h];exact ⟨_,_,rfl⟩
 · rw [tF_eq c 2 h];exact ⟨_,_,rfl⟩
 · rw [tF_eq c 3 h];exact ⟨_,_,rfl⟩
 · rw [tF_eq c 4 h];exact ⟨_,_,rfl⟩
 · rw [tF_eq c 5 h];exact ⟨_,_,rfl⟩
 · rw [tF_eq c 6 h];exact ⟨_,_,rfl⟩
 · rw [tF_eq c 7 h];exact ⟨_,_,rfl⟩
 · rw [tF_eq c 19 h];exact ⟨_,_,rfl⟩
 · rw [tF_eq c 12 h];exact ⟨_,_,rfl⟩
 · rw [tF_eq c 13 h];exact ⟨_,_,rfl⟩
 · rw [tF_eq c 14 h];exact ⟨_,_,rfl⟩
 · rw [h] at ha
   have k3:len c.k=3:=by have:=of_decide_eq_true ha;omega
   obtain ⟨x,y,z,hx⟩:=len_three (hkl.trans k3)
   rw [tF_eq c 15 h,tK_three hx]
   exact fst_app (fst_I (hg x (by rw [hx];simp)))
 · rw [if_neg (by omega),if_neg (by omega),if_neg (by omega),if_neg (by omega)] at ha
   have k2:len c.k=2:=by have:=of_decide_eq_true ha;omega
   obtain ⟨x,y,hx⟩:=len_two (hkl.trans k2)
   have e:F c=I x++(true,opW c.a.op) :: bl (I y):=by
    unfold F tF
    rw [tK_two hx]
    rw [if_neg (by omega),if_neg (by omega),if_neg (by omega),if_neg (by omega),if_neg (by omega),if_neg (by omega),if_neg (by omega),if_neg (by omega),if_neg (by omega),if_neg (by omega),if_neg (by omega),if_neg (by omega)]
    rfl
   rw [e]
   exact fst_app (fst_I (hg x (by rw [hx];simp)))
theorem fst_all (k:Fo):wfT k=true→∀ c ∈ kl k,Fst (F c):=by
 induction k with
 | nil=>intro _ c hc;cases hc
 | node b o a k r ihk ihr =>
   intro hw c hc
   unfold wfT at hw
   rw [Bool.and_eq_true,Bool.and_eq_true] at hw
   rcases List.mem_cons.1 hc with rfl|hc
   · exact fst_node _ hw.1.1 (ihk hw.1.2)
   · exact ihr hw.2 c hc
theorem tB_sg (b:Bool) (w:ByteArray):tB [(b,sg w)]=if b=true then ⟨#[32]⟩++w else w:=by
 cases b with
 | false =>
   apply ba_eq
   show bts [(false,sg w)]=w.data.toList
   unfold bts
   simp [pb,tb,tx,sg,txtR]
 | true =>
   apply ba_eq
   rw [if_pos rfl,app_list]
   show bts [(true,sg w)]=_
   unfold bts
   simp [pb,tb,tx,sg,txtR]
theorem fst_jnC (c:Ch) (l:List Ch) (h:Fst (F c)):Fst (jnC ((c :: l).map fun c=>(F c,I c))):=by
 cases l with
 | nil=>exact h
 | cons d l=>exact fst_app h
theorem jnC_snoc (l:List Ch) (x:Ch) (hF:∀ c ∈ l,Fst (F c)) (h:l≠[]):jnC ((l++[x]).map fun c=>(F c,I c))=jnC (l.map fun c=>(F c,I c))++(false,sg wComma) :: bl (F x):=by
 induction l with
 | nil=>exact absurd rfl h
 | cons c l ih =>
   cases l with
   | nil=>rfl
   | cons d l =>
     have q:=ih (fun c hc=>hF c (List.mem_cons_of_mem _ hc)) (by simp)
     show F c++(false,sg wComma) :: bl (jnC (((d :: l)++[x]).map fun c=>(F c,I c)))=_
     rw [q]
     show _=(F c++(false,sg wComma) :: bl (jnC ((d :: l).map fun c=>(F c,I c))))++_
     obtain ⟨t,m,e⟩:=fst_jnC d l (hF d (by simp))
     rw [e,List.append_assoc,List.cons_append]
     rfl
end Fp
end Go.Proofs.YtcejjdmnlejbaaaGreatDoor
namespace Go.Proofs.YtcejjdmnlejbaaaGreatDoor
set_option linter.unusedVariables false
set_option linter.unusedSimpArgs false
open Go.Deep (BT)
namespace Fp
open Pz
theorem bts_nil:bts []=[]:=rfl
theorem bts_cons (p:P) (l:List P):bts (p :: l)=pb p++bts l:=by unfold bts;rw [List.flatMap_cons]
theorem bts_app (l m:List P):bts (l++m)=bts l++bts m:=by unfold bts;rw [List.flatMap_append]
theorem bts_bl {l:List P} (h:Fst l):bts (bl l)=32 :: bts l:=by
 obtain ⟨t,m,rfl⟩:=h
 rfl
theorem tb_txt {t:Tk.T3} (h:t.kind=1∨t.kind=5):tb t=t.text.data.toList:=by
 unfold tb tx txtR
 rw [if_pos h]
theorem pb_f {t:Tk.T3} (h:t.kind=1∨t.kind=5):pb (false,t)=t.text.data.toList:=tb_txt h
theorem pb_t {t:Tk.T3} (h:t.kind=1∨t.kind=5):pb (true,t)=32 :: t.text.data.toList:=by
 show 32 :: tb t=_
 rw [tb_txt h]
theorem opW_kind (op:Int):(opW op).kind=1∨(opW op).kind=5:=by
 unfold opW
 repeat' split
 all_goals first|exact .inr rfl|exact .inl rfl
def tF' (c:Ch):List UInt8:=bts (F c)
def tI' (c:Ch):List UInt8:=bts (I c)
theorem tI_paren (c:Ch) (h:¬ (len c.k=0∨c.a.op=12∨c.a.op=13)):tI' c=40 :: (tF' c++[41]):=by
 unfold tI' I tI
 rw [if_neg h,bts_cons,bts_app]
 rfl
theorem b1 (c:Ch) (h:c.a.op=1):tF' c=tb ⟨2,⟨#[]⟩,c.a.num⟩:=by unfold tF';rw [tF_eq c 1 h];show bts [_]=_;rw [bts_cons,bts_nil,List.append_nil];rfl
theorem b2 (c:Ch) (h:c.a.op=2):tF' c=tb ⟨3,⟨#[]⟩,c.a.num⟩:=by unfold tF';rw [tF_eq c 2 h];show bts [_]=_;rw [bts_cons,bts_nil,List.append_nil];rfl
theorem b3 (c:Ch) (h:c.a.op=3):tF' c=tb ⟨4,⟨#[]⟩,c.a.num⟩:=by unfold tF';rw [tF_eq c 3 h];show bts [_]=_;rw [bts_cons,bts_nil,List.append_nil];rfl
theorem b4 (c:Ch) (h:c.a.op=4):tF' c=[116,114,117,101]:=by unfold tF';rw [tF_eq c 4 h];rfl
theorem b5 (c:Ch) (h:c.a.op=5):tF' c=[102,97,108,115,101]:=by unfold tF';rw [tF_eq c 5 h];rfl
theorem b6 (c:Ch) (h:c.a.op=6):tF' c=c.a.name.data.toList:=by
 unfold tF';rw [tF_eq c 6 h];show bts [(false,wd c.a.name)]=_;rw [bts_cons,bts_nil,List.append_nil,pb_f (.inl rfl)];rfl
theorem b7 (c x:Ch) (h:c.a.op=7) (hk:kl c.k=[x]):tF' c=45 :: tI' x:=by
 unfold tF';rw [tF_eq c 7 h,tK_one hk]
 show bts ((false,sg wMinus) :: I x)=_
 rw [bts_cons];rfl
theorem b19 (c x:Ch) (h:c.a.op=19) (hk:kl c.k=[x]) (hx:Fst (F x)):tF' c=[110,111,116,32]++tI' x:=by
 unfold tF';rw [tF_eq c 19 h,tK_one hk]
 show bts ((false,wd wNot) :: bl (I x))=_
 rw [bts_cons,bts_bl (fst_I hx)];rfl
def tJ' (l:List Ch):List UInt8:=bts (jnC (l.map fun c=>(F c,I c)))
theorem b12 (c:Ch) (h:c.a.op=12):tF' c=[109,105,110,40]++(tJ' (kl c.k)++[41]):=by
 unfold tF';rw [tF_eq c 12 h,tK_kl]
 show bts ((false,wd wMin) :: (false,sg wOpen) :: (jnC _++[(false,sg wShut)]))=_
 rw [bts_cons,bts_cons,bts_app];rfl
theorem b13 (c:Ch) (h:c.a.op=13):tF' c=[109,97,120,40]++(tJ' (kl c.k)++[41]):=by
 unfold tF';rw [tF_eq c 13 h,tK_kl]
 show bts ((false,wd wMax) :: (false,sg wOpen) :: (jnC _++[(false,sg wShut)]))=_
 rw [bts_cons,bts_cons,bts_app];rfl
theorem tJ_snoc (l:List Ch) (x:Ch) (hF:∀ c ∈ l,Fst (F c)) (hx:Fst (F x)) (h:l≠[]):tJ' (l++[x])=tJ' l++([44,32]++tF' x):=by
 unfold tJ'
 rw [jnC_snoc l x hF h,bts_app,bts_cons,bts_bl hx];rfl
theorem b14 (c x y z:Ch) (h:c.a.op=14) (hk:kl c.k=[x,y,z]) (hx:Fst (F x)) (hy:Fst (F y)) (hz:Fst (F z)) :
 tF' c=[105,102,32]++(tF' x++([32,116,104,101,110,32]++(tF' y++([32,101,108,115,101,32]++tF' z)))):=by
 unfold tF';rw [tF_eq c 14 h,tK_three hk]
 show bts ((false,wd wIf) :: (bl (F x)++(true,wd wThen) :: (bl (F y)++(true,wd wElse) :: bl (F z))))=_
 rw [bts_cons,bts_app,bts_bl hx,bts_cons,bts_app,bts_bl hy,bts_cons,bts_bl hz];rfl
theorem b15 (c x y z:Ch) (h:c.a.op=15) (hk:kl c.k=[x,y,z]) (hy:Fst (F y)) (hz:Fst (F z)) :
 tF' c=tI' x++([32,105,110,32]++(tI' y++([32,116,111,32]++tI' z))):=by
 unfold tF';rw [tF_eq c 15 h,tK_three hk]
 show bts (I x++(true,wd wIn) :: (bl (I y)++(true,wd wTo) :: bl (I z)))=_
 rw [bts_app,bts_cons,bts_app,bts_bl (fst_I hy),bts_cons,bts_bl (fst_I hz)];rfl
theorem bbin (c x y:Ch) (h:c.a.op=8∨c.a.op=9∨c.a.op=10∨c.a.op=11∨c.a.op=16∨c.a.op=17∨c.a.op=18∨c.a.op=20∨c.a.op=21∨c.a.op=22) (hk:kl c.k=[x,y]) (hy:Fst (F y)) :
 tF' c=tI' x++(32 :: ((opW c.a.op).text.data.toList++(32 :: tI' y))):=by
 have e:F c=I x++(true,opW c.a.op) :: bl (I y):=by
  unfold F tF
  rw [tK_two hk]
  rw [if_neg (by omega),if_neg (by omega),if_neg (by omega),if_neg (by omega),if_neg (by omega),if_neg (by omega),if_neg (by omega),if_neg (by omega),if_neg (by omega),if_neg (by omega),if_neg (by omega),if_neg (by omega)]
  rfl
 unfold tF'
 rw [e,bts_app,bts_cons,bts_bl (fst_I hy),pb_t (opW_kind _)];rfl
end Fp
end Go.Proofs.YtcejjdmnlejbaaaGreatDoor
