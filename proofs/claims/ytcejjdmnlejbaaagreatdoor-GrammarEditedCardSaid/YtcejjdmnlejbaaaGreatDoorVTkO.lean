import Derived.Test.YtcejjdmnlejbaaaGreatDoorVPzT
namespace Go.Proofs.YtcejjdmnlejbaaaGreatDoor
open Option.some(inj)
open Lib(hid)
set_option linter.unusedVariables false
set_option linter.unusedSimpArgs false
open Go.ChangeShapes Go.WideShapes Go.ChangeAt Go.RowKit
open Go.Deep (BT)
set_option maxHeartbeats 2000000
theorem kw{t:Tk.T3}(h:VT t):(t.kind=1∧t.text.size≤33∧t.num=0)∨(t.kind=2∧t.text=⟨#[]⟩∧0≤t.num∧t.num≤1099511627776)∨(t.kind=3∧t.text=⟨#[]⟩∧0≤t.num∧t.num≤1099511627776)∨(t.kind=4∧t.text=⟨#[]⟩∧0≤t.num∧t.num≤1439)∨(t.kind=5∧t.num=0):=by
 rcases h with ⟨h1,h2,h3,h4⟩|⟨h1,h2⟩|h|⟨h1,h2,h3,h4⟩
 ·refine .inl ⟨h1,?_,h4⟩;unfold Tk.word at h3
  split at h3
  ·split at h3
   ·cases h3
   ·rename_i q;omega
  ·split at h3
   ·split at h3
    ·have:=congrArg (fun o=>o.map (fun t:Tk.T3=>t.kind)) h3;simp at this
    ·cases h3
   ·split at h3
    ·split at h3
     ·have:=congrArg (fun o=>o.map (fun t:Tk.T3=>t.kind)) h3;simp at this
     ·cases h3
    ·split at h3
     ·have:=congrArg (fun o=>o.map (fun t:Tk.T3=>t.kind)) h3;simp at this
     ·cases h3
 ·rcases h1 with h1|h1
  ·exact .inr (.inl ⟨h1,h2⟩)
  ·exact .inr (.inr (.inl ⟨h1,h2⟩))
 ·exact .inr (.inr (.inr (.inl h)))
 ·exact .inr (.inr (.inr (.inr ⟨h1,h4⟩)))
namespace Pz
theorem len_nrm(T:Fo):len (nrm T)=len T:=by
 induction T with
 | nil=>rfl
 | node b o a k r ihk ihr=>simp only[nrm,len,ihr]
theorem sz_nrm(T:Fo):sz (nrm T)=sz T:=by
 induction T with
 | nil=>rfl
 | node b o a k r ihk ihr=>simp only[nrm,sz,ihr,ihk]
theorem dp_nrm(T:Fo):dp (nrm T)=dp T:=by
 induction T with
 | nil=>rfl
 | node b o a k r ihk ihr=>simp only[nrm,dp,ihr,ihk]
theorem wfT_nrm(T:Fo):jO (nrm T)=jO T:=by
 induction T with
 | nil=>rfl
 | node b o a k r ihk ihr=>simp only[nrm,jO,ihr,ihk,len_nrm];rfl
theorem ok_nrm(T:Fo):jV (nrm T)↔jV T:=by
 induction T with
 | nil=>exact Iff.rfl
 | node b o a k r ihk ihr=>simp only[nrm,jV,ihr,ihk,len_nrm];exact Iff.rfl
structure Gd (c:Ch):Prop where
 ok:yS c.a c.k
 wf:(jN c.a (len c.k) && jO c.k)=true
theorem val_nr(c:Ch):yF (nr c).a (nr c).k=yF c.a c.k:=by
 unfold yF nr fitB;dsimp only;rw[sz_nrm,dp_nrm,wfT_nrm,len_nrm];rfl
theorem Gd.of_nr{c x:Ch}(h:Gd x)(e:nr c=x):Gd c:=by
 subst e;refine⟨?_,?_⟩
 ·have:=h.ok;unfold nr yS UA at this;dsimp only at this;rw[len_nrm,ok_nrm] at this;exact this
 ·have:=h.wf;unfold nr at this;dsimp only at this;rw[len_nrm,wfT_nrm] at this;exact this
theorem Gd.val{c:Ch}(h:Gd c):yF c.a c.k=if fitB 0 1 c.k=true then 0 else 10:=by
 unfold yF;rw[if_pos h.wf]
theorem gd_lf(op num:Int)(s:ByteArray)(h:jN ⟨op,num,s,none,0⟩ 0=true)(hb:0≤num∧num≤1099511627776)(hop:1≤op∧op≤22)(hs:s.size≤33):Gd (lf op num s):=by
 refine⟨⟨⟨by dsimp only[lf];omega,by dsimp only[lf];omega,by dsimp only[lf];omega,by simp[lf,len]⟩,trivial⟩,?_⟩
 show(jN ⟨op,num,s,none,0⟩ 0 && true)=true
 rw[h];rfl
theorem gd_leaf{t:Tk.T3}(ht:VT t){x:Ch}(h:leafT t=some x):Gd x:=by
 unfold leafT at h;rcases kw ht with ⟨h1,h2,h3⟩|⟨h1,h2,h3,h4⟩|⟨h1,h2,h3,h4⟩|⟨h1,h2,h3,h4⟩|⟨h1,h2⟩
 ·rw [if_neg (by omega),if_neg (by omega),if_neg (by omega),if_pos h1] at h
  split at h
  ·rename_i ha
   obtain rfl:=inj h;refine gd_lf 6 0 _ ?_ (by omega) (by omega) h2;unfold jN jM jy jh;simp[ha]
  ·cases h
 ·rw [if_pos h1] at h;obtain rfl:=inj h;refine gd_lf 1 _ _ ?_ (by omega) (by omega) (by show(0:Nat)≤33;omega);unfold jN jM jy jh;have e:(⟨#[]⟩:ByteArray).size=0:=rfl;simp[h3,h4,e]
 ·rw [if_neg (by omega),if_pos h1] at h;obtain rfl:=inj h;refine gd_lf 2 _ _ ?_ (by omega) (by omega) (by show(0:Nat)≤33;omega);unfold jN jM jy jh;have e:(⟨#[]⟩:ByteArray).size=0:=rfl;simp[h3,h4,e]
 ·rw [if_neg (by omega),if_neg (by omega),if_pos h1] at h;obtain rfl:=inj h;refine gd_lf 3 _ _ ?_ (by omega) (by omega) (by show(0:Nat)≤33;omega);unfold jN jM jy jh;have e:(⟨#[]⟩:ByteArray).size=0:=rfl;simp[h3,h4,e]
 ·rw [if_neg (by omega),if_neg (by omega),if_neg (by omega),if_neg (by omega)] at h;cases h
theorem rowF_ok(l:List Ch)(h:∀c∈ l,Gd c):jV (qH l)∧jO (qH l)=true:=by
 induction l with
 | nil=>exact⟨trivial,rfl⟩
 | cons c l ih =>
   obtain⟨h1,h2⟩:=ih fun d hd=>h d (by simp[hd]);have hc:=h c (by simp);exact⟨⟨hc.ok.1,hc.ok.2,h1⟩,by show((jN c.a (len c.k) && jO c.k) && jO (qH l))=true;rw[hc.wf,h2];rfl⟩
theorem gd_node(op:Int)(l:List Ch)(h:∀c∈ l,Gd c)(hop:7≤op∧op≤22)(hw:jM op l.length=true)(hl:l.length≤9223372036854775807):Gd (tn op l):=by
 obtain⟨h1,h2⟩:=rowF_ok l h;have h6:¬op=6:=by omega
 refine⟨⟨⟨by dsimp only[tn];omega,by dsimp only[tn];omega,Nat.zero_le _,by dsimp only[tn];rw[qC];omega⟩,h1⟩,?_⟩
 show(jN ⟨op,0,⟨#[]⟩,none,0⟩ (len (qH l)) && jO (qH l))=true
 rw[h2,Bool.and_true,qC];unfold jN;dsimp only;have q1:jy op 0=true:=by unfold jy;rw[if_neg (by omega),if_neg (by omega)];rfl
 have q2:jh op ⟨#[]⟩=true:=by unfold jh;rw[if_neg h6];rfl
 rw[hw,q1,q2];simp;omega
theorem gd1(op:Int)(x:Ch)(h:Gd x)(hop:7≤op∧op≤22)(hw:jM op 1=true):Gd (tn op [x]):=gd_node op [x] (by intro c hc;simp only[List.mem_cons,List.not_mem_nil,or_false] at hc;rw[hc];exact h) hop hw (by simp)
theorem gd2(op:Int)(x y:Ch)(h:Gd x)(k:Gd y)(hop:7≤op∧op≤22)(hw:jM op 2=true):Gd (tn op [x,y]):=gd_node op [x,y] (by intro c hc;simp only[List.mem_cons,List.not_mem_nil,or_false] at hc;rcases hc with e|e;rw[e];exact h;rw[e];exact k) hop hw (by simp)
theorem gd3(op:Int)(x y z:Ch)(h:Gd x)(k:Gd y)(m:Gd z)(hop:7≤op∧op≤22)(hw:jM op 3=true):Gd (tn op [x,y,z]):=gd_node op [x,y,z] (by intro c hc;simp only[List.mem_cons,List.not_mem_nil,or_false] at hc;rcases hc with e|e|e;rw[e];exact h;rw[e];exact k;rw[e];exact m) hop hw (by simp)
def GR(r:R):Prop:=∀x,r.1=some x→Gd x
theorem gr_none(j:Nat):GR (none,j):=fun x h=>by cases h
theorem gr_some{x:Ch}(j:Nat)(h:Gd x):GR (some x,j):=fun y e=>by cases e;exact h
theorem gr_bnd{L:List Tk.T4}{i p:Nat}{r:R}{g:Ch→Nat→R}(ho:Ok L i r p)(hr:GR r)(hg:∀x j,Gd x→i+p≤j→j≤L.length→GR (g x j)):GR (bnd r g):=by
 obtain⟨o,j⟩:=r;cases o with
 | none=>exact gr_none j
 | some x=>exact hg x j (hr x rfl) (ho.2.2 rfl) ho.2.1
theorem gr_if{c:Prop} [Decidable c]{a b:R}(h:c→GR a)(k:¬c→GR b):GR (if c then a else b):=by
 by_cases q:c
 ·rw[if_pos q];exact h q
 ·rw[if_neg q];exact k q
theorem gr_leaf{L:List Tk.T4}(hV:∀t∈ L,VT t.t)(i:Nat):GR (leaf L i):=by
 unfold leaf
 split
 ·rename_i t ht
  split
  ·rename_i x hx
   exact gr_some _ (gd_leaf (hV t (List.mem_of_getElem? ht)) hx)
  ·exact gr_none _
 ·exact gr_none _
def GN(L:List Tk.T4):NT→Nat→Prop
 | .djL x,_=>Gd x|.cjL x,_=>Gd x|.smL x,_=>Gd x|.tmL x,_=>Gd x|.bd x,_=>Gd x
 | .li op,_=>op=12∨op=13
 | .liL op l,i=>(op=12∨op=13)∧(∀c∈ l,Gd c)∧l.length≤i
 | _,_=>True
theorem step_gr{L:List Tk.T4}{f:NT→Nat→R}(hV:∀t∈ L,VT t.t)(hL:L.length≤400)(hf:Adv L f)(hg:∀nt i,i≤L.length→GN L nt i→GR (f nt i))(nt:NT)(i:Nat)(hi:i≤L.length)(hn:GN L nt i):GR (step L f nt i):=by
 have one:∀nt i,i≤L.length→ps nt=1→Ok L i (f nt i) 1:=fun nt i h e=>by have:=hf nt i h;rwa [e] at this
 cases nt
 case liL op l =>
  obtain⟨h1,h2,h3⟩:=hn;unfold step;refine gr_bnd (one _ _ hi rfl) (hg _ _ hi trivial) fun x j hx hj hl=>?_
  have hm:∀c∈ l++[x],Gd c:=fun c hc=>by
   rcases List.mem_append.1 hc with hc|hc
   ·exact h2 c hc
   ·simp only[List.mem_cons,List.not_mem_nil,or_false] at hc;rw[hc];exact hx
  refine gr_if (fun hw=>gr_some _ (gd_node op _ hm (by omega) ?_ (by rw[List.length_append];show l.length+1≤_;omega))) fun hw=>gr_if (fun hc=>hg _ _ (isw_lt hc) ⟨h1,hm,by rw[List.length_append];show l.length+1≤_;omega⟩) fun _=>gr_none _;rw[List.length_append];unfold jM;have h4:1≤l.length:=hw.1;have e:((l.length+[x].length:Nat):Int)=(l.length:Int)+1:=by simp
  rw[e,if_neg (by omega),if_neg (by omega),if_pos h1,decide_eq_true_eq];omega
 all_goals
  unfold step;dsimp only[GN] at hn;dsimp only
  repeat' (first
   | exact gr_none _
   | exact gr_leaf hV _
   | (refine gr_if (fun hw=>?_) (fun hw=>?_);(try have hl:=isw_lt hw);clear hw)
   | (refine gr_bnd (p:=1) (one _ _ (by omega) rfl) (hg _ _ (by omega) trivial) fun x j hx h1 h2=>?_)
   | exact gr_some _ (by assumption)
   | exact gr_some _ (gd1 _ _ (by assumption) (by omega) (by decide))
   | exact gr_some _ (gd2 _ _ _ (by assumption) (by assumption) (by omega) (by decide))
   | exact gr_some _ (gd3 _ _ _ _ (by assumption) (by assumption) (by assumption) (by omega) (by decide))
   | exact gr_some _ (gd_lf _ _ _ (by decide) (by omega) (by omega) (by decide))
   | exact hg _ _ (by omega) trivial
   | exact hg _ _ (by omega) (by assumption)
   | exact hg _ _ (by omega) (gd2 _ _ _ (by assumption) (by assumption) (by omega) (by decide))
   | exact hg _ _ (by omega) (.inl rfl)
   | exact hg _ _ (by omega) (.inr rfl)
   | exact hg _ _ (by omega) ⟨hn,(fun c hc=>by cases hc),Nat.zero_le _⟩)
theorem pz_gr{L:List Tk.T4}(hV:∀t∈ L,VT t.t)(hL:L.length≤400):∀n nt i,i≤L.length→GN L nt i→GR (pz L n nt i)
 | 0,_,i,_,_=>gr_none i
 | n+1,nt,i,hi,hn=>step_gr hV hL (pz_adv L n) (pz_gr hV hL n) nt i hi hn
theorem ex_good{L:List Tk.T4}(hV:∀t∈ L,VT t.t)(hL:L.length≤400){x:Ch}{j:Nat}(h:pv L .ex 0=(some x,j)):Gd x:=pz_gr hV hL _ .ex 0 (Nat.zero_le _) trivial x (by show(pv L .ex 0).1=_;rw[h])
end Pz
def WR(o:Option Tk.T3)(e:Ending):Prop:=∃(k:Int)(x:ByteArray)(n:Int),e=.returned (.tuple #[.agg #[.int .i64 k,.string x,.int .i64 n,.int .i64 0],.bool o.isSome])∧∀t,o=some t→k=t.kind∧x=t.text∧n=t.num
theorem WR.none{o:Option Tk.T3}(h:o=none)(k:Int)(x:ByteArray)(n:Int):WR o (.returned (.tuple #[.agg #[.int .i64 k,.string x,.int .i64 n,.int .i64 0],.bool false])) :=
 ⟨k,x,n,by rw[h];rfl,fun t ht=>by rw[h] at ht;cases ht⟩
theorem WR.some{o:Option Tk.T3}{k:Int}{x:ByteArray}{n:Int}(h:o=some ⟨k,x,n⟩):WR o (.returned (.tuple #[.agg #[.int .i64 k,.string x,.int .i64 n,.int .i64 0],.bool true])) :=
 ⟨k,x,n,by rw[h];rfl,fun t ht=>by rw[h] at ht;cases ht;exact⟨rfl,rfl,rfl⟩⟩
def kE(l:List UInt8):Option Tk.T3:=if Tk.numOk l=true then some ⟨2,⟨#[]⟩,Txt.num l⟩ else none
theorem zZ{l:List UInt8}(h:¬(1≤l.length∧l.length≤13∧Txt.allD l=true∧¬((l.getD 0 0).toNat=48∧1 < l.length)∧Txt.num l≤1099511627776)):kE l=none:=by
 unfold kE Tk.numOk;rw[decide_eq_false h];rfl
theorem xR{l:List UInt8}(h:1≤l.length∧l.length≤13∧Txt.allD l=true∧¬((l.getD 0 0).toNat=48∧1 < l.length)∧Txt.num l≤1099511627776):kE l=some ⟨2,⟨#[]⟩,Txt.num l⟩:=by
 unfold kE Tk.numOk;rw[decide_eq_true h];rfl
theorem below_alloc1(w:World)(o:Obj):Below w.heap.size w (w.alloc o):=(Below.refl _ _).alloc (Nat.le_refl _) _
theorem J9(s:ByteArray)(w:World)(hs:s.size≤9223372036854775807)(h1:1≤s.size) :
 Calls Tryz.prog 115 #[.string s] w fun e w'=>WR (kE s.data.toList) e∧Below w.heap.size w w':=by
 have h0:0 < s.size:=h1;have hL:=hid (qG s);have HG0:=hid (yo s 0 h0)
 by_cases h13:s.size≤13
 ·have n13 : ¬ (13:Int) < (s.size:Int):=by omega
  by_cases hz:s[0].toNat=48∧1 < s.size
  ·have z1:((s[0].toNat:Int)==48)=true:=by simp;omega
   have z2:(1:Int) < (s.size:Int):=(by omega);have N:Hid (kE s.data.toList=none):=zZ (by rw[hL.out,HG0.out];exact fun q=>q.2.2.2.1 hz);clear hz;go_enter Tryz.func115,Tryz.ntmps115;go_wp2;refine bodyPost_ret (v:=.tuple #[.agg #[.int .i64 0,.string ⟨#[]⟩,.int .i64 0,.int .i64 0],.bool false]) ?_ rfl ⟨WR.none N.out _ _ _,below_alloc1 _ _⟩;rw[results_cell_tmp rfl];go_simp
  ·have HZ := hid hz
   by_cases c:s[0].toNat=48
   ·have z1 : ((s[0].toNat:Int)==48)=true:=by simp;omega
    have z2:¬(1:Int) < (s.size:Int):=(by omega);clear hz c;go_enter Tryz.func115,Tryz.ntmps115;go_wp2_with fail
    go_loop [4,5,22] (fun n _ i=>∃k:Nat,∃m:Int,k≤s.size∧i=.int .i64 k∧n=.int .i64 m∧0≤m∧m≤10000000000000∧Hid (m=Txt.num (s.data.toList.take k)∧Txt.allD (s.data.toList.take k)=true)) (fun _ _ i=>s.size - (intOf i).toNat)
    case atStart=>exact⟨0,0,by omega,rfl,rfl,by omega,by omega,rfl,rfl⟩
    case round =>
     obtain⟨k,m,hk,rfl,rfl,hm0,hm1,HM⟩:=hrel
     by_cases qN:k < s.size
     ·have HN:Hid (Txt.num (s.data.toList.take (k+1))=10 * Txt.num (s.data.toList.take k)+((s[k].toNat:Int) - 48)):=by unfold Hid;rw[zo s k qN,Txt.num_snoc];rfl
      have HA:Hid (Txt.allD (s.data.toList.take (k+1))=Txt.isD s[k]):=(by unfold Hid;rw[zo s k qN,Txt.allD_snoc,HM.out.2,Bool.true_and]);have hi1:(k:Int) < (s.size:Int):=by omega
      by_cases hd:48≤s[k].toNat∧s[k].toNat≤57
      ·have HD:=hid hd;obtain⟨hd1,hd2⟩:=hd;have q1:¬(s[k].toNat:Int) < 48:=(by omega);have q2:¬(57:Int) < (s[k].toNat:Int):=(by omega);go_wp2
       go_round
       case rel =>
        have hA:Txt.allD (s.data.toList.take (k+1))=true:=(by rw[HA.out,Txt.isD_iff];exact HD.out);have hbd:=Txt.num_bd _ hA;have hpw:(10 ^ (s.data.toList.take (k+1)).length:Nat)≤10 ^ 13:=Nat.pow_le_pow_right (by omega) (by simp;omega);have e:10 * m+((s[k].toNat:Int) - 48)=Txt.num (s.data.toList.take (k+1)):=(by rw[HN.out,HM.out.1]);exact⟨k+1,10 * m+((s[k].toNat:Int) - 48),by omega,by go_num,rfl,by omega,by rw[e];omega,e,hA⟩
       case measure=>simp[intOf];omega
      ·have hF:Hid (kE s.data.toList=none):=by
        refine zZ fun q=>?_;have hc:Txt.isD s[k]=true:=List.all_eq_true.1 q.2.2.1 s[k] (by rw[show s[k]=s.data.toList[k]'(by rw[qG];exact qN) from rfl];exact List.getElem_mem _);rw[Txt.isD_iff] at hc;exact absurd hc hd
       by_cases q1:(s[k].toNat:Int) < 48
       ·clear hd;go_wp2;refine bodyPost_ret (v:=.tuple #[.agg #[.int .i64 0,.string ⟨#[]⟩,.int .i64 0,.int .i64 0],.bool false]) ?_ rfl ⟨WR.none hF.out _ _ _,below_alloc1 _ _⟩;rw[results_cell_tmp rfl];go_simp
       ·have q2:(57:Int) < (s[k].toNat:Int):=by omega
        clear hd;go_wp2;refine bodyPost_ret (v:=.tuple #[.agg #[.int .i64 0,.string ⟨#[]⟩,.int .i64 0,.int .i64 0],.bool false]) ?_ rfl ⟨WR.none hF.out _ _ _,below_alloc1 _ _⟩;rw[results_cell_tmp rfl];go_simp
     ·have hi1:¬(k:Int) < (s.size:Int):=by omega
      have hm:Hid (m=Txt.num s.data.toList∧Txt.allD s.data.toList=true):=by
       have:=HM.out;rw[List.take_of_length_le (by rw[qG];omega)] at this;exact this
      by_cases q1:m≤1099511627776
      ·have N:Hid (kE s.data.toList=some ⟨2,⟨#[]⟩,m⟩):=by
        unfold Hid;rw[hm.out.1];exact xR ⟨by rw[qG];omega,by rw[qG];omega,hm.out.2,by rw[qG,HG0.out];exact HZ.out,by rw[← hm.out.1];exact q1⟩
       go_wp2;refine bodyPost_ret (v:=.tuple #[.agg #[.int .i64 2,.string ⟨#[]⟩,.int .i64 m,.int .i64 0],.bool true]) ?_ rfl ⟨WR.some N.out,below_alloc1 _ _⟩;rw[results_cell_tmp rfl];go_simp
      ·have N:Hid (kE s.data.toList=none):=by
        refine zZ fun q=>q1 ?_;rw[hm.out.1];exact q.2.2.2.2
       go_wp2;refine bodyPost_ret (v:=.tuple #[.agg #[.int .i64 2,.string ⟨#[]⟩,.int .i64 m,.int .i64 0],.bool false]) ?_ rfl ⟨WR.none N.out _ _ _,below_alloc1 _ _⟩;rw[results_cell_tmp rfl];go_simp
   ·have z1 : ((s[0].toNat:Int)==48)=false:=by simp;omega
    clear hz c;go_enter Tryz.func115,Tryz.ntmps115;go_wp2_with fail
    go_loop [4,5,22] (fun n _ i=>∃k:Nat,∃m:Int,k≤s.size∧i=.int .i64 k∧n=.int .i64 m∧0≤m∧m≤10000000000000∧Hid (m=Txt.num (s.data.toList.take k)∧Txt.allD (s.data.toList.take k)=true)) (fun _ _ i=>s.size - (intOf i).toNat)
    case atStart=>exact⟨0,0,by omega,rfl,rfl,by omega,by omega,rfl,rfl⟩
    case round =>
     obtain⟨k,m,hk,rfl,rfl,hm0,hm1,HM⟩:=hrel
     by_cases qN:k < s.size
     ·have HN:Hid (Txt.num (s.data.toList.take (k+1))=10 * Txt.num (s.data.toList.take k)+((s[k].toNat:Int) - 48)):=by unfold Hid;rw[zo s k qN,Txt.num_snoc];rfl
      have HA:Hid (Txt.allD (s.data.toList.take (k+1))=Txt.isD s[k]):=(by unfold Hid;rw[zo s k qN,Txt.allD_snoc,HM.out.2,Bool.true_and]);have hi1:(k:Int) < (s.size:Int):=by omega
      by_cases hd:48≤s[k].toNat∧s[k].toNat≤57
      ·have HD:=hid hd;obtain⟨hd1,hd2⟩:=hd;have q1:¬(s[k].toNat:Int) < 48:=(by omega);have q2:¬(57:Int) < (s[k].toNat:Int):=(by omega);go_wp2
       go_round
       case rel =>
        have hA:Txt.allD (s.data.toList.take (k+1))=true:=(by rw[HA.out,Txt.isD_iff];exact HD.out);have hbd:=Txt.num_bd _ hA;have hpw:(10 ^ (s.data.toList.take (k+1)).length:Nat)≤10 ^ 13:=Nat.pow_le_pow_right (by omega) (by simp;omega);have e:10 * m+((s[k].toNat:Int) - 48)=Txt.num (s.data.toList.take (k+1)):=(by rw[HN.out,HM.out.1]);exact⟨k+1,10 * m+((s[k].toNat:Int) - 48),by omega,by go_num,rfl,by omega,by rw[e];omega,e,hA⟩
       case measure=>simp[intOf];omega
      ·have hF:Hid (kE s.data.toList=none):=by
        refine zZ fun q=>?_;have hc:Txt.isD s[k]=true:=List.all_eq_true.1 q.2.2.1 s[k] (by rw[show s[k]=s.data.toList[k]'(by rw[qG];exact qN) from rfl];exact List.getElem_mem _);rw[Txt.isD_iff] at hc;exact absurd hc hd
       by_cases q1:(s[k].toNat:Int) < 48
       ·clear hd;go_wp2;refine bodyPost_ret (v:=.tuple #[.agg #[.int .i64 0,.string ⟨#[]⟩,.int .i64 0,.int .i64 0],.bool false]) ?_ rfl ⟨WR.none hF.out _ _ _,below_alloc1 _ _⟩;rw[results_cell_tmp rfl];go_simp
       ·have q2:(57:Int) < (s[k].toNat:Int):=by omega
        clear hd;go_wp2;refine bodyPost_ret (v:=.tuple #[.agg #[.int .i64 0,.string ⟨#[]⟩,.int .i64 0,.int .i64 0],.bool false]) ?_ rfl ⟨WR.none hF.out _ _ _,below_alloc1 _ _⟩;rw[results_cell_tmp rfl];go_simp
     ·have hi1:¬(k:Int) < (s.size:Int):=by omega
      have hm:Hid (m=Txt.num s.data.toList∧Txt.allD s.data.toList=true):=by
       have:=HM.out;rw[List.take_of_length_le (by rw[qG];omega)] at this;exact this
      by_cases q1:m≤1099511627776
      ·have N:Hid (kE s.data.toList=some ⟨2,⟨#[]⟩,m⟩):=by
        unfold Hid;rw[hm.out.1];exact xR ⟨by rw[qG];omega,by rw[qG];omega,hm.out.2,by rw[qG,HG0.out];exact HZ.out,by rw[← hm.out.1];exact q1⟩
       go_wp2;refine bodyPost_ret (v:=.tuple #[.agg #[.int .i64 2,.string ⟨#[]⟩,.int .i64 m,.int .i64 0],.bool true]) ?_ rfl ⟨WR.some N.out,below_alloc1 _ _⟩;rw[results_cell_tmp rfl];go_simp
      ·have N:Hid (kE s.data.toList=none):=by
        refine zZ fun q=>q1 ?_;rw[hm.out.1];exact q.2.2.2.2
       go_wp2;refine bodyPost_ret (v:=.tuple #[.agg #[.int .i64 2,.string ⟨#[]⟩,.int .i64 m,.int .i64 0],.bool false]) ?_ rfl ⟨WR.none N.out _ _ _,below_alloc1 _ _⟩;rw[results_cell_tmp rfl];go_simp
 ·have n13:(13:Int) < (s.size:Int):=by omega
  have N:Hid (kE s.data.toList=none):=zZ (by rw[hL.out];exact fun q=>h13 q.2.1);go_enter Tryz.func115,Tryz.ntmps115;go_wp2;refine bodyPost_ret (v:=.tuple #[.agg #[.int .i64 0,.string ⟨#[]⟩,.int .i64 0,.int .i64 0],.bool false]) ?_ rfl ⟨WR.none N.out _ _ _,below_alloc1 _ _⟩;rw[results_cell_tmp rfl];go_simp
theorem zd(s:ByteArray):s.toList.isEmpty=decide (s.size=0):=by
 rw[Lib.toList_data];cases h:s.data.toList with
 | nil=>have:=qG s;rw[h] at this;simp at this;simp[← this]
 | cons a l=>have:=qG s;rw[h] at this;simp at this;simp[← this]
theorem Yd(s:ByteArray)(b:Bool)(w:World)(h:Lib.hasPrefix s.data.toList [60,61]=b):Calls Tryz.prog 116 #[.string s,.string ⟨#[60,61]⟩] w fun e w'=>e=.returned (.bool b)∧w=w':=by
 refine(Tryz.strings_HasPrefix s ⟨#[60,61]⟩ w).mono ?_;rintro e w' ⟨rfl,rfl⟩;exact⟨qV h,rfl⟩
theorem KO(c:UInt8)(w:World):Calls Tryz.prog 117 #[.string ⟨#[43,45,42,47,40,41,44,60,61]⟩,.int .u8 c.toNat] w fun e w'=>∃m:Int,e=.returned (.int .i64 m)∧w=w'∧decide (0≤m)=Tk.inS c:=by
 refine(Tryz.strings_IndexByte ⟨#[43,45,42,47,40,41,44,60,61]⟩ c.toNat w).mono ?_;rintro e w' ⟨rfl,rfl⟩;refine⟨_,rfl,rfl,?_⟩;have:(c.toNat:Int).toNat.toUInt8=c:=by rw[Int.toNat_natCast];exact UInt8.ofNat_toNat
 rw[this];exact JD c
theorem Uf(s:ByteArray):s.extract 0 0=⟨#[]⟩:=by
 apply ByteArray.ext;simp
theorem QR{l:List UInt8}(h:Lib.hasPrefix l [60,61]=true):Tk.sgn l=2∧2≤l.length:=by
 rw[uR,decide_eq_true_eq] at h;have h2:=Tk.sgn_le l;have h1:Tk.sgn l=2:=by unfold Tk.sgn;rw[if_pos h]
 exact⟨h1,by omega⟩
theorem QS{l:List UInt8}(h:Lib.hasPrefix l [60,61]=false)(hl:1≤l.length):Tk.sgn l=if Tk.inS (l.getD 0 0)=true then 1 else 0:=by
 rw[uR,decide_eq_false_iff_not] at h;unfold Tk.sgn;rw[if_neg h]
 by_cases q:Tk.inS (l.getD 0 0)=true
 ·rw[if_pos ⟨hl,q⟩,if_pos q]
 ·rw[if_neg (fun z=>q z.2),if_neg q]
theorem Ka{l:List UInt8}(hl:l.length=0):Tk.sgn l=0:=by have:=Tk.sgn_le l;omega
theorem Yp(s:ByteArray)(w:World)(hs:s.size≤9223372036854775807) :
 Calls Tryz.prog 68 #[.string s] w fun e w'=>e=.returned (.string (s.extract 0 (Tk.sgn s.data.toList)))∧w=w':=by
 cases hp:Lib.hasPrefix s.data.toList [60,61] with
 | true =>
   obtain⟨h1,h2⟩:=QR hp;rw[qG] at h2;rw[h1];have HP:=hid hp;clear hp h1;go_enter Tryz.func68,Tryz.ntmps68;go_wp2_with (go_at_call 116;refine(Yd _ _ _ HP.out).mono ?_;rintro e w' ⟨rfl,rfl⟩);go_ret;exact⟨rfl,rfl⟩
 | false =>
   have HP:=hid hp
   by_cases h0:s.size=0
   ·have h1:=Ka (l:=s.data.toList) (by rw[qG];exact h0);have e1:s.toList.isEmpty=true:=(by rw[zd];simp[h0]);have e2:(!s.toList.isEmpty)=false:=(by rw[e1];rfl);rw[h1,Uf];clear hp h0 h1;go_enter Tryz.func68,Tryz.ntmps68;go_wp2_with (go_at_call 116;refine(Yd _ _ _ HP.out).mono ?_;rintro e w' ⟨rfl,rfl⟩);go_ret;exact⟨rfl,rfl⟩
   ·have qN:0 < s.size:=by omega
    have h1:=QS hp (by rw[qG];omega);rw[yo s 0 qN] at h1;have e1:s.toList.isEmpty=false:=(by rw[zd];simp[h0]);have e2:(!s.toList.isEmpty)=true:=(by rw[e1];rfl);cases hi:Tk.inS s[0] with
    | true =>
      rw[hi,if_pos rfl] at h1;rw[h1];have HI:=hid hi;clear hp h0 h1 hi;go_enter Tryz.func68,Tryz.ntmps68;go_wp2_with (first|(go_at_call 116;refine(Yd _ _ _ HP.out).mono ?_;rintro e w' ⟨rfl,rfl⟩)|(go_at_call 117;refine(KO _ _).mono ?_;rintro e w' ⟨m,rfl,rfl,hm⟩;rw[HI.out,decide_eq_true_eq] at hm));go_ret;exact⟨rfl,rfl⟩
    | false =>
      rw[hi,if_neg (by simp)] at h1;rw[h1,Uf];have HI:=hid hi;clear hp h0 h1 hi;go_enter Tryz.func68,Tryz.ntmps68;go_wp2_with (first|(go_at_call 116;refine(Yd _ _ _ HP.out).mono ?_;rintro e w' ⟨rfl,rfl⟩)|(go_at_call 117;refine(KO _ _).mono ?_;rintro e w' ⟨m,rfl,rfl,hm⟩;rw[HI.out,decide_eq_false_iff_not] at hm));go_ret;exact⟨rfl,rfl⟩
theorem JP(s:ByteArray)(h:1 < s.size):((s.extract 0 2).toList==[60,61])=Lib.hasPrefix s.data.toList [60,61]:=by
 rw[uR,Lib.toList_data,ext_list,List.drop_zero];have hl:=qG s
 match hq:s.data.toList with
 | []=>rw[hq] at hl;simp at hl;omega
 | [a]=>rw[hq] at hl;simp at hl;omega
 | a :: b :: l =>
   simp only[List.take_succ_cons,List.take_zero,List.getD_cons_zero,List.getD_cons_succ];rw[Bool.eq_iff_iff];simp only[beq_iff_eq,decide_eq_true_eq,List.cons.injEq,and_true];constructor
   ·rintro ⟨rfl,rfl⟩;exact⟨rfl,rfl⟩
   ·rintro ⟨h1,h2⟩;exact⟨UInt8.toNat_inj.1 h1,UInt8.toNat_inj.1 h2⟩
theorem Yv(s:ByteArray)(w:World)(hs:s.size≤9223372036854775807)(h1:1≤s.size) :
 Calls Tryz.prog 74 #[.string s] w fun e w'=>e=.returned (.string (s.extract 0 (Tk.sgn s.data.toList)))∧w=w':=by
 have qN:0 < s.size:=h1
 have FI:Hid (∀(c:UInt8) (b:Bool) (w:World),Tk.inS c=b→Calls Tryz.prog 120 #[.string ⟨#[43,45,42,47,40,41,44,60,61]⟩,.int .u8 c.toNat] w fun e w'=>∃m:Int,e=.returned (.int .i64 m)∧w=w'∧decide (0≤m)=b):=by
  intro c b w hb;refine(xK ⟨#[43,45,42,47,40,41,44,60,61]⟩ c w (by decide)).mono ?_;rintro e w' ⟨rfl,rfl⟩;exact⟨_,rfl,rfl,(JD c).trans hb⟩
 cases hp:Lib.hasPrefix s.data.toList [60,61] with
 | true =>
   obtain⟨g1,g2⟩:=QR hp;rw[qG] at g2;rw[g1];have hb:((s.extract 0 2).toList==[60,61])=true:=(by rw[JP s (by omega),hp]);have hz:(1:Int) < (s.size:Int):=(by omega);clear hp g1;go_enter Tryz.func74,Tryz.ntmps74;go_wp2;go_ret;exact⟨rfl,rfl⟩
 | false =>
   have g1:=QS hp (by rw[qG];omega);rw[yo s 0 qN] at g1
   have hz:(1 < (s.size:Int)∧((s.extract 0 2).toList==[60,61])=false)∨¬(1:Int) < (s.size:Int):=by
    by_cases q:1 < s.size
    ·exact .inl ⟨by omega,by rw[JP s q,hp]⟩
    ·exact .inr (by omega)
   cases hi:Tk.inS s[0] with
   | true =>
     rw[hi,if_pos rfl] at g1;rw[g1];have HI:=hid hi;clear hp g1 hi;rcases hz with ⟨z1,z2⟩|z1
     ·go_enter Tryz.func74,Tryz.ntmps74;go_wp2_with (go_at_call 120;refine(FI.out _ _ _ HI.out).mono ?_;rintro e w' ⟨m,rfl,rfl,hm⟩;rw[decide_eq_true_eq] at hm);go_ret;exact⟨rfl,rfl⟩
     ·go_enter Tryz.func74,Tryz.ntmps74;go_wp2_with (go_at_call 120;refine(FI.out _ _ _ HI.out).mono ?_;rintro e w' ⟨m,rfl,rfl,hm⟩;rw[decide_eq_true_eq] at hm);go_ret;exact⟨rfl,rfl⟩
   | false =>
     rw[hi,if_neg (by simp)] at g1;rw[g1,Uf];have HI:=hid hi;clear hp g1 hi;rcases hz with ⟨z1,z2⟩|z1
     ·go_enter Tryz.func74,Tryz.ntmps74;go_wp2_with (go_at_call 120;refine(FI.out _ _ _ HI.out).mono ?_;rintro e w' ⟨m,rfl,rfl,hm⟩;rw[decide_eq_false_iff_not] at hm);go_ret;exact⟨rfl,rfl⟩
     ·go_enter Tryz.func74,Tryz.ntmps74;go_wp2_with (go_at_call 120;refine(FI.out _ _ _ HI.out).mono ?_;rintro e w' ⟨m,rfl,rfl,hm⟩;rw[decide_eq_false_iff_not] at hm);go_ret;exact⟨rfl,rfl⟩
end Go.Proofs.YtcejjdmnlejbaaaGreatDoor
