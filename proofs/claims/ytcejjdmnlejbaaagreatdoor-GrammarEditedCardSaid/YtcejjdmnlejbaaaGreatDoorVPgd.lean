import Derived.Test.YtcejjdmnlejbaaaGreatDoorVPcc
namespace Go.Proofs.YtcejjdmnlejbaaaGreatDoor
open Lib(hid)
set_option linter.unusedVariables false
set_option linter.unusedSimpArgs false
open Go.ChangeShapes Go.WideShapes Go.ChangeAt Go.RowKit
open Go.Deep (BT)
set_option maxHeartbeats 2000000
set_option maxRecDepth 100000
def PtA(w:World)(P:List ByteArray)(g O:Nat):Prop:=∀i s,P[i]?=some s→w.cell? ⟨g,O+i,none⟩=some (.string s)
theorem PtA.next{w w':World}{P:List ByteArray}{g O:Nat}(h:PtA w P g O)(hb:Below w.heap.size w w'):PtA w' P g O:=fun i s hi=>by rw[hb.cell (block_lt_of_cell (h i s hi))];exact h i s hi
theorem JS(a b:ByteArray):(a.toList==b.toList)=decide (a=b):=by
 rw[Bool.eq_iff_iff];simp[Lib.toList_data,ByteArray.ext_iff,Array.ext_iff]
theorem zH{a b:ByteArray}(h:a=b){l:List UInt8}(hl:b.data.toList=l):(a.toList==l)=true:=by
 rw[h,Lib.toList_data,hl];exact beq_self_eq_true l
theorem yh{a b:ByteArray}(h:¬a=b){l:List UInt8}(hl:b.data.toList=l):(a.toList==l)=false:=by
 rw[beq_eq_false_iff_ne,Lib.toList_data,← hl];exact fun e=>h (ByteArray.ext (Array.toList_inj.1 e))
theorem zt(L:List Tk.T4)(p:Option Addr)(cap:Nat)(P:List ByteArray)(g O cp:Nat)(w:World)(hL:TkAt w L (.slice p L.length cap))(hs:∀t∈ L,t.t.text.size≤9223372036854775807)(hP:PtA w P g O)(hn:P.length≤1000) :
 Calls Tryz.prog 91 #[.slice p L.length cap,.slice (some ⟨g,O,none⟩) P.length cp] w fun e w'=>e=.returned (.bool (Pg.sh L P))∧Below w.heap.size w w':=by
 by_cases hl:L.length=P.length
 case neg =>
  have b0:((L.length:Int) != (P.length:Int))=true:=by simp;omega
  have RQ:Hid (Pg.sh L P=false):=Pg.sh_no hl;clear hL hs hP hl;go_enter Tryz.func91,Tryz.ntmps91;go_wp2;go_ret;exact⟨qr RQ.out.symm,Below.refl _ _⟩
 have b0:((L.length:Int) != (P.length:Int))=false:=by simp;omega
 have HL:=hid hL;have HP:=hid hP;have HS:=hid hs;have LN:=hid hl;have hln:L.length≤1000:=by omega
 clear hL hs hP hl;obtain⟨R,hR⟩:∃R,Pg.sh L P=R:=⟨_,rfl⟩;rw[hR];have HRR:=hid hR;clear hR;go_enter Tryz.func91,Tryz.ntmps91;go_wp2_with fail
 go_loopw [5,6,7,15] (fun _ _ _ i wr=>∃j:Nat,i=.int .i64 j∧j≤L.length∧Hid (Below w.heap.size w wr∧Pg.sh (L.drop j) (P.drop j)=R)) (fun _ _ _ i _=>L.length - (intOf i).toNat)
 case atStart=>exact⟨0,rfl,Nat.zero_le _,Below.refl _ _,HRR.out⟩
 case round =>
  obtain⟨j,rfl,hj,HR⟩:=hrel
  by_cases qN:j < L.length
  case neg =>
   have hj':¬(j:Int) < (L.length:Int):=by omega
   have RQ:Hid (R=true):=by
    have:=HR.out.2;rw[Pg.sh_end (by omega) (by have:=LN.out;omega)] at this;exact this.symm
   have B:=hid HR.out.1;clear HR;go_wp2;go_ret;exact⟨qr RQ.out.symm,B.out⟩
  have hj':(j:Int) < (L.length:Int):=by omega
  have hjP:(j:Int) < (P.length:Int):=by have:=LN.out;omega
  have hj0:(0:Int)≤(j:Int):=by omega
  obtain⟨t,ht⟩:∃t,L[j]?=some t:=⟨_,List.getElem?_eq_getElem qN⟩;obtain⟨s,hsP⟩:∃s,P[j]?=some s:=⟨_,List.getElem?_eq_getElem (by have:=LN.out;omega)⟩;obtain⟨tg,tO,rfl,c0,c1,c2,c3⟩:=(HL.out.next HR.out.1).get ht;have p0:wr.cell? ⟨g,O+j,none⟩=some (.string s):=HP.out.next HR.out.1 j s hsP
  have SD:Hid (R=(Pg.pm s t.t && Pg.sh (L.drop (j+1)) (P.drop (j+1)))):=by unfold Hid;rw[← HR.out.2];exact Pg.sh_drop ht hsP
  have hts:=HS.out t (List.mem_of_getElem? ht);have B1:Hid (Below w.heap.size w (wr.alloc (.cells #[.int .i64 t.t.kind,.string t.t.text,.int .i64 t.t.num,.int .i64 t.at'] 68))):=HR.out.1.alloc HR.out.1.size _;have hgz:g < wr.heap.size:=by have:=block_lt_of_cell p0;simpa using this
  clear HR ht hsP
  by_cases h0:s=Pg.pN
  case pos =>
   have q0:(s.toList==[35,110])=true:=zH h0 rfl;have PQ:Pg.pm s t.t=(decide (t.t.kind=1) && yJ t.t.text):=(by rw[h0];rfl);clear h0
   by_cases hk:t.t.kind=1
   ·have bk:(t.t.kind==1)=true:=by simp[hk]
    by_cases hd:yJ t.t.text=true
    ·have PM:Pg.pm s t.t=true:=by rw[PQ,decide_eq_true hk,hd];rfl
     have HD:=hid hd;clear PQ hk hd;have R2:Hid (Pg.sh (L.drop (j+1)) (P.drop (j+1))=R):=(by unfold Hid;rw[SD.out,PM];exact(Bool.true_and _).symm);clear SD PM;go_wp2_with (go_at_call 108;refine(yc _ _ hts).mono ?_;rw[HD.out];rintro e w2 ⟨rfl,rfl⟩)
     go_roundw
     case rel=>exact⟨j+1,by go_num,by omega,B1.out,R2.out⟩
     case measure=>simp[intOf];omega
    ·have PM:Pg.pm s t.t=false:=by rw[PQ,decide_eq_true hk];simpa using hd
     have HD:Hid (yJ t.t.text=false):=(by unfold Hid;simpa using hd);clear PQ hk hd;have R2:Hid (R=false):=(by unfold Hid;rw[SD.out,PM];exact Bool.false_and _);clear SD PM;go_wp2_with (go_at_call 108;refine(yc _ _ hts).mono ?_;rw[HD.out];rintro e w2 ⟨rfl,rfl⟩);go_ret;exact⟨qr R2.out.symm,B1.out⟩
   ·have bk:(t.t.kind==1)=false:=by simp[hk]
    have PM:Pg.pm s t.t=false:=(by rw[PQ,decide_eq_false hk];rfl);clear PQ hk;have R2:Hid (R=false):=(by unfold Hid;rw[SD.out,PM];exact Bool.false_and _);clear SD PM;go_wp2_with fail;go_ret;exact⟨qr R2.out.symm,B1.out⟩
  by_cases h1:s=Pg.pT
  case pos =>
   have q0:(s.toList==[35,110])=false:=yh h0 rfl;have q1:(s.toList==[35,116])=true:=zH h1 rfl;have PQ:Pg.pm s t.t=decide (t.t.kind=3):=(by rw[h1];rfl);clear h0 h1
   by_cases hk:t.t.kind=3
   ·have bk:(t.t.kind==3)=true:=by simp[hk]
    have PM:Pg.pm s t.t=true:=(by rw[PQ,decide_eq_true hk]);clear PQ hk;have R2:Hid (Pg.sh (L.drop (j+1)) (P.drop (j+1))=R):=(by unfold Hid;rw[SD.out,PM];exact(Bool.true_and _).symm);clear SD PM;go_wp2_with fail
    go_roundw
    case rel=>exact⟨j+1,by go_num,by omega,B1.out,R2.out⟩
    case measure=>simp[intOf];omega
   ·have bk:(t.t.kind==3)=false:=by simp[hk]
    have PM:Pg.pm s t.t=false:=(by rw[PQ,decide_eq_false hk]);clear PQ hk;have R2:Hid (R=false):=(by unfold Hid;rw[SD.out,PM];exact Bool.false_and _);clear SD PM;go_wp2_with fail;go_ret;exact⟨qr R2.out.symm,B1.out⟩
  by_cases h2:s=Pg.pC
  case pos =>
   have q0:(s.toList==[35,110])=false:=yh h0 rfl;have q1:(s.toList==[35,116])=false:=yh h1 rfl;have q2:(s.toList==[35,99])=true:=zH h2 rfl;have PQ:Pg.pm s t.t=decide (t.t.kind=4):=(by rw[h2];rfl);clear h0 h1 h2
   by_cases hk:t.t.kind=4
   ·have bk:(t.t.kind==4)=true:=by simp[hk]
    have PM:Pg.pm s t.t=true:=(by rw[PQ,decide_eq_true hk]);clear PQ hk;have R2:Hid (Pg.sh (L.drop (j+1)) (P.drop (j+1))=R):=(by unfold Hid;rw[SD.out,PM];exact(Bool.true_and _).symm);clear SD PM;go_wp2_with fail
    go_roundw
    case rel=>exact⟨j+1,by go_num,by omega,B1.out,R2.out⟩
    case measure=>simp[intOf];omega
   ·have bk:(t.t.kind==4)=false:=by simp[hk]
    have PM:Pg.pm s t.t=false:=(by rw[PQ,decide_eq_false hk]);clear PQ hk;have R2:Hid (R=false):=(by unfold Hid;rw[SD.out,PM];exact Bool.false_and _);clear SD PM;go_wp2_with fail;go_ret;exact⟨qr R2.out.symm,B1.out⟩
  by_cases h3:s=Pg.pD
  case pos =>
   have q0:(s.toList==[35,110])=false:=yh h0 rfl;have q1:(s.toList==[35,116])=false:=yh h1 rfl;have q2:(s.toList==[35,99])=false:=yh h2 rfl;have q3:(s.toList==[35,100])=true:=zH h3 rfl;have PQ:Pg.pm s t.t=decide (t.t.kind=2):=(by rw[h3];rfl);clear h0 h1 h2 h3
   by_cases hk:t.t.kind=2
   ·have bk:(t.t.kind==2)=true:=by simp[hk]
    have PM:Pg.pm s t.t=true:=(by rw[PQ,decide_eq_true hk]);clear PQ hk;have R2:Hid (Pg.sh (L.drop (j+1)) (P.drop (j+1))=R):=(by unfold Hid;rw[SD.out,PM];exact(Bool.true_and _).symm);clear SD PM;go_wp2_with fail
    go_roundw
    case rel=>exact⟨j+1,by go_num,by omega,B1.out,R2.out⟩
    case measure=>simp[intOf];omega
   ·have bk:(t.t.kind==2)=false:=by simp[hk]
    have PM:Pg.pm s t.t=false:=(by rw[PQ,decide_eq_false hk]);clear PQ hk;have R2:Hid (R=false):=(by unfold Hid;rw[SD.out,PM];exact Bool.false_and _);clear SD PM;go_wp2_with fail;go_ret;exact⟨qr R2.out.symm,B1.out⟩
  have q0:(s.toList==[35,110])=false:=yh h0 rfl;have q1:(s.toList==[35,116])=false:=yh h1 rfl;have q2:(s.toList==[35,99])=false:=yh h2 rfl;have q3:(s.toList==[35,100])=false:=yh h3 rfl;have PQ:Pg.pm s t.t=(decide (t.t.kind=1) && decide (t.t.text=s)):=Pg.pm_word ⟨h0,h1,h2,h3⟩ t.t;clear h0 h1 h2 h3
  by_cases hk:t.t.kind=1
  ·have bk:(t.t.kind==1)=true:=by simp[hk]
   by_cases hd:t.t.text=s
   ·have PM:Pg.pm s t.t=true:=by rw[PQ,decide_eq_true hk,decide_eq_true hd];rfl
    have bd:(t.t.text.toList==s.toList)=true:=(by rw[JS];exact decide_eq_true hd);clear PQ hk hd;have R2:Hid (Pg.sh (L.drop (j+1)) (P.drop (j+1))=R):=(by unfold Hid;rw[SD.out,PM];exact(Bool.true_and _).symm);clear SD PM;have d0:(wr.alloc (.cells #[.int .i64 t.t.kind,.string t.t.text,.int .i64 t.t.num,.int .i64 t.at'] 68)).cell? ⟨wr.heap.size,0,none⟩=some (.int .i64 t.t.kind):=(by simp[go_sem]);have d1:(wr.alloc (.cells #[.int .i64 t.t.kind,.string t.t.text,.int .i64 t.t.num,.int .i64 t.at'] 68)).cell? ⟨wr.heap.size,1,none⟩=some (.string t.t.text):=(by simp[go_sem]);have p1:(wr.alloc (.cells #[.int .i64 t.t.kind,.string t.t.text,.int .i64 t.t.num,.int .i64 t.at'] 68)).cell? ⟨g,O+j,none⟩=some (.string s):=(by rw[((Below.refl wr.heap.size wr).alloc (Nat.le_refl _) _).cell (p:=⟨g,O+j,none⟩) hgz];exact p0);have D0:=hid d0;have D1:=hid d1;have P1:=hid p1;clear d0 d1 p1;go_upto_region 8 with (fail);generalize wr.alloc (.cells #[.int .i64 t.t.kind,.string t.t.text,.int .i64 t.t.num,.int .i64 t.at'] 68)=w1 at *;have d0:=D0.out;have d1:=D1.out;have p1:=P1.out
    go_quiet (fail)
    go_wp2
    go_roundw
    case rel=>exact⟨j+1,by go_num,by omega,below_drewN B1.out _,R2.out⟩
    case measure=>simp[intOf];omega
   ·have PM:Pg.pm s t.t=false:=by rw[PQ,decide_eq_true hk,decide_eq_false hd];rfl
    have bd:(t.t.text.toList==s.toList)=false:=(by rw[JS];exact decide_eq_false hd);clear PQ hk hd;have R2:Hid (R=false):=(by unfold Hid;rw[SD.out,PM];exact Bool.false_and _);clear SD PM;have d0:(wr.alloc (.cells #[.int .i64 t.t.kind,.string t.t.text,.int .i64 t.t.num,.int .i64 t.at'] 68)).cell? ⟨wr.heap.size,0,none⟩=some (.int .i64 t.t.kind):=(by simp[go_sem]);have d1:(wr.alloc (.cells #[.int .i64 t.t.kind,.string t.t.text,.int .i64 t.t.num,.int .i64 t.at'] 68)).cell? ⟨wr.heap.size,1,none⟩=some (.string t.t.text):=(by simp[go_sem]);have p1:(wr.alloc (.cells #[.int .i64 t.t.kind,.string t.t.text,.int .i64 t.t.num,.int .i64 t.at'] 68)).cell? ⟨g,O+j,none⟩=some (.string s):=(by rw[((Below.refl wr.heap.size wr).alloc (Nat.le_refl _) _).cell (p:=⟨g,O+j,none⟩) hgz];exact p0);have D0:=hid d0;have D1:=hid d1;have P1:=hid p1;clear d0 d1 p1;go_upto_region 8 with (fail);generalize wr.alloc (.cells #[.int .i64 t.t.kind,.string t.t.text,.int .i64 t.t.num,.int .i64 t.at'] 68)=w1 at *;have d0:=D0.out;have d1:=D1.out;have p1:=P1.out
    go_quiet (fail)
    go_wp2;go_ret;exact⟨qr R2.out.symm,below_drewN B1.out _⟩
  ·have bk:(t.t.kind==1)=false:=by simp[hk]
   have PM:Pg.pm s t.t=false:=(by rw[PQ,decide_eq_false hk];rfl);clear PQ hk;have R2:Hid (R=false):=(by unfold Hid;rw[SD.out,PM];exact Bool.false_and _);clear SD PM;have d0:(wr.alloc (.cells #[.int .i64 t.t.kind,.string t.t.text,.int .i64 t.t.num,.int .i64 t.at'] 68)).cell? ⟨wr.heap.size,0,none⟩=some (.int .i64 t.t.kind):=(by simp[go_sem]);have d1:(wr.alloc (.cells #[.int .i64 t.t.kind,.string t.t.text,.int .i64 t.t.num,.int .i64 t.at'] 68)).cell? ⟨wr.heap.size,1,none⟩=some (.string t.t.text):=(by simp[go_sem]);have p1:(wr.alloc (.cells #[.int .i64 t.t.kind,.string t.t.text,.int .i64 t.t.num,.int .i64 t.at'] 68)).cell? ⟨g,O+j,none⟩=some (.string s):=(by rw[((Below.refl wr.heap.size wr).alloc (Nat.le_refl _) _).cell (p:=⟨g,O+j,none⟩) hgz];exact p0);have D0:=hid d0;have D1:=hid d1;have P1:=hid p1;clear d0 d1 p1;go_upto_region 8 with (fail);generalize wr.alloc (.cells #[.int .i64 t.t.kind,.string t.t.text,.int .i64 t.t.num,.int .i64 t.at'] 68)=w1 at *;have d0:=D0.out;have d1:=D1.out;have p1:=P1.out
   go_quiet (fail)
   go_wp2;go_ret;exact⟨qr R2.out.symm,below_drewN B1.out _⟩
theorem K9{w:World}{L:List Tk.T4}{p:Option Addr}{cap:Nat}(h:TkAt w L (.slice p L.length cap))(n:Nat)(hn:n≤L.length):TkAt w (L.take n) (.slice p (L.take n).length cap):=by
 obtain⟨p',cap',e,h2,h3,h4⟩:=h;injection e with e1 e2 e3
 subst e1 e3;have hl:(L.take n).length=n:=by rw[List.length_take];omega
 refine⟨p,cap,rfl,by omega,by omega,fun q=>?_⟩;obtain⟨g,O,e,hc⟩:=h4 (fun e=>q (by rw[e];simp));refine⟨g,O,e,fun j u hu=>hc j u ?_⟩;have:jQ L=jQ (L.take n)++jQ (L.drop n):=by unfold jQ;rw[← List.flatMap_append,List.take_append_drop]
 rw[this,List.getElem?_append_left (List.getElem?_eq_some_iff.1 hu).1];exact hu
theorem kr(L:List Tk.T4)(p:Option Addr)(cap:Nat)(P:List ByteArray)(g O cp:Nat)(w:World)(hL:TkAt w L (.slice p L.length cap))(hs:∀t∈ L,t.t.text.size≤9223372036854775807)(hP:PtA w P g O)(hn:P.length≤1000) :
 Calls Tryz.prog 89 #[.slice p L.length cap,.slice (some ⟨g,O,none⟩) P.length cp] w fun e w'=>e=.returned (.bool (Pg.bg L P))∧Below w.heap.size w w':=by
 have hcap:L.length≤cap:=by obtain⟨p',cap',e,h2,-⟩:=hL;injection e with e1 e2 e3;omega
 by_cases hl:P.length≤L.length
 ·have b0:(P.length:Int)≤(L.length:Int):=by omega
  have b1:(P.length:Int)≤(cap:Int):=(by omega);have b2:(0:Int)≤(P.length:Int):=(by omega);have ht:(L.take P.length).length=P.length:=(by rw[List.length_take];omega);have SH:=hid (zt (L.take P.length) p cap P g O cp w (K9 hL _ hl) (fun t ht=>hs t (List.mem_of_mem_take ht)) hP hn);rw[ht] at SH;have RQ:Hid (Pg.bg L P=Pg.sh (L.take P.length) P):=(by unfold Hid Pg.bg;rw[decide_eq_true hl,Bool.true_and]);rw[RQ.out];generalize Pg.sh (L.take P.length) P=R at *;clear hL hs hP hl ht RQ;go_enter Tryz.func89,Tryz.ntmps89;go_wp2_with (go_at_call 91;refine SH.out.mono ?_;rintro e w1 ⟨rfl,hb⟩;have B:=hid hb;clear hb);go_ret;exact⟨rfl,B.out⟩
 ·have b0:¬(P.length:Int)≤(L.length:Int):=by omega
  have RQ:Hid (Pg.bg L P=false):=(by unfold Hid Pg.bg;rw[decide_eq_false hl,Bool.false_and]);rw[RQ.out];clear hL hs hP hl RQ;go_enter Tryz.func89,Tryz.ntmps89;go_wp2_with fail;go_ret;exact⟨rfl,Below.refl _ _⟩
def UE(L:List Tk.T4)(w:World)(e:Ending)(w':World):Prop:=∃c:Ch,e=.returned (.tuple #[.agg #[.int .i64 c.a.op,.int .i64 c.a.num,.string c.a.name,.slice c.a.ptr (len c.k) c.a.cap],.bool (decide (yM L < 0))])∧(∀x j,Pz.pv L .ex 0=(some x,j)→Pz.nr c=x∧ExAt w' c.b c.o c.a c.k∧∀r,r < w.heap.size→Pz.FNe r c.k c.b)∧Below w.heap.size w w'
theorem xC{L:List Tk.T4}{w W:World}{e:Ending}(h:UE L w e W):UE L w e W.drew:=by
 obtain⟨c,h1,h2,h3⟩:=h;exact⟨c,h1,fun x j hx=>⟨(h2 x j hx).1,⟨(h2 x j hx).2.1.1,(h2 x j hx).2.1.2.next ((Below.refl _ _).drew)⟩,(h2 x j hx).2.2⟩,h3.drew⟩
theorem zB{fn:Func}{p u:Tmp}{ty:TypeId}(h:fn.results=#[.cell p ty,.tmp u])(tmps:Array Value)(P:Program)(w:World) :
 (results fn tmps).run P w=((asAddr (tmps.getD p undef)).run P w).andThen fun a w₁=>((loadVar ty a).run P w₁).andThen fun x w₂=>.ok (.tuple #[x,tmps.getD u undef]) w₂:=by
 simp only[results,h];simp[Sem.run_bind,Result.andThen]
theorem Yo(L:List Tk.T4)(p:Option Addr)(cap:Nat)(w:World)(hV:∀t∈ L,VT t.t)(ht:TkB w L p w.heap.size) :
 Calls Tryz.prog 90 #[.slice p L.length cap] w (UE L w):=by
 have TB:=hid ht;have HV:=hid hV;have hL4:=ht.1;clear ht hV;go_enter Tryz.func90,Tryz.ntmps90;go_wp2_with fail
 have S1:Hid (PSt ((w.alloc (.cells #[.int .i64 0,.int .i64 0,.string ⟨#[]⟩,.slice none 0 0] 24)).alloc (.cells #[.slice p L.length cap,.int .i64 0] 64)) (w.heap.size+1) L p cap 0):=by
  have h9:=TB.out.below (((Below.refl w.heap.size w).alloc (Nat.le_refl _) (.cells #[.int .i64 0,.int .i64 0,.string ⟨#[]⟩,.slice none 0 0] 24)).alloc (by simp) (.cells #[.slice p L.length cap,.int .i64 0] 64)) (Nat.le_refl _);refine⟨by simp[go_sem],by simp[go_sem],by simp[go_sem],by simp,⟨h9.1,fun q=>?_⟩,Nat.zero_le _⟩;obtain⟨g,O,e,hg,hc⟩:=h9.2 q;exact⟨g,O,e,by omega,hc⟩
 have B1:Hid (Below w.heap.size w ((w.alloc (.cells #[.int .i64 0,.int .i64 0,.string ⟨#[]⟩,.slice none 0 0] 24)).alloc (.cells #[.slice p L.length cap,.int .i64 0] 64))):=((Below.refl _ _).alloc (Nat.le_refl _) _).alloc (by simp) _;have R1:Hid (Pz.B4 ((w.alloc (.cells #[.int .i64 0,.int .i64 0,.string ⟨#[]⟩,.slice none 0 0] 24)).alloc (.cells #[.slice p L.length cap,.int .i64 0] 64)) w.heap.size Pz.z0):=(Pz.b4_alloc w Pz.z0 _ rfl _).next ((Below.refl _ _).alloc (Nat.le_refl _) _)
 have hs1:w.heap.size+1 < ((w.alloc (.cells #[.int .i64 0,.int .i64 0,.string ⟨#[]⟩,.slice none 0 0] 24)).alloc (.cells #[.slice p L.length cap,.int .i64 0] 64)).heap.size:=by simp
 generalize (w.alloc (.cells #[.int .i64 0,.int .i64 0,.string ⟨#[]⟩,.slice none 0 0] 24)).alloc (.cells #[.slice p L.length cap,.int .i64 0] 64)=w1 at *;refine(xi L HV.out 0 (Nat.zero_le _) (w.heap.size+1) p cap w1 S1.out).mono ?_;rintro e w2 ⟨c,rfl,hf⟩
 have BT:Hid (yM L=match Pz.pv L .ex 0 with
  | (some _,j)=>if j < L.length then (j:Int) else -1
  | (none,j)=>(j:Int)):=rfl
 obtain⟨r0,hr0⟩:∃r0,Pz.pv L .ex 0=r0:=⟨_,rfl⟩;rw[hr0] at hf BT ⊢;have PV:=hid hr0;clear hr0;obtain⟨o,j⟩:=r0;dsimp only at BT hf ⊢;have F2:=hid hf.1;have S2:=hid hf.2.1;have G2:=hid hf.2.2;have R2:=hid (R1.out.grown hf.2.2 (by simp));have B2:Hid (Below w.heap.size w w2):=B1.out.trans (Pz.below_of_gb G2.out (by omega) hs1);have hjl:j≤L.length:=S2.out.le;clear hf B1 S1 R1;go_upto_region 3 with (fail);have X3:Hid (Pz.B4 (w2.alloc (.cells #[.int .i64 c.a.op,.int .i64 c.a.num,.string c.a.name,.slice c.a.ptr (len c.k) c.a.cap] 24)) w2.heap.size c):=Pz.b4_alloc w2 c _ rfl _;have N3:Hid (Below w2.heap.size w2 (w2.alloc (.cells #[.int .i64 c.a.op,.int .i64 c.a.num,.string c.a.name,.slice c.a.ptr (len c.k) c.a.cap] 24))):=(Below.refl _ _).alloc (Nat.le_refl _) _;have hs2:w.heap.size+1 < w2.heap.size:=Nat.lt_of_lt_of_le hs1 G2.out.size;obtain⟨xb,hxb⟩:∃xb,w2.heap.size=xb:=⟨_,rfl⟩;rw[hxb] at X3;rw[hxb];have hxs:w.heap.size+1 < xb:=by omega
 have hxr:xb≠w.heap.size:=by omega
 have hrx:w.heap.size≠xb:=by omega
 have B3:=hid (B2.out.trans (N3.out.mono B2.out.size));have R3:=hid (R2.out.next N3.out)
 have FX:Hid (∀x,o=some x→Pz.nr c=x∧ExAt (w2.alloc (.cells #[.int .i64 c.a.op,.int .i64 c.a.num,.string c.a.name,.slice c.a.ptr (len c.k) c.a.cap] 24)) c.b c.o c.a c.k∧Pz.FNe w.heap.size c.k c.b):=fun x hx=>by
  obtain⟨h1,h2,h3,h4⟩:=F2.out x hx;exact⟨h1,h2.next N3.out,h4 w.heap.size (by omega) (fun d hd=>by cases hd)⟩
 have S3:=hid (S2.out.below N3.out hs2);have FR:Hid (∀x,o=some x→∀r,r < w.heap.size→Pz.FNe r c.k c.b):=fun x hx r hr=>(F2.out x hx).2.2.2 r (by omega) (fun d hd=>by cases hd);generalize w2.alloc (.cells #[.int .i64 c.a.op,.int .i64 c.a.num,.string c.a.name,.slice c.a.ptr (len c.k) c.a.cap] 24)=w3 at *;clear F2 S2 G2 R2 B2 N3 hxb
 have TX:Hid (∀b:Bool,b=decide (yM L < 0)→UE L w (.returned (.tuple #[.agg #[.int .i64 c.a.op,.int .i64 c.a.num,.string c.a.name,.slice c.a.ptr (len c.k) c.a.cap],.bool b])) ((((w3.setCell ⟨w.heap.size,0,none⟩ (.int .i64 c.a.op)).setCell ⟨w.heap.size,1,none⟩ (.int .i64 c.a.num)).setCell ⟨w.heap.size,2,none⟩ (.string c.a.name)).setCell ⟨w.heap.size,3,none⟩ (.slice c.a.ptr (len c.k) c.a.cap))):=fun b hbq=>by
  subst hbq;refine⟨c,rfl,fun x j9 hx=>?_,B3.out.trans (Pz.below_of_gb (Pz.gb_four w3 w.heap.size _ _ _ _) (Nat.le_refl _) R3.out.lt)⟩;rw[PV.out] at hx;obtain⟨q1,q2,q3⟩:=FX.out x (by injection hx);exact⟨q1,⟨q2.1,Pz.fat_grown q2.2 q3 (Pz.gb_four _ _ _ _ _ _)⟩,FR.out x (by injection hx)⟩
 have c1:=S3.out.c1;obtain⟨x0,x1,x2,x3,-,-,-,-,xl⟩:=X3.out;obtain⟨r0,r1,r2,r3,f0,f1,f2,f3,rl⟩:=R3.out;dsimp only[Pz.z0,len] at r0 r1 r2 r3 f0 f1 f2 f3 rl;have sl:=S3.out.lt;cases o with
 | none =>
   have T:=hid (TX.out false (decide_eq_false (by rw[BT.out];dsimp only;omega)).symm);clear TX BT FX FR S3 X3 R3;dsimp only[Option.isSome]
   go_region
   all_goals
    go_wp2;refine bodyPost_ret (v:=.tuple #[.agg #[.int .i64 c.a.op,.int .i64 c.a.num,.string c.a.name,.slice c.a.ptr (len c.k) c.a.cap],.bool false]) ?_ rfl ?_
    ·rw [zB rfl];go_simp
    ·first|exact T.out|exact xC T.out
 | some x =>
   by_cases hj:j < L.length
   ·have bj:((j:Int)==(L.length:Int))=false:=by simp;omega
    have T:=hid (TX.out false (decide_eq_false (by rw[BT.out];dsimp only;rw[if_pos hj];omega)).symm);clear TX BT FX FR S3 X3 R3 hj;dsimp only[Option.isSome]
    go_region
    all_goals
     go_wp2;refine bodyPost_ret (v:=.tuple #[.agg #[.int .i64 c.a.op,.int .i64 c.a.num,.string c.a.name,.slice c.a.ptr (len c.k) c.a.cap],.bool false]) ?_ rfl ?_
     ·rw [zB rfl];go_simp
     ·first|exact T.out|exact xC T.out
   ·have bj:((j:Int)==(L.length:Int))=true:=by simp;omega
    have T:=hid (TX.out true (decide_eq_true (by rw[BT.out];dsimp only;rw[if_neg hj];omega)).symm);clear TX BT FX FR S3 X3 R3 hj;dsimp only[Option.isSome]
    go_region
    all_goals
     go_wp2;refine bodyPost_ret (v:=.tuple #[.agg #[.int .i64 c.a.op,.int .i64 c.a.num,.string c.a.name,.slice c.a.ptr (len c.k) c.a.cap],.bool true]) ?_ rfl ?_
     ·rw [zB rfl];go_simp
     ·first|exact T.out|exact xC T.out
def up(rb:Nat)(s:ByteArray):Option Addr:=if Pg.tgt s=6 then none else some ⟨rb,if Pg.tgt s=5 then 13 else Pg.tgt s,none⟩
theorem yQ(rb:Nat)(k:Int)(s:ByteArray)(n a:Int)(w:World) :
 Calls Tryz.prog 132 #[.pointer (some ⟨rb,0,none⟩),.agg #[.int .i64 k,.string s,.int .i64 n,.int .i64 a]] w fun e w'=>e=.returned (.pointer (up rb s))∧Below w.heap.size w w':=by
 by_cases h0:s=Pc.wReport
 case pos =>
  have q0:(s.toList==[114,101,112,111,114,116])=true:=zH h0 rfl;have T:Hid (up rb s=some ⟨rb,0,none⟩):=by unfold Hid;rw[h0];rfl
  clear h0;go_enter Tryz.func132,Tryz.ntmps132;go_wp2;go_ret;exact⟨by rw[T.out];rfl,(Below.refl _ _).alloc (Nat.le_refl _) _⟩
 by_cases h1:s=Pc.wRelease
 case pos =>
  have q0:(s.toList==[114,101,112,111,114,116])=false:=yh h0 rfl;have q1:(s.toList==[114,101,108,101,97,115,101])=true:=zH h1 rfl;have T:Hid (up rb s=some ⟨rb,1,none⟩):=by unfold Hid;rw[h1];rfl
  clear h0 h1;go_enter Tryz.func132,Tryz.ntmps132;go_wp2;go_ret;exact⟨by rw[T.out];rfl,(Below.refl _ _).alloc (Nat.le_refl _) _⟩
 by_cases h2:s=Pc.wConnect
 case pos =>
  have q0:(s.toList==[114,101,112,111,114,116])=false:=yh h0 rfl;have q1:(s.toList==[114,101,108,101,97,115,101])=false:=yh h1 rfl;have q2:(s.toList==[99,111,110,110,101,99,116])=true:=zH h2 rfl;have T:Hid (up rb s=some ⟨rb,2,none⟩):=by unfold Hid;rw[h2];rfl
  clear h0 h1 h2;go_enter Tryz.func132,Tryz.ntmps132;go_wp2;go_ret;exact⟨by rw[T.out];rfl,(Below.refl _ _).alloc (Nat.le_refl _) _⟩
 by_cases h3:s=Pc.wSit
 case pos =>
  have q0:(s.toList==[114,101,112,111,114,116])=false:=yh h0 rfl;have q1:(s.toList==[114,101,108,101,97,115,101])=false:=yh h1 rfl;have q2:(s.toList==[99,111,110,110,101,99,116])=false:=yh h2 rfl;have q3:(s.toList==[115,105,116])=true:=zH h3 rfl;have T:Hid (up rb s=some ⟨rb,3,none⟩):=by unfold Hid;rw[h3];rfl
  clear h0 h1 h2 h3;go_enter Tryz.func132,Tryz.ntmps132;go_wp2;go_ret;exact⟨by rw[T.out];rfl,(Below.refl _ _).alloc (Nat.le_refl _) _⟩
 by_cases h4:s=Pc.wLayover
 case pos =>
  have q0:(s.toList==[114,101,112,111,114,116])=false:=yh h0 rfl;have q1:(s.toList==[114,101,108,101,97,115,101])=false:=yh h1 rfl;have q2:(s.toList==[99,111,110,110,101,99,116])=false:=yh h2 rfl;have q3:(s.toList==[115,105,116])=false:=yh h3 rfl;have q4:(s.toList==[108,97,121,111,118,101,114])=true:=zH h4 rfl;have T:Hid (up rb s=some ⟨rb,4,none⟩):=by unfold Hid;rw[h4];rfl
  clear h0 h1 h2 h3 h4;go_enter Tryz.func132,Tryz.ntmps132;go_wp2;go_ret;exact⟨by rw[T.out];rfl,(Below.refl _ _).alloc (Nat.le_refl _) _⟩
 by_cases h5:s=Pc.wGuarantee
 case pos =>
  have q0:(s.toList==[114,101,112,111,114,116])=false:=yh h0 rfl;have q1:(s.toList==[114,101,108,101,97,115,101])=false:=yh h1 rfl;have q2:(s.toList==[99,111,110,110,101,99,116])=false:=yh h2 rfl;have q3:(s.toList==[115,105,116])=false:=yh h3 rfl;have q4:(s.toList==[108,97,121,111,118,101,114])=false:=yh h4 rfl;have q5:(s.toList==[103,117,97,114,97,110,116,101,101])=true:=zH h5 rfl;have T:Hid (up rb s=some ⟨rb,13,none⟩):=by unfold Hid;rw[h5];rfl
  clear h0 h1 h2 h3 h4 h5;go_enter Tryz.func132,Tryz.ntmps132;go_wp2;go_ret;exact⟨by rw[T.out];rfl,(Below.refl _ _).alloc (Nat.le_refl _) _⟩
 have q0:(s.toList==[114,101,112,111,114,116])=false:=yh h0 rfl;have q1:(s.toList==[114,101,108,101,97,115,101])=false:=yh h1 rfl;have q2:(s.toList==[99,111,110,110,101,99,116])=false:=yh h2 rfl;have q3:(s.toList==[115,105,116])=false:=yh h3 rfl;have q4:(s.toList==[108,97,121,111,118,101,114])=false:=yh h4 rfl;have q5:(s.toList==[103,117,97,114,97,110,116,101,101])=false:=yh h5 rfl;have T:Hid (up rb s=none):=by unfold Hid up Pg.tgt;rw[if_neg h0,if_neg h1,if_neg h2,if_neg h3,if_neg h4,if_neg h5];rfl
 clear h0 h1 h2 h3 h4 h5;go_enter Tryz.func132,Tryz.ntmps132;go_wp2;go_ret;exact⟨by rw[T.out];rfl,(Below.refl _ _).alloc (Nat.le_refl _) _⟩
end Go.Proofs.YtcejjdmnlejbaaaGreatDoor
