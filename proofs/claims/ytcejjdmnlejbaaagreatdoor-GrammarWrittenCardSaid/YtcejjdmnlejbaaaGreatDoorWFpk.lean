import Derived.StillTail
import Derived.Test.YtcejjdmnlejbaaaGreatDoorWFca
import Derived.Test.YtcejjdmnlejbaaaGreatDoorProg
namespace Go.Proofs.YtcejjdmnlejbaaaGreatDoor
set_option linter.unusedVariables false
set_option linter.unusedSimpArgs false
open Go.ChangeShapes Go.WideShapes Go.ChangeAt Go.RowKit
open Go.Deep (BT)
open Go.RowKit
namespace Fp
open Pz
def zT:Tk.T3:=⟨0,⟨#[]⟩,0⟩
theorem tok_map{E:List Tk.T4}{M:List Tk.T3}(h:E.map (fun t=>t.t)=M)(i:Nat):Pc.tok E i=M.getD i zT:=by
 subst h;unfold Pc.tok;rw[List.getD_eq_getElem?_getD,List.getElem?_map];cases E[i]?<;>rfl
theorem kd_map{E:List Tk.T4}{M:List Tk.T3}(h:E.map (fun t=>t.t)=M)(i:Nat)(k:Int):Pc.kd E i k=(decide (i < M.length) && decide ((M.getD i zT).kind=k)):=by
 unfold Pc.kd;rw[tok_map h,← h,List.length_map]
theorem isW_map{E:List Tk.T4}{M:List Tk.T3}(h:E.map (fun t=>t.t)=M)(i:Nat)(s:ByteArray):Pc.isW E i s=((decide (i < M.length) && decide ((M.getD i zT).kind=1)) && decide ((M.getD i zT).text=s)):=by
 unfold Pc.isW;rw[kd_map h,tok_map h]
theorem nmd_map{E:List Tk.T4}{M:List Tk.T3}(h:E.map (fun t=>t.t)=M)(i:Nat):Pc.nmd E i=((decide (i < M.length) && decide ((M.getD i zT).kind=1)) && yh (M.getD i zT).text):=by
 unfold Pc.nmd;rw[kd_map h,tok_map h]
theorem bl_snd(l:List P):(bl l).map (fun p=>p.2)=l.map (fun p=>p.2):=by cases l<;>rfl
theorem rest_ex{E:List Tk.T4}{A:List Tk.T3}{c:Ch}(h:E.map (fun t=>t.t)=A++(bl (F c)).map (fun p=>p.2))(hv:qQ c.a c.k=0)(p:Pc.PC)(f:Ch→Pc.PC):Pc.ifEx p (E.drop A.length) f=(f (nr c),0):=by
 have e:(E.drop A.length).map (fun t=>t.t)=(F c).map (fun p=>p.2):=by rw[List.map_drop,h,List.drop_left,bl_snd]
 have q:=read_back c (valE_wf hv) _ e;have b1:kz (E.drop A.length) = -1:=by unfold kz;rw[q];exact if_neg (Nat.lt_irrefl _)
 unfold Pc.ifEx Pc.tree;rw[q,b1,if_neg (by decide)]
def Rd(c:Pc.PC)(l:List (List P))(d:Pc.PC):Prop:=∀i r,Pc.linesT c i (l.map tB++r)=Pc.linesT d (i+l.length) r
theorem Rd.nil(c:Pc.PC):Rd c [] c:=fun i r=>rfl
theorem Rd.app{c d e:Pc.PC}{l m:List (List P)}(h:Rd c l d)(h2:Rd d m e):Rd c (l++m) e:=fun i r=>by
 rw[List.map_append,List.append_assoc,h,h2,List.length_append,Nat.add_assoc]
theorem rd_one{c d:Pc.PC}{l:List P}(hn:Nice l)(hl:l.length≤400)(h0:l≠[])(h:∀E:List Tk.T4,E.map (fun t=>t.t)=l.map (fun p=>p.2)→Pc.declT c E=(d,0)):Rd c [l] d:=by
 intro i r;obtain⟨E,e1,e2⟩:=(scan_text (tB l) l hn.1 hn.2 (tB_list _)).1 hl
 have hE:E≠[]:=by
  rintro rfl;cases l with
  | nil=>exact h0 rfl
  | cons p l=>simp at e1
 show Pc.linesT c i (tB l :: r)=_
 rw[Pc.linesT,e2];dsimp only;rw[if_neg (by decide),if_neg hE,h E e1];dsimp only;rw[if_neg (by decide)];rfl
def setN(c:Pc.PC)(i:Nat)(n:Int):Pc.PC:=match i with
 | 0=>{ c with rep:=n }
 | 1=>{ c with rel:=n }
 | 2=>{ c with con:=n }
 | 3=>{ c with sit:=n }
 | 4=>{ c with lay:=n }
 | _=>{ c with gua:=n }
theorem rd_fld(i:Nat)(hi:i < 6)(w:ByteArray)(hw:w=Pc.fieldsL.getD i ⟨#[]⟩)(n:Int)(hn:0≤n∧n≤1000000)(c:Pc.PC)(hs:c.seen i=false):Rd c [lnF w n] (setN (Pc.setSeen c i) i n):=by
 have hm:w∈ Pc.fieldsL:=by subst hw;match i,hi with|0,_|1,_|2,_|3,_|4,_|5,_=>simp[Pc.fieldsL]
 have hx:Pc.fieldsL.findIdx? (fun s=>decide (s=w))=some i:=by subst hw;match i,hi with|0,_|1,_|2,_|3,_|4,_|5,_=>decide
 refine rd_one (nice_lnF hm hn) (by simp[lnF]) (by simp[lnF]) fun E hE=>?_;have hE':E.map (fun t=>t.t)=[wd w,⟨3,⟨#[]⟩,n⟩]:=hE;have hl:E.length=2:=by have:=congrArg List.length hE';simpa using this
 have t0:(Pc.tok E 0).text=w:=by rw[tok_map hE'];rfl
 have t1:(Pc.tok E 1).num=n:=by rw[tok_map hE'];rfl
 have k0:Pc.kd E 0 1=true:=by rw[kd_map hE'];rfl
 have k1:Pc.kd E 1 3=true:=by rw[kd_map hE'];rfl
 unfold Pc.declT;rw[k0,if_neg (by decide),t0,hx];dsimp only;unfold Pc.fieldT;rw[if_neg (by rw[hl,k1];simp),if_neg (by omega),hs,if_neg (by decide)]
 match i,hi with
 | 0,_|1,_|2,_|3,_|4,_|5,_=>subst t1;rfl
theorem rd_night(a b:Int)(ha:0≤a∧a≤1439)(hb:0≤b∧b≤1439)(c:Pc.PC)(hs:c.seen 6=false):Rd c [lnN a b] { Pc.setSeen c 6 with nf:=a,nt:=b }:=by
 refine rd_one (nice_lnN ha hb) (by simp[lnN]) (by simp[lnN]) fun E hE=>?_;have hE':E.map (fun t=>t.t)=[wd Pc.wNight,⟨4,⟨#[]⟩,a⟩,wd Pc.wTo,⟨4,⟨#[]⟩,b⟩]:=hE;have hl:E.length=4:=by have:=congrArg List.length hE';simpa using this
 have t0:(Pc.tok E 0).text=Pc.wNight:=by rw[tok_map hE'];rfl
 have t1:(Pc.tok E 1).num=a:=by rw[tok_map hE'];rfl
 have t3:(Pc.tok E 3).num=b:=by rw[tok_map hE'];rfl
 have k0:Pc.kd E 0 1=true:=by rw[kd_map hE'];rfl
 have k1:Pc.kd E 1 4=true:=by rw[kd_map hE'];rfl
 have k2:Pc.isW E 2 Pc.wTo=true:=by rw[isW_map hE'];rfl
 have k3:Pc.kd E 3 4=true:=by rw[kd_map hE'];rfl
 have hx:Pc.fieldsL.findIdx? (fun s=>decide (s=Pc.wNight))=some 6:=by decide
 unfold Pc.declT;rw[k0,if_neg (by decide),t0,hx];dsimp only;unfold Pc.fieldT;rw[if_neg (by omega),if_neg (by rw[hl,k1,k2,k3];simp),hs,if_neg (by decide)];exact congrArg (fun z:Int× Int=>({ Pc.setSeen c 6 with nf:=z.1,nt:=z.2 },(0:Int))) (Prod.ext t1 t3:((Pc.tok E 1).num,(Pc.tok E 3).num)=(a,b))
theorem fi_none{w:ByteArray}(h:w∈ [Pc.wConst,Pc.wDuty,Pc.wRest,Pc.wPairing,Pc.wLimit,Pc.wOff]):Pc.fieldsL.findIdx? (fun s=>decide (s=w))=none:=by
 simp only[List.mem_cons,List.not_mem_nil,or_false] at h;rcases h with rfl|rfl|rfl|rfl|rfl|rfl<;>decide
theorem rd_con(x:Cn)(h:yh x.name=true∧qQ x.a x.k=0)(hl:(lnC x).length≤400)(c:Pc.PC):Rd c [lnC x] { c with cs:=c.cs++[(x.name,nr (jd x))] }:=by
 refine rd_one (nice_lnC h.1 h.2) hl (by simp[lnC]) fun E hE=>?_;have hE':E.map (fun t=>t.t)=wd Pc.wConst :: wd x.name :: wd Pc.wIs :: (bl (F (jd x))).map (fun p=>p.2):=hE;have t0:(Pc.tok E 0).text=Pc.wConst:=by rw[tok_map hE'];rfl
 have t1:(Pc.tok E 1).text=x.name:=by rw[tok_map hE'];rfl
 have k0:Pc.kd E 0 1=true:=by rw[kd_map hE'];simp[wd]
 have k1:Pc.nmd E 1=true:=by rw[nmd_map hE'];simp[wd,h.1]
 have k2:Pc.isW E 2 Pc.wIs=true:=by rw[isW_map hE'];simp[wd]
 unfold Pc.declT;rw[k0,if_neg (by decide),t0,fi_none (by simp)];dsimp only;rw[if_pos ⟨rfl,k1,k2⟩,t1];exact rest_ex (A:=[wd Pc.wConst,wd x.name,wd Pc.wIs]) (c:=jd x) hE' h.2 c _
theorem sc_w{n:Int}(h:1≤n∧n≤3):Pc.scopeT (scW n)=n∧scW n∈ [Pc.wConst,Pc.wDuty,Pc.wRest,Pc.wPairing,Pc.wLimit,Pc.wOff]∧scW n≠Pc.wConst:=by
 rcases(show n=1∨n=2∨n=3 by omega) with rfl|rfl|rfl<;>exact⟨by decide,by simp[scW],by decide⟩
theorem rd_rul(x:Ru)(h:(1≤x.sc∧x.sc≤3)∧yh x.name=true∧qQ x.a x.k=0)(hl:(lnR x).length≤400)(c:Pc.PC):Rd c [lnR x] { c with rs:=c.rs++[(x.sc,x.name,nr (j7 x))] }:=by
 refine rd_one (nice_lnR h.2.1 h.2.2) hl (by simp[lnR]) fun E hE=>?_;have hE':E.map (fun t=>t.t)=wd (scW x.sc) :: wd Pc.wRule :: wd x.name :: wd Pc.wIs :: (bl (F (j7 x))).map (fun p=>p.2):=hE;obtain⟨s1,s2,s3⟩:=sc_w h.1;have t0:(Pc.tok E 0).text=scW x.sc:=by rw[tok_map hE'];rfl
 have t2:(Pc.tok E 2).text=x.name:=by rw[tok_map hE'];rfl
 have k0:Pc.kd E 0 1=true:=by rw[kd_map hE'];simp[wd]
 have k1:Pc.isW E 1 Pc.wRule=true:=by rw[isW_map hE'];simp[wd]
 have k2:Pc.nmd E 2=true:=by rw[nmd_map hE'];simp[wd,h.2.1]
 have k3:Pc.isW E 3 Pc.wIs=true:=by rw[isW_map hE'];simp[wd]
 unfold Pc.declT;rw[k0,if_neg (by decide),t0,fi_none s2];dsimp only;rw[if_neg (fun q=>s3 q.1),s1,if_pos ⟨by omega,k1,k2,k3⟩,t2];exact rest_ex (A:=[wd (scW x.sc),wd Pc.wRule,wd x.name,wd Pc.wIs]) (c:=j7 x) hE' h.2.2 c _
theorem rd_cos(x:Co)(h:(1≤x.sc∧x.sc≤3)∧qQ x.a x.k=0)(hl:(lnO x).length≤400)(c:Pc.PC):Rd c [lnO x] { c with os:=c.os++[(x.sc,nr (jc x))] }:=by
 refine rd_one (nice_lnO h.2) hl (by simp[lnO]) fun E hE=>?_;have hE':E.map (fun t=>t.t)=wd (scW x.sc) :: wd Pc.wCost :: wd Pc.wIs :: (bl (F (jc x))).map (fun p=>p.2):=hE;obtain⟨s1,s2,s3⟩:=sc_w h.1;have t0:(Pc.tok E 0).text=scW x.sc:=by rw[tok_map hE'];rfl
 have k0:Pc.kd E 0 1=true:=by rw[kd_map hE'];simp[wd]
 have k1:Pc.isW E 1 Pc.wCost=true:=by rw[isW_map hE'];simp[wd]
 have k1':Pc.isW E 1 Pc.wRule=false:=by rw[isW_map hE',Bool.and_eq_false_iff];exact .inr (decide_eq_false (show ¬Pc.wCost=Pc.wRule by decide))
 have k2:Pc.isW E 2 Pc.wIs=true:=by rw[isW_map hE'];simp[wd]
 unfold Pc.declT;rw[k0,if_neg (by decide),t0,fi_none s2];dsimp only;rw[if_neg (fun q=>s3 q.1),s1,if_neg (fun q=>by rw[k1'] at q;exact absurd q.2.1 (by decide)),if_pos ⟨by omega,k1,k2⟩];exact rest_ex (A:=[wd (scW x.sc),wd Pc.wCost,wd Pc.wIs]) (c:=jc x) hE' h.2 c _
theorem rd_cre(x:Ch)(h:qQ x.a x.k=0)(hl:(lnK x).length≤400)(c:Pc.PC):Rd c [lnK x] { c with cr:=c.cr++[nr x] }:=by
 refine rd_one (nice_lnK h) hl (by simp[lnK]) fun E hE=>?_;have hE':E.map (fun t=>t.t)=wd Pc.wDuty :: wd Pc.wCredit :: wd Pc.wIs :: (bl (F x)).map (fun p=>p.2):=hE;have t0:(Pc.tok E 0).text=Pc.wDuty:=by rw[tok_map hE'];rfl
 have k0:Pc.kd E 0 1=true:=by rw[kd_map hE'];simp[wd]
 have k1:Pc.isW E 1 Pc.wCredit=true:=by rw[isW_map hE'];simp[wd]
 have k1':Pc.isW E 1 Pc.wRule=false:=by rw[isW_map hE',Bool.and_eq_false_iff];exact .inr (decide_eq_false (show ¬Pc.wCredit=Pc.wRule by decide))
 have k1'':Pc.isW E 1 Pc.wCost=false:=by rw[isW_map hE',Bool.and_eq_false_iff];exact .inr (decide_eq_false (show ¬Pc.wCredit=Pc.wCost by decide))
 have k2:Pc.isW E 2 Pc.wIs=true:=by rw[isW_map hE'];simp[wd]
 unfold Pc.declT;rw[k0,if_neg (by decide),t0,fi_none (by simp)];dsimp only;rw[if_neg (fun q=>absurd q.1 (by decide)),if_neg (fun q=>by rw[k1'] at q;exact absurd q.2.1 (by decide)),if_neg (fun q=>by rw[k1''] at q;exact absurd q.2.1 (by decide)),if_pos ⟨rfl,k1,k2⟩];exact rest_ex (A:=[wd Pc.wDuty,wd Pc.wCredit,wd Pc.wIs]) (c:=x) hE' h c _
theorem rd_lim(x:Li)(h:yh x.name=true∧qW x.meas≠0∧(0≤x.most∧x.most≤599999)∧(1≤x.days∧x.days≤31))(c:Pc.PC):Rd c [lnL x] { c with ls:=c.ls++[x] }:=by
 refine rd_one (nice_lnL h.1 h.2.1 h.2.2.1 h.2.2.2) (by simp[lnL]) (by simp[lnL]) fun E hE=>?_;have hE':E.map (fun t=>t.t)=[wd Pc.wLimit,wd x.name,wd Pc.wIs,wd x.meas,(amt x.meas x.most).2,wd Pc.wIn,⟨2,⟨#[]⟩,x.days⟩,wd Pc.wDays]:=hE;have hl:E.length=8:=by have:=congrArg List.length hE';simpa using this
 have t0:(Pc.tok E 0).text=Pc.wLimit:=by rw[tok_map hE'];rfl
 have t1:(Pc.tok E 1).text=x.name:=by rw[tok_map hE'];rfl
 have t3:(Pc.tok E 3).text=x.meas:=by rw[tok_map hE'];rfl
 have t4:(Pc.tok E 4).num=x.most:=by rw[tok_map hE'];show(amt x.meas x.most).2.num=_;unfold amt;split<;>rfl
 have t6:(Pc.tok E 6).num=x.days:=by rw[tok_map hE'];rfl
 have k0:Pc.kd E 0 1=true:=by rw[kd_map hE'];rfl
 have k1:Pc.nmd E 1=true:=by rw[nmd_map hE'];simp[wd,h.1]
 have k2:Pc.isW E 2 Pc.wIs=true:=by rw[isW_map hE'];rfl
 have k3:Pc.kd E 3 1=true:=by rw[kd_map hE'];rfl
 have k5:Pc.isW E 5 Pc.wIn=true:=by rw[isW_map hE'];rfl
 have k6:Pc.kd E 6 2=true:=by rw[kd_map hE'];rfl
 have k7:Pc.isW E 7 Pc.wDays=true:=by rw[isW_map hE'];rfl
 have k4:(qW x.meas=2∧Pc.kd E 4 3=true)∨(qW x.meas=1∧Pc.kd E 4 2=true):=by
  rw[kd_map hE',kd_map hE']
  show(_∧(decide (4 < 8) && decide ((amt x.meas x.most).2.kind=3))=true)∨(_∧(decide (4 < 8) && decide ((amt x.meas x.most).2.kind=2))=true)
  unfold amt;rcases meas_ty x.meas with q|q|q
  ·exact absurd q h.2.1
  ·rw[if_neg (by omega)];exact .inr ⟨q,rfl⟩
  ·rw[if_pos q];exact .inl ⟨q,rfl⟩
 unfold Pc.declT;rw[k0,if_neg (by decide),t0,fi_none (by simp)];dsimp only;have sc:Pc.scopeT Pc.wLimit=0:=by decide
 rw[if_neg (fun q=>absurd q.1 (by decide)),sc,if_neg (fun q=>q.1 rfl),if_neg (fun q=>q.1 rfl),if_neg (fun q=>absurd q.1 (by decide)),if_pos ⟨rfl,hl,k1,k2,k3,k5,k6,k7⟩,t3,if_pos k4,t1,t4,t6]
theorem rd_off(x:Of)(h:yh x.name=true∧(1≤x.days∧x.days≤31)∧(1≤x.count∧x.count≤x.days))(c:Pc.PC):Rd c [lnU x] { c with fs:=c.fs++[x] }:=by
 refine rd_one (nice_lnU h.1 h.2.1 h.2.2) (by simp[lnU]) (by simp[lnU]) fun E hE=>?_;have hE':E.map (fun t=>t.t)=[wd Pc.wOff,wd x.name,wd Pc.wIs,⟨2,⟨#[]⟩,x.count⟩,wd Pc.wIn,⟨2,⟨#[]⟩,x.days⟩,wd Pc.wDays]:=hE;have hl:E.length=7:=by have:=congrArg List.length hE';simpa using this
 have t0:(Pc.tok E 0).text=Pc.wOff:=by rw[tok_map hE'];rfl
 have t1:(Pc.tok E 1).text=x.name:=by rw[tok_map hE'];rfl
 have t3:(Pc.tok E 3).num=x.count:=by rw[tok_map hE'];rfl
 have t5:(Pc.tok E 5).num=x.days:=by rw[tok_map hE'];rfl
 have k0:Pc.kd E 0 1=true:=by rw[kd_map hE'];rfl
 have k1:Pc.nmd E 1=true:=by rw[nmd_map hE'];simp[wd,h.1]
 have k2:Pc.isW E 2 Pc.wIs=true:=by rw[isW_map hE'];rfl
 have k3:Pc.kd E 3 2=true:=by rw[kd_map hE'];rfl
 have k4:Pc.isW E 4 Pc.wIn=true:=by rw[isW_map hE'];rfl
 have k5:Pc.kd E 5 2=true:=by rw[kd_map hE'];rfl
 have k6:Pc.isW E 6 Pc.wDays=true:=by rw[isW_map hE'];rfl
 unfold Pc.declT;rw[k0,if_neg (by decide),t0,fi_none (by simp)];dsimp only;have sc:Pc.scopeT Pc.wOff=0:=by decide
 rw[if_neg (fun q=>absurd q.1 (by decide)),sc,if_neg (fun q=>q.1 rfl),if_neg (fun q=>q.1 rfl),if_neg (fun q=>absurd q.1 (by decide)),if_neg (fun q=>absurd q.1 (by decide)),if_pos ⟨rfl,hl,k1,k2,k3,k4,k5,k6⟩,t1,t3,t5]
theorem rd_row{α β:Type}(ln:α→List P)(g:α→β)(up:Pc.PC→List β→Pc.PC)(h0:∀c,up c []=c)(h1:∀c b l,up (up c [b]) l=up c (b :: l)):∀(L:List α)(c:Pc.PC),(∀x∈ L,∀c,Rd c [ln x] (up c [g x]))→Rd c (L.map ln) (up c (L.map g))
 | [],c,_=>by rw[List.map_nil,List.map_nil,h0];exact Rd.nil c
 | x :: L,c,h=>by
   rw[List.map_cons,List.map_cons,← h1];exact Rd.app (l:=[ln x]) (h x (List.mem_cons_self ..) c) (rd_row ln g up h0 h1 L _ fun y hy=>h y (List.mem_cons_of_mem _ hy))
theorem rd_head(c:Ct)(h:CtG c):∃sn,Rd Pc.pc0 (lnH c) ⟨c.rep,c.rel,c.con,c.sit,c.lay,c.nf,c.nt,c.gua,sn,[],[],[],[],[],[]⟩:=by
 obtain⟨n0,n1,n2,n3,n4,n5,n6,n7,-⟩:=h;have r0:=rd_fld 0 (by decide) Pc.wReport rfl c.rep ⟨n0.1,by omega⟩ Pc.pc0 rfl;have r1:=r0.app (rd_fld 1 (by decide) Pc.wRelease rfl c.rel ⟨n1.1,by omega⟩ _ rfl);have r2:=r1.app (rd_fld 2 (by decide) Pc.wConnect rfl c.con ⟨n2.1,by omega⟩ _ rfl);have r3:=r2.app (rd_fld 3 (by decide) Pc.wSit rfl c.sit ⟨n3.1,by omega⟩ _ rfl);have r4:=r3.app (rd_fld 4 (by decide) Pc.wLayover rfl c.lay ⟨n4.1,by omega⟩ _ rfl);have r5:=r4.app (rd_fld 5 (by decide) Pc.wGuarantee rfl c.gua ⟨n7.1,by omega⟩ _ rfl);exact⟨_,r5.app (rd_night c.nf c.nt n5 n6 _ rfl)⟩
theorem rd_all(c:Ct)(h:CtG c)(hl:∀l∈ linL c,l.length≤400):∃d,(∀i,Pc.linesT Pc.pc0 i ((linL c).map tB)=(d,0,0))∧us d ⟨c.cs,c.rs,c.os,yv c.cr,c.ls,c.fs⟩={ c with cr:=qC (yv c.cr) }∧SixE d ⟨c.cs,c.rs,c.os,yv c.cr,c.ls,c.fs⟩:=by
 obtain⟨sn,r0⟩:=rd_head c h
 have mem:∀ {l},(l∈ c.cs.map lnC∨l∈ c.rs.map lnR∨l∈ c.os.map lnO∨l∈ (yv c.cr).map lnK)→l.length≤400:=fun q=>hl _ (by
  unfold linL;simp only[List.mem_append];rcases q with q|q|q|q<;>simp[q])
 have r1:=r0.app (rd_row lnC (fun x=>(x.name,nr (jd x))) (fun c l=>{ c with cs:=c.cs++l }) (fun c=>by rw[List.append_nil]) (fun c b l=>by dsimp only;rw[List.append_assoc];rfl) c.cs _ fun x hx c=>rd_con x (h.cs x hx) (mem (.inl (List.mem_map_of_mem hx))) c);have r2:=r1.app (rd_row lnR (fun x=>(x.sc,x.name,nr (j7 x))) (fun c l=>{ c with rs:=c.rs++l }) (fun c=>by rw[List.append_nil]) (fun c b l=>by dsimp only;rw[List.append_assoc];rfl) c.rs _ fun x hx c=>rd_rul x (h.rs x hx) (mem (.inr (.inl (List.mem_map_of_mem hx)))) c);have r3:=r2.app (rd_row lnO (fun x=>(x.sc,nr (jc x))) (fun c l=>{ c with os:=c.os++l }) (fun c=>by rw[List.append_nil]) (fun c b l=>by dsimp only;rw[List.append_assoc];rfl) c.os _ fun x hx c=>rd_cos x (h.os x hx) (mem (.inr (.inr (.inl (List.mem_map_of_mem hx))))) c);have r4:=r3.app (rd_row lnK (fun x=>nr x) (fun c l=>{ c with cr:=c.cr++l }) (fun c=>by rw[List.append_nil]) (fun c b l=>by dsimp only;rw[List.append_assoc];rfl) (yv c.cr) _ fun x hx c=>rd_cre x (h.cr x hx) (mem (.inr (.inr (.inr (List.mem_map_of_mem hx))))) c);have r5:=r4.app (rd_row lnL (fun x=>x) (fun c l=>{ c with ls:=c.ls++l }) (fun c=>by rw[List.append_nil]) (fun c b l=>by dsimp only;rw[List.append_assoc];rfl) c.ls _ fun x hx c=>rd_lim x (h.ls x hx) c);have r6:=r5.app (rd_row lnU (fun x=>x) (fun c l=>{ c with fs:=c.fs++l }) (fun c=>by rw[List.append_nil]) (fun c b l=>by dsimp only;rw[List.append_assoc];rfl) c.fs _ fun x hx c=>rd_off x (h.fs x hx) c);refine⟨⟨c.rep,c.rel,c.con,c.sit,c.lay,c.nf,c.nt,c.gua,sn,[]++c.cs.map (fun x=>(x.name,nr (jd x))),[]++c.rs.map (fun x=>(x.sc,x.name,nr (j7 x))),[]++c.os.map (fun x=>(x.sc,nr (jc x))),[]++(yv c.cr).map (fun x=>nr x),[]++c.ls.map (fun x=>x),[]++c.fs.map (fun x=>x)⟩,fun i=>?_,?_,?_⟩
 ·exact((congrArg (Pc.linesT Pc.pc0 i) (List.append_nil _).symm).trans (r6 i [])).trans rfl
 ·rfl
 ·refine ⟨rfl,rfl,rfl,rfl,?_,?_⟩
  ·exact(List.map_id _).symm
  ·exact(List.map_id _).symm
end Fp
namespace Fp
open Pz
theorem tb_byte{t:Tk.T3}(h:VT t):∀b∈ tb t,33≤b.toNat∧b.toNat≤126:=by
 intro b hb;rcases QT (t:=⟨t,0⟩) h with ⟨-,hw,-⟩|⟨he,hp,hs⟩
 ·have q:=hw b hb;unfold Tk.inW at q;rw[decide_eq_true_eq] at q;omega
 ·have ym:(tx ⟨t,0⟩).size=(tb t).length:=(qe _).symm;rw[ym] at hp hs;have q:=xr hs hp b hb;unfold Tk.inS at q;rw[decide_eq_true_eq] at q;omega
theorem bts_byte{l:List P}(h:VL l):∀b∈ bts l,32≤b.toNat∧b.toNat≤126:=by
 intro b hb;unfold bts at hb;rw[List.mem_flatMap] at hb;obtain⟨p,hp,hb⟩:=hb;unfold pb at hb
 split at hb
 ·rcases List.mem_cons.1 hb with rfl|hb
  ·decide
  ·have:=tb_byte (h p hp) b hb;omega
 ·have:=tb_byte (h p hp) b hb;omega
def lbs(ls:List (List P)):List UInt8:=ls.flatMap fun l=>bts l++[10]
theorem lbs_cons(l:List P)(ls:List (List P)):lbs (l :: ls)=bts l++(10 :: lbs ls):=by unfold lbs;rw[List.flatMap_cons,List.append_assoc];rfl
theorem okS_all(S:ByteArray)(h:∀b∈ S.data.toList,Ln.okB b=true):∀k,k≤S.size→Ln.okS S k=true
 | 0,_=>rfl
 | k+1,hk=>by
   have hm:S.data.toList.getD k 0∈ S.data.toList:=zu (by rw[qe];omega)
   show(Ln.okS S k && Ln.okB (S.data.toList.getD k 0))=true
   rw[okS_all S h k (by omega),h _ hm];rfl
theorem go_skip(S:ByteArray)(f:Nat)(r:List UInt8):∀(m:List UInt8)(i:Nat),S.data.toList.drop i=m++r→(∀b∈ m,b.toNat≠10)→Ln.go S (S.size - i) i f=Ln.go S (S.size - (i+m.length)) (i+m.length) f
 | [],i,_,_=>rfl
 | b :: m,i,h,hb=>by
   obtain⟨h1,h2,h3⟩:=jM (l:=m++r) h;obtain⟨n,hn⟩:∃n,S.size - i=n+1:=⟨S.size - i - 1,by omega⟩;rw[hn,Ln.go,h2,if_neg (hb b (List.mem_cons_self ..)),show n=S.size - (i+1) by omega,go_skip S f r m (i+1) h3 (fun x hx=>hb x (List.mem_cons_of_mem _ hx)),List.length_cons,show i+1+m.length=i+(m.length+1) by omega]
theorem go_text(S:ByteArray):∀(ls:List (List P))(f:Nat),S.data.toList.drop f=lbs ls→(∀l∈ ls,VL l)→Ln.go S (S.size - f) f f=ls.map tB
 | [],f,h,_=>by
   have hj:=congrArg List.length h;rw[List.length_drop,qe] at hj;have:S.size - f=0:=hj;rw[this,Ln.go,if_neg (by omega)];rfl
 | l :: ls,f,h,hv=>by
   rw[lbs_cons] at h;have hb:∀b∈ bts l,b.toNat≠10:=fun b q=>by have:=bts_byte (hv l (List.mem_cons_self ..)) b q;omega
   rw[go_skip S f _ (bts l) f h hb];have h2:S.data.toList.drop (f+(bts l).length)=10 :: lbs ls:=(by rw[← List.drop_drop,h,List.drop_left]);obtain⟨h3,h4,h5⟩:=jM h2;obtain⟨n,hn⟩:∃n,S.size - (f+(bts l).length)=n+1:=⟨S.size - (f+(bts l).length) - 1,by omega⟩
   have e:S.extract f (f+(bts l).length)=tB l:=by
    have q:=ku S (tB l) f (10 :: lbs ls) h
    rwa [show(tB l).size=(bts l).length from(qe _).symm] at q
   rw[hn,Ln.go,h4,if_pos (by decide),e,show n=S.size - (f+(bts l).length+1) by omega,go_text S ls _ h5 fun x hx=>hv x (List.mem_cons_of_mem _ hx)];rfl
def txC(c:Ct):ByteArray:=⟨(lbs (linL c)).toArray⟩
theorem txC_list(c:Ct):(txC c).data.toList=lbs (linL c):=rfl
def fmC(c:Ct):ByteArray× Int:=if yj c≠0 then (⟨#[]⟩,yj c) else if (linL c).any (fun l=>decide (400 < l.length))=true then (⟨#[]⟩,10) else if 20000 < (txC c).size then (⟨#[]⟩,10) else (txC c,0)
theorem lin_len(c:Ct):(linL c).length=7+c.cs.length+c.rs.length+c.os.length+len c.cr+c.ls.length+c.fs.length:=by
 unfold linL;simp only[List.length_append,List.length_map,yK];rfl
theorem lines_tx(c:Ct)(h:CtG c)(hs:(txC c).size≤20000):Ln.lines (txC c)=((linL c).map tB,0):=by
 have hv:∀l∈ linL c,VL l:=fun l hl=>(nice_lin h l hl).1
 have ho:Ln.okS (txC c) (txC c).size=true:=by
  refine okS_all _ (fun b hb=>?_) _ (Nat.le_refl _);rw[txC_list] at hb;unfold lbs at hb;rw[List.mem_flatMap] at hb;obtain⟨l,hl,hb⟩:=hb;unfold Ln.okB;rw[decide_eq_true_eq];rcases List.mem_append.1 hb with hb|hb
  ·exact .inr (bts_byte (hv l hl) b hb)
  ·rw[List.mem_singleton.1 hb];exact .inl (by decide)
 have hg:=go_text (txC c) (linL c) 0 (by rw[List.drop_zero];rfl) hv;rw[Nat.sub_zero] at hg;have hn:=lin_len c;have hb:=h.l;unfold Ln.lines;rw[if_neg (by omega),ho,if_neg (by decide),hg,List.length_map,if_neg (by omega)]
theorem fm_back(c:Ct)(h:(fmC c).2=0):yj c=0∧(fmC c).1=txC c∧∃d,Pc.readT (txC c)=(d,0,0)∧us d ⟨c.cs,c.rs,c.os,yv c.cr,c.ls,c.fs⟩={ c with cr:=qC (yv c.cr) }∧SixE d ⟨c.cs,c.rs,c.os,yv c.cr,c.ls,c.fs⟩:=by
 unfold fmC at h ⊢
 by_cases h1:yj c≠0
 ·rw[if_pos h1] at h;exact absurd h h1
 rw[if_neg h1] at h ⊢;have h1:yj c=0:=Decidable.not_not.1 h1
 by_cases h2:(linL c).any (fun l=>decide (400 < l.length))=true
 ·rw[if_pos h2] at h;cases h
 rw[if_neg h2] at h ⊢
 by_cases h3:20000 < (txC c).size
 ·rw[if_pos h3] at h;cases h
 rw[if_neg h3];have g:=ctg_of h1
 have hl:∀l∈ linL c,l.length≤400:=fun l hl=>by
  rw[Bool.not_eq_true,List.any_eq_false] at h2;have:=h2 l hl
  simpa using this
 obtain⟨d,e1,e2,e3⟩:=rd_all c g hl;refine⟨h1,rfl,d,?_,e2,e3⟩;unfold Pc.readT;rw[lines_tx c g (by omega)];dsimp only;rw[if_neg (by decide)];exact e1 0
theorem rowF_krow(T:Fo):qC (yv T)=T:=by
 induction T with
 | nil=>rfl
 | node b o a k r _ ih=>show BT.node b o a k (qC (yv r))=_;rw[ih]
theorem rpk_back{c:Ct}{p:Pc.PC}{ln er:Int}{D:Six}(h:(fmC c).2=0)(hr:Vx (fmC c).1 p ln er)(hq:SixE p D):ln=0∧er=0∧SmC (us p D) c:=by
 obtain⟨h1,h2,d,h3,h4,h5⟩:=fm_back c h;rw[h2] at hr;unfold Vx at hr;rw[h3] at hr;dsimp only at hr;rw[rowF_krow] at h4;rcases hr with ⟨q,-⟩|⟨-,E,hE,⟨q,-⟩|⟨-,rfl,rfl,rfl⟩⟩
 ·exact absurd rfl q
 ·exfalso;have g:=uO (hE.smc h5);rw[h4] at g;exact q (g.symm.trans h1)
 ·refine ⟨rfl,rfl,?_⟩;have g:=hq.smc h5;rw[h4] at g;exact g
end Fp
open Go.Sort Go.RowKit
abbrev QC (P:Program) (f:FuncId) (a:Array Value) (v:Value) (w:World):Prop:=∀dq os,Calls P f a (Sort.grow (redrawn w dq) os) fun e w''=>e=.returned v∧∃p:Regrown,w''=Sort.grow (redrawn w p.d) p.os
namespace Qtl
section
variable {P:Program} {ops:Array Oper} {md:Region.Mode} {C:World→Prop}
def sinkB(md:Region.Mode)(ops:Array Oper)(k n:Nat):Bool :=
 (List.range n).all fun i=>decide (i < k) || (List.range (n+1)).any fun j=>decide (i < j) && Region.waitsFor md ops j i
def tailB(md:Region.Mode)(ops:Array Oper)(k n:Nat)(listed:Array Bool):Bool :=
 Region.noSelect ops && decide (n < ops.size) && decide (k≤n) && sinkB md ops k n && Region.chainB md ops n && Region.lexHead md ops (ops.size - n) (n - k) k listed
theorem waits{k n:Nat}{listed:Array Bool}(hs:sinkB md ops k n=true)(hc:Region.chainB md ops n=true)(hn:n < ops.size)(inv:HeadInv md ops n listed) :
 ∀(d i:Nat),n - i=d→k≤i→i < n→listed.getD i true=false→∀t,n≤t→t ∉ Region.ready md ops listed:=by
 intro d
 induction d using Nat.strongRecOn with
 | _ d ih =>
   intro i hd hk hi hun t ht hr;obtain⟨_,ot,hot,hall⟩:=mem_ready.1 hr;have htlt:t < ops.size:=(Array.getElem?_eq_some_iff.1 hot).1
   by_cases htn:t=n
   ·subst htn;have h1:=List.all_eq_true.1 hs i (List.mem_range.2 hi);rw[decide_eq_false (by omega),Bool.false_or] at h1;obtain⟨j,hj,hj2⟩:=List.any_eq_true.1 h1;simp only[Bool.and_eq_true,decide_eq_true_eq] at hj2;obtain⟨oj,hoj,e,he,hb,hon⟩:=Region.waitsFor_spec hj2.2;have hjle:j≤t:=by have:=List.mem_range.1 hj;omega
    by_cases hjt:j=t
    ·subst hjt;have:oj=ot:=Option.some.inj (hoj.symm.trans hot);subst this;have h2:=hall e he hb;rw[hon,getD_both hun] at h2;cases h2
    ·cases hl:listed.getD j false with
     | true =>
       have h2:=inv.closed j oj hoj hl e he hb;rw[hon,getD_both hun] at h2;cases h2
     | false =>
       have hjs:j < listed.size:=(by rw[inv.size];omega);exact ih (t - j) (by omega) j rfl (by omega) (by omega) (getD_in hjs hl) t (Nat.le_refl _) hr
   ·have h1:=List.all_eq_true.1 hc t (List.mem_range.2 htlt);simp only[Bool.or_eq_true,decide_eq_true_eq] at h1;rcases h1 with h1|h1
    ·omega
    ·obtain ⟨o',ho',e,he,hb,hon⟩:=Region.waitsFor_spec h1;have:o'=ot:=Option.some.inj (ho'.symm.trans hot);subst this;have h2:=hall e he hb;rw[hon,getD_both (inv.tail (t - 1) (by omega) (by omega))] at h2;cases h2
def anyT(P:Program)(md:Region.Mode)(ops:Array Oper)(C:World→Prop)(n:Nat)(L:Array Bool→Act→Prop):Nat→Array Bool→Act→Prop
 | 0,listed,a=>L listed a
 | f+1,listed,a =>
   Region.ready md ops listed≠[]∧∀i∈ Region.ready md ops listed,i < n∧qOp P ops C i (anyT P md ops C n L f (listed.setIfInBounds i true)) a
theorem any_of{n g:Nat}{L:Array Bool→Act→Prop}{Q':Exit→Act→World→Prop}(hL:∀listed a w,C w→L listed a→wpAny P md ops Q' g listed a w) :
 ∀(f:Nat) (listed:Array Bool) (a:Act) (w:World),C w→anyT P md ops C n L f listed a→wpAny P md ops Q' (f+g) listed a w
 | 0,listed,a,w,hw,h=>by rw[Nat.zero_add];exact hL _ _ _ hw h
 | f+1,listed,a,w,hw,h=>by
   rw[show f+1+g=(f+g)+1 by omega];exact⟨fun h0=>absurd h0 h.1,fun i hi=>wpOp_of_qOp hw (fun a' w' hw' h'=>any_of hL f _ a' w' hw' h') (h.2 i hi).2⟩
theorem first{k n i:Nat}{oi:Oper}{v:Value}{L:Array Bool→Act→Prop}(hi:ops[i]?=some oi)(hsel:∀(j:Nat)(o:Oper) cs b,ops[j]?=some o→o.op≠.select cs b)
 (hs:sinkB md ops k n=true) (hc:Region.chainB md ops n=true) (hn:n < ops.size) (hk:k≤i) (hin:i < n)
 (hdone:∀listed a,L listed a→∀j∈ Region.ready md ops listed,n≤j) :
 ∀ (f:Nat) (listed:Array Bool) (a:Act),HeadInv md ops n listed→
   (∀j oj,ops[j]?=some oj→j≠i→listed.getD j true=false→(∀e∈ oj.after,Region.binds md e=true→e.on≠i)→oi.apart ops oj=true)→
   i∈ Region.ready md ops listed→YieldsIn P ops C oi v a→
   anyT P md ops C n L f (listed.setIfInBounds i true) (a.put oi.dst v)→anyT P md ops C n L (f+1) listed a:=by
 intro f
 induction f with
 | zero =>
   intro listed a inv _ hr hy H;have hun:=(mem_ready.1 hr).1;refine⟨fun h=>(by rw[h] at hr;cases hr),fun j hj=>?_⟩
   have hjn:j < n:=by
    rcases Nat.lt_or_ge j n with h|h
    ·exact h
    ·exact absurd hj (waits hs hc hn inv _ i rfl hk hin hun j h)
   refine⟨hjn,?_⟩
   by_cases hji:j=i
   ·subst hji;exact hy.qOp hi H
   ·have:=hdone _ _ H j (ready_mono hj hji);omega
 | succ f ih =>
   intro listed a inv hfree hr hy H;have hun:=(mem_ready.1 hr).1;refine⟨fun h=>(by rw[h] at hr;cases hr),fun j hj=>?_⟩
   have hjn:j < n:=by
    rcases Nat.lt_or_ge j n with h|h
    ·exact h
    ·exact absurd hj (waits hs hc hn inv _ i rfl hk hin hun j h)
   refine⟨hjn,?_⟩
   by_cases hji:j=i
   ·subst hji;exact hy.qOp hi H
   ·have h1:=(H.2 j (ready_mono hj hji)).2;obtain⟨hjun,oj,hoj,hall⟩:=mem_ready.1 hj
    have hnot:∀e∈ oj.after,Region.binds md e=true→e.on≠i:=fun e he hb heq=>by
     have h1:=hall e he hb;rw[heq,getD_both hun] at h1;cases h1
    have h2:=qOp_put hoj (hfree j oj hoj hji hjun hnot) (fun cs b=>hsel i oi cs b hi) (fun cs b=>hsel j oj cs b hoj) hy h1
    have hfree':∀k ok,ops[k]?=some ok→k≠i→(listed.setIfInBounds j true).getD k true=false→
     (∀e∈ ok.after,Region.binds md e=true→e.on≠i)→oi.apart ops ok=true:=fun k ok hk hki hun hno=>by
     refine hfree k ok hk hki ?_ hno
     by_cases hjk:j=k
     ·subst hjk;exact hjun
     ·rw[getD_set_ne true hjk] at hun;exact hun
    refine qOp_mono (fun a' h3=>ih (listed.setIfInBounds j true) a' (inv.set hj hjn) hfree' (ready_mono hr (Ne.symm hji)) h3.1 ?_) h2;rw[Array.setIfInBounds_comm _ _ hji];exact h3.2
theorem lex{k0 n g:Nat}{Lq:Act→Prop}(hsel:Region.noSelect ops=true)(hs:sinkB md ops k0 n=true)(hc:Region.chainB md ops n=true)(hn:n < ops.size) :
 ∀(l:List Oper) (k:Nat) (listed:Array Bool) (a:Act),k0≤k→(∀j,j < l.length→l[j]?=ops[k+j]?)→k+l.length=n→HeadInv md ops n listed→
 Region.lexHead md ops g l.length k listed=true→wpQuiet P ops C Lq l a→
 anyT P md ops C n (fun listed' a'=>Region.seqB md ops g n listed'=true∧Lq a') l.length listed a
 | [],k,listed,a,_,hl,hk,_,hB,h=>by
   have:k=n:=(by simpa using hk);subst this;exact⟨by simpa [Region.lexHead] using hB,h⟩
 | o :: l,k,listed,a,hk0,hl,hk,inv,hB,h=>by
   have h0:ops[k]?=some o:=(by simpa using (hl 0 (by simp)).symm);simp only[List.length_cons,Region.lexHead,Bool.and_eq_true] at hB;obtain⟨⟨hr,hf⟩,hB'⟩:=hB;have hkn:k < n:=(by simp only[List.length_cons] at hk;omega);have hr':k∈ Region.ready md ops listed:=(by simpa using hr);have hst:qOp P ops C k (wpQuiet P ops C Lq l) a:=(by unfold qOp;simp only[h0];exact h);obtain⟨v,hy,hK⟩:=yieldsIn_of_qOp h0 hst
   exact first h0 (Region.noSelect_spec hsel) hs hc hn hk0 hkn (fun listed' a' hL=>seqB_ready hL.1) l.length listed a inv (Region.free_spec h0 hf) hr' hy
    (lex hsel hs hc hn l (k+1) _ _ (by omega) (fun j hj=>by have:=hl (j+1) (by simp;omega);simpa [Nat.add_assoc,Nat.add_comm 1 j] using this) (by simp only[List.length_cons] at hk;omega) (inv.set hr' hkn) hB' hK)
theorem inv0(l:List Oper)(n:Nat):HeadInv .any l.toArray n (Array.replicate l.toArray.size false) :=
 ⟨by simp,fun j oj _ hl=>(by rw[getD_replicate_false] at hl;cases hl),fun t _ ht=>getD_in (by simpa using ht) (getD_replicate_false _ _)⟩
theorem core{Q:Exit→Act→World→Prop}{a:Act}{w:World}{l:List Oper}{listed:Array Bool}(k n:Nat)(hC:C w)(inv:HeadInv .any l.toArray n listed)(hB:tailB .any l.toArray k n listed=true)
 (h:wpQuiet P l.toArray C (fun a'=>∀w',C w'→wpList P l.toArray Q (l.drop n) a' w') ((l.take n).drop k) a):wpAny P .any l.toArray Q (l.toArray.size - k) listed a w:=by
 simp only[tailB,Bool.and_eq_true,decide_eq_true_eq] at hB;obtain⟨⟨⟨⟨⟨hsel,hn⟩,hk⟩,hs⟩,hc⟩,hlex⟩:=hB;have hn':n < l.length:=by simpa using hn
 have htl:((l.take n).drop k).length=n - k:=by simp;omega
 have hdl:(l.drop n).length=l.toArray.size - n:=by simp
 have H:=lex (md:=.any) (g:=l.toArray.size - n) hsel hs hc hn ((l.take n).drop k) k listed a (Nat.le_refl _) (fun j hj=>by
  have hj':j < n - k:=by rw[htl] at hj;exact hj
  rw[List.getElem?_drop,List.getElem?_take,if_pos (by omega)];simp) (by rw[htl];omega) inv (by rw[htl];exact hlex) h
 have:=any_of (Q':=Q) (g:=l.toArray.size - n) (fun listed a' w' hw' hL=>by
  have:=wpAny_of_seq (md:=.any) (Q':=Q) (l.drop n) n listed a' w' (fun j=>by simp[List.getElem?_drop]) (by rw[hdl];exact hL.1) (hL.2 w' hw')
  rwa [hdl] at this) _ _ _ w hC H
 rw[htl,show n - k+(l.toArray.size - n)=l.toArray.size - k by omega] at this;exact this
end
theorem region{P:Program}{id:Nat}{Q:Exit→Act→World→Prop}{a:Act}{w:World}{l:List Oper}(n:Nat)(hm:P.follows .mixedOrders=true)(hB:tailB .any l.toArray 0 n (Array.replicate l.toArray.size false)=true)
 (h:wpQuiet P l.toArray (fun w'=>∃p:Regrown,w'=grow (redrawn w p.d) p.os) (fun a'=>∀w',(∃p:Regrown,w'=grow (redrawn w p.d) p.os)→wpList P l.toArray Q (l.drop n) a' w') (l.take n) a):(Code.region id l.toArray true).wp P Q a w :=
 wp_region_any hm (core 0 n ⟨⟨w.drawn+1,#[]⟩,by rw[grow_empty];rfl⟩ (inv0 l n) hB h)
theorem region1{P:Program}{id:Nat}{Q:Exit→Act→World→Prop}{a:Act}{w:World}{l:List Oper}(n:Nat)(v:Value)(o0:Oper)(h0:l.toArray[0]?=some o0)(hm:P.follows .mixedOrders=true)
 (hB:tailB .any l.toArray 1 n ((Array.replicate l.toArray.size false).setIfInBounds 0 true)=true) (hF:Region.free .any l.toArray (Array.replicate l.toArray.size false) 0=true) (hR:(Region.ready .any l.toArray (Array.replicate l.toArray.size false)).contains 0=true)
 (hy:Yields P l.toArray o0 v a)
 (h:wpQuiet P l.toArray (fun w'=>∃p:Regrown,w'=grow (redrawn w p.d) p.os) (fun a'=>∀w',(∃p:Regrown,w'=grow (redrawn w p.d) p.os)→wpList P l.toArray (NoPanic Q) (l.drop n) a' w') ((l.take n).drop 1) (a.put o0.dst v)):(Code.region id l.toArray true).wp P Q a w:=by
 refine wp_region_noPanic (wp_region_any hm ?_);have hB':=hB;simp only[tailB,Bool.and_eq_true,decide_eq_true_eq] at hB';have hn:0 < n:=hB'.1.1.1.2;have hz:0 < l.toArray.size:=by have:=hB'.1.1.1.1.2;omega
 have:=core (P:=P) (C:=fun w'=>∃p:Regrown,w'=grow (redrawn w p.d) p.os) (Q:=NoPanic Q) (w:={ w with drawn:=w.drawn+1 }) 1 n ⟨⟨w.drawn+1,#[]⟩,by rw[grow_empty];rfl⟩ ((inv0 l n).set (by simpa using hR) hn) hB h;have hq:=wpAny_take h0 hB'.1.1.1.1.1 hF hR (fun c a w h=>h) hy this
 rwa [show l.toArray.size - 1+1=l.toArray.size by omega] at hq
end Qtl
def OwS(w:World)(B:Nat)(D:List ByteArray)(v:Value):Prop:=w.ownsRow B 9 1 v D.length (uX D)∧D.length≤100000∧B≤w.heap.size
theorem OwS.next{w w':World}{B:Nat}{D:List ByteArray}{v:Value}(h:OwS w B D v)(hb:Below w.heap.size w w'):OwS w' B D v:=⟨own_below h.1 hb,h.2.1,Nat.le_trans h.2.2 hb.size⟩
theorem OwS.slc{w:World}{B:Nat}{D:List ByteArray}{v:Value}(h:OwS w B D v):∃p cap,v=.slice p D.length cap:=yt h.1
theorem OwS.nil(w:World)(B:Nat)(h:B≤w.heap.size):OwS w B [] (.slice none 0 0):=⟨World.ownsRow_nil _ _ _ _,Nat.zero_le _,h⟩
theorem OwS.get{w:World}{B:Nat}{D:List ByteArray}{p:Option Addr}{n cap:Nat}(h:OwS w B D (.slice p n cap)){i:Nat}{s:ByteArray}(hi:D[i]?=some s):∃g,p=some ⟨g,0,none⟩∧g < w.heap.size∧w.cell? ⟨g,i,none⟩=some (.string s):=by
 obtain⟨h,h0,h1⟩:=h;have q2:=(List.getElem?_eq_some_iff.1 hi).1;rcases h.2 with ⟨hv,h2⟩|⟨g,cap,cur,hv,-⟩
 ·omega
 ·injection hv with e1 e2 e3
  subst e1 e2 e3;refine⟨g,rfl,(h.lt g rfl).2,?_⟩;rw[h.cellAt i (by omega)];unfold uX;rw[List.getElem?_map,hi];rfl
theorem OwS.lit(w:World)(B:Nat)(hB:B≤w.heap.size)(cs:Array Value)(D:List ByteArray)(hc:cs.toList=uX D)(n:Nat)(hn:D.length=n)(h1:n≤1000):OwS (w.alloc (.cells cs 9)) B D (.slice (some ⟨w.heap.size,0,none⟩) n n):=by
 subst hn;refine⟨?_,by omega,by simp;omega⟩;have q:=World.ownsRow_lit (e := 9) (size:=1) w cs D.length hB (by unfold maxLen;omega) (by rw[← Array.length_toList,hc];unfold uX;simp);rw[hc] at q;exact q
theorem yS{ops:Array Oper}{rest:List Oper}{o:Oper}{a:Act}{Q:Exit→Act→World→Prop}{w:World}(hgd:o.guard=none)(s x:Operand)
 (ho:o.op=.call { callee:=.builtin .append,args:=#[s,x],argTypes:=#[73, 73] })
 (B:Nat) (D:List ByteArray) (v:Value) (hs:a.eval s=v) (qi:OwS w B D v) (hD:D.length < 100000) (t:ByteArray) (ad:Addr) (c:Nat) (hx:a.eval x=.slice (some ad) 1 c) (hc:w.cell? (ad.add 0)=some (.string t))
 (h:∀p cap we,OwS we B (D++[t]) (.slice p (D.length+1) cap)→Below B w we→wpList Tryz.prog ops Q rest (a.put o.dst (.slice p (D.length+1) cap)) we):wpList Tryz.prog ops Q (o :: rest) a w:=by
 obtain⟨i0,hi0,hz0,hz1,hz2⟩:=info_parts Tryz.infoSt;refine wpList_append_own_at _ hgd s x 73 ho B 9 i0 (.string ⟨#[]⟩) 1 16 Tryz.underlying73 hi0 hz0 hz1 hz2 rfl (by decide) v D.length (uX D) hs qi.1 ad 1 c [.string t] hx rfl (by intro q u hu;cases q with|zero=>(simp at hu;subst hu;exact hc)|succ q=>simp at hu) (by intro u hu;simp at hu;subst hu;rfl) (by unfold maxLen;omega) (by omega) qi.2.2 ?_;intro v' we ho' hg _ _;obtain⟨p,cap,rfl⟩:=yt ho';refine h p cap we ⟨by rw[YB,List.length_append];exact ho',by rw[List.length_append];show D.length+1≤_;omega,Nat.le_trans qi.2.2 hg.size⟩ ?_;exact(Below.refl B w).grown hg qi.2.2 (fun q hq=>(qi.1.lt q hq).1)
namespace Fp
theorem tBc(p:P)(l:List P):(tB (p :: l)).data.toList=pb p++bts l:=bts_cons p l
theorem app3(a b:ByteArray):(a++b).data.toList=a.data.toList++b.data.toList:=by simp
theorem pb_w(s:ByteArray):pb (qw s)=32 :: s.data.toList:=by unfold pb qw;rw[if_pos rfl,tb_txt (.inl rfl)];rfl
theorem pb_fw(s:ByteArray):pb (fw s)=s.data.toList:=by unfold pb fw;rw[if_neg (by simp),tb_txt (.inl rfl)];rfl
theorem pb_n(n:Int):pb (qn n)=32 :: (ye n).data.toList:=by unfold pb qn;rw[if_pos rfl];rfl
theorem pb_d(n:Int):pb (qd n)=32 :: (zg n).data.toList:=by unfold pb qd;rw[if_pos rfl];rfl
theorem pb_c(n:Int):pb (qc n)=32 :: 64 :: (ja n).data.toList:=by
 unfold pb qc;rw[if_pos rfl]
 show 32 :: (⟨#[64]⟩++ja n:ByteArray).data.toList=_
 rw[app3];rfl
theorem wf_of{a:Nd}{k:Fo}(h:qQ a k=0)(b o:Nat):Fst (F ⟨b,o,a,k⟩):=fst_all (.node b o a k .nil) (by have:=valE_wf h;rw[za,this];rfl) _ (List.mem_cons_self ..)
theorem t_fld(w:ByteArray)(n:Int):tB (lnF w n)=w++⟨#[32]⟩++zg n:=ba_eq (by
 unfold lnF;rw[tBc,bts_cons,bts_nil,pb_fw,pb_d,app3,app3];simp)
theorem t_night(a b:Int):tB (lnN a b)=⟨#[110,105,103,104,116,32,64]⟩++ja a++⟨#[32,116,111,32,64]⟩++ja b:=ba_eq (by
 unfold lnN;rw[tBc,bts_cons,bts_cons,bts_cons,bts_nil,pb_fw,pb_c,pb_w,pb_c,app3,app3,app3];simp[Pc.wNight,Pc.wTo])
theorem t_con(x:Cn)(h:qQ x.a x.k=0):tB (lnC x)=⟨#[99,111,110,115,116,32]⟩++x.name++⟨#[32,105,115,32]⟩++tB (F (jd x)):=ba_eq (by
 unfold lnC;rw[tBc,bts_cons,bts_cons,bts_bl (l:=F (jd x)) (wf_of h x.b x.o),pb_fw,pb_w,pb_w,app3,app3,app3,tB_list];simp[Pc.wConst,Pc.wIs])
theorem t_rul(x:Ru)(h:qQ x.a x.k=0):tB (lnR x)=scW x.sc++⟨#[32,114,117,108,101,32]⟩++x.name++⟨#[32,105,115,32]⟩++tB (F (j7 x)):=ba_eq (by
 unfold lnR;rw[tBc,bts_cons,bts_cons,bts_cons,bts_bl (l:=F (j7 x)) (wf_of h x.b x.o),pb_fw,pb_w,pb_w,pb_w,app3,app3,app3,app3,tB_list];simp[Pc.wRule,Pc.wIs])
theorem t_cos(x:Co)(h:qQ x.a x.k=0):tB (lnO x)=scW x.sc++⟨#[32,99,111,115,116,32,105,115,32]⟩++tB (F (jc x)):=ba_eq (by
 unfold lnO;rw[tBc,bts_cons,bts_cons,bts_bl (l:=F (jc x)) (wf_of h x.b x.o),pb_fw,pb_w,pb_w,app3,app3,tB_list];simp[Pc.wCost,Pc.wIs])
theorem t_cre(x:Ch)(h:qQ x.a x.k=0):tB (lnK x)=⟨#[100,117,116,121,32,99,114,101,100,105,116,32,105,115,32]⟩++tB (F x):=ba_eq (by
 unfold lnK;rw[tBc,bts_cons,bts_cons,bts_bl (l:=F x) (wf_of h x.b x.o),pb_fw,pb_w,pb_w,app3,tB_list];simp[Pc.wCredit,Pc.wIs,Pc.wDuty])
def amS(m:ByteArray)(n:Int):ByteArray:=if qW m=2 then zg n else ye n
theorem pb_a(m:ByteArray)(n:Int):pb (amt m n)=32 :: (amS m n).data.toList:=by
 unfold amt amS
 split
 ·exact pb_d n
 ·exact pb_n n
theorem t_lim(x:Li):tB (lnL x)=⟨#[108,105,109,105,116,32]⟩++x.name++⟨#[32,105,115,32]⟩++x.meas++⟨#[32]⟩++amS x.meas x.most++⟨#[32,105,110,32]⟩++ye x.days++⟨#[32,100,97,121,115]⟩:=ba_eq (by
 unfold lnL;rw[tBc,bts_cons,bts_cons,bts_cons,bts_cons,bts_cons,bts_cons,bts_cons,bts_nil,pb_fw,pb_w,pb_w,pb_w,pb_a,pb_w,pb_n,pb_w,app3,app3,app3,app3,app3,app3,app3,app3];simp[Pc.wLimit,Pc.wIs,Pc.wIn,Pc.wDays])
theorem t_off(x:Of):tB (lnU x)=⟨#[111,102,102,32]⟩++x.name++⟨#[32,105,115,32]⟩++ye x.count++⟨#[32,105,110,32]⟩++ye x.days++⟨#[32,100,97,121,115]⟩:=ba_eq (by
 unfold lnU;rw[tBc,bts_cons,bts_cons,bts_cons,bts_cons,bts_cons,bts_cons,bts_nil,pb_fw,pb_w,pb_w,pb_n,pb_w,pb_n,pb_w,app3,app3,app3,app3,app3,app3];simp[Pc.wOff,Pc.wIs,Pc.wIn,Pc.wDays])
theorem scW_sz(n:Int):(scW n).size≤7:=by unfold scW;split;decide;split<;>decide
theorem amS_sz(m:ByteArray)(n:Int)(h:0≤n∧n≤599999):(amS m n).size≤100:=by
 unfold amS
 split
 ·exact zC n
 ·have:=zb n (by omega) (by omega);omega
theorem meas_sz{m:ByteArray}(h:qW m≠0):m.size≤100:=by
 have key:∀x∈ yk.1++yk.2,x.length≤100:=by decide
 have hm:m.data.toList∈ yk.1++yk.2:=meas_in h;have ym:m.size=m.data.toList.length:=(Array.length_toList).symm;rw[ym];exact key _ hm
theorem lnH_txt(c:Ct):(lnH c).map tB=[⟨#[114,101,112,111,114,116,32]⟩++zg c.rep,⟨#[114,101,108,101,97,115,101,32]⟩++zg c.rel,⟨#[99,111,110,110,101,99,116,32]⟩++zg c.con,⟨#[115,105,116,32]⟩++zg c.sit,⟨#[108,97,121,111,118,101,114,32]⟩++zg c.lay,⟨#[103,117,97,114,97,110,116,101,101,32]⟩++zg c.gua,⟨#[110,105,103,104,116,32]⟩++(⟨#[64]⟩++ja c.nf)++⟨#[32,116,111,32]⟩++(⟨#[64]⟩++ja c.nt)]:=by
 have f:∀(a b r:ByteArray),a.data.toList++[32]=b.data.toList→a++⟨#[32]⟩++r=b++r:=fun a b r h=>ba_eq (by rw[app3,app3,app3,← h]);unfold lnH;simp only[List.map_cons,List.map_nil,t_fld,t_night];rw[f Pc.wReport ⟨#[114,101,112,111,114,116,32]⟩ _ rfl,f Pc.wRelease ⟨#[114,101,108,101,97,115,101,32]⟩ _ rfl,f Pc.wConnect ⟨#[99,111,110,110,101,99,116,32]⟩ _ rfl,f Pc.wSit ⟨#[115,105,116,32]⟩ _ rfl,f Pc.wLayover ⟨#[108,97,121,111,118,101,114,32]⟩ _ rfl,f Pc.wGuarantee ⟨#[103,117,97,114,97,110,116,101,101,32]⟩ _ rfl];simp only[List.cons.injEq,true_and,and_true];exact ba_eq (by simp only[app3];simp)
theorem itoa_dec{n:Int}(h:0≤n):uz n=ye n:=by unfold uz ye Lib.itoa;rw[if_neg (by omega)]
theorem name_sz{s:ByteArray}(h:yh s=true):s.size≤16:=by
 have h':Nam.declName s.data.toList=true:=h;unfold Nam.declName at h';rw[Bool.and_eq_true] at h';have q:=h'.1;unfold Nam.isName at q;rw[decide_eq_true_eq] at q;have ym:s.size=s.data.toList.length:=(Array.length_toList).symm;omega
theorem F_s{a:Nd}{k:Fo}(h:qQ a k=0):sz k≤199:=by
 unfold qQ at h
 split at h
 ·rename_i q
  unfold fitB at q;have:=of_decide_eq_true q;omega
 ·cases h
theorem F_sz{a:Nd}{k:Fo}(h:qQ a k=0)(b o:Nat):(tB (F ⟨b,o,a,k⟩)).size≤201000:=by
 have hw:=valE_wf h;have hs:=F_s h;have h1:=len_tF ⟨b,o,a,k⟩ hw;rw[show(tB (F ⟨b,o,a,k⟩)).size=(tF' ⟨b,o,a,k⟩).length from(qe _).symm];have h1':(tF' ⟨b,o,a,k⟩).length≤1005 * (1+sz k):=h1;omega
theorem len_ex{a:Nd}{k:Fo}(h:qQ a k=0)(b o:Nat):(bl (F ⟨b,o,a,k⟩)).length≤1000:=by
 have h1:(F ⟨b,o,a,k⟩).length+2≤5 * (1+sz k):=len_wf ⟨b,o,a,k⟩ (valE_wf h);have h2:=F_s h;rw[bl_len];omega
theorem len_lin{c:Ct}(h:CtG c):∀l∈ linL c,l.length≤1010:=by
 refine lin_all (fun l hl=>?_) (fun x hx=>?_) (fun x hx=>?_) (fun x hx=>?_) (fun x hx=>?_) (fun x hx=>?_) (fun x hx=>?_)
 ·simp only [lnH,List.mem_cons,List.not_mem_nil,or_false] at hl;rcases hl with rfl|rfl|rfl|rfl|rfl|rfl|rfl<;>simp[lnF,lnN]
 ·have:=len_ex (h.cs x hx).2 x.b x.o;unfold lnC jd;simp only[List.length_cons];omega
 ·have:=len_ex (h.rs x hx).2.2 x.b x.o;unfold lnR j7;simp only[List.length_cons];omega
 ·have:=len_ex (h.os x hx).2 x.b x.o;unfold lnO jc;simp only[List.length_cons];omega
 ·have:(bl (F x)).length≤1000:=len_ex (h.cr x hx) x.b x.o;unfold lnK;simp only[List.length_cons];omega
 ·simp[lnL]
 ·simp[lnU]
theorem sz_lin{c:Ct}(h:CtG c):∀l∈ linL c,(bts l).length≤300000:=fun l hl=>by
 have h1:=len_lin h l hl;have h2:=len_bts l (nice_lin h l hl).1;omega
theorem lbs_len:∀(ls:List (List P)),(∀l∈ ls,(bts l).length≤300000)→(lbs ls).length≤300001 * ls.length
 | [],_=>Nat.le_refl _
 | l :: ls,h=>by
   have h1:=h l (List.mem_cons_self ..);have h2:=lbs_len ls fun x hx=>h x (List.mem_cons_of_mem _ hx);rw[lbs_cons,List.length_append,List.length_cons,List.length_cons];omega
theorem lbs_take(ls:List (List P)){j:Nat}{l:List P}(h:ls[j]?=some l):lbs (ls.take (j+1))=lbs (ls.take j)++(bts l++[10]):=by
 rw[List.take_add_one,h];unfold lbs;rw[List.flatMap_append];simp
theorem join_lbs:∀(ls:List (List P)),ls≠[]→Lib.join ((ls.map tB).map (·.data.toList)) [10]++[10]=lbs ls
 | [],h=>absurd rfl h
 | [l],_=>by
   rw[lbs_cons];exact congrArg (·++[10]) (Lib.join_one _ _)
 | l :: m :: ls,_=>by
   have:=join_lbs (m :: ls) (by simp);rw[lbs_cons,← this]
   show(bts l++([10]++Lib.join (((m :: ls).map tB).map (·.data.toList)) [10]))++[10]=_
   simp
theorem fmC_long{c:Ct}(h:yj c=0){l:List P}(hl:l∈ linL c)(h4:400 < l.length):fmC c=(⟨#[]⟩,10):=by
 unfold fmC;rw[if_neg (fun q=>q h),if_pos (List.any_eq_true.2 ⟨l,hl,decide_eq_true h4⟩)]
theorem fmC_end{c:Ct}(h:yj c=0)(hl:∀l∈ linL c,l.length≤400){S:ByteArray}(hS:S.data.toList=lbs (linL c)):fmC c=if 20000 < S.size then (⟨#[]⟩,10) else (S,0):=by
 have e:S=txC c:=ba_eq hS;subst e;unfold fmC;rw[if_neg (fun q=>q h),if_neg];rw[Bool.not_eq_true,List.any_eq_false];intro l q;have:=hl l q;simp;omega
theorem fmC_no{c:Ct}{v:Int}(h:yj c=v)(h0:v≠0):fmC c=(⟨#[]⟩,v):=by subst h;unfold fmC;rw[if_pos h0]
theorem scan_lin{c:Ct}(h:CtG c){l:List P}(hl:l∈ linL c):(l.length≤400→∃E,Tk.scanT (tB l)=(E,0,0))∧(400 < l.length→∃j,Tk.scanT (tB l)=([],j,10)):=by
 obtain⟨n1,n2⟩:=nice_lin h l hl;obtain⟨h1,h2⟩:=scan_text (tB l) l n1 n2 (tB_list _);exact⟨fun q=>by obtain⟨E,-,e⟩:=h1 q;exact⟨E,e⟩,h2⟩
end Fp
def KM:Nat→Code→Code
 | 0,c=>c
 | n+1,.seq _ b=>KM n b
 | _+1,c=>c
def QQ(c:Ct)(w:World)(e:Ending)(w':World):Prop:=e=.returned (.tuple #[.string (Fp.fmC c).1,.int .i64 (Fp.fmC c).2])∧Below w.heap.size w w'
def rT{α:Type}(ln:α→List Fp.P)(L:List α)(j:Nat):List ByteArray:=(L.take j).map fun x=>Fp.tB (ln x)
theorem zi{α:Type}(ln:α→List Fp.P)(L:List α)(D:List ByteArray):D++rT ln L 0=D:=by unfold rT;simp
theorem zj{α:Type}(ln:α→List Fp.P)(L:List α)(D:List ByteArray){j:Nat}{x:α}(h:L[j]?=some x):D++rT ln L (j+1)=D++rT ln L j++[Fp.tB (ln x)]:=by
 unfold rT;rw[List.take_add_one,h];simp
theorem zK{α:Type}(ln:α→List Fp.P)(L:List α)(D:List ByteArray){j:Nat}(h:j≤L.length):(D++rT ln L j).length=D.length+j:=by unfold rT;simp;omega
theorem zX{α:Type}(ln:α→List Fp.P)(L:List α)(D:List ByteArray):D++rT ln L L.length=D++L.map fun x=>Fp.tB (ln x):=by unfold rT;rw[List.take_length]
theorem Yc(ln:Ch→List Fp.P)(T:Fo)(D:List ByteArray):D++rT ln (yv T) (len T)=D++(yv T).map fun x=>Fp.tB (ln x):=by rw[← yK];exact zX ln _ D
namespace Fp
open Pz
theorem fo_succ{k:Fo}{n:Nat}(h:len k=n+1):∃b o a k1 r,k=.node b o a k1 r∧len r=n:=by
 cases k with
 | nil=>simp[len] at h
 | node b o a k1 r=>exact⟨b,o,a,k1,r,rfl,by simp[len] at h;omega⟩
def bin(op:Int):Prop:=op=8∨op=9∨op=10∨op=11∨op=16∨op=17∨op=18∨op=20∨op=21∨op=22
theorem bin_ne{op k:Int}(h:bin op)(hk:¬bin k):(op==k)=false:=beq_eq_false_iff_ne.2 fun e=>hk (e ▸ h)
theorem opW_sz(op:Int):(opW op).text.size≤7:=by
 unfold opW
 repeat' split
 all_goals decide
theorem shape(a:Nd)(k:Fo)(hw:(zk a (len k) && za k)=true) :
 ((a.op=1∨a.op=2∨a.op=3∨a.op=4∨a.op=5∨a.op=6)∧k=.nil)∨
 ((a.op=7∨a.op=19)∧∃b1 o1 a1 k1,k=.node b1 o1 a1 k1 .nil)∨
 ((a.op=12∨a.op=13)∧2≤len k)∨
 ((a.op=14∨a.op=15)∧∃b1 o1 a1 k1 b2 o2 a2 k2 b3 o3 a3 k3,k=.node b1 o1 a1 k1 (.node b2 o2 a2 k2 (.node b3 o3 a3 k3 .nil)))∨
 (bin a.op∧∃b1 o1 a1 k1 b2 o2 a2 k2,k=.node b1 o1 a1 k1 (.node b2 o2 a2 k2 .nil)):=by
 rw[Bool.and_eq_true] at hw;have hw:=hw.1;unfold zk at hw;rw[Bool.and_eq_true,Bool.and_eq_true,Bool.and_eq_true,decide_eq_true_eq] at hw;obtain⟨⟨⟨⟨o1,o2⟩,ha⟩,hn⟩,hm⟩:=hw;unfold j6 at ha;unfold bin
 by_cases h1:1≤a.op∧a.op≤6
 ·rw [if_pos h1] at ha;left;exact⟨by omega,lz0 (by have:=of_decide_eq_true ha;omega)⟩
 ·rw [if_neg h1] at ha
  by_cases h2:a.op=7∨a.op=19
  ·rw [if_pos h2] at ha;right;left;obtain⟨b1,o1,a1,k1,r1,rfl,e⟩:=fo_succ (n:=0) (k:=k) (by have:=of_decide_eq_true ha;omega);obtain rfl:=lz0 e;exact⟨h2,b1,o1,a1,k1,rfl⟩
  ·rw [if_neg h2] at ha
   by_cases h3:a.op=12∨a.op=13
   ·rw [if_pos h3] at ha;right;right;left;exact⟨h3,by have:=of_decide_eq_true ha;omega⟩
   ·rw [if_neg h3] at ha
    by_cases h4:a.op=14∨a.op=15
    ·rw [if_pos h4] at ha;right;right;right;left;obtain⟨b1,o1,a1,k1,r1,rfl,e1⟩:=fo_succ (n:=2) (k:=k) (by have:=of_decide_eq_true ha;omega);obtain⟨b2,o2,a2,k2,r2,rfl,e2⟩:=fo_succ (n:=1) e1;obtain⟨b3,o3,a3,k3,r3,rfl,e3⟩:=fo_succ (n:=0) e2;obtain rfl:=lz0 e3;exact⟨h4,b1,o1,a1,k1,b2,o2,a2,k2,b3,o3,a3,k3,rfl⟩
    ·rw [if_neg h4] at ha;right;right;right;right;obtain⟨b1,o1,a1,k1,r1,rfl,e1⟩:=fo_succ (n:=1) (k:=k) (by have:=of_decide_eq_true ha;omega);obtain⟨b2,o2,a2,k2,r2,rfl,e2⟩:=fo_succ (n:=0) e1;obtain rfl:=lz0 e2;exact⟨by omega,b1,o1,a1,k1,b2,o2,a2,k2,rfl⟩
def TP(c:Ch)(w:World)(e:Ending)(w':World):Prop:=∃r:ByteArray,e=.returned (.string r)∧r.size≤201000∧Hid (r.data.toList=tF' c)∧Below w.heap.size w w'
def IP(c:Ch)(w:World)(e:Ending)(w':World):Prop:=∃r:ByteArray,e=.returned (.string r)∧r.size≤201000∧Hid (r.data.toList=tI' c)∧Below w.heap.size w w'
theorem tp_of{c:Ch}{w w':World}{r:ByteArray}(hw:(zk c.a (len c.k) && za c.k)=true)(hs:sz c.k≤199)(h:r.data.toList=tF' c)(hb:Below w.heap.size w w'):TP c w (.returned (.string r)) w' :=
 ⟨r,rfl,by have:=len_tF c hw;rw[← h,qe] at this;omega,h,hb⟩
theorem ip_of{c:Ch}{w w':World}{r:ByteArray}(hw:(zk c.a (len c.k) && za c.k)=true)(hs:sz c.k≤199)(h:r.data.toList=tI' c)(hb:Below w.heap.size w w'):IP c w (.returned (.string r)) w' :=
 ⟨r,rfl,by have:=len_tI c hw;rw[← h,qe] at this;omega,h,hb⟩
theorem vt_lit(c:Ch)(hw:(zk c.a (len c.k) && za c.k)=true):(c.a.op=1→VT ⟨2,⟨#[]⟩,c.a.num⟩)∧(c.a.op=2→VT ⟨3,⟨#[]⟩,c.a.num⟩)∧(c.a.op=3→VT ⟨4,⟨#[]⟩,c.a.num⟩):=by
 have n:=(nice_of c hw).1;refine⟨fun h=>?_,fun h=>?_,fun h=>?_⟩
 ·rw[tF_eq c 1 h] at n;exact n _ (List.mem_singleton.2 rfl)
 ·rw[tF_eq c 2 h] at n;exact n _ (List.mem_singleton.2 rfl)
 ·rw[tF_eq c 3 h] at n;exact n _ (List.mem_singleton.2 rfl)
theorem fst_kl{c:Ch}(hw:(zk c.a (len c.k) && za c.k)=true):∀x∈ kl c.k,Fst (F x):=by
 rw[Bool.and_eq_true] at hw;exact fst_all c.k hw.2
theorem tJ_take(l:List Ch)(j:Nat)(x:Ch)(h:l[j]?=some x)(hF:∀c∈ l,Fst (F c)):tJ' (l.take (j+1))=if j=0 then tF' x else tJ' (l.take j)++([44,32]++tF' x):=by
 have hj:=(List.getElem?_eq_some_iff.1 h).1;rw[List.take_add_one,h]
 show tJ' (l.take j++[x])=_
 by_cases h0:j=0
 ·rw[if_pos h0,h0];rfl
 ·rw [if_neg h0];exact tJ_snoc (l.take j) x (fun c hc=>hF c (List.mem_of_mem_take hc)) (hF x (List.mem_of_getElem? h)) (fun e=>by have:=congrArg List.length e;rw[List.length_take,List.length_nil] at this;omega)
theorem tJ_join:∀(l:List Ch),(∀c∈ l,Fst (F c))→Lib.join (l.map tF') [44,32]=tJ' l:=by
 intro l hF
 have key:∀n,n≤l.length→Lib.join ((l.take n).map tF') [44,32]=tJ' (l.take n):=by
  intro n
  induction n with
  | zero=>intro _;rfl
  | succ n ih =>
    intro hn;have e:l[n]?=some l[n]:=List.getElem?_eq_getElem (by omega);rw[tJ_take l n _ e hF,List.take_add_one,e]
    show Lib.join ((l.take n++[l[n]]).map tF') [44,32]=_
    rw[List.map_append,List.map_singleton,uN,ih (by omega)]
    by_cases h0:n=0
    ·rw[if_pos h0,if_pos (by rw[h0];rfl)]
    ·rw[if_neg h0,if_neg (fun q=>by have:=congrArg List.length q;rw[List.length_map,List.length_take,List.length_nil] at this;omega),List.append_assoc]
 have:=key l.length (Nat.le_refl _)
 rwa [List.take_length] at this
end Fp
end Go.Proofs.YtcejjdmnlejbaaaGreatDoor
