import Derived.Test.YtcejjdmnlejbaaaGreatDoorWPgh
namespace Go.Proofs.YtcejjdmnlejbaaaGreatDoor
open Option.some(inj)
open Lib(hid)
set_option linter.unusedVariables false
set_option linter.unusedSimpArgs false
open Go.ChangeShapes Go.WideShapes Go.ChangeAt Go.RowKit
open Go.Deep (BT)
set_option maxHeartbeats 8000000
set_option maxRecDepth 100000
def VH:List (Nat× Nat):=[(30,0),(31,1),(32,2),(33,3),(34,4),(35,5),(36,6),(37,7),(38,8),(39,9),(40,10),(41,11),(42,12),(43,13)]
def gkW(rb g O Ll cap nn cv B0:Nat)(pv:Option Addr)(sc:Int)(tb:Nat)(x5:Ch)(i:Nat):Wl :=
 match i with
 | 0=>.eq (.pointer (some ⟨rb,0,none⟩))
 | 1=>.eq (.pointer (some ⟨rb,0,none⟩))
 | 2=>.eq (.pointer (some ⟨rb,0,none⟩))
 | 3=>.eq (.pointer (some ⟨rb,0,none⟩))
 | 4=>.eq (.pointer (some ⟨rb,9,none⟩))
 | 5=>.eq (.slice pv nn cv)
 | 6=>.eq (.int .i64 sc)
 | 7=>.eq (.agg #[.int .i64 x5.a.op,.int .i64 x5.a.num,.string x5.a.name,.slice x5.a.ptr (len x5.k) x5.a.cap])
 | 8=>.eq (.agg #[.int .i64 sc,.int .i64 x5.a.op,.int .i64 x5.a.num,.string x5.a.name,.slice x5.a.ptr (len x5.k) x5.a.cap])
 | 9=>.row B0 [.int .i64 sc,.int .i64 x5.a.op,.int .i64 x5.a.num,.string x5.a.name,.slice x5.a.ptr (len x5.k) x5.a.cap]
 | 10=>.any
 | 11=>.eq (.pointer (some ⟨rb,0,none⟩))
 | 12=>.eq (.pointer (some ⟨rb,0,none⟩))
 | 13=>.eq (.pointer (some ⟨rb,9,none⟩))
 | _=>.any
def gkG(rb g O Ll cap nn cv B0:Nat)(pv:Option Addr)(sc:Int)(tb:Nat)(x5:Ch)(i:Nat)(v:Value)(w:World):Prop:=(gkW rb g O Ll cap nn cv B0 pv sc tb x5 i).ok v w
def VF:List (Nat× Nat):=[(56,0),(57,1),(58,2),(59,3),(60,4),(61,5),(62,6),(63,7),(64,8),(65,9),(66,10),(67,11),(68,12),(69,13),(70,14),(71,15),(72,16),(73,17)]
def grW(rb g O Ll cap nn cv B0:Nat)(pv:Option Addr)(sc:Int)(t21:ByteArray)(tb:Nat)(x5:Ch)(i:Nat):Wl :=
 match i with
 | 0=>.eq (.pointer (some ⟨rb,0,none⟩))
 | 1=>.eq (.pointer (some ⟨rb,0,none⟩))
 | 2=>.eq (.pointer (some ⟨rb,0,none⟩))
 | 3=>.eq (.pointer (some ⟨rb,0,none⟩))
 | 4=>.eq (.pointer (some ⟨rb,8,none⟩))
 | 5=>.eq (.slice pv nn cv)
 | 6=>.eq (.int .i64 sc)
 | 7=>.eq (.slice (some ⟨g,O,none⟩) Ll cap)
 | 8=>.eq (.pointer (some ⟨g,O+2 * 4,none⟩))
 | 9=>.eq (.pointer (some ⟨g,O+2 * 4+1,none⟩))
 | 10=>.eq (.string t21)
 | 11=>.eq (.agg #[.int .i64 x5.a.op,.int .i64 x5.a.num,.string x5.a.name,.slice x5.a.ptr (len x5.k) x5.a.cap])
 | 12=>.eq (.agg #[.int .i64 sc,.string t21,.int .i64 x5.a.op,.int .i64 x5.a.num,.string x5.a.name,.slice x5.a.ptr (len x5.k) x5.a.cap])
 | 13=>.row B0 [.int .i64 sc,.string t21,.int .i64 x5.a.op,.int .i64 x5.a.num,.string x5.a.name,.slice x5.a.ptr (len x5.k) x5.a.cap]
 | 14=>.any
 | 15=>.eq (.pointer (some ⟨rb,0,none⟩))
 | 16=>.eq (.pointer (some ⟨rb,0,none⟩))
 | 17=>.eq (.pointer (some ⟨rb,8,none⟩))
 | _=>.any
def grG(rb g O Ll cap nn cv B0:Nat)(pv:Option Addr)(sc:Int)(t21:ByteArray)(tb:Nat)(x5:Ch)(i:Nat)(v:Value)(w:World):Prop:=(grW rb g O Ll cap nn cv B0 pv sc t21 tb x5 i).ok v w
theorem Ql(bs rb mb n:Nat)(c:Pc.PC)(vs:Fin 6→Value)(D:Six)(L:List Tk.T4)(g O cap:Nat)(w:World)(hp:PgV w bs rb mb n c vs D)(ht:TkAt w L (.slice (some ⟨g,O,none⟩) L.length cap))(hV:∀t∈ L,VT t.t)(hs:∀t∈ L,t.t.text.size≤9223372036854775807)(hl:0 < L.length)(h40:L.length≤400)(hbs:bs≤w.heap.size)(hct:Pc.cnt c≤1000)
 :
 Calls Tryz.prog 93 #[.pointer (some ⟨rb,0,none⟩),.slice (some ⟨g,O,none⟩) L.length cap] w fun e w'=>e=.returned (.bool (decide ((Pg.scoQ c L).2=0)))∧Qe w bs rb mb n (Pg.scoQ c L) w':=by
 have hcap:L.length≤cap:=by obtain⟨p',cap',e,h2,-⟩:=ht;injection e with e1 e2 e3;omega
 have hl0:(0:Int) < (L.length:Int):=by omega
 have hc1:(1:Int)≤(L.length:Int):=by omega
 have hc2:(L.length:Int)≤(cap:Int):=by omega
 have PV:=hid hp;have HT:=hid ht;have HVV:=hid hV;have HS:=hid hs;have H40:=hid h40;have LB:Hid (rb < bs∧bs≤w.heap.size):=⟨hp.rows.lt rb (Or.inl rfl),hbs⟩;have CL:=hid (xW hp);have LC:=hid hct;have TK:Hid (∀i,i < L.length→∀W,Below w.heap.size w W→W.cell? ⟨g,O+i * 4,none⟩=some (.int .i64 (Pc.tok L i).kind)∧W.cell? ⟨g,O+i * 4+1,none⟩=some (.string (Pc.tok L i).text)∧W.cell? ⟨g,O+i * 4+2,none⟩=some (.int .i64 (Pc.tok L i).num)):=fun i hi W hb=>uW (HT.out.next hb) hi;clear hp ht hV hs h40 hbs hct;obtain⟨R,hR⟩:∃R,Pg.scoQ c L=R:=⟨_,rfl⟩;rw[hR];have k1:=(TK.out 0 hl w (Below.refl _ _)).2.1;rw[show O+0 * 4+1=O+1 by omega] at k1
 have RD:Hid (R=if Pc.scopeT (Pc.tok L 0).text=0 then (c,1) else
  if Pg.bg (L.drop 1) [Pc.wCost,Pc.wIs]=true then Pc.ifEx c (L.drop 3) fun x=>{ c with os:=c.os++[(Pc.scopeT (Pc.tok L 0).text,x)] } else
  if Pg.bg (L.drop 1) [Pc.wRule,Pg.pN,Pc.wIs]=true then Pc.ifEx c (L.drop 4) fun x=>{ c with rs:=c.rs++[(Pc.scopeT (Pc.tok L 0).text,(Pc.tok L 2).text,x)] } else (c,1)):=hR.symm
 obtain⟨tx,htx⟩:∃z,(Pc.tok L 0).text=z:=⟨_,rfl⟩;rw[htx] at k1 RD;clear hR htx;obtain⟨sc,hsc⟩:∃z,Pc.scopeT tx=z:=⟨_,rfl⟩;have SC:=hid hsc;rw[hsc] at RD
 by_cases hz:sc=0
 case pos =>
  have RQ:Hid (R=(c,1)):=by unfold Hid;rw[RD.out,if_pos hz]
  have hn:¬tx=Pc.wDuty∧¬tx=Pc.wRest∧¬tx=Pc.wPairing:=by
   rw[hz] at hsc;refine⟨?_,?_,?_⟩<;>(rintro rfl;exact absurd hsc (by decide))
  have q0:(tx.toList==[100,117,116,121])=false:=yd hn.1 rfl;have q1:(tx.toList==[114,101,115,116])=false:=yd hn.2.1 rfl;have q2:(tx.toList==[112,97,105,114,105,110,103])=false:=yd hn.2.2 rfl;clear hz hn hsc;go_enter Tryz.func93,Tryz.ntmps93;go_wp2;go_ret;exact⟨by rw[RQ.out];rfl,zc (by rw[RQ.out];show(1:Int)≠0;decide) (kv (Below.refl _ _))⟩
 have RD2:Hid (R=if Pg.bg (L.drop 1) [Pc.wCost,Pc.wIs]=true then Pc.ifEx c (L.drop 3) fun x=>{ c with os:=c.os++[(sc,x)] } else
  if Pg.bg (L.drop 1) [Pc.wRule,Pg.pN,Pc.wIs]=true then Pc.ifEx c (L.drop 4) fun x=>{ c with rs:=c.rs++[(sc,(Pc.tok L 2).text,x)] } else (c,1)):=by unfold Hid;rw[RD.out,if_neg hz]
 have SB:Hid (Bd sc):=by
  rcases YC tx with q|q|q|q<;>(rw[hsc] at q;unfold Hid Bd;omega)
 have hw:tx=Pc.wDuty∨tx=Pc.wRest∨tx=Pc.wPairing:=by
  apply Classical.byContradiction;intro q;simp only[not_or] at q;apply hz;rw[← hsc];unfold Pc.scopeT;rw[if_neg q.1,if_neg q.2.1,if_neg q.2.2]
 have HW:=hid hw
 have BG2:Hid (∀(W:World) (gb cp:Nat) (q:Option Addr) (cq:Nat) (b:Bool),Below w.heap.size w W→PtA W [Pc.wCost,Pc.wIs] gb 0→(1 < L.length→q=some ⟨g,O+1 * 4,none⟩)→L.length - 1≤cq→Pg.bg (L.drop 1) [Pc.wCost,Pc.wIs]=b→Calls Tryz.prog 89 #[.slice q (L.length - 1:Nat) cq,.slice (some ⟨gb,0,none⟩) 2 cp] W fun e w'=>e=.returned (.bool b)∧Below W.heap.size W w'):=fun W gb cp q cq b hb hP hq hcq hbq=>by
  have q:=kO (L.drop 1) q cq [Pc.wCost,Pc.wIs] gb 0 cp W (xO (HT.out.next hb) 1 q hq cq hcq) (fun t ht=>HS.out t (List.mem_of_mem_drop ht)) hP (by decide);rw[hbq,List.length_drop] at q;exact q
 have BG3:Hid (∀(W:World) (gb cp:Nat) (q:Option Addr) (cq:Nat) (b:Bool),Below w.heap.size w W→PtA W [Pc.wRule,Pg.pN,Pc.wIs] gb 0→(1 < L.length→q=some ⟨g,O+1 * 4,none⟩)→L.length - 1≤cq→Pg.bg (L.drop 1) [Pc.wRule,Pg.pN,Pc.wIs]=b→Calls Tryz.prog 89 #[.slice q (L.length - 1:Nat) cq,.slice (some ⟨gb,0,none⟩) 3 cp] W fun e w'=>e=.returned (.bool b)∧Below W.heap.size W w'):=fun W gb cp q cq b hb hP hq hcq hbq=>by
  have q:=kO (L.drop 1) q cq [Pc.wRule,Pg.pN,Pc.wIs] gb 0 cp W (xO (HT.out.next hb) 1 q hq cq hcq) (fun t ht=>HS.out t (List.mem_of_mem_drop ht)) hP (by decide);rw[hbq,List.length_drop] at q;exact q
 have WX3:=hid (VC 3 HVV.out H40.out (fun W hb=>HT.out.next (w':=W) hb));have WX4:=hid (VC 4 HVV.out H40.out (fun W hb=>HT.out.next (w':=W) hb));clear RD hsc hz hw;go_enter Tryz.func93,Tryz.ntmps93
 go_upto_block 0 with (fail)
 go_cut [5] (fun v wx=>v=.int .i64 sc∧w=wx)
 case first =>
  by_cases d0:tx=Pc.wDuty
  ·have q0:(tx.toList==[100,117,116,121])=true:=zA d0 rfl;have e5:sc=1:=(by rw[← SC.out,d0];rfl);clear d0;go_wp2
   go_meet
   exact⟨by rw[e5],rfl⟩
  have q0:(tx.toList==[100,117,116,121])=false:=yd d0 rfl
  by_cases d1:tx=Pc.wRest
  ·have q1:(tx.toList==[114,101,115,116])=true:=zA d1 rfl;have e5:sc=2:=(by rw[← SC.out,d1];rfl);clear d1 d0;go_wp2
   go_meet
   exact⟨by rw[e5],rfl⟩
  have q1:(tx.toList==[114,101,115,116])=false:=yd d1 rfl;have d2:tx=Pc.wPairing:=by rcases HW.out with q|q|q;exact absurd q d0;exact absurd q d1;exact q
  have q2:(tx.toList==[112,97,105,114,105,110,103])=true:=zA d2 rfl;have e5:sc=3:=by rw[← SC.out,d2];rfl
  clear d2 d1 d0;go_wp2
  go_meet
  exact⟨by rw[e5],rfl⟩
 case rest =>
  obtain⟨rfl,rfl⟩:=hcut;clear k1;rcases Classical.em (cap=1) with rfl|hcap1
  ·have h1l:L.length=1:=by omega
   have bf:∀P:List ByteArray,P≠[]→Pg.bg (L.drop 1) P=false:=fun P hP=>by
    rw[List.drop_eq_nil_of_le (by omega)];cases P with
    | nil=>exact absurd rfl hP
    | cons a P=>simp[Pg.bg]
   have RQ:Hid (R=(c,1)):=by
    unfold Hid;rw[RD2.out,bf _ (by simp),bf _ (by simp)];rfl
   rw[show L.length - 1=0 by omega] at BG2 BG3;have F2:=hid (bf [Pc.wCost,Pc.wIs] (by simp));have F3:=hid (bf [Pc.wRule,Pg.pN,Pc.wIs] (by simp));clear bf;go_wp2_with fail;refine(BG2.out _ _ _ _ _ _ (yu _ _) (qT _ _ _ rfl _) (fun q=>by omega) (by omega) F2.out).mono ?_;rintro e w2 ⟨rfl,hb⟩;have B2:=hid ((yu _ _).trans (hb.mono (by simp)));clear hb;go_wp2_with fail;refine(BG3.out _ _ _ _ _ _ (B2.out.alloc B2.out.size _) (qT _ _ _ rfl _) (fun q=>by omega) (by omega) F3.out).mono ?_;rintro e w3 ⟨rfl,hb⟩;have B3:=hid ((B2.out.alloc B2.out.size _).trans (hb.mono (by have:=B2.out.size;simp;omega)));clear hb;go_wp2;go_ret;exact⟨by rw[RQ.out];rfl,zc (by rw[RQ.out];show(1:Int)≠0;decide) (kv B3.out)⟩
  cases hb1:Pg.bg (L.drop 1) [Pc.wCost,Pc.wIs] with
  | true =>
    have HLN:Hid (3≤L.length):=by
     have q:=hb1;unfold Pg.bg at q;rw[Bool.and_eq_true,decide_eq_true_eq,List.length_drop] at q;have q1:=q.1;simp only[List.length_cons,List.length_nil] at q1;unfold Hid;omega
    obtain⟨ok,hok⟩:∃b,decide (kz (L.drop 3) < 0)=b:=⟨_,rfl⟩
    have RQ:Hid (R=if ok=true then ({ c with os:=c.os++[(sc,Pc.tree (L.drop 3))] },0) else (c,1)):=by
     unfold Hid;rw[RD2.out,hb1,if_pos rfl];exact xe hok
    rw[hok] at WX3;have HB1:=hid hb1;clear hb1 hok;rcases Classical.em (cap=3) with rfl|hcapn
    ·have WX:=WX3;rw[show L.length - 3=0 by have:=HLN.out;omega] at WX;clear WX3 WX4;have hcn:(3:Int)≤(L.length:Int):=(by have:=HLN.out;omega);have LD:Hid (D.os.length≤1000):=(by have:=CL.out;have:=LC.out;unfold Hid;omega);go_upto_region 11 with (go_at_call 89;refine(BG2.out _ _ _ _ _ _ (yu _ _) (qT _ _ _ rfl _) (by first|exact fun _=>rfl|(intro q;omega)) (by omega) HB1.out).mono ?_;rintro e w3 ⟨rfl,hb⟩;have B3:=hid ((yu _ _).trans (hb.mono (by simp)));clear hb);go_upto_region 12 with (go_at_call 90;refine(WX.out _ _ _ B3.out (by first|exact .inl rfl|exact .inr (by omega))).mono ?_;rintro e w5 ⟨x5,rfl,hb5,hx5⟩;have B5:=hid (bt9 B3 hb5);have X5:=hid hx5;have A5:=hid (fun h=>(PV.out.next B3.out).av (hx5 h).2.2.1);clear hb5 hx5);obtain⟨w6,hw6,hbx,e0,e1,e2,e3⟩:=xU w5 x5;rw[hw6];clear hw6;have B6:=hid (bt9 B5 hbx);have X6:Hid (ok=true→Pz.nr x5=Pc.tree (L.drop 3)∧ExAt w6 x5.b x5.o x5.a x5.k∧yN x5.a x5.k):=fun h=>⟨(X5.out h).1,(X5.out h).2.1.next hbx,(X5.out h).2.2.2⟩;generalize w5.heap.size=tb at *;clear X5 hbx
     have XE:Hid (∀wq,Ext w6.drew wq→wq.cell? ⟨tb,0,none⟩=some (.int .i64 x5.a.op)∧wq.cell? ⟨tb,1,none⟩=some (.int .i64 x5.a.num)∧wq.cell? ⟨tb,2,none⟩=some (.string x5.a.name)∧wq.cell? ⟨tb,3,none⟩=some (.slice x5.a.ptr (len x5.k) x5.a.cap)):=fun wq hq=>(by
      have hb:Below w6.heap.size w6 wq:=((Below.refl _ _).drew).trans (Below.mono hq (by simp));exact⟨qa e0 hb,qa e1 hb,qa e2 hb,qa e3 hb⟩)
     obtain⟨ir,hir,hir0,hir1,hir2⟩:=info_parts Tryz.infoCoP;have P6:=hid (PV.out.next B6.out);obtain⟨pv,cv,hv⟩:∃pv cv,vs 2=.slice pv D.os.length cv:=yt (P6.out.rows.ow 2);have HV:=hid hv;clear hv;have EX:Hid (∀wq,Ext w6.drew wq→Below w.heap.size w wq):=fun wq hq=>(B6.out.drew).trans (Below.mono hq (by have:=B6.out.size;simpa using this));have PX:Hid (∀wq,Ext w6.drew wq→PgV wq bs rb mb n c vs D):=fun wq hq=>PV.out.next (EX.out wq hq)
     have EXN:Hid (∀wq,Ext w6.drew wq→Below w6.heap.size w6 wq):=fun wq hq=>((Below.refl _ _).drew).trans (Below.mono hq (by simp));have HB0:Hid (w6.heap.size≤w6.drew.heap.size):=(by unfold Hid;simp);have OB:Hid (bs≤w6.heap.size∧rb < bs):=⟨Nat.le_trans LB.out.2 B6.out.size,LB.out.1⟩;have CB:Hid (∀wq,Ext w6.drew wq→wq.cell? ⟨rb,9,none⟩=some (.slice pv D.os.length cv)):=fun wq hq=>by rw[← HV.out];exact(PX.out wq hq).box.c9
     refine zp VH (gkG rb g O L.length 3 D.os.length cv w6.heap.size pv sc tb x5) 10 14 (fun x w1 w'=>∃pn cn,x 40=.slice pn (D.os.length+1) cn∧w'.ownsRow bs 89 5 (.slice pn (D.os.length+1) cn) (D.os.length+1) (D.os.flatMap j3++j3 ⟨sc,x5.b,x5.o,x5.a,x5.k⟩)∧w1.grownBy w' (vs 2).ownBlock∧((Value.slice pn (D.os.length+1) cn).ownBlock=(vs 2).ownBlock∨(Value.slice pn (D.os.length+1) cn).ownBlock=some w1.heap.size)) (fun x w1 w'=>∃pn cn we,w'=we.setCell ⟨rb,9,none⟩ (.slice pn (D.os.length+1) cn)∧we.ownsRow bs 89 5 (.slice pn (D.os.length+1) cn) (D.os.length+1) (D.os.flatMap j3++j3 ⟨sc,x5.b,x5.o,x5.a,x5.k⟩)∧w1.grownBy we (vs 2).ownBlock∧((Value.slice pn (D.os.length+1) cn).ownBlock=(vs 2).ownBlock∨(Value.slice pn (D.os.length+1) cn).ownBlock=some w1.heap.size)) (by kernel_rfl) (by kernel_rfl) (fun i v w w' h he=>Wl.ext h he) (fun i=>decide (i≠0∧i≠11∧i≠12∧i≠13∧i < 10)) (by kernel_rfl) (by kernel_rfl) (by decide) ?hst ?hpu ?hla ?hyo ?hfin
     case hst =>
      intro i o ho hz hy
      match i,ho with
      | 0,ho=>exact yl ho fun a w3 hx qz qb=>⟨rfl,_,run_move (.tmp 0) (.pointer (some ⟨rb,0,none⟩)) (qz 0 rfl),rfl⟩
      | 1,ho=>exact yl ho fun a w3 hx qz qb=>⟨rfl,_,run_move (.tmp 0) (.pointer (some ⟨rb,0,none⟩)) (qz 0 rfl),rfl⟩
      | 2,ho=>exact yl ho fun a w3 hx qz qb=>⟨rfl,_,qZ (.tmp 31) ⟨rb,0,none⟩ (qb 31 1 rfl rfl),rfl⟩
      | 3,ho=>exact yl ho fun a w3 hx qz qb=>⟨rfl,_,ya (.tmp 32) rb (qb 32 2 rfl rfl),rfl⟩
      | 4,ho=>exact yl ho fun a w3 hx qz qb=>⟨rfl,_,yc (.tmp 33) rb 9 (by decide) (qb 33 3 rfl rfl),rfl⟩
      | 5,ho=>exact yl ho fun a w3 hx qz qb=>⟨rfl,_,yO (.tmp 34) ⟨rb,9,none⟩ 39 (by decide) _ (qb 34 4 rfl rfl) (CB.out w3 hx),rfl⟩
      | 6,ho=>exact yl ho fun a w3 hx qz qb=>⟨rfl,_,run_move (.tmp 5) (.int .i64 sc) (qz 5 rfl),rfl⟩
      | 7,ho=>exact yl ho fun a w3 hx qz qb=>⟨rfl,_,kX (.tmp 6) tb _ _ _ _ (qz 6 rfl) (XE.out w3 hx).1 (XE.out w3 hx).2.1 (XE.out w3 hx).2.2.1 (XE.out w3 hx).2.2.2,rfl⟩
      | 8,ho=>exact yl ho fun a w3 hx qz qb=>⟨rfl,_,vF (.tmp 36) (.tmp 37) sc _ _ _ _ (qb 36 6 rfl rfl) (qb 37 7 rfl rfl),rfl⟩
      | 9,ho=>obtain rfl:=inj ho;intro a w3 hx qz qb yn;have hz:=(hx.size:(w6.drew).heap.size≤w3.heap.size);exact⟨rfl,jI (Y7 (.tmp 38) (.int .i64 sc) (.int .i64 x5.a.op) (.int .i64 x5.a.num) (.string x5.a.name) (.slice x5.a.ptr (len x5.k) x5.a.cap) (qb 38 8 rfl rfl)) (Ext.alloc _ _) (xL w3 w6.heap.size (Nat.le_trans HB0.out hz) (.int .i64 sc) (.int .i64 x5.a.op) (.int .i64 x5.a.num) (.string x5.a.name) (.slice x5.a.ptr (len x5.k) x5.a.cap) _)⟩
      | 10,ho=>exact absurd rfl hz
      | 11,ho=>exact yl ho fun a w3 hx qz qb=>⟨rfl,_,qZ (.tmp 30) ⟨rb,0,none⟩ (qb 30 0 rfl rfl),rfl⟩
      | 12,ho=>exact yl ho fun a w3 hx qz qb=>⟨rfl,_,ya (.tmp 41) rb (qb 41 11 rfl rfl),rfl⟩
      | 13,ho=>exact yl ho fun a w3 hx qz qb=>⟨rfl,_,yc (.tmp 42) rb 9 (by decide) (qb 42 12 rfl rfl),rfl⟩
      | 14,ho=>exact absurd rfl hy
      | i+15,ho=>cases ho
     case hpu =>
      intro i o ho hz hy
      match i,ho with
      | 0,ho=>obtain rfl:=inj ho;refine .inr ?_;intro a w1 w3 hx ym qz qb yn hf;exact⟨rfl,qo (run_move (.tmp 0) (.pointer (some ⟨rb,0,none⟩)) (qz 0 rfl)) ⟨_,rfl,rfl,fun _=>rfl,kA (by decide) hf⟩⟩
      | 1,ho=>exact .inl rfl
      | 2,ho=>exact .inl rfl
      | 3,ho=>exact .inl rfl
      | 4,ho=>exact .inl rfl
      | 5,ho=>exact .inl rfl
      | 6,ho=>exact .inl rfl
      | 7,ho=>exact .inl rfl
      | 8,ho=>exact .inl rfl
      | 9,ho=>exact .inl rfl
      | 10,ho=>exact absurd rfl hz
      | 11,ho=>obtain rfl:=inj ho;refine .inr ?_;intro a w1 w3 hx ym qz qb yn hf;exact⟨rfl,qo (qZ (.tmp 30) ⟨rb,0,none⟩ (qb 30 0 rfl rfl)) ⟨_,rfl,rfl,fun _=>rfl,kA (by decide) hf⟩⟩
      | 12,ho=>obtain rfl:=inj ho;refine .inr ?_;intro a w1 w3 hx ym qz qb yn hf;exact⟨rfl,qo (ya (.tmp 41) rb (qb 41 11 rfl rfl)) ⟨_,rfl,rfl,fun _=>rfl,kA (by decide) hf⟩⟩
      | 13,ho=>obtain rfl:=inj ho;refine .inr ?_;intro a w1 w3 hx ym qz qb yn hf;exact⟨rfl,qo (yc (.tmp 42) rb 9 (by decide) (qb 42 12 rfl rfl)) ⟨_,rfl,rfl,fun _=>rfl,kA (by decide) hf⟩⟩
      | 14,ho=>exact absurd rfl hy
      | i+15,ho=>cases ho
     case hla =>
      intro o ho;obtain rfl:=inj ho;intro a w3 hx ym qz qb yn;obtain⟨b,h1,h2,h3,h4⟩:=(qb 39 9 rfl rfl:(Wl.row w6.heap.size (j3 ⟨sc,x5.b,x5.o,x5.a,x5.k⟩)).ok (a.tmps.getD 39 undef) w3);have h5:a.tmps.getD 35 undef=.slice pv D.os.length cv:=qb 35 5 rfl rfl;have PQ:=PX.out w3 hx;have OW:w3.ownsRow bs 89 5 (.slice pv D.os.length cv) D.os.length (D.os.flatMap j3):=(by have q:=PQ.rows.ow 2;rw[← HV.out];exact q);refine⟨rfl,?_⟩;refine yJ w3 rfl (.tmp 35) (.tmp 39) 39 rfl bs 89 ir (.agg #[.int .i64 0,.int .i64 0,.int .i64 0,.string ⟨#[]⟩,.slice none 0 0]) 5 64 Tryz.underlying39 hir hir0 hir1 hir2 rfl (by decide) (.slice pv D.os.length cv) D.os.length (D.os.flatMap j3) h5 OW ⟨b,0,none⟩ 1 1 (j3 ⟨sc,x5.b,x5.o,x5.a,x5.k⟩) h1 rfl (fun j u hj=>by have q:=h4 j u hj;by_cases e:j=0;(subst e;simpa [Addr.add] using q);simpa [Addr.add,e] using q) (Yg _) (by have:=LD.out;unfold maxLen;omega) (by have:=LD.out;omega) (by have q1:=OB.out;have q2:w6.drew.heap.size≤w3.heap.size:=hx.size;have q3:=HB0.out;omega) ?_;intro v' w' qi qk hob;obtain⟨pn,cn,hvn⟩:=yt qi;subst hvn;refine⟨_,rfl,fun _=>trivial,pn,cn,?_,qi,by rw[HV.out];exact qk,by rw[HV.out];exact hob⟩
      show(a.put (some 40) _).tmps.getD 40 undef=_
      rw[yM,if_pos ⟨rfl,by rw[ym];exact(show(40:Nat) < 75 from by decide)⟩]
     case hyo =>
      intro o ho;obtain rfl:=inj ho;intro a w1 w3 hx ym qz qb yn hf;obtain⟨pn,cn,h1,qi,qk,hob⟩:=hf;have h2:a.tmps.getD 43 undef=.pointer (some ⟨rb,9,none⟩):=qb 43 13 rfl rfl;have PQ:=PX.out w1 hx;have GB:=PQ.box.grown qk (by rw[HV.out];exact fun e'=>by have q:=((PQ.rows.ow 2).lt rb (by show(vs 2).ownBlock=_;rw[HV.out];exact e'.symm)).1;have:=OB.out;omega);exact⟨rfl,zD (kh (.tmp 43) (.tmp 40) ⟨rb,9,none⟩ 39 (by decide) pn _ cn _ h2 h1 GB.c9 GB.f9) ⟨undef,rfl,fun h=>absurd h (by decide),pn,cn,w3,rfl,qi,qk,hob⟩⟩
     case hfin =>
      rintro x w1 w9 h1 h2 ⟨pn,cn,we,rfl,qi,qk,hob⟩
      have APP:Hid (ok=true→PgV (we.setCell ⟨rb,9,none⟩ (.slice pn (D.os.length+1) cn)) bs rb mb n { c with os:=c.os++[(sc,Pc.tree (L.drop 3))] } (qU vs 2 (.slice pn (D.os.length+1) cn)) { D with os:=D.os++[⟨sc,x5.b,x5.o,x5.a,x5.k⟩] }):=fun hcd=>by
       have q:=PgV.app2 (PX.out w1 h1) ⟨sc,x5.b,x5.o,x5.a,x5.k⟩ ((X6.out hcd).2.1.next (EXN.out w1 h1)) (A5.out hcd) (⟨(X6.out hcd).2.2,SB.out⟩) qi qk hob;rw[show Pz.nr (jc ⟨sc,x5.b,x5.o,x5.a,x5.k⟩)=Pc.tree (L.drop 3) from(X6.out hcd).1] at q;exact q
      have BEL:Hid (∀m,m≤rb→m≤mb→m≤bs→m≤w.heap.size→Below m w (we.setCell ⟨rb,9,none⟩ (.slice pn (D.os.length+1) cn))):=(fun m q1 _ q2 q3=>zd (yp (EX.out w1 h1) q3) q3 qk (fun g' e'=>Nat.le_trans q2 (((PX.out w1 h1).rows.ow 2).lt g' e').1) q1 _ _);clear h1 h2 qi qk hob;generalize we.setCell ⟨rb,9,none⟩ (.slice pn (D.os.length+1) cn)=w9 at *;dsimp only[frameT,VH,List.foldl];generalize x 30=q30;generalize x 31=q31;generalize x 32=q32;generalize x 33=q33;generalize x 34=q34;generalize x 35=q35;generalize x 36=q36;generalize x 37=q37;generalize x 38=q38;generalize x 39=q39;generalize x 40=q40;generalize x 41=q41;generalize x 42=q42;generalize x 43=q43;clear x;go_simp;go_wp2_with fail;go_ret;exact⟨xV RQ.out,kM RQ.out APP.out BEL.out⟩
    ·have WX:=WX3;clear WX3 WX4;have hcn:(3:Int)≤(L.length:Int):=(by have:=HLN.out;omega);have LD:Hid (D.os.length≤1000):=(by have:=CL.out;have:=LC.out;unfold Hid;omega);go_upto_region 11 with (go_at_call 89;refine(BG2.out _ _ _ _ _ _ (yu _ _) (qT _ _ _ rfl _) (by first|exact fun _=>rfl|(intro q;omega)) (by omega) HB1.out).mono ?_;rintro e w3 ⟨rfl,hb⟩;have B3:=hid ((yu _ _).trans (hb.mono (by simp)));clear hb);go_upto_region 12 with (go_at_call 90;refine(WX.out _ _ _ B3.out (by first|exact .inl rfl|exact .inr (by omega))).mono ?_;rintro e w5 ⟨x5,rfl,hb5,hx5⟩;have B5:=hid (bt9 B3 hb5);have X5:=hid hx5;have A5:=hid (fun h=>(PV.out.next B3.out).av (hx5 h).2.2.1);clear hb5 hx5);obtain⟨w6,hw6,hbx,e0,e1,e2,e3⟩:=xU w5 x5;rw[hw6];clear hw6;have B6:=hid (bt9 B5 hbx);have X6:Hid (ok=true→Pz.nr x5=Pc.tree (L.drop 3)∧ExAt w6 x5.b x5.o x5.a x5.k∧yN x5.a x5.k):=fun h=>⟨(X5.out h).1,(X5.out h).2.1.next hbx,(X5.out h).2.2.2⟩;generalize w5.heap.size=tb at *;clear X5 hbx
     have XE:Hid (∀wq,Ext w6.drew wq→wq.cell? ⟨tb,0,none⟩=some (.int .i64 x5.a.op)∧wq.cell? ⟨tb,1,none⟩=some (.int .i64 x5.a.num)∧wq.cell? ⟨tb,2,none⟩=some (.string x5.a.name)∧wq.cell? ⟨tb,3,none⟩=some (.slice x5.a.ptr (len x5.k) x5.a.cap)):=fun wq hq=>(by
      have hb:Below w6.heap.size w6 wq:=((Below.refl _ _).drew).trans (Below.mono hq (by simp));exact⟨qa e0 hb,qa e1 hb,qa e2 hb,qa e3 hb⟩)
     obtain⟨ir,hir,hir0,hir1,hir2⟩:=info_parts Tryz.infoCoP;have P6:=hid (PV.out.next B6.out);obtain⟨pv,cv,hv⟩:∃pv cv,vs 2=.slice pv D.os.length cv:=yt (P6.out.rows.ow 2);have HV:=hid hv;clear hv;have EX:Hid (∀wq,Ext w6.drew wq→Below w.heap.size w wq):=fun wq hq=>(B6.out.drew).trans (Below.mono hq (by have:=B6.out.size;simpa using this));have PX:Hid (∀wq,Ext w6.drew wq→PgV wq bs rb mb n c vs D):=fun wq hq=>PV.out.next (EX.out wq hq)
     have EXN:Hid (∀wq,Ext w6.drew wq→Below w6.heap.size w6 wq):=fun wq hq=>((Below.refl _ _).drew).trans (Below.mono hq (by simp));have HB0:Hid (w6.heap.size≤w6.drew.heap.size):=(by unfold Hid;simp);have OB:Hid (bs≤w6.heap.size∧rb < bs):=⟨Nat.le_trans LB.out.2 B6.out.size,LB.out.1⟩;have CB:Hid (∀wq,Ext w6.drew wq→wq.cell? ⟨rb,9,none⟩=some (.slice pv D.os.length cv)):=fun wq hq=>by rw[← HV.out];exact(PX.out wq hq).box.c9
     refine zp VH (gkG rb g O L.length cap D.os.length cv w6.heap.size pv sc tb x5) 10 14 (fun x w1 w'=>∃pn cn,x 40=.slice pn (D.os.length+1) cn∧w'.ownsRow bs 89 5 (.slice pn (D.os.length+1) cn) (D.os.length+1) (D.os.flatMap j3++j3 ⟨sc,x5.b,x5.o,x5.a,x5.k⟩)∧w1.grownBy w' (vs 2).ownBlock∧((Value.slice pn (D.os.length+1) cn).ownBlock=(vs 2).ownBlock∨(Value.slice pn (D.os.length+1) cn).ownBlock=some w1.heap.size)) (fun x w1 w'=>∃pn cn we,w'=we.setCell ⟨rb,9,none⟩ (.slice pn (D.os.length+1) cn)∧we.ownsRow bs 89 5 (.slice pn (D.os.length+1) cn) (D.os.length+1) (D.os.flatMap j3++j3 ⟨sc,x5.b,x5.o,x5.a,x5.k⟩)∧w1.grownBy we (vs 2).ownBlock∧((Value.slice pn (D.os.length+1) cn).ownBlock=(vs 2).ownBlock∨(Value.slice pn (D.os.length+1) cn).ownBlock=some w1.heap.size)) (by kernel_rfl) (by kernel_rfl) (fun i v w w' h he=>Wl.ext h he) (fun i=>decide (i≠0∧i≠11∧i≠12∧i≠13∧i < 10)) (by kernel_rfl) (by kernel_rfl) (by decide) ?hst ?hpu ?hla ?hyo ?hfin
     case hst =>
      intro i o ho hz hy
      match i,ho with
      | 0,ho=>exact yl ho fun a w3 hx qz qb=>⟨rfl,_,run_move (.tmp 0) (.pointer (some ⟨rb,0,none⟩)) (qz 0 rfl),rfl⟩
      | 1,ho=>exact yl ho fun a w3 hx qz qb=>⟨rfl,_,run_move (.tmp 0) (.pointer (some ⟨rb,0,none⟩)) (qz 0 rfl),rfl⟩
      | 2,ho=>exact yl ho fun a w3 hx qz qb=>⟨rfl,_,qZ (.tmp 31) ⟨rb,0,none⟩ (qb 31 1 rfl rfl),rfl⟩
      | 3,ho=>exact yl ho fun a w3 hx qz qb=>⟨rfl,_,ya (.tmp 32) rb (qb 32 2 rfl rfl),rfl⟩
      | 4,ho=>exact yl ho fun a w3 hx qz qb=>⟨rfl,_,yc (.tmp 33) rb 9 (by decide) (qb 33 3 rfl rfl),rfl⟩
      | 5,ho=>exact yl ho fun a w3 hx qz qb=>⟨rfl,_,yO (.tmp 34) ⟨rb,9,none⟩ 39 (by decide) _ (qb 34 4 rfl rfl) (CB.out w3 hx),rfl⟩
      | 6,ho=>exact yl ho fun a w3 hx qz qb=>⟨rfl,_,run_move (.tmp 5) (.int .i64 sc) (qz 5 rfl),rfl⟩
      | 7,ho=>exact yl ho fun a w3 hx qz qb=>⟨rfl,_,kX (.tmp 6) tb _ _ _ _ (qz 6 rfl) (XE.out w3 hx).1 (XE.out w3 hx).2.1 (XE.out w3 hx).2.2.1 (XE.out w3 hx).2.2.2,rfl⟩
      | 8,ho=>exact yl ho fun a w3 hx qz qb=>⟨rfl,_,vF (.tmp 36) (.tmp 37) sc _ _ _ _ (qb 36 6 rfl rfl) (qb 37 7 rfl rfl),rfl⟩
      | 9,ho=>obtain rfl:=inj ho;intro a w3 hx qz qb yn;have hz:=(hx.size:(w6.drew).heap.size≤w3.heap.size);exact⟨rfl,jI (Y7 (.tmp 38) (.int .i64 sc) (.int .i64 x5.a.op) (.int .i64 x5.a.num) (.string x5.a.name) (.slice x5.a.ptr (len x5.k) x5.a.cap) (qb 38 8 rfl rfl)) (Ext.alloc _ _) (xL w3 w6.heap.size (Nat.le_trans HB0.out hz) (.int .i64 sc) (.int .i64 x5.a.op) (.int .i64 x5.a.num) (.string x5.a.name) (.slice x5.a.ptr (len x5.k) x5.a.cap) _)⟩
      | 10,ho=>exact absurd rfl hz
      | 11,ho=>exact yl ho fun a w3 hx qz qb=>⟨rfl,_,qZ (.tmp 30) ⟨rb,0,none⟩ (qb 30 0 rfl rfl),rfl⟩
      | 12,ho=>exact yl ho fun a w3 hx qz qb=>⟨rfl,_,ya (.tmp 41) rb (qb 41 11 rfl rfl),rfl⟩
      | 13,ho=>exact yl ho fun a w3 hx qz qb=>⟨rfl,_,yc (.tmp 42) rb 9 (by decide) (qb 42 12 rfl rfl),rfl⟩
      | 14,ho=>exact absurd rfl hy
      | i+15,ho=>cases ho
     case hpu =>
      intro i o ho hz hy
      match i,ho with
      | 0,ho=>obtain rfl:=inj ho;refine .inr ?_;intro a w1 w3 hx ym qz qb yn hf;exact⟨rfl,qo (run_move (.tmp 0) (.pointer (some ⟨rb,0,none⟩)) (qz 0 rfl)) ⟨_,rfl,rfl,fun _=>rfl,kA (by decide) hf⟩⟩
      | 1,ho=>exact .inl rfl
      | 2,ho=>exact .inl rfl
      | 3,ho=>exact .inl rfl
      | 4,ho=>exact .inl rfl
      | 5,ho=>exact .inl rfl
      | 6,ho=>exact .inl rfl
      | 7,ho=>exact .inl rfl
      | 8,ho=>exact .inl rfl
      | 9,ho=>exact .inl rfl
      | 10,ho=>exact absurd rfl hz
      | 11,ho=>obtain rfl:=inj ho;refine .inr ?_;intro a w1 w3 hx ym qz qb yn hf;exact⟨rfl,qo (qZ (.tmp 30) ⟨rb,0,none⟩ (qb 30 0 rfl rfl)) ⟨_,rfl,rfl,fun _=>rfl,kA (by decide) hf⟩⟩
      | 12,ho=>obtain rfl:=inj ho;refine .inr ?_;intro a w1 w3 hx ym qz qb yn hf;exact⟨rfl,qo (ya (.tmp 41) rb (qb 41 11 rfl rfl)) ⟨_,rfl,rfl,fun _=>rfl,kA (by decide) hf⟩⟩
      | 13,ho=>obtain rfl:=inj ho;refine .inr ?_;intro a w1 w3 hx ym qz qb yn hf;exact⟨rfl,qo (yc (.tmp 42) rb 9 (by decide) (qb 42 12 rfl rfl)) ⟨_,rfl,rfl,fun _=>rfl,kA (by decide) hf⟩⟩
      | 14,ho=>exact absurd rfl hy
      | i+15,ho=>cases ho
     case hla =>
      intro o ho;obtain rfl:=inj ho;intro a w3 hx ym qz qb yn;obtain⟨b,h1,h2,h3,h4⟩:=(qb 39 9 rfl rfl:(Wl.row w6.heap.size (j3 ⟨sc,x5.b,x5.o,x5.a,x5.k⟩)).ok (a.tmps.getD 39 undef) w3);have h5:a.tmps.getD 35 undef=.slice pv D.os.length cv:=qb 35 5 rfl rfl;have PQ:=PX.out w3 hx;have OW:w3.ownsRow bs 89 5 (.slice pv D.os.length cv) D.os.length (D.os.flatMap j3):=(by have q:=PQ.rows.ow 2;rw[← HV.out];exact q);refine⟨rfl,?_⟩;refine yJ w3 rfl (.tmp 35) (.tmp 39) 39 rfl bs 89 ir (.agg #[.int .i64 0,.int .i64 0,.int .i64 0,.string ⟨#[]⟩,.slice none 0 0]) 5 64 Tryz.underlying39 hir hir0 hir1 hir2 rfl (by decide) (.slice pv D.os.length cv) D.os.length (D.os.flatMap j3) h5 OW ⟨b,0,none⟩ 1 1 (j3 ⟨sc,x5.b,x5.o,x5.a,x5.k⟩) h1 rfl (fun j u hj=>by have q:=h4 j u hj;by_cases e:j=0;(subst e;simpa [Addr.add] using q);simpa [Addr.add,e] using q) (Yg _) (by have:=LD.out;unfold maxLen;omega) (by have:=LD.out;omega) (by have q1:=OB.out;have q2:w6.drew.heap.size≤w3.heap.size:=hx.size;have q3:=HB0.out;omega) ?_;intro v' w' qi qk hob;obtain⟨pn,cn,hvn⟩:=yt qi;subst hvn;refine⟨_,rfl,fun _=>trivial,pn,cn,?_,qi,by rw[HV.out];exact qk,by rw[HV.out];exact hob⟩
      show(a.put (some 40) _).tmps.getD 40 undef=_
      rw[yM,if_pos ⟨rfl,by rw[ym];exact(show(40:Nat) < 75 from by decide)⟩]
     case hyo =>
      intro o ho;obtain rfl:=inj ho;intro a w1 w3 hx ym qz qb yn hf;obtain⟨pn,cn,h1,qi,qk,hob⟩:=hf;have h2:a.tmps.getD 43 undef=.pointer (some ⟨rb,9,none⟩):=qb 43 13 rfl rfl;have PQ:=PX.out w1 hx;have GB:=PQ.box.grown qk (by rw[HV.out];exact fun e'=>by have q:=((PQ.rows.ow 2).lt rb (by show(vs 2).ownBlock=_;rw[HV.out];exact e'.symm)).1;have:=OB.out;omega);exact⟨rfl,zD (kh (.tmp 43) (.tmp 40) ⟨rb,9,none⟩ 39 (by decide) pn _ cn _ h2 h1 GB.c9 GB.f9) ⟨undef,rfl,fun h=>absurd h (by decide),pn,cn,w3,rfl,qi,qk,hob⟩⟩
     case hfin =>
      rintro x w1 w9 h1 h2 ⟨pn,cn,we,rfl,qi,qk,hob⟩
      have APP:Hid (ok=true→PgV (we.setCell ⟨rb,9,none⟩ (.slice pn (D.os.length+1) cn)) bs rb mb n { c with os:=c.os++[(sc,Pc.tree (L.drop 3))] } (qU vs 2 (.slice pn (D.os.length+1) cn)) { D with os:=D.os++[⟨sc,x5.b,x5.o,x5.a,x5.k⟩] }):=fun hcd=>by
       have q:=PgV.app2 (PX.out w1 h1) ⟨sc,x5.b,x5.o,x5.a,x5.k⟩ ((X6.out hcd).2.1.next (EXN.out w1 h1)) (A5.out hcd) (⟨(X6.out hcd).2.2,SB.out⟩) qi qk hob;rw[show Pz.nr (jc ⟨sc,x5.b,x5.o,x5.a,x5.k⟩)=Pc.tree (L.drop 3) from(X6.out hcd).1] at q;exact q
      have BEL:Hid (∀m,m≤rb→m≤mb→m≤bs→m≤w.heap.size→Below m w (we.setCell ⟨rb,9,none⟩ (.slice pn (D.os.length+1) cn))):=(fun m q1 _ q2 q3=>zd (yp (EX.out w1 h1) q3) q3 qk (fun g' e'=>Nat.le_trans q2 (((PX.out w1 h1).rows.ow 2).lt g' e').1) q1 _ _);clear h1 h2 qi qk hob;generalize we.setCell ⟨rb,9,none⟩ (.slice pn (D.os.length+1) cn)=w9 at *;dsimp only[frameT,VH,List.foldl];generalize x 30=q30;generalize x 31=q31;generalize x 32=q32;generalize x 33=q33;generalize x 34=q34;generalize x 35=q35;generalize x 36=q36;generalize x 37=q37;generalize x 38=q38;generalize x 39=q39;generalize x 40=q40;generalize x 41=q41;generalize x 42=q42;generalize x 43=q43;clear x;go_simp;go_wp2_with fail;go_ret;exact⟨xV RQ.out,kM RQ.out APP.out BEL.out⟩
  | false =>
    have HB1:=hid hb1;cases hb2:Pg.bg (L.drop 1) [Pc.wRule,Pg.pN,Pc.wIs] with
    | false =>
      have RQ:Hid (R=(c,1)):=(by unfold Hid;rw[RD2.out,hb1,hb2];rfl);have HB2:=hid hb2;clear hb1 hb2;go_wp2_with fail;refine(BG2.out _ _ _ _ _ _ (yu _ _) (qT _ _ _ rfl _) (fun _=>rfl) (by omega) HB1.out).mono ?_;rintro e w2 ⟨rfl,hb⟩;have B2:=hid ((yu _ _).trans (hb.mono (by simp)));clear hb;go_wp2_with fail;refine(BG3.out _ _ _ _ _ _ (B2.out.alloc B2.out.size _) (qT _ _ _ rfl _) (fun _=>rfl) (by omega) HB2.out).mono ?_;rintro e w3 ⟨rfl,hb⟩;have B3:=hid ((B2.out.alloc B2.out.size _).trans (hb.mono (by have:=B2.out.size;simp;omega)));clear hb;go_wp2;go_ret;exact⟨by rw[RQ.out];rfl,zc (by rw[RQ.out];show(1:Int)≠0;decide) (kv B3.out)⟩
    | true =>
      have HLN:Hid (4≤L.length):=by
       have q:=hb2;unfold Pg.bg at q;rw[Bool.and_eq_true,decide_eq_true_eq,List.length_drop] at q;have q1:=q.1;simp only[List.length_cons,List.length_nil] at q1;unfold Hid;omega
      obtain⟨ok,hok⟩:∃b,decide (kz (L.drop 4) < 0)=b:=⟨_,rfl⟩
      have RQ:Hid (R=if ok=true then ({ c with rs:=c.rs++[(sc,(Pc.tok L 2).text,Pc.tree (L.drop 4))] },0) else (c,1)):=by
       unfold Hid;rw[RD2.out,hb1,hb2,if_neg (by decide),if_pos rfl];exact xe hok
      rw[hok] at WX4;have HB2:=hid hb2;clear hb1 hb2 hok;rcases Classical.em (cap=4) with rfl|hcapn
      ·have WX:=WX4;rw[show L.length - 4=0 by have:=HLN.out;omega] at WX;clear WX3 WX4;have hcn:(4:Int)≤(L.length:Int):=(by have:=HLN.out;omega);have ix2:(2:Int) < (L.length:Int):=(by have:=HLN.out;omega);have IX2:Hid (2 < L.length):=(by have:=HLN.out;unfold Hid;omega);have TK21:Hid (∀wq,Below w.heap.size w wq→wq.cell? ⟨g,O+2 * 4+1,none⟩=some (.string (Pc.tok L 2).text)):=fun wq hb=>(TK.out 2 IX2.out wq hb).2.1;have NS21:Hid ((Pc.tok L 2).text.size≤9223372036854775807):=jH HS.out 2;obtain⟨t21,ht21⟩:∃z,(Pc.tok L 2).text=z:=⟨_,rfl⟩;rw[ht21] at TK21 NS21 RQ;have LD:Hid (D.rs.length≤1000):=by have:=CL.out;have:=LC.out;unfold Hid;omega
       go_upto_region 16 with (first
        | (go_at_call 89;refine(BG2.out _ _ _ _ _ _ (yu _ _) (qT _ _ _ rfl _) (by first|exact fun _=>rfl|(intro q;omega)) (by omega) HB1.out).mono ?_;rintro e w2 ⟨rfl,hb⟩;have B2:=hid ((yu _ _).trans (hb.mono (by simp)));clear hb BG2)
        | (go_at_call 89;refine(BG3.out _ _ _ _ _ _ (B2.out.alloc B2.out.size _) (qT _ _ _ rfl _) (by first|exact fun _=>rfl|(intro q;omega)) (by omega) HB2.out).mono ?_;rintro e w3 ⟨rfl,hb⟩;have B3:=hid ((B2.out.alloc B2.out.size _).trans (hb.mono (by(have:=B2.out.size;simp;omega))));clear hb))
       go_upto_region 17 with (go_at_call 90;refine(WX.out _ _ _ B3.out (by first|exact .inl rfl|exact .inr (by omega))).mono ?_;rintro e w5 ⟨x5,rfl,hb5,hx5⟩;have B5:=hid (bt9 B3 hb5);have X5:=hid hx5;have A5:=hid (fun h=>(PV.out.next B3.out).av (hx5 h).2.2.1);clear hb5 hx5);obtain⟨w6,hw6,hbx,e0,e1,e2,e3⟩:=xU w5 x5;rw[hw6];clear hw6;have B6:=hid (bt9 B5 hbx);have X6:Hid (ok=true→Pz.nr x5=Pc.tree (L.drop 4)∧ExAt w6 x5.b x5.o x5.a x5.k∧yN x5.a x5.k):=fun h=>⟨(X5.out h).1,(X5.out h).2.1.next hbx,(X5.out h).2.2.2⟩;generalize w5.heap.size=tb at *;clear X5 hbx
       have XE:Hid (∀wq,Ext w6.drew wq→wq.cell? ⟨tb,0,none⟩=some (.int .i64 x5.a.op)∧wq.cell? ⟨tb,1,none⟩=some (.int .i64 x5.a.num)∧wq.cell? ⟨tb,2,none⟩=some (.string x5.a.name)∧wq.cell? ⟨tb,3,none⟩=some (.slice x5.a.ptr (len x5.k) x5.a.cap)):=fun wq hq=>(by
        have hb:Below w6.heap.size w6 wq:=((Below.refl _ _).drew).trans (Below.mono hq (by simp));exact⟨qa e0 hb,qa e1 hb,qa e2 hb,qa e3 hb⟩)
       obtain⟨ir,hir,hir0,hir1,hir2⟩:=info_parts Tryz.infoRuP;have P6:=hid (PV.out.next B6.out);obtain⟨pv,cv,hv⟩:∃pv cv,vs 1=.slice pv D.rs.length cv:=yt (P6.out.rows.ow 1);have HV:=hid hv;clear hv;have EX:Hid (∀wq,Ext w6.drew wq→Below w.heap.size w wq):=fun wq hq=>(B6.out.drew).trans (Below.mono hq (by have:=B6.out.size;simpa using this));have PX:Hid (∀wq,Ext w6.drew wq→PgV wq bs rb mb n c vs D):=fun wq hq=>PV.out.next (EX.out wq hq)
       have EXN:Hid (∀wq,Ext w6.drew wq→Below w6.heap.size w6 wq):=fun wq hq=>((Below.refl _ _).drew).trans (Below.mono hq (by simp));have HB0:Hid (w6.heap.size≤w6.drew.heap.size):=(by unfold Hid;simp);have OB:Hid (bs≤w6.heap.size∧rb < bs):=⟨Nat.le_trans LB.out.2 B6.out.size,LB.out.1⟩;have CB:Hid (∀wq,Ext w6.drew wq→wq.cell? ⟨rb,8,none⟩=some (.slice pv D.rs.length cv)):=fun wq hq=>by rw[← HV.out];exact(PX.out wq hq).box.c8
       have TC21:Hid (∀wq,Ext w6.drew wq→wq.cell? ⟨g,O+2 * 4+1,none⟩=some (.string t21)):=fun wq hq=>TK21.out wq (EX.out wq hq);refine zp VF (grG rb g O L.length 4 D.rs.length cv w6.heap.size pv sc t21 tb x5) 14 18 (fun x w1 w'=>∃pn cn,x 70=.slice pn (D.rs.length+1) cn∧w'.ownsRow bs 87 6 (.slice pn (D.rs.length+1) cn) (D.rs.length+1) (D.rs.flatMap zV++zV ⟨sc,t21,x5.b,x5.o,x5.a,x5.k⟩)∧w1.grownBy w' (vs 1).ownBlock∧((Value.slice pn (D.rs.length+1) cn).ownBlock=(vs 1).ownBlock∨(Value.slice pn (D.rs.length+1) cn).ownBlock=some w1.heap.size)) (fun x w1 w'=>∃pn cn we,w'=we.setCell ⟨rb,8,none⟩ (.slice pn (D.rs.length+1) cn)∧we.ownsRow bs 87 6 (.slice pn (D.rs.length+1) cn) (D.rs.length+1) (D.rs.flatMap zV++zV ⟨sc,t21,x5.b,x5.o,x5.a,x5.k⟩)∧w1.grownBy we (vs 1).ownBlock∧((Value.slice pn (D.rs.length+1) cn).ownBlock=(vs 1).ownBlock∨(Value.slice pn (D.rs.length+1) cn).ownBlock=some w1.heap.size)) (by kernel_rfl) (by kernel_rfl) (fun i v w w' h he=>Wl.ext h he) (fun i=>decide (i≠0∧i≠15∧i≠16∧i≠17∧i < 14)) (by kernel_rfl) (by kernel_rfl) (by decide) ?hst ?hpu ?hla ?hyo ?hfin
       case hst =>
        intro i o ho hz hy
        match i,ho with
        | 0,ho=>exact yl ho fun a w3 hx qz qb=>⟨rfl,_,run_move (.tmp 0) (.pointer (some ⟨rb,0,none⟩)) (qz 0 rfl),rfl⟩
        | 1,ho=>exact yl ho fun a w3 hx qz qb=>⟨rfl,_,run_move (.tmp 0) (.pointer (some ⟨rb,0,none⟩)) (qz 0 rfl),rfl⟩
        | 2,ho=>exact yl ho fun a w3 hx qz qb=>⟨rfl,_,qZ (.tmp 57) ⟨rb,0,none⟩ (qb 57 1 rfl rfl),rfl⟩
        | 3,ho=>exact yl ho fun a w3 hx qz qb=>⟨rfl,_,ya (.tmp 58) rb (qb 58 2 rfl rfl),rfl⟩
        | 4,ho=>exact yl ho fun a w3 hx qz qb=>⟨rfl,_,yc (.tmp 59) rb 8 (by decide) (qb 59 3 rfl rfl),rfl⟩
        | 5,ho=>exact yl ho fun a w3 hx qz qb=>⟨rfl,_,yO (.tmp 60) ⟨rb,8,none⟩ 38 (by decide) _ (qb 60 4 rfl rfl) (CB.out w3 hx),rfl⟩
        | 6,ho=>exact yl ho fun a w3 hx qz qb=>⟨rfl,_,run_move (.tmp 5) (.int .i64 sc) (qz 5 rfl),rfl⟩
        | 7,ho=>exact yl ho fun a w3 hx qz qb=>⟨rfl,_,run_move (.tmp 1) (.slice (some ⟨g,O,none⟩) L.length 4) (qz 1 rfl),rfl⟩
        | 8,ho=>exact yl ho fun a w3 hx qz qb=>⟨rfl,_,zO (.tmp 63) g O L.length 4 2 rfl IX2.out (qb 63 7 rfl rfl),rfl⟩
        | 9,ho=>exact yl ho fun a w3 hx qz qb=>⟨rfl,_,zq (.tmp 64) g (O+2 * 4) 1 (by decide) (qb 64 8 rfl rfl),rfl⟩
        | 10,ho=>exact yl ho fun a w3 hx qz qb=>⟨rfl,_,yO (.tmp 65) ⟨g,O+2 * 4+1,none⟩ 9 (by decide) (.string t21) (qb 65 9 rfl rfl) (TC21.out w3 hx),rfl⟩
        | 11,ho=>exact yl ho fun a w3 hx qz qb=>⟨rfl,_,kX (.tmp 8) tb _ _ _ _ (qz 8 rfl) (XE.out w3 hx).1 (XE.out w3 hx).2.1 (XE.out w3 hx).2.2.1 (XE.out w3 hx).2.2.2,rfl⟩
        | 12,ho=>exact yl ho fun a w3 hx qz qb=>⟨rfl,_,vE (.tmp 62) (.tmp 66) (.tmp 67) sc t21 _ _ _ _ (qb 62 6 rfl rfl) (qb 66 10 rfl rfl) (qb 67 11 rfl rfl),rfl⟩
        | 13,ho=>obtain rfl:=inj ho;intro a w3 hx qz qb yn;have hz:=(hx.size:(w6.drew).heap.size≤w3.heap.size);exact⟨rfl,jI (Y6 (.tmp 68) (.int .i64 sc) (.string t21) (.int .i64 x5.a.op) (.int .i64 x5.a.num) (.string x5.a.name) (.slice x5.a.ptr (len x5.k) x5.a.cap) (qb 68 12 rfl rfl)) (Ext.alloc _ _) (QR w3 w6.heap.size (Nat.le_trans HB0.out hz) (.int .i64 sc) (.string t21) (.int .i64 x5.a.op) (.int .i64 x5.a.num) (.string x5.a.name) (.slice x5.a.ptr (len x5.k) x5.a.cap) _)⟩
        | 14,ho=>exact absurd rfl hz
        | 15,ho=>exact yl ho fun a w3 hx qz qb=>⟨rfl,_,qZ (.tmp 56) ⟨rb,0,none⟩ (qb 56 0 rfl rfl),rfl⟩
        | 16,ho=>exact yl ho fun a w3 hx qz qb=>⟨rfl,_,ya (.tmp 71) rb (qb 71 15 rfl rfl),rfl⟩
        | 17,ho=>exact yl ho fun a w3 hx qz qb=>⟨rfl,_,yc (.tmp 72) rb 8 (by decide) (qb 72 16 rfl rfl),rfl⟩
        | 18,ho=>exact absurd rfl hy
        | i+19,ho=>cases ho
       case hpu =>
        intro i o ho hz hy
        match i,ho with
        | 0,ho=>obtain rfl:=inj ho;refine .inr ?_;intro a w1 w3 hx ym qz qb yn hf;exact⟨rfl,qo (run_move (.tmp 0) (.pointer (some ⟨rb,0,none⟩)) (qz 0 rfl)) ⟨_,rfl,rfl,fun _=>rfl,kA (by decide) hf⟩⟩
        | 1,ho=>exact .inl rfl
        | 2,ho=>exact .inl rfl
        | 3,ho=>exact .inl rfl
        | 4,ho=>exact .inl rfl
        | 5,ho=>exact .inl rfl
        | 6,ho=>exact .inl rfl
        | 7,ho=>exact .inl rfl
        | 8,ho=>exact .inl rfl
        | 9,ho=>exact .inl rfl
        | 10,ho=>exact .inl rfl
        | 11,ho=>exact .inl rfl
        | 12,ho=>exact .inl rfl
        | 13,ho=>exact .inl rfl
        | 14,ho=>exact absurd rfl hz
        | 15,ho=>obtain rfl:=inj ho;refine .inr ?_;intro a w1 w3 hx ym qz qb yn hf;exact⟨rfl,qo (qZ (.tmp 56) ⟨rb,0,none⟩ (qb 56 0 rfl rfl)) ⟨_,rfl,rfl,fun _=>rfl,kA (by decide) hf⟩⟩
        | 16,ho=>obtain rfl:=inj ho;refine .inr ?_;intro a w1 w3 hx ym qz qb yn hf;exact⟨rfl,qo (ya (.tmp 71) rb (qb 71 15 rfl rfl)) ⟨_,rfl,rfl,fun _=>rfl,kA (by decide) hf⟩⟩
        | 17,ho=>obtain rfl:=inj ho;refine .inr ?_;intro a w1 w3 hx ym qz qb yn hf;exact⟨rfl,qo (yc (.tmp 72) rb 8 (by decide) (qb 72 16 rfl rfl)) ⟨_,rfl,rfl,fun _=>rfl,kA (by decide) hf⟩⟩
        | 18,ho=>exact absurd rfl hy
        | i+19,ho=>cases ho
       case hla =>
        intro o ho;obtain rfl:=inj ho;intro a w3 hx ym qz qb yn;obtain⟨b,h1,h2,h3,h4⟩:=(qb 69 13 rfl rfl:(Wl.row w6.heap.size (zV ⟨sc,t21,x5.b,x5.o,x5.a,x5.k⟩)).ok (a.tmps.getD 69 undef) w3);have h5:a.tmps.getD 61 undef=.slice pv D.rs.length cv:=qb 61 5 rfl rfl;have PQ:=PX.out w3 hx;have OW:w3.ownsRow bs 87 6 (.slice pv D.rs.length cv) D.rs.length (D.rs.flatMap zV):=(by have q:=PQ.rows.ow 1;rw[← HV.out];exact q);refine⟨rfl,?_⟩;refine yJ w3 rfl (.tmp 61) (.tmp 69) 38 rfl bs 87 ir (.agg #[.int .i64 0,.string ⟨#[]⟩,.int .i64 0,.int .i64 0,.string ⟨#[]⟩,.slice none 0 0]) 6 80 Tryz.underlying38 hir hir0 hir1 hir2 rfl (by decide) (.slice pv D.rs.length cv) D.rs.length (D.rs.flatMap zV) h5 OW ⟨b,0,none⟩ 1 1 (zV ⟨sc,t21,x5.b,x5.o,x5.a,x5.k⟩) h1 rfl (fun j u hj=>by have q:=h4 j u hj;by_cases e:j=0;(subst e;simpa [Addr.add] using q);simpa [Addr.add,e] using q) (Yf _) (by have:=LD.out;unfold maxLen;omega) (by have:=LD.out;omega) (by have q1:=OB.out;have q2:w6.drew.heap.size≤w3.heap.size:=hx.size;have q3:=HB0.out;omega) ?_;intro v' w' qi qk hob;obtain⟨pn,cn,hvn⟩:=yt qi;subst hvn;refine⟨_,rfl,fun _=>trivial,pn,cn,?_,qi,by rw[HV.out];exact qk,by rw[HV.out];exact hob⟩
        show(a.put (some 70) _).tmps.getD 70 undef=_
        rw[yM,if_pos ⟨rfl,by rw[ym];exact(show(70:Nat) < 75 from by decide)⟩]
       case hyo =>
        intro o ho;obtain rfl:=inj ho;intro a w1 w3 hx ym qz qb yn hf;obtain⟨pn,cn,h1,qi,qk,hob⟩:=hf;have h2:a.tmps.getD 73 undef=.pointer (some ⟨rb,8,none⟩):=qb 73 17 rfl rfl;have PQ:=PX.out w1 hx;have GB:=PQ.box.grown qk (by rw[HV.out];exact fun e'=>by have q:=((PQ.rows.ow 1).lt rb (by show(vs 1).ownBlock=_;rw[HV.out];exact e'.symm)).1;have:=OB.out;omega);exact⟨rfl,zD (kh (.tmp 73) (.tmp 70) ⟨rb,8,none⟩ 38 (by decide) pn _ cn _ h2 h1 GB.c8 GB.f8) ⟨undef,rfl,fun h=>absurd h (by decide),pn,cn,w3,rfl,qi,qk,hob⟩⟩
       case hfin =>
        rintro x w1 w9 h1 h2 ⟨pn,cn,we,rfl,qi,qk,hob⟩
        have APP:Hid (ok=true→PgV (we.setCell ⟨rb,8,none⟩ (.slice pn (D.rs.length+1) cn)) bs rb mb n { c with rs:=c.rs++[(sc,t21,Pc.tree (L.drop 4))] } (qU vs 1 (.slice pn (D.rs.length+1) cn)) { D with rs:=D.rs++[⟨sc,t21,x5.b,x5.o,x5.a,x5.k⟩] }):=fun hcd=>by
         have q:=PgV.app1 (PX.out w1 h1) ⟨sc,t21,x5.b,x5.o,x5.a,x5.k⟩ ((X6.out hcd).2.1.next (EXN.out w1 h1)) (A5.out hcd) (⟨(X6.out hcd).2.2,SB.out,NS21.out⟩) qi qk hob;rw[show Pz.nr (j7 ⟨sc,t21,x5.b,x5.o,x5.a,x5.k⟩)=Pc.tree (L.drop 4) from(X6.out hcd).1] at q;exact q
        have BEL:Hid (∀m,m≤rb→m≤mb→m≤bs→m≤w.heap.size→Below m w (we.setCell ⟨rb,8,none⟩ (.slice pn (D.rs.length+1) cn))):=(fun m q1 _ q2 q3=>zd (yp (EX.out w1 h1) q3) q3 qk (fun g' e'=>Nat.le_trans q2 (((PX.out w1 h1).rows.ow 1).lt g' e').1) q1 _ _);clear h1 h2 qi qk hob;generalize we.setCell ⟨rb,8,none⟩ (.slice pn (D.rs.length+1) cn)=w9 at *;dsimp only[frameT,VF,List.foldl];generalize x 56=q56;generalize x 57=q57;generalize x 58=q58;generalize x 59=q59;generalize x 60=q60;generalize x 61=q61;generalize x 62=q62;generalize x 63=q63;generalize x 64=q64;generalize x 65=q65;generalize x 66=q66;generalize x 67=q67;generalize x 68=q68;generalize x 69=q69;generalize x 70=q70;generalize x 71=q71;generalize x 72=q72;generalize x 73=q73;clear x;go_simp;go_wp2_with fail;go_ret;exact⟨xV RQ.out,kM RQ.out APP.out BEL.out⟩
      ·have WX:=WX4;clear WX3 WX4;have hcn:(4:Int)≤(L.length:Int):=(by have:=HLN.out;omega);have ix2:(2:Int) < (L.length:Int):=(by have:=HLN.out;omega);have IX2:Hid (2 < L.length):=(by have:=HLN.out;unfold Hid;omega);have TK21:Hid (∀wq,Below w.heap.size w wq→wq.cell? ⟨g,O+2 * 4+1,none⟩=some (.string (Pc.tok L 2).text)):=fun wq hb=>(TK.out 2 IX2.out wq hb).2.1;have NS21:Hid ((Pc.tok L 2).text.size≤9223372036854775807):=jH HS.out 2;obtain⟨t21,ht21⟩:∃z,(Pc.tok L 2).text=z:=⟨_,rfl⟩;rw[ht21] at TK21 NS21 RQ;have LD:Hid (D.rs.length≤1000):=by have:=CL.out;have:=LC.out;unfold Hid;omega
       go_upto_region 16 with (first
        | (go_at_call 89;refine(BG2.out _ _ _ _ _ _ (yu _ _) (qT _ _ _ rfl _) (by first|exact fun _=>rfl|(intro q;omega)) (by omega) HB1.out).mono ?_;rintro e w2 ⟨rfl,hb⟩;have B2:=hid ((yu _ _).trans (hb.mono (by simp)));clear hb BG2)
        | (go_at_call 89;refine(BG3.out _ _ _ _ _ _ (B2.out.alloc B2.out.size _) (qT _ _ _ rfl _) (by first|exact fun _=>rfl|(intro q;omega)) (by omega) HB2.out).mono ?_;rintro e w3 ⟨rfl,hb⟩;have B3:=hid ((B2.out.alloc B2.out.size _).trans (hb.mono (by(have:=B2.out.size;simp;omega))));clear hb))
       go_upto_region 17 with (go_at_call 90;refine(WX.out _ _ _ B3.out (by first|exact .inl rfl|exact .inr (by omega))).mono ?_;rintro e w5 ⟨x5,rfl,hb5,hx5⟩;have B5:=hid (bt9 B3 hb5);have X5:=hid hx5;have A5:=hid (fun h=>(PV.out.next B3.out).av (hx5 h).2.2.1);clear hb5 hx5);obtain⟨w6,hw6,hbx,e0,e1,e2,e3⟩:=xU w5 x5;rw[hw6];clear hw6;have B6:=hid (bt9 B5 hbx);have X6:Hid (ok=true→Pz.nr x5=Pc.tree (L.drop 4)∧ExAt w6 x5.b x5.o x5.a x5.k∧yN x5.a x5.k):=fun h=>⟨(X5.out h).1,(X5.out h).2.1.next hbx,(X5.out h).2.2.2⟩;generalize w5.heap.size=tb at *;clear X5 hbx
       have XE:Hid (∀wq,Ext w6.drew wq→wq.cell? ⟨tb,0,none⟩=some (.int .i64 x5.a.op)∧wq.cell? ⟨tb,1,none⟩=some (.int .i64 x5.a.num)∧wq.cell? ⟨tb,2,none⟩=some (.string x5.a.name)∧wq.cell? ⟨tb,3,none⟩=some (.slice x5.a.ptr (len x5.k) x5.a.cap)):=fun wq hq=>(by
        have hb:Below w6.heap.size w6 wq:=((Below.refl _ _).drew).trans (Below.mono hq (by simp));exact⟨qa e0 hb,qa e1 hb,qa e2 hb,qa e3 hb⟩)
       obtain⟨ir,hir,hir0,hir1,hir2⟩:=info_parts Tryz.infoRuP;have P6:=hid (PV.out.next B6.out);obtain⟨pv,cv,hv⟩:∃pv cv,vs 1=.slice pv D.rs.length cv:=yt (P6.out.rows.ow 1);have HV:=hid hv;clear hv;have EX:Hid (∀wq,Ext w6.drew wq→Below w.heap.size w wq):=fun wq hq=>(B6.out.drew).trans (Below.mono hq (by have:=B6.out.size;simpa using this));have PX:Hid (∀wq,Ext w6.drew wq→PgV wq bs rb mb n c vs D):=fun wq hq=>PV.out.next (EX.out wq hq)
       have EXN:Hid (∀wq,Ext w6.drew wq→Below w6.heap.size w6 wq):=fun wq hq=>((Below.refl _ _).drew).trans (Below.mono hq (by simp));have HB0:Hid (w6.heap.size≤w6.drew.heap.size):=(by unfold Hid;simp);have OB:Hid (bs≤w6.heap.size∧rb < bs):=⟨Nat.le_trans LB.out.2 B6.out.size,LB.out.1⟩;have CB:Hid (∀wq,Ext w6.drew wq→wq.cell? ⟨rb,8,none⟩=some (.slice pv D.rs.length cv)):=fun wq hq=>by rw[← HV.out];exact(PX.out wq hq).box.c8
       have TC21:Hid (∀wq,Ext w6.drew wq→wq.cell? ⟨g,O+2 * 4+1,none⟩=some (.string t21)):=fun wq hq=>TK21.out wq (EX.out wq hq);refine zp VF (grG rb g O L.length cap D.rs.length cv w6.heap.size pv sc t21 tb x5) 14 18 (fun x w1 w'=>∃pn cn,x 70=.slice pn (D.rs.length+1) cn∧w'.ownsRow bs 87 6 (.slice pn (D.rs.length+1) cn) (D.rs.length+1) (D.rs.flatMap zV++zV ⟨sc,t21,x5.b,x5.o,x5.a,x5.k⟩)∧w1.grownBy w' (vs 1).ownBlock∧((Value.slice pn (D.rs.length+1) cn).ownBlock=(vs 1).ownBlock∨(Value.slice pn (D.rs.length+1) cn).ownBlock=some w1.heap.size)) (fun x w1 w'=>∃pn cn we,w'=we.setCell ⟨rb,8,none⟩ (.slice pn (D.rs.length+1) cn)∧we.ownsRow bs 87 6 (.slice pn (D.rs.length+1) cn) (D.rs.length+1) (D.rs.flatMap zV++zV ⟨sc,t21,x5.b,x5.o,x5.a,x5.k⟩)∧w1.grownBy we (vs 1).ownBlock∧((Value.slice pn (D.rs.length+1) cn).ownBlock=(vs 1).ownBlock∨(Value.slice pn (D.rs.length+1) cn).ownBlock=some w1.heap.size)) (by kernel_rfl) (by kernel_rfl) (fun i v w w' h he=>Wl.ext h he) (fun i=>decide (i≠0∧i≠15∧i≠16∧i≠17∧i < 14)) (by kernel_rfl) (by kernel_rfl) (by decide) ?hst ?hpu ?hla ?hyo ?hfin
       case hst =>
        intro i o ho hz hy
        match i,ho with
        | 0,ho=>exact yl ho fun a w3 hx qz qb=>⟨rfl,_,run_move (.tmp 0) (.pointer (some ⟨rb,0,none⟩)) (qz 0 rfl),rfl⟩
        | 1,ho=>exact yl ho fun a w3 hx qz qb=>⟨rfl,_,run_move (.tmp 0) (.pointer (some ⟨rb,0,none⟩)) (qz 0 rfl),rfl⟩
        | 2,ho=>exact yl ho fun a w3 hx qz qb=>⟨rfl,_,qZ (.tmp 57) ⟨rb,0,none⟩ (qb 57 1 rfl rfl),rfl⟩
        | 3,ho=>exact yl ho fun a w3 hx qz qb=>⟨rfl,_,ya (.tmp 58) rb (qb 58 2 rfl rfl),rfl⟩
        | 4,ho=>exact yl ho fun a w3 hx qz qb=>⟨rfl,_,yc (.tmp 59) rb 8 (by decide) (qb 59 3 rfl rfl),rfl⟩
        | 5,ho=>exact yl ho fun a w3 hx qz qb=>⟨rfl,_,yO (.tmp 60) ⟨rb,8,none⟩ 38 (by decide) _ (qb 60 4 rfl rfl) (CB.out w3 hx),rfl⟩
        | 6,ho=>exact yl ho fun a w3 hx qz qb=>⟨rfl,_,run_move (.tmp 5) (.int .i64 sc) (qz 5 rfl),rfl⟩
        | 7,ho=>exact yl ho fun a w3 hx qz qb=>⟨rfl,_,run_move (.tmp 1) (.slice (some ⟨g,O,none⟩) L.length cap) (qz 1 rfl),rfl⟩
        | 8,ho=>exact yl ho fun a w3 hx qz qb=>⟨rfl,_,zO (.tmp 63) g O L.length cap 2 rfl IX2.out (qb 63 7 rfl rfl),rfl⟩
        | 9,ho=>exact yl ho fun a w3 hx qz qb=>⟨rfl,_,zq (.tmp 64) g (O+2 * 4) 1 (by decide) (qb 64 8 rfl rfl),rfl⟩
        | 10,ho=>exact yl ho fun a w3 hx qz qb=>⟨rfl,_,yO (.tmp 65) ⟨g,O+2 * 4+1,none⟩ 9 (by decide) (.string t21) (qb 65 9 rfl rfl) (TC21.out w3 hx),rfl⟩
        | 11,ho=>exact yl ho fun a w3 hx qz qb=>⟨rfl,_,kX (.tmp 8) tb _ _ _ _ (qz 8 rfl) (XE.out w3 hx).1 (XE.out w3 hx).2.1 (XE.out w3 hx).2.2.1 (XE.out w3 hx).2.2.2,rfl⟩
        | 12,ho=>exact yl ho fun a w3 hx qz qb=>⟨rfl,_,vE (.tmp 62) (.tmp 66) (.tmp 67) sc t21 _ _ _ _ (qb 62 6 rfl rfl) (qb 66 10 rfl rfl) (qb 67 11 rfl rfl),rfl⟩
        | 13,ho=>obtain rfl:=inj ho;intro a w3 hx qz qb yn;have hz:=(hx.size:(w6.drew).heap.size≤w3.heap.size);exact⟨rfl,jI (Y6 (.tmp 68) (.int .i64 sc) (.string t21) (.int .i64 x5.a.op) (.int .i64 x5.a.num) (.string x5.a.name) (.slice x5.a.ptr (len x5.k) x5.a.cap) (qb 68 12 rfl rfl)) (Ext.alloc _ _) (QR w3 w6.heap.size (Nat.le_trans HB0.out hz) (.int .i64 sc) (.string t21) (.int .i64 x5.a.op) (.int .i64 x5.a.num) (.string x5.a.name) (.slice x5.a.ptr (len x5.k) x5.a.cap) _)⟩
        | 14,ho=>exact absurd rfl hz
        | 15,ho=>exact yl ho fun a w3 hx qz qb=>⟨rfl,_,qZ (.tmp 56) ⟨rb,0,none⟩ (qb 56 0 rfl rfl),rfl⟩
        | 16,ho=>exact yl ho fun a w3 hx qz qb=>⟨rfl,_,ya (.tmp 71) rb (qb 71 15 rfl rfl),rfl⟩
        | 17,ho=>exact yl ho fun a w3 hx qz qb=>⟨rfl,_,yc (.tmp 72) rb 8 (by decide) (qb 72 16 rfl rfl),rfl⟩
        | 18,ho=>exact absurd rfl hy
        | i+19,ho=>cases ho
       case hpu =>
        intro i o ho hz hy
        match i,ho with
        | 0,ho=>obtain rfl:=inj ho;refine .inr ?_;intro a w1 w3 hx ym qz qb yn hf;exact⟨rfl,qo (run_move (.tmp 0) (.pointer (some ⟨rb,0,none⟩)) (qz 0 rfl)) ⟨_,rfl,rfl,fun _=>rfl,kA (by decide) hf⟩⟩
        | 1,ho=>exact .inl rfl
        | 2,ho=>exact .inl rfl
        | 3,ho=>exact .inl rfl
        | 4,ho=>exact .inl rfl
        | 5,ho=>exact .inl rfl
        | 6,ho=>exact .inl rfl
        | 7,ho=>exact .inl rfl
        | 8,ho=>exact .inl rfl
        | 9,ho=>exact .inl rfl
        | 10,ho=>exact .inl rfl
        | 11,ho=>exact .inl rfl
        | 12,ho=>exact .inl rfl
        | 13,ho=>exact .inl rfl
        | 14,ho=>exact absurd rfl hz
        | 15,ho=>obtain rfl:=inj ho;refine .inr ?_;intro a w1 w3 hx ym qz qb yn hf;exact⟨rfl,qo (qZ (.tmp 56) ⟨rb,0,none⟩ (qb 56 0 rfl rfl)) ⟨_,rfl,rfl,fun _=>rfl,kA (by decide) hf⟩⟩
        | 16,ho=>obtain rfl:=inj ho;refine .inr ?_;intro a w1 w3 hx ym qz qb yn hf;exact⟨rfl,qo (ya (.tmp 71) rb (qb 71 15 rfl rfl)) ⟨_,rfl,rfl,fun _=>rfl,kA (by decide) hf⟩⟩
        | 17,ho=>obtain rfl:=inj ho;refine .inr ?_;intro a w1 w3 hx ym qz qb yn hf;exact⟨rfl,qo (yc (.tmp 72) rb 8 (by decide) (qb 72 16 rfl rfl)) ⟨_,rfl,rfl,fun _=>rfl,kA (by decide) hf⟩⟩
        | 18,ho=>exact absurd rfl hy
        | i+19,ho=>cases ho
       case hla =>
        intro o ho;obtain rfl:=inj ho;intro a w3 hx ym qz qb yn;obtain⟨b,h1,h2,h3,h4⟩:=(qb 69 13 rfl rfl:(Wl.row w6.heap.size (zV ⟨sc,t21,x5.b,x5.o,x5.a,x5.k⟩)).ok (a.tmps.getD 69 undef) w3);have h5:a.tmps.getD 61 undef=.slice pv D.rs.length cv:=qb 61 5 rfl rfl;have PQ:=PX.out w3 hx;have OW:w3.ownsRow bs 87 6 (.slice pv D.rs.length cv) D.rs.length (D.rs.flatMap zV):=(by have q:=PQ.rows.ow 1;rw[← HV.out];exact q);refine⟨rfl,?_⟩;refine yJ w3 rfl (.tmp 61) (.tmp 69) 38 rfl bs 87 ir (.agg #[.int .i64 0,.string ⟨#[]⟩,.int .i64 0,.int .i64 0,.string ⟨#[]⟩,.slice none 0 0]) 6 80 Tryz.underlying38 hir hir0 hir1 hir2 rfl (by decide) (.slice pv D.rs.length cv) D.rs.length (D.rs.flatMap zV) h5 OW ⟨b,0,none⟩ 1 1 (zV ⟨sc,t21,x5.b,x5.o,x5.a,x5.k⟩) h1 rfl (fun j u hj=>by have q:=h4 j u hj;by_cases e:j=0;(subst e;simpa [Addr.add] using q);simpa [Addr.add,e] using q) (Yf _) (by have:=LD.out;unfold maxLen;omega) (by have:=LD.out;omega) (by have q1:=OB.out;have q2:w6.drew.heap.size≤w3.heap.size:=hx.size;have q3:=HB0.out;omega) ?_;intro v' w' qi qk hob;obtain⟨pn,cn,hvn⟩:=yt qi;subst hvn;refine⟨_,rfl,fun _=>trivial,pn,cn,?_,qi,by rw[HV.out];exact qk,by rw[HV.out];exact hob⟩
        show(a.put (some 70) _).tmps.getD 70 undef=_
        rw[yM,if_pos ⟨rfl,by rw[ym];exact(show(70:Nat) < 75 from by decide)⟩]
       case hyo =>
        intro o ho;obtain rfl:=inj ho;intro a w1 w3 hx ym qz qb yn hf;obtain⟨pn,cn,h1,qi,qk,hob⟩:=hf;have h2:a.tmps.getD 73 undef=.pointer (some ⟨rb,8,none⟩):=qb 73 17 rfl rfl;have PQ:=PX.out w1 hx;have GB:=PQ.box.grown qk (by rw[HV.out];exact fun e'=>by have q:=((PQ.rows.ow 1).lt rb (by show(vs 1).ownBlock=_;rw[HV.out];exact e'.symm)).1;have:=OB.out;omega);exact⟨rfl,zD (kh (.tmp 73) (.tmp 70) ⟨rb,8,none⟩ 38 (by decide) pn _ cn _ h2 h1 GB.c8 GB.f8) ⟨undef,rfl,fun h=>absurd h (by decide),pn,cn,w3,rfl,qi,qk,hob⟩⟩
       case hfin =>
        rintro x w1 w9 h1 h2 ⟨pn,cn,we,rfl,qi,qk,hob⟩
        have APP:Hid (ok=true→PgV (we.setCell ⟨rb,8,none⟩ (.slice pn (D.rs.length+1) cn)) bs rb mb n { c with rs:=c.rs++[(sc,t21,Pc.tree (L.drop 4))] } (qU vs 1 (.slice pn (D.rs.length+1) cn)) { D with rs:=D.rs++[⟨sc,t21,x5.b,x5.o,x5.a,x5.k⟩] }):=fun hcd=>by
         have q:=PgV.app1 (PX.out w1 h1) ⟨sc,t21,x5.b,x5.o,x5.a,x5.k⟩ ((X6.out hcd).2.1.next (EXN.out w1 h1)) (A5.out hcd) (⟨(X6.out hcd).2.2,SB.out,NS21.out⟩) qi qk hob;rw[show Pz.nr (j7 ⟨sc,t21,x5.b,x5.o,x5.a,x5.k⟩)=Pc.tree (L.drop 4) from(X6.out hcd).1] at q;exact q
        have BEL:Hid (∀m,m≤rb→m≤mb→m≤bs→m≤w.heap.size→Below m w (we.setCell ⟨rb,8,none⟩ (.slice pn (D.rs.length+1) cn))):=(fun m q1 _ q2 q3=>zd (yp (EX.out w1 h1) q3) q3 qk (fun g' e'=>Nat.le_trans q2 (((PX.out w1 h1).rows.ow 1).lt g' e').1) q1 _ _);clear h1 h2 qi qk hob;generalize we.setCell ⟨rb,8,none⟩ (.slice pn (D.rs.length+1) cn)=w9 at *;dsimp only[frameT,VF,List.foldl];generalize x 56=q56;generalize x 57=q57;generalize x 58=q58;generalize x 59=q59;generalize x 60=q60;generalize x 61=q61;generalize x 62=q62;generalize x 63=q63;generalize x 64=q64;generalize x 65=q65;generalize x 66=q66;generalize x 67=q67;generalize x 68=q68;generalize x 69=q69;generalize x 70=q70;generalize x 71=q71;generalize x 72=q72;generalize x 73=q73;clear x;go_simp;go_wp2_with fail;go_ret;exact⟨xV RQ.out,kM RQ.out APP.out BEL.out⟩
end Go.Proofs.YtcejjdmnlejbaaaGreatDoor
