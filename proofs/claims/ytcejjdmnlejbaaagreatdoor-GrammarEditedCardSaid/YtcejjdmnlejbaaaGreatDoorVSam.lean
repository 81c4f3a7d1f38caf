import Derived.Test.YtcejjdmnlejbaaaGreatDoorVPgi
import Derived.Test.YtcejjdmnlejbaaaGreatDoorVPge
namespace Go.Proofs.YtcejjdmnlejbaaaGreatDoor
open Lib(hid)
set_option linter.unusedVariables false
set_option linter.unusedSimpArgs false
open Go.ChangeShapes Go.WideShapes Go.ChangeAt Go.RowKit
open Go.Deep (BT)
set_option maxHeartbeats 8000000
set_option maxRecDepth 100000
theorem PgV.leave{w w2:World}{bs cb mb n rb b0:Nat}{c:Pc.PC}{vs:Fin 6→Value}{D:Six}(h:PgV w bs cb mb n c vs D)(hr:∀i s,w.cell? ⟨rb,i,none⟩≠some (.string s))(hl:rb < bs)(hb:b0≤bs)(hk:KpX (fun k=>k=rb) w w2)(nb:Pc.NumB c)(ln:Pc.cnt c≤1000):PcD w2 b0 c vs D:=by
 have R:RwF w (fun k=>k=rb) bs (qX vs D):=⟨h.rows.ow,h.rows.ne,fun i x hx=>⟨(h.rows.ch i x hx).1,by
  have q1:=(h.rows.ch i x hx).2;have q2:=KQ (h.rows.ch i x hx).1.2 hr;exact(Yf q1 q2).mono fun g q=>⟨q.2,q.1.2⟩⟩,fun k e=>by rw[e];exact hl⟩
 have R2:=R.kpx hk;exact⟨⟨fun i=>(R2.ow i).mono hb,R2.ne,fun i x hx=>⟨(R2.ch i x hx).1,(R2.ch i x hx).2.mono fun g q=>⟨fun f=>f,q.2⟩⟩,fun k f=>f.elim⟩,h.ecs,h.ers,h.eos,h.ecr,h.els,h.efs,h.ok,nb,ln⟩
theorem YH(w1:World):PgV ((w1.alloc (.map #[] 0)).alloc (.cells #[.int .i64 0,.int .i64 0,.int .i64 0,.int .i64 1440,.int .i64 2880,.int .i64 0,.int .i64 0,.slice none 0 0,.slice none 0 0,.slice none 0 0,.slice none 0 0,.slice none 0 0,.slice none 0 0,.int .i64 0,.map (some w1.heap.size)] 78)) (w1.heap.size+2) (w1.heap.size+1) w1.heap.size 0 Pc.pc0 vz dz:=by
 have e0:∀i,qX vz dz i=⟨(qX vz dz i).T,(qX vz dz i).s,.slice none 0 0,0,[],[]⟩:=by
  intro i
  match i with
  | 0=>rfl
  | 1=>rfl
  | 2=>rfl
  | 3=>rfl
  | 4=>rfl
  | 5=>rfl
 refine⟨?_,?_,⟨fun i=>?_,fun i j _ g e=>?_,fun i x hx=>?_,fun k hk=>?_⟩,rfl,rfl,rfl,rfl,rfl,rfl,?_,by omega⟩
 ·constructor
  all_goals first
   | (simp[go_sem,Pc.pc0,vz];done)
   | (intro i hi;obtain⟨k,rfl⟩:∃k,i=k+15:=⟨i - 15,by omega⟩;simp[go_sem];done)
   | (simp;done)
 ·have h0:SS (w1.alloc (.map #[] 0)) w1.heap.size []:=SetM.start _ _ _ _ _;exact⟨[],SetM.next h0 ((Below.refl _ _).alloc (Nat.le_refl _) _),Nat.le_refl _,fun i s _=>by simp[yG,Pc.pc0]⟩
 ·rw[e0 i];exact World.ownsRow_nil _ _ _ _
 ·rw[e0 i] at e;cases e
 ·rw[e0 i] at hx;cases hx
 ·rcases hk with rfl|rfl<;>omega
 ·exact⟨fun x hx=>(by cases hx),fun x hx=>(by cases hx),fun x hx=>(by cases hx),fun x hx=>(by cases hx),fun x hx=>(by cases hx),fun x hx=>(by cases hx)⟩
theorem uu(s:ByteArray)(m:Int)(w:World)(hs:s.size≤9223372036854775807)(hm:w.cell? ⟨0,0,none⟩=some (.int .i64 m)) :
 Calls Tryz.prog 17 #[.string s] w (Uw s w):=by
 have LSZ:=hid (xS s hs);have LLN:=hid (uy s);have RD:Hid (Pc.readT s=if (Ln.lines s).2≠0 then (Pc.pc0,0,(Ln.lines s).2) else Pc.linesT Pc.pc0 0 (Ln.lines s).1):=rfl;obtain⟨R,hR⟩:∃z,Pc.readT s=z:=⟨_,rfl⟩;have RES:Hid (∀e w',Uw s w e w'↔(Below w.heap.size w w'∧
 (R.2.2≠0∧e=.returned (.tuple #[W9 Pc.pcz vz,.int .i64 R.2.1,.int .i64 R.2.2])∨
  R.2.2=0∧∃vs D,PcD w' w.heap.size R.1 vs D∧
   (yP (kW R.1 D)≠0∧e=.returned (.tuple #[W9 Pc.pcz vz,.int .i64 0,.int .i64 (yP (kW R.1 D))])∨
    yP (kW R.1 D)=0∧e=.returned (.tuple #[W9 R.1 vs,.int .i64 0,.int .i64 0]))))):=by
   intro e w';unfold Uw;rw[hR]
 rw[hR] at RD;clear hR;have LP:Hid (∀wq,Below w.heap.size w wq→Calls Tryz.prog 37 #[.string s] wq (LnT s wq)):=fun wq hb=>Qu s m wq hs (qb hm hb);clear hm;go_enter Tryz.func17,Tryz.ntmps17;go_upto_region 1 with (fail)
 have Z0:PcB (w.alloc (.cells #[.int .i64 0,.int .i64 0,.int .i64 0,.int .i64 0,.int .i64 0,.int .i64 0,.int .i64 0,.slice none 0 0,.slice none 0 0,.slice none 0 0,.slice none 0 0,.slice none 0 0,.slice none 0 0,.int .i64 0] 43)) w.heap.size Pc.pcz vz:=by
  constructor
  all_goals first
   | (simp[go_sem,Pc.pcz,vz];done)
   | (intro i hi;obtain⟨k,rfl⟩:∃k,i=k+14:=⟨i - 14,by omega⟩;simp[go_sem];done)
   | (simp;done)
 have B0:Hid (Below w.heap.size w (w.alloc (.cells #[.int .i64 0,.int .i64 0,.int .i64 0,.int .i64 0,.int .i64 0,.int .i64 0,.int .i64 0,.slice none 0 0,.slice none 0 0,.slice none 0 0,.slice none 0 0,.slice none 0 0,.slice none 0 0,.int .i64 0] 43))):=(Below.refl _ _).alloc (Nat.le_refl _) _;have S0:Hid ((w.alloc (.cells #[.int .i64 0,.int .i64 0,.int .i64 0,.int .i64 0,.int .i64 0,.int .i64 0,.int .i64 0,.slice none 0 0,.slice none 0 0,.slice none 0 0,.slice none 0 0,.slice none 0 0,.slice none 0 0,.int .i64 0] 43)).heap.size=w.heap.size+1):=by unfold Hid;simp
 generalize w.alloc (.cells #[.int .i64 0,.int .i64 0,.int .i64 0,.int .i64 0,.int .i64 0,.int .i64 0,.int .i64 0,.slice none 0 0,.slice none 0 0,.slice none 0 0,.slice none 0 0,.slice none 0 0,.slice none 0 0,.int .i64 0] 43)=w0 at *;go_upto_region 2 with (go_at_call 37;refine(LP.out _ B0.out).mono ?_;rintro e w1 ⟨v1,rfl,ho,hb⟩;have L1:=hid ho;have HB:=hid hb;clear ho hb);have Z1:=hid (Z0.next HB.out);have B1:=hid (B0.out.trans (HB.out.mono B0.out.size));clear Z0 B0 HB LP;obtain⟨G,E0,hG⟩:∃G E0,Ln.lines s=(G,E0):=⟨_,_,rfl⟩;rw[hG] at LSZ LLN RD L1;rw[hG];clear hG;dsimp only at LSZ LLN RD L1 ⊢
 by_cases h0:E0=0
 case neg =>
  have RQ:Hid (R=(Pc.pc0,0,E0)):=by unfold Hid;rw[RD.out,if_pos h0]
  have b0:(E0 != 0)=true:=by simp[h0]
  have H0:=hid h0;clear h0;obtain⟨z0,z1,z2,z3,z4,z5,z6,z7,z8,z9,z10,z11,z12,z13,zf0,zf1,zf2,zf3,zf4,zf5,zf6,zf7,zf8,zf9,zf10,zf11,zf12,zf13,zn,zl⟩:=Z1.out;go_wp2;refine bodyPost_ret (v:=.tuple #[.agg #[.int .i64 0,.int .i64 0,.int .i64 0,.int .i64 0,.int .i64 0,.int .i64 0,.int .i64 0,.slice none 0 0,.slice none 0 0,.slice none 0 0,.slice none 0 0,.slice none 0 0,.slice none 0 0,.int .i64 0],.int .i64 0,.int .i64 E0]) ?_ rfl ?_
  ·rw[qU rfl];go_simp
  ·rw [RES.out];refine⟨?_,.inl ⟨by rw[RQ.out];exact H0.out,by rw[RQ.out];rfl⟩⟩
   repeat (refine Below.setCell ?_ (by first|exact Nat.le_refl _|exact Nat.le_of_eq RBE.out.symm) _)
   exact B1.out
 subst h0;have RD2:Hid (R=Pc.linesT Pc.pc0 0 G):=by unfold Hid;rw[RD.out,if_neg (by simp)]
 clear RD;have HL:=hid (Y9 L1.out);obtain⟨p1,k1,rfl,hl1⟩:=HL.out;clear HL L1;have HL:=hid hl1;clear hl1;have hmm:=@run_makeMap Tryz.prog;go_wp2_with fail;clear hmm;have P2:=hid (YH w1);have B2:Hid (Below w1.heap.size w1 ((w1.alloc (.map #[] 0)).alloc (.cells #[.int .i64 0,.int .i64 0,.int .i64 0,.int .i64 1440,.int .i64 2880,.int .i64 0,.int .i64 0,.slice none 0 0,.slice none 0 0,.slice none 0 0,.slice none 0 0,.slice none 0 0,.slice none 0 0,.int .i64 0,.map (some w1.heap.size)] 78))):=((Below.refl _ _).alloc (Nat.le_refl _) _).alloc (by simp) _;have S2:Hid (((w1.alloc (.map #[] 0)).alloc (.cells #[.int .i64 0,.int .i64 0,.int .i64 0,.int .i64 1440,.int .i64 2880,.int .i64 0,.int .i64 0,.slice none 0 0,.slice none 0 0,.slice none 0 0,.slice none 0 0,.slice none 0 0,.slice none 0 0,.int .i64 0,.map (some w1.heap.size)] 78)).heap.size=w1.heap.size+2):=by unfold Hid;simp
 generalize (w1.alloc (.map #[] 0)).alloc (.cells #[.int .i64 0,.int .i64 0,.int .i64 0,.int .i64 1440,.int .i64 2880,.int .i64 0,.int .i64 0,.slice none 0 0,.slice none 0 0,.slice none 0 0,.slice none 0 0,.slice none 0 0,.slice none 0 0,.int .i64 0,.map (some w1.heap.size)] 78)=w2 at *;have RB:Hid (w.heap.size < w1.heap.size):=Z1.out.lt;obtain⟨rb,hrb⟩:∃z,z=w.heap.size:=⟨_,rfl⟩;obtain⟨cb,hcb⟩:∃z,z=w1.heap.size:=⟨_,rfl⟩;have RBE:=hid hrb;have CBE:=hid hcb;rw[← hrb] at RB Z1 ⊢;rw[← hcb] at RB P2 B2 S2 ⊢;clear hrb hcb
 go_loopw [7,8,9,10,11,30] (fun _ _ _ _ _ i wr=>∃(k:Nat) (c:Pc.PC) (vs:Fin 6→Value) (D:Six),k≤G.length∧i=.int .i64 k∧Hid (PgV wr (cb+2) (cb+1) cb k c vs D∧R=Pc.linesT c k (G.drop k)∧Pc.cnt c≤k∧Pc.NumB c∧Below cb w1 wr∧cb+2≤wr.heap.size)) (fun _ _ _ _ _ i _=>G.length - (intOf i).toNat)
 case atStart=>exact⟨0,Pc.pc0,vz,dz,Nat.zero_le _,rfl,P2.out,RD2.out,Nat.le_refl _,Pc.numb0,B2.out,Nat.le_of_eq S2.out.symm⟩
 case round =>
  obtain⟨wp,hwp⟩:∃z,z=wr:=⟨_,rfl⟩;subst hwp;obtain⟨k,c,vs,D,hk,rfl,HR⟩:=hrel;have PV:=hid HR.out.1;have RQ:=hid HR.out.2.1;have CT:=hid HR.out.2.2.1;have NB:=hid HR.out.2.2.2.1;have BW:=hid HR.out.2.2.2.2.1;have SZ:=hid HR.out.2.2.2.2.2;clear HR P2 B2 S2 RD2
  by_cases qN:k < G.length
  ·have hi:(k:Int) < (G.length:Int):=by omega
   have hk1:k < 1000:=(by have:=LLN.out;omega);obtain⟨x,hx⟩:∃x,G[k]?=some x:=⟨_,List.getElem?_eq_getElem qN⟩;obtain⟨g,rfl,hg,hc⟩:=HL.out k x hx;have lc:wp.cell? ⟨g,k,none⟩=some (.string x):=(by rw[Below.cell BW.out (p:=⟨g,k,none⟩) (by rw[CBE.out];exact hg)];exact hc);have XS:=hid (LSZ.out x (List.mem_of_getElem? hx))
   have DR:Hid (G.drop k=x :: G.drop (k+1)):=by
    unfold Hid;obtain⟨h1,h2⟩:=List.getElem?_eq_some_iff.1 hx;rw[List.drop_eq_getElem_cons h1,h2]
   rw[DR.out] at RQ;clear hx hg hc DR;go_upto_region 10 with (go_at_call 28;refine(uo x wp XS.out).mono ?_;rintro e w3 ⟨v3,rfl,ht,hb⟩;have TK:=hid ht;have HB:=hid hb;clear ht hb);clear lc;have PV3:=hid (PV.out.next HB.out);have BW3:=hid (qP (BW.out.trans (HB.out.mono (by have:=SZ.out;omega))) (Nat.le_refl _));have SZ3:Hid (cb+2≤w3.heap.size):=Nat.le_trans SZ.out HB.out.size;have TV:=hid (jR x);have TL:=hid (kC x);clear PV BW SZ HB;obtain⟨T,ta,te,hT⟩:∃T ta te,Tk.scanT x=(T,ta,te):=⟨_,_,_,rfl⟩;have HT:=hid hT;rw[hT] at TK TV TL ⊢;clear hT;dsimp only at TK TV TL ⊢
   obtain ⟨pt,ct,rfl⟩:∃p cap,v3=.slice p T.length cap:=by
    obtain⟨p,cap,h1,-⟩:=TK.out;exact⟨p,cap,h1⟩
   by_cases he:te=0
   case neg =>
    have b1:(te==0)=false:=(by simp[he]);have b2:(te != 0)=true:=(by simp[he]);have RQ2:Hid (R=(c,(k:Int)+1,te)):=(by unfold Hid;rw[RQ.out,xf (by rw[HT.out];exact he),HT.out]);have H0:=hid he;have Z3:=hid (Z1.out.of_block (BW3.out.block rb RB.out) (by have:=RBE.out;have:=CBE.out;have:=SZ3.out;omega));have B3:=hid (B1.out.trans (qP BW3.out (by have:=RBE.out;have:=RB.out;omega)));clear he;obtain⟨z0,z1,z2,z3,z4,z5,z6,z7,z8,z9,z10,z11,z12,z13,zf0,zf1,zf2,zf3,zf4,zf5,zf6,zf7,zf8,zf9,zf10,zf11,zf12,zf13,zn,zl⟩:=Z3.out;go_wp2;refine bodyPost_ret (v:=.tuple #[.agg #[.int .i64 0,.int .i64 0,.int .i64 0,.int .i64 0,.int .i64 0,.int .i64 0,.int .i64 0,.slice none 0 0,.slice none 0 0,.slice none 0 0,.slice none 0 0,.slice none 0 0,.slice none 0 0,.int .i64 0],.int .i64 ((k:Int)+1),.int .i64 te]) ?_ rfl ?_
    ·rw[qU rfl];go_simp
    ·rw [RES.out];refine⟨?_,.inl ⟨by rw[RQ2.out];exact H0.out,by rw[RQ2.out];rfl⟩⟩
     repeat (refine Below.setCell ?_ (by first|exact Nat.le_refl _|exact Nat.le_of_eq RBE.out.symm) _)
     exact B3.out
   subst he
   by_cases hn:T=[]
   ·subst hn;have RQ2:Hid (R=Pc.linesT c (k+1) (G.drop (k+1))):=(by unfold Hid;rw[RQ.out,xd (by rw[HT.out]) (by rw[HT.out])]);go_wp2_with fail
    go_roundw
    case rel=>exact⟨k+1,c,vs,D,by omega,by go_num,PV3.out.more (Nat.le_succ k),RQ2.out,Nat.le_succ_of_le CT.out,NB.out,BW3.out,SZ3.out⟩
    case measure=>simp[intOf];omega
   have hpos:0 < T.length:=List.length_pos_iff.2 hn;have hp1:(0:Int) < (T.length:Int):=(by omega);have HN:=hid hn;have hpos2:=hid hpos
   have DEQ:Hid (Pg.declQ c T=Pc.declT c T):=by
    obtain ⟨t,r,rfl⟩:∃t r,T=t :: r:=by
     cases T with
     | nil=>exact absurd rfl hn
     | cons t r=>exact⟨t,r,rfl⟩
    exact Pg.declQ_eq c t r (TV.out t (by simp))
   obtain ⟨tg,tO,rfl⟩:∃tg tO,pt=some ⟨tg,tO,none⟩:=by
    obtain⟨p',cap',e',-,-,h4⟩:=TK.out;injection e' with e1 e2 e3
    obtain⟨g',O',e5,-⟩:=h4 hn;exact⟨g',O',e1.trans e5⟩
   clear hn hpos;have DQ:=hid (xn (cb+2) (cb+1) cb k c vs D T tg tO ct w3 PV3.out TK.out TV.out (fun t ht=>Nat.le_trans (xD (TV.out t ht)) (by decide)) hpos2.out TL.out SZ3.out (Nat.le_trans CT.out (by have:=LLN.out;omega)) (by have:=LLN.out;omega));rw[DEQ.out] at DQ;have DN:=hid (Pc.declT_cnt c T);have DB:=hid (Pc.declT_numb TV.out NB.out)
   have RQ3:Hid ((Pc.declT c T).2≠0→R=(c,(k:Int)+1,(Pc.declT c T).2)):=fun q=>by
    rw[RQ.out,xe (by rw[HT.out]) (by rw[HT.out];exact HN.out) (by rw[HT.out];exact q),HT.out]
   have RQ4:Hid ((Pc.declT c T).2=0→R=Pc.linesT (Pc.declT c T).1 (k+1) (G.drop (k+1))):=fun q=>by
    rw[RQ.out,uz (by rw[HT.out]) (by rw[HT.out];exact HN.out) (by rw[HT.out];exact q),HT.out]
   clear RQ HT;generalize Pc.declT c T=d at *;obtain⟨d,de⟩:=d;dsimp only at DN DB RQ3 RQ4;go_upto_region 12 with (go_at_call 38;refine DQ.out.mono ?_;rintro e w4 ⟨rfl,h1,h2⟩;dsimp only at h1;have D1:=hid h1;have D2:=hid h2;clear h1 h2 DQ);have BD:Hid (Below cb w3 w4):=D2.out cb (by omega) (Nat.le_refl _) (by omega) (by have:=SZ3.out;omega);have BW4:=hid (BW3.out.trans BD.out);have SZ4:Hid (cb+2≤w4.heap.size):=Nat.le_trans SZ3.out BD.out.size;clear BW3 PV3 D2
   by_cases he:de=0
   case neg =>
    have b2:(de != 0)=true:=(by simp[he]);have RQ5:=hid (RQ3.out he);have H0:=hid he;have Z3:=hid (Z1.out.of_block (BW4.out.block rb RB.out) (by have:=RBE.out;have:=CBE.out;have:=SZ4.out;omega));have B3:=hid (B1.out.trans (qP BW4.out (by have:=RBE.out;have:=RB.out;omega)));clear he D1 RQ3 RQ4;obtain⟨z0,z1,z2,z3,z4,z5,z6,z7,z8,z9,z10,z11,z12,z13,zf0,zf1,zf2,zf3,zf4,zf5,zf6,zf7,zf8,zf9,zf10,zf11,zf12,zf13,zn,zl⟩:=Z3.out;go_wp2;refine bodyPost_ret (v:=.tuple #[.agg #[.int .i64 0,.int .i64 0,.int .i64 0,.int .i64 0,.int .i64 0,.int .i64 0,.int .i64 0,.slice none 0 0,.slice none 0 0,.slice none 0 0,.slice none 0 0,.slice none 0 0,.slice none 0 0,.int .i64 0],.int .i64 ((k:Int)+1),.int .i64 de]) ?_ rfl ?_
    ·rw[qU rfl];go_simp
    ·rw [RES.out];refine⟨?_,.inl ⟨by rw[RQ5.out];exact H0.out,by rw[RQ5.out];rfl⟩⟩
     repeat (refine Below.setCell ?_ (by first|exact Nat.le_refl _|exact Nat.le_of_eq RBE.out.symm) _)
     exact B3.out
   subst he;obtain⟨vs2,D2,P4⟩:=D1.out rfl;have P5:=hid P4;have RQ5:=hid (RQ4.out rfl);clear P4 D1 RQ3 RQ4;go_wp2_with fail
   go_roundw
   case rel=>exact⟨k+1,d,vs2,D2,by omega,by go_num,P5.out,RQ5.out,by have:=DN.out;have:=CT.out;omega,DB.out,BW4.out,SZ4.out⟩
   case measure=>simp[intOf];omega
  ·obtain rfl:k=G.length:=by omega
   have hi:¬(G.length:Int) < (G.length:Int):=(by omega);have RQ2:Hid (R=(c,0,0)):=(by unfold Hid;rw[RQ.out,List.drop_length];rfl);have CT1:Hid (Pc.cnt c≤1000):=Nat.le_trans CT.out LLN.out;clear RQ CT;have LN:=hid (xv PV.out);obtain⟨p,e0,e1,e2,e3,e4,e5,hv⟩:=QI PV.out.rows PV.out.ok NB.out (by have:=LN.out;have:=CT1.out;omega);have HV:=hid hv
   have VQ:Hid (∀wq,CtV wq (kW c D) p→Calls Tryz.prog 24 #[.agg #[.int .i64 c.rep,.int .i64 c.rel,.int .i64 c.con,.int .i64 c.sit,.int .i64 c.lay,.int .i64 c.nf,.int .i64 c.nt,.slice p.cs D.cs.length p.ccs,.slice p.rs D.rs.length p.crs,.slice p.os D.os.length p.cos,.slice p.cr D.cr.length p.ccr,.slice p.ls D.ls.length p.cls,.slice p.fs D.fs.length p.cfs,.int .i64 c.gua]] wq fun e w'=>e=.returned (.int .i64 (yP (kW c D)))∧Below wq.heap.size wq w'):=fun wq h=>(by
    have q:=JF (kW c D) p wq h;rw[show len (kW c D).cr=D.cr.length from qC _] at q;exact q)
   have BX:=hid PV.out.box;have VS:=hid PV.out.vs;clear hv LN;obtain⟨c0,c1,c2,c3,c4,c5,c6,c7,c8,c9,c10,c11,c12,c13,c14,f0,f1,f2,f3,f4,f5,f6,f7,f8,f9,f10,f11,f12,f13,zn,zl⟩:=BX.out;rw[e0] at c7;rw[e1] at c8;rw[e2] at c9;rw[e3] at c10;rw[e4] at c11;rw[e5] at c12;go_upto_region 16 with (go_at_call 24;refine(VQ.out _ HV.out).mono ?_;rintro e w5 ⟨rfl,hb⟩;have HB:=hid hb;clear hb VQ);clear c0 f0 c1 f1 c2 f2 c3 f3 c4 f4 c5 f5 c6 f6 c7 f7 c8 f8 c9 f9 c10 f10 c11 f11 c12 f12 c13 f13 c14 zn zl;have P5:=hid (PV.out.next HB.out);have BW5:=hid (BW.out.trans (HB.out.mono (by have:=SZ.out;omega)));have SZ5:Hid (cb+2≤w5.heap.size):=Nat.le_trans SZ.out HB.out.size;have Z3:=hid (Z1.out.of_block (BW5.out.block rb RB.out) (by have:=RBE.out;have:=CBE.out;have:=SZ5.out;omega));have B3:=hid (B1.out.trans (qP BW5.out (by have:=RBE.out;have:=RB.out;omega)));have RNS:=hid (Js Z3.out (fun _=>⟨_,_,_,rfl⟩));have PD:=hid (fun w6 hk=>PgV.leave (b0:=rb) (w2:=w6) P5.out RNS.out (by have:=RB.out;omega) (by have:=RB.out;omega) hk NB.out CT1.out);clear PV BW SZ HB HV;obtain⟨E1,hE1⟩:∃z,yP (kW c D)=z:=⟨_,rfl⟩;have GE:=hid hE1;rw[hE1];clear hE1
   by_cases he:E1=0
   case neg =>
    have b2:(E1 != 0)=true:=(by simp[he]);have H0:=hid he;clear he e0 e1 e2 e3 e4 e5;obtain⟨z0,z1,z2,z3,z4,z5,z6,z7,z8,z9,z10,z11,z12,z13,zf0,zf1,zf2,zf3,zf4,zf5,zf6,zf7,zf8,zf9,zf10,zf11,zf12,zf13,zn,zl⟩:=Z3.out;go_wp2;refine bodyPost_ret (v:=.tuple #[.agg #[.int .i64 0,.int .i64 0,.int .i64 0,.int .i64 0,.int .i64 0,.int .i64 0,.int .i64 0,.slice none 0 0,.slice none 0 0,.slice none 0 0,.slice none 0 0,.slice none 0 0,.slice none 0 0,.int .i64 0],.int .i64 0,.int .i64 E1]) ?_ rfl ?_
    ·rw[qU rfl];go_simp
    ·rw [RES.out];refine⟨?_,.inr ⟨by rw[RQ2.out],vs,D,?_,.inl ⟨by rw[RQ2.out];dsimp only;rw[GE.out];exact H0.out,by rw[RQ2.out];dsimp only;rw[GE.out];rfl⟩⟩⟩
     repeat (refine Below.setCell ?_ (by first|exact Nat.le_refl _|exact Nat.le_of_eq RBE.out.symm) _)
     exact B3.out;rw[RQ2.out,← RBE.out];refine PD.out _ ?_
     repeat (refine KpX.setC ?_ (by exact rfl) _ _)
     exact KpX.refl _ _
   subst he;obtain⟨c0,c1,c2,c3,c4,c5,c6,c7,c8,c9,c10,c11,c12,c13,c14,f0,f1,f2,f3,f4,f5,f6,f7,f8,f9,f10,f11,f12,f13,bn,bl⟩:=P5.out.box;rw[e0] at c7;rw[e1] at c8;rw[e2] at c9;rw[e3] at c10;rw[e4] at c11;rw[e5] at c12;obtain⟨z0,z1,z2,z3,z4,z5,z6,z7,z8,z9,z10,z11,z12,z13,zf0,zf1,zf2,zf3,zf4,zf5,zf6,zf7,zf8,zf9,zf10,zf11,zf12,zf13,zn,zl⟩:=Z3.out;have ne1:¬cb+1=rb:=(by have:=RB.out;omega);have ne2:¬rb=cb+1:=(by have:=RB.out;omega);go_wp2;refine bodyPost_ret (v:=.tuple #[.agg #[.int .i64 c.rep,.int .i64 c.rel,.int .i64 c.con,.int .i64 c.sit,.int .i64 c.lay,.int .i64 c.nf,.int .i64 c.nt,.slice p.cs D.cs.length p.ccs,.slice p.rs D.rs.length p.crs,.slice p.os D.os.length p.cos,.slice p.cr D.cr.length p.ccr,.slice p.ls D.ls.length p.cls,.slice p.fs D.fs.length p.cfs,.int .i64 c.gua],.int .i64 0,.int .i64 0]) ?_ rfl ?_
   ·rw[qU rfl];go_simp
   ·rw [RES.out];refine⟨?_,.inr ⟨by rw[RQ2.out],vs,D,?_,.inr ⟨by rw[RQ2.out];exact GE.out,by rw[RQ2.out];unfold W9;rw[e0,e1,e2,e3,e4,e5]⟩⟩⟩
    ·repeat (refine Below.setCell ?_ (by exact Nat.le_of_eq RBE.out.symm) _)
     exact B3.out
    ·rw [RQ2.out,← RBE.out];refine PD.out _ ?_
     repeat (refine KpX.setC ?_ (by exact rfl) _ _)
     exact KpX.refl _ _
def JX(b o:Nat)(a:Nd)(k:Fo):Prop:=∀(b' o':Nat)(a':Nd)(k':Fo)(w:World),ExAt w b o a k→ExAt w b' o' a' k'→yS a k→a.op=a'.op→a.num=a'.num→a.name=a'.name→Pz.nrm k=Pz.nrm k'→
 Calls Tryz.prog 15 #[.agg #[.int .i64 a.op,.int .i64 a.num,.string a.name,.slice a.ptr (len k) a.cap],.agg #[.int .i64 a'.op,.int .i64 a'.num,.string a'.name,.slice a'.ptr (len k') a'.cap]] w
  fun e w'=>e=.returned (.bool true)∧Below w.heap.size w w'
theorem Kq{k k':Fo}(h:Pz.nrm k=Pz.nrm k'):len k=len k':=by
 have e:∀T:Fo,len (Pz.nrm T)=len T:=by
  intro T
  induction T with
  | nil=>rfl
  | node b o a k r ihk ihr=>simp only[Pz.nrm,len,ihr]
 rw[← e k,← e k',h]
theorem Ys(b o:Nat)(a:Nd)(k:Fo):JX b o a k:=by
 refine kz (P:=JX) ?_ b o a k;clear b o a k;intro b o a k ih b' o' a' k' w hx hy hok h0 h1 h2 hk;obtain⟨op,num,name,ptr,cap⟩:=a;obtain⟨op',num',name',ptr',cap'⟩:=a';dsimp only at h0 h1 h2;subst h0 h1 h2;have hl:=Kq hk;have HX:=hid hx;have HY:=hid hy;have HOK:=hid hok;have IH:=hid ih;have HK:=hid hk;have hlk:len k≤9223372036854775807:=hok.1.2.2.2;rw[← hl];clear hx hy hok ih hk;have HL:=hid hl;clear hl
 show Calls Tryz.prog 15 #[.agg #[.int .i64 op,.int .i64 num,.string name,.slice ptr (len k) cap],.agg #[.int .i64 op,.int .i64 num,.string name,.slice ptr' (len k) cap']] w _
 have B0:Hid (Below w.heap.size w ((w.alloc (.cells #[.int .i64 op,.int .i64 num,.string name,.slice ptr (len k) cap] 24)).alloc (.cells #[.int .i64 op,.int .i64 num,.string name,.slice ptr' (len k) cap'] 24))):=((Below.refl _ _).alloc (Nat.le_refl _) _).alloc (by simp) _;have p3:((w.alloc (.cells #[.int .i64 op,.int .i64 num,.string name,.slice ptr (len k) cap] 24)).alloc (.cells #[.int .i64 op,.int .i64 num,.string name,.slice ptr' (len k) cap'] 24)).cell? ⟨w.heap.size,3,none⟩=some (.slice ptr (len k) cap):=by simp[go_sem]
 have q3:((w.alloc (.cells #[.int .i64 op,.int .i64 num,.string name,.slice ptr (len k) cap] 24)).alloc (.cells #[.int .i64 op,.int .i64 num,.string name,.slice ptr' (len k) cap'] 24)).cell? ⟨w.heap.size+1,3,none⟩=some (.slice ptr' (len k) cap'):=by simp[go_sem]
 have P3:=hid (And.intro p3 q3);have hz0:w.heap.size+1 < ((w.alloc (.cells #[.int .i64 op,.int .i64 num,.string name,.slice ptr (len k) cap] 24)).alloc (.cells #[.int .i64 op,.int .i64 num,.string name,.slice ptr' (len k) cap'] 24)).heap.size:=by simp
 clear p3 q3;go_enter Tryz.func15,Tryz.ntmps15;go_wp2_with fail;generalize (w.alloc (.cells #[.int .i64 op,.int .i64 num,.string name,.slice ptr (len k) cap] 24)).alloc (.cells #[.int .i64 op,.int .i64 num,.string name,.slice ptr' (len k) cap'] 24)=w0 at *
 go_loopg [5] (len k) (fun g i wr=>∃(j:Nat) (r r':Fo),i=.int .i64 j∧Hid (g=len k - j∧j+len r=len k∧FoAt wr r b (o+j * 4)∧FoAt wr r' b' (o'+j * 4)∧Pz.nrm r=Pz.nrm r'∧jV r∧vo JX r∧Below w0.heap.size w0 wr))
 case atStart=>exact⟨0,k,k',rfl,by simp,by simp,by rw[Nat.zero_mul,Nat.add_zero];exact(HX.out.next B0.out).2,by rw[Nat.zero_mul,Nat.add_zero];exact(HY.out.next B0.out).2,HK.out,HOK.out.2,IH.out,Below.refl _ _⟩
 case round =>
  obtain⟨j,r,r',rfl,HR⟩:=hrel;obtain⟨hg0,hjk,hA,hB,hN,hO,hI,hW⟩:=HR.out;have BW:=hid hW;have HG:=hid hg0;have hz1:w.heap.size+1 < wr.heap.size:=Nat.lt_of_lt_of_le hz0 hW.size;have p3:wr.cell? ⟨w.heap.size,3,none⟩=some (.slice ptr (len k) cap):=by rw[hW.cell (p:=⟨w.heap.size,3,none⟩) (by show w.heap.size < _;omega)];exact P3.out.1
  have q3:wr.cell? ⟨w.heap.size+1,3,none⟩=some (.slice ptr' (len k) cap'):=by rw[hW.cell (p:=⟨w.heap.size+1,3,none⟩) (by show w.heap.size+1 < _;omega)];exact P3.out.2
  clear hW hg0 HR;cases r with
  | nil =>
    have hj:¬(j:Int) < (len k:Int):=(by simp[len] at hjk;omega);clear hA hB hN hO hI hjk;go_wp2;go_ret;exact⟨rfl,B0.out.trans (BW.out.mono B0.out.size)⟩
  | node b1 o1 a1 k1 r1 =>
    cases r' with
    | nil=>simp[Pz.nrm] at hN
    | node b2 o2 a2 k2 r2 =>
      have hj:j < len k:=(by simp[len] at hjk;omega);have hj1:(j:Int) < (len k:Int):=(by omega);have hj0:(0:Int)≤(j:Int):=(by omega);obtain rfl:ptr=some ⟨b,o,none⟩:=HX.out.1 (by rintro rfl;simp[len] at hj);obtain rfl:ptr'=some ⟨b',o',none⟩:=HY.out.1 (by rintro rfl;rw[HL.out] at hj;simp[len] at hj);obtain⟨⟨c0,c1,c2,c3⟩,hp1,hk1,hr1⟩:=hA;obtain⟨⟨d0,d1,d2,d3⟩,hp2,hk2,hr2⟩:=hB;have X1:Hid (ExAt wr b1 o1 a1 k1):=⟨hp1,hk1⟩;have Y1:Hid (ExAt wr b2 o2 a2 k2):=⟨hp2,hk2⟩;have N1:=hid (And.intro hr1 hr2)
      have HN:Hid (a1.op=a2.op∧a1.num=a2.num∧a1.name=a2.name∧Pz.nrm k1=Pz.nrm k2∧Pz.nrm r1=Pz.nrm r2):=by
       unfold Pz.nrm at hN;injection hN with n1 n2 n3 n4 n5
       injection n3 with m1 m2 m3
       exact⟨m1,m2,m3,n4,n5⟩
      have HO:=hid hO;have HI:=hid hI;have HJ:=hid hjk;clear hp1 hk1 hr1 hp2 hk2 hr2 hN hO hI hjk
      have C:Hid (∀dq os,Calls Tryz.prog 15 #[.agg #[.int .i64 a1.op,.int .i64 a1.num,.string a1.name,.slice a1.ptr (len k1) a1.cap],.agg #[.int .i64 a2.op,.int .i64 a2.num,.string a2.name,.slice a2.ptr (len k2) a2.cap]] (Sort.grow (redrawn wr dq) os)
       fun e w''=>e=.returned (.bool true)∧∃p:Regrown,w''=Sort.grow (redrawn wr p.d) p.os):=by
       intro dq os;have hb:=below_regrown wr dq os;exact Calls.regrown_of (HI.out.1 b2 o2 a2 k2 _ (X1.out.next hb) (Y1.out.next hb) ⟨HO.out.1,HO.out.2.1⟩ HN.out.1 HN.out.2.1 HN.out.2.2.1 HN.out.2.2.2.1)
      have e0:=fun d os=>cell_regrown p3 d os;have e1:=fun d os=>cell_regrown q3 d os;have e3:=fun d os=>cell_regrown c0 d os;have e4:=fun d os=>cell_regrown c1 d os;have e5:=fun d os=>cell_regrown c2 d os;have e6:=fun d os=>cell_regrown c3 d os;have g3:=fun d os=>cell_regrown d0 d os;have g4:=fun d os=>cell_regrown d1 d os;have g5:=fun d os=>cell_regrown d2 d os;have g6:=fun d os=>cell_regrown d3 d os;go_upto_region 6 with (fail);refine wp_region_quiet_below (by kernel_rfl) (by kernel_rfl) ?_
      repeat (quiet_step (with_reducible exact C.out _ _))
      refine wpQuiet_nil ?_;intro _ hw';obtain⟨⟨dq,osq⟩,hw''⟩:=hw';subst hw'';have hb:=below_regrown wr dq osq;clear e0 e1 e3 e4 e5 e6 g3 g4 g5 g6 C p3 q3 c0 c1 c2 c3 d0 d1 d2 d3;generalize Sort.grow (redrawn wr dq) osq=w1 at *;have B1:=hid (BW.out.trans (hb.mono BW.out.size));have N2:Hid (FoAt w1 r1 b (o+j * 4+4)∧FoAt w1 r2 b' (o'+j * 4+4)):=⟨N1.out.1.next hb,N1.out.2.next hb⟩;clear hb;go_wp2
      go_roundg (len k - (j+1))
      case rel =>
       refine⟨j+1,r1,r2,by go_num,rfl,?_,?_,?_,HN.out.2.2.2.2,HO.out.2.2,HI.out.2,B1.out⟩
       ·have:=HJ.out;simp[len] at this;omega
       ·rw[Nat.add_mul,Nat.one_mul,← Nat.add_assoc];exact N2.out.1
       ·rw[Nat.add_mul,Nat.one_mul,← Nat.add_assoc];exact N2.out.2
      case measure=>have:=HG.out;omega
theorem jD(c d:Ch)(w:World)(hc:ExAt w c.b c.o c.a c.k)(hd:ExAt w d.b d.o d.a d.k)(hok:yS c.a c.k)(h:Pz.nr c=Pz.nr d) :
 Calls Tryz.prog 15 #[.agg #[.int .i64 c.a.op,.int .i64 c.a.num,.string c.a.name,.slice c.a.ptr (len c.k) c.a.cap],.agg #[.int .i64 d.a.op,.int .i64 d.a.num,.string d.a.name,.slice d.a.ptr (len d.k) d.a.cap]] w
  fun e w'=>e=.returned (.bool true)∧Below w.heap.size w w':=by
 unfold Pz.nr at h;injection h with n1 n2 n3 n4
 injection n3 with m1 m2 m3
 exact Ys c.b c.o c.a c.k d.b d.o d.a d.k w hc hd hok m1 m2 m3 n4
end Go.Proofs.YtcejjdmnlejbaaaGreatDoor
