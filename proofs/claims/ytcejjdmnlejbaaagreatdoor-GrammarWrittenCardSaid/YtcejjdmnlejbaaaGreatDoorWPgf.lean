import Derived.BigRegion
import Derived.Test.YtcejjdmnlejbaaaGreatDoorWPcj
namespace Go.Proofs.YtcejjdmnlejbaaaGreatDoor
open Option.some(inj)
open Lib(hid)
set_option linter.unusedVariables false
set_option linter.unusedSimpArgs false
open Go.ChangeShapes Go.WideShapes Go.ChangeAt Go.RowKit
open Go.Deep (BT)
set_option maxHeartbeats 4000000
set_option maxRecDepth 100000
theorem Q9{i j:Nat}{s:ByteArray}(hi:Pc.fieldsL[i]?=some s)(hj:Pc.fieldsL[j]?=some s):j=i:=by
 have key:∀i,i < 7→∀j,j < 7→Pc.fieldsL[i]?=Pc.fieldsL[j]?→j=i:=by decide
 exact key i (List.getElem?_eq_some_iff.1 hi).1 j (List.getElem?_eq_some_iff.1 hj).1 (hi.trans hj.symm)
theorem SgS.look{w:World}{mb n i:Nat}{c:Pc.PC}{s:ByteArray}(h:SgS w mb n c)(hi:Pc.fieldsL[i]?=some s):(Instr.lookup 76 (.map (some mb)) (.string s) false).run Tryz.prog w=.ok (.bool (c.seen i)) w:=by
 obtain⟨Ls,h1,h2,h3⟩:=h
 have q:=xQ h1 s (by
  have key:∀x∈ Pc.fieldsL,x.size≤9:=by decide
  have:=key s (List.mem_of_getElem? hi);unfold maxLen;omega)
 rw[h3 i s hi] at q;exact q
theorem SgS.put{w:World}{mb n i:Nat}{c:Pc.PC}{s:ByteArray}(h:SgS w mb n c)(hi:Pc.fieldsL[i]?=some s)(hn:n≤100000):∃w',(Instr.mapUpdate 76 (.map (some mb)) (.string s) (.bool true)).run Tryz.prog w=.ok () w'∧SgS w' mb (n+1) (Pc.setSeen c i)∧w.grownBy w' (some mb):=by
 obtain⟨Ls,h1,h2,h3⟩:=h
 obtain ⟨w',q1,q2,q3⟩:=uY h1 s (by
  have key:∀x∈ Pc.fieldsL,x.size≤9:=by decide
  have:=key s (List.mem_of_getElem? hi);unfold maxLen;omega) (by unfold maxLen;omega)
 refine⟨w',q1,⟨Ls++[s],q2,by rw[List.length_append];simp;omega,fun j t hj=>?_⟩,q3⟩;rw[xz,h3 j t hj];unfold Pc.setSeen;dsimp only
 by_cases e:j=i
 ·subst e;obtain rfl:s=t:=inj (hi.symm.trans hj);rw[if_pos rfl,decide_eq_true rfl,Bool.or_true]
 ·rw [if_neg e,decide_eq_false,Bool.or_false];rintro rfl;exact e (Q9 hi hj)
theorem KpX.of_gb{w w':World}{X:Nat→Prop}{t:Nat}(ht:X t)(h:w.grownBy w' (some t)):KpX X w w' :=
 ⟨h.os,h.tape,h.output,h.size,fun k hk hx=>h.block k hk (fun e=>hx (by rw[inj e];exact ht))⟩
theorem PgV.more{w:World}{bs cb mb n m:Nat}{c:Pc.PC}{vs:Fin 6→Value}{D:Six}(h:PgV w bs cb mb n c vs D)(e:n≤m):PgV w bs cb mb m c vs D :=
 ⟨h.box,h.sn.more e,h.rows,h.ecs,h.ers,h.eos,h.ecr,h.els,h.efs,h.ok,h.ne⟩
def Qe(w:World)(bs rb mb n:Nat)(r:Pc.PC× Int)(w':World):Prop :=
 (r.2=0→∃vs D,PgV w' bs rb mb (n+1) r.1 vs D)∧(∀m,m≤rb→m≤mb→m≤bs→m≤w.heap.size→Below m w w')
theorem zc{w w':World}{bs rb mb n:Nat}{r:Pc.PC× Int}(hx:r.2≠0)(hb:∀m,m≤rb→m≤mb→m≤bs→m≤w.heap.size→Below m w w'):Qe w bs rb mb n r w':=⟨fun q=>absurd q hx,hb⟩
theorem kv{w w':World}{bs rb mb:Nat}(hb:Below w.heap.size w w'):∀m,m≤rb→m≤mb→m≤bs→m≤w.heap.size→Below m w w':=fun m _ _ _ h=>yp hb h
theorem yV{w w':World}{rb mb bs:Nat}(h:KpX (xn rb mb) w w'):∀m,m≤rb→m≤mb→m≤bs→m≤w.heap.size→Below m w w':=fun m h1 h2 _ h4=>h.below h4 (fun k hk=>by rcases hk with rfl|rfl<;>assumption)
theorem uV{L:List Tk.T4}{t:Tk.T4}(h:L[0]?=some t):Pc.tok L 0=t.t:=by unfold Pc.tok;rw[h]
theorem xO{w:World}{L:List Tk.T4}{g O cap:Nat}(h:TkAt w L (.slice (some ⟨g,O,none⟩) L.length cap))(n:Nat)(q:Option Addr)(hq:n < L.length→q=some ⟨g,O+n * 4,none⟩)(cq:Nat)(hcq:L.length - n≤cq):TkAt w (L.drop n) (.slice q (L.drop n).length cq):=by
 obtain⟨p',cap',e,h2,h3,h4⟩:=h;refine⟨q,cq,rfl,by rw[List.length_drop];omega,by rw[List.length_drop];omega,fun hne=>?_⟩
 have hl:n < L.length:=by
  apply Classical.byContradiction;intro hh;exact hne (List.drop_eq_nil_of_le (by omega))
 obtain⟨g',O',e',hc⟩:=h4 (by rintro rfl;simp at hl);injection e with e1 e2 e3
 have e5:=e1.trans e';injection e5 with e5
 injection e5 with e6 e7 e8
 subst e6;subst e7;refine⟨g,O+n * 4,hq hl,fun j u hu=>?_⟩;rw[vv,List.getElem?_drop] at hu;rw[Nat.add_assoc];exact hc _ _ hu
theorem uW{L:List Tk.T4}{g O cap i:Nat}{w:World}(TA:TkAt w L (.slice (some ⟨g,O,none⟩) L.length cap))(hi:i < L.length):w.cell? ⟨g,O+i * 4,none⟩=some (.int .i64 (Pc.tok L i).kind)∧w.cell? ⟨g,O+i * 4+1,none⟩=some (.string (Pc.tok L i).text)∧w.cell? ⟨g,O+i * 4+2,none⟩=some (.int .i64 (Pc.tok L i).num):=by
 obtain⟨t,hq⟩:∃t,L[i]?=some t:=⟨_,List.getElem?_eq_getElem hi⟩;obtain⟨g',O',e',q0,q1,q2,-⟩:=TkAt.get TA hq;cases e';rw[UD hq];exact⟨q0,q1,q2⟩
theorem uU{w:World}{L:List Tk.T4}{g O cap rb mb n bs i:Nat}{c:Pc.PC}{vs:Fin 6→Value}{D:Six}(ht:TkAt w L (.slice (some ⟨g,O,none⟩) L.length cap))(hi:i < L.length)(hp:PgV w bs rb mb n c vs D):g≠rb:=by
 rintro rfl;have c1:=(uW ht hi).2.1;have hB:=hp.box;have hvs:=hp.vs;obtain⟨k,hk⟩:∃k,O+i * 4+1=k:=⟨_,rfl⟩;rw[hk] at c1
 by_cases h:k < 15
 ·have:k=0∨k=1∨k=2∨k=3∨k=4∨k=5∨k=6∨k=7∨k=8∨k=9∨k=10∨k=11∨k=12∨k=13∨k=14:=by omega
  rcases this with rfl|rfl|rfl|rfl|rfl|rfl|rfl|rfl|rfl|rfl|rfl|rfl|rfl|rfl|rfl
  ·rw[hB.c0] at c1;cases c1
  ·rw[hB.c1] at c1;cases c1
  ·rw[hB.c2] at c1;cases c1
  ·rw[hB.c3] at c1;cases c1
  ·rw[hB.c4] at c1;cases c1
  ·rw[hB.c5] at c1;cases c1
  ·rw[hB.c6] at c1;cases c1
  ·obtain⟨q,n,z,ez⟩:=hvs 0;rw[hB.c7,ez] at c1;cases c1
  ·obtain⟨q,n,z,ez⟩:=hvs 1;rw[hB.c8,ez] at c1;cases c1
  ·obtain⟨q,n,z,ez⟩:=hvs 2;rw[hB.c9,ez] at c1;cases c1
  ·obtain⟨q,n,z,ez⟩:=hvs 3;rw[hB.c10,ez] at c1;cases c1
  ·obtain⟨q,n,z,ez⟩:=hvs 4;rw[hB.c11,ez] at c1;cases c1
  ·obtain⟨q,n,z,ez⟩:=hvs 5;rw[hB.c12,ez] at c1;cases c1
  ·rw[hB.c13] at c1;cases c1
  ·rw[hB.c14] at c1;cases c1
 ·rw[hB.n k (by omega)] at c1;cases c1
theorem qT(w:World)(P:List ByteArray)(cells:Array Value)(hc:cells.toList=P.map Value.string)(t:TypeId):PtA (w.alloc (.cells cells t)) P w.heap.size 0:=by
 intro i s hi;rw[World.cell?_alloc_new,Nat.zero_add,← Array.getElem?_toList,hc,List.getElem?_map,hi];rfl
theorem Ki(bs rb mb n : Nat)(c : Pc.PC)(vs:Fin 6→Value)(D:Six)(L:List Tk.T4)(g O cap:Nat)(w:World)(hp:PgV w bs rb mb n c vs D)(ht:TkAt w L (.slice (some ⟨g,O,none⟩) L.length cap))(hs:∀t∈ L,t.t.text.size≤9223372036854775807)(hl:0 < L.length)(hn:n≤100000)
 (h1:¬(Pg.tgt (Pc.tok L 0).text < 6∧Pg.sh (L.drop 1) [Pg.pT]=true)) (h2:Pg.sh L [Pc.wNight,Pg.pC,Pc.wTo,Pg.pC]=false) :
 Calls Tryz.prog 88 #[.pointer (some ⟨rb,0,none⟩),.slice (some ⟨g,O,none⟩) L.length cap] w fun e w'=>e=.returned (.tuple #[.int .i64 0,.bool false])∧Below w.heap.size w w':=by
 have hcap:L.length≤cap:=by obtain⟨p',cap',e,h2,-⟩:=ht;injection e with e1 e2 e3;omega
 have hl0:(0:Int) < (L.length:Int):=by omega
 have hc1:(1:Int)≤(L.length:Int):=by omega
 have hc2:(L.length:Int)≤(cap:Int):=by omega
 obtain⟨t0,hq0⟩:∃t,L[0]?=some t:=⟨_,List.getElem?_eq_getElem hl⟩;obtain⟨g',O',e',k0,k1,k2,k3⟩:=TkAt.get ht hq0;cases e';have TX:Hid (Pc.tok L 0=t0.t):=uV hq0;rw[Nat.zero_mul,Nat.add_zero] at k0 k1 k2 k3;have PV:=hid hp;have HT:=hid ht;have HS:=hid hs;have HL:=hid hl;have HN:=hid hn;have NG:=hid (uU ht hl hp);clear hp ht hs hq0 hn;rw[TX.out] at h1
 by_cases ht6:Pg.tgt t0.t.text=6
 ·have TG:Hid (uH rb t0.t.text=none):=by unfold Hid uH;rw[if_pos ht6]
  have N2:Hid (∀(W:World) (gb:Nat) (cp:Nat),Below w.heap.size w W→PtA W [Pc.wNight,Pg.pC,Pc.wTo,Pg.pC] gb 0→Calls Tryz.prog 91 #[.slice (some ⟨g,O,none⟩) L.length cap,.slice (some ⟨gb,0,none⟩) 4 cp] W fun e w'=>e=.returned (.bool false)∧Below W.heap.size W w'):=fun W gb cp hb hP=>by
   have q:=zo L _ cap [Pc.wNight,Pg.pC,Pc.wTo,Pg.pC] gb 0 cp W (HT.out.next hb) HS.out hP (by decide);rw[h2] at q;exact q
  clear h1 h2 ht6;go_enter Tryz.func88,Tryz.ntmps88;go_upto_region 3 with (go_at_call 132;refine(yL rb t0.t.kind t0.t.text t0.t.num t0.at' w).mono ?_;rw[TG.out];rintro e w1 ⟨rfl,hb⟩;have B1:=hid hb;clear hb k0 k1 k2 k3);go_wp2_with fail;refine(N2.out _ _ _ (B1.out.alloc B1.out.size _) (qT _ _ _ rfl _)).mono ?_;rintro e w3 ⟨rfl,hb⟩;have B3:=hid ((B1.out.alloc B1.out.size _).trans (hb.mono (by have:=B1.out.size;simp;omega)));clear hb;go_wp2
  go_ret2
  exact⟨rfl,B3.out⟩
 ·obtain ⟨pa, TG⟩ : ∃ pa, Hid (uH rb t0.t.text=some pa):=⟨_,by unfold Hid uH;rw[if_neg ht6]⟩
  have h3 : Pg.sh (L.drop 1) [Pg.pT] = false:=by
   have qD : Pg.tgt t0.t.text < 6 := by
    have : Pg.tgt t0.t.text ≤ 6 := by unfold Pg.tgt;repeat' split
                                      all_goals omega
    omega
   cases q:Pg.sh (L.drop 1) [Pg.pT] with
   | false=>rfl
   | true=>exact absurd ⟨qD,q⟩ h1
  have N1:Hid (∀(W:World) (gb:Nat) (cp:Nat) (q:Option Addr) (cq:Nat),Below w.heap.size w W→PtA W [Pg.pT] gb 0→(1 < L.length→q=some ⟨g,O+1 * 4,none⟩)→L.length - 1≤cq→Calls Tryz.prog 91 #[.slice q (L.length - 1:Nat) cq,.slice (some ⟨gb,0,none⟩) 1 cp] W fun e w'=>e=.returned (.bool false)∧Below W.heap.size W w'):=fun W gb cp q cq hb hP hq hcq=>by
   have q:=zo (L.drop 1) q cq [Pg.pT] gb 0 cp W (xO (HT.out.next hb) 1 q hq cq hcq) (fun t ht=>HS.out t (List.mem_of_mem_drop ht)) hP (by decide);rw[h3,List.length_drop] at q;exact q
  have N2:Hid (∀(W:World) (gb:Nat) (cp:Nat),Below w.heap.size w W→PtA W [Pc.wNight,Pg.pC,Pc.wTo,Pg.pC] gb 0→Calls Tryz.prog 91 #[.slice (some ⟨g,O,none⟩) L.length cap,.slice (some ⟨gb,0,none⟩) 4 cp] W fun e w'=>e=.returned (.bool false)∧Below W.heap.size W w'):=fun W gb cp hb hP=>by
   have q:=zo L _ cap [Pc.wNight,Pg.pC,Pc.wTo,Pg.pC] gb 0 cp W (HT.out.next hb) HS.out hP (by decide);rw[h2] at q;exact q
  clear h1 h2 h3 ht6;rcases Classical.em (cap=1) with rfl|hcap1
  ·rw [show L.length - 1=0 by omega] at N1;go_enter Tryz.func88,Tryz.ntmps88;go_upto_region 3 with (go_at_call 132;refine(yL rb t0.t.kind t0.t.text t0.t.num t0.at' w).mono ?_;rw[TG.out];rintro e w1 ⟨rfl,hb⟩;have B1:=hid hb;clear hb k0 k1 k2 k3);go_wp2_with fail
   all_goals
    refine(N1.out _ _ _ _ _ (B1.out.alloc B1.out.size _) (qT _ _ _ rfl _) (by first|exact fun _=>rfl|(intro q;omega)) (by omega)).mono ?_;rintro e w2 ⟨rfl,hb⟩;have B2:=hid ((B1.out.alloc B1.out.size _).trans (hb.mono (by have:=B1.out.size;simp;omega)));clear hb;go_wp2_with fail;refine(N2.out _ _ _ (B2.out.alloc B2.out.size _) (qT _ _ _ rfl _)).mono ?_;rintro e w3 ⟨rfl,hb⟩;have B3:=hid ((B2.out.alloc B2.out.size _).trans (hb.mono (by have:=B2.out.size;simp;omega)));clear hb;go_wp2
    go_ret2
    exact⟨rfl,B3.out⟩
  ·skip
   go_enter Tryz.func88,Tryz.ntmps88;go_upto_region 3 with (go_at_call 132;refine(yL rb t0.t.kind t0.t.text t0.t.num t0.at' w).mono ?_;rw[TG.out];rintro e w1 ⟨rfl,hb⟩;have B1:=hid hb;clear hb k0 k1 k2 k3);go_wp2_with fail
   all_goals
    refine(N1.out _ _ _ _ _ (B1.out.alloc B1.out.size _) (qT _ _ _ rfl _) (by first|exact fun _=>rfl|(intro q;omega)) (by omega)).mono ?_;rintro e w2 ⟨rfl,hb⟩;have B2:=hid ((B1.out.alloc B1.out.size _).trans (hb.mono (by have:=B1.out.size;simp;omega)));clear hb;go_wp2_with fail;refine(N2.out _ _ _ (B2.out.alloc B2.out.size _) (qT _ _ _ rfl _)).mono ?_;rintro e w3 ⟨rfl,hb⟩;have B3:=hid ((B2.out.alloc B2.out.size _).trans (hb.mono (by have:=B2.out.size;simp;omega)));clear hb;go_wp2
    go_ret2
    exact⟨rfl,B3.out⟩
theorem Uo(bs rb mb n:Nat)(c:Pc.PC)(vs:Fin 6→Value)(D:Six)(L:List Tk.T4)(g O cap:Nat)(w:World)(hp:PgV w bs rb mb n c vs D)(ht:TkAt w L (.slice (some ⟨g,O,none⟩) L.length cap))(hs:∀t∈ L,t.t.text.size≤9223372036854775807)(hl:0 < L.length)(hn:n≤100000)
 (ht6:Pg.tgt (Pc.tok L 0).text < 6) (h1:Pg.sh (L.drop 1) [Pg.pT]=true) :
 Calls Tryz.prog 88 #[.pointer (some ⟨rb,0,none⟩),.slice (some ⟨g,O,none⟩) L.length cap] w fun e w'=>e=.returned (.tuple #[.int .i64 (Pg.seenT c (Pg.tgt (Pc.tok L 0).text) L).2,.bool true])∧Qe w bs rb mb n (Pg.seenT c (Pg.tgt (Pc.tok L 0).text) L) w':=by
 have hcap:L.length≤cap:=by obtain⟨p',cap',e,h2,-⟩:=ht;injection e with e1 e2 e3;omega
 have hl0:(0:Int) < (L.length:Int):=by omega
 have hc1:(1:Int)≤(L.length:Int):=by omega
 have hc2:(L.length:Int)≤(cap:Int):=by omega
 obtain⟨t0,hq0⟩:∃t,L[0]?=some t:=⟨_,List.getElem?_eq_getElem hl⟩;obtain⟨g',O',e',k0,k1,k2,k3⟩:=TkAt.get ht hq0;cases e';have TX:Hid (Pc.tok L 0=t0.t):=uV hq0;rw[Nat.zero_mul,Nat.add_zero] at k0 k1 k2 k3;have PV:=hid hp;have HT:=hid ht;have HS:=hid hs;have HL:=hid hl;have HN:=hid hn;have NG:=hid (uU ht hl hp);clear hp ht hs hq0 hn;have h2l:L.length=2:=by have:=Pg.sh_len h1;rw[List.length_drop] at this;simp at this;omega
 have hcap1:¬cap=1:=by omega
 have N1:Hid (∀(W:World) (gb:Nat) (cp:Nat) (q:Option Addr) (cq:Nat),Below w.heap.size w W→PtA W [Pg.pT] gb 0→(1 < L.length→q=some ⟨g,O+1 * 4,none⟩)→L.length - 1≤cq→Calls Tryz.prog 91 #[.slice q (L.length - 1:Nat) cq,.slice (some ⟨gb,0,none⟩) 1 cp] W fun e w'=>e=.returned (.bool true)∧Below W.heap.size W w'):=fun W gb cp q cq hb hP hq hcq=>by
  have q:=zo (L.drop 1) q cq [Pg.pT] gb 0 cp W (xO (HT.out.next hb) 1 q hq cq hcq) (fun t ht=>HS.out t (List.mem_of_mem_drop ht)) hP (by decide);rw[h1,List.length_drop] at q;exact q
 have TK1:Hid (∀W,Below w.heap.size w W→W.cell? ⟨g,O+1 * 4+2,none⟩=some (.int .i64 (Pc.tok L 1).num)):=fun W hb=>(uW (HT.out.next hb) (show 1 < L.length by omega)).2.2;have TK0:Hid (∀W,Below w.heap.size w W→W.cell? ⟨g,O+0 * 4+1,none⟩=some (.string (Pc.tok L 0).text)):=fun W hb=>(uW (HT.out.next hb) HL.out).2.1;have ix1:(1:Int) < (L.length:Int):=by omega
 clear h1 h2l;obtain⟨x1,hx1⟩:∃x,(Pc.tok L 1).num=x:=⟨_,rfl⟩;have X1:=hid hx1;rw[hx1] at TK1;clear hx1;rcases Pg.tgt_word _ ht6 with h|h|h|h|h|h
 ·obtain ⟨tx,htx⟩:∃z,t0.t.text=z:=⟨_,rfl⟩;have FI:Hid (Pc.fieldsL[0]?=some tx):=(by unfold Hid;rw[← htx,← TX.out,h];rfl);have TG:Hid (uH rb tx=some ⟨rb,0,none⟩):=(by unfold Hid;rw[← htx,← TX.out,h];rfl);have TE:Pg.tgt (Pc.tok L 0).text=0:=(by rw[h];rfl);rw[TE];rw[TX.out,htx] at TK0;rw[htx] at k1;clear h TE ht6 TX htx;go_enter Tryz.func88,Tryz.ntmps88;go_upto_region 3 with (go_at_call 132;refine(yL rb t0.t.kind tx t0.t.num t0.at' w).mono ?_;rw[TG.out];rintro e w1 ⟨rfl,hb⟩;have B1:=hid hb;clear hb k0 k1 k2 k3);go_wp2_with fail
  all_goals
   refine(N1.out _ _ _ _ _ (B1.out.alloc B1.out.size _) (qT _ _ _ rfl _) (by first|exact fun _=>rfl|(intro q;omega)) (by omega)).mono ?_;rintro e w2 ⟨rfl,hb⟩;have B2:=hid ((B1.out.alloc B1.out.size _).trans (hb.mono (by have:=B1.out.size;simp;omega)));clear hb;have P2:=hid (PV.out.next B2.out);have bc:=P2.out.box.c0;have bf:=P2.out.box.f0;have ka:=TK1.out _ B2.out;rw[show O+1 * 4+2=O+4+2 by omega] at ka;have PB3:Hid (PgB (w2.setCell ⟨rb,0,none⟩ (.int .i64 x1)) rb mb { c with rep:=x1 } vs):=P2.out.box.set_rep x1;have KX:Hid (KpX (xn rb mb) w (w2.setCell ⟨rb,0,none⟩ (.int .i64 x1))):=(KpX.of_below B2.out).trans (KpX.set (Or.inl rfl) _ _);have S3:Hid (SgS (w2.setCell ⟨rb,0,none⟩ (.int .i64 x1)) mb n c):=P2.out.sn.set P2.out.ne
   have T3:Hid ((w2.setCell ⟨rb,0,none⟩ (.int .i64 x1)).cell? ⟨g,O+1,none⟩=some (.string tx)):=by
    unfold Hid;rw[World.cell?_of_block (a:=⟨g,O+1,none⟩) (Below.heap_setCell w2 ⟨rb,0,none⟩ (.int .i64 x1) g NG.out)];have q:=TK0.out _ B2.out;rw[show O+0 * 4+1=O+1 by omega] at q;exact q
   go_upto_region 7 with (fail);clear bc bf ka;generalize w2.setCell ⟨rb,0,none⟩ (.int .i64 x1)=w3 at *;cases hse:c.seen 0 with
   | true =>
     have LK:Hid (∀W,Below w3.heap.size w3 W→(Instr.lookup 76 (.map (some mb)) (.string tx) false).run Tryz.prog W=.ok (.bool true) W):=fun W hb=>by
      have q:=(S3.out.next hb).look (i:=0) (s:=tx) FI.out;rw[hse] at q;exact q
     have RQ:Hid (Pg.seenT c 0 L=(c,7)):=(by unfold Hid Pg.seenT;rw[if_pos hse]);have hlk:=LK.out w3 (Below.refl _ _);have hlk2:=LK.out w3.drew ((Below.refl _ _).drew);have m14:=PB3.out.c14;have kt:=T3.out;clear hse LK;go_upto_region 7 with (fail)
     go_region
     go_wp2
     go_ret2
     exact⟨by rw[RQ.out];rfl,zc (by rw[RQ.out];show(7:Int)≠0;decide) (yV (KX.out.trans (KpX.of_below ((Below.refl _ _).drew))))⟩
   | false =>
     have LK:Hid (∀W,Below w3.heap.size w3 W→(Instr.lookup 76 (.map (some mb)) (.string tx) false).run Tryz.prog W=.ok (.bool false) W):=fun W hb=>by
      have q:=(S3.out.next hb).look (i:=0) (s:=tx) FI.out;rw[hse] at q;exact q
     have RQ:Hid (Pg.seenT c 0 L=(Pc.setField (Pc.setSeen c 0) 0 L,0)):=(by unfold Hid Pg.seenT;rw[if_neg (by rw[hse];decide)]);have hlk:=LK.out w3 (Below.refl _ _);have hlk2:=LK.out w3.drew ((Below.refl _ _).drew);have m14:=PB3.out.c14;have kt:=T3.out;clear hse LK;go_upto_region 7 with (fail)
     go_region
     clear hlk hlk2 m14 kt;have B34:Below w3.heap.size w3 w3.drew:=(Below.refl _ _).drew;have K4:=hid (KX.out.trans (KpX.of_below B34));have PB4:=hid (PB3.out.next B34);have S4:=hid (S3.out.next B34);have kt:=qa T3.out B34;have m14:=PB4.out.c14;clear B34 PB3 S3;go_upto_region 9 with (fail);generalize w3.drew=w4 at *;have PB5:=hid (PB4.out.next ((Below.refl _ w4).drew));have S5:=hid (S4.out.next ((Below.refl _ w4).drew));obtain⟨w5,hput,hS5,hG5⟩:=S5.out.put (i:=0) (s:=tx) FI.out HN.out
     have FIN:Hid (Qe w bs rb mb n (Pc.setField (Pc.setSeen c 0) 0 L,0) w5):=by
      have KK:=K4.out.trans ((KpX.of_below ((Below.refl _ w4).drew)).trans (KpX.of_gb (t:=mb) (X:=xn rb mb) (Or.inr rfl) hG5));refine⟨fun _=>⟨vs,D,(PV.out.more (Nat.le_succ n)).field ((PB5.out.grown hG5 (fun e=>PV.out.ne (inj e))).like X1.out rfl rfl rfl rfl rfl rfl rfl) (hS5.same rfl) KK rfl rfl rfl rfl rfl rfl⟩,yV KK⟩
     clear hS5 hG5 S4 S5 PB4 PB5
     go_region
     go_wp2
     go_ret2
     exact⟨by rw[RQ.out];rfl,by rw[RQ.out];exact FIN.out⟩
 ·obtain ⟨tx,htx⟩:∃z,t0.t.text=z:=⟨_,rfl⟩;have FI:Hid (Pc.fieldsL[1]?=some tx):=(by unfold Hid;rw[← htx,← TX.out,h];rfl);have TG:Hid (uH rb tx=some ⟨rb,1,none⟩):=(by unfold Hid;rw[← htx,← TX.out,h];rfl);have TE:Pg.tgt (Pc.tok L 0).text=1:=(by rw[h];rfl);rw[TE];rw[TX.out,htx] at TK0;rw[htx] at k1;clear h TE ht6 TX htx;go_enter Tryz.func88,Tryz.ntmps88;go_upto_region 3 with (go_at_call 132;refine(yL rb t0.t.kind tx t0.t.num t0.at' w).mono ?_;rw[TG.out];rintro e w1 ⟨rfl,hb⟩;have B1:=hid hb;clear hb k0 k1 k2 k3);go_wp2_with fail
  all_goals
   refine(N1.out _ _ _ _ _ (B1.out.alloc B1.out.size _) (qT _ _ _ rfl _) (by first|exact fun _=>rfl|(intro q;omega)) (by omega)).mono ?_;rintro e w2 ⟨rfl,hb⟩;have B2:=hid ((B1.out.alloc B1.out.size _).trans (hb.mono (by have:=B1.out.size;simp;omega)));clear hb;have P2:=hid (PV.out.next B2.out);have bc:=P2.out.box.c1;have bf:=P2.out.box.f1;have ka:=TK1.out _ B2.out;rw[show O+1 * 4+2=O+4+2 by omega] at ka;have PB3:Hid (PgB (w2.setCell ⟨rb,1,none⟩ (.int .i64 x1)) rb mb { c with rel:=x1 } vs):=P2.out.box.set_rel x1;have KX:Hid (KpX (xn rb mb) w (w2.setCell ⟨rb,1,none⟩ (.int .i64 x1))):=(KpX.of_below B2.out).trans (KpX.set (Or.inl rfl) _ _);have S3:Hid (SgS (w2.setCell ⟨rb,1,none⟩ (.int .i64 x1)) mb n c):=P2.out.sn.set P2.out.ne
   have T3:Hid ((w2.setCell ⟨rb,1,none⟩ (.int .i64 x1)).cell? ⟨g,O+1,none⟩=some (.string tx)):=by
    unfold Hid;rw[World.cell?_of_block (a:=⟨g,O+1,none⟩) (Below.heap_setCell w2 ⟨rb,1,none⟩ (.int .i64 x1) g NG.out)];have q:=TK0.out _ B2.out;rw[show O+0 * 4+1=O+1 by omega] at q;exact q
   go_upto_region 7 with (fail);clear bc bf ka;generalize w2.setCell ⟨rb,1,none⟩ (.int .i64 x1)=w3 at *;cases hse:c.seen 1 with
   | true =>
     have LK:Hid (∀W,Below w3.heap.size w3 W→(Instr.lookup 76 (.map (some mb)) (.string tx) false).run Tryz.prog W=.ok (.bool true) W):=fun W hb=>by
      have q:=(S3.out.next hb).look (i:=1) (s:=tx) FI.out;rw[hse] at q;exact q
     have RQ:Hid (Pg.seenT c 1 L=(c,7)):=(by unfold Hid Pg.seenT;rw[if_pos hse]);have hlk:=LK.out w3 (Below.refl _ _);have hlk2:=LK.out w3.drew ((Below.refl _ _).drew);have m14:=PB3.out.c14;have kt:=T3.out;clear hse LK;go_upto_region 7 with (fail)
     go_region
     go_wp2
     go_ret2
     exact⟨by rw[RQ.out];rfl,zc (by rw[RQ.out];show(7:Int)≠0;decide) (yV (KX.out.trans (KpX.of_below ((Below.refl _ _).drew))))⟩
   | false =>
     have LK:Hid (∀W,Below w3.heap.size w3 W→(Instr.lookup 76 (.map (some mb)) (.string tx) false).run Tryz.prog W=.ok (.bool false) W):=fun W hb=>by
      have q:=(S3.out.next hb).look (i:=1) (s:=tx) FI.out;rw[hse] at q;exact q
     have RQ:Hid (Pg.seenT c 1 L=(Pc.setField (Pc.setSeen c 1) 1 L,0)):=(by unfold Hid Pg.seenT;rw[if_neg (by rw[hse];decide)]);have hlk:=LK.out w3 (Below.refl _ _);have hlk2:=LK.out w3.drew ((Below.refl _ _).drew);have m14:=PB3.out.c14;have kt:=T3.out;clear hse LK;go_upto_region 7 with (fail)
     go_region
     clear hlk hlk2 m14 kt;have B34:Below w3.heap.size w3 w3.drew:=(Below.refl _ _).drew;have K4:=hid (KX.out.trans (KpX.of_below B34));have PB4:=hid (PB3.out.next B34);have S4:=hid (S3.out.next B34);have kt:=qa T3.out B34;have m14:=PB4.out.c14;clear B34 PB3 S3;go_upto_region 9 with (fail);generalize w3.drew=w4 at *;have PB5:=hid (PB4.out.next ((Below.refl _ w4).drew));have S5:=hid (S4.out.next ((Below.refl _ w4).drew));obtain⟨w5,hput,hS5,hG5⟩:=S5.out.put (i:=1) (s:=tx) FI.out HN.out
     have FIN:Hid (Qe w bs rb mb n (Pc.setField (Pc.setSeen c 1) 1 L,0) w5):=by
      have KK:=K4.out.trans ((KpX.of_below ((Below.refl _ w4).drew)).trans (KpX.of_gb (t:=mb) (X:=xn rb mb) (Or.inr rfl) hG5));refine⟨fun _=>⟨vs,D,(PV.out.more (Nat.le_succ n)).field ((PB5.out.grown hG5 (fun e=>PV.out.ne (inj e))).like rfl X1.out rfl rfl rfl rfl rfl rfl) (hS5.same rfl) KK rfl rfl rfl rfl rfl rfl⟩,yV KK⟩
     clear hS5 hG5 S4 S5 PB4 PB5
     go_region
     go_wp2
     go_ret2
     exact⟨by rw[RQ.out];rfl,by rw[RQ.out];exact FIN.out⟩
 ·obtain ⟨tx,htx⟩:∃z,t0.t.text=z:=⟨_,rfl⟩;have FI:Hid (Pc.fieldsL[2]?=some tx):=(by unfold Hid;rw[← htx,← TX.out,h];rfl);have TG:Hid (uH rb tx=some ⟨rb,2,none⟩):=(by unfold Hid;rw[← htx,← TX.out,h];rfl);have TE:Pg.tgt (Pc.tok L 0).text=2:=(by rw[h];rfl);rw[TE];rw[TX.out,htx] at TK0;rw[htx] at k1;clear h TE ht6 TX htx;go_enter Tryz.func88,Tryz.ntmps88;go_upto_region 3 with (go_at_call 132;refine(yL rb t0.t.kind tx t0.t.num t0.at' w).mono ?_;rw[TG.out];rintro e w1 ⟨rfl,hb⟩;have B1:=hid hb;clear hb k0 k1 k2 k3);go_wp2_with fail
  all_goals
   refine(N1.out _ _ _ _ _ (B1.out.alloc B1.out.size _) (qT _ _ _ rfl _) (by first|exact fun _=>rfl|(intro q;omega)) (by omega)).mono ?_;rintro e w2 ⟨rfl,hb⟩;have B2:=hid ((B1.out.alloc B1.out.size _).trans (hb.mono (by have:=B1.out.size;simp;omega)));clear hb;have P2:=hid (PV.out.next B2.out);have bc:=P2.out.box.c2;have bf:=P2.out.box.f2;have ka:=TK1.out _ B2.out;rw[show O+1 * 4+2=O+4+2 by omega] at ka;have PB3:Hid (PgB (w2.setCell ⟨rb,2,none⟩ (.int .i64 x1)) rb mb { c with con:=x1 } vs):=P2.out.box.set_con x1;have KX:Hid (KpX (xn rb mb) w (w2.setCell ⟨rb,2,none⟩ (.int .i64 x1))):=(KpX.of_below B2.out).trans (KpX.set (Or.inl rfl) _ _);have S3:Hid (SgS (w2.setCell ⟨rb,2,none⟩ (.int .i64 x1)) mb n c):=P2.out.sn.set P2.out.ne
   have T3:Hid ((w2.setCell ⟨rb,2,none⟩ (.int .i64 x1)).cell? ⟨g,O+1,none⟩=some (.string tx)):=by
    unfold Hid;rw[World.cell?_of_block (a:=⟨g,O+1,none⟩) (Below.heap_setCell w2 ⟨rb,2,none⟩ (.int .i64 x1) g NG.out)];have q:=TK0.out _ B2.out;rw[show O+0 * 4+1=O+1 by omega] at q;exact q
   go_upto_region 7 with (fail);clear bc bf ka;generalize w2.setCell ⟨rb,2,none⟩ (.int .i64 x1)=w3 at *;cases hse:c.seen 2 with
   | true =>
     have LK:Hid (∀W,Below w3.heap.size w3 W→(Instr.lookup 76 (.map (some mb)) (.string tx) false).run Tryz.prog W=.ok (.bool true) W):=fun W hb=>by
      have q:=(S3.out.next hb).look (i:=2) (s:=tx) FI.out;rw[hse] at q;exact q
     have RQ:Hid (Pg.seenT c 2 L=(c,7)):=(by unfold Hid Pg.seenT;rw[if_pos hse]);have hlk:=LK.out w3 (Below.refl _ _);have hlk2:=LK.out w3.drew ((Below.refl _ _).drew);have m14:=PB3.out.c14;have kt:=T3.out;clear hse LK;go_upto_region 7 with (fail)
     go_region
     go_wp2
     go_ret2
     exact⟨by rw[RQ.out];rfl,zc (by rw[RQ.out];show(7:Int)≠0;decide) (yV (KX.out.trans (KpX.of_below ((Below.refl _ _).drew))))⟩
   | false =>
     have LK:Hid (∀W,Below w3.heap.size w3 W→(Instr.lookup 76 (.map (some mb)) (.string tx) false).run Tryz.prog W=.ok (.bool false) W):=fun W hb=>by
      have q:=(S3.out.next hb).look (i:=2) (s:=tx) FI.out;rw[hse] at q;exact q
     have RQ:Hid (Pg.seenT c 2 L=(Pc.setField (Pc.setSeen c 2) 2 L,0)):=(by unfold Hid Pg.seenT;rw[if_neg (by rw[hse];decide)]);have hlk:=LK.out w3 (Below.refl _ _);have hlk2:=LK.out w3.drew ((Below.refl _ _).drew);have m14:=PB3.out.c14;have kt:=T3.out;clear hse LK;go_upto_region 7 with (fail)
     go_region
     clear hlk hlk2 m14 kt;have B34:Below w3.heap.size w3 w3.drew:=(Below.refl _ _).drew;have K4:=hid (KX.out.trans (KpX.of_below B34));have PB4:=hid (PB3.out.next B34);have S4:=hid (S3.out.next B34);have kt:=qa T3.out B34;have m14:=PB4.out.c14;clear B34 PB3 S3;go_upto_region 9 with (fail);generalize w3.drew=w4 at *;have PB5:=hid (PB4.out.next ((Below.refl _ w4).drew));have S5:=hid (S4.out.next ((Below.refl _ w4).drew));obtain⟨w5,hput,hS5,hG5⟩:=S5.out.put (i:=2) (s:=tx) FI.out HN.out
     have FIN:Hid (Qe w bs rb mb n (Pc.setField (Pc.setSeen c 2) 2 L,0) w5):=by
      have KK:=K4.out.trans ((KpX.of_below ((Below.refl _ w4).drew)).trans (KpX.of_gb (t:=mb) (X:=xn rb mb) (Or.inr rfl) hG5));refine⟨fun _=>⟨vs,D,(PV.out.more (Nat.le_succ n)).field ((PB5.out.grown hG5 (fun e=>PV.out.ne (inj e))).like rfl rfl X1.out rfl rfl rfl rfl rfl) (hS5.same rfl) KK rfl rfl rfl rfl rfl rfl⟩,yV KK⟩
     clear hS5 hG5 S4 S5 PB4 PB5
     go_region
     go_wp2
     go_ret2
     exact⟨by rw[RQ.out];rfl,by rw[RQ.out];exact FIN.out⟩
 ·obtain ⟨tx,htx⟩:∃z,t0.t.text=z:=⟨_,rfl⟩;have FI:Hid (Pc.fieldsL[3]?=some tx):=(by unfold Hid;rw[← htx,← TX.out,h];rfl);have TG:Hid (uH rb tx=some ⟨rb,3,none⟩):=(by unfold Hid;rw[← htx,← TX.out,h];rfl);have TE:Pg.tgt (Pc.tok L 0).text=3:=(by rw[h];rfl);rw[TE];rw[TX.out,htx] at TK0;rw[htx] at k1;clear h TE ht6 TX htx;go_enter Tryz.func88,Tryz.ntmps88;go_upto_region 3 with (go_at_call 132;refine(yL rb t0.t.kind tx t0.t.num t0.at' w).mono ?_;rw[TG.out];rintro e w1 ⟨rfl,hb⟩;have B1:=hid hb;clear hb k0 k1 k2 k3);go_wp2_with fail
  all_goals
   refine(N1.out _ _ _ _ _ (B1.out.alloc B1.out.size _) (qT _ _ _ rfl _) (by first|exact fun _=>rfl|(intro q;omega)) (by omega)).mono ?_;rintro e w2 ⟨rfl,hb⟩;have B2:=hid ((B1.out.alloc B1.out.size _).trans (hb.mono (by have:=B1.out.size;simp;omega)));clear hb;have P2:=hid (PV.out.next B2.out);have bc:=P2.out.box.c3;have bf:=P2.out.box.f3;have ka:=TK1.out _ B2.out;rw[show O+1 * 4+2=O+4+2 by omega] at ka;have PB3:Hid (PgB (w2.setCell ⟨rb,3,none⟩ (.int .i64 x1)) rb mb { c with sit:=x1 } vs):=P2.out.box.set_sit x1;have KX:Hid (KpX (xn rb mb) w (w2.setCell ⟨rb,3,none⟩ (.int .i64 x1))):=(KpX.of_below B2.out).trans (KpX.set (Or.inl rfl) _ _);have S3:Hid (SgS (w2.setCell ⟨rb,3,none⟩ (.int .i64 x1)) mb n c):=P2.out.sn.set P2.out.ne
   have T3:Hid ((w2.setCell ⟨rb,3,none⟩ (.int .i64 x1)).cell? ⟨g,O+1,none⟩=some (.string tx)):=by
    unfold Hid;rw[World.cell?_of_block (a:=⟨g,O+1,none⟩) (Below.heap_setCell w2 ⟨rb,3,none⟩ (.int .i64 x1) g NG.out)];have q:=TK0.out _ B2.out;rw[show O+0 * 4+1=O+1 by omega] at q;exact q
   go_upto_region 7 with (fail);clear bc bf ka;generalize w2.setCell ⟨rb,3,none⟩ (.int .i64 x1)=w3 at *;cases hse:c.seen 3 with
   | true =>
     have LK:Hid (∀W,Below w3.heap.size w3 W→(Instr.lookup 76 (.map (some mb)) (.string tx) false).run Tryz.prog W=.ok (.bool true) W):=fun W hb=>by
      have q:=(S3.out.next hb).look (i:=3) (s:=tx) FI.out;rw[hse] at q;exact q
     have RQ:Hid (Pg.seenT c 3 L=(c,7)):=(by unfold Hid Pg.seenT;rw[if_pos hse]);have hlk:=LK.out w3 (Below.refl _ _);have hlk2:=LK.out w3.drew ((Below.refl _ _).drew);have m14:=PB3.out.c14;have kt:=T3.out;clear hse LK;go_upto_region 7 with (fail)
     go_region
     go_wp2
     go_ret2
     exact⟨by rw[RQ.out];rfl,zc (by rw[RQ.out];show(7:Int)≠0;decide) (yV (KX.out.trans (KpX.of_below ((Below.refl _ _).drew))))⟩
   | false =>
     have LK:Hid (∀W,Below w3.heap.size w3 W→(Instr.lookup 76 (.map (some mb)) (.string tx) false).run Tryz.prog W=.ok (.bool false) W):=fun W hb=>by
      have q:=(S3.out.next hb).look (i:=3) (s:=tx) FI.out;rw[hse] at q;exact q
     have RQ:Hid (Pg.seenT c 3 L=(Pc.setField (Pc.setSeen c 3) 3 L,0)):=(by unfold Hid Pg.seenT;rw[if_neg (by rw[hse];decide)]);have hlk:=LK.out w3 (Below.refl _ _);have hlk2:=LK.out w3.drew ((Below.refl _ _).drew);have m14:=PB3.out.c14;have kt:=T3.out;clear hse LK;go_upto_region 7 with (fail)
     go_region
     clear hlk hlk2 m14 kt;have B34:Below w3.heap.size w3 w3.drew:=(Below.refl _ _).drew;have K4:=hid (KX.out.trans (KpX.of_below B34));have PB4:=hid (PB3.out.next B34);have S4:=hid (S3.out.next B34);have kt:=qa T3.out B34;have m14:=PB4.out.c14;clear B34 PB3 S3;go_upto_region 9 with (fail);generalize w3.drew=w4 at *;have PB5:=hid (PB4.out.next ((Below.refl _ w4).drew));have S5:=hid (S4.out.next ((Below.refl _ w4).drew));obtain⟨w5,hput,hS5,hG5⟩:=S5.out.put (i:=3) (s:=tx) FI.out HN.out
     have FIN:Hid (Qe w bs rb mb n (Pc.setField (Pc.setSeen c 3) 3 L,0) w5):=by
      have KK:=K4.out.trans ((KpX.of_below ((Below.refl _ w4).drew)).trans (KpX.of_gb (t:=mb) (X:=xn rb mb) (Or.inr rfl) hG5));refine⟨fun _=>⟨vs,D,(PV.out.more (Nat.le_succ n)).field ((PB5.out.grown hG5 (fun e=>PV.out.ne (inj e))).like rfl rfl rfl X1.out rfl rfl rfl rfl) (hS5.same rfl) KK rfl rfl rfl rfl rfl rfl⟩,yV KK⟩
     clear hS5 hG5 S4 S5 PB4 PB5
     go_region
     go_wp2
     go_ret2
     exact⟨by rw[RQ.out];rfl,by rw[RQ.out];exact FIN.out⟩
 ·obtain ⟨tx,htx⟩:∃z,t0.t.text=z:=⟨_,rfl⟩;have FI:Hid (Pc.fieldsL[4]?=some tx):=(by unfold Hid;rw[← htx,← TX.out,h];rfl);have TG:Hid (uH rb tx=some ⟨rb,4,none⟩):=(by unfold Hid;rw[← htx,← TX.out,h];rfl);have TE:Pg.tgt (Pc.tok L 0).text=4:=(by rw[h];rfl);rw[TE];rw[TX.out,htx] at TK0;rw[htx] at k1;clear h TE ht6 TX htx;go_enter Tryz.func88,Tryz.ntmps88;go_upto_region 3 with (go_at_call 132;refine(yL rb t0.t.kind tx t0.t.num t0.at' w).mono ?_;rw[TG.out];rintro e w1 ⟨rfl,hb⟩;have B1:=hid hb;clear hb k0 k1 k2 k3);go_wp2_with fail
  all_goals
   refine(N1.out _ _ _ _ _ (B1.out.alloc B1.out.size _) (qT _ _ _ rfl _) (by first|exact fun _=>rfl|(intro q;omega)) (by omega)).mono ?_;rintro e w2 ⟨rfl,hb⟩;have B2:=hid ((B1.out.alloc B1.out.size _).trans (hb.mono (by have:=B1.out.size;simp;omega)));clear hb;have P2:=hid (PV.out.next B2.out);have bc:=P2.out.box.c4;have bf:=P2.out.box.f4;have ka:=TK1.out _ B2.out;rw[show O+1 * 4+2=O+4+2 by omega] at ka;have PB3:Hid (PgB (w2.setCell ⟨rb,4,none⟩ (.int .i64 x1)) rb mb { c with lay:=x1 } vs):=P2.out.box.set_lay x1;have KX:Hid (KpX (xn rb mb) w (w2.setCell ⟨rb,4,none⟩ (.int .i64 x1))):=(KpX.of_below B2.out).trans (KpX.set (Or.inl rfl) _ _);have S3:Hid (SgS (w2.setCell ⟨rb,4,none⟩ (.int .i64 x1)) mb n c):=P2.out.sn.set P2.out.ne
   have T3:Hid ((w2.setCell ⟨rb,4,none⟩ (.int .i64 x1)).cell? ⟨g,O+1,none⟩=some (.string tx)):=by
    unfold Hid;rw[World.cell?_of_block (a:=⟨g,O+1,none⟩) (Below.heap_setCell w2 ⟨rb,4,none⟩ (.int .i64 x1) g NG.out)];have q:=TK0.out _ B2.out;rw[show O+0 * 4+1=O+1 by omega] at q;exact q
   go_upto_region 7 with (fail);clear bc bf ka;generalize w2.setCell ⟨rb,4,none⟩ (.int .i64 x1)=w3 at *;cases hse:c.seen 4 with
   | true =>
     have LK:Hid (∀W,Below w3.heap.size w3 W→(Instr.lookup 76 (.map (some mb)) (.string tx) false).run Tryz.prog W=.ok (.bool true) W):=fun W hb=>by
      have q:=(S3.out.next hb).look (i:=4) (s:=tx) FI.out;rw[hse] at q;exact q
     have RQ:Hid (Pg.seenT c 4 L=(c,7)):=(by unfold Hid Pg.seenT;rw[if_pos hse]);have hlk:=LK.out w3 (Below.refl _ _);have hlk2:=LK.out w3.drew ((Below.refl _ _).drew);have m14:=PB3.out.c14;have kt:=T3.out;clear hse LK;go_upto_region 7 with (fail)
     go_region
     go_wp2
     go_ret2
     exact⟨by rw[RQ.out];rfl,zc (by rw[RQ.out];show(7:Int)≠0;decide) (yV (KX.out.trans (KpX.of_below ((Below.refl _ _).drew))))⟩
   | false =>
     have LK:Hid (∀W,Below w3.heap.size w3 W→(Instr.lookup 76 (.map (some mb)) (.string tx) false).run Tryz.prog W=.ok (.bool false) W):=fun W hb=>by
      have q:=(S3.out.next hb).look (i:=4) (s:=tx) FI.out;rw[hse] at q;exact q
     have RQ:Hid (Pg.seenT c 4 L=(Pc.setField (Pc.setSeen c 4) 4 L,0)):=(by unfold Hid Pg.seenT;rw[if_neg (by rw[hse];decide)]);have hlk:=LK.out w3 (Below.refl _ _);have hlk2:=LK.out w3.drew ((Below.refl _ _).drew);have m14:=PB3.out.c14;have kt:=T3.out;clear hse LK;go_upto_region 7 with (fail)
     go_region
     clear hlk hlk2 m14 kt;have B34:Below w3.heap.size w3 w3.drew:=(Below.refl _ _).drew;have K4:=hid (KX.out.trans (KpX.of_below B34));have PB4:=hid (PB3.out.next B34);have S4:=hid (S3.out.next B34);have kt:=qa T3.out B34;have m14:=PB4.out.c14;clear B34 PB3 S3;go_upto_region 9 with (fail);generalize w3.drew=w4 at *;have PB5:=hid (PB4.out.next ((Below.refl _ w4).drew));have S5:=hid (S4.out.next ((Below.refl _ w4).drew));obtain⟨w5,hput,hS5,hG5⟩:=S5.out.put (i:=4) (s:=tx) FI.out HN.out
     have FIN:Hid (Qe w bs rb mb n (Pc.setField (Pc.setSeen c 4) 4 L,0) w5):=by
      have KK:=K4.out.trans ((KpX.of_below ((Below.refl _ w4).drew)).trans (KpX.of_gb (t:=mb) (X:=xn rb mb) (Or.inr rfl) hG5));refine⟨fun _=>⟨vs,D,(PV.out.more (Nat.le_succ n)).field ((PB5.out.grown hG5 (fun e=>PV.out.ne (inj e))).like rfl rfl rfl rfl X1.out rfl rfl rfl) (hS5.same rfl) KK rfl rfl rfl rfl rfl rfl⟩,yV KK⟩
     clear hS5 hG5 S4 S5 PB4 PB5
     go_region
     go_wp2
     go_ret2
     exact⟨by rw[RQ.out];rfl,by rw[RQ.out];exact FIN.out⟩
 ·obtain ⟨tx,htx⟩:∃z,t0.t.text=z:=⟨_,rfl⟩;have FI:Hid (Pc.fieldsL[5]?=some tx):=(by unfold Hid;rw[← htx,← TX.out,h];rfl);have TG:Hid (uH rb tx=some ⟨rb,13,none⟩):=(by unfold Hid;rw[← htx,← TX.out,h];rfl);have TE:Pg.tgt (Pc.tok L 0).text=5:=(by rw[h];rfl);rw[TE];rw[TX.out,htx] at TK0;rw[htx] at k1;clear h TE ht6 TX htx;go_enter Tryz.func88,Tryz.ntmps88;go_upto_region 3 with (go_at_call 132;refine(yL rb t0.t.kind tx t0.t.num t0.at' w).mono ?_;rw[TG.out];rintro e w1 ⟨rfl,hb⟩;have B1:=hid hb;clear hb k0 k1 k2 k3);go_wp2_with fail
  all_goals
   refine(N1.out _ _ _ _ _ (B1.out.alloc B1.out.size _) (qT _ _ _ rfl _) (by first|exact fun _=>rfl|(intro q;omega)) (by omega)).mono ?_;rintro e w2 ⟨rfl,hb⟩;have B2:=hid ((B1.out.alloc B1.out.size _).trans (hb.mono (by have:=B1.out.size;simp;omega)));clear hb;have P2:=hid (PV.out.next B2.out);have bc:=P2.out.box.c13;have bf:=P2.out.box.f13;have ka:=TK1.out _ B2.out;rw[show O+1 * 4+2=O+4+2 by omega] at ka;have PB3:Hid (PgB (w2.setCell ⟨rb,13,none⟩ (.int .i64 x1)) rb mb { c with gua:=x1 } vs):=P2.out.box.set_gua x1;have KX:Hid (KpX (xn rb mb) w (w2.setCell ⟨rb,13,none⟩ (.int .i64 x1))):=(KpX.of_below B2.out).trans (KpX.set (Or.inl rfl) _ _);have S3:Hid (SgS (w2.setCell ⟨rb,13,none⟩ (.int .i64 x1)) mb n c):=P2.out.sn.set P2.out.ne
   have T3:Hid ((w2.setCell ⟨rb,13,none⟩ (.int .i64 x1)).cell? ⟨g,O+1,none⟩=some (.string tx)):=by
    unfold Hid;rw[World.cell?_of_block (a:=⟨g,O+1,none⟩) (Below.heap_setCell w2 ⟨rb,13,none⟩ (.int .i64 x1) g NG.out)];have q:=TK0.out _ B2.out;rw[show O+0 * 4+1=O+1 by omega] at q;exact q
   go_upto_region 7 with (fail);clear bc bf ka;generalize w2.setCell ⟨rb,13,none⟩ (.int .i64 x1)=w3 at *;cases hse:c.seen 5 with
   | true =>
     have LK:Hid (∀W,Below w3.heap.size w3 W→(Instr.lookup 76 (.map (some mb)) (.string tx) false).run Tryz.prog W=.ok (.bool true) W):=fun W hb=>by
      have q:=(S3.out.next hb).look (i:=5) (s:=tx) FI.out;rw[hse] at q;exact q
     have RQ:Hid (Pg.seenT c 5 L=(c,7)):=(by unfold Hid Pg.seenT;rw[if_pos hse]);have hlk:=LK.out w3 (Below.refl _ _);have hlk2:=LK.out w3.drew ((Below.refl _ _).drew);have m14:=PB3.out.c14;have kt:=T3.out;clear hse LK;go_upto_region 7 with (fail)
     go_region
     go_wp2
     go_ret2
     exact⟨by rw[RQ.out];rfl,zc (by rw[RQ.out];show(7:Int)≠0;decide) (yV (KX.out.trans (KpX.of_below ((Below.refl _ _).drew))))⟩
   | false =>
     have LK:Hid (∀W,Below w3.heap.size w3 W→(Instr.lookup 76 (.map (some mb)) (.string tx) false).run Tryz.prog W=.ok (.bool false) W):=fun W hb=>by
      have q:=(S3.out.next hb).look (i:=5) (s:=tx) FI.out;rw[hse] at q;exact q
     have RQ:Hid (Pg.seenT c 5 L=(Pc.setField (Pc.setSeen c 5) 5 L,0)):=(by unfold Hid Pg.seenT;rw[if_neg (by rw[hse];decide)]);have hlk:=LK.out w3 (Below.refl _ _);have hlk2:=LK.out w3.drew ((Below.refl _ _).drew);have m14:=PB3.out.c14;have kt:=T3.out;clear hse LK;go_upto_region 7 with (fail)
     go_region
     clear hlk hlk2 m14 kt;have B34:Below w3.heap.size w3 w3.drew:=(Below.refl _ _).drew;have K4:=hid (KX.out.trans (KpX.of_below B34));have PB4:=hid (PB3.out.next B34);have S4:=hid (S3.out.next B34);have kt:=qa T3.out B34;have m14:=PB4.out.c14;clear B34 PB3 S3;go_upto_region 9 with (fail);generalize w3.drew=w4 at *;have PB5:=hid (PB4.out.next ((Below.refl _ w4).drew));have S5:=hid (S4.out.next ((Below.refl _ w4).drew));obtain⟨w5,hput,hS5,hG5⟩:=S5.out.put (i:=5) (s:=tx) FI.out HN.out
     have FIN:Hid (Qe w bs rb mb n (Pc.setField (Pc.setSeen c 5) 5 L,0) w5):=by
      have KK:=K4.out.trans ((KpX.of_below ((Below.refl _ w4).drew)).trans (KpX.of_gb (t:=mb) (X:=xn rb mb) (Or.inr rfl) hG5));refine⟨fun _=>⟨vs,D,(PV.out.more (Nat.le_succ n)).field ((PB5.out.grown hG5 (fun e=>PV.out.ne (inj e))).like rfl rfl rfl rfl rfl rfl rfl X1.out) (hS5.same rfl) KK rfl rfl rfl rfl rfl rfl⟩,yV KK⟩
     clear hS5 hG5 S4 S5 PB4 PB5
     go_region
     go_wp2
     go_ret2
     exact⟨by rw[RQ.out];rfl,by rw[RQ.out];exact FIN.out⟩
theorem Up(bs rb mb n:Nat)(c:Pc.PC)(vs:Fin 6→Value)(D:Six)(L:List Tk.T4)(g O cap:Nat)(w:World)(hp:PgV w bs rb mb n c vs D)(ht:TkAt w L (.slice (some ⟨g,O,none⟩) L.length cap))(hs:∀t∈ L,t.t.text.size≤9223372036854775807)(hl:0 < L.length)(hn:n≤100000)
 (h2:Pg.sh L [Pc.wNight,Pg.pC,Pc.wTo,Pg.pC]=true) :
 Calls Tryz.prog 88 #[.pointer (some ⟨rb,0,none⟩),.slice (some ⟨g,O,none⟩) L.length cap] w fun e w'=>e=.returned (.tuple #[.int .i64 (Pg.seenT c 6 L).2,.bool true])∧Qe w bs rb mb n (Pg.seenT c 6 L) w':=by
 have hcap:L.length≤cap:=by obtain⟨p',cap',e,h2,-⟩:=ht;injection e with e1 e2 e3;omega
 have hl0:(0:Int) < (L.length:Int):=by omega
 have hc1:(1:Int)≤(L.length:Int):=by omega
 have hc2:(L.length:Int)≤(cap:Int):=by omega
 obtain⟨t0,hq0⟩:∃t,L[0]?=some t:=⟨_,List.getElem?_eq_getElem hl⟩;obtain⟨g',O',e',k0,k1,k2,k3⟩:=TkAt.get ht hq0;cases e';have TX:Hid (Pc.tok L 0=t0.t):=uV hq0;rw[Nat.zero_mul,Nat.add_zero] at k0 k1 k2 k3;have PV:=hid hp;have HT:=hid ht;have HS:=hid hs;have HL:=hid hl;have HN:=hid hn;have NG:=hid (uU ht hl hp);clear hp ht hs hq0 hn;have h2l:L.length=4:=by have:=Pg.sh_len h2;simpa using this
 have hw:(Pc.tok L 0).text=Pc.wNight:=by
  have q:=h2;rw[Pg.sh_night] at q;simp only[Bool.and_eq_true] at q;exact(Pg.isW_kd q.2.1).2
 have N2:Hid (∀(W:World) (gb:Nat) (cp:Nat),Below w.heap.size w W→PtA W [Pc.wNight,Pg.pC,Pc.wTo,Pg.pC] gb 0→Calls Tryz.prog 91 #[.slice (some ⟨g,O,none⟩) L.length cap,.slice (some ⟨gb,0,none⟩) 4 cp] W fun e w'=>e=.returned (.bool true)∧Below W.heap.size W w'):=fun W gb cp hb hP=>by
  have q:=zo L _ cap [Pc.wNight,Pg.pC,Pc.wTo,Pg.pC] gb 0 cp W (HT.out.next hb) HS.out hP (by decide);rw[h2] at q;exact q
 have TK1:Hid (∀W,Below w.heap.size w W→W.cell? ⟨g,O+1 * 4+2,none⟩=some (.int .i64 (Pc.tok L 1).num)):=fun W hb=>(uW (HT.out.next hb) (show 1 < L.length by omega)).2.2;have TK3:Hid (∀W,Below w.heap.size w W→W.cell? ⟨g,O+3 * 4+2,none⟩=some (.int .i64 (Pc.tok L 3).num)):=fun W hb=>(uW (HT.out.next hb) (show 3 < L.length by omega)).2.2;have TK0:Hid (∀W,Below w.heap.size w W→W.cell? ⟨g,O+0 * 4+1,none⟩=some (.string (Pc.tok L 0).text)):=fun W hb=>(uW (HT.out.next hb) HL.out).2.1;have ix1:(1:Int) < (L.length:Int):=by omega
 have ix3:(3:Int) < (L.length:Int):=by omega
 clear h2 h2l;obtain⟨x1,hx1⟩:∃x,(Pc.tok L 1).num=x:=⟨_,rfl⟩;have X1:=hid hx1;rw[hx1] at TK1;obtain⟨x3,hx3⟩:∃x,(Pc.tok L 3).num=x:=⟨_,rfl⟩;have X3:=hid hx3;rw[hx3] at TK3;clear hx1 hx3;obtain⟨tx,htx⟩:∃z,t0.t.text=z:=⟨_,rfl⟩;have FI:Hid (Pc.fieldsL[6]?=some tx):=by unfold Hid;rw[← htx,← TX.out,hw];rfl
 have TG:Hid (uH rb tx=none):=by unfold Hid;rw[← htx,← TX.out,hw];rfl
 rw[TX.out,htx] at TK0;rw[htx] at k1;clear hw TX htx;go_enter Tryz.func88,Tryz.ntmps88;go_upto_region 3 with (go_at_call 132;refine(yL rb t0.t.kind tx t0.t.num t0.at' w).mono ?_;rw[TG.out];rintro e w1 ⟨rfl,hb⟩;have B1:=hid hb;clear hb k0 k1 k2 k3);go_wp2_with fail;refine(N2.out _ _ _ (B1.out.alloc B1.out.size _) (qT _ _ _ rfl _)).mono ?_;rintro e w2 ⟨rfl,hb⟩;have B2:=hid ((B1.out.alloc B1.out.size _).trans (hb.mono (by have:=B1.out.size;simp;omega)));clear hb;go_upto_region 6 with (fail);have P2:=hid (PV.out.next B2.out);have bc:=P2.out.box.c5;have bf:=P2.out.box.f5;have bd:=P2.out.box.c6;have be:=P2.out.box.f6;have ka:=TK1.out _ B2.out;have kb:=TK3.out _ B2.out;rw[show O+1 * 4+2=O+4+2 by omega] at ka;rw[show O+3 * 4+2=O+12+2 by omega] at kb;have ng:=NG.out;have ng2:¬rb=g:=fun e=>ng e.symm
 have tc:w2.cell? ⟨g,O+1,none⟩=some (.string tx):=by
  have q:=TK0.out _ B2.out;rw[show O+0 * 4+1=O+1 by omega] at q;exact q
 have st:∀(W:World) (k:Nat) (u:Value),W.cell? ⟨g,O+1,none⟩=some (.string tx)→(W.setCell ⟨rb,k,none⟩ u).cell? ⟨g,O+1,none⟩=some (.string tx):=fun W k u h=>by
  rw[World.cell?_of_block (a:=⟨g,O+1,none⟩) (Below.heap_setCell W ⟨rb,k,none⟩ u g NG.out)];exact h
 have DR:Below ((w2.setCell ⟨rb,5,none⟩ (.int .i64 x1)).setCell ⟨rb,6,none⟩ (.int .i64 x3)).heap.size ((w2.setCell ⟨rb,5,none⟩ (.int .i64 x1)).setCell ⟨rb,6,none⟩ (.int .i64 x3)) ((w2.setCell ⟨rb,5,none⟩ (.int .i64 x1)).setCell ⟨rb,6,none⟩ (.int .i64 x3)).drew:=(Below.refl _ _).drew;have PB3:Hid (PgB ((w2.setCell ⟨rb,5,none⟩ (.int .i64 x1)).setCell ⟨rb,6,none⟩ (.int .i64 x3)).drew rb mb { c with nf:=x1,nt:=x3 } vs):=((P2.out.box.set_nf x1).set_nt x3).next DR
 have KX:Hid (KpX (xn rb mb) w ((w2.setCell ⟨rb,5,none⟩ (.int .i64 x1)).setCell ⟨rb,6,none⟩ (.int .i64 x3)).drew):=(KpX.of_below B2.out).trans ((KpX.set (Or.inl rfl) _ _).trans ((KpX.set (Or.inl rfl) _ _).trans (KpX.of_below DR)));have S3:Hid (SgS ((w2.setCell ⟨rb,5,none⟩ (.int .i64 x1)).setCell ⟨rb,6,none⟩ (.int .i64 x3)).drew mb n c):=((P2.out.sn.set P2.out.ne).set P2.out.ne).next DR
 have T3:Hid (((w2.setCell ⟨rb,5,none⟩ (.int .i64 x1)).setCell ⟨rb,6,none⟩ (.int .i64 x3)).drew.cell? ⟨g,O+1,none⟩=some (.string tx)):=qa (st _ _ _ (st _ _ _ tc)) DR;clear tc st DR
 go_region
 clear bc bf bd be ka kb ng ng2;go_upto_region 7 with (fail);generalize ((w2.setCell ⟨rb,5,none⟩ (.int .i64 x1)).setCell ⟨rb,6,none⟩ (.int .i64 x3)).drew=w3 at *;cases hse:c.seen 6 with
 | true =>
   have LK:Hid (∀W,Below w3.heap.size w3 W→(Instr.lookup 76 (.map (some mb)) (.string tx) false).run Tryz.prog W=.ok (.bool true) W):=fun W hb=>by
    have q:=(S3.out.next hb).look (i:=6) (s:=tx) FI.out;rw[hse] at q;exact q
   have RQ:Hid (Pg.seenT c 6 L=(c,7)):=(by unfold Hid Pg.seenT;rw[if_pos hse]);have hlk:=LK.out w3 (Below.refl _ _);have hlk2:=LK.out w3.drew ((Below.refl _ _).drew);have m14:=PB3.out.c14;have kt:=T3.out;clear hse LK;go_upto_region 7 with (fail)
   go_region
   go_wp2
   go_ret2
   exact⟨by rw[RQ.out];rfl,zc (by rw[RQ.out];show(7:Int)≠0;decide) (yV (KX.out.trans (KpX.of_below ((Below.refl _ _).drew))))⟩
 | false =>
   have LK:Hid (∀W,Below w3.heap.size w3 W→(Instr.lookup 76 (.map (some mb)) (.string tx) false).run Tryz.prog W=.ok (.bool false) W):=fun W hb=>by
    have q:=(S3.out.next hb).look (i:=6) (s:=tx) FI.out;rw[hse] at q;exact q
   have RQ:Hid (Pg.seenT c 6 L=(Pc.setField (Pc.setSeen c 6) 6 L,0)):=(by unfold Hid Pg.seenT;rw[if_neg (by rw[hse];decide)]);have hlk:=LK.out w3 (Below.refl _ _);have hlk2:=LK.out w3.drew ((Below.refl _ _).drew);have m14:=PB3.out.c14;have kt:=T3.out;clear hse LK;go_upto_region 7 with (fail)
   go_region
   clear hlk hlk2 m14 kt;have B34:Below w3.heap.size w3 w3.drew:=(Below.refl _ _).drew;have K4:=hid (KX.out.trans (KpX.of_below B34));have PB4:=hid (PB3.out.next B34);have S4:=hid (S3.out.next B34);have kt:=qa T3.out B34;have m14:=PB4.out.c14;clear B34 PB3 S3;go_upto_region 9 with (fail);generalize w3.drew=w4 at *;have PB5:=hid (PB4.out.next ((Below.refl _ w4).drew));have S5:=hid (S4.out.next ((Below.refl _ w4).drew));obtain⟨w5,hput,hS5,hG5⟩:=S5.out.put (i:=6) (s:=tx) FI.out HN.out
   have FIN:Hid (Qe w bs rb mb n (Pc.setField (Pc.setSeen c 6) 6 L,0) w5):=by
    have KK:=K4.out.trans ((KpX.of_below ((Below.refl _ w4).drew)).trans (KpX.of_gb (t:=mb) (X:=xn rb mb) (Or.inr rfl) hG5));refine⟨fun _=>⟨vs,D,(PV.out.more (Nat.le_succ n)).field ((PB5.out.grown hG5 (fun e=>PV.out.ne (inj e))).like rfl rfl rfl rfl rfl X1.out X3.out rfl) (hS5.same rfl) KK rfl rfl rfl rfl rfl rfl⟩,yV KK⟩
   clear hS5 hG5 S4 S5 PB4 PB5
   go_region
   go_wp2
   go_ret2
   exact⟨by rw[RQ.out];rfl,by rw[RQ.out];exact FIN.out⟩
end Go.Proofs.YtcejjdmnlejbaaaGreatDoor
