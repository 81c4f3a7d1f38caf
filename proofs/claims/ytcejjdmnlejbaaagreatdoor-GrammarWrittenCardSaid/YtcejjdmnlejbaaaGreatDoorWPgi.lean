import Derived.Test.YtcejjdmnlejbaaaGreatDoorWPgs
namespace Go.Proofs.YtcejjdmnlejbaaaGreatDoor
open Option.some(inj)
open Lib(hid)
set_option linter.unusedVariables false
set_option linter.unusedSimpArgs false
open Go.ChangeShapes Go.WideShapes Go.ChangeAt Go.RowKit
open Go.Deep (BT)
set_option maxHeartbeats 8000000
set_option maxRecDepth 100000
def VG:List (Nat× Nat):=[(37,0),(38,1),(39,2),(40,3),(41,4),(42,5),(43,6),(44,7),(45,8),(46,9),(47,10),(48,11)]
def gnW(rb g O Ll cap nn cv B0:Nat)(pv:Option Addr)(t11:ByteArray)(tb:Nat)(x5:Ch)(i:Nat):Wl :=
 match i with
 | 0=>.eq (.pointer (some ⟨rb,0,none⟩))
 | 1=>.eq (.pointer (some ⟨rb,0,none⟩))
 | 2=>.eq (.pointer (some ⟨rb,0,none⟩))
 | 3=>.eq (.pointer (some ⟨rb,0,none⟩))
 | 4=>.eq (.pointer (some ⟨rb,7,none⟩))
 | 5=>.eq (.slice pv nn cv)
 | 6=>.eq (.agg #[.string t11,.int .i64 x5.a.op,.int .i64 x5.a.num,.string x5.a.name,.slice x5.a.ptr (len x5.k) x5.a.cap])
 | 7=>.row B0 [.string t11,.int .i64 x5.a.op,.int .i64 x5.a.num,.string x5.a.name,.slice x5.a.ptr (len x5.k) x5.a.cap]
 | 8=>.any
 | 9=>.eq (.pointer (some ⟨rb,0,none⟩))
 | 10=>.eq (.pointer (some ⟨rb,0,none⟩))
 | 11=>.eq (.pointer (some ⟨rb,7,none⟩))
 | _=>.any
def gnG(rb g O Ll cap nn cv B0:Nat)(pv:Option Addr)(t11:ByteArray)(tb:Nat)(x5:Ch)(i:Nat)(v:Value)(w:World):Prop:=(gnW rb g O Ll cap nn cv B0 pv t11 tb x5 i).ok v w
def goT:List (Nat× Nat):=[(76,0),(77,1),(78,2),(79,3),(80,4),(81,5),(82,6),(83,7),(84,8),(85,9),(86,10),(87,11),(88,12),(89,13),(90,14),(91,15),(92,16),(93,17),(94,18),(95,19),(96,20),(97,21),(98,22),(99,23)]
def goW(rb g O Ll cap nn cv B0:Nat)(pv:Option Addr)(t11:ByteArray)(t32:Int)(t52:Int)(i:Nat):Wl :=
 match i with
 | 0=>.eq (.pointer (some ⟨rb,0,none⟩))
 | 1=>.eq (.pointer (some ⟨rb,0,none⟩))
 | 2=>.eq (.pointer (some ⟨rb,0,none⟩))
 | 3=>.eq (.pointer (some ⟨rb,0,none⟩))
 | 4=>.eq (.pointer (some ⟨rb,12,none⟩))
 | 5=>.eq (.slice pv nn cv)
 | 6=>.eq (.slice (some ⟨g,O,none⟩) Ll cap)
 | 7=>.eq (.pointer (some ⟨g,O+1 * 4,none⟩))
 | 8=>.eq (.pointer (some ⟨g,O+1 * 4+1,none⟩))
 | 9=>.eq (.string t11)
 | 10=>.eq (.slice (some ⟨g,O,none⟩) Ll cap)
 | 11=>.eq (.pointer (some ⟨g,O+3 * 4,none⟩))
 | 12=>.eq (.pointer (some ⟨g,O+3 * 4+2,none⟩))
 | 13=>.eq (.int .i64 t32)
 | 14=>.eq (.slice (some ⟨g,O,none⟩) Ll cap)
 | 15=>.eq (.pointer (some ⟨g,O+5 * 4,none⟩))
 | 16=>.eq (.pointer (some ⟨g,O+5 * 4+2,none⟩))
 | 17=>.eq (.int .i64 t52)
 | 18=>.eq (.agg #[.string t11,.int .i64 t32,.int .i64 t52])
 | 19=>.row B0 [.string t11,.int .i64 t32,.int .i64 t52]
 | 20=>.any
 | 21=>.eq (.pointer (some ⟨rb,0,none⟩))
 | 22=>.eq (.pointer (some ⟨rb,0,none⟩))
 | 23=>.eq (.pointer (some ⟨rb,12,none⟩))
 | _=>.any
def goG(rb g O Ll cap nn cv B0:Nat)(pv:Option Addr)(t11:ByteArray)(t32:Int)(t52:Int)(i:Nat)(v:Value)(w:World):Prop:=(goW rb g O Ll cap nn cv B0 pv t11 t32 t52 i).ok v w
theorem Uf(c:Pc.PC)(L:List Tk.T4):(Pg.limQ c L).2=0∨(Pg.limQ c L).2=1:=by
 unfold Pg.limQ
 split
 ·exact .inr rfl
 ·split
  ·exact .inr rfl
  ·split
   ·exact .inl rfl
   ·exact .inr rfl
theorem Yj(c:Pc.PC)(L:List Tk.T4)(f:Ch→Pc.PC):(Pc.ifEx c L f).2=0∨(Pc.ifEx c L f).2=1:=by
 unfold Pc.ifEx
 split
 ·exact .inr rfl
 ·exact .inl rfl
theorem KS(c:Pc.PC)(L:List Tk.T4):(Pg.scoQ c L).2=0∨(Pg.scoQ c L).2=1:=by
 unfold Pg.scoQ
 split
 ·exact .inr rfl
 ·split
  ·exact Yj _ _ _
  ·split
   ·exact Yj _ _ _
   ·exact .inr rfl
theorem uS{w w1 w2:World}{bs rb mb n:Nat}{r:Pc.PC× Int}(hb:Below w.heap.size w w1)(h:Qe w1 bs rb mb n r w2):Qe w bs rb mb n r w2 :=
 ⟨h.1,fun m h1 h2 h3 h4=>(yp hb h4).trans (h.2 m h1 h2 h3 (Nat.le_trans h4 hb.size))⟩
def CrQ(w:World)(bs rb mb n:Nat)(c:Pc.PC)(vs:Fin 6→Value)(D:Six)(L:List Tk.T4)(ok:Bool)(tb:Nat)(wx:World):Prop:=∃x5:Ch,Below w.heap.size w wx∧
 (ok=true→Pz.nr x5=Pc.tree (L.drop 3)∧ExAt wx x5.b x5.o x5.a x5.k∧yN x5.a x5.k∧FoAv (fun g=>¬xn rb mb g∧∀j,(yf vs D j).v.ownBlock≠some g) x5.k x5.b)∧
 wx.cell? ⟨tb,0,none⟩=some (.int .i64 x5.a.op)∧wx.cell? ⟨tb,1,none⟩=some (.int .i64 x5.a.num)∧wx.cell? ⟨tb,2,none⟩=some (.string x5.a.name)∧wx.cell? ⟨tb,3,none⟩=some (.slice x5.a.ptr (len x5.k) x5.a.cap)∧tb < wx.heap.size
theorem xT{w w':World}{x:Ch}{tb s:Nat}(h:ExAt w x.b x.o x.a x.k)(ha:FoAv (fun g=>s≤g) x.k x.b)(hs:tb < s)(hk:KpX (fun g=>g=tb) w w'):ExAt w' x.b x.o x.a x.k :=
 ⟨h.1,h.2.keepX ((FoAv.lt h.2 ha).mono fun g q=>⟨fun e=>by have:=q.1;omega,q.2⟩) hk.keep⟩
theorem xK(bs rb mb n:Nat)(c:Pc.PC)(vs:Fin 6→Value)(D:Six)(L:List Tk.T4)(g O cap:Nat)(w:World)(hp:PgV w bs rb mb n c vs D)(ht:TkAt w L (.slice (some ⟨g,O,none⟩) L.length cap))(hV:∀t∈ L,VT t.t)(hs:∀t∈ L,t.t.text.size≤9223372036854775807)(hl:0 < L.length)(h40:L.length≤400)(hbs:bs≤w.heap.size)(hct:Pc.cnt c≤1000)
 (hn:n≤100000) :
 Calls Tryz.prog 38 #[.pointer (some ⟨rb,0,none⟩),.slice (some ⟨g,O,none⟩) L.length cap] w fun e w'=>e=.returned (.int .i64 (Pg.declQ c L).2)∧Qe w bs rb mb n (Pg.declQ c L) w':=by
 have hcap:L.length≤cap:=by obtain⟨p',cap',e,h2,-⟩:=ht;injection e with e1 e2 e3;omega
 have hl0:(0:Int) < (L.length:Int):=by omega
 have hc1:(1:Int)≤(L.length:Int):=by omega
 have hc2:(L.length:Int)≤(cap:Int):=by omega
 have PV:=hid hp;have HT:=hid ht;have HVV:=hid hV;have HS:=hid hs;have H40:=hid h40;have LB:Hid (rb < bs∧bs≤w.heap.size):=⟨hp.rows.lt rb (Or.inl rfl),hbs⟩;have CL:=hid (xW hp);have LC:=hid hct;have TK:Hid (∀i,i < L.length→∀W,Below w.heap.size w W→W.cell? ⟨g,O+i * 4,none⟩=some (.int .i64 (Pc.tok L i).kind)∧W.cell? ⟨g,O+i * 4+1,none⟩=some (.string (Pc.tok L i).text)∧W.cell? ⟨g,O+i * 4+2,none⟩=some (.int .i64 (Pc.tok L i).num)):=fun i hi W hb=>uW (HT.out.next hb) hi;clear hp ht hV hs h40 hbs hct;obtain⟨R,hR⟩:∃R,Pg.declQ c L=R:=⟨_,rfl⟩;rw[hR];have RD:=hR.symm;unfold Pg.declQ at RD;clear hR
 by_cases hA:Pg.tgt (Pc.tok L 0).text < 6∧Pg.sh (L.drop 1) [Pg.pT]=true
 case pos =>
  have RQ:Hid (R=Pg.seenT c (Pg.tgt (Pc.tok L 0).text) L):=by unfold Hid;rw[RD,if_pos hA]
  have FT:=hid (Uo bs rb mb n c vs D L g O cap w PV.out HT.out HS.out hl hn hA.1 hA.2);rw[← RQ.out] at FT;clear RD hA;go_enter Tryz.func38,Tryz.ntmps38;go_wp2_with fail;refine FT.out.mono ?_;rintro e w1 ⟨rfl,hd⟩;have HD:=hid hd;clear hd;go_wp2;go_ret;exact⟨rfl,HD.out⟩
 rw[if_neg hA] at RD;cases hN:Pg.sh L [Pc.wNight,Pg.pC,Pc.wTo,Pg.pC] with
 | true =>
   have RQ:Hid (R=Pg.seenT c 6 L):=(by unfold Hid;rw[RD,hN,if_pos rfl]);have FT:=hid (Up bs rb mb n c vs D L g O cap w PV.out HT.out HS.out hl hn hN);rw[← RQ.out] at FT;clear RD hA hN;go_enter Tryz.func38,Tryz.ntmps38;go_wp2_with fail;refine FT.out.mono ?_;rintro e w1 ⟨rfl,hd⟩;have HD:=hid hd;clear hd;go_wp2;go_ret;exact⟨rfl,HD.out⟩
 | false =>
   have FT:=hid (Ki bs rb mb n c vs D L g O cap w PV.out HT.out HS.out hl hn hA hN);rw[hN,if_neg (by decide)] at RD;have HRD:=hid RD
   have BG:Hid (∀(P:List ByteArray) (W:World) (gb cp:Nat) (b:Bool),Below w.heap.size w W→PtA W P gb 0→P.length≤1000→Pg.bg L P=b→Calls Tryz.prog 89 #[.slice (some ⟨g,O,none⟩) L.length cap,.slice (some ⟨gb,0,none⟩) P.length cp] W fun e w'=>e=.returned (.bool b)∧Below W.heap.size W w'):=fun P W gb cp b hb hP hl hq=>by
    have q:=kO L _ cap P gb 0 cp W (HT.out.next hb) HS.out hP hl;rw[hq] at q;exact q
   have SHP:Hid (∀(P:List ByteArray) (W:World) (gb cp:Nat) (b:Bool),Below w.heap.size w W→PtA W P gb 0→P.length≤1000→Pg.sh L P=b→Calls Tryz.prog 91 #[.slice (some ⟨g,O,none⟩) L.length cap,.slice (some ⟨gb,0,none⟩) P.length cp] W fun e w'=>e=.returned (.bool b)∧Below W.heap.size W w'):=fun P W gb cp b hb hP hl hq=>by
    have q:=zo L _ cap P gb 0 cp W (HT.out.next hb) HS.out hP hl;rw[hq] at q;exact q
   have HL:=hid hl;have HN:=hid hn;clear RD hA hN hn;go_enter Tryz.func38,Tryz.ntmps38;go_wp2_with fail;refine FT.out.mono ?_;rintro e w1 ⟨rfl,hb⟩;have B1:=hid hb;clear hb FT;go_wp2_with fail;cases hb1:Pg.bg L [Pc.wConst,Pg.pN,Pc.wIs] with
   | true =>
     have HLN:Hid (3≤L.length):=by
      have q:=hb1;unfold Pg.bg at q;rw[Bool.and_eq_true,decide_eq_true_eq] at q;have q1:=q.1;simp only[List.length_cons,List.length_nil] at q1;unfold Hid;omega
     obtain⟨ok,hok⟩:∃b,decide (kz (L.drop 3) < 0)=b:=⟨_,rfl⟩;have WX3:=hid (VC 3 HVV.out H40.out (fun W hb=>HT.out.next (w':=W) hb));rw[hok] at WX3
     have RQ:Hid (R=if ok=true then ({ c with cs:=c.cs++[((Pc.tok L 1).text,Pc.tree (L.drop 3))] },0) else (c,1)):=by
      unfold Hid;rw[HRD.out,hb1,if_pos rfl];exact xe hok
     have HB1:=hid hb1;clear hb1 hok;refine(BG.out [Pc.wConst,Pg.pN,Pc.wIs] _ _ _ _ (B1.out.alloc B1.out.size _) (qT _ _ _ rfl _) (by decide) HB1.out).mono ?_;rintro e w2 ⟨rfl,hb⟩;have B2:=hid ((B1.out.alloc B1.out.size _).trans (hb.mono (by have:=B1.out.size;simp;omega)));clear hb;rcases Classical.em (cap=3) with rfl|hcapn
     ·have WX:=WX3;rw[show L.length - 3=0 by have:=HLN.out;omega] at WX;clear WX3;have hcn:(3:Int)≤(L.length:Int):=(by have:=HLN.out;omega);have ix1:(1:Int) < (L.length:Int):=(by have:=HLN.out;omega);have IX1:Hid (1 < L.length):=(by have:=HLN.out;unfold Hid;omega);have TK11:Hid (∀wq,Below w.heap.size w wq→wq.cell? ⟨g,O+1 * 4+1,none⟩=some (.string (Pc.tok L 1).text)):=fun wq hb=>(TK.out 1 IX1.out wq hb).2.1;have NS11:Hid ((Pc.tok L 1).text.size≤9223372036854775807):=jH HS.out 1;obtain⟨t11,ht11⟩:∃z,(Pc.tok L 1).text=z:=⟨_,rfl⟩;rw[ht11] at TK11 NS11 RQ;have LD:Hid (D.cs.length≤1000):=(by have:=CL.out;have:=LC.out;unfold Hid;omega);have kt:=TK11.out _ B2.out;rw[show O+1 * 4+1=O+4+1 by omega] at kt;go_upto_region 8 with (fail);have BA:=hid (B2.out.alloc B2.out.size (.cells #[.string t11,.int .i64 0,.int .i64 0,.string ⟨#[]⟩,.slice none 0 0] 85));have HA:w2.heap.size < (w2.alloc (.cells #[.string t11,.int .i64 0,.int .i64 0,.string ⟨#[]⟩,.slice none 0 0] 85)).heap.size:=(by simp);have a0:(w2.alloc (.cells #[.string t11,.int .i64 0,.int .i64 0,.string ⟨#[]⟩,.slice none 0 0] 85)).cell? ⟨w2.heap.size,0,none⟩=some (.string t11):=(by simp[go_sem]);have a1:(w2.alloc (.cells #[.string t11,.int .i64 0,.int .i64 0,.string ⟨#[]⟩,.slice none 0 0] 85)).cell? ⟨w2.heap.size,1,none⟩=some (.int .i64 0):=(by simp[go_sem]);have a2:(w2.alloc (.cells #[.string t11,.int .i64 0,.int .i64 0,.string ⟨#[]⟩,.slice none 0 0] 85)).cell? ⟨w2.heap.size,2,none⟩=some (.int .i64 0):=(by simp[go_sem]);have a3:(w2.alloc (.cells #[.string t11,.int .i64 0,.int .i64 0,.string ⟨#[]⟩,.slice none 0 0] 85)).cell? ⟨w2.heap.size,3,none⟩=some (.string ⟨#[]⟩):=(by simp[go_sem]);have a4:(w2.alloc (.cells #[.string t11,.int .i64 0,.int .i64 0,.string ⟨#[]⟩,.slice none 0 0] 85)).cell? ⟨w2.heap.size,4,none⟩=some (.slice none 0 0):=(by simp[go_sem]);have g1:(w2.alloc (.cells #[.string t11,.int .i64 0,.int .i64 0,.string ⟨#[]⟩,.slice none 0 0] 85)).frozen? ⟨w2.heap.size,1,none⟩=false:=(by simp[go_sem]);have g2:(w2.alloc (.cells #[.string t11,.int .i64 0,.int .i64 0,.string ⟨#[]⟩,.slice none 0 0] 85)).frozen? ⟨w2.heap.size,2,none⟩=false:=(by simp[go_sem]);have g3:(w2.alloc (.cells #[.string t11,.int .i64 0,.int .i64 0,.string ⟨#[]⟩,.slice none 0 0] 85)).frozen? ⟨w2.heap.size,3,none⟩=false:=(by simp[go_sem]);have g4:(w2.alloc (.cells #[.string t11,.int .i64 0,.int .i64 0,.string ⟨#[]⟩,.slice none 0 0] 85)).frozen? ⟨w2.heap.size,4,none⟩=false:=(by simp[go_sem]);have TBG:Hid (w.heap.size≤w2.heap.size):=B2.out.size;clear kt;generalize w2.alloc (.cells #[.string t11,.int .i64 0,.int .i64 0,.string ⟨#[]⟩,.slice none 0 0] 85)=w3 at *;generalize w2.heap.size=tb at *;go_wp2_with fail;refine(WX.out _ _ _ BA.out (by first|exact .inl rfl|exact .inr (by omega))).mono ?_;rintro e w5 ⟨x5,rfl,hb5,hx5⟩;have B5:=hid (bt9 BA hb5);have X5:=hid hx5;have A5:=hid (fun h=>(PV.out.next BA.out).av (hx5 h).2.2.1);have b0:=qa a0 hb5;have b1:=qa a1 hb5;have b2:=qa a2 hb5;have b3:=qa a3 hb5;have b4:=qa a4 hb5;have f1:=(hb5.frozen (p:=⟨tb,1,none⟩) HA).trans g1;have f2:=(hb5.frozen (p:=⟨tb,2,none⟩) HA).trans g2;have f3:=(hb5.frozen (p:=⟨tb,3,none⟩) HA).trans g3;have f4:=(hb5.frozen (p:=⟨tb,4,none⟩) HA).trans g4;have K6:Hid (KpX (fun g=>g=tb) w5 ((((w5.setCell ⟨tb,1,none⟩ (.int .i64 x5.a.op)).setCell ⟨tb,2,none⟩ (.int .i64 x5.a.num)).setCell ⟨tb,3,none⟩ (.string x5.a.name)).setCell ⟨tb,4,none⟩ (.slice x5.a.ptr (len x5.k) x5.a.cap))):=KpX.trans (KpX.set (X:=fun g=>g=tb) (t:=tb) rfl 1 _) (KpX.trans (KpX.set (X:=fun g=>g=tb) (t:=tb) rfl 2 _) (KpX.trans (KpX.set (X:=fun g=>g=tb) (t:=tb) rfl 3 _) (KpX.set (X:=fun g=>g=tb) (t:=tb) rfl 4 _)));have B6:Hid (Below w.heap.size w ((((w5.setCell ⟨tb,1,none⟩ (.int .i64 x5.a.op)).setCell ⟨tb,2,none⟩ (.int .i64 x5.a.num)).setCell ⟨tb,3,none⟩ (.string x5.a.name)).setCell ⟨tb,4,none⟩ (.slice x5.a.ptr (len x5.k) x5.a.cap))):=(((B5.out.setCell (p:=⟨tb,1,none⟩) TBG.out _).setCell (p:=⟨tb,2,none⟩) TBG.out _).setCell (p:=⟨tb,3,none⟩) TBG.out _).setCell (p:=⟨tb,4,none⟩) TBG.out _;have X6:Hid (ok=true→Pz.nr x5=Pc.tree (L.drop 3)∧ExAt ((((w5.setCell ⟨tb,1,none⟩ (.int .i64 x5.a.op)).setCell ⟨tb,2,none⟩ (.int .i64 x5.a.num)).setCell ⟨tb,3,none⟩ (.string x5.a.name)).setCell ⟨tb,4,none⟩ (.slice x5.a.ptr (len x5.k) x5.a.cap)) x5.b x5.o x5.a x5.k∧yN x5.a x5.k):=fun h=>⟨(X5.out h).1,xT (X5.out h).2.1 (X5.out h).2.2.1 HA K6.out,(X5.out h).2.2.2⟩;have c0:((((w5.setCell ⟨tb,1,none⟩ (.int .i64 x5.a.op)).setCell ⟨tb,2,none⟩ (.int .i64 x5.a.num)).setCell ⟨tb,3,none⟩ (.string x5.a.name)).setCell ⟨tb,4,none⟩ (.slice x5.a.ptr (len x5.k) x5.a.cap)).cell? ⟨tb,0,none⟩=some (.string t11):=(by simp[go_sem,b0]);have c1:((((w5.setCell ⟨tb,1,none⟩ (.int .i64 x5.a.op)).setCell ⟨tb,2,none⟩ (.int .i64 x5.a.num)).setCell ⟨tb,3,none⟩ (.string x5.a.name)).setCell ⟨tb,4,none⟩ (.slice x5.a.ptr (len x5.k) x5.a.cap)).cell? ⟨tb,1,none⟩=some (.int .i64 x5.a.op):=(by simp[go_sem,b1]);have c2:((((w5.setCell ⟨tb,1,none⟩ (.int .i64 x5.a.op)).setCell ⟨tb,2,none⟩ (.int .i64 x5.a.num)).setCell ⟨tb,3,none⟩ (.string x5.a.name)).setCell ⟨tb,4,none⟩ (.slice x5.a.ptr (len x5.k) x5.a.cap)).cell? ⟨tb,2,none⟩=some (.int .i64 x5.a.num):=(by simp[go_sem,b2]);have c3:((((w5.setCell ⟨tb,1,none⟩ (.int .i64 x5.a.op)).setCell ⟨tb,2,none⟩ (.int .i64 x5.a.num)).setCell ⟨tb,3,none⟩ (.string x5.a.name)).setCell ⟨tb,4,none⟩ (.slice x5.a.ptr (len x5.k) x5.a.cap)).cell? ⟨tb,3,none⟩=some (.string x5.a.name):=(by simp[go_sem,b3]);have c4:((((w5.setCell ⟨tb,1,none⟩ (.int .i64 x5.a.op)).setCell ⟨tb,2,none⟩ (.int .i64 x5.a.num)).setCell ⟨tb,3,none⟩ (.string x5.a.name)).setCell ⟨tb,4,none⟩ (.slice x5.a.ptr (len x5.k) x5.a.cap)).cell? ⟨tb,4,none⟩=some (.slice x5.a.ptr (len x5.k) x5.a.cap):=(by simp[go_sem,b4]);have ix31:((0:Nat):Int)≤0:=(by omega);clear hb5 hx5 a0 a1 a2 a3 a4 g1 g2 g3 g4 b0 X5 K6;go_upto_region 9 with (fail);clear b1 b2 b3 b4 f1 f2 f3 f4;generalize ((((w5.setCell ⟨tb,1,none⟩ (.int .i64 x5.a.op)).setCell ⟨tb,2,none⟩ (.int .i64 x5.a.num)).setCell ⟨tb,3,none⟩ (.string x5.a.name)).setCell ⟨tb,4,none⟩ (.slice x5.a.ptr (len x5.k) x5.a.cap))=w6 at *
      have XE:Hid (∀wq,Ext w6.drew wq→wq.cell? ⟨tb,0,none⟩=some (.string t11)∧wq.cell? ⟨tb,1,none⟩=some (.int .i64 x5.a.op)∧wq.cell? ⟨tb,2,none⟩=some (.int .i64 x5.a.num)∧wq.cell? ⟨tb,3,none⟩=some (.string x5.a.name)∧wq.cell? ⟨tb,4,none⟩=some (.slice x5.a.ptr (len x5.k) x5.a.cap)):=fun wq hq=>(by
       have hb:Below w6.heap.size w6 wq:=((Below.refl _ _).drew).trans (Below.mono hq (by simp));exact⟨qa c0 hb,qa c1 hb,qa c2 hb,qa c3 hb,qa c4 hb⟩)
      clear c0 c1 c2 c3 c4;obtain⟨ir,hir,hir0,hir1,hir2⟩:=info_parts Tryz.infoCnP;have P6:=hid (PV.out.next B6.out);obtain⟨pv,cv,hv⟩:∃pv cv,vs 0=.slice pv D.cs.length cv:=yt (P6.out.rows.ow 0);have HV:=hid hv;clear hv;have EX:Hid (∀wq,Ext w6.drew wq→Below w.heap.size w wq):=fun wq hq=>(B6.out.drew).trans (Below.mono hq (by have:=B6.out.size;simpa using this));have PX:Hid (∀wq,Ext w6.drew wq→PgV wq bs rb mb n c vs D):=fun wq hq=>PV.out.next (EX.out wq hq)
      have EXN:Hid (∀wq,Ext w6.drew wq→Below w6.heap.size w6 wq):=fun wq hq=>((Below.refl _ _).drew).trans (Below.mono hq (by simp));have HB0:Hid (w6.heap.size≤w6.drew.heap.size):=(by unfold Hid;simp);have OB:Hid (bs≤w6.heap.size∧rb < bs):=⟨Nat.le_trans LB.out.2 B6.out.size,LB.out.1⟩;have CB:Hid (∀wq,Ext w6.drew wq→wq.cell? ⟨rb,7,none⟩=some (.slice pv D.cs.length cv)):=fun wq hq=>by rw[← HV.out];exact(PX.out wq hq).box.c7
      refine zp VG (gnG rb g O L.length 3 D.cs.length cv w6.heap.size pv t11 tb x5) 8 12 (fun x w1 w'=>∃pn cn,x 45=.slice pn (D.cs.length+1) cn∧w'.ownsRow bs 85 5 (.slice pn (D.cs.length+1) cn) (D.cs.length+1) (D.cs.flatMap j4++j4 ⟨t11,x5.b,x5.o,x5.a,x5.k⟩)∧w1.grownBy w' (vs 0).ownBlock∧((Value.slice pn (D.cs.length+1) cn).ownBlock=(vs 0).ownBlock∨(Value.slice pn (D.cs.length+1) cn).ownBlock=some w1.heap.size)) (fun x w1 w'=>∃pn cn we,w'=we.setCell ⟨rb,7,none⟩ (.slice pn (D.cs.length+1) cn)∧we.ownsRow bs 85 5 (.slice pn (D.cs.length+1) cn) (D.cs.length+1) (D.cs.flatMap j4++j4 ⟨t11,x5.b,x5.o,x5.a,x5.k⟩)∧w1.grownBy we (vs 0).ownBlock∧((Value.slice pn (D.cs.length+1) cn).ownBlock=(vs 0).ownBlock∨(Value.slice pn (D.cs.length+1) cn).ownBlock=some w1.heap.size)) (by kernel_rfl) (by kernel_rfl) (fun i v w w' h he=>Wl.ext h he) (fun i=>decide (i≠0∧i≠9∧i≠10∧i≠11∧i < 8)) (by kernel_rfl) (by kernel_rfl) (by decide) ?hst ?hpu ?hla ?hyo ?hfin
      case hst =>
       intro i o ho hz hy
       match i,ho with
       | 0,ho=>exact yl ho fun a w3 hx qz qb=>⟨rfl,_,run_move (.tmp 0) (.pointer (some ⟨rb,0,none⟩)) (qz 0 rfl),rfl⟩
       | 1,ho=>exact yl ho fun a w3 hx qz qb=>⟨rfl,_,run_move (.tmp 0) (.pointer (some ⟨rb,0,none⟩)) (qz 0 rfl),rfl⟩
       | 2,ho=>exact yl ho fun a w3 hx qz qb=>⟨rfl,_,qZ (.tmp 38) ⟨rb,0,none⟩ (qb 38 1 rfl rfl),rfl⟩
       | 3,ho=>exact yl ho fun a w3 hx qz qb=>⟨rfl,_,ya (.tmp 39) rb (qb 39 2 rfl rfl),rfl⟩
       | 4,ho=>exact yl ho fun a w3 hx qz qb=>⟨rfl,_,yc (.tmp 40) rb 7 (by decide) (qb 40 3 rfl rfl),rfl⟩
       | 5,ho=>exact yl ho fun a w3 hx qz qb=>⟨rfl,_,vD (.tmp 41) ⟨rb,7,none⟩ _ (qb 41 4 rfl rfl) (CB.out w3 hx),rfl⟩
       | 6,ho=>exact yl ho fun a w3 hx qz qb=>⟨rfl,_,Y8 (.tmp 8) tb _ _ _ _ _ (qz 8 rfl) (XE.out w3 hx).1 (XE.out w3 hx).2.1 (XE.out w3 hx).2.2.1 (XE.out w3 hx).2.2.2.1 (XE.out w3 hx).2.2.2.2,rfl⟩
       | 7,ho=>obtain rfl:=inj ho;intro a w3 hx qz qb yn;have hz:=(hx.size:(w6.drew).heap.size≤w3.heap.size);exact⟨rfl,jI (vC (.tmp 43) (.string t11) (.int .i64 x5.a.op) (.int .i64 x5.a.num) (.string x5.a.name) (.slice x5.a.ptr (len x5.k) x5.a.cap) (qb 43 6 rfl rfl)) (Ext.alloc _ _) (xL w3 w6.heap.size (Nat.le_trans HB0.out hz) (.string t11) (.int .i64 x5.a.op) (.int .i64 x5.a.num) (.string x5.a.name) (.slice x5.a.ptr (len x5.k) x5.a.cap) _)⟩
       | 8,ho=>exact absurd rfl hz
       | 9,ho=>exact yl ho fun a w3 hx qz qb=>⟨rfl,_,qZ (.tmp 37) ⟨rb,0,none⟩ (qb 37 0 rfl rfl),rfl⟩
       | 10,ho=>exact yl ho fun a w3 hx qz qb=>⟨rfl,_,ya (.tmp 46) rb (qb 46 9 rfl rfl),rfl⟩
       | 11,ho=>exact yl ho fun a w3 hx qz qb=>⟨rfl,_,yc (.tmp 47) rb 7 (by decide) (qb 47 10 rfl rfl),rfl⟩
       | 12,ho=>exact absurd rfl hy
       | i+13,ho=>cases ho
      case hpu =>
       intro i o ho hz hy
       match i,ho with
       | 0,ho=>obtain rfl:=inj ho;refine .inr ?_;intro a w1 w3 hx ym qz qb yn hf;exact⟨rfl,qo (run_move (.tmp 0) (.pointer (some ⟨rb,0,none⟩)) (qz 0 rfl)) ⟨_,rfl,rfl,fun _=>rfl,kA (by decide) hf⟩⟩
       | 1,ho=>exact .inl rfl
       | 2,ho=>exact .inl rfl
       | 3,ho=>exact .inl rfl
       | 4,ho=>exact .inl rfl
       | 5,ho=>exact .inl rfl
       | 6,ho=>exact .inl rfl
       | 7,ho=>exact .inl rfl
       | 8,ho=>exact absurd rfl hz
       | 9,ho=>obtain rfl:=inj ho;refine .inr ?_;intro a w1 w3 hx ym qz qb yn hf;exact⟨rfl,qo (qZ (.tmp 37) ⟨rb,0,none⟩ (qb 37 0 rfl rfl)) ⟨_,rfl,rfl,fun _=>rfl,kA (by decide) hf⟩⟩
       | 10,ho=>obtain rfl:=inj ho;refine .inr ?_;intro a w1 w3 hx ym qz qb yn hf;exact⟨rfl,qo (ya (.tmp 46) rb (qb 46 9 rfl rfl)) ⟨_,rfl,rfl,fun _=>rfl,kA (by decide) hf⟩⟩
       | 11,ho=>obtain rfl:=inj ho;refine .inr ?_;intro a w1 w3 hx ym qz qb yn hf;exact⟨rfl,qo (yc (.tmp 47) rb 7 (by decide) (qb 47 10 rfl rfl)) ⟨_,rfl,rfl,fun _=>rfl,kA (by decide) hf⟩⟩
       | 12,ho=>exact absurd rfl hy
       | i+13,ho=>cases ho
      case hla =>
       intro o ho;obtain rfl:=inj ho;intro a w3 hx ym qz qb yn;obtain⟨b,h1,h2,h3,h4⟩:=(qb 44 7 rfl rfl:(Wl.row w6.heap.size (j4 ⟨t11,x5.b,x5.o,x5.a,x5.k⟩)).ok (a.tmps.getD 44 undef) w3);have h5:a.tmps.getD 42 undef=.slice pv D.cs.length cv:=qb 42 5 rfl rfl;have PQ:=PX.out w3 hx;have OW:w3.ownsRow bs 85 5 (.slice pv D.cs.length cv) D.cs.length (D.cs.flatMap j4):=(by have q:=PQ.rows.ow 0;rw[← HV.out];exact q);refine⟨rfl,?_⟩;refine yJ w3 rfl (.tmp 42) (.tmp 44) 37 rfl bs 85 ir (.agg #[.string ⟨#[]⟩,.int .i64 0,.int .i64 0,.string ⟨#[]⟩,.slice none 0 0]) 5 72 Tryz.underlying37 hir hir0 hir1 hir2 rfl (by decide) (.slice pv D.cs.length cv) D.cs.length (D.cs.flatMap j4) h5 OW ⟨b,0,none⟩ 1 1 (j4 ⟨t11,x5.b,x5.o,x5.a,x5.k⟩) h1 rfl (fun j u hj=>by have q:=h4 j u hj;by_cases e:j=0;(subst e;simpa [Addr.add] using q);simpa [Addr.add,e] using q) (Yh _) (by have:=LD.out;unfold maxLen;omega) (by have:=LD.out;omega) (by have q1:=OB.out;have q2:w6.drew.heap.size≤w3.heap.size:=hx.size;have q3:=HB0.out;omega) ?_;intro v' w' qi qk hob;obtain⟨pn,cn,hvn⟩:=yt qi;subst hvn;refine⟨_,rfl,fun _=>trivial,pn,cn,?_,qi,by rw[HV.out];exact qk,by rw[HV.out];exact hob⟩
       show(a.put (some 45) _).tmps.getD 45 undef=_
       rw[yM,if_pos ⟨rfl,by rw[ym];exact(show(45:Nat) < 109 from by decide)⟩]
      case hyo =>
       intro o ho;obtain rfl:=inj ho;intro a w1 w3 hx ym qz qb yn hf;obtain⟨pn,cn,h1,qi,qk,hob⟩:=hf;have h2:a.tmps.getD 48 undef=.pointer (some ⟨rb,7,none⟩):=qb 48 11 rfl rfl;have PQ:=PX.out w1 hx;have GB:=PQ.box.grown qk (by rw[HV.out];exact fun e'=>by have q:=((PQ.rows.ow 0).lt rb (by show(vs 0).ownBlock=_;rw[HV.out];exact e'.symm)).1;have:=OB.out;omega);exact⟨rfl,zD (vB (.tmp 48) (.tmp 45) ⟨rb,7,none⟩ pn _ cn _ h2 h1 GB.c7 GB.f7) ⟨undef,rfl,fun h=>absurd h (by decide),pn,cn,w3,rfl,qi,qk,hob⟩⟩
      case hfin =>
       rintro x w1 w9 h1 h2 ⟨pn,cn,we,rfl,qi,qk,hob⟩
       have APP:Hid (ok=true→PgV (we.setCell ⟨rb,7,none⟩ (.slice pn (D.cs.length+1) cn)) bs rb mb n { c with cs:=c.cs++[(t11,Pc.tree (L.drop 3))] } (qU vs 0 (.slice pn (D.cs.length+1) cn)) { D with cs:=D.cs++[⟨t11,x5.b,x5.o,x5.a,x5.k⟩] }):=fun hcd=>by
        have q:=PgV.app0 (PX.out w1 h1) ⟨t11,x5.b,x5.o,x5.a,x5.k⟩ ((X6.out hcd).2.1.next (EXN.out w1 h1)) (A5.out hcd) (⟨(X6.out hcd).2.2,NS11.out⟩) qi qk hob;rw[show Pz.nr (jd ⟨t11,x5.b,x5.o,x5.a,x5.k⟩)=Pc.tree (L.drop 3) from(X6.out hcd).1] at q;exact q
       have BEL:Hid (∀m,m≤rb→m≤mb→m≤bs→m≤w.heap.size→Below m w (we.setCell ⟨rb,7,none⟩ (.slice pn (D.cs.length+1) cn))):=(fun m q1 _ q2 q3=>zd (yp (EX.out w1 h1) q3) q3 qk (fun g' e'=>Nat.le_trans q2 (((PX.out w1 h1).rows.ow 0).lt g' e').1) q1 _ _);clear h1 h2 qi qk hob;generalize we.setCell ⟨rb,7,none⟩ (.slice pn (D.cs.length+1) cn)=w9 at *;dsimp only[frameT,VG,List.foldl];generalize x 37=q37;generalize x 38=q38;generalize x 39=q39;generalize x 40=q40;generalize x 41=q41;generalize x 42=q42;generalize x 43=q43;generalize x 44=q44;generalize x 45=q45;generalize x 46=q46;generalize x 47=q47;generalize x 48=q48;clear x;go_simp;have DG:=hid (kM RQ.out APP.out BEL.out);have RE:R.2=if ok=true then 0 else 1:=(by rw[RQ.out];cases ok<;>rfl)
       cases ok with
       | false =>
         have RE2:Hid (R.2=1):=RE;clear RE RQ;go_wp2_with fail;go_ret;exact⟨by rw[RE2.out];rfl,DG.out⟩
       | true =>
         have RE2:Hid (R.2=0):=RE;clear RE RQ;go_wp2_with fail;go_ret;exact⟨by rw[RE2.out];rfl,DG.out⟩
     ·have WX:=WX3;clear WX3;have hcn:(3:Int)≤(L.length:Int):=(by have:=HLN.out;omega);have ix1:(1:Int) < (L.length:Int):=(by have:=HLN.out;omega);have IX1:Hid (1 < L.length):=(by have:=HLN.out;unfold Hid;omega);have TK11:Hid (∀wq,Below w.heap.size w wq→wq.cell? ⟨g,O+1 * 4+1,none⟩=some (.string (Pc.tok L 1).text)):=fun wq hb=>(TK.out 1 IX1.out wq hb).2.1;have NS11:Hid ((Pc.tok L 1).text.size≤9223372036854775807):=jH HS.out 1;obtain⟨t11,ht11⟩:∃z,(Pc.tok L 1).text=z:=⟨_,rfl⟩;rw[ht11] at TK11 NS11 RQ;have LD:Hid (D.cs.length≤1000):=(by have:=CL.out;have:=LC.out;unfold Hid;omega);have kt:=TK11.out _ B2.out;rw[show O+1 * 4+1=O+4+1 by omega] at kt;go_upto_region 8 with (fail);have BA:=hid (B2.out.alloc B2.out.size (.cells #[.string t11,.int .i64 0,.int .i64 0,.string ⟨#[]⟩,.slice none 0 0] 85));have HA:w2.heap.size < (w2.alloc (.cells #[.string t11,.int .i64 0,.int .i64 0,.string ⟨#[]⟩,.slice none 0 0] 85)).heap.size:=(by simp);have a0:(w2.alloc (.cells #[.string t11,.int .i64 0,.int .i64 0,.string ⟨#[]⟩,.slice none 0 0] 85)).cell? ⟨w2.heap.size,0,none⟩=some (.string t11):=(by simp[go_sem]);have a1:(w2.alloc (.cells #[.string t11,.int .i64 0,.int .i64 0,.string ⟨#[]⟩,.slice none 0 0] 85)).cell? ⟨w2.heap.size,1,none⟩=some (.int .i64 0):=(by simp[go_sem]);have a2:(w2.alloc (.cells #[.string t11,.int .i64 0,.int .i64 0,.string ⟨#[]⟩,.slice none 0 0] 85)).cell? ⟨w2.heap.size,2,none⟩=some (.int .i64 0):=(by simp[go_sem]);have a3:(w2.alloc (.cells #[.string t11,.int .i64 0,.int .i64 0,.string ⟨#[]⟩,.slice none 0 0] 85)).cell? ⟨w2.heap.size,3,none⟩=some (.string ⟨#[]⟩):=(by simp[go_sem]);have a4:(w2.alloc (.cells #[.string t11,.int .i64 0,.int .i64 0,.string ⟨#[]⟩,.slice none 0 0] 85)).cell? ⟨w2.heap.size,4,none⟩=some (.slice none 0 0):=(by simp[go_sem]);have g1:(w2.alloc (.cells #[.string t11,.int .i64 0,.int .i64 0,.string ⟨#[]⟩,.slice none 0 0] 85)).frozen? ⟨w2.heap.size,1,none⟩=false:=(by simp[go_sem]);have g2:(w2.alloc (.cells #[.string t11,.int .i64 0,.int .i64 0,.string ⟨#[]⟩,.slice none 0 0] 85)).frozen? ⟨w2.heap.size,2,none⟩=false:=(by simp[go_sem]);have g3:(w2.alloc (.cells #[.string t11,.int .i64 0,.int .i64 0,.string ⟨#[]⟩,.slice none 0 0] 85)).frozen? ⟨w2.heap.size,3,none⟩=false:=(by simp[go_sem]);have g4:(w2.alloc (.cells #[.string t11,.int .i64 0,.int .i64 0,.string ⟨#[]⟩,.slice none 0 0] 85)).frozen? ⟨w2.heap.size,4,none⟩=false:=(by simp[go_sem]);have TBG:Hid (w.heap.size≤w2.heap.size):=B2.out.size;clear kt;generalize w2.alloc (.cells #[.string t11,.int .i64 0,.int .i64 0,.string ⟨#[]⟩,.slice none 0 0] 85)=w3 at *;generalize w2.heap.size=tb at *;go_wp2_with fail;refine(WX.out _ _ _ BA.out (by first|exact .inl rfl|exact .inr (by omega))).mono ?_;rintro e w5 ⟨x5,rfl,hb5,hx5⟩;have B5:=hid (bt9 BA hb5);have X5:=hid hx5;have A5:=hid (fun h=>(PV.out.next BA.out).av (hx5 h).2.2.1);have b0:=qa a0 hb5;have b1:=qa a1 hb5;have b2:=qa a2 hb5;have b3:=qa a3 hb5;have b4:=qa a4 hb5;have f1:=(hb5.frozen (p:=⟨tb,1,none⟩) HA).trans g1;have f2:=(hb5.frozen (p:=⟨tb,2,none⟩) HA).trans g2;have f3:=(hb5.frozen (p:=⟨tb,3,none⟩) HA).trans g3;have f4:=(hb5.frozen (p:=⟨tb,4,none⟩) HA).trans g4;have K6:Hid (KpX (fun g=>g=tb) w5 ((((w5.setCell ⟨tb,1,none⟩ (.int .i64 x5.a.op)).setCell ⟨tb,2,none⟩ (.int .i64 x5.a.num)).setCell ⟨tb,3,none⟩ (.string x5.a.name)).setCell ⟨tb,4,none⟩ (.slice x5.a.ptr (len x5.k) x5.a.cap))):=KpX.trans (KpX.set (X:=fun g=>g=tb) (t:=tb) rfl 1 _) (KpX.trans (KpX.set (X:=fun g=>g=tb) (t:=tb) rfl 2 _) (KpX.trans (KpX.set (X:=fun g=>g=tb) (t:=tb) rfl 3 _) (KpX.set (X:=fun g=>g=tb) (t:=tb) rfl 4 _)));have B6:Hid (Below w.heap.size w ((((w5.setCell ⟨tb,1,none⟩ (.int .i64 x5.a.op)).setCell ⟨tb,2,none⟩ (.int .i64 x5.a.num)).setCell ⟨tb,3,none⟩ (.string x5.a.name)).setCell ⟨tb,4,none⟩ (.slice x5.a.ptr (len x5.k) x5.a.cap))):=(((B5.out.setCell (p:=⟨tb,1,none⟩) TBG.out _).setCell (p:=⟨tb,2,none⟩) TBG.out _).setCell (p:=⟨tb,3,none⟩) TBG.out _).setCell (p:=⟨tb,4,none⟩) TBG.out _;have X6:Hid (ok=true→Pz.nr x5=Pc.tree (L.drop 3)∧ExAt ((((w5.setCell ⟨tb,1,none⟩ (.int .i64 x5.a.op)).setCell ⟨tb,2,none⟩ (.int .i64 x5.a.num)).setCell ⟨tb,3,none⟩ (.string x5.a.name)).setCell ⟨tb,4,none⟩ (.slice x5.a.ptr (len x5.k) x5.a.cap)) x5.b x5.o x5.a x5.k∧yN x5.a x5.k):=fun h=>⟨(X5.out h).1,xT (X5.out h).2.1 (X5.out h).2.2.1 HA K6.out,(X5.out h).2.2.2⟩;have c0:((((w5.setCell ⟨tb,1,none⟩ (.int .i64 x5.a.op)).setCell ⟨tb,2,none⟩ (.int .i64 x5.a.num)).setCell ⟨tb,3,none⟩ (.string x5.a.name)).setCell ⟨tb,4,none⟩ (.slice x5.a.ptr (len x5.k) x5.a.cap)).cell? ⟨tb,0,none⟩=some (.string t11):=(by simp[go_sem,b0]);have c1:((((w5.setCell ⟨tb,1,none⟩ (.int .i64 x5.a.op)).setCell ⟨tb,2,none⟩ (.int .i64 x5.a.num)).setCell ⟨tb,3,none⟩ (.string x5.a.name)).setCell ⟨tb,4,none⟩ (.slice x5.a.ptr (len x5.k) x5.a.cap)).cell? ⟨tb,1,none⟩=some (.int .i64 x5.a.op):=(by simp[go_sem,b1]);have c2:((((w5.setCell ⟨tb,1,none⟩ (.int .i64 x5.a.op)).setCell ⟨tb,2,none⟩ (.int .i64 x5.a.num)).setCell ⟨tb,3,none⟩ (.string x5.a.name)).setCell ⟨tb,4,none⟩ (.slice x5.a.ptr (len x5.k) x5.a.cap)).cell? ⟨tb,2,none⟩=some (.int .i64 x5.a.num):=(by simp[go_sem,b2]);have c3:((((w5.setCell ⟨tb,1,none⟩ (.int .i64 x5.a.op)).setCell ⟨tb,2,none⟩ (.int .i64 x5.a.num)).setCell ⟨tb,3,none⟩ (.string x5.a.name)).setCell ⟨tb,4,none⟩ (.slice x5.a.ptr (len x5.k) x5.a.cap)).cell? ⟨tb,3,none⟩=some (.string x5.a.name):=(by simp[go_sem,b3]);have c4:((((w5.setCell ⟨tb,1,none⟩ (.int .i64 x5.a.op)).setCell ⟨tb,2,none⟩ (.int .i64 x5.a.num)).setCell ⟨tb,3,none⟩ (.string x5.a.name)).setCell ⟨tb,4,none⟩ (.slice x5.a.ptr (len x5.k) x5.a.cap)).cell? ⟨tb,4,none⟩=some (.slice x5.a.ptr (len x5.k) x5.a.cap):=(by simp[go_sem,b4]);have ix31:((0:Nat):Int)≤0:=(by omega);clear hb5 hx5 a0 a1 a2 a3 a4 g1 g2 g3 g4 b0 X5 K6;go_upto_region 9 with (fail);clear b1 b2 b3 b4 f1 f2 f3 f4;generalize ((((w5.setCell ⟨tb,1,none⟩ (.int .i64 x5.a.op)).setCell ⟨tb,2,none⟩ (.int .i64 x5.a.num)).setCell ⟨tb,3,none⟩ (.string x5.a.name)).setCell ⟨tb,4,none⟩ (.slice x5.a.ptr (len x5.k) x5.a.cap))=w6 at *
      have XE:Hid (∀wq,Ext w6.drew wq→wq.cell? ⟨tb,0,none⟩=some (.string t11)∧wq.cell? ⟨tb,1,none⟩=some (.int .i64 x5.a.op)∧wq.cell? ⟨tb,2,none⟩=some (.int .i64 x5.a.num)∧wq.cell? ⟨tb,3,none⟩=some (.string x5.a.name)∧wq.cell? ⟨tb,4,none⟩=some (.slice x5.a.ptr (len x5.k) x5.a.cap)):=fun wq hq=>(by
       have hb:Below w6.heap.size w6 wq:=((Below.refl _ _).drew).trans (Below.mono hq (by simp));exact⟨qa c0 hb,qa c1 hb,qa c2 hb,qa c3 hb,qa c4 hb⟩)
      clear c0 c1 c2 c3 c4;obtain⟨ir,hir,hir0,hir1,hir2⟩:=info_parts Tryz.infoCnP;have P6:=hid (PV.out.next B6.out);obtain⟨pv,cv,hv⟩:∃pv cv,vs 0=.slice pv D.cs.length cv:=yt (P6.out.rows.ow 0);have HV:=hid hv;clear hv;have EX:Hid (∀wq,Ext w6.drew wq→Below w.heap.size w wq):=fun wq hq=>(B6.out.drew).trans (Below.mono hq (by have:=B6.out.size;simpa using this));have PX:Hid (∀wq,Ext w6.drew wq→PgV wq bs rb mb n c vs D):=fun wq hq=>PV.out.next (EX.out wq hq)
      have EXN:Hid (∀wq,Ext w6.drew wq→Below w6.heap.size w6 wq):=fun wq hq=>((Below.refl _ _).drew).trans (Below.mono hq (by simp));have HB0:Hid (w6.heap.size≤w6.drew.heap.size):=(by unfold Hid;simp);have OB:Hid (bs≤w6.heap.size∧rb < bs):=⟨Nat.le_trans LB.out.2 B6.out.size,LB.out.1⟩;have CB:Hid (∀wq,Ext w6.drew wq→wq.cell? ⟨rb,7,none⟩=some (.slice pv D.cs.length cv)):=fun wq hq=>by rw[← HV.out];exact(PX.out wq hq).box.c7
      refine zp VG (gnG rb g O L.length cap D.cs.length cv w6.heap.size pv t11 tb x5) 8 12 (fun x w1 w'=>∃pn cn,x 45=.slice pn (D.cs.length+1) cn∧w'.ownsRow bs 85 5 (.slice pn (D.cs.length+1) cn) (D.cs.length+1) (D.cs.flatMap j4++j4 ⟨t11,x5.b,x5.o,x5.a,x5.k⟩)∧w1.grownBy w' (vs 0).ownBlock∧((Value.slice pn (D.cs.length+1) cn).ownBlock=(vs 0).ownBlock∨(Value.slice pn (D.cs.length+1) cn).ownBlock=some w1.heap.size)) (fun x w1 w'=>∃pn cn we,w'=we.setCell ⟨rb,7,none⟩ (.slice pn (D.cs.length+1) cn)∧we.ownsRow bs 85 5 (.slice pn (D.cs.length+1) cn) (D.cs.length+1) (D.cs.flatMap j4++j4 ⟨t11,x5.b,x5.o,x5.a,x5.k⟩)∧w1.grownBy we (vs 0).ownBlock∧((Value.slice pn (D.cs.length+1) cn).ownBlock=(vs 0).ownBlock∨(Value.slice pn (D.cs.length+1) cn).ownBlock=some w1.heap.size)) (by kernel_rfl) (by kernel_rfl) (fun i v w w' h he=>Wl.ext h he) (fun i=>decide (i≠0∧i≠9∧i≠10∧i≠11∧i < 8)) (by kernel_rfl) (by kernel_rfl) (by decide) ?hst ?hpu ?hla ?hyo ?hfin
      case hst =>
       intro i o ho hz hy
       match i,ho with
       | 0,ho=>exact yl ho fun a w3 hx qz qb=>⟨rfl,_,run_move (.tmp 0) (.pointer (some ⟨rb,0,none⟩)) (qz 0 rfl),rfl⟩
       | 1,ho=>exact yl ho fun a w3 hx qz qb=>⟨rfl,_,run_move (.tmp 0) (.pointer (some ⟨rb,0,none⟩)) (qz 0 rfl),rfl⟩
       | 2,ho=>exact yl ho fun a w3 hx qz qb=>⟨rfl,_,qZ (.tmp 38) ⟨rb,0,none⟩ (qb 38 1 rfl rfl),rfl⟩
       | 3,ho=>exact yl ho fun a w3 hx qz qb=>⟨rfl,_,ya (.tmp 39) rb (qb 39 2 rfl rfl),rfl⟩
       | 4,ho=>exact yl ho fun a w3 hx qz qb=>⟨rfl,_,yc (.tmp 40) rb 7 (by decide) (qb 40 3 rfl rfl),rfl⟩
       | 5,ho=>exact yl ho fun a w3 hx qz qb=>⟨rfl,_,vD (.tmp 41) ⟨rb,7,none⟩ _ (qb 41 4 rfl rfl) (CB.out w3 hx),rfl⟩
       | 6,ho=>exact yl ho fun a w3 hx qz qb=>⟨rfl,_,Y8 (.tmp 8) tb _ _ _ _ _ (qz 8 rfl) (XE.out w3 hx).1 (XE.out w3 hx).2.1 (XE.out w3 hx).2.2.1 (XE.out w3 hx).2.2.2.1 (XE.out w3 hx).2.2.2.2,rfl⟩
       | 7,ho=>obtain rfl:=inj ho;intro a w3 hx qz qb yn;have hz:=(hx.size:(w6.drew).heap.size≤w3.heap.size);exact⟨rfl,jI (vC (.tmp 43) (.string t11) (.int .i64 x5.a.op) (.int .i64 x5.a.num) (.string x5.a.name) (.slice x5.a.ptr (len x5.k) x5.a.cap) (qb 43 6 rfl rfl)) (Ext.alloc _ _) (xL w3 w6.heap.size (Nat.le_trans HB0.out hz) (.string t11) (.int .i64 x5.a.op) (.int .i64 x5.a.num) (.string x5.a.name) (.slice x5.a.ptr (len x5.k) x5.a.cap) _)⟩
       | 8,ho=>exact absurd rfl hz
       | 9,ho=>exact yl ho fun a w3 hx qz qb=>⟨rfl,_,qZ (.tmp 37) ⟨rb,0,none⟩ (qb 37 0 rfl rfl),rfl⟩
       | 10,ho=>exact yl ho fun a w3 hx qz qb=>⟨rfl,_,ya (.tmp 46) rb (qb 46 9 rfl rfl),rfl⟩
       | 11,ho=>exact yl ho fun a w3 hx qz qb=>⟨rfl,_,yc (.tmp 47) rb 7 (by decide) (qb 47 10 rfl rfl),rfl⟩
       | 12,ho=>exact absurd rfl hy
       | i+13,ho=>cases ho
      case hpu =>
       intro i o ho hz hy
       match i,ho with
       | 0,ho=>obtain rfl:=inj ho;refine .inr ?_;intro a w1 w3 hx ym qz qb yn hf;exact⟨rfl,qo (run_move (.tmp 0) (.pointer (some ⟨rb,0,none⟩)) (qz 0 rfl)) ⟨_,rfl,rfl,fun _=>rfl,kA (by decide) hf⟩⟩
       | 1,ho=>exact .inl rfl
       | 2,ho=>exact .inl rfl
       | 3,ho=>exact .inl rfl
       | 4,ho=>exact .inl rfl
       | 5,ho=>exact .inl rfl
       | 6,ho=>exact .inl rfl
       | 7,ho=>exact .inl rfl
       | 8,ho=>exact absurd rfl hz
       | 9,ho=>obtain rfl:=inj ho;refine .inr ?_;intro a w1 w3 hx ym qz qb yn hf;exact⟨rfl,qo (qZ (.tmp 37) ⟨rb,0,none⟩ (qb 37 0 rfl rfl)) ⟨_,rfl,rfl,fun _=>rfl,kA (by decide) hf⟩⟩
       | 10,ho=>obtain rfl:=inj ho;refine .inr ?_;intro a w1 w3 hx ym qz qb yn hf;exact⟨rfl,qo (ya (.tmp 46) rb (qb 46 9 rfl rfl)) ⟨_,rfl,rfl,fun _=>rfl,kA (by decide) hf⟩⟩
       | 11,ho=>obtain rfl:=inj ho;refine .inr ?_;intro a w1 w3 hx ym qz qb yn hf;exact⟨rfl,qo (yc (.tmp 47) rb 7 (by decide) (qb 47 10 rfl rfl)) ⟨_,rfl,rfl,fun _=>rfl,kA (by decide) hf⟩⟩
       | 12,ho=>exact absurd rfl hy
       | i+13,ho=>cases ho
      case hla =>
       intro o ho;obtain rfl:=inj ho;intro a w3 hx ym qz qb yn;obtain⟨b,h1,h2,h3,h4⟩:=(qb 44 7 rfl rfl:(Wl.row w6.heap.size (j4 ⟨t11,x5.b,x5.o,x5.a,x5.k⟩)).ok (a.tmps.getD 44 undef) w3);have h5:a.tmps.getD 42 undef=.slice pv D.cs.length cv:=qb 42 5 rfl rfl;have PQ:=PX.out w3 hx;have OW:w3.ownsRow bs 85 5 (.slice pv D.cs.length cv) D.cs.length (D.cs.flatMap j4):=(by have q:=PQ.rows.ow 0;rw[← HV.out];exact q);refine⟨rfl,?_⟩;refine yJ w3 rfl (.tmp 42) (.tmp 44) 37 rfl bs 85 ir (.agg #[.string ⟨#[]⟩,.int .i64 0,.int .i64 0,.string ⟨#[]⟩,.slice none 0 0]) 5 72 Tryz.underlying37 hir hir0 hir1 hir2 rfl (by decide) (.slice pv D.cs.length cv) D.cs.length (D.cs.flatMap j4) h5 OW ⟨b,0,none⟩ 1 1 (j4 ⟨t11,x5.b,x5.o,x5.a,x5.k⟩) h1 rfl (fun j u hj=>by have q:=h4 j u hj;by_cases e:j=0;(subst e;simpa [Addr.add] using q);simpa [Addr.add,e] using q) (Yh _) (by have:=LD.out;unfold maxLen;omega) (by have:=LD.out;omega) (by have q1:=OB.out;have q2:w6.drew.heap.size≤w3.heap.size:=hx.size;have q3:=HB0.out;omega) ?_;intro v' w' qi qk hob;obtain⟨pn,cn,hvn⟩:=yt qi;subst hvn;refine⟨_,rfl,fun _=>trivial,pn,cn,?_,qi,by rw[HV.out];exact qk,by rw[HV.out];exact hob⟩
       show(a.put (some 45) _).tmps.getD 45 undef=_
       rw[yM,if_pos ⟨rfl,by rw[ym];exact(show(45:Nat) < 109 from by decide)⟩]
      case hyo =>
       intro o ho;obtain rfl:=inj ho;intro a w1 w3 hx ym qz qb yn hf;obtain⟨pn,cn,h1,qi,qk,hob⟩:=hf;have h2:a.tmps.getD 48 undef=.pointer (some ⟨rb,7,none⟩):=qb 48 11 rfl rfl;have PQ:=PX.out w1 hx;have GB:=PQ.box.grown qk (by rw[HV.out];exact fun e'=>by have q:=((PQ.rows.ow 0).lt rb (by show(vs 0).ownBlock=_;rw[HV.out];exact e'.symm)).1;have:=OB.out;omega);exact⟨rfl,zD (vB (.tmp 48) (.tmp 45) ⟨rb,7,none⟩ pn _ cn _ h2 h1 GB.c7 GB.f7) ⟨undef,rfl,fun h=>absurd h (by decide),pn,cn,w3,rfl,qi,qk,hob⟩⟩
      case hfin =>
       rintro x w1 w9 h1 h2 ⟨pn,cn,we,rfl,qi,qk,hob⟩
       have APP:Hid (ok=true→PgV (we.setCell ⟨rb,7,none⟩ (.slice pn (D.cs.length+1) cn)) bs rb mb n { c with cs:=c.cs++[(t11,Pc.tree (L.drop 3))] } (qU vs 0 (.slice pn (D.cs.length+1) cn)) { D with cs:=D.cs++[⟨t11,x5.b,x5.o,x5.a,x5.k⟩] }):=fun hcd=>by
        have q:=PgV.app0 (PX.out w1 h1) ⟨t11,x5.b,x5.o,x5.a,x5.k⟩ ((X6.out hcd).2.1.next (EXN.out w1 h1)) (A5.out hcd) (⟨(X6.out hcd).2.2,NS11.out⟩) qi qk hob;rw[show Pz.nr (jd ⟨t11,x5.b,x5.o,x5.a,x5.k⟩)=Pc.tree (L.drop 3) from(X6.out hcd).1] at q;exact q
       have BEL:Hid (∀m,m≤rb→m≤mb→m≤bs→m≤w.heap.size→Below m w (we.setCell ⟨rb,7,none⟩ (.slice pn (D.cs.length+1) cn))):=(fun m q1 _ q2 q3=>zd (yp (EX.out w1 h1) q3) q3 qk (fun g' e'=>Nat.le_trans q2 (((PX.out w1 h1).rows.ow 0).lt g' e').1) q1 _ _);clear h1 h2 qi qk hob;generalize we.setCell ⟨rb,7,none⟩ (.slice pn (D.cs.length+1) cn)=w9 at *;dsimp only[frameT,VG,List.foldl];generalize x 37=q37;generalize x 38=q38;generalize x 39=q39;generalize x 40=q40;generalize x 41=q41;generalize x 42=q42;generalize x 43=q43;generalize x 44=q44;generalize x 45=q45;generalize x 46=q46;generalize x 47=q47;generalize x 48=q48;clear x;go_simp;have DG:=hid (kM RQ.out APP.out BEL.out);have RE:R.2=if ok=true then 0 else 1:=(by rw[RQ.out];cases ok<;>rfl)
       cases ok with
       | false =>
         have RE2:Hid (R.2=1):=RE;clear RE RQ;go_wp2_with fail;go_ret;exact⟨by rw[RE2.out];rfl,DG.out⟩
       | true =>
         have RE2:Hid (R.2=0):=RE;clear RE RQ;go_wp2_with fail;go_ret;exact⟨by rw[RE2.out];rfl,DG.out⟩
   | false =>
     have HB1:=hid hb1;refine(BG.out [Pc.wConst,Pg.pN,Pc.wIs] _ _ _ _ (B1.out.alloc B1.out.size _) (qT _ _ _ rfl _) (by decide) HB1.out).mono ?_;rintro e w2 ⟨rfl,hb⟩;have B2:=hid ((B1.out.alloc B1.out.size _).trans (hb.mono (by have:=B1.out.size;simp;omega)));clear hb;go_wp2_with fail;cases hb2:Pg.bg L [Pc.wDuty,Pc.wCredit,Pc.wIs] with
     | true =>
       have HLN:Hid (3≤L.length):=by
        have q:=hb2;unfold Pg.bg at q;rw[Bool.and_eq_true,decide_eq_true_eq] at q;have q1:=q.1;simp only[List.length_cons,List.length_nil] at q1;unfold Hid;omega
       obtain⟨ok,hok⟩:∃b,decide (kz (L.drop 3) < 0)=b:=⟨_,rfl⟩;have WX3:=hid (VC 3 HVV.out H40.out (fun W hb=>HT.out.next (w':=W) hb));rw[hok] at WX3
       have RQ:Hid (R=if ok=true then ({ c with cr:=c.cr++[Pc.tree (L.drop 3)] },0) else (c,1)):=by
        unfold Hid;rw[HRD.out,hb1,hb2,if_neg (by decide),if_pos rfl];exact xe hok
       have HB2:=hid hb2;clear hb1 hb2 hok;refine(BG.out [Pc.wDuty,Pc.wCredit,Pc.wIs] _ _ _ _ (B2.out.alloc B2.out.size _) (qT _ _ _ rfl _) (by decide) HB2.out).mono ?_;rintro e w3 ⟨rfl,hb⟩;have B3:=hid ((B2.out.alloc B2.out.size _).trans (hb.mono (by have:=B2.out.size;simp;omega)));clear hb;have hcn:(3:Int)≤(L.length:Int):=(by have:=HLN.out;omega);have LD:Hid (D.cr.length≤1000):=(by have:=CL.out;have:=LC.out;unfold Hid;omega);go_upto_region 12 with (fail);have BA:=hid (B3.out.alloc B3.out.size (.cells #[.int .i64 0,.int .i64 0,.string ⟨#[]⟩,.slice none 0 0] 24));have HA:w3.heap.size < (w3.alloc (.cells #[.int .i64 0,.int .i64 0,.string ⟨#[]⟩,.slice none 0 0] 24)).heap.size:=(by simp);have a0:(w3.alloc (.cells #[.int .i64 0,.int .i64 0,.string ⟨#[]⟩,.slice none 0 0] 24)).cell? ⟨w3.heap.size,0,none⟩=some (.int .i64 0):=(by simp[go_sem]);have a1:(w3.alloc (.cells #[.int .i64 0,.int .i64 0,.string ⟨#[]⟩,.slice none 0 0] 24)).cell? ⟨w3.heap.size,1,none⟩=some (.int .i64 0):=(by simp[go_sem]);have a2:(w3.alloc (.cells #[.int .i64 0,.int .i64 0,.string ⟨#[]⟩,.slice none 0 0] 24)).cell? ⟨w3.heap.size,2,none⟩=some (.string ⟨#[]⟩):=(by simp[go_sem]);have a3:(w3.alloc (.cells #[.int .i64 0,.int .i64 0,.string ⟨#[]⟩,.slice none 0 0] 24)).cell? ⟨w3.heap.size,3,none⟩=some (.slice none 0 0):=(by simp[go_sem]);have g0:(w3.alloc (.cells #[.int .i64 0,.int .i64 0,.string ⟨#[]⟩,.slice none 0 0] 24)).frozen? ⟨w3.heap.size,0,none⟩=false:=(by simp[go_sem]);have g1:(w3.alloc (.cells #[.int .i64 0,.int .i64 0,.string ⟨#[]⟩,.slice none 0 0] 24)).frozen? ⟨w3.heap.size,1,none⟩=false:=(by simp[go_sem]);have g2:(w3.alloc (.cells #[.int .i64 0,.int .i64 0,.string ⟨#[]⟩,.slice none 0 0] 24)).frozen? ⟨w3.heap.size,2,none⟩=false:=(by simp[go_sem]);have g3:(w3.alloc (.cells #[.int .i64 0,.int .i64 0,.string ⟨#[]⟩,.slice none 0 0] 24)).frozen? ⟨w3.heap.size,3,none⟩=false:=(by simp[go_sem]);have TBG:Hid (w.heap.size≤w3.heap.size):=B3.out.size;generalize w3.alloc (.cells #[.int .i64 0,.int .i64 0,.string ⟨#[]⟩,.slice none 0 0] 24)=w3a at *;generalize w3.heap.size=tb at *
       go_cut [7] (fun v7 wx=>v7=.bool ok∧Hid (CrQ w bs rb mb n c vs D L ok tb wx))
       case first =>
        rcases Classical.em (cap=3) with rfl|hcapn
        ·have WX:=WX3;rw[show L.length - 3=0 by have:=HLN.out;omega] at WX;clear WX3;go_wp2_with fail;refine(WX.out _ _ _ BA.out (by first|exact .inl rfl|exact .inr (by omega))).mono ?_;rintro e w5 ⟨x5,rfl,hb5,hx5⟩;have B5:=hid (bt9 BA hb5);have X5:=hid hx5;have A5:=hid (fun h=>(PV.out.next BA.out).av (hx5 h).2.2.1);have b0:=qa a0 hb5;have b1:=qa a1 hb5;have b2:=qa a2 hb5;have b3:=qa a3 hb5;have f0:=(hb5.frozen (p:=⟨tb,0,none⟩) HA).trans g0;have f1:=(hb5.frozen (p:=⟨tb,1,none⟩) HA).trans g1;have f2:=(hb5.frozen (p:=⟨tb,2,none⟩) HA).trans g2;have f3:=(hb5.frozen (p:=⟨tb,3,none⟩) HA).trans g3;have htb5:tb < w5.heap.size:=Nat.lt_of_lt_of_le HA hb5.size;have K6:Hid (KpX (fun g=>g=tb) w5 ((((w5.setCell ⟨tb,0,none⟩ (.int .i64 x5.a.op)).setCell ⟨tb,1,none⟩ (.int .i64 x5.a.num)).setCell ⟨tb,2,none⟩ (.string x5.a.name)).setCell ⟨tb,3,none⟩ (.slice x5.a.ptr (len x5.k) x5.a.cap))):=KpX.trans (KpX.set (X:=fun g=>g=tb) (t:=tb) rfl 0 _) (KpX.trans (KpX.set (X:=fun g=>g=tb) (t:=tb) rfl 1 _) (KpX.trans (KpX.set (X:=fun g=>g=tb) (t:=tb) rfl 2 _) (KpX.set (X:=fun g=>g=tb) (t:=tb) rfl 3 _)))
         have Q6:Hid (CrQ w bs rb mb n c vs D L ok tb ((((w5.setCell ⟨tb,0,none⟩ (.int .i64 x5.a.op)).setCell ⟨tb,1,none⟩ (.int .i64 x5.a.num)).setCell ⟨tb,2,none⟩ (.string x5.a.name)).setCell ⟨tb,3,none⟩ (.slice x5.a.ptr (len x5.k) x5.a.cap))):=by
          refine⟨x5,(((B5.out.setCell (p:=⟨tb,0,none⟩) TBG.out _).setCell (p:=⟨tb,1,none⟩) TBG.out _).setCell (p:=⟨tb,2,none⟩) TBG.out _).setCell (p:=⟨tb,3,none⟩) TBG.out _,?_,by simp[go_sem,b0],by simp[go_sem,b1],by simp[go_sem,b2],by simp[go_sem,b3],by simp[World.setCell];exact htb5⟩;intro h;exact⟨(X5.out h).1,xT (X5.out h).2.1 (X5.out h).2.2.1 HA K6.out,(X5.out h).2.2.2,A5.out h⟩
         clear hb5 hx5 X5 A5 K6;go_wp2
         go_meet
         exact⟨rfl,Q6.out⟩
        ·have WX:=WX3;clear WX3;go_wp2_with fail;refine(WX.out _ _ _ BA.out (by first|exact .inl rfl|exact .inr (by omega))).mono ?_;rintro e w5 ⟨x5,rfl,hb5,hx5⟩;have B5:=hid (bt9 BA hb5);have X5:=hid hx5;have A5:=hid (fun h=>(PV.out.next BA.out).av (hx5 h).2.2.1);have b0:=qa a0 hb5;have b1:=qa a1 hb5;have b2:=qa a2 hb5;have b3:=qa a3 hb5;have f0:=(hb5.frozen (p:=⟨tb,0,none⟩) HA).trans g0;have f1:=(hb5.frozen (p:=⟨tb,1,none⟩) HA).trans g1;have f2:=(hb5.frozen (p:=⟨tb,2,none⟩) HA).trans g2;have f3:=(hb5.frozen (p:=⟨tb,3,none⟩) HA).trans g3;have htb5:tb < w5.heap.size:=Nat.lt_of_lt_of_le HA hb5.size;have K6:Hid (KpX (fun g=>g=tb) w5 ((((w5.setCell ⟨tb,0,none⟩ (.int .i64 x5.a.op)).setCell ⟨tb,1,none⟩ (.int .i64 x5.a.num)).setCell ⟨tb,2,none⟩ (.string x5.a.name)).setCell ⟨tb,3,none⟩ (.slice x5.a.ptr (len x5.k) x5.a.cap))):=KpX.trans (KpX.set (X:=fun g=>g=tb) (t:=tb) rfl 0 _) (KpX.trans (KpX.set (X:=fun g=>g=tb) (t:=tb) rfl 1 _) (KpX.trans (KpX.set (X:=fun g=>g=tb) (t:=tb) rfl 2 _) (KpX.set (X:=fun g=>g=tb) (t:=tb) rfl 3 _)))
         have Q6:Hid (CrQ w bs rb mb n c vs D L ok tb ((((w5.setCell ⟨tb,0,none⟩ (.int .i64 x5.a.op)).setCell ⟨tb,1,none⟩ (.int .i64 x5.a.num)).setCell ⟨tb,2,none⟩ (.string x5.a.name)).setCell ⟨tb,3,none⟩ (.slice x5.a.ptr (len x5.k) x5.a.cap))):=by
          refine⟨x5,(((B5.out.setCell (p:=⟨tb,0,none⟩) TBG.out _).setCell (p:=⟨tb,1,none⟩) TBG.out _).setCell (p:=⟨tb,2,none⟩) TBG.out _).setCell (p:=⟨tb,3,none⟩) TBG.out _,?_,by simp[go_sem,b0],by simp[go_sem,b1],by simp[go_sem,b2],by simp[go_sem,b3],by simp[World.setCell];exact htb5⟩;intro h;exact⟨(X5.out h).1,xT (X5.out h).2.1 (X5.out h).2.2.1 HA K6.out,(X5.out h).2.2.2,A5.out h⟩
         clear hb5 hx5 X5 A5 K6;go_wp2
         go_meet
         exact⟨rfl,Q6.out⟩
       case rest =>
        obtain⟨rfl,HQ⟩:=hcut;clear a0 a1 a2 a3 g0 g1 g2 g3 BA WX3;go_upto_region 13 with (fail);obtain⟨w6,hw6⟩:∃z,z=wc:=⟨_,rfl⟩;subst hw6;obtain⟨x5,hb6,hx6,e0,e1,e2,e3,htb2⟩:=HQ.out;have B6:=hid hb6;have X6:=hid hx6;clear hb6 hx6 HQ;obtain⟨ir,hir,hir0,hir1,hir2⟩:=info_parts Tryz.infoXpP;have P6:=hid (PV.out.next B6.out);obtain⟨pv,cv,hv⟩:∃pv cv,vs 3=.slice pv D.cr.length cv:=yt (P6.out.rows.ow 3);have HV:=hid hv;have oc:=P6.out.box.c10;have hcb:rb < w6.heap.size:=P6.out.box.lt;rw[hv] at oc;clear hv;have HNB:=hid ((yu w6 (.cells #[.int .i64 0,.int .i64 0,.string ⟨#[]⟩,.slice none 0 0] 24)).drew);have P7:=hid (P6.out.next HNB.out)
        have OW4:Hid ((w6.alloc (.cells #[.int .i64 0,.int .i64 0,.string ⟨#[]⟩,.slice none 0 0] 24)).drew.ownsRow bs 24 4 (.slice pv D.cr.length cv) D.cr.length (D.cr.flatMap xp)):=by
         unfold Hid;have q:=P7.out.rows.ow 3;rw[← HV.out];exact q
        have OB:Hid (bs≤w6.heap.size∧rb < bs):=⟨Nat.le_trans LB.out.2 B6.out.size,LB.out.1⟩;have hnn:(D.cr.length:Int) < (D.cr.length:Int)+1:=by omega
        go_region_law (first|(refine xH _ (by rfl) _ _ 22 (by rfl) bs 24 ir (.agg #[.int .i64 0,.int .i64 0,.string ⟨#[]⟩,.slice none 0 0]) 4 56 Tryz.underlying22 hir hir0 hir1 hir2 rfl (by decide) (.slice pv D.cr.length cv) D.cr.length (D.cr.flatMap xp) (by rfl) OW4.out ⟨w6.heap.size,0,none⟩ 1 1 [.int .i64 0,.int .i64 0,.string ⟨#[]⟩,.slice none 0 0] (by rfl) (by rfl) (by intro q u hu;match q,hu with|0,hu=>(simp at hu;subst hu;simp[Addr.add,go_sem])|1,hu=>(simp at hu;subst hu;simp[Addr.add,go_sem])|2,hu=>(simp at hu;subst hu;simp[Addr.add,go_sem])|3,hu=>(simp at hu;subst hu;simp[Addr.add,go_sem])|q+4,hu=>simp at hu) JQ (by have:=LD.out;unfold maxLen;omega) (by have:=LD.out;omega) (by have:=OB.out;simp;omega) ?_;intro v' we qi qk hob;obtain⟨g2,cn,hvn⟩:=YS qi;subst hvn;have GB:=P7.out.box.grown qk (fun e'=>by have q:=(OW4.out.lt rb e'.symm).1;have:=OB.out;omega);have fz:=GB.f10;have cz:=GB.c10;have HOWN:=hid qi;have HGR:=hid qk;have HOB:=hid hob;obtain⟨q0,q1,q2,q3⟩:=Qg OW4.out.1 qi;have r0:=qi.frozenAt (D.cr.length * 4);have r1:=qi.frozenAt (D.cr.length * 4+1);have r2:=qi.frozenAt (D.cr.length * 4+2);have r3:=qi.frozenAt (D.cr.length * 4+3);have ng1:¬g2=rb:=(by have q:=(qi.lt g2 rfl).1;have:=OB.out;omega);have ng2:¬rb=g2:=(fun e=>ng1 e.symm);have tq:∀(j:Nat) (u:Value),w6.cell? ⟨tb,j,none⟩=some u→we.cell? ⟨tb,j,none⟩=some u:=(fun j u hj=>by rw[World.cell?_of_block (a:=⟨tb,j,none⟩) (qk.block tb (by simp;omega) (fun e'=>by have q:=((PV.out.rows.ow 3).lt tb (by show(vs 3).ownBlock=_;rw[HV.out];exact e'.symm)).2;have:=TBG.out;omega))];exact qa hj HNB.out);have x0:=tq 0 _ e0;have x1:=tq 1 _ e1;have x2:=tq 2 _ e2;have x3:=tq 3 _ e3;clear tq GB qi qk hob))
        all_goals
         have SW:∀(wq:World) (kq:Nat) (u v:Value),(wq.setCell ⟨rb,10,none⟩ u).setCell ⟨g2,kq,none⟩ v=(wq.setCell ⟨g2,kq,none⟩ v).setCell ⟨rb,10,none⟩ u:=fun wq kq u v=>v9 wq (fun e=>ng1 e.symm) u v
         have hgo:some g2=(Value.slice pv D.cr.length cv).ownBlock∨(w6.alloc (.cells #[.int .i64 0,.int .i64 0,.string ⟨#[]⟩,.slice none 0 0] 24)).drew.heap.size≤g2:=(by
          rcases HOB.out with q|q
          ·exact .inl q
          ·exact .inr (Nat.le_of_eq (inj q).symm))
         have OO:=YT OW4.out.1 HOWN.out (.int .i64 x5.a.op) (.int .i64 x5.a.num) (.string x5.a.name) (.slice x5.a.ptr (len x5.k) x5.a.cap);have GG:=fun k0 k1 k2 k3 u0 u1 u2 u3=>xf (xf (xf (xf HGR.out hgo k0 u0) hgo k1 u1) hgo k2 u2) hgo k3 u3
         have APP:=fun hcd:ok=true=>(by
          have q:=PgV.app3 P7.out x5 ((X6.out hcd).2.1.next HNB.out) (X6.out hcd).2.2.2 (X6.out hcd).2.2.1 OO (by rw[HV.out];exact GG _ _ _ _ _ _ _ _) (by rw[HV.out];exact HOB.out);rw[(X6.out hcd).1] at q;exact q)
         have q:=kM RQ.out APP (fun m q1 q2 q3 q4=>zd (yp (B6.out.trans (HNB.out.mono B6.out.size)) q4) q4 (GG _ _ _ _ _ _ _ _) (fun g' e'=>Nat.le_trans q3 (OW4.out.lt g' e').1) q1 _ _);have DG:=hid q;have SWH:=hid SW;have RE:R.2=if ok=true then 0 else 1:=(by rw[RQ.out];cases ok<;>rfl)
         clear SW OO APP q GG hgo;cases ok with
         | false =>
           have RE2:Hid (R.2=1):=RE;clear RE RQ;go_wp2_with fail;go_ret;refine⟨by rw[RE2.out];rfl,?_⟩
           first
            | exact DG.out
            | (rw[SWH.out,SWH.out,SWH.out,SWH.out];exact DG.out)
         | true =>
           have RE2:Hid (R.2=0):=RE;clear RE RQ;go_wp2_with fail;go_ret;refine⟨by rw[RE2.out];rfl,?_⟩
           first
            | exact DG.out
            | (rw[SWH.out,SWH.out,SWH.out,SWH.out];exact DG.out)
     | false =>
       have HB2:=hid hb2;refine(BG.out [Pc.wDuty,Pc.wCredit,Pc.wIs] _ _ _ _ (B2.out.alloc B2.out.size _) (qT _ _ _ rfl _) (by decide) HB2.out).mono ?_;rintro e w3 ⟨rfl,hb⟩;have B3:=hid ((B2.out.alloc B2.out.size _).trans (hb.mono (by have:=B2.out.size;simp;omega)));clear hb;go_wp2_with fail;cases hb3:Pg.sh L [Pc.wOff,Pg.pN,Pc.wIs,Pg.pD,Pc.wIn,Pg.pD,Pc.wDays] with
       | true =>
         have RQ:Hid (R=({ c with fs:=c.fs++[⟨(Pc.tok L 1).text,(Pc.tok L 3).num,(Pc.tok L 5).num⟩] },0)):=by
          unfold Hid;rw[HRD.out,hb1,hb2,hb3];rfl
         have HLN:Hid (L.length=7):=Pg.sh_len hb3;have HB3:=hid hb3;clear hb1 hb2 hb3;have ix1:(1:Int) < (L.length:Int):=(by have:=HLN.out;omega);have IX1:Hid (1 < L.length):=(by have:=HLN.out;unfold Hid;omega);have ix3:(3:Int) < (L.length:Int):=(by have:=HLN.out;omega);have IX3:Hid (3 < L.length):=(by have:=HLN.out;unfold Hid;omega);have ix5:(5:Int) < (L.length:Int):=(by have:=HLN.out;omega);have IX5:Hid (5 < L.length):=(by have:=HLN.out;unfold Hid;omega);have TK11:Hid (∀wq,Below w.heap.size w wq→wq.cell? ⟨g,O+1 * 4+1,none⟩=some (.string (Pc.tok L 1).text)):=fun wq hb=>(TK.out 1 IX1.out wq hb).2.1;have NS11:Hid ((Pc.tok L 1).text.size≤9223372036854775807):=jH HS.out 1;obtain⟨t11,ht11⟩:∃z,(Pc.tok L 1).text=z:=⟨_,rfl⟩;rw[ht11] at TK11 NS11 RQ;have TK32:Hid (∀wq,Below w.heap.size w wq→wq.cell? ⟨g,O+3 * 4+2,none⟩=some (.int .i64 (Pc.tok L 3).num)):=fun wq hb=>(TK.out 3 IX3.out wq hb).2.2;have NS32:Hid (Bd (Pc.tok L 3).num):=xM HVV.out 3;obtain⟨t32,ht32⟩:∃z,(Pc.tok L 3).num=z:=⟨_,rfl⟩;rw[ht32] at TK32 NS32 RQ;have TK52:Hid (∀wq,Below w.heap.size w wq→wq.cell? ⟨g,O+5 * 4+2,none⟩=some (.int .i64 (Pc.tok L 5).num)):=fun wq hb=>(TK.out 5 IX5.out wq hb).2.2;have NS52:Hid (Bd (Pc.tok L 5).num):=xM HVV.out 5;obtain⟨t52,ht52⟩:∃z,(Pc.tok L 5).num=z:=⟨_,rfl⟩;rw[ht52] at TK52 NS52 RQ;have LD:Hid (D.fs.length≤1000):=(by have:=CL.out;have:=LC.out;unfold Hid;omega);refine(SHP.out [Pc.wOff,Pg.pN,Pc.wIs,Pg.pD,Pc.wIn,Pg.pD,Pc.wDays] _ _ _ _ (B3.out.alloc B3.out.size _) (qT _ _ _ rfl _) (by decide) HB3.out).mono ?_;rintro e w4 ⟨rfl,hb⟩;have B4:=hid ((B3.out.alloc B3.out.size _).trans (hb.mono (by have:=B3.out.size;simp;omega)));clear hb;go_upto_region 16 with (fail);obtain⟨w6,hw6⟩:∃z,z=w4:=⟨_,rfl⟩;subst hw6;have B6:=B4;obtain⟨ir,hir,hir0,hir1,hir2⟩:=info_parts Tryz.infoOfP;have P6:=hid (PV.out.next B6.out);obtain⟨pv,cv,hv⟩:∃pv cv,vs 5=.slice pv D.fs.length cv:=yt (P6.out.rows.ow 5);have HV:=hid hv;clear hv;have EX:Hid (∀wq,Ext w6.drew wq→Below w.heap.size w wq):=fun wq hq=>(B6.out.drew).trans (Below.mono hq (by have:=B6.out.size;simpa using this));have PX:Hid (∀wq,Ext w6.drew wq→PgV wq bs rb mb n c vs D):=fun wq hq=>PV.out.next (EX.out wq hq)
         have EXN:Hid (∀wq,Ext w6.drew wq→Below w6.heap.size w6 wq):=fun wq hq=>((Below.refl _ _).drew).trans (Below.mono hq (by simp));have HB0:Hid (w6.heap.size≤w6.drew.heap.size):=(by unfold Hid;simp);have OB:Hid (bs≤w6.heap.size∧rb < bs):=⟨Nat.le_trans LB.out.2 B6.out.size,LB.out.1⟩;have CB:Hid (∀wq,Ext w6.drew wq→wq.cell? ⟨rb,12,none⟩=some (.slice pv D.fs.length cv)):=fun wq hq=>by rw[← HV.out];exact(PX.out wq hq).box.c12
         have TC11:Hid (∀wq,Ext w6.drew wq→wq.cell? ⟨g,O+1 * 4+1,none⟩=some (.string t11)):=fun wq hq=>TK11.out wq (EX.out wq hq);have TC32:Hid (∀wq,Ext w6.drew wq→wq.cell? ⟨g,O+3 * 4+2,none⟩=some (.int .i64 t32)):=fun wq hq=>TK32.out wq (EX.out wq hq);have TC52:Hid (∀wq,Ext w6.drew wq→wq.cell? ⟨g,O+5 * 4+2,none⟩=some (.int .i64 t52)):=fun wq hq=>TK52.out wq (EX.out wq hq);refine zp goT (goG rb g O L.length cap D.fs.length cv w6.heap.size pv t11 t32 t52) 20 24 (fun x w1 w'=>∃pn cn,x 96=.slice pn (D.fs.length+1) cn∧w'.ownsRow bs 93 3 (.slice pn (D.fs.length+1) cn) (D.fs.length+1) (D.fs.flatMap kF++kF ⟨t11,t32,t52⟩)∧w1.grownBy w' (vs 5).ownBlock∧((Value.slice pn (D.fs.length+1) cn).ownBlock=(vs 5).ownBlock∨(Value.slice pn (D.fs.length+1) cn).ownBlock=some w1.heap.size)) (fun x w1 w'=>∃pn cn we,w'=we.setCell ⟨rb,12,none⟩ (.slice pn (D.fs.length+1) cn)∧we.ownsRow bs 93 3 (.slice pn (D.fs.length+1) cn) (D.fs.length+1) (D.fs.flatMap kF++kF ⟨t11,t32,t52⟩)∧w1.grownBy we (vs 5).ownBlock∧((Value.slice pn (D.fs.length+1) cn).ownBlock=(vs 5).ownBlock∨(Value.slice pn (D.fs.length+1) cn).ownBlock=some w1.heap.size)) (by kernel_rfl) (by kernel_rfl) (fun i v w w' h he=>Wl.ext h he) (fun i=>decide (i≠0∧i≠21∧i≠22∧i≠23∧i < 20)) (by kernel_rfl) (by kernel_rfl) (by decide) ?hst ?hpu ?hla ?hyo ?hfin
         case hst =>
          intro i o ho hz hy
          match i,ho with
          | 0,ho=>exact yl ho fun a w3 hx qz qb=>⟨rfl,_,run_move (.tmp 0) (.pointer (some ⟨rb,0,none⟩)) (qz 0 rfl),rfl⟩
          | 1,ho=>exact yl ho fun a w3 hx qz qb=>⟨rfl,_,run_move (.tmp 0) (.pointer (some ⟨rb,0,none⟩)) (qz 0 rfl),rfl⟩
          | 2,ho=>exact yl ho fun a w3 hx qz qb=>⟨rfl,_,qZ (.tmp 77) ⟨rb,0,none⟩ (qb 77 1 rfl rfl),rfl⟩
          | 3,ho=>exact yl ho fun a w3 hx qz qb=>⟨rfl,_,ya (.tmp 78) rb (qb 78 2 rfl rfl),rfl⟩
          | 4,ho=>exact yl ho fun a w3 hx qz qb=>⟨rfl,_,yc (.tmp 79) rb 12 (by decide) (qb 79 3 rfl rfl),rfl⟩
          | 5,ho=>exact yl ho fun a w3 hx qz qb=>⟨rfl,_,yO (.tmp 80) ⟨rb,12,none⟩ 41 (by decide) _ (qb 80 4 rfl rfl) (CB.out w3 hx),rfl⟩
          | 6,ho=>exact yl ho fun a w3 hx qz qb=>⟨rfl,_,run_move (.tmp 1) (.slice (some ⟨g,O,none⟩) L.length cap) (qz 1 rfl),rfl⟩
          | 7,ho=>exact yl ho fun a w3 hx qz qb=>⟨rfl,_,zO (.tmp 82) g O L.length cap 1 rfl IX1.out (qb 82 6 rfl rfl),rfl⟩
          | 8,ho=>exact yl ho fun a w3 hx qz qb=>⟨rfl,_,zq (.tmp 83) g (O+1 * 4) 1 (by decide) (qb 83 7 rfl rfl),rfl⟩
          | 9,ho=>exact yl ho fun a w3 hx qz qb=>⟨rfl,_,yO (.tmp 84) ⟨g,O+1 * 4+1,none⟩ 9 (by decide) (.string t11) (qb 84 8 rfl rfl) (TC11.out w3 hx),rfl⟩
          | 10,ho=>exact yl ho fun a w3 hx qz qb=>⟨rfl,_,run_move (.tmp 1) (.slice (some ⟨g,O,none⟩) L.length cap) (qz 1 rfl),rfl⟩
          | 11,ho=>exact yl ho fun a w3 hx qz qb=>⟨rfl,_,zO (.tmp 86) g O L.length cap 3 rfl IX3.out (qb 86 10 rfl rfl),rfl⟩
          | 12,ho=>exact yl ho fun a w3 hx qz qb=>⟨rfl,_,zq (.tmp 87) g (O+3 * 4) 2 (by decide) (qb 87 11 rfl rfl),rfl⟩
          | 13,ho=>exact yl ho fun a w3 hx qz qb=>⟨rfl,_,yO (.tmp 88) ⟨g,O+3 * 4+2,none⟩ 3 (by decide) (.int .i64 t32) (qb 88 12 rfl rfl) (TC32.out w3 hx),rfl⟩
          | 14,ho=>exact yl ho fun a w3 hx qz qb=>⟨rfl,_,run_move (.tmp 1) (.slice (some ⟨g,O,none⟩) L.length cap) (qz 1 rfl),rfl⟩
          | 15,ho=>exact yl ho fun a w3 hx qz qb=>⟨rfl,_,zO (.tmp 90) g O L.length cap 5 rfl IX5.out (qb 90 14 rfl rfl),rfl⟩
          | 16,ho=>exact yl ho fun a w3 hx qz qb=>⟨rfl,_,zq (.tmp 91) g (O+5 * 4) 2 (by decide) (qb 91 15 rfl rfl),rfl⟩
          | 17,ho=>exact yl ho fun a w3 hx qz qb=>⟨rfl,_,yO (.tmp 92) ⟨g,O+5 * 4+2,none⟩ 3 (by decide) (.int .i64 t52) (qb 92 16 rfl rfl) (TC52.out w3 hx),rfl⟩
          | 18,ho=>exact yl ho fun a w3 hx qz qb=>⟨rfl,_,JA (.tmp 85) (.tmp 89) (.tmp 93) t11 t32 t52 (qb 85 9 rfl rfl) (qb 89 13 rfl rfl) (qb 93 17 rfl rfl),rfl⟩
          | 19,ho=>obtain rfl:=inj ho;intro a w3 hx qz qb yn;have hz:=(hx.size:(w6.drew).heap.size≤w3.heap.size);exact⟨rfl,jI (KU (.tmp 94) (.string t11) (.int .i64 t32) (.int .i64 t52) (qb 94 18 rfl rfl)) (Ext.alloc _ _) (KE w3 w6.heap.size (Nat.le_trans HB0.out hz) (.string t11) (.int .i64 t32) (.int .i64 t52) _)⟩
          | 20,ho=>exact absurd rfl hz
          | 21,ho=>exact yl ho fun a w3 hx qz qb=>⟨rfl,_,qZ (.tmp 76) ⟨rb,0,none⟩ (qb 76 0 rfl rfl),rfl⟩
          | 22,ho=>exact yl ho fun a w3 hx qz qb=>⟨rfl,_,ya (.tmp 97) rb (qb 97 21 rfl rfl),rfl⟩
          | 23,ho=>exact yl ho fun a w3 hx qz qb=>⟨rfl,_,yc (.tmp 98) rb 12 (by decide) (qb 98 22 rfl rfl),rfl⟩
          | 24,ho=>exact absurd rfl hy
          | i+25,ho=>cases ho
         case hpu =>
          intro i o ho hz hy
          match i,ho with
          | 0,ho=>obtain rfl:=inj ho;refine .inr ?_;intro a w1 w3 hx ym qz qb yn hf;exact⟨rfl,qo (run_move (.tmp 0) (.pointer (some ⟨rb,0,none⟩)) (qz 0 rfl)) ⟨_,rfl,rfl,fun _=>rfl,kA (by decide) hf⟩⟩
          | 1,ho=>exact .inl rfl
          | 2,ho=>exact .inl rfl
          | 3,ho=>exact .inl rfl
          | 4,ho=>exact .inl rfl
          | 5,ho=>exact .inl rfl
          | 6,ho=>exact .inl rfl
          | 7,ho=>exact .inl rfl
          | 8,ho=>exact .inl rfl
          | 9,ho=>exact .inl rfl
          | 10,ho=>exact .inl rfl
          | 11,ho=>exact .inl rfl
          | 12,ho=>exact .inl rfl
          | 13,ho=>exact .inl rfl
          | 14,ho=>exact .inl rfl
          | 15,ho=>exact .inl rfl
          | 16,ho=>exact .inl rfl
          | 17,ho=>exact .inl rfl
          | 18,ho=>exact .inl rfl
          | 19,ho=>exact .inl rfl
          | 20,ho=>exact absurd rfl hz
          | 21,ho=>obtain rfl:=inj ho;refine .inr ?_;intro a w1 w3 hx ym qz qb yn hf;exact⟨rfl,qo (qZ (.tmp 76) ⟨rb,0,none⟩ (qb 76 0 rfl rfl)) ⟨_,rfl,rfl,fun _=>rfl,kA (by decide) hf⟩⟩
          | 22,ho=>obtain rfl:=inj ho;refine .inr ?_;intro a w1 w3 hx ym qz qb yn hf;exact⟨rfl,qo (ya (.tmp 97) rb (qb 97 21 rfl rfl)) ⟨_,rfl,rfl,fun _=>rfl,kA (by decide) hf⟩⟩
          | 23,ho=>obtain rfl:=inj ho;refine .inr ?_;intro a w1 w3 hx ym qz qb yn hf;exact⟨rfl,qo (yc (.tmp 98) rb 12 (by decide) (qb 98 22 rfl rfl)) ⟨_,rfl,rfl,fun _=>rfl,kA (by decide) hf⟩⟩
          | 24,ho=>exact absurd rfl hy
          | i+25,ho=>cases ho
         case hla =>
          intro o ho;obtain rfl:=inj ho;intro a w3 hx ym qz qb yn;obtain⟨b,h1,h2,h3,h4⟩:=(qb 95 19 rfl rfl:(Wl.row w6.heap.size (kF ⟨t11,t32,t52⟩)).ok (a.tmps.getD 95 undef) w3);have h5:a.tmps.getD 81 undef=.slice pv D.fs.length cv:=qb 81 5 rfl rfl;have PQ:=PX.out w3 hx;have OW:w3.ownsRow bs 93 3 (.slice pv D.fs.length cv) D.fs.length (D.fs.flatMap kF):=(by have q:=PQ.rows.ow 5;rw[← HV.out];exact q);refine⟨rfl,?_⟩;refine yJ w3 rfl (.tmp 81) (.tmp 95) 41 rfl bs 93 ir (.agg #[.string ⟨#[]⟩,.int .i64 0,.int .i64 0]) 3 32 Tryz.underlying41 hir hir0 hir1 hir2 rfl (by decide) (.slice pv D.fs.length cv) D.fs.length (D.fs.flatMap kF) h5 OW ⟨b,0,none⟩ 1 1 (kF ⟨t11,t32,t52⟩) h1 rfl (fun j u hj=>by have q:=h4 j u hj;by_cases e:j=0;(subst e;simpa [Addr.add] using q);simpa [Addr.add,e] using q) (U3 _) (by have:=LD.out;unfold maxLen;omega) (by have:=LD.out;omega) (by have q1:=OB.out;have q2:w6.drew.heap.size≤w3.heap.size:=hx.size;have q3:=HB0.out;omega) ?_;intro v' w' qi qk hob;obtain⟨pn,cn,hvn⟩:=yt qi;subst hvn;refine⟨_,rfl,fun _=>trivial,pn,cn,?_,qi,by rw[HV.out];exact qk,by rw[HV.out];exact hob⟩
          show(a.put (some 96) _).tmps.getD 96 undef=_
          rw[yM,if_pos ⟨rfl,by rw[ym];exact(show(96:Nat) < 109 from by decide)⟩]
         case hyo =>
          intro o ho;obtain rfl:=inj ho;intro a w1 w3 hx ym qz qb yn hf;obtain⟨pn,cn,h1,qi,qk,hob⟩:=hf;have h2:a.tmps.getD 99 undef=.pointer (some ⟨rb,12,none⟩):=qb 99 23 rfl rfl;have PQ:=PX.out w1 hx;have GB:=PQ.box.grown qk (by rw[HV.out];exact fun e'=>by have q:=((PQ.rows.ow 5).lt rb (by show(vs 5).ownBlock=_;rw[HV.out];exact e'.symm)).1;have:=OB.out;omega);exact⟨rfl,zD (kh (.tmp 99) (.tmp 96) ⟨rb,12,none⟩ 41 (by decide) pn _ cn _ h2 h1 GB.c12 GB.f12) ⟨undef,rfl,fun h=>absurd h (by decide),pn,cn,w3,rfl,qi,qk,hob⟩⟩
         case hfin =>
          rintro x w1 w9 h1 h2 ⟨pn,cn,we,rfl,qi,qk,hob⟩
          have APP:Hid (True→PgV (we.setCell ⟨rb,12,none⟩ (.slice pn (D.fs.length+1) cn)) bs rb mb n { c with fs:=c.fs++[⟨t11,t32,t52⟩] } (qU vs 5 (.slice pn (D.fs.length+1) cn)) { D with fs:=D.fs++[⟨t11,t32,t52⟩] }):=fun hcd=>by
           have q:=PgV.app5 (PX.out w1 h1) ⟨t11,t32,t52⟩ (⟨NS32.out,NS52.out,NS11.out⟩) qi qk hob
           skip
           exact q
          have BEL:Hid (∀m,m≤rb→m≤mb→m≤bs→m≤w.heap.size→Below m w (we.setCell ⟨rb,12,none⟩ (.slice pn (D.fs.length+1) cn))):=(fun m q1 _ q2 q3=>zd (yp (EX.out w1 h1) q3) q3 qk (fun g' e'=>Nat.le_trans q2 (((PX.out w1 h1).rows.ow 5).lt g' e').1) q1 _ _);clear h1 h2 qi qk hob;generalize we.setCell ⟨rb,12,none⟩ (.slice pn (D.fs.length+1) cn)=w9 at *;dsimp only[frameT,goT,List.foldl];generalize x 76=q76;generalize x 77=q77;generalize x 78=q78;generalize x 79=q79;generalize x 80=q80;generalize x 81=q81;generalize x 82=q82;generalize x 83=q83;generalize x 84=q84;generalize x 85=q85;generalize x 86=q86;generalize x 87=q87;generalize x 88=q88;generalize x 89=q89;generalize x 90=q90;generalize x 91=q91;generalize x 92=q92;generalize x 93=q93;generalize x 94=q94;generalize x 95=q95;generalize x 96=q96;generalize x 97=q97;generalize x 98=q98;generalize x 99=q99;clear x;go_simp;go_wp2_with fail;go_ret;exact⟨by rw[RQ.out];rfl,Kl (fun _=>⟨by rw[RQ.out],APP.out trivial⟩) BEL.out⟩
       | false =>
         have HB3:=hid hb3;refine(SHP.out [Pc.wOff,Pg.pN,Pc.wIs,Pg.pD,Pc.wIn,Pg.pD,Pc.wDays] _ _ _ _ (B3.out.alloc B3.out.size _) (qT _ _ _ rfl _) (by decide) HB3.out).mono ?_;rintro e w4 ⟨rfl,hb⟩;have B4:=hid ((B3.out.alloc B3.out.size _).trans (hb.mono (by have:=B3.out.size;simp;omega)));clear hb;go_wp2_with fail;cases hb4:Pg.bg L [Pc.wLimit] with
         | true =>
           have RQ:Hid (R=Pg.limQ c L):=(by unfold Hid;rw[HRD.out,hb1,hb2,hb3,hb4];rfl);have HB4:=hid hb4;clear hb1 hb2 hb3 hb4;refine(BG.out [Pc.wLimit] _ _ _ _ (B4.out.alloc B4.out.size _) (qT _ _ _ rfl _) (by decide) HB4.out).mono ?_;rintro e w5 ⟨rfl,hb⟩;have B5:=hid ((B4.out.alloc B4.out.size _).trans (hb.mono (by have:=B4.out.size;simp;omega)));clear hb;have LQ:=hid (J0 bs rb mb n c vs D L g O cap w5 (PV.out.next B5.out) (HT.out.next B5.out) HVV.out HS.out hl H40.out (Nat.le_trans LB.out.2 B5.out.size) LC.out);have OR:=hid (Uf c L);rw[← RQ.out] at LQ OR;go_wp2_with fail;refine LQ.out.mono ?_;rintro e w9 ⟨rfl,hd⟩;have HD:=hid (uS B5.out hd);clear hd LQ;rcases OR.out with h0|h0
           ·have H0:=hid h0;have d0:decide (R.2=0)=true:=decide_eq_true h0;rw[d0];clear h0 d0;go_wp2;go_ret;exact⟨by rw[H0.out];rfl,HD.out⟩
           ·have H0:=hid h0;have d0:decide (R.2=0)=false:=decide_eq_false (by omega);rw[d0];clear h0 d0;go_wp2;go_ret;exact⟨by rw[H0.out];rfl,HD.out⟩
         | false =>
           have RQ:Hid (R=Pg.scoQ c L):=(by unfold Hid;rw[HRD.out,hb1,hb2,hb3,hb4];rfl);have HB4:=hid hb4;clear hb1 hb2 hb3 hb4;refine(BG.out [Pc.wLimit] _ _ _ _ (B4.out.alloc B4.out.size _) (qT _ _ _ rfl _) (by decide) HB4.out).mono ?_;rintro e w5 ⟨rfl,hb⟩;have B5:=hid ((B4.out.alloc B4.out.size _).trans (hb.mono (by have:=B4.out.size;simp;omega)));clear hb;have LQ:=hid (Ql bs rb mb n c vs D L g O cap w5 (PV.out.next B5.out) (HT.out.next B5.out) HVV.out HS.out hl H40.out (Nat.le_trans LB.out.2 B5.out.size) LC.out);have OR:=hid (KS c L);rw[← RQ.out] at LQ OR;go_wp2_with fail;refine LQ.out.mono ?_;rintro e w9 ⟨rfl,hd⟩;have HD:=hid (uS B5.out hd);clear hd LQ;rcases OR.out with h0|h0
           ·have H0:=hid h0;have d0:decide (R.2=0)=true:=decide_eq_true h0;rw[d0];clear h0 d0;go_wp2;go_ret;exact⟨by rw[H0.out];rfl,HD.out⟩
           ·have H0:=hid h0;have d0:decide (R.2=0)=false:=decide_eq_false (by omega);rw[d0];clear h0 d0;go_wp2;go_ret;exact⟨by rw[H0.out];rfl,HD.out⟩
end Go.Proofs.YtcejjdmnlejbaaaGreatDoor
