import Derived.Test.YtcejjdmnlejbaaaGreatDoorVPgf
import Derived.Test.YtcejjdmnlejbaaaGreatDoorVDa
namespace Go.Proofs.YtcejjdmnlejbaaaGreatDoor
open Option.some(inj)
open Lib(hid)
set_option linter.unusedVariables false
set_option linter.unusedSimpArgs false
open Go.ChangeShapes Go.WideShapes Go.ChangeAt Go.RowKit
open Go.Deep (BT)
set_option maxHeartbeats 8000000
set_option maxRecDepth 100000
section
variable {ρ:Operand→Value}{d:Option Tmp}{ty:TypeId}{pos:String}{af:Array Edge}{gd:Option (Nat×Bool)}{w:World}
theorem yf(x:Operand)(b:Nat)(h:ρ x=.pointer (some ⟨b,0,none⟩)):(execOp ρ ⟨d,.fieldAddr 78 x 0,ty,pos,af,gd⟩).run Tryz.prog w=.ok (.value (.pointer (some ⟨b,0,none⟩))) w:=by
 simp only[execOp,h];go_simp
theorem yg(x:Operand)(b i:Nat)(hi:i=7∨i=8∨i=9∨i=10∨i=11∨i=12)(h:ρ x=.pointer (some ⟨b,0,none⟩)):(execOp ρ ⟨d,.fieldAddr 43 x i,ty,pos,af,gd⟩).run Tryz.prog w=.ok (.value (.pointer (some ⟨b,i,none⟩))) w:=by
 rcases hi with rfl|rfl|rfl|rfl|rfl|rfl
 all_goals
  simp only[execOp,h];go_simp
theorem vD(x:Operand)(p:Addr)(v:Value)(h:ρ x=.pointer (some p))(hv:w.cell? p=some v):(execOp ρ ⟨d,.load 37 x,ty,pos,af,gd⟩).run Tryz.prog w=.ok (.value v) w:=by
 simp only[execOp,h];go_simp
theorem QV(x:Operand)(b:Nat)(c0 c1 c2 c3 c4:Value)(h:ρ x=.pointer (some ⟨b,0,none⟩))(h0:w.cell? ⟨b,0,none⟩=some c0)(h1:w.cell? ⟨b,1,none⟩=some c1)(h2:w.cell? ⟨b,2,none⟩=some c2)(h3:w.cell? ⟨b,3,none⟩=some c3)(h4:w.cell? ⟨b,4,none⟩=some c4):(execOp ρ ⟨d,.load 85 x,ty,pos,af,gd⟩).run Tryz.prog w=.ok (.value (.agg #[c0,c1,c2,c3,c4])) w:=by
 simp only[execOp,h];go_simp
theorem vC(a:Operand)(u0 u1 u2 u3 u4:Value)(h:ρ a=.agg #[u0,u1,u2,u3,u4]):(execOp ρ ⟨d,.buildSlice 37 1 #[(0,a)],ty,pos,af,gd⟩).run Tryz.prog w=.ok (.value (.slice (some ⟨w.heap.size,0,none⟩) 1 1)) (w.alloc (.cells #[u0,u1,u2,u3,u4] 85)):=by
 simp only[execOp,List.map_toArray,List.map,h];go_simp
theorem vB(x y:Operand)(p:Addr)(q:Option Addr)(n c:Nat)(o:Value)(h:ρ x=.pointer (some p))(h':ρ y=.slice q n c)(hc:w.cell? p=some o)(hf:w.frozen? p=false):(execOp ρ ⟨none,.store 37 x y,ty,pos,af,gd⟩).run Tryz.prog w=.ok .skip (w.setCell p (.slice q n c)):=by
 simp only[execOp,h,h'];go_simp
end
theorem Pc.cnt_eqG(c:Pc.PC):Pc.cnt c=c.cs.length+c.rs.length+c.os.length+c.cr.length+c.ls.length+c.fs.length:=rfl
theorem xv{w:World}{bs rb mb n:Nat}{c:Pc.PC}{vs:Fin 6→Value}{D:Six}(h:PgV w bs rb mb n c vs D):D.cs.length+D.rs.length+D.os.length+D.cr.length+D.ls.length+D.fs.length=Pc.cnt c:=by
 rw[Pc.cnt_eqG,← h.ecs,← h.ers,← h.eos,← h.ecr,← h.els,← h.efs];simp only[List.length_map]
theorem JL{w w':World}{bs rb mb n:Nat}{r:Pc.PC× Int}{d:Pc.PC}{vs:Fin 6→Value}{D:Six}(hR:r.2=0→r.1=d∧PgV w' bs rb mb n d vs D)(hb:∀m,m≤rb→m≤mb→m≤bs→m≤w.heap.size→Below m w w'):Qg w bs rb mb n r w' :=
 ⟨fun q=>by obtain⟨h1,h2⟩:=hR q;exact⟨vs,D,by rw[h1];exact h2.more (Nat.le_succ n)⟩,hb⟩
theorem xo{L:List Tk.T4}(hV:∀t∈ L,VT t.t)(i:Nat):Bd (Pc.tok L i).num:=by
 unfold Pc.tok;cases h:L[i]? with
 | none=>exact⟨by show(-9223372036854775808:Int)≤0;decide,by show(0:Int)≤9223372036854775807;decide⟩
 | some t =>
   have q:=kw (hV t (List.mem_of_getElem? h));dsimp only;unfold Bd;rcases q with q|q|q|q|q<;>omega
theorem jC{L:List Tk.T4}(hs:∀t∈ L,t.t.text.size≤9223372036854775807)(i:Nat):(Pc.tok L i).text.size≤9223372036854775807:=by
 unfold Pc.tok;cases h:L[i]? with
 | none=>show(0:Nat)≤_;omega
 | some t=>exact hs t (List.mem_of_getElem? h)
theorem J4{L:List Tk.T4}{w w':World}{e:Ending}(hV:∀t∈ L,VT t.t)(hL:L.length≤400)(h:UE L w e w'):∃c:Ch,e=.returned (.tuple #[.agg #[.int .i64 c.a.op,.int .i64 c.a.num,.string c.a.name,.slice c.a.ptr (len c.k) c.a.cap],.bool (decide (yM L < 0))])∧Below w.heap.size w w'∧(yM L < 0→Pz.nr c=Pc.tree L∧ExAt w' c.b c.o c.a c.k∧FoAv (fun g=>w.heap.size≤g) c.k c.b∧yS c.a c.k):=by
 obtain⟨c,h1,h2,h3⟩:=h;refine⟨c,h1,h3,fun q=>?_⟩;unfold yM at q;unfold Pc.tree;cases hp:Pz.pv L .ex 0 with
 | mk o j =>
   rw[hp] at q;cases o with
   | none=>dsimp only at q;omega
   | some x =>
     obtain⟨q1,q2,q3⟩:=h2 x j hp;exact⟨q1,q2,JG q3,((Pz.ex_good hV hL hp).of_nr q1).ok⟩
theorem whC{L:List Tk.T4}{g O cap:Nat}{w:World}(n:Nat)(hV:∀t∈ L,VT t.t)(h40:L.length≤400)(TA:∀wq,Below w.heap.size w wq→TkAt wq L (.slice (some ⟨g,O,none⟩) L.length cap)) :
 ∀(wq:World) (pq:Option Addr) (kq:Nat),Below w.heap.size w wq→(pq=some ⟨g,O+n * 4,none⟩∨L.length≤n)→Calls Tryz.prog 90 #[.slice pq (L.length - n:Nat) kq] wq (UE (L.drop n) wq):=fun wq pq kq hb hq=>by
 have q:=Yo (L.drop n) pq kq wq (fun t ht=>hV t (List.mem_of_mem_drop ht)) (by
  rcases hq with rfl|hq
  ·exact vw (TA wq hb) n h40
  ·rw [List.drop_eq_nil_of_le hq];exact⟨Nat.zero_le _,fun q=>absurd rfl q⟩)
 rw[List.length_drop] at q;exact q
theorem kG{c:Pc.PC}{L:List Tk.T4}{f:Ch→Pc.PC}{b:Bool}(h:decide (yM L < 0)=b):Pc.ifEx c L f=if b=true then (f (Pc.tree L),0) else (c,1):=by
 unfold Pc.ifEx;cases b with
 | true=>rw[if_neg (by have:=of_decide_eq_true h;omega),if_pos rfl]
 | false=>rw[if_pos (by have:=of_decide_eq_false h;omega),if_neg (by decide)]
theorem V6{L:List Tk.T4}{g O cap:Nat}{w:World}(n:Nat)(hV:∀t∈ L,VT t.t)(h40:L.length≤400)(TA:∀wq,Below w.heap.size w wq→TkAt wq L (.slice (some ⟨g,O,none⟩) L.length cap)) :
 ∀(wq:World) (pq:Option Addr) (kq:Nat),Below w.heap.size w wq→(pq=some ⟨g,O+n * 4,none⟩∨L.length≤n)→Calls Tryz.prog 90 #[.slice pq (L.length - n:Nat) kq] wq fun e w'=>∃c:Ch,e=.returned (.tuple #[.agg #[.int .i64 c.a.op,.int .i64 c.a.num,.string c.a.name,.slice c.a.ptr (len c.k) c.a.cap],.bool (decide (yM (L.drop n) < 0))])∧Below wq.heap.size wq w'∧(decide (yM (L.drop n) < 0)=true→Pz.nr c=Pc.tree (L.drop n)∧ExAt w' c.b c.o c.a c.k∧FoAv (fun g=>wq.heap.size≤g) c.k c.b∧yS c.a c.k):=fun wq pq kq hb hq=>by
 refine(whC n hV h40 TA wq pq kq hb hq).mono fun e w' h=>?_;obtain⟨c,h1,h2,h3⟩:=J4 (fun t ht=>hV t (List.mem_of_mem_drop ht)) (by rw[List.length_drop];omega) h;exact⟨c,h1,h2,fun q=>h3 (of_decide_eq_true q)⟩
theorem xu{R:Pc.PC× Int}{ok:Bool}{d c:Pc.PC}(h:R=if ok=true then (d,0) else (c,1)):Ending.returned (.bool ok)=.returned (.bool (decide (R.2=0))):=by
 cases ok<;>rw[h]<;>rfl
theorem ki{w w':World}{bs rb mb n:Nat}{R:Pc.PC× Int}{ok:Bool}{d c:Pc.PC}{vs:Fin 6→Value}{D:Six}(h:R=if ok=true then (d,0) else (c,1))(hp:ok=true→PgV w' bs rb mb n d vs D)(hb:∀m,m≤rb→m≤mb→m≤bs→m≤w.heap.size→Below m w w'):Qg w bs rb mb n R w':=by
 refine JL (fun q=>?_) hb (d:=d) (vs:=vs) (D:=D);cases ok with
 | false=>rw[h] at q;cases q
 | true=>rw[h];exact⟨rfl,hp rfl⟩
def glT:List (Nat× Nat):=[(31,0),(32,1),(33,2),(34,3),(35,4),(36,5),(37,6),(38,7),(39,8),(40,9),(41,10),(42,11),(43,12),(44,13),(45,14),(46,15),(47,16),(48,17),(49,18),(50,19),(51,20),(52,21),(53,22),(54,23),(55,24),(56,25),(57,26),(58,27)]
def glW(rb g O Ll cap nn cv B0:Nat)(pv:Option Addr)(t11:ByteArray)(t31:ByteArray)(t42:Int)(t62:Int)(i:Nat):Wl :=
 match i with
 | 0=>.eq (.pointer (some ⟨rb,0,none⟩))
 | 1=>.eq (.pointer (some ⟨rb,0,none⟩))
 | 2=>.eq (.pointer (some ⟨rb,0,none⟩))
 | 3=>.eq (.pointer (some ⟨rb,0,none⟩))
 | 4=>.eq (.pointer (some ⟨rb,11,none⟩))
 | 5=>.eq (.slice pv nn cv)
 | 6=>.eq (.slice (some ⟨g,O,none⟩) Ll cap)
 | 7=>.eq (.pointer (some ⟨g,O+1 * 4,none⟩))
 | 8=>.eq (.pointer (some ⟨g,O+1 * 4+1,none⟩))
 | 9=>.eq (.string t11)
 | 10=>.eq (.slice (some ⟨g,O,none⟩) Ll cap)
 | 11=>.eq (.pointer (some ⟨g,O+3 * 4,none⟩))
 | 12=>.eq (.pointer (some ⟨g,O+3 * 4+1,none⟩))
 | 13=>.eq (.string t31)
 | 14=>.eq (.slice (some ⟨g,O,none⟩) Ll cap)
 | 15=>.eq (.pointer (some ⟨g,O+4 * 4,none⟩))
 | 16=>.eq (.pointer (some ⟨g,O+4 * 4+2,none⟩))
 | 17=>.eq (.int .i64 t42)
 | 18=>.eq (.slice (some ⟨g,O,none⟩) Ll cap)
 | 19=>.eq (.pointer (some ⟨g,O+6 * 4,none⟩))
 | 20=>.eq (.pointer (some ⟨g,O+6 * 4+2,none⟩))
 | 21=>.eq (.int .i64 t62)
 | 22=>.eq (.agg #[.string t11,.string t31,.int .i64 t42,.int .i64 t62])
 | 23=>.row B0 [.string t11,.string t31,.int .i64 t42,.int .i64 t62]
 | 24=>.any
 | 25=>.eq (.pointer (some ⟨rb,0,none⟩))
 | 26=>.eq (.pointer (some ⟨rb,0,none⟩))
 | 27=>.eq (.pointer (some ⟨rb,11,none⟩))
 | _=>.any
def glG(rb g O Ll cap nn cv B0:Nat)(pv:Option Addr)(t11:ByteArray)(t31:ByteArray)(t42:Int)(t62:Int)(i:Nat)(v:Value)(w:World):Prop:=(glW rb g O Ll cap nn cv B0 pv t11 t31 t42 t62 i).ok v w
theorem Jy(s:ByteArray):xc s=if yn s=2 then 3 else if yn s=1 then 2 else 0:=by
 rfl
theorem YJ(bs rb mb n:Nat)(c:Pc.PC)(vs:Fin 6→Value)(D:Six)(L:List Tk.T4)(g O cap:Nat)(w:World)(hp:PgV w bs rb mb n c vs D)(ht:TkAt w L (.slice (some ⟨g,O,none⟩) L.length cap))(hV:∀t∈ L,VT t.t)(hs:∀t∈ L,t.t.text.size≤9223372036854775807)(hl:0 < L.length)(h40:L.length≤400)(hbs:bs≤w.heap.size)(hct:Pc.cnt c≤1000)
 :
 Calls Tryz.prog 92 #[.pointer (some ⟨rb,0,none⟩),.slice (some ⟨g,O,none⟩) L.length cap] w fun e w'=>e=.returned (.bool (decide ((Pg.limQ c L).2=0)))∧Qg w bs rb mb n (Pg.limQ c L) w':=by
 have hcap:L.length≤cap:=by obtain⟨p',cap',e,h2,-⟩:=ht;injection e with e1 e2 e3;omega
 have hl0:(0:Int) < (L.length:Int):=by omega
 have hc1:(1:Int)≤(L.length:Int):=by omega
 have hc2:(L.length:Int)≤(cap:Int):=by omega
 have PV:=hid hp;have HT:=hid ht;have HVV:=hid hV;have HS:=hid hs;have H40:=hid h40;have LB:Hid (rb < bs∧bs≤w.heap.size):=⟨hp.rows.lt rb (Or.inl rfl),hbs⟩;have CL:=hid (xv hp);have LC:=hid hct;have TK:Hid (∀i,i < L.length→∀W,Below w.heap.size w W→W.cell? ⟨g,O+i * 4,none⟩=some (.int .i64 (Pc.tok L i).kind)∧W.cell? ⟨g,O+i * 4+1,none⟩=some (.string (Pc.tok L i).text)∧W.cell? ⟨g,O+i * 4+2,none⟩=some (.int .i64 (Pc.tok L i).num)):=fun i hi W hb=>uP (HT.out.next hb) hi;clear hp ht hV hs h40 hbs hct;obtain⟨R,hR⟩:∃R,Pg.limQ c L=R:=⟨_,rfl⟩;rw[hR]
 by_cases hlen:L.length≤3
 case pos =>
  have b0:¬(3:Int) < (L.length:Int):=by omega
  have RQ:Hid (R=(c,1)):=by unfold Hid;rw[← hR];unfold Pg.limQ;rw[if_pos hlen]
  clear hR hlen;go_enter Tryz.func92,Tryz.ntmps92;go_wp2;go_ret;exact⟨by rw[RQ.out];rfl,ze (by rw[RQ.out];show(1:Int)≠0;decide) (jX (Below.refl _ _))⟩
 have b0:(3:Int) < (L.length:Int):=by omega
 have HLN3:Hid (3 < L.length):=by unfold Hid;omega
 have RD:Hid (R=match Pg.amt (Pc.tok L 3).text with
  | none=>(c,1)
  | some a=>if Pg.sh L [Pc.wLimit,Pg.pN,Pc.wIs,(Pc.tok L 3).text,a,Pc.wIn,Pg.pD,Pc.wDays]=true then ({ c with ls:=c.ls++[⟨(Pc.tok L 1).text,(Pc.tok L 3).text,(Pc.tok L 4).num,(Pc.tok L 6).num⟩] },0) else (c,1)):=by unfold Hid;rw[← hR];unfold Pg.limQ;rw[if_neg hlen];rfl
 have SH:Hid (∀(W:World) (gb cp:Nat) (a:ByteArray) (b:Bool),Below w.heap.size w W→PtA W [Pc.wLimit,Pg.pN,Pc.wIs,(Pc.tok L 3).text,a,Pc.wIn,Pg.pD,Pc.wDays] gb 0→Pg.sh L [Pc.wLimit,Pg.pN,Pc.wIs,(Pc.tok L 3).text,a,Pc.wIn,Pg.pD,Pc.wDays]=b→Calls Tryz.prog 91 #[.slice (some ⟨g,O,none⟩) L.length cap,.slice (some ⟨gb,0,none⟩) 8 cp] W fun e w'=>e=.returned (.bool b)∧Below W.heap.size W w'):=fun W gb cp a b hb hP hq=>by
  have q:=zt L _ cap _ gb 0 cp W (HT.out.next hb) HS.out hP (by simp);rw[hq] at q;exact q
 have k3:=(TK.out 3 HLN3.out w (Below.refl _ _)).2.1;rw[show O+3 * 4+1=O+12+1 by omega] at k3;have NS31:Hid ((Pc.tok L 3).text.size≤9223372036854775807):=jC HS.out 3;have T3E:Hid ((Pc.tok L 3).text=(Pc.tok L 3).text):=rfl;obtain⟨t31,ht31⟩:∃z,(Pc.tok L 3).text=z:=⟨_,rfl⟩;have T31:=hid ht31;rw[ht31] at RD SH k3 NS31;clear ht31 hR hlen T3E;have ME:=hid (Jy t31)
 obtain m|⟨P,q,AM,mk,hP⟩:yn t31=0∨∃(P:_) (q:Int),Pg.amt t31=some P∧xc t31=q∧((P=Pg.pD∧q=2)∨(P=Pg.pT∧q=3)):=by
  rcases vV t31 with m|m|m
  ·exact .inl m
  ·exact .inr ⟨Pg.pD,2,by unfold Pg.amt;rw[m];rfl,by rw[ME.out,m];rfl,.inl ⟨rfl,rfl⟩⟩
  ·exact .inr ⟨Pg.pT,3,by unfold Pg.amt;rw[m];rfl,by rw[ME.out,m];rfl,.inr ⟨rfl,rfl⟩⟩
 ·have RQ:Hid (R=(c,1)):=by unfold Hid;rw[RD.out];unfold Pg.amt;rw[m];rfl
  have mk:xc t31=0:=(by rw[ME.out,m];rfl);have MK:=hid mk;clear m mk ME;go_enter Tryz.func92,Tryz.ntmps92;go_wp2_with (go_at_call 48;refine(je t31 w).mono ?_;rw[MK.out];rintro e w' ⟨rfl,rfl⟩);go_ret;exact⟨by rw[RQ.out];rfl,ze (by rw[RQ.out];show(1:Int)≠0;decide) (jX (Below.refl _ _))⟩
 ·have MK := hid mk;clear mk ME;cases hsh:Pg.sh L [Pc.wLimit,Pg.pN,Pc.wIs,t31,P,Pc.wIn,Pg.pD,Pc.wDays] with
  | false =>
    rcases hP with ⟨rfl,rfl⟩|⟨rfl,rfl⟩
    all_goals
     have RQ:Hid (R=(c,1)):=(by unfold Hid;rw[RD.out,AM];dsimp only;rw[hsh];rfl);have HSH:=hid hsh;clear hsh AM RD;go_enter Tryz.func92,Tryz.ntmps92;go_upto_region 8 with (go_at_call 48;refine(je t31 w).mono ?_;rw[MK.out];rintro e w' ⟨rfl,rfl⟩);go_wp2_with fail
     (first|refine(SH.out _ _ _ Pg.pD _ (ya _ _) (qW _ _ _ rfl _) HSH.out).mono ?_|refine(SH.out _ _ _ Pg.pT _ (ya _ _) (qW _ _ _ rfl _) HSH.out).mono ?_)
     rintro e w3 ⟨rfl,hb⟩;have B3:=hid ((ya _ _).trans (hb.mono (by simp)));clear hb;go_wp2;go_ret;exact⟨by rw[RQ.out];rfl,ze (by rw[RQ.out];show(1:Int)≠0;decide) (jX B3.out)⟩
  | true =>
    rcases hP with ⟨rfl,rfl⟩|⟨rfl,rfl⟩
    all_goals
     have RQ:Hid (R=({ c with ls:=c.ls++[⟨(Pc.tok L 1).text,t31,(Pc.tok L 4).num,(Pc.tok L 6).num⟩] },0)):=(by unfold Hid;rw[RD.out,AM];dsimp only;rw[hsh];rfl);have HLN:Hid (L.length=8):=Pg.sh_len hsh;have HSH:=hid hsh;clear hsh AM RD;have ix1:(1:Int) < (L.length:Int):=(by have:=HLN.out;omega);have IX1:Hid (1 < L.length):=(by have:=HLN.out;unfold Hid;omega);have ix4:(4:Int) < (L.length:Int):=(by have:=HLN.out;omega);have IX4:Hid (4 < L.length):=(by have:=HLN.out;unfold Hid;omega);have ix6:(6:Int) < (L.length:Int):=(by have:=HLN.out;omega);have IX6:Hid (6 < L.length):=(by have:=HLN.out;unfold Hid;omega);have TK11:Hid (∀wq,Below w.heap.size w wq→wq.cell? ⟨g,O+1 * 4+1,none⟩=some (.string (Pc.tok L 1).text)):=fun wq hb=>(TK.out 1 IX1.out wq hb).2.1;have NS11:Hid ((Pc.tok L 1).text.size≤9223372036854775807):=jC HS.out 1;obtain⟨t11,ht11⟩:∃z,(Pc.tok L 1).text=z:=⟨_,rfl⟩;rw[ht11] at TK11 NS11 RQ;have TK42:Hid (∀wq,Below w.heap.size w wq→wq.cell? ⟨g,O+4 * 4+2,none⟩=some (.int .i64 (Pc.tok L 4).num)):=fun wq hb=>(TK.out 4 IX4.out wq hb).2.2;have NS42:Hid (Bd (Pc.tok L 4).num):=xo HVV.out 4;obtain⟨t42,ht42⟩:∃z,(Pc.tok L 4).num=z:=⟨_,rfl⟩;rw[ht42] at TK42 NS42 RQ;have TK62:Hid (∀wq,Below w.heap.size w wq→wq.cell? ⟨g,O+6 * 4+2,none⟩=some (.int .i64 (Pc.tok L 6).num)):=fun wq hb=>(TK.out 6 IX6.out wq hb).2.2;have NS62:Hid (Bd (Pc.tok L 6).num):=xo HVV.out 6;obtain⟨t62,ht62⟩:∃z,(Pc.tok L 6).num=z:=⟨_,rfl⟩;rw[ht62] at TK62 NS62 RQ;have ix3:(3:Int) < (L.length:Int):=(by have:=HLN.out;omega);have IX3:Hid (3 < L.length):=by have:=HLN.out;unfold Hid;omega
     have TK31:Hid (∀wq,Below w.heap.size w wq→wq.cell? ⟨g,O+3 * 4+1,none⟩=some (.string t31)):=fun wq hb=>by
      have q:=(TK.out 3 IX3.out wq hb).2.1;rw[T31.out] at q;exact q
     have LD:Hid (D.ls.length≤1000):=(by have:=CL.out;have:=LC.out;unfold Hid;omega);go_enter Tryz.func92,Tryz.ntmps92;go_upto_region 8 with (go_at_call 48;refine(je t31 w).mono ?_;rw[MK.out];rintro e w' ⟨rfl,rfl⟩);go_upto_region 10 with (go_at_call 91;(first|refine(SH.out _ _ _ Pg.pD _ (ya _ _) (qW _ _ _ rfl _) HSH.out).mono ?_|refine(SH.out _ _ _ Pg.pT _ (ya _ _) (qW _ _ _ rfl _) HSH.out).mono ?_);rintro e w6 ⟨rfl,hb⟩;have B6:=hid ((ya _ _).trans (hb.mono (by simp)));clear hb);clear k3;obtain⟨ir,hir,hir0,hir1,hir2⟩:=info_parts Tryz.infoLiP;have P6:=hid (PV.out.next B6.out);obtain⟨pv,cv,hv⟩:∃pv cv,vs 4=.slice pv D.ls.length cv:=qS (P6.out.rows.ow 4);have HV:=hid hv;clear hv;have EX:Hid (∀wq,Ext w6.drew wq→Below w.heap.size w wq):=fun wq hq=>(B6.out.drew).trans (Below.mono hq (by have:=B6.out.size;simpa using this));have PX:Hid (∀wq,Ext w6.drew wq→PgV wq bs rb mb n c vs D):=fun wq hq=>PV.out.next (EX.out wq hq)
     have EXN:Hid (∀wq,Ext w6.drew wq→Below w6.heap.size w6 wq):=fun wq hq=>((Below.refl _ _).drew).trans (Below.mono hq (by simp));have HB0:Hid (w6.heap.size≤w6.drew.heap.size):=(by unfold Hid;simp);have OB:Hid (bs≤w6.heap.size∧rb < bs):=⟨Nat.le_trans LB.out.2 B6.out.size,LB.out.1⟩;have CB:Hid (∀wq,Ext w6.drew wq→wq.cell? ⟨rb,11,none⟩=some (.slice pv D.ls.length cv)):=fun wq hq=>by rw[← HV.out];exact(PX.out wq hq).box.c11
     have TC11:Hid (∀wq,Ext w6.drew wq→wq.cell? ⟨g,O+1 * 4+1,none⟩=some (.string t11)):=fun wq hq=>TK11.out wq (EX.out wq hq);have TC31:Hid (∀wq,Ext w6.drew wq→wq.cell? ⟨g,O+3 * 4+1,none⟩=some (.string t31)):=fun wq hq=>TK31.out wq (EX.out wq hq);have TC42:Hid (∀wq,Ext w6.drew wq→wq.cell? ⟨g,O+4 * 4+2,none⟩=some (.int .i64 t42)):=fun wq hq=>TK42.out wq (EX.out wq hq);have TC62:Hid (∀wq,Ext w6.drew wq→wq.cell? ⟨g,O+6 * 4+2,none⟩=some (.int .i64 t62)):=fun wq hq=>TK62.out wq (EX.out wq hq);refine yN glT (glG rb g O L.length cap D.ls.length cv w6.heap.size pv t11 t31 t42 t62) 24 28 (fun x w1 w'=>∃pn cn,x 55=.slice pn (D.ls.length+1) cn∧w'.ownsRow bs 91 4 (.slice pn (D.ls.length+1) cn) (D.ls.length+1) (D.ls.flatMap zU++zU ⟨t11,t31,t42,t62⟩)∧w1.grownBy w' (vs 4).ownBlock∧((Value.slice pn (D.ls.length+1) cn).ownBlock=(vs 4).ownBlock∨(Value.slice pn (D.ls.length+1) cn).ownBlock=some w1.heap.size)) (fun x w1 w'=>∃pn cn we,w'=we.setCell ⟨rb,11,none⟩ (.slice pn (D.ls.length+1) cn)∧we.ownsRow bs 91 4 (.slice pn (D.ls.length+1) cn) (D.ls.length+1) (D.ls.flatMap zU++zU ⟨t11,t31,t42,t62⟩)∧w1.grownBy we (vs 4).ownBlock∧((Value.slice pn (D.ls.length+1) cn).ownBlock=(vs 4).ownBlock∨(Value.slice pn (D.ls.length+1) cn).ownBlock=some w1.heap.size)) (by kernel_rfl) (by kernel_rfl) (fun i v w w' h he=>Wl.ext h he) (fun i=>decide (i≠0∧i≠25∧i≠26∧i≠27∧i < 24)) (by kernel_rfl) (by kernel_rfl) (by decide) ?hst ?hpu ?hla ?hyo ?hfin
     case hst =>
      intro i o ho hz hy
      match i,ho with
      | 0,ho=>exact qI ho fun a w3 hx qq qa=>⟨rfl,_,run_move (.tmp 0) (.pointer (some ⟨rb,0,none⟩)) (qq 0 rfl),rfl⟩
      | 1,ho=>exact qI ho fun a w3 hx qq qa=>⟨rfl,_,run_move (.tmp 0) (.pointer (some ⟨rb,0,none⟩)) (qq 0 rfl),rfl⟩
      | 2,ho=>exact qI ho fun a w3 hx qq qa=>⟨rfl,_,qL (.tmp 32) ⟨rb,0,none⟩ (qa 32 1 rfl rfl),rfl⟩
      | 3,ho=>exact qI ho fun a w3 hx qq qa=>⟨rfl,_,yf (.tmp 33) rb (qa 33 2 rfl rfl),rfl⟩
      | 4,ho=>exact qI ho fun a w3 hx qq qa=>⟨rfl,_,yg (.tmp 34) rb 11 (by decide) (qa 34 3 rfl rfl),rfl⟩
      | 5,ho=>exact qI ho fun a w3 hx qq qa=>⟨rfl,_,ye (.tmp 35) ⟨rb,11,none⟩ 40 (by decide) _ (qa 35 4 rfl rfl) (CB.out w3 hx),rfl⟩
      | 6,ho=>exact qI ho fun a w3 hx qq qa=>⟨rfl,_,run_move (.tmp 1) (.slice (some ⟨g,O,none⟩) L.length cap) (qq 1 rfl),rfl⟩
      | 7,ho=>exact qI ho fun a w3 hx qq qa=>⟨rfl,_,yI (.tmp 37) g O L.length cap 1 rfl IX1.out (qa 37 6 rfl rfl),rfl⟩
      | 8,ho=>exact qI ho fun a w3 hx qq qa=>⟨rfl,_,yA (.tmp 38) g (O+1 * 4) 1 (by decide) (qa 38 7 rfl rfl),rfl⟩
      | 9,ho=>exact qI ho fun a w3 hx qq qa=>⟨rfl,_,ye (.tmp 39) ⟨g,O+1 * 4+1,none⟩ 9 (by decide) (.string t11) (qa 39 8 rfl rfl) (TC11.out w3 hx),rfl⟩
      | 10,ho=>exact qI ho fun a w3 hx qq qa=>⟨rfl,_,run_move (.tmp 1) (.slice (some ⟨g,O,none⟩) L.length cap) (qq 1 rfl),rfl⟩
      | 11,ho=>exact qI ho fun a w3 hx qq qa=>⟨rfl,_,yI (.tmp 41) g O L.length cap 3 rfl IX3.out (qa 41 10 rfl rfl),rfl⟩
      | 12,ho=>exact qI ho fun a w3 hx qq qa=>⟨rfl,_,yA (.tmp 42) g (O+3 * 4) 1 (by decide) (qa 42 11 rfl rfl),rfl⟩
      | 13,ho=>exact qI ho fun a w3 hx qq qa=>⟨rfl,_,ye (.tmp 43) ⟨g,O+3 * 4+1,none⟩ 9 (by decide) (.string t31) (qa 43 12 rfl rfl) (TC31.out w3 hx),rfl⟩
      | 14,ho=>exact qI ho fun a w3 hx qq qa=>⟨rfl,_,run_move (.tmp 1) (.slice (some ⟨g,O,none⟩) L.length cap) (qq 1 rfl),rfl⟩
      | 15,ho=>exact qI ho fun a w3 hx qq qa=>⟨rfl,_,yI (.tmp 45) g O L.length cap 4 rfl IX4.out (qa 45 14 rfl rfl),rfl⟩
      | 16,ho=>exact qI ho fun a w3 hx qq qa=>⟨rfl,_,yA (.tmp 46) g (O+4 * 4) 2 (by decide) (qa 46 15 rfl rfl),rfl⟩
      | 17,ho=>exact qI ho fun a w3 hx qq qa=>⟨rfl,_,ye (.tmp 47) ⟨g,O+4 * 4+2,none⟩ 3 (by decide) (.int .i64 t42) (qa 47 16 rfl rfl) (TC42.out w3 hx),rfl⟩
      | 18,ho=>exact qI ho fun a w3 hx qq qa=>⟨rfl,_,run_move (.tmp 1) (.slice (some ⟨g,O,none⟩) L.length cap) (qq 1 rfl),rfl⟩
      | 19,ho=>exact qI ho fun a w3 hx qq qa=>⟨rfl,_,yI (.tmp 49) g O L.length cap 6 rfl IX6.out (qa 49 18 rfl rfl),rfl⟩
      | 20,ho=>exact qI ho fun a w3 hx qq qa=>⟨rfl,_,yA (.tmp 50) g (O+6 * 4) 2 (by decide) (qa 50 19 rfl rfl),rfl⟩
      | 21,ho=>exact qI ho fun a w3 hx qq qa=>⟨rfl,_,ye (.tmp 51) ⟨g,O+6 * 4+2,none⟩ 3 (by decide) (.int .i64 t62) (qa 51 20 rfl rfl) (TC62.out w3 hx),rfl⟩
      | 22,ho=>exact qI ho fun a w3 hx qq qa=>⟨rfl,_,vF (.tmp 40) (.tmp 44) (.tmp 48) (.tmp 52) t11 t31 t42 t62 (qa 40 9 rfl rfl) (qa 44 13 rfl rfl) (qa 48 17 rfl rfl) (qa 52 21 rfl rfl),rfl⟩
      | 23,ho=>obtain rfl:=inj ho;intro a w3 hx qq qa qM;have hz:=(hx.size:(w6.drew).heap.size≤w3.heap.size);exact⟨rfl,yL (QU (.tmp 53) (.string t11) (.string t31) (.int .i64 t42) (.int .i64 t62) (qa 53 22 rfl rfl)) (Ext.alloc _ _) (QM w3 w6.heap.size (Nat.le_trans HB0.out hz) (.string t11) (.string t31) (.int .i64 t42) (.int .i64 t62) _)⟩
      | 24,ho=>exact absurd rfl hz
      | 25,ho=>exact qI ho fun a w3 hx qq qa=>⟨rfl,_,qL (.tmp 31) ⟨rb,0,none⟩ (qa 31 0 rfl rfl),rfl⟩
      | 26,ho=>exact qI ho fun a w3 hx qq qa=>⟨rfl,_,yf (.tmp 56) rb (qa 56 25 rfl rfl),rfl⟩
      | 27,ho=>exact qI ho fun a w3 hx qq qa=>⟨rfl,_,yg (.tmp 57) rb 11 (by decide) (qa 57 26 rfl rfl),rfl⟩
      | 28,ho=>exact absurd rfl hy
      | i+29,ho=>cases ho
     case hpu =>
      intro i o ho hz hy
      match i,ho with
      | 0,ho=>obtain rfl:=inj ho;refine .inr ?_;intro a w1 w3 hx yD qq qa qM hf;exact⟨rfl,qD (run_move (.tmp 0) (.pointer (some ⟨rb,0,none⟩)) (qq 0 rfl)) ⟨_,rfl,rfl,fun _=>rfl,jj (by decide) hf⟩⟩
      | 1,ho=>exact .inl rfl
      | 2,ho=>exact .inl rfl
      | 3,ho=>exact .inl rfl
      | 4,ho=>exact .inl rfl
      | 5,ho=>exact .inl rfl
      | 6,ho=>exact .inl rfl
      | 7,ho=>exact .inl rfl
      | 8,ho=>exact .inl rfl
      | 9,ho=>exact .inl rfl
      | 10,ho=>exact .inl rfl
      | 11,ho=>exact .inl rfl
      | 12,ho=>exact .inl rfl
      | 13,ho=>exact .inl rfl
      | 14,ho=>exact .inl rfl
      | 15,ho=>exact .inl rfl
      | 16,ho=>exact .inl rfl
      | 17,ho=>exact .inl rfl
      | 18,ho=>exact .inl rfl
      | 19,ho=>exact .inl rfl
      | 20,ho=>exact .inl rfl
      | 21,ho=>exact .inl rfl
      | 22,ho=>exact .inl rfl
      | 23,ho=>exact .inl rfl
      | 24,ho=>exact absurd rfl hz
      | 25,ho=>obtain rfl:=inj ho;refine .inr ?_;intro a w1 w3 hx yD qq qa qM hf;exact⟨rfl,qD (qL (.tmp 31) ⟨rb,0,none⟩ (qa 31 0 rfl rfl)) ⟨_,rfl,rfl,fun _=>rfl,jj (by decide) hf⟩⟩
      | 26,ho=>obtain rfl:=inj ho;refine .inr ?_;intro a w1 w3 hx yD qq qa qM hf;exact⟨rfl,qD (yf (.tmp 56) rb (qa 56 25 rfl rfl)) ⟨_,rfl,rfl,fun _=>rfl,jj (by decide) hf⟩⟩
      | 27,ho=>obtain rfl:=inj ho;refine .inr ?_;intro a w1 w3 hx yD qq qa qM hf;exact⟨rfl,qD (yg (.tmp 57) rb 11 (by decide) (qa 57 26 rfl rfl)) ⟨_,rfl,rfl,fun _=>rfl,jj (by decide) hf⟩⟩
      | 28,ho=>exact absurd rfl hy
      | i+29,ho=>cases ho
     case hla =>
      intro o ho;obtain rfl:=inj ho;intro a w3 hx yD qq qa qM;obtain⟨b,h1,h2,h3,h4⟩:=(qa 54 23 rfl rfl:(Wl.row w6.heap.size (zU ⟨t11,t31,t42,t62⟩)).ok (a.tmps.getD 54 undef) w3);have h5:a.tmps.getD 36 undef=.slice pv D.ls.length cv:=qa 36 5 rfl rfl;have PQ:=PX.out w3 hx;have OW:w3.ownsRow bs 91 4 (.slice pv D.ls.length cv) D.ls.length (D.ls.flatMap zU):=(by have q:=PQ.rows.ow 4;rw[← HV.out];exact q);refine⟨rfl,?_⟩;refine yp w3 rfl (.tmp 36) (.tmp 54) 40 rfl bs 91 ir (.agg #[.string ⟨#[]⟩,.string ⟨#[]⟩,.int .i64 0,.int .i64 0]) 4 48 Tryz.underlying40 hir hir0 hir1 hir2 rfl (by decide) (.slice pv D.ls.length cv) D.ls.length (D.ls.flatMap zU) h5 OW ⟨b,0,none⟩ 1 1 (zU ⟨t11,t31,t42,t62⟩) h1 rfl (fun j u hj=>by have q:=h4 j u hj;by_cases e:j=0;(subst e;simpa [Addr.add] using q);simpa [Addr.add,e] using q) (Y8 _) (by have:=LD.out;unfold maxLen;omega) (by have:=LD.out;omega) (by have q1:=OB.out;have q2:w6.drew.heap.size≤w3.heap.size:=hx.size;have q3:=HB0.out;omega) ?_;intro v' w' qB qe hob;obtain⟨pn,cn,hvn⟩:=qS qB;subst hvn;refine⟨_,rfl,fun _=>trivial,pn,cn,?_,qB,by rw[HV.out];exact qe,by rw[HV.out];exact hob⟩
      show(a.put (some 55) _).tmps.getD 55 undef=_
      rw[yj,if_pos ⟨rfl,by rw[yD];exact(show(55:Nat) < 59 from by decide)⟩]
     case hyo =>
      intro o ho;obtain rfl:=inj ho;intro a w1 w3 hx yD qq qa qM hf;obtain⟨pn,cn,h1,qB,qe,hob⟩:=hf;have h2:a.tmps.getD 58 undef=.pointer (some ⟨rb,11,none⟩):=qa 58 27 rfl rfl;have PQ:=PX.out w1 hx;have GB:=PQ.box.grown qe (by rw[HV.out];exact fun e'=>by have q:=((PQ.rows.ow 4).lt rb (by show(vs 4).ownBlock=_;rw[HV.out];exact e'.symm)).1;have:=OB.out;omega);exact⟨rfl,yV (zJ (.tmp 58) (.tmp 55) ⟨rb,11,none⟩ 40 (by decide) pn _ cn _ h2 h1 GB.c11 GB.f11) ⟨undef,rfl,fun h=>absurd h (by decide),pn,cn,w3,rfl,qB,qe,hob⟩⟩
     case hfin =>
      rintro x w1 w9 h1 h2 ⟨pn,cn,we,rfl,qB,qe,hob⟩
      have APP:Hid (True→PgV (we.setCell ⟨rb,11,none⟩ (.slice pn (D.ls.length+1) cn)) bs rb mb n { c with ls:=c.ls++[⟨t11,t31,t42,t62⟩] } (qO vs 4 (.slice pn (D.ls.length+1) cn)) { D with ls:=D.ls++[⟨t11,t31,t42,t62⟩] }):=fun hcd=>by
       have q:=PgV.app4 (PX.out w1 h1) ⟨t11,t31,t42,t62⟩ (⟨NS42.out,NS62.out,NS11.out,NS31.out⟩) qB qe hob
       skip
       exact q
      have BEL:Hid (∀m,m≤rb→m≤mb→m≤bs→m≤w.heap.size→Below m w (we.setCell ⟨rb,11,none⟩ (.slice pn (D.ls.length+1) cn))):=(fun m q1 _ q2 q3=>yE (qP (EX.out w1 h1) q3) q3 qe (fun g' e'=>Nat.le_trans q2 (((PX.out w1 h1).rows.ow 4).lt g' e').1) q1 _ _);clear h1 h2 qB qe hob;generalize we.setCell ⟨rb,11,none⟩ (.slice pn (D.ls.length+1) cn)=w9 at *;dsimp only[frameT,glT,List.foldl];generalize x 31=q31;generalize x 32=q32;generalize x 33=q33;generalize x 34=q34;generalize x 35=q35;generalize x 36=q36;generalize x 37=q37;generalize x 38=q38;generalize x 39=q39;generalize x 40=q40;generalize x 41=q41;generalize x 42=q42;generalize x 43=q43;generalize x 44=q44;generalize x 45=q45;generalize x 46=q46;generalize x 47=q47;generalize x 48=q48;generalize x 49=q49;generalize x 50=q50;generalize x 51=q51;generalize x 52=q52;generalize x 53=q53;generalize x 54=q54;generalize x 55=q55;generalize x 56=q56;generalize x 57=q57;generalize x 58=q58;clear x;go_simp;go_wp2_with fail;go_ret;exact⟨by rw[RQ.out];rfl,JL (fun _=>⟨by rw[RQ.out],APP.out trivial⟩) BEL.out⟩
end Go.Proofs.YtcejjdmnlejbaaaGreatDoor
