import Derived.Deep.RegionLaw
import Derived.Deep.AppendLies
import Derived.Test.YtcejjdmnlejbaaaGreatDoorVPzU
namespace Go.Proofs.YtcejjdmnlejbaaaGreatDoor
open Lib(hid)
set_option linter.unusedVariables false
set_option linter.unusedSimpArgs false
open Go.ChangeShapes Go.WideShapes Go.ChangeAt Go.RowKit
open Go.Deep (BT)
set_option maxHeartbeats 8000000
set_option maxRecDepth 100000
theorem zv{P:Program}{ops:Array Oper}{o:Oper}{a:Act}{w:World}{K:Act→World→Prop}{Q:Exit→Act→World→Prop}{E:Prop}(hgd:o.guard=none)(h:Oper.wp P o a w K Q) :
 if Region.wanted o (yielded ops a.tmps)=true then Oper.wp P o a w K Q else E:=by
 have hw:Region.wanted o (yielded ops a.tmps)=true:=by simp[Region.wanted,hgd]
 rw[if_pos hw];exact h
namespace Pz
theorem Env.put0{w W:World}{sb:Nat}{St:World→Prop}{gv:List Ch}{bs:List (Nat× Ch)}{ts:List Ch}{k:Nat}{c0:Ch}(E:Env w W sb St gv ((k,c0) :: bs) ts)(c:Ch)(h1:c0.a.num=c.a.num)(h2:c0.a.name=c.a.name)(h3:c0.a.ptr=c.a.ptr)(h4:len c0.k=len c.k)(h5:c0.a.cap=c.a.cap) :
 Env w (W.setCell ⟨k,0,none⟩ (.int .i64 c.a.op)) sb St gv ((k,c) :: bs) ts:=by
 have hk:=E.bx (k,c0) (by simp);have hg:W.grownBy (W.setCell ⟨k,0,none⟩ (.int .i64 c.a.op)) (some k):=yR (p:=⟨k,0,none⟩) (jm _ _) _;have hkw:w.heap.size≤k:=hk.2;have hkl:k < W.heap.size:=hk.1.lt;have qN:=E.lt;refine⟨E.cl _ _ E.st (below_of_gb hg (by omega) hkl),E.cl,E.lt,gb_next E.gr (below_of_gb hg hkw hkl),fun q hq=>?_,?_,fun d hd=>?_⟩
 ·rcases List.mem_cons.1 hq with rfl|hq
  ·obtain ⟨c0,c1,c2,c3,f0,f1,f2,f3,lt⟩:=hk.1;dsimp only at c0 c1 c2 c3 f0 f1 f2 f3 lt;rw[h1] at c1;rw[h2] at c2;rw[h3,h4,h5] at c3;refine⟨⟨?_,?_,?_,?_,?_,?_,?_,?_,?_⟩,hk.2⟩<;>simp[go_sem,c0,c1,c2,c3,f0,f1,f2,f3,lt]
  ·have hn:=(List.pairwise_cons.1 E.nd).1 q hq;exact⟨(E.bx q (by simp[hq])).1.grown hg (fun e=>hn (Option.some.inj e).symm),(E.bx q (by simp[hq])).2⟩
 ·exact List.pairwise_cons.2 ⟨fun q hq=>(List.pairwise_cons.1 E.nd).1 q hq,(List.pairwise_cons.1 E.nd).2⟩
 ·have ht:=E.tr d hd;refine⟨⟨ht.1.1,fat_grown ht.1.2 (ht.2.2.1 (k,c0) (by simp)) hg⟩,ht.2.1,(fun q hq=>?_),ht.2.2.2⟩;rcases List.mem_cons.1 hq with rfl|hq
  ·exact ht.2.2.1 (k,c0) (by simp)
  ·exact ht.2.2.1 q (by simp[hq])
def aft(L:List Tk.T4)(op:Int)(l:List Ch)(j:Nat):R:=if 2≤l.length∧isw L j wShut=true then (some (tn op l),j+1) else if isw L j wComma=true then pv L (.liL op l) (j+1) else (none,j)
theorem liL_aft(L:List Tk.T4)(op:Int)(l:List Ch)(j:Nat)(hj:j≤L.length):pv L (.liL op l) j=bnd (pv L .ex j) fun a k=>aft L op (l++[a]) k:=by
 rw[pv_step L _ j hj];unfold step;dsimp only
 congr 1
 funext a k
 unfold aft;rw[List.length_append]
 have e:(2≤l.length+[a].length∧isw L k wShut=true)↔(1≤l.length∧isw L k wShut=true):=by
  rw[show l.length+[a].length=l.length+1 from rfl];constructor
  ·rintro ⟨h,k⟩;exact⟨by omega,k⟩
  ·rintro ⟨h,k⟩;exact⟨by omega,k⟩
 by_cases hq:1≤l.length∧isw L k wShut=true
 ·rw[if_pos hq,if_pos (e.2 hq)]
 ·rw[if_neg hq,if_neg (fun h=>hq (e.1 h))]
structure Row (n:Nat) (xs:List Value) (l:List Ch) (ts:List Ch):Prop where
 hn:n=l.length
 hx:xs=zR l
 hm:∀c∈ l,c∈ ts
end Pz
theorem xJ(l:List Ch)(c:Ch):zR l++jI c=zR (l++[c]):=(Pz.rowC_snoc l c).symm
theorem xy{p q:Option Addr}{n m a b:Nat}(h:Value.slice p n a=.slice q m b):p=q∧a=b:=by injection h with h1 h2 h3;exact⟨h1,h3⟩
theorem KT(L : List Tk.T4)(i:Nat)(hi:i < L.length)(op:Int)(hop:(op=12∧Pz.isw L i Pz.wMax=false)∨(op=13∧Pz.isw L i Pz.wMax=true))(h2:∀j,i < j→j≤L.length→RC 133 L .ex j):RX L op i:=by
 intro sb p cap w h;obtain⟨i0,hi0,hi1,hi2,hi3⟩:=info_parts Tryz.infoEx;have C2:=hid h2;have hL4:=h.1.ls.1;have PV:Hid (Pz.pv L (.li op) (i+1)=Pz.step L (Pz.pv L) (.li op) (i+1)):=Pz.pv_step L (.li op) (i+1) hi;unfold Pz.step at PV;dsimp only at PV;have E0:Hid (Pz.Env w w sb (jZ sb L p cap i) [] [] []):=Pz.Env.init h (qZ _ _ _ _ _) (jo h) (by intro c hc;cases hc);clear h h2;go_enter Tryz.func212,Tryz.ntmps212;go_wp2_with fail;have E1:=hid ((E0.out.box Pz.z0 #[.int .i64 0,.int .i64 0,.string ⟨#[]⟩,.slice none 0 0] rfl 24).box (Pz.xO 12 none 0 0) #[.int .i64 12,.int .i64 0,.string ⟨#[]⟩,.slice none 0 0] rfl 24);simp only[World.size_alloc] at E1;generalize (w.alloc (.cells #[.int .i64 0,.int .i64 0,.string ⟨#[]⟩,.slice none 0 0] 24)).alloc (.cells #[.int .i64 12,.int .i64 0,.string ⟨#[]⟩,.slice none 0 0] 24)=w1 at *;clear E0;refine(j8 sb L p cap i Pz.wMax w1 E1.out.st).mono ?_;rintro e w2 ⟨he,hb⟩;have E2:=hid (E1.out.below hb)
 have he2:e=.returned (.bool (decide (op=13))):=by
  rw[he];rcases hop with ⟨rfl,hq⟩|⟨rfl,hq⟩
  ·rw[hq];rfl
  ·rw[hq];rfl
 have hop2:op=12∨op=13:=hop.imp (fun h=>h.1) (fun h=>h.1);subst he2;clear he hb E1 hop
 go_upto_if 6 with (fail)
 go_cut [] (fun wx=>Hid (Pz.Env w wx sb (jZ sb L p cap i) [] [(w.heap.size+1,(Pz.xO op none 0 0)),(w.heap.size,Pz.z0)] []))
 case first =>
  obtain⟨y0,y1,y2,y3,yf0,yf1,yf2,yf3,yl⟩:=(E2.out.bx (w.heap.size+1,(Pz.xO 12 none 0 0)) (by simp)).1;dsimp only[Pz.xO,Pz.xN] at y0 y1 y2 y3 yf0 yf1 yf2 yf3 yl;rcases hop2 with rfl|rfl
  ·go_wp2
   first|go_meet|trace_state
   exact E2.out
  ·go_wp2
   go_meet
   exact E2.out.put0 (Pz.xO 13 none 0 0) rfl rfl rfl rfl rfl
 case rest =>
  have E3:=hid hcut.out;clear hcut E2;generalize wc=w3 at *;have c1:=E3.out.st.1.c1;have f1:=E3.out.st.1.f1;have sl:=E3.out.st.1.lt;go_upto_region 5 with (fail)
  have R4:Hid (Pz.EnvO w (w3.setCell ⟨sb,1,none⟩ (.int .i64 ((i:Int)+1))) sb (jZ sb L p cap (i+1)) [] [(w.heap.size+1,(Pz.xO op none 0 0)),(w.heap.size,Pz.z0)] [] 24 none 0 0 []) :=
   Pz.EnvO.init (E3.out.grown (St':=jZ sb L p cap (i+1)) ⟨(E3.out.st.1.setA _).1,hi⟩ (qZ _ _ _ _ _) (E3.out.st.1.setA _).2) _
  generalize w3.setCell ⟨sb,1,none⟩ (.int .i64 ((i:Int)+1))=w4 at *;clear E3 c1 f1 sl
  go_cut [] (fun wx=>∃(o:Option Ch) (j:Nat),Hid (Pz.EnvO w wx sb (ks sb L p cap o j) [] [(w.heap.size+1,(Pz.xO op none 0 0)),(w.heap.size,Pz.z0)] [] 24 none 0 0 []∧j≤L.length∧i < j∧(o=none→Pz.pv L (.li op) (i+1)=(none,j))∧(o.isSome=true→Pz.pv L (.li op) (i+1)=Pz.pv L (.liL op []) j)))
  case first =>
   by_cases hw:Pz.isw L (i+1) Pz.wOpen=true
   ·have hj:=Pz.isw_lt hw;rw[if_pos hw] at PV;go_wp2_with fail;refine(zE sb L p cap (i+1) _ _ R4.out.env.st hw).mono ?_;rintro e w5 ⟨rfl,hs,hg⟩;have R5:=hid (R4.out.grown (St':=ks sb L p cap (some Pz.z0) (i+1+1)) hs (qZ _ _ _ _ _) hg);clear hs hg hw;go_wp2
    go_meet
    exact⟨some Pz.z0,i+1+1,R5.out,hj,by omega,(fun h=>by cases h),fun _=>PV.out⟩
   ·have hw':Pz.isw L (i+1) Pz.wOpen=false:=by simpa using hw
    rw[if_neg hw] at PV;go_wp2_with fail;refine(j6 sb L p cap (i+1) _ _ R4.out.env.st hw').mono ?_;rintro e w5 ⟨rfl,hs,hg⟩;have R5:=hid (R4.out.grown (St':=ks sb L p cap none (i+1)) hs (zS _ _ _ _ _) hg);clear hs hg hw hw';go_wp2
    go_meet
    exact⟨none,i+1,R5.out,hi,by omega,(fun _=>PV.out),fun h=>by cases h⟩
  case rest =>
   clear PV R4;obtain⟨o1,j1,H5⟩:=hcut;obtain⟨hR,hjl,hij,hp1,hp2⟩:=H5.out;have R5:=hid hR;have PN:=hid hp1;have PS:=hid hp2;clear hR hp1 hp2 H5;generalize wc=w5 at *;obtain⟨q,qc,n,xs,hq,hn,hqc,hxs⟩:∃(q:Option Addr) (qc n:Nat) (xs:List Value),none=q∧0=n∧0=qc∧[]=xs:=⟨_,_,_,_,rfl,rfl,rfl,rfl⟩;have RX:Hid (Pz.EnvO w w5 sb (ks sb L p cap o1 j1) [] [(w.heap.size+1,(Pz.xO op q qc n)),(w.heap.size,Pz.z0)] [] 24 q qc n xs):=(by unfold Hid;rw[← hq,← hn,← hqc,← hxs];exact R5.out);have HW:Hid (n=0∧xs=[]):=⟨hn.symm,hxs.symm⟩;have hn4:n≤400:=(by omega);clear R5 hq hn hqc hxs;go_upto_region 6 with (fail)
   go_cut [] (fun wx=>∃(o:Option Ch) (j:Nat) (q:Option Addr) (qc:Nat) (xs:List Value) (ts l:List Ch),Hid (Pz.EnvO w wx sb (ks sb L p cap o j) [] [(w.heap.size+1,(Pz.xO op q qc (n+1))),(w.heap.size,Pz.z0)] ts 24 q qc (n+1) xs∧j≤L.length∧i < j∧(o=none→Pz.pv L (.li op) (i+1)=(none,j))∧(o.isSome=true→l.length=1∧Pz.Row (n+1) xs l ts∧Pz.pv L (.li op) (i+1)=Pz.aft L op (l.map Pz.nr) j)))
   case first =>
    cases o1 with
    | none =>
      have RD:=hid (RX.out.below ((Below.refl _ _).drew));have CC:=hid (KS L sb p cap j1 _ RD.out.env.st);obtain⟨y0,y1,y2,y3,yf0,yf1,yf2,yf3,yl⟩:=(RX.out.env.bx (w.heap.size+1,(Pz.xO op q qc n)) (by simp)).1;rw[Pz.xO_len] at y3;dsimp only[Pz.xO,Pz.xN] at y0 y1 y2 y3 yf0 yf1 yf2 yf3 yl
      go_region_law (first|(refine zv (by rfl) ?_;go_simp;go_at_call 133;refine CC.out.mono ?_;rintro e w9 ⟨d,rfl,hf⟩;obtain⟨ts9,hR,hc9,hs9⟩:=RD.out.go hf (qJ _ _ _ _ _ _) (by intro d hd;cases hd);have R9:=hid hR;have T9:=hid hc9;have U9:=hid hs9;clear hf hR hc9 hs9;obtain⟨x0,x1,x2,x3,xf0,xf1,xf2,xf3,xl⟩:=(R9.out.env.bx (w.heap.size+1,(Pz.xO op q qc n)) (by simp)).1;rw[Pz.xO_len] at x3;dsimp only[Pz.xO,Pz.xN] at x0 x1 x2 x3 xf0 xf1 xf2 xf3 xl)|(refine step_append_lies _ (by rfl) _ _ 22 (by rfl) w.heap.size 24 i0 (.agg #[.int .i64 0,.int .i64 0,.string ⟨#[]⟩,.slice none 0 0]) 4 56 Tryz.underlying22 hi0 hi1 hi2 hi3 rfl (by decide) (.slice q n qc) n xs (by rfl) (R9.out.own.alloc _) _ 1 1 (jI d) (by rfl) (by rfl) (kF _ _ _) (vc _) (by decide) (by unfold maxLen;omega) (by omega) (by have h9:=R9.out.env.gr.size;rw[World.size_alloc];omega) _ rfl ?_;intro g gc w10 qB qe hat hgl;have RA:=hid (R9.out.below ((Below.refl w9.heap.size w9).alloc (Nat.le_refl _) (.cells #[.int .i64 d.a.op,.int .i64 d.a.num,.string d.a.name,.slice d.a.ptr (len d.k) d.a.cap] 24)));obtain⟨q9,qc9,hv9,hB9,hR9⟩:=RA.out.app qB qe (hat.elim (fun h=>.inl h.symm) (fun h=>.inr (congrArg some h)));obtain⟨rfl,rfl⟩:=xy hv9;have RN:=hid hR9;obtain⟨z0,z1,z2,z3,zf0,zf1,zf2,zf3,zl⟩:=hB9;dsimp only[Pz.xO,Pz.xN] at z0 z1 z2 z3 zf0 zf1 zf2 zf3 zl;clear qB qe hat hv9 hR9 RA))
      all_goals (go_wp2;go_meet;exact⟨none,j1,_,_,_,_,[],RN.out,hjl,hij,(fun _=>PN.out (by first|rfl|trivial)),fun h=>by cases h⟩)
    | some x1 =>
      have PV:=hid (PS.out rfl);rw[Pz.liL_aft L op [] j1 hjl] at PV;have RD:=hid (RX.out.below ((Below.refl _ _).drew));have AD:Pz.Ok L j1 (Pz.pv L .ex j1) 1:=Pz.pv_adv L .ex j1 hjl;have CC:=hid (C2.out j1 hij hjl sb p cap _ RD.out.env.st);have AD9:Hid (Pz.Ok L j1 (Pz.pv L .ex j1) 1):=AD;generalize Pz.pv L .ex j1=r0 at *;obtain⟨o2,k⟩:=r0;have a1:=AD9.out.1;have a2:=AD9.out.2.1;dsimp only at a1 a2;rw[Pz.bnd_goL] at PV;obtain⟨y0,y1,y2,y3,yf0,yf1,yf2,yf3,yl⟩:=(RX.out.env.bx (w.heap.size+1,(Pz.xO op q qc n)) (by simp)).1;rw[Pz.xO_len] at y3;dsimp only[Pz.xO,Pz.xN] at y0 y1 y2 y3 yf0 yf1 yf2 yf3 yl
      go_region_law (first|(refine zv (by rfl) ?_;go_simp;go_at_call 133;refine CC.out.mono ?_;rintro e w9 ⟨d,rfl,hf⟩;obtain⟨ts9,hR,hc9,hs9⟩:=RD.out.go hf (qJ _ _ _ _ _ _) (by intro d hd;cases hd);have R9:=hid hR;have T9:=hid hc9;have U9:=hid hs9;clear hf hR hc9 hs9;obtain⟨x0,x1,x2,x3,xf0,xf1,xf2,xf3,xl⟩:=(R9.out.env.bx (w.heap.size+1,(Pz.xO op q qc n)) (by simp)).1;rw[Pz.xO_len] at x3;dsimp only[Pz.xO,Pz.xN] at x0 x1 x2 x3 xf0 xf1 xf2 xf3 xl)|(refine step_append_lies _ (by rfl) _ _ 22 (by rfl) w.heap.size 24 i0 (.agg #[.int .i64 0,.int .i64 0,.string ⟨#[]⟩,.slice none 0 0]) 4 56 Tryz.underlying22 hi0 hi1 hi2 hi3 rfl (by decide) (.slice q n qc) n xs (by rfl) (R9.out.own.alloc _) _ 1 1 (jI d) (by rfl) (by rfl) (kF _ _ _) (vc _) (by decide) (by unfold maxLen;omega) (by omega) (by have h9:=R9.out.env.gr.size;rw[World.size_alloc];omega) _ rfl ?_;intro g gc w10 qB qe hat hgl;have RA:=hid (R9.out.below ((Below.refl w9.heap.size w9).alloc (Nat.le_refl _) (.cells #[.int .i64 d.a.op,.int .i64 d.a.num,.string d.a.name,.slice d.a.ptr (len d.k) d.a.cap] 24)));obtain⟨q9,qc9,hv9,hB9,hR9⟩:=RA.out.app qB qe (hat.elim (fun h=>.inl h.symm) (fun h=>.inr (congrArg some h)));obtain⟨rfl,rfl⟩:=xy hv9;have RN:=hid hR9;obtain⟨z0,z1,z2,z3,zf0,zf1,zf2,zf3,zl⟩:=hB9;dsimp only[Pz.xO,Pz.xN] at z0 z1 z2 z3 zf0 zf1 zf2 zf3 zl;clear qB qe hat hv9 hR9 RA))
      all_goals
       go_wp2
       go_meet
       cases o2 with
       | none=>exact⟨none,k,_,_,_,_,[],RN.out,a2,by omega,(fun _=>by rw[PV.out,Pz.goL_none]),fun h=>by cases h⟩
       | some y =>
         refine⟨some y,k,_,_,_,_,[d],RN.out,a2,by omega,(fun h=>by cases h),fun _=>⟨rfl,⟨by rw[HW.out.1];rfl,by rw[HW.out.2,List.nil_append];unfold zR;simp,fun c hc=>by simp only[List.mem_cons,List.not_mem_nil,or_false] at hc;rw[hc];exact(T9.out y rfl).2⟩,?_⟩⟩;rw[PV.out,Pz.goL_some,List.map_cons,List.map_nil,(T9.out y rfl).1];rfl
   case rest =>
    clear RX PN PS HW;obtain⟨o2,j2,q2,qc2,xs2,ts2,l2,H7⟩:=hcut;obtain⟨hR,hjl2,hij2,hp1,hp2⟩:=H7.out;have R7:=hid hR;have PN:=hid hp1;have PS:=hid hp2;clear hR hp1 hp2 H7;generalize wc=w7 at *;go_upto_region 7 with (fail)
    go_cut [] (fun wx=>∃(o:Option Ch) (j:Nat),Hid (Pz.EnvO w wx sb (ks sb L p cap o j) [] [(w.heap.size+1,(Pz.xO op q2 qc2 (n+1))),(w.heap.size,Pz.z0)] ts2 24 q2 qc2 (n+1) xs2∧j≤L.length∧i < j∧(o=none→Pz.pv L (.li op) (i+1)=(none,j))∧(o.isSome=true→1 < j∧l2.length=1∧Pz.Row (n+1) xs2 l2 ts2∧Pz.pv L (.li op) (i+1)=Pz.bnd (Pz.pv L .ex j) fun a k=>Pz.aft L op (l2.map Pz.nr++[a]) k)))
    case first =>
     cases o2 with
     | none =>
       go_wp2_with fail;refine(zq sb L p cap j2 _ _ R7.out.env.st).mono ?_;rintro e w8 ⟨rfl,hb⟩;have R8:=hid (R7.out.below hb);clear hb;go_wp2
       go_meet
       exact⟨none,j2,R8.out,hjl2,hij2,(fun _=>PN.out (by first|rfl|trivial)),fun h=>by cases h⟩
     | some x1 =>
       obtain⟨hl1,hrow,hpv⟩:=PS.out rfl;have PV:=hid hpv;have RW:=hid hrow;have HL:=hid hl1;unfold Pz.aft at PV;rw[List.length_map,HL.out,if_neg (fun h=>absurd h.1 (by omega))] at PV;clear hl1 hrow hpv
       by_cases hw:Pz.isw L j2 Pz.wComma=true
       ·have hj:=Pz.isw_lt hw;rw[if_pos hw,Pz.liL_aft L op _ (j2+1) hj] at PV;go_wp2_with fail;refine(zE sb L p cap j2 _ _ R7.out.env.st hw).mono ?_;rintro e w8 ⟨rfl,hs,hg⟩;have R8:=hid (R7.out.grown (St':=ks sb L p cap (some Pz.z0) (j2+1)) hs (qZ _ _ _ _ _) hg);clear hs hg hw;go_wp2
        go_meet
        exact⟨some Pz.z0,j2+1,R8.out,hj,by omega,(fun h=>by cases h),fun _=>⟨by omega,HL.out,RW.out,PV.out⟩⟩
       ·have hw':Pz.isw L j2 Pz.wComma=false:=by simpa using hw
        rw[if_neg hw] at PV;go_wp2_with fail;refine(j6 sb L p cap j2 _ _ R7.out.env.st hw').mono ?_;rintro e w8 ⟨rfl,hs,hg⟩;have R8:=hid (R7.out.grown (St':=ks sb L p cap none j2) hs (zS _ _ _ _ _) hg);clear hs hg hw hw';go_wp2
        go_meet
        exact⟨none,j2,R8.out,hjl2,hij2,(fun _=>PV.out),fun h=>by cases h⟩
    case rest =>
     clear R7 PN PS;obtain⟨o3,j3,H8⟩:=hcut;obtain⟨hR,hjl3,hij3,hp1,hp2⟩:=H8.out;generalize wc=w8 at *;obtain⟨n3,hn3⟩:∃n3,n+1=n3:=⟨_,rfl⟩;have hn5:n3≤401:=(by omega);rw[hn3] at hR hp2;clear hn3;have RX:=hid (show Pz.EnvO w w8 sb (ks sb L p cap o3 j3) [] [(w.heap.size+1,Pz.xO op q2 qc2 n3),(w.heap.size,Pz.z0)] ts2 24 q2 qc2 n3 xs2 from hR);have PN:=hid hp1;have PS:=hid hp2;clear hR hp1 hp2 H8 hjl2 hij2 hjl hij;go_upto_region 8 with (fail)
     go_cut [] (fun wx=>∃(o:Option Ch) (j:Nat) (q:Option Addr) (qc m:Nat) (xs:List Value) (ts l:List Ch),Hid (Pz.EnvO w wx sb (ks sb L p cap o j) [] [(w.heap.size+1,(Pz.xO op q qc m)),(w.heap.size,Pz.z0)] ts 24 q qc m xs∧j≤L.length∧i < j∧(o=none→Pz.pv L (.li op) (i+1)=(none,j))∧(o.isSome=true→m≤j∧2≤l.length∧Pz.Row m xs l ts∧Pz.pv L (.li op) (i+1)=Pz.aft L op (l.map Pz.nr) j)))
     case first =>
      cases o3 with
      | none =>
        have RD:=hid (RX.out.below ((Below.refl _ _).drew));have CC:=hid (KS L sb p cap j3 _ RD.out.env.st);obtain⟨y0,y1,y2,y3,yf0,yf1,yf2,yf3,yl⟩:=(RX.out.env.bx (w.heap.size+1,(Pz.xO op q2 qc2 n3)) (by simp)).1;rw[Pz.xO_len] at y3;dsimp only[Pz.xO,Pz.xN] at y0 y1 y2 y3 yf0 yf1 yf2 yf3 yl
        go_region_law (first|(refine zv (by rfl) ?_;go_simp;go_at_call 133;refine CC.out.mono ?_;rintro e w9 ⟨d,rfl,hf⟩;obtain⟨ts9,hR,hc9,hs9⟩:=RD.out.go hf (qJ _ _ _ _ _ _) (by intro d hd;cases hd);have R9:=hid hR;have T9:=hid hc9;have U9:=hid hs9;clear hf hR hc9 hs9;obtain⟨x0,x1,x2,x3,xf0,xf1,xf2,xf3,xl⟩:=(R9.out.env.bx (w.heap.size+1,(Pz.xO op q2 qc2 n3)) (by simp)).1;rw[Pz.xO_len] at x3;dsimp only[Pz.xO,Pz.xN] at x0 x1 x2 x3 xf0 xf1 xf2 xf3 xl)|(refine step_append_lies _ (by rfl) _ _ 22 (by rfl) w.heap.size 24 i0 (.agg #[.int .i64 0,.int .i64 0,.string ⟨#[]⟩,.slice none 0 0]) 4 56 Tryz.underlying22 hi0 hi1 hi2 hi3 rfl (by decide) (.slice q2 n3 qc2) n3 xs2 (by rfl) (R9.out.own.alloc _) _ 1 1 (jI d) (by rfl) (by rfl) (kF _ _ _) (vc _) (by decide) (by unfold maxLen;omega) (by omega) (by have h9:=R9.out.env.gr.size;rw[World.size_alloc];omega) _ rfl ?_;intro g gc w10 qB qe hat hgl;have RA:=hid (R9.out.below ((Below.refl w9.heap.size w9).alloc (Nat.le_refl _) (.cells #[.int .i64 d.a.op,.int .i64 d.a.num,.string d.a.name,.slice d.a.ptr (len d.k) d.a.cap] 24)));obtain⟨q9,qc9,hv9,hB9,hR9⟩:=RA.out.app qB qe (hat.elim (fun h=>.inl h.symm) (fun h=>.inr (congrArg some h)));obtain⟨rfl,rfl⟩:=xy hv9;have RN:=hid hR9;obtain⟨z0,z1,z2,z3,zf0,zf1,zf2,zf3,zl⟩:=hB9;dsimp only[Pz.xO,Pz.xN] at z0 z1 z2 z3 zf0 zf1 zf2 zf3 zl;clear qB qe hat hv9 hR9 RA))
        all_goals (go_wp2;go_meet;exact⟨none,j3,_,_,_,_,_,[],RN.out,hjl3,hij3,(fun _=>PN.out (by first|rfl|trivial)),fun h=>by cases h⟩)
      | some x1 =>
        obtain⟨hj1,hl1,hrow,hpv⟩:=PS.out rfl;have PV:=hid hpv;have RW:=hid hrow;have HL:=hid hl1;clear hl1 hrow hpv;have RD:=hid (RX.out.below ((Below.refl _ _).drew));have AD:Pz.Ok L j3 (Pz.pv L .ex j3) 1:=Pz.pv_adv L .ex j3 hjl3;have CC:=hid (C2.out j3 (by omega) hjl3 sb p cap _ RD.out.env.st);have AD9:Hid (Pz.Ok L j3 (Pz.pv L .ex j3) 1):=AD;generalize Pz.pv L .ex j3=r0 at *;obtain⟨o5,k⟩:=r0;have a1:=AD9.out.1;have a2:=AD9.out.2.1;dsimp only at a1 a2;rw[Pz.bnd_goL] at PV;obtain⟨y0,y1,y2,y3,yf0,yf1,yf2,yf3,yl⟩:=(RX.out.env.bx (w.heap.size+1,(Pz.xO op q2 qc2 n3)) (by simp)).1;rw[Pz.xO_len] at y3;dsimp only[Pz.xO,Pz.xN] at y0 y1 y2 y3 yf0 yf1 yf2 yf3 yl
        go_region_law (first|(refine zv (by rfl) ?_;go_simp;go_at_call 133;refine CC.out.mono ?_;rintro e w9 ⟨d,rfl,hf⟩;obtain⟨ts9,hR,hc9,hs9⟩:=RD.out.go hf (qJ _ _ _ _ _ _) (by intro d hd;cases hd);have R9:=hid hR;have T9:=hid hc9;have U9:=hid hs9;clear hf hR hc9 hs9;obtain⟨x0,x1,x2,x3,xf0,xf1,xf2,xf3,xl⟩:=(R9.out.env.bx (w.heap.size+1,(Pz.xO op q2 qc2 n3)) (by simp)).1;rw[Pz.xO_len] at x3;dsimp only[Pz.xO,Pz.xN] at x0 x1 x2 x3 xf0 xf1 xf2 xf3 xl)|(refine step_append_lies _ (by rfl) _ _ 22 (by rfl) w.heap.size 24 i0 (.agg #[.int .i64 0,.int .i64 0,.string ⟨#[]⟩,.slice none 0 0]) 4 56 Tryz.underlying22 hi0 hi1 hi2 hi3 rfl (by decide) (.slice q2 n3 qc2) n3 xs2 (by rfl) (R9.out.own.alloc _) _ 1 1 (jI d) (by rfl) (by rfl) (kF _ _ _) (vc _) (by decide) (by unfold maxLen;omega) (by omega) (by have h9:=R9.out.env.gr.size;rw[World.size_alloc];omega) _ rfl ?_;intro g gc w10 qB qe hat hgl;have RA:=hid (R9.out.below ((Below.refl w9.heap.size w9).alloc (Nat.le_refl _) (.cells #[.int .i64 d.a.op,.int .i64 d.a.num,.string d.a.name,.slice d.a.ptr (len d.k) d.a.cap] 24)));obtain⟨q9,qc9,hv9,hB9,hR9⟩:=RA.out.app qB qe (hat.elim (fun h=>.inl h.symm) (fun h=>.inr (congrArg some h)));obtain⟨rfl,rfl⟩:=xy hv9;have RN:=hid hR9;obtain⟨z0,z1,z2,z3,zf0,zf1,zf2,zf3,zl⟩:=hB9;dsimp only[Pz.xO,Pz.xN] at z0 z1 z2 z3 zf0 zf1 zf2 zf3 zl;clear qB qe hat hv9 hR9 RA))
        all_goals
         go_wp2
         go_meet
         cases o5 with
         | none=>exact⟨none,k,_,_,_,_,_,[],RN.out,a2,by omega,(fun _=>by rw[PV.out,Pz.goL_none]),fun h=>by cases h⟩
         | some y =>
           refine⟨some y,k,_,_,_,_,_,l2++[d],RN.out,a2,by omega,(fun h=>by cases h),fun _=>⟨?_,?_,⟨?_,?_,?_⟩,?_⟩⟩
           ·have h8:=RW.out.hn;have h9:=HL.out;have h7:=AD9.out.2.2 rfl;dsimp only at h7;omega
           ·rw[List.length_append,HL.out];exact Nat.le_refl _
           ·rw[List.length_append,← RW.out.hn];rfl
           ·rw[RW.out.hx,xJ]
           ·intro c hc;rcases List.mem_append.1 hc with hc|hc
            ·exact U9.out c (RW.out.hm c hc)
            ·simp only[List.mem_cons,List.not_mem_nil,or_false] at hc;rw[hc];exact(T9.out y rfl).2
           ·rw[PV.out,Pz.goL_some,List.map_append,List.map_cons,List.map_nil,(T9.out y rfl).1]
     case rest =>
      clear RX PN PS;obtain⟨o4,j4,q4,qc4,m4,xs4,ts4,l4,H9⟩:=hcut;generalize wc=w11 at *;go_wp2_with fail
      go_loopg [34] (L.length - j4) (fun g u wr=>∃(o:Option Ch) (j:Nat) (q:Option Addr) (qc m:Nat) (xs:List Value) (ts l:List Ch),Hid (g=L.length - j∧Pz.EnvO w wr sb (ks sb L p cap o j) [] [(w.heap.size+1,(Pz.xO op q qc m)),(w.heap.size,Pz.z0)] ts 24 q qc m xs∧j≤L.length∧i < j∧(o=none→Pz.pv L (.li op) (i+1)=(none,j))∧(o.isSome=true→m≤j∧2≤l.length∧Pz.Row m xs l ts∧Pz.pv L (.li op) (i+1)=Pz.aft L op (l.map Pz.nr) j)))
      case atStart=>exact⟨o4,j4,q4,qc4,m4,xs4,ts4,l4,rfl,H9.out⟩
      case round =>
       clear H9;obtain⟨o4,j4,q,qc,n,xs,ts4,l4,HR⟩:=hrel;obtain⟨hg0,hR,hjl4,hij4,hp1,hp2⟩:=HR.out;have RX:=hid hR;have HG:=hid hg0;have PN:=hid hp1;have PS:=hid hp2;clear hg0 hR hp1 hp2 HR;cases o4 with
       | none =>
         go_wp2_with fail;refine(qT sb L p cap j4 _ _ RX.out.env.st).mono ?_;rintro e w12 ⟨rfl,hb⟩;have R12:=hid (RX.out.below hb);clear hb;go_wp2_with fail;refine(zq sb L p cap j4 _ _ R12.out.env.st).mono ?_;rintro e w13 ⟨rfl,hb⟩;have R13:=hid (R12.out.below hb);clear hb;obtain⟨v0,v1,v2,v3,vf0,vf1,vf2,vf3,vl⟩:=(R13.out.env.bx (w.heap.size+1,(Pz.xO op q qc n)) (by simp)).1;rw[Pz.xO_len] at v3;dsimp only[Pz.xO,Pz.xN] at v0 v1 v2 v3 vf0 vf1 vf2 vf3 vl;obtain⟨u0,u1,u2,u3,uf0,uf1,uf2,uf3,ul⟩:=(R13.out.env.bx (w.heap.size,Pz.z0) (by simp)).1;dsimp only[Pz.z0,len] at u0 u1 u2 u3 uf0 uf1 uf2 uf3 ul;go_wp2;refine bodyPost_ret (v:=.agg #[.int .i64 op,.int .i64 0,.string ⟨#[]⟩,.slice q n qc]) ?_ rfl ?_
         ·rw [qd rfl];go_simp
         ·rw [PN.out (by first|rfl|trivial)];exact⟨Pz.xO op q qc n,by rw[Pz.xO_len];rfl,(R13.out.env.tail).done4 (Pz.xO op q qc n) none (fun x hx=>by cases hx) rfl rfl rfl (by rw[Pz.xO_len];rfl)⟩
       | some x1 =>
         obtain⟨hmj,hl2,hrow,hpv⟩:=PS.out rfl;have PV:=hid hpv;have RW:=hid hrow;have HL:=hid hl2;have hn5:n≤400:=(by omega);clear hl2 hrow hpv;unfold Pz.aft at PV;rw[List.length_map] at PV
         by_cases hc:Pz.isw L j4 Pz.wComma=true
         ·have hj := Pz.isw_lt hc;have hs0:¬(2≤l4.length∧Pz.isw L j4 Pz.wShut=true):=fun h=>absurd (Yb h.2 hc) (by decide);rw[if_neg hs0,if_pos hc,Pz.liL_aft L op _ (j4+1) hj] at PV;go_wp2_with fail;refine(yi sb L p cap j4 _ _ RX.out.env.st hc).mono ?_;rintro e w12 ⟨rfl,hs,hg⟩;have R12:=hid (RX.out.grown (St':=ks sb L p cap (some Pz.z0) (j4+1)) hs (qZ _ _ _ _ _) hg);clear hs hg hc RX hs0;go_wp2_with fail;have RD:=hid (R12.out.below ((Below.refl _ _).drew));have AD:Pz.Ok L (j4+1) (Pz.pv L .ex (j4+1)) 1:=Pz.pv_adv L .ex (j4+1) hj;have CC:=hid (C2.out (j4+1) (by omega) hj sb p cap _ RD.out.env.st);have AD9:Hid (Pz.Ok L (j4+1) (Pz.pv L .ex (j4+1)) 1):=AD;generalize Pz.pv L .ex (j4+1)=r0 at *;obtain⟨o5,k⟩:=r0;have a1:=AD9.out.1;have a2:=AD9.out.2.1;dsimp only at a1 a2;rw[Pz.bnd_goL] at PV;obtain⟨y0,y1,y2,y3,yf0,yf1,yf2,yf3,yl⟩:=(R12.out.env.bx (w.heap.size+1,(Pz.xO op q qc n)) (by simp)).1;rw[Pz.xO_len] at y3;dsimp only[Pz.xO,Pz.xN] at y0 y1 y2 y3 yf0 yf1 yf2 yf3 yl
          go_region_law (first|(refine zv (by rfl) ?_;go_simp;go_at_call 133;refine CC.out.mono ?_;rintro e w9 ⟨d,rfl,hf⟩;obtain⟨ts9,hR,hc9,hs9⟩:=RD.out.go hf (qJ _ _ _ _ _ _) (by intro d hd;cases hd);have R9:=hid hR;have T9:=hid hc9;have U9:=hid hs9;clear hf hR hc9 hs9;obtain⟨x0,x1,x2,x3,xf0,xf1,xf2,xf3,xl⟩:=(R9.out.env.bx (w.heap.size+1,(Pz.xO op q qc n)) (by simp)).1;rw[Pz.xO_len] at x3;dsimp only[Pz.xO,Pz.xN] at x0 x1 x2 x3 xf0 xf1 xf2 xf3 xl)|(refine step_append_lies _ (by rfl) _ _ 22 (by rfl) w.heap.size 24 i0 (.agg #[.int .i64 0,.int .i64 0,.string ⟨#[]⟩,.slice none 0 0]) 4 56 Tryz.underlying22 hi0 hi1 hi2 hi3 rfl (by decide) (.slice q n qc) n xs (by rfl) (R9.out.own.alloc _) _ 1 1 (jI d) (by rfl) (by rfl) (kF _ _ _) (vc _) (by decide) (by unfold maxLen;omega) (by omega) (by have h9:=R9.out.env.gr.size;rw[World.size_alloc];omega) _ rfl ?_;intro g gc w10 qB qe hat hgl;have RA:=hid (R9.out.below ((Below.refl w9.heap.size w9).alloc (Nat.le_refl _) (.cells #[.int .i64 d.a.op,.int .i64 d.a.num,.string d.a.name,.slice d.a.ptr (len d.k) d.a.cap] 24)));obtain⟨q9,qc9,hv9,hB9,hR9⟩:=RA.out.app qB qe (hat.elim (fun h=>.inl h.symm) (fun h=>.inr (congrArg some h)));obtain⟨rfl,rfl⟩:=xy hv9;have RN:=hid hR9;obtain⟨z0,z1,z2,z3,zf0,zf1,zf2,zf3,zl⟩:=hB9;dsimp only[Pz.xO,Pz.xN] at z0 z1 z2 z3 zf0 zf1 zf2 zf3 zl;clear qB qe hat hv9 hR9 RA))
          all_goals
           go_wp2;cases o5 with
           | none =>
             go_roundg (L.length - k)
             case rel=>exact⟨none,k,_,_,_,_,_,[],rfl,RN.out,a2,by omega,(fun _=>by rw[PV.out,Pz.goL_none]),fun h=>by cases h⟩
             case measure=>have:=HG.out;omega
           | some y =>
             go_roundg (L.length - k)
             case rel =>
              refine⟨some y,k,_,_,_,_,_,l4++[d],rfl,RN.out,a2,by omega,(fun h=>by cases h),fun _=>⟨?_,?_,⟨?_,?_,?_⟩,?_⟩⟩
              ·have h7:=AD9.out.2.2 rfl;dsimp only at h7;omega
              ·rw[List.length_append];have:=HL.out;omega
              ·rw[List.length_append,← RW.out.hn];rfl
              ·rw[RW.out.hx,xJ]
              ·intro c hc;rcases List.mem_append.1 hc with hc|hc
               ·exact U9.out c (RW.out.hm c hc)
               ·simp only[List.mem_cons,List.not_mem_nil,or_false] at hc;rw[hc];exact(T9.out y rfl).2
              ·rw[PV.out,Pz.goL_some,List.map_append,List.map_cons,List.map_nil,(T9.out y rfl).1]
             case measure=>have:=HG.out;omega
         ·have hc':Pz.isw L j4 Pz.wComma=false:=by simpa using hc
          rw[if_neg hc] at PV;go_wp2_with fail;refine(yz sb L p cap j4 _ _ RX.out.env.st hc').mono ?_;rintro e w12 ⟨rfl,hb⟩;have R12:=hid (RX.out.below hb);clear hb hc hc';go_wp2_with fail
          by_cases hs:Pz.isw L j4 Pz.wShut=true
          ·rw [if_pos ⟨HL.out,hs⟩] at PV;refine(zE sb L p cap j4 _ _ R12.out.env.st hs).mono ?_;rintro e w13 ⟨rfl,hs9,hg9⟩;have R13:=hid (R12.out.grown (St':=jZ sb L p cap (j4+1)) hs9 (qZ _ _ _ _ _) hg9);have hle:j4+1≤L.length:=Pz.isw_lt hs;clear hs9 hg9 hs;have EN:=hid ((R13.out.node op l4 (fun h=>by have:=HL.out;rw[h] at this;simp at this) RW.out.hn RW.out.hx RW.out.hm).tail);obtain⟨v0,v1,v2,v3,vf0,vf1,vf2,vf3,vl⟩:=(R13.out.env.bx (w.heap.size+1,(Pz.xO op q qc n)) (by simp)).1;rw[Pz.xO_len] at v3;dsimp only[Pz.xO,Pz.xN] at v0 v1 v2 v3 vf0 vf1 vf2 vf3 vl;obtain⟨u0,u1,u2,u3,uf0,uf1,uf2,uf3,ul⟩:=(R13.out.env.bx (w.heap.size,Pz.z0) (by simp)).1;dsimp only[Pz.z0,len] at u0 u1 u2 u3 uf0 uf1 uf2 uf3 ul;go_wp2;refine bodyPost_ret (v:=.agg #[.int .i64 op,.int .i64 0,.string ⟨#[]⟩,.slice q n qc]) ?_ rfl ?_
           ·rw [qd rfl];go_simp
           ·rw [PV.out];exact⟨Pz.xN op q qc l4,by rw[show len (Pz.xN op q qc l4).k=n from(qC l4).trans RW.out.hn.symm];rfl,EN.out.done4 (Pz.xN op q qc l4) (some (Pz.tn op (l4.map Pz.nr))) (fun z hz=>by cases hz;exact⟨Pz.nr_xN _ _ _ _,by simp⟩) rfl rfl rfl (by rw[show len (Pz.xN op q qc l4).k=n from(qC l4).trans RW.out.hn.symm];rfl)⟩
          ·have hs':Pz.isw L j4 Pz.wShut=false:=by simpa using hs
           rw[if_neg (fun h=>hs h.2)] at PV;refine(j6 sb L p cap j4 _ _ R12.out.env.st hs').mono ?_;rintro e w13 ⟨rfl,hs9,hg9⟩;have R13:=hid (R12.out.grown (St':=Yk sb L p cap j4) hs9 (zS _ _ _ _ _) hg9);clear hs9 hg9 hs hs';obtain⟨v0,v1,v2,v3,vf0,vf1,vf2,vf3,vl⟩:=(R13.out.env.bx (w.heap.size+1,(Pz.xO op q qc n)) (by simp)).1;rw[Pz.xO_len] at v3;dsimp only[Pz.xO,Pz.xN] at v0 v1 v2 v3 vf0 vf1 vf2 vf3 vl;obtain⟨u0,u1,u2,u3,uf0,uf1,uf2,uf3,ul⟩:=(R13.out.env.bx (w.heap.size,Pz.z0) (by simp)).1;dsimp only[Pz.z0,len] at u0 u1 u2 u3 uf0 uf1 uf2 uf3 ul;go_wp2;refine bodyPost_ret (v:=.agg #[.int .i64 op,.int .i64 0,.string ⟨#[]⟩,.slice q n qc]) ?_ rfl ?_
           ·rw [qd rfl];go_simp
           ·rw [PV.out];exact⟨Pz.xO op q qc n,by rw[Pz.xO_len];rfl,(R13.out.env.tail).done4 (Pz.xO op q qc n) none (fun x hx=>by cases hx) rfl rfl rfl (by rw[Pz.xO_len];rfl)⟩
end Go.Proofs.YtcejjdmnlejbaaaGreatDoor
