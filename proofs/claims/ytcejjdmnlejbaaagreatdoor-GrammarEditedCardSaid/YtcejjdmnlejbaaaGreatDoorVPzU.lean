import Derived.Test.YtcejjdmnlejbaaaGreatDoorVPzQ
import Derived.Test.YtcejjdmnlejbaaaGreatDoorVRzR
namespace Go.Proofs.YtcejjdmnlejbaaaGreatDoor
open Lib(hid)
set_option linter.unusedVariables false
set_option linter.unusedSimpArgs false
open Go.ChangeShapes Go.WideShapes Go.ChangeAt Go.RowKit
open Go.Deep (BT)
set_option maxHeartbeats 600000
set_option maxRecDepth 100000
theorem Tryz.infoEx:(Tryz.prog.info? 24).map (fun i=>(i.zero,i.size,i.bytes))=some (some (.agg #[.int .i64 0,.int .i64 0,.string ⟨#[]⟩,.slice none 0 0]),4,56):=by kernel_rfl
theorem kF(w:World)(a:Ch)(t:TypeId):∀j u,(jI a)[j]?=some u→(w.alloc (.cells #[.int .i64 a.a.op,.int .i64 a.a.num,.string a.a.name,.slice a.a.ptr (len a.k) a.a.cap] t)).cell? ((⟨w.heap.size,0,none⟩:Addr).add j)=some u:=by
 intro j u hu
 match j with
 | 0=>simp[jI] at hu;subst hu;simp[Addr.add]
 | 1=>simp[jI] at hu;subst hu;simp[Addr.add]
 | 2=>simp[jI] at hu;subst hu;simp[Addr.add]
 | 3=>simp[jI] at hu;subst hu;simp[Addr.add]
 | q+4=>simp[jI] at hu
theorem vc(a:Ch):∀u∈ jI a,u.oneCell'=true:=by
 intro u hu;simp only[jI,List.mem_cons,List.not_mem_nil,or_false] at hu;rcases hu with rfl|rfl|rfl|rfl<;>rfl
def PLi(L:List Tk.T4)(op:Int)(i:Nat):Prop:=∀(sb:Nat)(p:Option Addr)(cap:Nat)(w:World),PSt w sb L p cap i→
 Calls Tryz.prog 207 #[.pointer (some ⟨sb,0,none⟩),.int .i64 op] w (JZ w sb [] L p cap (Pz.pv L (.li op) i))
theorem KM(L : List Tk.T4)(op:Int)(i:Nat)(h1:∀j,i < j→j≤L.length→PC 35 L .ex j):PLi L op i:=by
 intro sb p cap w h;obtain⟨i0,hi,hi0,hi1,hi2⟩:=info_parts Tryz.infoEx;have C1:=hid h1;clear h1;have H:=hid h;have hle:=h.le;have hL4:=h.ls.1;have E0:Hid (Pz.Env w w sb (fun W=>PSt W sb L p cap i) [] [] []):=Pz.Env.init h (qF _ _ _ _ _) h.lt (by intro c hc;cases hc);have PV:Hid (Pz.pv L (.li op) i=Pz.step L (Pz.pv L) (.li op) i):=Pz.pv_step L (.li op) i hle;unfold Pz.step at PV;dsimp only at PV;clear h;go_enter Tryz.func207,Tryz.ntmps207;go_wp2_with fail;have E1:=hid (E0.out.box Pz.z0 #[.int .i64 0,.int .i64 0,.string ⟨#[]⟩,.slice none 0 0] rfl 24);generalize w.alloc (.cells #[.int .i64 0,.int .i64 0,.string ⟨#[]⟩,.slice none 0 0] 24)=w2 at *;clear E0
 by_cases hw:Pz.isw L i Pz.wOpen=true
 ·
  have hj:=Pz.isw_lt hw;rw[if_pos hw] at PV;refine(qK sb L p cap i _ _ E1.out.st hw).mono ?_;rintro e w4 ⟨rfl,hs,hg⟩;have E3:=hid (E1.out.grown hs (qF _ _ _ _ _) hg);clear hs hg E1;go_wp2_with fail;have E4:=hid (Pz.EnvR.init (E3.out.box (Pz.xN op none 0 []) #[.int .i64 op,.int .i64 0,.string ⟨#[]⟩,.slice none 0 0] rfl 24) 24);generalize hxb:w4.heap.size=xb at *;generalize w4.alloc (.cells #[.int .i64 op,.int .i64 0,.string ⟨#[]⟩,.slice none 0 0] 24)=w4 at *;clear E3 hxb hw
  go_loopg [8] (L.length - (i+1)) (fun g u wr=>∃(j:Nat) (q:Option Addr) (qc:Nat) (l:List Ch) (ts:List Ch),Hid (g=L.length - j∧i < j∧j≤L.length∧l.length < j∧Pz.EnvR w wr sb (fun W=>PSt W sb L p cap j) [] [(xb,(Pz.xN op q qc l)),(w.heap.size,Pz.z0)] ts 24 q qc l∧Pz.pv L (.li op) i=Pz.pv L (.liL op (l.map Pz.nr)) j))
  case atStart=>exact⟨i+1,none,0,[],[],rfl,by omega,hj,by simp,E4.out,PV.out⟩
  case round =>
   clear E4 PV;obtain⟨j,q,qc,l,ts,HR⟩:=hrel;obtain⟨hg0,hij,hjl,hlj,hE,hpv⟩:=HR.out;have E5:=hid hE;rw[Pz.pv_step L _ j hjl] at hpv;unfold Pz.step at hpv;dsimp only at hpv;have PV:=hid hpv;have HG:=hid hg0;clear hE hpv HR hg0;go_wp2_with fail;have AD:Pz.Ok L j (Pz.pv L .ex j) 1:=Pz.pv_adv L .ex j hjl;refine(C1.out j (by omega) hjl sb p cap wr E5.out.env.st).mono ?_;rintro e w12 ⟨a,rfl,hf⟩;have ADa:Hid (Pz.Ok L j (Pz.pv L .ex j) 1):=AD;generalize Pz.pv L .ex j=r0 at *;obtain⟨o,k⟩:=r0;obtain⟨tsE11,hE,hc,qE⟩:=E5.out.go hf (qF _ _ _ _ _) (by intro d hd;cases hd);have E11:=hid hE;have Ta:=hid hc;have Ua:=hid qE;clear hf hE hc qE E5;dsimp only;rw[Pz.bnd_goL] at PV;cases o with
   | none =>
     rw[Pz.goL_none] at PV;dsimp only[Option.isSome];go_upto_region 5 with (fail);have E13:=hid (E11.out.box a #[.int .i64 a.a.op,.int .i64 a.a.num,.string a.a.name,.slice a.a.ptr (len a.k) a.a.cap] rfl 24);generalize hg15:w12.heap.size=g15 at *;generalize w12.alloc (.cells #[.int .i64 a.a.op,.int .i64 a.a.num,.string a.a.name,.slice a.a.ptr (len a.k) a.a.cap] 24)=w14 at *;clear E11 hg15;obtain⟨qp,qo,qn,qg,qm,ql,qk,qj,qi⟩:=(E13.out.env.bx (g15,a) (by simp)).1;dsimp only at qp qo qn qg qm ql qk qj qi;obtain⟨qA,qz,qy,qs,qx,qw,qv,qu,qt⟩:=(E13.out.env.bx (xb,(Pz.xN op q qc l)) (by simp)).1;dsimp only[Pz.xN] at qA qz qy qs qx qw qv qu qt;rw[qC] at qs;obtain⟨yy,yx,yw,yv,yu,yt,ys,yr,yq⟩:=(E13.out.env.bx (w.heap.size,Pz.z0) (by simp)).1;dsimp only[Pz.z0,len] at yy yx yw yv yu yt ys yr yq;go_wp2;refine bodyPost_ret (v:=.tuple #[.agg #[.int .i64 op,.int .i64 0,.string ⟨#[]⟩,.slice q l.length qc],.bool false]) ?_ rfl ?_
     ·rw [results_cell_tmp rfl];go_simp
     ·rw [PV.out];exact⟨(Pz.xN op q qc l),by rw[show len (Pz.xN op q qc l).k=l.length from qC l];rfl,(E13.out.env.tail.tail).done4 (Pz.xN op q qc l) none (fun x hx=>by cases hx) rfl rfl rfl (by show Value.slice q l.length qc=Value.slice q (len (qH l)) qc;rw[qC])⟩
   | some x =>
     have hjk:=ADa.out.2.2 rfl;have hkl:=ADa.out.2.1;dsimp only at hjk hkl;rw[Pz.goL_some] at PV;dsimp only[Option.isSome];go_upto_region 5 with (fail);have E13:=hid (E11.out.box a #[.int .i64 a.a.op,.int .i64 a.a.num,.string a.a.name,.slice a.a.ptr (len a.k) a.a.cap] rfl 24);generalize hg15:w12.heap.size=g15 at *;generalize w12.alloc (.cells #[.int .i64 a.a.op,.int .i64 a.a.num,.string a.a.name,.slice a.a.ptr (len a.k) a.a.cap] 24)=w14 at *;clear E11 hg15;obtain⟨qp,qo,qn,qg,qm,ql,qk,qj,qi⟩:=(E13.out.env.bx (g15,a) (by simp)).1;dsimp only at qp qo qn qg qm ql qk qj qi;obtain⟨qA,qz,qy,qs,qx,qw,qv,qu,qt⟩:=(E13.out.env.bx (xb,(Pz.xN op q qc l)) (by simp)).1;dsimp only[Pz.xN] at qA qz qy qs qx qw qv qu qt;rw[qC] at qs;obtain⟨yy,yx,yw,yv,yu,yt,ys,yr,yq⟩:=(E13.out.env.bx (w.heap.size,Pz.z0) (by simp)).1;dsimp only[Pz.z0,len] at yy yx yw yv yu yt ys yr yq;have RA:=hid ((E13.out.tail).below ((Below.refl w14.heap.size w14).alloc (Nat.le_refl _) (.cells #[.int .i64 a.a.op,.int .i64 a.a.num,.string a.a.name,.slice a.a.ptr (len a.k) a.a.cap] 24)));go_wp2_with (at_builtin;refine wpList_append_own_at _ rfl _ _ 22 rfl w.heap.size 24 i0 (.agg #[.int .i64 0,.int .i64 0,.string ⟨#[]⟩,.slice none 0 0]) 4 56 Tryz.underlying22 hi hi0 hi1 hi2 rfl (by decide) (.slice q l.length qc) l.length (zR l) rfl RA.out.own ⟨w14.heap.size,0,none⟩ 1 1 (jI a) rfl rfl ?c1 ?c2 ?c3 ?c4 ?c5 ?_)
     case c1=>first|exact kF _ _ _|(intro j u hu;exact hu)
     case c2=>exact vc _
     case c3=>unfold maxLen;omega
     case c4=>omega
     case c5=>first|exact RA.out.env.gr.size|(have h9:=RA.out.env.gr.size;rw[World.size_alloc] at h9;exact h9)
     intro v' w16 qB qe hnil hob;obtain⟨q2,qc2,rfl,hB4,hR4⟩:=RA.out.app (Ta.out x rfl).2 qB qe (by first|exact hob|(rw[World.size_alloc];exact hob));have E17:=hid hR4;clear qB qe hnil hob RA E13 hR4;clear qp qo qn qg qm ql qk qj qi qA qz qy qs qx qw qv qu qt yy yx yw yv yu yt ys yr yq;obtain⟨z0,z1,z2,z3,y0,y1,y2,y3,zl⟩:=hB4;dsimp only[Pz.xN] at z0 z1 z2 z3 y0 y1 y2 y3 zl;rw[qC] at z3;have MX:=hid (And.intro (Ta.out x rfl).1 (List.map_append (f:=Pz.nr) (l₁:=l) (l₂:=[a])))
     by_cases hl:1≤l.length
     ·
      have hl2:2≤l.length+1:=(by omega);have hl3:(2:Int)≤(l.length:Int)+1:=(by omega);go_wp2_with fail;generalize w16.setCell ⟨xb,3,none⟩ (.slice q2 (l.length+1) qc2)=w18 at *;clear z0 z1 z2 z3 y0 y1 y2 y3 zl
      by_cases hs:Pz.isw L k Pz.wShut=true
      ·
       have hks:=Pz.isw_lt hs;rw[if_pos ⟨by rw[List.length_map];exact hl,hs⟩] at PV;refine(qK sb L p cap k _ _ E17.out.env.st hs).mono ?_;rintro e w20 ⟨rfl,hs,hg⟩;have E19:=hid (E17.out.grown hs (qF _ _ _ _ _) hg);clear hs hg E17;obtain⟨qp,qo,qn,qg,qm,ql,qk,qj,qi⟩:=(E19.out.env.bx (xb,(Pz.xN op q2 qc2 (l++[a]))) (by simp)).1;dsimp only[Pz.xN] at qp qo qn qg qm ql qk qj qi;rw[qC] at qg;obtain⟨qA,qz,qy,qs,qx,qw,qv,qu,qt⟩:=(E19.out.env.bx (w.heap.size,Pz.z0) (by simp)).1;dsimp only[Pz.z0,len] at qA qz qy qs qx qw qv qu qt;rw[List.length_append] at qg;dsimp only[List.length_cons,List.length_nil] at qg;have EN:=hid ((E19.out.node op (by simp)).tail);go_wp2;refine bodyPost_ret (v:=.tuple #[.agg #[.int .i64 op,.int .i64 0,.string ⟨#[]⟩,.slice q2 (l.length+1) qc2],.bool true]) ?_ rfl ?_
       ·rw [results_cell_tmp rfl];go_simp
       ·rw [PV.out];exact⟨(Pz.xN op q2 qc2 (l++[a])),by rw[show len (Pz.xN op q2 qc2 (l++[a])).k=l.length+1 from(qC _).trans (by simp)];rfl,EN.out.done4 (Pz.xN op q2 qc2 (l++[a])) (some (Pz.tn op (l.map Pz.nr++[x]))) (fun z hz=>by cases hz;exact⟨by rw[Pz.nr_xN,MX.out.2,List.map_cons,List.map_nil,MX.out.1],by simp⟩) rfl rfl rfl (by show _=Value.slice _ (len (qH _)) _;rw[qC,List.length_append];rfl)⟩
      ·
       have hs':Pz.isw L k Pz.wShut=false:=(by simpa using hs);rw[if_neg (fun h=>hs h.2)] at PV;refine(qQ sb L p cap k _ _ E17.out.env.st hs').mono ?_;rintro e w62 ⟨rfl,hb⟩;have E61:=hid (E17.out.below hb);clear hb E17;go_wp2_with fail
       by_cases hc:Pz.isw L k Pz.wComma=true
       ·
        have hkc:=Pz.isw_lt hc;rw[if_pos hc] at PV;refine(qK sb L p cap k _ _ E61.out.env.st hc).mono ?_;rintro e w64 ⟨rfl,hs,hg⟩;have E63:=hid (E61.out.grown hs (qF _ _ _ _ _) hg);clear hs hg E61;clear hc;obtain⟨qp,qo,qn,qg,qm,ql,qk,qj,qi⟩:=(E63.out.env.bx (xb,(Pz.xN op q2 qc2 (l++[a]))) (by simp)).1;dsimp only[Pz.xN] at qp qo qn qg qm ql qk qj qi;rw[qC] at qg;obtain⟨qA,qz,qy,qs,qx,qw,qv,qu,qt⟩:=(E63.out.env.bx (w.heap.size,Pz.z0) (by simp)).1;dsimp only[Pz.z0,len] at qA qz qy qs qx qw qv qu qt;go_wp2
        go_roundg (L.length - (k+1))
        case rel=>exact⟨k+1,q2,qc2,l++[a],_,rfl,by omega,hkc,(by rw[List.length_append];show l.length+1 < k+1;omega),E63.out,by rw[PV.out,MX.out.2,List.map_cons,List.map_nil,MX.out.1]⟩
        case measure=>have:=HG.out;omega
       ·
        have hc':Pz.isw L k Pz.wComma=false:=(by simpa using hc);rw[if_neg hc] at PV;refine(qQ sb L p cap k _ _ E61.out.env.st hc').mono ?_;rintro e w64 ⟨rfl,hb⟩;have E63:=hid (E61.out.below hb);clear hb E61;clear hc hc';obtain⟨qp,qo,qn,qg,qm,ql,qk,qj,qi⟩:=(E63.out.env.bx (xb,(Pz.xN op q2 qc2 (l++[a]))) (by simp)).1;dsimp only[Pz.xN] at qp qo qn qg qm ql qk qj qi;rw[qC] at qg;obtain⟨qA,qz,qy,qs,qx,qw,qv,qu,qt⟩:=(E63.out.env.bx (w.heap.size,Pz.z0) (by simp)).1;dsimp only[Pz.z0,len] at qA qz qy qs qx qw qv qu qt;rw[List.length_append] at qg;dsimp only[List.length_cons,List.length_nil] at qg;go_wp2;refine bodyPost_ret (v:=.tuple #[.agg #[.int .i64 op,.int .i64 0,.string ⟨#[]⟩,.slice q2 (l.length+1) qc2],.bool false]) ?_ rfl ?_
        ·rw [results_cell_tmp rfl];go_simp
        ·rw [PV.out];exact⟨(Pz.xN op q2 qc2 (l++[a])),by rw[show len (Pz.xN op q2 qc2 (l++[a])).k=l.length+1 from(qC _).trans (by simp)];rfl,(E63.out.env.tail).done4 (Pz.xN op q2 qc2 (l++[a])) none (fun x hx=>by cases hx) rfl rfl rfl (by show _=Value.slice _ (len (qH _)) _;rw[qC,List.length_append];rfl)⟩
     ·
      have hl2:¬ 2≤l.length+1:=(by omega);have hl3:¬(2:Int)≤(l.length:Int)+1:=(by omega);rw[if_neg (fun h=>hl (by rw[List.length_map] at h;exact h.1))] at PV;go_wp2_with fail;generalize w16.setCell ⟨xb,3,none⟩ (.slice q2 (l.length+1) qc2)=w18 at *;clear z0 z1 z2 z3 y0 y1 y2 y3 zl
      by_cases hc:Pz.isw L k Pz.wComma=true
      ·
       have hkc:=Pz.isw_lt hc;rw[if_pos hc] at PV;refine(qK sb L p cap k _ _ E17.out.env.st hc).mono ?_;rintro e w82 ⟨rfl,hs,hg⟩;have E81:=hid (E17.out.grown hs (qF _ _ _ _ _) hg);clear hs hg E17;clear hc;obtain⟨qp,qo,qn,qg,qm,ql,qk,qj,qi⟩:=(E81.out.env.bx (xb,(Pz.xN op q2 qc2 (l++[a]))) (by simp)).1;dsimp only[Pz.xN] at qp qo qn qg qm ql qk qj qi;rw[qC] at qg;obtain⟨qA,qz,qy,qs,qx,qw,qv,qu,qt⟩:=(E81.out.env.bx (w.heap.size,Pz.z0) (by simp)).1;dsimp only[Pz.z0,len] at qA qz qy qs qx qw qv qu qt;go_wp2
       go_roundg (L.length - (k+1))
       case rel=>exact⟨k+1,q2,qc2,l++[a],_,rfl,by omega,hkc,(by rw[List.length_append];show l.length+1 < k+1;omega),E81.out,by rw[PV.out,MX.out.2,List.map_cons,List.map_nil,MX.out.1]⟩
       case measure=>have:=HG.out;omega
      ·
       have hc':Pz.isw L k Pz.wComma=false:=(by simpa using hc);rw[if_neg hc] at PV;refine(qQ sb L p cap k _ _ E17.out.env.st hc').mono ?_;rintro e w82 ⟨rfl,hb⟩;have E81:=hid (E17.out.below hb);clear hb E17;clear hc hc';obtain⟨qp,qo,qn,qg,qm,ql,qk,qj,qi⟩:=(E81.out.env.bx (xb,(Pz.xN op q2 qc2 (l++[a]))) (by simp)).1;dsimp only[Pz.xN] at qp qo qn qg qm ql qk qj qi;rw[qC] at qg;obtain⟨qA,qz,qy,qs,qx,qw,qv,qu,qt⟩:=(E81.out.env.bx (w.heap.size,Pz.z0) (by simp)).1;dsimp only[Pz.z0,len] at qA qz qy qs qx qw qv qu qt;rw[List.length_append] at qg;dsimp only[List.length_cons,List.length_nil] at qg;go_wp2;refine bodyPost_ret (v:=.tuple #[.agg #[.int .i64 op,.int .i64 0,.string ⟨#[]⟩,.slice q2 (l.length+1) qc2],.bool false]) ?_ rfl ?_
       ·rw [results_cell_tmp rfl];go_simp
       ·rw [PV.out];exact⟨(Pz.xN op q2 qc2 (l++[a])),by rw[show len (Pz.xN op q2 qc2 (l++[a])).k=l.length+1 from(qC _).trans (by simp)];rfl,(E81.out.env.tail).done4 (Pz.xN op q2 qc2 (l++[a])) none (fun x hx=>by cases hx) rfl rfl rfl (by show _=Value.slice _ (len (qH _)) _;rw[qC,List.length_append];rfl)⟩
 ·
  have hw':Pz.isw L i Pz.wOpen=false:=by simpa using hw
  rw[if_neg hw] at PV;refine(qQ sb L p cap i _ _ E1.out.st hw').mono ?_;rintro e w122 ⟨rfl,hb⟩;have E121:=hid (E1.out.below hb);clear hb E1;obtain⟨qp,qo,qn,qg,qm,ql,qk,qj,qi⟩:=(E121.out.bx (w.heap.size,Pz.z0) (by simp)).1;dsimp only[Pz.z0,len] at qp qo qn qg qm ql qk qj qi;go_wp2;refine bodyPost_ret (v:=.tuple #[.agg #[.int .i64 0,.int .i64 0,.string ⟨#[]⟩,.slice none 0 0],.bool false]) ?_ rfl ?_
  ·rw [results_cell_tmp rfl];go_simp
  ·rw [PV.out];exact⟨Pz.z0,rfl,(E121.out).done4 Pz.z0 none (fun x hx=>by cases hx) rfl rfl rfl rfl⟩
namespace Pz
def ch2(L:List Tk.T4)(a b:Ch)(k:Nat):R:=if isw L k wElse=true then bnd (pv L .ex (k+1)) fun c m=>(some (tn 14 [a,b,c]),m) else (none,k)
def ch1(L:List Tk.T4)(a:Ch)(j:Nat):R:=if isw L j wThen=true then bnd (pv L .ex (j+1)) fun b k=>ch2 L a b k else (none,j)
def ch0(L:List Tk.T4)(i:Nat):R:=bnd (pv L .ex i) fun a j=>ch1 L a j
def chS(L:List Tk.T4):List Ch→Nat→R
 | [],j=>ch0 L j
 | [a],j=>ch1 L a j
 | [a,b],j=>ch2 L a b j
 | l,j=>(some (tn 14 l),j)
theorem len0{α:Type}{l:List α}(h:l.length=0):l=[]:=List.eq_nil_of_length_eq_zero h
theorem len1{α:Type}{l:List α}(h:l.length=1):∃a,l=[a]:=by
 match l,h with
 | [a],_=>exact⟨a,rfl⟩
theorem len2{α:Type}{l:List α}(h:l.length=2):∃a b,l=[a,b]:=by
 match l,h with
 | [a,b],_=>exact⟨a,b,rfl⟩
theorem len3{α:Type}{l:List α}(h:l.length=3):∃a b c,l=[a,b,c]:=by
 match l,h with
 | [a,b,c],_=>exact⟨a,b,c,rfl⟩
end Pz
def PCh(L:List Tk.T4)(i:Nat):Prop:=∀(sb:Nat)(p:Option Addr)(cap:Nat)(w:World),PSt w sb L p cap i→
 Calls Tryz.prog 208 #[.pointer (some ⟨sb,0,none⟩)] w (JZ w sb [] L p cap (Pz.ch0 L i))
theorem YZ(L:List Tk.T4)(i:Nat)(h1:∀j,i≤j→j≤L.length→PC 35 L .ex j):PCh L i:=by
 intro sb p cap w h;obtain⟨i0,hi,hi0,hi1,hi2⟩:=info_parts Tryz.infoEx;have C1:=hid h1;have hle:=h.le;have hL4:=h.ls.1;have E0:Hid (Pz.Env w w sb (fun W=>PSt W sb L p cap i) [] [] []):=Pz.Env.init h (qF _ _ _ _ _) h.lt (by intro c hc;cases hc);clear h h1;go_enter Tryz.func208,Tryz.ntmps208;go_wp2_with fail;have E1:=hid (((E0.out.box Pz.z0 #[.int .i64 0,.int .i64 0,.string ⟨#[]⟩,.slice none 0 0] rfl 24).box (Pz.xN 14 none 0 []) #[.int .i64 14,.int .i64 0,.string ⟨#[]⟩,.slice none 0 0] rfl 24));simp only[World.size_alloc] at E1;generalize (w.alloc (.cells #[.int .i64 0,.int .i64 0,.string ⟨#[]⟩,.slice none 0 0] 24)).alloc (.cells #[.int .i64 14,.int .i64 0,.string ⟨#[]⟩,.slice none 0 0] 24)=w1 at *;have E4:=hid (Pz.EnvR.init E1.out 24);clear E0 E1
 go_loopg [9] 4 (fun g n wr=>∃(kk:Int) (m j:Nat) (q:Option Addr) (qc:Nat) (l:List Ch) (ts:List Ch),n=.int .i64 kk∧Hid (kk=m∧m≤3∧g=4 - m∧i≤j∧j≤L.length∧l.length=m∧Pz.EnvR w wr sb (fun W=>PSt W sb L p cap j) [] [(w.heap.size+1,(Pz.xN 14 q qc l)),(w.heap.size,Pz.z0)] ts 24 q qc l∧Pz.ch0 L i=Pz.chS L (l.map Pz.nr) j))
 case atStart=>exact⟨0,0,i,none,0,[],[],rfl,rfl,by omega,rfl,Nat.le_refl _,hle,rfl,E4.out,rfl⟩
 case round =>
  clear E4;obtain⟨kk,m,j,q,qc,l,ts,rfl,HR⟩:=hrel;obtain⟨hk,hm,hg0,hij,hjl,hlm,hE,hpv⟩:=HR.out;have E5:=hid hE;have HG:=hid hg0;have HL:=hid hlm;have hl4:l.length≤3:=by omega
  have PV:=hid hpv;clear hE HR hg0 hpv;obtain⟨rfl,rfl⟩|⟨rfl,rfl⟩|⟨rfl,rfl⟩|⟨rfl,rfl⟩:(kk=0∧m=0)∨(kk=1∧m=1)∨(kk=2∧m=2)∨(kk=3∧m=3):=by omega
  ·
   clear hk hm hlm;have HX:Hid (l.map Pz.nr=[]):=Pz.len0 (by rw[List.length_map,HL.out]);rw[HX.out] at PV;unfold Pz.chS at PV;dsimp only at PV;have PV2:Hid (Pz.ch0 L i=Pz.bnd (Pz.pv L .ex j) fun a j=>Pz.ch1 L a j):=PV.out;clear PV;have PV:=PV2;clear PV2;go_wp2_with fail;have AD:Pz.Ok L j (Pz.pv L .ex j) 1:=Pz.pv_adv L .ex j (by omega);refine(C1.out j (by omega) (by omega) sb p cap wr E5.out.env.st).mono ?_;rintro e w12 ⟨a,rfl,hf⟩;have ADa:Hid (Pz.Ok L j (Pz.pv L .ex j) 1):=AD;generalize Pz.pv L .ex j=r0 at *;obtain⟨o,k⟩:=r0;obtain⟨tsE11,hE,hc,qE⟩:=E5.out.go hf (qF _ _ _ _ _) (by intro d hd;cases hd);have E11:=hid hE;have Ta:=hid hc;have Ua:=hid qE;clear hf hE hc qE E5;dsimp only;rw[Pz.bnd_goL] at PV;cases o with
   | none =>
     rw[Pz.goL_none] at PV;dsimp only[Option.isSome];go_upto_region 8 with (fail);have E13:=hid (E11.out.box a #[.int .i64 a.a.op,.int .i64 a.a.num,.string a.a.name,.slice a.a.ptr (len a.k) a.a.cap] rfl 24);generalize hg15:w12.heap.size=g15 at *;generalize w12.alloc (.cells #[.int .i64 a.a.op,.int .i64 a.a.num,.string a.a.name,.slice a.a.ptr (len a.k) a.a.cap] 24)=w14 at *;clear E11 hg15;obtain⟨qp,qo,qn,qg,qm,ql,qk,qj,qi⟩:=(E13.out.env.bx (g15,a) (by simp)).1;dsimp only at qp qo qn qg qm ql qk qj qi;obtain⟨qA,qz,qy,qs,qx,qw,qv,qu,qt⟩:=(E13.out.env.bx (w.heap.size+1,(Pz.xN 14 q qc l)) (by simp)).1;dsimp only[Pz.xN] at qA qz qy qs qx qw qv qu qt;rw[qC] at qs;obtain⟨yy,yx,yw,yv,yu,yt,ys,yr,yq⟩:=(E13.out.env.bx (w.heap.size,Pz.z0) (by simp)).1;dsimp only[Pz.z0,len] at yy yx yw yv yu yt ys yr yq;go_wp2;refine bodyPost_ret (v:=.tuple #[.agg #[.int .i64 14,.int .i64 0,.string ⟨#[]⟩,.slice q l.length qc],.bool false]) ?_ rfl ?_
     ·rw [results_cell_tmp rfl];go_simp
     ·rw [PV.out];exact⟨(Pz.xN 14 q qc l),by rw[show len (Pz.xN 14 q qc l).k=l.length from qC l];rfl,(E13.out.env.tail.tail).done4 (Pz.xN 14 q qc l) none (fun x hx=>by cases hx) rfl rfl rfl (by show Value.slice q l.length qc=Value.slice q (len (qH l)) qc;rw[qC])⟩
   | some x =>
     have hjk:=ADa.out.2.2 rfl;have hkl:=ADa.out.2.1;dsimp only at hjk hkl;rw[Pz.goL_some] at PV;dsimp only[Option.isSome];go_upto_region 8 with (fail);have E13:=hid (E11.out.box a #[.int .i64 a.a.op,.int .i64 a.a.num,.string a.a.name,.slice a.a.ptr (len a.k) a.a.cap] rfl 24);generalize hg15:w12.heap.size=g15 at *;generalize w12.alloc (.cells #[.int .i64 a.a.op,.int .i64 a.a.num,.string a.a.name,.slice a.a.ptr (len a.k) a.a.cap] 24)=w14 at *;clear E11 hg15;obtain⟨qp,qo,qn,qg,qm,ql,qk,qj,qi⟩:=(E13.out.env.bx (g15,a) (by simp)).1;dsimp only at qp qo qn qg qm ql qk qj qi;obtain⟨qA,qz,qy,qs,qx,qw,qv,qu,qt⟩:=(E13.out.env.bx (w.heap.size+1,(Pz.xN 14 q qc l)) (by simp)).1;dsimp only[Pz.xN] at qA qz qy qs qx qw qv qu qt;rw[qC] at qs;obtain⟨yy,yx,yw,yv,yu,yt,ys,yr,yq⟩:=(E13.out.env.bx (w.heap.size,Pz.z0) (by simp)).1;dsimp only[Pz.z0,len] at yy yx yw yv yu yt ys yr yq;have RA:=hid ((E13.out.tail).below ((Below.refl w14.heap.size w14).alloc (Nat.le_refl _) (.cells #[.int .i64 a.a.op,.int .i64 a.a.num,.string a.a.name,.slice a.a.ptr (len a.k) a.a.cap] 24)));go_wp2_with (at_builtin;refine wpList_append_own_at _ rfl _ _ 22 rfl w.heap.size 24 i0 (.agg #[.int .i64 0,.int .i64 0,.string ⟨#[]⟩,.slice none 0 0]) 4 56 Tryz.underlying22 hi hi0 hi1 hi2 rfl (by decide) (.slice q l.length qc) l.length (zR l) rfl RA.out.own ⟨w14.heap.size,0,none⟩ 1 1 (jI a) rfl rfl ?c1 ?c2 ?c3 ?c4 ?c5 ?_)
     case c1=>first|exact kF _ _ _|(intro j u hu;exact hu)
     case c2=>exact vc _
     case c3=>unfold maxLen;omega
     case c4=>omega
     case c5=>first|exact RA.out.env.gr.size|(have h9:=RA.out.env.gr.size;rw[World.size_alloc] at h9;exact h9)
     intro v' w16 qB qe hnil hob;obtain⟨q2,qc2,rfl,hB4,hR4⟩:=RA.out.app (Ta.out x rfl).2 qB qe (by first|exact hob|(rw[World.size_alloc];exact hob));have E17:=hid hR4;clear qB qe hnil hob RA E13 hR4;clear qp qo qn qg qm ql qk qj qi qA qz qy qs qx qw qv qu qt yy yx yw yv yu yt ys yr yq;obtain⟨z0,z1,z2,z3,y0,y1,y2,y3,zl⟩:=hB4;dsimp only[Pz.xN] at z0 z1 z2 z3 y0 y1 y2 y3 zl;rw[qC] at z3;have MX:=hid (And.intro (Ta.out x rfl).1 (List.map_append (f:=Pz.nr) (l₁:=l) (l₂:=[a])));go_wp2
     go_roundg (3)
     case rel=>exact⟨1,1,k,q2,qc2,l++[a],_,rfl,rfl,by omega,rfl,by omega,hkl,(by rw[List.length_append,HL.out];rfl),E17.out,by rw[PV.out,MX.out.2,HX.out,List.map_cons,List.map_nil,MX.out.1];rfl⟩
     case measure=>have:=HG.out;omega
  ·
   clear hk hm hlm;obtain⟨x0,hx⟩:=Pz.len1 (show(l.map Pz.nr).length=1 by rw[List.length_map,HL.out]);have HX:=hid hx;clear hx;rw[HX.out] at PV;unfold Pz.chS Pz.ch1 at PV;dsimp only at PV;go_wp2_with fail
   by_cases hw:Pz.isw L j Pz.wThen=true
   ·
    have hj:=Pz.isw_lt hw;rw[if_pos hw] at PV;refine(qK sb L p cap j _ _ E5.out.env.st hw).mono ?_;rintro e w102 ⟨rfl,hs,hg⟩;have E101:=hid (E5.out.grown hs (qF _ _ _ _ _) hg);clear hs hg E5;clear hw;go_wp2_with fail;have AD:Pz.Ok L (j+1) (Pz.pv L .ex (j+1)) 1:=Pz.pv_adv L .ex (j+1) (by omega);refine(C1.out (j+1) (by omega) (by omega) sb p cap w102 E101.out.env.st).mono ?_;rintro e w104 ⟨a,rfl,hf⟩;have ADa:Hid (Pz.Ok L (j+1) (Pz.pv L .ex (j+1)) 1):=AD;generalize Pz.pv L .ex (j+1)=r0 at *;obtain⟨o,k⟩:=r0;obtain⟨tsE103,hE,hc,qE⟩:=E101.out.go hf (qF _ _ _ _ _) (by intro d hd;cases hd);have E103:=hid hE;have Ta:=hid hc;have Ua:=hid qE;clear hf hE hc qE E101;dsimp only;rw[Pz.bnd_goL] at PV;cases o with
    | none =>
      rw[Pz.goL_none] at PV;dsimp only[Option.isSome];go_upto_region 8 with (fail);have E105:=hid (E103.out.box a #[.int .i64 a.a.op,.int .i64 a.a.num,.string a.a.name,.slice a.a.ptr (len a.k) a.a.cap] rfl 24);generalize hg107:w104.heap.size=g107 at *;generalize w104.alloc (.cells #[.int .i64 a.a.op,.int .i64 a.a.num,.string a.a.name,.slice a.a.ptr (len a.k) a.a.cap] 24)=w106 at *;clear E103 hg107;obtain⟨qp,qo,qn,qg,qm,ql,qk,qj,qi⟩:=(E105.out.env.bx (g107,a) (by simp)).1;dsimp only at qp qo qn qg qm ql qk qj qi;obtain⟨qA,qz,qy,qs,qx,qw,qv,qu,qt⟩:=(E105.out.env.bx (w.heap.size+1,(Pz.xN 14 q qc l)) (by simp)).1;dsimp only[Pz.xN] at qA qz qy qs qx qw qv qu qt;rw[qC] at qs;obtain⟨yy,yx,yw,yv,yu,yt,ys,yr,yq⟩:=(E105.out.env.bx (w.heap.size,Pz.z0) (by simp)).1;dsimp only[Pz.z0,len] at yy yx yw yv yu yt ys yr yq;go_wp2;refine bodyPost_ret (v:=.tuple #[.agg #[.int .i64 14,.int .i64 0,.string ⟨#[]⟩,.slice q l.length qc],.bool false]) ?_ rfl ?_
      ·rw [results_cell_tmp rfl];go_simp
      ·rw [PV.out];exact⟨(Pz.xN 14 q qc l),by rw[show len (Pz.xN 14 q qc l).k=l.length from qC l];rfl,(E105.out.env.tail.tail).done4 (Pz.xN 14 q qc l) none (fun x hx=>by cases hx) rfl rfl rfl (by show Value.slice q l.length qc=Value.slice q (len (qH l)) qc;rw[qC])⟩
    | some x =>
      have hjk:=ADa.out.2.2 rfl;have hkl:=ADa.out.2.1;dsimp only at hjk hkl;rw[Pz.goL_some] at PV;dsimp only[Option.isSome];go_upto_region 8 with (fail);have E105:=hid (E103.out.box a #[.int .i64 a.a.op,.int .i64 a.a.num,.string a.a.name,.slice a.a.ptr (len a.k) a.a.cap] rfl 24);generalize hg107:w104.heap.size=g107 at *;generalize w104.alloc (.cells #[.int .i64 a.a.op,.int .i64 a.a.num,.string a.a.name,.slice a.a.ptr (len a.k) a.a.cap] 24)=w106 at *;clear E103 hg107;obtain⟨qp,qo,qn,qg,qm,ql,qk,qj,qi⟩:=(E105.out.env.bx (g107,a) (by simp)).1;dsimp only at qp qo qn qg qm ql qk qj qi;obtain⟨qA,qz,qy,qs,qx,qw,qv,qu,qt⟩:=(E105.out.env.bx (w.heap.size+1,(Pz.xN 14 q qc l)) (by simp)).1;dsimp only[Pz.xN] at qA qz qy qs qx qw qv qu qt;rw[qC] at qs;obtain⟨yy,yx,yw,yv,yu,yt,ys,yr,yq⟩:=(E105.out.env.bx (w.heap.size,Pz.z0) (by simp)).1;dsimp only[Pz.z0,len] at yy yx yw yv yu yt ys yr yq;have RA:=hid ((E105.out.tail).below ((Below.refl w106.heap.size w106).alloc (Nat.le_refl _) (.cells #[.int .i64 a.a.op,.int .i64 a.a.num,.string a.a.name,.slice a.a.ptr (len a.k) a.a.cap] 24)));go_wp2_with (at_builtin;refine wpList_append_own_at _ rfl _ _ 22 rfl w.heap.size 24 i0 (.agg #[.int .i64 0,.int .i64 0,.string ⟨#[]⟩,.slice none 0 0]) 4 56 Tryz.underlying22 hi hi0 hi1 hi2 rfl (by decide) (.slice q l.length qc) l.length (zR l) rfl RA.out.own ⟨w106.heap.size,0,none⟩ 1 1 (jI a) rfl rfl ?c1 ?c2 ?c3 ?c4 ?c5 ?_)
      case c1=>first|exact kF _ _ _|(intro j u hu;exact hu)
      case c2=>exact vc _
      case c3=>unfold maxLen;omega
      case c4=>omega
      case c5=>first|exact RA.out.env.gr.size|(have h9:=RA.out.env.gr.size;rw[World.size_alloc] at h9;exact h9)
      intro v' w108 qB qe hnil hob;obtain⟨q2,qc2,rfl,hB4,hR4⟩:=RA.out.app (Ta.out x rfl).2 qB qe (by first|exact hob|(rw[World.size_alloc];exact hob));have E109:=hid hR4;clear qB qe hnil hob RA E105 hR4;clear qp qo qn qg qm ql qk qj qi qA qz qy qs qx qw qv qu qt yy yx yw yv yu yt ys yr yq;obtain⟨z0,z1,z2,z3,y0,y1,y2,y3,zl⟩:=hB4;dsimp only[Pz.xN] at z0 z1 z2 z3 y0 y1 y2 y3 zl;rw[qC] at z3;have MX:=hid (And.intro (Ta.out x rfl).1 (List.map_append (f:=Pz.nr) (l₁:=l) (l₂:=[a])));go_wp2
      go_roundg (2)
      case rel=>exact⟨2,2,k,q2,qc2,l++[a],_,rfl,rfl,by omega,rfl,by omega,hkl,(by rw[List.length_append,HL.out];rfl),E109.out,by rw[PV.out,MX.out.2,HX.out,List.map_cons,List.map_nil,MX.out.1];rfl⟩
      case measure=>have:=HG.out;omega
   ·
    have hw':Pz.isw L j Pz.wThen=false:=(by simpa using hw);rw[if_neg hw] at PV;refine(qQ sb L p cap j _ _ E5.out.env.st hw').mono ?_;rintro e w152 ⟨rfl,hb⟩;have E151:=hid (E5.out.below hb);clear hb E5;clear hw hw';obtain⟨qp,qo,qn,qg,qm,ql,qk,qj,qi⟩:=(E151.out.env.bx (w.heap.size+1,(Pz.xN 14 q qc l)) (by simp)).1;dsimp only[Pz.xN] at qp qo qn qg qm ql qk qj qi;rw[qC] at qg;obtain⟨qA,qz,qy,qs,qx,qw,qv,qu,qt⟩:=(E151.out.env.bx (w.heap.size,Pz.z0) (by simp)).1;dsimp only[Pz.z0,len] at qA qz qy qs qx qw qv qu qt;go_wp2;refine bodyPost_ret (v:=.tuple #[.agg #[.int .i64 14,.int .i64 0,.string ⟨#[]⟩,.slice q l.length qc],.bool false]) ?_ rfl ?_
    ·rw [results_cell_tmp rfl];go_simp
    ·rw [PV.out];exact⟨(Pz.xN 14 q qc l),by rw[show len (Pz.xN 14 q qc l).k=l.length from qC l];rfl,(E151.out.env.tail).done4 (Pz.xN 14 q qc l) none (fun x hx=>by cases hx) rfl rfl rfl (by show Value.slice q l.length qc=Value.slice q (len (qH l)) qc;rw[qC])⟩
  ·
   clear hk hm hlm;obtain⟨x0,x1,hx⟩:=Pz.len2 (show(l.map Pz.nr).length=2 by rw[List.length_map,HL.out]);have HX:=hid hx;clear hx;rw[HX.out] at PV;unfold Pz.chS Pz.ch2 at PV;dsimp only at PV;go_wp2_with fail
   by_cases hw:Pz.isw L j Pz.wElse=true
   ·
    have hj:=Pz.isw_lt hw;rw[if_pos hw] at PV;refine(qK sb L p cap j _ _ E5.out.env.st hw).mono ?_;rintro e w202 ⟨rfl,hs,hg⟩;have E201:=hid (E5.out.grown hs (qF _ _ _ _ _) hg);clear hs hg E5;clear hw;go_wp2_with fail;have AD:Pz.Ok L (j+1) (Pz.pv L .ex (j+1)) 1:=Pz.pv_adv L .ex (j+1) (by omega);refine(C1.out (j+1) (by omega) (by omega) sb p cap w202 E201.out.env.st).mono ?_;rintro e w204 ⟨a,rfl,hf⟩;have ADa:Hid (Pz.Ok L (j+1) (Pz.pv L .ex (j+1)) 1):=AD;generalize Pz.pv L .ex (j+1)=r0 at *;obtain⟨o,k⟩:=r0;obtain⟨tsE203,hE,hc,qE⟩:=E201.out.go hf (qF _ _ _ _ _) (by intro d hd;cases hd);have E203:=hid hE;have Ta:=hid hc;have Ua:=hid qE;clear hf hE hc qE E201;dsimp only;rw[Pz.bnd_goL] at PV;cases o with
    | none =>
      rw[Pz.goL_none] at PV;dsimp only[Option.isSome];go_upto_region 8 with (fail);have E205:=hid (E203.out.box a #[.int .i64 a.a.op,.int .i64 a.a.num,.string a.a.name,.slice a.a.ptr (len a.k) a.a.cap] rfl 24);generalize hg207:w204.heap.size=g207 at *;generalize w204.alloc (.cells #[.int .i64 a.a.op,.int .i64 a.a.num,.string a.a.name,.slice a.a.ptr (len a.k) a.a.cap] 24)=w206 at *;clear E203 hg207;obtain⟨qp,qo,qn,qg,qm,ql,qk,qj,qi⟩:=(E205.out.env.bx (g207,a) (by simp)).1;dsimp only at qp qo qn qg qm ql qk qj qi;obtain⟨qA,qz,qy,qs,qx,qw,qv,qu,qt⟩:=(E205.out.env.bx (w.heap.size+1,(Pz.xN 14 q qc l)) (by simp)).1;dsimp only[Pz.xN] at qA qz qy qs qx qw qv qu qt;rw[qC] at qs;obtain⟨yy,yx,yw,yv,yu,yt,ys,yr,yq⟩:=(E205.out.env.bx (w.heap.size,Pz.z0) (by simp)).1;dsimp only[Pz.z0,len] at yy yx yw yv yu yt ys yr yq;go_wp2;refine bodyPost_ret (v:=.tuple #[.agg #[.int .i64 14,.int .i64 0,.string ⟨#[]⟩,.slice q l.length qc],.bool false]) ?_ rfl ?_
      ·rw [results_cell_tmp rfl];go_simp
      ·rw [PV.out];exact⟨(Pz.xN 14 q qc l),by rw[show len (Pz.xN 14 q qc l).k=l.length from qC l];rfl,(E205.out.env.tail.tail).done4 (Pz.xN 14 q qc l) none (fun x hx=>by cases hx) rfl rfl rfl (by show Value.slice q l.length qc=Value.slice q (len (qH l)) qc;rw[qC])⟩
    | some x =>
      have hjk:=ADa.out.2.2 rfl;have hkl:=ADa.out.2.1;dsimp only at hjk hkl;rw[Pz.goL_some] at PV;dsimp only[Option.isSome];go_upto_region 8 with (fail);have E205:=hid (E203.out.box a #[.int .i64 a.a.op,.int .i64 a.a.num,.string a.a.name,.slice a.a.ptr (len a.k) a.a.cap] rfl 24);generalize hg207:w204.heap.size=g207 at *;generalize w204.alloc (.cells #[.int .i64 a.a.op,.int .i64 a.a.num,.string a.a.name,.slice a.a.ptr (len a.k) a.a.cap] 24)=w206 at *;clear E203 hg207;obtain⟨qp,qo,qn,qg,qm,ql,qk,qj,qi⟩:=(E205.out.env.bx (g207,a) (by simp)).1;dsimp only at qp qo qn qg qm ql qk qj qi;obtain⟨qA,qz,qy,qs,qx,qw,qv,qu,qt⟩:=(E205.out.env.bx (w.heap.size+1,(Pz.xN 14 q qc l)) (by simp)).1;dsimp only[Pz.xN] at qA qz qy qs qx qw qv qu qt;rw[qC] at qs;obtain⟨yy,yx,yw,yv,yu,yt,ys,yr,yq⟩:=(E205.out.env.bx (w.heap.size,Pz.z0) (by simp)).1;dsimp only[Pz.z0,len] at yy yx yw yv yu yt ys yr yq;have RA:=hid ((E205.out.tail).below ((Below.refl w206.heap.size w206).alloc (Nat.le_refl _) (.cells #[.int .i64 a.a.op,.int .i64 a.a.num,.string a.a.name,.slice a.a.ptr (len a.k) a.a.cap] 24)));go_wp2_with (at_builtin;refine wpList_append_own_at _ rfl _ _ 22 rfl w.heap.size 24 i0 (.agg #[.int .i64 0,.int .i64 0,.string ⟨#[]⟩,.slice none 0 0]) 4 56 Tryz.underlying22 hi hi0 hi1 hi2 rfl (by decide) (.slice q l.length qc) l.length (zR l) rfl RA.out.own ⟨w206.heap.size,0,none⟩ 1 1 (jI a) rfl rfl ?c1 ?c2 ?c3 ?c4 ?c5 ?_)
      case c1=>first|exact kF _ _ _|(intro j u hu;exact hu)
      case c2=>exact vc _
      case c3=>unfold maxLen;omega
      case c4=>omega
      case c5=>first|exact RA.out.env.gr.size|(have h9:=RA.out.env.gr.size;rw[World.size_alloc] at h9;exact h9)
      intro v' w208 qB qe hnil hob;obtain⟨q2,qc2,rfl,hB4,hR4⟩:=RA.out.app (Ta.out x rfl).2 qB qe (by first|exact hob|(rw[World.size_alloc];exact hob));have E209:=hid hR4;clear qB qe hnil hob RA E205 hR4;clear qp qo qn qg qm ql qk qj qi qA qz qy qs qx qw qv qu qt yy yx yw yv yu yt ys yr yq;obtain⟨z0,z1,z2,z3,y0,y1,y2,y3,zl⟩:=hB4;dsimp only[Pz.xN] at z0 z1 z2 z3 y0 y1 y2 y3 zl;rw[qC] at z3;have MX:=hid (And.intro (Ta.out x rfl).1 (List.map_append (f:=Pz.nr) (l₁:=l) (l₂:=[a])));go_wp2
      go_roundg (1)
      case rel=>exact⟨3,3,k,q2,qc2,l++[a],_,rfl,rfl,by omega,rfl,by omega,hkl,(by rw[List.length_append,HL.out];rfl),E209.out,by rw[PV.out,MX.out.2,HX.out,List.map_cons,List.map_nil,MX.out.1];rfl⟩
      case measure=>have:=HG.out;omega
   ·
    have hw':Pz.isw L j Pz.wElse=false:=(by simpa using hw);rw[if_neg hw] at PV;refine(qQ sb L p cap j _ _ E5.out.env.st hw').mono ?_;rintro e w252 ⟨rfl,hb⟩;have E251:=hid (E5.out.below hb);clear hb E5;clear hw hw';obtain⟨qp,qo,qn,qg,qm,ql,qk,qj,qi⟩:=(E251.out.env.bx (w.heap.size+1,(Pz.xN 14 q qc l)) (by simp)).1;dsimp only[Pz.xN] at qp qo qn qg qm ql qk qj qi;rw[qC] at qg;obtain⟨qA,qz,qy,qs,qx,qw,qv,qu,qt⟩:=(E251.out.env.bx (w.heap.size,Pz.z0) (by simp)).1;dsimp only[Pz.z0,len] at qA qz qy qs qx qw qv qu qt;go_wp2;refine bodyPost_ret (v:=.tuple #[.agg #[.int .i64 14,.int .i64 0,.string ⟨#[]⟩,.slice q l.length qc],.bool false]) ?_ rfl ?_
    ·rw [results_cell_tmp rfl];go_simp
    ·rw [PV.out];exact⟨(Pz.xN 14 q qc l),by rw[show len (Pz.xN 14 q qc l).k=l.length from qC l];rfl,(E251.out.env.tail).done4 (Pz.xN 14 q qc l) none (fun x hx=>by cases hx) rfl rfl rfl (by show Value.slice q l.length qc=Value.slice q (len (qH l)) qc;rw[qC])⟩
  ·
   clear hk hm hlm;obtain⟨x0,x1,x2,hx⟩:=Pz.len3 (show(l.map Pz.nr).length=3 by rw[List.length_map,HL.out]);have HX:=hid hx;clear hx;rw[HX.out] at PV;unfold Pz.chS at PV;dsimp only at PV;have EN:=hid ((E5.out.node 14 (fun q=>by have:=HL.out;rw[q] at this;cases this)).tail);obtain⟨qp,qo,qn,qg,qm,ql,qk,qj,qi⟩:=(E5.out.env.bx (w.heap.size+1,(Pz.xN 14 q qc l)) (by simp)).1;dsimp only[Pz.xN] at qp qo qn qg qm ql qk qj qi;rw[qC] at qg;obtain⟨qA,qz,qy,qs,qx,qw,qv,qu,qt⟩:=(E5.out.env.bx (w.heap.size,Pz.z0) (by simp)).1;dsimp only[Pz.z0,len] at qA qz qy qs qx qw qv qu qt;go_wp2;refine bodyPost_ret (v:=.tuple #[.agg #[.int .i64 14,.int .i64 0,.string ⟨#[]⟩,.slice q l.length qc],.bool true]) ?_ rfl ?_
   ·rw [results_cell_tmp rfl];go_simp
   ·rw [PV.out];exact⟨(Pz.xN 14 q qc l),by rw[show len (Pz.xN 14 q qc l).k=l.length from qC l];rfl,EN.out.done4 (Pz.xN 14 q qc l) (some (Pz.tn 14 [x0,x1,x2])) (fun z hz=>by cases hz;exact⟨by rw[Pz.nr_xN,HX.out],by simp⟩) rfl rfl rfl (by show Value.slice q l.length qc=Value.slice q (len (qH l)) qc;rw[qC])⟩
end Go.Proofs.YtcejjdmnlejbaaaGreatDoor
