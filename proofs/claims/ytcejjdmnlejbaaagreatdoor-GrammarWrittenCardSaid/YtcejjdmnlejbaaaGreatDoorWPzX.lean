import Derived.Test.YtcejjdmnlejbaaaGreatDoorWPzR
namespace Go.Proofs.YtcejjdmnlejbaaaGreatDoor
open Lib(hid)
set_option linter.unusedVariables false
set_option linter.unusedSimpArgs false
open Go.ChangeShapes Go.WideShapes Go.ChangeAt Go.RowKit
open Go.Deep (BT)
set_option maxHeartbeats 1000000
set_option maxRecDepth 100000
theorem Tryz.infoEx:(Tryz.prog.info? 24).map (fun i=>(i.zero,i.size,i.bytes))=some (some (.agg #[.int .i64 0,.int .i64 0,.string ⟨#[]⟩,.slice none 0 0]),4,56):=by kernel_rfl
theorem Yi(w:World)(a:Ch)(t:TypeId):∀j u,(xp a)[j]?=some u→(w.alloc (.cells #[.int .i64 a.a.op,.int .i64 a.a.num,.string a.a.name,.slice a.a.ptr (len a.k) a.a.cap] t)).cell? ((⟨w.heap.size,0,none⟩:Addr).add j)=some u:=by
 intro j u hu
 match j with
 | 0=>simp[xp] at hu;subst hu;simp[Addr.add]
 | 1=>simp[xp] at hu;subst hu;simp[Addr.add]
 | 2=>simp[xp] at hu;subst hu;simp[Addr.add]
 | 3=>simp[xp] at hu;subst hu;simp[Addr.add]
 | q+4=>simp[xp] at hu
theorem U5(a:Ch):∀u∈ xp a,u.oneCell'=true:=by
 intro u hu;simp only[xp,List.mem_cons,List.not_mem_nil,or_false] at hu;rcases hu with rfl|rfl|rfl|rfl<;>rfl
def PLi(L:List Tk.T4)(op:Int)(i:Nat):Prop:=∀(sb:Nat)(p:Option Addr)(cap:Nat)(w:World),PSt w sb L p cap i→
 Calls Tryz.prog 207 #[.pointer (some ⟨sb,0,none⟩),.int .i64 op] w (Kz w sb [] L p cap (Pz.pv L (.li op) i))
theorem Uw(L : List Tk.T4)(op:Int)(i:Nat)(h1:∀j,i < j→j≤L.length→PC 35 L .ex j):PLi L op i:=by
 intro sb p cap w h;obtain⟨i0,hi,hi0,hi1,hi2⟩:=info_parts Tryz.infoEx;have C1:=hid h1;clear h1;have H:=hid h;have hle:=h.le;have hL4:=h.ls.1;have E0:Hid (Pz.Env w w sb (fun W=>PSt W sb L p cap i) [] [] []):=Pz.Env.init h (qj _ _ _ _ _) h.lt (by intro c hc;cases hc);have PV:Hid (Pz.pv L (.li op) i=Pz.step L (Pz.pv L) (.li op) i):=Pz.pv_step L (.li op) i hle;unfold Pz.step at PV;dsimp only at PV;clear h;go_enter Tryz.func207,Tryz.ntmps207;go_wp2_with fail;have E1:=hid (E0.out.box Pz.z0 #[.int .i64 0,.int .i64 0,.string ⟨#[]⟩,.slice none 0 0] rfl 24);generalize w.alloc (.cells #[.int .i64 0,.int .i64 0,.string ⟨#[]⟩,.slice none 0 0] 24)=w2 at *;clear E0
 by_cases hw:Pz.isw L i Pz.wOpen=true
 ·
  have hj:=Pz.isw_lt hw;rw[if_pos hw] at PV;refine(qA sb L p cap i _ _ E1.out.st hw).mono ?_;rintro e w4 ⟨rfl,hs,hg⟩;have E3:=hid (E1.out.grown hs (qj _ _ _ _ _) hg);clear hs hg E1;go_wp2_with fail;have E4:=hid (Pz.EnvR.init (E3.out.box (Pz.xN op none 0 []) #[.int .i64 op,.int .i64 0,.string ⟨#[]⟩,.slice none 0 0] rfl 24) 24);generalize hxb:w4.heap.size=xb at *;generalize w4.alloc (.cells #[.int .i64 op,.int .i64 0,.string ⟨#[]⟩,.slice none 0 0] 24)=w4 at *;clear E3 hxb hw
  go_loopg [8] (L.length - (i+1)) (fun g u wr=>∃(j:Nat) (q:Option Addr) (qc:Nat) (l:List Ch) (ts:List Ch),Hid (g=L.length - j∧i < j∧j≤L.length∧l.length < j∧Pz.EnvR w wr sb (fun W=>PSt W sb L p cap j) [] [(xb,(Pz.xN op q qc l)),(w.heap.size,Pz.z0)] ts 24 q qc l∧Pz.pv L (.li op) i=Pz.pv L (.liL op (l.map Pz.nr)) j))
  case atStart=>exact⟨i+1,none,0,[],[],rfl,by omega,hj,by simp,E4.out,PV.out⟩
  case round =>
   clear E4 PV;obtain⟨j,q,qc,l,ts,HR⟩:=hrel;obtain⟨hg0,hij,hjl,hlj,hE,hpv⟩:=HR.out;have E5:=hid hE;rw[Pz.pv_step L _ j hjl] at hpv;unfold Pz.step at hpv;dsimp only at hpv;have PV:=hid hpv;have HG:=hid hg0;clear hE hpv HR hg0;go_wp2_with fail;have AD:Pz.Ok L j (Pz.pv L .ex j) 1:=Pz.pv_adv L .ex j hjl;refine(C1.out j (by omega) hjl sb p cap wr E5.out.env.st).mono ?_;rintro e w12 ⟨a,rfl,hf⟩;have ADa:Hid (Pz.Ok L j (Pz.pv L .ex j) 1):=AD;generalize Pz.pv L .ex j=r0 at *;obtain⟨o,k⟩:=r0;obtain⟨tsE11,hE,hc,qV⟩:=E5.out.go hf (qj _ _ _ _ _) (by intro d hd;cases hd);have E11:=hid hE;have Ta:=hid hc;have Ua:=hid qV;clear hf hE hc qV E5;dsimp only;rw[Pz.bnd_goL] at PV;cases o with
   | none =>
     rw[Pz.goL_none] at PV;dsimp only[Option.isSome];go_upto_region 5 with (fail);have E13:=hid (E11.out.box a #[.int .i64 a.a.op,.int .i64 a.a.num,.string a.a.name,.slice a.a.ptr (len a.k) a.a.cap] rfl 24);generalize hg15:w12.heap.size=g15 at *;generalize w12.alloc (.cells #[.int .i64 a.a.op,.int .i64 a.a.num,.string a.a.name,.slice a.a.ptr (len a.k) a.a.cap] 24)=w14 at *;clear E11 hg15;obtain⟨qy,qx,qv,qm,qu,qt,qs,qr,qp⟩:=(E13.out.env.bx (g15,a) (by simp)).1;dsimp only at qy qx qv qm qu qt qs qr qp;obtain⟨qL,qK,qJ,qB,qI,qH,qG,qF,qE⟩:=(E13.out.env.bx (xb,(Pz.xN op q qc l)) (by simp)).1;dsimp only[Pz.xN] at qL qK qJ qB qI qH qG qF qE;rw[ql] at qB;obtain⟨yI,yH,yG,yF,yE,yD,yC,yB,yA⟩:=(E13.out.env.bx (w.heap.size,Pz.z0) (by simp)).1;dsimp only[Pz.z0,len] at yI yH yG yF yE yD yC yB yA;go_wp2;refine bodyPost_ret (v:=.tuple #[.agg #[.int .i64 op,.int .i64 0,.string ⟨#[]⟩,.slice q l.length qc],.bool false]) ?_ rfl ?_
     ·rw [results_cell_tmp rfl];go_simp
     ·rw [PV.out];exact⟨(Pz.xN op q qc l),by rw[show len (Pz.xN op q qc l).k=l.length from ql l];rfl,(E13.out.env.tail.tail).done4 (Pz.xN op q qc l) none (fun x hx=>by cases hx) rfl rfl rfl (by show Value.slice q l.length qc=Value.slice q (len (qC l)) qc;rw[ql])⟩
   | some x =>
     have hjk:=ADa.out.2.2 rfl;have hkl:=ADa.out.2.1;dsimp only at hjk hkl;rw[Pz.goL_some] at PV;dsimp only[Option.isSome];go_upto_region 5 with (fail);have E13:=hid (E11.out.box a #[.int .i64 a.a.op,.int .i64 a.a.num,.string a.a.name,.slice a.a.ptr (len a.k) a.a.cap] rfl 24);generalize hg15:w12.heap.size=g15 at *;generalize w12.alloc (.cells #[.int .i64 a.a.op,.int .i64 a.a.num,.string a.a.name,.slice a.a.ptr (len a.k) a.a.cap] 24)=w14 at *;clear E11 hg15;obtain⟨qy,qx,qv,qm,qu,qt,qs,qr,qp⟩:=(E13.out.env.bx (g15,a) (by simp)).1;dsimp only at qy qx qv qm qu qt qs qr qp;obtain⟨qL,qK,qJ,qB,qI,qH,qG,qF,qE⟩:=(E13.out.env.bx (xb,(Pz.xN op q qc l)) (by simp)).1;dsimp only[Pz.xN] at qL qK qJ qB qI qH qG qF qE;rw[ql] at qB;obtain⟨yI,yH,yG,yF,yE,yD,yC,yB,yA⟩:=(E13.out.env.bx (w.heap.size,Pz.z0) (by simp)).1;dsimp only[Pz.z0,len] at yI yH yG yF yE yD yC yB yA;have RA:=hid ((E13.out.tail).below ((Below.refl w14.heap.size w14).alloc (Nat.le_refl _) (.cells #[.int .i64 a.a.op,.int .i64 a.a.num,.string a.a.name,.slice a.a.ptr (len a.k) a.a.cap] 24)));go_wp2_with (at_builtin;refine wpList_append_own_at _ rfl _ _ 22 rfl w.heap.size 24 i0 (.agg #[.int .i64 0,.int .i64 0,.string ⟨#[]⟩,.slice none 0 0]) 4 56 Tryz.underlying22 hi hi0 hi1 hi2 rfl (by decide) (.slice q l.length qc) l.length (jL l) rfl RA.out.own ⟨w14.heap.size,0,none⟩ 1 1 (xp a) rfl rfl ?c1 ?c2 ?c3 ?c4 ?c5 ?_)
     case c1=>first|exact Yi _ _ _|(intro j u hu;exact hu)
     case c2=>exact U5 _
     case c3=>unfold maxLen;omega
     case c4=>omega
     case c5=>first|exact RA.out.env.gr.size|(have h9:=RA.out.env.gr.size;rw[World.size_alloc] at h9;exact h9)
     intro v' w16 qi qk hnil hob;obtain⟨q2,qc2,rfl,hB4,hR4⟩:=RA.out.app (Ta.out x rfl).2 qi qk (by first|exact hob|(rw[World.size_alloc];exact hob));have E17:=hid hR4;clear qi qk hnil hob RA E13 hR4;clear qy qx qv qm qu qt qs qr qp qL qK qJ qB qI qH qG qF qE yI yH yG yF yE yD yC yB yA;obtain⟨z0,z1,z2,z3,y0,y1,y2,y3,zl⟩:=hB4;dsimp only[Pz.xN] at z0 z1 z2 z3 y0 y1 y2 y3 zl;rw[ql] at z3;have MX:=hid (And.intro (Ta.out x rfl).1 (List.map_append (f:=Pz.nr) (l₁:=l) (l₂:=[a])))
     by_cases hl:1≤l.length
     ·
      have hl2:2≤l.length+1:=(by omega);have hl3:(2:Int)≤(l.length:Int)+1:=(by omega);go_wp2_with fail;generalize w16.setCell ⟨xb,3,none⟩ (.slice q2 (l.length+1) qc2)=w18 at *;clear z0 z1 z2 z3 y0 y1 y2 y3 zl
      by_cases hs:Pz.isw L k Pz.wShut=true
      ·
       have hks:=Pz.isw_lt hs;rw[if_pos ⟨by rw[List.length_map];exact hl,hs⟩] at PV;refine(qA sb L p cap k _ _ E17.out.env.st hs).mono ?_;rintro e w20 ⟨rfl,hs,hg⟩;have E19:=hid (E17.out.grown hs (qj _ _ _ _ _) hg);clear hs hg E17;obtain⟨qy,qx,qv,qm,qu,qt,qs,qr,qp⟩:=(E19.out.env.bx (xb,(Pz.xN op q2 qc2 (l++[a]))) (by simp)).1;dsimp only[Pz.xN] at qy qx qv qm qu qt qs qr qp;rw[ql] at qm;obtain⟨qL,qK,qJ,qB,qI,qH,qG,qF,qE⟩:=(E19.out.env.bx (w.heap.size,Pz.z0) (by simp)).1;dsimp only[Pz.z0,len] at qL qK qJ qB qI qH qG qF qE;rw[List.length_append] at qm;dsimp only[List.length_cons,List.length_nil] at qm;have EN:=hid ((E19.out.node op (by simp)).tail);go_wp2;refine bodyPost_ret (v:=.tuple #[.agg #[.int .i64 op,.int .i64 0,.string ⟨#[]⟩,.slice q2 (l.length+1) qc2],.bool true]) ?_ rfl ?_
       ·rw [results_cell_tmp rfl];go_simp
       ·rw [PV.out];exact⟨(Pz.xN op q2 qc2 (l++[a])),by rw[show len (Pz.xN op q2 qc2 (l++[a])).k=l.length+1 from(ql _).trans (by simp)];rfl,EN.out.done4 (Pz.xN op q2 qc2 (l++[a])) (some (Pz.tn op (l.map Pz.nr++[x]))) (fun z hz=>by cases hz;exact⟨by rw[Pz.nr_xN,MX.out.2,List.map_cons,List.map_nil,MX.out.1],by simp⟩) rfl rfl rfl (by show _=Value.slice _ (len (qC _)) _;rw[ql,List.length_append];rfl)⟩
      ·
       have hs':Pz.isw L k Pz.wShut=false:=(by simpa using hs);rw[if_neg (fun h=>hs h.2)] at PV;refine(qM sb L p cap k _ _ E17.out.env.st hs').mono ?_;rintro e w62 ⟨rfl,hb⟩;have E61:=hid (E17.out.below hb);clear hb E17;go_wp2_with fail
       by_cases hc:Pz.isw L k Pz.wComma=true
       ·
        have hkc:=Pz.isw_lt hc;rw[if_pos hc] at PV;refine(qA sb L p cap k _ _ E61.out.env.st hc).mono ?_;rintro e w64 ⟨rfl,hs,hg⟩;have E63:=hid (E61.out.grown hs (qj _ _ _ _ _) hg);clear hs hg E61;clear hc;obtain⟨qy,qx,qv,qm,qu,qt,qs,qr,qp⟩:=(E63.out.env.bx (xb,(Pz.xN op q2 qc2 (l++[a]))) (by simp)).1;dsimp only[Pz.xN] at qy qx qv qm qu qt qs qr qp;rw[ql] at qm;obtain⟨qL,qK,qJ,qB,qI,qH,qG,qF,qE⟩:=(E63.out.env.bx (w.heap.size,Pz.z0) (by simp)).1;dsimp only[Pz.z0,len] at qL qK qJ qB qI qH qG qF qE;go_wp2
        go_roundg (L.length - (k+1))
        case rel=>exact⟨k+1,q2,qc2,l++[a],_,rfl,by omega,hkc,(by rw[List.length_append];show l.length+1 < k+1;omega),E63.out,by rw[PV.out,MX.out.2,List.map_cons,List.map_nil,MX.out.1]⟩
        case measure=>have:=HG.out;omega
       ·
        have hc':Pz.isw L k Pz.wComma=false:=(by simpa using hc);rw[if_neg hc] at PV;refine(qM sb L p cap k _ _ E61.out.env.st hc').mono ?_;rintro e w64 ⟨rfl,hb⟩;have E63:=hid (E61.out.below hb);clear hb E61;clear hc hc';obtain⟨qy,qx,qv,qm,qu,qt,qs,qr,qp⟩:=(E63.out.env.bx (xb,(Pz.xN op q2 qc2 (l++[a]))) (by simp)).1;dsimp only[Pz.xN] at qy qx qv qm qu qt qs qr qp;rw[ql] at qm;obtain⟨qL,qK,qJ,qB,qI,qH,qG,qF,qE⟩:=(E63.out.env.bx (w.heap.size,Pz.z0) (by simp)).1;dsimp only[Pz.z0,len] at qL qK qJ qB qI qH qG qF qE;rw[List.length_append] at qm;dsimp only[List.length_cons,List.length_nil] at qm;go_wp2;refine bodyPost_ret (v:=.tuple #[.agg #[.int .i64 op,.int .i64 0,.string ⟨#[]⟩,.slice q2 (l.length+1) qc2],.bool false]) ?_ rfl ?_
        ·rw [results_cell_tmp rfl];go_simp
        ·rw [PV.out];exact⟨(Pz.xN op q2 qc2 (l++[a])),by rw[show len (Pz.xN op q2 qc2 (l++[a])).k=l.length+1 from(ql _).trans (by simp)];rfl,(E63.out.env.tail).done4 (Pz.xN op q2 qc2 (l++[a])) none (fun x hx=>by cases hx) rfl rfl rfl (by show _=Value.slice _ (len (qC _)) _;rw[ql,List.length_append];rfl)⟩
     ·
      have hl2:¬ 2≤l.length+1:=(by omega);have hl3:¬(2:Int)≤(l.length:Int)+1:=(by omega);rw[if_neg (fun h=>hl (by rw[List.length_map] at h;exact h.1))] at PV;go_wp2_with fail;generalize w16.setCell ⟨xb,3,none⟩ (.slice q2 (l.length+1) qc2)=w18 at *;clear z0 z1 z2 z3 y0 y1 y2 y3 zl
      by_cases hc:Pz.isw L k Pz.wComma=true
      ·
       have hkc:=Pz.isw_lt hc;rw[if_pos hc] at PV;refine(qA sb L p cap k _ _ E17.out.env.st hc).mono ?_;rintro e w82 ⟨rfl,hs,hg⟩;have E81:=hid (E17.out.grown hs (qj _ _ _ _ _) hg);clear hs hg E17;clear hc;obtain⟨qy,qx,qv,qm,qu,qt,qs,qr,qp⟩:=(E81.out.env.bx (xb,(Pz.xN op q2 qc2 (l++[a]))) (by simp)).1;dsimp only[Pz.xN] at qy qx qv qm qu qt qs qr qp;rw[ql] at qm;obtain⟨qL,qK,qJ,qB,qI,qH,qG,qF,qE⟩:=(E81.out.env.bx (w.heap.size,Pz.z0) (by simp)).1;dsimp only[Pz.z0,len] at qL qK qJ qB qI qH qG qF qE;go_wp2
       go_roundg (L.length - (k+1))
       case rel=>exact⟨k+1,q2,qc2,l++[a],_,rfl,by omega,hkc,(by rw[List.length_append];show l.length+1 < k+1;omega),E81.out,by rw[PV.out,MX.out.2,List.map_cons,List.map_nil,MX.out.1]⟩
       case measure=>have:=HG.out;omega
      ·
       have hc':Pz.isw L k Pz.wComma=false:=(by simpa using hc);rw[if_neg hc] at PV;refine(qM sb L p cap k _ _ E17.out.env.st hc').mono ?_;rintro e w82 ⟨rfl,hb⟩;have E81:=hid (E17.out.below hb);clear hb E17;clear hc hc';obtain⟨qy,qx,qv,qm,qu,qt,qs,qr,qp⟩:=(E81.out.env.bx (xb,(Pz.xN op q2 qc2 (l++[a]))) (by simp)).1;dsimp only[Pz.xN] at qy qx qv qm qu qt qs qr qp;rw[ql] at qm;obtain⟨qL,qK,qJ,qB,qI,qH,qG,qF,qE⟩:=(E81.out.env.bx (w.heap.size,Pz.z0) (by simp)).1;dsimp only[Pz.z0,len] at qL qK qJ qB qI qH qG qF qE;rw[List.length_append] at qm;dsimp only[List.length_cons,List.length_nil] at qm;go_wp2;refine bodyPost_ret (v:=.tuple #[.agg #[.int .i64 op,.int .i64 0,.string ⟨#[]⟩,.slice q2 (l.length+1) qc2],.bool false]) ?_ rfl ?_
       ·rw [results_cell_tmp rfl];go_simp
       ·rw [PV.out];exact⟨(Pz.xN op q2 qc2 (l++[a])),by rw[show len (Pz.xN op q2 qc2 (l++[a])).k=l.length+1 from(ql _).trans (by simp)];rfl,(E81.out.env.tail).done4 (Pz.xN op q2 qc2 (l++[a])) none (fun x hx=>by cases hx) rfl rfl rfl (by show _=Value.slice _ (len (qC _)) _;rw[ql,List.length_append];rfl)⟩
 ·
  have hw':Pz.isw L i Pz.wOpen=false:=by simpa using hw
  rw[if_neg hw] at PV;refine(qM sb L p cap i _ _ E1.out.st hw').mono ?_;rintro e w122 ⟨rfl,hb⟩;have E121:=hid (E1.out.below hb);clear hb E1;obtain⟨qy,qx,qv,qm,qu,qt,qs,qr,qp⟩:=(E121.out.bx (w.heap.size,Pz.z0) (by simp)).1;dsimp only[Pz.z0,len] at qy qx qv qm qu qt qs qr qp;go_wp2;refine bodyPost_ret (v:=.tuple #[.agg #[.int .i64 0,.int .i64 0,.string ⟨#[]⟩,.slice none 0 0],.bool false]) ?_ rfl ?_
  ·rw [results_cell_tmp rfl];go_simp
  ·rw [PV.out];exact⟨Pz.z0,rfl,(E121.out).done4 Pz.z0 none (fun x hx=>by cases hx) rfl rfl rfl rfl⟩
namespace Pz
def ch2(L:List Tk.T4)(a b:Ch)(k:Nat):R:=if isw L k wElse=true then bnd (pv L .ex (k+1)) fun c m=>(some (tn 14 [a,b,c]),m) else (none,k)
def ch1(L:List Tk.T4)(a:Ch)(j:Nat):R:=if isw L j wThen=true then bnd (pv L .ex (j+1)) fun b k=>ch2 L a b k else (none,j)
def ch0(L:List Tk.T4)(i:Nat):R:=bnd (pv L .ex i) fun a j=>ch1 L a j
def chS(L:List Tk.T4):List Ch→Nat→R
 | [],j=>ch0 L j
 | [a],j=>ch1 L a j
 | [a,b],j=>ch2 L a b j
 | l,j=>(some (tn 14 l),j)
theorem len0{α:Type}{l:List α}(h:l.length=0):l=[]:=List.eq_nil_of_length_eq_zero h
theorem len1{α:Type}{l:List α}(h:l.length=1):∃a,l=[a]:=by
 match l,h with
 | [a],_=>exact⟨a,rfl⟩
theorem len2{α:Type}{l:List α}(h:l.length=2):∃a b,l=[a,b]:=by
 match l,h with
 | [a,b],_=>exact⟨a,b,rfl⟩
theorem len3{α:Type}{l:List α}(h:l.length=3):∃a b c,l=[a,b,c]:=by
 match l,h with
 | [a,b,c],_=>exact⟨a,b,c,rfl⟩
end Pz
def PCh(L:List Tk.T4)(i:Nat):Prop:=∀(sb:Nat)(p:Option Addr)(cap:Nat)(w:World),PSt w sb L p cap i→
 Calls Tryz.prog 208 #[.pointer (some ⟨sb,0,none⟩)] w (Kz w sb [] L p cap (Pz.ch0 L i))
theorem Ji(L:List Tk.T4)(i:Nat)(h1:∀j,i≤j→j≤L.length→PC 35 L .ex j):PCh L i:=by
 intro sb p cap w h;obtain⟨i0,hi,hi0,hi1,hi2⟩:=info_parts Tryz.infoEx;have C1:=hid h1;have hle:=h.le;have hL4:=h.ls.1;have E0:Hid (Pz.Env w w sb (fun W=>PSt W sb L p cap i) [] [] []):=Pz.Env.init h (qj _ _ _ _ _) h.lt (by intro c hc;cases hc);clear h h1;go_enter Tryz.func208,Tryz.ntmps208;go_wp2_with fail;have E1:=hid (((E0.out.box Pz.z0 #[.int .i64 0,.int .i64 0,.string ⟨#[]⟩,.slice none 0 0] rfl 24).box (Pz.xN 14 none 0 []) #[.int .i64 14,.int .i64 0,.string ⟨#[]⟩,.slice none 0 0] rfl 24));simp only[World.size_alloc] at E1;generalize (w.alloc (.cells #[.int .i64 0,.int .i64 0,.string ⟨#[]⟩,.slice none 0 0] 24)).alloc (.cells #[.int .i64 14,.int .i64 0,.string ⟨#[]⟩,.slice none 0 0] 24)=w1 at *;have E4:=hid (Pz.EnvR.init E1.out 24);clear E0 E1
 go_loopg [9] 4 (fun g n wr=>∃(kk:Int) (m j:Nat) (q:Option Addr) (qc:Nat) (l:List Ch) (ts:List Ch),n=.int .i64 kk∧Hid (kk=m∧m≤3∧g=4 - m∧i≤j∧j≤L.length∧l.length=m∧Pz.EnvR w wr sb (fun W=>PSt W sb L p cap j) [] [(w.heap.size+1,(Pz.xN 14 q qc l)),(w.heap.size,Pz.z0)] ts 24 q qc l∧Pz.ch0 L i=Pz.chS L (l.map Pz.nr) j))
 case atStart=>exact⟨0,0,i,none,0,[],[],rfl,rfl,by omega,rfl,Nat.le_refl _,hle,rfl,E4.out,rfl⟩
 case round =>
  clear E4;obtain⟨kk,m,j,q,qc,l,ts,rfl,HR⟩:=hrel;obtain⟨hk,hm,hg0,hij,hjl,hlm,hE,hpv⟩:=HR.out;have E5:=hid hE;have HG:=hid hg0;have HL:=hid hlm;have hl4:l.length≤3:=by omega
  have PV:=hid hpv;clear hE HR hg0 hpv;obtain⟨rfl,rfl⟩|⟨rfl,rfl⟩|⟨rfl,rfl⟩|⟨rfl,rfl⟩:(kk=0∧m=0)∨(kk=1∧m=1)∨(kk=2∧m=2)∨(kk=3∧m=3):=by omega
  ·
   clear hk hm hlm;have HX:Hid (l.map Pz.nr=[]):=Pz.len0 (by rw[List.length_map,HL.out]);rw[HX.out] at PV;unfold Pz.chS at PV;dsimp only at PV;have PV2:Hid (Pz.ch0 L i=Pz.bnd (Pz.pv L .ex j) fun a j=>Pz.ch1 L a j):=PV.out;clear PV;have PV:=PV2;clear PV2;go_wp2_with fail;have AD:Pz.Ok L j (Pz.pv L .ex j) 1:=Pz.pv_adv L .ex j (by omega);refine(C1.out j (by omega) (by omega) sb p cap wr E5.out.env.st).mono ?_;rintro e w12 ⟨a,rfl,hf⟩;have ADa:Hid (Pz.Ok L j (Pz.pv L .ex j) 1):=AD;generalize Pz.pv L .ex j=r0 at *;obtain⟨o,k⟩:=r0;obtain⟨tsE11,hE,hc,qV⟩:=E5.out.go hf (qj _ _ _ _ _) (by intro d hd;cases hd);have E11:=hid hE;have Ta:=hid hc;have Ua:=hid qV;clear hf hE hc qV E5;dsimp only;rw[Pz.bnd_goL] at PV;cases o with
   | none =>
     rw[Pz.goL_none] at PV;dsimp only[Option.isSome];go_upto_region 8 with (fail);have E13:=hid (E11.out.box a #[.int .i64 a.a.op,.int .i64 a.a.num,.string a.a.name,.slice a.a.ptr (len a.k) a.a.cap] rfl 24);generalize hg15:w12.heap.size=g15 at *;generalize w12.alloc (.cells #[.int .i64 a.a.op,.int .i64 a.a.num,.string a.a.name,.slice a.a.ptr (len a.k) a.a.cap] 24)=w14 at *;clear E11 hg15;obtain⟨qy,qx,qv,qm,qu,qt,qs,qr,qp⟩:=(E13.out.env.bx (g15,a) (by simp)).1;dsimp only at qy qx qv qm qu qt qs qr qp;obtain⟨qL,qK,qJ,qB,qI,qH,qG,qF,qE⟩:=(E13.out.env.bx (w.heap.size+1,(Pz.xN 14 q qc l)) (by simp)).1;dsimp only[Pz.xN] at qL qK qJ qB qI qH qG qF qE;rw[ql] at qB;obtain⟨yI,yH,yG,yF,yE,yD,yC,yB,yA⟩:=(E13.out.env.bx (w.heap.size,Pz.z0) (by simp)).1;dsimp only[Pz.z0,len] at yI yH yG yF yE yD yC yB yA;go_wp2;refine bodyPost_ret (v:=.tuple #[.agg #[.int .i64 14,.int .i64 0,.string ⟨#[]⟩,.slice q l.length qc],.bool false]) ?_ rfl ?_
     ·rw [results_cell_tmp rfl];go_simp
     ·rw [PV.out];exact⟨(Pz.xN 14 q qc l),by rw[show len (Pz.xN 14 q qc l).k=l.length from ql l];rfl,(E13.out.env.tail.tail).done4 (Pz.xN 14 q qc l) none (fun x hx=>by cases hx) rfl rfl rfl (by show Value.slice q l.length qc=Value.slice q (len (qC l)) qc;rw[ql])⟩
   | some x =>
     have hjk:=ADa.out.2.2 rfl;have hkl:=ADa.out.2.1;dsimp only at hjk hkl;rw[Pz.goL_some] at PV;dsimp only[Option.isSome];go_upto_region 8 with (fail);have E13:=hid (E11.out.box a #[.int .i64 a.a.op,.int .i64 a.a.num,.string a.a.name,.slice a.a.ptr (len a.k) a.a.cap] rfl 24);generalize hg15:w12.heap.size=g15 at *;generalize w12.alloc (.cells #[.int .i64 a.a.op,.int .i64 a.a.num,.string a.a.name,.slice a.a.ptr (len a.k) a.a.cap] 24)=w14 at *;clear E11 hg15;obtain⟨qy,qx,qv,qm,qu,qt,qs,qr,qp⟩:=(E13.out.env.bx (g15,a) (by simp)).1;dsimp only at qy qx qv qm qu qt qs qr qp;obtain⟨qL,qK,qJ,qB,qI,qH,qG,qF,qE⟩:=(E13.out.env.bx (w.heap.size+1,(Pz.xN 14 q qc l)) (by simp)).1;dsimp only[Pz.xN] at qL qK qJ qB qI qH qG qF qE;rw[ql] at qB;obtain⟨yI,yH,yG,yF,yE,yD,yC,yB,yA⟩:=(E13.out.env.bx (w.heap.size,Pz.z0) (by simp)).1;dsimp only[Pz.z0,len] at yI yH yG yF yE yD yC yB yA;have RA:=hid ((E13.out.tail).below ((Below.refl w14.heap.size w14).alloc (Nat.le_refl _) (.cells #[.int .i64 a.a.op,.int .i64 a.a.num,.string a.a.name,.slice a.a.ptr (len a.k) a.a.cap] 24)));go_wp2_with (at_builtin;refine wpList_append_own_at _ rfl _ _ 22 rfl w.heap.size 24 i0 (.agg #[.int .i64 0,.int .i64 0,.string ⟨#[]⟩,.slice none 0 0]) 4 56 Tryz.underlying22 hi hi0 hi1 hi2 rfl (by decide) (.slice q l.length qc) l.length (jL l) rfl RA.out.own ⟨w14.heap.size,0,none⟩ 1 1 (xp a) rfl rfl ?c1 ?c2 ?c3 ?c4 ?c5 ?_)
     case c1=>first|exact Yi _ _ _|(intro j u hu;exact hu)
     case c2=>exact U5 _
     case c3=>unfold maxLen;omega
     case c4=>omega
     case c5=>first|exact RA.out.env.gr.size|(have h9:=RA.out.env.gr.size;rw[World.size_alloc] at h9;exact h9)
     intro v' w16 qi qk hnil hob;obtain⟨q2,qc2,rfl,hB4,hR4⟩:=RA.out.app (Ta.out x rfl).2 qi qk (by first|exact hob|(rw[World.size_alloc];exact hob));have E17:=hid hR4;clear qi qk hnil hob RA E13 hR4;clear qy qx qv qm qu qt qs qr qp qL qK qJ qB qI qH qG qF qE yI yH yG yF yE yD yC yB yA;obtain⟨z0,z1,z2,z3,y0,y1,y2,y3,zl⟩:=hB4;dsimp only[Pz.xN] at z0 z1 z2 z3 y0 y1 y2 y3 zl;rw[ql] at z3;have MX:=hid (And.intro (Ta.out x rfl).1 (List.map_append (f:=Pz.nr) (l₁:=l) (l₂:=[a])));go_wp2
     go_roundg (3)
     case rel=>exact⟨1,1,k,q2,qc2,l++[a],_,rfl,rfl,by omega,rfl,by omega,hkl,(by rw[List.length_append,HL.out];rfl),E17.out,by rw[PV.out,MX.out.2,HX.out,List.map_cons,List.map_nil,MX.out.1];rfl⟩
     case measure=>have:=HG.out;omega
  ·
   clear hk hm hlm;obtain⟨x0,hx⟩:=Pz.len1 (show(l.map Pz.nr).length=1 by rw[List.length_map,HL.out]);have HX:=hid hx;clear hx;rw[HX.out] at PV;unfold Pz.chS Pz.ch1 at PV;dsimp only at PV;go_wp2_with fail
   by_cases hw:Pz.isw L j Pz.wThen=true
   ·
    have hj:=Pz.isw_lt hw;rw[if_pos hw] at PV;refine(qA sb L p cap j _ _ E5.out.env.st hw).mono ?_;rintro e w102 ⟨rfl,hs,hg⟩;have E101:=hid (E5.out.grown hs (qj _ _ _ _ _) hg);clear hs hg E5;clear hw;go_wp2_with fail;have AD:Pz.Ok L (j+1) (Pz.pv L .ex (j+1)) 1:=Pz.pv_adv L .ex (j+1) (by omega);refine(C1.out (j+1) (by omega) (by omega) sb p cap w102 E101.out.env.st).mono ?_;rintro e w104 ⟨a,rfl,hf⟩;have ADa:Hid (Pz.Ok L (j+1) (Pz.pv L .ex (j+1)) 1):=AD;generalize Pz.pv L .ex (j+1)=r0 at *;obtain⟨o,k⟩:=r0;obtain⟨tsE103,hE,hc,qV⟩:=E101.out.go hf (qj _ _ _ _ _) (by intro d hd;cases hd);have E103:=hid hE;have Ta:=hid hc;have Ua:=hid qV;clear hf hE hc qV E101;dsimp only;rw[Pz.bnd_goL] at PV;cases o with
    | none =>
      rw[Pz.goL_none] at PV;dsimp only[Option.isSome];go_upto_region 8 with (fail);have E105:=hid (E103.out.box a #[.int .i64 a.a.op,.int .i64 a.a.num,.string a.a.name,.slice a.a.ptr (len a.k) a.a.cap] rfl 24);generalize hg107:w104.heap.size=g107 at *;generalize w104.alloc (.cells #[.int .i64 a.a.op,.int .i64 a.a.num,.string a.a.name,.slice a.a.ptr (len a.k) a.a.cap] 24)=w106 at *;clear E103 hg107;obtain⟨qy,qx,qv,qm,qu,qt,qs,qr,qp⟩:=(E105.out.env.bx (g107,a) (by simp)).1;dsimp only at qy qx qv qm qu qt qs qr qp;obtain⟨qL,qK,qJ,qB,qI,qH,qG,qF,qE⟩:=(E105.out.env.bx (w.heap.size+1,(Pz.xN 14 q qc l)) (by simp)).1;dsimp only[Pz.xN] at qL qK qJ qB qI qH qG qF qE;rw[ql] at qB;obtain⟨yI,yH,yG,yF,yE,yD,yC,yB,yA⟩:=(E105.out.env.bx (w.heap.size,Pz.z0) (by simp)).1;dsimp only[Pz.z0,len] at yI yH yG yF yE yD yC yB yA;go_wp2;refine bodyPost_ret (v:=.tuple #[.agg #[.int .i64 14,.int .i64 0,.string ⟨#[]⟩,.slice q l.length qc],.bool false]) ?_ rfl ?_
      ·rw [results_cell_tmp rfl];go_simp
      ·rw [PV.out];exact⟨(Pz.xN 14 q qc l),by rw[show len (Pz.xN 14 q qc l).k=l.length from ql l];rfl,(E105.out.env.tail.tail).done4 (Pz.xN 14 q qc l) none (fun x hx=>by cases hx) rfl rfl rfl (by show Value.slice q l.length qc=Value.slice q (len (qC l)) qc;rw[ql])⟩
    | some x =>
      have hjk:=ADa.out.2.2 rfl;have hkl:=ADa.out.2.1;dsimp only at hjk hkl;rw[Pz.goL_some] at PV;dsimp only[Option.isSome];go_upto_region 8 with (fail);have E105:=hid (E103.out.box a #[.int .i64 a.a.op,.int .i64 a.a.num,.string a.a.name,.slice a.a.ptr (len a.k) a.a.cap] rfl 24);generalize hg107:w104.heap.size=g107 at *;generalize w104.alloc (.cells #[.int .i64 a.a.op,.int .i64 a.a.num,.string a.a.name,.slice a.a.ptr (len a.k) a.a.cap] 24)=w106 at *;clear E103 hg107;obtain⟨qy,qx,qv,qm,qu,qt,qs,qr,qp⟩:=(E105.out.env.bx (g107,a) (by simp)).1;dsimp only at qy qx qv qm qu qt qs qr qp;obtain⟨qL,qK,qJ,qB,qI,qH,qG,qF,qE⟩:=(E105.out.env.bx (w.heap.size+1,(Pz.xN 14 q qc l)) (by simp)).1;dsimp only[Pz.xN] at qL qK qJ qB qI qH qG qF qE;rw[ql] at qB;obtain⟨yI,yH,yG,yF,yE,yD,yC,yB,yA⟩:=(E105.out.env.bx (w.heap.size,Pz.z0) (by simp)).1;dsimp only[Pz.z0,len] at yI yH yG yF yE yD yC yB yA;have RA:=hid ((E105.out.tail).below ((Below.refl w106.heap.size w106).alloc (Nat.le_refl _) (.cells #[.int .i64 a.a.op,.int .i64 a.a.num,.string a.a.name,.slice a.a.ptr (len a.k) a.a.cap] 24)));go_wp2_with (at_builtin;refine wpList_append_own_at _ rfl _ _ 22 rfl w.heap.size 24 i0 (.agg #[.int .i64 0,.int .i64 0,.string ⟨#[]⟩,.slice none 0 0]) 4 56 Tryz.underlying22 hi hi0 hi1 hi2 rfl (by decide) (.slice q l.length qc) l.length (jL l) rfl RA.out.own ⟨w106.heap.size,0,none⟩ 1 1 (xp a) rfl rfl ?c1 ?c2 ?c3 ?c4 ?c5 ?_)
      case c1=>first|exact Yi _ _ _|(intro j u hu;exact hu)
      case c2=>exact U5 _
      case c3=>unfold maxLen;omega
      case c4=>omega
      case c5=>first|exact RA.out.env.gr.size|(have h9:=RA.out.env.gr.size;rw[World.size_alloc] at h9;exact h9)
      intro v' w108 qi qk hnil hob;obtain⟨q2,qc2,rfl,hB4,hR4⟩:=RA.out.app (Ta.out x rfl).2 qi qk (by first|exact hob|(rw[World.size_alloc];exact hob));have E109:=hid hR4;clear qi qk hnil hob RA E105 hR4;clear qy qx qv qm qu qt qs qr qp qL qK qJ qB qI qH qG qF qE yI yH yG yF yE yD yC yB yA;obtain⟨z0,z1,z2,z3,y0,y1,y2,y3,zl⟩:=hB4;dsimp only[Pz.xN] at z0 z1 z2 z3 y0 y1 y2 y3 zl;rw[ql] at z3;have MX:=hid (And.intro (Ta.out x rfl).1 (List.map_append (f:=Pz.nr) (l₁:=l) (l₂:=[a])));go_wp2
      go_roundg (2)
      case rel=>exact⟨2,2,k,q2,qc2,l++[a],_,rfl,rfl,by omega,rfl,by omega,hkl,(by rw[List.length_append,HL.out];rfl),E109.out,by rw[PV.out,MX.out.2,HX.out,List.map_cons,List.map_nil,MX.out.1];rfl⟩
      case measure=>have:=HG.out;omega
   ·
    have hw':Pz.isw L j Pz.wThen=false:=(by simpa using hw);rw[if_neg hw] at PV;refine(qM sb L p cap j _ _ E5.out.env.st hw').mono ?_;rintro e w152 ⟨rfl,hb⟩;have E151:=hid (E5.out.below hb);clear hb E5;clear hw hw';obtain⟨qy,qx,qv,qm,qu,qt,qs,qr,qp⟩:=(E151.out.env.bx (w.heap.size+1,(Pz.xN 14 q qc l)) (by simp)).1;dsimp only[Pz.xN] at qy qx qv qm qu qt qs qr qp;rw[ql] at qm;obtain⟨qL,qK,qJ,qB,qI,qH,qG,qF,qE⟩:=(E151.out.env.bx (w.heap.size,Pz.z0) (by simp)).1;dsimp only[Pz.z0,len] at qL qK qJ qB qI qH qG qF qE;go_wp2;refine bodyPost_ret (v:=.tuple #[.agg #[.int .i64 14,.int .i64 0,.string ⟨#[]⟩,.slice q l.length qc],.bool false]) ?_ rfl ?_
    ·rw [results_cell_tmp rfl];go_simp
    ·rw [PV.out];exact⟨(Pz.xN 14 q qc l),by rw[show len (Pz.xN 14 q qc l).k=l.length from ql l];rfl,(E151.out.env.tail).done4 (Pz.xN 14 q qc l) none (fun x hx=>by cases hx) rfl rfl rfl (by show Value.slice q l.length qc=Value.slice q (len (qC l)) qc;rw[ql])⟩
  ·
   clear hk hm hlm;obtain⟨x0,x1,hx⟩:=Pz.len2 (show(l.map Pz.nr).length=2 by rw[List.length_map,HL.out]);have HX:=hid hx;clear hx;rw[HX.out] at PV;unfold Pz.chS Pz.ch2 at PV;dsimp only at PV;go_wp2_with fail
   by_cases hw:Pz.isw L j Pz.wElse=true
   ·
    have hj:=Pz.isw_lt hw;rw[if_pos hw] at PV;refine(qA sb L p cap j _ _ E5.out.env.st hw).mono ?_;rintro e w202 ⟨rfl,hs,hg⟩;have E201:=hid (E5.out.grown hs (qj _ _ _ _ _) hg);clear hs hg E5;clear hw;go_wp2_with fail;have AD:Pz.Ok L (j+1) (Pz.pv L .ex (j+1)) 1:=Pz.pv_adv L .ex (j+1) (by omega);refine(C1.out (j+1) (by omega) (by omega) sb p cap w202 E201.out.env.st).mono ?_;rintro e w204 ⟨a,rfl,hf⟩;have ADa:Hid (Pz.Ok L (j+1) (Pz.pv L .ex (j+1)) 1):=AD;generalize Pz.pv L .ex (j+1)=r0 at *;obtain⟨o,k⟩:=r0;obtain⟨tsE203,hE,hc,qV⟩:=E201.out.go hf (qj _ _ _ _ _) (by intro d hd;cases hd);have E203:=hid hE;have Ta:=hid hc;have Ua:=hid qV;clear hf hE hc qV E201;dsimp only;rw[Pz.bnd_goL] at PV;cases o with
    | none =>
      rw[Pz.goL_none] at PV;dsimp only[Option.isSome];go_upto_region 8 with (fail);have E205:=hid (E203.out.box a #[.int .i64 a.a.op,.int .i64 a.a.num,.string a.a.name,.slice a.a.ptr (len a.k) a.a.cap] rfl 24);generalize hg207:w204.heap.size=g207 at *;generalize w204.alloc (.cells #[.int .i64 a.a.op,.int .i64 a.a.num,.string a.a.name,.slice a.a.ptr (len a.k) a.a.cap] 24)=w206 at *;clear E203 hg207;obtain⟨qy,qx,qv,qm,qu,qt,qs,qr,qp⟩:=(E205.out.env.bx (g207,a) (by simp)).1;dsimp only at qy qx qv qm qu qt qs qr qp;obtain⟨qL,qK,qJ,qB,qI,qH,qG,qF,qE⟩:=(E205.out.env.bx (w.heap.size+1,(Pz.xN 14 q qc l)) (by simp)).1;dsimp only[Pz.xN] at qL qK qJ qB qI qH qG qF qE;rw[ql] at qB;obtain⟨yI,yH,yG,yF,yE,yD,yC,yB,yA⟩:=(E205.out.env.bx (w.heap.size,Pz.z0) (by simp)).1;dsimp only[Pz.z0,len] at yI yH yG yF yE yD yC yB yA;go_wp2;refine bodyPost_ret (v:=.tuple #[.agg #[.int .i64 14,.int .i64 0,.string ⟨#[]⟩,.slice q l.length qc],.bool false]) ?_ rfl ?_
      ·rw [results_cell_tmp rfl];go_simp
      ·rw [PV.out];exact⟨(Pz.xN 14 q qc l),by rw[show len (Pz.xN 14 q qc l).k=l.length from ql l];rfl,(E205.out.env.tail.tail).done4 (Pz.xN 14 q qc l) none (fun x hx=>by cases hx) rfl rfl rfl (by show Value.slice q l.length qc=Value.slice q (len (qC l)) qc;rw[ql])⟩
    | some x =>
      have hjk:=ADa.out.2.2 rfl;have hkl:=ADa.out.2.1;dsimp only at hjk hkl;rw[Pz.goL_some] at PV;dsimp only[Option.isSome];go_upto_region 8 with (fail);have E205:=hid (E203.out.box a #[.int .i64 a.a.op,.int .i64 a.a.num,.string a.a.name,.slice a.a.ptr (len a.k) a.a.cap] rfl 24);generalize hg207:w204.heap.size=g207 at *;generalize w204.alloc (.cells #[.int .i64 a.a.op,.int .i64 a.a.num,.string a.a.name,.slice a.a.ptr (len a.k) a.a.cap] 24)=w206 at *;clear E203 hg207;obtain⟨qy,qx,qv,qm,qu,qt,qs,qr,qp⟩:=(E205.out.env.bx (g207,a) (by simp)).1;dsimp only at qy qx qv qm qu qt qs qr qp;obtain⟨qL,qK,qJ,qB,qI,qH,qG,qF,qE⟩:=(E205.out.env.bx (w.heap.size+1,(Pz.xN 14 q qc l)) (by simp)).1;dsimp only[Pz.xN] at qL qK qJ qB qI qH qG qF qE;rw[ql] at qB;obtain⟨yI,yH,yG,yF,yE,yD,yC,yB,yA⟩:=(E205.out.env.bx (w.heap.size,Pz.z0) (by simp)).1;dsimp only[Pz.z0,len] at yI yH yG yF yE yD yC yB yA;have RA:=hid ((E205.out.tail).below ((Below.refl w206.heap.size w206).alloc (Nat.le_refl _) (.cells #[.int .i64 a.a.op,.int .i64 a.a.num,.string a.a.name,.slice a.a.ptr (len a.k) a.a.cap] 24)));go_wp2_with (at_builtin;refine wpList_append_own_at _ rfl _ _ 22 rfl w.heap.size 24 i0 (.agg #[.int .i64 0,.int .i64 0,.string ⟨#[]⟩,.slice none 0 0]) 4 56 Tryz.underlying22 hi hi0 hi1 hi2 rfl (by decide) (.slice q l.length qc) l.length (jL l) rfl RA.out.own ⟨w206.heap.size,0,none⟩ 1 1 (xp a) rfl rfl ?c1 ?c2 ?c3 ?c4 ?c5 ?_)
      case c1=>first|exact Yi _ _ _|(intro j u hu;exact hu)
      case c2=>exact U5 _
      case c3=>unfold maxLen;omega
      case c4=>omega
      case c5=>first|exact RA.out.env.gr.size|(have h9:=RA.out.env.gr.size;rw[World.size_alloc] at h9;exact h9)
      intro v' w208 qi qk hnil hob;obtain⟨q2,qc2,rfl,hB4,hR4⟩:=RA.out.app (Ta.out x rfl).2 qi qk (by first|exact hob|(rw[World.size_alloc];exact hob));have E209:=hid hR4;clear qi qk hnil hob RA E205 hR4;clear qy qx qv qm qu qt qs qr qp qL qK qJ qB qI qH qG qF qE yI yH yG yF yE yD yC yB yA;obtain⟨z0,z1,z2,z3,y0,y1,y2,y3,zl⟩:=hB4;dsimp only[Pz.xN] at z0 z1 z2 z3 y0 y1 y2 y3 zl;rw[ql] at z3;have MX:=hid (And.intro (Ta.out x rfl).1 (List.map_append (f:=Pz.nr) (l₁:=l) (l₂:=[a])));go_wp2
      go_roundg (1)
      case rel=>exact⟨3,3,k,q2,qc2,l++[a],_,rfl,rfl,by omega,rfl,by omega,hkl,(by rw[List.length_append,HL.out];rfl),E209.out,by rw[PV.out,MX.out.2,HX.out,List.map_cons,List.map_nil,MX.out.1];rfl⟩
      case measure=>have:=HG.out;omega
   ·
    have hw':Pz.isw L j Pz.wElse=false:=(by simpa using hw);rw[if_neg hw] at PV;refine(qM sb L p cap j _ _ E5.out.env.st hw').mono ?_;rintro e w252 ⟨rfl,hb⟩;have E251:=hid (E5.out.below hb);clear hb E5;clear hw hw';obtain⟨qy,qx,qv,qm,qu,qt,qs,qr,qp⟩:=(E251.out.env.bx (w.heap.size+1,(Pz.xN 14 q qc l)) (by simp)).1;dsimp only[Pz.xN] at qy qx qv qm qu qt qs qr qp;rw[ql] at qm;obtain⟨qL,qK,qJ,qB,qI,qH,qG,qF,qE⟩:=(E251.out.env.bx (w.heap.size,Pz.z0) (by simp)).1;dsimp only[Pz.z0,len] at qL qK qJ qB qI qH qG qF qE;go_wp2;refine bodyPost_ret (v:=.tuple #[.agg #[.int .i64 14,.int .i64 0,.string ⟨#[]⟩,.slice q l.length qc],.bool false]) ?_ rfl ?_
    ·rw [results_cell_tmp rfl];go_simp
    ·rw [PV.out];exact⟨(Pz.xN 14 q qc l),by rw[show len (Pz.xN 14 q qc l).k=l.length from ql l];rfl,(E251.out.env.tail).done4 (Pz.xN 14 q qc l) none (fun x hx=>by cases hx) rfl rfl rfl (by show Value.slice q l.length qc=Value.slice q (len (qC l)) qc;rw[ql])⟩
  ·
   clear hk hm hlm;obtain⟨x0,x1,x2,hx⟩:=Pz.len3 (show(l.map Pz.nr).length=3 by rw[List.length_map,HL.out]);have HX:=hid hx;clear hx;rw[HX.out] at PV;unfold Pz.chS at PV;dsimp only at PV;have EN:=hid ((E5.out.node 14 (fun q=>by have:=HL.out;rw[q] at this;cases this)).tail);obtain⟨qy,qx,qv,qm,qu,qt,qs,qr,qp⟩:=(E5.out.env.bx (w.heap.size+1,(Pz.xN 14 q qc l)) (by simp)).1;dsimp only[Pz.xN] at qy qx qv qm qu qt qs qr qp;rw[ql] at qm;obtain⟨qL,qK,qJ,qB,qI,qH,qG,qF,qE⟩:=(E5.out.env.bx (w.heap.size,Pz.z0) (by simp)).1;dsimp only[Pz.z0,len] at qL qK qJ qB qI qH qG qF qE;go_wp2;refine bodyPost_ret (v:=.tuple #[.agg #[.int .i64 14,.int .i64 0,.string ⟨#[]⟩,.slice q l.length qc],.bool true]) ?_ rfl ?_
   ·rw [results_cell_tmp rfl];go_simp
   ·rw [PV.out];exact⟨(Pz.xN 14 q qc l),by rw[show len (Pz.xN 14 q qc l).k=l.length from ql l];rfl,EN.out.done4 (Pz.xN 14 q qc l) (some (Pz.tn 14 [x0,x1,x2])) (fun z hz=>by cases hz;exact⟨by rw[Pz.nr_xN,HX.out],by simp⟩) rfl rfl rfl (by show Value.slice q l.length qc=Value.slice q (len (qC l)) qc;rw[ql])⟩
theorem Kh{w W:World}{sb:Nat}{gv:List Ch}{St:World→Prop}{o:Option Ch}{c:Ch}(h:Pz.Fin w sb gv St o c W)(hc:∀W W':World,St W→Below (sb+1) W W'→St W'):Pz.Fin w sb gv St o c W.drew :=
 ⟨fun x hx=>⟨(h.1 x hx).1,⟨(h.1 x hx).2.1.1,(h.1 x hx).2.1.2.next ((Below.refl _ _).drew)⟩,(h.1 x hx).2.2⟩,hc _ _ h.2.1 ((Below.refl _ _).drew),Ul h.2.2⟩
theorem Vt(L : List Tk.T4)(i:Nat)(hV:∀t∈ L,VT t.t)(h1:∀j,i < j→j≤L.length→PC 204 L .fc j)(h2:∀j,i < j→j≤L.length→PC 35 L .ex j):PC 204 L .fc i:=by
 intro sb p cap w h;have C1:=hid h1;have C2:=hid h2;have HV:=hid hV;clear h1 h2 hV;have H:=hid h;have hle:=h.le;have hL4:=h.ls.1;have E0:Hid (Pz.Env w w sb (fun W=>PSt W sb L p cap i) [] [] []):=Pz.Env.init h (qj _ _ _ _ _) h.lt (by intro c hc;cases hc);have PV:Hid (Pz.pv L .fc i=Pz.step L (Pz.pv L) .fc i):=Pz.pv_step L .fc i hle;unfold Pz.step at PV;dsimp only at PV;clear h;go_enter Tryz.func204,Tryz.ntmps204;go_wp2_with fail;have E1:=hid (E0.out.box Pz.z0 #[.int .i64 0,.int .i64 0,.string ⟨#[]⟩,.slice none 0 0] rfl 24);generalize w.alloc (.cells #[.int .i64 0,.int .i64 0,.string ⟨#[]⟩,.slice none 0 0] 24)=w2 at *;clear E0
 by_cases hw0:Pz.isw L i Pz.wMinus=true
 ·
  have hj:=Pz.isw_lt hw0;rw[if_pos hw0] at PV;refine(qA sb L p cap i _ _ E1.out.st hw0).mono ?_;rintro e w102 ⟨rfl,hs,hg⟩;have E101:=hid (E1.out.grown hs (qj _ _ _ _ _) hg);clear hs hg E1;go_wp2_with fail;have AD:Pz.Ok L (i+1) (Pz.pv L .fc (i+1)) 1:=Pz.pv_adv L .fc (i+1) hj;refine(C1.out (i+1) (by omega) hj sb p cap w102 E101.out.st).mono ?_;rintro e w104 ⟨c,rfl,hf⟩;have ADc:Hid (Pz.Ok L (i+1) (Pz.pv L .fc (i+1)) 1):=AD;generalize Pz.pv L .fc (i+1)=r0 at *;obtain⟨o,k⟩:=r0;obtain⟨tsE103,hE,hc,qV⟩:=E101.out.go hf (qj _ _ _ _ _) (by intro d hd;cases hd);have E103:=hid hE;have Tc:=hid hc;have Uc:=hid qV;clear hf hE hc qV E101;dsimp only;rw[Pz.bnd_goL] at PV;go_upto_region 3 with (fail);have E105:=hid (E103.out.box c #[.int .i64 c.a.op,.int .i64 c.a.num,.string c.a.name,.slice c.a.ptr (len c.k) c.a.cap] rfl 24);generalize hg107:w104.heap.size=g107 at *;generalize w104.alloc (.cells #[.int .i64 c.a.op,.int .i64 c.a.num,.string c.a.name,.slice c.a.ptr (len c.k) c.a.cap] 24)=w106 at *;clear E103 hg107;obtain⟨qy,qx,qv,qm,qu,qt,qs,qr,qp⟩:=(E105.out.bx (g107,c) (by simp)).1;dsimp only at qy qx qv qm qu qt qs qr qp;obtain⟨qL,qK,qJ,qB,qI,qH,qG,qF,qE⟩:=(E105.out.bx (w.heap.size,Pz.z0) (by simp)).1;dsimp only[Pz.z0,len] at qL qK qJ qB qI qH qG qF qE;cases o with
  | none =>
    go_wp2;refine bodyPost_ret (v:=.tuple #[.agg #[.int .i64 7,.int .i64 0,.string ⟨#[]⟩,.slice (some ⟨w106.heap.size,0,none⟩) 1 1],.bool false]) ?_ rfl ?_
    ·rw [results_cell_tmp rfl];go_simp
    ·rw [PV.out,Pz.goL_none];exact⟨(⟨w106.heap.size,0,⟨7,0,⟨#[]⟩,some ⟨w106.heap.size,0,none⟩,1⟩,qC [c]⟩:Ch),rfl,(E105.out.tail).done_node [c] 7 1 rfl none (fun x hx=>by cases hx) _ rfl _⟩
  | some x =>
    go_wp2;refine bodyPost_ret (v:=.tuple #[.agg #[.int .i64 7,.int .i64 0,.string ⟨#[]⟩,.slice (some ⟨w106.heap.size,0,none⟩) 1 1],.bool true]) ?_ rfl ?_
    ·rw [results_cell_tmp rfl];go_simp
    ·rw [PV.out,Pz.goL_some];exact⟨(⟨w106.heap.size,0,⟨7,0,⟨#[]⟩,some ⟨w106.heap.size,0,none⟩,1⟩,qC [c]⟩:Ch),rfl,(E105.out.tail).done_node [c] 7 1 rfl (some (Pz.tn 7 [x])) (fun y hy=>by cases hy;exact⟨(by intro q hq;simp only[List.mem_cons,List.not_mem_nil,or_false] at hq;rw[hq];exact(Tc.out x rfl).2),(by rw[List.map_cons,List.map_nil,(Tc.out x rfl).1])⟩) _ rfl _⟩
 ·
  have hw0':Pz.isw L i Pz.wMinus=false:=by simpa using hw0
  rw[if_neg hw0] at PV;refine(qM sb L p cap i _ _ E1.out.st hw0').mono ?_;rintro e w1002 ⟨rfl,hb⟩;have E1001:=hid (E1.out.below hb);clear hb E1;go_wp2_with fail
  by_cases hw1:Pz.isw L i Pz.wTrue=true
  ·
   have hj:=Pz.isw_lt hw1;rw[if_pos hw1] at PV;refine(qA sb L p cap i _ _ E1001.out.st hw1).mono ?_;rintro e w202 ⟨rfl,hs,hg⟩;have E201:=hid (E1001.out.grown hs (qj _ _ _ _ _) hg);clear hs hg E1001;obtain⟨qy,qx,qv,qm,qu,qt,qs,qr,qp⟩:=(E201.out.bx (w.heap.size,Pz.z0) (by simp)).1;dsimp only[Pz.z0,len] at qy qx qv qm qu qt qs qr qp;have EL:=hid (E201.out.leaf 4 0 ⟨#[]⟩);go_wp2;refine bodyPost_ret (v:=.tuple #[.agg #[.int .i64 4,.int .i64 0,.string ⟨#[]⟩,.slice none 0 0],.bool true]) ?_ rfl ?_
   ·rw [results_cell_tmp rfl];go_simp
   ·rw [PV.out];exact⟨Pz.lf 4 0 ⟨#[]⟩,rfl,EL.out.done4 (Pz.lf 4 0 ⟨#[]⟩) (some (Pz.lf 4 0 ⟨#[]⟩)) (fun z hz=>by cases hz;exact⟨rfl,by simp⟩) rfl rfl rfl rfl⟩
  ·
   have hw1':Pz.isw L i Pz.wTrue=false:=(by simpa using hw1);rw[if_neg hw1] at PV;refine(qM sb L p cap i _ _ E1001.out.st hw1').mono ?_;rintro e w2002 ⟨rfl,hb⟩;have E2001:=hid (E1001.out.below hb);clear hb E1001;go_wp2_with fail
   by_cases hw2:Pz.isw L i Pz.wFalse=true
   ·
    have hj:=Pz.isw_lt hw2;rw[if_pos hw2] at PV;refine(qA sb L p cap i _ _ E2001.out.st hw2).mono ?_;rintro e w302 ⟨rfl,hs,hg⟩;have E301:=hid (E2001.out.grown hs (qj _ _ _ _ _) hg);clear hs hg E2001;obtain⟨qy,qx,qv,qm,qu,qt,qs,qr,qp⟩:=(E301.out.bx (w.heap.size,Pz.z0) (by simp)).1;dsimp only[Pz.z0,len] at qy qx qv qm qu qt qs qr qp;have EL:=hid (E301.out.leaf 5 0 ⟨#[]⟩);go_wp2;refine bodyPost_ret (v:=.tuple #[.agg #[.int .i64 5,.int .i64 0,.string ⟨#[]⟩,.slice none 0 0],.bool true]) ?_ rfl ?_
    ·rw [results_cell_tmp rfl];go_simp
    ·rw [PV.out];exact⟨Pz.lf 5 0 ⟨#[]⟩,rfl,EL.out.done4 (Pz.lf 5 0 ⟨#[]⟩) (some (Pz.lf 5 0 ⟨#[]⟩)) (fun z hz=>by cases hz;exact⟨rfl,by simp⟩) rfl rfl rfl rfl⟩
   ·
    have hw2':Pz.isw L i Pz.wFalse=false:=(by simpa using hw2);rw[if_neg hw2] at PV;refine(qM sb L p cap i _ _ E2001.out.st hw2').mono ?_;rintro e w3002 ⟨rfl,hb⟩;have E3001:=hid (E2001.out.below hb);clear hb E2001;go_wp2_with fail
    by_cases hw3:Pz.isw L i Pz.wMin=true
    ·
     have hj:=Pz.isw_lt hw3;rw[if_pos hw3] at PV;refine(qA sb L p cap i _ _ E3001.out.st hw3).mono ?_;rintro e w402 ⟨rfl,hs,hg⟩;have E401:=hid (E3001.out.grown hs (qj _ _ _ _ _) hg);clear hs hg E3001;have ADX:Pz.Ok L (i+1) (Pz.pv L (.li 12) (i+1)) 1:=Pz.pv_adv L (.li 12) (i+1) hj;go_wp2_with fail;have AD:Pz.Ok L (i+1) (Pz.pv L (.li 12) (i+1)) 1:=ADX;refine(Uw L 12 (i+1) (fun j a b=>C2.out j (by omega) b) sb p cap w402 E401.out.st).mono ?_;rintro e w404 ⟨d,rfl,hf⟩;have ADd:Hid (Pz.Ok L (i+1) (Pz.pv L (.li 12) (i+1)) 1):=AD;generalize Pz.pv L (.li 12) (i+1)=r0 at *;obtain⟨o,k⟩:=r0;obtain⟨tsE403,hE,hc,qV⟩:=E401.out.go hf (qj _ _ _ _ _) (by intro d hd;cases hd);have E403:=hid hE;have Td:=hid hc;have Ud:=hid qV;clear hf hE hc qV E401;dsimp only;obtain⟨qy,qx,qv,qm,qu,qt,qs,qr,qp⟩:=(E403.out.bx (w.heap.size,Pz.z0) (by simp)).1;dsimp only[Pz.z0,len] at qy qx qv qm qu qt qs qr qp;go_wp2;refine bodyPost_ret (v:=.tuple #[.agg #[.int .i64 d.a.op,.int .i64 d.a.num,.string d.a.name,.slice d.a.ptr (len d.k) d.a.cap],.bool o.isSome]) ?_ rfl ?_
     ·rw [results_cell_tmp rfl];go_simp
     ·rw [PV.out];exact⟨d,rfl,(E403.out).done4 d o Td.out rfl rfl rfl rfl⟩
    ·
     have hw3':Pz.isw L i Pz.wMin=false:=(by simpa using hw3);rw[if_neg hw3] at PV;refine(qM sb L p cap i _ _ E3001.out.st hw3').mono ?_;rintro e w4002 ⟨rfl,hb⟩;have E4001:=hid (E3001.out.below hb);clear hb E3001;go_wp2_with fail
     by_cases hw4:Pz.isw L i Pz.wMax=true
     ·
      have hj:=Pz.isw_lt hw4;rw[if_pos hw4] at PV;refine(qA sb L p cap i _ _ E4001.out.st hw4).mono ?_;rintro e w502 ⟨rfl,hs,hg⟩;have E501:=hid (E4001.out.grown hs (qj _ _ _ _ _) hg);clear hs hg E4001;have ADX:Pz.Ok L (i+1) (Pz.pv L (.li 13) (i+1)) 1:=Pz.pv_adv L (.li 13) (i+1) hj;go_wp2_with fail;have AD:Pz.Ok L (i+1) (Pz.pv L (.li 13) (i+1)) 1:=ADX;refine(Uw L 13 (i+1) (fun j a b=>C2.out j (by omega) b) sb p cap w502 E501.out.st).mono ?_;rintro e w504 ⟨d,rfl,hf⟩;have ADd:Hid (Pz.Ok L (i+1) (Pz.pv L (.li 13) (i+1)) 1):=AD;generalize Pz.pv L (.li 13) (i+1)=r0 at *;obtain⟨o,k⟩:=r0;obtain⟨tsE503,hE,hc,qV⟩:=E501.out.go hf (qj _ _ _ _ _) (by intro d hd;cases hd);have E503:=hid hE;have Td:=hid hc;have Ud:=hid qV;clear hf hE hc qV E501;dsimp only;obtain⟨qy,qx,qv,qm,qu,qt,qs,qr,qp⟩:=(E503.out.bx (w.heap.size,Pz.z0) (by simp)).1;dsimp only[Pz.z0,len] at qy qx qv qm qu qt qs qr qp;go_wp2;refine bodyPost_ret (v:=.tuple #[.agg #[.int .i64 d.a.op,.int .i64 d.a.num,.string d.a.name,.slice d.a.ptr (len d.k) d.a.cap],.bool o.isSome]) ?_ rfl ?_
      ·rw [results_cell_tmp rfl];go_simp
      ·rw [PV.out];exact⟨d,rfl,(E503.out).done4 d o Td.out rfl rfl rfl rfl⟩
     ·
      have hw4':Pz.isw L i Pz.wMax=false:=(by simpa using hw4);rw[if_neg hw4] at PV;refine(qM sb L p cap i _ _ E4001.out.st hw4').mono ?_;rintro e w5002 ⟨rfl,hb⟩;have E5001:=hid (E4001.out.below hb);clear hb E4001;go_wp2_with fail
      by_cases hw5:Pz.isw L i Pz.wIf=true
      ·
       have hj:=Pz.isw_lt hw5;rw[if_pos hw5] at PV;refine(qA sb L p cap i _ _ E5001.out.st hw5).mono ?_;rintro e w602 ⟨rfl,hs,hg⟩;have E601:=hid (E5001.out.grown hs (qj _ _ _ _ _) hg);clear hs hg E5001;have PV2:Hid (Pz.pv L .fc i=Pz.ch0 L (i+1)):=PV.out;clear PV;have PV:=PV2;clear PV2;go_wp2_with fail;refine(Ji L (i+1) (fun j a b=>C2.out j (by omega) b) sb p cap w602 E601.out.st).mono ?_;rintro e w9 ⟨d,rfl,hf⟩;generalize Pz.ch0 L (i+1)=r0 at *;obtain⟨o,k⟩:=r0;obtain⟨ts9,hE,hc,qV⟩:=E601.out.go hf (qj _ _ _ _ _) (by intro d hd;cases hd);have E9:=hid hE;have Td:=hid hc;clear hf hE hc qV E601;dsimp only;obtain⟨qy,qx,qv,qm,qu,qt,qs,qr,qp⟩:=(E9.out.bx (w.heap.size,Pz.z0) (by simp)).1;dsimp only[Pz.z0,len] at qy qx qv qm qu qt qs qr qp;go_wp2;refine bodyPost_ret (v:=.tuple #[.agg #[.int .i64 d.a.op,.int .i64 d.a.num,.string d.a.name,.slice d.a.ptr (len d.k) d.a.cap],.bool o.isSome]) ?_ rfl ?_
       ·rw [results_cell_tmp rfl];go_simp
       ·rw [PV.out];exact⟨d,rfl,(E9.out).done4 d o Td.out rfl rfl rfl rfl⟩
      ·
       have hw5':Pz.isw L i Pz.wIf=false:=(by simpa using hw5);rw[if_neg hw5] at PV;refine(qM sb L p cap i _ _ E5001.out.st hw5').mono ?_;rintro e w6002 ⟨rfl,hb⟩;have E6001:=hid (E5001.out.below hb);clear hb E5001;go_wp2_with fail
       by_cases hw6:Pz.isw L i Pz.wOpen=true
       ·
        have hj:=Pz.isw_lt hw6;rw[if_pos hw6] at PV;refine(qA sb L p cap i _ _ E6001.out.st hw6).mono ?_;rintro e w702 ⟨rfl,hs,hg⟩;have E701:=hid (E6001.out.grown hs (qj _ _ _ _ _) hg);clear hs hg E6001;go_wp2_with fail;have AD:Pz.Ok L (i+1) (Pz.pv L .ex (i+1)) 1:=Pz.pv_adv L .ex (i+1) hj;refine(C2.out (i+1) (by omega) hj sb p cap w702 E701.out.st).mono ?_;rintro e w704 ⟨c,rfl,hf⟩;have ADc:Hid (Pz.Ok L (i+1) (Pz.pv L .ex (i+1)) 1):=AD;generalize Pz.pv L .ex (i+1)=r0 at *;obtain⟨o,k⟩:=r0;obtain⟨tsE703,hE,hc,qV⟩:=E701.out.go hf (qj _ _ _ _ _) (by intro d hd;cases hd);have E703:=hid hE;have Tc:=hid hc;have Uc:=hid qV;clear hf hE hc qV E701;dsimp only;rw[Pz.bnd_goL] at PV;cases o with
        | none =>
          rw[Pz.goL_none] at PV;dsimp only[Option.isSome];go_upto_region 16 with (fail);have E705:=hid (E703.out.box c #[.int .i64 c.a.op,.int .i64 c.a.num,.string c.a.name,.slice c.a.ptr (len c.k) c.a.cap] rfl 24);generalize hg707:w704.heap.size=g707 at *;generalize w704.alloc (.cells #[.int .i64 c.a.op,.int .i64 c.a.num,.string c.a.name,.slice c.a.ptr (len c.k) c.a.cap] 24)=w706 at *;clear E703 hg707;obtain⟨qy,qx,qv,qm,qu,qt,qs,qr,qp⟩:=(E705.out.bx (g707,c) (by simp)).1;dsimp only at qy qx qv qm qu qt qs qr qp;obtain⟨qL,qK,qJ,qB,qI,qH,qG,qF,qE⟩:=(E705.out.bx (w.heap.size,Pz.z0) (by simp)).1;dsimp only[Pz.z0,len] at qL qK qJ qB qI qH qG qF qE;have nx0:g707≠w.heap.size:=(List.pairwise_cons.1 E705.out.nd).1 (w.heap.size,Pz.z0) (by simp);have nx1:=nx0.symm;have E9:=hid (((E705.out.tail).done4 c none (fun x hx=>by cases hx) rfl rfl rfl rfl))
          first|(go_region_with (fail))|fail
          all_goals
           go_wp2;refine bodyPost_ret (v:=.tuple #[.agg #[.int .i64 c.a.op,.int .i64 c.a.num,.string c.a.name,.slice c.a.ptr (len c.k) c.a.cap],.bool false]) ?_ rfl ?_
           ·rw [results_cell_tmp rfl];go_simp
           ·rw [PV.out]
            first|exact⟨c,rfl,Kh E9.out (qj _ _ _ _ _)⟩|exact⟨c,rfl,E9.out⟩
        | some x =>
          rw[Pz.goL_some] at PV;dsimp only[Option.isSome];go_upto_region 16 with (fail);have E705:=hid (E703.out.box c #[.int .i64 c.a.op,.int .i64 c.a.num,.string c.a.name,.slice c.a.ptr (len c.k) c.a.cap] rfl 24);generalize hg707:w704.heap.size=g707 at *;generalize w704.alloc (.cells #[.int .i64 c.a.op,.int .i64 c.a.num,.string c.a.name,.slice c.a.ptr (len c.k) c.a.cap] 24)=w706 at *;clear E703 hg707;have hkl:=ADc.out.2.1;dsimp only at hkl;have ED:=hid (E705.out.below ((Below.refl _ _).drew));obtain⟨qy,qx,qv,qm,qu,qt,qs,qr,qp⟩:=(E705.out.bx (g707,c) (by simp)).1;dsimp only at qy qx qv qm qu qt qs qr qp;obtain⟨qL,qK,qJ,qB,qI,qH,qG,qF,qE⟩:=(E705.out.bx (w.heap.size,Pz.z0) (by simp)).1;dsimp only[Pz.z0,len] at qL qK qJ qB qI qH qG qF qE
          by_cases hs:Pz.isw L k Pz.wShut=true
          ·
           rw[if_pos hs] at PV
           go_region_with (go_at_call 81;refine(qA sb L p cap k _ _ ED.out.st hs).mono ?_;rintro e w9 ⟨rfl,hp9,hg9⟩;have E9:=hid (ED.out.grown hp9 (qj _ _ _ _ _) hg9);obtain⟨d0,d1,d2,d3,-,-,-,-,-⟩:=(E9.out.bx (g707,c) (by simp)).1;obtain⟨m0,m1,m2,m3,e0,e1,e2,e3,el⟩:=(E9.out.bx (w.heap.size,Pz.z0) (by simp)).1;dsimp only[Pz.z0,len] at d0 d1 d2 d3 m0 m1 m2 m3 e0 e1 e2 e3 el)
           all_goals
            go_wp2;refine bodyPost_ret (v:=.tuple #[.agg #[.int .i64 c.a.op,.int .i64 c.a.num,.string c.a.name,.slice c.a.ptr (len c.k) c.a.cap],.bool true]) ?_ rfl ?_
            ·rw [results_cell_tmp rfl];go_simp
            ·rw [PV.out];exact⟨c,rfl,(E9.out.tail).done4 c (some x) (fun z hz=>by cases hz;exact⟨(Tc.out x rfl).1,(Tc.out x rfl).2⟩) rfl rfl rfl rfl⟩
          ·
           have hs':Pz.isw L k Pz.wShut=false:=(by simpa using hs);rw[if_neg hs] at PV
           go_region_with (go_at_call 81;refine(qM sb L p cap k _ _ ED.out.st hs').mono ?_;rintro e w9 ⟨rfl,hb9⟩;have E9:=hid (ED.out.below hb9);obtain⟨d0,d1,d2,d3,-,-,-,-,-⟩:=(E9.out.bx (g707,c) (by simp)).1;obtain⟨m0,m1,m2,m3,e0,e1,e2,e3,el⟩:=(E9.out.bx (w.heap.size,Pz.z0) (by simp)).1;dsimp only[Pz.z0,len] at d0 d1 d2 d3 m0 m1 m2 m3 e0 e1 e2 e3 el)
           all_goals
            go_wp2;refine bodyPost_ret (v:=.tuple #[.agg #[.int .i64 c.a.op,.int .i64 c.a.num,.string c.a.name,.slice c.a.ptr (len c.k) c.a.cap],.bool false]) ?_ rfl ?_
            ·rw [results_cell_tmp rfl];go_simp
            ·rw [PV.out];exact⟨c,rfl,(E9.out.tail).done4 c none (fun z hz=>by cases hz) rfl rfl rfl rfl⟩
       ·
        have hw6':Pz.isw L i Pz.wOpen=false:=(by simpa using hw6);rw[if_neg hw6] at PV;refine(qM sb L p cap i _ _ E6001.out.st hw6').mono ?_;rintro e w7002 ⟨rfl,hb⟩;have E7001:=hid (E6001.out.below hb);clear hb E6001;go_wp2_with fail;have ADX:Pz.Ok L i (Pz.leaf L i) 1:=Pz.leaf_ok hle;have AD:=ADX;refine(Ug L i HV.out sb p cap w7002 E7001.out.st).mono ?_;rintro e w9 ⟨d,rfl,hf⟩;generalize Pz.leaf L i=r0 at *;obtain⟨o,k⟩:=r0;obtain⟨ts9,hE,hc,qV⟩:=E7001.out.go hf (qj _ _ _ _ _) (by intro d hd;cases hd);have E9:=hid hE;have Td:=hid hc;clear hf hE hc qV E7001;dsimp only;obtain⟨qy,qx,qv,qm,qu,qt,qs,qr,qp⟩:=(E9.out.bx (w.heap.size,Pz.z0) (by simp)).1;dsimp only[Pz.z0,len] at qy qx qv qm qu qt qs qr qp;go_wp2;refine bodyPost_ret (v:=.tuple #[.agg #[.int .i64 d.a.op,.int .i64 d.a.num,.string d.a.name,.slice d.a.ptr (len d.k) d.a.cap],.bool o.isSome]) ?_ rfl ?_
        ·rw [results_cell_tmp rfl];go_simp
        ·rw [PV.out];exact⟨d,rfl,(E9.out).done4 d o Td.out rfl rfl rfl rfl⟩
structure PAll (L:List Tk.T4) (i:Nat):Prop where
 ex:PC 35 L .ex i
 dj:PC 80 L .dj i
 cj:PC 126 L .cj i
 ng:PC 154 L .ng i
 cm:PC 174 L .cm i
 sm:PC 190 L .sm i
 tm:PC 200 L .tm i
 fc:PC 204 L .fc i
theorem Qu(L:List Tk.T4)(hV:∀t∈ L,VT t.t):∀n i,i≤L.length→L.length - i < n→PAll L i:=by
 intro n
 induction n with
 | zero=>intro i _ h;omega
 | succ n ih =>
   intro i hi hn;have IH:∀j,i < j→j≤L.length→PAll L j:=fun j a b=>ih j b (by omega);have hfc:=Vt L i hV (fun j a b=>(IH j a b).fc) (fun j a b=>(IH j a b).ex);have htm:=tm_of L i hfc (fun j a b=>(IH j a b).fc);have hsm:=sm_of L i htm (fun j a b=>(IH j a b).tm);have hcm:=cm_of L i hsm (fun j a b=>(IH j a b).sm) (fun j a b=>Vu L j (fun k c d=>(IH k (by omega) d).sm));have hng:=ng_of L i hcm (fun j a b=>(IH j a b).ng);have hcj:=cj_of L i hng (fun j a b=>(IH j a b).ng);have hdj:=dj_of L i hcj (fun j a b=>(IH j a b).cj);exact⟨ex_of L i hdj (fun j a b=>(IH j a b).ex),hdj,hcj,hng,hcm,hsm,htm,hfc⟩
theorem xE(L:List Tk.T4)(hV:∀t∈ L,VT t.t)(i:Nat)(hi:i≤L.length):PC 35 L .ex i:=(Qu L hV _ i hi (Nat.lt_succ_self _)).ex
namespace Pz
theorem scan_len(s:ByteArray):∀(n i:Nat)(D:List Tk.T4),D.length≤400→(Tk.scan s n i D).1.length≤400:=by
 intro n
 induction n with
 | zero=>intro i D h;exact h
 | succ n ih =>
   intro i D h;rw[Tk.scan]
   by_cases h1:s.size≤i
   ·rw[if_pos h1];exact h
   ·rw [if_neg h1]
    split
    ·exact h
    ·split
     ·exact ih _ _ h
     ·split
      ·simp
      ·rename_i t m hq
       split
       ·simp
       ·rename_i q
        exact ih _ _ (by rw[List.length_append];show D.length+1≤400;omega)
theorem scanT_len(s:ByteArray):(Tk.scanT s).1.length≤400:=scan_len s _ _ _ (by simp)
def atOf(L:List Tk.T4)(s:ByteArray)(j:Nat):Int:=match L[j]? with|some t=>t.at'|none=>s.size
def pxT(s:ByteArray):Ch× Int× Int :=
 if (Tk.scanT s).2.2≠0 then (z0,(Tk.scanT s).2.1,(Tk.scanT s).2.2) else match pv (Tk.scanT s).1 .ex 0 with
  | (some x,j)=>if j < (Tk.scanT s).1.length then (z0,atOf (Tk.scanT s).1 s j,1) else if qQ x.a x.k=0 then (x,0,0) else (z0,0,qQ x.a x.k)
  | (none,j)=>(z0,atOf (Tk.scanT s).1 s j,1)
theorem nr_z0:nr z0=z0:=rfl
theorem exat_z0(W:World):ExAt W z0.b z0.o z0.a z0.k:=⟨fun h=>absurd rfl h,trivial⟩
end Pz
theorem ys{fn:Func}{p u v:Tmp}{ty:TypeId}(h:fn.results=#[.cell p ty,.tmp u,.tmp v])(tmps:Array Value)(P:Program)(w:World) :
 (results fn tmps).run P w =
   ((asAddr (tmps.getD p undef)).run P w).andThen fun a w₁=>((loadVar ty a).run P w₁).andThen fun x w₂=>.ok (.tuple #[x,tmps.getD u undef,tmps.getD v undef]) w₂:=by
 simp only[results,h];simp[Sem.run_bind,Result.andThen]
def Vb(s:ByteArray)(w:World)(e:Ending)(w':World):Prop:=∃c:Ch,e=.returned (.tuple #[.agg #[.int .i64 c.a.op,.int .i64 c.a.num,.string c.a.name,.slice c.a.ptr (len c.k) c.a.cap],.int .i64 (Pz.pxT s).2.1,.int .i64 (Pz.pxT s).2.2])∧Pz.nr c=(Pz.pxT s).1∧ExAt w' c.b c.o c.a c.k∧Below w.heap.size w w'
theorem UE{w:World}{L:List Tk.T4}{p:Option Addr}{n cap:Nat}(h:TkAt w L (.slice p n cap))(h4:L.length≤400){s:Nat}(hs:w.heap.size≤s):n=L.length∧TkB w L p s:=by
 obtain⟨p',cap',e,h1,h2,h3⟩:=h;injection e with e1 e2 e3
 subst e1 e2;refine⟨rfl,h4,fun q=>?_⟩;obtain⟨g,O,e,hc⟩:=h3 q;refine⟨g,O,e,?_,hc⟩;cases L with
 | nil=>exact absurd rfl q
 | cons t L =>
   have:=hc 0 _ rfl;exact Nat.lt_of_lt_of_le (block_lt_of_cell this) hs
theorem Jw{w0 w1:World}{L:List Tk.T4}{p:Option Addr}{r s:Nat}(hV:∀t∈ L,VT t.t)(ht:TkB w1 L p s)(t:TypeId)(hw:w0.heap[r]?=some (.cells #[.int .i64 0,.int .i64 0,.string ⟨#[]⟩,.slice none 0 0] t (0,0)))(hb:Below w0.heap.size w0 w1){i:Nat}{x:Tk.T4}(hi:L[i]?=some x){g O:Nat}(hp:p=some ⟨g,O,none⟩):g≠r:=by
 rintro rfl;obtain⟨g',O',e,-,c0,-⟩:=ht.get hi;rw[hp] at e;obtain⟨rfl,rfl⟩:g=g'∧O=O':=by injection e with e;injection e with a b;exact⟨a,b⟩
 have hr:g < w0.heap.size:=(Array.getElem?_eq_some_iff.1 hw).1;have h1:w1.heap[g]?=some (.cells #[.int .i64 0,.int .i64 0,.string ⟨#[]⟩,.slice none 0 0] t (0,0)):=by rw[hb.block g hr];exact hw
 have hk:x.t.kind≠0:=by
  rcases QV (hV x (List.mem_of_getElem? hi)) with ⟨h,-⟩|⟨h,-⟩|⟨h,-⟩|⟨h,-⟩|⟨h,-⟩<;>omega
 have h2:w1.cell? ⟨g,O+i * 4,none⟩=(#[Value.int .i64 0,.int .i64 0,.string ⟨#[]⟩,.slice none 0 0]:Array Value)[O+i * 4]?:=by simp[World.cell?,h1]
 rw[h2] at c0;generalize O+i * 4=m at c0
 match m with
 | 0=>simp at c0;exact hk c0.symm
 | 1=>simp at c0;exact hk c0.symm
 | 2=>simp at c0
 | 3=>simp at c0
 | m+4=>simp at c0
theorem Qq(s:ByteArray)(w:World)(hs:s.size≤9223372036854775807):Calls Tryz.prog 14 #[.string s] w (Vb s w):=by
 go_enter Tryz.func14,Tryz.ntmps14;go_wp2_with fail;have B0:Hid (Below w.heap.size w (w.alloc (.cells #[.int .i64 0,.int .i64 0,.string ⟨#[]⟩,.slice none 0 0] 24))):=ba1;have R0:Hid (Pz.B4 (w.alloc (.cells #[.int .i64 0,.int .i64 0,.string ⟨#[]⟩,.slice none 0 0] 24)) w.heap.size Pz.z0):=Pz.b4_alloc w Pz.z0 _ rfl _;have Q0:Hid ((w.alloc (.cells #[.int .i64 0,.int .i64 0,.string ⟨#[]⟩,.slice none 0 0] 24)).heap[w.heap.size]?=some (.cells #[.int .i64 0,.int .i64 0,.string ⟨#[]⟩,.slice none 0 0] 24 (0,0))):=heap_alloc_new w _;generalize w.alloc (.cells #[.int .i64 0,.int .i64 0,.string ⟨#[]⟩,.slice none 0 0] 24)=w0 at *;refine(kg s w0 hs).mono ?_;rintro e w1 ⟨v,rfl,ht,hb⟩;have PX:Hid (Pz.pxT s=Pz.pxT s):=rfl
 have PX2:Hid (Pz.pxT s=if (Tk.scanT s).2.2≠0 then (Pz.z0,(Tk.scanT s).2.1,(Tk.scanT s).2.2) else match Pz.pv (Tk.scanT s).1 .ex 0 with
  | (some x,j)=>if j < (Tk.scanT s).1.length then (Pz.z0,Pz.atOf (Tk.scanT s).1 s j,1) else if qQ x.a x.k=0 then (x,0,0) else (Pz.z0,0,qQ x.a x.k)
  | (none,j)=>(Pz.z0,Pz.atOf (Tk.scanT s).1 s j,1)):=rfl
 have HV:=hid (jV s);have HL:=hid (Pz.scanT_len s);clear PX;generalize Tk.scanT s=r at *;obtain⟨L,at0,er⟩:=r;dsimp only at ht PX2 HV HL;obtain⟨p,cap,rfl,-,-,-⟩:=(show ∃p cap,v=.slice p L.length cap∧True∧True∧True from by obtain⟨p,cap,h,-⟩:=ht;exact⟨p,cap,h,trivial,trivial,trivial⟩);have TB:=hid (UE ht HL.out (Nat.le_refl _)).2;have B1:=hid (bt9 B0 hb);have R1:=hid (R0.out.next hb);have APT:Hid (∀i x g O,L[i]?=some x→p=some ⟨g,O,none⟩→g≠w.heap.size):=fun i x g O hi hp=>Jw HV.out TB.out _ Q0.out hb hi hp;clear ht hb R0 Q0 B0;have hL4:L.length≤400:=HL.out;dsimp only
 by_cases her:er=0
 ·subst her
  have PX3:Hid (Pz.pxT s=match Pz.pv L .ex 0 with
   | (some x,j)=>if j < L.length then (Pz.z0,Pz.atOf L s j,1) else if qQ x.a x.k=0 then (x,0,0) else (Pz.z0,0,qQ x.a x.k)
   | (none,j)=>(Pz.z0,Pz.atOf L s j,1)):=by unfold Hid;rw[PX2.out,if_neg (by simp)]
  clear PX2;go_wp2_with fail
  have S2:Hid (PSt (w1.alloc (.cells #[.slice p L.length cap,.int .i64 0] 64)) w1.heap.size L p cap 0) :=
   ⟨by simp[go_sem],by simp[go_sem],by simp[go_sem],by simp,TB.out.below ba1 (Nat.le_refl _),Nat.zero_le _⟩
  have B2:Hid (Below w.heap.size w (w1.alloc (.cells #[.slice p L.length cap,.int .i64 0] 64))):=B1.out.alloc B1.out.size _;have R2:=hid (R1.out.next ((Below.refl w1.heap.size w1).alloc (Nat.le_refl _) (.cells #[.slice p L.length cap,.int .i64 0] 64)));have hz2:(w1.alloc (.cells #[.slice p L.length cap,.int .i64 0] 64)).heap.size=w1.heap.size+1:=World.size_alloc _ _;generalize w1.alloc (.cells #[.slice p L.length cap,.int .i64 0] 64)=w2 at *;obtain⟨sb,hsb⟩:∃sb,w1.heap.size=sb:=⟨_,rfl⟩;have hrl:w.heap.size < w1.heap.size:=R1.out.lt;have hsw:w.heap.size≤w1.heap.size:=B1.out.size;rw[hsb] at S2 hz2 hrl hsw;rw[hsb];clear hsb B1 R1 TB;refine(xE L HV.out 0 (Nat.zero_le _) sb p cap w2 S2.out).mono ?_;rintro e w3 ⟨c,rfl,hf⟩;have GX:Hid (∀x j,Pz.pv L .ex 0=(some x,j)→Pz.Gd x):=fun x j h=>Pz.ex_good HV.out HL.out h;generalize Pz.pv L .ex 0=r0 at *;obtain⟨o,j⟩:=r0;have S3:=hid hf.2.1;have F3:=hid hf.1;have G3:=hid hf.2.2;have R3:=hid (R2.out.grown hf.2.2 (by simp;omega));have B3:Hid (Below w.heap.size w w3):=B2.out.trans (Pz.below_of_gb G3.out hsw (by omega));clear hf B2 R2 S2;have hjl:=S3.out.le;dsimp only at hjl;have nsr:sb≠w.heap.size:=(by omega);have nrs:w.heap.size≠sb:=(by omega);have hj0:(0:Int)≤(j:Int):=(by omega);obtain⟨r0,r1,r2,r3,f0,f1,f2,f3,rl⟩:=R3.out;dsimp only[Pz.z0,len] at r0 r1 r2 r3 f0 f1 f2 f3 rl;have G4:Hid (w3.grownBy (((((w3.setCell ⟨w.heap.size,0,none⟩ (.int .i64 c.a.op)).setCell ⟨w.heap.size,1,none⟩ (.int .i64 c.a.num)).setCell ⟨w.heap.size,2,none⟩ (.string c.a.name)).setCell ⟨w.heap.size,3,none⟩ (.slice c.a.ptr (len c.k) c.a.cap))) (some w.heap.size)):=Pz.gb_four _ _ _ _ _ _;have R4:Hid (Pz.B4 (((((w3.setCell ⟨w.heap.size,0,none⟩ (.int .i64 c.a.op)).setCell ⟨w.heap.size,1,none⟩ (.int .i64 c.a.num)).setCell ⟨w.heap.size,2,none⟩ (.string c.a.name)).setCell ⟨w.heap.size,3,none⟩ (.slice c.a.ptr (len c.k) c.a.cap))) w.heap.size c):=Pz.b4_four R3.out.fr c;have B4:Hid (Below w.heap.size w (((((w3.setCell ⟨w.heap.size,0,none⟩ (.int .i64 c.a.op)).setCell ⟨w.heap.size,1,none⟩ (.int .i64 c.a.num)).setCell ⟨w.heap.size,2,none⟩ (.string c.a.name)).setCell ⟨w.heap.size,3,none⟩ (.slice c.a.ptr (len c.k) c.a.cap)))):=B3.out.trans (Pz.below_of_gb G4.out (Nat.le_refl _) R3.out.lt);dsimp only;go_upto_region 6 with (fail);generalize ((((w3.setCell ⟨w.heap.size,0,none⟩ (.int .i64 c.a.op)).setCell ⟨w.heap.size,1,none⟩ (.int .i64 c.a.num)).setCell ⟨w.heap.size,2,none⟩ (.string c.a.name)).setCell ⟨w.heap.size,3,none⟩ (.slice c.a.ptr (len c.k) c.a.cap))=w4 at *;have nso:some sb≠some w.heap.size:=(by simp;omega);have c1:w4.cell? ⟨sb,1,none⟩=some (.int .i64 j):=G4.out.cell S3.out.c1 nso;have sl:sb < w4.heap.size:=Nat.lt_of_lt_of_le S3.out.lt G4.out.size;clear r0 r1 r2 r3 f0 f1 f2 f3 rl nso;obtain⟨r0,r1,r2,r3,f0,f1,f2,f3,rl⟩:=R4.out;have FAIL:Hid (∀(x0 x1 x2 x3:Value),Below w.heap.size w ((((w4.setCell ⟨w.heap.size,0,none⟩ x0).setCell ⟨w.heap.size,1,none⟩ x1).setCell ⟨w.heap.size,2,none⟩ x2).setCell ⟨w.heap.size,3,none⟩ x3)):=fun x0 x1 x2 x3=>B4.out.trans (Pz.below_of_gb (Pz.gb_four w4 w.heap.size x0 x1 x2 x3) (Nat.le_refl _) R4.out.lt)
  by_cases hj:j < L.length
  ·have hj2:(j:Int) < (L.length:Int):=by omega
   obtain⟨t,hti⟩:∃t,L[j]?=some t:=⟨_,List.getElem?_eq_getElem hj⟩;obtain⟨g,O,hp,hg,-,-,-,e3⟩:=S3.out.ls.get hti;have ngr:g≠w.heap.size:=APT.out j t g O hti hp;have d3:w4.cell? ⟨g,O+j * 4+3,none⟩=some (.int .i64 t.at'):=G4.out.cell e3 (by simp;exact ngr);obtain rfl:=hp;clear e3;have AT:Hid (Pz.atOf L s j=t.at'):=(by unfold Hid Pz.atOf;rw[hti]);clear hti
   have PE:Hid (Pz.pxT s=(Pz.z0,t.at',1)):=by
    unfold Hid;rw[PX3.out];cases o with
    | none=>dsimp only;rw[AT.out]
    | some x=>dsimp only;rw[if_pos hj,AT.out]
   cases o with
   | none =>
     dsimp only[Option.isSome];go_wp2;refine bodyPost_ret (v:=.tuple #[.agg #[.int .i64 0,.int .i64 0,.string ⟨#[]⟩,.slice none 0 0],.int .i64 t.at',.int .i64 1]) ?_ rfl ?_
     ·rw [ys rfl];go_simp
     ·unfold Vb;rw[PE.out];refine⟨Pz.z0,rfl,Pz.nr_z0,Pz.exat_z0 _,?_⟩;exact FAIL.out _ _ _ _
   | some x =>
     dsimp only[Option.isSome];go_wp2;refine bodyPost_ret (v:=.tuple #[.agg #[.int .i64 0,.int .i64 0,.string ⟨#[]⟩,.slice none 0 0],.int .i64 t.at',.int .i64 1]) ?_ rfl ?_
     ·rw [ys rfl];go_simp
     ·unfold Vb;rw[PE.out];refine⟨Pz.z0,rfl,Pz.nr_z0,Pz.exat_z0 _,?_⟩;exact FAIL.out _ _ _ _
  ·have hj2:¬(j:Int) < (L.length:Int):=by omega
   have AT:Hid (Pz.atOf L s j=s.size):=(by unfold Hid Pz.atOf;rw[List.getElem?_eq_none (by omega)]);cases o with
   | none =>
     have PE:Hid (Pz.pxT s=(Pz.z0,(s.size:Int),1)):=(by unfold Hid;rw[PX3.out];dsimp only;rw[AT.out]);dsimp only[Option.isSome];go_wp2;refine bodyPost_ret (v:=.tuple #[.agg #[.int .i64 0,.int .i64 0,.string ⟨#[]⟩,.slice none 0 0],.int .i64 s.size,.int .i64 1]) ?_ rfl ?_
     ·rw [ys rfl];go_simp
     ·unfold Vb;rw[PE.out];refine⟨Pz.z0,rfl,Pz.nr_z0,Pz.exat_z0 _,?_⟩;exact FAIL.out _ _ _ _
   | some x =>
     obtain⟨hx1,hx2,hx3,hx4⟩:=F3.out x rfl;have hgd:Pz.Gd c:=(GX.out x j rfl).of_nr hx1;have hval:qQ c.a c.k=qQ x.a x.k:=(by rw[← hx1,Pz.val_nr]);have X4:Hid (ExAt w4 c.b c.o c.a c.k):=⟨hx2.1,Pz.fat_grown hx2.2 (hx4 w.heap.size (by omega) (fun d hd=>by cases hd)) G4.out⟩;have HX:=hid (And.intro hx1 hgd);have HN:=hid (hx4 w.heap.size (by omega) (fun d hd=>by cases hd));have VL:=hid hval;have PE:Hid (Pz.pxT s=if qQ x.a x.k=0 then (x,0,0) else (Pz.z0,0,qQ x.a x.k)):=(by unfold Hid;rw[PX3.out];dsimp only;rw[if_neg hj]);clear hx1 hx2 hx3 hx4 hgd hval;dsimp only[Option.isSome];go_wp2_with fail;clear c1 sl r0 r1 r2 r3 f0 f1 f2 f3 rl FAIL G4 R3 S3 F3 G3;refine(js c.b c.o c.a.op c.a.num c.a.name c.a.ptr c.a.cap c.k w4 X4.out HX.out.2.ok).mono ?_;rintro e w5 ⟨rfl,hb⟩;rw[show qQ ⟨c.a.op,c.a.num,c.a.name,c.a.ptr,c.a.cap⟩ c.k=qQ x.a x.k from VL.out];have X5:=hid (X4.out.next hb);have R5:=hid (R4.out.next hb);have B5:=hid (bt9 B4 hb);clear hb X4 R4 B4;obtain⟨r0,r1,r2,r3,f0,f1,f2,f3,rl⟩:=R5.out;have B6:Hid (∀(x0 x1 x2 x3:Value),Below w.heap.size w ((((w5.setCell ⟨w.heap.size,0,none⟩ x0).setCell ⟨w.heap.size,1,none⟩ x1).setCell ⟨w.heap.size,2,none⟩ x2).setCell ⟨w.heap.size,3,none⟩ x3)):=fun x0 x1 x2 x3=>B5.out.trans (Pz.below_of_gb (Pz.gb_four w5 w.heap.size x0 x1 x2 x3) (Nat.le_refl _) R5.out.lt);have X6:Hid (ExAt ((((w5.setCell ⟨w.heap.size,0,none⟩ (.int .i64 c.a.op)).setCell ⟨w.heap.size,1,none⟩ (.int .i64 c.a.num)).setCell ⟨w.heap.size,2,none⟩ (.string c.a.name)).setCell ⟨w.heap.size,3,none⟩ (.slice c.a.ptr (len c.k) c.a.cap)) c.b c.o c.a c.k):=⟨X5.out.1,Pz.fat_grown X5.out.2 HN.out (Pz.gb_four _ _ _ _ _ _)⟩;generalize qQ x.a x.k=ve at *
     by_cases h0:ve=0
     ·subst h0;rw[if_pos rfl] at PE;go_wp2;refine bodyPost_ret (v:=.tuple #[.agg #[.int .i64 c.a.op,.int .i64 c.a.num,.string c.a.name,.slice c.a.ptr (len c.k) c.a.cap],.int .i64 0,.int .i64 0]) ?_ rfl ?_
      ·rw [ys rfl];go_simp
      ·unfold Vb;rw[PE.out];exact⟨c,rfl,HX.out.1,X6.out,B6.out _ _ _ _⟩
     ·have hv:(ve==0)=false:=by simpa using h0
      have hv2:(ve != 0)=true:=(by simpa using h0);rw[if_neg h0] at PE;clear h0;go_wp2;refine bodyPost_ret (v:=.tuple #[.agg #[.int .i64 0,.int .i64 0,.string ⟨#[]⟩,.slice none 0 0],.int .i64 0,.int .i64 ve]) ?_ rfl ?_
      ·rw [ys rfl];go_simp
      ·unfold Vb;rw[PE.out];exact⟨Pz.z0,rfl,Pz.nr_z0,Pz.exat_z0 _,B6.out _ _ _ _⟩
 ·have hv:(er==0)=false:=by simpa using her
  have hv2:(er != 0)=true:=(by simpa using her);have PE:Hid (Pz.pxT s=(Pz.z0,at0,er)):=(by unfold Hid;rw[PX2.out,if_pos her]);clear her PX2;obtain⟨r0,r1,r2,r3,f0,f1,f2,f3,rl⟩:=R1.out;dsimp only[Pz.z0,len] at r0 r1 r2 r3 f0 f1 f2 f3 rl;go_wp2;refine bodyPost_ret (v:=.tuple #[.agg #[.int .i64 0,.int .i64 0,.string ⟨#[]⟩,.slice none 0 0],.int .i64 at0,.int .i64 er]) ?_ rfl ?_
  ·rw [ys rfl];go_simp
  ·unfold Vb;rw[PE.out];exact⟨Pz.z0,rfl,Pz.nr_z0,Pz.exat_z0 _,B1.out.trans (Pz.below_of_gb (Pz.gb_four w1 w.heap.size _ _ _ _) (Nat.le_refl _) R1.out.lt)⟩
end Go.Proofs.YtcejjdmnlejbaaaGreatDoor
