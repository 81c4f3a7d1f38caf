import Derived.Deep.LoopGhost
import Derived.Test.YtcejjdmnlejbaaaGreatDoorVGc
namespace Go.Proofs.YtcejjdmnlejbaaaGreatDoor
open Lib(hid)
set_option linter.unusedVariables false
set_option linter.unusedSimpArgs false
open Go.ChangeShapes Go.WideShapes Go.ChangeAt Go.RowKit
open Go.Deep (BT)
set_option maxHeartbeats 600000
set_option maxRecDepth 100000
structure RSt (w:World) (sb:Nat) (L:List Tk.T4) (p:Option Addr) (cap:Nat) (a b:Int):Prop where
 c0:w.cell? ⟨sb,0,none⟩=some (.slice p L.length cap)
 c1:w.cell? ⟨sb,1,none⟩=some (.int .i64 a)
 c2:w.cell? ⟨sb,2,none⟩=some (.int .i64 b)
 f1:w.frozen? ⟨sb,1,none⟩=false
 f2:w.frozen? ⟨sb,2,none⟩=false
 lt:sb < w.heap.size
 ls:TkB w L p sb
theorem RSt.below{w w':World}{sb:Nat}{L:List Tk.T4}{p:Option Addr}{cap B0:Nat}{a b:Int}(h:RSt w sb L p cap a b)(hb:Below B0 w w')(hs:sb < B0):RSt w' sb L p cap a b where
 c0:=by rw[hb.cell (p:=⟨sb,0,none⟩) hs];exact h.c0
 c1:=by rw[hb.cell (p:=⟨sb,1,none⟩) hs];exact h.c1
 c2:=by rw[hb.cell (p:=⟨sb,2,none⟩) hs];exact h.c2
 f1:=by rw[hb.frozen (p:=⟨sb,1,none⟩) hs];exact h.f1
 f2:=by rw[hb.frozen (p:=⟨sb,2,none⟩) hs];exact h.f2
 lt:=Nat.lt_of_lt_of_le h.lt hb.size
 ls:=h.ls.below hb (Nat.le_of_lt hs)
theorem RSt.next{w w':World}{sb:Nat}{L:List Tk.T4}{p:Option Addr}{cap:Nat}{a b:Int}(h:RSt w sb L p cap a b)(hb:Below w.heap.size w w'):RSt w' sb L p cap a b:=h.below hb h.lt
theorem RSt.setA{w:World}{sb:Nat}{L:List Tk.T4}{p:Option Addr}{cap:Nat}{a b:Int}(h:RSt w sb L p cap a b)(x:Int):RSt (w.setCell ⟨sb,1,none⟩ (.int .i64 x)) sb L p cap x b∧w.grownBy (w.setCell ⟨sb,1,none⟩ (.int .i64 x)) (some sb):=by
 obtain⟨h0,h1,h2,hf1,hf2,hl,hs⟩:=h;refine⟨⟨by simp[go_sem,h0,h1],by simp[go_sem,h1],by simp[go_sem,h1,h2],by simp[go_sem,hf1],by simp[go_sem,hf2],by simp[World.setCell];exact hl,hs.below ((Below.refl _ _).setCell (Nat.le_refl _) _) (Nat.le_refl _)⟩,?_⟩;exact⟨rfl,rfl,rfl,by simp[World.setCell],fun k hk hr=>Below.heap_setCell _ _ _ _ (fun e=>hr (by rw[e]))⟩
theorem RSt.setB{w:World}{sb:Nat}{L:List Tk.T4}{p:Option Addr}{cap:Nat}{a b:Int}(h:RSt w sb L p cap a b)(x:Int):RSt (w.setCell ⟨sb,2,none⟩ (.int .i64 x)) sb L p cap a x∧w.grownBy (w.setCell ⟨sb,2,none⟩ (.int .i64 x)) (some sb):=by
 obtain⟨h0,h1,h2,hf1,hf2,hl,hs⟩:=h;refine⟨⟨by simp[go_sem,h0,h2],by simp[go_sem,h1,h2],by simp[go_sem,h2],by simp[go_sem,hf1],by simp[go_sem,hf2],by simp[World.setCell];exact hl,hs.below ((Below.refl _ _).setCell (Nat.le_refl _) _) (Nat.le_refl _)⟩,?_⟩;exact⟨rfl,rfl,rfl,by simp[World.setCell],fun k hk hr=>Below.heap_setCell _ _ _ _ (fun e=>hr (by rw[e]))⟩
def jZ(sb:Nat)(L:List Tk.T4)(p:Option Addr)(cap i:Nat)(w:World):Prop:=RSt w sb L p cap i (-1)∧i≤L.length
def Yk(sb:Nat)(L:List Tk.T4)(p:Option Addr)(cap j:Nat)(w:World):Prop:=∃a:Int,RSt w sb L p cap a j
def ks(sb:Nat)(L:List Tk.T4)(p:Option Addr)(cap:Nat)(o:Option Ch)(j:Nat):World→Prop:=match o with
 | some _=>jZ sb L p cap j
 | none=>Yk sb L p cap j
theorem qZ(sb:Nat)(L:List Tk.T4)(p:Option Addr)(cap i:Nat):∀W W':World,jZ sb L p cap i W→Below (sb+1) W W'→jZ sb L p cap i W':=fun W W' h hb=>⟨h.1.below hb (Nat.lt_succ_self _),h.2⟩
theorem zS(sb:Nat)(L:List Tk.T4)(p:Option Addr)(cap i:Nat):∀W W':World,Yk sb L p cap i W→Below (sb+1) W W'→Yk sb L p cap i W':=fun W W' h hb=>by
 obtain⟨a,h⟩:=h;exact⟨a,h.below hb (Nat.lt_succ_self _)⟩
theorem qJ(sb:Nat)(L:List Tk.T4)(p:Option Addr)(cap:Nat)(o:Option Ch)(j:Nat):∀W W':World,ks sb L p cap o j W→Below (sb+1) W W'→ks sb L p cap o j W':=by
 cases o with
 | none=>exact zS sb L p cap j
 | some x=>exact qZ sb L p cap j
theorem j8(sb:Nat)(L:List Tk.T4)(p:Option Addr)(cap i:Nat)(s:ByteArray)(w:World)(h:jZ sb L p cap i w) :
 Calls Tryz.prog 179 #[.pointer (some ⟨sb,0,none⟩),.string s] w fun e w'=>e=.returned (.bool (Pz.isw L i s))∧Below w.heap.size w w':=by
 have H:=hid h.1;have hle:=h.2;have c0:=h.1.c0;have c1:=h.1.c1;have c2:=h.1.c2;have qN:=h.1.lt;have hL:L.length≤400:=h.1.ls.1;clear h;have hb0:¬(0:Int)≤ -1:=by omega
 by_cases hi:i < L.length
 ·have hi':¬(L.length:Int)≤(i:Int):=by omega
  have hi2:(i:Int) < (L.length:Int):=(by omega);have hi3:(0:Int)≤(i:Int):=(by omega);obtain⟨t,ht⟩:∃t,L[i]?=some t:=⟨_,List.getElem?_eq_getElem hi⟩;obtain⟨g,O,rfl,hg,d0,d1,d2,d3⟩:=H.out.ls.get ht;have HI:=hid (Q5 (s:=s) ht);clear ht;go_enter Tryz.func179,Tryz.ntmps179;go_wp2_with fail
  go_quiet (fail)
  go_wp2_with fail;have B1:Hid (Below w.heap.size w (w.drewN nq)):=below_drewN (Below.refl _ _) _;have z1:w.heap.size≤(w.drewN nq).heap.size:=B1.out.size;have c0:(w.drewN nq).cell? ⟨sb,0,none⟩=some (.slice (some ⟨g,O,none⟩) L.length cap):=c0;have c1:(w.drewN nq).cell? ⟨sb,1,none⟩=some (.int .i64 i):=c1;have d0:(w.drewN nq).cell? ⟨g,O+i * 4,none⟩=some (.int .i64 t.t.kind):=d0;have d1:(w.drewN nq).cell? ⟨g,O+i * 4+1,none⟩=some (.string t.t.text):=d1;have d2:(w.drewN nq).cell? ⟨g,O+i * 4+2,none⟩=some (.int .i64 t.t.num):=d2;have d3:(w.drewN nq).cell? ⟨g,O+i * 4+3,none⟩=some (.int .i64 t.at'):=d3;generalize w.drewN nq=w1 at *;have n0:=World.new_ne w1 ⟨sb,0,none⟩ c0;have n1:=World.new_ne w1 ⟨sb,1,none⟩ c1;have m0:=World.new_ne w1 ⟨g,O+i * 4,none⟩ d0
  go_region_held3 (fun w'=>w'.cell? ⟨sb,0,none⟩=some (.slice (some ⟨g,O,none⟩) L.length cap)∧w'.cell? ⟨sb,1,none⟩=some (.int .i64 i)∧w'.cell? ⟨g,O+i * 4,none⟩=some (.int .i64 t.t.kind)∧w'.cell? ⟨g,O+i * 4+1,none⟩=some (.string t.t.text)∧w'.cell? ⟨g,O+i * 4+2,none⟩=some (.int .i64 t.t.num)∧w'.cell? ⟨g,O+i * 4+3,none⟩=some (.int .i64 t.at')) (go_keep) (fail)
  clear c0 c1 d0 d1 d2 d3;go_wp2
  all_goals
   go_ret;refine⟨qr ?_,(B1.out.drew).alloc z1 _⟩;rw[HI.out]
   first|(simp[*,Lib.toList_data];done)|(simp[*,Lib.toList_data];rw[Bool.eq_iff_iff];simp;done)|(simp[*,Lib.toList_data];rw[Bool.eq_iff_iff,beq_iff_eq,decide_eq_true_eq])
 ·have hi':(L.length:Int)≤(i:Int):=by omega
  go_enter Tryz.func179,Tryz.ntmps179;go_wp2_with fail
  go_quiet (fail)
  go_wp2;go_ret;exact⟨qr (xW (by omega)).symm,below_drewN (Below.refl _ _) _⟩
theorem Jj(sb:Nat)(L:List Tk.T4)(p:Option Addr)(cap j:Nat)(s:ByteArray)(w:World)(h:Yk sb L p cap j w) :
 Calls Tryz.prog 179 #[.pointer (some ⟨sb,0,none⟩),.string s] w fun e w'=>e=.returned (.bool false)∧Below w.heap.size w w':=by
 obtain⟨a,h⟩:=h;have c2:=h.c2;have qN:=h.lt;have hj:(0:Int)≤(j:Int):=by omega
 clear h;go_enter Tryz.func179,Tryz.ntmps179;go_wp2_with fail
 go_quiet (fail)
 go_wp2;go_ret;exact⟨rfl,below_drewN (Below.refl _ _) _⟩
theorem yz(sb:Nat)(L:List Tk.T4)(p:Option Addr)(cap i:Nat)(s:ByteArray)(w:World)(h:jZ sb L p cap i w)(hq:Pz.isw L i s=false) :
 Calls Tryz.prog 160 #[.pointer (some ⟨sb,0,none⟩),.string s] w fun e w'=>e=.returned (.bool false)∧Below w.heap.size w w':=by
 have PK:=hid (j8 sb L p cap i s w h);rw[hq] at PK;clear h hq;go_enter Tryz.func160,Tryz.ntmps160;go_wp2_with fail;refine PK.out.mono ?_;rintro e w1 ⟨rfl,hb⟩;have B:=hid hb;clear hb;go_wp2;go_ret;exact⟨rfl,B.out⟩
theorem qT(sb:Nat)(L:List Tk.T4)(p:Option Addr)(cap j:Nat)(s:ByteArray)(w:World)(h:Yk sb L p cap j w) :
 Calls Tryz.prog 160 #[.pointer (some ⟨sb,0,none⟩),.string s] w fun e w'=>e=.returned (.bool false)∧Below w.heap.size w w':=by
 have PK:=hid (Jj sb L p cap j s w h);clear h;go_enter Tryz.func160,Tryz.ntmps160;go_wp2_with fail;refine PK.out.mono ?_;rintro e w1 ⟨rfl,hb⟩;have B:=hid hb;clear hb;go_wp2;go_ret;exact⟨rfl,B.out⟩
theorem yi(sb:Nat)(L:List Tk.T4)(p:Option Addr)(cap i:Nat)(s:ByteArray)(w:World)(h:jZ sb L p cap i w)(hq:Pz.isw L i s=true) :
 Calls Tryz.prog 160 #[.pointer (some ⟨sb,0,none⟩),.string s] w fun e w'=>e=.returned (.bool true)∧jZ sb L p cap (i+1) w'∧w.grownBy w' (some sb):=by
 have PK:=hid (j8 sb L p cap i s w h);have hi:=Pz.isw_lt hq;have H:=hid h.1;have hL:=h.1.ls.1;rw[hq] at PK;clear h hq;go_enter Tryz.func160,Tryz.ntmps160;go_wp2_with fail;refine PK.out.mono ?_;rintro e w1 ⟨rfl,hb⟩;have S1:=hid (H.out.next hb);have G1:Hid (w.grownBy w1 (some sb)):=yT hb _;have c1:=S1.out.c1;have f1:=S1.out.f1;have qN:=S1.out.lt;clear hb;go_wp2;go_ret;exact⟨rfl,⟨(S1.out.setA _).1,hi⟩,zO G1.out (S1.out.setA _).2⟩
theorem jA(sb:Nat)(L:List Tk.T4)(p:Option Addr)(cap i:Nat)(w:World)(h:jZ sb L p cap i w) :
 Calls Tryz.prog 134 #[.pointer (some ⟨sb,0,none⟩)] w fun e w'=>e=.returned (.agg #[.int .i64 0,.int .i64 0,.string ⟨#[]⟩,.slice none 0 0])∧Yk sb L p cap i w'∧w.grownBy w' (some sb):=by
 have H:=hid h.1;have c1:=h.1.c1;have c2:=h.1.c2;have f2:=h.1.f2;have qN:=h.1.lt;have hb0:(-1:Int) < 0:=by omega
 clear h;have B0:Hid (Below w.heap.size w (w.alloc (.cells #[.int .i64 0,.int .i64 0,.string ⟨#[]⟩,.slice none 0 0] 24))):=(Below.refl _ _).alloc (Nat.le_refl _) _;go_enter Tryz.func134,Tryz.ntmps134;go_wp2;refine bodyPost_ret (v:=.agg #[.int .i64 0,.int .i64 0,.string ⟨#[]⟩,.slice none 0 0]) ?_ rfl ⟨rfl,⟨i,((H.out.setB i).1.next ((Below.refl _ _).alloc (Nat.le_refl _) _))⟩,Pz.gb_next (H.out.setB i).2 (((Below.refl _ _).alloc (by simp) _))⟩;rw[qd rfl];go_simp
theorem uG(sb:Nat)(L:List Tk.T4)(p:Option Addr)(cap j:Nat)(w:World)(h:Yk sb L p cap j w) :
 Calls Tryz.prog 134 #[.pointer (some ⟨sb,0,none⟩)] w fun e w'=>e=.returned (.agg #[.int .i64 0,.int .i64 0,.string ⟨#[]⟩,.slice none 0 0])∧Below w.heap.size w w':=by
 obtain⟨a,h⟩:=h;have c2:=h.c2;have qN:=h.lt;have hj:¬(j:Int) < 0:=by omega
 clear h;go_enter Tryz.func134,Tryz.ntmps134;go_wp2;refine bodyPost_ret (v:=.agg #[.int .i64 0,.int .i64 0,.string ⟨#[]⟩,.slice none 0 0]) ?_ rfl ⟨rfl,(Below.refl _ _).alloc (Nat.le_refl _) _⟩;rw[qd rfl];go_simp
theorem zE(sb:Nat)(L:List Tk.T4)(p:Option Addr)(cap i:Nat)(s:ByteArray)(w:World)(h:jZ sb L p cap i w)(hq:Pz.isw L i s=true) :
 Calls Tryz.prog 206 #[.pointer (some ⟨sb,0,none⟩),.string s] w fun e w'=>e=.returned (.tuple #[])∧jZ sb L p cap (i+1) w'∧w.grownBy w' (some sb):=by
 have PK:=hid (yi sb L p cap i s w h hq);clear h hq;go_enter Tryz.func206,Tryz.ntmps206;go_wp2_with fail;refine PK.out.mono ?_;rintro e w1 ⟨rfl,hs,hg⟩;have S1:=hid (And.intro hs hg);clear hs hg;go_wp2
 go_end0
 exact⟨rfl,S1.out.1,S1.out.2⟩
theorem j6(sb:Nat)(L:List Tk.T4)(p:Option Addr)(cap i:Nat)(s:ByteArray)(w:World)(h:jZ sb L p cap i w)(hq:Pz.isw L i s=false) :
 Calls Tryz.prog 206 #[.pointer (some ⟨sb,0,none⟩),.string s] w fun e w'=>e=.returned (.tuple #[])∧Yk sb L p cap i w'∧w.grownBy w' (some sb):=by
 have PK:=hid (yz sb L p cap i s w h hq);have H:=hid h;have qN:=h.1.lt;clear h hq;go_enter Tryz.func206,Tryz.ntmps206;go_wp2_with fail;refine PK.out.mono ?_;rintro e w1 ⟨rfl,hb⟩;have S1:=hid (qZ _ _ _ _ _ _ _ H.out (hb.mono qN));have B1:Hid (w.grownBy w1 (some sb)):=yT hb _;clear hb;go_wp2_with fail;refine(jA sb L p cap i w1 S1.out).mono ?_;rintro e w2 ⟨rfl,hs,hg⟩;have S2:=hid (And.intro hs hg);clear hs hg;go_wp2
 go_end0
 exact⟨rfl,S2.out.1,zO B1.out S2.out.2⟩
theorem zq(sb:Nat)(L:List Tk.T4)(p:Option Addr)(cap j:Nat)(s:ByteArray)(w:World)(h:Yk sb L p cap j w) :
 Calls Tryz.prog 206 #[.pointer (some ⟨sb,0,none⟩),.string s] w fun e w'=>e=.returned (.tuple #[])∧Below w.heap.size w w':=by
 have PK:=hid (qT sb L p cap j s w h);have H:=hid h;have qN:sb < w.heap.size:=by obtain⟨a,h⟩:=h;exact h.lt
 clear h;go_enter Tryz.func206,Tryz.ntmps206;go_wp2_with fail;refine PK.out.mono ?_;rintro e w1 ⟨rfl,hb⟩;have S1:=hid (zS _ _ _ _ _ _ _ H.out (hb.mono qN));have B1:=hid hb;clear hb;go_wp2_with fail;refine(uG sb L p cap j w1 S1.out).mono ?_;rintro e w2 ⟨rfl,hb⟩;have B2:=hid (B1.out.trans (hb.mono B1.out.size));clear hb;go_wp2
 go_end0
 exact⟨rfl,B2.out⟩
def Uy(w:World)(sb:Nat)(gv:List Ch)(L:List Tk.T4)(p:Option Addr)(cap:Nat)(r:Pz.R)(e:Ending)(w':World):Prop :=
 ∃c:Ch,e=.returned (.agg #[.int .i64 c.a.op,.int .i64 c.a.num,.string c.a.name,.slice c.a.ptr (len c.k) c.a.cap])∧Pz.Fin w sb gv (ks sb L p cap r.1 r.2) r.1 c w'
def RC(f:FuncId)(L:List Tk.T4)(nt:Pz.NT)(i:Nat):Prop:=∀(sb:Nat)(p:Option Addr)(cap:Nat)(w:World),jZ sb L p cap i w→
 Calls Tryz.prog f #[.pointer (some ⟨sb,0,none⟩)] w (Uy w sb [] L p cap (Pz.pv L nt i))
def ub(f:FuncId)(L:List Tk.T4):Prop:=∀(sb:Nat)(p:Option Addr)(cap j:Nat)(w:World),Yk sb L p cap j w→
 Calls Tryz.prog f #[.pointer (some ⟨sb,0,none⟩)] w (Uy w sb [] L p cap (none,j))
theorem jo{sb:Nat}{L:List Tk.T4}{p:Option Addr}{cap i:Nat}{w:World}(h:jZ sb L p cap i w):sb < w.heap.size:=h.1.lt
theorem jS{sb:Nat}{L:List Tk.T4}{p:Option Addr}{cap i:Nat}{w:World}(h:Yk sb L p cap i w):sb < w.heap.size:=by obtain⟨a,h⟩:=h;exact h.lt
namespace Pz
theorem Env.putNode{w W:World}{sb:Nat}{St:World→Prop}{gv:List Ch}{bs:List (Nat× Ch)}{ts:List Ch}{k:Nat}{z:Ch}(E:Env w W sb St gv ((k,z) :: bs) ts)(l:List Ch)(op:Int)(n:Nat)(hn:l.length=n)(o:Option Ch)(ho:∀x,o=some x→(∀c∈ l,c∈ ts)∧tn op (l.map nr)=x)(cells:Array Value)(hc:cells=(zR l).toArray)(t:TypeId) :
 ∃ ts',Env w (((((W.setCell ⟨k,0,none⟩ (.int .i64 op)).setCell ⟨k,1,none⟩ (.int .i64 0)).setCell ⟨k,2,none⟩ (.string ⟨#[]⟩)).setCell ⟨k,3,none⟩ (.slice (some ⟨W.heap.size,0,none⟩) n n)).alloc (.cells cells t)) sb St gv ((k,⟨W.heap.size,0,⟨op,0,⟨#[]⟩,some ⟨W.heap.size,0,none⟩,n⟩,qH l⟩) :: bs) ts'∧
   ∀x,o=some x→nr (⟨W.heap.size,0,⟨op,0,⟨#[]⟩,some ⟨W.heap.size,0,none⟩,n⟩,qH l⟩:Ch)=x∧(⟨W.heap.size,0,⟨op,0,⟨#[]⟩,some ⟨W.heap.size,0,none⟩,n⟩,qH l⟩:Ch)∈ ts':=by
 have P:=E.put4 (⟨W.heap.size,0,⟨op,0,⟨#[]⟩,some ⟨W.heap.size,0,none⟩,n⟩,qH l⟩:Ch) (v0:=.int .i64 op) (v1:=.int .i64 0) (v2:=.string ⟨#[]⟩) (v3:=.slice (some ⟨W.heap.size,0,none⟩) n n) rfl rfl rfl (by rw[qC,hn]);have hz:((((W.setCell ⟨k,0,none⟩ (.int .i64 op)).setCell ⟨k,1,none⟩ (.int .i64 0)).setCell ⟨k,2,none⟩ (.string ⟨#[]⟩)).setCell ⟨k,3,none⟩ (.slice (some ⟨W.heap.size,0,none⟩) n n)).heap.size=W.heap.size:=by simp
 generalize ((((W.setCell ⟨k,0,none⟩ (.int .i64 op)).setCell ⟨k,1,none⟩ (.int .i64 0)).setCell ⟨k,2,none⟩ (.string ⟨#[]⟩)).setCell ⟨k,3,none⟩ (.slice (some ⟨W.heap.size,0,none⟩) n n))=V at *;cases o with
 | none=>exact⟨ts,P.below ((Below.refl _ _).alloc (Nat.le_refl _) _),fun x hx=>by cases hx⟩
 | some x =>
   obtain⟨h1,h2⟩:=ho x rfl;have Q:=P.node l h1 op cells hc t n;rw[hz] at Q;exact⟨_,Q,fun y hy=>by cases hy;exact⟨by rw[nr_node,h2],by simp⟩⟩
end Pz
theorem U7(L:List Tk.T4):ub 211 L:=by
 intro sb p cap j w h;have H:=hid h;have qN:=jS h;have E0:Hid (Pz.Env w w sb (ks sb L p cap none j) [] [] []):=Pz.Env.init h (qJ _ _ _ _ _ _) qN (by intro c hc;cases hc);clear h;go_enter Tryz.func211,Tryz.ntmps211;go_wp2_with fail;have E1:=hid (E0.out.box Pz.z0 #[.int .i64 0,.int .i64 0,.string ⟨#[]⟩,.slice none 0 0] rfl 24);generalize w.alloc (.cells #[.int .i64 0,.int .i64 0,.string ⟨#[]⟩,.slice none 0 0] 24)=w2 at *;clear E0;have hj:(0:Int)≤(j:Int):=by omega
 obtain⟨a,ha⟩:=(show Yk sb L p cap j w2 from E1.out.st);have c2:=ha.c2;have sl:=ha.lt;clear ha
 go_quiet (fail)
 go_wp2_with fail;have ED:=hid (E1.out.below (below_drewN (Below.refl _ _) nq));generalize w2.drewN nq=w9 at *;refine(uG sb L p cap j w9 ED.out.st).mono ?_;rintro e w8 ⟨rfl,hb⟩;have E8:=hid (ED.out.below hb);clear hb ED c2 sl hj;obtain⟨qp,qo,qn,qg,qm,ql,qk,qj,qi⟩:=(E8.out.bx (w.heap.size,Pz.z0) (by simp)).1;dsimp only[Pz.z0,len] at qp qo qn qg qm ql qk qj qi;go_wp2;refine bodyPost_ret (v:=.agg #[.int .i64 0,.int .i64 0,.string ⟨#[]⟩,.slice none 0 0]) ?_ rfl ?_
 ·rw [qd rfl];go_simp
 ·exact⟨Pz.z0,rfl,(E8.out).done4 Pz.z0 none (fun x hx=>by cases hx) rfl rfl rfl rfl⟩
theorem KW(L:List Tk.T4)(h0:ub 211 L):ub 210 L:=by
 intro sb p cap j w h;have C0:=hid h0;clear h0;have H:=hid h;have qN:=jS h;have E0:Hid (Pz.Env w w sb (ks sb L p cap none j) [] [] []):=Pz.Env.init h (qJ _ _ _ _ _ _) qN (by intro c hc;cases hc);clear h;go_enter Tryz.func210,Tryz.ntmps210;go_wp2_with fail;have E1:=hid (E0.out.box Pz.z0 #[.int .i64 0,.int .i64 0,.string ⟨#[]⟩,.slice none 0 0] rfl 24);generalize w.alloc (.cells #[.int .i64 0,.int .i64 0,.string ⟨#[]⟩,.slice none 0 0] 24)=w2 at *;clear E0;clear H;refine(C0.out sb p cap j w2 E1.out.st).mono ?_;rintro e w4 ⟨c,rfl,hf⟩;obtain⟨tsE3,hE,hc,qE⟩:=E1.out.go hf (qJ _ _ _ _ _ _) (by intro d hd;cases hd);have E3:=hid hE;have Tc:=hid hc;have Uc:=hid qE;clear hf hE hc qE E1
 try dsimp only
 go_wp2_with fail;have E5:=hid (E3.out.box c #[.int .i64 c.a.op,.int .i64 c.a.num,.string c.a.name,.slice c.a.ptr (len c.k) c.a.cap] rfl 24);generalize hg7:w4.heap.size=g7 at *;generalize w4.alloc (.cells #[.int .i64 c.a.op,.int .i64 c.a.num,.string c.a.name,.slice c.a.ptr (len c.k) c.a.cap] 24)=w6 at *;clear E3 hg7
 go_loopg [7] 0 (fun g u wr=>∃ts,Hid (Pz.Env w wr sb (ks sb L p cap none j) [] [(g7,c),(w.heap.size,Pz.z0)] ts))
 case atStart=>exact⟨_,E5.out⟩
 case round =>
  clear E5;obtain⟨ts,HR⟩:=hrel;go_wp2_with fail;refine(qT sb L p cap j _ _ HR.out.st).mono ?_;rintro e w52 ⟨rfl,hb⟩;have E51:=hid (HR.out.below hb);clear hb HR;go_wp2_with fail;refine(qT sb L p cap j _ _ E51.out.st).mono ?_;rintro e w54 ⟨rfl,hb⟩;have E53:=hid (E51.out.below hb);clear hb E51;obtain⟨qp,qo,qn,qg,qm,ql,qk,qj,qi⟩:=(E53.out.bx (g7,c) (by simp)).1;dsimp only at qp qo qn qg qm ql qk qj qi;obtain⟨qA,qz,qy,qs,qx,qw,qv,qu,qt⟩:=(E53.out.bx (w.heap.size,Pz.z0) (by simp)).1;dsimp only[Pz.z0,len] at qA qz qy qs qx qw qv qu qt;go_wp2;refine bodyPost_ret (v:=.agg #[.int .i64 c.a.op,.int .i64 c.a.num,.string c.a.name,.slice c.a.ptr (len c.k) c.a.cap]) ?_ rfl ?_
  ·rw [qd rfl];go_simp
  ·exact⟨c,rfl,(E53.out.tail).done4 c none (fun x hx=>by cases hx) rfl rfl rfl rfl⟩
theorem U0(L:List Tk.T4)(h0:ub 210 L):ub 205 L:=by
 intro sb p cap j w h;have C0:=hid h0;clear h0;have H:=hid h;have qN:=jS h;have E0:Hid (Pz.Env w w sb (ks sb L p cap none j) [] [] []):=Pz.Env.init h (qJ _ _ _ _ _ _) qN (by intro c hc;cases hc);clear h;go_enter Tryz.func205,Tryz.ntmps205;go_wp2_with fail;have E1:=hid (E0.out.box Pz.z0 #[.int .i64 0,.int .i64 0,.string ⟨#[]⟩,.slice none 0 0] rfl 24);generalize w.alloc (.cells #[.int .i64 0,.int .i64 0,.string ⟨#[]⟩,.slice none 0 0] 24)=w2 at *;clear E0;clear H;refine(C0.out sb p cap j w2 E1.out.st).mono ?_;rintro e w4 ⟨c,rfl,hf⟩;obtain⟨tsE3,hE,hc,qE⟩:=E1.out.go hf (qJ _ _ _ _ _ _) (by intro d hd;cases hd);have E3:=hid hE;have Tc:=hid hc;have Uc:=hid qE;clear hf hE hc qE E1
 try dsimp only
 go_wp2_with fail;have E5:=hid (E3.out.box c #[.int .i64 c.a.op,.int .i64 c.a.num,.string c.a.name,.slice c.a.ptr (len c.k) c.a.cap] rfl 24);generalize hg7:w4.heap.size=g7 at *;generalize w4.alloc (.cells #[.int .i64 c.a.op,.int .i64 c.a.num,.string c.a.name,.slice c.a.ptr (len c.k) c.a.cap] 24)=w6 at *;clear E3 hg7
 go_loopg [7] 0 (fun g u wr=>∃ts,Hid (Pz.Env w wr sb (ks sb L p cap none j) [] [(g7,c),(w.heap.size,Pz.z0)] ts))
 case atStart=>exact⟨_,E5.out⟩
 case round =>
  clear E5;obtain⟨ts,HR⟩:=hrel;go_wp2_with fail;refine(qT sb L p cap j _ _ HR.out.st).mono ?_;rintro e w52 ⟨rfl,hb⟩;have E51:=hid (HR.out.below hb);clear hb HR;go_wp2_with fail;refine(qT sb L p cap j _ _ E51.out.st).mono ?_;rintro e w54 ⟨rfl,hb⟩;have E53:=hid (E51.out.below hb);clear hb E51;obtain⟨qp,qo,qn,qg,qm,ql,qk,qj,qi⟩:=(E53.out.bx (g7,c) (by simp)).1;dsimp only at qp qo qn qg qm ql qk qj qi;obtain⟨qA,qz,qy,qs,qx,qw,qv,qu,qt⟩:=(E53.out.bx (w.heap.size,Pz.z0) (by simp)).1;dsimp only[Pz.z0,len] at qA qz qy qs qx qw qv qu qt;go_wp2;refine bodyPost_ret (v:=.agg #[.int .i64 c.a.op,.int .i64 c.a.num,.string c.a.name,.slice c.a.ptr (len c.k) c.a.cap]) ?_ rfl ?_
  ·rw [qd rfl];go_simp
  ·exact⟨c,rfl,(E53.out.tail).done4 c none (fun x hx=>by cases hx) rfl rfl rfl rfl⟩
theorem Uj(L:List Tk.T4)(h0:ub 205 L):ub 201 L:=by
 intro sb p cap j w h;have C0:=hid h0;clear h0;have H:=hid h;have qN:=jS h;have E0:Hid (Pz.Env w w sb (ks sb L p cap none j) [] [] []):=Pz.Env.init h (qJ _ _ _ _ _ _) qN (by intro c hc;cases hc);clear h;go_enter Tryz.func201,Tryz.ntmps201;go_wp2_with fail;have E1:=hid (E0.out.box Pz.z0 #[.int .i64 0,.int .i64 0,.string ⟨#[]⟩,.slice none 0 0] rfl 24);generalize w.alloc (.cells #[.int .i64 0,.int .i64 0,.string ⟨#[]⟩,.slice none 0 0] 24)=w2 at *;clear E0;clear H;refine(C0.out sb p cap j w2 E1.out.st).mono ?_;rintro e w4 ⟨c,rfl,hf⟩;obtain⟨tsE3,hE,hc,qE⟩:=E1.out.go hf (qJ _ _ _ _ _ _) (by intro d hd;cases hd);have E3:=hid hE;have Tc:=hid hc;have Uc:=hid qE;clear hf hE hc qE E1
 try dsimp only
 go_upto_region 2 with (fail);have E5:=hid (E3.out.box c #[.int .i64 c.a.op,.int .i64 c.a.num,.string c.a.name,.slice c.a.ptr (len c.k) c.a.cap] rfl 24);generalize hg7:w4.heap.size=g7 at *;generalize w4.alloc (.cells #[.int .i64 c.a.op,.int .i64 c.a.num,.string c.a.name,.slice c.a.ptr (len c.k) c.a.cap] 24)=w6 at *;clear E3 hg7;go_wp2_with fail;refine(qT sb L p cap j _ _ E5.out.st).mono ?_;rintro e w9 ⟨rfl,hb⟩;have E8:=hid (E5.out.below hb);clear hb E5;go_wp2_with fail;refine(qT sb L p cap j _ _ E8.out.st).mono ?_;rintro e w11 ⟨rfl,hb⟩;have E10:=hid (E8.out.below hb);clear hb E8;go_wp2_with fail;refine(qT sb L p cap j _ _ E10.out.st).mono ?_;rintro e w13 ⟨rfl,hb⟩;have E12:=hid (E10.out.below hb);clear hb E10;go_wp2_with fail;refine(qT sb L p cap j _ _ E12.out.st).mono ?_;rintro e w15 ⟨rfl,hb⟩;have E14:=hid (E12.out.below hb);clear hb E12;obtain⟨qp,qo,qn,qg,qm,ql,qk,qj,qi⟩:=(E14.out.bx (g7,c) (by simp)).1;dsimp only at qp qo qn qg qm ql qk qj qi;obtain⟨qA,qz,qy,qs,qx,qw,qv,qu,qt⟩:=(E14.out.bx (w.heap.size,Pz.z0) (by simp)).1;dsimp only[Pz.z0,len] at qA qz qy qs qx qw qv qu qt;go_wp2;refine bodyPost_ret (v:=.agg #[.int .i64 c.a.op,.int .i64 c.a.num,.string c.a.name,.slice c.a.ptr (len c.k) c.a.cap]) ?_ rfl ?_
 ·rw [qd rfl];go_simp
 ·exact⟨c,rfl,(E14.out.tail).done4 c none (fun x hx=>by cases hx) rfl rfl rfl rfl⟩
theorem U4(L:List Tk.T4)(h0:ub 201 L):ub 193 L:=by
 intro sb p cap j w h;have C0:=hid h0;clear h0;have H:=hid h;have qN:=jS h;have E0:Hid (Pz.Env w w sb (ks sb L p cap none j) [] [] []):=Pz.Env.init h (qJ _ _ _ _ _ _) qN (by intro c hc;cases hc);clear h;go_enter Tryz.func193,Tryz.ntmps193;go_wp2_with fail;have E1:=hid (E0.out.box Pz.z0 #[.int .i64 0,.int .i64 0,.string ⟨#[]⟩,.slice none 0 0] rfl 24);generalize w.alloc (.cells #[.int .i64 0,.int .i64 0,.string ⟨#[]⟩,.slice none 0 0] 24)=w2 at *;clear E0;clear H;refine(qT sb L p cap j _ _ E1.out.st).mono ?_;rintro e w4 ⟨rfl,hb⟩;have E3:=hid (E1.out.below hb);clear hb E1;go_wp2_with fail;refine(C0.out sb p cap j w4 E3.out.st).mono ?_;rintro e w6 ⟨c,rfl,hf⟩;obtain⟨tsE5,hE,hc,qE⟩:=E3.out.go hf (qJ _ _ _ _ _ _) (by intro d hd;cases hd);have E5:=hid hE;have Tc:=hid hc;have Uc:=hid qE;clear hf hE hc qE E3
 try dsimp only
 obtain⟨qp,qo,qn,qg,qm,ql,qk,qj,qi⟩:=(E5.out.bx (w.heap.size,Pz.z0) (by simp)).1;dsimp only[Pz.z0,len] at qp qo qn qg qm ql qk qj qi;go_wp2;refine bodyPost_ret (v:=.agg #[.int .i64 c.a.op,.int .i64 c.a.num,.string c.a.name,.slice c.a.ptr (len c.k) c.a.cap]) ?_ rfl ?_
 ·rw [qd rfl];go_simp
 ·exact⟨c,rfl,(E5.out).done4 c none (fun x hx=>by cases hx) rfl rfl rfl rfl⟩
theorem Um(L:List Tk.T4)(h0:ub 193 L):ub 178 L:=by
 intro sb p cap j w h;have C0:=hid h0;clear h0;have H:=hid h;have qN:=jS h;have E0:Hid (Pz.Env w w sb (ks sb L p cap none j) [] [] []):=Pz.Env.init h (qJ _ _ _ _ _ _) qN (by intro c hc;cases hc);clear h;go_enter Tryz.func178,Tryz.ntmps178;go_wp2_with fail;have E1:=hid (E0.out.box Pz.z0 #[.int .i64 0,.int .i64 0,.string ⟨#[]⟩,.slice none 0 0] rfl 24);generalize w.alloc (.cells #[.int .i64 0,.int .i64 0,.string ⟨#[]⟩,.slice none 0 0] 24)=w2 at *;clear E0;clear H;refine(C0.out sb p cap j w2 E1.out.st).mono ?_;rintro e w4 ⟨c,rfl,hf⟩;obtain⟨tsE3,hE,hc,qE⟩:=E1.out.go hf (qJ _ _ _ _ _ _) (by intro d hd;cases hd);have E3:=hid hE;have Tc:=hid hc;have Uc:=hid qE;clear hf hE hc qE E1
 try dsimp only
 go_wp2_with fail;have E5:=hid (E3.out.box c #[.int .i64 c.a.op,.int .i64 c.a.num,.string c.a.name,.slice c.a.ptr (len c.k) c.a.cap] rfl 24);generalize hg7:w4.heap.size=g7 at *;generalize w4.alloc (.cells #[.int .i64 c.a.op,.int .i64 c.a.num,.string c.a.name,.slice c.a.ptr (len c.k) c.a.cap] 24)=w6 at *;clear E3 hg7
 go_loopg [7] 0 (fun g u wr=>∃ts,Hid (Pz.Env w wr sb (ks sb L p cap none j) [] [(g7,c),(w.heap.size,Pz.z0)] ts))
 case atStart=>exact⟨_,E5.out⟩
 case round =>
  clear E5;obtain⟨ts,HR⟩:=hrel;go_wp2_with fail;refine(qT sb L p cap j _ _ HR.out.st).mono ?_;rintro e w52 ⟨rfl,hb⟩;have E51:=hid (HR.out.below hb);clear hb HR;obtain⟨qp,qo,qn,qg,qm,ql,qk,qj,qi⟩:=(E51.out.bx (g7,c) (by simp)).1;dsimp only at qp qo qn qg qm ql qk qj qi;obtain⟨qA,qz,qy,qs,qx,qw,qv,qu,qt⟩:=(E51.out.bx (w.heap.size,Pz.z0) (by simp)).1;dsimp only[Pz.z0,len] at qA qz qy qs qx qw qv qu qt;go_wp2;refine bodyPost_ret (v:=.agg #[.int .i64 c.a.op,.int .i64 c.a.num,.string c.a.name,.slice c.a.ptr (len c.k) c.a.cap]) ?_ rfl ?_
  ·rw [qd rfl];go_simp
  ·exact⟨c,rfl,(E51.out.tail).done4 c none (fun x hx=>by cases hx) rfl rfl rfl rfl⟩
theorem Uh(L:List Tk.T4)(h0:ub 178 L):ub 159 L:=by
 intro sb p cap j w h;have C0:=hid h0;clear h0;have H:=hid h;have qN:=jS h;have E0:Hid (Pz.Env w w sb (ks sb L p cap none j) [] [] []):=Pz.Env.init h (qJ _ _ _ _ _ _) qN (by intro c hc;cases hc);clear h;go_enter Tryz.func159,Tryz.ntmps159;go_wp2_with fail;have E1:=hid (E0.out.box Pz.z0 #[.int .i64 0,.int .i64 0,.string ⟨#[]⟩,.slice none 0 0] rfl 24);generalize w.alloc (.cells #[.int .i64 0,.int .i64 0,.string ⟨#[]⟩,.slice none 0 0] 24)=w2 at *;clear E0;clear H;refine(C0.out sb p cap j w2 E1.out.st).mono ?_;rintro e w4 ⟨c,rfl,hf⟩;obtain⟨tsE3,hE,hc,qE⟩:=E1.out.go hf (qJ _ _ _ _ _ _) (by intro d hd;cases hd);have E3:=hid hE;have Tc:=hid hc;have Uc:=hid qE;clear hf hE hc qE E1
 try dsimp only
 go_wp2_with fail;have E5:=hid (E3.out.box c #[.int .i64 c.a.op,.int .i64 c.a.num,.string c.a.name,.slice c.a.ptr (len c.k) c.a.cap] rfl 24);generalize hg7:w4.heap.size=g7 at *;generalize w4.alloc (.cells #[.int .i64 c.a.op,.int .i64 c.a.num,.string c.a.name,.slice c.a.ptr (len c.k) c.a.cap] 24)=w6 at *;clear E3 hg7
 go_loopg [7] 0 (fun g u wr=>∃ts,Hid (Pz.Env w wr sb (ks sb L p cap none j) [] [(g7,c),(w.heap.size,Pz.z0)] ts))
 case atStart=>exact⟨_,E5.out⟩
 case round =>
  clear E5;obtain⟨ts,HR⟩:=hrel;go_wp2_with fail;refine(qT sb L p cap j _ _ HR.out.st).mono ?_;rintro e w52 ⟨rfl,hb⟩;have E51:=hid (HR.out.below hb);clear hb HR;obtain⟨qp,qo,qn,qg,qm,ql,qk,qj,qi⟩:=(E51.out.bx (g7,c) (by simp)).1;dsimp only at qp qo qn qg qm ql qk qj qi;obtain⟨qA,qz,qy,qs,qx,qw,qv,qu,qt⟩:=(E51.out.bx (w.heap.size,Pz.z0) (by simp)).1;dsimp only[Pz.z0,len] at qA qz qy qs qx qw qv qu qt;go_wp2;refine bodyPost_ret (v:=.agg #[.int .i64 c.a.op,.int .i64 c.a.num,.string c.a.name,.slice c.a.ptr (len c.k) c.a.cap]) ?_ rfl ?_
  ·rw [qd rfl];go_simp
  ·exact⟨c,rfl,(E51.out.tail).done4 c none (fun x hx=>by cases hx) rfl rfl rfl rfl⟩
theorem Ue(L:List Tk.T4)(h0:ub 159 L):ub 133 L:=by
 intro sb p cap j w h;have C0:=hid h0;clear h0;have H:=hid h;have qN:=jS h;have E0:Hid (Pz.Env w w sb (ks sb L p cap none j) [] [] []):=Pz.Env.init h (qJ _ _ _ _ _ _) qN (by intro c hc;cases hc);clear h;go_enter Tryz.func133,Tryz.ntmps133;go_wp2_with fail;have E1:=hid (E0.out.box Pz.z0 #[.int .i64 0,.int .i64 0,.string ⟨#[]⟩,.slice none 0 0] rfl 24);generalize w.alloc (.cells #[.int .i64 0,.int .i64 0,.string ⟨#[]⟩,.slice none 0 0] 24)=w2 at *;clear E0;clear H;refine(C0.out sb p cap j w2 E1.out.st).mono ?_;rintro e w4 ⟨c,rfl,hf⟩;obtain⟨tsE3,hE,hc,qE⟩:=E1.out.go hf (qJ _ _ _ _ _ _) (by intro d hd;cases hd);have E3:=hid hE;have Tc:=hid hc;have Uc:=hid qE;clear hf hE hc qE E1
 try dsimp only
 go_upto_region 2 with (fail);have E5:=hid (E3.out.box c #[.int .i64 c.a.op,.int .i64 c.a.num,.string c.a.name,.slice c.a.ptr (len c.k) c.a.cap] rfl 24);generalize hg7:w4.heap.size=g7 at *;generalize w4.alloc (.cells #[.int .i64 c.a.op,.int .i64 c.a.num,.string c.a.name,.slice c.a.ptr (len c.k) c.a.cap] 24)=w6 at *;clear E3 hg7;go_wp2_with fail;refine(qT sb L p cap j _ _ E5.out.st).mono ?_;rintro e w9 ⟨rfl,hb⟩;have E8:=hid (E5.out.below hb);clear hb E5;obtain⟨qp,qo,qn,qg,qm,ql,qk,qj,qi⟩:=(E8.out.bx (g7,c) (by simp)).1;dsimp only at qp qo qn qg qm ql qk qj qi;obtain⟨qA,qz,qy,qs,qx,qw,qv,qu,qt⟩:=(E8.out.bx (w.heap.size,Pz.z0) (by simp)).1;dsimp only[Pz.z0,len] at qA qz qy qs qx qw qv qu qt;go_wp2;refine bodyPost_ret (v:=.agg #[.int .i64 c.a.op,.int .i64 c.a.num,.string c.a.name,.slice c.a.ptr (len c.k) c.a.cap]) ?_ rfl ?_
 ·rw [qd rfl];go_simp
 ·exact⟨c,rfl,(E8.out.tail).done4 c none (fun x hx=>by cases hx) rfl rfl rfl rfl⟩
theorem fcB(L:List Tk.T4):ub 211 L:=U7 L
theorem tmB(L:List Tk.T4):ub 210 L:=KW L (fcB L)
theorem smB(L:List Tk.T4):ub 205 L:=U0 L (tmB L)
theorem cmB(L:List Tk.T4):ub 201 L:=Uj L (smB L)
theorem ngB(L:List Tk.T4):ub 193 L:=U4 L (cmB L)
theorem cjB(L:List Tk.T4):ub 178 L:=Um L (ngB L)
theorem djB(L:List Tk.T4):ub 159 L:=Uh L (cjB L)
theorem KS(L:List Tk.T4):ub 133 L:=Ue L (djB L)
end Go.Proofs.YtcejjdmnlejbaaaGreatDoor
