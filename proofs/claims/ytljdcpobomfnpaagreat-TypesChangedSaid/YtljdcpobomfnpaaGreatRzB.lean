import Derived.Test.YtljdcpobomfnpaaGreatPzS
import Derived.Test.YtljdcpobomfnpaaGreatGc
import Derived.Deep.LoopGhost
namespace Go.Proofs.YtljdcpobomfnpaaGreat
set_option linter.unusedVariables false
set_option linter.unusedSimpArgs false
open Go.ChangeShapes Go.WideShapes Go.ChangeAt Go.RowKit
open Go.Deep (BT)
structure RSt (w:World) (sb:Nat) (L:List Tk.T4) (p:Option Addr) (cap:Nat) (a b:Int):Prop where
 c0:w.cell? ⟨sb,0,none⟩=some (.slice p L.length cap)
 c1:w.cell? ⟨sb,1,none⟩=some (.int .i64 a)
 c2:w.cell? ⟨sb,2,none⟩=some (.int .i64 b)
 f1:w.frozen? ⟨sb,1,none⟩=false
 f2:w.frozen? ⟨sb,2,none⟩=false
 lt:sb < w.heap.size
 ls:TkB w L p sb
theorem RSt.below {w w':World} {sb:Nat} {L:List Tk.T4} {p:Option Addr} {cap B0:Nat} {a b:Int} (h:RSt w sb L p cap a b) (hb:Below B0 w w') (hs:sb < B0):RSt w' sb L p cap a b where
 c0:=by rw [hb.cell (p:=⟨sb,0,none⟩) hs];exact h.c0
 c1:=by rw [hb.cell (p:=⟨sb,1,none⟩) hs];exact h.c1
 c2:=by rw [hb.cell (p:=⟨sb,2,none⟩) hs];exact h.c2
 f1:=by rw [hb.frozen (p:=⟨sb,1,none⟩) hs];exact h.f1
 f2:=by rw [hb.frozen (p:=⟨sb,2,none⟩) hs];exact h.f2
 lt:=Nat.lt_of_lt_of_le h.lt hb.size
 ls:=h.ls.below hb (Nat.le_of_lt hs)
theorem RSt.next {w w':World} {sb:Nat} {L:List Tk.T4} {p:Option Addr} {cap:Nat} {a b:Int} (h:RSt w sb L p cap a b) (hb:Below w.heap.size w w'):RSt w' sb L p cap a b:=h.below hb h.lt
theorem RSt.setA {w:World} {sb:Nat} {L:List Tk.T4} {p:Option Addr} {cap:Nat} {a b:Int} (h:RSt w sb L p cap a b) (x:Int):RSt (w.setCell ⟨sb,1,none⟩ (.int .i64 x)) sb L p cap x b∧w.grownBy (w.setCell ⟨sb,1,none⟩ (.int .i64 x)) (some sb):=by
 obtain ⟨h0,h1,h2,hf1,hf2,hl,hs⟩:=h
 refine ⟨⟨by simp [go_sem,h0,h1],by simp [go_sem,h1],by simp [go_sem,h1,h2],by simp [go_sem,hf1],by simp [go_sem,hf2],by simp [World.setCell];exact hl,hs.below ((Below.refl _ _).setCell (Nat.le_refl _) _) (Nat.le_refl _)⟩,?_⟩
 exact ⟨rfl,rfl,rfl,by simp [World.setCell],fun k hk hr=>Below.heap_setCell _ _ _ _ (fun e=>hr (by rw [e]))⟩
theorem RSt.setB {w:World} {sb:Nat} {L:List Tk.T4} {p:Option Addr} {cap:Nat} {a b:Int} (h:RSt w sb L p cap a b) (x:Int):RSt (w.setCell ⟨sb,2,none⟩ (.int .i64 x)) sb L p cap a x∧w.grownBy (w.setCell ⟨sb,2,none⟩ (.int .i64 x)) (some sb):=by
 obtain ⟨h0,h1,h2,hf1,hf2,hl,hs⟩:=h
 refine ⟨⟨by simp [go_sem,h0,h2],by simp [go_sem,h1,h2],by simp [go_sem,h2],by simp [go_sem,hf1],by simp [go_sem,hf2],by simp [World.setCell];exact hl,hs.below ((Below.refl _ _).setCell (Nat.le_refl _) _) (Nat.le_refl _)⟩,?_⟩
 exact ⟨rfl,rfl,rfl,by simp [World.setCell],fun k hk hr=>Below.heap_setCell _ _ _ _ (fun e=>hr (by rw [e]))⟩
def RGd (sb:Nat) (L:List Tk.T4) (p:Option Addr) (cap i:Nat) (w:World):Prop:=RSt w sb L p cap i (-1)∧i≤L.length
def RBd (sb:Nat) (L:List Tk.T4) (p:Option Addr) (cap j:Nat) (w:World):Prop:=∃ a:Int,RSt w sb L p cap a j
def RSO (sb:Nat) (L:List Tk.T4) (p:Option Addr) (cap:Nat) (o:Option Ch) (j:Nat):World→Prop:=match o with
 | some _=>RGd sb L p cap j
 | none=>RBd sb L p cap j
theorem rgd_cl (sb:Nat) (L:List Tk.T4) (p:Option Addr) (cap i:Nat):∀ W W':World,RGd sb L p cap i W→Below (sb+1) W W'→RGd sb L p cap i W':=fun W W' h hb=>⟨h.1.below hb (Nat.lt_succ_self _),h.2⟩
theorem rbd_cl (sb:Nat) (L:List Tk.T4) (p:Option Addr) (cap i:Nat):∀ W W':World,RBd sb L p cap i W→Below (sb+1) W W'→RBd sb L p cap i W':=fun W W' h hb=>by
 obtain ⟨a,h⟩:=h
 exact ⟨a,h.below hb (Nat.lt_succ_self _)⟩
theorem rso_cl (sb:Nat) (L:List Tk.T4) (p:Option Addr) (cap:Nat) (o:Option Ch) (j:Nat):∀ W W':World,RSO sb L p cap o j W→Below (sb+1) W W'→RSO sb L p cap o j W':=by
 cases o with
 | none=>exact rbd_cl sb L p cap j
 | some x=>exact rgd_cl sb L p cap j
set_option maxHeartbeats 600000 in
set_option maxRecDepth 100000 in
theorem sees_any (sb:Nat) (L:List Tk.T4) (p:Option Addr) (cap i:Nat) (s:ByteArray) (w:World) (h:RGd sb L p cap i w) :
 Calls Tryz.prog 102 #[.pointer (some ⟨sb,0,none⟩),.string s] w fun e w'=>e=.returned (.bool (Pz.isw L i s))∧Below w.heap.size w w':=by
 have H:=Lib.hid h.1
 have hle:=h.2
 have c0:=h.1.c0
 have c1:=h.1.c1
 have c2:=h.1.c2
 have hlt:=h.1.lt
 have hL:L.length≤400:=h.1.ls.1
 clear h
 have hb0:¬ (0:Int) ≤ -1:=by omega
 by_cases hi:i < L.length
 · have hi':¬ (L.length:Int)≤(i:Int):=by omega
   have hi2:(i:Int) < (L.length:Int):=by omega
   have hi3:(0:Int)≤(i:Int):=by omega
   obtain ⟨t,ht⟩:∃ t,L[i]?=some t:=⟨_,List.getElem?_eq_getElem hi⟩
   obtain ⟨g,O,rfl,hg,d0,d1,d2,d3⟩:=H.out.ls.get ht
   have HI:=Lib.hid (isw_some (s:=s) ht)
   clear ht
   go_enter Tryz.func102,Tryz.ntmps102
   go_wp2_with fail
   go_quiet (fail)
   go_wp2_with fail
   have B1:Hid (Below w.heap.size w (w.drewN nq)):=below_drewN (Below.refl _ _) _
   have z1:w.heap.size≤(w.drewN nq).heap.size:=B1.out.size
   have c0:(w.drewN nq).cell? ⟨sb,0,none⟩=some (.slice (some ⟨g,O,none⟩) L.length cap):=c0
   have c1:(w.drewN nq).cell? ⟨sb,1,none⟩=some (.int .i64 i):=c1
   have d0:(w.drewN nq).cell? ⟨g,O+i * 4,none⟩=some (.int .i64 t.t.kind):=d0
   have d1:(w.drewN nq).cell? ⟨g,O+i * 4+1,none⟩=some (.string t.t.text):=d1
   have d2:(w.drewN nq).cell? ⟨g,O+i * 4+2,none⟩=some (.int .i64 t.t.num):=d2
   have d3:(w.drewN nq).cell? ⟨g,O+i * 4+3,none⟩=some (.int .i64 t.at'):=d3
   generalize w.drewN nq=w1 at *
   have n0:=World.new_ne w1 ⟨sb,0,none⟩ c0
   have n1:=World.new_ne w1 ⟨sb,1,none⟩ c1
   have m0:=World.new_ne w1 ⟨g,O+i * 4,none⟩ d0
   go_region_held3 (fun w'=>w'.cell? ⟨sb,0,none⟩=some (.slice (some ⟨g,O,none⟩) L.length cap)∧w'.cell? ⟨sb,1,none⟩=some (.int .i64 i)∧w'.cell? ⟨g,O+i * 4,none⟩=some (.int .i64 t.t.kind)∧w'.cell? ⟨g,O+i * 4+1,none⟩=some (.string t.t.text)∧w'.cell? ⟨g,O+i * 4+2,none⟩=some (.int .i64 t.t.num)∧w'.cell? ⟨g,O+i * 4+3,none⟩=some (.int .i64 t.at')) (go_keep) (fail)
   clear c0 c1 d0 d1 d2 d3
   go_wp2
   all_goals
    go_ret
    refine ⟨ret_bool ?_,(B1.out.drew).alloc z1 _⟩
    rw [HI.out]
    first|(simp [*,Lib.toList_data];done)|(simp [*,Lib.toList_data];rw [Bool.eq_iff_iff];simp;done)|(simp [*,Lib.toList_data];rw [Bool.eq_iff_iff,beq_iff_eq,decide_eq_true_eq])
 · have hi':(L.length:Int)≤(i:Int):=by omega
   go_enter Tryz.func102,Tryz.ntmps102
   go_wp2_with fail
   go_quiet (fail)
   go_wp2
   go_ret
   exact ⟨ret_bool (isw_none (by omega)).symm,below_drewN (Below.refl _ _) _⟩
set_option maxHeartbeats 600000 in
set_option maxRecDepth 100000 in
theorem sees_bad (sb:Nat) (L:List Tk.T4) (p:Option Addr) (cap j:Nat) (s:ByteArray) (w:World) (h:RBd sb L p cap j w) :
 Calls Tryz.prog 102 #[.pointer (some ⟨sb,0,none⟩),.string s] w fun e w'=>e=.returned (.bool false)∧Below w.heap.size w w':=by
 obtain ⟨a,h⟩:=h
 have c2:=h.c2
 have hlt:=h.lt
 have hj:(0:Int)≤(j:Int):=by omega
 clear h
 go_enter Tryz.func102,Tryz.ntmps102
 go_wp2_with fail
 go_quiet (fail)
 go_wp2
 go_ret
 exact ⟨rfl,below_drewN (Below.refl _ _) _⟩
set_option maxHeartbeats 600000 in
set_option maxRecDepth 100000 in
theorem takes_no (sb:Nat) (L:List Tk.T4) (p:Option Addr) (cap i:Nat) (s:ByteArray) (w:World) (h:RGd sb L p cap i w) (hq:Pz.isw L i s=false) :
 Calls Tryz.prog 94 #[.pointer (some ⟨sb,0,none⟩),.string s] w fun e w'=>e=.returned (.bool false)∧Below w.heap.size w w':=by
 have PK:=Lib.hid (sees_any sb L p cap i s w h)
 rw [hq] at PK
 clear h hq
 go_enter Tryz.func94,Tryz.ntmps94
 go_wp2_with fail
 refine PK.out.mono ?_
 rintro e w1 ⟨rfl,hb⟩
 have B:=Lib.hid hb
 clear hb
 go_wp2
 go_ret
 exact ⟨rfl,B.out⟩
set_option maxHeartbeats 600000 in
set_option maxRecDepth 100000 in
theorem takes_bad (sb:Nat) (L:List Tk.T4) (p:Option Addr) (cap j:Nat) (s:ByteArray) (w:World) (h:RBd sb L p cap j w) :
 Calls Tryz.prog 94 #[.pointer (some ⟨sb,0,none⟩),.string s] w fun e w'=>e=.returned (.bool false)∧Below w.heap.size w w':=by
 have PK:=Lib.hid (sees_bad sb L p cap j s w h)
 clear h
 go_enter Tryz.func94,Tryz.ntmps94
 go_wp2_with fail
 refine PK.out.mono ?_
 rintro e w1 ⟨rfl,hb⟩
 have B:=Lib.hid hb
 clear hb
 go_wp2
 go_ret
 exact ⟨rfl,B.out⟩
set_option maxHeartbeats 600000 in
set_option maxRecDepth 100000 in
theorem takes_yes (sb:Nat) (L:List Tk.T4) (p:Option Addr) (cap i:Nat) (s:ByteArray) (w:World) (h:RGd sb L p cap i w) (hq:Pz.isw L i s=true) :
 Calls Tryz.prog 94 #[.pointer (some ⟨sb,0,none⟩),.string s] w fun e w'=>e=.returned (.bool true)∧RGd sb L p cap (i+1) w'∧w.grownBy w' (some sb):=by
 have PK:=Lib.hid (sees_any sb L p cap i s w h)
 have hi:=Pz.isw_lt hq
 have H:=Lib.hid h.1
 have hL:=h.1.ls.1
 rw [hq] at PK
 clear h hq
 go_enter Tryz.func94,Tryz.ntmps94
 go_wp2_with fail
 refine PK.out.mono ?_
 rintro e w1 ⟨rfl,hb⟩
 have S1:=Lib.hid (H.out.next hb)
 have G1:Hid (w.grownBy w1 (some sb)):=gb_of_below hb _
 have c1:=S1.out.c1
 have f1:=S1.out.f1
 have hlt:=S1.out.lt
 clear hb
 go_wp2
 go_ret
 exact ⟨rfl,⟨(S1.out.setA _).1,hi⟩,gb_trans G1.out (S1.out.setA _).2⟩
set_option maxHeartbeats 600000 in
set_option maxRecDepth 100000 in
theorem fails_any (sb:Nat) (L:List Tk.T4) (p:Option Addr) (cap i:Nat) (w:World) (h:RGd sb L p cap i w) :
 Calls Tryz.prog 78 #[.pointer (some ⟨sb,0,none⟩)] w fun e w'=>e=.returned (.agg #[.int .i64 0,.int .i64 0,.string ⟨#[]⟩,.slice none 0 0])∧RBd sb L p cap i w'∧w.grownBy w' (some sb):=by
 have H:=Lib.hid h.1
 have c1:=h.1.c1
 have c2:=h.1.c2
 have f2:=h.1.f2
 have hlt:=h.1.lt
 have hb0:(-1:Int) < 0:=by omega
 clear h
 have B0:Hid (Below w.heap.size w (w.alloc (.cells #[.int .i64 0,.int .i64 0,.string ⟨#[]⟩,.slice none 0 0] 34))):=(Below.refl _ _).alloc (Nat.le_refl _) _
 go_enter Tryz.func78,Tryz.ntmps78
 go_wp2
 refine bodyPost_ret (v:=.agg #[.int .i64 0,.int .i64 0,.string ⟨#[]⟩,.slice none 0 0]) ?_ rfl ⟨rfl,⟨i,((H.out.setB i).1.next ((Below.refl _ _).alloc (Nat.le_refl _) _))⟩,Pz.gb_next (H.out.setB i).2 (((Below.refl _ _).alloc (by simp) _))⟩
 rw [results_cell1 rfl]
 go_simp
set_option maxHeartbeats 600000 in
set_option maxRecDepth 100000 in
theorem fails_bad (sb:Nat) (L:List Tk.T4) (p:Option Addr) (cap j:Nat) (w:World) (h:RBd sb L p cap j w) :
 Calls Tryz.prog 78 #[.pointer (some ⟨sb,0,none⟩)] w fun e w'=>e=.returned (.agg #[.int .i64 0,.int .i64 0,.string ⟨#[]⟩,.slice none 0 0])∧Below w.heap.size w w':=by
 obtain ⟨a,h⟩:=h
 have c2:=h.c2
 have hlt:=h.lt
 have hj:¬ (j:Int) < 0:=by omega
 clear h
 go_enter Tryz.func78,Tryz.ntmps78
 go_wp2
 refine bodyPost_ret (v:=.agg #[.int .i64 0,.int .i64 0,.string ⟨#[]⟩,.slice none 0 0]) ?_ rfl ⟨rfl,(Below.refl _ _).alloc (Nat.le_refl _) _⟩
 rw [results_cell1 rfl]
 go_simp
set_option maxHeartbeats 600000 in
set_option maxRecDepth 100000 in
theorem wants_yes (sb:Nat) (L:List Tk.T4) (p:Option Addr) (cap i:Nat) (s:ByteArray) (w:World) (h:RGd sb L p cap i w) (hq:Pz.isw L i s=true) :
 Calls Tryz.prog 112 #[.pointer (some ⟨sb,0,none⟩),.string s] w fun e w'=>e=.returned (.tuple #[])∧RGd sb L p cap (i+1) w'∧w.grownBy w' (some sb):=by
 have PK:=Lib.hid (takes_yes sb L p cap i s w h hq)
 clear h hq
 go_enter Tryz.func112,Tryz.ntmps112
 go_wp2_with fail
 refine PK.out.mono ?_
 rintro e w1 ⟨rfl,hs,hg⟩
 have S1:=Lib.hid (And.intro hs hg)
 clear hs hg
 go_wp2
 go_end0
 exact ⟨rfl,S1.out.1,S1.out.2⟩
set_option maxHeartbeats 600000 in
set_option maxRecDepth 100000 in
theorem wants_no (sb:Nat) (L:List Tk.T4) (p:Option Addr) (cap i:Nat) (s:ByteArray) (w:World) (h:RGd sb L p cap i w) (hq:Pz.isw L i s=false) :
 Calls Tryz.prog 112 #[.pointer (some ⟨sb,0,none⟩),.string s] w fun e w'=>e=.returned (.tuple #[])∧RBd sb L p cap i w'∧w.grownBy w' (some sb):=by
 have PK:=Lib.hid (takes_no sb L p cap i s w h hq)
 have H:=Lib.hid h
 have hlt:=h.1.lt
 clear h hq
 go_enter Tryz.func112,Tryz.ntmps112
 go_wp2_with fail
 refine PK.out.mono ?_
 rintro e w1 ⟨rfl,hb⟩
 have S1:=Lib.hid (rgd_cl _ _ _ _ _ _ _ H.out (hb.mono hlt))
 have B1:Hid (w.grownBy w1 (some sb)):=gb_of_below hb _
 clear hb
 go_wp2_with fail
 refine (fails_any sb L p cap i w1 S1.out).mono ?_
 rintro e w2 ⟨rfl,hs,hg⟩
 have S2:=Lib.hid (And.intro hs hg)
 clear hs hg
 go_wp2
 go_end0
 exact ⟨rfl,S2.out.1,gb_trans B1.out S2.out.2⟩
set_option maxHeartbeats 600000 in
set_option maxRecDepth 100000 in
theorem wants_bad (sb:Nat) (L:List Tk.T4) (p:Option Addr) (cap j:Nat) (s:ByteArray) (w:World) (h:RBd sb L p cap j w) :
 Calls Tryz.prog 112 #[.pointer (some ⟨sb,0,none⟩),.string s] w fun e w'=>e=.returned (.tuple #[])∧Below w.heap.size w w':=by
 have PK:=Lib.hid (takes_bad sb L p cap j s w h)
 have H:=Lib.hid h
 have hlt:sb < w.heap.size:=by obtain ⟨a,h⟩:=h;exact h.lt
 clear h
 go_enter Tryz.func112,Tryz.ntmps112
 go_wp2_with fail
 refine PK.out.mono ?_
 rintro e w1 ⟨rfl,hb⟩
 have S1:=Lib.hid (rbd_cl _ _ _ _ _ _ _ H.out (hb.mono hlt))
 have B1:=Lib.hid hb
 clear hb
 go_wp2_with fail
 refine (fails_bad sb L p cap j w1 S1.out).mono ?_
 rintro e w2 ⟨rfl,hb⟩
 have B2:=Lib.hid (B1.out.trans (hb.mono B1.out.size))
 clear hb
 go_wp2
 go_end0
 exact ⟨rfl,B2.out⟩
def RFin (w:World) (sb:Nat) (gv:List Ch) (L:List Tk.T4) (p:Option Addr) (cap:Nat) (r:Pz.R) (e:Ending) (w':World):Prop :=
 ∃ c:Ch,e=.returned (.agg #[.int .i64 c.a.op,.int .i64 c.a.num,.string c.a.name,.slice c.a.ptr (len c.k) c.a.cap])∧Pz.Fin w sb gv (RSO sb L p cap r.1 r.2) r.1 c w'
def RC (f:FuncId) (L:List Tk.T4) (nt:Pz.NT) (i:Nat):Prop:=∀ (sb:Nat) (p:Option Addr) (cap:Nat) (w:World),RGd sb L p cap i w →
 Calls Tryz.prog f #[.pointer (some ⟨sb,0,none⟩)] w (RFin w sb [] L p cap (Pz.pv L nt i))
def RBz (f:FuncId) (L:List Tk.T4):Prop:=∀ (sb:Nat) (p:Option Addr) (cap j:Nat) (w:World),RBd sb L p cap j w →
 Calls Tryz.prog f #[.pointer (some ⟨sb,0,none⟩)] w (RFin w sb [] L p cap (none,j))
theorem rgd_lt {sb:Nat} {L:List Tk.T4} {p:Option Addr} {cap i:Nat} {w:World} (h:RGd sb L p cap i w):sb < w.heap.size:=h.1.lt
theorem rbd_lt {sb:Nat} {L:List Tk.T4} {p:Option Addr} {cap i:Nat} {w:World} (h:RBd sb L p cap i w):sb < w.heap.size:=by obtain ⟨a,h⟩:=h;exact h.lt
namespace Pz
theorem Env.putNode {w W:World} {sb:Nat} {St:World→Prop} {gv:List Ch} {bs:List (Nat × Ch)} {ts:List Ch} {k:Nat} {z:Ch} (E:Env w W sb St gv ((k,z) :: bs) ts) (l:List Ch) (op:Int) (n:Nat) (hn:l.length=n) (o:Option Ch) (ho:∀ x,o=some x→(∀ c ∈ l,c ∈ ts)∧tn op (l.map nr)=x) (cells:Array Value) (hc:cells=(rowC l).toArray) (t:TypeId) :
 ∃ ts',Env w (((((W.setCell ⟨k,0,none⟩ (.int .i64 op)).setCell ⟨k,1,none⟩ (.int .i64 0)).setCell ⟨k,2,none⟩ (.string ⟨#[]⟩)).setCell ⟨k,3,none⟩ (.slice (some ⟨W.heap.size,0,none⟩) n n)).alloc (.cells cells t)) sb St gv ((k,⟨W.heap.size,0,⟨op,0,⟨#[]⟩,some ⟨W.heap.size,0,none⟩,n⟩,rowF l⟩) :: bs) ts' ∧
   ∀ x,o=some x→nr (⟨W.heap.size,0,⟨op,0,⟨#[]⟩,some ⟨W.heap.size,0,none⟩,n⟩,rowF l⟩:Ch)=x∧(⟨W.heap.size,0,⟨op,0,⟨#[]⟩,some ⟨W.heap.size,0,none⟩,n⟩,rowF l⟩:Ch) ∈ ts':=by
 have P:=E.put4 (⟨W.heap.size,0,⟨op,0,⟨#[]⟩,some ⟨W.heap.size,0,none⟩,n⟩,rowF l⟩:Ch) (v0:=.int .i64 op) (v1:=.int .i64 0) (v2:=.string ⟨#[]⟩) (v3:=.slice (some ⟨W.heap.size,0,none⟩) n n) rfl rfl rfl (by rw [rowF_len,hn])
 have hz:((((W.setCell ⟨k,0,none⟩ (.int .i64 op)).setCell ⟨k,1,none⟩ (.int .i64 0)).setCell ⟨k,2,none⟩ (.string ⟨#[]⟩)).setCell ⟨k,3,none⟩ (.slice (some ⟨W.heap.size,0,none⟩) n n)).heap.size=W.heap.size:=by simp
 generalize ((((W.setCell ⟨k,0,none⟩ (.int .i64 op)).setCell ⟨k,1,none⟩ (.int .i64 0)).setCell ⟨k,2,none⟩ (.string ⟨#[]⟩)).setCell ⟨k,3,none⟩ (.slice (some ⟨W.heap.size,0,none⟩) n n))=V at *
 cases o with
 | none=>exact ⟨ts,P.below ((Below.refl _ _).alloc (Nat.le_refl _) _),fun x hx=>by cases hx⟩
 | some x =>
   obtain ⟨h1,h2⟩:=ho x rfl
   have Q:=P.node l h1 op cells hc t n
   rw [hz] at Q
   exact ⟨_,Q,fun y hy=>by cases hy;exact ⟨by rw [nr_node,h2],by simp⟩⟩
end Pz
end Go.Proofs.YtljdcpobomfnpaaGreat
namespace Go.Proofs.YtljdcpobomfnpaaGreat
set_option linter.unusedVariables false
set_option linter.unusedSimpArgs false
open Go.ChangeShapes Go.WideShapes Go.ChangeAt Go.RowKit
open Go.Deep (BT)
set_option maxHeartbeats 600000 in
set_option maxRecDepth 100000 in
theorem fc_bad (L:List Tk.T4):RBz 116 L:=by
 intro sb p cap j w h
 have H:=Lib.hid h
 have hlt:=rbd_lt h
 have E0:Hid (Pz.Env w w sb (RSO sb L p cap none j) [] [] []):=Pz.Env.init h (rso_cl _ _ _ _ _ _) hlt (by intro c hc;cases hc)
 clear h
 go_enter Tryz.func116,Tryz.ntmps116
 go_wp2_with fail
 have E1:=Lib.hid (E0.out.box Pz.z0 #[.int .i64 0,.int .i64 0,.string ⟨#[]⟩,.slice none 0 0] rfl 34)
 generalize w.alloc (.cells #[.int .i64 0,.int .i64 0,.string ⟨#[]⟩,.slice none 0 0] 34)=w2 at *
 clear E0
 have hj:(0:Int)≤(j:Int):=by omega
 obtain ⟨a,ha⟩:=(show RBd sb L p cap j w2 from E1.out.st)
 have c2:=ha.c2
 have sl:=ha.lt
 clear ha
 go_quiet (fail)
 go_wp2_with fail
 have ED:=Lib.hid (E1.out.below (below_drewN (Below.refl _ _) nq))
 generalize w2.drewN nq=w9 at *
 refine (fails_bad sb L p cap j w9 ED.out.st).mono ?_
 rintro e w8 ⟨rfl,hb⟩
 have E8:=Lib.hid (ED.out.below hb)
 clear hb ED c2 sl hj
 obtain ⟨b0c0,b0c1,b0c2,b0c3,b0f0,b0f1,b0f2,b0f3,b0lt⟩:=(E8.out.bx (w.heap.size,Pz.z0) (by simp)).1
 dsimp only [Pz.z0,len] at b0c0 b0c1 b0c2 b0c3 b0f0 b0f1 b0f2 b0f3 b0lt
 go_wp2
 refine bodyPost_ret (v:=.agg #[.int .i64 0,.int .i64 0,.string ⟨#[]⟩,.slice none 0 0]) ?_ rfl ?_
 · rw [results_cell1 rfl]
   go_simp
 · exact ⟨Pz.z0,rfl,(E8.out).done4 Pz.z0 none (fun x hx=>by cases hx) rfl rfl rfl rfl⟩
set_option maxHeartbeats 600000 in
set_option maxRecDepth 100000 in
theorem tm_bad (L:List Tk.T4) (h0:RBz 116 L):RBz 115 L:=by
 intro sb p cap j w h
 have C0:=Lib.hid h0
 clear h0
 have H:=Lib.hid h
 have hlt:=rbd_lt h
 have E0:Hid (Pz.Env w w sb (RSO sb L p cap none j) [] [] []):=Pz.Env.init h (rso_cl _ _ _ _ _ _) hlt (by intro c hc;cases hc)
 clear h
 go_enter Tryz.func115,Tryz.ntmps115
 go_wp2_with fail
 have E1:=Lib.hid (E0.out.box Pz.z0 #[.int .i64 0,.int .i64 0,.string ⟨#[]⟩,.slice none 0 0] rfl 34)
 generalize w.alloc (.cells #[.int .i64 0,.int .i64 0,.string ⟨#[]⟩,.slice none 0 0] 34)=w2 at *
 clear E0
 clear H
 refine (C0.out sb p cap j w2 E1.out.st).mono ?_
 rintro e w4 ⟨c,rfl,hf⟩
 obtain ⟨tsE3,hE,hc,hsub⟩:=E1.out.go hf (rso_cl _ _ _ _ _ _) (by intro d hd;cases hd)
 have E3:=Lib.hid hE
 have Tc:=Lib.hid hc
 have Uc:=Lib.hid hsub
 clear hf hE hc hsub E1
 try dsimp only
 go_wp2_with fail
 have E5:=Lib.hid (E3.out.box c #[.int .i64 c.a.op,.int .i64 c.a.num,.string c.a.name,.slice c.a.ptr (len c.k) c.a.cap] rfl 34)
 generalize hg7:w4.heap.size=g7 at *
 generalize w4.alloc (.cells #[.int .i64 c.a.op,.int .i64 c.a.num,.string c.a.name,.slice c.a.ptr (len c.k) c.a.cap] 34)=w6 at *
 clear E3 hg7
 go_loopg [7] 0 (fun g u wr=>∃ ts,Hid (Pz.Env w wr sb (RSO sb L p cap none j) [] [(g7,c),(w.heap.size,Pz.z0)] ts))
 case atStart=>exact ⟨_,E5.out⟩
 case round =>
  clear E5
  obtain ⟨ts,HR⟩:=hrel
  go_wp2_with fail
  refine (takes_bad sb L p cap j _ _ HR.out.st).mono ?_
  rintro e w52 ⟨rfl,hb⟩
  have E51:=Lib.hid (HR.out.below hb)
  clear hb HR
  go_wp2_with fail
  refine (takes_bad sb L p cap j _ _ E51.out.st).mono ?_
  rintro e w54 ⟨rfl,hb⟩
  have E53:=Lib.hid (E51.out.below hb)
  clear hb E51
  obtain ⟨b0c0,b0c1,b0c2,b0c3,b0f0,b0f1,b0f2,b0f3,b0lt⟩:=(E53.out.bx (g7,c) (by simp)).1
  dsimp only at b0c0 b0c1 b0c2 b0c3 b0f0 b0f1 b0f2 b0f3 b0lt
  obtain ⟨b1c0,b1c1,b1c2,b1c3,b1f0,b1f1,b1f2,b1f3,b1lt⟩:=(E53.out.bx (w.heap.size,Pz.z0) (by simp)).1
  dsimp only [Pz.z0,len] at b1c0 b1c1 b1c2 b1c3 b1f0 b1f1 b1f2 b1f3 b1lt
  go_wp2
  refine bodyPost_ret (v:=.agg #[.int .i64 c.a.op,.int .i64 c.a.num,.string c.a.name,.slice c.a.ptr (len c.k) c.a.cap]) ?_ rfl ?_
  · rw [results_cell1 rfl]
    go_simp
  · exact ⟨c,rfl,(E53.out.tail).done4 c none (fun x hx=>by cases hx) rfl rfl rfl rfl⟩
set_option maxHeartbeats 600000 in
set_option maxRecDepth 100000 in
theorem sm_bad (L:List Tk.T4) (h0:RBz 115 L):RBz 111 L:=by
 intro sb p cap j w h
 have C0:=Lib.hid h0
 clear h0
 have H:=Lib.hid h
 have hlt:=rbd_lt h
 have E0:Hid (Pz.Env w w sb (RSO sb L p cap none j) [] [] []):=Pz.Env.init h (rso_cl _ _ _ _ _ _) hlt (by intro c hc;cases hc)
 clear h
 go_enter Tryz.func111,Tryz.ntmps111
 go_wp2_with fail
 have E1:=Lib.hid (E0.out.box Pz.z0 #[.int .i64 0,.int .i64 0,.string ⟨#[]⟩,.slice none 0 0] rfl 34)
 generalize w.alloc (.cells #[.int .i64 0,.int .i64 0,.string ⟨#[]⟩,.slice none 0 0] 34)=w2 at *
 clear E0
 clear H
 refine (C0.out sb p cap j w2 E1.out.st).mono ?_
 rintro e w4 ⟨c,rfl,hf⟩
 obtain ⟨tsE3,hE,hc,hsub⟩:=E1.out.go hf (rso_cl _ _ _ _ _ _) (by intro d hd;cases hd)
 have E3:=Lib.hid hE
 have Tc:=Lib.hid hc
 have Uc:=Lib.hid hsub
 clear hf hE hc hsub E1
 try dsimp only
 go_wp2_with fail
 have E5:=Lib.hid (E3.out.box c #[.int .i64 c.a.op,.int .i64 c.a.num,.string c.a.name,.slice c.a.ptr (len c.k) c.a.cap] rfl 34)
 generalize hg7:w4.heap.size=g7 at *
 generalize w4.alloc (.cells #[.int .i64 c.a.op,.int .i64 c.a.num,.string c.a.name,.slice c.a.ptr (len c.k) c.a.cap] 34)=w6 at *
 clear E3 hg7
 go_loopg [7] 0 (fun g u wr=>∃ ts,Hid (Pz.Env w wr sb (RSO sb L p cap none j) [] [(g7,c),(w.heap.size,Pz.z0)] ts))
 case atStart=>exact ⟨_,E5.out⟩
 case round =>
  clear E5
  obtain ⟨ts,HR⟩:=hrel
  go_wp2_with fail
  refine (takes_bad sb L p cap j _ _ HR.out.st).mono ?_
  rintro e w52 ⟨rfl,hb⟩
  have E51:=Lib.hid (HR.out.below hb)
  clear hb HR
  go_wp2_with fail
  refine (takes_bad sb L p cap j _ _ E51.out.st).mono ?_
  rintro e w54 ⟨rfl,hb⟩
  have E53:=Lib.hid (E51.out.below hb)
  clear hb E51
  obtain ⟨b0c0,b0c1,b0c2,b0c3,b0f0,b0f1,b0f2,b0f3,b0lt⟩:=(E53.out.bx (g7,c) (by simp)).1
  dsimp only at b0c0 b0c1 b0c2 b0c3 b0f0 b0f1 b0f2 b0f3 b0lt
  obtain ⟨b1c0,b1c1,b1c2,b1c3,b1f0,b1f1,b1f2,b1f3,b1lt⟩:=(E53.out.bx (w.heap.size,Pz.z0) (by simp)).1
  dsimp only [Pz.z0,len] at b1c0 b1c1 b1c2 b1c3 b1f0 b1f1 b1f2 b1f3 b1lt
  go_wp2
  refine bodyPost_ret (v:=.agg #[.int .i64 c.a.op,.int .i64 c.a.num,.string c.a.name,.slice c.a.ptr (len c.k) c.a.cap]) ?_ rfl ?_
  · rw [results_cell1 rfl]
    go_simp
  · exact ⟨c,rfl,(E53.out.tail).done4 c none (fun x hx=>by cases hx) rfl rfl rfl rfl⟩
set_option maxHeartbeats 600000 in
set_option maxRecDepth 100000 in
theorem cm_bad (L:List Tk.T4) (h0:RBz 111 L):RBz 106 L:=by
 intro sb p cap j w h
 have C0:=Lib.hid h0
 clear h0
 have H:=Lib.hid h
 have hlt:=rbd_lt h
 have E0:Hid (Pz.Env w w sb (RSO sb L p cap none j) [] [] []):=Pz.Env.init h (rso_cl _ _ _ _ _ _) hlt (by intro c hc;cases hc)
 clear h
 go_enter Tryz.func106,Tryz.ntmps106
 go_wp2_with fail
 have E1:=Lib.hid (E0.out.box Pz.z0 #[.int .i64 0,.int .i64 0,.string ⟨#[]⟩,.slice none 0 0] rfl 34)
 generalize w.alloc (.cells #[.int .i64 0,.int .i64 0,.string ⟨#[]⟩,.slice none 0 0] 34)=w2 at *
 clear E0
 clear H
 refine (C0.out sb p cap j w2 E1.out.st).mono ?_
 rintro e w4 ⟨c,rfl,hf⟩
 obtain ⟨tsE3,hE,hc,hsub⟩:=E1.out.go hf (rso_cl _ _ _ _ _ _) (by intro d hd;cases hd)
 have E3:=Lib.hid hE
 have Tc:=Lib.hid hc
 have Uc:=Lib.hid hsub
 clear hf hE hc hsub E1
 try dsimp only
 go_upto_region 2 with (fail)
 have E5:=Lib.hid (E3.out.box c #[.int .i64 c.a.op,.int .i64 c.a.num,.string c.a.name,.slice c.a.ptr (len c.k) c.a.cap] rfl 34)
 generalize hg7:w4.heap.size=g7 at *
 generalize w4.alloc (.cells #[.int .i64 c.a.op,.int .i64 c.a.num,.string c.a.name,.slice c.a.ptr (len c.k) c.a.cap] 34)=w6 at *
 clear E3 hg7
 go_wp2_with fail
 refine (takes_bad sb L p cap j _ _ E5.out.st).mono ?_
 rintro e w9 ⟨rfl,hb⟩
 have E8:=Lib.hid (E5.out.below hb)
 clear hb E5
 go_wp2_with fail
 refine (takes_bad sb L p cap j _ _ E8.out.st).mono ?_
 rintro e w11 ⟨rfl,hb⟩
 have E10:=Lib.hid (E8.out.below hb)
 clear hb E8
 go_wp2_with fail
 refine (takes_bad sb L p cap j _ _ E10.out.st).mono ?_
 rintro e w13 ⟨rfl,hb⟩
 have E12:=Lib.hid (E10.out.below hb)
 clear hb E10
 go_wp2_with fail
 refine (takes_bad sb L p cap j _ _ E12.out.st).mono ?_
 rintro e w15 ⟨rfl,hb⟩
 have E14:=Lib.hid (E12.out.below hb)
 clear hb E12
 obtain ⟨b0c0,b0c1,b0c2,b0c3,b0f0,b0f1,b0f2,b0f3,b0lt⟩:=(E14.out.bx (g7,c) (by simp)).1
 dsimp only at b0c0 b0c1 b0c2 b0c3 b0f0 b0f1 b0f2 b0f3 b0lt
 obtain ⟨b1c0,b1c1,b1c2,b1c3,b1f0,b1f1,b1f2,b1f3,b1lt⟩:=(E14.out.bx (w.heap.size,Pz.z0) (by simp)).1
 dsimp only [Pz.z0,len] at b1c0 b1c1 b1c2 b1c3 b1f0 b1f1 b1f2 b1f3 b1lt
 go_wp2
 refine bodyPost_ret (v:=.agg #[.int .i64 c.a.op,.int .i64 c.a.num,.string c.a.name,.slice c.a.ptr (len c.k) c.a.cap]) ?_ rfl ?_
 · rw [results_cell1 rfl]
   go_simp
 · exact ⟨c,rfl,(E14.out.tail).done4 c none (fun x hx=>by cases hx) rfl rfl rfl rfl⟩
set_option maxHeartbeats 600000 in
set_option maxRecDepth 100000 in
theorem ng_bad (L:List Tk.T4) (h0:RBz 106 L):RBz 104 L:=by
 intro sb p cap j w h
 have C0:=Lib.hid h0
 clear h0
 have H:=Lib.hid h
 have hlt:=rbd_lt h
 have E0:Hid (Pz.Env w w sb (RSO sb L p cap none j) [] [] []):=Pz.Env.init h (rso_cl _ _ _ _ _ _) hlt (by intro c hc;cases hc)
 clear h
 go_enter Tryz.func104,Tryz.ntmps104
 go_wp2_with fail
 have E1:=Lib.hid (E0.out.box Pz.z0 #[.int .i64 0,.int .i64 0,.string ⟨#[]⟩,.slice none 0 0] rfl 34)
 generalize w.alloc (.cells #[.int .i64 0,.int .i64 0,.string ⟨#[]⟩,.slice none 0 0] 34)=w2 at *
 clear E0
 clear H
 refine (takes_bad sb L p cap j _ _ E1.out.st).mono ?_
 rintro e w4 ⟨rfl,hb⟩
 have E3:=Lib.hid (E1.out.below hb)
 clear hb E1
 go_wp2_with fail
 refine (C0.out sb p cap j w4 E3.out.st).mono ?_
 rintro e w6 ⟨c,rfl,hf⟩
 obtain ⟨tsE5,hE,hc,hsub⟩:=E3.out.go hf (rso_cl _ _ _ _ _ _) (by intro d hd;cases hd)
 have E5:=Lib.hid hE
 have Tc:=Lib.hid hc
 have Uc:=Lib.hid hsub
 clear hf hE hc hsub E3
 try dsimp only
 obtain ⟨b0c0,b0c1,b0c2,b0c3,b0f0,b0f1,b0f2,b0f3,b0lt⟩:=(E5.out.bx (w.heap.size,Pz.z0) (by simp)).1
 dsimp only [Pz.z0,len] at b0c0 b0c1 b0c2 b0c3 b0f0 b0f1 b0f2 b0f3 b0lt
 go_wp2
 refine bodyPost_ret (v:=.agg #[.int .i64 c.a.op,.int .i64 c.a.num,.string c.a.name,.slice c.a.ptr (len c.k) c.a.cap]) ?_ rfl ?_
 · rw [results_cell1 rfl]
   go_simp
 · exact ⟨c,rfl,(E5.out).done4 c none (fun x hx=>by cases hx) rfl rfl rfl rfl⟩
set_option maxHeartbeats 600000 in
set_option maxRecDepth 100000 in
theorem cj_bad (L:List Tk.T4) (h0:RBz 104 L):RBz 101 L:=by
 intro sb p cap j w h
 have C0:=Lib.hid h0
 clear h0
 have H:=Lib.hid h
 have hlt:=rbd_lt h
 have E0:Hid (Pz.Env w w sb (RSO sb L p cap none j) [] [] []):=Pz.Env.init h (rso_cl _ _ _ _ _ _) hlt (by intro c hc;cases hc)
 clear h
 go_enter Tryz.func101,Tryz.ntmps101
 go_wp2_with fail
 have E1:=Lib.hid (E0.out.box Pz.z0 #[.int .i64 0,.int .i64 0,.string ⟨#[]⟩,.slice none 0 0] rfl 34)
 generalize w.alloc (.cells #[.int .i64 0,.int .i64 0,.string ⟨#[]⟩,.slice none 0 0] 34)=w2 at *
 clear E0
 clear H
 refine (C0.out sb p cap j w2 E1.out.st).mono ?_
 rintro e w4 ⟨c,rfl,hf⟩
 obtain ⟨tsE3,hE,hc,hsub⟩:=E1.out.go hf (rso_cl _ _ _ _ _ _) (by intro d hd;cases hd)
 have E3:=Lib.hid hE
 have Tc:=Lib.hid hc
 have Uc:=Lib.hid hsub
 clear hf hE hc hsub E1
 try dsimp only
 go_wp2_with fail
 have E5:=Lib.hid (E3.out.box c #[.int .i64 c.a.op,.int .i64 c.a.num,.string c.a.name,.slice c.a.ptr (len c.k) c.a.cap] rfl 34)
 generalize hg7:w4.heap.size=g7 at *
 generalize w4.alloc (.cells #[.int .i64 c.a.op,.int .i64 c.a.num,.string c.a.name,.slice c.a.ptr (len c.k) c.a.cap] 34)=w6 at *
 clear E3 hg7
 go_loopg [7] 0 (fun g u wr=>∃ ts,Hid (Pz.Env w wr sb (RSO sb L p cap none j) [] [(g7,c),(w.heap.size,Pz.z0)] ts))
 case atStart=>exact ⟨_,E5.out⟩
 case round =>
  clear E5
  obtain ⟨ts,HR⟩:=hrel
  go_wp2_with fail
  refine (takes_bad sb L p cap j _ _ HR.out.st).mono ?_
  rintro e w52 ⟨rfl,hb⟩
  have E51:=Lib.hid (HR.out.below hb)
  clear hb HR
  obtain ⟨b0c0,b0c1,b0c2,b0c3,b0f0,b0f1,b0f2,b0f3,b0lt⟩:=(E51.out.bx (g7,c) (by simp)).1
  dsimp only at b0c0 b0c1 b0c2 b0c3 b0f0 b0f1 b0f2 b0f3 b0lt
  obtain ⟨b1c0,b1c1,b1c2,b1c3,b1f0,b1f1,b1f2,b1f3,b1lt⟩:=(E51.out.bx (w.heap.size,Pz.z0) (by simp)).1
  dsimp only [Pz.z0,len] at b1c0 b1c1 b1c2 b1c3 b1f0 b1f1 b1f2 b1f3 b1lt
  go_wp2
  refine bodyPost_ret (v:=.agg #[.int .i64 c.a.op,.int .i64 c.a.num,.string c.a.name,.slice c.a.ptr (len c.k) c.a.cap]) ?_ rfl ?_
  · rw [results_cell1 rfl]
    go_simp
  · exact ⟨c,rfl,(E51.out.tail).done4 c none (fun x hx=>by cases hx) rfl rfl rfl rfl⟩
set_option maxHeartbeats 600000 in
set_option maxRecDepth 100000 in
theorem dj_bad (L:List Tk.T4) (h0:RBz 101 L):RBz 93 L:=by
 intro sb p cap j w h
 have C0:=Lib.hid h0
 clear h0
 have H:=Lib.hid h
 have hlt:=rbd_lt h
 have E0:Hid (Pz.Env w w sb (RSO sb L p cap none j) [] [] []):=Pz.Env.init h (rso_cl _ _ _ _ _ _) hlt (by intro c hc;cases hc)
 clear h
 go_enter Tryz.func93,Tryz.ntmps93
 go_wp2_with fail
 have E1:=Lib.hid (E0.out.box Pz.z0 #[.int .i64 0,.int .i64 0,.string ⟨#[]⟩,.slice none 0 0] rfl 34)
 generalize w.alloc (.cells #[.int .i64 0,.int .i64 0,.string ⟨#[]⟩,.slice none 0 0] 34)=w2 at *
 clear E0
 clear H
 refine (C0.out sb p cap j w2 E1.out.st).mono ?_
 rintro e w4 ⟨c,rfl,hf⟩
 obtain ⟨tsE3,hE,hc,hsub⟩:=E1.out.go hf (rso_cl _ _ _ _ _ _) (by intro d hd;cases hd)
 have E3:=Lib.hid hE
 have Tc:=Lib.hid hc
 have Uc:=Lib.hid hsub
 clear hf hE hc hsub E1
 try dsimp only
 go_wp2_with fail
 have E5:=Lib.hid (E3.out.box c #[.int .i64 c.a.op,.int .i64 c.a.num,.string c.a.name,.slice c.a.ptr (len c.k) c.a.cap] rfl 34)
 generalize hg7:w4.heap.size=g7 at *
 generalize w4.alloc (.cells #[.int .i64 c.a.op,.int .i64 c.a.num,.string c.a.name,.slice c.a.ptr (len c.k) c.a.cap] 34)=w6 at *
 clear E3 hg7
 go_loopg [7] 0 (fun g u wr=>∃ ts,Hid (Pz.Env w wr sb (RSO sb L p cap none j) [] [(g7,c),(w.heap.size,Pz.z0)] ts))
 case atStart=>exact ⟨_,E5.out⟩
 case round =>
  clear E5
  obtain ⟨ts,HR⟩:=hrel
  go_wp2_with fail
  refine (takes_bad sb L p cap j _ _ HR.out.st).mono ?_
  rintro e w52 ⟨rfl,hb⟩
  have E51:=Lib.hid (HR.out.below hb)
  clear hb HR
  obtain ⟨b0c0,b0c1,b0c2,b0c3,b0f0,b0f1,b0f2,b0f3,b0lt⟩:=(E51.out.bx (g7,c) (by simp)).1
  dsimp only at b0c0 b0c1 b0c2 b0c3 b0f0 b0f1 b0f2 b0f3 b0lt
  obtain ⟨b1c0,b1c1,b1c2,b1c3,b1f0,b1f1,b1f2,b1f3,b1lt⟩:=(E51.out.bx (w.heap.size,Pz.z0) (by simp)).1
  dsimp only [Pz.z0,len] at b1c0 b1c1 b1c2 b1c3 b1f0 b1f1 b1f2 b1f3 b1lt
  go_wp2
  refine bodyPost_ret (v:=.agg #[.int .i64 c.a.op,.int .i64 c.a.num,.string c.a.name,.slice c.a.ptr (len c.k) c.a.cap]) ?_ rfl ?_
  · rw [results_cell1 rfl]
    go_simp
  · exact ⟨c,rfl,(E51.out.tail).done4 c none (fun x hx=>by cases hx) rfl rfl rfl rfl⟩
set_option maxHeartbeats 600000 in
set_option maxRecDepth 100000 in
theorem ex_bad (L:List Tk.T4) (h0:RBz 93 L):RBz 77 L:=by
 intro sb p cap j w h
 have C0:=Lib.hid h0
 clear h0
 have H:=Lib.hid h
 have hlt:=rbd_lt h
 have E0:Hid (Pz.Env w w sb (RSO sb L p cap none j) [] [] []):=Pz.Env.init h (rso_cl _ _ _ _ _ _) hlt (by intro c hc;cases hc)
 clear h
 go_enter Tryz.func77,Tryz.ntmps77
 go_wp2_with fail
 have E1:=Lib.hid (E0.out.box Pz.z0 #[.int .i64 0,.int .i64 0,.string ⟨#[]⟩,.slice none 0 0] rfl 34)
 generalize w.alloc (.cells #[.int .i64 0,.int .i64 0,.string ⟨#[]⟩,.slice none 0 0] 34)=w2 at *
 clear E0
 clear H
 refine (C0.out sb p cap j w2 E1.out.st).mono ?_
 rintro e w4 ⟨c,rfl,hf⟩
 obtain ⟨tsE3,hE,hc,hsub⟩:=E1.out.go hf (rso_cl _ _ _ _ _ _) (by intro d hd;cases hd)
 have E3:=Lib.hid hE
 have Tc:=Lib.hid hc
 have Uc:=Lib.hid hsub
 clear hf hE hc hsub E1
 try dsimp only
 go_upto_region 2 with (fail)
 have E5:=Lib.hid (E3.out.box c #[.int .i64 c.a.op,.int .i64 c.a.num,.string c.a.name,.slice c.a.ptr (len c.k) c.a.cap] rfl 34)
 generalize hg7:w4.heap.size=g7 at *
 generalize w4.alloc (.cells #[.int .i64 c.a.op,.int .i64 c.a.num,.string c.a.name,.slice c.a.ptr (len c.k) c.a.cap] 34)=w6 at *
 clear E3 hg7
 go_wp2_with fail
 refine (takes_bad sb L p cap j _ _ E5.out.st).mono ?_
 rintro e w9 ⟨rfl,hb⟩
 have E8:=Lib.hid (E5.out.below hb)
 clear hb E5
 obtain ⟨b0c0,b0c1,b0c2,b0c3,b0f0,b0f1,b0f2,b0f3,b0lt⟩:=(E8.out.bx (g7,c) (by simp)).1
 dsimp only at b0c0 b0c1 b0c2 b0c3 b0f0 b0f1 b0f2 b0f3 b0lt
 obtain ⟨b1c0,b1c1,b1c2,b1c3,b1f0,b1f1,b1f2,b1f3,b1lt⟩:=(E8.out.bx (w.heap.size,Pz.z0) (by simp)).1
 dsimp only [Pz.z0,len] at b1c0 b1c1 b1c2 b1c3 b1f0 b1f1 b1f2 b1f3 b1lt
 go_wp2
 refine bodyPost_ret (v:=.agg #[.int .i64 c.a.op,.int .i64 c.a.num,.string c.a.name,.slice c.a.ptr (len c.k) c.a.cap]) ?_ rfl ?_
 · rw [results_cell1 rfl]
   go_simp
 · exact ⟨c,rfl,(E8.out.tail).done4 c none (fun x hx=>by cases hx) rfl rfl rfl rfl⟩
theorem fcB (L:List Tk.T4):RBz 116 L:=fc_bad L
theorem tmB (L:List Tk.T4):RBz 115 L:=tm_bad L (fcB L)
theorem smB (L:List Tk.T4):RBz 111 L:=sm_bad L (tmB L)
theorem cmB (L:List Tk.T4):RBz 106 L:=cm_bad L (smB L)
theorem ngB (L:List Tk.T4):RBz 104 L:=ng_bad L (cmB L)
theorem cjB (L:List Tk.T4):RBz 101 L:=cj_bad L (ngB L)
theorem djB (L:List Tk.T4):RBz 93 L:=dj_bad L (cjB L)
theorem exB (L:List Tk.T4):RBz 77 L:=ex_bad L (djB L)
end Go.Proofs.YtljdcpobomfnpaaGreat
