import Derived.Test.YtcejjdmnlejbaaaGreatDoorBPzE
import Derived.Test.YtcejjdmnlejbaaaGreatDoorBTvt
import Derived.Test.YtcejjdmnlejbaaaGreatDoorBGb
import Derived.Deep.RegionHeld3
import Derived.IntWalk
namespace Go.Proofs.YtcejjdmnlejbaaaGreatDoor
set_option linter.unusedVariables false
set_option linter.unusedSimpArgs false
open Go.ChangeShapes Go.WideShapes Go.ChangeAt Go.RowKit
open Go.Deep (BT)
def TkB (w:World) (L:List Tk.T4) (p:Option Addr) (s:Nat):Prop:=L.length≤400∧(L≠[]→∃ g O,p=some ⟨g,O,none⟩∧g < s∧∀ j u,(tkC L)[j]?=some u→w.cell? ⟨g,O+j,none⟩=some u)
theorem TkB.below {w w':World} {L:List Tk.T4} {p:Option Addr} {s B0:Nat} (h:TkB w L p s) (hb:Below B0 w w') (hs:s≤B0):TkB w' L p s:=by
 refine ⟨h.1,fun q=>?_⟩
 obtain ⟨g,O,e,hg,hc⟩:=h.2 q
 refine ⟨g,O,e,hg,fun j u hu=>?_⟩
 rw [hb.cell (p:=⟨g,O+j,none⟩) (Nat.lt_of_lt_of_le hg hs)];exact hc j u hu
theorem TkB.get {w:World} {L:List Tk.T4} {p:Option Addr} {s:Nat} (h:TkB w L p s) {i:Nat} {t:Tk.T4} (hi:L[i]?=some t):∃ g O,p=some ⟨g,O,none⟩∧g < s ∧
 w.cell? ⟨g,O+i * 4,none⟩=some (.int .i64 t.t.kind)∧w.cell? ⟨g,O+i * 4+1,none⟩=some (.string t.t.text)∧w.cell? ⟨g,O+i * 4+2,none⟩=some (.int .i64 t.t.num)∧w.cell? ⟨g,O+i * 4+3,none⟩=some (.int .i64 t.at'):=by
 obtain ⟨g,O,e,hg,hc⟩:=h.2 (by intro q;rw [q] at hi;simp at hi)
 obtain ⟨c0,c1,c2,c3⟩:=tkC_get L i t hi
 exact ⟨g,O,e,hg,hc _ _ c0,by rw [Nat.add_assoc];exact hc _ _ c1,by rw [Nat.add_assoc];exact hc _ _ c2,by rw [Nat.add_assoc];exact hc _ _ c3⟩
structure PSt (w:World) (sb:Nat) (L:List Tk.T4) (p:Option Addr) (cap i:Nat):Prop where
 c0:w.cell? ⟨sb,0,none⟩=some (.slice p L.length cap)
 c1:w.cell? ⟨sb,1,none⟩=some (.int .i64 i)
 f1:w.frozen? ⟨sb,1,none⟩=false
 lt:sb < w.heap.size
 ls:TkB w L p sb
 le:i≤L.length
theorem PSt.below {w w':World} {sb:Nat} {L:List Tk.T4} {p:Option Addr} {cap i B0:Nat} (h:PSt w sb L p cap i) (hb:Below B0 w w') (hs:sb < B0):PSt w' sb L p cap i where
 c0:=by rw [hb.cell (p:=⟨sb,0,none⟩) hs];exact h.c0
 c1:=by rw [hb.cell (p:=⟨sb,1,none⟩) hs];exact h.c1
 f1:=by rw [hb.frozen (p:=⟨sb,1,none⟩) hs];exact h.f1
 lt:=Nat.lt_of_lt_of_le h.lt hb.size
 ls:=h.ls.below hb (Nat.le_of_lt hs)
 le:=h.le
theorem PSt.next {w w':World} {sb:Nat} {L:List Tk.T4} {p:Option Addr} {cap i:Nat} (h:PSt w sb L p cap i) (hb:Below w.heap.size w w'):PSt w' sb L p cap i:=h.below hb h.lt
theorem PSt.step {w:World} {sb:Nat} {L:List Tk.T4} {p:Option Addr} {cap i:Nat} (h:PSt w sb L p cap i) (hi:i < L.length):PSt (w.setCell ⟨sb,1,none⟩ (.int .i64 ((i:Int)+1))) sb L p cap (i+1)∧w.grownBy (w.setCell ⟨sb,1,none⟩ (.int .i64 ((i:Int)+1))) (some sb):=by
 have h0:=h.c0
 have h1:=h.c1
 have hf:=h.f1
 refine ⟨⟨by simp [go_sem,h0,h1],by simp [go_sem,h1],by simp [go_sem,hf],by simp [World.setCell];exact h.lt,h.ls.below ((Below.refl _ _).setCell (Nat.le_refl _) _) (Nat.le_refl _),hi⟩,?_⟩
 exact ⟨rfl,rfl,rfl,by simp [World.setCell],fun k hk hr=>Below.heap_setCell _ _ _ _ (fun e=>hr (by rw [e]))⟩
theorem isw_none {L:List Tk.T4} {i:Nat} {s:ByteArray} (h:L.length≤i):Pz.isw L i s=false:=by
 unfold Pz.isw;rw [List.getElem?_eq_none h]
theorem isw_some {L:List Tk.T4} {i:Nat} {s:ByteArray} {t:Tk.T4} (h:L[i]?=some t):Pz.isw L i s=((decide (t.t.kind=1) || decide (t.t.kind=5)) && decide (t.t.text.data.toList=s.data.toList)):=by
 unfold Pz.isw;rw [h]
set_option maxHeartbeats 1000000 in
set_option maxRecDepth 100000 in
theorem peek_any (sb:Nat) (L:List Tk.T4) (p:Option Addr) (cap i:Nat) (s:ByteArray) (w:World) (h:PSt w sb L p cap i) :
 Calls Tryz.prog 127 #[.pointer (some ⟨sb,0,none⟩),.string s] w fun e w'=>e=.returned (.bool (Pz.isw L i s))∧Below w.heap.size w w':=by
 have H:=Lib.hid h
 have c0:=h.c0
 have c1:=h.c1
 have hlt:=h.lt
 have hL:L.length≤400:=h.ls.1
 have hle:=h.le
 clear h
 by_cases hi:i < L.length
 · have hi':¬ (L.length:Int)≤(i:Int):=by omega
   have hi2:(i:Int) < (L.length:Int):=by omega
   have hi3:(0:Int)≤(i:Int):=by omega
   obtain ⟨t,ht⟩:∃ t,L[i]?=some t:=⟨_,List.getElem?_eq_getElem hi⟩
   obtain ⟨g,O,rfl,hg,d0,d1,d2,d3⟩:=H.out.ls.get ht
   have HI:=Lib.hid (isw_some (s:=s) ht)
   have hd:=block_lt_of_cell d0
   simp at hd
   clear ht
   go_enter Tryz.func127,Tryz.ntmps127
   go_wp2_with fail
   go_quiet (fail)
   go_wp2_with fail
   have B1:Hid (Below w.heap.size w (w.drewN nq)):=below_drewN (Below.refl _ _) _
   have z1:w.heap.size≤(w.drewN nq).heap.size:=B1.out.size
   have c0:(w.drewN nq).cell? ⟨sb,0,none⟩=some (.slice (some ⟨g,O,none⟩) L.length cap):=c0
   have c1:(w.drewN nq).cell? ⟨sb,1,none⟩=some (.int .i64 i):=c1
   have d0:(w.drewN nq).cell? ⟨g,O+i * 4,none⟩=some (.int .i64 t.t.kind):=d0
   have d1:(w.drewN nq).cell? ⟨g,O+i * 4+1,none⟩=some (.string t.t.text):=d1
   have d2:(w.drewN nq).cell? ⟨g,O+i * 4+2,none⟩=some (.int .i64 t.t.num):=d2
   have d3:(w.drewN nq).cell? ⟨g,O+i * 4+3,none⟩=some (.int .i64 t.at'):=d3
   generalize w.drewN nq=w1 at *
   have n0:=World.new_ne w1 ⟨sb,0,none⟩ c0
   have n1:=World.new_ne w1 ⟨sb,1,none⟩ c1
   have m0:=World.new_ne w1 ⟨g,O+i * 4,none⟩ d0
   go_region_held3 (fun w'=>w'.cell? ⟨sb,0,none⟩=some (.slice (some ⟨g,O,none⟩) L.length cap)∧w'.cell? ⟨sb,1,none⟩=some (.int .i64 i)∧w'.cell? ⟨g,O+i * 4,none⟩=some (.int .i64 t.t.kind)∧w'.cell? ⟨g,O+i * 4+1,none⟩=some (.string t.t.text)∧w'.cell? ⟨g,O+i * 4+2,none⟩=some (.int .i64 t.t.num)∧w'.cell? ⟨g,O+i * 4+3,none⟩=some (.int .i64 t.at')) (go_keep) (fail)
   clear c0 c1 d0 d1 d2 d3
   go_wp2
   all_goals
    go_ret
    refine ⟨ret_bool ?_,(B1.out.drew).alloc z1 _⟩
    rw [HI.out]
    first|(simp [*,Lib.toList_data];done)|(simp [*,Lib.toList_data];rw [Bool.eq_iff_iff];simp;done)|(simp [*,Lib.toList_data];rw [Bool.eq_iff_iff,beq_iff_eq,decide_eq_true_eq])
 · have hi':(L.length:Int)≤(i:Int):=by omega
   go_enter Tryz.func127,Tryz.ntmps127
   go_wp2_with fail
   go_quiet (fail)
   go_wp2
   go_ret
   exact ⟨ret_bool (isw_none (by omega)).symm,below_drewN (Below.refl _ _) _⟩
theorem pst_cl (sb:Nat) (L:List Tk.T4) (p:Option Addr) (cap i:Nat):∀ W W':World,PSt W sb L p cap i→Below (sb+1) W W'→PSt W' sb L p cap i:=fun W W' h hb=>h.below hb (Nat.lt_succ_self _)
set_option maxHeartbeats 1000000 in
set_option maxRecDepth 100000 in
theorem accept_no (sb:Nat) (L:List Tk.T4) (p:Option Addr) (cap i:Nat) (s:ByteArray) (w:World) (h:PSt w sb L p cap i) (hq:Pz.isw L i s=false) :
 Calls Tryz.prog 81 #[.pointer (some ⟨sb,0,none⟩),.string s] w fun e w'=>e=.returned (.bool false)∧Below w.heap.size w w':=by
 have PK:=Lib.hid (peek_any sb L p cap i s w h)
 rw [hq] at PK
 clear h hq
 go_enter Tryz.func81,Tryz.ntmps81
 go_wp2_with fail
 refine PK.out.mono ?_
 rintro e w1 ⟨rfl,hb⟩
 have B:=Lib.hid hb
 clear hb
 go_wp2
 go_ret
 exact ⟨rfl,B.out⟩
set_option maxHeartbeats 1000000 in
set_option maxRecDepth 100000 in
theorem accept_yes (sb:Nat) (L:List Tk.T4) (p:Option Addr) (cap i:Nat) (s:ByteArray) (w:World) (h:PSt w sb L p cap i) (hq:Pz.isw L i s=true) :
 Calls Tryz.prog 81 #[.pointer (some ⟨sb,0,none⟩),.string s] w fun e w'=>e=.returned (.bool true)∧PSt w' sb L p cap (i+1)∧w.grownBy w' (some sb):=by
 have PK:=Lib.hid (peek_any sb L p cap i s w h)
 have hi:=Pz.isw_lt hq
 have H:=Lib.hid h
 have hL:=h.ls.1
 rw [hq] at PK
 clear h hq
 go_enter Tryz.func81,Tryz.ntmps81
 go_wp2_with fail
 refine PK.out.mono ?_
 rintro e w1 ⟨rfl,hb⟩
 have S1:=Lib.hid (H.out.next hb)
 have G1:Hid (w.grownBy w1 (some sb)):=gb_of_below hb _
 have c1:=S1.out.c1
 have f1:=S1.out.f1
 have hlt:=S1.out.lt
 clear hb
 go_wp2
 go_ret
 exact ⟨rfl,(S1.out.step hi).1,gb_trans G1.out (S1.out.step hi).2⟩
set_option maxHeartbeats 1000000 in
set_option maxRecDepth 100000 in
theorem pair_any (op:Int) (a b:Ch) (w:World) :
 Calls Tryz.prog 82 #[.int .i64 op,.agg #[.int .i64 a.a.op,.int .i64 a.a.num,.string a.a.name,.slice a.a.ptr (len a.k) a.a.cap],.agg #[.int .i64 b.a.op,.int .i64 b.a.num,.string b.a.name,.slice b.a.ptr (len b.k) b.a.cap]] w fun e w' =>
  ∃ g,e=.returned (.agg #[.int .i64 op,.int .i64 0,.string ⟨#[]⟩,.slice (some ⟨g,0,none⟩) 2 2])∧w.heap.size≤g∧Below w.heap.size w w'∧∀ j u,(rowC [a,b])[j]?=some u→w'.cell? ⟨g,j,none⟩=some u:=by
 go_enter Tryz.func82,Tryz.ntmps82
 go_wp2
 refine bodyPost_ret (v:=.agg #[.int .i64 op,.int .i64 0,.string ⟨#[]⟩,.slice (some ⟨w.heap.size+3,0,none⟩) 2 2]) ?_ rfl ⟨_,rfl,by omega,?_,?_⟩
 · rw [results_cell1 rfl]
   go_simp
 · exact ((((Below.refl _ _).alloc (Nat.le_refl _) _).alloc (by simp) _).alloc (by simp;omega) _).alloc (by simp;omega) _
 · intro j u hu
   have hu':(rowC [a,b]).toArray[j]?=some u:=by rw [List.getElem?_toArray];exact hu
   have e:=World.cell?_alloc_new (((w.alloc (.cells #[.int .i64 a.a.op,.int .i64 a.a.num,.string a.a.name,.slice a.a.ptr (len a.k) a.a.cap] 24)).alloc (.cells #[.int .i64 b.a.op,.int .i64 b.a.num,.string b.a.name,.slice b.a.ptr (len b.k) b.a.cap] 24)).alloc (.cells #[.int .i64 op,.int .i64 0,.string ⟨#[]⟩,.slice (some ⟨w.heap.size+3,0,none⟩) 2 2] 24)) (rowC [a,b]).toArray 24 j
   simp only [World.size_alloc] at e
   rw [← hu']
   exact e
end Go.Proofs.YtcejjdmnlejbaaaGreatDoor
