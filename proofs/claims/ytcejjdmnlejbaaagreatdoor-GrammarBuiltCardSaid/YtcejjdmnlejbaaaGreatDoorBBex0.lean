import Derived.Test.YtcejjdmnlejbaaaGreatDoorBBlf0
namespace Go.Proofs.YtcejjdmnlejbaaaGreatDoor
set_option linter.unusedVariables false
set_option linter.unusedSimpArgs false
open Go.ChangeShapes Go.WideShapes Go.ChangeAt Go.RowKit
open Go.Deep (BT)
theorem gb_set (w:World) (p:Addr) (u:Value):w.grownBy (w.setCell p u) (some p.block):=⟨rfl,rfl,rfl,by simp [World.setCell],fun k hk hr=>Below.heap_setCell _ _ _ _ (fun e=>hr (by rw [e]))⟩
theorem ch_four {w:World} {r:Nat} {ch:Ch} {a b c d:Value} (h:ChAt w (r+1) ch):ChAt ((((w.setCell ⟨r,0,none⟩ a).setCell ⟨r,1,none⟩ b).setCell ⟨r,2,none⟩ c).setCell ⟨r,3,none⟩ d) r ch :=
 ((((h.grown (Nat.lt_succ_self r) (gb_set _ _ _)).grown (Nat.lt_succ_self r) (gb_set _ _ _)).grown (Nat.lt_succ_self r) (gb_set _ _ _)).grown (Nat.lt_succ_self r) (gb_set _ _ _)).mono (Nat.le_succ r)
def ExprQ (m Q:Nat):Prop:=∀ (sb:Nat) (v:Value) (n t:Nat) (sc kind LI:Int) (w:World),Src w sb v n t→t+Q≤1099511627776→(sc=0∨sc=1∨sc=2∨sc=3)→(kind=1∨kind=2∨kind=3∨kind=4)→LI=(m:Int) →
 Calls Tryz.prog 36 #[.pointer (some ⟨sb,0,none⟩),.int .i64 sc,.int .i64 kind,.int .i64 LI] w (EPost w sb v n t Q sc kind m)
set_option maxHeartbeats 8000000 in
set_option maxRecDepth 100000 in
theorem bexpr_one:ExprQ 1 80:=by
 intro sb v n t sc kind LI w h ht hs hk hL
 subst hL
 have H:=Lib.hid h
 have HS:=Lib.hid hs
 have HK:=Lib.hid hk
 have HLT:=Lib.hid h.lt
 clear h hs hk
 go_enter Tryz.func36,Tryz.ntmps36
 go_wp2_with fail
 have B0:Hid (Below w.heap.size w (w.alloc (.cells #[.int .i64 0,.int .i64 0,.string ⟨#[]⟩,.slice none 0 0] 24))):=(Below.refl _ _).alloc (Nat.le_refl _) _
 have Rw0:Hid (RB (w.alloc (.cells #[.int .i64 0,.int .i64 0,.string ⟨#[]⟩,.slice none 0 0] 24)) w.heap.size):=⟨⟨_,by simp [go_sem];rfl⟩,⟨_,by simp [go_sem];rfl⟩,⟨_,by simp [go_sem];rfl⟩,⟨_,by simp [go_sem];rfl⟩,by simp [go_sem],by simp [go_sem],by simp [go_sem],by simp [go_sem],by simp⟩
 generalize w.alloc (.cells #[.int .i64 0,.int .i64 0,.string ⟨#[]⟩,.slice none 0 0] 24)=w0 at *
 have Sw0:=Lib.hid (H.out.next B0.out)
 have Gw0:Hid (w.grownBy w0 (some sb)):=grw_of_below _ B0.out
 clear B0
 refine (bleaf_any sb v n (t) sc kind w0 Sw0.out (by omega) HS.out HK.out).mono ?_
 rintro e wx ⟨c,rfl,hp,hc,⟨⟨t9,h91,h92,hS⟩,hg⟩⟩
 have SX:=Lib.hid hS
 have GX:Hid (w.grownBy wx (some sb)):=Gw0.out.trans hg
 have RX:Hid (RB wx w.heap.size):=Rw0.out.grown hg (by simp;have:=HLT.out;omega)
 have CX:Hid (ChAt wx (w.heap.size+1) c):=hc.mono Rw0.out.lt
 have PX:=Lib.hid hp
 clear hS hg hc hp
 obtain ⟨⟨u0,q0⟩,⟨u1,q1⟩,⟨u2,q2⟩,⟨u3,q3⟩,f0,f1,f2,f3,rlt⟩:=RX.out
 go_wp2
 refine bodyPost_ret (v:=.agg #[.int .i64 c.a.op,.int .i64 c.a.num,.string c.a.name,.slice c.a.ptr (len c.k) c.a.cap]) ?_ rfl ⟨c,rfl,PX.out.mono (by omega),ch_four CX.out,bp_store SX.out GX.out RX.out.lt' HLT.out (by omega) (by omega) below_four⟩
 rw [results_cell1 rfl]
 go_simp
set_option maxHeartbeats 40000000 in
set_option maxRecDepth 100000 in
theorem bexpr_of (d Q:Nat) (hd:1≤d) (hd2:d≤100) (hQ:80≤Q) (ih:ExprQ d Q):ExprQ (d+1) (4 * Q):=by
 intro sb v n t sc kind LI w h ht hs hk hL
 have H:=Lib.hid h
 have HS:=Lib.hid hs
 have HK:=Lib.hid hk
 have HLT:=Lib.hid h.lt
 have IHD:=Lib.hid ih
 have IH1:=Lib.hid bexpr_one
 have hk0:Hid (kind≠0):=by unfold Hid;omega
 obtain ⟨DI,hDI⟩:∃ DI:Int,DI=(d:Int):=⟨_,rfl⟩
 have HDI:=Lib.hid hDI
 have hw:IntKind.i64.wrap (LI - 1)=DI:=by rw [hL,hDI];rw [IntWalk.i64_in _ (by omega)];omega
 have hl1:¬ LI≤1:=by omega
 clear h hs hk ih hL hDI
 go_enter Tryz.func36,Tryz.ntmps36
 go_wp2_with fail
 have B0:Hid (Below w.heap.size w (w.alloc (.cells #[.int .i64 0,.int .i64 0,.string ⟨#[]⟩,.slice none 0 0] 24))):=(Below.refl _ _).alloc (Nat.le_refl _) _
 have Rw0:Hid (RB (w.alloc (.cells #[.int .i64 0,.int .i64 0,.string ⟨#[]⟩,.slice none 0 0] 24)) w.heap.size):=⟨⟨_,by simp [go_sem];rfl⟩,⟨_,by simp [go_sem];rfl⟩,⟨_,by simp [go_sem];rfl⟩,⟨_,by simp [go_sem];rfl⟩,by simp [go_sem],by simp [go_sem],by simp [go_sem],by simp [go_sem],by simp⟩
 generalize w.alloc (.cells #[.int .i64 0,.int .i64 0,.string ⟨#[]⟩,.slice none 0 0] 24)=w0 at *
 have Sw0:=Lib.hid (H.out.next B0.out)
 have Gw0:Hid (w.grownBy w0 (some sb)):=grw_of_below _ B0.out
 clear B0
 refine (next_any sb v n (t) 5 w0 Sw0.out (by omega) (by omega) (by omega)).mono ?_
 rintro e w1 ⟨⟨rw1,hrw1,rfl⟩,hS,hg⟩
 have Sw1:=Lib.hid hS
 have Gw1:Hid (w.grownBy w1 (some sb)):=Gw0.out.trans hg
 have Rw1:Hid (RB w1 w.heap.size):=Rw0.out.grown hg (by simp;have:=HLT.out;omega)
 clear hS hg
 by_cases h5:rw1=0
 · have b5:((rw1:Int)==0)=true:=by simp [h5]
   clear h5
   go_wp2_with fail
   refine (bleaf_any sb v n (t+1) sc kind w1 Sw1.out (by omega) HS.out HK.out).mono ?_
   rintro e wx ⟨c,rfl,hp,hc,⟨⟨t9,h91,h92,hS⟩,hg⟩⟩
   have SX:=Lib.hid hS
   have GX:Hid (w.grownBy wx (some sb)):=Gw1.out.trans hg
   have RX:Hid (RB wx w.heap.size):=Rw1.out.grown hg (by simp;have:=HLT.out;omega)
   have CX:Hid (ChAt wx (w.heap.size+1) c):=hc.mono Rw1.out.lt
   have PX:=Lib.hid hp
   clear hS hg hc hp
   obtain ⟨⟨u0,q0⟩,⟨u1,q1⟩,⟨u2,q2⟩,⟨u3,q3⟩,f0,f1,f2,f3,rlt⟩:=RX.out
   go_wp2
   refine bodyPost_ret (v:=.agg #[.int .i64 c.a.op,.int .i64 c.a.num,.string c.a.name,.slice c.a.ptr (len c.k) c.a.cap]) ?_ rfl ⟨c,rfl,PX.out.mono (by omega),ch_four CX.out,bp_store SX.out GX.out RX.out.lt' HLT.out (by omega) (by omega) below_four⟩
   rw [results_cell1 rfl]
   go_simp
 · have b5 : ((rw1:Int)==0)=false:=by simp [h5]
   clear h5
   go_wp2_with fail
   refine (next_any sb v n (t+1) 6 w1 Sw1.out (by omega) (by omega) (by omega)).mono ?_
   rintro e w2 ⟨⟨rw2,hrw2,rfl⟩,hS,hg⟩
   have Sw2:=Lib.hid hS
   have Gw2:Hid (w.grownBy w2 (some sb)):=Gw1.out.trans hg
   have Rw2:Hid (RB w2 w.heap.size):=Rw1.out.grown hg (by simp;have:=HLT.out;omega)
   clear hS hg
   clear hw
   by_cases h6:rw2=0
   · have b6:((rw2:Int)==0)=true:=by simp [h6]
     clear h6
     go_wp2_with fail
     refine (IHD.out sb v n (t+1+1) sc 4 DI w2 Sw2.out (by omega) HS.out (by omega) HDI.out).mono ?_
     rintro e k1w ⟨c1,rfl,hp,hc,⟨⟨t1,ha1,hb1,hS⟩,hg⟩⟩
     have P1:=Lib.hid hp
     have Sk1w:=Lib.hid hS
     have Gk1w:Hid (w.grownBy k1w (some sb)):=Gw2.out.trans hg
     have Rk1w:Hid (RB k1w w.heap.size):=Rw2.out.grown hg (by simp;have:=HLT.out;omega)
     have C1:Hid (ChAt k1w (w.heap.size+1) c1):=hc.mono Rw2.out.lt
     clear hp hc hS hg
     go_wp2_with fail
     refine (IHD.out sb v n (t1) sc kind DI k1w Sk1w.out (by omega) HS.out HK.out HDI.out).mono ?_
     rintro e k2w ⟨c2,rfl,hp,hc,⟨⟨t2,ha2,hb2,hS⟩,hg⟩⟩
     have P2:=Lib.hid hp
     have Sk2w:=Lib.hid hS
     have Gk2w:Hid (w.grownBy k2w (some sb)):=Gk1w.out.trans hg
     have Rk2w:Hid (RB k2w w.heap.size):=Rk1w.out.grown hg (by simp;have:=HLT.out;omega)
     have C2:Hid (ChAt k2w (w.heap.size+1) c2):=hc.mono Rk1w.out.lt
     have C1:=Lib.hid (C1.out.grown (by have:=HLT.out;omega) hg)
     clear hp hc hS hg
     go_wp2_with fail
     refine (IHD.out sb v n (t2) sc kind DI k2w Sk2w.out (by omega) HS.out HK.out HDI.out).mono ?_
     rintro e k3w ⟨c3,rfl,hp,hc,⟨⟨t3,ha3,hb3,hS⟩,hg⟩⟩
     have P3:=Lib.hid hp
     have Sk3w:=Lib.hid hS
     have Gk3w:Hid (w.grownBy k3w (some sb)):=Gk2w.out.trans hg
     have Rk3w:Hid (RB k3w w.heap.size):=Rk2w.out.grown hg (by simp;have:=HLT.out;omega)
     have C3:Hid (ChAt k3w (w.heap.size+1) c3):=hc.mono Rk2w.out.lt
     have C1:=Lib.hid (C1.out.grown (by have:=HLT.out;omega) hg)
     have C2:=Lib.hid (C2.out.grown (by have:=HLT.out;omega) hg)
     clear hp hc hS hg
     go_wp2_with fail
     have BA:Hid (Below k3w.heap.size k3w (k3w.alloc (.cells #[.int .i64 c1.a.op,.int .i64 c1.a.num,.string c1.a.name,.slice c1.a.ptr (len c1.k) c1.a.cap,.int .i64 c2.a.op,.int .i64 c2.a.num,.string c2.a.name,.slice c2.a.ptr (len c2.k) c2.a.cap,.int .i64 c3.a.op,.int .i64 c3.a.num,.string c3.a.name,.slice c3.a.ptr (len c3.k) c3.a.cap] 24))):=(Below.refl _ _).alloc (Nat.le_refl _) _
     have RN:=Lib.hid (row_new (w:=k3w) (B0:=w.heap.size+1) [c1,c2,c3] (by intro c hc;simp only [List.mem_cons,List.not_mem_nil,or_false] at hc;rcases hc with rfl|rfl|rfl;exact C1.out;exact C2.out;exact C3.out) Rk3w.out.lt 24 #[.int .i64 c1.a.op,.int .i64 c1.a.num,.string c1.a.name,.slice c1.a.ptr (len c1.k) c1.a.cap,.int .i64 c2.a.op,.int .i64 c2.a.num,.string c2.a.name,.slice c2.a.ptr (len c2.k) c2.a.cap,.int .i64 c3.a.op,.int .i64 c3.a.num,.string c3.a.name,.slice c3.a.ptr (len c3.k) c3.a.cap] rfl)
     generalize k3w.alloc (.cells #[.int .i64 c1.a.op,.int .i64 c1.a.num,.string c1.a.name,.slice c1.a.ptr (len c1.k) c1.a.cap,.int .i64 c2.a.op,.int .i64 c2.a.num,.string c2.a.name,.slice c2.a.ptr (len c2.k) c2.a.cap,.int .i64 c3.a.op,.int .i64 c3.a.num,.string c3.a.name,.slice c3.a.ptr (len c3.k) c3.a.cap] 24)=wa at *
     refine (bnode_any 14 _ 3 3 wa).mono ?_
     rintro e wq ⟨rfl,hb⟩
     have SX:=Lib.hid ((Sk3w.out.next BA.out).next hb)
     have GX:Hid (w.grownBy wq (some sb)):=grw_below (grw_below Gk3w.out (BA.out.mono Gk3w.out.size)) (hb.mono (Nat.le_trans Gk3w.out.size BA.out.size))
     have RX:Hid (RB wq w.heap.size):=(Rk3w.out.next BA.out).next hb
     have FX:Hid (FoAt wq (rowF [c1,c2,c3]) k3w.heap.size 0):=RN.out.1.next hb
     clear hb
     obtain ⟨⟨u0,q0⟩,⟨u1,q1⟩,⟨u2,q2⟩,⟨u3,q3⟩,f0,f1,f2,f3,rlt⟩:=RX.out
     go_wp2
     refine bodyPost_ret (v:=.agg #[.int .i64 14,.int .i64 0,.string ⟨#[]⟩,.slice (some ⟨k3w.heap.size,0,none⟩) 3 3]) ?_ rfl ⟨⟨k3w.heap.size,0,⟨14,0,⟨#[]⟩,some ⟨k3w.heap.size,0,none⟩,3⟩,rowF [c1,c2,c3]⟩,rfl,plain_node sc d [c1,c2,c3] [4,kind,kind] 14 kind ⟨P1.out,P2.out,P3.out,trivial⟩ (by simp) (by omega) rfl (by rcases HK.out with rfl|rfl|rfl|rfl<;>rfl) hk0.out _ _,ch_four ⟨⟨fun _=>rfl,FX.out⟩,RN.out.2⟩,bp_store SX.out GX.out RX.out.lt' HLT.out (by omega) (by omega) below_four⟩
     rw [results_cell1 rfl]
     go_simp
   · have b6 : ((rw2:Int)==0)=false:=by simp [h6]
     clear h6
     by_cases h12:kind=1∨kind=2
     · go_upto_if 44 with (fail)
       go_cut [44] (fun vv wx=>vv=.bool true∧w2=wx)
       case first =>
        by_cases e1:kind=1
        · have c1:(kind==1)=true:=by simp [e1]
          clear e1
          go_wp2
          go_meet
          exact ⟨by first|rfl|rw [c1],rfl⟩
        · have c1:(kind==1)=false:=by simp [e1]
          have c2:(kind==2)=true:=by simp;omega
          clear e1
          go_wp2
          go_meet
          exact ⟨by first|rfl|rw [c1],rfl⟩
       case rest =>
        obtain ⟨rfl,rfl⟩:=hcut
        have KN:=h12
        go_wp2_with fail
        refine (next_any sb v n (t+1+1) 9 w2 Sw2.out (by omega) (by omega) (by omega)).mono ?_
        rintro e w3 ⟨⟨rw3,hrw3,rfl⟩,hS,hg⟩
        have Sw3:=Lib.hid hS
        have Gw3:Hid (w.grownBy w3 (some sb)):=Gw2.out.trans hg
        have Rw3:Hid (RB w3 w.heap.size):=Rw2.out.grown hg (by simp;have:=HLT.out;omega)
        clear hS hg
        have hc9:rw3=0∨(rw3=1∨rw3=2)∨rw3=3∨rw3=4∨rw3=5∨rw3=6∨rw3=7∨rw3=8:=by omega
        rcases hc9 with rfl|(rfl|rfl)|rfl|rfl|rfl|rfl|rfl|rfl
        · go_wp2_with fail
          refine (IHD.out sb v n (t+1+1+1) sc kind DI w3 Sw3.out (by omega) HS.out HK.out HDI.out).mono ?_
          rintro e k1w ⟨c1,rfl,hp,hc,⟨⟨t1,ha1,hb1,hS⟩,hg⟩⟩
          have P1:=Lib.hid hp
          have Sk1w:=Lib.hid hS
          have Gk1w:Hid (w.grownBy k1w (some sb)):=Gw3.out.trans hg
          have Rk1w:Hid (RB k1w w.heap.size):=Rw3.out.grown hg (by simp;have:=HLT.out;omega)
          have C1:Hid (ChAt k1w (w.heap.size+1) c1):=hc.mono Rw3.out.lt
          clear hp hc hS hg
          go_wp2_with fail
          have BA:Hid (Below k1w.heap.size k1w (k1w.alloc (.cells #[.int .i64 c1.a.op,.int .i64 c1.a.num,.string c1.a.name,.slice c1.a.ptr (len c1.k) c1.a.cap] 24))):=(Below.refl _ _).alloc (Nat.le_refl _) _
          have RN:=Lib.hid (row_new (w:=k1w) (B0:=w.heap.size+1) [c1] (by intro c hc;simp only [List.mem_cons,List.not_mem_nil,or_false] at hc;subst hc;exact C1.out) Rk1w.out.lt 24 #[.int .i64 c1.a.op,.int .i64 c1.a.num,.string c1.a.name,.slice c1.a.ptr (len c1.k) c1.a.cap] rfl)
          generalize k1w.alloc (.cells #[.int .i64 c1.a.op,.int .i64 c1.a.num,.string c1.a.name,.slice c1.a.ptr (len c1.k) c1.a.cap] 24)=wa at *
          refine (bnode_any 7 _ 1 1 wa).mono ?_
          rintro e wq ⟨rfl,hb⟩
          have SX:=Lib.hid ((Sk1w.out.next BA.out).next hb)
          have GX:Hid (w.grownBy wq (some sb)):=grw_below (grw_below Gk1w.out (BA.out.mono Gk1w.out.size)) (hb.mono (Nat.le_trans Gk1w.out.size BA.out.size))
          have RX:Hid (RB wq w.heap.size):=(Rk1w.out.next BA.out).next hb
          have FX:Hid (FoAt wq (rowF [c1]) k1w.heap.size 0):=RN.out.1.next hb
          clear hb
          obtain ⟨⟨u0,q0⟩,⟨u1,q1⟩,⟨u2,q2⟩,⟨u3,q3⟩,f0,f1,f2,f3,rlt⟩:=RX.out
          go_wp2
          refine bodyPost_ret (v:=.agg #[.int .i64 7,.int .i64 0,.string ⟨#[]⟩,.slice (some ⟨k1w.heap.size,0,none⟩) 1 1]) ?_ rfl ⟨⟨k1w.heap.size,0,⟨7,0,⟨#[]⟩,some ⟨k1w.heap.size,0,none⟩,1⟩,rowF [c1]⟩,rfl,plain_node sc d [c1] [kind] 7 kind ⟨P1.out,trivial⟩ (by simp) (by omega) rfl (by rcases KN with rfl|rfl<;>rfl) hk0.out _ _,ch_four ⟨⟨fun _=>rfl,FX.out⟩,RN.out.2⟩,bp_store SX.out GX.out RX.out.lt' HLT.out (by omega) (by omega) below_four⟩
          rw [results_cell1 rfl]
          go_simp
        · go_wp2_with fail
          refine (IHD.out sb v n (t+1+1+1) sc kind DI w3 Sw3.out (by omega) HS.out HK.out HDI.out).mono ?_
          rintro e k1w ⟨c1,rfl,hp,hc,⟨⟨t1,ha1,hb1,hS⟩,hg⟩⟩
          have P1:=Lib.hid hp
          have Sk1w:=Lib.hid hS
          have Gk1w:Hid (w.grownBy k1w (some sb)):=Gw3.out.trans hg
          have Rk1w:Hid (RB k1w w.heap.size):=Rw3.out.grown hg (by simp;have:=HLT.out;omega)
          have C1:Hid (ChAt k1w (w.heap.size+1) c1):=hc.mono Rw3.out.lt
          clear hp hc hS hg
          go_wp2_with fail
          refine (IHD.out sb v n (t1) sc kind DI k1w Sk1w.out (by omega) HS.out HK.out HDI.out).mono ?_
          rintro e k2w ⟨c2,rfl,hp,hc,⟨⟨t2,ha2,hb2,hS⟩,hg⟩⟩
          have P2:=Lib.hid hp
          have Sk2w:=Lib.hid hS
          have Gk2w:Hid (w.grownBy k2w (some sb)):=Gk1w.out.trans hg
          have Rk2w:Hid (RB k2w w.heap.size):=Rk1w.out.grown hg (by simp;have:=HLT.out;omega)
          have C2:Hid (ChAt k2w (w.heap.size+1) c2):=hc.mono Rk1w.out.lt
          have C1:=Lib.hid (C1.out.grown (by have:=HLT.out;omega) hg)
          clear hp hc hS hg
          go_wp2_with fail
          have BA:Hid (Below k2w.heap.size k2w (k2w.alloc (.cells #[.int .i64 c1.a.op,.int .i64 c1.a.num,.string c1.a.name,.slice c1.a.ptr (len c1.k) c1.a.cap,.int .i64 c2.a.op,.int .i64 c2.a.num,.string c2.a.name,.slice c2.a.ptr (len c2.k) c2.a.cap] 24))):=(Below.refl _ _).alloc (Nat.le_refl _) _
          have RN:=Lib.hid (row_new (w:=k2w) (B0:=w.heap.size+1) [c1,c2] (by intro c hc;simp only [List.mem_cons,List.not_mem_nil,or_false] at hc;rcases hc with rfl|rfl;exact C1.out;exact C2.out) Rk2w.out.lt 24 #[.int .i64 c1.a.op,.int .i64 c1.a.num,.string c1.a.name,.slice c1.a.ptr (len c1.k) c1.a.cap,.int .i64 c2.a.op,.int .i64 c2.a.num,.string c2.a.name,.slice c2.a.ptr (len c2.k) c2.a.cap] rfl)
          generalize k2w.alloc (.cells #[.int .i64 c1.a.op,.int .i64 c1.a.num,.string c1.a.name,.slice c1.a.ptr (len c1.k) c1.a.cap,.int .i64 c2.a.op,.int .i64 c2.a.num,.string c2.a.name,.slice c2.a.ptr (len c2.k) c2.a.cap] 24)=wa at *
          refine (bnode_any 8 _ 2 2 wa).mono ?_
          rintro e wq ⟨rfl,hb⟩
          have SX:=Lib.hid ((Sk2w.out.next BA.out).next hb)
          have GX:Hid (w.grownBy wq (some sb)):=grw_below (grw_below Gk2w.out (BA.out.mono Gk2w.out.size)) (hb.mono (Nat.le_trans Gk2w.out.size BA.out.size))
          have RX:Hid (RB wq w.heap.size):=(Rk2w.out.next BA.out).next hb
          have FX:Hid (FoAt wq (rowF [c1,c2]) k2w.heap.size 0):=RN.out.1.next hb
          clear hb
          obtain ⟨⟨u0,q0⟩,⟨u1,q1⟩,⟨u2,q2⟩,⟨u3,q3⟩,f0,f1,f2,f3,rlt⟩:=RX.out
          go_wp2
          refine bodyPost_ret (v:=.agg #[.int .i64 8,.int .i64 0,.string ⟨#[]⟩,.slice (some ⟨k2w.heap.size,0,none⟩) 2 2]) ?_ rfl ⟨⟨k2w.heap.size,0,⟨8,0,⟨#[]⟩,some ⟨k2w.heap.size,0,none⟩,2⟩,rowF [c1,c2]⟩,rfl,plain_node sc d [c1,c2] [kind,kind] 8 kind ⟨P1.out,P2.out,trivial⟩ (by simp) (by omega) rfl (by rcases KN with rfl|rfl<;>rfl) hk0.out _ _,ch_four ⟨⟨fun _=>rfl,FX.out⟩,RN.out.2⟩,bp_store SX.out GX.out RX.out.lt' HLT.out (by omega) (by omega) below_four⟩
          rw [results_cell1 rfl]
          go_simp
        · go_wp2_with fail
          refine (IHD.out sb v n (t+1+1+1) sc kind DI w3 Sw3.out (by omega) HS.out HK.out HDI.out).mono ?_
          rintro e k1w ⟨c1,rfl,hp,hc,⟨⟨t1,ha1,hb1,hS⟩,hg⟩⟩
          have P1:=Lib.hid hp
          have Sk1w:=Lib.hid hS
          have Gk1w:Hid (w.grownBy k1w (some sb)):=Gw3.out.trans hg
          have Rk1w:Hid (RB k1w w.heap.size):=Rw3.out.grown hg (by simp;have:=HLT.out;omega)
          have C1:Hid (ChAt k1w (w.heap.size+1) c1):=hc.mono Rw3.out.lt
          clear hp hc hS hg
          go_wp2_with fail
          refine (IHD.out sb v n (t1) sc kind DI k1w Sk1w.out (by omega) HS.out HK.out HDI.out).mono ?_
          rintro e k2w ⟨c2,rfl,hp,hc,⟨⟨t2,ha2,hb2,hS⟩,hg⟩⟩
          have P2:=Lib.hid hp
          have Sk2w:=Lib.hid hS
          have Gk2w:Hid (w.grownBy k2w (some sb)):=Gk1w.out.trans hg
          have Rk2w:Hid (RB k2w w.heap.size):=Rk1w.out.grown hg (by simp;have:=HLT.out;omega)
          have C2:Hid (ChAt k2w (w.heap.size+1) c2):=hc.mono Rk1w.out.lt
          have C1:=Lib.hid (C1.out.grown (by have:=HLT.out;omega) hg)
          clear hp hc hS hg
          go_wp2_with fail
          have BA:Hid (Below k2w.heap.size k2w (k2w.alloc (.cells #[.int .i64 c1.a.op,.int .i64 c1.a.num,.string c1.a.name,.slice c1.a.ptr (len c1.k) c1.a.cap,.int .i64 c2.a.op,.int .i64 c2.a.num,.string c2.a.name,.slice c2.a.ptr (len c2.k) c2.a.cap] 24))):=(Below.refl _ _).alloc (Nat.le_refl _) _
          have RN:=Lib.hid (row_new (w:=k2w) (B0:=w.heap.size+1) [c1,c2] (by intro c hc;simp only [List.mem_cons,List.not_mem_nil,or_false] at hc;rcases hc with rfl|rfl;exact C1.out;exact C2.out) Rk2w.out.lt 24 #[.int .i64 c1.a.op,.int .i64 c1.a.num,.string c1.a.name,.slice c1.a.ptr (len c1.k) c1.a.cap,.int .i64 c2.a.op,.int .i64 c2.a.num,.string c2.a.name,.slice c2.a.ptr (len c2.k) c2.a.cap] rfl)
          generalize k2w.alloc (.cells #[.int .i64 c1.a.op,.int .i64 c1.a.num,.string c1.a.name,.slice c1.a.ptr (len c1.k) c1.a.cap,.int .i64 c2.a.op,.int .i64 c2.a.num,.string c2.a.name,.slice c2.a.ptr (len c2.k) c2.a.cap] 24)=wa at *
          refine (bnode_any 8 _ 2 2 wa).mono ?_
          rintro e wq ⟨rfl,hb⟩
          have SX:=Lib.hid ((Sk2w.out.next BA.out).next hb)
          have GX:Hid (w.grownBy wq (some sb)):=grw_below (grw_below Gk2w.out (BA.out.mono Gk2w.out.size)) (hb.mono (Nat.le_trans Gk2w.out.size BA.out.size))
          have RX:Hid (RB wq w.heap.size):=(Rk2w.out.next BA.out).next hb
          have FX:Hid (FoAt wq (rowF [c1,c2]) k2w.heap.size 0):=RN.out.1.next hb
          clear hb
          obtain ⟨⟨u0,q0⟩,⟨u1,q1⟩,⟨u2,q2⟩,⟨u3,q3⟩,f0,f1,f2,f3,rlt⟩:=RX.out
          go_wp2
          refine bodyPost_ret (v:=.agg #[.int .i64 8,.int .i64 0,.string ⟨#[]⟩,.slice (some ⟨k2w.heap.size,0,none⟩) 2 2]) ?_ rfl ⟨⟨k2w.heap.size,0,⟨8,0,⟨#[]⟩,some ⟨k2w.heap.size,0,none⟩,2⟩,rowF [c1,c2]⟩,rfl,plain_node sc d [c1,c2] [kind,kind] 8 kind ⟨P1.out,P2.out,trivial⟩ (by simp) (by omega) rfl (by rcases KN with rfl|rfl<;>rfl) hk0.out _ _,ch_four ⟨⟨fun _=>rfl,FX.out⟩,RN.out.2⟩,bp_store SX.out GX.out RX.out.lt' HLT.out (by omega) (by omega) below_four⟩
          rw [results_cell1 rfl]
          go_simp
        · go_wp2_with fail
          refine (IHD.out sb v n (t+1+1+1) sc kind DI w3 Sw3.out (by omega) HS.out HK.out HDI.out).mono ?_
          rintro e k1w ⟨c1,rfl,hp,hc,⟨⟨t1,ha1,hb1,hS⟩,hg⟩⟩
          have P1:=Lib.hid hp
          have Sk1w:=Lib.hid hS
          have Gk1w:Hid (w.grownBy k1w (some sb)):=Gw3.out.trans hg
          have Rk1w:Hid (RB k1w w.heap.size):=Rw3.out.grown hg (by simp;have:=HLT.out;omega)
          have C1:Hid (ChAt k1w (w.heap.size+1) c1):=hc.mono Rw3.out.lt
          clear hp hc hS hg
          go_wp2_with fail
          refine (IHD.out sb v n (t1) sc kind DI k1w Sk1w.out (by omega) HS.out HK.out HDI.out).mono ?_
          rintro e k2w ⟨c2,rfl,hp,hc,⟨⟨t2,ha2,hb2,hS⟩,hg⟩⟩
          have P2:=Lib.hid hp
          have Sk2w:=Lib.hid hS
          have Gk2w:Hid (w.grownBy k2w (some sb)):=Gk1w.out.trans hg
          have Rk2w:Hid (RB k2w w.heap.size):=Rk1w.out.grown hg (by simp;have:=HLT.out;omega)
          have C2:Hid (ChAt k2w (w.heap.size+1) c2):=hc.mono Rk1w.out.lt
          have C1:=Lib.hid (C1.out.grown (by have:=HLT.out;omega) hg)
          clear hp hc hS hg
          go_wp2_with fail
          have BA:Hid (Below k2w.heap.size k2w (k2w.alloc (.cells #[.int .i64 c1.a.op,.int .i64 c1.a.num,.string c1.a.name,.slice c1.a.ptr (len c1.k) c1.a.cap,.int .i64 c2.a.op,.int .i64 c2.a.num,.string c2.a.name,.slice c2.a.ptr (len c2.k) c2.a.cap] 24))):=(Below.refl _ _).alloc (Nat.le_refl _) _
          have RN:=Lib.hid (row_new (w:=k2w) (B0:=w.heap.size+1) [c1,c2] (by intro c hc;simp only [List.mem_cons,List.not_mem_nil,or_false] at hc;rcases hc with rfl|rfl;exact C1.out;exact C2.out) Rk2w.out.lt 24 #[.int .i64 c1.a.op,.int .i64 c1.a.num,.string c1.a.name,.slice c1.a.ptr (len c1.k) c1.a.cap,.int .i64 c2.a.op,.int .i64 c2.a.num,.string c2.a.name,.slice c2.a.ptr (len c2.k) c2.a.cap] rfl)
          generalize k2w.alloc (.cells #[.int .i64 c1.a.op,.int .i64 c1.a.num,.string c1.a.name,.slice c1.a.ptr (len c1.k) c1.a.cap,.int .i64 c2.a.op,.int .i64 c2.a.num,.string c2.a.name,.slice c2.a.ptr (len c2.k) c2.a.cap] 24)=wa at *
          refine (bnode_any 9 _ 2 2 wa).mono ?_
          rintro e wq ⟨rfl,hb⟩
          have SX:=Lib.hid ((Sk2w.out.next BA.out).next hb)
          have GX:Hid (w.grownBy wq (some sb)):=grw_below (grw_below Gk2w.out (BA.out.mono Gk2w.out.size)) (hb.mono (Nat.le_trans Gk2w.out.size BA.out.size))
          have RX:Hid (RB wq w.heap.size):=(Rk2w.out.next BA.out).next hb
          have FX:Hid (FoAt wq (rowF [c1,c2]) k2w.heap.size 0):=RN.out.1.next hb
          clear hb
          obtain ⟨⟨u0,q0⟩,⟨u1,q1⟩,⟨u2,q2⟩,⟨u3,q3⟩,f0,f1,f2,f3,rlt⟩:=RX.out
          go_wp2
          refine bodyPost_ret (v:=.agg #[.int .i64 9,.int .i64 0,.string ⟨#[]⟩,.slice (some ⟨k2w.heap.size,0,none⟩) 2 2]) ?_ rfl ⟨⟨k2w.heap.size,0,⟨9,0,⟨#[]⟩,some ⟨k2w.heap.size,0,none⟩,2⟩,rowF [c1,c2]⟩,rfl,plain_node sc d [c1,c2] [kind,kind] 9 kind ⟨P1.out,P2.out,trivial⟩ (by simp) (by omega) rfl (by rcases KN with rfl|rfl<;>rfl) hk0.out _ _,ch_four ⟨⟨fun _=>rfl,FX.out⟩,RN.out.2⟩,bp_store SX.out GX.out RX.out.lt' HLT.out (by omega) (by omega) below_four⟩
          rw [results_cell1 rfl]
          go_simp
        · go_wp2_with fail
          refine (IHD.out sb v n (t+1+1+1) sc 1 DI w3 Sw3.out (by omega) HS.out (by omega) HDI.out).mono ?_
          rintro e k1w ⟨c1,rfl,hp,hc,⟨⟨t1,ha1,hb1,hS⟩,hg⟩⟩
          have P1:=Lib.hid hp
          have Sk1w:=Lib.hid hS
          have Gk1w:Hid (w.grownBy k1w (some sb)):=Gw3.out.trans hg
          have Rk1w:Hid (RB k1w w.heap.size):=Rw3.out.grown hg (by simp;have:=HLT.out;omega)
          have C1:Hid (ChAt k1w (w.heap.size+1) c1):=hc.mono Rw3.out.lt
          clear hp hc hS hg
          go_wp2_with fail
          refine (IHD.out sb v n (t1) sc kind DI k1w Sk1w.out (by omega) HS.out HK.out HDI.out).mono ?_
          rintro e k2w ⟨c2,rfl,hp,hc,⟨⟨t2,ha2,hb2,hS⟩,hg⟩⟩
          have P2:=Lib.hid hp
          have Sk2w:=Lib.hid hS
          have Gk2w:Hid (w.grownBy k2w (some sb)):=Gk1w.out.trans hg
          have Rk2w:Hid (RB k2w w.heap.size):=Rk1w.out.grown hg (by simp;have:=HLT.out;omega)
          have C2:Hid (ChAt k2w (w.heap.size+1) c2):=hc.mono Rk1w.out.lt
          have C1:=Lib.hid (C1.out.grown (by have:=HLT.out;omega) hg)
          clear hp hc hS hg
          go_wp2_with fail
          have BA:Hid (Below k2w.heap.size k2w (k2w.alloc (.cells #[.int .i64 c1.a.op,.int .i64 c1.a.num,.string c1.a.name,.slice c1.a.ptr (len c1.k) c1.a.cap,.int .i64 c2.a.op,.int .i64 c2.a.num,.string c2.a.name,.slice c2.a.ptr (len c2.k) c2.a.cap] 24))):=(Below.refl _ _).alloc (Nat.le_refl _) _
          have RN:=Lib.hid (row_new (w:=k2w) (B0:=w.heap.size+1) [c1,c2] (by intro c hc;simp only [List.mem_cons,List.not_mem_nil,or_false] at hc;rcases hc with rfl|rfl;exact C1.out;exact C2.out) Rk2w.out.lt 24 #[.int .i64 c1.a.op,.int .i64 c1.a.num,.string c1.a.name,.slice c1.a.ptr (len c1.k) c1.a.cap,.int .i64 c2.a.op,.int .i64 c2.a.num,.string c2.a.name,.slice c2.a.ptr (len c2.k) c2.a.cap] rfl)
          generalize k2w.alloc (.cells #[.int .i64 c1.a.op,.int .i64 c1.a.num,.string c1.a.name,.slice c1.a.ptr (len c1.k) c1.a.cap,.int .i64 c2.a.op,.int .i64 c2.a.num,.string c2.a.name,.slice c2.a.ptr (len c2.k) c2.a.cap] 24)=wa at *
          refine (bnode_any 10 _ 2 2 wa).mono ?_
          rintro e wq ⟨rfl,hb⟩
          have SX:=Lib.hid ((Sk2w.out.next BA.out).next hb)
          have GX:Hid (w.grownBy wq (some sb)):=grw_below (grw_below Gk2w.out (BA.out.mono Gk2w.out.size)) (hb.mono (Nat.le_trans Gk2w.out.size BA.out.size))
          have RX:Hid (RB wq w.heap.size):=(Rk2w.out.next BA.out).next hb
          have FX:Hid (FoAt wq (rowF [c1,c2]) k2w.heap.size 0):=RN.out.1.next hb
          clear hb
          obtain ⟨⟨u0,q0⟩,⟨u1,q1⟩,⟨u2,q2⟩,⟨u3,q3⟩,f0,f1,f2,f3,rlt⟩:=RX.out
          go_wp2
          refine bodyPost_ret (v:=.agg #[.int .i64 10,.int .i64 0,.string ⟨#[]⟩,.slice (some ⟨k2w.heap.size,0,none⟩) 2 2]) ?_ rfl ⟨⟨k2w.heap.size,0,⟨10,0,⟨#[]⟩,some ⟨k2w.heap.size,0,none⟩,2⟩,rowF [c1,c2]⟩,rfl,plain_node sc d [c1,c2] [1,kind] 10 kind ⟨P1.out,P2.out,trivial⟩ (by simp) (by omega) rfl (by rcases KN with rfl|rfl<;>rfl) hk0.out _ _,ch_four ⟨⟨fun _=>rfl,FX.out⟩,RN.out.2⟩,bp_store SX.out GX.out RX.out.lt' HLT.out (by omega) (by omega) below_four⟩
          rw [results_cell1 rfl]
          go_simp
        · go_wp2_with fail
          refine (IHD.out sb v n (t+1+1+1) sc kind DI w3 Sw3.out (by omega) HS.out HK.out HDI.out).mono ?_
          rintro e k1w ⟨c1,rfl,hp,hc,⟨⟨t1,ha1,hb1,hS⟩,hg⟩⟩
          have P1:=Lib.hid hp
          have Sk1w:=Lib.hid hS
          have Gk1w:Hid (w.grownBy k1w (some sb)):=Gw3.out.trans hg
          have Rk1w:Hid (RB k1w w.heap.size):=Rw3.out.grown hg (by simp;have:=HLT.out;omega)
          have C1:Hid (ChAt k1w (w.heap.size+1) c1):=hc.mono Rw3.out.lt
          clear hp hc hS hg
          go_wp2_with fail
          refine (IHD.out sb v n (t1) sc 1 DI k1w Sk1w.out (by omega) HS.out (by omega) HDI.out).mono ?_
          rintro e k2w ⟨c2,rfl,hp,hc,⟨⟨t2,ha2,hb2,hS⟩,hg⟩⟩
          have P2:=Lib.hid hp
          have Sk2w:=Lib.hid hS
          have Gk2w:Hid (w.grownBy k2w (some sb)):=Gk1w.out.trans hg
          have Rk2w:Hid (RB k2w w.heap.size):=Rk1w.out.grown hg (by simp;have:=HLT.out;omega)
          have C2:Hid (ChAt k2w (w.heap.size+1) c2):=hc.mono Rk1w.out.lt
          have C1:=Lib.hid (C1.out.grown (by have:=HLT.out;omega) hg)
          clear hp hc hS hg
          go_wp2_with fail
          have BA:Hid (Below k2w.heap.size k2w (k2w.alloc (.cells #[.int .i64 c1.a.op,.int .i64 c1.a.num,.string c1.a.name,.slice c1.a.ptr (len c1.k) c1.a.cap,.int .i64 c2.a.op,.int .i64 c2.a.num,.string c2.a.name,.slice c2.a.ptr (len c2.k) c2.a.cap] 24))):=(Below.refl _ _).alloc (Nat.le_refl _) _
          have RN:=Lib.hid (row_new (w:=k2w) (B0:=w.heap.size+1) [c1,c2] (by intro c hc;simp only [List.mem_cons,List.not_mem_nil,or_false] at hc;rcases hc with rfl|rfl;exact C1.out;exact C2.out) Rk2w.out.lt 24 #[.int .i64 c1.a.op,.int .i64 c1.a.num,.string c1.a.name,.slice c1.a.ptr (len c1.k) c1.a.cap,.int .i64 c2.a.op,.int .i64 c2.a.num,.string c2.a.name,.slice c2.a.ptr (len c2.k) c2.a.cap] rfl)
          generalize k2w.alloc (.cells #[.int .i64 c1.a.op,.int .i64 c1.a.num,.string c1.a.name,.slice c1.a.ptr (len c1.k) c1.a.cap,.int .i64 c2.a.op,.int .i64 c2.a.num,.string c2.a.name,.slice c2.a.ptr (len c2.k) c2.a.cap] 24)=wa at *
          refine (bnode_any 11 _ 2 2 wa).mono ?_
          rintro e wq ⟨rfl,hb⟩
          have SX:=Lib.hid ((Sk2w.out.next BA.out).next hb)
          have GX:Hid (w.grownBy wq (some sb)):=grw_below (grw_below Gk2w.out (BA.out.mono Gk2w.out.size)) (hb.mono (Nat.le_trans Gk2w.out.size BA.out.size))
          have RX:Hid (RB wq w.heap.size):=(Rk2w.out.next BA.out).next hb
          have FX:Hid (FoAt wq (rowF [c1,c2]) k2w.heap.size 0):=RN.out.1.next hb
          clear hb
          obtain ⟨⟨u0,q0⟩,⟨u1,q1⟩,⟨u2,q2⟩,⟨u3,q3⟩,f0,f1,f2,f3,rlt⟩:=RX.out
          go_wp2
          refine bodyPost_ret (v:=.agg #[.int .i64 11,.int .i64 0,.string ⟨#[]⟩,.slice (some ⟨k2w.heap.size,0,none⟩) 2 2]) ?_ rfl ⟨⟨k2w.heap.size,0,⟨11,0,⟨#[]⟩,some ⟨k2w.heap.size,0,none⟩,2⟩,rowF [c1,c2]⟩,rfl,plain_node sc d [c1,c2] [kind,1] 11 kind ⟨P1.out,P2.out,trivial⟩ (by simp) (by omega) rfl (by rcases KN with rfl|rfl<;>rfl) hk0.out _ _,ch_four ⟨⟨fun _=>rfl,FX.out⟩,RN.out.2⟩,bp_store SX.out GX.out RX.out.lt' HLT.out (by omega) (by omega) below_four⟩
          rw [results_cell1 rfl]
          go_simp
        · go_wp2_with fail
          refine (IHD.out sb v n (t+1+1+1) sc kind DI w3 Sw3.out (by omega) HS.out HK.out HDI.out).mono ?_
          rintro e k1w ⟨c1,rfl,hp,hc,⟨⟨t1,ha1,hb1,hS⟩,hg⟩⟩
          have P1:=Lib.hid hp
          have Sk1w:=Lib.hid hS
          have Gk1w:Hid (w.grownBy k1w (some sb)):=Gw3.out.trans hg
          have Rk1w:Hid (RB k1w w.heap.size):=Rw3.out.grown hg (by simp;have:=HLT.out;omega)
          have C1:Hid (ChAt k1w (w.heap.size+1) c1):=hc.mono Rw3.out.lt
          clear hp hc hS hg
          go_wp2_with fail
          refine (IHD.out sb v n (t1) sc kind DI k1w Sk1w.out (by omega) HS.out HK.out HDI.out).mono ?_
          rintro e k2w ⟨c2,rfl,hp,hc,⟨⟨t2,ha2,hb2,hS⟩,hg⟩⟩
          have P2:=Lib.hid hp
          have Sk2w:=Lib.hid hS
          have Gk2w:Hid (w.grownBy k2w (some sb)):=Gk1w.out.trans hg
          have Rk2w:Hid (RB k2w w.heap.size):=Rk1w.out.grown hg (by simp;have:=HLT.out;omega)
          have C2:Hid (ChAt k2w (w.heap.size+1) c2):=hc.mono Rk1w.out.lt
          have C1:=Lib.hid (C1.out.grown (by have:=HLT.out;omega) hg)
          clear hp hc hS hg
          go_wp2_with fail
          have BA:Hid (Below k2w.heap.size k2w (k2w.alloc (.cells #[.int .i64 c1.a.op,.int .i64 c1.a.num,.string c1.a.name,.slice c1.a.ptr (len c1.k) c1.a.cap,.int .i64 c2.a.op,.int .i64 c2.a.num,.string c2.a.name,.slice c2.a.ptr (len c2.k) c2.a.cap] 24))):=(Below.refl _ _).alloc (Nat.le_refl _) _
          have RN:=Lib.hid (row_new (w:=k2w) (B0:=w.heap.size+1) [c1,c2] (by intro c hc;simp only [List.mem_cons,List.not_mem_nil,or_false] at hc;rcases hc with rfl|rfl;exact C1.out;exact C2.out) Rk2w.out.lt 24 #[.int .i64 c1.a.op,.int .i64 c1.a.num,.string c1.a.name,.slice c1.a.ptr (len c1.k) c1.a.cap,.int .i64 c2.a.op,.int .i64 c2.a.num,.string c2.a.name,.slice c2.a.ptr (len c2.k) c2.a.cap] rfl)
          generalize k2w.alloc (.cells #[.int .i64 c1.a.op,.int .i64 c1.a.num,.string c1.a.name,.slice c1.a.ptr (len c1.k) c1.a.cap,.int .i64 c2.a.op,.int .i64 c2.a.num,.string c2.a.name,.slice c2.a.ptr (len c2.k) c2.a.cap] 24)=wa at *
          refine (bnode_any 12 _ 2 2 wa).mono ?_
          rintro e wq ⟨rfl,hb⟩
          have SX:=Lib.hid ((Sk2w.out.next BA.out).next hb)
          have GX:Hid (w.grownBy wq (some sb)):=grw_below (grw_below Gk2w.out (BA.out.mono Gk2w.out.size)) (hb.mono (Nat.le_trans Gk2w.out.size BA.out.size))
          have RX:Hid (RB wq w.heap.size):=(Rk2w.out.next BA.out).next hb
          have FX:Hid (FoAt wq (rowF [c1,c2]) k2w.heap.size 0):=RN.out.1.next hb
          clear hb
          obtain ⟨⟨u0,q0⟩,⟨u1,q1⟩,⟨u2,q2⟩,⟨u3,q3⟩,f0,f1,f2,f3,rlt⟩:=RX.out
          go_wp2
          refine bodyPost_ret (v:=.agg #[.int .i64 12,.int .i64 0,.string ⟨#[]⟩,.slice (some ⟨k2w.heap.size,0,none⟩) 2 2]) ?_ rfl ⟨⟨k2w.heap.size,0,⟨12,0,⟨#[]⟩,some ⟨k2w.heap.size,0,none⟩,2⟩,rowF [c1,c2]⟩,rfl,plain_node sc d [c1,c2] [kind,kind] 12 kind ⟨P1.out,P2.out,trivial⟩ (by simp) (by omega) rfl (by rcases KN with rfl|rfl<;>rfl) hk0.out _ _,ch_four ⟨⟨fun _=>rfl,FX.out⟩,RN.out.2⟩,bp_store SX.out GX.out RX.out.lt' HLT.out (by omega) (by omega) below_four⟩
          rw [results_cell1 rfl]
          go_simp
        · go_wp2_with fail
          refine (IHD.out sb v n (t+1+1+1) sc kind DI w3 Sw3.out (by omega) HS.out HK.out HDI.out).mono ?_
          rintro e k1w ⟨c1,rfl,hp,hc,⟨⟨t1,ha1,hb1,hS⟩,hg⟩⟩
          have P1:=Lib.hid hp
          have Sk1w:=Lib.hid hS
          have Gk1w:Hid (w.grownBy k1w (some sb)):=Gw3.out.trans hg
          have Rk1w:Hid (RB k1w w.heap.size):=Rw3.out.grown hg (by simp;have:=HLT.out;omega)
          have C1:Hid (ChAt k1w (w.heap.size+1) c1):=hc.mono Rw3.out.lt
          clear hp hc hS hg
          go_wp2_with fail
          refine (IHD.out sb v n (t1) sc kind DI k1w Sk1w.out (by omega) HS.out HK.out HDI.out).mono ?_
          rintro e k2w ⟨c2,rfl,hp,hc,⟨⟨t2,ha2,hb2,hS⟩,hg⟩⟩
          have P2:=Lib.hid hp
          have Sk2w:=Lib.hid hS
          have Gk2w:Hid (w.grownBy k2w (some sb)):=Gk1w.out.trans hg
          have Rk2w:Hid (RB k2w w.heap.size):=Rk1w.out.grown hg (by simp;have:=HLT.out;omega)
          have C2:Hid (ChAt k2w (w.heap.size+1) c2):=hc.mono Rk1w.out.lt
          have C1:=Lib.hid (C1.out.grown (by have:=HLT.out;omega) hg)
          clear hp hc hS hg
          go_wp2_with fail
          refine (IH1.out sb v n (t2) sc kind 1 k2w Sk2w.out (by omega) HS.out HK.out rfl).mono ?_
          rintro e k3w ⟨c3,rfl,hp,hc,⟨⟨t3,ha3,hb3,hS⟩,hg⟩⟩
          have P3:=Lib.hid hp
          have Sk3w:=Lib.hid hS
          have Gk3w:Hid (w.grownBy k3w (some sb)):=Gk2w.out.trans hg
          have Rk3w:Hid (RB k3w w.heap.size):=Rk2w.out.grown hg (by simp;have:=HLT.out;omega)
          have C3:Hid (ChAt k3w (w.heap.size+1) c3):=hc.mono Rk2w.out.lt
          have C1:=Lib.hid (C1.out.grown (by have:=HLT.out;omega) hg)
          have C2:=Lib.hid (C2.out.grown (by have:=HLT.out;omega) hg)
          clear hp hc hS hg
          go_wp2_with fail
          have BA:Hid (Below k3w.heap.size k3w (k3w.alloc (.cells #[.int .i64 c1.a.op,.int .i64 c1.a.num,.string c1.a.name,.slice c1.a.ptr (len c1.k) c1.a.cap,.int .i64 c2.a.op,.int .i64 c2.a.num,.string c2.a.name,.slice c2.a.ptr (len c2.k) c2.a.cap,.int .i64 c3.a.op,.int .i64 c3.a.num,.string c3.a.name,.slice c3.a.ptr (len c3.k) c3.a.cap] 24))):=(Below.refl _ _).alloc (Nat.le_refl _) _
          have RN:=Lib.hid (row_new (w:=k3w) (B0:=w.heap.size+1) [c1,c2,c3] (by intro c hc;simp only [List.mem_cons,List.not_mem_nil,or_false] at hc;rcases hc with rfl|rfl|rfl;exact C1.out;exact C2.out;exact C3.out) Rk3w.out.lt 24 #[.int .i64 c1.a.op,.int .i64 c1.a.num,.string c1.a.name,.slice c1.a.ptr (len c1.k) c1.a.cap,.int .i64 c2.a.op,.int .i64 c2.a.num,.string c2.a.name,.slice c2.a.ptr (len c2.k) c2.a.cap,.int .i64 c3.a.op,.int .i64 c3.a.num,.string c3.a.name,.slice c3.a.ptr (len c3.k) c3.a.cap] rfl)
          generalize k3w.alloc (.cells #[.int .i64 c1.a.op,.int .i64 c1.a.num,.string c1.a.name,.slice c1.a.ptr (len c1.k) c1.a.cap,.int .i64 c2.a.op,.int .i64 c2.a.num,.string c2.a.name,.slice c2.a.ptr (len c2.k) c2.a.cap,.int .i64 c3.a.op,.int .i64 c3.a.num,.string c3.a.name,.slice c3.a.ptr (len c3.k) c3.a.cap] 24)=wa at *
          refine (bnode_any 13 _ 3 3 wa).mono ?_
          rintro e wq ⟨rfl,hb⟩
          have SX:=Lib.hid ((Sk3w.out.next BA.out).next hb)
          have GX:Hid (w.grownBy wq (some sb)):=grw_below (grw_below Gk3w.out (BA.out.mono Gk3w.out.size)) (hb.mono (Nat.le_trans Gk3w.out.size BA.out.size))
          have RX:Hid (RB wq w.heap.size):=(Rk3w.out.next BA.out).next hb
          have FX:Hid (FoAt wq (rowF [c1,c2,c3]) k3w.heap.size 0):=RN.out.1.next hb
          clear hb
          obtain ⟨⟨u0,q0⟩,⟨u1,q1⟩,⟨u2,q2⟩,⟨u3,q3⟩,f0,f1,f2,f3,rlt⟩:=RX.out
          go_wp2
          refine bodyPost_ret (v:=.agg #[.int .i64 13,.int .i64 0,.string ⟨#[]⟩,.slice (some ⟨k3w.heap.size,0,none⟩) 3 3]) ?_ rfl ⟨⟨k3w.heap.size,0,⟨13,0,⟨#[]⟩,some ⟨k3w.heap.size,0,none⟩,3⟩,rowF [c1,c2,c3]⟩,rfl,plain_node sc d [c1,c2,c3] [kind,kind,kind] 13 kind ⟨P1.out,P2.out,P3.out.mono (by omega),trivial⟩ (by simp) (by omega) rfl (by rcases KN with rfl|rfl<;>rfl) hk0.out _ _,ch_four ⟨⟨fun _=>rfl,FX.out⟩,RN.out.2⟩,bp_store SX.out GX.out RX.out.lt' HLT.out (by omega) (by omega) below_four⟩
          rw [results_cell1 rfl]
          go_simp
        · by_cases e1:kind=1
          · have c1:(kind==1)=true:=by simp [e1]
            go_wp2_with fail
            refine (IHD.out sb v n (t+1+1+1) sc 2 DI w3 Sw3.out (by omega) HS.out (by omega) HDI.out).mono ?_
            rintro e k1w ⟨c1,rfl,hp,hc,⟨⟨t1,ha1,hb1,hS⟩,hg⟩⟩
            have P1:=Lib.hid hp
            have Sk1w:=Lib.hid hS
            have Gk1w:Hid (w.grownBy k1w (some sb)):=Gw3.out.trans hg
            have Rk1w:Hid (RB k1w w.heap.size):=Rw3.out.grown hg (by simp;have:=HLT.out;omega)
            have C1:Hid (ChAt k1w (w.heap.size+1) c1):=hc.mono Rw3.out.lt
            clear hp hc hS hg
            go_wp2_with fail
            refine (IHD.out sb v n (t1) sc 2 DI k1w Sk1w.out (by omega) HS.out (by omega) HDI.out).mono ?_
            rintro e k2w ⟨c2,rfl,hp,hc,⟨⟨t2,ha2,hb2,hS⟩,hg⟩⟩
            have P2:=Lib.hid hp
            have Sk2w:=Lib.hid hS
            have Gk2w:Hid (w.grownBy k2w (some sb)):=Gk1w.out.trans hg
            have Rk2w:Hid (RB k2w w.heap.size):=Rk1w.out.grown hg (by simp;have:=HLT.out;omega)
            have C2:Hid (ChAt k2w (w.heap.size+1) c2):=hc.mono Rk1w.out.lt
            have C1:=Lib.hid (C1.out.grown (by have:=HLT.out;omega) hg)
            clear hp hc hS hg
            go_wp2_with fail
            have BA:Hid (Below k2w.heap.size k2w (k2w.alloc (.cells #[.int .i64 c1.a.op,.int .i64 c1.a.num,.string c1.a.name,.slice c1.a.ptr (len c1.k) c1.a.cap,.int .i64 c2.a.op,.int .i64 c2.a.num,.string c2.a.name,.slice c2.a.ptr (len c2.k) c2.a.cap] 24))):=(Below.refl _ _).alloc (Nat.le_refl _) _
            have RN:=Lib.hid (row_new (w:=k2w) (B0:=w.heap.size+1) [c1,c2] (by intro c hc;simp only [List.mem_cons,List.not_mem_nil,or_false] at hc;rcases hc with rfl|rfl;exact C1.out;exact C2.out) Rk2w.out.lt 24 #[.int .i64 c1.a.op,.int .i64 c1.a.num,.string c1.a.name,.slice c1.a.ptr (len c1.k) c1.a.cap,.int .i64 c2.a.op,.int .i64 c2.a.num,.string c2.a.name,.slice c2.a.ptr (len c2.k) c2.a.cap] rfl)
            generalize k2w.alloc (.cells #[.int .i64 c1.a.op,.int .i64 c1.a.num,.string c1.a.name,.slice c1.a.ptr (len c1.k) c1.a.cap,.int .i64 c2.a.op,.int .i64 c2.a.num,.string c2.a.name,.slice c2.a.ptr (len c2.k) c2.a.cap] 24)=wa at *
            refine (bnode_any 11 _ 2 2 wa).mono ?_
            rintro e wq ⟨rfl,hb⟩
            have SX:=Lib.hid ((Sk2w.out.next BA.out).next hb)
            have GX:Hid (w.grownBy wq (some sb)):=grw_below (grw_below Gk2w.out (BA.out.mono Gk2w.out.size)) (hb.mono (Nat.le_trans Gk2w.out.size BA.out.size))
            have RX:Hid (RB wq w.heap.size):=(Rk2w.out.next BA.out).next hb
            have FX:Hid (FoAt wq (rowF [c1,c2]) k2w.heap.size 0):=RN.out.1.next hb
            clear hb
            obtain ⟨⟨u0,q0⟩,⟨u1,q1⟩,⟨u2,q2⟩,⟨u3,q3⟩,f0,f1,f2,f3,rlt⟩:=RX.out
            go_wp2
            refine bodyPost_ret (v:=.agg #[.int .i64 11,.int .i64 0,.string ⟨#[]⟩,.slice (some ⟨k2w.heap.size,0,none⟩) 2 2]) ?_ rfl ⟨⟨k2w.heap.size,0,⟨11,0,⟨#[]⟩,some ⟨k2w.heap.size,0,none⟩,2⟩,rowF [c1,c2]⟩,rfl,plain_node sc d [c1,c2] [2,2] 11 kind ⟨P1.out,P2.out,trivial⟩ (by simp) (by omega) rfl (by rw [e1];rfl) hk0.out _ _,ch_four ⟨⟨fun _=>rfl,FX.out⟩,RN.out.2⟩,bp_store SX.out GX.out RX.out.lt' HLT.out (by omega) (by omega) below_four⟩
            rw [results_cell1 rfl]
            go_simp
          · have c1:(kind==1)=false:=by simp [e1]
            have e2:kind=2:=by omega
            have E2:=Lib.hid e2
            clear e1 e2
            go_wp2_with fail
            refine (IHD.out sb v n (t+1+1+1) sc 2 DI w3 Sw3.out (by omega) HS.out (by omega) HDI.out).mono ?_
            rintro e k1w ⟨c1,rfl,hp,hc,⟨⟨t1,ha1,hb1,hS⟩,hg⟩⟩
            have P1:=Lib.hid hp
            have Sk1w:=Lib.hid hS
            have Gk1w:Hid (w.grownBy k1w (some sb)):=Gw3.out.trans hg
            have Rk1w:Hid (RB k1w w.heap.size):=Rw3.out.grown hg (by simp;have:=HLT.out;omega)
            have C1:Hid (ChAt k1w (w.heap.size+1) c1):=hc.mono Rw3.out.lt
            clear hp hc hS hg
            go_wp2_with fail
            refine (IHD.out sb v n (t1) sc 1 DI k1w Sk1w.out (by omega) HS.out (by omega) HDI.out).mono ?_
            rintro e k2w ⟨c2,rfl,hp,hc,⟨⟨t2,ha2,hb2,hS⟩,hg⟩⟩
            have P2:=Lib.hid hp
            have Sk2w:=Lib.hid hS
            have Gk2w:Hid (w.grownBy k2w (some sb)):=Gk1w.out.trans hg
            have Rk2w:Hid (RB k2w w.heap.size):=Rk1w.out.grown hg (by simp;have:=HLT.out;omega)
            have C2:Hid (ChAt k2w (w.heap.size+1) c2):=hc.mono Rk1w.out.lt
            have C1:=Lib.hid (C1.out.grown (by have:=HLT.out;omega) hg)
            clear hp hc hS hg
            go_wp2_with fail
            have BA:Hid (Below k2w.heap.size k2w (k2w.alloc (.cells #[.int .i64 c1.a.op,.int .i64 c1.a.num,.string c1.a.name,.slice c1.a.ptr (len c1.k) c1.a.cap,.int .i64 c2.a.op,.int .i64 c2.a.num,.string c2.a.name,.slice c2.a.ptr (len c2.k) c2.a.cap] 24))):=(Below.refl _ _).alloc (Nat.le_refl _) _
            have RN:=Lib.hid (row_new (w:=k2w) (B0:=w.heap.size+1) [c1,c2] (by intro c hc;simp only [List.mem_cons,List.not_mem_nil,or_false] at hc;rcases hc with rfl|rfl;exact C1.out;exact C2.out) Rk2w.out.lt 24 #[.int .i64 c1.a.op,.int .i64 c1.a.num,.string c1.a.name,.slice c1.a.ptr (len c1.k) c1.a.cap,.int .i64 c2.a.op,.int .i64 c2.a.num,.string c2.a.name,.slice c2.a.ptr (len c2.k) c2.a.cap] rfl)
            generalize k2w.alloc (.cells #[.int .i64 c1.a.op,.int .i64 c1.a.num,.string c1.a.name,.slice c1.a.ptr (len c1.k) c1.a.cap,.int .i64 c2.a.op,.int .i64 c2.a.num,.string c2.a.name,.slice c2.a.ptr (len c2.k) c2.a.cap] 24)=wa at *
            refine (bnode_any 10 _ 2 2 wa).mono ?_
            rintro e wq ⟨rfl,hb⟩
            have SX:=Lib.hid ((Sk2w.out.next BA.out).next hb)
            have GX:Hid (w.grownBy wq (some sb)):=grw_below (grw_below Gk2w.out (BA.out.mono Gk2w.out.size)) (hb.mono (Nat.le_trans Gk2w.out.size BA.out.size))
            have RX:Hid (RB wq w.heap.size):=(Rk2w.out.next BA.out).next hb
            have FX:Hid (FoAt wq (rowF [c1,c2]) k2w.heap.size 0):=RN.out.1.next hb
            clear hb
            obtain ⟨⟨u0,q0⟩,⟨u1,q1⟩,⟨u2,q2⟩,⟨u3,q3⟩,f0,f1,f2,f3,rlt⟩:=RX.out
            go_wp2
            refine bodyPost_ret (v:=.agg #[.int .i64 10,.int .i64 0,.string ⟨#[]⟩,.slice (some ⟨k2w.heap.size,0,none⟩) 2 2]) ?_ rfl ⟨⟨k2w.heap.size,0,⟨10,0,⟨#[]⟩,some ⟨k2w.heap.size,0,none⟩,2⟩,rowF [c1,c2]⟩,rfl,plain_node sc d [c1,c2] [2,1] 10 kind ⟨P1.out,P2.out,trivial⟩ (by simp) (by omega) rfl (by rw [E2.out];rfl) hk0.out _ _,ch_four ⟨⟨fun _=>rfl,FX.out⟩,RN.out.2⟩,bp_store SX.out GX.out RX.out.lt' HLT.out (by omega) (by omega) below_four⟩
            rw [results_cell1 rfl]
            go_simp
     · have c1:(kind==1)=false:=by simp;omega
       have c2:(kind==2)=false:=by simp;omega
       by_cases e4:kind=4
       · have c4:(kind==4)=true:=by simp [e4]
         have E4:=Lib.hid e4
         clear h12 e4
         go_wp2_with fail
         have BA:Hid (Below w2.heap.size w2 (w2.alloc (.cells #[.int .i64 1,.int .i64 2] 3))):=(Below.refl _ _).alloc (Nat.le_refl _) _
         have LA:Hid (∀ i x,([1,2]:List Int)[i]?=some x→(w2.alloc (.cells #[.int .i64 1,.int .i64 2] 3)).cell? ⟨w2.heap.size,i,none⟩=some (.int .i64 x)):=by
          intro i x hx
          rw [World.cell?_alloc_new]
          show ([.int .i64 1,.int .i64 2]:List Value).toArray[i]?=_
          rw [List.getElem?_toArray,show ([.int .i64 1,.int .i64 2]:List Value)=([1,2]:List Int).map (fun x=>Value.int .i64 x) from rfl,List.getElem?_map,hx];rfl
         generalize w2.alloc (.cells #[.int .i64 1,.int .i64 2] 3)=wb at *
         refine (next_any sb v n (t+1+1) 2 wb (Sw2.out.next BA.out) (by omega) (by omega) (by omega)).mono ?_
         rintro e w3 ⟨⟨r,hr,rfl⟩,hS,hg⟩
         have Sw3:=Lib.hid hS
         have Gw3:Hid (w.grownBy w3 (some sb)):=(grw_below Gw2.out (BA.out.mono Gw2.out.size)).trans hg
         have Rw3:Hid (RB w3 w.heap.size):=(Rw2.out.next BA.out).grown hg (by simp;have:=HLT.out;omega)
         obtain ⟨kb,hx,hxb⟩:∃ x:Int,([1,2]:List Int)[r]?=some x∧(x=1∨x=2):=by
          match r,hr with
          | 0,_=>exact ⟨_,rfl,by decide⟩
          | 1,_=>exact ⟨_,rfl,by decide⟩
         have cx:w3.cell? ⟨w2.heap.size,r,none⟩=some (.int .i64 kb):=by
          have:=LA.out r kb hx
          rw [World.cell?_of_block (hg.block w2.heap.size (block_lt_of_cell this) (by simp;have:=Sw2.out.lt;omega))]
          exact this
         have hr1:(r:Int) < 2:=by omega
         have hr0:(0:Int)≤(r:Int):=by omega
         have KB:=Lib.hid hxb
         clear hS hg LA hx BA hxb
         go_wp2_with fail
         refine (next_any sb v n (t+1+1+1) 8 w3 Sw3.out (by omega) (by omega) (by omega)).mono ?_
         rintro e w4 ⟨⟨rw4,hrw4,rfl⟩,hS,hg⟩
         have Sw4:=Lib.hid hS
         have Gw4:Hid (w.grownBy w4 (some sb)):=Gw3.out.trans hg
         have Rw4:Hid (RB w4 w.heap.size):=Rw3.out.grown hg (by simp;have:=HLT.out;omega)
         clear hS hg
         clear cx
         have hc8:rw4=0∨rw4=1∨rw4=2∨rw4=3∨rw4=4∨rw4=5∨rw4=6∨rw4=7:=by omega
         rcases hc8 with rfl|rfl|rfl|rfl|rfl|rfl|rfl|rfl
         · go_wp2_with fail
           refine (IHD.out sb v n (t+1+1+1+1) sc kind DI w4 Sw4.out (by omega) HS.out HK.out HDI.out).mono ?_
           rintro e k1w ⟨c1,rfl,hp,hc,⟨⟨t1,ha1,hb1,hS⟩,hg⟩⟩
           have P1:=Lib.hid hp
           have Sk1w:=Lib.hid hS
           have Gk1w:Hid (w.grownBy k1w (some sb)):=Gw4.out.trans hg
           have Rk1w:Hid (RB k1w w.heap.size):=Rw4.out.grown hg (by simp;have:=HLT.out;omega)
           have C1:Hid (ChAt k1w (w.heap.size+1) c1):=hc.mono Rw4.out.lt
           clear hp hc hS hg
           go_wp2_with fail
           have BA:Hid (Below k1w.heap.size k1w (k1w.alloc (.cells #[.int .i64 c1.a.op,.int .i64 c1.a.num,.string c1.a.name,.slice c1.a.ptr (len c1.k) c1.a.cap] 24))):=(Below.refl _ _).alloc (Nat.le_refl _) _
           have RN:=Lib.hid (row_new (w:=k1w) (B0:=w.heap.size+1) [c1] (by intro c hc;simp only [List.mem_cons,List.not_mem_nil,or_false] at hc;subst hc;exact C1.out) Rk1w.out.lt 24 #[.int .i64 c1.a.op,.int .i64 c1.a.num,.string c1.a.name,.slice c1.a.ptr (len c1.k) c1.a.cap] rfl)
           generalize k1w.alloc (.cells #[.int .i64 c1.a.op,.int .i64 c1.a.num,.string c1.a.name,.slice c1.a.ptr (len c1.k) c1.a.cap] 24)=wa at *
           refine (bnode_any 19 _ 1 1 wa).mono ?_
           rintro e wq ⟨rfl,hb⟩
           have SX:=Lib.hid ((Sk1w.out.next BA.out).next hb)
           have GX:Hid (w.grownBy wq (some sb)):=grw_below (grw_below Gk1w.out (BA.out.mono Gk1w.out.size)) (hb.mono (Nat.le_trans Gk1w.out.size BA.out.size))
           have RX:Hid (RB wq w.heap.size):=(Rk1w.out.next BA.out).next hb
           have FX:Hid (FoAt wq (rowF [c1]) k1w.heap.size 0):=RN.out.1.next hb
           clear hb
           obtain ⟨⟨u0,q0⟩,⟨u1,q1⟩,⟨u2,q2⟩,⟨u3,q3⟩,f0,f1,f2,f3,rlt⟩:=RX.out
           go_wp2
           refine bodyPost_ret (v:=.agg #[.int .i64 19,.int .i64 0,.string ⟨#[]⟩,.slice (some ⟨k1w.heap.size,0,none⟩) 1 1]) ?_ rfl ⟨⟨k1w.heap.size,0,⟨19,0,⟨#[]⟩,some ⟨k1w.heap.size,0,none⟩,1⟩,rowF [c1]⟩,rfl,plain_node sc d [c1] [kind] 19 kind ⟨P1.out,trivial⟩ (by simp) (by omega) rfl (by rw [E4.out];rfl) hk0.out _ _,ch_four ⟨⟨fun _=>rfl,FX.out⟩,RN.out.2⟩,bp_store SX.out GX.out RX.out.lt' HLT.out (by omega) (by omega) below_four⟩
           rw [results_cell1 rfl]
           go_simp
         · go_wp2_with fail
           refine (IHD.out sb v n (t+1+1+1+1) sc kind DI w4 Sw4.out (by omega) HS.out HK.out HDI.out).mono ?_
           rintro e k1w ⟨c1,rfl,hp,hc,⟨⟨t1,ha1,hb1,hS⟩,hg⟩⟩
           have P1:=Lib.hid hp
           have Sk1w:=Lib.hid hS
           have Gk1w:Hid (w.grownBy k1w (some sb)):=Gw4.out.trans hg
           have Rk1w:Hid (RB k1w w.heap.size):=Rw4.out.grown hg (by simp;have:=HLT.out;omega)
           have C1:Hid (ChAt k1w (w.heap.size+1) c1):=hc.mono Rw4.out.lt
           clear hp hc hS hg
           go_wp2_with fail
           refine (IHD.out sb v n (t1) sc kind DI k1w Sk1w.out (by omega) HS.out HK.out HDI.out).mono ?_
           rintro e k2w ⟨c2,rfl,hp,hc,⟨⟨t2,ha2,hb2,hS⟩,hg⟩⟩
           have P2:=Lib.hid hp
           have Sk2w:=Lib.hid hS
           have Gk2w:Hid (w.grownBy k2w (some sb)):=Gk1w.out.trans hg
           have Rk2w:Hid (RB k2w w.heap.size):=Rk1w.out.grown hg (by simp;have:=HLT.out;omega)
           have C2:Hid (ChAt k2w (w.heap.size+1) c2):=hc.mono Rk1w.out.lt
           have C1:=Lib.hid (C1.out.grown (by have:=HLT.out;omega) hg)
           clear hp hc hS hg
           go_wp2_with fail
           have BA:Hid (Below k2w.heap.size k2w (k2w.alloc (.cells #[.int .i64 c1.a.op,.int .i64 c1.a.num,.string c1.a.name,.slice c1.a.ptr (len c1.k) c1.a.cap,.int .i64 c2.a.op,.int .i64 c2.a.num,.string c2.a.name,.slice c2.a.ptr (len c2.k) c2.a.cap] 24))):=(Below.refl _ _).alloc (Nat.le_refl _) _
           have RN:=Lib.hid (row_new (w:=k2w) (B0:=w.heap.size+1) [c1,c2] (by intro c hc;simp only [List.mem_cons,List.not_mem_nil,or_false] at hc;rcases hc with rfl|rfl;exact C1.out;exact C2.out) Rk2w.out.lt 24 #[.int .i64 c1.a.op,.int .i64 c1.a.num,.string c1.a.name,.slice c1.a.ptr (len c1.k) c1.a.cap,.int .i64 c2.a.op,.int .i64 c2.a.num,.string c2.a.name,.slice c2.a.ptr (len c2.k) c2.a.cap] rfl)
           generalize k2w.alloc (.cells #[.int .i64 c1.a.op,.int .i64 c1.a.num,.string c1.a.name,.slice c1.a.ptr (len c1.k) c1.a.cap,.int .i64 c2.a.op,.int .i64 c2.a.num,.string c2.a.name,.slice c2.a.ptr (len c2.k) c2.a.cap] 24)=wa at *
           refine (bnode_any 20 _ 2 2 wa).mono ?_
           rintro e wq ⟨rfl,hb⟩
           have SX:=Lib.hid ((Sk2w.out.next BA.out).next hb)
           have GX:Hid (w.grownBy wq (some sb)):=grw_below (grw_below Gk2w.out (BA.out.mono Gk2w.out.size)) (hb.mono (Nat.le_trans Gk2w.out.size BA.out.size))
           have RX:Hid (RB wq w.heap.size):=(Rk2w.out.next BA.out).next hb
           have FX:Hid (FoAt wq (rowF [c1,c2]) k2w.heap.size 0):=RN.out.1.next hb
           clear hb
           obtain ⟨⟨u0,q0⟩,⟨u1,q1⟩,⟨u2,q2⟩,⟨u3,q3⟩,f0,f1,f2,f3,rlt⟩:=RX.out
           go_wp2
           refine bodyPost_ret (v:=.agg #[.int .i64 20,.int .i64 0,.string ⟨#[]⟩,.slice (some ⟨k2w.heap.size,0,none⟩) 2 2]) ?_ rfl ⟨⟨k2w.heap.size,0,⟨20,0,⟨#[]⟩,some ⟨k2w.heap.size,0,none⟩,2⟩,rowF [c1,c2]⟩,rfl,plain_node sc d [c1,c2] [kind,kind] 20 kind ⟨P1.out,P2.out,trivial⟩ (by simp) (by omega) rfl (by rw [E4.out];rfl) hk0.out _ _,ch_four ⟨⟨fun _=>rfl,FX.out⟩,RN.out.2⟩,bp_store SX.out GX.out RX.out.lt' HLT.out (by omega) (by omega) below_four⟩
           rw [results_cell1 rfl]
           go_simp
         · go_wp2_with fail
           refine (IHD.out sb v n (t+1+1+1+1) sc kind DI w4 Sw4.out (by omega) HS.out HK.out HDI.out).mono ?_
           rintro e k1w ⟨c1,rfl,hp,hc,⟨⟨t1,ha1,hb1,hS⟩,hg⟩⟩
           have P1:=Lib.hid hp
           have Sk1w:=Lib.hid hS
           have Gk1w:Hid (w.grownBy k1w (some sb)):=Gw4.out.trans hg
           have Rk1w:Hid (RB k1w w.heap.size):=Rw4.out.grown hg (by simp;have:=HLT.out;omega)
           have C1:Hid (ChAt k1w (w.heap.size+1) c1):=hc.mono Rw4.out.lt
           clear hp hc hS hg
           go_wp2_with fail
           refine (IHD.out sb v n (t1) sc kind DI k1w Sk1w.out (by omega) HS.out HK.out HDI.out).mono ?_
           rintro e k2w ⟨c2,rfl,hp,hc,⟨⟨t2,ha2,hb2,hS⟩,hg⟩⟩
           have P2:=Lib.hid hp
           have Sk2w:=Lib.hid hS
           have Gk2w:Hid (w.grownBy k2w (some sb)):=Gk1w.out.trans hg
           have Rk2w:Hid (RB k2w w.heap.size):=Rk1w.out.grown hg (by simp;have:=HLT.out;omega)
           have C2:Hid (ChAt k2w (w.heap.size+1) c2):=hc.mono Rk1w.out.lt
           have C1:=Lib.hid (C1.out.grown (by have:=HLT.out;omega) hg)
           clear hp hc hS hg
           go_wp2_with fail
           have BA:Hid (Below k2w.heap.size k2w (k2w.alloc (.cells #[.int .i64 c1.a.op,.int .i64 c1.a.num,.string c1.a.name,.slice c1.a.ptr (len c1.k) c1.a.cap,.int .i64 c2.a.op,.int .i64 c2.a.num,.string c2.a.name,.slice c2.a.ptr (len c2.k) c2.a.cap] 24))):=(Below.refl _ _).alloc (Nat.le_refl _) _
           have RN:=Lib.hid (row_new (w:=k2w) (B0:=w.heap.size+1) [c1,c2] (by intro c hc;simp only [List.mem_cons,List.not_mem_nil,or_false] at hc;rcases hc with rfl|rfl;exact C1.out;exact C2.out) Rk2w.out.lt 24 #[.int .i64 c1.a.op,.int .i64 c1.a.num,.string c1.a.name,.slice c1.a.ptr (len c1.k) c1.a.cap,.int .i64 c2.a.op,.int .i64 c2.a.num,.string c2.a.name,.slice c2.a.ptr (len c2.k) c2.a.cap] rfl)
           generalize k2w.alloc (.cells #[.int .i64 c1.a.op,.int .i64 c1.a.num,.string c1.a.name,.slice c1.a.ptr (len c1.k) c1.a.cap,.int .i64 c2.a.op,.int .i64 c2.a.num,.string c2.a.name,.slice c2.a.ptr (len c2.k) c2.a.cap] 24)=wa at *
           refine (bnode_any 21 _ 2 2 wa).mono ?_
           rintro e wq ⟨rfl,hb⟩
           have SX:=Lib.hid ((Sk2w.out.next BA.out).next hb)
           have GX:Hid (w.grownBy wq (some sb)):=grw_below (grw_below Gk2w.out (BA.out.mono Gk2w.out.size)) (hb.mono (Nat.le_trans Gk2w.out.size BA.out.size))
           have RX:Hid (RB wq w.heap.size):=(Rk2w.out.next BA.out).next hb
           have FX:Hid (FoAt wq (rowF [c1,c2]) k2w.heap.size 0):=RN.out.1.next hb
           clear hb
           obtain ⟨⟨u0,q0⟩,⟨u1,q1⟩,⟨u2,q2⟩,⟨u3,q3⟩,f0,f1,f2,f3,rlt⟩:=RX.out
           go_wp2
           refine bodyPost_ret (v:=.agg #[.int .i64 21,.int .i64 0,.string ⟨#[]⟩,.slice (some ⟨k2w.heap.size,0,none⟩) 2 2]) ?_ rfl ⟨⟨k2w.heap.size,0,⟨21,0,⟨#[]⟩,some ⟨k2w.heap.size,0,none⟩,2⟩,rowF [c1,c2]⟩,rfl,plain_node sc d [c1,c2] [kind,kind] 21 kind ⟨P1.out,P2.out,trivial⟩ (by simp) (by omega) rfl (by rw [E4.out];rfl) hk0.out _ _,ch_four ⟨⟨fun _=>rfl,FX.out⟩,RN.out.2⟩,bp_store SX.out GX.out RX.out.lt' HLT.out (by omega) (by omega) below_four⟩
           rw [results_cell1 rfl]
           go_simp
         · go_wp2_with fail
           refine (IHD.out sb v n (t+1+1+1+1) sc kind DI w4 Sw4.out (by omega) HS.out HK.out HDI.out).mono ?_
           rintro e k1w ⟨c1,rfl,hp,hc,⟨⟨t1,ha1,hb1,hS⟩,hg⟩⟩
           have P1:=Lib.hid hp
           have Sk1w:=Lib.hid hS
           have Gk1w:Hid (w.grownBy k1w (some sb)):=Gw4.out.trans hg
           have Rk1w:Hid (RB k1w w.heap.size):=Rw4.out.grown hg (by simp;have:=HLT.out;omega)
           have C1:Hid (ChAt k1w (w.heap.size+1) c1):=hc.mono Rw4.out.lt
           clear hp hc hS hg
           go_wp2_with fail
           refine (IHD.out sb v n (t1) sc kind DI k1w Sk1w.out (by omega) HS.out HK.out HDI.out).mono ?_
           rintro e k2w ⟨c2,rfl,hp,hc,⟨⟨t2,ha2,hb2,hS⟩,hg⟩⟩
           have P2:=Lib.hid hp
           have Sk2w:=Lib.hid hS
           have Gk2w:Hid (w.grownBy k2w (some sb)):=Gk1w.out.trans hg
           have Rk2w:Hid (RB k2w w.heap.size):=Rk1w.out.grown hg (by simp;have:=HLT.out;omega)
           have C2:Hid (ChAt k2w (w.heap.size+1) c2):=hc.mono Rk1w.out.lt
           have C1:=Lib.hid (C1.out.grown (by have:=HLT.out;omega) hg)
           clear hp hc hS hg
           go_wp2_with fail
           have BA:Hid (Below k2w.heap.size k2w (k2w.alloc (.cells #[.int .i64 c1.a.op,.int .i64 c1.a.num,.string c1.a.name,.slice c1.a.ptr (len c1.k) c1.a.cap,.int .i64 c2.a.op,.int .i64 c2.a.num,.string c2.a.name,.slice c2.a.ptr (len c2.k) c2.a.cap] 24))):=(Below.refl _ _).alloc (Nat.le_refl _) _
           have RN:=Lib.hid (row_new (w:=k2w) (B0:=w.heap.size+1) [c1,c2] (by intro c hc;simp only [List.mem_cons,List.not_mem_nil,or_false] at hc;rcases hc with rfl|rfl;exact C1.out;exact C2.out) Rk2w.out.lt 24 #[.int .i64 c1.a.op,.int .i64 c1.a.num,.string c1.a.name,.slice c1.a.ptr (len c1.k) c1.a.cap,.int .i64 c2.a.op,.int .i64 c2.a.num,.string c2.a.name,.slice c2.a.ptr (len c2.k) c2.a.cap] rfl)
           generalize k2w.alloc (.cells #[.int .i64 c1.a.op,.int .i64 c1.a.num,.string c1.a.name,.slice c1.a.ptr (len c1.k) c1.a.cap,.int .i64 c2.a.op,.int .i64 c2.a.num,.string c2.a.name,.slice c2.a.ptr (len c2.k) c2.a.cap] 24)=wa at *
           refine (bnode_any 22 _ 2 2 wa).mono ?_
           rintro e wq ⟨rfl,hb⟩
           have SX:=Lib.hid ((Sk2w.out.next BA.out).next hb)
           have GX:Hid (w.grownBy wq (some sb)):=grw_below (grw_below Gk2w.out (BA.out.mono Gk2w.out.size)) (hb.mono (Nat.le_trans Gk2w.out.size BA.out.size))
           have RX:Hid (RB wq w.heap.size):=(Rk2w.out.next BA.out).next hb
           have FX:Hid (FoAt wq (rowF [c1,c2]) k2w.heap.size 0):=RN.out.1.next hb
           clear hb
           obtain ⟨⟨u0,q0⟩,⟨u1,q1⟩,⟨u2,q2⟩,⟨u3,q3⟩,f0,f1,f2,f3,rlt⟩:=RX.out
           go_wp2
           refine bodyPost_ret (v:=.agg #[.int .i64 22,.int .i64 0,.string ⟨#[]⟩,.slice (some ⟨k2w.heap.size,0,none⟩) 2 2]) ?_ rfl ⟨⟨k2w.heap.size,0,⟨22,0,⟨#[]⟩,some ⟨k2w.heap.size,0,none⟩,2⟩,rowF [c1,c2]⟩,rfl,plain_node sc d [c1,c2] [kind,kind] 22 kind ⟨P1.out,P2.out,trivial⟩ (by simp) (by omega) rfl (by rw [E4.out];rfl) hk0.out _ _,ch_four ⟨⟨fun _=>rfl,FX.out⟩,RN.out.2⟩,bp_store SX.out GX.out RX.out.lt' HLT.out (by omega) (by omega) below_four⟩
           rw [results_cell1 rfl]
           go_simp
         · go_wp2_with fail
           refine (IHD.out sb v n (t+1+1+1+1) sc kb DI w4 Sw4.out (by omega) HS.out (by have:=KB.out;omega) HDI.out).mono ?_
           rintro e k1w ⟨c1,rfl,hp,hc,⟨⟨t1,ha1,hb1,hS⟩,hg⟩⟩
           have P1:=Lib.hid hp
           have Sk1w:=Lib.hid hS
           have Gk1w:Hid (w.grownBy k1w (some sb)):=Gw4.out.trans hg
           have Rk1w:Hid (RB k1w w.heap.size):=Rw4.out.grown hg (by simp;have:=HLT.out;omega)
           have C1:Hid (ChAt k1w (w.heap.size+1) c1):=hc.mono Rw4.out.lt
           clear hp hc hS hg
           go_wp2_with fail
           refine (IHD.out sb v n (t1) sc kb DI k1w Sk1w.out (by omega) HS.out (by have:=KB.out;omega) HDI.out).mono ?_
           rintro e k2w ⟨c2,rfl,hp,hc,⟨⟨t2,ha2,hb2,hS⟩,hg⟩⟩
           have P2:=Lib.hid hp
           have Sk2w:=Lib.hid hS
           have Gk2w:Hid (w.grownBy k2w (some sb)):=Gk1w.out.trans hg
           have Rk2w:Hid (RB k2w w.heap.size):=Rk1w.out.grown hg (by simp;have:=HLT.out;omega)
           have C2:Hid (ChAt k2w (w.heap.size+1) c2):=hc.mono Rk1w.out.lt
           have C1:=Lib.hid (C1.out.grown (by have:=HLT.out;omega) hg)
           clear hp hc hS hg
           go_wp2_with fail
           have BA:Hid (Below k2w.heap.size k2w (k2w.alloc (.cells #[.int .i64 c1.a.op,.int .i64 c1.a.num,.string c1.a.name,.slice c1.a.ptr (len c1.k) c1.a.cap,.int .i64 c2.a.op,.int .i64 c2.a.num,.string c2.a.name,.slice c2.a.ptr (len c2.k) c2.a.cap] 24))):=(Below.refl _ _).alloc (Nat.le_refl _) _
           have RN:=Lib.hid (row_new (w:=k2w) (B0:=w.heap.size+1) [c1,c2] (by intro c hc;simp only [List.mem_cons,List.not_mem_nil,or_false] at hc;rcases hc with rfl|rfl;exact C1.out;exact C2.out) Rk2w.out.lt 24 #[.int .i64 c1.a.op,.int .i64 c1.a.num,.string c1.a.name,.slice c1.a.ptr (len c1.k) c1.a.cap,.int .i64 c2.a.op,.int .i64 c2.a.num,.string c2.a.name,.slice c2.a.ptr (len c2.k) c2.a.cap] rfl)
           generalize k2w.alloc (.cells #[.int .i64 c1.a.op,.int .i64 c1.a.num,.string c1.a.name,.slice c1.a.ptr (len c1.k) c1.a.cap,.int .i64 c2.a.op,.int .i64 c2.a.num,.string c2.a.name,.slice c2.a.ptr (len c2.k) c2.a.cap] 24)=wa at *
           refine (bnode_any 16 _ 2 2 wa).mono ?_
           rintro e wq ⟨rfl,hb⟩
           have SX:=Lib.hid ((Sk2w.out.next BA.out).next hb)
           have GX:Hid (w.grownBy wq (some sb)):=grw_below (grw_below Gk2w.out (BA.out.mono Gk2w.out.size)) (hb.mono (Nat.le_trans Gk2w.out.size BA.out.size))
           have RX:Hid (RB wq w.heap.size):=(Rk2w.out.next BA.out).next hb
           have FX:Hid (FoAt wq (rowF [c1,c2]) k2w.heap.size 0):=RN.out.1.next hb
           clear hb
           obtain ⟨⟨u0,q0⟩,⟨u1,q1⟩,⟨u2,q2⟩,⟨u3,q3⟩,f0,f1,f2,f3,rlt⟩:=RX.out
           go_wp2
           refine bodyPost_ret (v:=.agg #[.int .i64 16,.int .i64 0,.string ⟨#[]⟩,.slice (some ⟨k2w.heap.size,0,none⟩) 2 2]) ?_ rfl ⟨⟨k2w.heap.size,0,⟨16,0,⟨#[]⟩,some ⟨k2w.heap.size,0,none⟩,2⟩,rowF [c1,c2]⟩,rfl,plain_node sc d [c1,c2] [kb,kb] 16 kind ⟨P1.out,P2.out,trivial⟩ (by simp) (by omega) rfl (by rw [E4.out];rcases KB.out with rfl|rfl<;>rfl) hk0.out _ _,ch_four ⟨⟨fun _=>rfl,FX.out⟩,RN.out.2⟩,bp_store SX.out GX.out RX.out.lt' HLT.out (by omega) (by omega) below_four⟩
           rw [results_cell1 rfl]
           go_simp
         · go_wp2_with fail
           refine (IHD.out sb v n (t+1+1+1+1) sc kb DI w4 Sw4.out (by omega) HS.out (by have:=KB.out;omega) HDI.out).mono ?_
           rintro e k1w ⟨c1,rfl,hp,hc,⟨⟨t1,ha1,hb1,hS⟩,hg⟩⟩
           have P1:=Lib.hid hp
           have Sk1w:=Lib.hid hS
           have Gk1w:Hid (w.grownBy k1w (some sb)):=Gw4.out.trans hg
           have Rk1w:Hid (RB k1w w.heap.size):=Rw4.out.grown hg (by simp;have:=HLT.out;omega)
           have C1:Hid (ChAt k1w (w.heap.size+1) c1):=hc.mono Rw4.out.lt
           clear hp hc hS hg
           go_wp2_with fail
           refine (IHD.out sb v n (t1) sc kb DI k1w Sk1w.out (by omega) HS.out (by have:=KB.out;omega) HDI.out).mono ?_
           rintro e k2w ⟨c2,rfl,hp,hc,⟨⟨t2,ha2,hb2,hS⟩,hg⟩⟩
           have P2:=Lib.hid hp
           have Sk2w:=Lib.hid hS
           have Gk2w:Hid (w.grownBy k2w (some sb)):=Gk1w.out.trans hg
           have Rk2w:Hid (RB k2w w.heap.size):=Rk1w.out.grown hg (by simp;have:=HLT.out;omega)
           have C2:Hid (ChAt k2w (w.heap.size+1) c2):=hc.mono Rk1w.out.lt
           have C1:=Lib.hid (C1.out.grown (by have:=HLT.out;omega) hg)
           clear hp hc hS hg
           go_wp2_with fail
           have BA:Hid (Below k2w.heap.size k2w (k2w.alloc (.cells #[.int .i64 c1.a.op,.int .i64 c1.a.num,.string c1.a.name,.slice c1.a.ptr (len c1.k) c1.a.cap,.int .i64 c2.a.op,.int .i64 c2.a.num,.string c2.a.name,.slice c2.a.ptr (len c2.k) c2.a.cap] 24))):=(Below.refl _ _).alloc (Nat.le_refl _) _
           have RN:=Lib.hid (row_new (w:=k2w) (B0:=w.heap.size+1) [c1,c2] (by intro c hc;simp only [List.mem_cons,List.not_mem_nil,or_false] at hc;rcases hc with rfl|rfl;exact C1.out;exact C2.out) Rk2w.out.lt 24 #[.int .i64 c1.a.op,.int .i64 c1.a.num,.string c1.a.name,.slice c1.a.ptr (len c1.k) c1.a.cap,.int .i64 c2.a.op,.int .i64 c2.a.num,.string c2.a.name,.slice c2.a.ptr (len c2.k) c2.a.cap] rfl)
           generalize k2w.alloc (.cells #[.int .i64 c1.a.op,.int .i64 c1.a.num,.string c1.a.name,.slice c1.a.ptr (len c1.k) c1.a.cap,.int .i64 c2.a.op,.int .i64 c2.a.num,.string c2.a.name,.slice c2.a.ptr (len c2.k) c2.a.cap] 24)=wa at *
           refine (bnode_any 18 _ 2 2 wa).mono ?_
           rintro e wq ⟨rfl,hb⟩
           have SX:=Lib.hid ((Sk2w.out.next BA.out).next hb)
           have GX:Hid (w.grownBy wq (some sb)):=grw_below (grw_below Gk2w.out (BA.out.mono Gk2w.out.size)) (hb.mono (Nat.le_trans Gk2w.out.size BA.out.size))
           have RX:Hid (RB wq w.heap.size):=(Rk2w.out.next BA.out).next hb
           have FX:Hid (FoAt wq (rowF [c1,c2]) k2w.heap.size 0):=RN.out.1.next hb
           clear hb
           obtain ⟨⟨u0,q0⟩,⟨u1,q1⟩,⟨u2,q2⟩,⟨u3,q3⟩,f0,f1,f2,f3,rlt⟩:=RX.out
           go_wp2
           refine bodyPost_ret (v:=.agg #[.int .i64 18,.int .i64 0,.string ⟨#[]⟩,.slice (some ⟨k2w.heap.size,0,none⟩) 2 2]) ?_ rfl ⟨⟨k2w.heap.size,0,⟨18,0,⟨#[]⟩,some ⟨k2w.heap.size,0,none⟩,2⟩,rowF [c1,c2]⟩,rfl,plain_node sc d [c1,c2] [kb,kb] 18 kind ⟨P1.out,P2.out,trivial⟩ (by simp) (by omega) rfl (by rw [E4.out];rcases KB.out with rfl|rfl<;>rfl) hk0.out _ _,ch_four ⟨⟨fun _=>rfl,FX.out⟩,RN.out.2⟩,bp_store SX.out GX.out RX.out.lt' HLT.out (by omega) (by omega) below_four⟩
           rw [results_cell1 rfl]
           go_simp
         · go_wp2_with fail
           refine (IHD.out sb v n (t+1+1+1+1) sc 3 DI w4 Sw4.out (by omega) HS.out (by omega) HDI.out).mono ?_
           rintro e k1w ⟨c1,rfl,hp,hc,⟨⟨t1,ha1,hb1,hS⟩,hg⟩⟩
           have P1:=Lib.hid hp
           have Sk1w:=Lib.hid hS
           have Gk1w:Hid (w.grownBy k1w (some sb)):=Gw4.out.trans hg
           have Rk1w:Hid (RB k1w w.heap.size):=Rw4.out.grown hg (by simp;have:=HLT.out;omega)
           have C1:Hid (ChAt k1w (w.heap.size+1) c1):=hc.mono Rw4.out.lt
           clear hp hc hS hg
           go_wp2_with fail
           refine (bleaf_any sb v n (t1) sc 3 k1w Sk1w.out (by omega) HS.out (by omega)).mono ?_
           rintro e k2w ⟨c2,rfl,hp,hc,⟨⟨t2,ha2,hb2,hS⟩,hg⟩⟩
           have P2:=Lib.hid hp
           have Sk2w:=Lib.hid hS
           have Gk2w:Hid (w.grownBy k2w (some sb)):=Gk1w.out.trans hg
           have Rk2w:Hid (RB k2w w.heap.size):=Rk1w.out.grown hg (by simp;have:=HLT.out;omega)
           have C2:Hid (ChAt k2w (w.heap.size+1) c2):=hc.mono Rk1w.out.lt
           have C1:=Lib.hid (C1.out.grown (by have:=HLT.out;omega) hg)
           clear hp hc hS hg
           go_wp2_with fail
           refine (bleaf_any sb v n (t2) sc 3 k2w Sk2w.out (by omega) HS.out (by omega)).mono ?_
           rintro e k3w ⟨c3,rfl,hp,hc,⟨⟨t3,ha3,hb3,hS⟩,hg⟩⟩
           have P3:=Lib.hid hp
           have Sk3w:=Lib.hid hS
           have Gk3w:Hid (w.grownBy k3w (some sb)):=Gk2w.out.trans hg
           have Rk3w:Hid (RB k3w w.heap.size):=Rk2w.out.grown hg (by simp;have:=HLT.out;omega)
           have C3:Hid (ChAt k3w (w.heap.size+1) c3):=hc.mono Rk2w.out.lt
           have C1:=Lib.hid (C1.out.grown (by have:=HLT.out;omega) hg)
           have C2:=Lib.hid (C2.out.grown (by have:=HLT.out;omega) hg)
           clear hp hc hS hg
           go_wp2_with fail
           have BA:Hid (Below k3w.heap.size k3w (k3w.alloc (.cells #[.int .i64 c1.a.op,.int .i64 c1.a.num,.string c1.a.name,.slice c1.a.ptr (len c1.k) c1.a.cap,.int .i64 c2.a.op,.int .i64 c2.a.num,.string c2.a.name,.slice c2.a.ptr (len c2.k) c2.a.cap,.int .i64 c3.a.op,.int .i64 c3.a.num,.string c3.a.name,.slice c3.a.ptr (len c3.k) c3.a.cap] 24))):=(Below.refl _ _).alloc (Nat.le_refl _) _
           have RN:=Lib.hid (row_new (w:=k3w) (B0:=w.heap.size+1) [c1,c2,c3] (by intro c hc;simp only [List.mem_cons,List.not_mem_nil,or_false] at hc;rcases hc with rfl|rfl|rfl;exact C1.out;exact C2.out;exact C3.out) Rk3w.out.lt 24 #[.int .i64 c1.a.op,.int .i64 c1.a.num,.string c1.a.name,.slice c1.a.ptr (len c1.k) c1.a.cap,.int .i64 c2.a.op,.int .i64 c2.a.num,.string c2.a.name,.slice c2.a.ptr (len c2.k) c2.a.cap,.int .i64 c3.a.op,.int .i64 c3.a.num,.string c3.a.name,.slice c3.a.ptr (len c3.k) c3.a.cap] rfl)
           generalize k3w.alloc (.cells #[.int .i64 c1.a.op,.int .i64 c1.a.num,.string c1.a.name,.slice c1.a.ptr (len c1.k) c1.a.cap,.int .i64 c2.a.op,.int .i64 c2.a.num,.string c2.a.name,.slice c2.a.ptr (len c2.k) c2.a.cap,.int .i64 c3.a.op,.int .i64 c3.a.num,.string c3.a.name,.slice c3.a.ptr (len c3.k) c3.a.cap] 24)=wa at *
           refine (bnode_any 15 _ 3 3 wa).mono ?_
           rintro e wq ⟨rfl,hb⟩
           have SX:=Lib.hid ((Sk3w.out.next BA.out).next hb)
           have GX:Hid (w.grownBy wq (some sb)):=grw_below (grw_below Gk3w.out (BA.out.mono Gk3w.out.size)) (hb.mono (Nat.le_trans Gk3w.out.size BA.out.size))
           have RX:Hid (RB wq w.heap.size):=(Rk3w.out.next BA.out).next hb
           have FX:Hid (FoAt wq (rowF [c1,c2,c3]) k3w.heap.size 0):=RN.out.1.next hb
           clear hb
           obtain ⟨⟨u0,q0⟩,⟨u1,q1⟩,⟨u2,q2⟩,⟨u3,q3⟩,f0,f1,f2,f3,rlt⟩:=RX.out
           go_wp2
           refine bodyPost_ret (v:=.agg #[.int .i64 15,.int .i64 0,.string ⟨#[]⟩,.slice (some ⟨k3w.heap.size,0,none⟩) 3 3]) ?_ rfl ⟨⟨k3w.heap.size,0,⟨15,0,⟨#[]⟩,some ⟨k3w.heap.size,0,none⟩,3⟩,rowF [c1,c2,c3]⟩,rfl,plain_node sc d [c1,c2,c3] [3,3,3] 15 kind ⟨P1.out,P2.out.mono (by omega),P3.out.mono (by omega),trivial⟩ (by simp) (by omega) rfl (by rw [E4.out];rfl) hk0.out _ _,ch_four ⟨⟨fun _=>rfl,FX.out⟩,RN.out.2⟩,bp_store SX.out GX.out RX.out.lt' HLT.out (by omega) (by omega) below_four⟩
           rw [results_cell1 rfl]
           go_simp
         · go_wp2_with fail
           refine (IHD.out sb v n (t+1+1+1+1) sc kb DI w4 Sw4.out (by omega) HS.out (by have:=KB.out;omega) HDI.out).mono ?_
           rintro e k1w ⟨c1,rfl,hp,hc,⟨⟨t1,ha1,hb1,hS⟩,hg⟩⟩
           have P1:=Lib.hid hp
           have Sk1w:=Lib.hid hS
           have Gk1w:Hid (w.grownBy k1w (some sb)):=Gw4.out.trans hg
           have Rk1w:Hid (RB k1w w.heap.size):=Rw4.out.grown hg (by simp;have:=HLT.out;omega)
           have C1:Hid (ChAt k1w (w.heap.size+1) c1):=hc.mono Rw4.out.lt
           clear hp hc hS hg
           go_wp2_with fail
           refine (IHD.out sb v n (t1) sc kb DI k1w Sk1w.out (by omega) HS.out (by have:=KB.out;omega) HDI.out).mono ?_
           rintro e k2w ⟨c2,rfl,hp,hc,⟨⟨t2,ha2,hb2,hS⟩,hg⟩⟩
           have P2:=Lib.hid hp
           have Sk2w:=Lib.hid hS
           have Gk2w:Hid (w.grownBy k2w (some sb)):=Gk1w.out.trans hg
           have Rk2w:Hid (RB k2w w.heap.size):=Rk1w.out.grown hg (by simp;have:=HLT.out;omega)
           have C2:Hid (ChAt k2w (w.heap.size+1) c2):=hc.mono Rk1w.out.lt
           have C1:=Lib.hid (C1.out.grown (by have:=HLT.out;omega) hg)
           clear hp hc hS hg
           go_wp2_with fail
           have BA:Hid (Below k2w.heap.size k2w (k2w.alloc (.cells #[.int .i64 c1.a.op,.int .i64 c1.a.num,.string c1.a.name,.slice c1.a.ptr (len c1.k) c1.a.cap,.int .i64 c2.a.op,.int .i64 c2.a.num,.string c2.a.name,.slice c2.a.ptr (len c2.k) c2.a.cap] 24))):=(Below.refl _ _).alloc (Nat.le_refl _) _
           have RN:=Lib.hid (row_new (w:=k2w) (B0:=w.heap.size+1) [c1,c2] (by intro c hc;simp only [List.mem_cons,List.not_mem_nil,or_false] at hc;rcases hc with rfl|rfl;exact C1.out;exact C2.out) Rk2w.out.lt 24 #[.int .i64 c1.a.op,.int .i64 c1.a.num,.string c1.a.name,.slice c1.a.ptr (len c1.k) c1.a.cap,.int .i64 c2.a.op,.int .i64 c2.a.num,.string c2.a.name,.slice c2.a.ptr (len c2.k) c2.a.cap] rfl)
           generalize k2w.alloc (.cells #[.int .i64 c1.a.op,.int .i64 c1.a.num,.string c1.a.name,.slice c1.a.ptr (len c1.k) c1.a.cap,.int .i64 c2.a.op,.int .i64 c2.a.num,.string c2.a.name,.slice c2.a.ptr (len c2.k) c2.a.cap] 24)=wa at *
           refine (bnode_any 17 _ 2 2 wa).mono ?_
           rintro e wq ⟨rfl,hb⟩
           have SX:=Lib.hid ((Sk2w.out.next BA.out).next hb)
           have GX:Hid (w.grownBy wq (some sb)):=grw_below (grw_below Gk2w.out (BA.out.mono Gk2w.out.size)) (hb.mono (Nat.le_trans Gk2w.out.size BA.out.size))
           have RX:Hid (RB wq w.heap.size):=(Rk2w.out.next BA.out).next hb
           have FX:Hid (FoAt wq (rowF [c1,c2]) k2w.heap.size 0):=RN.out.1.next hb
           clear hb
           obtain ⟨⟨u0,q0⟩,⟨u1,q1⟩,⟨u2,q2⟩,⟨u3,q3⟩,f0,f1,f2,f3,rlt⟩:=RX.out
           go_wp2
           refine bodyPost_ret (v:=.agg #[.int .i64 17,.int .i64 0,.string ⟨#[]⟩,.slice (some ⟨k2w.heap.size,0,none⟩) 2 2]) ?_ rfl ⟨⟨k2w.heap.size,0,⟨17,0,⟨#[]⟩,some ⟨k2w.heap.size,0,none⟩,2⟩,rowF [c1,c2]⟩,rfl,plain_node sc d [c1,c2] [kb,kb] 17 kind ⟨P1.out,P2.out,trivial⟩ (by simp) (by omega) rfl (by rw [E4.out];rcases KB.out with rfl|rfl<;>rfl) hk0.out _ _,ch_four ⟨⟨fun _=>rfl,FX.out⟩,RN.out.2⟩,bp_store SX.out GX.out RX.out.lt' HLT.out (by omega) (by omega) below_four⟩
           rw [results_cell1 rfl]
           go_simp
       · have c4:(kind==4)=false:=by simp [e4]
         clear h12 e4
         go_wp2_with fail
         refine (bleaf_any sb v n (t+1+1) sc kind w2 Sw2.out (by omega) HS.out HK.out).mono ?_
         rintro e wx ⟨c,rfl,hp,hc,⟨⟨t9,h91,h92,hS⟩,hg⟩⟩
         have SX:=Lib.hid hS
         have GX:Hid (w.grownBy wx (some sb)):=Gw2.out.trans hg
         have RX:Hid (RB wx w.heap.size):=Rw2.out.grown hg (by simp;have:=HLT.out;omega)
         have CX:Hid (ChAt wx (w.heap.size+1) c):=hc.mono Rw2.out.lt
         have PX:=Lib.hid hp
         clear hS hg hc hp
         obtain ⟨⟨u0,q0⟩,⟨u1,q1⟩,⟨u2,q2⟩,⟨u3,q3⟩,f0,f1,f2,f3,rlt⟩:=RX.out
         go_wp2
         refine bodyPost_ret (v:=.agg #[.int .i64 c.a.op,.int .i64 c.a.num,.string c.a.name,.slice c.a.ptr (len c.k) c.a.cap]) ?_ rfl ⟨c,rfl,PX.out.mono (by omega),ch_four CX.out,bp_store SX.out GX.out RX.out.lt' HLT.out (by omega) (by omega) below_four⟩
         rw [results_cell1 rfl]
         go_simp
end Go.Proofs.YtcejjdmnlejbaaaGreatDoor
