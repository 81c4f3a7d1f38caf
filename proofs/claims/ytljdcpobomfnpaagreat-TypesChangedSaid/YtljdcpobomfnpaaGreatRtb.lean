import Derived.Test.YtljdcpobomfnpaaGreatKtd
import Derived.Test.YtljdcpobomfnpaaGreatGg
import Derived.Test.YtljdcpobomfnpaaGreatGc
import Derived.Deep.AppendLies
import Derived.Deep.RegionLaw
import Derived.Deep.LoopGhost
namespace Go.Proofs.YtljdcpobomfnpaaGreat
set_option linter.unusedVariables false
set_option linter.unusedSimpArgs false
open Go.ChangeShapes Go.WideShapes Go.ChangeAt Go.RowKit
open Go.Deep (BT)
theorem Tryz.infoE:(Tryz.prog.info? 44).map (fun i=>(i.zero,i.size,i.bytes))=some (some (.int .i64 0),1,8):=by kernel_rfl
structure TabSt (w:World) (B j:Nat) (K E:List Int) (kv ev:Value) (wx:World):Prop where
 c0:wx.cell? ⟨B,0,none⟩=some kv
 c1:wx.cell? ⟨B,1,none⟩=some ev
 f0:wx.frozen? ⟨B,0,none⟩=false
 f1:wx.frozen? ⟨B,1,none⟩=false
 lt:B < wx.heap.size
 ok:wx.ownsRow (B+1) 3 1 kv j (intV K)
 oe:wx.ownsRow (B+1) 44 1 ev j (intV E)
 dis:kv.ownBlock=none∨kv.ownBlock≠ev.ownBlock
 bel:Below w.heap.size w wx
 le:w.heap.size≤B
def TabEx (w:World) (B j:Nat) (K E:List Int) (wx:World):Prop:=∃ kv ev,TabSt w B j K E kv ev wx
theorem TabSt.next {w:World} {B j:Nat} {K E:List Int} {kv ev:Value} {wx w':World} (h:TabSt w B j K E kv ev wx) (hb:Below wx.heap.size wx w'):TabSt w B j K E kv ev w' where
 c0:=by rw [hb.cell (p:=⟨B,0,none⟩) h.lt];exact h.c0
 c1:=by rw [hb.cell (p:=⟨B,1,none⟩) h.lt];exact h.c1
 f0:=by rw [hb.frozen (p:=⟨B,0,none⟩) h.lt];exact h.f0
 f1:=by rw [hb.frozen (p:=⟨B,1,none⟩) h.lt];exact h.f1
 lt:=Nat.lt_of_lt_of_le h.lt hb.size
 ok:=own_below h.ok hb
 oe:=own_below h.oe hb
 dis:=h.dis
 bel:=h.bel.trans (hb.mono h.bel.size)
 le:=h.le
theorem gb_cell {w w':World} {row:Option Nat} {p:Addr} (hg:w.grownBy w' row) (hlt:p.block < w.heap.size) (hne:some p.block≠row):w'.cell? p=w.cell? p:=World.cell?_of_block (hg.block p.block hlt hne)
theorem gb_frozen {w w':World} {row:Option Nat} {p:Addr} (hg:w.grownBy w' row) (hlt:p.block < w.heap.size) (hne:some p.block≠row):w'.frozen? p=w.frozen? p:=World.frozen?_of_block (hg.block p.block hlt hne)
structure Mid (w1:World) (B:Nat) (kv ev:Value) (X:World):Prop where
 c0:X.cell? ⟨B,0,none⟩=some kv
 c1:X.cell? ⟨B,1,none⟩=some ev
 f0:X.frozen? ⟨B,0,none⟩=false
 f1:X.frozen? ⟨B,1,none⟩=false
 lt:B < X.heap.size
 le:w1.heap.size≤X.heap.size
 bel:Below B w1 X
theorem Mid.alloc {w1:World} {B:Nat} {kv ev:Value} {X:World} (h:Mid w1 B kv ev X) (o:Obj):Mid w1 B kv ev (X.alloc o) where
 c0:=by have:=h.lt;simp [go_sem,h.c0,this]
 c1:=by have:=h.lt;simp [go_sem,h.c1,this]
 f0:=by have:=h.lt;simp [go_sem,h.f0,this]
 f1:=by have:=h.lt;simp [go_sem,h.f1,this]
 lt:=by have:=h.lt;simp;omega
 le:=by have:=h.le;simp;omega
 bel:=h.bel.alloc (Nat.le_of_lt h.lt) o
theorem Mid.drew {w1:World} {B:Nat} {kv ev:Value} {X:World} (h:Mid w1 B kv ev X):Mid w1 B kv ev X.drew:=⟨h.c0,h.c1,h.f0,h.f1,h.lt,h.le,h.bel.drew⟩
theorem Mid.grown {w1:World} {B:Nat} {kv ev:Value} {X w':World} {row:Option Nat} (h:Mid w1 B kv ev X) (hg:X.grownBy w' row) (hr:∀ k,row=some k→B < k):Mid w1 B kv ev w' where
 c0:=by rw [gb_cell hg h.lt (fun e=>by have:=hr B e.symm;omega)];exact h.c0
 c1:=by rw [gb_cell hg h.lt (fun e=>by have:=hr B e.symm;omega)];exact h.c1
 f0:=by rw [gb_frozen hg h.lt (fun e=>by have:=hr B e.symm;omega)];exact h.f0
 f1:=by rw [gb_frozen hg h.lt (fun e=>by have:=hr B e.symm;omega)];exact h.f1
 lt:=Nat.lt_of_lt_of_le h.lt hg.size
 le:=Nat.le_trans h.le hg.size
 bel:=h.bel.grown hg (Nat.le_of_lt h.lt) (fun k hk=>by have:=hr k hk;omega)
theorem TabSt.mid {w:World} {B j:Nat} {K E:List Int} {kv ev:Value} {wx:World} (h:TabSt w B j K E kv ev wx):Mid wx B kv ev wx:=⟨h.c0,h.c1,h.f0,h.f1,h.lt,Nat.le_refl _,Below.refl _ _⟩
theorem own_row {w:World} {base:Nat} {e:TypeId} {size:Nat} {v:Value} {n:Nat} {xs:List Value} (h:w.ownsRow (base+1) e size v n xs):∀ k,v.ownBlock=some k→base < k:=fun k hk=>(h.lt k hk).1
theorem app_ne {w1:World} {base n:Nat} {e:TypeId} {kv ev:Value} {ys:List Value} {g N:Nat} (dis:kv.ownBlock=none∨kv.ownBlock≠ev.ownBlock) (oe:w1.ownsRow base e 1 ev n ys) (hat:kv.ownBlock=some g∨g=N) (hN:w1.heap.size≤N):ev.ownBlock≠some g:=by
 intro q
 rcases hat with h|h
 · rcases dis with d|d
   · rw [d] at h;cases h
   · exact d (h.trans q.symm)
 · have:=(oe.lt g q).2
   omega
theorem app_ne' {w1:World} {base n:Nat} {e:TypeId} {kv ev:Value} {ys:List Value} {g N:Nat} (dis:kv.ownBlock=none∨kv.ownBlock≠ev.ownBlock) (ok:w1.ownsRow base e 1 kv n ys) (hat:ev.ownBlock=some g∨g=N) (hN:w1.heap.size≤N):kv.ownBlock≠some g:=by
 intro q
 rcases hat with h|h
 · rcases dis with d|d
   · rw [d] at q;cases q
   · exact d (q.trans h.symm)
 · have:=(ok.lt g q).2
   omega
theorem own_setCell_ne {w:World} {base:Nat} {e:TypeId} {size:Nat} {v:Value} {n:Nat} {xs:List Value} (h:w.ownsRow base e size v n xs) {a:Addr} (ha:v.ownBlock≠some a.block) (u:Value):(w.setCell a u).ownsRow base e size v n xs :=
 h.kept (row:=some a.block) ⟨rfl,rfl,rfl,by simp [World.setCell],fun k hk hr=>Below.heap_setCell _ _ _ _ (fun e=>hr (by rw [e]))⟩ (.inr ha)
theorem tab_close {w w1 wl:World} {B j:Nat} {K E:List Int} {kv ev:Value} {x y:Int} {g1 cap1 g2 cap2:Nat} (S:TabSt w B j K E kv ev w1) (M:Mid w1 B kv ev wl)
 (h1:wl.ownsRow (B+1) 3 1 (.slice (some ⟨g1,0,none⟩) (j+1) cap1) (j+1) (intV K++[.int .i64 x])) (h2:wl.ownsRow (B+1) 44 1 (.slice (some ⟨g2,0,none⟩) (j+1) cap2) (j+1) (intV E++[.int .i64 y])) (hne:g1≠g2) :
 TabEx w B (j+1) (K++[x]) (E++[y]) ((wl.setCell ⟨B,0,none⟩ (.slice (some ⟨g1,0,none⟩) (j+1) cap1)).setCell ⟨B,1,none⟩ (.slice (some ⟨g2,0,none⟩) (j+1) cap2)):=by
 have e1:intV K++[Value.int .i64 x]=intV (K++[x]):=by simp [intV]
 have e2:intV E++[Value.int .i64 y]=intV (E++[y]):=by simp [intV]
 rw [e1] at h1
 rw [e2] at h2
 have b1:=(h1.lt g1 rfl).1
 have b2:=(h2.lt g2 rfl).1
 have hlt:=M.lt
 have hc0:=M.c0
 have hc1:=M.c1
 refine ⟨.slice (some ⟨g1,0,none⟩) (j+1) cap1,.slice (some ⟨g2,0,none⟩) (j+1) cap2,⟨?_,?_,?_,?_,?_,?_,?_,.inr (by simp [Value.ownBlock,hne]),?_,S.le⟩⟩
 · simp [go_sem,hc0]
 · simp [go_sem,hc1]
 · simp [go_sem,M.f0]
 · simp [go_sem,M.f1]
 · simp [World.setCell];exact hlt
 · exact own_setCell_ne (own_setCell_ne h1 (by simp [Value.ownBlock];omega) _) (by simp [Value.ownBlock];omega) _
 · exact own_setCell_ne (own_setCell_ne h2 (by simp [Value.ownBlock];omega) _) (by simp [Value.ownBlock];omega) _
 · exact (((S.bel.trans (M.bel.mono S.le)).setCell (p:=⟨B,0,none⟩) S.le _).setCell (p:=⟨B,1,none⟩) S.le _)
theorem val_ok (a:Nd) (k:Fo) (h:valE a k=0):(wfB a (len k) && wfT k)=true∧sz k≤200:=by
 unfold valE at h
 cases q:fitB 0 1 k
 · rw [q] at h;simp at h
 · rw [q] at h
   cases q2:(wfB a (len k) && wfT k)
   · rw [q2] at h;simp at h
   · refine ⟨rfl,?_⟩
     unfold fitB at q;rw [decide_eq_true_eq] at q;omega
def TabPost (T:List (Int × Int)) (w:World) (e:Ending) (w':World):Prop:=∃ kv ev:Value,e=.returned (.agg #[kv,ev])∧IntsAt w' kv (T.map (·.1))∧IntsAt w' ev (T.map (·.2))∧Below w.heap.size w w'
theorem src_kept {wc W w':World} {v:Value} (h:∀ k,v.ownBlock=some k→k < wc.heap.size) (hg:W.grownBy w' v.ownBlock):∀ (p:Addr) (u:Value),wc.heap.size≤p.block→W.cell? p=some u→w'.cell? p=some u:=fun p u hp hc=>hg.cell (a:=p) hc (fun e=>by have:=h p.block e.symm;omega)
theorem own_slice {w:World} {base:Nat} {e:TypeId} {size:Nat} {v:Value} {n:Nat} {xs:List Value} (h:w.ownsRow base e size v n xs):∃ q m c,v=.slice q m c:=by
 rcases h.2 with ⟨hv,h0⟩|⟨g,cap,cur,hv,-⟩
 · exact ⟨_,_,_,hv⟩
 · exact ⟨_,_,_,hv⟩
theorem gg_ne {v:Value} {g g' n N:Nat} (h:v.ownBlock≠some g) (ha:v.ownBlock=some g'∨g'=N) (hl:g < n) (hN:n≤N):g≠g':=by
 intro q
 subst q
 rcases ha with h1|h1
 · exact h h1
 · omega
theorem dis_flip {a b:Option Nat} (h:a=none∨a≠b):b=none∨b≠a:=by
 rcases h with h|h
 · subst h;cases b
   · exact .inl rfl
   · exact .inr (by simp)
 · exact .inr (Ne.symm h)
set_option maxHeartbeats 16000000 in
set_option maxRecDepth 100000 in
theorem rtab_any (cs:List Cn) (p:Option Addr) (cap:Nat) (w:World) (hcs:CsV w cs p) (hcap:cs.length≤cap) :
 Calls Tryz.prog 49 #[.slice p cs.length cap] w (TabPost (tabN cs cs.length) w):=by
 obtain ⟨i0,hi,hi0,hi1,hi2⟩:=info_parts Tryz.infoI
 obtain ⟨j0,hj,hj0,hj1,hj2⟩:=info_parts Tryz.infoE
 have HCS:=Lib.hid hcs
 have hsm:=hcs.small
 clear hcs
 go_enter Tryz.func49,Tryz.ntmps49
 go_wp2_with fail
 have B0:Hid (Below w.heap.size w (w.alloc (.cells #[.slice none 0 0,.slice none 0 0] 93))):=(Below.refl _ _).alloc (Nat.le_refl _) _
 go_loopg [4] cs.length (fun g i wr=>∃ (j:Nat) (kv ev:Value),j≤cs.length∧i=.int .i64 j∧Hid (g=cs.length - j∧TabSt (w.alloc (.cells #[.slice none 0 0,.slice none 0 0] 93)) (w.heap.size+1) j ((tabN cs j).map (·.1)) ((tabN cs j).map (·.2)) kv ev wr))
 case atStart =>
  refine ⟨0,.slice none 0 0,.slice none 0 0,by omega,rfl,by omega,?_⟩
  exact ⟨by simp [go_sem],by simp [go_sem],by simp [go_sem],by simp [go_sem],by simp,World.ownsRow_nil _ _ _ _,World.ownsRow_nil _ _ _ _,.inl rfl,(Below.refl _ _).alloc (Nat.le_refl _) _,by simp⟩
 case round =>
  obtain ⟨j,kv,ev,hjn,rfl,HR⟩:=hrel
  by_cases hlt:j < cs.length
  · obtain ⟨c,hc⟩:∃ c,cs[j]?=some c:=⟨_,List.getElem?_eq_getElem (by omega)⟩
    have hcv:CsV wr cs p:=HCS.out.next (B0.out.trans (HR.out.2.bel.mono (by simp)))
    obtain ⟨B,O,rfl,⟨d0,d1,d2,d3,d4⟩,hx⟩:=hcv.get hc
    have hok:ExOk c.a c.k:=(HCS.out.ok c (List.mem_of_getElem? hc)).2
    have RT:=Lib.hid (rowT_eq cs j c hc)
    have HXX:=Lib.hid hx
    have HOK:=Lib.hid hok
    have HC:=Lib.hid hc
    have CVV:=Lib.hid hcv
    have V:=Lib.hid (rvexpr_any c.b c.o c.a.op c.a.num c.a.name c.a.ptr c.a.cap c.k wr hx hok)
    have hi1':(j:Int) < (cs.length:Int):=by omega
    clear hx hok hc hcv
    go_wp2_with fail
    refine V.out.mono ?_
    rw [show valE ⟨c.a.op,c.a.num,c.a.name,c.a.ptr,c.a.cap⟩ c.k=valE c.a c.k from rfl]
    rintro e w1 ⟨rfl,hb⟩
    have B1:=Lib.hid hb
    have S1:=Lib.hid (HR.out.2.next hb)
    clear hb d0 d1 d2 d3 d4 V
    obtain ⟨rr,hrr⟩:∃ rr,rr=rowT cs j:=⟨_,rfl⟩
    rw [← hrr] at RT
    have RR:=Lib.hid hrr
    clear hrr
    obtain ⟨rx,ry⟩:=rr
    go_upto_if 20 with (fail)
    go_cut [5,6] (fun v5 v6 wx=>v5=.int .i64 rx∧v6=.int .i64 ry∧Hid (TabSt (w.alloc (.cells #[.slice none 0 0,.slice none 0 0] 93)) (w.heap.size+1) j ((tabN cs j).map (·.1)) ((tabN cs j).map (·.2)) kv ev wx))
    case first =>
     by_cases h0:valE c.a c.k=0
     · have b0:(valE c.a c.k==0)=true:=by simp [h0]
       have Q:Hid (tyT (lookT cs (tabN cs j)) 0 c.a c.k=(rx,ry)):=by
        have:=RT.out
        unfold oneT at this
        rw [if_pos h0] at this
        exact this.symm
       have HV:=Lib.hid (val_ok c.a c.k h0)
       clear h0
       obtain ⟨B',O',hEq,⟨d0,d1,d2,d3,d4⟩,hx⟩:=(CVV.out.next B1.out).get HC.out
       simp only [Option.some.injEq,Addr.mk.injEq,and_true] at hEq
       obtain ⟨rfl,rfl⟩:=hEq
       have C:Hid (∀ dq os,Calls Tryz.prog 48 #[.agg #[kv,ev],.slice (some ⟨B,O,none⟩) j cap,.int .i64 0,.agg #[.int .i64 c.a.op,.int .i64 c.a.num,.string c.a.name,.slice c.a.ptr (len c.k) c.a.cap]] (Sort.grow (redrawn w1 dq) os)
        fun e w''=>e=.returned (.tuple #[.int .i64 rx,.int .i64 ry])∧∃ p:Regrown,w''=Sort.grow (redrawn w1 p.d) p.os):=by
        intro dq os
        have hb:=below_regrown w1 dq os
        have S:=S1.out.next hb
        have q:=rtyped_any c.b c.o c.a c.k (Sort.grow (redrawn w1 dq) os) cs (some ⟨B,O,none⟩) cap (tabN cs j) kv ev 0 (hx.next hb) HOK.out HV.out.1 HV.out.2 ((CVV.out.next B1.out).next hb) (by rw [tabN_len];omega) (ints_of_own S.ok) (ints_of_own S.oe)
        rw [tabN_len,Q.out] at q
        exact Calls.regrown_of q
       have e0:=fun d os=>cell_regrown S1.out.c0 d os
       have e1:=fun d os=>cell_regrown S1.out.c1 d os
       have e2:=fun d os=>cell_regrown d1 d os
       have e3:=fun d os=>cell_regrown d2 d os
       have e4:=fun d os=>cell_regrown d3 d os
       have e5:=fun d os=>cell_regrown d4 d os
       have hjc:(j:Int)≤(cap:Int):=by omega
       have hj0:(0:Int)≤(j:Int):=by omega
       clear hx
       go_upto_region 7 with (fail)
       refine wp_region_quiet_below (by kernel_rfl) (by kernel_rfl) ?_
       repeat (quiet_step (with_reducible exact C.out _ _))
       refine wpQuiet_nil ?_
       intro _ hw'
       obtain ⟨⟨dq,osq⟩,hw''⟩:=hw'
       subst hw''
       have S9:=Lib.hid (S1.out.next (below_regrown w1 dq osq))
       clear e0 e1 e2 e3 e4 e5 C d0 d1 d2 d3 d4
       generalize Sort.grow (redrawn w1 dq) osq=w9 at *
       go_wp2
       go_meet
       exact ⟨rfl,rfl,S9.out⟩
     · have b0:(valE c.a c.k==0)=false:=by simp [h0]
       have Q:Hid (0=rx∧valE c.a c.k=ry):=by
        have:=RT.out
        unfold oneT at this
        rw [if_neg h0] at this
        exact ⟨(congrArg Prod.fst this).symm,(congrArg Prod.snd this).symm⟩
       clear h0
       go_wp2
       go_meet
       exact ⟨by rw [Q.out.1],by rw [Q.out.2],S1.out⟩
    case rest =>
     obtain ⟨rfl,rfl,S2⟩:=hcut
     have SD:=Lib.hid (S2.out.next (Below.refl _ _).drew)
     have M1:=Lib.hid SD.out.mid
     have o1k:=Lib.hid SD.out.ok
     have o1e:=Lib.hid SD.out.oe
     have disK:=Lib.hid S2.out.dis
     have disE:=Lib.hid (dis_flip S2.out.dis)
     have y0:=S2.out.c0
     have y1:=S2.out.c1
     have y2:=S2.out.f0
     have y3:=S2.out.f1
     have hszc:=S2.out.lt
     have hszc1:w.heap.size+1 < wc.heap.size+1:=by omega
     have hszc2:w.heap.size+1 < wc.heap.size+2:=by omega
     have e:Hid (tabN cs (j+1)=tabN cs j++[(rx,ry)]):=by
      unfold Hid
      rw [tabN,HC.out];simp only;rw [← RT.out]
     go_upto_region 8 with (fail)
     go_region_law (first
      | (refine step_append_lies _ (by rfl) _ _ 22 (by rfl) (w.heap.size+2) 3 i0 (.int .i64 0) 1 8 Tryz.underlying22 hi hi0 hi1 hi2 rfl (by decide) kv j (intV ((tabN cs j).map (·.1))) (by rfl) (by first|exact o3k.out|exact World.ownsRow.alloc o3k.out _|exact World.ownsRow.alloc (World.ownsRow.alloc o3k.out _) _|exact o1k.out|exact World.ownsRow.alloc o1k.out _|exact World.ownsRow.alloc (World.ownsRow.alloc o1k.out _) _) _ 1 1 [.int .i64 rx] (by rfl) (by rfl) (by intro q u hu;cases q with|zero=>(simp at hu;subst hu;first|(simp [Addr.add,go_sem];done)|(refine src3.out _ _ (by simp [Addr.add]) ?_;simp [Addr.add,go_sem];done))|succ q=>simp at hu) (by intro u hu;simp at hu;subst hu;rfl) (by decide) (by unfold maxLen;omega) (by omega) (by have:=hszc;first|omega|(simp;omega)) _ rfl ?_;intro g1 cap1 w2 hown1 hgrow1 hat1 hlt1;have M2:=Lib.hid (Mid.grown (by first|exact M3.out|exact M3.out.alloc _|exact (M3.out.alloc _).alloc _|exact M1.out|exact M1.out.alloc _|exact (M1.out.alloc _).alloc _) hgrow1 (own_row S2.out.ok));first|(have hgg:=(gg_ne hne3.out hat1 hlt2 (by first|(simp;done)|(simp;omega))).symm;(first|have h2o:=Lib.hid (World.ownsRow.kept hown2 hgrow1 (.inr (fun q=>hne3.out q.symm)))|have h2o:=Lib.hid (World.ownsRow.kept (World.ownsRow.alloc hown2 _) hgrow1 (.inr (fun q=>hne3.out q.symm)))|have h2o:=Lib.hid (World.ownsRow.kept (World.ownsRow.alloc (World.ownsRow.alloc hown2 _) _) hgrow1 (.inr (fun q=>hne3.out q.symm))));have TE:=Lib.hid (tab_close SD.out M2.out hown1 h2o.out hgg);have M2a:=M2.out.c0;have M2b:=M2.out.c1;have M2c:=M2.out.f0;have M2d:=M2.out.f1;have M2e:=M2.out.lt)|(have o2e:=Lib.hid (World.ownsRow.kept (by first|exact o1e.out|exact World.ownsRow.alloc o1e.out _|exact World.ownsRow.alloc (World.ownsRow.alloc o1e.out _) _) hgrow1 disE.out);have src2:=Lib.hid (src_kept (fun k hk=>(S2.out.ok.lt k hk).2) hgrow1);have hnk:=Lib.hid (app_ne S2.out.dis S2.out.oe hat1 (by first|(simp;done)|(simp;omega)));have M2a:=M2.out.c0;have M2b:=M2.out.c1;have M2c:=M2.out.f0;have M2d:=M2.out.f1;have M2e:=M2.out.lt;have M2f:w.heap.size+1 < w2.heap.size+1:=(by omega)))
      | (refine step_append_lies _ (by rfl) _ _ 91 (by rfl) (w.heap.size+2) 44 j0 (.int .i64 0) 1 8 Tryz.underlying91 hj hj0 hj1 hj2 rfl (by decide) ev j (intV ((tabN cs j).map (·.2))) (by rfl) (by first|exact o2e.out|exact World.ownsRow.alloc o2e.out _|exact World.ownsRow.alloc (World.ownsRow.alloc o2e.out _) _|exact o1e.out|exact World.ownsRow.alloc o1e.out _|exact World.ownsRow.alloc (World.ownsRow.alloc o1e.out _) _) _ 1 1 [.int .i64 ry] (by rfl) (by rfl) (by intro q u hu;cases q with|zero=>(simp at hu;subst hu;first|(simp [Addr.add,go_sem];done)|(refine src2.out _ _ (by simp [Addr.add]) ?_;simp [Addr.add,go_sem];done))|succ q=>simp at hu) (by intro u hu;simp at hu;subst hu;rfl) (by decide) (by unfold maxLen;omega) (by omega) (by have:=hszc;first|omega|(simp;omega)) _ rfl ?_;intro g2 cap2 w3 hown2 hgrow2 hat2 hlt2;have M3:=Lib.hid (Mid.grown (by first|exact M2.out|exact M2.out.alloc _|exact (M2.out.alloc _).alloc _|exact M1.out|exact M1.out.alloc _|exact (M1.out.alloc _).alloc _) hgrow2 (own_row S2.out.oe));first|(have hgg:=gg_ne hnk.out hat2 hlt1 (by first|(simp;done)|(simp;omega));(first|have h2o:=Lib.hid (World.ownsRow.kept hown1 hgrow2 (.inr (fun q=>hnk.out q.symm)))|have h2o:=Lib.hid (World.ownsRow.kept (World.ownsRow.alloc hown1 _) hgrow2 (.inr (fun q=>hnk.out q.symm)))|have h2o:=Lib.hid (World.ownsRow.kept (World.ownsRow.alloc (World.ownsRow.alloc hown1 _) _) hgrow2 (.inr (fun q=>hnk.out q.symm))));have TE:=Lib.hid (tab_close SD.out M3.out h2o.out hown2 hgg);have M3a:=M3.out.c0;have M3b:=M3.out.c1;have M3c:=M3.out.f0;have M3d:=M3.out.f1;have M3e:=M3.out.lt)|(have o3k:=Lib.hid (World.ownsRow.kept (by first|exact o1k.out|exact World.ownsRow.alloc o1k.out _|exact World.ownsRow.alloc (World.ownsRow.alloc o1k.out _) _) hgrow2 disK.out);have src3:=Lib.hid (src_kept (fun k hk=>(S2.out.oe.lt k hk).2) hgrow2);have hne3:=Lib.hid (app_ne' S2.out.dis S2.out.ok hat2 (by first|(simp;done)|(simp;omega)));have M3a:=M3.out.c0;have M3b:=M3.out.c1;have M3c:=M3.out.f0;have M3d:=M3.out.f1;have M3e:=M3.out.lt;have M3f:w.heap.size+1 < w3.heap.size+1:=(by omega))))
     all_goals (
      obtain ⟨kv',ev',S3⟩:=TE.out
      have S4:=Lib.hid S3
      clear S3
      go_wp2
      go_roundg (cs.length - (j+1))
      case measure=>(have:=HR.out.1;omega)
      case rel=>(
       refine ⟨j+1,kv',ev',by omega,by go_num,rfl,?_⟩
       have:=S4.out
       rw [e.out,List.map_append,List.map_append]
       exact this))
  · obtain rfl:j=cs.length:=by omega
    have hn:¬ (cs.length:Int) < (cs.length:Int):=by omega
    have hw0:∀ i:Nat,wr.cell? ⟨w.heap.size,i,none⟩=(w.alloc (.cells #[.slice none 0 0,.slice none 0 0] 93)).cell? ⟨w.heap.size,i,none⟩:=fun i=>HR.out.2.bel.cell (p:=⟨w.heap.size,i,none⟩) (by simp)
    have hw1:∀ i:Nat,wr.frozen? ⟨w.heap.size,i,none⟩=(w.alloc (.cells #[.slice none 0 0,.slice none 0 0] 93)).frozen? ⟨w.heap.size,i,none⟩:=fun i=>HR.out.2.bel.frozen (p:=⟨w.heap.size,i,none⟩) (by simp)
    have z0:wr.cell? ⟨w.heap.size,0,none⟩=some (.slice none 0 0):=by rw [hw0];simp [go_sem]
    have z1:wr.cell? ⟨w.heap.size,1,none⟩=some (.slice none 0 0):=by rw [hw0];simp [go_sem]
    have z2:wr.frozen? ⟨w.heap.size,0,none⟩=false:=by rw [hw1];simp [go_sem]
    have z3:wr.frozen? ⟨w.heap.size,1,none⟩=false:=by rw [hw1];simp [go_sem]
    obtain ⟨q1,n1,c1,rfl⟩:=own_slice HR.out.2.ok
    obtain ⟨q2,n2,c2,rfl⟩:=own_slice HR.out.2.oe
    have y0:=HR.out.2.c0
    have y1:=HR.out.2.c1
    clear hw0 hw1
    go_wp2
    (try simp only [Exit.inBlock,Exit.then])
    refine bodyPost_ret (v:=.agg #[.slice q1 n1 c1,.slice q2 n2 c2]) ?_ rfl ⟨_,_,rfl,?_,?_,?_⟩
    · rw [results_cell1 rfl]
      go_simp
    · exact ints_of_own (own_setCell_ne (own_setCell_ne HR.out.2.ok (fun q=>by have:=(HR.out.2.ok.lt _ q).1;simp at this;omega) _) (fun q=>by have:=(HR.out.2.ok.lt _ q).1;simp at this;omega) _)
    · exact ints_of_own (own_setCell_ne (own_setCell_ne HR.out.2.oe (fun q=>by have:=(HR.out.2.oe.lt _ q).1;simp at this;omega) _) (fun q=>by have:=(HR.out.2.oe.lt _ q).1;simp at this;omega) _)
    · exact (((B0.out.trans (HR.out.2.bel.mono (by simp))).setCell (p:=⟨w.heap.size,0,none⟩) (Nat.le_refl _) _).setCell (p:=⟨w.heap.size,1,none⟩) (Nat.le_refl _) _)
end Go.Proofs.YtljdcpobomfnpaaGreat
