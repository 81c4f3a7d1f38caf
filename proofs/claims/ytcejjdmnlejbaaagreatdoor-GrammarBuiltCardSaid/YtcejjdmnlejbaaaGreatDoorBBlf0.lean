import Derived.Test.YtcejjdmnlejbaaaGreatDoorBGk0
import Derived.Test.YtcejjdmnlejbaaaGreatDoorBGe
namespace Go.Proofs.YtcejjdmnlejbaaaGreatDoor
set_option linter.unusedVariables false
set_option linter.unusedSimpArgs false
open Go.ChangeShapes Go.WideShapes Go.ChangeAt Go.RowKit
open Go.Deep (BT)
def EPost (w:World) (sb:Nat) (v:Value) (n t m:Nat) (sc kind:Int) (lv:Nat) (e:Ending) (w':World):Prop :=
 ∃ c:Ch,e=.returned (.agg #[.int .i64 c.a.op,.int .i64 c.a.num,.string c.a.name,.slice c.a.ptr (len c.k) c.a.cap])∧Plain sc kind lv c.a c.k∧ChAt w' w.heap.size c∧BP w sb v n t m w'
theorem RB.lt' {w:World} {r:Nat} (h:RB w r):r≤w.heap.size:=Nat.le_of_lt h.lt
theorem below_four {w:World} {r B:Nat} {a b c d:Value} (h:B≤r:=by exact Nat.le_refl _):Below B w ((((w.setCell ⟨r,0,none⟩ a).setCell ⟨r,1,none⟩ b).setCell ⟨r,2,none⟩ c).setCell ⟨r,3,none⟩ d) :=
 ((((Below.refl _ _).setCell h _).setCell h _).setCell h _).setCell h _
theorem bp_store {w wx w':World} {sb:Nat} {v:Value} {n t t' m:Nat} (hs:Src wx sb v n t') (hg:w.grownBy wx (some sb)) (hr:w.heap.size≤wx.heap.size) (hl:sb < w.heap.size) (h1:t≤t') (h2:t'≤t+m) (hb:Below w.heap.size wx w'):BP w sb v n t m w' :=
 ⟨⟨t',h1,h2,hs.below hb hl⟩,grw_below hg hb⟩
theorem strs_view {w:World} {v:Value} {L:List (List UInt8)} (h:StrsAt w v L):∃ p cap,v=.slice p L.length cap∧∀ (i:Nat) l,L[i]?=some l→∃ g,p=some ⟨g,0,none⟩∧w.cell? ⟨g,i,none⟩=some (.string ⟨l.toArray⟩):=by
 rcases h with ⟨rfl,rfl⟩|⟨g,cap,rfl,hc⟩
 · exact ⟨none,0,rfl,fun i l h=>by simp at h⟩
 · exact ⟨_,cap,rfl,fun i l h=>⟨g,rfl,hc i _ (by simp [strV,h])⟩⟩
theorem own_view {w:World} {base:Nat} {v:Value} {n:Nat} {M:List (List UInt8)} (h:w.ownsRow base 9 1 v n (strV M)):∃ p cap,v=.slice p n cap∧∀ (i:Nat) l,M[i]?=some l→∃ g,p=some ⟨g,0,none⟩∧base≤g∧w.cell? ⟨g,i,none⟩=some (.string ⟨l.toArray⟩):=by
 have hl:=h.1
 simp [strV] at hl
 rcases h.2 with ⟨hv,h0⟩|⟨g,cap,cur,hv,hb,-⟩
 · subst hv
   exact ⟨none,0,by rw [h0],fun i l q=>by rw [h0] at hl;rw [List.length_eq_zero_iff.1 hl] at q;simp at q⟩
 · subst hv
   refine ⟨_,cap,rfl,fun i l q=>⟨g,rfl,hb,?_⟩⟩
   have hi:i < n * 1:=by have:=(List.getElem?_eq_some_iff.1 q).1;omega
   rw [h.cellAt i hi];simp [strV,q]
theorem wf_num (op x:Int) (h:((op=1∨op=2)∧0≤x∧x≤1099511627776)∨(op=3∧0≤x∧x≤1439)):wfB ⟨op,x,⟨#[]⟩,none,0⟩ 0=true:=by
 have h1:numB op x=true:=by
  unfold numB
  rcases h with ⟨h,hx⟩|⟨rfl,hx⟩
  · rw [if_pos h];exact decide_eq_true hx
  · rw [if_neg (by omega),if_pos rfl];exact decide_eq_true hx
 unfold wfB
 dsimp only
 rw [h1]
 rcases h with ⟨rfl|rfl,-⟩|⟨rfl,-⟩<;>rfl
set_option maxHeartbeats 8000000 in
set_option maxRecDepth 100000 in
theorem bleaf_any (sb:Nat) (v:Value) (n t:Nat) (sc kind:Int) (w:World) (h:Src w sb v n t) (ht:t+10≤1099511627776) (hs:sc=0∨sc=1∨sc=2∨sc=3) (hk:kind=1∨kind=2∨kind=3∨kind=4) :
 Calls Tryz.prog 84 #[.pointer (some ⟨sb,0,none⟩),.int .i64 sc,.int .i64 kind] w (EPost w sb v n t 4 sc kind 1):=by
 obtain ⟨i0,hi,hz0,hz1,hz2⟩:=info_parts Tryz.infoS
 have H:=Lib.hid h
 have HS:=Lib.hid hs
 have HK:=Lib.hid hk
 have HLT:=Lib.hid h.lt
 have hk0:Hid (kind≠0):=by unfold Hid;omega
 clear h hs hk
 go_enter Tryz.func84,Tryz.ntmps84
 go_wp2_with fail
 have B0:Hid (Below w.heap.size w (w.alloc (.cells #[.int .i64 0,.int .i64 0,.string ⟨#[]⟩,.slice none 0 0] 24))):=(Below.refl _ _).alloc (Nat.le_refl _) _
 have R0:Hid (RB (w.alloc (.cells #[.int .i64 0,.int .i64 0,.string ⟨#[]⟩,.slice none 0 0] 24)) w.heap.size):=⟨⟨_,by simp [go_sem];rfl⟩,⟨_,by simp [go_sem];rfl⟩,⟨_,by simp [go_sem];rfl⟩,⟨_,by simp [go_sem];rfl⟩,by simp [go_sem],by simp [go_sem],by simp [go_sem],by simp [go_sem],by simp⟩
 generalize w.alloc (.cells #[.int .i64 0,.int .i64 0,.string ⟨#[]⟩,.slice none 0 0] 24)=w0 at *
 refine (next_any sb v n t 3 w0 (H.out.next B0.out) (by omega) (by omega) (by omega)).mono ?_
 rintro e w1 ⟨⟨r3,hr3,rfl⟩,hS,hg⟩
 have S1:=Lib.hid hS
 have G1:Hid (w.grownBy w1 (some sb)):=(grw_of_below _ B0.out).trans hg
 have R1:Hid (RB w1 w.heap.size):=R0.out.grown hg (by simp;have:=HLT.out;omega)
 clear hS hg
 go_upto_if 14 with (fail)
 go_cut [] (fun wx=>Hid (Src wx sb v n (t+1)∧RB wx w.heap.size∧w.grownBy wx (some sb)))
 case first =>
  by_cases h3:0 < r3
  · have b3 : (0:Int) < (r3:Int):=by omega
    go_wp2_with fail
    refine (rattrs_any sc w1).mono ?_
    have LM:=Lib.hid (list_wf sc HS.out)
    have LN:Hid ((Att.listL sc).length≤25):=by unfold Hid;rcases HS.out with rfl|rfl|rfl|rfl<;>decide
    generalize hLL:Att.listL sc=LL at *
    have HLL:=Lib.hid hLL
    clear hLL
    rintro e w2 ⟨av,rfl,hav,hb⟩
    obtain ⟨p1,cap1,rfl,gg⟩:=strs_view hav
    have GG:=Lib.hid gg
    have B2:=Lib.hid hb
    clear gg hav hb
    have hL25:LL.length≤25:=LN.out
    go_wp2_with fail
    go_loopw [7,9] (fun nv i wr=>∃ (j:Nat) (M:List (List UInt8)),j≤LL.length∧i=.int .i64 j∧Hid (wr.ownsRow w2.heap.size 9 1 nv M.length (strV M)∧M.length≤j∧(∀ m ∈ M,m ∈ LL∧Att.atT sc m=kind)∧Below w2.heap.size w2 wr)) (fun _ i _=>LL.length - (intOf i).toNat)
    case atStart=>exact ⟨0,[],by omega,rfl,World.ownsRow_nil _ _ _ _,Nat.le_refl _,(fun m hm=>by cases hm),Below.refl _ _⟩
    case round =>
     obtain ⟨j,M,hj,rfl,HR⟩:=hrel
     obtain ⟨nq,ncap,rfl,nv⟩:=own_view HR.out.1
     have NV:=Lib.hid nv
     clear nv
     by_cases hlt:j < LL.length
     · obtain ⟨l,hl⟩:∃ l,LL[j]?=some l:=⟨_,List.getElem?_eq_getElem (by omega)⟩
       obtain ⟨g1,rfl,q1⟩:=GG.out j l hl
       have hj1:(j:Int) < (LL.length:Int):=by omega
       have hj0:(0:Int)≤(j:Int):=by omega
       have k1:wr.cell? ⟨g1,j,none⟩=some (.string ⟨l.toArray⟩):=by rw [HR.out.2.2.2.cell (block_lt_of_cell q1)];exact q1
       have hll:Hid (l ∈ LL):=List.mem_of_getElem? hl
       have hn:Hid ((⟨l.toArray⟩:ByteArray).size≤9223372036854775807):=by
        have:=(LM.out l hll.out).2
        unfold Hid
        show l.toArray.size≤_
        simp;omega
       have g1lt:Hid (g1 < w2.heap.size):=block_lt_of_cell q1
       clear hl q1
       go_wp2_with fail
       refine (ratt_any sc ⟨l.toArray⟩ _ hn.out).mono ?_
       have hat:Hid (atS sc ⟨l.toArray⟩=Att.atT sc l):=by unfold Hid atS;simp
       generalize atE sc ⟨l.toArray⟩=r6
       generalize atS sc ⟨l.toArray⟩=r5 at *
       rintro e w6 ⟨rfl,hb⟩
       have B6:=Lib.hid hb
       have k2:w6.cell? ⟨g1,j,none⟩=some (.string ⟨l.toArray⟩):=by rw [hb.cell (block_lt_of_cell k1)];exact k1
       clear hb k1
       by_cases hq:r5=kind
       · have bq:(r5==kind)=true:=by simp [hq]
         have ATK:Hid (Att.atT sc l=kind):=by unfold Hid;rw [← hat.out,hq]
         have OW:=Lib.hid (own_below HR.out.1 B6.out)
         have hMj:M.length≤25:=by have:=HR.out.2.1;omega
         have sz6:Hid (w2.heap.size≤w6.heap.size):=Nat.le_trans HR.out.2.2.2.size B6.out.size
         clear hq
         go_wp2_with (at_builtin;refine wpList_append_own _ rfl _ _ 73 rfl w2.heap.size 9 i0 (.string ⟨#[]⟩) 1 16 Tryz.underlying73 hi hz0 hz1 hz2 rfl (by decide) _ _ _ rfl (OW.out.alloc _) ⟨w6.heap.size,0,none⟩ 1 1 [.string ⟨l.toArray⟩] rfl rfl ?c1 ?c2 ?c3 ?c4 ?c5 ?_)
         case c1=>intro q u hu;cases q with
          | zero=>simp at hu;subst hu;simp [Addr.add]
          | succ q=>simp at hu
         case c2=>intro u hu;simp at hu;subst hu;rfl
         case c3=>unfold maxLen;omega
         case c4=>omega
         case c5=>have:=sz6.out;simp;omega
         intro v' w7 hown hgrow hnil
         have B7:Hid (Below w2.heap.size w2 w7):=by
          have q:=(HR.out.2.2.2.trans (B6.out.mono HR.out.2.2.2.size)).alloc sz6.out (.cells #[.string ⟨l.toArray⟩] 9)
          exact q.grown hgrow (by have:=sz6.out;simp;omega) (fun m hm=>(OW.out.lt m hm).1)
         have OW7:Hid (w7.ownsRow w2.heap.size 9 1 v' (M++[l]).length (strV (M++[l]))):=by
          have e:strV M++[.string ⟨l.toArray⟩]=strV (M++[l]):=by simp [strV]
          rw [e] at hown
          unfold Hid
          rw [List.length_append];exact hown
         clear hown hgrow hnil k2
         go_wp2
         go_roundw
         case rel =>
          refine ⟨j+1,M++[l],by omega,by go_num,OW7.out,by have:=HR.out.2.1;simp;omega,fun m hm=>?_,B7.out⟩
          rcases List.mem_append.1 hm with hm|hm
          · exact HR.out.2.2.1 m hm
          · rw [List.mem_singleton.1 hm];exact ⟨hll.out,ATK.out⟩
         case measure=>simp [intOf];omega
       · have bq:(r5==kind)=false:=by simp [hq]
         clear hq k2
         go_wp2
         go_roundw
         case rel=>exact ⟨j+1,M,by omega,by go_num,own_below HR.out.1 B6.out,by have:=HR.out.2.1;omega,HR.out.2.2.1,HR.out.2.2.2.trans (B6.out.mono HR.out.2.2.2.size)⟩
         case measure=>simp [intOf];omega
     · have hj1:¬ (j:Int) < (LL.length:Int):=by omega
       have BR:Hid (Below w1.heap.size w1 wr):=B2.out.trans (HR.out.2.2.2.mono B2.out.size)
       have SR:=Lib.hid (S1.out.next BR.out)
       have RR:=Lib.hid (R1.out.next BR.out)
       have GR:Hid (w.grownBy wr (some sb)):=grw_below G1.out (BR.out.mono G1.out.size)
       by_cases hM:M.length=0
       · have bM:¬ (0:Int) < (M.length:Int):=by omega
         go_wp2
         go_meet
         exact ⟨SR.out,RR.out,GR.out⟩
       · have bM:(0:Int) < (M.length:Int):=by omega
         have hM25:M.length≤25:=by have:=HR.out.2.1;omega
         go_wp2_with fail
         refine (next_any sb v n (t+1) M.length wr SR.out (by omega) (by omega) (by omega)).mono ?_
         rintro e wx ⟨⟨r,hr,rfl⟩,hS,hg⟩
         have SX:=Lib.hid hS
         have GX:Hid (w.grownBy wx (some sb)):=GR.out.trans hg
         have RX:Hid (RB wx w.heap.size):=RR.out.grown hg (by simp;have:=HLT.out;omega)
         obtain ⟨l,hl⟩:∃ l,M[r]?=some l:=⟨_,List.getElem?_eq_getElem (by omega)⟩
         obtain ⟨g2,rfl,hg2,q2⟩:=NV.out r l hl
         have k2:wx.cell? ⟨g2,r,none⟩=some (.string ⟨l.toArray⟩):=by
          rw [World.cell?_of_block (hg.block g2 (block_lt_of_cell q2) (by simp;have h1:=S1.out.lt;have h2:=B2.out.size;omega))]
          exact q2
         have PL:=Lib.hid (plain_attr sc kind HS.out l (by rw [HLL.out];exact (HR.out.2.2.1 l (List.mem_of_getElem? hl)).1) (HR.out.2.2.1 l (List.mem_of_getElem? hl)).2 hk0.out)
         have hr1:(r:Int) < (M.length:Int):=by omega
         have hr0:(0:Int)≤(r:Int):=by omega
         clear hS hg q2 hl
         obtain ⟨⟨u0,q0⟩,⟨u1,q1⟩,⟨u2,q2⟩,⟨u3,q3⟩,f0,f1,f2,f3,rlt⟩:=RX.out
         go_wp2
         refine bodyPost_ret (v:=.agg #[.int .i64 6,.int .i64 0,.string ⟨l.toArray⟩,.slice none 0 0]) ?_ rfl ⟨⟨0,0,⟨6,0,⟨l.toArray⟩,none,0⟩,.nil⟩,rfl,PL.out,⟨⟨fun q=>absurd rfl q,trivial⟩,trivial⟩,bp_store SX.out GX.out RX.out.lt' HLT.out (by omega) (by omega) below_four⟩
         rw [results_cell1 rfl]
         go_simp
  · have b3:¬ (0:Int) < (r3:Int):=by omega
    go_wp2
    go_meet
    exact ⟨S1.out,R1.out,G1.out⟩
 case rest =>
  have SC:=Lib.hid hcut.out.1
  have RC:=Lib.hid hcut.out.2.1
  have GC:=Lib.hid hcut.out.2.2
  clear hcut S1 R1 G1 R0 B0
  rcases HK.out with rfl|rfl|rfl|rfl
  · go_wp2_with fail
    refine (next_any sb v n (t+1) 4 wc SC.out (by omega) (by omega) (by omega)).mono ?_
    rintro e w4 ⟨⟨r4,hr4,rfl⟩,hS,hg⟩
    have SW:=Lib.hid hS
    have GW:Hid (w.grownBy w4 (some sb)):=GC.out.trans hg
    have RW:Hid (RB w4 w.heap.size):=RC.out.grown hg (by simp;have:=HLT.out;omega)
    clear hS hg
    by_cases h4:r4=0
    · have b4:((r4:Int)==0)=true:=by simp [h4]
      clear h4
      have SX:=SW
      have GX:=GW
      have RX:=RW
      obtain ⟨⟨u0,q0⟩,⟨u1,q1⟩,⟨u2,q2⟩,⟨u3,q3⟩,f0,f1,f2,f3,rlt⟩:=RX.out
      go_wp2
      refine bodyPost_ret (v:=.agg #[.int .i64 6,.int .i64 0,.string ⟨#[116,119,111]⟩,.slice none 0 0]) ?_ rfl ⟨⟨0,0,⟨6,0,⟨#[116,119,111]⟩,none,0⟩,.nil⟩,rfl,(plain_const sc 1 HS.out _ (by first|exact .inl ⟨rfl,rfl⟩|exact .inr ⟨rfl,rfl⟩)),⟨⟨fun q=>absurd rfl q,trivial⟩,trivial⟩,bp_store SX.out GX.out RX.out.lt' HLT.out (by omega) (by omega) below_four⟩
      rw [results_cell1 rfl]
      go_simp
    · have b4:((r4:Int)==0)=false:=by simp [h4]
      clear h4 SC GC RC
      have SC:=SW
      have GC:=GW
      have RC:=RW
      clear SW GW RW
      go_wp2_with fail
      have BA:Hid (Below w4.heap.size w4 (w4.alloc (.cells #[.int .i64 0,.int .i64 1,.int .i64 1,.int .i64 2,.int .i64 3,.int .i64 5,.int .i64 60,.int .i64 1099511627776] 3))):=(Below.refl _ _).alloc (Nat.le_refl _) _
      have LA:Hid (∀ i x,([0,1,1,2,3,5,60,1099511627776]:List Int)[i]?=some x→(w4.alloc (.cells #[.int .i64 0,.int .i64 1,.int .i64 1,.int .i64 2,.int .i64 3,.int .i64 5,.int .i64 60,.int .i64 1099511627776] 3)).cell? ⟨w4.heap.size,i,none⟩=some (.int .i64 x)):=by
       intro i x hx
       rw [World.cell?_alloc_new]
       show ([.int .i64 0,.int .i64 1,.int .i64 1,.int .i64 2,.int .i64 3,.int .i64 5,.int .i64 60,.int .i64 1099511627776]:List Value).toArray[i]?=_
       rw [List.getElem?_toArray,show ([.int .i64 0,.int .i64 1,.int .i64 1,.int .i64 2,.int .i64 3,.int .i64 5,.int .i64 60,.int .i64 1099511627776]:List Value)=([0,1,1,2,3,5,60,1099511627776]:List Int).map (fun x=>Value.int .i64 x) from rfl,List.getElem?_map,hx];rfl
      generalize hwa:w4.alloc (.cells #[.int .i64 0,.int .i64 1,.int .i64 1,.int .i64 2,.int .i64 3,.int .i64 5,.int .i64 60,.int .i64 1099511627776] 3)=wa at *
      clear hwa
      refine (next_any sb v n (t+1+1) 8 wa (SC.out.next BA.out) (by omega) (by omega) (by omega)).mono ?_
      rintro e wx ⟨⟨r,hr,rfl⟩,hS,hg⟩
      have SX:=Lib.hid hS
      have GX:Hid (w.grownBy wx (some sb)):=(grw_below GC.out (BA.out.mono GC.out.size)).trans hg
      have RX:Hid (RB wx w.heap.size):=(RC.out.next BA.out).grown hg (by simp;have:=HLT.out;omega)
      obtain ⟨x,hx,hxb⟩:∃ x:Int,([0,1,1,2,3,5,60,1099511627776]:List Int)[r]?=some x∧0≤x∧x≤1099511627776:=by
       match r,hr with
        | 0,_=>exact ⟨_,rfl,by decide⟩
        | 1,_=>exact ⟨_,rfl,by decide⟩
        | 2,_=>exact ⟨_,rfl,by decide⟩
        | 3,_=>exact ⟨_,rfl,by decide⟩
        | 4,_=>exact ⟨_,rfl,by decide⟩
        | 5,_=>exact ⟨_,rfl,by decide⟩
        | 6,_=>exact ⟨_,rfl,by decide⟩
        | 7,_=>exact ⟨_,rfl,by decide⟩
      have cx:wx.cell? ⟨w4.heap.size,r,none⟩=some (.int .i64 x):=by
       have:=LA.out r x hx
       rw [World.cell?_of_block (hg.block w4.heap.size (block_lt_of_cell this) (by simp;have:=SC.out.lt;omega))]
       exact this
      have hr1:(r:Int) < 8:=by omega
      have hr0:(0:Int)≤(r:Int):=by omega
      clear hS hg LA hx BA
      obtain ⟨⟨u0,q0⟩,⟨u1,q1⟩,⟨u2,q2⟩,⟨u3,q3⟩,f0,f1,f2,f3,rlt⟩:=RX.out
      go_wp2
      refine bodyPost_ret (v:=.agg #[.int .i64 1,.int .i64 x,.string ⟨#[]⟩,.slice none 0 0]) ?_ rfl ⟨⟨0,0,⟨1,x,⟨#[]⟩,none,0⟩,.nil⟩,rfl,(plain_lit sc 1 x 1 (wf_num _ x (by first|exact .inl ⟨by omega,hxb⟩|exact .inr ⟨rfl,hxb⟩)) (by omega) (by omega) rfl (by decide)),⟨⟨fun q=>absurd rfl q,trivial⟩,trivial⟩,bp_store SX.out GX.out RX.out.lt' HLT.out (by omega) (by omega) below_four⟩
      rw [results_cell1 rfl]
      go_simp
  · go_wp2_with fail
    refine (next_any sb v n (t+1) 4 wc SC.out (by omega) (by omega) (by omega)).mono ?_
    rintro e w4 ⟨⟨r4,hr4,rfl⟩,hS,hg⟩
    have SW:=Lib.hid hS
    have GW:Hid (w.grownBy w4 (some sb)):=GC.out.trans hg
    have RW:Hid (RB w4 w.heap.size):=RC.out.grown hg (by simp;have:=HLT.out;omega)
    clear hS hg
    by_cases h4:r4=0
    · have b4:((r4:Int)==0)=true:=by simp [h4]
      clear h4
      have SX:=SW
      have GX:=GW
      have RX:=RW
      obtain ⟨⟨u0,q0⟩,⟨u1,q1⟩,⟨u2,q2⟩,⟨u3,q3⟩,f0,f1,f2,f3,rlt⟩:=RX.out
      go_wp2
      refine bodyPost_ret (v:=.agg #[.int .i64 6,.int .i64 0,.string ⟨#[115,104,105,102,116,95,116,105,109,101]⟩,.slice none 0 0]) ?_ rfl ⟨⟨0,0,⟨6,0,⟨#[115,104,105,102,116,95,116,105,109,101]⟩,none,0⟩,.nil⟩,rfl,(plain_const sc 2 HS.out _ (by first|exact .inl ⟨rfl,rfl⟩|exact .inr ⟨rfl,rfl⟩)),⟨⟨fun q=>absurd rfl q,trivial⟩,trivial⟩,bp_store SX.out GX.out RX.out.lt' HLT.out (by omega) (by omega) below_four⟩
      rw [results_cell1 rfl]
      go_simp
    · have b4:((r4:Int)==0)=false:=by simp [h4]
      clear h4 SC GC RC
      have SC:=SW
      have GC:=GW
      have RC:=RW
      clear SW GW RW
      go_wp2_with fail
      have BA:Hid (Below w4.heap.size w4 (w4.alloc (.cells #[.int .i64 0,.int .i64 0,.int .i64 15,.int .i64 60,.int .i64 90,.int .i64 600,.int .i64 780,.int .i64 1099511627776] 3))):=(Below.refl _ _).alloc (Nat.le_refl _) _
      have LA:Hid (∀ i x,([0,0,15,60,90,600,780,1099511627776]:List Int)[i]?=some x→(w4.alloc (.cells #[.int .i64 0,.int .i64 0,.int .i64 15,.int .i64 60,.int .i64 90,.int .i64 600,.int .i64 780,.int .i64 1099511627776] 3)).cell? ⟨w4.heap.size,i,none⟩=some (.int .i64 x)):=by
       intro i x hx
       rw [World.cell?_alloc_new]
       show ([.int .i64 0,.int .i64 0,.int .i64 15,.int .i64 60,.int .i64 90,.int .i64 600,.int .i64 780,.int .i64 1099511627776]:List Value).toArray[i]?=_
       rw [List.getElem?_toArray,show ([.int .i64 0,.int .i64 0,.int .i64 15,.int .i64 60,.int .i64 90,.int .i64 600,.int .i64 780,.int .i64 1099511627776]:List Value)=([0,0,15,60,90,600,780,1099511627776]:List Int).map (fun x=>Value.int .i64 x) from rfl,List.getElem?_map,hx];rfl
      generalize hwa:w4.alloc (.cells #[.int .i64 0,.int .i64 0,.int .i64 15,.int .i64 60,.int .i64 90,.int .i64 600,.int .i64 780,.int .i64 1099511627776] 3)=wa at *
      clear hwa
      refine (next_any sb v n (t+1+1) 8 wa (SC.out.next BA.out) (by omega) (by omega) (by omega)).mono ?_
      rintro e wx ⟨⟨r,hr,rfl⟩,hS,hg⟩
      have SX:=Lib.hid hS
      have GX:Hid (w.grownBy wx (some sb)):=(grw_below GC.out (BA.out.mono GC.out.size)).trans hg
      have RX:Hid (RB wx w.heap.size):=(RC.out.next BA.out).grown hg (by simp;have:=HLT.out;omega)
      obtain ⟨x,hx,hxb⟩:∃ x:Int,([0,0,15,60,90,600,780,1099511627776]:List Int)[r]?=some x∧0≤x∧x≤1099511627776:=by
       match r,hr with
        | 0,_=>exact ⟨_,rfl,by decide⟩
        | 1,_=>exact ⟨_,rfl,by decide⟩
        | 2,_=>exact ⟨_,rfl,by decide⟩
        | 3,_=>exact ⟨_,rfl,by decide⟩
        | 4,_=>exact ⟨_,rfl,by decide⟩
        | 5,_=>exact ⟨_,rfl,by decide⟩
        | 6,_=>exact ⟨_,rfl,by decide⟩
        | 7,_=>exact ⟨_,rfl,by decide⟩
      have cx:wx.cell? ⟨w4.heap.size,r,none⟩=some (.int .i64 x):=by
       have:=LA.out r x hx
       rw [World.cell?_of_block (hg.block w4.heap.size (block_lt_of_cell this) (by simp;have:=SC.out.lt;omega))]
       exact this
      have hr1:(r:Int) < 8:=by omega
      have hr0:(0:Int)≤(r:Int):=by omega
      clear hS hg LA hx BA
      obtain ⟨⟨u0,q0⟩,⟨u1,q1⟩,⟨u2,q2⟩,⟨u3,q3⟩,f0,f1,f2,f3,rlt⟩:=RX.out
      go_wp2
      refine bodyPost_ret (v:=.agg #[.int .i64 2,.int .i64 x,.string ⟨#[]⟩,.slice none 0 0]) ?_ rfl ⟨⟨0,0,⟨2,x,⟨#[]⟩,none,0⟩,.nil⟩,rfl,(plain_lit sc 2 x 2 (wf_num _ x (by first|exact .inl ⟨by omega,hxb⟩|exact .inr ⟨rfl,hxb⟩)) (by omega) (by omega) rfl (by decide)),⟨⟨fun q=>absurd rfl q,trivial⟩,trivial⟩,bp_store SX.out GX.out RX.out.lt' HLT.out (by omega) (by omega) below_four⟩
      rw [results_cell1 rfl]
      go_simp
  · go_wp2_with fail
    have BA:Hid (Below wc.heap.size wc (wc.alloc (.cells #[.int .i64 0,.int .i64 300,.int .i64 720,.int .i64 1320,.int .i64 1439] 3))):=(Below.refl _ _).alloc (Nat.le_refl _) _
    have LA:Hid (∀ i x,([0,300,720,1320,1439]:List Int)[i]?=some x→(wc.alloc (.cells #[.int .i64 0,.int .i64 300,.int .i64 720,.int .i64 1320,.int .i64 1439] 3)).cell? ⟨wc.heap.size,i,none⟩=some (.int .i64 x)):=by
     intro i x hx
     rw [World.cell?_alloc_new]
     show ([.int .i64 0,.int .i64 300,.int .i64 720,.int .i64 1320,.int .i64 1439]:List Value).toArray[i]?=_
     rw [List.getElem?_toArray,show ([.int .i64 0,.int .i64 300,.int .i64 720,.int .i64 1320,.int .i64 1439]:List Value)=([0,300,720,1320,1439]:List Int).map (fun x=>Value.int .i64 x) from rfl,List.getElem?_map,hx];rfl
    generalize hwa:wc.alloc (.cells #[.int .i64 0,.int .i64 300,.int .i64 720,.int .i64 1320,.int .i64 1439] 3)=wa at *
    clear hwa
    refine (next_any sb v n (t+1) 5 wa (SC.out.next BA.out) (by omega) (by omega) (by omega)).mono ?_
    rintro e wx ⟨⟨r,hr,rfl⟩,hS,hg⟩
    have SX:=Lib.hid hS
    have GX:Hid (w.grownBy wx (some sb)):=(grw_below GC.out (BA.out.mono GC.out.size)).trans hg
    have RX:Hid (RB wx w.heap.size):=(RC.out.next BA.out).grown hg (by simp;have:=HLT.out;omega)
    obtain ⟨x,hx,hxb⟩:∃ x:Int,([0,300,720,1320,1439]:List Int)[r]?=some x∧0≤x∧x≤1439:=by
     match r,hr with
      | 0,_=>exact ⟨_,rfl,by decide⟩
      | 1,_=>exact ⟨_,rfl,by decide⟩
      | 2,_=>exact ⟨_,rfl,by decide⟩
      | 3,_=>exact ⟨_,rfl,by decide⟩
      | 4,_=>exact ⟨_,rfl,by decide⟩
    have cx:wx.cell? ⟨wc.heap.size,r,none⟩=some (.int .i64 x):=by
     have:=LA.out r x hx
     rw [World.cell?_of_block (hg.block wc.heap.size (block_lt_of_cell this) (by simp;have:=SC.out.lt;omega))]
     exact this
    have hr1:(r:Int) < 5:=by omega
    have hr0:(0:Int)≤(r:Int):=by omega
    clear hS hg LA hx BA
    obtain ⟨⟨u0,q0⟩,⟨u1,q1⟩,⟨u2,q2⟩,⟨u3,q3⟩,f0,f1,f2,f3,rlt⟩:=RX.out
    go_wp2
    refine bodyPost_ret (v:=.agg #[.int .i64 3,.int .i64 x,.string ⟨#[]⟩,.slice none 0 0]) ?_ rfl ⟨⟨0,0,⟨3,x,⟨#[]⟩,none,0⟩,.nil⟩,rfl,(plain_lit sc 3 x 3 (wf_num _ x (by first|exact .inl ⟨by omega,hxb⟩|exact .inr ⟨rfl,hxb⟩)) (by omega) (by omega) rfl (by decide)),⟨⟨fun q=>absurd rfl q,trivial⟩,trivial⟩,bp_store SX.out GX.out RX.out.lt' HLT.out (by omega) (by omega) below_four⟩
    rw [results_cell1 rfl]
    go_simp
  · go_wp2_with fail
    have BA:Hid (Below wc.heap.size wc (wc.alloc (.cells #[.int .i64 4,.int .i64 5] 3))):=(Below.refl _ _).alloc (Nat.le_refl _) _
    have LA:Hid (∀ i x,([4,5]:List Int)[i]?=some x→(wc.alloc (.cells #[.int .i64 4,.int .i64 5] 3)).cell? ⟨wc.heap.size,i,none⟩=some (.int .i64 x)):=by
     intro i x hx
     rw [World.cell?_alloc_new]
     show ([.int .i64 4,.int .i64 5]:List Value).toArray[i]?=_
     rw [List.getElem?_toArray,show ([.int .i64 4,.int .i64 5]:List Value)=([4,5]:List Int).map (fun x=>Value.int .i64 x) from rfl,List.getElem?_map,hx];rfl
    generalize hwa:wc.alloc (.cells #[.int .i64 4,.int .i64 5] 3)=wa at *
    clear hwa
    refine (next_any sb v n (t+1) 2 wa (SC.out.next BA.out) (by omega) (by omega) (by omega)).mono ?_
    rintro e wx ⟨⟨r,hr,rfl⟩,hS,hg⟩
    have SX:=Lib.hid hS
    have GX:Hid (w.grownBy wx (some sb)):=(grw_below GC.out (BA.out.mono GC.out.size)).trans hg
    have RX:Hid (RB wx w.heap.size):=(RC.out.next BA.out).grown hg (by simp;have:=HLT.out;omega)
    obtain ⟨x,hx,hxb⟩:∃ x:Int,([4,5]:List Int)[r]?=some x∧(x=4∨x=5):=by
     match r,hr with
      | 0,_=>exact ⟨_,rfl,by decide⟩
      | 1,_=>exact ⟨_,rfl,by decide⟩
    have cx:wx.cell? ⟨wc.heap.size,r,none⟩=some (.int .i64 x):=by
     have:=LA.out r x hx
     rw [World.cell?_of_block (hg.block wc.heap.size (block_lt_of_cell this) (by simp;have:=SC.out.lt;omega))]
     exact this
    have hr1:(r:Int) < 2:=by omega
    have hr0:(0:Int)≤(r:Int):=by omega
    clear hS hg LA hx BA
    obtain ⟨⟨u0,q0⟩,⟨u1,q1⟩,⟨u2,q2⟩,⟨u3,q3⟩,f0,f1,f2,f3,rlt⟩:=RX.out
    go_wp2
    refine bodyPost_ret (v:=.agg #[.int .i64 x,.int .i64 0,.string ⟨#[]⟩,.slice none 0 0]) ?_ rfl ⟨⟨0,0,⟨x,0,⟨#[]⟩,none,0⟩,.nil⟩,rfl,(plain_lit sc x 0 4 (by rcases hxb with rfl|rfl<;>rfl) (by decide) (by omega) (by rcases hxb with rfl|rfl<;>rfl) (by decide)),⟨⟨fun q=>absurd rfl q,trivial⟩,trivial⟩,bp_store SX.out GX.out RX.out.lt' HLT.out (by omega) (by omega) below_four⟩
    rw [results_cell1 rfl]
    go_simp
end Go.Proofs.YtcejjdmnlejbaaaGreatDoor
