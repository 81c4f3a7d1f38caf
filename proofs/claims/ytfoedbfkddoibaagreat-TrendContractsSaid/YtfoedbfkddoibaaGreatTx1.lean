import Derived.Test.YtfoedbfkddoibaaGreatTda
import Derived.Laws.OwnMore
import Derived.Maps.AppendAt
import Derived.Lib.LazyBuf
namespace Go.Proofs.YtfoedbfkddoibaaGreat
section
set_option linter.unusedVariables false
set_option linter.unusedSimpArgs false
open Go.ChangeShapes Go.WideShapes Go.ChangeAt Go.RowKit
open Go.Deep (BT)
theorem Tryz.infoXc:(Tryz.prog.info? 25).map (fun i=>(i.zero,i.size,i.bytes))=some (some (.agg #[.int .i64 0,.int .i64 0,.string ⟨#[]⟩,.slice none 0 0]),4,56):=by kernel_rfl
theorem one4c (a:Ch):∀ u ∈ chC a,u.oneCell'=true:=by
 intro u hu
 simp only [chC,List.mem_cons,List.not_mem_nil,or_false] at hu
 rcases hu with rfl|rfl|rfl|rfl<;>rfl
theorem one4r (L:List Ch):∀ u ∈ rowC L,u.oneCell'=true:=by
 intro u hu
 unfold rowC at hu
 rw [List.mem_flatMap] at hu
 obtain ⟨c,-,hc⟩:=hu
 exact one4c c u hc
theorem rowC_len4 (L:List Ch):(rowC L).length=L.length * 4:=by
 induction L with
 | nil=>rfl
 | cons c l ih=>simp [rowC,chC] at *;omega
theorem kids_cells {w:World} {k:Fo} {b o:Nat} (h:FoAt w k b o):∀ j u,(rowC (kids k))[j]?=some u→w.cell? ⟨b,o+j,none⟩=some u:=by
 induction k generalizing o with
 | nil=>intro j u hu;simp [kids,rowC] at hu
 | node b1 o1 a1 k1 r1 ihk ihr =>
   obtain ⟨⟨h0,h1,h2,h3⟩,-,-,hr⟩:=h
   intro j u hu
   have e:rowC (kids (BT.node b1 o1 a1 k1 r1))=chC ⟨b1,o1,a1,k1⟩++rowC (kids r1):=rfl
   rw [e] at hu
   by_cases hj:j < 4
   · rw [List.getElem?_append_left (by simpa [chC] using hj)] at hu
     match j with
     | 0=>simp [chC] at hu;subst hu;exact h0
     | 1=>simp [chC] at hu;subst hu;exact h1
     | 2=>simp [chC] at hu;subst hu;exact h2
     | 3=>simp [chC] at hu;subst hu;exact h3
     | q+4=>omega
   · rw [List.getElem?_append_right (by simp [chC];omega)] at hu
     have:=ihr hr (j - 4) u (by simpa [chC] using hu)
     rw [show o+4+(j - 4)=o+j by omega] at this
     exact this
def ClrP (w:World) (k:Fo) (e:Ending) (w':World):Prop:=∃ (p':Option Addr) (cap':Nat),e=.returned (.slice p' (len k) cap')∧(k≠.nil→∃ g,p'=some ⟨g,0,none⟩)∧w'.ownsRow w.heap.size 25 4 (.slice p' (len k) cap') (len k) (rowC (kids k))∧Below w.heap.size w w'
theorem clr_of {w w':World} {k:Fo} {v:Value} (h:w'.ownsRow w.heap.size 25 4 v (len k) (rowC (kids k))) (hb:Below w.heap.size w w'):ClrP w k (.returned v) w':=by
 have h9:=h
 rcases h.2 with ⟨rfl,hn⟩|⟨g,cap,cur,rfl,-⟩
 · refine ⟨none,0,by rw [hn],fun q=>absurd (len_zero hn) q,by rw [hn];rw [hn] at h9;exact h9,hb⟩
 · exact ⟨some ⟨g,0,none⟩,cap,rfl,fun _=>⟨g,rfl⟩,h9,hb⟩
set_option maxHeartbeats 2000000 in
set_option maxRecDepth 100000 in
theorem cloner_any (b o cap:Nat) (ptr:Option Addr) (k:Fo) (w:World) (hp:k≠.nil→ptr=some ⟨b,o,none⟩) (hx:FoAt w k b o) (hlen:len k≤1000) :
 Calls Tryz.prog 112 #[.slice ptr (len k) cap] w (ClrP w k):=by
 obtain ⟨i0,hi,hi0,hi1,hi2⟩:=info_parts Tryz.infoXc
 have HC:=Lib.hid (kids_cells hx)
 have HL:Hid ((rowC (kids k)).length=len k * 4):=by unfold Hid;rw [rowC_len4,kids_len]
 cases hq:ptr with
 | none =>
   have hk:k=.nil:=Classical.byContradiction fun q=>by have:=hp q;rw [hq] at this;cases this
   subst hk
   subst hq
   clear HC HL hx hp
   have q1:(binOp .eql 23 (.slice none (len BT.nil) cap) (.slice none 0 0)).run Tryz.prog w=.ok (.bool true) w:=_root_.Go.run_eql_slice_nil w _ _ _ _ _ Tryz.underlying23
   go_enter Tryz.func112,Tryz.ntmps112
   go_wp2
   go_ret
   exact ⟨none,0,rfl,fun q=>absurd rfl q,World.ownsRow_nil _ _ _ _,Below.refl _ _⟩
 | some ad =>
   have HA:Hid (∀ j u,(rowC (kids k))[j]?=some u→w.cell? (ad.add j)=some u):=by
    intro j u hu
    cases hk:k with
    | nil=>rw [hk] at hu;simp [kids,rowC] at hu
    | node b1 o1 a1 k1 r1 =>
      have:=hp (by rw [hk];simp)
      rw [hq] at this
      cases this
      have h9:=HC.out j u hu
      have e:(⟨b,o,none⟩:Addr).add j=⟨b,o+j,none⟩:=by unfold Addr.add;split<;>simp_all
      rw [e];exact h9
   subst hq
   clear HC hx hp
   have q1:(binOp .eql 23 (.slice (some ad) (len k) cap) (.slice none 0 0)).run Tryz.prog w=.ok (.bool false) w:=_root_.Go.run_eql_slice_nil w _ _ _ _ _ Tryz.underlying23
   go_enter Tryz.func112,Tryz.ntmps112
   go_wp2_with (at_builtin;refine wpList_append_own_at _ rfl _ _ 23 rfl w.heap.size 25 i0 (.agg #[.int .i64 0,.int .i64 0,.string ⟨#[]⟩,.slice none 0 0]) 4 56 Tryz.underlying23 hi hi0 hi1 hi2 rfl (by decide) (.slice (some ⟨w.heap.size,0,none⟩) 0 0) 0 [] rfl (World.ownsRow_lit w #[] 0 (Nat.le_refl _) (by decide) rfl) ad (len k) cap (rowC (kids k)) rfl HL.out ?c1 (one4r _) ?c3 ?c4 ?c5 ?_)
   case c1=>intro j u hu;have h9:=HA.out j u hu;rw [(below_box w _).cell (block_lt_of_cell h9)];exact h9
   case c3=>unfold maxLen;omega
   case c4=>omega
   case c5=>simp
   intro v' w2 hown hgrow hnil hob
   go_wp2
   go_ret
   try simp only [Nat.zero_add,List.nil_append] at hown
   exact clr_of hown ((below_box w _).grown hgrow (by simp) (fun m hm=>by simp [Value.ownBlock] at hm;omega))
structure ClSt (w wc wr:World) (op num:Int) (name:ByteArray) (p:Option Addr) (n cap:Nat) (Dn:List Ch) (r:Fo):Prop where
 xb:BX4 wr w.heap.size (.int .i64 op) (.int .i64 num) (.string name) (.slice p n cap)
 rb:BX4 wr (w.heap.size+1) (.int .i64 0) (.int .i64 0) (.string ⟨#[]⟩) (.slice none 0 0)
 ow:wr.ownsRow (w.heap.size+2) 25 4 (.slice p n cap) n (rowC Dn++rowC (kids r))
 ch:∀ c ∈ Dn,ChAt wr wc.heap.size c
 sz:wc.heap.size≤wr.heap.size
 bl:Below w.heap.size w wr
theorem ClSt.next {w wc wr w2:World} {op num:Int} {name:ByteArray} {p:Option Addr} {n cap:Nat} {Dn:List Ch} {r:Fo} (h:ClSt w wc wr op num name p n cap Dn r) (hb:Below wr.heap.size wr w2):ClSt w wc w2 op num name p n cap Dn r :=
 ⟨h.xb.next hb,h.rb.next hb,own_below h.ow hb,fun c hc=>(h.ch c hc).next hb,Nat.le_trans h.sz hb.size,h.bl.trans (hb.mono h.bl.size)⟩
theorem ClSt.elem {w wc wr:World} {op num:Int} {name:ByteArray} {gs n cap:Nat} {Dn:List Ch} {b1 o1:Nat} {a1:Nd} {k1 r1:Fo} {j:Nat} (h:ClSt w wc wr op num name (some ⟨gs,0,none⟩) n cap Dn (.node b1 o1 a1 k1 r1)) (hd:Dn.length=j) (hj:j < n) :
 wr.cell? ⟨gs,j * 4,none⟩=some (.int .i64 a1.op)∧wr.cell? ⟨gs,j * 4+1,none⟩=some (.int .i64 a1.num)∧wr.cell? ⟨gs,j * 4+2,none⟩=some (.string a1.name)∧wr.cell? ⟨gs,j * 4+3,none⟩=some (.slice a1.ptr (len k1) a1.cap):=by
 have hl:=rowC_len4 Dn
 rw [hd] at hl
 have g:∀ i u,i < 4→(chC ⟨b1,o1,a1,k1⟩++rowC (kids r1))[i]?=some u→wr.cell? ⟨gs,j * 4+i,none⟩=some u:=fun i u hi hu=>by
  rw [h.ow.cellAt (j * 4+i) (by omega),List.getElem?_append_right (by omega),hl,Nat.add_sub_cancel_left]
  exact hu
 exact ⟨g 0 _ (by omega) rfl,g 1 _ (by omega) rfl,g 2 _ (by omega) rfl,g 3 _ (by omega) rfl⟩
theorem set_four (A:List Value) (x0 x1 x2 x3:Value) (Z:List Value) (a b c d:Value) (i:Nat) (hi:A.length=i):((((A++([x0,x1,x2,x3]++Z)).set i a).set (i+1) b).set (i+2) c).set (i+3) d=A++([a,b,c,d]++Z):=by
 subst hi
 rw [List.set_append_right _ _ (Nat.le_refl _),Nat.sub_self,List.set_append_right _ _ (by omega),List.set_append_right _ _ (by omega),List.set_append_right _ _ (by omega)]
 simp
def set4 (w:World) (g i:Nat) (c:Ch):World:=(((w.setCell ⟨g,i,none⟩ (.int .i64 c.a.op)).setCell ⟨g,i+1,none⟩ (.int .i64 c.a.num)).setCell ⟨g,i+2,none⟩ (.string c.a.name)).setCell ⟨g,i+3,none⟩ (.slice c.a.ptr (len c.k) c.a.cap)
theorem own_set4 {wr:World} {B gs n cap j:Nat} {Dn:List Ch} {x0 x1 x2 x3:Value} {Z:List Value} (h:wr.ownsRow B 25 4 (.slice (some ⟨gs,0,none⟩) n cap) n (rowC Dn++([x0,x1,x2,x3]++Z))) (hd:Dn.length=j) (c:Ch) :
 (set4 wr gs (j * 4) c).ownsRow B 25 4 (.slice (some ⟨gs,0,none⟩) n cap) n (rowC (Dn++[c])++Z)∧wr.grownBy (set4 wr gs (j * 4) c) (some gs):=by
 obtain ⟨o1,g1⟩:=h.stored (j * 4) (.int .i64 c.a.op)
 obtain ⟨o2,g2⟩:=o1.stored (j * 4+1) (.int .i64 c.a.num)
 obtain ⟨o3,g3⟩:=o2.stored (j * 4+2) (.string c.a.name)
 obtain ⟨o4,g4⟩:=o3.stored (j * 4+3) (.slice c.a.ptr (len c.k) c.a.cap)
 have hl:=rowC_len4 Dn
 rw [hd] at hl
 rw [set_four _ _ _ _ _ _ _ _ _ _ _ hl] at o4
 refine ⟨?_,((g1.trans g2).trans g3).trans g4⟩
 have e:rowC (Dn++[c])++Z=rowC Dn++([.int .i64 c.a.op,.int .i64 c.a.num,.string c.a.name,.slice c.a.ptr (len c.k) c.a.cap]++Z):=by simp [rowC,chC]
 rw [e]
 exact o4
theorem BX4.grown {w w':World} {g:Nat} {v0 v1 v2 v3:Value} {row:Option Nat} (h:BX4 w g v0 v1 v2 v3) (hg:w.grownBy w' row) (hne:some g≠row):BX4 w' g v0 v1 v2 v3 where
 r0:=by rw [World.cell?_of_block (hg.block g h.lt hne)];exact h.r0
 r1:=by rw [World.cell?_of_block (hg.block g h.lt hne)];exact h.r1
 r2:=by rw [World.cell?_of_block (hg.block g h.lt hne)];exact h.r2
 r3:=by rw [World.cell?_of_block (hg.block g h.lt hne)];exact h.r3
 f0:=by rw [World.frozen?_of_block (hg.block g h.lt hne)];exact h.f0
 f1:=by rw [World.frozen?_of_block (hg.block g h.lt hne)];exact h.f1
 f2:=by rw [World.frozen?_of_block (hg.block g h.lt hne)];exact h.f2
 f3:=by rw [World.frozen?_of_block (hg.block g h.lt hne)];exact h.f3
 lt:=Nat.lt_of_lt_of_le h.lt hg.size
theorem ClSt.store {w wc wr:World} {op num:Int} {name:ByteArray} {gs n cap:Nat} {Dn:List Ch} {b1 o1:Nat} {a1:Nd} {k1 r1:Fo} {j:Nat} {c:Ch} (h:ClSt w wc wr op num name (some ⟨gs,0,none⟩) n cap Dn (.node b1 o1 a1 k1 r1)) (hd:Dn.length=j) (hgs:w.heap.size+2≤gs) (hg2:gs < wc.heap.size) (hc:ChAt wr wc.heap.size c) :
 ClSt w wc (set4 wr gs (j * 4) c) op num name (some ⟨gs,0,none⟩) n cap (Dn++[c]) r1∧wr.grownBy (set4 wr gs (j * 4) c) (some gs):=by
 obtain ⟨o4,g⟩:=own_set4 (Z:=rowC (kids r1)) h.ow hd c
 refine ⟨⟨h.xb.grown g (by simp;omega),h.rb.grown g (by simp;omega),o4,fun d hd2=>?_,Nat.le_trans h.sz g.size,h.bl.grown g h.bl.size (fun m hm=>by cases hm;omega)⟩,g⟩
 rcases List.mem_append.1 hd2 with q|q
 · exact (h.ch d q).grown hg2 g
 · rw [List.mem_singleton.1 q];exact hc.grown hg2 g
def ClnC (b o:Nat) (a:Nd) (k:Fo):Prop:=∀ w:World,ExAt w b o a k→len k≤200→LnB k→Calls Tryz.prog 78 #[.agg #[.int .i64 a.op,.int .i64 a.num,.string a.name,.slice a.ptr (len k) a.cap]] w (ExP w (ec ⟨b,o,a,k⟩))
set_option maxHeartbeats 8000000 in
set_option maxRecDepth 100000 in
theorem clone_any (b o:Nat) (a:Nd) (k:Fo):ClnC b o a k:=by
 refine tree_of (P:=ClnC) ?_ b o a k
 clear b o a k
 intro b o a k ih w hx hk hz
 obtain ⟨op,num,name,ptr,acap⟩:=a
 show Calls Tryz.prog 78 #[.agg #[.int .i64 op,.int .i64 num,.string name,.slice ptr (len k) acap]] w _
 have IH:=Lib.hid ih
 have HX:=Lib.hid hx
 have HZ:=Lib.hid hz
 have HE:Hid (ec ⟨b,o,⟨op,num,name,ptr,acap⟩,k⟩=⟨0,0,⟨op,num,name,none,0⟩,rowF ((kids k).map ec)⟩):=by unfold Hid;show (⟨0,0,⟨op,num,name,none,0⟩,ef k⟩:Ch)=_;rw [ef_kids]
 have HR1:Hid (ec ⟨b,o,⟨op,num,name,ptr,acap⟩,k⟩=ec ⟨b,o,⟨op,num,name,ptr,acap⟩,k⟩):=rfl
 clear HR1 ih hx hz
 revert HE
 generalize ec ⟨b,o,⟨op,num,name,ptr,acap⟩,k⟩=R
 intro HE
 go_enter Tryz.func78,Tryz.ntmps78
 go_wp2_with fail
 have hba:Below w.heap.size w ((w.alloc (.cells #[.int .i64 op,.int .i64 num,.string name,.slice ptr (len k) acap] 25)).alloc (.cells #[.int .i64 0,.int .i64 0,.string ⟨#[]⟩,.slice none 0 0] 25)):=(below_box w _).trans ((below_box _ _).mono (by simp))
 refine (cloner_any b o acap ptr k ((w.alloc (.cells #[.int .i64 op,.int .i64 num,.string name,.slice ptr (len k) acap] 25)).alloc (.cells #[.int .i64 0,.int .i64 0,.string ⟨#[]⟩,.slice none 0 0] 25)) HX.out.1 (HX.out.2.next hba) (by omega)).mono ?_
 rintro e w1 ⟨p,cap,rfl,hp,how,hb⟩
 have HP:=Lib.hid hp
 have RB:=Lib.hid ((BX4.new (w.alloc (.cells #[.int .i64 op,.int .i64 num,.string name,.slice ptr (len k) acap] 25)) (.int .i64 0) (.int .i64 0) (.string ⟨#[]⟩) (.slice none 0 0) 25).next hb)
 have YB:=Lib.hid (((BX4.new w (.int .i64 op) (.int .i64 num) (.string name) (.slice ptr (len k) acap) 25).next (below_box _ _)).next hb)
 rw [World.size_alloc] at RB
 have HB:=Lib.hid (hba.trans (hb.mono (by simp;omega)))
 have OW:Hid (w1.ownsRow (w.heap.size+2) 25 4 (.slice p (len k) cap) (len k) (rowC (kids k))):=by
  have h:=how
  simp only [World.size_alloc] at h
  exact h
 clear hp how hb hba
 obtain ⟨x0,x1,x2,x3,g0,g1,g2,g3,-⟩:=YB.out
 have ST:Hid (ClSt w (w1.setCell ⟨w.heap.size,3,none⟩ (.slice p (len k) cap)) (w1.setCell ⟨w.heap.size,3,none⟩ (.slice p (len k) cap)) op num name p (len k) cap [] k):=by
  have g:w1.grownBy (w1.setCell ⟨w.heap.size,3,none⟩ (.slice p (len k) cap)) (some w.heap.size):=⟨rfl,rfl,rfl,by simp [World.setCell],fun k hk hr=>Below.heap_setCell _ _ _ _ (fun e=>hr (by rw [e]))⟩
  have hlt:w.heap.size < w1.heap.size:=YB.out.lt
  refine ⟨⟨?_,?_,?_,?_,?_,?_,?_,?_,?_⟩,RB.out.grown g (by simp),OW.out.kept g ?_,(fun c hc=>by cases hc),Nat.le_refl _,HB.out.grown g HB.out.size (fun m hm=>by cases hm;exact Nat.le_refl _)⟩
  · simp [go_sem,x0]
  · simp [go_sem,x1]
  · simp [go_sem,x2]
  · simp [go_sem,x3]
  · simp [go_sem,g0]
  · simp [go_sem,g1]
  · simp [go_sem,g2]
  · simp [go_sem,g3]
  · simp [World.setCell];exact hlt
  · cases hp:p with
    | none=>left;rfl
    | some ad=>right;intro q;have h9:=OW.out.lt ad.block (by rw [hp];rfl);simp [Value.ownBlock] at q;omega
 go_wp2_with fail
 generalize w1.setCell ⟨w.heap.size,3,none⟩ (.slice p (len k) cap)=wc at *
 clear x0 x1 x2 x3 g0 g1 g2 g3 RB YB HB OW
 have SC:=ST.out
 obtain ⟨x0,x1,x2,x3,-,-,-,-,-⟩:=SC.xb
 have hgs:Hid (∀ g,p=some ⟨g,0,none⟩→w.heap.size+2≤g∧g < wc.heap.size):=fun g hg=>SC.ow.lt g (by rw [hg];rfl)
 have B0:=Lib.hid SC.bl
 clear SC
 go_loopw [11] (fun i wr=>∃ (j:Nat) (r:Fo) (Dn:List Ch),i=.int .i64 j∧Hid (j+len r=len k∧FoAt wr r b (o+j * 4)∧AllT ClnC r∧LnB r∧Dn.length=j∧ClSt w wc wr op num name p (len k) cap Dn r∧(Dn.map ec++(kids r).map ec=(kids k).map ec)∧FoLt w.heap.size r b)) (fun i _=>len k - (intOf i).toNat)
 case atStart =>
  exact ⟨0,k,[],rfl,by omega,by rw [Nat.zero_mul,Nat.add_zero];exact HX.out.2.next B0.out,IH.out,HZ.out,rfl,ST.out,rfl,HX.out.2.lt⟩
 case round =>
  obtain ⟨j,r,Dn,rfl,HR⟩:=hrel
  have S1:=Lib.hid HR.out.2.2.2.2.2.1
  obtain ⟨x0,x1,x2,x3,-,-,-,-,-⟩:=S1.out.xb
  obtain ⟨r0,r1,r2,r3,f0,f1,f2,f3,-⟩:=S1.out.rb
  cases r with
  | nil =>
    have hj:¬ (j:Int) < (len k:Int):=by have:=HR.out.1;simp [len] at this;omega
    have hl:Hid (Dn.length=len k):=by have h1:=HR.out.1;have h2:=HR.out.2.2.2.2.1;simp [len] at h1;unfold Hid;omega
    have hm:Hid (Dn.map ec=(kids k).map ec):=by unfold Hid;have h:=HR.out.2.2.2.2.2.2.1;simpa [kids] using h
    obtain ⟨gb,hFX⟩:∃ gb:Nat,ChAt wr (w.heap.size+2) ⟨gb,0,⟨op,num,name,p,cap⟩,rowF Dn⟩:=by
     by_cases hd:Dn=[]
     · rw [hd];exact ⟨0,⟨fun q=>absurd rfl q,trivial⟩,trivial⟩
     · have hk9:k≠.nil:=by
        intro q
        have h1:=hl.out
        rw [q] at h1
        exact hd (List.length_eq_zero_iff.1 (by simpa [len] using h1))
       obtain ⟨gs,hp9⟩:=HP.out hk9
       have h9:=hgs.out gs hp9
       have how:=S1.out.ow
       rw [hp9] at how ⊢
       simp only [kids,rowC,List.flatMap_nil,List.append_nil] at how
       have h:=rowF_at (w:=wr) (B0:=w.heap.size+2) (g:=gs) (O:=0) Dn (fun c hc=>(S1.out.ch c hc).mono (by omega)) (fun i u hu=>by
        have hi9:i < len k * 4:=by
         have h1:=(List.getElem?_eq_some_iff.1 hu).1
         have h2:=rowC_len4 Dn
         have h3:=hl.out
         omega
        rw [Nat.zero_add,how.cellAt i hi9];exact hu) h9.1
       exact ⟨gs,⟨fun _=>rfl,h.1⟩,h.2⟩
    have FX:=Lib.hid hFX
    clear hFX
    have BL:=Lib.hid S1.out.bl
    go_wp2
    refine bodyPost_ret (v:=.agg #[.int .i64 op,.int .i64 num,.string name,.slice p (len k) cap]) ?_ rfl ?_
    · rw [results_cell1 rfl];go_simp
    · refine ⟨⟨gb,0,⟨op,num,name,p,cap⟩,rowF Dn⟩,?_,?_,(ExAt.set4 FX.out (by omega)).mono (by omega),set4_below BL.out (by omega)⟩
      · dsimp only;rw [rowF_len,hl.out]
      · unfold ec;dsimp only;rw [ef_row,hm.out];exact HE.out.symm
  | node b1 o1 a1 k1 r1' =>
    have hj:j < len k:=by have:=HR.out.1;simp [len] at this;omega
    have hk:k≠.nil:=by rintro rfl;simp [len] at hj
    obtain ⟨gs,rfl⟩:=HP.out hk
    have h9:=hgs.out gs rfl
    have hj1:(j:Int) < (len k:Int):=by omega
    have hj0:(0:Int)≤(j:Int):=by omega
    obtain ⟨m0,m1,m2,m3⟩:=ClSt.elem S1.out HR.out.2.2.2.2.1 hj
    obtain ⟨-,hp1,hk1,hr1⟩:=HR.out.2.1
    have E1:Hid (ExAt wr b1 o1 a1 k1):=⟨hp1,hk1⟩
    have N1:=Lib.hid hr1
    have Z1:Hid ((len k1≤200∧LnB k1)∧LnB r1'):=HR.out.2.2.2.1
    clear hp1 hk1 hr1
    have CC:=Lib.hid (HR.out.2.2.1.1 wr.drew (E1.out.next (Below.refl _ _).drew) Z1.out.1.1 Z1.out.1.2)
    go_upto_region 5 with (fail)
    go_region_with (go_at_call 78;refine CC.out.mono ?_;rintro e w2 ⟨c,rfl,hc,hcc,hb2⟩;have EC:=Lib.hid hc;have CA:=Lib.hid hcc;have B2:=Lib.hid ((Below.refl wr.heap.size wr).drew.trans hb2);have S2:=Lib.hid (S1.out.next B2.out);obtain ⟨y0,y1,y2,y3,-,-,-,-,-⟩:=S2.out.xb;obtain ⟨n0,n1,n2,n3⟩:=ClSt.elem S2.out HR.out.2.2.2.2.1 hj;have m6:=S2.out.ow.frozenAt (j * 4);have m7:=S2.out.ow.frozenAt (j * 4+1);have m8:=S2.out.ow.frozenAt (j * 4+2);have m9:=S2.out.ow.frozenAt (j * 4+3);clear hc hcc hb2)
    all_goals (
     go_wp2
     have SS:=Lib.hid (ClSt.store (c:=c) S2.out HR.out.2.2.2.2.1 h9.1 h9.2 (CA.out.mono S1.out.sz))
     go_roundw
     case rel=>(
      obtain ⟨q1,-,q3,-,q5,-,q7,q8⟩:=HR.out
      simp [len] at q1
      refine ⟨j+1,r1',Dn++[c],by go_num,by omega,?_,q3.2,Z1.out.2,by simp [q5],SS.out.1,?_,q8.2.2⟩
      · rw [Nat.add_mul,Nat.one_mul,← Nat.add_assoc]
        exact (N1.out.next B2.out).below q8.2.2 ((Below.refl _ _).grown SS.out.2 S2.out.bl.size (fun m hm=>by cases hm;omega))
      · rw [List.map_append,List.append_assoc,← q7]
        simp only [List.map_cons,List.map_nil,List.singleton_append,kids]
        rw [EC.out])
     case measure=>(simp [intOf];omega))
end
section
set_option linter.unusedVariables false
set_option linter.unusedSimpArgs false
open Go.ChangeShapes Go.WideShapes Go.ChangeAt Go.RowKit
open Go.Deep (BT)
theorem tl_ne {s t:ByteArray} (h:s≠t):(s.toList==t.toList)=false:=by
 rw [Lib.toList_data,Lib.toList_data]
 simpa using fun q=>h (ByteArray.ext (Array.toList_inj.1 q))
set_option maxHeartbeats 1000000 in
theorem cstq_any (nm s:ByteArray) (a b:Int) (c:ByteArray) (q:Option Addr) (n m nb:Nat) (w:World) (h:w.cell? ⟨nb,0,none⟩=some (.string s)) :
 Calls Tryz.prog 114 #[.agg #[.string nm,.int .i64 a,.int .i64 b,.string c,.slice q n m],.pointer (some ⟨nb,0,none⟩)] w (TsP w (decide (nm=s))):=by
 have hl:=block_lt_of_cell h
 simp at hl
 go_enter Tryz.func114,Tryz.ntmps114
 have h1:(w.alloc (.cells #[.string nm,.int .i64 a,.int .i64 b,.string c,.slice q n m] 52)).cell? ⟨nb,0,none⟩=some (.string s):=by rw [(below_box w _).cell (p:=⟨nb,0,none⟩) hl];exact h
 by_cases q:nm=s
 · have e:(nm.toList==s.toList)=true:=by rw [q];simp
   have d:decide (nm=s)=true:=by simp [q]
   rw [d]
   go_wp2
   go_ret
   exact ⟨by first|rfl|(rw [e];rfl)|(simp [q];rfl)|simp [q],below_box _ _⟩
 · have e:(nm.toList==s.toList)=false:=tl_ne q
   have d:decide (nm=s)=false:=by simp [q]
   rw [d]
   go_wp2
   go_ret
   exact ⟨by first|rfl|(rw [e];rfl),below_box _ _⟩
set_option maxHeartbeats 2000000 in
theorem ixc_any (cs:List Cn) (p:Option Addr) (cap:Nat) (s:ByteArray) (nb:Nat) (w:World) (hcs:CsV w cs p) (hn:w.cell? ⟨nb,0,none⟩=some (.string s)) (hlen:cs.length≤9223372036854775806) :
 Calls Tryz.prog 113 #[.slice p cs.length cap,.func (.func 114) #[] #[.pointer (some ⟨nb,0,none⟩)]] w (NuP w (match firstIx s cs with|some i=>(i:Int)|none => -1)):=by
 have HC:=Lib.hid hcs
 have HN:=Lib.hid hn
 have hl:=block_lt_of_cell hn
 simp at hl
 obtain ⟨V,hV⟩:∃ V:Int,(match firstIx s cs with|some i=>(i:Int)|none => -1)=V:=⟨_,rfl⟩
 have HV:=Lib.hid hV
 rw [hV]
 clear hcs hn hV
 go_enter Tryz.func113,Tryz.ntmps113
 go_wp2_with fail
 go_loopw [8] (fun i wr=>∃ (j:Nat),i=.int .i64 j∧Hid (j≤cs.length∧(∀ c ∈ cs.take j,c.name≠s)∧Below w.heap.size w wr)) (fun i _=>cs.length - (intOf i).toNat)
 case atStart =>
  exact ⟨0,rfl,Nat.zero_le _,by simp,Below.refl _ _⟩
 case round =>
  obtain ⟨j,rfl,HR⟩:=hrel
  by_cases hj:j < cs.length
  · obtain ⟨c,hc⟩:∃ c,cs[j]?=some c:=⟨cs[j],List.getElem?_eq_getElem hj⟩
    obtain ⟨B,O,rfl,⟨d0,d1,d2,d3,d4⟩,hx⟩:=(HC.out.keep (Keeps.of_below HR.out.2.2)).get hc
    have hj1:(j:Int) < (cs.length:Int):=by omega
    have n0:wr.cell? ⟨nb,0,none⟩=some (.string s):=by rw [HR.out.2.2.cell (p:=⟨nb,0,none⟩) hl];exact HN.out
    have CQ:=Lib.hid hc
    clear hx hc
    go_wp2_with fail
    refine (cstq_any _ s _ _ _ _ _ _ nb _ n0).mono ?_
    rintro e w1 ⟨rfl,hb⟩
    have B1:=Lib.hid (HR.out.2.2.trans (hb.mono HR.out.2.2.size))
    clear hb d0 d1 d2 d3 d4 n0
    by_cases hq:c.name=s
    · have F:Hid (V=(j:Int)):=by
       have h9:firstIx s cs=some j:=(firstIx_some s cs j).2 ⟨⟨c,CQ.out,hq⟩,HR.out.2.1⟩
       unfold Hid
       rw [← HV.out,h9]
      have n1:decide (c.name=s)=true:=by simp [hq]
      rw [n1]
      clear hq HV
      go_wp2
      go_ret
      exact ⟨by rw [F.out];rfl,B1.out⟩
    · have n1:decide (c.name=s)=false:=by simp [hq]
      rw [n1]
      have F:Hid (∀ d ∈ cs.take (j+1),d.name≠s):=by
       intro d hd
       rw [List.mem_take_iff_getElem] at hd
       obtain ⟨i,hi,rfl⟩:=hd
       by_cases e:i=j
       · subst e
         have:cs[i]=c:=by have:=CQ.out;rw [List.getElem?_eq_getElem hj] at this;exact Option.some.inj this
         rw [this];exact hq
       · exact HR.out.2.1 _ (by rw [List.mem_take_iff_getElem];exact ⟨i,by omega,rfl⟩)
      clear hq
      go_wp2
      go_roundw
      case rel =>
       exact ⟨j+1,by go_num,by omega,F.out,B1.out⟩
      case measure=>simp [intOf];omega
  · have hj1:¬ (j:Int) < (cs.length:Int):=by omega
    have F:Hid (V = -1):=by
     have h9:firstIx s cs=none:=(firstIx_none s cs).2 (fun c hc=>HR.out.2.1 c (by rw [List.take_of_length_le (by omega)];exact hc))
     unfold Hid
     rw [← HV.out,h9]
    go_wp2
    go_ret
    exact ⟨by rw [F.out];rfl,HR.out.2.2⟩
end
end Go.Proofs.YtfoedbfkddoibaaGreat
