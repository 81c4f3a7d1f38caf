import Derived.Test.YtfoedbfkddoibaaGreatTx1
import Derived.Test.YtfoedbfkddoibaaGreatTv1
namespace Go.Proofs.YtfoedbfkddoibaaGreat
section
set_option linter.unusedVariables false
set_option linter.unusedSimpArgs false
open Go.ChangeShapes Go.WideShapes Go.ChangeAt Go.RowKit
open Go.Deep (BT)
def SiP (w:World) (Av:Nat→Prop) (cs:List Cn) (mb:Nat) (x:Ch) (e:Ending) (w':World):Prop :=
 ∃ c:Ch,e=.returned (.agg #[.int .i64 c.a.op,.int .i64 c.a.num,.string c.a.name,.slice c.a.ptr (len c.k) c.a.cap])∧ec c=x∧ChAt w' w.heap.size c∧SmMap Tryz.prog w' cs Av mb∧w.grownBy w' (some mb)
def KoP (w:World) (Av:Nat→Prop) (cs:List Cn) (mb:Nat) (x:Ch) (e:Ending) (w':World):Prop :=
 ∃ c:Ch,e=.returned (.agg #[.int .i64 c.a.op,.int .i64 c.a.num,.string c.a.name,.slice c.a.ptr (len c.k) c.a.cap])∧ec c=x∧ExAt w' c.b c.o c.a c.k∧FoAv Av c.k c.b∧SmMap Tryz.prog w' cs Av mb∧w.grownBy w' (some mb)
def SiC (cs:List Cn) (n:Nat) (sc:Int) (b o:Nat) (a:Nd) (k:Fo):Prop:=∀ (w:World) (Av:Nat→Prop) (sb mb:Nat) (kp p:Option Addr) (cap:Nat),
 SmJ w cs Av sb mb kp p cap→CsV w cs p→ExAt w b o a k→ExOk a k→(wfB a (len k) && wfT k)=true→len k≤200→LnB k→(tyT (lookT cs (tabN cs n)) sc a k).2=0→(∀ g,w.heap.size≤g→Av g)→cs.length≤2932031007402 →
 Calls Tryz.prog 40 #[.pointer (some ⟨sb,0,none⟩),.int .i64 sc,.agg #[.int .i64 a.op,.int .i64 a.num,.string a.name,.slice a.ptr (len k) a.cap]] w (SiP w Av cs mb (simT (lookT cs (tabN cs n)) (cvT cs) sc a k))
def ConS (cs:List Cn) (j:Nat):Prop:=∀ (w:World) (Av:Nat→Prop) (sb mb:Nat) (kp p:Option Addr) (cap:Nat) (s:ByteArray),
 firstIx s cs=some j→(rowT cs j).2=0→s.size≤maxLen→SmJ w cs Av sb mb kp p cap→CsV w cs p→(∀ g,w.heap.size≤g→Av g)→cs.length≤2932031007402 →
 Calls Tryz.prog 79 #[.pointer (some ⟨sb,0,none⟩),.string s] w (KoP w Av cs mb (litE (rowT cs j).1 (cval cs j)))
theorem SmJ.in2 {w w':World} {cs:List Cn} {Av Av':Nat→Prop} {sb mb:Nat} {kp p:Option Addr} {cap:Nat} (h:SmJ w cs Av sb mb kp p cap) (hb:Below w.heap.size w w') (hA:∀ g,Av g→g < w.heap.size→Av' g):SmJ w' cs Av' sb mb kp p cap :=
 SmJ.next ⟨h.c0,h.c1,h.c2,h.m.here.mono fun g q=>hA g q.1 q.2⟩ hb
theorem sip_store {w wx:World} {Av Av':Nat→Prop} {cs:List Cn} {mb r:Nat} {c:Ch} {x:Ch} {B:Nat} {u0 u1 u2 u3:Value} (hc:ec c=x) (hx:ChAt wx B c) (hm:SmMap Tryz.prog wx cs Av' mb) (hg:w.grownBy wx (some mb)) (hA:∀ g,Av' g→Av g∧g≠r) (hr:w.heap.size≤r) (hB:r < B) (hmb:mb < w.heap.size) :
 SiP w Av cs mb x (.returned (.agg #[.int .i64 c.a.op,.int .i64 c.a.num,.string c.a.name,.slice c.a.ptr (len c.k) c.a.cap])) ((((wx.setCell ⟨r,0,none⟩ u0).setCell ⟨r,1,none⟩ u1).setCell ⟨r,2,none⟩ u2).setCell ⟨r,3,none⟩ u3):=by
 have g:∀ (w:World) (i:Nat) (u:Value),w.grownBy (w.setCell ⟨r,i,none⟩ u) (some r):=fun w i u=>⟨rfl,rfl,rfl,by simp [World.setCell],fun k hk hr=>Below.heap_setCell _ _ _ _ (fun e=>hr (by rw [e]))⟩
 have g4:=(((g wx 0 u0).trans (g _ 1 u1)).trans (g _ 2 u2)).trans (g _ 3 u3)
 exact ⟨c,rfl,hc,(hx.grown hB g4).mono (by omega),(hm.grown g4 (by omega) (fun y hy=>(hA y hy).2)).mono (fun y hy=>(hA y hy).1),grw_new hg g4 hr⟩
def zeros4 (n:Nat):List Value:=(List.replicate n [Value.int .i64 0,.int .i64 0,.string ⟨#[]⟩,.slice none 0 0]).flatten
theorem zeros4_succ (n:Nat):zeros4 (n+1)=[Value.int .i64 0,.int .i64 0,.string ⟨#[]⟩,.slice none 0 0]++zeros4 n:=by
 unfold zeros4;rw [List.replicate_succ];rfl
theorem made_zeros4 (n:Nat):(madeCells #[Value.int .i64 0,.int .i64 0,.string ⟨#[]⟩,.slice none 0 0] (n * 4)).toList=zeros4 n:=by
 have e:(madeCells #[Value.int .i64 0,.int .i64 0,.string ⟨#[]⟩,.slice none 0 0] (n * 4)).toList=(List.range (n * 4)).map (fun i=>(#[Value.int .i64 0,.int .i64 0,.string ⟨#[]⟩,.slice none 0 0]:Array Value)[i % 4]!):=by
  unfold madeCells
  simp
 rw [e]
 clear e
 induction n with
 | zero=>rfl
 | succ n ih =>
   have r:List.range ((n+1) * 4)=List.range (n * 4)++[n * 4,n * 4+1,n * 4+2,n * 4+3]:=by
    rw [show (n+1) * 4=n * 4+1+1+1+1 by omega,List.range_succ,List.range_succ,List.range_succ,List.range_succ];simp
   rw [r,List.map_append,ih]
   unfold zeros4
   rw [List.replicate_succ',List.flatten_append]
   have m0:n * 4 % 4=0:=by omega
   have m1:(n * 4+1) % 4=1:=by omega
   have m2:(n * 4+2) % 4=2:=by omega
   have m3:(n * 4+3) % 4=3:=by omega
   simp [m0,m1,m2,m3]
structure SiSt (w wc wr:World) (cs:List Cn) (Av:Nat→Prop) (sb mb:Nat) (kp p:Option Addr) (cap fb gs:Nat) (op:Int) (n:Nat) (Dn:List Ch) (rest:Nat):Prop where
 yb:BX4 wr fb (.int .i64 op) (.int .i64 0) (.string ⟨#[]⟩) (.slice (some ⟨gs,0,none⟩) n n)
 rb:BX4 wr (w.heap.size+1) (.int .i64 0) (.int .i64 0) (.string ⟨#[]⟩) (.slice none 0 0)
 ow:wr.ownsRow (w.heap.size+2) 25 4 (.slice (some ⟨gs,0,none⟩) n n) n (rowC Dn++zeros4 rest)
 ch:∀ c ∈ Dn,ChAt wr wc.heap.size c
 sz:wc.heap.size≤wr.heap.size
 sj:SmJ wr cs (fun g=>Av g∧g≠gs∧g≠w.heap.size+1) sb mb kp p cap
 gr:w.grownBy wr (some mb)
theorem SiSt.next {w wc wr w2:World} {cs:List Cn} {Av:Nat→Prop} {sb mb:Nat} {kp p:Option Addr} {cap fb gs:Nat} {op:Int} {n:Nat} {Dn:List Ch} {rest:Nat} (h:SiSt w wc wr cs Av sb mb kp p cap fb gs op n Dn rest) (hb:Below wr.heap.size wr w2):SiSt w wc w2 cs Av sb mb kp p cap fb gs op n Dn rest :=
 ⟨h.yb.next hb,h.rb.next hb,own_below h.ow hb,fun c hc=>(h.ch c hc).next hb,Nat.le_trans h.sz hb.size,h.sj.next hb,grw_below h.gr (hb.mono h.gr.size)⟩
theorem SiSt.turn {w wc wr w2:World} {cs:List Cn} {Av:Nat→Prop} {sb mb:Nat} {kp p:Option Addr} {cap fb gs:Nat} {op:Int} {n:Nat} {Dn:List Ch} {rest:Nat} (h:SiSt w wc wr cs Av sb mb kp p cap fb gs op n Dn rest) (hg:wr.grownBy w2 (some mb)) (hm:SmMap Tryz.prog w2 cs (fun g=>Av g∧g≠gs∧g≠w.heap.size+1) mb) (hmb:mb < w.heap.size) (hfb:w.heap.size≤fb):SiSt w wc w2 cs Av sb mb kp p cap fb gs op n Dn rest:=by
 have hgs:=(h.ow.lt gs rfl).1
 exact ⟨h.yb.grown hg (by simp;omega),h.rb.grown hg (by simp;omega),h.ow.kept hg (.inr (by simp [Value.ownBlock];omega)),fun c hc=>⟨(h.ch c hc).1.keep (Keeps.of_sm h.sj.m hg),(h.ch c hc).2⟩,Nat.le_trans h.sz hg.size,h.sj.turn hg hm,h.gr.trans hg⟩
theorem SiSt.zero {w wc wr:World} {cs:List Cn} {Av:Nat→Prop} {sb mb:Nat} {kp p:Option Addr} {cap fb gs:Nat} {op:Int} {n j:Nat} {Dn:List Ch} {rest:Nat} (h:SiSt w wc wr cs Av sb mb kp p cap fb gs op n Dn (rest+1)) (hd:Dn.length=j) (hj:j < n) :
 wr.cell? ⟨gs,j * 4,none⟩=some (.int .i64 0)∧wr.cell? ⟨gs,j * 4+1,none⟩=some (.int .i64 0)∧wr.cell? ⟨gs,j * 4+2,none⟩=some (.string ⟨#[]⟩)∧wr.cell? ⟨gs,j * 4+3,none⟩=some (.slice none 0 0):=by
 have hl:=rowC_len4 Dn
 rw [hd] at hl
 have g:∀ i u,i < 4→([Value.int .i64 0,.int .i64 0,.string ⟨#[]⟩,.slice none 0 0]++zeros4 rest)[i]?=some u→wr.cell? ⟨gs,j * 4+i,none⟩=some u:=fun i u hi hu=>by
  rw [h.ow.cellAt (j * 4+i) (by omega),List.getElem?_append_right (by omega),hl,Nat.add_sub_cancel_left,zeros4_succ]
  exact hu
 exact ⟨g 0 _ (by omega) rfl,g 1 _ (by omega) rfl,g 2 _ (by omega) rfl,g 3 _ (by omega) rfl⟩
theorem SmJ.grown {w w':World} {cs:List Cn} {Av:Nat→Prop} {sb mb s:Nat} {kp p:Option Addr} {cap:Nat} (h:SmJ w cs Av sb mb kp p cap) (hg:w.grownBy w' (some s)) (h1:sb≠s) (h2:mb≠s) (hA:∀ g,Av g→g≠s):SmJ w' cs Av sb mb kp p cap:=by
 have e:∀ i v,w.cell? ⟨sb,i,none⟩=some v→w'.cell? ⟨sb,i,none⟩=some v:=fun i v q=>by rw [World.cell?_of_block (hg.block sb (block_lt_of_cell q) (fun e=>h1 (Option.some.inj e)))];exact q
 exact ⟨e _ _ h.c0,e _ _ h.c1,e _ _ h.c2,h.m.grown hg h2 hA⟩
theorem SiSt.store {w wc wr:World} {cs:List Cn} {Av:Nat→Prop} {sb mb:Nat} {kp p:Option Addr} {cap fb gs:Nat} {op:Int} {n j:Nat} {Dn:List Ch} {rest:Nat} {c:Ch} (h:SiSt w wc wr cs Av sb mb kp p cap fb gs op n Dn (rest+1)) (hd:Dn.length=j) (hne:fb≠gs) (hgs:w.heap.size+2≤gs) (hg2:gs < wc.heap.size) (hmb:mb < w.heap.size) (hsb:sb < w.heap.size) (hc:ChAt wr wc.heap.size c) :
 SiSt w wc (set4 wr gs (j * 4) c) cs Av sb mb kp p cap fb gs op n (Dn++[c]) rest∧wr.grownBy (set4 wr gs (j * 4) c) (some gs):=by
 have how:=h.ow
 rw [zeros4_succ] at how
 obtain ⟨o4,g⟩:=own_set4 how hd c
 refine ⟨⟨h.yb.grown g (by simpa using hne),h.rb.grown g (by simp;omega),o4,fun d hd2=>?_,Nat.le_trans h.sz g.size,h.sj.grown g (by omega) (by omega) (fun x hx=>hx.2.1),grw_new h.gr g (by omega)⟩,g⟩
 rcases List.mem_append.1 hd2 with q|q
 · exact (h.ch d q).grown hg2 g
 · rw [List.mem_singleton.1 q];exact hc.grown hg2 g
set_option maxHeartbeats 16000000 in
set_option maxRecDepth 100000 in
theorem si_name (cs:List Cn) (n:Nat) (sc:Int) (b o:Nat) (num:Int) (name:ByteArray) (ptr:Option Addr) (acap:Nat) (k:Fo) (hcon:∀ j,j < n→ConS cs j) (w:World) (Av:Nat→Prop) (sb mb:Nat) (kp p:Option Addr) (cap:Nat) (hj:SmJ w cs Av sb mb kp p cap) (hcs:CsV w cs p) (hxx:ExAt w b o ⟨6,num,name,ptr,acap⟩ k) (hok:ExOk ⟨6,num,name,ptr,acap⟩ k) (hwf:(wfB ⟨6,num,name,ptr,acap⟩ (len k) && wfT k)=true) (hk:len k≤200) (hz:LnB k) (hty:(tyT (lookT cs (tabN cs n)) sc ⟨6,num,name,ptr,acap⟩ k).2=0) (hfree:∀ g,w.heap.size≤g→Av g) (hcl:cs.length≤2932031007402) :
 Calls Tryz.prog 40 #[.pointer (some ⟨sb,0,none⟩),.int .i64 sc,.agg #[.int .i64 6,.int .i64 num,.string name,.slice ptr (len k) acap]] w (SiP w Av cs mb (simT (lookT cs (tabN cs n)) (cvT cs) sc ⟨6,num,name,ptr,acap⟩ k)):=by
 have HJ:=Lib.hid hj
 have HCS:=Lib.hid hcs
 have HE:=Lib.hid hxx
 have HF:=Lib.hid hfree
 have hsb:=block_lt_of_cell hj.c0
 simp at hsb
 have hmb:=hj.m.lt
 have hns:name.size≤9223372036854775807:=hok.1.2.2.1
 have hba:Hid (Below w.heap.size w ((w.alloc (.cells #[.int .i64 6,.int .i64 num,.string name,.slice ptr (len k) acap] 25)).alloc (.cells #[.int .i64 0,.int .i64 0,.string ⟨#[]⟩,.slice none 0 0] 25))):=(below_box w _).trans ((below_box _ _).mono (by simp))
 have hz0:((w.alloc (.cells #[.int .i64 6,.int .i64 num,.string name,.slice ptr (len k) acap] 25)).alloc (.cells #[.int .i64 0,.int .i64 0,.string ⟨#[]⟩,.slice none 0 0] 25)).heap.size=w.heap.size+2:=by simp
 have CON:=Lib.hid hcon
 have HT:=Lib.hid hty
 have SN:=Lib.hid (sim_name cs n sc ⟨6,num,name,ptr,acap⟩ k rfl)
 generalize simT (lookT cs (tabN cs n)) (cvT cs) sc ⟨6,num,name,ptr,acap⟩ k=R at *
 clear hj hcs hxx hok hwf hk hz hty hfree hcon
 have RB0:Hid (BX4 ((w.alloc (.cells #[.int .i64 6,.int .i64 num,.string name,.slice ptr (len k) acap] 25)).alloc (.cells #[.int .i64 0,.int .i64 0,.string ⟨#[]⟩,.slice none 0 0] 25)) (w.heap.size+1) (.int .i64 0) (.int .i64 0) (.string ⟨#[]⟩) (.slice none 0 0)):=by
  have h:=BX4.new (w.alloc (.cells #[.int .i64 6,.int .i64 num,.string name,.slice ptr (len k) acap] 25)) (.int .i64 0) (.int .i64 0) (.string ⟨#[]⟩) (.slice none 0 0) 25
  rw [World.size_alloc] at h
  exact h
 have J2:Hid (SmJ ((w.alloc (.cells #[.int .i64 6,.int .i64 num,.string name,.slice ptr (len k) acap] 25)).alloc (.cells #[.int .i64 0,.int .i64 0,.string ⟨#[]⟩,.slice none 0 0] 25)) cs (fun g=>Av g∧g≠w.heap.size+1) sb mb kp p cap):=HJ.out.in2 hba.out (fun g h1 h2=>⟨h1,by omega⟩)
 have HF2:Hid (∀ g,((w.alloc (.cells #[.int .i64 6,.int .i64 num,.string name,.slice ptr (len k) acap] 25)).alloc (.cells #[.int .i64 0,.int .i64 0,.string ⟨#[]⟩,.slice none 0 0] 25)).heap.size≤g→Av g∧g≠w.heap.size+1):=fun g hg=>⟨HF.out g (by omega),by omega⟩
 go_enter Tryz.func40,Tryz.ntmps40
 go_wp2_with fail
 refine (attr_any sc name _).mono ?_
 rintro e w1 ⟨rfl,rfl⟩
 by_cases hq:atE sc name=0
 · have n7:(atE sc name==0)=true:=by simp [hq]
   have e1:Hid (R=dE 6 0 name):=SN.out.1 hq
   clear SN HT
   go_wp2
   refine bodyPost_ret (v:=.agg #[.int .i64 6,.int .i64 0,.string name,.slice none 0 0]) ?_ rfl ?_
   · rw [results_cell1 rfl];go_simp
   · have hb:Below w.heap.size w ((w.alloc (.cells #[.int .i64 6,.int .i64 num,.string name,.slice ptr (len k) acap] 25)).alloc (.cells #[.int .i64 6,.int .i64 0,.string name,.slice none 0 0] 25)):=(below_box w _).trans ((below_box _ _).mono (by simp))
     exact ⟨⟨0,0,⟨6,0,name,none,0⟩,.nil⟩,rfl,e1.out.symm,chat_leaf _ _ _,HJ.out.m.next hb,grw_of_below _ hb⟩
 · have n7:(atE sc name==0)=false:=by simp [hq]
   obtain ⟨j,hj1,hj2,hj3⟩:∃ j,firstIx name cs=some j∧j < n∧(rowT cs j).2=0:=by
    have ht:=HT.out
    unfold tyT at ht
    rw [if_pos rfl] at ht
    rcases name_erl cs sc n name ht with q|q
    · exact absurd q hq
    · exact q
   have e1:Hid (R=litE (rowT cs j).1 (cval cs j)):=SN.out.2 hq j hj1 hj2
   have CC:=Lib.hid (CON.out j hj2 ((w.alloc (.cells #[.int .i64 6,.int .i64 num,.string name,.slice ptr (len k) acap] 25)).alloc (.cells #[.int .i64 0,.int .i64 0,.string ⟨#[]⟩,.slice none 0 0] 25)) (fun g=>Av g∧g≠w.heap.size+1) sb mb kp p cap name hj1 hj3 (by unfold maxLen;omega) J2.out (HCS.out.keep (Keeps.of_below hba.out)) HF2.out hcl)
   clear SN HT hj1 hj2 hj3
   go_wp2_with fail
   refine CC.out.mono ?_
   rintro e w2 ⟨c,rfl,hc,hcx,hca,hcm,hcg⟩
   have LC:LnC c:=(lnc_ec c).1 (by rw [hc];exact lnc_litE _ _)
   have G2:=Lib.hid ((grw_of_below (some mb) hba.out).trans hcg)
   have M2:=Lib.hid hcm
   have E2:=Lib.hid hc
   have z2:w.heap.size+2≤w2.heap.size:=by have:=hcg.size;omega
   have RB2:=Lib.hid (RB0.out.grown hcg (by simp;omega))
   have CL:=Lib.hid (clone_any c.b c.o c.a c.k w2 hcx LC.1 LC.2)
   clear hc hcx hca hcm hcg LC CC J2 HF2
   go_wp2_with fail
   refine CL.out.mono ?_
   rintro e w3 ⟨d,rfl,hd,hdx,hdb⟩
   have E3:Hid (ec d=R):=hd.trans (E2.out.trans e1.out.symm)
   have X3:=Lib.hid hdx
   have M3:=Lib.hid (M2.out.next hdb)
   have G3:=Lib.hid (grw_below G2.out (hdb.mono (by omega)))
   have RB3:=Lib.hid (RB2.out.next hdb)
   clear hd hdx hdb RB0 RB2 CL
   obtain ⟨r0,r1,r2,r3,f0,f1,f2,f3,-⟩:=RB3.out
   go_wp2
   refine bodyPost_ret (v:=.agg #[.int .i64 d.a.op,.int .i64 d.a.num,.string d.a.name,.slice d.a.ptr (len d.k) d.a.cap]) ?_ rfl (sip_store E3.out X3.out M3.out G3.out (fun g h=>h) (by omega) (by omega) hmb)
   rw [results_cell1 rfl];go_simp
set_option maxHeartbeats 16000000 in
set_option maxRecDepth 100000 in
theorem si_leaf (cs:List Cn) (n:Nat) (sc:Int) (b o:Nat) (op num:Int) (name:ByteArray) (ptr:Option Addr) (acap:Nat) (k:Fo) (h6:op≠6) (hk0:k=.nil) (w:World) (Av:Nat→Prop) (sb mb:Nat) (kp p:Option Addr) (cap:Nat) (hj:SmJ w cs Av sb mb kp p cap) (hcs:CsV w cs p) (hxx:ExAt w b o ⟨op,num,name,ptr,acap⟩ k) (hok:ExOk ⟨op,num,name,ptr,acap⟩ k) (hwf:(wfB ⟨op,num,name,ptr,acap⟩ (len k) && wfT k)=true) (hk:len k≤200) (hz:LnB k) (hty:(tyT (lookT cs (tabN cs n)) sc ⟨op,num,name,ptr,acap⟩ k).2=0) (hfree:∀ g,w.heap.size≤g→Av g) (hcl:cs.length≤2932031007402) :
 Calls Tryz.prog 40 #[.pointer (some ⟨sb,0,none⟩),.int .i64 sc,.agg #[.int .i64 op,.int .i64 num,.string name,.slice ptr (len k) acap]] w (SiP w Av cs mb (simT (lookT cs (tabN cs n)) (cvT cs) sc ⟨op,num,name,ptr,acap⟩ k)):=by
 have HJ:=Lib.hid hj
 have HCS:=Lib.hid hcs
 have HE:=Lib.hid hxx
 have HF:=Lib.hid hfree
 have hsb:=block_lt_of_cell hj.c0
 simp at hsb
 have hmb:=hj.m.lt
 have hns:name.size≤9223372036854775807:=hok.1.2.2.1
 have hba:Hid (Below w.heap.size w ((w.alloc (.cells #[.int .i64 op,.int .i64 num,.string name,.slice ptr (len k) acap] 25)).alloc (.cells #[.int .i64 0,.int .i64 0,.string ⟨#[]⟩,.slice none 0 0] 25))):=(below_box w _).trans ((below_box _ _).mono (by simp))
 have hz0:((w.alloc (.cells #[.int .i64 op,.int .i64 num,.string name,.slice ptr (len k) acap] 25)).alloc (.cells #[.int .i64 0,.int .i64 0,.string ⟨#[]⟩,.slice none 0 0] 25)).heap.size=w.heap.size+2:=by simp
 have n6:(op==6)=false:=by simp [h6]
 subst hk0
 have e1:Hid (simT (lookT cs (tabN cs n)) (cvT cs) sc ⟨op,num,name,ptr,acap⟩ .nil=dE op num noN):=by
  unfold Hid simT sim1
  dsimp only
  rw [if_neg h6,if_pos (show simF (lookT cs (tabN cs n)) (cvT cs) sc .nil=[] from rfl)]
 generalize simT (lookT cs (tabN cs n)) (cvT cs) sc ⟨op,num,name,ptr,acap⟩ .nil=R at *
 clear hj hcs hxx hok hwf hk hz hty hfree
 go_enter Tryz.func40,Tryz.ntmps40
 go_wp2
 refine bodyPost_ret (v:=.agg #[.int .i64 op,.int .i64 num,.string ⟨#[]⟩,.slice none 0 0]) ?_ rfl ?_
 · rw [results_cell1 rfl];go_simp
 · have hb:Below w.heap.size w ((w.alloc (.cells #[.int .i64 op,.int .i64 num,.string name,.slice ptr (len BT.nil) acap] 25)).alloc (.cells #[.int .i64 op,.int .i64 num,.string ⟨#[]⟩,.slice none 0 0] 25)):=(below_box w _).trans ((below_box _ _).mono (by simp))
   exact ⟨⟨0,0,⟨op,num,⟨#[]⟩,none,0⟩,.nil⟩,rfl,e1.out.symm,chat_leaf _ _ _,HJ.out.m.next hb,grw_of_below _ hb⟩
set_option maxHeartbeats 16000000 in
set_option maxRecDepth 100000 in
theorem si_node (cs:List Cn) (n:Nat) (sc:Int) (b o:Nat) (op num:Int) (name:ByteArray) (ptr:Option Addr) (acap:Nat) (k:Fo) (ih:AllT (SiC cs n sc) k) (h6:op≠6) (hk0:k≠.nil) (w:World) (Av:Nat→Prop) (sb mb:Nat) (kp p:Option Addr) (cap:Nat) (hj:SmJ w cs Av sb mb kp p cap) (hcs:CsV w cs p) (hxx:ExAt w b o ⟨op,num,name,ptr,acap⟩ k) (hok:ExOk ⟨op,num,name,ptr,acap⟩ k) (hwf:(wfB ⟨op,num,name,ptr,acap⟩ (len k) && wfT k)=true) (hk:len k≤200) (hz:LnB k) (hty:(tyT (lookT cs (tabN cs n)) sc ⟨op,num,name,ptr,acap⟩ k).2=0) (hfree:∀ g,w.heap.size≤g→Av g) (hcl:cs.length≤2932031007402) :
 Calls Tryz.prog 40 #[.pointer (some ⟨sb,0,none⟩),.int .i64 sc,.agg #[.int .i64 op,.int .i64 num,.string name,.slice ptr (len k) acap]] w (SiP w Av cs mb (simT (lookT cs (tabN cs n)) (cvT cs) sc ⟨op,num,name,ptr,acap⟩ k)):=by
 have HJ:=Lib.hid hj
 have HCS:=Lib.hid hcs
 have HE:=Lib.hid hxx
 have HF:=Lib.hid hfree
 have hsb:=block_lt_of_cell hj.c0
 simp at hsb
 have hmb:=hj.m.lt
 have hns:name.size≤9223372036854775807:=hok.1.2.2.1
 have hba:Hid (Below w.heap.size w ((w.alloc (.cells #[.int .i64 op,.int .i64 num,.string name,.slice ptr (len k) acap] 25)).alloc (.cells #[.int .i64 0,.int .i64 0,.string ⟨#[]⟩,.slice none 0 0] 25))):=(below_box w _).trans ((below_box _ _).mono (by simp))
 have hz0:((w.alloc (.cells #[.int .i64 op,.int .i64 num,.string name,.slice ptr (len k) acap] 25)).alloc (.cells #[.int .i64 0,.int .i64 0,.string ⟨#[]⟩,.slice none 0 0] 25)).heap.size=w.heap.size+2:=by simp
 have IH:=Lib.hid ih
 have HOK:=Lib.hid hok
 have HZ:=Lib.hid hz
 have hwb:wfB ⟨op,num,name,ptr,acap⟩ (len k)=true∧wfT k=true:=by rw [Bool.and_eq_true] at hwf;exact hwf
 have HWT:=Lib.hid hwb.2
 have h1:=(wf_parts hwb.1).1
 have har:=(wf_parts hwb.1).2.1
 have hk1:0 < len k:=Nat.pos_of_ne_zero (fun q=>hk0 (len_zero q))
 have h7:7≤op∧op≤22:=by
  refine ⟨?_,h1.2⟩
  apply Int.not_lt.1
  intro q
  have:=har
  unfold argB at this
  dsimp only at this
  rw [if_pos (by have:=h1.1;dsimp only at this;omega)] at this
  simp at this
  omega
 obtain ⟨t1,t2,t3⟩:=ty_parts (lookT cs (tabN cs n)) sc ⟨op,num,name,ptr,acap⟩ k hty h6
 obtain ⟨s1,s2⟩:=simF_sm (lookT cs (tabN cs n)) (cvT cs) sc (cvok_of cs n) k t1 hwb.2
 have ST:Hid (simT (lookT cs (tabN cs n)) (cvT cs) sc ⟨op,num,name,ptr,acap⟩ k=if (simF (lookT cs (tabN cs n)) (cvT cs) sc k).all isLit=true then litE (resT op (tyF (lookT cs (tabN cs n)) sc k).2) (opV op ((simF (lookT cs (tabN cs n)) (cvT cs) sc k).map litV)) else redE op (simF (lookT cs (tabN cs n)) (cvT cs) sc k)):=by
  unfold Hid simT sim1
  dsimp only
  have hl:=simF_len (lookT cs (tabN cs n)) (cvT cs) sc k
  rw [if_neg h6,if_neg (fun q=>by rw [q] at hl;simp at hl;omega)]
 have LN:=Lib.hid (simF_lnc (lookT cs (tabN cs n)) (cvT cs) sc k hz)
 have TY:=Lib.hid t1
 have RR:=Lib.hid (And.intro s1 (And.intro s2 (And.intro t2 har)))
 clear hj hcs hxx hok hwf hz hty hfree ih hwb har hk1 h1 t1 t2 t3 s1 s2
 have n6:(op==6)=false:=by simp [h6]
 have n0:((len k:Int)==0)=false:=by
  have:len k≠0:=fun q=>hk0 (len_zero q)
  simp [this]
 go_enter Tryz.func40,Tryz.ntmps40
 have x0:((w.alloc (.cells #[.int .i64 op,.int .i64 num,.string name,.slice ptr (len k) acap] 25)).alloc (.cells #[.int .i64 0,.int .i64 0,.string ⟨#[]⟩,.slice none 0 0] 25)).cell? ⟨w.heap.size,0,none⟩=some (.int .i64 op):=by simp [go_sem]
 have x3:((w.alloc (.cells #[.int .i64 op,.int .i64 num,.string name,.slice ptr (len k) acap] 25)).alloc (.cells #[.int .i64 0,.int .i64 0,.string ⟨#[]⟩,.slice none 0 0] 25)).cell? ⟨w.heap.size,3,none⟩=some (.slice ptr (len k) acap):=by simp [go_sem]
 have RB0:Hid (BX4 ((w.alloc (.cells #[.int .i64 op,.int .i64 num,.string name,.slice ptr (len k) acap] 25)).alloc (.cells #[.int .i64 0,.int .i64 0,.string ⟨#[]⟩,.slice none 0 0] 25)) (w.heap.size+1) (.int .i64 0) (.int .i64 0) (.string ⟨#[]⟩) (.slice none 0 0)):=by
  have h:=BX4.new (w.alloc (.cells #[.int .i64 op,.int .i64 num,.string name,.slice ptr (len k) acap] 25)) (.int .i64 0) (.int .i64 0) (.string ⟨#[]⟩) (.slice none 0 0) 25
  rw [World.size_alloc] at h
  exact h
 obtain ⟨i0,hi,hi0,hi1,hi2⟩:=info_parts Tryz.infoXc
 go_upto_region 8 with (fail)
 generalize ((w.alloc (.cells #[.int .i64 op,.int .i64 num,.string name,.slice ptr (len k) acap] 25)).alloc (.cells #[.int .i64 0,.int .i64 0,.string ⟨#[]⟩,.slice none 0 0] 25))=w0 at *
 go_cut [9] (fun v9 wx=>∃ fb gs:Nat,v9=.pointer (some ⟨fb,0,none⟩)∧Hid (BX4 wx fb (.int .i64 op) (.int .i64 0) (.string ⟨#[]⟩) (.slice (some ⟨gs,0,none⟩) (len k) (len k)) ∧
  wx.ownsRow (w.heap.size+2) 25 4 (.slice (some ⟨gs,0,none⟩) (len k) (len k)) (len k) (zeros4 (len k))∧fb≠gs∧w.heap.size+2≤fb∧Below (w.heap.size+2) w0 wx))
 case first =>
  have bD:w.heap.size+2≤w0.drew.heap.size:=by show w.heap.size+2≤w0.heap.size;omega
  obtain ⟨wm,hm,om,gm⟩:=run_make_full (P:=Tryz.prog) w0.drew (w.heap.size+2) 23 25 i0 (.agg #[.int .i64 0,.int .i64 0,.string ⟨#[]⟩,.slice none 0 0]) 4 Tryz.underlying23 hi hi0 hi1 .i64 .i64 (len k) (by rw [hi2];omega) (by unfold maxLen;omega) bD
  obtain ⟨wn,hn,on,gn⟩:=run_make_full (P:=Tryz.prog) (w0.alloc (.cells #[.int .i64 0,.int .i64 0,.string ⟨#[]⟩,.slice none 0 0] 25)).drew (w.heap.size+2) 23 25 i0 (.agg #[.int .i64 0,.int .i64 0,.string ⟨#[]⟩,.slice none 0 0]) 4 Tryz.underlying23 hi hi0 hi1 .i64 .i64 (len k) (by rw [hi2];omega) (by unfold maxLen;omega) (by simp;omega)
  have OM:Hid (wm.ownsRow (w.heap.size+2) 25 4 (.slice (some ⟨w.heap.size+2,0,none⟩) (len k) (len k)) (len k) (zeros4 (len k))):=by
   have h:=om
   rw [show (Value.agg #[.int .i64 0,.int .i64 0,.string ⟨#[]⟩,.slice none 0 0]).cells=#[.int .i64 0,.int .i64 0,.string ⟨#[]⟩,.slice none 0 0] from rfl,made_zeros4,show w0.drew.heap.size=w.heap.size+2 from hz0] at h
   exact h
  have GM:=Lib.hid gm
  have ON:Hid (wn.ownsRow (w.heap.size+2) 25 4 (.slice (some ⟨w.heap.size+2+1,0,none⟩) (len k) (len k)) (len k) (zeros4 (len k))):=by
   have h:=on
   rw [show (Value.agg #[.int .i64 0,.int .i64 0,.string ⟨#[]⟩,.slice none 0 0]).cells=#[.int .i64 0,.int .i64 0,.string ⟨#[]⟩,.slice none 0 0] from rfl,made_zeros4,show (w0.alloc (.cells #[.int .i64 0,.int .i64 0,.string ⟨#[]⟩,.slice none 0 0] 25)).drew.heap.size=w.heap.size+2+1 by simp [hz0]] at h
   exact h
  have GN:=Lib.hid gn
  clear om on
  have hl0:w.heap.size < w0.heap.size:=by omega
  have a0:wm.cell? ⟨w.heap.size,0,none⟩=some (.int .i64 op):=(gb_cell gm (p:=⟨w.heap.size,0,none⟩) (by show w.heap.size < w0.heap.size;omega) (by simp)).trans x0
  have a3:wm.cell? ⟨w.heap.size,3,none⟩=some (.slice ptr (len k) acap):=(gb_cell gm (p:=⟨w.heap.size,3,none⟩) (by show w.heap.size < w0.heap.size;omega) (by simp)).trans x3
  have b0:wn.cell? ⟨w.heap.size,0,none⟩=some (.int .i64 op):=(gb_cell gn (p:=⟨w.heap.size,0,none⟩) (by simp;omega) (by simp)).trans (by simp [go_sem,hl0,x0])
  have b3:wn.cell? ⟨w.heap.size,3,none⟩=some (.slice ptr (len k) acap):=(gb_cell gn (p:=⟨w.heap.size,3,none⟩) (by simp;omega) (by simp)).trans (by simp [go_sem,hl0,x3])
  have d0:wn.cell? ⟨w.heap.size+2,0,none⟩=some (.int .i64 0):=(gb_cell gn (p:=⟨w.heap.size+2,0,none⟩) (by simp;omega) (by simp)).trans (by rw [← hz0];simp [go_sem])
  have d1:wn.cell? ⟨w.heap.size+2,1,none⟩=some (.int .i64 0):=(gb_cell gn (p:=⟨w.heap.size+2,1,none⟩) (by simp;omega) (by simp)).trans (by rw [← hz0];simp [go_sem])
  have d2:wn.cell? ⟨w.heap.size+2,2,none⟩=some (.string ⟨#[]⟩):=(gb_cell gn (p:=⟨w.heap.size+2,2,none⟩) (by simp;omega) (by simp)).trans (by rw [← hz0];simp [go_sem])
  have d3:wn.cell? ⟨w.heap.size+2,3,none⟩=some (.slice none 0 0):=(gb_cell gn (p:=⟨w.heap.size+2,3,none⟩) (by simp;omega) (by simp)).trans (by rw [← hz0];simp [go_sem])
  have e0:wn.frozen? ⟨w.heap.size+2,0,none⟩=false:=(gb_frozen gn (p:=⟨w.heap.size+2,0,none⟩) (by simp;omega) (by simp)).trans (by rw [← hz0];simp [go_sem])
  have e1:wn.frozen? ⟨w.heap.size+2,1,none⟩=false:=(gb_frozen gn (p:=⟨w.heap.size+2,1,none⟩) (by simp;omega) (by simp)).trans (by rw [← hz0];simp [go_sem])
  have e2:wn.frozen? ⟨w.heap.size+2,2,none⟩=false:=(gb_frozen gn (p:=⟨w.heap.size+2,2,none⟩) (by simp;omega) (by simp)).trans (by rw [← hz0];simp [go_sem])
  have e3:wn.frozen? ⟨w.heap.size+2,3,none⟩=false:=(gb_frozen gn (p:=⟨w.heap.size+2,3,none⟩) (by simp;omega) (by simp)).trans (by rw [← hz0];simp [go_sem])
  have hlm:w.heap.size < wm.heap.size:=by have:=gm.size;simp at this;omega
  have hln:w.heap.size < wn.heap.size:=by have:=gn.size;simp at this;omega
  have hln2:w.heap.size+2 < wn.heap.size:=by have:=gn.size;simp at this;omega
  clear gm gn
  go_region
  · go_wp2
    go_meet
    have hl2:w.heap.size+2 < wm.heap.size:=(OM.out.lt _ rfl).2
    refine ⟨wm.heap.size,w.heap.size+2,rfl,BX4.new wm _ _ _ _ _,OM.out.alloc _,by omega,by omega,?_⟩
    exact (((Below.refl _ _).drew).grown GM.out (by simp;omega) (fun m hm=>by cases hm)).alloc (by omega) _
  · go_wp2
    go_meet
    refine ⟨w.heap.size+2,w.heap.size+2+1,rfl,?_,own_setCell_ne (own_setCell_ne (own_setCell_ne (own_setCell_ne ON.out (by simp [Value.ownBlock]) _) (by simp [Value.ownBlock]) _) (by simp [Value.ownBlock]) _) (by simp [Value.ownBlock]) _,by omega,by omega,?_⟩
    · refine ⟨?_,?_,?_,?_,?_,?_,?_,?_,by simp [World.setCell];omega⟩<;>simp [go_sem,d0,d1,d2,d3,e0,e1,e2,e3]
    · exact (((((((Below.refl _ _).alloc (by omega) _).drew).grown GN.out (by simp;omega) (fun m hm=>by cases hm)).setCell (by simp) _).setCell (by simp) _).setCell (by simp) _).setCell (by simp) _
 case rest =>
  obtain ⟨fb,gs,rfl,HD⟩:=hcut
  have BC:Hid (Below w0.heap.size w0 wc):=by unfold Hid;rw [hz0];exact HD.out.2.2.2.2
  have BW:=Lib.hid (hba.out.trans (BC.out.mono hba.out.size))
  have hgs:=HD.out.2.1.lt gs rfl
  have hne:fb≠gs:=HD.out.2.2.1
  have hfb:w.heap.size+2≤fb:=HD.out.2.2.2.1
  have y3:wc.cell? ⟨w.heap.size,3,none⟩=some (.slice ptr (len k) acap):=by rw [BC.out.cell (p:=⟨w.heap.size,3,none⟩) (by show w.heap.size < w0.heap.size;omega)];exact x3
  have S0:Hid (SiSt w wc wc cs Av sb mb kp p cap fb gs op (len k) [] (len k)):=⟨HD.out.1,RB0.out.next BC.out,HD.out.2.1,(fun c hc=>by cases hc),Nat.le_refl _,HJ.out.in2 BW.out (fun g h1 h2=>⟨h1,by omega,by omega⟩),grw_of_below _ BW.out⟩
  clear x0 x3 HD RB0
  go_wp2_with fail
  clear y3
  go_loopw [51] (fun i wr=>∃ (j:Nat) (r:Fo) (Dn:List Ch),i=.int .i64 j∧Hid (j+len r=len k∧FoAt wr r b (o+j * 4)∧FoOk r∧AllT (SiC cs n sc) r∧wfT r=true∧LnB r∧(tyF (lookT cs (tabN cs n)) sc r).1=0∧Dn.length=j ∧
   SiSt w wc wr cs Av sb mb kp p cap fb gs op (len k) Dn (len r)∧(Dn.map ec++simF (lookT cs (tabN cs n)) (cvT cs) sc r=simF (lookT cs (tabN cs n)) (cvT cs) sc k)∧FoLt w.heap.size r b)) (fun i _=>len k - (intOf i).toNat)
  case atStart =>
   exact ⟨0,k,[],rfl,by omega,by rw [Nat.zero_mul,Nat.add_zero];exact (HE.out.2.next BW.out),HOK.out.2,IH.out,HWT.out,HZ.out,TY.out,rfl,S0.out,rfl,HE.out.2.lt⟩
  case round =>
   obtain ⟨j,r,Dn,rfl,HR⟩:=hrel
   have S1:=Lib.hid HR.out.2.2.2.2.2.2.2.2.1
   cases r with
   | nil =>
     have hj:¬ (j:Int) < (len k:Int):=by have:=HR.out.1;simp [len] at this;omega
     have hl:Hid (Dn.length=len k):=by have h1:=HR.out.1;have h2:=HR.out.2.2.2.2.2.2.2.1;simp [len] at h1;unfold Hid;omega
     have hm:Hid (Dn.map ec=simF (lookT cs (tabN cs n)) (cvT cs) sc k):=by
      have h:=HR.out.2.2.2.2.2.2.2.2.2.1
      rw [show simF (lookT cs (tabN cs n)) (cvT cs) sc .nil=[] from rfl,List.append_nil] at h
      exact h
     have hlr:len (rowF Dn)=len k:=by rw [rowF_len];exact hl.out
     have FX:=rowF_at (w:=wr) (B0:=w.heap.size+2) (g:=gs) (O:=0) Dn (fun c hc=>(S1.out.ch c hc).mono (by omega)) (fun i u hu=>by
      have how:=S1.out.ow
      simp only [len] at how
      have hi9:i < len k * 4:=by
       have h1:=(List.getElem?_eq_some_iff.1 hu).1
       have h2:=rowC_len4 Dn
       have h3:=hl.out
       omega
      rw [Nat.zero_add,how.cellAt i hi9,List.getElem?_append_left (by exact (List.getElem?_eq_some_iff.1 hu).1)];exact hu) hgs.1
     have hsm:smL sc (tyF (lookT cs (tabN cs n)) sc k).2 ((kids (rowF Dn)).map ec):=by rw [kids_rowF,hm.out];exact RR.out.1
     have hln:LnB (rowF Dn):=lnb_row Dn (fun c hc=>(lnc_ec c).1 (LN.out _ (by rw [← hm.out];exact List.mem_map.2 ⟨c,hc,rfl⟩)))
     have RED:=red_any (fun g=>w.heap.size+2≤g) sb kp gs 0 (len k) op (rowF Dn) (tyF (lookT cs (tabN cs n)) sc k).2 sc wr S1.out.sj.c2 FX.1 (FoAv.ge FX.2) (fun g hg=>by have:=S1.out.gr.size;have:=S1.out.sz;omega) (fo_ok _ (smL_ef sc _ _ hsm) hln) hsm RR.out.2.1 h7 (by rw [hlr];exact RR.out.2.2.2) (by omega) RR.out.2.2.1
     rw [hlr,kids_rowF,hm.out,← ST.out] at RED
     have REH:=Lib.hid RED
     obtain ⟨y0,y1,y2,y3,-,-,-,-,-⟩:=S1.out.yb
     clear FX hsm hln RED
     go_wp2_with fail
     refine REH.out.mono ?_
     rintro e w2 ⟨c,rfl,hc,hcx,hca,hcb⟩
     have E2:=Lib.hid hc
     have X2:Hid (ChAt w2 (w.heap.size+2) c):=⟨hcx,FoGe.av hca⟩
     have M2:=Lib.hid (S1.out.sj.m.next hcb)
     have G2:=Lib.hid (grw_below S1.out.gr (hcb.mono S1.out.gr.size))
     have RB2:=Lib.hid (S1.out.rb.next hcb)
     clear hc hcx hca hcb REH y0 y1 y2 y3
     obtain ⟨r0,r1,r2,r3,f0,f1,f2,f3,-⟩:=RB2.out
     go_wp2
     refine bodyPost_ret (v:=.agg #[.int .i64 c.a.op,.int .i64 c.a.num,.string c.a.name,.slice c.a.ptr (len c.k) c.a.cap]) ?_ rfl (sip_store E2.out X2.out M2.out G2.out (fun g h=>⟨h.1,h.2.2⟩) (by omega) (by omega) hmb)
     rw [results_cell1 rfl];go_simp
   | node b1 o1 a1 k1 r1 =>
     have hj:j < len k:=by have:=HR.out.1;simp [len] at this;omega
     obtain rfl:ptr=some ⟨b,o,none⟩:=HE.out.1 hk0
     obtain ⟨⟨c0,c1,c2,c3⟩,hp1,hk1,hr1⟩:=HR.out.2.1
     have E1:Hid (ExAt wr b1 o1 a1 k1):=⟨hp1,hk1⟩
     have N1:=Lib.hid hr1
     clear hp1 hk1 hr1
     have hj1:(j:Int) < (len k:Int):=by omega
     have hj0:(0:Int)≤(j:Int):=by omega
     have W1:Hid ((wfB a1 (len k1) && wfT k1)=true∧wfT r1=true):=by
      have h:((wfB a1 (len k1) && wfT k1) && wfT r1)=true:=HR.out.2.2.2.2.1
      rw [Bool.and_eq_true] at h;exact h
     have Z1:Hid ((len k1≤200∧LnB k1)∧LnB r1):=HR.out.2.2.2.2.2.1
     have T1:=Lib.hid (ty_row (lookT cs (tabN cs n)) sc b1 o1 a1 k1 r1 HR.out.2.2.2.2.2.2.1)
     have YBa:=Lib.hid (S1.out.yb.next (below_box wr (.cells #[.int .i64 a1.op,.int .i64 a1.num,.string a1.name,.slice a1.ptr (len k1) a1.cap] 25)))
     obtain ⟨y0,y1,y2,y3,-,-,-,-,-⟩:=YBa.out
     go_upto_region 12 with (fail)
     have AB:Hid (Below wr.heap.size wr (wr.alloc (.cells #[.int .i64 a1.op,.int .i64 a1.num,.string a1.name,.slice a1.ptr (len k1) a1.cap] 25)).drew):=((Below.refl _ _).alloc (Nat.le_refl _) _).drew
     have e0:(wr.alloc (.cells #[.int .i64 a1.op,.int .i64 a1.num,.string a1.name,.slice a1.ptr (len k1) a1.cap] 25)).cell? ⟨wr.heap.size,0,none⟩=some (.int .i64 a1.op):=by simp [go_sem]
     have e1:(wr.alloc (.cells #[.int .i64 a1.op,.int .i64 a1.num,.string a1.name,.slice a1.ptr (len k1) a1.cap] 25)).cell? ⟨wr.heap.size,1,none⟩=some (.int .i64 a1.num):=by simp [go_sem]
     have e2:(wr.alloc (.cells #[.int .i64 a1.op,.int .i64 a1.num,.string a1.name,.slice a1.ptr (len k1) a1.cap] 25)).cell? ⟨wr.heap.size,2,none⟩=some (.string a1.name):=by simp [go_sem]
     have e3:(wr.alloc (.cells #[.int .i64 a1.op,.int .i64 a1.num,.string a1.name,.slice a1.ptr (len k1) a1.cap] 25)).cell? ⟨wr.heap.size,3,none⟩=some (.slice a1.ptr (len k1) a1.cap):=by simp [go_sem]
     generalize wr.alloc (.cells #[.int .i64 a1.op,.int .i64 a1.num,.string a1.name,.slice a1.ptr (len k1) a1.cap] 25)=wb at *
     have S2:=Lib.hid (S1.out.next AB.out)
     have CC:=Lib.hid (HR.out.2.2.2.1.1 wb.drew (fun g=>Av g∧g≠gs∧g≠w.heap.size+1) sb mb kp p cap S2.out.sj (HCS.out.keep (Keeps.of_sm HJ.out.m S2.out.gr)) (E1.out.next AB.out) ⟨HR.out.2.2.1.1,HR.out.2.2.1.2.1⟩ W1.out.1 Z1.out.1.1 Z1.out.1.2 T1.out.1 (fun g hg=>by have h1:=S2.out.gr.size;have h2:=S2.out.sz;exact ⟨HF.out g (by omega),by omega,by omega⟩) hcl)
     clear c0 c1 c2 c3
     go_region_with (go_at_call 40;refine CC.out.mono ?_;rintro e w2 ⟨c,rfl,hc,hcx,hcm,hcg⟩;have EC:=Lib.hid hc;have CA:=Lib.hid hcx;have G2:=Lib.hid hcg;have S3:=Lib.hid (SiSt.turn S2.out hcg hcm hmb (by omega));obtain ⟨v0,v1,v2,v3,-,-,-,-,-⟩:=S3.out.yb;obtain ⟨m0,m1,m2,m3⟩:=SiSt.zero (rest:=len r1) S3.out HR.out.2.2.2.2.2.2.2.1 hj;have m6:=S3.out.ow.frozenAt (j * 4);have m7:=S3.out.ow.frozenAt (j * 4+1);have m8:=S3.out.ow.frozenAt (j * 4+2);have m9:=S3.out.ow.frozenAt (j * 4+3);clear hc hcx hcm hcg)
     all_goals (
      go_wp2
      have SS:=Lib.hid (SiSt.store (rest:=len r1) (c:=c) S3.out HR.out.2.2.2.2.2.2.2.1 hne hgs.1 hgs.2 hmb hsb (CA.out.mono S2.out.sz))
      go_roundw
      case rel=>(
       obtain ⟨q1,-,q3,q4,-,-,-,q8,-,q10,q11⟩:=HR.out
       simp [len] at q1
       refine ⟨j+1,r1,Dn++[c],by go_num,by omega,?_,q3.2.2,q4.2,W1.out.2,Z1.out.2,T1.out.2.1,by simp [q8],SS.out.1,?_,q11.2.2⟩
       · rw [Nat.add_mul,Nat.one_mul,← Nat.add_assoc]
         exact (((N1.out.next AB.out).keep (Keeps.of_sm S2.out.sj.m G2.out))).below q11.2.2 ((Below.refl _ _).grown SS.out.2 S3.out.gr.size (fun m hm=>by cases hm;omega))
       · rw [List.map_append,List.append_assoc,← q10]
         simp only [List.map_cons,List.map_nil,List.singleton_append]
         rw [EC.out];rfl)
      case measure=>(simp [intOf];omega))
theorem si_of (cs:List Cn) (n:Nat) (sc:Int) (hcon:∀ j,j < n→ConS cs j) (b o:Nat) (a:Nd) (k:Fo):SiC cs n sc b o a k:=by
 refine tree_of (P:=SiC cs n sc) ?_ b o a k
 clear b o a k
 intro b o a k ih w Av sb mb kp p cap hj hcs hxx hok hwf hk hz hty hfree hcl
 obtain ⟨op,num,name,ptr,acap⟩:=a
 by_cases h6:op=6
 · subst h6
   exact si_name cs n sc b o num name ptr acap k hcon w Av sb mb kp p cap hj hcs hxx hok hwf hk hz hty hfree hcl
 · by_cases hk0:k=.nil
   · exact si_leaf cs n sc b o op num name ptr acap k h6 hk0 w Av sb mb kp p cap hj hcs hxx hok hwf hk hz hty hfree hcl
   · exact si_node cs n sc b o op num name ptr acap k ih h6 hk0 w Av sb mb kp p cap hj hcs hxx hok hwf hk hz hty hfree hcl
end
section
set_option linter.unusedVariables false
set_option linter.unusedSimpArgs false
open Go.ChangeShapes Go.WideShapes Go.ChangeAt Go.RowKit
open Go.Deep (BT)
theorem sm_look2 {w:World} {cs:List Cn} {Av:Nat→Prop} {b:Nat} (h:SmMap Tryz.prog w cs Av b) (s:ByteArray) (hs:s.size≤maxLen):∃ (c:Ch) (hb:Bool),(∀ w',w.grownBy w' none→(Instr.lookup 79 (.map (some b)) (.string s) true).run Tryz.prog w'=.ok (.tuple #[.agg #[.int .i64 c.a.op,.int .i64 c.a.num,.string c.a.name,.slice c.a.ptr (len c.k) c.a.cap],.bool hb]) w') ∧
 (hb=true→∀ i,firstIx s cs=some i→ec c=litE (rowT cs i).1 (cval cs i)∧ExAt w c.b c.o c.a c.k∧FoAv Av c.k c.b):=by
 obtain ⟨D,K,h1,h2,h3,h4,h5,h6,h7⟩:=h
 have L:∀ w',w.grownBy w' none→∃ v,(Instr.lookup 79 (.map (some b)) (.string s) true).run Tryz.prog w'=.ok (.tuple #[v,.bool (Go.Maps.has D (strK s))]) w'∧(DataW.held v:DataW Value)=D.atKey (strK s) (.held zxV):=fun w' hg=>by
  obtain ⟨v,ps,hrun,hv⟩:=(h1.kept hg (by simp)).look_ok Tryz.keyS Tryz.underlying79 (Tryz.zeroX w') (zd:=.held zxV) (zp:=[]) rfl (Go.WideMaps.keyOf_string_mk Tryz.underlying9 hs)
  exact ⟨v,hrun,congrArg Prod.fst (Option.some.inj hv)⟩
 cases hh:Go.Maps.has D (strK s) with
 | false =>
   refine ⟨⟨0,0,⟨0,0,⟨#[]⟩,none,0⟩,.nil⟩,false,fun w' hg=>?_,fun q=>by cases q⟩
   obtain ⟨v,hrun,e⟩:=L w' hg
   rw [Go.Maps.atKey_of_not_has hh (.held zxV)] at e
   have e2:v=zxV:=by injection e
   subst e2
   rw [hh] at hrun
   exact hrun
 | true =>
   have hi:∃ i ∈ K,firstIx s cs=some i:=Classical.byContradiction fun q=>by
    have:=h7 s (fun i hi hq=>q ⟨i,hi,hq⟩)
    rw [hh] at this;cases this
   obtain ⟨i,hi,hf⟩:=hi
   obtain ⟨-,-,c,g3,g4,g5,g6⟩:=h6 s i hf hi
   refine ⟨c,true,fun w' hg=>?_,fun _ j hj=>?_⟩
   · obtain ⟨v,hrun,e⟩:=L w' hg
     rw [g3] at e
     have e2:v=xpV c.a c.k:=by injection e
     subst e2
     rw [hh] at hrun
     exact hrun
   · rw [hf] at hj
     cases hj
     exact ⟨g4,g5,g6⟩
theorem cop_store {w wx:World} {Av Av':Nat→Prop} {cs:List Cn} {mb r:Nat} {c:Ch} {x:Ch} {u0 u1 u2 u3:Value} (hc:ec c=x) (hx:ExAt wx c.b c.o c.a c.k) (ha:FoAv Av' c.k c.b) (hm:SmMap Tryz.prog wx cs Av' mb) (hg:w.grownBy wx (some mb)) (hA:∀ g,Av' g→Av g∧g≠r) (hr:w.heap.size≤r) (hmb:mb < w.heap.size) :
 KoP w Av cs mb x (.returned (.agg #[.int .i64 c.a.op,.int .i64 c.a.num,.string c.a.name,.slice c.a.ptr (len c.k) c.a.cap])) ((((wx.setCell ⟨r,0,none⟩ u0).setCell ⟨r,1,none⟩ u1).setCell ⟨r,2,none⟩ u2).setCell ⟨r,3,none⟩ u3):=by
 have g:∀ (w:World) (i:Nat) (u:Value),w.grownBy (w.setCell ⟨r,i,none⟩ u) (some r):=fun w i u=>⟨rfl,rfl,rfl,by simp [World.setCell],fun k hk hr=>Below.heap_setCell _ _ _ _ (fun e=>hr (by rw [e]))⟩
 have g4:=(((g wx 0 u0).trans (g _ 1 u1)).trans (g _ 2 u2)).trans (g _ 3 u3)
 exact ⟨c,rfl,hc,hx.av4 (ha.mono fun y hy=>(hA y hy).2),ha.mono (fun y hy=>(hA y hy).1),(hm.grown g4 (by omega) (fun y hy=>(hA y hy).2)).mono (fun y hy=>(hA y hy).1),grw_new hg g4 hr⟩
set_option maxHeartbeats 16000000 in
set_option maxRecDepth 100000 in
theorem con_of_si (cs:List Cn) (j:Nat) (hsi:∀ b o a k,SiC cs j 0 b o a k):ConS cs j:=by
 intro w Av sb mb kp p cap s hs ht hns hj hcs hfree hcl
 have hst:=hs
 obtain ⟨⟨c0,hc0,hnm⟩,-⟩:=(firstIx_some s cs j).1 hs
 have hjl:j < cs.length:=by
  obtain ⟨h,-⟩:=List.getElem?_eq_some_iff.1 hc0
  exact h
 have CL:=con_lit cs j c0 hc0 ht
 obtain ⟨hv,het⟩:=rowT_some cs j c0 hc0 ht
 obtain ⟨hwf,hsz⟩:=val_ok c0.a c0.k hv
 have hty:(tyT (lookT cs (tabN cs j)) 0 c0.a c0.k).2=0:=by rw [← het];exact ht
 have hok0:CnOk c0:=hcs.ok c0 (List.mem_of_getElem? hc0)
 obtain ⟨R,hR⟩:∃ R,litE (rowT cs j).1 (cval cs j)=R:=⟨_,rfl⟩
 have HSI:=Lib.hid (hsi c0.b c0.o c0.a c0.k)
 have HP:=Lib.hid (And.intro hwf (And.intro (Nat.le_trans (len_le_sz c0.k) hsz) (And.intro (sz_lnb c0.k hsz) (And.intro hty hok0.2))))
 have HI:=Lib.hid (And.intro hst (And.intro ht (And.intro hc0 (And.intro hjl CL))))
 have HRR:=Lib.hid hR
 have HJ:=Lib.hid hj
 have HCS:=Lib.hid hcs
 have HF:=Lib.hid hfree
 have hsb:=block_lt_of_cell hj.c0
 simp at hsb
 have hmb:=hj.m.lt
 rw [hR]
 clear hsi hs hst ht hj hcs hfree hc0 hnm CL hv het hwf hsz hty hok0 hR
 have hba:Hid (Below w.heap.size w ((w.alloc (.cells #[.string s] 9)).alloc (.cells #[.int .i64 0,.int .i64 0,.string ⟨#[]⟩,.slice none 0 0] 25))):=(below_box w _).trans ((below_box _ _).mono (by simp))
 have hz0:((w.alloc (.cells #[.string s] 9)).alloc (.cells #[.int .i64 0,.int .i64 0,.string ⟨#[]⟩,.slice none 0 0] 25)).heap.size=w.heap.size+2:=by simp
 have RB0:Hid (BX4 ((w.alloc (.cells #[.string s] 9)).alloc (.cells #[.int .i64 0,.int .i64 0,.string ⟨#[]⟩,.slice none 0 0] 25)) (w.heap.size+1) (.int .i64 0) (.int .i64 0) (.string ⟨#[]⟩) (.slice none 0 0)):=by
  have h:=BX4.new (w.alloc (.cells #[.string s] 9)) (.int .i64 0) (.int .i64 0) (.string ⟨#[]⟩) (.slice none 0 0) 25
  rw [World.size_alloc] at h
  exact h
 have NB0:((w.alloc (.cells #[.string s] 9)).alloc (.cells #[.int .i64 0,.int .i64 0,.string ⟨#[]⟩,.slice none 0 0] 25)).cell? ⟨w.heap.size,0,none⟩=some (.string s):=by simp [go_sem]
 have J0:Hid (SmJ ((w.alloc (.cells #[.string s] 9)).alloc (.cells #[.int .i64 0,.int .i64 0,.string ⟨#[]⟩,.slice none 0 0] 25)) cs (fun g=>Av g∧g≠w.heap.size+1) sb mb kp p cap):=HJ.out.in2 hba.out (fun g h1 h2=>⟨h1,by omega⟩)
 go_enter Tryz.func79,Tryz.ntmps79
 go_upto_region 1 with (fail)
 generalize ((w.alloc (.cells #[.string s] 9)).alloc (.cells #[.int .i64 0,.int .i64 0,.string ⟨#[]⟩,.slice none 0 0] 25))=w0 at *
 have y0:=J0.out.c0
 have y1:=J0.out.c1
 have y2:=J0.out.c2
 have hsb0:sb < w0.heap.size:=by omega
 have hn0:w.heap.size < w0.heap.size:=by omega
 have HZ0:=Lib.hid hz0
 clear hz0
 obtain ⟨c,hb,hlk,hvc⟩:=sm_look2 J0.out.m s hns
 have HL:=Lib.hid hlk
 have VC:=Lib.hid hvc
 clear hlk hvc
 go_cut [5,6] (fun v5 v6 wx=>∃ (xb:Nat),v5=.pointer (some ⟨xb,0,none⟩)∧v6=.bool hb∧Hid (BX4 wx xb (.int .i64 c.a.op) (.int .i64 c.a.num) (.string c.a.name) (.slice c.a.ptr (len c.k) c.a.cap)∧Below w0.heap.size w0 wx∧w0.heap.size≤xb))
 case first =>
  have hruna:=HL.out w0.drew (grw_of_below none (Below.refl _ _).drew)
  have hrunb:=HL.out (w0.alloc (.cells #[.int .i64 0,.int .i64 0,.string ⟨#[]⟩,.slice none 0 0] 25)).drew (grw_of_below none ((Below.refl _ _).alloc (Nat.le_refl _) _).drew)
  go_region
  all_goals go_wp2
  all_goals go_meet
  all_goals
   have B1:Below w0.heap.size w0 (w0.alloc (.cells #[.int .i64 c.a.op,.int .i64 c.a.num,.string c.a.name,.slice c.a.ptr (len c.k) c.a.cap] 25)).drew:=((Below.refl _ _).alloc (Nat.le_refl _) _).drew
   exact ⟨_,rfl,rfl,(BX4.new w0 _ _ _ _ _).next (Below.refl _ _).drew,B1,Nat.le_refl _⟩
 case rest =>
  obtain ⟨xb,rfl,rfl,HD⟩:=hcut
  have JW:=Lib.hid (J0.out.next HD.out.2.1)
  have RB1:=Lib.hid (RB0.out.next HD.out.2.1)
  have BW:=Lib.hid (hba.out.trans (HD.out.2.1.mono hba.out.size))
  have hzw:w.heap.size+2≤wc.heap.size:=by have:=HD.out.2.1.size;have:=HZ0.out;omega
  clear y0 y1 y2 hsb0
  cases hb with
  | true =>
    obtain ⟨v1,v2,v3⟩:=VC.out rfl j HI.out.1
    have V:=Lib.hid (And.intro (v1.trans HRR.out) (And.intro (v2.next HD.out.2.1) v3))
    obtain ⟨x0,x1,x2,x3,-,-,-,-,-⟩:=HD.out.1
    obtain ⟨r0,r1,r2,r3,f0,f1,f2,f3,-⟩:=RB1.out
    clear v1 v2 v3 VC HL NB0 hn0
    go_wp2
    refine bodyPost_ret (v:=.agg #[.int .i64 c.a.op,.int .i64 c.a.num,.string c.a.name,.slice c.a.ptr (len c.k) c.a.cap]) ?_ rfl (cop_store V.out.1 V.out.2.1 V.out.2.2 JW.out.m (grw_of_below _ BW.out) (fun g h=>h) (by omega) hmb)
    rw [results_cell1 rfl];go_simp
  | false =>
    have n0:wc.cell? ⟨w.heap.size,0,none⟩=some (.string s):=by rw [HD.out.2.1.cell (p:=⟨w.heap.size,0,none⟩) hn0];exact NB0
    have IXH:=Lib.hid (ixc_any cs p cap s w.heap.size wc (HCS.out.keep (Keeps.of_below BW.out)) n0 (by omega))
    rw [HI.out.1] at IXH
    have y0:=JW.out.c0
    have N0:=Lib.hid n0
    clear VC HL NB0 hn0 n0 HD
    go_wp2_with fail
    refine IXH.out.mono ?_
    rintro e w2 ⟨rfl,hb2⟩
    have J2:=Lib.hid (JW.out.next hb2)
    have RB2:=Lib.hid (RB1.out.next hb2)
    have B2:=Lib.hid (BW.out.trans (hb2.mono BW.out.size))
    have hz2:w.heap.size+2≤w2.heap.size:=by have:=hb2.size;omega
    have N2:Hid (w2.cell? ⟨w.heap.size,0,none⟩=some (.string s)):=by unfold Hid;rw [hb2.cell (p:=⟨w.heap.size,0,none⟩) (by show w.heap.size < wc.heap.size;omega)];exact N0.out
    clear hb2 IXH y0
    have hj0:¬ (j:Int) < 0:=by omega
    have y0:=J2.out.c0
    obtain ⟨B,O,rfl,⟨d0,d1,d2,d3,d4⟩,hx0⟩:=(HCS.out.keep (Keeps.of_below B2.out)).get HI.out.2.2.1
    have hj1:(j:Int) < (cs.length:Int):=by have:=HI.out.2.2.2.1;omega
    have CS:=Lib.hid (HSI.out w2 (fun g=>Av g∧g≠w.heap.size+1) sb mb kp _ cap J2.out (HCS.out.keep (Keeps.of_below B2.out)) hx0 HP.out.2.2.2.2 HP.out.1 HP.out.2.1 HP.out.2.2.1 HP.out.2.2.2.1 (fun g hg=>⟨HF.out g (by omega),by omega⟩) hcl)
    rw [HI.out.2.2.2.2,HRR.out] at CS
    clear hx0
    go_wp2_with fail
    refine CS.out.mono ?_
    rintro e w3 ⟨d,rfl,hd,hdx,hdm,hdg⟩
    have ED:=Lib.hid hd
    have XD:=Lib.hid hdx
    have MD:=Lib.hid hdm
    have J3:=Lib.hid (J2.out.turn hdg hdm)
    have G3:=Lib.hid ((grw_of_below (some mb) B2.out).trans hdg)
    have RB3:=Lib.hid (RB2.out.grown hdg (by simp;omega))
    have n3:w3.cell? ⟨w.heap.size,0,none⟩=some (.string s):=by rw [World.cell?_of_block (hdg.block w.heap.size (by omega) (by simp;omega))];exact N2.out
    have hz3:w.heap.size+2≤w3.heap.size:=by have:=hdg.size;omega
    have DA:Hid (FoAv (fun g=>Av g∧g≠w.heap.size+1) d.k d.b):=(FoAv.ge hdx.2).mono (fun g hg=>⟨HF.out g (by omega),by omega⟩)
    clear hd hdx hdm hdg CS d0 d1 d2 d3 d4 y0
    have B4:Below w3.heap.size w3 (w3.alloc (.cells #[.int .i64 d.a.op,.int .i64 d.a.num,.string d.a.name,.slice d.a.ptr (len d.k) d.a.cap] 25)).drew:=((Below.refl _ _).alloc (Nat.le_refl _) _).drew
    obtain ⟨w5,hrun5,hm5,hg5⟩:=sm_upd (MD.out.next B4) s hns d j HI.out.1 HI.out.2.2.2.1 hcl HI.out.2.1 (ED.out.trans HRR.out.symm) (XD.out.1.next B4) DA.out
    have X5:=Lib.hid ((XD.out.1.next B4).keep (Keeps.of_sm (MD.out.next B4) hg5))
    have XB5:=Lib.hid (((BX4.new w3 (.int .i64 d.a.op) (.int .i64 d.a.num) (.string d.a.name) (.slice d.a.ptr (len d.k) d.a.cap) 25).next (Below.refl _ _).drew).grown hg5 (by simp;omega))
    have RB5:=Lib.hid ((RB3.out.next B4).grown hg5 (by simp;omega))
    have M5:=Lib.hid hm5
    have G5:=Lib.hid ((grw_below G3.out (B4.mono G3.out.size)).trans hg5)
    have y1:=J3.out.c1
    have hs3:sb < w3.heap.size:=by omega
    have hn3:w.heap.size < w3.heap.size:=by omega
    unfold xpV at hrun5
    clear hm5 hg5 B4
    go_upto_region 8 with (fail)
    go_region
    all_goals (
     obtain ⟨x0,x1,x2,x3,-,-,-,-,-⟩:=XB5.out
     obtain ⟨r0,r1,r2,r3,f0,f1,f2,f3,-⟩:=RB5.out
     clear hrun5 y1 n3
     go_wp2
     refine bodyPost_ret (v:=.agg #[.int .i64 d.a.op,.int .i64 d.a.num,.string d.a.name,.slice d.a.ptr (len d.k) d.a.cap]) ?_ rfl (cop_store ED.out X5.out DA.out M5.out G5.out (fun g h=>h) (by omega) hmb)
     rw [results_cell1 rfl];go_simp)
theorem si_con (cs:List Cn) (n:Nat):(∀ sc b o a k,SiC cs n sc b o a k)∧∀ j,j < n→ConS cs j:=by
 induction n using Nat.strongRecOn with
 | _ n ih =>
   have hc:∀ j,j < n→ConS cs j:=fun j hj=>con_of_si cs j (fun b o a k=>(ih j hj).1 0 b o a k)
   exact ⟨fun sc b o a k=>si_of cs n sc hc b o a k,hc⟩
theorem simplify_any (cs:List Cn) (n:Nat) (sc:Int) (b o:Nat) (a:Nd) (k:Fo):SiC cs n sc b o a k:=(si_con cs n).1 sc b o a k
end
end Go.Proofs.YtfoedbfkddoibaaGreat
