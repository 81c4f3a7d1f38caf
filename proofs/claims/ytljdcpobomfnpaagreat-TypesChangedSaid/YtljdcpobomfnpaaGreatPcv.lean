import Derived.Test.YtljdcpobomfnpaaGreatDz
import Derived.Test.YtljdcpobomfnpaaGreatCrV
import Derived.Test.YtljdcpobomfnpaaGreatPcd
import Derived.Test.YtljdcpobomfnpaaGreatTkO
import Derived.Deep.Onto
namespace Go.Proofs.YtljdcpobomfnpaaGreat
set_option linter.unusedVariables false
set_option linter.unusedSimpArgs false
open Go.ChangeShapes Go.WideShapes Go.ChangeAt Go.RowKit
open Go.Deep (BT)
theorem results_cell_tmpC2 {fn:Func} {p u v:Tmp} {ty:TypeId} (h:fn.results=#[.cell p ty,.tmp u,.tmp v]) (tmps:Array Value) (P:Program) (w:World) :
 (results fn tmps).run P w=((asAddr (tmps.getD p undef)).run P w).andThen fun a w₁=>((loadVar ty a).run P w₁).andThen fun x w₂=>.ok (.tuple #[x,tmps.getD u undef,tmps.getD v undef]) w₂:=by
 simp only [results,h]
 simp [Sem.run_bind,Result.andThen]
theorem scan_len400 (s:ByteArray):∀ (n i:Nat) (D:List Tk.T4),D.length≤400→(Tk.scan s n i D).1.length≤400:=by
 intro n
 induction n with
 | zero=>intro i D h;exact h
 | succ n ih =>
   intro i D h
   rw [Tk.scan]
   by_cases h1:s.size≤i
   · rw [if_pos h1];exact h
   · rw [if_neg h1]
     split
     · exact h
     · split
       · exact ih _ _ h
       · split
         · exact Nat.zero_le _
         · split
           · exact Nat.zero_le _
           · refine ih _ _ ?_
             rw [List.length_append];simp;omega
theorem scanT_len400 (s:ByteArray):(Tk.scanT s).1.length≤400:=scan_len400 s _ _ _ (Nat.zero_le _)
theorem sgn_le2 (l:List UInt8):Tk.sgn l≤2:=by
 unfold Tk.sgn
 split
 · exact Nat.le_refl _
 · split<;>omega
theorem vt_size100 {t:Tk.T3} (h:VT t):t.text.size≤100:=by
 have q:=vt_kinds h
 rcases h with h|h|h|⟨h1,h2,h3,h4⟩
 · rcases q with q|q|q|q|q
   · omega
   · rw [q.2.1];decide
   · rw [q.2.1];decide
   · rw [q.2.1];decide
   · rw [q.1] at h;omega
 · rw [h.2.1];decide
 · rw [h.2.1];decide
 · have:=sgn_le2 t.text.data.toList;omega
theorem Pc.cnt_eq (c:Pc.PC):Pc.cnt c=c.cs.length+c.rs.length+c.os.length+c.cr.length+c.ls.length+c.fs.length:=rfl
def Pc.readT (s:ByteArray):Pc.PC × Int × Int:=if (Ln.lines s).2≠0 then (Pc.pc0,0,(Ln.lines s).2) else Pc.linesT Pc.pc0 0 (Ln.lines s).1
structure PcD (w:World) (bs:Nat) (c:Pc.PC) (vs:Fin 6→Value) (D:Six):Prop where
 rows:RwF w (fun _=>False) bs (sixR vs D)
 ecs:D.cs.map (fun x=>(x.name,Pz.nr (cnTr x)))=c.cs
 ers:D.rs.map (fun x=>(x.sc,x.name,Pz.nr (ruTr x)))=c.rs
 eos:D.os.map (fun x=>(x.sc,Pz.nr (coTr x)))=c.os
 ecr:D.cr.map Pz.nr=c.cr
 els:D.ls=c.ls
 efs:D.fs=c.fs
 ok:SixOk D
 nb:Pc.NumB c
 ln:Pc.cnt c≤1000
def agC (c:Pc.PC) (vs:Fin 6→Value):Value:=.agg #[.int .i64 c.rep,.int .i64 c.rel,.int .i64 c.con,.int .i64 c.sit,.int .i64 c.lay,.int .i64 c.nf,.int .i64 c.nt,vs 0,vs 1,vs 2,vs 3,vs 4,vs 5,.int .i64 c.gua]
def Pc.pcz:Pc.PC:=⟨0,0,0,0,0,0,0,0,fun _=>false,[],[],[],[],[],[]⟩
def vz:Fin 6→Value:=fun _=>.slice none 0 0
def dz:Six:=⟨[],[],[],[],[],[]⟩
def RpP (s:ByteArray) (w:World) (e:Ending) (w':World):Prop:=Below w.heap.size w w' ∧
 ((Pc.readT s).2.2≠0∧e=.returned (.tuple #[agC Pc.pcz vz,.int .i64 (Pc.readT s).2.1,.int .i64 (Pc.readT s).2.2]) ∨
  (Pc.readT s).2.2=0∧∃ vs D,PcD w' w.heap.size (Pc.readT s).1 vs D ∧
    (gvalC (ctD (Pc.readT s).1 D)≠0∧e=.returned (.tuple #[agC Pc.pcz vz,.int .i64 0,.int .i64 (gvalC (ctD (Pc.readT s).1 D))]) ∨
     gvalC (ctD (Pc.readT s).1 D)=0∧e=.returned (.tuple #[agC (Pc.readT s).1 vs,.int .i64 0,.int .i64 0])))
theorem fo_ns {w:World} {T:Fo} {B O:Nat} {g:Nat} (h:FoAt w T B O) (hn:∀ i s,w.cell? ⟨g,i,none⟩≠some (.string s)):FoAv (fun x=>x≠g) T B:=by
 induction T generalizing B O with
 | nil=>trivial
 | node b o a k r ihk ihr =>
   refine ⟨?_,ihk h.2.2.1,ihr h.2.2.2⟩
   rintro rfl
   exact hn _ _ h.1.2.2.1
theorem pcb_ns {w:World} {g:Nat} {c:Pc.PC} {vs:Fin 6→Value} (h:PcB w g c vs) (hv:∀ i,∃ q n z,vs i=.slice q n z):∀ i s,w.cell? ⟨g,i,none⟩≠some (.string s):=by
 intro i s e
 have V:∀ j s,vs j≠.string s:=fun j s e=>by obtain ⟨q,n,z,h⟩:=hv j;rw [h] at e;cases e
 match i,e with
 | 0,e=>rw [h.c0] at e;cases e
 | 1,e=>rw [h.c1] at e;cases e
 | 2,e=>rw [h.c2] at e;cases e
 | 3,e=>rw [h.c3] at e;cases e
 | 4,e=>rw [h.c4] at e;cases e
 | 5,e=>rw [h.c5] at e;cases e
 | 6,e=>rw [h.c6] at e;cases e
 | 7,e=>rw [h.c7] at e;exact V _ _ (Option.some.inj e)
 | 8,e=>rw [h.c8] at e;exact V _ _ (Option.some.inj e)
 | 9,e=>rw [h.c9] at e;exact V _ _ (Option.some.inj e)
 | 10,e=>rw [h.c10] at e;exact V _ _ (Option.some.inj e)
 | 11,e=>rw [h.c11] at e;exact V _ _ (Option.some.inj e)
 | 12,e=>rw [h.c12] at e;exact V _ _ (Option.some.inj e)
 | 13,e=>rw [h.c13] at e;cases e
 | n+14,e=>rw [h.n (n+14) (by omega)] at e;cases e
theorem fo_both {A B:Nat→Prop} {T:Fo} {g:Nat} (h1:FoAv A T g) (h2:FoAv B T g):FoAv (fun x=>A x∧B x) T g:=by
 induction T generalizing g with
 | nil=>trivial
 | node b o a k r ihk ihr=>exact ⟨⟨h1.1,h2.1⟩,ihk h1.2.1 h2.2.1,ihr h1.2.2 h2.2.2⟩
theorem KpX.setC {X:Nat→Prop} {w a:World} {t:Nat} (h:KpX X w a) (ht:X t) (k:Nat) (u:Value):KpX X w (a.setCell ⟨t,k,none⟩ u):=h.trans (KpX.set ht k u)
theorem PcV.leave {w w2:World} {bs cb sb rb b0:Nat} {c:Pc.PC} {vs:Fin 6→Value} {D:Six} (h:PcV w bs cb sb c vs D) (hr:∀ i s,w.cell? ⟨rb,i,none⟩≠some (.string s)) (hl:rb < bs) (hb:b0≤bs) (hk:KpX (fun k=>k=rb) w w2) (nb:Pc.NumB c) (ln:Pc.cnt c≤1000):PcD w2 b0 c vs D:=by
 have R:RwF w (fun k=>k=rb) bs (sixR vs D):=⟨h.rows.ow,h.rows.ne,fun i x hx=>⟨(h.rows.ch i x hx).1,by
  have q1:=(h.rows.ch i x hx).2
  have q2:=fo_ns (h.rows.ch i x hx).1.2 hr
  exact (fo_both q1 q2).mono fun g q=>⟨q.2,q.1.2⟩⟩,fun k e=>by rw [e];exact hl⟩
 have R2:=R.kpx hk
 exact ⟨⟨fun i=>(R2.ow i).mono hb,R2.ne,fun i x hx=>⟨(R2.ch i x hx).1,(R2.ch i x hx).2.mono fun g q=>⟨fun f=>f,q.2⟩⟩,fun k f=>f.elim⟩,h.ecs,h.ers,h.eos,h.ecr,h.els,h.efs,h.ok,nb,ln⟩
theorem pcv_start (w:World):PcV ((w.alloc (.cells #[.int .i64 0,.int .i64 0,.int .i64 0,.int .i64 1440,.int .i64 2880,.int .i64 0,.int .i64 0,.slice none 0 0,.slice none 0 0,.slice none 0 0,.slice none 0 0,.slice none 0 0,.slice none 0 0,.int .i64 0] 30)).alloc (.cells #[.bool false,.bool false,.bool false,.bool false,.bool false,.bool false,.bool false] 66)) (w.heap.size+2) w.heap.size (w.heap.size+1) Pc.pc0 vz dz:=by
 have e0:∀ i,sixR vz dz i=⟨(sixR vz dz i).T,(sixR vz dz i).s,.slice none 0 0,0,[],[]⟩:=by
  intro i
  match i with
  | 0=>rfl
  | 1=>rfl
  | 2=>rfl
  | 3=>rfl
  | 4=>rfl
  | 5=>rfl
 refine ⟨?_,?_,⟨fun i=>?_,fun i j _ g e=>?_,fun i x hx=>?_,fun k hk=>?_⟩,rfl,rfl,rfl,rfl,rfl,rfl,?_,by omega⟩
 · constructor
   all_goals first
    | (simp [go_sem,Pc.pc0,vz];done)
    | (intro i hi;simp [go_sem];omega)
    | (simp;omega)
 · refine ⟨fun i hi=>?_,fun i hi=>?_,fun i hi=>?_,by simp⟩
   · match i,hi with
     | 0,_=>simp [go_sem,Pc.pc0]
     | 1,_=>simp [go_sem,Pc.pc0]
     | 2,_=>simp [go_sem,Pc.pc0]
     | 3,_=>simp [go_sem,Pc.pc0]
     | 4,_=>simp [go_sem,Pc.pc0]
     | 5,_=>simp [go_sem,Pc.pc0]
     | 6,_=>simp [go_sem,Pc.pc0]
   · match i,hi with
     | 0,_=>simp [go_sem]
     | 1,_=>simp [go_sem]
     | 2,_=>simp [go_sem]
     | 3,_=>simp [go_sem]
     | 4,_=>simp [go_sem]
     | 5,_=>simp [go_sem]
     | 6,_=>simp [go_sem]
   · obtain ⟨k,rfl⟩:∃ k,i=k+7:=⟨i - 7,by omega⟩
     simp [go_sem]
 · rw [e0 i];exact World.ownsRow_nil _ _ _ _
 · rw [e0 i] at e;cases e
 · rw [e0 i] at hx;cases hx
 · rcases hk with rfl|rfl<;>omega
 · exact ⟨fun x hx=>(by cases hx),fun x hx=>(by cases hx),fun x hx=>(by cases hx),fun x hx=>(by cases hx),fun x hx=>(by cases hx),fun x hx=>(by cases hx)⟩
def LsAt (w:World) (L:List ByteArray) (v:Value):Prop:=∃ g cap,(L=[]→True)∧L.length≤1000∧(v=.slice none 0 0∧L=[]∨v=.slice (some ⟨g,0,none⟩) L.length cap∧g < w.heap.size∧∀ i s,L[i]?=some s→w.cell? ⟨g,i,none⟩=some (.string s))
theorem ls_form {w:World} {L:List ByteArray} {v:Value} (h:LsAt w L v):∃ p cap,v=.slice p L.length cap∧(∀ i s,L[i]?=some s→∃ g,p=some ⟨g,0,none⟩∧g < w.heap.size∧w.cell? ⟨g,i,none⟩=some (.string s)):=by
 obtain ⟨g,cap,-,-,⟨rfl,rfl⟩|⟨rfl,h1,h2⟩⟩:=h
 · exact ⟨none,0,rfl,fun i s q=>(by cases q)⟩
 · exact ⟨_,_,rfl,fun i s q=>⟨g,rfl,h1,h2 i s q⟩⟩
theorem ls_own {w:World} {B:Nat} {L:List ByteArray} {v:Value} (h:w.ownsRow B 9 1 v L.length (strC L)) (hl:L.length≤1000):LsAt w L v:=by
 rcases h.2 with ⟨hv,h0⟩|⟨g,cap,cur,hv,hb,hg,h1,h2⟩
 · exact ⟨0,0,fun _=>trivial,hl,.inl ⟨hv,List.eq_nil_of_length_eq_zero h0⟩⟩
 · refine ⟨g,cap,fun _=>trivial,hl,.inr ⟨hv,?_,fun i s q=>?_⟩⟩
   · exact (h.lt g (by rw [hv];rfl)).2
   · subst hv
     have q2:=(List.getElem?_eq_some_iff.1 q).1
     rw [h.cellAt i (by omega)]
     unfold strC
     rw [List.getElem?_map,q]
     rfl
theorem lines_len (s:ByteArray):(Ln.lines s).1.length≤1000:=by
 unfold Ln.lines
 split
 · simp
 · split
   · simp
   · split
     · simp
     · dsimp only;omega
theorem lines_size (s:ByteArray) (hs:s.size≤9223372036854775807):∀ l ∈ (Ln.lines s).1,l.size≤9223372036854775807:=by
 intro l hl
 unfold Ln.lines at hl
 split at hl
 · cases hl
 · split at hl
   · cases hl
   · split at hl
     · cases hl
     · exact Nat.le_trans (Ln.go_size s _ _ _ l hl) hs
theorem linesT_bad1 {c:Pc.PC} {i:Nat} {s:ByteArray} {r:List ByteArray} (h:(Tk.scanT s).2.2≠0):Pc.linesT c i (s :: r)=(c,(i:Int)+1,(Tk.scanT s).2.2):=by
 rw [Pc.linesT,if_pos h]
theorem linesT_skip {c:Pc.PC} {i:Nat} {s:ByteArray} {r:List ByteArray} (h:(Tk.scanT s).2.2=0) (h2:(Tk.scanT s).1=[]):Pc.linesT c i (s :: r)=Pc.linesT c (i+1) r:=by
 rw [Pc.linesT,if_neg (by rw [h];simp),if_pos h2]
theorem linesT_bad2 {c:Pc.PC} {i:Nat} {s:ByteArray} {r:List ByteArray} (h:(Tk.scanT s).2.2=0) (h2:(Tk.scanT s).1≠[]) (h3:(Pc.declT c (Tk.scanT s).1).2≠0):Pc.linesT c i (s :: r)=(c,(i:Int)+1,(Pc.declT c (Tk.scanT s).1).2):=by
 rw [Pc.linesT,if_neg (by rw [h];simp),if_neg h2,if_pos h3]
theorem linesT_go {c:Pc.PC} {i:Nat} {s:ByteArray} {r:List ByteArray} (h:(Tk.scanT s).2.2=0) (h2:(Tk.scanT s).1≠[]) (h3:(Pc.declT c (Tk.scanT s).1).2=0):Pc.linesT c i (s :: r)=Pc.linesT (Pc.declT c (Tk.scanT s).1).1 (i+1) r:=by
 rw [Pc.linesT,if_neg (by rw [h];simp),if_neg h2,if_neg (by rw [h3];simp)]
set_option maxHeartbeats 8000000 in
set_option maxRecDepth 100000 in
theorem rparse_any (s:ByteArray) (w:World) (hs:s.size≤9223372036854775807) :
 Calls Tryz.prog 10 #[.string s] w (RpP s w):=by
 have LSZ:=Lib.hid (lines_size s hs)
 have LLN:=Lib.hid (lines_len s)
 have RD:Hid (Pc.readT s=if (Ln.lines s).2≠0 then (Pc.pc0,0,(Ln.lines s).2) else Pc.linesT Pc.pc0 0 (Ln.lines s).1):=rfl
 obtain ⟨R,hR⟩:∃ z,Pc.readT s=z:=⟨_,rfl⟩
 have RES:Hid (∀ e w',RpP s w e w'↔(Below w.heap.size w w' ∧
 (R.2.2≠0∧e=.returned (.tuple #[agC Pc.pcz vz,.int .i64 R.2.1,.int .i64 R.2.2]) ∨
  R.2.2=0∧∃ vs D,PcD w' w.heap.size R.1 vs D ∧
   (gvalC (ctD R.1 D)≠0∧e=.returned (.tuple #[agC Pc.pcz vz,.int .i64 0,.int .i64 (gvalC (ctD R.1 D))]) ∨
    gvalC (ctD R.1 D)=0∧e=.returned (.tuple #[agC R.1 vs,.int .i64 0,.int .i64 0]))))):=by
   intro e w'
   unfold RpP
   rw [hR]
 rw [hR] at RD
 clear hR
 have LP:=Lib.hid (fun wq=>rlines_any s wq hs)
 go_enter Tryz.func10,Tryz.ntmps10
 go_upto_region 1 with (fail)
 have Z0:PcB (w.alloc (.cells #[.int .i64 0,.int .i64 0,.int .i64 0,.int .i64 0,.int .i64 0,.int .i64 0,.int .i64 0,.slice none 0 0,.slice none 0 0,.slice none 0 0,.slice none 0 0,.slice none 0 0,.slice none 0 0,.int .i64 0] 30)) w.heap.size Pc.pcz vz:=by
  constructor
  all_goals first
   | (simp [go_sem,Pc.pcz,vz];done)
   | (intro i hi;obtain ⟨k,rfl⟩:∃ k,i=k+14:=⟨i - 14,by omega⟩;simp [go_sem];done)
   | (simp;done)
 have B0:Hid (Below w.heap.size w (w.alloc (.cells #[.int .i64 0,.int .i64 0,.int .i64 0,.int .i64 0,.int .i64 0,.int .i64 0,.int .i64 0,.slice none 0 0,.slice none 0 0,.slice none 0 0,.slice none 0 0,.slice none 0 0,.slice none 0 0,.int .i64 0] 30))):=(Below.refl _ _).alloc (Nat.le_refl _) _
 have S0:Hid ((w.alloc (.cells #[.int .i64 0,.int .i64 0,.int .i64 0,.int .i64 0,.int .i64 0,.int .i64 0,.int .i64 0,.slice none 0 0,.slice none 0 0,.slice none 0 0,.slice none 0 0,.slice none 0 0,.slice none 0 0,.int .i64 0] 30)).heap.size=w.heap.size+1):=by unfold Hid;simp
 generalize w.alloc (.cells #[.int .i64 0,.int .i64 0,.int .i64 0,.int .i64 0,.int .i64 0,.int .i64 0,.int .i64 0,.slice none 0 0,.slice none 0 0,.slice none 0 0,.slice none 0 0,.slice none 0 0,.slice none 0 0,.int .i64 0] 30)=w0 at *
 go_upto_region 2 with (go_at_call 23;refine (LP.out _).mono ?_;rintro e w1 ⟨v1,rfl,ho,hb⟩;have OW:=Lib.hid ho;have HB:=Lib.hid hb;clear ho hb)
 have Z1:=Lib.hid (Z0.next HB.out)
 have B1:=Lib.hid (B0.out.trans (HB.out.mono B0.out.size))
 have L1:=Lib.hid (ls_own OW.out LLN.out)
 clear Z0 B0 HB OW LP
 obtain ⟨G,E0,hG⟩:∃ G E0,Ln.lines s=(G,E0):=⟨_,_,rfl⟩
 rw [hG] at LSZ LLN RD L1
 rw [hG]
 clear hG
 dsimp only at LSZ LLN RD L1 ⊢
 by_cases h0:E0=0
 case neg =>
  have RQ:Hid (R=(Pc.pc0,0,E0)):=by unfold Hid;rw [RD.out,if_pos h0]
  have b0:(E0 != 0)=true:=by simp [h0]
  have H0:=Lib.hid h0
  clear h0
  obtain ⟨z0,z1,z2,z3,z4,z5,z6,z7,z8,z9,z10,z11,z12,z13,zf0,zf1,zf2,zf3,zf4,zf5,zf6,zf7,zf8,zf9,zf10,zf11,zf12,zf13,zn,zl⟩:=Z1.out
  go_wp2
  refine bodyPost_ret (v:=.tuple #[.agg #[.int .i64 0,.int .i64 0,.int .i64 0,.int .i64 0,.int .i64 0,.int .i64 0,.int .i64 0,.slice none 0 0,.slice none 0 0,.slice none 0 0,.slice none 0 0,.slice none 0 0,.slice none 0 0,.int .i64 0],.int .i64 0,.int .i64 E0]) ?_ rfl ?_
  · rw [results_cell_tmpC2 rfl];go_simp
  · rw [RES.out];refine ⟨?_,.inl ⟨by rw [RQ.out];exact H0.out,by rw [RQ.out];rfl⟩⟩
    repeat (refine Below.setCell ?_ (by first|exact Nat.le_refl _|exact Nat.le_of_eq RBE.out.symm) _)
    exact B1.out
 subst h0
 have RD2:Hid (R=Pc.linesT Pc.pc0 0 G):=by unfold Hid;rw [RD.out,if_neg (by simp)]
 clear RD
 go_wp2_with fail
 have P2:=Lib.hid (pcv_start w1)
 have B2:Hid (Below w1.heap.size w1 ((w1.alloc (.cells #[.int .i64 0,.int .i64 0,.int .i64 0,.int .i64 1440,.int .i64 2880,.int .i64 0,.int .i64 0,.slice none 0 0,.slice none 0 0,.slice none 0 0,.slice none 0 0,.slice none 0 0,.slice none 0 0,.int .i64 0] 30)).alloc (.cells #[.bool false,.bool false,.bool false,.bool false,.bool false,.bool false,.bool false] 66))):=((Below.refl _ _).alloc (Nat.le_refl _) _).alloc (by simp) _
 have S2:Hid (((w1.alloc (.cells #[.int .i64 0,.int .i64 0,.int .i64 0,.int .i64 1440,.int .i64 2880,.int .i64 0,.int .i64 0,.slice none 0 0,.slice none 0 0,.slice none 0 0,.slice none 0 0,.slice none 0 0,.slice none 0 0,.int .i64 0] 30)).alloc (.cells #[.bool false,.bool false,.bool false,.bool false,.bool false,.bool false,.bool false] 66)).heap.size=w1.heap.size+2):=by unfold Hid;simp
 generalize (w1.alloc (.cells #[.int .i64 0,.int .i64 0,.int .i64 0,.int .i64 1440,.int .i64 2880,.int .i64 0,.int .i64 0,.slice none 0 0,.slice none 0 0,.slice none 0 0,.slice none 0 0,.slice none 0 0,.slice none 0 0,.int .i64 0] 30)).alloc (.cells #[.bool false,.bool false,.bool false,.bool false,.bool false,.bool false,.bool false] 66)=w2 at *
 have HL:=Lib.hid (ls_form L1.out)
 obtain ⟨p1,k1,rfl,hl1⟩:=HL.out
 clear HL L1
 have HL:=Lib.hid hl1
 clear hl1
 have RB:Hid (w.heap.size < w1.heap.size):=Z1.out.lt
 obtain ⟨rb,hrb⟩:∃ z,z=w.heap.size:=⟨_,rfl⟩
 obtain ⟨cb,hcb⟩:∃ z,z=w1.heap.size:=⟨_,rfl⟩
 have RBE:=Lib.hid hrb
 have CBE:=Lib.hid hcb
 rw [← hrb] at RB Z1 ⊢
 rw [← hcb] at RB P2 B2 S2 ⊢
 clear hrb hcb
 go_loopw [9,10,11,12] (fun i _ _ _ wr=>∃ (k:Nat) (c:Pc.PC) (vs:Fin 6→Value) (D:Six),k≤G.length∧i=.int .i64 k∧Hid (PcV wr (cb+2) cb (cb+1) c vs D∧R=Pc.linesT c k (G.drop k)∧Pc.cnt c≤k∧Pc.NumB c∧Below cb w1 wr∧cb+2≤wr.heap.size)) (fun i _ _ _ _=>G.length - (intOf i).toNat)
 case atStart=>exact ⟨0,Pc.pc0,vz,dz,Nat.zero_le _,rfl,P2.out,RD2.out,Nat.le_refl _,Pc.numb0,B2.out,Nat.le_of_eq S2.out.symm⟩
 case round =>
  obtain ⟨wp,hwp⟩:∃ z,z=wr:=⟨_,rfl⟩
  subst hwp
  obtain ⟨k,c,vs,D,hk,rfl,HR⟩:=hrel
  have PV:=Lib.hid HR.out.1
  have RQ:=Lib.hid HR.out.2.1
  have CT:=Lib.hid HR.out.2.2.1
  have NB:=Lib.hid HR.out.2.2.2.1
  have BW:=Lib.hid HR.out.2.2.2.2.1
  have SZ:=Lib.hid HR.out.2.2.2.2.2
  clear HR P2 B2 S2 RD2
  by_cases hlt:k < G.length
  · have hi:(k:Int) < (G.length:Int):=by omega
    have hk1:k < 1000:=by have:=LLN.out;omega
    obtain ⟨x,hx⟩:∃ x,G[k]?=some x:=⟨_,List.getElem?_eq_getElem hlt⟩
    obtain ⟨g,rfl,hg,hc⟩:=HL.out k x hx
    have lc:wp.cell? ⟨g,k,none⟩=some (.string x):=by rw [Below.cell BW.out (p:=⟨g,k,none⟩) (by rw [CBE.out];exact hg)];exact hc
    have XS:=Lib.hid (LSZ.out x (List.mem_of_getElem? hx))
    have DR:Hid (G.drop k=x :: G.drop (k+1)):=by
     unfold Hid
     obtain ⟨h1,h2⟩:=List.getElem?_eq_some_iff.1 hx
     rw [List.drop_eq_getElem_cons h1,h2]
    rw [DR.out] at RQ
    clear hx hg hc DR
    go_upto_region 10 with (go_at_call 24;refine (rscan_any x wp XS.out).mono ?_;rintro e w3 ⟨v3,rfl,ht,hb⟩;have TK:=Lib.hid ht;have HB:=Lib.hid hb;clear ht hb)
    clear lc
    have PV3:=Lib.hid (PV.out.next HB.out)
    have BW3:=Lib.hid (below_low (BW.out.trans (HB.out.mono (by have:=SZ.out;omega))) (Nat.le_refl _))
    have SZ3:Hid (cb+2≤w3.heap.size):=Nat.le_trans SZ.out HB.out.size
    have TV:=Lib.hid (scanT_valid x)
    have TL:=Lib.hid (scanT_len400 x)
    clear PV BW SZ HB
    obtain ⟨T,ta,te,hT⟩:∃ T ta te,Tk.scanT x=(T,ta,te):=⟨_,_,_,rfl⟩
    have HT:=Lib.hid hT
    rw [hT] at TK TV TL ⊢
    clear hT
    dsimp only at TK TV TL ⊢
    obtain ⟨pt,ct,rfl⟩:∃ p cap,v3=.slice p T.length cap:=by
     obtain ⟨p,cap,h1,-⟩:=TK.out
     exact ⟨p,cap,h1⟩
    by_cases he:te=0
    case neg =>
     have b1:(te==0)=false:=by simp [he]
     have b2:(te != 0)=true:=by simp [he]
     have RQ2:Hid (R=(c,(k:Int)+1,te)):=by unfold Hid;rw [RQ.out,linesT_bad1 (by rw [HT.out];exact he),HT.out]
     have H0:=Lib.hid he
     have Z3:=Lib.hid (Z1.out.of_block (BW3.out.block rb RB.out) (by have:=RBE.out;have:=CBE.out;have:=SZ3.out;omega))
     have B3:=Lib.hid (B1.out.trans (below_low BW3.out (by have:=RBE.out;have:=RB.out;omega)))
     clear he
     obtain ⟨z0,z1,z2,z3,z4,z5,z6,z7,z8,z9,z10,z11,z12,z13,zf0,zf1,zf2,zf3,zf4,zf5,zf6,zf7,zf8,zf9,zf10,zf11,zf12,zf13,zn,zl⟩:=Z3.out
     go_wp2
     refine bodyPost_ret (v:=.tuple #[.agg #[.int .i64 0,.int .i64 0,.int .i64 0,.int .i64 0,.int .i64 0,.int .i64 0,.int .i64 0,.slice none 0 0,.slice none 0 0,.slice none 0 0,.slice none 0 0,.slice none 0 0,.slice none 0 0,.int .i64 0],.int .i64 ((k:Int)+1),.int .i64 te]) ?_ rfl ?_
     · rw [results_cell_tmpC2 rfl];go_simp
     · rw [RES.out];refine ⟨?_,.inl ⟨by rw [RQ2.out];exact H0.out,by rw [RQ2.out];rfl⟩⟩
       repeat (refine Below.setCell ?_ (by first|exact Nat.le_refl _|exact Nat.le_of_eq RBE.out.symm) _)
       exact B3.out
    subst he
    by_cases hn:T=[]
    · subst hn
      have RQ2:Hid (R=Pc.linesT c (k+1) (G.drop (k+1))):=by unfold Hid;rw [RQ.out,linesT_skip (by rw [HT.out]) (by rw [HT.out])]
      go_wp2_with fail
      go_roundw
      case rel=>exact ⟨k+1,c,vs,D,by omega,by go_num,PV3.out,RQ2.out,Nat.le_succ_of_le CT.out,NB.out,BW3.out,SZ3.out⟩
      case measure=>simp [intOf];omega
    have hpos:0 < T.length:=List.length_pos_iff.2 hn
    have hp1:(0:Int) < (T.length:Int):=by omega
    have HN:=Lib.hid hn
    clear hn hpos
    have DQ:=Lib.hid (rdcl_any (cb+2) cb (cb+1) c vs D T _ w3 PV3.out TK.out TV.out (fun t ht=>Nat.le_trans (vt_size100 (TV.out t ht)) (by decide)) TL.out SZ3.out (Nat.le_trans CT.out (by have:=LLN.out;omega)))
    have DN:=Lib.hid (Pc.declT_cnt c T)
    have DB:=Lib.hid (Pc.declT_numb TV.out NB.out)
    have RQ3:Hid ((Pc.declT c T).2≠0→R=(c,(k:Int)+1,(Pc.declT c T).2)):=fun q=>by
     rw [RQ.out,linesT_bad2 (by rw [HT.out]) (by rw [HT.out];exact HN.out) (by rw [HT.out];exact q),HT.out]
    have RQ4:Hid ((Pc.declT c T).2=0→R=Pc.linesT (Pc.declT c T).1 (k+1) (G.drop (k+1))):=fun q=>by
     rw [RQ.out,linesT_go (by rw [HT.out]) (by rw [HT.out];exact HN.out) (by rw [HT.out];exact q),HT.out]
    clear RQ HT
    generalize Pc.declT c T=d at *
    obtain ⟨d,de⟩:=d
    dsimp only at DN DB RQ3 RQ4
    go_upto_region 12 with (go_at_call 25;refine DQ.out.mono ?_;rintro e w4 ⟨rfl,h1,h2⟩;have D1:=Lib.hid h1;have D2:=Lib.hid h2;clear h1 h2 DQ)
    have BD:Hid (Below cb w3 w4):=D2.out cb (Nat.le_refl _) (by omega) (by omega) (by have:=SZ3.out;omega)
    have BW4:=Lib.hid (BW3.out.trans BD.out)
    have SZ4:Hid (cb+2≤w4.heap.size):=Nat.le_trans SZ3.out BD.out.size
    clear BW3 PV3 D2
    by_cases he:de=0
    case neg =>
     have b2:(de != 0)=true:=by simp [he]
     have RQ5:=Lib.hid (RQ3.out he)
     have H0:=Lib.hid he
     have Z3:=Lib.hid (Z1.out.of_block (BW4.out.block rb RB.out) (by have:=RBE.out;have:=CBE.out;have:=SZ4.out;omega))
     have B3:=Lib.hid (B1.out.trans (below_low BW4.out (by have:=RBE.out;have:=RB.out;omega)))
     clear he D1 RQ3 RQ4
     obtain ⟨z0,z1,z2,z3,z4,z5,z6,z7,z8,z9,z10,z11,z12,z13,zf0,zf1,zf2,zf3,zf4,zf5,zf6,zf7,zf8,zf9,zf10,zf11,zf12,zf13,zn,zl⟩:=Z3.out
     go_wp2
     refine bodyPost_ret (v:=.tuple #[.agg #[.int .i64 0,.int .i64 0,.int .i64 0,.int .i64 0,.int .i64 0,.int .i64 0,.int .i64 0,.slice none 0 0,.slice none 0 0,.slice none 0 0,.slice none 0 0,.slice none 0 0,.slice none 0 0,.int .i64 0],.int .i64 ((k:Int)+1),.int .i64 de]) ?_ rfl ?_
     · rw [results_cell_tmpC2 rfl];go_simp
     · rw [RES.out];refine ⟨?_,.inl ⟨by rw [RQ5.out];exact H0.out,by rw [RQ5.out];rfl⟩⟩
       repeat (refine Below.setCell ?_ (by first|exact Nat.le_refl _|exact Nat.le_of_eq RBE.out.symm) _)
       exact B3.out
    subst he
    obtain ⟨vs2,D2,P4⟩:=D1.out rfl
    have P5:=Lib.hid P4
    have RQ5:=Lib.hid (RQ4.out rfl)
    clear P4 D1 RQ3 RQ4
    go_wp2_with fail
    go_roundw
    case rel=>exact ⟨k+1,d,vs2,D2,by omega,by go_num,P5.out,RQ5.out,by have:=DN.out;have:=CT.out;omega,DB.out,BW4.out,SZ4.out⟩
    case measure=>simp [intOf];omega
  · obtain rfl:k=G.length:=by omega
    have hi:¬ (G.length:Int) < (G.length:Int):=by omega
    have RQ2:Hid (R=(c,0,0)):=by unfold Hid;rw [RQ.out,List.drop_length];rfl
    have CT1:Hid (Pc.cnt c≤1000):=Nat.le_trans CT.out LLN.out
    clear RQ CT
    have LN:=Lib.hid PV.out.len
    obtain ⟨p,e0,e1,e2,e3,e4,e5,hv⟩:=ctv_of PV.out.rows PV.out.ok NB.out (by have:=LN.out;have:=CT1.out;omega)
    have HV:=Lib.hid hv
    have VQ:Hid (∀ wq,CtV wq (ctD c D) p→Calls Tryz.prog 18 #[.agg #[.int .i64 c.rep,.int .i64 c.rel,.int .i64 c.con,.int .i64 c.sit,.int .i64 c.lay,.int .i64 c.nf,.int .i64 c.nt,.slice p.cs D.cs.length p.ccs,.slice p.rs D.rs.length p.crs,.slice p.os D.os.length p.cos,.slice p.cr D.cr.length p.ccr,.slice p.ls D.ls.length p.cls,.slice p.fs D.fs.length p.cfs,.int .i64 c.gua]] wq fun e w'=>e=.returned (.int .i64 (gvalC (ctD c D)))∧Below wq.heap.size wq w'):=fun wq h=>(by
     have q:=rgval_any (ctD c D) p wq h
     rw [show len (ctD c D).cr=D.cr.length from rowF_len _] at q
     exact q)
    have BX:=Lib.hid PV.out.box
    have VS:=Lib.hid PV.out.vs
    clear hv LN
    obtain ⟨c0,c1,c2,c3,c4,c5,c6,c7,c8,c9,c10,c11,c12,c13,f0,f1,f2,f3,f4,f5,f6,f7,f8,f9,f10,f11,f12,f13,zn,zl⟩:=BX.out
    rw [e0] at c7
    rw [e1] at c8
    rw [e2] at c9
    rw [e3] at c10
    rw [e4] at c11
    rw [e5] at c12
    go_upto_region 15 with (go_at_call 18;refine (VQ.out _ HV.out).mono ?_;rintro e w5 ⟨rfl,hb⟩;have HB:=Lib.hid hb;clear hb VQ)
    clear c0 f0 c1 f1 c2 f2 c3 f3 c4 f4 c5 f5 c6 f6 c7 f7 c8 f8 c9 f9 c10 f10 c11 f11 c12 f12 c13 f13 zn zl
    have P5:=Lib.hid (PV.out.next HB.out)
    have BW5:=Lib.hid (BW.out.trans (HB.out.mono (by have:=SZ.out;omega)))
    have SZ5:Hid (cb+2≤w5.heap.size):=Nat.le_trans SZ.out HB.out.size
    have Z3:=Lib.hid (Z1.out.of_block (BW5.out.block rb RB.out) (by have:=RBE.out;have:=CBE.out;have:=SZ5.out;omega))
    have B3:=Lib.hid (B1.out.trans (below_low BW5.out (by have:=RBE.out;have:=RB.out;omega)))
    have RNS:=Lib.hid (pcb_ns Z3.out (fun _=>⟨_,_,_,rfl⟩))
    have PD:=Lib.hid (fun w6 hk=>PcV.leave (b0:=rb) (w2:=w6) P5.out RNS.out (by have:=RB.out;omega) (by have:=RB.out;omega) hk NB.out CT1.out)
    clear PV BW SZ HB HV
    obtain ⟨E1,hE1⟩:∃ z,gvalC (ctD c D)=z:=⟨_,rfl⟩
    have GE:=Lib.hid hE1
    rw [hE1]
    clear hE1
    by_cases he:E1=0
    case neg =>
     have b2:(E1 != 0)=true:=by simp [he]
     have H0:=Lib.hid he
     clear he e0 e1 e2 e3 e4 e5
     obtain ⟨z0,z1,z2,z3,z4,z5,z6,z7,z8,z9,z10,z11,z12,z13,zf0,zf1,zf2,zf3,zf4,zf5,zf6,zf7,zf8,zf9,zf10,zf11,zf12,zf13,zn,zl⟩:=Z3.out
     go_wp2
     refine bodyPost_ret (v:=.tuple #[.agg #[.int .i64 0,.int .i64 0,.int .i64 0,.int .i64 0,.int .i64 0,.int .i64 0,.int .i64 0,.slice none 0 0,.slice none 0 0,.slice none 0 0,.slice none 0 0,.slice none 0 0,.slice none 0 0,.int .i64 0],.int .i64 0,.int .i64 E1]) ?_ rfl ?_
     · rw [results_cell_tmpC2 rfl];go_simp
     · rw [RES.out];refine ⟨?_,.inr ⟨by rw [RQ2.out],vs,D,?_,.inl ⟨by rw [RQ2.out];dsimp only;rw [GE.out];exact H0.out,by rw [RQ2.out];dsimp only;rw [GE.out];rfl⟩⟩⟩
       repeat (refine Below.setCell ?_ (by first|exact Nat.le_refl _|exact Nat.le_of_eq RBE.out.symm) _)
       exact B3.out
       rw [RQ2.out,← RBE.out]
       refine PD.out _ ?_
       repeat (refine KpX.setC ?_ (by exact rfl) _ _)
       exact KpX.refl _ _
    subst he
    obtain ⟨c0,c1,c2,c3,c4,c5,c6,c7,c8,c9,c10,c11,c12,c13,f0,f1,f2,f3,f4,f5,f6,f7,f8,f9,f10,f11,f12,f13,bn,bl⟩:=P5.out.box
    rw [e0] at c7
    rw [e1] at c8
    rw [e2] at c9
    rw [e3] at c10
    rw [e4] at c11
    rw [e5] at c12
    obtain ⟨z0,z1,z2,z3,z4,z5,z6,z7,z8,z9,z10,z11,z12,z13,zf0,zf1,zf2,zf3,zf4,zf5,zf6,zf7,zf8,zf9,zf10,zf11,zf12,zf13,zn,zl⟩:=Z3.out
    have ne1:¬ cb=rb:=by have:=RB.out;omega
    have ne2:¬ rb=cb:=by have:=RB.out;omega
    go_wp2
    refine bodyPost_ret (v:=.tuple #[.agg #[.int .i64 c.rep,.int .i64 c.rel,.int .i64 c.con,.int .i64 c.sit,.int .i64 c.lay,.int .i64 c.nf,.int .i64 c.nt,.slice p.cs D.cs.length p.ccs,.slice p.rs D.rs.length p.crs,.slice p.os D.os.length p.cos,.slice p.cr D.cr.length p.ccr,.slice p.ls D.ls.length p.cls,.slice p.fs D.fs.length p.cfs,.int .i64 c.gua],.int .i64 0,.int .i64 0]) ?_ rfl ?_
    · rw [results_cell_tmpC2 rfl];go_simp
    · rw [RES.out]
      refine ⟨?_,.inr ⟨by rw [RQ2.out],vs,D,?_,.inr ⟨by rw [RQ2.out];exact GE.out,by rw [RQ2.out];unfold agC;rw [e0,e1,e2,e3,e4,e5]⟩⟩⟩
      · repeat (refine Below.setCell ?_ (by exact Nat.le_of_eq RBE.out.symm) _)
        exact B3.out
      · rw [RQ2.out,← RBE.out]
        refine PD.out _ ?_
        repeat (refine KpX.setC ?_ (by exact rfl) _ _)
        exact KpX.refl _ _
end Go.Proofs.YtljdcpobomfnpaaGreat
