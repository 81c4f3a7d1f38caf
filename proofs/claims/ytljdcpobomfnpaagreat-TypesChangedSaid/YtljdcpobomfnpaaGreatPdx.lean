import Derived.Test.YtljdcpobomfnpaaGreatPcv
import Derived.Test.YtljdcpobomfnpaaGreatPt
import Derived.Test.YtljdcpobomfnpaaGreatPl3
import Derived.Test.YtljdcpobomfnpaaGreatPcz
namespace Go.Proofs.YtljdcpobomfnpaaGreat
set_option linter.unusedVariables false
set_option linter.unusedSimpArgs false
open Go.ChangeShapes Go.WideShapes Go.ChangeAt Go.RowKit
open Go.Deep (BT)
theorem pcd_zero (w:World) (b:Nat):PcD w b Pc.pcz vz dz:=by
 have e0:∀ i,sixR vz dz i=⟨(sixR vz dz i).T,(sixR vz dz i).s,.slice none 0 0,0,[],[]⟩:=by
  intro i
  match i with
  | 0=>rfl
  | 1=>rfl
  | 2=>rfl
  | 3=>rfl
  | 4=>rfl
  | 5=>rfl
 refine ⟨⟨fun i=>?_,fun i j _ g e=>?_,fun i x hx=>?_,fun k hk=>hk.elim⟩,rfl,rfl,rfl,rfl,rfl,rfl,?_,?_,Nat.zero_le _⟩
 · rw [e0 i];exact World.ownsRow_nil _ _ _ _
 · rw [e0 i] at e;cases e
 · rw [e0 i] at hx;cases hx
 · exact ⟨fun x hx=>(by cases hx),fun x hx=>(by cases hx),fun x hx=>(by cases hx),fun x hx=>(by cases hx),fun x hx=>(by cases hx),fun x hx=>(by cases hx)⟩
 · unfold Pc.NumB Pc.pcz Bd
   dsimp only
   omega
theorem rpp_any {s:ByteArray} {w w':World} {e:Ending} (h:RpP s w e w'):∃ c vs D n er,e=.returned (.tuple #[agC c vs,.int .i64 n,.int .i64 er])∧PcD w' w.heap.size c vs D∧Below w.heap.size w w':=by
 obtain ⟨hb,⟨-,he⟩|⟨-,vs,D,hd,⟨-,he⟩|⟨-,he⟩⟩⟩:=h
 · exact ⟨_,_,_,_,_,he,pcd_zero _ _,hb⟩
 · exact ⟨_,_,_,_,_,he,pcd_zero _ _,hb⟩
 · exact ⟨_,_,_,_,_,he,hd,hb⟩
theorem fo_nsX {X:Nat→Prop} {w:World} {T:Fo} {B O:Nat} (h:FoAt w T B O) (hn:∀ k,X k→∀ i s,w.cell? ⟨k,i,none⟩≠some (.string s)):FoAv (fun g=>¬ X g) T B:=by
 induction T generalizing B O with
 | nil=>trivial
 | node b o a k r ihk ihr=>exact ⟨fun x=>hn B x _ _ h.1.2.2.1,ihk h.2.2.1,ihr h.2.2.2⟩
theorem PcD.kpx {X:Nat→Prop} {w w2:World} {b b0:Nat} {c:Pc.PC} {vs:Fin 6→Value} {D:Six} (h:PcD w b c vs D) (hs:∀ k,X k→∀ i s,w.cell? ⟨k,i,none⟩≠some (.string s)) (hx:∀ k,X k→∀ j,(sixR vs D j).v.ownBlock≠some k) (hb:b0≤b) (hk:KpX X w w2):PcD w2 b0 c vs D:=by
 have A:∀ i,∀ x ∈ (sixR vs D i).trees,FoAv (fun g=>¬ X g) x.k x.b:=fun i x hi=>fo_nsX (h.rows.ch i x hi).1.2 hs
 refine ⟨⟨fun i=>(own_keep (h.rows.ow i) fun g q=>hk.keep g ((h.rows.ow i).lt g q).2 (fun x=>hx g x i q)).mono hb,h.rows.ne,fun i x hi=>⟨⟨(h.rows.ch i x hi).1.1,(h.rows.ch i x hi).1.2.keepX ((FoAv.lt (h.rows.ch i x hi).1.2 (A i x hi)).mono fun g q=>⟨q.1,q.2⟩) hk.keep⟩,(h.rows.ch i x hi).2⟩,fun k f=>f.elim⟩,h.ecs,h.ers,h.eos,h.ecr,h.els,h.efs,h.ok,h.nb,h.ln⟩
theorem PcD.next {w w2:World} {b:Nat} {c:Pc.PC} {vs:Fin 6→Value} {D:Six} (h:PcD w b c vs D) (hb:Below w.heap.size w w2):PcD w2 b c vs D :=
 ⟨h.rows.next hb,h.ecs,h.ers,h.eos,h.ecr,h.els,h.efs,h.ok,h.nb,h.ln⟩
theorem PcD.form {w:World} {b:Nat} {c:Pc.PC} {vs:Fin 6→Value} {D:Six} (h:PcD w b c vs D):∃ p:Cp,vs 0=.slice p.cs D.cs.length p.ccs∧vs 1=.slice p.rs D.rs.length p.crs∧vs 2=.slice p.os D.os.length p.cos∧vs 3=.slice p.cr D.cr.length p.ccr∧vs 4=.slice p.ls D.ls.length p.cls∧vs 5=.slice p.fs D.fs.length p.cfs:=by
 obtain ⟨p0,k0,v0⟩:=own_slp (h.rows.ow 0)
 obtain ⟨p1,k1,v1⟩:=own_slp (h.rows.ow 1)
 obtain ⟨p2,k2,v2⟩:=own_slp (h.rows.ow 2)
 obtain ⟨p3,k3,v3⟩:=own_slp (h.rows.ow 3)
 obtain ⟨p4,k4,v4⟩:=own_slp (h.rows.ow 4)
 obtain ⟨p5,k5,v5⟩:=own_slp (h.rows.ow 5)
 exact ⟨⟨p0,p1,p2,p3,p4,p5,k0,k1,k2,k3,k4,k5⟩,v0,v1,v2,v3,v4,v5⟩
theorem pcb_box (w:World) (c:Pc.PC) (vs:Fin 6→Value):PcB (w.alloc (.cells #[.int .i64 c.rep,.int .i64 c.rel,.int .i64 c.con,.int .i64 c.sit,.int .i64 c.lay,.int .i64 c.nf,.int .i64 c.nt,vs 0,vs 1,vs 2,vs 3,vs 4,vs 5,.int .i64 c.gua] 30)) w.heap.size c vs:=by
 constructor
 all_goals first
  | (simp [go_sem];done)
  | (intro i hi;obtain ⟨k,rfl⟩:∃ k,i=k+14:=⟨i - 14,by omega⟩;simp [go_sem];done)
  | (simp;done)
set_option maxHeartbeats 4000000 in
set_option maxRecDepth 100000 in
theorem bcontract_any (v:Value) (n:Nat) (w:World) (h:IntsLA w v n w.heap.size) :
 Calls Tryz.prog 4 #[v] w fun e w'=>∃ c vs D,e=.returned (agC c vs)∧PcD w' w.heap.size c vs D∧Below w.heap.size w w':=by
 have H:=Lib.hid h
 obtain ⟨pv,cv,rfl,h1,h2⟩:=h
 clear h1 h2
 go_enter Tryz.func4,Tryz.ntmps4
 go_upto_region 1 with (fail)
 have Z0:PcB (w.alloc (.cells #[.int .i64 0,.int .i64 0,.int .i64 0,.int .i64 0,.int .i64 0,.int .i64 0,.int .i64 0,.slice none 0 0,.slice none 0 0,.slice none 0 0,.slice none 0 0,.slice none 0 0,.slice none 0 0,.int .i64 0] 30)) w.heap.size Pc.pcz vz:=by
  constructor
  all_goals first
   | (simp [go_sem,Pc.pcz,vz];done)
   | (intro i hi;obtain ⟨k,rfl⟩:∃ k,i=k+14:=⟨i - 14,by omega⟩;simp [go_sem];done)
   | (simp;done)
 have B0:Hid (Below w.heap.size w (w.alloc (.cells #[.int .i64 0,.int .i64 0,.int .i64 0,.int .i64 0,.int .i64 0,.int .i64 0,.int .i64 0,.slice none 0 0,.slice none 0 0,.slice none 0 0,.slice none 0 0,.slice none 0 0,.slice none 0 0,.int .i64 0] 30))):=(Below.refl _ _).alloc (Nat.le_refl _) _
 have S0:Hid ((w.alloc (.cells #[.int .i64 0,.int .i64 0,.int .i64 0,.int .i64 0,.int .i64 0,.int .i64 0,.int .i64 0,.slice none 0 0,.slice none 0 0,.slice none 0 0,.slice none 0 0,.slice none 0 0,.slice none 0 0,.int .i64 0] 30)).heap.size=w.heap.size+1):=by unfold Hid;simp
 generalize w.alloc (.cells #[.int .i64 0,.int .i64 0,.int .i64 0,.int .i64 0,.int .i64 0,.int .i64 0,.int .i64 0,.slice none 0 0,.slice none 0 0,.slice none 0 0,.slice none 0 0,.slice none 0 0,.slice none 0 0,.int .i64 0] 30)=w0 at *
 have TX2:Hid (IntsLA w0 (.slice pv n cv) n w0.heap.size):=by
  obtain ⟨p,cap,e,q1,q2⟩:=H.out.below B0.out (Nat.le_refl _)
  refine ⟨p,cap,e,q1,fun i hi=>?_⟩
  obtain ⟨B,O,x,r1,r2,r3⟩:=q2 i hi
  exact ⟨B,O,x,r1,by rw [S0.out];omega,r3⟩
 have ZZ:=Lib.hid Z0
 clear Z0
 go_wp2_with (first
  | (go_at_call 11;refine (text_any _ n w0 TX2.out).mono ?_;rintro e w1 ⟨s,rfl,hs,hb⟩;have SS:Hid (s.size≤9223372036854775807):=Nat.le_trans hs.2 (by decide);have HB1:=Lib.hid hb;clear hb hs)
  | (go_at_call 10;refine (rparse_any _ _ SS.out).mono ?_;rintro e w2 hq;obtain ⟨c,vs,D,n0,er,rfl,hd,hb⟩:=rpp_any hq;have PD:=Lib.hid hd;have HB2:=Lib.hid hb;clear hq hb hd;obtain ⟨p,e0,e1,e2,e3,e4,e5⟩:=PD.out.form;unfold agC;rw [e0,e1,e2,e3,e4,e5];have EE:=Lib.hid (And.intro e0 (And.intro e1 (And.intro e2 (And.intro e3 (And.intro e4 e5)))));clear e0 e1 e2 e3 e4 e5;have Z2:=Lib.hid ((ZZ.out.next HB1.out).next HB2.out);obtain ⟨z0,z1,z2,z3,z4,z5,z6,z7,z8,z9,z10,z11,z12,z13,zf0,zf1,zf2,zf3,zf4,zf5,zf6,zf7,zf8,zf9,zf10,zf11,zf12,zf13,zn,zl⟩:=Z2.out))
 have B2:Hid (Below w.heap.size w w2):=(B0.out.trans (HB1.out.mono B0.out.size)).trans (HB2.out.mono (Nat.le_trans B0.out.size HB1.out.size))
 have NX:Hid (∀ j,(sixR vs D j).v.ownBlock≠some w.heap.size):=fun j e=>by
  have q1:=((PD.out.rows.ow j).lt _ e).1
  have q2:=HB1.out.size
  have q3:=S0.out
  omega
 refine bodyPost_ret (v:=.agg #[.int .i64 c.rep,.int .i64 c.rel,.int .i64 c.con,.int .i64 c.sit,.int .i64 c.lay,.int .i64 c.nf,.int .i64 c.nt,.slice p.cs D.cs.length p.ccs,.slice p.rs D.rs.length p.crs,.slice p.os D.os.length p.cos,.slice p.cr D.cr.length p.ccr,.slice p.ls D.ls.length p.cls,.slice p.fs D.fs.length p.cfs,.int .i64 c.gua]) ?_ rfl ?_
 · rw [results_cell1 rfl];go_simp
 · refine ⟨c,vs,D,by unfold agC;rw [EE.out.1,EE.out.2.1,EE.out.2.2.1,EE.out.2.2.2.1,EE.out.2.2.2.2.1,EE.out.2.2.2.2.2],?_,?_⟩
   · refine PcD.next (PcD.kpx (X:=fun k=>k=w.heap.size) PD.out (fun k e=>by rw [e];exact pcb_ns Z2.out (fun _=>⟨_,_,_,rfl⟩)) (fun k e j=>by rw [e];exact NX.out j) (by have q2:=HB1.out.size;have q3:=S0.out;omega) ?_) ((Below.refl _ _).alloc (Nat.le_refl _) _)
     repeat (refine KpX.setC ?_ (by exact rfl) _ _)
     exact KpX.refl _ _
   · refine Below.alloc ?_ ?_ _
     · repeat (refine Below.setCell ?_ (by exact Nat.le_refl _) _)
       exact B2.out
     · simp [World.setCell]
       exact B2.out.size
end Go.Proofs.YtljdcpobomfnpaaGreat
namespace Go.Proofs.YtljdcpobomfnpaaGreat
set_option linter.unusedVariables false
set_option linter.unusedSimpArgs false
open Go.ChangeShapes Go.WideShapes Go.ChangeAt Go.RowKit
open Go.Deep (BT)
structure PcU (w:World) (bs cb:Nat) (c:Pc.PC) (vs:Fin 6→Value) (D:Six):Prop where
 box:PcB w cb c vs
 rows:RwF w (fun _=>False) bs (sixR vs D)
 nx:∀ i,(sixR vs D i).v.ownBlock≠some cb
 ok:SixOk D
 nb:Pc.NumB c
theorem sixv (vs:Fin 6→Value) (D:Six) (i:Fin 6):(sixR vs D i).v=vs i:=by
 match i with
 | 0=>rfl
 | 1=>rfl
 | 2=>rfl
 | 3=>rfl
 | 4=>rfl
 | 5=>rfl
theorem PcU.vs {w:World} {bs cb:Nat} {c:Pc.PC} {vs:Fin 6→Value} {D:Six} (h:PcU w bs cb c vs D):∀ i,∃ q n z,vs i=.slice q n z:=by
 intro i
 obtain ⟨q,z,e⟩:=own_slp (h.rows.ow i)
 exact ⟨q,_,z,(sixv vs D i).symm.trans e⟩
theorem RwF.kpxN {X:Nat→Prop} {w w2:World} {b:Nat} {R:Fin 6→Rw} (h:RwF w (fun _=>False) b R) (hs:∀ k,X k→∀ i s,w.cell? ⟨k,i,none⟩≠some (.string s)) (hx:∀ k,X k→∀ j,(R j).v.ownBlock≠some k) (hk:KpX X w w2):RwF w2 (fun _=>False) b R:=by
 have A:∀ i,∀ x ∈ (R i).trees,FoAv (fun g=>¬ X g) x.k x.b:=fun i x hi=>fo_nsX (h.ch i x hi).1.2 hs
 exact ⟨fun i=>own_keep (h.ow i) fun g q=>hk.keep g ((h.ow i).lt g q).2 (fun x=>hx g x i q),h.ne,fun i x hi=>⟨⟨(h.ch i x hi).1.1,(h.ch i x hi).1.2.keepX ((FoAv.lt (h.ch i x hi).1.2 (A i x hi)).mono fun g q=>⟨q.1,q.2⟩) hk.keep⟩,(h.ch i x hi).2⟩,fun k f=>f.elim⟩
theorem PcU.next {w w2:World} {bs cb:Nat} {c:Pc.PC} {vs:Fin 6→Value} {D:Six} (h:PcU w bs cb c vs D) (hb:Below w.heap.size w w2):PcU w2 bs cb c vs D :=
 ⟨h.box.next hb,h.rows.next hb,h.nx,h.ok,h.nb⟩
theorem PcU.start {w:World} {b:Nat} {c:Pc.PC} {vs:Fin 6→Value} {D:Six} (h:PcD w b c vs D):PcU (w.alloc (.cells #[.int .i64 c.rep,.int .i64 c.rel,.int .i64 c.con,.int .i64 c.sit,.int .i64 c.lay,.int .i64 c.nf,.int .i64 c.nt,vs 0,vs 1,vs 2,vs 3,vs 4,vs 5,.int .i64 c.gua] 30)) b w.heap.size c vs D :=
 ⟨pcb_box w c vs,h.rows.next ((Below.refl _ _).alloc (Nat.le_refl _) _),fun i e=>by have:=((h.rows.ow i).lt _ e).2;omega,h.ok,h.nb⟩
theorem PcU.grow {w w2:World} {bs cb:Nat} {c:Pc.PC} {vs:Fin 6→Value} {D D':Six} (h:PcU w bs cb c vs D) (i:Fin 6) {v':Value} {n':Nat} {cells':List Value} {ts:List Ch} (k:Nat)
 (ht:∀ x ∈ ts,ExAt w x.b x.o x.a x.k∧FoAv (fun g=>∀ j,(sixR vs D j).v.ownBlock≠some g) x.k x.b)
 (ho:w2.ownsRow bs (sixR vs D i).T (sixR vs D i).s v' n' cells') (hg:w.grownBy w2 (vs i).ownBlock) (hob:v'.ownBlock=(vs i).ownBlock∨v'.ownBlock=some w.heap.size)
 (hD:updR (sixR vs D) i ⟨(sixR vs D i).T,(sixR vs D i).s,v',n',cells',(sixR vs D i).trees++ts⟩=sixR (updV vs i v') D')
 (hB:∀ w',PcB w' cb c vs→PcB (w'.setCell ⟨cb,k,none⟩ v') cb c (updV vs i v')) (hok:SixOk D'):PcU (w2.setCell ⟨cb,k,none⟩ v') bs cb c (updV vs i v') D':=by
 have nc:some cb≠(vs i).ownBlock:=fun e=>h.nx i (by rw [sixv];exact e.symm)
 have B2:=h.box.grown hg nc
 have R:=h.rows.app i (X:=fun _=>False) (fun x hx=>⟨(ht x hx).1,(ht x hx).2.mono fun g q=>⟨fun f=>f,q⟩⟩) ho (by rw [sixv];exact hg) (by rw [sixv];exact hob)
 have N:∀ j,(updR (sixR vs D) i ⟨(sixR vs D i).T,(sixR vs D i).s,v',n',cells',(sixR vs D i).trees++ts⟩ j).v.ownBlock≠some cb:=by
  intro j e
  by_cases hj:j=i
  · subst hj
    rw [updR_same] at e
    rcases hob with hob|hob
    · exact nc (e.symm.trans hob)
    · have:=Option.some.inj (hob.symm.trans e);have:=h.box.lt;omega
  · rw [updR_other _ _ hj] at e
    exact h.nx j e
 refine ⟨hB _ B2,?_,?_,hok,h.nb⟩
 · rw [← hD]
   exact R.kpxN (X:=fun k=>k=cb) (fun k e=>by rw [e];exact pcb_ns B2 h.vs) (fun k e j=>by rw [e];exact N j) (KpX.set (X:=fun k=>k=cb) (by exact rfl) k v')
 · intro j
   rw [← hD]
   exact N j
theorem sixR_0L (vs:Fin 6→Value) (D:Six) (v:Value) (xs:List Cn):updR (sixR vs D) 0 ⟨43,5,v,D.cs.length+xs.length,D.cs.flatMap cnCl++xs.flatMap cnCl,D.cs.map cnTr++xs.map cnTr⟩=sixR (updV vs 0 v) { D with cs:=D.cs++xs }:=by
 funext j
 match j with
 | 0=>simp [updR,sixR,updV]
 | 1=>simp [updR,sixR,updV]
 | 2=>simp [updR,sixR,updV]
 | 3=>simp [updR,sixR,updV]
 | 4=>simp [updR,sixR,updV]
 | 5=>simp [updR,sixR,updV]
theorem PcU.app0 {w w2:World} {bs cb:Nat} {c:Pc.PC} {vs:Fin 6→Value} {D:Six} {v':Value} (h:PcU w bs cb c vs D) (xs:List Cn) (hx:∀ x ∈ xs,ExAt w x.b x.o x.a x.k∧FoAv (fun g=>∀ j,(sixR vs D j).v.ownBlock≠some g) x.k x.b) (hok:∀ x ∈ xs,ExOk x.a x.k∧x.name.size≤9223372036854775807)
 (ho:w2.ownsRow bs 43 5 v' (D.cs.length+xs.length) (D.cs.flatMap cnCl++xs.flatMap cnCl)) (hg:w.grownBy w2 (vs 0).ownBlock) (hob:v'.ownBlock=(vs 0).ownBlock∨v'.ownBlock=some w.heap.size) :
 PcU (w2.setCell ⟨cb,7,none⟩ v') bs cb c (updV vs 0 v') { D with cs:=D.cs++xs }:=by
 refine h.grow 0 7 (ts:=xs.map cnTr) (fun y hy=>?_) ho hg hob (sixR_0L vs D v' xs) (fun w' b=>b.row0 v') ⟨fun y hy=>?_,h.ok.rs,h.ok.os,h.ok.cr,h.ok.ls,h.ok.fs⟩
 · obtain ⟨x,hx1,rfl⟩:=List.mem_map.1 hy
   exact hx x hx1
 · rcases List.mem_append.1 hy with q|q
   · exact h.ok.cs y q
   · exact hok y q
theorem PcU.app1 {w w2:World} {bs cb:Nat} {c:Pc.PC} {vs:Fin 6→Value} {D:Six} {v':Value} (h:PcU w bs cb c vs D) (x:Ru) (hx:ExAt w x.b x.o x.a x.k) (ha:FoAv (fun g=>∀ j,(sixR vs D j).v.ownBlock≠some g) x.k x.b) (hok:ExOk x.a x.k∧Bd x.sc∧x.name.size≤9223372036854775807)
 (ho:w2.ownsRow bs 38 6 v' (D.rs.length+1) (D.rs.flatMap ruCl++ruCl x)) (hg:w.grownBy w2 (vs 1).ownBlock) (hob:v'.ownBlock=(vs 1).ownBlock∨v'.ownBlock=some w.heap.size) :
 PcU (w2.setCell ⟨cb,8,none⟩ v') bs cb c (updV vs 1 v') { D with rs:=D.rs++[x] }:=by
 refine h.grow 1 8 (ts:=[ruTr x]) (fun y hy=>by rw [List.mem_singleton.1 hy];exact ⟨hx,ha⟩) ho hg hob (sixR_1 vs D v' x) (fun w' b=>b.row1 v') ⟨h.ok.cs,fun y hy=>?_,h.ok.os,h.ok.cr,h.ok.ls,h.ok.fs⟩
 rcases List.mem_append.1 hy with q|q
 · exact h.ok.rs y q
 · rw [List.mem_singleton.1 q];exact hok
theorem PcU.app2 {w w2:World} {bs cb:Nat} {c:Pc.PC} {vs:Fin 6→Value} {D:Six} {v':Value} (h:PcU w bs cb c vs D) (x:Co) (hx:ExAt w x.b x.o x.a x.k) (ha:FoAv (fun g=>∀ j,(sixR vs D j).v.ownBlock≠some g) x.k x.b) (hok:ExOk x.a x.k∧Bd x.sc)
 (ho:w2.ownsRow bs 40 5 v' (D.os.length+1) (D.os.flatMap coCl++coCl x)) (hg:w.grownBy w2 (vs 2).ownBlock) (hob:v'.ownBlock=(vs 2).ownBlock∨v'.ownBlock=some w.heap.size) :
 PcU (w2.setCell ⟨cb,9,none⟩ v') bs cb c (updV vs 2 v') { D with os:=D.os++[x] }:=by
 refine h.grow 2 9 (ts:=[coTr x]) (fun y hy=>by rw [List.mem_singleton.1 hy];exact ⟨hx,ha⟩) ho hg hob (sixR_2 vs D v' x) (fun w' b=>b.row2 v') ⟨h.ok.cs,h.ok.rs,fun y hy=>?_,h.ok.cr,h.ok.ls,h.ok.fs⟩
 rcases List.mem_append.1 hy with q|q
 · exact h.ok.os y q
 · rw [List.mem_singleton.1 q];exact hok
theorem RwF.less {w:World} {X:Nat→Prop} {b:Nat} {R R':Fin 6→Rw} (h:RwF w X b R) (ho:∀ i,(R' i).T=(R i).T∧(R' i).s=(R i).s∧(R' i).v=(R i).v∧(R' i).n=(R i).n∧(R' i).cells=(R i).cells) (ht:∀ i,∀ x ∈ (R' i).trees,x ∈ (R i).trees):RwF w X b R':=by
 refine ⟨fun i=>?_,fun i j hij g e=>?_,fun i x hx=>⟨(h.ch i x (ht i x hx)).1,(h.ch i x (ht i x hx)).2.mono fun g q=>⟨q.1,fun j e=>?_⟩⟩,h.lt⟩
 · obtain ⟨e1,e2,e3,e4,e5⟩:=ho i
   rw [e1,e2,e3,e4,e5]
   exact h.ow i
 · rw [(ho i).2.2.1] at e
   rw [(ho j).2.2.1]
   exact h.ne i j hij g e
 · rw [(ho j).2.2.1] at e
   exact q.2 j e
theorem PcU.set3 {w w2:World} {bs cb:Nat} {c:Pc.PC} {vs:Fin 6→Value} {D:Six} {v':Value} (h:PcU w bs cb c vs D) (x:Ch) (hx:ExAt w x.b x.o x.a x.k) (ha:FoAv (fun g=>∀ j,(sixR vs D j).v.ownBlock≠some g) x.k x.b) (hok:ExOk x.a x.k)
 (ho:w2.ownsRow bs 34 4 v' 1 (chC x)) (hg:Below w.heap.size w w2) (hob:v'.ownBlock=some w.heap.size) :
 PcU (w2.setCell ⟨cb,10,none⟩ v') bs cb c (updV vs 3 v') { D with cr:=[x] }:=by
 have B2:=h.box.next hg
 have hg2:w.grownBy w2 (vs 3).ownBlock:=⟨hg.os,hg.tape,hg.output,hg.size,fun q hq _=>hg.block q hq⟩
 have R:=h.rows.app 3 (X:=fun _=>False) (ts:=[x]) (v':=v') (n':=1) (cells':=chC x) (fun y hy=>by rw [List.mem_singleton.1 hy];exact ⟨hx,ha.mono fun g q=>⟨fun f=>f,q⟩⟩) ho (by rw [sixv];exact hg2) (.inr hob)
 have R2:RwF w2 (fun _=>False) bs (sixR (updV vs 3 v') { D with cr:=[x] }):=by
  refine R.less (fun j=>?_) (fun j y hy=>?_)
  · match j with
    | 0=>exact ⟨rfl,rfl,rfl,rfl,rfl⟩
    | 1=>exact ⟨rfl,rfl,rfl,rfl,rfl⟩
    | 2=>exact ⟨rfl,rfl,rfl,rfl,rfl⟩
    | 3=>exact ⟨rfl,rfl,rfl,rfl,by simp [sixR,updR]⟩
    | 4=>exact ⟨rfl,rfl,rfl,rfl,rfl⟩
    | 5=>exact ⟨rfl,rfl,rfl,rfl,rfl⟩
  · match j,hy with
    | 0,hy=>exact hy
    | 1,hy=>exact hy
    | 2,hy=>exact hy
    | 3,hy=>exact List.mem_append_right _ hy
    | 4,hy=>exact hy
    | 5,hy=>exact hy
 have N:∀ j,(sixR (updV vs 3 v') { D with cr:=[x] } j).v.ownBlock≠some cb:=by
  intro j e
  rw [sixv] at e
  by_cases hj:j=3
  · subst hj
    have e2:v'.ownBlock=some cb:=by simpa [updV] using e
    have:=Option.some.inj (hob.symm.trans e2);have:=h.box.lt;omega
  · have e2:(vs j).ownBlock=some cb:=by simpa [updV,hj] using e
    exact h.nx j (by rw [sixv];exact e2)
 exact ⟨B2.row3 v',R2.kpxN (X:=fun k=>k=cb) (fun k e=>by rw [e];exact pcb_ns B2 h.vs) (fun k e j=>by rw [e];exact N j) (KpX.set (X:=fun k=>k=cb) (by exact rfl) 10 v'),N,⟨h.ok.cs,h.ok.rs,h.ok.os,fun y hy=>by rw [List.mem_singleton.1 hy];exact hok,h.ok.ls,h.ok.fs⟩,h.nb⟩
end Go.Proofs.YtljdcpobomfnpaaGreat
namespace Go.Proofs.YtljdcpobomfnpaaGreat
set_option linter.unusedVariables false
set_option linter.unusedSimpArgs false
open Go.ChangeShapes Go.WideShapes Go.ChangeAt Go.RowKit
open Go.Deep (BT)
def CPost2 (w:World) (e:Ending) (w':World):Prop:=∃ (xs:List Cn) (g:Nat),xs.length=2∧e=.returned (.slice (some ⟨g,0,none⟩) 2 2)∧Below w.heap.size w w'∧g < w'.heap.size ∧
 (∀ j u,(xs.flatMap cnCl)[j]?=some u→w'.cell? ⟨g,j,none⟩=some u)∧(∀ x ∈ xs,(ExAt w' x.b x.o x.a x.k∧FoAv (fun g=>w.heap.size≤g) x.k x.b)∧ExOk x.a x.k∧x.name.size≤9223372036854775807)
set_option maxHeartbeats 4000000 in
set_option maxRecDepth 100000 in
theorem bconsts2_any (w:World):Calls Tryz.prog 5 #[] w (CPost2 w):=by
 go_enter Tryz.func5,Tryz.ntmps5
 go_wp2
 go_ret
 refine ⟨bcs w.heap.size,w.heap.size+1,rfl,rfl,((Below.refl _ _).alloc (Nat.le_refl _) _).alloc (by simp) _,by simp,fun j u hj=>?_,fun x hx=>?_⟩
 · match j,hj with
   | 0,hj=>(cases hj;simp [go_sem];rfl)
   | 1,hj=>(cases hj;simp [go_sem])
   | 2,hj=>(cases hj;simp [go_sem])
   | 3,hj=>(cases hj;simp [go_sem])
   | 4,hj=>(cases hj;simp [go_sem,len])
   | 5,hj=>(cases hj;simp [go_sem];rfl)
   | 6,hj=>(cases hj;simp [go_sem])
   | 7,hj=>(cases hj;simp [go_sem])
   | 8,hj=>(cases hj;simp [go_sem])
   | 9,hj=>(cases hj;simp [go_sem,len])
   | j+10,hj=>simp [bcs,cnCl] at hj
 · have ok:=bcs_ok w.heap.size x hx
   simp only [bcs,List.mem_cons,List.not_mem_nil,or_false] at hx
   refine ⟨?_,ok.2,ok.1⟩
   rcases hx with rfl|rfl
   · exact ⟨⟨fun q=>absurd rfl q,trivial⟩,trivial⟩
   · exact ⟨⟨fun _=>rfl,⟨by simp [go_sem],by simp [go_sem],by simp [go_sem];rfl,by simp [go_sem,len]⟩,fun q=>absurd rfl q,trivial,⟨by simp [go_sem],by simp [go_sem],by simp [go_sem],by simp [go_sem,len]⟩,fun q=>absurd rfl q,trivial,trivial⟩,⟨Nat.le_refl _,trivial,Nat.le_refl _,trivial,trivial⟩⟩
theorem FoGe.avP {s:Nat} {T:Fo} {B:Nat} (h:FoGe s T B):FoAv (fun g=>s≤g) T B:=by
 induction T generalizing B with
 | nil=>trivial
 | node b o a k r ihk ihr=>exact ⟨h.1,ihk h.2.1,ihr h.2.2⟩
def XPost2 (w:World) (e:Ending) (w':World):Prop:=∃ c:Ch,e=.returned (.agg #[.int .i64 c.a.op,.int .i64 c.a.num,.string c.a.name,.slice c.a.ptr (len c.k) c.a.cap])∧ExOk c.a c.k∧ExAt w' c.b c.o c.a c.k∧FoAv (fun g=>w.heap.size≤g) c.k c.b∧Below w.heap.size w w'
set_option maxHeartbeats 4000000 in
set_option maxRecDepth 100000 in
theorem bExpr2_any (v:Value) (n:Nat) (sc kind:Int) (w:World) (h:IntsL w v n w.heap.size) (hs:sc=1∨sc=2∨sc=3) (hk:kind=1∨kind=2∨kind=3∨kind=4) :
 Calls Tryz.prog 6 #[v,.int .i64 sc,.int .i64 kind] w (XPost2 w):=by
 have H:=Lib.hid h
 have HS:=Lib.hid hs
 have HK:=Lib.hid hk
 obtain ⟨p,cap,rfl,hn,-⟩:=h
 clear hs hk
 go_enter Tryz.func6,Tryz.ntmps6
 go_wp2_with fail
 have B0:Hid (Below w.heap.size w ((w.alloc (.cells #[.int .i64 0,.int .i64 0,.string ⟨#[]⟩,.slice none 0 0] 34)).alloc (.cells #[.slice p n cap,.int .i64 0] 53))):=((Below.refl _ _).alloc (Nat.le_refl _) _).alloc (by simp) _
 have R0:Hid (RB ((w.alloc (.cells #[.int .i64 0,.int .i64 0,.string ⟨#[]⟩,.slice none 0 0] 34)).alloc (.cells #[.slice p n cap,.int .i64 0] 53)) w.heap.size):=by
  refine RB.next (w:=w.alloc (.cells #[.int .i64 0,.int .i64 0,.string ⟨#[]⟩,.slice none 0 0] 34)) ⟨⟨_,by simp [go_sem];rfl⟩,⟨_,by simp [go_sem];rfl⟩,⟨_,by simp [go_sem];rfl⟩,⟨_,by simp [go_sem];rfl⟩,by simp [go_sem],by simp [go_sem],by simp [go_sem],by simp [go_sem],by simp⟩ ((Below.refl _ _).alloc (Nat.le_refl _) _)
 have S0:Hid (Src ((w.alloc (.cells #[.int .i64 0,.int .i64 0,.string ⟨#[]⟩,.slice none 0 0] 34)).alloc (.cells #[.slice p n cap,.int .i64 0] 53)) (w.heap.size+1) (.slice p n cap) n 0):=by
  refine ⟨by simp [go_sem],by simp [go_sem],by simp [go_sem],by simp,?_⟩
  obtain ⟨p',cap',h1,h2,h3⟩:=H.out
  refine ⟨p',cap',h1,h2,fun i hi=>?_⟩
  obtain ⟨B,O,x,q1,q2,q3⟩:=h3 i hi
  exact ⟨B,O,x,q1,Nat.lt_succ_of_lt q2,by rw [B0.out.cell (p:=⟨B,O+i,none⟩) q2];exact q3⟩
 have Z0:Hid (((w.alloc (.cells #[.int .i64 0,.int .i64 0,.string ⟨#[]⟩,.slice none 0 0] 34)).alloc (.cells #[.slice p n cap,.int .i64 0] 53)).heap.size=w.heap.size+2):=by unfold Hid;simp
 generalize (w.alloc (.cells #[.int .i64 0,.int .i64 0,.string ⟨#[]⟩,.slice none 0 0] 34)).alloc (.cells #[.slice p n cap,.int .i64 0] 53)=w1 at *
 refine (bexpr_four (w.heap.size+1) (.slice p n cap) n 0 sc kind 4 w1 S0.out (by omega) HS.out HK.out rfl).mono ?_
 rintro e wx ⟨c,rfl,hp,hc,⟨⟨t9,h91,h92,hS⟩,hg⟩⟩
 have RX:Hid (RB wx w.heap.size):=R0.out.grown hg (by simp)
 have CX:Hid (ChAt wx (w.heap.size+1) c):=hc.mono (by rw [Z0.out];omega)
 have BX:Hid (Below w.heap.size w wx):=B0.out.grown hg (by rw [Z0.out];omega) (fun m hm=>by cases hm;omega)
 have PX:=Lib.hid hp
 clear hS hg hc hp
 obtain ⟨⟨u0,q0⟩,⟨u1,q1⟩,⟨u2,q2⟩,⟨u3,q3⟩,f0,f1,f2,f3,rlt⟩:=RX.out
 go_wp2
 refine bodyPost_ret (v:=.agg #[.int .i64 c.a.op,.int .i64 c.a.num,.string c.a.name,.slice c.a.ptr (len c.k) c.a.cap]) ?_ rfl ⟨c,rfl,PX.out.1,(ch_four CX.out).1,(CX.out.2.mono (Nat.le_succ _)).avP,BX.out.trans below_four⟩
 rw [results_cell1 rfl]
 go_simp
end Go.Proofs.YtljdcpobomfnpaaGreat
