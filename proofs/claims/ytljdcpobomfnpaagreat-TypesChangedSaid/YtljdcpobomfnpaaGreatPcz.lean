import Derived.Test.YtljdcpobomfnpaaGreatPcf
import Derived.Test.YtljdcpobomfnpaaGreatPcd
import Derived.Test.YtljdcpobomfnpaaGreatTkP
import Derived.Test.YtljdcpobomfnpaaGreatGd
import Derived.Test.YtljdcpobomfnpaaGreatGi
namespace Go.Proofs.YtljdcpobomfnpaaGreat
set_option linter.unusedVariables false
set_option linter.unusedSimpArgs false
open Go.ChangeShapes Go.WideShapes Go.ChangeAt Go.RowKit
open Go.Deep (BT)
structure Six where
 cs:List Cn
 rs:List Ru
 os:List Co
 cr:List Ch
 ls:List Li
 fs:List Of
def cnCl (r:Cn):List Value:=[.string r.name,.int .i64 r.a.op,.int .i64 r.a.num,.string r.a.name,.slice r.a.ptr (len r.k) r.a.cap]
def cnTr (r:Cn):Ch:=⟨r.b,r.o,r.a,r.k⟩
def liCl (a:Li):List Value:=[.string a.name,.string a.meas,.int .i64 a.most,.int .i64 a.days]
def ofCl (a:Of):List Value:=[.string a.name,.int .i64 a.count,.int .i64 a.days]
def sixR (vs:Fin 6→Value) (D:Six):Fin 6→Rw
 | 0=>⟨43,5,vs 0,D.cs.length,D.cs.flatMap cnCl,D.cs.map cnTr⟩
 | 1=>⟨38,6,vs 1,D.rs.length,D.rs.flatMap ruCl,D.rs.map ruTr⟩
 | 2=>⟨40,5,vs 2,D.os.length,D.os.flatMap coCl,D.os.map coTr⟩
 | 3=>⟨34,4,vs 3,D.cr.length,D.cr.flatMap chC,D.cr⟩
 | 4=>⟨108,4,vs 4,D.ls.length,D.ls.flatMap liCl,[]⟩
 | 5=>⟨110,3,vs 5,D.fs.length,D.fs.flatMap ofCl,[]⟩
structure SixOk (D:Six):Prop where
 cs:∀ x ∈ D.cs,ExOk x.a x.k∧x.name.size≤9223372036854775807
 rs:∀ x ∈ D.rs,ExOk x.a x.k∧Bd x.sc∧x.name.size≤9223372036854775807
 os:∀ x ∈ D.os,ExOk x.a x.k∧Bd x.sc
 cr:∀ x ∈ D.cr,ExOk x.a x.k
 ls:∀ x ∈ D.ls,Bd x.most∧Bd x.days∧x.name.size≤9223372036854775807∧x.meas.size≤9223372036854775807
 fs:∀ x ∈ D.fs,Bd x.count∧Bd x.days∧x.name.size≤9223372036854775807
structure PcV (w:World) (bs cb sb:Nat) (c:Pc.PC) (vs:Fin 6→Value) (D:Six):Prop where
 box:PcB w cb c vs
 sn:SnB w sb c
 rows:RwF w (XBc cb sb) bs (sixR vs D)
 ecs:D.cs.map (fun x=>(x.name,Pz.nr (cnTr x)))=c.cs
 ers:D.rs.map (fun x=>(x.sc,x.name,Pz.nr (ruTr x)))=c.rs
 eos:D.os.map (fun x=>(x.sc,Pz.nr (coTr x)))=c.os
 ecr:D.cr.map Pz.nr=c.cr
 els:D.ls=c.ls
 efs:D.fs=c.fs
 ok:SixOk D
 ne:cb≠sb
theorem PcV.vs {w:World} {bs cb sb:Nat} {c:Pc.PC} {vs:Fin 6→Value} {D:Six} (h:PcV w bs cb sb c vs D):∀ i,∃ q n z,vs i=.slice q n z:=by
 intro i
 have key:∀ j:Fin 6,∃ q n z,(sixR vs D j).v=.slice q n z:=fun j=>by
  obtain ⟨q,z,e⟩:=own_slp (h.rows.ow j)
  exact ⟨q,_,z,e⟩
 match i with
 | 0=>exact key 0
 | 1=>exact key 1
 | 2=>exact key 2
 | 3=>exact key 3
 | 4=>exact key 4
 | 5=>exact key 5
theorem PcV.next {w w2:World} {bs cb sb:Nat} {c:Pc.PC} {vs:Fin 6→Value} {D:Six} (h:PcV w bs cb sb c vs D) (hb:Below w.heap.size w w2):PcV w2 bs cb sb c vs D :=
 ⟨h.box.next hb,h.sn.of_block (hb.block sb h.sn.lt) hb.size,h.rows.next hb,h.ecs,h.ers,h.eos,h.ecr,h.els,h.efs,h.ok,h.ne⟩
theorem PcV.field {w w2:World} {bs cb sb:Nat} {c d:Pc.PC} {vs:Fin 6→Value} {D:Six} (h:PcV w bs cb sb c vs D) (h1:PcB w2 cb d vs) (h2:SnB w2 sb d) (hk:KpX (XBc cb sb) w w2)
 (e1:d.cs=c.cs) (e2:d.rs=c.rs) (e3:d.os=c.os) (e4:d.cr=c.cr) (e5:d.ls=c.ls) (e6:d.fs=c.fs):PcV w2 bs cb sb d vs D :=
 ⟨h1,h2,h.rows.kpx hk,h.ecs.trans e1.symm,h.ers.trans e2.symm,h.eos.trans e3.symm,h.ecr.trans e4.symm,h.els.trans e5.symm,h.efs.trans e6.symm,h.ok,h.ne⟩
theorem PcV.av {w:World} {bs cb sb:Nat} {c:Pc.PC} {vs:Fin 6→Value} {D:Six} (h:PcV w bs cb sb c vs D) {T:Fo} {B:Nat} (hT:FoAv (fun g=>w.heap.size≤g) T B):FoAv (fun g=>¬ XBc cb sb g∧∀ j,(sixR vs D j).v.ownBlock≠some g) T B :=
 hT.mono fun g q=>⟨fun x=>by
  have h1:=h.box.lt
  have h2:=h.sn.lt
  rcases x with rfl|rfl<;>omega,fun j e=>by have:=((h.rows.ow j).lt g e).2;omega⟩
theorem fne_av {n:Nat} {T:Fo} {B:Nat} (h:∀ r,r < n→Pz.FNe r T B):FoAv (fun g=>n≤g) T B:=by
 induction T generalizing B with
 | nil=>trivial
 | node b o a k r ihk ihr =>
   refine ⟨?_,ihk fun r hr=>(h r hr).2.1,ihr fun r hr=>(h r hr).2.2⟩
   rcases Nat.lt_or_ge B n with q|q
   · exact absurd rfl (h B q).1
   · exact q
theorem sixR_0 (vs:Fin 6→Value) (D:Six) (v:Value) (x:Cn):updR (sixR vs D) 0 ⟨43,5,v,D.cs.length+1,D.cs.flatMap cnCl++cnCl x,D.cs.map cnTr++[cnTr x]⟩=sixR (updV vs 0 v) { D with cs:=D.cs++[x] }:=by
 funext j
 match j with
 | 0=>simp [updR,sixR,updV]
 | 1=>simp [updR,sixR,updV]
 | 2=>simp [updR,sixR,updV]
 | 3=>simp [updR,sixR,updV]
 | 4=>simp [updR,sixR,updV]
 | 5=>simp [updR,sixR,updV]
theorem sixR_1 (vs:Fin 6→Value) (D:Six) (v:Value) (x:Ru):updR (sixR vs D) 1 ⟨38,6,v,D.rs.length+1,D.rs.flatMap ruCl++ruCl x,D.rs.map ruTr++[ruTr x]⟩=sixR (updV vs 1 v) { D with rs:=D.rs++[x] }:=by
 funext j
 match j with
 | 0=>simp [updR,sixR,updV]
 | 1=>simp [updR,sixR,updV]
 | 2=>simp [updR,sixR,updV]
 | 3=>simp [updR,sixR,updV]
 | 4=>simp [updR,sixR,updV]
 | 5=>simp [updR,sixR,updV]
theorem sixR_2 (vs:Fin 6→Value) (D:Six) (v:Value) (x:Co):updR (sixR vs D) 2 ⟨40,5,v,D.os.length+1,D.os.flatMap coCl++coCl x,D.os.map coTr++[coTr x]⟩=sixR (updV vs 2 v) { D with os:=D.os++[x] }:=by
 funext j
 match j with
 | 0=>simp [updR,sixR,updV]
 | 1=>simp [updR,sixR,updV]
 | 2=>simp [updR,sixR,updV]
 | 3=>simp [updR,sixR,updV]
 | 4=>simp [updR,sixR,updV]
 | 5=>simp [updR,sixR,updV]
theorem sixR_3 (vs:Fin 6→Value) (D:Six) (v:Value) (x:Ch):updR (sixR vs D) 3 ⟨34,4,v,D.cr.length+1,D.cr.flatMap chC++chC x,D.cr++[x]⟩=sixR (updV vs 3 v) { D with cr:=D.cr++[x] }:=by
 funext j
 match j with
 | 0=>simp [updR,sixR,updV]
 | 1=>simp [updR,sixR,updV]
 | 2=>simp [updR,sixR,updV]
 | 3=>simp [updR,sixR,updV]
 | 4=>simp [updR,sixR,updV]
 | 5=>simp [updR,sixR,updV]
theorem sixR_4 (vs:Fin 6→Value) (D:Six) (v:Value) (x:Li):updR (sixR vs D) 4 ⟨108,4,v,D.ls.length+1,D.ls.flatMap liCl++liCl x,[]++[]⟩=sixR (updV vs 4 v) { D with ls:=D.ls++[x] }:=by
 funext j
 match j with
 | 0=>simp [updR,sixR,updV]
 | 1=>simp [updR,sixR,updV]
 | 2=>simp [updR,sixR,updV]
 | 3=>simp [updR,sixR,updV]
 | 4=>simp [updR,sixR,updV]
 | 5=>simp [updR,sixR,updV]
theorem sixR_5 (vs:Fin 6→Value) (D:Six) (v:Value) (x:Of):updR (sixR vs D) 5 ⟨110,3,v,D.fs.length+1,D.fs.flatMap ofCl++ofCl x,[]++[]⟩=sixR (updV vs 5 v) { D with fs:=D.fs++[x] }:=by
 funext j
 match j with
 | 0=>simp [updR,sixR,updV]
 | 1=>simp [updR,sixR,updV]
 | 2=>simp [updR,sixR,updV]
 | 3=>simp [updR,sixR,updV]
 | 4=>simp [updR,sixR,updV]
 | 5=>simp [updR,sixR,updV]
end Go.Proofs.YtljdcpobomfnpaaGreat
namespace Go.Proofs.YtljdcpobomfnpaaGreat
set_option linter.unusedVariables false
set_option linter.unusedSimpArgs false
open Go.ChangeShapes Go.WideShapes Go.ChangeAt Go.RowKit
open Go.Deep (BT)
theorem PcB.like {w:World} {g:Nat} {c d:Pc.PC} {vs:Fin 6→Value} (h:PcB w g c vs) (e0:d.rep=c.rep) (e1:d.rel=c.rel) (e2:d.con=c.con) (e3:d.sit=c.sit) (e4:d.lay=c.lay) (e5:d.nf=c.nf) (e6:d.nt=c.nt) (e7:d.gua=c.gua):PcB w g d vs :=
 ⟨by rw [e0];exact h.c0,by rw [e1];exact h.c1,by rw [e2];exact h.c2,by rw [e3];exact h.c3,by rw [e4];exact h.c4,by rw [e5];exact h.c5,by rw [e6];exact h.c6,h.c7,h.c8,h.c9,h.c10,h.c11,h.c12,by rw [e7];exact h.c13,h.f0,h.f1,h.f2,h.f3,h.f4,h.f5,h.f6,h.f7,h.f8,h.f9,h.f10,h.f11,h.f12,h.f13,h.n,h.lt⟩
theorem SnB.app {w w2:World} {sb cb k:Nat} {u:Value} {c:Pc.PC} {row:Option Nat} (h:SnB w sb c) (hg:w.grownBy w2 row) (hn:some sb≠row) (hne:cb≠sb):SnB (w2.setCell ⟨cb,k,none⟩ u) sb c :=
 SnB.of_block (h.of_block (hg.block sb h.lt hn) hg.size) (Below.heap_setCell w2 ⟨cb,k,none⟩ u sb (fun e=>hne e.symm)) (by simp [World.setCell])
theorem PcV.app0 {w w2:World} {bs cb sb:Nat} {c:Pc.PC} {vs:Fin 6→Value} {D:Six} {v':Value} (h:PcV w bs cb sb c vs D) (x:Cn) (hx:ExAt w x.b x.o x.a x.k) (ha:FoAv (fun g=>¬ XBc cb sb g∧∀ j,(sixR vs D j).v.ownBlock≠some g) x.k x.b) (hok:ExOk x.a x.k∧x.name.size≤9223372036854775807)
 (ho:w2.ownsRow bs 43 5 v' (D.cs.length+1) (D.cs.flatMap cnCl++cnCl x)) (hg:w.grownBy w2 (vs 0).ownBlock) (hob:v'.ownBlock=(vs 0).ownBlock∨v'.ownBlock=some w.heap.size) :
 PcV (w2.setCell ⟨cb,7,none⟩ v') bs cb sb { c with cs:=c.cs++[(x.name,Pz.nr (cnTr x))] } (updV vs 0 v') { D with cs:=D.cs++[x] }:=by
 have own:=h.rows.ow 0
 have nc:some cb≠(vs 0).ownBlock:=fun e=>by have:=(own.lt cb e.symm).1;have:=h.rows.lt cb (Or.inl rfl);omega
 have ns:some sb≠(vs 0).ownBlock:=fun e=>by have:=(own.lt sb e.symm).1;have:=h.rows.lt sb (Or.inr rfl);omega
 have R:=(h.rows.app (ts:=[cnTr x]) 0 (fun y hy=>by rw [List.mem_singleton.1 hy];exact ⟨hx,ha⟩) ho hg hob).set (t:=cb) (Or.inl rfl) 7 v'
 have R2:RwF (w2.setCell ⟨cb,7,none⟩ v') (XBc cb sb) bs (sixR (updV vs 0 v') { D with cs:=D.cs++[x] }):=by
  rw [← sixR_0]
  exact R
 refine ⟨((h.box.grown hg nc).row0 v').like rfl rfl rfl rfl rfl rfl rfl rfl,(h.sn.app hg ns h.ne).same rfl,R2,?_,?_,?_,?_,?_,?_,?_,h.ne⟩
 · show List.map _ (D.cs++[x])=c.cs++_
   rw [List.map_append,h.ecs];rfl
 · exact h.ers
 · exact h.eos
 · exact h.ecr
 · exact h.els
 · exact h.efs
 · refine ⟨fun y hy=>?_,h.ok.rs,h.ok.os,h.ok.cr,h.ok.ls,h.ok.fs⟩
   rcases List.mem_append.1 hy with q|q
   · exact h.ok.cs y q
   · rw [List.mem_singleton.1 q];exact hok
theorem PcV.app1 {w w2:World} {bs cb sb:Nat} {c:Pc.PC} {vs:Fin 6→Value} {D:Six} {v':Value} (h:PcV w bs cb sb c vs D) (x:Ru) (hx:ExAt w x.b x.o x.a x.k) (ha:FoAv (fun g=>¬ XBc cb sb g∧∀ j,(sixR vs D j).v.ownBlock≠some g) x.k x.b) (hok:ExOk x.a x.k∧Bd x.sc∧x.name.size≤9223372036854775807)
 (ho:w2.ownsRow bs 38 6 v' (D.rs.length+1) (D.rs.flatMap ruCl++ruCl x)) (hg:w.grownBy w2 (vs 1).ownBlock) (hob:v'.ownBlock=(vs 1).ownBlock∨v'.ownBlock=some w.heap.size) :
 PcV (w2.setCell ⟨cb,8,none⟩ v') bs cb sb { c with rs:=c.rs++[(x.sc,x.name,Pz.nr (ruTr x))] } (updV vs 1 v') { D with rs:=D.rs++[x] }:=by
 have own:=h.rows.ow 1
 have nc:some cb≠(vs 1).ownBlock:=fun e=>by have:=(own.lt cb e.symm).1;have:=h.rows.lt cb (Or.inl rfl);omega
 have ns:some sb≠(vs 1).ownBlock:=fun e=>by have:=(own.lt sb e.symm).1;have:=h.rows.lt sb (Or.inr rfl);omega
 have R:=(h.rows.app (ts:=[ruTr x]) 1 (fun y hy=>by rw [List.mem_singleton.1 hy];exact ⟨hx,ha⟩) ho hg hob).set (t:=cb) (Or.inl rfl) 8 v'
 have R2:RwF (w2.setCell ⟨cb,8,none⟩ v') (XBc cb sb) bs (sixR (updV vs 1 v') { D with rs:=D.rs++[x] }):=by
  rw [← sixR_1]
  exact R
 refine ⟨((h.box.grown hg nc).row1 v').like rfl rfl rfl rfl rfl rfl rfl rfl,(h.sn.app hg ns h.ne).same rfl,R2,?_,?_,?_,?_,?_,?_,?_,h.ne⟩
 · exact h.ecs
 · show List.map _ (D.rs++[x])=c.rs++_
   rw [List.map_append,h.ers];rfl
 · exact h.eos
 · exact h.ecr
 · exact h.els
 · exact h.efs
 · refine ⟨h.ok.cs,fun y hy=>?_,h.ok.os,h.ok.cr,h.ok.ls,h.ok.fs⟩
   rcases List.mem_append.1 hy with q|q
   · exact h.ok.rs y q
   · rw [List.mem_singleton.1 q];exact hok
theorem PcV.app2 {w w2:World} {bs cb sb:Nat} {c:Pc.PC} {vs:Fin 6→Value} {D:Six} {v':Value} (h:PcV w bs cb sb c vs D) (x:Co) (hx:ExAt w x.b x.o x.a x.k) (ha:FoAv (fun g=>¬ XBc cb sb g∧∀ j,(sixR vs D j).v.ownBlock≠some g) x.k x.b) (hok:ExOk x.a x.k∧Bd x.sc)
 (ho:w2.ownsRow bs 40 5 v' (D.os.length+1) (D.os.flatMap coCl++coCl x)) (hg:w.grownBy w2 (vs 2).ownBlock) (hob:v'.ownBlock=(vs 2).ownBlock∨v'.ownBlock=some w.heap.size) :
 PcV (w2.setCell ⟨cb,9,none⟩ v') bs cb sb { c with os:=c.os++[(x.sc,Pz.nr (coTr x))] } (updV vs 2 v') { D with os:=D.os++[x] }:=by
 have own:=h.rows.ow 2
 have nc:some cb≠(vs 2).ownBlock:=fun e=>by have:=(own.lt cb e.symm).1;have:=h.rows.lt cb (Or.inl rfl);omega
 have ns:some sb≠(vs 2).ownBlock:=fun e=>by have:=(own.lt sb e.symm).1;have:=h.rows.lt sb (Or.inr rfl);omega
 have R:=(h.rows.app (ts:=[coTr x]) 2 (fun y hy=>by rw [List.mem_singleton.1 hy];exact ⟨hx,ha⟩) ho hg hob).set (t:=cb) (Or.inl rfl) 9 v'
 have R2:RwF (w2.setCell ⟨cb,9,none⟩ v') (XBc cb sb) bs (sixR (updV vs 2 v') { D with os:=D.os++[x] }):=by
  rw [← sixR_2]
  exact R
 refine ⟨((h.box.grown hg nc).row2 v').like rfl rfl rfl rfl rfl rfl rfl rfl,(h.sn.app hg ns h.ne).same rfl,R2,?_,?_,?_,?_,?_,?_,?_,h.ne⟩
 · exact h.ecs
 · exact h.ers
 · show List.map _ (D.os++[x])=c.os++_
   rw [List.map_append,h.eos];rfl
 · exact h.ecr
 · exact h.els
 · exact h.efs
 · refine ⟨h.ok.cs,h.ok.rs,fun y hy=>?_,h.ok.cr,h.ok.ls,h.ok.fs⟩
   rcases List.mem_append.1 hy with q|q
   · exact h.ok.os y q
   · rw [List.mem_singleton.1 q];exact hok
theorem PcV.app3 {w w2:World} {bs cb sb:Nat} {c:Pc.PC} {vs:Fin 6→Value} {D:Six} {v':Value} (h:PcV w bs cb sb c vs D) (x:Ch) (hx:ExAt w x.b x.o x.a x.k) (ha:FoAv (fun g=>¬ XBc cb sb g∧∀ j,(sixR vs D j).v.ownBlock≠some g) x.k x.b) (hok:ExOk x.a x.k)
 (ho:w2.ownsRow bs 34 4 v' (D.cr.length+1) (D.cr.flatMap chC++chC x)) (hg:w.grownBy w2 (vs 3).ownBlock) (hob:v'.ownBlock=(vs 3).ownBlock∨v'.ownBlock=some w.heap.size) :
 PcV (w2.setCell ⟨cb,10,none⟩ v') bs cb sb { c with cr:=c.cr++[(Pz.nr x)] } (updV vs 3 v') { D with cr:=D.cr++[x] }:=by
 have own:=h.rows.ow 3
 have nc:some cb≠(vs 3).ownBlock:=fun e=>by have:=(own.lt cb e.symm).1;have:=h.rows.lt cb (Or.inl rfl);omega
 have ns:some sb≠(vs 3).ownBlock:=fun e=>by have:=(own.lt sb e.symm).1;have:=h.rows.lt sb (Or.inr rfl);omega
 have R:=(h.rows.app (ts:=[x]) 3 (fun y hy=>by rw [List.mem_singleton.1 hy];exact ⟨hx,ha⟩) ho hg hob).set (t:=cb) (Or.inl rfl) 10 v'
 have R2:RwF (w2.setCell ⟨cb,10,none⟩ v') (XBc cb sb) bs (sixR (updV vs 3 v') { D with cr:=D.cr++[x] }):=by
  rw [← sixR_3]
  exact R
 refine ⟨((h.box.grown hg nc).row3 v').like rfl rfl rfl rfl rfl rfl rfl rfl,(h.sn.app hg ns h.ne).same rfl,R2,?_,?_,?_,?_,?_,?_,?_,h.ne⟩
 · exact h.ecs
 · exact h.ers
 · exact h.eos
 · show List.map _ (D.cr++[x])=c.cr++_
   rw [List.map_append,h.ecr];rfl
 · exact h.els
 · exact h.efs
 · refine ⟨h.ok.cs,h.ok.rs,h.ok.os,fun y hy=>?_,h.ok.ls,h.ok.fs⟩
   rcases List.mem_append.1 hy with q|q
   · exact h.ok.cr y q
   · rw [List.mem_singleton.1 q];exact hok
theorem PcV.app4 {w w2:World} {bs cb sb:Nat} {c:Pc.PC} {vs:Fin 6→Value} {D:Six} {v':Value} (h:PcV w bs cb sb c vs D) (x:Li) (hok:Bd x.most∧Bd x.days∧x.name.size≤9223372036854775807∧x.meas.size≤9223372036854775807)
 (ho:w2.ownsRow bs 108 4 v' (D.ls.length+1) (D.ls.flatMap liCl++liCl x)) (hg:w.grownBy w2 (vs 4).ownBlock) (hob:v'.ownBlock=(vs 4).ownBlock∨v'.ownBlock=some w.heap.size) :
 PcV (w2.setCell ⟨cb,11,none⟩ v') bs cb sb { c with ls:=c.ls++[x] } (updV vs 4 v') { D with ls:=D.ls++[x] }:=by
 have own:=h.rows.ow 4
 have nc:some cb≠(vs 4).ownBlock:=fun e=>by have:=(own.lt cb e.symm).1;have:=h.rows.lt cb (Or.inl rfl);omega
 have ns:some sb≠(vs 4).ownBlock:=fun e=>by have:=(own.lt sb e.symm).1;have:=h.rows.lt sb (Or.inr rfl);omega
 have R:=(h.rows.app (ts:=[]) 4 (fun y hy=>by cases hy) ho hg hob).set (t:=cb) (Or.inl rfl) 11 v'
 have R2:RwF (w2.setCell ⟨cb,11,none⟩ v') (XBc cb sb) bs (sixR (updV vs 4 v') { D with ls:=D.ls++[x] }):=by
  rw [← sixR_4]
  exact R
 refine ⟨((h.box.grown hg nc).row4 v').like rfl rfl rfl rfl rfl rfl rfl rfl,(h.sn.app hg ns h.ne).same rfl,R2,?_,?_,?_,?_,?_,?_,?_,h.ne⟩
 · exact h.ecs
 · exact h.ers
 · exact h.eos
 · exact h.ecr
 · show D.ls++[x]=c.ls++_
   rw [h.els]
 · exact h.efs
 · refine ⟨h.ok.cs,h.ok.rs,h.ok.os,h.ok.cr,fun y hy=>?_,h.ok.fs⟩
   rcases List.mem_append.1 hy with q|q
   · exact h.ok.ls y q
   · rw [List.mem_singleton.1 q];exact hok
theorem PcV.app5 {w w2:World} {bs cb sb:Nat} {c:Pc.PC} {vs:Fin 6→Value} {D:Six} {v':Value} (h:PcV w bs cb sb c vs D) (x:Of) (hok:Bd x.count∧Bd x.days∧x.name.size≤9223372036854775807)
 (ho:w2.ownsRow bs 110 3 v' (D.fs.length+1) (D.fs.flatMap ofCl++ofCl x)) (hg:w.grownBy w2 (vs 5).ownBlock) (hob:v'.ownBlock=(vs 5).ownBlock∨v'.ownBlock=some w.heap.size) :
 PcV (w2.setCell ⟨cb,12,none⟩ v') bs cb sb { c with fs:=c.fs++[x] } (updV vs 5 v') { D with fs:=D.fs++[x] }:=by
 have own:=h.rows.ow 5
 have nc:some cb≠(vs 5).ownBlock:=fun e=>by have:=(own.lt cb e.symm).1;have:=h.rows.lt cb (Or.inl rfl);omega
 have ns:some sb≠(vs 5).ownBlock:=fun e=>by have:=(own.lt sb e.symm).1;have:=h.rows.lt sb (Or.inr rfl);omega
 have R:=(h.rows.app (ts:=[]) 5 (fun y hy=>by cases hy) ho hg hob).set (t:=cb) (Or.inl rfl) 12 v'
 have R2:RwF (w2.setCell ⟨cb,12,none⟩ v') (XBc cb sb) bs (sixR (updV vs 5 v') { D with fs:=D.fs++[x] }):=by
  rw [← sixR_5]
  exact R
 refine ⟨((h.box.grown hg nc).row5 v').like rfl rfl rfl rfl rfl rfl rfl rfl,(h.sn.app hg ns h.ne).same rfl,R2,?_,?_,?_,?_,?_,?_,?_,h.ne⟩
 · exact h.ecs
 · exact h.ers
 · exact h.eos
 · exact h.ecr
 · exact h.els
 · show D.fs++[x]=c.fs++_
   rw [h.efs]
 · refine ⟨h.ok.cs,h.ok.rs,h.ok.os,h.ok.cr,h.ok.ls,fun y hy=>?_⟩
   rcases List.mem_append.1 hy with q|q
   · exact h.ok.fs y q
   · rw [List.mem_singleton.1 q];exact hok
end Go.Proofs.YtljdcpobomfnpaaGreat
namespace Go.Proofs.YtljdcpobomfnpaaGreat
set_option linter.unusedVariables false
set_option linter.unusedSimpArgs false
open Go.ChangeShapes Go.WideShapes Go.ChangeAt Go.RowKit
open Go.Deep (BT)
theorem tkC_drop (L:List Tk.T4) (n:Nat):tkC (L.drop n)=(tkC L).drop (n * 4):=by
 induction n generalizing L with
 | zero=>simp
 | succ n ih =>
   cases L with
   | nil=>simp [tkC]
   | cons t l =>
     have e:tkC (t :: l)=[.int .i64 t.t.kind,.string t.t.text,.int .i64 t.t.num,.int .i64 t.at']++tkC l:=by simp [tkC]
     rw [List.drop_succ_cons,ih,e,show (n+1) * 4=4+n * 4 by omega,← List.drop_drop]
     rfl
theorem tkb_drop {w:World} {L:List Tk.T4} {g O cap:Nat} (h:TkAt w L (.slice (some ⟨g,O,none⟩) L.length cap)) (n:Nat) (hl:L.length≤400):TkB w (L.drop n) (some ⟨g,O+n * 4,none⟩) w.heap.size:=by
 refine ⟨by rw [List.length_drop];omega,fun q=>?_⟩
 obtain ⟨p,cap',e,h1,h2,h3⟩:=h
 obtain ⟨g',O',e',hc⟩:=h3 (by rintro rfl;simp at q)
 injection e with e1 e2 e3
 have e4:=e1.trans e'
 injection e4 with e4
 injection e4 with e5 e6 e7
 subst e5
 subst e6
 have cell:∀ j u,(tkC (L.drop n))[j]?=some u→w.cell? ⟨g,O+n * 4+j,none⟩=some u:=fun j u hu=>by
  rw [tkC_drop,List.getElem?_drop] at hu
  rw [Nat.add_assoc]
  exact hc _ _ hu
 refine ⟨g,O+n * 4,rfl,?_,cell⟩
 cases hd:L.drop n with
 | nil=>exact absurd hd q
 | cons t l =>
   have:=cell 0 (.int .i64 t.t.kind) (by rw [hd];simp [tkC])
   exact block_lt_of_cell this
theorem txp_tree {L:List Tk.T4} {w w':World} {e:Ending} (h:TxP L w e w'):∃ c:Ch,e=.returned (.tuple #[.agg #[.int .i64 c.a.op,.int .i64 c.a.num,.string c.a.name,.slice c.a.ptr (len c.k) c.a.cap],.int .i64 (badT L)])∧Below w.heap.size w w'∧(badT L < 0→Pz.nr c=Pc.tree L∧ExAt w' c.b c.o c.a c.k∧FoAv (fun g=>w.heap.size≤g) c.k c.b):=by
 obtain ⟨c,h1,h2,h3⟩:=h
 refine ⟨c,h1,h3,fun q=>?_⟩
 unfold badT at q
 unfold Pc.tree
 cases hp:Pz.pv L .ex 0 with
 | mk o j =>
   rw [hp] at q
   cases o with
   | none=>dsimp only at q;omega
   | some x =>
     obtain ⟨q1,q2,q3⟩:=h2 x j hp
     exact ⟨q1,q2,fne_av q3⟩
end Go.Proofs.YtljdcpobomfnpaaGreat
namespace Go.Proofs.YtljdcpobomfnpaaGreat
set_option linter.unusedVariables false
set_option linter.unusedSimpArgs false
open Go.ChangeShapes Go.WideShapes Go.ChangeAt Go.RowKit
open Go.Deep (BT)
def DcP (w:World) (bs cb sb:Nat) (r:Pc.PC × Int) (e:Ending) (w':World):Prop :=
 e=.returned (.int .i64 r.2)∧(r.2=0→∃ vs D,PcV w' bs cb sb r.1 vs D)∧(∀ n,n≤cb→n≤sb→n≤bs→n≤w.heap.size→Below n w w')
theorem below_low {n m:Nat} {w w':World} (h:Below m w w') (hn:n≤m):Below n w w':=⟨h.os,h.tape,h.output,h.size,fun k hk=>h.block k (by omega)⟩
theorem dcp_err {w w':World} {bs cb sb:Nat} {c:Pc.PC} {R:Pc.PC × Int} {x:Int} (hR:R=(c,x)) (hx:x≠0) (hb:Below w.heap.size w w'):DcP w bs cb sb R (.returned (.int .i64 x)) w' :=
 ⟨by rw [hR],fun q=>absurd (by rw [hR] at q;exact q) hx,fun n _ _ _ hn=>below_low hb hn⟩
theorem dcp_ok {w w':World} {bs cb sb:Nat} {d:Pc.PC} {vs:Fin 6→Value} {D:Six} {R:Pc.PC × Int} (hR:R=(d,0)) (hp:PcV w' bs cb sb d vs D) (hb:∀ n,n≤cb→n≤sb→n≤bs→n≤w.heap.size→Below n w w'):DcP w bs cb sb R (.returned (.int .i64 0)) w' :=
 ⟨by rw [hR],fun _=>⟨vs,D,by rw [hR];exact hp⟩,hb⟩
set_option maxHeartbeats 2000000 in
set_option maxRecDepth 100000 in
theorem rdecl_word (bs cb sb:Nat) (c:Pc.PC) (L:List Tk.T4) (v:Value) (w:World) (ht:TkAt w L v) (hk:Pc.kd L 0 1=false) :
 Calls Tryz.prog 25 #[.pointer (some ⟨cb,0,none⟩),.pointer (some ⟨sb,0,none⟩),v] w (DcP w bs cb sb (Pc.declT c L)):=by
 have RQ:Hid (Pc.declT c L=(c,1)):=by unfold Hid Pc.declT;rw [if_pos hk]
 generalize Pc.declT c L=R at *
 have K1:=Lib.hid (rkd_any L v 0 1 w ht)
 rw [hk] at K1
 obtain ⟨p,cap,hv,h1,h2,h3⟩:=ht
 subst hv
 clear h1 h2 h3 hk
 go_enter Tryz.func25,Tryz.ntmps25
 go_wp2_with (go_at_call 53;refine K1.out.mono ?_;rintro e w' ⟨rfl,rfl⟩)
 go_ret
 exact dcp_err RQ.out (by decide) (Below.refl _ _)
end Go.Proofs.YtljdcpobomfnpaaGreat
namespace Go.Proofs.YtljdcpobomfnpaaGreat
set_option linter.unusedVariables false
set_option linter.unusedSimpArgs false
open Go.RowKit
open Go.Deep (BT)
namespace Pc
def Shp (c:PC) (L:List Tk.T4) (r:PC × Int):Prop:=r.1=c∨(∃ i,r.1=setField (setSeen c i) i L) ∨
    ∃ cs rs os cr ls fs,r.1={ c with cs:=cs,rs:=rs,os:=os,cr:=cr,ls:=ls,fs:=fs }∧cs.length+rs.length+os.length+cr.length+ls.length+fs.length=c.cs.length+c.rs.length+c.os.length+c.cr.length+c.ls.length+c.fs.length+1
theorem shp_ite {c:PC} {L:List Tk.T4} {p:Prop} [Decidable p] {a b:PC × Int} (ha:Shp c L a) (hb:Shp c L b):Shp c L (if p then a else b):=by
 by_cases h:p
 · rw [if_pos h];exact ha
 · rw [if_neg h];exact hb
theorem shp_ex {c:PC} {L M:List Tk.T4} {f:Ch→PC} (h:∃ cs rs os cr ls fs,f (tree M)={ c with cs:=cs,rs:=rs,os:=os,cr:=cr,ls:=ls,fs:=fs }∧cs.length+rs.length+os.length+cr.length+ls.length+fs.length=c.cs.length+c.rs.length+c.os.length+c.cr.length+c.ls.length+c.fs.length+1):Shp c L (ifEx c M f):=by
 unfold ifEx
 exact shp_ite (.inl rfl) (.inr (.inr h))
theorem shp_field (c:PC) (L:List Tk.T4) (i:Nat):Shp c L (fieldT c L i):=by
 unfold fieldT
 exact shp_ite (.inl rfl) (shp_ite (.inl rfl) (shp_ite (.inl rfl) (.inr (.inl ⟨_,rfl⟩))))
theorem declT_shape (c:PC) (L:List Tk.T4):Shp c L (declT c L):=by
 unfold declT
 refine shp_ite (.inl rfl) ?_
 cases fieldsL.findIdx? (fun s=>decide (s=(tok L 0).text)) with
 | some i=>exact shp_field c L i
 | none =>
   refine shp_ite (shp_ex ⟨_,c.rs,c.os,c.cr,c.ls,c.fs,rfl,?_⟩) (shp_ite (shp_ex ⟨c.cs,_,c.os,c.cr,c.ls,c.fs,rfl,?_⟩) (shp_ite (shp_ex ⟨c.cs,c.rs,_,c.cr,c.ls,c.fs,rfl,?_⟩) (shp_ite (shp_ex ⟨c.cs,c.rs,c.os,_,c.ls,c.fs,rfl,?_⟩) (shp_ite (shp_ite (.inr (.inr ⟨c.cs,c.rs,c.os,c.cr,_,c.fs,rfl,?_⟩)) (.inl rfl)) (shp_ite (.inr (.inr ⟨c.cs,c.rs,c.os,c.cr,c.ls,_,rfl,?_⟩)) (.inl rfl))))))
   all_goals (simp only [List.length_append,List.length_singleton];omega)
def cnt (c:PC):Nat:=c.cs.length+c.rs.length+c.os.length+c.cr.length+c.ls.length+c.fs.length
theorem cnt_field (c:PC) (i:Nat) (L:List Tk.T4):cnt (setField (setSeen c i) i L)=cnt c:=by
 unfold setField setSeen cnt
 split<;>rfl
theorem declT_cnt (c:PC) (L:List Tk.T4):cnt (declT c L).1≤cnt c+1:=by
 rcases declT_shape c L with h|⟨i,h⟩|⟨cs,rs,os,cr,ls,fs,h,hl⟩
 · rw [h];omega
 · rw [h,cnt_field];omega
 · rw [h];unfold cnt;dsimp only;omega
theorem tok_num {L:List Tk.T4} (hV:∀ t ∈ L,VT t.t) (i:Nat):0≤(tok L i).num∧(tok L i).num≤1099511627776:=by
 unfold tok
 cases h:L[i]? with
 | none=>exact ⟨by show (0:Int)≤0;omega,by show (0:Int)≤_;omega⟩
 | some t =>
   have q:=hV t (List.mem_of_getElem? h)
   show 0≤t.t.num∧t.t.num≤_
   rcases q with q|q|q|q<;>omega
theorem tok_bd {L:List Tk.T4} (hV:∀ t ∈ L,VT t.t) (i:Nat):Bd (tok L i).num:=by
 have:=tok_num hV i
 unfold Bd
 omega
def NumB (c:PC):Prop:=Bd c.rep∧Bd c.rel∧Bd c.con∧Bd c.sit∧Bd c.lay∧Bd c.nf∧Bd c.nt∧Bd c.gua
theorem numb_field {c:PC} {L:List Tk.T4} (hV:∀ t ∈ L,VT t.t) (h:NumB c) (i:Nat):NumB (setField (setSeen c i) i L):=by
 obtain ⟨h0,h1,h2,h3,h4,h5,h6,h7⟩:=h
 have q1:=tok_bd hV 1
 have q3:=tok_bd hV 3
 unfold setField setSeen NumB
 split<;>exact ⟨by assumption,by assumption,by assumption,by assumption,by assumption,by assumption,by assumption,by assumption⟩
theorem declT_numb {c:PC} {L:List Tk.T4} (hV:∀ t ∈ L,VT t.t) (h:NumB c):NumB (declT c L).1:=by
 rcases declT_shape c L with q|⟨i,q⟩|⟨cs,rs,os,cr,ls,fs,q,-⟩
 · rw [q];exact h
 · rw [q];exact numb_field hV h i
 · rw [q];exact h
theorem numb0:NumB pc0:=by
 unfold NumB pc0 Bd
 dsimp only
 omega
end Pc
end Go.Proofs.YtljdcpobomfnpaaGreat
