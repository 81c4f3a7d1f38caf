import Derived.Test.YtcejjdmnlejbaaaGreatDoorVCtY
namespace Go.Proofs.YtcejjdmnlejbaaaGreatDoor
open Option.some(inj)
set_option linter.unusedVariables false
set_option linter.unusedSimpArgs false
open Go.ChangeShapes Go.WideShapes Go.ChangeAt Go.RowKit
open Go.Deep (BT)
def KeepX(n:Nat)(X:Nat→Prop)(w w':World):Prop:=∀k,k < n→¬X k→w'.heap[k]?=w.heap[k]?
theorem KeepX.refl(n:Nat)(X:Nat→Prop)(w:World):KeepX n X w w:=fun _ _ _=>rfl
theorem KeepX.trans{n:Nat}{X:Nat→Prop}{w a b:World}(h:KeepX n X w a)(h2:KeepX n X a b):KeepX n X w b:=fun k hk ht=>(h2 k hk ht).trans (h k hk ht)
theorem KeepX.mono{n m:Nat}{X:Nat→Prop}{w a:World}(h:KeepX n X w a)(hm:m≤n):KeepX m X w a:=fun k hk ht=>h k (by omega) ht
theorem KeepX.next{n:Nat}{X:Nat→Prop}{w a b:World}(h:KeepX n X w a)(hn:n≤a.heap.size)(hb:Below a.heap.size a b):KeepX n X w b:=h.trans fun k hk _=>hb.block k (by omega)
theorem KeepX.grown{n:Nat}{X:Nat→Prop}{w a b:World}{row:Option Nat}(h:KeepX n X w a)(hn:n≤a.heap.size)(hg:a.grownBy b row)(hr:∀k,row=some k→n≤k∨X k):KeepX n X w b :=
 h.trans fun k hk ht=>hg.block k (by omega) (fun e=>by
  rcases hr k e.symm with q|q
  ·omega
  ·exact ht q)
theorem KeepX.setCell{n:Nat}{X:Nat→Prop}{w a:World}{p:Addr}(h:KeepX n X w a)(hp:X p.block)(u:Value):KeepX n X w (a.setCell p u) :=
 h.trans fun k hk hx=>Below.heap_setCell _ _ _ _ (fun e=>hx (e ▸ hp))
theorem KeepX.weak{n:Nat}{X Y:Nat→Prop}{w a:World}(h:KeepX n X w a)(hx:∀k,X k→Y k):KeepX n Y w a:=fun k hk hy=>h k hk fun q=>hy (hx k q)
theorem KeepX.cell{n:Nat}{X:Nat→Prop}{w w':World}(h:KeepX n X w w'){p:Addr}(h1:p.block < n)(h2:¬X p.block):w'.cell? p=w.cell? p:=World.cell?_of_block (h p.block h1 h2)
theorem FoAt.keepX{n:Nat}{X:Nat→Prop}{w w':World}{T:Fo}{B O:Nat}(h:FoAt w T B O)(ha:FoAv (fun g=>¬X g∧g < n) T B)(hk:KeepX n X w w'):FoAt w' T B O:=by
 induction T generalizing B O with
 | nil=>trivial
 | node b o a k r ihk ihr =>
   obtain⟨⟨h0,h1,h2,h3⟩,hp,hkk,hr⟩:=h;have e:∀i,w'.cell? ⟨B,i,none⟩=w.cell? ⟨B,i,none⟩:=fun i=>hk.cell ha.1.2 ha.1.1;exact⟨⟨by rw[e];exact h0,by rw[e];exact h1,by rw[e];exact h2,by rw[e];exact h3⟩,hp,ihk hkk ha.2.1,ihr hr ha.2.2⟩
theorem FoLt.av{n:Nat}{T:Fo}{B:Nat}(h:FoLt n T B){Av:Nat→Prop}(hA:∀g,g < n→Av g):FoAv Av T B:=by
 induction T generalizing B with
 | nil=>trivial
 | node b o a k r ihk ihr=>exact⟨hA _ h.1,ihk h.2.1,ihr h.2.2⟩
section
variable {α:Type} {cel:α→List Value} {tr:α→Ch} {T:TypeId} {s bs:Nat} {X:Nat→Prop} {v:Value} {L:List α}
theorem Kw(hs:∀r,(cel r).length=s)(i j:Nat)(r:α)(hi:L[i]?=some r)(hj:j < s):(L.flatMap cel)[i * s+j]?=(cel r)[j]?:=by
 induction L generalizing i with
 | nil=>simp at hi
 | cons a l ih =>
   cases i with
   | zero =>
     simp at hi;subst hi;rw[List.flatMap_cons,Nat.zero_mul,Nat.zero_add,List.getElem?_append_left (by rw[hs];exact hj)]
   | succ i =>
     have e:(i+1) * s+j=s+(i * s+j):=(by rw[Nat.add_mul,Nat.one_mul];omega);rw[List.flatMap_cons,e,List.getElem?_append_right (by rw[hs];omega),hs,show s+(i * s+j) - s=i * s+j by omega];exact ih i (by simpa using hi)
end
def zh(r:Ru):List Value:=[.int .i64 r.sc,.string r.name,.int .i64 r.a.op,.int .i64 r.a.num,.string r.a.name,.slice r.a.ptr (len r.k) r.a.cap]
def k7(r:Ru):Ch:=⟨r.b,r.o,r.a,r.k⟩
def zj(r:Co):List Value:=[.int .i64 r.sc,.int .i64 r.a.op,.int .i64 r.a.num,.string r.a.name,.slice r.a.ptr (len r.k) r.a.cap]
def kj(r:Co):Ch:=⟨r.b,r.o,r.a,r.k⟩
structure Rw where
 T:TypeId
 s:Nat
 v:Value
 n:Nat
 cells:List Value
 trees:List Ch
def yK(R:Fin 6→Rw)(i:Fin 6)(r:Rw):Fin 6→Rw:=fun j=>if j=i then r else R j
theorem jr(R:Fin 6→Rw)(i:Fin 6)(r:Rw):yK R i r i=r:=by unfold yK;rw[if_pos rfl]
theorem zF(R:Fin 6→Rw){i j:Fin 6}(r:Rw)(h:j≠i):yK R i r j=R j:=by unfold yK;rw[if_neg h]
structure RwF (w:World) (X:Nat→Prop) (bs:Nat) (R:Fin 6→Rw):Prop where
 ow:∀i,w.ownsRow bs (R i).T (R i).s (R i).v (R i).n (R i).cells
 ne:∀i j,i≠j→∀g,(R i).v.ownBlock=some g→(R j).v.ownBlock≠some g
 ch:∀i,∀c∈ (R i).trees,ExAt w c.b c.o c.a c.k∧FoAv (fun g=>¬X g∧∀j,(R j).v.ownBlock≠some g) c.k c.b
 lt:∀k,X k→k < bs
theorem RwF.next{w w2:World}{X:Nat→Prop}{bs:Nat}{R:Fin 6→Rw}(h:RwF w X bs R)(hb:Below w.heap.size w w2):RwF w2 X bs R :=
 ⟨fun i=>own_below (h.ow i) hb,h.ne,fun i c hc=>⟨(h.ch i c hc).1.next hb,(h.ch i c hc).2⟩,h.lt⟩
theorem RwF.set{w:World}{X:Nat→Prop}{bs t:Nat}{R:Fin 6→Rw}(h:RwF w X bs R)(ht:X t)(k:Nat)(u:Value):RwF (w.setCell ⟨t,k,none⟩ u) X bs R:=by
 have g2:=zK w t k u;refine⟨fun i=>(h.ow i).kept g2 ?_,h.ne,fun i c hc=>⟨(h.ch i c hc).1.grownO ((h.ch i c hc).2.mono fun g q e=>q.1 (by rw[← inj e];exact ht)) g2,(h.ch i c hc).2⟩,h.lt⟩;cases q:(R i).v.ownBlock with
 | none=>exact .inl rfl
 | some g=>exact .inr (by simp;have:=(h.ow i).lt g q;have:=h.lt t ht;omega)
theorem RwF.app{w w2:World}{X:Nat→Prop}{bs:Nat}{R:Fin 6→Rw}(h:RwF w X bs R)(i:Fin 6){v':Value}{n':Nat}{cells':List Value}{ts:List Ch}
 (ht:∀c∈ ts,ExAt w c.b c.o c.a c.k∧FoAv (fun g=>¬X g∧∀j,(R j).v.ownBlock≠some g) c.k c.b)
 (ho:w2.ownsRow bs (R i).T (R i).s v' n' cells') (hg:w.grownBy w2 (R i).v.ownBlock) (hob:v'.ownBlock=(R i).v.ownBlock∨v'.ownBlock=some w.heap.size) :
 RwF w2 X bs (yK R i ⟨(R i).T,(R i).s,v',n',cells',(R i).trees++ts⟩):=by
 have old:∀j g,(R j).v.ownBlock=some g→g < w.heap.size:=fun j g q=>((h.ow j).lt g q).2
 have ex:∀c:Ch,ExAt w c.b c.o c.a c.k→FoAv (fun g=>¬X g∧∀j,(R j).v.ownBlock≠some g) c.k c.b→
  ExAt w2 c.b c.o c.a c.k∧FoAv (fun g=>¬X g∧∀j,(yK R i ⟨(R i).T,(R i).s,v',n',cells',(R i).trees++ts⟩ j).v.ownBlock≠some g) c.k c.b:=by
  intro c h1 h2;refine⟨h1.grownO (h2.mono fun g q=>q.2 i) hg,(FoAv.lt h1.2 h2).mono fun g q=>⟨q.1.1,fun j e=>?_⟩⟩
  by_cases hj:j=i
  ·subst hj;rw[jr] at e;rcases hob with hob|hob
   ·exact q.1.2 j (hob.symm.trans e)
   ·have:=inj (hob.symm.trans e);have:=q.2;omega
  ·rw [zF _ _ hj] at e;exact q.1.2 j e
 refine⟨fun j=>?_,fun j k hjk g=>?_,fun j c hc=>?_,h.lt⟩
 ·by_cases hj:j=i
  ·subst hj;rw[jr];exact ho
  ·rw [zF _ _ hj];refine(h.ow j).kept hg ?_;cases q:(R j).v.ownBlock with
   | none=>exact .inl rfl
   | some g=>exact .inr fun e=>h.ne j i hj g q e.symm
 ·by_cases hj:j=i
  ·subst hj;rw[jr,zF _ _ (fun e=>hjk e.symm)];intro q e;rcases hob with hob|hob
   ·exact h.ne j k hjk g (hob.symm.trans q) e
   ·have:=old k g e;have:=inj (hob.symm.trans q);omega
  ·rw [zF _ _ hj]
   by_cases hk:k=i
   ·subst hk;rw[jr];intro q e;rcases hob with hob|hob
    ·exact h.ne j k hjk g q (hob.symm.trans e)
    ·have:=old j g q;have:=inj (hob.symm.trans e);omega
   ·rw[zF _ _ hk];exact h.ne j k hjk g
 ·by_cases hj:j=i
  ·subst hj;rw[jr] at hc;rcases List.mem_append.1 hc with q|q
   ·exact ex c (h.ch j c q).1 (h.ch j c q).2
   ·exact ex c (ht c q).1 (ht c q).2
  ·rw [zF _ _ hj] at hc;exact ex c (h.ch j c hc).1 (h.ch j c hc).2
theorem RwF.row{α:Type}{cel:α→List Value}{tr:α→List Ch}{w:World}{X:Nat→Prop}{bs:Nat}{R:Fin 6→Rw}(h:RwF w X bs R)(i:Fin 6)(L:List α)(s:Nat)(hs:∀r,(cel r).length=s)(h1:(R i).s=s)(h2:(R i).n=L.length)(h3:(R i).cells=L.flatMap cel)(h4:(R i).trees=L.flatMap tr)
 (P:World→Nat→Nat→α→Prop) (hP:∀B O r,r∈ L→(∀j u,(cel r)[j]?=some u→w.cell? ⟨B,O+j,none⟩=some u)→(∀c∈ tr r,ExAt w c.b c.o c.a c.k)→P w B O r) (hl:L.length≤9223372036854775807):∃p cap,(R i).v=.slice p L.length cap∧RowV P s w L p:=by
 have own:=h.ow i;rcases own.2 with ⟨hv,h0⟩|⟨g,cap,cur,hv,hq⟩
 ·have e:L=[]:=List.length_eq_zero_iff.1 (h2.symm.trans h0);subst e;exact⟨none,0,hv,by simp,0,0,fun q=>absurd rfl q,fun i x hi=>by simp at hi⟩
 ·rw [hv,h1,h2,h3] at own;refine⟨_,cap,by rw[hv,h2],hl,g,0,fun _=>rfl,fun k r hk=>?_⟩;have hr:r∈ L:=List.mem_of_getElem? hk;refine hP g _ r hr (fun j u hu=>?_) (fun c hc=>(h.ch i c (by rw[h4];exact List.mem_flatMap.2 ⟨r,hr,hc⟩)).1)
  have hj:j < s:=by
   have:=(List.getElem?_eq_some_iff.1 hu).1;rw[hs] at this;exact this
  have hil:k < L.length:=(List.getElem?_eq_some_iff.1 hk).1
  have hij:k * s+j < L.length * s:=by
   have:(k+1) * s≤L.length * s:=Nat.mul_le_mul_right s hil;rw[Nat.add_mul,Nat.one_mul] at this;omega
  rw[show 0+k * s+j=k * s+j by omega,own.cellAt _ hij,Kw hs k j r hk hj];exact hu
structure KpX (X:Nat→Prop) (w w':World):Prop where
 os:w'.os=w.os
 tape:w'.tape=w.tape
 output:w'.output=w.output
 size:w.heap.size≤w'.heap.size
 keep:KeepX w.heap.size X w w'
theorem KpX.refl(X:Nat→Prop)(w:World):KpX X w w:=⟨rfl,rfl,rfl,Nat.le_refl _,KeepX.refl _ _ _⟩
theorem KpX.trans{X:Nat→Prop}{w a b:World}(h:KpX X w a)(h2:KpX X a b):KpX X w b :=
 ⟨h2.os.trans h.os,h2.tape.trans h.tape,h2.output.trans h.output,Nat.le_trans h.size h2.size,h.keep.trans (h2.keep.mono h.size)⟩
theorem KpX.of_below{X:Nat→Prop}{w a:World}(h:Below w.heap.size w a):KpX X w a:=⟨h.os,h.tape,h.output,h.size,fun k hk _=>h.block k hk⟩
theorem KpX.set{X:Nat→Prop}{w:World}{t:Nat}(ht:X t)(k:Nat)(u:Value):KpX X w (w.setCell ⟨t,k,none⟩ u) :=
 ⟨rfl,rfl,rfl,by simp[World.setCell],(KeepX.refl _ _ _).setCell (p:=⟨t,k,none⟩) ht u⟩
theorem KpX.below{X:Nat→Prop}{w a:World}{n:Nat}(h:KpX X w a)(hn:n≤w.heap.size)(hx:∀k,X k→n≤k):Below n w a :=
 ⟨h.os,h.tape,h.output,h.size,fun k hk=>h.keep k (by omega) (fun q=>by have:=hx k q;omega)⟩
theorem Jv{w w':World}{B:Nat}{e:TypeId}{size:Nat}{v:Value}{n:Nat}{xs:List Value}(h:w.ownsRow B e size v n xs)(hk:∀g,v.ownBlock=some g→w'.heap[g]?=w.heap[g]?):w'.ownsRow B e size v n xs:=by
 refine⟨h.1,?_⟩;rcases h.2 with q|⟨g,cap,cur,rfl,h1,h2,h3⟩
 ·exact .inl q
 ·exact .inr ⟨g,cap,cur,rfl,h1,by rw[hk g rfl];exact h2,h3⟩
theorem RwF.kpx{w w2:World}{X:Nat→Prop}{bs:Nat}{R:Fin 6→Rw}(h:RwF w X bs R)(hk:KpX X w w2):RwF w2 X bs R :=
 ⟨fun i=>Jv (h.ow i) fun g q=>hk.keep g ((h.ow i).lt g q).2 (fun x=>by have:=(h.ow i).lt g q;have:=h.lt g x;omega),h.ne,
  fun i c hc=>⟨⟨(h.ch i c hc).1.1,(h.ch i c hc).1.2.keepX ((FoAv.lt (h.ch i c hc).1.2 (h.ch i c hc).2).mono fun g q=>⟨q.1.1,q.2⟩) hk.keep⟩,(h.ch i c hc).2⟩,h.lt⟩
structure PcB (w:World) (g:Nat) (c:Pc.PC) (vs:Fin 6→Value):Prop where
 c0:w.cell? ⟨g,0,none⟩=some (.int .i64 c.rep)
 c1:w.cell? ⟨g,1,none⟩=some (.int .i64 c.rel)
 c2:w.cell? ⟨g,2,none⟩=some (.int .i64 c.con)
 c3:w.cell? ⟨g,3,none⟩=some (.int .i64 c.sit)
 c4:w.cell? ⟨g,4,none⟩=some (.int .i64 c.lay)
 c5:w.cell? ⟨g,5,none⟩=some (.int .i64 c.nf)
 c6:w.cell? ⟨g,6,none⟩=some (.int .i64 c.nt)
 c7:w.cell? ⟨g,7,none⟩=some (vs 0)
 c8:w.cell? ⟨g,8,none⟩=some (vs 1)
 c9:w.cell? ⟨g,9,none⟩=some (vs 2)
 c10:w.cell? ⟨g,10,none⟩=some (vs 3)
 c11:w.cell? ⟨g,11,none⟩=some (vs 4)
 c12:w.cell? ⟨g,12,none⟩=some (vs 5)
 c13:w.cell? ⟨g,13,none⟩=some (.int .i64 c.gua)
 f0:w.frozen? ⟨g,0,none⟩=false
 f1:w.frozen? ⟨g,1,none⟩=false
 f2:w.frozen? ⟨g,2,none⟩=false
 f3:w.frozen? ⟨g,3,none⟩=false
 f4:w.frozen? ⟨g,4,none⟩=false
 f5:w.frozen? ⟨g,5,none⟩=false
 f6:w.frozen? ⟨g,6,none⟩=false
 f7:w.frozen? ⟨g,7,none⟩=false
 f8:w.frozen? ⟨g,8,none⟩=false
 f9:w.frozen? ⟨g,9,none⟩=false
 f10:w.frozen? ⟨g,10,none⟩=false
 f11:w.frozen? ⟨g,11,none⟩=false
 f12:w.frozen? ⟨g,12,none⟩=false
 f13:w.frozen? ⟨g,13,none⟩=false
 n:∀i,14≤i→w.cell? ⟨g,i,none⟩=none
 lt:g < w.heap.size
theorem PcB.of_block{w w':World}{g:Nat}{c:Pc.PC}{vs:Fin 6→Value}(h:PcB w g c vs)(e:w'.heap[g]?=w.heap[g]?)(hl:w.heap.size≤w'.heap.size):PcB w' g c vs:=by
 have q:∀i,w'.cell? ⟨g,i,none⟩=w.cell? ⟨g,i,none⟩:=fun i=>World.cell?_of_block e;have qf:∀i,w'.frozen? ⟨g,i,none⟩=w.frozen? ⟨g,i,none⟩:=fun i=>World.frozen?_of_block e;obtain⟨c0,c1,c2,c3,c4,c5,c6,c7,c8,c9,c10,c11,c12,c13,f0,f1,f2,f3,f4,f5,f6,f7,f8,f9,f10,f11,f12,f13,n,lt⟩:=h;exact⟨by rw[q];exact c0,by rw[q];exact c1,by rw[q];exact c2,by rw[q];exact c3,by rw[q];exact c4,by rw[q];exact c5,by rw[q];exact c6,by rw[q];exact c7,by rw[q];exact c8,by rw[q];exact c9,by rw[q];exact c10,by rw[q];exact c11,by rw[q];exact c12,by rw[q];exact c13,by rw[qf];exact f0,by rw[qf];exact f1,by rw[qf];exact f2,by rw[qf];exact f3,by rw[qf];exact f4,by rw[qf];exact f5,by rw[qf];exact f6,by rw[qf];exact f7,by rw[qf];exact f8,by rw[qf];exact f9,by rw[qf];exact f10,by rw[qf];exact f11,by rw[qf];exact f12,by rw[qf];exact f13,fun i hi=>by rw[q];exact n i hi,by omega⟩
theorem PcB.next{w w':World}{g:Nat}{c:Pc.PC}{vs:Fin 6→Value}(h:PcB w g c vs)(hb:Below w.heap.size w w'):PcB w' g c vs:=h.of_block (hb.block g h.lt) hb.size
theorem PcB.grown{w w':World}{g:Nat}{c:Pc.PC}{vs:Fin 6→Value}{row:Option Nat}(h:PcB w g c vs)(hg:w.grownBy w' row)(hn:some g≠row):PcB w' g c vs:=h.of_block (hg.block g h.lt hn) hg.size
theorem PcB.set_rep{w:World}{g:Nat}{c:Pc.PC}{vs:Fin 6→Value}(h:PcB w g c vs)(x:Int):PcB (w.setCell ⟨g,0,none⟩ (.int .i64 x)) g { c with rep:=x } vs:=by
 obtain⟨c0,c1,c2,c3,c4,c5,c6,c7,c8,c9,c10,c11,c12,c13,f0,f1,f2,f3,f4,f5,f6,f7,f8,f9,f10,f11,f12,f13,n,lt⟩:=h;refine⟨?_,?_,?_,?_,?_,?_,?_,?_,?_,?_,?_,?_,?_,?_,?_,?_,?_,?_,?_,?_,?_,?_,?_,?_,?_,?_,?_,?_,fun j hj=>by have h1:=n j hj;have h2:j≠0:=(by omega);simp[go_sem,h1,h2],by simp[World.setCell];exact lt⟩<;>simp[go_sem,c0,c1,c2,c3,c4,c5,c6,c7,c8,c9,c10,c11,c12,c13,f0,f1,f2,f3,f4,f5,f6,f7,f8,f9,f10,f11,f12,f13]
theorem PcB.set_rel{w:World}{g:Nat}{c:Pc.PC}{vs:Fin 6→Value}(h:PcB w g c vs)(x:Int):PcB (w.setCell ⟨g,1,none⟩ (.int .i64 x)) g { c with rel:=x } vs:=by
 obtain⟨c0,c1,c2,c3,c4,c5,c6,c7,c8,c9,c10,c11,c12,c13,f0,f1,f2,f3,f4,f5,f6,f7,f8,f9,f10,f11,f12,f13,n,lt⟩:=h;refine⟨?_,?_,?_,?_,?_,?_,?_,?_,?_,?_,?_,?_,?_,?_,?_,?_,?_,?_,?_,?_,?_,?_,?_,?_,?_,?_,?_,?_,fun j hj=>by have h1:=n j hj;have h2:j≠1:=(by omega);simp[go_sem,h1,h2],by simp[World.setCell];exact lt⟩<;>simp[go_sem,c0,c1,c2,c3,c4,c5,c6,c7,c8,c9,c10,c11,c12,c13,f0,f1,f2,f3,f4,f5,f6,f7,f8,f9,f10,f11,f12,f13]
theorem PcB.set_con{w:World}{g:Nat}{c:Pc.PC}{vs:Fin 6→Value}(h:PcB w g c vs)(x:Int):PcB (w.setCell ⟨g,2,none⟩ (.int .i64 x)) g { c with con:=x } vs:=by
 obtain⟨c0,c1,c2,c3,c4,c5,c6,c7,c8,c9,c10,c11,c12,c13,f0,f1,f2,f3,f4,f5,f6,f7,f8,f9,f10,f11,f12,f13,n,lt⟩:=h;refine⟨?_,?_,?_,?_,?_,?_,?_,?_,?_,?_,?_,?_,?_,?_,?_,?_,?_,?_,?_,?_,?_,?_,?_,?_,?_,?_,?_,?_,fun j hj=>by have h1:=n j hj;have h2:j≠2:=(by omega);simp[go_sem,h1,h2],by simp[World.setCell];exact lt⟩<;>simp[go_sem,c0,c1,c2,c3,c4,c5,c6,c7,c8,c9,c10,c11,c12,c13,f0,f1,f2,f3,f4,f5,f6,f7,f8,f9,f10,f11,f12,f13]
theorem PcB.set_sit{w:World}{g:Nat}{c:Pc.PC}{vs:Fin 6→Value}(h:PcB w g c vs)(x:Int):PcB (w.setCell ⟨g,3,none⟩ (.int .i64 x)) g { c with sit:=x } vs:=by
 obtain⟨c0,c1,c2,c3,c4,c5,c6,c7,c8,c9,c10,c11,c12,c13,f0,f1,f2,f3,f4,f5,f6,f7,f8,f9,f10,f11,f12,f13,n,lt⟩:=h;refine⟨?_,?_,?_,?_,?_,?_,?_,?_,?_,?_,?_,?_,?_,?_,?_,?_,?_,?_,?_,?_,?_,?_,?_,?_,?_,?_,?_,?_,fun j hj=>by have h1:=n j hj;have h2:j≠3:=(by omega);simp[go_sem,h1,h2],by simp[World.setCell];exact lt⟩<;>simp[go_sem,c0,c1,c2,c3,c4,c5,c6,c7,c8,c9,c10,c11,c12,c13,f0,f1,f2,f3,f4,f5,f6,f7,f8,f9,f10,f11,f12,f13]
theorem PcB.set_lay{w:World}{g:Nat}{c:Pc.PC}{vs:Fin 6→Value}(h:PcB w g c vs)(x:Int):PcB (w.setCell ⟨g,4,none⟩ (.int .i64 x)) g { c with lay:=x } vs:=by
 obtain⟨c0,c1,c2,c3,c4,c5,c6,c7,c8,c9,c10,c11,c12,c13,f0,f1,f2,f3,f4,f5,f6,f7,f8,f9,f10,f11,f12,f13,n,lt⟩:=h;refine⟨?_,?_,?_,?_,?_,?_,?_,?_,?_,?_,?_,?_,?_,?_,?_,?_,?_,?_,?_,?_,?_,?_,?_,?_,?_,?_,?_,?_,fun j hj=>by have h1:=n j hj;have h2:j≠4:=(by omega);simp[go_sem,h1,h2],by simp[World.setCell];exact lt⟩<;>simp[go_sem,c0,c1,c2,c3,c4,c5,c6,c7,c8,c9,c10,c11,c12,c13,f0,f1,f2,f3,f4,f5,f6,f7,f8,f9,f10,f11,f12,f13]
theorem PcB.set_nf{w:World}{g:Nat}{c:Pc.PC}{vs:Fin 6→Value}(h:PcB w g c vs)(x:Int):PcB (w.setCell ⟨g,5,none⟩ (.int .i64 x)) g { c with nf:=x } vs:=by
 obtain⟨c0,c1,c2,c3,c4,c5,c6,c7,c8,c9,c10,c11,c12,c13,f0,f1,f2,f3,f4,f5,f6,f7,f8,f9,f10,f11,f12,f13,n,lt⟩:=h;refine⟨?_,?_,?_,?_,?_,?_,?_,?_,?_,?_,?_,?_,?_,?_,?_,?_,?_,?_,?_,?_,?_,?_,?_,?_,?_,?_,?_,?_,fun j hj=>by have h1:=n j hj;have h2:j≠5:=(by omega);simp[go_sem,h1,h2],by simp[World.setCell];exact lt⟩<;>simp[go_sem,c0,c1,c2,c3,c4,c5,c6,c7,c8,c9,c10,c11,c12,c13,f0,f1,f2,f3,f4,f5,f6,f7,f8,f9,f10,f11,f12,f13]
theorem PcB.set_nt{w:World}{g:Nat}{c:Pc.PC}{vs:Fin 6→Value}(h:PcB w g c vs)(x:Int):PcB (w.setCell ⟨g,6,none⟩ (.int .i64 x)) g { c with nt:=x } vs:=by
 obtain⟨c0,c1,c2,c3,c4,c5,c6,c7,c8,c9,c10,c11,c12,c13,f0,f1,f2,f3,f4,f5,f6,f7,f8,f9,f10,f11,f12,f13,n,lt⟩:=h;refine⟨?_,?_,?_,?_,?_,?_,?_,?_,?_,?_,?_,?_,?_,?_,?_,?_,?_,?_,?_,?_,?_,?_,?_,?_,?_,?_,?_,?_,fun j hj=>by have h1:=n j hj;have h2:j≠6:=(by omega);simp[go_sem,h1,h2],by simp[World.setCell];exact lt⟩<;>simp[go_sem,c0,c1,c2,c3,c4,c5,c6,c7,c8,c9,c10,c11,c12,c13,f0,f1,f2,f3,f4,f5,f6,f7,f8,f9,f10,f11,f12,f13]
theorem PcB.set_gua{w:World}{g:Nat}{c:Pc.PC}{vs:Fin 6→Value}(h:PcB w g c vs)(x:Int):PcB (w.setCell ⟨g,13,none⟩ (.int .i64 x)) g { c with gua:=x } vs:=by
 obtain⟨c0,c1,c2,c3,c4,c5,c6,c7,c8,c9,c10,c11,c12,c13,f0,f1,f2,f3,f4,f5,f6,f7,f8,f9,f10,f11,f12,f13,n,lt⟩:=h;refine⟨?_,?_,?_,?_,?_,?_,?_,?_,?_,?_,?_,?_,?_,?_,?_,?_,?_,?_,?_,?_,?_,?_,?_,?_,?_,?_,?_,?_,fun j hj=>by have h1:=n j hj;have h2:j≠13:=(by omega);simp[go_sem,h1,h2],by simp[World.setCell];exact lt⟩<;>simp[go_sem,c0,c1,c2,c3,c4,c5,c6,c7,c8,c9,c10,c11,c12,c13,f0,f1,f2,f3,f4,f5,f6,f7,f8,f9,f10,f11,f12,f13]
def qO(vs:Fin 6→Value)(i:Fin 6)(v:Value):Fin 6→Value:=fun j=>if j=i then v else vs j
theorem PcB.row0{w:World}{g:Nat}{c:Pc.PC}{vs:Fin 6→Value}(h:PcB w g c vs)(v:Value):PcB (w.setCell ⟨g,7,none⟩ v) g c (qO vs 0 v):=by
 obtain⟨c0,c1,c2,c3,c4,c5,c6,c7,c8,c9,c10,c11,c12,c13,f0,f1,f2,f3,f4,f5,f6,f7,f8,f9,f10,f11,f12,f13,n,lt⟩:=h;refine⟨?_,?_,?_,?_,?_,?_,?_,?_,?_,?_,?_,?_,?_,?_,?_,?_,?_,?_,?_,?_,?_,?_,?_,?_,?_,?_,?_,?_,fun j hj=>by have h1:=n j hj;have h2:j≠7:=(by omega);simp[go_sem,h1,h2],by simp[World.setCell];exact lt⟩<;>simp[go_sem,qO,c0,c1,c2,c3,c4,c5,c6,c7,c8,c9,c10,c11,c12,c13,f0,f1,f2,f3,f4,f5,f6,f7,f8,f9,f10,f11,f12,f13]
theorem PcB.row1{w:World}{g:Nat}{c:Pc.PC}{vs:Fin 6→Value}(h:PcB w g c vs)(v:Value):PcB (w.setCell ⟨g,8,none⟩ v) g c (qO vs 1 v):=by
 obtain⟨c0,c1,c2,c3,c4,c5,c6,c7,c8,c9,c10,c11,c12,c13,f0,f1,f2,f3,f4,f5,f6,f7,f8,f9,f10,f11,f12,f13,n,lt⟩:=h;refine⟨?_,?_,?_,?_,?_,?_,?_,?_,?_,?_,?_,?_,?_,?_,?_,?_,?_,?_,?_,?_,?_,?_,?_,?_,?_,?_,?_,?_,fun j hj=>by have h1:=n j hj;have h2:j≠8:=(by omega);simp[go_sem,h1,h2],by simp[World.setCell];exact lt⟩<;>simp[go_sem,qO,c0,c1,c2,c3,c4,c5,c6,c7,c8,c9,c10,c11,c12,c13,f0,f1,f2,f3,f4,f5,f6,f7,f8,f9,f10,f11,f12,f13]
theorem PcB.row2{w:World}{g:Nat}{c:Pc.PC}{vs:Fin 6→Value}(h:PcB w g c vs)(v:Value):PcB (w.setCell ⟨g,9,none⟩ v) g c (qO vs 2 v):=by
 obtain⟨c0,c1,c2,c3,c4,c5,c6,c7,c8,c9,c10,c11,c12,c13,f0,f1,f2,f3,f4,f5,f6,f7,f8,f9,f10,f11,f12,f13,n,lt⟩:=h;refine⟨?_,?_,?_,?_,?_,?_,?_,?_,?_,?_,?_,?_,?_,?_,?_,?_,?_,?_,?_,?_,?_,?_,?_,?_,?_,?_,?_,?_,fun j hj=>by have h1:=n j hj;have h2:j≠9:=(by omega);simp[go_sem,h1,h2],by simp[World.setCell];exact lt⟩<;>simp[go_sem,qO,c0,c1,c2,c3,c4,c5,c6,c7,c8,c9,c10,c11,c12,c13,f0,f1,f2,f3,f4,f5,f6,f7,f8,f9,f10,f11,f12,f13]
theorem PcB.row3{w:World}{g:Nat}{c:Pc.PC}{vs:Fin 6→Value}(h:PcB w g c vs)(v:Value):PcB (w.setCell ⟨g,10,none⟩ v) g c (qO vs 3 v):=by
 obtain⟨c0,c1,c2,c3,c4,c5,c6,c7,c8,c9,c10,c11,c12,c13,f0,f1,f2,f3,f4,f5,f6,f7,f8,f9,f10,f11,f12,f13,n,lt⟩:=h;refine⟨?_,?_,?_,?_,?_,?_,?_,?_,?_,?_,?_,?_,?_,?_,?_,?_,?_,?_,?_,?_,?_,?_,?_,?_,?_,?_,?_,?_,fun j hj=>by have h1:=n j hj;have h2:j≠10:=(by omega);simp[go_sem,h1,h2],by simp[World.setCell];exact lt⟩<;>simp[go_sem,qO,c0,c1,c2,c3,c4,c5,c6,c7,c8,c9,c10,c11,c12,c13,f0,f1,f2,f3,f4,f5,f6,f7,f8,f9,f10,f11,f12,f13]
theorem PcB.row4{w:World}{g:Nat}{c:Pc.PC}{vs:Fin 6→Value}(h:PcB w g c vs)(v:Value):PcB (w.setCell ⟨g,11,none⟩ v) g c (qO vs 4 v):=by
 obtain⟨c0,c1,c2,c3,c4,c5,c6,c7,c8,c9,c10,c11,c12,c13,f0,f1,f2,f3,f4,f5,f6,f7,f8,f9,f10,f11,f12,f13,n,lt⟩:=h;refine⟨?_,?_,?_,?_,?_,?_,?_,?_,?_,?_,?_,?_,?_,?_,?_,?_,?_,?_,?_,?_,?_,?_,?_,?_,?_,?_,?_,?_,fun j hj=>by have h1:=n j hj;have h2:j≠11:=(by omega);simp[go_sem,h1,h2],by simp[World.setCell];exact lt⟩<;>simp[go_sem,qO,c0,c1,c2,c3,c4,c5,c6,c7,c8,c9,c10,c11,c12,c13,f0,f1,f2,f3,f4,f5,f6,f7,f8,f9,f10,f11,f12,f13]
theorem PcB.row5{w:World}{g:Nat}{c:Pc.PC}{vs:Fin 6→Value}(h:PcB w g c vs)(v:Value):PcB (w.setCell ⟨g,12,none⟩ v) g c (qO vs 5 v):=by
 obtain⟨c0,c1,c2,c3,c4,c5,c6,c7,c8,c9,c10,c11,c12,c13,f0,f1,f2,f3,f4,f5,f6,f7,f8,f9,f10,f11,f12,f13,n,lt⟩:=h;refine⟨?_,?_,?_,?_,?_,?_,?_,?_,?_,?_,?_,?_,?_,?_,?_,?_,?_,?_,?_,?_,?_,?_,?_,?_,?_,?_,?_,?_,fun j hj=>by have h1:=n j hj;have h2:j≠12:=(by omega);simp[go_sem,h1,h2],by simp[World.setCell];exact lt⟩<;>simp[go_sem,qO,c0,c1,c2,c3,c4,c5,c6,c7,c8,c9,c10,c11,c12,c13,f0,f1,f2,f3,f4,f5,f6,f7,f8,f9,f10,f11,f12,f13]
structure SnB (w:World) (g:Nat) (c:Pc.PC):Prop where
 s:∀i,i < 7→w.cell? ⟨g,i,none⟩=some (.bool (c.seen i))
 f:∀i,i < 7→w.frozen? ⟨g,i,none⟩=false
 n:∀i,7≤i→w.cell? ⟨g,i,none⟩=none
 lt:g < w.heap.size
theorem SnB.of_block{w w':World}{g:Nat}{c:Pc.PC}(h:SnB w g c)(e:w'.heap[g]?=w.heap[g]?)(hl:w.heap.size≤w'.heap.size):SnB w' g c :=
 ⟨fun i hi=>by rw[World.cell?_of_block (a:=⟨g,i,none⟩) e];exact h.s i hi,fun i hi=>by rw[World.frozen?_of_block (a:=⟨g,i,none⟩) e];exact h.f i hi,fun i hi=>by rw[World.cell?_of_block (a:=⟨g,i,none⟩) e];exact h.n i hi,by have:=h.lt;omega⟩
theorem SnB.same{w:World}{g:Nat}{c d:Pc.PC}(h:SnB w g c)(e:d.seen=c.seen):SnB w g d:=⟨fun i hi=>by rw[e];exact h.s i hi,h.f,h.n,h.lt⟩
theorem SnB.set{w:World}{g:Nat}{c:Pc.PC}(h:SnB w g c)(i:Nat)(hi:i < 7):SnB (w.setCell ⟨g,i,none⟩ (.bool true)) g (Pc.setSeen c i):=by
 refine⟨fun j hj=>?_,fun j hj=>?_,fun j hj=>(by have h1:=h.n j hj;have h2:j≠i:=(by omega);simp[go_sem,h1,h2]),by simp[World.setCell];exact h.lt⟩
 ·by_cases e:j=i
  ·subst e;have:=h.s j hj;simp[go_sem,Pc.setSeen,this]
  ·have:=h.s j hj;simp[go_sem,Pc.setSeen,e,this]
   try (rw[if_neg (by omega)];exact this)
 ·have:=h.f j hj;simp[go_sem,this]
theorem zG{w:World}{L:List Tk.T4}{p:Option Addr}{cap cb sb:Nat}{c:Pc.PC}{vs:Fin 6→Value}{t:Tk.T4}{i:Nat}(ht:TkAt w L (.slice p L.length cap))(hi:L[i]?=some t)(hB:PcB w cb c vs)(hvs:∀i,∃q n z,vs i=.slice q n z)(hS:SnB w sb c):∃g O,p=some ⟨g,O,none⟩∧g≠cb∧g≠sb:=by
 obtain⟨g,O,e,c0,c1,c2,c3⟩:=TkAt.get ht hi;refine⟨g,O,e,?_,?_⟩
 ·rintro rfl;obtain⟨k,hk⟩:∃k,O+i * 4+1=k:=⟨_,rfl⟩;rw[hk] at c1
  by_cases h:k < 14
  ·have:k=0∨k=1∨k=2∨k=3∨k=4∨k=5∨k=6∨k=7∨k=8∨k=9∨k=10∨k=11∨k=12∨k=13:=by omega
   rcases this with rfl|rfl|rfl|rfl|rfl|rfl|rfl|rfl|rfl|rfl|rfl|rfl|rfl|rfl
   ·rw[hB.c0] at c1;cases c1
   ·rw[hB.c1] at c1;cases c1
   ·rw[hB.c2] at c1;cases c1
   ·rw[hB.c3] at c1;cases c1
   ·rw[hB.c4] at c1;cases c1
   ·rw[hB.c5] at c1;cases c1
   ·rw[hB.c6] at c1;cases c1
   ·obtain⟨q,n,z,ez⟩:=hvs 0;rw[hB.c7,ez] at c1;cases c1
   ·obtain⟨q,n,z,ez⟩:=hvs 1;rw[hB.c8,ez] at c1;cases c1
   ·obtain⟨q,n,z,ez⟩:=hvs 2;rw[hB.c9,ez] at c1;cases c1
   ·obtain⟨q,n,z,ez⟩:=hvs 3;rw[hB.c10,ez] at c1;cases c1
   ·obtain⟨q,n,z,ez⟩:=hvs 4;rw[hB.c11,ez] at c1;cases c1
   ·obtain⟨q,n,z,ez⟩:=hvs 5;rw[hB.c12,ez] at c1;cases c1
   ·rw[hB.c13] at c1;cases c1
  ·rw[hB.n k (by omega)] at c1;cases c1
 ·rintro rfl;obtain⟨k,hk⟩:∃k,O+i * 4+1=k:=⟨_,rfl⟩;rw[hk] at c1
  by_cases h:k < 7
  ·rw[hS.s k h] at c1;cases c1
  ·rw[hS.n k (by omega)] at c1;cases c1
end Go.Proofs.YtcejjdmnlejbaaaGreatDoor
