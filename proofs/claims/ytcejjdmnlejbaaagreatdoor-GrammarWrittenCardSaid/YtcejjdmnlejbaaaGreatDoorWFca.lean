import Derived.Test.YtcejjdmnlejbaaaGreatDoorWPce
namespace Go.Proofs.YtcejjdmnlejbaaaGreatDoor
set_option linter.unusedVariables false
set_option linter.unusedSimpArgs false
open Go.ChangeShapes Go.WideShapes Go.ChangeAt Go.RowKit
open Go.Deep (BT)
theorem UD{L:List Tk.T4}{i:Nat}{t:Tk.T4}(h:L[i]?=some t):Pc.tok L i=t.t:=by unfold Pc.tok;rw[h]
theorem Vq{L:List Tk.T4}{i:Nat}(h:¬i < L.length)(k:Int):Pc.kd L i k=false:=by
 unfold Pc.kd;rw[decide_eq_false h,Bool.false_and]
def xn(cb sb k:Nat):Prop:=k=cb∨k=sb
theorem PcB.seen{w:World}{g:Nat}{c:Pc.PC}{vs:Fin 6→Value}(h:PcB w g c vs)(i:Nat):PcB w g (Pc.setSeen c i) vs :=
 ⟨h.c0,h.c1,h.c2,h.c3,h.c4,h.c5,h.c6,h.c7,h.c8,h.c9,h.c10,h.c11,h.c12,h.c13,h.f0,h.f1,h.f2,h.f3,h.f4,h.f5,h.f6,h.f7,h.f8,h.f9,h.f10,h.f11,h.f12,h.f13,h.n,h.lt⟩
structure Six where
 cs:List Cn
 rs:List Ru
 os:List Co
 cr:List Ch
 ls:List Li
 fs:List Of
def j4(r:Cn):List Value:=[.string r.name,.int .i64 r.a.op,.int .i64 r.a.num,.string r.a.name,.slice r.a.ptr (len r.k) r.a.cap]
def jd(r:Cn):Ch:=⟨r.b,r.o,r.a,r.k⟩
def kH(a:Li):List Value:=[.string a.name,.string a.meas,.int .i64 a.most,.int .i64 a.days]
def kF(a:Of):List Value:=[.string a.name,.int .i64 a.count,.int .i64 a.days]
def yf(vs:Fin 6→Value)(D:Six):Fin 6→Rw
 | 0=>⟨85,5,vs 0,D.cs.length,D.cs.flatMap j4,D.cs.map jd⟩
 | 1=>⟨87,6,vs 1,D.rs.length,D.rs.flatMap zV,D.rs.map j7⟩
 | 2=>⟨89,5,vs 2,D.os.length,D.os.flatMap j3,D.os.map jc⟩
 | 3=>⟨24,4,vs 3,D.cr.length,D.cr.flatMap xp,D.cr⟩
 | 4=>⟨91,4,vs 4,D.ls.length,D.ls.flatMap kH,[]⟩
 | 5=>⟨93,3,vs 5,D.fs.length,D.fs.flatMap kF,[]⟩
structure SixOk (D:Six):Prop where
 cs:∀x∈ D.cs,yN x.a x.k∧x.name.size≤9223372036854775807
 rs:∀x∈ D.rs,yN x.a x.k∧Bd x.sc∧x.name.size≤9223372036854775807
 os:∀x∈ D.os,yN x.a x.k∧Bd x.sc
 cr:∀x∈ D.cr,yN x.a x.k
 ls:∀x∈ D.ls,Bd x.most∧Bd x.days∧x.name.size≤9223372036854775807∧x.meas.size≤9223372036854775807
 fs:∀x∈ D.fs,Bd x.count∧Bd x.days∧x.name.size≤9223372036854775807
theorem UY{n:Nat}{T:Fo}{B:Nat}(h:∀r,r < n→Pz.FNe r T B):FoAv (fun g=>n≤g) T B:=by
 induction T generalizing B with
 | nil=>trivial
 | node b o a k r ihk ihr =>
   refine⟨?_,ihk fun r hr=>(h r hr).2.1,ihr fun r hr=>(h r hr).2.2⟩;rcases Nat.lt_or_ge B n with q|q
   ·exact absurd rfl (h B q).1
   ·exact q
theorem UL(vs:Fin 6→Value)(D:Six)(v:Value)(x:Cn):yy (yf vs D) 0 ⟨85,5,v,D.cs.length+1,D.cs.flatMap j4++j4 x,D.cs.map jd++[jd x]⟩=yf (qU vs 0 v) { D with cs:=D.cs++[x] }:=by
 funext j
 match j with
 | 0=>simp[yy,yf,qU]
 | 1=>simp[yy,yf,qU]
 | 2=>simp[yy,yf,qU]
 | 3=>simp[yy,yf,qU]
 | 4=>simp[yy,yf,qU]
 | 5=>simp[yy,yf,qU]
theorem UK(vs:Fin 6→Value)(D:Six)(v:Value)(x:Ru):yy (yf vs D) 1 ⟨87,6,v,D.rs.length+1,D.rs.flatMap zV++zV x,D.rs.map j7++[j7 x]⟩=yf (qU vs 1 v) { D with rs:=D.rs++[x] }:=by
 funext j
 match j with
 | 0=>simp[yy,yf,qU]
 | 1=>simp[yy,yf,qU]
 | 2=>simp[yy,yf,qU]
 | 3=>simp[yy,yf,qU]
 | 4=>simp[yy,yf,qU]
 | 5=>simp[yy,yf,qU]
theorem UJ(vs:Fin 6→Value)(D:Six)(v:Value)(x:Co):yy (yf vs D) 2 ⟨89,5,v,D.os.length+1,D.os.flatMap j3++j3 x,D.os.map jc++[jc x]⟩=yf (qU vs 2 v) { D with os:=D.os++[x] }:=by
 funext j
 match j with
 | 0=>simp[yy,yf,qU]
 | 1=>simp[yy,yf,qU]
 | 2=>simp[yy,yf,qU]
 | 3=>simp[yy,yf,qU]
 | 4=>simp[yy,yf,qU]
 | 5=>simp[yy,yf,qU]
theorem UI(vs:Fin 6→Value)(D:Six)(v:Value)(x:Ch):yy (yf vs D) 3 ⟨24,4,v,D.cr.length+1,D.cr.flatMap xp++xp x,D.cr++[x]⟩=yf (qU vs 3 v) { D with cr:=D.cr++[x] }:=by
 funext j
 match j with
 | 0=>simp[yy,yf,qU]
 | 1=>simp[yy,yf,qU]
 | 2=>simp[yy,yf,qU]
 | 3=>simp[yy,yf,qU]
 | 4=>simp[yy,yf,qU]
 | 5=>simp[yy,yf,qU]
theorem UH(vs:Fin 6→Value)(D:Six)(v:Value)(x:Li):yy (yf vs D) 4 ⟨91,4,v,D.ls.length+1,D.ls.flatMap kH++kH x,[]++[]⟩=yf (qU vs 4 v) { D with ls:=D.ls++[x] }:=by
 funext j
 match j with
 | 0=>simp[yy,yf,qU]
 | 1=>simp[yy,yf,qU]
 | 2=>simp[yy,yf,qU]
 | 3=>simp[yy,yf,qU]
 | 4=>simp[yy,yf,qU]
 | 5=>simp[yy,yf,qU]
theorem UG(vs:Fin 6→Value)(D:Six)(v:Value)(x:Of):yy (yf vs D) 5 ⟨93,3,v,D.fs.length+1,D.fs.flatMap kF++kF x,[]++[]⟩=yf (qU vs 5 v) { D with fs:=D.fs++[x] }:=by
 funext j
 match j with
 | 0=>simp[yy,yf,qU]
 | 1=>simp[yy,yf,qU]
 | 2=>simp[yy,yf,qU]
 | 3=>simp[yy,yf,qU]
 | 4=>simp[yy,yf,qU]
 | 5=>simp[yy,yf,qU]
theorem PcB.like{w:World}{g:Nat}{c d:Pc.PC}{vs:Fin 6→Value}(h:PcB w g c vs)(e0:d.rep=c.rep)(e1:d.rel=c.rel)(e2:d.con=c.con)(e3:d.sit=c.sit)(e4:d.lay=c.lay)(e5:d.nf=c.nf)(e6:d.nt=c.nt)(e7:d.gua=c.gua):PcB w g d vs :=
 ⟨by rw[e0];exact h.c0,by rw[e1];exact h.c1,by rw[e2];exact h.c2,by rw[e3];exact h.c3,by rw[e4];exact h.c4,by rw[e5];exact h.c5,by rw[e6];exact h.c6,h.c7,h.c8,h.c9,h.c10,h.c11,h.c12,by rw[e7];exact h.c13,h.f0,h.f1,h.f2,h.f3,h.f4,h.f5,h.f6,h.f7,h.f8,h.f9,h.f10,h.f11,h.f12,h.f13,h.n,h.lt⟩
open Go.RowKit
namespace Pc
def Shp(c:PC)(L:List Tk.T4)(r:PC× Int):Prop:=r.1=c∨(∃i,r.1=setField (setSeen c i) i L)∨
    ∃cs rs os cr ls fs,r.1={ c with cs:=cs,rs:=rs,os:=os,cr:=cr,ls:=ls,fs:=fs }∧cs.length+rs.length+os.length+cr.length+ls.length+fs.length=c.cs.length+c.rs.length+c.os.length+c.cr.length+c.ls.length+c.fs.length+1
theorem shp_ite{c:PC}{L:List Tk.T4}{p:Prop} [Decidable p]{a b:PC× Int}(ha:Shp c L a)(hb:Shp c L b):Shp c L (if p then a else b):=by
 by_cases h:p
 ·rw[if_pos h];exact ha
 ·rw[if_neg h];exact hb
theorem shp_ex{c:PC}{L M:List Tk.T4}{f:Ch→PC}(h:∃cs rs os cr ls fs,f (tree M)={ c with cs:=cs,rs:=rs,os:=os,cr:=cr,ls:=ls,fs:=fs }∧cs.length+rs.length+os.length+cr.length+ls.length+fs.length=c.cs.length+c.rs.length+c.os.length+c.cr.length+c.ls.length+c.fs.length+1):Shp c L (ifEx c M f):=by
 unfold ifEx;exact shp_ite (.inl rfl) (.inr (.inr h))
theorem shp_field(c:PC)(L:List Tk.T4)(i:Nat):Shp c L (fieldT c L i):=by
 unfold fieldT;exact shp_ite (.inl rfl) (shp_ite (.inl rfl) (shp_ite (.inl rfl) (.inr (.inl ⟨_,rfl⟩))))
theorem declT_shape(c:PC)(L:List Tk.T4):Shp c L (declT c L):=by
 unfold declT;refine shp_ite (.inl rfl) ?_;cases fieldsL.findIdx? (fun s=>decide (s=(tok L 0).text)) with
 | some i=>exact shp_field c L i
 | none =>
   refine shp_ite (shp_ex ⟨_,c.rs,c.os,c.cr,c.ls,c.fs,rfl,?_⟩) (shp_ite (shp_ex ⟨c.cs,_,c.os,c.cr,c.ls,c.fs,rfl,?_⟩) (shp_ite (shp_ex ⟨c.cs,c.rs,_,c.cr,c.ls,c.fs,rfl,?_⟩) (shp_ite (shp_ex ⟨c.cs,c.rs,c.os,_,c.ls,c.fs,rfl,?_⟩) (shp_ite (shp_ite (.inr (.inr ⟨c.cs,c.rs,c.os,c.cr,_,c.fs,rfl,?_⟩)) (.inl rfl)) (shp_ite (.inr (.inr ⟨c.cs,c.rs,c.os,c.cr,c.ls,_,rfl,?_⟩)) (.inl rfl))))))
   all_goals (simp only[List.length_append,List.length_singleton];omega)
def cnt(c:PC):Nat:=c.cs.length+c.rs.length+c.os.length+c.cr.length+c.ls.length+c.fs.length
theorem cnt_field(c:PC)(i:Nat)(L:List Tk.T4):cnt (setField (setSeen c i) i L)=cnt c:=by
 unfold setField setSeen cnt
 split<;>rfl
theorem declT_cnt(c:PC)(L:List Tk.T4):cnt (declT c L).1≤cnt c+1:=by
 rcases declT_shape c L with h|⟨i,h⟩|⟨cs,rs,os,cr,ls,fs,h,hl⟩
 ·rw[h];omega
 ·rw[h,cnt_field];omega
 ·rw[h];unfold cnt;dsimp only;omega
theorem tok_num{L:List Tk.T4}(hV:∀t∈ L,VT t.t)(i:Nat):0≤(tok L i).num∧(tok L i).num≤1099511627776:=by
 unfold tok;cases h:L[i]? with
 | none=>exact⟨by show(0:Int)≤0;omega,by show(0:Int)≤_;omega⟩
 | some t =>
   have q:=hV t (List.mem_of_getElem? h)
   show 0≤t.t.num∧t.t.num≤_
   rcases q with q|q|q|q<;>omega
theorem tok_bd{L:List Tk.T4}(hV:∀t∈ L,VT t.t)(i:Nat):Bd (tok L i).num:=by
 have:=tok_num hV i;unfold Bd;omega
def NumB(c:PC):Prop:=Bd c.rep∧Bd c.rel∧Bd c.con∧Bd c.sit∧Bd c.lay∧Bd c.nf∧Bd c.nt∧Bd c.gua
theorem numb_field{c:PC}{L:List Tk.T4}(hV:∀t∈ L,VT t.t)(h:NumB c)(i:Nat):NumB (setField (setSeen c i) i L):=by
 obtain⟨h0,h1,h2,h3,h4,h5,h6,h7⟩:=h;have q1:=tok_bd hV 1;have q3:=tok_bd hV 3;unfold setField setSeen NumB
 split<;>exact⟨by assumption,by assumption,by assumption,by assumption,by assumption,by assumption,by assumption,by assumption⟩
theorem declT_numb{c:PC}{L:List Tk.T4}(hV:∀t∈ L,VT t.t)(h:NumB c):NumB (declT c L).1:=by
 rcases declT_shape c L with q|⟨i,q⟩|⟨cs,rs,os,cr,ls,fs,q,-⟩
 ·rw[q];exact h
 ·rw[q];exact numb_field hV h i
 ·rw[q];exact h
theorem numb0:NumB pc0:=by
 unfold NumB pc0 Bd;dsimp only;omega
end Pc
def PhP(w:World)(B O:Nat)(c:Ch):Prop:=(w.cell? ⟨B,O,none⟩=some (.int .i64 c.a.op)∧w.cell? ⟨B,O+1,none⟩=some (.int .i64 c.a.num)∧w.cell? ⟨B,O+2,none⟩=some (.string c.a.name)∧w.cell? ⟨B,O+3,none⟩=some (.slice c.a.ptr (len c.k) c.a.cap))∧ExAt w c.b c.o c.a c.k
theorem Jb{w:World}(L:List Ch)(B O:Nat)(h:∀(i:Nat)(x:Ch),L[i]?=some x→PhP w B (O+i * 4) x):FoAt w (qC L) B O:=by
 induction L generalizing O with
 | nil=>trivial
 | cons c l ih =>
   have h0:=h 0 c rfl;simp only[Nat.zero_mul,Nat.add_zero] at h0;refine⟨h0.1,h0.2.1,h0.2.2,ih (O+4) fun i x hi=>?_⟩;have:=h (i+1) x (by simpa using hi);rw[show O+(i+1) * 4=O+4+i * 4 by omega] at this;exact this
theorem Ja(L:List Ch)(h:∀y∈ L,yN y.a y.k):je (qC L):=by
 induction L with
 | nil=>trivial
 | cons c l ih=>exact⟨(h c (by simp)).1,(h c (by simp)).2,ih fun y hy=>h y (by simp[hy])⟩
theorem Vm{w:World}{L:List Ch}{p:Option Addr}(h:RowV PhP 4 w L p)(hok:∀y∈ L,yN y.a y.k):CrV w (qC L) p:=by
 obtain⟨h0,B,O,h1,h2⟩:=h;refine⟨by rw[ql];exact h0,Ja L hok,B,O,fun q=>h1 (by rintro rfl;exact q rfl),Jb L B O h2⟩
theorem vi{α β:Type}(f:α→β)(L:List α):L.map f=L.flatMap (fun x=>[f x]):=by
 induction L with
 | nil=>rfl
 | cons a l ih=>rw[List.map_cons,List.flatMap_cons,ih];rfl
theorem Ym{α β:Type}(L:List α):([]:List β)=L.flatMap (fun _=>[]):=by
 induction L with
 | nil=>rfl
 | cons a l ih=>rw[List.flatMap_cons,← ih];rfl
def us(c:Pc.PC)(D:Six):Ct:=⟨c.rep,c.rel,c.con,c.sit,c.lay,c.nf,c.nt,c.gua,D.cs,D.rs,D.os,qC D.cr,D.ls,D.fs⟩
theorem Kn{w:World}{X:Nat→Prop}{bs:Nat}{vs:Fin 6→Value}{c:Pc.PC}{D:Six}(h:RwF w X bs (yf vs D))(hok:SixOk D)(hb:Pc.NumB c)
 (hl:D.cs.length≤100000∧D.rs.length≤100000∧D.os.length≤100000∧D.cr.length≤100000∧D.ls.length≤100000∧D.fs.length≤100000) :
 ∃p:Cp,vs 0=.slice p.cs D.cs.length p.ccs∧vs 1=.slice p.rs D.rs.length p.crs∧vs 2=.slice p.os D.os.length p.cos∧vs 3=.slice p.cr D.cr.length p.ccr∧vs 4=.slice p.ls D.ls.length p.cls∧vs 5=.slice p.fs D.fs.length p.cfs∧CtV w (us c D) p:=by
 obtain⟨l0,l1,l2,l3,l4,l5⟩:=hl;obtain⟨p0,k0,v0,r0⟩:=h.row (tr:=fun x=>[jd x]) 0 D.cs 5 (fun r=>rfl) rfl rfl rfl (vi _ _) CnP (fun B O r hr hc hx=>⟨hc 0 _ rfl,⟨⟨hc 1 _ rfl,hc 2 _ rfl,hc 3 _ rfl,hc 4 _ rfl⟩,hx _ (List.mem_singleton.2 rfl),(hok.cs r hr).1⟩,(hok.cs r hr).2⟩) (by omega);obtain⟨p1,k1,v1,r1⟩:=h.row (tr:=fun x=>[j7 x]) 1 D.rs 6 (fun r=>rfl) rfl rfl rfl (vi _ _) RuP (fun B O r hr hc hx=>⟨hc 0 _ rfl,hc 1 _ rfl,⟨⟨hc 2 _ rfl,hc 3 _ rfl,hc 4 _ rfl,hc 5 _ rfl⟩,hx _ (List.mem_singleton.2 rfl),(hok.rs r hr).1⟩,(hok.rs r hr).2.1,(hok.rs r hr).2.2⟩) (by omega);obtain⟨p2,k2,v2,r2⟩:=h.row (tr:=fun x=>[jc x]) 2 D.os 5 (fun r=>rfl) rfl rfl rfl (vi _ _) CoP (fun B O r hr hc hx=>⟨hc 0 _ rfl,⟨⟨hc 1 _ rfl,hc 2 _ rfl,hc 3 _ rfl,hc 4 _ rfl⟩,hx _ (List.mem_singleton.2 rfl),(hok.os r hr).1⟩,(hok.os r hr).2⟩) (by omega);obtain⟨p3,k3,v3,r3⟩:=h.row (tr:=fun x=>[x]) 3 D.cr 4 (fun r=>rfl) rfl rfl rfl (by show D.cr=_;rw[← vi (fun x=>x),List.map_id']) PhP (fun B O r hr hc hx=>⟨⟨hc 0 _ rfl,hc 1 _ rfl,hc 2 _ rfl,hc 3 _ rfl⟩,hx _ (List.mem_singleton.2 rfl)⟩) (by omega);obtain⟨p4,k4,v4,r4⟩:=h.row (tr:=fun _=>[]) 4 D.ls 4 (fun r=>rfl) rfl rfl rfl (Ym _) LiP (fun B O r hr hc hx=>⟨hc 0 _ rfl,hc 1 _ rfl,hc 2 _ rfl,hc 3 _ rfl,hok.ls r hr⟩) (by omega);obtain⟨p5,k5,v5,r5⟩:=h.row (tr:=fun _=>[]) 5 D.fs 3 (fun r=>rfl) rfl rfl rfl (Ym _) OfP (fun B O r hr hc hx=>⟨hc 0 _ rfl,hc 1 _ rfl,hc 2 _ rfl,hok.fs r hr⟩) (by omega)
 have cap:D.cs.length≤k0:=by
  rcases(h.ow 0).2 with ⟨hv,h0⟩|⟨g,cap,cur,hv,hb,hg,hnc,q⟩
  ·have e:D.cs.length=0:=h0;omega
  ·have e:=v0.symm.trans hv;injection e with e1 e2 e3
   rw[e3];exact hnc
 exact⟨⟨p0,p1,p2,p3,p4,p5,k0,k1,k2,k3,k4,k5⟩,v0,v1,v2,v3,v4,v5,⟨r0,r1,r2,Vm r3 hok.cr,r4,r5,hb,cap⟩⟩
def Pc.readT(s:ByteArray):Pc.PC× Int× Int:=if (Ln.lines s).2≠0 then (Pc.pc0,0,(Ln.lines s).2) else Pc.linesT Pc.pc0 0 (Ln.lines s).1
def Pc.pcz:Pc.PC:=⟨0,0,0,0,0,0,0,0,fun _=>false,[],[],[],[],[],[]⟩
def yv:Fo→List Ch
 | .nil=>[]
 | .node b o a k r=>⟨b,o,a,k⟩ :: yv r
theorem yK(T:Fo):(yv T).length=len T:=by
 induction T with
 | nil=>rfl
 | node b o a k r _ ih=>simp only[yv,List.length_cons,ih,len]
structure SmC (c d:Ct):Prop where
 n0:d.rep=c.rep
 n1:d.rel=c.rel
 n2:d.con=c.con
 n3:d.sit=c.sit
 n4:d.lay=c.lay
 n5:d.nf=c.nf
 n6:d.nt=c.nt
 n7:d.gua=c.gua
 cs:d.cs.map (fun x=>(x.name,Pz.nr ⟨x.b,x.o,x.a,x.k⟩))=c.cs.map (fun x=>(x.name,Pz.nr ⟨x.b,x.o,x.a,x.k⟩))
 rs:d.rs.map (fun x=>(x.sc,x.name,Pz.nr ⟨x.b,x.o,x.a,x.k⟩))=c.rs.map (fun x=>(x.sc,x.name,Pz.nr ⟨x.b,x.o,x.a,x.k⟩))
 os:d.os.map (fun x=>(x.sc,Pz.nr ⟨x.b,x.o,x.a,x.k⟩))=c.os.map (fun x=>(x.sc,Pz.nr ⟨x.b,x.o,x.a,x.k⟩))
 cr:(yv d.cr).map Pz.nr=(yv c.cr).map Pz.nr
 ls:d.ls=c.ls
 fs:d.fs=c.fs
theorem kG{α β:Type}{f:α→β}{L M:List α}(h:M.map f=L.map f){j:Nat}{x:α}(hx:L[j]?=some x):∃y,M[j]?=some y∧f y=f x:=by
 have q:(M.map f)[j]?=(L.map f)[j]?:=by rw[h]
 rw[List.getElem?_map,List.getElem?_map,hx] at q;cases hm:M[j]? with
 | none=>rw[hm] at q;cases q
 | some y=>rw[hm] at q;exact⟨y,rfl,Option.some.inj q⟩
theorem zR{α β:Type}{f:α→β}{L M:List α}(h:M.map f=L.map f):M.length=L.length:=by
 have:=congrArg List.length h
 simpa using this
theorem ui{α β:Type}{f:α→β}{L M:List α}(h:M.map f=L.map f){j:Nat}(hx:L[j]?=none):M[j]?=none:=by
 rw[List.getElem?_eq_none_iff] at hx ⊢;rw[zR h];exact hx
theorem kS{a a':Nd}{k k':Fo}{b o b' o':Nat}(h:Pz.nr ⟨b',o',a',k'⟩=Pz.nr ⟨b,o,a,k⟩):qQ a' k'=qQ a k:=by
 have h1:=Pz.val_nr ⟨b',o',a',k'⟩;have h2:=Pz.val_nr ⟨b,o,a,k⟩;rw[h] at h1;exact h1.symm.trans h2
theorem uL{α β γ:Type}{f:α→β}(g:β→γ){L M:List α}(h:M.map f=L.map f)(j:Nat):(M.take j).map (fun x=>g (f x))=(L.take j).map (fun x=>g (f x)):=by
 have e:∀N:List α,(N.take j).map (fun x=>g (f x))=((N.map f).take j).map g:=fun N=>by rw[← List.map_take,List.map_map];rfl
 rw[e,e,h]
theorem QN{c d:List Cn}(h:d.map (fun x=>(x.name,Pz.nr ⟨x.b,x.o,x.a,x.k⟩))=c.map (fun x=>(x.name,Pz.nr ⟨x.b,x.o,x.a,x.k⟩))):ze d=ze c:=by
 funext j
 unfold ze;cases hx:c[j]? with
 | none=>rw[ui h hx]
 | some x =>
   obtain⟨y,hy,e⟩:=kG h hx;rw[hy];dsimp only;have e1:y.name=x.name:=congrArg Prod.fst e;have e2:=uL (fun z:ByteArray× Ch=>z.1) h j;dsimp only at e2;rw[e1,e2,kS (congrArg Prod.snd e)]
theorem Qp{c d:List Ru}(h:d.map (fun x=>(x.sc,x.name,Pz.nr ⟨x.b,x.o,x.a,x.k⟩))=c.map (fun x=>(x.sc,x.name,Pz.nr ⟨x.b,x.o,x.a,x.k⟩))):yT d=yT c:=by
 funext j
 unfold yT;cases hx:c[j]? with
 | none=>rw[ui h hx]
 | some x =>
   obtain⟨y,hy,e⟩:=kG h hx;rw[hy];dsimp only;have e0:y.sc=x.sc:=congrArg Prod.fst e;have e1:y.name=x.name:=congrArg (fun z=>z.2.1) e;have e2:=uL (fun z:Int× ByteArray× Ch=>(z.1,z.2.1)) h j;dsimp only at e2;rw[e0,e1,e2,kS (congrArg (fun z=>z.2.2) e)]
theorem QM{c d:List Co}(h:d.map (fun x=>(x.sc,Pz.nr ⟨x.b,x.o,x.a,x.k⟩))=c.map (fun x=>(x.sc,Pz.nr ⟨x.b,x.o,x.a,x.k⟩))):zI d=zI c:=by
 funext j
 unfold zI;cases hx:c[j]? with
 | none=>rw[ui h hx]
 | some x =>
   obtain⟨y,hy,e⟩:=kG h hx;rw[hy];dsimp only;have e0:y.sc=x.sc:=congrArg Prod.fst e;rw[e0,kS (congrArg Prod.snd e)]
theorem Jh(T S:Fo)(h:(yv S).map Pz.nr=(yv T).map Pz.nr):kx S=kx T:=by
 induction T generalizing S with
 | nil=>cases S with
   | nil=>rfl
   | node b o a k r=>simp[yv] at h
 | node b o a k r _ ih=>cases S with
   | nil=>simp[yv] at h
   | node b' o' a' k' r' =>
     simp only[yv,List.map_cons,List.cons.injEq] at h;simp only[kx];rw[kS h.1,ih r' h.2]
theorem uO{c d:Ct}(h:SmC c d):yj d=yj c:=by
 obtain⟨n0,n1,n2,n3,n4,n5,n6,n7,ecs,ers,eos,ecr,els,efs⟩:=h;have l0:d.cs.length=c.cs.length:=zR ecs;have l1:d.rs.length=c.rs.length:=zR ers;have l2:d.os.length=c.os.length:=zR eos;have l3:len d.cr=len c.cr:=by rw[← yK,← yK];exact zR ecr
 unfold yj uc jB Kp JC Ko uT Vp Vo;rw[n0,n1,n2,n3,n4,n5,n6,n7,QN ecs,Qp ers,QM eos,Jh _ _ ecr,l0,l1,l2,l3,els,efs]
theorem uM(l:List Ch):yv (qC l)=l:=by
 induction l with
 | nil=>rfl
 | cons c l ih=>show _ :: yv (qC l)=_;rw[ih]
structure SixE (c:Pc.PC) (D:Six):Prop where
 cs:D.cs.map (fun x=>(x.name,Pz.nr (jd x)))=c.cs
 rs:D.rs.map (fun x=>(x.sc,x.name,Pz.nr (j7 x)))=c.rs
 os:D.os.map (fun x=>(x.sc,Pz.nr (jc x)))=c.os
 cr:D.cr.map Pz.nr=c.cr
 ls:D.ls=c.ls
 fs:D.fs=c.fs
theorem SixE.smc{c:Pc.PC}{D E:Six}(h:SixE c D)(h2:SixE c E):SmC (us c D) (us c E) :=
 ⟨rfl,rfl,rfl,rfl,rfl,rfl,rfl,rfl,h2.cs.trans h.cs.symm,h2.rs.trans h.rs.symm,h2.os.trans h.os.symm,by show(yv (qC E.cr)).map Pz.nr=(yv (qC D.cr)).map Pz.nr;rw[uM,uM];exact h2.cr.trans h.cr.symm,h2.ls.trans h.ls.symm,h2.fs.trans h.fs.symm⟩
def Vx(s:ByteArray)(c:Pc.PC)(ln er:Int):Prop :=
 ((Pc.readT s).2.2≠0∧c=Pc.pcz∧ln=(Pc.readT s).2.1∧er=(Pc.readT s).2.2)∨
 ((Pc.readT s).2.2=0∧∃E,SixE (Pc.readT s).1 E∧((yj (us (Pc.readT s).1 E)≠0∧c=Pc.pcz∧ln=0∧er=yj (us (Pc.readT s).1 E))∨(yj (us (Pc.readT s).1 E)=0∧c=(Pc.readT s).1∧ln=0∧er=0)))
theorem VD{s:ByteArray}{c d:Pc.PC}{l l' e e':Int}(h:Vx s c l e)(h2:Vx s d l' e'):c=d∧l=l'∧e=e':=by
 rcases h with ⟨h0,rfl,rfl,rfl⟩|⟨h0,E,hE,h⟩
 ·rcases h2 with ⟨-,rfl,rfl,rfl⟩|⟨g0,-⟩
  ·exact⟨rfl,rfl,rfl⟩
  ·exact absurd g0 h0
 ·rcases h2 with ⟨g0,-⟩|⟨-,G,hG,h2⟩
  ·exact absurd h0 g0
  ·have q:=uO (hE.smc hG);rcases h with ⟨h1,rfl,rfl,rfl⟩|⟨h1,rfl,rfl,rfl⟩
   ·rcases h2 with ⟨g1,rfl,rfl,rfl⟩|⟨g1,-⟩
    ·exact⟨rfl,rfl,q.symm⟩
    ·exact absurd (q.symm.trans g1) h1
   ·rcases h2 with ⟨g1,-⟩|⟨g1,rfl,rfl,rfl⟩
    ·exact absurd (q.trans h1) g1
    ·exact⟨rfl,rfl,rfl⟩
namespace Fp
open Pz
def qw(s:ByteArray):P:=(true,wd s)
def qn(n:Int):P:=(true,⟨2,⟨#[]⟩,n⟩)
def qd(n:Int):P:=(true,⟨3,⟨#[]⟩,n⟩)
def qc(n:Int):P:=(true,⟨4,⟨#[]⟩,n⟩)
def fw(s:ByteArray):P:=(false,wd s)
def lnF(w:ByteArray)(n:Int):List P:=[fw w,qd n]
def lnN(a b:Int):List P:=[fw Pc.wNight,qc a,qw Pc.wTo,qc b]
def lnC(x:Cn):List P:=fw Pc.wConst :: qw x.name :: qw Pc.wIs :: bl (F (jd x))
def scW(n:Int):ByteArray:=if n=1 then Pc.wDuty else if n=2 then Pc.wRest else Pc.wPairing
def lnR(x:Ru):List P:=fw (scW x.sc) :: qw Pc.wRule :: qw x.name :: qw Pc.wIs :: bl (F (j7 x))
def lnO(x:Co):List P:=fw (scW x.sc) :: qw Pc.wCost :: qw Pc.wIs :: bl (F (jc x))
def lnK(x:Ch):List P:=fw Pc.wDuty :: qw Pc.wCredit :: qw Pc.wIs :: bl (F x)
def amt(m:ByteArray)(n:Int):P:=if qW m=2 then qd n else qn n
def lnL(l:Li):List P:=[fw Pc.wLimit,qw l.name,qw Pc.wIs,qw l.meas,amt l.meas l.most,qw Pc.wIn,qn l.days,qw Pc.wDays]
def lnU(f:Of):List P:=[fw Pc.wOff,qw f.name,qw Pc.wIs,qn f.count,qw Pc.wIn,qn f.days,qw Pc.wDays]
def lnH(c:Ct):List (List P):=[lnF Pc.wReport c.rep,lnF Pc.wRelease c.rel,lnF Pc.wConnect c.con,lnF Pc.wSit c.sit,lnF Pc.wLayover c.lay,lnF Pc.wGuarantee c.gua,lnN c.nf c.nt]
def linL(c:Ct):List (List P):=lnH c++c.cs.map lnC++c.rs.map lnR++c.os.map lnO++(yv c.cr).map lnK++c.ls.map lnL++c.fs.map lnU
theorem vt_decl{s:ByteArray}(h:yh s=true):VT (wd s):=by
 have h':Nam.declName s.data.toList=true:=h;unfold Nam.declName at h';rw[Bool.and_eq_true] at h';have q:=h'.1;unfold Nam.isName at q;rw[decide_eq_true_eq] at q;obtain⟨-,q2,q3,q4⟩:=q;unfold Nam.lowB at q3;rw[decide_eq_true_eq] at q3
 have key:∀b∈ s.data.toList,Tk.inW b=true∧b.toNat≠58∧b.toNat≠64:=by
  intro b hb;have q:=List.all_eq_true.1 q4 b hb;unfold Nam.wordB at q;rw[decide_eq_true_eq] at q;unfold Tk.inW;rw[decide_eq_true_eq];omega
 have ym:s.size=s.data.toList.length:=(Array.length_toList).symm;refine vt_wd (fun b hb=>(key b hb).1) (word_low q3 (by omega) ?_ ?_)
 ·unfold Tk.has;rw[List.any_eq_false];intro b hb;have:=(key b hb).2.1
  simpa using this
 ·unfold Tk.has;rw[List.any_eq_false];intro b hb;have:=(key b hb).2.2
  simpa using this
theorem meas_in{m:ByteArray}(h:qW m≠0):m.data.toList∈ yk.1++yk.2:=by
 unfold qW at h;rw[List.mem_append]
 split at h
 ·rename_i q
  obtain⟨x,hx,e⟩:=List.any_eq_true.1 q;rw[eq_of_beq e];exact .inl hx
 ·split at h
  ·rename_i q
   obtain⟨x,hx,e⟩:=List.any_eq_true.1 q;rw[eq_of_beq e];exact .inr hx
  ·exact absurd rfl h
theorem meas_vt{m:ByteArray}(h:qW m≠0):VT (wd m):=by
 have key:∀x∈ yk.1++yk.2,VT (wd ⟨x.toArray⟩):=by
  intro x hx;simp only[yk,List.cons_append,List.nil_append,List.mem_cons,List.not_mem_nil,or_false] at hx;rcases hx with rfl|rfl|rfl|rfl|rfl|rfl|rfl<;>exact vt_wd (by decide) rfl
 have hm:=meas_in h;have e:m=⟨m.data.toList.toArray⟩:=ba_eq (by simp);rw[e];exact key _ hm
theorem meas_ty(m:ByteArray):qW m=0∨qW m=1∨qW m=2:=by
 unfold qW
 split
 ·exact .inr (.inr rfl)
 ·split
  ·exact .inr (.inl rfl)
  ·exact .inl rfl
theorem vt_num{n:Int}(h:0≤n∧n≤1000000):VT ⟨2,⟨#[]⟩,n⟩:=.inr (.inl ⟨.inl rfl,rfl,h.1,show n≤1099511627776 by omega⟩)
theorem vt_dur{n:Int}(h:0≤n∧n≤1000000):VT ⟨3,⟨#[]⟩,n⟩:=.inr (.inl ⟨.inr rfl,rfl,h.1,show n≤1099511627776 by omega⟩)
theorem vt_clk{n:Int}(h:0≤n∧n≤1439):VT ⟨4,⟨#[]⟩,n⟩:=.inr (.inr (.inl ⟨rfl,rfl,h.1,h.2⟩))
def Blk(l:List P):Prop:=∀q,l.head?=some q→q.1=true
theorem blk_bl(l:List P):Blk (bl l):=by
 cases l with
 | nil=>intro q hq;cases hq
 | cons p l=>intro q hq;cases hq;rfl
theorem nice_q{p:P}{l:List P}(hp:VT p.2)(h:Nice l∧Blk l)(hb:p.1=true):Nice (p :: l)∧Blk (p :: l) :=
 ⟨⟨vl_cons hp h.1.1,okL_cons h.1.2 fun q hq=>.inl (h.2 q hq)⟩,fun q hq=>by cases hq;exact hb⟩
theorem nice_f{p:P}{l:List P}(hp:VT p.2)(h:Nice l∧Blk l):Nice (p :: l):=⟨vl_cons hp h.1.1,okL_cons h.1.2 fun q hq=>.inl (h.2 q hq)⟩
theorem nice_nil:Nice []∧Blk []:=⟨⟨vl_nil,trivial⟩,fun q hq=>by cases hq⟩
theorem nice_bl{c:Ch}(h:qQ c.a c.k=0):Nice (bl (F c))∧Blk (bl (F c)):=by
 obtain⟨h1,h2⟩:=nice_of c (valE_wf h);exact⟨⟨vl_bl h1,okL_bl h2⟩,blk_bl _⟩
theorem vt_w{w:ByteArray}(h:w∈ Pc.fieldsL++[Pc.wConst,Pc.wIs,Pc.wRule,Pc.wCost,Pc.wCredit,Pc.wLimit,Pc.wOff,Pc.wIn,Pc.wTo,Pc.wDays,Pc.wDuty,Pc.wRest,Pc.wPairing]):VT (wd w):=by
 simp only[Pc.fieldsL,List.cons_append,List.nil_append,List.mem_cons,List.not_mem_nil,or_false] at h;rcases h with rfl|rfl|rfl|rfl|rfl|rfl|rfl|rfl|rfl|rfl|rfl|rfl|rfl|rfl|rfl|rfl|rfl|rfl|rfl|rfl<;>exact vt_wd (by decide) rfl
theorem nice_lnF{w:ByteArray}{n:Int}(hw:w∈ Pc.fieldsL)(h:0≤n∧n≤1000000):Nice (lnF w n):=nice_f (vt_w (List.mem_append_left _ hw)) (nice_q (vt_dur h) nice_nil rfl)
theorem nice_lnN{a b:Int}(ha:0≤a∧a≤1439)(hb:0≤b∧b≤1439):Nice (lnN a b):=nice_f (vt_w (by simp[Pc.fieldsL])) (nice_q (vt_clk ha) (nice_q (vt_w (by simp[Pc.fieldsL])) (nice_q (vt_clk hb) nice_nil rfl) rfl) rfl)
theorem nice_lnC{x:Cn}(h:yh x.name=true)(hx:qQ x.a x.k=0):Nice (lnC x):=nice_f (vt_w (by simp[Pc.fieldsL])) (nice_q (vt_decl h) (nice_q (vt_w (by simp[Pc.fieldsL])) (nice_bl hx) rfl) rfl)
theorem vt_sc(n:Int):VT (wd (scW n)):=by unfold scW;split;exact vt_w (by simp[Pc.fieldsL]);split<;>exact vt_w (by simp[Pc.fieldsL])
theorem nice_lnR{x:Ru}(h:yh x.name=true)(hx:qQ x.a x.k=0):Nice (lnR x):=nice_f (vt_sc _) (nice_q (vt_w (by simp[Pc.fieldsL])) (nice_q (vt_decl h) (nice_q (vt_w (by simp[Pc.fieldsL])) (nice_bl hx) rfl) rfl) rfl)
theorem nice_lnO{x:Co}(hx:qQ x.a x.k=0):Nice (lnO x):=nice_f (vt_sc _) (nice_q (vt_w (by simp[Pc.fieldsL])) (nice_q (vt_w (by simp[Pc.fieldsL])) (nice_bl hx) rfl) rfl)
theorem nice_lnK{x:Ch}(hx:qQ x.a x.k=0):Nice (lnK x):=nice_f (vt_w (by simp[Pc.fieldsL])) (nice_q (vt_w (by simp[Pc.fieldsL])) (nice_q (vt_w (by simp[Pc.fieldsL])) (nice_bl hx) rfl) rfl)
theorem nice_lnL{l:Li}(h:yh l.name=true)(hm:qW l.meas≠0)(h1:0≤l.most∧l.most≤599999)(h2:1≤l.days∧l.days≤31):Nice (lnL l):=by
 have ha:VT (amt l.meas l.most).2∧(amt l.meas l.most).1=true:=by
  unfold amt
  split
  ·exact⟨vt_dur ⟨h1.1,by omega⟩,rfl⟩
  ·exact⟨vt_num ⟨h1.1,by omega⟩,rfl⟩
 exact nice_f (vt_w (by simp[Pc.fieldsL])) (nice_q (vt_decl h) (nice_q (vt_w (by simp[Pc.fieldsL])) (nice_q (meas_vt hm) (nice_q ha.1 (nice_q (vt_w (by simp[Pc.fieldsL])) (nice_q (vt_num ⟨by omega,by omega⟩) (nice_q (vt_w (by simp[Pc.fieldsL])) nice_nil rfl) rfl) rfl) ha.2) rfl) rfl) rfl)
theorem nice_lnU{f:Of}(h:yh f.name=true)(h1:1≤f.days∧f.days≤31)(h2:1≤f.count∧f.count≤f.days):Nice (lnU f) :=
 nice_f (vt_w (by simp[Pc.fieldsL])) (nice_q (vt_decl h) (nice_q (vt_w (by simp[Pc.fieldsL])) (nice_q (vt_num ⟨by omega,by omega⟩) (nice_q (vt_w (by simp[Pc.fieldsL])) (nice_q (vt_num ⟨by omega,by omega⟩) (nice_q (vt_w (by simp[Pc.fieldsL])) nice_nil rfl) rfl) rfl) rfl) rfl) rfl)
structure CtG (c:Ct):Prop where
 n0:0≤c.rep∧c.rep≤1440
 n1:0≤c.rel∧c.rel≤1440
 n2:0≤c.con∧c.con≤1440
 n3:0≤c.sit∧c.sit≤1440
 n4:0≤c.lay∧c.lay≤10080
 n5:0≤c.nf∧c.nf≤1439
 n6:0≤c.nt∧c.nt≤1439
 n7:0≤c.gua∧c.gua≤599999
 l:c.cs.length≤32∧c.rs.length≤40∧c.os.length≤16∧len c.cr≤1∧c.ls.length≤16∧c.fs.length≤16
 cs:∀x∈ c.cs,yh x.name=true∧qQ x.a x.k=0
 rs:∀x∈ c.rs,(1≤x.sc∧x.sc≤3)∧yh x.name=true∧qQ x.a x.k=0
 os:∀x∈ c.os,(1≤x.sc∧x.sc≤3)∧qQ x.a x.k=0
 cr:∀x∈ yv c.cr,qQ x.a x.k=0
 ls:∀x∈ c.ls,yh x.name=true∧qW x.meas≠0∧(0≤x.most∧x.most≤599999)∧(1≤x.days∧x.days≤31)
 fs:∀x∈ c.fs,yh x.name=true∧(1≤x.days∧x.days≤31)∧(1≤x.count∧x.count≤x.days)
theorem orE_of{a b:Int}(h:kr a b=0):a=0∧b=0:=by
 unfold kr at h
 by_cases q:a=0
 ·rw[if_neg (by simp[q])] at h;exact⟨q,h⟩
 ·rw[if_pos q] at h;exact absurd h q
theorem fe_all{f:Nat→Int}:∀(n j:Nat),fe f j n=0→∀i,i < n→f (j+i)=0
 | 0,_,_,i,hi=>absurd hi (Nat.not_lt_zero _)
 | n+1,j,h,i,hi=>by
   obtain⟨h1,h2⟩:=orE_of (h:kr (f j) (fe f (j+1) n)=0);cases i with
   | zero=>exact h1
   | succ i=>have:=fe_all n (j+1) h2 i (by omega);rwa [show j+1+i=j+(i+1) by omega] at this
theorem row_all{α:Type}{L:List α}{g:Nat→Int}{Q:α→Prop}(h:fe g 0 L.length=0)(hg:∀i x,L[i]?=some x→g i=0→Q x):∀x∈ L,Q x:=by
 intro x hx;obtain⟨i,hi⟩:=List.getElem?_of_mem hx;have q:=fe_all _ _ h i (List.getElem?_eq_some_iff.1 hi).1;rw[Nat.zero_add] at q;exact hg i x hi q
theorem cre_all:∀(T:Fo),kx T=0→∀x∈ yv T,qQ x.a x.k=0
 | .nil,_,x,hx=>by cases hx
 | .node b o a k r,h,x,hx=>by
   obtain⟨h1,h2⟩:=orE_of (h:kr (qQ a k) (kx r)=0);rcases List.mem_cons.1 (hx:x∈ ⟨b,o,a,k⟩ :: yv r) with rfl|hx
   ·exact h1
   ·exact cre_all r h2 x hx
theorem ctg_of{c:Ct}(h:yj c=0):CtG c:=by
 unfold yj at h
 by_cases h1:uc c=false
 ·rw[if_pos h1] at h;cases h
 rw[if_neg h1] at h
 by_cases h2:jB c=false
 ·rw[if_pos h2] at h;cases h
 rw[if_neg h2] at h;rw[Bool.not_eq_false] at h1 h2;unfold uc at h1;unfold jB at h2;rw[decide_eq_true_eq] at h1 h2;obtain⟨r0,r1,r2,r3,r4,r5,r6,r7⟩:=h1;obtain⟨e1,h⟩:=orE_of h;obtain⟨e2,h⟩:=orE_of h;obtain⟨e3,h⟩:=orE_of h;obtain⟨e4,h⟩:=orE_of h;obtain⟨e5,e6⟩:=orE_of h;refine⟨r0,r1,r2,⟨by omega,r3.2⟩,r4,r5,r6,r7,h2,row_all e1 fun i x hx q=>?_,row_all e2 fun i x hx q=>?_,row_all e3 fun i x hx q=>?_,cre_all _ e4,row_all e5 fun i x hx q=>?_,row_all e6 fun i x hx q=>?_⟩
 ·unfold ze at q;rw[hx] at q;dsimp only at q
  split at q
  ·cases q
  ·rename_i a
   split at q
   ·cases q
   ·exact⟨by simpa using a,q⟩
 ·unfold yT at q;rw[hx] at q;dsimp only at q
  split at q
  ·cases q
  ·rename_i a
   rw[not_or,Bool.not_eq_false,Bool.not_eq_false] at a
   split at q
   ·cases q
   ·have s:=a.1;unfold YD at s;rw[decide_eq_true_eq] at s;exact⟨s,a.2,q⟩
 ·unfold zI at q;rw[hx] at q;dsimp only at q
  split at q
  ·cases q
  ·rename_i a
   rw[Bool.not_eq_false] at a;unfold YD at a;rw[decide_eq_true_eq] at a;exact⟨a,q⟩
 ·unfold jk at q;rw[hx] at q;dsimp only at q
  split at q
  ·cases q
  ·rename_i a
   split at q
   ·cases q
   ·split at q
    ·cases q
    ·rename_i m
     split at q
     ·rename_i b;exact⟨by simpa using a,m,b.1,b.2⟩
     ·cases q
 ·unfold jh at q;rw[hx] at q;dsimp only at q
  split at q
  ·cases q
  ·rename_i a
   split at q
   ·cases q
   ·split at q
    ·rename_i b;exact⟨by simpa using a,b.1,b.2⟩
    ·cases q
theorem lin_all{c:Ct}{Q:List P→Prop}(h0:∀l∈ lnH c,Q l)(h1:∀x∈ c.cs,Q (lnC x))(h2:∀x∈ c.rs,Q (lnR x))(h3:∀x∈ c.os,Q (lnO x))(h4:∀x∈ yv c.cr,Q (lnK x))(h5:∀x∈ c.ls,Q (lnL x))(h6:∀x∈ c.fs,Q (lnU x)):∀l∈ linL c,Q l:=by
 intro l hl;unfold linL at hl;simp only[List.mem_append,List.mem_map] at hl;rcases hl with (((((h|⟨x,hx,rfl⟩)|⟨x,hx,rfl⟩)|⟨x,hx,rfl⟩)|⟨x,hx,rfl⟩)|⟨x,hx,rfl⟩)|⟨x,hx,rfl⟩
 ·exact h0 l h
 ·exact h1 x hx
 ·exact h2 x hx
 ·exact h3 x hx
 ·exact h4 x hx
 ·exact h5 x hx
 ·exact h6 x hx
theorem nice_H{c:Ct}(h:CtG c):∀l∈ lnH c,Nice l:=by
 obtain⟨n0,n1,n2,n3,n4,n5,n6,n7,-⟩:=h;intro l hl;simp only[lnH,List.mem_cons,List.not_mem_nil,or_false] at hl;rcases hl with rfl|rfl|rfl|rfl|rfl|rfl|rfl
 ·exact nice_lnF (by simp[Pc.fieldsL]) ⟨n0.1,by omega⟩
 ·exact nice_lnF (by simp[Pc.fieldsL]) ⟨n1.1,by omega⟩
 ·exact nice_lnF (by simp[Pc.fieldsL]) ⟨n2.1,by omega⟩
 ·exact nice_lnF (by simp[Pc.fieldsL]) ⟨n3.1,by omega⟩
 ·exact nice_lnF (by simp[Pc.fieldsL]) ⟨n4.1,by omega⟩
 ·exact nice_lnF (by simp[Pc.fieldsL]) ⟨n7.1,by omega⟩
 ·exact nice_lnN n5 n6
theorem nice_lin{c:Ct}(h:CtG c):∀l∈ linL c,Nice l :=
 lin_all (nice_H h) (fun x hx=>nice_lnC (h.cs x hx).1 (h.cs x hx).2) (fun x hx=>nice_lnR (h.rs x hx).2.1 (h.rs x hx).2.2) (fun x hx=>nice_lnO (h.os x hx).2) (fun x hx=>nice_lnK (h.cr x hx)) (fun x hx=>nice_lnL (h.ls x hx).1 (h.ls x hx).2.1 (h.ls x hx).2.2.1 (h.ls x hx).2.2.2) (fun x hx=>nice_lnU (h.fs x hx).1 (h.fs x hx).2.1 (h.fs x hx).2.2)
end Fp
end Go.Proofs.YtcejjdmnlejbaaaGreatDoor
