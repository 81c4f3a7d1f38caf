import Derived.OwnWalk
import Derived.Laws.AppendOwn
import Derived.Deep.RegionLaw
import Derived.Deep.AppendLies
import Derived.Maps.OwnSet
import Derived.Maps.Views
import Derived.DeepKeys4
import Derived.Laws.OwnMore
import Derived.Lib.LazyBuf
import Derived.Test.YtcejjdmnlejbaaaGreatDoorWGc
namespace Go.Proofs.YtcejjdmnlejbaaaGreatDoor
open Option.some(inj)
open Lib(hid)
set_option linter.unusedVariables false
set_option linter.unusedSimpArgs false
open Go.ChangeShapes Go.WideShapes Go.ChangeAt Go.RowKit
open Go.Deep (BT)
set_option maxHeartbeats 4000000
set_option maxRecDepth 100000
section
open Go.RowKit
end
section
end
section
theorem own_below{w w':World}{base:Nat}{e:TypeId}{size:Nat}{v:Value}{n:Nat}{xs:List Value}(h:w.ownsRow base e size v n xs)(hb:Below w.heap.size w w'):w'.ownsRow base e size v n xs :=
 h.kept (zF hb none) (by cases v.ownBlock<;>simp)
end
namespace Ln
def okB(b:UInt8):Bool:=decide (b.toNat=10∨(32≤b.toNat∧b.toNat≤126))
def okS(s:ByteArray):Nat→Bool
 | 0=>true
 | k+1=>okS s k && okB (s.data.toList.getD k 0)
theorem okS_stop(s:ByteArray){k:Nat}(h:okS s k=false):∀n,okS s (k+n)=false:=by
 intro n
 induction n with
 | zero=>exact h
 | succ n ih=>show(okS s (k+n) && _)=false;rw[ih];rfl
def go(s:ByteArray):Nat→Nat→Nat→List ByteArray
 | 0,_,f=>if f < s.size then [s.extract f s.size] else []
 | n+1,i,f=>if (s.data.toList.getD i 0).toNat=10 then s.extract f i :: go s n (i+1) (i+1) else go s n (i+1) f
def lines(s:ByteArray):List ByteArray× Int :=
 if 20000 < s.size then ([],10) else if okS s s.size=false then ([],1) else if 1000 < (go s s.size 0 0).length then ([],10) else (go s s.size 0 0,0)
theorem extract_size(s:ByteArray)(f i:Nat):(s.extract f i).size≤s.size:=by simp;omega
theorem go_size(s:ByteArray)(n i f:Nat):∀l∈ go s n i f,l.size≤s.size:=by
 induction n generalizing i f with
 | zero =>
   intro l hl;unfold go at hl
   split at hl
   ·rw[List.mem_singleton.1 hl];exact extract_size s _ _
   ·cases hl
 | succ n ih =>
   intro l hl;unfold go at hl
   split at hl
   ·rcases List.mem_cons.1 hl with rfl|hl
    ·exact extract_size s _ _
    ·exact ih _ _ l hl
   ·exact ih _ _ l hl
end Ln
def uX(L:List ByteArray):List Value:=L.map fun s=>.string s
theorem yt{w:World}{B:Nat}{e:TypeId}{size:Nat}{v:Value}{n:Nat}{xs:List Value}(h:w.ownsRow B e size v n xs):∃p cap,v=.slice p n cap:=by
 rcases h.2 with ⟨rfl,hn⟩|⟨g,cap,cur,rfl,-⟩
 ·exact⟨none,0,by rw[hn]⟩
 ·exact⟨_,_,rfl⟩
theorem YB(D:List ByteArray)(x:ByteArray):uX (D++[x])=uX D++[.string x]:=by simp[uX]
theorem Tryz.infoSt:(Tryz.prog.info? 9).map (fun i=>(i.zero,i.size,i.bytes))=some (some (.string ⟨#[]⟩),1,16):=by kernel_rfl
def kz(L:List Tk.T4):Int:=match Pz.pv L .ex 0 with
 | (some _,j)=>if j < L.length then j else -1
 | (none,j)=>j
section
open Go.Maps (has size IsMap)
end
section
open Go.Maps (has size IsMap)
theorem Tryz.keyS:Go.Maps.Keyed Tryz.prog 9:=Go.Maps.string_keyed Tryz.underlying9
end
section
def Keeps(w w':World):Prop:=∀p v,w.cell? p=some v→w'.cell? p=some v
theorem Keeps.refl(w:World):Keeps w w:=fun _ _ h=>h
theorem Keeps.trans{a b c:World}(h:Keeps a b)(k:Keeps b c):Keeps a c:=fun p v q=>k p v (h p v q)
theorem Keeps.of_below{w w':World}(h:Below w.heap.size w w'):Keeps w w':=fun p v q=>by rw[h.cell (block_lt_of_cell q)];exact q
theorem FoAt.keep{w w':World}{T:Fo}{B O:Nat}(h:FoAt w T B O)(hk:Keeps w w'):FoAt w' T B O:=by
 induction T generalizing B O with
 | nil=>trivial
 | node b o a k r ihk ihr =>
   obtain⟨⟨h0,h1,h2,h3⟩,hp,hkk,hr⟩:=h;exact⟨⟨hk _ _ h0,hk _ _ h1,hk _ _ h2,hk _ _ h3⟩,hp,ihk hkk,ihr hr⟩
theorem ExAt.keep{w w':World}{b o:Nat}{a:Nd}{k:Fo}(h:ExAt w b o a k)(hk:Keeps w w'):ExAt w' b o a k:=⟨h.1,h.2.keep hk⟩
end
open Go.Maps (has size IsMap)
def kr(a b:Int):Int:=if a≠0 then a else b
theorem zf{a b:Int}(h:a≠0):kr a b=a:=by unfold kr;rw[if_pos h]
theorem yg(b:Int):kr 0 b=b:=by unfold kr;rw[if_neg (by simp)]
def fe(f:Nat→Int):Nat→Nat→Int
 | _,0=>0
 | j,n+1=>kr (f j) (fe f (j+1) n)
theorem kB{f:Nat→Int}{j n:Nat}(h:j < n):fe f j (n - j)=kr (f j) (fe f (j+1) (n - (j+1))):=by
 obtain⟨m,hm⟩:∃m,n - j=m+1:=⟨n - j - 1,by omega⟩;rw[hm,show n - (j+1)=m by omega];rfl
theorem jr{f:Nat→Int}{j n:Nat}(h:n≤j):fe f j (n - j)=0:=by rw[Nat.sub_eq_zero_of_le h];rfl
structure Ru where
 sc:Int
 name:ByteArray
 b:Nat
 o:Nat
 a:Nd
 k:Fo
structure Co where
 sc:Int
 b:Nat
 o:Nat
 a:Nd
 k:Fo
structure Li where
 name:ByteArray
 meas:ByteArray
 most:Int
 days:Int
structure Of where
 name:ByteArray
 count:Int
 days:Int
def Bd(x:Int):Prop := -9223372036854775808≤x∧x≤9223372036854775807
def X4(w:World)(B O:Nat)(b o:Nat)(a:Nd)(k:Fo):Prop :=
 (w.cell? ⟨B,O,none⟩=some (.int .i64 a.op)∧w.cell? ⟨B,O+1,none⟩=some (.int .i64 a.num)∧w.cell? ⟨B,O+2,none⟩=some (.string a.name)∧w.cell? ⟨B,O+3,none⟩=some (.slice a.ptr (len k) a.cap))∧ExAt w b o a k∧yN a k
def CnP(w:World)(B O:Nat)(c:Cn):Prop:=w.cell? ⟨B,O,none⟩=some (.string c.name)∧X4 w B (O+1) c.b c.o c.a c.k∧c.name.size≤9223372036854775807
def RuP(w:World)(B O:Nat)(r:Ru):Prop:=w.cell? ⟨B,O,none⟩=some (.int .i64 r.sc)∧w.cell? ⟨B,O+1,none⟩=some (.string r.name)∧X4 w B (O+2) r.b r.o r.a r.k∧Bd r.sc∧r.name.size≤9223372036854775807
def CoP(w:World)(B O:Nat)(r:Co):Prop:=w.cell? ⟨B,O,none⟩=some (.int .i64 r.sc)∧X4 w B (O+1) r.b r.o r.a r.k∧Bd r.sc
def LiP(w:World)(B O:Nat)(r:Li):Prop:=w.cell? ⟨B,O,none⟩=some (.string r.name)∧w.cell? ⟨B,O+1,none⟩=some (.string r.meas)∧w.cell? ⟨B,O+2,none⟩=some (.int .i64 r.most)∧w.cell? ⟨B,O+3,none⟩=some (.int .i64 r.days)∧Bd r.most∧Bd r.days∧r.name.size≤9223372036854775807∧r.meas.size≤9223372036854775807
def OfP(w:World)(B O:Nat)(r:Of):Prop:=w.cell? ⟨B,O,none⟩=some (.string r.name)∧w.cell? ⟨B,O+1,none⟩=some (.int .i64 r.count)∧w.cell? ⟨B,O+2,none⟩=some (.int .i64 r.days)∧Bd r.count∧Bd r.days∧r.name.size≤9223372036854775807
theorem qa{w w':World}{a:Addr}{v:Value}(h:w.cell? a=some v)(hb:Below w.heap.size w w'):w'.cell? a=some v:=by rw[hb.cell (block_lt_of_cell h)];exact h
theorem X4.next{w w':World}{B O b o:Nat}{a:Nd}{k:Fo}(h:X4 w B O b o a k)(hb:Below w.heap.size w w'):X4 w' B O b o a k :=
 ⟨⟨qa h.1.1 hb,qa h.1.2.1 hb,qa h.1.2.2.1 hb,qa h.1.2.2.2 hb⟩,h.2.1.next hb,h.2.2⟩
theorem CnP.next{w w':World}{B O:Nat}{c:Cn}(h:CnP w B O c)(hb:Below w.heap.size w w'):CnP w' B O c:=⟨qa h.1 hb,h.2.1.next hb,h.2.2⟩
theorem RuP.next{w w':World}{B O:Nat}{c:Ru}(h:RuP w B O c)(hb:Below w.heap.size w w'):RuP w' B O c:=⟨qa h.1 hb,qa h.2.1 hb,h.2.2.1.next hb,h.2.2.2⟩
theorem CoP.next{w w':World}{B O:Nat}{c:Co}(h:CoP w B O c)(hb:Below w.heap.size w w'):CoP w' B O c:=⟨qa h.1 hb,h.2.1.next hb,h.2.2⟩
theorem LiP.next{w w':World}{B O:Nat}{c:Li}(h:LiP w B O c)(hb:Below w.heap.size w w'):LiP w' B O c:=⟨qa h.1 hb,qa h.2.1 hb,qa h.2.2.1 hb,qa h.2.2.2.1 hb,h.2.2.2.2⟩
theorem OfP.next{w w':World}{B O:Nat}{c:Of}(h:OfP w B O c)(hb:Below w.heap.size w w'):OfP w' B O c:=⟨qa h.1 hb,qa h.2.1 hb,qa h.2.2.1 hb,h.2.2.2⟩
def RowV{α:Type}(P:World→Nat→Nat→α→Prop)(s:Nat)(w:World)(L:List α)(p:Option Addr):Prop :=
 L.length≤9223372036854775807∧∃B O,(L≠[]→p=some ⟨B,O,none⟩)∧∀(i:Nat) (x:α),L[i]?=some x→P w B (O+i * s) x
theorem RowV.get{α:Type}{P:World→Nat→Nat→α→Prop}{s:Nat}{w:World}{L:List α}{p:Option Addr}(h:RowV P s w L p){i:Nat}{x:α}(hi:L[i]?=some x):∃B O,p=some ⟨B,O,none⟩∧P w B (O+i * s) x:=by
 obtain⟨-,B,O,h1,h2⟩:=h;exact⟨B,O,h1 (by rintro rfl;simp at hi),h2 i x hi⟩
theorem RowV.map{α:Type}{P:World→Nat→Nat→α→Prop}{s:Nat}{w w':World}{L:List α}{p:Option Addr}(h:RowV P s w L p)(hP:∀B O x,P w B O x→P w' B O x):RowV P s w' L p:=by
 obtain⟨h0,B,O,h1,h2⟩:=h;exact⟨h0,B,O,h1,fun i x hi=>hP _ _ _ (h2 i x hi)⟩
def CrV(w:World)(T:Fo)(p:Option Addr):Prop:=len T≤9223372036854775807∧je T∧∃b o,(T≠.nil→p=some ⟨b,o,none⟩)∧FoAt w T b o
theorem CrV.next{w w':World}{T:Fo}{p:Option Addr}(h:CrV w T p)(hb:Below w.heap.size w w'):CrV w' T p:=by
 obtain⟨h0,h1,b,o,h2,h3⟩:=h;exact⟨h0,h1,b,o,h2,h3.next hb⟩
structure Ct where
 rep:Int
 rel:Int
 con:Int
 sit:Int
 lay:Int
 nf:Int
 nt:Int
 gua:Int
 cs:List Cn
 rs:List Ru
 os:List Co
 cr:Fo
 ls:List Li
 fs:List Of
structure Cp where
 cs:Option Addr
 rs:Option Addr
 os:Option Addr
 cr:Option Addr
 ls:Option Addr
 fs:Option Addr
 ccs:Nat
 crs:Nat
 cos:Nat
 ccr:Nat
 cls:Nat
 cfs:Nat
structure CtV (w:World) (c:Ct) (p:Cp):Prop where
 cs:RowV CnP 5 w c.cs p.cs
 rs:RowV RuP 6 w c.rs p.rs
 os:RowV CoP 5 w c.os p.os
 cr:CrV w c.cr p.cr
 ls:RowV LiP 4 w c.ls p.ls
 fs:RowV OfP 3 w c.fs p.fs
 b0:Bd c.rep∧Bd c.rel∧Bd c.con∧Bd c.sit∧Bd c.lay∧Bd c.nf∧Bd c.nt∧Bd c.gua
 cap:c.cs.length≤p.ccs
theorem CtV.next{w w':World}{c:Ct}{p:Cp}(h:CtV w c p)(hb:Below w.heap.size w w'):CtV w' c p where
 cs:=h.cs.map fun _ _ _ q=>q.next hb
 rs:=h.rs.map fun _ _ _ q=>q.next hb
 os:=h.os.map fun _ _ _ q=>q.next hb
 cr:=h.cr.next hb
 ls:=h.ls.map fun _ _ _ q=>q.next hb
 fs:=h.fs.map fun _ _ _ q=>q.next hb
 b0:=h.b0
 cap:=h.cap
def yr{α:Type} [DecidableEq α](L:List α)(x:α):Bool:=decide (x∈ L)
theorem xz{α:Type} [DecidableEq α](L:List α)(y x:α):yr (L++[y]) x=(yr L x || decide (x=y)):=by
 unfold yr;rw[Bool.eq_iff_iff];simp
def YD(sc:Int):Bool:=decide (1≤sc∧sc≤3)
def yk:List (List UInt8)× List (List UInt8):=([[98,108,111,99,107],[115,112,97,110],[110,105,103,104,116],[99,114,101,100,105,116]],[[108,101,103,115],[104,101,97,100,115],[100,117,116,105,101,115]])
def qW(s:ByteArray):Int:=if yk.1.any (fun x=>s.data.toList==x)=true then 2 else if yk.2.any (fun x=>s.data.toList==x)=true then 1 else 0
def ze(cs:List Cn)(j:Nat):Int:=match cs[j]? with
 | none=>0
 | some c=>if yh c.name=false then 1 else if yr ((cs.take j).map (·.name)) c.name=true then 7 else qQ c.a c.k
def yT(rs:List Ru)(j:Nat):Int:=match rs[j]? with
 | none=>0
 | some r=>if YD r.sc=false∨yh r.name=false then 1 else if yr ((rs.take j).map fun r=>(r.sc,r.name)) (r.sc,r.name)=true then 7 else qQ r.a r.k
def zI(os:List Co)(j:Nat):Int:=match os[j]? with
 | none=>0
 | some r=>if YD r.sc=false then 1 else qQ r.a r.k
def kx:Fo→Int
 | .nil=>0
 | .node _ _ a k r=>kr (qQ a k) (kx r)
def jk(ls:List Li)(j:Nat):Int:=match ls[j]? with
 | none=>0
 | some l=>if yh l.name=false then 1 else if yr ((ls.take j).map (·.name)) l.name=true then 7 else if qW l.meas=0 then 6 else if (0≤l.most∧l.most≤599999)∧(1≤l.days∧l.days≤31) then 0 else 5
def jh(ls:List Li)(fs:List Of)(j:Nat):Int:=match fs[j]? with
 | none=>0
 | some f=>if yh f.name=false then 1 else if yr (ls.map (·.name)++(fs.take j).map (·.name)) f.name=true then 7 else if (1≤f.days∧f.days≤31)∧(1≤f.count∧f.count≤f.days) then 0 else 5
def uc(c:Ct):Bool:=decide ((0≤c.rep∧c.rep≤1440)∧(0≤c.rel∧c.rel≤1440)∧(0≤c.con∧c.con≤1440)∧(c.con≤c.sit∧c.sit≤1440)∧(0≤c.lay∧c.lay≤10080)∧(0≤c.nf∧c.nf≤1439)∧(0≤c.nt∧c.nt≤1439)∧(0≤c.gua∧c.gua≤599999))
def jB(c:Ct):Bool:=decide (c.cs.length≤32∧c.rs.length≤40∧c.os.length≤16∧len c.cr≤1∧c.ls.length≤16∧c.fs.length≤16)
def Kp(c:Ct):Int:=fe (ze c.cs) 0 c.cs.length
def JC(c:Ct):Int:=fe (yT c.rs) 0 c.rs.length
def Ko(c:Ct):Int:=fe (zI c.os) 0 c.os.length
def Vp(c:Ct):Int:=fe (jk c.ls) 0 c.ls.length
def Vo(c:Ct):Int:=fe (jh c.ls c.fs) 0 c.fs.length
def uT(c:Ct):Int:=kr (Vp c) (Vo c)
def yj(c:Ct):Int:=if uc c=false then 5 else if jB c=false then 10 else kr (Kp c) (kr (JC c) (kr (Ko c) (kr (kx c.cr) (uT c))))
def SetM{α:Type} [DecidableEq α](P:Program)(kt bt:TypeId)(key:α→Value)(w:World)(b:Nat)(L:List α):Prop :=
 ∃D:DataW Unit,w.ownsMap P kt (plainElem P bt) b L.length D∧IsMap D∧∀(x:α) (kl:Lit),keyOf P kt (key x)=some kl→D.atKey kl (.lit (.bool false))=.lit (.bool (yr L x))
theorem SetM.start{α:Type} [DecidableEq α](P:Program)(kt bt:TypeId)(key:α→Value)(w:World):SetM P kt bt key (w.alloc (.map #[] 0)) w.heap.size [] :=
 ⟨.map [],World.ownsMap_made _ _ _ _,⟨[],rfl⟩,fun x kl _=>by simp[yr];rfl⟩
theorem SetM.kept{α:Type} [DecidableEq α]{P:Program}{kt bt:TypeId}{key:α→Value}{w w':World}{b:Nat}{L:List α}{row:Option Nat}(h:SetM P kt bt key w b L)(hg:w.grownBy w' row)(hne:some b≠row):SetM P kt bt key w' b L:=by
 obtain⟨D,h1,h2,h3⟩:=h;exact⟨D,h1.kept hg hne,h2,h3⟩
theorem SetM.next{α:Type} [DecidableEq α]{P:Program}{kt bt:TypeId}{key:α→Value}{w w':World}{b:Nat}{L:List α}(h:SetM P kt bt key w b L)(hb:Below w.heap.size w w'):SetM P kt bt key w' b L :=
 h.kept (zF hb none) (by simp)
theorem SetM.lt{α:Type} [DecidableEq α]{P:Program}{kt bt:TypeId}{key:α→Value}{w:World}{b:Nat}{L:List α}(h:SetM P kt bt key w b L):b < w.heap.size:=by
 obtain⟨D,h1,-⟩:=h;exact h1.lt
theorem kE{P:Program}{e:TypeId}(he:P.underlying e=some .bool){v:Value}{z:DataW Unit× List MemPlace}(h:plainElem P e v=some z):∃x,v=.bool x∧z=(.lit (.bool x),[]):=by
 cases v<;>simp[plainElem,he] at h;exact⟨_,rfl,h.symm⟩
theorem SetM.look{α:Type} [DecidableEq α]{P:Program}{kt bt mt:TypeId}{key:α→Value}{w:World}{b:Nat}{L:List α}(h:SetM P kt bt key w b L)(K:Go.Maps.Keyed P kt)(ht:P.underlying mt=some (.map kt bt))(hb:P.underlying bt=some .bool)(hz:(zeroValue bt).run P w=.ok (.bool false) w)
 (x:α) {kl:Lit} (hk:keyOf P kt (key x)=some kl):(Instr.lookup mt (.map (some b)) (key x) false).run P w=.ok (.bool (yr L x)) w:=by
 obtain⟨D,h1,h2,h3⟩:=h;obtain⟨v,ps,hrun,hv⟩:=h1.lookup K ht hz (plainElem_bool hb false) hk;obtain⟨c,rfl,hc⟩:=kE hb hv;have q:=h3 x kl hk;have e:=congrArg Prod.fst hc;have h9:(DataW.lit (Lit.bool c):DataW Unit)=.lit (.bool (yr L x)):=e.symm.trans q;injection h9 with h9
 injection h9 with h9
 rw[← h9];exact hrun
theorem SetM.put{α:Type} [DecidableEq α]{P:Program}{kt bt mt:TypeId}{key:α→Value}{w:World}{b:Nat}{L:List α}(h:SetM P kt bt key w b L)(K:Go.Maps.Keyed P kt)(ht:P.underlying mt=some (.map kt bt))(hb:P.underlying bt=some .bool)(hl:L.length < maxLen)(hinj:∀x y,key x=key y→x=y)
 (x:α) {kl:Lit} (hk:keyOf P kt (key x)=some kl):∃w',(Instr.mapUpdate mt (.map (some b)) (key x) (.bool true)).run P w=.ok () w'∧SetM P kt bt key w' b (L++[x])∧w.grownBy w' (some b):=by
 obtain⟨D,h1,h2,h3⟩:=h;obtain⟨w',hrun,ho,hg⟩:=h1.update K ht hl hk (plainElem_bool hb true);refine⟨w',hrun,⟨_,by rw[List.length_append];exact ho,h2.put _ _,fun y ky hy=>?_⟩,hg⟩;rw[xz]
 by_cases e:y=x
 ·subst e;obtain rfl:ky=kl:=inj (hy.symm.trans hk);rw[Go.Maps.atKey_put_same h2 (K.key hk)];simp
 ·have hne:ky≠kl:=fun q=>e (hinj _ _ (K.inj hy (q ▸ hk)));rw[Go.Maps.atKey_put_other hne,h3 y ky hy];simp[e]
open Go.RowKit
namespace Pc
structure PC where
 rep:Int
 rel:Int
 con:Int
 sit:Int
 lay:Int
 nf:Int
 nt:Int
 gua:Int
 seen:Nat→Bool
 cs:List (ByteArray× Ch)
 rs:List (Int× ByteArray× Ch)
 os:List (Int× Ch)
 cr:List Ch
 ls:List Li
 fs:List Of
def wReport:ByteArray:=⟨#[114,101,112,111,114,116]⟩
def wRelease:ByteArray:=⟨#[114,101,108,101,97,115,101]⟩
def wConnect:ByteArray:=⟨#[99,111,110,110,101,99,116]⟩
def wSit:ByteArray:=⟨#[115,105,116]⟩
def wLayover:ByteArray:=⟨#[108,97,121,111,118,101,114]⟩
def wGuarantee:ByteArray:=⟨#[103,117,97,114,97,110,116,101,101]⟩
def wNight:ByteArray:=⟨#[110,105,103,104,116]⟩
def wConst:ByteArray:=⟨#[99,111,110,115,116]⟩
def wIs:ByteArray:=⟨#[105,115]⟩
def wRule:ByteArray:=⟨#[114,117,108,101]⟩
def wCost:ByteArray:=⟨#[99,111,115,116]⟩
def wCredit:ByteArray:=⟨#[99,114,101,100,105,116]⟩
def wLimit:ByteArray:=⟨#[108,105,109,105,116]⟩
def wOff:ByteArray:=⟨#[111,102,102]⟩
def wIn:ByteArray:=⟨#[105,110]⟩
def wTo:ByteArray:=⟨#[116,111]⟩
def wDays:ByteArray:=⟨#[100,97,121,115]⟩
def wDuty:ByteArray:=⟨#[100,117,116,121]⟩
def wRest:ByteArray:=⟨#[114,101,115,116]⟩
def wPairing:ByteArray:=⟨#[112,97,105,114,105,110,103]⟩
def fieldsL:List ByteArray:=[wReport,wRelease,wConnect,wSit,wLayover,wGuarantee,wNight]
def scopeT(s:ByteArray):Int:=if s=wDuty then 1 else if s=wRest then 2 else if s=wPairing then 3 else 0
def tok(L:List Tk.T4)(i:Nat):Tk.T3:=match L[i]? with
 | some t=>t.t
 | none=>⟨0,⟨#[]⟩,0⟩
def kd(L:List Tk.T4)(i:Nat)(k:Int):Bool:=decide (i < L.length) && decide ((tok L i).kind=k)
def isW(L:List Tk.T4)(i:Nat)(s:ByteArray):Bool:=kd L i 1 && decide ((tok L i).text=s)
def nmd(L:List Tk.T4)(i:Nat):Bool:=kd L i 1 && yh (tok L i).text
def tree(L:List Tk.T4):Ch:=match (Pz.pv L .ex 0).1 with
 | some x=>x
 | none=>⟨0,0,⟨0,0,⟨#[]⟩,none,0⟩,.nil⟩
def setSeen(c:PC)(i:Nat):PC:={ c with seen:=fun j=>if j=i then true else c.seen j }
def setField(c:PC)(i:Nat)(L:List Tk.T4):PC:=match i with
 | 0=>{ c with rep:=(tok L 1).num }
 | 1=>{ c with rel:=(tok L 1).num }
 | 2=>{ c with con:=(tok L 1).num }
 | 3=>{ c with sit:=(tok L 1).num }
 | 4=>{ c with lay:=(tok L 1).num }
 | 5=>{ c with gua:=(tok L 1).num }
 | _=>{ c with nf:=(tok L 1).num,nt:=(tok L 3).num }
def fieldT(c:PC)(L:List Tk.T4)(i:Nat):PC× Int :=
 if i < 6∧(L.length≠2∨kd L 1 3=false) then (c,1) else
 if i=6∧(L.length≠4∨kd L 1 4=false∨isW L 2 wTo=false∨kd L 3 4=false) then (c,1) else
 if c.seen i=true then (c,7) else (setField (setSeen c i) i L,0)
def ifEx(c:PC)(L:List Tk.T4)(f:Ch→PC):PC× Int:=if 0≤kz L then (c,1) else (f (tree L),0)
def declT(c:PC)(L:List Tk.T4):PC× Int :=
 if kd L 0 1=false then (c,1) else
 match fieldsL.findIdx? (fun s=>decide (s=(tok L 0).text)) with
 | some i=>fieldT c L i
 | none =>
   if (tok L 0).text=wConst∧nmd L 1=true∧isW L 2 wIs=true then ifEx c (L.drop 3) fun x=>{ c with cs:=c.cs++[((tok L 1).text,x)] } else
   if scopeT (tok L 0).text≠0∧isW L 1 wRule=true∧nmd L 2=true∧isW L 3 wIs=true then ifEx c (L.drop 4) fun x=>{ c with rs:=c.rs++[(scopeT (tok L 0).text,(tok L 2).text,x)] } else
   if scopeT (tok L 0).text≠0∧isW L 1 wCost=true∧isW L 2 wIs=true then ifEx c (L.drop 3) fun x=>{ c with os:=c.os++[(scopeT (tok L 0).text,x)] } else
   if (tok L 0).text=wDuty∧isW L 1 wCredit=true∧isW L 2 wIs=true then ifEx c (L.drop 3) fun x=>{ c with cr:=c.cr++[x] } else
   if (tok L 0).text=wLimit∧L.length=8∧nmd L 1=true∧isW L 2 wIs=true∧kd L 3 1=true∧isW L 5 wIn=true∧kd L 6 2=true∧isW L 7 wDays=true then
    (if (qW (tok L 3).text=2∧kd L 4 3=true)∨(qW (tok L 3).text=1∧kd L 4 2=true) then ({ c with ls:=c.ls++[⟨(tok L 1).text,(tok L 3).text,(tok L 4).num,(tok L 6).num⟩] },0) else (c,1)) else
   if (tok L 0).text=wOff∧L.length=7∧nmd L 1=true∧isW L 2 wIs=true∧kd L 3 2=true∧isW L 4 wIn=true∧kd L 5 2=true∧isW L 6 wDays=true then ({ c with fs:=c.fs++[⟨(tok L 1).text,(tok L 3).num,(tok L 5).num⟩] },0) else
   (c,1)
def linesT:PC→Nat→List ByteArray→PC× Int× Int
 | c,_,[]=>(c,0,0)
 | c,i,s :: r =>
   if (Tk.scanT s).2.2≠0 then (c,(i:Int)+1,(Tk.scanT s).2.2) else
   if (Tk.scanT s).1=[] then linesT c (i+1) r else
   if (declT c (Tk.scanT s).1).2≠0 then (c,(i:Int)+1,(declT c (Tk.scanT s).1).2) else linesT (declT c (Tk.scanT s).1).1 (i+1) r
def pc0:PC:=⟨0,0,0,1440,2880,0,0,0,fun _=>false,[],[],[],[],[],[]⟩
end Pc
def FoAv(Av:Nat→Prop):Fo→Nat→Prop
 | .nil,_=>True
 | .node b _ _ k r,B=>Av B∧FoAv Av k b∧FoAv Av r B
theorem FoAv.mono{A B:Nat→Prop}(h:∀g,A g→B g){T:Fo}{g:Nat}(hT:FoAv A T g):FoAv B T g:=by
 induction T generalizing g with
 | nil=>trivial
 | node b o a k r ihk ihr=>exact⟨h _ hT.1,ihk hT.2.1,ihr hT.2.2⟩
section
theorem FoGe.av{T:Fo}{B g:Nat}(h:FoAv (fun x=>B≤x) T g):FoGe B T g:=by
 induction T generalizing g with
 | nil=>trivial
 | node b o a k r ihk ihr=>exact⟨h.1,ihk h.2.1,ihr h.2.2⟩
theorem FoAv.lt{w:World}{Av:Nat→Prop}{T:Fo}{B O:Nat}(h:FoAt w T B O)(ha:FoAv Av T B):FoAv (fun g=>Av g∧g < w.heap.size) T B:=by
 induction T generalizing B O with
 | nil=>trivial
 | node b o a k r ihk ihr =>
   obtain⟨⟨h0,-⟩,hp,hkk,hr⟩:=h;exact⟨⟨ha.1,block_lt_of_cell h0⟩,ihk hkk ha.2.1,ihr hr ha.2.2⟩
theorem FoAt.grownAv{w w':World}{s:Nat}{T:Fo}{B O:Nat}(h:FoAt w T B O)(ha:FoAv (fun g=>g≠s) T B)(hg:w.grownBy w' (some s)):FoAt w' T B O:=by
 induction T generalizing B O with
 | nil=>trivial
 | node b o a k r ihk ihr =>
   obtain⟨⟨h0,h1,h2,h3⟩,hp,hkk,hr⟩:=h;have e:∀i,w'.cell? ⟨B,i,none⟩=w.cell? ⟨B,i,none⟩:=fun i=>World.cell?_of_block (hg.block B (block_lt_of_cell h0) (fun q=>ha.1 (inj q)));exact⟨⟨by rw[e];exact h0,by rw[e];exact h1,by rw[e];exact h2,by rw[e];exact h3⟩,hp,ihk hkk ha.2.1,ihr hr ha.2.2⟩
end
section
open Go.Maps (has size IsMap)
end
theorem results_cell_tmp{fn:Func}{p u:Tmp}{ty:TypeId}(h:fn.results=#[.cell p ty,.tmp u])(tmps:Array Value)(P:Program)(w:World) :
 (results fn tmps).run P w=((asAddr (tmps.getD p undef)).run P w).andThen fun a w₁=>((loadVar ty a).run P w₁).andThen fun v w₂=>.ok (.tuple #[v,tmps.getD u undef]) w₂:=by
 simp only[results,h];simp[Sem.run_bind,Result.andThen]
theorem len1{L:List Int}(h:L.length=1):∃x,L=[x]:=by
 match L,h with
 | [x],_=>exact⟨x,rfl⟩
theorem len2{L:List Int}(h:L.length=2):∃x y,L=[x,y]:=by
 match L,h with
 | [x,y],_=>exact⟨x,y,rfl⟩
theorem len3{L:List Int}(h:L.length=3):∃x y z,L=[x,y,z]:=by
 match L,h with
 | [x,y,z],_=>exact⟨x,y,z,rfl⟩
theorem vh(w:World)(g i:Nat)(u:Value):w.grownBy (w.setCell ⟨g,i,none⟩ u) (some g):=⟨rfl,rfl,rfl,by simp[World.setCell],fun k hk hr=>Below.heap_setCell _ _ _ _ (fun e=>hr (by rw[e]))⟩
theorem ExAt.grownO{w w':World}{b o:Nat}{a:Nd}{k:Fo}{row:Option Nat}(h:ExAt w b o a k)(ha:FoAv (fun g=>row≠some g) k b)(hg:w.grownBy w' row):ExAt w' b o a k:=by
 cases row with
 | some s=>exact⟨h.1,h.2.grownAv (ha.mono fun g hg e=>hg (by rw[e])) hg⟩
 | none =>
   have hb:Below w.heap.size w w':=⟨hg.os,hg.tape,hg.output,hg.size,fun m hm=>hg.block m hm (by simp)⟩;exact h.next hb
theorem FoAv.all{Av:Nat→Prop}(h:∀g,Av g)(T:Fo)(B:Nat):FoAv Av T B:=by
 induction T generalizing B with
 | nil=>trivial
 | node b o a k r ihk ihr=>exact⟨h _,ihk _,ihr _⟩
theorem jw{α β:Type}(f:α→β){L:List α}{j:Nat}{x:α}(h:L[j]?=some x):(L.take (j+1)).map f=(L.take j).map f++[f x]:=by rw[List.take_add_one,h];simp
theorem Tryz.zeroB (w:World):(zeroValue 4).run Tryz.prog w=.ok (.bool false) w:=by kernel_rfl
def SS(w:World)(b:Nat)(L:List ByteArray):Prop:=SetM Tryz.prog 9 4 (fun s:ByteArray=>Value.string s) w b L
theorem xQ{w:World}{b:Nat}{L:List ByteArray}(h:SS w b L)(s:ByteArray)(hs:s.size≤maxLen):(Instr.lookup 76 (.map (some b)) (.string s) false).run Tryz.prog w=.ok (.bool (yr L s)) w :=
 SetM.look h Tryz.keyS Tryz.underlying76 Tryz.underlying4 (Tryz.zeroB w) s (Go.WideMaps.keyOf_string_mk Tryz.underlying9 hs)
theorem uY{w:World}{b:Nat}{L:List ByteArray}(h:SS w b L)(s:ByteArray)(hs:s.size≤maxLen)(hl:L.length < maxLen):∃w',(Instr.mapUpdate 76 (.map (some b)) (.string s) (.bool true)).run Tryz.prog w=.ok () w'∧SS w' b (L++[s])∧w.grownBy w' (some b) :=
 SetM.put h Tryz.keyS Tryz.underlying76 Tryz.underlying4 hl (fun x y q=>by injection q) s (Go.WideMaps.keyOf_string_mk Tryz.underlying9 hs)
structure CtBox (w:World) (g:Nat) (c:Ct) (p:Cp):Prop where
 c0:w.cell? ⟨g,0,none⟩=some (.int .i64 c.rep)
 c1:w.cell? ⟨g,1,none⟩=some (.int .i64 c.rel)
 c2:w.cell? ⟨g,2,none⟩=some (.int .i64 c.con)
 c3:w.cell? ⟨g,3,none⟩=some (.int .i64 c.sit)
 c4:w.cell? ⟨g,4,none⟩=some (.int .i64 c.lay)
 c5:w.cell? ⟨g,5,none⟩=some (.int .i64 c.nf)
 c6:w.cell? ⟨g,6,none⟩=some (.int .i64 c.nt)
 c7:w.cell? ⟨g,7,none⟩=some (.slice p.cs c.cs.length p.ccs)
 c8:w.cell? ⟨g,8,none⟩=some (.slice p.rs c.rs.length p.crs)
 c9:w.cell? ⟨g,9,none⟩=some (.slice p.os c.os.length p.cos)
 c10:w.cell? ⟨g,10,none⟩=some (.slice p.cr (len c.cr) p.ccr)
 c11:w.cell? ⟨g,11,none⟩=some (.slice p.ls c.ls.length p.cls)
 c12:w.cell? ⟨g,12,none⟩=some (.slice p.fs c.fs.length p.cfs)
 c13:w.cell? ⟨g,13,none⟩=some (.int .i64 c.gua)
 lt:g < w.heap.size
theorem CtBox.next{w w':World}{g:Nat}{c:Ct}{p:Cp}(h:CtBox w g c p)(hb:Below w.heap.size w w'):CtBox w' g c p where
 c0:=qa h.c0 hb
 c1:=qa h.c1 hb
 c2:=qa h.c2 hb
 c3:=qa h.c3 hb
 c4:=qa h.c4 hb
 c5:=qa h.c5 hb
 c6:=qa h.c6 hb
 c7:=qa h.c7 hb
 c8:=qa h.c8 hb
 c9:=qa h.c9 hb
 c10:=qa h.c10 hb
 c11:=qa h.c11 hb
 c12:=qa h.c12 hb
 c13:=qa h.c13 hb
 lt:=Nat.lt_of_lt_of_le h.lt hb.size
theorem CtBox.grown{w w':World}{g nb:Nat}{c:Ct}{p:Cp}(h:CtBox w g c p)(hb:w.grownBy w' (some nb))(hn:g≠nb):CtBox w' g c p where
 c0:=hb.cell h.c0 (fun e=>hn (inj e))
 c1:=hb.cell h.c1 (fun e=>hn (inj e))
 c2:=hb.cell h.c2 (fun e=>hn (inj e))
 c3:=hb.cell h.c3 (fun e=>hn (inj e))
 c4:=hb.cell h.c4 (fun e=>hn (inj e))
 c5:=hb.cell h.c5 (fun e=>hn (inj e))
 c6:=hb.cell h.c6 (fun e=>hn (inj e))
 c7:=hb.cell h.c7 (fun e=>hn (inj e))
 c8:=hb.cell h.c8 (fun e=>hn (inj e))
 c9:=hb.cell h.c9 (fun e=>hn (inj e))
 c10:=hb.cell h.c10 (fun e=>hn (inj e))
 c11:=hb.cell h.c11 (fun e=>hn (inj e))
 c12:=hb.cell h.c12 (fun e=>hn (inj e))
 c13:=hb.cell h.c13 (fun e=>hn (inj e))
 lt:=Nat.lt_of_lt_of_le h.lt hb.size
theorem CtBox.start(w:World)(c:Ct)(p:Cp):CtBox (w.alloc (.cells #[.int .i64 c.rep,.int .i64 c.rel,.int .i64 c.con,.int .i64 c.sit,.int .i64 c.lay,.int .i64 c.nf,.int .i64 c.nt,.slice p.cs c.cs.length p.ccs,.slice p.rs c.rs.length p.crs,.slice p.os c.os.length p.cos,.slice p.cr (len c.cr) p.ccr,.slice p.ls c.ls.length p.cls,.slice p.fs c.fs.length p.cfs,.int .i64 c.gua] 43)) w.heap.size c p where
 c0:=by simp[go_sem]
 c1:=by simp[go_sem]
 c2:=by simp[go_sem]
 c3:=by simp[go_sem]
 c4:=by simp[go_sem]
 c5:=by simp[go_sem]
 c6:=by simp[go_sem]
 c7:=by simp[go_sem]
 c8:=by simp[go_sem]
 c9:=by simp[go_sem]
 c10:=by simp[go_sem]
 c11:=by simp[go_sem]
 c12:=by simp[go_sem]
 c13:=by simp[go_sem]
 lt:=by simp
def zw(n lo hi:Int):Bool:=decide (lo≤n∧n≤hi)
theorem yi(n lo hi:Int)(w:World):Calls Tryz.prog 56 #[.int .i64 n,.int .i64 lo,.int .i64 hi] w fun e w'=>e=.returned (.bool (zw n lo hi))∧w=w':=by
 by_cases h1:lo≤n
 ·have hb:decide (n ≥ lo)=true:=decide_eq_true h1;go_enter Tryz.func56,Tryz.ntmps56;go_wp2
  all_goals
   go_ret;exact⟨qh (by unfold zw;simp[h1]),rfl⟩
 ·have hb:¬n ≥ lo:=h1;go_enter Tryz.func56,Tryz.ntmps56;go_wp2
  all_goals
   go_ret;exact⟨qh (by unfold zw;rw[decide_eq_false (by omega)]),rfl⟩
theorem jy(n:Int)(w:World):Calls Tryz.prog 59 #[.int .i64 n] w fun e w'=>e=.returned (.bool (YD n))∧w=w':=by
 have S:Hid (YD n=zw n 1 3):=rfl;go_enter Tryz.func59,Tryz.ntmps59;go_wp2_with (go_at_call 56;refine(yi _ _ _ _).mono ?_;rw[← S.out];rintro e w1 ⟨rfl,rfl⟩);go_ret;exact⟨rfl,rfl⟩
def zZ(s:ByteArray):Int:=if qW s=2 then 3 else if qW s=1 then 2 else 0
theorem QA(s:ByteArray):zZ s=0↔qW s=0:=by
 have h:qW s=2∨qW s=1∨qW s=0:=by
  unfold qW
  split
  ·exact .inl rfl
  ·split
   ·exact .inr (.inl rfl)
   ·exact .inr (.inr rfl)
 unfold zZ;rcases h with h|h|h<;>simp[h]
theorem zE(s:ByteArray)(w:World):Calls Tryz.prog 48 #[.string s] w fun e w'=>e=.returned (.int .i64 (zZ s))∧w=w':=by
 have R:Hid (qW s=if yk.1.any (fun x=>s.toList==x)=true then 2 else if yk.2.any (fun x=>s.toList==x)=true then 1 else 0):=by unfold Hid qW;rw[Lib.toList_data]
 go_enter Tryz.func48,Tryz.ntmps48;go_wp2
 all_goals
  go_ret;refine⟨qg ?_,rfl⟩;unfold zZ;rw[R.out];simp only[yk,List.any_cons,List.any_nil];clear R
  simp_all
def rkV(x:Int× ByteArray):Value:=.agg #[.int .i64 x.1,.string x.2]
theorem Tryz.wideK:(match Tryz.prog.underlying 146 with|some (.array _ _)|some (.struct _)=>true|_=>false)=true:=by kernel_rfl
theorem Tryz.keyR:Go.Maps.Keyed Tryz.prog 146:=Go.Maps.Keyed.of_law (deep_law_laid (by kernel_rfl) (m:=2) (by omega) (of_decide_eq_true (by kernel_rfl)) (by kernel_rfl) Tryz.wideK)
theorem Yb(sc:Int)(s:ByteArray)(h1:(Lit.int .i64 sc).wf=true)(h2:s.size≤maxLen):∃kl,keyOf Tryz.prog 146 (.agg #[.int .i64 sc,.string s])=some kl:=by
 obtain⟨m,hm⟩:∃m,Tryz.prog.types.size=m+1:=⟨Tryz.prog.types.size - 1,by have:0 < Tryz.prog.types.size:=of_decide_eq_true (by kernel_rfl);omega⟩;have hkt:Tryz.prog.keyType 146=true:=by kernel_rfl
 have hc:Tryz.prog.cellsOf 146=2:=by kernel_rfl
 have hi:Tryz.prog.cellsOf 3=1:=by kernel_rfl
 have hs:Tryz.prog.cellsOf 9=1:=by kernel_rfl
 have hf:(Value.agg #[.int .i64 sc,.string s]).formed Tryz.prog 146=true:=by simp[Value.formed,Tryz.underlying146,hc]
 have k0:Tryz.prog.keyLits (m+1) 3 [.int .i64 sc]=some [.int .i64 sc]:=by simp[Program.keyLits,Tryz.underlying3,h1]
 have k1:Tryz.prog.keyLits (m+1) 9 [.string s]=some [.string s.data.toList]:=by simp[Program.keyLits,Tryz.underlying9,h2]
 have kk:Tryz.prog.keyLits (Tryz.prog.types.size+1) 146 [.int .i64 sc,.string s]=some [.int .i64 sc,.string s.data.toList]:=by
  rw[hm];unfold Program.keyLits;rw[Tryz.underlying146];simp[hc,hi,hs,k0,k1]
 refine⟨.string (keyBytes [.int .i64 sc,.string s.data.toList]),?_⟩;unfold keyOf;rw[Tryz.underlying146];dsimp only;rw[hkt,hf]
 show Option.map _ (Tryz.prog.keyLits (Tryz.prog.types.size+1) 146 [.int .i64 sc,.string s])=_
 rw[kk];rfl
def RS(w:World)(b:Nat)(L:List (Int× ByteArray)):Prop:=SetM Tryz.prog 146 4 rkV w b L
theorem KY{w:World}{b:Nat}{L:List (Int× ByteArray)}(h:RS w b L)(sc:Int)(s:ByteArray)(h1:(Lit.int .i64 sc).wf=true)(hs:s.size≤maxLen):(Instr.lookup 144 (.map (some b)) (.agg #[.int .i64 sc,.string s]) false).run Tryz.prog w=.ok (.bool (yr L (sc,s))) w:=by
 obtain⟨kl,hk⟩:=Yb sc s h1 hs;exact SetM.look h Tryz.keyR Tryz.underlying144 Tryz.underlying4 (Tryz.zeroB w) (sc,s) hk
theorem UO{w:World}{b:Nat}{L:List (Int× ByteArray)}(h:RS w b L)(sc:Int)(s:ByteArray)(h1:(Lit.int .i64 sc).wf=true)(hs:s.size≤maxLen)(hl:L.length < maxLen):∃w',(Instr.mapUpdate 144 (.map (some b)) (.agg #[.int .i64 sc,.string s]) (.bool true)).run Tryz.prog w=.ok () w'∧RS w' b (L++[(sc,s)])∧w.grownBy w' (some b):=by
 obtain⟨kl,hk⟩:=Yb sc s h1 hs
 exact SetM.put h Tryz.keyR Tryz.underlying144 Tryz.underlying4 hl (fun x y q=>by
  obtain⟨x1,x2⟩:=x;obtain⟨y1,y2⟩:=y;simp only[rkV] at q;injection q with q
  simpa using q) (sc,s) hk
theorem vu(cs:List Cn)(p:Option Addr)(cap:Nat)(w:World)(hcs:RowV CnP 5 w cs p)(hl:cs.length≤32) :
 Calls Tryz.prog 57 #[.slice p cs.length cap] w fun e w'=>e=.returned (.int .i64 (fe (ze cs) 0 cs.length))∧Below w.heap.size w w':=by
 have HCS:=hid hcs;clear hcs;obtain⟨R,hR⟩:∃R,fe (ze cs) 0 cs.length=R:=⟨_,rfl⟩;have HR0:=hid hR;rw[hR];clear hR;have hmm:=@run_makeMap Tryz.prog;go_enter Tryz.func57,Tryz.ntmps57;go_wp2_with fail
 go_loopw [10] (fun i wr=>∃j:Nat,j≤cs.length∧i=.int .i64 j∧Hid (SS wr w.heap.size ((cs.take j).map (·.name))∧Below w.heap.size w wr∧fe (ze cs) j (cs.length - j)=R)) (fun i _=>cs.length - (intOf i).toNat)
 case atStart=>exact⟨0,Nat.zero_le _,rfl,SetM.start _ _ _ _ _,ba1,HR0.out⟩
 case round =>
  obtain⟨j,hj,rfl,HR⟩:=hrel
  by_cases qD:j < cs.length
  ·obtain ⟨c,hc⟩:∃c,cs[j]?=some c:=⟨_,List.getElem?_eq_getElem (by omega)⟩;obtain⟨B,O,rfl,hP⟩:=HCS.out.get hc;obtain⟨d0,⟨⟨d1,d2,d3,d4⟩,hx,hok⟩,hs⟩:=hP.next HR.out.2.1
   have HX:=hid hP.2.1.2.1;have HOK:=hid hok;have hs':c.name.size≤maxLen:=hs;have hj1:(j:Int) < (cs.length:Int):=(by omega);have FA:=hid ((kB (f:=ze cs) qD).symm.trans HR.out.2.2);have CA:Hid (ze cs j=if yh c.name=false then 1 else if yr ((cs.take j).map (·.name)) c.name=true then 7 else qQ c.a c.k):=(by unfold Hid ze;rw[hc]);have TS:=hid (jw (·.name) hc);have hln:((cs.take j).map (·.name)).length < maxLen:=(by simp[maxLen];omega);clear hP hx hok hc;go_upto_region 5 with (fail);have B1:Hid (Below w.heap.size w (wr.alloc (.cells #[.string c.name,.int .i64 c.a.op,.int .i64 c.a.num,.string c.a.name,.slice c.a.ptr (len c.k) c.a.cap] 85))):=HR.out.2.1.alloc HR.out.2.1.size _;have S1:Hid (SS (wr.alloc (.cells #[.string c.name,.int .i64 c.a.op,.int .i64 c.a.num,.string c.a.name,.slice c.a.ptr (len c.k) c.a.cap] 85)) w.heap.size ((cs.take j).map (·.name))):=SetM.next HR.out.1 ba1
   have hgw:w.heap.size < wr.heap.size:=SetM.lt HR.out.1;have e0:(wr.alloc (.cells #[.string c.name,.int .i64 c.a.op,.int .i64 c.a.num,.string c.a.name,.slice c.a.ptr (len c.k) c.a.cap] 85)).cell? ⟨wr.heap.size,0,none⟩=some (.string c.name):=(by simp[go_sem]);have e1:(wr.alloc (.cells #[.string c.name,.int .i64 c.a.op,.int .i64 c.a.num,.string c.a.name,.slice c.a.ptr (len c.k) c.a.cap] 85)).cell? ⟨wr.heap.size,1,none⟩=some (.int .i64 c.a.op):=(by simp[go_sem]);have e2:(wr.alloc (.cells #[.string c.name,.int .i64 c.a.op,.int .i64 c.a.num,.string c.a.name,.slice c.a.ptr (len c.k) c.a.cap] 85)).cell? ⟨wr.heap.size,2,none⟩=some (.int .i64 c.a.num):=(by simp[go_sem]);have e3:(wr.alloc (.cells #[.string c.name,.int .i64 c.a.op,.int .i64 c.a.num,.string c.a.name,.slice c.a.ptr (len c.k) c.a.cap] 85)).cell? ⟨wr.heap.size,3,none⟩=some (.string c.a.name):=(by simp[go_sem]);have e4:(wr.alloc (.cells #[.string c.name,.int .i64 c.a.op,.int .i64 c.a.num,.string c.a.name,.slice c.a.ptr (len c.k) c.a.cap] 85)).cell? ⟨wr.heap.size,4,none⟩=some (.slice c.a.ptr (len c.k) c.a.cap):=(by simp[go_sem]);generalize wr.alloc (.cells #[.string c.name,.int .i64 c.a.op,.int .i64 c.a.num,.string c.a.name,.slice c.a.ptr (len c.k) c.a.cap] 85)=w1 at *;have hlook:=xQ S1.out c.name hs';clear d0 d1 d2 d3 d4;cases hD:yh c.name
   ·have HD:=hid hD;have RQ:Hid (R=1):=(by unfold Hid;rw[← FA.out,CA.out,hD];rfl);clear hD;go_wp2_with (go_at_call 108;refine(qX _ _ hs).mono ?_;rw[HD.out];rintro e w2 ⟨rfl,rfl⟩);go_ret;exact⟨qg RQ.out.symm,B1.out⟩
   ·have HD:=hid hD;cases hU:yr ((cs.take j).map (·.name)) c.name
    ·have CQ:Hid (ze cs j=qQ c.a c.k):=by unfold Hid;rw[CA.out,hD,hU];rfl
     rw[hU] at hlook;obtain⟨w9,hput,hS9,hG9⟩:=uY S1.out c.name hs' hln;have S9:=hid hS9;have B9:Hid (Below w.heap.size w w9):=B1.out.grown hG9 B1.out.size (fun m hm=>by cases hm;exact Nat.le_refl _);have hne:some wr.heap.size≠some w.heap.size:=(by simp;omega);have f1:=hG9.cell e1 hne;have f2:=hG9.cell e2 hne;have f3:=hG9.cell e3 hne;have f4:=hG9.cell e4 hne;clear hD hU hS9 hG9;go_wp2_with (go_at_call 108;refine(qX _ _ hs).mono ?_;rw[HD.out];rintro e w2 ⟨rfl,rfl⟩);refine(js c.b c.o _ _ _ _ _ c.k w9 (HX.out.next B9.out) HOK.out).mono ?_;rintro e w3 ⟨rfl,hb⟩;have B3:=hid (bt9 B9 hb);have S3:Hid (SS w3 w.heap.size ((cs.take (j+1)).map (·.name))):=(by unfold Hid;rw[TS.out];exact SetM.next S9.out hb);have CQ2:Hid (ze cs j=qQ ⟨c.a.op,c.a.num,c.a.name,c.a.ptr,c.a.cap⟩ c.k):=CQ.out;generalize qQ ⟨c.a.op,c.a.num,c.a.name,c.a.ptr,c.a.cap⟩ c.k=ve at *;clear hb hput hlook e0 e1 e2 e3 e4 f1 f2 f3 f4
     by_cases h0:ve=0
     ·have b0:(ve != 0)=false:=by simp[h0]
      have RQ:Hid (fe (ze cs) (j+1) (cs.length - (j+1))=R):=(by unfold Hid;rw[← FA.out,CQ2.out,h0,yg]);clear h0;go_wp2
      go_roundw
      case rel=>exact⟨j+1,by omega,by go_num,S3.out,B3.out,RQ.out⟩
      case measure=>simp[intOf];omega
     ·have b0:(ve != 0)=true:=by simp[h0]
      have RQ:Hid (R=ve):=(by unfold Hid;rw[← FA.out,CQ2.out,zf h0]);clear h0;go_wp2;go_ret;exact⟨qg RQ.out.symm,B3.out⟩
    ·have RQ:Hid (R=7):=by unfold Hid;rw[← FA.out,CA.out,hD,hU];rfl
     rw[hU] at hlook;clear hD hU;go_wp2_with (go_at_call 108;refine(qX _ _ hs).mono ?_;rw[HD.out];rintro e w2 ⟨rfl,rfl⟩);go_ret;exact⟨qg RQ.out.symm,B1.out⟩
  ·have hj1:¬(j:Int) < (cs.length:Int):=by omega
   have RQ:Hid (R=0):=(by unfold Hid;rw[← HR.out.2.2,jr (by omega)]);go_wp2;go_ret;exact⟨qg RQ.out.symm,HR.out.2.1⟩
theorem Qj(cs:List Ru)(p:Option Addr)(cap:Nat)(w:World)(hcs:RowV RuP 6 w cs p)(hl:cs.length≤40) :
 Calls Tryz.prog 58 #[.slice p cs.length cap] w fun e w'=>e=.returned (.int .i64 (fe (yT cs) 0 cs.length))∧Below w.heap.size w w':=by
 have HCS:=hid hcs;clear hcs;obtain⟨R,hR⟩:∃R,fe (yT cs) 0 cs.length=R:=⟨_,rfl⟩;have HR0:=hid hR;rw[hR];clear hR;have hmm:=@run_makeMap Tryz.prog;go_enter Tryz.func58,Tryz.ntmps58;go_wp2_with fail
 go_loopw [11] (fun i wr=>∃j:Nat,j≤cs.length∧i=.int .i64 j∧Hid (RS wr w.heap.size ((cs.take j).map fun r=>(r.sc,r.name))∧Below w.heap.size w wr∧fe (yT cs) j (cs.length - j)=R)) (fun i _=>cs.length - (intOf i).toNat)
 case atStart=>exact⟨0,Nat.zero_le _,rfl,SetM.start _ _ _ _ _,ba1,HR0.out⟩
 case round =>
  obtain⟨j,hj,rfl,HR⟩:=hrel
  by_cases qD:j < cs.length
  ·obtain ⟨c,hc⟩:∃c,cs[j]?=some c:=⟨_,List.getElem?_eq_getElem (by omega)⟩;obtain⟨B,O,rfl,hP⟩:=HCS.out.get hc;obtain⟨d0,d1,⟨⟨d2,d3,d4,d5⟩,hx,hok⟩,hbd,hs⟩:=hP.next HR.out.2.1
   have HX:=hid hP.2.2.1.2.1;have HOK:=hid hok;have hs':c.name.size≤maxLen:=hs;have hwf:(Lit.int .i64 c.sc).wf=true:=WalkArith.wf_i64 hbd;have HWF:=hid hwf;have hj1:(j:Int) < (cs.length:Int):=(by omega);have FA:=hid ((kB (f:=yT cs) qD).symm.trans HR.out.2.2);have CA:Hid (yT cs j=if YD c.sc=false∨yh c.name=false then 1 else if yr ((cs.take j).map fun r=>(r.sc,r.name)) (c.sc,c.name)=true then 7 else qQ c.a c.k):=(by unfold Hid yT;rw[hc]);have TS:=hid (jw (fun r:Ru=>(r.sc,r.name)) hc);have hln:((cs.take j).map fun r=>(r.sc,r.name)).length < maxLen:=(by simp[maxLen];omega);clear hP hx hok hc hwf hbd;go_upto_region 5 with (fail);have B1:Hid (Below w.heap.size w (wr.alloc (.cells #[.int .i64 c.sc,.string c.name,.int .i64 c.a.op,.int .i64 c.a.num,.string c.a.name,.slice c.a.ptr (len c.k) c.a.cap] 87))):=HR.out.2.1.alloc HR.out.2.1.size _;have S1:Hid (RS (wr.alloc (.cells #[.int .i64 c.sc,.string c.name,.int .i64 c.a.op,.int .i64 c.a.num,.string c.a.name,.slice c.a.ptr (len c.k) c.a.cap] 87)) w.heap.size ((cs.take j).map fun r=>(r.sc,r.name))):=SetM.next HR.out.1 ba1
   have hgw:w.heap.size < wr.heap.size:=SetM.lt HR.out.1;have hz1:wr.heap.size < (wr.alloc (.cells #[.int .i64 c.sc,.string c.name,.int .i64 c.a.op,.int .i64 c.a.num,.string c.a.name,.slice c.a.ptr (len c.k) c.a.cap] 87)).heap.size:=(by simp);have e0:(wr.alloc (.cells #[.int .i64 c.sc,.string c.name,.int .i64 c.a.op,.int .i64 c.a.num,.string c.a.name,.slice c.a.ptr (len c.k) c.a.cap] 87)).cell? ⟨wr.heap.size,0,none⟩=some (.int .i64 c.sc):=(by simp[go_sem]);have e1:(wr.alloc (.cells #[.int .i64 c.sc,.string c.name,.int .i64 c.a.op,.int .i64 c.a.num,.string c.a.name,.slice c.a.ptr (len c.k) c.a.cap] 87)).cell? ⟨wr.heap.size,1,none⟩=some (.string c.name):=(by simp[go_sem]);have e2:(wr.alloc (.cells #[.int .i64 c.sc,.string c.name,.int .i64 c.a.op,.int .i64 c.a.num,.string c.a.name,.slice c.a.ptr (len c.k) c.a.cap] 87)).cell? ⟨wr.heap.size,2,none⟩=some (.int .i64 c.a.op):=(by simp[go_sem]);have e3:(wr.alloc (.cells #[.int .i64 c.sc,.string c.name,.int .i64 c.a.op,.int .i64 c.a.num,.string c.a.name,.slice c.a.ptr (len c.k) c.a.cap] 87)).cell? ⟨wr.heap.size,3,none⟩=some (.int .i64 c.a.num):=(by simp[go_sem]);have e4:(wr.alloc (.cells #[.int .i64 c.sc,.string c.name,.int .i64 c.a.op,.int .i64 c.a.num,.string c.a.name,.slice c.a.ptr (len c.k) c.a.cap] 87)).cell? ⟨wr.heap.size,4,none⟩=some (.string c.a.name):=(by simp[go_sem]);have e5:(wr.alloc (.cells #[.int .i64 c.sc,.string c.name,.int .i64 c.a.op,.int .i64 c.a.num,.string c.a.name,.slice c.a.ptr (len c.k) c.a.cap] 87)).cell? ⟨wr.heap.size,5,none⟩=some (.slice c.a.ptr (len c.k) c.a.cap):=(by simp[go_sem]);generalize wr.alloc (.cells #[.int .i64 c.sc,.string c.name,.int .i64 c.a.op,.int .i64 c.a.num,.string c.a.name,.slice c.a.ptr (len c.k) c.a.cap] 87)=w1 at *;clear d0 d1 d2 d3 d4 d5;cases hC:YD c.sc
   ·have HC:=hid hC;have RQ:Hid (R=1):=(by unfold Hid;rw[← FA.out,CA.out,hC];rfl);clear hC;go_wp2_with (go_at_call 59;refine(jy _ _).mono ?_;rw[HC.out];rintro e w2 ⟨rfl,rfl⟩);go_ret;exact⟨qg RQ.out.symm,B1.out⟩
   ·have HC:=hid hC;cases hD:yh c.name
    ·have HD:=hid hD;have RQ:Hid (R=1):=(by unfold Hid;rw[← FA.out,CA.out,hD];simp[kr]);clear hD hC;go_wp2_with (first|(go_at_call 59;refine(jy _ _).mono ?_;rw[HC.out];rintro e w2 ⟨rfl,rfl⟩)|(go_at_call 108;refine(qX _ _ hs).mono ?_;rw[HD.out];rintro e w2 ⟨rfl,rfl⟩));go_ret;exact⟨qg RQ.out.symm,B1.out⟩
    ·have HD:=hid hD;have CB:Hid (yT cs j=if yr ((cs.take j).map fun r=>(r.sc,r.name)) (c.sc,c.name)=true then 7 else qQ c.a c.k):=(by unfold Hid;rw[CA.out,hD,hC];rfl);clear hD hC;go_upto_region 8 with (first|(go_at_call 59;refine(jy _ _).mono ?_;rw[HC.out];rintro e w2 ⟨rfl,rfl⟩)|(go_at_call 108;refine(qX _ _ hs).mono ?_;rw[HD.out];rintro e w2 ⟨rfl,rfl⟩));have B2:Hid (Below w.heap.size w (w1.alloc (.cells #[.int .i64 c.sc,.string c.name] 146))):=B1.out.alloc B1.out.size _;have S2:Hid (RS (w1.alloc (.cells #[.int .i64 c.sc,.string c.name] 146)) w.heap.size ((cs.take j).map fun r=>(r.sc,r.name))):=SetM.next S1.out ba1
     have k0:(w1.alloc (.cells #[.int .i64 c.sc,.string c.name] 146)).cell? ⟨w1.heap.size,0,none⟩=some (.int .i64 c.sc):=(by simp[go_sem]);have k1:(w1.alloc (.cells #[.int .i64 c.sc,.string c.name] 146)).cell? ⟨w1.heap.size,1,none⟩=some (.string c.name):=(by simp[go_sem]);have f2:(w1.alloc (.cells #[.int .i64 c.sc,.string c.name] 146)).cell? ⟨wr.heap.size,2,none⟩=some (.int .i64 c.a.op):=qa e2 ba1;have f3:(w1.alloc (.cells #[.int .i64 c.sc,.string c.name] 146)).cell? ⟨wr.heap.size,3,none⟩=some (.int .i64 c.a.num):=qa e3 ba1;have f4:(w1.alloc (.cells #[.int .i64 c.sc,.string c.name] 146)).cell? ⟨wr.heap.size,4,none⟩=some (.string c.a.name):=qa e4 ba1;have f5:(w1.alloc (.cells #[.int .i64 c.sc,.string c.name] 146)).cell? ⟨wr.heap.size,5,none⟩=some (.slice c.a.ptr (len c.k) c.a.cap):=qa e5 ba1;generalize w1.alloc (.cells #[.int .i64 c.sc,.string c.name] 146)=w2 at *;have hlook:=KY S2.out c.sc c.name HWF.out hs';clear e0 e1 e2 e3 e4 e5;cases hU:yr ((cs.take j).map fun r=>(r.sc,r.name)) (c.sc,c.name)
     ·have CQ:Hid (yT cs j=qQ c.a c.k):=by unfold Hid;rw[CB.out,hU];rfl
      rw[hU] at hlook;obtain⟨w9,hput,hS9,hG9⟩:=UO S2.out c.sc c.name HWF.out hs' hln;have S9:=hid hS9;have B9:Hid (Below w.heap.size w w9):=B2.out.grown hG9 B2.out.size (fun m hm=>by cases hm;exact Nat.le_refl _);have hne:some wr.heap.size≠some w.heap.size:=(by simp;omega);have g2:=hG9.cell f2 hne;have g3:=hG9.cell f3 hne;have g4:=hG9.cell f4 hne;have g5:=hG9.cell f5 hne;clear hU hS9 hG9;go_wp2_with fail;refine(js c.b c.o _ _ _ _ _ c.k w9 (HX.out.next B9.out) HOK.out).mono ?_;rintro e w3 ⟨rfl,hb⟩;have B3:=hid (bt9 B9 hb);have S3:Hid (RS w3 w.heap.size ((cs.take (j+1)).map fun r=>(r.sc,r.name))):=(by unfold Hid;rw[TS.out];exact SetM.next S9.out hb);have CQ2:Hid (yT cs j=qQ ⟨c.a.op,c.a.num,c.a.name,c.a.ptr,c.a.cap⟩ c.k):=CQ.out;generalize qQ ⟨c.a.op,c.a.num,c.a.name,c.a.ptr,c.a.cap⟩ c.k=ve at *;clear hb hput hlook f2 f3 f4 f5 g2 g3 g4 g5 k0 k1
      by_cases h0:ve=0
      ·have b0:(ve != 0)=false:=by simp[h0]
       have RQ:Hid (fe (yT cs) (j+1) (cs.length - (j+1))=R):=(by unfold Hid;rw[← FA.out,CQ2.out,h0,yg]);clear h0;go_wp2
       go_roundw
       case rel=>exact⟨j+1,by omega,by go_num,S3.out,B3.out,RQ.out⟩
       case measure=>simp[intOf];omega
      ·have b0:(ve != 0)=true:=by simp[h0]
       have RQ:Hid (R=ve):=(by unfold Hid;rw[← FA.out,CQ2.out,zf h0]);clear h0;go_wp2;go_ret;exact⟨qg RQ.out.symm,B3.out⟩
     ·have RQ:Hid (R=7):=by unfold Hid;rw[← FA.out,CB.out,hU];rfl
      rw[hU] at hlook;clear hU;go_wp2;go_ret;exact⟨qg RQ.out.symm,B2.out⟩
  ·have hj1:¬(j:Int) < (cs.length:Int):=by omega
   have RQ:Hid (R=0):=(by unfold Hid;rw[← HR.out.2.2,jr (by omega)]);go_wp2;go_ret;exact⟨qg RQ.out.symm,HR.out.2.1⟩
end Go.Proofs.YtcejjdmnlejbaaaGreatDoor
