import Derived.Test.YtljdcpobomfnpaaGreatGh
import Derived.DeepKeys4
import Derived.Test.YtljdcpobomfnpaaGreatGd
import Derived.Test.YtljdcpobomfnpaaGreatGe
import Derived.Deep.LoopGhost
import Derived.Test.YtljdcpobomfnpaaGreatGa
import Derived.Test.YtljdcpobomfnpaaGreatShelf
import Derived.Test.YtljdcpobomfnpaaGreatGf
namespace Go.Proofs.YtljdcpobomfnpaaGreat
set_option linter.unusedVariables false
set_option linter.unusedSimpArgs false
open Go.ChangeShapes Go.WideShapes Go.ChangeAt Go.RowKit
open Go.Deep (BT)
open Go.Maps (has size IsMap)
def orE (a b:Int):Int:=if a≠0 then a else b
theorem orE_ne {a b:Int} (h:a≠0):orE a b=a:=by unfold orE;rw [if_pos h]
theorem orE_zero (b:Int):orE 0 b=b:=by unfold orE;rw [if_neg (by simp)]
def fe (f:Nat→Int):Nat→Nat→Int
 | _,0=>0
 | j,n+1=>orE (f j) (fe f (j+1) n)
theorem fe_at {f:Nat→Int} {j n:Nat} (h:j < n):fe f j (n - j)=orE (f j) (fe f (j+1) (n - (j+1))):=by
 obtain ⟨m,hm⟩:∃ m,n - j=m+1:=⟨n - j - 1,by omega⟩
 rw [hm,show n - (j+1)=m by omega]
 rfl
theorem fe_end {f:Nat→Int} {j n:Nat} (h:n≤j):fe f j (n - j)=0:=by rw [Nat.sub_eq_zero_of_le h];rfl
structure Ru where
 sc:Int
 name:ByteArray
 b:Nat
 o:Nat
 a:Nd
 k:Fo
structure Co where
 sc:Int
 b:Nat
 o:Nat
 a:Nd
 k:Fo
structure Li where
 name:ByteArray
 meas:ByteArray
 most:Int
 days:Int
structure Of where
 name:ByteArray
 count:Int
 days:Int
def Bd (x:Int):Prop := -9223372036854775808≤x∧x≤9223372036854775807
def X4 (w:World) (B O:Nat) (b o:Nat) (a:Nd) (k:Fo):Prop :=
 (w.cell? ⟨B,O,none⟩=some (.int .i64 a.op)∧w.cell? ⟨B,O+1,none⟩=some (.int .i64 a.num)∧w.cell? ⟨B,O+2,none⟩=some (.string a.name)∧w.cell? ⟨B,O+3,none⟩=some (.slice a.ptr (len k) a.cap))∧ExAt w b o a k∧ExOk a k
def CnP (w:World) (B O:Nat) (c:Cn):Prop:=w.cell? ⟨B,O,none⟩=some (.string c.name)∧X4 w B (O+1) c.b c.o c.a c.k∧c.name.size≤9223372036854775807
def RuP (w:World) (B O:Nat) (r:Ru):Prop:=w.cell? ⟨B,O,none⟩=some (.int .i64 r.sc)∧w.cell? ⟨B,O+1,none⟩=some (.string r.name)∧X4 w B (O+2) r.b r.o r.a r.k∧Bd r.sc∧r.name.size≤9223372036854775807
def CoP (w:World) (B O:Nat) (r:Co):Prop:=w.cell? ⟨B,O,none⟩=some (.int .i64 r.sc)∧X4 w B (O+1) r.b r.o r.a r.k∧Bd r.sc
def LiP (w:World) (B O:Nat) (r:Li):Prop:=w.cell? ⟨B,O,none⟩=some (.string r.name)∧w.cell? ⟨B,O+1,none⟩=some (.string r.meas)∧w.cell? ⟨B,O+2,none⟩=some (.int .i64 r.most)∧w.cell? ⟨B,O+3,none⟩=some (.int .i64 r.days)∧Bd r.most∧Bd r.days∧r.name.size≤9223372036854775807∧r.meas.size≤9223372036854775807
def OfP (w:World) (B O:Nat) (r:Of):Prop:=w.cell? ⟨B,O,none⟩=some (.string r.name)∧w.cell? ⟨B,O+1,none⟩=some (.int .i64 r.count)∧w.cell? ⟨B,O+2,none⟩=some (.int .i64 r.days)∧Bd r.count∧Bd r.days∧r.name.size≤9223372036854775807
theorem cell_next {w w':World} {a:Addr} {v:Value} (h:w.cell? a=some v) (hb:Below w.heap.size w w'):w'.cell? a=some v:=by rw [hb.cell (block_lt_of_cell h)];exact h
theorem X4.next {w w':World} {B O b o:Nat} {a:Nd} {k:Fo} (h:X4 w B O b o a k) (hb:Below w.heap.size w w'):X4 w' B O b o a k :=
 ⟨⟨cell_next h.1.1 hb,cell_next h.1.2.1 hb,cell_next h.1.2.2.1 hb,cell_next h.1.2.2.2 hb⟩,h.2.1.next hb,h.2.2⟩
theorem CnP.next {w w':World} {B O:Nat} {c:Cn} (h:CnP w B O c) (hb:Below w.heap.size w w'):CnP w' B O c:=⟨cell_next h.1 hb,h.2.1.next hb,h.2.2⟩
theorem RuP.next {w w':World} {B O:Nat} {c:Ru} (h:RuP w B O c) (hb:Below w.heap.size w w'):RuP w' B O c:=⟨cell_next h.1 hb,cell_next h.2.1 hb,h.2.2.1.next hb,h.2.2.2⟩
theorem CoP.next {w w':World} {B O:Nat} {c:Co} (h:CoP w B O c) (hb:Below w.heap.size w w'):CoP w' B O c:=⟨cell_next h.1 hb,h.2.1.next hb,h.2.2⟩
theorem LiP.next {w w':World} {B O:Nat} {c:Li} (h:LiP w B O c) (hb:Below w.heap.size w w'):LiP w' B O c:=⟨cell_next h.1 hb,cell_next h.2.1 hb,cell_next h.2.2.1 hb,cell_next h.2.2.2.1 hb,h.2.2.2.2⟩
theorem OfP.next {w w':World} {B O:Nat} {c:Of} (h:OfP w B O c) (hb:Below w.heap.size w w'):OfP w' B O c:=⟨cell_next h.1 hb,cell_next h.2.1 hb,cell_next h.2.2.1 hb,h.2.2.2⟩
def RowV {α:Type} (P:World→Nat→Nat→α→Prop) (s:Nat) (w:World) (L:List α) (p:Option Addr):Prop :=
 L.length≤9223372036854775807∧∃ B O,(L≠[]→p=some ⟨B,O,none⟩)∧∀ (i:Nat) (x:α),L[i]?=some x→P w B (O+i * s) x
theorem RowV.get {α:Type} {P:World→Nat→Nat→α→Prop} {s:Nat} {w:World} {L:List α} {p:Option Addr} (h:RowV P s w L p) {i:Nat} {x:α} (hi:L[i]?=some x):∃ B O,p=some ⟨B,O,none⟩∧P w B (O+i * s) x:=by
 obtain ⟨-,B,O,h1,h2⟩:=h
 exact ⟨B,O,h1 (by rintro rfl;simp at hi),h2 i x hi⟩
theorem RowV.map {α:Type} {P:World→Nat→Nat→α→Prop} {s:Nat} {w w':World} {L:List α} {p:Option Addr} (h:RowV P s w L p) (hP:∀ B O x,P w B O x→P w' B O x):RowV P s w' L p:=by
 obtain ⟨h0,B,O,h1,h2⟩:=h
 exact ⟨h0,B,O,h1,fun i x hi=>hP _ _ _ (h2 i x hi)⟩
theorem csat_of {w:World}:∀ (cs:List Cn) (B O:Nat),(∀ (i:Nat) (x:Cn),cs[i]?=some x→CnP w B (O+i * 5) x)→CsAt w cs B O∧CsOk cs
 | [],_,_,_=>⟨trivial,fun c hc=>by cases hc⟩
 | c :: cs,B,O,h=>by
   have h0:=h 0 c rfl
   simp only [Nat.zero_mul,Nat.add_zero] at h0
   obtain ⟨q1,q2⟩:=csat_of cs B (O+5) (fun i x hi=>by
    have:=h (i+1) x (by simpa using hi)
    rw [show O+(i+1) * 5=O+5+i * 5 by omega] at this
    exact this)
   refine ⟨⟨⟨h0.1,h0.2.1.1⟩,h0.2.1.2.1,q1⟩,fun d hd=>?_⟩
   rcases List.mem_cons.1 hd with rfl|hd
   · exact ⟨h0.2.2,h0.2.1.2.2⟩
   · exact q2 d hd
theorem csv_of_row {w:World} {cs:List Cn} {p:Option Addr} (h:RowV CnP 5 w cs p) (hl:cs.length≤32):CsV w cs p:=by
 obtain ⟨-,B,O,h1,h2⟩:=h
 obtain ⟨q1,q2⟩:=csat_of cs B O h2
 exact ⟨⟨B,O,h1,q1⟩,q2,by omega⟩
def CrV (w:World) (T:Fo) (p:Option Addr):Prop:=len T≤9223372036854775807∧FoOk T∧∃ b o,(T≠.nil→p=some ⟨b,o,none⟩)∧FoAt w T b o
theorem CrV.next {w w':World} {T:Fo} {p:Option Addr} (h:CrV w T p) (hb:Below w.heap.size w w'):CrV w' T p:=by
 obtain ⟨h0,h1,b,o,h2,h3⟩:=h
 exact ⟨h0,h1,b,o,h2,h3.next hb⟩
structure Ct where
 rep:Int
 rel:Int
 con:Int
 sit:Int
 lay:Int
 nf:Int
 nt:Int
 gua:Int
 cs:List Cn
 rs:List Ru
 os:List Co
 cr:Fo
 ls:List Li
 fs:List Of
structure Cp where
 cs:Option Addr
 rs:Option Addr
 os:Option Addr
 cr:Option Addr
 ls:Option Addr
 fs:Option Addr
 ccs:Nat
 crs:Nat
 cos:Nat
 ccr:Nat
 cls:Nat
 cfs:Nat
structure CtV (w:World) (c:Ct) (p:Cp):Prop where
 cs:RowV CnP 5 w c.cs p.cs
 rs:RowV RuP 6 w c.rs p.rs
 os:RowV CoP 5 w c.os p.os
 cr:CrV w c.cr p.cr
 ls:RowV LiP 4 w c.ls p.ls
 fs:RowV OfP 3 w c.fs p.fs
 b0:Bd c.rep∧Bd c.rel∧Bd c.con∧Bd c.sit∧Bd c.lay∧Bd c.nf∧Bd c.nt∧Bd c.gua
 cap:c.cs.length≤p.ccs
theorem CtV.next {w w':World} {c:Ct} {p:Cp} (h:CtV w c p) (hb:Below w.heap.size w w'):CtV w' c p where
 cs:=h.cs.map fun _ _ _ q=>q.next hb
 rs:=h.rs.map fun _ _ _ q=>q.next hb
 os:=h.os.map fun _ _ _ q=>q.next hb
 cr:=h.cr.next hb
 ls:=h.ls.map fun _ _ _ q=>q.next hb
 fs:=h.fs.map fun _ _ _ q=>q.next hb
 b0:=h.b0
 cap:=h.cap
def dupB {α:Type} [DecidableEq α] (L:List α) (x:α):Bool:=decide (x ∈ L)
theorem dupB_snoc {α:Type} [DecidableEq α] (L:List α) (y x:α):dupB (L++[y]) x=(dupB L x || decide (x=y)):=by
 unfold dupB
 rw [Bool.eq_iff_iff]
 simp
def scB (sc:Int):Bool:=decide (1≤sc∧sc≤3)
def measWords:List (List UInt8) × List (List UInt8):=([[98,108,111,99,107],[115,112,97,110],[110,105,103,104,116],[99,114,101,100,105,116]],[[108,101,103,115],[104,101,97,100,115],[100,117,116,105,101,115]])
def measT (s:ByteArray):Int:=if measWords.1.any (fun x=>s.data.toList==x)=true then 2 else if measWords.2.any (fun x=>s.data.toList==x)=true then 1 else 0
def conAt (cs:List Cn) (j:Nat):Int:=match cs[j]? with
 | none=>0
 | some c=>if declS c.name=false then 1 else if dupB ((cs.take j).map (·.name)) c.name=true then 7 else valE c.a c.k
def rulAt (rs:List Ru) (j:Nat):Int:=match rs[j]? with
 | none=>0
 | some r=>if scB r.sc=false∨declS r.name=false then 1 else if dupB ((rs.take j).map fun r=>(r.sc,r.name)) (r.sc,r.name)=true then 7 else valE r.a r.k
def cosAt (os:List Co) (j:Nat):Int:=match os[j]? with
 | none=>0
 | some r=>if scB r.sc=false then 1 else valE r.a r.k
def creE:Fo→Int
 | .nil=>0
 | .node _ _ a k r=>orE (valE a k) (creE r)
def limAt (ls:List Li) (j:Nat):Int:=match ls[j]? with
 | none=>0
 | some l=>if declS l.name=false then 1 else if dupB ((ls.take j).map (·.name)) l.name=true then 7 else if measT l.meas=0 then 6 else if (0≤l.most∧l.most≤599999)∧(1≤l.days∧l.days≤31) then 0 else 5
def offAt (ls:List Li) (fs:List Of) (j:Nat):Int:=match fs[j]? with
 | none=>0
 | some f=>if declS f.name=false then 1 else if dupB (ls.map (·.name)++(fs.take j).map (·.name)) f.name=true then 7 else if (1≤f.days∧f.days≤31)∧(1≤f.count∧f.count≤f.days) then 0 else 5
def rngB (c:Ct):Bool:=decide ((0≤c.rep∧c.rep≤1440)∧(0≤c.rel∧c.rel≤1440)∧(0≤c.con∧c.con≤1440)∧(c.con≤c.sit∧c.sit≤1440)∧(0≤c.lay∧c.lay≤10080)∧(0≤c.nf∧c.nf≤1439)∧(0≤c.nt∧c.nt≤1439)∧(0≤c.gua∧c.gua≤599999))
def lenB (c:Ct):Bool:=decide (c.cs.length≤32∧c.rs.length≤40∧c.os.length≤16∧len c.cr≤1∧c.ls.length≤16∧c.fs.length≤16)
def conE (c:Ct):Int:=fe (conAt c.cs) 0 c.cs.length
def rulE (c:Ct):Int:=fe (rulAt c.rs) 0 c.rs.length
def cosE (c:Ct):Int:=fe (cosAt c.os) 0 c.os.length
def limE (c:Ct):Int:=fe (limAt c.ls) 0 c.ls.length
def offE (c:Ct):Int:=fe (offAt c.ls c.fs) 0 c.fs.length
def winE (c:Ct):Int:=orE (limE c) (offE c)
def gvalC (c:Ct):Int:=if rngB c=false then 5 else if lenB c=false then 10 else orE (conE c) (orE (rulE c) (orE (cosE c) (orE (creE c.cr) (winE c))))
def SetM {α:Type} [DecidableEq α] (P:Program) (kt bt:TypeId) (key:α→Value) (w:World) (b:Nat) (L:List α):Prop :=
 ∃ D:DataW Unit,w.ownsMap P kt (plainElem P bt) b L.length D∧IsMap D∧∀ (x:α) (kl:Lit),keyOf P kt (key x)=some kl→D.atKey kl (.lit (.bool false))=.lit (.bool (dupB L x))
theorem SetM.start {α:Type} [DecidableEq α] (P:Program) (kt bt:TypeId) (key:α→Value) (w:World):SetM P kt bt key (w.alloc (.map #[] 0)) w.heap.size [] :=
 ⟨.map [],World.ownsMap_made _ _ _ _,⟨[],rfl⟩,fun x kl _=>by simp [dupB];rfl⟩
theorem SetM.kept {α:Type} [DecidableEq α] {P:Program} {kt bt:TypeId} {key:α→Value} {w w':World} {b:Nat} {L:List α} {row:Option Nat} (h:SetM P kt bt key w b L) (hg:w.grownBy w' row) (hne:some b≠row):SetM P kt bt key w' b L:=by
 obtain ⟨D,h1,h2,h3⟩:=h
 exact ⟨D,h1.kept hg hne,h2,h3⟩
theorem SetM.next {α:Type} [DecidableEq α] {P:Program} {kt bt:TypeId} {key:α→Value} {w w':World} {b:Nat} {L:List α} (h:SetM P kt bt key w b L) (hb:Below w.heap.size w w'):SetM P kt bt key w' b L :=
 h.kept (gb_of_below hb none) (by simp)
theorem SetM.lt {α:Type} [DecidableEq α] {P:Program} {kt bt:TypeId} {key:α→Value} {w:World} {b:Nat} {L:List α} (h:SetM P kt bt key w b L):b < w.heap.size:=by
 obtain ⟨D,h1,-⟩:=h
 exact h1.lt
theorem plainElem_bool_inv {P:Program} {e:TypeId} (he:P.underlying e=some .bool) {v:Value} {z:DataW Unit × List MemPlace} (h:plainElem P e v=some z):∃ x,v=.bool x∧z=(.lit (.bool x),[]):=by
 cases v<;>simp [plainElem,he] at h
 exact ⟨_,rfl,h.symm⟩
theorem SetM.look {α:Type} [DecidableEq α] {P:Program} {kt bt mt:TypeId} {key:α→Value} {w:World} {b:Nat} {L:List α} (h:SetM P kt bt key w b L) (K:Go.Maps.Keyed P kt) (ht:P.underlying mt=some (.map kt bt)) (hb:P.underlying bt=some .bool) (hz:(zeroValue bt).run P w=.ok (.bool false) w)
 (x:α) {kl:Lit} (hk:keyOf P kt (key x)=some kl):(Instr.lookup mt (.map (some b)) (key x) false).run P w=.ok (.bool (dupB L x)) w:=by
 obtain ⟨D,h1,h2,h3⟩:=h
 obtain ⟨v,ps,hrun,hv⟩:=h1.lookup K ht hz (plainElem_bool hb false) hk
 obtain ⟨c,rfl,hc⟩:=plainElem_bool_inv hb hv
 have q:=h3 x kl hk
 have e:=congrArg Prod.fst hc
 have h9:(DataW.lit (Lit.bool c):DataW Unit)=.lit (.bool (dupB L x)):=e.symm.trans q
 injection h9 with h9
 injection h9 with h9
 rw [← h9]
 exact hrun
theorem SetM.put {α:Type} [DecidableEq α] {P:Program} {kt bt mt:TypeId} {key:α→Value} {w:World} {b:Nat} {L:List α} (h:SetM P kt bt key w b L) (K:Go.Maps.Keyed P kt) (ht:P.underlying mt=some (.map kt bt)) (hb:P.underlying bt=some .bool) (hl:L.length < maxLen) (hinj:∀ x y,key x=key y→x=y)
 (x:α) {kl:Lit} (hk:keyOf P kt (key x)=some kl):∃ w',(Instr.mapUpdate mt (.map (some b)) (key x) (.bool true)).run P w=.ok () w'∧SetM P kt bt key w' b (L++[x])∧w.grownBy w' (some b):=by
 obtain ⟨D,h1,h2,h3⟩:=h
 obtain ⟨w',hrun,ho,hg⟩:=h1.update K ht hl hk (plainElem_bool hb true)
 refine ⟨w',hrun,⟨_,by rw [List.length_append];exact ho,h2.put _ _,fun y ky hy=>?_⟩,hg⟩
 rw [dupB_snoc]
 by_cases e:y=x
 · subst e
   obtain rfl:ky=kl:=Option.some.inj (hy.symm.trans hk)
   rw [Go.Maps.atKey_put_same h2 (K.key hk)]
   simp
 · have hne:ky≠kl:=fun q=>e (hinj _ _ (K.inj hy (q ▸ hk)))
   rw [Go.Maps.atKey_put_other hne,h3 y ky hy]
   simp [e]
end Go.Proofs.YtljdcpobomfnpaaGreat
namespace Go.Proofs.YtljdcpobomfnpaaGreat
set_option linter.unusedVariables false
set_option linter.unusedSimpArgs false
open Go.RowKit
open Go.Deep (BT)
namespace Pc
structure PC where
 rep:Int
 rel:Int
 con:Int
 sit:Int
 lay:Int
 nf:Int
 nt:Int
 gua:Int
 seen:Nat→Bool
 cs:List (ByteArray × Ch)
 rs:List (Int × ByteArray × Ch)
 os:List (Int × Ch)
 cr:List Ch
 ls:List Li
 fs:List Of
def wReport:ByteArray:=⟨#[114,101,112,111,114,116]⟩
def wRelease:ByteArray:=⟨#[114,101,108,101,97,115,101]⟩
def wConnect:ByteArray:=⟨#[99,111,110,110,101,99,116]⟩
def wSit:ByteArray:=⟨#[115,105,116]⟩
def wLayover:ByteArray:=⟨#[108,97,121,111,118,101,114]⟩
def wGuarantee:ByteArray:=⟨#[103,117,97,114,97,110,116,101,101]⟩
def wNight:ByteArray:=⟨#[110,105,103,104,116]⟩
def wConst:ByteArray:=⟨#[99,111,110,115,116]⟩
def wIs:ByteArray:=⟨#[105,115]⟩
def wRule:ByteArray:=⟨#[114,117,108,101]⟩
def wCost:ByteArray:=⟨#[99,111,115,116]⟩
def wCredit:ByteArray:=⟨#[99,114,101,100,105,116]⟩
def wLimit:ByteArray:=⟨#[108,105,109,105,116]⟩
def wOff:ByteArray:=⟨#[111,102,102]⟩
def wIn:ByteArray:=⟨#[105,110]⟩
def wTo:ByteArray:=⟨#[116,111]⟩
def wDays:ByteArray:=⟨#[100,97,121,115]⟩
def wDuty:ByteArray:=⟨#[100,117,116,121]⟩
def wRest:ByteArray:=⟨#[114,101,115,116]⟩
def wPairing:ByteArray:=⟨#[112,97,105,114,105,110,103]⟩
def fieldsL:List ByteArray:=[wReport,wRelease,wConnect,wSit,wLayover,wGuarantee,wNight]
def scopeT (s:ByteArray):Int:=if s=wDuty then 1 else if s=wRest then 2 else if s=wPairing then 3 else 0
def tok (L:List Tk.T4) (i:Nat):Tk.T3:=match L[i]? with
 | some t=>t.t
 | none=>⟨0,⟨#[]⟩,0⟩
def kd (L:List Tk.T4) (i:Nat) (k:Int):Bool:=decide (i < L.length) && decide ((tok L i).kind=k)
def isW (L:List Tk.T4) (i:Nat) (s:ByteArray):Bool:=kd L i 1 && decide ((tok L i).text=s)
def nmd (L:List Tk.T4) (i:Nat):Bool:=kd L i 1 && declS (tok L i).text
def tree (L:List Tk.T4):Ch:=match (Pz.pv L .ex 0).1 with
 | some x=>x
 | none=>⟨0,0,⟨0,0,⟨#[]⟩,none,0⟩,.nil⟩
def setSeen (c:PC) (i:Nat):PC:={ c with seen:=fun j=>if j=i then true else c.seen j }
def setField (c:PC) (i:Nat) (L:List Tk.T4):PC:=match i with
 | 0=>{ c with rep:=(tok L 1).num }
 | 1=>{ c with rel:=(tok L 1).num }
 | 2=>{ c with con:=(tok L 1).num }
 | 3=>{ c with sit:=(tok L 1).num }
 | 4=>{ c with lay:=(tok L 1).num }
 | 5=>{ c with gua:=(tok L 1).num }
 | _=>{ c with nf:=(tok L 1).num,nt:=(tok L 3).num }
def fieldT (c:PC) (L:List Tk.T4) (i:Nat):PC × Int :=
 if i < 6∧(L.length≠2∨kd L 1 3=false) then (c,1) else
 if i=6∧(L.length≠4∨kd L 1 4=false∨isW L 2 wTo=false∨kd L 3 4=false) then (c,1) else
 if c.seen i=true then (c,7) else (setField (setSeen c i) i L,0)
def ifEx (c:PC) (L:List Tk.T4) (f:Ch→PC):PC × Int:=if 0≤badT L then (c,1) else (f (tree L),0)
def declT (c:PC) (L:List Tk.T4):PC × Int :=
 if kd L 0 1=false then (c,1) else
 match fieldsL.findIdx? (fun s=>decide (s=(tok L 0).text)) with
 | some i=>fieldT c L i
 | none =>
   if (tok L 0).text=wConst∧nmd L 1=true∧isW L 2 wIs=true then ifEx c (L.drop 3) fun x=>{ c with cs:=c.cs++[((tok L 1).text,x)] } else
   if scopeT (tok L 0).text≠0∧isW L 1 wRule=true∧nmd L 2=true∧isW L 3 wIs=true then ifEx c (L.drop 4) fun x=>{ c with rs:=c.rs++[(scopeT (tok L 0).text,(tok L 2).text,x)] } else
   if scopeT (tok L 0).text≠0∧isW L 1 wCost=true∧isW L 2 wIs=true then ifEx c (L.drop 3) fun x=>{ c with os:=c.os++[(scopeT (tok L 0).text,x)] } else
   if (tok L 0).text=wDuty∧isW L 1 wCredit=true∧isW L 2 wIs=true then ifEx c (L.drop 3) fun x=>{ c with cr:=c.cr++[x] } else
   if (tok L 0).text=wLimit∧L.length=8∧nmd L 1=true∧isW L 2 wIs=true∧kd L 3 1=true∧isW L 5 wIn=true∧kd L 6 2=true∧isW L 7 wDays=true then
    (if (measT (tok L 3).text=2∧kd L 4 3=true)∨(measT (tok L 3).text=1∧kd L 4 2=true) then ({ c with ls:=c.ls++[⟨(tok L 1).text,(tok L 3).text,(tok L 4).num,(tok L 6).num⟩] },0) else (c,1)) else
   if (tok L 0).text=wOff∧L.length=7∧nmd L 1=true∧isW L 2 wIs=true∧kd L 3 2=true∧isW L 4 wIn=true∧kd L 5 2=true∧isW L 6 wDays=true then ({ c with fs:=c.fs++[⟨(tok L 1).text,(tok L 3).num,(tok L 5).num⟩] },0) else
   (c,1)
def linesT:PC→Nat→List ByteArray→PC × Int × Int
 | c,_,[]=>(c,0,0)
 | c,i,s :: r =>
   if (Tk.scanT s).2.2≠0 then (c,(i:Int)+1,(Tk.scanT s).2.2) else
   if (Tk.scanT s).1=[] then linesT c (i+1) r else
   if (declT c (Tk.scanT s).1).2≠0 then (c,(i:Int)+1,(declT c (Tk.scanT s).1).2) else linesT (declT c (Tk.scanT s).1).1 (i+1) r
def pc0:PC:=⟨0,0,0,1440,2880,0,0,0,fun _=>false,[],[],[],[],[],[]⟩
end Pc
end Go.Proofs.YtljdcpobomfnpaaGreat
namespace Go.Proofs.YtljdcpobomfnpaaGreat
section
set_option linter.unusedVariables false
set_option linter.unusedSimpArgs false
open Go.ChangeShapes Go.WideShapes Go.ChangeAt Go.RowKit
open Go.Maps (has size IsMap)
end
section
set_option linter.unusedVariables false
set_option linter.unusedSimpArgs false
open Go.ChangeShapes Go.WideShapes Go.ChangeAt Go.RowKit
open Go.Maps (has size IsMap)
theorem StrsAt.keep {w w':World} {v:Value} {L:List (List UInt8)} (h:StrsAt w v L) (hk:Keeps w w'):StrsAt w' v L:=by
 rcases h with h|⟨g,cap,h1,h2⟩
 · exact .inl h
 · exact .inr ⟨g,cap,h1,fun i u hu=>hk _ _ (h2 i u hu)⟩
end
end Go.Proofs.YtljdcpobomfnpaaGreat
namespace Go.Proofs.YtljdcpobomfnpaaGreat
section
set_option linter.unusedVariables false
set_option linter.unusedSimpArgs false
open Go.ChangeShapes Go.WideShapes Go.ChangeAt Go.RowKit
def clampI (n:Int):Int:=max (-1099511627776) (min 1099511627776 n)
def addV (a b:Int):Int:=clampI (a+b)
def mulV (a b:Int):Int:=clampI (a * b)
def divV (a b:Int):Int:=if b=0 then 0 else clampI (a.fdiv b)
def bandB (c f t:Int):Bool:=if f≤t then decide (f≤c∧c < t) else decide (f≤c∨c < t)
def flagI (b:Bool):Int:=if b=true then 1 else 0
end
section
set_option linter.unusedVariables false
set_option linter.unusedSimpArgs false
open Go.ChangeShapes Go.WideShapes Go.ChangeAt Go.RowKit
open Go.Deep (BT)
structure Fd where
 op:Int
 num:Int
 ptr:Option Addr
 cap:Nat
abbrev Ff:=BT Fd
def negV (x:Int):Int:=IntKind.i64.wrap (-x)
def notV (x:Int):Int:=IntKind.i64.wrap (1 - x)
def cmbV (op a b:Int):Int :=
 if op=8 then addV a b else if op=9 then addV a (negV b) else if op=10 then mulV a b else if op=11 then divV a b else
 if op=16 then flagI (decide (a < b)) else if op=17 then flagI (decide (a≤b)) else if op=18 then flagI (decide (a=b)) else
 if op=20 then bits .and .i64 a b else if op=21 then bits .or .i64 a b else bits .or .i64 (notV a) b
def minL (x:Int):List Int→Int
 | []=>x
 | y :: l=>minL (min x y) l
def maxL (x:Int):List Int→Int
 | []=>x
 | y :: l=>maxL (max x y) l
def opV (op:Int) (L:List Int):Int :=
 if op=14 then (if L.getD 0 0≠0 then L.getD 1 0 else L.getD 2 0) else
 if op=12 then minL (L.getD 0 0) (L.drop 1) else if op=13 then maxL (L.getD 0 0) (L.drop 1) else
 if op=15 then flagI (bandB (L.getD 0 0) (L.getD 1 0) (L.getD 2 0)) else
 if op=7 then addV 0 (negV (L.getD 0 0)) else if op=19 then notV (L.getD 0 0) else cmbV op (L.getD 0 0) (L.getD 1 0)
end
section
set_option linter.unusedVariables false
set_option linter.unusedSimpArgs false
open Go.ChangeShapes Go.WideShapes Go.ChangeAt Go.RowKit
open Go.Deep (BT)
end
end Go.Proofs.YtljdcpobomfnpaaGreat
