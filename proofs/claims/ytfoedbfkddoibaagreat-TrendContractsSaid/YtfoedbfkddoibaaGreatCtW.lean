import Derived.Test.YtfoedbfkddoibaaGreatGh
import Derived.DeepKeys4
namespace Go.Proofs.YtfoedbfkddoibaaGreat
section
set_option linter.unusedVariables false
set_option linter.unusedSimpArgs false
open Go.ChangeShapes Go.WideShapes Go.ChangeAt Go.RowKit
open Go.Deep (BT)
open Go.Maps (has size IsMap)
def orE (a b:Int):Int:=if a≠0 then a else b
theorem orE_ne {a b:Int} (h:a≠0):orE a b=a:=by unfold orE;rw [if_pos h]
theorem orE_zero (b:Int):orE 0 b=b:=by unfold orE;rw [if_neg (by simp)]
def fe (f:Nat→Int):Nat→Nat→Int
 | _,0=>0
 | j,n+1=>orE (f j) (fe f (j+1) n)
theorem fe_at {f:Nat→Int} {j n:Nat} (h:j < n):fe f j (n - j)=orE (f j) (fe f (j+1) (n - (j+1))):=by
 obtain ⟨m,hm⟩:∃ m,n - j=m+1:=⟨n - j - 1,by omega⟩
 rw [hm,show n - (j+1)=m by omega]
 rfl
theorem fe_end {f:Nat→Int} {j n:Nat} (h:n≤j):fe f j (n - j)=0:=by rw [Nat.sub_eq_zero_of_le h];rfl
structure Ru where
 sc:Int
 name:ByteArray
 b:Nat
 o:Nat
 a:Nd
 k:Fo
structure Co where
 sc:Int
 b:Nat
 o:Nat
 a:Nd
 k:Fo
structure Li where
 name:ByteArray
 meas:ByteArray
 most:Int
 days:Int
structure Of where
 name:ByteArray
 count:Int
 days:Int
def Bd (x:Int):Prop := -9223372036854775808≤x∧x≤9223372036854775807
def X4 (w:World) (B O:Nat) (b o:Nat) (a:Nd) (k:Fo):Prop :=
 (w.cell? ⟨B,O,none⟩=some (.int .i64 a.op)∧w.cell? ⟨B,O+1,none⟩=some (.int .i64 a.num)∧w.cell? ⟨B,O+2,none⟩=some (.string a.name)∧w.cell? ⟨B,O+3,none⟩=some (.slice a.ptr (len k) a.cap))∧ExAt w b o a k∧ExOk a k
def CnP (w:World) (B O:Nat) (c:Cn):Prop:=w.cell? ⟨B,O,none⟩=some (.string c.name)∧X4 w B (O+1) c.b c.o c.a c.k∧c.name.size≤9223372036854775807
def RuP (w:World) (B O:Nat) (r:Ru):Prop:=w.cell? ⟨B,O,none⟩=some (.int .i64 r.sc)∧w.cell? ⟨B,O+1,none⟩=some (.string r.name)∧X4 w B (O+2) r.b r.o r.a r.k∧Bd r.sc∧r.name.size≤9223372036854775807
def CoP (w:World) (B O:Nat) (r:Co):Prop:=w.cell? ⟨B,O,none⟩=some (.int .i64 r.sc)∧X4 w B (O+1) r.b r.o r.a r.k∧Bd r.sc
def LiP (w:World) (B O:Nat) (r:Li):Prop:=w.cell? ⟨B,O,none⟩=some (.string r.name)∧w.cell? ⟨B,O+1,none⟩=some (.string r.meas)∧w.cell? ⟨B,O+2,none⟩=some (.int .i64 r.most)∧w.cell? ⟨B,O+3,none⟩=some (.int .i64 r.days)∧Bd r.most∧Bd r.days∧r.name.size≤9223372036854775807∧r.meas.size≤9223372036854775807
def OfP (w:World) (B O:Nat) (r:Of):Prop:=w.cell? ⟨B,O,none⟩=some (.string r.name)∧w.cell? ⟨B,O+1,none⟩=some (.int .i64 r.count)∧w.cell? ⟨B,O+2,none⟩=some (.int .i64 r.days)∧Bd r.count∧Bd r.days∧r.name.size≤9223372036854775807
theorem cell_next {w w':World} {a:Addr} {v:Value} (h:w.cell? a=some v) (hb:Below w.heap.size w w'):w'.cell? a=some v:=by rw [hb.cell (block_lt_of_cell h)];exact h
theorem X4.next {w w':World} {B O b o:Nat} {a:Nd} {k:Fo} (h:X4 w B O b o a k) (hb:Below w.heap.size w w'):X4 w' B O b o a k :=
 ⟨⟨cell_next h.1.1 hb,cell_next h.1.2.1 hb,cell_next h.1.2.2.1 hb,cell_next h.1.2.2.2 hb⟩,h.2.1.next hb,h.2.2⟩
theorem CnP.next {w w':World} {B O:Nat} {c:Cn} (h:CnP w B O c) (hb:Below w.heap.size w w'):CnP w' B O c:=⟨cell_next h.1 hb,h.2.1.next hb,h.2.2⟩
theorem RuP.next {w w':World} {B O:Nat} {c:Ru} (h:RuP w B O c) (hb:Below w.heap.size w w'):RuP w' B O c:=⟨cell_next h.1 hb,cell_next h.2.1 hb,h.2.2.1.next hb,h.2.2.2⟩
theorem CoP.next {w w':World} {B O:Nat} {c:Co} (h:CoP w B O c) (hb:Below w.heap.size w w'):CoP w' B O c:=⟨cell_next h.1 hb,h.2.1.next hb,h.2.2⟩
theorem LiP.next {w w':World} {B O:Nat} {c:Li} (h:LiP w B O c) (hb:Below w.heap.size w w'):LiP w' B O c:=⟨cell_next h.1 hb,cell_next h.2.1 hb,cell_next h.2.2.1 hb,cell_next h.2.2.2.1 hb,h.2.2.2.2⟩
theorem OfP.next {w w':World} {B O:Nat} {c:Of} (h:OfP w B O c) (hb:Below w.heap.size w w'):OfP w' B O c:=⟨cell_next h.1 hb,cell_next h.2.1 hb,cell_next h.2.2.1 hb,h.2.2.2⟩
def RowV {α:Type} (P:World→Nat→Nat→α→Prop) (s:Nat) (w:World) (L:List α) (p:Option Addr):Prop :=
 L.length≤9223372036854775807∧∃ B O,(L≠[]→p=some ⟨B,O,none⟩)∧∀ (i:Nat) (x:α),L[i]?=some x→P w B (O+i * s) x
theorem RowV.get {α:Type} {P:World→Nat→Nat→α→Prop} {s:Nat} {w:World} {L:List α} {p:Option Addr} (h:RowV P s w L p) {i:Nat} {x:α} (hi:L[i]?=some x):∃ B O,p=some ⟨B,O,none⟩∧P w B (O+i * s) x:=by
 obtain ⟨-,B,O,h1,h2⟩:=h
 exact ⟨B,O,h1 (by rintro rfl;simp at hi),h2 i x hi⟩
theorem RowV.map {α:Type} {P:World→Nat→Nat→α→Prop} {s:Nat} {w w':World} {L:List α} {p:Option Addr} (h:RowV P s w L p) (hP:∀ B O x,P w B O x→P w' B O x):RowV P s w' L p:=by
 obtain ⟨h0,B,O,h1,h2⟩:=h
 exact ⟨h0,B,O,h1,fun i x hi=>hP _ _ _ (h2 i x hi)⟩
theorem csat_of {w:World}:∀ (cs:List Cn) (B O:Nat),(∀ (i:Nat) (x:Cn),cs[i]?=some x→CnP w B (O+i * 5) x)→CsAt w cs B O∧CsOk cs
 | [],_,_,_=>⟨trivial,fun c hc=>by cases hc⟩
 | c :: cs,B,O,h=>by
   have h0:=h 0 c rfl
   simp only [Nat.zero_mul,Nat.add_zero] at h0
   obtain ⟨q1,q2⟩:=csat_of cs B (O+5) (fun i x hi=>by
    have:=h (i+1) x (by simpa using hi)
    rw [show O+(i+1) * 5=O+5+i * 5 by omega] at this
    exact this)
   refine ⟨⟨⟨h0.1,h0.2.1.1⟩,h0.2.1.2.1,q1⟩,fun d hd=>?_⟩
   rcases List.mem_cons.1 hd with rfl|hd
   · exact ⟨h0.2.2,h0.2.1.2.2⟩
   · exact q2 d hd
theorem csv_of_row {w:World} {cs:List Cn} {p:Option Addr} (h:RowV CnP 5 w cs p) (hl:cs.length≤32):CsV w cs p:=by
 obtain ⟨-,B,O,h1,h2⟩:=h
 obtain ⟨q1,q2⟩:=csat_of cs B O h2
 exact ⟨⟨B,O,h1,q1⟩,q2,by omega⟩
def CrV (w:World) (T:Fo) (p:Option Addr):Prop:=len T≤9223372036854775807∧FoOk T∧∃ b o,(T≠.nil→p=some ⟨b,o,none⟩)∧FoAt w T b o
theorem CrV.next {w w':World} {T:Fo} {p:Option Addr} (h:CrV w T p) (hb:Below w.heap.size w w'):CrV w' T p:=by
 obtain ⟨h0,h1,b,o,h2,h3⟩:=h
 exact ⟨h0,h1,b,o,h2,h3.next hb⟩
structure Ct where
 rep:Int
 rel:Int
 con:Int
 sit:Int
 lay:Int
 nf:Int
 nt:Int
 gua:Int
 cs:List Cn
 rs:List Ru
 os:List Co
 cr:Fo
 ls:List Li
 fs:List Of
structure Cp where
 cs:Option Addr
 rs:Option Addr
 os:Option Addr
 cr:Option Addr
 ls:Option Addr
 fs:Option Addr
 ccs:Nat
 crs:Nat
 cos:Nat
 ccr:Nat
 cls:Nat
 cfs:Nat
structure CtV (w:World) (c:Ct) (p:Cp):Prop where
 cs:RowV CnP 5 w c.cs p.cs
 rs:RowV RuP 6 w c.rs p.rs
 os:RowV CoP 5 w c.os p.os
 cr:CrV w c.cr p.cr
 ls:RowV LiP 4 w c.ls p.ls
 fs:RowV OfP 3 w c.fs p.fs
 b0:Bd c.rep∧Bd c.rel∧Bd c.con∧Bd c.sit∧Bd c.lay∧Bd c.nf∧Bd c.nt∧Bd c.gua
 cap:c.cs.length≤p.ccs
theorem CtV.next {w w':World} {c:Ct} {p:Cp} (h:CtV w c p) (hb:Below w.heap.size w w'):CtV w' c p where
 cs:=h.cs.map fun _ _ _ q=>q.next hb
 rs:=h.rs.map fun _ _ _ q=>q.next hb
 os:=h.os.map fun _ _ _ q=>q.next hb
 cr:=h.cr.next hb
 ls:=h.ls.map fun _ _ _ q=>q.next hb
 fs:=h.fs.map fun _ _ _ q=>q.next hb
 b0:=h.b0
 cap:=h.cap
def dupB {α:Type} [DecidableEq α] (L:List α) (x:α):Bool:=decide (x ∈ L)
theorem dupB_snoc {α:Type} [DecidableEq α] (L:List α) (y x:α):dupB (L++[y]) x=(dupB L x || decide (x=y)):=by
 unfold dupB
 rw [Bool.eq_iff_iff]
 simp
def scB (sc:Int):Bool:=decide (1≤sc∧sc≤3)
def measWords:List (List UInt8) × List (List UInt8):=([[98,108,111,99,107],[115,112,97,110],[110,105,103,104,116],[99,114,101,100,105,116]],[[108,101,103,115],[104,101,97,100,115],[100,117,116,105,101,115]])
def measT (s:ByteArray):Int:=if measWords.1.any (fun x=>s.data.toList==x)=true then 2 else if measWords.2.any (fun x=>s.data.toList==x)=true then 1 else 0
def conAt (cs:List Cn) (j:Nat):Int:=match cs[j]? with
 | none=>0
 | some c=>if declS c.name=false then 1 else if dupB ((cs.take j).map (·.name)) c.name=true then 7 else valE c.a c.k
def rulAt (rs:List Ru) (j:Nat):Int:=match rs[j]? with
 | none=>0
 | some r=>if scB r.sc=false∨declS r.name=false then 1 else if dupB ((rs.take j).map fun r=>(r.sc,r.name)) (r.sc,r.name)=true then 7 else valE r.a r.k
def cosAt (os:List Co) (j:Nat):Int:=match os[j]? with
 | none=>0
 | some r=>if scB r.sc=false then 1 else valE r.a r.k
def creE:Fo→Int
 | .nil=>0
 | .node _ _ a k r=>orE (valE a k) (creE r)
def limAt (ls:List Li) (j:Nat):Int:=match ls[j]? with
 | none=>0
 | some l=>if declS l.name=false then 1 else if dupB ((ls.take j).map (·.name)) l.name=true then 7 else if measT l.meas=0 then 6 else if (0≤l.most∧l.most≤599999)∧(1≤l.days∧l.days≤31) then 0 else 5
def offAt (ls:List Li) (fs:List Of) (j:Nat):Int:=match fs[j]? with
 | none=>0
 | some f=>if declS f.name=false then 1 else if dupB (ls.map (·.name)++(fs.take j).map (·.name)) f.name=true then 7 else if (1≤f.days∧f.days≤31)∧(1≤f.count∧f.count≤f.days) then 0 else 5
def rngB (c:Ct):Bool:=decide ((0≤c.rep∧c.rep≤1440)∧(0≤c.rel∧c.rel≤1440)∧(0≤c.con∧c.con≤1440)∧(c.con≤c.sit∧c.sit≤1440)∧(0≤c.lay∧c.lay≤10080)∧(0≤c.nf∧c.nf≤1439)∧(0≤c.nt∧c.nt≤1439)∧(0≤c.gua∧c.gua≤599999))
def lenB (c:Ct):Bool:=decide (c.cs.length≤32∧c.rs.length≤40∧c.os.length≤16∧len c.cr≤1∧c.ls.length≤16∧c.fs.length≤16)
def conE (c:Ct):Int:=fe (conAt c.cs) 0 c.cs.length
def rulE (c:Ct):Int:=fe (rulAt c.rs) 0 c.rs.length
def cosE (c:Ct):Int:=fe (cosAt c.os) 0 c.os.length
def limE (c:Ct):Int:=fe (limAt c.ls) 0 c.ls.length
def offE (c:Ct):Int:=fe (offAt c.ls c.fs) 0 c.fs.length
def winE (c:Ct):Int:=orE (limE c) (offE c)
def gvalC (c:Ct):Int:=if rngB c=false then 5 else if lenB c=false then 10 else orE (conE c) (orE (rulE c) (orE (cosE c) (orE (creE c.cr) (winE c))))
def SetM {α:Type} [DecidableEq α] (P:Program) (kt bt:TypeId) (key:α→Value) (w:World) (b:Nat) (L:List α):Prop :=
 ∃ D:DataW Unit,w.ownsMap P kt (plainElem P bt) b L.length D∧IsMap D∧∀ (x:α) (kl:Lit),keyOf P kt (key x)=some kl→D.atKey kl (.lit (.bool false))=.lit (.bool (dupB L x))
theorem SetM.start {α:Type} [DecidableEq α] (P:Program) (kt bt:TypeId) (key:α→Value) (w:World):SetM P kt bt key (w.alloc (.map #[] 0)) w.heap.size [] :=
 ⟨.map [],World.ownsMap_made _ _ _ _,⟨[],rfl⟩,fun x kl _=>by simp [dupB];rfl⟩
theorem SetM.kept {α:Type} [DecidableEq α] {P:Program} {kt bt:TypeId} {key:α→Value} {w w':World} {b:Nat} {L:List α} {row:Option Nat} (h:SetM P kt bt key w b L) (hg:w.grownBy w' row) (hne:some b≠row):SetM P kt bt key w' b L:=by
 obtain ⟨D,h1,h2,h3⟩:=h
 exact ⟨D,h1.kept hg hne,h2,h3⟩
theorem SetM.next {α:Type} [DecidableEq α] {P:Program} {kt bt:TypeId} {key:α→Value} {w w':World} {b:Nat} {L:List α} (h:SetM P kt bt key w b L) (hb:Below w.heap.size w w'):SetM P kt bt key w' b L :=
 h.kept (gb_of_below hb none) (by simp)
theorem SetM.lt {α:Type} [DecidableEq α] {P:Program} {kt bt:TypeId} {key:α→Value} {w:World} {b:Nat} {L:List α} (h:SetM P kt bt key w b L):b < w.heap.size:=by
 obtain ⟨D,h1,-⟩:=h
 exact h1.lt
theorem plainElem_bool_inv {P:Program} {e:TypeId} (he:P.underlying e=some .bool) {v:Value} {z:DataW Unit × List MemPlace} (h:plainElem P e v=some z):∃ x,v=.bool x∧z=(.lit (.bool x),[]):=by
 cases v<;>simp [plainElem,he] at h
 exact ⟨_,rfl,h.symm⟩
theorem SetM.look {α:Type} [DecidableEq α] {P:Program} {kt bt mt:TypeId} {key:α→Value} {w:World} {b:Nat} {L:List α} (h:SetM P kt bt key w b L) (K:Go.Maps.Keyed P kt) (ht:P.underlying mt=some (.map kt bt)) (hb:P.underlying bt=some .bool) (hz:(zeroValue bt).run P w=.ok (.bool false) w)
 (x:α) {kl:Lit} (hk:keyOf P kt (key x)=some kl):(Instr.lookup mt (.map (some b)) (key x) false).run P w=.ok (.bool (dupB L x)) w:=by
 obtain ⟨D,h1,h2,h3⟩:=h
 obtain ⟨v,ps,hrun,hv⟩:=h1.lookup K ht hz (plainElem_bool hb false) hk
 obtain ⟨c,rfl,hc⟩:=plainElem_bool_inv hb hv
 have q:=h3 x kl hk
 have e:=congrArg Prod.fst hc
 have h9:(DataW.lit (Lit.bool c):DataW Unit)=.lit (.bool (dupB L x)):=e.symm.trans q
 injection h9 with h9
 injection h9 with h9
 rw [← h9]
 exact hrun
theorem SetM.put {α:Type} [DecidableEq α] {P:Program} {kt bt mt:TypeId} {key:α→Value} {w:World} {b:Nat} {L:List α} (h:SetM P kt bt key w b L) (K:Go.Maps.Keyed P kt) (ht:P.underlying mt=some (.map kt bt)) (hb:P.underlying bt=some .bool) (hl:L.length < maxLen) (hinj:∀ x y,key x=key y→x=y)
 (x:α) {kl:Lit} (hk:keyOf P kt (key x)=some kl):∃ w',(Instr.mapUpdate mt (.map (some b)) (key x) (.bool true)).run P w=.ok () w'∧SetM P kt bt key w' b (L++[x])∧w.grownBy w' (some b):=by
 obtain ⟨D,h1,h2,h3⟩:=h
 obtain ⟨w',hrun,ho,hg⟩:=h1.update K ht hl hk (plainElem_bool hb true)
 refine ⟨w',hrun,⟨_,by rw [List.length_append];exact ho,h2.put _ _,fun y ky hy=>?_⟩,hg⟩
 rw [dupB_snoc]
 by_cases e:y=x
 · subst e
   obtain rfl:ky=kl:=Option.some.inj (hy.symm.trans hk)
   rw [Go.Maps.atKey_put_same h2 (K.key hk)]
   simp
 · have hne:ky≠kl:=fun q=>e (hinj _ _ (K.inj hy (q ▸ hk)))
   rw [Go.Maps.atKey_put_other hne,h3 y ky hy]
   simp [e]
end
section
set_option linter.unusedVariables false
set_option linter.unusedSimpArgs false
set_option maxRecDepth 100000
open Go.ChangeShapes Go.WideShapes Go.ChangeAt Go.RowKit
open Go.Deep (BT)
open Go.Maps (has size IsMap)
theorem take_snoc {α β:Type} (f:α→β) {L:List α} {j:Nat} {x:α} (h:L[j]?=some x):(L.take (j+1)).map f=(L.take j).map f++[f x]:=by rw [List.take_add_one,h];simp
theorem Tryz.zeroB (w:World):(zeroValue 4).run Tryz.prog w=.ok (.bool false) w:=by kernel_rfl
def SS (w:World) (b:Nat) (L:List ByteArray):Prop:=SetM Tryz.prog 9 4 (fun s:ByteArray=>Value.string s) w b L
theorem ss_look {w:World} {b:Nat} {L:List ByteArray} (h:SS w b L) (s:ByteArray) (hs:s.size≤maxLen):(Instr.lookup 193 (.map (some b)) (.string s) false).run Tryz.prog w=.ok (.bool (dupB L s)) w :=
 SetM.look h Tryz.keyS Tryz.underlying193 Tryz.underlying4 (Tryz.zeroB w) s (Go.WideMaps.keyOf_string_mk Tryz.underlying9 hs)
theorem ss_put {w:World} {b:Nat} {L:List ByteArray} (h:SS w b L) (s:ByteArray) (hs:s.size≤maxLen) (hl:L.length < maxLen):∃ w',(Instr.mapUpdate 193 (.map (some b)) (.string s) (.bool true)).run Tryz.prog w=.ok () w'∧SS w' b (L++[s])∧w.grownBy w' (some b) :=
 SetM.put h Tryz.keyS Tryz.underlying193 Tryz.underlying4 hl (fun x y q=>by injection q) s (Go.WideMaps.keyOf_string_mk Tryz.underlying9 hs)
structure CtBox (w:World) (g:Nat) (c:Ct) (p:Cp):Prop where
 c0:w.cell? ⟨g,0,none⟩=some (.int .i64 c.rep)
 c1:w.cell? ⟨g,1,none⟩=some (.int .i64 c.rel)
 c2:w.cell? ⟨g,2,none⟩=some (.int .i64 c.con)
 c3:w.cell? ⟨g,3,none⟩=some (.int .i64 c.sit)
 c4:w.cell? ⟨g,4,none⟩=some (.int .i64 c.lay)
 c5:w.cell? ⟨g,5,none⟩=some (.int .i64 c.nf)
 c6:w.cell? ⟨g,6,none⟩=some (.int .i64 c.nt)
 c7:w.cell? ⟨g,7,none⟩=some (.slice p.cs c.cs.length p.ccs)
 c8:w.cell? ⟨g,8,none⟩=some (.slice p.rs c.rs.length p.crs)
 c9:w.cell? ⟨g,9,none⟩=some (.slice p.os c.os.length p.cos)
 c10:w.cell? ⟨g,10,none⟩=some (.slice p.cr (len c.cr) p.ccr)
 c11:w.cell? ⟨g,11,none⟩=some (.slice p.ls c.ls.length p.cls)
 c12:w.cell? ⟨g,12,none⟩=some (.slice p.fs c.fs.length p.cfs)
 c13:w.cell? ⟨g,13,none⟩=some (.int .i64 c.gua)
 lt:g < w.heap.size
theorem CtBox.next {w w':World} {g:Nat} {c:Ct} {p:Cp} (h:CtBox w g c p) (hb:Below w.heap.size w w'):CtBox w' g c p where
 c0:=cell_next h.c0 hb
 c1:=cell_next h.c1 hb
 c2:=cell_next h.c2 hb
 c3:=cell_next h.c3 hb
 c4:=cell_next h.c4 hb
 c5:=cell_next h.c5 hb
 c6:=cell_next h.c6 hb
 c7:=cell_next h.c7 hb
 c8:=cell_next h.c8 hb
 c9:=cell_next h.c9 hb
 c10:=cell_next h.c10 hb
 c11:=cell_next h.c11 hb
 c12:=cell_next h.c12 hb
 c13:=cell_next h.c13 hb
 lt:=Nat.lt_of_lt_of_le h.lt hb.size
theorem CtBox.grown {w w':World} {g nb:Nat} {c:Ct} {p:Cp} (h:CtBox w g c p) (hb:w.grownBy w' (some nb)) (hn:g≠nb):CtBox w' g c p where
 c0:=hb.cell h.c0 (fun e=>hn (Option.some.inj e))
 c1:=hb.cell h.c1 (fun e=>hn (Option.some.inj e))
 c2:=hb.cell h.c2 (fun e=>hn (Option.some.inj e))
 c3:=hb.cell h.c3 (fun e=>hn (Option.some.inj e))
 c4:=hb.cell h.c4 (fun e=>hn (Option.some.inj e))
 c5:=hb.cell h.c5 (fun e=>hn (Option.some.inj e))
 c6:=hb.cell h.c6 (fun e=>hn (Option.some.inj e))
 c7:=hb.cell h.c7 (fun e=>hn (Option.some.inj e))
 c8:=hb.cell h.c8 (fun e=>hn (Option.some.inj e))
 c9:=hb.cell h.c9 (fun e=>hn (Option.some.inj e))
 c10:=hb.cell h.c10 (fun e=>hn (Option.some.inj e))
 c11:=hb.cell h.c11 (fun e=>hn (Option.some.inj e))
 c12:=hb.cell h.c12 (fun e=>hn (Option.some.inj e))
 c13:=hb.cell h.c13 (fun e=>hn (Option.some.inj e))
 lt:=Nat.lt_of_lt_of_le h.lt hb.size
theorem CtBox.start (w:World) (c:Ct) (p:Cp):CtBox (w.alloc (.cells #[.int .i64 c.rep,.int .i64 c.rel,.int .i64 c.con,.int .i64 c.sit,.int .i64 c.lay,.int .i64 c.nf,.int .i64 c.nt,.slice p.cs c.cs.length p.ccs,.slice p.rs c.rs.length p.crs,.slice p.os c.os.length p.cos,.slice p.cr (len c.cr) p.ccr,.slice p.ls c.ls.length p.cls,.slice p.fs c.fs.length p.cfs,.int .i64 c.gua] 44)) w.heap.size c p where
 c0:=by simp [go_sem]
 c1:=by simp [go_sem]
 c2:=by simp [go_sem]
 c3:=by simp [go_sem]
 c4:=by simp [go_sem]
 c5:=by simp [go_sem]
 c6:=by simp [go_sem]
 c7:=by simp [go_sem]
 c8:=by simp [go_sem]
 c9:=by simp [go_sem]
 c10:=by simp [go_sem]
 c11:=by simp [go_sem]
 c12:=by simp [go_sem]
 c13:=by simp [go_sem]
 lt:=by simp
def inB (n lo hi:Int):Bool:=decide (lo≤n∧n≤hi)
set_option maxHeartbeats 1000000 in
theorem within_any (n lo hi:Int) (w:World):Calls Tryz.prog 141 #[.int .i64 n,.int .i64 lo,.int .i64 hi] w fun e w'=>e=.returned (.bool (inB n lo hi))∧w=w':=by
 by_cases h1:lo≤n
 · have hb:decide (n ≥ lo)=true:=decide_eq_true h1
   go_enter Tryz.func141,Tryz.ntmps141
   go_wp2
   all_goals
    go_ret
    exact ⟨ret_bool (by unfold inB;simp [h1]),rfl⟩
 · have hb:¬ n ≥ lo:=h1
   go_enter Tryz.func141,Tryz.ntmps141
   go_wp2
   all_goals
    go_ret
    exact ⟨ret_bool (by unfold inB;rw [decide_eq_false (by omega)]),rfl⟩
theorem scope_any (n:Int) (w:World):Calls Tryz.prog 144 #[.int .i64 n] w fun e w'=>e=.returned (.bool (scB n))∧w=w':=by
 have S:Hid (scB n=inB n 1 3):=rfl
 go_enter Tryz.func144,Tryz.ntmps144
 go_wp2_with (go_at_call 141;refine (within_any _ _ _ _).mono ?_;rw [← S.out];rintro e w1 ⟨rfl,rfl⟩)
 go_ret
 exact ⟨rfl,rfl⟩
def measK (s:ByteArray):Int:=if measT s=2 then 3 else if measT s=1 then 2 else 0
theorem measK_zero (s:ByteArray):measK s=0↔measT s=0:=by
 have h:measT s=2∨measT s=1∨measT s=0:=by
  unfold measT
  split
  · exact .inl rfl
  · split
    · exact .inr (.inl rfl)
    · exact .inr (.inr rfl)
 unfold measK
 rcases h with h|h|h<;>simp [h]
set_option maxHeartbeats 2000000 in
theorem meas_any (s:ByteArray) (w:World):Calls Tryz.prog 170 #[.string s] w fun e w'=>e=.returned (.int .i64 (measK s))∧w=w':=by
 have R:Hid (measT s=if measWords.1.any (fun x=>s.toList==x)=true then 2 else if measWords.2.any (fun x=>s.toList==x)=true then 1 else 0):=by unfold Hid measT;rw [Lib.toList_data]
 go_enter Tryz.func170,Tryz.ntmps170
 go_wp2
 all_goals
  go_ret
  refine ⟨ret_int ?_,rfl⟩
  unfold measK
  rw [R.out]
  simp only [measWords,List.any_cons,List.any_nil]
  clear R
  simp_all
def rkV (x:Int × ByteArray):Value:=.agg #[.int .i64 x.1,.string x.2]
theorem Tryz.wideK:(match Tryz.prog.underlying 196 with|some (.array _ _)|some (.struct _)=>true|_=>false)=true:=by kernel_rfl
theorem Tryz.keyR:Go.Maps.Keyed Tryz.prog 196:=Go.Maps.Keyed.of_law (deep_law_laid (by kernel_rfl) (m:=2) (by omega) (of_decide_eq_true (by kernel_rfl)) (by kernel_rfl) Tryz.wideK)
theorem rkey_of (sc:Int) (s:ByteArray) (h1:(Lit.int .i64 sc).wf=true) (h2:s.size≤maxLen):∃ kl,keyOf Tryz.prog 196 (.agg #[.int .i64 sc,.string s])=some kl:=by
 obtain ⟨m,hm⟩:∃ m,Tryz.prog.types.size=m+1:=⟨Tryz.prog.types.size - 1,by have:0 < Tryz.prog.types.size:=of_decide_eq_true (by kernel_rfl);omega⟩
 have hkt:Tryz.prog.keyType 196=true:=by kernel_rfl
 have hc:Tryz.prog.cellsOf 196=2:=by kernel_rfl
 have hi:Tryz.prog.cellsOf 3=1:=by kernel_rfl
 have hs:Tryz.prog.cellsOf 9=1:=by kernel_rfl
 have hf:(Value.agg #[.int .i64 sc,.string s]).formed Tryz.prog 196=true:=by simp [Value.formed,Tryz.underlying196,hc]
 have k0:Tryz.prog.keyLits (m+1) 3 [.int .i64 sc]=some [.int .i64 sc]:=by simp [Program.keyLits,Tryz.underlying3,h1]
 have k1:Tryz.prog.keyLits (m+1) 9 [.string s]=some [.string s.data.toList]:=by simp [Program.keyLits,Tryz.underlying9,h2]
 have kk:Tryz.prog.keyLits (Tryz.prog.types.size+1) 196 [.int .i64 sc,.string s]=some [.int .i64 sc,.string s.data.toList]:=by
  rw [hm]
  unfold Program.keyLits
  rw [Tryz.underlying196]
  simp [hc,hi,hs,k0,k1]
 refine ⟨.string (keyBytes [.int .i64 sc,.string s.data.toList]),?_⟩
 unfold keyOf
 rw [Tryz.underlying196]
 dsimp only
 rw [hkt,hf]
 show Option.map _ (Tryz.prog.keyLits (Tryz.prog.types.size+1) 196 [.int .i64 sc,.string s])=_
 rw [kk]
 rfl
def RS (w:World) (b:Nat) (L:List (Int × ByteArray)):Prop:=SetM Tryz.prog 196 4 rkV w b L
theorem rs_look {w:World} {b:Nat} {L:List (Int × ByteArray)} (h:RS w b L) (sc:Int) (s:ByteArray) (h1:(Lit.int .i64 sc).wf=true) (hs:s.size≤maxLen):(Instr.lookup 194 (.map (some b)) (.agg #[.int .i64 sc,.string s]) false).run Tryz.prog w=.ok (.bool (dupB L (sc,s))) w:=by
 obtain ⟨kl,hk⟩:=rkey_of sc s h1 hs
 exact SetM.look h Tryz.keyR Tryz.underlying194 Tryz.underlying4 (Tryz.zeroB w) (sc,s) hk
theorem rs_put {w:World} {b:Nat} {L:List (Int × ByteArray)} (h:RS w b L) (sc:Int) (s:ByteArray) (h1:(Lit.int .i64 sc).wf=true) (hs:s.size≤maxLen) (hl:L.length < maxLen):∃ w',(Instr.mapUpdate 194 (.map (some b)) (.agg #[.int .i64 sc,.string s]) (.bool true)).run Tryz.prog w=.ok () w'∧RS w' b (L++[(sc,s)])∧w.grownBy w' (some b):=by
 obtain ⟨kl,hk⟩:=rkey_of sc s h1 hs
 exact SetM.put h Tryz.keyR Tryz.underlying194 Tryz.underlying4 hl (fun x y q=>by
  obtain ⟨x1,x2⟩:=x
  obtain ⟨y1,y2⟩:=y
  simp only [rkV] at q
  injection q with q
  simpa using q) (sc,s) hk
set_option maxHeartbeats 4000000 in
set_option maxRecDepth 100000 in
theorem vconsts_any (cs:List Cn) (p:Option Addr) (cap:Nat) (w:World) (hcs:RowV CnP 5 w cs p) (hl:cs.length≤32) :
 Calls Tryz.prog 142 #[.slice p cs.length cap] w fun e w'=>e=.returned (.int .i64 (fe (conAt cs) 0 cs.length))∧Below w.heap.size w w':=by
 have HCS:=Lib.hid hcs
 clear hcs
 obtain ⟨R,hR⟩:∃ R,fe (conAt cs) 0 cs.length=R:=⟨_,rfl⟩
 have HR0:=Lib.hid hR
 rw [hR]
 clear hR
 have hmm:=@run_makeMap Tryz.prog
 go_enter Tryz.func142,Tryz.ntmps142
 go_wp2_with fail
 go_loopw [10] (fun i wr=>∃ j:Nat,j≤cs.length∧i=.int .i64 j∧Hid (SS wr w.heap.size ((cs.take j).map (·.name))∧Below w.heap.size w wr∧fe (conAt cs) j (cs.length - j)=R)) (fun i _=>cs.length - (intOf i).toNat)
 case atStart=>exact ⟨0,Nat.zero_le _,rfl,SetM.start _ _ _ _ _,(Below.refl _ _).alloc (Nat.le_refl _) _,HR0.out⟩
 case round =>
  obtain ⟨j,hj,rfl,HR⟩:=hrel
  by_cases hlt:j < cs.length
  · obtain ⟨c,hc⟩:∃ c,cs[j]?=some c:=⟨_,List.getElem?_eq_getElem (by omega)⟩
    obtain ⟨B,O,rfl,hP⟩:=HCS.out.get hc
    obtain ⟨d0,⟨⟨d1,d2,d3,d4⟩,hx,hok⟩,hs⟩:=hP.next HR.out.2.1
    have HX:=Lib.hid hP.2.1.2.1
    have HOK:=Lib.hid hok
    have hs':c.name.size≤maxLen:=hs
    have hj1:(j:Int) < (cs.length:Int):=by omega
    have FA:=Lib.hid ((fe_at (f:=conAt cs) hlt).symm.trans HR.out.2.2)
    have CA:Hid (conAt cs j=if declS c.name=false then 1 else if dupB ((cs.take j).map (·.name)) c.name=true then 7 else valE c.a c.k):=by unfold Hid conAt;rw [hc]
    have TS:=Lib.hid (take_snoc (·.name) hc)
    have hln:((cs.take j).map (·.name)).length < maxLen:=by simp [maxLen];omega
    clear hP hx hok hc
    go_upto_region 5 with (fail)
    have B1:Hid (Below w.heap.size w (wr.alloc (.cells #[.string c.name,.int .i64 c.a.op,.int .i64 c.a.num,.string c.a.name,.slice c.a.ptr (len c.k) c.a.cap] 52))):=HR.out.2.1.alloc HR.out.2.1.size _
    have S1:Hid (SS (wr.alloc (.cells #[.string c.name,.int .i64 c.a.op,.int .i64 c.a.num,.string c.a.name,.slice c.a.ptr (len c.k) c.a.cap] 52)) w.heap.size ((cs.take j).map (·.name))):=SetM.next HR.out.1 ((Below.refl _ _).alloc (Nat.le_refl _) _)
    have hgw:w.heap.size < wr.heap.size:=SetM.lt HR.out.1
    have e0:(wr.alloc (.cells #[.string c.name,.int .i64 c.a.op,.int .i64 c.a.num,.string c.a.name,.slice c.a.ptr (len c.k) c.a.cap] 52)).cell? ⟨wr.heap.size,0,none⟩=some (.string c.name):=by simp [go_sem]
    have e1:(wr.alloc (.cells #[.string c.name,.int .i64 c.a.op,.int .i64 c.a.num,.string c.a.name,.slice c.a.ptr (len c.k) c.a.cap] 52)).cell? ⟨wr.heap.size,1,none⟩=some (.int .i64 c.a.op):=by simp [go_sem]
    have e2:(wr.alloc (.cells #[.string c.name,.int .i64 c.a.op,.int .i64 c.a.num,.string c.a.name,.slice c.a.ptr (len c.k) c.a.cap] 52)).cell? ⟨wr.heap.size,2,none⟩=some (.int .i64 c.a.num):=by simp [go_sem]
    have e3:(wr.alloc (.cells #[.string c.name,.int .i64 c.a.op,.int .i64 c.a.num,.string c.a.name,.slice c.a.ptr (len c.k) c.a.cap] 52)).cell? ⟨wr.heap.size,3,none⟩=some (.string c.a.name):=by simp [go_sem]
    have e4:(wr.alloc (.cells #[.string c.name,.int .i64 c.a.op,.int .i64 c.a.num,.string c.a.name,.slice c.a.ptr (len c.k) c.a.cap] 52)).cell? ⟨wr.heap.size,4,none⟩=some (.slice c.a.ptr (len c.k) c.a.cap):=by simp [go_sem]
    generalize wr.alloc (.cells #[.string c.name,.int .i64 c.a.op,.int .i64 c.a.num,.string c.a.name,.slice c.a.ptr (len c.k) c.a.cap] 52)=w1 at *
    have hlook:=ss_look S1.out c.name hs'
    clear d0 d1 d2 d3 d4
    cases hD:declS c.name
    · have HD:=Lib.hid hD
      have RQ:Hid (R=1):=by unfold Hid;rw [← FA.out,CA.out,hD];rfl
      clear hD
      go_wp2_with (go_at_call 163;refine (isdecl_any _ _ hs).mono ?_;rw [HD.out];rintro e w2 ⟨rfl,rfl⟩)
      go_ret
      exact ⟨ret_int RQ.out.symm,B1.out⟩
    · have HD:=Lib.hid hD
      cases hU:dupB ((cs.take j).map (·.name)) c.name
      · have CQ:Hid (conAt cs j=valE c.a c.k):=by unfold Hid;rw [CA.out,hD,hU];rfl
        rw [hU] at hlook
        obtain ⟨w9,hput,hS9,hG9⟩:=ss_put S1.out c.name hs' hln
        have S9:=Lib.hid hS9
        have B9:Hid (Below w.heap.size w w9):=B1.out.grown hG9 B1.out.size (fun m hm=>by cases hm;exact Nat.le_refl _)
        have hne:some wr.heap.size≠some w.heap.size:=by simp;omega
        have f1:=hG9.cell e1 hne
        have f2:=hG9.cell e2 hne
        have f3:=hG9.cell e3 hne
        have f4:=hG9.cell e4 hne
        clear hD hU hS9 hG9
        go_wp2_with (go_at_call 163;refine (isdecl_any _ _ hs).mono ?_;rw [HD.out];rintro e w2 ⟨rfl,rfl⟩)
        refine (vexpr_any c.b c.o _ _ _ _ _ c.k w9 (HX.out.next B9.out) HOK.out).mono ?_
        rintro e w3 ⟨rfl,hb⟩
        have B3:=Lib.hid (B9.out.trans (hb.mono B9.out.size))
        have S3:Hid (SS w3 w.heap.size ((cs.take (j+1)).map (·.name))):=by unfold Hid;rw [TS.out];exact SetM.next S9.out hb
        have CQ2:Hid (conAt cs j=valE ⟨c.a.op,c.a.num,c.a.name,c.a.ptr,c.a.cap⟩ c.k):=CQ.out
        generalize valE ⟨c.a.op,c.a.num,c.a.name,c.a.ptr,c.a.cap⟩ c.k=ve at *
        clear hb hput hlook e0 e1 e2 e3 e4 f1 f2 f3 f4
        by_cases h0:ve=0
        · have b0:(ve != 0)=false:=by simp [h0]
          have RQ:Hid (fe (conAt cs) (j+1) (cs.length - (j+1))=R):=by unfold Hid;rw [← FA.out,CQ2.out,h0,orE_zero]
          clear h0
          go_wp2
          go_roundw
          case rel=>exact ⟨j+1,by omega,by go_num,S3.out,B3.out,RQ.out⟩
          case measure=>simp [intOf];omega
        · have b0:(ve != 0)=true:=by simp [h0]
          have RQ:Hid (R=ve):=by unfold Hid;rw [← FA.out,CQ2.out,orE_ne h0]
          clear h0
          go_wp2
          go_ret
          exact ⟨ret_int RQ.out.symm,B3.out⟩
      · have RQ:Hid (R=7):=by unfold Hid;rw [← FA.out,CA.out,hD,hU];rfl
        rw [hU] at hlook
        clear hD hU
        go_wp2_with (go_at_call 163;refine (isdecl_any _ _ hs).mono ?_;rw [HD.out];rintro e w2 ⟨rfl,rfl⟩)
        go_ret
        exact ⟨ret_int RQ.out.symm,B1.out⟩
  · have hj1:¬ (j:Int) < (cs.length:Int):=by omega
    have RQ:Hid (R=0):=by unfold Hid;rw [← HR.out.2.2,fe_end (by omega)]
    go_wp2
    go_ret
    exact ⟨ret_int RQ.out.symm,HR.out.2.1⟩
set_option maxHeartbeats 4000000 in
set_option maxRecDepth 100000 in
theorem vrules_any (cs:List Ru) (p:Option Addr) (cap:Nat) (w:World) (hcs:RowV RuP 6 w cs p) (hl:cs.length≤40) :
 Calls Tryz.prog 143 #[.slice p cs.length cap] w fun e w'=>e=.returned (.int .i64 (fe (rulAt cs) 0 cs.length))∧Below w.heap.size w w':=by
 have HCS:=Lib.hid hcs
 clear hcs
 obtain ⟨R,hR⟩:∃ R,fe (rulAt cs) 0 cs.length=R:=⟨_,rfl⟩
 have HR0:=Lib.hid hR
 rw [hR]
 clear hR
 have hmm:=@run_makeMap Tryz.prog
 go_enter Tryz.func143,Tryz.ntmps143
 go_wp2_with fail
 go_loopw [11] (fun i wr=>∃ j:Nat,j≤cs.length∧i=.int .i64 j∧Hid (RS wr w.heap.size ((cs.take j).map fun r=>(r.sc,r.name))∧Below w.heap.size w wr∧fe (rulAt cs) j (cs.length - j)=R)) (fun i _=>cs.length - (intOf i).toNat)
 case atStart=>exact ⟨0,Nat.zero_le _,rfl,SetM.start _ _ _ _ _,(Below.refl _ _).alloc (Nat.le_refl _) _,HR0.out⟩
 case round =>
  obtain ⟨j,hj,rfl,HR⟩:=hrel
  by_cases hlt:j < cs.length
  · obtain ⟨c,hc⟩:∃ c,cs[j]?=some c:=⟨_,List.getElem?_eq_getElem (by omega)⟩
    obtain ⟨B,O,rfl,hP⟩:=HCS.out.get hc
    obtain ⟨d0,d1,⟨⟨d2,d3,d4,d5⟩,hx,hok⟩,hbd,hs⟩:=hP.next HR.out.2.1
    have HX:=Lib.hid hP.2.2.1.2.1
    have HOK:=Lib.hid hok
    have hs':c.name.size≤maxLen:=hs
    have hwf:(Lit.int .i64 c.sc).wf=true:=WalkArith.wf_i64 hbd
    have HWF:=Lib.hid hwf
    have hj1:(j:Int) < (cs.length:Int):=by omega
    have FA:=Lib.hid ((fe_at (f:=rulAt cs) hlt).symm.trans HR.out.2.2)
    have CA:Hid (rulAt cs j=if scB c.sc=false∨declS c.name=false then 1 else if dupB ((cs.take j).map fun r=>(r.sc,r.name)) (c.sc,c.name)=true then 7 else valE c.a c.k):=by unfold Hid rulAt;rw [hc]
    have TS:=Lib.hid (take_snoc (fun r:Ru=>(r.sc,r.name)) hc)
    have hln:((cs.take j).map fun r=>(r.sc,r.name)).length < maxLen:=by simp [maxLen];omega
    clear hP hx hok hc hwf hbd
    go_upto_region 5 with (fail)
    have B1:Hid (Below w.heap.size w (wr.alloc (.cells #[.int .i64 c.sc,.string c.name,.int .i64 c.a.op,.int .i64 c.a.num,.string c.a.name,.slice c.a.ptr (len c.k) c.a.cap] 65))):=HR.out.2.1.alloc HR.out.2.1.size _
    have S1:Hid (RS (wr.alloc (.cells #[.int .i64 c.sc,.string c.name,.int .i64 c.a.op,.int .i64 c.a.num,.string c.a.name,.slice c.a.ptr (len c.k) c.a.cap] 65)) w.heap.size ((cs.take j).map fun r=>(r.sc,r.name))):=SetM.next HR.out.1 ((Below.refl _ _).alloc (Nat.le_refl _) _)
    have hgw:w.heap.size < wr.heap.size:=SetM.lt HR.out.1
    have hz1:wr.heap.size < (wr.alloc (.cells #[.int .i64 c.sc,.string c.name,.int .i64 c.a.op,.int .i64 c.a.num,.string c.a.name,.slice c.a.ptr (len c.k) c.a.cap] 65)).heap.size:=by simp
    have e0:(wr.alloc (.cells #[.int .i64 c.sc,.string c.name,.int .i64 c.a.op,.int .i64 c.a.num,.string c.a.name,.slice c.a.ptr (len c.k) c.a.cap] 65)).cell? ⟨wr.heap.size,0,none⟩=some (.int .i64 c.sc):=by simp [go_sem]
    have e1:(wr.alloc (.cells #[.int .i64 c.sc,.string c.name,.int .i64 c.a.op,.int .i64 c.a.num,.string c.a.name,.slice c.a.ptr (len c.k) c.a.cap] 65)).cell? ⟨wr.heap.size,1,none⟩=some (.string c.name):=by simp [go_sem]
    have e2:(wr.alloc (.cells #[.int .i64 c.sc,.string c.name,.int .i64 c.a.op,.int .i64 c.a.num,.string c.a.name,.slice c.a.ptr (len c.k) c.a.cap] 65)).cell? ⟨wr.heap.size,2,none⟩=some (.int .i64 c.a.op):=by simp [go_sem]
    have e3:(wr.alloc (.cells #[.int .i64 c.sc,.string c.name,.int .i64 c.a.op,.int .i64 c.a.num,.string c.a.name,.slice c.a.ptr (len c.k) c.a.cap] 65)).cell? ⟨wr.heap.size,3,none⟩=some (.int .i64 c.a.num):=by simp [go_sem]
    have e4:(wr.alloc (.cells #[.int .i64 c.sc,.string c.name,.int .i64 c.a.op,.int .i64 c.a.num,.string c.a.name,.slice c.a.ptr (len c.k) c.a.cap] 65)).cell? ⟨wr.heap.size,4,none⟩=some (.string c.a.name):=by simp [go_sem]
    have e5:(wr.alloc (.cells #[.int .i64 c.sc,.string c.name,.int .i64 c.a.op,.int .i64 c.a.num,.string c.a.name,.slice c.a.ptr (len c.k) c.a.cap] 65)).cell? ⟨wr.heap.size,5,none⟩=some (.slice c.a.ptr (len c.k) c.a.cap):=by simp [go_sem]
    generalize wr.alloc (.cells #[.int .i64 c.sc,.string c.name,.int .i64 c.a.op,.int .i64 c.a.num,.string c.a.name,.slice c.a.ptr (len c.k) c.a.cap] 65)=w1 at *
    clear d0 d1 d2 d3 d4 d5
    cases hC:scB c.sc
    · have HC:=Lib.hid hC
      have RQ:Hid (R=1):=by unfold Hid;rw [← FA.out,CA.out,hC];rfl
      clear hC
      go_wp2_with (go_at_call 144;refine (scope_any _ _).mono ?_;rw [HC.out];rintro e w2 ⟨rfl,rfl⟩)
      go_ret
      exact ⟨ret_int RQ.out.symm,B1.out⟩
    · have HC:=Lib.hid hC
      cases hD:declS c.name
      · have HD:=Lib.hid hD
        have RQ:Hid (R=1):=by unfold Hid;rw [← FA.out,CA.out,hD];simp [orE]
        clear hD hC
        go_wp2_with (first|(go_at_call 144;refine (scope_any _ _).mono ?_;rw [HC.out];rintro e w2 ⟨rfl,rfl⟩)|(go_at_call 163;refine (isdecl_any _ _ hs).mono ?_;rw [HD.out];rintro e w2 ⟨rfl,rfl⟩))
        go_ret
        exact ⟨ret_int RQ.out.symm,B1.out⟩
      · have HD:=Lib.hid hD
        have CB:Hid (rulAt cs j=if dupB ((cs.take j).map fun r=>(r.sc,r.name)) (c.sc,c.name)=true then 7 else valE c.a c.k):=by unfold Hid;rw [CA.out,hD,hC];rfl
        clear hD hC
        go_upto_region 8 with (first|(go_at_call 144;refine (scope_any _ _).mono ?_;rw [HC.out];rintro e w2 ⟨rfl,rfl⟩)|(go_at_call 163;refine (isdecl_any _ _ hs).mono ?_;rw [HD.out];rintro e w2 ⟨rfl,rfl⟩))
        have B2:Hid (Below w.heap.size w (w1.alloc (.cells #[.int .i64 c.sc,.string c.name] 196))):=B1.out.alloc B1.out.size _
        have S2:Hid (RS (w1.alloc (.cells #[.int .i64 c.sc,.string c.name] 196)) w.heap.size ((cs.take j).map fun r=>(r.sc,r.name))):=SetM.next S1.out ((Below.refl _ _).alloc (Nat.le_refl _) _)
        have k0:(w1.alloc (.cells #[.int .i64 c.sc,.string c.name] 196)).cell? ⟨w1.heap.size,0,none⟩=some (.int .i64 c.sc):=by simp [go_sem]
        have k1:(w1.alloc (.cells #[.int .i64 c.sc,.string c.name] 196)).cell? ⟨w1.heap.size,1,none⟩=some (.string c.name):=by simp [go_sem]
        have f2:(w1.alloc (.cells #[.int .i64 c.sc,.string c.name] 196)).cell? ⟨wr.heap.size,2,none⟩=some (.int .i64 c.a.op):=cell_next e2 ((Below.refl _ _).alloc (Nat.le_refl _) _)
        have f3:(w1.alloc (.cells #[.int .i64 c.sc,.string c.name] 196)).cell? ⟨wr.heap.size,3,none⟩=some (.int .i64 c.a.num):=cell_next e3 ((Below.refl _ _).alloc (Nat.le_refl _) _)
        have f4:(w1.alloc (.cells #[.int .i64 c.sc,.string c.name] 196)).cell? ⟨wr.heap.size,4,none⟩=some (.string c.a.name):=cell_next e4 ((Below.refl _ _).alloc (Nat.le_refl _) _)
        have f5:(w1.alloc (.cells #[.int .i64 c.sc,.string c.name] 196)).cell? ⟨wr.heap.size,5,none⟩=some (.slice c.a.ptr (len c.k) c.a.cap):=cell_next e5 ((Below.refl _ _).alloc (Nat.le_refl _) _)
        generalize w1.alloc (.cells #[.int .i64 c.sc,.string c.name] 196)=w2 at *
        have hlook:=rs_look S2.out c.sc c.name HWF.out hs'
        clear e0 e1 e2 e3 e4 e5
        cases hU:dupB ((cs.take j).map fun r=>(r.sc,r.name)) (c.sc,c.name)
        · have CQ:Hid (rulAt cs j=valE c.a c.k):=by unfold Hid;rw [CB.out,hU];rfl
          rw [hU] at hlook
          obtain ⟨w9,hput,hS9,hG9⟩:=rs_put S2.out c.sc c.name HWF.out hs' hln
          have S9:=Lib.hid hS9
          have B9:Hid (Below w.heap.size w w9):=B2.out.grown hG9 B2.out.size (fun m hm=>by cases hm;exact Nat.le_refl _)
          have hne:some wr.heap.size≠some w.heap.size:=by simp;omega
          have g2:=hG9.cell f2 hne
          have g3:=hG9.cell f3 hne
          have g4:=hG9.cell f4 hne
          have g5:=hG9.cell f5 hne
          clear hU hS9 hG9
          go_wp2_with fail
          refine (vexpr_any c.b c.o _ _ _ _ _ c.k w9 (HX.out.next B9.out) HOK.out).mono ?_
          rintro e w3 ⟨rfl,hb⟩
          have B3:=Lib.hid (B9.out.trans (hb.mono B9.out.size))
          have S3:Hid (RS w3 w.heap.size ((cs.take (j+1)).map fun r=>(r.sc,r.name))):=by unfold Hid;rw [TS.out];exact SetM.next S9.out hb
          have CQ2:Hid (rulAt cs j=valE ⟨c.a.op,c.a.num,c.a.name,c.a.ptr,c.a.cap⟩ c.k):=CQ.out
          generalize valE ⟨c.a.op,c.a.num,c.a.name,c.a.ptr,c.a.cap⟩ c.k=ve at *
          clear hb hput hlook f2 f3 f4 f5 g2 g3 g4 g5 k0 k1
          by_cases h0:ve=0
          · have b0:(ve != 0)=false:=by simp [h0]
            have RQ:Hid (fe (rulAt cs) (j+1) (cs.length - (j+1))=R):=by unfold Hid;rw [← FA.out,CQ2.out,h0,orE_zero]
            clear h0
            go_wp2
            go_roundw
            case rel=>exact ⟨j+1,by omega,by go_num,S3.out,B3.out,RQ.out⟩
            case measure=>simp [intOf];omega
          · have b0:(ve != 0)=true:=by simp [h0]
            have RQ:Hid (R=ve):=by unfold Hid;rw [← FA.out,CQ2.out,orE_ne h0]
            clear h0
            go_wp2
            go_ret
            exact ⟨ret_int RQ.out.symm,B3.out⟩
        · have RQ:Hid (R=7):=by unfold Hid;rw [← FA.out,CB.out,hU];rfl
          rw [hU] at hlook
          clear hU
          go_wp2
          go_ret
          exact ⟨ret_int RQ.out.symm,B2.out⟩
  · have hj1:¬ (j:Int) < (cs.length:Int):=by omega
    have RQ:Hid (R=0):=by unfold Hid;rw [← HR.out.2.2,fe_end (by omega)]
    go_wp2
    go_ret
    exact ⟨ret_int RQ.out.symm,HR.out.2.1⟩
end
end Go.Proofs.YtfoedbfkddoibaaGreat
