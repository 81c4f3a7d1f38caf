import Derived.Test.YtljdcpobomfnpaaGreatGg
import Derived.Maps.OwnSet
import Derived.Maps.Views
import Derived.Deep.LoopGhost
import Derived.Test.YtljdcpobomfnpaaGreatPzS
import Derived.Test.YtljdcpobomfnpaaGreatGf
import Derived.Test.YtljdcpobomfnpaaGreatGd
namespace Go.Proofs.YtljdcpobomfnpaaGreat
section
set_option linter.unusedVariables false
set_option linter.unusedSimpArgs false
open Go.ChangeShapes Go.WideShapes Go.ChangeAt Go.RowKit
open Go.Maps (has size IsMap)
def strK (s:ByteArray):Lit:=.string s.data.toList
def intK (i:Int):Lit:=.int .i64 i
theorem strK_ne {s t:ByteArray} (h:s≠t):strK s≠strK t:=by
 intro q
 unfold strK at q
 injection q with q
 exact h (by
  apply ByteArray.ext
  exact Array.toList_inj.1 q)
theorem own_tight {P:Program} {k:TypeId} {R:Value→Option (DataW Unit × List MemPlace)} {w:World} {b n:Nat} {D:DataW Unit} (h:w.ownsMap P k R b n D):w.ownsMap P k R b (size D) D:=by
 obtain ⟨es,clock,hb,F,hs,hD⟩:=h
 refine ⟨es,clock,hb,F,?_,hD⟩
 rw [hD]
 show es.size≤_
 rw [Go.Maps.size_eq,length_sorted]
 simp
def IxMap (P:Program) (w:World) (cs:List Cn) (j b:Nat):Prop :=
 ∃ D:DataW Unit,w.ownsMap P 9 (plainElem P 3) b j D∧IsMap D∧∀ s:ByteArray,match firstIx s (cs.take j) with
   | some i=>has D (strK s)=true∧D.atKey (strK s) (.lit (.int .i64 0))=.lit (.int .i64 i)
   | none=>has D (strK s)=false
theorem firstIx_snoc (s:ByteArray) (cs:List Cn) (j:Nat) (c:Cn) (h:cs[j]?=some c):firstIx s (cs.take (j+1))=match firstIx s (cs.take j) with|some i=>some i|none=>if c.name=s then some j else none:=by
 rw [firstIx_take,firstIx_take]
 cases q:firstIx s cs with
 | none =>
   have:=(firstIx_none s cs).1 q c (List.mem_of_getElem? h)
   simp [this]
 | some i =>
   obtain ⟨⟨c',hc',hn⟩,hl⟩:=(firstIx_some s cs i).1 q
   by_cases h1:i < j
   · simp [h1,Nat.lt_succ_of_lt h1]
   · by_cases h2:i=j
     · subst h2
       rw [hc'] at h
       cases h
       simp [hn]
     · have h3:¬ i < j+1:=by omega
       have:c.name≠s:=hl c (by
        rw [List.mem_take_iff_getElem]
        obtain ⟨hlt,he⟩:=List.getElem?_eq_some_iff.1 h
        exact ⟨j,by omega,he⟩)
       simp [h1,h3,this]
theorem IxMap.kept {P:Program} {w w':World} {cs:List Cn} {j b:Nat} {row:Option Nat} (h:IxMap P w cs j b) (hg:w.grownBy w' row) (hne:some b≠row):IxMap P w' cs j b:=by
 obtain ⟨D,h1,h2,h3⟩:=h
 exact ⟨D,h1.kept hg hne,h2,h3⟩
theorem IxMap.start (P:Program) (w:World) (cs:List Cn):IxMap P (w.alloc (.map #[] 0)) cs 0 w.heap.size :=
 ⟨.map [],World.ownsMap_made _ _ _ _,⟨[],rfl⟩,fun s=>by simp [firstIx];rfl⟩
theorem ix_old {D:DataW Unit} {cs:List Cn} {j:Nat} {c:Cn} (h:cs[j]?=some c) (hD:∀ s:ByteArray,match firstIx s (cs.take j) with
 | some i=>has D (strK s)=true∧D.atKey (strK s) (.lit (.int .i64 0))=.lit (.int .i64 i)
 | none=>has D (strK s)=false) (hh:has D (strK c.name)=true):∀ s:ByteArray,match firstIx s (cs.take (j+1)) with
 | some i=>has D (strK s)=true∧D.atKey (strK s) (.lit (.int .i64 0))=.lit (.int .i64 i)
 | none=>has D (strK s)=false:=by
 intro s
 have q:=hD s
 rw [firstIx_snoc s cs j c h]
 cases e:firstIx s (cs.take j) with
 | some i=>rw [e] at q;exact q
 | none =>
   rw [e] at q
   have:c.name≠s:=by rintro rfl;rw [hh] at q;cases q
   simp only [if_neg this]
   exact q
theorem ix_new {D:DataW Unit} {cs:List Cn} {j:Nat} {c:Cn} (h:cs[j]?=some c) (hm:IsMap D) (hD:∀ s:ByteArray,match firstIx s (cs.take j) with
 | some i=>has D (strK s)=true∧D.atKey (strK s) (.lit (.int .i64 0))=.lit (.int .i64 i)
 | none=>has D (strK s)=false) (hh:has D (strK c.name)=false):∀ s:ByteArray,match firstIx s (cs.take (j+1)) with
 | some i=>has (D.put (strK c.name) (.lit (.int .i64 j))) (strK s)=true∧(D.put (strK c.name) (.lit (.int .i64 j))).atKey (strK s) (.lit (.int .i64 0))=.lit (.int .i64 i)
 | none=>has (D.put (strK c.name) (.lit (.int .i64 j))) (strK s)=false:=by
 intro s
 have q:=hD s
 rw [firstIx_snoc s cs j c h]
 by_cases hs:c.name=s
 · subst hs
   cases e:firstIx c.name (cs.take j) with
   | some i=>rw [e] at q;rw [q.1] at hh;cases hh
   | none =>
     simp only [if_true]
     exact ⟨Go.Maps.has_put_same hm (by first|trivial|exact .inl ⟨_,rfl⟩|simp [WideAt.IsKeyLit,strK,intK]) _,Go.Maps.atKey_put_same hm (by first|trivial|exact .inl ⟨_,rfl⟩|simp [WideAt.IsKeyLit,strK,intK]) _ _⟩
 · have hne:strK s≠strK c.name:=strK_ne (fun q=>hs q.symm)
   cases e:firstIx s (cs.take j) with
   | some i =>
     rw [e] at q
     exact ⟨by rw [Go.Maps.has_put_other hne];exact q.1,by rw [Go.Maps.atKey_put_other hne];exact q.2⟩
   | none =>
     rw [e] at q
     simp only [if_neg hs]
     rw [Go.Maps.has_put_other hne];exact q
def KnMap (P:Program) (w:World) (cs:List Cn) (b:Nat):Prop :=
 ∃ (D:DataW Unit) (K:List Nat),w.ownsMap P 3 (plainElem P 3) b K.length D∧IsMap D∧K.Nodup∧(∀ i ∈ K,i < cs.length)∧size D=K.length ∧
   (∀ i ∈ K,has D (intK i)=true∧D.atKey (intK i) (.lit (.int .i64 0))=.lit (.int .i64 (rowT cs i).1)∧(rowT cs i).2=0)∧∀ i:Nat,i ∉ K→has D (intK i)=false
theorem KnMap.kept {P:Program} {w w':World} {cs:List Cn} {b:Nat} {row:Option Nat} (h:KnMap P w cs b) (hg:w.grownBy w' row) (hne:some b≠row):KnMap P w' cs b:=by
 obtain ⟨D,K,h1,h2⟩:=h
 exact ⟨D,K,h1.kept hg hne,h2⟩
theorem KnMap.start (P:Program) (w:World) (cs:List Cn):KnMap P (w.alloc (.map #[] 0)) cs w.heap.size :=
 ⟨.map [],[],World.ownsMap_made _ _ _ _,⟨[],rfl⟩,List.nodup_nil,by simp,rfl,by simp,fun i _=>rfl⟩
theorem nodup_len:∀ (n:Nat) (K:List Nat),K.Nodup→(∀ i ∈ K,i < n)→K.length≤n
 | 0,K,_,h=>by
   cases K with
   | nil=>simp
   | cons a r=>exact absurd (h a (by simp)) (by omega)
 | n + 1, K, hd,h=>by
   have h1:=nodup_len n (K.filter (· != n)) (hd.filter _) (fun i hi=>by
    have:=List.mem_filter.1 hi
    have h2:=h i this.1
    have h3:i≠n:=by simpa using this.2
    omega)
   have h2 : K.length≤(K.filter (· != n)).length+1:=by
    clear h h1
    induction K with
    | nil=>simp
    | cons a r ih =>
      have hr:=(List.nodup_cons.1 hd)
      by_cases q:a=n
      · subst q
        have:r.filter (· != a)=r:=List.filter_eq_self.2 (fun x hx=>by
         have:x≠a:=by rintro rfl;exact hr.1 hx
         simp [this])
        simp [this]
      · have:=ih hr.2
        simp [q]
        omega
   omega
theorem intK_ne {i j:Nat} (h:i≠j):intK i≠intK j:=by
 intro q
 unfold intK at q
 injection q with q1 q2
 omega
theorem kn_put {P:Program} {w w':World} {cs:List Cn} {b i:Nat} {D:DataW Unit} {K:List Nat} {t:Int} (hi:i < cs.length) (hm:IsMap D) (ht:Go.Maps.Tidy D) (hd:K.Nodup) (hb:∀ i ∈ K,i < cs.length) (hsz:size D=K.length)
 (h1:∀ i ∈ K,has D (intK i)=true∧D.atKey (intK i) (.lit (.int .i64 0))=.lit (.int .i64 (rowT cs i).1)∧(rowT cs i).2=0) (h2:∀ i:Nat,i ∉ K→has D (intK i)=false)
 (hr:rowT cs i=(t,0)) {n:Nat} (hw:w'.ownsMap P 3 (plainElem P 3) b n (D.put (intK i) (.lit (.int .i64 t)))):KnMap P w' cs b:=by
 have hs:=Go.Maps.size_put (k:=intK i) ht (.lit (.int .i64 t))
 have hh:∀ x:Nat,x≠i→(has (D.put (intK i) (.lit (.int .i64 t))) (intK x)=has D (intK x)∧∀ z,(D.put (intK i) (.lit (.int .i64 t))).atKey (intK x) z=D.atKey (intK x) z):=fun x hx=>⟨Go.Maps.has_put_other (intK_ne hx) _,fun z=>Go.Maps.atKey_put_other (intK_ne hx) _ _⟩
 have hsame:has (D.put (intK i) (.lit (.int .i64 t))) (intK i)=true∧(D.put (intK i) (.lit (.int .i64 t))).atKey (intK i) (.lit (.int .i64 0))=.lit (.int .i64 (rowT cs i).1)∧(rowT cs i).2=0:=⟨Go.Maps.has_put_same hm (by first|trivial|exact .inl ⟨_,rfl⟩|simp [WideAt.IsKeyLit,strK,intK]) _,by rw [hr];exact Go.Maps.atKey_put_same hm (by first|trivial|exact .inl ⟨_,rfl⟩|simp [WideAt.IsKeyLit,strK,intK]) _ _,by rw [hr]⟩
 by_cases hk:i ∈ K
 · rw [if_pos (h1 i hk).1,hsz] at hs
   refine ⟨D.put (intK i) (.lit (.int .i64 t)),K,hs ▸ own_tight hw,hm.put _ _,hd,hb,hs,?_,?_⟩
   · intro x hx
     by_cases q:x=i
     · subst q;exact hsame
     · rw [(hh x q).1,(hh x q).2];exact h1 x hx
   · intro x hx
     have q:x≠i:=by rintro rfl;exact hx hk
     rw [(hh x q).1];exact h2 x hx
 · rw [if_neg (by rw [h2 i hk];simp),hsz] at hs
   refine ⟨D.put (intK i) (.lit (.int .i64 t)),i :: K,?_,hm.put _ _,List.nodup_cons.2 ⟨hk,hd⟩,?_,?_,?_,?_⟩
   · have:=own_tight hw
     rw [hs] at this
     exact this
   · intro x hx
     rcases List.mem_cons.1 hx with rfl|hx
     · exact hi
     · exact hb x hx
   · rw [hs];rfl
   · intro x hx
     by_cases q:x=i
     · subst q;exact hsame
     · rw [(hh x q).1,(hh x q).2]
       rcases List.mem_cons.1 hx with e|hx
       · exact absurd e q
       · exact h1 x hx
   · intro x hx
     have q:x≠i:=by rintro rfl;exact hx (by simp)
     rw [(hh x q).1]
     exact h2 x (fun e=>hx (by simp [e]))
end
section
set_option linter.unusedVariables false
set_option linter.unusedSimpArgs false
open Go.ChangeShapes Go.WideShapes Go.ChangeAt Go.RowKit
open Go.Maps (has size IsMap)
structure ChkJ (P:Program) (w:World) (kb ib mb:Nat) (cs:List Cn) (j:Nat) (p:Option Addr) (cap:Nat):Prop where
 c0:w.cell? ⟨kb,0,none⟩=some (.slice p cs.length cap)
 c1:w.cell? ⟨kb,1,none⟩=some (.map (some ib))
 c2:w.cell? ⟨kb,2,none⟩=some (.map (some mb))
 ix:IxMap P w cs j ib
 kn:KnMap P w cs mb
 n1:kb≠ib
 n2:kb≠mb
 n3:ib≠mb
 lt:kb < w.heap.size
theorem ChkJ.next {P:Program} {w w':World} {kb ib mb:Nat} {cs:List Cn} {j:Nat} {p:Option Addr} {cap:Nat} (h:ChkJ P w kb ib mb cs j p cap) (hb:Below w.heap.size w w'):ChkJ P w' kb ib mb cs j p cap where
 c0:=by rw [hb.cell (p:=⟨kb,0,none⟩) h.lt];exact h.c0
 c1:=by rw [hb.cell (p:=⟨kb,1,none⟩) h.lt];exact h.c1
 c2:=by rw [hb.cell (p:=⟨kb,2,none⟩) h.lt];exact h.c2
 ix:=h.ix.kept (row:=none) ⟨hb.os,hb.tape,hb.output,hb.size,fun k hk _=>hb.block k hk⟩ (by simp)
 kn:=h.kn.kept (row:=none) ⟨hb.os,hb.tape,hb.output,hb.size,fun k hk _=>hb.block k hk⟩ (by simp)
 n1:=h.n1
 n2:=h.n2
 n3:=h.n3
 lt:=Nat.lt_of_lt_of_le h.lt hb.size
theorem ChkJ.put {P:Program} {w w':World} {kb ib mb:Nat} {cs:List Cn} {j:Nat} {p:Option Addr} {cap:Nat} (h:ChkJ P w kb ib mb cs j p cap) (hi:IxMap P w' cs (j+1) ib) (hg:w.grownBy w' (some ib)):ChkJ P w' kb ib mb cs (j+1) p cap where
 c0:=by rw [World.cell?_of_block (hg.block kb h.lt (fun e=>h.n1 (Option.some.inj e)))];exact h.c0
 c1:=by rw [World.cell?_of_block (hg.block kb h.lt (fun e=>h.n1 (Option.some.inj e)))];exact h.c1
 c2:=by rw [World.cell?_of_block (hg.block kb h.lt (fun e=>h.n1 (Option.some.inj e)))];exact h.c2
 ix:=hi
 kn:=h.kn.kept hg (fun e=>h.n3 (Option.some.inj e).symm)
 n1:=h.n1
 n2:=h.n2
 n3:=h.n3
 lt:=Nat.lt_of_lt_of_le h.lt hg.size
theorem Tryz.keyS:Go.Maps.Keyed Tryz.prog 9:=Go.Maps.string_keyed Tryz.underlying9
theorem Tryz.keyI:Go.Maps.Keyed Tryz.prog 3:=Go.Maps.int_keyed Tryz.underlying3
theorem Tryz.zeroI (w:World):(zeroValue 3).run Tryz.prog w=.ok (.int .i64 0) w:=by kernel_rfl
theorem lit_inj {a b:Int} (h:(DataW.lit (Lit.int .i64 a):DataW Unit)=.lit (.int .i64 b)):a=b:=by
 injection h with h
 injection h
theorem ix_look {w:World} {cs:List Cn} {j b:Nat} (h:IxMap Tryz.prog w cs j b) (s:ByteArray) (hs:s.size≤maxLen):∃ (v:Int) (hb:Bool),(Instr.lookup 83 (.map (some b)) (.string s) true).run Tryz.prog w=.ok (.tuple #[.int .i64 v,.bool hb]) w ∧
 (match firstIx s (cs.take j) with|some i=>hb=true∧v=i|none=>hb=false):=by
 obtain ⟨D,h1,h2,h3⟩:=h
 obtain ⟨v,ps,hrun,hv⟩:=h1.look_ok Tryz.keyS Tryz.underlying83 (Tryz.zeroI w) (plainElem_int Tryz.underlying3 (by decide)) (Go.WideMaps.keyOf_string_mk Tryz.underlying9 hs)
 obtain ⟨c,rfl,hc,-⟩:=plainElem_int_inv Tryz.underlying3 hv
 refine ⟨c,_,hrun,?_⟩
 have q:=h3 s
 have e:=congrArg Prod.fst hc
 cases f:firstIx s (cs.take j) with
 | some i =>
   rw [f] at q
   refine ⟨q.1,?_⟩
   have h9:(DataW.lit (Lit.int .i64 (i:Int)):DataW Unit)=.lit (.int .i64 c):=q.2.symm.trans e
   exact (lit_inj h9).symm
 | none=>rw [f] at q;exact q
theorem ix_keep {w:World} {cs:List Cn} {j b:Nat} {c:Cn} (h:IxMap Tryz.prog w cs j b) (hc:cs[j]?=some c) {i:Nat} (hf:firstIx c.name (cs.take j)=some i):IxMap Tryz.prog w cs (j+1) b:=by
 obtain ⟨D,h1,h2,h3⟩:=h
 have q:=h3 c.name
 rw [hf] at q
 exact ⟨D,h1.mono (Nat.le_succ _),h2,ix_old hc h3 q.1⟩
theorem ix_put {w:World} {cs:List Cn} {j b:Nat} {c:Cn} (h:IxMap Tryz.prog w cs j b) (hc:cs[j]?=some c) (hs:c.name.size≤maxLen) (hj:j < maxLen) (hf:firstIx c.name (cs.take j)=none) :
 ∃ w',(Instr.mapUpdate 83 (.map (some b)) (.string c.name) (.int .i64 j)).run Tryz.prog w=.ok () w'∧IxMap Tryz.prog w' cs (j+1) b∧w.grownBy w' (some b):=by
 obtain ⟨D,h1,h2,h3⟩:=h
 have q:=h3 c.name
 rw [hf] at q
 obtain ⟨w',hrun,ho,hg⟩:=h1.update Tryz.keyS Tryz.underlying83 hj (Go.WideMaps.keyOf_string_mk Tryz.underlying9 hs) (plainElem_int Tryz.underlying3 (a:=(j:Int)) (WalkArith.wf_i64 (by unfold maxLen at hj;omega)))
 exact ⟨w',hrun,⟨_,ho,h2.put _ _,ix_new hc h2 h3 q⟩,hg⟩
set_option maxHeartbeats 4000000 in
set_option maxRecDepth 100000 in
theorem newchk_any (cs:List Cn) (p:Option Addr) (cap:Nat) (w:World) (hcs:CsV w cs p) :
 Calls Tryz.prog 14 #[.slice p cs.length cap] w fun e w'=>e=.returned (.pointer (some ⟨w.heap.size+2,0,none⟩))∧ChkJ Tryz.prog w' (w.heap.size+2) w.heap.size (w.heap.size+1) cs cs.length p cap∧Below w.heap.size w w':=by
 have HCS:=Lib.hid hcs
 have hsm:=hcs.small
 clear hcs
 have hmm:=@run_makeMap Tryz.prog
 go_enter Tryz.func14,Tryz.ntmps14
 go_wp2_with fail
 clear hmm
 go_loopg [15] cs.length (fun g i wr=>∃ j:Nat,j≤cs.length∧i=.int .i64 j∧Hid (g=cs.length - j∧ChkJ Tryz.prog wr (w.heap.size+2) w.heap.size (w.heap.size+1) cs j p cap∧Below w.heap.size w wr))
 case atStart =>
  refine ⟨0,by omega,rfl,by omega,⟨by simp [go_sem],by simp [go_sem],by simp [go_sem],?_,?_,by omega,by omega,by omega,by simp⟩,(((Below.refl _ _).alloc (Nat.le_refl _) _).alloc (by simp) _).alloc (by simp;omega) _⟩
  · exact ((IxMap.start _ w cs).kept (World.grownBy_alloc _ _ none) (by simp)).kept (World.grownBy_alloc _ _ none) (by simp)
  · have:=(KnMap.start Tryz.prog (w.alloc (.map #[] 0)) cs).kept (World.grownBy_alloc _ (.cells #[.slice p cs.length cap,.map (some w.heap.size),.map (some (w.heap.size+1))] 86) none) (by simp)
    simpa using this
 case round =>
  obtain ⟨j,hjn,rfl,HR⟩:=hrel
  by_cases hlt:j < cs.length
  · obtain ⟨c,hc⟩:∃ c,cs[j]?=some c:=⟨_,List.getElem?_eq_getElem (by omega)⟩
    have hcv:CsV wr cs p:=HCS.out.next HR.out.2.2
    obtain ⟨B,O,rfl,⟨d0,d1,d2,d3,d4⟩,hx⟩:=hcv.get hc
    have hi1':(j:Int) < (cs.length:Int):=by omega
    go_upto_region 5 with (fail)
    have hns:c.name.size≤maxLen:=(HCS.out.ok c (List.mem_of_getElem? hc)).1
    have HC:=Lib.hid hc
    have CH:Hid (ChkJ Tryz.prog (wr.alloc (.cells #[.string c.name,.int .i64 c.a.op,.int .i64 c.a.num,.string c.a.name,.slice c.a.ptr (len c.k) c.a.cap] 43)) (w.heap.size+2) w.heap.size (w.heap.size+1) cs j (some ⟨B,O,none⟩) cap):=HR.out.2.1.next ((Below.refl _ _).alloc (Nat.le_refl _) _)
    have BB:Hid (Below w.heap.size w (wr.alloc (.cells #[.string c.name,.int .i64 c.a.op,.int .i64 c.a.num,.string c.a.name,.slice c.a.ptr (len c.k) c.a.cap] 43))):=HR.out.2.2.alloc HR.out.2.2.size _
    have e0:(wr.alloc (.cells #[.string c.name,.int .i64 c.a.op,.int .i64 c.a.num,.string c.a.name,.slice c.a.ptr (len c.k) c.a.cap] 43)).cell? ⟨wr.heap.size,0,none⟩=some (.string c.name):=by simp [go_sem]
    clear d0 d1 d2 d3 d4 hx hcv hc
    generalize wr.alloc (.cells #[.string c.name,.int .i64 c.a.op,.int .i64 c.a.num,.string c.a.name,.slice c.a.ptr (len c.k) c.a.cap] 43)=wa at *
    obtain ⟨v,hb,hrun,hv⟩:=ix_look (w:=wa.drew) (CH.out.next (Below.refl _ _).drew).ix c.name hns
    have HV:=Lib.hid hv
    clear hv
    have y0:=CH.out.c1
    go_region
    clear hrun
    have hjm:j < maxLen:=by unfold maxLen;omega
    cases hf:firstIx c.name (cs.take j) with
    | some i =>
      have hq:hb=true:=by have:=HV.out;rw [hf] at this;exact this.1
      subst hq
      have HF:=Lib.hid hf
      clear hf HV
      go_wp2
      go_roundg (cs.length - (j+1))
      case measure=>have:=HR.out.1;omega
      case rel =>
       have C2:=CH.out.next (Below.refl _ _).drew
       exact ⟨j+1,by omega,by go_num,rfl,⟨C2.c0,C2.c1,C2.c2,ix_keep C2.ix HC.out HF.out,C2.kn,C2.n1,C2.n2,C2.n3,C2.lt⟩,BB.out.drew⟩
    | none =>
      have hq:hb=false:=by have:=HV.out;rw [hf] at this;exact this
      subst hq
      have C2:=Lib.hid ((CH.out.next (Below.refl _ _).drew).next (Below.refl _ _).drew)
      obtain ⟨w9,hrun9,hix9,hg9⟩:=ix_put C2.out.ix HC.out hns hjm hf
      have IX9:=Lib.hid hix9
      have G9:=Lib.hid hg9
      clear hf HV hix9 hg9
      go_upto_region 7 with (fail)
      go_region
      go_wp2
      go_roundg (cs.length - (j+1))
      case measure=>have:=HR.out.1;omega
      case rel =>
       exact ⟨j+1,by omega,by go_num,rfl,C2.out.put IX9.out G9.out,BB.out.drew.drew.grown G9.out (by have:=BB.out.size;simpa using this) (fun k hk=>by cases hk;exact Nat.le_refl _)⟩
  · obtain rfl:j=cs.length:=by omega
    have hn:¬ (cs.length:Int) < (cs.length:Int):=by omega
    go_wp2
    go_ret
    exact ⟨rfl,HR.out.2.1,HR.out.2.2⟩
end
section
set_option linter.unusedVariables false
set_option linter.unusedSimpArgs false
open Go.ChangeShapes Go.WideShapes Go.ChangeAt Go.RowKit
open Go.Deep (BT)
def Keeps (w w':World):Prop:=∀ p v,w.cell? p=some v→w'.cell? p=some v
theorem Keeps.refl (w:World):Keeps w w:=fun _ _ h=>h
theorem Keeps.trans {a b c:World} (h:Keeps a b) (k:Keeps b c):Keeps a c:=fun p v q=>k p v (h p v q)
theorem Keeps.of_below {w w':World} (h:Below w.heap.size w w'):Keeps w w':=fun p v q=>by rw [h.cell (block_lt_of_cell q)];exact q
theorem no_cell {P:Program} {w:World} {k:TypeId} {R:Value→Option (DataW Unit × List MemPlace)} {b n:Nat} {D:DataW Unit} (h:w.ownsMap P k R b n D) (p:Addr) (hp:p.block=b):w.cell? p=none:=by
 obtain ⟨es,clock,hb,-⟩:=h
 subst hp
 simp [World.cell?,hb]
theorem Keeps.of_grown {P:Program} {w w':World} {cs:List Cn} {mb:Nat} (hk:KnMap P w cs mb) (h:w.grownBy w' (some mb)):Keeps w w':=fun p v q=>by
 obtain ⟨D,K,ho,-⟩:=hk
 have hne:some p.block≠some mb:=fun e=>by rw [no_cell ho p (Option.some.inj e)] at q;cases q
 rw [World.cell?_of_block (h.block p.block (block_lt_of_cell q) hne)];exact q
theorem FoAt.keep {w w':World} {T:Fo} {B O:Nat} (h:FoAt w T B O) (hk:Keeps w w'):FoAt w' T B O:=by
 induction T generalizing B O with
 | nil=>trivial
 | node b o a k r ihk ihr =>
   obtain ⟨⟨h0,h1,h2,h3⟩,hp,hkk,hr⟩:=h
   exact ⟨⟨hk _ _ h0,hk _ _ h1,hk _ _ h2,hk _ _ h3⟩,hp,ihk hkk,ihr hr⟩
theorem ExAt.keep {w w':World} {b o:Nat} {a:Nd} {k:Fo} (h:ExAt w b o a k) (hk:Keeps w w'):ExAt w' b o a k:=⟨h.1,h.2.keep hk⟩
theorem CsAt.keep {w w':World} {cs:List Cn} {B O:Nat} (h:CsAt w cs B O) (hk:Keeps w w'):CsAt w' cs B O:=by
 induction cs generalizing O with
 | nil=>trivial
 | cons c cs ih =>
   obtain ⟨⟨h0,h1,h2,h3,h4⟩,hx,hr⟩:=h
   exact ⟨⟨hk _ _ h0,hk _ _ h1,hk _ _ h2,hk _ _ h3,hk _ _ h4⟩,hx.keep hk,ih hr⟩
theorem CsV.keep {w w':World} {cs:List Cn} {p:Option Addr} (h:CsV w cs p) (hk:Keeps w w'):CsV w' cs p:=by
 obtain ⟨⟨B,O,h1,h2⟩,h3,h4⟩:=h
 exact ⟨⟨B,O,h1,h2.keep hk⟩,h3,h4⟩
theorem grw_below {a b c:World} {row:Option Nat} (h:a.grownBy b row) (k:Below a.heap.size b c):a.grownBy c row:=⟨k.os.trans h.os,k.tape.trans h.tape,k.output.trans h.output,Nat.le_trans h.size k.size,fun i hi hr=>(k.block i hi).trans (h.block i hi hr)⟩
theorem grw_of_below {a b:World} (row:Option Nat) (k:Below a.heap.size a b):a.grownBy b row:=⟨k.os,k.tape,k.output,k.size,fun i hi hr=>k.block i hi⟩
theorem grw_new {a b c:World} {row:Option Nat} {g:Nat} (h:a.grownBy b row) (k:b.grownBy c (some g)) (hg:a.heap.size≤g):a.grownBy c row :=
 ⟨k.os.trans h.os,k.tape.trans h.tape,k.output.trans h.output,Nat.le_trans h.size k.size,fun i hi hr=>(k.block i (Nat.lt_of_lt_of_le hi h.size) (fun e=>by have:=Option.some.inj e;omega)).trans (h.block i hi hr)⟩
theorem ChkJ.grown {P:Program} {w w':World} {kb ib mb:Nat} {cs:List Cn} {j:Nat} {p:Option Addr} {cap:Nat} {row:Option Nat} (h:ChkJ P w kb ib mb cs j p cap) (hg:w.grownBy w' row) (h1:some kb≠row) (h2:some ib≠row) (h3:some mb≠row):ChkJ P w' kb ib mb cs j p cap where
 c0:=by rw [World.cell?_of_block (hg.block kb h.lt h1)];exact h.c0
 c1:=by rw [World.cell?_of_block (hg.block kb h.lt h1)];exact h.c1
 c2:=by rw [World.cell?_of_block (hg.block kb h.lt h1)];exact h.c2
 ix:=h.ix.kept hg h2
 kn:=h.kn.kept hg h3
 n1:=h.n1
 n2:=h.n2
 n3:=h.n3
 lt:=Nat.lt_of_lt_of_le h.lt hg.size
theorem IxMap.lt {P:Program} {w:World} {cs:List Cn} {j b:Nat} (h:IxMap P w cs j b):b < w.heap.size:=by
 obtain ⟨D,⟨es,clock,hb,-⟩,-⟩:=h
 exact (Array.getElem?_eq_some_iff.1 hb).1
theorem KnMap.lt {P:Program} {w:World} {cs:List Cn} {b:Nat} (h:KnMap P w cs b):b < w.heap.size:=by
 obtain ⟨D,K,⟨es,clock,hb,-⟩,-⟩:=h
 exact (Array.getElem?_eq_some_iff.1 hb).1
theorem tyT_err (look:Look) (sc:Int) (a:Nd) (k:Fo) (hl:∀ s,(look s).2≠0→(look s).1=0) (h:(tyT look sc a k).2≠0):(tyT look sc a k).1=0:=by
 unfold tyT nameT at h ⊢
 (repeat' split)<;>simp_all
theorem rowT_err (cs:List Cn) (i:Nat) (h:(rowT cs i).2≠0):(rowT cs i).1=0:=by
 induction i using Nat.strongRecOn with
 | _ i ih =>
   cases hc:cs[i]? with
   | none =>
     unfold rowT
     rw [tabN,hc,List.getD_eq_getElem?_getD,List.getElem?_append_right (by rw [tabN_len];omega),tabN_len]
     simp
   | some c =>
     rw [rowT_eq cs i c hc] at h ⊢
     unfold oneT at h ⊢
     by_cases q:valE c.a c.k=0
     · rw [if_pos q] at h ⊢
       refine tyT_err _ _ _ _ ?_ h
       intro s
       rw [lookT_tab]
       cases firstIx s cs with
       | none=>intro _;rfl
       | some j =>
         by_cases hj:j < i
         · simp only [if_pos hj];exact ih j hj
         · simp only [if_neg hj];intro _;trivial
     · rw [if_neg q]
end
end Go.Proofs.YtljdcpobomfnpaaGreat
