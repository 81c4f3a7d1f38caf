import Derived.Test.YtljdcpobomfnpaaGreatGf
import Derived.Test.YtljdcpobomfnpaaGreatGa
import Derived.Test.YtljdcpobomfnpaaGreatGe
namespace Go.Proofs.YtljdcpobomfnpaaGreat
section
set_option linter.unusedVariables false
set_option linter.unusedSimpArgs false
open Go.RowKit
open Go.Deep (BT)
def CsAt (w:World):List Cn→Nat→Nat→Prop
 | [],_,_=>True
 | c :: cs,B,O=>(w.cell? ⟨B,O,none⟩=some (.string c.name)∧w.cell? ⟨B,O+1,none⟩=some (.int .i64 c.a.op)∧w.cell? ⟨B,O+2,none⟩=some (.int .i64 c.a.num)∧w.cell? ⟨B,O+3,none⟩=some (.string c.a.name)∧w.cell? ⟨B,O+4,none⟩=some (.slice c.a.ptr (len c.k) c.a.cap)) ∧
     ExAt w c.b c.o c.a c.k∧CsAt w cs B (O+5)
def CnOk (c:Cn):Prop:=c.name.size≤9223372036854775807∧ExOk c.a c.k
def CsOk (cs:List Cn):Prop:=∀ c ∈ cs,CnOk c
structure CsV (w:World) (cs:List Cn) (p:Option Addr):Prop where
 ex:∃ B O,(cs≠[]→p=some ⟨B,O,none⟩)∧CsAt w cs B O
 ok:CsOk cs
 small:cs.length≤2932031007402
theorem CsAt.get {w:World} {cs:List Cn} {B O i:Nat} {c:Cn} (h:CsAt w cs B O) (hi:cs[i]?=some c) :
 (w.cell? ⟨B,O+i * 5,none⟩=some (.string c.name)∧w.cell? ⟨B,O+i * 5+1,none⟩=some (.int .i64 c.a.op)∧w.cell? ⟨B,O+i * 5+2,none⟩=some (.int .i64 c.a.num)∧w.cell? ⟨B,O+i * 5+3,none⟩=some (.string c.a.name)∧w.cell? ⟨B,O+i * 5+4,none⟩=some (.slice c.a.ptr (len c.k) c.a.cap))∧ExAt w c.b c.o c.a c.k:=by
 induction cs generalizing O i with
 | nil=>simp at hi
 | cons d cs ih =>
   cases i with
   | zero=>simp at hi;subst hi;simp only [Nat.zero_mul,Nat.add_zero];exact ⟨h.1,h.2.1⟩
   | succ i =>
     have:=ih h.2.2 (by simpa using hi)
     rw [show O+5+i * 5=O+(i+1) * 5 by omega] at this
     exact this
theorem CsAt.next {w w':World} {cs:List Cn} {B O:Nat} (h:CsAt w cs B O) (hb:Below w.heap.size w w'):CsAt w' cs B O:=by
 induction cs generalizing O with
 | nil=>trivial
 | cons c cs ih =>
   obtain ⟨⟨h0,h1,h2,h3,h4⟩,hx,hr⟩:=h
   refine ⟨⟨?_,?_,?_,?_,?_⟩,hx.next hb,ih hr⟩
   · rw [hb.cell (block_lt_of_cell h0)];exact h0
   · rw [hb.cell (block_lt_of_cell h1)];exact h1
   · rw [hb.cell (block_lt_of_cell h2)];exact h2
   · rw [hb.cell (block_lt_of_cell h3)];exact h3
   · rw [hb.cell (block_lt_of_cell h4)];exact h4
theorem CsV.next {w w':World} {cs:List Cn} {p:Option Addr} (h:CsV w cs p) (hb:Below w.heap.size w w'):CsV w' cs p:=by
 obtain ⟨⟨B,O,h1,h2⟩,h3,h4⟩:=h
 exact ⟨⟨B,O,h1,h2.next hb⟩,h3,h4⟩
theorem CsV.get {w:World} {cs:List Cn} {p:Option Addr} (h:CsV w cs p) {i:Nat} {c:Cn} (hi:cs[i]?=some c):∃ B O,p=some ⟨B,O,none⟩ ∧
 (w.cell? ⟨B,O+i * 5,none⟩=some (.string c.name)∧w.cell? ⟨B,O+i * 5+1,none⟩=some (.int .i64 c.a.op)∧w.cell? ⟨B,O+i * 5+2,none⟩=some (.int .i64 c.a.num)∧w.cell? ⟨B,O+i * 5+3,none⟩=some (.string c.a.name)∧w.cell? ⟨B,O+i * 5+4,none⟩=some (.slice c.a.ptr (len c.k) c.a.cap))∧ExAt w c.b c.o c.a c.k:=by
 obtain ⟨⟨B,O,h1,h2⟩,h3,h4⟩:=h
 obtain ⟨g1,g2⟩:=h2.get hi
 exact ⟨B,O,h1 (by rintro rfl;simp at hi),g1,g2⟩
theorem firstIx_none (s:ByteArray) (cs:List Cn):firstIx s cs=none↔∀ c ∈ cs,c.name≠s:=by
 induction cs with
 | nil=>simp [firstIx]
 | cons c cs ih =>
   unfold firstIx
   by_cases h:c.name=s
   · simp [h]
   · rw [if_neg h];simp [ih,h]
theorem firstIx_some (s:ByteArray) (cs:List Cn) (i:Nat):firstIx s cs=some i↔(∃ c,cs[i]?=some c∧c.name=s)∧∀ c ∈ cs.take i,c.name≠s:=by
 induction cs generalizing i with
 | nil=>simp [firstIx]
 | cons c cs ih =>
   unfold firstIx
   by_cases h:c.name=s
   · rw [if_pos h]
     constructor
     · intro e;cases e;exact ⟨⟨c,rfl,h⟩,by simp⟩
     · rintro ⟨-,h2⟩
       cases i with
       | zero=>rfl
       | succ i=>exact absurd h (h2 c (by simp))
   · rw [if_neg h]
     cases i with
     | zero =>
       constructor
       · intro e;cases q:firstIx s cs<;>simp [q] at e
       · rintro ⟨⟨d,hd,hn⟩,-⟩;simp at hd;subst hd;exact absurd hn h
     | succ i =>
       have hi:=ih i
       have e1:((firstIx s cs).map (·+1)=some (i+1))↔firstIx s cs=some i:=by
        cases firstIx s cs<;>simp
       rw [e1,hi]
       simp [h]
theorem firstIx_lt (s:ByteArray) (cs:List Cn) (i:Nat) (h:firstIx s cs=some i):i < cs.length:=by
 obtain ⟨⟨c,hc,-⟩,-⟩:=(firstIx_some s cs i).1 h
 exact (List.getElem?_eq_some_iff.1 hc).1
theorem firstIx_take (s:ByteArray) (cs:List Cn) (n:Nat):firstIx s (cs.take n)=match firstIx s cs with|some i=>if i < n then some i else none|none=>none:=by
 induction cs generalizing n with
 | nil=>simp [firstIx]
 | cons c cs ih =>
   cases n with
   | zero =>
     simp only [List.take_zero]
     cases q:firstIx s (c :: cs)<;>simp [firstIx]
   | succ n =>
     rw [List.take_succ_cons,firstIx,firstIx]
     by_cases h:c.name=s
     · simp [h]
     · rw [if_neg h,if_neg h,ih n]
       cases firstIx s cs with
       | none=>rfl
       | some i=>by_cases q:i < n<;>simp [q]
end
section
set_option linter.unusedVariables false
set_option linter.unusedSimpArgs false
open Go.ChangeShapes Go.WideShapes Go.ChangeAt Go.RowKit
open Go.Deep (BT)
def ixI (o:Option Nat):Int:=match o with|some i=>i|none => -1
set_option maxHeartbeats 1000000 in
theorem rcix_any (cs:List Cn) (p:Option Addr) (n cap:Nat) (s:ByteArray) (w:World) (hcs:CsV w cs p) (hn:n≤cs.length) :
 Calls Tryz.prog 71 #[.slice p n cap,.string s] w fun e w'=>e=.returned (.int .i64 (ixI (firstIx s (cs.take n))))∧w=w':=by
 have HC:=Lib.hid hcs
 have hsm:=hcs.small
 have hn2:n≤2932031007402:=by omega
 clear hcs hsm
 go_enter Tryz.func71,Tryz.ntmps71
 go_wp2_with fail
 go_loop [5] (fun i=>∃ j:Nat,j≤n∧i=.int .i64 j∧Hid (∀ c ∈ cs.take j,c.name≠s)) (fun i=>n - (intOf i).toNat)
 case atStart=>exact ⟨0,by omega,rfl,by intro c hc;simp at hc⟩
 case round =>
  obtain ⟨j,hj,rfl,HR⟩:=hrel
  by_cases hlt:j < n
  · obtain ⟨c,hc⟩:∃ c,cs[j]?=some c:=⟨_,List.getElem?_eq_getElem (by omega)⟩
    obtain ⟨B,O,rfl,⟨c0,-⟩,-⟩:=HC.out.get hc
    have hi:(j:Int) < (n:Int):=by omega
    have CJ:=Lib.hid hc
    clear hc
    by_cases he:c.name=s
    · have hb:(c.name.toList==s.toList)=true:=by rw [he];simp
      have R:Hid (firstIx s (cs.take n)=some j):=by
       refine (firstIx_some _ _ _).2 ⟨⟨c,?_,he⟩,?_⟩
       · rw [List.getElem?_take_of_lt hlt];exact CJ.out
       · rw [List.take_take,Nat.min_eq_left (by omega)];exact HR.out
      clear he
      go_wp2
      go_ret
      exact ⟨ret_int (by rw [R.out];rfl),rfl⟩
    · have hb:(c.name.toList==s.toList)=false:=by
       rw [beq_eq_false_iff_ne,Lib.toList_data,Lib.toList_data]
       exact fun q=>he (ByteArray.ext (Array.toList_inj.1 q))
      have R:Hid (∀ c ∈ cs.take (j+1),c.name≠s):=by
       intro d hd
       rw [List.take_add_one,CJ.out] at hd
       rcases List.mem_append.1 hd with hd|hd
       · exact HR.out d hd
       · simp at hd;rw [hd];exact he
      clear he
      go_wp2
      go_round
      case rel=>exact ⟨j+1,by omega,by go_num,R.out⟩
      case measure=>simp [intOf];omega
  · have hi:¬ (j:Int) < (n:Int):=by omega
    have R:Hid (firstIx s (cs.take n)=none):=by
     obtain rfl:j=n:=by omega
     exact (firstIx_none _ _).2 HR.out
    go_wp2
    go_ret
    exact ⟨ret_int (by rw [R.out];rfl),rfl⟩
end
section
set_option linter.unusedVariables false
set_option linter.unusedSimpArgs false
open Go.ChangeShapes Go.WideShapes Go.ChangeAt Go.RowKit
open Go.Deep (BT)
theorem Tryz.infoI:(Tryz.prog.info? 3).map (fun i=>(i.zero,i.size,i.bytes))=some (some (.int .i64 0),1,8):=by kernel_rfl
def intV (L:List Int):List Value:=L.map fun x=>Value.int .i64 x
theorem own_below {w w':World} {base:Nat} {e:TypeId} {size:Nat} {v:Value} {n:Nat} {xs:List Value} (h:w.ownsRow base e size v n xs) (hb:Below w.heap.size w w'):w'.ownsRow base e size v n xs :=
 h.kept (gb_of_below hb none) (by cases v.ownBlock<;>simp)
theorem ints_of_own {w:World} {base:Nat} {e:TypeId} {v:Value} {n:Nat} {L:List Int} (h:w.ownsRow base e 1 v n (intV L)):IntsAt w v L:=by
 have hl:=h.1
 simp [intV] at hl
 rcases h.2 with ⟨hv,h0⟩|⟨g,cap,cur,hv,-⟩
 · left
   exact ⟨by rw [h0] at hl;exact List.length_eq_zero_iff.1 hl,none,0,hv⟩
 · refine .inr ⟨g,cap,by rw [hv,hl],fun i u hu=>?_⟩
   subst hv
   have hi:i < n * 1:=by
    have:=(List.getElem?_eq_some_iff.1 hu).1
    omega
   rw [h.cellAt i hi];simp [intV,hu]
def RtyC (b o:Nat) (a:Nd) (k:Fo):Prop:=∀ (w:World) (cs:List Cn) (p:Option Addr) (cap:Nat) (T:List (Int × Int)) (kv ev:Value) (sc:Int),
 ExAt w b o a k→ExOk a k→(wfB a (len k) && wfT k)=true→sz k≤200→CsV w cs p→T.length≤cs.length→IntsAt w kv (T.map (·.1))→IntsAt w ev (T.map (·.2)) →
 Calls Tryz.prog 48 #[.agg #[kv,ev],.slice p T.length cap,.int .i64 sc,.agg #[.int .i64 a.op,.int .i64 a.num,.string a.name,.slice a.ptr (len k) a.cap]] w
  fun e w'=>e=.returned (.tuple #[.int .i64 (tyT (lookT cs T) sc a k).1,.int .i64 (tyT (lookT cs T) sc a k).2])∧Below w.heap.size w w'
def restF (L:List Int) (t:Int × List Int):Int × List Int:=if t.1=0 then (0,L++t.2) else (t.1,[])
theorem restF_nil (t:Int × List Int) (h:t.1≠0→t.2=[]):restF [] t=t:=by
 unfold restF
 by_cases q:t.1=0
 · rw [if_pos q,List.nil_append,← q]
 · rw [if_neg q,← h q]
theorem tyF_err (look:Look) (sc:Int) (T:Fo) (h:(tyF look sc T).1≠0):(tyF look sc T).2=[]:=by
 cases T with
 | nil=>rfl
 | node b o a k r =>
   rw [tyF_node] at h ⊢
   by_cases h1:(tyT look sc a k).2=0
   · rw [if_pos h1] at h ⊢
     by_cases h2:(tyF look sc r).1=0
     · rw [if_pos h2] at h;exact absurd rfl h
     · rw [if_neg h2]
   · rw [if_neg h1]
theorem restF_node (L:List Int) (look:Look) (sc:Int) (b o:Nat) (a:Nd) (k r:Fo) :
 ((tyT look sc a k).2=0→restF L (tyF look sc (.node b o a k r))=restF (L++[(tyT look sc a k).1]) (tyF look sc r)) ∧
 ((tyT look sc a k).2≠0→restF L (tyF look sc (.node b o a k r))=((tyT look sc a k).2,[])):=by
 rw [tyF_node]
 constructor
 · intro h
   rw [if_pos h]
   unfold restF
   by_cases h2:(tyF look sc r).1=0
   · simp [h2]
   · rw [if_neg h2,if_neg h2,if_neg h2]
 · intro h
   rw [if_neg h];unfold restF;rw [if_neg h]
theorem look_none (cs:List Cn) (T:List (Int × Int)) (s:ByteArray) (h:firstIx s (cs.take T.length)=none):lookT cs T s=(0,6):=by
 rw [firstIx_take] at h
 unfold lookT
 cases q:firstIx s cs with
 | none=>rfl
 | some i =>
   rw [q] at h
   simp only at h
   by_cases hi:i < T.length
   · rw [if_pos hi] at h;cases h
   · simp [hi]
theorem look_some (cs:List Cn) (T:List (Int × Int)) (s:ByteArray) (i:Nat) (h:firstIx s (cs.take T.length)=some i):i < T.length∧lookT cs T s=T.getD i (0,6):=by
 rw [firstIx_take] at h
 unfold lookT
 cases q:firstIx s cs with
 | none=>rw [q] at h;cases h
 | some j =>
   rw [q] at h
   simp only at h
   by_cases hi:j < T.length
   · rw [if_pos hi] at h;cases h;exact ⟨hi,by simp [hi]⟩
   · rw [if_neg hi] at h;cases h
theorem ints_at {w:World} {v:Value} {T:List (Int × Int)} {i:Nat} (h:IntsAt w v (T.map (·.1))) (hi:i < T.length):∃ _:i < T.length,∃ g cap,v=.slice (some ⟨g,0,none⟩) T.length cap∧w.cell? ⟨g,i,none⟩=some (.int .i64 (T.getD i (0,6)).1):=by
 rcases h with ⟨h,-⟩|⟨g,cap,h1,h2⟩
 · simp at h;subst h;simp at hi
 · refine ⟨hi,g,cap,by simpa using h1,h2 i _ ?_⟩
   rw [List.getElem?_map,List.getD_eq_getElem?_getD,List.getElem?_eq_getElem hi];rfl
theorem ints_at2 {w:World} {v:Value} {T:List (Int × Int)} {i:Nat} (h:IntsAt w v (T.map (·.2))) (hi:i < T.length):∃ _:i < T.length,∃ g cap,v=.slice (some ⟨g,0,none⟩) T.length cap∧w.cell? ⟨g,i,none⟩=some (.int .i64 (T.getD i (0,6)).2):=by
 rcases h with ⟨h,-⟩|⟨g,cap,h1,h2⟩
 · simp at h;subst h;simp at hi
 · refine ⟨hi,g,cap,by simpa using h1,h2 i _ ?_⟩
   rw [List.getElem?_map,List.getD_eq_getElem?_getD,List.getElem?_eq_getElem hi];rfl
set_option maxHeartbeats 4000000 in
set_option maxRecDepth 100000 in
theorem rtyped_any (b o:Nat) (a:Nd) (k:Fo):RtyC b o a k:=by
 refine tree_of (P:=RtyC) ?_ b o a k
 clear b o a k
 intro b o a k ih w cs p cap T kv ev sc hx hok hwf hz hcs hT hkv hev
 obtain ⟨op,num,name,ptr,acap⟩:=a
 obtain ⟨i0,hi,hi0,hi1,hi2⟩:=info_parts Tryz.infoI
 show Calls Tryz.prog 48 #[.agg #[kv,ev],.slice p T.length cap,.int .i64 sc,.agg #[.int .i64 op,.int .i64 num,.string name,.slice ptr (len k) acap]] w _
 have IH:=Lib.hid ih
 have HX:=Lib.hid hx
 have HOK:=Lib.hid hok
 have HW:=Lib.hid hwf
 have HZ:=Lib.hid hz
 have HCS:=Lib.hid hcs
 have HKV:=Lib.hid hkv
 have HEV:=Lib.hid hev
 have hk:len k≤200:=Nat.le_trans (len_le_sz k) hz
 have hT2:T.length≤2932031007402:=Nat.le_trans hT hcs.small
 clear ih hx hok hwf hz hcs hkv hev
 have hs:name.size≤9223372036854775807:=HOK.out.1.2.2.1
 obtain ⟨R,hR⟩:∃ R,R=tyT (lookT cs T) sc ⟨op,num,name,ptr,acap⟩ k:=⟨_,rfl⟩
 have V:Hid (R=if op=6 then nameT (lookT cs T) sc name else if (tyF (lookT cs T) sc k).1=0 then (if resT op (tyF (lookT cs T) sc k).2=0 then (0,9) else (resT op (tyF (lookT cs T) sc k).2,0)) else (0,(tyF (lookT cs T) sc k).1)):=hR
 rw [← hR]
 clear hR
 have B00:Below w.heap.size w ((w.alloc (.cells #[kv,ev] 93)).alloc (.cells #[.int .i64 op,.int .i64 num,.string name,.slice ptr (len k) acap] 34)):=((Below.refl _ _).alloc (Nat.le_refl _) _).alloc (by simp) _
 have HB0:=Lib.hid B00
 clear B00
 have BX:Hid (∀ wr,Below (w.heap.size+2) ((w.alloc (.cells #[kv,ev] 93)).alloc (.cells #[.int .i64 op,.int .i64 num,.string name,.slice ptr (len k) acap] 34)) wr →
  (wr.cell? ⟨w.heap.size,0,none⟩=some kv∧wr.cell? ⟨w.heap.size,1,none⟩=some ev)∧(wr.cell? ⟨w.heap.size+1,0,none⟩=some (.int .i64 op)∧wr.cell? ⟨w.heap.size+1,2,none⟩=some (.string name)∧wr.cell? ⟨w.heap.size+1,3,none⟩=some (.slice ptr (len k) acap))):=by
  intro wr hb
  refine ⟨⟨?_,?_⟩,?_,?_,?_⟩
  · rw [hb.cell (p:=⟨w.heap.size,0,none⟩) (by simp)];simp [go_sem]
  · rw [hb.cell (p:=⟨w.heap.size,1,none⟩) (by simp)];simp [go_sem]
  · rw [hb.cell (p:=⟨w.heap.size+1,0,none⟩) (by simp)];simp [go_sem]
  · rw [hb.cell (p:=⟨w.heap.size+1,2,none⟩) (by simp)];simp [go_sem]
  · rw [hb.cell (p:=⟨w.heap.size+1,3,none⟩) (by simp)];simp [go_sem]
 go_enter Tryz.func48,Tryz.ntmps48
 go_wp2_with fail
 go_loopw [10,11] (fun v i wr=>∃ (j:Nat) (r:Fo) (L:List Int),i=.int .i64 j∧w.heap.size+1 < wr.heap.size ∧
  Hid (j+len r=len k∧FoAt wr r b (o+j * 4)∧FoOk r∧AllT RtyC r∧wfT r=true∧sz r≤200∧L.length=j∧wr.ownsRow (w.heap.size+2) 3 1 v j (intV L) ∧
   Below (w.heap.size+2) ((w.alloc (.cells #[kv,ev] 93)).alloc (.cells #[.int .i64 op,.int .i64 num,.string name,.slice ptr (len k) acap] 34)) wr∧restF L (tyF (lookT cs T) sc r)=tyF (lookT cs T) sc k∧FoLt w.heap.size r b)) (fun _ i _=>len k - (intOf i).toNat)
 case atStart =>
  refine ⟨0,k,[],rfl,by simp,by omega,?_,HOK.out.2,IH.out,?_,HZ.out,rfl,World.ownsRow_nil _ _ _ _,Below.refl _ _,restF_nil _ (tyF_err _ _ _),HX.out.2.lt⟩
  · rw [Nat.zero_mul,Nat.add_zero];exact HX.out.2.next HB0.out
  · have:=HW.out;rw [Bool.and_eq_true] at this;exact this.2
 case round =>
  obtain ⟨j,r,L,rfl,hsz,HR⟩:=hrel
  have BW:Hid (Below w.heap.size w wr):=HB0.out.trans (HR.out.2.2.2.2.2.2.2.2.1.mono (by omega))
  obtain ⟨⟨d0,d1⟩,x0,x2,x3⟩:=BX.out wr HR.out.2.2.2.2.2.2.2.2.1
  cases r with
  | nil =>
    have hj:¬ (j:Int) < (len k:Int):=by have:=HR.out.1;simp [len] at this;omega
    have F:Hid (tyF (lookT cs T) sc k=(0,L)):=by
     have:=HR.out.2.2.2.2.2.2.2.2.2.1
     unfold Hid;rw [← this];simp [restF,tyF]
    have hjl:Hid (L.length=len k):=by
     have h1:=HR.out.1
     have h2:=HR.out.2.2.2.2.2.2.1
     simp [len] at h1;unfold Hid;omega
    have IT:=Lib.hid (ints_of_own HR.out.2.2.2.2.2.2.2.1)
    by_cases h6:op=6
    · have b6:(op==6)=true:=by simp [h6]
      have RR:Hid (R=nameT (lookT cs T) sc name):=by unfold Hid;rw [V.out,if_pos h6]
      have N:Hid (nameT (lookT cs T) sc name=if atE sc name=0 then (atS sc name,0) else lookT cs T name):=rfl
      have KV:=Lib.hid (HKV.out.next BW.out)
      have EV:=Lib.hid (HEV.out.next BW.out)
      have CV:=Lib.hid (HCS.out.next BW.out)
      have QN:=Lib.hid (look_none cs T name)
      have QS:=Lib.hid (look_some cs T name)
      clear h6 V HR IT F hjl
      go_wp2_with fail
      refine (ratt_any _ _ _ hs).mono ?_
      rintro e w1 ⟨rfl,hb⟩
      have y2:w1.cell? ⟨w.heap.size+1,2,none⟩=some (.string name):=by rw [hb.cell (block_lt_of_cell x2)];exact x2
      have f0:w1.cell? ⟨w.heap.size,0,none⟩=some kv:=by rw [hb.cell (block_lt_of_cell d0)];exact d0
      have f1:w1.cell? ⟨w.heap.size,1,none⟩=some ev:=by rw [hb.cell (block_lt_of_cell d1)];exact d1
      have B1:=Lib.hid hb
      clear x0 x2 x3 d0 d1 hb
      by_cases h0:atE sc name=0
      · have RQ:Hid (R=(atS sc name,0)):=by unfold Hid;rw [RR.out,N.out,if_pos h0]
        have b0:(atE sc name==0)=true:=by simp [h0]
        clear h0
        go_wp2
        go_ret2
        exact ⟨by rw [RQ.out];rfl,BW.out.trans (B1.out.mono BW.out.size)⟩
      · have RQ:Hid (R=lookT cs T name):=by unfold Hid;rw [RR.out,N.out,if_neg h0]
        have b0:(atE sc name==0)=false:=by simp [h0]
        clear h0
        go_wp2_with fail
        refine (rcix_any cs p T.length cap name _ (CV.out.next B1.out) hT).mono ?_
        cases hq:firstIx name (cs.take T.length) with
        | none =>
          have Q:=Lib.hid (QN.out hq)
          clear hq
          rw [show ixI none = -1 from rfl]
          rintro e w2 ⟨rfl,hw⟩
          subst hw
          go_wp2
          go_ret2
          exact ⟨by rw [RQ.out,Q.out];rfl,BW.out.trans (B1.out.mono BW.out.size)⟩
        | some i =>
          have Q:=Lib.hid (QS.out i hq)
          clear hq
          rw [show ixI (some i)=(i:Int) from rfl]
          rintro e w2 ⟨rfl,hw⟩
          subst hw
          obtain ⟨hit,g1,cap1,rfl,k1⟩:∃ _:i < T.length,∃ g cap,kv=.slice (some ⟨g,0,none⟩) T.length cap∧w1.cell? ⟨g,i,none⟩=some (.int .i64 (T.getD i (0,6)).1):=ints_at (KV.out.next B1.out) Q.out.1
          obtain ⟨-,g2,cap2,rfl,k2⟩:∃ _:i < T.length,∃ g cap,ev=.slice (some ⟨g,0,none⟩) T.length cap∧w1.cell? ⟨g,i,none⟩=some (.int .i64 (T.getD i (0,6)).2):=ints_at2 (EV.out.next B1.out) Q.out.1
          have Q2:=Lib.hid Q.out.2
          generalize T.getD i (0,6)=tt at *
          obtain ⟨t1,t2⟩:=tt
          dsimp only at k1 k2
          have j1:(i:Int) < (T.length:Int):=by omega
          have j0:(0:Int)≤(i:Int):=by omega
          clear Q KV EV QN QS N RR
          go_upto_region 16 with (fail)
          go_quiet (fail)
          go_wp2
          go_ret2
          refine ⟨by rw [RQ.out,Q2.out];rfl,?_⟩
          exact below_drewN (BW.out.trans (B1.out.mono BW.out.size)) _
    · have b6:(op==6)=false:=by simp [h6]
      have hr:1≤op∧op≤22∧argB op L.length=true:=by
       have h:=HW.out
       unfold wfB at h
       dsimp only at h
       rw [hjl.out]
       simp only [Bool.and_eq_true,decide_eq_true_eq] at h
       exact ⟨h.1.1.1.1.1,h.1.1.1.1.2,h.1.1.1.2⟩
      have RR:Hid (R=if resT op L=0 then (0,9) else (resT op L,0)):=by
       unfold Hid;rw [V.out,if_neg h6,F.out];simp
      have C:=Lib.hid (rresult_any op _ L wr IT.out (by rw [hjl.out];omega) hr.2.2 hr.1 hr.2.1 h6)
      clear V hr F
      go_wp2_with fail
      refine C.out.mono ?_
      generalize resT op L=z at *
      rintro e w1 ⟨rfl,hb⟩
      by_cases h0:z=0
      · have b0:(z==0)=true:=by simp [h0]
        have RQ:Hid (R=(0,9)):=by unfold Hid;rw [RR.out,if_pos h0]
        clear h0
        go_wp2
        go_ret2
        exact ⟨by rw [RQ.out];rfl,BW.out.trans (hb.mono BW.out.size)⟩
      · have b0:(z==0)=false:=by simp [h0]
        have RQ:Hid (R=(z,0)):=by unfold Hid;rw [RR.out,if_neg h0]
        clear h0
        go_wp2
        go_ret2
        exact ⟨by rw [RQ.out];rfl,BW.out.trans (hb.mono BW.out.size)⟩
  | node b1 o1 a1 k1 r1 =>
    have hj:j < len k:=by have:=HR.out.1;simp [len] at this;omega
    obtain rfl:ptr=some ⟨b,o,none⟩:=HX.out.1 (by rintro rfl;simp [len] at hj)
    obtain ⟨⟨c0,c1,c2,c3⟩,hp1,hk1,hr1⟩:=HR.out.2.1
    have X1:Hid (ExAt wr b1 o1 a1 k1):=⟨hp1,hk1⟩
    have N1:=Lib.hid hr1
    clear hp1 hk1 hr1
    have hj1:(j:Int) < (len k:Int):=by omega
    have hj0:(0:Int)≤(j:Int):=by omega
    have W1:Hid ((wfB a1 (len k1) && wfT k1)=true∧wfT r1=true):=by
     have h:((wfB a1 (len k1) && wfT k1) && wfT r1)=true:=HR.out.2.2.2.2.1
     rw [Bool.and_eq_true] at h;exact h
    have Z1:Hid (sz k1≤200∧sz r1≤200):=by
     have e1:sz (BT.node b1 o1 a1 k1 r1)=1+sz k1+sz r1:=rfl
     have:=HR.out.2.2.2.2.2.1
     rw [e1] at this
     exact ⟨by omega,by omega⟩
    have C:Hid (∀ dq os,Calls Tryz.prog 48 #[.agg #[kv,ev],.slice p T.length cap,.int .i64 sc,.agg #[.int .i64 a1.op,.int .i64 a1.num,.string a1.name,.slice a1.ptr (len k1) a1.cap]] (Sort.grow (redrawn wr dq) os)
     fun e w''=>e=.returned (.tuple #[.int .i64 (tyT (lookT cs T) sc a1 k1).1,.int .i64 (tyT (lookT cs T) sc a1 k1).2])∧∃ p:Regrown,w''=Sort.grow (redrawn wr p.d) p.os):=by
     intro dq os
     have hb:=below_regrown wr dq os
     have hbw:=BW.out.trans (hb.mono BW.out.size)
     exact Calls.regrown_of (HR.out.2.2.2.1.1 _ cs p cap T kv ev sc (X1.out.next hb) ⟨HR.out.2.2.1.1,HR.out.2.2.1.2.1⟩ W1.out.1 Z1.out.1 (HCS.out.next hbw) hT (HKV.out.next hbw) (HEV.out.next hbw))
    have ST:=Lib.hid (restF_node L (lookT cs T) sc b1 o1 a1 k1 r1)
    generalize tyT (lookT cs T) sc a1 k1=t1 at *
    obtain ⟨y1,y2⟩:=t1
    dsimp only at C ST
    have e0:=fun d os=>cell_regrown d0 d os
    have e1:=fun d os=>cell_regrown d1 d os
    have e2:=fun d os=>cell_regrown x3 d os
    have e3:=fun d os=>cell_regrown c0 d os
    have e4:=fun d os=>cell_regrown c1 d os
    have e5:=fun d os=>cell_regrown c2 d os
    have e6:=fun d os=>cell_regrown c3 d os
    go_upto_region 5 with (fail)
    refine wp_region_quiet_below (by kernel_rfl) (by kernel_rfl) ?_
    repeat (quiet_step (with_reducible exact C.out _ _))
    refine wpQuiet_nil ?_
    intro _ hw'
    obtain ⟨⟨dq,osq⟩,hw''⟩:=hw'
    subst hw''
    have hb:=below_regrown wr dq osq
    clear e0 e1 e2 e3 e4 e5 e6 C d0 d1 x0 x2 x3 c0 c1 c2 c3
    generalize Sort.grow (redrawn wr dq) osq=w1 at *
    have B1:=Lib.hid hb
    have hz1:w.heap.size+1 < w1.heap.size:=Nat.lt_of_lt_of_le hsz hb.size
    clear hb
    by_cases h0:y2=0
    · subst h0
      have S1:=Lib.hid (ST.out.1 rfl)
      have OW:=Lib.hid (own_below HR.out.2.2.2.2.2.2.2.1 B1.out)
      clear ST
      go_wp2_with (at_builtin;refine wpList_append_own _ rfl _ _ 22 rfl (w.heap.size+2) 3 i0 (.int .i64 0) 1 8 Tryz.underlying22 hi hi0 hi1 hi2 rfl (by decide) _ _ _ rfl (OW.out.alloc _) ⟨w1.heap.size,0,none⟩ 1 1 [.int .i64 y1] rfl rfl ?c1 ?c2 ?c3 ?c4 ?c5 ?_)
      case c1=>intro q u hu;cases q with
       | zero=>simp at hu;subst hu;simp [Addr.add]
       | succ q=>simp at hu
      case c2=>intro u hu;simp at hu;subst hu;rfl
      case c3=>unfold maxLen;omega
      case c4=>omega
      case c5=>simp;omega
      intro v' w2 hown hgrow hnil
      have B2:Hid (Below (w.heap.size+2) ((w.alloc (.cells #[kv,ev] 93)).alloc (.cells #[.int .i64 op,.int .i64 num,.string name,.slice (some ⟨b,o,none⟩) (len k) acap] 34)) w2):=by
       have q:=(HR.out.2.2.2.2.2.2.2.2.1.trans (B1.out.mono (by omega))).alloc (by omega) (.cells #[.int .i64 y1] 3)
       exact q.grown hgrow (by simp;omega) (fun m hm=>(OW.out.lt m hm).1)
      have N2:Hid (FoAt w2 r1 b (o+j * 4+4)):=by
       have q:FoAt (w1.alloc (.cells #[.int .i64 y1] 3)) r1 b (o+j * 4+4):=(N1.out.next B1.out).next ((Below.refl _ _).alloc (Nat.le_refl _) _)
       have hl:FoLt (w.heap.size+2) r1 b:=HR.out.2.2.2.2.2.2.2.2.2.2.2.2.mono (by omega)
       refine q.below hl ⟨hgrow.os,hgrow.tape,hgrow.output,hgrow.size,fun m hm=>hgrow.block m (by simp;omega) (fun e=>?_)⟩
       have:=(OW.out.lt m e.symm).1
       omega
      have OW2:Hid (w2.ownsRow (w.heap.size+2) 3 1 v' (j+1) (intV (L++[y1]))):=by
       have:intV L++[Value.int .i64 y1]=intV (L++[y1]):=by simp [intV]
       rw [this] at hown;exact hown
      have hz2':w.heap.size+1 < w2.heap.size:=by have:=hgrow.size;simp at this;omega
      clear hown hgrow hnil
      go_wp2
      go_roundw
      case rel =>
       obtain ⟨q1,-,q3,q4,-,-,q7,-,-,q10,q11⟩:=HR.out
       simp [len] at q1
       refine ⟨j+1,r1,L++[y1],by go_num,hz2',by omega,?_,q3.2.2,q4.2,W1.out.2,Z1.out.2,by simp [q7],OW2.out,B2.out,?_,q11.2.2⟩
       · rw [Nat.add_mul,Nat.one_mul,← Nat.add_assoc];exact N2.out
       · rw [← S1.out];exact q10
      case measure=>simp [intOf];omega
    · have S1:=Lib.hid (ST.out.2 h0)
      have b0:(y2 != 0)=true:=by simp [h0]
      have RR:Hid (R=(0,y2)):=by
       have h6:¬ op=6:=by
        intro q
        have h:=HW.out
        unfold wfB argB at h
        dsimp only at h
        rw [q] at h
        simp at h
        omega
       unfold Hid
       rw [V.out,if_neg h6]
       have:=HR.out.2.2.2.2.2.2.2.2.2.1
       rw [← this,S1.out,if_neg h0]
      clear h0 ST
      go_wp2
      go_ret2
      exact ⟨by rw [RR.out];rfl,BW.out.trans (B1.out.mono BW.out.size)⟩
end
end Go.Proofs.YtljdcpobomfnpaaGreat
