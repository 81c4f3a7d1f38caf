import Derived.Test.YtcejjdmnlejbaaaGreatDoorQPzS
import Derived.Test.YtcejjdmnlejbaaaGreatDoorQGc
import Derived.Deep.LoopGhost
import Derived.Test.YtcejjdmnlejbaaaGreatDoorQPzR
import Derived.Test.YtcejjdmnlejbaaaGreatDoorQPzT
import Derived.Test.YtcejjdmnlejbaaaGreatDoorQPzU
import Derived.Deep.RegionLaw
import Derived.Deep.AppendLies
import Derived.Deep.CutBlock
import Derived.Deep.DeepCutAuto
import Derived.Test.YtcejjdmnlejbaaaGreatDoorQPzX
import Derived.Test.YtcejjdmnlejbaaaGreatDoorQTkR
import Derived.Test.YtcejjdmnlejbaaaGreatDoorQSam
import Derived.Test.YtcejjdmnlejbaaaGreatDoorQGa
import Derived.Lib.Strings
import Derived.Test.YtcejjdmnlejbaaaGreatDoorQGb
import Derived.OwnWalk
import Derived.Laws.AppendOwn
import Derived.ChangeArms
import Derived.Deep.Slices
import Derived.SizedLaws
import Derived.OpenShut
import Derived.WalkArith
namespace Go.Proofs.YtcejjdmnlejbaaaGreatDoor
set_option linter.unusedVariables false
set_option linter.unusedSimpArgs false
open Go.ChangeShapes Go.WideShapes Go.ChangeAt Go.RowKit
open Go.Deep (BT)
namespace Pz
end Pz
def awG:ByteArray:=⟨#[49,32,43,32,50,32,42,32,108,101,103,115]⟩
theorem awg_px:Pz.pxT awG=(Pz.tn 8 [Pz.lf 1 1 ⟨#[]⟩,Pz.tn 10 [Pz.lf 1 2 ⟨#[]⟩,Pz.lf 6 0 ⟨#[108,101,103,115]⟩]],0,0):=by kernel_rfl
theorem aw_shape {c x y z:Ch} (h:Pz.nr c=Pz.tn 8 [x,Pz.tn 10 [y,z]]):c.a.op=8∧∃ b1 o1 a1 k1 b2 o2 a2 k2,c.k=.node b1 o1 a1 k1 (.node b2 o2 a2 k2 .nil)∧a2.op=10:=by
 obtain ⟨b,o,a,k⟩:=c
 unfold Pz.nr Pz.tn at h
 injection h with n1 n2 n3 n4
 injection n3 with m1 m2 m3
 refine ⟨m1,?_⟩
 cases k with
 | nil=>simp [Pz.nrm,rowF] at n4
 | node b1 o1 a1 k1 r =>
   simp only [Pz.nrm,rowF] at n4
   injection n4 with q1 q2 q3 q4 q5
   cases r with
   | nil=>simp [Pz.nrm] at q5
   | node b2 o2 a2 k2 r2 =>
     simp only [Pz.nrm] at q5
     injection q5 with p1 p2 p3 p4 p5
     cases r2 with
     | nil =>
       injection p3 with t1 t2 t3
       exact ⟨b1,o1,a1,k1,b2,o2,a2,k2,rfl,t1⟩
     | node=>simp [Pz.nrm] at p5
set_option maxHeartbeats 1000000 in
set_option maxRecDepth 100000 in
theorem gawake_any (w:World):Calls Tryz.prog 9 #[] w fun e w'=>e=.returned (.bool true)∧Below w.heap.size w w':=by
 go_enter Tryz.func9,Tryz.ntmps9
 go_wp2_with fail
 refine (pparse_any awG w (by decide)).mono ?_
 rintro e w1 ⟨c,rfl,hc,hx,hb⟩
 rw [awg_px] at hc ⊢
 dsimp only at hc ⊢
 obtain ⟨h8,b1,o1,a1,k1,b2,o2,a2,k2,hk,h10⟩:=aw_shape hc
 have B:=Lib.hid hb
 obtain ⟨b,o,a,k⟩:=c
 dsimp only at h8 hk hx ⊢
 subst hk
 obtain ⟨op,num,name,ptr,cap⟩:=a
 dsimp only at h8 hx ⊢
 subst h8
 obtain ⟨hp,hf⟩:=hx
 obtain rfl:ptr=some ⟨b,o,none⟩:=hp (by simp)
 obtain ⟨-,-,-,⟨d0,d1,d2,d3⟩,-⟩:=hf
 rw [h10] at d0
 have hl:len (BT.node b1 o1 a1 k1 (BT.node b2 o2 a2 k2 .nil))=2:=rfl
 rw [hl]
 have hbl:=block_lt_of_cell d0
 simp at hbl
 clear hc hb hp d1 d2 d3 h10 hl
 go_wp2
 go_ret
 exact ⟨rfl,by first|exact B.out.alloc B.out.size _|exact B.out⟩
end Go.Proofs.YtcejjdmnlejbaaaGreatDoor
namespace Go.Proofs.YtcejjdmnlejbaaaGreatDoor
section
set_option linter.unusedVariables false
set_option linter.unusedSimpArgs false
open Go Go.RowKit
namespace Att
def pair1:List (List UInt8):=[[100,117,116,105,101,115],[108,101,103,115],[104,101,97,100,115],[100,97,121,115]]
def pair2:List (List UInt8):=[[98,108,111,99,107],[115,112,97,110],[99,114,101,100,105,116]]
def rest:List UInt8:=[114,101,115,116]
def before:List UInt8:=[98,101,102,111,114,101,46]
def isIn (l:List UInt8) (ws:List (List UInt8)):Bool:=ws.any fun x=>l==x
def pairT (l:List UInt8):Int:=if isIn l pair1=true then 1 else if isIn l pair2=true then 2 else 0
end Att
def pairS (s:ByteArray):Int:=Att.pairT s.data.toList
end
section
set_option linter.unusedVariables false
set_option linter.unusedSimpArgs false
open Go.ChangeShapes Go.WideShapes Go.ChangeAt Go.RowKit
end
end Go.Proofs.YtcejjdmnlejbaaaGreatDoor
namespace Go.Proofs.YtcejjdmnlejbaaaGreatDoor
set_option linter.unusedVariables false
set_option linter.unusedSimpArgs false
open Go.ChangeShapes Go.WideShapes Go.ChangeAt Go.RowKit
open Go.Deep (BT)
set_option maxHeartbeats 2000000 in
set_option maxRecDepth 100000 in
theorem size_any (b o:Nat) (a:Nd) (k:Fo):∀ w:World,ExAt w b o a k→ExOk a k→Calls Tryz.prog 26 #[.agg #[.int .i64 a.op,.int .i64 a.num,.string a.name,.slice a.ptr (len k) a.cap]] w (SomeI w):=by
 refine tree_of (P:=fun b o a k=>∀ w:World,ExAt w b o a k→ExOk a k→Calls Tryz.prog 26 #[.agg #[.int .i64 a.op,.int .i64 a.num,.string a.name,.slice a.ptr (len k) a.cap]] w (SomeI w)) ?_ b o a k
 clear b o a k
 intro b o a k ih w hx hok
 have IH:=Lib.hid ih
 have HX:=Lib.hid hx
 have HOK:=Lib.hid hok
 clear ih hx hok
 have hk:len k≤9223372036854775807:=HOK.out.1.2.2.2
 go_enter Tryz.func26,Tryz.ntmps26
 go_wp2_with fail
 go_loopw [3,4] (fun n i wr=>∃ (j:Nat) (r:Fo) (m:Int),i=.int .i64 j∧n=.int .i64 m∧(-9223372036854775808≤m∧m≤9223372036854775807)∧wr.cell? ⟨w.heap.size,3,none⟩=some (.slice a.ptr (len k) a.cap)∧w.heap.size < wr.heap.size ∧
  Hid (j+len r=len k∧FoAt wr r b (o+j * 4)∧FoOk r∧AllT (fun b o a k=>∀ w:World,ExAt w b o a k→ExOk a k→Calls Tryz.prog 26 #[.agg #[.int .i64 a.op,.int .i64 a.num,.string a.name,.slice a.ptr (len k) a.cap]] w (SomeI w)) r∧Below w.heap.size w wr)) (fun _ i _=>len k - (intOf i).toNat)
 case atStart =>
  refine ⟨0,k,1,rfl,rfl,by omega,by simp,by simp,by omega,?_,HOK.out.2,IH.out,(Below.refl _ _).alloc (Nat.le_refl _) _⟩
  rw [Nat.zero_mul,Nat.add_zero]
  exact HX.out.2.next ((Below.refl _ _).alloc (Nat.le_refl _) _)
 case round =>
  obtain ⟨j,r,m,rfl,rfl,hm,hc,hsz,HR⟩:=hrel
  cases r with
  | nil =>
    have hj:¬ (j:Int) < (len k:Int):=by have:=HR.out.1;simp [len] at this;omega
    go_wp2
    go_ret
    exact ⟨m,hm,rfl,HR.out.2.2.2.2⟩
  | node b1 o1 a1 k1 r1 =>
    have hj:j < len k:=by have:=HR.out.1;simp [len] at this;omega
    have hp:a.ptr=some ⟨b,o,none⟩:=HX.out.1 (by rintro rfl;simp [len] at hj)
    rw [hp] at hc
    clear hp
    obtain ⟨⟨c0,c1,c2,c3⟩,hp1,hk1,hr1⟩:=HR.out.2.1
    have X1:Hid (ExAt wr b1 o1 a1 k1):=⟨hp1,hk1⟩
    have N1:=Lib.hid hr1
    clear hp1 hk1 hr1
    have hj1:(j:Int) < (len k:Int):=by omega
    by_cases hm1:m < 1000
    · go_wp2_with fail
      refine (HR.out.2.2.2.1.1 _ X1.out ⟨HR.out.2.2.1.1,HR.out.2.2.1.2.1⟩).mono ?_
      rintro e w1 ⟨m1,hm2,rfl,hb⟩
      have hc':w1.cell? ⟨w.heap.size,3,none⟩=some (.slice a.ptr (len k) a.cap):=by
       rw [hb.cell (p:=⟨w.heap.size,3,none⟩) hsz,hc,HX.out.1 (by rintro rfl;simp [len] at hj)]
      have hz':w.heap.size < w1.heap.size:=Nat.lt_of_lt_of_le hsz hb.size
      have N2:=Lib.hid (N1.out.next hb)
      have B2:=Lib.hid (HR.out.2.2.2.2.trans (hb.mono (Nat.le_of_lt hsz)))
      clear hc c0 c1 c2 c3 hb hsz X1 N1
      go_wp2
      go_roundw
      case rel =>
       refine ⟨j+1,r1,wrap64 (m+m1),by go_num,rfl,wrap_bd _,hc',hz',?_,?_,HR.out.2.2.1.2.2,HR.out.2.2.2.1.2,B2.out⟩
       · have:=HR.out.1;simp [len] at this;omega
       · rw [Nat.add_mul,Nat.one_mul,← Nat.add_assoc];exact N2.out
      case measure=>simp [intOf];omega
    · go_wp2
      go_ret
      exact ⟨m,hm,rfl,HR.out.2.2.2.2⟩
set_option maxHeartbeats 2000000 in
set_option maxRecDepth 100000 in
theorem lightx_any (b o:Nat) (a:Nd) (k:Fo) (w:World) (hx:ExAt w b o a k) (hok:ExOk a k):Calls Tryz.prog 8 #[.agg #[.int .i64 a.op,.int .i64 a.num,.string a.name,.slice a.ptr (len k) a.cap]] w (SomeB w):=by
 have HX:=Lib.hid hx
 have HOK:=Lib.hid hok
 clear hx hok
 have B0:Hid (Below w.heap.size w (w.alloc (.cells #[.int .i64 a.op,.int .i64 a.num,.string a.name,.slice a.ptr (len k) a.cap] 24))):=(Below.refl _ _).alloc (Nat.le_refl _) _
 go_enter Tryz.func8,Tryz.ntmps8
 go_wp2_with fail
 refine (size_any b o a k _ (HX.out.next B0.out) HOK.out).mono ?_
 rintro e w1 ⟨m,hm,rfl,hb⟩
 have B1:=Lib.hid (B0.out.trans (hb.mono B0.out.size))
 clear hb
 go_wp2
 go_ret
 exact ⟨_,rfl,B1.out⟩
end Go.Proofs.YtcejjdmnlejbaaaGreatDoor
namespace Go.Proofs.YtcejjdmnlejbaaaGreatDoor
set_option linter.unusedVariables false
set_option linter.unusedSimpArgs false
set_option maxRecDepth 100000
open Go.ChangeShapes Go.WideShapes Go.RowKit
open Go.Deep (BT)
def ExS (w:World) (cs:List Value):Prop:=∃ (a:Nd) (k:Fo) (b o:Nat),cs=[.int .i64 a.op,.int .i64 a.num,.string a.name,.slice a.ptr (len k) a.cap]∧ExAt w b o a k∧ExOk a k∧len k≤a.cap
theorem i64_of_wf {x:Int} (h:(Lit.int .i64 x).wf=true) : -9223372036854775808≤x∧x≤9223372036854775807:=by
 exact bounds_i64 h
theorem addr_add0 (a:Addr) (n:Nat) (h:a.spot=none):a.add n=⟨a.block,a.off+n,none⟩:=by
 obtain ⟨b,o,s⟩:=a
 dsimp only at h
 subst h
 unfold Addr.add
 by_cases q:n=0
 · subst q;rfl
 · rw [if_neg q]
theorem spot_none {w:World} {a:Addr} {v:Value} (h:w.cell? a=some v):a.spot=none:=by
 unfold World.cell? at h
 split at h
 · cases q:a.spot with
   | none=>rfl
   | some z=>rw [q] at h;simp at h
 · cases h
theorem row_of {w:World} (n:Nat) (B O:Nat) (h:∀ i,i < n→∃ c0 c1 c2 c3,w.cell? ⟨B,O+i * 4,none⟩=some c0∧w.cell? ⟨B,O+i * 4+1,none⟩=some c1∧w.cell? ⟨B,O+i * 4+2,none⟩=some c2∧w.cell? ⟨B,O+i * 4+3,none⟩=some c3∧ExS w [c0,c1,c2,c3]) :
 ∃ T:Fo,len T=n∧FoAt w T B O∧FoOk T:=by
 induction n generalizing O with
 | zero=>exact ⟨.nil,rfl,trivial,trivial⟩
 | succ n ih =>
   obtain ⟨T,h1,h2,h3⟩:=ih (O+4) (fun i hi=>by
    have:=h (i+1) (by omega)
    rw [show O+(i+1) * 4=O+4+i * 4 by omega] at this
    exact this)
   obtain ⟨c0,c1,c2,c3,k0,k1,k2,k3,a,k,b,o,he,hx,hok,-⟩:=h 0 (by omega)
   simp only [Nat.zero_mul,Nat.add_zero] at k0 k1 k2 k3
   simp only [List.cons.injEq,and_true] at he
   obtain ⟨rfl,rfl,rfl,rfl⟩:=he
   exact ⟨.node b o a k T,by simp [len,h1],⟨⟨k0,k1,k2,k3⟩,hx.1,hx.2,h2⟩,hok.1,hok.2,h3⟩
section
variable {H:Type} {enc:TypeId × Value→H} {w:World} {base:Nat} {spare:Nat→Bool} {held:Bool}
theorem Tryz.cellsE:Tryz.prog.cellsOf 24=4:=by kernel_rfl
theorem Tryz.cellsI:Tryz.prog.cellsOf 3=1:=by kernel_rfl
theorem Tryz.cellsS:Tryz.prog.cellsOf 9=1:=by kernel_rfl
theorem Tryz.cellsL:Tryz.prog.cellsOf 22=1:=by kernel_rfl
def SlS (w:World) (cs:List Value):Prop:=∃ (k:Fo) (p:Option Addr) (cap b o:Nat),cs=[.slice p (len k) cap]∧(k≠.nil→p=some ⟨b,o,none⟩)∧FoAt w k b o∧FoOk k∧len k≤maxLen∧len k≤cap
theorem open_sl (fuel:Nat) (ih:∀ m,m < fuel→∀ cs x,DataW.trod enc Tryz.prog w base spare held m 24 cs=some x→ExS w cs) (cs:List Value) (x:DataW H × List MemPlace)
 (h:DataW.trod enc Tryz.prog w base spare held fuel 22 cs=some x):SlS w cs:=by
 rcases DataW.trod_slice Tryz.underlying22 h with ⟨rfl,-⟩|⟨a,n,cap,elems,rest,m,rfl,rfl,-,hb,hl,hm,hlen,hel,-,-⟩
 · exact ⟨.nil,none,0,0,0,rfl,fun q=>absurd rfl q,trivial,trivial,Nat.zero_le _,Nat.zero_le _⟩
 · have key:∀ i,i < n→∃ c0 c1 c2 c3,w.cell? (a.add (i * 4))=some c0∧w.cell? ((a.add (i * 4)).add 1)=some c1∧w.cell? ((a.add (i * 4)).add 2)=some c2∧w.cell? ((a.add (i * 4)).add 3)=some c3∧ExS w [c0,c1,c2,c3]:=by
    intro i hi
    have q:=hel i hi
    rw [List.getElem?_eq_getElem (by omega),Tryz.cellsE] at q
    obtain ⟨cs',hc,ht⟩:=Option.bind_eq_some_iff.1 q
    obtain ⟨-,h4,hcell⟩:=World.cells?_some hc
    match cs',h4 with
    | [c0,c1,c2,c3],_ =>
      refine ⟨c0,c1,c2,c3,?_,hcell 1 (by omega),hcell 2 (by omega),hcell 3 (by omega),ih m (Nat.lt_succ_self m) _ _ ht⟩
      have:=hcell 0 (by omega)
      simpa [Addr.add] using this
   by_cases h0:n=0
   · subst h0
     exact ⟨.nil,some a,cap,0,0,rfl,fun q=>absurd rfl q,trivial,trivial,Nat.zero_le _,Nat.zero_le _⟩
   · have hs:a.spot=none:=by
      obtain ⟨c0,c1,c2,c3,q,-⟩:=key 0 (by omega)
      exact spot_none (by simpa [Addr.add] using q)
     obtain ⟨T,t1,t2,t3⟩:=row_of (w:=w) n a.block a.off (fun i hi=>by
      obtain ⟨c0,c1,c2,c3,q0,q1,q2,q3,q⟩:=key i hi
      rw [Go.Deep.add_add,addr_add0 _ _ hs,← Nat.add_assoc] at q1 q2 q3
      rw [addr_add0 _ _ hs] at q0
      exact ⟨c0,c1,c2,c3,q0,q1,q2,q3,q⟩)
     refine ⟨T,some a,cap,a.block,a.off,by rw [t1],fun _=>?_,t2,t3,by omega,by omega⟩
     obtain ⟨b,o,s⟩:=a
     dsimp only at hs
     subst hs
     rfl
theorem open_ex (fuel:Nat):∀ (cs:List Value) (x:DataW H × List MemPlace),DataW.trod enc Tryz.prog w base spare held fuel 24 cs=some x→ExS w cs:=by
 induction fuel using Nat.strongRecOn with
 | _ fuel ih =>
   intro cs x h
   obtain ⟨xs,n,rfl,-,h4,hx,hf⟩:=DataW.trod_struct Tryz.underlying24 h
   rw [Tryz.cellsE] at h4
   match cs,h4,xs,hx with
   | [c0,c1,c2,c3],_,[y0,y1,y2,y3],_ =>
     have g0:DataW.trod enc Tryz.prog w base spare held n 3 (List.take (Tryz.prog.cellsOf 3) (List.drop 0 [c0,c1,c2,c3]))=some y0:=hf 0 _ rfl
     have g1:DataW.trod enc Tryz.prog w base spare held n 3 (List.take (Tryz.prog.cellsOf 3) (List.drop 1 [c0,c1,c2,c3]))=some y1:=hf 1 _ rfl
     have g2:DataW.trod enc Tryz.prog w base spare held n 9 (List.take (Tryz.prog.cellsOf 9) (List.drop 2 [c0,c1,c2,c3]))=some y2:=hf 2 _ rfl
     have g3:DataW.trod enc Tryz.prog w base spare held n 22 (List.take (Tryz.prog.cellsOf 22) (List.drop 3 [c0,c1,c2,c3]))=some y3:=hf 3 _ rfl
     rw [Tryz.cellsI] at g0 g1
     rw [Tryz.cellsS] at g2
     rw [Tryz.cellsL] at g3
     simp only [List.drop,List.take] at g0 g1 g2 g3
     obtain ⟨op,e0,-,w0⟩:=DataW.trod_int Tryz.underlying3 g0
     obtain ⟨num,e1,-,w1⟩:=DataW.trod_int Tryz.underlying3 g1
     obtain ⟨name,e2,-,w2⟩:=DataW.trod_string Tryz.underlying9 g2
     obtain ⟨k,p,cap,b,o,e3,hp,hat,hok,hl,hlc⟩:=open_sl n (fun m hm=>ih m (by omega)) _ _ g3
     simp only [List.cons.injEq,and_true] at e0 e1 e2 e3
     subst e0 e1 e2 e3
     exact ⟨⟨op,num,name,p,cap⟩,k,b,o,rfl,⟨hp,hat⟩,⟨⟨i64_of_wf w0,i64_of_wf w1,w2,hl⟩,hok⟩,hlc⟩
theorem open_expr {v:Value} {d:DataW H} {p:List MemPlace} {r:Reach} {b0:Nat} (hv:Value.okWide Tryz.prog w r b0 24 v) (h:DataW.Trod enc Tryz.prog w base spare held 24 v d p) :
 ∃ (op num:Int) (name:ByteArray) (ptr:Option Addr) (cap:Nat) (k:Fo) (b o:Nat),v=.agg #[.int .i64 op,.int .i64 num,.string name,.slice ptr (len k) cap]∧ExAt w b o ⟨op,num,name,ptr,cap⟩ k∧ExOk ⟨op,num,name,ptr,cap⟩ k:=by
 obtain ⟨cs,rfl,hsz⟩:=okWide_struct Tryz.underlying24 hv
 obtain ⟨fuel,hf⟩:=h
 obtain ⟨⟨op,num,name,ptr,cap⟩,k,b,o,he,hx,hok,-⟩:=open_ex fuel _ _ hf
 refine ⟨op,num,name,ptr,cap,k,b,o,?_,hx,hok⟩
 obtain ⟨l⟩:=cs
 have he':l=[.int .i64 op,.int .i64 num,.string name,.slice ptr (len k) cap]:=he
 rw [he']
end
end Go.Proofs.YtcejjdmnlejbaaaGreatDoor
