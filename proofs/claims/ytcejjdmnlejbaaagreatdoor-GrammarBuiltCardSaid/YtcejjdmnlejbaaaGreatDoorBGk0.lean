import Derived.Test.YtcejjdmnlejbaaaGreatDoorBTxtMath
import Derived.Test.YtcejjdmnlejbaaaGreatDoorBGh
import Derived.OwnWalk
import Derived.Test.YtcejjdmnlejbaaaGreatDoorBGa
import Derived.Test.YtcejjdmnlejbaaaGreatDoorBGb
import Derived.Deep.AppendLies
import Derived.Deep.RegionLaw
import Derived.Deep.LoopGhost
import Derived.Test.YtcejjdmnlejbaaaGreatDoorBGe
import Derived.Laws.BitsLemmas
namespace Go.Proofs.YtcejjdmnlejbaaaGreatDoor
section
set_option linter.unusedVariables false
set_option linter.unusedSimpArgs false
open Go.ChangeShapes Go.WideShapes Go.ChangeAt Go.RowKit
open Go.Deep (BT)
def twoN:ByteArray:=⟨#[116,119,111]⟩
def shiftN:ByteArray:=⟨#[115,104,105,102,116,95,116,105,109,101]⟩
def LookOk (look:Look):Prop:=look twoN=(1,0)∧look shiftN=(2,0)
def szB:Nat→Nat
 | 0=>0
 | n+1=>1+3 * szB n
structure Plain (sc kind:Int) (lv:Nat) (a:Nd) (k:Fo):Prop where
 ok:ExOk a k
 wf:(wfB a (len k) && wfT k)=true
 sz:sz k+1≤szB lv
 dp:dp k+1≤lv
 ty:∀ look,LookOk look→tyT look sc a k=(kind,0)
theorem szB_le {m n:Nat} (h:m≤n):szB m≤szB n:=by
 induction n with
 | zero => obtain rfl:m=0:=by omega
           exact Nat.le_refl _
 | succ n ih =>
   by_cases e:m=n+1
   · subst e;exact Nat.le_refl _
   · have:=ih (by omega)
     simp only [szB];omega
theorem Plain.mono {sc kind:Int} {lv lv':Nat} {a:Nd} {k:Fo} (h:Plain sc kind lv a k) (hl:lv≤lv'):Plain sc kind lv' a k:=⟨h.ok,h.wf,Nat.le_trans h.sz (szB_le hl),Nat.le_trans h.dp hl,h.ty⟩
theorem Plain.val {sc kind:Int} {lv:Nat} {a:Nd} {k:Fo} (h:Plain sc kind lv a k) (hl:lv≤5):valE a k=0:=by
 have h1:=h.sz
 have h2:=h.dp
 have h3:szB lv≤121:=szB_le (n:=5) hl
 have hf:fitB 0 1 k=true:=by unfold fitB;rw [decide_eq_true_eq];omega
 unfold valE
 rw [if_pos hf,if_pos h.wf]
def PlainL (sc:Int) (lv:Nat):List Ch→List Int→Prop
 | [],[]=>True
 | c :: cs,kd :: kds=>Plain sc kd lv c.a c.k∧PlainL sc lv cs kds
 | _,_=>False
theorem rowF_plain (sc:Int) (lv:Nat) (l:List Ch) (kds:List Int) (h:PlainL sc lv l kds) :
 FoOk (rowF l)∧wfT (rowF l)=true∧sz (rowF l)≤l.length * szB lv∧dp (rowF l)≤lv∧∀ look,LookOk look→tyF look sc (rowF l)=(0,kds):=by
 induction l generalizing kds with
 | nil =>
   cases kds with
   | nil=>exact ⟨trivial,rfl,Nat.zero_le _,Nat.zero_le _,fun _ _=>rfl⟩
   | cons=>exact h.elim
 | cons c l ih =>
   cases kds with
   | nil=>exact h.elim
   | cons kd kds =>
     obtain ⟨hc,hr⟩:=h
     obtain ⟨h1,h2,h3,h4,h5⟩:=ih kds hr
     refine ⟨⟨hc.ok.1,hc.ok.2,h1⟩,?_,?_,?_,?_⟩
     · show ((wfB c.a (len c.k) && wfT c.k) && wfT (rowF l))=true
       rw [hc.wf,h2];rfl
     · have:=hc.sz
       show 1+sz c.k+sz (rowF l)≤(l.length+1) * szB lv
       rw [Nat.add_mul];omega
     · have:=hc.dp
       show max (1+dp c.k) (dp (rowF l))≤lv
       omega
     · intro look hl
       show tyF look sc (.node c.b c.o c.a c.k (rowF l))=_
       rw [tyF_node,hc.ty look hl,h5 look hl]
       rfl
theorem plain_node (sc:Int) (lv:Nat) (l:List Ch) (kds:List Int) (op kind:Int) (h:PlainL sc lv l kds) (h3:l.length≤3) (hop:7≤op∧op≤22) (hw:argB op l.length=true) (hr:resT op kds=kind) (h0:kind≠0) (p:Option Addr) (cap:Nat) :
 Plain sc kind (lv+1) ⟨op,0,⟨#[]⟩,p,cap⟩ (rowF l):=by
 obtain ⟨h1,h2,h3',h4,h5⟩:=rowF_plain sc lv l kds h
 have h6:¬ op=6:=by omega
 refine ⟨⟨⟨by dsimp only;omega,by dsimp only;omega,Nat.zero_le _,by rw [rowF_len];omega⟩,h1⟩,?_,?_,by omega,?_⟩
 · rw [h2,Bool.and_true,rowF_len]
   unfold wfB
   dsimp only
   have q1:numB op 0=true:=by unfold numB;rw [if_neg (by omega),if_neg (by omega)];rfl
   have q2:namB op ⟨#[]⟩=true:=by unfold namB;rw [if_neg h6];rfl
   rw [hw,q1,q2]
   simp;omega
 · have:l.length * szB lv≤3 * szB lv:=Nat.mul_le_mul_right _ h3
   simp only [szB];omega
 · intro look hl
   unfold tyT
   dsimp only
   rw [if_neg h6,h5 look hl]
   dsimp only
   rw [if_pos rfl,hr,if_neg h0]
def IntsL (w:World) (v:Value) (n s:Nat):Prop:=∃ (p:Option Addr) (cap:Nat),v=.slice p n cap∧n≤9223372036854775807∧∀ i,i < n→∃ (B O:Nat) (x:Int),p=some ⟨B,O,none⟩∧B < s∧w.cell? ⟨B,O+i,none⟩=some (.int .i64 x)
structure Src (w:World) (sb:Nat) (v:Value) (n t:Nat):Prop where
 c0:w.cell? ⟨sb,0,none⟩=some v
 c1:w.cell? ⟨sb,1,none⟩=some (.int .i64 t)
 f1:w.frozen? ⟨sb,1,none⟩=false
 lt:sb < w.heap.size
 ls:IntsL w v n sb
theorem IntsL.below {w w':World} {v:Value} {n s B0:Nat} (h:IntsL w v n s) (hb:Below B0 w w') (hs:s≤B0):IntsL w' v n s:=by
 obtain ⟨p,cap,h1,h2,h3⟩:=h
 refine ⟨p,cap,h1,h2,fun i hi=>?_⟩
 obtain ⟨B,O,x,q1,q2,q3⟩:=h3 i hi
 exact ⟨B,O,x,q1,q2,by rw [hb.cell (p:=⟨B,O+i,none⟩) (Nat.lt_of_lt_of_le q2 hs)];exact q3⟩
theorem Src.below {w w':World} {sb:Nat} {v:Value} {n t B0:Nat} (h:Src w sb v n t) (hb:Below B0 w w') (hs:sb < B0):Src w' sb v n t where
 c0:=by rw [hb.cell (p:=⟨sb,0,none⟩) hs];exact h.c0
 c1:=by rw [hb.cell (p:=⟨sb,1,none⟩) hs];exact h.c1
 f1:=by rw [hb.frozen (p:=⟨sb,1,none⟩) hs];exact h.f1
 lt:=Nat.lt_of_lt_of_le h.lt hb.size
 ls:=h.ls.below hb (Nat.le_of_lt hs)
theorem Src.next {w w':World} {sb:Nat} {v:Value} {n t:Nat} (h:Src w sb v n t) (hb:Below w.heap.size w w'):Src w' sb v n t:=h.below hb h.lt
theorem below_store {w:World} {p:Addr} {u:Value} {B0:Nat} (h:B0≤p.block):Below B0 w (w.setCell p u):=(Below.refl _ _).setCell h _
theorem Src.step {w:World} {sb:Nat} {v:Value} {n t:Nat} (h:Src w sb v n t):Src (w.setCell ⟨sb,1,none⟩ (.int .i64 ((t:Int)+1))) sb v n (t+1)∧w.grownBy (w.setCell ⟨sb,1,none⟩ (.int .i64 ((t:Int)+1))) (some sb):=by
 have h0:=h.c0
 have h1:=h.c1
 have hf:=h.f1
 refine ⟨⟨by simp [go_sem,h0,h1],by simp [go_sem,h1],by simp [go_sem,hf],by simp [World.setCell];exact h.lt,h.ls.below (below_store (Nat.le_refl _)) (Nat.le_refl _)⟩,?_⟩
 exact ⟨rfl,rfl,rfl,by simp [World.setCell],fun k hk hr=>Below.heap_setCell _ _ _ _ (fun e=>hr (by rw [e]))⟩
structure RB (w:World) (r:Nat):Prop where
 c0:∃ u,w.cell? ⟨r,0,none⟩=some u
 c1:∃ u,w.cell? ⟨r,1,none⟩=some u
 c2:∃ u,w.cell? ⟨r,2,none⟩=some u
 c3:∃ u,w.cell? ⟨r,3,none⟩=some u
 f0:w.frozen? ⟨r,0,none⟩=false
 f1:w.frozen? ⟨r,1,none⟩=false
 f2:w.frozen? ⟨r,2,none⟩=false
 f3:w.frozen? ⟨r,3,none⟩=false
 lt:r < w.heap.size
theorem RB.grown {w w':World} {r:Nat} {row:Option Nat} (h:RB w r) (hg:w.grownBy w' row) (hne:some r≠row):RB w' r where
 c0:=by obtain ⟨u,q⟩:=h.c0;exact ⟨u,by rw [World.cell?_of_block (hg.block r h.lt hne)];exact q⟩
 c1:=by obtain ⟨u,q⟩:=h.c1;exact ⟨u,by rw [World.cell?_of_block (hg.block r h.lt hne)];exact q⟩
 c2:=by obtain ⟨u,q⟩:=h.c2;exact ⟨u,by rw [World.cell?_of_block (hg.block r h.lt hne)];exact q⟩
 c3:=by obtain ⟨u,q⟩:=h.c3;exact ⟨u,by rw [World.cell?_of_block (hg.block r h.lt hne)];exact q⟩
 f0:=by rw [World.frozen?_of_block (hg.block r h.lt hne)];exact h.f0
 f1:=by rw [World.frozen?_of_block (hg.block r h.lt hne)];exact h.f1
 f2:=by rw [World.frozen?_of_block (hg.block r h.lt hne)];exact h.f2
 f3:=by rw [World.frozen?_of_block (hg.block r h.lt hne)];exact h.f3
 lt:=Nat.lt_of_lt_of_le h.lt hg.size
theorem RB.next {w w':World} {r:Nat} (h:RB w r) (hb:Below w.heap.size w w'):RB w' r:=h.grown (grw_of_below none hb) (by simp)
def BP (w:World) (sb:Nat) (v:Value) (n t m:Nat) (w':World):Prop:=(∃ t',t≤t'∧t'≤t+m∧Src w' sb v n t')∧w.grownBy w' (some sb)
theorem BP.mono {w w':World} {sb:Nat} {v:Value} {n t m m':Nat} (h:BP w sb v n t m w') (hm:m≤m'):BP w sb v n t m' w':=by
 obtain ⟨⟨t',h1,h2,h3⟩,h4⟩:=h
 exact ⟨⟨t',h1,by omega,h3⟩,h4⟩
theorem plain_lit (sc:Int) (op num:Int) (kind:Int) (h:wfB ⟨op,num,⟨#[]⟩,none,0⟩ 0=true) (hb : -9223372036854775808≤num∧num≤9223372036854775807) (hop:1≤op∧op≤5) (hr:resT op []=kind) (h0:kind≠0):Plain sc kind 1 ⟨op,num,⟨#[]⟩,none,0⟩ .nil:=by
 refine ⟨⟨⟨by dsimp only;omega,hb,Nat.zero_le _,Nat.zero_le _⟩,trivial⟩,by rw [show ((len .nil:Nat):Int)=0 from rfl,h];rfl,Nat.le_refl _,Nat.le_refl _,fun look _=>?_⟩
 unfold tyT
 dsimp only
 rw [if_neg (by omega)]
 show (if (0:Int)=0 then (if resT op []=0 then ((0:Int),(9:Int)) else (resT op [],0)) else (0,0))=_
 rw [if_pos rfl,hr,if_neg h0]
theorem list_wf (sc:Int) (hs:sc=0∨sc=1∨sc=2∨sc=3):∀ l ∈ Att.listL sc,attrS ⟨l.toArray⟩=true∧l.length≤20:=by
 rcases hs with rfl|rfl|rfl|rfl<;>decide +kernel
theorem plain_attr (sc kind:Int) (hs:sc=0∨sc=1∨sc=2∨sc=3) (l:List UInt8) (hl:l ∈ Att.listL sc) (ht:Att.atT sc l=kind) (h0:kind≠0):Plain sc kind 1 ⟨6,0,⟨l.toArray⟩,none,0⟩ .nil:=by
 obtain ⟨h1,h2⟩:=list_wf sc hs l hl
 have hA:atS sc ⟨l.toArray⟩=kind:=by unfold atS;simpa using ht
 have hE:atE sc ⟨l.toArray⟩=0:=by unfold atE;rw [if_neg (by rw [hA];exact h0)]
 have hsz:(⟨l.toArray⟩:ByteArray).size≤9223372036854775807:=by show l.toArray.size≤_;simp;omega
 refine ⟨⟨⟨by dsimp only;omega,by dsimp only;omega,hsz,Nat.zero_le _⟩,trivial⟩,?_,Nat.le_refl _,Nat.le_refl _,fun look _=>?_⟩
 · show (wfB ⟨6,0,⟨l.toArray⟩,none,0⟩ 0 && true)=true
   unfold wfB namB
   dsimp only
   rw [if_pos rfl,h1]
   rfl
 · unfold tyT
   dsimp only
   rw [if_pos rfl]
   unfold nameT
   rw [if_pos hE,hA]
theorem plain_const (sc kind:Int) (hs:sc=0∨sc=1∨sc=2∨sc=3) (s:ByteArray) (h:(s=twoN∧kind=1)∨(s=shiftN∧kind=2)):Plain sc kind 1 ⟨6,0,s,none,0⟩ .nil:=by
 have hw:attrS s=true∧s.size≤20∧atE sc s≠0:=by
  rcases h with ⟨rfl,-⟩|⟨rfl,-⟩<;>rcases hs with rfl|rfl|rfl|rfl<;>decide +kernel
 obtain ⟨h1,h2,h3⟩:=hw
 refine ⟨⟨⟨by dsimp only;omega,by dsimp only;omega,by dsimp only;omega,Nat.zero_le _⟩,trivial⟩,?_,Nat.le_refl _,Nat.le_refl _,fun look hl=>?_⟩
 · show (wfB ⟨6,0,s,none,0⟩ 0 && true)=true
   unfold wfB namB
   dsimp only
   rw [if_pos rfl,h1]
   rfl
 · unfold tyT
   dsimp only
   rw [if_pos rfl]
   unfold nameT
   rw [if_neg h3]
   rcases h with ⟨rfl,rfl⟩|⟨rfl,rfl⟩
   · exact hl.1
   · exact hl.2
end
section
set_option linter.unusedVariables false
set_option linter.unusedSimpArgs false
open Go.ChangeShapes Go.WideShapes Go.ChangeAt Go.RowKit
open Go.Deep (BT)
theorem and_ffff (n:Int):bits .and .i64 n 65535=n % 65536:=by
 have h127:(BitVec.ofInt 64 65535).toNat=2 ^ 16 - 1:=by decide
 have key:(BitVec.ofInt 64 n &&& BitVec.ofInt 64 65535).toNat=(n % ((2 ^ 64:Nat):Int)).toNat % 2 ^ 16:=by
  rw [BitVec.toNat_and,BitVec.toNat_ofInt,h127,Nat.and_two_pow_sub_one_eq_mod]
 show IntKind.i64.wrap ((BitVec.ofInt 64 n &&& BitVec.ofInt 64 65535).toNat:Nat)=n % 65536
 rw [key,IntKind.wrap_i64]
 omega
set_option maxHeartbeats 2000000 in
set_option maxRecDepth 100000 in
theorem at_any (v:Value) (n s t:Nat) (T:Int) (w:World) (h:IntsL w v n s) (ht:t≤1099511627776) (hT:T=t) :
 Calls Tryz.prog 41 #[v,.int .i64 T] w fun e w'=>(∃ m:Nat,e=.returned (.int .i64 m))∧Below w.heap.size w w':=by
 obtain ⟨p,cap,rfl,hn,hl⟩:=h
 go_enter Tryz.func41,Tryz.ntmps41
 by_cases h0:n=0
 · subst h0
   obtain ⟨y,hy⟩:∃ y:Nat,bits BinOp.and IntKind.i64 T 65535=(y:Int):=⟨t % 65536,by rw [and_ffff];omega⟩
   clear hT
   go_wp2
   go_ret
   exact ⟨⟨y,rfl⟩,Below.refl _ _⟩
 · obtain ⟨B,O,x,rfl,hB,hc⟩:=hl (t % n) (Nat.mod_lt _ (by omega))
   have q1:T.tmod (n:Int)=((t % n:Nat):Int):=by rw [hT,Int.tmod_eq_emod_of_nonneg (by omega)];rfl
   have q2:T.tdiv (n:Int)=((t / n:Nat):Int):=by rw [hT,Int.tdiv_eq_ediv_of_nonneg (by omega)];rfl
   obtain ⟨y,hy⟩:∃ y:Nat,bits BinOp.and IntKind.i64 x 65535=(y:Int)∧y≤65535:=⟨(x % 65536).toNat,by rw [and_ffff];omega,by omega⟩
   obtain ⟨hy,hy1⟩:=hy
   have hz:t / n≤t:=Nat.div_le_self _ _
   have hi:t % n < n:=Nat.mod_lt _ (by omega)
   generalize t % n=i at *
   generalize t / n=z at *
   have hi1:(i:Int) < (n:Int):=by omega
   have hi0:(0:Int)≤(i:Int):=by omega
   have n0:¬ (n:Int)=0:=by omega
   have b0:((n:Int)==0)=false:=by simp [h0]
   clear hl hT
   go_upto_region 3 with (fail)
   go_region
   go_wp2
   go_ret
   exact ⟨⟨y+z,by go_num⟩,(Below.refl _ _).drew⟩
set_option maxHeartbeats 2000000 in
set_option maxRecDepth 100000 in
theorem next_any (sb:Nat) (v:Value) (n t k:Nat) (w:World) (h:Src w sb v n t) (ht:t < 1099511627776) (hk:0 < k) (hk2:k≤1000) :
 Calls Tryz.prog 83 #[.pointer (some ⟨sb,0,none⟩),.int .i64 k] w fun e w'=>(∃ r:Nat,r < k∧e=.returned (.int .i64 r))∧Src w' sb v n (t+1)∧w.grownBy w' (some sb):=by
 have H:=Lib.hid h
 have S:=Lib.hid h.step
 have y1:=h.c1
 have y2:=h.f1
 clear h
 have hT:(t:Int)+1=((t+1:Nat):Int):=by omega
 have HT:=Lib.hid hT
 have h0:0≤(t:Int)∧(t:Int)≤1099511627776:=by omega
 generalize (t:Int)=T at *
 obtain ⟨T1,hT1⟩:∃ T1,T1=T+1:=⟨_,rfl⟩
 have hw:IntKind.i64.wrap (T+1)=T1:=by rw [hT1];exact IntWalk.i64_in _ (by omega)
 rw [← hT1] at S HT
 clear hT hT1 h0
 go_enter Tryz.func83,Tryz.ntmps83
 go_upto_region 2 with (fail)
 clear hw y1 y2
 generalize w.setCell ⟨sb,1,none⟩ (.int .i64 T1)=w1 at *
 have z0:=S.out.1.c0
 have z1:=S.out.1.c1
 rw [← HT.out] at z1
 have k0:¬ (k:Int)=0:=by omega
 have b0:((k:Int)==0)=false:=by simp;omega
 have SD:=Lib.hid (S.out.1.next (Below.refl _ _).drew)
 go_region_with (go_at_call 41;refine (at_any v n sb (t+1) T1 _ SD.out.ls (by omega) HT.out).mono ?_;rintro e w2 ⟨⟨m,rfl⟩,hb⟩;have B2:=Lib.hid hb;clear hb)
 all_goals (
  go_wp2
  go_ret
  refine ⟨⟨m % k,Nat.mod_lt _ hk,?_⟩,SD.out.next B2.out,?_⟩
  · have q:(m:Int).tmod (k:Int)=((m % k:Nat):Int):=by rw [Int.tmod_eq_emod_of_nonneg (by omega)];rfl
    exact ret_int q
  · exact S.out.2.trans (grw_below (grw_of_below _ (Below.refl _ _).drew) B2.out))
theorem bnode_any (op:Int) (p:Option Addr) (m c:Nat) (w:World):Calls Tryz.prog 85 #[.int .i64 op,.slice p m c] w fun e w'=>e=.returned (.agg #[.int .i64 op,.int .i64 0,.string ⟨#[]⟩,.slice p m c])∧Below w.heap.size w w':=by
 go_enter Tryz.func85,Tryz.ntmps85
 go_wp2
 refine bodyPost_ret (v:=.agg #[.int .i64 op,.int .i64 0,.string ⟨#[]⟩,.slice p m c]) ?_ rfl ⟨rfl,(Below.refl _ _).alloc (Nat.le_refl _) _⟩
 rw [results_cell1 rfl]
 go_simp
end
end Go.Proofs.YtcejjdmnlejbaaaGreatDoor
