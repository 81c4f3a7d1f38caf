import Derived.Test.YtcejjdmnlejbaaaGreatDoorWHd
import Derived.WalkKit
import Derived.Lib.Bytealg
import Derived.Lib.Strings
import Derived.Lib.Hide
import Derived.Below
import Derived.Deep.Trees
import Derived.ProofKit
import Derived.OpenShut
import Derived.WalkSpells
import Derived.WalkLawsBesides
import Derived.Outline
import Derived.LoopTactic
import Derived.Deep.QuietTactic
import Derived.BigQuiet
import Derived.Lib.QuietBelow
import Derived.Deep.DeepCutAuto
import Derived.Deep.CutBlock
import Derived.Deep.Light
import Derived.Deep.RegionHeld3
import Derived.Deep.RegionWith
import Derived.Deep.DeepMust
import Derived.Deep.DeepFit
import Derived.Lib.ItoaNum
import Derived.Lib.Repeat
import Derived.WalkSmall
import Derived.PlainAid
import Derived.StillTailTactics
import Derived.Test.YtcejjdmnlejbaaaGreatDoorRows
import Derived.Test.YtcejjdmnlejbaaaGreatDoorWShelf
namespace Go.Proofs.YtcejjdmnlejbaaaGreatDoor
open Lib(hid)
set_option linter.unusedVariables false
set_option linter.unusedSimpArgs false
open Go.ChangeShapes Go.WideShapes Go.ChangeAt Go.RowKit
open Go.Deep (BT)
set_option maxHeartbeats 2000000
set_option maxRecDepth 100000
section
open Go Go.RowKit
namespace Nam
def lowB(c:UInt8):Bool:=decide (97≤c.toNat∧c.toNat≤122)
def digB(c:UInt8):Bool:=decide (48≤c.toNat∧c.toNat≤57)
def wordB(c:UInt8):Bool:=decide ((97≤c.toNat∧c.toNat≤122)∨(48≤c.toNat∧c.toNat≤57)∨c.toNat=95)
def isName(l:List UInt8):Bool:=decide (1≤l.length∧l.length≤16∧lowB (l.getD 0 0)=true∧l.all wordB=true)
def words:List (List UInt8):=[[97,110,100],[111,114],[110,111,116],[105,109,112,108,105,101,115],[105,110],[116,111],[116,114,117,101],[102,97,108,115,101],[109,105,110],[109,97,120],[105,102],[116,104,101,110],[101,108,115,101]]
def reserved(l:List UInt8):Bool:=words.any fun x=>l==x
def declName(l:List UInt8):Bool:=isName l && !reserved l
def attr(l:List UInt8):Bool :=
 if Lib.indexByte l 46 = -1 then declName l else isName (l.take (Lib.indexByte l 46).toNat) && isName (l.drop ((Lib.indexByte l 46).toNat+1))
def good(l:List UInt8)(k:Nat):Bool:=(l.take k).all wordB && (decide (k=0) || lowB (l.getD 0 0))
theorem good_zero(l:List UInt8):good l 0=true:=by simp[good]
theorem good_step(l:List UInt8)(k:Nat)(h:k < l.length):good l (k+1)=(good l k && (lowB (l.getD k 0) || (decide (0 < k) && wordB (l.getD k 0)))):=by
 unfold good;have hd:l.getD k 0=l[k]:=by rw[List.getD_eq_getElem?_getD,List.getElem?_eq_getElem h];rfl
 rw[List.take_succ_eq_append_getElem h,List.all_append,hd];cases k with
 | zero =>
   have h0:l.getD 0 0=l[0]:=hd;rw[h0];generalize l[0]=c
   have:(wordB c && lowB c)=lowB c:=by
    rw[Bool.eq_iff_iff,Bool.and_eq_true];simp only[lowB,wordB,decide_eq_true_eq];omega
   simp[this]
 | succ k =>
   simp only[Nat.succ_ne_zero,decide_false,Bool.false_or,List.all_cons,List.all_nil,Bool.and_true,Nat.zero_lt_succ,decide_true,Bool.true_and];generalize lowB (l.getD 0 0)=y;generalize (l.take (k+1)).all wordB=z;generalize l[k+1]=c
   have:(lowB c || wordB c)=wordB c:=by
    rw[Bool.eq_iff_iff,Bool.or_eq_true];simp only[lowB,wordB,decide_eq_true_eq];omega
   rw[this];cases z<;>cases y<;>simp
theorem good_all(l:List UInt8)(h1:1≤l.length)(h2:l.length≤16):good l l.length=isName l:=by
 unfold good isName;rw[List.take_length,Bool.eq_iff_iff];have:l.length≠0:=by omega
 simp[this,h1,h2,and_comm]
theorem good_stop(l:List UInt8)(k:Nat)(h1:k < l.length)(h:good l (k+1)=false):isName l=false:=by
 rw[Bool.eq_false_iff];intro q;unfold isName at q;rw[decide_eq_true_eq] at q;obtain⟨-,-,q3,q4⟩:=q;unfold good at h;rw[q3] at h
 have:(l.take (k+1)).all wordB=true:=by
  rw[List.all_eq_true] at q4 ⊢;exact fun x hx=>q4 x (List.mem_of_mem_take hx)
 rw[this] at h;simp at h
theorem ix_ge(l:List UInt8)(c:UInt8) : -1≤Lib.indexByte l c:=by
 induction l with
 | nil=>simp[Lib.indexByte]
 | cons d l ih =>
   rw[Lib.indexByte]
   split
   ·omega
   ·split<;>omega
theorem ix_none(l:List UInt8)(c:UInt8):Lib.indexByte l c = -1↔∀x∈ l,x≠c:=by
 induction l with
 | nil=>simp[Lib.indexByte]
 | cons b l ih =>
   rw[Lib.indexByte]
   by_cases h:b=c
   ·subst h;simp
   ·have h':(b==c)=false:=by simp[h]
    rw[h'];simp only[Bool.false_eq_true,if_false];have hge:=ix_ge l c
    split
    ·rename_i q;simp at q;simp[h];exact ih.1 q
    ·rename_i q
     simp at q;constructor
     ·intro e;omega
     ·intro e;exact absurd (ih.2 fun x hx=>e x (by simp[hx])) q
theorem ix_some(l:List UInt8)(c:UInt8)(k:Nat):Lib.indexByte l c=k↔(∃r,l=l.take k++c :: r)∧k < l.length∧∀x∈ l.take k,x≠c:=by
 induction l generalizing k with
 | nil=>simp[Lib.indexByte]
 | cons b l ih =>
   rw[Lib.indexByte]
   by_cases h:b=c
   ·subst h;simp only[beq_self_eq_true,if_true];constructor
    ·intro e;have:k=0:=(by omega);subst this;simp
    ·rintro⟨-,-,h3⟩;cases k with
     | zero=>rfl
     | succ k=>exact absurd rfl (h3 b (by simp))
   ·have h':(b==c)=false:=by simp[h]
    rw[h'];simp only[Bool.false_eq_true,if_false];cases k with
    | zero =>
      constructor
      ·intro e
       split at e
       ·omega
       ·rename_i q;simp at q
        have hge:=ix_ge l c;have:Lib.indexByte l c≠ -1:=q;omega
      ·rintro⟨⟨r,hr⟩,-,-⟩;simp at hr;exact absurd hr.1 h
    | succ k =>
      have:=ih k;constructor
      ·intro e;have e':Lib.indexByte l c=k:=(by split at e<;>omega);obtain⟨⟨r,hr⟩,h2,h3⟩:=this.1 e';refine⟨⟨r,?_⟩,by simp;omega,?_⟩
       ·rw[List.take_succ_cons,List.cons_append,← hr]
       ·intro x hx;rw[List.take_succ_cons] at hx;rcases List.mem_cons.1 hx with rfl|hx
        ·exact h
        ·exact h3 x hx
      ·rintro⟨⟨r,hr⟩,h2,h3⟩;have e':Lib.indexByte l c=k:=this.2 ⟨⟨r,by rw[List.take_succ_cons,List.cons_append] at hr;exact(List.cons.inj hr).2⟩,by simp at h2;omega,fun x hx=>h3 x (by rw[List.take_succ_cons];exact List.mem_cons_of_mem _ hx)⟩;rw[e'];simp
theorem ix_cases(l:List UInt8)(c:UInt8):Lib.indexByte l c = -1∨∃k:Nat,Lib.indexByte l c=k∧k < l.length:=by
 have hge:=ix_ge l c
 by_cases h:Lib.indexByte l c = -1
 ·exact .inl h
 ·obtain ⟨k,hk⟩:=Int.eq_ofNat_of_zero_le (show 0≤Lib.indexByte l c by omega);exact .inr ⟨k,hk,((ix_some l c k).1 hk).2.1⟩
end Nam
def yU(s:ByteArray):Bool:=Nam.isName s.data.toList
def xw(s:ByteArray):Bool:=Nam.reserved s.data.toList
def yh(s:ByteArray):Bool:=Nam.declName s.data.toList
def zv(s:ByteArray):Bool:=Nam.attr s.data.toList
end
section
open Go.RowKit
structure Nd where
 op:Int
 num:Int
 name:ByteArray
 ptr:Option Addr
 cap:Nat
abbrev Fo:=BT Nd
def len:Fo→Nat
 | .nil=>0
 | .node _ _ _ _ r=>len r+1
def FoAt(w:World):Fo→Nat→Nat→Prop
 | .nil,_,_=>True
 | .node b o a k r,B,O=>(w.cell? ⟨B,O,none⟩=some (.int .i64 a.op)∧w.cell? ⟨B,O+1,none⟩=some (.int .i64 a.num)∧w.cell? ⟨B,O+2,none⟩=some (.string a.name)∧w.cell? ⟨B,O+3,none⟩=some (.slice a.ptr (len k) a.cap))∧
  (k≠.nil→a.ptr=some ⟨b,o,none⟩)∧FoAt w k b o∧FoAt w r B (O+4)
def Vc(a:Nd)(n:Nat):Prop:=(-9223372036854775808≤a.op∧a.op≤9223372036854775807)∧(-9223372036854775808≤a.num∧a.num≤9223372036854775807)∧a.name.size≤9223372036854775807∧n≤9223372036854775807
def je:Fo→Prop
 | .nil=>True
 | .node _ _ a k r=>Vc a (len k)∧je k∧je r
def ExAt(w:World)(b o:Nat)(a:Nd)(k:Fo):Prop:=(k≠.nil→a.ptr=some ⟨b,o,none⟩)∧FoAt w k b o
def yN(a:Nd)(k:Fo):Prop:=Vc a (len k)∧je k
theorem FoAt.next{w w':World}{T:Fo}{B O:Nat}(h:FoAt w T B O)(hb:Below w.heap.size w w'):FoAt w' T B O:=by
 induction T generalizing B O with
 | nil=>trivial
 | node b o a k r ihk ihr =>
   obtain⟨⟨h0,h1,h2,h3⟩,hp,hk,hr⟩:=h;refine⟨⟨?_,?_,?_,?_⟩,hp,ihk hk,ihr hr⟩
   ·rw[hb.cell (block_lt_of_cell h0)];exact h0
   ·rw[hb.cell (block_lt_of_cell h1)];exact h1
   ·rw[hb.cell (block_lt_of_cell h2)];exact h2
   ·rw[hb.cell (block_lt_of_cell h3)];exact h3
theorem ExAt.next{w w':World}{b o:Nat}{a:Nd}{k:Fo}(h:ExAt w b o a k)(hb:Below w.heap.size w w'):ExAt w' b o a k:=⟨h.1,h.2.next hb⟩
def FoLt(B0:Nat):Fo→Nat→Prop
 | .nil,_=>True
 | .node b _ _ k r,B=>B < B0∧FoLt B0 k b∧FoLt B0 r B
theorem FoAt.lt{w:World}{T:Fo}{B O:Nat}(h:FoAt w T B O):FoLt w.heap.size T B:=by
 induction T generalizing B O with
 | nil=>trivial
 | node b o a k r ihk ihr =>
   obtain⟨⟨h0,h1,h2,h3⟩,hp,hk,hr⟩:=h;exact⟨block_lt_of_cell h0,ihk hk,ihr hr⟩
theorem FoLt.mono{B0 B1:Nat}{T:Fo}{B:Nat}(h:FoLt B0 T B)(hb:B0≤B1):FoLt B1 T B:=by
 induction T generalizing B with
 | nil=>trivial
 | node b o a k r ihk ihr=>exact⟨Nat.lt_of_lt_of_le h.1 hb,ihk h.2.1,ihr h.2.2⟩
theorem FoAt.below{w w':World}{T:Fo}{B O B0:Nat}(h:FoAt w T B O)(hl:FoLt B0 T B)(hb:Below B0 w w'):FoAt w' T B O:=by
 induction T generalizing B O with
 | nil=>trivial
 | node b o a k r ihk ihr =>
   obtain⟨⟨h0,h1,h2,h3⟩,hp,hk,hr⟩:=h;obtain⟨l0,lk,lr⟩:=hl;refine⟨⟨?_,?_,?_,?_⟩,hp,ihk hk lk,ihr hr lr⟩
   ·rw[hb.cell (p:=⟨B,O,none⟩) l0];exact h0
   ·rw[hb.cell (p:=⟨B,O+1,none⟩) l0];exact h1
   ·rw[hb.cell (p:=⟨B,O+2,none⟩) l0];exact h2
   ·rw[hb.cell (p:=⟨B,O+3,none⟩) l0];exact h3
def xo(P:Nat→Nat→Nd→Fo→Prop):Fo→Prop
 | .nil=>True
 | .node b o a k r=>P b o a k∧xo P r
theorem Us{P:Nat→Nat→Nd→Fo→Prop}(h:∀b o a k,xo P k→P b o a k):∀T:Fo,xo P T:=by
 intro T
 induction T with
 | nil=>trivial
 | node b o a k r ihk ihr=>exact⟨h b o a k ihk,ihr⟩
theorem jf{P:Nat→Nat→Nd→Fo→Prop}(h:∀b o a k,xo P k→P b o a k)(b o:Nat)(a:Nd)(k:Fo):P b o a k:=h b o a k (Us h k)
theorem FoLt.tail{B0:Nat}{T:Fo}{b o:Nat}{a:Nd}{k r:Fo}{B:Nat}(h:FoLt B0 (.node b o a k r) B):FoLt B0 k b∧FoLt B0 r B:=h.2
end
section
open Go.RowKit
def sz:Fo→Nat
 | .nil=>0
 | .node _ _ _ k r=>1+sz k+sz r
def dp:Fo→Nat
 | .nil=>0
 | .node _ _ _ k r=>max (1+dp k) (dp r)
theorem xy(T:Fo):len T≤sz T:=by
 induction T with
 | nil=>simp[len,sz]
 | node b o a k r ihk ihr=>simp only[len,sz];omega
def fitB(n lv:Int)(k:Fo):Bool:=decide (n+1+sz k≤200∧lv+dp k≤16)
def j6(op n:Int):Bool :=
 if 1≤op∧op≤6 then decide (n=0) else if op=7∨op=19 then decide (n=1) else if op=12∨op=13 then decide (2≤n) else if op=14∨op=15 then decide (n=3) else decide (n=2)
def j8(op num:Int):Bool :=
 if op=1∨op=2 then decide (0≤num∧num≤1099511627776) else if op=3 then decide (0≤num∧num≤1439) else decide (num=0)
def zQ(op:Int)(name:ByteArray):Bool:=if op=6 then zv name else decide (name.size=0)
def zk(a:Nd)(n:Int):Bool:=decide (1≤a.op∧a.op≤22) && j6 a.op n && j8 a.op a.num && zQ a.op a.name
def za:Fo→Bool
 | .nil=>true
 | .node _ _ a k r=>(zk a (len k) && za k) && za r
def qQ(a:Nd)(k:Fo):Int:=if fitB 0 1 k=true then (if (zk a (len k) && za k)=true then 0 else 1) else 10
end
section
theorem qg{k:IntKind}{a b:Int}(h:a=b):Ending.returned (.int k a)=.returned (.int k b):=by rw[h]
theorem qh{a b:Bool}(h:a=b):Ending.returned (.bool a)=.returned (.bool b):=by rw[h]
theorem JF{k j:IntKind}{a b c d:Int}(h:a=b)(h':c=d):Ending.returned (.tuple #[.int k a,.int j c])=.returned (.tuple #[.int k b,.int j d]):=by rw[h,h']
def Kx(w:World)(e:Ending)(w':World):Prop:=∃m:Int,(-9223372036854775808≤m∧m≤9223372036854775807)∧e=.returned (.int .i64 m)∧Below w.heap.size w w'
theorem KC(n:Int) : -9223372036854775808≤wrap64 n∧wrap64 n≤9223372036854775807:=by unfold wrap64;omega
end
section
theorem ks(w:World)(row:Option Nat):w.grownBy w row:=⟨rfl,rfl,rfl,Nat.le_refl _,fun _ _ _=>rfl⟩
theorem jD{a b c:World}{row:Option Nat}(h:a.grownBy b row)(g:b.grownBy c row):a.grownBy c row :=
 ⟨g.os.trans h.os,g.tape.trans h.tape,g.output.trans h.output,Nat.le_trans h.size g.size,fun k hk hr=>(g.block k (Nat.lt_of_lt_of_le hk h.size) hr).trans (h.block k hk hr)⟩
theorem jY{a b:World}{row:Option Nat}(h:a.grownBy b row)(o:Obj):a.grownBy (b.alloc o) row:=jD h (World.grownBy_alloc _ _ _)
theorem yZ{a b:World}{p:Addr}(h:a.grownBy b (some p.block))(u:Value):a.grownBy (b.setCell p u) (some p.block) :=
 jD h ⟨rfl,rfl,rfl,by simp[World.setCell],fun k hk hr=>Below.heap_setCell _ _ _ _ (fun e=>hr (by rw[e]))⟩
theorem Ul{a b:World}{row:Option Nat}(h:a.grownBy b row):a.grownBy b.drew row:=⟨h.os,h.tape,h.output,h.size,h.block⟩
theorem zF{a b:World}(h:Below a.heap.size a b)(row:Option Nat):a.grownBy b row:=⟨h.os,h.tape,h.output,h.size,fun k hk _=>h.block k hk⟩
theorem FoAt.grown{w w':World}{T:Fo}{B O nb:Nat}(h:FoAt w T B O)(hl:FoLt nb T B)(hg:w.grownBy w' (some nb)):FoAt w' T B O:=by
 induction T generalizing B O with
 | nil=>trivial
 | node b o a k r ihk ihr =>
   obtain⟨⟨h0,h1,h2,h3⟩,hp,hk,hr⟩:=h;obtain⟨l0,lk,lr⟩:=hl;have hne:some B≠some nb:=(by simp;omega);exact⟨⟨hg.cell h0 hne,hg.cell h1 hne,hg.cell h2 hne,hg.cell h3 hne⟩,hp,ihk hk lk,ihr hr lr⟩
def Ut(w:World)(nb:Nat)(n lv:Int)(k:Fo)(e:Ending)(w':World):Prop :=
 e=.returned (.bool (fitB n lv k))∧(fitB n lv k=true→w'.cell? ⟨nb,0,none⟩=some (.int .i64 (n+1+sz k)))∧w'.frozen? ⟨nb,0,none⟩=false∧w.grownBy w' (some nb)
def Vd(b o:Nat)(a:Nd)(k:Fo):Prop:=∀(w:World)(nb:Nat)(n lv:Int),ExAt w b o a k→yN a k→FoLt nb k b→w.cell? ⟨nb,0,none⟩=some (.int .i64 n)→w.frozen? ⟨nb,0,none⟩=false→0≤n→n≤200→1≤lv→lv≤17→
 Calls Tryz.prog 31 #[.agg #[.int .i64 a.op,.int .i64 a.num,.string a.name,.slice a.ptr (len k) a.cap],.int .i64 lv,.pointer (some ⟨nb,0,none⟩)] w (Ut w nb n lv k)
theorem Kg(n lv m:Int)(k k1 r1:Fo)(b1 o1:Nat)(a1:Nd)(h:fitB n lv k=decide (m+sz (BT.node b1 o1 a1 k1 r1)≤200∧lv+dp (BT.node b1 o1 a1 k1 r1)≤16)) :
 (fitB m (lv+1) k1=false→fitB n lv k=false)∧(fitB m (lv+1) k1=true→fitB n lv k=decide (m+1+sz k1+sz r1≤200∧lv+dp r1≤16)∧m+1+sz k1≤200):=by
 have e1:sz (BT.node b1 o1 a1 k1 r1)=1+sz k1+sz r1:=rfl;have e2:dp (BT.node b1 o1 a1 k1 r1)=max (1+dp k1) (dp r1):=rfl;rw[h,e1,e2];unfold fitB;constructor
 ·intro q;rw[decide_eq_false_iff_not] at q ⊢;omega
 ·intro q;rw[decide_eq_true_eq] at q;refine⟨?_,by omega⟩;rw[Bool.eq_iff_iff,decide_eq_true_eq,decide_eq_true_eq];omega
theorem Kf(b o:Nat)(a:Nd)(k:Fo):Vd b o a k:=by
 refine jf (P:=Vd) ?_ b o a k;clear b o a k;intro b o a k ih w nb n lv hx hok qD hc hf h0 h1 h2 h3;have IH:=hid ih;have HX:=hid hx;have HOK:=hid hok;have HL:=hid qD;clear ih hx hok qD;have hk:len k≤9223372036854775807:=HOK.out.1.2.2.2;have hnb:=block_lt_of_cell hc;simp at hnb;obtain⟨op,num,name,ptr,cap⟩:=a
 show Calls Tryz.prog 31 #[.agg #[.int .i64 op,.int .i64 num,.string name,.slice ptr (len k) cap],.int .i64 lv,.pointer (some ⟨nb,0,none⟩)] w _
 by_cases hn:n+1≤200
 ·by_cases hv:lv≤16
  ·go_enter Tryz.func31,Tryz.ntmps31;go_wp2_with fail
   go_loopw [25] (fun i wr=>∃(j:Nat) (r:Fo) (m:Int),i=.int .i64 j∧wr.cell? ⟨nb,0,none⟩=some (.int .i64 m)∧wr.frozen? ⟨nb,0,none⟩=false∧0≤m∧m≤200∧nb < wr.heap.size∧
    Hid (j+len r=len k∧FoAt wr r b (o+j * 4)∧je r∧xo Vd r∧FoLt nb r b∧w.grownBy wr (some nb)∧fitB n lv k=decide (m+sz r≤200∧lv+dp r≤16)∧m+sz r=n+1+sz k)) (fun i _=>len k - (intOf i).toNat)
   case atStart =>
    have G:w.grownBy ((w.setCell ⟨nb,0,none⟩ (.int .i64 (n+1))).alloc (.cells #[.int .i64 op,.int .i64 num,.string name,.slice ptr (len k) cap] 24)) (some nb):=jY (yZ (p:=⟨nb,0,none⟩) (ks _ _) _) _;refine⟨0,k,n+1,rfl,by simp[go_sem,hc,hnb],by simp[go_sem,hf,hnb],by omega,by omega,by simp;omega,by omega,?_,HOK.out.2,IH.out,HL.out,G,?_,rfl⟩
    ·rw [Nat.zero_mul,Nat.add_zero];exact HX.out.2.grown HL.out G
    ·rfl
   case round =>
    obtain⟨j,r,m,rfl,hcm,hfm,hm0,hm1,hnr,HR⟩:=hrel;cases r with
    | nil =>
      have hj:¬(j:Int) < (len k:Int):=(by have:=HR.out.1;simp[len] at this;omega);go_wp2;go_ret;obtain⟨-,-,-,-,-,q1,q2,q3⟩:=HR.out;have q4:fitB n lv k=true:=(by rw[q2];simp[sz,dp];omega);have q5:m=n+1+sz k:=(by simp[sz] at q3;omega);exact⟨qh q4.symm,fun _=>by rw[hcm,q5],hfm,q1⟩
    | node b1 o1 a1 k1 r1 =>
      have hj:j < len k:=(by have:=HR.out.1;simp[len] at this;omega);obtain rfl:ptr=some ⟨b,o,none⟩:=HX.out.1 (by rintro rfl;simp[len] at hj);obtain⟨⟨c0,c1,c2,c3⟩,hp1,hk1,hr1⟩:=HR.out.2.1;have X1:Hid (ExAt wr b1 o1 a1 k1):=⟨hp1,hk1⟩;have N1:=hid hr1;clear hp1 hk1 hr1;have hj1:(j:Int) < (len k:Int):=(by omega);have hbw:=block_lt_of_cell c0;simp at hbw;have hst:=Kg n lv m k k1 r1 b1 o1 a1 HR.out.2.2.2.2.2.2.1;have ST:=hid hst;clear hst;go_wp2_with fail;have X2:ExAt (wr.alloc (.cells #[.int .i64 a1.op,.int .i64 a1.num,.string a1.name,.slice a1.ptr (len k1) a1.cap] 24)) b1 o1 a1 k1:=X1.out.next ba1
      have hcm':(wr.alloc (.cells #[.int .i64 a1.op,.int .i64 a1.num,.string a1.name,.slice a1.ptr (len k1) a1.cap] 24)).cell? ⟨nb,0,none⟩=some (.int .i64 m):=(by simp[go_sem,hcm,hnr]);have hfm':(wr.alloc (.cells #[.int .i64 a1.op,.int .i64 a1.num,.string a1.name,.slice a1.ptr (len k1) a1.cap] 24)).frozen? ⟨nb,0,none⟩=false:=(by simp[go_sem,hfm,hnr]);refine(HR.out.2.2.2.1.1 _ nb m (lv+1) X2 ⟨HR.out.2.2.1.1,HR.out.2.2.1.2.1⟩ HR.out.2.2.2.2.1.2.1 hcm' hfm' hm0 hm1 (by omega) (by omega)).mono ?_;clear hcm' hfm' X2;rintro e w1 ⟨he,hcell,hf1,hg1⟩;cases hfit:fitB m (lv+1) k1
      ·rw [hfit] at he;subst he;have ff:=ST.out.1 hfit;have FF:=hid ff;clear ff hfit hcell;have G1:=hid (jD (jY HR.out.2.2.2.2.2.1 _) hg1);clear hg1 c0 c1 c2 c3;go_wp2;go_ret;exact⟨qh FF.out.symm,fun q=>by(rw[FF.out] at q;cases q),hf1,G1.out⟩
      ·have hcell':=hcell hfit;rw[hfit] at he;subst he;have ff:=ST.out.2 hfit;have FF:=hid ff;have HF:=hid hfit;clear ff hfit;have G1:=hid (jD (jY HR.out.2.2.2.2.2.1 _) hg1);have N2:=hid ((N1.out.next ((Below.refl _ _).alloc (Nat.le_refl _) (.cells #[.int .i64 a1.op,.int .i64 a1.num,.string a1.name,.slice a1.ptr (len k1) a1.cap] 24))).grown HR.out.2.2.2.2.1.2.2 hg1);have hz:=hg1.size;simp at hz;have hz1:nb < w1.heap.size:=(by omega);clear hg1 c0 c1 c2 c3 hz hcell;go_wp2
       go_roundw
       case rel =>
        obtain⟨q1,-,q3,q4,q5,-,-,q8⟩:=HR.out;have z1:=FF.out.2;simp[len] at q1;simp[sz] at q8;refine⟨j+1,r1,m+1+sz k1,by go_num,hcell',hf1,by omega,by omega,hz1,by omega,?_,q3.2.2,q4.2,q5.2.2,G1.out,FF.out.1,by omega⟩;rw[Nat.add_mul,Nat.one_mul,← Nat.add_assoc];exact N2.out
       case measure=>simp[intOf];omega
  ·have F:Hid (fitB n lv k=false):=by unfold Hid fitB;simp;omega
   go_enter Tryz.func31,Tryz.ntmps31;go_wp2;go_ret;exact⟨qh F.out.symm,fun q=>by(rw[F.out] at q;cases q),by simp[go_sem,hf,hnb],jY (yZ (p:=⟨nb,0,none⟩) (ks _ _) _) _⟩
 ·have F:Hid (fitB n lv k=false):=by unfold Hid fitB;simp;omega
  go_enter Tryz.func31,Tryz.ntmps31;go_wp2;go_ret;exact⟨qh F.out.symm,fun q=>by(rw[F.out] at q;cases q),by simp[go_sem,hf,hnb],jY (yZ (p:=⟨nb,0,none⟩) (ks _ _) _) _⟩
end
section
structure Ch where
 b:Nat
 o:Nat
 a:Nd
 k:Fo
def qC:List Ch→Fo
 | []=>.nil
 | c :: r=>.node c.b c.o c.a c.k (qC r)
def xp(c:Ch):List Value:=[.int .i64 c.a.op,.int .i64 c.a.num,.string c.a.name,.slice c.a.ptr (len c.k) c.a.cap]
def jL(l:List Ch):List Value:=l.flatMap xp
theorem ql(l:List Ch):len (qC l)=l.length:=by
 induction l with
 | nil=>rfl
 | cons c l ih=>simp[qC,len,ih]
def FoGe(B0:Nat):Fo→Nat→Prop
 | .nil,_=>True
 | .node b _ _ k r,B=>B0≤B∧FoGe B0 k b∧FoGe B0 r B
theorem FoGe.mono{B0 B1:Nat}{T:Fo}{B:Nat}(h:FoGe B0 T B)(hb:B1≤B0):FoGe B1 T B:=by
 induction T generalizing B with
 | nil=>trivial
 | node b o a k r ihk ihr=>exact⟨Nat.le_trans hb h.1,ihk h.2.1,ihr h.2.2⟩
theorem FoAt.grownGe{w w':World}{s B0:Nat}{T:Fo}{B O:Nat}(h:FoAt w T B O)(hn:FoGe B0 T B)(hs:s < B0)(hg:w.grownBy w' (some s)):FoAt w' T B O:=by
 induction T generalizing B O with
 | nil=>trivial
 | node b o a k r ihk ihr =>
   obtain⟨⟨h0,h1,h2,h3⟩,hp,hk,hr⟩:=h;obtain⟨n0,nk,nr⟩:=hn
   have key:∀(i:Nat) (u:Value),w.cell? ⟨B,i,none⟩=some u→w'.cell? ⟨B,i,none⟩=some u:=fun i u q=>by
    rw[World.cell?_of_block (hg.block B (block_lt_of_cell q) (fun e=>by have:=Option.some.inj e;omega))];exact q
   exact⟨⟨key _ _ h0,key _ _ h1,key _ _ h2,key _ _ h3⟩,hp,ihk hk nk,ihr hr nr⟩
def ChAt(w:World)(B0:Nat)(c:Ch):Prop:=ExAt w c.b c.o c.a c.k∧FoGe B0 c.k c.b
theorem ChAt.grown{w w':World}{s B0:Nat}{c:Ch}(h:ChAt w B0 c)(hs:s < B0)(hg:w.grownBy w' (some s)):ChAt w' B0 c:=⟨⟨h.1.1,h.1.2.grownGe h.2 hs hg⟩,h.2⟩
theorem ChAt.next{w w':World}{B0:Nat}{c:Ch}(h:ChAt w B0 c)(hb:Below w.heap.size w w'):ChAt w' B0 c:=⟨h.1.next hb,h.2⟩
theorem ChAt.mono{w:World}{B0 B1:Nat}{c:Ch}(h:ChAt w B0 c)(hb:B1≤B0):ChAt w B1 c:=⟨h.1,h.2.mono hb⟩
theorem Y9{w:World}{B0 g O:Nat}(l:List Ch)(h:∀c∈ l,ChAt w B0 c)(hc:∀j u,(jL l)[j]?=some u→w.cell? ⟨g,O+j,none⟩=some u)(hg:B0≤g):FoAt w (qC l) g O∧FoGe B0 (qC l) g:=by
 induction l generalizing O with
 | nil=>exact⟨trivial,trivial⟩
 | cons c l ih =>
   obtain⟨h1,h2⟩:=h c (by simp)
   obtain ⟨r1,r2⟩:=ih (O:=O+4) (fun d hd=>h d (by simp[hd])) (fun j u hu=>by
    have:=hc (4+j) u (by unfold jL;rw[List.flatMap_cons,List.getElem?_append_right (by simp[xp])];simpa [xp,jL] using hu);rw[← Nat.add_assoc] at this;exact this)
   exact⟨⟨⟨hc 0 _ rfl,hc 1 _ rfl,hc 2 _ rfl,hc 3 _ rfl⟩,h1.1,h1.2,r1⟩,hg,h2,r2⟩
theorem uv{fn:Func}{p:Tmp}{ty:TypeId}(h:fn.results=#[.cell p ty])(tmps:Array Value)(P:Program)(w:World) :
 (results fn tmps).run P w=((asAddr (tmps.getD p undef)).run P w).andThen fun a w₁=>(loadVar ty a).run P w₁:=by
 simp only[results,h];simp[Sem.run_bind,Result.andThen]
end
namespace Txt
open Go
def isD(c:UInt8):Bool:=decide (48≤c.toNat∧c.toNat≤57)
def dv(c:UInt8):Int:=(c.toNat:Int) - 48
def num(l:List UInt8):Int:=l.foldl (fun n c=>10 * n+dv c) 0
def allD(l:List UInt8):Bool:=l.all isD
theorem num_snoc(l:List UInt8)(c:UInt8):num (l++[c])=10 * num l+dv c:=by simp[num]
theorem allD_snoc(l:List UInt8)(c:UInt8):allD (l++[c])=(allD l && isD c):=by simp[allD]
theorem isD_iff(c:UInt8):isD c=true↔48≤c.toNat∧c.toNat≤57:=by simp[isD]
theorem isD_no(c:UInt8):isD c=false↔¬(48≤c.toNat∧c.toNat≤57):=by simp[isD]
theorem snoc_ind{P:List UInt8→Prop}(h0:P [])(h1:∀l c,P l→P (l++[c])):∀l,P l:=by
 intro l;rw[← List.reverse_reverse l]
 induction l.reverse with
 | nil=>exact h0
 | cons c t ih=>rw[List.reverse_cons];exact h1 _ _ ih
theorem num_bd(l:List UInt8)(h:allD l=true):0≤num l∧num l < (10 ^ l.length:Nat):=by
 induction l using snoc_ind with
 | h0=>simp[num]
 | h1 l c ih =>
   rw[allD_snoc,Bool.and_eq_true] at h;have hc:=(isD_iff c).1 h.2;have:=ih h.1;rw[num_snoc,List.length_append];simp only[List.length_cons,List.length_nil,Nat.zero_add,Nat.pow_succ,dv];generalize 10 ^ l.length=k at *;omega
def fitB(c p:UInt8):Bool:=if p=48 then isD c else c==p
def fits:List UInt8→List UInt8→Bool
 | [],[]=>true
 | c :: s,p :: q=>fitB c p && fits s q
 | _,_=>false
theorem fits_len:∀(s p:List UInt8),fits s p=true→s.length=p.length
 | [],[],_=>rfl
 | c :: s,p :: q,h=>by simp[fits] at h;simp[fits_len s q h.2]
 | [],_ :: _,h=>by simp[fits] at h
 | _ :: _,[],h=>by simp[fits] at h
theorem fits_take(s p:List UInt8)(hl:s.length=p.length)(k:Nat)(hk:k < s.length) :
 fits (s.take (k+1)) (p.take (k+1))=(fits (s.take k) (p.take k) && fitB (s.getD k 0) (p.getD k 0)):=by
 induction s generalizing p k with
 | nil=>simp at hk
 | cons c s ih =>
   cases p with
   | nil=>simp at hl
   | cons q p =>
     cases k with
     | zero=>simp[fits]
     | succ k =>
       have:=ih p (by simpa using hl) k (by simpa using hk);simp only[List.take_succ_cons,fits,this,List.getD_cons_succ,Bool.and_assoc]
theorem fits_all(s p:List UInt8)(hl:s.length=p.length):fits s p=true↔∀k,k < s.length→fitB (s.getD k 0) (p.getD k 0)=true:=by
 induction s generalizing p with
 | nil=>cases p with
   | nil=>simp[fits]
   | cons q p=>simp at hl
 | cons c s ih =>
   cases p with
   | nil=>simp at hl
   | cons q p =>
     rw[fits,Bool.and_eq_true,ih p (by simpa using hl)];constructor
     ·rintro⟨h0,h1⟩ k hk;cases k with
      | zero=>simpa using h0
      | succ k=>simpa using h1 k (by simpa using hk)
     ·intro h;exact⟨by simpa using h 0 (by simp),fun k hk=>by simpa using h (k+1) (by simpa using hk)⟩
def pad(n:Nat)(k:Nat):List UInt8:=List.replicate (k - (Lib.decDigits n).length) 48++Lib.decDigits n
theorem repeatL_one(k:Nat):Lib.repeatL [48] k=List.replicate k 48:=by
 induction k with
 | zero=>rfl
 | succ k ih=>simp[Lib.repeatL,ih,List.replicate_succ]
theorem pad_len(n k:Nat)(h:(Lib.decDigits n).length≤k):(pad n k).length=k:=by simp[pad];omega
theorem toNat_digit(d:Nat)(h:d < 10):(UInt8.ofNat (48+d)).toNat=48+d:=by
 have:d=0∨d=1∨d=2∨d=3∨d=4∨d=5∨d=6∨d=7∨d=8∨d=9:=by omega
 rcases this with rfl|rfl|rfl|rfl|rfl|rfl|rfl|rfl|rfl|rfl<;>rfl
theorem dec_allD(n:Nat):allD (Lib.decDigits n)=true:=by
 induction n using Nat.strongRecOn with
 | ind n ih =>
   rw[Lib.decDigits]
   split
   ·rename_i h;simp[allD,isD,toNat_digit n h];omega
   ·rename_i h
    rw[allD_snoc,ih (n / 10) (by omega)];simp[isD,toNat_digit (n % 10) (by omega)];omega
theorem dec_num(n:Nat):num (Lib.decDigits n)=n:=by
 induction n using Nat.strongRecOn with
 | ind n ih =>
   rw[Lib.decDigits]
   split
   ·rename_i h;simp only[num,dv,List.foldl_cons,List.foldl_nil,toNat_digit n h];omega
   ·rename_i h
    rw[num_snoc,ih (n / 10) (by omega)];simp only[dv,toNat_digit (n % 10) (by omega)];omega
theorem num_zeros(k:Nat)(l:List UInt8):num (List.replicate k 48++l)=num l:=by
 induction k with
 | zero=>simp
 | succ k ih =>
   have:num (48 :: (List.replicate k 48++l))=num (List.replicate k 48++l):=(by simp[num,dv]);rw[List.replicate_succ,List.cons_append,this,ih]
theorem pad_num(n k:Nat):num (pad n k)=n:=by rw[pad,num_zeros,dec_num]
theorem pad_allD(n k:Nat):allD (pad n k)=true:=by
 rw[pad,allD,List.all_append,Bool.and_eq_true];exact⟨by simp[isD],dec_allD n⟩
theorem dec_len_le(n k:Nat)(hk:1≤k)(h:n < 10 ^ k):(Lib.decDigits n).length≤k:=by
 induction k generalizing n with
 | zero=>omega
 | succ k ih =>
   rw[Lib.decDigits]
   split
   ·simp
   ·rename_i h10
    have hk1:1≤k:=by
     cases k with
     | zero=>simp at h;omega
     | succ k=>omega
    have:=ih (n / 10) hk1 (by rw[Nat.pow_succ] at h;omega);rw[List.length_append];simp;omega
theorem num_cons(c:UInt8)(l:List UInt8):num (c :: l)=dv c * (10 ^ l.length:Nat)+num l:=by
 induction l using snoc_ind with
 | h0=>simp[num]
 | h1 l d ih =>
   rw[← List.cons_append,num_snoc,ih,num_snoc,List.length_append];simp only[List.length_cons,List.length_nil,Nat.zero_add,Nat.pow_succ,Int.natCast_mul];generalize ((10 ^ l.length:Nat):Int)=k
   have:dv c * (k * (10:Nat))=10 * (dv c * k):=by
    rw[show((10:Nat):Int)=10 from rfl,← Int.mul_assoc,Int.mul_comm]
   rw[this];omega
end Txt
namespace Txt
open Go
theorem ix_ge(l:List UInt8)(c:UInt8) : -1≤Lib.indexByte l c:=by
 induction l with
 | nil=>simp[Lib.indexByte]
 | cons d l ih =>
   rw[Lib.indexByte]
   split
   ·omega
   ·split<;>omega
theorem ix_none(l:List UInt8)(c:UInt8):Lib.indexByte l c = -1↔∀x∈ l,x≠c:=by
 induction l with
 | nil=>simp[Lib.indexByte]
 | cons b l ih =>
   rw[Lib.indexByte]
   by_cases h:b=c
   ·subst h;simp
   ·have h':(b==c)=false:=by simp[h]
    rw[h'];simp only[Bool.false_eq_true,if_false];have hge:=ix_ge l c
    split
    ·rename_i q;simp at q;simp[h];exact ih.1 q
    ·rename_i q
     simp at q;constructor
     ·intro e;omega
     ·intro e;exact absurd (ih.2 fun x hx=>e x (by simp[hx])) q
theorem ix_some(l:List UInt8)(c:UInt8)(k:Nat):Lib.indexByte l c=k↔(∃r,l=l.take k++c :: r)∧k < l.length∧∀x∈ l.take k,x≠c:=by
 induction l generalizing k with
 | nil=>simp[Lib.indexByte]
 | cons b l ih =>
   rw[Lib.indexByte]
   by_cases h:b=c
   ·subst h;simp only[beq_self_eq_true,if_true];constructor
    ·intro e;have:k=0:=(by omega);subst this;simp
    ·rintro⟨-,-,h3⟩;cases k with
     | zero=>rfl
     | succ k=>exact absurd rfl (h3 b (by simp))
   ·have h':(b==c)=false:=by simp[h]
    rw[h'];simp only[Bool.false_eq_true,if_false];cases k with
    | zero =>
      constructor
      ·intro e
       split at e
       ·omega
       ·rename_i q;simp at q
        have hge:=ix_ge l c;have:Lib.indexByte l c≠ -1:=q;omega
      ·rintro⟨⟨r,hr⟩,-,-⟩;simp at hr;exact absurd hr.1 h
    | succ k =>
      have:=ih k;constructor
      ·intro e;have e':Lib.indexByte l c=k:=(by split at e<;>omega);obtain⟨⟨r,hr⟩,h2,h3⟩:=this.1 e';refine⟨⟨r,?_⟩,by simp;omega,?_⟩
       ·rw[List.take_succ_cons,List.cons_append,← hr]
       ·intro x hx;rw[List.take_succ_cons] at hx;rcases List.mem_cons.1 hx with rfl|hx
        ·exact h
        ·exact h3 x hx
      ·rintro⟨⟨r,hr⟩,h2,h3⟩;have e':Lib.indexByte l c=k:=this.2 ⟨⟨r,by rw[List.take_succ_cons,List.cons_append] at hr;exact(List.cons.inj hr).2⟩,by simp at h2;omega,fun x hx=>h3 x (by rw[List.take_succ_cons];exact List.mem_cons_of_mem _ hx)⟩;rw[e'];simp
def duR(l:List UInt8):List UInt8:=Lib.trimPrefix l [45]
def duNeg(l:List UInt8):Bool:=Lib.hasPrefix l [45]
def duK(l:List UInt8):Nat:=(duR l).length - 3
def duH(l:List UInt8):List UInt8:=(duR l).take (duK l)
def duM(l:List UInt8):List UInt8:=(duR l).drop (duK l+1)
def plainL(l:List UInt8):Bool:=decide (l.length=1) || (decide (1 < l.length) && !(l.getD 0 0==48))
def duB(l:List UInt8):Bool:=decide (4≤(duR l).length∧(duR l).length≤14∧(duR l).getD (duK l) 0=58∧allD (duH l)=true∧allD (duM l)=true∧plainL (duH l)=true∧¬(duNeg l=true∧num (duH l)=0∧num (duM l)=0))
def duN(l:List UInt8):Int:=60 * num (duH l)+num (duM l)
def duE(l:List UInt8):Int:=if duB l=true then (if num (duM l)≤59∧duN l≤1099511627776 then 0 else 5) else 1
def duV(l:List UInt8):Int:=if duE l=0 then (if duNeg l=true then - duN l else duN l) else 0
theorem plain_iff(hh:List UInt8)(h:1≤hh.length):plainL hh=true↔¬((hh.getD 0 0).toNat=48∧1 < hh.length):=by
 cases hh with
 | nil=>simp at h
 | cons c t =>
   have hc:(c==48)=decide (c.toNat=48):=by
    rw[Bool.eq_iff_iff];simp only[beq_iff_eq,decide_eq_true_eq];exact⟨fun q=>by rw[q];rfl,fun q=>UInt8.toNat_inj.1 q⟩
   unfold plainL;rw[List.getD_cons_zero,hc,List.length_cons]
   by_cases q:c.toNat=48
   ·simp only[q,decide_true,Bool.not_true,Bool.and_false,Bool.or_false,decide_eq_true_eq,true_and];omega
   ·simp only[q,decide_false,Bool.not_false,Bool.and_true,Bool.or_eq_true,decide_eq_true_eq,false_and,not_false_eq_true,iff_true];omega
theorem fits2(l:List UInt8):fits l [48,48]=true↔l.length=2∧allD l=true:=by
 constructor
 ·intro h;have hl:=fits_len _ _ h
  match l,hl with
  | [a,b],_=>simp[fits,fitB,allD] at h ⊢;exact h
 ·rintro⟨hl,h⟩
  match l,hl with
  | [a,b],_=>simp[fits,fitB,allD] at h ⊢;exact h
theorem fits_zeros(l:List UInt8):fits l (List.replicate l.length 48)=allD l:=by
 induction l with
 | nil=>rfl
 | cons c l ih =>
   rw[List.length_cons,List.replicate_succ,fits,ih];simp[allD,fitB]
theorem isD_ne(c:UInt8)(h:isD c=true):c≠58:=by
 rintro rfl;simp[isD] at h
theorem cut_iff(r:List UInt8)(k:Nat)(hk:Lib.indexByte r 58=k):fits (r.drop (k+1)) [48,48]=true∧1≤k∧k≤11∧allD (r.take k)=true↔
 (4≤r.length∧r.length≤14∧r.getD (r.length - 3) 0=58∧allD (r.take (r.length - 3))=true∧allD (r.drop (r.length - 3+1))=true):=by
 obtain⟨⟨t,ht⟩,h2,h3⟩:=(ix_some r 58 k).1 hk
 have hd:r.drop (k+1)=t:=by
  have hl:(r.take k).length=k:=by simp;omega
  conv=>lhs;rw[ht]
  rw[List.drop_append,hl];simp;omega
 have hlen:r.length=k+1+t.length:=by
  have:=congrArg List.length hd;simp at this;omega
 constructor
 ·rintro⟨f1,f2,f3,f4⟩;rw[hd] at f1;obtain⟨g1,g2⟩:=(fits2 t).1 f1;have e:r.length - 3=k:=(by omega);rw[e,hd];refine⟨by omega,by omega,?_,f4,g2⟩;rw[List.getD_eq_getElem?_getD,ht,List.getElem?_append_right (by simp;omega)];have hl:(r.take k).length=k:=(by simp;omega);rw[hl];simp
 ·rintro ⟨f1,f2,f3,f4,f5⟩
  have e : r.length - 3=k:=by
   rcases Nat.lt_trichotomy (r.length - 3) k with q|q|q
   ·exfalso
    have:(58:UInt8)∈ r.take k:=by
     rw[List.getD_eq_getElem?_getD,List.getElem?_eq_getElem (by omega)] at f3;simp at f3;rw[List.mem_iff_getElem];exact⟨r.length - 3,by simp;omega,by rw[List.getElem_take];exact f3⟩
    exact h3 58 this rfl
   ·exact q
   ·exfalso
    have:(58:UInt8)∈ r.take (r.length - 3):=by
     rw[List.mem_iff_getElem];refine⟨k,by simp;omega,?_⟩;rw[List.getElem_take];have hl:(r.take k).length=k:=(by simp;omega);have:r[k]?=(r.take k++58 :: t)[k]?:=congrArg (fun l=>l[k]?) ht;rw[List.getElem?_append_right (by omega),hl,List.getElem?_eq_getElem (by omega)] at this
     simpa using this
    exact isD_ne 58 (List.all_eq_true.1 f4 58 this) rfl
  rw[e] at f4 f5;rw[hd] at f5 ⊢;exact⟨(fits2 t).2 ⟨by omega,f5⟩,by omega,by omega,f4⟩
theorem dash_iff(l:List UInt8):duNeg l=true↔∃t,l=45 :: t:=by
 unfold duNeg Lib.hasPrefix;cases l with
 | nil=>simp
 | cons c l=>simp[List.isPrefixOf];exact eq_comm
theorem duR_neg(t:List UInt8):duR (45 :: t)=t:=by simp[duR,Lib.trimPrefix,Lib.hasPrefix,List.isPrefixOf]
theorem duR_pos(l:List UInt8)(h:duNeg l=false):duR l=l:=by unfold duR Lib.trimPrefix;rw[show Lib.hasPrefix l [45]=false from h];simp
theorem duR_len(l:List UInt8):(duR l).length≤l.length:=by
 unfold duR Lib.trimPrefix;cases Lib.hasPrefix l [45]<;>simp
theorem num_zero(l:List UInt8)(h:allD l=true):num l=0↔∀x∈ l,x=48:=by
 induction l with
 | nil=>simp[num]
 | cons c l ih =>
   simp only[allD,List.all_cons,Bool.and_eq_true] at h;have hc:=(isD_iff c).1 h.1;have hb:=num_bd l h.2;have hp:0 < 10 ^ l.length:=Nat.pow_pos (by omega);rw[num_cons];have ih':=ih h.2;constructor
   ·intro e;have hm:0≤dv c * ((10 ^ l.length:Nat):Int):=Int.mul_nonneg (by unfold dv;omega) (by omega);have h0:num l=0:=(by omega);have h1:dv c * ((10 ^ l.length:Nat):Int)=0:=(by omega);rcases Int.mul_eq_zero.1 h1 with q|q
    ·intro x hx;rcases List.mem_cons.1 hx with rfl|hx
     ·unfold dv at q;apply UInt8.toNat_inj.1;show x.toNat=48;omega
     ·exact ih'.1 h0 x hx
    ·omega
   ·intro e;have:=e c (by simp);subst this;rw[ih'.2 fun x hx=>e x (by simp[hx])];simp[dv]
theorem zero_aux(t:List UInt8)(hk:4≤t.length)(hc:t.getD (t.length - 3) 0=58)(h1:allD (t.take (t.length - 3))=true)(h2:allD (t.drop (t.length - 3+1))=true)(h3:plainL (t.take (t.length - 3))=true)
 (n2:num (t.take (t.length - 3))=0) (n3:num (t.drop (t.length - 3+1))=0):t=[48,58,48,48]:=by
 have z1:=(num_zero _ h1).1 n2;have z2:=(num_zero _ h2).1 n3
 have hl:(t.take (t.length - 3)).length=1:=by
  unfold plainL at h3;simp only[Bool.or_eq_true,decide_eq_true_eq,Bool.and_eq_true] at h3;rcases h3 with h3|⟨h3,h4⟩
  ·exact h3
  ·exfalso
   have:(t.take (t.length - 3)).getD 0 0=48:=by
    rw[List.getD_eq_getElem?_getD,List.getElem?_eq_getElem (by omega)];exact z1 _ (List.getElem_mem _)
   rw[this] at h4;simp at h4
 have ht:t.length=4:=by simp at hl;omega
 match t,ht with
 | [a,b,c,d],_ =>
   simp at z1 z2 hc;simp[z1,z2,hc]
theorem zero_iff(l:List UInt8)(hk:4≤(duR l).length)(hc:(duR l).getD (duK l) 0=58)(h1:allD (duH l)=true)(h2:allD (duM l)=true)(h3:plainL (duH l)=true) :
 (duNeg l=true∧num (duH l)=0∧num (duM l)=0)↔l=[45,48,58,48,48]:=by
 constructor
 ·rintro⟨n1,n2,n3⟩;have:=zero_aux (duR l) hk hc h1 h2 h3 n2 n3;obtain⟨t,rfl⟩:=(dash_iff l).1 n1;rw[duR_neg] at this;rw[this]
 ·rintro rfl;decide
theorem duB_iff(l:List UInt8)(k:Nat)(hk:Lib.indexByte (duR l) 58=k):duB l=true↔
 (l≠[45,48,58,48,48]∧1≤k∧k≤11∧fits ((duR l).drop (k+1)) [48,48]=true∧allD ((duR l).take k)=true∧plainL ((duR l).take k)=true):=by
 have hc:=cut_iff (duR l) k hk
 have hke:(4≤(duR l).length∧(duR l).length≤14∧(duR l).getD ((duR l).length - 3) 0=58∧allD ((duR l).take ((duR l).length - 3))=true∧allD ((duR l).drop ((duR l).length - 3+1))=true)→k=duK l:=by
  intro q;obtain⟨f1,f2,f3,f4⟩:=hc.2 q;have:=((fits2 _).1 f1).1;unfold duK;simp at this;omega
 unfold duB;rw[decide_eq_true_eq];constructor
 ·rintro⟨a1,a2,a3,a4,a5,a6,a7⟩;have e:=hke ⟨a1,a2,a3,a4,a5⟩;obtain⟨f1,f2,f3,f4⟩:=hc.2 ⟨a1,a2,a3,a4,a5⟩;refine⟨fun q=>a7 ((zero_iff l a1 a3 a4 a5 a6).2 q),f2,f3,f1,f4,?_⟩;rw[e];exact a6
 ·rintro⟨b1,b2,b3,b4,b5,b6⟩;have q:=hc.1 ⟨b4,b2,b3,b5⟩;have e:=hke q;obtain⟨a1,a2,a3,a4,a5⟩:=q;rw[e] at b6;exact⟨a1,a2,a3,a4,a5,b6,fun z=>b1 ((zero_iff l a1 a3 a4 a5 b6).1 z)⟩
theorem duB_none(l:List UInt8)(hk:Lib.indexByte (duR l) 58 = -1):duB l=false:=by
 rw[Bool.eq_false_iff];intro h;unfold duB at h;rw[decide_eq_true_eq] at h;obtain⟨a1,a2,a3,-⟩:=h;have hn:=(ix_none _ _).1 hk;unfold duK at a3;rw[List.getD_eq_getElem?_getD,List.getElem?_eq_getElem (by omega)] at a3;exact hn _ (List.getElem_mem _) a3
theorem ix_cases(l:List UInt8)(c:UInt8):Lib.indexByte l c = -1∨∃k:Nat,Lib.indexByte l c=k∧k < l.length:=by
 have hge:=ix_ge l c
 by_cases h:Lib.indexByte l c = -1
 ·exact .inl h
 ·obtain ⟨k,hk⟩:=Int.eq_ofNat_of_zero_le (show 0≤Lib.indexByte l c by omega);exact .inr ⟨k,hk,((ix_some l c k).1 hk).2.1⟩
end Txt
theorem ud{k:IntKind}{a b:Int}(h:a=b):Ending.returned (.int k a)=.returned (.int k b):=by rw[h]
theorem qS{a b:Bool}(h:a=b):Ending.returned (.bool a)=.returned (.bool b):=by rw[h]
theorem YK{k j:IntKind}{a b c d:Int}(h:a=b)(h':c=d):Ending.returned (.tuple #[.int k a,.int j c])=.returned (.tuple #[.int k b,.int j d]):=by rw[h,h']
theorem yQ{w w1:World}{xs:Array Value}{T:TypeId}(hb:Below (w.alloc (.cells xs T)).heap.size (w.alloc (.cells xs T)) w1)(o:Nat):w1.cell? ⟨w.heap.size,o,none⟩=xs[o]?:=by
 rw[hb.cell (p:=⟨w.heap.size,o,none⟩) (by simp)];simp
theorem xm{w w1:World}{xs:Array Value}{T:TypeId}(hb:Below (w.alloc (.cells xs T)).heap.size (w.alloc (.cells xs T)) w1)(o:Nat):w1.frozen? ⟨w.heap.size,o,none⟩=false:=by
 rw[hb.frozen (p:=⟨w.heap.size,o,none⟩) (by simp)];simp
theorem j5{w w1:World}{o:Obj}(hb:Below (w.alloc o).heap.size (w.alloc o) w1):w.heap.size < w1.heap.size:=by have:=hb.size;simp at this;omega
theorem qN{B:Nat}{w w1:World}(h:Below B w w1)(n:Nat):Below B w (w1.drewN n):=⟨h.os,h.tape,h.output,h.size,h.block⟩
theorem below_grow(w:World)(q:Nat)(os:Array Obj):Below w.heap.size w (Sort.grow (w.drewN q) os) :=
 ⟨rfl,rfl,rfl,by simp,fun k hk=>Sort.heap_grow_old _ _ (by simpa using hk)⟩
theorem vq(a b:List UInt8):(⟨a.toArray⟩:ByteArray)++⟨b.toArray⟩=⟨(a++b).toArray⟩:=by
 apply ByteArray.ext;simp
theorem vo(s:ByteArray):(⟨s.data.toList.toArray⟩:ByteArray)=s:=by cases s;simp
theorem vb{a b:ByteArray}(h:a=b):Ending.returned (.string a)=.returned (.string b):=by rw[h]
end Go.Proofs.YtcejjdmnlejbaaaGreatDoor
