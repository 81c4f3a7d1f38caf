import Derived.WalkKit
import Derived.Lib.Bytealg
import Derived.Lib.Strings
import Derived.Lib.Hide
import Derived.Below
import Derived.Deep.Trees
import Derived.ProofKit
import Derived.OpenShut
import Derived.WalkSpells
import Derived.WalkLawsBesides
import Derived.Outline
import Derived.LoopTactic
import Derived.Deep.QuietTactic
import Derived.BigQuiet
import Derived.Lib.QuietBelow
import Derived.Deep.DeepCutAuto
import Derived.Deep.CutBlock
import Derived.Deep.Light
import Derived.Deep.RegionHeld3
import Derived.Deep.RegionWith
import Derived.Deep.DeepMust
import Derived.Deep.DeepFit
import Derived.Test.YtcejjdmnlejbaaaGreatDoorRows
namespace Go.Proofs.YtcejjdmnlejbaaaGreatDoor
open Lib(hid)
set_option linter.unusedVariables false
set_option linter.unusedSimpArgs false
open Go.ChangeShapes Go.WideShapes Go.ChangeAt Go.RowKit
open Go.Deep (BT)
set_option maxHeartbeats 2000000
set_option maxRecDepth 100000
section
open Go Go.RowKit
namespace Nam
def lowB(c:UInt8):Bool:=decide (97≤c.toNat∧c.toNat≤122)
def digB(c:UInt8):Bool:=decide (48≤c.toNat∧c.toNat≤57)
def wordB(c:UInt8):Bool:=decide ((97≤c.toNat∧c.toNat≤122)∨(48≤c.toNat∧c.toNat≤57)∨c.toNat=95)
def isName(l:List UInt8):Bool:=decide (1≤l.length∧l.length≤16∧lowB (l.getD 0 0)=true∧l.all wordB=true)
def words:List (List UInt8):=[[97,110,100],[111,114],[110,111,116],[105,109,112,108,105,101,115],[105,110],[116,111],[116,114,117,101],[102,97,108,115,101],[109,105,110],[109,97,120],[105,102],[116,104,101,110],[101,108,115,101]]
def reserved(l:List UInt8):Bool:=words.any fun x=>l==x
def declName(l:List UInt8):Bool:=isName l && !reserved l
def attr(l:List UInt8):Bool :=
 if Lib.indexByte l 46 = -1 then declName l else isName (l.take (Lib.indexByte l 46).toNat) && isName (l.drop ((Lib.indexByte l 46).toNat+1))
def good(l:List UInt8)(k:Nat):Bool:=(l.take k).all wordB && (decide (k=0) || lowB (l.getD 0 0))
theorem good_zero(l:List UInt8):good l 0=true:=by simp[good]
theorem good_step(l:List UInt8)(k:Nat)(h:k < l.length):good l (k+1)=(good l k && (lowB (l.getD k 0) || (decide (0 < k) && wordB (l.getD k 0)))):=by
 unfold good;have hd:l.getD k 0=l[k]:=by rw[List.getD_eq_getElem?_getD,List.getElem?_eq_getElem h];rfl
 rw[List.take_succ_eq_append_getElem h,List.all_append,hd];cases k with
 | zero =>
   have h0:l.getD 0 0=l[0]:=hd;rw[h0];generalize l[0]=c
   have:(wordB c && lowB c)=lowB c:=by
    rw[Bool.eq_iff_iff,Bool.and_eq_true];simp only[lowB,wordB,decide_eq_true_eq];omega
   simp[this]
 | succ k =>
   simp only[Nat.succ_ne_zero,decide_false,Bool.false_or,List.all_cons,List.all_nil,Bool.and_true,Nat.zero_lt_succ,decide_true,Bool.true_and];generalize lowB (l.getD 0 0)=y;generalize (l.take (k+1)).all wordB=z;generalize l[k+1]=c
   have:(lowB c || wordB c)=wordB c:=by
    rw[Bool.eq_iff_iff,Bool.or_eq_true];simp only[lowB,wordB,decide_eq_true_eq];omega
   rw[this];cases z<;>cases y<;>simp
theorem good_all(l:List UInt8)(h1:1≤l.length)(h2:l.length≤16):good l l.length=isName l:=by
 unfold good isName;rw[List.take_length,Bool.eq_iff_iff];have:l.length≠0:=by omega
 simp[this,h1,h2,and_comm]
theorem good_stop(l:List UInt8)(k:Nat)(h1:k < l.length)(h:good l (k+1)=false):isName l=false:=by
 rw[Bool.eq_false_iff];intro q;unfold isName at q;rw[decide_eq_true_eq] at q;obtain⟨-,-,q3,q4⟩:=q;unfold good at h;rw[q3] at h
 have:(l.take (k+1)).all wordB=true:=by
  rw[List.all_eq_true] at q4 ⊢;exact fun x hx=>q4 x (List.mem_of_mem_take hx)
 rw[this] at h;simp at h
theorem ix_ge(l:List UInt8)(c:UInt8) : -1≤Lib.indexByte l c:=by
 induction l with
 | nil=>simp[Lib.indexByte]
 | cons d l ih =>
   rw[Lib.indexByte]
   split
   ·omega
   ·split<;>omega
theorem ix_none(l:List UInt8)(c:UInt8):Lib.indexByte l c = -1↔∀x∈ l,x≠c:=by
 induction l with
 | nil=>simp[Lib.indexByte]
 | cons b l ih =>
   rw[Lib.indexByte]
   by_cases h:b=c
   ·subst h;simp
   ·have h':(b==c)=false:=by simp[h]
    rw[h'];simp only[Bool.false_eq_true,if_false];have hge:=ix_ge l c
    split
    ·rename_i q;simp at q;simp[h];exact ih.1 q
    ·rename_i q
     simp at q;constructor
     ·intro e;omega
     ·intro e;exact absurd (ih.2 fun x hx=>e x (by simp[hx])) q
theorem ix_some(l:List UInt8)(c:UInt8)(k:Nat):Lib.indexByte l c=k↔(∃r,l=l.take k++c :: r)∧k < l.length∧∀x∈ l.take k,x≠c:=by
 induction l generalizing k with
 | nil=>simp[Lib.indexByte]
 | cons b l ih =>
   rw[Lib.indexByte]
   by_cases h:b=c
   ·subst h;simp only[beq_self_eq_true,if_true];constructor
    ·intro e;have:k=0:=(by omega);subst this;simp
    ·rintro⟨-,-,h3⟩;cases k with
     | zero=>rfl
     | succ k=>exact absurd rfl (h3 b (by simp))
   ·have h':(b==c)=false:=by simp[h]
    rw[h'];simp only[Bool.false_eq_true,if_false];cases k with
    | zero =>
      constructor
      ·intro e
       split at e
       ·omega
       ·rename_i q;simp at q
        have hge:=ix_ge l c;have:Lib.indexByte l c≠ -1:=q;omega
      ·rintro⟨⟨r,hr⟩,-,-⟩;simp at hr;exact absurd hr.1 h
    | succ k =>
      have:=ih k;constructor
      ·intro e;have e':Lib.indexByte l c=k:=(by split at e<;>omega);obtain⟨⟨r,hr⟩,h2,h3⟩:=this.1 e';refine⟨⟨r,?_⟩,by simp;omega,?_⟩
       ·rw[List.take_succ_cons,List.cons_append,← hr]
       ·intro x hx;rw[List.take_succ_cons] at hx;rcases List.mem_cons.1 hx with rfl|hx
        ·exact h
        ·exact h3 x hx
      ·rintro⟨⟨r,hr⟩,h2,h3⟩;have e':Lib.indexByte l c=k:=this.2 ⟨⟨r,by rw[List.take_succ_cons,List.cons_append] at hr;exact(List.cons.inj hr).2⟩,by simp at h2;omega,fun x hx=>h3 x (by rw[List.take_succ_cons];exact List.mem_cons_of_mem _ hx)⟩;rw[e'];simp
theorem ix_cases(l:List UInt8)(c:UInt8):Lib.indexByte l c = -1∨∃k:Nat,Lib.indexByte l c=k∧k < l.length:=by
 have hge:=ix_ge l c
 by_cases h:Lib.indexByte l c = -1
 ·exact .inl h
 ·obtain ⟨k,hk⟩:=Int.eq_ofNat_of_zero_le (show 0≤Lib.indexByte l c by omega);exact .inr ⟨k,hk,((ix_some l c k).1 hk).2.1⟩
end Nam
def yY(s:ByteArray):Bool:=Nam.isName s.data.toList
def kS(s:ByteArray):Bool:=Nam.reserved s.data.toList
def yJ(s:ByteArray):Bool:=Nam.declName s.data.toList
def zY(s:ByteArray):Bool:=Nam.attr s.data.toList
end
section
open Go.RowKit
structure Nd where
 op:Int
 num:Int
 name:ByteArray
 ptr:Option Addr
 cap:Nat
abbrev Fo:=BT Nd
def len:Fo→Nat
 | .nil=>0
 | .node _ _ _ _ r=>len r+1
def FoAt(w:World):Fo→Nat→Nat→Prop
 | .nil,_,_=>True
 | .node b o a k r,B,O=>(w.cell? ⟨B,O,none⟩=some (.int .i64 a.op)∧w.cell? ⟨B,O+1,none⟩=some (.int .i64 a.num)∧w.cell? ⟨B,O+2,none⟩=some (.string a.name)∧w.cell? ⟨B,O+3,none⟩=some (.slice a.ptr (len k) a.cap))∧
  (k≠.nil→a.ptr=some ⟨b,o,none⟩)∧FoAt w k b o∧FoAt w r B (O+4)
def UA(a:Nd)(n:Nat):Prop:=(-9223372036854775808≤a.op∧a.op≤9223372036854775807)∧(-9223372036854775808≤a.num∧a.num≤9223372036854775807)∧a.name.size≤9223372036854775807∧n≤9223372036854775807
def jV:Fo→Prop
 | .nil=>True
 | .node _ _ a k r=>UA a (len k)∧jV k∧jV r
def ExAt(w:World)(b o:Nat)(a:Nd)(k:Fo):Prop:=(k≠.nil→a.ptr=some ⟨b,o,none⟩)∧FoAt w k b o
def yS(a:Nd)(k:Fo):Prop:=UA a (len k)∧jV k
theorem FoAt.next{w w':World}{T:Fo}{B O:Nat}(h:FoAt w T B O)(hb:Below w.heap.size w w'):FoAt w' T B O:=by
 induction T generalizing B O with
 | nil=>trivial
 | node b o a k r ihk ihr =>
   obtain⟨⟨h0,h1,h2,h3⟩,hp,hk,hr⟩:=h;refine⟨⟨?_,?_,?_,?_⟩,hp,ihk hk,ihr hr⟩
   ·rw[hb.cell (block_lt_of_cell h0)];exact h0
   ·rw[hb.cell (block_lt_of_cell h1)];exact h1
   ·rw[hb.cell (block_lt_of_cell h2)];exact h2
   ·rw[hb.cell (block_lt_of_cell h3)];exact h3
theorem ExAt.next{w w':World}{b o:Nat}{a:Nd}{k:Fo}(h:ExAt w b o a k)(hb:Below w.heap.size w w'):ExAt w' b o a k:=⟨h.1,h.2.next hb⟩
def FoLt(B0:Nat):Fo→Nat→Prop
 | .nil,_=>True
 | .node b _ _ k r,B=>B < B0∧FoLt B0 k b∧FoLt B0 r B
theorem FoAt.lt{w:World}{T:Fo}{B O:Nat}(h:FoAt w T B O):FoLt w.heap.size T B:=by
 induction T generalizing B O with
 | nil=>trivial
 | node b o a k r ihk ihr =>
   obtain⟨⟨h0,h1,h2,h3⟩,hp,hk,hr⟩:=h;exact⟨block_lt_of_cell h0,ihk hk,ihr hr⟩
theorem FoLt.mono{B0 B1:Nat}{T:Fo}{B:Nat}(h:FoLt B0 T B)(hb:B0≤B1):FoLt B1 T B:=by
 induction T generalizing B with
 | nil=>trivial
 | node b o a k r ihk ihr=>exact⟨Nat.lt_of_lt_of_le h.1 hb,ihk h.2.1,ihr h.2.2⟩
theorem FoAt.below{w w':World}{T:Fo}{B O B0:Nat}(h:FoAt w T B O)(hl:FoLt B0 T B)(hb:Below B0 w w'):FoAt w' T B O:=by
 induction T generalizing B O with
 | nil=>trivial
 | node b o a k r ihk ihr =>
   obtain⟨⟨h0,h1,h2,h3⟩,hp,hk,hr⟩:=h;obtain⟨l0,lk,lr⟩:=hl;refine⟨⟨?_,?_,?_,?_⟩,hp,ihk hk lk,ihr hr lr⟩
   ·rw[hb.cell (p:=⟨B,O,none⟩) l0];exact h0
   ·rw[hb.cell (p:=⟨B,O+1,none⟩) l0];exact h1
   ·rw[hb.cell (p:=⟨B,O+2,none⟩) l0];exact h2
   ·rw[hb.cell (p:=⟨B,O+3,none⟩) l0];exact h3
def vo(P:Nat→Nat→Nd→Fo→Prop):Fo→Prop
 | .nil=>True
 | .node b o a k r=>P b o a k∧vo P r
theorem KF{P:Nat→Nat→Nd→Fo→Prop}(h:∀b o a k,vo P k→P b o a k):∀T:Fo,vo P T:=by
 intro T
 induction T with
 | nil=>trivial
 | node b o a k r ihk ihr=>exact⟨h b o a k ihk,ihr⟩
theorem kz{P:Nat→Nat→Nd→Fo→Prop}(h:∀b o a k,vo P k→P b o a k)(b o:Nat)(a:Nd)(k:Fo):P b o a k:=h b o a k (KF h k)
theorem FoLt.tail{B0:Nat}{T:Fo}{b o:Nat}{a:Nd}{k r:Fo}{B:Nat}(h:FoLt B0 (.node b o a k r) B):FoLt B0 k b∧FoLt B0 r B:=h.2
end
section
open Go.RowKit
def sz:Fo→Nat
 | .nil=>0
 | .node _ _ _ k r=>1+sz k+sz r
def dp:Fo→Nat
 | .nil=>0
 | .node _ _ _ k r=>max (1+dp k) (dp r)
theorem YK(T:Fo):len T≤sz T:=by
 induction T with
 | nil=>simp[len,sz]
 | node b o a k r ihk ihr=>simp only[len,sz];omega
def fitB(n lv:Int)(k:Fo):Bool:=decide (n+1+sz k≤200∧lv+dp k≤16)
def jM(op n:Int):Bool :=
 if 1≤op∧op≤6 then decide (n=0) else if op=7∨op=19 then decide (n=1) else if op=12∨op=13 then decide (2≤n) else if op=14∨op=15 then decide (n=3) else decide (n=2)
def jy(op num:Int):Bool :=
 if op=1∨op=2 then decide (0≤num∧num≤1099511627776) else if op=3 then decide (0≤num∧num≤1439) else decide (num=0)
def jh(op:Int)(name:ByteArray):Bool:=if op=6 then zY name else decide (name.size=0)
def jN(a:Nd)(n:Int):Bool:=decide (1≤a.op∧a.op≤22) && jM a.op n && jy a.op a.num && jh a.op a.name
def jO:Fo→Bool
 | .nil=>true
 | .node _ _ a k r=>(jN a (len k) && jO k) && jO r
def yF(a:Nd)(k:Fo):Int:=if fitB 0 1 k=true then (if (jN a (len k) && jO k)=true then 0 else 1) else 10
end
section
theorem qh{k:IntKind}{a b:Int}(h:a=b):Ending.returned (.int k a)=.returned (.int k b):=by rw[h]
theorem qr{a b:Bool}(h:a=b):Ending.returned (.bool a)=.returned (.bool b):=by rw[h]
theorem Jp{k j:IntKind}{a b c d:Int}(h:a=b)(h':c=d):Ending.returned (.tuple #[.int k a,.int j c])=.returned (.tuple #[.int k b,.int j d]):=by rw[h,h']
end
section
theorem jm(w:World)(row:Option Nat):w.grownBy w row:=⟨rfl,rfl,rfl,Nat.le_refl _,fun _ _ _=>rfl⟩
theorem zO{a b c:World}{row:Option Nat}(h:a.grownBy b row)(g:b.grownBy c row):a.grownBy c row :=
 ⟨g.os.trans h.os,g.tape.trans h.tape,g.output.trans h.output,Nat.le_trans h.size g.size,fun k hk hr=>(g.block k (Nat.lt_of_lt_of_le hk h.size) hr).trans (h.block k hk hr)⟩
theorem jU{a b:World}{row:Option Nat}(h:a.grownBy b row)(o:Obj):a.grownBy (b.alloc o) row:=zO h (World.grownBy_alloc _ _ _)
theorem yR{a b:World}{p:Addr}(h:a.grownBy b (some p.block))(u:Value):a.grownBy (b.setCell p u) (some p.block) :=
 zO h ⟨rfl,rfl,rfl,by simp[World.setCell],fun k hk hr=>Below.heap_setCell _ _ _ _ (fun e=>hr (by rw[e]))⟩
theorem Kv{a b:World}{row:Option Nat}(h:a.grownBy b row):a.grownBy b.drew row:=⟨h.os,h.tape,h.output,h.size,h.block⟩
theorem yT{a b:World}(h:Below a.heap.size a b)(row:Option Nat):a.grownBy b row:=⟨h.os,h.tape,h.output,h.size,fun k hk _=>h.block k hk⟩
theorem FoAt.grown{w w':World}{T:Fo}{B O nb:Nat}(h:FoAt w T B O)(hl:FoLt nb T B)(hg:w.grownBy w' (some nb)):FoAt w' T B O:=by
 induction T generalizing B O with
 | nil=>trivial
 | node b o a k r ihk ihr =>
   obtain⟨⟨h0,h1,h2,h3⟩,hp,hk,hr⟩:=h;obtain⟨l0,lk,lr⟩:=hl;have hne:some B≠some nb:=(by simp;omega);exact⟨⟨hg.cell h0 hne,hg.cell h1 hne,hg.cell h2 hne,hg.cell h3 hne⟩,hp,ihk hk lk,ihr hr lr⟩
def KG(w:World)(nb:Nat)(n lv:Int)(k:Fo)(e:Ending)(w':World):Prop :=
 e=.returned (.bool (fitB n lv k))∧(fitB n lv k=true→w'.cell? ⟨nb,0,none⟩=some (.int .i64 (n+1+sz k)))∧w'.frozen? ⟨nb,0,none⟩=false∧w.grownBy w' (some nb)
def UD(b o:Nat)(a:Nd)(k:Fo):Prop:=∀(w:World)(nb:Nat)(n lv:Int),ExAt w b o a k→yS a k→FoLt nb k b→w.cell? ⟨nb,0,none⟩=some (.int .i64 n)→w.frozen? ⟨nb,0,none⟩=false→0≤n→n≤200→1≤lv→lv≤17→
 Calls Tryz.prog 31 #[.agg #[.int .i64 a.op,.int .i64 a.num,.string a.name,.slice a.ptr (len k) a.cap],.int .i64 lv,.pointer (some ⟨nb,0,none⟩)] w (KG w nb n lv k)
theorem JI(n lv m:Int)(k k1 r1:Fo)(b1 o1:Nat)(a1:Nd)(h:fitB n lv k=decide (m+sz (BT.node b1 o1 a1 k1 r1)≤200∧lv+dp (BT.node b1 o1 a1 k1 r1)≤16)) :
 (fitB m (lv+1) k1=false→fitB n lv k=false)∧(fitB m (lv+1) k1=true→fitB n lv k=decide (m+1+sz k1+sz r1≤200∧lv+dp r1≤16)∧m+1+sz k1≤200):=by
 have e1:sz (BT.node b1 o1 a1 k1 r1)=1+sz k1+sz r1:=rfl;have e2:dp (BT.node b1 o1 a1 k1 r1)=max (1+dp k1) (dp r1):=rfl;rw[h,e1,e2];unfold fitB;constructor
 ·intro q;rw[decide_eq_false_iff_not] at q ⊢;omega
 ·intro q;rw[decide_eq_true_eq] at q;refine⟨?_,by omega⟩;rw[Bool.eq_iff_iff,decide_eq_true_eq,decide_eq_true_eq];omega
theorem JH(b o:Nat)(a:Nd)(k:Fo):UD b o a k:=by
 refine kz (P:=UD) ?_ b o a k;clear b o a k;intro b o a k ih w nb n lv hx hok qN hc hf h0 h1 h2 h3;have IH:=hid ih;have HX:=hid hx;have HOK:=hid hok;have HL:=hid qN;clear ih hx hok qN;have hk:len k≤9223372036854775807:=HOK.out.1.2.2.2;have hnb:=block_lt_of_cell hc;simp at hnb;obtain⟨op,num,name,ptr,cap⟩:=a
 show Calls Tryz.prog 31 #[.agg #[.int .i64 op,.int .i64 num,.string name,.slice ptr (len k) cap],.int .i64 lv,.pointer (some ⟨nb,0,none⟩)] w _
 by_cases hn:n+1≤200
 ·by_cases hv:lv≤16
  ·go_enter Tryz.func31,Tryz.ntmps31;go_wp2_with fail
   go_loopw [25] (fun i wr=>∃(j:Nat) (r:Fo) (m:Int),i=.int .i64 j∧wr.cell? ⟨nb,0,none⟩=some (.int .i64 m)∧wr.frozen? ⟨nb,0,none⟩=false∧0≤m∧m≤200∧nb < wr.heap.size∧
    Hid (j+len r=len k∧FoAt wr r b (o+j * 4)∧jV r∧vo UD r∧FoLt nb r b∧w.grownBy wr (some nb)∧fitB n lv k=decide (m+sz r≤200∧lv+dp r≤16)∧m+sz r=n+1+sz k)) (fun i _=>len k - (intOf i).toNat)
   case atStart =>
    have G:w.grownBy ((w.setCell ⟨nb,0,none⟩ (.int .i64 (n+1))).alloc (.cells #[.int .i64 op,.int .i64 num,.string name,.slice ptr (len k) cap] 24)) (some nb):=jU (yR (p:=⟨nb,0,none⟩) (jm _ _) _) _;refine⟨0,k,n+1,rfl,by simp[go_sem,hc,hnb],by simp[go_sem,hf,hnb],by omega,by omega,by simp;omega,by omega,?_,HOK.out.2,IH.out,HL.out,G,?_,rfl⟩
    ·rw [Nat.zero_mul,Nat.add_zero];exact HX.out.2.grown HL.out G
    ·rfl
   case round =>
    obtain⟨j,r,m,rfl,hcm,hfm,hm0,hm1,hnr,HR⟩:=hrel;cases r with
    | nil =>
      have hj:¬(j:Int) < (len k:Int):=(by have:=HR.out.1;simp[len] at this;omega);go_wp2;go_ret;obtain⟨-,-,-,-,-,q1,q2,q3⟩:=HR.out;have q4:fitB n lv k=true:=(by rw[q2];simp[sz,dp];omega);have q5:m=n+1+sz k:=(by simp[sz] at q3;omega);exact⟨qr q4.symm,fun _=>by rw[hcm,q5],hfm,q1⟩
    | node b1 o1 a1 k1 r1 =>
      have hj:j < len k:=(by have:=HR.out.1;simp[len] at this;omega);obtain rfl:ptr=some ⟨b,o,none⟩:=HX.out.1 (by rintro rfl;simp[len] at hj);obtain⟨⟨c0,c1,c2,c3⟩,hp1,hk1,hr1⟩:=HR.out.2.1;have X1:Hid (ExAt wr b1 o1 a1 k1):=⟨hp1,hk1⟩;have N1:=hid hr1;clear hp1 hk1 hr1;have hj1:(j:Int) < (len k:Int):=(by omega);have hbw:=block_lt_of_cell c0;simp at hbw;have hst:=JI n lv m k k1 r1 b1 o1 a1 HR.out.2.2.2.2.2.2.1;have ST:=hid hst;clear hst;go_wp2_with fail;have X2:ExAt (wr.alloc (.cells #[.int .i64 a1.op,.int .i64 a1.num,.string a1.name,.slice a1.ptr (len k1) a1.cap] 24)) b1 o1 a1 k1:=X1.out.next ((Below.refl _ _).alloc (Nat.le_refl _) _)
      have hcm':(wr.alloc (.cells #[.int .i64 a1.op,.int .i64 a1.num,.string a1.name,.slice a1.ptr (len k1) a1.cap] 24)).cell? ⟨nb,0,none⟩=some (.int .i64 m):=(by simp[go_sem,hcm,hnr]);have hfm':(wr.alloc (.cells #[.int .i64 a1.op,.int .i64 a1.num,.string a1.name,.slice a1.ptr (len k1) a1.cap] 24)).frozen? ⟨nb,0,none⟩=false:=(by simp[go_sem,hfm,hnr]);refine(HR.out.2.2.2.1.1 _ nb m (lv+1) X2 ⟨HR.out.2.2.1.1,HR.out.2.2.1.2.1⟩ HR.out.2.2.2.2.1.2.1 hcm' hfm' hm0 hm1 (by omega) (by omega)).mono ?_;clear hcm' hfm' X2;rintro e w1 ⟨he,hcell,hf1,hg1⟩;cases hfit:fitB m (lv+1) k1
      ·rw [hfit] at he;subst he;have ff:=ST.out.1 hfit;have FF:=hid ff;clear ff hfit hcell;have G1:=hid (zO (jU HR.out.2.2.2.2.2.1 _) hg1);clear hg1 c0 c1 c2 c3;go_wp2;go_ret;exact⟨qr FF.out.symm,fun q=>by(rw[FF.out] at q;cases q),hf1,G1.out⟩
      ·have hcell':=hcell hfit;rw[hfit] at he;subst he;have ff:=ST.out.2 hfit;have FF:=hid ff;have HF:=hid hfit;clear ff hfit;have G1:=hid (zO (jU HR.out.2.2.2.2.2.1 _) hg1);have N2:=hid ((N1.out.next ((Below.refl _ _).alloc (Nat.le_refl _) (.cells #[.int .i64 a1.op,.int .i64 a1.num,.string a1.name,.slice a1.ptr (len k1) a1.cap] 24))).grown HR.out.2.2.2.2.1.2.2 hg1);have hz:=hg1.size;simp at hz;have hz1:nb < w1.heap.size:=(by omega);clear hg1 c0 c1 c2 c3 hz hcell;go_wp2
       go_roundw
       case rel =>
        obtain⟨q1,-,q3,q4,q5,-,-,q8⟩:=HR.out;have z1:=FF.out.2;simp[len] at q1;simp[sz] at q8;refine⟨j+1,r1,m+1+sz k1,by go_num,hcell',hf1,by omega,by omega,hz1,by omega,?_,q3.2.2,q4.2,q5.2.2,G1.out,FF.out.1,by omega⟩;rw[Nat.add_mul,Nat.one_mul,← Nat.add_assoc];exact N2.out
       case measure=>simp[intOf];omega
  ·have F:Hid (fitB n lv k=false):=by unfold Hid fitB;simp;omega
   go_enter Tryz.func31,Tryz.ntmps31;go_wp2;go_ret;exact⟨qr F.out.symm,fun q=>by(rw[F.out] at q;cases q),by simp[go_sem,hf,hnb],jU (yR (p:=⟨nb,0,none⟩) (jm _ _) _) _⟩
 ·have F:Hid (fitB n lv k=false):=by unfold Hid fitB;simp;omega
  go_enter Tryz.func31,Tryz.ntmps31;go_wp2;go_ret;exact⟨qr F.out.symm,fun q=>by(rw[F.out] at q;cases q),by simp[go_sem,hf,hnb],jU (yR (p:=⟨nb,0,none⟩) (jm _ _) _) _⟩
end
end Go.Proofs.YtcejjdmnlejbaaaGreatDoor
