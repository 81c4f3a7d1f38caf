import Derived.Test.YtcejjdmnlejbaaaGreatDoorBFpw
namespace Go.Proofs.YtcejjdmnlejbaaaGreatDoor
set_option linter.unusedVariables false
set_option linter.unusedSimpArgs false
open Go.ChangeShapes Go.WideShapes Go.ChangeAt Go.RowKit
open Go.Deep (BT)
def sB (D:List ByteArray) (j:Nat):List Value:=(List.range D.length).map fun i=>.string (if i < j then D.getD i ⟨#[]⟩ else ⟨#[]⟩)
theorem sB_get (D:List ByteArray) (j i:Nat) (h:i < D.length):(sB D j)[i]?=some (.string (if i < j then D.getD i ⟨#[]⟩ else ⟨#[]⟩)):=by simp [sB,h]
theorem sB_at (D:List ByteArray) (j i:Nat) (h:i < D.length) (hi:j≤i):(sB D j)[i]?=some (.string ⟨#[]⟩):=by rw [sB_get D j i h,if_neg (by omega)]
theorem sB_set (D:List ByteArray) (j:Nat) (t:ByteArray) (h:D[j]?=some t):(sB D j).set j (.string t)=sB D (j+1):=by
 have hj:=(List.getElem?_eq_some_iff.1 h).1
 apply List.ext_getElem?
 intro i
 by_cases hi:i < D.length
 · rw [List.getElem?_set]
   by_cases hij:j=i
   · subst hij
     rw [if_pos rfl,if_pos (by simp [sB];omega),sB_get D _ _ hi,if_pos (by omega),List.getD_eq_getElem?_getD,h]
     rfl
   · rw [if_neg hij,sB_get D _ _ hi,sB_get D _ _ hi]
     by_cases h1:i < j
     · rw [if_pos h1,if_pos (by omega)]
     · rw [if_neg h1,if_neg (by omega)]
 · rw [List.getElem?_eq_none (by simp [sB];omega),List.getElem?_eq_none (by simp [sB];omega)]
theorem sB_zero (D:List ByteArray):(madeCells #[Value.string ⟨#[]⟩] D.length).toList=sB D 0:=by
 rw [toList_madeCells_one]
 apply List.ext_getElem?
 intro i
 by_cases hi:i < D.length
 · rw [sB_get D 0 i hi,if_neg (by omega)];simp [hi]
 · rw [List.getElem?_eq_none (by simp;omega),List.getElem?_eq_none (by simp [sB];omega)]
theorem sB_all (D:List ByteArray) (i:Nat) (x:ByteArray) (h:D[i]?=some x):(sB D D.length)[i]?=some (.string x):=by
 have hi:=(List.getElem?_eq_some_iff.1 h).1
 rw [sB_get D _ i hi,if_pos hi,List.getD_eq_getElem?_getD,h]
 rfl
def kT (k:Fo):List ByteArray:=(Fp.kl k).map fun c=>Fp.tB (Fp.F c)
theorem cellN {w w':World} {a:Addr} {v:Value} (h:w.cell? a=some v) (hb:Below w.heap.size w w'):w'.cell? a=some v:=by rw [hb.cell (block_lt_of_cell h)];exact h
theorem kT_len (k:Fo):(kT k).length=len k:=by unfold kT;rw [List.length_map,Fp.kl_len]
theorem kT_join (k:Fo) (h:∀ c ∈ Fp.kl k,Fp.Fst (Fp.F c)):Lib.join ((kT k).map (·.data.toList)) [44,32]=Fp.tJ' (Fp.kl k):=by
 rw [← Fp.tJ_join (Fp.kl k) h]
 unfold kT
 rw [List.map_map]
 rfl
set_option maxHeartbeats 4000000 in
set_option maxRecDepth 100000 in
theorem plist (b o:Nat) (op num:Int) (name:ByteArray) (ptr:Option Addr) (cap:Nat) (k:Fo) (ih:AllT ptxtC k) (h:op=12∨op=13) (h2:2≤len k):ptxtC b o ⟨op,num,name,ptr,cap⟩ k:=by
 intro w ht hx hok hw hs
 obtain ⟨i0,hi,hi0,hi1,hi2⟩:=info_parts Tryz.infoST
 have HI2:=Lib.hid hi2
 have hfs:=Fp.fst_kl (c:=⟨b,o,⟨op,num,name,ptr,cap⟩,k⟩) hw
 have hwT:wfT k=true:=by rw [Bool.and_eq_true] at hw;exact hw.2
 have hkn:k≠.nil:=by rintro rfl;simp [len] at h2
 obtain rfl:ptr=some ⟨b,o,none⟩:=hx.1 hkn
 have hl9:len k≤199:=Nat.le_trans (len_le_sz k) hs
 have hSZ:=tB_sz (b:=b) (o:=o) hw hs
 have EQ:Hid (∀ S:ByteArray,S.data.toList=Fp.tJ' (Fp.kl k)→(if op=12 then ⟨#[109,105,110]⟩ else ⟨#[109,97,120]⟩)++⟨#[40]⟩++S++⟨#[41]⟩=Fp.tB (Fp.F ⟨b,o,⟨op,num,name,some ⟨b,o,none⟩,cap⟩,k⟩)):=fun S hS=>by
  apply Fp.ba_eq
  rw [app_list,app_list,app_list,hS]
  rcases h with rfl|rfl
  · refine Eq.trans ?_ (Fp.b12 ⟨b,o,⟨12,num,name,some ⟨b,o,none⟩,cap⟩,k⟩ rfl).symm
    rw [if_pos rfl]
    simp only [List.append_assoc,List.cons_append,List.nil_append]
  · refine Eq.trans ?_ (Fp.b13 ⟨b,o,⟨13,num,name,some ⟨b,o,none⟩,cap⟩,k⟩ rfl).symm
    rw [if_neg (by decide)]
    simp only [List.append_assoc,List.cons_append,List.nil_append]
 have JN:Hid ((⟨(Lib.join ((kT k).map (·.data.toList)) [44,32]).toArray⟩:ByteArray).data.toList=Fp.tJ' (Fp.kl k)):=by
  show (Lib.join ((kT k).map (·.data.toList)) [44,32]).toArray.toList=_
  rw [List.toList_toArray]
  exact kT_join k hfs
 have EJ:=EQ.out _ JN.out
 have JL:(Lib.join ((kT k).map (·.data.toList)) [44,32]).length+5≤201000:=by
  have e:=congrArg ByteArray.size EJ
  rw [ByteArray.size_append,ByteArray.size_append,ByteArray.size_append] at e
  have e1:(⟨#[40]⟩:ByteArray).size=1:=rfl
  have e2:(⟨#[41]⟩:ByteArray).size=1:=rfl
  have e3:(⟨(Lib.join ((kT k).map (·.data.toList)) [44,32]).toArray⟩:ByteArray).size=(Lib.join ((kT k).map (·.data.toList)) [44,32]).length:=by
   show (Lib.join ((kT k).map (·.data.toList)) [44,32]).toArray.size=_
   simp
  have e4:(if op=12 then (⟨#[109,105,110]⟩:ByteArray) else ⟨#[109,97,120]⟩).size=3:=by split<;>rfl
  omega
 have HX:=Lib.hid hx.2
 have HT:=Lib.hid ht
 have IH:=Lib.hid ih
 have HOK:=Lib.hid hok.2
 have HW:=Lib.hid hwT
 have HS:=Lib.hid hs
 have HEJ:=Lib.hid EJ
 clear EJ EQ JN hfs hwT hkn hx hok hw hs ht ih
 have KL:=Lib.hid (kT_len k)
 have B0:Below w.heap.size w (w.alloc (.cells #[.int .i64 op,.int .i64 num,.string name,.slice (some ⟨b,o,none⟩) (len k) cap] 24)):=(Below.refl _ _).alloc (Nat.le_refl _) _
 have p0:(w.alloc (.cells #[.int .i64 op,.int .i64 num,.string name,.slice (some ⟨b,o,none⟩) (len k) cap] 24)).cell? ⟨w.heap.size,0,none⟩=some (.int .i64 op):=by simp [go_sem]
 have p3:(w.alloc (.cells #[.int .i64 op,.int .i64 num,.string name,.slice (some ⟨b,o,none⟩) (len k) cap] 24)).cell? ⟨w.heap.size,3,none⟩=some (.slice (some ⟨b,o,none⟩) (len k) cap):=by simp [go_sem]
 have hz0:w.heap.size < (w.alloc (.cells #[.int .i64 op,.int .i64 num,.string name,.slice (some ⟨b,o,none⟩) (len k) cap] 24)).heap.size:=by simp
 have BW:=Lib.hid B0
 have P0:=Lib.hid p0
 have P3:=Lib.hid p3
 clear B0 p0 p3
 show Calls Tryz.prog 27 #[.agg #[.int .i64 op,.int .i64 num,.string name,.slice (some ⟨b,o,none⟩) (len k) cap]] w _
 obtain ⟨X,hX⟩:∃ X,Fp.tB (Fp.F ⟨b,o,⟨op,num,name,some ⟨b,o,none⟩,cap⟩,k⟩)=X:=⟨_,rfl⟩
 rw [hX] at HEJ hSZ ⊢
 clear hX
 have OP:Hid (∀ W,Calls Tryz.prog 65 #[.int .i64 op] W fun e w'=>e=.returned (.string (if op=12 then ⟨#[109,105,110]⟩ else ⟨#[109,97,120]⟩))∧W=w'):=fun W=>pop_mm op W h
 have hws:(if op=12 then (⟨#[109,105,110]⟩:ByteArray) else ⟨#[109,97,120]⟩).size=3:=by split<;>rfl
 generalize (if op=12 then (⟨#[109,105,110]⟩:ByteArray) else ⟨#[109,97,120]⟩)=ro at *
 have HWS:=Lib.hid hws
 clear hws
 obtain ⟨JS,hJS⟩:∃ JS:ByteArray,(⟨(Lib.join ((kT k).map (·.data.toList)) [44,32]).toArray⟩:ByteArray)=JS:=⟨_,rfl⟩
 rw [hJS] at HEJ
 have HJS:=Lib.hid hJS
 have hjz:JS.size+5≤201000:=by
  rw [← hJS]
  show (Lib.join ((kT k).map (·.data.toList)) [44,32]).toArray.size+5≤_
  simpa using JL
 have HJZ:=Lib.hid hjz
 have HJL:=Lib.hid JL
 clear hJS hjz JL
 have hl64:len k≤9223372036854775807:=by omega
 obtain ⟨OPC,hOPC⟩:∃ P:World→Prop,P=fun W=>W.cell? ⟨w.heap.size,0,none⟩=some (.int .i64 op):=⟨_,rfl⟩
 have OC:=Lib.hid hOPC
 clear hOPC
 rcases h with rfl|rfl
 all_goals
  go_enter Tryz.func27,Tryz.ntmps27
  go_upto_region 20 with (fail)
  generalize w.alloc (.cells #[.int .i64 _,.int .i64 num,.string name,.slice (some ⟨b,o,none⟩) (len k) cap] 24)=w0 at *
  have q3:=P3.out
  go_wp2_with (refine wpList_make_full _ rfl _ _ 73 rfl w0.heap.size 9 i0 (.string ⟨#[]⟩) 1 Tryz.underlying73 hi hi0 hi1 .i64 .i64 _ _ (len k) rfl rfl rfl rfl ?m1 ?m2 ?m3 ?_)
  case m1=>rw [HI2.out];omega
  case m2=>unfold maxLen;omega
  case m3=>exact Nat.le_refl _
  intro w2 hown hg
  have O0:Hid (w2.ownsRow w0.heap.size 9 1 (.slice (some ⟨w0.heap.size,0,none⟩) (len k) (len k)) (len k) (sB (kT k) 0)):=by
   unfold Hid
   rw [← sB_zero (kT k),KL.out];simpa using hown
  have N0:Below w0.heap.size w0 w2:=⟨hg.os,hg.tape,hg.output,hg.size,fun i hi=>hg.block i hi (by simp)⟩
  have B1:=Lib.hid (BW.out.trans (N0.mono BW.out.size))
  have R0:Hid (OPC w2):=by unfold Hid;rw [OC.out];exact cellN P0.out N0
  have r3:w2.cell? ⟨w.heap.size,3,none⟩=some (.slice (some ⟨b,o,none⟩) (len k) cap):=cellN q3 N0
  have hg0:w.heap.size < w0.heap.size:=hz0
  clear hown hg q3 P0 P3 N0 BW hz0
  go_wp2_with fail
  generalize hB:w0.heap.size=g0 at *
  clear hB r3
  go_loopw [4,5,57] (fun _ _ i wr=>∃ (j:Nat) (r:Fo),i=.int .i64 j∧g0 < wr.heap.size ∧
   Hid (j+len r=len k∧FoAt w r b (o+j * 4)∧FoOk r∧AllT ptxtC r∧Below w.heap.size w wr∧wfT r=true∧sz r≤199∧OPC wr∧wr.ownsRow g0 9 1 (.slice (some ⟨g0,0,none⟩) (len k) (len k)) (len k) (sB (kT k) j)∧∃ A,A.length=j∧Fp.kl k=A++Fp.kl r)) (fun _ _ i _=>len k - (intOf i).toNat)
  case atStart =>
   refine ⟨0,k,rfl,(O0.out.lt _ rfl).2,by simp,?_,HOK.out,IH.out,B1.out,HW.out,HS.out,R0.out,O0.out,[],rfl,rfl⟩
   rw [Nat.zero_mul,Nat.add_zero]
   exact HX.out
  case round =>
   obtain ⟨j,r,rfl,hgz,HR⟩:=hrel
   clear O0 B1 R0
   cases r with
   | nil =>
     have hjk:j=len k:=by have:=HR.out.1;simp [len] at this;omega
     have hj:¬ (j:Int) < (len k:Int):=by omega
     obtain ⟨-,-,-,-,g5,-,-,g8,g9,-⟩:=HR.out
     rw [hjk] at g9
     have B5:=Lib.hid g5
     have J := Tryz.strings_Join g0 0 (len k) (kT k) ⟨#[44,32]⟩ wr (fun q x hx=>by
      rw [Nat.zero_add,g9.cellAt q (by have:=(List.getElem?_eq_some_iff.1 hx).1;have:=KL.out;omega)]
      have:=sB_all (kT k) q x hx
      rw [KL.out] at this
      exact this) hgz (by have:=KL.out;omega) (by have:=KL.out;omega) (by
       have:=HJL.out
       show (Lib.join ((kT k).map (·.data.toList)) [44,32]).length≤_
       omega)
     rw [KL.out] at J
     have J2:Hid (Calls Tryz.prog 50 #[.slice (some ⟨g0,0,none⟩) (len k) (len k),.string ⟨#[44,32]⟩] wr fun e w'=>e=.returned (.string JS)∧Below wr.heap.size wr w'):=by
      unfold Hid
      rw [← HJS.out]
      exact J
     have c0:=g8
     rw [OC.out] at c0
     have hws:=HWS.out
     have hjz:=HJZ.out
     clear J HR g5 g8 g9
     go_wp2_with (first
      | (go_at_call 65;refine (OP.out _).mono ?_;rintro e w3 ⟨rfl,rfl⟩)
      | (go_at_call 50;refine J2.out.mono ?_;rintro e w3 ⟨rfl,hb⟩;have B6:=Lib.hid (B5.out.trans (hb.mono B5.out.size));clear hb))
     go_ret
     exact ⟨by rw [← HEJ.out];rfl,B6.out⟩
   | node b1 o1 a1 k1 r1 =>
     have hj:j < len k:=by have:=HR.out.1;simp [len] at this;omega
     have hj':(j:Int) < (len k:Int):=by omega
     have hj0:(0:Int)≤(j:Int):=by omega
     obtain ⟨g1,g2,g3,g4,g5,g6,g7,g8,g9,g10⟩:=HR.out
     obtain ⟨⟨c0,c1,c2,c3⟩,-,-,-⟩:=g2.next g5
     obtain ⟨-,hp1,hk1,hr1⟩:=g2
     have g6':=g6
     unfold wfT at g6'
     rw [Bool.and_eq_true] at g6'
     have e7:sz (BT.node b1 o1 a1 k1 r1)=1+sz k1+sz r1:=rfl
     have B1:Hid (Below w.heap.size w (wr.alloc (.cells #[.int .i64 a1.op,.int .i64 a1.num,.string a1.name,.slice a1.ptr (len k1) a1.cap] 24))):=g5.alloc g5.size _
     have O1:Hid ((wr.alloc (.cells #[.int .i64 a1.op,.int .i64 a1.num,.string a1.name,.slice a1.ptr (len k1) a1.cap] 24)).ownsRow g0 9 1 (.slice (some ⟨g0,0,none⟩) (len k) (len k)) (len k) (sB (kT k) j)):=g9.alloc _
     have hq:=tB_sz (b:=b1) (o:=o1) g6'.1 (by omega)
     have X1:Hid (Calls Tryz.prog 27 #[.agg #[.int .i64 a1.op,.int .i64 a1.num,.string a1.name,.slice a1.ptr (len k1) a1.cap]] (wr.alloc (.cells #[.int .i64 a1.op,.int .i64 a1.num,.string a1.name,.slice a1.ptr (len k1) a1.cap] 24)) fun e w'=>e=.returned (.string (Fp.tB (Fp.F ⟨b1,o1,a1,k1⟩)))∧Below (wr.alloc (.cells #[.int .i64 a1.op,.int .i64 a1.num,.string a1.name,.slice a1.ptr (len k1) a1.cap] 24)).heap.size (wr.alloc (.cells #[.int .i64 a1.op,.int .i64 a1.num,.string a1.name,.slice a1.ptr (len k1) a1.cap] 24)) w') :=
      g4.1 _ (HT.out.next B1.out) (ExAt.next ⟨hp1,hk1⟩ B1.out) ⟨g3.1,g3.2.1⟩ g6'.1 (by omega)
     obtain ⟨A,hA1,hA2⟩:=g10
     have KJ:Hid ((kT k)[j]?=some (Fp.tB (Fp.F ⟨b1,o1,a1,k1⟩))):=by
      unfold Hid kT
      rw [List.getElem?_map,hA2,List.getElem?_append_right (by omega),hA1,Nat.sub_self]
      rfl
     have A2:Hid (∃ A,A.length=j+1∧Fp.kl k=A++Fp.kl r1):=⟨A++[⟨b1,o1,a1,k1⟩],by simp [hA1],by rw [hA2];simp [Fp.kl]⟩
     obtain ⟨rr,hrr⟩:∃ rr,Fp.tB (Fp.F ⟨b1,o1,a1,k1⟩)=rr:=⟨_,rfl⟩
     rw [hrr] at hq X1 KJ
     have N1:=Lib.hid (And.intro hr1 (And.intro g3.2.2 (And.intro g4.2 (And.intro g6'.2 (show sz r1≤199 by omega)))))
     have HJ:Hid (j+1+len r1=len k):=by unfold Hid;simp [len] at g1;omega
     have G8:=Lib.hid g8
     clear hrr hp1 hk1 hr1 g1 g3 g4 g5 g6 g6' g7 g8 g9 hA1 hA2 e7 HR hq
     go_wp2_with fail
     refine X1.out.mono ?_
     rintro e w3 ⟨rfl,hb⟩
     have OWN2:=Lib.hid (own_next O1.out hb)
     have B2:=Lib.hid (B1.out.trans (hb.mono B1.out.size))
     have hz2:wr.heap.size+1≤w3.heap.size:=by have:=hb.size;simpa using this
     have s0:=OWN2.out.cellAt j (by have:=KL.out;simp [sB];omega)
     rw [sB_at _ _ _ (by have:=KL.out;omega) (Nat.le_refl _)] at s0
     have s1:=OWN2.out.frozenAt j
     have OWN3:Hid ((w3.setCell ⟨g0,j,none⟩ (.string rr)).ownsRow g0 9 1 (.slice (some ⟨g0,0,none⟩) (len k) (len k)) (len k) (sB (kT k) (j+1))):=by
      have ST:=(OWN2.out.stored j (.string rr)).1
      rw [sB_set (kT k) j rr KJ.out] at ST
      exact ST
     have B3:Hid (Below w.heap.size w (w3.setCell ⟨g0,j,none⟩ (.string rr))):=B2.out.setCell (p:=⟨g0,j,none⟩) (Nat.le_of_lt hg0) _
     have R3:Hid (OPC (w3.setCell ⟨g0,j,none⟩ (.string rr))):=by
      unfold Hid
      rw [OC.out]
      have q:=G8.out
      rw [OC.out] at q
      dsimp only at q ⊢
      rw [World.cell?_of_block (a:=⟨w.heap.size,0,none⟩) (Below.heap_setCell w3 ⟨g0,j,none⟩ (.string rr) w.heap.size (Nat.ne_of_lt hg0))]
      exact cellN (cellN q ((Below.refl _ _).alloc (Nat.le_refl _) _)) hb
     have hz3:g0 < w3.heap.size:=by omega
     clear hb c0 c1 c2 c3
     go_wp2
     go_roundw
     case rel=>exact ⟨j+1,r1,by go_num,by simpa using hz3,HJ.out,by rw [Nat.add_mul,Nat.one_mul,← Nat.add_assoc];exact N1.out.1,N1.out.2.1,N1.out.2.2.1,B3.out,N1.out.2.2.2.1,N1.out.2.2.2.2,R3.out,OWN3.out,A2.out⟩
     case measure=>simp [intOf];omega
theorem ptext_all (b o:Nat) (a:Nd) (k:Fo):ptxtC b o a k:=by
 refine tree_of (P:=ptxtC) ?_ b o a k
 clear b o a k
 intro b o a k ih w ht hx hok hw hs
 obtain ⟨op,num,name,ptr,cap⟩:=a
 rcases Fp.shape ⟨op,num,name,ptr,cap⟩ k hw with ⟨h,rfl⟩|⟨h,b1,o1,a1,k1,rfl⟩|⟨h,h2⟩|⟨h,b1,o1,a1,k1,b2,o2,a2,k2,b3,o3,a3,k3,rfl⟩|⟨h,b1,o1,a1,k1,b2,o2,a2,k2,rfl⟩
 · exact pleaf b o op num name ptr cap w ht hok hw h
 · exact pone b o op num name ptr cap b1 o1 a1 k1 ih.1 h w ht hx hok hw hs
 · exact plist b o op num name ptr cap k ih h h2 w ht hx hok hw hs
 · rcases h with h|h
   · exact pifc b o op num name ptr cap b1 o1 a1 k1 b2 o2 a2 k2 b3 o3 a3 k3 ih.1 ih.2.1 ih.2.2.1 h w ht hx hok hw hs
   · exact pinc b o op num name ptr cap b1 o1 a1 k1 b2 o2 a2 k2 b3 o3 a3 k3 ih.1 ih.2.1 ih.2.2.1 h w ht hx hok hw hs
 · exact ptwo b o op num name ptr cap b1 o1 a1 k1 b2 o2 a2 k2 ih.1 ih.2.1 h w ht hx hok hw hs
end Go.Proofs.YtcejjdmnlejbaaaGreatDoor
