import Derived.Test.YtcejjdmnlejbaaaGreatDoorQFpr
namespace Go.Proofs.YtcejjdmnlejbaaaGreatDoor
set_option linter.unusedVariables false
set_option linter.unusedSimpArgs false
open Go.ChangeShapes Go.WideShapes Go.ChangeAt Go.RowKit
open Go.Deep (BT)
theorem rl_ends {k:Fo} {A:List Ch} {b1 o1:Nat} {a1:Nd} {k1 r1:Fo} {S r:ByteArray} {pre:List UInt8} {j:Nat} (hF:∀ c ∈ Fp.kl k,Fp.Fst (Fp.F c)) (hA:A.length=j) (hk:Fp.kl k=A++Fp.kl (.node b1 o1 a1 k1 r1))
 (hS:S.data.toList=pre++Fp.tJ' A) (hr:Fp.tB (Fp.F ⟨b1,o1,a1,k1⟩)=r):(A++[(⟨b1,o1,a1,k1⟩:Ch)]).length=j+1∧Fp.kl k=(A++[(⟨b1,o1,a1,k1⟩:Ch)])++Fp.kl r1 ∧
   (j=0→(S++r).data.toList=pre++Fp.tJ' (A++[⟨b1,o1,a1,k1⟩]))∧(0 < j→(S++⟨#[44,32]⟩++r).data.toList=pre++Fp.tJ' (A++[⟨b1,o1,a1,k1⟩])):=by
 have h1:Fp.Fst (Fp.F ⟨b1,o1,a1,k1⟩):=hF _ (by rw [hk];simp [Fp.kl])
 refine ⟨by simp [hA],by rw [hk];simp [Fp.kl],fun h0=>?_,fun h0=>?_⟩
 · have e:A=[]:=List.length_eq_zero_iff.1 (by omega)
   subst e
   rw [app_list,hS,← hr]
   show (pre++[])++_=_
   rw [List.append_nil];rfl
 · rw [Fp.tJ_snoc A _ (fun c hc=>hF c (by rw [hk];exact List.mem_append_left _ hc)) h1 (fun e=>by rw [e] at hA;simp at hA;omega),app_list,app_list,hS,← hr]
   simp only [List.append_assoc]
   rfl
set_option maxHeartbeats 4000000 in
set_option maxRecDepth 100000 in
theorem rlist (b o:Nat) (op num:Int) (name:ByteArray) (ptr:Option Addr) (cap:Nat) (k:Fo) (ih:AllT rtxtC k) (h:op=12∨op=13) (h2:2≤len k):rtxtC b o ⟨op,num,name,ptr,cap⟩ k:=by
 intro w ht hx hok hw hs
 have hfs:=Fp.fst_kl (c:=⟨b,o,⟨op,num,name,ptr,cap⟩,k⟩) hw
 have hwT:wfT k=true:=by rw [Bool.and_eq_true] at hw;exact hw.2
 have hkn:k≠.nil:=by rintro rfl;simp [len] at h2
 obtain rfl:ptr=some ⟨b,o,none⟩:=hx.1 hkn
 have hl9:len k≤199:=Nat.le_trans (len_le_sz k) hs
 have HX:=Lib.hid hx.2
 have HT:=Lib.hid ht
 have HF:=Lib.hid hfs
 have IH:=Lib.hid ih
 have HOK:=Lib.hid hok.2
 have HW:=Lib.hid hwT
 have HS:=Lib.hid hs
 have EQ:Hid (∀ S:ByteArray,S.data.toList=(if op=12 then [109,105,110,40] else [109,97,120,40])++Fp.tJ' (Fp.kl k)→S++⟨#[41]⟩=Fp.tB (Fp.F ⟨b,o,⟨op,num,name,some ⟨b,o,none⟩,cap⟩,k⟩)):=fun S hS=>by
  apply Fp.ba_eq
  rw [app_list,hS]
  rcases h with rfl|rfl
  · refine Eq.trans ?_ (Fp.b12 ⟨b,o,⟨12,num,name,some ⟨b,o,none⟩,cap⟩,k⟩ rfl).symm
    rw [if_pos rfl,List.append_assoc]
  · refine Eq.trans ?_ (Fp.b13 ⟨b,o,⟨13,num,name,some ⟨b,o,none⟩,cap⟩,k⟩ rfl).symm
    rw [if_neg (by decide),List.append_assoc]
 clear hfs hwT hkn hx hok hw hs ht ih h2
 show Calls Tryz.prog 29 #[.agg #[.int .i64 op,.int .i64 num,.string name,.slice (some ⟨b,o,none⟩) (len k) cap]] w _
 obtain ⟨X,hX⟩:∃ X,Fp.tB (Fp.F ⟨b,o,⟨op,num,name,some ⟨b,o,none⟩,cap⟩,k⟩)=X:=⟨_,rfl⟩
 rw [hX] at EQ ⊢
 obtain ⟨pre,hpre⟩:∃ pre:List UInt8,(if op=12 then [109,105,110,40] else [109,97,120,40])=pre:=⟨_,rfl⟩
 rw [hpre] at EQ
 have HP:=Lib.hid hpre
 clear hX hpre
 rcases h with rfl|rfl
 all_goals
  go_enter Tryz.func29,Tryz.ntmps29
  go_wp2_with fail
  go_loopw [3,4] (fun s i wr=>∃ (S:ByteArray) (j:Nat) (r:Fo),s=.string S∧i=.int .i64 j∧S.size≤4+201002 * j∧wr.cell? ⟨w.heap.size,3,none⟩=some (.slice (some ⟨b,o,none⟩) (len k) cap)∧w.heap.size < wr.heap.size ∧
   Hid (j+len r=len k∧FoAt wr r b (o+j * 4)∧FoOk r∧AllT rtxtC r∧Below w.heap.size w wr∧wfT r=true∧sz r≤199∧∃ A,A.length=j∧Fp.kl k=A++Fp.kl r∧S.data.toList=pre++Fp.tJ' A)) (fun _ i _=>len k - (intOf i).toNat)
  case atStart =>
   refine ⟨_,0,k,rfl,rfl,by decide,by simp,by simp,by omega,?_,HOK.out,IH.out,(Below.refl _ _).alloc (Nat.le_refl _) _,HW.out,HS.out,[],rfl,rfl,by rw [← HP.out];rfl⟩
   rw [Nat.zero_mul,Nat.add_zero]
   exact HX.out.next ((Below.refl _ _).alloc (Nat.le_refl _) _)
  case round =>
   obtain ⟨S,j,r,rfl,rfl,hS,hc,hsz,HR⟩:=hrel
   cases r with
   | nil =>
     have hj:¬ (j:Int) < (len k:Int):=by have:=HR.out.1;simp [len] at this;omega
     have hj9:j≤199:=by have:=HR.out.1;simp [len] at this;omega
     have E:Hid (S++⟨#[41]⟩=X):=by
      obtain ⟨-,-,-,-,-,-,-,A,a1,a2,a3⟩:=HR.out
      apply EQ.out
      rw [a3,a2]
      simp [Fp.kl]
     go_wp2
     go_ret
     exact ⟨by rw [E.out];rfl,HR.out.2.2.2.2.1⟩
   | node b1 o1 a1 k1 r1 =>
     have hj:j < len k:=by have:=HR.out.1;simp [len] at this;omega
     obtain ⟨g1,⟨⟨c0,c1,c2,c3⟩,hp1,hk1,hr1⟩,g3,g4,g5,g6,g7,g8⟩:=HR.out
     have g6':=g6
     unfold wfT at g6'
     rw [Bool.and_eq_true] at g6'
     have e7:sz (BT.node b1 o1 a1 k1 r1)=1+sz k1+sz r1:=rfl
     have hq:=tB_sz (b:=b1) (o:=o1) g6'.1 (by omega)
     have X1:Hid (∀ W,Below wr.heap.size wr W→Calls Tryz.prog 29 #[.agg #[.int .i64 a1.op,.int .i64 a1.num,.string a1.name,.slice a1.ptr (len k1) a1.cap]] W fun e w'=>e=.returned (.string (Fp.tB (Fp.F ⟨b1,o1,a1,k1⟩)))∧Below W.heap.size W w') :=
      fun W hb=>g4.1 W (HT.out.next (g5.trans (hb.mono g5.size))) (ExAt.next ⟨hp1,hk1⟩ hb) ⟨g3.1,g3.2.1⟩ g6'.1 (by omega)
     obtain ⟨rr,hrr⟩:∃ rr,Fp.tB (Fp.F ⟨b1,o1,a1,k1⟩)=rr:=⟨_,rfl⟩
     rw [hrr] at hq X1
     have HE:Hid (∃ A,(A.length=j+1∧Fp.kl k=A++Fp.kl r1)∧(j=0→(S++rr).data.toList=pre++Fp.tJ' A)∧(0 < j→(S++⟨#[44,32]⟩++rr).data.toList=pre++Fp.tJ' A)):=by
      obtain ⟨A,q1,q2,q3⟩:=g8
      have q:=rl_ends HF.out q1 q2 q3 hrr
      exact ⟨_,⟨q.1,q.2.1⟩,q.2.2.1,q.2.2.2⟩
     have N1:=Lib.hid (And.intro hr1 (And.intro g3.2.2 (And.intro g4.2 (And.intro g6'.2 (show sz r1≤199 by omega)))))
     have BW:=Lib.hid g5
     have HJ:Hid (j+1+len r1=len k):=by unfold Hid;simp [len] at g1;omega
     have hj9:j≤199:=by omega
     have hj1:(j:Int) < (len k:Int):=by omega
     clear hrr hp1 hk1 hr1 g1 g3 g4 g5 g6 g6' g7 g8 e7 HR
     by_cases h0:j=0
     · have j0:¬ 0 < j:=by omega
       have H0:=Lib.hid h0
       clear h0
       go_wp2_with (go_at_call 29;refine (X1.out _ (by first|exact Below.refl _ _)).mono ?_;rintro e w1 ⟨rfl,hb⟩;have hc':w1.cell? ⟨w.heap.size,3,none⟩=some (.slice (some ⟨b,o,none⟩) (len k) cap):=(hb.cell (p:=⟨w.heap.size,3,none⟩) hsz).trans hc;have hz':w.heap.size < w1.heap.size:=Nat.lt_of_lt_of_le hsz hb.size;have N2:=Lib.hid (N1.out.1.next hb);have B2:=Lib.hid (BW.out.trans (hb.mono BW.out.size));clear hc c0 c1 c2 c3 hb hsz)
       go_roundw
       case rel =>
        obtain ⟨A,⟨q1,q2⟩,q3,q4⟩:=HE.out
        exact ⟨_,j+1,r1,rfl,by go_num,by rw [ByteArray.size_append];omega,hc',hz',HJ.out,by rw [Nat.add_mul,Nat.one_mul,← Nat.add_assoc];exact N2.out,N1.out.2.1,N1.out.2.2.1,B2.out,N1.out.2.2.2.1,N1.out.2.2.2.2,A,q1,q2,q3 H0.out⟩
       case measure=>simp [intOf];omega
     · have j0:0 < j:=by omega
       clear h0
       go_wp2_with (go_at_call 29;refine (X1.out _ (by first|exact Below.refl _ _)).mono ?_;rintro e w1 ⟨rfl,hb⟩;have hc':w1.cell? ⟨w.heap.size,3,none⟩=some (.slice (some ⟨b,o,none⟩) (len k) cap):=(hb.cell (p:=⟨w.heap.size,3,none⟩) hsz).trans hc;have hz':w.heap.size < w1.heap.size:=Nat.lt_of_lt_of_le hsz hb.size;have N2:=Lib.hid (N1.out.1.next hb);have B2:=Lib.hid (BW.out.trans (hb.mono BW.out.size));clear hc c0 c1 c2 c3 hb hsz)
       go_roundw
       case rel =>
        obtain ⟨A,⟨q1,q2⟩,q3,q4⟩:=HE.out
        exact ⟨_,j+1,r1,rfl,by go_num,by rw [ByteArray.size_append,ByteArray.size_append];show S.size+2+rr.size≤_;omega,hc',hz',HJ.out,by rw [Nat.add_mul,Nat.one_mul,← Nat.add_assoc];exact N2.out,N1.out.2.1,N1.out.2.2.1,B2.out,N1.out.2.2.2.1,N1.out.2.2.2.2,A,q1,q2,q4 j0⟩
       case measure=>simp [intOf];omega
theorem rtext_all (b o:Nat) (a:Nd) (k:Fo):rtxtC b o a k:=by
 refine tree_of (P:=rtxtC) ?_ b o a k
 clear b o a k
 intro b o a k ih w ht hx hok hw hs
 obtain ⟨op,num,name,ptr,cap⟩:=a
 rcases Fp.shape ⟨op,num,name,ptr,cap⟩ k hw with ⟨h,rfl⟩|⟨h,b1,o1,a1,k1,rfl⟩|⟨h,h2⟩|⟨h,b1,o1,a1,k1,b2,o2,a2,k2,b3,o3,a3,k3,rfl⟩|⟨h,b1,o1,a1,k1,b2,o2,a2,k2,rfl⟩
 · exact rleaf b o op num name ptr cap w ht hok hw h
 · exact rone b o op num name ptr cap b1 o1 a1 k1 ih.1 h w ht hx hok hw hs
 · exact rlist b o op num name ptr cap k ih h h2 w ht hx hok hw hs
 · rcases h with h|h
   · exact rifc b o op num name ptr cap b1 o1 a1 k1 b2 o2 a2 k2 b3 o3 a3 k3 ih.1 ih.2.1 ih.2.2.1 h w ht hx hok hw hs
   · exact rinc b o op num name ptr cap b1 o1 a1 k1 b2 o2 a2 k2 b3 o3 a3 k3 ih.1 ih.2.1 ih.2.2.1 h w ht hx hok hw hs
 · exact rtwo b o op num name ptr cap b1 o1 a1 k1 b2 o2 a2 k2 ih.1 ih.2.1 h w ht hx hok hw hs
end Go.Proofs.YtcejjdmnlejbaaaGreatDoor
