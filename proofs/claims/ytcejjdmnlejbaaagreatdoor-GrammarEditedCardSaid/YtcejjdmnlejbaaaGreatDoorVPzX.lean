import Derived.Test.YtcejjdmnlejbaaaGreatDoorVTkV
import Derived.Test.YtcejjdmnlejbaaaGreatDoorVPzV
namespace Go.Proofs.YtcejjdmnlejbaaaGreatDoor
open Lib(hid)
set_option linter.unusedVariables false
set_option linter.unusedSimpArgs false
open Go.ChangeShapes Go.WideShapes Go.ChangeAt Go.RowKit
open Go.Deep (BT)
set_option maxHeartbeats 4000000
set_option maxRecDepth 100000
theorem xQ{w w':World}{base:Nat}{e:TypeId}{size:Nat}{v:Value}{n:Nat}{xs:List Value}(h:w.ownsRow base e size v n xs)(hb:Below w.heap.size w w'):w'.ownsRow base e size v n xs :=
 h.kept (row:=none) ⟨hb.os,hb.tape,hb.output,hb.size,fun k hk _=>hb.block k hk⟩ (by cases v.ownBlock<;>simp)
def JW(s:ByteArray)(w:World)(e:Ending)(w':World):Prop:=∃v,e=.returned (.tuple #[v,.int .i64 (Tk.scanT s).2.1,.int .i64 (Tk.scanT s).2.2])∧TkAt w' (Tk.scanT s).1 v∧Below w.heap.size w w'
theorem jP(w:World):TkAt w [] (.slice none 0 0):=⟨none,0,rfl,Nat.zero_le _,Nat.zero_le _,fun q=>absurd rfl q⟩
theorem yW{s:ByteArray}{w w':World}{D:List Tk.T4}{v:Value}{a c:Int}(h:Tk.scanT s=(D,a,c))(ht:TkAt w' D v)(hb:Below w.heap.size w w'):JW s w (.returned (.tuple #[v,.int .i64 a,.int .i64 c])) w':=by
 refine⟨v,?_,?_,hb⟩<;>rw[h];exact ht
theorem Yi(s:ByteArray)(k g:Nat)(h:k+g≤s.size):(s.extract k s.size).extract 0 g=s.extract k (k+g):=by
 apply ByteArray.ext;apply Array.toList_inj.1
 show((s.extract k s.size).extract 0 g).data.toList=(s.extract k (k+g)).data.toList
 rw[ext_list,ext_list,ext_list,List.drop_zero,List.take_of_length_le (l:=s.data.toList) (by rw[qG];exact Nat.le_refl _),List.drop_take,show k+g - k=g by omega]
theorem uI(s:ByteArray)(k:Nat):(s.extract k s.size).data.toList=s.data.toList.drop k:=by
 rw[ext_list,List.take_of_length_le (by rw[qG];exact Nat.le_refl _)]
theorem xZ(s:ByteArray)(k j:Nat)(h:k+j < s.size):(s.data.toList.drop k).getD j 0=s[k+j]:=by
 rw[List.getD_eq_getElem?_getD,List.getElem?_drop,← List.getD_eq_getElem?_getD];exact yo s (k+j) h
theorem uo(s : ByteArray)(w:World)(hs:s.size≤9223372036854775807):Calls Tryz.prog 28 #[.string s] w (JW s w):=by
 obtain⟨i0,hi,hi0,hi1,hi2⟩:=info_parts Tryz.infoTk;go_enter Tryz.func28,Tryz.ntmps28;go_wp2_with fail
 go_loopw [2,5,6,7,8,9] (fun l i _ _ _ _ wr=>∃(vx:Value) (k:Nat) (D:List Tk.T4),vx=l∧i=.int .i64 k∧k≤s.size∧w.heap.size≤wr.heap.size∧D.length≤400∧
  Hid (wr.ownsRow w.heap.size 68 4 vx D.length (jQ D)∧Below w.heap.size w wr∧Tk.scanT s=Tk.scan s (s.size - k) k D)) (fun _ i _ _ _ _ _=>s.size - (intOf i).toNat)
 case atStart=>exact⟨_,0,[],rfl,rfl,by omega,Nat.le_refl _,by simp,World.ownsRow_nil _ _ _ _,Below.refl _ _,rfl⟩
 case round =>
  obtain⟨vx,k,D,rfl,rfl,hk,yD,hD4,HR⟩:=hrel
  by_cases qN:k < s.size
  ·have hi' : (k : Int) < (s.size:Int):=by omega
   have ST:Hid (Tk.scanT s=if s[k].toNat=35 then (D,0,0) else if s[k].toNat=32 then Tk.scan s (s.size - (k+1)) (k+1) D else
    match Tk.tokAt s k with
    | (none,_)=>([],(k:Int),1)
    | (some t,m)=>if D.length=400 then ([],(k:Int),10) else Tk.scan s (s.size - (k+m)) (k+m) (D++[⟨t,k⟩])):=by
    have:=HR.out.2.2.trans (Tk.scan_step s k D qN);rw[yo s k qN] at this;exact this
   by_cases h35:s[k].toNat=35
   ·have b35:((s[k].toNat:Int) != 35)=false:=by simp;omega
    have R:Hid (Tk.scanT s=(D,0,0)):=(by unfold Hid;rw[ST.out,if_pos h35]);clear h35;go_wp2
    go_ret3
    exact yW R.out (j5 HR.out.1 (by omega)) HR.out.2.1
   ·have b35 : ((s[k].toNat:Int) != 35)=true:=by simp;omega
    by_cases h32:s[k].toNat=32
    ·have b32:((s[k].toNat:Int)==32)=true:=by simp;omega
     have R:Hid (Tk.scanT s=Tk.scan s (s.size - (k+1)) (k+1) D):=(by unfold Hid;rw[ST.out,if_neg h35,if_pos h32]);clear h35 h32;go_wp2
     go_roundw
     case rel=>exact⟨_,k+1,D,rfl,by go_num,by omega,yD,hD4,HR.out.1,HR.out.2.1,R.out⟩
     case measure=>simp[intOf];omega
    ·have b32 : ((s[k].toNat:Int)==32)=false:=by simp;omega
     have ST2:=ST.out;rw[if_neg h35,if_neg h32] at ST2;clear ST h35 h32;have ST:=hid ST2;clear ST2;have hwl:=Tk.wl_le (s.data.toList.drop k);rw[List.length_drop,qG] at hwl
     have WS:Hid (∀j,j≤Tk.wl (s.data.toList.drop k)→∀h:k+j < s.size,(Tk.inW s[k+j]=true→j+1≤Tk.wl (s.data.toList.drop k))∧(Tk.inW s[k+j]=false→Tk.wl (s.data.toList.drop k)=j)):=by
      intro j hj h;have:=Tk.wl_step (s.data.toList.drop k) j hj (by rw[List.length_drop,qG];omega);rw[xZ s k j h] at this;exact this
     have WA:Hid (Tk.inW s[k]=true→1≤Tk.wl (s.data.toList.drop k)∧Tk.tokAt s k=(Tk.word (s.extract k (k+Tk.wl (s.data.toList.drop k))),Tk.wl (s.data.toList.drop k))):=by
      intro q;refine⟨(WS.out 0 (Nat.zero_le _) (by omega)).1 q,?_⟩;unfold Tk.tokAt;rw[yo s k qN,if_pos q]
     have WB:Hid (Tk.inW s[k]=false→Tk.wl (s.data.toList.drop k)=0∧Tk.tokAt s k=(if Tk.sgn (s.data.toList.drop k)=0 then none else some ⟨5,s.extract k (k+Tk.sgn (s.data.toList.drop k)),0⟩,Tk.sgn (s.data.toList.drop k))):=by
      intro q;refine⟨(WS.out 0 (Nat.zero_le _) (by omega)).2 q,?_⟩;unfold Tk.tokAt;rw[yo s k qN,if_neg (by rw[q];simp)]
     have BY:=hid (Tk.word_bytes s k);generalize Tk.wl (s.data.toList.drop k)=L at *
     go_upto_block 2 with (fail)
     go_cut [6] (fun e wx=>e=.int .i64 ((k:Int)+(L:Int))∧wx=wr)
     case first =>
      go_wp2_with fail
      go_loop [6] (fun e=>∃j:Nat,e=.int .i64 ((k:Int)+(j:Int))∧k+j≤s.size∧Hid (j≤L)) (fun e=>s.size - (intOf e).toNat)
      case atStart=>exact⟨0,by simp,by omega,Nat.zero_le _⟩
      case round =>
       obtain⟨j,rfl,hj,HJ⟩:=hrel
       by_cases hjl:k+j < s.size
       ·have W2:=hid (WS.out j HJ.out hjl);have hj':((k:Int)+(j:Int)) < (s.size:Int):=(by omega);cases hw:Tk.inW s[k+j] with
        | false =>
          have WL:=hid (W2.out.2 hw);have HW:Hid (jL (s[k+j].toNat:Int)=false):=(by unfold Hid;rw[jW,hw]);clear hw;go_wp2_with (go_at_call 66;refine(xX _ _).mono ?_;rw[HW.out];rintro e w' ⟨rfl,rfl⟩)
          go_meet
          exact⟨by rw[WL.out],rfl⟩
        | true =>
          have WL:=hid (W2.out.1 hw);have HW:Hid (jL (s[k+j].toNat:Int)=true):=(by unfold Hid;rw[jW,hw]);clear hw;go_wp2_with (go_at_call 66;refine(xX _ _).mono ?_;rw[HW.out];rintro e w' ⟨rfl,rfl⟩)
          go_round
          case rel=>exact⟨j+1,by go_num,by omega,WL.out⟩
          case measure=>simp[intOf];omega
       ·have hj':¬((k:Int)+(j:Int)) < (s.size:Int):=by omega
        have WL:Hid (L=j):=(by have:=HJ.out;unfold Hid;omega);go_wp2
        go_meet
        exact⟨by rw[WL.out],rfl⟩
     case rest =>
      obtain⟨rfl,rfl⟩:=hcut;obtain⟨vp,vcap,rfl,hvc,-,-⟩:=j5 HR.out.1 (by omega);cases hw:Tk.inW s[k] with
      | true =>
        obtain⟨hL1,hTK⟩:=WA.out hw;have TK:=hid hTK;clear hTK hw WA WB WS;have hne:(((k:Int)+(L:Int))==(k:Int))=false:=(by simp;omega);have hx9:(s.extract k (k+L)).size≤9223372036854775807:=(by rw[ByteArray.size_extract];omega);go_wp2_with fail;refine(um (s.extract k (k+L)) _ hx9 BY.out).mono ?_;rintro e w1 ⟨⟨t1,t2,t3,rfl,hx⟩,hb⟩;have B1:=hid (HR.out.2.1.trans (hb.mono yD));have hz1:w.heap.size≤w1.heap.size:=B1.out.size;have O1:=hid (xQ HR.out.1 hb);have HX:=hid hx;clear hb hx;cases ho:Tk.word (s.extract k (k+L)) with
        | none =>
          rw[ho] at TK;have R:Hid (Tk.scanT s=([],(k:Int),1)):=(by unfold Hid;rw[ST.out,TK.out]);clear ho HX;rw[show(none:Option Tk.T3).isSome=false from rfl];go_wp2
          go_ret3
          exact yW R.out (jP _) (B1.out.alloc hz1 _)
        | some t =>
          rw[ho] at TK;obtain⟨rfl,rfl,rfl⟩:=HX.out t ho;clear ho HX;rw[show(some t:Option Tk.T3).isSome=true from rfl]
          by_cases h4:D.length=400
          ·have h4':((D.length:Int)==400)=true:=by simp[h4]
           have R:Hid (Tk.scanT s=([],(k:Int),10)):=(by unfold Hid;rw[ST.out,TK.out];dsimp only;rw[if_pos h4]);clear h4;go_wp2
           go_ret3
           exact yW R.out (jP _) (B1.out.alloc hz1 _)
          ·have h4':((D.length:Int)==400)=false:=by simp;omega
           have R:Hid (Tk.scanT s=Tk.scan s (s.size - (k+L)) (k+L) (D++[(⟨t,(k:Int)⟩:Tk.T4)])):=(by unfold Hid;rw[ST.out,TK.out];dsimp only;rw[if_neg h4]);have hD3:D.length < 400:=(by omega);clear h4;go_wp2_with (at_builtin;refine wpList_append_own _ rfl _ _ 56 rfl w.heap.size 68 i0 (.agg #[.int .i64 0,.string ⟨#[]⟩,.int .i64 0,.int .i64 0]) 4 40 Tryz.underlying56 hi hi0 hi1 hi2 rfl (by decide) _ _ _ rfl ((O1.out.alloc _).alloc _) ⟨w1.heap.size+1,0,none⟩ 1 1 [.int .i64 t.kind,.string t.text,.int .i64 t.num,.int .i64 k] rfl rfl ?c1 ?c2 ?c3 ?c4 ?c5 ?_)
           case c1 =>
            intro q u hu
            match q with
            | 0=>simp at hu;subst hu;simp[Addr.add]
            | 1=>simp at hu;subst hu;simp[Addr.add]
            | 2=>simp at hu;subst hu;simp[Addr.add]
            | 3=>simp at hu;subst hu;simp[Addr.add]
            | q+4=>simp at hu
           case c2=>intro u hu;simp at hu;rcases hu with rfl|rfl|rfl|rfl<;>rfl
           case c3=>unfold maxLen;omega
           case c4=>omega
           case c5=>simp;omega
           intro v' w4 qB qe hnil;have B4:Hid (Below w.heap.size w w4):=(((B1.out.alloc hz1 _)).alloc (by simp;omega) (.cells #[.int .i64 t.kind,.string t.text,.int .i64 t.num,.int .i64 k] 68)).grown qe (by simp;omega) (fun m hm=>(O1.out.lt m hm).1)
           have O4:Hid (w4.ownsRow w.heap.size 68 4 v' (D++[(⟨t,(k:Int)⟩:Tk.T4)]).length (jQ (D++[(⟨t,(k:Int)⟩:Tk.T4)]))):=by
            unfold Hid;rw[kA,List.length_append];exact qB
           have hz4:w.heap.size≤w4.heap.size:=B4.out.size;clear qB qe hnil;go_wp2
           go_roundw
           case rel=>exact⟨_,k+L,D++[(⟨t,(k:Int)⟩:Tk.T4)],rfl,by go_num,by omega,hz4,by rw[List.length_append];show D.length+1≤400;omega,O4.out,B4.out,R.out⟩
           case measure=>simp[intOf];omega
      | false =>
        obtain⟨hL1,hTK⟩:=WB.out hw;obtain rfl:L=0:=hL1;have TK:=hid hTK;clear hTK hw WA WB WS
        have BY0:Hid (∀x∈ ByteArray.empty.data.toList,Tk.inW x=true):=by
         intro x hx;have hx':x∈ ([]:List UInt8):=hx;cases hx'
        rw[show((k:Int)+((0:Nat):Int))=(k:Int) by simp];go_wp2_with fail;refine(um ByteArray.empty _ (by decide) BY0.out).mono ?_;rintro e w1 ⟨⟨t1,t2,t3,rfl,hx⟩,hb⟩;have B1:=hid (HR.out.2.1.trans (hb.mono yD));have hz1:w.heap.size≤w1.heap.size:=B1.out.size;have O1:=hid (xQ HR.out.1 hb);clear hb hx;have hg:=Tk.sgn_le (s.data.toList.drop k);rw[List.length_drop,qG] at hg;have hx8:(s.extract k s.size).size≤9223372036854775807:=(by rw[ByteArray.size_extract];omega);go_wp2_with fail;refine(Yp (s.extract k s.size) _ hx8).mono ?_;rw[uI];generalize Tk.sgn (s.data.toList.drop k)=g at *;rw[Yi s k g (by omega)];have hXs:(s.extract k (k+g)).size=g:=(by rw[ByteArray.size_extract];omega);rintro e w2 ⟨rfl,rfl⟩;generalize s.extract k (k+g)=X at *
        by_cases hg0:g=0
        ·have e1:X.toList.isEmpty=true:=by rw[zd,hXs];simp[hg0]
         have e2:(!X.toList.isEmpty)=false:=(by rw[e1];rfl);have R:Hid (Tk.scanT s=([],(k:Int),1)):=(by unfold Hid;rw[ST.out,TK.out,if_pos hg0]);have hXz:X.size≤9223372036854775807:=(by omega);clear hg0 hXs;go_wp2
         go_ret3
         exact yW R.out (jP _) (B1.out.alloc hz1 _)
        ·have e1:X.toList.isEmpty=false:=by rw[zd,hXs];simp[hg0]
         have e2:(!X.toList.isEmpty)=true:=(by rw[e1];rfl);have TK2:Hid (Tk.tokAt s k=(some ⟨5,X,0⟩,g)):=(by unfold Hid;rw[TK.out,if_neg hg0]);clear TK;have TK:=TK2;clear TK2;obtain rfl:g=X.size:=hXs.symm;clear hXs
         by_cases h4:D.length=400
         ·have h4':((D.length:Int)==400)=true:=by simp[h4]
          have R:Hid (Tk.scanT s=([],(k:Int),10)):=(by unfold Hid;rw[ST.out,TK.out];dsimp only;rw[if_pos h4]);clear h4;go_wp2
          go_ret3
          exact yW R.out (jP _) (B1.out.alloc hz1 _)
         ·have h4':((D.length:Int)==400)=false:=by simp;omega
          have R:Hid (Tk.scanT s=Tk.scan s (s.size - (k+X.size)) (k+X.size) (D++[(⟨⟨5,X,0⟩,(k:Int)⟩:Tk.T4)])):=(by unfold Hid;rw[ST.out,TK.out];dsimp only;rw[if_neg h4]);have hD3:D.length < 400:=(by omega);clear h4;go_wp2_with (at_builtin;refine wpList_append_own _ rfl _ _ 56 rfl w.heap.size 68 i0 (.agg #[.int .i64 0,.string ⟨#[]⟩,.int .i64 0,.int .i64 0]) 4 40 Tryz.underlying56 hi hi0 hi1 hi2 rfl (by decide) _ _ _ rfl ((O1.out.alloc _).alloc _) ⟨w1.heap.size+1,0,none⟩ 1 1 [.int .i64 5,.string X,.int .i64 0,.int .i64 k] rfl rfl ?c1 ?c2 ?c3 ?c4 ?c5 ?_)
          case c1 =>
           intro q u hu
           match q with
           | 0=>simp at hu;subst hu;simp[Addr.add]
           | 1=>simp at hu;subst hu;simp[Addr.add]
           | 2=>simp at hu;subst hu;simp[Addr.add]
           | 3=>simp at hu;subst hu;simp[Addr.add]
           | q+4=>simp at hu
          case c2=>intro u hu;simp at hu;rcases hu with rfl|rfl|rfl|rfl<;>rfl
          case c3=>unfold maxLen;omega
          case c4=>omega
          case c5=>simp;omega
          intro v' w4 qB qe hnil;have B4:Hid (Below w.heap.size w w4):=(((B1.out.alloc hz1 _)).alloc (by simp;omega) (.cells #[.int .i64 5,.string X,.int .i64 0,.int .i64 k] 68)).grown qe (by simp;omega) (fun m hm=>(O1.out.lt m hm).1)
          have O4:Hid (w4.ownsRow w.heap.size 68 4 v' (D++[(⟨⟨5,X,0⟩,(k:Int)⟩:Tk.T4)]).length (jQ (D++[(⟨⟨5,X,0⟩,(k:Int)⟩:Tk.T4)]))):=by
           unfold Hid;rw[kA,List.length_append];exact qB
          have hz4:w.heap.size≤w4.heap.size:=B4.out.size;clear qB qe hnil;go_wp2
          go_roundw
          case rel=>exact⟨_,k+X.size,D++[(⟨⟨5,X,0⟩,(k:Int)⟩:Tk.T4)],rfl,by go_num,by omega,hz4,by rw[List.length_append];show D.length+1≤400;omega,O4.out,B4.out,R.out⟩
          case measure=>simp[intOf];omega
  ·have hi':¬(k:Int) < (s.size:Int):=by omega
   have R:Hid (Tk.scanT s=(D,0,0)):=(by unfold Hid;rw[HR.out.2.2];exact Tk.scan_end s k D (by omega));go_wp2
   go_ret3
   exact yW R.out (j5 HR.out.1 (by omega)) HR.out.2.1
namespace Pz
theorem scan_len(s:ByteArray):∀(n i:Nat)(D:List Tk.T4),D.length≤400→(Tk.scan s n i D).1.length≤400:=by
 intro n
 induction n with
 | zero=>intro i D h;exact h
 | succ n ih =>
   intro i D h;rw[Tk.scan]
   by_cases h1:s.size≤i
   ·rw[if_pos h1];exact h
   ·rw [if_neg h1]
    split
    ·exact h
    ·split
     ·exact ih _ _ h
     ·split
      ·simp
      ·rename_i t m hq
       split
       ·simp
       ·rename_i q
        exact ih _ _ (by rw[List.length_append];show D.length+1≤400;omega)
theorem scanT_len(s:ByteArray):(Tk.scanT s).1.length≤400:=scan_len s _ _ _ (by simp)
def atOf(L:List Tk.T4)(s:ByteArray)(j:Nat):Int:=match L[j]? with|some t=>t.at'|none=>s.size
def pxT(s:ByteArray):Ch× Int× Int :=
 if (Tk.scanT s).2.2≠0 then (z0,(Tk.scanT s).2.1,(Tk.scanT s).2.2) else match pv (Tk.scanT s).1 .ex 0 with
  | (some x,j)=>if j < (Tk.scanT s).1.length then (z0,atOf (Tk.scanT s).1 s j,1) else if yF x.a x.k=0 then (x,0,0) else (z0,0,yF x.a x.k)
  | (none,j)=>(z0,atOf (Tk.scanT s).1 s j,1)
theorem nr_z0:nr z0=z0:=rfl
theorem exat_z0(W:World):ExAt W z0.b z0.o z0.a z0.k:=⟨fun h=>absurd rfl h,trivial⟩
end Pz
theorem yH{fn:Func}{p u v:Tmp}{ty:TypeId}(h:fn.results=#[.cell p ty,.tmp u,.tmp v])(tmps:Array Value)(P:Program)(w:World) :
 (results fn tmps).run P w =
   ((asAddr (tmps.getD p undef)).run P w).andThen fun a w₁=>((loadVar ty a).run P w₁).andThen fun x w₂=>.ok (.tuple #[x,tmps.getD u undef,tmps.getD v undef]) w₂:=by
 simp only[results,h];simp[Sem.run_bind,Result.andThen]
def Uz(s:ByteArray)(w:World)(e:Ending)(w':World):Prop:=∃c:Ch,e=.returned (.tuple #[.agg #[.int .i64 c.a.op,.int .i64 c.a.num,.string c.a.name,.slice c.a.ptr (len c.k) c.a.cap],.int .i64 (Pz.pxT s).2.1,.int .i64 (Pz.pxT s).2.2])∧Pz.nr c=(Pz.pxT s).1∧ExAt w' c.b c.o c.a c.k∧Below w.heap.size w w'
theorem KY{w:World}{L:List Tk.T4}{p:Option Addr}{n cap:Nat}(h:TkAt w L (.slice p n cap))(h4:L.length≤400){s:Nat}(hs:w.heap.size≤s):n=L.length∧TkB w L p s:=by
 obtain⟨p',cap',e,h1,h2,h3⟩:=h;injection e with e1 e2 e3
 subst e1 e2;refine⟨rfl,h4,fun q=>?_⟩;obtain⟨g,O,e,hc⟩:=h3 q;refine⟨g,O,e,?_,hc⟩;cases L with
 | nil=>exact absurd rfl q
 | cons t L =>
   have:=hc 0 _ rfl;exact Nat.lt_of_lt_of_le (block_lt_of_cell this) hs
theorem Ja{w0 w1:World}{L:List Tk.T4}{p:Option Addr}{r s:Nat}(hV:∀t∈ L,VT t.t)(ht:TkB w1 L p s)(t:TypeId)(hw:w0.heap[r]?=some (.cells #[.int .i64 0,.int .i64 0,.string ⟨#[]⟩,.slice none 0 0] t (0,0)))(hb:Below w0.heap.size w0 w1){i:Nat}{x:Tk.T4}(hi:L[i]?=some x){g O:Nat}(hp:p=some ⟨g,O,none⟩):g≠r:=by
 rintro rfl;obtain⟨g',O',e,-,c0,-⟩:=ht.get hi;rw[hp] at e;obtain⟨rfl,rfl⟩:g=g'∧O=O':=by injection e with e;injection e with a b;exact⟨a,b⟩
 have hr:g < w0.heap.size:=(Array.getElem?_eq_some_iff.1 hw).1;have h1:w1.heap[g]?=some (.cells #[.int .i64 0,.int .i64 0,.string ⟨#[]⟩,.slice none 0 0] t (0,0)):=by rw[hb.block g hr];exact hw
 have hk:x.t.kind≠0:=by
  rcases uM (hV x (List.mem_of_getElem? hi)) with ⟨h,-⟩|⟨h,-⟩|⟨h,-⟩|⟨h,-⟩|⟨h,-⟩<;>omega
 have h2:w1.cell? ⟨g,O+i * 4,none⟩=(#[Value.int .i64 0,.int .i64 0,.string ⟨#[]⟩,.slice none 0 0]:Array Value)[O+i * 4]?:=by simp[World.cell?,h1]
 rw[h2] at c0;generalize O+i * 4=m at c0
 match m with
 | 0=>simp at c0;exact hk c0.symm
 | 1=>simp at c0;exact hk c0.symm
 | 2=>simp at c0
 | 3=>simp at c0
 | m+4=>simp at c0
theorem Qt(s:ByteArray)(w:World)(hs:s.size≤9223372036854775807):Calls Tryz.prog 14 #[.string s] w (Uz s w):=by
 go_enter Tryz.func14,Tryz.ntmps14;go_wp2_with fail;have B0:Hid (Below w.heap.size w (w.alloc (.cells #[.int .i64 0,.int .i64 0,.string ⟨#[]⟩,.slice none 0 0] 24))):=(Below.refl _ _).alloc (Nat.le_refl _) _;have R0:Hid (Pz.B4 (w.alloc (.cells #[.int .i64 0,.int .i64 0,.string ⟨#[]⟩,.slice none 0 0] 24)) w.heap.size Pz.z0):=Pz.b4_alloc w Pz.z0 _ rfl _;have Q0:Hid ((w.alloc (.cells #[.int .i64 0,.int .i64 0,.string ⟨#[]⟩,.slice none 0 0] 24)).heap[w.heap.size]?=some (.cells #[.int .i64 0,.int .i64 0,.string ⟨#[]⟩,.slice none 0 0] 24 (0,0))):=heap_alloc_new w _;generalize w.alloc (.cells #[.int .i64 0,.int .i64 0,.string ⟨#[]⟩,.slice none 0 0] 24)=w0 at *;refine(uo s w0 hs).mono ?_;rintro e w1 ⟨v,rfl,ht,hb⟩;have PX:Hid (Pz.pxT s=Pz.pxT s):=rfl
 have PX2:Hid (Pz.pxT s=if (Tk.scanT s).2.2≠0 then (Pz.z0,(Tk.scanT s).2.1,(Tk.scanT s).2.2) else match Pz.pv (Tk.scanT s).1 .ex 0 with
  | (some x,j)=>if j < (Tk.scanT s).1.length then (Pz.z0,Pz.atOf (Tk.scanT s).1 s j,1) else if yF x.a x.k=0 then (x,0,0) else (Pz.z0,0,yF x.a x.k)
  | (none,j)=>(Pz.z0,Pz.atOf (Tk.scanT s).1 s j,1)):=rfl
 have HV:=hid (jR s);have HL:=hid (Pz.scanT_len s);clear PX;generalize Tk.scanT s=r at *;obtain⟨L,at0,er⟩:=r;dsimp only at ht PX2 HV HL;obtain⟨p,cap,rfl,-,-,-⟩:=(show ∃p cap,v=.slice p L.length cap∧True∧True∧True from by obtain⟨p,cap,h,-⟩:=ht;exact⟨p,cap,h,trivial,trivial,trivial⟩);have TB:=hid (KY ht HL.out (Nat.le_refl _)).2;have B1:=hid (B0.out.trans (hb.mono B0.out.size));have R1:=hid (R0.out.next hb);have APT:Hid (∀i x g O,L[i]?=some x→p=some ⟨g,O,none⟩→g≠w.heap.size):=fun i x g O hi hp=>Ja HV.out TB.out _ Q0.out hb hi hp;clear ht hb R0 Q0 B0;have hL4:L.length≤400:=HL.out;dsimp only
 by_cases her:er=0
 ·subst her
  have PX3:Hid (Pz.pxT s=match Pz.pv L .ex 0 with
   | (some x,j)=>if j < L.length then (Pz.z0,Pz.atOf L s j,1) else if yF x.a x.k=0 then (x,0,0) else (Pz.z0,0,yF x.a x.k)
   | (none,j)=>(Pz.z0,Pz.atOf L s j,1)):=by unfold Hid;rw[PX2.out,if_neg (by simp)]
  clear PX2;go_wp2_with fail
  have S2:Hid (PSt (w1.alloc (.cells #[.slice p L.length cap,.int .i64 0] 64)) w1.heap.size L p cap 0) :=
   ⟨by simp[go_sem],by simp[go_sem],by simp[go_sem],by simp,TB.out.below ((Below.refl _ _).alloc (Nat.le_refl _) _) (Nat.le_refl _),Nat.zero_le _⟩
  have B2:Hid (Below w.heap.size w (w1.alloc (.cells #[.slice p L.length cap,.int .i64 0] 64))):=B1.out.alloc B1.out.size _;have R2:=hid (R1.out.next ((Below.refl w1.heap.size w1).alloc (Nat.le_refl _) (.cells #[.slice p L.length cap,.int .i64 0] 64)));have hz2:(w1.alloc (.cells #[.slice p L.length cap,.int .i64 0] 64)).heap.size=w1.heap.size+1:=World.size_alloc _ _;generalize w1.alloc (.cells #[.slice p L.length cap,.int .i64 0] 64)=w2 at *;obtain⟨sb,hsb⟩:∃sb,w1.heap.size=sb:=⟨_,rfl⟩;have hrl:w.heap.size < w1.heap.size:=R1.out.lt;have hsw:w.heap.size≤w1.heap.size:=B1.out.size;rw[hsb] at S2 hz2 hrl hsw;rw[hsb];clear hsb B1 R1 TB;refine(xi L HV.out 0 (Nat.zero_le _) sb p cap w2 S2.out).mono ?_;rintro e w3 ⟨c,rfl,hf⟩;have GX:Hid (∀x j,Pz.pv L .ex 0=(some x,j)→Pz.Gd x):=fun x j h=>Pz.ex_good HV.out HL.out h;generalize Pz.pv L .ex 0=r0 at *;obtain⟨o,j⟩:=r0;have S3:=hid hf.2.1;have F3:=hid hf.1;have G3:=hid hf.2.2;have R3:=hid (R2.out.grown hf.2.2 (by simp;omega));have B3:Hid (Below w.heap.size w w3):=B2.out.trans (Pz.below_of_gb G3.out hsw (by omega));clear hf B2 R2 S2;have hjl:=S3.out.le;dsimp only at hjl;have nsr:sb≠w.heap.size:=(by omega);have nrs:w.heap.size≠sb:=(by omega);have hj0:(0:Int)≤(j:Int):=(by omega);obtain⟨r0,r1,r2,r3,f0,f1,f2,f3,rl⟩:=R3.out;dsimp only[Pz.z0,len] at r0 r1 r2 r3 f0 f1 f2 f3 rl;have G4:Hid (w3.grownBy (((((w3.setCell ⟨w.heap.size,0,none⟩ (.int .i64 c.a.op)).setCell ⟨w.heap.size,1,none⟩ (.int .i64 c.a.num)).setCell ⟨w.heap.size,2,none⟩ (.string c.a.name)).setCell ⟨w.heap.size,3,none⟩ (.slice c.a.ptr (len c.k) c.a.cap))) (some w.heap.size)):=Pz.gb_four _ _ _ _ _ _;have R4:Hid (Pz.B4 (((((w3.setCell ⟨w.heap.size,0,none⟩ (.int .i64 c.a.op)).setCell ⟨w.heap.size,1,none⟩ (.int .i64 c.a.num)).setCell ⟨w.heap.size,2,none⟩ (.string c.a.name)).setCell ⟨w.heap.size,3,none⟩ (.slice c.a.ptr (len c.k) c.a.cap))) w.heap.size c):=Pz.b4_four R3.out.fr c;have B4:Hid (Below w.heap.size w (((((w3.setCell ⟨w.heap.size,0,none⟩ (.int .i64 c.a.op)).setCell ⟨w.heap.size,1,none⟩ (.int .i64 c.a.num)).setCell ⟨w.heap.size,2,none⟩ (.string c.a.name)).setCell ⟨w.heap.size,3,none⟩ (.slice c.a.ptr (len c.k) c.a.cap)))):=B3.out.trans (Pz.below_of_gb G4.out (Nat.le_refl _) R3.out.lt);dsimp only;go_upto_region 6 with (fail);generalize ((((w3.setCell ⟨w.heap.size,0,none⟩ (.int .i64 c.a.op)).setCell ⟨w.heap.size,1,none⟩ (.int .i64 c.a.num)).setCell ⟨w.heap.size,2,none⟩ (.string c.a.name)).setCell ⟨w.heap.size,3,none⟩ (.slice c.a.ptr (len c.k) c.a.cap))=w4 at *;have nso:some sb≠some w.heap.size:=(by simp;omega);have c1:w4.cell? ⟨sb,1,none⟩=some (.int .i64 j):=G4.out.cell S3.out.c1 nso;have sl:sb < w4.heap.size:=Nat.lt_of_lt_of_le S3.out.lt G4.out.size;clear r0 r1 r2 r3 f0 f1 f2 f3 rl nso;obtain⟨r0,r1,r2,r3,f0,f1,f2,f3,rl⟩:=R4.out;have FAIL:Hid (∀(x0 x1 x2 x3:Value),Below w.heap.size w ((((w4.setCell ⟨w.heap.size,0,none⟩ x0).setCell ⟨w.heap.size,1,none⟩ x1).setCell ⟨w.heap.size,2,none⟩ x2).setCell ⟨w.heap.size,3,none⟩ x3)):=fun x0 x1 x2 x3=>B4.out.trans (Pz.below_of_gb (Pz.gb_four w4 w.heap.size x0 x1 x2 x3) (Nat.le_refl _) R4.out.lt)
  by_cases hj:j < L.length
  ·have hj2:(j:Int) < (L.length:Int):=by omega
   obtain⟨t,hti⟩:∃t,L[j]?=some t:=⟨_,List.getElem?_eq_getElem hj⟩;obtain⟨g,O,hp,hg,-,-,-,e3⟩:=S3.out.ls.get hti;have ngr:g≠w.heap.size:=APT.out j t g O hti hp;have d3:w4.cell? ⟨g,O+j * 4+3,none⟩=some (.int .i64 t.at'):=G4.out.cell e3 (by simp;exact ngr);obtain rfl:=hp;clear e3;have AT:Hid (Pz.atOf L s j=t.at'):=(by unfold Hid Pz.atOf;rw[hti]);clear hti
   have PE:Hid (Pz.pxT s=(Pz.z0,t.at',1)):=by
    unfold Hid;rw[PX3.out];cases o with
    | none=>dsimp only;rw[AT.out]
    | some x=>dsimp only;rw[if_pos hj,AT.out]
   cases o with
   | none =>
     dsimp only[Option.isSome];go_wp2;refine bodyPost_ret (v:=.tuple #[.agg #[.int .i64 0,.int .i64 0,.string ⟨#[]⟩,.slice none 0 0],.int .i64 t.at',.int .i64 1]) ?_ rfl ?_
     ·rw [yH rfl];go_simp
     ·unfold Uz;rw[PE.out];refine⟨Pz.z0,rfl,Pz.nr_z0,Pz.exat_z0 _,?_⟩;exact FAIL.out _ _ _ _
   | some x =>
     dsimp only[Option.isSome];go_wp2;refine bodyPost_ret (v:=.tuple #[.agg #[.int .i64 0,.int .i64 0,.string ⟨#[]⟩,.slice none 0 0],.int .i64 t.at',.int .i64 1]) ?_ rfl ?_
     ·rw [yH rfl];go_simp
     ·unfold Uz;rw[PE.out];refine⟨Pz.z0,rfl,Pz.nr_z0,Pz.exat_z0 _,?_⟩;exact FAIL.out _ _ _ _
  ·have hj2:¬(j:Int) < (L.length:Int):=by omega
   have AT:Hid (Pz.atOf L s j=s.size):=(by unfold Hid Pz.atOf;rw[List.getElem?_eq_none (by omega)]);cases o with
   | none =>
     have PE:Hid (Pz.pxT s=(Pz.z0,(s.size:Int),1)):=(by unfold Hid;rw[PX3.out];dsimp only;rw[AT.out]);dsimp only[Option.isSome];go_wp2;refine bodyPost_ret (v:=.tuple #[.agg #[.int .i64 0,.int .i64 0,.string ⟨#[]⟩,.slice none 0 0],.int .i64 s.size,.int .i64 1]) ?_ rfl ?_
     ·rw [yH rfl];go_simp
     ·unfold Uz;rw[PE.out];refine⟨Pz.z0,rfl,Pz.nr_z0,Pz.exat_z0 _,?_⟩;exact FAIL.out _ _ _ _
   | some x =>
     obtain⟨hx1,hx2,hx3,hx4⟩:=F3.out x rfl;have hgd:Pz.Gd c:=(GX.out x j rfl).of_nr hx1;have hval:yF c.a c.k=yF x.a x.k:=(by rw[← hx1,Pz.val_nr]);have X4:Hid (ExAt w4 c.b c.o c.a c.k):=⟨hx2.1,Pz.fat_grown hx2.2 (hx4 w.heap.size (by omega) (fun d hd=>by cases hd)) G4.out⟩;have HX:=hid (And.intro hx1 hgd);have HN:=hid (hx4 w.heap.size (by omega) (fun d hd=>by cases hd));have VL:=hid hval;have PE:Hid (Pz.pxT s=if yF x.a x.k=0 then (x,0,0) else (Pz.z0,0,yF x.a x.k)):=(by unfold Hid;rw[PX3.out];dsimp only;rw[if_neg hj]);clear hx1 hx2 hx3 hx4 hgd hval;dsimp only[Option.isSome];go_wp2_with fail;clear c1 sl r0 r1 r2 r3 f0 f1 f2 f3 rl FAIL G4 R3 S3 F3 G3;refine(jq c.b c.o c.a.op c.a.num c.a.name c.a.ptr c.a.cap c.k w4 X4.out HX.out.2.ok).mono ?_;rintro e w5 ⟨rfl,hb⟩;rw[show yF ⟨c.a.op,c.a.num,c.a.name,c.a.ptr,c.a.cap⟩ c.k=yF x.a x.k from VL.out];have X5:=hid (X4.out.next hb);have R5:=hid (R4.out.next hb);have B5:=hid (B4.out.trans (hb.mono B4.out.size));clear hb X4 R4 B4;obtain⟨r0,r1,r2,r3,f0,f1,f2,f3,rl⟩:=R5.out;have B6:Hid (∀(x0 x1 x2 x3:Value),Below w.heap.size w ((((w5.setCell ⟨w.heap.size,0,none⟩ x0).setCell ⟨w.heap.size,1,none⟩ x1).setCell ⟨w.heap.size,2,none⟩ x2).setCell ⟨w.heap.size,3,none⟩ x3)):=fun x0 x1 x2 x3=>B5.out.trans (Pz.below_of_gb (Pz.gb_four w5 w.heap.size x0 x1 x2 x3) (Nat.le_refl _) R5.out.lt);have X6:Hid (ExAt ((((w5.setCell ⟨w.heap.size,0,none⟩ (.int .i64 c.a.op)).setCell ⟨w.heap.size,1,none⟩ (.int .i64 c.a.num)).setCell ⟨w.heap.size,2,none⟩ (.string c.a.name)).setCell ⟨w.heap.size,3,none⟩ (.slice c.a.ptr (len c.k) c.a.cap)) c.b c.o c.a c.k):=⟨X5.out.1,Pz.fat_grown X5.out.2 HN.out (Pz.gb_four _ _ _ _ _ _)⟩;generalize yF x.a x.k=ve at *
     by_cases h0:ve=0
     ·subst h0;rw[if_pos rfl] at PE;go_wp2;refine bodyPost_ret (v:=.tuple #[.agg #[.int .i64 c.a.op,.int .i64 c.a.num,.string c.a.name,.slice c.a.ptr (len c.k) c.a.cap],.int .i64 0,.int .i64 0]) ?_ rfl ?_
      ·rw [yH rfl];go_simp
      ·unfold Uz;rw[PE.out];exact⟨c,rfl,HX.out.1,X6.out,B6.out _ _ _ _⟩
     ·have hv:(ve==0)=false:=by simpa using h0
      have hv2:(ve != 0)=true:=(by simpa using h0);rw[if_neg h0] at PE;clear h0;go_wp2;refine bodyPost_ret (v:=.tuple #[.agg #[.int .i64 0,.int .i64 0,.string ⟨#[]⟩,.slice none 0 0],.int .i64 0,.int .i64 ve]) ?_ rfl ?_
      ·rw [yH rfl];go_simp
      ·unfold Uz;rw[PE.out];exact⟨Pz.z0,rfl,Pz.nr_z0,Pz.exat_z0 _,B6.out _ _ _ _⟩
 ·have hv:(er==0)=false:=by simpa using her
  have hv2:(er != 0)=true:=(by simpa using her);have PE:Hid (Pz.pxT s=(Pz.z0,at0,er)):=(by unfold Hid;rw[PX2.out,if_pos her]);clear her PX2;obtain⟨r0,r1,r2,r3,f0,f1,f2,f3,rl⟩:=R1.out;dsimp only[Pz.z0,len] at r0 r1 r2 r3 f0 f1 f2 f3 rl;go_wp2;refine bodyPost_ret (v:=.tuple #[.agg #[.int .i64 0,.int .i64 0,.string ⟨#[]⟩,.slice none 0 0],.int .i64 at0,.int .i64 er]) ?_ rfl ?_
  ·rw [yH rfl];go_simp
  ·unfold Uz;rw[PE.out];exact⟨Pz.z0,rfl,Pz.nr_z0,Pz.exat_z0 _,B1.out.trans (Pz.below_of_gb (Pz.gb_four w1 w.heap.size _ _ _ _) (Nat.le_refl _) R1.out.lt)⟩
end Go.Proofs.YtcejjdmnlejbaaaGreatDoor
