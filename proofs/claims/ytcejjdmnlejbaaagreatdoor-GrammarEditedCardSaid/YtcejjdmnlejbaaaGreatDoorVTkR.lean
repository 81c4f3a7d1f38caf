import Derived.Test.YtcejjdmnlejbaaaGreatDoorVPzX
namespace Go.Proofs.YtcejjdmnlejbaaaGreatDoor
open Lib(hid)
set_option linter.unusedVariables false
set_option linter.unusedSimpArgs false
open Go.ChangeShapes Go.WideShapes Go.ChangeAt Go.RowKit
set_option maxHeartbeats 2000000
set_option maxRecDepth 100000
theorem YP{a b c:World}{row:Option Nat}(h:a.grownBy b row)(g:b.grownBy c row):a.grownBy c row :=
 ⟨g.os.trans h.os,g.tape.trans h.tape,g.output.trans h.output,Nat.le_trans h.size g.size,fun k hk hr=>(g.block k (Nat.lt_of_lt_of_le hk h.size) hr).trans (h.block k hk hr)⟩
theorem kH{a b:World}{p:Addr}(h:a.grownBy b (some p.block))(u:Value):a.grownBy (b.setCell p u) (some p.block) :=
 YP h ⟨rfl,rfl,rfl,by simp[World.setCell],fun k hk hr=>Below.heap_setCell _ _ _ _ (fun e=>hr (by rw[e]))⟩
theorem Y6{w:World}{base:Nat}{e:TypeId}{size:Nat}{v:Value}{n:Nat}{xs:List Value}{g i:Nat}(h:w.ownsRow base e size v n xs)(hg:v.ownBlock≠some g)(a:Value):(w.setCell ⟨g,i,none⟩ a).ownsRow base e size v n xs :=
 h.kept (row:=some g) (kH (p:=⟨g,i,none⟩) ⟨rfl,rfl,rfl,Nat.le_refl _,fun _ _ _=>rfl⟩ a) (.inr hg)
theorem Ko{w:World}{base:Nat}{e:TypeId}{size:Nat}{v:Value}{n:Nat}{xs:List Value}{g:Nat}(h:w.ownsRow base e size v n xs)(hg:v.ownBlock≠some g)(a b c d:Value) :
 ((((w.setCell ⟨g,0,none⟩ a).setCell ⟨g,1,none⟩ b).setCell ⟨g,2,none⟩ c).setCell ⟨g,3,none⟩ d).ownsRow base e size v n xs :=
 h.kept (row:=some g) (kH (p:=⟨g,3,none⟩) (kH (p:=⟨g,2,none⟩) (kH (p:=⟨g,1,none⟩) (kH (p:=⟨g,0,none⟩) ⟨rfl,rfl,rfl,Nat.le_refl _,fun _ _ _=>rfl⟩ a) b) c) d) (.inr hg)
theorem Yw(s : ByteArray)(w:World)(hs:s.size≤9223372036854775807):Calls Tryz.prog 30 #[.string s] w (JW s w):=by
 obtain⟨i0,hi,hi0,hi1,hi2⟩:=info_parts Tryz.infoTk;go_enter Tryz.func30,Tryz.ntmps30;go_wp2_with fail
 go_loopw [5,6,7,8,9] (fun l i _ _ _ wr=>∃(vx:Value) (k:Nat) (D:List Tk.T4),vx=l∧i=.int .i64 k∧k≤s.size∧w.heap.size≤wr.heap.size∧D.length≤400∧
  Hid (wr.ownsRow w.heap.size 68 4 vx D.length (jQ D)∧Below w.heap.size w wr∧Tk.scanT s=Tk.scan s (s.size - k) k D)) (fun _ i _ _ _ _=>s.size - (intOf i).toNat)
 case atStart=>exact⟨_,0,[],rfl,rfl,by omega,Nat.le_refl _,by simp,World.ownsRow_nil _ _ _ _,Below.refl _ _,rfl⟩
 case round =>
  obtain⟨vx,k,D,rfl,rfl,hk,yD,hD4,HR⟩:=hrel
  by_cases qN:k < s.size
  ·have hi' : (k : Int) < (s.size:Int):=by omega
   have ST:Hid (Tk.scanT s=if s[k].toNat=35 then (D,0,0) else if s[k].toNat=32 then Tk.scan s (s.size - (k+1)) (k+1) D else
    match Tk.tokAt s k with
    | (none,_)=>([],(k:Int),1)
    | (some t,m)=>if D.length=400 then ([],(k:Int),10) else Tk.scan s (s.size - (k+m)) (k+m) (D++[⟨t,k⟩])):=by
    have:=HR.out.2.2.trans (Tk.scan_step s k D qN);rw[yo s k qN] at this;exact this
   by_cases h35:s[k].toNat=35
   ·have b35:((s[k].toNat:Int) != 35)=false:=by simp;omega
    have R:Hid (Tk.scanT s=(D,0,0)):=(by unfold Hid;rw[ST.out,if_pos h35]);clear h35;go_wp2
    go_ret3
    exact yW R.out (j5 HR.out.1 (by omega)) HR.out.2.1
   ·have b35 : ((s[k].toNat:Int) != 35)=true:=by simp;omega
    by_cases h32:s[k].toNat=32
    ·have b32:((s[k].toNat:Int)==32)=true:=by simp;omega
     have R:Hid (Tk.scanT s=Tk.scan s (s.size - (k+1)) (k+1) D):=(by unfold Hid;rw[ST.out,if_neg h35,if_pos h32]);clear h35 h32;go_wp2
     go_roundw
     case rel=>exact⟨_,k+1,D,rfl,by go_num,by omega,yD,hD4,HR.out.1,HR.out.2.1,R.out⟩
     case measure=>simp[intOf];omega
    ·have b32 : ((s[k].toNat:Int)==32)=false:=by simp;omega
     have ST2:=ST.out;rw[if_neg h35,if_neg h32] at ST2;clear ST h35 h32;have ST:=hid ST2;clear ST2;have hwl:=Tk.wl_le (s.data.toList.drop k);rw[List.length_drop,qG] at hwl
     have WS:Hid (∀j,j≤Tk.wl (s.data.toList.drop k)→∀h:k+j < s.size,(Tk.inW s[k+j]=true→j+1≤Tk.wl (s.data.toList.drop k))∧(Tk.inW s[k+j]=false→Tk.wl (s.data.toList.drop k)=j)):=by
      intro j hj h;have:=Tk.wl_step (s.data.toList.drop k) j hj (by rw[List.length_drop,qG];omega);rw[xZ s k j h] at this;exact this
     have WA:Hid (Tk.inW s[k]=true→1≤Tk.wl (s.data.toList.drop k)∧Tk.tokAt s k=(Tk.word (s.extract k (k+Tk.wl (s.data.toList.drop k))),Tk.wl (s.data.toList.drop k))):=by
      intro q;refine⟨(WS.out 0 (Nat.zero_le _) (by omega)).1 q,?_⟩;unfold Tk.tokAt;rw[yo s k qN,if_pos q]
     have WB:Hid (Tk.inW s[k]=false→Tk.wl (s.data.toList.drop k)=0∧Tk.tokAt s k=(if Tk.sgn (s.data.toList.drop k)=0 then none else some ⟨5,s.extract k (k+Tk.sgn (s.data.toList.drop k)),0⟩,Tk.sgn (s.data.toList.drop k))):=by
      intro q;refine⟨(WS.out 0 (Nat.zero_le _) (by omega)).2 q,?_⟩;unfold Tk.tokAt;rw[yo s k qN,if_neg (by rw[q];simp)]
     have BY:=hid (Tk.word_bytes s k);generalize Tk.wl (s.data.toList.drop k)=L at *;obtain⟨vp,vcap,rfl,hvc,-,-⟩:=j5 HR.out.1 (by omega);cases hw:Tk.inW s[k] with
     | true =>
       obtain⟨hL1,hTK⟩:=WA.out hw;have TK:=hid hTK;have HW0:Hid (jL (s[k].toNat:Int)=true):=(by unfold Hid;rw[jW,hw]);clear hTK hw WA WB
       go_upto_block 2 with (go_at_call 72;refine(ji _ _).mono ?_;rw[HW0.out];rintro e w' ⟨rfl,rfl⟩)
       go_cut [9] (fun e wx=>e=.int .i64 (L:Int)∧wx=wr.alloc (.cells #[.int .i64 0,.string ⟨#[]⟩,.int .i64 0,.int .i64 0] 68))
       case first =>
        go_wp2_with fail
        go_loop [9] (fun e=>∃j:Nat,e=.int .i64 (j:Int)∧k+j≤s.size∧Hid (j≤L)) (fun e=>s.size - k - (intOf e).toNat)
        case atStart=>exact⟨0,rfl,by omega,Nat.zero_le _⟩
        case round =>
         obtain⟨j,rfl,hj,HJ⟩:=hrel;have hwr:IntKind.i64.wrap ((k:Int)+(j:Int))=(k:Int)+(j:Int):=IntWalk.i64_in _ (by omega)
         by_cases hjl:k+j < s.size
         ·have W2:=hid (WS.out j HJ.out hjl);have hj':((k:Int)+(j:Int)) < (s.size:Int):=(by omega);cases hw:Tk.inW s[k+j] with
          | false =>
            have WL:=hid (W2.out.2 hw);have HW:Hid (jL (s[k+j].toNat:Int)=false):=(by unfold Hid;rw[jW,hw]);clear hw;go_wp2_with (go_at_call 72;refine(ji _ _).mono ?_;rw[HW.out];rintro e w' ⟨rfl,rfl⟩)
            go_meet
            exact⟨by rw[WL.out],rfl⟩
          | true =>
            have WL:=hid (W2.out.1 hw);have HW:Hid (jL (s[k+j].toNat:Int)=true):=(by unfold Hid;rw[jW,hw]);clear hw;go_wp2_with (go_at_call 72;refine(ji _ _).mono ?_;rw[HW.out];rintro e w' ⟨rfl,rfl⟩)
            go_round
            case rel=>exact⟨j+1,by go_num,by omega,WL.out⟩
            case measure=>simp[intOf];omega
         ·have hj':¬((k:Int)+(j:Int)) < (s.size:Int):=by omega
          have WL:Hid (L=j):=(by have:=HJ.out;unfold Hid;omega);go_wp2
          go_meet
          exact⟨by rw[WL.out],rfl⟩
       case rest =>
        obtain⟨rfl,rfl⟩:=hcut;clear WS HW0;have hwr:IntKind.i64.wrap ((k:Int)+(L:Int))=(k:Int)+(L:Int):=IntWalk.i64_in _ (by omega);have hx9:(s.extract k (k+L)).size≤9223372036854775807:=(by rw[ByteArray.size_extract];omega);have hx1:0 < (s.extract k (k+L)).size:=(by rw[ByteArray.size_extract];omega);go_wp2_with fail;refine(Yt (s.extract k (k+L)) _ hx9 BY.out hx1).mono ?_;rintro e w1 ⟨⟨t1,t2,t3,rfl,hx⟩,hb⟩;have B1:Hid (Below w.heap.size w w1):=(HR.out.2.1.alloc yD _).trans (hb.mono (by simp;omega));have hz1:wr.heap.size < w1.heap.size:=JQ hb;have O1:Hid (w1.ownsRow w.heap.size 68 4 (.slice vp D.length vcap) D.length (jQ D)):=xQ (HR.out.1.alloc _) hb;have OB:Hid ((Value.slice vp D.length vcap).ownBlock≠some wr.heap.size):=fun q=>absurd (HR.out.1.lt _ q).2 (Nat.lt_irrefl _);obtain⟨c0,c1,c2,c3,f0,f1,f2,f3⟩:=Yr hb;have HX:=hid hx;clear hb hx;cases ho:Tk.word (s.extract k (k+L)) with
        | none =>
          rw[ho] at TK;have R:Hid (Tk.scanT s=([],(k:Int),1)):=(by unfold Hid;rw[ST.out,TK.out]);clear ho HX;rw[show(none:Option Tk.T3).isSome=false from rfl];go_wp2
          go_ret3
          exact yW R.out (jP _) (((((B1.out).setCell (p:=⟨wr.heap.size,0,none⟩) yD _).setCell (p:=⟨wr.heap.size,1,none⟩) yD _).setCell (p:=⟨wr.heap.size,2,none⟩) yD _).setCell (p:=⟨wr.heap.size,3,none⟩) yD _)
        | some t =>
          rw[ho] at TK;obtain⟨rfl,rfl,rfl⟩:=HX.out t ho;clear ho HX;rw[show(some t:Option Tk.T3).isSome=true from rfl];go_upto_region 15 with (fail)
          go_cut [67] (fun v wx=>v=.bool false∧Hid (Below w.heap.size w wx∧wr.heap.size < wx.heap.size∧wx.ownsRow w.heap.size 68 4 (.slice vp D.length vcap) D.length (jQ D)∧
           (wx.cell? ⟨wr.heap.size,0,none⟩=some (.int .i64 t.kind)∧wx.cell? ⟨wr.heap.size,1,none⟩=some (.string t.text)∧wx.cell? ⟨wr.heap.size,2,none⟩=some (.int .i64 t.num)∧wx.cell? ⟨wr.heap.size,3,none⟩=some (.int .i64 0))∧wx.frozen? ⟨wr.heap.size,3,none⟩=false))
          case first =>
           have K:Hid (((((w1.setCell ⟨wr.heap.size,0,none⟩ (.int .i64 t.kind)).setCell ⟨wr.heap.size,1,none⟩ (.string t.text)).setCell ⟨wr.heap.size,2,none⟩ (.int .i64 t.num)).setCell ⟨wr.heap.size,3,none⟩ (.int .i64 0)).cell? ⟨wr.heap.size,0,none⟩=some (.int .i64 t.kind)∧
            ((((w1.setCell ⟨wr.heap.size,0,none⟩ (.int .i64 t.kind)).setCell ⟨wr.heap.size,1,none⟩ (.string t.text)).setCell ⟨wr.heap.size,2,none⟩ (.int .i64 t.num)).setCell ⟨wr.heap.size,3,none⟩ (.int .i64 0)).cell? ⟨wr.heap.size,1,none⟩=some (.string t.text)∧
            ((((w1.setCell ⟨wr.heap.size,0,none⟩ (.int .i64 t.kind)).setCell ⟨wr.heap.size,1,none⟩ (.string t.text)).setCell ⟨wr.heap.size,2,none⟩ (.int .i64 t.num)).setCell ⟨wr.heap.size,3,none⟩ (.int .i64 0)).cell? ⟨wr.heap.size,2,none⟩=some (.int .i64 t.num)∧
            ((((w1.setCell ⟨wr.heap.size,0,none⟩ (.int .i64 t.kind)).setCell ⟨wr.heap.size,1,none⟩ (.string t.text)).setCell ⟨wr.heap.size,2,none⟩ (.int .i64 t.num)).setCell ⟨wr.heap.size,3,none⟩ (.int .i64 0)).cell? ⟨wr.heap.size,3,none⟩=some (.int .i64 0)):=by
            refine⟨?_,?_,?_,?_⟩<;>simp[go_sem,c0,c1,c2,c3]
           have F:Hid (((((w1.setCell ⟨wr.heap.size,0,none⟩ (.int .i64 t.kind)).setCell ⟨wr.heap.size,1,none⟩ (.string t.text)).setCell ⟨wr.heap.size,2,none⟩ (.int .i64 t.num)).setCell ⟨wr.heap.size,3,none⟩ (.int .i64 0)).frozen? ⟨wr.heap.size,3,none⟩=false):=by
            unfold Hid;simp[go_sem,f3]
           go_wp2
           go_meet
           exact⟨rfl,((((B1.out).setCell (p:=⟨wr.heap.size,0,none⟩) yD _).setCell (p:=⟨wr.heap.size,1,none⟩) yD _).setCell (p:=⟨wr.heap.size,2,none⟩) yD _).setCell (p:=⟨wr.heap.size,3,none⟩) yD _,by simp;omega,Ko O1.out OB.out _ _ _ _,K.out,F.out⟩
          case rest =>
           obtain⟨rfl,HF⟩:=hcut;clear c0 c1 c2 c3 f0 f1 f2 f3 O1 B1 hz1;have B1:=hid HF.out.1;have hz1:=HF.out.2.1;have O1:=hid HF.out.2.2.1;have c0:=HF.out.2.2.2.1.1;have c1:=HF.out.2.2.2.1.2.1;have c2:=HF.out.2.2.2.1.2.2.1;have c3:=HF.out.2.2.2.1.2.2.2;have f3:=HF.out.2.2.2.2;clear HF
           by_cases h4:D.length=400
           ·have h4':(400:Int)≤(D.length:Int):=by omega
            have R:Hid (Tk.scanT s=([],(k:Int),10)):=(by unfold Hid;rw[ST.out,TK.out];dsimp only;rw[if_pos h4]);clear h4;go_wp2
            go_ret3
            exact yW R.out (jP _) B1.out
           ·have h4':¬(400:Int)≤(D.length:Int):=by omega
            have R:Hid (Tk.scanT s=Tk.scan s (s.size - (k+L)) (k+L) (D++[(⟨t,(k:Int)⟩:Tk.T4)])):=(by unfold Hid;rw[ST.out,TK.out];dsimp only;rw[if_neg h4]);have hD3:D.length < 400:=(by omega);clear h4
            skip
            go_wp2_with (at_builtin;refine wpList_append_own _ rfl _ _ 56 rfl w.heap.size 68 i0 (.agg #[.int .i64 0,.string ⟨#[]⟩,.int .i64 0,.int .i64 0]) 4 40 Tryz.underlying56 hi hi0 hi1 hi2 rfl (by decide) _ _ _ rfl (((Y6 O1.out OB.out (.int .i64 k)).alloc _)) ⟨wc.heap.size,0,none⟩ 1 1 [.int .i64 t.kind,.string t.text,.int .i64 t.num,.int .i64 k] rfl rfl ?d1 ?d2 ?d3 ?d4 ?d5 ?_)
            case d2=>first|exact⟨rfl,rfl,rfl,rfl⟩|(intro u hu;simp at hu;rcases hu with rfl|rfl|rfl|rfl<;>rfl)
            case d3=>first|omega|(unfold maxLen;omega)
            case d4=>omega
            case d5=>first|omega|(simp;omega)
            intro v' w4 qB qe hnil;have B4:Hid (Below w.heap.size w w4):=(((B1.out.setCell (p:=⟨wr.heap.size,3,none⟩) yD (.int .i64 k))).alloc (by simp;omega) (.cells #[.int .i64 t.kind,.string t.text,.int .i64 t.num,.int .i64 k] 68)).grown qe (by simp;omega) (fun m hm=>((Y6 (i:=3) O1.out OB.out (.int .i64 k)).lt m hm).1)
            have O4:Hid (w4.ownsRow w.heap.size 68 4 v' (D++[(⟨t,(k:Int)⟩:Tk.T4)]).length (jQ (D++[(⟨t,(k:Int)⟩:Tk.T4)]))):=by
             unfold Hid;rw[kA,List.length_append];exact qB
            have hz4:w.heap.size≤w4.heap.size:=B4.out.size;clear qB qe hnil;go_wp2
            go_roundw
            case rel=>exact⟨_,k+L,D++[(⟨t,(k:Int)⟩:Tk.T4)],rfl,by go_num,by omega,hz4,by rw[List.length_append];show D.length+1≤400;omega,O4.out,B4.out,R.out⟩
            case measure=>simp[intOf];omega
     | false =>
       obtain⟨hL1,hTK⟩:=WB.out hw;clear hL1;have TK:=hid hTK;have HW0:Hid (jL (s[k].toNat:Int)=false):=(by unfold Hid;rw[jW,hw]);clear hTK hw WA WB WS;have hg:=Tk.sgn_le (s.data.toList.drop k);rw[List.length_drop,qG] at hg;have hx8:(s.extract k s.size).size≤9223372036854775807:=(by rw[ByteArray.size_extract];omega);have hx1:1≤(s.extract k s.size).size:=(by rw[ByteArray.size_extract];omega);go_wp2_with (go_at_call 72;refine(ji _ _).mono ?_;rw[HW0.out];rintro e w' ⟨rfl,rfl⟩);refine(Yv (s.extract k s.size) _ hx8 hx1).mono ?_;rw[uI];generalize Tk.sgn (s.data.toList.drop k)=g at *;rw[Yi s k g (by omega)];have hXs:(s.extract k (k+g)).size=g:=(by rw[ByteArray.size_extract];omega);rintro e w2 ⟨rfl,rfl⟩;generalize s.extract k (k+g)=X at *
       by_cases hg0:g=0
       ·have e1:¬ 0 < X.size:=by omega
        have R:Hid (Tk.scanT s=([],(k:Int),1)):=(by unfold Hid;rw[ST.out,TK.out,if_pos hg0]);have hXz:X.size≤9223372036854775807:=(by omega);clear hg0 hXs;go_wp2
        go_ret3
        exact yW R.out (jP _) (HR.out.2.1.alloc yD _)
       ·have e1:0 < X.size:=by omega
        have TK2:Hid (Tk.tokAt s k=(some ⟨5,X,0⟩,g)):=(by unfold Hid;rw[TK.out,if_neg hg0]);clear TK;have TK:=TK2;clear TK2;obtain rfl:g=X.size:=hXs.symm;clear hXs
        by_cases h4:D.length=400
        ·have h4':(400:Int)≤(D.length:Int):=by omega
         have R:Hid (Tk.scanT s=([],(k:Int),10)):=(by unfold Hid;rw[ST.out,TK.out];dsimp only;rw[if_pos h4]);clear h4;go_wp2
         go_ret3
         exact yW R.out (jP _) (HR.out.2.1.alloc yD _)
        ·have h4':¬(400:Int)≤(D.length:Int):=by omega
         have R:Hid (Tk.scanT s=Tk.scan s (s.size - (k+X.size)) (k+X.size) (D++[(⟨⟨5,X,0⟩,(k:Int)⟩:Tk.T4)])):=(by unfold Hid;rw[ST.out,TK.out];dsimp only;rw[if_neg h4]);have hD3:D.length < 400:=(by omega);clear h4
         skip
         go_wp2_with (at_builtin;refine wpList_append_own _ rfl _ _ 56 rfl w.heap.size 68 i0 (.agg #[.int .i64 0,.string ⟨#[]⟩,.int .i64 0,.int .i64 0]) 4 40 Tryz.underlying56 hi hi0 hi1 hi2 rfl (by decide) _ _ _ rfl (((HR.out.1.alloc _).alloc _)) ⟨wr.heap.size+1,0,none⟩ 1 1 [.int .i64 5,.string X,.int .i64 0,.int .i64 k] rfl rfl ?c1 ?c2 ?c3 ?c4 ?c5 ?_)
         case c1 =>
          intro q u hu
          match q with
          | 0=>simp at hu;subst hu;simp[Addr.add]
          | 1=>simp at hu;subst hu;simp[Addr.add]
          | 2=>simp at hu;subst hu;simp[Addr.add]
          | 3=>simp at hu;subst hu;simp[Addr.add]
          | q+4=>simp at hu
         case c2=>first|exact⟨rfl,rfl,rfl,rfl⟩|(intro u hu;simp at hu;rcases hu with rfl|rfl|rfl|rfl<;>rfl)
         case c3=>first|omega|(unfold maxLen;omega)
         case c4=>omega
         case c5=>first|omega|(simp;omega)
         intro v' w4 qB qe hnil;have B4:Hid (Below w.heap.size w w4):=(((HR.out.2.1.alloc yD _)).alloc (by simp;omega) (.cells #[.int .i64 5,.string X,.int .i64 0,.int .i64 k] 68)).grown qe (by simp;omega) (fun m hm=>(HR.out.1.lt m hm).1)
         have O4:Hid (w4.ownsRow w.heap.size 68 4 v' (D++[(⟨⟨5,X,0⟩,(k:Int)⟩:Tk.T4)]).length (jQ (D++[(⟨⟨5,X,0⟩,(k:Int)⟩:Tk.T4)]))):=by
          unfold Hid;rw[kA,List.length_append];exact qB
         have hz4:w.heap.size≤w4.heap.size:=B4.out.size;clear qB qe hnil;go_wp2
         go_roundw
         case rel=>exact⟨_,k+X.size,D++[(⟨⟨5,X,0⟩,(k:Int)⟩:Tk.T4)],rfl,by go_num,by omega,hz4,by rw[List.length_append];show D.length+1≤400;omega,O4.out,B4.out,R.out⟩
         case measure=>simp[intOf];omega
  ·have hi':¬(k:Int) < (s.size:Int):=by omega
   have R:Hid (Tk.scanT s=(D,0,0)):=(by unfold Hid;rw[HR.out.2.2];exact Tk.scan_end s k D (by omega));go_wp2
   go_ret3
   exact yW R.out (j5 HR.out.1 (by omega)) HR.out.2.1
end Go.Proofs.YtcejjdmnlejbaaaGreatDoor
