import Derived.Test.YtcejjdmnlejbaaaGreatDoorBTkV
import Derived.Deep.CutBlock
import Derived.Deep.DeepCutAuto
namespace Go.Proofs.YtcejjdmnlejbaaaGreatDoor
set_option linter.unusedVariables false
set_option linter.unusedSimpArgs false
open Go.ChangeShapes Go.WideShapes Go.ChangeAt Go.RowKit
theorem own_next {w w':World} {base:Nat} {e:TypeId} {size:Nat} {v:Value} {n:Nat} {xs:List Value} (h:w.ownsRow base e size v n xs) (hb:Below w.heap.size w w'):w'.ownsRow base e size v n xs :=
 h.kept (row:=none) ⟨hb.os,hb.tape,hb.output,hb.size,fun k hk _=>hb.block k hk⟩ (by cases v.ownBlock<;>simp)
def ScanP (s:ByteArray) (w:World) (e:Ending) (w':World):Prop:=∃ v,e=.returned (.tuple #[v,.int .i64 (Tk.scanT s).2.1,.int .i64 (Tk.scanT s).2.2])∧TkAt w' (Tk.scanT s).1 v∧Below w.heap.size w w'
theorem tk_nil (w:World):TkAt w [] (.slice none 0 0):=⟨none,0,rfl,Nat.zero_le _,Nat.zero_le _,fun q=>absurd rfl q⟩
theorem scanP_of {s:ByteArray} {w w':World} {D:List Tk.T4} {v:Value} {a c:Int} (h:Tk.scanT s=(D,a,c)) (ht:TkAt w' D v) (hb:Below w.heap.size w w'):ScanP s w (.returned (.tuple #[v,.int .i64 a,.int .i64 c])) w':=by
 refine ⟨v,?_,?_,hb⟩<;>rw [h]
 exact ht
theorem ext_ext (s:ByteArray) (k g:Nat) (h:k+g≤s.size):(s.extract k s.size).extract 0 g=s.extract k (k+g):=by
 apply ByteArray.ext
 apply Array.toList_inj.1
 show ((s.extract k s.size).extract 0 g).data.toList=(s.extract k (k+g)).data.toList
 rw [ext_list,ext_list,ext_list,List.drop_zero,List.take_of_length_le (l:=s.data.toList) (by rw [len_atT];exact Nat.le_refl _),List.drop_take,show k+g - k=g by omega]
theorem drop_list (s:ByteArray) (k:Nat):(s.extract k s.size).data.toList=s.data.toList.drop k:=by
 rw [ext_list,List.take_of_length_le (by rw [len_atT];exact Nat.le_refl _)]
theorem getD_dropS (s:ByteArray) (k j:Nat) (h:k+j < s.size):(s.data.toList.drop k).getD j 0=s[k+j]:=by
 rw [List.getD_eq_getElem?_getD,List.getElem?_drop,← List.getD_eq_getElem?_getD]
 exact getD_atT s (k+j) h
set_option maxHeartbeats 4000000 in
set_option maxRecDepth 100000 in
theorem tscan_any (s : ByteArray) (w:World) (hs:s.size≤9223372036854775807):Calls Tryz.prog 28 #[.string s] w (ScanP s w):=by
 obtain ⟨i0,hi,hi0,hi1,hi2⟩:=info_parts Tryz.infoTk
 go_enter Tryz.func28,Tryz.ntmps28
 go_wp2_with fail
 go_loopw [2,5,6,7,8,9] (fun l i _ _ _ _ wr=>∃ (vx:Value) (k:Nat) (D:List Tk.T4),vx=l∧i=.int .i64 k∧k≤s.size∧w.heap.size≤wr.heap.size∧D.length≤400 ∧
  Hid (wr.ownsRow w.heap.size 68 4 vx D.length (tkC D)∧Below w.heap.size w wr∧Tk.scanT s=Tk.scan s (s.size - k) k D)) (fun _ i _ _ _ _ _=>s.size - (intOf i).toNat)
 case atStart=>exact ⟨_,0,[],rfl,rfl,by omega,Nat.le_refl _,by simp,World.ownsRow_nil _ _ _ _,Below.refl _ _,rfl⟩
 case round =>
  obtain ⟨vx,k,D,rfl,rfl,hk,hsz,hD4,HR⟩:=hrel
  by_cases hlt:k < s.size
  · have hi' : (k : Int) < (s.size:Int):=by omega
    have ST:Hid (Tk.scanT s=if s[k].toNat=35 then (D,0,0) else if s[k].toNat=32 then Tk.scan s (s.size - (k+1)) (k+1) D else
     match Tk.tokAt s k with
     | (none,_)=>([],(k:Int),1)
     | (some t,m)=>if D.length=400 then ([],(k:Int),10) else Tk.scan s (s.size - (k+m)) (k+m) (D++[⟨t,k⟩])):=by
     have:=HR.out.2.2.trans (Tk.scan_step s k D hlt)
     rw [getD_atT s k hlt] at this
     exact this
    by_cases h35:s[k].toNat=35
    · have b35:((s[k].toNat:Int) != 35)=false:=by simp;omega
      have R:Hid (Tk.scanT s=(D,0,0)):=by unfold Hid;rw [ST.out,if_pos h35]
      clear h35
      go_wp2
      go_ret3
      exact scanP_of R.out (tk_of_own HR.out.1 (by omega)) HR.out.2.1
    · have b35 : ((s[k].toNat:Int) != 35)=true:=by simp;omega
      by_cases h32:s[k].toNat=32
      · have b32:((s[k].toNat:Int)==32)=true:=by simp;omega
        have R:Hid (Tk.scanT s=Tk.scan s (s.size - (k+1)) (k+1) D):=by unfold Hid;rw [ST.out,if_neg h35,if_pos h32]
        clear h35 h32
        go_wp2
        go_roundw
        case rel=>exact ⟨_,k+1,D,rfl,by go_num,by omega,hsz,hD4,HR.out.1,HR.out.2.1,R.out⟩
        case measure=>simp [intOf];omega
      · have b32 : ((s[k].toNat:Int)==32)=false:=by simp;omega
        have ST2:=ST.out
        rw [if_neg h35,if_neg h32] at ST2
        clear ST h35 h32
        have ST:=Lib.hid ST2
        clear ST2
        have hwl:=Tk.wl_le (s.data.toList.drop k)
        rw [List.length_drop,len_atT] at hwl
        have WS:Hid (∀ j,j≤Tk.wl (s.data.toList.drop k)→∀ h:k+j < s.size,(Tk.inW s[k+j]=true→j+1≤Tk.wl (s.data.toList.drop k))∧(Tk.inW s[k+j]=false→Tk.wl (s.data.toList.drop k)=j)):=by
         intro j hj h
         have:=Tk.wl_step (s.data.toList.drop k) j hj (by rw [List.length_drop,len_atT];omega)
         rw [getD_dropS s k j h] at this
         exact this
        have WA:Hid (Tk.inW s[k]=true→1≤Tk.wl (s.data.toList.drop k)∧Tk.tokAt s k=(Tk.word (s.extract k (k+Tk.wl (s.data.toList.drop k))),Tk.wl (s.data.toList.drop k))):=by
         intro q
         refine ⟨(WS.out 0 (Nat.zero_le _) (by omega)).1 q,?_⟩
         unfold Tk.tokAt;rw [getD_atT s k hlt,if_pos q]
        have WB:Hid (Tk.inW s[k]=false→Tk.wl (s.data.toList.drop k)=0∧Tk.tokAt s k=(if Tk.sgn (s.data.toList.drop k)=0 then none else some ⟨5,s.extract k (k+Tk.sgn (s.data.toList.drop k)),0⟩,Tk.sgn (s.data.toList.drop k))):=by
         intro q
         refine ⟨(WS.out 0 (Nat.zero_le _) (by omega)).2 q,?_⟩
         unfold Tk.tokAt;rw [getD_atT s k hlt,if_neg (by rw [q];simp)]
        have BY:=Lib.hid (Tk.word_bytes s k)
        generalize Tk.wl (s.data.toList.drop k)=L at *
        go_upto_block 2 with (fail)
        go_cut [6] (fun e wx=>e=.int .i64 ((k:Int)+(L:Int))∧wx=wr)
        case first =>
         go_wp2_with fail
         go_loop [6] (fun e=>∃ j:Nat,e=.int .i64 ((k:Int)+(j:Int))∧k+j≤s.size∧Hid (j≤L)) (fun e=>s.size - (intOf e).toNat)
         case atStart=>exact ⟨0,by simp,by omega,Nat.zero_le _⟩
         case round =>
          obtain ⟨j,rfl,hj,HJ⟩:=hrel
          by_cases hjl:k+j < s.size
          · have W2:=Lib.hid (WS.out j HJ.out hjl)
            have hj':((k:Int)+(j:Int)) < (s.size:Int):=by omega
            cases hw:Tk.inW s[k+j] with
            | false =>
              have WL:=Lib.hid (W2.out.2 hw)
              have HW:Hid (inWI (s[k+j].toNat:Int)=false):=by unfold Hid;rw [inW_int,hw]
              clear hw
              go_wp2_with (go_at_call 66;refine (inword_any _ _).mono ?_;rw [HW.out];rintro e w' ⟨rfl,rfl⟩)
              go_meet
              exact ⟨by rw [WL.out],rfl⟩
            | true =>
              have WL:=Lib.hid (W2.out.1 hw)
              have HW:Hid (inWI (s[k+j].toNat:Int)=true):=by unfold Hid;rw [inW_int,hw]
              clear hw
              go_wp2_with (go_at_call 66;refine (inword_any _ _).mono ?_;rw [HW.out];rintro e w' ⟨rfl,rfl⟩)
              go_round
              case rel=>exact ⟨j+1,by go_num,by omega,WL.out⟩
              case measure=>simp [intOf];omega
          · have hj':¬ ((k:Int)+(j:Int)) < (s.size:Int):=by omega
            have WL:Hid (L=j):=by have:=HJ.out;unfold Hid;omega
            go_wp2
            go_meet
            exact ⟨by rw [WL.out],rfl⟩
        case rest =>
         obtain ⟨rfl,rfl⟩:=hcut
         obtain ⟨vp,vcap,rfl,hvc,-,-⟩:=tk_of_own HR.out.1 (by omega)
         cases hw:Tk.inW s[k] with
         | true =>
           obtain ⟨hL1,hTK⟩:=WA.out hw
           have TK:=Lib.hid hTK
           clear hTK hw WA WB WS
           have hne:(((k:Int)+(L:Int))==(k:Int))=false:=by simp;omega
           have hx9:(s.extract k (k+L)).size≤9223372036854775807:=by rw [ByteArray.size_extract];omega
           go_wp2_with fail
           refine (tword_any (s.extract k (k+L)) _ hx9 BY.out).mono ?_
           rintro e w1 ⟨⟨t1,t2,t3,rfl,hx⟩,hb⟩
           have B1:=Lib.hid (HR.out.2.1.trans (hb.mono hsz))
           have hz1:w.heap.size≤w1.heap.size:=B1.out.size
           have O1:=Lib.hid (own_next HR.out.1 hb)
           have HX:=Lib.hid hx
           clear hb hx
           cases ho:Tk.word (s.extract k (k+L)) with
           | none =>
             rw [ho] at TK
             have R:Hid (Tk.scanT s=([],(k:Int),1)):=by unfold Hid;rw [ST.out,TK.out]
             clear ho HX
             rw [show (none:Option Tk.T3).isSome=false from rfl]
             go_wp2
             go_ret3
             exact scanP_of R.out (tk_nil _) (B1.out.alloc hz1 _)
           | some t =>
             rw [ho] at TK
             obtain ⟨rfl,rfl,rfl⟩:=HX.out t ho
             clear ho HX
             rw [show (some t:Option Tk.T3).isSome=true from rfl]
             by_cases h4:D.length=400
             · have h4':((D.length:Int)==400)=true:=by simp [h4]
               have R:Hid (Tk.scanT s=([],(k:Int),10)):=by unfold Hid;rw [ST.out,TK.out];dsimp only;rw [if_pos h4]
               clear h4
               go_wp2
               go_ret3
               exact scanP_of R.out (tk_nil _) (B1.out.alloc hz1 _)
             · have h4':((D.length:Int)==400)=false:=by simp;omega
               have R:Hid (Tk.scanT s=Tk.scan s (s.size - (k+L)) (k+L) (D++[(⟨t,(k:Int)⟩:Tk.T4)])):=by unfold Hid;rw [ST.out,TK.out];dsimp only;rw [if_neg h4]
               have hD3:D.length < 400:=by omega
               clear h4
               go_wp2_with (at_builtin;refine wpList_append_own _ rfl _ _ 56 rfl w.heap.size 68 i0 (.agg #[.int .i64 0,.string ⟨#[]⟩,.int .i64 0,.int .i64 0]) 4 40 Tryz.underlying56 hi hi0 hi1 hi2 rfl (by decide) _ _ _ rfl ((O1.out.alloc _).alloc _) ⟨w1.heap.size+1,0,none⟩ 1 1 [.int .i64 t.kind,.string t.text,.int .i64 t.num,.int .i64 k] rfl rfl ?c1 ?c2 ?c3 ?c4 ?c5 ?_)
               case c1 =>
                intro q u hu
                match q with
                | 0=>simp at hu;subst hu;simp [Addr.add]
                | 1=>simp at hu;subst hu;simp [Addr.add]
                | 2=>simp at hu;subst hu;simp [Addr.add]
                | 3=>simp at hu;subst hu;simp [Addr.add]
                | q+4=>simp at hu
               case c2=>intro u hu;simp at hu;rcases hu with rfl|rfl|rfl|rfl<;>rfl
               case c3=>unfold maxLen;omega
               case c4=>omega
               case c5=>simp;omega
               intro v' w4 hown hgrow hnil
               have B4:Hid (Below w.heap.size w w4):=(((B1.out.alloc hz1 _)).alloc (by simp;omega) (.cells #[.int .i64 t.kind,.string t.text,.int .i64 t.num,.int .i64 k] 68)).grown hgrow (by simp;omega) (fun m hm=>(O1.out.lt m hm).1)
               have O4:Hid (w4.ownsRow w.heap.size 68 4 v' (D++[(⟨t,(k:Int)⟩:Tk.T4)]).length (tkC (D++[(⟨t,(k:Int)⟩:Tk.T4)]))):=by
                unfold Hid;rw [tkC_snoc,List.length_append];exact hown
               have hz4:w.heap.size≤w4.heap.size:=B4.out.size
               clear hown hgrow hnil
               go_wp2
               go_roundw
               case rel=>exact ⟨_,k+L,D++[(⟨t,(k:Int)⟩:Tk.T4)],rfl,by go_num,by omega,hz4,by rw [List.length_append];show D.length+1≤400;omega,O4.out,B4.out,R.out⟩
               case measure=>simp [intOf];omega
         | false =>
           obtain ⟨hL1,hTK⟩:=WB.out hw
           obtain rfl:L=0:=hL1
           have TK:=Lib.hid hTK
           clear hTK hw WA WB WS
           have BY0:Hid (∀ x ∈ ByteArray.empty.data.toList,Tk.inW x=true):=by
            intro x hx
            have hx':x ∈ ([]:List UInt8):=hx
            cases hx'
           rw [show ((k:Int)+((0:Nat):Int))=(k:Int) by simp]
           go_wp2_with fail
           refine (tword_any ByteArray.empty _ (by decide) BY0.out).mono ?_
           rintro e w1 ⟨⟨t1,t2,t3,rfl,hx⟩,hb⟩
           have B1:=Lib.hid (HR.out.2.1.trans (hb.mono hsz))
           have hz1:w.heap.size≤w1.heap.size:=B1.out.size
           have O1:=Lib.hid (own_next HR.out.1 hb)
           clear hb hx
           have hg:=Tk.sgn_le (s.data.toList.drop k)
           rw [List.length_drop,len_atT] at hg
           have hx8:(s.extract k s.size).size≤9223372036854775807:=by rw [ByteArray.size_extract];omega
           go_wp2_with fail
           refine (tsign_any (s.extract k s.size) _ hx8).mono ?_
           rw [drop_list]
           generalize Tk.sgn (s.data.toList.drop k)=g at *
           rw [ext_ext s k g (by omega)]
           have hXs:(s.extract k (k+g)).size=g:=by rw [ByteArray.size_extract];omega
           rintro e w2 ⟨rfl,rfl⟩
           generalize s.extract k (k+g)=X at *
           by_cases hg0:g=0
           · have e1:X.toList.isEmpty=true:=by rw [isEmpty_size,hXs];simp [hg0]
             have e2:(!X.toList.isEmpty)=false:=by rw [e1];rfl
             have R:Hid (Tk.scanT s=([],(k:Int),1)):=by unfold Hid;rw [ST.out,TK.out,if_pos hg0]
             have hXz:X.size≤9223372036854775807:=by omega
             clear hg0 hXs
             go_wp2
             go_ret3
             exact scanP_of R.out (tk_nil _) (B1.out.alloc hz1 _)
           · have e1:X.toList.isEmpty=false:=by rw [isEmpty_size,hXs];simp [hg0]
             have e2:(!X.toList.isEmpty)=true:=by rw [e1];rfl
             have TK2:Hid (Tk.tokAt s k=(some ⟨5,X,0⟩,g)):=by unfold Hid;rw [TK.out,if_neg hg0]
             clear TK
             have TK:=TK2
             clear TK2
             obtain rfl:g=X.size:=hXs.symm
             clear hXs
             by_cases h4:D.length=400
             · have h4':((D.length:Int)==400)=true:=by simp [h4]
               have R:Hid (Tk.scanT s=([],(k:Int),10)):=by unfold Hid;rw [ST.out,TK.out];dsimp only;rw [if_pos h4]
               clear h4
               go_wp2
               go_ret3
               exact scanP_of R.out (tk_nil _) (B1.out.alloc hz1 _)
             · have h4':((D.length:Int)==400)=false:=by simp;omega
               have R:Hid (Tk.scanT s=Tk.scan s (s.size - (k+X.size)) (k+X.size) (D++[(⟨⟨5,X,0⟩,(k:Int)⟩:Tk.T4)])):=by unfold Hid;rw [ST.out,TK.out];dsimp only;rw [if_neg h4]
               have hD3:D.length < 400:=by omega
               clear h4
               go_wp2_with (at_builtin;refine wpList_append_own _ rfl _ _ 56 rfl w.heap.size 68 i0 (.agg #[.int .i64 0,.string ⟨#[]⟩,.int .i64 0,.int .i64 0]) 4 40 Tryz.underlying56 hi hi0 hi1 hi2 rfl (by decide) _ _ _ rfl ((O1.out.alloc _).alloc _) ⟨w1.heap.size+1,0,none⟩ 1 1 [.int .i64 5,.string X,.int .i64 0,.int .i64 k] rfl rfl ?c1 ?c2 ?c3 ?c4 ?c5 ?_)
               case c1 =>
                intro q u hu
                match q with
                | 0=>simp at hu;subst hu;simp [Addr.add]
                | 1=>simp at hu;subst hu;simp [Addr.add]
                | 2=>simp at hu;subst hu;simp [Addr.add]
                | 3=>simp at hu;subst hu;simp [Addr.add]
                | q+4=>simp at hu
               case c2=>intro u hu;simp at hu;rcases hu with rfl|rfl|rfl|rfl<;>rfl
               case c3=>unfold maxLen;omega
               case c4=>omega
               case c5=>simp;omega
               intro v' w4 hown hgrow hnil
               have B4:Hid (Below w.heap.size w w4):=(((B1.out.alloc hz1 _)).alloc (by simp;omega) (.cells #[.int .i64 5,.string X,.int .i64 0,.int .i64 k] 68)).grown hgrow (by simp;omega) (fun m hm=>(O1.out.lt m hm).1)
               have O4:Hid (w4.ownsRow w.heap.size 68 4 v' (D++[(⟨⟨5,X,0⟩,(k:Int)⟩:Tk.T4)]).length (tkC (D++[(⟨⟨5,X,0⟩,(k:Int)⟩:Tk.T4)]))):=by
                unfold Hid;rw [tkC_snoc,List.length_append];exact hown
               have hz4:w.heap.size≤w4.heap.size:=B4.out.size
               clear hown hgrow hnil
               go_wp2
               go_roundw
               case rel=>exact ⟨_,k+X.size,D++[(⟨⟨5,X,0⟩,(k:Int)⟩:Tk.T4)],rfl,by go_num,by omega,hz4,by rw [List.length_append];show D.length+1≤400;omega,O4.out,B4.out,R.out⟩
               case measure=>simp [intOf];omega
  · have hi':¬ (k:Int) < (s.size:Int):=by omega
    have R:Hid (Tk.scanT s=(D,0,0)):=by unfold Hid;rw [HR.out.2.2];exact Tk.scan_end s k D (by omega)
    go_wp2
    go_ret3
    exact scanP_of R.out (tk_of_own HR.out.1 (by omega)) HR.out.2.1
end Go.Proofs.YtcejjdmnlejbaaaGreatDoor
