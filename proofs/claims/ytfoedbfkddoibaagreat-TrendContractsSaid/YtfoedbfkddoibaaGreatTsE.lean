import Derived.Test.YtfoedbfkddoibaaGreatTq1
import Derived.Test.YtfoedbfkddoibaaGreatChs
namespace Go.Proofs.YtfoedbfkddoibaaGreat
set_option linter.unusedVariables false
set_option linter.unusedSimpArgs false
open Go.ChangeShapes Go.WideShapes Go.ChangeAt Go.RowKit
open Go.Deep (BT)
def TofC (name:ByteArray) (clk:Bool) (b o:Nat) (a:Nd) (k:Fo):Prop:=∀ w:World,ExAt w b o a k→ExOk a k→(wfB a (len k) && wfT k)=true→sz k≤200 →
 Calls Tryz.prog 22 #[.agg #[.string name,.bool clk],.agg #[.int .i64 a.op,.int .i64 a.num,.string a.name,.slice a.ptr (len k) a.cap]] w fun e w'=>e=.returned (.int .i64 (pT1 name clk a (sgF k) (pTF name clk k)))∧Below w.heap.size w w'
theorem all_snoc (L:List Int) (x:Int):((L++[x]).all fun t=>t==0)=((L.all fun t=>t==0) && (x==0)):=by rw [List.all_append,List.all_cons,List.all_nil,Bool.and_true]
structure OfSt (w wr:World) (name:ByteArray) (clk:Bool) (b o:Nat) (a:Nd) (k:Fo) (D:List Int):Prop where
 q0:wr.cell? ⟨w.heap.size,0,none⟩=some (.string name)
 q1:wr.cell? ⟨w.heap.size,1,none⟩=some (.bool clk)
 x0:wr.cell? ⟨w.heap.size+1,0,none⟩=some (.int .i64 a.op)
 x3:wr.cell? ⟨w.heap.size+1,3,none⟩=some (.slice a.ptr (len k) a.cap)
 ow:wr.ownsRow (w.heap.size+2) 3 1 (.slice (some ⟨w.heap.size+2,0,none⟩) (len k) (len k)) (len k) (intV D)
 bl:Below w.heap.size w wr
 ex:ExAt wr b o a k
theorem OfSt.next {w wr w2:World} {name:ByteArray} {clk:Bool} {b o:Nat} {a:Nd} {k:Fo} {D:List Int} (h:OfSt w wr name clk b o a k D) (hb:Below wr.heap.size wr w2):OfSt w w2 name clk b o a k D:=by
 have e:∀ p v,wr.cell? p=some v→w2.cell? p=some v:=fun p v q=>by rw [hb.cell (block_lt_of_cell q)];exact q
 exact ⟨e _ _ h.q0,e _ _ h.q1,e _ _ h.x0,e _ _ h.x3,own_below h.ow hb,h.bl.trans (hb.mono h.bl.size),h.ex.next hb⟩
theorem OfSt.get {w wr:World} {name:ByteArray} {clk:Bool} {b o:Nat} {a:Nd} {k:Fo} {D:List Int} (h:OfSt w wr name clk b o a k D) (hl:D.length=len k) (i:Nat) (hi:i < len k):wr.cell? ⟨w.heap.size+2,i,none⟩=some (.int .i64 (D.getD i 0)):=by
 rw [h.ow.cellAt i (by omega)]
 unfold intV
 rw [List.getElem?_map,List.getD_eq_getElem?_getD,List.getElem?_eq_getElem (by omega)]
 rfl
set_option maxHeartbeats 2000000 in
set_option maxRecDepth 100000 in
theorem tof_name (name:ByteArray) (clk:Bool) (b o:Nat) (num:Int) (sname:ByteArray) (ptr:Option Addr) (acap:Nat) (k:Fo) (w:World) :
 Calls Tryz.prog 22 #[.agg #[.string name,.bool clk],.agg #[.int .i64 6,.int .i64 num,.string sname,.slice ptr (len k) acap]] w fun e w'=>e=.returned (.int .i64 (nameE name clk sname))∧Below w.heap.size w w':=by
 have hb:Hid (Below w.heap.size w ((w.alloc (.cells #[.string name,.bool clk] 57)).alloc (.cells #[.int .i64 6,.int .i64 num,.string sname,.slice ptr (len k) acap] 25))):=(below_box w _).trans ((below_box _ _).mono (by simp))
 go_enter Tryz.func22,Tryz.ntmps22
 by_cases hn:sname=name
 · subst hn
   have n1:(sname.toList==sname.toList)=true:=by simp
   cases clk
   · have e:Hid (nameE sname false sname=1):=by unfold Hid nameE;simp
     go_wp2
     go_ret
     exact ⟨ret_int e.out.symm,hb.out⟩
   · have e:Hid (nameE sname true sname=3):=by unfold Hid nameE;simp
     go_wp2
     go_ret
     exact ⟨ret_int e.out.symm,hb.out⟩
 · have n1:(sname.toList==name.toList)=false:=by
    rw [beq_eq_false_iff_ne,Lib.toList_data,Lib.toList_data]
    exact fun q=>hn (ByteArray.ext (Array.toList_inj.1 q))
   have e:Hid (nameE name clk sname=0):=by unfold Hid nameE;simp [hn]
   go_wp2
   go_ret
   exact ⟨ret_int e.out.symm,hb.out⟩
set_option maxHeartbeats 16000000 in
set_option maxRecDepth 100000 in
theorem tof_any (name:ByteArray) (clk:Bool) (b o:Nat) (a:Nd) (k:Fo):TofC name clk b o a k:=by
 refine tree_of (P:=TofC name clk) ?_ b o a k
 clear b o a k
 intro b o a k ih w hx hok hwf hz
 obtain ⟨op,num,sname,ptr,acap⟩:=a
 obtain ⟨i0,hi,hi0,hi1,hi2⟩:=info_parts Tryz.infoI
 show Calls Tryz.prog 22 #[.agg #[.string name,.bool clk],.agg #[.int .i64 op,.int .i64 num,.string sname,.slice ptr (len k) acap]] w _
 by_cases h6:op=6
 · subst h6
   exact tof_name name clk b o num sname ptr acap k w
 have b6:(op==6)=false:=by simp [h6]
 have IH:=Lib.hid ih
 have HX:=Lib.hid hx
 have HOK:=Lib.hid hok
 have hwb:wfB ⟨op,num,sname,ptr,acap⟩ (len k)=true∧wfT k=true:=by rw [Bool.and_eq_true] at hwf;exact hwf
 have HWT:=Lib.hid hwb.2
 have HA:=Lib.hid (wf_parts hwb.1).2.1
 have HO:=Lib.hid (wf_parts hwb.1).1
 have HZ:=Lib.hid hz
 have hk:len k≤200:=Nat.le_trans (len_le_sz k) hz
 have R0:Hid (pT1 name clk ⟨op,num,sname,ptr,acap⟩ (sgF k) (pTF name clk k)=if ((pTF name clk k).all fun t=>t==0)=true then 0 else pOp op (sgF k) (pTF name clk k)):=by unfold Hid pT1;dsimp only;rw [if_neg h6]
 generalize pT1 name clk ⟨op,num,sname,ptr,acap⟩ (sgF k) (pTF name clk k)=R at *
 clear ih hx hok hwf hz hwb h6
 dsimp only at HA HO
 go_enter Tryz.func22,Tryz.ntmps22
 go_wp2_with (refine wpList_make_full _ rfl _ _ 33 rfl (w.heap.size+2) 3 i0 (.int .i64 0) 1 Tryz.underlying33 hi hi0 hi1 .i64 .i64 _ _ (len k) rfl rfl rfl rfl ?m1 ?m2 ?m3 ?_)
 case m1=>rw [hi2];omega
 case m2=>unfold maxLen;omega
 case m3=>simp
 intro w2 hown hgrow
 have BA:Hid (Below w.heap.size w ((w.alloc (.cells #[.string name,.bool clk] 57)).alloc (.cells #[.int .i64 op,.int .i64 num,.string sname,.slice ptr (len k) acap] 25))):=(below_box w _).trans ((below_box _ _).mono (by simp))
 have BG:Hid (Below (w.heap.size+2) ((w.alloc (.cells #[.string name,.bool clk] 57)).alloc (.cells #[.int .i64 op,.int .i64 num,.string sname,.slice ptr (len k) acap] 25)) w2):=(Below.refl _ _).grown hgrow (by simp) (fun m hm=>by cases hm)
 have S00:Hid (OfSt w w2 name clk b o ⟨op,num,sname,ptr,acap⟩ k (List.replicate (len k) 0)):=by
  refine ⟨?_,?_,?_,?_,?_,BA.out.trans (BG.out.mono (by omega)),HX.out.next (BA.out.trans (BG.out.mono (by omega)))⟩
  · rw [BG.out.cell (p:=⟨w.heap.size,0,none⟩) (by simp)];simp [go_sem]
  · rw [BG.out.cell (p:=⟨w.heap.size,1,none⟩) (by simp)];simp [go_sem]
  · rw [BG.out.cell (p:=⟨w.heap.size+1,0,none⟩) (by simp)];rw [← World.size_alloc w (.cells #[.string name,.bool clk] 57)];simp [go_sem]
  · rw [BG.out.cell (p:=⟨w.heap.size+1,3,none⟩) (by simp)];rw [← World.size_alloc w (.cells #[.string name,.bool clk] 57)];simp [go_sem]
  · rw [made_ints] at hown
    simpa using hown
 clear hown hgrow BA BG
 have x3:=S00.out.x3
 go_wp2_with fail
 clear x3
 go_loopw [37,6] (fun i c wr=>∃ (j:Nat) (r:Fo) (L:List Int),i=.int .i64 j∧c=.bool (L.all fun t=>t==0)∧w.heap.size+2 < wr.heap.size ∧
  Hid (j+len r=len k∧FoAt wr r b (o+j * 4)∧FoOk r∧AllT (TofC name clk) r∧wfT r=true∧sz r≤200∧L.length=j∧OfSt w wr name clk b o ⟨op,num,sname,ptr,acap⟩ k (L++List.replicate (len r) 0)∧L++pTF name clk r=pTF name clk k∧FoLt w.heap.size r b)) (fun i _ _=>len k - (intOf i).toNat)
 case atStart =>
  refine ⟨0,k,[],rfl,rfl,?_,by omega,?_,HOK.out.2,IH.out,HWT.out,HZ.out,rfl,S00.out,rfl,HX.out.2.lt⟩
  · exact (S00.out.ow.lt (w.heap.size+2) rfl).2
  · rw [Nat.zero_mul,Nat.add_zero];exact S00.out.ex.2
 case round =>
  obtain ⟨j,r,D,rfl,rfl,hsz,HR⟩:=hrel
  cases r with
  | nil =>
    have hj:¬ (j:Int) < (len k:Int):=by have:=HR.out.1;simp [len] at this;omega
    have DE:Hid (D=pTF name clk k):=by
     have h9:=HR.out.2.2.2.2.2.2.2.2.1
     unfold Hid;rw [← h9];simp [pTF]
    have hl:Hid (D.length=len k):=by
     have h1:=HR.out.1
     have h2:=HR.out.2.2.2.2.2.2.1
     simp [len] at h1;unfold Hid;omega
    have ST:Hid (OfSt w wr name clk b o ⟨op,num,sname,ptr,acap⟩ k D):=by
     have h:=HR.out.2.2.2.2.2.2.2.1
     simp only [len,List.replicate_zero,List.append_nil] at h
     exact h
    have R1:Hid (R=if (D.all fun t=>t==0)=true then 0 else pOp op (sgF k) D):=by unfold Hid;rw [R0.out,DE.out]
    have hlD:Hid ((D.all fun t=>t==0)=false→k≠.nil):=by
     intro q e
     have h:=hl.out
     rw [e] at h
     have:D=[]:=List.length_eq_zero_iff.1 h
     rw [this] at q;cases q
    clear R0 DE HR S00 IH
    have x0:=ST.out.x0
    have x3:=ST.out.x3
    generalize hcb:(D.all fun t=>t==0)=cb at *
    clear hcb
    cases cb
    · have RP : Hid (R=pOp op (sgF k) D):=R1
      have h7:7≤op∧op≤22:=by
       refine ⟨?_,HO.out.2⟩
       apply Int.not_lt.1
       intro q
       have h:=HA.out
       unfold argB at h
       rw [if_pos (by have:=HO.out.1;omega)] at h
       simp at h
       exact hlD.out rfl (len_zero h)
      clear R1 hlD HO HZ b6
      have hop:op=7∨op=8∨op=9∨op=10∨op=11∨op=12∨op=13∨op=14∨op=15∨op=16∨op=17∨op=18∨op=19∨op=20∨op=21∨op=22:=by omega
      clear h7
      rcases hop with rfl|rfl|rfl|rfl|rfl|rfl|rfl|rfl|rfl|rfl|rfl|rfl|rfl|rfl|rfl|rfl
      · skip
        have hk2:len k=1:=by have h:=HA.out;simp [argB] at h;omega
        have g0:=ST.out.get hl.out 0 (by omega)
        have h01:(0:Int) < (len k:Int):=by omega
        have RV:Hid (R=ivE (D.getD 0 0)):=by unfold Hid;rw [RP.out];simp [pOp]
        clear RP
        go_wp2_with (go_at_call 45;refine (tinv_any _ _).mono ?_;rintro e w' ⟨rfl,rfl⟩)
        go_ret
        exact ⟨ret_int RV.out.symm,ST.out.bl⟩
      · skip
        have RV:Hid (R=fold3 D):=by unfold Hid;rw [RP.out];simp [pOp]
        clear RP
        go_wp2_with fail
        go_loopw [75,9] (fun i c w2=>∃ j:Nat,i=.int .i64 j∧c=.int .i64 ((D.take j).foldl cbE 0)∧Hid (j≤len k)∧w2=wr) (fun i _ _=>len k - (intOf i).toNat)
        case atStart=>exact ⟨0,rfl,rfl,Nat.zero_le _,rfl⟩
        case round =>
         obtain ⟨j,rfl,rfl,hj,rfl⟩:=hrel
         by_cases hq:j < len k
         · have hj1:(j:Int) < (len k:Int):=by omega
           have hj0:(0:Int)≤(j:Int):=by omega
           have gj:=ST.out.get hl.out j hq
           have ES:Hid ((D.take (j+1)).foldl cbE 0=cbE ((D.take j).foldl cbE 0) (D.getD j 0)):=by
            have hjd:j < D.length:=by rw [hl.out];exact hq
            unfold Hid
            rw [List.take_add_one,List.foldl_append,List.getD_eq_getElem?_getD,List.getElem?_eq_getElem hjd];rfl
           go_wp2_with (go_at_call 30;refine (tcomb_any _ _ _).mono ?_;rintro e w' ⟨rfl,rfl⟩)
           go_roundw
           case rel=>exact ⟨j+1,by go_num,by rw [ES.out,← List.getD_eq_getElem?_getD],by unfold Hid;omega,by first|trivial|rfl⟩
           case measure=>simp [intOf];omega
         · have hj1:¬ (j:Int) < (len k:Int):=by omega
           have ES:Hid ((D.take j).foldl cbE 0=R):=by unfold Hid;rw [RV.out,List.take_of_length_le (by rw [hl.out];omega)];rfl
           go_wp2
           go_ret
           exact ⟨ret_int ES.out,ST.out.bl⟩
      · skip
        have hk2:len k=2:=by have h:=HA.out;simp [argB] at h;omega
        have g0:=ST.out.get hl.out 0 (by omega)
        have g1:=ST.out.get hl.out 1 (by omega)
        have RV:Hid (R=cbE (D.getD 0 0) (ivE (D.getD 1 0))):=by unfold Hid;rw [RP.out];simp [pOp]
        clear RP
        have h01:(0:Int) < (len k:Int):=by omega
        have h11:(1:Int) < (len k:Int):=by omega
        go_upto_region 34 with (fail)
        go_region_with (first|(go_at_call 45;refine (tinv_any _ _).mono ?_;rintro e w' ⟨rfl,rfl⟩)|(go_at_call 30;refine (tcomb_any _ _ _).mono ?_;rintro e w' ⟨rfl,rfl⟩))
        all_goals (go_wp2;go_ret;exact ⟨ret_int RV.out.symm,ST.out.bl.drew⟩)
      · skip
        have hk2:len k=2:=by have h:=HA.out;simp [argB] at h;omega
        cases k with
        | nil=>simp [len] at hk2
        | node b1 o1 a1 k1 r1 =>
        cases r1 with
        | nil=>simp [len] at hk2
        | node b2 o2 a2 k2 r2 =>
        obtain rfl:ptr=some ⟨b,o,none⟩:=HX.out.1 (by simp)
        have hk0:(0:Int) < (len (BT.node b1 o1 a1 k1 (BT.node b2 o2 a2 k2 r2)):Int):=by omega
        have hk11:(1:Int) < (len (BT.node b1 o1 a1 k1 (BT.node b2 o2 a2 k2 r2)):Int):=by omega
        have C1:=Lib.hid (fun (w:World) hx=>sign_any b1 o1 a1 k1 w hx ⟨HOK.out.2.1,HOK.out.2.2.1⟩ (wfT_node HWT.out).1)
        have C2:=Lib.hid (fun (w:World) hx=>sign_any b2 o2 a2 k2 w hx ⟨HOK.out.2.2.2.1,HOK.out.2.2.2.2.1⟩ (wfT_node (wfT_node HWT.out).2).1)
        have S0:Hid ((sgF (BT.node b1 o1 a1 k1 (BT.node b2 o2 a2 k2 r2))).getD 0 (0,false)=sg1 a1 (sgF k1) (opF k1)):=rfl
        have S1:Hid ((sgF (BT.node b1 o1 a1 k1 (BT.node b2 o2 a2 k2 r2))).getD 1 (0,false)=sg1 a2 (sgF k2) (opF k2)):=rfl
        generalize sg1 a1 (sgF k1) (opF k1)=t1 at *
        generalize sg1 a2 (sgF k2) (opF k2)=t2 at *
        obtain ⟨t1,u1⟩:=t1
        obtain ⟨t2,u2⟩:=t2
        have RW:Hid (R=if u1=true then scE (D.getD 1 0) t1 else if u2=true then scE (D.getD 0 0) t2 else 3):=by
         have h0:=S0.out
         have h1:=S1.out
         rw [List.getD_eq_getElem?_getD] at h0 h1
         unfold Hid;rw [RP.out];simp [pOp,h0,h1]
        clear RP S0 S1
        obtain ⟨⟨c0,c1,c2,c3⟩,hp1,hk1,-⟩:=ST.out.ex.2
        have CC:=Lib.hid (C1.out wr ⟨hp1,hk1⟩)
        clear hp1 hk1
        go_wp2_with fail
        refine CC.out.mono ?_
        rintro e wa ⟨rfl,hb⟩
        have SA:=Lib.hid (ST.out.next hb)
        clear hb CC c0 c1 c2 c3 x0 x3
        have x0:=SA.out.x0
        have x3:=SA.out.x3
        cases u1
        · have RU:Hid (R=if u2=true then scE (D.getD 0 0) t2 else 3):=RW
          clear RW
          obtain ⟨-,-,-,⟨d0,d1,d2,d3⟩,hp2,hk2',-⟩:=SA.out.ex.2
          have d1:wa.cell? ⟨b,o+5,none⟩=some (.int .i64 a2.num):=d1
          have d2:wa.cell? ⟨b,o+6,none⟩=some (.string a2.name):=d2
          have d3:wa.cell? ⟨b,o+7,none⟩=some (.slice a2.ptr (len k2) a2.cap):=d3
          have CC:=Lib.hid (C2.out wa ⟨hp2,hk2'⟩)
          clear hp2 hk2'
          go_wp2_with fail
          refine CC.out.mono ?_
          rintro e wb ⟨rfl,hb⟩
          have SB:=Lib.hid (SA.out.next hb)
          clear hb CC d0 d1 d2 d3 x0 x3
          have x0:=SB.out.x0
          have x3:=SB.out.x3
          cases u2
          · have RV:Hid (R=3):=RU
            go_wp2
            go_ret
            exact ⟨ret_int RV.out.symm,SB.out.bl⟩
          · have RV:Hid (R=scE (D.getD 0 0) t2):=RU
            have g0:=SB.out.get hl.out 0 (by omega)
            go_wp2_with (go_at_call 47;refine (tscaled_any _ _ _).mono ?_;rintro e w' ⟨rfl,rfl⟩)
            go_ret
            exact ⟨ret_int RV.out.symm,SB.out.bl⟩
        · have RV:Hid (R=scE (D.getD 1 0) t1):=RW
          have g1:=SA.out.get hl.out 1 (by omega)
          go_wp2_with (go_at_call 47;refine (tscaled_any _ _ _).mono ?_;rintro e w' ⟨rfl,rfl⟩)
          go_ret
          exact ⟨ret_int RV.out.symm,SA.out.bl⟩
      · skip
        have hk2:len k=2:=by have h:=HA.out;simp [argB] at h;omega
        cases k with
        | nil=>simp [len] at hk2
        | node b1 o1 a1 k1 r1 =>
        cases r1 with
        | nil=>simp [len] at hk2
        | node b2 o2 a2 k2 r2 =>
        obtain rfl:ptr=some ⟨b,o,none⟩:=HX.out.1 (by simp)
        have hk0:(0:Int) < (len (BT.node b1 o1 a1 k1 (BT.node b2 o2 a2 k2 r2)):Int):=by omega
        have hk11:(1:Int) < (len (BT.node b1 o1 a1 k1 (BT.node b2 o2 a2 k2 r2)):Int):=by omega
        have C1:=Lib.hid (fun (w:World) hx=>sign_any b1 o1 a1 k1 w hx ⟨HOK.out.2.1,HOK.out.2.2.1⟩ (wfT_node HWT.out).1)
        have C2:=Lib.hid (fun (w:World) hx=>sign_any b2 o2 a2 k2 w hx ⟨HOK.out.2.2.2.1,HOK.out.2.2.2.2.1⟩ (wfT_node (wfT_node HWT.out).2).1)
        have S0:Hid ((sgF (BT.node b1 o1 a1 k1 (BT.node b2 o2 a2 k2 r2))).getD 0 (0,false)=sg1 a1 (sgF k1) (opF k1)):=rfl
        have S1:Hid ((sgF (BT.node b1 o1 a1 k1 (BT.node b2 o2 a2 k2 r2))).getD 1 (0,false)=sg1 a2 (sgF k2) (opF k2)):=rfl
        generalize sg1 a1 (sgF k1) (opF k1)=t1 at *
        generalize sg1 a2 (sgF k2) (opF k2)=t2 at *
        obtain ⟨t1,u1⟩:=t1
        obtain ⟨t2,u2⟩:=t2
        have RU:Hid (R=if u2=true then scE (D.getD 0 0) t2 else 3):=by
         have h0:=S0.out
         have h1:=S1.out
         rw [List.getD_eq_getElem?_getD] at h0 h1
         unfold Hid;rw [RP.out];simp [pOp,h0,h1]
        clear RP S0 S1
        obtain ⟨-,-,-,⟨d0,d1,d2,d3⟩,hp2,hk2',-⟩:=ST.out.ex.2
        have d1:wr.cell? ⟨b,o+5,none⟩=some (.int .i64 a2.num):=d1
        have d2:wr.cell? ⟨b,o+6,none⟩=some (.string a2.name):=d2
        have d3:wr.cell? ⟨b,o+7,none⟩=some (.slice a2.ptr (len k2) a2.cap):=d3
        have CC:=Lib.hid (C2.out wr ⟨hp2,hk2'⟩)
        clear hp2 hk2'
        go_wp2_with fail
        refine CC.out.mono ?_
        rintro e wb ⟨rfl,hb⟩
        have SB:=Lib.hid (ST.out.next hb)
        clear hb CC d0 d1 d2 d3 x0 x3
        have x0:=SB.out.x0
        have x3:=SB.out.x3
        cases u2
        · have RV:Hid (R=3):=RU
          go_wp2
          go_ret
          exact ⟨ret_int RV.out.symm,SB.out.bl⟩
        · have RV:Hid (R=scE (D.getD 0 0) t2):=RU
          have g0:=SB.out.get hl.out 0 (by omega)
          go_wp2_with (go_at_call 47;refine (tscaled_any _ _ _).mono ?_;rintro e w' ⟨rfl,rfl⟩)
          go_ret
          exact ⟨ret_int RV.out.symm,SB.out.bl⟩
      · skip
        have RV:Hid (R=fold3 D):=by unfold Hid;rw [RP.out];simp [pOp]
        clear RP
        go_wp2_with fail
        go_loopw [75,9] (fun i c w2=>∃ j:Nat,i=.int .i64 j∧c=.int .i64 ((D.take j).foldl cbE 0)∧Hid (j≤len k)∧w2=wr) (fun i _ _=>len k - (intOf i).toNat)
        case atStart=>exact ⟨0,rfl,rfl,Nat.zero_le _,rfl⟩
        case round =>
         obtain ⟨j,rfl,rfl,hj,rfl⟩:=hrel
         by_cases hq:j < len k
         · have hj1:(j:Int) < (len k:Int):=by omega
           have hj0:(0:Int)≤(j:Int):=by omega
           have gj:=ST.out.get hl.out j hq
           have ES:Hid ((D.take (j+1)).foldl cbE 0=cbE ((D.take j).foldl cbE 0) (D.getD j 0)):=by
            have hjd:j < D.length:=by rw [hl.out];exact hq
            unfold Hid
            rw [List.take_add_one,List.foldl_append,List.getD_eq_getElem?_getD,List.getElem?_eq_getElem hjd];rfl
           go_wp2_with (go_at_call 30;refine (tcomb_any _ _ _).mono ?_;rintro e w' ⟨rfl,rfl⟩)
           go_roundw
           case rel=>exact ⟨j+1,by go_num,by rw [ES.out,← List.getD_eq_getElem?_getD],by unfold Hid;omega,by first|trivial|rfl⟩
           case measure=>simp [intOf];omega
         · have hj1:¬ (j:Int) < (len k:Int):=by omega
           have ES:Hid ((D.take j).foldl cbE 0=R):=by unfold Hid;rw [RV.out,List.take_of_length_le (by rw [hl.out];omega)];rfl
           go_wp2
           go_ret
           exact ⟨ret_int ES.out,ST.out.bl⟩
      · skip
        have RV:Hid (R=fold3 D):=by unfold Hid;rw [RP.out];simp [pOp]
        clear RP
        go_wp2_with fail
        go_loopw [75,9] (fun i c w2=>∃ j:Nat,i=.int .i64 j∧c=.int .i64 ((D.take j).foldl cbE 0)∧Hid (j≤len k)∧w2=wr) (fun i _ _=>len k - (intOf i).toNat)
        case atStart=>exact ⟨0,rfl,rfl,Nat.zero_le _,rfl⟩
        case round =>
         obtain ⟨j,rfl,rfl,hj,rfl⟩:=hrel
         by_cases hq:j < len k
         · have hj1:(j:Int) < (len k:Int):=by omega
           have hj0:(0:Int)≤(j:Int):=by omega
           have gj:=ST.out.get hl.out j hq
           have ES:Hid ((D.take (j+1)).foldl cbE 0=cbE ((D.take j).foldl cbE 0) (D.getD j 0)):=by
            have hjd:j < D.length:=by rw [hl.out];exact hq
            unfold Hid
            rw [List.take_add_one,List.foldl_append,List.getD_eq_getElem?_getD,List.getElem?_eq_getElem hjd];rfl
           go_wp2_with (go_at_call 30;refine (tcomb_any _ _ _).mono ?_;rintro e w' ⟨rfl,rfl⟩)
           go_roundw
           case rel=>exact ⟨j+1,by go_num,by rw [ES.out,← List.getD_eq_getElem?_getD],by unfold Hid;omega,by first|trivial|rfl⟩
           case measure=>simp [intOf];omega
         · have hj1:¬ (j:Int) < (len k:Int):=by omega
           have ES:Hid ((D.take j).foldl cbE 0=R):=by unfold Hid;rw [RV.out,List.take_of_length_le (by rw [hl.out];omega)];rfl
           go_wp2
           go_ret
           exact ⟨ret_int ES.out,ST.out.bl⟩
      · skip
        have hk2:len k=3:=by have h:=HA.out;simp [argB] at h;omega
        have g0:=ST.out.get hl.out 0 (by omega)
        have g1:=ST.out.get hl.out 1 (by omega)
        have g2:=ST.out.get hl.out 2 (by omega)
        have RW:Hid (R=if D.getD 0 0=0 then cbE (D.getD 1 0) (D.getD 2 0) else 3):=by unfold Hid;rw [RP.out];simp [pOp]
        clear RP
        have h01:(0:Int) < (len k:Int):=by omega
        have h11:(1:Int) < (len k:Int):=by omega
        have h21:(2:Int) < (len k:Int):=by omega
        generalize D.getD 0 0=d0 at *
        generalize D.getD 1 0=d1 at *
        generalize D.getD 2 0=d2 at *
        by_cases hz:d0=0
        · have RV:Hid (R=cbE (d1) (d2)):=by unfold Hid;rw [RW.out,if_pos hz]
          have nz:(d0==0)=true:=by rw [hz];rfl
          clear hz RW
          go_upto_region 52 with (fail)
          go_region_with (go_at_call 30;refine (tcomb_any _ _ _).mono ?_;rintro e w' ⟨rfl,rfl⟩)
          all_goals (go_wp2;go_ret;exact ⟨ret_int RV.out.symm,ST.out.bl.drew⟩)
        · have RV:Hid (R=3):=by unfold Hid;rw [RW.out,if_neg hz]
          have nz:(d0==0)=false:=beq_eq_false_iff_ne.2 hz
          clear hz RW
          go_wp2
          go_ret
          exact ⟨ret_int RV.out.symm,ST.out.bl⟩
      · skip
        have RV:Hid (R=3):=by unfold Hid;rw [RP.out];simp [pOp]
        clear RP
        go_wp2
        go_ret
        exact ⟨ret_int RV.out.symm,ST.out.bl⟩
      · skip
        have hk2:len k=2:=by have h:=HA.out;simp [argB] at h;omega
        have g0:=ST.out.get hl.out 0 (by omega)
        have g1:=ST.out.get hl.out 1 (by omega)
        have RV:Hid (R=cbE (ivE (D.getD 0 0)) (D.getD 1 0)):=by unfold Hid;rw [RP.out];simp [pOp]
        clear RP
        have h01:(0:Int) < (len k:Int):=by omega
        have h11:(1:Int) < (len k:Int):=by omega
        go_upto_region 38 with (fail)
        go_region_with (first|(go_at_call 45;refine (tinv_any _ _).mono ?_;rintro e w' ⟨rfl,rfl⟩)|(go_at_call 30;refine (tcomb_any _ _ _).mono ?_;rintro e w' ⟨rfl,rfl⟩))
        all_goals (go_wp2;go_ret;exact ⟨ret_int RV.out.symm,ST.out.bl.drew⟩)
      · skip
        have hk2:len k=2:=by have h:=HA.out;simp [argB] at h;omega
        have g0:=ST.out.get hl.out 0 (by omega)
        have g1:=ST.out.get hl.out 1 (by omega)
        have RV:Hid (R=cbE (ivE (D.getD 0 0)) (D.getD 1 0)):=by unfold Hid;rw [RP.out];simp [pOp]
        clear RP
        have h01:(0:Int) < (len k:Int):=by omega
        have h11:(1:Int) < (len k:Int):=by omega
        go_upto_region 38 with (fail)
        go_region_with (first|(go_at_call 45;refine (tinv_any _ _).mono ?_;rintro e w' ⟨rfl,rfl⟩)|(go_at_call 30;refine (tcomb_any _ _ _).mono ?_;rintro e w' ⟨rfl,rfl⟩))
        all_goals (go_wp2;go_ret;exact ⟨ret_int RV.out.symm,ST.out.bl.drew⟩)
      · skip
        have RV:Hid (R=3):=by unfold Hid;rw [RP.out];simp [pOp]
        clear RP
        go_wp2
        go_ret
        exact ⟨ret_int RV.out.symm,ST.out.bl⟩
      · skip
        have hk2:len k=1:=by have h:=HA.out;simp [argB] at h;omega
        have g0:=ST.out.get hl.out 0 (by omega)
        have h01:(0:Int) < (len k:Int):=by omega
        have RV:Hid (R=ivE (D.getD 0 0)):=by unfold Hid;rw [RP.out];simp [pOp]
        clear RP
        go_wp2_with (go_at_call 45;refine (tinv_any _ _).mono ?_;rintro e w' ⟨rfl,rfl⟩)
        go_ret
        exact ⟨ret_int RV.out.symm,ST.out.bl⟩
      · skip
        have RV:Hid (R=fold3 D):=by unfold Hid;rw [RP.out];simp [pOp]
        clear RP
        go_wp2_with fail
        go_loopw [75,9] (fun i c w2=>∃ j:Nat,i=.int .i64 j∧c=.int .i64 ((D.take j).foldl cbE 0)∧Hid (j≤len k)∧w2=wr) (fun i _ _=>len k - (intOf i).toNat)
        case atStart=>exact ⟨0,rfl,rfl,Nat.zero_le _,rfl⟩
        case round =>
         obtain ⟨j,rfl,rfl,hj,rfl⟩:=hrel
         by_cases hq:j < len k
         · have hj1:(j:Int) < (len k:Int):=by omega
           have hj0:(0:Int)≤(j:Int):=by omega
           have gj:=ST.out.get hl.out j hq
           have ES:Hid ((D.take (j+1)).foldl cbE 0=cbE ((D.take j).foldl cbE 0) (D.getD j 0)):=by
            have hjd:j < D.length:=by rw [hl.out];exact hq
            unfold Hid
            rw [List.take_add_one,List.foldl_append,List.getD_eq_getElem?_getD,List.getElem?_eq_getElem hjd];rfl
           go_wp2_with (go_at_call 30;refine (tcomb_any _ _ _).mono ?_;rintro e w' ⟨rfl,rfl⟩)
           go_roundw
           case rel=>exact ⟨j+1,by go_num,by rw [ES.out,← List.getD_eq_getElem?_getD],by unfold Hid;omega,by first|trivial|rfl⟩
           case measure=>simp [intOf];omega
         · have hj1:¬ (j:Int) < (len k:Int):=by omega
           have ES:Hid ((D.take j).foldl cbE 0=R):=by unfold Hid;rw [RV.out,List.take_of_length_le (by rw [hl.out];omega)];rfl
           go_wp2
           go_ret
           exact ⟨ret_int ES.out,ST.out.bl⟩
      · skip
        have RV:Hid (R=fold3 D):=by unfold Hid;rw [RP.out];simp [pOp]
        clear RP
        go_wp2_with fail
        go_loopw [75,9] (fun i c w2=>∃ j:Nat,i=.int .i64 j∧c=.int .i64 ((D.take j).foldl cbE 0)∧Hid (j≤len k)∧w2=wr) (fun i _ _=>len k - (intOf i).toNat)
        case atStart=>exact ⟨0,rfl,rfl,Nat.zero_le _,rfl⟩
        case round =>
         obtain ⟨j,rfl,rfl,hj,rfl⟩:=hrel
         by_cases hq:j < len k
         · have hj1:(j:Int) < (len k:Int):=by omega
           have hj0:(0:Int)≤(j:Int):=by omega
           have gj:=ST.out.get hl.out j hq
           have ES:Hid ((D.take (j+1)).foldl cbE 0=cbE ((D.take j).foldl cbE 0) (D.getD j 0)):=by
            have hjd:j < D.length:=by rw [hl.out];exact hq
            unfold Hid
            rw [List.take_add_one,List.foldl_append,List.getD_eq_getElem?_getD,List.getElem?_eq_getElem hjd];rfl
           go_wp2_with (go_at_call 30;refine (tcomb_any _ _ _).mono ?_;rintro e w' ⟨rfl,rfl⟩)
           go_roundw
           case rel=>exact ⟨j+1,by go_num,by rw [ES.out,← List.getD_eq_getElem?_getD],by unfold Hid;omega,by first|trivial|rfl⟩
           case measure=>simp [intOf];omega
         · have hj1:¬ (j:Int) < (len k:Int):=by omega
           have ES:Hid ((D.take j).foldl cbE 0=R):=by unfold Hid;rw [RV.out,List.take_of_length_le (by rw [hl.out];omega)];rfl
           go_wp2
           go_ret
           exact ⟨ret_int ES.out,ST.out.bl⟩
      · skip
        have hk2:len k=2:=by have h:=HA.out;simp [argB] at h;omega
        have g0:=ST.out.get hl.out 0 (by omega)
        have g1:=ST.out.get hl.out 1 (by omega)
        have RV:Hid (R=cbE (ivE (D.getD 0 0)) (D.getD 1 0)):=by unfold Hid;rw [RP.out];simp [pOp]
        clear RP
        have h01:(0:Int) < (len k:Int):=by omega
        have h11:(1:Int) < (len k:Int):=by omega
        go_upto_region 38 with (fail)
        go_region_with (first|(go_at_call 45;refine (tinv_any _ _).mono ?_;rintro e w' ⟨rfl,rfl⟩)|(go_at_call 30;refine (tcomb_any _ _ _).mono ?_;rintro e w' ⟨rfl,rfl⟩))
        all_goals (go_wp2;go_ret;exact ⟨ret_int RV.out.symm,ST.out.bl.drew⟩)
    · have RV:Hid (R=0):=R1
      go_wp2
      go_ret
      exact ⟨ret_int RV.out.symm,ST.out.bl⟩
  | node b1 o1 a1 k1 r1 =>
    have hj:j < len k:=by have:=HR.out.1;simp [len] at this;omega
    obtain rfl:ptr=some ⟨b,o,none⟩:=HX.out.1 (by rintro rfl;simp [len] at hj)
    obtain ⟨⟨c0,c1,c2,c3⟩,hp1,hk1,hr1⟩:=HR.out.2.1
    have X1:Hid (ExAt wr b1 o1 a1 k1):=⟨hp1,hk1⟩
    have N1:=Lib.hid hr1
    clear hp1 hk1 hr1
    have hj1:(j:Int) < (len k:Int):=by omega
    have hj0:(0:Int)≤(j:Int):=by omega
    have W1:=Lib.hid (wfT_node HR.out.2.2.2.2.1)
    have Z1:Hid (sz k1≤200∧sz r1≤200):=by
     have e1:sz (BT.node b1 o1 a1 k1 r1)=1+sz k1+sz r1:=rfl
     have:=HR.out.2.2.2.2.2.1
     rw [e1] at this
     exact ⟨by omega,by omega⟩
    have BB:Hid (Below wr.heap.size wr (wr.alloc (.cells #[.int .i64 a1.op,.int .i64 a1.num,.string a1.name,.slice a1.ptr (len k1) a1.cap] 25))):=below_box _ _
    have SB:=Lib.hid (HR.out.2.2.2.2.2.2.2.1.next BB.out)
    have CC:=Lib.hid (HR.out.2.2.2.1.1 _ (X1.out.next BB.out) ⟨HR.out.2.2.1.1,HR.out.2.2.1.2.1⟩ W1.out.1 Z1.out.1)
    have q0:=SB.out.q0
    have q1:=SB.out.q1
    go_wp2_with fail
    refine CC.out.mono ?_
    rintro e w1 ⟨rfl,hb⟩
    have B1:=Lib.hid (BB.out.trans (hb.mono BB.out.size))
    have S1:=Lib.hid (SB.out.next hb)
    have ES:Hid ((D++[pT1 name clk a1 (sgF k1) (pTF name clk k1)])++pTF name clk r1=pTF name clk k):=by
     unfold Hid;rw [← HR.out.2.2.2.2.2.2.2.2.1];simp [pTF]
    generalize pT1 name clk a1 (sgF k1) (pTF name clk k1)=z1 at *
    clear hb CC SB BB q0 q1 c0 c1 c2 c3
    have hLj:Hid (D.length=j):=HR.out.2.2.2.2.2.2.1
    have hz1:w.heap.size+2 < w1.heap.size:=Nat.lt_of_lt_of_le hsz B1.out.size
    have q1:w1.cell? ⟨w.heap.size+2,j,none⟩=some (.int .i64 0):=by
     rw [S1.out.ow.cellAt j (by omega)]
     unfold intV
     rw [List.getElem?_map,List.getElem?_append_right (by rw [hLj.out];omega),hLj.out]
     simp [len]
    have q2:w1.frozen? ⟨w.heap.size+2,j,none⟩=false:=S1.out.ow.frozenAt j
    have ST2:=Lib.hid (S1.out.ow.stored j (.int .i64 z1))
    have hbs:Hid (Below (w.heap.size+2) w1 (w1.setCell ⟨w.heap.size+2,j,none⟩ (.int .i64 z1))):=(Below.refl _ _).grown ST2.out.2 (by omega) (fun m hm=>by cases hm;exact Nat.le_refl _)
    have S3:Hid (OfSt w (w1.setCell ⟨w.heap.size+2,j,none⟩ (.int .i64 z1)) name clk b o ⟨op,num,sname,some ⟨b,o,none⟩,acap⟩ k ((D++[z1])++List.replicate (len r1) 0)):=by
     refine ⟨?_,?_,?_,?_,?_,S1.out.bl.grown ST2.out.2 S1.out.bl.size (fun m hm=>by cases hm;omega),⟨S1.out.ex.1,S1.out.ex.2.below (HX.out.2.lt.mono (by omega)) hbs.out⟩⟩
     · rw [hbs.out.cell (p:=⟨w.heap.size,0,none⟩) (by simp)];exact S1.out.q0
     · rw [hbs.out.cell (p:=⟨w.heap.size,1,none⟩) (by simp)];exact S1.out.q1
     · rw [hbs.out.cell (p:=⟨w.heap.size+1,0,none⟩) (by simp)];exact S1.out.x0
     · rw [hbs.out.cell (p:=⟨w.heap.size+1,3,none⟩) (by simp)];exact S1.out.x3
     · have h:=ST2.out.1
       have e:=set_ints D (len r1) z1
       rw [hLj.out] at e
       simp only [len] at h
       first|(rw [e] at h;exact h)|(rw [show 1+len r1=len r1+1 by omega,e] at h;exact h)
    have q3:(w1.setCell ⟨w.heap.size+2,j,none⟩ (.int .i64 z1)).cell? ⟨w.heap.size+2,j,none⟩=some (.int .i64 z1):=by
     have h:=S3.out.get (by simp [hLj.out];have:=HR.out.1;simp [len] at this;omega) j hj
     rw [List.getD_eq_getElem?_getD,List.append_assoc,List.getElem?_append_right (by rw [hLj.out];omega),hLj.out] at h
     simpa using h
    have NX:Hid (FoAt (w1.setCell ⟨w.heap.size+2,j,none⟩ (.int .i64 z1)) r1 b (o+j * 4+4)):=(N1.out.next B1.out).below (HR.out.2.2.2.2.2.2.2.2.2.2.2.mono (by omega)) hbs.out
    cases hd:(D.all fun t=>t==0)
    · go_wp2
      go_roundw
      case rel =>
       obtain ⟨p1,-,p3,p4,-,-,p7,-,-,p11⟩:=HR.out
       simp [len] at p1
       refine ⟨j+1,r1,D++[z1],by go_num,by rw [all_snoc,hd];rfl,by simpa using hz1,by omega,?_,p3.2.2,p4.2,W1.out.2,Z1.out.2,by simp [p7],S3.out,ES.out,p11.2.2⟩
       rw [Nat.add_mul,Nat.one_mul,← Nat.add_assoc];exact NX.out
      case measure=>simp [intOf];omega
    · go_wp2
      go_roundw
      case rel =>
       obtain ⟨p1,-,p3,p4,-,-,p7,-,-,p11⟩:=HR.out
       simp [len] at p1
       refine ⟨j+1,r1,D++[z1],by go_num,by rw [all_snoc,hd];rfl,by simpa using hz1,by omega,?_,p3.2.2,p4.2,W1.out.2,Z1.out.2,by simp [p7],S3.out,ES.out,p11.2.2⟩
       rw [Nat.add_mul,Nat.one_mul,← Nat.add_assoc];exact NX.out
      case measure=>simp [intOf];omega
end Go.Proofs.YtfoedbfkddoibaaGreat
