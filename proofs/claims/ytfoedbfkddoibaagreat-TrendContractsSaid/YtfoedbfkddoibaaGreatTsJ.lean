import Derived.Test.YtfoedbfkddoibaaGreatTsG
namespace Go.Proofs.YtfoedbfkddoibaaGreat
set_option linter.unusedVariables false
set_option linter.unusedSimpArgs false
open Go.ChangeShapes Go.WideShapes Go.ChangeAt Go.RowKit
open Go.Deep (BT)
theorem li_lit (b o:Nat) (a:Nd) (k:Fo):li1 a k=(if litB a.op (kop ⟨b,o,a,k⟩)=true then litN a.op a.num (knum ⟨b,o,a,k⟩) else 0,litB a.op (kop ⟨b,o,a,k⟩)):=by
 unfold li1 litB litN
 by_cases h1:a.op=1∨a.op=2∨a.op=3
 · rw [if_pos h1,if_pos h1,if_pos (decide_eq_true (by omega))]
   rw [decide_eq_true (by omega)]
 rw [if_neg h1,if_neg h1]
 by_cases h4:a.op=4
 · rw [if_pos h4,if_pos h4,if_pos (decide_eq_true (by omega)),decide_eq_true (by omega)]
 rw [if_neg h4,if_neg h4]
 by_cases h5:a.op=5
 · rw [if_pos h5,if_pos h5,if_pos (decide_eq_true (by omega)),decide_eq_true (by omega)]
 rw [if_neg h5,if_neg h5]
 by_cases h7:a.op=7
 · rw [if_pos h7]
   cases k with
   | nil =>
     have e:kop ⟨b,o,a,.nil⟩=0:=rfl
     rw [e,if_neg (by rw [decide_eq_true_eq];omega),decide_eq_false (by omega)]
   | node b1 o1 a1 k1 r1 =>
     have e:kop ⟨b,o,a,.node b1 o1 a1 k1 r1⟩=a1.op:=rfl
     have e2:knum ⟨b,o,a,.node b1 o1 a1 k1 r1⟩=a1.num:=rfl
     rw [e,e2]
     dsimp only
     by_cases h8:a1.op=1∨a1.op=2
     · rw [if_pos h8,if_pos (decide_eq_true (by omega)),decide_eq_true (by omega)]
     · rw [if_neg h8,if_neg (by rw [decide_eq_true_eq];omega),decide_eq_false (by omega)]
 · rw [if_neg h7,if_neg (by rw [decide_eq_true_eq];omega),decide_eq_false (by omega)]
theorem wf_lit_at {w:World} {b o:Nat} {a:Nd} {k:Fo} (h:(wfB a (len k) && wfT k)=true) (hx:ExAt w b o a k) (hl:len k≤200) :
 MinAt w a.op a.ptr (len k) (kop ⟨b,o,a,k⟩) (knum ⟨b,o,a,k⟩)∧(litB a.op (kop ⟨b,o,a,k⟩)=true→a.op=7 → -9223372036854775807≤knum ⟨b,o,a,k⟩∧knum ⟨b,o,a,k⟩≤9223372036854775807):=by
 have hw:wfB a (len k)=true∧wfT k=true:=by rw [Bool.and_eq_true] at h;exact h
 refine ⟨MinAt.of (c:=⟨b,o,a,k⟩) hx (fun h7=>?_) (by show len k≤_;omega),fun _ h7=>?_⟩
 · have:=(wf_parts hw.1).2.1
   have h7':a.op=7:=h7
   rw [h7'] at this
   simp [argB] at this
   show 0 < len k
   omega
 · have hk:=hw.2
   unfold knum
   revert hk
   cases k with
   | nil=>intro _;show -9223372036854775807≤(0:Int)∧(0:Int)≤9223372036854775807;decide
   | node b1 o1 a1 k1 r1 =>
     intro hk
     have h9 : -9223372036854775807≤a1.num∧a1.num≤9223372036854775807:=by
      have h':((wfB a1 (len k1) && wfT k1) && wfT r1)=true:=hk
      rw [Bool.and_eq_true,Bool.and_eq_true] at h'
      have h3:=(wf_parts h'.1.1).2.2.1
      unfold numB at h3
      (repeat' split at h3)<;>(simp only [decide_eq_true_eq] at h3;omega)
     exact h9
theorem own_slcj {w:World} {B:Nat} {e:TypeId} {size:Nat} {v:Value} {n:Nat} {xs:List Value} (h:w.ownsRow B e size v n xs):∃ p cap,v=.slice p n cap:=by
 rcases h.2 with ⟨rfl,hn⟩|⟨g,cap,cur,rfl,-⟩
 · exact ⟨none,0,by rw [hn]⟩
 · exact ⟨_,_,rfl⟩
theorem own_addr2 {w:World} {B:Nat} {e:TypeId} {size:Nat} {v:Value} {n:Nat} {xs:List Value} (h:w.ownsRow B e size v n xs) (hn:0 < n):∃ g cap,v=.slice (some ⟨g,0,none⟩) n cap:=by
 rcases h.2 with ⟨rfl,h0⟩|⟨g,cap,cur,rfl,-⟩
 · omega
 · exact ⟨_,_,rfl⟩
theorem all_tk (D:List Int) (j:Nat) (hj:j < D.length):((D.take (j+1)).all fun t=>t==0)=(((D.take j).all fun t=>t==0) && (D.getD j 0==0)):=by
 rw [List.take_add_one,List.all_append,List.getD_eq_getElem?_getD,List.getElem?_eq_getElem hj]
 simp
theorem any_no (D:List Int) (j:Nat) (hj:j < D.length) (h:D.getD j 0≠0):anyE D=3:=by
 unfold anyE
 rw [if_neg]
 intro q
 exact h (getD_zero q j)
theorem any_yes (D:List Int) (h:(D.all fun t=>t==0)=true):anyE D=0:=by unfold anyE;rw [if_pos h]
def RofC (name:ByteArray) (kk:Int) (b o:Nat) (a:Nd) (k:Fo):Prop:=∀ w:World,ExAt w b o a k→ExOk a k→(wfB a (len k) && wfT k)=true→sz k≤200 →
 Calls Tryz.prog 25 #[.agg #[.int .i64 a.op,.int .i64 a.num,.string a.name,.slice a.ptr (len k) a.cap],.string name,.int .i64 kk] w fun e w'=>e=.returned (.int .i64 (rT1 name (decide (kk=3)) a (liF k) (rTF name (decide (kk=3)) k)))∧Below w.heap.size w w'
structure RoSt (w wr:World) (b o:Nat) (a:Nd) (k:Fo) (vx:Value) (D:List Int):Prop where
 x0:wr.cell? ⟨w.heap.size,0,none⟩=some (.int .i64 a.op)
 x3:wr.cell? ⟨w.heap.size,3,none⟩=some (.slice a.ptr (len k) a.cap)
 ow:wr.ownsRow (w.heap.size+1) 3 1 vx D.length (intV D)
 bl:Below w.heap.size w wr
 ex:ExAt wr b o a k
theorem RoSt.next {w wr w2:World} {b o:Nat} {a:Nd} {k:Fo} {vx:Value} {D:List Int} (h:RoSt w wr b o a k vx D) (hb:Below wr.heap.size wr w2):RoSt w w2 b o a k vx D:=by
 have e:∀ p v,wr.cell? p=some v→w2.cell? p=some v:=fun p v q=>by rw [hb.cell (block_lt_of_cell q)];exact q
 exact ⟨e _ _ h.x0,e _ _ h.x3,own_below h.ow hb,h.bl.trans (hb.mono h.bl.size),h.ex.next hb⟩
theorem RoSt.get {w wr:World} {b o:Nat} {a:Nd} {k:Fo} {g n cap:Nat} {D:List Int} (h:RoSt w wr b o a k (.slice (some ⟨g,0,none⟩) n cap) D) (i:Nat) (hi:i < D.length):wr.cell? ⟨g,i,none⟩=some (.int .i64 (D.getD i 0)):=by
 obtain ⟨g',cap',e⟩:=own_addr2 h.ow (by omega)
 cases e
 rw [h.ow.cellAt i (by omega)]
 unfold intV
 rw [List.getElem?_map,List.getD_eq_getElem?_getD,List.getElem?_eq_getElem (by omega)]
 rfl
set_option maxHeartbeats 2000000 in
set_option maxRecDepth 100000 in
theorem rof_name (name:ByteArray) (kk:Int) (b o:Nat) (num:Int) (sname:ByteArray) (ptr:Option Addr) (acap:Nat) (k:Fo) (w:World) :
 Calls Tryz.prog 25 #[.agg #[.int .i64 6,.int .i64 num,.string sname,.slice ptr (len k) acap],.string name,.int .i64 kk] w fun e w'=>e=.returned (.int .i64 (nameE name (decide (kk=3)) sname))∧Below w.heap.size w w':=by
 have hb:Hid (Below w.heap.size w (w.alloc (.cells #[.int .i64 6,.int .i64 num,.string sname,.slice ptr (len k) acap] 25))):=below_box w _
 go_enter Tryz.func25,Tryz.ntmps25
 by_cases hn:sname=name
 · subst hn
   have n1:(sname.toList==sname.toList)=true:=by simp
   by_cases hk:kk=3
   · have n2:(kk==3)=true:=by simp [hk]
     have e:Hid (nameE sname (decide (kk=3)) sname=3):=by unfold Hid nameE;simp [hk]
     clear hk
     go_wp2
     go_ret
     exact ⟨ret_int e.out.symm,hb.out⟩
   · have n2:(kk==3)=false:=beq_eq_false_iff_ne.2 hk
     have e:Hid (nameE sname (decide (kk=3)) sname=1):=by unfold Hid nameE;simp [hk]
     clear hk
     go_wp2
     go_ret
     exact ⟨ret_int e.out.symm,hb.out⟩
 · have n1:(sname.toList==name.toList)=false:=by
    rw [beq_eq_false_iff_ne,Lib.toList_data,Lib.toList_data]
    exact fun q=>hn (ByteArray.ext (Array.toList_inj.1 q))
   have e:Hid (nameE name (decide (kk=3)) sname=0):=by unfold Hid nameE;simp [hn]
   go_wp2
   go_ret
   exact ⟨ret_int e.out.symm,hb.out⟩
set_option maxHeartbeats 16000000 in
set_option maxRecDepth 100000 in
theorem rof_any (name:ByteArray) (kk:Int) (b o:Nat) (a:Nd) (k:Fo):RofC name kk b o a k:=by
 refine tree_of (P:=RofC name kk) ?_ b o a k
 clear b o a k
 intro b o a k ih w hx hok hwf hz
 obtain ⟨op,num,sname,ptr,acap⟩:=a
 obtain ⟨i0,hi,hi0,hi1,hi2⟩:=info_parts Tryz.infoI
 show Calls Tryz.prog 25 #[.agg #[.int .i64 op,.int .i64 num,.string sname,.slice ptr (len k) acap],.string name,.int .i64 kk] w _
 by_cases h6:op=6
 · subst h6
   exact rof_name name kk b o num sname ptr acap k w
 have b6:(op==6)=false:=by simp [h6]
 have IH:=Lib.hid ih
 have HX:=Lib.hid hx
 have HOK:=Lib.hid hok
 have hwb:wfB ⟨op,num,sname,ptr,acap⟩ (len k)=true∧wfT k=true:=by rw [Bool.and_eq_true] at hwf;exact hwf
 have HWT:=Lib.hid hwb.2
 have HA:=Lib.hid (wf_parts hwb.1).2.1
 have HO:=Lib.hid (wf_parts hwb.1).1
 have HZ:=Lib.hid hz
 have hk:len k≤200:=Nat.le_trans (len_le_sz k) hz
 generalize hcl:decide (kk=3)=clk at *
 have R0:Hid (rT1 name clk ⟨op,num,sname,ptr,acap⟩ (liF k) (rTF name clk k)=rOp op (liF k) (rTF name clk k)):=by unfold Hid rT1;dsimp only;rw [if_neg h6]
 have HCL:=Lib.hid hcl
 generalize rT1 name clk ⟨op,num,sname,ptr,acap⟩ (liF k) (rTF name clk k)=R at *
 have H6:=Lib.hid h6
 clear ih hx hok hwf hz hwb h6 hcl
 dsimp only at HA HO
 have BA:Hid (Below w.heap.size w (w.alloc (.cells #[.int .i64 op,.int .i64 num,.string sname,.slice ptr (len k) acap] 25))):=below_box w _
 have S00:Hid (RoSt w (w.alloc (.cells #[.int .i64 op,.int .i64 num,.string sname,.slice ptr (len k) acap] 25)) b o ⟨op,num,sname,ptr,acap⟩ k (.slice none 0 0) []):=by
  refine ⟨?_,?_,World.ownsRow_nil _ _ _ _,BA.out,HX.out.next BA.out⟩<;>simp [go_sem]
 have hz0:(w.alloc (.cells #[.int .i64 op,.int .i64 num,.string sname,.slice ptr (len k) acap] 25)).heap.size=w.heap.size+1:=by simp
 go_enter Tryz.func25,Tryz.ntmps25
 go_wp2_with fail
 go_loopw [7,8] (fun v i wr=>∃ (vx:Value) (j:Nat) (r:Fo) (L:List Int),vx=v∧i=.int .i64 j∧w.heap.size+1≤wr.heap.size ∧
  Hid (j+len r=len k∧FoAt wr r b (o+j * 4)∧FoOk r∧AllT (RofC name kk) r∧wfT r=true∧sz r≤200∧L.length=j∧RoSt w wr b o ⟨op,num,sname,ptr,acap⟩ k vx L∧L++rTF name clk r=rTF name clk k∧FoLt w.heap.size r b)) (fun _ i _=>len k - (intOf i).toNat)
 case atStart =>
  refine ⟨_,0,k,[],rfl,rfl,by rw [hz0];omega,by omega,?_,HOK.out.2,IH.out,HWT.out,HZ.out,rfl,S00.out,rfl,HX.out.2.lt⟩
  rw [Nat.zero_mul,Nat.add_zero];exact S00.out.ex.2
 case round =>
  obtain ⟨vx,j,r,D,rfl,rfl,hsz,HR⟩:=hrel
  cases r with
  | nil =>
    have hj:¬ (j:Int) < (len k:Int):=by have:=HR.out.1;simp [len] at this;omega
    have DE:Hid (D=rTF name clk k):=by
     have h9:=HR.out.2.2.2.2.2.2.2.2.1
     unfold Hid;rw [← h9];simp [rTF]
    have hl:Hid (D.length=len k):=by
     have h1:=HR.out.1
     have h2:=HR.out.2.2.2.2.2.2.1
     simp [len] at h1;unfold Hid;omega
    have ST:Hid (RoSt w wr b o ⟨op,num,sname,ptr,acap⟩ k vx D):=HR.out.2.2.2.2.2.2.2.1
    have RP:Hid (R=rOp op (liF k) D):=by unfold Hid;rw [R0.out,DE.out]
    clear R0 DE HR S00 IH hz0 BA
    have x0:=ST.out.x0
    have x3:=ST.out.x3
    have hop:op=1∨op=2∨op=3∨op=4∨op=5∨op=7∨op=8∨op=9∨op=10∨op=11∨op=12∨op=13∨op=14∨op=15∨op=16∨op=17∨op=18∨op=19∨op=20∨op=21∨op=22:=by
     have:=HO.out
     have h6:op≠6:=H6.out
     omega
    clear HO b6 H6
    rcases hop with rfl|rfl|rfl|rfl|rfl|rfl|rfl|rfl|rfl|rfl|rfl|rfl|rfl|rfl|rfl|rfl|rfl|rfl|rfl|rfl|rfl
    · skip
      have hk2:len k=0:=by have h:=HA.out;simp [argB] at h;omega
      have RV:Hid (R=0):=by
       have hD:D=[]:=List.length_eq_zero_iff.1 (by rw [hl.out];exact hk2)
       unfold Hid;rw [RP.out,hD];simp [rOp,anyE]
      obtain ⟨pv,cx,hvx⟩:=own_slcj ST.out.ow
      subst hvx
      have hD0:¬ (0:Int) < (D.length:Int):=by rw [hl.out];omega
      clear RP
      go_wp2_with fail
      go_loopw [17] (fun i w2=>i=.int .i64 0∧w2=wr) (fun i _=>0)
      case atStart=>exact ⟨rfl,rfl⟩
      case round =>
       obtain ⟨rfl,rfl⟩:=hrel
       go_wp2
       go_ret
       exact ⟨ret_int RV.out.symm,ST.out.bl⟩
    · skip
      have hk2:len k=0:=by have h:=HA.out;simp [argB] at h;omega
      have RV:Hid (R=0):=by
       have hD:D=[]:=List.length_eq_zero_iff.1 (by rw [hl.out];exact hk2)
       unfold Hid;rw [RP.out,hD];simp [rOp,anyE]
      obtain ⟨pv,cx,hvx⟩:=own_slcj ST.out.ow
      subst hvx
      have hD0:¬ (0:Int) < (D.length:Int):=by rw [hl.out];omega
      clear RP
      go_wp2_with fail
      go_loopw [17] (fun i w2=>i=.int .i64 0∧w2=wr) (fun i _=>0)
      case atStart=>exact ⟨rfl,rfl⟩
      case round =>
       obtain ⟨rfl,rfl⟩:=hrel
       go_wp2
       go_ret
       exact ⟨ret_int RV.out.symm,ST.out.bl⟩
    · skip
      have hk2:len k=0:=by have h:=HA.out;simp [argB] at h;omega
      have RV:Hid (R=0):=by
       have hD:D=[]:=List.length_eq_zero_iff.1 (by rw [hl.out];exact hk2)
       unfold Hid;rw [RP.out,hD];simp [rOp,anyE]
      obtain ⟨pv,cx,hvx⟩:=own_slcj ST.out.ow
      subst hvx
      have hD0:¬ (0:Int) < (D.length:Int):=by rw [hl.out];omega
      clear RP
      go_wp2_with fail
      go_loopw [17] (fun i w2=>i=.int .i64 0∧w2=wr) (fun i _=>0)
      case atStart=>exact ⟨rfl,rfl⟩
      case round =>
       obtain ⟨rfl,rfl⟩:=hrel
       go_wp2
       go_ret
       exact ⟨ret_int RV.out.symm,ST.out.bl⟩
    · skip
      have hk2:len k=0:=by have h:=HA.out;simp [argB] at h;omega
      have RV:Hid (R=0):=by
       have hD:D=[]:=List.length_eq_zero_iff.1 (by rw [hl.out];exact hk2)
       unfold Hid;rw [RP.out,hD];simp [rOp,anyE]
      obtain ⟨pv,cx,hvx⟩:=own_slcj ST.out.ow
      subst hvx
      have hD0:¬ (0:Int) < (D.length:Int):=by rw [hl.out];omega
      clear RP
      go_wp2_with fail
      go_loopw [17] (fun i w2=>i=.int .i64 0∧w2=wr) (fun i _=>0)
      case atStart=>exact ⟨rfl,rfl⟩
      case round =>
       obtain ⟨rfl,rfl⟩:=hrel
       go_wp2
       go_ret
       exact ⟨ret_int RV.out.symm,ST.out.bl⟩
    · skip
      have hk2:len k=0:=by have h:=HA.out;simp [argB] at h;omega
      have RV:Hid (R=0):=by
       have hD:D=[]:=List.length_eq_zero_iff.1 (by rw [hl.out];exact hk2)
       unfold Hid;rw [RP.out,hD];simp [rOp,anyE]
      obtain ⟨pv,cx,hvx⟩:=own_slcj ST.out.ow
      subst hvx
      have hD0:¬ (0:Int) < (D.length:Int):=by rw [hl.out];omega
      clear RP
      go_wp2_with fail
      go_loopw [17] (fun i w2=>i=.int .i64 0∧w2=wr) (fun i _=>0)
      case atStart=>exact ⟨rfl,rfl⟩
      case round =>
       obtain ⟨rfl,rfl⟩:=hrel
       go_wp2
       go_ret
       exact ⟨ret_int RV.out.symm,ST.out.bl⟩
    · skip
      have hk2:len k=1:=by have h:=HA.out;simp [argB] at h;omega
      obtain ⟨g,cx,rfl⟩:=own_addr2 ST.out.ow (by rw [hl.out];omega)
      have g0:=ST.out.get 0 (by rw [hl.out];omega)
      have h01:(0:Int) < (D.length:Int):=by rw [hl.out];omega
      have RV:Hid (R=ivE (D.getD 0 0)):=by unfold Hid;rw [RP.out];simp only [rOp];simp
      clear RP
      generalize D.getD 0 0=d0 at *
      go_wp2_with (go_at_call 35;refine (rinv_any _ _).mono ?_;rintro e w' ⟨rfl,rfl⟩)
      go_ret
      exact ⟨ret_int RV.out.symm,ST.out.bl⟩
    · skip
      have hk2:0 < len k:=by have h:=HA.out;simp [argB] at h;omega
      obtain ⟨g,cx,rfl⟩:=own_addr2 ST.out.ow (by rw [hl.out];omega)
      have RV:Hid (R=fold3 D):=by unfold Hid;rw [RP.out];simp [rOp]
      clear RP
      go_wp2_with fail
      go_loopw [9,10] (fun c i w2=>∃ j:Nat,i=.int .i64 j∧c=.int .i64 ((D.take j).foldl cbE 0)∧Hid (j≤len k)∧w2=wr) (fun _ i _=>len k - (intOf i).toNat)
      case atStart=>exact ⟨0,rfl,rfl,Nat.zero_le _,rfl⟩
      case round =>
       obtain ⟨j,rfl,rfl,hj,rfl⟩:=hrel
       by_cases hq:j < len k
       · have hj1:(j:Int) < (D.length:Int):=by rw [hl.out];omega
         have hj0:(0:Int)≤(j:Int):=by omega
         have gj:=ST.out.get j (by rw [hl.out];exact hq)
         have ES:Hid ((D.take (j+1)).foldl cbE 0=cbE ((D.take j).foldl cbE 0) (D.getD j 0)):=by
          have hjd:j < D.length:=by rw [hl.out];exact hq
          unfold Hid
          rw [List.take_add_one,List.foldl_append,List.getD_eq_getElem?_getD,List.getElem?_eq_getElem hjd];rfl
         generalize D.getD j 0=dj at *
         go_wp2_with (go_at_call 33;refine (rcomb_any _ _ _).mono ?_;rintro e w' ⟨rfl,rfl⟩)
         go_roundw
         case rel=>exact ⟨j+1,by go_num,by rw [ES.out],by unfold Hid;omega,by first|trivial|rfl⟩
         case measure=>simp [intOf];omega
       · have hj1:¬ (j:Int) < (D.length:Int):=by rw [hl.out];omega
         have ES:Hid ((D.take j).foldl cbE 0=R):=by unfold Hid;rw [RV.out,List.take_of_length_le (by rw [hl.out];omega)];rfl
         go_wp2
         go_ret
         exact ⟨ret_int ES.out,ST.out.bl⟩
    · skip
      have hk2:len k=2:=by have h:=HA.out;simp [argB] at h;omega
      obtain ⟨g,cx,rfl⟩:=own_addr2 ST.out.ow (by rw [hl.out];omega)
      have g0:=ST.out.get 0 (by rw [hl.out];omega)
      have g1:=ST.out.get 1 (by rw [hl.out];omega)
      have RV:Hid (R=cbE (D.getD 0 0) (ivE (D.getD 1 0))):=by unfold Hid;rw [RP.out];simp [rOp]
      clear RP
      have h01:(0:Int) < (D.length:Int):=by rw [hl.out];omega
      have h11:(1:Int) < (D.length:Int):=by rw [hl.out];omega
      generalize D.getD 0 0=d0 at *
      generalize D.getD 1 0=d1 at *
      go_upto_region 28 with (fail)
      go_region_with (first|(go_at_call 35;refine (rinv_any _ _).mono ?_;rintro e w' ⟨rfl,rfl⟩)|(go_at_call 33;refine (rcomb_any _ _ _).mono ?_;rintro e w' ⟨rfl,rfl⟩))
      all_goals (go_wp2;go_ret;exact ⟨ret_int RV.out.symm,ST.out.bl.drew⟩)
    · skip
      have hk2:len k=2:=by have h:=HA.out;simp [argB] at h;omega
      obtain ⟨g,cx,rfl⟩:=own_addr2 ST.out.ow (by rw [hl.out];omega)
      cases k with
      | nil=>simp [len] at hk2
      | node b1 o1 a1 k1 r1 =>
      cases r1 with
      | nil=>simp [len] at hk2
      | node b2 o2 a2 k2 r2 =>
      obtain rfl:ptr=some ⟨b,o,none⟩:=HX.out.1 (by simp)
      have hk0:(0:Int) < (len (BT.node b1 o1 a1 k1 (BT.node b2 o2 a2 k2 r2)):Int):=by omega
      have hk11:(1:Int) < (len (BT.node b1 o1 a1 k1 (BT.node b2 o2 a2 k2 r2)):Int):=by omega
      have L12:Hid (len k1≤200∧len k2≤200):=by
       have h:=HZ.out
       have e1:sz (BT.node b1 o1 a1 k1 (BT.node b2 o2 a2 k2 r2))=1+sz k1+(1+sz k2+sz r2):=rfl
       rw [e1] at h
       have:=len_le_sz k1
       have:=len_le_sz k2
       exact ⟨by omega,by omega⟩
      have C1:=Lib.hid (fun (w:World) (hx:ExAt w b1 o1 a1 k1)=>rlit_any a1.op a1.num a1.name a1.ptr (len k1) a1.cap (kop ⟨b1,o1,a1,k1⟩) (knum ⟨b1,o1,a1,k1⟩) w (wf_lit_at (wfT_node HWT.out).1 hx L12.out.1).1 (wf_lit_at (wfT_node HWT.out).1 hx L12.out.1).2)
      have C2:=Lib.hid (fun (w:World) (hx:ExAt w b2 o2 a2 k2)=>rlit_any a2.op a2.num a2.name a2.ptr (len k2) a2.cap (kop ⟨b2,o2,a2,k2⟩) (knum ⟨b2,o2,a2,k2⟩) w (wf_lit_at (wfT_node (wfT_node HWT.out).2).1 hx L12.out.2).1 (wf_lit_at (wfT_node (wfT_node HWT.out).2).1 hx L12.out.2).2)
      have S0:Hid ((liF (BT.node b1 o1 a1 k1 (BT.node b2 o2 a2 k2 r2))).getD 0 (0,false)=(if litB a1.op (kop ⟨b1,o1,a1,k1⟩)=true then litN a1.op a1.num (knum ⟨b1,o1,a1,k1⟩) else 0,litB a1.op (kop ⟨b1,o1,a1,k1⟩))):=li_lit b1 o1 a1 k1
      have S1:Hid ((liF (BT.node b1 o1 a1 k1 (BT.node b2 o2 a2 k2 r2))).getD 1 (0,false)=(if litB a2.op (kop ⟨b2,o2,a2,k2⟩)=true then litN a2.op a2.num (knum ⟨b2,o2,a2,k2⟩) else 0,litB a2.op (kop ⟨b2,o2,a2,k2⟩))):=li_lit b2 o2 a2 k2
      clear L12
      generalize (if litB a1.op (kop ⟨b1,o1,a1,k1⟩)=true then litN a1.op a1.num (knum ⟨b1,o1,a1,k1⟩) else 0)=t1 at *
      generalize litB a1.op (kop ⟨b1,o1,a1,k1⟩)=u1 at *
      generalize (if litB a2.op (kop ⟨b2,o2,a2,k2⟩)=true then litN a2.op a2.num (knum ⟨b2,o2,a2,k2⟩) else 0)=t2 at *
      generalize litB a2.op (kop ⟨b2,o2,a2,k2⟩)=u2 at *
      have RW:Hid (R=if u1=true then tmE t1 (D.getD 1 0) else if u2=true then tmE t2 (D.getD 0 0) else anyE D):=by
       have h0:=S0.out
       have h1:=S1.out
       rw [List.getD_eq_getElem?_getD] at h0 h1
       unfold Hid;rw [RP.out];simp [rOp,h0,h1]
      clear RP S0 S1
      have G0:=Lib.hid (fun w2 (s:RoSt w w2 b o ⟨10,num,sname,some ⟨b,o,none⟩,acap⟩ (BT.node b1 o1 a1 k1 (BT.node b2 o2 a2 k2 r2)) (.slice (some ⟨g,0,none⟩) D.length cx) D)=>s.get 0 (by rw [hl.out];omega))
      have G1:=Lib.hid (fun w2 (s:RoSt w w2 b o ⟨10,num,sname,some ⟨b,o,none⟩,acap⟩ (BT.node b1 o1 a1 k1 (BT.node b2 o2 a2 k2 r2)) (.slice (some ⟨g,0,none⟩) D.length cx) D)=>s.get 1 (by rw [hl.out];omega))
      have h01:(0:Int) < (D.length:Int):=by rw [hl.out];omega
      have h11:(1:Int) < (D.length:Int):=by rw [hl.out];omega
      generalize D.getD 0 0=d0 at *
      generalize D.getD 1 0=d1 at *
      obtain ⟨⟨c0,c1,c2,c3⟩,hp1,hk1,-⟩:=ST.out.ex.2
      have CC:=Lib.hid (C1.out wr ⟨hp1,hk1⟩)
      clear hp1 hk1
      go_wp2_with fail
      refine CC.out.mono ?_
      rintro e wa ⟨rfl,hb⟩
      have SA:=Lib.hid (ST.out.next hb)
      clear hb CC c0 c1 c2 c3 x0 x3
      have x0:=SA.out.x0
      have x3:=SA.out.x3
      cases u1
      · have RU : Hid (R=if u2=true then tmE t2 d0 else anyE D):=RW
        clear RW
        obtain ⟨-,-,-,⟨d0,d1,d2,d3⟩,hp2,hk2',-⟩:=SA.out.ex.2
        have d1:wa.cell? ⟨b,o+5,none⟩=some (.int .i64 a2.num):=d1
        have d2:wa.cell? ⟨b,o+6,none⟩=some (.string a2.name):=d2
        have d3:wa.cell? ⟨b,o+7,none⟩=some (.slice a2.ptr (len k2) a2.cap):=d3
        have CC:=Lib.hid (C2.out wa ⟨hp2,hk2'⟩)
        clear hp2 hk2'
        go_wp2_with fail
        refine CC.out.mono ?_
        rintro e wb ⟨rfl,hb⟩
        have SB:=Lib.hid (SA.out.next hb)
        clear hb CC d0 d1 d2 d3 x0 x3
        have x0:=SB.out.x0
        have x3:=SB.out.x3
        cases u2
        · have RV:Hid (R=anyE D):=RU
          go_wp2_with fail
          go_loopw [17] (fun i w2=>∃ j:Nat,i=.int .i64 j∧Hid (j≤len (BT.node b1 o1 a1 k1 (BT.node b2 o2 a2 k2 r2))∧((D.take j).all fun t=>t==0)=true)∧w2=wb) (fun i _=>len (BT.node b1 o1 a1 k1 (BT.node b2 o2 a2 k2 r2)) - (intOf i).toNat)
          case atStart=>exact ⟨0,rfl,⟨Nat.zero_le _,rfl⟩,rfl⟩
          case round =>
           obtain ⟨j,rfl,hj,rfl⟩:=hrel
           by_cases hq:j < len (BT.node b1 o1 a1 k1 (BT.node b2 o2 a2 k2 r2))
           · have hj1:(j:Int) < (D.length:Int):=by rw [hl.out];omega
             have hj0:(0:Int)≤(j:Int):=by omega
             have gj:=SB.out.get j (by rw [hl.out];exact hq)
             have hjd:Hid (j < D.length):=by unfold Hid;rw [hl.out];exact hq
             have AT:=Lib.hid (all_tk D j hjd.out)
             have AN:=Lib.hid (any_no D j hjd.out)
             generalize D.getD j 0=dj at *
             by_cases hz:dj=0
             · have nz:(dj != 0)=false:=by rw [hz];rfl
               have A2:Hid (((D.take (j+1)).all fun t=>t==0)=true):=by unfold Hid;rw [AT.out,hj.out.2,hz];rfl
               clear hz AT AN
               go_wp2
               go_roundw
               case rel=>exact ⟨j+1,by go_num,⟨by omega,A2.out⟩,by first|trivial|rfl⟩
               case measure=>simp [intOf];omega
             · have nz:(dj != 0)=true:=bne_iff_ne.2 hz
               have RW:Hid (R=3):=RV.out.trans (AN.out hz)
               clear hz AT AN
               go_wp2
               go_ret
               exact ⟨ret_int RW.out.symm,SB.out.bl⟩
           · have hj1:¬ (j:Int) < (D.length:Int):=by rw [hl.out];omega
             have RW:Hid (R=0):=by
              have h:=hj.out.2
              rw [List.take_of_length_le (by rw [hl.out];omega)] at h
              exact RV.out.trans (any_yes D h)
             go_wp2
             go_ret
             exact ⟨ret_int RW.out.symm,SB.out.bl⟩
        · have RV:Hid (R=tmE t2 d0):=RU
          have g0:=G0.out _ SB.out
          go_wp2_with (go_at_call 53;refine (rtimes_any _ _ _).mono ?_;rintro e w' ⟨rfl,rfl⟩)
          go_ret
          exact ⟨ret_int RV.out.symm,SB.out.bl⟩
      · have RV:Hid (R=tmE t1 d1):=RW
        have g1:=G1.out _ SA.out
        go_wp2_with (go_at_call 53;refine (rtimes_any _ _ _).mono ?_;rintro e w' ⟨rfl,rfl⟩)
        go_ret
        exact ⟨ret_int RV.out.symm,SA.out.bl⟩
    · skip
      have hk2:len k=2:=by have h:=HA.out;simp [argB] at h;omega
      obtain ⟨g,cx,rfl⟩:=own_addr2 ST.out.ow (by rw [hl.out];omega)
      cases k with
      | nil=>simp [len] at hk2
      | node b1 o1 a1 k1 r1 =>
      cases r1 with
      | nil=>simp [len] at hk2
      | node b2 o2 a2 k2 r2 =>
      obtain rfl:ptr=some ⟨b,o,none⟩:=HX.out.1 (by simp)
      have hk0:(0:Int) < (len (BT.node b1 o1 a1 k1 (BT.node b2 o2 a2 k2 r2)):Int):=by omega
      have hk11:(1:Int) < (len (BT.node b1 o1 a1 k1 (BT.node b2 o2 a2 k2 r2)):Int):=by omega
      have L12:Hid (len k1≤200∧len k2≤200):=by
       have h:=HZ.out
       have e1:sz (BT.node b1 o1 a1 k1 (BT.node b2 o2 a2 k2 r2))=1+sz k1+(1+sz k2+sz r2):=rfl
       rw [e1] at h
       have:=len_le_sz k1
       have:=len_le_sz k2
       exact ⟨by omega,by omega⟩
      have C1:=Lib.hid (fun (w:World) (hx:ExAt w b1 o1 a1 k1)=>rlit_any a1.op a1.num a1.name a1.ptr (len k1) a1.cap (kop ⟨b1,o1,a1,k1⟩) (knum ⟨b1,o1,a1,k1⟩) w (wf_lit_at (wfT_node HWT.out).1 hx L12.out.1).1 (wf_lit_at (wfT_node HWT.out).1 hx L12.out.1).2)
      have C2:=Lib.hid (fun (w:World) (hx:ExAt w b2 o2 a2 k2)=>rlit_any a2.op a2.num a2.name a2.ptr (len k2) a2.cap (kop ⟨b2,o2,a2,k2⟩) (knum ⟨b2,o2,a2,k2⟩) w (wf_lit_at (wfT_node (wfT_node HWT.out).2).1 hx L12.out.2).1 (wf_lit_at (wfT_node (wfT_node HWT.out).2).1 hx L12.out.2).2)
      have S0:Hid ((liF (BT.node b1 o1 a1 k1 (BT.node b2 o2 a2 k2 r2))).getD 0 (0,false)=(if litB a1.op (kop ⟨b1,o1,a1,k1⟩)=true then litN a1.op a1.num (knum ⟨b1,o1,a1,k1⟩) else 0,litB a1.op (kop ⟨b1,o1,a1,k1⟩))):=li_lit b1 o1 a1 k1
      have S1:Hid ((liF (BT.node b1 o1 a1 k1 (BT.node b2 o2 a2 k2 r2))).getD 1 (0,false)=(if litB a2.op (kop ⟨b2,o2,a2,k2⟩)=true then litN a2.op a2.num (knum ⟨b2,o2,a2,k2⟩) else 0,litB a2.op (kop ⟨b2,o2,a2,k2⟩))):=li_lit b2 o2 a2 k2
      clear L12
      generalize (if litB a1.op (kop ⟨b1,o1,a1,k1⟩)=true then litN a1.op a1.num (knum ⟨b1,o1,a1,k1⟩) else 0)=t1 at *
      generalize litB a1.op (kop ⟨b1,o1,a1,k1⟩)=u1 at *
      generalize (if litB a2.op (kop ⟨b2,o2,a2,k2⟩)=true then litN a2.op a2.num (knum ⟨b2,o2,a2,k2⟩) else 0)=t2 at *
      generalize litB a2.op (kop ⟨b2,o2,a2,k2⟩)=u2 at *
      have RU:Hid (R=if u2=true then tmE t2 (D.getD 0 0) else anyE D):=by
       have h0:=S0.out
       have h1:=S1.out
       rw [List.getD_eq_getElem?_getD] at h0 h1
       unfold Hid;rw [RP.out];simp [rOp,h0,h1]
      clear RP S0 S1
      have G0:=Lib.hid (fun w2 (s:RoSt w w2 b o ⟨11,num,sname,some ⟨b,o,none⟩,acap⟩ (BT.node b1 o1 a1 k1 (BT.node b2 o2 a2 k2 r2)) (.slice (some ⟨g,0,none⟩) D.length cx) D)=>s.get 0 (by rw [hl.out];omega))
      have h01:(0:Int) < (D.length:Int):=by rw [hl.out];omega
      have h11:(1:Int) < (D.length:Int):=by rw [hl.out];omega
      generalize D.getD 0 0=d0 at *
      obtain ⟨-,-,-,⟨d0,d1,d2,d3⟩,hp2,hk2',-⟩:=ST.out.ex.2
      have d1:wr.cell? ⟨b,o+5,none⟩=some (.int .i64 a2.num):=d1
      have d2:wr.cell? ⟨b,o+6,none⟩=some (.string a2.name):=d2
      have d3:wr.cell? ⟨b,o+7,none⟩=some (.slice a2.ptr (len k2) a2.cap):=d3
      have CC:=Lib.hid (C2.out wr ⟨hp2,hk2'⟩)
      clear hp2 hk2'
      go_wp2_with fail
      refine CC.out.mono ?_
      rintro e wb ⟨rfl,hb⟩
      have SB:=Lib.hid (ST.out.next hb)
      clear hb CC d0 d1 d2 d3 x0 x3
      have x0:=SB.out.x0
      have x3:=SB.out.x3
      cases u2
      · have RV:Hid (R=anyE D):=RU
        go_wp2_with fail
        go_loopw [17] (fun i w2=>∃ j:Nat,i=.int .i64 j∧Hid (j≤len (BT.node b1 o1 a1 k1 (BT.node b2 o2 a2 k2 r2))∧((D.take j).all fun t=>t==0)=true)∧w2=wb) (fun i _=>len (BT.node b1 o1 a1 k1 (BT.node b2 o2 a2 k2 r2)) - (intOf i).toNat)
        case atStart=>exact ⟨0,rfl,⟨Nat.zero_le _,rfl⟩,rfl⟩
        case round =>
         obtain ⟨j,rfl,hj,rfl⟩:=hrel
         by_cases hq:j < len (BT.node b1 o1 a1 k1 (BT.node b2 o2 a2 k2 r2))
         · have hj1:(j:Int) < (D.length:Int):=by rw [hl.out];omega
           have hj0:(0:Int)≤(j:Int):=by omega
           have gj:=SB.out.get j (by rw [hl.out];exact hq)
           have hjd:Hid (j < D.length):=by unfold Hid;rw [hl.out];exact hq
           have AT:=Lib.hid (all_tk D j hjd.out)
           have AN:=Lib.hid (any_no D j hjd.out)
           generalize D.getD j 0=dj at *
           by_cases hz:dj=0
           · have nz:(dj != 0)=false:=by rw [hz];rfl
             have A2:Hid (((D.take (j+1)).all fun t=>t==0)=true):=by unfold Hid;rw [AT.out,hj.out.2,hz];rfl
             clear hz AT AN
             go_wp2
             go_roundw
             case rel=>exact ⟨j+1,by go_num,⟨by omega,A2.out⟩,by first|trivial|rfl⟩
             case measure=>simp [intOf];omega
           · have nz:(dj != 0)=true:=bne_iff_ne.2 hz
             have RW:Hid (R=3):=RV.out.trans (AN.out hz)
             clear hz AT AN
             go_wp2
             go_ret
             exact ⟨ret_int RW.out.symm,SB.out.bl⟩
         · have hj1:¬ (j:Int) < (D.length:Int):=by rw [hl.out];omega
           have RW:Hid (R=0):=by
            have h:=hj.out.2
            rw [List.take_of_length_le (by rw [hl.out];omega)] at h
            exact RV.out.trans (any_yes D h)
           go_wp2
           go_ret
           exact ⟨ret_int RW.out.symm,SB.out.bl⟩
      · have RV:Hid (R=tmE t2 d0):=RU
        have g0:=G0.out _ SB.out
        go_wp2_with (go_at_call 53;refine (rtimes_any _ _ _).mono ?_;rintro e w' ⟨rfl,rfl⟩)
        go_ret
        exact ⟨ret_int RV.out.symm,SB.out.bl⟩
    · skip
      have hk2:0 < len k:=by have h:=HA.out;simp [argB] at h;omega
      obtain ⟨g,cx,rfl⟩:=own_addr2 ST.out.ow (by rw [hl.out];omega)
      have RV:Hid (R=fold3 D):=by unfold Hid;rw [RP.out];simp [rOp]
      clear RP
      go_wp2_with fail
      go_loopw [9,10] (fun c i w2=>∃ j:Nat,i=.int .i64 j∧c=.int .i64 ((D.take j).foldl cbE 0)∧Hid (j≤len k)∧w2=wr) (fun _ i _=>len k - (intOf i).toNat)
      case atStart=>exact ⟨0,rfl,rfl,Nat.zero_le _,rfl⟩
      case round =>
       obtain ⟨j,rfl,rfl,hj,rfl⟩:=hrel
       by_cases hq:j < len k
       · have hj1:(j:Int) < (D.length:Int):=by rw [hl.out];omega
         have hj0:(0:Int)≤(j:Int):=by omega
         have gj:=ST.out.get j (by rw [hl.out];exact hq)
         have ES:Hid ((D.take (j+1)).foldl cbE 0=cbE ((D.take j).foldl cbE 0) (D.getD j 0)):=by
          have hjd:j < D.length:=by rw [hl.out];exact hq
          unfold Hid
          rw [List.take_add_one,List.foldl_append,List.getD_eq_getElem?_getD,List.getElem?_eq_getElem hjd];rfl
         generalize D.getD j 0=dj at *
         go_wp2_with (go_at_call 33;refine (rcomb_any _ _ _).mono ?_;rintro e w' ⟨rfl,rfl⟩)
         go_roundw
         case rel=>exact ⟨j+1,by go_num,by rw [ES.out],by unfold Hid;omega,by first|trivial|rfl⟩
         case measure=>simp [intOf];omega
       · have hj1:¬ (j:Int) < (D.length:Int):=by rw [hl.out];omega
         have ES:Hid ((D.take j).foldl cbE 0=R):=by unfold Hid;rw [RV.out,List.take_of_length_le (by rw [hl.out];omega)];rfl
         go_wp2
         go_ret
         exact ⟨ret_int ES.out,ST.out.bl⟩
    · skip
      have hk2:0 < len k:=by have h:=HA.out;simp [argB] at h;omega
      obtain ⟨g,cx,rfl⟩:=own_addr2 ST.out.ow (by rw [hl.out];omega)
      have RV:Hid (R=fold3 D):=by unfold Hid;rw [RP.out];simp [rOp]
      clear RP
      go_wp2_with fail
      go_loopw [9,10] (fun c i w2=>∃ j:Nat,i=.int .i64 j∧c=.int .i64 ((D.take j).foldl cbE 0)∧Hid (j≤len k)∧w2=wr) (fun _ i _=>len k - (intOf i).toNat)
      case atStart=>exact ⟨0,rfl,rfl,Nat.zero_le _,rfl⟩
      case round =>
       obtain ⟨j,rfl,rfl,hj,rfl⟩:=hrel
       by_cases hq:j < len k
       · have hj1:(j:Int) < (D.length:Int):=by rw [hl.out];omega
         have hj0:(0:Int)≤(j:Int):=by omega
         have gj:=ST.out.get j (by rw [hl.out];exact hq)
         have ES:Hid ((D.take (j+1)).foldl cbE 0=cbE ((D.take j).foldl cbE 0) (D.getD j 0)):=by
          have hjd:j < D.length:=by rw [hl.out];exact hq
          unfold Hid
          rw [List.take_add_one,List.foldl_append,List.getD_eq_getElem?_getD,List.getElem?_eq_getElem hjd];rfl
         generalize D.getD j 0=dj at *
         go_wp2_with (go_at_call 33;refine (rcomb_any _ _ _).mono ?_;rintro e w' ⟨rfl,rfl⟩)
         go_roundw
         case rel=>exact ⟨j+1,by go_num,by rw [ES.out],by unfold Hid;omega,by first|trivial|rfl⟩
         case measure=>simp [intOf];omega
       · have hj1:¬ (j:Int) < (D.length:Int):=by rw [hl.out];omega
         have ES:Hid ((D.take j).foldl cbE 0=R):=by unfold Hid;rw [RV.out,List.take_of_length_le (by rw [hl.out];omega)];rfl
         go_wp2
         go_ret
         exact ⟨ret_int ES.out,ST.out.bl⟩
    · skip
      have hk2:len k=3:=by have h:=HA.out;simp [argB] at h;omega
      obtain ⟨g,cx,rfl⟩:=own_addr2 ST.out.ow (by rw [hl.out];omega)
      have g0:=ST.out.get 0 (by rw [hl.out];omega)
      have g1:=ST.out.get 1 (by rw [hl.out];omega)
      have g2:=ST.out.get 2 (by rw [hl.out];omega)
      have RW:Hid (R=if D.getD 0 0=0 then cbE (D.getD 1 0) (D.getD 2 0) else 3):=by unfold Hid;rw [RP.out];simp [rOp]
      clear RP
      have h01:(0:Int) < (D.length:Int):=by rw [hl.out];omega
      have h11:(1:Int) < (D.length:Int):=by rw [hl.out];omega
      have h21:(2:Int) < (D.length:Int):=by rw [hl.out];omega
      generalize D.getD 0 0=d0 at *
      generalize D.getD 1 0=d1 at *
      generalize D.getD 2 0=d2 at *
      by_cases hz:d0=0
      · have RV:Hid (R=cbE d1 d2):=by unfold Hid;rw [RW.out,if_pos hz]
        have nz:(d0==0)=true:=by rw [hz];rfl
        clear hz RW
        go_upto_region 46 with (fail)
        go_region_with (go_at_call 33;refine (rcomb_any _ _ _).mono ?_;rintro e w' ⟨rfl,rfl⟩)
        all_goals (go_wp2;go_ret;exact ⟨ret_int RV.out.symm,ST.out.bl.drew⟩)
      · have RV:Hid (R=3):=by unfold Hid;rw [RW.out,if_neg hz]
        have nz:(d0==0)=false:=beq_eq_false_iff_ne.2 hz
        clear hz RW
        go_wp2
        go_ret
        exact ⟨ret_int RV.out.symm,ST.out.bl⟩
    · skip
      have hk2:len k=3:=by have h:=HA.out;simp [argB] at h;omega
      obtain ⟨g,cx,rfl⟩:=own_addr2 ST.out.ow (by rw [hl.out];omega)
      have RV:Hid (R=anyE D):=by unfold Hid;rw [RP.out];simp [rOp]
      clear RP
      go_wp2_with fail
      go_loopw [17] (fun i w2=>∃ j:Nat,i=.int .i64 j∧Hid (j≤len k∧((D.take j).all fun t=>t==0)=true)∧w2=wr) (fun i _=>len k - (intOf i).toNat)
      case atStart=>exact ⟨0,rfl,⟨Nat.zero_le _,rfl⟩,rfl⟩
      case round =>
       obtain ⟨j,rfl,hj,rfl⟩:=hrel
       by_cases hq:j < len k
       · have hj1:(j:Int) < (D.length:Int):=by rw [hl.out];omega
         have hj0:(0:Int)≤(j:Int):=by omega
         have gj:=ST.out.get j (by rw [hl.out];exact hq)
         have hjd:Hid (j < D.length):=by unfold Hid;rw [hl.out];exact hq
         have AT:=Lib.hid (all_tk D j hjd.out)
         have AN:=Lib.hid (any_no D j hjd.out)
         generalize D.getD j 0=dj at *
         by_cases hz:dj=0
         · have nz:(dj != 0)=false:=by rw [hz];rfl
           have A2:Hid (((D.take (j+1)).all fun t=>t==0)=true):=by unfold Hid;rw [AT.out,hj.out.2,hz];rfl
           clear hz AT AN
           go_wp2
           go_roundw
           case rel=>exact ⟨j+1,by go_num,⟨by omega,A2.out⟩,by first|trivial|rfl⟩
           case measure=>simp [intOf];omega
         · have nz:(dj != 0)=true:=bne_iff_ne.2 hz
           have RW:Hid (R=3):=RV.out.trans (AN.out hz)
           clear hz AT AN
           go_wp2
           go_ret
           exact ⟨ret_int RW.out.symm,ST.out.bl⟩
       · have hj1:¬ (j:Int) < (D.length:Int):=by rw [hl.out];omega
         have RW:Hid (R=0):=by
          have h:=hj.out.2
          rw [List.take_of_length_le (by rw [hl.out];omega)] at h
          exact RV.out.trans (any_yes D h)
         go_wp2
         go_ret
         exact ⟨ret_int RW.out.symm,ST.out.bl⟩
    · skip
      have hk2:len k=2:=by have h:=HA.out;simp [argB] at h;omega
      obtain ⟨g,cx,rfl⟩:=own_addr2 ST.out.ow (by rw [hl.out];omega)
      have g0:=ST.out.get 0 (by rw [hl.out];omega)
      have g1:=ST.out.get 1 (by rw [hl.out];omega)
      have RV:Hid (R=cbE (ivE (D.getD 0 0)) (D.getD 1 0)):=by unfold Hid;rw [RP.out];simp [rOp]
      clear RP
      have h01:(0:Int) < (D.length:Int):=by rw [hl.out];omega
      have h11:(1:Int) < (D.length:Int):=by rw [hl.out];omega
      generalize D.getD 0 0=d0 at *
      generalize D.getD 1 0=d1 at *
      go_upto_region 32 with (fail)
      go_region_with (first|(go_at_call 35;refine (rinv_any _ _).mono ?_;rintro e w' ⟨rfl,rfl⟩)|(go_at_call 33;refine (rcomb_any _ _ _).mono ?_;rintro e w' ⟨rfl,rfl⟩))
      all_goals (go_wp2;go_ret;exact ⟨ret_int RV.out.symm,ST.out.bl.drew⟩)
    · skip
      have hk2:len k=2:=by have h:=HA.out;simp [argB] at h;omega
      obtain ⟨g,cx,rfl⟩:=own_addr2 ST.out.ow (by rw [hl.out];omega)
      have g0:=ST.out.get 0 (by rw [hl.out];omega)
      have g1:=ST.out.get 1 (by rw [hl.out];omega)
      have RV:Hid (R=cbE (ivE (D.getD 0 0)) (D.getD 1 0)):=by unfold Hid;rw [RP.out];simp [rOp]
      clear RP
      have h01:(0:Int) < (D.length:Int):=by rw [hl.out];omega
      have h11:(1:Int) < (D.length:Int):=by rw [hl.out];omega
      generalize D.getD 0 0=d0 at *
      generalize D.getD 1 0=d1 at *
      go_upto_region 32 with (fail)
      go_region_with (first|(go_at_call 35;refine (rinv_any _ _).mono ?_;rintro e w' ⟨rfl,rfl⟩)|(go_at_call 33;refine (rcomb_any _ _ _).mono ?_;rintro e w' ⟨rfl,rfl⟩))
      all_goals (go_wp2;go_ret;exact ⟨ret_int RV.out.symm,ST.out.bl.drew⟩)
    · skip
      have hk2:len k=2:=by have h:=HA.out;simp [argB] at h;omega
      obtain ⟨g,cx,rfl⟩:=own_addr2 ST.out.ow (by rw [hl.out];omega)
      have RV:Hid (R=anyE D):=by unfold Hid;rw [RP.out];simp [rOp]
      clear RP
      go_wp2_with fail
      go_loopw [17] (fun i w2=>∃ j:Nat,i=.int .i64 j∧Hid (j≤len k∧((D.take j).all fun t=>t==0)=true)∧w2=wr) (fun i _=>len k - (intOf i).toNat)
      case atStart=>exact ⟨0,rfl,⟨Nat.zero_le _,rfl⟩,rfl⟩
      case round =>
       obtain ⟨j,rfl,hj,rfl⟩:=hrel
       by_cases hq:j < len k
       · have hj1:(j:Int) < (D.length:Int):=by rw [hl.out];omega
         have hj0:(0:Int)≤(j:Int):=by omega
         have gj:=ST.out.get j (by rw [hl.out];exact hq)
         have hjd:Hid (j < D.length):=by unfold Hid;rw [hl.out];exact hq
         have AT:=Lib.hid (all_tk D j hjd.out)
         have AN:=Lib.hid (any_no D j hjd.out)
         generalize D.getD j 0=dj at *
         by_cases hz:dj=0
         · have nz:(dj != 0)=false:=by rw [hz];rfl
           have A2:Hid (((D.take (j+1)).all fun t=>t==0)=true):=by unfold Hid;rw [AT.out,hj.out.2,hz];rfl
           clear hz AT AN
           go_wp2
           go_roundw
           case rel=>exact ⟨j+1,by go_num,⟨by omega,A2.out⟩,by first|trivial|rfl⟩
           case measure=>simp [intOf];omega
         · have nz:(dj != 0)=true:=bne_iff_ne.2 hz
           have RW:Hid (R=3):=RV.out.trans (AN.out hz)
           clear hz AT AN
           go_wp2
           go_ret
           exact ⟨ret_int RW.out.symm,ST.out.bl⟩
       · have hj1:¬ (j:Int) < (D.length:Int):=by rw [hl.out];omega
         have RW:Hid (R=0):=by
          have h:=hj.out.2
          rw [List.take_of_length_le (by rw [hl.out];omega)] at h
          exact RV.out.trans (any_yes D h)
         go_wp2
         go_ret
         exact ⟨ret_int RW.out.symm,ST.out.bl⟩
    · skip
      have hk2:len k=1:=by have h:=HA.out;simp [argB] at h;omega
      obtain ⟨g,cx,rfl⟩:=own_addr2 ST.out.ow (by rw [hl.out];omega)
      have g0:=ST.out.get 0 (by rw [hl.out];omega)
      have h01:(0:Int) < (D.length:Int):=by rw [hl.out];omega
      have RV:Hid (R=ivE (D.getD 0 0)):=by unfold Hid;rw [RP.out];simp only [rOp];simp
      clear RP
      generalize D.getD 0 0=d0 at *
      go_wp2_with (go_at_call 35;refine (rinv_any _ _).mono ?_;rintro e w' ⟨rfl,rfl⟩)
      go_ret
      exact ⟨ret_int RV.out.symm,ST.out.bl⟩
    · skip
      have hk2:0 < len k:=by have h:=HA.out;simp [argB] at h;omega
      obtain ⟨g,cx,rfl⟩:=own_addr2 ST.out.ow (by rw [hl.out];omega)
      have RV:Hid (R=fold3 D):=by unfold Hid;rw [RP.out];simp [rOp]
      clear RP
      go_wp2_with fail
      go_loopw [9,10] (fun c i w2=>∃ j:Nat,i=.int .i64 j∧c=.int .i64 ((D.take j).foldl cbE 0)∧Hid (j≤len k)∧w2=wr) (fun _ i _=>len k - (intOf i).toNat)
      case atStart=>exact ⟨0,rfl,rfl,Nat.zero_le _,rfl⟩
      case round =>
       obtain ⟨j,rfl,rfl,hj,rfl⟩:=hrel
       by_cases hq:j < len k
       · have hj1:(j:Int) < (D.length:Int):=by rw [hl.out];omega
         have hj0:(0:Int)≤(j:Int):=by omega
         have gj:=ST.out.get j (by rw [hl.out];exact hq)
         have ES:Hid ((D.take (j+1)).foldl cbE 0=cbE ((D.take j).foldl cbE 0) (D.getD j 0)):=by
          have hjd:j < D.length:=by rw [hl.out];exact hq
          unfold Hid
          rw [List.take_add_one,List.foldl_append,List.getD_eq_getElem?_getD,List.getElem?_eq_getElem hjd];rfl
         generalize D.getD j 0=dj at *
         go_wp2_with (go_at_call 33;refine (rcomb_any _ _ _).mono ?_;rintro e w' ⟨rfl,rfl⟩)
         go_roundw
         case rel=>exact ⟨j+1,by go_num,by rw [ES.out],by unfold Hid;omega,by first|trivial|rfl⟩
         case measure=>simp [intOf];omega
       · have hj1:¬ (j:Int) < (D.length:Int):=by rw [hl.out];omega
         have ES:Hid ((D.take j).foldl cbE 0=R):=by unfold Hid;rw [RV.out,List.take_of_length_le (by rw [hl.out];omega)];rfl
         go_wp2
         go_ret
         exact ⟨ret_int ES.out,ST.out.bl⟩
    · skip
      have hk2:0 < len k:=by have h:=HA.out;simp [argB] at h;omega
      obtain ⟨g,cx,rfl⟩:=own_addr2 ST.out.ow (by rw [hl.out];omega)
      have RV:Hid (R=fold3 D):=by unfold Hid;rw [RP.out];simp [rOp]
      clear RP
      go_wp2_with fail
      go_loopw [9,10] (fun c i w2=>∃ j:Nat,i=.int .i64 j∧c=.int .i64 ((D.take j).foldl cbE 0)∧Hid (j≤len k)∧w2=wr) (fun _ i _=>len k - (intOf i).toNat)
      case atStart=>exact ⟨0,rfl,rfl,Nat.zero_le _,rfl⟩
      case round =>
       obtain ⟨j,rfl,rfl,hj,rfl⟩:=hrel
       by_cases hq:j < len k
       · have hj1:(j:Int) < (D.length:Int):=by rw [hl.out];omega
         have hj0:(0:Int)≤(j:Int):=by omega
         have gj:=ST.out.get j (by rw [hl.out];exact hq)
         have ES:Hid ((D.take (j+1)).foldl cbE 0=cbE ((D.take j).foldl cbE 0) (D.getD j 0)):=by
          have hjd:j < D.length:=by rw [hl.out];exact hq
          unfold Hid
          rw [List.take_add_one,List.foldl_append,List.getD_eq_getElem?_getD,List.getElem?_eq_getElem hjd];rfl
         generalize D.getD j 0=dj at *
         go_wp2_with (go_at_call 33;refine (rcomb_any _ _ _).mono ?_;rintro e w' ⟨rfl,rfl⟩)
         go_roundw
         case rel=>exact ⟨j+1,by go_num,by rw [ES.out],by unfold Hid;omega,by first|trivial|rfl⟩
         case measure=>simp [intOf];omega
       · have hj1:¬ (j:Int) < (D.length:Int):=by rw [hl.out];omega
         have ES:Hid ((D.take j).foldl cbE 0=R):=by unfold Hid;rw [RV.out,List.take_of_length_le (by rw [hl.out];omega)];rfl
         go_wp2
         go_ret
         exact ⟨ret_int ES.out,ST.out.bl⟩
    · skip
      have hk2:len k=2:=by have h:=HA.out;simp [argB] at h;omega
      obtain ⟨g,cx,rfl⟩:=own_addr2 ST.out.ow (by rw [hl.out];omega)
      have g0:=ST.out.get 0 (by rw [hl.out];omega)
      have g1:=ST.out.get 1 (by rw [hl.out];omega)
      have RV:Hid (R=cbE (ivE (D.getD 0 0)) (D.getD 1 0)):=by unfold Hid;rw [RP.out];simp [rOp]
      clear RP
      have h01:(0:Int) < (D.length:Int):=by rw [hl.out];omega
      have h11:(1:Int) < (D.length:Int):=by rw [hl.out];omega
      generalize D.getD 0 0=d0 at *
      generalize D.getD 1 0=d1 at *
      go_upto_region 32 with (fail)
      go_region_with (first|(go_at_call 35;refine (rinv_any _ _).mono ?_;rintro e w' ⟨rfl,rfl⟩)|(go_at_call 33;refine (rcomb_any _ _ _).mono ?_;rintro e w' ⟨rfl,rfl⟩))
      all_goals (go_wp2;go_ret;exact ⟨ret_int RV.out.symm,ST.out.bl.drew⟩)
  | node b1 o1 a1 k1 r1 =>
    have hj:j < len k:=by have:=HR.out.1;simp [len] at this;omega
    obtain rfl:ptr=some ⟨b,o,none⟩:=HX.out.1 (by rintro rfl;simp [len] at hj)
    obtain ⟨⟨c0,c1,c2,c3⟩,hp1,hk1,hr1⟩:=HR.out.2.1
    have X1:Hid (ExAt wr b1 o1 a1 k1):=⟨hp1,hk1⟩
    have N1:=Lib.hid hr1
    clear hp1 hk1 hr1
    have hj1:(j:Int) < (len k:Int):=by omega
    have hj0:(0:Int)≤(j:Int):=by omega
    have W1:=Lib.hid (wfT_node HR.out.2.2.2.2.1)
    have Z1:Hid (sz k1≤200∧sz r1≤200):=by
     have e1:sz (BT.node b1 o1 a1 k1 r1)=1+sz k1+sz r1:=rfl
     have:=HR.out.2.2.2.2.2.1
     rw [e1] at this
     exact ⟨by omega,by omega⟩
    have SR:Hid (RoSt w wr b o ⟨op,num,sname,some ⟨b,o,none⟩,acap⟩ k vx D):=HR.out.2.2.2.2.2.2.2.1
    have CC:=Lib.hid (HR.out.2.2.2.1.1 wr X1.out ⟨HR.out.2.2.1.1,HR.out.2.2.1.2.1⟩ W1.out.1 Z1.out.1)
    rw [HCL.out] at CC
    have x3:=SR.out.x3
    go_wp2_with fail
    refine CC.out.mono ?_
    rintro e w1 ⟨rfl,hb⟩
    have S1:=Lib.hid (SR.out.next hb)
    have B1:=Lib.hid (show Below wr.heap.size wr w1 from hb)
    have ES:Hid ((D++[rT1 name clk a1 (liF k1) (rTF name clk k1)])++rTF name clk r1=rTF name clk k):=by
     unfold Hid;rw [← HR.out.2.2.2.2.2.2.2.2.1];simp [rTF]
    generalize rT1 name clk a1 (liF k1) (rTF name clk k1)=z1 at *
    clear hb CC SR x3 c0 c1 c2 c3
    have hz1:w.heap.size+1≤w1.heap.size:=Nat.le_trans hsz B1.out.size
    have hDl:Hid (D.length=j):=HR.out.2.2.2.2.2.2.1
    have hD2:D.length≤200:=by rw [hDl.out];omega
    have S2:=Lib.hid (S1.out.next (below_box w1 (.cells #[.int .i64 z1] 3)))
    go_wp2_with (at_builtin;refine wpList_append_own _ rfl _ _ 33 rfl (w.heap.size+1) 3 i0 (.int .i64 0) 1 8 Tryz.underlying33 hi hi0 hi1 hi2 rfl (by decide) vx D.length (intV D) rfl S2.out.ow ⟨w1.heap.size,0,none⟩ 1 1 [.int .i64 z1] rfl rfl ?d1 ?d2 ?d3 ?d4 ?d5 ?_)
    case d1=>intro q u hu;cases q with
     | zero=>simp at hu;subst hu;simp [Addr.add,go_sem]
     | succ q=>simp at hu
    case d2=>intro u hu;simp at hu;subst hu;rfl
    case d3=>unfold maxLen;omega
    case d4=>omega
    case d5=>simp;omega
    intro vn w3 hown hgrow hnil
    have hvo:∀ m,vx.ownBlock=some m→w.heap.size+1≤m:=fun m hm=>(S2.out.ow.lt m hm).1
    have hbs:Hid (Below (w.heap.size+1) (w1.alloc (.cells #[.int .i64 z1] 3)) w3):=(Below.refl _ _).grown hgrow (by simp;omega) (fun m hm=>hvo m hm)
    have S3:Hid (RoSt w w3 b o ⟨op,num,sname,some ⟨b,o,none⟩,acap⟩ k vn (D++[z1])):=by
     refine ⟨?_,?_,?_,S2.out.bl.trans (hbs.out.mono (by omega)),⟨S2.out.ex.1,S2.out.ex.2.below (HX.out.2.lt.mono (by omega)) hbs.out⟩⟩
     · rw [hbs.out.cell (p:=⟨w.heap.size,0,none⟩) (by simp)];exact S2.out.x0
     · rw [hbs.out.cell (p:=⟨w.heap.size,3,none⟩) (by simp)];exact S2.out.x3
     · have e:intV (D++[z1])=intV D++[.int .i64 z1]:=by simp [intV]
       rw [List.length_append,List.length_singleton,e];exact hown
    have NX:Hid (FoAt w3 r1 b (o+j * 4+4)):=(N1.out.next (B1.out.trans ((below_box w1 _).mono B1.out.size))).below (HR.out.2.2.2.2.2.2.2.2.2.2.2.mono (by omega)) hbs.out
    have hz3:w.heap.size+1≤w3.heap.size:=by have:=hgrow.size;simp at this;omega
    clear hown hgrow hnil hvo hbs S2
    go_wp2
    go_roundw
    case rel =>
     obtain ⟨p1,-,p3,p4,-,-,p7,-,-,p11⟩:=HR.out
     simp [len] at p1
     refine ⟨_,j+1,r1,D++[z1],rfl,by go_num,hz3,by omega,?_,p3.2.2,p4.2,W1.out.2,Z1.out.2,by simp [p7],S3.out,ES.out,p11.2.2⟩
     rw [Nat.add_mul,Nat.one_mul,← Nat.add_assoc];exact NX.out
    case measure=>simp [intOf];omega
end Go.Proofs.YtfoedbfkddoibaaGreat
