import Derived.Test.YtljdcpobomfnpaaGreatGh
import Derived.OwnWalk
namespace Go.Proofs.YtljdcpobomfnpaaGreat
set_option linter.unusedVariables false
set_option linter.unusedSimpArgs false
open Go.ChangeShapes Go.WideShapes Go.ChangeAt Go.RowKit
open Go.Maps (has size IsMap)
open Go.Deep (BT)
def NP (w:World) (cs:List Cn) (p:Option Addr) (cap kb ib mb:Nat) (R:Int × Int) (e:Ending) (w':World):Prop :=
 e=.returned (.tuple #[.int .i64 R.1,.int .i64 R.2])∧ChkJ Tryz.prog w' kb ib mb cs cs.length p cap∧w.grownBy w' (some mb)
def NodeC (n:Nat) (b o:Nat) (a:Nd) (k:Fo):Prop:=∀ (w:World) (cs:List Cn) (p:Option Addr) (cap kb ib mb:Nat) (sc:Int),
 n≤cs.length→ChkJ Tryz.prog w kb ib mb cs cs.length p cap→CsV w cs p→ExAt w b o a k→ExOk a k→(wfB a (len k) && wfT k)=true→sz k≤200 →
 Calls Tryz.prog 66 #[.pointer (some ⟨kb,0,none⟩),.int .i64 sc,.int .i64 n,.agg #[.int .i64 a.op,.int .i64 a.num,.string a.name,.slice a.ptr (len k) a.cap]] w (NP w cs p cap kb ib mb (tyT (lookT cs (tabN cs n)) sc a k))
def ConstC (i:Nat):Prop:=∀ (w:World) (cs:List Cn) (p:Option Addr) (cap kb ib mb:Nat),
 i < cs.length→ChkJ Tryz.prog w kb ib mb cs cs.length p cap→CsV w cs p →
 Calls Tryz.prog 16 #[.pointer (some ⟨kb,0,none⟩),.int .i64 i] w (NP w cs p cap kb ib mb (rowT cs i))
theorem made_ints (n:Nat):(madeCells #[Value.int .i64 0] n).toList=intV (List.replicate n 0):=by
 unfold madeCells intV
 apply List.ext_getElem
 · simp
 · intro i h1 h2
   simp [Nat.mod_one]
theorem set_ints (L:List Int) (m:Nat) (y:Int):(intV (L++List.replicate (m+1) 0)).set L.length (.int .i64 y)=intV ((L++[y])++List.replicate m 0):=by
 unfold intV
 rw [List.map_append,List.set_append_right _ _ (by simp)]
 simp [List.replicate_succ]
set_option maxHeartbeats 4000000 in
set_option maxRecDepth 100000 in
theorem node_of (n:Nat) (ihc:∀ i,i < n→ConstC i) (b o:Nat) (a:Nd) (k:Fo):NodeC n b o a k:=by
 refine tree_of (P:=NodeC n) ?_ b o a k
 clear b o a k
 intro b o a k ih w cs p cap kb ib mb sc hn hch hcs hx hok hwf hz
 obtain ⟨op,num,name,ptr,acap⟩:=a
 obtain ⟨i0,hi,hi0,hi1,hi2⟩:=info_parts Tryz.infoI
 show Calls Tryz.prog 66 #[.pointer (some ⟨kb,0,none⟩),.int .i64 sc,.int .i64 n,.agg #[.int .i64 op,.int .i64 num,.string name,.slice ptr (len k) acap]] w _
 have IH:=Lib.hid ih
 have IHC:=Lib.hid ihc
 have HX:=Lib.hid hx
 have HOK:=Lib.hid hok
 have HW:=Lib.hid hwf
 have HZ:=Lib.hid hz
 have HCS:=Lib.hid hcs
 have HCH:=Lib.hid hch
 have hk:len k≤200:=Nat.le_trans (len_le_sz k) hz
 have hN:n≤2932031007402:=Nat.le_trans hn hcs.small
 have hs:name.size≤9223372036854775807:=hok.1.2.2.1
 have hkb:kb < w.heap.size:=hch.lt
 clear ih ihc hx hok hwf hz hcs hch
 obtain ⟨R,hR⟩:∃ R,R=tyT (lookT cs (tabN cs n)) sc ⟨op,num,name,ptr,acap⟩ k:=⟨_,rfl⟩
 have V:Hid (R=if op=6 then nameT (lookT cs (tabN cs n)) sc name else if (tyF (lookT cs (tabN cs n)) sc k).1=0 then (if resT op (tyF (lookT cs (tabN cs n)) sc k).2=0 then (0,9) else (resT op (tyF (lookT cs (tabN cs n)) sc k).2,0)) else (0,(tyF (lookT cs (tabN cs n)) sc k).1)):=hR
 rw [← hR]
 clear hR
 go_enter Tryz.func66,Tryz.ntmps66
 by_cases h6:op=6
 · have b6:(op==6)=true:=by simp [h6]
   have RR:Hid (R=nameT (lookT cs (tabN cs n)) sc name):=by unfold Hid;rw [V.out,if_pos h6]
   have N:Hid (nameT (lookT cs (tabN cs n)) sc name=if atE sc name=0 then (atS sc name,0) else lookT cs (tabN cs n) name):=rfl
   clear h6 V
   go_wp2_with fail
   refine (attr_any sc name _).mono ?_
   rintro e w1 ⟨rfl,hw⟩
   subst hw
   have B0:Hid (Below w.heap.size w (w.alloc (.cells #[.int .i64 op,.int .i64 num,.string name,.slice ptr (len k) acap] 34))):=(Below.refl _ _).alloc (Nat.le_refl _) _
   have x2:(w.alloc (.cells #[.int .i64 op,.int .i64 num,.string name,.slice ptr (len k) acap] 34)).cell? ⟨w.heap.size,2,none⟩=some (.string name):=by simp [go_sem]
   generalize w.alloc (.cells #[.int .i64 op,.int .i64 num,.string name,.slice ptr (len k) acap] 34)=wa at *
   have CH:=Lib.hid (HCH.out.next B0.out)
   by_cases h0:atE sc name=0
   · have RQ:Hid (R=(atS sc name,0)):=by unfold Hid;rw [RR.out,N.out,if_pos h0]
     have b0:(atE sc name==0)=true:=by simp [h0]
     clear h0
     go_wp2
     go_ret2
     exact ⟨by rw [RQ.out];rfl,CH.out,grw_of_below _ B0.out⟩
   · have RQ:Hid (R=match firstIx name cs with|some i=>if i < n then rowT cs i else (0,6)|none=>(0,6)):=by unfold Hid;rw [RR.out,N.out,if_neg h0,lookT_tab];cases firstIx name cs<;>rfl
     have b0:(atE sc name==0)=false:=by simp [h0]
     clear h0 RR N
     go_upto_region 5 with (fail)
     have C1:=Lib.hid (CH.out.next (Below.refl _ _).drew)
     have B1:=Lib.hid (B0.out.drew)
     obtain ⟨v,hb,hrun,hv⟩:=ix_look (w:=wa.drew) C1.out.ix name hs
     have HV:=Lib.hid hv
     clear hv
     have y0:=CH.out.c1
     go_region
     clear hrun
     cases hf:firstIx name cs with
     | none =>
       have RZ:Hid (R=(0,6)):=by unfold Hid;rw [RQ.out,hf]
       have hq:hb=false:=by have:=HV.out;rw [List.take_length,hf] at this;exact this
       subst hq
       clear hf RQ HV
       go_wp2
       go_ret2
       exact ⟨by rw [RZ.out];rfl,C1.out,grw_of_below _ B1.out⟩
     | some i =>
       have hq:hb=true∧v=i:=by have:=HV.out;rw [List.take_length,hf] at this;exact this
       obtain ⟨hq1,hq2⟩:=hq
       subst hq1
       subst hq2
       have IL:=Lib.hid (firstIx_lt name cs i hf)
       by_cases hi:i < n
       · have RZ:Hid (R=rowT cs i):=by unfold Hid;rw [RQ.out,hf];exact if_pos hi
         have hi1:(i:Int) < (n:Int):=by omega
         have HI:=Lib.hid hi
         clear hf RQ HV hi
         go_wp2_with fail
         refine (IHC.out i HI.out _ cs p cap kb ib mb IL.out C1.out (HCS.out.next B1.out)).mono ?_
         rw [← RZ.out]
         rintro e w3 ⟨rfl,ch3,g3⟩
         have CH3:=Lib.hid ch3
         have G3:=Lib.hid g3
         clear ch3 g3
         go_wp2
         go_ret2
         exact ⟨rfl,CH3.out,(grw_of_below _ B1.out).trans G3.out⟩
       · have RZ:Hid (R=(0,6)):=by unfold Hid;rw [RQ.out,hf];exact if_neg hi
         have hi1:¬ (i:Int) < (n:Int):=by omega
         clear hf RQ HV hi
         go_wp2
         go_ret2
         exact ⟨by rw [RZ.out];rfl,C1.out,grw_of_below _ B1.out⟩
 · have b6 : (op==6)=false:=by simp [h6]
   have hmb:mb < w.heap.size:=HCH.out.kn.lt
   have hib:ib < w.heap.size:=HCH.out.ix.lt
   go_wp2_with (refine wpList_make_full _ rfl _ _ 22 rfl (w.heap.size+1) 3 i0 (.int .i64 0) 1 Tryz.underlying22 hi hi0 hi1 .i64 .i64 _ _ (len k) rfl rfl rfl rfl ?m1 ?m2 ?m3 ?_)
   case m1=>rw [hi2];omega
   case m2=>unfold maxLen;omega
   case m3=>simp
   intro w2 hown hgrow
   have BA:Hid (Below w.heap.size w (w.alloc (.cells #[.int .i64 op,.int .i64 num,.string name,.slice ptr (len k) acap] 34))):=(Below.refl _ _).alloc (Nat.le_refl _) _
   have BG:Hid (Below (w.heap.size+1) (w.alloc (.cells #[.int .i64 op,.int .i64 num,.string name,.slice ptr (len k) acap] 34)) w2):=(Below.refl _ _).grown hgrow (by simp) (fun m hm=>by cases hm)
   have B0:Hid (Below w.heap.size w w2):=BA.out.trans (BG.out.mono (by omega))
   have x0:w2.cell? ⟨w.heap.size,0,none⟩=some (.int .i64 op):=by rw [BG.out.cell (p:=⟨w.heap.size,0,none⟩) (by simp)];simp [go_sem]
   have x3:w2.cell? ⟨w.heap.size,3,none⟩=some (.slice ptr (len k) acap):=by rw [BG.out.cell (p:=⟨w.heap.size,3,none⟩) (by simp)];simp [go_sem]
   have OW0:Hid (w2.ownsRow (w.heap.size+1) 3 1 (.slice (some ⟨w.heap.size+1,0,none⟩) (len k) (len k)) (len k) (intV (List.replicate (len k) 0))):=by
    rw [made_ints] at hown
    exact hown
   clear hown hgrow BA BG
   go_wp2_with fail
   go_loopw [61] (fun i wr=>∃ (j:Nat) (r:Fo) (L:List Int),i=.int .i64 j∧w.heap.size+1 < wr.heap.size∧wr.cell? ⟨w.heap.size,0,none⟩=some (.int .i64 op)∧wr.cell? ⟨w.heap.size,3,none⟩=some (.slice ptr (len k) acap) ∧
    Hid (j+len r=len k∧FoAt wr r b (o+j * 4)∧FoOk r∧AllT (NodeC n) r∧wfT r=true∧sz r≤200∧L.length=j∧wr.ownsRow (w.heap.size+1) 3 1 (.slice (some ⟨w.heap.size+1,0,none⟩) (len k) (len k)) (len k) (intV (L++List.replicate (len r) 0)) ∧
     ChkJ Tryz.prog wr kb ib mb cs cs.length p cap∧w.grownBy wr (some mb)∧restF L (tyF (lookT cs (tabN cs n)) sc r)=tyF (lookT cs (tabN cs n)) sc k∧FoLt w.heap.size r b)) (fun i _=>len k - (intOf i).toNat)
   case atStart =>
    refine ⟨0,k,[],rfl,?_,x0,x3,by omega,?_,HOK.out.2,IH.out,?_,HZ.out,rfl,OW0.out,HCH.out.next B0.out,grw_of_below _ B0.out,restF_nil _ (tyF_err _ _ _),HX.out.2.lt⟩
    · exact (OW0.out.lt (w.heap.size+1) rfl).2
    · rw [Nat.zero_mul,Nat.add_zero];exact HX.out.2.next B0.out
    · have:=HW.out;rw [Bool.and_eq_true] at this;exact this.2
   case round =>
    obtain ⟨j,r,L,rfl,hsz,y0,y3,HR⟩:=hrel
    cases r with
    | nil =>
      have hj:¬ (j:Int) < (len k:Int):=by have:=HR.out.1;simp [len] at this;omega
      have F:Hid (tyF (lookT cs (tabN cs n)) sc k=(0,L)):=by
       have:=HR.out.2.2.2.2.2.2.2.2.2.2.1
       unfold Hid;rw [← this];simp [restF,tyF]
      have hjl:Hid (L.length=len k):=by
       have h1:=HR.out.1
       have h2:=HR.out.2.2.2.2.2.2.1
       simp [len] at h1;unfold Hid;omega
      have IT:Hid (IntsAt wr (.slice (some ⟨w.heap.size+1,0,none⟩) (len k) (len k)) L):=by
       have:=HR.out.2.2.2.2.2.2.2.1
       simp only [len,List.replicate_zero,List.append_nil] at this
       exact ints_of_own this
      have hr:1≤op∧op≤22∧argB op L.length=true:=by
       have h:=HW.out
       unfold wfB at h
       dsimp only at h
       rw [hjl.out]
       simp only [Bool.and_eq_true,decide_eq_true_eq] at h
       exact ⟨h.1.1.1.1.1,h.1.1.1.1.2,h.1.1.1.2⟩
      have RR:Hid (R=if resT op L=0 then (0,9) else (resT op L,0)):=by
       unfold Hid;rw [V.out,if_neg h6,F.out];simp
      have C:=Lib.hid (result_any op _ L wr IT.out (by rw [hjl.out];omega) hr.2.2 hr.1 hr.2.1 h6)
      clear V hr F h6
      go_wp2_with fail
      refine C.out.mono ?_
      generalize resT op L=z at *
      rintro e w1 ⟨rfl,hb⟩
      have B1:=Lib.hid hb
      clear hb C
      by_cases h0:z=0
      · have b0:(z != 0)=false:=by simp [h0]
        have RQ:Hid (R=(0,9)):=by unfold Hid;rw [RR.out,if_pos h0]
        clear h0
        go_wp2
        go_ret2
        exact ⟨by rw [RQ.out];rfl,HR.out.2.2.2.2.2.2.2.2.1.next B1.out,grw_below HR.out.2.2.2.2.2.2.2.2.2.1 (B1.out.mono HR.out.2.2.2.2.2.2.2.2.2.1.size)⟩
      · have b0:(z != 0)=true:=by simp [h0]
        have RQ:Hid (R=(z,0)):=by unfold Hid;rw [RR.out,if_neg h0]
        clear h0
        go_wp2
        go_ret2
        exact ⟨by rw [RQ.out];rfl,HR.out.2.2.2.2.2.2.2.2.1.next B1.out,grw_below HR.out.2.2.2.2.2.2.2.2.2.1 (B1.out.mono HR.out.2.2.2.2.2.2.2.2.2.1.size)⟩
    | node b1 o1 a1 k1 r1 =>
      have hj:j < len k:=by have:=HR.out.1;simp [len] at this;omega
      obtain rfl:ptr=some ⟨b,o,none⟩:=HX.out.1 (by rintro rfl;simp [len] at hj)
      obtain ⟨⟨c0,c1,c2,c3⟩,hp1,hk1,hr1⟩:=HR.out.2.1
      have X1:Hid (ExAt wr b1 o1 a1 k1):=⟨hp1,hk1⟩
      have N1:=Lib.hid hr1
      clear hp1 hk1 hr1
      have hj1:(j:Int) < (len k:Int):=by omega
      have hj0:(0:Int)≤(j:Int):=by omega
      have W1:Hid ((wfB a1 (len k1) && wfT k1)=true∧wfT r1=true):=by
       have h:((wfB a1 (len k1) && wfT k1) && wfT r1)=true:=HR.out.2.2.2.2.1
       rw [Bool.and_eq_true] at h;exact h
      have Z1:Hid (sz k1≤200∧sz r1≤200):=by
       have e1:sz (BT.node b1 o1 a1 k1 r1)=1+sz k1+sz r1:=rfl
       have:=HR.out.2.2.2.2.2.1
       rw [e1] at this
       exact ⟨by omega,by omega⟩
      go_wp2_with fail
      have BB:Hid (Below wr.heap.size wr (wr.alloc (.cells #[.int .i64 a1.op,.int .i64 a1.num,.string a1.name,.slice a1.ptr (len k1) a1.cap] 34))):=(Below.refl _ _).alloc (Nat.le_refl _) _
      generalize hwb:wr.alloc (.cells #[.int .i64 a1.op,.int .i64 a1.num,.string a1.name,.slice a1.ptr (len k1) a1.cap] 34)=wb at *
      have hzb:wr.heap.size≤wb.heap.size:=BB.out.size
      clear hwb
      have CHB:=Lib.hid (HR.out.2.2.2.2.2.2.2.2.1.next BB.out)
      have GB:Hid (w.grownBy wb (some mb)):=grw_below HR.out.2.2.2.2.2.2.2.2.2.1 (BB.out.mono HR.out.2.2.2.2.2.2.2.2.2.1.size)
      refine (HR.out.2.2.2.1.1 wb cs p cap kb ib mb sc hn CHB.out (HCS.out.keep (Keeps.of_grown HCH.out.kn GB.out)) (X1.out.next BB.out) ⟨HR.out.2.2.1.1,HR.out.2.2.1.2.1⟩ W1.out.1 Z1.out.1).mono ?_
      have ST:=Lib.hid (restF_node L (lookT cs (tabN cs n)) sc b1 o1 a1 k1 r1)
      generalize tyT (lookT cs (tabN cs n)) sc a1 k1=t1 at *
      obtain ⟨z1,z2⟩:=t1
      rintro e w1 ⟨rfl,ch1,g1⟩
      have CH1:=Lib.hid ch1
      have G1:=Lib.hid (GB.out.trans g1)
      have K1:Hid (Keeps wr w1):=(Keeps.of_below BB.out).trans (Keeps.of_grown CHB.out.kn g1)
      have hz1:w.heap.size+1 < w1.heap.size:=Nat.lt_of_lt_of_le hsz (Nat.le_trans hzb g1.size)
      have OW1:Hid (w1.ownsRow (w.heap.size+1) 3 1 (.slice (some ⟨w.heap.size+1,0,none⟩) (len k) (len k)) (len k) (intV (L++List.replicate (len r1+1) 0))):=by
       have:=(own_below HR.out.2.2.2.2.2.2.2.1 BB.out).kept g1 (.inr (by simp [Value.ownBlock];omega))
       exact this
      have u0:=K1.out _ _ y0
      have u3:=K1.out _ _ y3
      clear ch1 g1 y0 y3 c0 c1 c2 c3
      dsimp only at ST ⊢
      by_cases h0:z2=0
      · subst h0
        have S1:=Lib.hid (ST.out.1 rfl)
        have hLj:Hid (L.length=j):=HR.out.2.2.2.2.2.2.1
        have q1:w1.cell? ⟨w.heap.size+1,j,none⟩=some (.int .i64 0):=by
         rw [OW1.out.cellAt j (by omega)]
         unfold intV
         rw [List.getElem?_map,List.getElem?_append_right (by rw [hLj.out];omega),hLj.out]
         simp
        have q2:w1.frozen? ⟨w.heap.size+1,j,none⟩=false:=OW1.out.frozenAt j
        clear ST
        go_wp2
        have ST2:=Lib.hid (OW1.out.stored j (.int .i64 z1))
        have hbs:Hid (Below (w.heap.size+1) w1 (w1.setCell ⟨w.heap.size+1,j,none⟩ (.int .i64 z1))):=(Below.refl _ _).grown ST2.out.2 (by omega) (fun m hm=>by cases hm;exact Nat.le_refl _)
        go_roundw
        case rel =>
         obtain ⟨q1,-,q3,q4,-,-,q7,-,-,-,q10,q11⟩:=HR.out
         simp [len] at q1
         refine ⟨j+1,r1,L++[z1],by go_num,by simpa using hz1,?_,?_,by omega,?_,q3.2.2,q4.2,W1.out.2,Z1.out.2,by simp [q7],?_,CH1.out.grown ST2.out.2 (by simp;omega) (by simp;omega) (by simp;omega),grw_new G1.out ST2.out.2 (by omega),?_,q11.2.2⟩
         · rw [hbs.out.cell (p:=⟨w.heap.size,0,none⟩) (by simp)];exact u0
         · rw [hbs.out.cell (p:=⟨w.heap.size,3,none⟩) (by simp)];exact u3
         · rw [Nat.add_mul,Nat.one_mul,← Nat.add_assoc]
           exact (N1.out.keep K1.out).below (q11.2.2.mono (Nat.le_succ _)) hbs.out
         · have:=ST2.out.1
           have e:=set_ints L (len r1) z1
           rw [hLj.out] at e
           rw [e] at this
           exact this
         · rw [← S1.out];exact q10
        case measure=>simp [intOf];omega
      · have S1:=Lib.hid (ST.out.2 h0)
        have b0:(z2 != 0)=true:=by simp [h0]
        have RR:Hid (R=(0,z2)):=by
         unfold Hid
         rw [V.out,if_neg h6]
         have:=HR.out.2.2.2.2.2.2.2.2.2.2.1
         rw [← this,S1.out,if_neg h0]
        clear h0 ST
        go_wp2
        go_ret2
        exact ⟨by rw [RR.out];rfl,CH1.out,G1.out⟩
end Go.Proofs.YtljdcpobomfnpaaGreat
