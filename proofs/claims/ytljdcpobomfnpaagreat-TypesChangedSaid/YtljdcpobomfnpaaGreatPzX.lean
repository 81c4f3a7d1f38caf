import Derived.Test.YtljdcpobomfnpaaGreatTkO
import Derived.Deep.CutBlock
import Derived.Deep.DeepCutAuto
import Derived.Test.YtljdcpobomfnpaaGreatPzT
import Derived.Test.YtljdcpobomfnpaaGreatRzX
namespace Go.Proofs.YtljdcpobomfnpaaGreat
set_option linter.unusedVariables false
set_option linter.unusedSimpArgs false
open Go.ChangeShapes Go.WideShapes Go.ChangeAt Go.RowKit
theorem tbox {w w1:World} (hb:Below (w.alloc (.cells #[.int .i64 0,.string ⟨#[]⟩,.int .i64 0,.int .i64 0] 96)).heap.size (w.alloc (.cells #[.int .i64 0,.string ⟨#[]⟩,.int .i64 0,.int .i64 0] 96)) w1) :
 w1.cell? ⟨w.heap.size,0,none⟩=some (.int .i64 0)∧w1.cell? ⟨w.heap.size,1,none⟩=some (.string ⟨#[]⟩)∧w1.cell? ⟨w.heap.size,2,none⟩=some (.int .i64 0)∧w1.cell? ⟨w.heap.size,3,none⟩=some (.int .i64 0) ∧
 w1.frozen? ⟨w.heap.size,0,none⟩=false∧w1.frozen? ⟨w.heap.size,1,none⟩=false∧w1.frozen? ⟨w.heap.size,2,none⟩=false∧w1.frozen? ⟨w.heap.size,3,none⟩=false :=
 ⟨box_cell hb 0,box_cell hb 1,box_cell hb 2,box_cell hb 3,box_free hb 0,box_free hb 1,box_free hb 2,box_free hb 3⟩
theorem has_ix (l:List UInt8) (k:Nat) (c:UInt8) (hk:c.toNat=k):decide (0≤Lib.indexByte l c)=Tk.has l k:=by
 have h1:=Txt.ix_none l c
 have h2:=Txt.ix_ge l c
 unfold Tk.has
 rw [Bool.eq_iff_iff,decide_eq_true_eq,List.any_eq_true]
 have h3:0≤Lib.indexByte l c↔¬ ∀ x ∈ l,x≠c:=by rw [← h1];omega
 rw [h3]
 constructor
 · intro h
   by_cases q:∃ x,x ∈ l∧decide (x.toNat=k)=true
   · exact q
   · refine absurd (fun x hx e=>q ⟨x,hx,?_⟩) h
     rw [e,hk];simp
 · rintro ⟨x,hx,e⟩ h
   rw [decide_eq_true_eq] at e
   exact h x hx (UInt8.toNat_inj.1 (by rw [e,hk]))
theorem findC (s:ByteArray) (c:UInt8) (k:Nat) (b:Bool) (w:World) (hs:s.size≤9223372036854775807) (hk:c.toNat=k) (h:Tk.has s.data.toList k=b) :
 Calls Tryz.prog 73 #[.string s,.int .u8 k] w fun e w'=>∃ m:Int,e=.returned (.int .i64 m)∧w=w'∧decide (0≤m)=b:=by
 subst hk
 refine (rfind_anyT s c w hs).mono ?_
 rintro e w' ⟨rfl,rfl⟩
 exact ⟨_,rfl,rfl,(has_ix _ _ c rfl).trans h⟩
theorem word_name {s:ByteArray} (h0:0 < s.size) (h1:97≤s[0].toNat) (h2:s[0].toNat≤122):Tk.word s=if 33 < s.size∨Tk.has s.data.toList 58=true∨Tk.has s.data.toList 64=true then none else some ⟨1,s,0⟩:=by
 unfold Tk.word;rw [getD_atT s 0 h0,if_pos ⟨h1,h2⟩]
theorem word_clock {s:ByteArray} (h0:0 < s.size) (h1:s[0].toNat=64):Tk.word s=if pcE (s.extract 1 s.size)=0 then some ⟨4,⟨#[]⟩,pcV (s.extract 1 s.size)⟩ else none:=by
 unfold Tk.word;rw [getD_atT s 0 h0,if_neg (by omega),if_pos h1]
theorem word_time {s:ByteArray} (h0:0 < s.size) (h1:¬ 97≤s[0].toNat) (h2:s[0].toNat≠64) (h3:Tk.has s.data.toList 58=true):Tk.word s=if Txt.duE s.data.toList=0 then some ⟨3,⟨#[]⟩,Txt.duV s.data.toList⟩ else none:=by
 unfold Tk.word;rw [getD_atT s 0 h0,if_neg (by omega),if_neg h2,if_pos h3]
theorem word_num {s:ByteArray} (h0:0 < s.size) (h1:¬ 97≤s[0].toNat) (h2:s[0].toNat≠64) (h3:Tk.has s.data.toList 58=false):Tk.word s=numO s.data.toList:=by
 unfold Tk.word;rw [getD_atT s 0 h0,if_neg (by omega),if_neg h2,if_neg (by rw [h3];simp)];rfl
theorem inw_le {s:ByteArray} (h0:0 < s.size) (hw:∀ x ∈ s.data.toList,Tk.inW x=true):s[0].toNat≤122:=by
 have:=hw s[0] (by rw [show s[0]=s.data.toList[0]'(by rw [len_atT];exact h0) from rfl];exact List.getElem_mem _)
 unfold Tk.inW at this
 rw [decide_eq_true_eq] at this
 omega
set_option maxHeartbeats 2000000 in
theorem rword_any (s:ByteArray) (w:World) (hs:s.size≤9223372036854775807) (hw:∀ x ∈ s.data.toList,Tk.inW x=true) (hlt:0 < s.size) :
 Calls Tryz.prog 51 #[.string s] w fun e w'=>WR (Tk.word s) e∧Below w.heap.size w w':=by
 have HW:=Lib.hid hw
 clear hw
 by_cases h1:97≤s[0].toNat
 · have h2:=inw_le hlt HW.out
   have W:=Lib.hid (word_name hlt h1 h2)
   have h1':(97:Int)≤(s[0].toNat:Int):=by omega
   have h2':(s[0].toNat:Int)≤122:=by omega
   by_cases h3:33 < s.size
   · have h3':(33:Int) < (s.size:Int):=by omega
     have N:Hid (Tk.word s=none):=by unfold Hid;rw [W.out,if_pos (.inl h3)]
     go_enter Tryz.func51,Tryz.ntmps51
     go_wp2
     refine bodyPost_ret (v:=.tuple #[.agg #[.int .i64 0,.string ⟨#[]⟩,.int .i64 0,.int .i64 0],.bool false]) ?_ rfl ⟨WR.none N.out _ _ _,below_alloc1 _ _⟩
     rw [results_cell_tmp rfl]
     go_simp
   · have h3':¬ (33:Int) < (s.size:Int):=by omega
     cases hq:Tk.has s.data.toList 58 with
     | true =>
       have N:Hid (Tk.word s=none):=by unfold Hid;rw [W.out,if_pos (.inr (.inl hq))]
       have HQ:=Lib.hid hq
       clear hq
       go_enter Tryz.func51,Tryz.ntmps51
       go_wp2_with fail
       refine (findC s 58 58 _ _ hs rfl HQ.out).mono ?_
       rintro e w1 ⟨m,rfl,rfl,hm⟩
       rw [decide_eq_true_eq] at hm
       go_wp2
       refine bodyPost_ret (v:=.tuple #[.agg #[.int .i64 0,.string ⟨#[]⟩,.int .i64 0,.int .i64 0],.bool false]) ?_ rfl ⟨WR.none N.out _ _ _,below_alloc1 _ _⟩
       rw [results_cell_tmp rfl]
       go_simp
     | false =>
       have HQ:=Lib.hid hq
       cases hr:Tk.has s.data.toList 64 with
       | true =>
         have N:Hid (Tk.word s=none):=by unfold Hid;rw [W.out,if_pos (.inr (.inr hr))]
         have HR:=Lib.hid hr
         clear hq hr
         go_enter Tryz.func51,Tryz.ntmps51
         go_wp2_with fail
         refine (findC s 58 58 _ _ hs rfl HQ.out).mono ?_
         rintro e w1 ⟨m,rfl,rfl,hm⟩
         rw [decide_eq_false_iff_not] at hm
         go_wp2_with fail
         refine (findC s 64 64 _ _ hs rfl HR.out).mono ?_
         rintro e w1 ⟨m2,rfl,rfl,hm2⟩
         rw [decide_eq_true_eq] at hm2
         go_wp2
         refine bodyPost_ret (v:=.tuple #[.agg #[.int .i64 0,.string ⟨#[]⟩,.int .i64 0,.int .i64 0],.bool false]) ?_ rfl ⟨WR.none N.out _ _ _,below_alloc1 _ _⟩
         rw [results_cell_tmp rfl]
         go_simp
       | false =>
         have N:Hid (Tk.word s=some ⟨1,s,0⟩):=by unfold Hid;rw [W.out,if_neg (by rintro (q|q|q);exact h3 q;simp [q] at hq;simp [q] at hr)]
         have HR:=Lib.hid hr
         clear hq hr
         go_enter Tryz.func51,Tryz.ntmps51
         go_wp2_with fail
         refine (findC s 58 58 _ _ hs rfl HQ.out).mono ?_
         rintro e w1 ⟨m,rfl,rfl,hm⟩
         rw [decide_eq_false_iff_not] at hm
         go_wp2_with fail
         refine (findC s 64 64 _ _ hs rfl HR.out).mono ?_
         rintro e w1 ⟨m2,rfl,rfl,hm2⟩
         rw [decide_eq_false_iff_not] at hm2
         go_wp2
         refine bodyPost_ret (v:=.tuple #[.agg #[.int .i64 1,.string s,.int .i64 0,.int .i64 0],.bool true]) ?_ rfl ⟨WR.some N.out,below_alloc1 _ _⟩
         rw [results_cell_tmp rfl]
         go_simp
 · have h1' : ¬ (97:Int)≤(s[0].toNat:Int):=by omega
   by_cases h2:s[0].toNat=64
   · have h2':((s[0].toNat:Int)==64)=true:=by simp;omega
     have W:=Lib.hid (word_clock hlt h2)
     clear h2
     have hz:(s.extract 1 s.size).size≤9223372036854775807:=by rw [ByteArray.size_extract];omega
     go_enter Tryz.func51,Tryz.ntmps51
     go_wp2_with fail
     refine (pclock_ref_any (s.extract 1 s.size) _ hz).mono ?_
     generalize pcE (s.extract 1 s.size)=pe at *
     generalize pcV (s.extract 1 s.size)=pv at *
     rintro e w1 ⟨rfl,rfl⟩
     by_cases h3:pe=0
     · have h3':(pe==0)=true:=by simp [h3]
       have N:Hid (Tk.word s=some ⟨4,⟨#[]⟩,pv⟩):=by unfold Hid;rw [W.out,if_pos h3]
       clear h3
       go_wp2
       refine bodyPost_ret (v:=.tuple #[.agg #[.int .i64 4,.string ⟨#[]⟩,.int .i64 pv,.int .i64 0],.bool true]) ?_ rfl ⟨WR.some N.out,below_alloc1 _ _⟩
       rw [results_cell_tmp rfl]
       go_simp
     · have h3':(pe==0)=false:=by simp [h3]
       have N:Hid (Tk.word s=none):=by unfold Hid;rw [W.out,if_neg h3]
       clear h3
       go_wp2
       refine bodyPost_ret (v:=.tuple #[.agg #[.int .i64 4,.string ⟨#[]⟩,.int .i64 pv,.int .i64 0],.bool false]) ?_ rfl ⟨WR.none N.out _ _ _,below_alloc1 _ _⟩
       rw [results_cell_tmp rfl]
       go_simp
   · have h2' : ((s[0].toNat:Int)==64)=false:=by simp;omega
     cases h3:Tk.has s.data.toList 58 with
     | true =>
       have W:=Lib.hid (word_time hlt h1 h2 h3)
       have H3:=Lib.hid h3
       clear h3 h2
       go_enter Tryz.func51,Tryz.ntmps51
       go_wp2_with fail
       refine (findC s 58 58 _ _ hs rfl H3.out).mono ?_
       rintro e w1 ⟨m,rfl,rfl,hm⟩
       rw [decide_eq_true_eq] at hm
       go_wp2_with fail
       have PD:=pdur_ref_any s.data.toList (w.alloc (.cells #[.int .i64 0,.string ⟨#[]⟩,.int .i64 0,.int .i64 0] 96)) (by rw [len_atT];exact hs)
       rw [ba_self] at PD
       refine PD.mono ?_
       clear PD
       generalize Txt.duE s.data.toList=pe at *
       generalize Txt.duV s.data.toList=pv at *
       rintro e w1 ⟨rfl,rfl⟩
       by_cases h3:pe=0
       · have h3':(pe==0)=true:=by simp [h3]
         have N:Hid (Tk.word s=some ⟨3,⟨#[]⟩,pv⟩):=by unfold Hid;rw [W.out,if_pos h3]
         clear h3
         go_wp2
         refine bodyPost_ret (v:=.tuple #[.agg #[.int .i64 3,.string ⟨#[]⟩,.int .i64 pv,.int .i64 0],.bool true]) ?_ rfl ⟨WR.some N.out,below_alloc1 _ _⟩
         rw [results_cell_tmp rfl]
         go_simp
       · have h3':(pe==0)=false:=by simp [h3]
         have N:Hid (Tk.word s=none):=by unfold Hid;rw [W.out,if_neg h3]
         clear h3
         go_wp2
         refine bodyPost_ret (v:=.tuple #[.agg #[.int .i64 3,.string ⟨#[]⟩,.int .i64 pv,.int .i64 0],.bool false]) ?_ rfl ⟨WR.none N.out _ _ _,below_alloc1 _ _⟩
         rw [results_cell_tmp rfl]
         go_simp
     | false =>
       have W:=Lib.hid (word_num hlt h1 h2 h3)
       have H3:=Lib.hid h3
       clear h3 h2
       have HL:=Lib.hid (len_atT s)
       have HG:=Lib.hid (getD_atT s 0 hlt)
       have DV:Hid (dgB s 1 13=true→dgV s 1 13=Txt.num s.data.toList):=by
        intro q
        unfold dgB digB at q;rw [decide_eq_true_eq] at q
        unfold dgV digV;rw [if_pos q]
       have DB:Hid (dgB s 1 13=decide (1≤s.data.toList.length∧s.data.toList.length≤13∧Txt.allD s.data.toList=true)):=by
        unfold Hid dgB digB;congr 1;apply propext;exact ⟨fun q=>⟨by omega,by omega,q.2.2⟩,fun q=>⟨by omega,by omega,q.2.2⟩⟩
       go_enter Tryz.func51,Tryz.ntmps51
       go_wp2_with fail
       refine (findC s 58 58 _ _ hs rfl H3.out).mono ?_
       rintro e w1 ⟨m,rfl,rfl,hm⟩
       rw [decide_eq_false_iff_not] at hm
       go_wp2_with fail
       refine (digits_same s 1 13 _ hs (by omega)).mono ?_
       generalize dgB s 1 13=db at *
       generalize dgV s 1 13=dv at *
       rintro e w1 ⟨rfl,rfl⟩
       cases db with
       | false =>
         have N:Hid (Tk.word s=none):=by
          unfold Hid;rw [W.out];refine numO_no fun q=>?_
          have:=DB.out
          rw [decide_eq_true ⟨q.1,q.2.1,q.2.2.1⟩] at this;cases this
         go_wp2
         refine bodyPost_ret (v:=.tuple #[.agg #[.int .i64 0,.string ⟨#[]⟩,.int .i64 0,.int .i64 0],.bool false]) ?_ rfl ⟨WR.none N.out _ _ _,below_alloc1 _ _⟩
         rw [results_cell_tmp rfl]
         go_simp
       | true =>
         have DQ:Hid (1≤s.data.toList.length∧s.data.toList.length≤13∧Txt.allD s.data.toList=true):=by have:=DB.out;unfold Hid;exact of_decide_eq_true this.symm
         have DV2:=Lib.hid (DV.out rfl)
         by_cases h4:1 < s.size∧s[0].toNat=48
         · have N:Hid (Tk.word s=none):=by unfold Hid;rw [W.out];exact numO_no fun q=>q.2.2.2.1 (by rw [HL.out,HG.out];exact ⟨h4.2,h4.1⟩)
           have z1:(1:Int) < (s.size:Int):=by omega
           have z2:((s[0].toNat:Int)==48)=true:=by simp;omega
           clear h4 DV DB
           go_wp2
           refine bodyPost_ret (v:=.tuple #[.agg #[.int .i64 0,.string ⟨#[]⟩,.int .i64 0,.int .i64 0],.bool false]) ?_ rfl ⟨WR.none N.out _ _ _,below_alloc1 _ _⟩
           rw [results_cell_tmp rfl]
           go_simp
         · have H4:=Lib.hid h4
           have hz:(1 < (s.size:Int)∧((s[0].toNat:Int)==48)=false)∨¬ (1:Int) < (s.size:Int):=by
            by_cases q:1 < s.size
            · exact .inl ⟨by omega,by simp;omega⟩
            · exact .inr (by omega)
           clear h4 DV DB
           by_cases h5:dv≤1099511627776
           · have N:Hid (Tk.word s=some ⟨2,⟨#[]⟩,dv⟩):=by
              unfold Hid;rw [W.out,DV2.out]
              exact numO_yes ⟨DQ.out.1,DQ.out.2.1,DQ.out.2.2,by rw [HL.out,HG.out];exact fun q=>H4.out ⟨q.2,q.1⟩,by rw [← DV2.out];exact h5⟩
             have n5:¬ 1099511627776 < dv:=by omega
             rcases hz with ⟨z1,z2⟩|z1
             · go_wp2
               refine bodyPost_ret (v:=.tuple #[.agg #[.int .i64 2,.string ⟨#[]⟩,.int .i64 dv,.int .i64 0],.bool true]) ?_ rfl ⟨WR.some N.out,below_alloc1 _ _⟩
               rw [results_cell_tmp rfl]
               go_simp
             · go_wp2
               refine bodyPost_ret (v:=.tuple #[.agg #[.int .i64 2,.string ⟨#[]⟩,.int .i64 dv,.int .i64 0],.bool true]) ?_ rfl ⟨WR.some N.out,below_alloc1 _ _⟩
               rw [results_cell_tmp rfl]
               go_simp
           · have N:Hid (Tk.word s=none):=by unfold Hid;rw [W.out];exact numO_no fun q=>h5 (by rw [DV2.out];exact q.2.2.2.2)
             have n5:1099511627776 < dv:=by omega
             rcases hz with ⟨z1,z2⟩|z1
             · go_wp2
               refine bodyPost_ret (v:=.tuple #[.agg #[.int .i64 0,.string ⟨#[]⟩,.int .i64 0,.int .i64 0],.bool false]) ?_ rfl ⟨WR.none N.out _ _ _,below_alloc1 _ _⟩
               rw [results_cell_tmp rfl]
               go_simp
             · go_wp2
               refine bodyPost_ret (v:=.tuple #[.agg #[.int .i64 0,.string ⟨#[]⟩,.int .i64 0,.int .i64 0],.bool false]) ?_ rfl ⟨WR.none N.out _ _ _,below_alloc1 _ _⟩
               rw [results_cell_tmp rfl]
               go_simp
end Go.Proofs.YtljdcpobomfnpaaGreat
namespace Go.Proofs.YtljdcpobomfnpaaGreat
set_option linter.unusedVariables false
set_option linter.unusedSimpArgs false
open Go.ChangeShapes Go.WideShapes Go.ChangeAt Go.RowKit
theorem own_next {w w':World} {base:Nat} {e:TypeId} {size:Nat} {v:Value} {n:Nat} {xs:List Value} (h:w.ownsRow base e size v n xs) (hb:Below w.heap.size w w'):w'.ownsRow base e size v n xs :=
 h.kept (row:=none) ⟨hb.os,hb.tape,hb.output,hb.size,fun k hk _=>hb.block k hk⟩ (by cases v.ownBlock<;>simp)
def ScanP (s:ByteArray) (w:World) (e:Ending) (w':World):Prop:=∃ v,e=.returned (.tuple #[v,.int .i64 (Tk.scanT s).2.1,.int .i64 (Tk.scanT s).2.2])∧TkAt w' (Tk.scanT s).1 v∧Below w.heap.size w w'
theorem tk_nil (w:World):TkAt w [] (.slice none 0 0):=⟨none,0,rfl,Nat.zero_le _,Nat.zero_le _,fun q=>absurd rfl q⟩
theorem scanP_of {s:ByteArray} {w w':World} {D:List Tk.T4} {v:Value} {a c:Int} (h:Tk.scanT s=(D,a,c)) (ht:TkAt w' D v) (hb:Below w.heap.size w w'):ScanP s w (.returned (.tuple #[v,.int .i64 a,.int .i64 c])) w':=by
 refine ⟨v,?_,?_,hb⟩<;>rw [h]
 exact ht
theorem ext_ext (s:ByteArray) (k g:Nat) (h:k+g≤s.size):(s.extract k s.size).extract 0 g=s.extract k (k+g):=by
 apply ByteArray.ext
 apply Array.toList_inj.1
 show ((s.extract k s.size).extract 0 g).data.toList=(s.extract k (k+g)).data.toList
 rw [ext_list,ext_list,ext_list,List.drop_zero,List.take_of_length_le (l:=s.data.toList) (by rw [len_atT];exact Nat.le_refl _),List.drop_take,show k+g - k=g by omega]
theorem drop_list (s:ByteArray) (k:Nat):(s.extract k s.size).data.toList=s.data.toList.drop k:=by
 rw [ext_list,List.take_of_length_le (by rw [len_atT];exact Nat.le_refl _)]
theorem getD_dropS (s:ByteArray) (k j:Nat) (h:k+j < s.size):(s.data.toList.drop k).getD j 0=s[k+j]:=by
 rw [List.getD_eq_getElem?_getD,List.getElem?_drop,← List.getD_eq_getElem?_getD]
 exact getD_atT s (k+j) h
end Go.Proofs.YtljdcpobomfnpaaGreat
namespace Go.Proofs.YtljdcpobomfnpaaGreat
set_option linter.unusedVariables false
set_option linter.unusedSimpArgs false
open Go.ChangeShapes Go.WideShapes Go.ChangeAt Go.RowKit
open Go.Deep (BT)
namespace Pz
theorem scan_len (s:ByteArray):∀ (n i:Nat) (D:List Tk.T4),D.length≤400→(Tk.scan s n i D).1.length≤400:=by
 intro n
 induction n with
 | zero=>intro i D h;exact h
 | succ n ih =>
   intro i D h
   rw [Tk.scan]
   by_cases h1:s.size≤i
   · rw [if_pos h1];exact h
   · rw [if_neg h1]
     split
     · exact h
     · split
       · exact ih _ _ h
       · split
         · simp
         · rename_i t m hq
           split
           · simp
           · rename_i q
             exact ih _ _ (by rw [List.length_append];show D.length+1≤400;omega)
theorem scanT_len (s:ByteArray):(Tk.scanT s).1.length≤400:=scan_len s _ _ _ (by simp)
def atOf (L:List Tk.T4) (s:ByteArray) (j:Nat):Int:=match L[j]? with|some t=>t.at'|none=>s.size
def pxT (s:ByteArray):Ch × Int × Int :=
 if (Tk.scanT s).2.2≠0 then (z0,(Tk.scanT s).2.1,(Tk.scanT s).2.2) else match pv (Tk.scanT s).1 .ex 0 with
  | (some x,j)=>if j < (Tk.scanT s).1.length then (z0,atOf (Tk.scanT s).1 s j,1) else if valE x.a x.k=0 then (x,0,0) else (z0,0,valE x.a x.k)
  | (none,j)=>(z0,atOf (Tk.scanT s).1 s j,1)
theorem nr_z0:nr z0=z0:=rfl
theorem exat_z0 (W:World):ExAt W z0.b z0.o z0.a z0.k:=⟨fun h=>absurd rfl h,trivial⟩
end Pz
theorem results_cell_tmp2 {fn:Func} {p u v:Tmp} {ty:TypeId} (h:fn.results=#[.cell p ty,.tmp u,.tmp v]) (tmps:Array Value) (P:Program) (w:World) :
 (results fn tmps).run P w =
   ((asAddr (tmps.getD p undef)).run P w).andThen fun a w₁=>((loadVar ty a).run P w₁).andThen fun x w₂=>.ok (.tuple #[x,tmps.getD u undef,tmps.getD v undef]) w₂:=by
 simp only [results,h]
 simp [Sem.run_bind,Result.andThen]
def PxP (s:ByteArray) (w:World) (e:Ending) (w':World):Prop:=∃ c:Ch,e=.returned (.tuple #[.agg #[.int .i64 c.a.op,.int .i64 c.a.num,.string c.a.name,.slice c.a.ptr (len c.k) c.a.cap],.int .i64 (Pz.pxT s).2.1,.int .i64 (Pz.pxT s).2.2])∧Pz.nr c=(Pz.pxT s).1∧ExAt w' c.b c.o c.a c.k∧Below w.heap.size w w'
theorem tkb_of {w:World} {L:List Tk.T4} {p:Option Addr} {n cap:Nat} (h:TkAt w L (.slice p n cap)) (h4:L.length≤400) {s:Nat} (hs:w.heap.size≤s):n=L.length∧TkB w L p s:=by
 obtain ⟨p',cap',e,h1,h2,h3⟩:=h
 injection e with e1 e2 e3
 subst e1 e2
 refine ⟨rfl,h4,fun q=>?_⟩
 obtain ⟨g,O,e,hc⟩:=h3 q
 refine ⟨g,O,e,?_,hc⟩
 cases L with
 | nil=>exact absurd rfl q
 | cons t L =>
   have:=hc 0 _ rfl
   exact Nat.lt_of_lt_of_le (block_lt_of_cell this) hs
theorem tk_apart {w0 w1:World} {L:List Tk.T4} {p:Option Addr} {r s:Nat} (hV:∀ t ∈ L,VT t.t) (ht:TkB w1 L p s) (t:TypeId) (hw:w0.heap[r]?=some (.cells #[.int .i64 0,.int .i64 0,.string ⟨#[]⟩,.slice none 0 0] t (0,0))) (hb:Below w0.heap.size w0 w1) {i:Nat} {x:Tk.T4} (hi:L[i]?=some x) {g O:Nat} (hp:p=some ⟨g,O,none⟩):g≠r:=by
 rintro rfl
 obtain ⟨g',O',e,-,c0,-⟩:=ht.get hi
 rw [hp] at e
 obtain ⟨rfl,rfl⟩:g=g'∧O=O':=by injection e with e;injection e with a b;exact ⟨a,b⟩
 have hr:g < w0.heap.size:=(Array.getElem?_eq_some_iff.1 hw).1
 have h1:w1.heap[g]?=some (.cells #[.int .i64 0,.int .i64 0,.string ⟨#[]⟩,.slice none 0 0] t (0,0)):=by rw [hb.block g hr];exact hw
 have hk:x.t.kind≠0:=by
  rcases vt_kind (hV x (List.mem_of_getElem? hi)) with ⟨h,-⟩|⟨h,-⟩|⟨h,-⟩|⟨h,-⟩|⟨h,-⟩<;>omega
 have h2:w1.cell? ⟨g,O+i * 4,none⟩=(#[Value.int .i64 0,.int .i64 0,.string ⟨#[]⟩,.slice none 0 0]:Array Value)[O+i * 4]?:=by simp [World.cell?,h1]
 rw [h2] at c0
 generalize O+i * 4=m at c0
 match m with
 | 0=>simp at c0;exact hk c0.symm
 | 1=>simp at c0;exact hk c0.symm
 | 2=>simp at c0
 | 3=>simp at c0
 | m+4=>simp at c0
end Go.Proofs.YtljdcpobomfnpaaGreat
