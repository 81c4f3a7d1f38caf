import Derived.Test.YtcejjdmnlejbaaaGreatDoorBTkM
import Derived.Below
namespace Go.Proofs.YtcejjdmnlejbaaaGreatDoor
set_option linter.unusedVariables false
set_option linter.unusedSimpArgs false
open Go.ChangeShapes Go.WideShapes Go.ChangeAt Go.RowKit
def inWI (c:Int):Bool:=decide ((97≤c∧c≤122)∨(48≤c∧c≤57)∨c=95∨c=46∨c=58∨c=64)
theorem inW_int (c:UInt8):inWI (c.toNat:Int)=Tk.inW c:=by
 unfold inWI Tk.inW
 congr 1
 apply propext
 omega
set_option maxHeartbeats 2000000 in
theorem inword_any (c:Int) (w:World):Calls Tryz.prog 66 #[.int .u8 c] w fun e w'=>e=.returned (.bool (inWI c))∧w=w':=by
 obtain ⟨R,hR⟩:∃ R,R=inWI c:=⟨_,rfl⟩
 rw [← hR]
 have HR:=Lib.hid hR
 clear hR
 go_enter Tryz.func66,Tryz.ntmps66
 by_cases h1:97≤c∧c≤122
 · obtain ⟨a1,a2⟩:=h1
   have RQ:Hid (R=true):=by unfold Hid;rw [HR.out];unfold inWI;rw [decide_eq_true_eq];omega
   go_wp2
   go_ret
   exact ⟨ret_boolT RQ.out.symm,rfl⟩
 · by_cases h2:48≤c∧c≤57
   · obtain ⟨a1,a2⟩:=h2
     have n1:¬ 97≤c:=by omega
     have RQ:Hid (R=true):=by unfold Hid;rw [HR.out];unfold inWI;rw [decide_eq_true_eq];omega
     clear h1
     go_wp2
     go_ret
     exact ⟨ret_boolT RQ.out.symm,rfl⟩
   · have RQ:Hid (R=((c==95) || (c==46) || (c==58) || (c==64))):=by
      unfold Hid;rw [HR.out];unfold inWI
      rw [Bool.eq_iff_iff]
      simp only [decide_eq_true_eq,Bool.or_eq_true,beq_iff_eq]
      omega
     have H1:=Lib.hid h1
     have H2:=Lib.hid h2
     clear h1 h2
     by_cases k1:97≤c
     · have k2:¬ c≤122:=fun q=>H1.out ⟨k1,q⟩
       have k3:48≤c:=by omega
       have k4:¬ c≤57:=by omega
       cases e1:(c==95)<;>cases e2:(c==46)<;>cases e3:(c==58)<;>cases e4:(c==64)<;>(rw [e1,e2,e3,e4] at RQ)<;>(go_wp2;go_ret;exact ⟨ret_boolT RQ.out.symm,rfl⟩)
     · by_cases k3:48≤c
       · have k4:¬ c≤57:=fun q=>H2.out ⟨k3,q⟩
         cases e1:(c==95)<;>cases e2:(c==46)<;>cases e3:(c==58)<;>cases e4:(c==64)<;>(rw [e1,e2,e3,e4] at RQ)<;>(go_wp2;go_ret;exact ⟨ret_boolT RQ.out.symm,rfl⟩)
       · cases e1:(c==95)<;>cases e2:(c==46)<;>cases e3:(c==58)<;>cases e4:(c==64)<;>(rw [e1,e2,e3,e4] at RQ)<;>(go_wp2;go_ret;exact ⟨ret_boolT RQ.out.symm,rfl⟩)
theorem inS_ix (c:UInt8):decide (0≤Lib.indexByte [43,45,42,47,40,41,44,60,61] c)=Tk.inS c:=by
 have h1:=Txt.ix_none [43,45,42,47,40,41,44,60,61] c
 have h2:=Txt.ix_ge [43,45,42,47,40,41,44,60,61] c
 unfold Tk.inS
 rw [Bool.eq_iff_iff]
 simp only [decide_eq_true_eq]
 have h3:0≤Lib.indexByte [43,45,42,47,40,41,44,60,61] c↔¬ ∀ x ∈ ([43,45,42,47,40,41,44,60,61]:List UInt8),x≠c:=by
  rw [← h1];omega
 rw [h3]
 simp only [List.mem_cons,List.not_mem_nil,or_false,forall_eq_or_imp,forall_eq]
 have e:∀ k:UInt8,k≠c↔¬ c.toNat=k.toNat:=fun k=>⟨fun h q=>h (UInt8.toNat_inj.1 q.symm),fun h q=>h (by rw [q])⟩
 simp only [e]
 have:(43:UInt8).toNat=43∧(45:UInt8).toNat=45∧(42:UInt8).toNat=42∧(47:UInt8).toNat=47∧(40:UInt8).toNat=40∧(41:UInt8).toNat=41∧(44:UInt8).toNat=44∧(60:UInt8).toNat=60∧(61:UInt8).toNat=61:=by decide
 obtain ⟨e1,e2,e3,e4,e5,e6,e7,e8,e9⟩:=this
 rw [e1,e2,e3,e4,e5,e6,e7,e8,e9]
 omega
theorem sgn_has (l:List UInt8):Lib.hasPrefix l [60,61]=decide ((l.getD 0 0).toNat=60∧(l.getD 1 0).toNat=61):=by
 unfold Lib.hasPrefix
 match l with
 | []=>rfl
 | [a]=>simp [List.isPrefixOf]
 | a :: b :: l =>
   simp only [List.isPrefixOf,List.getD_cons_zero,List.getD_cons_succ]
   rw [Bool.eq_iff_iff]
   simp only [Bool.and_eq_true,beq_iff_eq,decide_eq_true_eq,and_true]
   constructor
   · rintro ⟨h1,h2⟩;rw [← h1,← h2];exact ⟨rfl,rfl⟩
   · rintro ⟨h1,h2⟩;exact ⟨(UInt8.toNat_inj.1 h1).symm,(UInt8.toNat_inj.1 h2).symm⟩
end Go.Proofs.YtcejjdmnlejbaaaGreatDoor
namespace Go.Proofs.YtcejjdmnlejbaaaGreatDoor
set_option linter.unusedVariables false
set_option linter.unusedSimpArgs false
open Go.ChangeShapes Go.WideShapes Go.ChangeAt Go.RowKit
namespace Tk
theorem wl_cons (c:UInt8) (l:List UInt8):wl (c :: l)=if inW c=true then wl l+1 else 0:=by
 unfold wl
 rw [List.takeWhile_cons]
 split<;>simp
theorem wl_step (l:List UInt8):∀ j,j≤wl l→j < l.length→(inW (l.getD j 0)=true→j+1≤wl l)∧(inW (l.getD j 0)=false→wl l=j):=by
 induction l with
 | nil=>intro j _ h;simp at h
 | cons c l ih =>
   intro j hj hl
   rw [wl_cons] at hj ⊢
   cases j with
   | zero =>
     rw [List.getD_cons_zero]
     constructor
     · intro h;rw [if_pos h];omega
     · intro h;rw [h];rfl
   | succ j =>
     rw [List.getD_cons_succ]
     by_cases hc:inW c=true
     · rw [if_pos hc] at hj ⊢
       obtain ⟨q1,q2⟩:=ih j (by omega) (by simpa using hl)
       exact ⟨fun h=>by have:=q1 h;omega,fun h=>by rw [q2 h]⟩
     · rw [if_neg hc] at hj;omega
theorem take_wl (l:List UInt8):l.take (wl l)=l.takeWhile inW:=by
 induction l with
 | nil=>rfl
 | cons c l ih =>
   rw [wl_cons,List.takeWhile_cons]
   split
   · rw [List.take_succ_cons,ih]
   · rfl
theorem word_bytes (s:ByteArray) (i:Nat):∀ b ∈ (s.extract i (i+wl (s.data.toList.drop i))).data.toList,inW b=true:=by
 intro b hb
 rw [ext_list,List.drop_take,show i+wl (s.data.toList.drop i) - i=wl (s.data.toList.drop i) by omega,take_wl] at hb
 exact List.all_eq_true.1 List.all_takeWhile b hb
end Tk
def tkC (D:List Tk.T4):List Value:=D.flatMap fun t=>[.int .i64 t.t.kind,.string t.t.text,.int .i64 t.t.num,.int .i64 t.at']
theorem tkC_len (D:List Tk.T4):(tkC D).length=D.length * 4:=by
 induction D with
 | nil=>rfl
 | cons c l ih=>simp [tkC] at *;omega
theorem tkC_snoc (D:List Tk.T4) (t:Tk.T4):tkC (D++[t])=tkC D++[.int .i64 t.t.kind,.string t.t.text,.int .i64 t.t.num,.int .i64 t.at']:=by simp [tkC]
theorem tkC_get (D:List Tk.T4) (i:Nat) (t:Tk.T4) (h:D[i]?=some t):(tkC D)[i * 4]?=some (.int .i64 t.t.kind)∧(tkC D)[i * 4+1]?=some (.string t.t.text)∧(tkC D)[i * 4+2]?=some (.int .i64 t.t.num)∧(tkC D)[i * 4+3]?=some (.int .i64 t.at'):=by
 induction D generalizing i with
 | nil=>simp at h
 | cons c l ih =>
   have e:tkC (c :: l)=[.int .i64 c.t.kind,.string c.t.text,.int .i64 c.t.num,.int .i64 c.at']++tkC l:=by simp [tkC]
   cases i with
   | zero=>simp at h;subst h;rw [e];exact ⟨rfl,rfl,rfl,rfl⟩
   | succ i =>
     have:=ih i (by simpa using h)
     rw [e]
     refine ⟨?_,?_,?_,?_⟩
     · rw [show (i+1) * 4=4+i * 4 by omega,List.getElem?_append_right (by simp)];simpa using this.1
     · rw [show (i+1) * 4+1=4+(i * 4+1) by omega,List.getElem?_append_right (by simp)];simpa using this.2.1
     · rw [show (i+1) * 4+2=4+(i * 4+2) by omega,List.getElem?_append_right (by simp)];simpa using this.2.2.1
     · rw [show (i+1) * 4+3=4+(i * 4+3) by omega,List.getElem?_append_right (by simp)];simpa using this.2.2.2
def TkAt (w:World) (D:List Tk.T4) (v:Value):Prop:=∃ (p:Option Addr) (cap:Nat),v=.slice p D.length cap∧D.length≤cap∧D.length≤2932031007402∧(D≠[]→∃ g O,p=some ⟨g,O,none⟩∧∀ j u,(tkC D)[j]?=some u→w.cell? ⟨g,O+j,none⟩=some u)
theorem TkAt.next {w w':World} {D:List Tk.T4} {v:Value} (h:TkAt w D v) (hb:Below w.heap.size w w'):TkAt w' D v:=by
 obtain ⟨p,cap,h1,h2,h3,h4⟩:=h
 refine ⟨p,cap,h1,h2,h3,fun q=>?_⟩
 obtain ⟨g,O,e,hc⟩:=h4 q
 refine ⟨g,O,e,fun j u hu=>?_⟩
 have:=hc j u hu
 rw [hb.cell (block_lt_of_cell this)];exact this
theorem TkAt.get {w:World} {D:List Tk.T4} {p:Option Addr} {n cap:Nat} (h:TkAt w D (.slice p n cap)) {i:Nat} {t:Tk.T4} (hi:D[i]?=some t):∃ g O,p=some ⟨g,O,none⟩ ∧
 w.cell? ⟨g,O+i * 4,none⟩=some (.int .i64 t.t.kind)∧w.cell? ⟨g,O+i * 4+1,none⟩=some (.string t.t.text)∧w.cell? ⟨g,O+i * 4+2,none⟩=some (.int .i64 t.t.num)∧w.cell? ⟨g,O+i * 4+3,none⟩=some (.int .i64 t.at'):=by
 obtain ⟨p',cap',h1,h2,h3,h4⟩:=h
 obtain ⟨g,O,e,hc⟩:=h4 (by intro q;rw [q] at hi;simp at hi)
 injection h1 with q1 q2 q3
 obtain ⟨c0,c1,c2,c3⟩:=tkC_get D i t hi
 exact ⟨g,O,q1.trans e,hc _ _ c0,by rw [Nat.add_assoc];exact hc _ _ c1,by rw [Nat.add_assoc];exact hc _ _ c2,by rw [Nat.add_assoc];exact hc _ _ c3⟩
theorem tk_of_own {w:World} {base n:Nat} {v:Value} {D:List Tk.T4} (h:w.ownsRow base 68 4 v n (tkC D)) (hn:n≤2932031007402):TkAt w D v:=by
 have hl:=h.1
 rw [tkC_len] at hl
 have hl2:D.length=n:=by omega
 rcases h.2 with ⟨hv,h0⟩|⟨g,cap,cur,hv,hcap⟩
 · obtain rfl:D=[]:=List.eq_nil_of_length_eq_zero (by omega)
   exact ⟨none,0,hv,Nat.zero_le _,Nat.zero_le _,fun q=>absurd rfl q⟩
 · subst hv
   refine ⟨some ⟨g,0,none⟩,cap,by rw [hl2],by rw [hl2];exact hcap.2.2.1,by omega,fun _=>⟨g,0,rfl,fun j u hu=>?_⟩⟩
   have hj:=(List.getElem?_eq_some_iff.1 hu).1
   rw [tkC_len] at hj
   rw [Nat.zero_add,h.cellAt j (by omega)]
   exact hu
theorem Tryz.infoTk:(Tryz.prog.info? 68).map (fun i=>(i.zero,i.size,i.bytes))=some (some (.agg #[.int .i64 0,.string ⟨#[]⟩,.int .i64 0,.int .i64 0]),4,40):=by kernel_rfl
end Go.Proofs.YtcejjdmnlejbaaaGreatDoor
namespace Go.Proofs.YtcejjdmnlejbaaaGreatDoor
set_option linter.unusedVariables false
set_option linter.unusedSimpArgs false
open Go.ChangeShapes Go.WideShapes Go.ChangeAt Go.RowKit
def VT (t:Tk.T3):Prop :=
 (t.kind=1∧(∀ b ∈ t.text.data.toList,Tk.inW b=true)∧Tk.word t.text=some ⟨1,t.text,0⟩∧t.num=0) ∨
 ((t.kind=2∨t.kind=3)∧t.text=⟨#[]⟩∧0≤t.num∧t.num≤1099511627776) ∨
 (t.kind=4∧t.text=⟨#[]⟩∧0≤t.num∧t.num≤1439) ∨
 (t.kind=5∧0 < t.text.size∧Tk.sgn t.text.data.toList=t.text.size∧t.num=0)
theorem duR_plain {l:List UInt8} (h:∀ b ∈ l,Tk.inW b=true):Txt.duNeg l=false:=by
 cases hq:Txt.duNeg l with
 | false=>rfl
 | true =>
   obtain ⟨t,rfl⟩:=(Txt.dash_iff l).1 hq
   have:=h 45 (List.mem_cons_self ..)
   revert this;decide
theorem word_valid {s:ByteArray} {t:Tk.T3} (hw:∀ b ∈ s.data.toList,Tk.inW b=true) (h:Tk.word s=some t):VT t:=by
 have h':=h
 unfold Tk.word at h
 split at h
 · split at h
   · cases h
   · obtain rfl:=Option.some.inj h
     exact .inl ⟨rfl,hw,h',rfl⟩
 · split at h
   · split at h
     · rename_i hpe
       obtain rfl:=Option.some.inj h
       refine .inr (.inr (.inl ⟨rfl,rfl,?_⟩))
       dsimp only
       unfold pcE at hpe
       unfold pcV
       split at hpe
       · rename_i hf
         split at hpe
         · rename_i hb
           rw [if_pos hf,if_pos hb]
           obtain ⟨hl,-,h1,h2⟩:=(fits5 _).1 hf
           rw [len_atT] at hl h2
           rw [← ext_list] at h1 h2
           have m1:=numB_bd ((s.extract 1 s.size).extract 0 2) 2 (by rw [ByteArray.size_extract];omega) h1
           have m2:=numB_bd ((s.extract 1 s.size).extract 3 (s.extract 1 s.size).size) 2 (by rw [ByteArray.size_extract];omega) h2
           unfold pcB at hb
           rw [decide_eq_true_eq] at hb
           unfold pcH pcM at hb ⊢
           omega
         · cases hpe
       · cases hpe
     · cases h
   · split at h
     · split at h
       · rename_i hdu
         obtain rfl:=Option.some.inj h
         refine .inr (.inl ⟨.inr rfl,rfl,?_⟩)
         dsimp only
         have hn:=duR_plain hw
         unfold Txt.duV
         rw [if_pos hdu,hn,if_neg (by simp)]
         unfold Txt.duE at hdu
         split at hdu
         · rename_i hb
           split at hdu
           · rename_i hq
             refine ⟨?_,hq.2⟩
             unfold Txt.duB at hb
             rw [decide_eq_true_eq] at hb
             have b1:=(Txt.num_bd _ hb.2.2.2.1).1
             have b2:=(Txt.num_bd _ hb.2.2.2.2.1).1
             unfold Txt.duN
             omega
           · cases hdu
         · cases hdu
       · cases h
     · split at h
       · rename_i hno
         obtain rfl:=Option.some.inj h
         unfold Tk.numOk at hno
         rw [decide_eq_true_eq] at hno
         exact .inr (.inl ⟨.inl rfl,rfl,(Txt.num_bd _ hno.2.2.1).1,hno.2.2.2.2⟩)
       · cases h
theorem sgn_take (l:List UInt8) (h:Tk.sgn l≠0):Tk.sgn (l.take (Tk.sgn l))=Tk.sgn l:=by
 unfold Tk.sgn at h ⊢
 by_cases h2:(l.getD 0 0).toNat=60∧(l.getD 1 0).toNat=61
 · rw [if_pos h2]
   match l,h2 with
   | [],h2=>simp at h2
   | [a],h2=>simp at h2
   | a :: b :: l,h2=>exact if_pos h2
 · rw [if_neg h2] at h ⊢
   by_cases h1:1≤l.length∧Tk.inS (l.getD 0 0)=true
   · rw [if_pos h1]
     match l,h1 with
     | [],h1=>simp at h1
     | a :: l,h1=>simpa using h1.2
   · rw [if_neg h1] at h;exact absurd rfl h
theorem tok_valid {s:ByteArray} {i m:Nat} {t:Tk.T3} (hi:i < s.size) (h:Tk.tokAt s i=(some t,m)):VT t:=by
 unfold Tk.tokAt at h
 by_cases hw:Tk.inW (s.data.toList.getD i 0)=true
 · rw [if_pos hw] at h
   exact word_valid (Tk.word_bytes s i) (Prod.mk.inj h).1
 · rw [if_neg hw] at h
   obtain ⟨h1,h2⟩:=Prod.mk.inj h
   by_cases hg:Tk.sgn (s.data.toList.drop i)=0
   · rw [if_pos hg] at h1;cases h1
   · rw [if_neg hg] at h1
     obtain rfl:=Option.some.inj h1
     have hle:=Tk.sgn_le (s.data.toList.drop i)
     rw [List.length_drop,len_atT] at hle
     have hz:(s.extract i (i+Tk.sgn (s.data.toList.drop i))).size=Tk.sgn (s.data.toList.drop i):=by rw [ByteArray.size_extract];omega
     refine .inr (.inr (.inr ⟨rfl,by dsimp only;omega,?_,rfl⟩))
     dsimp only
     rw [hz,ext_list,List.drop_take,show i+Tk.sgn (s.data.toList.drop i) - i=Tk.sgn (s.data.toList.drop i) by omega]
     exact sgn_take _ hg
theorem scan_valid (s:ByteArray):∀ (n i:Nat) (D:List Tk.T4),(∀ t ∈ D,VT t.t)→∀ t ∈ (Tk.scan s n i D).1,VT t.t:=by
 intro n
 induction n with
 | zero=>intro i D h;exact h
 | succ n ih =>
   intro i D h
   rw [Tk.scan]
   by_cases h1:s.size≤i
   · rw [if_pos h1];exact h
   · rw [if_neg h1]
     split
     · exact h
     · split
       · exact ih _ _ h
       · split
         · intro t ht;cases ht
         · rename_i t m hq
           split
           · intro t ht;cases ht
           · refine ih _ _ ?_
             intro u hu
             rcases List.mem_append.1 hu with hu|hu
             · exact h u hu
             · rw [List.mem_singleton.1 hu];exact tok_valid (by omega) hq
theorem scanT_valid (s:ByteArray):∀ t ∈ (Tk.scanT s).1,VT t.t:=scan_valid s _ _ _ (fun t ht=>by cases ht)
end Go.Proofs.YtcejjdmnlejbaaaGreatDoor
