import Derived.Test.YtcejjdmnlejbaaaGreatDoorQPz
namespace Go.Proofs.YtcejjdmnlejbaaaGreatDoor
set_option linter.unusedVariables false
set_option linter.unusedSimpArgs false
open Go.ChangeShapes Go.WideShapes Go.ChangeAt Go.RowKit
def inWI (c:Int):Bool:=decide ((97≤c∧c≤122)∨(48≤c∧c≤57)∨c=95∨c=46∨c=58∨c=64)
theorem inW_int (c:UInt8):inWI (c.toNat:Int)=Tk.inW c:=by
 unfold inWI Tk.inW
 congr 1
 apply propext
 omega
set_option maxHeartbeats 2000000 in
theorem inword_any (c:Int) (w:World):Calls Tryz.prog 66 #[.int .u8 c] w fun e w'=>e=.returned (.bool (inWI c))∧w=w':=by
 obtain ⟨R,hR⟩:∃ R,R=inWI c:=⟨_,rfl⟩
 rw [← hR]
 have HR:=Lib.hid hR
 clear hR
 go_enter Tryz.func66,Tryz.ntmps66
 by_cases h1:97≤c∧c≤122
 · obtain ⟨a1,a2⟩:=h1
   have RQ:Hid (R=true):=by unfold Hid;rw [HR.out];unfold inWI;rw [decide_eq_true_eq];omega
   go_wp2
   go_ret
   exact ⟨ret_boolT RQ.out.symm,rfl⟩
 · by_cases h2:48≤c∧c≤57
   · obtain ⟨a1,a2⟩:=h2
     have n1:¬ 97≤c:=by omega
     have RQ:Hid (R=true):=by unfold Hid;rw [HR.out];unfold inWI;rw [decide_eq_true_eq];omega
     clear h1
     go_wp2
     go_ret
     exact ⟨ret_boolT RQ.out.symm,rfl⟩
   · have RQ:Hid (R=((c==95) || (c==46) || (c==58) || (c==64))):=by
      unfold Hid;rw [HR.out];unfold inWI
      rw [Bool.eq_iff_iff]
      simp only [decide_eq_true_eq,Bool.or_eq_true,beq_iff_eq]
      omega
     have H1:=Lib.hid h1
     have H2:=Lib.hid h2
     clear h1 h2
     by_cases k1:97≤c
     · have k2:¬ c≤122:=fun q=>H1.out ⟨k1,q⟩
       have k3:48≤c:=by omega
       have k4:¬ c≤57:=by omega
       cases e1:(c==95)<;>cases e2:(c==46)<;>cases e3:(c==58)<;>cases e4:(c==64)<;>(rw [e1,e2,e3,e4] at RQ)<;>(go_wp2;go_ret;exact ⟨ret_boolT RQ.out.symm,rfl⟩)
     · by_cases k3:48≤c
       · have k4:¬ c≤57:=fun q=>H2.out ⟨k3,q⟩
         cases e1:(c==95)<;>cases e2:(c==46)<;>cases e3:(c==58)<;>cases e4:(c==64)<;>(rw [e1,e2,e3,e4] at RQ)<;>(go_wp2;go_ret;exact ⟨ret_boolT RQ.out.symm,rfl⟩)
       · cases e1:(c==95)<;>cases e2:(c==46)<;>cases e3:(c==58)<;>cases e4:(c==64)<;>(rw [e1,e2,e3,e4] at RQ)<;>(go_wp2;go_ret;exact ⟨ret_boolT RQ.out.symm,rfl⟩)
set_option maxHeartbeats 2000000 in
theorem rinword_any (c:Int) (w:World):Calls Tryz.prog 72 #[.int .u8 c] w fun e w'=>e=.returned (.bool (inWI c))∧w=w':=by
 obtain ⟨R,hR⟩:∃ R,R=inWI c:=⟨_,rfl⟩
 rw [← hR]
 have HR:=Lib.hid hR
 clear hR
 go_enter Tryz.func72,Tryz.ntmps72
 by_cases h1:97≤c∧c≤122
 · obtain ⟨a1,a2⟩:=h1
   have RQ:Hid (R=true):=by unfold Hid;rw [HR.out];unfold inWI;rw [decide_eq_true_eq];omega
   go_wp2
   go_ret
   exact ⟨ret_boolT RQ.out.symm,rfl⟩
 · by_cases h2:48≤c∧c≤57
   · obtain ⟨a1,a2⟩:=h2
     have n1:¬ 97≤c:=by omega
     have RQ:Hid (R=true):=by unfold Hid;rw [HR.out];unfold inWI;rw [decide_eq_true_eq];omega
     clear h1
     go_wp2
     go_ret
     exact ⟨ret_boolT RQ.out.symm,rfl⟩
   · have RQ:Hid (R=((c==95) || (c==46) || (c==58) || (c==64))):=by
      unfold Hid;rw [HR.out];unfold inWI
      rw [Bool.eq_iff_iff]
      simp only [decide_eq_true_eq,Bool.or_eq_true,beq_iff_eq]
      omega
     have H1:=Lib.hid h1
     have H2:=Lib.hid h2
     clear h1 h2
     by_cases k1:97≤c
     · have k2:¬ c≤122:=fun q=>H1.out ⟨k1,q⟩
       have k3:48≤c:=by omega
       have k4:¬ c≤57:=by omega
       cases e1:(c==95)<;>cases e2:(c==46)<;>cases e3:(c==58)<;>cases e4:(c==64)<;>(rw [e1,e2,e3,e4] at RQ)<;>(go_wp2;go_ret;exact ⟨ret_boolT RQ.out.symm,rfl⟩)
     · by_cases k3:48≤c
       · have k4:¬ c≤57:=fun q=>H2.out ⟨k3,q⟩
         cases e1:(c==95)<;>cases e2:(c==46)<;>cases e3:(c==58)<;>cases e4:(c==64)<;>(rw [e1,e2,e3,e4] at RQ)<;>(go_wp2;go_ret;exact ⟨ret_boolT RQ.out.symm,rfl⟩)
       · cases e1:(c==95)<;>cases e2:(c==46)<;>cases e3:(c==58)<;>cases e4:(c==64)<;>(rw [e1,e2,e3,e4] at RQ)<;>(go_wp2;go_ret;exact ⟨ret_boolT RQ.out.symm,rfl⟩)
theorem ix_stepT (l:List UInt8) (c:UInt8) (k:Nat) (h:k < l.length) (hn:∀ x ∈ l.take k,x≠c) :
 (l.getD k 0=c→Lib.indexByte l c=k)∧(l.getD k 0≠c→∀ x ∈ l.take (k+1),x≠c):=by
 have hd:l.getD k 0=l[k]:=by rw [List.getD_eq_getElem?_getD,List.getElem?_eq_getElem h];rfl
 rw [hd]
 constructor
 · intro e
   refine (Txt.ix_some l c k).2 ⟨⟨l.drop (k+1),?_⟩,h,hn⟩
   rw [← e,← List.drop_eq_getElem_cons h,List.take_append_drop]
 · intro e x hx
   rw [List.take_succ_eq_append_getElem h] at hx
   rcases List.mem_append.1 hx with hx|hx
   · exact hn x hx
   · rw [List.mem_singleton.1 hx];exact e
set_option maxHeartbeats 1000000 in
theorem rfind_anyT (s:ByteArray) (c:UInt8) (w:World) (hs:s.size≤9223372036854775807) :
 Calls Tryz.prog 120 #[.string s,.int .u8 c.toNat] w fun e w'=>e=.returned (.int .i64 (Lib.indexByte s.data.toList c))∧w=w':=by
 go_enter Tryz.func120,Tryz.ntmps120
 go_wp2_with fail
 go_loop [5] (fun i=>∃ k:Nat,k≤s.size∧i=.int .i64 k∧Hid (∀ x ∈ s.data.toList.take k,x≠c)) (fun i=>s.size - (intOf i).toNat)
 case atStart=>exact ⟨0,by omega,rfl,by intro x hx;simp at hx⟩
 case round =>
  obtain ⟨k,hk,rfl,HR⟩:=hrel
  by_cases hlt:k < s.size
  · have hst:=ix_stepT s.data.toList c k (by rw [len_atT];exact hlt) HR.out
    rw [getD_atT s k hlt] at hst
    have ST:=Lib.hid hst
    clear hst
    have hi:(k:Int) < (s.size:Int):=by omega
    by_cases he:s[k]=c
    · have hb:((s[k].toNat:Int)==(c.toNat:Int))=true:=by rw [he];simp
      have V:=Lib.hid (ST.out.1 he)
      clear he
      go_wp2
      go_ret
      exact ⟨ret_intT V.out.symm,rfl⟩
    · have hb:((s[k].toNat:Int)==(c.toNat:Int))=false:=by
       have:s[k].toNat≠c.toNat:=fun q=>he (UInt8.toNat_inj.1 q)
       simp;omega
      have V:=Lib.hid (ST.out.2 he)
      clear he
      go_wp2
      go_round
      case rel=>exact ⟨k+1,by omega,by go_num,V.out⟩
      case measure=>simp [intOf];omega
  · have V:Hid (Lib.indexByte s.data.toList c = -1):=by
     have:=HR.out
     rw [List.take_of_length_le (by rw [len_atT];omega)] at this
     exact (Txt.ix_none _ _).2 this
    go_wp2
    go_ret
    exact ⟨ret_intT V.out.symm,rfl⟩
theorem inS_ix (c:UInt8):decide (0≤Lib.indexByte [43,45,42,47,40,41,44,60,61] c)=Tk.inS c:=by
 have h1:=Txt.ix_none [43,45,42,47,40,41,44,60,61] c
 have h2:=Txt.ix_ge [43,45,42,47,40,41,44,60,61] c
 unfold Tk.inS
 rw [Bool.eq_iff_iff]
 simp only [decide_eq_true_eq]
 have h3:0≤Lib.indexByte [43,45,42,47,40,41,44,60,61] c↔¬ ∀ x ∈ ([43,45,42,47,40,41,44,60,61]:List UInt8),x≠c:=by
  rw [← h1];omega
 rw [h3]
 simp only [List.mem_cons,List.not_mem_nil,or_false,forall_eq_or_imp,forall_eq]
 have e:∀ k:UInt8,k≠c↔¬ c.toNat=k.toNat:=fun k=>⟨fun h q=>h (UInt8.toNat_inj.1 q.symm),fun h q=>h (by rw [q])⟩
 simp only [e]
 have:(43:UInt8).toNat=43∧(45:UInt8).toNat=45∧(42:UInt8).toNat=42∧(47:UInt8).toNat=47∧(40:UInt8).toNat=40∧(41:UInt8).toNat=41∧(44:UInt8).toNat=44∧(60:UInt8).toNat=60∧(61:UInt8).toNat=61:=by decide
 obtain ⟨e1,e2,e3,e4,e5,e6,e7,e8,e9⟩:=this
 rw [e1,e2,e3,e4,e5,e6,e7,e8,e9]
 omega
theorem sgn_has (l:List UInt8):Lib.hasPrefix l [60,61]=decide ((l.getD 0 0).toNat=60∧(l.getD 1 0).toNat=61):=by
 unfold Lib.hasPrefix
 match l with
 | []=>rfl
 | [a]=>simp [List.isPrefixOf]
 | a :: b :: l =>
   simp only [List.isPrefixOf,List.getD_cons_zero,List.getD_cons_succ]
   rw [Bool.eq_iff_iff]
   simp only [Bool.and_eq_true,beq_iff_eq,decide_eq_true_eq,and_true]
   constructor
   · rintro ⟨h1,h2⟩;rw [← h1,← h2];exact ⟨rfl,rfl⟩
   · rintro ⟨h1,h2⟩;exact ⟨(UInt8.toNat_inj.1 h1).symm,(UInt8.toNat_inj.1 h2).symm⟩
end Go.Proofs.YtcejjdmnlejbaaaGreatDoor
