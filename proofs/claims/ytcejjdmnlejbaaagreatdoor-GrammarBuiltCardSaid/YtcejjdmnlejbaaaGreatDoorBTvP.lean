import Derived.Test.YtcejjdmnlejbaaaGreatDoorBTkT
import Derived.Test.YtcejjdmnlejbaaaGreatDoorBTvt
namespace Go.Proofs.YtcejjdmnlejbaaaGreatDoor
set_option linter.unusedVariables false
set_option linter.unusedSimpArgs false
open Go.ChangeShapes Go.WideShapes Go.ChangeAt Go.RowKit
theorem list2T (l:List UInt8) (h:l.length=2):∃ a b,l=[a,b]:=by
 match l,h with
 | [a,b],_=>exact ⟨a,b,rfl⟩
theorem padS_list (n:Int) (k:Nat):(padS n k).data.toList=Txt.pad n.toNat k:=by simp [padS]
theorem app_list (a b:ByteArray):(a++b).data.toList=a.data.toList++b.data.toList:=by simp
theorem pad_facts (n:Int) (k:Nat) (h0:0≤n) (hk:1≤k) (h1:n < (10 ^ k:Nat)):(Txt.pad n.toNat k).length=k∧Txt.allD (Txt.pad n.toNat k)=true∧Txt.num (Txt.pad n.toNat k)=n:=by
 refine ⟨?_,Txt.pad_allD _ _,by rw [Txt.pad_num];omega⟩
 have:=padS_size n k hk h1
 rw [← len_atT,padS_list] at this
 exact this
theorem fcS_list (c:Int):(fcS c).data.toList=Txt.pad (c / 60).toNat 2++[58]++Txt.pad (c % 60).toNat 2:=by
 unfold fcS;rw [app_list,app_list,padS_list,padS_list]
theorem fcS_size (c:Int) (h:fcBK c=true):(fcS c).size=5:=by
 simp [fcBK] at h
 have p1:=(pad_facts (c / 60) 2 (by omega) (by omega) (by omega)).1
 have p2:=(pad_facts (c % 60) 2 (by omega) (by omega) (by omega)).1
 rw [← len_atT,fcS_list];simp [p1,p2]
theorem clock_back (c:Int) (h:fcBK c=true):Txt.fits (fcS c).data.toList pat5=true∧pcH (fcS c)=c / 60∧pcM (fcS c)=c % 60:=by
 have hz:=fcS_size c h
 simp [fcBK] at h
 obtain ⟨l1,e1,n1⟩:=pad_facts (c / 60) 2 (by omega) (by omega) (by omega)
 obtain ⟨l2,e2,n2⟩:=pad_facts (c % 60) 2 (by omega) (by omega) (by omega)
 obtain ⟨p,q,hp⟩:=list2T _ l1
 obtain ⟨t,u,ht⟩:=list2T _ l2
 have hl:(fcS c).data.toList=[p,q,58,t,u]:=by rw [fcS_list,hp,ht];rfl
 rw [hp] at e1 n1
 rw [ht] at e2 n2
 refine ⟨?_,?_,?_⟩
 · rw [fits5,hl];exact ⟨rfl,rfl,e1,e2⟩
 · unfold pcH numBT;rw [ext_list,hl];exact n1
 · unfold pcM numBT;rw [ext_list,hl,hz];exact n2
theorem clock_back_all (c:Int) (h:fcBK c=true):pcE (fcS c)=0∧pcV (fcS c)=c:=by
 obtain ⟨h1,h2,h3⟩:=clock_back c h
 have hB:pcB (fcS c)=true:=by simp [fcBK] at h;unfold pcB;rw [h2,h3];simp;omega
 unfold pcE pcV;rw [h1,hB,h2,h3];simp;omega
theorem dec_ne (n:Nat):1≤(Lib.decDigits n).length:=by
 rw [Lib.decDigits];split<;>simp
theorem dec_head (n:Nat) (h:1≤n):((Lib.decDigits n).getD 0 0).toNat≠48:=by
 induction n using Nat.strongRecOn with
 | ind n ih =>
   rw [Lib.decDigits]
   split
   · rename_i h10
     simp [Txt.toNat_digit n h10];omega
   · rename_i h10
     have:=ih (n / 10) (by omega) (by omega)
     have hl:=dec_ne (n / 10)
     rw [List.getD_eq_getElem?_getD,List.getElem?_append_left (by omega),← List.getD_eq_getElem?_getD]
     exact this
theorem dec_plain (n:Nat):Txt.plainL (Lib.decDigits n)=true:=by
 rw [Txt.plain_iff _ (dec_ne n)]
 rintro ⟨h1,h2⟩
 by_cases h:1≤n
 · exact dec_head n h h1
 · obtain rfl:n=0:=by omega
   rw [Lib.decDigits] at h2;simp at h2
theorem dur_aux (sg:Bool) (H M:Nat) (hH:H < 100000000000) (hM:M < 60) (hz:sg=true→1≤60 * H+M) (hx:60 * H+M≤1099511627776) (l:List UInt8)
 (hl:l=(if sg=true then [45] else [])++(Lib.decDigits H++([58]++Txt.pad M 2))):Txt.duE l=0∧Txt.duV l=(if sg=true then - ((60 * H+M:Nat):Int) else ((60 * H+M:Nat):Int)):=by
 have d1:=dec_ne H
 have d2:=Txt.dec_len_le H 11 (by omega) (by omega)
 have p1:(Txt.pad M 2).length=2:=Txt.pad_len _ _ (Txt.dec_len_le M 2 (by omega) (by omega))
 have hneg:Txt.duNeg l=sg:=by
  cases sg
  · rw [Bool.eq_false_iff];intro q
    obtain ⟨t,ht⟩:=(Txt.dash_iff l).1 q
    rw [hl] at ht
    have h0:(Lib.decDigits H++([58]++Txt.pad M 2)).getD 0 0=45:=by
     have:(if (false:Bool)=true then [(45:UInt8)] else [])=[]:=rfl
     rw [this,List.nil_append] at ht
     rw [ht];rfl
    rw [List.getD_eq_getElem?_getD,List.getElem?_append_left (by omega)] at h0
    have hd:=Txt.dec_allD H
    rw [List.getElem?_eq_getElem (by omega)] at h0
    simp only [Option.getD_some] at h0
    have:=List.all_eq_true.1 hd _ (List.getElem_mem (show 0 < _ by omega))
    rw [h0] at this
    revert this;decide
  · rw [hl];exact (Txt.dash_iff _).2 ⟨_,rfl⟩
 have hR:Txt.duR l=Lib.decDigits H++([58]++Txt.pad M 2):=by
  cases sg
  · rw [Txt.duR_pos l hneg,hl];rfl
  · rw [hl];exact Txt.duR_neg _
 have hlen:(Txt.duR l).length=(Lib.decDigits H).length+3:=by rw [hR];simp [p1]
 have hK:Txt.duK l=(Lib.decDigits H).length:=by unfold Txt.duK;omega
 have hHH:Txt.duH l=Lib.decDigits H:=by unfold Txt.duH;rw [hK,hR,List.take_left]
 have hMM:Txt.duM l=Txt.pad M 2:=by
  unfold Txt.duM;rw [hK,hR,← List.append_assoc]
  have:(Lib.decDigits H).length+1=(Lib.decDigits H++[58]).length:=by simp
  rw [this,List.drop_left]
 have hc:(Txt.duR l).getD (Txt.duK l) 0=58:=by
  rw [hK,hR,List.getD_eq_getElem?_getD,List.getElem?_append_right (by omega)];simp
 have hB:Txt.duB l=true:=by
  unfold Txt.duB
  rw [decide_eq_true_eq,hHH,hMM,hneg,Txt.dec_num,Txt.pad_num]
  refine ⟨by omega,by omega,hc,Txt.dec_allD H,Txt.pad_allD M 2,dec_plain H,?_⟩
  rintro ⟨q1,q2,q3⟩
  have:=hz q1
  omega
 have hN:Txt.duN l=((60 * H+M:Nat):Int):=by unfold Txt.duN;rw [hHH,hMM,Txt.dec_num,Txt.pad_num];omega
 have hE:Txt.duE l=0:=by
  unfold Txt.duE;rw [if_pos hB,hMM,Txt.pad_num,hN,if_pos ⟨by omega,by omega⟩]
 exact ⟨hE,by unfold Txt.duV;rw [if_pos hE,hneg,hN]⟩
theorem fuS_list (n:Int):(fuS n).data.toList=(if decide (n < 0)=true then [45] else [])++(Lib.decDigits (absI n / 60).toNat++([58]++Txt.pad (absI n % 60).toNat 2)):=by
 unfold fuS
 rw [app_list,app_list,app_list]
 have e1:(sgS n).data.toList=if decide (n < 0)=true then [45] else []:=by
  unfold sgS;by_cases h:n < 0<;>simp [h]
 rw [e1]
 show _++Lib.decDigits _++[58]++Txt.pad _ 2=_
 simp only [List.append_assoc]
theorem dur_back (n:Int) (h:fuB n=true):Txt.duE (fuS n).data.toList=0∧Txt.duV (fuS n).data.toList=n:=by
 simp only [fuB,decide_eq_true_eq] at h
 have a1:0≤absI n:=by unfold absI;split<;>omega
 have a2:absI n≤1099511627776:=by unfold absI;split<;>omega
 have a3:absI n=if decide (n < 0)=true then - n else n:=by unfold absI;simp
 obtain ⟨h1,h2⟩:=dur_aux (decide (n < 0)) (absI n / 60).toNat (absI n % 60).toNat (by omega) (by omega)
  (by intro q;simp at q;have:absI n = - n:=by unfold absI;rw [if_pos q]
      omega) (by omega) _ (fuS_list n)
 refine ⟨h1,?_⟩
 rw [h2]
 have e:((60 * (absI n / 60).toNat+(absI n % 60).toNat:Nat):Int)=absI n:=by omega
 rw [e]
 unfold absI
 by_cases q:n < 0
 · simp [q]
 · simp [q]
end Go.Proofs.YtcejjdmnlejbaaaGreatDoor
namespace Go.Proofs.YtcejjdmnlejbaaaGreatDoor
set_option linter.unusedVariables false
set_option linter.unusedSimpArgs false
open Go.ChangeShapes Go.WideShapes Go.ChangeAt Go.RowKit
theorem inW_ne {b:UInt8} (h:Tk.inW b=true):b.toNat≠32∧b.toNat≠35:=by
 unfold Tk.inW at h;rw [decide_eq_true_eq] at h;omega
theorem inS_ne {b:UInt8} (h:Tk.inS b=true):b.toNat≠32∧b.toNat≠35∧Tk.inW b=false:=by
 unfold Tk.inS at h;rw [decide_eq_true_eq] at h
 refine ⟨by omega,by omega,?_⟩
 unfold Tk.inW;rw [decide_eq_false_iff_not];omega
theorem ext_all (s:ByteArray):s.extract 0 s.size=s:=by
 apply ByteArray.ext
 simp
theorem getD_mem {l:List UInt8} {i:Nat} (h:i < l.length):l.getD i 0 ∈ l:=by
 rw [List.getD_eq_getElem?_getD,List.getElem?_eq_getElem h];exact List.getElem_mem _
theorem sgn_bytes {l:List UInt8} (h:Tk.sgn l=l.length) (hp:0 < l.length):(∀ b ∈ l,Tk.inS b=true):=by
 unfold Tk.sgn at h
 by_cases h2:(l.getD 0 0).toNat=60∧(l.getD 1 0).toNat=61
 · rw [if_pos h2] at h
   match l,h,h2 with
   | [a,b],_,h2 =>
     intro c hc
     have ha:a.toNat=60:=by simpa using h2.1
     have hb:b.toNat=61:=by simpa using h2.2
     simp only [List.mem_cons,List.not_mem_nil,or_false] at hc
     unfold Tk.inS
     rw [decide_eq_true_eq]
     rcases hc with rfl|rfl<;>omega
 · rw [if_neg h2] at h
   by_cases h1:1≤l.length∧Tk.inS (l.getD 0 0)=true
   · rw [if_pos h1] at h
     match l,h,h1 with
     | [a],_,h1 =>
       intro c hc
       rw [List.mem_singleton.1 hc]
       simpa using h1.2
   · rw [if_neg h1] at h;omega
theorem allD_inW {l:List UInt8} (h:Txt.allD l=true):∀ b ∈ l,Tk.inW b=true∧b.toNat≠58∧b.toNat < 97∧b.toNat≠64:=by
 intro b hb
 have:=(Txt.isD_iff b).1 (List.all_eq_true.1 h b hb)
 refine ⟨?_,by omega,by omega,by omega⟩
 unfold Tk.inW;rw [decide_eq_true_eq];omega
end Go.Proofs.YtcejjdmnlejbaaaGreatDoor
