import Derived.Test.YtcejjdmnlejbaaaGreatDoorQKti
import Derived.Test.YtcejjdmnlejbaaaGreatDoorQTkT
import Derived.Test.YtcejjdmnlejbaaaGreatDoorQTvt
namespace Go.Proofs.YtcejjdmnlejbaaaGreatDoor
set_option linter.unusedVariables false
set_option linter.unusedSimpArgs false
open Go.ChangeShapes Go.WideShapes Go.ChangeAt Go.RowKit
theorem list2T (l:List UInt8) (h:l.length=2):∃ a b,l=[a,b]:=by
 match l,h with
 | [a,b],_=>exact ⟨a,b,rfl⟩
theorem padS_list (n:Int) (k:Nat):(padS n k).data.toList=Txt.pad n.toNat k:=by simp [padS]
theorem app_list (a b:ByteArray):(a++b).data.toList=a.data.toList++b.data.toList:=by simp
theorem pad_facts (n:Int) (k:Nat) (h0:0≤n) (hk:1≤k) (h1:n < (10 ^ k:Nat)):(Txt.pad n.toNat k).length=k∧Txt.allD (Txt.pad n.toNat k)=true∧Txt.num (Txt.pad n.toNat k)=n:=by
 refine ⟨?_,Txt.pad_allD _ _,by rw [Txt.pad_num];omega⟩
 have:=padS_size n k hk h1
 rw [← len_atT,padS_list] at this
 exact this
theorem fcS_list (c:Int):(fcS c).data.toList=Txt.pad (c / 60).toNat 2++[58]++Txt.pad (c % 60).toNat 2:=by
 unfold fcS;rw [app_list,app_list,padS_list,padS_list]
theorem fcS_size (c:Int) (h:fcBK c=true):(fcS c).size=5:=by
 simp [fcBK] at h
 have p1:=(pad_facts (c / 60) 2 (by omega) (by omega) (by omega)).1
 have p2:=(pad_facts (c % 60) 2 (by omega) (by omega) (by omega)).1
 rw [← len_atT,fcS_list];simp [p1,p2]
theorem clock_back (c:Int) (h:fcBK c=true):Txt.fits (fcS c).data.toList pat5=true∧pcH (fcS c)=c / 60∧pcM (fcS c)=c % 60:=by
 have hz:=fcS_size c h
 simp [fcBK] at h
 obtain ⟨l1,e1,n1⟩:=pad_facts (c / 60) 2 (by omega) (by omega) (by omega)
 obtain ⟨l2,e2,n2⟩:=pad_facts (c % 60) 2 (by omega) (by omega) (by omega)
 obtain ⟨p,q,hp⟩:=list2T _ l1
 obtain ⟨t,u,ht⟩:=list2T _ l2
 have hl:(fcS c).data.toList=[p,q,58,t,u]:=by rw [fcS_list,hp,ht];rfl
 rw [hp] at e1 n1
 rw [ht] at e2 n2
 refine ⟨?_,?_,?_⟩
 · rw [fits5,hl];exact ⟨rfl,rfl,e1,e2⟩
 · unfold pcH numBT;rw [ext_list,hl];exact n1
 · unfold pcM numBT;rw [ext_list,hl,hz];exact n2
theorem clock_back_all (c:Int) (h:fcBK c=true):pcE (fcS c)=0∧pcV (fcS c)=c:=by
 obtain ⟨h1,h2,h3⟩:=clock_back c h
 have hB:pcB (fcS c)=true:=by simp [fcBK] at h;unfold pcB;rw [h2,h3];simp;omega
 unfold pcE pcV;rw [h1,hB,h2,h3];simp;omega
theorem dec_ne (n:Nat):1≤(Lib.decDigits n).length:=by
 rw [Lib.decDigits];split<;>simp
theorem dec_head (n:Nat) (h:1≤n):((Lib.decDigits n).getD 0 0).toNat≠48:=by
 induction n using Nat.strongRecOn with
 | ind n ih =>
   rw [Lib.decDigits]
   split
   · rename_i h10
     simp [Txt.toNat_digit n h10];omega
   · rename_i h10
     have:=ih (n / 10) (by omega) (by omega)
     have hl:=dec_ne (n / 10)
     rw [List.getD_eq_getElem?_getD,List.getElem?_append_left (by omega),← List.getD_eq_getElem?_getD]
     exact this
theorem dec_plain (n:Nat):Txt.plainL (Lib.decDigits n)=true:=by
 rw [Txt.plain_iff _ (dec_ne n)]
 rintro ⟨h1,h2⟩
 by_cases h:1≤n
 · exact dec_head n h h1
 · obtain rfl:n=0:=by omega
   rw [Lib.decDigits] at h2;simp at h2
theorem dur_aux (sg:Bool) (H M:Nat) (hH:H < 100000000000) (hM:M < 60) (hz:sg=true→1≤60 * H+M) (hx:60 * H+M≤1099511627776) (l:List UInt8)
 (hl:l=(if sg=true then [45] else [])++(Lib.decDigits H++([58]++Txt.pad M 2))):Txt.duE l=0∧Txt.duV l=(if sg=true then - ((60 * H+M:Nat):Int) else ((60 * H+M:Nat):Int)):=by
 have d1:=dec_ne H
 have d2:=Txt.dec_len_le H 11 (by omega) (by omega)
 have p1:(Txt.pad M 2).length=2:=Txt.pad_len _ _ (Txt.dec_len_le M 2 (by omega) (by omega))
 have hneg:Txt.duNeg l=sg:=by
  cases sg
  · rw [Bool.eq_false_iff];intro q
    obtain ⟨t,ht⟩:=(Txt.dash_iff l).1 q
    rw [hl] at ht
    have h0:(Lib.decDigits H++([58]++Txt.pad M 2)).getD 0 0=45:=by
     have:(if (false:Bool)=true then [(45:UInt8)] else [])=[]:=rfl
     rw [this,List.nil_append] at ht
     rw [ht];rfl
    rw [List.getD_eq_getElem?_getD,List.getElem?_append_left (by omega)] at h0
    have hd:=Txt.dec_allD H
    rw [List.getElem?_eq_getElem (by omega)] at h0
    simp only [Option.getD_some] at h0
    have:=List.all_eq_true.1 hd _ (List.getElem_mem (show 0 < _ by omega))
    rw [h0] at this
    revert this;decide
  · rw [hl];exact (Txt.dash_iff _).2 ⟨_,rfl⟩
 have hR:Txt.duR l=Lib.decDigits H++([58]++Txt.pad M 2):=by
  cases sg
  · rw [Txt.duR_pos l hneg,hl];rfl
  · rw [hl];exact Txt.duR_neg _
 have hlen:(Txt.duR l).length=(Lib.decDigits H).length+3:=by rw [hR];simp [p1]
 have hK:Txt.duK l=(Lib.decDigits H).length:=by unfold Txt.duK;omega
 have hHH:Txt.duH l=Lib.decDigits H:=by unfold Txt.duH;rw [hK,hR,List.take_left]
 have hMM:Txt.duM l=Txt.pad M 2:=by
  unfold Txt.duM;rw [hK,hR,← List.append_assoc]
  have:(Lib.decDigits H).length+1=(Lib.decDigits H++[58]).length:=by simp
  rw [this,List.drop_left]
 have hc:(Txt.duR l).getD (Txt.duK l) 0=58:=by
  rw [hK,hR,List.getD_eq_getElem?_getD,List.getElem?_append_right (by omega)];simp
 have hB:Txt.duB l=true:=by
  unfold Txt.duB
  rw [decide_eq_true_eq,hHH,hMM,hneg,Txt.dec_num,Txt.pad_num]
  refine ⟨by omega,by omega,hc,Txt.dec_allD H,Txt.pad_allD M 2,dec_plain H,?_⟩
  rintro ⟨q1,q2,q3⟩
  have:=hz q1
  omega
 have hN:Txt.duN l=((60 * H+M:Nat):Int):=by unfold Txt.duN;rw [hHH,hMM,Txt.dec_num,Txt.pad_num];omega
 have hE:Txt.duE l=0:=by
  unfold Txt.duE;rw [if_pos hB,hMM,Txt.pad_num,hN,if_pos ⟨by omega,by omega⟩]
 exact ⟨hE,by unfold Txt.duV;rw [if_pos hE,hneg,hN]⟩
theorem fuS_list (n:Int):(fuS n).data.toList=(if decide (n < 0)=true then [45] else [])++(Lib.decDigits (absI n / 60).toNat++([58]++Txt.pad (absI n % 60).toNat 2)):=by
 unfold fuS
 rw [app_list,app_list,app_list]
 have e1:(sgS n).data.toList=if decide (n < 0)=true then [45] else []:=by
  unfold sgS;by_cases h:n < 0<;>simp [h]
 rw [e1]
 show _++Lib.decDigits _++[58]++Txt.pad _ 2=_
 simp only [List.append_assoc]
theorem dur_back (n:Int) (h:fuB n=true):Txt.duE (fuS n).data.toList=0∧Txt.duV (fuS n).data.toList=n:=by
 simp only [fuB,decide_eq_true_eq] at h
 have a1:0≤absI n:=by unfold absI;split<;>omega
 have a2:absI n≤1099511627776:=by unfold absI;split<;>omega
 have a3:absI n=if decide (n < 0)=true then - n else n:=by unfold absI;simp
 obtain ⟨h1,h2⟩:=dur_aux (decide (n < 0)) (absI n / 60).toNat (absI n % 60).toNat (by omega) (by omega)
  (by intro q;simp at q;have:absI n = - n:=by unfold absI;rw [if_pos q]
      omega) (by omega) _ (fuS_list n)
 refine ⟨h1,?_⟩
 rw [h2]
 have e:((60 * (absI n / 60).toNat+(absI n % 60).toNat:Nat):Int)=absI n:=by omega
 rw [e]
 unfold absI
 by_cases q:n < 0
 · simp [q]
 · simp [q]
end Go.Proofs.YtcejjdmnlejbaaaGreatDoor
namespace Go.Proofs.YtcejjdmnlejbaaaGreatDoor
set_option linter.unusedVariables false
set_option linter.unusedSimpArgs false
open Go.ChangeShapes Go.WideShapes Go.ChangeAt Go.RowKit
theorem inW_ne {b:UInt8} (h:Tk.inW b=true):b.toNat≠32∧b.toNat≠35:=by
 unfold Tk.inW at h;rw [decide_eq_true_eq] at h;omega
theorem inS_ne {b:UInt8} (h:Tk.inS b=true):b.toNat≠32∧b.toNat≠35∧Tk.inW b=false:=by
 unfold Tk.inS at h;rw [decide_eq_true_eq] at h
 refine ⟨by omega,by omega,?_⟩
 unfold Tk.inW;rw [decide_eq_false_iff_not];omega
theorem wl_all (l:List UInt8) (h:∀ b ∈ l,Tk.inW b=true):Tk.wl l=l.length:=by
 induction l with
 | nil=>rfl
 | cons c l ih =>
   rw [Tk.wl_cons,if_pos (h c (List.mem_cons_self ..)),ih (fun b hb=>h b (List.mem_cons_of_mem _ hb))]
   rfl
theorem ext_all (s:ByteArray):s.extract 0 s.size=s:=by
 apply ByteArray.ext
 simp
theorem getD_mem {l:List UInt8} {i:Nat} (h:i < l.length):l.getD i 0 ∈ l:=by
 rw [List.getD_eq_getElem?_getD,List.getElem?_eq_getElem h];exact List.getElem_mem _
theorem has_no {l:List UInt8} (h:∀ b ∈ l,b.toNat≠35):Tk.has l 35=false:=by
 unfold Tk.has
 rw [List.any_eq_false]
 intro b hb
 simpa using h b hb
theorem scan_one {s:ByteArray} {t:Tk.T3} (hs:0 < s.size) (h1:(s.data.toList.getD 0 0).toNat≠32) (h2:(s.data.toList.getD 0 0).toNat≠35) (h:Tk.tokAt s 0=(some t,s.size)):Tk.scanT s=([⟨t,0⟩],0,0):=by
 have q:=Tk.scan_step s 0 [] hs
 rw [Nat.sub_zero,if_neg h2,if_neg h1,h] at q
 dsimp only at q
 rw [if_neg (by decide),Nat.zero_add,Tk.scan_end s s.size _ (Nat.le_refl _)] at q
 exact q
theorem okT_word {s:ByteArray} {k:Int} {x:ByteArray} {n:Int} (hs:0 < s.size) (hw:∀ b ∈ s.data.toList,Tk.inW b=true) (h:Tk.word s=some ⟨k,x,n⟩):OkT s k x n:=by
 have g:∀ i,i < s.size→Tk.inW (s.data.toList.getD i 0)=true:=fun i hi=>hw _ (getD_mem (by rw [len_atT];exact hi))
 have ht:Tk.tokAt s 0=(some ⟨k,x,n⟩,s.size):=by
  unfold Tk.tokAt
  rw [if_pos (g 0 hs),List.drop_zero,wl_all _ hw,len_atT,Nat.zero_add,ext_all,h]
 have hq:=scan_one hs (inW_ne (g 0 hs)).1 (inW_ne (g 0 hs)).2 ht
 exact ⟨hs,(inW_ne (g 0 hs)).1,(inW_ne (g 0 hs)).2,by rw [hq],⟨0,by rw [hq]⟩,(inW_ne (g (s.size - 1) (by omega))).1,has_no fun b hb=>(inW_ne (hw b hb)).2⟩
theorem sgn_bytes {l:List UInt8} (h:Tk.sgn l=l.length) (hp:0 < l.length):(∀ b ∈ l,Tk.inS b=true):=by
 unfold Tk.sgn at h
 by_cases h2:(l.getD 0 0).toNat=60∧(l.getD 1 0).toNat=61
 · rw [if_pos h2] at h
   match l,h,h2 with
   | [a,b],_,h2 =>
     intro c hc
     have ha:a.toNat=60:=by simpa using h2.1
     have hb:b.toNat=61:=by simpa using h2.2
     simp only [List.mem_cons,List.not_mem_nil,or_false] at hc
     unfold Tk.inS
     rw [decide_eq_true_eq]
     rcases hc with rfl|rfl<;>omega
 · rw [if_neg h2] at h
   by_cases h1:1≤l.length∧Tk.inS (l.getD 0 0)=true
   · rw [if_pos h1] at h
     match l,h,h1 with
     | [a],_,h1 =>
       intro c hc
       rw [List.mem_singleton.1 hc]
       simpa using h1.2
   · rw [if_neg h1] at h;omega
theorem okT_sign {s:ByteArray} (hs:0 < s.size) (h:Tk.sgn s.data.toList=s.size):OkT s 5 s 0:=by
 have hb:=sgn_bytes (by rw [h,len_atT]) (by rw [len_atT];exact hs)
 have g:∀ i,i < s.size→Tk.inS (s.data.toList.getD i 0)=true:=fun i hi=>hb _ (getD_mem (by rw [len_atT];exact hi))
 have ht:Tk.tokAt s 0=(some ⟨5,s,0⟩,s.size):=by
  unfold Tk.tokAt
  rw [if_neg (by rw [(inS_ne (g 0 hs)).2.2];simp),List.drop_zero,h,if_neg (by omega),Nat.zero_add,ext_all]
 have hq:=scan_one hs (inS_ne (g 0 hs)).1 (inS_ne (g 0 hs)).2.1 ht
 exact ⟨hs,(inS_ne (g 0 hs)).1,(inS_ne (g 0 hs)).2.1,by rw [hq],⟨0,by rw [hq]⟩,(inS_ne (g (s.size - 1) (by omega))).1,has_no fun b hb'=>(inS_ne (hb b hb')).2.1⟩
theorem allD_inW {l:List UInt8} (h:Txt.allD l=true):∀ b ∈ l,Tk.inW b=true∧b.toNat≠58∧b.toNat < 97∧b.toNat≠64:=by
 intro b hb
 have:=(Txt.isD_iff b).1 (List.all_eq_true.1 h b hb)
 refine ⟨?_,by omega,by omega,by omega⟩
 unfold Tk.inW;rw [decide_eq_true_eq];omega
theorem okT_num (n:Int) (h0:0≤n) (h1:n≤1099511627776):OkT (itoaB n) 2 ⟨#[]⟩ n:=by
 have e:(itoaB n).data.toList=Lib.decDigits n.toNat:=by unfold itoaB Lib.itoa;rw [if_neg (by omega)]
 have hd:=Txt.dec_allD n.toNat
 have hp:=dec_ne n.toNat
 have hz:(itoaB n).size=(Lib.decDigits n.toNat).length:=by rw [← len_atT,e]
 have hw:∀ b ∈ (itoaB n).data.toList,Tk.inW b=true:=by rw [e];exact fun b hb=>(allD_inW hd b hb).1
 refine okT_word (by omega) hw ?_
 have hlt:0 < (itoaB n).size:=by omega
 have g0:(itoaB n)[0] ∈ Lib.decDigits n.toNat:=by rw [← e,← getD_atT _ 0 hlt];exact getD_mem (by rw [len_atT];exact hlt)
 have f0:=allD_inW hd _ g0
 have hh:Tk.has (itoaB n).data.toList 58=false:=by
  rw [e];unfold Tk.has;rw [List.any_eq_false];intro b hb;simpa using (allD_inW hd b hb).2.1
 rw [word_num hlt (by omega) f0.2.2.2 hh,e]
 have hl:=Txt.dec_len_le n.toNat 13 (by omega) (by omega)
 have hv:Txt.num (Lib.decDigits n.toNat)=n:=by rw [Txt.dec_num];omega
 rw [numO_yes ⟨hp,hl,hd,?_,by rw [hv];exact h1⟩,hv]
 rintro ⟨q1,q2⟩
 by_cases hn:n.toNat=0
 · rw [hn] at q2
   have:=Txt.dec_len_le 0 1 (by omega) (by omega)
   omega
 · exact dec_head n.toNat (by omega) q1
theorem okT_time (n:Int) (h0:0≤n) (h1:n≤1099511627776):OkT (fuV n) 3 ⟨#[]⟩ n:=by
 have hb:fuB n=true:=by unfold fuB;rw [decide_eq_true_eq];omega
 have ev:fuV n=fuS n:=by unfold fuV;rw [if_pos hb]
 rw [ev]
 obtain ⟨d1,d2⟩:=dur_back n hb
 have e:=fuS_list n
 rw [if_neg (by simp;omega),List.nil_append] at e
 have hA:absI n=n:=by unfold absI;rw [if_neg (by omega)]
 rw [hA] at e
 have hd:=Txt.dec_allD (n / 60).toNat
 have hpd:=Txt.pad_allD (n % 60).toNat 2
 have hp:=dec_ne (n / 60).toNat
 have i58:Tk.inW 58=true:=by decide
 have hw:∀ b ∈ (fuS n).data.toList,Tk.inW b=true:=by
  rw [e]
  intro b hb'
  rcases List.mem_append.1 hb' with q|q
  · exact (allD_inW hd b q).1
  · rcases List.mem_append.1 q with q|q
    · rw [List.mem_singleton.1 q];exact i58
    · exact (allD_inW hpd b q).1
 have hz:0 < (fuS n).size:=by rw [← len_atT,e,List.length_append];omega
 refine okT_word hz hw ?_
 have g0:(fuS n)[0] ∈ Lib.decDigits (n / 60).toNat:=by
  rw [← getD_atT _ 0 hz,e,List.getD_eq_getElem?_getD,List.getElem?_append_left (by omega),← List.getD_eq_getElem?_getD]
  exact getD_mem (by omega)
 have f0:=allD_inW hd _ g0
 have hh:Tk.has (fuS n).data.toList 58=true:=by
  rw [e];unfold Tk.has;rw [List.any_eq_true]
  exact ⟨58,List.mem_append.2 (.inr (List.mem_append.2 (.inl (List.mem_singleton.2 rfl)))),by decide⟩
 rw [word_time hz (by omega) f0.2.2.2 hh,if_pos d1,d2]
theorem okT_clock (n:Int) (h0:0≤n) (h1:n≤1439):OkT (⟨#[64]⟩++fcV n) 4 ⟨#[]⟩ n:=by
 have hb:fcBK n=true:=by unfold fcBK;rw [decide_eq_true_eq];omega
 have ev:fcV n=fcS n:=by unfold fcV;rw [if_pos hb]
 rw [ev]
 obtain ⟨d1,d2⟩:=clock_back_all n hb
 have e:(⟨#[64]⟩++fcS n:ByteArray).data.toList=64 :: (fcS n).data.toList:=by rw [app_list];rfl
 have e2:=fcS_list n
 have i58:Tk.inW 58=true:=by decide
 have i64:Tk.inW 64=true:=by decide
 have hw:∀ b ∈ (⟨#[64]⟩++fcS n:ByteArray).data.toList,Tk.inW b=true:=by
  rw [e,e2]
  intro b hb'
  rcases List.mem_cons.1 hb' with rfl|q
  · exact i64
  · rcases List.mem_append.1 q with q|q
    · rcases List.mem_append.1 q with q|q
      · exact (allD_inW (Txt.pad_allD _ 2) b q).1
      · rw [List.mem_singleton.1 q];exact i58
    · exact (allD_inW (Txt.pad_allD _ 2) b q).1
 have hz:0 < (⟨#[64]⟩++fcS n:ByteArray).size:=by rw [← len_atT,e];simp
 refine okT_word hz hw ?_
 have g0:(⟨#[64]⟩++fcS n:ByteArray)[0].toNat=64:=by
  rw [← getD_atT _ 0 hz,e];rfl
 have ex:(⟨#[64]⟩++fcS n:ByteArray).extract 1 (⟨#[64]⟩++fcS n:ByteArray).size=fcS n:=by
  apply ByteArray.ext
  apply Array.toList_inj.1
  show ((⟨#[64]⟩++fcS n:ByteArray).extract 1 (⟨#[64]⟩++fcS n:ByteArray).size).data.toList=(fcS n).data.toList
  rw [ext_list,List.take_of_length_le (by rw [len_atT];exact Nat.le_refl _),e];rfl
 rw [word_clock hz g0,ex,if_pos d1,d2]
theorem valid_ok (k:Int) (x:ByteArray) (n:Int):OkT (txtR k x n) k x n↔VT ⟨k,x,n⟩:=by
 constructor
 · intro h
   obtain ⟨p,hp⟩:=h.one
   have:=scanT_valid (txtR k x n) ⟨⟨k,x,n⟩,p⟩ (by rw [hp];exact List.mem_singleton.2 rfl)
   exact this
 · rintro (⟨h1,h2,h3,h4⟩|⟨h1,h2,h3,h4⟩|⟨h1,h2,h3,h4⟩|⟨h1,h2,h3,h4⟩)
   · dsimp only at h1 h2 h3 h4
     subst h1 h4
     have e:txtR 1 x 0=x:=by unfold txtR;rw [if_pos (.inl rfl)]
     rw [e]
     refine okT_word ?_ h2 h3
     by_cases hz:x.size=0
     · rw [word_nil hz] at h3;cases h3
     · omega
   · dsimp only at h1 h2 h3 h4
     subst h2
     rcases h1 with rfl|rfl
     · have e:txtR 2 ⟨#[]⟩ n=itoaB n:=by unfold txtR;rw [if_neg (by omega),if_pos rfl]
       rw [e];exact okT_num n h3 h4
     · have e:txtR 3 ⟨#[]⟩ n=fuV n:=by unfold txtR;rw [if_neg (by omega),if_neg (by omega),if_pos rfl]
       rw [e];exact okT_time n h3 h4
   · dsimp only at h1 h2 h3 h4
     subst h1 h2
     have e:txtR 4 ⟨#[]⟩ n=⟨#[64]⟩++fcV n:=by unfold txtR;rw [if_neg (by omega),if_neg (by omega),if_neg (by omega),if_pos rfl]
     rw [e];exact okT_clock n h3 h4
   · dsimp only at h1 h2 h3 h4
     subst h1 h4
     have e:txtR 5 x 0=x:=by unfold txtR;rw [if_pos (.inr rfl)]
     rw [e];exact okT_sign h2 h3
end Go.Proofs.YtcejjdmnlejbaaaGreatDoor
