import Derived.Test.YtcejjdmnlejbaaaGreatDoorVKta
namespace Go.Proofs.YtcejjdmnlejbaaaGreatDoor
open Lib(hid)
set_option linter.unusedVariables false
set_option linter.unusedSimpArgs false
open Go.ChangeShapes Go.WideShapes Go.ChangeAt Go.RowKit
set_option maxHeartbeats 2000000
theorem zo(s:ByteArray)(k:Nat)(h:k < s.size):s.data.toList.take (k+1)=s.data.toList.take k++[s[k]]:=by
 rw[List.take_succ_eq_append_getElem (by simpa using h)];rfl
theorem yo(s:ByteArray)(k:Nat)(h:k < s.size):s.data.toList.getD k 0=s[k]:=by
 rw[List.getD_eq_getElem?_getD,List.getElem?_eq_getElem (by simpa using h)];rfl
theorem qG(s:ByteArray):s.data.toList.length=s.size:=Array.length_toList
theorem vm(a b:UInt8):(a==b)=decide (a.toNat=b.toNat):=by
 by_cases h:a=b
 ·subst h;simp
 ·have:a.toNat≠b.toNat:=fun e=>h (UInt8.toNat_inj.1 e);simp[h,this]
theorem uF(c p:UInt8)(hp:p.toNat=48):Txt.fitB c p=Txt.isD c:=by
 have:p=48:=UInt8.toNat_inj.1 hp;simp[Txt.fitB,this]
theorem u6(c p:UInt8)(hp:p.toNat≠48):Txt.fitB c p=decide (c.toNat=p.toNat):=by
 have:¬p=48:=fun e=>hp (by rw[e];rfl);simp only[Txt.fitB,this,if_false];exact vm c p
theorem vX(s p:ByteArray)(w:World)(hs:s.size≤9223372036854775807)(hp:p.size≤9223372036854775807) :
 Calls Tryz.prog 144 #[.string s,.string p] w fun e w'=>e=.returned (.bool (Txt.fits s.data.toList p.data.toList))∧∃n,w'=w.drewN n:=by
 by_cases hl:s.size=p.size
 ·have HL := hid hl;have hne:((s.size:Int) != (p.size:Int))=false:=(by rw[hl];simp);have hle:s.size≤p.size:=(by omega);clear hl;go_enter Tryz.func144,Tryz.ntmps144;go_wp2_with fail
  go_loopw [5,13] (fun _ i wr=>∃k:Nat,k≤s.size∧i=.int .i64 k∧Hid (Txt.fits (s.data.toList.take k) (p.data.toList.take k)=true∧∃n,wr=w.drewN n)) (fun _ i _=>s.size - (intOf i).toNat)
  case atStart=>exact⟨0,by omega,rfl,by simp[Txt.fits],0,rfl⟩
  case round =>
   obtain⟨k,hk,rfl,HR⟩:=hrel
   by_cases qN:k < s.size
   ·have hlp:k < p.size:=by omega
    have hft:=Txt.fits_take s.data.toList p.data.toList (by rw[qG,qG,HL.out]) k (by rw[qG];exact qN);rw[yo s k qN,yo p k hlp] at hft;rw[HR.out.1,Bool.true_and] at hft;have HF:=hid hft;clear hft
    have hno:Hid (Txt.fitB s[k] p[k]=false→Txt.fits s.data.toList p.data.toList=false):=by
     intro hf;cases hb:Txt.fits s.data.toList p.data.toList
     ·rfl
     ·have:=(Txt.fits_all s.data.toList p.data.toList (by rw[qG,qG,HL.out])).1 hb k (by rw[qG];exact qN);rw[yo s k qN,yo p k hlp,hf] at this;cases this
    obtain⟨n,rfl⟩:=HR.out.2;have hi0:(0:Int)≤(k:Int):=(by omega);have hi1:(k:Int) < (s.size:Int):=(by omega);have hi2:(k:Int) < (p.size:Int):=by omega
    by_cases hp:p[k].toNat=48
    ·have hpB:((p[k].toNat:Int)==48)=true:=by simp;omega
     have HP:=hid hp;clear hp
     by_cases hd:48≤s[k].toNat∧s[k].toNat≤57
     ·obtain ⟨hd1,hd2⟩:=hd;have h1:¬(s[k].toNat:Int) < 48:=(by omega);have h2:¬ 57 < (s[k].toNat:Int):=(by omega);go_wp2
      go_roundw
      case rel=>exact⟨k+1,by omega,by go_num,by rw[HF.out,uF _ _ HP.out,Txt.isD_iff];omega,n,rfl⟩
      case measure=>simp[intOf];omega
     ·have hr:Hid (Txt.fits s.data.toList p.data.toList=false):=hno.out (by rw[uF _ _ HP.out,Txt.isD_no];exact hd)
      by_cases h1:(s[k].toNat:Int) < 48
      ·go_wp2;go_ret;exact⟨qV hr.out.symm,n,rfl⟩
      ·have h2:57 < (s[k].toNat:Int):=by omega
       clear hd;go_wp2;go_ret;exact⟨qV hr.out.symm,n,rfl⟩
    ·have hpB:((p[k].toNat:Int)==48)=false:=by simp;omega
     have HP:=hid hp;clear hp
     by_cases hd:s[k].toNat=p[k].toNat
     ·have hB:((s[k].toNat:Int) != (p[k].toNat:Int))=false:=by simp[hd]
      have HD:=hid hd;clear hd;go_wp2_with fail
      go_quiet (fail)
      go_wp2
      go_roundw
      case rel=>exact⟨k+1,by omega,by go_num,by rw[HF.out,u6 _ _ HP.out];simp[HD.out],n+nq,by first|rfl|rw[World.drewN_drewN]⟩
      case measure=>simp[intOf];omega
     ·have hB:((s[k].toNat:Int) != (p[k].toNat:Int))=true:=by simp;omega
      have hr:Hid (Txt.fits s.data.toList p.data.toList=false):=hno.out (by rw[u6 _ _ HP.out];simp[hd]);clear hd;go_wp2_with fail
      go_quiet (fail)
      go_wp2;go_ret;exact⟨qV hr.out.symm,n+nq,by first|rfl|rw[World.drewN_drewN]⟩
   ·have hr:Hid (Txt.fits s.data.toList p.data.toList=true):=by
     have:=HR.out.1;rw[List.take_of_length_le (by rw[qG];omega),List.take_of_length_le (by rw[qG,← HL.out];omega)] at this;exact this
    obtain⟨n,rfl⟩:=HR.out.2;go_wp2;go_ret;exact⟨qV hr.out.symm,n,rfl⟩
 ·have hne:((s.size:Int) != (p.size:Int))=true:=by simp;omega
  have hr:Hid (Txt.fits s.data.toList p.data.toList=false):=by
   cases hb:Txt.fits s.data.toList p.data.toList
   ·rfl
   ·have:=Txt.fits_len _ _ hb;rw[qG,qG] at this;exact absurd this hl
  clear hl;go_enter Tryz.func144,Tryz.ntmps144;go_wp2;go_ret;exact⟨qV hr.out.symm,0,rfl⟩
theorem QA(s:ByteArray)(w:World)(hs:s.size≤11)(hd:Txt.allD s.data.toList=true) :
 Calls Tryz.prog 145 #[.string s] w fun e w'=>e=.returned (.int .i64 (Txt.num s.data.toList))∧w=w':=by
 have HD:=hid hd;clear hd;go_enter Tryz.func145,Tryz.ntmps145;go_wp2_with fail
 go_loop [3,4,7] (fun n _ i=>∃k:Nat,k≤s.size∧i=.int .i64 k∧n=.int .i64 (Txt.num (s.data.toList.take k))) (fun _ _ i=>s.size - (intOf i).toNat)
 case atStart=>exact⟨0,by omega,rfl,rfl⟩
 case round =>
  obtain⟨k,hk,rfl,rfl⟩:=hrel
  by_cases qN:k < s.size
  ·have hda:Txt.allD (s.data.toList.take k)=true:=by
    rw[Txt.allD,List.all_eq_true];intro x hx;exact List.all_eq_true.1 HD.out x (List.mem_of_mem_take hx)
   have hb:=Txt.num_bd _ hda;have hpw:(10 ^ (s.data.toList.take k).length:Nat)≤10 ^ 11:=Nat.pow_le_pow_right (by omega) (by simp;omega);have hc:Txt.isD s[k]=true:=List.all_eq_true.1 HD.out s[k] (by rw[show s[k]=s.data.toList[k]'(by rw[qG];exact qN) from rfl];exact List.getElem_mem _);rw[Txt.isD_iff] at hc;have HN:Hid (Txt.num (s.data.toList.take (k+1))=10 * Txt.num (s.data.toList.take k)+((s[k].toNat:Int) - 48)):=(by unfold Hid;rw[zo s k qN,Txt.num_snoc];rfl);obtain⟨hc1,hc2⟩:=hc;have hn1:0≤Txt.num (s.data.toList.take k):=hb.1;have hn2:Txt.num (s.data.toList.take k)≤100000000000:=(by have:=hb.2;omega);clear hb hpw hda;generalize Txt.num (s.data.toList.take k)=m at *;go_wp2
   go_round
   case rel=>exact⟨k+1,by omega,by go_num,by rw[HN.out]⟩
   case measure=>simp[intOf];omega
  ·go_wp2;go_ret;exact⟨xL (by rw[List.take_of_length_le (by rw[qG];omega)]),rfl⟩
def jY(l:List UInt8)(a b:Int):Int:=if a≤l.length∧l.length≤b∧Txt.allD l=true then Txt.num l else 0
def digB(l:List UInt8)(a b:Int):Bool:=decide (a≤l.length∧l.length≤b∧Txt.allD l=true)
theorem xh(c:Int)(w:World) :
 Calls Tryz.prog 142 #[.int .u8 c] w fun e w'=>e=.returned (.bool (decide (48≤c∧c≤57)))∧w=w':=by
 by_cases h1:48≤c
 ·by_cases h2:c≤57
  ·go_enter Tryz.func142,Tryz.ntmps142;go_wp2;go_ret;exact⟨qV (by simp[h1,h2]),rfl⟩
  ·go_enter Tryz.func142,Tryz.ntmps142;go_wp2;go_ret;exact⟨qV (by simp;omega),rfl⟩
 ·go_enter Tryz.func142,Tryz.ntmps142;go_wp2;go_ret;exact⟨qV (by simp;omega),rfl⟩
theorem kh(s:ByteArray)(a b:Int)(w:World)(hs:s.size≤9223372036854775807)(hb:b≤13) :
 Calls Tryz.prog 123 #[.string s,.int .i64 a,.int .i64 b] w fun e w'=>e=.returned (.tuple #[.int .i64 (jY s.data.toList a b),.bool (digB s.data.toList a b)])∧w=w':=by
 by_cases hab:a≤(s.size:Int)∧(s.size:Int)≤b
 ·obtain ⟨h1, h2⟩:=hab;have hs11:s.size≤13:=(by omega);go_enter Tryz.func123,Tryz.ntmps123;go_wp2_with fail
  go_loop [8,9] (fun n i=>∃k:Nat,∃m:Int,k≤s.size∧i=.int .i64 k∧n=.int .i64 m∧0≤m∧m≤10000000000000∧Hid (m=Txt.num (s.data.toList.take k)∧Txt.allD (s.data.toList.take k)=true)) (fun _ i=>s.size - (intOf i).toNat)
  case atStart=>exact⟨0,0,by omega,rfl,rfl,by omega,by omega,rfl,rfl⟩
  case round =>
   obtain⟨k,m,hk,rfl,rfl,hm0,hm1,HM⟩:=hrel
   by_cases qN:k < s.size
   ·have HN:Hid (Txt.num (s.data.toList.take (k+1))=10 * Txt.num (s.data.toList.take k)+((s[k].toNat:Int) - 48)):=by unfold Hid;rw[zo s k qN,Txt.num_snoc];rfl
    have HA:Hid (Txt.allD (s.data.toList.take (k+1))=Txt.isD s[k]):=(by unfold Hid;rw[zo s k qN,Txt.allD_snoc,HM.out.2,Bool.true_and]);have hi1:(k:Int) < (s.size:Int):=by omega
    by_cases hd:48≤s[k].toNat∧s[k].toNat≤57
    ·have hdB:decide (48≤(s[k].toNat:Int)∧(s[k].toNat:Int)≤57)=true:=by simp;omega
     have HD:=hid hd;obtain⟨hd1,hd2⟩:=hd;go_wp2_with (go_at_call 142;refine(xh _ _).mono ?_;rw[hdB];rintro e w' ⟨rfl,rfl⟩)
     go_round
     case rel =>
      have hA:Txt.allD (s.data.toList.take (k+1))=true:=(by rw[HA.out,Txt.isD_iff];exact HD.out);have hbd:=Txt.num_bd _ hA;have hpw:(10 ^ (s.data.toList.take (k+1)).length:Nat)≤10 ^ 13:=Nat.pow_le_pow_right (by omega) (by simp;omega);have e:10 * m+((s[k].toNat:Int) - 48)=Txt.num (s.data.toList.take (k+1)):=(by rw[HN.out,HM.out.1]);exact⟨k+1,10 * m+((s[k].toNat:Int) - 48),by omega,by go_num,rfl,by omega,by rw[e];omega,e,hA⟩
     case measure=>simp[intOf];omega
    ·have hdB:decide (48≤(s[k].toNat:Int)∧(s[k].toNat:Int)≤57)=false:=by simp;omega
     have hF:Hid (Txt.allD s.data.toList=false):=by
      cases hq:Txt.allD s.data.toList
      ·rfl
      ·have hc:Txt.isD s[k]=true:=List.all_eq_true.1 hq s[k] (by rw[show s[k]=s.data.toList[k]'(by rw[qG];exact qN) from rfl];exact List.getElem_mem _);rw[Txt.isD_iff] at hc;exact absurd hc hd
     clear hd;go_wp2_with (go_at_call 142;refine(xh _ _).mono ?_;rw[hdB];rintro e w' ⟨rfl,rfl⟩)
     go_ret2
     refine⟨?_,rfl⟩;have e1:jY s.data.toList a b=0:=(by unfold jY;rw[if_neg (by rw[hF.out];simp)]);have e2:digB s.data.toList a b=false:=(by unfold digB;rw[hF.out];simp);rw[e1,e2];rfl
   ·go_wp2
    go_ret2
    refine⟨?_,rfl⟩;obtain⟨rfl,hA⟩:=HM.out;rw[List.take_of_length_le (by rw[qG];omega)] at hA ⊢;have hl:(s.data.toList.length:Int)=s.size:=(by rw[qG]);have e1:jY s.data.toList a b=Txt.num s.data.toList:=(by unfold jY;rw[if_pos ⟨by omega,by omega,hA⟩]);have e2:digB s.data.toList a b=true:=(by unfold digB;rw[hA];simp;omega);rw[e1,e2];rfl
 ·have e1:Hid (jY s.data.toList a b=0):=by unfold Hid jY;rw[qG];exact if_neg (fun h=>hab ⟨h.1,h.2.1⟩)
  have e2:Hid (digB s.data.toList a b=false):=by unfold Hid digB;rw[qG];exact decide_eq_false (fun h=>hab ⟨h.1,h.2.1⟩)
  by_cases h1:a≤(s.size:Int)
  ·have h2:¬(s.size:Int)≤b:=fun h=>hab ⟨h1,h⟩;clear hab;go_enter Tryz.func123,Tryz.ntmps123;go_wp2
   go_ret2
   exact⟨by rw[e1.out,e2.out];rfl,rfl⟩
  ·clear hab;go_enter Tryz.func123,Tryz.ntmps123;go_wp2
   go_ret2
   exact⟨by rw[e1.out,e2.out];rfl,rfl⟩
theorem KL(l:List UInt8)(h:l.length=5):∃a b c d e,l=[a,b,c,d,e]:=by
 match l,h with
 | [a,b,c,d,e],_=>exact⟨a,b,c,d,e,rfl⟩
theorem ext_list(s:ByteArray)(a b:Nat):(s.extract a b).data.toList=(s.data.toList.take b).drop a:=by
 rw[ByteArray.data_extract];simp[List.extract_eq_take_drop,List.take_drop]
 by_cases h:a≤b
 ·rw[show a+(b - a)=b from by omega]
 ·rw[List.drop_eq_nil_of_le (by simp;omega),List.drop_eq_nil_of_le (by simp;omega)]
theorem vW(s p:ByteArray)(q:List UInt8)(b:Bool)(w:World)(hq:p.data.toList=q)(hs:s.size≤9223372036854775807)(hp:p.size≤100)(h:Txt.fits s.data.toList q=b) :
 Calls Tryz.prog 144 #[.string s,.string p] w fun e w'=>e=.returned (.bool b)∧∃n,w'=w.drewN n:=by
 rw[← h,← hq];exact vX s p w hs (by omega)
def zW(s:ByteArray):Int:=Txt.num s.data.toList
def ud(s:ByteArray):Bool:=Txt.allD s.data.toList
theorem jk(s:ByteArray)(w:World)(hs:s.size≤11)(hd:ud s=true) :
 Calls Tryz.prog 145 #[.string s] w fun e w'=>e=.returned (.int .i64 (zW s))∧w'=w :=
 (QA s w hs hd).mono fun _ _ ⟨he,hw⟩=>⟨he,hw.symm⟩
theorem jl(s:ByteArray)(k:Nat)(hs:s.size≤k)(hd:ud s=true):0≤zW s∧zW s < (10 ^ k:Nat):=by
 have h:=Txt.num_bd _ hd;rw[qG] at h;have:10 ^ s.size≤10 ^ k:=Nat.pow_le_pow_right (by omega) hs;exact⟨h.1,by unfold zW;omega⟩
def Qi(s:ByteArray)(a b:Int):Int:=jY s.data.toList a b
def J1(s:ByteArray)(a b:Int):Bool:=digB s.data.toList a b
theorem zP(s:ByteArray)(a b:Int)(w:World)(hs:s.size≤9223372036854775807)(hb:b≤13) :
 Calls Tryz.prog 123 #[.string s,.int .i64 a,.int .i64 b] w fun e w'=>e=.returned (.tuple #[.int .i64 (Qi s a b),.bool (J1 s a b)])∧w=w':=kh s a b w hs hb
theorem kK(s:ByteArray)(k:Nat)(h:s.size=k):J1 s k k=ud s∧(ud s=true→Qi s k k=zW s):=by
 unfold J1 Qi digB jY ud zW;rw[qG,h];cases Txt.allD s.data.toList<;>simp
def xP:List UInt8:=[48,48,58,48,48]
theorem Yh(l:List UInt8):Txt.fits l xP=true↔(l.length=5∧l.getD 2 0=58∧Txt.allD ((l.take 2).drop 0)=true∧Txt.allD ((l.take l.length).drop 3)=true):=by
 constructor
 ·intro h;have hl:=Txt.fits_len _ _ h;obtain⟨a,b,c,d,e,rfl⟩:=KL l hl;simp[xP,Txt.fits,Txt.fitB,Txt.allD] at h ⊢;exact⟨h.2.2.1,⟨h.1,h.2.1⟩,h.2.2.2⟩
 ·rintro⟨hl,h⟩;obtain⟨a,b,c,d,e,rfl⟩:=KL l hl;simp[xP,Txt.fits,Txt.fitB,Txt.allD] at h ⊢;obtain⟨h1,⟨h2,h3⟩,h4,h5⟩:=h;exact⟨h2,h3,h1,h4,h5⟩
theorem Ye(s:ByteArray)(k:Nat)(h:k < s.size):s.data.toList.getD k 0=58↔s[k].toNat=58:=by
 rw[yo s k h];exact⟨fun e=>by rw[e];rfl,fun e=>UInt8.toNat_inj.1 e⟩
theorem zc(s p:ByteArray)(q:List UInt8)(b:Bool)(w:World)(hq:p.data.toList=q)(hs:s.size≤9223372036854775807)(hp:p.size≤100)(h:Txt.fits s.data.toList q=b) :
 Calls Tryz.prog 144 #[.string s,.string p] w fun e w'=>e=.returned (.bool b)∧Below w.heap.size w w' :=
 (vW s p q b w hq hs hp h).mono fun _ _ ⟨he,n,hn⟩=>⟨he,hn ▸ zg (Below.refl _ _) n⟩
def Ju(s:ByteArray):Int:=zW (s.extract 0 2)
def Jt(s:ByteArray):Int:=zW (s.extract 3 s.size)
def vq(s:ByteArray):Bool:=decide (Ju s≤23∧Jt s≤59)
def Qy(s:ByteArray):Int:=if Txt.fits s.data.toList xP=true then (if vq s=true then 0 else 5) else 1
def Qx(s:ByteArray):Int:=if Txt.fits s.data.toList xP=true then (if vq s=true then 60 * Ju s+Jt s else 0) else 0
theorem uc(s:ByteArray)(w:World)(hs:s.size≤9223372036854775807)(h:Txt.fits s.data.toList xP=false) :
 Calls Tryz.prog 112 #[.string s] w fun e w'=>e=.returned (.tuple #[.int .i64 0,.int .i64 1])∧Below w.heap.size w w':=by
 have H:=hid h;clear h;go_enter Tryz.func112,Tryz.ntmps112;go_wp2_with (go_at_call 144;refine(zc _ _ _ _ _ (by rfl) hs (by decide) H.out).mono ?_;rintro e w1 ⟨rfl,hb⟩)
 go_ret2
 exact⟨rfl,hb⟩
theorem vP(s:ByteArray)(w:World)(h:Txt.fits s.data.toList xP=true) :
 Calls Tryz.prog 112 #[.string s] w fun e w'=>e=.returned (.tuple #[.int .i64 (Qx s),.int .i64 (Qy s)])∧Below w.heap.size w w':=by
 obtain⟨hl,-,h1,h2⟩:=(Yh _).1 h;rw[qG] at hl h2;rw[← ext_list] at h1 h2;have E:Hid (Qy s=if vq s=true then 0 else 5):=by unfold Hid Qy;rw[if_pos h]
 have V:Hid (Qx s=if vq s=true then 60 * Ju s+Jt s else 0):=by unfold Hid Qx;rw[if_pos h]
 have H:=hid h;have H1:Hid (ud (s.extract 0 2)=true):=h1;have H2:Hid (ud (s.extract 3 s.size)=true):=h2;have k1:(s.extract 0 2).size≤2:=by rw[ByteArray.size_extract];omega
 have k2:(s.extract 3 s.size).size≤2:=by rw[ByteArray.size_extract];omega
 have m1:=jl _ 2 k1 h1;have m2:=jl _ 2 k2 h2;have K1:=hid k1;have K2:=hid k2;have b2:2≤s.size:=by omega
 have b3:3≤s.size:=by omega
 have i2:(2:Int)≤(s.size:Int):=by omega
 have i3:(3:Int)≤(s.size:Int):=by omega
 have yD:s.size≤9223372036854775807:=by omega
 clear h h1 h2 hl k1 k2;have m3:zW (s.extract 0 2)≤99:=by omega
 have m4:zW (s.extract 3 s.size)≤99:=by omega
 have m5:=m1.1;have m6:=m2.1;clear m1 m2;have C1:Hid (∀w,Calls Tryz.prog 145 #[.string (s.extract 0 2)] w fun e w'=>e=.returned (.int .i64 (zW (s.extract 0 2)))∧w'=w):=fun w=>jk _ w (by have:=K1.out;omega) H1.out;have C2:Hid (∀w,Calls Tryz.prog 145 #[.string (s.extract 3 s.size)] w fun e w'=>e=.returned (.int .i64 (zW (s.extract 3 s.size)))∧w'=w):=fun w=>jk _ w (by have:=K2.out;omega) H2.out
 by_cases q1:zW (s.extract 0 2)≤23
 ·by_cases q2:zW (s.extract 3 s.size)≤59
  ·have hB:Hid (vq s=true):=by unfold Hid vq Ju Jt;simp[q1,q2]
   go_enter Tryz.func112,Tryz.ntmps112;go_wp2_with (go_at_call 144;refine(zc _ _ _ _ _ (by rfl) yD (by decide) H.out).mono ?_;rintro e w1 ⟨rfl,hb⟩)
   go_quiet (first|(with_reducible exact Calls.quiet_of_same (C1.out _))|(with_reducible exact Calls.quiet_of_same (C2.out _)))
   go_wp2
   go_ret2
   refine⟨?_,zg hb _⟩;rw[E.out,V.out,if_pos hB.out,if_pos hB.out];exact YA (by unfold Ju Jt;omega) rfl
  ·have hB:Hid (vq s=false):=by unfold Hid vq Ju Jt;simp;omega
   go_enter Tryz.func112,Tryz.ntmps112;go_wp2_with (go_at_call 144;refine(zc _ _ _ _ _ (by rfl) yD (by decide) H.out).mono ?_;rintro e w1 ⟨rfl,hb⟩)
   go_quiet (first|(with_reducible exact Calls.quiet_of_same (C1.out _))|(with_reducible exact Calls.quiet_of_same (C2.out _)))
   go_wp2
   go_ret2
   refine⟨?_,zg hb _⟩;rw[E.out,V.out,hB.out];rfl
 ·have hB:Hid (vq s=false):=by unfold Hid vq Ju Jt;simp;omega
  go_enter Tryz.func112,Tryz.ntmps112;go_wp2_with (go_at_call 144;refine(zc _ _ _ _ _ (by rfl) yD (by decide) H.out).mono ?_;rintro e w1 ⟨rfl,hb⟩)
  go_quiet (first|(with_reducible exact Calls.quiet_of_same (C1.out _))|(with_reducible exact Calls.quiet_of_same (C2.out _)))
  go_wp2
  go_ret2
  refine⟨?_,zg hb _⟩;rw[E.out,V.out,hB.out];rfl
theorem Qw(s:ByteArray)(w:World)(hs:s.size≤9223372036854775807) :
 Calls Tryz.prog 112 #[.string s] w fun e w'=>e=.returned (.tuple #[.int .i64 (Qx s),.int .i64 (Qy s)])∧Below w.heap.size w w':=by
 cases h:Txt.fits s.data.toList xP
 ·have:=uc s w hs h
  simpa [Qx,Qy,h] using this
 ·exact vP s w h
theorem kD(s:ByteArray)(w:World)(hs:s.size≤9223372036854775807)(h:Txt.fits s.data.toList xP=false) :
 Calls Tryz.prog 121 #[.string s] w fun e w'=>e=.returned (.tuple #[.int .i64 0,.int .i64 1])∧w=w':=by
 have hn:¬(s.data.toList.length=5∧s.data.toList.getD 2 0=58∧Txt.allD ((s.data.toList.take 2).drop 0)=true∧Txt.allD ((s.data.toList.take s.data.toList.length).drop 3)=true):=by
  intro q;rw[(Yh _).2 q] at h;cases h
 rw[qG] at hn;clear h
 by_cases h5:s.size=5
 ·have l2:2 < s.size:=by omega
  rw[Ye s 2 l2] at hn;have n5:((s.size:Int) != 5)=false:=by rw[h5];rfl
  by_cases h2:s[2].toNat=58
  ·have b2:((s[2].toNat:Int) != 58)=false:=by rw[h2];rfl
   have z1:(s.extract 0 2).size=2:=(by rw[ByteArray.size_extract];omega);have z2:(s.extract 3 s.size).size=2:=by rw[ByteArray.size_extract];omega
   have hn2:¬(ud (s.extract 0 2)=true∧ud (s.extract 3 s.size)=true):=by
    unfold ud;rw[ext_list,ext_list];exact fun q=>hn ⟨h5,h2,q⟩
   rw[← (kK _ 2 z1).1,← (kK _ 2 z2).1] at hn2;have Z:Hid ((s.extract 0 2).size=2∧(s.extract 3 s.size).size=2):=⟨z1,z2⟩;clear z1 z2 hn h2;have i2:2≤s.size:=(by omega);have i3:3≤s.size:=(by omega);have j2:(2:Int) < (s.size:Int):=(by omega);clear h5;rcases h1:J1 (s.extract 0 2) 2 2 with _|_<;>rcases h3:J1 (s.extract 3 s.size) 2 2 with _|_
   all_goals simp[h1,h3] at hn2
   all_goals
    try clear hn2
    go_enter Tryz.func121,Tryz.ntmps121;go_wp2_with (go_at_call 123;refine(zP _ _ _ _ (by first|(rw[Z.out.1];omega)|(rw[Z.out.2];omega)) (by omega)).mono ?_;rintro e w1 ⟨rfl,rfl⟩)
    go_ret2
    exact⟨rfl,rfl⟩
  ·have b2:((s[2].toNat:Int) != 58)=true:=by simp;omega
   clear hn h2 h5;go_enter Tryz.func121,Tryz.ntmps121;go_wp2
   go_ret2
   exact⟨rfl,rfl⟩
 ·have n5:((s.size:Int) != 5)=true:=by simp;omega
  clear hn h5;go_enter Tryz.func121,Tryz.ntmps121;go_wp2
  go_ret2
  exact⟨rfl,rfl⟩
theorem xm(s:ByteArray)(w:World)(h:Txt.fits s.data.toList xP=true) :
 Calls Tryz.prog 121 #[.string s] w fun e w'=>e=.returned (.tuple #[.int .i64 (Qx s),.int .i64 (Qy s)])∧w=w':=by
 obtain⟨hl,q2,h1,h2⟩:=(Yh _).1 h;rw[qG] at hl h2;rw[← ext_list] at h1 h2;have E:Hid (Qy s=if vq s=true then 0 else 5):=by unfold Hid Qy;rw[if_pos h]
 have V:Hid (Qx s=if vq s=true then 60 * Ju s+Jt s else 0):=by unfold Hid Qx;rw[if_pos h]
 have l2:2 < s.size:=by omega
 rw[Ye s 2 l2] at q2;have n5:((s.size:Int) != 5)=false:=by rw[hl];rfl
 have b2:((s[2].toNat:Int) != 58)=false:=by rw[q2];rfl
 have z1:(s.extract 0 2).size=2:=by rw[ByteArray.size_extract];omega
 have z2:(s.extract 3 s.size).size=2:=by rw[ByteArray.size_extract];omega
 have m1:=jl _ 2 (by omega) h1;have m2:=jl _ 2 (show(s.extract 3 s.size).size≤2 by omega) h2;obtain⟨g1,v1⟩:=kK _ 2 z1;obtain⟨g2,v2⟩:=kK _ 2 z2;have d1:J1 (s.extract 0 2) 2 2=true:=g1.trans h1;have d2:J1 (s.extract 3 s.size) 2 2=true:=g2.trans h2;have N1:Qi (s.extract 0 2) 2 2=Ju s:=v1 h1;have N2:Qi (s.extract 3 s.size) 2 2=Jt s:=v2 h2;have Z:Hid ((s.extract 0 2).size=2∧(s.extract 3 s.size).size=2):=⟨z1,z2⟩;have m3:0≤Qi (s.extract 0 2) 2 2:=by rw[N1];exact m1.1
 have m4:0≤Qi (s.extract 3 s.size) 2 2:=by rw[N2];exact m2.1
 have m5:Qi (s.extract 0 2) 2 2≤99:=by rw[N1];unfold Ju;omega
 have m6:Qi (s.extract 3 s.size) 2 2≤99:=by rw[N2];unfold Jt;omega
 have B:Hid (vq s=decide (Qi (s.extract 0 2) 2 2≤23∧Qi (s.extract 3 s.size) 2 2≤59)):=by unfold Hid vq;rw[N1,N2]
 have HN:=hid N1;have HM:=hid N2;have i2:2≤s.size:=by omega
 have i3:3≤s.size:=by omega
 have j2:(2:Int) < (s.size:Int):=by omega
 clear z1 z2 h1 h2 g1 g2 v1 v2 q2 h m1 m2 N1 N2 hl
 by_cases q1:Qi (s.extract 0 2) 2 2≤23
 ·by_cases q2:Qi (s.extract 3 s.size) 2 2≤59
  ·have hB:Hid (vq s=true):=by unfold Hid;rw[B.out];simp[q1,q2]
   go_enter Tryz.func121,Tryz.ntmps121;go_wp2_with (go_at_call 123;refine(zP _ _ _ _ (by first|(rw[Z.out.1];omega)|(rw[Z.out.2];omega)) (by omega)).mono ?_;rintro e w1 ⟨rfl,rfl⟩)
   go_ret2
   refine⟨?_,rfl⟩;rw[E.out,V.out,if_pos hB.out,if_pos hB.out,← HN.out,← HM.out];rfl
  ·have hB:Hid (vq s=false):=by unfold Hid;rw[B.out];simp;omega
   go_enter Tryz.func121,Tryz.ntmps121;go_wp2_with (go_at_call 123;refine(zP _ _ _ _ (by first|(rw[Z.out.1];omega)|(rw[Z.out.2];omega)) (by omega)).mono ?_;rintro e w1 ⟨rfl,rfl⟩)
   go_ret2
   exact⟨by rw[E.out,V.out,hB.out];rfl,rfl⟩
 ·have hB:Hid (vq s=false):=by unfold Hid;rw[B.out];simp;omega
  go_enter Tryz.func121,Tryz.ntmps121;go_wp2_with (go_at_call 123;refine(zP _ _ _ _ (by first|(rw[Z.out.1];omega)|(rw[Z.out.2];omega)) (by omega)).mono ?_;rintro e w1 ⟨rfl,rfl⟩)
  go_ret2
  exact⟨by rw[E.out,V.out,hB.out];rfl,rfl⟩
theorem xM(s:ByteArray)(w:World)(hs:s.size≤9223372036854775807) :
 Calls Tryz.prog 121 #[.string s] w fun e w'=>e=.returned (.tuple #[.int .i64 (Qx s),.int .i64 (Qy s)])∧w=w':=by
 cases h:Txt.fits s.data.toList xP
 ·have:=kD s w hs h
  simpa [Qx,Qy,h] using this
 ·exact xm s w h
end Go.Proofs.YtcejjdmnlejbaaaGreatDoor
