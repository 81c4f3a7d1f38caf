import Derived.Test.YtcejjdmnlejbaaaGreatDoorWKta
namespace Go.Proofs.YtcejjdmnlejbaaaGreatDoor
open Lib(hid)
set_option linter.unusedVariables false
set_option linter.unusedSimpArgs false
open Go.ChangeShapes Go.WideShapes Go.ChangeAt Go.RowKit
set_option maxHeartbeats 4000000
set_option maxRecDepth 100000
theorem yW(s:ByteArray)(k:Nat)(h:k < s.size):s.data.toList.take (k+1)=s.data.toList.take k++[s[k]]:=by
 rw[List.take_succ_eq_append_getElem (by simpa using h)];rfl
theorem qR(s:ByteArray)(k:Nat)(h:k < s.size):s.data.toList.getD k 0=s[k]:=by
 rw[List.getD_eq_getElem?_getD,List.getElem?_eq_getElem (by simpa using h)];rfl
theorem qe(s:ByteArray):s.data.toList.length=s.size:=Array.length_toList
theorem vn(a b:UInt8):(a==b)=decide (a.toNat=b.toNat):=by
 by_cases h:a=b
 ·subst h;simp
 ·have:a.toNat≠b.toNat:=fun e=>h (UInt8.toNat_inj.1 e);simp[h,this]
theorem uP(c p:UInt8)(hp:p.toNat=48):Txt.fitB c p=Txt.isD c:=by
 have:p=48:=UInt8.toNat_inj.1 hp;simp[Txt.fitB,this]
theorem um(c p:UInt8)(hp:p.toNat≠48):Txt.fitB c p=decide (c.toNat=p.toNat):=by
 have:¬p=48:=fun e=>hp (by rw[e];rfl);simp only[Txt.fitB,this,if_false];exact vn c p
theorem vT(s p:ByteArray)(w:World)(hs:s.size≤9223372036854775807)(hp:p.size≤9223372036854775807) :
 Calls Tryz.prog 144 #[.string s,.string p] w fun e w'=>e=.returned (.bool (Txt.fits s.data.toList p.data.toList))∧∃n,w'=w.drewN n:=by
 by_cases hl:s.size=p.size
 ·have HL := hid hl;have hne:((s.size:Int) != (p.size:Int))=false:=(by rw[hl];simp);have hle:s.size≤p.size:=(by omega);clear hl;go_enter Tryz.func144,Tryz.ntmps144;go_wp2_with fail
  go_loopw [5,13] (fun _ i wr=>∃k:Nat,k≤s.size∧i=.int .i64 k∧Hid (Txt.fits (s.data.toList.take k) (p.data.toList.take k)=true∧∃n,wr=w.drewN n)) (fun _ i _=>s.size - (intOf i).toNat)
  case atStart=>exact⟨0,by omega,rfl,by simp[Txt.fits],0,rfl⟩
  case round =>
   obtain⟨k,hk,rfl,HR⟩:=hrel
   by_cases qD:k < s.size
   ·have hlp:k < p.size:=by omega
    have hft:=Txt.fits_take s.data.toList p.data.toList (by rw[qe,qe,HL.out]) k (by rw[qe];exact qD);rw[qR s k qD,qR p k hlp] at hft;rw[HR.out.1,Bool.true_and] at hft;have HF:=hid hft;clear hft
    have hno:Hid (Txt.fitB s[k] p[k]=false→Txt.fits s.data.toList p.data.toList=false):=by
     intro hf;cases hb:Txt.fits s.data.toList p.data.toList
     ·rfl
     ·have:=(Txt.fits_all s.data.toList p.data.toList (by rw[qe,qe,HL.out])).1 hb k (by rw[qe];exact qD);rw[qR s k qD,qR p k hlp,hf] at this;cases this
    obtain⟨n,rfl⟩:=HR.out.2;have hi0:(0:Int)≤(k:Int):=(by omega);have hi1:(k:Int) < (s.size:Int):=(by omega);have hi2:(k:Int) < (p.size:Int):=by omega
    by_cases hp:p[k].toNat=48
    ·have hpB:((p[k].toNat:Int)==48)=true:=by simp;omega
     have HP:=hid hp;clear hp
     by_cases hd:48≤s[k].toNat∧s[k].toNat≤57
     ·obtain ⟨hd1,hd2⟩:=hd;have h1:¬(s[k].toNat:Int) < 48:=(by omega);have h2:¬ 57 < (s[k].toNat:Int):=(by omega);go_wp2
      go_roundw
      case rel=>exact⟨k+1,by omega,by go_num,by rw[HF.out,uP _ _ HP.out,Txt.isD_iff];omega,n,rfl⟩
      case measure=>simp[intOf];omega
     ·have hr:Hid (Txt.fits s.data.toList p.data.toList=false):=hno.out (by rw[uP _ _ HP.out,Txt.isD_no];exact hd)
      by_cases h1:(s[k].toNat:Int) < 48
      ·go_wp2;go_ret;exact⟨qS hr.out.symm,n,rfl⟩
      ·have h2:57 < (s[k].toNat:Int):=by omega
       clear hd;go_wp2;go_ret;exact⟨qS hr.out.symm,n,rfl⟩
    ·have hpB:((p[k].toNat:Int)==48)=false:=by simp;omega
     have HP:=hid hp;clear hp
     by_cases hd:s[k].toNat=p[k].toNat
     ·have hB:((s[k].toNat:Int) != (p[k].toNat:Int))=false:=by simp[hd]
      have HD:=hid hd;clear hd;go_wp2_with fail
      go_quiet (fail)
      go_wp2
      go_roundw
      case rel=>exact⟨k+1,by omega,by go_num,by rw[HF.out,um _ _ HP.out];simp[HD.out],n+nq,by first|rfl|rw[World.drewN_drewN]⟩
      case measure=>simp[intOf];omega
     ·have hB:((s[k].toNat:Int) != (p[k].toNat:Int))=true:=by simp;omega
      have hr:Hid (Txt.fits s.data.toList p.data.toList=false):=hno.out (by rw[um _ _ HP.out];simp[hd]);clear hd;go_wp2_with fail
      go_quiet (fail)
      go_wp2;go_ret;exact⟨qS hr.out.symm,n+nq,by first|rfl|rw[World.drewN_drewN]⟩
   ·have hr:Hid (Txt.fits s.data.toList p.data.toList=true):=by
     have:=HR.out.1;rw[List.take_of_length_le (by rw[qe];omega),List.take_of_length_le (by rw[qe,← HL.out];omega)] at this;exact this
    obtain⟨n,rfl⟩:=HR.out.2;go_wp2;go_ret;exact⟨qS hr.out.symm,n,rfl⟩
 ·have hne:((s.size:Int) != (p.size:Int))=true:=by simp;omega
  have hr:Hid (Txt.fits s.data.toList p.data.toList=false):=by
   cases hb:Txt.fits s.data.toList p.data.toList
   ·rfl
   ·have:=Txt.fits_len _ _ hb;rw[qe,qe] at this;exact absurd this hl
  clear hl;go_enter Tryz.func144,Tryz.ntmps144;go_wp2;go_ret;exact⟨qS hr.out.symm,0,rfl⟩
theorem Qz(s:ByteArray)(w:World)(hs:s.size≤11)(hd:Txt.allD s.data.toList=true) :
 Calls Tryz.prog 145 #[.string s] w fun e w'=>e=.returned (.int .i64 (Txt.num s.data.toList))∧w=w':=by
 have HD:=hid hd;clear hd;go_enter Tryz.func145,Tryz.ntmps145;go_wp2_with fail
 go_loop [3,4,7] (fun n _ i=>∃k:Nat,k≤s.size∧i=.int .i64 k∧n=.int .i64 (Txt.num (s.data.toList.take k))) (fun _ _ i=>s.size - (intOf i).toNat)
 case atStart=>exact⟨0,by omega,rfl,rfl⟩
 case round =>
  obtain⟨k,hk,rfl,rfl⟩:=hrel
  by_cases qD:k < s.size
  ·have hda:Txt.allD (s.data.toList.take k)=true:=by
    rw[Txt.allD,List.all_eq_true];intro x hx;exact List.all_eq_true.1 HD.out x (List.mem_of_mem_take hx)
   have hb:=Txt.num_bd _ hda;have hpw:(10 ^ (s.data.toList.take k).length:Nat)≤10 ^ 11:=Nat.pow_le_pow_right (by omega) (by simp;omega);have hc:Txt.isD s[k]=true:=List.all_eq_true.1 HD.out s[k] (by rw[show s[k]=s.data.toList[k]'(by rw[qe];exact qD) from rfl];exact List.getElem_mem _);rw[Txt.isD_iff] at hc;have HN:Hid (Txt.num (s.data.toList.take (k+1))=10 * Txt.num (s.data.toList.take k)+((s[k].toNat:Int) - 48)):=(by unfold Hid;rw[yW s k qD,Txt.num_snoc];rfl);obtain⟨hc1,hc2⟩:=hc;have hn1:0≤Txt.num (s.data.toList.take k):=hb.1;have hn2:Txt.num (s.data.toList.take k)≤100000000000:=(by have:=hb.2;omega);clear hb hpw hda;generalize Txt.num (s.data.toList.take k)=m at *;go_wp2
   go_round
   case rel=>exact⟨k+1,by omega,by go_num,by rw[HN.out]⟩
   case measure=>simp[intOf];omega
  ·go_wp2;go_ret;exact⟨ud (by rw[List.take_of_length_le (by rw[qe];omega)]),rfl⟩
def kw(l:List UInt8)(a b:Int):Int:=if a≤l.length∧l.length≤b∧Txt.allD l=true then Txt.num l else 0
def digB(l:List UInt8)(a b:Int):Bool:=decide (a≤l.length∧l.length≤b∧Txt.allD l=true)
theorem xD(c:Int)(w:World) :
 Calls Tryz.prog 142 #[.int .u8 c] w fun e w'=>e=.returned (.bool (decide (48≤c∧c≤57)))∧w=w':=by
 by_cases h1:48≤c
 ·by_cases h2:c≤57
  ·go_enter Tryz.func142,Tryz.ntmps142;go_wp2;go_ret;exact⟨qS (by simp[h1,h2]),rfl⟩
  ·go_enter Tryz.func142,Tryz.ntmps142;go_wp2;go_ret;exact⟨qS (by simp;omega),rfl⟩
 ·go_enter Tryz.func142,Tryz.ntmps142;go_wp2;go_ret;exact⟨qS (by simp;omega),rfl⟩
theorem kL(s:ByteArray)(a b:Int)(w:World)(hs:s.size≤9223372036854775807)(hb:b≤13) :
 Calls Tryz.prog 123 #[.string s,.int .i64 a,.int .i64 b] w fun e w'=>e=.returned (.tuple #[.int .i64 (kw s.data.toList a b),.bool (digB s.data.toList a b)])∧w=w':=by
 by_cases hab:a≤(s.size:Int)∧(s.size:Int)≤b
 ·obtain ⟨h1, h2⟩:=hab;have hs11:s.size≤13:=(by omega);go_enter Tryz.func123,Tryz.ntmps123;go_wp2_with fail
  go_loop [8,9] (fun n i=>∃k:Nat,∃m:Int,k≤s.size∧i=.int .i64 k∧n=.int .i64 m∧0≤m∧m≤10000000000000∧Hid (m=Txt.num (s.data.toList.take k)∧Txt.allD (s.data.toList.take k)=true)) (fun _ i=>s.size - (intOf i).toNat)
  case atStart=>exact⟨0,0,by omega,rfl,rfl,by omega,by omega,rfl,rfl⟩
  case round =>
   obtain⟨k,m,hk,rfl,rfl,hm0,hm1,HM⟩:=hrel
   by_cases qD:k < s.size
   ·have HN:Hid (Txt.num (s.data.toList.take (k+1))=10 * Txt.num (s.data.toList.take k)+((s[k].toNat:Int) - 48)):=by unfold Hid;rw[yW s k qD,Txt.num_snoc];rfl
    have HA:Hid (Txt.allD (s.data.toList.take (k+1))=Txt.isD s[k]):=(by unfold Hid;rw[yW s k qD,Txt.allD_snoc,HM.out.2,Bool.true_and]);have hi1:(k:Int) < (s.size:Int):=by omega
    by_cases hd:48≤s[k].toNat∧s[k].toNat≤57
    ·have hdB:decide (48≤(s[k].toNat:Int)∧(s[k].toNat:Int)≤57)=true:=by simp;omega
     have HD:=hid hd;obtain⟨hd1,hd2⟩:=hd;go_wp2_with (go_at_call 142;refine(xD _ _).mono ?_;rw[hdB];rintro e w' ⟨rfl,rfl⟩)
     go_round
     case rel =>
      have hA:Txt.allD (s.data.toList.take (k+1))=true:=(by rw[HA.out,Txt.isD_iff];exact HD.out);have hbd:=Txt.num_bd _ hA;have hpw:(10 ^ (s.data.toList.take (k+1)).length:Nat)≤10 ^ 13:=Nat.pow_le_pow_right (by omega) (by simp;omega);have e:10 * m+((s[k].toNat:Int) - 48)=Txt.num (s.data.toList.take (k+1)):=(by rw[HN.out,HM.out.1]);exact⟨k+1,10 * m+((s[k].toNat:Int) - 48),by omega,by go_num,rfl,by omega,by rw[e];omega,e,hA⟩
     case measure=>simp[intOf];omega
    ·have hdB:decide (48≤(s[k].toNat:Int)∧(s[k].toNat:Int)≤57)=false:=by simp;omega
     have hF:Hid (Txt.allD s.data.toList=false):=by
      cases hq:Txt.allD s.data.toList
      ·rfl
      ·have hc:Txt.isD s[k]=true:=List.all_eq_true.1 hq s[k] (by rw[show s[k]=s.data.toList[k]'(by rw[qe];exact qD) from rfl];exact List.getElem_mem _);rw[Txt.isD_iff] at hc;exact absurd hc hd
     clear hd;go_wp2_with (go_at_call 142;refine(xD _ _).mono ?_;rw[hdB];rintro e w' ⟨rfl,rfl⟩)
     go_ret2
     refine⟨?_,rfl⟩;have e1:kw s.data.toList a b=0:=(by unfold kw;rw[if_neg (by rw[hF.out];simp)]);have e2:digB s.data.toList a b=false:=(by unfold digB;rw[hF.out];simp);rw[e1,e2];rfl
   ·go_wp2
    go_ret2
    refine⟨?_,rfl⟩;obtain⟨rfl,hA⟩:=HM.out;rw[List.take_of_length_le (by rw[qe];omega)] at hA ⊢;have hl:(s.data.toList.length:Int)=s.size:=(by rw[qe]);have e1:kw s.data.toList a b=Txt.num s.data.toList:=(by unfold kw;rw[if_pos ⟨by omega,by omega,hA⟩]);have e2:digB s.data.toList a b=true:=(by unfold digB;rw[hA];simp;omega);rw[e1,e2];rfl
 ·have e1:Hid (kw s.data.toList a b=0):=by unfold Hid kw;rw[qe];exact if_neg (fun h=>hab ⟨h.1,h.2.1⟩)
  have e2:Hid (digB s.data.toList a b=false):=by unfold Hid digB;rw[qe];exact decide_eq_false (fun h=>hab ⟨h.1,h.2.1⟩)
  by_cases h1:a≤(s.size:Int)
  ·have h2:¬(s.size:Int)≤b:=fun h=>hab ⟨h1,h⟩;clear hab;go_enter Tryz.func123,Tryz.ntmps123;go_wp2
   go_ret2
   exact⟨by rw[e1.out,e2.out];rfl,rfl⟩
  ·clear hab;go_enter Tryz.func123,Tryz.ntmps123;go_wp2
   go_ret2
   exact⟨by rw[e1.out,e2.out];rfl,rfl⟩
theorem Uv(l:List UInt8)(h:l.length=5):∃a b c d e,l=[a,b,c,d,e]:=by
 match l,h with
 | [a,b,c,d,e],_=>exact⟨a,b,c,d,e,rfl⟩
theorem ext_list(s:ByteArray)(a b:Nat):(s.extract a b).data.toList=(s.data.toList.take b).drop a:=by
 rw[ByteArray.data_extract];simp[List.extract_eq_take_drop,List.take_drop]
 by_cases h:a≤b
 ·rw[show a+(b - a)=b from by omega]
 ·rw[List.drop_eq_nil_of_le (by simp;omega),List.drop_eq_nil_of_le (by simp;omega)]
theorem vS(s p:ByteArray)(q:List UInt8)(b:Bool)(w:World)(hq:p.data.toList=q)(hs:s.size≤9223372036854775807)(hp:p.size≤100)(h:Txt.fits s.data.toList q=b) :
 Calls Tryz.prog 144 #[.string s,.string p] w fun e w'=>e=.returned (.bool b)∧∃n,w'=w.drewN n:=by
 rw[← h,← hq];exact vT s p w hs (by omega)
def zx(s:ByteArray):Int:=Txt.num s.data.toList
def uA(s:ByteArray):Bool:=Txt.allD s.data.toList
theorem ji(s:ByteArray)(w:World)(hs:s.size≤11)(hd:uA s=true) :
 Calls Tryz.prog 145 #[.string s] w fun e w'=>e=.returned (.int .i64 (zx s))∧w'=w :=
 (Qz s w hs hd).mono fun _ _ ⟨he,hw⟩=>⟨he,hw.symm⟩
theorem jj(s:ByteArray)(k:Nat)(hs:s.size≤k)(hd:uA s=true):0≤zx s∧zx s < (10 ^ k:Nat):=by
 have h:=Txt.num_bd _ hd;rw[qe] at h;have:10 ^ s.size≤10 ^ k:=Nat.pow_le_pow_right (by omega) hs;exact⟨h.1,by unfold zx;omega⟩
def Qf(s:ByteArray)(a b:Int):Int:=kw s.data.toList a b
def Jl(s:ByteArray)(a b:Int):Bool:=digB s.data.toList a b
theorem zH(s:ByteArray)(a b:Int)(w:World)(hs:s.size≤9223372036854775807)(hb:b≤13) :
 Calls Tryz.prog 123 #[.string s,.int .i64 a,.int .i64 b] w fun e w'=>e=.returned (.tuple #[.int .i64 (Qf s a b),.bool (Jl s a b)])∧w=w':=kL s a b w hs hb
theorem xk(s:ByteArray)(k:Nat)(h:s.size=k):Jl s k k=uA s∧(uA s=true→Qf s k k=zx s):=by
 unfold Jl Qf digB kw uA zx;rw[qe,h];cases Txt.allD s.data.toList<;>simp
def xJ:List UInt8:=[48,48,58,48,48]
theorem Q8(l:List UInt8):Txt.fits l xJ=true↔(l.length=5∧l.getD 2 0=58∧Txt.allD ((l.take 2).drop 0)=true∧Txt.allD ((l.take l.length).drop 3)=true):=by
 constructor
 ·intro h;have hl:=Txt.fits_len _ _ h;obtain⟨a,b,c,d,e,rfl⟩:=Uv l hl;simp[xJ,Txt.fits,Txt.fitB,Txt.allD] at h ⊢;exact⟨h.2.2.1,⟨h.1,h.2.1⟩,h.2.2.2⟩
 ·rintro⟨hl,h⟩;obtain⟨a,b,c,d,e,rfl⟩:=Uv l hl;simp[xJ,Txt.fits,Txt.fitB,Txt.allD] at h ⊢;obtain⟨h1,⟨h2,h3⟩,h4,h5⟩:=h;exact⟨h2,h3,h1,h4,h5⟩
theorem Yl(s:ByteArray)(k:Nat)(h:k < s.size):s.data.toList.getD k 0=58↔s[k].toNat=58:=by
 rw[qR s k h];exact⟨fun e=>by rw[e];rfl,fun e=>UInt8.toNat_inj.1 e⟩
theorem yX(s p:ByteArray)(q:List UInt8)(b:Bool)(w:World)(hq:p.data.toList=q)(hs:s.size≤9223372036854775807)(hp:p.size≤100)(h:Txt.fits s.data.toList q=b) :
 Calls Tryz.prog 144 #[.string s,.string p] w fun e w'=>e=.returned (.bool b)∧Below w.heap.size w w' :=
 (vS s p q b w hq hs hp h).mono fun _ _ ⟨he,n,hn⟩=>⟨he,hn ▸ qN (Below.refl _ _) n⟩
def YR(s:ByteArray):Int:=zx (s.extract 0 2)
def YQ(s:ByteArray):Int:=zx (s.extract 3 s.size)
def uK(s:ByteArray):Bool:=decide (YR s≤23∧YQ s≤59)
def vO(s:ByteArray):Int:=if Txt.fits s.data.toList xJ=true then (if uK s=true then 0 else 5) else 1
def vN(s:ByteArray):Int:=if Txt.fits s.data.toList xJ=true then (if uK s=true then 60 * YR s+YQ s else 0) else 0
theorem uw(s:ByteArray)(w:World)(hs:s.size≤9223372036854775807)(h:Txt.fits s.data.toList xJ=false) :
 Calls Tryz.prog 112 #[.string s] w fun e w'=>e=.returned (.tuple #[.int .i64 0,.int .i64 1])∧Below w.heap.size w w':=by
 have H:=hid h;clear h;go_enter Tryz.func112,Tryz.ntmps112;go_wp2_with (go_at_call 144;refine(yX _ _ _ _ _ (by rfl) hs (by decide) H.out).mono ?_;rintro e w1 ⟨rfl,hb⟩)
 go_ret2
 exact⟨rfl,hb⟩
theorem vM(s:ByteArray)(w:World)(h:Txt.fits s.data.toList xJ=true) :
 Calls Tryz.prog 112 #[.string s] w fun e w'=>e=.returned (.tuple #[.int .i64 (vN s),.int .i64 (vO s)])∧Below w.heap.size w w':=by
 obtain⟨hl,-,h1,h2⟩:=(Q8 _).1 h;rw[qe] at hl h2;rw[← ext_list] at h1 h2;have E:Hid (vO s=if uK s=true then 0 else 5):=by unfold Hid vO;rw[if_pos h]
 have V:Hid (vN s=if uK s=true then 60 * YR s+YQ s else 0):=by unfold Hid vN;rw[if_pos h]
 have H:=hid h;have H1:Hid (uA (s.extract 0 2)=true):=h1;have H2:Hid (uA (s.extract 3 s.size)=true):=h2;have k1:(s.extract 0 2).size≤2:=by rw[ByteArray.size_extract];omega
 have k2:(s.extract 3 s.size).size≤2:=by rw[ByteArray.size_extract];omega
 have m1:=jj _ 2 k1 h1;have m2:=jj _ 2 k2 h2;have K1:=hid k1;have K2:=hid k2;have b2:2≤s.size:=by omega
 have b3:3≤s.size:=by omega
 have i2:(2:Int)≤(s.size:Int):=by omega
 have i3:(3:Int)≤(s.size:Int):=by omega
 have ym:s.size≤9223372036854775807:=by omega
 clear h h1 h2 hl k1 k2;have m3:zx (s.extract 0 2)≤99:=by omega
 have m4:zx (s.extract 3 s.size)≤99:=by omega
 have m5:=m1.1;have m6:=m2.1;clear m1 m2;have C1:Hid (∀w,Calls Tryz.prog 145 #[.string (s.extract 0 2)] w fun e w'=>e=.returned (.int .i64 (zx (s.extract 0 2)))∧w'=w):=fun w=>ji _ w (by have:=K1.out;omega) H1.out;have C2:Hid (∀w,Calls Tryz.prog 145 #[.string (s.extract 3 s.size)] w fun e w'=>e=.returned (.int .i64 (zx (s.extract 3 s.size)))∧w'=w):=fun w=>ji _ w (by have:=K2.out;omega) H2.out
 by_cases q1:zx (s.extract 0 2)≤23
 ·by_cases q2:zx (s.extract 3 s.size)≤59
  ·have hB:Hid (uK s=true):=by unfold Hid uK YR YQ;simp[q1,q2]
   go_enter Tryz.func112,Tryz.ntmps112;go_wp2_with (go_at_call 144;refine(yX _ _ _ _ _ (by rfl) ym (by decide) H.out).mono ?_;rintro e w1 ⟨rfl,hb⟩)
   go_quiet (first|(with_reducible exact Calls.quiet_of_same (C1.out _))|(with_reducible exact Calls.quiet_of_same (C2.out _)))
   go_wp2
   go_ret2
   refine⟨?_,qN hb _⟩;rw[E.out,V.out,if_pos hB.out,if_pos hB.out];exact YK (by unfold YR YQ;omega) rfl
  ·have hB:Hid (uK s=false):=by unfold Hid uK YR YQ;simp;omega
   go_enter Tryz.func112,Tryz.ntmps112;go_wp2_with (go_at_call 144;refine(yX _ _ _ _ _ (by rfl) ym (by decide) H.out).mono ?_;rintro e w1 ⟨rfl,hb⟩)
   go_quiet (first|(with_reducible exact Calls.quiet_of_same (C1.out _))|(with_reducible exact Calls.quiet_of_same (C2.out _)))
   go_wp2
   go_ret2
   refine⟨?_,qN hb _⟩;rw[E.out,V.out,hB.out];rfl
 ·have hB:Hid (uK s=false):=by unfold Hid uK YR YQ;simp;omega
  go_enter Tryz.func112,Tryz.ntmps112;go_wp2_with (go_at_call 144;refine(yX _ _ _ _ _ (by rfl) ym (by decide) H.out).mono ?_;rintro e w1 ⟨rfl,hb⟩)
  go_quiet (first|(with_reducible exact Calls.quiet_of_same (C1.out _))|(with_reducible exact Calls.quiet_of_same (C2.out _)))
  go_wp2
  go_ret2
  refine⟨?_,qN hb _⟩;rw[E.out,V.out,hB.out];rfl
theorem Qt(s:ByteArray)(w:World)(hs:s.size≤9223372036854775807) :
 Calls Tryz.prog 112 #[.string s] w fun e w'=>e=.returned (.tuple #[.int .i64 (vN s),.int .i64 (vO s)])∧Below w.heap.size w w':=by
 cases h:Txt.fits s.data.toList xJ
 ·have:=uw s w hs h
  simpa [vN,vO,h] using this
 ·exact vM s w h
theorem kY(s:ByteArray)(w:World)(hs:s.size≤9223372036854775807)(h:Txt.fits s.data.toList xJ=false) :
 Calls Tryz.prog 121 #[.string s] w fun e w'=>e=.returned (.tuple #[.int .i64 0,.int .i64 1])∧w=w':=by
 have hn:¬(s.data.toList.length=5∧s.data.toList.getD 2 0=58∧Txt.allD ((s.data.toList.take 2).drop 0)=true∧Txt.allD ((s.data.toList.take s.data.toList.length).drop 3)=true):=by
  intro q;rw[(Q8 _).2 q] at h;cases h
 rw[qe] at hn;clear h
 by_cases h5:s.size=5
 ·have l2:2 < s.size:=by omega
  rw[Yl s 2 l2] at hn;have n5:((s.size:Int) != 5)=false:=by rw[h5];rfl
  by_cases h2:s[2].toNat=58
  ·have b2:((s[2].toNat:Int) != 58)=false:=by rw[h2];rfl
   have z1:(s.extract 0 2).size=2:=(by rw[ByteArray.size_extract];omega);have z2:(s.extract 3 s.size).size=2:=by rw[ByteArray.size_extract];omega
   have hn2:¬(uA (s.extract 0 2)=true∧uA (s.extract 3 s.size)=true):=by
    unfold uA;rw[ext_list,ext_list];exact fun q=>hn ⟨h5,h2,q⟩
   rw[← (xk _ 2 z1).1,← (xk _ 2 z2).1] at hn2;have Z:Hid ((s.extract 0 2).size=2∧(s.extract 3 s.size).size=2):=⟨z1,z2⟩;clear z1 z2 hn h2;have i2:2≤s.size:=(by omega);have i3:3≤s.size:=(by omega);have j2:(2:Int) < (s.size:Int):=(by omega);clear h5;rcases h1:Jl (s.extract 0 2) 2 2 with _|_<;>rcases h3:Jl (s.extract 3 s.size) 2 2 with _|_
   all_goals simp[h1,h3] at hn2
   all_goals
    try clear hn2
    go_enter Tryz.func121,Tryz.ntmps121;go_wp2_with (go_at_call 123;refine(zH _ _ _ _ (by first|(rw[Z.out.1];omega)|(rw[Z.out.2];omega)) (by omega)).mono ?_;rintro e w1 ⟨rfl,rfl⟩)
    go_ret2
    exact⟨rfl,rfl⟩
  ·have b2:((s[2].toNat:Int) != 58)=true:=by simp;omega
   clear hn h2 h5;go_enter Tryz.func121,Tryz.ntmps121;go_wp2
   go_ret2
   exact⟨rfl,rfl⟩
 ·have n5:((s.size:Int) != 5)=true:=by simp;omega
  clear hn h5;go_enter Tryz.func121,Tryz.ntmps121;go_wp2
  go_ret2
  exact⟨rfl,rfl⟩
theorem xI(s:ByteArray)(w:World)(h:Txt.fits s.data.toList xJ=true) :
 Calls Tryz.prog 121 #[.string s] w fun e w'=>e=.returned (.tuple #[.int .i64 (vN s),.int .i64 (vO s)])∧w=w':=by
 obtain⟨hl,q2,h1,h2⟩:=(Q8 _).1 h;rw[qe] at hl h2;rw[← ext_list] at h1 h2;have E:Hid (vO s=if uK s=true then 0 else 5):=by unfold Hid vO;rw[if_pos h]
 have V:Hid (vN s=if uK s=true then 60 * YR s+YQ s else 0):=by unfold Hid vN;rw[if_pos h]
 have l2:2 < s.size:=by omega
 rw[Yl s 2 l2] at q2;have n5:((s.size:Int) != 5)=false:=by rw[hl];rfl
 have b2:((s[2].toNat:Int) != 58)=false:=by rw[q2];rfl
 have z1:(s.extract 0 2).size=2:=by rw[ByteArray.size_extract];omega
 have z2:(s.extract 3 s.size).size=2:=by rw[ByteArray.size_extract];omega
 have m1:=jj _ 2 (by omega) h1;have m2:=jj _ 2 (show(s.extract 3 s.size).size≤2 by omega) h2;obtain⟨g1,v1⟩:=xk _ 2 z1;obtain⟨g2,v2⟩:=xk _ 2 z2;have d1:Jl (s.extract 0 2) 2 2=true:=g1.trans h1;have d2:Jl (s.extract 3 s.size) 2 2=true:=g2.trans h2;have N1:Qf (s.extract 0 2) 2 2=YR s:=v1 h1;have N2:Qf (s.extract 3 s.size) 2 2=YQ s:=v2 h2;have Z:Hid ((s.extract 0 2).size=2∧(s.extract 3 s.size).size=2):=⟨z1,z2⟩;have m3:0≤Qf (s.extract 0 2) 2 2:=by rw[N1];exact m1.1
 have m4:0≤Qf (s.extract 3 s.size) 2 2:=by rw[N2];exact m2.1
 have m5:Qf (s.extract 0 2) 2 2≤99:=by rw[N1];unfold YR;omega
 have m6:Qf (s.extract 3 s.size) 2 2≤99:=by rw[N2];unfold YQ;omega
 have B:Hid (uK s=decide (Qf (s.extract 0 2) 2 2≤23∧Qf (s.extract 3 s.size) 2 2≤59)):=by unfold Hid uK;rw[N1,N2]
 have HN:=hid N1;have HM:=hid N2;have i2:2≤s.size:=by omega
 have i3:3≤s.size:=by omega
 have j2:(2:Int) < (s.size:Int):=by omega
 clear z1 z2 h1 h2 g1 g2 v1 v2 q2 h m1 m2 N1 N2 hl
 by_cases q1:Qf (s.extract 0 2) 2 2≤23
 ·by_cases q2:Qf (s.extract 3 s.size) 2 2≤59
  ·have hB:Hid (uK s=true):=by unfold Hid;rw[B.out];simp[q1,q2]
   go_enter Tryz.func121,Tryz.ntmps121;go_wp2_with (go_at_call 123;refine(zH _ _ _ _ (by first|(rw[Z.out.1];omega)|(rw[Z.out.2];omega)) (by omega)).mono ?_;rintro e w1 ⟨rfl,rfl⟩)
   go_ret2
   refine⟨?_,rfl⟩;rw[E.out,V.out,if_pos hB.out,if_pos hB.out,← HN.out,← HM.out];rfl
  ·have hB:Hid (uK s=false):=by unfold Hid;rw[B.out];simp;omega
   go_enter Tryz.func121,Tryz.ntmps121;go_wp2_with (go_at_call 123;refine(zH _ _ _ _ (by first|(rw[Z.out.1];omega)|(rw[Z.out.2];omega)) (by omega)).mono ?_;rintro e w1 ⟨rfl,rfl⟩)
   go_ret2
   exact⟨by rw[E.out,V.out,hB.out];rfl,rfl⟩
 ·have hB:Hid (uK s=false):=by unfold Hid;rw[B.out];simp;omega
  go_enter Tryz.func121,Tryz.ntmps121;go_wp2_with (go_at_call 123;refine(zH _ _ _ _ (by first|(rw[Z.out.1];omega)|(rw[Z.out.2];omega)) (by omega)).mono ?_;rintro e w1 ⟨rfl,rfl⟩)
  go_ret2
  exact⟨by rw[E.out,V.out,hB.out];rfl,rfl⟩
theorem ug(s:ByteArray)(w:World)(hs:s.size≤9223372036854775807) :
 Calls Tryz.prog 121 #[.string s] w fun e w'=>e=.returned (.tuple #[.int .i64 (vN s),.int .i64 (vO s)])∧w=w':=by
 cases h:Txt.fits s.data.toList xJ
 ·have:=kY s w hs h
  simpa [vN,vO,h] using this
 ·exact xI s w h
theorem xi(l:List UInt8)(a b:Nat):(⟨l.toArray⟩:ByteArray).extract a b=⟨((l.take b).drop a).toArray⟩:=by
 apply ByteArray.ext;simp[List.drop_take]
theorem QI(l:List UInt8)(c:UInt8)(w:World)(h:Lib.indexByte l c = -1) :
 Calls Tryz.prog 153 #[.string ⟨l.toArray⟩,.string ⟨#[c]⟩] w fun e w'=>e=.returned (.tuple #[.string ⟨l.toArray⟩,.string ⟨#[]⟩,.bool false])∧∃n,w'=w.drewN n:=by
 have H:=hid h;clear h;go_enter Tryz.func153,Tryz.ntmps153;go_wp2_with (go_at_call 169;refine(Tryz.stringslite_Index_one _ _ _).mono ?_;rintro e w' ⟨rfl,rfl⟩;rw[show Lib.indexByte _ _=_ from H.out])
 go_ret3
 exact⟨rfl,0,rfl⟩
theorem QH(l:List UInt8)(c:UInt8)(k:Nat)(w:World)(hl:l.length≤9223372036854775807)(h:Lib.indexByte l c=k)(hk:k < l.length) :
 Calls Tryz.prog 153 #[.string ⟨l.toArray⟩,.string ⟨#[c]⟩] w fun e w'=>e=.returned (.tuple #[.string ⟨(l.take k).toArray⟩,.string ⟨(l.drop (k+1)).toArray⟩,.bool true])∧∃n,w'=w.drewN n:=by
 have H:=hid h;clear h;have c1:(0:Int)≤↑k:=by omega
 have c2:(↑k:Int)≤↑l.length:=by omega
 have c3:(0:Int)≤↑k+1:=by omega
 have c4:(↑k+1:Int)≤↑l.length:=by omega
 go_enter Tryz.func153,Tryz.ntmps153;go_wp2_with (go_at_call 169;refine(Tryz.stringslite_Index_one _ _ _).mono ?_;rintro e w' ⟨rfl,rfl⟩;rw[show Lib.indexByte _ _=_ from H.out])
 go_quiet (fail)
 go_wp2
 go_ret3
 refine⟨?_,nq,rfl⟩;rw[xi,xi,List.drop_zero,List.take_length];rfl
theorem Jg(l:List UInt8)(c:UInt8)(w:World)(h:Lib.indexByte l c = -1) :
 Calls Tryz.prog 124 #[.string ⟨l.toArray⟩,.string ⟨#[c]⟩] w fun e w'=>e=.returned (.tuple #[.string ⟨l.toArray⟩,.string ⟨#[]⟩,.bool false])∧∃n,w'=w.drewN n:=by
 have H:=hid h;clear h;go_enter Tryz.func124,Tryz.ntmps124;go_wp2_with (go_at_call 153;refine(QI _ _ _ H.out).mono ?_;rintro e w' ⟨rfl,n,rfl⟩)
 go_ret3
 exact⟨rfl,n,rfl⟩
theorem Jf(l:List UInt8)(c:UInt8)(k:Nat)(w:World)(hl:l.length≤9223372036854775807)(h:Lib.indexByte l c=k)(hk:k < l.length) :
 Calls Tryz.prog 124 #[.string ⟨l.toArray⟩,.string ⟨#[c]⟩] w fun e w'=>e=.returned (.tuple #[.string ⟨(l.take k).toArray⟩,.string ⟨(l.drop (k+1)).toArray⟩,.bool true])∧∃n,w'=w.drewN n:=by
 have H:=hid h;clear h;go_enter Tryz.func124,Tryz.ntmps124;go_wp2_with (go_at_call 153;refine(QH _ _ _ _ hl H.out hk).mono ?_;rintro e w' ⟨rfl,n,rfl⟩)
 go_ret3
 exact⟨rfl,n,rfl⟩
theorem JM(s : ByteArray)(w:World)(hs:s.size≤9223372036854775807) :
 Calls Tryz.prog 114 #[.string s] w fun e w'=>e=.returned (.tuple #[.int .i64 (Txt.duV s.data.toList),.int .i64 (Txt.duE s.data.toList)])∧Below w.heap.size w w':=by
 by_cases hz:s=⟨#[45,48,58,48,48]⟩
 ·subst hz;go_enter Tryz.func114,Tryz.ntmps114;go_wp2
  go_ret2
  exact⟨by rfl,Below.refl _ _⟩
 ·have Z : Hid (s.data.toList≠[45,48,58,48,48]):=fun q=>hz (ByteArray.ext (Array.toList_inj.1 q));have hb:(s.toList==[45,48,58,48,48])=false:=(by rw[Lib.toList_data];exact beq_eq_false_iff_ne.2 Z.out);clear hz;go_enter Tryz.func114,Tryz.ntmps114;go_wp2_with fail;refine(Tryz.strings_TrimPrefix _ _ _).mono ?_;rintro e w' ⟨rfl,rfl⟩;go_wp2_with fail
  show Calls _ _ #[.string ⟨(Txt.duR s.data.toList).toArray⟩,_] _ _
  obtain⟨r,hr⟩:∃r,r=Txt.duR s.data.toList:=⟨_,rfl⟩
  have hrl:r.length≤9223372036854775807:=by
   rw[hr];unfold Txt.duR Lib.trimPrefix;split<;>simp<;>omega
  rw[← hr];have R:=hid hr;clear hr;rcases Txt.ix_cases r 58 with h|⟨k,h,hk⟩
  ·have E:Hid (Txt.duB s.data.toList=false):=Txt.duB_none _ (by rw[← R.out];exact h);have H:=hid h;clear h;refine(Jg _ _ _ H.out).mono ?_;rintro e w' ⟨rfl,n,rfl⟩;go_wp2
   go_ret2
   refine⟨?_,qN (Below.refl _ _) n⟩;unfold Txt.duV Txt.duE;rw[E.out];rfl
  ·have E := Txt.duB_iff s.data.toList k (by rw[← R.out];exact h);rw[← R.out] at E;have H:=hid h;have HE:=hid E;clear h E;refine(Jf _ _ _ _ hrl H.out hk).mono ?_;rintro e w' ⟨rfl,n,rfl⟩;have B:=qN (Below.refl w'.heap.size w') n;generalize w'.drewN n=w1 at *;obtain⟨hh,hhh⟩:∃hh,hh=r.take k:=⟨_,rfl⟩;obtain⟨mm,hmm⟩:∃mm,mm=r.drop (k+1):=⟨_,rfl⟩;obtain rfl:k=hh.length:=by rw[hhh];simp;omega
   have hml:mm.length≤9223372036854775807:=(by rw[hmm];simp;omega);have HK:Hid (hh.length < r.length):=hk;rw[← hhh,← hmm]
   have HE2:Hid (Txt.duB s.data.toList=true↔s.data.toList≠[45,48,58,48,48]∧1≤hh.length∧hh.length≤11∧Txt.fits mm [48,48]=true∧Txt.allD hh=true∧Txt.plainL hh=true):=by
    have:=HE.out;rw[← hhh,← hmm] at this;exact this
   have HN:Hid (Txt.duB s.data.toList=true→Txt.duH s.data.toList=hh∧Txt.duM s.data.toList=mm):=by
    intro q;have f:=((Txt.fits2 mm).1 (HE2.out.1 q).2.2.2.1).1
    have:Txt.duK s.data.toList=hh.length:=by
     unfold Txt.duK;rw[← R.out];have:=congrArg List.length hmm;simp at this;omega
    unfold Txt.duH Txt.duM;rw[this,← R.out];exact⟨hhh.symm,hmm.symm⟩
   clear hhh hmm HE hk
   by_cases c1:1≤hh.length
   ·by_cases c2 : hh.length≤11
    ·cases c3 : Txt.fits mm [48,48]
     ·have C3:=hid c3;clear c3;go_wp2_with fail;refine(yX _ _ [48,48] false _ (by rfl) (by exact hml) (by decide) C3.out).mono ?_;rintro e w2 ⟨rfl,hb2⟩;go_wp2_with fail
      go_ret2
      refine⟨?_,B.trans (hb2.mono B.size)⟩;have:Txt.duB s.data.toList=false:=(by rw[Bool.eq_false_iff];intro q;rw[(HE2.out.1 q).2.2.2.1] at C3;exact absurd C3.out (by decide));unfold Txt.duV Txt.duE;rw[this];rfl
     ·have C3 := hid c3;clear c3;go_wp2_with fail;refine(yX _ _ [48,48] true _ (by rfl) (by exact hml) (by decide) C3.out).mono ?_;rintro e w2 ⟨rfl,hb2⟩;go_wp2_with fail
      replace B:=B.trans (hb2.mono B.size)
      clear hb2;refine(Tryz.strings_Repeat ⟨#[48]⟩ hh.length _ (by omega) (by simp[ByteArray.size];omega)).mono ?_;rw[show(⟨#[48]⟩:ByteArray).data.toList=[48] from rfl,Txt.repeatL_one];obtain⟨zz,hzz⟩:∃zz,zz=List.replicate hh.length (48:UInt8):=⟨_,rfl⟩;have hzl:zz.length≤100:=(by rw[hzz];simp;omega);have HF:Hid (Txt.fits hh zz=Txt.allD hh):=(by unfold Hid;rw[hzz];exact Txt.fits_zeros hh);rw[← hzz];clear hzz;rintro e w3 ⟨rfl,hb3⟩
      replace B:=B.trans (hb3.mono B.size)
      clear hb3;go_wp2_with fail;refine(yX _ _ zz (Txt.allD hh) _ (by rfl) (by show hh.length≤_;omega) (by exact hzl) HF.out).mono ?_;cases c4:Txt.allD hh
      ·have C4:=hid c4;clear c4;rintro e w4 ⟨rfl,hb4⟩
       replace B:=B.trans (hb4.mono B.size)
       clear hb4;go_wp2
       go_ret2
       refine⟨?_,B⟩;have:Txt.duB s.data.toList=false:=(by rw[Bool.eq_false_iff];intro q;rw[(HE2.out.1 q).2.2.2.2.1] at C4;exact absurd C4.out (by decide));unfold Txt.duV Txt.duE;rw[this];rfl
      ·have C4 := hid c4;clear c4;rintro e w4 ⟨rfl,hb4⟩
       replace B:=B.trans (hb4.mono B.size)
       clear hb4;have hpl:Hid (Txt.plainL hh=true↔¬((hh.getD 0 0).toNat=48∧1 < hh.length)):=Txt.plain_iff hh c1
       have hg0:(⟨hh.toArray⟩:ByteArray)[0]'c1=hh.getD 0 0:=by
        rw[List.getD_eq_getElem?_getD,List.getElem?_eq_getElem c1];rfl
       obtain⟨c,hc⟩:∃c,c=hh.getD 0 0:=⟨_,rfl⟩;rw[← hc] at hg0 hpl;clear hc;have i0:(0:Int) < (hh.length:Int):=by omega
       by_cases p:c.toNat=48∧1 < hh.length
       ·have p1:((c.toNat:Int)==48)=true:=by simp;omega
        have p2:(1:Int) < (hh.length:Int):=(by omega);have P:=hid p;clear p;go_wp2_with fail
        go_ret2
        refine⟨?_,B⟩;have:Txt.duB s.data.toList=false:=(by rw[Bool.eq_false_iff];intro q;exact hpl.out.1 (HE2.out.1 q).2.2.2.2.2 P.out);unfold Txt.duV Txt.duE;rw[this];rfl
       ·have P : Hid (Txt.duB s.data.toList=true):=HE2.out.2 ⟨Z.out,c1,c2,C3.out,C4.out,hpl.out.2 p⟩
        have p1:((c.toNat:Int)==48)=true∧¬(1:Int) < (hh.length:Int)∨((c.toNat:Int)==48)=false:=by
         by_cases q:c.toNat=48
         ·exact .inl ⟨by simp;omega,by omega⟩
         ·exact .inr (by simp;omega)
        clear p;have hq:=C4.out;have hm:=((Txt.fits2 mm).1 C3.out);have q1:=jj ⟨hh.toArray⟩ 11 (by exact c2) hq;have q2:=jj ⟨mm.toArray⟩ 2 (by show mm.length≤2;omega) hm.2;have D1:=fun w=>ji ⟨hh.toArray⟩ w (by exact c2) hq;have D2:=fun w=>ji ⟨mm.toArray⟩ w (by show mm.length≤11;omega) hm.2;have e1:zx ⟨hh.toArray⟩=Txt.num (Txt.duH s.data.toList):=(by rw[(HN.out P.out).1];rfl);have e2:zx ⟨mm.toArray⟩=Txt.num (Txt.duM s.data.toList):=(by rw[(HN.out P.out).2];rfl);rw[e1] at q1 D1;rw[e2] at q2 D2;have G:Hid (Txt.duN s.data.toList=60 * Txt.num (Txt.duH s.data.toList)+Txt.num (Txt.duM s.data.toList)):=rfl;have V:Hid (Txt.duE s.data.toList=(if Txt.num (Txt.duM s.data.toList)≤59∧Txt.duN s.data.toList≤1099511627776 then 0 else 5)):=(by unfold Hid Txt.duE;rw[if_pos P.out]);have C1:=hid D1;have C2:=hid D2;clear hq hm e1 e2 D1 D2;generalize Txt.num (Txt.duH s.data.toList)=NH at *;generalize Txt.num (Txt.duM s.data.toList)=NM at *;obtain⟨q3,q4⟩:=q1;obtain⟨q5,q6⟩:=q2;have q7:NH≤100000000000:=(by omega);have q8:NM≤100:=(by omega);clear q4 q6;rcases p1 with ⟨p1,p2⟩|p1
        all_goals
         go_wp2_with fail;refine(C1.out _).mono ?_;rintro e w5 ⟨rfl,rfl⟩;go_wp2_with fail;refine(C2.out _).mono ?_;rintro e w5 ⟨rfl,rfl⟩;go_wp2_with fail;refine(C2.out _).mono ?_;rintro e w5 ⟨rfl,rfl⟩
         by_cases t1:NM≤59
         ·by_cases t2:NH * 60+NM≤1099511627776
          ·have W:Hid (Txt.duE s.data.toList=0):=by unfold Hid;rw[V.out,if_pos ⟨t1,by rw[G.out];omega⟩]
           have W2:Hid (Txt.duV s.data.toList=if Lib.hasPrefix s.data.toList [45]=true then - (NH * 60+NM) else NH * 60+NM):=by
            unfold Hid Txt.duV;rw[if_pos W.out,G.out,Int.mul_comm NH 60];rfl
           cases c5:Lib.hasPrefix s.data.toList [45]
           ·have C5:=hid c5;clear c5;go_wp2_with (go_at_call 116;refine(Tryz.strings_HasPrefix _ _ _).mono ?_;rw[show Lib.hasPrefix s.data.toList _=false from C5.out];rintro e w6 ⟨rfl,rfl⟩)
            go_ret2
            refine⟨?_,B⟩;rw[W.out,W2.out,C5.out];rfl
           ·have C5:=hid c5;clear c5;go_wp2_with (go_at_call 116;refine(Tryz.strings_HasPrefix _ _ _).mono ?_;rw[show Lib.hasPrefix s.data.toList _=true from C5.out];rintro e w6 ⟨rfl,rfl⟩)
            go_ret2
            refine⟨?_,B⟩;rw[W.out,W2.out,C5.out];rfl
          ·have W:Hid (Txt.duE s.data.toList=5):=by unfold Hid;rw[V.out,if_neg (by rw[G.out];omega)]
           have W2:Hid (Txt.duV s.data.toList=0):=(by unfold Hid Txt.duV;rw[if_neg (by rw[W.out];decide)]);go_wp2
           go_ret2
           exact⟨by rw[W.out,W2.out];rfl,B⟩
         ·have W:Hid (Txt.duE s.data.toList=5):=by unfold Hid;rw[V.out,if_neg (by omega)]
          have W2:Hid (Txt.duV s.data.toList=0):=(by unfold Hid Txt.duV;rw[if_neg (by rw[W.out];decide)]);go_wp2
          go_ret2
          exact⟨by rw[W.out,W2.out];rfl,B⟩
    ·go_wp2
     go_ret2
     refine⟨?_,B⟩;have:Txt.duB s.data.toList=false:=(by rw[Bool.eq_false_iff];intro q;exact c2 (HE2.out.1 q).2.2.1);unfold Txt.duV Txt.duE;rw[this];rfl
   ·go_wp2
    go_ret2
    refine⟨?_,B⟩;have:Txt.duB s.data.toList=false:=(by rw[Bool.eq_false_iff];intro q;exact c1 (HE2.out.1 q).2.1);unfold Txt.duV Txt.duE;rw[this];rfl
theorem YO(l:List UInt8)(w:World)(h:1≤l.length)(hl:l.length≤11) :
 Calls Tryz.prog 152 #[.string ⟨l.toArray⟩] w fun e w'=>e=.returned (.bool (Txt.plainL l))∧w=w':=by
 have hpl:=Txt.plain_iff l h
 have hg0:(⟨l.toArray⟩:ByteArray)[0]'h=l.getD 0 0:=by
  rw[List.getD_eq_getElem?_getD,List.getElem?_eq_getElem h];rfl
 obtain⟨c,hc⟩:∃c,c=l.getD 0 0:=⟨_,rfl⟩;rw[← hc] at hg0 hpl;clear hc;have i0:(0:Int) < (l.length:Int):=by omega
 by_cases h1:l.length=1
 ·have b1:((l.length:Int)==1)=true:=by simp;omega
  have HP:Hid (Txt.plainL l=true):=hpl.2 (by omega);clear hpl h1;go_enter Tryz.func152,Tryz.ntmps152;go_wp2;go_ret;exact⟨qS HP.out.symm,rfl⟩
 ·have b1:((l.length:Int)==1)=false:=by simp;omega
  have b2:(1:Int) < (l.length:Int):=by omega
  by_cases h2:c.toNat=48
  ·have b3:((c.toNat:Int) != 48)=false:=by simp;omega
   have HP:Hid (Txt.plainL l=false):=(by unfold Hid;rw[Bool.eq_false_iff];intro q;exact hpl.1 q ⟨h2,by omega⟩);clear hpl h1 h2;go_enter Tryz.func152,Tryz.ntmps152;go_wp2;go_ret;exact⟨qS HP.out.symm,rfl⟩
  ·have b3:((c.toNat:Int) != 48)=true:=by simp;omega
   have HP:Hid (Txt.plainL l=true):=hpl.2 (fun q=>h2 q.1);clear hpl h1 h2;go_enter Tryz.func152,Tryz.ntmps152;go_wp2;go_ret;exact⟨qS HP.out.symm,rfl⟩
theorem and4(a b c x:Bool)(h:true=(a && b && c && !x)):a=true∧b=true:=by
 cases a<;>cases b<;>simp at h ⊢
theorem QL(l:List UInt8)(h:Txt.duB l=false):Txt.duV l=0∧Txt.duE l=1:=by
 unfold Txt.duV Txt.duE;rw[h];simp
theorem vf(l : List UInt8)(w:World)(hs:l.length≤9223372036854775807) :
 Calls Tryz.prog 122 #[.string ⟨l.toArray⟩] w fun e w'=>e=.returned (.tuple #[.int .i64 (Txt.duV l),.int .i64 (Txt.duE l)])∧w=w':=by
 have start:l=[]∨(∃h:1≤l.length,∃c:UInt8,(⟨l.toArray⟩:ByteArray)[0]'h=c∧((c.toNat:Int)==45)=false∧Txt.duR l=l∧Txt.duNeg l=false)∨
  (∃h:1≤l.length,∃c:UInt8,(⟨l.toArray⟩:ByteArray)[0]'h=c∧((c.toNat:Int)==45)=true∧(⟨l.toArray⟩:ByteArray).extract 1 l.length=⟨(Txt.duR l).toArray⟩∧Txt.duNeg l=true):=by
  cases l with
  | nil=>exact .inl rfl
  | cons c t =>
    right
    by_cases hc:c=45
    ·subst hc;refine .inr ⟨by simp,45,rfl,rfl,?_,(Txt.dash_iff _).2 ⟨t,rfl⟩⟩;rw[Txt.duR_neg,xi,List.take_length];rfl
    ·have hn:Txt.duNeg (c :: t)=false:=by
      rw[Bool.eq_false_iff];intro q;obtain⟨t',h'⟩:=(Txt.dash_iff _).1 q;exact hc (List.cons.inj h').1
     have hb:((c.toNat:Int)==45)=false:=by
      have:c.toNat≠45:=fun q=>hc (UInt8.toNat_inj.1 q);simp;omega
     exact .inl ⟨by simp,c,rfl,hb,Txt.duR_pos _ hn,hn⟩
 have S:=hid start;clear start;go_enter Tryz.func122,Tryz.ntmps122;go_upto_region 1 with (fail)
 go_cut [4] (fun v4 wx=>v4=.bool (Txt.duNeg l)∧wx=w)
 case first =>
  rcases S.out with rfl|⟨h1,c,hg0,hc,hr,hn⟩|⟨h1,c,hg0,hc,hr,hn⟩
  ·go_wp2
   go_meet
   exact⟨rfl,rfl⟩
  ·have i0:(0:Int) < (l.length:Int):=by omega
   have N:=hid hn;clear hn hr;go_wp2
   go_meet
   exact⟨by rw[N.out],rfl⟩
  ·have i0:(0:Int) < (l.length:Int):=by omega
   have N:=hid hn;clear hn hr;go_wp2
   go_meet
   exact⟨by rw[N.out],rfl⟩
 case rest =>
  obtain⟨rfl,rfl⟩:=hcut
  go_upto_if 19 with (fail)
  go_cut [0,4] (fun v0 v4 wx=>v0=.string ⟨(Txt.duR l).toArray⟩∧v4=.bool (Txt.duNeg l)∧wx=wc)
  case first =>
   rcases S.out with rfl|⟨h1,c,hg0,hc,hr,hn⟩|⟨h1,c,hg0,hc,hr,hn⟩
   ·rw [show Txt.duNeg []=false from rfl];go_wp2
    go_meet
    exact⟨rfl,rfl,rfl⟩
   ·rw [hn];have HR:=hid hr;have HN:=hid hn;clear hr hn hc hg0;go_wp2
    go_meet
    exact⟨by rw[HR.out],by rw[HN.out],rfl⟩
   ·rw [hn];have HR:=hid hr;have HN:=hid hn;have i1:(1:Int)≤(l.length:Int):=(by omega);clear hr hn hc hg0;go_wp2
    go_meet
    exact⟨by rw[HR.out],by rw[HN.out],rfl⟩
  case rest =>
   obtain⟨rfl,rfl,rfl⟩:=hcut;have hB:Hid (Txt.duB l=decide (4≤(Txt.duR l).length∧(Txt.duR l).length≤14∧(Txt.duR l).getD ((Txt.duR l).length - 3) 0=58∧Txt.allD ((Txt.duR l).take ((Txt.duR l).length - 3))=true∧Txt.allD ((Txt.duR l).drop ((Txt.duR l).length - 3+1))=true∧Txt.plainL ((Txt.duR l).take ((Txt.duR l).length - 3))=true∧¬(Txt.duNeg l=true∧Txt.num ((Txt.duR l).take ((Txt.duR l).length - 3))=0∧Txt.num ((Txt.duR l).drop ((Txt.duR l).length - 3+1))=0))):=rfl;have hN:Hid (Txt.duN l=60 * Txt.num ((Txt.duR l).take ((Txt.duR l).length - 3))+Txt.num ((Txt.duR l).drop ((Txt.duR l).length - 3+1))):=rfl;have hE:Hid (Txt.duE l=if Txt.duB l=true then (if Txt.num ((Txt.duR l).drop ((Txt.duR l).length - 3+1))≤59∧Txt.duN l≤1099511627776 then 0 else 5) else 1):=rfl;have hV:Hid (Txt.duV l=if Txt.duE l=0 then (if Txt.duNeg l=true then - Txt.duN l else Txt.duN l) else 0):=rfl;have hrl:(Txt.duR l).length≤9223372036854775807:=Nat.le_trans (Txt.duR_len l) hs;generalize Txt.duR l=r at *;generalize Txt.duNeg l=neg at *
   by_cases h4:4≤r.length
   ·have hg : (⟨r.toArray⟩:ByteArray)[r.length - 3]'(by show r.length - 3 < r.length;omega)=r.getD (r.length - 3) 0:=by
     rw[List.getD_eq_getElem?_getD,List.getElem?_eq_getElem (by omega)];rfl
    obtain⟨hh,hhh⟩:∃hh,hh=r.take (r.length - 3):=⟨_,rfl⟩;obtain⟨mm,hmm⟩:∃mm,mm=r.drop (r.length - 3+1):=⟨_,rfl⟩;obtain⟨c,hcc⟩:∃c,c=r.getD (r.length - 3) 0:=⟨_,rfl⟩;have x1:(⟨r.toArray⟩:ByteArray).extract 0 (r.length - 3)=⟨hh.toArray⟩:=(by rw[xi,hhh];rfl);have x2:(⟨r.toArray⟩:ByteArray).extract (r.length - 3+1) r.length=⟨mm.toArray⟩:=(by rw[xi,hmm,List.take_length]);have l1:hh.length=r.length - 3:=(by rw[hhh];simp);have l2:mm.length=2:=by rw[hmm];simp;omega
    have hB2:Hid (Txt.duB l=decide (r.length≤14∧c=58∧Txt.allD hh=true∧Txt.allD mm=true∧Txt.plainL hh=true∧¬(neg=true∧Txt.num hh=0∧Txt.num mm=0))):=by
     unfold Hid;rw[hB.out,← hhh,← hmm,← hcc];simp[h4]
    have hN2:Hid (Txt.duN l=60 * Txt.num hh+Txt.num mm):=(by unfold Hid;rw[hN.out,← hhh,← hmm]);have hE2:Hid (Txt.duE l=if Txt.duB l=true then (if Txt.num mm≤59∧Txt.duN l≤1099511627776 then 0 else 5) else 1):=(by unfold Hid;rw[hE.out,← hmm]);rw[← hcc] at hg;clear hhh hmm hcc hB hN hE S;have i1:¬(r.length:Int) - 3 < 1:=(by omega);have i2:(r.length:Int) - 3 < (r.length:Int):=(by omega);have i3:(0:Int)≤(r.length:Int) - 3:=(by omega);have i4:(0:Int)≤(r.length:Int) - 3+1:=(by omega);have i5:(r.length:Int) - 3+1≤(r.length:Int):=(by omega);have i6:(r.length:Int) - 3≤(r.length:Int):=(by omega);have nn:Hid (((r.length:Int) - 3).toNat=r.length - 3∧((r.length:Int) - 3+1).toNat=r.length - 3+1):=⟨by omega,by omega⟩
    by_cases h58:c=58
    ·have b58 : ((c.toNat:Int) != 58)=false:=by rw[h58];rfl
     have D1:=fun w=>kL ⟨hh.toArray⟩ 1 11 w (by show hh.length≤_;omega) (by omega);have D2:=fun w=>kL ⟨mm.toArray⟩ 2 2 w (by show mm.length≤_;omega) (by omega);rw[show(⟨hh.toArray⟩:ByteArray).data.toList=hh from rfl] at D1;rw[show(⟨mm.toArray⟩:ByteArray).data.toList=mm from rfl] at D2
     have e1:digB hh 1 11=(decide (r.length≤14) && Txt.allD hh):=by
      unfold digB;rw[l1,Bool.eq_iff_iff,Bool.and_eq_true,decide_eq_true_eq,decide_eq_true_eq];exact⟨fun⟨a1,a2,a3⟩=>⟨by omega,a3⟩,fun⟨a1,a3⟩=>⟨by omega,by omega,a3⟩⟩
     have e2:digB mm 2 2=Txt.allD mm:=by
      unfold digB;rw[l2];cases Txt.allD mm<;>simp
     have v1:r.length≤14→Txt.allD hh=true→kw hh 1 11=Txt.num hh:=by
      intro q1 q2;unfold kw;rw[if_pos ⟨by rw[l1];omega,by rw[l1];omega,q2⟩]
     have v2:Txt.allD mm=true→kw mm 2 2=Txt.num mm:=by
      intro q2;unfold kw;rw[if_pos ⟨by rw[l2];omega,by rw[l2];omega,q2⟩]
     rw[e1] at D1;rw[e2] at D2;obtain⟨d1,hd1⟩:∃d1,d1=(decide (r.length≤14) && Txt.allD hh):=⟨_,rfl⟩;obtain⟨d2,hd2⟩:∃d2,d2=Txt.allD mm:=⟨_,rfl⟩;obtain⟨d3,hd3⟩:∃d3,d3=Txt.plainL hh:=⟨_,rfl⟩;obtain⟨z1,hz1⟩:∃z1,z1=kw hh 1 11:=⟨_,rfl⟩;obtain⟨z2,hz2⟩:∃z2,z2=kw mm 2 2:=⟨_,rfl⟩;rw[← hd1,← hz1] at D1;rw[← hd2,← hz2] at D2
     have K1:Hid (d1=true→r.length≤14∧Txt.allD hh=true∧z1=Txt.num hh∧0≤z1∧z1≤100000000000):=by
      intro q;rw[hd1,Bool.and_eq_true,decide_eq_true_eq] at q;have w1:=v1 q.1 q.2;have w2:=Txt.num_bd hh q.2;have w3:10 ^ hh.length≤10 ^ 11:=Nat.pow_le_pow_right (by omega) (by omega);exact⟨q.1,q.2,hz1.trans w1,by rw[hz1,w1];exact w2.1,by rw[hz1,w1];omega⟩
     have K2:Hid (d2=true→z2=Txt.num mm∧0≤z2∧z2≤100):=by
      intro q;have w1:=v2 (hd2.symm.trans q);have w2:=Txt.num_bd mm (hd2.symm.trans q);rw[l2] at w2;exact⟨hz2.trans w1,by rw[hz2,w1];exact w2.1,by rw[hz2,w1];omega⟩
     have KB : Hid (Txt.duB l=(d1 && d2 && d3 && !(neg && (z1==0) && (z2==0)))):=by
      unfold Hid;rw[hB2.out,hd1,hd2,hd3]
      by_cases a1:r.length≤14
      ·cases a2 : Txt.allD hh
       ·simp[a1]
       ·cases a3:Txt.allD mm
        ·simp
        ·have w1:=v1 a1 a2;have w2:=v2 a3;rw[hz1,hz2,w1,w2];cases a4:Txt.plainL hh
         ·simp
         ·cases neg
          ·simp[a1,h58]
          ·simp only [a1,h58,Bool.true_and,decide_true,Bool.and_true,true_and];rw[Bool.eq_iff_iff];simp
      ·simp[a1]
     clear hd1 hd2 hz1 hz2;have P1:=fun w (q:r.length≤14)=>YO hh w (by omega) (by omega);rw[← hd3] at P1;clear hd3;have C1:=hid D1;have C2:=hid D2;have CP:=hid P1;have L1:=hid l1;have L2:=hid l2;have H58:=hid h58;clear D1 D2 e1 e2 v1 v2 l1 l2 h58 P1;obtain⟨n1,n2⟩:=nn.out;go_wp2_with fail;refine(C1.out _).mono ?_;rintro e w1 ⟨rfl,rfl⟩;go_wp2_with fail;refine(C2.out _).mono ?_;rintro e w1 ⟨rfl,rfl⟩;go_upto_region 9 with (fail)
     go_cut [71] (fun v wx=>v=.bool (!Txt.duB l)∧wx=wc)
     case first =>
      cases d1
      ·go_wp2
       go_meet
       exact⟨by rw[KB.out];rfl,rfl⟩
      ·cases d2
       ·go_wp2
        go_meet
        exact⟨by rw[KB.out];rfl,rfl⟩
       ·obtain ⟨a1,a2,a3,a4,a5⟩:=K1.out rfl;have A1:=hid a1;clear a2 a3 a1;cases d3
        ·go_wp2_with (go_at_call 152;refine(CP.out _ A1.out).mono ?_;rintro e w2 ⟨rfl,rfl⟩)
         go_meet
         exact⟨by rw[KB.out];rfl,rfl⟩
        ·cases neg
         ·go_wp2_with (go_at_call 152;refine(CP.out _ A1.out).mono ?_;rintro e w2 ⟨rfl,rfl⟩)
          go_meet
          exact⟨by rw[KB.out];rfl,rfl⟩
         ·cases y1:(z1==0)
          ·have Y1:=hid y1;go_wp2_with (go_at_call 152;refine(CP.out _ A1.out).mono ?_;rintro e w2 ⟨rfl,rfl⟩)
           go_meet
           exact⟨by rw[KB.out,Y1.out];rfl,rfl⟩
          ·cases y2:(z2==0)
           all_goals
            have Y1:=hid y1;have Y2:=hid y2;go_wp2_with (go_at_call 152;refine(CP.out _ A1.out).mono ?_;rintro e w2 ⟨rfl,rfl⟩)
            go_meet
            exact⟨by rw[KB.out,Y1.out,Y2.out];rfl,rfl⟩
     case rest =>
      obtain⟨rfl,rfl⟩:=hcut;cases bb:Txt.duB l
      ·have e:=QL l bb;have E:=hid e;clear e bb;go_wp2
       go_ret2
       exact⟨by rw[E.out.1,E.out.2];rfl,rfl⟩
      ·have kb:=KB.out;rw[bb] at kb;obtain⟨g1,g2⟩:=and4 _ _ _ _ kb;obtain⟨a1,a2,a3,a4,a5⟩:=K1.out g1;obtain⟨b1,b2,b3⟩:=K2.out g2;have hE3:Hid (Txt.duE l=if z2≤59∧Txt.duN l≤1099511627776 then 0 else 5):=(by unfold Hid;rw[hE2.out,if_pos bb,← b1]);have hN3:Hid (Txt.duN l=60 * z1+z2):=(by unfold Hid;rw[hN2.out,← a3,← b1]);clear kb g1 g2 a1 a2 a3 b1 KB K1 K2 bb
       by_cases t1:z2≤59
       ·by_cases t2:60 * z1+z2≤1099511627776
        ·have W:Hid (Txt.duE l=0):=by unfold Hid;rw[hE3.out,hN3.out,if_pos ⟨t1,t2⟩]
         cases neg
         ·have W2:Hid (Txt.duV l=60 * z1+z2):=by unfold Hid;rw[hV.out,if_pos W.out,hN3.out];rfl
          go_wp2
          go_ret2
          exact⟨by rw[W.out,W2.out];rfl,rfl⟩
         ·have W2:Hid (Txt.duV l = - (60 * z1+z2)):=by unfold Hid;rw[hV.out,if_pos W.out,hN3.out];rfl
          go_wp2
          go_ret2
          exact⟨by rw[W.out,W2.out];rfl,rfl⟩
        ·have W:Hid (Txt.duE l=5):=by unfold Hid;rw[hE3.out,hN3.out,if_neg (by omega)]
         have W2:Hid (Txt.duV l=0):=(by unfold Hid;rw[hV.out,W.out];rfl);go_wp2
         go_ret2
         exact⟨by rw[W.out,W2.out];rfl,rfl⟩
       ·have W:Hid (Txt.duE l=5):=by unfold Hid;rw[hE3.out,if_neg (by omega)]
        have W2:Hid (Txt.duV l=0):=(by unfold Hid;rw[hV.out,W.out];rfl);go_wp2
        go_ret2
        exact⟨by rw[W.out,W2.out];rfl,rfl⟩
    ·have b58:((c.toNat:Int) != 58)=true:=by
      have:c.toNat≠58:=fun q=>h58 (UInt8.toNat_inj.1 q);simp;omega
     have e:=QL l (by rw[hB2.out];simp[h58]);have E:=hid e;clear e h58;obtain⟨n1,n2⟩:=nn.out;go_wp2
     go_ret2
     exact⟨by rw[E.out.1,E.out.2];rfl,rfl⟩
   ·have e:=QL l (by rw[hB.out];simp;omega);have E:=hid e;clear e;go_wp2
    go_ret2
    exact⟨by rw[E.out.1,E.out.2];rfl,rfl⟩
end Go.Proofs.YtcejjdmnlejbaaaGreatDoor
