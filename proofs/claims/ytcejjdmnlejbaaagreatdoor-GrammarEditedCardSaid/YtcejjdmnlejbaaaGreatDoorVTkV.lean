import Derived.Test.YtcejjdmnlejbaaaGreatDoorVTkO
namespace Go.Proofs.YtcejjdmnlejbaaaGreatDoor
open Lib(hid)
set_option linter.unusedVariables false
set_option linter.unusedSimpArgs false
open Go.ChangeShapes Go.WideShapes Go.ChangeAt Go.RowKit
set_option maxHeartbeats 2000000
theorem Yr{w w1:World}(hb:Below (w.alloc (.cells #[.int .i64 0,.string ⟨#[]⟩,.int .i64 0,.int .i64 0] 68)).heap.size (w.alloc (.cells #[.int .i64 0,.string ⟨#[]⟩,.int .i64 0,.int .i64 0] 68)) w1) :
 w1.cell? ⟨w.heap.size,0,none⟩=some (.int .i64 0)∧w1.cell? ⟨w.heap.size,1,none⟩=some (.string ⟨#[]⟩)∧w1.cell? ⟨w.heap.size,2,none⟩=some (.int .i64 0)∧w1.cell? ⟨w.heap.size,3,none⟩=some (.int .i64 0)∧
 w1.frozen? ⟨w.heap.size,0,none⟩=false∧w1.frozen? ⟨w.heap.size,1,none⟩=false∧w1.frozen? ⟨w.heap.size,2,none⟩=false∧w1.frozen? ⟨w.heap.size,3,none⟩=false :=
 ⟨kN hb 0,kN hb 1,kN hb 2,kN hb 3,kM hb 0,kM hb 1,kM hb 2,kM hb 3⟩
theorem Uo(l:List UInt8):Lib.containsAny l [58,64]=(Tk.has l 58 || Tk.has l 64):=by
 unfold Lib.containsAny
 induction l with
 | nil=>rfl
 | cons c l ih =>
   have hg:=Lib.indexAny_ge [58,64] l;have e58:(c==58)=decide (c.toNat=58):=(vm c 58);have e64:(c==64)=decide (c.toNat=64):=vm c 64
   have hc:([58,64]:List UInt8).contains c=(decide (c.toNat=58) || decide (c.toNat=64)):=by
    rw[← e58,← e64];simp[List.contains_cons,List.elem_eq_contains];rfl
   unfold Lib.indexAny;rw[hc];have hh:∀k,Tk.has (c :: l) k=(decide (c.toNat=k) || Tk.has l k):=fun k=>rfl;rw[hh,hh];cases h1:decide (c.toNat=58) with
   | true=>simp
   | false =>
     cases h2:decide (c.toNat=64) with
     | true=>simp
     | false =>
       simp only[Bool.or_self,Bool.false_or,Bool.false_eq_true,if_false];rw[← ih]
       by_cases q:Lib.indexAny l [58,64] = -1
       ·rw[q];rfl
       ·rw [if_neg (by simpa using q)]
        congr 1
        apply propext;omega
theorem JE(l:List UInt8)(k:Nat)(c:UInt8)(hk:c.toNat=k):decide (0≤Lib.indexByte l c)=Tk.has l k:=by
 have h1:=Txt.ix_none l c;have h2:=Txt.ix_ge l c;unfold Tk.has;rw[Bool.eq_iff_iff,decide_eq_true_eq,List.any_eq_true];have h3:0≤Lib.indexByte l c↔¬∀x∈ l,x≠c:=by rw[← h1];omega
 rw[h3];constructor
 ·intro h
  by_cases q:∃x,x∈ l∧decide (x.toNat=k)=true
  ·exact q
  ·refine absurd (fun x hx e=>q ⟨x,hx,?_⟩) h;rw[e,hk];simp
 ·rintro⟨x,hx,e⟩ h;rw[decide_eq_true_eq] at e;exact h x hx (UInt8.toNat_inj.1 (by rw[e,hk]))
theorem V4(s:ByteArray)(b:Bool)(w:World)(hs:s.size≤33)(hw:∀x∈ s.data.toList,Tk.inW x=true)(h:(Tk.has s.data.toList 58 || Tk.has s.data.toList 64)=b) :
 Calls Tryz.prog 111 #[.string s,.string ⟨#[58,64]⟩] w fun e w'=>e=.returned (.bool b)∧Below w.heap.size w w':=by
 refine(Tryz.strings_ContainsAny_laid s ⟨#[58,64]⟩ w (by omega) (by decide) ?_ ?_).mono ?_
 ·intro j x hx;have:=hw x (List.mem_of_getElem? hx);unfold Tk.inW at this;rw[decide_eq_true_eq] at this;omega
 ·intro j x hx
  match j with
  | 0=>simp at hx;subst hx;decide
  | 1=>simp at hx;subst hx;decide
  | j+2=>simp at hx
 ·rintro e w' ⟨rfl,hb⟩;exact⟨qV ((Uo _).trans h),hb⟩
theorem UM(s:ByteArray)(b:Bool)(w:World)(h:Tk.has s.data.toList 58=b) :
 Calls Tryz.prog 113 #[.string s,.string ⟨#[58]⟩] w fun e w'=>e=.returned (.bool b)∧w=w':=by
 refine(Tryz.strings_Contains_one s 58 w).mono ?_;rintro e w' ⟨rfl,rfl⟩;exact⟨qV ((JE _ 58 58 rfl).trans h),rfl⟩
theorem u7(s:ByteArray)(c:UInt8)(k:Nat)(b:Bool)(w:World)(hs:s.size≤9223372036854775807)(hk:c.toNat=k)(h:Tk.has s.data.toList k=b) :
 Calls Tryz.prog 120 #[.string s,.int .u8 k] w fun e w'=>∃m:Int,e=.returned (.int .i64 m)∧w=w'∧decide (0≤m)=b:=by
 subst hk;refine(xK s c w hs).mono ?_;rintro e w' ⟨rfl,rfl⟩;exact⟨_,rfl,rfl,(JE _ _ c rfl).trans h⟩
theorem ug{s:ByteArray}(h0:0 < s.size)(h1:97≤s[0].toNat)(h2:s[0].toNat≤122):Tk.word s=if 33 < s.size∨Tk.has s.data.toList 58=true∨Tk.has s.data.toList 64=true then none else some ⟨1,s,0⟩:=by
 unfold Tk.word;rw[yo s 0 h0,if_pos ⟨h1,h2⟩]
theorem xB{s:ByteArray}(h0:0 < s.size)(h1:s[0].toNat=64):Tk.word s=if Qy (s.extract 1 s.size)=0 then some ⟨4,⟨#[]⟩,Qx (s.extract 1 s.size)⟩ else none:=by
 unfold Tk.word;rw[yo s 0 h0,if_neg (by omega),if_pos h1]
theorem uf{s:ByteArray}(h0:0 < s.size)(h1:¬ 97≤s[0].toNat)(h2:s[0].toNat≠64)(h3:Tk.has s.data.toList 58=true):Tk.word s=if Txt.duE s.data.toList=0 then some ⟨3,⟨#[]⟩,Txt.duV s.data.toList⟩ else none:=by
 unfold Tk.word;rw[yo s 0 h0,if_neg (by omega),if_neg h2,if_pos h3]
theorem vt{s:ByteArray}(h0:0 < s.size)(h1:¬ 97≤s[0].toNat)(h2:s[0].toNat≠64)(h3:Tk.has s.data.toList 58=false):Tk.word s=kE s.data.toList:=by
 unfold Tk.word;rw[yo s 0 h0,if_neg (by omega),if_neg h2,if_neg (by rw[h3];simp)];rfl
theorem J3{s:ByteArray}(h0:s.size=0):Tk.word s=none:=by
 obtain rfl:s=⟨#[]⟩:=by
  apply ByteArray.ext;exact Array.eq_empty_of_size_eq_zero h0
 rfl
theorem JC{s:ByteArray}(h0:0 < s.size)(hw:∀x∈ s.data.toList,Tk.inW x=true):s[0].toNat≤122:=by
 have:=hw s[0] (by rw[show s[0]=s.data.toList[0]'(by rw[qG];exact h0) from rfl];exact List.getElem_mem _);unfold Tk.inW at this;rw[decide_eq_true_eq] at this;omega
theorem um(s:ByteArray)(w:World)(hs:s.size≤9223372036854775807)(hw:∀x∈ s.data.toList,Tk.inW x=true) :
 Calls Tryz.prog 67 #[.string s] w fun e w'=>WR (Tk.word s) e∧Below w.heap.size w w':=by
 have HW:=hid hw;clear hw
 by_cases h0:s.size=0
 ·have N:=hid (J3 h0);have e1:s.toList.isEmpty=true:=(by rw[zd];simp[h0]);clear h0;go_enter Tryz.func67,Tryz.ntmps67;go_wp2;refine bodyPost_ret (v:=.tuple #[.agg #[.int .i64 0,.string ⟨#[]⟩,.int .i64 0,.int .i64 0],.bool false]) ?_ rfl ⟨WR.none N.out _ _ _,below_alloc1 _ _⟩;rw[results_cell_tmp rfl];go_simp
 ·have e1 : s.toList.isEmpty=false:=by rw[zd];simp[h0]
  have qN:0 < s.size:=(by omega);clear h0
  by_cases h1:97≤s[0].toNat
  ·have h2:=JC qN HW.out;have W:=hid (ug qN h1 h2);have h1':(97:Int)≤(s[0].toNat:Int):=(by omega);have h2':(s[0].toNat:Int)≤122:=by omega
   by_cases h3:33 < s.size
   ·have h3':(33:Int) < (s.size:Int):=by omega
    have N:Hid (Tk.word s=none):=(by unfold Hid;rw[W.out,if_pos (.inl h3)]);go_enter Tryz.func67,Tryz.ntmps67;go_wp2;refine bodyPost_ret (v:=.tuple #[.agg #[.int .i64 0,.string ⟨#[]⟩,.int .i64 0,.int .i64 0],.bool false]) ?_ rfl ⟨WR.none N.out _ _ _,below_alloc1 _ _⟩;rw[results_cell_tmp rfl];go_simp
   ·have h3':¬(33:Int) < (s.size:Int):=by omega
    cases hq:(Tk.has s.data.toList 58 || Tk.has s.data.toList 64) with
    | true =>
      have N:Hid (Tk.word s=none):=(by unfold Hid;rw[W.out,if_pos (.inr (by simpa using hq))]);have HQ:=hid hq;clear hq;go_enter Tryz.func67,Tryz.ntmps67;go_wp2_with fail;refine(V4 s _ _ (by omega) HW.out HQ.out).mono ?_;rintro e w1 ⟨rfl,hb⟩;have B1:Hid (Below w.heap.size w w1):=(below_alloc1 w _).trans (hb.mono (by simp));obtain⟨c0,c1,c2,c3,f0,f1,f2,f3⟩:=Yr hb;clear hb;go_wp2;refine bodyPost_ret (v:=.tuple #[.agg #[.int .i64 0,.string ⟨#[]⟩,.int .i64 0,.int .i64 0],.bool false]) ?_ rfl ⟨WR.none N.out _ _ _,((((B1.out).setCell (p:=⟨w.heap.size,0,none⟩) (Nat.le_refl _) _).setCell (p:=⟨w.heap.size,1,none⟩) (Nat.le_refl _) _).setCell (p:=⟨w.heap.size,2,none⟩) (Nat.le_refl _) _).setCell (p:=⟨w.heap.size,3,none⟩) (Nat.le_refl _) _⟩;rw[results_cell_tmp rfl];go_simp
    | false =>
      have N:Hid (Tk.word s=some ⟨1,s,0⟩):=(by unfold Hid;rw[W.out,if_neg (by rintro (q|q|q);exact h3 q;simp[q] at hq;simp[q] at hq)]);have HQ:=hid hq;clear hq;go_enter Tryz.func67,Tryz.ntmps67;go_wp2_with fail;refine(V4 s _ _ (by omega) HW.out HQ.out).mono ?_;rintro e w1 ⟨rfl,hb⟩;have B1:Hid (Below w.heap.size w w1):=(below_alloc1 w _).trans (hb.mono (by simp));obtain⟨c0,c1,c2,c3,f0,f1,f2,f3⟩:=Yr hb;clear hb;go_wp2;refine bodyPost_ret (v:=.tuple #[.agg #[.int .i64 1,.string s,.int .i64 0,.int .i64 0],.bool true]) ?_ rfl ⟨WR.some N.out,((((B1.out).setCell (p:=⟨w.heap.size,0,none⟩) (Nat.le_refl _) _).setCell (p:=⟨w.heap.size,1,none⟩) (Nat.le_refl _) _).setCell (p:=⟨w.heap.size,2,none⟩) (Nat.le_refl _) _).setCell (p:=⟨w.heap.size,3,none⟩) (Nat.le_refl _) _⟩;rw[results_cell_tmp rfl];go_simp
  ·have h1':¬(97:Int)≤(s[0].toNat:Int):=by omega
   by_cases h2:s[0].toNat=64
   ·have h2':((s[0].toNat:Int)==64)=true:=by simp;omega
    have W:=hid (xB qN h2);clear h2;have hz:(s.extract 1 s.size).size≤9223372036854775807:=(by rw[ByteArray.size_extract];omega);go_enter Tryz.func67,Tryz.ntmps67;go_wp2_with fail;refine(Qw (s.extract 1 s.size) _ hz).mono ?_;generalize Qy (s.extract 1 s.size)=pe at *;generalize Qx (s.extract 1 s.size)=pv at *;rintro e w1 ⟨rfl,hb⟩;have B1:Hid (Below w.heap.size w w1):=(below_alloc1 w _).trans (hb.mono (by simp));obtain⟨c0,c1,c2,c3,f0,f1,f2,f3⟩:=Yr hb;clear hb
    by_cases h3:pe=0
    ·have h3':(pe==0)=true:=by simp[h3]
     have N:Hid (Tk.word s=some ⟨4,⟨#[]⟩,pv⟩):=(by unfold Hid;rw[W.out,if_pos h3]);clear h3;go_wp2;refine bodyPost_ret (v:=.tuple #[.agg #[.int .i64 4,.string ⟨#[]⟩,.int .i64 pv,.int .i64 0],.bool true]) ?_ rfl ⟨WR.some N.out,((((B1.out).setCell (p:=⟨w.heap.size,0,none⟩) (Nat.le_refl _) _).setCell (p:=⟨w.heap.size,1,none⟩) (Nat.le_refl _) _).setCell (p:=⟨w.heap.size,2,none⟩) (Nat.le_refl _) _).setCell (p:=⟨w.heap.size,3,none⟩) (Nat.le_refl _) _⟩;rw[results_cell_tmp rfl];go_simp
    ·have h3':(pe==0)=false:=by simp[h3]
     have N:Hid (Tk.word s=none):=(by unfold Hid;rw[W.out,if_neg h3]);clear h3;go_wp2;refine bodyPost_ret (v:=.tuple #[.agg #[.int .i64 4,.string ⟨#[]⟩,.int .i64 pv,.int .i64 0],.bool false]) ?_ rfl ⟨WR.none N.out _ _ _,((((B1.out).setCell (p:=⟨w.heap.size,0,none⟩) (Nat.le_refl _) _).setCell (p:=⟨w.heap.size,1,none⟩) (Nat.le_refl _) _).setCell (p:=⟨w.heap.size,2,none⟩) (Nat.le_refl _) _).setCell (p:=⟨w.heap.size,3,none⟩) (Nat.le_refl _) _⟩;rw[results_cell_tmp rfl];go_simp
   ·have h2':((s[0].toNat:Int)==64)=false:=by simp;omega
    cases h3:Tk.has s.data.toList 58 with
    | true =>
      have W:=hid (uf qN h1 h2 h3);have H3:=hid h3;clear h3 h2;go_enter Tryz.func67,Tryz.ntmps67;go_wp2_with fail;refine(UM s _ _ H3.out).mono ?_;rintro e w' ⟨rfl,rfl⟩;go_wp2_with fail;refine(Jr s _ hs).mono ?_;generalize Txt.duE s.data.toList=pe at *;generalize Txt.duV s.data.toList=pv at *;rintro e w1 ⟨rfl,hb⟩;have B1:Hid (Below w.heap.size w w1):=(below_alloc1 w _).trans (hb.mono (by simp));obtain⟨c0,c1,c2,c3,f0,f1,f2,f3⟩:=Yr hb;clear hb
      by_cases h3:pe=0
      ·have h3':(pe==0)=true:=by simp[h3]
       have N:Hid (Tk.word s=some ⟨3,⟨#[]⟩,pv⟩):=(by unfold Hid;rw[W.out,if_pos h3]);clear h3;go_wp2;refine bodyPost_ret (v:=.tuple #[.agg #[.int .i64 3,.string ⟨#[]⟩,.int .i64 pv,.int .i64 0],.bool true]) ?_ rfl ⟨WR.some N.out,((((B1.out).setCell (p:=⟨w.heap.size,0,none⟩) (Nat.le_refl _) _).setCell (p:=⟨w.heap.size,1,none⟩) (Nat.le_refl _) _).setCell (p:=⟨w.heap.size,2,none⟩) (Nat.le_refl _) _).setCell (p:=⟨w.heap.size,3,none⟩) (Nat.le_refl _) _⟩;rw[results_cell_tmp rfl];go_simp
      ·have h3':(pe==0)=false:=by simp[h3]
       have N:Hid (Tk.word s=none):=(by unfold Hid;rw[W.out,if_neg h3]);clear h3;go_wp2;refine bodyPost_ret (v:=.tuple #[.agg #[.int .i64 3,.string ⟨#[]⟩,.int .i64 pv,.int .i64 0],.bool false]) ?_ rfl ⟨WR.none N.out _ _ _,((((B1.out).setCell (p:=⟨w.heap.size,0,none⟩) (Nat.le_refl _) _).setCell (p:=⟨w.heap.size,1,none⟩) (Nat.le_refl _) _).setCell (p:=⟨w.heap.size,2,none⟩) (Nat.le_refl _) _).setCell (p:=⟨w.heap.size,3,none⟩) (Nat.le_refl _) _⟩;rw[results_cell_tmp rfl];go_simp
    | false =>
      have W:=hid (vt qN h1 h2 h3);have H3:=hid h3;clear h3 h2;go_enter Tryz.func67,Tryz.ntmps67;go_wp2_with fail;refine(UM s _ _ H3.out).mono ?_;rintro e w' ⟨rfl,rfl⟩;go_wp2_with fail;refine(J9 s _ hs qN).mono ?_;rw[← W.out];rintro e w1 ⟨⟨k,x,n,rfl,hx⟩,hb⟩;have HX:Hid (WR (Tk.word s) (.returned (.tuple #[.agg #[.int .i64 k,.string x,.int .i64 n,.int .i64 0],.bool (Tk.word s).isSome]))):=⟨k,x,n,rfl,hx⟩;clear hx;generalize (Tk.word s).isSome=ob at *;have B1:Hid (Below w.heap.size w w1):=(below_alloc1 w _).trans (hb.mono (by simp));obtain⟨c0,c1,c2,c3,f0,f1,f2,f3⟩:=Yr hb;clear hb;go_wp2;refine bodyPost_ret (v:=.tuple #[.agg #[.int .i64 k,.string x,.int .i64 n,.int .i64 0],.bool ob]) ?_ rfl ⟨HX.out,((((B1.out).setCell (p:=⟨w.heap.size,0,none⟩) (Nat.le_refl _) _).setCell (p:=⟨w.heap.size,1,none⟩) (Nat.le_refl _) _).setCell (p:=⟨w.heap.size,2,none⟩) (Nat.le_refl _) _).setCell (p:=⟨w.heap.size,3,none⟩) (Nat.le_refl _) _⟩;rw[results_cell_tmp rfl];go_simp
theorem Yt(s:ByteArray)(w:World)(hs:s.size≤9223372036854775807)(hw:∀x∈ s.data.toList,Tk.inW x=true)(qN:0 < s.size) :
 Calls Tryz.prog 73 #[.string s] w fun e w'=>WR (Tk.word s) e∧Below w.heap.size w w':=by
 have HW:=hid hw;clear hw
 by_cases h1:97≤s[0].toNat
 ·have h2:=JC qN HW.out;have W:=hid (ug qN h1 h2);have h1':(97:Int)≤(s[0].toNat:Int):=(by omega);have h2':(s[0].toNat:Int)≤122:=by omega
  by_cases h3:33 < s.size
  ·have h3':(33:Int) < (s.size:Int):=by omega
   have N:Hid (Tk.word s=none):=(by unfold Hid;rw[W.out,if_pos (.inl h3)]);go_enter Tryz.func73,Tryz.ntmps73;go_wp2;refine bodyPost_ret (v:=.tuple #[.agg #[.int .i64 0,.string ⟨#[]⟩,.int .i64 0,.int .i64 0],.bool false]) ?_ rfl ⟨WR.none N.out _ _ _,below_alloc1 _ _⟩;rw[results_cell_tmp rfl];go_simp
  ·have h3':¬(33:Int) < (s.size:Int):=by omega
   cases hq:Tk.has s.data.toList 58 with
   | true =>
     have N:Hid (Tk.word s=none):=(by unfold Hid;rw[W.out,if_pos (.inr (.inl hq))]);have HQ:=hid hq;clear hq;go_enter Tryz.func73,Tryz.ntmps73;go_wp2_with fail;refine(u7 s 58 58 _ _ hs rfl HQ.out).mono ?_;rintro e w1 ⟨m,rfl,rfl,hm⟩;rw[decide_eq_true_eq] at hm;go_wp2;refine bodyPost_ret (v:=.tuple #[.agg #[.int .i64 0,.string ⟨#[]⟩,.int .i64 0,.int .i64 0],.bool false]) ?_ rfl ⟨WR.none N.out _ _ _,below_alloc1 _ _⟩;rw[results_cell_tmp rfl];go_simp
   | false =>
     have HQ:=hid hq;cases hr:Tk.has s.data.toList 64 with
     | true =>
       have N:Hid (Tk.word s=none):=(by unfold Hid;rw[W.out,if_pos (.inr (.inr hr))]);have HR:=hid hr;clear hq hr;go_enter Tryz.func73,Tryz.ntmps73;go_wp2_with fail;refine(u7 s 58 58 _ _ hs rfl HQ.out).mono ?_;rintro e w1 ⟨m,rfl,rfl,hm⟩;rw[decide_eq_false_iff_not] at hm;go_wp2_with fail;refine(u7 s 64 64 _ _ hs rfl HR.out).mono ?_;rintro e w1 ⟨m2,rfl,rfl,hm2⟩;rw[decide_eq_true_eq] at hm2;go_wp2;refine bodyPost_ret (v:=.tuple #[.agg #[.int .i64 0,.string ⟨#[]⟩,.int .i64 0,.int .i64 0],.bool false]) ?_ rfl ⟨WR.none N.out _ _ _,below_alloc1 _ _⟩;rw[results_cell_tmp rfl];go_simp
     | false =>
       have N:Hid (Tk.word s=some ⟨1,s,0⟩):=(by unfold Hid;rw[W.out,if_neg (by rintro (q|q|q);exact h3 q;simp[q] at hq;simp[q] at hr)]);have HR:=hid hr;clear hq hr;go_enter Tryz.func73,Tryz.ntmps73;go_wp2_with fail;refine(u7 s 58 58 _ _ hs rfl HQ.out).mono ?_;rintro e w1 ⟨m,rfl,rfl,hm⟩;rw[decide_eq_false_iff_not] at hm;go_wp2_with fail;refine(u7 s 64 64 _ _ hs rfl HR.out).mono ?_;rintro e w1 ⟨m2,rfl,rfl,hm2⟩;rw[decide_eq_false_iff_not] at hm2;go_wp2;refine bodyPost_ret (v:=.tuple #[.agg #[.int .i64 1,.string s,.int .i64 0,.int .i64 0],.bool true]) ?_ rfl ⟨WR.some N.out,below_alloc1 _ _⟩;rw[results_cell_tmp rfl];go_simp
 ·have h1' : ¬ (97:Int)≤(s[0].toNat:Int):=by omega
  by_cases h2:s[0].toNat=64
  ·have h2':((s[0].toNat:Int)==64)=true:=by simp;omega
   have W:=hid (xB qN h2);clear h2;have hz:(s.extract 1 s.size).size≤9223372036854775807:=(by rw[ByteArray.size_extract];omega);go_enter Tryz.func73,Tryz.ntmps73;go_wp2_with fail;refine(xM (s.extract 1 s.size) _ hz).mono ?_;generalize Qy (s.extract 1 s.size)=pe at *;generalize Qx (s.extract 1 s.size)=pv at *;rintro e w1 ⟨rfl,rfl⟩
   by_cases h3:pe=0
   ·have h3':(pe==0)=true:=by simp[h3]
    have N:Hid (Tk.word s=some ⟨4,⟨#[]⟩,pv⟩):=(by unfold Hid;rw[W.out,if_pos h3]);clear h3;go_wp2;refine bodyPost_ret (v:=.tuple #[.agg #[.int .i64 4,.string ⟨#[]⟩,.int .i64 pv,.int .i64 0],.bool true]) ?_ rfl ⟨WR.some N.out,below_alloc1 _ _⟩;rw[results_cell_tmp rfl];go_simp
   ·have h3':(pe==0)=false:=by simp[h3]
    have N:Hid (Tk.word s=none):=(by unfold Hid;rw[W.out,if_neg h3]);clear h3;go_wp2;refine bodyPost_ret (v:=.tuple #[.agg #[.int .i64 4,.string ⟨#[]⟩,.int .i64 pv,.int .i64 0],.bool false]) ?_ rfl ⟨WR.none N.out _ _ _,below_alloc1 _ _⟩;rw[results_cell_tmp rfl];go_simp
  ·have h2' : ((s[0].toNat:Int)==64)=false:=by simp;omega
   cases h3:Tk.has s.data.toList 58 with
   | true =>
     have W:=hid (uf qN h1 h2 h3);have H3:=hid h3;clear h3 h2;go_enter Tryz.func73,Tryz.ntmps73;go_wp2_with fail;refine(u7 s 58 58 _ _ hs rfl H3.out).mono ?_;rintro e w1 ⟨m,rfl,rfl,hm⟩;rw[decide_eq_true_eq] at hm;go_wp2_with fail;have PD:=uZ s.data.toList (w.alloc (.cells #[.int .i64 0,.string ⟨#[]⟩,.int .i64 0,.int .i64 0] 68)) (by rw[qG];exact hs);rw[Kz] at PD;refine PD.mono ?_;clear PD;generalize Txt.duE s.data.toList=pe at *;generalize Txt.duV s.data.toList=pv at *;rintro e w1 ⟨rfl,rfl⟩
     by_cases h3:pe=0
     ·have h3':(pe==0)=true:=by simp[h3]
      have N:Hid (Tk.word s=some ⟨3,⟨#[]⟩,pv⟩):=(by unfold Hid;rw[W.out,if_pos h3]);clear h3;go_wp2;refine bodyPost_ret (v:=.tuple #[.agg #[.int .i64 3,.string ⟨#[]⟩,.int .i64 pv,.int .i64 0],.bool true]) ?_ rfl ⟨WR.some N.out,below_alloc1 _ _⟩;rw[results_cell_tmp rfl];go_simp
     ·have h3':(pe==0)=false:=by simp[h3]
      have N:Hid (Tk.word s=none):=(by unfold Hid;rw[W.out,if_neg h3]);clear h3;go_wp2;refine bodyPost_ret (v:=.tuple #[.agg #[.int .i64 3,.string ⟨#[]⟩,.int .i64 pv,.int .i64 0],.bool false]) ?_ rfl ⟨WR.none N.out _ _ _,below_alloc1 _ _⟩;rw[results_cell_tmp rfl];go_simp
   | false =>
     have W:=hid (vt qN h1 h2 h3);have H3:=hid h3;clear h3 h2;have HL:=hid (qG s);have HG:=hid (yo s 0 qN)
     have DV:Hid (J1 s 1 13=true→Qi s 1 13=Txt.num s.data.toList):=by
      intro q;unfold J1 digB at q;rw[decide_eq_true_eq] at q;unfold Qi jY;rw[if_pos q]
     have DB:Hid (J1 s 1 13=decide (1≤s.data.toList.length∧s.data.toList.length≤13∧Txt.allD s.data.toList=true)):=by
      unfold Hid J1 digB;congr 1;apply propext;exact⟨fun q=>⟨by omega,by omega,q.2.2⟩,fun q=>⟨by omega,by omega,q.2.2⟩⟩
     go_enter Tryz.func73,Tryz.ntmps73;go_wp2_with fail;refine(u7 s 58 58 _ _ hs rfl H3.out).mono ?_;rintro e w1 ⟨m,rfl,rfl,hm⟩;rw[decide_eq_false_iff_not] at hm;go_wp2_with fail;refine(zP s 1 13 _ hs (by omega)).mono ?_;generalize J1 s 1 13=db at *;generalize Qi s 1 13=dv at *;rintro e w1 ⟨rfl,rfl⟩;cases db with
     | false =>
       have N:Hid (Tk.word s=none):=by
        unfold Hid;rw[W.out];refine zZ fun q=>?_
        have:=DB.out;rw[decide_eq_true ⟨q.1,q.2.1,q.2.2.1⟩] at this;cases this
       go_wp2;refine bodyPost_ret (v:=.tuple #[.agg #[.int .i64 0,.string ⟨#[]⟩,.int .i64 0,.int .i64 0],.bool false]) ?_ rfl ⟨WR.none N.out _ _ _,below_alloc1 _ _⟩;rw[results_cell_tmp rfl];go_simp
     | true =>
       have DQ:Hid (1≤s.data.toList.length∧s.data.toList.length≤13∧Txt.allD s.data.toList=true):=(by have:=DB.out;unfold Hid;exact of_decide_eq_true this.symm);have DV2:=hid (DV.out rfl)
       by_cases h4:1 < s.size∧s[0].toNat=48
       ·have N:Hid (Tk.word s=none):=by unfold Hid;rw[W.out];exact zZ fun q=>q.2.2.2.1 (by rw[HL.out,HG.out];exact⟨h4.2,h4.1⟩)
        have z1:(1:Int) < (s.size:Int):=(by omega);have z2:((s[0].toNat:Int)==48)=true:=(by simp;omega);clear h4 DV DB;go_wp2;refine bodyPost_ret (v:=.tuple #[.agg #[.int .i64 0,.string ⟨#[]⟩,.int .i64 0,.int .i64 0],.bool false]) ?_ rfl ⟨WR.none N.out _ _ _,below_alloc1 _ _⟩;rw[results_cell_tmp rfl];go_simp
       ·have H4:=hid h4
        have hz:(1 < (s.size:Int)∧((s[0].toNat:Int)==48)=false)∨¬(1:Int) < (s.size:Int):=by
         by_cases q:1 < s.size
         ·exact .inl ⟨by omega,by simp;omega⟩
         ·exact .inr (by omega)
        clear h4 DV DB
        by_cases h5:dv≤1099511627776
        ·have N:Hid (Tk.word s=some ⟨2,⟨#[]⟩,dv⟩):=by
          unfold Hid;rw[W.out,DV2.out];exact xR ⟨DQ.out.1,DQ.out.2.1,DQ.out.2.2,by rw[HL.out,HG.out];exact fun q=>H4.out ⟨q.2,q.1⟩,by rw[← DV2.out];exact h5⟩
         have n5:¬ 1099511627776 < dv:=(by omega);rcases hz with ⟨z1,z2⟩|z1
         ·go_wp2;refine bodyPost_ret (v:=.tuple #[.agg #[.int .i64 2,.string ⟨#[]⟩,.int .i64 dv,.int .i64 0],.bool true]) ?_ rfl ⟨WR.some N.out,below_alloc1 _ _⟩;rw[results_cell_tmp rfl];go_simp
         ·go_wp2;refine bodyPost_ret (v:=.tuple #[.agg #[.int .i64 2,.string ⟨#[]⟩,.int .i64 dv,.int .i64 0],.bool true]) ?_ rfl ⟨WR.some N.out,below_alloc1 _ _⟩;rw[results_cell_tmp rfl];go_simp
        ·have N:Hid (Tk.word s=none):=by unfold Hid;rw[W.out];exact zZ fun q=>h5 (by rw[DV2.out];exact q.2.2.2.2)
         have n5:1099511627776 < dv:=(by omega);rcases hz with ⟨z1,z2⟩|z1
         ·go_wp2;refine bodyPost_ret (v:=.tuple #[.agg #[.int .i64 0,.string ⟨#[]⟩,.int .i64 0,.int .i64 0],.bool false]) ?_ rfl ⟨WR.none N.out _ _ _,below_alloc1 _ _⟩;rw[results_cell_tmp rfl];go_simp
         ·go_wp2;refine bodyPost_ret (v:=.tuple #[.agg #[.int .i64 0,.string ⟨#[]⟩,.int .i64 0,.int .i64 0],.bool false]) ?_ rfl ⟨WR.none N.out _ _ _,below_alloc1 _ _⟩;rw[results_cell_tmp rfl];go_simp
end Go.Proofs.YtcejjdmnlejbaaaGreatDoor
