import Derived.Test.YtcejjdmnlejbaaaGreatDoorBRzR
import Derived.Test.YtcejjdmnlejbaaaGreatDoorBGf
import Derived.Test.YtcejjdmnlejbaaaGreatDoorBGh
import Derived.Test.YtcejjdmnlejbaaaGreatDoorBGl0
import Derived.Test.YtcejjdmnlejbaaaGreatDoorRows
import Derived.Test.YtcejjdmnlejbaaaGreatDoorBTkT
import Derived.MakeChecks
import Derived.Stop.LaidErr
import Derived.LaidMore
namespace Go.Proofs.YtcejjdmnlejbaaaGreatDoor
set_option linter.unusedVariables false
set_option linter.unusedSimpArgs false
open Go.ChangeShapes Go.WideShapes Go.ChangeAt Go.RowKit
open Go.Deep (BT)
theorem Fp.PF_bytes (c:Ch):Fp.tB (Fp.PF c)=⟨#[40]⟩++Fp.tB (Fp.F c)++⟨#[41]⟩:=by
 apply Fp.ba_eq
 rw [app_list,app_list]
 unfold Fp.PF
 rw [Fp.tB_cons,Fp.tB_app,app_list,app_list,Fp.tB_sg,Fp.tB_sg]
 rfl
theorem Fp.built {sc kind:Int} {c:Ch} (h:Plain sc kind 4 c.a c.k):Fp.fmT c=(Fp.tB (Fp.F c),0)∧(Fp.tB (Fp.F c)).size≤201000∧Pz.pxT (Fp.tB (Fp.F c))=(Pz.nr c,0,0)∧Pz.pxT (⟨#[40]⟩++Fp.tB (Fp.F c)++⟨#[41]⟩)=(Pz.nr c,0,0):=by
 have hv:=h.val (by omega)
 have hsz:sz c.k+1≤szB 4:=h.sz
 have h40:szB 4=40:=rfl
 have hl:=Fp.len_wf c (Fp.valE_wf hv)
 have hl2:(Fp.F c).length+2≤400:=by omega
 refine ⟨?_,tB_sz (Fp.valE_wf hv) (by omega),Fp.px_back c hv (by omega),?_⟩
 · unfold Fp.fmT
   rw [if_neg (fun q=>q hv),if_neg (by omega)]
 · rw [← Fp.PF_bytes]
   exact Fp.px_paren c hv hl2
set_option maxHeartbeats 4000000 in
set_option maxRecDepth 100000 in
theorem walk_grammarBuilt (v:Value) (n:Nat) (a1 a2:Int) (w:World) (h:IntsL w v n w.heap.size) (w1:(Lit.int .i64 a1).wf=true) (w2:(Lit.int .i64 a2).wf=true) (ht:Tab w) :
 Calls Tryz.prog 4 #[v,.int .i64 a1,.int .i64 a2] w fun e w'=>e=.returned (.bool true)∧Below w.heap.size w w':=by
 clear w1 w2
 have H:=Lib.hid h
 have HT:Hid (∀ W,Below w.heap.size w W→Tab W):=fun W hb=>ht.next hb
 obtain ⟨p,cap,rfl,-,-⟩:=h
 clear ht
 obtain ⟨sc,hsc⟩:∃ z,bits BinOp.and IntKind.i64 a1 3=z:=⟨_,rfl⟩
 have hsr:0≤sc∧sc < 4:=by rw [← hsc,and_3];omega
 have hscb:sc=0∨sc=1∨sc=2∨sc=3:=by omega
 obtain ⟨z2,hz2⟩:∃ z,bits BinOp.and IntKind.i64 a2 3=z:=⟨_,rfl⟩
 have hz2b:0≤z2∧z2 < 4:=by rw [← hz2,and_3];omega
 obtain ⟨kind,hkd,hkdb⟩:∃ kd,IntKind.i64.wrap (1+z2)=kd∧(kd=1∨kd=2∨kd=3∨kd=4):=⟨1+z2,IntWalk.i64_in _ (by omega),by omega⟩
 have HS:=Lib.hid hscb
 have HK:=Lib.hid hkdb
 clear hscb hkdb hz2b
 go_enter Tryz.func4,Tryz.ntmps4
 go_wp2_with fail
 clear hz2 hsc hkd
 refine (bExpr_any (.slice p n cap) n sc kind w H.out HS.out HK.out).mono ?_
 rintro e x1 ⟨c,rfl,hp,hx,hb⟩
 obtain ⟨hf1,hf2,hf3,hf4⟩:=Fp.built hp
 have OKX:=Lib.hid hp.ok
 have FM:=Lib.hid hf1
 have PX1:=Lib.hid hf3
 have PX2:=Lib.hid hf4
 have X1:=Lib.hid hx
 have B1:=Lib.hid hb
 clear hp hx hb hf1 hf3 hf4
 generalize Fp.tB (Fp.F c)=s at *
 go_upto_region 2 with (fail)
 have N1:Hid (Below x1.heap.size x1 (x1.alloc (.cells #[.int .i64 c.a.op,.int .i64 c.a.num,.string c.a.name,.slice c.a.ptr (len c.k) c.a.cap] 24))):=(Below.refl _ _).alloc (Nat.le_refl _) _
 have C2:Hid (Pz.B4 (x1.alloc (.cells #[.int .i64 c.a.op,.int .i64 c.a.num,.string c.a.name,.slice c.a.ptr (len c.k) c.a.cap] 24)) x1.heap.size c):=Pz.b4_alloc x1 c _ rfl _
 have X2:=Lib.hid (X1.out.next N1.out)
 have B2:=Lib.hid (B1.out.trans (N1.out.mono B1.out.size))
 generalize x1.heap.size=xb at *
 generalize x1.alloc (.cells #[.int .i64 c.a.op,.int .i64 c.a.num,.string c.a.name,.slice c.a.ptr (len c.k) c.a.cap] 24)=x2 at *
 clear N1 X1 B1
 obtain ⟨x0,x1,x2',x3,-,-,-,-,xl⟩:=C2.out
 go_wp2_with fail
 refine (pfmtx_any c.b c.o c.a.op c.a.num c.a.name c.a.ptr c.a.cap c.k x2 (HT.out _ B2.out) X2.out OKX.out).mono ?_
 have FM2:Hid (Fp.fmT ⟨c.b,c.o,⟨c.a.op,c.a.num,c.a.name,c.a.ptr,c.a.cap⟩,c.k⟩=(s,0)):=FM.out
 rw [FM2.out]
 dsimp only
 rintro e y3 ⟨rfl,hb⟩
 have X3:=Lib.hid (X2.out.next hb)
 have C3:=Lib.hid (C2.out.next hb)
 have B3:=Lib.hid (B2.out.trans (hb.mono B2.out.size))
 clear hb X2 C2 B2 x0 x1 x2' x3 xl FM FM2
 go_wp2_with fail
 refine (pparse_any s y3 (by omega)).mono ?_
 unfold PxP
 rw [PX1.out]
 dsimp only
 rintro e y4 ⟨d,rfl,hd,hy,hb⟩
 have E1:Hid (Pz.nr c=Pz.nr d):=hd.symm
 have Y4:=Lib.hid hy
 have X4:=Lib.hid (X3.out.next hb)
 have C4:=Lib.hid (C3.out.next hb)
 have B4:=Lib.hid (B3.out.trans (hb.mono B3.out.size))
 clear hd hy hb X3 C3 B3
 go_upto_region 6 with (fail)
 have N1:Hid (Below y4.heap.size y4 (y4.alloc (.cells #[.int .i64 d.a.op,.int .i64 d.a.num,.string d.a.name,.slice d.a.ptr (len d.k) d.a.cap] 24))):=(Below.refl _ _).alloc (Nat.le_refl _) _
 have D5:Hid (Pz.B4 (y4.alloc (.cells #[.int .i64 d.a.op,.int .i64 d.a.num,.string d.a.name,.slice d.a.ptr (len d.k) d.a.cap] 24)) y4.heap.size d):=Pz.b4_alloc y4 d _ rfl _
 have Y5:=Lib.hid (Y4.out.next N1.out)
 have X5:=Lib.hid (X4.out.next N1.out)
 have C5:=Lib.hid (C4.out.next N1.out)
 have B5:=Lib.hid (B4.out.trans (N1.out.mono B4.out.size))
 generalize y4.heap.size=yb at *
 generalize y4.alloc (.cells #[.int .i64 d.a.op,.int .i64 d.a.num,.string d.a.name,.slice d.a.ptr (len d.k) d.a.cap] 24)=y5 at *
 clear N1 Y4 X4 C4 B4
 have z0:¬ 9223372036854775807 < 1+s.size:=by omega
 have z1:¬ 9223372036854775807 < 1+s.size+1:=by omega
 have hz2:(⟨#[40]⟩++s++⟨#[41]⟩:ByteArray).size≤9223372036854775807:=by rw [ByteArray.size_append,ByteArray.size_append];show 1+s.size+1≤_;omega
 obtain ⟨S2,hS2⟩:∃ z:ByteArray,⟨#[40]⟩++s++⟨#[41]⟩=z:=⟨_,rfl⟩
 have HS2:=Lib.hid hS2
 have HZ2:=Lib.hid hz2
 clear hS2 hz2
 go_wp2_with fail
 have hz2:=HZ2.out
 rw [HS2.out] at PX2 hz2 ⊢
 refine (pparse_any S2 y5 hz2).mono ?_
 unfold PxP
 rw [PX2.out]
 dsimp only
 rintro e y6 ⟨f,rfl,hd,hy,hb⟩
 have E2:Hid (Pz.nr c=Pz.nr f):=hd.symm
 have Z6:=Lib.hid hy
 have Y6:=Lib.hid (Y5.out.next hb)
 have X6:=Lib.hid (X5.out.next hb)
 have D6:=Lib.hid (D5.out.next hb)
 have C6:=Lib.hid (C5.out.next hb)
 have B6:=Lib.hid (B5.out.trans (hb.mono B5.out.size))
 clear hd hy hb Y5 X5 D5 C5 B5 z0 z1
 go_upto_region 7 with (fail)
 have N1:Hid (Below y6.heap.size y6 (y6.alloc (.cells #[.int .i64 f.a.op,.int .i64 f.a.num,.string f.a.name,.slice f.a.ptr (len f.k) f.a.cap] 24))):=(Below.refl _ _).alloc (Nat.le_refl _) _
 have F7:Hid (Pz.B4 (y6.alloc (.cells #[.int .i64 f.a.op,.int .i64 f.a.num,.string f.a.name,.slice f.a.ptr (len f.k) f.a.cap] 24)) y6.heap.size f):=Pz.b4_alloc y6 f _ rfl _
 have Z7:=Lib.hid (Z6.out.next N1.out)
 have Y7:=Lib.hid (Y6.out.next N1.out)
 have X7:=Lib.hid (X6.out.next N1.out)
 have D7:=Lib.hid (D6.out.next N1.out)
 have C7:=Lib.hid (C6.out.next N1.out)
 have B7:=Lib.hid (B6.out.trans (N1.out.mono B6.out.size))
 generalize y6.heap.size=zb at *
 generalize y6.alloc (.cells #[.int .i64 f.a.op,.int .i64 f.a.num,.string f.a.name,.slice f.a.ptr (len f.k) f.a.cap] 24)=y7 at *
 clear N1 Z6 Y6 X6 D6 C6 B6
 obtain ⟨x0,x1,x2',x3,-,-,-,-,xl⟩:=C7.out
 obtain ⟨d0,d1,d2,d3,-,-,-,-,dl⟩:=D7.out
 go_wp2_with fail
 refine (same_any17 c d y7 X7.out Y7.out OKX.out E1.out).mono ?_
 rintro e y8 ⟨rfl,hb⟩
 have Z8:=Lib.hid (Z7.out.next hb)
 have X8:=Lib.hid (X7.out.next hb)
 have C8:=Lib.hid (C7.out.next hb)
 have F8:=Lib.hid (F7.out.next hb)
 have B8:=Lib.hid (B7.out.trans (hb.mono B7.out.size))
 clear hb x0 x1 x2' x3 xl d0 d1 d2 d3 dl Z7 X7 C7 F7 B7 Y7 D7
 obtain ⟨x0,x1,x2',x3,-,-,-,-,xl⟩:=C8.out
 obtain ⟨d0,d1,d2,d3,-,-,-,-,dl⟩:=F8.out
 go_wp2_with fail
 refine (same_any17 c f y8 X8.out Z8.out OKX.out E2.out).mono ?_
 rintro e y9 ⟨rfl,hb⟩
 have B9:=Lib.hid (B8.out.trans (hb.mono B8.out.size))
 clear hb x0 x1 x2' x3 xl d0 d1 d2 d3 dl
 go_wp2_with fail
 refine (gawake_any y9).mono ?_
 rintro e ya ⟨rfl,hb⟩
 have BA:=Lib.hid (B9.out.trans (hb.mono B9.out.size))
 clear hb
 go_wp2
 go_ret
 exact ⟨rfl,BA.out⟩
end Go.Proofs.YtcejjdmnlejbaaaGreatDoor
namespace Go.Proofs.YtcejjdmnlejbaaaGreatDoor
set_option linter.unusedVariables false
set_option linter.unusedSimpArgs false
open Go.ChangeShapes Go.WideShapes Go.ChangeAt Go.RowKit
def LaidFacts (W:World):Prop:=Tab W
theorem pow10_data:(Rows.laid_internal_strconv_uint64pow10:DataW Unit)=Lib.tabData .u64 Lib.pow10Tab:=by kernel_rfl
theorem tab_of_laid {w:World} (h:Lib.TabIs Tryz.prog w "internal/strconv.uint64pow10" .u64 Lib.pow10Tab):Tab w :=
 ⟨h,block_lt_of_cell (Lib.TabIs.cell h tabG 0 (by decide))⟩
theorem LaidFacts.of_laid {W:World} (h:laidMetH Tryz.prog [("math/bits.deBruijn32tab",Rows.laid_math_bits_deBruijn32tab),("math/bits.deBruijn64tab",Rows.laid_math_bits_deBruijn64tab),("internal/strconv.uint64pow10",Rows.laid_internal_strconv_uint64pow10)] W):LaidFacts W:=by
 rw [MakeChecks.laidMetH_plain _ _ _ (by kernel_rfl)] at h
 have h2:=h.tail.tail
 rw [pow10_data] at h2
 exact tab_of_laid (Lib.tabIs_of_head tabG (t := 198) (n:=20) (e := 184) (by kernel_rfl) (by kernel_rfl) (by kernel_rfl) (by kernel_rfl) (by kernel_rfl) h2)
end Go.Proofs.YtcejjdmnlejbaaaGreatDoor
