import Derived.Test.YtfoedbfkddoibaaGreatTdj
namespace Go.Proofs.YtfoedbfkddoibaaGreat
set_option linter.unusedVariables false
set_option linter.unusedSimpArgs false
open Go.ChangeShapes Go.WideShapes Go.ChangeAt Go.RowKit
open Go.Deep (BT)
theorem ofS_any (sc:Int) (x:Ch) (s:ByteArray) (w:World) (h:SxV w sc x) (hs:s.size≤9223372036854775807) :
 Calls Tryz.prog 11 #[.slice none 0 0,.int .i64 sc,.agg #[.int .i64 x.a.op,.int .i64 x.a.num,.string x.a.name,.slice x.a.ptr (len x.k) x.a.cap],.string s] w fun e w'=>(∃ z:Int,e=.returned (.tuple #[.int .i64 (pC s (decide (atS sc s=3)) x),.int .i64 z]))∧Below w.heap.size w w':=by
 obtain ⟨t,ht⟩:=h.sm
 have q:=ofR_any [] none 0 sc x.b x.o x.a.op x.a.num x.a.name x.a.ptr x.a.cap x.k s w (tcsv_nil w) (Nat.le_refl _) hs h.at_ h.ok
 have e1:(ofT [] sc ⟨x.a.op,x.a.num,x.a.name,x.a.ptr,x.a.cap⟩ x.k s).1=pC s (decide (atS sc s=3)) x:=of_fst sc t x s ht h.nf h.vl
 refine q.mono ?_
 rintro e w' ⟨he,hb⟩
 exact ⟨⟨_,by rw [he,e1]⟩,hb⟩
set_option maxHeartbeats 8000000 in
set_option maxRecDepth 100000 in
theorem part_any (c:Ct) (p:Cp) (sc:Int) (x:Ch) (name:ByteArray) (w:World) (hcr:CrV w c.cr p.cr) (hx:SxV w sc x) (hk:∀ b o a k r,c.cr=.node b o a k r→SxV w 1 ⟨b,o,a,k⟩) (hn:name.size≤100) :
 Calls Tryz.prog 34 #[.agg #[.int .i64 c.rep,.int .i64 c.rel,.int .i64 c.con,.int .i64 c.sit,.int .i64 c.lay,.int .i64 c.nf,.int .i64 c.nt,.slice p.cs c.cs.length p.ccs,.slice p.rs c.rs.length p.crs,.slice p.os c.os.length p.cos,.slice p.cr (len c.cr) p.ccr,.slice p.ls c.ls.length p.cls,.slice p.fs c.fs.length p.cfs,.int .i64 c.gua],.int .i64 sc,.agg #[.int .i64 x.a.op,.int .i64 x.a.num,.string x.a.name,.slice x.a.ptr (len x.k) x.a.cap],.string name] w fun e w'=>e=.returned (.int .i64 (paR sc x name (crT name (decide (atS 1 name=3)) c.cr)))∧Below w.heap.size w w':=by
 have V:Hid (paR sc x name (crT name (decide (atS 1 name=3)) c.cr)=if sc=1 then pC name (decide (atS 1 name=3)) x else if sc=2 then cbE (pC (befN++name) (decide (atS 2 (befN++name)=3)) x) (pC (aftN++name) (decide (atS 2 (aftN++name)=3)) x) else
  cbE (if lhb name=true then pC name (decide (atS sc name=3)) x else 0) (thr (pC crdN (decide (atS sc crdN=3)) x) (crT name (decide (atS 1 name=3)) c.cr))):=rfl
 generalize paR sc x name (crT name (decide (atS 1 name=3)) c.cr)=R at *
 have b1:Below w.heap.size w (w.alloc (.cells #[.int .i64 c.rep,.int .i64 c.rel,.int .i64 c.con,.int .i64 c.sit,.int .i64 c.lay,.int .i64 c.nf,.int .i64 c.nt,.slice p.cs c.cs.length p.ccs,.slice p.rs c.rs.length p.crs,.slice p.os c.os.length p.cos,.slice p.cr (len c.cr) p.ccr,.slice p.ls c.ls.length p.cls,.slice p.fs c.fs.length p.cfs,.int .i64 c.gua] 44)):=below_box _ _
 have b2:Below (w.alloc (.cells #[.int .i64 c.rep,.int .i64 c.rel,.int .i64 c.con,.int .i64 c.sit,.int .i64 c.lay,.int .i64 c.nf,.int .i64 c.nt,.slice p.cs c.cs.length p.ccs,.slice p.rs c.rs.length p.crs,.slice p.os c.os.length p.cos,.slice p.cr (len c.cr) p.ccr,.slice p.ls c.ls.length p.cls,.slice p.fs c.fs.length p.cfs,.int .i64 c.gua] 44)).heap.size (w.alloc (.cells #[.int .i64 c.rep,.int .i64 c.rel,.int .i64 c.con,.int .i64 c.sit,.int .i64 c.lay,.int .i64 c.nf,.int .i64 c.nt,.slice p.cs c.cs.length p.ccs,.slice p.rs c.rs.length p.crs,.slice p.os c.os.length p.cos,.slice p.cr (len c.cr) p.ccr,.slice p.ls c.ls.length p.cls,.slice p.fs c.fs.length p.cfs,.int .i64 c.gua] 44)) ((w.alloc (.cells #[.int .i64 c.rep,.int .i64 c.rel,.int .i64 c.con,.int .i64 c.sit,.int .i64 c.lay,.int .i64 c.nf,.int .i64 c.nt,.slice p.cs c.cs.length p.ccs,.slice p.rs c.rs.length p.crs,.slice p.os c.os.length p.cos,.slice p.cr (len c.cr) p.ccr,.slice p.ls c.ls.length p.cls,.slice p.fs c.fs.length p.cfs,.int .i64 c.gua] 44)).alloc (.cells #[.int .i64 x.a.op,.int .i64 x.a.num,.string x.a.name,.slice x.a.ptr (len x.k) x.a.cap] 25)):=below_box _ _
 have B0:=Lib.hid (b1.trans (b2.mono b1.size))
 have X0:=Lib.hid (hx.next B0.out)
 have C0:=Lib.hid ((CtBox.start w c p).next b2)
 have Y0:Hid (BX4 ((w.alloc (.cells #[.int .i64 c.rep,.int .i64 c.rel,.int .i64 c.con,.int .i64 c.sit,.int .i64 c.lay,.int .i64 c.nf,.int .i64 c.nt,.slice p.cs c.cs.length p.ccs,.slice p.rs c.rs.length p.crs,.slice p.os c.os.length p.cos,.slice p.cr (len c.cr) p.ccr,.slice p.ls c.ls.length p.cls,.slice p.fs c.fs.length p.cfs,.int .i64 c.gua] 44)).alloc (.cells #[.int .i64 x.a.op,.int .i64 x.a.num,.string x.a.name,.slice x.a.ptr (len x.k) x.a.cap] 25)) (w.heap.size+1) (.int .i64 x.a.op) (.int .i64 x.a.num) (.string x.a.name) (.slice x.a.ptr (len x.k) x.a.cap)):=by
  have h:=BX4.new (w.alloc (.cells #[.int .i64 c.rep,.int .i64 c.rel,.int .i64 c.con,.int .i64 c.sit,.int .i64 c.lay,.int .i64 c.nf,.int .i64 c.nt,.slice p.cs c.cs.length p.ccs,.slice p.rs c.rs.length p.crs,.slice p.os c.os.length p.cos,.slice p.cr (len c.cr) p.ccr,.slice p.ls c.ls.length p.cls,.slice p.fs c.fs.length p.cfs,.int .i64 c.gua] 44)) (.int .i64 x.a.op) (.int .i64 x.a.num) (.string x.a.name) (.slice x.a.ptr (len x.k) x.a.cap) 25
  rw [World.size_alloc] at h
  exact h
 have OX:=Lib.hid (fun (s:ByteArray) (hs:s.size≤9223372036854775807) (wq:World) (h:SxV wq sc x)=>ofS_any sc x s wq h hs)
 clear b1 b2 hx
 go_enter Tryz.func34,Tryz.ntmps34
 by_cases h1:sc=1
 · subst h1
   have RV:Hid (R=pC name (decide (atS 1 name=3)) x):=V.out
   clear V hcr hk
   go_wp2_with (fail)
   refine (OX.out name (by omega) _ X0.out).mono ?_
   rintro e w1 ⟨⟨z,rfl⟩,hb⟩
   go_wp2
   go_ret
   exact ⟨ret_int RV.out.symm,B0.out.trans (hb.mono B0.out.size)⟩
 have n1:(sc==1)=false:=by simp [h1]
 by_cases h2:sc=2
 · subst h2
   have RV:Hid (R=cbE (pC (befN++name) (decide (atS 2 (befN++name)=3)) x) (pC (aftN++name) (decide (atS 2 (aftN++name)=3)) x)):=V.out
   have l1:¬ 9223372036854775807 < 7+name.size:=by omega
   have l2:¬ 9223372036854775807 < 6+name.size:=by omega
   clear V hcr hk
   go_wp2_with (fail)
   refine (OX.out (befN++name) (by rw [ByteArray.size_append];show 7+name.size≤_;omega) _ X0.out).mono ?_
   rintro e w1 ⟨⟨z,rfl⟩,hb⟩
   have X1:=Lib.hid (X0.out.next hb)
   have Y1:=Lib.hid (Y0.out.next hb)
   have B1:=Lib.hid (B0.out.trans (hb.mono B0.out.size))
   have x0:=Y1.out.r0
   have x1:=Y1.out.r1
   have x2:=Y1.out.r2
   have x3:=Y1.out.r3
   clear hb
   go_wp2_with (fail)
   refine (OX.out (aftN++name) (by rw [ByteArray.size_append];show 6+name.size≤_;omega) _ X1.out).mono ?_
   rintro e w2 ⟨⟨z2,rfl⟩,hb⟩
   go_wp2_with (go_at_call 33;refine (rcomb_any _ _ _).mono ?_;rintro e w' ⟨rfl,rfl⟩)
   go_ret
   exact ⟨ret_int RV.out.symm,B1.out.trans (hb.mono B1.out.size)⟩
 have n2:(sc==2)=false:=by simp [h2]
 have RW:Hid (R=cbE (if lhb name=true then pC name (decide (atS sc name=3)) x else 0) (thr (pC crdN (decide (atS sc crdN=3)) x) (crT name (decide (atS 1 name=3)) c.cr))):=by unfold Hid;rw [V.out,if_neg h1,if_neg h2]
 clear V
 go_upto_region 1 with (fail)
 have H10:Hid (((w.alloc (.cells #[.int .i64 c.rep,.int .i64 c.rel,.int .i64 c.con,.int .i64 c.sit,.int .i64 c.lay,.int .i64 c.nf,.int .i64 c.nt,.slice p.cs c.cs.length p.ccs,.slice p.rs c.rs.length p.crs,.slice p.os c.os.length p.cos,.slice p.cr (len c.cr) p.ccr,.slice p.ls c.ls.length p.cls,.slice p.fs c.fs.length p.cfs,.int .i64 c.gua] 44)).alloc (.cells #[.int .i64 x.a.op,.int .i64 x.a.num,.string x.a.name,.slice x.a.ptr (len x.k) x.a.cap] 25)).cell? ⟨w.heap.size,10,none⟩=some (.slice p.cr (len c.cr) p.ccr)):=C0.out.c10
 obtain ⟨hlen,hok,bq,oq,hpq,hatq⟩:=hcr
 have HAT:=Lib.hid (hatq.next B0.out)
 have HK:Hid (∀ b o a k r,c.cr=.node b o a k r→SxV ((w.alloc (.cells #[.int .i64 c.rep,.int .i64 c.rel,.int .i64 c.con,.int .i64 c.sit,.int .i64 c.lay,.int .i64 c.nf,.int .i64 c.nt,.slice p.cs c.cs.length p.ccs,.slice p.rs c.rs.length p.crs,.slice p.os c.os.length p.cos,.slice p.cr (len c.cr) p.ccr,.slice p.ls c.ls.length p.cls,.slice p.fs c.fs.length p.cfs,.int .i64 c.gua] 44)).alloc (.cells #[.int .i64 x.a.op,.int .i64 x.a.num,.string x.a.name,.slice x.a.ptr (len x.k) x.a.cap] 25)) 1 ⟨b,o,a,k⟩):=fun b o a k r e=>(hk b o a k r e).next B0.out
 have LB:Hid (lhb name=decide (name.toList=[108,101,103,115]∨name.toList=[104,101,97,100,115]∨name.toList=[98,108,111,99,107])):=rfl
 clear C0 hk hatq hok hlen n1 n2
 have n1:(sc==1)=false:=by simp [h1]
 have n2:(sc==2)=false:=by simp [h2]
 clear h1 h2
 generalize (w.alloc (.cells #[.int .i64 c.rep,.int .i64 c.rel,.int .i64 c.con,.int .i64 c.sit,.int .i64 c.lay,.int .i64 c.nf,.int .i64 c.nt,.slice p.cs c.cs.length p.ccs,.slice p.rs c.rs.length p.crs,.slice p.os c.os.length p.cos,.slice p.cr (len c.cr) p.ccr,.slice p.ls c.ls.length p.cls,.slice p.fs c.fs.length p.cfs,.int .i64 c.gua] 44)).alloc (.cells #[.int .i64 x.a.op,.int .i64 x.a.num,.string x.a.name,.slice x.a.ptr (len x.k) x.a.cap] 25)=w0 at *
 generalize hK:c.cr=K at *
 clear hK
 have u0:=Y0.out.r0
 have u1:=Y0.out.r1
 have u2:=Y0.out.r2
 have u3:=Y0.out.r3
 go_upto_region 10 with (fail)
 go_cut [60] (fun v wx=>v=.bool (lhb name)∧wx=w0)
 case first =>
  go_wp2
  all_goals go_meet
  all_goals
   refine ⟨?_,rfl⟩
   rw [LB.out]
   congr 1
   rw [Bool.eq_iff_iff]
   simp_all [or_assoc]
 case rest =>
  obtain ⟨rfl,rfl⟩:=hcut
  go_upto_if 60 with (fail)
  go_cut [15] (fun v wx=>v=.int .i64 (if lhb name=true then pC name (decide (atS sc name=3)) x else 0)∧Hid (Below wc.heap.size wc wx))
  case first =>
   go_wp2_with (fail)
   · have lb:lhb name=true:=by assumption
     refine (OX.out name (by omega) _ X0.out).mono ?_
     rintro e w1 ⟨⟨z1,rfl⟩,hb⟩
     have HB:=Lib.hid hb
     clear hb
     go_wp2
     go_meet
     exact ⟨by rw [if_pos lb],HB.out⟩
   · have lb:lhb name=false:=by assumption
     go_meet
     exact ⟨by rw [if_neg (by simp [lb])],Below.refl _ _⟩
  case rest =>
   obtain ⟨rfl,HC⟩:=hcut
   obtain ⟨T,hT⟩:∃ T,(if lhb name=true then pC name (decide (atS sc name=3)) x else 0)=T:=⟨_,rfl⟩
   rw [hT]
   have RW2:Hid (R=cbE T (thr (pC crdN (decide (atS sc crdN=3)) x) (crT name (decide (atS 1 name=3)) K))):=by unfold Hid;rw [RW.out,hT]
   clear hT RW LB
   have X1:=Lib.hid (X0.out.next HC.out)
   have Y1:=Lib.hid (Y0.out.next HC.out)
   have B1:=Lib.hid (B0.out.trans (HC.out.mono B0.out.size))
   have G1:=Lib.hid (cell_next H10.out HC.out)
   have A1:=Lib.hid (HAT.out.next HC.out)
   have Z1:Hid (∀ b o a k r,K=.node b o a k r→SxV _ 1 ⟨b,o,a,k⟩):=fun b o a k r e=>(HK.out b o a k r e).next HC.out
   clear X0 Y0 B0 H10 HAT HK HC u0 u1 u2 u3
   have u0:=Y1.out.r0
   have u1:=Y1.out.r1
   have u2:=Y1.out.r2
   have u3:=Y1.out.r3
   go_wp2_with (fail)
   refine (OX.out crdN (by decide) _ X1.out).mono ?_
   rintro e w2 ⟨⟨z2,rfl⟩,hb⟩
   have B2:=Lib.hid (B1.out.trans (hb.mono B1.out.size))
   have G2:=Lib.hid (cell_next G1.out hb)
   have A2:=Lib.hid (A1.out.next hb)
   have Z2:Hid (∀ b o a k r,K=.node b o a k r→SxV w2 1 ⟨b,o,a,k⟩):=fun b o a k r e=>(Z1.out b o a k r e).next hb
   clear hb X1 Y1 B1 G1 A1 Z1 u0 u1 u2 u3 OX
   have h10:=G2.out
   cases K with
   | nil =>
     have hl0:¬ (0:Int) < ((len (BT.nil:Fo):Nat):Int):=by simp [len]
     go_wp2_with (first|(go_at_call 66;refine (rthr_any _ _ _).mono ?_;rintro e w' ⟨rfl,rfl⟩)|(go_at_call 33;refine (rcomb_any _ _ _).mono ?_;rintro e w' ⟨rfl,rfl⟩))
     all_goals first
      | (have RV:R=cbE T (thr (pC crdN (decide (atS sc crdN=3)) x) 1):=by rw [RW2.out];unfold crT;simp_all
         go_ret
         exact ⟨ret_int RV.symm,B2.out⟩)
      | (have RV:R=cbE T (thr (pC crdN (decide (atS sc crdN=3)) x) 0):=by rw [RW2.out];unfold crT;simp_all
         go_ret
         exact ⟨ret_int RV.symm,B2.out⟩)
   | node b1 o1 a1 k1 r1 =>
     obtain hpp:p.cr=some ⟨bq,oq,none⟩:=hpq (by simp)
     rw [hpp] at h10
     have hl0:(0:Int) < (len (BT.node b1 o1 a1 k1 r1):Int):=by simp only [len];omega
     have Z3:=Lib.hid (Z2.out b1 o1 a1 k1 r1 rfl)
     have RV:Hid (R=cbE T (thr (pC crdN (decide (atS sc crdN=3)) x) (pC name (decide (atS 1 name=3)) ⟨b1,o1,a1,k1⟩))):=RW2.out
     obtain ⟨⟨d0,d1,d2,d3⟩,-⟩:=A2.out
     clear hpp hpq Z2 RW2
     go_wp2_with (fail)
     refine (ofS_any 1 ⟨b1,o1,a1,k1⟩ name _ Z3.out (by omega)).mono ?_
     rintro e w3 ⟨⟨z3,rfl⟩,hb⟩
     have B3:=Lib.hid (B2.out.trans (hb.mono B2.out.size))
     clear hb d0 d1 d2 d3 h10
     go_wp2_with (first|(go_at_call 66;refine (rthr_any _ _ _).mono ?_;rintro e w' ⟨rfl,rfl⟩)|(go_at_call 33;refine (rcomb_any _ _ _).mono ?_;rintro e w' ⟨rfl,rfl⟩))
     go_ret
     exact ⟨ret_int RV.out.symm,B3.out⟩
end Go.Proofs.YtfoedbfkddoibaaGreat
