import Derived.Test.YtfoedbfkddoibaaGreatTdn
import Derived.Test.YtfoedbfkddoibaaGreatCtL
namespace Go.Proofs.YtfoedbfkddoibaaGreat
set_option linter.unusedVariables false
set_option linter.unusedSimpArgs false
open Go.ChangeShapes Go.WideShapes Go.ChangeAt Go.RowKit
open Go.Deep (BT)
set_option maxHeartbeats 4000000 in
set_option maxRecDepth 100000 in
theorem walk_trendContracts (c:Ct) (p:Cp) (s:ByteArray) (w:World) (hv:CtV w c p) (hs:s.size≤9223372036854775807) :
 Calls Tryz.prog 5 #[.agg #[.int .i64 c.rep,.int .i64 c.rel,.int .i64 c.con,.int .i64 c.sit,.int .i64 c.lay,.int .i64 c.nf,.int .i64 c.nt,.slice p.cs c.cs.length p.ccs,.slice p.rs c.rs.length p.crs,.slice p.os c.os.length p.cos,.slice p.cr (len c.cr) p.ccr,.slice p.ls c.ls.length p.cls,.slice p.fs c.fs.length p.cfs,.int .i64 c.gua],.string s] w fun e w'=>e=.returned (.bool true)∧Below w.heap.size w w':=by
 have HV:=Lib.hid hv
 clear hv
 have AW:=Lib.hid tawake_any
 have OP:=Lib.hid (fun (wq:World) h=>ocP_any c p s wq h)
 have OR:=Lib.hid (fun (wq:World) h=>ocR_any c p s wq h hs)
 go_enter Tryz.func5,Tryz.ntmps5
 go_upto_region 1 with (fail)
 have X0:=Lib.hid (CtBox.start w c p)
 have B0:=Lib.hid (below_box w (.cells #[.int .i64 c.rep,.int .i64 c.rel,.int .i64 c.con,.int .i64 c.sit,.int .i64 c.lay,.int .i64 c.nf,.int .i64 c.nt,.slice p.cs c.cs.length p.ccs,.slice p.rs c.rs.length p.crs,.slice p.os c.os.length p.cos,.slice p.cr (len c.cr) p.ccr,.slice p.ls c.ls.length p.cls,.slice p.fs c.fs.length p.cfs,.int .i64 c.gua] 44))
 generalize w.alloc (.cells #[.int .i64 c.rep,.int .i64 c.rel,.int .i64 c.con,.int .i64 c.sit,.int .i64 c.lay,.int .i64 c.nf,.int .i64 c.nt,.slice p.cs c.cs.length p.ccs,.slice p.rs c.rs.length p.crs,.slice p.os c.os.length p.cos,.slice p.cr (len c.cr) p.ccr,.slice p.ls c.ls.length p.cls,.slice p.fs c.fs.length p.cfs,.int .i64 c.gua] 44)=w0 at *
 obtain ⟨c0,c1,c2,c3,c4,c5,c6,c7,c8,c9,c10,c11,c12,c13,hlt⟩:=X0.out
 go_wp2_with fail
 refine (light_any c p w0 (HV.out.next B0.out)).mono ?_
 rintro e w1 ⟨m,rfl,hb⟩
 have B1:=Lib.hid (B0.out.trans (hb.mono B0.out.size))
 have X1:=Lib.hid (X0.out.next hb)
 clear hb c0 c1 c2 c3 c4 c5 c6 c7 c8 c9 c10 c11 c12 c13 hlt
 cases m with
 | false =>
   go_wp2_with fail
   refine (AW.out w1).mono ?_
   rintro e w2 ⟨rfl,hb⟩
   have B2:=Lib.hid (B1.out.trans (hb.mono B1.out.size))
   clear hb
   go_wp2
   go_ret
   exact ⟨rfl,B2.out⟩
 | true =>
   obtain ⟨c0,c1,c2,c3,c4,c5,c6,c7,c8,c9,c10,c11,c12,c13,hlt⟩:=X1.out
   go_wp2_with fail
   refine (OP.out w1 (HV.out.next B1.out)).mono ?_
   rintro e w3 ⟨rfl,hb⟩
   have X3:=Lib.hid (X1.out.next hb)
   have B3:=Lib.hid (B1.out.trans (hb.mono B1.out.size))
   clear hb c0 c1 c2 c3 c4 c5 c6 c7 c8 c9 c10 c11 c12 c13 hlt X1 B1
   obtain ⟨c0,c1,c2,c3,c4,c5,c6,c7,c8,c9,c10,c11,c12,c13,hlt⟩:=X3.out
   go_wp2_with fail
   refine (OR.out w3 (HV.out.next B3.out)).mono ?_
   rintro e w4 ⟨rfl,hb⟩
   have B4:=Lib.hid (B3.out.trans (hb.mono B3.out.size))
   clear hb c0 c1 c2 c3 c4 c5 c6 c7 c8 c9 c10 c11 c12 c13 hlt
   generalize octT c s=R at *
   obtain ⟨z1,z2⟩:=R
   go_wp2_with fail
   refine (AW.out w4).mono ?_
   rintro e w5 ⟨rfl,hb⟩
   have B5:=Lib.hid (B4.out.trans (hb.mono B4.out.size))
   clear hb
   go_wp2
   go_ret
   exact ⟨rfl,B5.out⟩
end Go.Proofs.YtfoedbfkddoibaaGreat
