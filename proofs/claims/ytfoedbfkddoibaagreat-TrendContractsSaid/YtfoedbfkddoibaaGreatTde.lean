import Derived.Test.YtfoedbfkddoibaaGreatTsE
import Derived.Test.YtfoedbfkddoibaaGreatCtW
namespace Go.Proofs.YtfoedbfkddoibaaGreat
set_option linter.unusedVariables false
set_option linter.unusedSimpArgs false
open Go.ChangeShapes Go.WideShapes Go.ChangeAt Go.RowKit
open Go.Deep (BT)
def crT (name:ByteArray) (clk:Bool):Fo→Int
 | .node _ _ a k _=>pT1 name clk a (sgF k) (pTF name clk k)
 | .nil=>if name.toList=[98,108,111,99,107] then 1 else 0
set_option maxHeartbeats 4000000 in
set_option maxRecDepth 100000 in
theorem crT_any (c:Ct) (p:Cp) (name:ByteArray) (clk:Bool) (w:World) (hcr:CrV w c.cr p.cr) (hw:wfT c.cr=true) (hz:sz c.cr≤200) :
 Calls Tryz.prog 29 #[.agg #[.int .i64 c.rep,.int .i64 c.rel,.int .i64 c.con,.int .i64 c.sit,.int .i64 c.lay,.int .i64 c.nf,.int .i64 c.nt,.slice p.cs c.cs.length p.ccs,.slice p.rs c.rs.length p.crs,.slice p.os c.os.length p.cos,.slice p.cr (len c.cr) p.ccr,.slice p.ls c.ls.length p.cls,.slice p.fs c.fs.length p.cfs,.int .i64 c.gua],.agg #[.string name,.bool clk]] w fun e w'=>e=.returned (.int .i64 (crT name clk c.cr))∧Below w.heap.size w w':=by
 have bx:Below w.heap.size w ((w.alloc (.cells #[.int .i64 c.rep,.int .i64 c.rel,.int .i64 c.con,.int .i64 c.sit,.int .i64 c.lay,.int .i64 c.nf,.int .i64 c.nt,.slice p.cs c.cs.length p.ccs,.slice p.rs c.rs.length p.crs,.slice p.os c.os.length p.cos,.slice p.cr (len c.cr) p.ccr,.slice p.ls c.ls.length p.cls,.slice p.fs c.fs.length p.cfs,.int .i64 c.gua] 44)).alloc (.cells #[.string name,.bool clk] 57)):=by
  repeat (first|exact Below.refl _ _|refine Below.alloc ?_ (by first|exact Nat.le_refl _|(simp<;>omega)) _)
 have BX:=Lib.hid bx
 obtain ⟨hlen,hok,b,o,hp,hat⟩:=hcr
 have V:Hid (crT name clk c.cr=match c.cr with|.node _ _ a k _=>pT1 name clk a (sgF k) (pTF name clk k)|.nil=>if name.toList=[98,108,111,99,107] then 1 else 0):=by unfold Hid crT;cases c.cr<;>rfl
 generalize crT name clk c.cr=R at *
 generalize hk:c.cr=K at *
 cases K with
 | nil =>
   clear hp hat hok hw hz bx hk
   go_enter Tryz.func29,Tryz.ntmps29
   go_wp2_with fail
   go_loopw [10] (fun i wr=>i=.int .i64 0∧Below w.heap.size w wr∧wr.cell? ⟨w.heap.size+1,0,none⟩=some (.string name)) (fun i _=>0)
   case atStart=>exact ⟨rfl,BX.out,by simp [go_sem]⟩
   case round =>
    obtain ⟨rfl,hb,hc⟩:=hrel
    have B1:=Lib.hid hb
    clear hb
    have h00:¬ (0:Int) < ((len (BT.nil:Fo):Nat):Int):=by simp [len]
    go_wp2
    all_goals first
     | (have RV:R=1:=by rw [V.out];simp_all
        go_ret
        exact ⟨ret_int RV.symm,B1.out⟩)
     | (have RV:R=0:=by rw [V.out];simp_all
        go_ret
        exact ⟨ret_int RV.symm,B1.out⟩)
 | node b1 o1 a1 k1 r1 =>
   obtain hpp:p.cr=some ⟨b,o,none⟩:=hp (by simp)
   have RV:Hid (R=pT1 name clk a1 (sgF k1) (pTF name clk k1)):=V.out
   have HAT:=Lib.hid hat
   have hwk:=(wfT_node hw).1
   have hz1:sz k1≤200:=by
    have e1:sz (BT.node b1 o1 a1 k1 r1)=1+sz k1+sz r1:=rfl
    omega
   have TC:=Lib.hid (fun wq hx=>tof_any name clk b1 o1 a1 k1 wq hx ⟨hok.1,hok.2.1⟩ hwk hz1)
   rw [← RV.out] at TC
   have hl0:(0:Int) < (len (BT.node b1 o1 a1 k1 r1):Int):=by simp only [len];omega
   rw [hpp] at BX ⊢
   clear hok hw hz hat hp hwk hz1 hk V bx hpp
   go_enter Tryz.func29,Tryz.ntmps29
   go_wp2_with fail
   go_loopw [10] (fun i wr=>i=.int .i64 0∧Hid (Below w.heap.size w wr∧wr.cell? ⟨w.heap.size+1,0,none⟩=some (.string name)∧wr.cell? ⟨w.heap.size+1,1,none⟩=some (.bool clk))) (fun i _=>0)
   case atStart=>exact ⟨rfl,BX.out,by simp [go_sem],by simp [go_sem]⟩
   case round =>
    obtain ⟨rfl,HR⟩:=hrel
    obtain ⟨⟨c0,c1,c2,c3⟩,hp1,hk1,-⟩:=HAT.out.next HR.out.1
    have bb:Below wr.heap.size wr (wr.alloc (.cells #[.int .i64 a1.op,.int .i64 a1.num,.string a1.name,.slice a1.ptr (len k1) a1.cap] 25)):=below_box _ _
    have X1:=Lib.hid (show ExAt (wr.alloc (.cells #[.int .i64 a1.op,.int .i64 a1.num,.string a1.name,.slice a1.ptr (len k1) a1.cap] 25)) b1 o1 a1 k1 from ExAt.next (w:=wr) ⟨hp1,hk1⟩ bb)
    have q0:(wr.alloc (.cells #[.int .i64 a1.op,.int .i64 a1.num,.string a1.name,.slice a1.ptr (len k1) a1.cap] 25)).cell? ⟨w.heap.size+1,0,none⟩=some (.string name):=by rw [bb.cell (block_lt_of_cell HR.out.2.1)];exact HR.out.2.1
    have q1:(wr.alloc (.cells #[.int .i64 a1.op,.int .i64 a1.num,.string a1.name,.slice a1.ptr (len k1) a1.cap] 25)).cell? ⟨w.heap.size+1,1,none⟩=some (.bool clk):=by rw [bb.cell (block_lt_of_cell HR.out.2.2)];exact HR.out.2.2
    have B2:=Lib.hid (HR.out.1.trans (bb.mono HR.out.1.size))
    have CC:=Lib.hid (TC.out _ X1.out)
    clear hp1 hk1 bb
    go_wp2_with fail
    refine CC.out.mono ?_
    rintro e w3 ⟨rfl,hb⟩
    have B3:=Lib.hid (B2.out.trans (hb.mono B2.out.size))
    clear hb
    go_wp2
    go_ret
    exact ⟨rfl,B3.out⟩
end Go.Proofs.YtfoedbfkddoibaaGreat
