import Derived.Test.YtljdcpobomfnpaaGreatGi
namespace Go.Proofs.YtljdcpobomfnpaaGreat
set_option linter.unusedVariables false
set_option linter.unusedSimpArgs false
set_option maxRecDepth 100000
open Go.ChangeShapes Go.WideShapes Go.ChangeAt Go.RowKit
open Go.Deep (BT)
open Go.Maps (has size IsMap)
theorem take_snoc {α β:Type} (f:α→β) {L:List α} {j:Nat} {x:α} (h:L[j]?=some x):(L.take (j+1)).map f=(L.take j).map f++[f x]:=by rw [List.take_add_one,h];simp
theorem Tryz.zeroB (w:World):(zeroValue 4).run Tryz.prog w=.ok (.bool false) w:=by kernel_rfl
def SS (w:World) (b:Nat) (L:List ByteArray):Prop:=SetM Tryz.prog 9 4 (fun s:ByteArray=>Value.string s) w b L
theorem ss_look {w:World} {b:Nat} {L:List ByteArray} (h:SS w b L) (s:ByteArray) (hs:s.size≤maxLen):(Instr.lookup 112 (.map (some b)) (.string s) false).run Tryz.prog w=.ok (.bool (dupB L s)) w :=
 SetM.look h Tryz.keyS Tryz.underlying112 Tryz.underlying4 (Tryz.zeroB w) s (Go.WideMaps.keyOf_string_mk Tryz.underlying9 hs)
theorem ss_put {w:World} {b:Nat} {L:List ByteArray} (h:SS w b L) (s:ByteArray) (hs:s.size≤maxLen) (hl:L.length < maxLen):∃ w',(Instr.mapUpdate 112 (.map (some b)) (.string s) (.bool true)).run Tryz.prog w=.ok () w'∧SS w' b (L++[s])∧w.grownBy w' (some b) :=
 SetM.put h Tryz.keyS Tryz.underlying112 Tryz.underlying4 hl (fun x y q=>by injection q) s (Go.WideMaps.keyOf_string_mk Tryz.underlying9 hs)
structure CtBox (w:World) (g:Nat) (c:Ct) (p:Cp):Prop where
 c0:w.cell? ⟨g,0,none⟩=some (.int .i64 c.rep)
 c1:w.cell? ⟨g,1,none⟩=some (.int .i64 c.rel)
 c2:w.cell? ⟨g,2,none⟩=some (.int .i64 c.con)
 c3:w.cell? ⟨g,3,none⟩=some (.int .i64 c.sit)
 c4:w.cell? ⟨g,4,none⟩=some (.int .i64 c.lay)
 c5:w.cell? ⟨g,5,none⟩=some (.int .i64 c.nf)
 c6:w.cell? ⟨g,6,none⟩=some (.int .i64 c.nt)
 c7:w.cell? ⟨g,7,none⟩=some (.slice p.cs c.cs.length p.ccs)
 c8:w.cell? ⟨g,8,none⟩=some (.slice p.rs c.rs.length p.crs)
 c9:w.cell? ⟨g,9,none⟩=some (.slice p.os c.os.length p.cos)
 c10:w.cell? ⟨g,10,none⟩=some (.slice p.cr (len c.cr) p.ccr)
 c11:w.cell? ⟨g,11,none⟩=some (.slice p.ls c.ls.length p.cls)
 c12:w.cell? ⟨g,12,none⟩=some (.slice p.fs c.fs.length p.cfs)
 c13:w.cell? ⟨g,13,none⟩=some (.int .i64 c.gua)
 lt:g < w.heap.size
theorem CtBox.next {w w':World} {g:Nat} {c:Ct} {p:Cp} (h:CtBox w g c p) (hb:Below w.heap.size w w'):CtBox w' g c p where
 c0:=cell_next h.c0 hb
 c1:=cell_next h.c1 hb
 c2:=cell_next h.c2 hb
 c3:=cell_next h.c3 hb
 c4:=cell_next h.c4 hb
 c5:=cell_next h.c5 hb
 c6:=cell_next h.c6 hb
 c7:=cell_next h.c7 hb
 c8:=cell_next h.c8 hb
 c9:=cell_next h.c9 hb
 c10:=cell_next h.c10 hb
 c11:=cell_next h.c11 hb
 c12:=cell_next h.c12 hb
 c13:=cell_next h.c13 hb
 lt:=Nat.lt_of_lt_of_le h.lt hb.size
theorem CtBox.grown {w w':World} {g nb:Nat} {c:Ct} {p:Cp} (h:CtBox w g c p) (hb:w.grownBy w' (some nb)) (hn:g≠nb):CtBox w' g c p where
 c0:=hb.cell h.c0 (fun e=>hn (Option.some.inj e))
 c1:=hb.cell h.c1 (fun e=>hn (Option.some.inj e))
 c2:=hb.cell h.c2 (fun e=>hn (Option.some.inj e))
 c3:=hb.cell h.c3 (fun e=>hn (Option.some.inj e))
 c4:=hb.cell h.c4 (fun e=>hn (Option.some.inj e))
 c5:=hb.cell h.c5 (fun e=>hn (Option.some.inj e))
 c6:=hb.cell h.c6 (fun e=>hn (Option.some.inj e))
 c7:=hb.cell h.c7 (fun e=>hn (Option.some.inj e))
 c8:=hb.cell h.c8 (fun e=>hn (Option.some.inj e))
 c9:=hb.cell h.c9 (fun e=>hn (Option.some.inj e))
 c10:=hb.cell h.c10 (fun e=>hn (Option.some.inj e))
 c11:=hb.cell h.c11 (fun e=>hn (Option.some.inj e))
 c12:=hb.cell h.c12 (fun e=>hn (Option.some.inj e))
 c13:=hb.cell h.c13 (fun e=>hn (Option.some.inj e))
 lt:=Nat.lt_of_lt_of_le h.lt hb.size
theorem CtBox.start (w:World) (c:Ct) (p:Cp):CtBox (w.alloc (.cells #[.int .i64 c.rep,.int .i64 c.rel,.int .i64 c.con,.int .i64 c.sit,.int .i64 c.lay,.int .i64 c.nf,.int .i64 c.nt,.slice p.cs c.cs.length p.ccs,.slice p.rs c.rs.length p.crs,.slice p.os c.os.length p.cos,.slice p.cr (len c.cr) p.ccr,.slice p.ls c.ls.length p.cls,.slice p.fs c.fs.length p.cfs,.int .i64 c.gua] 30)) w.heap.size c p where
 c0:=by simp [go_sem]
 c1:=by simp [go_sem]
 c2:=by simp [go_sem]
 c3:=by simp [go_sem]
 c4:=by simp [go_sem]
 c5:=by simp [go_sem]
 c6:=by simp [go_sem]
 c7:=by simp [go_sem]
 c8:=by simp [go_sem]
 c9:=by simp [go_sem]
 c10:=by simp [go_sem]
 c11:=by simp [go_sem]
 c12:=by simp [go_sem]
 c13:=by simp [go_sem]
 lt:=by simp
def inB (n lo hi:Int):Bool:=decide (lo≤n∧n≤hi)
set_option maxHeartbeats 1000000 in
theorem within_any (n lo hi:Int) (w:World):Calls Tryz.prog 33 #[.int .i64 n,.int .i64 lo,.int .i64 hi] w fun e w'=>e=.returned (.bool (inB n lo hi))∧w=w':=by
 by_cases h1:lo≤n
 · have hb:decide (n ≥ lo)=true:=decide_eq_true h1
   go_enter Tryz.func33,Tryz.ntmps33
   go_wp2
   all_goals
    go_ret
    exact ⟨ret_bool (by unfold inB;simp [h1]),rfl⟩
 · have hb:¬ n ≥ lo:=h1
   go_enter Tryz.func33,Tryz.ntmps33
   go_wp2
   all_goals
    go_ret
    exact ⟨ret_bool (by unfold inB;rw [decide_eq_false (by omega)]),rfl⟩
theorem scope_any (n:Int) (w:World):Calls Tryz.prog 36 #[.int .i64 n] w fun e w'=>e=.returned (.bool (scB n))∧w=w':=by
 have S:Hid (scB n=inB n 1 3):=rfl
 go_enter Tryz.func36,Tryz.ntmps36
 go_wp2_with (go_at_call 33;refine (within_any _ _ _ _).mono ?_;rw [← S.out];rintro e w1 ⟨rfl,rfl⟩)
 go_ret
 exact ⟨rfl,rfl⟩
def measK (s:ByteArray):Int:=if measT s=2 then 3 else if measT s=1 then 2 else 0
theorem measK_zero (s:ByteArray):measK s=0↔measT s=0:=by
 have h:measT s=2∨measT s=1∨measT s=0:=by
  unfold measT
  split
  · exact .inl rfl
  · split
    · exact .inr (.inl rfl)
    · exact .inr (.inr rfl)
 unfold measK
 rcases h with h|h|h<;>simp [h]
set_option maxHeartbeats 2000000 in
theorem meas_any (s:ByteArray) (w:World):Calls Tryz.prog 64 #[.string s] w fun e w'=>e=.returned (.int .i64 (measK s))∧w=w':=by
 have R:Hid (measT s=if measWords.1.any (fun x=>s.toList==x)=true then 2 else if measWords.2.any (fun x=>s.toList==x)=true then 1 else 0):=by unfold Hid measT;rw [Lib.toList_data]
 go_enter Tryz.func64,Tryz.ntmps64
 go_wp2
 all_goals
  go_ret
  refine ⟨ret_int ?_,rfl⟩
  unfold measK
  rw [R.out]
  simp only [measWords,List.any_cons,List.any_nil]
  clear R
  simp_all
def rkV (x:Int × ByteArray):Value:=.agg #[.int .i64 x.1,.string x.2]
theorem Tryz.wideK:(match Tryz.prog.underlying 115 with|some (.array _ _)|some (.struct _)=>true|_=>false)=true:=by kernel_rfl
theorem Tryz.keyR:Go.Maps.Keyed Tryz.prog 115:=Go.Maps.Keyed.of_law (deep_law_laid (by kernel_rfl) (m:=2) (by omega) (of_decide_eq_true (by kernel_rfl)) (by kernel_rfl) Tryz.wideK)
theorem rkey_of (sc:Int) (s:ByteArray) (h1:(Lit.int .i64 sc).wf=true) (h2:s.size≤maxLen):∃ kl,keyOf Tryz.prog 115 (.agg #[.int .i64 sc,.string s])=some kl:=by
 obtain ⟨m,hm⟩:∃ m,Tryz.prog.types.size=m+1:=⟨Tryz.prog.types.size - 1,by have:0 < Tryz.prog.types.size:=of_decide_eq_true (by kernel_rfl);omega⟩
 have hkt:Tryz.prog.keyType 115=true:=by kernel_rfl
 have hc:Tryz.prog.cellsOf 115=2:=by kernel_rfl
 have hi:Tryz.prog.cellsOf 3=1:=by kernel_rfl
 have hs:Tryz.prog.cellsOf 9=1:=by kernel_rfl
 have hf:(Value.agg #[.int .i64 sc,.string s]).formed Tryz.prog 115=true:=by simp [Value.formed,Tryz.underlying115,hc]
 have k0:Tryz.prog.keyLits (m+1) 3 [.int .i64 sc]=some [.int .i64 sc]:=by simp [Program.keyLits,Tryz.underlying3,h1]
 have k1:Tryz.prog.keyLits (m+1) 9 [.string s]=some [.string s.data.toList]:=by simp [Program.keyLits,Tryz.underlying9,h2]
 have kk:Tryz.prog.keyLits (Tryz.prog.types.size+1) 115 [.int .i64 sc,.string s]=some [.int .i64 sc,.string s.data.toList]:=by
  rw [hm]
  unfold Program.keyLits
  rw [Tryz.underlying115]
  simp [hc,hi,hs,k0,k1]
 refine ⟨.string (keyBytes [.int .i64 sc,.string s.data.toList]),?_⟩
 unfold keyOf
 rw [Tryz.underlying115]
 dsimp only
 rw [hkt,hf]
 show Option.map _ (Tryz.prog.keyLits (Tryz.prog.types.size+1) 115 [.int .i64 sc,.string s])=_
 rw [kk]
 rfl
def RS (w:World) (b:Nat) (L:List (Int × ByteArray)):Prop:=SetM Tryz.prog 115 4 rkV w b L
theorem rs_look {w:World} {b:Nat} {L:List (Int × ByteArray)} (h:RS w b L) (sc:Int) (s:ByteArray) (h1:(Lit.int .i64 sc).wf=true) (hs:s.size≤maxLen):(Instr.lookup 113 (.map (some b)) (.agg #[.int .i64 sc,.string s]) false).run Tryz.prog w=.ok (.bool (dupB L (sc,s))) w:=by
 obtain ⟨kl,hk⟩:=rkey_of sc s h1 hs
 exact SetM.look h Tryz.keyR Tryz.underlying113 Tryz.underlying4 (Tryz.zeroB w) (sc,s) hk
theorem rs_put {w:World} {b:Nat} {L:List (Int × ByteArray)} (h:RS w b L) (sc:Int) (s:ByteArray) (h1:(Lit.int .i64 sc).wf=true) (hs:s.size≤maxLen) (hl:L.length < maxLen):∃ w',(Instr.mapUpdate 113 (.map (some b)) (.agg #[.int .i64 sc,.string s]) (.bool true)).run Tryz.prog w=.ok () w'∧RS w' b (L++[(sc,s)])∧w.grownBy w' (some b):=by
 obtain ⟨kl,hk⟩:=rkey_of sc s h1 hs
 exact SetM.put h Tryz.keyR Tryz.underlying113 Tryz.underlying4 hl (fun x y q=>by
  obtain ⟨x1,x2⟩:=x
  obtain ⟨y1,y2⟩:=y
  simp only [rkV] at q
  injection q with q
  simpa using q) (sc,s) hk
set_option maxHeartbeats 4000000 in
set_option maxRecDepth 100000 in
theorem vconsts_any (cs:List Cn) (p:Option Addr) (cap:Nat) (w:World) (hcs:RowV CnP 5 w cs p) (hl:cs.length≤32) :
 Calls Tryz.prog 34 #[.slice p cs.length cap] w fun e w'=>e=.returned (.int .i64 (fe (conAt cs) 0 cs.length))∧Below w.heap.size w w':=by
 have HCS:=Lib.hid hcs
 clear hcs
 obtain ⟨R,hR⟩:∃ R,fe (conAt cs) 0 cs.length=R:=⟨_,rfl⟩
 have HR0:=Lib.hid hR
 rw [hR]
 clear hR
 have hmm:=@run_makeMap Tryz.prog
 go_enter Tryz.func34,Tryz.ntmps34
 go_wp2_with fail
 go_loopw [10] (fun i wr=>∃ j:Nat,j≤cs.length∧i=.int .i64 j∧Hid (SS wr w.heap.size ((cs.take j).map (·.name))∧Below w.heap.size w wr∧fe (conAt cs) j (cs.length - j)=R)) (fun i _=>cs.length - (intOf i).toNat)
 case atStart=>exact ⟨0,Nat.zero_le _,rfl,SetM.start _ _ _ _ _,(Below.refl _ _).alloc (Nat.le_refl _) _,HR0.out⟩
 case round =>
  obtain ⟨j,hj,rfl,HR⟩:=hrel
  by_cases hlt:j < cs.length
  · obtain ⟨c,hc⟩:∃ c,cs[j]?=some c:=⟨_,List.getElem?_eq_getElem (by omega)⟩
    obtain ⟨B,O,rfl,hP⟩:=HCS.out.get hc
    obtain ⟨d0,⟨⟨d1,d2,d3,d4⟩,hx,hok⟩,hs⟩:=hP.next HR.out.2.1
    have HX:=Lib.hid hP.2.1.2.1
    have HOK:=Lib.hid hok
    have hs':c.name.size≤maxLen:=hs
    have hj1:(j:Int) < (cs.length:Int):=by omega
    have FA:=Lib.hid ((fe_at (f:=conAt cs) hlt).symm.trans HR.out.2.2)
    have CA:Hid (conAt cs j=if declS c.name=false then 1 else if dupB ((cs.take j).map (·.name)) c.name=true then 7 else valE c.a c.k):=by unfold Hid conAt;rw [hc]
    have TS:=Lib.hid (take_snoc (·.name) hc)
    have hln:((cs.take j).map (·.name)).length < maxLen:=by simp [maxLen];omega
    clear hP hx hok hc
    go_upto_region 5 with (fail)
    have B1:Hid (Below w.heap.size w (wr.alloc (.cells #[.string c.name,.int .i64 c.a.op,.int .i64 c.a.num,.string c.a.name,.slice c.a.ptr (len c.k) c.a.cap] 43))):=HR.out.2.1.alloc HR.out.2.1.size _
    have S1:Hid (SS (wr.alloc (.cells #[.string c.name,.int .i64 c.a.op,.int .i64 c.a.num,.string c.a.name,.slice c.a.ptr (len c.k) c.a.cap] 43)) w.heap.size ((cs.take j).map (·.name))):=SetM.next HR.out.1 ((Below.refl _ _).alloc (Nat.le_refl _) _)
    have hgw:w.heap.size < wr.heap.size:=SetM.lt HR.out.1
    have e0:(wr.alloc (.cells #[.string c.name,.int .i64 c.a.op,.int .i64 c.a.num,.string c.a.name,.slice c.a.ptr (len c.k) c.a.cap] 43)).cell? ⟨wr.heap.size,0,none⟩=some (.string c.name):=by simp [go_sem]
    have e1:(wr.alloc (.cells #[.string c.name,.int .i64 c.a.op,.int .i64 c.a.num,.string c.a.name,.slice c.a.ptr (len c.k) c.a.cap] 43)).cell? ⟨wr.heap.size,1,none⟩=some (.int .i64 c.a.op):=by simp [go_sem]
    have e2:(wr.alloc (.cells #[.string c.name,.int .i64 c.a.op,.int .i64 c.a.num,.string c.a.name,.slice c.a.ptr (len c.k) c.a.cap] 43)).cell? ⟨wr.heap.size,2,none⟩=some (.int .i64 c.a.num):=by simp [go_sem]
    have e3:(wr.alloc (.cells #[.string c.name,.int .i64 c.a.op,.int .i64 c.a.num,.string c.a.name,.slice c.a.ptr (len c.k) c.a.cap] 43)).cell? ⟨wr.heap.size,3,none⟩=some (.string c.a.name):=by simp [go_sem]
    have e4:(wr.alloc (.cells #[.string c.name,.int .i64 c.a.op,.int .i64 c.a.num,.string c.a.name,.slice c.a.ptr (len c.k) c.a.cap] 43)).cell? ⟨wr.heap.size,4,none⟩=some (.slice c.a.ptr (len c.k) c.a.cap):=by simp [go_sem]
    generalize wr.alloc (.cells #[.string c.name,.int .i64 c.a.op,.int .i64 c.a.num,.string c.a.name,.slice c.a.ptr (len c.k) c.a.cap] 43)=w1 at *
    have hlook:=ss_look S1.out c.name hs'
    clear d0 d1 d2 d3 d4
    cases hD:declS c.name
    · have HD:=Lib.hid hD
      have RQ:Hid (R=1):=by unfold Hid;rw [← FA.out,CA.out,hD];rfl
      clear hD
      go_wp2_with (go_at_call 61;refine (isdecl_any _ _ hs).mono ?_;rw [HD.out];rintro e w2 ⟨rfl,rfl⟩)
      go_ret
      exact ⟨ret_int RQ.out.symm,B1.out⟩
    · have HD:=Lib.hid hD
      cases hU:dupB ((cs.take j).map (·.name)) c.name
      · have CQ:Hid (conAt cs j=valE c.a c.k):=by unfold Hid;rw [CA.out,hD,hU];rfl
        rw [hU] at hlook
        obtain ⟨w9,hput,hS9,hG9⟩:=ss_put S1.out c.name hs' hln
        have S9:=Lib.hid hS9
        have B9:Hid (Below w.heap.size w w9):=B1.out.grown hG9 B1.out.size (fun m hm=>by cases hm;exact Nat.le_refl _)
        have hne:some wr.heap.size≠some w.heap.size:=by simp;omega
        have f1:=hG9.cell e1 hne
        have f2:=hG9.cell e2 hne
        have f3:=hG9.cell e3 hne
        have f4:=hG9.cell e4 hne
        clear hD hU hS9 hG9
        go_wp2_with (go_at_call 61;refine (isdecl_any _ _ hs).mono ?_;rw [HD.out];rintro e w2 ⟨rfl,rfl⟩)
        refine (vexpr_any c.b c.o _ _ _ _ _ c.k w9 (HX.out.next B9.out) HOK.out).mono ?_
        rintro e w3 ⟨rfl,hb⟩
        have B3:=Lib.hid (B9.out.trans (hb.mono B9.out.size))
        have S3:Hid (SS w3 w.heap.size ((cs.take (j+1)).map (·.name))):=by unfold Hid;rw [TS.out];exact SetM.next S9.out hb
        have CQ2:Hid (conAt cs j=valE ⟨c.a.op,c.a.num,c.a.name,c.a.ptr,c.a.cap⟩ c.k):=CQ.out
        generalize valE ⟨c.a.op,c.a.num,c.a.name,c.a.ptr,c.a.cap⟩ c.k=ve at *
        clear hb hput hlook e0 e1 e2 e3 e4 f1 f2 f3 f4
        by_cases h0:ve=0
        · have b0:(ve != 0)=false:=by simp [h0]
          have RQ:Hid (fe (conAt cs) (j+1) (cs.length - (j+1))=R):=by unfold Hid;rw [← FA.out,CQ2.out,h0,orE_zero]
          clear h0
          go_wp2
          go_roundw
          case rel=>exact ⟨j+1,by omega,by go_num,S3.out,B3.out,RQ.out⟩
          case measure=>simp [intOf];omega
        · have b0:(ve != 0)=true:=by simp [h0]
          have RQ:Hid (R=ve):=by unfold Hid;rw [← FA.out,CQ2.out,orE_ne h0]
          clear h0
          go_wp2
          go_ret
          exact ⟨ret_int RQ.out.symm,B3.out⟩
      · have RQ:Hid (R=7):=by unfold Hid;rw [← FA.out,CA.out,hD,hU];rfl
        rw [hU] at hlook
        clear hD hU
        go_wp2_with (go_at_call 61;refine (isdecl_any _ _ hs).mono ?_;rw [HD.out];rintro e w2 ⟨rfl,rfl⟩)
        go_ret
        exact ⟨ret_int RQ.out.symm,B1.out⟩
  · have hj1:¬ (j:Int) < (cs.length:Int):=by omega
    have RQ:Hid (R=0):=by unfold Hid;rw [← HR.out.2.2,fe_end (by omega)]
    go_wp2
    go_ret
    exact ⟨ret_int RQ.out.symm,HR.out.2.1⟩
set_option maxHeartbeats 4000000 in
set_option maxRecDepth 100000 in
theorem vrules_any (cs:List Ru) (p:Option Addr) (cap:Nat) (w:World) (hcs:RowV RuP 6 w cs p) (hl:cs.length≤40) :
 Calls Tryz.prog 35 #[.slice p cs.length cap] w fun e w'=>e=.returned (.int .i64 (fe (rulAt cs) 0 cs.length))∧Below w.heap.size w w':=by
 have HCS:=Lib.hid hcs
 clear hcs
 obtain ⟨R,hR⟩:∃ R,fe (rulAt cs) 0 cs.length=R:=⟨_,rfl⟩
 have HR0:=Lib.hid hR
 rw [hR]
 clear hR
 have hmm:=@run_makeMap Tryz.prog
 go_enter Tryz.func35,Tryz.ntmps35
 go_wp2_with fail
 go_loopw [11] (fun i wr=>∃ j:Nat,j≤cs.length∧i=.int .i64 j∧Hid (RS wr w.heap.size ((cs.take j).map fun r=>(r.sc,r.name))∧Below w.heap.size w wr∧fe (rulAt cs) j (cs.length - j)=R)) (fun i _=>cs.length - (intOf i).toNat)
 case atStart=>exact ⟨0,Nat.zero_le _,rfl,SetM.start _ _ _ _ _,(Below.refl _ _).alloc (Nat.le_refl _) _,HR0.out⟩
 case round =>
  obtain ⟨j,hj,rfl,HR⟩:=hrel
  by_cases hlt:j < cs.length
  · obtain ⟨c,hc⟩:∃ c,cs[j]?=some c:=⟨_,List.getElem?_eq_getElem (by omega)⟩
    obtain ⟨B,O,rfl,hP⟩:=HCS.out.get hc
    obtain ⟨d0,d1,⟨⟨d2,d3,d4,d5⟩,hx,hok⟩,hbd,hs⟩:=hP.next HR.out.2.1
    have HX:=Lib.hid hP.2.2.1.2.1
    have HOK:=Lib.hid hok
    have hs':c.name.size≤maxLen:=hs
    have hwf:(Lit.int .i64 c.sc).wf=true:=WalkArith.wf_i64 hbd
    have HWF:=Lib.hid hwf
    have hj1:(j:Int) < (cs.length:Int):=by omega
    have FA:=Lib.hid ((fe_at (f:=rulAt cs) hlt).symm.trans HR.out.2.2)
    have CA:Hid (rulAt cs j=if scB c.sc=false∨declS c.name=false then 1 else if dupB ((cs.take j).map fun r=>(r.sc,r.name)) (c.sc,c.name)=true then 7 else valE c.a c.k):=by unfold Hid rulAt;rw [hc]
    have TS:=Lib.hid (take_snoc (fun r:Ru=>(r.sc,r.name)) hc)
    have hln:((cs.take j).map fun r=>(r.sc,r.name)).length < maxLen:=by simp [maxLen];omega
    clear hP hx hok hc hwf hbd
    go_upto_region 5 with (fail)
    have B1:Hid (Below w.heap.size w (wr.alloc (.cells #[.int .i64 c.sc,.string c.name,.int .i64 c.a.op,.int .i64 c.a.num,.string c.a.name,.slice c.a.ptr (len c.k) c.a.cap] 38))):=HR.out.2.1.alloc HR.out.2.1.size _
    have S1:Hid (RS (wr.alloc (.cells #[.int .i64 c.sc,.string c.name,.int .i64 c.a.op,.int .i64 c.a.num,.string c.a.name,.slice c.a.ptr (len c.k) c.a.cap] 38)) w.heap.size ((cs.take j).map fun r=>(r.sc,r.name))):=SetM.next HR.out.1 ((Below.refl _ _).alloc (Nat.le_refl _) _)
    have hgw:w.heap.size < wr.heap.size:=SetM.lt HR.out.1
    have hz1:wr.heap.size < (wr.alloc (.cells #[.int .i64 c.sc,.string c.name,.int .i64 c.a.op,.int .i64 c.a.num,.string c.a.name,.slice c.a.ptr (len c.k) c.a.cap] 38)).heap.size:=by simp
    have e0:(wr.alloc (.cells #[.int .i64 c.sc,.string c.name,.int .i64 c.a.op,.int .i64 c.a.num,.string c.a.name,.slice c.a.ptr (len c.k) c.a.cap] 38)).cell? ⟨wr.heap.size,0,none⟩=some (.int .i64 c.sc):=by simp [go_sem]
    have e1:(wr.alloc (.cells #[.int .i64 c.sc,.string c.name,.int .i64 c.a.op,.int .i64 c.a.num,.string c.a.name,.slice c.a.ptr (len c.k) c.a.cap] 38)).cell? ⟨wr.heap.size,1,none⟩=some (.string c.name):=by simp [go_sem]
    have e2:(wr.alloc (.cells #[.int .i64 c.sc,.string c.name,.int .i64 c.a.op,.int .i64 c.a.num,.string c.a.name,.slice c.a.ptr (len c.k) c.a.cap] 38)).cell? ⟨wr.heap.size,2,none⟩=some (.int .i64 c.a.op):=by simp [go_sem]
    have e3:(wr.alloc (.cells #[.int .i64 c.sc,.string c.name,.int .i64 c.a.op,.int .i64 c.a.num,.string c.a.name,.slice c.a.ptr (len c.k) c.a.cap] 38)).cell? ⟨wr.heap.size,3,none⟩=some (.int .i64 c.a.num):=by simp [go_sem]
    have e4:(wr.alloc (.cells #[.int .i64 c.sc,.string c.name,.int .i64 c.a.op,.int .i64 c.a.num,.string c.a.name,.slice c.a.ptr (len c.k) c.a.cap] 38)).cell? ⟨wr.heap.size,4,none⟩=some (.string c.a.name):=by simp [go_sem]
    have e5:(wr.alloc (.cells #[.int .i64 c.sc,.string c.name,.int .i64 c.a.op,.int .i64 c.a.num,.string c.a.name,.slice c.a.ptr (len c.k) c.a.cap] 38)).cell? ⟨wr.heap.size,5,none⟩=some (.slice c.a.ptr (len c.k) c.a.cap):=by simp [go_sem]
    generalize wr.alloc (.cells #[.int .i64 c.sc,.string c.name,.int .i64 c.a.op,.int .i64 c.a.num,.string c.a.name,.slice c.a.ptr (len c.k) c.a.cap] 38)=w1 at *
    clear d0 d1 d2 d3 d4 d5
    cases hC:scB c.sc
    · have HC:=Lib.hid hC
      have RQ:Hid (R=1):=by unfold Hid;rw [← FA.out,CA.out,hC];rfl
      clear hC
      go_wp2_with (go_at_call 36;refine (scope_any _ _).mono ?_;rw [HC.out];rintro e w2 ⟨rfl,rfl⟩)
      go_ret
      exact ⟨ret_int RQ.out.symm,B1.out⟩
    · have HC:=Lib.hid hC
      cases hD:declS c.name
      · have HD:=Lib.hid hD
        have RQ:Hid (R=1):=by unfold Hid;rw [← FA.out,CA.out,hD];simp [orE]
        clear hD hC
        go_wp2_with (first|(go_at_call 36;refine (scope_any _ _).mono ?_;rw [HC.out];rintro e w2 ⟨rfl,rfl⟩)|(go_at_call 61;refine (isdecl_any _ _ hs).mono ?_;rw [HD.out];rintro e w2 ⟨rfl,rfl⟩))
        go_ret
        exact ⟨ret_int RQ.out.symm,B1.out⟩
      · have HD:=Lib.hid hD
        have CB:Hid (rulAt cs j=if dupB ((cs.take j).map fun r=>(r.sc,r.name)) (c.sc,c.name)=true then 7 else valE c.a c.k):=by unfold Hid;rw [CA.out,hD,hC];rfl
        clear hD hC
        go_upto_region 8 with (first|(go_at_call 36;refine (scope_any _ _).mono ?_;rw [HC.out];rintro e w2 ⟨rfl,rfl⟩)|(go_at_call 61;refine (isdecl_any _ _ hs).mono ?_;rw [HD.out];rintro e w2 ⟨rfl,rfl⟩))
        have B2:Hid (Below w.heap.size w (w1.alloc (.cells #[.int .i64 c.sc,.string c.name] 115))):=B1.out.alloc B1.out.size _
        have S2:Hid (RS (w1.alloc (.cells #[.int .i64 c.sc,.string c.name] 115)) w.heap.size ((cs.take j).map fun r=>(r.sc,r.name))):=SetM.next S1.out ((Below.refl _ _).alloc (Nat.le_refl _) _)
        have k0:(w1.alloc (.cells #[.int .i64 c.sc,.string c.name] 115)).cell? ⟨w1.heap.size,0,none⟩=some (.int .i64 c.sc):=by simp [go_sem]
        have k1:(w1.alloc (.cells #[.int .i64 c.sc,.string c.name] 115)).cell? ⟨w1.heap.size,1,none⟩=some (.string c.name):=by simp [go_sem]
        have f2:(w1.alloc (.cells #[.int .i64 c.sc,.string c.name] 115)).cell? ⟨wr.heap.size,2,none⟩=some (.int .i64 c.a.op):=cell_next e2 ((Below.refl _ _).alloc (Nat.le_refl _) _)
        have f3:(w1.alloc (.cells #[.int .i64 c.sc,.string c.name] 115)).cell? ⟨wr.heap.size,3,none⟩=some (.int .i64 c.a.num):=cell_next e3 ((Below.refl _ _).alloc (Nat.le_refl _) _)
        have f4:(w1.alloc (.cells #[.int .i64 c.sc,.string c.name] 115)).cell? ⟨wr.heap.size,4,none⟩=some (.string c.a.name):=cell_next e4 ((Below.refl _ _).alloc (Nat.le_refl _) _)
        have f5:(w1.alloc (.cells #[.int .i64 c.sc,.string c.name] 115)).cell? ⟨wr.heap.size,5,none⟩=some (.slice c.a.ptr (len c.k) c.a.cap):=cell_next e5 ((Below.refl _ _).alloc (Nat.le_refl _) _)
        generalize w1.alloc (.cells #[.int .i64 c.sc,.string c.name] 115)=w2 at *
        have hlook:=rs_look S2.out c.sc c.name HWF.out hs'
        clear e0 e1 e2 e3 e4 e5
        cases hU:dupB ((cs.take j).map fun r=>(r.sc,r.name)) (c.sc,c.name)
        · have CQ:Hid (rulAt cs j=valE c.a c.k):=by unfold Hid;rw [CB.out,hU];rfl
          rw [hU] at hlook
          obtain ⟨w9,hput,hS9,hG9⟩:=rs_put S2.out c.sc c.name HWF.out hs' hln
          have S9:=Lib.hid hS9
          have B9:Hid (Below w.heap.size w w9):=B2.out.grown hG9 B2.out.size (fun m hm=>by cases hm;exact Nat.le_refl _)
          have hne:some wr.heap.size≠some w.heap.size:=by simp;omega
          have g2:=hG9.cell f2 hne
          have g3:=hG9.cell f3 hne
          have g4:=hG9.cell f4 hne
          have g5:=hG9.cell f5 hne
          clear hU hS9 hG9
          go_wp2_with fail
          refine (vexpr_any c.b c.o _ _ _ _ _ c.k w9 (HX.out.next B9.out) HOK.out).mono ?_
          rintro e w3 ⟨rfl,hb⟩
          have B3:=Lib.hid (B9.out.trans (hb.mono B9.out.size))
          have S3:Hid (RS w3 w.heap.size ((cs.take (j+1)).map fun r=>(r.sc,r.name))):=by unfold Hid;rw [TS.out];exact SetM.next S9.out hb
          have CQ2:Hid (rulAt cs j=valE ⟨c.a.op,c.a.num,c.a.name,c.a.ptr,c.a.cap⟩ c.k):=CQ.out
          generalize valE ⟨c.a.op,c.a.num,c.a.name,c.a.ptr,c.a.cap⟩ c.k=ve at *
          clear hb hput hlook f2 f3 f4 f5 g2 g3 g4 g5 k0 k1
          by_cases h0:ve=0
          · have b0:(ve != 0)=false:=by simp [h0]
            have RQ:Hid (fe (rulAt cs) (j+1) (cs.length - (j+1))=R):=by unfold Hid;rw [← FA.out,CQ2.out,h0,orE_zero]
            clear h0
            go_wp2
            go_roundw
            case rel=>exact ⟨j+1,by omega,by go_num,S3.out,B3.out,RQ.out⟩
            case measure=>simp [intOf];omega
          · have b0:(ve != 0)=true:=by simp [h0]
            have RQ:Hid (R=ve):=by unfold Hid;rw [← FA.out,CQ2.out,orE_ne h0]
            clear h0
            go_wp2
            go_ret
            exact ⟨ret_int RQ.out.symm,B3.out⟩
        · have RQ:Hid (R=7):=by unfold Hid;rw [← FA.out,CB.out,hU];rfl
          rw [hU] at hlook
          clear hU
          go_wp2
          go_ret
          exact ⟨ret_int RQ.out.symm,B2.out⟩
  · have hj1:¬ (j:Int) < (cs.length:Int):=by omega
    have RQ:Hid (R=0):=by unfold Hid;rw [← HR.out.2.2,fe_end (by omega)]
    go_wp2
    go_ret
    exact ⟨ret_int RQ.out.symm,HR.out.2.1⟩
end Go.Proofs.YtljdcpobomfnpaaGreat
