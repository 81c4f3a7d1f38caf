import Derived.Test.YtfoedbfkddoibaaGreatTrK
namespace Go.Proofs.YtfoedbfkddoibaaGreat
section
set_option linter.unusedVariables false
set_option linter.unusedSimpArgs false
open Go.ChangeShapes Go.WideShapes Go.ChangeAt Go.RowKit
open Go.Deep (BT)
set_option maxHeartbeats 4000000 in
theorem red20_any (Av:Nat→Prop) (sp:Option Addr) (b o cap:Nat) (b1 o1:Nat) (a1:Nd) (k1:Fo) (b2 o2:Nat) (a2:Nd) (k2:Fo) (w:World) (hx:FoAt w (.node b1 o1 a1 k1 (.node b2 o2 a2 k2 .nil)) b o) (ha:FoAv Av (.node b1 o1 a1 k1 (.node b2 o2 a2 k2 .nil)) b) (hfree:∀ g,w.heap.size≤g→Av g) (hok:FoOk (.node b1 o1 a1 k1 (.node b2 o2 a2 k2 .nil))) (hw:wfT (.node b1 o1 a1 k1 (.node b2 o2 a2 k2 .nil))=true) (hn:(kids (.node b1 o1 a1 k1 (.node b2 o2 a2 k2 .nil))).all isLit=false) :
 Calls Tryz.prog 80 #[.pointer sp,.agg #[.int .i64 20,.int .i64 0,.string ⟨#[]⟩,.slice (some ⟨b,o,none⟩) 2 cap]] w (ReP w Av (juncE 20 5 4 [ec ⟨b1,o1,a1,k1⟩,ec ⟨b2,o2,a2,k2⟩])):=by
 have CF:=Lib.hid (fun (w:World) (hx:FoAt w (.node b1 o1 a1 k1 (.node b2 o2 a2 k2 .nil)) b o)=>contains_any b o cap (some ⟨b,o,none⟩) (.node b1 o1 a1 k1 (.node b2 o2 a2 k2 .nil)) w (fun _=>rfl) hx hok hw (by simp [len]))
 rw [hn] at CF
 have XX:=Lib.hid hx
 have AV:=Lib.hid ha
 have HF:=Lib.hid hfree
 have AW:Hid (FoAv (fun g=>Av g∧g≠w.heap.size+1) (.node b1 o1 a1 k1 (.node b2 o2 a2 k2 .nil)) b):=(FoAv.lt hx ha).mono (fun g h=>⟨h.1,by omega⟩)
 clear hx ha hfree hok hw hn
 go_enter Tryz.func80,Tryz.ntmps80
 go_wp2_with fail
 have hba:Below w.heap.size w ((w.alloc (.cells #[.int .i64 20,.int .i64 0,.string ⟨#[]⟩,.slice (some ⟨b,o,none⟩) 2 cap] 25)).alloc (.cells #[.int .i64 0,.int .i64 0,.string ⟨#[]⟩,.slice none 0 0] 25)):=(below_box w _).trans ((below_box _ _).mono (by simp))
 refine (CF.out ((w.alloc (.cells #[.int .i64 20,.int .i64 0,.string ⟨#[]⟩,.slice (some ⟨b,o,none⟩) 2 cap] 25)).alloc (.cells #[.int .i64 0,.int .i64 0,.string ⟨#[]⟩,.slice none 0 0] 25)) (XX.out.next hba)).mono ?_
 rintro e w1 ⟨rfl,hb⟩
 have RB:=Lib.hid ((BX4.new (w.alloc (.cells #[.int .i64 20,.int .i64 0,.string ⟨#[]⟩,.slice (some ⟨b,o,none⟩) 2 cap] 25)) (.int .i64 0) (.int .i64 0) (.string ⟨#[]⟩) (.slice none 0 0) 25).next hb)
 have YB:=Lib.hid (((BX4.new w (.int .i64 20) (.int .i64 0) (.string ⟨#[]⟩) (.slice (some ⟨b,o,none⟩) 2 cap) 25).next (below_box _ _)).next hb)
 rw [World.size_alloc] at RB
 have HB:=Lib.hid (hba.trans (hb.mono (by simp;omega)))
 have X1:=Lib.hid (XX.out.next HB.out)
 have hz1:w.heap.size≤w1.heap.size:=HB.out.size
 have hz2:w.heap.size+1 < w1.heap.size:=RB.out.lt
 have HF1:Hid (∀ g,w1.heap.size≤g→Av g∧g≠w.heap.size+1):=fun g hg=>⟨HF.out g (by omega),by omega⟩
 clear hb hba CF
 obtain ⟨x0,x1,x2,x3,-,-,-,-,-⟩:=YB.out
 obtain ⟨r0,r1,r2,r3,f0,f1,f2,f3,-⟩:=RB.out
 go_wp2_with fail
 refine (junc_any (fun g=>Av g∧g≠w.heap.size+1) 20 5 4 b o cap b1 o1 a1 k1 b2 o2 a2 k2 _ (by decide) X1.out AW.out).mono ?_
 rintro e w2 ⟨c,rfl,hc,hcx,hca,hcb⟩
 have RB2:=Lib.hid (RB.out.next hcb)
 have E:=Lib.hid hc
 have EX:=Lib.hid (And.intro hcx hca)
 have B2:=Lib.hid (HB.out.trans (hcb.mono hz1))
 clear hc hcx hca hcb x0 x1 x2 x3 r0 r1 r2 r3 f0 f1 f2 f3
 obtain ⟨r0,r1,r2,r3,f0,f1,f2,f3,-⟩:=RB2.out
 go_wp2
 refine bodyPost_ret (v:=.agg #[.int .i64 c.a.op,.int .i64 c.a.num,.string c.a.name,.slice c.a.ptr (len c.k) c.a.cap]) ?_ rfl ⟨c,rfl,E.out,EX.out.1.av4 (EX.out.2.mono fun g h=>h.2),EX.out.2.mono fun g h=>h.1,set4_below B2.out (by omega)⟩
 rw [results_cell1 rfl];go_simp
set_option maxHeartbeats 4000000 in
theorem red21_any (Av:Nat→Prop) (sp:Option Addr) (b o cap:Nat) (b1 o1:Nat) (a1:Nd) (k1:Fo) (b2 o2:Nat) (a2:Nd) (k2:Fo) (w:World) (hx:FoAt w (.node b1 o1 a1 k1 (.node b2 o2 a2 k2 .nil)) b o) (ha:FoAv Av (.node b1 o1 a1 k1 (.node b2 o2 a2 k2 .nil)) b) (hfree:∀ g,w.heap.size≤g→Av g) (hok:FoOk (.node b1 o1 a1 k1 (.node b2 o2 a2 k2 .nil))) (hw:wfT (.node b1 o1 a1 k1 (.node b2 o2 a2 k2 .nil))=true) (hn:(kids (.node b1 o1 a1 k1 (.node b2 o2 a2 k2 .nil))).all isLit=false) :
 Calls Tryz.prog 80 #[.pointer sp,.agg #[.int .i64 21,.int .i64 0,.string ⟨#[]⟩,.slice (some ⟨b,o,none⟩) 2 cap]] w (ReP w Av (juncE 21 4 5 [ec ⟨b1,o1,a1,k1⟩,ec ⟨b2,o2,a2,k2⟩])):=by
 have CF:=Lib.hid (fun (w:World) (hx:FoAt w (.node b1 o1 a1 k1 (.node b2 o2 a2 k2 .nil)) b o)=>contains_any b o cap (some ⟨b,o,none⟩) (.node b1 o1 a1 k1 (.node b2 o2 a2 k2 .nil)) w (fun _=>rfl) hx hok hw (by simp [len]))
 rw [hn] at CF
 have XX:=Lib.hid hx
 have AV:=Lib.hid ha
 have HF:=Lib.hid hfree
 have AW:Hid (FoAv (fun g=>Av g∧g≠w.heap.size+1) (.node b1 o1 a1 k1 (.node b2 o2 a2 k2 .nil)) b):=(FoAv.lt hx ha).mono (fun g h=>⟨h.1,by omega⟩)
 clear hx ha hfree hok hw hn
 go_enter Tryz.func80,Tryz.ntmps80
 go_wp2_with fail
 have hba:Below w.heap.size w ((w.alloc (.cells #[.int .i64 21,.int .i64 0,.string ⟨#[]⟩,.slice (some ⟨b,o,none⟩) 2 cap] 25)).alloc (.cells #[.int .i64 0,.int .i64 0,.string ⟨#[]⟩,.slice none 0 0] 25)):=(below_box w _).trans ((below_box _ _).mono (by simp))
 refine (CF.out ((w.alloc (.cells #[.int .i64 21,.int .i64 0,.string ⟨#[]⟩,.slice (some ⟨b,o,none⟩) 2 cap] 25)).alloc (.cells #[.int .i64 0,.int .i64 0,.string ⟨#[]⟩,.slice none 0 0] 25)) (XX.out.next hba)).mono ?_
 rintro e w1 ⟨rfl,hb⟩
 have RB:=Lib.hid ((BX4.new (w.alloc (.cells #[.int .i64 21,.int .i64 0,.string ⟨#[]⟩,.slice (some ⟨b,o,none⟩) 2 cap] 25)) (.int .i64 0) (.int .i64 0) (.string ⟨#[]⟩) (.slice none 0 0) 25).next hb)
 have YB:=Lib.hid (((BX4.new w (.int .i64 21) (.int .i64 0) (.string ⟨#[]⟩) (.slice (some ⟨b,o,none⟩) 2 cap) 25).next (below_box _ _)).next hb)
 rw [World.size_alloc] at RB
 have HB:=Lib.hid (hba.trans (hb.mono (by simp;omega)))
 have X1:=Lib.hid (XX.out.next HB.out)
 have hz1:w.heap.size≤w1.heap.size:=HB.out.size
 have hz2:w.heap.size+1 < w1.heap.size:=RB.out.lt
 have HF1:Hid (∀ g,w1.heap.size≤g→Av g∧g≠w.heap.size+1):=fun g hg=>⟨HF.out g (by omega),by omega⟩
 clear hb hba CF
 obtain ⟨x0,x1,x2,x3,-,-,-,-,-⟩:=YB.out
 obtain ⟨r0,r1,r2,r3,f0,f1,f2,f3,-⟩:=RB.out
 go_wp2_with fail
 refine (junc_any (fun g=>Av g∧g≠w.heap.size+1) 21 4 5 b o cap b1 o1 a1 k1 b2 o2 a2 k2 _ (by decide) X1.out AW.out).mono ?_
 rintro e w2 ⟨c,rfl,hc,hcx,hca,hcb⟩
 have RB2:=Lib.hid (RB.out.next hcb)
 have E:=Lib.hid hc
 have EX:=Lib.hid (And.intro hcx hca)
 have B2:=Lib.hid (HB.out.trans (hcb.mono hz1))
 clear hc hcx hca hcb x0 x1 x2 x3 r0 r1 r2 r3 f0 f1 f2 f3
 obtain ⟨r0,r1,r2,r3,f0,f1,f2,f3,-⟩:=RB2.out
 go_wp2
 refine bodyPost_ret (v:=.agg #[.int .i64 c.a.op,.int .i64 c.a.num,.string c.a.name,.slice c.a.ptr (len c.k) c.a.cap]) ?_ rfl ⟨c,rfl,E.out,EX.out.1.av4 (EX.out.2.mono fun g h=>h.2),EX.out.2.mono fun g h=>h.1,set4_below B2.out (by omega)⟩
 rw [results_cell1 rfl];go_simp
set_option maxHeartbeats 4000000 in
theorem red22_any (Av:Nat→Prop) (sp:Option Addr) (b o cap:Nat) (b1 o1:Nat) (a1:Nd) (k1:Fo) (b2 o2:Nat) (a2:Nd) (k2:Fo) (w:World) (hx:FoAt w (.node b1 o1 a1 k1 (.node b2 o2 a2 k2 .nil)) b o) (ha:FoAv Av (.node b1 o1 a1 k1 (.node b2 o2 a2 k2 .nil)) b) (hfree:∀ g,w.heap.size≤g→Av g) (hok:FoOk (.node b1 o1 a1 k1 (.node b2 o2 a2 k2 .nil))) (hw:wfT (.node b1 o1 a1 k1 (.node b2 o2 a2 k2 .nil))=true) (hn:(kids (.node b1 o1 a1 k1 (.node b2 o2 a2 k2 .nil))).all isLit=false) (hni:a1.op≠4→a1.op≠5→a2.op=5→isLit ⟨b1,o1,a1,k1⟩=false) (h19:a1.op=19→len k1=1) :
 Calls Tryz.prog 80 #[.pointer sp,.agg #[.int .i64 22,.int .i64 0,.string ⟨#[]⟩,.slice (some ⟨b,o,none⟩) 2 cap]] w (ReP w Av (implE [ec ⟨b1,o1,a1,k1⟩,ec ⟨b2,o2,a2,k2⟩])):=by
 have CF:=Lib.hid (fun (w:World) (hx:FoAt w (.node b1 o1 a1 k1 (.node b2 o2 a2 k2 .nil)) b o)=>contains_any b o cap (some ⟨b,o,none⟩) (.node b1 o1 a1 k1 (.node b2 o2 a2 k2 .nil)) w (fun _=>rfl) hx hok hw (by simp [len]))
 rw [hn] at CF
 have XX:=Lib.hid hx
 have AV:=Lib.hid ha
 have HF:=Lib.hid hfree
 have AW:Hid (FoAv (fun g=>Av g∧g≠w.heap.size+1) (.node b1 o1 a1 k1 (.node b2 o2 a2 k2 .nil)) b):=(FoAv.lt hx ha).mono (fun g h=>⟨h.1,by omega⟩)
 have IP:Hid (FoOk (.node b1 o1 a1 k1 .nil)∧wfT (.node b1 o1 a1 k1 .nil)=true∧(a1.op≠4→a1.op≠5→a2.op=5→isLit ⟨b1,o1,a1,k1⟩=false)∧(a1.op=19→len k1=1)):=⟨⟨hok.1,hok.2.1,trivial⟩,by
  have h:((wfB a1 (len k1) && wfT k1) && wfT (.node b2 o2 a2 k2 .nil))=true:=hw
  rw [Bool.and_eq_true] at h
  show ((wfB a1 (len k1) && wfT k1) && true)=true
  rw [h.1];rfl,hni,h19⟩
 clear hx ha hfree hok hw hn
 go_enter Tryz.func80,Tryz.ntmps80
 go_wp2_with fail
 have hba:Below w.heap.size w ((w.alloc (.cells #[.int .i64 22,.int .i64 0,.string ⟨#[]⟩,.slice (some ⟨b,o,none⟩) 2 cap] 25)).alloc (.cells #[.int .i64 0,.int .i64 0,.string ⟨#[]⟩,.slice none 0 0] 25)):=(below_box w _).trans ((below_box _ _).mono (by simp))
 refine (CF.out ((w.alloc (.cells #[.int .i64 22,.int .i64 0,.string ⟨#[]⟩,.slice (some ⟨b,o,none⟩) 2 cap] 25)).alloc (.cells #[.int .i64 0,.int .i64 0,.string ⟨#[]⟩,.slice none 0 0] 25)) (XX.out.next hba)).mono ?_
 rintro e w1 ⟨rfl,hb⟩
 have RB:=Lib.hid ((BX4.new (w.alloc (.cells #[.int .i64 22,.int .i64 0,.string ⟨#[]⟩,.slice (some ⟨b,o,none⟩) 2 cap] 25)) (.int .i64 0) (.int .i64 0) (.string ⟨#[]⟩) (.slice none 0 0) 25).next hb)
 have YB:=Lib.hid (((BX4.new w (.int .i64 22) (.int .i64 0) (.string ⟨#[]⟩) (.slice (some ⟨b,o,none⟩) 2 cap) 25).next (below_box _ _)).next hb)
 rw [World.size_alloc] at RB
 have HB:=Lib.hid (hba.trans (hb.mono (by simp;omega)))
 have X1:=Lib.hid (XX.out.next HB.out)
 have hz1:w.heap.size≤w1.heap.size:=HB.out.size
 have hz2:w.heap.size+1 < w1.heap.size:=RB.out.lt
 have HF1:Hid (∀ g,w1.heap.size≤g→Av g∧g≠w.heap.size+1):=fun g hg=>⟨HF.out g (by omega),by omega⟩
 clear hb hba CF
 obtain ⟨x0,x1,x2,x3,-,-,-,-,-⟩:=YB.out
 obtain ⟨r0,r1,r2,r3,f0,f1,f2,f3,-⟩:=RB.out
 go_wp2_with fail
 refine (impl_any (fun g=>Av g∧g≠w.heap.size+1) sp b o cap b1 o1 a1 k1 b2 o2 a2 k2 _ X1.out AW.out HF1.out IP.out.1 IP.out.2.1 IP.out.2.2.1 IP.out.2.2.2).mono ?_
 rintro e w2 ⟨c,rfl,hc,hcx,hca,hcb⟩
 have RB2:=Lib.hid (RB.out.next hcb)
 have E:=Lib.hid hc
 have EX:=Lib.hid (And.intro hcx hca)
 have B2:=Lib.hid (HB.out.trans (hcb.mono hz1))
 clear hc hcx hca hcb x0 x1 x2 x3 r0 r1 r2 r3 f0 f1 f2 f3
 obtain ⟨r0,r1,r2,r3,f0,f1,f2,f3,-⟩:=RB2.out
 go_wp2
 refine bodyPost_ret (v:=.agg #[.int .i64 c.a.op,.int .i64 c.a.num,.string c.a.name,.slice c.a.ptr (len c.k) c.a.cap]) ?_ rfl ⟨c,rfl,E.out,EX.out.1.av4 (EX.out.2.mono fun g h=>h.2),EX.out.2.mono fun g h=>h.1,set4_below B2.out (by omega)⟩
 rw [results_cell1 rfl];go_simp
set_option maxHeartbeats 4000000 in
theorem red8_any (Av:Nat→Prop) (sp:Option Addr) (b o cap:Nat) (b1 o1:Nat) (a1:Nd) (k1:Fo) (b2 o2:Nat) (a2:Nd) (k2:Fo) (w:World) (hx:FoAt w (.node b1 o1 a1 k1 (.node b2 o2 a2 k2 .nil)) b o) (ha:FoAv Av (.node b1 o1 a1 k1 (.node b2 o2 a2 k2 .nil)) b) (hfree:∀ g,w.heap.size≤g→Av g) (hok:FoOk (.node b1 o1 a1 k1 (.node b2 o2 a2 k2 .nil))) (hw:wfT (.node b1 o1 a1 k1 (.node b2 o2 a2 k2 .nil))=true) (hn:(kids (.node b1 o1 a1 k1 (.node b2 o2 a2 k2 .nil))).all isLit=false) :
 Calls Tryz.prog 80 #[.pointer sp,.agg #[.int .i64 8,.int .i64 0,.string ⟨#[]⟩,.slice (some ⟨b,o,none⟩) 2 cap]] w (ReP w Av (neutE 8 zeroB true [ec ⟨b1,o1,a1,k1⟩,ec ⟨b2,o2,a2,k2⟩])):=by
 have CF:=Lib.hid (fun (w:World) (hx:FoAt w (.node b1 o1 a1 k1 (.node b2 o2 a2 k2 .nil)) b o)=>contains_any b o cap (some ⟨b,o,none⟩) (.node b1 o1 a1 k1 (.node b2 o2 a2 k2 .nil)) w (fun _=>rfl) hx hok hw (by simp [len]))
 rw [hn] at CF
 have XX:=Lib.hid hx
 have AV:=Lib.hid ha
 have HF:=Lib.hid hfree
 have AW:Hid (FoAv (fun g=>Av g∧g≠w.heap.size+1) (.node b1 o1 a1 k1 (.node b2 o2 a2 k2 .nil)) b):=(FoAv.lt hx ha).mono (fun g h=>⟨h.1,by omega⟩)
 clear hx ha hfree hok hw hn
 go_enter Tryz.func80,Tryz.ntmps80
 go_wp2_with fail
 have hba:Below w.heap.size w ((w.alloc (.cells #[.int .i64 8,.int .i64 0,.string ⟨#[]⟩,.slice (some ⟨b,o,none⟩) 2 cap] 25)).alloc (.cells #[.int .i64 0,.int .i64 0,.string ⟨#[]⟩,.slice none 0 0] 25)):=(below_box w _).trans ((below_box _ _).mono (by simp))
 refine (CF.out ((w.alloc (.cells #[.int .i64 8,.int .i64 0,.string ⟨#[]⟩,.slice (some ⟨b,o,none⟩) 2 cap] 25)).alloc (.cells #[.int .i64 0,.int .i64 0,.string ⟨#[]⟩,.slice none 0 0] 25)) (XX.out.next hba)).mono ?_
 rintro e w1 ⟨rfl,hb⟩
 have RB:=Lib.hid ((BX4.new (w.alloc (.cells #[.int .i64 8,.int .i64 0,.string ⟨#[]⟩,.slice (some ⟨b,o,none⟩) 2 cap] 25)) (.int .i64 0) (.int .i64 0) (.string ⟨#[]⟩) (.slice none 0 0) 25).next hb)
 have YB:=Lib.hid (((BX4.new w (.int .i64 8) (.int .i64 0) (.string ⟨#[]⟩) (.slice (some ⟨b,o,none⟩) 2 cap) 25).next (below_box _ _)).next hb)
 rw [World.size_alloc] at RB
 have HB:=Lib.hid (hba.trans (hb.mono (by simp;omega)))
 have X1:=Lib.hid (XX.out.next HB.out)
 have hz1:w.heap.size≤w1.heap.size:=HB.out.size
 have hz2:w.heap.size+1 < w1.heap.size:=RB.out.lt
 have HF1:Hid (∀ g,w1.heap.size≤g→Av g∧g≠w.heap.size+1):=fun g hg=>⟨HF.out g (by omega),by omega⟩
 clear hb hba CF
 obtain ⟨x0,x1,x2,x3,-,-,-,-,-⟩:=YB.out
 obtain ⟨r0,r1,r2,r3,f0,f1,f2,f3,-⟩:=RB.out
 go_wp2_with fail
 refine (neutz_any (fun g=>Av g∧g≠w.heap.size+1) 8 true b o cap b1 o1 a1 k1 b2 o2 a2 k2 _ X1.out AW.out).mono ?_
 rintro e w2 ⟨c,rfl,hc,hcx,hca,hcb⟩
 have RB2:=Lib.hid (RB.out.next hcb)
 have E:=Lib.hid hc
 have EX:=Lib.hid (And.intro hcx hca)
 have B2:=Lib.hid (HB.out.trans (hcb.mono hz1))
 clear hc hcx hca hcb x0 x1 x2 x3 r0 r1 r2 r3 f0 f1 f2 f3
 obtain ⟨r0,r1,r2,r3,f0,f1,f2,f3,-⟩:=RB2.out
 go_wp2
 refine bodyPost_ret (v:=.agg #[.int .i64 c.a.op,.int .i64 c.a.num,.string c.a.name,.slice c.a.ptr (len c.k) c.a.cap]) ?_ rfl ⟨c,rfl,E.out,EX.out.1.av4 (EX.out.2.mono fun g h=>h.2),EX.out.2.mono fun g h=>h.1,set4_below B2.out (by omega)⟩
 rw [results_cell1 rfl];go_simp
set_option maxHeartbeats 4000000 in
theorem red9_any (Av:Nat→Prop) (sp:Option Addr) (b o cap:Nat) (b1 o1:Nat) (a1:Nd) (k1:Fo) (b2 o2:Nat) (a2:Nd) (k2:Fo) (w:World) (hx:FoAt w (.node b1 o1 a1 k1 (.node b2 o2 a2 k2 .nil)) b o) (ha:FoAv Av (.node b1 o1 a1 k1 (.node b2 o2 a2 k2 .nil)) b) (hfree:∀ g,w.heap.size≤g→Av g) (hok:FoOk (.node b1 o1 a1 k1 (.node b2 o2 a2 k2 .nil))) (hw:wfT (.node b1 o1 a1 k1 (.node b2 o2 a2 k2 .nil))=true) (hn:(kids (.node b1 o1 a1 k1 (.node b2 o2 a2 k2 .nil))).all isLit=false) :
 Calls Tryz.prog 80 #[.pointer sp,.agg #[.int .i64 9,.int .i64 0,.string ⟨#[]⟩,.slice (some ⟨b,o,none⟩) 2 cap]] w (ReP w Av (neutE 9 zeroB false [ec ⟨b1,o1,a1,k1⟩,ec ⟨b2,o2,a2,k2⟩])):=by
 have CF:=Lib.hid (fun (w:World) (hx:FoAt w (.node b1 o1 a1 k1 (.node b2 o2 a2 k2 .nil)) b o)=>contains_any b o cap (some ⟨b,o,none⟩) (.node b1 o1 a1 k1 (.node b2 o2 a2 k2 .nil)) w (fun _=>rfl) hx hok hw (by simp [len]))
 rw [hn] at CF
 have XX:=Lib.hid hx
 have AV:=Lib.hid ha
 have HF:=Lib.hid hfree
 have AW:Hid (FoAv (fun g=>Av g∧g≠w.heap.size+1) (.node b1 o1 a1 k1 (.node b2 o2 a2 k2 .nil)) b):=(FoAv.lt hx ha).mono (fun g h=>⟨h.1,by omega⟩)
 clear hx ha hfree hok hw hn
 go_enter Tryz.func80,Tryz.ntmps80
 go_wp2_with fail
 have hba:Below w.heap.size w ((w.alloc (.cells #[.int .i64 9,.int .i64 0,.string ⟨#[]⟩,.slice (some ⟨b,o,none⟩) 2 cap] 25)).alloc (.cells #[.int .i64 0,.int .i64 0,.string ⟨#[]⟩,.slice none 0 0] 25)):=(below_box w _).trans ((below_box _ _).mono (by simp))
 refine (CF.out ((w.alloc (.cells #[.int .i64 9,.int .i64 0,.string ⟨#[]⟩,.slice (some ⟨b,o,none⟩) 2 cap] 25)).alloc (.cells #[.int .i64 0,.int .i64 0,.string ⟨#[]⟩,.slice none 0 0] 25)) (XX.out.next hba)).mono ?_
 rintro e w1 ⟨rfl,hb⟩
 have RB:=Lib.hid ((BX4.new (w.alloc (.cells #[.int .i64 9,.int .i64 0,.string ⟨#[]⟩,.slice (some ⟨b,o,none⟩) 2 cap] 25)) (.int .i64 0) (.int .i64 0) (.string ⟨#[]⟩) (.slice none 0 0) 25).next hb)
 have YB:=Lib.hid (((BX4.new w (.int .i64 9) (.int .i64 0) (.string ⟨#[]⟩) (.slice (some ⟨b,o,none⟩) 2 cap) 25).next (below_box _ _)).next hb)
 rw [World.size_alloc] at RB
 have HB:=Lib.hid (hba.trans (hb.mono (by simp;omega)))
 have X1:=Lib.hid (XX.out.next HB.out)
 have hz1:w.heap.size≤w1.heap.size:=HB.out.size
 have hz2:w.heap.size+1 < w1.heap.size:=RB.out.lt
 have HF1:Hid (∀ g,w1.heap.size≤g→Av g∧g≠w.heap.size+1):=fun g hg=>⟨HF.out g (by omega),by omega⟩
 clear hb hba CF
 obtain ⟨x0,x1,x2,x3,-,-,-,-,-⟩:=YB.out
 obtain ⟨r0,r1,r2,r3,f0,f1,f2,f3,-⟩:=RB.out
 go_wp2_with fail
 refine (neutz_any (fun g=>Av g∧g≠w.heap.size+1) 9 false b o cap b1 o1 a1 k1 b2 o2 a2 k2 _ X1.out AW.out).mono ?_
 rintro e w2 ⟨c,rfl,hc,hcx,hca,hcb⟩
 have RB2:=Lib.hid (RB.out.next hcb)
 have E:=Lib.hid hc
 have EX:=Lib.hid (And.intro hcx hca)
 have B2:=Lib.hid (HB.out.trans (hcb.mono hz1))
 clear hc hcx hca hcb x0 x1 x2 x3 r0 r1 r2 r3 f0 f1 f2 f3
 obtain ⟨r0,r1,r2,r3,f0,f1,f2,f3,-⟩:=RB2.out
 go_wp2
 refine bodyPost_ret (v:=.agg #[.int .i64 c.a.op,.int .i64 c.a.num,.string c.a.name,.slice c.a.ptr (len c.k) c.a.cap]) ?_ rfl ⟨c,rfl,E.out,EX.out.1.av4 (EX.out.2.mono fun g h=>h.2),EX.out.2.mono fun g h=>h.1,set4_below B2.out (by omega)⟩
 rw [results_cell1 rfl];go_simp
set_option maxHeartbeats 4000000 in
theorem red10_any (Av:Nat→Prop) (sp:Option Addr) (b o cap:Nat) (b1 o1:Nat) (a1:Nd) (k1:Fo) (b2 o2:Nat) (a2:Nd) (k2:Fo) (w:World) (hx:FoAt w (.node b1 o1 a1 k1 (.node b2 o2 a2 k2 .nil)) b o) (ha:FoAv Av (.node b1 o1 a1 k1 (.node b2 o2 a2 k2 .nil)) b) (hfree:∀ g,w.heap.size≤g→Av g) (hok:FoOk (.node b1 o1 a1 k1 (.node b2 o2 a2 k2 .nil))) (hw:wfT (.node b1 o1 a1 k1 (.node b2 o2 a2 k2 .nil))=true) (hn:(kids (.node b1 o1 a1 k1 (.node b2 o2 a2 k2 .nil))).all isLit=false) :
 Calls Tryz.prog 80 #[.pointer sp,.agg #[.int .i64 10,.int .i64 0,.string ⟨#[]⟩,.slice (some ⟨b,o,none⟩) 2 cap]] w (ReP w Av (neutE 10 unitB true [ec ⟨b1,o1,a1,k1⟩,ec ⟨b2,o2,a2,k2⟩])):=by
 have CF:=Lib.hid (fun (w:World) (hx:FoAt w (.node b1 o1 a1 k1 (.node b2 o2 a2 k2 .nil)) b o)=>contains_any b o cap (some ⟨b,o,none⟩) (.node b1 o1 a1 k1 (.node b2 o2 a2 k2 .nil)) w (fun _=>rfl) hx hok hw (by simp [len]))
 rw [hn] at CF
 have XX:=Lib.hid hx
 have AV:=Lib.hid ha
 have HF:=Lib.hid hfree
 have AW:Hid (FoAv (fun g=>Av g∧g≠w.heap.size+1) (.node b1 o1 a1 k1 (.node b2 o2 a2 k2 .nil)) b):=(FoAv.lt hx ha).mono (fun g h=>⟨h.1,by omega⟩)
 clear hx ha hfree hok hw hn
 go_enter Tryz.func80,Tryz.ntmps80
 go_wp2_with fail
 have hba:Below w.heap.size w ((w.alloc (.cells #[.int .i64 10,.int .i64 0,.string ⟨#[]⟩,.slice (some ⟨b,o,none⟩) 2 cap] 25)).alloc (.cells #[.int .i64 0,.int .i64 0,.string ⟨#[]⟩,.slice none 0 0] 25)):=(below_box w _).trans ((below_box _ _).mono (by simp))
 refine (CF.out ((w.alloc (.cells #[.int .i64 10,.int .i64 0,.string ⟨#[]⟩,.slice (some ⟨b,o,none⟩) 2 cap] 25)).alloc (.cells #[.int .i64 0,.int .i64 0,.string ⟨#[]⟩,.slice none 0 0] 25)) (XX.out.next hba)).mono ?_
 rintro e w1 ⟨rfl,hb⟩
 have RB:=Lib.hid ((BX4.new (w.alloc (.cells #[.int .i64 10,.int .i64 0,.string ⟨#[]⟩,.slice (some ⟨b,o,none⟩) 2 cap] 25)) (.int .i64 0) (.int .i64 0) (.string ⟨#[]⟩) (.slice none 0 0) 25).next hb)
 have YB:=Lib.hid (((BX4.new w (.int .i64 10) (.int .i64 0) (.string ⟨#[]⟩) (.slice (some ⟨b,o,none⟩) 2 cap) 25).next (below_box _ _)).next hb)
 rw [World.size_alloc] at RB
 have HB:=Lib.hid (hba.trans (hb.mono (by simp;omega)))
 have X1:=Lib.hid (XX.out.next HB.out)
 have hz1:w.heap.size≤w1.heap.size:=HB.out.size
 have hz2:w.heap.size+1 < w1.heap.size:=RB.out.lt
 have HF1:Hid (∀ g,w1.heap.size≤g→Av g∧g≠w.heap.size+1):=fun g hg=>⟨HF.out g (by omega),by omega⟩
 clear hb hba CF
 obtain ⟨x0,x1,x2,x3,-,-,-,-,-⟩:=YB.out
 obtain ⟨r0,r1,r2,r3,f0,f1,f2,f3,-⟩:=RB.out
 go_wp2_with fail
 refine (neutu_any (fun g=>Av g∧g≠w.heap.size+1) 10 true b o cap b1 o1 a1 k1 b2 o2 a2 k2 _ X1.out AW.out).mono ?_
 rintro e w2 ⟨c,rfl,hc,hcx,hca,hcb⟩
 have RB2:=Lib.hid (RB.out.next hcb)
 have E:=Lib.hid hc
 have EX:=Lib.hid (And.intro hcx hca)
 have B2:=Lib.hid (HB.out.trans (hcb.mono hz1))
 clear hc hcx hca hcb x0 x1 x2 x3 r0 r1 r2 r3 f0 f1 f2 f3
 obtain ⟨r0,r1,r2,r3,f0,f1,f2,f3,-⟩:=RB2.out
 go_wp2
 refine bodyPost_ret (v:=.agg #[.int .i64 c.a.op,.int .i64 c.a.num,.string c.a.name,.slice c.a.ptr (len c.k) c.a.cap]) ?_ rfl ⟨c,rfl,E.out,EX.out.1.av4 (EX.out.2.mono fun g h=>h.2),EX.out.2.mono fun g h=>h.1,set4_below B2.out (by omega)⟩
 rw [results_cell1 rfl];go_simp
set_option maxHeartbeats 4000000 in
theorem red11_any (Av:Nat→Prop) (sp:Option Addr) (b o cap:Nat) (b1 o1:Nat) (a1:Nd) (k1:Fo) (b2 o2:Nat) (a2:Nd) (k2:Fo) (w:World) (hx:FoAt w (.node b1 o1 a1 k1 (.node b2 o2 a2 k2 .nil)) b o) (ha:FoAv Av (.node b1 o1 a1 k1 (.node b2 o2 a2 k2 .nil)) b) (hfree:∀ g,w.heap.size≤g→Av g) (hok:FoOk (.node b1 o1 a1 k1 (.node b2 o2 a2 k2 .nil))) (hw:wfT (.node b1 o1 a1 k1 (.node b2 o2 a2 k2 .nil))=true) (hn:(kids (.node b1 o1 a1 k1 (.node b2 o2 a2 k2 .nil))).all isLit=false) :
 Calls Tryz.prog 80 #[.pointer sp,.agg #[.int .i64 11,.int .i64 0,.string ⟨#[]⟩,.slice (some ⟨b,o,none⟩) 2 cap]] w (ReP w Av (neutE 11 unitB false [ec ⟨b1,o1,a1,k1⟩,ec ⟨b2,o2,a2,k2⟩])):=by
 have CF:=Lib.hid (fun (w:World) (hx:FoAt w (.node b1 o1 a1 k1 (.node b2 o2 a2 k2 .nil)) b o)=>contains_any b o cap (some ⟨b,o,none⟩) (.node b1 o1 a1 k1 (.node b2 o2 a2 k2 .nil)) w (fun _=>rfl) hx hok hw (by simp [len]))
 rw [hn] at CF
 have XX:=Lib.hid hx
 have AV:=Lib.hid ha
 have HF:=Lib.hid hfree
 have AW:Hid (FoAv (fun g=>Av g∧g≠w.heap.size+1) (.node b1 o1 a1 k1 (.node b2 o2 a2 k2 .nil)) b):=(FoAv.lt hx ha).mono (fun g h=>⟨h.1,by omega⟩)
 clear hx ha hfree hok hw hn
 go_enter Tryz.func80,Tryz.ntmps80
 go_wp2_with fail
 have hba:Below w.heap.size w ((w.alloc (.cells #[.int .i64 11,.int .i64 0,.string ⟨#[]⟩,.slice (some ⟨b,o,none⟩) 2 cap] 25)).alloc (.cells #[.int .i64 0,.int .i64 0,.string ⟨#[]⟩,.slice none 0 0] 25)):=(below_box w _).trans ((below_box _ _).mono (by simp))
 refine (CF.out ((w.alloc (.cells #[.int .i64 11,.int .i64 0,.string ⟨#[]⟩,.slice (some ⟨b,o,none⟩) 2 cap] 25)).alloc (.cells #[.int .i64 0,.int .i64 0,.string ⟨#[]⟩,.slice none 0 0] 25)) (XX.out.next hba)).mono ?_
 rintro e w1 ⟨rfl,hb⟩
 have RB:=Lib.hid ((BX4.new (w.alloc (.cells #[.int .i64 11,.int .i64 0,.string ⟨#[]⟩,.slice (some ⟨b,o,none⟩) 2 cap] 25)) (.int .i64 0) (.int .i64 0) (.string ⟨#[]⟩) (.slice none 0 0) 25).next hb)
 have YB:=Lib.hid (((BX4.new w (.int .i64 11) (.int .i64 0) (.string ⟨#[]⟩) (.slice (some ⟨b,o,none⟩) 2 cap) 25).next (below_box _ _)).next hb)
 rw [World.size_alloc] at RB
 have HB:=Lib.hid (hba.trans (hb.mono (by simp;omega)))
 have X1:=Lib.hid (XX.out.next HB.out)
 have hz1:w.heap.size≤w1.heap.size:=HB.out.size
 have hz2:w.heap.size+1 < w1.heap.size:=RB.out.lt
 have HF1:Hid (∀ g,w1.heap.size≤g→Av g∧g≠w.heap.size+1):=fun g hg=>⟨HF.out g (by omega),by omega⟩
 clear hb hba CF
 obtain ⟨x0,x1,x2,x3,-,-,-,-,-⟩:=YB.out
 obtain ⟨r0,r1,r2,r3,f0,f1,f2,f3,-⟩:=RB.out
 go_wp2_with fail
 refine (neutu_any (fun g=>Av g∧g≠w.heap.size+1) 11 false b o cap b1 o1 a1 k1 b2 o2 a2 k2 _ X1.out AW.out).mono ?_
 rintro e w2 ⟨c,rfl,hc,hcx,hca,hcb⟩
 have RB2:=Lib.hid (RB.out.next hcb)
 have E:=Lib.hid hc
 have EX:=Lib.hid (And.intro hcx hca)
 have B2:=Lib.hid (HB.out.trans (hcb.mono hz1))
 clear hc hcx hca hcb x0 x1 x2 x3 r0 r1 r2 r3 f0 f1 f2 f3
 obtain ⟨r0,r1,r2,r3,f0,f1,f2,f3,-⟩:=RB2.out
 go_wp2
 refine bodyPost_ret (v:=.agg #[.int .i64 c.a.op,.int .i64 c.a.num,.string c.a.name,.slice c.a.ptr (len c.k) c.a.cap]) ?_ rfl ⟨c,rfl,E.out,EX.out.1.av4 (EX.out.2.mono fun g h=>h.2),EX.out.2.mono fun g h=>h.1,set4_below B2.out (by omega)⟩
 rw [results_cell1 rfl];go_simp
set_option maxHeartbeats 4000000 in
theorem red14_any (Av:Nat→Prop) (sp:Option Addr) (b o cap:Nat) (b1 o1:Nat) (a1:Nd) (k1:Fo) (b2 o2:Nat) (a2:Nd) (k2:Fo) (b3 o3:Nat) (a3:Nd) (k3:Fo) (w:World) (hx:FoAt w (.node b1 o1 a1 k1 (.node b2 o2 a2 k2 (.node b3 o3 a3 k3 .nil))) b o) (ha:FoAv Av (.node b1 o1 a1 k1 (.node b2 o2 a2 k2 (.node b3 o3 a3 k3 .nil))) b) (hfree:∀ g,w.heap.size≤g→Av g) (hok:FoOk (.node b1 o1 a1 k1 (.node b2 o2 a2 k2 (.node b3 o3 a3 k3 .nil)))) (hw:wfT (.node b1 o1 a1 k1 (.node b2 o2 a2 k2 (.node b3 o3 a3 k3 .nil)))=true) (hn:(kids (.node b1 o1 a1 k1 (.node b2 o2 a2 k2 (.node b3 o3 a3 k3 .nil)))).all isLit=false) :
 Calls Tryz.prog 80 #[.pointer sp,.agg #[.int .i64 14,.int .i64 0,.string ⟨#[]⟩,.slice (some ⟨b,o,none⟩) 3 cap]] w (ReP w Av (if (ec ⟨b1,o1,a1,k1⟩).a.op=4 then ec ⟨b2,o2,a2,k2⟩ else if (ec ⟨b1,o1,a1,k1⟩).a.op=5 then ec ⟨b3,o3,a3,k3⟩ else nE 14 [ec ⟨b1,o1,a1,k1⟩,ec ⟨b2,o2,a2,k2⟩,ec ⟨b3,o3,a3,k3⟩])):=by
 have CF:=Lib.hid (fun (w:World) (hx:FoAt w (.node b1 o1 a1 k1 (.node b2 o2 a2 k2 (.node b3 o3 a3 k3 .nil))) b o)=>contains_any b o cap (some ⟨b,o,none⟩) (.node b1 o1 a1 k1 (.node b2 o2 a2 k2 (.node b3 o3 a3 k3 .nil))) w (fun _=>rfl) hx hok hw (by simp [len]))
 rw [hn] at CF
 have XX:=Lib.hid hx
 have AV:=Lib.hid ha
 have HF:=Lib.hid hfree
 have AW:Hid (FoAv (fun g=>Av g∧g≠w.heap.size+1) (.node b1 o1 a1 k1 (.node b2 o2 a2 k2 (.node b3 o3 a3 k3 .nil))) b):=(FoAv.lt hx ha).mono (fun g h=>⟨h.1,by omega⟩)
 obtain ⟨R,hR⟩:∃ R,(if (ec ⟨b1,o1,a1,k1⟩).a.op=4 then ec ⟨b2,o2,a2,k2⟩ else if (ec ⟨b1,o1,a1,k1⟩).a.op=5 then ec ⟨b3,o3,a3,k3⟩ else nE 14 [ec ⟨b1,o1,a1,k1⟩,ec ⟨b2,o2,a2,k2⟩,ec ⟨b3,o3,a3,k3⟩])=R:=⟨_,rfl⟩
 have HR:=Lib.hid hR
 rw [hR]
 clear hR
 clear hx ha hfree hok hw hn
 go_enter Tryz.func80,Tryz.ntmps80
 go_wp2_with fail
 have hba:Below w.heap.size w ((w.alloc (.cells #[.int .i64 14,.int .i64 0,.string ⟨#[]⟩,.slice (some ⟨b,o,none⟩) 3 cap] 25)).alloc (.cells #[.int .i64 0,.int .i64 0,.string ⟨#[]⟩,.slice none 0 0] 25)):=(below_box w _).trans ((below_box _ _).mono (by simp))
 refine (CF.out ((w.alloc (.cells #[.int .i64 14,.int .i64 0,.string ⟨#[]⟩,.slice (some ⟨b,o,none⟩) 3 cap] 25)).alloc (.cells #[.int .i64 0,.int .i64 0,.string ⟨#[]⟩,.slice none 0 0] 25)) (XX.out.next hba)).mono ?_
 rintro e w1 ⟨rfl,hb⟩
 have RB:=Lib.hid ((BX4.new (w.alloc (.cells #[.int .i64 14,.int .i64 0,.string ⟨#[]⟩,.slice (some ⟨b,o,none⟩) 3 cap] 25)) (.int .i64 0) (.int .i64 0) (.string ⟨#[]⟩) (.slice none 0 0) 25).next hb)
 have YB:=Lib.hid (((BX4.new w (.int .i64 14) (.int .i64 0) (.string ⟨#[]⟩) (.slice (some ⟨b,o,none⟩) 3 cap) 25).next (below_box _ _)).next hb)
 rw [World.size_alloc] at RB
 have HB:=Lib.hid (hba.trans (hb.mono (by simp;omega)))
 have X1:=Lib.hid (XX.out.next HB.out)
 have hz1:w.heap.size≤w1.heap.size:=HB.out.size
 have hz2:w.heap.size+1 < w1.heap.size:=RB.out.lt
 have HF1:Hid (∀ g,w1.heap.size≤g→Av g∧g≠w.heap.size+1):=fun g hg=>⟨HF.out g (by omega),by omega⟩
 clear hb hba CF
 obtain ⟨x0,x1,x2,x3,-,-,-,-,-⟩:=YB.out
 obtain ⟨r0,r1,r2,r3,f0,f1,f2,f3,-⟩:=RB.out
 obtain ⟨⟨y0,-,-,-⟩,-,-,⟨z0,z1',z2',z3'⟩,hp2,hk2,⟨u0',u1',u2',u3'⟩,hp3,hk3,-⟩:=X1.out
 have z1:w1.cell? ⟨b,o+5,none⟩=some (.int .i64 a2.num):=z1'
 have z2:w1.cell? ⟨b,o+6,none⟩=some (.string a2.name):=z2'
 have z3:w1.cell? ⟨b,o+7,none⟩=some (.slice a2.ptr (len k2) a2.cap):=z3'
 have u0:w1.cell? ⟨b,o+8,none⟩=some (.int .i64 a3.op):=u0'
 have u1:w1.cell? ⟨b,o+9,none⟩=some (.int .i64 a3.num):=u1'
 have u2:w1.cell? ⟨b,o+10,none⟩=some (.string a3.name):=u2'
 have u3:w1.cell? ⟨b,o+11,none⟩=some (.slice a3.ptr (len k3) a3.cap):=u3'
 have Y2:Hid (ExAt w b2 o2 a2 k2):=⟨XX.out.2.2.2.2.1,XX.out.2.2.2.2.2.1⟩
 have Y3:Hid (ExAt w b3 o3 a3 k3):=⟨XX.out.2.2.2.2.2.2.2.1,XX.out.2.2.2.2.2.2.2.2.1⟩
 clear z1' z2' z3' u0' u1' u2' u3' hp2 hk2 hp3 hk3
 by_cases h4:a1.op=4
 · have n4:(a1.op==4)=true:=by simp [h4]
   have e:Hid (R=ec ⟨b2,o2,a2,k2⟩):=by unfold Hid;rw [← HR.out];exact if_pos h4
   clear h4
   go_wp2
   · refine bodyPost_ret (v:=.agg #[.int .i64 a2.op,.int .i64 a2.num,.string a2.name,.slice a2.ptr (len k2) a2.cap]) ?_ rfl (ReP.mk ⟨b2,o2,a2,k2⟩ (set4_below HB.out (by omega)) e.out.symm (fun hB=>Y2.out.next hB) AV.out.2.2.2.1)
     rw [results_cell1 rfl];go_simp
 · have n4:(a1.op==4)=false:=by simp [h4]
   by_cases h5:a1.op=5
   · have n5:(a1.op==5)=true:=by simp [h5]
     have e:Hid (R=ec ⟨b3,o3,a3,k3⟩):=by unfold Hid;rw [← HR.out];exact (if_neg h4).trans (if_pos h5)
     clear h4 h5
     go_wp2
     refine bodyPost_ret (v:=.agg #[.int .i64 a3.op,.int .i64 a3.num,.string a3.name,.slice a3.ptr (len k3) a3.cap]) ?_ rfl (ReP.mk ⟨b3,o3,a3,k3⟩ (set4_below HB.out (by omega)) e.out.symm (fun hB=>Y3.out.next hB) AV.out.2.2.2.2.2.1)
     rw [results_cell1 rfl];go_simp
   · have n5:(a1.op==5)=false:=by simp [h5]
     have e:Hid (R=nE 14 [ec ⟨b1,o1,a1,k1⟩,ec ⟨b2,o2,a2,k2⟩,ec ⟨b3,o3,a3,k3⟩]):=by unfold Hid;rw [← HR.out];exact (if_neg h4).trans (if_neg h5)
     clear h4 h5
     go_wp2
     refine bodyPost_ret (v:=.agg #[.int .i64 14,.int .i64 0,.string ⟨#[]⟩,.slice (some ⟨b,o,none⟩) 3 cap]) ?_ rfl (ReP.mk ⟨b,o,⟨14,0,⟨#[]⟩,some ⟨b,o,none⟩,cap⟩,(.node b1 o1 a1 k1 (.node b2 o2 a2 k2 (.node b3 o3 a3 k3 .nil)))⟩ (set4_below HB.out (by omega)) e.out.symm (fun hB=>⟨fun _=>rfl,XX.out.next hB⟩) AV.out)
     rw [results_cell1 rfl];go_simp
set_option maxHeartbeats 4000000 in
theorem redoth_any (Av:Nat→Prop) (sp:Option Addr) (b o cap:Nat) (op:Int) (k:Fo) (w:World) (hx:FoAt w k b o) (ha:FoAv Av k b) (hfree:∀ g,w.heap.size≤g→Av g) (hok:FoOk k) (hw:wfT k=true) (hn:(kids k).all isLit=false) (hlen:len k≤9223372036854775806) (hop:op≠19∧op≠20∧op≠21∧op≠22∧op≠14∧op≠8∧op≠9∧op≠10∧op≠11) :
 Calls Tryz.prog 80 #[.pointer sp,.agg #[.int .i64 op,.int .i64 0,.string ⟨#[]⟩,.slice (some ⟨b,o,none⟩) (len k) cap]] w (ReP w Av (nE op ((kids k).map ec))):=by
 have CF:=Lib.hid (fun (w:World) (hx:FoAt w k b o)=>contains_any b o cap (some ⟨b,o,none⟩) k w (fun _=>rfl) hx hok hw hlen)
 rw [hn] at CF
 have XX:=Lib.hid hx
 have AV:=Lib.hid ha
 have HF:=Lib.hid hfree
 have AW:Hid (FoAv (fun g=>Av g∧g≠w.heap.size+1) k b):=(FoAv.lt hx ha).mono (fun g h=>⟨h.1,by omega⟩)
 obtain ⟨q19,q20,q21,q22,q14,q8,q9,q10,q11⟩:=hop
 have n19:(op==19)=false:=by simp [q19]
 have n20:(op==20)=false:=by simp [q20]
 have n21:(op==21)=false:=by simp [q21]
 have n22:(op==22)=false:=by simp [q22]
 have n14:(op==14)=false:=by simp [q14]
 have n8:(op==8)=false:=by simp [q8]
 have n9:(op==9)=false:=by simp [q9]
 have n10:(op==10)=false:=by simp [q10]
 have n11:(op==11)=false:=by simp [q11]
 clear q19 q20 q21 q22 q14 q8 q9 q10 q11
 clear hx ha hfree hok hw hn
 go_enter Tryz.func80,Tryz.ntmps80
 go_wp2_with fail
 have hba:Below w.heap.size w ((w.alloc (.cells #[.int .i64 op,.int .i64 0,.string ⟨#[]⟩,.slice (some ⟨b,o,none⟩) (len k) cap] 25)).alloc (.cells #[.int .i64 0,.int .i64 0,.string ⟨#[]⟩,.slice none 0 0] 25)):=(below_box w _).trans ((below_box _ _).mono (by simp))
 refine (CF.out ((w.alloc (.cells #[.int .i64 op,.int .i64 0,.string ⟨#[]⟩,.slice (some ⟨b,o,none⟩) (len k) cap] 25)).alloc (.cells #[.int .i64 0,.int .i64 0,.string ⟨#[]⟩,.slice none 0 0] 25)) (XX.out.next hba)).mono ?_
 rintro e w1 ⟨rfl,hb⟩
 have RB:=Lib.hid ((BX4.new (w.alloc (.cells #[.int .i64 op,.int .i64 0,.string ⟨#[]⟩,.slice (some ⟨b,o,none⟩) (len k) cap] 25)) (.int .i64 0) (.int .i64 0) (.string ⟨#[]⟩) (.slice none 0 0) 25).next hb)
 have YB:=Lib.hid (((BX4.new w (.int .i64 op) (.int .i64 0) (.string ⟨#[]⟩) (.slice (some ⟨b,o,none⟩) (len k) cap) 25).next (below_box _ _)).next hb)
 rw [World.size_alloc] at RB
 have HB:=Lib.hid (hba.trans (hb.mono (by simp;omega)))
 have X1:=Lib.hid (XX.out.next HB.out)
 have hz1:w.heap.size≤w1.heap.size:=HB.out.size
 have hz2:w.heap.size+1 < w1.heap.size:=RB.out.lt
 have HF1:Hid (∀ g,w1.heap.size≤g→Av g∧g≠w.heap.size+1):=fun g hg=>⟨HF.out g (by omega),by omega⟩
 clear hb hba CF
 obtain ⟨x0,x1,x2,x3,-,-,-,-,-⟩:=YB.out
 obtain ⟨r0,r1,r2,r3,f0,f1,f2,f3,-⟩:=RB.out
 go_wp2
 refine bodyPost_ret (v:=.agg #[.int .i64 op,.int .i64 0,.string ⟨#[]⟩,.slice (some ⟨b,o,none⟩) (len k) cap]) ?_ rfl (ReP.mk ⟨b,o,⟨op,0,⟨#[]⟩,some ⟨b,o,none⟩,cap⟩,k⟩ (set4_below HB.out (by omega)) (by show ec _=nE op ((kids k).map ec);rw [nE,← ef_kids];rfl) (fun hB=>⟨fun _=>rfl,XX.out.next hB⟩) AV.out)
 rw [results_cell1 rfl];go_simp
end
section
set_option linter.unusedVariables false
set_option linter.unusedSimpArgs false
open Go.ChangeShapes Go.WideShapes Go.ChangeAt Go.RowKit
open Go.Deep (BT)
theorem fo_one {k:Fo} (h:len k=1):∃ b o a k1,k=BT.node b o a k1 .nil:=by
 cases k with
 | nil=>simp [len] at h
 | node b o a k1 r=>exact ⟨b,o,a,k1,by rw [len_zero (k:=r) (by simp [len] at h;omega)]⟩
theorem fo_two {k:Fo} (h:len k=2):∃ b o a k1 b' o' a' k1',k=BT.node b o a k1 (BT.node b' o' a' k1' .nil):=by
 cases k with
 | nil=>simp [len] at h
 | node b o a k1 r =>
   obtain ⟨b',o',a',k1',e⟩:=fo_one (k:=r) (by simp [len] at h;omega)
   exact ⟨b,o,a,k1,b',o',a',k1',by rw [e]⟩
theorem fo_three {k:Fo} (h:len k=3):∃ b o a k1 b' o' a' k1' b'' o'' a'' k1'',k=BT.node b o a k1 (BT.node b' o' a' k1' (BT.node b'' o'' a'' k1'' .nil)):=by
 cases k with
 | nil=>simp [len] at h
 | node b o a k1 r =>
   obtain ⟨b',o',a',k1',b'',o'',a'',k1'',e⟩:=fo_two (k:=r) (by simp [len] at h;omega)
   exact ⟨b,o,a,k1,b',o',a',k1',b'',o'',a'',k1'',by rw [e]⟩
theorem wf_not {b o:Nat} {a:Nd} {k r:Fo} (h:wfT (BT.node b o a k r)=true):a.op=19→len k=1:=by
 intro q
 have h':((wfB a (len k) && wfT k) && wfT r)=true:=h
 rw [Bool.and_eq_true,Bool.and_eq_true] at h'
 have:=(wf_parts h'.1.1).2.1
 unfold argB at this
 rw [if_neg (by omega),if_pos (Or.inr q)] at this
 simp at this
 omega
set_option maxHeartbeats 1000000 in
theorem red_any (Av:Nat→Prop) (sb:Nat) (kp:Option Addr) (b o cap:Nat) (op:Int) (k:Fo) (T:List Int) (sc:Int) (w:World) (s2:w.cell? ⟨sb,2,none⟩=some (.pointer kp)) (hx:FoAt w k b o) (ha:FoAv Av k b) (hfree:∀ g,w.heap.size≤g→Av g) (hok:FoOk k) (hsm:smL sc T ((kids k).map ec)) (hT:∀ t ∈ T,1≤t∧t≤4) (h7:7≤op∧op≤22) (har:argB op (len k)=true) (hlen:len k≤200) (hr:resT op T≠0) :
 Calls Tryz.prog 80 #[.pointer (some ⟨sb,0,none⟩),.agg #[.int .i64 op,.int .i64 0,.string ⟨#[]⟩,.slice (some ⟨b,o,none⟩) (len k) cap]] w (ReP w Av (if ((kids k).map ec).all isLit=true then litE (resT op T) (opV op (((kids k).map ec).map litV)) else redE op ((kids k).map ec))):=by
 have hw:=smL_ef sc T k hsm
 have hTl:T.length=len k:=by rw [smL_len sc hsm,List.length_map,kids_len]
 have ht:=res_range op T hT h7 hr
 by_cases hall:(kids k).all isLit=true
 · rw [if_pos (by rw [all_ec];exact hall)]
   have hv:=op_ok op T _ (smL_voks sc hsm (by rw [all_ec];exact hall)) h7 (by rw [hTl];exact har) hr
   rw [map_litV_ec] at hv ⊢
   exact redlit_any Av sb kp b o cap op k T _ w s2 hx hok hfree h7 har hlen hw hall (kd_kids sc T k hsm hT hall) hr rfl hv ht
 · rw [if_neg (by rw [all_ec];exact hall)]
   have hn:(kids k).all isLit=false:=by simpa using hall
   clear hall
   by_cases q19:op=19
   · subst q19
     obtain ⟨b1,o1,a1,k1,rfl⟩:=fo_one (k:=k) (by simp [argB] at har;omega)
     exact rednot_any Av _ b o cap b1 o1 a1 k1 w hx ha hok hw (by simpa [kids] using hn) (wf_not hw)
   by_cases q20:op=20
   · subst q20
     obtain ⟨b1,o1,a1,k1,b2,o2,a2,k2,rfl⟩:=fo_two (k:=k) (by simp [argB] at har;omega)
     exact red20_any Av _ b o cap b1 o1 a1 k1 b2 o2 a2 k2 w hx ha hfree hok hw hn
   by_cases q21:op=21
   · subst q21
     obtain ⟨b1,o1,a1,k1,b2,o2,a2,k2,rfl⟩:=fo_two (k:=k) (by simp [argB] at har;omega)
     exact red21_any Av _ b o cap b1 o1 a1 k1 b2 o2 a2 k2 w hx ha hfree hok hw hn
   by_cases q22:op=22
   · subst q22
     obtain ⟨b1,o1,a1,k1,b2,o2,a2,k2,rfl⟩:=fo_two (k:=k) (by simp [argB] at har;omega)
     obtain ⟨t,u,c,d,rfl,e,hc,hd⟩:=smL2 hsm rfl
     obtain ⟨rfl,-,-⟩:=res_junc 22 t u (by decide) hr
     have e1:ec ⟨b1,o1,a1,k1⟩=c:=by
      have e':[ec ⟨b1,o1,a1,k1⟩,ec ⟨b2,o2,a2,k2⟩]=[c,d]:=e
      exact (List.cons.inj e').1
     subst e1
     exact red22_any Av _ b o cap b1 o1 a1 k1 b2 o2 a2 k2 w hx ha hfree hok hw hn (fun h4 h5 _=>by
      have:=bool_lit hc h4 h5
      rw [isLit_ec] at this
      simpa using this) (wf_not hw)
   by_cases q14:op=14
   · subst q14
     obtain ⟨b1,o1,a1,k1,b2,o2,a2,k2,b3,o3,a3,k3,rfl⟩:=fo_three (k:=k) (by simp [argB] at har;omega)
     exact red14_any Av _ b o cap b1 o1 a1 k1 b2 o2 a2 k2 b3 o3 a3 k3 w hx ha hfree hok hw hn
   by_cases q8:op=8
   · subst q8
     obtain ⟨b1,o1,a1,k1,b2,o2,a2,k2,rfl⟩:=fo_two (k:=k) (by simp [argB] at har;omega)
     exact red8_any Av _ b o cap b1 o1 a1 k1 b2 o2 a2 k2 w hx ha hfree hok hw hn
   by_cases q9:op=9
   · subst q9
     obtain ⟨b1,o1,a1,k1,b2,o2,a2,k2,rfl⟩:=fo_two (k:=k) (by simp [argB] at har;omega)
     exact red9_any Av _ b o cap b1 o1 a1 k1 b2 o2 a2 k2 w hx ha hfree hok hw hn
   by_cases q10:op=10
   · subst q10
     obtain ⟨b1,o1,a1,k1,b2,o2,a2,k2,rfl⟩:=fo_two (k:=k) (by simp [argB] at har;omega)
     exact red10_any Av _ b o cap b1 o1 a1 k1 b2 o2 a2 k2 w hx ha hfree hok hw hn
   by_cases q11:op=11
   · subst q11
     obtain ⟨b1,o1,a1,k1,b2,o2,a2,k2,rfl⟩:=fo_two (k:=k) (by simp [argB] at har;omega)
     exact red11_any Av _ b o cap b1 o1 a1 k1 b2 o2 a2 k2 w hx ha hfree hok hw hn
   have e:redE op ((kids k).map ec)=nE op ((kids k).map ec):=by
    unfold redE
    rw [if_neg q19,if_neg q20,if_neg q21,if_neg q22,if_neg q14,if_neg q8,if_neg q9,if_neg q10,if_neg q11]
   rw [e]
   exact redoth_any Av _ b o cap op k w hx ha hfree hok hw hn (by omega) ⟨q19,q20,q21,q22,q14,q8,q9,q10,q11⟩
end
section
set_option linter.unusedVariables false
set_option linter.unusedSimpArgs false
open Go.RowKit
open Go.Deep (BT)
def LnC (c:Ch):Prop:=len c.k≤200∧LnB c.k
theorem lnb_row (L:List Ch) (h:∀ c ∈ L,LnC c):LnB (rowF L):=by
 induction L with
 | nil=>trivial
 | cons c l ih=>exact ⟨h c (by simp),ih fun d hd=>h d (by simp [hd])⟩
theorem lnb_kids (T:Fo) (h:LnB T):∀ c ∈ kids T,LnC c:=by
 induction T with
 | nil=>intro c hc;cases hc
 | node b o a k r _ ihr =>
   intro c hc
   rcases List.mem_cons.1 hc with rfl|hc
   · exact h.1
   · exact ihr h.2 c hc
theorem lnc_dE (op num:Int) (s:ByteArray):LnC (dE op num s):=⟨Nat.zero_le _,trivial⟩
theorem lnc_nE (op:Int) (L:List Ch) (hl:L.length≤200) (h:∀ c ∈ L,LnC c):LnC (nE op L):=⟨by show len (rowF L)≤200;rw [rowF_len];exact hl,lnb_row L h⟩
theorem lnc_litE (t v:Int):LnC (litE t v):=by
 unfold litE
 (repeat' split)<;>first|exact lnc_dE _ _ _|exact lnc_nE _ _ (by simp) (fun c hc=>by rw [List.mem_singleton.1 hc];exact lnc_dE _ _ _)
theorem lnc_getD (L:List Ch) (i:Nat) (h:∀ c ∈ L,LnC c):LnC (L.getD i (dE 0 0 noN)):=by
 rw [List.getD_eq_getElem?_getD]
 cases q:L[i]? with
 | none=>exact lnc_dE _ _ _
 | some c=>exact h c (List.mem_of_getElem? q)
theorem lnc_k0 (c:Ch) (h:LnC c):LnC (k0 c):=lnc_getD _ 0 (lnb_kids _ h.2)
theorem lnc_not (c:Ch) (h:LnC c):LnC (notE c):=by
 unfold notE
 split
 · exact lnc_k0 c h
 · exact lnc_nE _ _ (by simp) (fun d hd=>by rw [List.mem_singleton.1 hd];exact h)
theorem lnc_junc (op st wk:Int) (L:List Ch) (hl:L.length≤200) (h:∀ c ∈ L,LnC c):LnC (juncE op st wk L):=by
 have a0:LnC (g0 L):=lnc_getD L 0 h
 have a1:LnC (g1 L):=lnc_getD L 1 h
 unfold juncE
 split
 · exact lnc_dE _ _ _
 · split
   · exact a1
   · split
     · exact a0
     · exact lnc_nE _ _ hl h
theorem lnc_impl (L:List Ch) (hl:L.length≤200) (h:∀ c ∈ L,LnC c):LnC (implE L):=by
 have a0:LnC (g0 L):=lnc_getD L 0 h
 have a1:LnC (g1 L):=lnc_getD L 1 h
 unfold implE
 split
 · exact lnc_dE _ _ _
 · split
   · exact a1
   · split
     · exact lnc_not _ a0
     · exact lnc_nE _ _ hl h
theorem lnc_neut (op:Int) (is:Ch→Bool) (both:Bool) (L:List Ch) (hl:L.length≤200) (h:∀ c ∈ L,LnC c):LnC (neutE op is both L):=by
 have a0:LnC (g0 L):=lnc_getD L 0 h
 have a1:LnC (g1 L):=lnc_getD L 1 h
 unfold neutE
 split
 · exact a0
 · split
   · exact a1
   · exact lnc_nE _ _ hl h
theorem lnc_red (op:Int) (L:List Ch) (hl:L.length≤200) (h:∀ c ∈ L,LnC c):LnC (redE op L):=by
 have a0:LnC (g0 L):=lnc_getD L 0 h
 have a1:LnC (g1 L):=lnc_getD L 1 h
 have a2:LnC (g2 L):=lnc_getD L 2 h
 have a3:=lnc_not _ a0
 have j1:=fun st wk=>lnc_junc 20 st wk L hl h
 have j2:=fun st wk=>lnc_junc 21 st wk L hl h
 have i1:=lnc_impl L hl h
 have n1:=fun op is both=>lnc_neut op is both L hl h
 have nn:=lnc_nE op L hl h
 have nn14:=lnc_nE 14 L hl h
 unfold redE
 by_cases q1:op=19
 · rw [if_pos q1];exact a3
 rw [if_neg q1]
 by_cases q2:op=20
 · rw [if_pos q2];exact j1 _ _
 rw [if_neg q2]
 by_cases q3:op=21
 · rw [if_pos q3];exact j2 _ _
 rw [if_neg q3]
 by_cases q4:op=22
 · rw [if_pos q4];exact i1
 rw [if_neg q4]
 by_cases q5:op=14
 · rw [if_pos q5]
   by_cases t1:(g0 L).a.op=4
   · rw [if_pos t1];exact a1
   · rw [if_neg t1]
     by_cases t2:(g0 L).a.op=5
     · rw [if_pos t2];exact a2
     · rw [if_neg t2];exact nn14
 rw [if_neg q5]
 by_cases q6:op=8
 · rw [if_pos q6];exact n1 _ _ _
 rw [if_neg q6]
 by_cases q7:op=9
 · rw [if_pos q7];exact n1 _ _ _
 rw [if_neg q7]
 by_cases q8:op=10
 · rw [if_pos q8];exact n1 _ _ _
 rw [if_neg q8]
 by_cases q9:op=11
 · rw [if_pos q9];exact n1 _ _ _
 rw [if_neg q9]
 exact nn
theorem simF_lnc (look:Look) (cv:ByteArray→Int) (sc:Int) (T:Fo) (h:LnB T):∀ c ∈ simF look cv sc T,LnC c:=by
 induction T with
 | nil=>intro c hc;cases hc
 | node b o a k r ihk ihr =>
   intro c hc
   rcases List.mem_cons.1 hc with rfl|hc
   · have hl:=simF_len look cv sc k
     have hk:=ihk h.1.2
     show LnC (sim1 look cv sc a (tyF look sc k).2 (simF look cv sc k))
     unfold sim1
     (repeat' split)<;>first|exact lnc_dE _ _ _|exact lnc_litE _ _|exact lnc_red _ _ (by rw [hl];exact h.1.1) hk
   · exact ihr h.2 c hc
theorem sim_lnc (look:Look) (cv:ByteArray→Int) (sc:Int) (a:Nd) (k:Fo) (hl:len k≤200) (h:LnB k):LnC (simT look cv sc a k) :=
 simF_lnc look cv sc (.node 0 0 a k .nil) ⟨⟨hl,h⟩,trivial⟩ _ (List.mem_singleton.2 rfl)
theorem sz_lnb (T:Fo) (h:sz T≤200):LnB T:=by
 induction T with
 | nil=>trivial
 | node b o a k r ihk ihr =>
   have e:sz (BT.node b o a k r)=1+sz k+sz r:=rfl
   rw [e] at h
   exact ⟨⟨Nat.le_trans (len_le_sz k) (by omega),ihk (by omega)⟩,ihr (by omega)⟩
theorem lnb_ef (T:Fo):LnB (ef T)↔LnB T:=by
 induction T with
 | nil=>exact Iff.rfl
 | node b o a k r ihk ihr =>
   show (len (ef k)≤200∧LnB (ef k))∧LnB (ef r)↔(len k≤200∧LnB k)∧LnB r
   rw [ef_len,ihk,ihr]
theorem lnc_ec (c:Ch):LnC (ec c)↔LnC c:=by
 unfold LnC ec
 dsimp only
 rw [ef_len,lnb_ef]
theorem attrS_len (s:ByteArray) (h:attrS s=true):s.size≤33:=by
 unfold attrS Nam.attr at h
 have e:s.data.toList.length=s.size:=by rw [Array.length_toList];rfl
 rw [← e]
 generalize s.data.toList=l at *
 split at h
 · unfold Nam.declName Nam.isName at h
   simp only [Bool.and_eq_true,decide_eq_true_eq] at h
   omega
 · unfold Nam.isName at h
   simp only [Bool.and_eq_true,decide_eq_true_eq,List.length_take,List.length_drop] at h
   omega
theorem nd_ok (a:Nd) (n:Nat) (h:wfB a n=true) (hn:n≤200):NdOk a n:=by
 obtain ⟨h1,h2,h3,h4⟩:=wf_parts h
 refine ⟨by omega,?_,?_,by omega⟩
 · unfold numB at h3
   (repeat' split at h3)<;>(simp only [decide_eq_true_eq] at h3;omega)
 · unfold namB at h4
   split at h4
   · exact Nat.le_trans (attrS_len a.name h4) (by decide)
   · simp only [decide_eq_true_eq] at h4;omega
theorem fo_ok (T:Fo) (h:wfT T=true) (hl:LnB T):FoOk T:=by
 induction T with
 | nil=>trivial
 | node b o a k r ihk ihr =>
   have h':((wfB a (len k) && wfT k) && wfT r)=true:=h
   rw [Bool.and_eq_true,Bool.and_eq_true] at h'
   exact ⟨nd_ok a (len k) h'.1.1 hl.1.1,ihk h'.1.2 hl.1.2,ihr h'.2 hl.2⟩
end
end Go.Proofs.YtfoedbfkddoibaaGreat
