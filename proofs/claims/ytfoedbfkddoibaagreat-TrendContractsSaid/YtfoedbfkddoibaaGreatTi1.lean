import Derived.Test.YtfoedbfkddoibaaGreatTrH
import Derived.Test.YtfoedbfkddoibaaGreatTp1
namespace Go.Proofs.YtfoedbfkddoibaaGreat
section
set_option linter.unusedVariables false
set_option linter.unusedSimpArgs false
open Go.Deep (BT)
theorem kd_res (op:Int) (T:List Int) (h7:7≤op) (hr:resT op T≠0):kd1 op T=resT op T:=by
 have n1:op≠1:=by omega
 have n2:op≠2:=by omega
 have n3:op≠3:=by omega
 have n4:¬ (op=4∨op=5):=by omega
 unfold resT at hr ⊢
 unfold kd1
 rw [if_neg n1,if_neg n2,if_neg n3,if_neg n4] at hr
 rw [if_neg n1,if_neg n2,if_neg n3,if_neg n1,if_neg n2,if_neg n3,if_neg n4]
 by_cases a:op=7∨op=8∨op=9∨op=12∨op=13
 · rw [if_pos a] at hr
   rw [if_pos a,if_pos a]
   split at hr
   · rename_i h;rw [if_pos h]
   · exact absurd rfl hr
 · rw [if_neg a] at hr
   rw [if_neg a,if_neg a]
   by_cases c:op=14
   · have c':¬ (op=10∨op=11):=by omega
     rw [if_neg c',if_pos c] at hr
     rw [if_pos c,if_neg c',if_pos c]
     split at hr
     · rename_i h;rw [if_pos h]
     · exact absurd rfl hr
   · rw [if_neg c]
     generalize T.getD 0 0=t at *
     generalize T.getD 1 0=u at *
     by_cases d:op=10
     · subst d
       rw [if_pos (Or.inl rfl)] at hr
       rw [if_pos rfl,if_pos (Or.inl rfl)]
       unfold prodT at hr ⊢
       (repeat' split at hr)<;>(repeat' split)<;>first|omega|(exfalso;omega)
     · rw [if_neg d]
       by_cases f:op=11
       · subst f
         rw [if_pos (Or.inr rfl)] at hr
         rw [if_pos rfl,if_pos (Or.inr rfl)]
         unfold prodT at hr ⊢
         (repeat' split at hr)<;>(repeat' split)<;>first|omega|(exfalso;omega)
       · have f':¬ (op=10∨op=11):=by omega
         rw [if_neg f',if_neg c] at hr
         rw [if_neg f,if_neg f',if_neg c]
         split at hr
         · rename_i h;rw [if_pos h]
         · exact absurd rfl hr
theorem kd_lit (t v:Int) (h:1≤t∧t≤4):kdT (litE t v).a (litE t v).k=t:=by
 unfold litE
 by_cases h4:t=4
 · rw [if_pos h4];split<;>(rw [h4];rfl)
 · rw [if_neg h4]
   by_cases h3:t=3
   · rw [if_pos h3,h3];rfl
   · rw [if_neg h3]
     by_cases h2:t=2
     · subst h2;split<;>rfl
     · obtain rfl:t=1:=by omega
       split<;>rfl
theorem kdF_sm (sc:Int):∀ {T:List Int} {L:List Ch},smL sc T L→(∀ t ∈ T,1≤t∧t≤4)→L.all isLit=true→kdF (rowF L)=T
 | [],[],_,_,_=>rfl
 | t :: T,c :: L,h,hT,hl=>by
   rw [List.all_cons,Bool.and_eq_true] at hl
   show kdT c.a c.k :: kdF (rowF L)=t :: T
   rw [kdF_sm sc h.2 (fun x hx=>hT x (List.mem_cons_of_mem _ hx)) hl.2,(h.1.lit hl.1).1,kd_lit t _ (hT t (List.mem_cons_self ..))]
 | [],_ :: _,h,_,_=>h.elim
 | _ :: _,[],h,_,_=>h.elim
end
section
set_option linter.unusedVariables false
set_option linter.unusedSimpArgs false
open Go.ChangeShapes Go.WideShapes Go.ChangeAt Go.RowKit
open Go.Deep (BT)
set_option maxHeartbeats 4000000 in
theorem rednot_any (Av:Nat→Prop) (sp:Option Addr) (b o cap b1 o1:Nat) (a1:Nd) (k1:Fo) (w:World) (hx:FoAt w (.node b1 o1 a1 k1 .nil) b o) (ha:FoAv Av (.node b1 o1 a1 k1 .nil) b) (hok:FoOk (.node b1 o1 a1 k1 .nil)) (hw:wfT (.node b1 o1 a1 k1 .nil)=true) (hn:isLit ⟨b1,o1,a1,k1⟩=false) (h19:a1.op=19→len k1=1) :
 Calls Tryz.prog 80 #[.pointer sp,.agg #[.int .i64 19,.int .i64 0,.string ⟨#[]⟩,.slice (some ⟨b,o,none⟩) 1 cap]] w (ReP w Av (notE (ec ⟨b1,o1,a1,k1⟩))):=by
 have CF:=Lib.hid (fun (w:World) (hx:FoAt w (.node b1 o1 a1 k1 .nil) b o)=>contains_any b o cap (some ⟨b,o,none⟩) (.node b1 o1 a1 k1 .nil) w (fun _=>rfl) hx hok hw (by simp [len]))
 obtain ⟨⟨c0,c1,c2,c3⟩,hp1,hk1,-⟩:=hx
 have XX:=Lib.hid (show FoAt w (.node b1 o1 a1 k1 .nil) b o from ⟨⟨c0,c1,c2,c3⟩,hp1,hk1,trivial⟩)
 have X1:=Lib.hid (show ExAt w b1 o1 a1 k1 from ⟨hp1,hk1⟩)
 have AV:=Lib.hid ha
 have hg:=block_lt_of_cell c0
 simp at hg
 have HL:Hid ((kids (.node b1 o1 a1 k1 .nil)).all isLit=false):=by show (isLit ⟨b1,o1,a1,k1⟩ && true)=false;rw [hn];rfl
 have H19:=Lib.hid h19
 clear hp1 hk1 ha hok hw hn h19
 have J:Hid (notE (ec ⟨b1,o1,a1,k1⟩)=if a1.op=19 then k0 (ec ⟨b1,o1,a1,k1⟩) else nE 19 [ec ⟨b1,o1,a1,k1⟩]):=rfl
 generalize notE (ec ⟨b1,o1,a1,k1⟩)=R at *
 go_enter Tryz.func80,Tryz.ntmps80
 go_wp2_with fail
 have hba:Below w.heap.size w ((w.alloc (.cells #[.int .i64 19,.int .i64 0,.string ⟨#[]⟩,.slice (some ⟨b,o,none⟩) 1 cap] 25)).alloc (.cells #[.int .i64 0,.int .i64 0,.string ⟨#[]⟩,.slice none 0 0] 25)):=by (repeat (first|exact Below.refl _ _|refine Below.drew ?_|refine Below.alloc ?_ (by first|exact Nat.le_refl _|(simp<;>omega)) _|refine Below.setCell ?_ (by first|exact Nat.le_refl _|(simp<;>omega)) _))
 have CC:=CF.out ((w.alloc (.cells #[.int .i64 19,.int .i64 0,.string ⟨#[]⟩,.slice (some ⟨b,o,none⟩) 1 cap] 25)).alloc (.cells #[.int .i64 0,.int .i64 0,.string ⟨#[]⟩,.slice none 0 0] 25)) (XX.out.next hba)
 rw [HL.out] at CC
 refine CC.mono ?_
 rintro e w1 ⟨rfl,hb⟩
 have hb0:Below ((w.alloc (.cells #[.int .i64 19,.int .i64 0,.string ⟨#[]⟩,.slice (some ⟨b,o,none⟩) 1 cap] 25)).alloc (.cells #[.int .i64 0,.int .i64 0,.string ⟨#[]⟩,.slice none 0 0] 25)).heap.size ((w.alloc (.cells #[.int .i64 19,.int .i64 0,.string ⟨#[]⟩,.slice (some ⟨b,o,none⟩) 1 cap] 25)).alloc (.cells #[.int .i64 0,.int .i64 0,.string ⟨#[]⟩,.slice none 0 0] 25)) w1:=hb
 have hbw:=hba.trans (hb0.mono (by simp;omega))
 have HB:=Lib.hid hbw
 have hz:w.heap.size+1 < w1.heap.size:=by have:=hb0.size;simp at this;omega
 have x0:w1.cell? ⟨w.heap.size,0,none⟩=some (.int .i64 19):=by rw [hb0.cell (p:=⟨w.heap.size,0,none⟩) (by simp;omega)];simp [go_sem]
 have x1:w1.cell? ⟨w.heap.size,1,none⟩=some (.int .i64 0):=by rw [hb0.cell (p:=⟨w.heap.size,1,none⟩) (by simp;omega)];simp [go_sem]
 have x2:w1.cell? ⟨w.heap.size,2,none⟩=some (.string ⟨#[]⟩):=by rw [hb0.cell (p:=⟨w.heap.size,2,none⟩) (by simp;omega)];simp [go_sem]
 have x3:w1.cell? ⟨w.heap.size,3,none⟩=some (.slice (some ⟨b,o,none⟩) 1 cap):=by rw [hb0.cell (p:=⟨w.heap.size,3,none⟩) (by simp;omega)];simp [go_sem]
 have r0:w1.cell? ⟨w.heap.size+1,0,none⟩=some (.int .i64 0):=by rw [hb0.cell (p:=⟨w.heap.size+1,0,none⟩) (by simp)];simp [go_sem]
 have f0:w1.frozen? ⟨w.heap.size+1,0,none⟩=false:=by rw [hb0.frozen (p:=⟨w.heap.size+1,0,none⟩) (by simp)];simp [go_sem]
 have r1:w1.cell? ⟨w.heap.size+1,1,none⟩=some (.int .i64 0):=by rw [hb0.cell (p:=⟨w.heap.size+1,1,none⟩) (by simp)];simp [go_sem]
 have f1:w1.frozen? ⟨w.heap.size+1,1,none⟩=false:=by rw [hb0.frozen (p:=⟨w.heap.size+1,1,none⟩) (by simp)];simp [go_sem]
 have r2:w1.cell? ⟨w.heap.size+1,2,none⟩=some (.string ⟨#[]⟩):=by rw [hb0.cell (p:=⟨w.heap.size+1,2,none⟩) (by simp)];simp [go_sem]
 have f2:w1.frozen? ⟨w.heap.size+1,2,none⟩=false:=by rw [hb0.frozen (p:=⟨w.heap.size+1,2,none⟩) (by simp)];simp [go_sem]
 have r3:w1.cell? ⟨w.heap.size+1,3,none⟩=some (.slice none 0 0):=by rw [hb0.cell (p:=⟨w.heap.size+1,3,none⟩) (by simp)];simp [go_sem]
 have f3:w1.frozen? ⟨w.heap.size+1,3,none⟩=false:=by rw [hb0.frozen (p:=⟨w.heap.size+1,3,none⟩) (by simp)];simp [go_sem]
 have y0:w1.cell? ⟨b,o,none⟩=some (.int .i64 a1.op):=by rw [hbw.cell (p:=⟨b,o,none⟩) hg];exact c0
 have y1:w1.cell? ⟨b,o+1,none⟩=some (.int .i64 a1.num):=by rw [hbw.cell (p:=⟨b,o+1,none⟩) hg];exact c1
 have y2:w1.cell? ⟨b,o+2,none⟩=some (.string a1.name):=by rw [hbw.cell (p:=⟨b,o+2,none⟩) hg];exact c2
 have y3:w1.cell? ⟨b,o+3,none⟩=some (.slice a1.ptr (len k1) a1.cap):=by rw [hbw.cell (p:=⟨b,o+3,none⟩) hg];exact c3
 clear hb hb0 hba hbw c0 c1 c2 c3 CC CF
 by_cases h:a1.op=19
 · have hl:=H19.out h
   have n1:(a1.op==19)=true:=by simp [h]
   cases k1 with
   | nil=>exact absurd hl (by simp [len])
   | node b2 o2 a2 k2 r2 =>
   cases r2 with
   | node b3 o3 a3 k3 r3=>exact absurd hl (by simp [len])
   | nil =>
   have e:Hid (R=ec ⟨b2,o2,a2,k2⟩):=by unfold Hid;rw [J.out,if_pos h];rfl
   have Y:=X1.out.next HB.out
   have hq:a1.ptr=some ⟨b1,o1,none⟩:=Y.1 (by simp)
   have y3':w1.cell? ⟨b,o+3,none⟩=some (.slice (some ⟨b1,o1,none⟩) 1 a1.cap):=by rw [y3,hq];rfl
   obtain ⟨⟨v0,v1,v2,v3⟩,hp2,hk2,-⟩:=Y.2
   have X2:=Lib.hid (show ExAt w1 b2 o2 a2 k2 from ⟨hp2,hk2⟩)
   clear J h H19 Y hq y3 hp2 hk2 hl
   go_wp2
   refine bodyPost_ret (v:=.agg #[.int .i64 a2.op,.int .i64 a2.num,.string a2.name,.slice a2.ptr (len k2) a2.cap]) ?_ rfl ?_
   · rw [results_cell1 rfl];go_simp
   · refine ReP.mk ⟨b2,o2,a2,k2⟩ (by (repeat (first|exact Below.refl _ _|refine Below.drew ?_|refine Below.alloc ?_ (by first|exact Nat.le_refl _|(simp<;>omega)) _|refine Below.setCell ?_ (by first|exact Nat.le_refl _|(simp<;>omega)) _));exact HB.out) ?_ (fun hB=>?_) ?_
     · rw [e.out]
     · exact ((X1.out.next hB).2).2.1 |> fun h=>⟨h,((X1.out.next hB).2).2.2.1⟩
     · exact AV.out.2.1.2.1
 · have n1:(a1.op==19)=false:=by simp [h]
   have e:Hid (R=nE 19 [ec ⟨b1,o1,a1,k1⟩]):=by unfold Hid;rw [J.out,if_neg h]
   clear J h H19
   go_wp2
   refine bodyPost_ret (v:=.agg #[.int .i64 19,.int .i64 0,.string ⟨#[]⟩,.slice (some ⟨b,o,none⟩) 1 cap]) ?_ rfl ?_
   · rw [results_cell1 rfl];go_simp
   · refine ReP.mk ⟨b,o,⟨19,0,⟨#[]⟩,some ⟨b,o,none⟩,cap⟩,(.node b1 o1 a1 k1 .nil)⟩ (by (repeat (first|exact Below.refl _ _|refine Below.drew ?_|refine Below.alloc ?_ (by first|exact Nat.le_refl _|(simp<;>omega)) _|refine Below.setCell ?_ (by first|exact Nat.le_refl _|(simp<;>omega)) _));exact HB.out) ?_ (fun hB=>?_) ?_
     · rw [e.out];rfl
     · exact ⟨fun _=>rfl,XX.out.next hB⟩
     · exact AV.out
end
end Go.Proofs.YtfoedbfkddoibaaGreat
