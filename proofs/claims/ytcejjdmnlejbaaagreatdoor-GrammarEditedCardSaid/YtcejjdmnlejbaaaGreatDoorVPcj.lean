import Derived.Test.YtcejjdmnlejbaaaGreatDoorVPch
namespace Go.Proofs.YtcejjdmnlejbaaaGreatDoor
open Lib(hid)
set_option linter.unusedVariables false
set_option linter.unusedSimpArgs false
open Go.ChangeShapes Go.WideShapes Go.ChangeAt Go.RowKit
open Go.Deep (BT)
set_option maxHeartbeats 2000000
set_option maxRecDepth 100000
structure PgB (w:World) (g mb:Nat) (c:Pc.PC) (vs:Fin 6→Value):Prop where
 c0:w.cell? ⟨g,0,none⟩=some (.int .i64 c.rep)
 c1:w.cell? ⟨g,1,none⟩=some (.int .i64 c.rel)
 c2:w.cell? ⟨g,2,none⟩=some (.int .i64 c.con)
 c3:w.cell? ⟨g,3,none⟩=some (.int .i64 c.sit)
 c4:w.cell? ⟨g,4,none⟩=some (.int .i64 c.lay)
 c5:w.cell? ⟨g,5,none⟩=some (.int .i64 c.nf)
 c6:w.cell? ⟨g,6,none⟩=some (.int .i64 c.nt)
 c7:w.cell? ⟨g,7,none⟩=some (vs 0)
 c8:w.cell? ⟨g,8,none⟩=some (vs 1)
 c9:w.cell? ⟨g,9,none⟩=some (vs 2)
 c10:w.cell? ⟨g,10,none⟩=some (vs 3)
 c11:w.cell? ⟨g,11,none⟩=some (vs 4)
 c12:w.cell? ⟨g,12,none⟩=some (vs 5)
 c13:w.cell? ⟨g,13,none⟩=some (.int .i64 c.gua)
 c14:w.cell? ⟨g,14,none⟩=some (.map (some mb))
 f0:w.frozen? ⟨g,0,none⟩=false
 f1:w.frozen? ⟨g,1,none⟩=false
 f2:w.frozen? ⟨g,2,none⟩=false
 f3:w.frozen? ⟨g,3,none⟩=false
 f4:w.frozen? ⟨g,4,none⟩=false
 f5:w.frozen? ⟨g,5,none⟩=false
 f6:w.frozen? ⟨g,6,none⟩=false
 f7:w.frozen? ⟨g,7,none⟩=false
 f8:w.frozen? ⟨g,8,none⟩=false
 f9:w.frozen? ⟨g,9,none⟩=false
 f10:w.frozen? ⟨g,10,none⟩=false
 f11:w.frozen? ⟨g,11,none⟩=false
 f12:w.frozen? ⟨g,12,none⟩=false
 f13:w.frozen? ⟨g,13,none⟩=false
 n:∀i,15≤i→w.cell? ⟨g,i,none⟩=none
 lt:g < w.heap.size
theorem PgB.of_block{w w':World}{g mb:Nat}{c:Pc.PC}{vs:Fin 6→Value}(h:PgB w g mb c vs)(e:w'.heap[g]?=w.heap[g]?)(hl:w.heap.size≤w'.heap.size):PgB w' g mb c vs:=by
 have q:∀i,w'.cell? ⟨g,i,none⟩=w.cell? ⟨g,i,none⟩:=fun i=>World.cell?_of_block e;have qf:∀i,w'.frozen? ⟨g,i,none⟩=w.frozen? ⟨g,i,none⟩:=fun i=>World.frozen?_of_block e;obtain⟨c0,c1,c2,c3,c4,c5,c6,c7,c8,c9,c10,c11,c12,c13,c14,f0,f1,f2,f3,f4,f5,f6,f7,f8,f9,f10,f11,f12,f13,n,lt⟩:=h;exact⟨by rw[q];exact c0,by rw[q];exact c1,by rw[q];exact c2,by rw[q];exact c3,by rw[q];exact c4,by rw[q];exact c5,by rw[q];exact c6,by rw[q];exact c7,by rw[q];exact c8,by rw[q];exact c9,by rw[q];exact c10,by rw[q];exact c11,by rw[q];exact c12,by rw[q];exact c13,by rw[q];exact c14,by rw[qf];exact f0,by rw[qf];exact f1,by rw[qf];exact f2,by rw[qf];exact f3,by rw[qf];exact f4,by rw[qf];exact f5,by rw[qf];exact f6,by rw[qf];exact f7,by rw[qf];exact f8,by rw[qf];exact f9,by rw[qf];exact f10,by rw[qf];exact f11,by rw[qf];exact f12,by rw[qf];exact f13,fun i hi=>by rw[q];exact n i hi,by omega⟩
theorem PgB.next{w w':World}{g mb:Nat}{c:Pc.PC}{vs:Fin 6→Value}(h:PgB w g mb c vs)(hb:Below w.heap.size w w'):PgB w' g mb c vs:=h.of_block (hb.block g h.lt) hb.size
theorem PgB.grown{w w':World}{g mb:Nat}{c:Pc.PC}{vs:Fin 6→Value}{row:Option Nat}(h:PgB w g mb c vs)(hg:w.grownBy w' row)(hn:some g≠row):PgB w' g mb c vs:=h.of_block (hg.block g h.lt hn) hg.size
theorem PgB.set_rep{w:World}{g mb:Nat}{c:Pc.PC}{vs:Fin 6→Value}(h:PgB w g mb c vs)(x:Int):PgB (w.setCell ⟨g,0,none⟩ (.int .i64 x)) g mb { c with rep:=x } vs:=by
 obtain⟨c0,c1,c2,c3,c4,c5,c6,c7,c8,c9,c10,c11,c12,c13,c14,f0,f1,f2,f3,f4,f5,f6,f7,f8,f9,f10,f11,f12,f13,n,lt⟩:=h;refine⟨?_,?_,?_,?_,?_,?_,?_,?_,?_,?_,?_,?_,?_,?_,?_,?_,?_,?_,?_,?_,?_,?_,?_,?_,?_,?_,?_,?_,?_,fun j hj=>by have h1:=n j hj;have h2:j≠0:=(by omega);simp[go_sem,h1,h2],by simp[World.setCell];exact lt⟩<;>simp[go_sem,c0,c1,c2,c3,c4,c5,c6,c7,c8,c9,c10,c11,c12,c13,c14,f0,f1,f2,f3,f4,f5,f6,f7,f8,f9,f10,f11,f12,f13]
theorem PgB.set_rel{w:World}{g mb:Nat}{c:Pc.PC}{vs:Fin 6→Value}(h:PgB w g mb c vs)(x:Int):PgB (w.setCell ⟨g,1,none⟩ (.int .i64 x)) g mb { c with rel:=x } vs:=by
 obtain⟨c0,c1,c2,c3,c4,c5,c6,c7,c8,c9,c10,c11,c12,c13,c14,f0,f1,f2,f3,f4,f5,f6,f7,f8,f9,f10,f11,f12,f13,n,lt⟩:=h;refine⟨?_,?_,?_,?_,?_,?_,?_,?_,?_,?_,?_,?_,?_,?_,?_,?_,?_,?_,?_,?_,?_,?_,?_,?_,?_,?_,?_,?_,?_,fun j hj=>by have h1:=n j hj;have h2:j≠1:=(by omega);simp[go_sem,h1,h2],by simp[World.setCell];exact lt⟩<;>simp[go_sem,c0,c1,c2,c3,c4,c5,c6,c7,c8,c9,c10,c11,c12,c13,c14,f0,f1,f2,f3,f4,f5,f6,f7,f8,f9,f10,f11,f12,f13]
theorem PgB.set_con{w:World}{g mb:Nat}{c:Pc.PC}{vs:Fin 6→Value}(h:PgB w g mb c vs)(x:Int):PgB (w.setCell ⟨g,2,none⟩ (.int .i64 x)) g mb { c with con:=x } vs:=by
 obtain⟨c0,c1,c2,c3,c4,c5,c6,c7,c8,c9,c10,c11,c12,c13,c14,f0,f1,f2,f3,f4,f5,f6,f7,f8,f9,f10,f11,f12,f13,n,lt⟩:=h;refine⟨?_,?_,?_,?_,?_,?_,?_,?_,?_,?_,?_,?_,?_,?_,?_,?_,?_,?_,?_,?_,?_,?_,?_,?_,?_,?_,?_,?_,?_,fun j hj=>by have h1:=n j hj;have h2:j≠2:=(by omega);simp[go_sem,h1,h2],by simp[World.setCell];exact lt⟩<;>simp[go_sem,c0,c1,c2,c3,c4,c5,c6,c7,c8,c9,c10,c11,c12,c13,c14,f0,f1,f2,f3,f4,f5,f6,f7,f8,f9,f10,f11,f12,f13]
theorem PgB.set_sit{w:World}{g mb:Nat}{c:Pc.PC}{vs:Fin 6→Value}(h:PgB w g mb c vs)(x:Int):PgB (w.setCell ⟨g,3,none⟩ (.int .i64 x)) g mb { c with sit:=x } vs:=by
 obtain⟨c0,c1,c2,c3,c4,c5,c6,c7,c8,c9,c10,c11,c12,c13,c14,f0,f1,f2,f3,f4,f5,f6,f7,f8,f9,f10,f11,f12,f13,n,lt⟩:=h;refine⟨?_,?_,?_,?_,?_,?_,?_,?_,?_,?_,?_,?_,?_,?_,?_,?_,?_,?_,?_,?_,?_,?_,?_,?_,?_,?_,?_,?_,?_,fun j hj=>by have h1:=n j hj;have h2:j≠3:=(by omega);simp[go_sem,h1,h2],by simp[World.setCell];exact lt⟩<;>simp[go_sem,c0,c1,c2,c3,c4,c5,c6,c7,c8,c9,c10,c11,c12,c13,c14,f0,f1,f2,f3,f4,f5,f6,f7,f8,f9,f10,f11,f12,f13]
theorem PgB.set_lay{w:World}{g mb:Nat}{c:Pc.PC}{vs:Fin 6→Value}(h:PgB w g mb c vs)(x:Int):PgB (w.setCell ⟨g,4,none⟩ (.int .i64 x)) g mb { c with lay:=x } vs:=by
 obtain⟨c0,c1,c2,c3,c4,c5,c6,c7,c8,c9,c10,c11,c12,c13,c14,f0,f1,f2,f3,f4,f5,f6,f7,f8,f9,f10,f11,f12,f13,n,lt⟩:=h;refine⟨?_,?_,?_,?_,?_,?_,?_,?_,?_,?_,?_,?_,?_,?_,?_,?_,?_,?_,?_,?_,?_,?_,?_,?_,?_,?_,?_,?_,?_,fun j hj=>by have h1:=n j hj;have h2:j≠4:=(by omega);simp[go_sem,h1,h2],by simp[World.setCell];exact lt⟩<;>simp[go_sem,c0,c1,c2,c3,c4,c5,c6,c7,c8,c9,c10,c11,c12,c13,c14,f0,f1,f2,f3,f4,f5,f6,f7,f8,f9,f10,f11,f12,f13]
theorem PgB.set_nf{w:World}{g mb:Nat}{c:Pc.PC}{vs:Fin 6→Value}(h:PgB w g mb c vs)(x:Int):PgB (w.setCell ⟨g,5,none⟩ (.int .i64 x)) g mb { c with nf:=x } vs:=by
 obtain⟨c0,c1,c2,c3,c4,c5,c6,c7,c8,c9,c10,c11,c12,c13,c14,f0,f1,f2,f3,f4,f5,f6,f7,f8,f9,f10,f11,f12,f13,n,lt⟩:=h;refine⟨?_,?_,?_,?_,?_,?_,?_,?_,?_,?_,?_,?_,?_,?_,?_,?_,?_,?_,?_,?_,?_,?_,?_,?_,?_,?_,?_,?_,?_,fun j hj=>by have h1:=n j hj;have h2:j≠5:=(by omega);simp[go_sem,h1,h2],by simp[World.setCell];exact lt⟩<;>simp[go_sem,c0,c1,c2,c3,c4,c5,c6,c7,c8,c9,c10,c11,c12,c13,c14,f0,f1,f2,f3,f4,f5,f6,f7,f8,f9,f10,f11,f12,f13]
theorem PgB.set_nt{w:World}{g mb:Nat}{c:Pc.PC}{vs:Fin 6→Value}(h:PgB w g mb c vs)(x:Int):PgB (w.setCell ⟨g,6,none⟩ (.int .i64 x)) g mb { c with nt:=x } vs:=by
 obtain⟨c0,c1,c2,c3,c4,c5,c6,c7,c8,c9,c10,c11,c12,c13,c14,f0,f1,f2,f3,f4,f5,f6,f7,f8,f9,f10,f11,f12,f13,n,lt⟩:=h;refine⟨?_,?_,?_,?_,?_,?_,?_,?_,?_,?_,?_,?_,?_,?_,?_,?_,?_,?_,?_,?_,?_,?_,?_,?_,?_,?_,?_,?_,?_,fun j hj=>by have h1:=n j hj;have h2:j≠6:=(by omega);simp[go_sem,h1,h2],by simp[World.setCell];exact lt⟩<;>simp[go_sem,c0,c1,c2,c3,c4,c5,c6,c7,c8,c9,c10,c11,c12,c13,c14,f0,f1,f2,f3,f4,f5,f6,f7,f8,f9,f10,f11,f12,f13]
theorem PgB.set_gua{w:World}{g mb:Nat}{c:Pc.PC}{vs:Fin 6→Value}(h:PgB w g mb c vs)(x:Int):PgB (w.setCell ⟨g,13,none⟩ (.int .i64 x)) g mb { c with gua:=x } vs:=by
 obtain⟨c0,c1,c2,c3,c4,c5,c6,c7,c8,c9,c10,c11,c12,c13,c14,f0,f1,f2,f3,f4,f5,f6,f7,f8,f9,f10,f11,f12,f13,n,lt⟩:=h;refine⟨?_,?_,?_,?_,?_,?_,?_,?_,?_,?_,?_,?_,?_,?_,?_,?_,?_,?_,?_,?_,?_,?_,?_,?_,?_,?_,?_,?_,?_,fun j hj=>by have h1:=n j hj;have h2:j≠13:=(by omega);simp[go_sem,h1,h2],by simp[World.setCell];exact lt⟩<;>simp[go_sem,c0,c1,c2,c3,c4,c5,c6,c7,c8,c9,c10,c11,c12,c13,c14,f0,f1,f2,f3,f4,f5,f6,f7,f8,f9,f10,f11,f12,f13]
theorem PgB.row0{w:World}{g mb:Nat}{c:Pc.PC}{vs:Fin 6→Value}(h:PgB w g mb c vs)(v:Value):PgB (w.setCell ⟨g,7,none⟩ v) g mb c (qO vs 0 v):=by
 obtain⟨c0,c1,c2,c3,c4,c5,c6,c7,c8,c9,c10,c11,c12,c13,c14,f0,f1,f2,f3,f4,f5,f6,f7,f8,f9,f10,f11,f12,f13,n,lt⟩:=h;refine⟨?_,?_,?_,?_,?_,?_,?_,?_,?_,?_,?_,?_,?_,?_,?_,?_,?_,?_,?_,?_,?_,?_,?_,?_,?_,?_,?_,?_,?_,fun j hj=>by have h1:=n j hj;have h2:j≠7:=(by omega);simp[go_sem,h1,h2],by simp[World.setCell];exact lt⟩<;>simp[go_sem,qO,c0,c1,c2,c3,c4,c5,c6,c7,c8,c9,c10,c11,c12,c13,c14,f0,f1,f2,f3,f4,f5,f6,f7,f8,f9,f10,f11,f12,f13]
theorem PgB.row1{w:World}{g mb:Nat}{c:Pc.PC}{vs:Fin 6→Value}(h:PgB w g mb c vs)(v:Value):PgB (w.setCell ⟨g,8,none⟩ v) g mb c (qO vs 1 v):=by
 obtain⟨c0,c1,c2,c3,c4,c5,c6,c7,c8,c9,c10,c11,c12,c13,c14,f0,f1,f2,f3,f4,f5,f6,f7,f8,f9,f10,f11,f12,f13,n,lt⟩:=h;refine⟨?_,?_,?_,?_,?_,?_,?_,?_,?_,?_,?_,?_,?_,?_,?_,?_,?_,?_,?_,?_,?_,?_,?_,?_,?_,?_,?_,?_,?_,fun j hj=>by have h1:=n j hj;have h2:j≠8:=(by omega);simp[go_sem,h1,h2],by simp[World.setCell];exact lt⟩<;>simp[go_sem,qO,c0,c1,c2,c3,c4,c5,c6,c7,c8,c9,c10,c11,c12,c13,c14,f0,f1,f2,f3,f4,f5,f6,f7,f8,f9,f10,f11,f12,f13]
theorem PgB.row2{w:World}{g mb:Nat}{c:Pc.PC}{vs:Fin 6→Value}(h:PgB w g mb c vs)(v:Value):PgB (w.setCell ⟨g,9,none⟩ v) g mb c (qO vs 2 v):=by
 obtain⟨c0,c1,c2,c3,c4,c5,c6,c7,c8,c9,c10,c11,c12,c13,c14,f0,f1,f2,f3,f4,f5,f6,f7,f8,f9,f10,f11,f12,f13,n,lt⟩:=h;refine⟨?_,?_,?_,?_,?_,?_,?_,?_,?_,?_,?_,?_,?_,?_,?_,?_,?_,?_,?_,?_,?_,?_,?_,?_,?_,?_,?_,?_,?_,fun j hj=>by have h1:=n j hj;have h2:j≠9:=(by omega);simp[go_sem,h1,h2],by simp[World.setCell];exact lt⟩<;>simp[go_sem,qO,c0,c1,c2,c3,c4,c5,c6,c7,c8,c9,c10,c11,c12,c13,c14,f0,f1,f2,f3,f4,f5,f6,f7,f8,f9,f10,f11,f12,f13]
theorem PgB.row3{w:World}{g mb:Nat}{c:Pc.PC}{vs:Fin 6→Value}(h:PgB w g mb c vs)(v:Value):PgB (w.setCell ⟨g,10,none⟩ v) g mb c (qO vs 3 v):=by
 obtain⟨c0,c1,c2,c3,c4,c5,c6,c7,c8,c9,c10,c11,c12,c13,c14,f0,f1,f2,f3,f4,f5,f6,f7,f8,f9,f10,f11,f12,f13,n,lt⟩:=h;refine⟨?_,?_,?_,?_,?_,?_,?_,?_,?_,?_,?_,?_,?_,?_,?_,?_,?_,?_,?_,?_,?_,?_,?_,?_,?_,?_,?_,?_,?_,fun j hj=>by have h1:=n j hj;have h2:j≠10:=(by omega);simp[go_sem,h1,h2],by simp[World.setCell];exact lt⟩<;>simp[go_sem,qO,c0,c1,c2,c3,c4,c5,c6,c7,c8,c9,c10,c11,c12,c13,c14,f0,f1,f2,f3,f4,f5,f6,f7,f8,f9,f10,f11,f12,f13]
theorem PgB.row4{w:World}{g mb:Nat}{c:Pc.PC}{vs:Fin 6→Value}(h:PgB w g mb c vs)(v:Value):PgB (w.setCell ⟨g,11,none⟩ v) g mb c (qO vs 4 v):=by
 obtain⟨c0,c1,c2,c3,c4,c5,c6,c7,c8,c9,c10,c11,c12,c13,c14,f0,f1,f2,f3,f4,f5,f6,f7,f8,f9,f10,f11,f12,f13,n,lt⟩:=h;refine⟨?_,?_,?_,?_,?_,?_,?_,?_,?_,?_,?_,?_,?_,?_,?_,?_,?_,?_,?_,?_,?_,?_,?_,?_,?_,?_,?_,?_,?_,fun j hj=>by have h1:=n j hj;have h2:j≠11:=(by omega);simp[go_sem,h1,h2],by simp[World.setCell];exact lt⟩<;>simp[go_sem,qO,c0,c1,c2,c3,c4,c5,c6,c7,c8,c9,c10,c11,c12,c13,c14,f0,f1,f2,f3,f4,f5,f6,f7,f8,f9,f10,f11,f12,f13]
theorem PgB.row5{w:World}{g mb:Nat}{c:Pc.PC}{vs:Fin 6→Value}(h:PgB w g mb c vs)(v:Value):PgB (w.setCell ⟨g,12,none⟩ v) g mb c (qO vs 5 v):=by
 obtain⟨c0,c1,c2,c3,c4,c5,c6,c7,c8,c9,c10,c11,c12,c13,c14,f0,f1,f2,f3,f4,f5,f6,f7,f8,f9,f10,f11,f12,f13,n,lt⟩:=h;refine⟨?_,?_,?_,?_,?_,?_,?_,?_,?_,?_,?_,?_,?_,?_,?_,?_,?_,?_,?_,?_,?_,?_,?_,?_,?_,?_,?_,?_,?_,fun j hj=>by have h1:=n j hj;have h2:j≠12:=(by omega);simp[go_sem,h1,h2],by simp[World.setCell];exact lt⟩<;>simp[go_sem,qO,c0,c1,c2,c3,c4,c5,c6,c7,c8,c9,c10,c11,c12,c13,c14,f0,f1,f2,f3,f4,f5,f6,f7,f8,f9,f10,f11,f12,f13]
def SgS(w:World)(mb n:Nat)(c:Pc.PC):Prop:=∃Ls,SS w mb Ls∧Ls.length≤n∧∀i s,Pc.fieldsL[i]?=some s→yG Ls s=c.seen i
theorem SgS.lt{w:World}{mb n:Nat}{c:Pc.PC}(h:SgS w mb n c):mb < w.heap.size:=by
 obtain⟨Ls,h1,-⟩:=h;exact SetM.lt h1
theorem SgS.grown{w w2:World}{mb n:Nat}{c:Pc.PC}{row:Option Nat}(h:SgS w mb n c)(hg:w.grownBy w2 row)(hn:some mb≠row):SgS w2 mb n c:=by
 obtain⟨Ls,h1,h2⟩:=h;exact⟨Ls,SetM.kept h1 hg hn,h2⟩
theorem SgS.next{w w2:World}{mb n:Nat}{c:Pc.PC}(h:SgS w mb n c)(hb:Below w.heap.size w w2):SgS w2 mb n c:=by
 obtain⟨Ls,h1,h2⟩:=h;exact⟨Ls,SetM.next h1 hb,h2⟩
theorem SgS.same{w:World}{mb n:Nat}{c d:Pc.PC}(h:SgS w mb n c)(e:d.seen=c.seen):SgS w mb n d:=by
 obtain⟨Ls,h1,h2,h3⟩:=h;exact⟨Ls,h1,h2,by rw[e];exact h3⟩
theorem SgS.more{w:World}{mb n m:Nat}{c:Pc.PC}(h:SgS w mb n c)(e:n≤m):SgS w mb m c:=by
 obtain⟨Ls,h1,h2,h3⟩:=h;exact⟨Ls,h1,by omega,h3⟩
theorem SgS.set{w:World}{mb n cb k:Nat}{u:Value}{c:Pc.PC}(h:SgS w mb n c)(hne:cb≠mb):SgS (w.setCell ⟨cb,k,none⟩ u) mb n c :=
 h.grown (row:=some cb) (zK w cb k u) (fun e=>hne (Option.some.inj e).symm)
structure PgV (w:World) (bs cb mb n:Nat) (c:Pc.PC) (vs:Fin 6→Value) (D:Six):Prop where
 box:PgB w cb mb c vs
 sn:SgS w mb n c
 rows:RwF w (zV cb mb) bs (qX vs D)
 ecs:D.cs.map (fun x=>(x.name,Pz.nr (km x)))=c.cs
 ers:D.rs.map (fun x=>(x.sc,x.name,Pz.nr (k7 x)))=c.rs
 eos:D.os.map (fun x=>(x.sc,Pz.nr (kj x)))=c.os
 ecr:D.cr.map Pz.nr=c.cr
 els:D.ls=c.ls
 efs:D.fs=c.fs
 ok:SixOk D
 ne:cb≠mb
theorem PgV.vs{w:World}{bs cb mb n:Nat}{c:Pc.PC}{vs:Fin 6→Value}{D:Six}(h:PgV w bs cb mb n c vs D):∀i,∃q n z,vs i=.slice q n z:=by
 intro i
 have key:∀j:Fin 6,∃q n z,(qX vs D j).v=.slice q n z:=fun j=>by
  obtain⟨q,z,e⟩:=qS (h.rows.ow j);exact⟨q,_,z,e⟩
 match i with
 | 0=>exact key 0
 | 1=>exact key 1
 | 2=>exact key 2
 | 3=>exact key 3
 | 4=>exact key 4
 | 5=>exact key 5
theorem PgV.next{w w2:World}{bs cb mb n:Nat}{c:Pc.PC}{vs:Fin 6→Value}{D:Six}(h:PgV w bs cb mb n c vs D)(hb:Below w.heap.size w w2):PgV w2 bs cb mb n c vs D :=
 ⟨h.box.next hb,h.sn.next hb,h.rows.next hb,h.ecs,h.ers,h.eos,h.ecr,h.els,h.efs,h.ok,h.ne⟩
theorem PgV.field{w w2:World}{bs cb mb n:Nat}{c d:Pc.PC}{vs:Fin 6→Value}{D:Six}(h:PgV w bs cb mb n c vs D)(h1:PgB w2 cb mb d vs)(h2:SgS w2 mb n d)(hk:KpX (zV cb mb) w w2)
 (e1:d.cs=c.cs) (e2:d.rs=c.rs) (e3:d.os=c.os) (e4:d.cr=c.cr) (e5:d.ls=c.ls) (e6:d.fs=c.fs):PgV w2 bs cb mb n d vs D :=
 ⟨h1,h2,h.rows.kpx hk,h.ecs.trans e1.symm,h.ers.trans e2.symm,h.eos.trans e3.symm,h.ecr.trans e4.symm,h.els.trans e5.symm,h.efs.trans e6.symm,h.ok,h.ne⟩
theorem PgV.av{w:World}{bs cb mb n:Nat}{c:Pc.PC}{vs:Fin 6→Value}{D:Six}(h:PgV w bs cb mb n c vs D){T:Fo}{B:Nat}(hT:FoAv (fun g=>w.heap.size≤g) T B):FoAv (fun g=>¬zV cb mb g∧∀j,(qX vs D j).v.ownBlock≠some g) T B :=
 hT.mono fun g q=>⟨fun x=>by
  have h1:=h.box.lt;have h2:=h.sn.lt;rcases x with rfl|rfl<;>omega,fun j e=>by have:=((h.rows.ow j).lt g e).2;omega⟩
theorem PgB.like{w:World}{g mb:Nat}{c d:Pc.PC}{vs:Fin 6→Value}(h:PgB w g mb c vs)(e0:d.rep=c.rep)(e1:d.rel=c.rel)(e2:d.con=c.con)(e3:d.sit=c.sit)(e4:d.lay=c.lay)(e5:d.nf=c.nf)(e6:d.nt=c.nt)(e7:d.gua=c.gua):PgB w g mb d vs :=
 ⟨by rw[e0];exact h.c0,by rw[e1];exact h.c1,by rw[e2];exact h.c2,by rw[e3];exact h.c3,by rw[e4];exact h.c4,by rw[e5];exact h.c5,by rw[e6];exact h.c6,h.c7,h.c8,h.c9,h.c10,h.c11,h.c12,by rw[e7];exact h.c13,h.c14,h.f0,h.f1,h.f2,h.f3,h.f4,h.f5,h.f6,h.f7,h.f8,h.f9,h.f10,h.f11,h.f12,h.f13,h.n,h.lt⟩
theorem PgV.app0{w w2:World}{bs cb mb n:Nat}{c:Pc.PC}{vs:Fin 6→Value}{D:Six}{v':Value}(h:PgV w bs cb mb n c vs D)(x:Cn)(hx:ExAt w x.b x.o x.a x.k)(ha:FoAv (fun g=>¬zV cb mb g∧∀j,(qX vs D j).v.ownBlock≠some g) x.k x.b)(hok:yS x.a x.k∧x.name.size≤9223372036854775807)
 (ho:w2.ownsRow bs 85 5 v' (D.cs.length+1) (D.cs.flatMap zf++zf x)) (hg:w.grownBy w2 (vs 0).ownBlock) (hob:v'.ownBlock=(vs 0).ownBlock∨v'.ownBlock=some w.heap.size) :
 PgV (w2.setCell ⟨cb,7,none⟩ v') bs cb mb n { c with cs:=c.cs++[(x.name,Pz.nr (km x))] } (qO vs 0 v') { D with cs:=D.cs++[x] }:=by
 have own:=h.rows.ow 0;have nc:some cb≠(vs 0).ownBlock:=fun e=>by have:=(own.lt cb e.symm).1;have:=h.rows.lt cb (Or.inl rfl);omega
 have ns:some mb≠(vs 0).ownBlock:=fun e=>by have:=(own.lt mb e.symm).1;have:=h.rows.lt mb (Or.inr rfl);omega
 have R:=(h.rows.app (ts:=[km x]) 0 (fun y hy=>by rw[List.mem_singleton.1 hy];exact⟨hx,ha⟩) ho hg hob).set (t:=cb) (Or.inl rfl) 7 v'
 have R2:RwF (w2.setCell ⟨cb,7,none⟩ v') (zV cb mb) bs (qX (qO vs 0 v') { D with cs:=D.cs++[x] }):=by
  rw[← Jh];exact R
 refine⟨((h.box.grown hg nc).row0 v').like rfl rfl rfl rfl rfl rfl rfl rfl,((h.sn.grown hg ns).set h.ne).same rfl,R2,?_,?_,?_,?_,?_,?_,?_,h.ne⟩
 ·show List.map _ (D.cs++[x])=c.cs++_
  rw[List.map_append,h.ecs];rfl
 ·exact h.ers
 ·exact h.eos
 ·exact h.ecr
 ·exact h.els
 ·exact h.efs
 ·refine ⟨fun y hy=>?_,h.ok.rs,h.ok.os,h.ok.cr,h.ok.ls,h.ok.fs⟩;rcases List.mem_append.1 hy with q|q
  ·exact h.ok.cs y q
  ·rw[List.mem_singleton.1 q];exact hok
theorem PgV.app1{w w2:World}{bs cb mb n:Nat}{c:Pc.PC}{vs:Fin 6→Value}{D:Six}{v':Value}(h:PgV w bs cb mb n c vs D)(x:Ru)(hx:ExAt w x.b x.o x.a x.k)(ha:FoAv (fun g=>¬zV cb mb g∧∀j,(qX vs D j).v.ownBlock≠some g) x.k x.b)(hok:yS x.a x.k∧Bd x.sc∧x.name.size≤9223372036854775807)
 (ho:w2.ownsRow bs 87 6 v' (D.rs.length+1) (D.rs.flatMap zh++zh x)) (hg:w.grownBy w2 (vs 1).ownBlock) (hob:v'.ownBlock=(vs 1).ownBlock∨v'.ownBlock=some w.heap.size) :
 PgV (w2.setCell ⟨cb,8,none⟩ v') bs cb mb n { c with rs:=c.rs++[(x.sc,x.name,Pz.nr (k7 x))] } (qO vs 1 v') { D with rs:=D.rs++[x] }:=by
 have own:=h.rows.ow 1;have nc:some cb≠(vs 1).ownBlock:=fun e=>by have:=(own.lt cb e.symm).1;have:=h.rows.lt cb (Or.inl rfl);omega
 have ns:some mb≠(vs 1).ownBlock:=fun e=>by have:=(own.lt mb e.symm).1;have:=h.rows.lt mb (Or.inr rfl);omega
 have R:=(h.rows.app (ts:=[k7 x]) 1 (fun y hy=>by rw[List.mem_singleton.1 hy];exact⟨hx,ha⟩) ho hg hob).set (t:=cb) (Or.inl rfl) 8 v'
 have R2:RwF (w2.setCell ⟨cb,8,none⟩ v') (zV cb mb) bs (qX (qO vs 1 v') { D with rs:=D.rs++[x] }):=by
  rw[← Jg];exact R
 refine⟨((h.box.grown hg nc).row1 v').like rfl rfl rfl rfl rfl rfl rfl rfl,((h.sn.grown hg ns).set h.ne).same rfl,R2,?_,?_,?_,?_,?_,?_,?_,h.ne⟩
 ·exact h.ecs
 ·show List.map _ (D.rs++[x])=c.rs++_
  rw[List.map_append,h.ers];rfl
 ·exact h.eos
 ·exact h.ecr
 ·exact h.els
 ·exact h.efs
 ·refine ⟨h.ok.cs,fun y hy=>?_,h.ok.os,h.ok.cr,h.ok.ls,h.ok.fs⟩;rcases List.mem_append.1 hy with q|q
  ·exact h.ok.rs y q
  ·rw[List.mem_singleton.1 q];exact hok
theorem PgV.app2{w w2:World}{bs cb mb n:Nat}{c:Pc.PC}{vs:Fin 6→Value}{D:Six}{v':Value}(h:PgV w bs cb mb n c vs D)(x:Co)(hx:ExAt w x.b x.o x.a x.k)(ha:FoAv (fun g=>¬zV cb mb g∧∀j,(qX vs D j).v.ownBlock≠some g) x.k x.b)(hok:yS x.a x.k∧Bd x.sc)
 (ho:w2.ownsRow bs 89 5 v' (D.os.length+1) (D.os.flatMap zj++zj x)) (hg:w.grownBy w2 (vs 2).ownBlock) (hob:v'.ownBlock=(vs 2).ownBlock∨v'.ownBlock=some w.heap.size) :
 PgV (w2.setCell ⟨cb,9,none⟩ v') bs cb mb n { c with os:=c.os++[(x.sc,Pz.nr (kj x))] } (qO vs 2 v') { D with os:=D.os++[x] }:=by
 have own:=h.rows.ow 2;have nc:some cb≠(vs 2).ownBlock:=fun e=>by have:=(own.lt cb e.symm).1;have:=h.rows.lt cb (Or.inl rfl);omega
 have ns:some mb≠(vs 2).ownBlock:=fun e=>by have:=(own.lt mb e.symm).1;have:=h.rows.lt mb (Or.inr rfl);omega
 have R:=(h.rows.app (ts:=[kj x]) 2 (fun y hy=>by rw[List.mem_singleton.1 hy];exact⟨hx,ha⟩) ho hg hob).set (t:=cb) (Or.inl rfl) 9 v'
 have R2:RwF (w2.setCell ⟨cb,9,none⟩ v') (zV cb mb) bs (qX (qO vs 2 v') { D with os:=D.os++[x] }):=by
  rw[← Jf];exact R
 refine⟨((h.box.grown hg nc).row2 v').like rfl rfl rfl rfl rfl rfl rfl rfl,((h.sn.grown hg ns).set h.ne).same rfl,R2,?_,?_,?_,?_,?_,?_,?_,h.ne⟩
 ·exact h.ecs
 ·exact h.ers
 ·show List.map _ (D.os++[x])=c.os++_
  rw[List.map_append,h.eos];rfl
 ·exact h.ecr
 ·exact h.els
 ·exact h.efs
 ·refine ⟨h.ok.cs,h.ok.rs,fun y hy=>?_,h.ok.cr,h.ok.ls,h.ok.fs⟩;rcases List.mem_append.1 hy with q|q
  ·exact h.ok.os y q
  ·rw[List.mem_singleton.1 q];exact hok
theorem PgV.app3{w w2:World}{bs cb mb n:Nat}{c:Pc.PC}{vs:Fin 6→Value}{D:Six}{v':Value}(h:PgV w bs cb mb n c vs D)(x:Ch)(hx:ExAt w x.b x.o x.a x.k)(ha:FoAv (fun g=>¬zV cb mb g∧∀j,(qX vs D j).v.ownBlock≠some g) x.k x.b)(hok:yS x.a x.k)
 (ho:w2.ownsRow bs 24 4 v' (D.cr.length+1) (D.cr.flatMap jI++jI x)) (hg:w.grownBy w2 (vs 3).ownBlock) (hob:v'.ownBlock=(vs 3).ownBlock∨v'.ownBlock=some w.heap.size) :
 PgV (w2.setCell ⟨cb,10,none⟩ v') bs cb mb n { c with cr:=c.cr++[(Pz.nr x)] } (qO vs 3 v') { D with cr:=D.cr++[x] }:=by
 have own:=h.rows.ow 3;have nc:some cb≠(vs 3).ownBlock:=fun e=>by have:=(own.lt cb e.symm).1;have:=h.rows.lt cb (Or.inl rfl);omega
 have ns:some mb≠(vs 3).ownBlock:=fun e=>by have:=(own.lt mb e.symm).1;have:=h.rows.lt mb (Or.inr rfl);omega
 have R:=(h.rows.app (ts:=[x]) 3 (fun y hy=>by rw[List.mem_singleton.1 hy];exact⟨hx,ha⟩) ho hg hob).set (t:=cb) (Or.inl rfl) 10 v'
 have R2:RwF (w2.setCell ⟨cb,10,none⟩ v') (zV cb mb) bs (qX (qO vs 3 v') { D with cr:=D.cr++[x] }):=by
  rw[← Je];exact R
 refine⟨((h.box.grown hg nc).row3 v').like rfl rfl rfl rfl rfl rfl rfl rfl,((h.sn.grown hg ns).set h.ne).same rfl,R2,?_,?_,?_,?_,?_,?_,?_,h.ne⟩
 ·exact h.ecs
 ·exact h.ers
 ·exact h.eos
 ·show List.map _ (D.cr++[x])=c.cr++_
  rw[List.map_append,h.ecr];rfl
 ·exact h.els
 ·exact h.efs
 ·refine ⟨h.ok.cs,h.ok.rs,h.ok.os,fun y hy=>?_,h.ok.ls,h.ok.fs⟩;rcases List.mem_append.1 hy with q|q
  ·exact h.ok.cr y q
  ·rw[List.mem_singleton.1 q];exact hok
theorem PgV.app4{w w2:World}{bs cb mb n:Nat}{c:Pc.PC}{vs:Fin 6→Value}{D:Six}{v':Value}(h:PgV w bs cb mb n c vs D)(x:Li)(hok:Bd x.most∧Bd x.days∧x.name.size≤9223372036854775807∧x.meas.size≤9223372036854775807)
 (ho:w2.ownsRow bs 91 4 v' (D.ls.length+1) (D.ls.flatMap zU++zU x)) (hg:w.grownBy w2 (vs 4).ownBlock) (hob:v'.ownBlock=(vs 4).ownBlock∨v'.ownBlock=some w.heap.size) :
 PgV (w2.setCell ⟨cb,11,none⟩ v') bs cb mb n { c with ls:=c.ls++[x] } (qO vs 4 v') { D with ls:=D.ls++[x] }:=by
 have own:=h.rows.ow 4;have nc:some cb≠(vs 4).ownBlock:=fun e=>by have:=(own.lt cb e.symm).1;have:=h.rows.lt cb (Or.inl rfl);omega
 have ns:some mb≠(vs 4).ownBlock:=fun e=>by have:=(own.lt mb e.symm).1;have:=h.rows.lt mb (Or.inr rfl);omega
 have R:=(h.rows.app (ts:=[]) 4 (fun y hy=>by cases hy) ho hg hob).set (t:=cb) (Or.inl rfl) 11 v'
 have R2:RwF (w2.setCell ⟨cb,11,none⟩ v') (zV cb mb) bs (qX (qO vs 4 v') { D with ls:=D.ls++[x] }):=by
  rw[← Jd];exact R
 refine⟨((h.box.grown hg nc).row4 v').like rfl rfl rfl rfl rfl rfl rfl rfl,((h.sn.grown hg ns).set h.ne).same rfl,R2,?_,?_,?_,?_,?_,?_,?_,h.ne⟩
 ·exact h.ecs
 ·exact h.ers
 ·exact h.eos
 ·exact h.ecr
 ·show D.ls++[x]=c.ls++_
  rw[h.els]
 ·exact h.efs
 ·refine ⟨h.ok.cs,h.ok.rs,h.ok.os,h.ok.cr,fun y hy=>?_,h.ok.fs⟩;rcases List.mem_append.1 hy with q|q
  ·exact h.ok.ls y q
  ·rw[List.mem_singleton.1 q];exact hok
theorem PgV.app5{w w2:World}{bs cb mb n:Nat}{c:Pc.PC}{vs:Fin 6→Value}{D:Six}{v':Value}(h:PgV w bs cb mb n c vs D)(x:Of)(hok:Bd x.count∧Bd x.days∧x.name.size≤9223372036854775807)
 (ho:w2.ownsRow bs 93 3 v' (D.fs.length+1) (D.fs.flatMap zT++zT x)) (hg:w.grownBy w2 (vs 5).ownBlock) (hob:v'.ownBlock=(vs 5).ownBlock∨v'.ownBlock=some w.heap.size) :
 PgV (w2.setCell ⟨cb,12,none⟩ v') bs cb mb n { c with fs:=c.fs++[x] } (qO vs 5 v') { D with fs:=D.fs++[x] }:=by
 have own:=h.rows.ow 5;have nc:some cb≠(vs 5).ownBlock:=fun e=>by have:=(own.lt cb e.symm).1;have:=h.rows.lt cb (Or.inl rfl);omega
 have ns:some mb≠(vs 5).ownBlock:=fun e=>by have:=(own.lt mb e.symm).1;have:=h.rows.lt mb (Or.inr rfl);omega
 have R:=(h.rows.app (ts:=[]) 5 (fun y hy=>by cases hy) ho hg hob).set (t:=cb) (Or.inl rfl) 12 v'
 have R2:RwF (w2.setCell ⟨cb,12,none⟩ v') (zV cb mb) bs (qX (qO vs 5 v') { D with fs:=D.fs++[x] }):=by
  rw[← Jc];exact R
 refine⟨((h.box.grown hg nc).row5 v').like rfl rfl rfl rfl rfl rfl rfl rfl,((h.sn.grown hg ns).set h.ne).same rfl,R2,?_,?_,?_,?_,?_,?_,?_,h.ne⟩
 ·exact h.ecs
 ·exact h.ers
 ·exact h.eos
 ·exact h.ecr
 ·exact h.els
 ·show D.fs++[x]=c.fs++_
  rw[h.efs]
 ·refine ⟨h.ok.cs,h.ok.rs,h.ok.os,h.ok.cr,h.ok.ls,fun y hy=>?_⟩;rcases List.mem_append.1 hy with q|q
  ·exact h.ok.fs y q
  ·rw[List.mem_singleton.1 q];exact hok
theorem vy(L:List Tk.T4)(n:Nat):jQ (L.drop n)=(jQ L).drop (n * 4):=by
 induction n generalizing L with
 | zero=>simp
 | succ n ih =>
   cases L with
   | nil=>simp[jQ]
   | cons t l =>
     have e:jQ (t :: l)=[.int .i64 t.t.kind,.string t.t.text,.int .i64 t.t.num,.int .i64 t.at']++jQ l:=(by simp[jQ]);rw[List.drop_succ_cons,ih,e,show(n+1) * 4=4+n * 4 by omega,← List.drop_drop];rfl
theorem vw{w:World}{L:List Tk.T4}{g O cap:Nat}(h:TkAt w L (.slice (some ⟨g,O,none⟩) L.length cap))(n:Nat)(hl:L.length≤400):TkB w (L.drop n) (some ⟨g,O+n * 4,none⟩) w.heap.size:=by
 refine⟨by rw[List.length_drop];omega,fun q=>?_⟩;obtain⟨p,cap',e,h1,h2,h3⟩:=h;obtain⟨g',O',e',hc⟩:=h3 (by rintro rfl;simp at q);injection e with e1 e2 e3
 have e4:=e1.trans e';injection e4 with e4
 injection e4 with e5 e6 e7
 subst e5;subst e6
 have cell:∀j u,(jQ (L.drop n))[j]?=some u→w.cell? ⟨g,O+n * 4+j,none⟩=some u:=fun j u hu=>by
  rw[vy,List.getElem?_drop] at hu;rw[Nat.add_assoc];exact hc _ _ hu
 refine⟨g,O+n * 4,rfl,?_,cell⟩;cases hd:L.drop n with
 | nil=>exact absurd hd q
 | cons t l =>
   have:=cell 0 (.int .i64 t.t.kind) (by rw[hd];simp[jQ]);exact block_lt_of_cell this
theorem J8{L:List Tk.T4}{w w':World}{e:Ending}(h:Uu L w e w'):∃c:Ch,e=.returned (.tuple #[.agg #[.int .i64 c.a.op,.int .i64 c.a.num,.string c.a.name,.slice c.a.ptr (len c.k) c.a.cap],.int .i64 (yM L)])∧Below w.heap.size w w'∧(yM L < 0→Pz.nr c=Pc.tree L∧ExAt w' c.b c.o c.a c.k∧FoAv (fun g=>w.heap.size≤g) c.k c.b):=by
 obtain⟨c,h1,h2,h3⟩:=h;refine⟨c,h1,h3,fun q=>?_⟩;unfold yM at q;unfold Pc.tree;cases hp:Pz.pv L .ex 0 with
 | mk o j =>
   rw[hp] at q;cases o with
   | none=>dsimp only at q;omega
   | some x =>
     obtain⟨q1,q2,q3⟩:=h2 x j hp;exact⟨q1,q2,JG q3⟩
def K5(w:World)(bs cb sb:Nat)(r:Pc.PC× Int)(e:Ending)(w':World):Prop :=
 e=.returned (.int .i64 r.2)∧(r.2=0→∃vs D,PcV w' bs cb sb r.1 vs D)∧(∀n,n≤cb→n≤sb→n≤bs→n≤w.heap.size→Below n w w')
theorem qP{n m:Nat}{w w':World}(h:Below m w w')(hn:n≤m):Below n w w':=⟨h.os,h.tape,h.output,h.size,fun k hk=>h.block k (by omega)⟩
theorem qY{w w':World}{bs cb sb:Nat}{c:Pc.PC}{R:Pc.PC× Int}{x:Int}(hR:R=(c,x))(hx:x≠0)(hb:Below w.heap.size w w'):K5 w bs cb sb R (.returned (.int .i64 x)) w' :=
 ⟨by rw[hR],fun q=>absurd (by rw[hR] at q;exact q) hx,fun n _ _ _ hn=>qP hb hn⟩
theorem kV{w w':World}{bs cb sb:Nat}{d:Pc.PC}{vs:Fin 6→Value}{D:Six}{R:Pc.PC× Int}(hR:R=(d,0))(hp:PcV w' bs cb sb d vs D)(hb:∀n,n≤cb→n≤sb→n≤bs→n≤w.heap.size→Below n w w'):K5 w bs cb sb R (.returned (.int .i64 0)) w' :=
 ⟨by rw[hR],fun _=>⟨vs,D,by rw[hR];exact hp⟩,hb⟩
theorem Qs(bs cb sb:Nat)(c:Pc.PC)(L:List Tk.T4)(v:Value)(w:World)(ht:TkAt w L v)(hk:Pc.kd L 0 1=false) :
 Calls Tryz.prog 40 #[.pointer (some ⟨cb,0,none⟩),.pointer (some ⟨sb,0,none⟩),v] w (K5 w bs cb sb (Pc.declT c L)):=by
 have RQ:Hid (Pc.declT c L=(c,1)):=by unfold Hid Pc.declT;rw[if_pos hk]
 generalize Pc.declT c L=R at *;have K1:=hid (zA L v 0 1 w ht);rw[hk] at K1;obtain⟨p,cap,hv,h1,h2,h3⟩:=ht;subst hv;clear h1 h2 h3 hk;go_enter Tryz.func40,Tryz.ntmps40;go_wp2_with (go_at_call 94;refine K1.out.mono ?_;rintro e w' ⟨rfl,rfl⟩);go_ret;exact qY RQ.out (by decide) (Below.refl _ _)
end Go.Proofs.YtcejjdmnlejbaaaGreatDoor
