import Derived.Test.YtcejjdmnlejbaaaGreatDoorBRzR
import Derived.Deep.LoopGhost
import Derived.Test.YtcejjdmnlejbaaaGreatDoorBPzT
import Derived.Test.YtcejjdmnlejbaaaGreatDoorBPzU
import Derived.Deep.RegionLaw
import Derived.Deep.AppendLies
import Derived.Deep.CutBlock
import Derived.Deep.DeepCutAuto
import Derived.Test.YtcejjdmnlejbaaaGreatDoorBPzX
import Derived.Test.YtcejjdmnlejbaaaGreatDoorBTkS
import Derived.Test.YtcejjdmnlejbaaaGreatDoorBSam
import Derived.Test.YtcejjdmnlejbaaaGreatDoorBGa
import Derived.Lib.Strings
import Derived.Test.YtcejjdmnlejbaaaGreatDoorBGb
namespace Go.Proofs.YtcejjdmnlejbaaaGreatDoor
set_option linter.unusedVariables false
set_option linter.unusedSimpArgs false
open Go.ChangeShapes Go.WideShapes Go.ChangeAt Go.RowKit
open Go.Deep (BT)
namespace Pz
end Pz
def awG:ByteArray:=⟨#[49,32,43,32,50,32,42,32,108,101,103,115]⟩
theorem awg_px:Pz.pxT awG=(Pz.tn 8 [Pz.lf 1 1 ⟨#[]⟩,Pz.tn 10 [Pz.lf 1 2 ⟨#[]⟩,Pz.lf 6 0 ⟨#[108,101,103,115]⟩]],0,0):=by kernel_rfl
theorem aw_shape {c x y z:Ch} (h:Pz.nr c=Pz.tn 8 [x,Pz.tn 10 [y,z]]):c.a.op=8∧∃ b1 o1 a1 k1 b2 o2 a2 k2,c.k=.node b1 o1 a1 k1 (.node b2 o2 a2 k2 .nil)∧a2.op=10:=by
 obtain ⟨b,o,a,k⟩:=c
 unfold Pz.nr Pz.tn at h
 injection h with n1 n2 n3 n4
 injection n3 with m1 m2 m3
 refine ⟨m1,?_⟩
 cases k with
 | nil=>simp [Pz.nrm,rowF] at n4
 | node b1 o1 a1 k1 r =>
   simp only [Pz.nrm,rowF] at n4
   injection n4 with q1 q2 q3 q4 q5
   cases r with
   | nil=>simp [Pz.nrm] at q5
   | node b2 o2 a2 k2 r2 =>
     simp only [Pz.nrm] at q5
     injection q5 with p1 p2 p3 p4 p5
     cases r2 with
     | nil =>
       injection p3 with t1 t2 t3
       exact ⟨b1,o1,a1,k1,b2,o2,a2,k2,rfl,t1⟩
     | node=>simp [Pz.nrm] at p5
set_option maxHeartbeats 1000000 in
set_option maxRecDepth 100000 in
theorem gawake_any (w:World):Calls Tryz.prog 9 #[] w fun e w'=>e=.returned (.bool true)∧Below w.heap.size w w':=by
 go_enter Tryz.func9,Tryz.ntmps9
 go_wp2_with fail
 refine (pparse_any awG w (by decide)).mono ?_
 rintro e w1 ⟨c,rfl,hc,hx,hb⟩
 rw [awg_px] at hc ⊢
 dsimp only at hc ⊢
 obtain ⟨h8,b1,o1,a1,k1,b2,o2,a2,k2,hk,h10⟩:=aw_shape hc
 have B:=Lib.hid hb
 obtain ⟨b,o,a,k⟩:=c
 dsimp only at h8 hk hx ⊢
 subst hk
 obtain ⟨op,num,name,ptr,cap⟩:=a
 dsimp only at h8 hx ⊢
 subst h8
 obtain ⟨hp,hf⟩:=hx
 obtain rfl:ptr=some ⟨b,o,none⟩:=hp (by simp)
 obtain ⟨-,-,-,⟨d0,d1,d2,d3⟩,-⟩:=hf
 rw [h10] at d0
 have hl:len (BT.node b1 o1 a1 k1 (BT.node b2 o2 a2 k2 .nil))=2:=rfl
 rw [hl]
 have hbl:=block_lt_of_cell d0
 simp at hbl
 clear hc hb hp d1 d2 d3 h10 hl
 go_wp2
 go_ret
 exact ⟨rfl,by first|exact B.out.alloc B.out.size _|exact B.out⟩
end Go.Proofs.YtcejjdmnlejbaaaGreatDoor
namespace Go.Proofs.YtcejjdmnlejbaaaGreatDoor
section
set_option linter.unusedVariables false
set_option linter.unusedSimpArgs false
open Go Go.RowKit
namespace Att
def duty1:List (List UInt8):=[[108,101,103,115],[104,101,97,100,115],[116,121,112,101,115]]
def duty2:List (List UInt8):=[[98,108,111,99,107],[115,112,97,110],[110,105,103,104,116],[108,111,110,103,101,115,116],[115,104,111,114,116,101,115,116],[115,104,105,102,116]]
def duty3:List (List UInt8):=[[115,116,97,114,116],[101,110,100]]
def pair1:List (List UInt8):=[[100,117,116,105,101,115],[108,101,103,115],[104,101,97,100,115],[100,97,121,115]]
def pair2:List (List UInt8):=[[98,108,111,99,107],[115,112,97,110],[99,114,101,100,105,116]]
def rest:List UInt8:=[114,101,115,116]
def nights:List UInt8:=[110,105,103,104,116,115]
def home:List UInt8:=[104,111,109,101]
def before:List UInt8:=[98,101,102,111,114,101,46]
def after:List UInt8:=[97,102,116,101,114,46]
def isIn (l:List UInt8) (ws:List (List UInt8)):Bool:=ws.any fun x=>l==x
def dutyT (l:List UInt8):Int:=if isIn l duty1=true then 1 else if isIn l duty2=true then 2 else if isIn l duty3=true then 3 else 0
def pairT (l:List UInt8):Int:=if isIn l pair1=true then 1 else if isIn l pair2=true then 2 else 0
def restT (l:List UInt8):Int:=if (l==rest)=true then 2 else if (l==nights)=true then 1 else if (l==home)=true then 4 else
 if Lib.hasPrefix l before=true then dutyT (l.drop 7) else if Lib.hasPrefix l after=true then dutyT (l.drop 6) else 0
def atT (sc:Int) (l:List UInt8):Int:=if sc=1 then dutyT l else if sc=2 then restT l else if sc=3 then pairT l else 0
def dutyL:List (List UInt8):=duty1++duty2++duty3
def restL:List (List UInt8):=[rest,nights,home]++dutyL.map (before++·)++dutyL.map (after++·)
def pairL:List (List UInt8):=pair1++pair2
def listL (sc:Int):List (List UInt8):=if sc=1 then dutyL else if sc=2 then restL else if sc=3 then pairL else []
def num1:List (List UInt8):=[[108,101,103,115],[104,101,97,100,115],[116,121,112,101,115],[110,105,103,104,116,115],[100,117,116,105,101,115],[100,97,121,115]]
def kindR (l:List UInt8):Int:=if isIn l num1=true then 1 else if isIn l duty3=true then 3 else if (l==home)=true then 4 else 2
def refT (L:List (List UInt8)) (l:List UInt8):Int:=if isIn l L=true then kindR l else 0
theorem isIn_iff (l:List UInt8) (ws:List (List UInt8)):isIn l ws=true↔l ∈ ws:=by
 unfold isIn;rw [List.any_eq_true]
 exact ⟨fun ⟨x,hx,he⟩=>by rw [eq_of_beq he];exact hx,fun h=>⟨l,h,by simp⟩⟩
theorem ref_duty (l:List UInt8):refT dutyL l=dutyT l:=by
 unfold refT
 by_cases h:l ∈ dutyL
 · rw [if_pos ((isIn_iff _ _).2 h)]
   revert l
   decide
 · rw [if_neg (fun q=>h ((isIn_iff _ _).1 q))]
   unfold dutyT
   unfold dutyL at h
   simp only [List.mem_append,not_or] at h
   rw [if_neg (fun q=>h.1.1 ((isIn_iff _ _).1 q)),if_neg (fun q=>h.1.2 ((isIn_iff _ _).1 q)),if_neg (fun q=>h.2 ((isIn_iff _ _).1 q))]
theorem ref_pair (l:List UInt8):refT pairL l=pairT l:=by
 unfold refT
 by_cases h:l ∈ pairL
 · rw [if_pos ((isIn_iff _ _).2 h)]
   revert l
   decide
 · rw [if_neg (fun q=>h ((isIn_iff _ _).1 q))]
   unfold pairT
   unfold pairL at h
   simp only [List.mem_append,not_or] at h
   rw [if_neg (fun q=>h.1 ((isIn_iff _ _).1 q)),if_neg (fun q=>h.2 ((isIn_iff _ _).1 q))]
theorem pre_iff (l p:List UInt8):Lib.hasPrefix l p=true↔l.take p.length=p:=by
 unfold Lib.hasPrefix
 rw [List.isPrefixOf_iff_prefix,List.prefix_iff_eq_take]
 exact eq_comm
theorem duty_nil:dutyT []=0:=by decide
theorem ref_rest (l:List UInt8) (h1:¬ (7 < l.length∧l.take 7=before)) (h2:¬ (6 < l.length∧l.take 6=after)):refT restL l=restT l:=by
 have n1:∀ d,dutyT d≠0→l≠before++d:=by
  rintro d hd rfl
  apply h1
  cases d with
  | nil=>exact absurd duty_nil hd
  | cons c d=>exact ⟨by simp [before],by simp [before]⟩
 have n2:∀ d,dutyT d≠0→l≠after++d:=by
  rintro d hd rfl
  apply h2
  cases d with
  | nil=>exact absurd duty_nil hd
  | cons c d=>exact ⟨by simp [after],by simp [after]⟩
 have hall:∀ d ∈ dutyL,dutyT d≠0:=by decide
 have z1:Lib.hasPrefix l before=true→dutyT (l.drop 7)=0:=by
  intro q
  rw [pre_iff] at q
  have hl:l=before++l.drop 7:=by
   conv=>lhs;rw [← List.take_append_drop 7 l]
   rw [show l.take 7=before from q]
  by_cases z:dutyT (l.drop 7)=0
  · exact z
  · exact absurd hl (n1 _ z)
 have z2:Lib.hasPrefix l after=true→dutyT (l.drop 6)=0:=by
  intro q
  rw [pre_iff] at q
  have hl:l=after++l.drop 6:=by
   conv=>lhs;rw [← List.take_append_drop 6 l]
   rw [show l.take 6=after from q]
  by_cases z:dutyT (l.drop 6)=0
  · exact z
  · exact absurd hl (n2 _ z)
 unfold refT restT
 by_cases r1:l=rest
 · subst r1;decide
 · by_cases r2:l=nights
   · subst r2;decide
   · by_cases r3:l=home
     · subst r3;decide
     · have hn:isIn l restL=false:=by
        rw [Bool.eq_false_iff]
        intro q
        rw [isIn_iff] at q
        unfold restL at q
        simp only [List.mem_append,List.mem_cons,List.not_mem_nil,or_false,List.mem_map] at q
        rcases q with (q|⟨d,hd,q⟩)|⟨d,hd,q⟩
        · rcases q with q|q|q
          · exact r1 q
          · exact r2 q
          · exact r3 q
        · exact n1 d (hall d hd) q.symm
        · exact n2 d (hall d hd) q.symm
       have b1:(l==rest)=false:=by simp [r1]
       have b2:(l==nights)=false:=by simp [r2]
       have b3:(l==home)=false:=by simp [r3]
       rw [hn,b1,b2,b3]
       simp only [Bool.false_eq_true,if_false]
       split
       · rename_i q;exact (z1 q).symm
       · split
         · rename_i q;exact (z2 q).symm
         · rfl
theorem rest_before (l:List UInt8) (h:l.take 7=before):restT l=dutyT (l.drop 7):=by
 have hp:Lib.hasPrefix l before=true:=(pre_iff _ _).2 h
 have b1:(l==rest)=false:=by rw [beq_eq_false_iff_ne];rintro rfl;revert h;decide
 have b2:(l==nights)=false:=by rw [beq_eq_false_iff_ne];rintro rfl;revert h;decide
 have b3:(l==home)=false:=by rw [beq_eq_false_iff_ne];rintro rfl;revert h;decide
 unfold restT;rw [b1,b2,b3,hp];simp
theorem rest_after (l:List UInt8) (h:l.take 6=after):restT l=dutyT (l.drop 6):=by
 have hp:Lib.hasPrefix l after=true:=(pre_iff _ _).2 h
 have hq:Lib.hasPrefix l before=false:=by
  rw [Bool.eq_false_iff];intro q;rw [pre_iff] at q
  have e1:(l.take 6).take 1=after.take 1:=by rw [h]
  have e2:(l.take before.length).take 1=before.take 1:=by rw [q]
  rw [List.take_take] at e1 e2
  have:after.take 1=before.take 1:=e1.symm.trans e2
  revert this;decide
 have b1:(l==rest)=false:=by rw [beq_eq_false_iff_ne];rintro rfl;revert h;decide
 have b2:(l==nights)=false:=by rw [beq_eq_false_iff_ne];rintro rfl;revert h;decide
 have b3:(l==home)=false:=by rw [beq_eq_false_iff_ne];rintro rfl;revert h;decide
 unfold restT;rw [b1,b2,b3,hp,hq];simp
end Att
def pairS (s:ByteArray):Int:=Att.pairT s.data.toList
def atS (sc:Int) (s:ByteArray):Int:=Att.atT sc s.data.toList
def atE (sc:Int) (s:ByteArray):Int:=if atS sc s=0 then 6 else 0
end
section
set_option linter.unusedVariables false
set_option linter.unusedSimpArgs false
open Go.ChangeShapes Go.WideShapes Go.ChangeAt Go.RowKit
end
end Go.Proofs.YtcejjdmnlejbaaaGreatDoor
namespace Go.Proofs.YtcejjdmnlejbaaaGreatDoor
section
set_option linter.unusedVariables false
set_option linter.unusedSimpArgs false
open Go.RowKit
open Go.Deep (BT)
def allI (L:List Int) (k:Int):Bool:=L.all fun x=>x==k
def amtB (k:Int):Bool:=decide (k=1∨k=2)
def prodT (op a b:Int):Int :=
 if a=1∧b=1 then 1 else if a=2∧b=1 then 2 else if op=10∧a=1∧b=2 then 2 else if op=11∧a=2∧b=2 then 1 else 0
def cmpB (op:Int) (L:List Int):Bool :=
 if op=15 then allI L 3 else if op=16∨op=17 then amtB (L.getD 0 0) && (L.getD 0 0==L.getD 1 0) else if op=18 then (L.getD 0 0==L.getD 1 0) else allI L 4
def resT (op:Int) (L:List Int):Int :=
 if op=1 then 1 else if op=2 then 2 else if op=3 then 3 else if op=4∨op=5 then 4 else
 if op=7∨op=8∨op=9∨op=12∨op=13 then (if (amtB (L.getD 0 0) && allI L (L.getD 0 0))=true then L.getD 0 0 else 0) else
 if op=10∨op=11 then prodT op (L.getD 0 0) (L.getD 1 0) else
 if op=14 then (if L.getD 0 0=4∧L.getD 1 0=L.getD 2 0 then L.getD 1 0 else 0) else (if cmpB op L=true then 4 else 0)
abbrev Look:=ByteArray→Int × Int
def nameT (look:Look) (sc:Int) (s:ByteArray):Int × Int:=if atE sc s=0 then (atS sc s,0) else look s
def tyF (look:Look) (sc:Int):Fo→Int × List Int
 | .nil=>(0,[])
 | .node _ _ a k r =>
   let t:Int × Int:=if a.op=6 then nameT look sc a.name else if (tyF look sc k).1=0 then (if resT a.op (tyF look sc k).2=0 then (0,9) else (resT a.op (tyF look sc k).2,0)) else (0,(tyF look sc k).1)
   if t.2=0 then (if (tyF look sc r).1=0 then (0,t.1 :: (tyF look sc r).2) else ((tyF look sc r).1,[])) else (t.2,[])
def tyT (look:Look) (sc:Int) (a:Nd) (k:Fo):Int × Int :=
 if a.op=6 then nameT look sc a.name else if (tyF look sc k).1=0 then (if resT a.op (tyF look sc k).2=0 then (0,9) else (resT a.op (tyF look sc k).2,0)) else (0,(tyF look sc k).1)
theorem tyF_node (look:Look) (sc:Int) (b o:Nat) (a:Nd) (k r:Fo):tyF look sc (.node b o a k r) =
 if (tyT look sc a k).2=0 then (if (tyF look sc r).1=0 then (0,(tyT look sc a k).1 :: (tyF look sc r).2) else ((tyF look sc r).1,[])) else ((tyT look sc a k).2,[]):=rfl
end
section
set_option linter.unusedVariables false
set_option linter.unusedSimpArgs false
open Go.ChangeShapes Go.WideShapes Go.ChangeAt Go.RowKit
end
section
set_option linter.unusedVariables false
set_option linter.unusedSimpArgs false
open Go.ChangeShapes Go.WideShapes Go.ChangeAt Go.RowKit
end
section
set_option linter.unusedVariables false
set_option linter.unusedSimpArgs false
open Go.ChangeShapes Go.WideShapes Go.ChangeAt Go.RowKit
end
section
set_option linter.unusedVariables false
set_option linter.unusedSimpArgs false
open Go.ChangeShapes Go.WideShapes Go.ChangeAt Go.RowKit
end
end Go.Proofs.YtcejjdmnlejbaaaGreatDoor
