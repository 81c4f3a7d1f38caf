import Derived.Test.YtljdcpobomfnpaaGreatRzP
import Derived.Test.YtljdcpobomfnpaaGreatRzQ
import Derived.Test.YtljdcpobomfnpaaGreatRzU
import Derived.Test.YtljdcpobomfnpaaGreatRzX
import Derived.Test.YtljdcpobomfnpaaGreatPzX
import Derived.Test.YtljdcpobomfnpaaGreatTkR
import Derived.Test.YtljdcpobomfnpaaGreatGa
import Derived.Lib.Strings
import Derived.Test.YtljdcpobomfnpaaGreatPzS
namespace Go.Proofs.YtljdcpobomfnpaaGreat
set_option linter.unusedVariables false
set_option linter.unusedSimpArgs false
open Go.ChangeShapes Go.WideShapes Go.ChangeAt Go.RowKit
open Go.Deep (BT)
structure RAll (L:List Tk.T4) (i:Nat):Prop where
 ex:RC 77 L .ex i
 dj:RC 93 L .dj i
 cj:RC 101 L .cj i
 ng:RC 104 L .ng i
 cm:RC 106 L .cm i
 sm:RC 111 L .sm i
 tm:RC 115 L .tm i
 fc:RC 116 L .fc i
theorem rparser_all (L:List Tk.T4) (hV:∀ t ∈ L,VT t.t):∀ n i,i≤L.length→L.length - i < n→RAll L i:=by
 intro n
 induction n with
 | zero=>intro i _ h;omega
 | succ n ih =>
   intro i hi hn
   have IH:∀ j,i < j→j≤L.length→RAll L j:=fun j a b=>ih j b (by omega)
   have hfc:=fc_rof L i hV (fun j a b=>(IH j a b).fc) (fun j a b=>(IH j a b).ex) (fun hi op hop=>xt_rof L i hi op hop (fun j a b=>(IH j a b).ex))
   have htm:=tm_rof L i hfc (fun j a b=>(IH j a b).fc)
   have hsm:=sm_rof L i htm (fun j a b=>(IH j a b).tm)
   have hcm:=cm_rof L i hsm (fun j a b=>(IH j a b).sm)
   have hng:=ng_rof L i hcm (fun j a b=>(IH j a b).ng)
   have hcj:=cj_rof L i hng (fun j a b=>(IH j a b).ng)
   have hdj:=dj_rof L i hcj (fun j a b=>(IH j a b).cj)
   exact ⟨ex_rof L i hdj (fun j a b=>(IH j a b).ex),hdj,hcj,hng,hcm,hsm,htm,hfc⟩
theorem rexpr_parsed (L:List Tk.T4) (hV:∀ t ∈ L,VT t.t) (i:Nat) (hi:i≤L.length):RC 77 L .ex i:=(rparser_all L hV _ i hi (Nat.lt_succ_self _)).ex
def badT (L:List Tk.T4):Int:=match Pz.pv L .ex 0 with
 | (some _,j)=>if j < L.length then j else -1
 | (none,j)=>j
def TxP (L:List Tk.T4) (w:World) (e:Ending) (w':World):Prop:=∃ c:Ch,e=.returned (.tuple #[.agg #[.int .i64 c.a.op,.int .i64 c.a.num,.string c.a.name,.slice c.a.ptr (len c.k) c.a.cap],.int .i64 (badT L)])∧(∀ x j,Pz.pv L .ex 0=(some x,j)→Pz.nr c=x∧ExAt w' c.b c.o c.a c.k∧∀ r,r < w.heap.size→Pz.FNe r c.k c.b)∧Below w.heap.size w w'
theorem txp_drew {L:List Tk.T4} {w W:World} {e:Ending} (h:TxP L w e W):TxP L w e W.drew:=by
 obtain ⟨c,h1,h2,h3⟩:=h
 exact ⟨c,h1,fun x j hx=>⟨(h2 x j hx).1,⟨(h2 x j hx).2.1.1,(h2 x j hx).2.1.2.next ((Below.refl _ _).drew)⟩,(h2 x j hx).2.2⟩,h3.drew⟩
set_option maxHeartbeats 1000000 in
set_option maxRecDepth 100000 in
theorem tokexpr_any (L:List Tk.T4) (p:Option Addr) (cap:Nat) (w:World) (hV:∀ t ∈ L,VT t.t) (ht:TkB w L p w.heap.size) :
 Calls Tryz.prog 57 #[.slice p L.length cap] w (TxP L w):=by
 have TB:=Lib.hid ht
 have HV:=Lib.hid hV
 have hL4:=ht.1
 clear ht hV
 go_enter Tryz.func57,Tryz.ntmps57
 go_wp2_with fail
 have S1:Hid (RGd (w.heap.size+1) L p cap 0 ((w.alloc (.cells #[.int .i64 0,.int .i64 0,.string ⟨#[]⟩,.slice none 0 0] 34)).alloc (.cells #[.slice p L.length cap,.int .i64 0,.int .i64 (-1)] 130))) :=
  ⟨⟨by simp [go_sem],by simp [go_sem],by simp [go_sem],by simp [go_sem],by simp [go_sem],by simp,by
    have h9:=TB.out.below (((Below.refl w.heap.size w).alloc (Nat.le_refl _) (.cells #[.int .i64 0,.int .i64 0,.string ⟨#[]⟩,.slice none 0 0] 34)).alloc (by simp) (.cells #[.slice p L.length cap,.int .i64 0,.int .i64 (-1)] 130)) (Nat.le_refl _)
    refine ⟨h9.1,fun q=>?_⟩
    obtain ⟨g,O,e,hg,hc⟩:=h9.2 q
    exact ⟨g,O,e,by omega,hc⟩⟩,Nat.zero_le _⟩
 have B1:Hid (Below w.heap.size w ((w.alloc (.cells #[.int .i64 0,.int .i64 0,.string ⟨#[]⟩,.slice none 0 0] 34)).alloc (.cells #[.slice p L.length cap,.int .i64 0,.int .i64 (-1)] 130))):=((Below.refl _ _).alloc (Nat.le_refl _) _).alloc (by simp) _
 have R1:Hid (Pz.B4 ((w.alloc (.cells #[.int .i64 0,.int .i64 0,.string ⟨#[]⟩,.slice none 0 0] 34)).alloc (.cells #[.slice p L.length cap,.int .i64 0,.int .i64 (-1)] 130)) w.heap.size Pz.z0):=(Pz.b4_alloc w Pz.z0 _ rfl _).next ((Below.refl _ _).alloc (Nat.le_refl _) _)
 generalize (w.alloc (.cells #[.int .i64 0,.int .i64 0,.string ⟨#[]⟩,.slice none 0 0] 34)).alloc (.cells #[.slice p L.length cap,.int .i64 0,.int .i64 (-1)] 130)=w1 at *
 refine (rexpr_parsed L HV.out 0 (Nat.zero_le _) (w.heap.size+1) p cap w1 S1.out).mono ?_
 rintro e w2 ⟨c,rfl,hf⟩
 have AD:Hid (Pz.Ok L 0 (Pz.pv L .ex 0) 1):=Pz.pv_adv L .ex 0 (Nat.zero_le _)
 have BT:Hid (badT L=match Pz.pv L .ex 0 with
  | (some _,j)=>if j < L.length then (j:Int) else -1
  | (none,j)=>(j:Int)):=rfl
 have hs1:w.heap.size+1 < w1.heap.size:=rgd_lt S1.out
 have PV:Hid (Pz.pv L .ex 0=Pz.pv L .ex 0):=rfl
 obtain ⟨r0,hr0⟩:∃ r0,Pz.pv L .ex 0=r0:=⟨_,rfl⟩
 rw [hr0] at hf AD BT
 clear PV
 have PV:=Lib.hid hr0
 clear hr0
 obtain ⟨o,j⟩:=r0
 dsimp only at BT hf
 have F2:=Lib.hid hf.1
 have S2:=Lib.hid hf.2.1
 have G2:=Lib.hid hf.2.2
 have R2:=Lib.hid (R1.out.grown hf.2.2 (by simp))
 have B2:Hid (Below w.heap.size w w2):=B1.out.trans (Pz.below_of_gb G2.out (by omega) hs1)
 have hjl:j≤L.length:=AD.out.2.1
 clear hf B1 S1 R1
 go_upto_region 3 with (fail)
 have X3:Hid (Pz.B4 (w2.alloc (.cells #[.int .i64 c.a.op,.int .i64 c.a.num,.string c.a.name,.slice c.a.ptr (len c.k) c.a.cap] 34)) w2.heap.size c):=Pz.b4_alloc w2 c _ rfl _
 have N3:Hid (Below w2.heap.size w2 (w2.alloc (.cells #[.int .i64 c.a.op,.int .i64 c.a.num,.string c.a.name,.slice c.a.ptr (len c.k) c.a.cap] 34))):=(Below.refl _ _).alloc (Nat.le_refl _) _
 have hs2:w.heap.size+1 < w2.heap.size:=Nat.lt_of_lt_of_le hs1 G2.out.size
 obtain ⟨xb,hxb⟩:∃ xb,w2.heap.size=xb:=⟨_,rfl⟩
 rw [hxb] at X3
 rw [hxb]
 have hxs:w.heap.size+1 < xb:=by omega
 have hxr:xb≠w.heap.size:=by omega
 have hrx:w.heap.size≠xb:=by omega
 have B3:=Lib.hid (B2.out.trans (N3.out.mono B2.out.size))
 have R3:=Lib.hid (R2.out.next N3.out)
 have FX:Hid (∀ x,o=some x→Pz.nr c=x∧ExAt (w2.alloc (.cells #[.int .i64 c.a.op,.int .i64 c.a.num,.string c.a.name,.slice c.a.ptr (len c.k) c.a.cap] 34)) c.b c.o c.a c.k∧Pz.FNe w.heap.size c.k c.b∧Pz.FNe (w.heap.size+1) c.k c.b):=fun x hx=>by
  obtain ⟨h1,h2,h3,h4⟩:=F2.out x hx
  exact ⟨h1,h2.next N3.out,h4 w.heap.size (by omega) (fun d hd=>by cases hd),h3⟩
 have S3:=Lib.hid (rso_cl _ _ _ _ _ _ _ _ S2.out (N3.out.mono hs2))
 have FR:Hid (∀ x,o=some x→∀ r,r < w.heap.size→Pz.FNe r c.k c.b):=fun x hx r hr=>(F2.out x hx).2.2.2 r (by omega) (fun d hd=>by cases hd)
 generalize w2.alloc (.cells #[.int .i64 c.a.op,.int .i64 c.a.num,.string c.a.name,.slice c.a.ptr (len c.k) c.a.cap] 34)=w3 at *
 clear F2 S2 G2 R2 B2 N3 hxb
 have END:Hid (∀ (w4:World) (b:Int),Below w.heap.size w w4→Pz.B4 w4 xb c→Pz.B4 w4 w.heap.size Pz.z0→badT L=b→(∀ x,o=some x→Pz.nr c=x∧ExAt w4 c.b c.o c.a c.k∧Pz.FNe w.heap.size c.k c.b) →
  TxP L w (.returned (.tuple #[.agg #[.int .i64 c.a.op,.int .i64 c.a.num,.string c.a.name,.slice c.a.ptr (len c.k) c.a.cap],.int .i64 b])) ((((w4.setCell ⟨w.heap.size,0,none⟩ (.int .i64 c.a.op)).setCell ⟨w.heap.size,1,none⟩ (.int .i64 c.a.num)).setCell ⟨w.heap.size,2,none⟩ (.string c.a.name)).setCell ⟨w.heap.size,3,none⟩ (.slice c.a.ptr (len c.k) c.a.cap))):=fun w4 b h1 h2 h3 h4 h5=>by
  refine ⟨c,by rw [h4],fun x j9 hx=>?_,h1.trans (Pz.below_of_gb (Pz.gb_four w4 w.heap.size _ _ _ _) (Nat.le_refl _) h3.lt)⟩
  rw [PV.out] at hx
  obtain ⟨q1,q2,q3⟩:=h5 x (by injection hx)
  exact ⟨q1,⟨q2.1,Pz.fat_grown q2.2 q3 (Pz.gb_four _ _ _ _ _ _)⟩,FR.out x (by injection hx)⟩
 cases o with
 | none =>
   obtain ⟨a,w3S⟩:=(show RBd (w.heap.size+1) L p cap j w3 from S3.out)
   have hb0:¬ (j:Int) < 0:=by omega
   have y2:=w3S.c2
   go_upto_region 5 with (fail)
   clear y2
   have c2:=w3S.c2
   obtain ⟨x0,x1,x2,x3,-,-,-,-,xl⟩:=X3.out
   obtain ⟨r0,r1,r2,r3,f0,f1,f2,f3,rl⟩:=R3.out
   dsimp only [Pz.z0,len] at r0 r1 r2 r3 f0 f1 f2 f3 rl
   have sl:=w3S.lt
   have TX:=Lib.hid (END.out w3 (j:Int) B3.out X3.out R3.out BT.out (fun x hx=>by cases hx))
   first|(go_region_with (fail))|fail
   all_goals
    go_wp2
    refine bodyPost_ret (v:=.tuple #[.agg #[.int .i64 c.a.op,.int .i64 c.a.num,.string c.a.name,.slice c.a.ptr (len c.k) c.a.cap],.int .i64 (j:Int)]) ?_ rfl ?_
    · rw [results_cell_tmp rfl]
      go_simp
    · first|exact TX.out|exact txp_drew TX.out
 | some x =>
   have w3S:=(show RGd (w.heap.size+1) L p cap j w3 from S3.out).1
   have hb0:(-1:Int) < 0:=by omega
   have y2:=w3S.c2
   have y1:=w3S.c1
   by_cases hj:j < L.length
   · have hj2:(j:Int) < (L.length:Int):=by omega
     have BT2:Hid (badT L=(j:Int)):=by unfold Hid;rw [BT.out];exact if_pos hj
     go_wp2_with fail
     refine (fails_any (w.heap.size+1) L p cap j w3 S3.out).mono ?_
     rintro e w4 ⟨rfl,hs,hg⟩
     have X4:=Lib.hid (X3.out.grown hg (by simp;omega))
     have R4:=Lib.hid (R3.out.grown hg (by simp))
     have B4:Hid (Below w.heap.size w w4):=B3.out.trans (Pz.below_of_gb hg (by omega) w3S.lt)
     have FX4:Hid (∀ x',some x=some x'→Pz.nr c=x'∧ExAt w4 c.b c.o c.a c.k∧Pz.FNe w.heap.size c.k c.b):=fun x' hx=>by
      obtain ⟨h1,h2,h3,h4⟩:=FX.out x' hx
      exact ⟨h1,⟨h2.1,Pz.fat_grown h2.2 h4 hg⟩,h3⟩
     obtain ⟨a,w4S⟩:=hs
     clear hg y1 y2 w3S
     go_upto_region 5 with (fail)
     have c2:=w4S.c2
     obtain ⟨x0,x1,x2,x3,-,-,-,-,xl⟩:=X4.out
     obtain ⟨r0,r1,r2,r3,f0,f1,f2,f3,rl⟩:=R4.out
     dsimp only [Pz.z0,len] at r0 r1 r2 r3 f0 f1 f2 f3 rl
     have sl:=w4S.lt
     have TX:=Lib.hid (END.out w4 (j:Int) B4.out X4.out R4.out BT2.out FX4.out)
     first|(go_region_with (fail))|fail
     all_goals
      go_wp2
      refine bodyPost_ret (v:=.tuple #[.agg #[.int .i64 c.a.op,.int .i64 c.a.num,.string c.a.name,.slice c.a.ptr (len c.k) c.a.cap],.int .i64 (j:Int)]) ?_ rfl ?_
      · rw [results_cell_tmp rfl]
        go_simp
      · first|exact TX.out|exact txp_drew TX.out
   · have hj2:¬ (j:Int) < (L.length:Int):=by omega
     have BT2:Hid (badT L = -1):=by unfold Hid;rw [BT.out];exact if_neg hj
     have FX4:Hid (∀ x',some x=some x'→Pz.nr c=x'∧ExAt w3 c.b c.o c.a c.k∧Pz.FNe w.heap.size c.k c.b):=fun x' hx=>by
      obtain ⟨h1,h2,h3,h4⟩:=FX.out x' hx
      exact ⟨h1,h2,h3⟩
     go_upto_region 5 with (fail)
     clear y1 y2
     have c2:=w3S.c2
     obtain ⟨x0,x1,x2,x3,-,-,-,-,xl⟩:=X3.out
     obtain ⟨r0,r1,r2,r3,f0,f1,f2,f3,rl⟩:=R3.out
     dsimp only [Pz.z0,len] at r0 r1 r2 r3 f0 f1 f2 f3 rl
     have sl:=w3S.lt
     have TX:=Lib.hid (END.out w3 (-1) B3.out X3.out R3.out BT2.out FX4.out)
     first|(go_region_with (fail))|fail
     all_goals
      go_wp2
      refine bodyPost_ret (v:=.tuple #[.agg #[.int .i64 c.a.op,.int .i64 c.a.num,.string c.a.name,.slice c.a.ptr (len c.k) c.a.cap],.int .i64 (-1)]) ?_ rfl ?_
      · rw [results_cell_tmp rfl]
        go_simp
      · first|exact TX.out|exact txp_drew TX.out
end Go.Proofs.YtljdcpobomfnpaaGreat
namespace Go.Proofs.YtljdcpobomfnpaaGreat
section
set_option linter.unusedVariables false
set_option linter.unusedSimpArgs false
open Go Go.RowKit
namespace Att
def duty1:List (List UInt8):=[[108,101,103,115],[104,101,97,100,115],[116,121,112,101,115]]
def duty2:List (List UInt8):=[[98,108,111,99,107],[115,112,97,110],[110,105,103,104,116],[108,111,110,103,101,115,116],[115,104,111,114,116,101,115,116],[115,104,105,102,116]]
def duty3:List (List UInt8):=[[115,116,97,114,116],[101,110,100]]
def pair1:List (List UInt8):=[[100,117,116,105,101,115],[108,101,103,115],[104,101,97,100,115],[100,97,121,115]]
def pair2:List (List UInt8):=[[98,108,111,99,107],[115,112,97,110],[99,114,101,100,105,116]]
def rest:List UInt8:=[114,101,115,116]
def nights:List UInt8:=[110,105,103,104,116,115]
def home:List UInt8:=[104,111,109,101]
def before:List UInt8:=[98,101,102,111,114,101,46]
def after:List UInt8:=[97,102,116,101,114,46]
def isIn (l:List UInt8) (ws:List (List UInt8)):Bool:=ws.any fun x=>l==x
def dutyT (l:List UInt8):Int:=if isIn l duty1=true then 1 else if isIn l duty2=true then 2 else if isIn l duty3=true then 3 else 0
def pairT (l:List UInt8):Int:=if isIn l pair1=true then 1 else if isIn l pair2=true then 2 else 0
def restT (l:List UInt8):Int:=if (l==rest)=true then 2 else if (l==nights)=true then 1 else if (l==home)=true then 4 else
 if Lib.hasPrefix l before=true then dutyT (l.drop 7) else if Lib.hasPrefix l after=true then dutyT (l.drop 6) else 0
def atT (sc:Int) (l:List UInt8):Int:=if sc=1 then dutyT l else if sc=2 then restT l else if sc=3 then pairT l else 0
def dutyL:List (List UInt8):=duty1++duty2++duty3
def restL:List (List UInt8):=[rest,nights,home]++dutyL.map (before++·)++dutyL.map (after++·)
def pairL:List (List UInt8):=pair1++pair2
def listL (sc:Int):List (List UInt8):=if sc=1 then dutyL else if sc=2 then restL else if sc=3 then pairL else []
def num1:List (List UInt8):=[[108,101,103,115],[104,101,97,100,115],[116,121,112,101,115],[110,105,103,104,116,115],[100,117,116,105,101,115],[100,97,121,115]]
def kindR (l:List UInt8):Int:=if isIn l num1=true then 1 else if isIn l duty3=true then 3 else if (l==home)=true then 4 else 2
def refT (L:List (List UInt8)) (l:List UInt8):Int:=if isIn l L=true then kindR l else 0
theorem isIn_iff (l:List UInt8) (ws:List (List UInt8)):isIn l ws=true↔l ∈ ws:=by
 unfold isIn;rw [List.any_eq_true]
 exact ⟨fun ⟨x,hx,he⟩=>by rw [eq_of_beq he];exact hx,fun h=>⟨l,h,by simp⟩⟩
theorem ref_duty (l:List UInt8):refT dutyL l=dutyT l:=by
 unfold refT
 by_cases h:l ∈ dutyL
 · rw [if_pos ((isIn_iff _ _).2 h)]
   revert l
   decide
 · rw [if_neg (fun q=>h ((isIn_iff _ _).1 q))]
   unfold dutyT
   unfold dutyL at h
   simp only [List.mem_append,not_or] at h
   rw [if_neg (fun q=>h.1.1 ((isIn_iff _ _).1 q)),if_neg (fun q=>h.1.2 ((isIn_iff _ _).1 q)),if_neg (fun q=>h.2 ((isIn_iff _ _).1 q))]
theorem ref_pair (l:List UInt8):refT pairL l=pairT l:=by
 unfold refT
 by_cases h:l ∈ pairL
 · rw [if_pos ((isIn_iff _ _).2 h)]
   revert l
   decide
 · rw [if_neg (fun q=>h ((isIn_iff _ _).1 q))]
   unfold pairT
   unfold pairL at h
   simp only [List.mem_append,not_or] at h
   rw [if_neg (fun q=>h.1 ((isIn_iff _ _).1 q)),if_neg (fun q=>h.2 ((isIn_iff _ _).1 q))]
theorem pre_iff (l p:List UInt8):Lib.hasPrefix l p=true↔l.take p.length=p:=by
 unfold Lib.hasPrefix
 rw [List.isPrefixOf_iff_prefix,List.prefix_iff_eq_take]
 exact eq_comm
theorem duty_nil:dutyT []=0:=by decide
theorem ref_rest (l:List UInt8) (h1:¬ (7 < l.length∧l.take 7=before)) (h2:¬ (6 < l.length∧l.take 6=after)):refT restL l=restT l:=by
 have n1:∀ d,dutyT d≠0→l≠before++d:=by
  rintro d hd rfl
  apply h1
  cases d with
  | nil=>exact absurd duty_nil hd
  | cons c d=>exact ⟨by simp [before],by simp [before]⟩
 have n2:∀ d,dutyT d≠0→l≠after++d:=by
  rintro d hd rfl
  apply h2
  cases d with
  | nil=>exact absurd duty_nil hd
  | cons c d=>exact ⟨by simp [after],by simp [after]⟩
 have hall:∀ d ∈ dutyL,dutyT d≠0:=by decide
 have z1:Lib.hasPrefix l before=true→dutyT (l.drop 7)=0:=by
  intro q
  rw [pre_iff] at q
  have hl:l=before++l.drop 7:=by
   conv=>lhs;rw [← List.take_append_drop 7 l]
   rw [show l.take 7=before from q]
  by_cases z:dutyT (l.drop 7)=0
  · exact z
  · exact absurd hl (n1 _ z)
 have z2:Lib.hasPrefix l after=true→dutyT (l.drop 6)=0:=by
  intro q
  rw [pre_iff] at q
  have hl:l=after++l.drop 6:=by
   conv=>lhs;rw [← List.take_append_drop 6 l]
   rw [show l.take 6=after from q]
  by_cases z:dutyT (l.drop 6)=0
  · exact z
  · exact absurd hl (n2 _ z)
 unfold refT restT
 by_cases r1:l=rest
 · subst r1;decide
 · by_cases r2:l=nights
   · subst r2;decide
   · by_cases r3:l=home
     · subst r3;decide
     · have hn:isIn l restL=false:=by
        rw [Bool.eq_false_iff]
        intro q
        rw [isIn_iff] at q
        unfold restL at q
        simp only [List.mem_append,List.mem_cons,List.not_mem_nil,or_false,List.mem_map] at q
        rcases q with (q|⟨d,hd,q⟩)|⟨d,hd,q⟩
        · rcases q with q|q|q
          · exact r1 q
          · exact r2 q
          · exact r3 q
        · exact n1 d (hall d hd) q.symm
        · exact n2 d (hall d hd) q.symm
       have b1:(l==rest)=false:=by simp [r1]
       have b2:(l==nights)=false:=by simp [r2]
       have b3:(l==home)=false:=by simp [r3]
       rw [hn,b1,b2,b3]
       simp only [Bool.false_eq_true,if_false]
       split
       · rename_i q;exact (z1 q).symm
       · split
         · rename_i q;exact (z2 q).symm
         · rfl
theorem rest_before (l:List UInt8) (h:l.take 7=before):restT l=dutyT (l.drop 7):=by
 have hp:Lib.hasPrefix l before=true:=(pre_iff _ _).2 h
 have b1:(l==rest)=false:=by rw [beq_eq_false_iff_ne];rintro rfl;revert h;decide
 have b2:(l==nights)=false:=by rw [beq_eq_false_iff_ne];rintro rfl;revert h;decide
 have b3:(l==home)=false:=by rw [beq_eq_false_iff_ne];rintro rfl;revert h;decide
 unfold restT;rw [b1,b2,b3,hp];simp
theorem rest_after (l:List UInt8) (h:l.take 6=after):restT l=dutyT (l.drop 6):=by
 have hp:Lib.hasPrefix l after=true:=(pre_iff _ _).2 h
 have hq:Lib.hasPrefix l before=false:=by
  rw [Bool.eq_false_iff];intro q;rw [pre_iff] at q
  have e1:(l.take 6).take 1=after.take 1:=by rw [h]
  have e2:(l.take before.length).take 1=before.take 1:=by rw [q]
  rw [List.take_take] at e1 e2
  have:after.take 1=before.take 1:=e1.symm.trans e2
  revert this;decide
 have b1:(l==rest)=false:=by rw [beq_eq_false_iff_ne];rintro rfl;revert h;decide
 have b2:(l==nights)=false:=by rw [beq_eq_false_iff_ne];rintro rfl;revert h;decide
 have b3:(l==home)=false:=by rw [beq_eq_false_iff_ne];rintro rfl;revert h;decide
 unfold restT;rw [b1,b2,b3,hp,hq];simp
end Att
def dutyS (s:ByteArray):Int:=Att.dutyT s.data.toList
def restS (s:ByteArray):Int:=Att.restT s.data.toList
def pairS (s:ByteArray):Int:=Att.pairT s.data.toList
def atS (sc:Int) (s:ByteArray):Int:=Att.atT sc s.data.toList
def atE (sc:Int) (s:ByteArray):Int:=if atS sc s=0 then 6 else 0
end
section
set_option linter.unusedVariables false
set_option linter.unusedSimpArgs false
open Go.ChangeShapes Go.WideShapes Go.ChangeAt Go.RowKit
set_option maxHeartbeats 2000000 in
theorem duty_any (s:ByteArray) (w:World) :
 Calls Tryz.prog 39 #[.string s] w fun e w'=>e=.returned (.int .i64 (dutyS s))∧w=w':=by
 have R:Hid (dutyS s=Att.dutyT s.toList):=by unfold Hid dutyS;rw [Lib.toList_data]
 go_enter Tryz.func39,Tryz.ntmps39
 go_wp2
 all_goals
  go_ret
  refine ⟨ret_int ?_,rfl⟩
  rw [R.out]
  simp only [Att.dutyT,Att.isIn,Att.duty1,Att.duty2,Att.duty3,List.any_cons,List.any_nil]
  clear R
  simp_all
set_option maxHeartbeats 2000000 in
theorem pair_any (s:ByteArray) (w:World) :
 Calls Tryz.prog 41 #[.string s] w fun e w'=>e=.returned (.int .i64 (pairS s))∧w=w':=by
 have R:Hid (pairS s=Att.pairT s.toList):=by unfold Hid pairS;rw [Lib.toList_data]
 go_enter Tryz.func41,Tryz.ntmps41
 go_wp2
 all_goals
  go_ret
  refine ⟨ret_int ?_,rfl⟩
  rw [R.out]
  simp only [Att.pairT,Att.isIn,Att.pair1,Att.pair2,List.any_cons,List.any_nil]
  clear R
  simp_all
set_option maxHeartbeats 2000000 in
theorem rest_any (s:ByteArray) (w:World) :
 Calls Tryz.prog 40 #[.string s] w fun e w'=>e=.returned (.int .i64 (restS s))∧w=w':=by
 have R:Hid (restS s=if (s.toList==Att.rest)=true then 2 else if (s.toList==Att.nights)=true then 1 else if (s.toList==Att.home)=true then 4 else
  if Lib.hasPrefix s.data.toList Att.before=true then Att.dutyT (s.data.toList.drop 7) else if Lib.hasPrefix s.data.toList Att.after=true then Att.dutyT (s.data.toList.drop 6) else 0):=by
   unfold Hid restS;rw [Lib.toList_data];rfl
 have T1:Hid (Lib.hasPrefix s.data.toList Att.before=true→Lib.trimPrefix s.data.toList Att.before=s.data.toList.drop 7):=by
  intro h;unfold Lib.trimPrefix;rw [h];rfl
 have T2:Hid (Lib.hasPrefix s.data.toList Att.after=true→Lib.trimPrefix s.data.toList Att.after=s.data.toList.drop 6):=by
  intro h;unfold Lib.trimPrefix;rw [h];rfl
 unfold Att.rest Att.nights Att.home at R
 cases r1:(s.toList==[114,101,115,116])
 · cases r2 : (s.toList==[110,105,103,104,116,115])
   · cases r3:(s.toList==[104,111,109,101])
     · rw [r1,r2,r3] at R
       have R2:Hid (restS s=if Lib.hasPrefix s.data.toList Att.before=true then Att.dutyT (s.data.toList.drop 7) else if Lib.hasPrefix s.data.toList Att.after=true then Att.dutyT (s.data.toList.drop 6) else 0):=R
       go_enter Tryz.func40,Tryz.ntmps40
       go_wp2_with fail
       refine (Tryz.strings_CutPrefix _ _ _).mono ?_
       rw [show (⟨#[98,101,102,111,114,101,46]⟩:ByteArray).data.toList=Att.before from rfl]
       cases b1:Lib.hasPrefix s.data.toList Att.before
       · have B1:=Lib.hid b1
         clear b1 T1
         generalize Lib.trimPrefix s.data.toList Att.before=t1
         rintro e w1 ⟨rfl,rfl⟩
         go_wp2_with fail
         refine (Tryz.strings_CutPrefix _ _ _).mono ?_
         rw [show (⟨#[97,102,116,101,114,46]⟩:ByteArray).data.toList=Att.after from rfl]
         cases b2:Lib.hasPrefix s.data.toList Att.after
         · have B2:=Lib.hid b2
           clear b2 T2
           generalize Lib.trimPrefix s.data.toList Att.after=t2
           rintro e w1 ⟨rfl,rfl⟩
           go_wp2
           go_ret
           exact ⟨ret_int (by rw [R2.out,B1.out,B2.out];rfl),rfl⟩
         · have B2:=Lib.hid b2
           rw [T2.out b2]
           clear b2 T2
           rintro e w1 ⟨rfl,rfl⟩
           go_wp2_with fail
           refine (duty_any _ _).mono ?_
           rintro e w1 ⟨rfl,rfl⟩
           go_wp2
           go_ret
           exact ⟨ret_int (by rw [R2.out,B1.out,B2.out];rfl),rfl⟩
       · have B1:=Lib.hid b1
         rw [T1.out b1]
         clear b1 T1
         rintro e w1 ⟨rfl,rfl⟩
         go_wp2_with fail
         refine (duty_any _ _).mono ?_
         rintro e w1 ⟨rfl,rfl⟩
         go_wp2
         go_ret
         exact ⟨ret_int (by rw [R2.out,B1.out];rfl),rfl⟩
     · rw [r1,r2,r3] at R
       go_enter Tryz.func40,Tryz.ntmps40
       go_wp2
       go_ret
       exact ⟨ret_int (by rw [R.out];rfl),rfl⟩
   · rw [r1,r2] at R
     go_enter Tryz.func40,Tryz.ntmps40
     go_wp2
     go_ret
     exact ⟨ret_int (by rw [R.out];rfl),rfl⟩
 · rw [r1] at R
   go_enter Tryz.func40,Tryz.ntmps40
   go_wp2
   go_ret
   exact ⟨ret_int (by rw [R.out];rfl),rfl⟩
set_option maxHeartbeats 2000000 in
set_option maxRecDepth 100000 in
theorem attr_any (sc:Int) (s:ByteArray) (w:World) :
 Calls Tryz.prog 15 #[.int .i64 sc,.string s] w fun e w'=>e=.returned (.tuple #[.int .i64 (atS sc s),.int .i64 (atE sc s)])∧w=w':=by
 have A:Hid (atS sc s=if sc=1 then dutyS s else if sc=2 then restS s else if sc=3 then pairS s else 0):=rfl
 have E:Hid (atE sc s=if atS sc s=0 then 6 else 0):=rfl
 go_enter Tryz.func15,Tryz.ntmps15
 go_upto_block 0 with (fail)
 go_cut [6] (fun v wx=>v=.int .i64 (atS sc s)∧w=wx)
 case first =>
  by_cases h1:sc=1
  · have V:Hid (atS sc s=dutyS s):=by unfold Hid;rw [A.out,if_pos h1]
    have b1:(sc==1)=true:=by simp [h1]
    clear h1
    go_wp2_with (go_at_call 39;refine (duty_any _ _).mono ?_;rw [← V.out];rintro e w1 ⟨rfl,rfl⟩)
    go_meet
    exact ⟨rfl,rfl⟩
  · have b1:(sc==1)=false:=by simp [h1]
    by_cases h2:sc=2
    · have V:Hid (atS sc s=restS s):=by unfold Hid;rw [A.out,if_neg h1,if_pos h2]
      have b2:(sc==2)=true:=by simp [h2]
      clear h1 h2
      go_wp2_with (go_at_call 40;refine (rest_any _ _).mono ?_;rw [← V.out];rintro e w1 ⟨rfl,rfl⟩)
      go_meet
      exact ⟨rfl,rfl⟩
    · have b2:(sc==2)=false:=by simp [h2]
      by_cases h3:sc=3
      · have V:Hid (atS sc s=pairS s):=by unfold Hid;rw [A.out,if_neg h1,if_neg h2,if_pos h3]
        have b3:(sc==3)=true:=by simp [h3]
        clear h1 h2 h3
        go_wp2_with (go_at_call 41;refine (pair_any _ _).mono ?_;rw [← V.out];rintro e w1 ⟨rfl,rfl⟩)
        go_meet
        exact ⟨rfl,rfl⟩
      · have V:Hid (atS sc s=0):=by unfold Hid;rw [A.out,if_neg h1,if_neg h2,if_neg h3]
        have b3:(sc==3)=false:=by simp [h3]
        clear h1 h2 h3
        go_wp2
        go_meet
        exact ⟨by rw [V.out],rfl⟩
 case rest =>
  obtain ⟨rfl,rfl⟩:=hcut
  by_cases h0:atS sc s=0
  · have b0:(atS sc s==0)=true:=by simp [h0]
    have H0:=Lib.hid h0
    clear h0
    go_wp2
    go_ret2
    exact ⟨by rw [E.out,if_pos H0.out,H0.out];rfl,rfl⟩
  · have b0:(atS sc s==0)=false:=by simp [h0]
    have H0:=Lib.hid h0
    clear h0
    go_wp2
    go_ret2
    exact ⟨by rw [E.out,if_neg H0.out];rfl,rfl⟩
end
end Go.Proofs.YtljdcpobomfnpaaGreat
