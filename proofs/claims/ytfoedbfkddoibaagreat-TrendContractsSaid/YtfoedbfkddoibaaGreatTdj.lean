import Derived.Test.YtfoedbfkddoibaaGreatTdg
import Derived.Test.YtfoedbfkddoibaaGreatTde
import Derived.Test.YtfoedbfkddoibaaGreatCtZ
import Derived.Test.YtfoedbfkddoibaaGreatCtW
import Derived.Test.YtfoedbfkddoibaaGreatTq1
import Derived.Laws.OwnMore
import Derived.Maps.AppendAt
import Derived.Lib.LazyBuf
import Derived.Test.YtfoedbfkddoibaaGreatTsI
namespace Go.Proofs.YtfoedbfkddoibaaGreat
section
set_option linter.unusedVariables false
set_option linter.unusedSimpArgs false
open Go.RowKit
open Go.Deep (BT)
structure SxV (w:World) (sc:Int) (x:Ch):Prop where
 at_:ExAt w x.b x.o x.a x.k
 ok:ExOk x.a x.k
 sm:∃ t,SmE sc t (ec x)
 nf:NfC (ec x)
 vl:valE x.a x.k=0
theorem SxV.next {w w':World} {sc:Int} {x:Ch} (h:SxV w sc x) (hb:Below w.heap.size w w'):SxV w' sc x:=⟨h.at_.next hb,h.ok,h.sm,h.nf,h.vl⟩
theorem simpR_nf (cs:List Cn) (sc:Int) (a:Nd) (k:Fo) (h:(simpR cs sc a k).2=0):NfC (simpR cs sc a k).1:=by
 unfold simpR at h ⊢
 by_cases h1:(typeOfT cs sc a k).2≠0
 · rw [if_pos h1] at h;exact absurd h h1
 rw [if_neg h1] at h ⊢
 have h0:(typeOfT cs sc a k).2=0:=Classical.byContradiction h1
 by_cases h2:valE (simT (lookT cs (tabN cs cs.length)) (cvT cs) sc a k).a (simT (lookT cs (tabN cs cs.length)) (cvT cs) sc a k).k=10
 · rw [if_pos h2] at h;cases h
 rw [if_neg h2] at h ⊢
 have hvt:valE a k=0∧(tyT (lookT cs (tabN cs cs.length)) sc a k).2=0:=by
  unfold typeOfT at h0
  by_cases hv:valE a k=0
  · rw [if_pos hv] at h0;exact ⟨hv,h0⟩
  · rw [if_neg hv] at h0;exact absurd h0 hv
 obtain ⟨v1,v2⟩:=val_ok a k hvt.1
 have q:=sim_nf (lookT cs (tabN cs cs.length)) (cvT cs) sc (cvok_of cs cs.length) (BT.node 0 0 a k .nil) (by rw [tyF_node,if_pos hvt.2];rfl) (by
  show ((wfB a (len k) && wfT k) && true)=true
  rw [v1];rfl)
 exact q _ (List.mem_cons_self ..)
theorem simpR_ty (cs:List Cn) (sc t:Int) (a:Nd) (k:Fo) (h:(simpR cs sc a k).2=0) (ht:typeOfT cs sc a k=(t,0)):SmE sc t (simpR cs sc a k).1:=by
 unfold simpR at h ⊢
 by_cases h1:(typeOfT cs sc a k).2≠0
 · rw [if_pos h1] at h;exact absurd h h1
 rw [if_neg h1] at h ⊢
 by_cases h2:valE (simT (lookT cs (tabN cs cs.length)) (cvT cs) sc a k).a (simT (lookT cs (tabN cs cs.length)) (cvT cs) sc a k).k=10
 · rw [if_pos h2] at h;cases h
 rw [if_neg h2] at h ⊢
 have hvt:valE a k=0∧tyT (lookT cs (tabN cs cs.length)) sc a k=(t,0):=by
  unfold typeOfT at ht
  by_cases hv:valE a k=0
  · rw [if_pos hv] at ht;exact ⟨hv,ht⟩
  · rw [if_neg hv] at ht;exact absurd (congrArg Prod.snd ht) hv
 obtain ⟨v1,v2⟩:=val_ok a k hvt.1
 have SM:=(sim_sm _ _ sc (cvok_of cs cs.length) a k (by rw [hvt.2]) v1).1
 rw [hvt.2] at SM
 exact SM
theorem sm_num (sc:Int) (c:Ch) (h:SmE sc 1 c):c.a.op≠2:=by
 intro e
 have q:tyT noL sc c.a c.k=(1,0):=h.ty
 unfold tyT at q
 rw [if_neg (by omega),e] at q
 by_cases h1:(tyF noL sc c.k).1=0
 · rw [if_pos h1,if_neg (show ¬ resT 2 (tyF noL sc c.k).2=0 by simp [resT])] at q
   exact absurd (congrArg Prod.fst q) (by simp [resT])
 · rw [if_neg h1] at q
   exact absurd (congrArg Prod.fst q) (by simp)
theorem simp_wf (cs:List Cn) (sc:Int) (a:Nd) (k:Fo) (c:Ch) (h:(simpR cs sc a k).2=0) (he:ec c=(simpR cs sc a k).1):wfB c.a (len c.k)=true∧wfT c.k=true∧LnC c∧valE c.a c.k=0∧ExOk c.a c.k:=by
 obtain ⟨⟨t,ht⟩,hv,hl⟩:=simpR_ok cs sc a k h
 rw [← he] at ht hv hl
 have h3:(wfB c.a (len (ef c.k)) && wfT (ef c.k))=true:=ht.wf
 rw [ef_len,wfT_ef,Bool.and_eq_true] at h3
 have hl2:=(lnc_ec c).1 hl
 rw [valE_ec] at hv
 exact ⟨h3.1,h3.2,hl2,hv,nd_ok c.a (len c.k) h3.1 hl2.1,fo_ok c.k h3.2 hl2.2⟩
theorem SxV.of {w:World} {cs:List Cn} {sc:Int} {a:Nd} {k:Fo} {c:Ch} (h:(simpR cs sc a k).2=0) (he:ec c=(simpR cs sc a k).1) (hx:ExAt w c.b c.o c.a c.k):SxV w sc c:=by
 obtain ⟨w1,w2,w3,w4,w5⟩:=simp_wf cs sc a k c h he
 obtain ⟨⟨t,ht⟩,-,-⟩:=simpR_ok cs sc a k h
 exact ⟨hx,w5,⟨t,he ▸ ht⟩,he ▸ simpR_nf cs sc a k h,w4⟩
def sruF (cs:List Cn) (r:Ru):List (Int × Ch):=if (simpR cs r.sc r.a r.k).1.a.op=4 then [] else [(r.sc,(simpR cs r.sc r.a r.k).1)]
def sosF (cs:List Cn) (r:Co):List (Int × Ch):=if (simpR cs r.sc r.a r.k).1.a.op=1∧(simpR cs r.sc r.a r.k).1.a.num=0 then [] else [(r.sc,(simpR cs r.sc r.a r.k).1)]
def sruE (cs:List Cn) (rs:List Ru) (j:Nat):Int:=match rs[j]? with
 | none=>0
 | some r=>(simpR cs r.sc r.a r.k).2
def sosE (cs:List Cn) (rs:List Co) (j:Nat):Int:=match rs[j]? with
 | none=>0
 | some r=>(simpR cs r.sc r.a r.k).2
theorem sruE_eq (cs:List Cn) (rs:List Ru) (j:Nat) (r:Ru) (h:rs[j]?=some r):sruE cs rs j=(simpR cs r.sc r.a r.k).2:=by unfold sruE;rw [h]
theorem sosE_eq (cs:List Cn) (rs:List Co) (j:Nat) (r:Co) (h:rs[j]?=some r):sosE cs rs j=(simpR cs r.sc r.a r.k).2:=by unfold sosE;rw [h]
def scrE (cs:List Cn):Fo→Int
 | .nil=>0
 | .node _ _ a k r=>orE (simpR cs 1 a k).2 (scrE cs r)
def scrL (cs:List Cn):Fo→List Ch
 | .nil=>[]
 | .node _ _ a k r=>(simpR cs 1 a k).1 :: scrL cs r
def sctE (c:Ct):Int:=orE (tvalC c) (orE (fe (sruE c.cs c.rs) 0 c.rs.length) (orE (fe (sosE c.cs c.os) 0 c.os.length) (scrE c.cs c.cr)))
def ruC (r:Ru):Int × Ch:=(r.sc,ec ⟨r.b,r.o,r.a,r.k⟩)
def coC (r:Co):Int × Ch:=(r.sc,ec ⟨r.b,r.o,r.a,r.k⟩)
theorem take_flat {α β:Type} (f:α→List β) {L:List α} {j:Nat} {x:α} (h:L[j]?=some x):(L.take (j+1)).flatMap f=(L.take j).flatMap f++f x:=by rw [List.take_add_one,h];simp
theorem orE_z {a b:Int} (h:orE a b=0):a=0∧b=0:=by
 unfold orE at h
 split at h
 · exact absurd h (by assumption)
 · exact ⟨Classical.byContradiction (by assumption),h⟩
theorem fe_zero {f:Nat→Int} {j n:Nat} (h:fe f j n=0):∀ i,j≤i→i < j+n→f i=0:=by
 induction n generalizing j with
 | zero=>intro i h1 h2;omega
 | succ n ih =>
   intro i h1 h2
   obtain ⟨q1,q2⟩:=orE_z (show orE (f j) (fe f (j+1) n)=0 from h)
   by_cases e:i=j
   · rw [e];exact q1
   · exact ih q2 i (by omega) (by omega)
theorem tval_parts (c:Ct) (h:tvalC c=0):(c.cs.length≤32∧c.rs.length≤40∧c.os.length≤16∧len c.cr≤1∧c.ls.length≤16∧c.fs.length≤16)∧(∀ r ∈ c.rs,r.sc=1∨r.sc=2∨r.sc=3)∧(∀ r ∈ c.os,(r.sc=1∨r.sc=2∨r.sc=3)∧typeOfT c.cs r.sc r.a r.k=(1,0)):=by
 obtain ⟨g,h1⟩:=orE_z h
 obtain ⟨-,h1⟩:=orE_z h1
 obtain ⟨-,h1⟩:=orE_z h1
 obtain ⟨h3,-⟩:=orE_z h1
 have gz:=gval_zero c g
 refine ⟨gz,?_,?_⟩
 all_goals
  unfold gvalC at g
  split at g
  · cases g
  split at g
  · cases g
  obtain ⟨-,g⟩:=orE_z g
  obtain ⟨g1,g⟩:=orE_z g
  obtain ⟨g2,-⟩:=orE_z g
 · intro r hr
   obtain ⟨i,hi⟩:=List.mem_iff_getElem?.1 hr
   have il:i < c.rs.length:=by
    rcases Nat.lt_or_ge i c.rs.length with q|q
    · exact q
    · rw [List.getElem?_eq_none q] at hi;cases hi
   have q:=fe_zero g1 i (Nat.zero_le _) (by omega)
   unfold rulAt at q
   rw [hi] at q
   dsimp only at q
   split at q
   · cases q
   · rename_i n
     have:scB r.sc=true:=by
      cases e:scB r.sc
      · exact absurd (Or.inl e) n
      · rfl
     have:=of_decide_eq_true this
     omega
 · intro r hr
   obtain ⟨i,hi⟩:=List.mem_iff_getElem?.1 hr
   have il:i < c.os.length:=by
    rcases Nat.lt_or_ge i c.os.length with q|q
    · exact q
    · rw [List.getElem?_eq_none q] at hi;cases hi
   have q:=fe_zero g2 i (Nat.zero_le _) (by omega)
   have t:=fe_zero h3 i (Nat.zero_le _) (by omega)
   rw [tosAt_eq _ _ _ _ hi] at t
   unfold cosAt at q
   rw [hi] at q
   dsimp only at q
   constructor
   · split at q
     · cases q
     · rename_i n
       have:scB r.sc=true:=by
        cases e:scB r.sc
        · exact absurd e n
        · rfl
       have:=of_decide_eq_true this
       omega
   · show tofN c.cs c.cs.length r.sc r.a r.k=(1,0)
     unfold expE at t
     split at t
     · cases t
     · rename_i n
       have e1:(tofN c.cs c.cs.length r.sc r.a r.k).1=1:=Classical.byContradiction fun q=>n ⟨t,q⟩
       exact Prod.ext e1 t
theorem quA_ec (x:Ch) (clk cost:Bool) (s:ByteArray):quA (ec x) clk cost s=quA x clk cost s:=by unfold quA;rw [pC_ec]
theorem quP_ec (sc:Int) (x:Ch) (name:ByteArray) (clk:Bool) (kt:Int) (cost:Bool):quP sc (ec x) name clk kt cost=quP sc x name clk kt cost:=by unfold quP;simp only [quA_ec]
theorem paR_ec (sc:Int) (x:Ch) (name:ByteArray) (kt:Int):paR sc (ec x) name kt=paR sc x name kt:=by unfold paR;simp only [pC_ec]
def totF (q:Int→Ch→Int) (L:List (Int × Ch)) (t:Int):Int:=L.foldl (fun t r=>cbE t (q r.1 r.2)) t
theorem totF_cons (q:Int→Ch→Int) (r:Int × Ch) (L:List (Int × Ch)) (t:Int):totF q (r :: L) t=totF q L (cbE t (q r.1 r.2)):=rfl
theorem totF_same (q q':Int→Ch→Int) (L:List (Int × Ch)) (t:Int) (h:∀ r ∈ L,q r.1 r.2=q' r.1 r.2):totF q L t=totF q' L t:=by
 induction L generalizing t with
 | nil=>rfl
 | cons r l ih=>rw [totF_cons,totF_cons,h r (by simp),ih _ fun s hs=>h s (by simp [hs])]
def crL (name:ByteArray) (clk:Bool):List Ch→Int
 | x :: _=>pC name clk x
 | []=>if name.toList=[98,108,111,99,107] then 1 else 0
theorem crT_L (name:ByteArray) (clk:Bool) (T:Fo):crT name clk T=crL name clk ((kids T).map ec):=by
 cases T with
 | nil=>rfl
 | node b o a k r=>exact (pC_ec name clk ⟨b,o,a,k⟩).symm
theorem crL_rng (name:ByteArray) (clk:Bool) (L:List Ch):0≤crL name clk L∧crL name clk L≤3:=by
 cases L with
 | nil =>
   by_cases q:name.toList=[98,108,111,99,107]
   · rw [show crL name clk []=1 from if_pos q];omega
   · rw [show crL name clk []=0 from if_neg q];omega
 | cons x l=>exact pC_rng name clk x
def octT (c:Ct) (name:ByteArray):Int × Int :=
 if sctE c≠0 then (0,sctE c) else if atE 1 name≠0 then (0,6) else
 (totF (fun sc x=>quP sc x name (decide (atS 1 name=3)) (crL name (decide (atS 1 name=3)) (scrL c.cs c.cr)) true) (c.os.flatMap (sosF c.cs))
   (totF (fun sc x=>quP sc x name (decide (atS 1 name=3)) (crL name (decide (atS 1 name=3)) (scrL c.cs c.cr)) false) (c.rs.flatMap (sruF c.cs)) 0),0)
theorem octT_ref (c:Ct) (name:ByteArray) (h:sctE c=0) (ha:atE 1 name=0):octT c name =
 (totF (fun sc x=>ivE (paR sc x name (crL name (decide (atS 1 name=3)) (scrL c.cs c.cr)))) (c.os.flatMap (sosF c.cs))
   (totF (fun sc x=>paR sc x name (crL name (decide (atS 1 name=3)) (scrL c.cs c.cr))) (c.rs.flatMap (sruF c.cs)) 0),0):=by
 obtain ⟨-,hr,ho⟩:=tval_parts c (orE_z h).1
 have hk:=crL_rng name (decide (atS 1 name=3)) (scrL c.cs c.cr)
 unfold octT
 rw [if_neg (by simp [h]),if_neg (by simp [ha])]
 refine Prod.ext ?_ rfl
 dsimp only
 rw [totF_same _ (fun sc x=>paR sc x name (crL name (decide (atS 1 name=3)) (scrL c.cs c.cr))) (c.rs.flatMap (sruF c.cs)) 0 (fun r hm=>?_),
  totF_same _ (fun sc x=>ivE (paR sc x name (crL name (decide (atS 1 name=3)) (scrL c.cs c.cr)))) (c.os.flatMap (sosF c.cs)) _ (fun r hm=>?_)]
 · obtain ⟨r0,m0,m1⟩:=List.mem_flatMap.1 hm
   have e:r.1=r0.sc:=by unfold sosF at m1;split at m1<;>simp at m1;rw [m1]
   rw [qu_pa r.1 r.2 name _ true (by rw [e];exact (ho r0 m0).1) hk,if_pos rfl]
 · obtain ⟨r0,m0,m1⟩:=List.mem_flatMap.1 hm
   have e:r.1=r0.sc:=by unfold sruF at m1;split at m1<;>simp at m1;rw [m1]
   rw [qu_pa r.1 r.2 name _ false (by rw [e];exact hr r0 m0) hk,if_neg (by simp)]
end
section
set_option linter.unusedVariables false
set_option linter.unusedSimpArgs false
open Go.ChangeShapes Go.WideShapes Go.ChangeAt Go.RowKit
open Go.Deep (BT)
def ClnP (w:World) (n:Nat) (e:Ending) (w':World):Prop:=∃ (p':Option Addr) (cap':Nat),e=.returned (.slice p' n cap')∧Below w.heap.size w w'
theorem Tryz.infoLic:(Tryz.prog.info? 96).map (fun i=>(i.zero,i.size,i.bytes))=some (some (.agg #[.string ⟨#[]⟩,.string ⟨#[]⟩,.int .i64 0,.int .i64 0]),4,48):=by kernel_rfl
def liC (L:List Li):List Value:=L.flatMap fun a=>[.string a.name,.string a.meas,.int .i64 a.most,.int .i64 a.days]
theorem liC_len (L:List Li):(liC L).length=L.length * 4:=by
 induction L with
 | nil=>rfl
 | cons a l ih=>simp [liC] at *;omega
theorem liC_one (L:List Li):∀ u ∈ liC L,u.oneCell'=true:=by
 intro u hu
 simp only [liC,List.mem_flatMap] at hu
 obtain ⟨a,-,ha⟩:=hu
 simp only [List.mem_cons,List.not_mem_nil,or_false] at ha
 rcases ha with rfl|rfl|rfl|rfl<;>rfl
set_option maxHeartbeats 2000000 in
set_option maxRecDepth 100000 in
theorem clli_any (L:List Li) (ptr:Option Addr) (cap:Nat) (w:World) (hp:L=[]→ptr=none∨True) (hc:∀ ad,ptr=some ad→∀ j u,(liC L)[j]?=some u→w.cell? (ad.add j)=some u) (hn:ptr=none→L=[]) (hlen:L.length≤1000000) :
 Calls Tryz.prog 58 #[.slice ptr L.length cap] w (ClnP w L.length):=by
 obtain ⟨i0,hi,hi0,hi1,hi2⟩:=info_parts Tryz.infoLic
 have HL:Hid ((liC L).length=L.length * 4):=liC_len L
 cases hq:ptr with
 | none =>
   have hk:L=[]:=hn hq
   subst hk
   subst hq
   clear HL hc hp hn
   show Calls Tryz.prog 58 #[.slice none 0 cap] w (ClnP w 0)
   have q1:(binOp .eql 41 (.slice none 0 cap) (.slice none 0 0)).run Tryz.prog w=.ok (.bool true) w:=_root_.Go.run_eql_slice_nil w _ _ _ _ _ Tryz.underlying41
   go_enter Tryz.func58,Tryz.ntmps58
   go_wp2
   go_ret
   exact ⟨none,0,rfl,Below.refl _ _⟩
 | some ad =>
   have HA:=Lib.hid (hc ad hq)
   subst hq
   clear hc hp hn
   have q1:(binOp .eql 41 (.slice (some ad) L.length cap) (.slice none 0 0)).run Tryz.prog w=.ok (.bool false) w:=_root_.Go.run_eql_slice_nil w _ _ _ _ _ Tryz.underlying41
   go_enter Tryz.func58,Tryz.ntmps58
   go_wp2_with (at_builtin;refine wpList_append_own_at _ rfl _ _ 41 rfl w.heap.size 96 i0 (.agg #[.string ⟨#[]⟩,.string ⟨#[]⟩,.int .i64 0,.int .i64 0]) 4 48 Tryz.underlying41 hi hi0 hi1 hi2 rfl (by decide) (.slice (some ⟨w.heap.size,0,none⟩) 0 0) 0 [] rfl (World.ownsRow_lit w #[] 0 (Nat.le_refl _) (by decide) rfl) ad L.length cap (liC L) rfl HL.out ?c1 (liC_one L) ?c3 ?c4 ?c5 ?_)
   case c1=>intro j u hu;have h9:=HA.out j u hu;rw [(below_box w _).cell (block_lt_of_cell h9)];exact h9
   case c3=>unfold maxLen;omega
   case c4=>omega
   case c5=>simp
   intro v' w2 hown hgrow hnil hob
   obtain ⟨pv,cv,hv⟩:∃ p c,v'=.slice p L.length c:=by
    try rw [Nat.zero_add] at hown
    rcases hown.2 with ⟨e,hn⟩|⟨g,c,cur,e,-⟩
    · exact ⟨none,0,by rw [e,hn]⟩
    · exact ⟨_,_,e⟩
   subst hv
   have B2:Hid (Below w.heap.size w w2):=(below_box w _).grown hgrow (by simp) (fun m hm=>by simp [Value.ownBlock] at hm;omega)
   clear hown hgrow hnil hob
   go_wp2
   go_ret
   exact ⟨pv,cv,rfl,B2.out⟩
theorem Tryz.infoOfc:(Tryz.prog.info? 99).map (fun i=>(i.zero,i.size,i.bytes))=some (some (.agg #[.string ⟨#[]⟩,.int .i64 0,.int .i64 0]),3,32):=by kernel_rfl
def ofC (L:List Of):List Value:=L.flatMap fun a=>[.string a.name,.int .i64 a.count,.int .i64 a.days]
theorem ofC_len (L:List Of):(ofC L).length=L.length * 3:=by
 induction L with
 | nil=>rfl
 | cons a l ih=>simp [ofC] at *;omega
theorem ofC_one (L:List Of):∀ u ∈ ofC L,u.oneCell'=true:=by
 intro u hu
 simp only [ofC,List.mem_flatMap] at hu
 obtain ⟨a,-,ha⟩:=hu
 simp only [List.mem_cons,List.not_mem_nil,or_false] at ha
 rcases ha with rfl|rfl|rfl<;>rfl
set_option maxHeartbeats 2000000 in
set_option maxRecDepth 100000 in
theorem clof_any (L:List Of) (ptr:Option Addr) (cap:Nat) (w:World) (hp:L=[]→ptr=none∨True) (hc:∀ ad,ptr=some ad→∀ j u,(ofC L)[j]?=some u→w.cell? (ad.add j)=some u) (hn:ptr=none→L=[]) (hlen:L.length≤1000000) :
 Calls Tryz.prog 59 #[.slice ptr L.length cap] w (ClnP w L.length):=by
 obtain ⟨i0,hi,hi0,hi1,hi2⟩:=info_parts Tryz.infoOfc
 have HL:Hid ((ofC L).length=L.length * 3):=ofC_len L
 cases hq:ptr with
 | none =>
   have hk:L=[]:=hn hq
   subst hk
   subst hq
   clear HL hc hp hn
   show Calls Tryz.prog 59 #[.slice none 0 cap] w (ClnP w 0)
   have q1:(binOp .eql 42 (.slice none 0 cap) (.slice none 0 0)).run Tryz.prog w=.ok (.bool true) w:=_root_.Go.run_eql_slice_nil w _ _ _ _ _ Tryz.underlying42
   go_enter Tryz.func59,Tryz.ntmps59
   go_wp2
   go_ret
   exact ⟨none,0,rfl,Below.refl _ _⟩
 | some ad =>
   have HA:=Lib.hid (hc ad hq)
   subst hq
   clear hc hp hn
   have q1:(binOp .eql 42 (.slice (some ad) L.length cap) (.slice none 0 0)).run Tryz.prog w=.ok (.bool false) w:=_root_.Go.run_eql_slice_nil w _ _ _ _ _ Tryz.underlying42
   go_enter Tryz.func59,Tryz.ntmps59
   go_wp2_with (at_builtin;refine wpList_append_own_at _ rfl _ _ 42 rfl w.heap.size 99 i0 (.agg #[.string ⟨#[]⟩,.int .i64 0,.int .i64 0]) 3 32 Tryz.underlying42 hi hi0 hi1 hi2 rfl (by decide) (.slice (some ⟨w.heap.size,0,none⟩) 0 0) 0 [] rfl (World.ownsRow_lit w #[] 0 (Nat.le_refl _) (by decide) rfl) ad L.length cap (ofC L) rfl HL.out ?c1 (ofC_one L) ?c3 ?c4 ?c5 ?_)
   case c1=>intro j u hu;have h9:=HA.out j u hu;rw [(below_box w _).cell (block_lt_of_cell h9)];exact h9
   case c3=>unfold maxLen;omega
   case c4=>omega
   case c5=>simp
   intro v' w2 hown hgrow hnil hob
   obtain ⟨pv,cv,hv⟩:∃ p c,v'=.slice p L.length c:=by
    try rw [Nat.zero_add] at hown
    rcases hown.2 with ⟨e,hn⟩|⟨g,c,cur,e,-⟩
    · exact ⟨none,0,by rw [e,hn]⟩
    · exact ⟨_,_,e⟩
   subst hv
   have B2:Hid (Below w.heap.size w w2):=(below_box w _).grown hgrow (by simp) (fun m hm=>by simp [Value.ownBlock] at hm;omega)
   clear hown hgrow hnil hob
   go_wp2
   go_ret
   exact ⟨pv,cv,rfl,B2.out⟩
end
section
set_option linter.unusedVariables false
set_option linter.unusedSimpArgs false
open Go.ChangeShapes Go.WideShapes Go.ChangeAt Go.RowKit
open Go.Deep (BT)
def KeepX (n:Nat) (X:Nat→Prop) (w w':World):Prop:=∀ k,k < n→¬ X k→w'.heap[k]?=w.heap[k]?
theorem KeepX.refl (n:Nat) (X:Nat→Prop) (w:World):KeepX n X w w:=fun _ _ _=>rfl
theorem KeepX.trans {n:Nat} {X:Nat→Prop} {w a b:World} (h:KeepX n X w a) (h2:KeepX n X a b):KeepX n X w b:=fun k hk ht=>(h2 k hk ht).trans (h k hk ht)
theorem KeepX.mono {n m:Nat} {X:Nat→Prop} {w a:World} (h:KeepX n X w a) (hm:m≤n):KeepX m X w a:=fun k hk ht=>h k (by omega) ht
theorem KeepX.next {n:Nat} {X:Nat→Prop} {w a b:World} (h:KeepX n X w a) (hn:n≤a.heap.size) (hb:Below a.heap.size a b):KeepX n X w b:=h.trans fun k hk _=>hb.block k (by omega)
theorem KeepX.grown {n:Nat} {X:Nat→Prop} {w a b:World} {row:Option Nat} (h:KeepX n X w a) (hn:n≤a.heap.size) (hg:a.grownBy b row) (hr:∀ k,row=some k→n≤k∨X k):KeepX n X w b :=
 h.trans fun k hk ht=>hg.block k (by omega) (fun e=>by
  rcases hr k e.symm with q|q
  · omega
  · exact ht q)
theorem KeepX.setCell {n:Nat} {X:Nat→Prop} {w a:World} {p:Addr} (h:KeepX n X w a) (hp:X p.block) (u:Value):KeepX n X w (a.setCell p u) :=
 h.trans fun k hk hx=>Below.heap_setCell _ _ _ _ (fun e=>hx (e ▸ hp))
theorem KeepX.weak {n:Nat} {X Y:Nat→Prop} {w a:World} (h:KeepX n X w a) (hx:∀ k,X k→Y k):KeepX n Y w a:=fun k hk hy=>h k hk fun q=>hy (hx k q)
theorem KeepX.cell {n:Nat} {X:Nat→Prop} {w w':World} (h:KeepX n X w w') {p:Addr} (h1:p.block < n) (h2:¬ X p.block):w'.cell? p=w.cell? p:=World.cell?_of_block (h p.block h1 h2)
theorem FoAt.keepX {n:Nat} {X:Nat→Prop} {w w':World} {T:Fo} {B O:Nat} (h:FoAt w T B O) (ha:FoAv (fun g=>¬ X g∧g < n) T B) (hk:KeepX n X w w'):FoAt w' T B O:=by
 induction T generalizing B O with
 | nil=>trivial
 | node b o a k r ihk ihr =>
   obtain ⟨⟨h0,h1,h2,h3⟩,hp,hkk,hr⟩:=h
   have e:∀ i,w'.cell? ⟨B,i,none⟩=w.cell? ⟨B,i,none⟩:=fun i=>hk.cell ha.1.2 ha.1.1
   exact ⟨⟨by rw [e];exact h0,by rw [e];exact h1,by rw [e];exact h2,by rw [e];exact h3⟩,hp,ihk hkk ha.2.1,ihr hr ha.2.2⟩
theorem FoGe.avX {n:Nat} {T:Fo} {B:Nat} (h:FoGe n T B) {Av:Nat→Prop} (hA:∀ g,n≤g→Av g):FoAv Av T B:=by
 induction T generalizing B with
 | nil=>trivial
 | node b o a k r ihk ihr=>exact ⟨hA _ h.1,ihk h.2.1,ihr h.2.2⟩
theorem FoLt.av {n:Nat} {T:Fo} {B:Nat} (h:FoLt n T B) {Av:Nat→Prop} (hA:∀ g,g < n→Av g):FoAv Av T B:=by
 induction T generalizing B with
 | nil=>trivial
 | node b o a k r ihk ihr=>exact ⟨hA _ h.1,ihk h.2.1,ihr h.2.2⟩
structure RwS {α:Type} (cel:α→List Value) (tr:α→Ch) (T:TypeId) (s:Nat) (w:World) (X:Nat→Prop) (bs:Nat) (v:Value) (L:List α):Prop where
 ow:w.ownsRow bs T s v L.length (L.flatMap cel)
 ch:∀ r ∈ L,ExAt w (tr r).b (tr r).o (tr r).a (tr r).k∧FoAv (fun g=>¬ X g∧v.ownBlock≠some g) (tr r).k (tr r).b
 lt:∀ k,X k→k < bs
section
variable {α:Type} {cel:α→List Value} {tr:α→Ch} {T:TypeId} {s bs:Nat} {X:Nat→Prop} {v:Value} {L:List α}
theorem RwS.start (w:World) (h:∀ k,X k→k < bs):RwS cel tr T s w X bs (.slice none 0 0) []:=⟨World.ownsRow_nil _ _ _ _,fun r hr=>(by cases hr),h⟩
theorem RwS.next {w w2:World} (h:RwS cel tr T s w X bs v L) (hb:Below w.heap.size w w2):RwS cel tr T s w2 X bs v L:=⟨own_below h.ow hb,fun r hr=>⟨(h.ch r hr).1.next hb,(h.ch r hr).2⟩,h.lt⟩
theorem RwS.set {w:World} {t:Nat} (h:RwS cel tr T s w X bs v L) (ht:X t) (i:Nat) (u:Value):RwS cel tr T s (w.setCell ⟨t,i,none⟩ u) X bs v L:=by
 have g2:=grw_set w t i u
 refine ⟨h.ow.kept g2 ?_,fun r hr=>⟨(h.ch r hr).1.grownO ((h.ch r hr).2.mono fun g q e=>q.1 (by rw [← Option.some.inj e];exact ht)) g2,(h.ch r hr).2⟩,h.lt⟩
 cases q:v.ownBlock with
 | none=>exact .inl rfl
 | some g=>exact .inr (by simp;have:=h.ow.lt g q;have:=h.lt t ht;omega)
theorem RwS.app {w w2:World} {v':Value} {r:α} (h:RwS cel tr T s w X bs v L) (hx:ExAt w (tr r).b (tr r).o (tr r).a (tr r).k) (ha:FoAv (fun g=>¬ X g∧v.ownBlock≠some g) (tr r).k (tr r).b)
 (ho:w2.ownsRow bs T s v' (L.length+1) (L.flatMap cel++cel r)) (hg:w.grownBy w2 v.ownBlock) (hob:v'.ownBlock=v.ownBlock∨v'.ownBlock=some w.heap.size):RwS cel tr T s w2 X bs v' (L++[r]):=by
 have ex:∀ d:α,ExAt w (tr d).b (tr d).o (tr d).a (tr d).k→FoAv (fun g=>¬ X g∧v.ownBlock≠some g) (tr d).k (tr d).b→ExAt w2 (tr d).b (tr d).o (tr d).a (tr d).k∧FoAv (fun g=>¬ X g∧v'.ownBlock≠some g) (tr d).k (tr d).b:=by
  intro d h1 h2
  refine ⟨h1.grownO (h2.mono fun g q=>q.2) hg,(FoAv.lt h1.2 h2).mono fun g q=>⟨q.1.1,fun e=>?_⟩⟩
  rcases hob with hob|hob
  · exact q.1.2 (hob.symm.trans e)
  · have:=Option.some.inj (hob.symm.trans e);omega
 refine ⟨?_,?_,h.lt⟩
 · rw [List.length_append,List.length_singleton,List.flatMap_append,List.flatMap_singleton];exact ho
 · intro d hd
   rcases List.mem_append.1 hd with q|q
   · exact ex d (h.ch d q).1 (h.ch d q).2
   · rw [List.mem_singleton.1 q];exact ex r hx ha
theorem flat_at (hs:∀ r,(cel r).length=s) (i j:Nat) (r:α) (hi:L[i]?=some r) (hj:j < s):(L.flatMap cel)[i * s+j]?=(cel r)[j]?:=by
 induction L generalizing i with
 | nil=>simp at hi
 | cons a l ih =>
   cases i with
   | zero =>
     simp at hi
     subst hi
     rw [List.flatMap_cons,Nat.zero_mul,Nat.zero_add,List.getElem?_append_left (by rw [hs];exact hj)]
   | succ i =>
     have e:(i+1) * s+j=s+(i * s+j):=by rw [Nat.add_mul,Nat.one_mul];omega
     rw [List.flatMap_cons,e,List.getElem?_append_right (by rw [hs];omega),hs,show s+(i * s+j) - s=i * s+j by omega]
     exact ih i (by simpa using hi)
theorem RwS.row {w:World} (h:RwS cel tr T s w X bs v L) (hs:∀ r,(cel r).length=s) (P:World→Nat→Nat→α→Prop)
 (hP:∀ w' B O r,r ∈ L→(∀ j u,(cel r)[j]?=some u→w'.cell? ⟨B,O+j,none⟩=some u)→ExAt w' (tr r).b (tr r).o (tr r).a (tr r).k→P w' B O r) (hl:L.length≤9223372036854775807):∃ p cap,v=.slice p L.length cap∧∀ w',KeepX w.heap.size X w w'→RowV P s w' L p:=by
 have T1:∀ w',KeepX w.heap.size X w w'→∀ r ∈ L,ExAt w' (tr r).b (tr r).o (tr r).a (tr r).k:=fun w' hk r hr =>
  ⟨(h.ch r hr).1.1,(h.ch r hr).1.2.keepX ((FoAv.lt (h.ch r hr).1.2 (h.ch r hr).2).mono fun g q=>⟨q.1.1,q.2⟩) hk⟩
 rcases h.ow.2 with ⟨hv,h0⟩|⟨g,cap,cur,hv,hq⟩
 · have e:L=[]:=List.length_eq_zero_iff.1 h0
   subst e
   exact ⟨none,0,hv,fun w' _=>⟨by simp,0,0,fun q=>absurd rfl q,fun i x hi=>by simp at hi⟩⟩
 · refine ⟨_,cap,hv,fun w' hk=>⟨hl,g,0,fun _=>rfl,fun i r hi=>?_⟩⟩
   have hr:r ∈ L:=List.mem_of_getElem? hi
   have hgl:=h.ow.lt g (by rw [hv];rfl)
   have own:=h.ow
   rw [hv] at own
   refine hP w' g _ r hr (fun j u hu=>?_) (T1 w' hk r hr)
   have hj:j < s:=by
    have:=(List.getElem?_eq_some_iff.1 hu).1
    rw [hs] at this;exact this
   have hil:i < L.length:=(List.getElem?_eq_some_iff.1 hi).1
   have hij:i * s+j < L.length * s:=by
    have:(i+1) * s≤L.length * s:=Nat.mul_le_mul_right s hil
    rw [Nat.add_mul,Nat.one_mul] at this
    omega
   rw [hk.cell (p:=⟨g,0+i * s+j,none⟩) hgl.2 (fun q=>by have:=h.lt g q;omega),show 0+i * s+j=i * s+j by omega,own.cellAt _ hij,flat_at hs i j r hi hj]
   exact hu
end
def ruCl (r:Ru):List Value:=[.int .i64 r.sc,.string r.name,.int .i64 r.a.op,.int .i64 r.a.num,.string r.a.name,.slice r.a.ptr (len r.k) r.a.cap]
def ruTr (r:Ru):Ch:=⟨r.b,r.o,r.a,r.k⟩
def coCl (r:Co):List Value:=[.int .i64 r.sc,.int .i64 r.a.op,.int .i64 r.a.num,.string r.a.name,.slice r.a.ptr (len r.k) r.a.cap]
def coTr (r:Co):Ch:=⟨r.b,r.o,r.a,r.k⟩
def chTr (r:Ch):Ch:=r
theorem ruP_of {w:World} {B O:Nat} {r:Ru} (hc:∀ j u,(ruCl r)[j]?=some u→w.cell? ⟨B,O+j,none⟩=some u) (hx:ExAt w r.b r.o r.a r.k) (h:ExOk r.a r.k∧Bd r.sc∧r.name.size≤9223372036854775807):RuP w B O r :=
 ⟨hc 0 _ rfl,hc 1 _ rfl,⟨⟨hc 2 _ rfl,hc 3 _ rfl,hc 4 _ rfl,hc 5 _ rfl⟩,hx,h.1⟩,h.2⟩
theorem coP_of {w:World} {B O:Nat} {r:Co} (hc:∀ j u,(coCl r)[j]?=some u→w.cell? ⟨B,O+j,none⟩=some u) (hx:ExAt w r.b r.o r.a r.k) (h:ExOk r.a r.k∧Bd r.sc):CoP w B O r :=
 ⟨hc 0 _ rfl,⟨⟨hc 1 _ rfl,hc 2 _ rfl,hc 3 _ rfl,hc 4 _ rfl⟩,hx,h.1⟩,h.2⟩
structure OutB (w:World) (g:Nat) (c:Ct) (vr vo vc vl vf:Value):Prop where
 c0:w.cell? ⟨g,0,none⟩=some (.int .i64 c.rep)
 c1:w.cell? ⟨g,1,none⟩=some (.int .i64 c.rel)
 c2:w.cell? ⟨g,2,none⟩=some (.int .i64 c.con)
 c3:w.cell? ⟨g,3,none⟩=some (.int .i64 c.sit)
 c4:w.cell? ⟨g,4,none⟩=some (.int .i64 c.lay)
 c5:w.cell? ⟨g,5,none⟩=some (.int .i64 c.nf)
 c6:w.cell? ⟨g,6,none⟩=some (.int .i64 c.nt)
 c7:w.cell? ⟨g,7,none⟩=some (.slice none 0 0)
 c8:w.cell? ⟨g,8,none⟩=some vr
 c9:w.cell? ⟨g,9,none⟩=some vo
 c10:w.cell? ⟨g,10,none⟩=some vc
 c11:w.cell? ⟨g,11,none⟩=some vl
 c12:w.cell? ⟨g,12,none⟩=some vf
 c13:w.cell? ⟨g,13,none⟩=some (.int .i64 c.gua)
 f0:w.frozen? ⟨g,0,none⟩=false
 f1:w.frozen? ⟨g,1,none⟩=false
 f2:w.frozen? ⟨g,2,none⟩=false
 f3:w.frozen? ⟨g,3,none⟩=false
 f4:w.frozen? ⟨g,4,none⟩=false
 f5:w.frozen? ⟨g,5,none⟩=false
 f6:w.frozen? ⟨g,6,none⟩=false
 f7:w.frozen? ⟨g,7,none⟩=false
 f8:w.frozen? ⟨g,8,none⟩=false
 f9:w.frozen? ⟨g,9,none⟩=false
 f10:w.frozen? ⟨g,10,none⟩=false
 f11:w.frozen? ⟨g,11,none⟩=false
 f12:w.frozen? ⟨g,12,none⟩=false
 f13:w.frozen? ⟨g,13,none⟩=false
 lt:g < w.heap.size
theorem OutB.of_block {w w':World} {g:Nat} {c:Ct} {vr vo vc vl vf:Value} (h:OutB w g c vr vo vc vl vf) (e:w'.heap[g]?=w.heap[g]?) (hl:w.heap.size≤w'.heap.size):OutB w' g c vr vo vc vl vf:=by
 have q:∀ i,w'.cell? ⟨g,i,none⟩=w.cell? ⟨g,i,none⟩:=fun i=>World.cell?_of_block e
 have qf:∀ i,w'.frozen? ⟨g,i,none⟩=w.frozen? ⟨g,i,none⟩:=fun i=>World.frozen?_of_block e
 obtain ⟨c0,c1,c2,c3,c4,c5,c6,c7,c8,c9,c10,c11,c12,c13,f0,f1,f2,f3,f4,f5,f6,f7,f8,f9,f10,f11,f12,f13,lt⟩:=h
 exact ⟨by rw [q];exact c0,by rw [q];exact c1,by rw [q];exact c2,by rw [q];exact c3,by rw [q];exact c4,by rw [q];exact c5,by rw [q];exact c6,by rw [q];exact c7,by rw [q];exact c8,by rw [q];exact c9,by rw [q];exact c10,by rw [q];exact c11,by rw [q];exact c12,by rw [q];exact c13,by rw [qf];exact f0,by rw [qf];exact f1,by rw [qf];exact f2,by rw [qf];exact f3,by rw [qf];exact f4,by rw [qf];exact f5,by rw [qf];exact f6,by rw [qf];exact f7,by rw [qf];exact f8,by rw [qf];exact f9,by rw [qf];exact f10,by rw [qf];exact f11,by rw [qf];exact f12,by rw [qf];exact f13,by omega⟩
theorem OutB.next {w w':World} {g:Nat} {c:Ct} {vr vo vc vl vf:Value} (h:OutB w g c vr vo vc vl vf) (hb:Below w.heap.size w w'):OutB w' g c vr vo vc vl vf:=h.of_block (hb.block g h.lt) hb.size
theorem OutB.grown {w w':World} {g:Nat} {c:Ct} {vr vo vc vl vf:Value} {row:Option Nat} (h:OutB w g c vr vo vc vl vf) (hg:w.grownBy w' row) (hn:some g≠row):OutB w' g c vr vo vc vl vf:=h.of_block (hg.block g h.lt hn) hg.size
theorem OutB.set8 {w:World} {g:Nat} {c:Ct} {vr vo vc vl vf:Value} (h:OutB w g c vr vo vc vl vf) (u:Value):OutB (w.setCell ⟨g,8,none⟩ u) g c u vo vc vl vf:=by
 obtain ⟨c0,c1,c2,c3,c4,c5,c6,c7,c8,c9,c10,c11,c12,c13,f0,f1,f2,f3,f4,f5,f6,f7,f8,f9,f10,f11,f12,f13,lt⟩:=h
 refine ⟨?_,?_,?_,?_,?_,?_,?_,?_,?_,?_,?_,?_,?_,?_,?_,?_,?_,?_,?_,?_,?_,?_,?_,?_,?_,?_,?_,?_,by simp [World.setCell];exact lt⟩<;>simp [go_sem,c0,c1,c2,c3,c4,c5,c6,c7,c8,c9,c10,c11,c12,c13,f0,f1,f2,f3,f4,f5,f6,f7,f8,f9,f10,f11,f12,f13]
theorem OutB.set9 {w:World} {g:Nat} {c:Ct} {vr vo vc vl vf:Value} (h:OutB w g c vr vo vc vl vf) (u:Value):OutB (w.setCell ⟨g,9,none⟩ u) g c vr u vc vl vf:=by
 obtain ⟨c0,c1,c2,c3,c4,c5,c6,c7,c8,c9,c10,c11,c12,c13,f0,f1,f2,f3,f4,f5,f6,f7,f8,f9,f10,f11,f12,f13,lt⟩:=h
 refine ⟨?_,?_,?_,?_,?_,?_,?_,?_,?_,?_,?_,?_,?_,?_,?_,?_,?_,?_,?_,?_,?_,?_,?_,?_,?_,?_,?_,?_,by simp [World.setCell];exact lt⟩<;>simp [go_sem,c0,c1,c2,c3,c4,c5,c6,c7,c8,c9,c10,c11,c12,c13,f0,f1,f2,f3,f4,f5,f6,f7,f8,f9,f10,f11,f12,f13]
theorem OutB.set10 {w:World} {g:Nat} {c:Ct} {vr vo vc vl vf:Value} (h:OutB w g c vr vo vc vl vf) (u:Value):OutB (w.setCell ⟨g,10,none⟩ u) g c vr vo u vl vf:=by
 obtain ⟨c0,c1,c2,c3,c4,c5,c6,c7,c8,c9,c10,c11,c12,c13,f0,f1,f2,f3,f4,f5,f6,f7,f8,f9,f10,f11,f12,f13,lt⟩:=h
 refine ⟨?_,?_,?_,?_,?_,?_,?_,?_,?_,?_,?_,?_,?_,?_,?_,?_,?_,?_,?_,?_,?_,?_,?_,?_,?_,?_,?_,?_,by simp [World.setCell];exact lt⟩<;>simp [go_sem,c0,c1,c2,c3,c4,c5,c6,c7,c8,c9,c10,c11,c12,c13,f0,f1,f2,f3,f4,f5,f6,f7,f8,f9,f10,f11,f12,f13]
theorem OutB.set11 {w:World} {g:Nat} {c:Ct} {vr vo vc vl vf:Value} (h:OutB w g c vr vo vc vl vf) (u:Value):OutB (w.setCell ⟨g,11,none⟩ u) g c vr vo vc u vf:=by
 obtain ⟨c0,c1,c2,c3,c4,c5,c6,c7,c8,c9,c10,c11,c12,c13,f0,f1,f2,f3,f4,f5,f6,f7,f8,f9,f10,f11,f12,f13,lt⟩:=h
 refine ⟨?_,?_,?_,?_,?_,?_,?_,?_,?_,?_,?_,?_,?_,?_,?_,?_,?_,?_,?_,?_,?_,?_,?_,?_,?_,?_,?_,?_,by simp [World.setCell];exact lt⟩<;>simp [go_sem,c0,c1,c2,c3,c4,c5,c6,c7,c8,c9,c10,c11,c12,c13,f0,f1,f2,f3,f4,f5,f6,f7,f8,f9,f10,f11,f12,f13]
theorem OutB.set12 {w:World} {g:Nat} {c:Ct} {vr vo vc vl vf:Value} (h:OutB w g c vr vo vc vl vf) (u:Value):OutB (w.setCell ⟨g,12,none⟩ u) g c vr vo vc vl u:=by
 obtain ⟨c0,c1,c2,c3,c4,c5,c6,c7,c8,c9,c10,c11,c12,c13,f0,f1,f2,f3,f4,f5,f6,f7,f8,f9,f10,f11,f12,f13,lt⟩:=h
 refine ⟨?_,?_,?_,?_,?_,?_,?_,?_,?_,?_,?_,?_,?_,?_,?_,?_,?_,?_,?_,?_,?_,?_,?_,?_,?_,?_,?_,?_,by simp [World.setCell];exact lt⟩<;>simp [go_sem,c0,c1,c2,c3,c4,c5,c6,c7,c8,c9,c10,c11,c12,c13,f0,f1,f2,f3,f4,f5,f6,f7,f8,f9,f10,f11,f12,f13]
theorem OutB.zero (w:World):OutB (w.alloc (.cells #[.int .i64 0,.int .i64 0,.int .i64 0,.int .i64 0,.int .i64 0,.int .i64 0,.int .i64 0,.slice none 0 0,.slice none 0 0,.slice none 0 0,.slice none 0 0,.slice none 0 0,.slice none 0 0,.int .i64 0] 44)) w.heap.size ⟨0,0,0,0,0,0,0,0,[],[],[],.nil,[],[]⟩ (.slice none 0 0) (.slice none 0 0) (.slice none 0 0) (.slice none 0 0) (.slice none 0 0):=by
 constructor<;>simp [go_sem]
theorem OutB.zf {w:World} {g:Nat} (h:OutB w g ⟨0,0,0,0,0,0,0,0,[],[],[],.nil,[],[]⟩ (.slice none 0 0) (.slice none 0 0) (.slice none 0 0) (.slice none 0 0) (.slice none 0 0)):w.cell? ⟨g,0,none⟩=some (.int .i64 0)∧w.cell? ⟨g,1,none⟩=some (.int .i64 0)∧w.cell? ⟨g,2,none⟩=some (.int .i64 0)∧w.cell? ⟨g,3,none⟩=some (.int .i64 0)∧w.cell? ⟨g,4,none⟩=some (.int .i64 0)∧w.cell? ⟨g,5,none⟩=some (.int .i64 0)∧w.cell? ⟨g,6,none⟩=some (.int .i64 0)∧w.cell? ⟨g,7,none⟩=some (.slice none 0 0)∧w.cell? ⟨g,8,none⟩=some (.slice none 0 0)∧w.cell? ⟨g,9,none⟩=some (.slice none 0 0)∧w.cell? ⟨g,10,none⟩=some (.slice none 0 0)∧w.cell? ⟨g,11,none⟩=some (.slice none 0 0)∧w.cell? ⟨g,12,none⟩=some (.slice none 0 0)∧w.cell? ⟨g,13,none⟩=some (.int .i64 0)∧w.frozen? ⟨g,0,none⟩=false∧w.frozen? ⟨g,1,none⟩=false∧w.frozen? ⟨g,2,none⟩=false∧w.frozen? ⟨g,3,none⟩=false∧w.frozen? ⟨g,4,none⟩=false∧w.frozen? ⟨g,5,none⟩=false∧w.frozen? ⟨g,6,none⟩=false∧w.frozen? ⟨g,7,none⟩=false∧w.frozen? ⟨g,8,none⟩=false∧w.frozen? ⟨g,9,none⟩=false∧w.frozen? ⟨g,10,none⟩=false∧w.frozen? ⟨g,11,none⟩=false∧w.frozen? ⟨g,12,none⟩=false∧w.frozen? ⟨g,13,none⟩=false :=
 ⟨h.c0,h.c1,h.c2,h.c3,h.c4,h.c5,h.c6,h.c7,h.c8,h.c9,h.c10,h.c11,h.c12,h.c13,h.f0,h.f1,h.f2,h.f3,h.f4,h.f5,h.f6,h.f7,h.f8,h.f9,h.f10,h.f11,h.f12,h.f13⟩
theorem ru_box (w:World) (x:Ru):∃ wa,w.alloc (.cells #[.int .i64 x.sc,.string x.name,.int .i64 x.a.op,.int .i64 x.a.num,.string x.a.name,.slice x.a.ptr (len x.k) x.a.cap] 65)=wa∧Below w.heap.size w wa∧w.heap.size < wa.heap.size∧wa.cell? ⟨w.heap.size,0,none⟩=some (.int .i64 x.sc)∧wa.cell? ⟨w.heap.size,1,none⟩=some (.string x.name)∧wa.cell? ⟨w.heap.size,2,none⟩=some (.int .i64 x.a.op)∧wa.cell? ⟨w.heap.size,3,none⟩=some (.int .i64 x.a.num)∧wa.cell? ⟨w.heap.size,4,none⟩=some (.string x.a.name)∧wa.cell? ⟨w.heap.size,5,none⟩=some (.slice x.a.ptr (len x.k) x.a.cap) :=
 ⟨_,rfl,below_box _ _,by simp,by simp [go_sem],by simp [go_sem],by simp [go_sem],by simp [go_sem],by simp [go_sem],by simp [go_sem]⟩
theorem co_box (w:World) (x:Co):∃ wa,w.alloc (.cells #[.int .i64 x.sc,.int .i64 x.a.op,.int .i64 x.a.num,.string x.a.name,.slice x.a.ptr (len x.k) x.a.cap] 67)=wa∧Below w.heap.size w wa∧w.heap.size < wa.heap.size∧wa.cell? ⟨w.heap.size,0,none⟩=some (.int .i64 x.sc)∧wa.cell? ⟨w.heap.size,1,none⟩=some (.int .i64 x.a.op)∧wa.cell? ⟨w.heap.size,2,none⟩=some (.int .i64 x.a.num)∧wa.cell? ⟨w.heap.size,3,none⟩=some (.string x.a.name)∧wa.cell? ⟨w.heap.size,4,none⟩=some (.slice x.a.ptr (len x.k) x.a.cap) :=
 ⟨_,rfl,below_box _ _,by simp,by simp [go_sem],by simp [go_sem],by simp [go_sem],by simp [go_sem],by simp [go_sem]⟩
theorem ex_box (w:World) (x:Ch):∃ wa,w.alloc (.cells #[.int .i64 x.a.op,.int .i64 x.a.num,.string x.a.name,.slice x.a.ptr (len x.k) x.a.cap] 25)=wa∧Below w.heap.size w wa∧w.heap.size < wa.heap.size∧wa.cell? ⟨w.heap.size,0,none⟩=some (.int .i64 x.a.op)∧wa.cell? ⟨w.heap.size,1,none⟩=some (.int .i64 x.a.num)∧wa.cell? ⟨w.heap.size,2,none⟩=some (.string x.a.name)∧wa.cell? ⟨w.heap.size,3,none⟩=some (.slice x.a.ptr (len x.k) x.a.cap) :=
 ⟨_,rfl,below_box _ _,by simp,by simp [go_sem],by simp [go_sem],by simp [go_sem],by simp [go_sem]⟩
theorem ch_box (w:World) (y:Ch):∃ wa,w.alloc (.cells #[.int .i64 y.a.op,.int .i64 y.a.num,.string y.a.name,.slice y.a.ptr (len y.k) y.a.cap] 25)=wa∧Below w.heap.size w wa∧BX4 wa w.heap.size (.int .i64 y.a.op) (.int .i64 y.a.num) (.string y.a.name) (.slice y.a.ptr (len y.k) y.a.cap) :=
 ⟨_,rfl,below_box _ _,BX4.new w _ _ _ _ _⟩
structure ScV (w:World) (c d:Ct) (p:Cp):Prop where
 rs:RowV RuP 6 w d.rs p.rs
 re:d.rs.map ruC=c.rs.flatMap (sruF c.cs)
 os:RowV CoP 5 w d.os p.os
 oe:d.os.map coC=c.os.flatMap (sosF c.cs)
 cr:CrV w d.cr p.cr
 ce:(kids d.cr).map ec=scrL c.cs c.cr
def ScP (w:World) (X:Nat→Prop) (c:Ct) (R:Int) (e:Ending) (w':World):Prop :=
 ∃ (d:Ct) (p:Cp),e=.returned (.tuple #[.agg #[.int .i64 d.rep,.int .i64 d.rel,.int .i64 d.con,.int .i64 d.sit,.int .i64 d.lay,.int .i64 d.nf,.int .i64 d.nt,.slice p.cs d.cs.length p.ccs,.slice p.rs d.rs.length p.crs,.slice p.os d.os.length p.cos,.slice p.cr (len d.cr) p.ccr,.slice p.ls d.ls.length p.cls,.slice p.fs d.fs.length p.cfs,.int .i64 d.gua],.int .i64 R])∧Below w.heap.size w w'∧(R=0→∀ w2,KeepX w'.heap.size X w' w2→ScV w2 c d p)
structure ScE (w wr:World) (g:Nat) (c:Ct) (p:Cp) (vr vo vc vl vf:Value):Prop where
 t1:CtBox wr w.heap.size c p
 t2:OutB wr (w.heap.size+1) ⟨0,0,0,0,0,0,0,0,[],[],[],.nil,[],[]⟩ (.slice none 0 0) (.slice none 0 0) (.slice none 0 0) (.slice none 0 0) (.slice none 0 0)
 t5:OutB wr g c vr vo vc vl vf
 bl:Below w.heap.size w wr
 lt:w.heap.size+1 < g
theorem ScE.next {w wr w2:World} {g:Nat} {c:Ct} {p:Cp} {vr vo vc vl vf:Value} (h:ScE w wr g c p vr vo vc vl vf) (hb:Below wr.heap.size wr w2):ScE w w2 g c p vr vo vc vl vf :=
 ⟨h.t1.next hb,h.t2.next hb,h.t5.next hb,h.bl.trans (hb.mono h.bl.size),h.lt⟩
def XBx (lo:Nat) (w:World) (g k:Nat):Prop:=k < lo∨k=g∨k=w.heap.size+1
theorem ScE.base {w wr:World} {g:Nat} {c:Ct} {p:Cp} {vr vo vc vl vf:Value} {lo:Nat} (h:ScE w wr g c p vr vo vc vl vf) (hl:lo≤w.heap.size):∀ k,XBx lo w g k→k < wr.heap.size:=by
 intro k hk
 have h1:=h.t5.lt
 have h2:=h.lt
 rcases hk with q|rfl|rfl<;>omega
theorem CtBox.growN {w w':World} {g:Nat} {c:Ct} {p:Cp} {row:Option Nat} (h:CtBox w g c p) (hg:w.grownBy w' row) (hn:some g≠row):CtBox w' g c p:=by
 cases row with
 | some s=>exact h.grown hg (fun e=>hn (by rw [e]))
 | none =>
   have hb:Below w.heap.size w w':=⟨hg.os,hg.tape,hg.output,hg.size,fun m hm=>hg.block m hm (by simp)⟩
   exact h.next hb
theorem ScE.grown {w wr w2:World} {g:Nat} {c:Ct} {p:Cp} {vr vo vc vl vf:Value} {row:Option Nat} (h:ScE w wr g c p vr vo vc vl vf) (hg:wr.grownBy w2 row) (hr:∀ k,row=some k→g < k):ScE w w2 g c p vr vo vc vl vf :=
 ⟨h.t1.growN hg (fun e=>by have:=hr _ e.symm;have:=h.lt;omega),h.t2.grown hg (fun e=>by have:=hr _ e.symm;have:=h.lt;omega),h.t5.grown hg (fun e=>by have:=hr _ e.symm;omega),h.bl.grown hg h.bl.size (fun m hm=>by have:=hr m hm;have:=h.lt;omega),h.lt⟩
theorem ScE.set {w wr:World} {g:Nat} {c:Ct} {p:Cp} {vr vo vc vl vf:Value} (h:ScE w wr g c p vr vo vc vl vf) (i:Nat) {u vr' vo' vc' vl' vf':Value} (h5:OutB (wr.setCell ⟨g,i,none⟩ u) g c vr' vo' vc' vl' vf'):ScE w (wr.setCell ⟨g,i,none⟩ u) g c p vr' vo' vc' vl' vf':=by
 have g2:=grw_set wr g i u
 exact ⟨h.t1.growN g2 (fun e=>by have:=Option.some.inj e;have:=h.lt;omega),h.t2.grown g2 (fun e=>by have:=Option.some.inj e;have:=h.lt;omega),h5,h.bl.grown g2 h.bl.size (fun m hm=>by have:=Option.some.inj hm;have:=h.lt;omega),h.lt⟩
theorem row_cells {α:Type} {cel:α→List Value} {P:World→Nat→Nat→α→Prop} {s:Nat} {w:World} {L:List α} {p:Option Addr} (h:RowV P s w L p) (hs:∀ r,(cel r).length=s) (h0:0 < s)
 (hP:∀ B O r,P w B O r→∀ j u,(cel r)[j]?=some u→w.cell? ⟨B,O+j,none⟩=some u):(∀ ad,p=some ad→∀ j u,(L.flatMap cel)[j]?=some u→w.cell? (ad.add j)=some u)∧(p=none→L=[]):=by
 refine ⟨fun ad had j u hu=>?_,fun e=>?_⟩
 · have hfl:∀ L:List α,(L.flatMap cel).length=L.length * s:=by
    intro L
    induction L with
    | nil=>simp
    | cons a l ih=>simp only [List.flatMap_cons,List.length_append,hs,ih,List.length_cons];rw [Nat.add_mul];omega
   have hj:=(List.getElem?_eq_some_iff.1 hu).1
   rw [hfl] at hj
   have hi:j / s < L.length:=Nat.div_lt_of_lt_mul (by rw [Nat.mul_comm];exact hj)
   have hx:L[j / s]?=some L[j / s]:=List.getElem?_eq_getElem hi
   obtain ⟨B,O,hp,hq⟩:=h.get hx
   have e:j / s * s+j % s=j:=by rw [Nat.mul_comm];exact Nat.div_add_mod j s
   have hu2:=hu
   rw [← e,flat_at hs (j / s) (j % s) _ hx (Nat.mod_lt _ h0)] at hu2
   obtain rfl:=Option.some.inj (had.symm.trans hp)
   have q:=hP B _ _ hq _ _ hu2
   have e2:(⟨B,O,none⟩:Addr).add j=⟨B,O+j / s * s+j % s,none⟩:=by
    rw [show O+j / s * s+j % s=O+j by omega]
    simp [Addr.add]
   rw [e2]
   exact q
 · cases L with
   | nil=>rfl
   | cons x l =>
     obtain ⟨B,O,hp,-⟩:=h.get (i:=0) (x:=x) rfl
     rw [e] at hp
     cases hp
theorem li_cells {w:World} {L:List Li} {p:Option Addr} (h:RowV LiP 4 w L p):(∀ ad,p=some ad→∀ j u,(liC L)[j]?=some u→w.cell? (ad.add j)=some u)∧(p=none→L=[]) :=
 row_cells (cel:=fun a:Li=>[.string a.name,.string a.meas,.int .i64 a.most,.int .i64 a.days]) h (fun _=>rfl) (by decide) (fun B O r hr j u hu=>by
  match j,hu with
  | 0,hu=>simp at hu;subst hu;exact hr.1
  | 1,hu=>simp at hu;subst hu;exact hr.2.1
  | 2,hu=>simp at hu;subst hu;exact hr.2.2.1
  | 3,hu=>simp at hu;subst hu;exact hr.2.2.2.1
  | j+4,hu=>simp at hu)
theorem of_cells {w:World} {L:List Of} {p:Option Addr} (h:RowV OfP 3 w L p):(∀ ad,p=some ad→∀ j u,(ofC L)[j]?=some u→w.cell? (ad.add j)=some u)∧(p=none→L=[]) :=
 row_cells (cel:=fun a:Of=>[.string a.name,.int .i64 a.count,.int .i64 a.days]) h (fun _=>rfl) (by decide) (fun B O r hr j u hu=>by
  match j,hu with
  | 0,hu=>simp at hu;subst hu;exact hr.1
  | 1,hu=>simp at hu;subst hu;exact hr.2.1
  | 2,hu=>simp at hu;subst hu;exact hr.2.2.1
  | j+3,hu=>simp at hu)
def zeroC:Ct:=⟨0,0,0,0,0,0,0,0,[],[],[],.nil,[],[]⟩
def zeroP:Cp:=⟨none,none,none,none,none,none,0,0,0,0,0,0⟩
end
end Go.Proofs.YtfoedbfkddoibaaGreat
