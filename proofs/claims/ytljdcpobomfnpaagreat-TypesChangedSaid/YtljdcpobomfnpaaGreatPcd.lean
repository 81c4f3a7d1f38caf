import Derived.Test.YtljdcpobomfnpaaGreatTkR
import Derived.Test.YtljdcpobomfnpaaGreatPzS
import Derived.Test.YtljdcpobomfnpaaGreatGg
import Derived.Maps.AppendAt
namespace Go.Proofs.YtljdcpobomfnpaaGreat
set_option linter.unusedVariables false
set_option linter.unusedSimpArgs false
open Go.ChangeShapes Go.WideShapes Go.ChangeAt Go.RowKit
open Go.Deep (BT)
namespace Ln
def okB (b:UInt8):Bool:=decide (b.toNat=10∨(32≤b.toNat∧b.toNat≤126))
def okS (s:ByteArray):Nat→Bool
 | 0=>true
 | k+1=>okS s k && okB (s.data.toList.getD k 0)
theorem okS_stop (s:ByteArray) {k:Nat} (h:okS s k=false):∀ n,okS s (k+n)=false:=by
 intro n
 induction n with
 | zero=>exact h
 | succ n ih=>show (okS s (k+n) && _)=false;rw [ih];rfl
def go (s:ByteArray):Nat→Nat→Nat→List ByteArray
 | 0,_,f=>if f < s.size then [s.extract f s.size] else []
 | n+1,i,f=>if (s.data.toList.getD i 0).toNat=10 then s.extract f i :: go s n (i+1) (i+1) else go s n (i+1) f
def lines (s:ByteArray):List ByteArray × Int :=
 if 20000 < s.size then ([],10) else if okS s s.size=false then ([],1) else if 1000 < (go s s.size 0 0).length then ([],10) else (go s s.size 0 0,0)
theorem go_len (s:ByteArray) (n i f:Nat):(go s n i f).length≤n+1:=by
 induction n generalizing i f with
 | zero=>unfold go;split<;>simp
 | succ n ih =>
   unfold go
   split
   · rw [List.length_cons];have:=ih (i+1) (i+1);omega
   · have:=ih (i+1) f;omega
theorem extract_size (s:ByteArray) (f i:Nat):(s.extract f i).size≤s.size:=by simp;omega
theorem go_size (s:ByteArray) (n i f:Nat):∀ l ∈ go s n i f,l.size≤s.size:=by
 induction n generalizing i f with
 | zero =>
   intro l hl
   unfold go at hl
   split at hl
   · rw [List.mem_singleton.1 hl];exact extract_size s _ _
   · cases hl
 | succ n ih =>
   intro l hl
   unfold go at hl
   split at hl
   · rcases List.mem_cons.1 hl with rfl|hl
     · exact extract_size s _ _
     · exact ih _ _ l hl
   · exact ih _ _ l hl
end Ln
def strC (L:List ByteArray):List Value:=L.map fun s=>.string s
def LnP (s:ByteArray) (w:World) (e:Ending) (w':World):Prop :=
 ∃ v,e=.returned (.tuple #[v,.int .i64 (Ln.lines s).2])∧w'.ownsRow w.heap.size 9 1 v (Ln.lines s).1.length (strC (Ln.lines s).1)∧Below w.heap.size w w'
theorem lnp_nil {s:ByteArray} {w:World} {x:Int} (h:Ln.lines s=([],x)):LnP s w (.returned (.tuple #[.slice none 0 0,.int .i64 x])) w :=
 ⟨_,by rw [h],by rw [h];exact World.ownsRow_nil _ _ _ _,Below.refl _ _⟩
theorem own_slp {w:World} {B:Nat} {e:TypeId} {size:Nat} {v:Value} {n:Nat} {xs:List Value} (h:w.ownsRow B e size v n xs):∃ p cap,v=.slice p n cap:=by
 rcases h.2 with ⟨rfl,hn⟩|⟨g,cap,cur,rfl,-⟩
 · exact ⟨none,0,by rw [hn]⟩
 · exact ⟨_,_,rfl⟩
theorem strC_snoc (D:List ByteArray) (x:ByteArray):strC (D++[x])=strC D++[.string x]:=by simp [strC]
theorem Tryz.infoSt:(Tryz.prog.info? 9).map (fun i=>(i.zero,i.size,i.bytes))=some (some (.string ⟨#[]⟩),1,16):=by kernel_rfl
set_option maxHeartbeats 2000000 in
set_option maxRecDepth 100000 in
theorem rlines_any (s:ByteArray) (w:World) (hs:s.size≤9223372036854775807) :
 Calls Tryz.prog 23 #[.string s] w (LnP s w):=by
 obtain ⟨i0,hi0,hz0,hz1,hz2⟩:=info_parts Tryz.infoSt
 have LD:Hid (Ln.lines s=if 20000 < s.size then ([],10) else if Ln.okS s s.size=false then ([],1) else if 1000 < (Ln.go s s.size 0 0).length then ([],10) else (Ln.go s s.size 0 0,0)):=rfl
 by_cases h2:20000 < s.size
 · have RQ:Hid (Ln.lines s=([],10)):=by unfold Hid;rw [LD.out,if_pos h2]
   have h21:(20000:Int) < (s.size:Int):=by omega
   clear LD
   go_enter Tryz.func23,Tryz.ntmps23
   go_wp2
   go_ret2
   exact lnp_nil RQ.out
 have h21:¬ (20000:Int) < (s.size:Int):=by omega
 have LD2:Hid (Ln.lines s=if Ln.okS s s.size=false then ([],1) else if 1000 < (Ln.go s s.size 0 0).length then ([],10) else (Ln.go s s.size 0 0,0)):=by unfold Hid;rw [LD.out,if_neg h2]
 clear LD
 have hs2:s.size≤20000:=by omega
 go_enter Tryz.func23,Tryz.ntmps23
 go_wp2_with fail
 go_loop [4] (fun i=>∃ k:Nat,k≤s.size∧i=.int .i64 k∧Hid (Ln.okS s k=true)) (fun i=>s.size - (intOf i).toNat)
 case atStart=>exact ⟨0,by omega,rfl,rfl⟩
 case round =>
  obtain ⟨k,hk,rfl,HG⟩:=hrel
  by_cases hlt:k < s.size
  · have hst:Ln.okS s (k+1)=Ln.okB (s.data.toList.getD k 0):=by show (Ln.okS s k && _)=_;rw [HG.out,Bool.true_and]
    rw [getD_at s k hlt] at hst
    have ST:=Lib.hid hst
    clear hst
    have SP:Hid (Ln.okS s (k+1)=false→Ln.lines s=([],1)):=fun q=>by
     have:=Ln.okS_stop s q (s.size - (k+1))
     rw [show k+1+(s.size - (k+1))=s.size by omega] at this
     rw [LD2.out,if_pos this]
    have hi:(k:Int) < (s.size:Int):=by omega
    obtain ⟨c,hc⟩:∃ c:UInt8,s[k]=c:=⟨_,rfl⟩
    rw [hc] at ST
    go_wp2
    all_goals first
     | (go_round
        case rel =>
         refine ⟨k+1,by omega,by go_num,?_⟩
         unfold Hid
         rw [ST.out]
         unfold Ln.okB
         rw [decide_eq_true_eq]
         first|omega|(simp_all;done)|(simp_all;omega)
        case measure=>simp [intOf];omega)
     | (go_ret2
        refine lnp_nil (SP.out ?_)
        rw [ST.out]
        unfold Ln.okB
        rw [decide_eq_false_iff_not]
        first|omega|(simp_all;done)|(simp_all;omega))
  · obtain rfl:k=s.size:=by omega
    have LD3:Hid (Ln.lines s=if 1000 < (Ln.go s s.size 0 0).length then ([],10) else (Ln.go s s.size 0 0,0)):=by unfold Hid;rw [LD2.out,if_neg (by rw [HG.out];simp)]
    have GL:Hid ((Ln.go s s.size 0 0).length≤s.size+1):=Ln.go_len s s.size 0 0
    obtain ⟨G,hG⟩:∃ G,Ln.go s s.size 0 0=G:=⟨_,rfl⟩
    have HGE:=Lib.hid hG
    rw [hG] at LD3 GL
    clear LD2 HG hG hk hlt
    go_wp2_with fail
    go_loopw [5,6,7] (fun l f i wr=>∃ (k m:Nat) (D:List ByteArray),k≤s.size∧m≤k∧i=.int .i64 k∧f=.int .i64 m∧Hid (wr.ownsRow w.heap.size 9 1 l D.length (strC D)∧D++Ln.go s (s.size - k) k m=G∧D.length≤k∧Below w.heap.size w wr)) (fun _ _ i _=>s.size - (intOf i).toNat)
    case atStart=>exact ⟨0,0,[],Nat.zero_le _,Nat.le_refl _,rfl,rfl,World.ownsRow_nil _ _ _ _,by rw [Nat.sub_zero,List.nil_append];exact HGE.out,Nat.le_refl _,Below.refl _ _⟩
    case round =>
     obtain ⟨k,m,D,hk,hm,rfl,rfl,HR⟩:=hrel
     have OW:=Lib.hid HR.out.1
     have GE:=Lib.hid HR.out.2.1
     have DL:=Lib.hid HR.out.2.2.1
     have BW:=Lib.hid HR.out.2.2.2
     clear HR
     by_cases hlt:k < s.size
     · have hi:(k:Int) < (s.size:Int):=by omega
       have STEP:Hid (Ln.go s (s.size - k) k m=if (s[k]).toNat=10 then s.extract m k :: Ln.go s (s.size - (k+1)) (k+1) (k+1) else Ln.go s (s.size - (k+1)) (k+1) m):=by
        unfold Hid
        obtain ⟨n,hn⟩:∃ n,s.size - k=n+1:=⟨s.size - k - 1,by omega⟩
        rw [hn,show s.size - (k+1)=n by omega,← getD_at s k hlt]
        rfl
       obtain ⟨c,hc⟩:∃ c:UInt8,s[k]=c:=⟨_,rfl⟩
       rw [hc] at STEP
       by_cases h10:c.toNat=10
       · have n10:(c.toNat:Int)=10:=by omega
         have GE2:Hid (D++[s.extract m k]++Ln.go s (s.size - (k+1)) (k+1) (k+1)=G):=by
          unfold Hid
          rw [← GE.out,STEP.out,if_pos h10,List.append_assoc];rfl
         clear STEP h10
         have hm1:(m:Int)≤(k:Int):=by omega
         have hk1:(k:Int)≤(s.size:Int):=by omega
         obtain ⟨pv,cv,hv⟩:=own_slp OW.out
         subst hv
         have W4:=Lib.hid (own_below OW.out ((Below.refl wr.heap.size wr).alloc (Nat.le_refl _) (.cells #[.string (s.extract m k)] 9)))
         go_wp2_with (at_builtin;refine wpList_append_own_at _ rfl _ _ 41 rfl w.heap.size 9 i0 (.string ⟨#[]⟩) 1 16 Tryz.underlying41 hi0 hz0 hz1 hz2 rfl (by decide) (.slice pv D.length cv) D.length (strC D) rfl W4.out ⟨wr.heap.size,0,none⟩ 1 1 [.string (s.extract m k)] rfl rfl (by intro q u hu;cases q with|zero=>(simp at hu;subst hu;simp [Addr.add,go_sem])|succ q=>simp at hu) (by intro u hu;simp at hu;subst hu;rfl) (by have:=DL.out;unfold maxLen;omega) (by have:=DL.out;omega) (by have:=BW.out.size;simp;omega) ?_;intro v' we hown hgrow _ _;obtain ⟨pn,cn,hvn⟩:=own_slp hown;subst hvn;have B5:Hid (Below w.heap.size w we):=(BW.out.alloc BW.out.size _).grown hgrow (by have:=BW.out.size;simp;omega) (fun q hq=>(OW.out.lt q hq).1);have OW5:Hid (we.ownsRow w.heap.size 9 1 (.slice pn (D.length+1) cn) (D++[s.extract m k]).length (strC (D++[s.extract m k]))):=(by unfold Hid;rw [strC_snoc,List.length_append];exact hown);clear hown hgrow)
         go_roundw
         case rel=>exact ⟨k+1,k+1,D++[s.extract m k],by omega,Nat.le_refl _,by go_num,by go_num,OW5.out,GE2.out,by rw [List.length_append];exact Nat.succ_le_succ DL.out,B5.out⟩
         case measure=>simp [intOf];omega
       · have n10:¬ (c.toNat:Int)=10:=by omega
         have GE2:Hid (D++Ln.go s (s.size - (k+1)) (k+1) m=G):=by
          unfold Hid
          rw [← GE.out,STEP.out,if_neg h10]
         clear STEP h10
         go_wp2
         go_roundw
         case rel=>exact ⟨k+1,m,D,by omega,by omega,by go_num,rfl,OW.out,GE2.out,Nat.le_succ_of_le DL.out,BW.out⟩
         case measure=>simp [intOf];omega
     · obtain rfl:k=s.size:=by omega
       have hi:¬ (s.size:Int) < (s.size:Int):=by omega
       by_cases hms:m < s.size
       · have hm1:(m:Int) < (s.size:Int):=by omega
         have GE2:Hid (D++[s.extract m s.size]=G):=by
          unfold Hid
          rw [← GE.out,Nat.sub_self]
          show _=D++(if m < s.size then [s.extract m s.size] else [])
          rw [if_pos hms]
         obtain ⟨pv,cv,hv⟩:=own_slp OW.out
         subst hv
         have W4:=Lib.hid (own_below OW.out ((Below.refl wr.heap.size wr).alloc (Nat.le_refl _) (.cells #[.string (s.extract m s.size)] 9)))
         have LN:Hid (D.length+1=G.length):=by unfold Hid;rw [← GE2.out,List.length_append];rfl
         clear GE hms
         by_cases h3:1000 < G.length
         · have RQ:Hid (Ln.lines s=([],10)):=by unfold Hid;rw [LD3.out,if_pos h3]
           have h31:(1000:Int) < (D.length:Int)+1:=by have:=LN.out;omega
           clear h3
           go_wp2_with (at_builtin;refine wpList_append_own_at _ rfl _ _ 41 rfl w.heap.size 9 i0 (.string ⟨#[]⟩) 1 16 Tryz.underlying41 hi0 hz0 hz1 hz2 rfl (by decide) (.slice pv D.length cv) D.length (strC D) rfl W4.out ⟨wr.heap.size,0,none⟩ 1 1 [.string (s.extract m s.size)] rfl rfl (by intro q u hu;cases q with|zero=>(simp at hu;subst hu;simp [Addr.add,go_sem])|succ q=>simp at hu) (by intro u hu;simp at hu;subst hu;rfl) (by have:=DL.out;unfold maxLen;omega) (by have:=DL.out;omega) (by have:=BW.out.size;simp;omega) ?_;intro v' we hown hgrow _ _;obtain ⟨pn,cn,hvn⟩:=own_slp hown;subst hvn;have B5:Hid (Below w.heap.size w we):=(BW.out.alloc BW.out.size _).grown hgrow (by have:=BW.out.size;simp;omega) (fun q hq=>(OW.out.lt q hq).1);have OW5:Hid (we.ownsRow w.heap.size 9 1 (.slice pn (D.length+1) cn) (D++[s.extract m s.size]).length (strC (D++[s.extract m s.size]))):=(by unfold Hid;rw [strC_snoc,List.length_append];exact hown);clear hown hgrow)
           go_ret2
           exact ⟨_,by rw [RQ.out];rfl,by rw [RQ.out];exact World.ownsRow_nil _ _ _ _,B5.out⟩
         · have RQ:Hid (Ln.lines s=(G,0)):=by unfold Hid;rw [LD3.out,if_neg h3]
           have h31:¬ (1000:Int) < (D.length:Int)+1:=by have:=LN.out;omega
           clear h3
           go_wp2_with (at_builtin;refine wpList_append_own_at _ rfl _ _ 41 rfl w.heap.size 9 i0 (.string ⟨#[]⟩) 1 16 Tryz.underlying41 hi0 hz0 hz1 hz2 rfl (by decide) (.slice pv D.length cv) D.length (strC D) rfl W4.out ⟨wr.heap.size,0,none⟩ 1 1 [.string (s.extract m s.size)] rfl rfl (by intro q u hu;cases q with|zero=>(simp at hu;subst hu;simp [Addr.add,go_sem])|succ q=>simp at hu) (by intro u hu;simp at hu;subst hu;rfl) (by have:=DL.out;unfold maxLen;omega) (by have:=DL.out;omega) (by have:=BW.out.size;simp;omega) ?_;intro v' we hown hgrow _ _;obtain ⟨pn,cn,hvn⟩:=own_slp hown;subst hvn;have B5:Hid (Below w.heap.size w we):=(BW.out.alloc BW.out.size _).grown hgrow (by have:=BW.out.size;simp;omega) (fun q hq=>(OW.out.lt q hq).1);have OW5:Hid (we.ownsRow w.heap.size 9 1 (.slice pn (D.length+1) cn) (D++[s.extract m s.size]).length (strC (D++[s.extract m s.size]))):=(by unfold Hid;rw [strC_snoc,List.length_append];exact hown);clear hown hgrow)
           go_ret2
           exact ⟨_,by rw [RQ.out];rfl,by rw [RQ.out,← GE2.out];exact OW5.out,B5.out⟩
       · have hm1:¬ (m:Int) < (s.size:Int):=by omega
         have GE2:Hid (D=G):=by
          unfold Hid
          rw [← GE.out,Nat.sub_self]
          show _=D++(if m < s.size then [s.extract m s.size] else [])
          rw [if_neg hms,List.append_nil]
         obtain ⟨pv,cv,hv⟩:=own_slp OW.out
         subst hv
         have LN:Hid (D.length=G.length):=by unfold Hid;rw [← GE2.out]
         clear GE hms
         by_cases h3:1000 < G.length
         · have RQ:Hid (Ln.lines s=([],10)):=by unfold Hid;rw [LD3.out,if_pos h3]
           have h31:(1000:Int) < (D.length:Int):=by have:=LN.out;omega
           clear h3
           go_wp2
           go_ret2
           exact ⟨_,by rw [RQ.out];rfl,by rw [RQ.out];exact World.ownsRow_nil _ _ _ _,BW.out⟩
         · have RQ:Hid (Ln.lines s=(G,0)):=by unfold Hid;rw [LD3.out,if_neg h3]
           have h31:¬ (1000:Int) < (D.length:Int):=by have:=LN.out;omega
           clear h3
           go_wp2
           go_ret2
           exact ⟨_,by rw [RQ.out];rfl,by rw [RQ.out,← GE2.out];exact OW.out,BW.out⟩
end Go.Proofs.YtljdcpobomfnpaaGreat
