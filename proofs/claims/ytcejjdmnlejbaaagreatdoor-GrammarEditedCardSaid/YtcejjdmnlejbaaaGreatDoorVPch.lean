import Derived.Test.YtcejjdmnlejbaaaGreatDoorVPcf
namespace Go.Proofs.YtcejjdmnlejbaaaGreatDoor
open Lib(hid)
set_option linter.unusedVariables false
set_option linter.unusedSimpArgs false
open Go.ChangeShapes Go.WideShapes Go.ChangeAt Go.RowKit
open Go.Deep (BT)
set_option maxHeartbeats 2000000
set_option maxRecDepth 100000
namespace Ln
def okB(b:UInt8):Bool:=decide (b.toNat=10∨(32≤b.toNat∧b.toNat≤126))
def okS(s:ByteArray):Nat→Bool
 | 0=>true
 | k+1=>okS s k && okB (s.data.toList.getD k 0)
theorem okS_stop(s:ByteArray){k:Nat}(h:okS s k=false):∀n,okS s (k+n)=false:=by
 intro n
 induction n with
 | zero=>exact h
 | succ n ih=>show(okS s (k+n) && _)=false;rw[ih];rfl
def go(s:ByteArray):Nat→Nat→Nat→List ByteArray
 | 0,_,f=>if f < s.size then [s.extract f s.size] else []
 | n+1,i,f=>if (s.data.toList.getD i 0).toNat=10 then s.extract f i :: go s n (i+1) (i+1) else go s n (i+1) f
def lines(s:ByteArray):List ByteArray× Int :=
 if 20000 < s.size then ([],10) else if okS s s.size=false then ([],1) else if 1000 < (go s s.size 0 0).length then ([],10) else (go s s.size 0 0,0)
theorem go_len(s:ByteArray)(n i f:Nat):(go s n i f).length≤n+1:=by
 induction n generalizing i f with
 | zero=>unfold go;split<;>simp
 | succ n ih =>
   unfold go
   split
   ·rw[List.length_cons];have:=ih (i+1) (i+1);omega
   ·have:=ih (i+1) f;omega
theorem extract_size(s:ByteArray)(f i:Nat):(s.extract f i).size≤s.size:=by simp;omega
theorem go_size(s:ByteArray)(n i f:Nat):∀l∈ go s n i f,l.size≤s.size:=by
 induction n generalizing i f with
 | zero =>
   intro l hl;unfold go at hl
   split at hl
   ·rw[List.mem_singleton.1 hl];exact extract_size s _ _
   ·cases hl
 | succ n ih =>
   intro l hl;unfold go at hl
   split at hl
   ·rcases List.mem_cons.1 hl with rfl|hl
    ·exact extract_size s _ _
    ·exact ih _ _ l hl
   ·exact ih _ _ l hl
end Ln
def kQ(L:List ByteArray):List Value:=L.map fun s=>.string s
def LnP(s:ByteArray)(w:World)(e:Ending)(w':World):Prop :=
 ∃v,e=.returned (.tuple #[v,.int .i64 (Ln.lines s).2])∧w'.ownsRow w.heap.size 9 1 v (Ln.lines s).1.length (kQ (Ln.lines s).1)∧Below w.heap.size w w'
theorem Ya{s:ByteArray}{w:World}{x:Int}(h:Ln.lines s=([],x)):LnP s w (.returned (.tuple #[.slice none 0 0,.int .i64 x])) w :=
 ⟨_,by rw[h],by rw[h];exact World.ownsRow_nil _ _ _ _,Below.refl _ _⟩
theorem qS{w:World}{B:Nat}{e:TypeId}{size:Nat}{v:Value}{n:Nat}{xs:List Value}(h:w.ownsRow B e size v n xs):∃p cap,v=.slice p n cap:=by
 rcases h.2 with ⟨rfl,hn⟩|⟨g,cap,cur,rfl,-⟩
 ·exact⟨none,0,by rw[hn]⟩
 ·exact⟨_,_,rfl⟩
theorem kP(D:List ByteArray)(x:ByteArray):kQ (D++[x])=kQ D++[.string x]:=by simp[kQ]
theorem Tryz.infoSt:(Tryz.prog.info? 9).map (fun i=>(i.zero,i.size,i.bytes))=some (some (.string ⟨#[]⟩),1,16):=by kernel_rfl
theorem Qq(s:ByteArray)(w:World)(hs:s.size≤9223372036854775807) :
 Calls Tryz.prog 39 #[.string s] w (LnP s w):=by
 obtain⟨i0,hi0,hz0,hz1,hz2⟩:=info_parts Tryz.infoSt;have LD:Hid (Ln.lines s=if 20000 < s.size then ([],10) else if Ln.okS s s.size=false then ([],1) else if 1000 < (Ln.go s s.size 0 0).length then ([],10) else (Ln.go s s.size 0 0,0)):=rfl
 by_cases h2:20000 < s.size
 ·have RQ:Hid (Ln.lines s=([],10)):=by unfold Hid;rw[LD.out,if_pos h2]
  have h21:(20000:Int) < (s.size:Int):=(by omega);clear LD;go_enter Tryz.func39,Tryz.ntmps39;go_wp2
  go_ret2
  exact Ya RQ.out
 have h21:¬(20000:Int) < (s.size:Int):=by omega
 have LD2:Hid (Ln.lines s=if Ln.okS s s.size=false then ([],1) else if 1000 < (Ln.go s s.size 0 0).length then ([],10) else (Ln.go s s.size 0 0,0)):=by unfold Hid;rw[LD.out,if_neg h2]
 clear LD;have hs2:s.size≤20000:=by omega
 go_enter Tryz.func39,Tryz.ntmps39;go_wp2_with fail
 go_loop [4] (fun i=>∃k:Nat,k≤s.size∧i=.int .i64 k∧Hid (Ln.okS s k=true)) (fun i=>s.size - (intOf i).toNat)
 case atStart=>exact⟨0,by omega,rfl,rfl⟩
 case round =>
  obtain⟨k,hk,rfl,HG⟩:=hrel
  by_cases qN:k < s.size
  ·have hst:Ln.okS s (k+1)=Ln.okB (s.data.toList.getD k 0):=by show(Ln.okS s k && _)=_;rw[HG.out,Bool.true_and]
   rw[getD_at s k qN] at hst;have ST:=hid hst;clear hst
   have SP:Hid (Ln.okS s (k+1)=false→Ln.lines s=([],1)):=fun q=>by
    have:=Ln.okS_stop s q (s.size - (k+1));rw[show k+1+(s.size - (k+1))=s.size by omega] at this;rw[LD2.out,if_pos this]
   have hi:(k:Int) < (s.size:Int):=(by omega);obtain⟨c,hc⟩:∃c:UInt8,s[k]=c:=⟨_,rfl⟩;rw[hc] at ST;go_wp2
   all_goals first
    | (go_round
       case rel =>
        refine⟨k+1,by omega,by go_num,?_⟩;unfold Hid;rw[ST.out];unfold Ln.okB;rw[decide_eq_true_eq]
        first|omega|(simp_all;done)|(simp_all;omega)
       case measure=>simp[intOf];omega)
    | (go_ret2
       refine Ya (SP.out ?_);rw[ST.out];unfold Ln.okB;rw[decide_eq_false_iff_not]
       first|omega|(simp_all;done)|(simp_all;omega))
  ·obtain rfl:k=s.size:=by omega
   have LD3:Hid (Ln.lines s=if 1000 < (Ln.go s s.size 0 0).length then ([],10) else (Ln.go s s.size 0 0,0)):=(by unfold Hid;rw[LD2.out,if_neg (by rw[HG.out];simp)]);have GL:Hid ((Ln.go s s.size 0 0).length≤s.size+1):=Ln.go_len s s.size 0 0;obtain⟨G,hG⟩:∃G,Ln.go s s.size 0 0=G:=⟨_,rfl⟩;have HGE:=hid hG;rw[hG] at LD3 GL;clear LD2 HG hG hk qN;go_wp2_with fail
   go_loopw [5,6,7] (fun l f i wr=>∃(k m:Nat) (D:List ByteArray),k≤s.size∧m≤k∧i=.int .i64 k∧f=.int .i64 m∧Hid (wr.ownsRow w.heap.size 9 1 l D.length (kQ D)∧D++Ln.go s (s.size - k) k m=G∧D.length≤k∧Below w.heap.size w wr)) (fun _ _ i _=>s.size - (intOf i).toNat)
   case atStart=>exact⟨0,0,[],Nat.zero_le _,Nat.le_refl _,rfl,rfl,World.ownsRow_nil _ _ _ _,by rw[Nat.sub_zero,List.nil_append];exact HGE.out,Nat.le_refl _,Below.refl _ _⟩
   case round =>
    obtain⟨k,m,D,hk,hm,rfl,rfl,HR⟩:=hrel;have OW:=hid HR.out.1;have GE:=hid HR.out.2.1;have DL:=hid HR.out.2.2.1;have BW:=hid HR.out.2.2.2;clear HR
    by_cases qN:k < s.size
    ·have hi:(k:Int) < (s.size:Int):=by omega
     have STEP:Hid (Ln.go s (s.size - k) k m=if (s[k]).toNat=10 then s.extract m k :: Ln.go s (s.size - (k+1)) (k+1) (k+1) else Ln.go s (s.size - (k+1)) (k+1) m):=by
      unfold Hid;obtain⟨n,hn⟩:∃n,s.size - k=n+1:=⟨s.size - k - 1,by omega⟩;rw[hn,show s.size - (k+1)=n by omega,← getD_at s k qN];rfl
     obtain⟨c,hc⟩:∃c:UInt8,s[k]=c:=⟨_,rfl⟩;rw[hc] at STEP
     by_cases h10:c.toNat=10
     ·have n10:(c.toNat:Int)=10:=by omega
      have GE2:Hid (D++[s.extract m k]++Ln.go s (s.size - (k+1)) (k+1) (k+1)=G):=by
       unfold Hid;rw[← GE.out,STEP.out,if_pos h10,List.append_assoc];rfl
      clear STEP h10;have hm1:(m:Int)≤(k:Int):=(by omega);have hk1:(k:Int)≤(s.size:Int):=(by omega);obtain⟨pv,cv,hv⟩:=qS OW.out;subst hv;have W4:=hid (own_below OW.out ((Below.refl wr.heap.size wr).alloc (Nat.le_refl _) (.cells #[.string (s.extract m k)] 9)));go_wp2_with (at_builtin;refine wpList_append_own_at _ rfl _ _ 73 rfl w.heap.size 9 i0 (.string ⟨#[]⟩) 1 16 Tryz.underlying73 hi0 hz0 hz1 hz2 rfl (by decide) (.slice pv D.length cv) D.length (kQ D) rfl W4.out ⟨wr.heap.size,0,none⟩ 1 1 [.string (s.extract m k)] rfl rfl (by intro q u hu;cases q with|zero=>(simp at hu;subst hu;simp[Addr.add,go_sem])|succ q=>simp at hu) (by intro u hu;simp at hu;subst hu;rfl) (by have:=DL.out;unfold maxLen;omega) (by have:=DL.out;omega) (by have:=BW.out.size;simp;omega) ?_;intro v' we qB qe _ _;obtain⟨pn,cn,hvn⟩:=qS qB;subst hvn;have B5:Hid (Below w.heap.size w we):=(BW.out.alloc BW.out.size _).grown qe (by have:=BW.out.size;simp;omega) (fun q hq=>(OW.out.lt q hq).1);have OW5:Hid (we.ownsRow w.heap.size 9 1 (.slice pn (D.length+1) cn) (D++[s.extract m k]).length (kQ (D++[s.extract m k]))):=(by unfold Hid;rw[kP,List.length_append];exact qB);clear qB qe)
      go_roundw
      case rel=>exact⟨k+1,k+1,D++[s.extract m k],by omega,Nat.le_refl _,by go_num,by go_num,OW5.out,GE2.out,by rw[List.length_append];exact Nat.succ_le_succ DL.out,B5.out⟩
      case measure=>simp[intOf];omega
     ·have n10:¬(c.toNat:Int)=10:=by omega
      have GE2:Hid (D++Ln.go s (s.size - (k+1)) (k+1) m=G):=by
       unfold Hid;rw[← GE.out,STEP.out,if_neg h10]
      clear STEP h10;go_wp2
      go_roundw
      case rel=>exact⟨k+1,m,D,by omega,by omega,by go_num,rfl,OW.out,GE2.out,Nat.le_succ_of_le DL.out,BW.out⟩
      case measure=>simp[intOf];omega
    ·obtain rfl:k=s.size:=by omega
     have hi:¬(s.size:Int) < (s.size:Int):=by omega
     by_cases hms:m < s.size
     ·have hm1:(m:Int) < (s.size:Int):=by omega
      have GE2:Hid (D++[s.extract m s.size]=G):=by
       unfold Hid;rw[← GE.out,Nat.sub_self]
       show _=D++(if m < s.size then [s.extract m s.size] else [])
       rw[if_pos hms]
      obtain⟨pv,cv,hv⟩:=qS OW.out;subst hv;have W4:=hid (own_below OW.out ((Below.refl wr.heap.size wr).alloc (Nat.le_refl _) (.cells #[.string (s.extract m s.size)] 9)));have LN:Hid (D.length+1=G.length):=(by unfold Hid;rw[← GE2.out,List.length_append];rfl);clear GE hms
      by_cases h3:1000 < G.length
      ·have RQ:Hid (Ln.lines s=([],10)):=by unfold Hid;rw[LD3.out,if_pos h3]
       have h31:(1000:Int) < (D.length:Int)+1:=(by have:=LN.out;omega);clear h3;go_wp2_with (at_builtin;refine wpList_append_own_at _ rfl _ _ 73 rfl w.heap.size 9 i0 (.string ⟨#[]⟩) 1 16 Tryz.underlying73 hi0 hz0 hz1 hz2 rfl (by decide) (.slice pv D.length cv) D.length (kQ D) rfl W4.out ⟨wr.heap.size,0,none⟩ 1 1 [.string (s.extract m s.size)] rfl rfl (by intro q u hu;cases q with|zero=>(simp at hu;subst hu;simp[Addr.add,go_sem])|succ q=>simp at hu) (by intro u hu;simp at hu;subst hu;rfl) (by have:=DL.out;unfold maxLen;omega) (by have:=DL.out;omega) (by have:=BW.out.size;simp;omega) ?_;intro v' we qB qe _ _;obtain⟨pn,cn,hvn⟩:=qS qB;subst hvn;have B5:Hid (Below w.heap.size w we):=(BW.out.alloc BW.out.size _).grown qe (by have:=BW.out.size;simp;omega) (fun q hq=>(OW.out.lt q hq).1);have OW5:Hid (we.ownsRow w.heap.size 9 1 (.slice pn (D.length+1) cn) (D++[s.extract m s.size]).length (kQ (D++[s.extract m s.size]))):=(by unfold Hid;rw[kP,List.length_append];exact qB);clear qB qe)
       go_ret2
       exact⟨_,by rw[RQ.out];rfl,by rw[RQ.out];exact World.ownsRow_nil _ _ _ _,B5.out⟩
      ·have RQ:Hid (Ln.lines s=(G,0)):=by unfold Hid;rw[LD3.out,if_neg h3]
       have h31:¬(1000:Int) < (D.length:Int)+1:=(by have:=LN.out;omega);clear h3;go_wp2_with (at_builtin;refine wpList_append_own_at _ rfl _ _ 73 rfl w.heap.size 9 i0 (.string ⟨#[]⟩) 1 16 Tryz.underlying73 hi0 hz0 hz1 hz2 rfl (by decide) (.slice pv D.length cv) D.length (kQ D) rfl W4.out ⟨wr.heap.size,0,none⟩ 1 1 [.string (s.extract m s.size)] rfl rfl (by intro q u hu;cases q with|zero=>(simp at hu;subst hu;simp[Addr.add,go_sem])|succ q=>simp at hu) (by intro u hu;simp at hu;subst hu;rfl) (by have:=DL.out;unfold maxLen;omega) (by have:=DL.out;omega) (by have:=BW.out.size;simp;omega) ?_;intro v' we qB qe _ _;obtain⟨pn,cn,hvn⟩:=qS qB;subst hvn;have B5:Hid (Below w.heap.size w we):=(BW.out.alloc BW.out.size _).grown qe (by have:=BW.out.size;simp;omega) (fun q hq=>(OW.out.lt q hq).1);have OW5:Hid (we.ownsRow w.heap.size 9 1 (.slice pn (D.length+1) cn) (D++[s.extract m s.size]).length (kQ (D++[s.extract m s.size]))):=(by unfold Hid;rw[kP,List.length_append];exact qB);clear qB qe)
       go_ret2
       exact⟨_,by rw[RQ.out];rfl,by rw[RQ.out,← GE2.out];exact OW5.out,B5.out⟩
     ·have hm1:¬(m:Int) < (s.size:Int):=by omega
      have GE2:Hid (D=G):=by
       unfold Hid;rw[← GE.out,Nat.sub_self]
       show _=D++(if m < s.size then [s.extract m s.size] else [])
       rw[if_neg hms,List.append_nil]
      obtain⟨pv,cv,hv⟩:=qS OW.out;subst hv;have LN:Hid (D.length=G.length):=(by unfold Hid;rw[← GE2.out]);clear GE hms
      by_cases h3:1000 < G.length
      ·have RQ:Hid (Ln.lines s=([],10)):=by unfold Hid;rw[LD3.out,if_pos h3]
       have h31:(1000:Int) < (D.length:Int):=(by have:=LN.out;omega);clear h3;go_wp2
       go_ret2
       exact⟨_,by rw[RQ.out];rfl,by rw[RQ.out];exact World.ownsRow_nil _ _ _ _,BW.out⟩
      ·have RQ:Hid (Ln.lines s=(G,0)):=by unfold Hid;rw[LD3.out,if_neg h3]
       have h31:¬(1000:Int) < (D.length:Int):=(by have:=LN.out;omega);clear h3;go_wp2
       go_ret2
       exact⟨_,by rw[RQ.out];rfl,by rw[RQ.out,← GE2.out];exact OW.out,BW.out⟩
structure Six where
 cs:List Cn
 rs:List Ru
 os:List Co
 cr:List Ch
 ls:List Li
 fs:List Of
def zf(r:Cn):List Value:=[.string r.name,.int .i64 r.a.op,.int .i64 r.a.num,.string r.a.name,.slice r.a.ptr (len r.k) r.a.cap]
def km(r:Cn):Ch:=⟨r.b,r.o,r.a,r.k⟩
def zU(a:Li):List Value:=[.string a.name,.string a.meas,.int .i64 a.most,.int .i64 a.days]
def zT(a:Of):List Value:=[.string a.name,.int .i64 a.count,.int .i64 a.days]
def qX(vs:Fin 6→Value)(D:Six):Fin 6→Rw
 | 0=>⟨85,5,vs 0,D.cs.length,D.cs.flatMap zf,D.cs.map km⟩
 | 1=>⟨87,6,vs 1,D.rs.length,D.rs.flatMap zh,D.rs.map k7⟩
 | 2=>⟨89,5,vs 2,D.os.length,D.os.flatMap zj,D.os.map kj⟩
 | 3=>⟨24,4,vs 3,D.cr.length,D.cr.flatMap jI,D.cr⟩
 | 4=>⟨91,4,vs 4,D.ls.length,D.ls.flatMap zU,[]⟩
 | 5=>⟨93,3,vs 5,D.fs.length,D.fs.flatMap zT,[]⟩
structure SixOk (D:Six):Prop where
 cs:∀x∈ D.cs,yS x.a x.k∧x.name.size≤9223372036854775807
 rs:∀x∈ D.rs,yS x.a x.k∧Bd x.sc∧x.name.size≤9223372036854775807
 os:∀x∈ D.os,yS x.a x.k∧Bd x.sc
 cr:∀x∈ D.cr,yS x.a x.k
 ls:∀x∈ D.ls,Bd x.most∧Bd x.days∧x.name.size≤9223372036854775807∧x.meas.size≤9223372036854775807
 fs:∀x∈ D.fs,Bd x.count∧Bd x.days∧x.name.size≤9223372036854775807
structure PcV (w:World) (bs cb sb:Nat) (c:Pc.PC) (vs:Fin 6→Value) (D:Six):Prop where
 box:PcB w cb c vs
 sn:SnB w sb c
 rows:RwF w (zV cb sb) bs (qX vs D)
 ecs:D.cs.map (fun x=>(x.name,Pz.nr (km x)))=c.cs
 ers:D.rs.map (fun x=>(x.sc,x.name,Pz.nr (k7 x)))=c.rs
 eos:D.os.map (fun x=>(x.sc,Pz.nr (kj x)))=c.os
 ecr:D.cr.map Pz.nr=c.cr
 els:D.ls=c.ls
 efs:D.fs=c.fs
 ok:SixOk D
 ne:cb≠sb
theorem PcV.vs{w:World}{bs cb sb:Nat}{c:Pc.PC}{vs:Fin 6→Value}{D:Six}(h:PcV w bs cb sb c vs D):∀i,∃q n z,vs i=.slice q n z:=by
 intro i
 have key:∀j:Fin 6,∃q n z,(qX vs D j).v=.slice q n z:=fun j=>by
  obtain⟨q,z,e⟩:=qS (h.rows.ow j);exact⟨q,_,z,e⟩
 match i with
 | 0=>exact key 0
 | 1=>exact key 1
 | 2=>exact key 2
 | 3=>exact key 3
 | 4=>exact key 4
 | 5=>exact key 5
theorem PcV.next{w w2:World}{bs cb sb:Nat}{c:Pc.PC}{vs:Fin 6→Value}{D:Six}(h:PcV w bs cb sb c vs D)(hb:Below w.heap.size w w2):PcV w2 bs cb sb c vs D :=
 ⟨h.box.next hb,h.sn.of_block (hb.block sb h.sn.lt) hb.size,h.rows.next hb,h.ecs,h.ers,h.eos,h.ecr,h.els,h.efs,h.ok,h.ne⟩
theorem PcV.field{w w2:World}{bs cb sb:Nat}{c d:Pc.PC}{vs:Fin 6→Value}{D:Six}(h:PcV w bs cb sb c vs D)(h1:PcB w2 cb d vs)(h2:SnB w2 sb d)(hk:KpX (zV cb sb) w w2)
 (e1:d.cs=c.cs) (e2:d.rs=c.rs) (e3:d.os=c.os) (e4:d.cr=c.cr) (e5:d.ls=c.ls) (e6:d.fs=c.fs):PcV w2 bs cb sb d vs D :=
 ⟨h1,h2,h.rows.kpx hk,h.ecs.trans e1.symm,h.ers.trans e2.symm,h.eos.trans e3.symm,h.ecr.trans e4.symm,h.els.trans e5.symm,h.efs.trans e6.symm,h.ok,h.ne⟩
theorem PcV.av{w:World}{bs cb sb:Nat}{c:Pc.PC}{vs:Fin 6→Value}{D:Six}(h:PcV w bs cb sb c vs D){T:Fo}{B:Nat}(hT:FoAv (fun g=>w.heap.size≤g) T B):FoAv (fun g=>¬zV cb sb g∧∀j,(qX vs D j).v.ownBlock≠some g) T B :=
 hT.mono fun g q=>⟨fun x=>by
  have h1:=h.box.lt;have h2:=h.sn.lt;rcases x with rfl|rfl<;>omega,fun j e=>by have:=((h.rows.ow j).lt g e).2;omega⟩
theorem JG{n:Nat}{T:Fo}{B:Nat}(h:∀r,r < n→Pz.FNe r T B):FoAv (fun g=>n≤g) T B:=by
 induction T generalizing B with
 | nil=>trivial
 | node b o a k r ihk ihr =>
   refine⟨?_,ihk fun r hr=>(h r hr).2.1,ihr fun r hr=>(h r hr).2.2⟩;rcases Nat.lt_or_ge B n with q|q
   ·exact absurd rfl (h B q).1
   ·exact q
theorem Jh(vs:Fin 6→Value)(D:Six)(v:Value)(x:Cn):yK (qX vs D) 0 ⟨85,5,v,D.cs.length+1,D.cs.flatMap zf++zf x,D.cs.map km++[km x]⟩=qX (qO vs 0 v) { D with cs:=D.cs++[x] }:=by
 funext j
 match j with
 | 0=>simp[yK,qX,qO]
 | 1=>simp[yK,qX,qO]
 | 2=>simp[yK,qX,qO]
 | 3=>simp[yK,qX,qO]
 | 4=>simp[yK,qX,qO]
 | 5=>simp[yK,qX,qO]
theorem Jg(vs:Fin 6→Value)(D:Six)(v:Value)(x:Ru):yK (qX vs D) 1 ⟨87,6,v,D.rs.length+1,D.rs.flatMap zh++zh x,D.rs.map k7++[k7 x]⟩=qX (qO vs 1 v) { D with rs:=D.rs++[x] }:=by
 funext j
 match j with
 | 0=>simp[yK,qX,qO]
 | 1=>simp[yK,qX,qO]
 | 2=>simp[yK,qX,qO]
 | 3=>simp[yK,qX,qO]
 | 4=>simp[yK,qX,qO]
 | 5=>simp[yK,qX,qO]
theorem Jf(vs:Fin 6→Value)(D:Six)(v:Value)(x:Co):yK (qX vs D) 2 ⟨89,5,v,D.os.length+1,D.os.flatMap zj++zj x,D.os.map kj++[kj x]⟩=qX (qO vs 2 v) { D with os:=D.os++[x] }:=by
 funext j
 match j with
 | 0=>simp[yK,qX,qO]
 | 1=>simp[yK,qX,qO]
 | 2=>simp[yK,qX,qO]
 | 3=>simp[yK,qX,qO]
 | 4=>simp[yK,qX,qO]
 | 5=>simp[yK,qX,qO]
theorem Je(vs:Fin 6→Value)(D:Six)(v:Value)(x:Ch):yK (qX vs D) 3 ⟨24,4,v,D.cr.length+1,D.cr.flatMap jI++jI x,D.cr++[x]⟩=qX (qO vs 3 v) { D with cr:=D.cr++[x] }:=by
 funext j
 match j with
 | 0=>simp[yK,qX,qO]
 | 1=>simp[yK,qX,qO]
 | 2=>simp[yK,qX,qO]
 | 3=>simp[yK,qX,qO]
 | 4=>simp[yK,qX,qO]
 | 5=>simp[yK,qX,qO]
theorem Jd(vs:Fin 6→Value)(D:Six)(v:Value)(x:Li):yK (qX vs D) 4 ⟨91,4,v,D.ls.length+1,D.ls.flatMap zU++zU x,[]++[]⟩=qX (qO vs 4 v) { D with ls:=D.ls++[x] }:=by
 funext j
 match j with
 | 0=>simp[yK,qX,qO]
 | 1=>simp[yK,qX,qO]
 | 2=>simp[yK,qX,qO]
 | 3=>simp[yK,qX,qO]
 | 4=>simp[yK,qX,qO]
 | 5=>simp[yK,qX,qO]
theorem Jc(vs:Fin 6→Value)(D:Six)(v:Value)(x:Of):yK (qX vs D) 5 ⟨93,3,v,D.fs.length+1,D.fs.flatMap zT++zT x,[]++[]⟩=qX (qO vs 5 v) { D with fs:=D.fs++[x] }:=by
 funext j
 match j with
 | 0=>simp[yK,qX,qO]
 | 1=>simp[yK,qX,qO]
 | 2=>simp[yK,qX,qO]
 | 3=>simp[yK,qX,qO]
 | 4=>simp[yK,qX,qO]
 | 5=>simp[yK,qX,qO]
theorem PcB.like{w:World}{g:Nat}{c d:Pc.PC}{vs:Fin 6→Value}(h:PcB w g c vs)(e0:d.rep=c.rep)(e1:d.rel=c.rel)(e2:d.con=c.con)(e3:d.sit=c.sit)(e4:d.lay=c.lay)(e5:d.nf=c.nf)(e6:d.nt=c.nt)(e7:d.gua=c.gua):PcB w g d vs :=
 ⟨by rw[e0];exact h.c0,by rw[e1];exact h.c1,by rw[e2];exact h.c2,by rw[e3];exact h.c3,by rw[e4];exact h.c4,by rw[e5];exact h.c5,by rw[e6];exact h.c6,h.c7,h.c8,h.c9,h.c10,h.c11,h.c12,by rw[e7];exact h.c13,h.f0,h.f1,h.f2,h.f3,h.f4,h.f5,h.f6,h.f7,h.f8,h.f9,h.f10,h.f11,h.f12,h.f13,h.n,h.lt⟩
theorem SnB.app{w w2:World}{sb cb k:Nat}{u:Value}{c:Pc.PC}{row:Option Nat}(h:SnB w sb c)(hg:w.grownBy w2 row)(hn:some sb≠row)(hne:cb≠sb):SnB (w2.setCell ⟨cb,k,none⟩ u) sb c :=
 SnB.of_block (h.of_block (hg.block sb h.lt hn) hg.size) (Below.heap_setCell w2 ⟨cb,k,none⟩ u sb (fun e=>hne e.symm)) (by simp[World.setCell])
theorem PcV.app0{w w2:World}{bs cb sb:Nat}{c:Pc.PC}{vs:Fin 6→Value}{D:Six}{v':Value}(h:PcV w bs cb sb c vs D)(x:Cn)(hx:ExAt w x.b x.o x.a x.k)(ha:FoAv (fun g=>¬zV cb sb g∧∀j,(qX vs D j).v.ownBlock≠some g) x.k x.b)(hok:yS x.a x.k∧x.name.size≤9223372036854775807)
 (ho:w2.ownsRow bs 85 5 v' (D.cs.length+1) (D.cs.flatMap zf++zf x)) (hg:w.grownBy w2 (vs 0).ownBlock) (hob:v'.ownBlock=(vs 0).ownBlock∨v'.ownBlock=some w.heap.size) :
 PcV (w2.setCell ⟨cb,7,none⟩ v') bs cb sb { c with cs:=c.cs++[(x.name,Pz.nr (km x))] } (qO vs 0 v') { D with cs:=D.cs++[x] }:=by
 have own:=h.rows.ow 0;have nc:some cb≠(vs 0).ownBlock:=fun e=>by have:=(own.lt cb e.symm).1;have:=h.rows.lt cb (Or.inl rfl);omega
 have ns:some sb≠(vs 0).ownBlock:=fun e=>by have:=(own.lt sb e.symm).1;have:=h.rows.lt sb (Or.inr rfl);omega
 have R:=(h.rows.app (ts:=[km x]) 0 (fun y hy=>by rw[List.mem_singleton.1 hy];exact⟨hx,ha⟩) ho hg hob).set (t:=cb) (Or.inl rfl) 7 v'
 have R2:RwF (w2.setCell ⟨cb,7,none⟩ v') (zV cb sb) bs (qX (qO vs 0 v') { D with cs:=D.cs++[x] }):=by
  rw[← Jh];exact R
 refine⟨((h.box.grown hg nc).row0 v').like rfl rfl rfl rfl rfl rfl rfl rfl,(h.sn.app hg ns h.ne).same rfl,R2,?_,?_,?_,?_,?_,?_,?_,h.ne⟩
 ·show List.map _ (D.cs++[x])=c.cs++_
  rw[List.map_append,h.ecs];rfl
 ·exact h.ers
 ·exact h.eos
 ·exact h.ecr
 ·exact h.els
 ·exact h.efs
 ·refine ⟨fun y hy=>?_,h.ok.rs,h.ok.os,h.ok.cr,h.ok.ls,h.ok.fs⟩;rcases List.mem_append.1 hy with q|q
  ·exact h.ok.cs y q
  ·rw[List.mem_singleton.1 q];exact hok
theorem PcV.app1{w w2:World}{bs cb sb:Nat}{c:Pc.PC}{vs:Fin 6→Value}{D:Six}{v':Value}(h:PcV w bs cb sb c vs D)(x:Ru)(hx:ExAt w x.b x.o x.a x.k)(ha:FoAv (fun g=>¬zV cb sb g∧∀j,(qX vs D j).v.ownBlock≠some g) x.k x.b)(hok:yS x.a x.k∧Bd x.sc∧x.name.size≤9223372036854775807)
 (ho:w2.ownsRow bs 87 6 v' (D.rs.length+1) (D.rs.flatMap zh++zh x)) (hg:w.grownBy w2 (vs 1).ownBlock) (hob:v'.ownBlock=(vs 1).ownBlock∨v'.ownBlock=some w.heap.size) :
 PcV (w2.setCell ⟨cb,8,none⟩ v') bs cb sb { c with rs:=c.rs++[(x.sc,x.name,Pz.nr (k7 x))] } (qO vs 1 v') { D with rs:=D.rs++[x] }:=by
 have own:=h.rows.ow 1;have nc:some cb≠(vs 1).ownBlock:=fun e=>by have:=(own.lt cb e.symm).1;have:=h.rows.lt cb (Or.inl rfl);omega
 have ns:some sb≠(vs 1).ownBlock:=fun e=>by have:=(own.lt sb e.symm).1;have:=h.rows.lt sb (Or.inr rfl);omega
 have R:=(h.rows.app (ts:=[k7 x]) 1 (fun y hy=>by rw[List.mem_singleton.1 hy];exact⟨hx,ha⟩) ho hg hob).set (t:=cb) (Or.inl rfl) 8 v'
 have R2:RwF (w2.setCell ⟨cb,8,none⟩ v') (zV cb sb) bs (qX (qO vs 1 v') { D with rs:=D.rs++[x] }):=by
  rw[← Jg];exact R
 refine⟨((h.box.grown hg nc).row1 v').like rfl rfl rfl rfl rfl rfl rfl rfl,(h.sn.app hg ns h.ne).same rfl,R2,?_,?_,?_,?_,?_,?_,?_,h.ne⟩
 ·exact h.ecs
 ·show List.map _ (D.rs++[x])=c.rs++_
  rw[List.map_append,h.ers];rfl
 ·exact h.eos
 ·exact h.ecr
 ·exact h.els
 ·exact h.efs
 ·refine ⟨h.ok.cs,fun y hy=>?_,h.ok.os,h.ok.cr,h.ok.ls,h.ok.fs⟩;rcases List.mem_append.1 hy with q|q
  ·exact h.ok.rs y q
  ·rw[List.mem_singleton.1 q];exact hok
theorem PcV.app2{w w2:World}{bs cb sb:Nat}{c:Pc.PC}{vs:Fin 6→Value}{D:Six}{v':Value}(h:PcV w bs cb sb c vs D)(x:Co)(hx:ExAt w x.b x.o x.a x.k)(ha:FoAv (fun g=>¬zV cb sb g∧∀j,(qX vs D j).v.ownBlock≠some g) x.k x.b)(hok:yS x.a x.k∧Bd x.sc)
 (ho:w2.ownsRow bs 89 5 v' (D.os.length+1) (D.os.flatMap zj++zj x)) (hg:w.grownBy w2 (vs 2).ownBlock) (hob:v'.ownBlock=(vs 2).ownBlock∨v'.ownBlock=some w.heap.size) :
 PcV (w2.setCell ⟨cb,9,none⟩ v') bs cb sb { c with os:=c.os++[(x.sc,Pz.nr (kj x))] } (qO vs 2 v') { D with os:=D.os++[x] }:=by
 have own:=h.rows.ow 2;have nc:some cb≠(vs 2).ownBlock:=fun e=>by have:=(own.lt cb e.symm).1;have:=h.rows.lt cb (Or.inl rfl);omega
 have ns:some sb≠(vs 2).ownBlock:=fun e=>by have:=(own.lt sb e.symm).1;have:=h.rows.lt sb (Or.inr rfl);omega
 have R:=(h.rows.app (ts:=[kj x]) 2 (fun y hy=>by rw[List.mem_singleton.1 hy];exact⟨hx,ha⟩) ho hg hob).set (t:=cb) (Or.inl rfl) 9 v'
 have R2:RwF (w2.setCell ⟨cb,9,none⟩ v') (zV cb sb) bs (qX (qO vs 2 v') { D with os:=D.os++[x] }):=by
  rw[← Jf];exact R
 refine⟨((h.box.grown hg nc).row2 v').like rfl rfl rfl rfl rfl rfl rfl rfl,(h.sn.app hg ns h.ne).same rfl,R2,?_,?_,?_,?_,?_,?_,?_,h.ne⟩
 ·exact h.ecs
 ·exact h.ers
 ·show List.map _ (D.os++[x])=c.os++_
  rw[List.map_append,h.eos];rfl
 ·exact h.ecr
 ·exact h.els
 ·exact h.efs
 ·refine ⟨h.ok.cs,h.ok.rs,fun y hy=>?_,h.ok.cr,h.ok.ls,h.ok.fs⟩;rcases List.mem_append.1 hy with q|q
  ·exact h.ok.os y q
  ·rw[List.mem_singleton.1 q];exact hok
theorem PcV.app3{w w2:World}{bs cb sb:Nat}{c:Pc.PC}{vs:Fin 6→Value}{D:Six}{v':Value}(h:PcV w bs cb sb c vs D)(x:Ch)(hx:ExAt w x.b x.o x.a x.k)(ha:FoAv (fun g=>¬zV cb sb g∧∀j,(qX vs D j).v.ownBlock≠some g) x.k x.b)(hok:yS x.a x.k)
 (ho:w2.ownsRow bs 24 4 v' (D.cr.length+1) (D.cr.flatMap jI++jI x)) (hg:w.grownBy w2 (vs 3).ownBlock) (hob:v'.ownBlock=(vs 3).ownBlock∨v'.ownBlock=some w.heap.size) :
 PcV (w2.setCell ⟨cb,10,none⟩ v') bs cb sb { c with cr:=c.cr++[(Pz.nr x)] } (qO vs 3 v') { D with cr:=D.cr++[x] }:=by
 have own:=h.rows.ow 3;have nc:some cb≠(vs 3).ownBlock:=fun e=>by have:=(own.lt cb e.symm).1;have:=h.rows.lt cb (Or.inl rfl);omega
 have ns:some sb≠(vs 3).ownBlock:=fun e=>by have:=(own.lt sb e.symm).1;have:=h.rows.lt sb (Or.inr rfl);omega
 have R:=(h.rows.app (ts:=[x]) 3 (fun y hy=>by rw[List.mem_singleton.1 hy];exact⟨hx,ha⟩) ho hg hob).set (t:=cb) (Or.inl rfl) 10 v'
 have R2:RwF (w2.setCell ⟨cb,10,none⟩ v') (zV cb sb) bs (qX (qO vs 3 v') { D with cr:=D.cr++[x] }):=by
  rw[← Je];exact R
 refine⟨((h.box.grown hg nc).row3 v').like rfl rfl rfl rfl rfl rfl rfl rfl,(h.sn.app hg ns h.ne).same rfl,R2,?_,?_,?_,?_,?_,?_,?_,h.ne⟩
 ·exact h.ecs
 ·exact h.ers
 ·exact h.eos
 ·show List.map _ (D.cr++[x])=c.cr++_
  rw[List.map_append,h.ecr];rfl
 ·exact h.els
 ·exact h.efs
 ·refine ⟨h.ok.cs,h.ok.rs,h.ok.os,fun y hy=>?_,h.ok.ls,h.ok.fs⟩;rcases List.mem_append.1 hy with q|q
  ·exact h.ok.cr y q
  ·rw[List.mem_singleton.1 q];exact hok
theorem PcV.app4{w w2:World}{bs cb sb:Nat}{c:Pc.PC}{vs:Fin 6→Value}{D:Six}{v':Value}(h:PcV w bs cb sb c vs D)(x:Li)(hok:Bd x.most∧Bd x.days∧x.name.size≤9223372036854775807∧x.meas.size≤9223372036854775807)
 (ho:w2.ownsRow bs 91 4 v' (D.ls.length+1) (D.ls.flatMap zU++zU x)) (hg:w.grownBy w2 (vs 4).ownBlock) (hob:v'.ownBlock=(vs 4).ownBlock∨v'.ownBlock=some w.heap.size) :
 PcV (w2.setCell ⟨cb,11,none⟩ v') bs cb sb { c with ls:=c.ls++[x] } (qO vs 4 v') { D with ls:=D.ls++[x] }:=by
 have own:=h.rows.ow 4;have nc:some cb≠(vs 4).ownBlock:=fun e=>by have:=(own.lt cb e.symm).1;have:=h.rows.lt cb (Or.inl rfl);omega
 have ns:some sb≠(vs 4).ownBlock:=fun e=>by have:=(own.lt sb e.symm).1;have:=h.rows.lt sb (Or.inr rfl);omega
 have R:=(h.rows.app (ts:=[]) 4 (fun y hy=>by cases hy) ho hg hob).set (t:=cb) (Or.inl rfl) 11 v'
 have R2:RwF (w2.setCell ⟨cb,11,none⟩ v') (zV cb sb) bs (qX (qO vs 4 v') { D with ls:=D.ls++[x] }):=by
  rw[← Jd];exact R
 refine⟨((h.box.grown hg nc).row4 v').like rfl rfl rfl rfl rfl rfl rfl rfl,(h.sn.app hg ns h.ne).same rfl,R2,?_,?_,?_,?_,?_,?_,?_,h.ne⟩
 ·exact h.ecs
 ·exact h.ers
 ·exact h.eos
 ·exact h.ecr
 ·show D.ls++[x]=c.ls++_
  rw[h.els]
 ·exact h.efs
 ·refine ⟨h.ok.cs,h.ok.rs,h.ok.os,h.ok.cr,fun y hy=>?_,h.ok.fs⟩;rcases List.mem_append.1 hy with q|q
  ·exact h.ok.ls y q
  ·rw[List.mem_singleton.1 q];exact hok
theorem PcV.app5{w w2:World}{bs cb sb:Nat}{c:Pc.PC}{vs:Fin 6→Value}{D:Six}{v':Value}(h:PcV w bs cb sb c vs D)(x:Of)(hok:Bd x.count∧Bd x.days∧x.name.size≤9223372036854775807)
 (ho:w2.ownsRow bs 93 3 v' (D.fs.length+1) (D.fs.flatMap zT++zT x)) (hg:w.grownBy w2 (vs 5).ownBlock) (hob:v'.ownBlock=(vs 5).ownBlock∨v'.ownBlock=some w.heap.size) :
 PcV (w2.setCell ⟨cb,12,none⟩ v') bs cb sb { c with fs:=c.fs++[x] } (qO vs 5 v') { D with fs:=D.fs++[x] }:=by
 have own:=h.rows.ow 5;have nc:some cb≠(vs 5).ownBlock:=fun e=>by have:=(own.lt cb e.symm).1;have:=h.rows.lt cb (Or.inl rfl);omega
 have ns:some sb≠(vs 5).ownBlock:=fun e=>by have:=(own.lt sb e.symm).1;have:=h.rows.lt sb (Or.inr rfl);omega
 have R:=(h.rows.app (ts:=[]) 5 (fun y hy=>by cases hy) ho hg hob).set (t:=cb) (Or.inl rfl) 12 v'
 have R2:RwF (w2.setCell ⟨cb,12,none⟩ v') (zV cb sb) bs (qX (qO vs 5 v') { D with fs:=D.fs++[x] }):=by
  rw[← Jc];exact R
 refine⟨((h.box.grown hg nc).row5 v').like rfl rfl rfl rfl rfl rfl rfl rfl,(h.sn.app hg ns h.ne).same rfl,R2,?_,?_,?_,?_,?_,?_,?_,h.ne⟩
 ·exact h.ecs
 ·exact h.ers
 ·exact h.eos
 ·exact h.ecr
 ·exact h.els
 ·show D.fs++[x]=c.fs++_
  rw[h.efs]
 ·refine ⟨h.ok.cs,h.ok.rs,h.ok.os,h.ok.cr,h.ok.ls,fun y hy=>?_⟩;rcases List.mem_append.1 hy with q|q
  ·exact h.ok.fs y q
  ·rw[List.mem_singleton.1 q];exact hok
end Go.Proofs.YtcejjdmnlejbaaaGreatDoor
