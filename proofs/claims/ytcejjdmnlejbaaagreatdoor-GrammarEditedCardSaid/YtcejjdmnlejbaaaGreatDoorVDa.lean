import Derived.Test.YtcejjdmnlejbaaaGreatDoorVPcj
import Derived.Test.YtcejjdmnlejbaaaGreatDoorVCrW
import Derived.Test.YtcejjdmnlejbaaaGreatDoorVPl3
namespace Go.Proofs.YtcejjdmnlejbaaaGreatDoor
set_option linter.unusedVariables false
set_option linter.unusedSimpArgs false
open Go.ChangeShapes Go.WideShapes Go.ChangeAt Go.RowKit
open Go.Deep (BT)
theorem ya(w:World)(o:Obj):Below w.heap.size w (w.alloc o):=(Below.refl _ _).alloc (Nat.le_refl _) o
def restT(c:Pc.PC)(L:List Tk.T4)(tx:ByteArray):Pc.PC× Int :=
 if tx=Pc.wConst∧Pc.nmd L 1=true∧Pc.isW L 2 Pc.wIs=true then Pc.ifEx c (L.drop 3) fun x=>{ c with cs:=c.cs++[((Pc.tok L 1).text,x)] } else
 if Pc.scopeT tx≠0∧Pc.isW L 1 Pc.wRule=true∧Pc.nmd L 2=true∧Pc.isW L 3 Pc.wIs=true then Pc.ifEx c (L.drop 4) fun x=>{ c with rs:=c.rs++[(Pc.scopeT tx,(Pc.tok L 2).text,x)] } else
 if Pc.scopeT tx≠0∧Pc.isW L 1 Pc.wCost=true∧Pc.isW L 2 Pc.wIs=true then Pc.ifEx c (L.drop 3) fun x=>{ c with os:=c.os++[(Pc.scopeT tx,x)] } else
 if tx=Pc.wDuty∧Pc.isW L 1 Pc.wCredit=true∧Pc.isW L 2 Pc.wIs=true then Pc.ifEx c (L.drop 3) fun x=>{ c with cr:=c.cr++[x] } else
 if tx=Pc.wLimit∧L.length=8∧Pc.nmd L 1=true∧Pc.isW L 2 Pc.wIs=true∧Pc.kd L 3 1=true∧Pc.isW L 5 Pc.wIn=true∧Pc.kd L 6 2=true∧Pc.isW L 7 Pc.wDays=true then
  (if (yn (Pc.tok L 3).text=2∧Pc.kd L 4 3=true)∨(yn (Pc.tok L 3).text=1∧Pc.kd L 4 2=true) then ({ c with ls:=c.ls++[⟨(Pc.tok L 1).text,(Pc.tok L 3).text,(Pc.tok L 4).num,(Pc.tok L 6).num⟩] },0) else (c,1)) else
 if tx=Pc.wOff∧L.length=7∧Pc.nmd L 1=true∧Pc.isW L 2 Pc.wIs=true∧Pc.kd L 3 2=true∧Pc.isW L 4 Pc.wIn=true∧Pc.kd L 5 2=true∧Pc.isW L 6 Pc.wDays=true then ({ c with fs:=c.fs++[⟨(Pc.tok L 1).text,(Pc.tok L 3).num,(Pc.tok L 5).num⟩] },0) else
 (c,1)
theorem jf{c:Pc.PC}{L:List Tk.T4}(hk:Pc.kd L 0 1=true)(hF:Pc.fieldsL.findIdx? (fun s=>decide (s=(Pc.tok L 0).text))=none):Pc.declT c L=restT c L (Pc.tok L 0).text:=by
 unfold Pc.declT;rw[if_neg (by rw[hk];decide),hF];rfl
theorem yd:¬Pc.wConst=Pc.wDuty∧¬Pc.wConst=Pc.wLimit∧¬Pc.wConst=Pc.wOff∧¬Pc.wConst=Pc.wRest∧¬Pc.wConst=Pc.wPairing∧¬Pc.wDuty=Pc.wConst∧¬Pc.wDuty=Pc.wLimit∧¬Pc.wDuty=Pc.wOff∧¬Pc.wDuty=Pc.wRest∧¬Pc.wDuty=Pc.wPairing∧¬Pc.wRest=Pc.wConst∧¬Pc.wRest=Pc.wDuty∧¬Pc.wRest=Pc.wLimit∧¬Pc.wRest=Pc.wOff∧¬Pc.wRest=Pc.wPairing∧¬Pc.wPairing=Pc.wConst∧¬Pc.wPairing=Pc.wDuty∧¬Pc.wPairing=Pc.wLimit∧¬Pc.wPairing=Pc.wOff∧¬Pc.wPairing=Pc.wRest∧¬Pc.wLimit=Pc.wConst∧¬Pc.wLimit=Pc.wDuty∧¬Pc.wLimit=Pc.wOff∧¬Pc.wLimit=Pc.wRest∧¬Pc.wLimit=Pc.wPairing∧¬Pc.wOff=Pc.wConst∧¬Pc.wOff=Pc.wDuty∧¬Pc.wOff=Pc.wLimit∧¬Pc.wOff=Pc.wRest∧¬Pc.wOff=Pc.wPairing∧Pc.scopeT Pc.wConst=0∧Pc.scopeT Pc.wDuty=1∧Pc.scopeT Pc.wRest=2∧Pc.scopeT Pc.wPairing=3∧Pc.scopeT Pc.wLimit=0∧Pc.scopeT Pc.wOff=0:=by decide
theorem isw_lt{L:List Tk.T4}{i:Nat}{s:ByteArray}(h:Pc.isW L i s=true):i < L.length:=by
 apply Classical.byContradiction;intro q;unfold Pc.isW at h;rw[Q3 q 1] at h;cases h
theorem uD{L:List Tk.T4}{i:Nat}{k:Int}(h:Pc.kd L i k=true):i < L.length:=by
 apply Classical.byContradiction;intro q;rw[Q3 q k] at h;cases h
theorem zQ{P:Program}(w:World){ops:Array Oper}{o:Oper}{a:Act}{K:Act→World→Prop}{Q:Exit→Act→World→Prop}{E:Prop}(hgd:o.guard=none)(s x:Operand)(t:TypeId)
 (ho:o.op=.call { callee:=.builtin .append,args:=#[s,x],argTypes:=#[t,t] })
 (base:Nat) (e:TypeId) (i:TypeInfo) (z:Value) (size bytes:Nat) (ht:P.underlying t=some (.slice e)) (hi:P.info? e=some i) (hz:i.zero=some z)
 (hsize:i.size=size) (hby:i.bytes=bytes) (hzs:z.cells.size=size) (yD:0 < size)
 (v:Value) (n:Nat) (xs:List Value) (hs:a.eval s=v) (qB:w.ownsRow base e size v n xs)
 (ad:Addr) (m c:Nat) (news:List Value) (hx:a.eval x=.slice (some ad) m c) (hl:news.length=m * size) (hnews:∀j u,news[j]?=some u→w.cell? (ad.add j)=some u) (h1:∀u∈ news,u.oneCell'=true)
 (h63:n+m≤maxLen) (hbytes:(n+m) * bytes≤140737488355328) (hbase:base≤w.heap.size)
 (h:∀v' w',w'.ownsRow base e size v' (n+m) (xs++news)→w.grownBy w' v.ownBlock→(v'.ownBlock=v.ownBlock∨v'.ownBlock=some w.heap.size)→K (a.put o.dst v') w') :
 if Region.wanted o (yielded ops a.tmps)=true then Oper.wp P o a w K Q else E:=by
 have hw:Region.wanted o (yielded ops a.tmps)=true:=by simp[Region.wanted,hgd]
 rw[if_pos hw];obtain⟨v',w',hr,h2,h3,_,h5⟩:=run_append_own_at (P:=P) w base t o.type e i z size bytes ht hi hz hsize hby hzs yD v n xs qB ad m c news hl hnews h1 h63 hbytes hbase;unfold Oper.wp execOp;simp only[ho,resolve,invoke,builtin,Sem.run_bind,Sem.run_pure,Result.andThen_ok,List.map_toArray,List.map_cons,List.map_nil,hs,hx,hr];exact h v' w' h2 h3 h5
theorem Tryz.infoCnP:(Tryz.prog.info? 85).map (fun i=>(i.zero,i.size,i.bytes))=some (some (.agg #[.string ⟨#[]⟩,.int .i64 0,.int .i64 0,.string ⟨#[]⟩,.slice none 0 0]),5,72):=by kernel_rfl
theorem Tryz.infoRuP:(Tryz.prog.info? 87).map (fun i=>(i.zero,i.size,i.bytes))=some (some (.agg #[.int .i64 0,.string ⟨#[]⟩,.int .i64 0,.int .i64 0,.string ⟨#[]⟩,.slice none 0 0]),6,80):=by kernel_rfl
theorem Tryz.infoCoP:(Tryz.prog.info? 89).map (fun i=>(i.zero,i.size,i.bytes))=some (some (.agg #[.int .i64 0,.int .i64 0,.int .i64 0,.string ⟨#[]⟩,.slice none 0 0]),5,64):=by kernel_rfl
theorem Tryz.infoXpP:(Tryz.prog.info? 24).map (fun i=>(i.zero,i.size,i.bytes))=some (some (.agg #[.int .i64 0,.int .i64 0,.string ⟨#[]⟩,.slice none 0 0]),4,56):=by kernel_rfl
theorem Tryz.infoLiP:(Tryz.prog.info? 91).map (fun i=>(i.zero,i.size,i.bytes))=some (some (.agg #[.string ⟨#[]⟩,.string ⟨#[]⟩,.int .i64 0,.int .i64 0]),4,48):=by kernel_rfl
theorem Tryz.infoOfP:(Tryz.prog.info? 93).map (fun i=>(i.zero,i.size,i.bytes))=some (some (.agg #[.string ⟨#[]⟩,.int .i64 0,.int .i64 0]),3,32):=by kernel_rfl
theorem kO:yM []=0:=by kernel_rfl
theorem v9(r:Cn):∀u∈ zf r,u.oneCell'=true:=by
 intro u hu;simp only[zf,List.mem_cons,List.not_mem_nil,or_false] at hu;rcases hu with rfl|rfl|rfl|rfl|rfl<;>rfl
theorem v6(r:Ru):∀u∈ zh r,u.oneCell'=true:=by
 intro u hu;simp only[zh,List.mem_cons,List.not_mem_nil,or_false] at hu;rcases hu with rfl|rfl|rfl|rfl|rfl|rfl<;>rfl
theorem v8(r:Co):∀u∈ zj r,u.oneCell'=true:=by
 intro u hu;simp only[zj,List.mem_cons,List.not_mem_nil,or_false] at hu;rcases hu with rfl|rfl|rfl|rfl|rfl<;>rfl
theorem Y8(r:Li):∀u∈ zU r,u.oneCell'=true:=by
 intro u hu;simp only[zU,List.mem_cons,List.not_mem_nil,or_false] at hu;rcases hu with rfl|rfl|rfl|rfl<;>rfl
theorem Y7(r:Of):∀u∈ zT r,u.oneCell'=true:=by
 intro u hu;simp only[zT,List.mem_cons,List.not_mem_nil,or_false] at hu;rcases hu with rfl|rfl|rfl<;>rfl
theorem jn(w:World)(x:Ch):∃wa,w.alloc (.cells #[.int .i64 x.a.op,.int .i64 x.a.num,.string x.a.name,.slice x.a.ptr (len x.k) x.a.cap] 24)=wa∧Below w.heap.size w wa∧wa.cell? ⟨w.heap.size,0,none⟩=some (.int .i64 x.a.op)∧wa.cell? ⟨w.heap.size,1,none⟩=some (.int .i64 x.a.num)∧wa.cell? ⟨w.heap.size,2,none⟩=some (.string x.a.name)∧wa.cell? ⟨w.heap.size,3,none⟩=some (.slice x.a.ptr (len x.k) x.a.cap) :=
 ⟨_,rfl,ya _ _,by simp[go_sem],by simp[go_sem],by simp[go_sem],by simp[go_sem]⟩
theorem xF{L:List Tk.T4}(hs:∀t∈ L,t.t.text.size≤9223372036854775807)(i:Nat):(Pc.tok L i).text.size≤9223372036854775807:=by
 unfold Pc.tok;cases h:L[i]? with
 | none=>show(0:Nat)≤_;omega
 | some t=>exact hs t (List.mem_of_getElem? h)
theorem tok_num{L:List Tk.T4}(hV:∀t∈ L,VT t.t)(i:Nat):0≤(Pc.tok L i).num∧(Pc.tok L i).num≤1099511627776:=by
 unfold Pc.tok;cases h:L[i]? with
 | none=>exact⟨by show(0:Int)≤0;omega,by show(0:Int)≤_;omega⟩
 | some t =>
   have q:=hV t (List.mem_of_getElem? h)
   show 0≤t.t.num∧t.t.num≤_
   rcases q with q|q|q|q<;>omega
theorem tok_bd{L:List Tk.T4}(hV:∀t∈ L,VT t.t)(i:Nat):Bd (Pc.tok L i).num:=by
 have:=tok_num hV i;unfold Bd;omega
theorem PcV.len{w:World}{bs cb sb:Nat}{c:Pc.PC}{vs:Fin 6→Value}{D:Six}(h:PcV w bs cb sb c vs D):D.cs.length≤Pc.cnt c∧D.rs.length≤Pc.cnt c∧D.os.length≤Pc.cnt c∧D.cr.length≤Pc.cnt c∧D.ls.length≤Pc.cnt c∧D.fs.length≤Pc.cnt c:=by
 have e1:=congrArg List.length h.ecs;have e2:=congrArg List.length h.ers;have e3:=congrArg List.length h.eos;have e4:=congrArg List.length h.ecr;have e5:=congrArg List.length h.els;have e6:=congrArg List.length h.efs;simp only[List.length_map] at e1 e2 e3 e4;unfold Pc.cnt;omega
theorem yE{n cb:Nat}{w w1 w2:World}{row:Option Nat}(h:Below n w w1)(hn:n≤w.heap.size)(hg:w1.grownBy w2 row)(hr:∀g,row=some g→n≤g)(hc:n≤cb)(k:Nat)(u:Value):Below n w (w2.setCell ⟨cb,k,none⟩ u):=by
 have h2:Below n w w2:=⟨hg.os.trans h.os,hg.tape.trans h.tape,hg.output.trans h.output,Nat.le_trans h.size hg.size,fun q hq=>(hg.block q (by have:=h.size;omega) (fun e=>by have:=hr q e.symm;omega)).trans (h.block q hq)⟩;exact h2.setCell (p:=⟨cb,k,none⟩) hc u
theorem zr{L:List Tk.T4}{w w':World}{e:Ending}(hV:∀t∈ L,VT t.t)(hL:L.length≤400)(h:Uu L w e w'):∃c:Ch,e=.returned (.tuple #[.agg #[.int .i64 c.a.op,.int .i64 c.a.num,.string c.a.name,.slice c.a.ptr (len c.k) c.a.cap],.int .i64 (yM L)])∧Below w.heap.size w w'∧(yM L < 0→Pz.nr c=Pc.tree L∧ExAt w' c.b c.o c.a c.k∧FoAv (fun g=>w.heap.size≤g) c.k c.b∧yS c.a c.k):=by
 obtain⟨c,h1,h2,h3⟩:=J8 h;refine⟨c,h1,h2,fun q=>?_⟩;obtain⟨q1,q2,q3⟩:=h3 q;refine⟨q1,q2,q3,?_⟩;unfold yM at q;unfold Pc.tree at q1;cases hp:Pz.pv L .ex 0 with
 | mk o j =>
   rw[hp] at q q1;cases o with
   | none=>dsimp only at q;omega
   | some x=>exact((Pz.ex_good hV hL hp).of_nr q1).ok
section
variable {ρ:Operand→Value}{d:Option Tmp}{ty:TypeId}{pos:String}{af:Array Edge}{gd:Option (Nat×Bool)}{w:World}
theorem qL(x:Operand)(p:Addr)(h:ρ x=.pointer (some p)):(execOp ρ ⟨d,.nilCheck x,ty,pos,af,gd⟩).run Tryz.prog w=.ok (.value (.pointer (some p))) w:=by
 simp only[execOp,h];go_simp
theorem yX(x:Operand)(b k i:Nat)(hi:i=8∨i=9∨i=11∨i=12)(h:ρ x=.pointer (some ⟨b,0,none⟩)):(execOp ρ ⟨d,.fieldAddr 43 x i,ty,pos,af,gd⟩).run Tryz.prog w=.ok (.value (.pointer (some ⟨b,i,none⟩))) w:=by
 rcases hi with rfl|rfl|rfl|rfl
 ·simp only [execOp,h];go_simp
 ·simp only [execOp,h];go_simp
 ·simp only [execOp,h];go_simp
 ·simp only [execOp,h];go_simp
theorem yA(x:Operand)(b k i:Nat)(hi:i=1∨i=2)(h:ρ x=.pointer (some ⟨b,k,none⟩)):(execOp ρ ⟨d,.fieldAddr 68 x i,ty,pos,af,gd⟩).run Tryz.prog w=.ok (.value (.pointer (some ⟨b,k+i,none⟩))) w:=by
 rcases hi with rfl|rfl
 ·simp only [execOp,h];go_simp
 ·simp only [execOp,h];go_simp
theorem yI(x:Operand)(b k n c i:Nat)(hc:ρ (.const (.int .i64 i))=.int .i64 i)(hi:i < n)(h:ρ x=.slice (some ⟨b,k,none⟩) n c):(execOp ρ ⟨d,.indexAddr 56 x (.const (.int .i64 i)),ty,pos,af,gd⟩).run Tryz.prog w=.ok (.value (.pointer (some ⟨b,k+i * 4,none⟩))) w:=by
 have h1:(i:Int) < (n:Int):=by omega
 simp only[execOp,h,hc];go_simp
theorem ye(x:Operand)(p:Addr)(T:TypeId)(hT:T = 9∨T = 3∨T = 40∨T = 41∨T = 38∨T = 39)(v:Value)(h:ρ x=.pointer (some p))(hv:w.cell? p=some v):(execOp ρ ⟨d,.load T x,ty,pos,af,gd⟩).run Tryz.prog w=.ok (.value v) w:=by
 rcases hT with rfl|rfl|rfl|rfl|rfl|rfl
 ·simp only [execOp,h];go_simp
 ·simp only [execOp,h];go_simp
 ·simp only [execOp,h];go_simp
 ·simp only [execOp,h];go_simp
 ·simp only [execOp,h];go_simp
 ·simp only [execOp,h];go_simp
theorem vF(a b c e:Operand)(x y:ByteArray)(m n:Int)(h1:ρ a=.string x)(h2:ρ b=.string y)(h3:ρ c=.int .i64 m)(h4:ρ e=.int .i64 n):(execOp ρ ⟨d,.build 91 #[(0,a),(1,b),(2,c),(3,e)],ty,pos,af,gd⟩).run Tryz.prog w=.ok (.value (.agg #[.string x,.string y,.int .i64 m,.int .i64 n])) w:=by
 simp only[execOp,List.map_toArray,List.map,h1,h2,h3,h4];go_simp
theorem vE(a c e:Operand)(x:ByteArray)(m n:Int)(h1:ρ a=.string x)(h3:ρ c=.int .i64 m)(h4:ρ e=.int .i64 n):(execOp ρ ⟨d,.build 93 #[(0,a),(1,c),(2,e)],ty,pos,af,gd⟩).run Tryz.prog w=.ok (.value (.agg #[.string x,.int .i64 m,.int .i64 n])) w:=by
 simp only[execOp,List.map_toArray,List.map,h1,h3,h4];go_simp
theorem xH(a b c:Operand)(m:Int)(x:ByteArray)(u0 u1 u2 u3:Value)(h1:ρ a=.int .i64 m)(h2:ρ b=.string x)(h3:ρ c=.agg #[u0,u1,u2,u3]):(execOp ρ ⟨d,.build 87 #[(0,a),(1,b),(2,c)],ty,pos,af,gd⟩).run Tryz.prog w=.ok (.value (.agg #[.int .i64 m,.string x,u0,u1,u2,u3])) w:=by
 simp only[execOp,List.map_toArray,List.map,h1,h2,h3];go_simp
theorem xI(a c:Operand)(m:Int)(u0 u1 u2 u3:Value)(h1:ρ a=.int .i64 m)(h3:ρ c=.agg #[u0,u1,u2,u3]):(execOp ρ ⟨d,.build 89 #[(0,a),(1,c)],ty,pos,af,gd⟩).run Tryz.prog w=.ok (.value (.agg #[.int .i64 m,u0,u1,u2,u3])) w:=by
 simp only[execOp,List.map_toArray,List.map,h1,h3];go_simp
theorem uS(a:Operand)(u0 u1 u2 u3 u4 u5:Value)(h:ρ a=.agg #[u0,u1,u2,u3,u4,u5]):(execOp ρ ⟨d,.buildSlice 38 1 #[(0,a)],ty,pos,af,gd⟩).run Tryz.prog w=.ok (.value (.slice (some ⟨w.heap.size,0,none⟩) 1 1)) (w.alloc (.cells #[u0,u1,u2,u3,u4,u5] 87)):=by
 simp only[execOp,List.map_toArray,List.map,h];go_simp
theorem uT(a:Operand)(u0 u1 u2 u3 u4:Value)(h:ρ a=.agg #[u0,u1,u2,u3,u4]):(execOp ρ ⟨d,.buildSlice 39 1 #[(0,a)],ty,pos,af,gd⟩).run Tryz.prog w=.ok (.value (.slice (some ⟨w.heap.size,0,none⟩) 1 1)) (w.alloc (.cells #[u0,u1,u2,u3,u4] 89)):=by
 simp only[execOp,List.map_toArray,List.map,h];go_simp
theorem QU(a:Operand)(u0 u1 u2 u3:Value)(h:ρ a=.agg #[u0,u1,u2,u3]):(execOp ρ ⟨d,.buildSlice 40 1 #[(0,a)],ty,pos,af,gd⟩).run Tryz.prog w=.ok (.value (.slice (some ⟨w.heap.size,0,none⟩) 1 1)) (w.alloc (.cells #[u0,u1,u2,u3] 91)):=by
 simp only[execOp,List.map_toArray,List.map,h];go_simp
theorem QT(a:Operand)(u0 u1 u2:Value)(h:ρ a=.agg #[u0,u1,u2]):(execOp ρ ⟨d,.buildSlice 41 1 #[(0,a)],ty,pos,af,gd⟩).run Tryz.prog w=.ok (.value (.slice (some ⟨w.heap.size,0,none⟩) 1 1)) (w.alloc (.cells #[u0,u1,u2] 93)):=by
 simp only[execOp,List.map_toArray,List.map,h];go_simp
theorem zJ(x y:Operand)(p:Addr)(T:TypeId)(hT:T = 40∨T = 41∨T = 38∨T = 39)(q:Option Addr)(n c:Nat)(o:Value)(h:ρ x=.pointer (some p))(h':ρ y=.slice q n c)(hc:w.cell? p=some o)(hf:w.frozen? p=false):(execOp ρ ⟨none,.store T x y,ty,pos,af,gd⟩).run Tryz.prog w=.ok .skip (w.setCell p (.slice q n c)):=by
 rcases hT with rfl|rfl|rfl|rfl
 ·simp only [execOp,h,h'];go_simp
 ·simp only [execOp,h,h'];go_simp
 ·simp only [execOp,h,h'];go_simp
 ·simp only [execOp,h,h'];go_simp
end
inductive Wl where
 | eq (v:Value)
 | row (B:Nat) (l:List Value)
 | any
def Wl.ok:Wl→Value→World→Prop
 | .eq u,v,_=>v=u
 | .row B l,v,w=>∃b,v=.slice (some ⟨b,0,none⟩) 1 1∧B≤b∧b < w.heap.size∧∀j u,l[j]?=some u→w.cell? ⟨b,j,none⟩=some u
 | .any,_,_=>True
theorem Wl.ext{x:Wl}{v:Value}{w w':World}(h:x.ok v w)(he:Ext w w'):x.ok v w':=by
 cases x with
 | eq u=>exact h
 | any=>exact h
 | row B l =>
   obtain⟨b,h1,h2,h3,h4⟩:=h;exact⟨b,h1,h2,Nat.lt_of_lt_of_le h3 he.size,fun j u hj=>by rw[Below.cell he (p:=⟨b,j,none⟩) h3];exact h4 j u hj⟩
theorem QM(w:World)(B:Nat)(hB:B≤w.heap.size)(u0 u1 u2 u3:Value)(t:TypeId):(Wl.row B [u0,u1,u2,u3]).ok (.slice (some ⟨w.heap.size,0,none⟩) 1 1) (w.alloc (.cells #[u0,u1,u2,u3] t)):=by
 refine⟨_,rfl,hB,by simp,fun j u hj=>?_⟩
 match j,hj with
 | 0,hj=>(cases hj;simp[go_sem])
 | 1,hj=>(cases hj;simp[go_sem])
 | 2,hj=>(cases hj;simp[go_sem])
 | 3,hj=>(cases hj;simp[go_sem])
 | j+4,hj=>simp at hj
theorem kv(w:World)(B:Nat)(hB:B≤w.heap.size)(u0 u1 u2 u3 u4:Value)(t:TypeId):(Wl.row B [u0,u1,u2,u3,u4]).ok (.slice (some ⟨w.heap.size,0,none⟩) 1 1) (w.alloc (.cells #[u0,u1,u2,u3,u4] t)):=by
 refine⟨_,rfl,hB,by simp,fun j u hj=>?_⟩
 match j,hj with
 | 0,hj=>(cases hj;simp[go_sem])
 | 1,hj=>(cases hj;simp[go_sem])
 | 2,hj=>(cases hj;simp[go_sem])
 | 3,hj=>(cases hj;simp[go_sem])
 | 4,hj=>(cases hj;simp[go_sem])
 | j+5,hj=>simp at hj
theorem uK(w:World)(B:Nat)(hB:B≤w.heap.size)(u0 u1 u2 u3 u4 u5:Value)(t:TypeId):(Wl.row B [u0,u1,u2,u3,u4,u5]).ok (.slice (some ⟨w.heap.size,0,none⟩) 1 1) (w.alloc (.cells #[u0,u1,u2,u3,u4,u5] t)):=by
 refine⟨_,rfl,hB,by simp,fun j u hj=>?_⟩
 match j,hj with
 | 0,hj=>(cases hj;simp[go_sem])
 | 1,hj=>(cases hj;simp[go_sem])
 | 2,hj=>(cases hj;simp[go_sem])
 | 3,hj=>(cases hj;simp[go_sem])
 | 4,hj=>(cases hj;simp[go_sem])
 | 5,hj=>(cases hj;simp[go_sem])
 | j+6,hj=>simp at hj
theorem QN(w:World)(B:Nat)(hB:B≤w.heap.size)(u0 u1 u2:Value)(t:TypeId):(Wl.row B [u0,u1,u2]).ok (.slice (some ⟨w.heap.size,0,none⟩) 1 1) (w.alloc (.cells #[u0,u1,u2] t)):=by
 refine⟨_,rfl,hB,by simp,fun j u hj=>?_⟩
 match j,hj with
 | 0,hj=>(cases hj;simp[go_sem])
 | 1,hj=>(cases hj;simp[go_sem])
 | 2,hj=>(cases hj;simp[go_sem])
 | j+3,hj=>simp at hj
theorem KI{α β:Type}(f:α→β)(x:α):#[x].map f=#[f x]:=by simp
theorem yV{P:Program}{Q:Exit→Act→World→Prop}{o:Oper}{a:Act}{w w':World}{K:Act→World→Prop}(h:(execOp a.eval o).run P w=.ok .skip w')(hk:K (a.put o.dst undef) w'):o.wp P a w K Q:=by
 unfold Oper.wp;rw[h];exact hk
theorem yp{P:Program}(w:World){o:Oper}{a:Act}{K:Act→World→Prop}{Q:Exit→Act→World→Prop}(hgd:o.guard=none)(s x:Operand)(t:TypeId)
 (ho:o.op=.call { callee:=.builtin .append,args:=#[s,x],argTypes:=#[t,t] })
 (base:Nat) (e:TypeId) (i:TypeInfo) (z:Value) (size bytes:Nat) (ht:P.underlying t=some (.slice e)) (hi:P.info? e=some i) (hz:i.zero=some z)
 (hsize:i.size=size) (hby:i.bytes=bytes) (hzs:z.cells.size=size) (yD:0 < size)
 (v:Value) (n:Nat) (xs:List Value) (hs:a.eval s=v) (qB:w.ownsRow base e size v n xs)
 (ad:Addr) (m c:Nat) (news:List Value) (hx:a.eval x=.slice (some ad) m c) (hl:news.length=m * size) (hnews:∀j u,news[j]?=some u→w.cell? (ad.add j)=some u) (h1:∀u∈ news,u.oneCell'=true)
 (h63:n+m≤maxLen) (hbytes:(n+m) * bytes≤140737488355328) (hbase:base≤w.heap.size)
 (h:∀v' w',w'.ownsRow base e size v' (n+m) (xs++news)→w.grownBy w' v.ownBlock→(v'.ownBlock=v.ownBlock∨v'.ownBlock=some w.heap.size)→K (a.put o.dst v') w') :
 Oper.wp P o a w K Q:=by
 obtain⟨v',w',hr,h2,h3,_,h5⟩:=run_append_own_at (P:=P) w base t o.type e i z size bytes ht hi hz hsize hby hzs yD v n xs qB ad m c news hl hnews h1 h63 hbytes hbase;unfold Oper.wp execOp;simp only[ho,resolve,invoke,builtin,Sem.run_bind,Sem.run_pure,Result.andThen_ok,List.map_toArray,List.map_cons,List.map_nil,hs,hx,hr];exact h v' w' h2 h3 h5
theorem jv{ρ:Operand→Value}{d:Option Tmp}{ty:TypeId}{pos:String}{af:Array Edge}{gd:Option (Nat×Bool)}{w:World}(x:Operand)(b:Nat)(c0 c1 c2 c3:Value)(h:ρ x=.pointer (some ⟨b,0,none⟩))(h0:w.cell? ⟨b,0,none⟩=some c0)(h1:w.cell? ⟨b,1,none⟩=some c1)(h2:w.cell? ⟨b,2,none⟩=some c2)(h3:w.cell? ⟨b,3,none⟩=some c3):(execOp ρ ⟨d,.load 24 x,ty,pos,af,gd⟩).run Tryz.prog w=.ok (.value (.agg #[c0,c1,c2,c3])) w:=by
 simp only[execOp,h];go_simp
theorem vR:∀u∈ ([.int .i64 0,.int .i64 0,.string ⟨#[]⟩,.slice none 0 0]:List Value),u.oneCell'=true:=by
 intro u hu;simp only[List.mem_cons,List.not_mem_nil,or_false] at hu;rcases hu with rfl|rfl|rfl|rfl<;>rfl
theorem uv{w:World}{B:Nat}{e:TypeId}{size:Nat}{v:Value}{n:Nat}{xs:List Value}(h:w.ownsRow B e size v (n+1) xs):∃g cap,v=.slice (some ⟨g,0,none⟩) (n+1) cap:=by
 rcases h.2 with ⟨-,h0⟩|⟨g,cap,cur,rfl,-⟩
 ·omega
 ·exact⟨_,_,rfl⟩
theorem xx{w:World}{B:Nat}{e:TypeId}{g cap n:Nat}{xs:List Value}{u0 u1 u2 u3:Value}(hl:xs.length=n * 4)(h:w.ownsRow B e 4 (.slice (some ⟨g,0,none⟩) (n+1) cap) (n+1) (xs++[u0,u1,u2,u3])) :
 w.cell? ⟨g,n * 4,none⟩=some u0∧w.cell? ⟨g,n * 4+1,none⟩=some u1∧w.cell? ⟨g,n * 4+2,none⟩=some u2∧w.cell? ⟨g,n * 4+3,none⟩=some u3:=by
 refine⟨?_,?_,?_,?_⟩
 ·rw[h.cellAt _ (by omega),List.getElem?_append_right (by omega),hl,Nat.sub_self];rfl
 ·rw[h.cellAt _ (by omega),List.getElem?_append_right (by omega),hl,show n * 4+1 - n * 4=1 by omega];rfl
 ·rw[h.cellAt _ (by omega),List.getElem?_append_right (by omega),hl,show n * 4+2 - n * 4=2 by omega];rfl
 ·rw[h.cellAt _ (by omega),List.getElem?_append_right (by omega),hl,show n * 4+3 - n * 4=3 by omega];rfl
theorem zN{w we:World}{row:Option Nat}(hg:w.grownBy we row){g:Nat}(ho:some g=row∨w.heap.size≤g)(k:Nat)(u:Value):w.grownBy (we.setCell ⟨g,k,none⟩ u) row:=by
 have h2:=zK we g k u;refine⟨h2.os.trans hg.os,h2.tape.trans hg.tape,h2.output.trans hg.output,Nat.le_trans hg.size h2.size,fun q hq hn=>(h2.block q (Nat.lt_of_lt_of_le hq hg.size) ?_).trans (hg.block q hq hn)⟩;intro e;have e2:=Option.some.inj e;rcases ho with ho|ho
 ·exact hn (by rw[e2];exact ho)
 ·omega
theorem vU{α:Type}(a:Array α){i j:Nat}(h:i≠j)(f g:α→α):(a.modify i f).modify j g=(a.modify j g).modify i f:=by
 apply Array.ext
 ·simp
 ·intro k h1 h2;simp only[Array.getElem_modify]
  by_cases e1:j=k
  ·have e2:¬i=k:=fun e=>h (e.trans e1.symm);simp[e1,e2]
  ·simp[e1]
theorem kB(w:World){a b:Nat}{i j:Nat}(h:a≠b)(u v:Value):(w.setCell ⟨a,i,none⟩ u).setCell ⟨b,j,none⟩ v=(w.setCell ⟨b,j,none⟩ v).setCell ⟨a,i,none⟩ u:=by
 unfold World.setCell;simp only[vU w.heap h]
theorem uw{w:World}{B:Nat}{e:TypeId}{g cap n:Nat}{xs:List Value}{u0 u1 u2 u3:Value}(hl:xs.length=n * 4)(h:w.ownsRow B e 4 (.slice (some ⟨g,0,none⟩) (n+1) cap) (n+1) (xs++[u0,u1,u2,u3]))(v0 v1 v2 v3:Value) :
 ((((w.setCell ⟨g,n * 4,none⟩ v0).setCell ⟨g,n * 4+1,none⟩ v1).setCell ⟨g,n * 4+2,none⟩ v2).setCell ⟨g,n * 4+3,none⟩ v3).ownsRow B e 4 (.slice (some ⟨g,0,none⟩) (n+1) cap) (n+1) (xs++[v0,v1,v2,v3]):=by
 have q:=(((h.stored (n * 4) v0).1.stored (n * 4+1) v1).1.stored (n * 4+2) v2).1.stored (n * 4+3) v3;have q1:=q.1;rw[← hl] at q1 ⊢;rw[List.set_append_right _ _ (by omega),List.set_append_right _ _ (by omega),List.set_append_right _ _ (by omega),List.set_append_right _ _ (by omega)] at q1;rw[Nat.sub_self,show xs.length+1 - xs.length=1 by omega,show xs.length+2 - xs.length=2 by omega,show xs.length+3 - xs.length=3 by omega] at q1;exact q1
theorem yU{L:List Tk.T4}{v:Value}{i:Nat}{s:ByteArray}{b:Bool}(h:Pc.isW L i s=b){wq:World}(ht:TkAt wq L v):Calls Tryz.prog 97 #[v,.int .i64 i,.string s] wq fun e w'=>e=.returned (.bool b)∧wq=w':=by
 rw[← h];exact zL L v i s wq ht
theorem kT{L:List Tk.T4}{v:Value}{i:Nat}{k:Int}{b:Bool}(h:Pc.kd L i k=b){wq:World}(ht:TkAt wq L v):Calls Tryz.prog 94 #[v,.int .i64 i,.int .i64 k] wq fun e w'=>e=.returned (.bool b)∧wq=w':=by
 rw[← h];exact zA L v i k wq ht
theorem zM{L:List Tk.T4}{v:Value}{i:Nat}{b:Bool}(hs:∀t∈ L,t.t.text.size≤9223372036854775807)(h:Pc.nmd L i=b){wq:World}(ht:TkAt wq L v):Calls Tryz.prog 96 #[v,.int .i64 i] wq fun e w'=>e=.returned (.bool b)∧Below wq.heap.size wq w':=by
 rw[← h];exact Jo L v i wq ht hs
theorem msC{s:ByteArray}{k:Int}(h:yn s=k)(wq:World):Calls Tryz.prog 55 #[.string s] wq fun e w'=>e=.returned (.int .i64 k)∧wq=w':=by
 rw[← h];exact jw s wq
theorem KR{L:List Tk.T4}{g O cap:Nat}{w:World}(n:Nat)(hV:∀t∈ L,VT t.t)(h40:L.length≤400)(TA:∀wq,Below w.heap.size w wq→TkAt wq L (.slice (some ⟨g,O,none⟩) L.length cap)) :
 ∀(wq:World) (pq:Option Addr) (kq:Nat),Below w.heap.size w wq→(pq=some ⟨g,O+n * 4,none⟩∨L.length≤n)→Calls Tryz.prog 98 #[.slice pq (L.length - n:Nat) kq] wq (Uu (L.drop n) wq):=fun wq pq kq hb hq=>by
 have q:=vv (L.drop n) pq kq wq (fun t ht=>hV t (List.mem_of_mem_drop ht)) (by
  rcases hq with rfl|hq
  ·exact vw (TA wq hb) n h40
  ·rw [List.drop_eq_nil_of_le hq];exact⟨Nat.zero_le _,fun q=>absurd rfl q⟩)
 rw[List.length_drop] at q;exact q
theorem Qh{L:List Tk.T4}{g O cap i:Nat}{w:World}(TA:TkAt w L (.slice (some ⟨g,O,none⟩) L.length cap))(hi:i < L.length):w.cell? ⟨g,O+i * 4+1,none⟩=some (.string (Pc.tok L i).text)∧w.cell? ⟨g,O+i * 4+2,none⟩=some (.int .i64 (Pc.tok L i).num):=by
 obtain⟨t,hq⟩:∃t,L[i]?=some t:=⟨_,List.getElem?_eq_getElem hi⟩;obtain⟨g',O',e',-,q1,q2,-⟩:=TkAt.get TA hq;cases e';rw[zw hq];exact⟨q1,q2⟩
theorem vd{L:List Tk.T4}{i:Nat}{a b:ByteArray}(h:Pc.isW L i a=true)(hn:a≠b):Pc.isW L i b=false:=by
 unfold Pc.isW at h ⊢;rw[Bool.and_eq_true] at h;rw[decide_eq_false (fun e=>hn ((of_decide_eq_true h.2).symm.trans e)),Bool.and_false]
theorem vV(s:ByteArray):yn s=0∨yn s=1∨yn s=2:=by
 unfold yn
 repeat' split
 all_goals first|exact .inl rfl|exact .inr (.inl rfl)|exact .inr (.inr rfl)
theorem uq(s:ByteArray):Pc.scopeT s=0∨Pc.scopeT s=1∨Pc.scopeT s=2∨Pc.scopeT s=3:=by
 unfold Pc.scopeT
 repeat' split
 ·exact .inr (.inl rfl)
 ·exact .inr (.inr (.inl rfl))
 ·exact .inr (.inr (.inr rfl))
 ·exact .inl rfl
theorem j7{tx s:ByteArray}(h:tx≠s):¬tx.toList=s.data.toList:=fun e=>by
 rw[Lib.toList_data] at e;exact h (ByteArray.ext (Array.toList_inj.1 e))
theorem xG{tx s:ByteArray}(h:tx=s):tx.toList=s.data.toList:=by rw[h,Lib.toList_data]
end Go.Proofs.YtcejjdmnlejbaaaGreatDoor
