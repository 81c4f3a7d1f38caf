import Derived.Test.YtljdcpobomfnpaaGreatKtd
namespace Go.Proofs.YtljdcpobomfnpaaGreat
set_option linter.unusedVariables false
set_option linter.unusedSimpArgs false
open Go.ChangeShapes Go.WideShapes Go.ChangeAt Go.RowKit
theorem ext_mkT (l:List UInt8) (a b:Nat):(⟨l.toArray⟩:ByteArray).extract a b=⟨((l.take b).drop a).toArray⟩:=by
 apply ByteArray.ext;simp [List.drop_take]
set_option maxHeartbeats 1000000 in
theorem plain_any (l:List UInt8) (w:World) (h:1≤l.length) (hl:l.length≤11) :
 Calls Tryz.prog 92 #[.string ⟨l.toArray⟩] w fun e w'=>e=.returned (.bool (Txt.plainL l))∧w=w':=by
 have hpl:=Txt.plain_iff l h
 have hg0:(⟨l.toArray⟩:ByteArray)[0]'h=l.getD 0 0:=by
  rw [List.getD_eq_getElem?_getD,List.getElem?_eq_getElem h];rfl
 obtain ⟨c,hc⟩:∃ c,c=l.getD 0 0:=⟨_,rfl⟩
 rw [← hc] at hg0 hpl
 clear hc
 have i0:(0:Int) < (l.length:Int):=by omega
 by_cases h1:l.length=1
 · have b1:((l.length:Int)==1)=true:=by simp;omega
   have HP:Hid (Txt.plainL l=true):=hpl.2 (by omega)
   clear hpl h1
   go_enter Tryz.func92,Tryz.ntmps92
   go_wp2
   go_ret
   exact ⟨ret_boolT HP.out.symm,rfl⟩
 · have b1:((l.length:Int)==1)=false:=by simp;omega
   have b2:(1:Int) < (l.length:Int):=by omega
   by_cases h2:c.toNat=48
   · have b3:((c.toNat:Int) != 48)=false:=by simp;omega
     have HP:Hid (Txt.plainL l=false):=by unfold Hid;rw [Bool.eq_false_iff];intro q;exact hpl.1 q ⟨h2,by omega⟩
     clear hpl h1 h2
     go_enter Tryz.func92,Tryz.ntmps92
     go_wp2
     go_ret
     exact ⟨ret_boolT HP.out.symm,rfl⟩
   · have b3:((c.toNat:Int) != 48)=true:=by simp;omega
     have HP:Hid (Txt.plainL l=true):=hpl.2 (fun q=>h2 q.1)
     clear hpl h1 h2
     go_enter Tryz.func92,Tryz.ntmps92
     go_wp2
     go_ret
     exact ⟨ret_boolT HP.out.symm,rfl⟩
theorem and4 (a b c x:Bool) (h:true=(a && b && c && !x)):a=true∧b=true:=by
 cases a<;>cases b<;>simp at h ⊢
theorem duB_no (l:List UInt8) (h:Txt.duB l=false):Txt.duV l=0∧Txt.duE l=1:=by
 unfold Txt.duV Txt.duE;rw [h];simp
set_option maxHeartbeats 4000000 in
set_option maxRecDepth 100000 in
theorem pdur_ref_any (l : List UInt8) (w:World) (hs:l.length≤9223372036854775807) :
 Calls Tryz.prog 75 #[.string ⟨l.toArray⟩] w fun e w'=>e=.returned (.tuple #[.int .i64 (Txt.duV l),.int .i64 (Txt.duE l)])∧w=w':=by
 have start:l=[]∨(∃ h:1≤l.length,∃ c:UInt8,(⟨l.toArray⟩:ByteArray)[0]'h=c∧((c.toNat:Int)==45)=false∧Txt.duR l=l∧Txt.duNeg l=false) ∨
  (∃ h:1≤l.length,∃ c:UInt8,(⟨l.toArray⟩:ByteArray)[0]'h=c∧((c.toNat:Int)==45)=true∧(⟨l.toArray⟩:ByteArray).extract 1 l.length=⟨(Txt.duR l).toArray⟩∧Txt.duNeg l=true):=by
  cases l with
  | nil=>exact .inl rfl
  | cons c t =>
    right
    by_cases hc:c=45
    · subst hc
      refine .inr ⟨by simp,45,rfl,rfl,?_,(Txt.dash_iff _).2 ⟨t,rfl⟩⟩
      rw [Txt.duR_neg,ext_mkT,List.take_length];rfl
    · have hn:Txt.duNeg (c :: t)=false:=by
       rw [Bool.eq_false_iff];intro q
       obtain ⟨t',h'⟩:=(Txt.dash_iff _).1 q
       exact hc (List.cons.inj h').1
      have hb:((c.toNat:Int)==45)=false:=by
       have:c.toNat≠45:=fun q=>hc (UInt8.toNat_inj.1 q)
       simp;omega
      exact .inl ⟨by simp,c,rfl,hb,Txt.duR_pos _ hn,hn⟩
 have S:=Lib.hid start
 clear start
 go_enter Tryz.func75,Tryz.ntmps75
 go_upto_region 1 with (fail)
 go_cut [4] (fun v4 wx=>v4=.bool (Txt.duNeg l)∧wx=w)
 case first =>
  rcases S.out with rfl|⟨h1,c,hg0,hc,hr,hn⟩|⟨h1,c,hg0,hc,hr,hn⟩
  · go_wp2
    go_meet
    exact ⟨rfl,rfl⟩
  · have i0:(0:Int) < (l.length:Int):=by omega
    have N:=Lib.hid hn
    clear hn hr
    go_wp2
    go_meet
    exact ⟨by rw [N.out],rfl⟩
  · have i0:(0:Int) < (l.length:Int):=by omega
    have N:=Lib.hid hn
    clear hn hr
    go_wp2
    go_meet
    exact ⟨by rw [N.out],rfl⟩
 case rest =>
  obtain ⟨rfl,rfl⟩:=hcut
  go_upto_if 19 with (fail)
  go_cut [0,4] (fun v0 v4 wx=>v0=.string ⟨(Txt.duR l).toArray⟩∧v4=.bool (Txt.duNeg l)∧wx=wc)
  case first =>
   rcases S.out with rfl|⟨h1,c,hg0,hc,hr,hn⟩|⟨h1,c,hg0,hc,hr,hn⟩
   · rw [show Txt.duNeg []=false from rfl]
     go_wp2
     go_meet
     exact ⟨rfl,rfl,rfl⟩
   · rw [hn]
     have HR:=Lib.hid hr
     have HN:=Lib.hid hn
     clear hr hn hc hg0
     go_wp2
     go_meet
     exact ⟨by rw [HR.out],by rw [HN.out],rfl⟩
   · rw [hn]
     have HR:=Lib.hid hr
     have HN:=Lib.hid hn
     have i1:(1:Int)≤(l.length:Int):=by omega
     clear hr hn hc hg0
     go_wp2
     go_meet
     exact ⟨by rw [HR.out],by rw [HN.out],rfl⟩
  case rest =>
   obtain ⟨rfl,rfl,rfl⟩:=hcut
   have hB:Hid (Txt.duB l=decide (4≤(Txt.duR l).length∧(Txt.duR l).length≤14∧(Txt.duR l).getD ((Txt.duR l).length - 3) 0=58∧Txt.allD ((Txt.duR l).take ((Txt.duR l).length - 3))=true∧Txt.allD ((Txt.duR l).drop ((Txt.duR l).length - 3+1))=true∧Txt.plainL ((Txt.duR l).take ((Txt.duR l).length - 3))=true∧¬ (Txt.duNeg l=true∧Txt.num ((Txt.duR l).take ((Txt.duR l).length - 3))=0∧Txt.num ((Txt.duR l).drop ((Txt.duR l).length - 3+1))=0))):=rfl
   have hN:Hid (Txt.duN l=60 * Txt.num ((Txt.duR l).take ((Txt.duR l).length - 3))+Txt.num ((Txt.duR l).drop ((Txt.duR l).length - 3+1))):=rfl
   have hE:Hid (Txt.duE l=if Txt.duB l=true then (if Txt.num ((Txt.duR l).drop ((Txt.duR l).length - 3+1))≤59∧Txt.duN l≤1099511627776 then 0 else 5) else 1):=rfl
   have hV:Hid (Txt.duV l=if Txt.duE l=0 then (if Txt.duNeg l=true then - Txt.duN l else Txt.duN l) else 0):=rfl
   have hrl:(Txt.duR l).length≤9223372036854775807:=Nat.le_trans (Txt.duR_len l) hs
   generalize Txt.duR l=r at *
   generalize Txt.duNeg l=neg at *
   by_cases h4:4≤r.length
   · have hg : (⟨r.toArray⟩:ByteArray)[r.length - 3]'(by show r.length - 3 < r.length;omega)=r.getD (r.length - 3) 0:=by
      rw [List.getD_eq_getElem?_getD,List.getElem?_eq_getElem (by omega)];rfl
     obtain ⟨hh,hhh⟩:∃ hh,hh=r.take (r.length - 3):=⟨_,rfl⟩
     obtain ⟨mm,hmm⟩:∃ mm,mm=r.drop (r.length - 3+1):=⟨_,rfl⟩
     obtain ⟨c,hcc⟩:∃ c,c=r.getD (r.length - 3) 0:=⟨_,rfl⟩
     have x1:(⟨r.toArray⟩:ByteArray).extract 0 (r.length - 3)=⟨hh.toArray⟩:=by rw [ext_mkT,hhh];rfl
     have x2:(⟨r.toArray⟩:ByteArray).extract (r.length - 3+1) r.length=⟨mm.toArray⟩:=by rw [ext_mkT,hmm,List.take_length]
     have l1:hh.length=r.length - 3:=by rw [hhh];simp
     have l2:mm.length=2:=by rw [hmm];simp;omega
     have hB2:Hid (Txt.duB l=decide (r.length≤14∧c=58∧Txt.allD hh=true∧Txt.allD mm=true∧Txt.plainL hh=true∧¬ (neg=true∧Txt.num hh=0∧Txt.num mm=0))):=by
      unfold Hid;rw [hB.out,← hhh,← hmm,← hcc];simp [h4]
     have hN2:Hid (Txt.duN l=60 * Txt.num hh+Txt.num mm):=by unfold Hid;rw [hN.out,← hhh,← hmm]
     have hE2:Hid (Txt.duE l=if Txt.duB l=true then (if Txt.num mm≤59∧Txt.duN l≤1099511627776 then 0 else 5) else 1):=by unfold Hid;rw [hE.out,← hmm]
     rw [← hcc] at hg
     clear hhh hmm hcc hB hN hE S
     have i1:¬ (r.length:Int) - 3 < 1:=by omega
     have i2:(r.length:Int) - 3 < (r.length:Int):=by omega
     have i3:(0:Int)≤(r.length:Int) - 3:=by omega
     have i4:(0:Int)≤(r.length:Int) - 3+1:=by omega
     have i5:(r.length:Int) - 3+1≤(r.length:Int):=by omega
     have i6:(r.length:Int) - 3≤(r.length:Int):=by omega
     have nn:Hid (((r.length:Int) - 3).toNat=r.length - 3∧((r.length:Int) - 3+1).toNat=r.length - 3+1):=⟨by omega,by omega⟩
     by_cases h58:c=58
     · have b58 : ((c.toNat:Int) != 58)=false:=by rw [h58];rfl
       have D1:=fun w=>digits_any ⟨hh.toArray⟩ 1 11 w (by show hh.length≤_;omega) (by omega)
       have D2:=fun w=>digits_any ⟨mm.toArray⟩ 2 2 w (by show mm.length≤_;omega) (by omega)
       rw [show (⟨hh.toArray⟩:ByteArray).data.toList=hh from rfl] at D1
       rw [show (⟨mm.toArray⟩:ByteArray).data.toList=mm from rfl] at D2
       have e1:digB hh 1 11=(decide (r.length≤14) && Txt.allD hh):=by
        unfold digB;rw [l1,Bool.eq_iff_iff,Bool.and_eq_true,decide_eq_true_eq,decide_eq_true_eq]
        exact ⟨fun ⟨a1,a2,a3⟩=>⟨by omega,a3⟩,fun ⟨a1,a3⟩=>⟨by omega,by omega,a3⟩⟩
       have e2:digB mm 2 2=Txt.allD mm:=by
        unfold digB;rw [l2]
        cases Txt.allD mm<;>simp
       have v1:r.length≤14→Txt.allD hh=true→digV hh 1 11=Txt.num hh:=by
        intro q1 q2;unfold digV;rw [if_pos ⟨by rw [l1];omega,by rw [l1];omega,q2⟩]
       have v2:Txt.allD mm=true→digV mm 2 2=Txt.num mm:=by
        intro q2;unfold digV;rw [if_pos ⟨by rw [l2];omega,by rw [l2];omega,q2⟩]
       rw [e1] at D1
       rw [e2] at D2
       obtain ⟨d1,hd1⟩:∃ d1,d1=(decide (r.length≤14) && Txt.allD hh):=⟨_,rfl⟩
       obtain ⟨d2,hd2⟩:∃ d2,d2=Txt.allD mm:=⟨_,rfl⟩
       obtain ⟨d3,hd3⟩:∃ d3,d3=Txt.plainL hh:=⟨_,rfl⟩
       obtain ⟨z1,hz1⟩:∃ z1,z1=digV hh 1 11:=⟨_,rfl⟩
       obtain ⟨z2,hz2⟩:∃ z2,z2=digV mm 2 2:=⟨_,rfl⟩
       rw [← hd1,← hz1] at D1
       rw [← hd2,← hz2] at D2
       have K1:Hid (d1=true→r.length≤14∧Txt.allD hh=true∧z1=Txt.num hh∧0≤z1∧z1≤100000000000):=by
        intro q
        rw [hd1,Bool.and_eq_true,decide_eq_true_eq] at q
        have w1:=v1 q.1 q.2
        have w2:=Txt.num_bd hh q.2
        have w3:10 ^ hh.length≤10 ^ 11:=Nat.pow_le_pow_right (by omega) (by omega)
        exact ⟨q.1,q.2,hz1.trans w1,by rw [hz1,w1];exact w2.1,by rw [hz1,w1];omega⟩
       have K2:Hid (d2=true→z2=Txt.num mm∧0≤z2∧z2≤100):=by
        intro q
        have w1:=v2 (hd2.symm.trans q)
        have w2:=Txt.num_bd mm (hd2.symm.trans q)
        rw [l2] at w2
        exact ⟨hz2.trans w1,by rw [hz2,w1];exact w2.1,by rw [hz2,w1];omega⟩
       have KB : Hid (Txt.duB l=(d1 && d2 && d3 && !(neg && (z1==0) && (z2==0)))):=by
        unfold Hid
        rw [hB2.out,hd1,hd2,hd3]
        by_cases a1:r.length≤14
        · cases a2 : Txt.allD hh
          · simp [a1]
          · cases a3:Txt.allD mm
            · simp
            · have w1:=v1 a1 a2
              have w2:=v2 a3
              rw [hz1,hz2,w1,w2]
              cases a4:Txt.plainL hh
              · simp
              · cases neg
                · simp [a1,h58]
                · simp only [a1,h58,Bool.true_and,decide_true,Bool.and_true,true_and]
                  rw [Bool.eq_iff_iff]
                  simp
        · simp [a1]
       clear hd1 hd2 hz1 hz2
       have P1:=fun w (q:r.length≤14)=>plain_any hh w (by omega) (by omega)
       rw [← hd3] at P1
       clear hd3
       have C1:=Lib.hid D1
       have C2:=Lib.hid D2
       have CP:=Lib.hid P1
       have L1:=Lib.hid l1
       have L2:=Lib.hid l2
       have H58:=Lib.hid h58
       clear D1 D2 e1 e2 v1 v2 l1 l2 h58 P1
       obtain ⟨n1,n2⟩:=nn.out
       go_wp2_with fail
       refine (C1.out _).mono ?_
       rintro e w1 ⟨rfl,rfl⟩
       go_wp2_with fail
       refine (C2.out _).mono ?_
       rintro e w1 ⟨rfl,rfl⟩
       go_upto_region 9 with (fail)
       go_cut [71] (fun v wx=>v=.bool (!Txt.duB l)∧wx=wc)
       case first =>
        cases d1
        · go_wp2
          go_meet
          exact ⟨by rw [KB.out];rfl,rfl⟩
        · cases d2
          · go_wp2
            go_meet
            exact ⟨by rw [KB.out];rfl,rfl⟩
          · obtain ⟨a1,a2,a3,a4,a5⟩:=K1.out rfl
            have A1:=Lib.hid a1
            clear a2 a3 a1
            cases d3
            · go_wp2_with (go_at_call 92;refine (CP.out _ A1.out).mono ?_;rintro e w2 ⟨rfl,rfl⟩)
              go_meet
              exact ⟨by rw [KB.out];rfl,rfl⟩
            · cases neg
              · go_wp2_with (go_at_call 92;refine (CP.out _ A1.out).mono ?_;rintro e w2 ⟨rfl,rfl⟩)
                go_meet
                exact ⟨by rw [KB.out];rfl,rfl⟩
              · cases y1:(z1==0)
                · have Y1:=Lib.hid y1
                  go_wp2_with (go_at_call 92;refine (CP.out _ A1.out).mono ?_;rintro e w2 ⟨rfl,rfl⟩)
                  go_meet
                  exact ⟨by rw [KB.out,Y1.out];rfl,rfl⟩
                · cases y2:(z2==0)
                  all_goals
                   have Y1:=Lib.hid y1
                   have Y2:=Lib.hid y2
                   go_wp2_with (go_at_call 92;refine (CP.out _ A1.out).mono ?_;rintro e w2 ⟨rfl,rfl⟩)
                   go_meet
                   exact ⟨by rw [KB.out,Y1.out,Y2.out];rfl,rfl⟩
       case rest =>
        obtain ⟨rfl,rfl⟩:=hcut
        cases bb:Txt.duB l
        · have e:=duB_no l bb
          have E:=Lib.hid e
          clear e bb
          go_wp2
          go_ret2
          exact ⟨by rw [E.out.1,E.out.2];rfl,rfl⟩
        · have kb:=KB.out
          rw [bb] at kb
          obtain ⟨g1,g2⟩:=and4 _ _ _ _ kb
          obtain ⟨a1,a2,a3,a4,a5⟩:=K1.out g1
          obtain ⟨b1,b2,b3⟩:=K2.out g2
          have hE3:Hid (Txt.duE l=if z2≤59∧Txt.duN l≤1099511627776 then 0 else 5):=by unfold Hid;rw [hE2.out,if_pos bb,← b1]
          have hN3:Hid (Txt.duN l=60 * z1+z2):=by unfold Hid;rw [hN2.out,← a3,← b1]
          clear kb g1 g2 a1 a2 a3 b1 KB K1 K2 bb
          by_cases t1:z2≤59
          · by_cases t2:60 * z1+z2≤1099511627776
            · have W:Hid (Txt.duE l=0):=by unfold Hid;rw [hE3.out,hN3.out,if_pos ⟨t1,t2⟩]
              cases neg
              · have W2:Hid (Txt.duV l=60 * z1+z2):=by unfold Hid;rw [hV.out,if_pos W.out,hN3.out];rfl
                go_wp2
                go_ret2
                exact ⟨by rw [W.out,W2.out];rfl,rfl⟩
              · have W2:Hid (Txt.duV l = - (60 * z1+z2)):=by unfold Hid;rw [hV.out,if_pos W.out,hN3.out];rfl
                go_wp2
                go_ret2
                exact ⟨by rw [W.out,W2.out];rfl,rfl⟩
            · have W:Hid (Txt.duE l=5):=by unfold Hid;rw [hE3.out,hN3.out,if_neg (by omega)]
              have W2:Hid (Txt.duV l=0):=by unfold Hid;rw [hV.out,W.out];rfl
              go_wp2
              go_ret2
              exact ⟨by rw [W.out,W2.out];rfl,rfl⟩
          · have W:Hid (Txt.duE l=5):=by unfold Hid;rw [hE3.out,if_neg (by omega)]
            have W2:Hid (Txt.duV l=0):=by unfold Hid;rw [hV.out,W.out];rfl
            go_wp2
            go_ret2
            exact ⟨by rw [W.out,W2.out];rfl,rfl⟩
     · have b58:((c.toNat:Int) != 58)=true:=by
        have:c.toNat≠58:=fun q=>h58 (UInt8.toNat_inj.1 q)
        simp;omega
       have e:=duB_no l (by rw [hB2.out];simp [h58])
       have E:=Lib.hid e
       clear e h58
       obtain ⟨n1,n2⟩:=nn.out
       go_wp2
       go_ret2
       exact ⟨by rw [E.out.1,E.out.2];rfl,rfl⟩
   · have e:=duB_no l (by rw [hB.out];simp;omega)
     have E:=Lib.hid e
     clear e
     go_wp2
     go_ret2
     exact ⟨by rw [E.out.1,E.out.2];rfl,rfl⟩
end Go.Proofs.YtljdcpobomfnpaaGreat
namespace Go.Proofs.YtljdcpobomfnpaaGreat
set_option linter.unusedVariables false
set_option linter.unusedSimpArgs false
open Go
namespace Tk
def inW (c:UInt8):Bool:=decide ((97≤c.toNat∧c.toNat≤122)∨(48≤c.toNat∧c.toNat≤57)∨c.toNat=95∨c.toNat=46∨c.toNat=58∨c.toNat=64)
def inS (c:UInt8):Bool:=decide (c.toNat=43∨c.toNat=45∨c.toNat=42∨c.toNat=47∨c.toNat=40∨c.toNat=41∨c.toNat=44∨c.toNat=60∨c.toNat=61)
def has (l:List UInt8) (k:Nat):Bool:=l.any fun c=>decide (c.toNat=k)
structure T3 where
 kind:Int
 text:ByteArray
 num:Int
def numOk (l:List UInt8):Bool:=decide (1≤l.length∧l.length≤13∧Txt.allD l=true∧¬ ((l.getD 0 0).toNat=48∧1 < l.length)∧Txt.num l≤1099511627776)
def word (s:ByteArray):Option T3 :=
 if 97≤(s.data.toList.getD 0 0).toNat∧(s.data.toList.getD 0 0).toNat≤122 then (if 33 < s.size∨has s.data.toList 58=true∨has s.data.toList 64=true then none else some ⟨1,s,0⟩)
 else if (s.data.toList.getD 0 0).toNat=64 then (if pcE (s.extract 1 s.size)=0 then some ⟨4,⟨#[]⟩,pcV (s.extract 1 s.size)⟩ else none)
 else if has s.data.toList 58=true then (if Txt.duE s.data.toList=0 then some ⟨3,⟨#[]⟩,Txt.duV s.data.toList⟩ else none)
 else if numOk s.data.toList=true then some ⟨2,⟨#[]⟩,Txt.num s.data.toList⟩ else none
def sgn (l:List UInt8):Nat:=if (l.getD 0 0).toNat=60∧(l.getD 1 0).toNat=61 then 2 else if 1≤l.length∧inS (l.getD 0 0)=true then 1 else 0
def wl (l:List UInt8):Nat:=(l.takeWhile inW).length
def tokAt (s:ByteArray) (i:Nat):Option T3 × Nat :=
 if inW (s.data.toList.getD i 0)=true then (word (s.extract i (i+wl (s.data.toList.drop i))),wl (s.data.toList.drop i))
 else (if sgn (s.data.toList.drop i)=0 then none else some ⟨5,s.extract i (i+sgn (s.data.toList.drop i)),0⟩,sgn (s.data.toList.drop i))
structure T4 where
 t:T3
 at':Int
def scan (s:ByteArray):Nat→Nat→List T4→List T4 × Int × Int
 | 0,_,D=>(D,0,0)
 | n+1,i,D =>
   if s.size≤i then (D,0,0) else if (s.data.toList.getD i 0).toNat=35 then (D,0,0) else if (s.data.toList.getD i 0).toNat=32 then scan s n (i+1) D else
   match tokAt s i with
   | (none,_)=>([],i,1)
   | (some t,k)=>if D.length=400 then ([],i,10) else scan s n (i+k) (D++[⟨t,i⟩])
theorem wl_le (l:List UInt8):wl l≤l.length:=List.Sublist.length_le (List.takeWhile_sublist _)
theorem wl_pos (l:List UInt8) (h:inW (l.getD 0 0)=true) (hl:1≤l.length):1≤wl l:=by
 cases l with
 | nil=>simp at hl
 | cons c l =>
   have h':inW c=true:=by simpa using h
   unfold wl
   rw [List.takeWhile_cons,if_pos h']
   simp
theorem sgn_le (l:List UInt8):sgn l≤l.length:=by
 unfold sgn
 split
 · rename_i h
   cases l with
   | nil=>simp at h
   | cons a l=>cases l with
     | nil=>simp at h
     | cons b l=>simp
 · split
   · rename_i h;exact h.1
   · exact Nat.zero_le _
theorem getD_drop (l:List UInt8) (i:Nat):(l.drop i).getD 0 0=l.getD i 0:=by
 rw [List.getD_eq_getElem?_getD,List.getD_eq_getElem?_getD,List.getElem?_drop,Nat.add_zero]
theorem tok_len (s:ByteArray) (i:Nat) (hi:i < s.size) (t:T3) (k:Nat) (h:tokAt s i=(some t,k)):1≤k∧i+k≤s.size:=by
 have hl:s.data.toList.length=s.size:=Array.length_toList
 unfold tokAt at h
 by_cases hw:inW (s.data.toList.getD i 0)=true
 · rw [if_pos hw] at h
   have e:=(Prod.mk.inj h).2
   rw [← e]
   have h1:=wl_le (s.data.toList.drop i)
   rw [List.length_drop,hl] at h1
   refine ⟨wl_pos _ (by rw [getD_drop];exact hw) (by rw [List.length_drop,hl];omega),by omega⟩
 · rw [if_neg hw] at h
   obtain ⟨e1,e2⟩:=Prod.mk.inj h
   rw [← e2]
   have h1:=sgn_le (s.data.toList.drop i)
   rw [List.length_drop,hl] at h1
   by_cases q:sgn (s.data.toList.drop i)=0
   · rw [if_pos q] at e1;cases e1
   · exact ⟨by omega,by omega⟩
theorem scan_more (s:ByteArray):∀ (n m i:Nat) (D:List T4),s.size≤i+n→s.size≤i+m→scan s n i D=scan s m i D:=by
 intro n
 induction n with
 | zero =>
   intro m i D h1 h2
   cases m with
   | zero=>rfl
   | succ m=>rw [scan,scan,if_pos (by omega)]
 | succ n ih =>
   intro m i D h1 h2
   by_cases hi:s.size≤i
   · rw [scan,if_pos hi]
     cases m with
     | zero=>rw [scan]
     | succ m=>rw [scan,if_pos hi]
   · cases m with
     | zero=>omega
     | succ m =>
       rw [scan,scan,if_neg hi,if_neg hi]
       split
       · rfl
       · split
         · exact ih m (i+1) D (by omega) (by omega)
         · cases hq:tokAt s i with
           | mk o k =>
             cases o with
             | none=>rfl
             | some t =>
               have hk:=tok_len s i (by omega) t k hq
               dsimp only
               split
               · rfl
               · exact ih m (i+k) _ (by omega) (by omega)
def scanT (s:ByteArray):List T4 × Int × Int:=scan s s.size 0 []
theorem scan_step (s:ByteArray) (i:Nat) (D:List T4) (hi:i < s.size):scan s (s.size - i) i D =
 if (s.data.toList.getD i 0).toNat=35 then (D,0,0) else if (s.data.toList.getD i 0).toNat=32 then scan s (s.size - (i+1)) (i+1) D else
 match tokAt s i with
 | (none,_)=>([],(i:Int),1)
 | (some t,k)=>if D.length=400 then ([],(i:Int),10) else scan s (s.size - (i+k)) (i+k) (D++[⟨t,i⟩]):=by
 obtain ⟨n,hn⟩:∃ n,s.size - i=n+1:=⟨s.size - i - 1,by omega⟩
 rw [hn,scan,if_neg (by omega)]
 split
 · rfl
 · split
   · exact scan_more s _ _ _ _ (by omega) (by omega)
   · cases hq:tokAt s i with
     | mk o k =>
       cases o with
       | none=>rfl
       | some t =>
         have hk:=tok_len s i hi t k hq
         dsimp only
         split
         · rfl
         · exact scan_more s _ _ _ _ (by omega) (by omega)
theorem scan_end (s:ByteArray) (i:Nat) (D:List T4) (hi:s.size≤i):scan s (s.size - i) i D=(D,0,0):=by
 rw [show s.size - i=0 by omega,scan]
end Tk
end Go.Proofs.YtljdcpobomfnpaaGreat
namespace Go.Proofs.YtljdcpobomfnpaaGreat
set_option linter.unusedVariables false
set_option linter.unusedSimpArgs false
open Go.Deep (BT)
namespace Pz
def nrm:Fo→Fo
 | .nil=>.nil
 | .node _ _ a k r=>.node 0 0 ⟨a.op,a.num,a.name,none,0⟩ (nrm k) (nrm r)
def nr (c:Ch):Ch:=⟨0,0,⟨c.a.op,c.a.num,c.a.name,none,0⟩,nrm c.k⟩
def tn (op:Int) (l:List Ch):Ch:=⟨0,0,⟨op,0,⟨#[]⟩,none,0⟩,rowF l⟩
def lf (op num:Int) (s:ByteArray):Ch:=⟨0,0,⟨op,num,s,none,0⟩,.nil⟩
theorem nrm_rowF (l:List Ch):nrm (rowF l)=rowF (l.map nr):=by
 induction l with
 | nil=>rfl
 | cons c l ih=>simp only [rowF,nrm,List.map_cons,ih,nr]
def wImplies:ByteArray:=⟨#[105,109,112,108,105,101,115]⟩
def wOr:ByteArray:=⟨#[111,114]⟩
def wAnd:ByteArray:=⟨#[97,110,100]⟩
def wNot:ByteArray:=⟨#[110,111,116]⟩
def wLess:ByteArray:=⟨#[60]⟩
def wLeq:ByteArray:=⟨#[60,61]⟩
def wEq:ByteArray:=⟨#[61]⟩
def wIn:ByteArray:=⟨#[105,110]⟩
def wTo:ByteArray:=⟨#[116,111]⟩
def wPlus:ByteArray:=⟨#[43]⟩
def wMinus:ByteArray:=⟨#[45]⟩
def wStar:ByteArray:=⟨#[42]⟩
def wSlash:ByteArray:=⟨#[47]⟩
def wTrue:ByteArray:=⟨#[116,114,117,101]⟩
def wFalse:ByteArray:=⟨#[102,97,108,115,101]⟩
def wMin:ByteArray:=⟨#[109,105,110]⟩
def wMax:ByteArray:=⟨#[109,97,120]⟩
def wIf:ByteArray:=⟨#[105,102]⟩
def wThen:ByteArray:=⟨#[116,104,101,110]⟩
def wElse:ByteArray:=⟨#[101,108,115,101]⟩
def wOpen:ByteArray:=⟨#[40]⟩
def wShut:ByteArray:=⟨#[41]⟩
def wComma:ByteArray:=⟨#[44]⟩
abbrev R:=Option Ch × Nat
def isw (L:List Tk.T4) (i:Nat) (s:ByteArray):Bool:=match L[i]? with
 | some t=>(decide (t.t.kind=1) || decide (t.t.kind=5)) && decide (t.t.text.data.toList=s.data.toList)
 | none=>false
def leafT (t:Tk.T3):Option Ch :=
 if t.kind=2 then some (lf 1 t.num ⟨#[]⟩) else if t.kind=3 then some (lf 2 t.num ⟨#[]⟩) else if t.kind=4 then some (lf 3 t.num ⟨#[]⟩)
 else if t.kind=1 then (if attrS t.text=true then some (lf 6 0 t.text) else none) else none
def leaf (L:List Tk.T4) (i:Nat):R:=match L[i]? with
 | some t=>(match leafT t.t with|some x=>(some x,i+1)|none=>(none,i))
 | none=>(none,i)
def bnd (r:R) (g:Ch→Nat→R):R:=match r with
 | (none,j)=>(none,j)
 | (some x,j)=>g x j
inductive NT where
 | ex|dj|djL (x:Ch)|cj|cjL (x:Ch)|ng|cm|bd (x:Ch)|sm|smL (x:Ch)|tm|tmL (x:Ch)|fc|li (op:Int)|liL (op:Int) (l:List Ch)
def step (L:List Tk.T4) (f:NT→Nat→R):NT→Nat→R
 | .ex,i=>bnd (f .dj i) fun x j=>if isw L j wImplies=true then bnd (f .ex (j+1)) fun y k=>(some (tn 22 [x,y]),k) else (some x,j)
 | .dj,i=>bnd (f .cj i) fun x j=>f (.djL x) j
 | .djL x,i=>if isw L i wOr=true then bnd (f .cj (i+1)) fun y j=>f (.djL (tn 21 [x,y])) j else (some x,i)
 | .cj,i=>bnd (f .ng i) fun x j=>f (.cjL x) j
 | .cjL x,i=>if isw L i wAnd=true then bnd (f .ng (i+1)) fun y j=>f (.cjL (tn 20 [x,y])) j else (some x,i)
 | .ng,i=>if isw L i wNot=true then bnd (f .ng (i+1)) fun x j=>(some (tn 19 [x]),j) else f .cm i
 | .cm,i=>bnd (f .sm i) fun x j =>
  if isw L j wLess=true then bnd (f .sm (j+1)) fun y k=>(some (tn 16 [x,y]),k)
  else if isw L j wLeq=true then bnd (f .sm (j+1)) fun y k=>(some (tn 17 [x,y]),k)
  else if isw L j wEq=true then bnd (f .sm (j+1)) fun y k=>(some (tn 18 [x,y]),k)
  else if isw L j wIn=true then f (.bd x) (j+1) else (some x,j)
 | .bd x,i=>bnd (f .sm i) fun y j=>if isw L j wTo=true then bnd (f .sm (j+1)) fun z k=>(some (tn 15 [x,y,z]),k) else (none,j)
 | .sm,i=>bnd (f .tm i) fun x j=>f (.smL x) j
 | .smL x,i=>if isw L i wPlus=true then bnd (f .tm (i+1)) fun y j=>f (.smL (tn 8 [x,y])) j
  else if isw L i wMinus=true then bnd (f .tm (i+1)) fun y j=>f (.smL (tn 9 [x,y])) j else (some x,i)
 | .tm,i=>bnd (f .fc i) fun x j=>f (.tmL x) j
 | .tmL x,i=>if isw L i wStar=true then bnd (f .fc (i+1)) fun y j=>f (.tmL (tn 10 [x,y])) j
  else if isw L i wSlash=true then bnd (f .fc (i+1)) fun y j=>f (.tmL (tn 11 [x,y])) j else (some x,i)
 | .fc,i =>
  if isw L i wMinus=true then bnd (f .fc (i+1)) fun x j=>(some (tn 7 [x]),j)
  else if isw L i wTrue=true then (some (lf 4 0 ⟨#[]⟩),i+1)
  else if isw L i wFalse=true then (some (lf 5 0 ⟨#[]⟩),i+1)
  else if isw L i wMin=true then f (.li 12) (i+1)
  else if isw L i wMax=true then f (.li 13) (i+1)
  else if isw L i wIf=true then bnd (f .ex (i+1)) fun a j=>if isw L j wThen=true then bnd (f .ex (j+1)) fun b k=>if isw L k wElse=true then bnd (f .ex (k+1)) fun c m=>(some (tn 14 [a,b,c]),m) else (none,k) else (none,j)
  else if isw L i wOpen=true then bnd (f .ex (i+1)) fun x j=>if isw L j wShut=true then (some x,j+1) else (none,j)
  else leaf L i
 | .li op,i=>if isw L i wOpen=true then f (.liL op []) (i+1) else (none,i)
 | .liL op l,i=>bnd (f .ex i) fun a j=>if 1≤l.length∧isw L j wShut=true then (some (tn op (l++[a])),j+1) else if isw L j wComma=true then f (.liL op (l++[a])) (j+1) else (none,j)
def pz (L:List Tk.T4):Nat→NT→Nat→R
 | 0,_,i=>(none,i)
 | n+1,nt,i=>step L (pz L n) nt i
def rk:NT→Nat
 | .djL _=>0|.cjL _=>0|.smL _=>0|.tmL _=>0|.fc=>1|.li _=>0|.tm=>2|.sm=>3|.bd _=>4|.cm=>5|.ng=>6|.cj=>7|.dj=>8|.ex=>9|.liL _ _=>10
def ps:NT→Nat
 | .djL _=>0|.cjL _=>0|.smL _=>0|.tmL _=>0|_=>1
def need (L:List Tk.T4) (nt:NT) (i:Nat):Nat:=12 * (L.length - i)+rk nt
theorem isw_lt {L:List Tk.T4} {i:Nat} {s:ByteArray} (h:isw L i s=true):i < L.length:=by
 unfold isw at h
 split at h
 · rename_i t ht;exact (List.getElem?_eq_some_iff.1 ht).1
 · cases h
def Ok (L:List Tk.T4) (i:Nat) (r:R) (q:Nat):Prop:=i≤r.2∧r.2≤L.length∧(r.1.isSome=true→i+q≤r.2)
theorem Ok.weak {L:List Tk.T4} {i i':Nat} {r:R} {q q':Nat} (h:Ok L i r q) (h1:i'≤i) (h2:i'+q'≤i+q):Ok L i' r q':=⟨Nat.le_trans h1 h.1,h.2.1,fun s=>Nat.le_trans h2 (h.2.2 s)⟩
theorem ok_none {L:List Tk.T4} {i j q:Nat} (h1:i≤j) (h2:j≤L.length):Ok L i (none,j) q:=⟨h1,h2,fun h=>by cases h⟩
theorem ok_some {L:List Tk.T4} {i j q:Nat} {x:Ch} (h1:i+q≤j) (h2:j≤L.length):Ok L i (some x,j) q:=⟨by show i≤j;omega,h2,fun _=>h1⟩
theorem bnd_ok {L:List Tk.T4} {i p q:Nat} {r:R} {g:Ch→Nat→R} (hr:Ok L i r p) (hg:∀ x j,r=(some x,j)→i+p≤j→j≤L.length→Ok L i (g x j) q):Ok L i (bnd r g) q:=by
 obtain ⟨o,j⟩:=r
 cases o with
 | none=>exact ⟨hr.1,hr.2.1,fun h=>by cases h⟩
 | some x=>exact hg x j rfl (hr.2.2 rfl) hr.2.1
theorem bnd_cg {L:List Tk.T4} {i p:Nat} {r r':R} {g g':Ch→Nat→R} (hr:Ok L i r p) (e:r=r') (hg:∀ x j,r=(some x,j)→i+p≤j→j≤L.length→g x j=g' x j):bnd r g=bnd r' g':=by
 subst e
 obtain ⟨o,j⟩:=r
 cases o with
 | none=>rfl
 | some x=>exact hg x j rfl (hr.2.2 rfl) hr.2.1
theorem if_cg {c:Prop} [Decidable c] {a a' b b':R} (h:c→a=a') (k:¬ c→b=b'):(if c then a else b)=if c then a' else b':=by
 by_cases q:c
 · rw [if_pos q,if_pos q];exact h q
 · rw [if_neg q,if_neg q];exact k q
theorem if_ok {L:List Tk.T4} {i q:Nat} {c:Prop} [Decidable c] {a b:R} (h:c→Ok L i a q) (k:¬ c→Ok L i b q):Ok L i (if c then a else b) q:=by
 by_cases s:c
 · rw [if_pos s];exact h s
 · rw [if_neg s];exact k s
theorem leaf_ok {L:List Tk.T4} {i:Nat} (hi:i≤L.length):Ok L i (leaf L i) 1:=by
 unfold leaf
 split
 · rename_i t ht
   have hl:=(List.getElem?_eq_some_iff.1 ht).1
   split
   · exact ok_some (by omega) (by omega)
   · exact ok_none (by omega) (by omega)
 · exact ok_none (by omega) (by omega)
def Adv (L:List Tk.T4) (f:NT→Nat→R):Prop:=∀ nt i,i≤L.length→Ok L i (f nt i) (ps nt)
theorem step_adv {L:List Tk.T4} {f:NT→Nat→R} (hf:Adv L f):Adv L (step L f):=by
 intro nt i hi
 have one:∀ nt i,i≤L.length→ps nt=1→Ok L i (f nt i) 1:=fun nt i h e=>by have:=hf nt i h;rwa [e] at this
 have zero:∀ nt i,i≤L.length→Ok L i (f nt i) 0:=fun nt i h=>(hf nt i h).weak (Nat.le_refl _) (by omega)
 cases nt
 all_goals
  unfold step
  dsimp only [ps]
  repeat' (first
   | (refine if_ok (fun hw=>?_) (fun hw=>?_);(try have hl:=isw_lt hw);(try have hl:=isw_lt hw.2);clear hw)
   | (refine bnd_ok (p:=1) ((one _ _ (by omega) rfl).weak (by omega) (by omega)) fun x j hr h1 h2=>?_;clear hr)
   | exact ok_none (by omega) (by omega)
   | exact ok_some (by omega) (by omega)
   | exact leaf_ok hi
   | exact (one _ _ (by omega) rfl).weak (by omega) (by omega)
   | exact (zero _ _ (by omega)).weak (by omega) (by omega))
theorem pz_adv (L:List Tk.T4):∀ n,Adv L (pz L n)
 | 0=>fun nt i hi=>ok_none (Nat.le_refl _) hi
 | n+1=>step_adv (pz_adv L n)
theorem step_congr {L:List Tk.T4} {f g:NT→Nat→R} (hf:Adv L f) (nt:NT) (i:Nat) (hi:i≤L.length) (h:∀ nt' i',i'≤L.length→need L nt' i' < need L nt i→f nt' i'=g nt' i'):step L f nt i=step L g nt i:=by
 have one:∀ nt i,i≤L.length→ps nt=1→Ok L i (f nt i) 1:=fun nt i h e=>by have:=hf nt i h;rwa [e] at this
 cases nt
 all_goals
  unfold need at h
  dsimp only [rk] at h
  unfold step
  dsimp only
  repeat' (first
   | rfl
   | (refine if_cg (fun hw=>?_) (fun hw=>?_);(try have hl:=isw_lt hw);(try have hl:=isw_lt hw.2);clear hw)
   | (refine bnd_cg (p:=1) (one _ _ (by omega) rfl) (h _ _ (by omega) (by dsimp only [rk];omega)) fun x j hr h1 h2=>?_;clear hr)
   | exact h _ _ (by omega) (by dsimp only [rk];omega))
theorem pz_more (L:List Tk.T4):∀ n m nt i,i≤L.length→need L nt i < n→need L nt i < m→pz L n nt i=pz L m nt i:=by
 intro n
 induction n with
 | zero=>intro m nt i _ h;omega
 | succ n ih =>
   intro m nt i hi h1 h2
   cases m with
   | zero=>omega
   | succ m=>exact step_congr (pz_adv L n) nt i hi fun nt' i' h' hn=>ih m nt' i' h' (by omega) (by omega)
def pv (L:List Tk.T4) (nt:NT) (i:Nat):R:=pz L (12 * L.length+20) nt i
theorem rk_le (nt:NT):rk nt≤10:=by cases nt<;>simp [rk]
theorem pv_step (L:List Tk.T4) (nt:NT) (i:Nat) (hi:i≤L.length):pv L nt i=step L (pv L) nt i:=by
 have hr:=rk_le nt
 have h:need L nt i < 12 * L.length+20:=by unfold need;omega
 exact pz_more L (12 * L.length+20) (12 * L.length+20+1) nt i hi h (by omega)
theorem pv_adv (L:List Tk.T4):Adv L (pv L):=pz_adv L _
end Pz
end Go.Proofs.YtljdcpobomfnpaaGreat
