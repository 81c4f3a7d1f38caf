import Derived.Test.YtcejjdmnlejbaaaGreatDoorBTxtDurM
import Derived.Test.YtcejjdmnlejbaaaGreatDoorBKte
namespace Go.Proofs.YtcejjdmnlejbaaaGreatDoor
set_option linter.unusedVariables false
set_option linter.unusedSimpArgs false
open Go
namespace Tk
def inW (c:UInt8):Bool:=decide ((97≤c.toNat∧c.toNat≤122)∨(48≤c.toNat∧c.toNat≤57)∨c.toNat=95∨c.toNat=46∨c.toNat=58∨c.toNat=64)
def inS (c:UInt8):Bool:=decide (c.toNat=43∨c.toNat=45∨c.toNat=42∨c.toNat=47∨c.toNat=40∨c.toNat=41∨c.toNat=44∨c.toNat=60∨c.toNat=61)
def has (l:List UInt8) (k:Nat):Bool:=l.any fun c=>decide (c.toNat=k)
structure T3 where
 kind:Int
 text:ByteArray
 num:Int
def numOk (l:List UInt8):Bool:=decide (1≤l.length∧l.length≤13∧Txt.allD l=true∧¬ ((l.getD 0 0).toNat=48∧1 < l.length)∧Txt.num l≤1099511627776)
def word (s:ByteArray):Option T3 :=
 if 97≤(s.data.toList.getD 0 0).toNat∧(s.data.toList.getD 0 0).toNat≤122 then (if 33 < s.size∨has s.data.toList 58=true∨has s.data.toList 64=true then none else some ⟨1,s,0⟩)
 else if (s.data.toList.getD 0 0).toNat=64 then (if pcE (s.extract 1 s.size)=0 then some ⟨4,⟨#[]⟩,pcV (s.extract 1 s.size)⟩ else none)
 else if has s.data.toList 58=true then (if Txt.duE s.data.toList=0 then some ⟨3,⟨#[]⟩,Txt.duV s.data.toList⟩ else none)
 else if numOk s.data.toList=true then some ⟨2,⟨#[]⟩,Txt.num s.data.toList⟩ else none
def sgn (l:List UInt8):Nat:=if (l.getD 0 0).toNat=60∧(l.getD 1 0).toNat=61 then 2 else if 1≤l.length∧inS (l.getD 0 0)=true then 1 else 0
def wl (l:List UInt8):Nat:=(l.takeWhile inW).length
def tokAt (s:ByteArray) (i:Nat):Option T3 × Nat :=
 if inW (s.data.toList.getD i 0)=true then (word (s.extract i (i+wl (s.data.toList.drop i))),wl (s.data.toList.drop i))
 else (if sgn (s.data.toList.drop i)=0 then none else some ⟨5,s.extract i (i+sgn (s.data.toList.drop i)),0⟩,sgn (s.data.toList.drop i))
structure T4 where
 t:T3
 at':Int
def scan (s:ByteArray):Nat→Nat→List T4→List T4 × Int × Int
 | 0,_,D=>(D,0,0)
 | n+1,i,D =>
   if s.size≤i then (D,0,0) else if (s.data.toList.getD i 0).toNat=35 then (D,0,0) else if (s.data.toList.getD i 0).toNat=32 then scan s n (i+1) D else
   match tokAt s i with
   | (none,_)=>([],i,1)
   | (some t,k)=>if D.length=400 then ([],i,10) else scan s n (i+k) (D++[⟨t,i⟩])
theorem wl_le (l:List UInt8):wl l≤l.length:=List.Sublist.length_le (List.takeWhile_sublist _)
theorem wl_pos (l:List UInt8) (h:inW (l.getD 0 0)=true) (hl:1≤l.length):1≤wl l:=by
 cases l with
 | nil=>simp at hl
 | cons c l =>
   have h':inW c=true:=by simpa using h
   unfold wl
   rw [List.takeWhile_cons,if_pos h']
   simp
theorem sgn_le (l:List UInt8):sgn l≤l.length:=by
 unfold sgn
 split
 · rename_i h
   cases l with
   | nil=>simp at h
   | cons a l=>cases l with
     | nil=>simp at h
     | cons b l=>simp
 · split
   · rename_i h;exact h.1
   · exact Nat.zero_le _
theorem getD_drop (l:List UInt8) (i:Nat):(l.drop i).getD 0 0=l.getD i 0:=by
 rw [List.getD_eq_getElem?_getD,List.getD_eq_getElem?_getD,List.getElem?_drop,Nat.add_zero]
theorem tok_len (s:ByteArray) (i:Nat) (hi:i < s.size) (t:T3) (k:Nat) (h:tokAt s i=(some t,k)):1≤k∧i+k≤s.size:=by
 have hl:s.data.toList.length=s.size:=Array.length_toList
 unfold tokAt at h
 by_cases hw:inW (s.data.toList.getD i 0)=true
 · rw [if_pos hw] at h
   have e:=(Prod.mk.inj h).2
   rw [← e]
   have h1:=wl_le (s.data.toList.drop i)
   rw [List.length_drop,hl] at h1
   refine ⟨wl_pos _ (by rw [getD_drop];exact hw) (by rw [List.length_drop,hl];omega),by omega⟩
 · rw [if_neg hw] at h
   obtain ⟨e1,e2⟩:=Prod.mk.inj h
   rw [← e2]
   have h1:=sgn_le (s.data.toList.drop i)
   rw [List.length_drop,hl] at h1
   by_cases q:sgn (s.data.toList.drop i)=0
   · rw [if_pos q] at e1;cases e1
   · exact ⟨by omega,by omega⟩
theorem scan_more (s:ByteArray):∀ (n m i:Nat) (D:List T4),s.size≤i+n→s.size≤i+m→scan s n i D=scan s m i D:=by
 intro n
 induction n with
 | zero =>
   intro m i D h1 h2
   cases m with
   | zero=>rfl
   | succ m=>rw [scan,scan,if_pos (by omega)]
 | succ n ih =>
   intro m i D h1 h2
   by_cases hi:s.size≤i
   · rw [scan,if_pos hi]
     cases m with
     | zero=>rw [scan]
     | succ m=>rw [scan,if_pos hi]
   · cases m with
     | zero=>omega
     | succ m =>
       rw [scan,scan,if_neg hi,if_neg hi]
       split
       · rfl
       · split
         · exact ih m (i+1) D (by omega) (by omega)
         · cases hq:tokAt s i with
           | mk o k =>
             cases o with
             | none=>rfl
             | some t =>
               have hk:=tok_len s i (by omega) t k hq
               dsimp only
               split
               · rfl
               · exact ih m (i+k) _ (by omega) (by omega)
def scanT (s:ByteArray):List T4 × Int × Int:=scan s s.size 0 []
theorem scan_step (s:ByteArray) (i:Nat) (D:List T4) (hi:i < s.size):scan s (s.size - i) i D =
 if (s.data.toList.getD i 0).toNat=35 then (D,0,0) else if (s.data.toList.getD i 0).toNat=32 then scan s (s.size - (i+1)) (i+1) D else
 match tokAt s i with
 | (none,_)=>([],(i:Int),1)
 | (some t,k)=>if D.length=400 then ([],(i:Int),10) else scan s (s.size - (i+k)) (i+k) (D++[⟨t,i⟩]):=by
 obtain ⟨n,hn⟩:∃ n,s.size - i=n+1:=⟨s.size - i - 1,by omega⟩
 rw [hn,scan,if_neg (by omega)]
 split
 · rfl
 · split
   · exact scan_more s _ _ _ _ (by omega) (by omega)
   · cases hq:tokAt s i with
     | mk o k =>
       cases o with
       | none=>rfl
       | some t =>
         have hk:=tok_len s i hi t k hq
         dsimp only
         split
         · rfl
         · exact scan_more s _ _ _ _ (by omega) (by omega)
theorem scan_end (s:ByteArray) (i:Nat) (D:List T4) (hi:s.size≤i):scan s (s.size - i) i D=(D,0,0):=by
 rw [show s.size - i=0 by omega,scan]
end Tk
end Go.Proofs.YtcejjdmnlejbaaaGreatDoor
