/- Dg1 Dg4 Dg7. No condition. -/
import Derived.Test.YtgmpdplpodemaaaGreatDoorBpG1
set_option linter.all false
namespace Go.Dg
section
structure Fo where
 v:Nat
 lo:Nat
 hi:Nat
deriving DecidableEq
instance:Inhabited Fo:=⟨⟨0,0,0⟩⟩
variable {F G D e:List Fo} {f:Fo} {n m i j k s t r u nx n1:Nat} {tab:Nat→Bool}
end
section
variable {F G D e A B:List Fo} {f:Fo} {n m i j k s t r u v w nx n1 l:Nat} {tab φ φ0 φ1:Nat→Bool}
theorem Ay(hb:i<n)(ht:t<2^n):(t|||2^i)<2^n:=Nat.or_lt_two_pow ht (Nat.pow_lt_pow_right (by omega) hb)
theorem Az:(t|||2^i).testBit j=(t.testBit j||decide (i=j)):=by rw[Nat.testBit_or,Nat.testBit_two_pow]
def Z5(n:Nat)(tab:Nat→Bool):Prop:=∀t i,t<2^n→i<n→tab t=true→tab (t|||2^i)=true
end
section
open Go.Bp Go.Sy
variable {F G D e A B:List Fo} {f:Fo} {n m i j k s t r u v w nx n1 l x y:Nat} {tab φ φ0 φ1 p q:Nat→Bool} {xs:List Nat}
def mB(p:Nat→Bool)(xs:List Nat):Nat→List Nat
 |0=>[]
 |j+1=>if(!eO (mB p xs j) (xs.getD j 0)&&p (xs.getD j 0))=true then mB p xs j++[xs.getD j 0] else mB p xs j
def isM(p:Nat→Bool)(x:Nat):Bool:=p x&&(List.range x).all fun y=> !(p y&&decide (dJ y x%65536=0))
theorem iG:isM p x=true↔p x=true∧∀y,y<x→p y=true→¬dJ y x%65536=0:=by
 unfold isM
 rw[Bool.and_eq_true,List.all_eq_true]
 refine and_congr_right fun _=>⟨fun h y hy hp hs=>?_,fun h y hy=>?_⟩
 ·have:=h y (List.mem_range.2 hy)
  rw[hp,decide_eq_true hs] at this;cases this
 ·have:=h y (List.mem_range.1 hy)
  cases hp:p y with
  |false=>rfl
  |true=>rw[decide_eq_false (this hp)];rfl
theorem kM:dJ x x%65536=0:=dR.2 fun _ h=>h
theorem l9(h:dJ x y%65536=0)(h2:dJ y s%65536=0):dJ x s%65536=0:=dR.2 fun i hi=>dR.1 h2 i (dR.1 h i hi)
theorem Og(hp:p x=true):∃m,m≤x∧isM p m=true∧dJ m x%65536=0:=by
 induction x using Nat.strongRecOn with
 |_ x ih=>
  cases h:isM p x with
  |true=>exact⟨x,Nat.le_refl _,h,kM⟩
  |false=>
   have:¬∀y,y<x→p y=true→¬dJ y x%65536=0:=fun hc=>by
    rw[iG.2 ⟨hp,hc⟩] at h;cases h
   simp only[Classical.not_forall,Decidable.not_not] at this
   obtain⟨y,hy,hpy,hs⟩:=this
   obtain⟨m,h1,h2,h3⟩:=ih y hy hpy
   exact⟨m,by omega,h2,l9 h3 hs⟩
theorem uo(h:dJ x y%65536=0)(hx:x<65536)(hy:y<65536):x≤y:=by
 have hb:=dR.1 h
 have e:x&&&y=x:=by
  apply Nat.eq_of_testBit_eq
  intro i
  rw[Nat.testBit_and]
  have:=hb i
  unfold bit at this
  rw[Nat.mod_eq_of_lt hx,Nat.mod_eq_of_lt hy] at this
  cases h1:x.testBit i with
  |false=>rfl
  |true=>rw[this h1];rfl
 rw[←e];exact Nat.and_le_right
theorem wB(h:k<xs.length):xs.take (k+1)=xs.take k++[xs.getD k 0]:=by
 rw[List.take_add_one,List.getD_eq_getElem?_getD,List.getElem?_eq_getElem h];rfl
end
