/- Dg9. No condition. -/
import Derived.Test.YtgmpdplpodemaaaGreatDoorDiG4
set_option linter.all false
set_option maxHeartbeats 4000000
set_option maxRecDepth 20000
namespace Go.Proofs.YtgmpdplpodemaaaGreatDoor
open Go Go.Sy Go.Bp Go.Dg
variable {n N M T L k i m r a b j w u v s q x y d:Nat} {F D:List Fo} {p f g:Nat→Bool} {ms xs:List Nat}
structure sW(n:Nat)(p:Nat→Bool)(ms:List Nat):Prop where
 bef:ms.Pairwise fun a b=>bef a b=true
 ord:ms.Pairwise fun a b=>¬dJ b a%65536=0
 lt:∀m∈ms,m<2^n
 mem:∀m,m<2^n→(m∈ms↔isM p m=true)
theorem UX:∀(m i:Nat),(∀j,i≤j→j<i+m→xs.getD j default%65536<4096∧(0<j→bef (xs.getD (j-1) default) (xs.getD j default)=true))→fe xs m i=0:=by
 intro m
 induction m with
 |zero=>intro i _;rfl
 |succ m ih=>
  intro i h
  have h0:=h i (Nat.le_refl _) (by omega)
  rw[aae h0.1 h0.2]
  exact ih (i+1) fun j h1 h2=>h j (by omega) (by omega)
theorem gD{l:List Nat} {i:Nat}(h:i<l.length):l.getD i default=l[i]:=by rw[List.getD_eq_getElem?_getD,List.getElem?_eq_getElem h];rfl
theorem Oy(hn:n≤6)(h:sW n p ms):pR ms=0:=by
 have hp:2^n≤2^6:=Nat.pow_le_pow_right (by omega) hn
 have h1:fe ms ms.length 0=0:=UX _ _ fun j _ hj=>by
  have hj:j<ms.length:=by omega
  have hm:=h.lt _ (List.getElem_mem hj)
  refine⟨by rw[gD hj];omega,fun h0=>?_⟩
  rw[gD hj,gD (show j-1<ms.length by omega)]
  exact List.pairwise_iff_getElem.1 h.bef (j-1) j (by omega) hj (by omega)
 rw[FR rfl h1,Ot rfl]
 ·rfl
 ·intro i hi
  refine KF (n:=ms.length) (fun k hk hik hs=>?_) rfl hi
  rw[gD hk,gD hi] at hs
  have mk:=h.lt _ (List.getElem_mem hk)
  have mi:=h.lt _ (List.getElem_mem hi)
  have hki:isM p ms[k]=true:=(h.mem _ mk).1 (List.getElem_mem hk)
  have hii:isM p ms[i]=true:=(h.mem _ mi).1 (List.getElem_mem hi)
  have hle:=Ii hs
  rw[Nat.mod_eq_of_lt (by omega),Nat.mod_eq_of_lt (by omega)] at hle
  have hne:¬ms[k]=ms[i]:=fun e=>by
   rcases Nat.lt_trichotomy i k with h1|h1|h1
   ·have:=List.pairwise_iff_getElem.1 h.ord i k hi hk h1
    rw[e] at this;exact this kM
   ·exact hik h1
   ·have:=List.pairwise_iff_getElem.1 h.ord k i hk hi h1
    rw[e] at this;exact this kM
  exact(iG.1 hii).2 _ (by omega) (iG.1 hki).1 hs
theorem jl{l:List Nat} {t:Nat}:eO l t=true↔∃m∈l,dJ m t%65536=0:=by
 unfold eO
 rw[List.any_eq_true]
 exact⟨fun⟨m,h1,h2⟩=>⟨m,h1,of_decide_eq_true h2⟩,fun⟨m,h1,h2⟩=>⟨m,h1,decide_eq_true h2⟩⟩
theorem Oz(hn:n≤6)(hm:Z5 n p):∀(c x y:Nat),x<2^n→y<2^n→(∀i,x.testBit i=true→y.testBit i=true)→((List.range n).filter fun i=>y.testBit i&& !x.testBit i).length≤c→p x=true→p y=true:=by
 intro c
 induction c with
 |zero=>
  intro x y hx hy hs hc hp
  have e:x=y:=by
   apply Nat.eq_of_testBit_eq
   intro i
   cases h1:x.testBit i with
   |true=>rw[hs i h1]
   |false=>
    cases h2:y.testBit i with
    |false=>rfl
    |true=>
     have hin:i<n:=Decidable.not_not.1 fun hc=>by
      have:2^n≤2^i:=Nat.pow_le_pow_right (by omega) (by omega)
      rw[Nat.testBit_lt_two_pow (by omega)] at h2;cases h2
     have:i∈(List.range n).filter fun i=>y.testBit i&& !x.testBit i:=List.mem_filter.2 ⟨List.mem_range.2 hin,by rw[h2,h1];rfl⟩
     rw[List.length_eq_zero_iff.1 (Nat.le_zero.1 hc)] at this;cases this
  rw[←e];exact hp
 |succ c ih=>
  intro x y hx hy hs hc hp
  by_cases h:∃i,i<n∧y.testBit i=true∧x.testBit i=false
  ·obtain⟨i,hi,h1,h2⟩:=h
   refine ih (x|||2^i) y (Ay hi hx) hy (fun j hj=>?_) ?_ (hm x i hx hi hp)
   ·rw[Az] at hj
    rcases Bool.or_eq_true _ _▸hj with h|h
    ·exact hs j h
    ·rw[←of_decide_eq_true h];exact h1
   ·have key:((List.range n).filter fun j=>y.testBit j&& !(x|||2^i).testBit j).length<((List.range n).filter fun j=>y.testBit j&& !x.testBit j).length:=by
     have e:((List.range n).filter fun j=>y.testBit j&& !(x|||2^i).testBit j)=((List.range n).filter fun j=>y.testBit j&& !x.testBit j).filter fun j=> !decide (i=j):=by
      rw[List.filter_filter]
      refine List.filter_congr fun j _=>?_
      rw[Az]
      cases y.testBit j<;>cases x.testBit j<;>cases decide (i=j)<;>rfl
     rw[e]
     have hmem:i∈(List.range n).filter fun j=>y.testBit j&& !x.testBit j:=List.mem_filter.2 ⟨List.mem_range.2 hi,by rw[h1,h2];rfl⟩
     exact List.length_filter_lt_length_iff_exists.2 ⟨i,hmem,by simp⟩
    omega
  ·refine ih x y hx hy hs ?_ hp
   have:((List.range n).filter fun i=>y.testBit i&& !x.testBit i)=[]:=List.filter_eq_nil_iff.2 fun i hi hc=>by
    simp only[Bool.and_eq_true,Bool.not_eq_true'] at hc
    exact h ⟨i,List.mem_range.1 hi,hc.1,hc.2⟩
   rw[this];exact Nat.zero_le _
theorem OA(hn:n≤6)(h:sW n p ms):Z5 n p↔∀t,t<2^n→eO ms t=p t:=by
 have hp:2^n≤2^6:=Nat.pow_le_pow_right (by omega) hn
 have bits:∀{x y:Nat},x<2^n→y<2^n→(dJ x y%65536=0↔∀i,x.testBit i=true→y.testBit i=true):=fun{x y} hx hy=>by
  rw[dR]
  unfold bit
  rw[Nat.mod_eq_of_lt (show x<65536 by omega),Nat.mod_eq_of_lt (show y<65536 by omega)]
 constructor
 ·intro hm t ht
  rw[Bool.eq_iff_iff,jl]
  constructor
  ·rintro⟨m,h1,h2⟩
   have hml:=h.lt m h1
   exact Oz hn hm _ m t hml ht ((bits hml ht).1 h2) (Nat.le_refl _) (iG.1 ((h.mem m hml).1 h1)).1
  ·intro hpt
   obtain⟨m,h1,h2,h3⟩:=Og hpt
   exact⟨m,(h.mem m (by omega)).2 h2,h3⟩
 ·intro hh t i ht hi hpt
  have ht2:=Ay hi ht
  rw[←hh t ht,jl] at hpt
  rw[←hh _ ht2,jl]
  obtain⟨m,h1,h2⟩:=hpt
  refine⟨m,h1,(bits (h.lt m h1) ht2).2 fun j hj=>?_⟩
  rw[Az,(bits (h.lt m h1) ht).1 h2 j hj];rfl
