/- Dg1 Dg2 Dg3 Dg6 Dg5 Dg7 Dg8. No condition. -/
import Derived.Test.YtcbginhpibfgaaaGreatDoorBpG1
set_option linter.all false
namespace Go.Dg
section
structure Fo where
 v:Nat
 lo:Nat
 hi:Nat
deriving DecidableEq
instance:Inhabited Fo:=⟨⟨0,0,0⟩⟩
variable {F G D e:List Fo} {f:Fo} {n m i j k s t r u nx n1:Nat} {tab:Nat→Bool}
def mkF(F:List Fo)(v lo hi:Nat):List Fo×Nat:=
 if lo=hi then(F,lo) else if(⟨v,lo,hi⟩:Fo)∈F then(F,F.idxOf ⟨v,lo,hi⟩+2) else(F++[⟨v,lo,hi⟩],F.length+2)
def gen(tab:Nat→Bool):Nat→Nat→Nat→List Fo→List Fo×Nat
 |0,i,s,F=>(F,if tab s=true then 1 else 0)
 |m+1,i,s,F=>mkF (gen tab m (i+1) (s|||2^i) (gen tab m (i+1) s F).1).1 i (gen tab m (i+1) s F).2 (gen tab m (i+1) (s|||2^i) (gen tab m (i+1) s F).1).2
theorem Ey:gen tab 0 i s F=(F,if tab s=true then 1 else 0):=rfl
theorem wF(h1:gen tab m (i+1) s F=(G,j))(h2:gen tab m (i+1) (s|||2^i) G=(D,k)):gen tab (m+1) i s F=mkF D i j k:=by
 simp only[gen,h1,h2]
theorem qX:mkF F i j j=(F,j):=by simp[mkF]
theorem Ez(h:¬j=k)(h2:(⟨i,j,k⟩:Fo)∈F):mkF F i j k=(F,F.idxOf ⟨i,j,k⟩+2):=by simp[mkF,h,h2]
theorem tu(h:¬j=k)(h2:¬(⟨i,j,k⟩:Fo)∈F):mkF F i j k=(F++[⟨i,j,k⟩],F.length+2):=by simp[mkF,h,h2]
def aP(n:Nat)(F:List Fo)(r:Nat):Nat:=if r<2 then n else(F.getD (r-2) default).v
def qY(F:List Fo)(t:Nat):Nat→Nat→Bool
 |0,r=>decide (r=1)
 |k+1,r=>if r<2 then decide (r=1) else if t.testBit (F.getD (r-2) default).v=true then qY F t k (F.getD (r-2) default).hi else qY F t k (F.getD (r-2) default).lo
def aG(F:List Fo)(t r:Nat):Bool:=qY F t r r
structure FkOk(n:Nat)(F:List Fo)(k:Nat)(f:Fo):Prop where
 v:f.v<n
 lo:f.lo<k+2
 hi:f.hi<k+2
 ne:¬f.lo=f.hi
 sl:f.v<aP n F f.lo
 sh:f.v<aP n F f.hi
structure Good(n:Nat)(F:List Fo):Prop where
 ok:∀k,k<F.length→FkOk n F k (F.getD k default)
 nd:F.Nodup
theorem iY(h:r<2):∀k,qY F t k r=decide (r=1)
 |0=>rfl
 |k+1=>by simp[qY,h]
theorem Il(hg:Good n F):∀(k m r:Nat),r≤k→r≤m→r<F.length+2→qY F t k r=qY F t m r:=by
 intro k
 induction k with
 |zero=>intro m r hk hm hr;rw[iY (by omega),iY (by omega)]
 |succ k ih=>
  intro m r hk hm hr
  by_cases h2:r<2
  ·rw[iY h2,iY h2]
  ·cases m with
   |zero=>omega
   |succ m=>
    have ho:=hg.ok (r-2) (by omega)
    have h1:=ho.lo;have h3:=ho.hi
    simp only[qY,if_neg h2]
    rw[ih m _ (by omega) (by omega) (by omega),ih m _ (by omega) (by omega) (by omega)]
theorem mq(h:r<2):aG F t r=decide (r=1):=iY h _
theorem jG(hg:Good n F)(h2:¬r<2)(hr:r<F.length+2):aG F t r=if t.testBit (F.getD (r-2) default).v=true then aG F t (F.getD (r-2) default).hi else aG F t (F.getD (r-2) default).lo:=by
 have ho:=hg.ok (r-2) (by omega)
 have h1:=ho.lo;have h3:=ho.hi
 unfold aG
 obtain⟨k,rfl⟩:∃k,r=k+1:=⟨r-1,by omega⟩
 rw[qY,if_neg h2,Il hg k _ _ (by omega) (Nat.le_refl _) (by omega),Il hg k _ _ (by omega) (Nat.le_refl _) (by omega)]
theorem qZ(h:k<F.length):(F++e).getD k default=F.getD k default:=by
 rw[List.getD_eq_getElem?_getD,List.getElem?_append_left h,←List.getD_eq_getElem?_getD]
theorem wG:(F++[f]).getD F.length default=f:=by simp[List.getD_eq_getElem?_getD]
theorem lQ(h:r<F.length+2):aP n (F++e) r=aP n F r:=by
 unfold aP
 split
 ·rfl
 ·rw[qZ (by omega)]
theorem Wp(hg:Good n F):∀(k r:Nat),r<F.length+2→qY (F++e) t k r=qY F t k r:=by
 intro k
 induction k with
 |zero=>intro r _;rfl
 |succ k ih=>
  intro r hr
  by_cases h2:r<2
  ·rw[iY h2,iY h2]
  ·have ho:=hg.ok (r-2) (by omega)
   have h1:=ho.lo;have h3:=ho.hi
   simp only[qY,if_neg h2]
   rw[qZ (by omega),ih _ (by omega),ih _ (by omega)]
theorem EA(hg:Good n F)(hr:r<F.length+2):aG (F++e) t r=aG F t r:=Wp hg r r hr
theorem Good.take(hg:Good n F)(k:Nat):Good n (F.take k):=by
 refine⟨fun j hj=>?_,hg.nd.sublist (List.take_sublist _ _)⟩
 have hj2:j<k∧j<F.length:=by simp at hj;omega
 have ho:=hg.ok j hj2.2
 have e0:(F.take k).getD j default=F.getD j default:=by
  rw[List.getD_eq_getElem?_getD,List.getElem?_take_of_lt hj2.1,←List.getD_eq_getElem?_getD]
 have e1:∀r,r<j+2→aP n (F.take k) r=aP n F r:=fun r hr=>by
  unfold aP
  split
  ·rfl
  ·rw[List.getD_eq_getElem?_getD,List.getElem?_take_of_lt (by omega),←List.getD_eq_getElem?_getD]
 rw[e0]
 exact⟨ho.v,ho.lo,ho.hi,ho.ne,by rw[e1 _ ho.lo];exact ho.sl,by rw[e1 _ ho.hi];exact ho.sh⟩
theorem Good.snoc(hg:Good n F)(hi:i<n)(hj:j<F.length+2)(hk:k<F.length+2)(hne:¬j=k)(hsj:i<aP n F j)(hsk:i<aP n F k)(hnew:¬(⟨i,j,k⟩:Fo)∈F):Good n (F++[⟨i,j,k⟩]):=by
 refine⟨fun q hq=>?_,?_⟩
 ·rw[List.length_append,List.length_singleton] at hq
  by_cases e:q=F.length
  ·subst e
   rw[wG]
   exact⟨hi,hj,hk,hne,by rw[lQ hj];exact hsj,by rw[lQ hk];exact hsk⟩
  ·have ho:=hg.ok q (by omega)
   have h1:=ho.lo;have h2:=ho.hi
   rw[qZ (by omega)]
   exact⟨ho.v,h1,h2,ho.ne,by rw[lQ (by omega)];exact ho.sl,by rw[lQ (by omega)];exact ho.sh⟩
 ·rw[List.nodup_append]
  refine⟨hg.nd,by simp,fun a ha b hb=>?_⟩
  rw[List.mem_singleton.1 hb]
  rintro rfl
  exact hnew ha
theorem Good.nil:Good n []:=⟨fun k hk=>absurd hk (by simp),List.nodup_nil⟩
def Ext(n i s t:Nat):Prop:=t<2^n∧∀j,j<i→t.testBit j=s.testBit j
theorem Ext.low(h:Ext n i s t)(hs:s<2^i)(hb:t.testBit i=false):Ext n (i+1) s t:=⟨h.1,fun j hj=>by
 by_cases e:j=i
 ·subst e;rw[hb,Nat.testBit_lt_two_pow hs]
 ·exact h.2 j (by omega)⟩
theorem Wq(hs:s<2^i)(hj:j<i):(s|||2^i).testBit j=s.testBit j:=by
 rw[Nat.testBit_or,Nat.testBit_two_pow,decide_eq_false (by omega),Bool.or_false]
theorem Ext.high(h:Ext n i s t)(hs:s<2^i)(hb:t.testBit i=true):Ext n (i+1) (s|||2^i) t:=⟨h.1,fun j hj=>by
 by_cases e:j=i
 ·subst e;rw[hb,Nat.testBit_or,Nat.testBit_two_pow];simp
 ·rw[Wq hs (by omega)];exact h.2 j (by omega)⟩
theorem Ext.of_low(h:Ext n (i+1) s t):Ext n i s t:=⟨h.1,fun j hj=>h.2 j (by omega)⟩
theorem Ext.of_high(h:Ext n (i+1) (s|||2^i) t)(hs:s<2^i):Ext n i s t:=⟨h.1,fun j hj=>by rw[h.2 j (by omega),Wq hs hj]⟩
theorem Ext.b0(h:Ext n (i+1) s t)(hs:s<2^i):t.testBit i=false:=by rw[h.2 i (by omega),Nat.testBit_lt_two_pow hs]
theorem Ext.b1(h:Ext n (i+1) (s|||2^i) t):t.testBit i=true:=by rw[h.2 i (by omega),Nat.testBit_or,Nat.testBit_two_pow];simp
theorem kI(hs:s<2^i):(s|||2^i)<2^(i+1):=Nat.or_lt_two_pow (Nat.lt_of_lt_of_le hs (Nat.pow_le_pow_right (by omega) (by omega))) (Nat.pow_lt_pow_right (by omega) (by omega))
theorem u7(hs:s<2^i):s<2^(i+1):=Nat.lt_of_lt_of_le hs (Nat.pow_le_pow_right (by omega) (by omega))
theorem Ext.end_(h:Ext n n s t)(hs:s<2^n):t=s:=by
 apply Nat.eq_of_testBit_eq
 intro j
 by_cases hj:j<n
 ·exact h.2 j hj
 ·rw[Nat.testBit_lt_two_pow (Nat.lt_of_lt_of_le h.1 (Nat.pow_le_pow_right (by omega) (by omega))),Nat.testBit_lt_two_pow (Nat.lt_of_lt_of_le hs (Nat.pow_le_pow_right (by omega) (by omega)))]
structure Ay(tab:Nat→Bool)(n i s:Nat)(F:List Fo)(r:Nat):Prop where
 lt:r<F.length+2
 srv:i≤aP n F r
 val:∀t,Ext n i s t→aG F t r=tab t
theorem ahK(hn:F.Nodup)(hk:k<F.length):F.idxOf (F.getD k default)=k:=by
 have e:F.getD k default=F[k]:=by simp[List.getD_eq_getElem?_getD,hk]
 rw[e];exact hn.idxOf_getElem k hk
theorem NY(hk:k<F.length):F.getD k default∈F:=by
 have e:F.getD k default=F[k]:=by simp[List.getD_eq_getElem?_getD,hk]
 rw[e];exact List.getElem_mem hk
theorem wH(hs:s<2^i)(hi:i≤n):Ext n i s s:=⟨Nat.lt_of_lt_of_le hs (Nat.pow_le_pow_right (by omega) hi),fun _ _=>rfl⟩
theorem q8(hg:Good n F):∀(m i s r:Nat),i+m=n→s<2^i→Ay tab n i s F r→gen tab m i s F=(F,r):=by
 intro m
 induction m with
 |zero=>
  intro i s r hi hs hr
  have hin:i=n:=by omega
  subst hin
  have h2:r<2:=by
   rcases Nat.lt_or_ge r 2 with h|h
   ·exact h
   ·have:=hr.srv
    unfold aP at this
    rw[if_neg (by omega)] at this
    have ho:=hg.ok (r-2) (by have:=hr.lt;omega)
    have:=ho.v
    omega
  have:=hr.val s (wH hs (Nat.le_refl _))
  rw[mq h2] at this
  rw[Ey,←this]
  have:r=0∨r=1:=by omega
  rcases this with rfl|rfl<;>rfl
 |succ m ih=>
  intro i s r hi hs hr
  by_cases h:aP n F r=i
  ·have h2:¬r<2:=fun h2=>by unfold aP at h;rw[if_pos h2] at h;omega
   have hv:(F.getD (r-2) default).v=i:=by unfold aP at h;rw[if_neg h2] at h;exact h
   have hlt:=hr.lt
   have ho:=hg.ok (r-2) (by omega)
   have e1:=ih (i+1) s (F.getD (r-2) default).lo (by omega) (u7 hs) ⟨by have:=ho.lo;omega,by have:=ho.sl;omega,fun t ht=>by
    rw[←hr.val t ht.of_low,jG hg h2 hlt,hv,ht.b0 hs];simp⟩
   have e2:=ih (i+1) (s|||2^i) (F.getD (r-2) default).hi (by omega) (kI hs) ⟨by have:=ho.hi;omega,by have:=ho.sh;omega,fun t ht=>by
    rw[←hr.val t (ht.of_high hs),jG hg h2 hlt,hv,ht.b1];simp⟩
   rw[wF e1 e2]
   have ef:(⟨i,(F.getD (r-2) default).lo,(F.getD (r-2) default).hi⟩:Fo)=F.getD (r-2) default:=by rw[←hv]
   have hm:(⟨i,(F.getD (r-2) default).lo,(F.getD (r-2) default).hi⟩:Fo)∈F:=by rw[ef];exact NY (by omega)
   rw[Ez ho.ne hm,ef,ahK hg.nd (by omega)]
   congr 1;omega
  ·have hsv:=hr.srv
   have e1:=ih (i+1) s r (by omega) (u7 hs) ⟨hr.lt,by omega,fun t ht=>hr.val t ht.of_low⟩
   have e2:=ih (i+1) (s|||2^i) r (by omega) (kI hs) ⟨hr.lt,by omega,fun t ht=>hr.val t (ht.of_high hs)⟩
   rw[wF e1 e2,qX]
structure afe(tab:Nat→Bool)(n i s:Nat)(F F':List Fo)(r:Nat):Prop where
 good:Good n F'
 pre:∃e,F'=F++e∧∀f∈e,i≤f.v
 rep:Ay tab n i s F' r
theorem Ay.pre(hg:Good n F)(h:Ay tab n i s F r):Ay tab n i s (F++e) r:=
 ⟨by have:=h.lt;simp;omega,by rw[lQ h.lt];exact h.srv,fun t ht=>by rw[EA hg h.lt];exact h.val t ht⟩
theorem yx:∀(m i s:Nat) (F:List Fo),Good n F→i+m=n→s<2^i→afe tab n i s F (gen tab m i s F).1 (gen tab m i s F).2:=by
 intro m
 induction m with
 |zero=>
  intro i s F hg hi hs
  have hin:i=n:=by omega
  subst hin
  rw[Ey]
  refine⟨hg,⟨[],by simp,by simp⟩,⟨?_,?_,fun t ht=>?_⟩⟩
  ·show(if tab s=true then 1 else 0)<F.length+2;split<;>omega
  ·show i≤aP i F (if tab s=true then 1 else 0)
   unfold aP;rw[if_pos (by split<;>omega)];exact Nat.le_refl _
  ·show aG F t (if tab s=true then 1 else 0)=tab t
   rw[ht.end_ hs,mq (by split<;>omega)]
   cases tab s<;>rfl
 |succ m ih=>
  intro i s F hg hi hs
  have h1:=ih (i+1) s F hg (by omega) (u7 hs)
  generalize hA:gen tab m (i+1) s F=A at h1
  have h2:=ih (i+1) (s|||2^i) A.1 h1.good (by omega) (kI hs)
  generalize hB:gen tab m (i+1) (s|||2^i) A.1=B at h2
  obtain⟨A1,lo⟩:=A
  obtain⟨B1,hi'⟩:=B
  rw[wF hA hB]
  obtain⟨e1,rfl,he1⟩:=h1.pre
  obtain⟨e2,rfl,he2⟩:=h2.pre
  dsimp only at*
  have hlo:Ay tab n (i+1) s (F++e1++e2) lo:=h1.rep.pre h1.good
  have hhi:=h2.rep
  have hpre:∃e,F++e1++e2=F++e∧∀f∈e,i≤f.v:=⟨e1++e2,by rw[List.append_assoc],fun f hf=>by
   rcases List.mem_append.1 hf with h|h
   ·have:=he1 f h;omega
   ·have:=he2 f h;omega⟩
  generalize F++e1++e2=G at*
  by_cases he:lo=hi'
  ·subst he
   rw[qX]
   refine⟨h2.good,hpre,⟨hlo.lt,by have:=hlo.srv;show i≤aP n G lo;omega,fun t ht=>?_⟩⟩
   cases hb:t.testBit i with
   |false=>exact hlo.val t (ht.low hs hb)
   |true=>exact hhi.val t (ht.high hs hb)
  ·have key:∀(D:List Fo) (k:Nat),Good n D→k<D.length→D.getD k default=⟨i,lo,hi'⟩→Ay tab n (i+1) s D lo→Ay tab n (i+1) (s|||2^i) D hi'→Ay tab n i s D (k+2):=fun D k hD hk ed hl hh=>by
    refine⟨by omega,?_,fun t ht=>?_⟩
    ·unfold aP;rw[if_neg (by omega),Nat.add_sub_cancel,ed];exact Nat.le_refl _
    ·rw[jG hD (by omega) (by omega),Nat.add_sub_cancel,ed]
     dsimp only
     cases hb:t.testBit i with
     |false=>simpa using hl.val t (ht.low hs hb)
     |true=>simpa using hh.val t (ht.high hs hb)
   by_cases hm:(⟨i,lo,hi'⟩:Fo)∈G
   ·rw[Ez he hm]
    have hk:G.idxOf ⟨i,lo,hi'⟩<G.length:=List.idxOf_lt_length_iff.2 hm
    refine⟨h2.good,hpre,key G _ h2.good hk ?_ hlo hhi⟩
    rw[List.getD_eq_getElem?_getD,List.getElem?_eq_getElem hk,Option.getD_some,List.getElem_idxOf]
   ·rw[tu he hm]
    have hg':=h2.good.snoc (i:=i) (j:=lo) (k:=hi') (by omega) hlo.lt hhi.lt he (by have:=hlo.srv;omega) (by have:=hhi.srv;omega) hm
    obtain⟨e,rfl,hee⟩:=hpre
    refine⟨hg',⟨e++[⟨i,lo,hi'⟩],by simp,fun f hf=>?_⟩,key _ _ hg' (by simp) wG (hlo.pre h2.good) (hhi.pre h2.good)⟩
    rcases List.mem_append.1 hf with h|h
    ·exact hee f h
    ·rw[List.mem_singleton.1 h];exact Nat.le_refl _
def lS(F:List Fo):Nat→Nat→Nat→Option Nat
 |0,r,nx=>some nx
 |k+1,r,nx=>if r<2∨r<nx then some nx else(lS F k (F.getD (r-2) default).lo nx).bind fun n1=>(lS F k (F.getD (r-2) default).hi n1).bind fun n2=>if r=n2 then some (n2+1) else none
theorem iQ(h:r<2∨r<nx):lS F k r nx=some nx:=by cases k<;>simp[lS,h]
theorem rf(h:¬(r<2∨r<nx)):lS F (k+1) r nx=(lS F k (F.getD (r-2) default).lo nx).bind fun n1=>(lS F k (F.getD (r-2) default).hi n1).bind fun n2=>if r=n2 then some (n2+1) else none:=by simp[lS,h]
theorem yz:∀(k r nx n1:Nat),lS F k r nx=some n1→nx≤n1:=by
 intro k
 induction k with
 |zero=>intro r nx n1 h;cases h;exact Nat.le_refl _
 |succ k ih=>
  intro r nx n1 h
  by_cases hc:r<2∨r<nx
  ·rw[iQ hc] at h;cases h;exact Nat.le_refl _
  ·rw[rf hc] at h
   cases h1:lS F k (F.getD (r-2) default).lo nx with
   |none=>rw[h1] at h;cases h
   |some a=>
    rw[h1,Option.bind_some] at h
    cases h2:lS F k (F.getD (r-2) default).hi a with
    |none=>rw[h2] at h;cases h
    |some b=>
     rw[h2,Option.bind_some] at h
     split at h
     ·cases h;have:=ih _ _ _ h1;have:=ih _ _ _ h2;omega
     ·cases h
theorem take_s(h:k<F.length):F.take (k+1)=F.take k++[F.getD k default]:=by
 rw[List.take_add_one,List.getD_eq_getElem?_getD,List.getElem?_eq_getElem h];rfl
theorem EB(hg:Good n F)(hk:k≤F.length)(hr:r<k+2)(h:Ay tab n i s F r):Ay tab n i s (F.take k) r:=by
 have hl:(F.take k).length=k:=by simp;omega
 have e:=List.take_append_drop k F
 refine⟨by rw[hl];exact hr,?_,fun t ht=>?_⟩
 ·have:=h.srv;rw[←e,lQ (by rw[hl];exact hr)] at this;exact this
 ·have:=h.val t ht;rw[←e,EA (hg.take k) (by rw[hl];exact hr)] at this;exact this
theorem ab5(hg:Good n F):∀(m i s r k nx nx':Nat),i+m=n→s<2^i→Ay tab n i s F r→r≤k→2≤nx→nx'≤F.length+2→lS F k r nx=some nx'→gen tab m i s (F.take (nx-2))=(F.take (nx'-2),r):=by
 intro m
 induction m with
 |zero=>
  intro i s r k nx nx' hi hs hr hk hnx hnx' hv
  have hin:i=n:=by omega
  subst hin
  have h2:r<2:=by
   rcases Nat.lt_or_ge r 2 with h|h
   ·exact h
   ·have:=hr.srv
    unfold aP at this
    rw[if_neg (by omega)] at this
    have ho:=hg.ok (r-2) (by have:=hr.lt;omega)
    have:=ho.v
    omega
  rw[iQ (.inl h2)] at hv
  cases hv
  exact q8 (hg.take _) 0 i s r hi hs (EB hg (by omega) (by omega) hr)
 |succ m ih=>
  intro i s r k nx nx' hi hs hr hk hnx hnx' hv
  by_cases hc:r<2∨r<nx
  ·have hmo:=yz _ _ _ _ hv
   rw[iQ hc] at hv
   cases hv
   exact q8 (hg.take _) (m+1) i s r hi hs (EB hg (by omega) (by omega) hr)
  ·have hr2:¬r<2:=fun h=>hc (.inl h)
   have hrn:¬r<nx:=fun h=>hc (.inr h)
   have hlt:=hr.lt
   have hv0:=hv
   obtain⟨k',rfl⟩:∃k',k=k'+1:=⟨k-1,by omega⟩
   rw[rf hc] at hv
   cases h1:lS F k' (F.getD (r-2) default).lo nx with
   |none=>rw[h1] at hv;cases hv
   |some a=>
    rw[h1,Option.bind_some] at hv
    cases h2:lS F k' (F.getD (r-2) default).hi a with
    |none=>rw[h2] at hv;cases hv
    |some b=>
     rw[h2,Option.bind_some] at hv
     split at hv
     ·rename_i hrb
      cases hv
      have m1:=yz _ _ _ _ h1
      have m2:=yz _ _ _ _ h2
      have ho:=hg.ok (r-2) (by omega)
      by_cases hs':aP n F r=i
      ·have hvv:(F.getD (r-2) default).v=i:=by unfold aP at hs';rw[if_neg hr2] at hs';exact hs'
       have g1:=ih (i+1) s _ k' nx a (by omega) (u7 hs) ⟨by have:=ho.lo;omega,by have:=ho.sl;omega,fun t ht=>by
        rw[←hr.val t ht.of_low,jG hg hr2 hlt,hvv,ht.b0 hs];simp⟩ (by have:=ho.lo;omega) hnx (by omega) h1
       have g2:=ih (i+1) (s|||2^i) _ k' a b (by omega) (kI hs) ⟨by have:=ho.hi;omega,by have:=ho.sh;omega,fun t ht=>by
        rw[←hr.val t (ht.of_high hs),jG hg hr2 hlt,hvv,ht.b1];simp⟩ (by have:=ho.hi;omega) (by omega) (by omega) h2
       rw[wF g1 g2]
       have ef:(⟨i,(F.getD (r-2) default).lo,(F.getD (r-2) default).hi⟩:Fo)=F.getD (r-2) default:=by rw[←hvv]
       have hout:¬(⟨i,(F.getD (r-2) default).lo,(F.getD (r-2) default).hi⟩:Fo)∈F.take (b-2):=by
        rw[ef]
        intro hm
        obtain⟨q,hq,e⟩:=List.getElem_of_mem hm
        have hq2:q<b-2∧q<F.length:=by simp at hq;omega
        rw[List.getElem_take] at e
        have hr3:r-2<F.length:=by omega
        have e3:F.getD (r-2) default=F[r-2]:=by simp[List.getD_eq_getElem?_getD,hr3]
        rw[e3] at e
        have u1:=hg.nd.idxOf_getElem q hq2.2
        have u2:=hg.nd.idxOf_getElem (r-2) hr3
        rw[e,u2] at u1
        omega
       rw[tu ho.ne hout,ef]
       have hbl:(F.take (b-2)).length=b-2:=by simp;omega
       rw[hbl,show b+1-2=(r-2)+1 by omega,take_s (by omega),show b-2=r-2 by omega]
       congr 1;omega
      ·have hsv:=hr.srv
       have g1:=ih (i+1) s r (k'+1) nx (b+1) (by omega) (u7 hs) ⟨hr.lt,by omega,fun t ht=>hr.val t ht.of_low⟩ hk hnx hnx' hv0
       have g2:=q8 (tab:=tab) (hg.take (b+1-2)) m (i+1) (s|||2^i) r (by omega) (kI hs) (EB hg (by omega) (by omega) ⟨hr.lt,by omega,fun t ht=>hr.val t (ht.of_high hs)⟩)
       rw[wF g1 g2,qX]
     ·cases hv
theorem ab6:∀(m i s:Nat) (F D:List Fo) (k:Nat),Good n F→i+m=n→s<2^i→(∃e,D=(gen tab m i s F).1++e)→(gen tab m i s F).2≤k→lS D k (gen tab m i s F).2 (F.length+2)=some ((gen tab m i s F).1.length+2):=by
 intro m
 induction m with
 |zero=>
  intro i s F D k hg hi hs hD hk
  rw[Ey]
  exact iQ (.inl (by show(if tab s=true then 1 else 0)<2;split<;>omega))
 |succ m ih=>
  intro i s F D k hg hi hs hD hk
  have h1:=yx (tab:=tab) m (i+1) s F hg (by omega) (u7 hs)
  have v1:=fun D k=>ih (i+1) s F D k hg (by omega) (u7 hs)
  generalize hA:gen tab m (i+1) s F=A at h1 v1
  have h2:=yx (tab:=tab) m (i+1) (s|||2^i) A.1 h1.good (by omega) (kI hs)
  have v2:=fun D k=>ih (i+1) (s|||2^i) A.1 D k h1.good (by omega) (kI hs)
  generalize hB:gen tab m (i+1) (s|||2^i) A.1=B at h2 v2
  obtain⟨A1,lo⟩:=A
  obtain⟨B1,hi'⟩:=B
  rw[wF hA hB] at hD hk⊢
  obtain⟨e1,rfl,he1⟩:=h1.pre
  obtain⟨e2,rfl,he2⟩:=h2.pre
  dsimp only at*
  have llo:=h1.rep.lt
  have lhi:=h2.rep.lt
  by_cases he:lo=hi'
  ·subst he
   rw[qX] at hD hk⊢
   obtain⟨e,rfl⟩:=hD
   have w1:=v1 (F++e1++e2++e) k ⟨e2++e,by simp⟩ hk
   have w2:=v2 (F++e1++e2++e) k ⟨e,rfl⟩ hk
   rw[iQ (.inr llo)] at w2
   rw[w1,w2]
  ·by_cases hm:(⟨i,lo,hi'⟩:Fo)∈F++e1++e2
   ·rw[Ez he hm] at hD hk⊢
    dsimp only at*
    have hmF:(⟨i,lo,hi'⟩:Fo)∈F:=by
     rcases List.mem_append.1 hm with h|h
     ·rcases List.mem_append.1 h with h|h
      ·exact h
      ·have:=he1 _ h;simp at this;omega
     ·have:=he2 _ h;simp at this;omega
    have hix:(F++e1++e2).idxOf ⟨i,lo,hi'⟩=F.idxOf ⟨i,lo,hi'⟩:=by rw[List.append_assoc,List.idxOf_append,if_pos hmF]
    have hk2:F.idxOf ⟨i,lo,hi'⟩<F.length:=List.idxOf_lt_length_iff.2 hmF
    have ho:=hg.ok _ hk2
    have ed:F.getD (F.idxOf ⟨i,lo,hi'⟩) default=⟨i,lo,hi'⟩:=by
     rw[List.getD_eq_getElem?_getD,List.getElem?_eq_getElem hk2,Option.getD_some,List.getElem_idxOf]
    rw[ed] at ho
    have hl:=ho.lo;have hh:=ho.hi
    dsimp only at hl hh
    obtain⟨e,rfl⟩:=hD
    have w1:=v1 (F++e1++e2++e) lo ⟨e2++e,by simp⟩ (Nat.le_refl _)
    rw[iQ (.inr (by omega))] at w1
    have w2:=v2 (F++e1++e2++e) hi' ⟨e,rfl⟩ (Nat.le_refl _)
    rw[iQ (.inr (by simp;omega))] at w2
    rw[hix,iQ (.inr (by omega)),←Option.some.inj w2,←Option.some.inj w1]
   ·rw[tu he hm] at hD hk⊢
    dsimp only at*
    obtain⟨e,rfl⟩:=hD
    obtain⟨k',rfl⟩:∃k',k=k'+1:=⟨k-1,by omega⟩
    have hL:∀q:Nat,q=(F++e1++e2).length+2→lS (F++e1++e2++[(⟨i,lo,hi'⟩:Fo)]++e) (k'+1) q (F.length+2)=some ((F++e1++e2++[(⟨i,lo,hi'⟩:Fo)]).length+2):=fun q hq=>by
     have hd:(F++e1++e2++[(⟨i,lo,hi'⟩:Fo)]++e).getD (q-2) default=(⟨i,lo,hi'⟩:Fo):=by
      rw[hq,Nat.add_sub_cancel,qZ (by simp),wG]
     rw[rf (by simp at hq;omega),hd]
     dsimp only
     rw[v1 _ k' ⟨e2++([(⟨i,lo,hi'⟩:Fo)]++e),by simp⟩ (by simp at hk llo⊢;omega),Option.bind_some,v2 _ k' ⟨[(⟨i,lo,hi'⟩:Fo)]++e,by simp⟩ (by simp at hk lhi⊢;omega),Option.bind_some,if_pos hq]
     simp;omega
    exact hL _ rfl
end
section
variable {F G D e A B:List Fo} {f:Fo} {n m i j k s t r u v w nx n1 l:Nat} {tab φ φ0 φ1:Nat→Bool}
def fC(n:Nat)(tab:Nat→Bool):List Fo×Nat:=gen tab n 0 0 []
theorem ext0:Ext n 0 0 t↔t<2^n:=⟨fun h=>h.1,fun h=>⟨h,fun j hj=>absurd hj (by omega)⟩⟩
structure FromOk(n:Nat)(tab:Nat→Bool)(F:List Fo)(r:Nat):Prop where
 good:Good n F
 lt:r<F.length+2
 val:∀t,t<2^n→aG F t r=tab t
 vis:lS F r r 2=some (F.length+2)
theorem JF:FromOk n tab (fC n tab).1 (fC n tab).2:=by
 have h:=yx (tab:=tab) n 0 0 [] (Good.nil (n:=n)) (by omega) (by decide)
 have hv:=ab6 (tab:=tab) n 0 0 [] (gen tab n 0 0 []).1 (gen tab n 0 0 []).2 (Good.nil (n:=n)) (by omega) (by decide) ⟨[],by simp⟩ (Nat.le_refl _)
 exact⟨h.good,h.rep.lt,fun t ht=>h.rep.val t (ext0.2 ht),hv⟩
theorem ab7(hg:Good n F)(hr:r<F.length+2)(hv:lS F r r 2=some (F.length+2))(ht:∀t,t<2^n→aG F t r=tab t):fC n tab=(F,r):=by
 have h:=ab5 (tab:=tab) hg n 0 0 r r 2 (F.length+2) (by omega) (by decide) ⟨hr,Nat.zero_le _,fun t h=>ht t h.1⟩ (Nat.le_refl _) (Nat.le_refl _) (Nat.le_refl _) hv
 unfold fC
 simpa using h
theorem Ws(h:lS F k r 2=some (F.length+2))(hk:r≤k):F.length=0∨r=F.length+1:=by
 by_cases hc:r<2
 ·rw[iQ (.inl hc)] at h;have:=Option.some.inj h;omega
 ·obtain⟨k',rfl⟩:∃k',k=k'+1:=⟨k-1,by omega⟩
  rw[rf (by omega)] at h
  cases h1:lS F k' (F.getD (r-2) default).lo 2 with
  |none=>rw[h1] at h;cases h
  |some a=>
   rw[h1,Option.bind_some] at h
   cases h2:lS F k' (F.getD (r-2) default).hi a with
   |none=>rw[h2] at h;cases h
   |some b=>
    rw[h2,Option.bind_some] at h
    split at h
    ·have:=Option.some.inj h;right;omega
    ·cases h
def fe(F:List Fo):Nat→Nat→Nat→Bool×Nat
 |0,r,nx=>(true,nx)
 |k+1,r,nx=>if r<2∨r<nx then(true,nx) else
  if(fe F k (F.getD (r-2) default).lo nx).1=false then(false,(fe F k (F.getD (r-2) default).lo nx).2) else
  if(fe F k (F.getD (r-2) default).hi (fe F k (F.getD (r-2) default).lo nx).2).1=false then(false,(fe F k (F.getD (r-2) default).hi (fe F k (F.getD (r-2) default).lo nx).2).2) else
  if r=(fe F k (F.getD (r-2) default).hi (fe F k (F.getD (r-2) default).lo nx).2).2 then(true,(fe F k (F.getD (r-2) default).hi (fe F k (F.getD (r-2) default).lo nx).2).2+1) else(false,(fe F k (F.getD (r-2) default).hi (fe F k (F.getD (r-2) default).lo nx).2).2)
theorem Wt:∀(k r nx:Nat),lS F k r nx=if(fe F k r nx).1=true then some (fe F k r nx).2 else none:=by
 intro k
 induction k with
 |zero=>intro r nx;rfl
 |succ k ih=>
  intro r nx
  by_cases hc:r<2∨r<nx
  ·rw[iQ hc];simp[fe,hc]
  ·rw[rf hc]
   simp only[fe,if_neg hc]
   rw[ih]
   cases h1:(fe F k (F.getD (r-2) default).lo nx).1 with
   |false=>simp
   |true=>
    simp only[if_true,Option.bind_some,Bool.true_eq_false,if_false]
    rw[ih]
    cases h2:(fe F k (F.getD (r-2) default).hi (fe F k (F.getD (r-2) default).lo nx).2).1 with
    |false=>simp
    |true=>
     simp only[if_true,Option.bind_some,Bool.true_eq_false,if_false]
     split<;>rfl
structure Hit(n:Nat)(φ:Nat→Bool)(l:Nat)(F:List Fo)(w:Nat):Prop where
 lt:w<F.length+2
 srv:l≤aP n F w
 val:∀t,t<2^n→aG F t w=φ t
theorem Hit.pre(hg:Good n F)(h:Hit n φ l F w):Hit n φ l (F++e) w:=
 ⟨by have:=h.lt;simp;omega,by rw[lQ h.lt];exact h.srv,fun t ht=>by rw[EA hg h.lt];exact h.val t ht⟩
def BF(n:Nat)(φ:Nat→Bool)(l:Nat)(F F':List Fo)(w:Nat):Prop:=
 ∀(tab:Nat→Bool) (m i s:Nat),i+m=n→s<2^i→i≤l→(∀t,Ext n i s t→tab t=φ t)→gen tab m i s F=(F',w)
theorem BF.hit(hg:Good n F)(h:BF n φ l F G w)(hl:l≤n):Good n G∧(∃e,G=F++e)∧Hit n φ l G w:=by
 have key:∀s,s<2^l→afe φ n l s F G w:=fun s hs=>by
  have h1:=h φ (n-l) l s (by omega) hs (Nat.le_refl _) (fun _ _=>rfl)
  have h2:=yx (tab:=φ) (n-l) l s F hg (by omega) hs
  rw[h1] at h2;exact h2
 have k0:=key 0 (Nat.two_pow_pos _)
 obtain⟨e,he,_⟩:=k0.pre
 refine⟨k0.good,⟨e,he⟩,⟨k0.rep.lt,k0.rep.srv,fun t ht=>?_⟩⟩
 exact(key (t%2^l) (Nat.mod_lt _ (Nat.two_pow_pos _))).rep.val t ⟨ht,fun j hj=>by rw[Nat.testBit_mod_two_pow,decide_eq_true hj,Bool.true_and]⟩
theorem BF.mono(h:BF n φ l F G w)(hl:k≤l):BF n φ k F G w:=fun tab m i s hi hs hk ht=>h tab m i s hi hs (by omega) ht
theorem Dq:∀(m i s:Nat) (F:List Fo),(gen tab m i s F).1.length+1≤F.length+2^m:=by
 intro m
 induction m with
 |zero=>intro i s F;rw[Ey];simp
 |succ m ih=>
  intro i s F
  have h1:=ih (i+1) s F
  have h2:=ih (i+1) (s|||2^i) (gen tab m (i+1) s F).1
  have h3:∀(D:List Fo) (a b:Nat),(mkF D i a b).1.length≤D.length+1:=fun D a b=>by
   unfold mkF
   split
   ·exact Nat.le_succ _
   ·split
    ·exact Nat.le_succ _
    ·simp
  have h4:=h3 (gen tab m (i+1) (s|||2^i) (gen tab m (i+1) s F).1).1 (gen tab m (i+1) s F).2 (gen tab m (i+1) (s|||2^i) (gen tab m (i+1) s F).1).2
  show(mkF _ _ _ _).1.length+1≤_
  rw[Nat.pow_succ]
  omega
theorem Wv:(fC n tab).1.length<2^n:=by
 have:=Dq (tab:=tab) n 0 0 []
 unfold fC
 simp at this;omega
end
section
variable {F G D e A B:List Fo} {f:Fo} {n m i j k s t r u v w nx n1 l:Nat} {tab φ φ0 φ1:Nat→Bool}
structure Ur(X:Type) where
 term:X→Option Nat
 lev:X→Nat
 k0:X→X
 k1:X→X
 rk:X→Nat
 φ:X→Nat→Bool
variable {X:Type} [DecidableEq X]{Y:Ur X} {x:X}
def iD(K:List (X×Nat))(x:X):Option Nat:=(K.find? fun p=>decide (p.1=x)).map (·.2)
theorem look_mem{K:List (X×Nat)}(h:iD K x=some w):(x,w)∈K:=by
 unfold iD at h
 cases hf:K.find? fun p=>decide (p.1=x) with
 |none=>rw[hf] at h;cases h
 |some p=>
  rw[hf] at h
  have h1:=List.mem_of_find?_eq_some hf
  have h2:=List.find?_some hf
  simp only[decide_eq_true_eq] at h2
  have h3:p.2=w:=by simpa using h
  rw[←h2,←h3];exact h1
structure uQ(Y:Ur X)(n:Nat)(Ok:X→Prop):Prop where
 t1:∀x c,Ok x→Y.term x=some c→c<2∧Y.lev x≤n∧∀t,t<2^n→Y.φ x t=decide (c=1)
 lv:∀x,Ok x→Y.term x=none→Y.lev x<n
 o0:∀x,Ok x→Y.term x=none→Ok (Y.k0 x)∧Y.rk (Y.k0 x)<Y.rk x∧Y.lev x<Y.lev (Y.k0 x)
 o1:∀x,Ok x→Y.term x=none→Ok (Y.k1 x)∧Y.rk (Y.k1 x)<Y.rk x∧Y.lev x<Y.lev (Y.k1 x)
 f0:∀x,Ok x→Y.term x=none→∀t,t<2^n→t.testBit (Y.lev x)=false→Y.φ x t=Y.φ (Y.k0 x) t
 f1:∀x,Ok x→Y.term x=none→∀t,t<2^n→t.testBit (Y.lev x)=true→Y.φ x t=Y.φ (Y.k1 x) t
def Kok(Y:Ur X)(n:Nat)(F:List Fo)(K:List (X×Nat)):Prop:=∀p∈K,Hit n (Y.φ p.1) (Y.lev p.1) F p.2
theorem Kok.pre{K:List (X×Nat)}(hg:Good n F)(h:Kok Y n F K):Kok Y n (F++e) K:=fun p hp=>(h p hp).pre hg
theorem uQ.le{Ok:X→Prop}(hY:uQ Y n Ok)(hx:Ok x):Y.lev x≤n:=by
 cases h:Y.term x with
 |some c=>exact(hY.t1 x c hx h).2.1
 |none=>exact Nat.le_of_lt (hY.lv x hx h)
theorem srv_le(hA:Good n A)(hr:r<A.length+2):aP n A r≤n:=by
 unfold aP
 split
 ·exact Nat.le_refl _
 ·exact Nat.le_of_lt (hA.ok _ (by omega)).v
end
section
variable {F G D e A B:List Fo} {f:Fo} {n m i j k s t r u v w nx n1 l:Nat} {tab φ φ0 φ1:Nat→Bool}
def Bnd(F:List Fo):Prop:=∀k,k<F.length→(F.getD k default).lo<k+2∧(F.getD k default).hi<k+2
theorem Good.bnd(hg:Good n F):Bnd F:=fun k hk=>⟨(hg.ok k hk).lo,(hg.ok k hk).hi⟩
def kM(n:Nat)(T:List Bool):List Fo×Nat:=fC n fun t=>T.getD t false
end
section
variable {F G D e A B:List Fo} {f:Fo} {n m i j k s t r u v w nx n1 l:Nat} {tab φ φ0 φ1:Nat→Bool} {p q:Nat→Bool}
def wJ(a b:List Nat):List Nat:=List.zipWith (· + ·) a b
def wid(a:List Nat):List Nat:=wJ (a++[0]) (0::a)
def iT:Nat→List Nat→List Nat
 |0,a=>a
 |k+1,a=>iT k (wid a)
theorem ve:∀(k:Nat) (a:List Nat),iT (k+1) a=wid (iT k a)
 |0,a=>rfl
 |k+1,a=>by show iT (k+1) (wid a)=_;rw[ve k (wid a)];rfl
theorem rq{a b:List Nat}(h:a.length=b.length):(wJ a b).length=a.length:=by unfold wJ;rw[List.length_zipWith,h];omega
theorem Du{a:List Nat}:(wid a).length=a.length+1:=by unfold wid;rw[rq (by simp)];simp
theorem tH{a b:List Nat}(h:a.length=b.length):(wJ a b).getD k 0=a.getD k 0+b.getD k 0:=by
 unfold wJ
 rw[List.getD_eq_getElem?_getD,List.getD_eq_getElem?_getD,List.getD_eq_getElem?_getD,List.getElem?_zipWith]
 by_cases hk:k<a.length
 ·rw[List.getElem?_eq_getElem hk,List.getElem?_eq_getElem (h▸hk)];rfl
 ·rw[List.getElem?_eq_none (by omega),List.getElem?_eq_none (by omega)];rfl
theorem tJ{a:List Nat}:(a++[0]).getD k 0=a.getD k 0:=by
 rw[List.getD_eq_getElem?_getD,List.getD_eq_getElem?_getD]
 by_cases hk:k<a.length
 ·rw[List.getElem?_append_left hk]
 ·rw[List.getElem?_append_right (by omega),List.getElem?_eq_none (l:=a) (by omega)]
  by_cases h:k-a.length=0
  ·rw[h];rfl
  ·rw[List.getElem?_eq_none (by simp;omega)]
def cN(n:Nat)(F:List Fo):Nat→List (List Nat)
 |0=>[[0],[1]]
 |k+1=>cN n F k++[wJ (iT (aP n F (F.getD k default).lo-(F.getD k default).v-1) ((cN n F k).getD (F.getD k default).lo [])++[0])
   (0::iT (aP n F (F.getD k default).hi-(F.getD k default).v-1) ((cN n F k).getD (F.getD k default).hi []))]
theorem mQ:∀k,(cN n F k).length=k+2
 |0=>rfl
 |k+1=>by rw[cN,List.length_append,mQ k];rfl
theorem WR:∀(j k:Nat),r<k+2→(cN n F (k+j)).getD r []=(cN n F k).getD r []
 |0,k,h=>rfl
 |j+1,k,h=>by
  rw[show k+(j+1)=(k+j)+1 by omega,cN,List.getD_eq_getElem?_getD,List.getElem?_append_left (by rw[mQ];omega),←List.getD_eq_getElem?_getD]
  exact WR j k h
def cAt(n:Nat)(F:List Fo)(r:Nat):List Nat:=(cN n F F.length).getD r []
theorem Bf(h:r<k+2)(hk:k≤F.length):(cN n F k).getD r []=cAt n F r:=by
 unfold cAt
 obtain⟨j,e⟩:∃j,F.length=k+j:=⟨F.length-k,by omega⟩
 rw[e,WR j k h]
theorem EH(hg:Good n F)(h2:¬r<2)(hr:r<F.length+2):cAt n F r=wJ (iT (aP n F (F.getD (r-2) default).lo-(F.getD (r-2) default).v-1) (cAt n F (F.getD (r-2) default).lo)++[0])
 (0::iT (aP n F (F.getD (r-2) default).hi-(F.getD (r-2) default).v-1) (cAt n F (F.getD (r-2) default).hi)):=by
 have ho:=hg.ok (r-2) (by omega)
 have hl:=ho.lo;have hh:=ho.hi
 obtain⟨k,rfl⟩:∃k,r=k+2:=⟨r-2,by omega⟩
 rw[Nat.add_sub_cancel] at*
 rw[←Bf (k:=k+1) (r:=k+2) (by omega) (by omega),cN,List.getD_eq_getElem?_getD,List.getElem?_append_right (by rw[mQ];omega),mQ]
 simp only[Nat.sub_self,List.getElem?_cons_zero,Option.getD_some]
 rw[Bf hl (by omega),Bf hh (by omega)]
theorem aeH:cAt n F 0=[0]:=by rw[←Bf (k:=0) (by omega) (by omega)];rfl
theorem aeI:cAt n F 1=[1]:=by rw[←Bf (k:=0) (by omega) (by omega)];rfl
def num(n:Nat)(p:Nat→Bool):Nat:=((List.range (2^n)).filter p).length
instance:Decidable (Ext n i s t):=inferInstanceAs (Decidable (_∧_))
end
section
open Go.Bp Go.Sy
variable {F G D e A B:List Fo} {f:Fo} {n m i j k s t r u v w nx n1 l x y:Nat} {tab φ φ0 φ1 p q:Nat→Bool} {xs:List Nat}
theorem Good.mono(hg:Good n F)(h:n≤m):Good m F:=by
 refine⟨fun k hk=>?_,hg.nd⟩
 have ho:=hg.ok k hk
 have key:∀r,(F.getD k default).v<aP n F r→(F.getD k default).v<aP m F r:=fun r hr=>by
  unfold aP at*
  split at hr
  ·rename_i hc;rw[if_pos hc];have:=ho.v;omega
  ·rename_i hc;rw[if_neg hc];exact hr
 exact⟨by have:=ho.v;omega,ho.lo,ho.hi,ho.ne,key _ ho.sl,key _ ho.sh⟩
theorem acC(h:k<xs.length):xs.take (k+1)=xs.take k++[xs.getD k 0]:=by
 rw[List.take_add_one,List.getD_eq_getElem?_getD,List.getElem?_eq_getElem h];rfl
end
section
variable {F:List Fo} {n m i j k r q D:Nat} {W a l LW HW:List Nat}
theorem SE:(iT k a).length=a.length+k:=by
 induction k with
 |zero=>rfl
 |succ k ih=>rw[ve,Du,ih];omega
theorem acH{B:Nat}(h:∀k,W.getD k 0≤B):∀k,(wid W).getD k 0≤2*B:=fun k=>by
 unfold wid
 rw[tH (by simp),tJ]
 cases k with
 |zero=>have:=h 0;rw[List.getD_cons_zero];omega
 |succ k=>have:=h k;have:=h (k+1);rw[List.getD_cons_succ];omega
theorem WZ{B:Nat}(h:∀k,a.getD k 0≤B):∀i k,(iT i a).getD k 0≤2^i*B:=fun i=>by
 induction i with
 |zero=>intro k;have:=h k;rw[Nat.pow_zero,Nat.one_mul];exact this
 |succ i ih=>
  intro k
  rw[ve,Nat.pow_succ,Nat.mul_comm (2^i) 2,Nat.mul_assoc]
  exact acH ih k
structure CA(n:Nat)(F:List Fo)(r:Nat):Prop where
 len:(cAt n F r).length=n-aP n F r+1
 le:∀q,(cAt n F r).getD q 0≤2^(n-aP n F r)
theorem JI(hk:aP n F r+k≤n+0∨True)(h:CA n F r)(hs:k≤aP n F r)(hn:aP n F r≤n):(iT k (cAt n F r)).length=n-(aP n F r-k)+1∧∀q,(iT k (cAt n F r)).getD q 0≤2^(n-(aP n F r-k)):=by
 refine⟨by rw[SE,h.len];omega,fun q=>?_⟩
 have:=WZ h.le k q
 rwa [←Nat.pow_add,show k+(n-aP n F r)=n-(aP n F r-k) by omega] at this
theorem wK(hg:Good n F)(hr:r<F.length+2):aP n F r≤n:=by
 unfold aP
 split
 ·exact Nat.le_refl _
 ·exact Nat.le_of_lt (hg.ok _ (by omega)).v
theorem Oc(hg:Good n F):∀r,r<F.length+2→CA n F r:=by
 intro r
 induction r using Nat.strongRecOn with
 |_ r ih=>
  intro hr
  by_cases h2:r<2
  ·have hs:aP n F r=n:=by unfold aP;rw[if_pos h2]
   have hc:cAt n F r=[r]:=by
    have:r=0∨r=1:=by omega
    rcases this with rfl|rfl
    ·exact aeH
    ·exact aeI
   refine⟨by rw[hc,hs];simp,fun q=>?_⟩
   rw[hc,hs,Nat.sub_self]
   cases q with
   |zero=>rw[List.getD_cons_zero];show r≤1;omega
   |succ q=>rw[List.getD_cons_succ,List.getD_nil];exact Nat.zero_le _
  ·have ho:=hg.ok (r-2) (by omega)
   have h1:=ho.lo;have h3:=ho.hi
   have il:=ih _ (show(F.getD (r-2) default).lo<r by omega) (by omega)
   have ihh:=ih _ (show(F.getD (r-2) default).hi<r by omega) (by omega)
   have hsl:=ho.sl;have hsh:=ho.sh;have hv:=ho.v
   have hs:aP n F r=(F.getD (r-2) default).v:=by unfold aP;rw[if_neg h2]
   have bl:=wK hg (show(F.getD (r-2) default).lo<F.length+2 by omega)
   have bh:=wK hg (show(F.getD (r-2) default).hi<F.length+2 by omega)
   have wl:=JI (k:=aP n F (F.getD (r-2) default).lo-(F.getD (r-2) default).v-1) (.inr trivial) il (by omega) bl
   have wh:=JI (k:=aP n F (F.getD (r-2) default).hi-(F.getD (r-2) default).v-1) (.inr trivial) ihh (by omega) bh
   have e1:n-(aP n F (F.getD (r-2) default).lo-(aP n F (F.getD (r-2) default).lo-(F.getD (r-2) default).v-1))=n-(F.getD (r-2) default).v-1:=by omega
   have e2:n-(aP n F (F.getD (r-2) default).hi-(aP n F (F.getD (r-2) default).hi-(F.getD (r-2) default).v-1))=n-(F.getD (r-2) default).v-1:=by omega
   rw[e1] at wl;rw[e2] at wh
   have hp:2^(n-(F.getD (r-2) default).v)=2^(n-(F.getD (r-2) default).v-1)+2^(n-(F.getD (r-2) default).v-1):=by
    obtain⟨m,hm⟩:∃m,n-(F.getD (r-2) default).v=m+1:=⟨n-(F.getD (r-2) default).v-1,by omega⟩
    rw[hm,Nat.pow_succ,Nat.add_sub_cancel];omega
   have hlen:(iT (aP n F (F.getD (r-2) default).lo-(F.getD (r-2) default).v-1) (cAt n F (F.getD (r-2) default).lo)++[0]).length=(0::iT (aP n F (F.getD (r-2) default).hi-(F.getD (r-2) default).v-1) (cAt n F (F.getD (r-2) default).hi)).length:=by
    rw[List.length_append,List.length_cons (as:=iT _ _),wl.1,wh.1];rfl
   constructor
   ·rw[EH hg h2 hr,rq hlen,List.length_append,wl.1,hs,List.length_singleton];omega
   ·intro q
    rw[EH hg h2 hr,tH hlen,tJ,hs,hp]
    have h5:=wl.2 q
    cases q with
    |zero=>rw[List.getD_cons_zero];omega
    |succ q=>have:=wh.2 q;rw[List.getD_cons_succ];omega
def fa(W:List Nat)(j k:Nat):Nat:=if k<j then W.getD k 0 else 0
def fb(D:Nat)(LW HW:List Nat)(j k:Nat):Nat:=fa LW D k+(if 0<k∧k-1<j then HW.getD (k-1) 0 else 0)
theorem fa_0:fa W 0 k=0:=if_neg (by omega)
theorem fa_s:fa W (j+1) j=fa W j j+W.getD j 0:=by unfold fa;rw[if_pos (Nat.lt_succ_self j),if_neg (Nat.lt_irrefl j),Nat.zero_add]
theorem akR(h:q≠j):fa W (j+1) q=fa W j q:=by
 unfold fa
 by_cases e:q<j
 ·rw[if_pos e,if_pos (show q<j+1 by omega)]
 ·rw[if_neg e,if_neg (show¬q<j+1 by omega)]
theorem fb_0:fb D LW HW 0 k=fa LW D k:=by unfold fb;rw[if_neg (by omega),Nat.add_zero]
theorem fb_s:fb D LW HW (j+1) (j+1)=fb D LW HW j (j+1)+HW.getD j 0:=by
 unfold fb
 rw[if_pos (show 0<j+1∧j+1-1<j+1 by omega),if_neg (show¬(0<j+1∧j+1-1<j) by omega),Nat.add_sub_cancel];omega
theorem akS(h:q≠j+1):fb D LW HW (j+1) q=fb D LW HW j q:=by
 unfold fb
 congr 1
 by_cases e:0<q∧q-1<j
 ·rw[if_pos e,if_pos (show 0<q∧q-1<j+1 by omega)]
 ·rw[if_neg e,if_neg (show¬(0<q∧q-1<j+1) by omega)]
theorem aeK{B:Nat}(h:∀k,W.getD k 0≤B):fa W j k≤B:=by
 unfold fa;split
 ·exact h k
 ·exact Nat.zero_le _
theorem akT{B:Nat}(h:∀k,LW.getD k 0≤B)(h2:∀k,HW.getD k 0≤B):fb D LW HW j k≤2*B:=by
 unfold fb
 have:=aeK (j:=D) (k:=k) h
 split
 ·have:=h2 (k-1);omega
 ·omega
theorem ah5(hL:LW.length=D)(hH:HW.length=D)(hk:k<D+1):fb D LW HW D k=(wJ (LW++[0]) (0::HW)).getD k 0:=by
 rw[tH (by simp[hL,hH]),tJ]
 unfold fb fa
 have hout:D≤k→LW.getD k 0=0:=fun h=>by rw[List.getD_eq_getElem?_getD,List.getElem?_eq_none (by omega)];rfl
 have e1:(if k<D then LW.getD k 0 else 0)=LW.getD k 0:=by
  by_cases h:k<D
  ·rw[if_pos h]
  ·rw[if_neg h,hout (by omega)]
 rw[e1]
 cases k with
 |zero=>rw[if_neg (by omega),List.getD_cons_zero]
 |succ k=>rw[if_pos (show 0<k+1∧k+1-1<D by omega),Nat.add_sub_cancel,List.getD_cons_succ]
end
