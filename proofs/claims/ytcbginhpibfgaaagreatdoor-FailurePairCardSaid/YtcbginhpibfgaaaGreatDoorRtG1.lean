/- Rt1 Rt2 Rt3 Rt4. No condition. -/
import Derived.Test.YtcbginhpibfgaaaGreatDoorDgG1
set_option linter.all false
namespace Go.Rt
section
variable {a b c d x y:Int} {p q r:Rat} {D E K L n m:Nat}
theorem DF(h:b≠0):0<Int.gcd a b:=Nat.pos_of_ne_zero fun e=>h (Int.gcd_eq_zero_iff.1 e).2
theorem E8(h:0<b):(Rat.divInt a b).num=a.tdiv (Int.gcd a b):=by
 rw[Rat.num_divInt,Int.tdiv_eq_ediv_of_dvd (Int.gcd_dvd_left a b),Int.gcd_comm,Int.sign_eq_one_of_pos h,Int.one_mul]
theorem E9(h:0<b):((Rat.divInt a b).den:Int)=b.tdiv (Int.gcd a b):=by
 rw[Rat.den_divInt,if_neg (by omega),Int.tdiv_eq_ediv_of_dvd (Int.gcd_dvd_right a b),Int.gcd_comm,Int.natCast_ediv,Int.natAbs_of_nonneg (by omega)]
theorem wR(h:b<0):(Rat.divInt a b).num=a.tdiv (-(Int.gcd a b:Int)):=by
 rw[Rat.num_divInt,Int.tdiv_neg,Int.tdiv_eq_ediv_of_dvd (Int.gcd_dvd_left a b),Int.gcd_comm,Int.sign_eq_neg_one_of_neg h,Int.neg_mul,Int.one_mul,Int.neg_ediv_of_dvd (Int.gcd_dvd_left a b)]
theorem wS(h:b<0):((Rat.divInt a b).den:Int)=b.tdiv (-(Int.gcd a b:Int)):=by
 rw[Rat.den_divInt,if_neg (by omega),Int.tdiv_neg,Int.tdiv_eq_ediv_of_dvd (Int.gcd_dvd_right a b),Int.gcd_comm]
 obtain⟨k,hk⟩:=Int.gcd_dvd_right a b
 have hg:=DF (a:=a) (show b≠0 by omega)
 generalize Int.gcd a b=g at*
 subst hk
 rw[Int.mul_ediv_cancel_left _ (by omega),Int.natAbs_mul,Int.natAbs_natCast,Nat.mul_div_cancel_left _ hg]
 have:k<0:=by
  refine Decidable.not_not.1 fun hc=>?_
  have:=Int.mul_nonneg (show(0:Int)≤g by omega) (show 0≤k by omega)
  omega
 omega
theorem X3:p+q=Rat.divInt (p.num*q.den+q.num*p.den) (p.den*q.den):=by
 rw[Rat.add_def',←Int.natCast_mul,Rat.divInt_ofNat]
theorem X4:p-q=Rat.divInt (p.num*q.den-q.num*p.den) (p.den*q.den):=by
 rw[Rat.sub_def',←Int.natCast_mul,Rat.divInt_ofNat]
theorem X5:p*q=Rat.divInt (p.num*q.num) (p.den*q.den):=by
 rw[Rat.mul_def',←Int.natCast_mul,Rat.divInt_ofNat]
theorem lh:0<q.den:=Nat.pos_of_ne_zero q.den_nz
theorem J8:p<q↔p.num*q.den<q.num*p.den:=Rat.lt_iff p q
theorem X6(h0:0<b)(hg:Int.gcd a b=1):(Rat.divInt a b).num=a∧((Rat.divInt a b).den:Int)=b:=by
 rw[E8 h0,E9 h0,hg]
 exact⟨Int.tdiv_one a,Int.tdiv_one b⟩
theorem Tg:Int.gcd q.num q.den=1:=by
 have:=q.reduced
 unfold Nat.Coprime at this
 exact this
def Bd(D K:Nat)(q:Rat):Prop:=∃n:Int,q*D=n∧n.natAbs≤K*D
theorem Bd.add(h:Bd D K p)(h2:Bd D L q):Bd D (K+L) (p+q):=by
 obtain⟨n,e,b⟩:=h;obtain⟨m,e2,b2⟩:=h2
 refine⟨n+m,by rw[Rat.add_mul,e,e2,Rat.intCast_add],?_⟩
 rw[Nat.add_mul];omega
theorem Bd.sub(h:Bd D K p)(h2:Bd D L q):Bd D (K+L) (p-q):=by
 obtain⟨n,e,b⟩:=h;obtain⟨m,e2,b2⟩:=h2
 refine⟨n-m,by rw[Rat.sub_eq_add_neg,Rat.add_mul,Rat.neg_mul,e,e2,Rat.intCast_sub,Rat.sub_eq_add_neg],?_⟩
 rw[Nat.add_mul];omega
theorem Bd.mul(h:Bd D K p)(h2:Bd E L q):Bd (D*E) (K*L) (p*q):=by
 obtain⟨n,e,b⟩:=h;obtain⟨m,e2,b2⟩:=h2
 refine⟨n*m,?_,?_⟩
 ·rw[Rat.intCast_mul,←e,←e2,Rat.natCast_mul];grind
 ·rw[Int.natAbs_mul,show K*L*(D*E)=(K*D)*(L*E) by grind]
  exact Nat.mul_le_mul b b2
theorem Bd.mono(h:Bd D K q)(hd:D∣E)(hk:K≤L):Bd E L q:=by
 obtain⟨n,e,b⟩:=h
 obtain⟨k,rfl⟩:=hd
 refine⟨n*k,?_,?_⟩
 ·rw[Rat.intCast_mul,←e,Rat.natCast_mul,Rat.mul_assoc];rfl
 ·rw[Int.natAbs_mul,Int.natAbs_natCast,←Nat.mul_assoc]
  exact Nat.mul_le_mul (Nat.le_trans b (Nat.mul_le_mul hk (Nat.le_refl _))) (Nat.le_refl _)
theorem Bd.int(n:Int):Bd 1 n.natAbs (n:Rat):=⟨n,by rw[show((1:Nat):Rat)=1 from rfl,Rat.mul_one],by rw[Nat.mul_one];exact Nat.le_refl _⟩
theorem num_mul:(q.num:Rat)=q*q.den:=by
 conv=>rhs;rw[←Rat.num_divInt_den q]
 rw[Rat.divInt_eq_div]
 have hd:((q.den:Int):Rat)≠0:=by
  intro h
  have:=Rat.intCast_inj.1 (show((q.den:Int):Rat)=((0:Int):Rat) from h)
  exact q.den_nz (by omega)
 have e:(Rat.divInt q.num q.den).den=q.den:=by rw[Rat.num_divInt_den]
 rw[show(((q.num:Rat)/((q.den:Int):Rat)).den)=q.den by rw[←Rat.divInt_eq_div,e]]
 exact(Rat.div_mul_cancel hd).symm
theorem Bd.of(hd:q.den∣D)(hk:q.num.natAbs≤K*q.den):Bd D K q:=
 Bd.mono (D:=q.den) ⟨q.num,num_mul.symm,hk⟩ hd (Nat.le_refl _)
theorem Bd.den(h:Bd D K q)(hD:0<D):q.den∣D∧q.num.natAbs≤K*q.den:=by
 obtain⟨n,e,b⟩:=h
 have e1:q.num*D=n*q.den:=by
  have:((q.num*D:Int):Rat)=((n*q.den:Int):Rat):=by
   rw[Rat.intCast_mul,Rat.intCast_mul,←e,num_mul]
   show q*_*(D:Rat)=q*D*(q.den:Rat)
   grind
  exact Rat.intCast_inj.1 this
 have e2:q.num.natAbs*D=n.natAbs*q.den:=by
  have:=congrArg Int.natAbs e1
  rwa [Int.natAbs_mul,Int.natAbs_mul,Int.natAbs_natCast,Int.natAbs_natCast] at this
 refine⟨(q.reduced.symm).dvd_of_dvd_mul_left ⟨n.natAbs,by rw[e2,Nat.mul_comm]⟩,?_⟩
 refine Nat.le_of_mul_le_mul_right (c:=D) ?_ hD
 rw[e2]
 calc n.natAbs*q.den≤K*D*q.den:=Nat.mul_le_mul b (Nat.le_refl _)
  _=K*q.den*D:=by grind
def Sm(q:Rat):Prop:=q.num.natAbs<10^140∧q.den<10^140
theorem Bd.sm(h:Bd D K q)(hD:0<D)(hK:K*D<10^140)(hD2:D<10^140):Sm q:=by
 obtain⟨h1,h2⟩:=h.den hD
 have h3:=Nat.le_of_dvd hD h1
 refine⟨?_,by omega⟩
 have:=Nat.mul_le_mul (Nat.le_refl K) h3
 omega
end
section
variable {p p' q:Nat→Rat} {g h:Nat→Rat} {n m k i j s t:Nat} {tab:Nat→Bool} {x y c:Rat}
def Ev(p:Nat→Rat)(g:Nat→Rat):Nat→Nat→Nat→Rat
 |0,i,s=>g s
 |k+1,i,s=>p i*Ev p g k (i+1) s+(1-p i)*Ev p g k (i+1) (s+2^i)
theorem ev_0:Ev p g 0 i s=g s:=rfl
theorem uC:Ev p g (k+1) i s=p i*Ev p g k (i+1) s+(1-p i)*Ev p g k (i+1) (s+2^i):=rfl
theorem wY:∀(k i s:Nat),s<2^i→(∀j,i≤j→j<i+k→p j=p' j)→(∀t,t<2^(i+k)→(∀j,j<i→t.testBit j=s.testBit j)→g t=h t)→Ev p g k i s=Ev p' h k i s:=by
 intro k
 induction k with
 |zero=>intro i s hs _ hg;exact hg s hs fun _ _=>rfl
 |succ k ih=>
  intro i s hs hp hg
  have hs2:2^(i+1)=2^i+2^i:=by rw[Nat.pow_succ];omega
  have ho:s+2^i=2^i+s:=Nat.add_comm _ _
  rw[uC,uC,hp i (Nat.le_refl _) (by omega),ih (i+1) s (by omega) (fun j h1 h2=>hp j (by omega) (by omega)) (fun t ht hb=>hg t (by rw[show i+(k+1)=i+1+k by omega];exact ht) fun j hj=>hb j (by omega)),
   ih (i+1) (s+2^i) (by omega) (fun j h1 h2=>hp j (by omega) (by omega)) (fun t ht hb=>hg t (by rw[show i+(k+1)=i+1+k by omega];exact ht) fun j hj=>by
    rw[hb j (by omega),ho,Nat.testBit_two_pow_add_gt hj])]
theorem aiU:Ev p g (k+1) i s=p (i+k)*Ev p g k i s+(1-p (i+k))*Ev p (fun t=>g (t+2^(i+k))) k i s:=by
 induction k generalizing i s with
 |zero=>rfl
 |succ k ih=>
  rw[uC,ih,ih,uC (k:=k),uC (k:=k) (g:=fun t=>g (t+2^(i+(k+1)))),show i+1+k=i+(k+1) by omega]
  grind
def al(p:Nat→Rat)(s:Nat):Nat→Rat
 |0=>1
 |i+1=>al p s i*(if s.testBit i=true then 1-p i else p i)
theorem aiV(h:s.testBit i=true):al p s (i+1)=al p s i*(1-p i):=by show _*_=_;rw[if_pos h]
theorem aiW(h:s.testBit i=false):al p s (i+1)=al p s i*p i:=by show _*_=_;rw[if_neg (by rw[h];simp)]
theorem aiX(h:∀j,j<i→s.testBit j=t.testBit j):al p s i=al p t i:=by
 induction i with
 |zero=>rfl
 |succ i ih=>show _*_=_*_;rw[ih fun j hj=>h j (by omega),h i (by omega)]
def sT(p:Nat→Rat)(n:Nat)(g:Nat→Rat):Nat→Rat
 |0=>0
 |s+1=>sT p n g s+al p s n*g s
theorem adL:sT p n g 0=0:=rfl
theorem OZ:sT p n g (s+1)=sT p n g s+al p s n*g s:=rfl
theorem aiY(h:s≤2^n):sT p (n+1) g s=p n*sT p n g s:=by
 induction s with
 |zero=>rw[adL,adL,Rat.mul_zero]
 |succ s ih=>
  rw[OZ,OZ,ih (by omega),aiW (Nat.testBit_lt_two_pow (by omega))];grind
theorem adM(h:m≤2^n):sT p (n+1) g (2^n+m)=p n*sT p n g (2^n)+(1-p n)*sT p n (fun t=>g (t+2^n)) m:=by
 induction m with
 |zero=>rw[adL,Rat.mul_zero,Rat.add_zero];exact aiY (Nat.le_refl _)
 |succ m ih=>
  rw[←Nat.add_assoc,OZ,OZ,ih (by omega),aiV (by rw[Nat.testBit_two_pow_add_eq,Nat.testBit_lt_two_pow (by omega)];rfl),aiX (t:=m) (fun j hj=>Nat.testBit_two_pow_add_gt hj _),Nat.add_comm (2^n) m]
  grind
theorem ae1:sT p n g (2^n)=Ev p g n 0 0:=by
 induction n generalizing g with
 |zero=>show 0+1*g 0=g 0;grind
 |succ n ih=>
  rw[show 2^(n+1)=2^n+2^n by rw[Nat.pow_succ];omega,adM (Nat.le_refl _),ih,ih,aiU,Nat.zero_add]
def sB(p:Nat→Rat)(n:Nat)(tab:Nat→Bool):Nat→Rat
 |0=>0
 |s+1=>if tab s=true then sB p n tab s+al p s n else sB p n tab s
theorem sB_0:sB p n tab 0=0:=rfl
theorem adN(h:tab s=true):sB p n tab (s+1)=sB p n tab s+al p s n:=if_pos h
theorem adO(h:tab s=false):sB p n tab (s+1)=sB p n tab s:=if_neg (by rw[h];simp)
def ind(tab:Nat→Bool)(t:Nat):Rat:=if tab t=true then 1 else 0
theorem ale:sB p n tab s=sT p n (ind tab) s:=by
 induction s with
 |zero=>rfl
 |succ s ih=>
  rw[OZ,←ih]
  unfold ind
  by_cases h:tab s=true
  ·rw[adN h,if_pos h,Rat.mul_one]
  ·rw[adO (by simpa using h),if_neg h,Rat.mul_zero,Rat.add_zero]
def Pr(p:Nat→Rat)(n:Nat)(tab:Nat→Bool):Rat:=Ev p (ind tab) n 0 0
theorem Yw:sB p n tab (2^n)=Pr p n tab:=by rw[ale,ae1];rfl
theorem Mo{tab':Nat→Bool}(hp:∀j,j<n→p j=p' j)(h:∀t,t<2^n→tab t=tab' t):Pr p n tab=Pr p' n tab':=
 wY n 0 0 (by decide) (fun j _ hj=>hp j (by omega)) fun t ht _=>by rw[Nat.zero_add] at ht;unfold ind;rw[h t ht]
def upd(p:Nat→Rat)(i:Nat)(x:Rat)(j:Nat):Rat:=if j=i then x else p j
end
section
variable {p p' q site:Nat→Rat} {g h:Nat→Rat} {n m k i j s t f:Nat} {tab:Nat→Bool} {x y c:Rat} {S:Nat→Nat→Bool}
def dn(S:Nat→Nat→Bool)(k:Nat)(p:Nat→Rat)(j:Nat):Rat:=if S k j=true then 1 else p j
def vv(S:Nat→Nat→Bool)(site:Nat→Rat)(F:(Nat→Rat)→Rat):Nat→Nat→(Nat→Rat)→Rat
 |0,k,p=>F p
 |f+1,k,p=>site k*vv S site F f (k+1) (dn S k p)+(1-site k)*vv S site F f (k+1) p
theorem YA{F:(Nat→Rat)→Rat}(hF:∀p p':Nat→Rat,(∀j,j<n→p j=p' j)→F p=F p')(h:∀j,j<n→p j=p' j):vv S site F f k p=vv S site F f k p':=by
 induction f generalizing k p p' with
 |zero=>exact hF _ _ h
 |succ f ih=>
  show site k*vv S site F f (k+1) _+(1-site k)*vv S site F f (k+1) _=site k*vv S site F f (k+1) _+(1-site k)*vv S site F f (k+1) _
  rw[ih h,ih (p:=dn S k p) (p':=dn S k p') fun j hj=>by unfold dn;rw[h j hj]]
def tmF(x c y:Rat)(k:Nat):Nat→Rat
 |0=>x
 |i+1=>if i<k then tmF x c y k i*c else tmF x c y k i*y
theorem YB(h:i<k):tmF x c y k (i+1)=tmF x c y k i*c:=if_pos h
theorem YC(h:¬i<k):tmF x c y k (i+1)=tmF x c y k i*y:=if_neg h
def atS(l:Nat→Int)(c:Rat)(N:Nat):Nat→Rat
 |0=>0
 |j+1=>atS l c N j+tmF (l j) c (1-c) j N
theorem alh{l:Nat→Int}:atS l c n 0=0:=rfl
theorem IU{l:Nat→Int}:atS l c n (j+1)=atS l c n j+tmF (l j) c (1-c) j n:=rfl
end
section
open Go.Dg
variable {p p' q site:Nat→Rat} {g h:Nat→Rat} {n m k i j s t f r D E K:Nat} {tab:Nat→Bool} {x y c:Rat} {S:Nat→Nat→Bool} {F:List Fo}
def nv(p:Nat→Rat)(F:List Fo):Nat→Nat→Rat
 |0,r=>if r=1 then 0 else 1
 |k+1,r=>if r<2 then(if r=1 then 0 else 1) else p (F.getD (r-2) default).v*nv p F k (F.getD (r-2) default).lo+(1-p (F.getD (r-2) default).v)*nv p F k (F.getD (r-2) default).hi
def nvN(p:Nat→Rat)(F:List Fo)(r:Nat):Rat:=nv p F r r
theorem Mq(h:r<2):∀k,nv p F k r=if r=1 then 0 else 1
 |0=>rfl
 |k+1=>by unfold nv;rw[if_pos h]
theorem QS(hg:Go.Dg.Good n F):∀(k m r:Nat),r≤k→r≤m→r<F.length+2→nv p F k r=nv p F m r:=by
 intro k
 induction k with
 |zero=>intro m r hk hm hr;rw[Mq (by omega),Mq (by omega)]
 |succ k ih=>
  intro m r hk hm hr
  by_cases h2:r<2
  ·rw[Mq h2,Mq h2]
  ·cases m with
   |zero=>omega
   |succ m=>
    have ho:=hg.ok (r-2) (by omega)
    have h1:=ho.lo;have h3:=ho.hi
    unfold nv
    rw[if_neg h2,if_neg h2,ih m _ (by omega) (by omega) (by omega),ih m (F.getD (r-2) default).hi (by omega) (by omega) (by omega)]
theorem O1(h:r<2):nvN p F r=if r=1 then 0 else 1:=Mq h _
theorem O3(hg:Go.Dg.Good n F)(hr:k<F.length):nvN p F (k+2)=p (F.getD k default).v*nvN p F (F.getD k default).lo+(1-p (F.getD k default).v)*nvN p F (F.getD k default).hi:=by
 have ho:=hg.ok k hr
 have h1:=ho.lo;have h3:=ho.hi
 show nv p F (k+1+1) (k+2)=_
 unfold nv
 rw[if_neg (by omega),Nat.add_sub_cancel,QS hg (k+1) _ (F.getD k default).lo (by omega) (Nat.le_refl _) (by omega),QS hg (k+1) _ (F.getD k default).hi (by omega) (Nat.le_refl _) (by omega)]
 rfl
def dd(F:List Fo)(r t:Nat):Rat:=ind (fun t=> !aG F t r) t
theorem ae2(h:aG F t r=aG F t s):dd F r t=dd F s t:=by
 show(if(!aG F t r)=true then(1:Rat) else 0)=if(!aG F t s)=true then(1:Rat) else 0
 rw[h]
theorem alk(hg:Go.Dg.Good n F):∀(k i s r:Nat),i+k=n→r<F.length+2→i≤aP n F r→s<2^i→Ev p (dd F r) k i s=nvN p F r:=by
 intro k
 induction k with
 |zero=>
  intro i s r hi hr hl hs
  have h2:r<2:=by
   refine Decidable.not_not.1 fun hc=>?_
   unfold aP at hl
   rw[if_neg hc] at hl
   have:=(hg.ok (r-2) (by omega)).v
   omega
  rw[ev_0,O1 h2]
  show(if(!aG F s r)=true then(1:Rat) else 0)=_
  rw[mq h2]
  by_cases h1:r=1
  ·rw[h1];rfl
  ·rw[if_neg h1,decide_eq_false h1];rfl
 |succ k ih=>
  intro i s r hi hr hl hs
  have hs2:2^(i+1)=2^i+2^i:=by rw[Nat.pow_succ];omega
  rw[uC]
  by_cases e:aP n F r=i
  ·have h2:¬r<2:=fun hc=>by unfold aP at e;rw[if_pos hc] at e;omega
   obtain⟨j,rfl⟩:∃j,r=j+2:=⟨r-2,by omega⟩
   have hv:(F.getD j default).v=i:=by unfold aP at e;rw[if_neg h2,Nat.add_sub_cancel] at e;exact e
   have ho:=hg.ok j (by omega)
   have h1:=ho.lo;have h3:=ho.hi;have sl:=ho.sl;have sh:=ho.sh
   rw[hv] at sl sh
   have i1:=ih (i+1) s (F.getD j default).lo (by omega) (by omega) (by omega) (by omega)
   have i2:=ih (i+1) (s+2^i) (F.getD j default).hi (by omega) (by omega) (by omega) (by omega)
   rw[O3 hg (by omega),hv,←i1,←i2]
   have c1:Ev p (dd F (j+2)) k (i+1) s=Ev p (dd F (F.getD j default).lo) k (i+1) s:=wY k (i+1) s (by omega) (fun _ _ _=>rfl) fun t ht hb=>by
    refine ae2 ?_
    have hbt:=hb i (by omega)
    rw[Nat.testBit_lt_two_pow hs] at hbt
    rw[jG hg h2 hr,Nat.add_sub_cancel,hv,hbt];rfl
   have c2:Ev p (dd F (j+2)) k (i+1) (s+2^i)=Ev p (dd F (F.getD j default).hi) k (i+1) (s+2^i):=wY k (i+1) _ (by omega) (fun _ _ _=>rfl) fun t ht hb=>by
    refine ae2 ?_
    have hbt:=hb i (by omega)
    rw[Nat.add_comm,Nat.testBit_two_pow_add_eq,Nat.testBit_lt_two_pow hs] at hbt
    rw[jG hg h2 hr,Nat.add_sub_cancel,hv,hbt];rfl
   rw[c1,c2]
  ·rw[ih (i+1) s r (by omega) hr (by omega) (by omega),ih (i+1) (s+2^i) r (by omega) hr (by omega) (by omega)];grind
theorem ae3(hg:Go.Dg.Good n F)(hr:r<F.length+2):nvN p F r=Pr p n fun t=> !aG F t r:=
 (alk hg n 0 0 r (by omega) hr (Nat.zero_le _) (by decide)).symm
def pp(d:Nat→Nat)(i:Nat):Nat→Nat
 |0=>1
 |k+1=>pp d i k*d (i+k)
theorem uK{d:Nat→Nat}(h:∀j,i≤j→j<i+k→0<d j∧d j≤1000000):0<pp d i k∧pp d i k≤1000000^k:=by
 induction k with
 |zero=>exact⟨Nat.one_pos,Nat.le_refl _⟩
 |succ k ih=>
  have h1:=ih fun j h1 h2=>h j h1 (by omega)
  have h2:=h (i+k) (by omega) (by omega)
  exact⟨Nat.mul_pos h1.1 h2.1,by rw[Nat.pow_succ];exact Nat.mul_le_mul h1.2 h2.2⟩
theorem rG{d:Nat→Nat}:pp d i (k+1)=d i*pp d (i+1) k:=by
 induction k with
 |zero=>show 1*d (i+0)=d i*1;rw[Nat.one_mul,Nat.mul_one];rfl
 |succ k ih=>
  show pp d i (k+1)*d (i+(k+1))=d i*(pp d (i+1) k*d (i+1+k))
  rw[ih,Nat.mul_assoc,show i+(k+1)=i+1+k by omega]
theorem Fj{d:Nat→Nat}(h:i≤j)(hj:j≤n):pp d j (n-j)∣pp d i (n-i):=by
 obtain⟨m,hm⟩:∃m,j=i+m:=⟨j-i,by omega⟩
 subst hm
 induction m with
 |zero=>exact Nat.dvd_refl _
 |succ m ih=>
  refine Nat.dvd_trans ?_ (ih (by omega) (by omega))
  rw[show n-(i+m)=(n-(i+(m+1)))+1 by omega,rG]
  exact Nat.dvd_mul_left _ _
def Cs(p:Nat→Rat)(d:Nat→Nat)(n:Nat):Prop:=∀j,j<n→Bd (d j) 1 (p j)∧0<d j∧d j≤1000000
theorem Bd.one:Bd 1 1 1:=Bd.int 1
theorem Bd.zero:Bd 1 0 0:=Bd.int 0
theorem Bd.not(h:Bd D K x):Bd D (1+K) (1-x):=(Bd.one.mono (Nat.one_dvd _) (Nat.le_refl _)).sub h
theorem YF{d:Nat→Nat}(h:Cs p d n):i≤n→Bd (pp d 0 i) (2^i) (al p s i):=by
 induction i with
 |zero=>intro _;exact Bd.one
 |succ i ih=>
  intro hi
  have h1:=ih (by omega)
  have h2:=(h i (by omega)).1
  show Bd (pp d 0 i*d (0+i)) _ (al p s i*_)
  rw[Nat.zero_add,Nat.pow_succ]
  refine h1.mul ?_
  split
  ·exact h2.not
  ·exact h2.mono (Nat.dvd_refl _) (by omega)
theorem alm{d:Nat→Nat}(h:Cs p d n):Bd (pp d 0 n) (s*2^n) (sB p n tab s):=by
 induction s with
 |zero=>rw[sB_0];exact Bd.zero.mono (Nat.one_dvd _) (Nat.zero_le _)
 |succ s ih=>
  have h2:=YF (s:=s) h (Nat.le_refl n)
  by_cases ht:tab s=true
  ·rw[adN ht,Nat.succ_mul];exact ih.add h2
  ·rw[adO (by simpa using ht)];exact ih.mono (Nat.dvd_refl _) (Nat.mul_le_mul (by omega) (Nat.le_refl _))
theorem p3(h:i≤j):3^i≤3^j:=Nat.pow_le_pow_right (by omega) h
theorem QT{d:Nat→Nat}(hg:Go.Dg.Good n F)(h:Cs p d n):∀(r:Nat),r<F.length+2→Bd (pp d (aP n F r) (n-aP n F r)) (3^(n-aP n F r)) (nvN p F r):=by
 intro r
 induction r using Nat.strongRecOn with
 |_ r ih=>
  intro hr
  by_cases h2:r<2
  ·rw[O1 h2]
   have e:aP n F r=n:=if_pos h2
   rw[e,Nat.sub_self]
   split
   ·exact Bd.zero.mono (Nat.dvd_refl _) (Nat.zero_le _)
   ·exact Bd.one
  ·obtain⟨j,rfl⟩:∃j,r=j+2:=⟨r-2,by omega⟩
   have ho:=hg.ok j (by omega)
   have h1:=ho.lo;have h3:=ho.hi;have sl:=ho.sl;have sh:=ho.sh;have hv:=ho.v
   have e:aP n F (j+2)=(F.getD j default).v:=by unfold aP;rw[if_neg h2,Nat.add_sub_cancel]
   have hle:∀x,x<F.length+2→aP n F x≤n:=fun x hx=>by
    unfold aP
    split
    ·exact Nat.le_refl _
    ·have:=(hg.ok (x-2) (by omega)).v;omega
   have l1:=hle (F.getD j default).lo (by omega)
   have l2:=hle (F.getD j default).hi (by omega)
   have i1:=ih (F.getD j default).lo (by omega) (by omega)
   have i2:=ih (F.getD j default).hi (by omega) (by omega)
   rw[O3 hg (by omega),e]
   generalize(F.getD j default).lo=lo at*
   generalize(F.getD j default).hi=hi at*
   generalize(F.getD j default).v=v at*
   have hp:=(h v hv).1
   have m1:=i1.mono (Fj (d:=d) (i:=v+1) (j:=aP n F lo) (n:=n) (by omega) l1) (p3 (i:=n-aP n F lo) (j:=n-(v+1)) (by omega))
   have m2:=i2.mono (Fj (d:=d) (i:=v+1) (j:=aP n F hi) (n:=n) (by omega) l2) (p3 (i:=n-aP n F hi) (j:=n-(v+1)) (by omega))
   have a:=(hp.mul m1).add (hp.not.mul m2)
   rw[←rG,show n-(v+1)+1=n-v by omega] at a
   refine a.mono (Nat.dvd_refl _) ?_
   rw[show n-v=(n-(v+1))+1 by omega,Nat.pow_succ]
   omega
theorem Cs.sm{d:Nat→Nat}(h:Cs p d n)(hn:n≤12)(hi:i+k≤n)(hb:Bd (pp d i k) K x)(hK:K≤10^60):Sm x:=by
 have h2:=uK (d:=d) (i:=i) (k:=k) fun j h1 h2=>(h j (by omega)).2
 have h3:1000000^k≤1000000^12:=Nat.pow_le_pow_right (by omega) (by omega)
 refine hb.sm h2.1 ?_ (by have:(1000000:Nat)^12<10^140:=by decide
                          omega)
 have:=Nat.mul_le_mul hK (Nat.le_trans h2.2 h3)
 have:(10:Nat)^60*1000000^12<10^140:=by decide
 omega
theorem Cs.one{d:Nat→Nat}(h:Cs p d n)(hj:j<n):Sm (p j):=by
 obtain⟨h1,h2,h3⟩:=h j hj
 exact h1.sm h2 (by have:(1000000:Nat)<10^140:=by decide
                    omega) (by have:(1000000:Nat)<10^140:=by decide
                               omega)
theorem YG{d:Nat} {a:Int}(h:Bd d 1 c):Bd (d^i) (a.natAbs*2^i) (tmF (a:Rat) c (1-c) k i):=by
 induction i with
 |zero=>rw[Nat.pow_zero,Nat.pow_zero,Nat.mul_one];exact Bd.int a
 |succ i ih=>
  unfold tmF
  rw[Nat.pow_succ,Nat.pow_succ,←Nat.mul_assoc]
  split
  ·exact ih.mul (h.mono (Nat.dvd_refl _) (by omega))
  ·exact ih.mul h.not
end
