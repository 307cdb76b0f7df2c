/- Rt1 Rt2. No condition. -/
set_option linter.all false
namespace Go.Rt
variable {a b c d x y:Int} {p q r:Rat} {D E K L n m:Nat}
theorem wI(h:b≠0):0<Int.gcd a b:=Nat.pos_of_ne_zero fun e=>h (Int.gcd_eq_zero_iff.1 e).2
theorem x9(h:0<b):(Rat.divInt a b).num=a.tdiv (Int.gcd a b):=by
 rw[Rat.num_divInt,Int.tdiv_eq_ediv_of_dvd (Int.gcd_dvd_left a b),Int.gcd_comm,Int.sign_eq_one_of_pos h,Int.one_mul]
theorem yc(h:0<b):((Rat.divInt a b).den:Int)=b.tdiv (Int.gcd a b):=by
 rw[Rat.den_divInt,if_neg (by omega),Int.tdiv_eq_ediv_of_dvd (Int.gcd_dvd_right a b),Int.gcd_comm,Int.natCast_ediv,Int.natAbs_of_nonneg (by omega)]
theorem sH(h:b<0):(Rat.divInt a b).num=a.tdiv (-(Int.gcd a b:Int)):=by
 rw[Rat.num_divInt,Int.tdiv_neg,Int.tdiv_eq_ediv_of_dvd (Int.gcd_dvd_left a b),Int.gcd_comm,Int.sign_eq_neg_one_of_neg h,Int.neg_mul,Int.one_mul,Int.neg_ediv_of_dvd (Int.gcd_dvd_left a b)]
theorem sI(h:b<0):((Rat.divInt a b).den:Int)=b.tdiv (-(Int.gcd a b:Int)):=by
 rw[Rat.den_divInt,if_neg (by omega),Int.tdiv_neg,Int.tdiv_eq_ediv_of_dvd (Int.gcd_dvd_right a b),Int.gcd_comm]
 obtain⟨k,hk⟩:=Int.gcd_dvd_right a b
 have hg:=wI (a:=a) (show b≠0 by omega)
 generalize Int.gcd a b=g at*
 subst hk
 rw[Int.mul_ediv_cancel_left _ (by omega),Int.natAbs_mul,Int.natAbs_natCast,Nat.mul_div_cancel_left _ hg]
 have:k<0:=by
  refine Decidable.not_not.1 fun hc=>?_
  have:=Int.mul_nonneg (show(0:Int)≤g by omega) (show 0≤k by omega)
  omega
 omega
theorem aa1:p+q=Rat.divInt (p.num*q.den+q.num*p.den) (p.den*q.den):=by
 rw[Rat.add_def',←Int.natCast_mul,Rat.divInt_ofNat]
theorem aa2:p-q=Rat.divInt (p.num*q.den-q.num*p.den) (p.den*q.den):=by
 rw[Rat.sub_def',←Int.natCast_mul,Rat.divInt_ofNat]
theorem aa3:p*q=Rat.divInt (p.num*q.num) (p.den*q.den):=by
 rw[Rat.mul_def',←Int.natCast_mul,Rat.divInt_ofNat]
theorem mU:0<q.den:=Nat.pos_of_ne_zero q.den_nz
theorem Bl:p<q↔p.num*q.den<q.num*p.den:=Rat.lt_iff p q
theorem PK(h0:0<b)(hg:Int.gcd a b=1):(Rat.divInt a b).num=a∧((Rat.divInt a b).den:Int)=b:=by
 rw[x9 h0,yc h0,hg]
 exact⟨Int.tdiv_one a,Int.tdiv_one b⟩
theorem K5:Int.gcd q.num q.den=1:=by
 have:=q.reduced
 unfold Nat.Coprime at this
 exact this
def Bd(D K:Nat)(q:Rat):Prop:=∃n:Int,q*D=n∧n.natAbs≤K*D
theorem Bd.add(h:Bd D K p)(h2:Bd D L q):Bd D (K+L) (p+q):=by
 obtain⟨n,e,b⟩:=h;obtain⟨m,e2,b2⟩:=h2
 refine⟨n+m,by rw[Rat.add_mul,e,e2,Rat.intCast_add],?_⟩
 rw[Nat.add_mul];omega
theorem Bd.sub(h:Bd D K p)(h2:Bd D L q):Bd D (K+L) (p-q):=by
 obtain⟨n,e,b⟩:=h;obtain⟨m,e2,b2⟩:=h2
 refine⟨n-m,by rw[Rat.sub_eq_add_neg,Rat.add_mul,Rat.neg_mul,e,e2,Rat.intCast_sub,Rat.sub_eq_add_neg],?_⟩
 rw[Nat.add_mul];omega
theorem Bd.mul(h:Bd D K p)(h2:Bd E L q):Bd (D*E) (K*L) (p*q):=by
 obtain⟨n,e,b⟩:=h;obtain⟨m,e2,b2⟩:=h2
 refine⟨n*m,?_,?_⟩
 ·rw[Rat.intCast_mul,←e,←e2,Rat.natCast_mul];grind
 ·rw[Int.natAbs_mul,show K*L*(D*E)=(K*D)*(L*E) by grind]
  exact Nat.mul_le_mul b b2
theorem Bd.mono(h:Bd D K q)(hd:D∣E)(hk:K≤L):Bd E L q:=by
 obtain⟨n,e,b⟩:=h
 obtain⟨k,rfl⟩:=hd
 refine⟨n*k,?_,?_⟩
 ·rw[Rat.intCast_mul,←e,Rat.natCast_mul,Rat.mul_assoc];rfl
 ·rw[Int.natAbs_mul,Int.natAbs_natCast,←Nat.mul_assoc]
  exact Nat.mul_le_mul (Nat.le_trans b (Nat.mul_le_mul hk (Nat.le_refl _))) (Nat.le_refl _)
theorem Bd.int(n:Int):Bd 1 n.natAbs (n:Rat):=⟨n,by rw[show((1:Nat):Rat)=1 from rfl,Rat.mul_one],by rw[Nat.mul_one];exact Nat.le_refl _⟩
def Sm(q:Rat):Prop:=q.num.natAbs<10^140∧q.den<10^140
end Go.Rt
namespace Go.Rt
variable {p p' q:Nat→Rat} {g h:Nat→Rat} {n m k i j s t:Nat} {tab:Nat→Bool} {x y c:Rat}
def Ev(p:Nat→Rat)(g:Nat→Rat):Nat→Nat→Nat→Rat
 |0,i,s=>g s
 |k+1,i,s=>p i*Ev p g k (i+1) s+(1-p i)*Ev p g k (i+1) (s+2^i)
def ind(tab:Nat→Bool)(t:Nat):Rat:=if tab t=true then 1 else 0
def Pr(p:Nat→Rat)(n:Nat)(tab:Nat→Bool):Rat:=Ev p (ind tab) n 0 0
