/- Lm1 Lm2 Lm3 Lm4 Lm5 Lm6. No condition. -/
set_option linter.all false
set_option maxRecDepth 20000
namespace Go.Lm
section
variable {l m a b:List Int} {x y c v:Int} {i j k n:Nat}
def val:List Int→Int
 |[]=>0
 |x::l=>x+1000000000*val l
def Lim(l:List Int):Prop:=∀x∈l,0≤x∧x<1000000000
def bp(k:Nat):Int:=((1000000000^k:Nat):Int)
theorem OT:bp 0=1:=rfl
theorem uw:bp (k+1)=1000000000*bp k:=by unfold bp;rw[Nat.pow_succ,Nat.mul_comm];exact Int.natCast_mul _ _
theorem iO:0<bp k:=by unfold bp;exact Int.natCast_pos.2 (Nat.pow_pos (by decide))
theorem FZ:bp (j+k)=bp j*bp k:=by unfold bp;rw[Nat.pow_add];exact Int.natCast_mul _ _
theorem zH(h:j≤k):bp j≤bp k:=by unfold bp;exact Int.ofNat_le.2 (Nat.pow_le_pow_right (by decide) h)
theorem jo:val []=0:=rfl
theorem eD:val (x::l)=x+1000000000*val l:=rfl
theorem sD:val (l++m)=val l+bp l.length*val m:=by
 induction l with
 |nil=>simp[val,OT]
 |cons x l ih=>
  rw[List.cons_append,eD,eD,ih,List.length_cons,uw,Int.mul_add,Int.mul_assoc];omega
theorem mP:val [x]=x:=by simp[val]
theorem jq:val (l++[x])=val l+bp l.length*x:=by rw[sD,mP]
theorem Lim.nil:Lim []:=fun x h=>nomatch h
theorem Lim.cons(h:Lim l)(hx:0≤x∧x<1000000000):Lim (x::l):=fun y hy=>by
 rcases List.mem_cons.1 hy with rfl|hy
 ·exact hx
 ·exact h y hy
theorem Lim.hd(h:Lim (x::l)):0≤x∧x<1000000000:=h x (by simp)
theorem Lim.tl(h:Lim (x::l)):Lim l:=fun y hy=>h y (by simp[hy])
theorem Lim.app(h:Lim l)(h2:Lim m):Lim (l++m):=fun y hy=>by
 rcases List.mem_append.1 hy with hy|hy
 ·exact h y hy
 ·exact h2 y hy
theorem Lim.snoc(h:Lim l)(hx:0≤x∧x<1000000000):Lim (l++[x]):=h.app (Lim.nil.cons hx)
theorem Lim.take(h:Lim l):Lim (l.take k):=fun y hy=>h y (List.mem_of_mem_take hy)
theorem Lim.drop(h:Lim l):Lim (l.drop k):=fun y hy=>h y (List.mem_of_mem_drop hy)
theorem iI(h:i<l.length):l.getD i 0=l[i]:=by rw[List.getD_eq_getElem?_getD,List.getElem?_eq_getElem h];rfl
theorem dY(h:l.length≤i):l.getD i 0=0:=by rw[List.getD_eq_getElem?_getD,List.getElem?_eq_none h];rfl
theorem Lim.at(h:Lim l)(i:Nat):0≤l.getD i 0∧l.getD i 0<1000000000:=by
 by_cases hi:i<l.length
 ·rw[iI hi];exact h _ (List.getElem_mem hi)
 ·rw[dY (by omega)];omega
theorem bv(h:Lim l):0≤val l∧val l<bp l.length:=by
 induction l with
 |nil=>exact⟨Int.le_refl _,by decide⟩
 |cons x l ih=>
  have:=ih h.tl
  have:=h.hd
  rw[eD,List.length_cons,uw];omega
theorem aap(h:i<l.length):l.take (i+1)=l.take i++[l.getD i 0]:=by
 rw[List.take_add_one,List.getElem?_eq_getElem h,iI h];rfl
theorem fC:val (l.take (i+1))=val (l.take i)+bp i*l.getD i 0:=by
 by_cases h:i<l.length
 ·rw[aap h,jq,List.length_take,Nat.min_eq_left (by omega)]
 ·rw[dY (by omega),List.take_of_length_le (by omega),List.take_of_length_le (by omega)];omega
theorem kP:val (l.take 0)=0:=rfl
theorem dn(h:l.length≤i):val (l.take i)=val l:=by rw[List.take_of_length_le h]
theorem fU(k:Nat):val l=val (l.take k)+bp (min k l.length)*val (l.drop k):=by
 conv=>lhs;rw[←List.take_append_drop k l]
 rw[sD,List.length_take]
theorem fD(h:i<l.length):val (l.drop i)=l.getD i 0+1000000000*val (l.drop (i+1)):=by
 rw[List.drop_eq_getElem_cons h,eD,iI h]
theorem Iw:val (List.replicate k 0)=0:=by
 induction k with
 |zero=>rfl
 |succ k ih=>rw[List.replicate_succ,eD,ih];rfl
theorem Lim.rep:Lim (List.replicate k 0):=fun x hx=>by rw[List.eq_of_mem_replicate hx];omega
def lbF:Nat→Nat→List Int
 |0,_=>[]
 |f+1,n=>if n=0 then [] else((n%1000000000:Nat):Int)::lbF f (n/1000000000)
def lb(n:Nat):List Int:=lbF n n
theorem Iy:∀(f n:Nat),n≤f→val (lbF f n)=n:=by
 intro f
 induction f with
 |zero=>intro n h;have:n=0:=by omega
        subst this;rfl
 |succ f ih=>
  intro n h
  unfold lbF
  by_cases h0:n=0
  ·rw[if_pos h0,h0];rfl
  ·rw[if_neg h0,eD,ih _ (by omega)];omega
theorem aW:val (lb n)=n:=Iy n n (Nat.le_refl _)
theorem Va:∀(f n:Nat),Lim (lbF f n):=by
 intro f
 induction f with
 |zero=>intro n;exact Lim.nil
 |succ f ih=>
  intro n
  unfold lbF
  split
  ·exact Lim.nil
  ·exact(ih _).cons (by omega)
theorem lim_lb:Lim (lb n):=Va n n
def Tr(l:List Int):Prop:=l=[]∨¬l.getD (l.length-1) 0=0
theorem aaq:∀(f n:Nat),n≤f→Tr (lbF f n):=by
 intro f
 induction f with
 |zero=>intro n _;exact .inl rfl
 |succ f ih=>
  intro n h
  unfold lbF
  by_cases h0:n=0
  ·rw[if_pos h0];exact .inl rfl
  ·rw[if_neg h0]
   right
   rcases ih (n/1000000000) (by omega) with h1|h1
   ·rw[h1]
    have hv:=Iy f (n/1000000000) (by omega)
    rw[h1,jo] at hv
    show¬((n%1000000000:Nat):Int)=0
    omega
   ·have hl:0<(lbF f (n/1000000000)).length:=List.length_pos_iff.2 fun e=>by rw[e] at h1;exact h1 rfl
    have e:((((n%1000000000:Nat):Int)::lbF f (n/1000000000)).getD ((((n%1000000000:Nat):Int)::lbF f (n/1000000000)).length-1) 0)=(lbF f (n/1000000000)).getD ((lbF f (n/1000000000)).length-1) 0:=by
     rw[List.length_cons,Nat.add_sub_cancel]
     obtain⟨q,hq⟩:∃q,(lbF f (n/1000000000)).length=q+1:=⟨_,(Nat.succ_pred_eq_of_pos hl).symm⟩
     rw[hq];rfl
    rw[e];exact h1
theorem ja:Tr (lb n):=aaq n n (Nat.le_refl _)
theorem Tr.tl(h:Tr (x::l)):Tr l:=by
 rcases h with h|h
 ·cases h
 ·cases l with
  |nil=>exact .inl rfl
  |cons y l=>exact .inr h
theorem aar:∀{l m:List Int},Lim l→Lim m→Tr l→Tr m→val l=val m→l=m:=by
 have z:∀{l:List Int},Lim l→Tr l→val l=0→l=[]:=by
  intro l
  induction l with
  |nil=>intro _ _ _;rfl
  |cons x l ih=>
   intro hl ht hv
   rw[eD] at hv
   have:=hl.hd
   have:=bv hl.tl
   have e:=ih hl.tl ht.tl (by omega)
   subst e
   rcases ht with h|h
   ·cases h
   ·exact absurd (show x=0 by rw[jo] at hv;omega) h
 intro l
 induction l with
 |nil=>intro m _ h2 _ h4 hv;exact(z h2 h4 hv.symm).symm
 |cons x l ih=>
  intro m h1 h2 h3 h4 hv
  cases m with
  |nil=>exact absurd (z h1 h3 hv) (by simp)
  |cons y m=>
   rw[eD,eD] at hv
   have:=h1.hd;have:=h2.hd
   have:=bv h1.tl;have:=bv h2.tl
   have e:x=y:=by omega
   subst e
   congr 1
   exact ih h1.tl h2.tl h3.tl h4.tl (by omega)
theorem OU(h:Lim l)(ht:Tr l):l=lb (val l).toNat:=by
 refine aar h lim_lb ht ja ?_
 have:=bv h
 rw[aW];omega
theorem Vb:lb 0=[]:=rfl
theorem iZ:lb n=[]↔n=0:=by
 constructor
 ·intro h
  have:=aW (n:=n)
  rw[h,jo] at this;omega
 ·intro h;subst h;rfl
theorem Iz(h:Lim l)(ht:Tr l)(h0:l≠[]):bp (l.length-1)≤val l:=by
 have hl:=List.length_pos_iff.2 h0
 rcases ht with ht|ht
 ·exact absurd ht h0
 ·have e:=fU (l:=l) (l.length-1)
  have e2:l.drop (l.length-1)=[l.getD (l.length-1) 0]:=by
   rw[List.drop_eq_getElem_cons (by omega),iI (by omega),List.drop_eq_nil_of_le (by omega)]
  rw[e2,mP,Nat.min_eq_left (by omega)] at e
  have:=(bv (l:=l.take (l.length-1)) h.take).1
  have:=h.at (l.length-1)
  have hp:=iO (k:=l.length-1)
  have:bp (l.length-1)*1≤bp (l.length-1)*l.getD (l.length-1) 0:=Int.mul_le_mul_of_nonneg_left (by omega) (by omega)
  omega
def trN(l:List Int):Nat→Nat
 |0=>0
 |j+1=>if l.getD j 0=0 then trN l j else j+1
theorem WV:trN l 0=0:=rfl
theorem Dj(h:l.getD j 0=0):trN l (j+1)=trN l j:=if_pos h
theorem Dk(h:¬l.getD j 0=0):trN l (j+1)=j+1:=if_neg h
theorem qH:trN l j≤j:=by
 induction j with
 |zero=>exact Nat.le_refl _
 |succ j ih=>
  by_cases h:l.getD j 0=0
  ·rw[Dj h];omega
  ·rw[Dk h];exact Nat.le_refl _
theorem IA:val (l.take (trN l j))=val (l.take j):=by
 induction j with
 |zero=>rfl
 |succ j ih=>
  by_cases h:l.getD j 0=0
  ·rw[Dj h,ih,fC,h];omega
  ·rw[Dk h]
theorem F3(hj:j≤l.length):Tr (l.take (trN l j)):=by
 induction j with
 |zero=>exact .inl rfl
 |succ j ih=>
  by_cases h:l.getD j 0=0
  ·rw[Dj h];exact ih (by omega)
  ·rw[Dk h]
   right
   rw[List.length_take,Nat.min_eq_left hj,Nat.add_sub_cancel,List.getD_eq_getElem?_getD,List.getElem?_take_of_lt (by omega),←List.getD_eq_getElem?_getD]
   exact h
theorem jr(h:Lim l):l.take (trN l l.length)=lb (val l).toNat:=by
 have h1:=IA (l:=l) (j:=l.length)
 have h2:=F3 (l:=l) (Nat.le_refl _)
 rw[List.take_length] at h1
 have:=OU (l:=l.take (trN l l.length)) h.take h2
 rw[h1] at this;exact this
theorem jv(h:Lim l):(lb (val l).toNat).length=trN l l.length:=by
 rw[←jr h,List.length_take,Nat.min_eq_left qH]
theorem uy(ha:Lim a)(hb:Lim b)(ht:Tr b)(h:a.length<b.length):val a<val b:=by
 have h1:=(bv ha).2
 have h2:=Iz hb ht (fun e=>by rw[e] at h;simp at h)
 have:=zH (j:=a.length) (k:=b.length-1) (by omega)
 omega
theorem cmp_lt(ha:Lim a)(hb:Lim b)(hl:a.length=b.length)(hi:i<a.length)(he:a.drop (i+1)=b.drop (i+1))(h:a.getD i 0<b.getD i 0):val a<val b:=by
 have e1:=fU (l:=a) i
 have e2:=fU (l:=b) i
 rw[Nat.min_eq_left (by omega),fD hi] at e1
 rw[Nat.min_eq_left (by omega),fD (by omega),←he] at e2
 have r1:=bv (l:=a.take i) ha.take
 have r2:=bv (l:=b.take i) hb.take
 rw[List.length_take,Nat.min_eq_left (by omega)] at r1
 have hp:=iO (k:=i)
 generalize val (a.drop (i+1))=w at*
 have:bp i*(a.getD i 0+1000000000*w+1)≤bp i*(b.getD i 0+1000000000*w):=Int.mul_le_mul_of_nonneg_left (by omega) (by omega)
 rw[Int.mul_add,Int.mul_one] at this
 omega
end
section
variable {l m a b T:List Int} {x y c v s:Int} {i j k n:Nat}
def pC(a b:List Int):Nat→Int
 |0=>0
 |i+1=>if 1000000000≤a.getD i 0+pC a b i+b.getD i 0 then 1 else 0
def pX(a b:List Int)(i:Nat):Int:=if 1000000000≤a.getD i 0+pC a b i+b.getD i 0 then a.getD i 0+pC a b i+b.getD i 0-1000000000 else a.getD i 0+pC a b i+b.getD i 0
def pL(a b:List Int):Nat→List Int
 |0=>[]
 |i+1=>pL a b i++[pX a b i]
theorem aas:pC a b 0=0:=rfl
theorem F4(h:1000000000≤a.getD i 0+pC a b i+b.getD i 0):pC a b (i+1)=1:=if_pos h
theorem F5(h:¬1000000000≤a.getD i 0+pC a b i+b.getD i 0):pC a b (i+1)=0:=if_neg h
theorem pL_z(h:i=0):pL a b i=[]:=by subst h;rfl
theorem F6(h:1000000000≤a.getD i 0+pC a b i+b.getD i 0):pL a b (i+1)=pL a b i++[a.getD i 0+pC a b i+b.getD i 0-1000000000]:=by
 show pL a b i++[pX a b i]=_
 unfold pX;rw[if_pos h]
theorem F7(h:¬1000000000≤a.getD i 0+pC a b i+b.getD i 0):pL a b (i+1)=pL a b i++[a.getD i 0+pC a b i+b.getD i 0]:=by
 show pL a b i++[pX a b i]=_
 unfold pX;rw[if_neg h]
theorem pL_len:(pL a b i).length=i:=by
 induction i with
 |zero=>rfl
 |succ i ih=>show(pL a b i++[pX a b i]).length=_;rw[List.length_append,ih];rfl
theorem uz:0≤pC a b i∧pC a b i≤1:=by
 cases i with
 |zero=>exact⟨Int.le_refl _,(by decide:(0:Int)≤1)⟩
 |succ i=>unfold pC;split<;>omega
theorem WW(ha:Lim a)(hb:Lim b):Lim (pL a b i)∧val (pL a b i)+bp i*pC a b i=val (a.take i)+val (b.take i):=by
 induction i with
 |zero=>exact⟨Lim.nil,rfl⟩
 |succ i ih=>
  obtain⟨h1,h2⟩:=ih
  have ra:=ha.at i;have rb:=hb.at i
  have rc:=uz (a:=a) (b:=b) (i:=i)
  have e:bp (i+1)=bp i*1000000000:=by rw[uw,Int.mul_comm]
  rw[fC,fC,e]
  by_cases h:1000000000≤a.getD i 0+pC a b i+b.getD i 0
  ·rw[F6 h,F4 h,jq,pL_len]
   refine⟨h1.snoc (by omega),?_⟩
   rw[Int.mul_sub,Int.mul_add,Int.mul_add,Int.mul_one];omega
  ·rw[F7 h,F5 h,jq,pL_len]
   refine⟨h1.snoc (by omega),?_⟩
   rw[Int.mul_add,Int.mul_add,Int.mul_zero];omega
def nY(a b:List Int):List Int:=pL a b a.length++[pC a b a.length]
theorem IB(ha:Lim a)(hb:Lim b)(h:b.length≤a.length):Lim (nY a b)∧val (nY a b)=val a+val b:=by
 obtain⟨h1,h2⟩:=WW (i:=a.length) ha hb
 have rc:=uz (a:=a) (b:=b) (i:=a.length)
 refine⟨h1.snoc (by omega),?_⟩
 unfold nY
 rw[jq,pL_len,h2,dn (Nat.le_refl _),dn h]
theorem oZ:(nY a b).length=a.length+1:=by unfold nY;rw[List.length_append,pL_len];rfl
def mC(a b:List Int):Nat→Int
 |0=>0
 |i+1=>if a.getD i 0<mC a b i+b.getD i 0 then 1 else 0
def mX(a b:List Int)(i:Nat):Int:=if a.getD i 0<mC a b i+b.getD i 0 then a.getD i 0+1000000000-(mC a b i+b.getD i 0) else a.getD i 0-(mC a b i+b.getD i 0)
def mL(a b:List Int):Nat→List Int
 |0=>[]
 |i+1=>mL a b i++[mX a b i]
theorem mC_0:mC a b 0=0:=rfl
theorem Vd(h:a.getD i 0<mC a b i+b.getD i 0):mC a b (i+1)=1:=if_pos h
theorem Ve(h:¬a.getD i 0<mC a b i+b.getD i 0):mC a b (i+1)=0:=if_neg h
theorem mL_z(h:i=0):mL a b i=[]:=by subst h;rfl
theorem aat(h:a.getD i 0<mC a b i+b.getD i 0):mL a b (i+1)=mL a b i++[a.getD i 0+1000000000-(mC a b i+b.getD i 0)]:=by
 show mL a b i++[mX a b i]=_
 unfold mX;rw[if_pos h]
theorem aau(h:¬a.getD i 0<mC a b i+b.getD i 0):mL a b (i+1)=mL a b i++[a.getD i 0-(mC a b i+b.getD i 0)]:=by
 show mL a b i++[mX a b i]=_
 unfold mX;rw[if_neg h]
theorem nZ:(mL a b i).length=i:=by
 induction i with
 |zero=>rfl
 |succ i ih=>show(mL a b i++[mX a b i]).length=_;rw[List.length_append,ih];rfl
theorem uA:0≤mC a b i∧mC a b i≤1:=by
 cases i with
 |zero=>exact⟨Int.le_refl _,(by decide:(0:Int)≤1)⟩
 |succ i=>unfold mC;split<;>omega
theorem ac2(ha:Lim a)(hb:Lim b):Lim (mL a b i)∧val (mL a b i)=val (a.take i)-val (b.take i)+bp i*mC a b i:=by
 induction i with
 |zero=>exact⟨Lim.nil,rfl⟩
 |succ i ih=>
  obtain⟨h1,h2⟩:=ih
  have ra:=ha.at i;have rb:=hb.at i
  have rc:=uA (a:=a) (b:=b) (i:=i)
  have e:bp (i+1)=bp i*1000000000:=by rw[uw,Int.mul_comm]
  rw[fC,fC,e]
  by_cases h:a.getD i 0<mC a b i+b.getD i 0
  ·rw[aat h,Vd h,jq,nZ]
   refine⟨h1.snoc (by omega),?_⟩
   rw[Int.mul_sub,Int.mul_add,Int.mul_add,Int.mul_one];omega
  ·rw[aau h,Ve h,jq,nZ]
   refine⟨h1.snoc (by omega),?_⟩
   rw[Int.mul_sub,Int.mul_add,Int.mul_zero];omega
theorem Dl(ha:Lim a)(hb:Lim b)(h:b.length≤a.length)(hv:val b≤val a):Lim (mL a b a.length)∧val (mL a b a.length)=val a-val b:=by
 obtain⟨h1,h2⟩:=ac2 (i:=a.length) ha hb
 rw[dn (Nat.le_refl _),dn h] at h2
 refine⟨h1,?_⟩
 have r1:=bv h1
 rw[nZ] at r1
 have rc:=uA (a:=a) (b:=b) (i:=a.length)
 have r2:=(bv hb).1
 have hc:mC a b a.length=0∨mC a b a.length=1:=by omega
 rcases hc with hc|hc
 ·rw[h2,hc];omega
 ·rw[hc,Int.mul_one] at h2;omega
theorem Dm(hi:i<l.length):(l.set i x).getD j 0=if j=i then x else l.getD j 0:=by
 rw[List.getD_eq_getElem?_getD,List.getElem?_set]
 by_cases e:i=j
 ·subst e;rw[if_pos rfl,if_pos hi,if_pos rfl];rfl
 ·rw[if_neg e,if_neg (fun h=>e h.symm),List.getD_eq_getElem?_getD]
theorem IC:∀{l:List Int} {i:Nat},i<l.length→val (l.set i x)=val l+bp i*(x-l.getD i 0):=by
 intro l
 induction l with
 |nil=>intro i h;simp at h
 |cons y l ih=>
  intro i h
  cases i with
  |zero=>show x+_=y+_+bp 0*(x-y);rw[OT];omega
  |succ i=>
   have:=ih (i:=i) (by simpa using h)
   show y+1000000000*val (l.set i x)=y+1000000000*val l+bp (i+1)*(x-l.getD i 0)
   rw[this,uw,Int.mul_add,Int.mul_assoc];omega
theorem Lim.set(h:Lim l)(hx:0≤x∧x<1000000000):Lim (l.set i x):=fun y hy=>by
 rcases List.mem_or_eq_of_mem_set hy with hy|hy
 ·exact h y hy
 ·rw[hy];exact hx
theorem kg(hx:0≤x∧x<1000000000)(hy:0≤y∧y<1000000000):0≤x*y∧x*y≤999999998000000001:=by
 constructor
 ·exact Int.mul_nonneg hx.1 hy.1
 ·have h1:x*y≤999999999*y:=Int.mul_le_mul_of_nonneg_right (by omega) hy.1
  omega
def tK(x:Int)(b:List Int)(i:Nat)(T:List Int):Nat→List Int×Int
 |0=>(T,0)
 |k+1=>((tK x b i T k).1.set (i+k) (((tK x b i T k).1.getD (i+k) 0+x*b.getD k 0+(tK x b i T k).2)%1000000000),((tK x b i T k).1.getD (i+k) 0+x*b.getD k 0+(tK x b i T k).2)/1000000000)
theorem tK_0:tK x b i T 0=(T,0):=rfl
theorem aav:tK x b i T (k+1)=((tK x b i T k).1.set (i+k) (((tK x b i T k).1.getD (i+k) 0+x*b.getD k 0+(tK x b i T k).2)%1000000000),((tK x b i T k).1.getD (i+k) 0+x*b.getD k 0+(tK x b i T k).2)/1000000000):=rfl
theorem xR:(tK x b i T k).1.length=T.length:=by
 induction k with
 |zero=>rfl
 |succ k ih=>rw[aav];show(List.set _ _ _).length=_;rw[List.length_set,ih]
theorem WX(hT:Lim T)(hb:Lim b)(hx:0≤x∧x<1000000000):i+k≤T.length→Lim (tK x b i T k).1∧0≤(tK x b i T k).2∧(tK x b i T k).2<1000000000∧val (tK x b i T k).1+bp (i+k)*(tK x b i T k).2=val T+bp i*(x*val (b.take k))∧∀j,i+k≤j→(tK x b i T k).1.getD j 0=T.getD j 0:=by
 induction k with
 |zero=>intro _;refine⟨hT,Int.le_refl _,by show(0:Int)<_;decide,?_,fun j _=>rfl⟩
        show val T+_*0=val T+bp i*(x*0);simp
 |succ k ih=>
  intro hk
  obtain⟨h1,h2,h3,h4,h5⟩:=ih (by omega)
  have hl:i+k<(tK x b i T k).1.length:=by rw[xR];omega
  rw[aav]
  generalize tK x b i T k=p at*
  obtain⟨P,c⟩:=p
  dsimp only at*
  have ra:=h1.at (i+k)
  have rb:=hb.at k
  have rm:=kg hx rb
  have e:bp (i+(k+1))=bp (i+k)*1000000000:=by rw[←Nat.add_assoc,uw,Int.mul_comm]
  generalize hs:P.getD (i+k) 0+x*b.getD k 0+c=s at*
  refine⟨h1.set (by omega),by omega,by omega,?_,fun j hj=>?_⟩
  ·rw[IC hl,e,fC,Int.mul_add x,Int.mul_add,←Int.add_assoc,←h4]
   have e1:bp (i+k)*(s%1000000000-P.getD (i+k) 0)+bp (i+k)*1000000000*(s/1000000000)=bp (i+k)*(s-P.getD (i+k) 0):=by
    rw[Int.mul_assoc,←Int.mul_add];congr 1;omega
   have e2:s-P.getD (i+k) 0=x*b.getD k 0+c:=by omega
   have e3:bp i*(x*(bp k*b.getD k 0))=bp (i+k)*(x*b.getD k 0):=by
    rw[FZ,Int.mul_assoc];congr 1;rw[Int.mul_left_comm]
   rw[e2,Int.mul_add] at e1
   rw[e3];omega
  ·rw[Dm hl,if_neg (by omega)];exact h5 j (by omega)
def tT(a b:List Int):Nat→List Int
 |0=>List.replicate (a.length+b.length) 0
 |i+1=>(tK (a.getD i 0) b i (tT a b i) b.length).1.set (i+b.length) (tK (a.getD i 0) b i (tT a b i) b.length).2
theorem aaw:tT a b 0=List.replicate (a.length+b.length) 0:=rfl
theorem aax:tT a b (i+1)=(tK (a.getD i 0) b i (tT a b i) b.length).1.set (i+b.length) (tK (a.getD i 0) b i (tT a b i) b.length).2:=rfl
theorem F8:(tT a b i).length=a.length+b.length:=by
 induction i with
 |zero=>exact List.length_replicate
 |succ i ih=>rw[aax,List.length_set,xR,ih]
theorem WY(ha:Lim a)(hb:Lim b):i≤a.length→Lim (tT a b i)∧val (tT a b i)=val (a.take i)*val b∧∀j,i+b.length≤j→(tT a b i).getD j 0=0:=by
 induction i with
 |zero=>
  intro _
  refine⟨Lim.rep,?_,fun j _=>?_⟩
  ·rw[aaw,Iw,kP,Int.zero_mul]
  ·rw[aaw,List.getD_eq_getElem?_getD,List.getElem?_replicate];split<;>rfl
 |succ i ih=>
  intro hi
  obtain⟨h1,h2,h3⟩:=ih (by omega)
  have hl:i+b.length<(tT a b i).length:=by rw[F8];omega
  obtain⟨g1,g2,g3,g4,g5⟩:=WX (i:=i) (k:=b.length) h1 hb (ha.at i) (by omega)
  have hl2:i+b.length<(tK (a.getD i 0) b i (tT a b i) b.length).1.length:=by rw[xR];exact hl
  have h0:=h3 (i+b.length) (by omega)
  have h0:=(g5 (i+b.length) (by omega)).trans h0
  rw[aax]
  refine⟨g1.set ⟨g2,g3⟩,?_,fun j hj=>?_⟩
  ·rw[IC hl2,h0,Int.sub_zero,g4,h2,fC,dn (Nat.le_refl _),Int.add_mul,Int.mul_assoc]
  ·rw[Dm hl2,if_neg (by omega),g5 j (by omega)];exact h3 j (by omega)
theorem OW(ha:Lim a)(hb:Lim b):Lim (tT a b a.length)∧val (tT a b a.length)=val a*val b:=by
 obtain⟨h1,h2,_⟩:=WY (i:=a.length) ha hb (Nat.le_refl _)
 rw[dn (Nat.le_refl _)] at h2
 exact⟨h1,h2⟩
end
section
variable {l m a b T u w yl P S:List Int} {x y c v s d f g r q V W:Int} {i j k n M:Nat}
def jc(v:Int):List Int→List Int×Int
 |[]=>([],0)
 |x::l=>(((jc v l).2*1000000000+x)/v::(jc v l).1,((jc v l).2*1000000000+x)%v)
theorem Dn:jc v []=([],0):=rfl
theorem o5:jc v (x::l)=(((jc v l).2*1000000000+x)/v::(jc v l).1,((jc v l).2*1000000000+x)%v):=rfl
theorem Dp:(jc v l).1.length=l.length:=by
 induction l with
 |nil=>rfl
 |cons x l ih=>rw[o5,List.length_cons,List.length_cons,ih]
theorem IE(h0:0<v)(hl:Lim l):Lim (jc v l).1∧val (jc v l).1=val l/v∧(jc v l).2=val l%v∧0≤(jc v l).2∧(jc v l).2<v:=by
 induction l with
 |nil=>exact⟨Lim.nil,(Int.zero_ediv v).symm,(Int.zero_emod v).symm,Int.le_refl _,h0⟩
 |cons x l ih=>
  obtain⟨h1,h2,h3,h4,h5⟩:=ih hl.tl
  have hx:=hl.hd
  have hv:=(bv hl.tl).1
  rw[o5]
  dsimp only
  have hr:(jc v l).2*1000000000+x<v*1000000000:=by omega
  have e:x+1000000000*val l=((jc v l).2*1000000000+x)+val l/v*1000000000*v:=by
   have:=Int.mul_ediv_add_emod (val l) v
   rw[h3]
   have e2:val l/v*1000000000*v=1000000000*(v*(val l/v)):=by rw[Int.mul_assoc,Int.mul_comm (val l/v),Int.mul_assoc,Int.mul_comm v]
   rw[e2];omega
  refine⟨h1.cons ⟨Int.ediv_nonneg (by omega) (by omega),?_⟩,?_,?_,Int.emod_nonneg _ (by omega),Int.emod_lt_of_pos _ h0⟩
  ·exact Int.ediv_lt_of_lt_mul h0 (by rw[Int.mul_comm 1000000000 v];exact hr)
  ·rw[eD,eD,h2,e,Int.add_mul_ediv_right _ _ (by omega)];omega
  ·rw[eD,e,Int.add_mul_emod_self_right]
theorem IG{L:List Int}(hL:L.length=i)(hi:i<n):(L++List.replicate (n-i) 0).set i x=(L++[x])++List.replicate (n-(i+1)) 0:=by
 rw[List.set_append_right _ _ (by omega),hL,Nat.sub_self,show n-i=n-(i+1)+1 by omega,List.replicate_succ,List.append_assoc];rfl
theorem xS{L:List Int}:(List.replicate (i+1) 0++L).set i x=List.replicate i 0++x::L:=by
 rw[List.replicate_succ',List.append_assoc,List.set_append_right _ _ (by simp),List.length_replicate,Nat.sub_self];rfl
def scC(u:List Int)(d:Int):Nat→Int
 |0=>0
 |i+1=>(scC u d i+u.getD i 0*d)/1000000000
def scL(u:List Int)(d:Int):Nat→List Int
 |0=>[]
 |i+1=>scL u d i++[(scC u d i+u.getD i 0*d)%1000000000]
theorem Dq:scC u d 0=0:=rfl
theorem zI:scC u d (i+1)=(scC u d i+u.getD i 0*d)/1000000000:=rfl
theorem ac3:scL u d 0=[]:=rfl
theorem Dr:scL u d (i+1)=scL u d i++[(scC u d i+u.getD i 0*d)%1000000000]:=rfl
theorem iJ:(scL u d i).length=i:=by
 induction i with
 |zero=>rfl
 |succ i ih=>rw[Dr,List.length_append,ih];rfl
theorem o6(hu:Lim u)(hd:0≤d∧d<1000000000):0≤scC u d i∧scC u d i<1000000000:=by
 induction i with
 |zero=>rw[Dq];omega
 |succ i ih=>
  have:=kg (hu.at i) hd
  rw[zI];omega
theorem OX(hu:Lim u)(hd:0≤d∧d<1000000000):Lim (scL u d i)∧val (scL u d i)+bp i*scC u d i=val (u.take i)*d:=by
 induction i with
 |zero=>exact⟨Lim.nil,by rw[ac3,Dq,jo,kP];simp⟩
 |succ i ih=>
  obtain⟨h1,h2⟩:=ih
  have rc:=o6 (i:=i) hu hd
  rw[Dr,zI,jq,iJ,fC,Int.add_mul,←h2,uw,Int.mul_comm 1000000000 (bp i),Int.mul_assoc]
  generalize u.getD i 0=z
  refine⟨h1.snoc (by omega),?_⟩
  rw[Int.add_assoc,←Int.mul_add,show(scC u d i+z*d)%1000000000+1000000000*((scC u d i+z*d)/1000000000)=scC u d i+z*d by omega,Int.mul_add,Int.mul_assoc,Int.add_assoc]
theorem zJ(hu:Lim u)(hd:0≤d∧d<1000000000)(hn:u.length≤n)(hb:val u*d<bp n):Lim (scL u d n)∧val (scL u d n)=val u*d:=by
 obtain⟨h1,h2⟩:=OX (i:=n) hu hd
 rw[dn hn] at h2
 refine⟨h1,?_⟩
 have r1:=bv h1
 rw[iJ] at r1
 have rc:=o6 (i:=n) hu hd
 have hp:=iO (k:=n)
 by_cases h0:scC u d n=0
 ·rw[h0,Int.mul_zero] at h2;omega
 ·have:bp n*1≤bp n*scC u d n:=Int.mul_le_mul_of_nonneg_left (by omega) (by omega)
  omega
def pd:Nat→Int→List Int
 |0,_=>[]
 |k+1,v=>v%1000000000::pd k (v/1000000000)
theorem og:∀{k:Nat} {v:Int},(pd k v).length=k:=by
 intro k
 induction k with
 |zero=>intro v;rfl
 |succ k ih=>intro v;show(pd k _).length+1=_;rw[ih]
theorem lim_pd:∀{k:Nat} {v:Int},Lim (pd k v):=by
 intro k
 induction k with
 |zero=>intro v;exact Lim.nil
 |succ k ih=>intro v;exact ih.cons (by omega)
theorem F9:∀{k:Nat} {v:Int},0≤v→v<bp k→val (pd k v)=v:=by
 intro k
 induction k with
 |zero=>intro v h0 h;rw[OT] at h;show(0:Int)=v;omega
 |succ k ih=>
  intro v h0 h
  rw[uw] at h
  show v%1000000000+1000000000*val (pd k (v/1000000000))=v
  rw[ih (by omega) (by omega)];omega
theorem ac4:∀{l:List Int},Lim l→l=pd l.length (val l):=by
 intro l
 induction l with
 |nil=>intro _;rfl
 |cons x l ih=>
  intro h
  have hx:=h.hd
  rw[List.length_cons,eD]
  show x::l=(x+1000000000*val l)%1000000000::pd l.length ((x+1000000000*val l)/1000000000)
  rw[show(x+1000000000*val l)%1000000000=x by omega,show(x+1000000000*val l)/1000000000=val l by omega,←ih h.tl]
theorem WZ(h:Lim l)(hl:l.length=k)(hv:val l=v):l=pd k v:=by subst hl;subst hv;exact ac4 h
def tC(y:List Int)(f:Int):Nat→Int
 |0=>0
 |i+1=>(tC y f i+y.getD i 0*f)/1000000000
def tB(w y:List Int)(f:Int):Nat→Int
 |0=>0
 |i+1=>if w.getD i 0-(tC y f i+y.getD i 0*f)%1000000000-tB w y f i<0 then 1 else 0
def tL(w y:List Int)(f:Int):Nat→List Int
 |0=>[]
 |i+1=>tL w y f i++[if w.getD i 0-(tC y f i+y.getD i 0*f)%1000000000-tB w y f i<0 then w.getD i 0-(tC y f i+y.getD i 0*f)%1000000000-tB w y f i+1000000000 else w.getD i 0-(tC y f i+y.getD i 0*f)%1000000000-tB w y f i]
theorem aay:tC yl f 0=0:=rfl
theorem Vf:tC yl f (i+1)=(tC yl f i+yl.getD i 0*f)/1000000000:=rfl
theorem tB_0:tB w yl f 0=0:=rfl
theorem aaz(h:w.getD i 0-(tC yl f i+yl.getD i 0*f)%1000000000-tB w yl f i<0):tB w yl f (i+1)=1:=if_pos h
theorem aaA(h:¬w.getD i 0-(tC yl f i+yl.getD i 0*f)%1000000000-tB w yl f i<0):tB w yl f (i+1)=0:=if_neg h
theorem tL_0:tL w yl f 0=[]:=rfl
theorem aaB(h:w.getD i 0-(tC yl f i+yl.getD i 0*f)%1000000000-tB w yl f i<0):tL w yl f (i+1)=tL w yl f i++[w.getD i 0-(tC yl f i+yl.getD i 0*f)%1000000000-tB w yl f i+1000000000]:=by
 conv=>lhs;unfold tL
 rw[if_pos h]
theorem aaC(h:¬w.getD i 0-(tC yl f i+yl.getD i 0*f)%1000000000-tB w yl f i<0):tL w yl f (i+1)=tL w yl f i++[w.getD i 0-(tC yl f i+yl.getD i 0*f)%1000000000-tB w yl f i]:=by
 conv=>lhs;unfold tL
 rw[if_neg h]
theorem tL_len:(tL w yl f i).length=i:=by
 induction i with
 |zero=>rfl
 |succ i ih=>
  show(tL w yl f i++[_]).length=_
  rw[List.length_append,ih];rfl
theorem AU:0≤tB w yl f i∧tB w yl f i≤1:=by
 cases i with
 |zero=>exact⟨Int.le_refl _,(by decide:(0:Int)≤1)⟩
 |succ i=>unfold tB;split<;>omega
theorem Ga(hy:Lim yl)(hf:0≤f∧f<1000000000):0≤tC yl f i∧tC yl f i<1000000000:=by
 induction i with
 |zero=>rw[aay];omega
 |succ i ih=>
  have:=kg (hy.at i) hf
  rw[Vf];omega
theorem W9(hw:Lim w)(hy:Lim yl)(hf:0≤f∧f<1000000000):Lim (tL w yl f i)∧val (tL w yl f i)=val (w.take i)-val (yl.take i)*f+bp i*(tC yl f i+tB w yl f i):=by
 induction i with
 |zero=>exact⟨Lim.nil,by rw[tL_0,aay,tB_0,jo,kP,kP];simp⟩
 |succ i ih=>
  obtain⟨h1,h2⟩:=ih
  have rw1:=hw.at i
  have rc:=Ga (i:=i) hy hf
  have rb:=AU (w:=w) (yl:=yl) (f:=f) (i:=i)
  rw[fC,fC,Vf,uw,Int.mul_comm 1000000000 (bp i),Int.mul_assoc]
  by_cases h:w.getD i 0-(tC yl f i+yl.getD i 0*f)%1000000000-tB w yl f i<0
  ·rw[aaB h,aaz h,jq,tL_len,h2,Int.add_mul,Int.mul_assoc (bp i)]
   generalize yl.getD i 0*f=z at*
   refine⟨h1.snoc (by omega),?_⟩
   rw[show w.getD i 0-(tC yl f i+z)%1000000000-tB w yl f i+1000000000=w.getD i 0-z-(tC yl f i+tB w yl f i)+1000000000*((tC yl f i+z)/1000000000+1) by omega,Int.mul_add (bp i) (w.getD i 0-z-_),Int.mul_sub,Int.mul_sub]
   omega
  ·rw[aaC h,aaA h,jq,tL_len,h2,Int.add_mul,Int.mul_assoc (bp i)]
   generalize yl.getD i 0*f=z at*
   refine⟨h1.snoc (by omega),?_⟩
   rw[show w.getD i 0-(tC yl f i+z)%1000000000-tB w yl f i=w.getD i 0-z-(tC yl f i+tB w yl f i)+1000000000*((tC yl f i+z)/1000000000+0) by omega,Int.mul_add (bp i) (w.getD i 0-z-_),Int.mul_sub,Int.mul_sub]
   omega
theorem OY(hw:Lim w)(hy:Lim yl)(hf:0≤f∧f<1000000000)(hl:w.length=yl.length+1):Lim (tL w yl f w.length)∧val (tL w yl f w.length)=val w-val yl*f+bp w.length*tB w yl f w.length:=by
 obtain⟨h1,h2⟩:=W9 (i:=w.length) hw hy hf
 rw[dn (Nat.le_refl _),dn (by omega)] at h2
 have hc:tC yl f w.length=0:=by
  have rc:=Ga (i:=yl.length) hy hf
  rw[hl,Vf,dY (Nat.le_refl _)];omega
 rw[hc,Int.zero_add] at h2
 exact⟨h1,h2⟩
theorem OZ{p top second head x2 low vlow:Int}(hp:0<p)(hV:V=(top*1000000000+second)*p+vlow)(hvl:0≤vlow∧vlow<p)(hW:W=(head*1000000000+x2)*p+low)(hlo:0≤low∧low<p)(htop:500000000≤top∧top<1000000000)(hs:0≤second∧second<1000000000)(hg:0≤g∧g<1000000000)(h:g*(top*1000000000+second)≤head*1000000000+x2):g≤W/V+1:=by
 have hV0:0<V:=by
  have:1*p≤(top*1000000000+second)*p:=Int.mul_le_mul_of_nonneg_right (by omega) (by omega)
  omega
 have h1:g*(top*1000000000+second)*p≤(head*1000000000+x2)*p:=Int.mul_le_mul_of_nonneg_right h (by omega)
 have h2:g*vlow≤1000000000*p:=Int.le_trans (Int.mul_le_mul_of_nonneg_right (show g≤1000000000 by omega) hvl.1) (Int.mul_le_mul_of_nonneg_left (by omega) (by decide))
 have h3:1000000000*p≤(top*1000000000+second)*p:=Int.mul_le_mul_of_nonneg_right (by omega) (by omega)
 have e:g*V=g*(top*1000000000+second)*p+g*vlow:=by rw[hV,Int.mul_add,Int.mul_assoc]
 have hgV:(g-1)*V≤W:=by rw[Int.sub_mul,Int.one_mul];omega
 have:=Int.le_ediv_of_mul_le hV0 hgV
 omega
theorem zK{p top second head x2 low vlow:Int}(hp:0<p)(hV:V=(top*1000000000+second)*p+vlow)(hvl:0≤vlow∧vlow<p)(hW:W=(head*1000000000+x2)*p+low)(hlo:0≤low∧low<p)(hV0:0<V)(hg:0≤g)(h:head*1000000000+x2<g*(top*1000000000+second)):W/V<g:=by
 have h1:(head*1000000000+x2+1)*p≤g*(top*1000000000+second)*p:=Int.mul_le_mul_of_nonneg_right (by omega) (by omega)
 have h2:0≤g*vlow:=Int.mul_nonneg hg hvl.1
 have e:g*V=g*(top*1000000000+second)*p+g*vlow:=by rw[hV,Int.mul_add,Int.mul_assoc]
 rw[Int.add_mul,Int.one_mul] at h1
 exact Int.ediv_lt_of_lt_mul hV0 (by omega)
theorem Vg{p top second head x2 low vlow:Int}(hp:0<p)(hV:V=(top*1000000000+second)*p+vlow)(hvl:0≤vlow∧vlow<p)(hW:W=(head*1000000000+x2)*p+low)(hlo:0≤low∧low<p)(hV0:0<V)(ht:0<top)(hs:0≤second)(hx2:0≤x2∧x2<1000000000)(hh:0≤head):W/V≤head/top:=by
 refine Int.lt_add_one_iff.1 (zK (g:=head/top+1) hp hV hvl hW hlo hV0 (by have:=Int.ediv_nonneg hh (show 0≤top by omega);omega) ?_)
 have h1:head<(head/top+1)*top:=Int.lt_ediv_add_one_mul_self head ht
 have h3:0≤head/top:=Int.ediv_nonneg hh (by omega)
 have h2:0≤(head/top+1)*second:=Int.mul_nonneg (by omega) hs
 rw[Int.mul_add,←Int.mul_assoc];omega
end
section
variable {l a b T u w yl P S X:List Int} {x y c v s d f g r q V W U R:Int} {i j k n m M:Nat}
theorem Vh(h1:1≤v)(h2:v<1000000000):1≤1000000000/(v+1)∧1000000000/(v+1)<1000000000∧500000000≤1000000000/(v+1)*v∧1000000000/(v+1)*(v+1)≤1000000000:=by
 have hd:=Int.mul_ediv_add_emod 1000000000 (v+1)
 have hm0:=Int.emod_nonneg 1000000000 (show v+1≠0 by omega)
 have hm1:=Int.emod_lt_of_pos 1000000000 (show 0<v+1 by omega)
 generalize 1000000000/(v+1)=d at*
 generalize(1000000000:Int)%(v+1)=e at*
 rw[Int.mul_comm] at hd
 have hd1:1≤d:=by
  refine Decidable.not_not.1 fun hc=>?_
  have:d*(v+1)≤0*(v+1):=Int.mul_le_mul_of_nonneg_right (by omega) (by omega)
  omega
 have hx:d*(v+1)=d*v+d:=by rw[Int.mul_add,Int.mul_one]
 have h2':d*2≤d*(v+1):=Int.mul_le_mul_of_nonneg_left (by omega) (by omega)
 refine⟨hd1,by omega,?_,by omega⟩
 by_cases hb:500000000≤v
 ·have:1*v≤d*v:=Int.mul_le_mul_of_nonneg_right hd1 (by omega)
  omega
 ·refine Decidable.not_not.1 fun hc=>?_
  have hlow:500000000-v+1≤d:=by omega
  have h3:(500000000-v+1)*v≤d*v:=Int.mul_le_mul_of_nonneg_right hlow (by omega)
  have h4:0≤(v-1)*(500000000-v):=Int.mul_nonneg (by omega) (by omega)
  have e1:(v-1)*(500000000-v)=(500000000-v+1)*v-500000000:=by
   rw[Int.sub_mul,Int.add_mul,Int.sub_mul,Int.mul_sub,Int.one_mul,Int.one_mul,Int.mul_comm v 500000000];omega
  omega
theorem aaD(h:Lim l)(hn:l.length=n+1)(hv:500000000*bp n≤val l):500000000≤l.getD n 0:=by
 have e:=fU (l:=l) n
 have e2:l.drop n=[l.getD n 0]:=by
  rw[List.drop_eq_getElem_cons (by omega),iI (by omega),List.drop_eq_nil_of_le (by omega)]
 rw[e2,mP,Nat.min_eq_left (by omega)] at e
 have r:=(bv (l:=l.take n) h.take).2
 rw[List.length_take,Nat.min_eq_left (by omega)] at r
 refine Decidable.not_not.1 fun hc=>?_
 have:bp n*(l.getD n 0+1)≤bp n*500000000:=Int.mul_le_mul_of_nonneg_left (by omega) (by have:=iO (k:=n);omega)
 rw[Int.mul_add,Int.mul_one,Int.mul_comm (bp n) 500000000] at this
 omega
theorem O0(h:Lim l)(hn:l.length=k+2):∃low,0≤low∧low<bp k∧val l=(l.getD (k+1) 0*1000000000+l.getD k 0)*bp k+low:=by
 have e:=fU (l:=l) k
 have r:=bv (l:=l.take k) h.take
 rw[List.length_take,Nat.min_eq_left (by omega)] at r
 rw[Nat.min_eq_left (by omega),fD (by omega),fD (by omega),List.drop_eq_nil_of_le (by omega),jo,Int.mul_zero,Int.add_zero] at e
 refine⟨_,r.1,r.2,?_⟩
 rw[e,Int.mul_comm (bp k),Int.mul_comm 1000000000];rw[Int.add_comm (l.getD k 0)];omega
theorem Gb(h:Lim l)(hn:l.length=k+3):∃low,0≤low∧low<bp k∧val l=((l.getD (k+2) 0*1000000000+l.getD (k+1) 0)*1000000000+l.getD k 0)*bp k+low:=by
 have e:=fU (l:=l) k
 have r:=bv (l:=l.take k) h.take
 rw[List.length_take,Nat.min_eq_left (by omega)] at r
 rw[Nat.min_eq_left (by omega),fD (by omega),fD (by omega),fD (by omega),List.drop_eq_nil_of_le (by omega),jo,Int.mul_zero,Int.add_zero] at e
 refine⟨_,r.1,r.2,?_⟩
 rw[e,Int.mul_comm (bp k)]
 rw[show l.getD k 0+1000000000*(l.getD (k+1) 0+1000000000*l.getD (k+1+1) 0)=(l.getD (k+2) 0*1000000000+l.getD (k+1) 0)*1000000000+l.getD k 0 by
  show _=_;rw[show k+1+1=k+2 from rfl];omega]
 omega
theorem AX(h0:0≤v)(h:v<bp M)(hj:j≤M):val ((pd M v).drop j)=v/bp j∧val ((pd M v).take j)=v%bp j:=by
 have e:=fU (l:=pd M v) j
 rw[F9 h0 h,og,Nat.min_eq_left hj] at e
 have r:=bv (l:=(pd M v).take j) lim_pd.take
 rw[List.length_take,og,Nat.min_eq_left hj] at r
 have hp:=iO (k:=j)
 generalize val ((pd M v).drop j)=D at*
 generalize val ((pd M v).take j)=T at*
 constructor
 ·rw[e,Int.add_mul_ediv_left _ _ (by omega),Int.ediv_eq_zero_of_lt r.1 r.2,Int.zero_add]
 ·rw[e,Int.add_mul_emod_self_left,Int.emod_eq_of_lt r.1 r.2]
theorem Vi(h0:0≤v)(h:v<bp j)(hj:j≤M)(hM:v<bp M):val ((pd M v).drop j)=0:=by
 rw[(AX h0 hM hj).1];exact Int.ediv_eq_zero_of_lt h0 h
structure Stp(U V:Int)(M n j:Nat)(w:List Int):Prop where
 len:w.length=n+1
 lim:Lim w
 val:val w=U%(V*bp (j+1))/bp j
 lt:Go.Lm.val w<V*1000000000
 cat:∀w',w'.length=n+1→Lim w'→Go.Lm.val w'=Go.Lm.val w-Go.Lm.val w/V*V→(pd M (U%(V*bp (j+1)))).take j++w'++(pd M (U%(V*bp (j+1)))).drop (j+n+1)=pd M (U%(V*bp j))
 quo:U/(V*bp j)=U/(V*bp (j+1))*1000000000+Go.Lm.val w/V
 at_:∀i,i<n+1→w.getD i 0=(pd M (U%(V*bp (j+1)))).getD (j+i) 0
theorem stp(hU:0≤U)(hV:0<V)(hVn:V<bp n)(hM:j+n+1≤M):Stp U V M n j (((pd M (U%(V*bp (j+1)))).drop j).take (n+1)):=by
 have hb:=iO (k:=j)
 have hb1:=iO (k:=j+1)
 have hVb:0<V*bp (j+1):=Int.mul_pos hV hb1
 have hVj:0<V*bp j:=Int.mul_pos hV hb
 have e1:V*bp (j+1)=V*bp j*1000000000:=by rw[uw,Int.mul_comm 1000000000,Int.mul_assoc]
 obtain⟨R,hR⟩:∃R,U%(V*bp (j+1))=R:=⟨_,rfl⟩
 have hR0:0≤R:=by rw[←hR];exact Int.emod_nonneg _ (by omega)
 have hR1:R<V*bp (j+1):=by rw[←hR];exact Int.emod_lt_of_pos _ hVb
 have hVb2:V*bp (j+1)≤bp (j+n+1):=by
  have e2:bp (j+n+1)=bp n*bp (j+1):=by rw[show j+n+1=n+(j+1) by omega];exact FZ
  rw[e2]
  exact Int.mul_le_mul_of_nonneg_right (by omega) (by omega)
 have hbM:bp (j+n+1)≤bp M:=zH hM
 have hRM:R<bp M:=by omega
 rw[hR]
 obtain⟨hd,ht⟩:=AX hR0 hRM (j:=j) (by omega)
 have hl:((pd M R).drop j).length=M-j:=by rw[List.length_drop,og]
 have hz:val ((pd M R).drop (j+n+1))=0:=Vi hR0 (by omega) (by omega) hRM
 have hsp:=fU (l:=(pd M R).drop j) (n+1)
 rw[List.drop_drop,show j+(n+1)=j+n+1 by omega,hz,Int.mul_zero,Int.add_zero,hd] at hsp
 have hlim:Lim (((pd M R).drop j).take (n+1)):=lim_pd.drop.take
 have hlen:(((pd M R).drop j).take (n+1)).length=n+1:=by rw[List.length_take,hl];omega
 generalize hw:((pd M R).drop j).take (n+1)=w at*
 have hWlt:val w<V*1000000000:=by
  rw[←hsp]
  exact Int.ediv_lt_of_lt_mul hb (by rw[e1] at hR1;rw[Int.mul_assoc,Int.mul_comm 1000000000,←Int.mul_assoc];exact hR1)
 have hRe:R=R%bp j+bp j*val w:=by rw[←hsp];have:=Int.emod_add_mul_ediv R (bp j);omega
 have hr0:=Int.emod_nonneg R (show bp j≠0 by omega)
 have hr1:=Int.emod_lt_of_pos R hb
 have hw0:=(bv hlim).1
 have hq:=Int.mul_ediv_add_emod (val w) V
 have hm0:=Int.emod_nonneg (val w) (show V≠0 by omega)
 have hm1:=Int.emod_lt_of_pos (val w) hV
 -- R = (W / V) * (V * bp j) + R'
 have hR':R=R%bp j+bp j*(val w%V)+val w/V*(V*bp j):=by
  have:bp j*val w=bp j*(val w%V)+val w/V*(V*bp j):=by
   conv=>lhs;rw[←hq]
   rw[Int.mul_add,Int.add_comm,←Int.mul_assoc (val w/V),Int.mul_comm (val w/V) V,Int.mul_comm (bp j) (V*_)]
  omega
 have hlow0:0≤R%bp j+bp j*(val w%V):=by have:=Int.mul_nonneg (show 0≤bp j by omega) hm0;omega
 have hlow1:R%bp j+bp j*(val w%V)<V*bp j:=by
  have:bp j*(val w%V+1)≤bp j*V:=Int.mul_le_mul_of_nonneg_left (by omega) (by omega)
  rw[Int.mul_add,Int.mul_one,Int.mul_comm (bp j) V] at this;omega
 have hmod:U%(V*bp j)=R%bp j+bp j*(val w%V):=by
  have h1:U%(V*bp j)=R%(V*bp j):=by rw[←hR,e1,Int.emod_emod_of_dvd _ (Int.dvd_mul_right _ _)]
  rw[h1]
  conv=>lhs;rw[hR']
  rw[Int.add_mul_emod_self_right,Int.emod_eq_of_lt hlow0 hlow1]
 refine⟨hlen,hlim,by rw[hR];exact hsp.symm,hWlt,fun w' h1 h2 h3=>?_,?_,fun i hi=>?_⟩
 ·rw[hR]
  refine WZ ((lim_pd.take.app h2).app lim_pd.drop) ?_ ?_
  ·rw[List.length_append,List.length_append,List.length_take,List.length_drop,og,h1];omega
  ·rw[sD,sD,hz,Int.mul_zero,Int.add_zero,ht,List.length_take,og,Nat.min_eq_left (by omega),hmod,h3]
   rw[show val w-val w/V*V=val w%V by rw[Int.mul_comm (val w/V)];omega]
 ·have hU2:=Int.mul_ediv_add_emod U (V*bp (j+1))
  rw[hR] at hU2
  have e3:U=R%bp j+bp j*(val w%V)+(U/(V*bp (j+1))*1000000000+val w/V)*(V*bp j):=by
   rw[Int.add_mul]
   conv=>lhs;rw[←hU2]
   rw[e1,Int.mul_comm (V*bp j*1000000000),Int.mul_comm (V*bp j) 1000000000,←Int.mul_assoc]
   omega
  conv=>lhs;rw[e3]
  rw[Int.add_mul_ediv_right _ _ (by omega),Int.ediv_eq_zero_of_lt hlow0 hlow1,Int.zero_add]
 ·rw[hR,←hw,List.getD_eq_getElem?_getD,List.getElem?_take_of_lt hi,List.getElem?_drop,←List.getD_eq_getElem?_getD]
theorem Stp.exact(h:Stp U V M n j w)(hV:0<V)(hy:Lim yl)(hyl:yl.length=n)(hyv:Go.Lm.val yl=V):
 tB w yl (Go.Lm.val w/V) (n+1)=0∧(pd M (U%(V*bp (j+1)))).take j++tL w yl (Go.Lm.val w/V) (n+1)++(pd M (U%(V*bp (j+1)))).drop (j+n+1)=pd M (U%(V*bp j)):=by
 have hw0:=(bv h.lim).1
 have hq0:0≤Go.Lm.val w/V:=Int.ediv_nonneg hw0 (by omega)
 have hq1:Go.Lm.val w/V<1000000000:=Int.ediv_lt_of_lt_mul hV (by have:=h.lt;rw[Int.mul_comm];exact this)
 obtain⟨s1,s2⟩:=OY h.lim hy ⟨hq0,hq1⟩ (by rw[h.len,hyl])
 rw[h.len] at s1 s2
 have hq:=Int.mul_ediv_add_emod (Go.Lm.val w) V
 have hm0:=Int.emod_nonneg (Go.Lm.val w) (show V≠0 by omega)
 have rb:=AU (w:=w) (yl:=yl) (f:=Go.Lm.val w/V) (i:=n+1)
 have r1:=bv s1
 rw[tL_len] at r1
 rw[hyv] at s2
 have hp:=iO (k:=n+1)
 have hb:tB w yl (Go.Lm.val w/V) (n+1)=0:=by
  refine Decidable.not_not.1 fun hc=>?_
  have e:tB w yl (Go.Lm.val w/V) (n+1)=1:=by omega
  rw[e,Int.mul_one] at s2;omega
 refine⟨hb,h.cat _ tL_len s1 ?_⟩
 rw[s2,hb,Int.mul_zero,Int.add_zero,Int.mul_comm V]
theorem Stp.over(h:Stp U V M n j w)(hV:0<V)(hVn:V<bp n)(hy:Lim yl)(hyl:yl.length=n)(hyv:Go.Lm.val yl=V)(hg:Go.Lm.val w/V+1<1000000000):
 tB w yl (Go.Lm.val w/V+1) (n+1)=1∧(pd M (U%(V*bp (j+1)))).take j++pL (tL w yl (Go.Lm.val w/V+1) (n+1)) yl (n+1)++(pd M (U%(V*bp (j+1)))).drop (j+n+1)=pd M (U%(V*bp j)):=by
 have hw0:=(bv h.lim).1
 have hq0:0≤Go.Lm.val w/V:=Int.ediv_nonneg hw0 (by omega)
 obtain⟨s1,s2⟩:=OY h.lim hy (f:=Go.Lm.val w/V+1) ⟨by omega,hg⟩ (by rw[h.len,hyl])
 rw[h.len] at s1 s2
 have hq:=Int.mul_ediv_add_emod (Go.Lm.val w) V
 have hm0:=Int.emod_nonneg (Go.Lm.val w) (show V≠0 by omega)
 have hm1:=Int.emod_lt_of_pos (Go.Lm.val w) hV
 have rb:=AU (w:=w) (yl:=yl) (f:=Go.Lm.val w/V+1) (i:=n+1)
 have r1:=bv s1
 rw[tL_len] at r1
 rw[hyv,Int.mul_add,Int.mul_one] at s2
 have hp:=iO (k:=n+1)
 have hn1:bp n≤bp (n+1):=zH (by omega)
 have hb:tB w yl (Go.Lm.val w/V+1) (n+1)=1:=by
  refine Decidable.not_not.1 fun hc=>?_
  have e:tB w yl (Go.Lm.val w/V+1) (n+1)=0:=by omega
  rw[e,Int.mul_zero] at s2;omega
 rw[hb,Int.mul_one] at s2
 generalize hT:tL w yl (Go.Lm.val w/V+1) (n+1)=T at*
 have hTl:T.length=n+1:=by rw[←hT];exact tL_len
 obtain⟨p1,p2⟩:=WW (i:=n+1) s1 hy
 rw[dn (by omega),dn (by omega),hyv] at p2
 have r2:=bv p1
 rw[pL_len] at r2
 have rc:=uz (a:=T) (b:=yl) (i:=n+1)
 have hc:pC T yl (n+1)=1:=by
  refine Decidable.not_not.1 fun hc=>?_
  have e:pC T yl (n+1)=0:=by omega
  rw[e,Int.mul_zero] at p2;omega
 rw[hc,Int.mul_one] at p2
 refine⟨hb,h.cat _ pL_len p1 ?_⟩
 rw[Int.mul_comm (Go.Lm.val w/V)];omega
structure Gs(V:Int)(n:Nat)(w yl:List Int):Prop where
 q0:0≤val w/V
 q9:val w/V<1000000000
 hd:0≤w.getD n 0*1000000000+w.getD (n-1) 0∧w.getD n 0*1000000000+w.getD (n-1) 0≤yl.getD (n-1) 0*1000000000+999999999
 first:val w/V≤(w.getD n 0*1000000000+w.getD (n-1) 0)/yl.getD (n-1) 0
 dec:∀g r,val w/V≤g→0≤r→w.getD n 0*1000000000+w.getD (n-1) 0=g*yl.getD (n-1) 0+r→r*1000000000+w.getD (n-2) 0<g*yl.getD (n-2) 0→val w/V≤g-1
 stop:∀g r,val w/V≤g→g<1000000000→0≤r→w.getD n 0*1000000000+w.getD (n-1) 0=g*yl.getD (n-1) 0+r→(g*yl.getD (n-2) 0≤r*1000000000+w.getD (n-2) 0∨1000000000≤r)→g≤val w/V+1
theorem Stp.guess(h:Stp U V M n j w)(hV:0<V)(hy:Lim yl)(hyl:yl.length=n)(hyv:Go.Lm.val yl=V)(hn:2≤n)(htop:500000000≤yl.getD (n-1) 0):Gs V n w yl:=by
 obtain⟨k,rfl⟩:∃k,n=k+2:=⟨n-2,by omega⟩
 have e1:k+2-1=k+1:=rfl
 have e2:k+2-2=k:=rfl
 rw[e1] at htop
 have hw0:=(bv h.lim).1
 obtain⟨lv,l1,l2,hVs⟩:=O0 hy hyl
 obtain⟨lw,g1,g2,hWs⟩:=Gb h.lim h.len
 rw[hyv] at hVs
 have hp:=iO (k:=k)
 have ht:=hy.at (k+1);have hs:=hy.at k
 have hx2:=h.lim.at k;have hx1:=h.lim.at (k+1);have hxh:=h.lim.at (k+2)
 have hq0:0≤Go.Lm.val w/V:=Int.ediv_nonneg hw0 (by omega)
 have hq1:Go.Lm.val w/V<1000000000:=Int.ediv_lt_of_lt_mul hV (by have:=h.lt;rw[Int.mul_comm];exact this)
 have hlt:=h.lt
 -- the window's first limb is not greater than the divisor's
 have hxt:w.getD (k+2) 0≤yl.getD (k+1) 0:=by
  refine Decidable.not_not.1 fun hc=>?_
  have h1:((yl.getD (k+1) 0+1)*1000000000)*1000000000*bp k≤((w.getD (k+2) 0*1000000000+w.getD (k+1) 0)*1000000000+w.getD k 0)*bp k:=Int.mul_le_mul_of_nonneg_right (by omega) (by omega)
  have h2:V*1000000000≤(yl.getD (k+1) 0*1000000000+1000000000)*bp k*1000000000:=by
   refine Int.mul_le_mul_of_nonneg_right ?_ (by decide)
   have h3:(yl.getD (k+1) 0*1000000000+yl.getD k 0+1)*bp k≤(yl.getD (k+1) 0*1000000000+1000000000)*bp k:=Int.mul_le_mul_of_nonneg_right (by omega) (by omega)
   rw[Int.add_mul _ 1,Int.one_mul] at h3
   omega
  have h4:(yl.getD (k+1) 0*1000000000+1000000000)*bp k*1000000000=((yl.getD (k+1) 0+1)*1000000000)*1000000000*bp k:=by
   rw[Int.mul_assoc,Int.mul_comm (bp k),←Int.mul_assoc,show(yl.getD (k+1) 0*1000000000+1000000000)=(yl.getD (k+1) 0+1)*1000000000 by omega]
  omega
 have ea:∀g r:Int,w.getD (k+2) 0*1000000000+w.getD (k+1) 0=g*yl.getD (k+1) 0+r→g*(yl.getD (k+1) 0*1000000000+yl.getD k 0)=(w.getD (k+2) 0*1000000000+w.getD (k+1) 0)*1000000000-r*1000000000+g*yl.getD k 0:=fun g r he=>by
  rw[he,Int.mul_add,←Int.mul_assoc,Int.add_mul];omega
 refine⟨hq0,hq1,⟨by rw[e1];omega,by rw[e1];omega⟩,?_,fun g r hg hr he ht2=>?_,fun g r hg hg2 hr he ht2=>?_⟩
 ·rw[e1]
  exact Vg hp hVs ⟨l1,l2⟩ hWs ⟨g1,g2⟩ hV (by omega) hs.1 hx2 (by omega)
 ·rw[e1] at he;rw[e2] at ht2
  have:=zK (g:=g) hp hVs ⟨l1,l2⟩ hWs ⟨g1,g2⟩ hV (by omega) (by rw[ea g r he];omega)
  omega
 ·rw[e1] at he;rw[e2] at ht2
  refine OZ hp hVs ⟨l1,l2⟩ hWs ⟨g1,g2⟩ ⟨htop,ht.2⟩ hs ⟨by omega,hg2⟩ ?_
  rw[ea g r he]
  rcases ht2 with ht2|ht2
  ·omega
  ·have:=kg (x:=g) (y:=yl.getD k 0) ⟨by omega,hg2⟩ hs
   omega
theorem KN(hd:0<d)(hv:0<v)(hu:0≤c):c*d/(v*d)=c/v∧c*d%(v*d)=c%v*d:=by
 constructor
 ·exact Int.mul_ediv_mul_of_pos_left _ _ hd
 ·rw[Int.mul_comm c,Int.mul_comm v,Int.mul_emod_mul_of_pos _ _ hd,Int.mul_comm]
end
section
variable {l a b:List Int} {x y c v t:Int} {i j k n m u:Nat}
def AY:Nat→Nat→Nat
 |0,_=>0
 |f+1,u=>if u=0 then 0 else AY f (u/10)+1
def dgs(u:Nat):Nat:=AY u u
theorem Dt:∀(f u:Nat),u≤f→u<10^AY f u∧(0<u→0<AY f u∧10^(AY f u-1)≤u):=by
 intro f
 induction f with
 |zero=>intro u h;have:u=0:=by omega
        subst this;exact⟨by decide,fun h=>absurd h (by omega)⟩
 |succ f ih=>
  intro u h
  unfold AY
  by_cases h0:u=0
  ·rw[if_pos h0];exact⟨by rw[h0];decide,fun h=>absurd h (by omega)⟩
  ·rw[if_neg h0]
   obtain⟨h1,h2⟩:=ih (u/10) (by omega)
   refine⟨by rw[Nat.pow_succ];omega,fun _=>⟨by omega,?_⟩⟩
   rw[Nat.add_sub_cancel]
   by_cases h3:u/10=0
   ·rw[h3]
    have e:AY f 0=0:=by cases f<;>simp[AY]
    rw[e];omega
   ·obtain⟨h4,h5⟩:=h2 (by omega)
    obtain⟨q,hq⟩:∃q,AY f (u/10)=q+1:=⟨_,(Nat.succ_pred_eq_of_pos h4).symm⟩
    rw[hq] at h5⊢
    rw[Nat.add_sub_cancel] at h5
    rw[Nat.pow_succ];omega
theorem AZ:u<10^dgs u:=(Dt u u (Nat.le_refl _)).1
theorem xU(h:0<u):0<dgs u∧10^(dgs u-1)≤u:=(Dt u u (Nat.le_refl _)).2 h
theorem iA(h1:10^k≤u)(h2:u<10^(k+1)):dgs u=k+1:=by
 have h0:0<u:=Nat.lt_of_lt_of_le (Nat.pow_pos (by decide)) h1
 have a1:=AZ (u:=u)
 obtain⟨a2,a3⟩:=xU h0
 have c1:k<dgs u:=(Nat.pow_lt_pow_iff_right (show 1<10 by decide)).1 (Nat.lt_of_le_of_lt h1 a1)
 have c2:dgs u-1<k+1:=(Nat.pow_lt_pow_iff_right (show 1<10 by decide)).1 (Nat.lt_of_le_of_lt a3 h2)
 omega
theorem Xb:dgs 0=0:=rfl
theorem ac5(h:0<u):dgs u=dgs (u/10)+1:=by
 by_cases h3:u/10=0
 ·rw[h3,Xb]
  exact iA (k:=0) (by omega) (by omega)
 ·obtain⟨h4,h5⟩:=xU (u:=u/10) (by omega)
  have h6:=AZ (u:=u/10)
  obtain⟨q,hq⟩:∃q,dgs (u/10)=q+1:=⟨_,(Nat.succ_pred_eq_of_pos h4).symm⟩
  rw[hq] at h5 h6⊢
  rw[Nat.add_sub_cancel] at h5
  exact iA (by rw[Nat.pow_succ];omega) (by rw[Nat.pow_succ];omega)
theorem Xd(h:u<1000000000):dgs u≤9:=by
 rcases Nat.eq_zero_or_pos u with h0|h0
 ·subst h0;decide
 ·obtain⟨_,h2⟩:=xU h0
  refine Decidable.not_not.1 fun hc=>?_
  have:10^9≤10^(dgs u-1):=Nat.pow_le_pow_right (by decide) (by omega)
  omega
def dg9(l:List Int):Nat:=if l.length=0 then 0 else 9*(l.length-1)+dgs (l.getD (l.length-1) 0).toNat
theorem O1(h:l.length=0):dg9 l=0:=if_pos h
theorem Du(h:¬l.length=0):dg9 l=9*(l.length-1)+dgs (l.getD (l.length-1) 0).toNat:=if_neg h
theorem ac6:bp k=((10^(9*k):Nat):Int):=by unfold bp;rw[Nat.pow_mul]
theorem O3(hl:Lim l)(ht:Tr l):dg9 l≤m↔val l<((10^m:Nat):Int):=by
 by_cases h0:l.length=0
 ·rw[O1 h0,List.length_eq_zero_iff.1 h0,jo]
  exact⟨fun _=>Int.natCast_pos.2 (Nat.pow_pos (by decide)),fun _=>Nat.zero_le _⟩
 ·rw[Du h0]
  rcases ht with ht|ht
  ·rw[ht] at h0;exact absurd rfl h0
  ·have hr:=hl.at (l.length-1)
   obtain⟨n,hn⟩:∃n,l.length=n+1:=⟨_,(Nat.succ_pred_eq_of_pos (by omega)).symm⟩
   rw[hn,Nat.add_sub_cancel] at hr ht⊢
   have e:=fU (l:=l) n
   have e2:l.drop n=[l.getD n 0]:=by
    rw[List.drop_eq_getElem_cons (by omega),iI (by omega),List.drop_eq_nil_of_le (by omega)]
   rw[e2,mP,Nat.min_eq_left (by omega)] at e
   have r:=bv (l:=l.take n) hl.take
   rw[List.length_take,Nat.min_eq_left (by omega)] at r
   obtain⟨u,hu⟩:∃u:Nat,l.getD n 0=u:=Int.eq_ofNat_of_zero_le hr.1
   rw[hu] at e ht⊢
   rw[Int.toNat_natCast]
   have d1:=AZ (u:=u)
   obtain⟨d2,d3⟩:=xU (u:=u) (by omega)
   generalize dgs u=k at*
   have hb:=iO (k:=n)
   have up:val l<bp n*((10^k:Nat):Int):=by
    have:bp n*((u:Int)+1)≤bp n*((10^k:Nat):Int):=Int.mul_le_mul_of_nonneg_left (by omega) (by omega)
    rw[Int.mul_add,Int.mul_one] at this;omega
   have lo:bp n*((10^(k-1):Nat):Int)≤val l:=by
    have:bp n*((10^(k-1):Nat):Int)≤bp n*(u:Int):=Int.mul_le_mul_of_nonneg_left (by omega) (by omega)
    omega
   rw[ac6,←Int.natCast_mul,←Nat.pow_add] at up lo
   constructor
   ·intro h
    have:((10^(9*n+k):Nat):Int)≤((10^m:Nat):Int):=Int.ofNat_le.2 (Nat.pow_le_pow_right (by decide) h)
    omega
   ·intro h
    refine Decidable.not_not.1 fun hc=>?_
    have:((10^m:Nat):Int)≤((10^(9*n+(k-1)):Nat):Int):=Int.ofNat_le.2 (Nat.pow_le_pow_right (by decide) (by omega))
    omega
theorem xV:dg9 (lb n)≤m↔n<10^m:=by
 rw[O3 lim_lb ja,aW];exact Int.ofNat_lt
theorem Gc(h:n<10^m):(lb n).length≤m/9+1:=by
 have:=xV.2 h
 by_cases h0:(lb n).length=0
 ·omega
 ·rw[Du h0] at this;omega
end
section
variable {l m a b u T:List Int} {x y c v d f g r q V W U R:Int} {i j k n M:Nat}
theorem Xh(hV:0<V)(hW:0≤W)(hx:0≤x∧x<1000000000):
 (x+1000000000*W)/V=(x+1000000000*(W%V))/V+1000000000*(W/V)∧(x+1000000000*W)%V=(x+1000000000*(W%V))%V
 ∧0≤x+1000000000*(W%V)∧0≤(x+1000000000*(W%V))/V∧(x+1000000000*(W%V))/V<1000000000:=by
 have h:=Int.mul_ediv_add_emod W V
 have h0:=Int.emod_nonneg W (show V≠0 by omega)
 have h1:=Int.emod_lt_of_pos W hV
 have e:x+1000000000*W=(x+1000000000*(W%V))+1000000000*(W/V)*V:=by
  have:1000000000*(W/V)*V=1000000000*(V*(W/V)):=by rw[Int.mul_assoc,Int.mul_comm (W/V)]
  rw[this];omega
 refine⟨?_,?_,by omega,Int.ediv_nonneg (by omega) (by omega),Int.ediv_lt_of_lt_mul hV (by rw[Int.mul_comm];omega)⟩
 ·conv=>lhs;rw[e]
  rw[Int.add_mul_ediv_right _ _ (by omega)]
 ·conv=>lhs;rw[e]
  rw[Int.add_mul_emod_self_right]
def rqv(a:List Int)(V:Int)(m i:Nat):List Int:=List.replicate i 0++pd (m-i) (val (a.drop i)/V)
theorem adw(h:i≤M):(rqv a V M i).length=M:=by unfold rqv;rw[List.length_append,List.length_replicate,og];omega
theorem adz:rqv a V M M=List.replicate M 0:=by unfold rqv;rw[Nat.sub_self];exact List.append_nil _
theorem adA:Lim (rqv a V M i):=Lim.rep.app lim_pd
theorem adx(ha:Lim a)(hl:a.length=M)(hi:i<M)(hV:0<V)(hc:(a.getD i 0+1000000000*(val (a.drop (i+1))%V))/V=c):(rqv a V M (i+1)).set i c=rqv a V M i:=by
 subst hc
 have hd:=Xh hV (bv (l:=a.drop (i+1)) ha.drop).1 (ha.at i)
 unfold rqv
 rw[xS,show M-i=(M-(i+1))+1 by omega,fD (i:=i) (show i<a.length by omega),hd.1]
 show _=List.replicate i 0++(_%1000000000::pd (M-(i+1)) (_/1000000000))
 congr 2
 ·omega
 ·congr 1;omega
theorem ady(ha:Lim a)(hl:a.length=M)(hi:i<M)(hV:0<V)(hc:(a.getD i 0+1000000000*(val (a.drop (i+1))%V))/V=0):rqv a V M (i+1)=rqv a V M i:=by
 rw[←adx ha hl hi hV hc]
 unfold rqv
 rw[List.replicate_succ',List.append_assoc,List.set_append_right _ _ (by simp),List.length_replicate,Nat.sub_self];rfl
theorem adB(ha:Lim a)(hl:a.length=M)(hV:0<V):val (rqv a V M 0)=val a/V:=by
 have hr:=bv ha
 unfold rqv
 rw[List.replicate_zero,List.nil_append,List.drop_zero,Nat.sub_zero]
 refine F9 (Int.ediv_nonneg hr.1 (by omega)) ?_
 rw[←hl]
 have:val a/V≤val a:=Int.ediv_le_self _ hr.1
 omega
theorem aaV(ha:Lim a)(hi:i<a.length)(hV:0<V):val (a.drop i)%V=(a.getD i 0+1000000000*(val (a.drop (i+1))%V))%V:=by
 rw[fD hi,(Xh hV (bv (l:=a.drop (i+1)) ha.drop).1 (ha.at i)).2.1]
theorem VB(hx:0≤x∧x<1000000000):Lim (x::lb n)∧val (x::lb n)=x+1000000000*n:=⟨lim_lb.cons hx,by rw[eD,aW]⟩
theorem aaW(ha:Lim a)(hb:Lim b):(a.getD i 0+1000000000-b.getD i 0-mC a b i)%1000000000=mX a b i∧1-(a.getD i 0+1000000000-b.getD i 0-mC a b i)/1000000000=mC a b (i+1)∧0≤a.getD i 0+1000000000-b.getD i 0-mC a b i:=by
 have ra:=ha.at i;have rb:=hb.at i
 have rc:=uA (a:=a) (b:=b) (i:=i)
 unfold mX
 by_cases h:a.getD i 0<mC a b i+b.getD i 0
 ·rw[Vd h,if_pos h];omega
 ·rw[Ve h,if_neg h];omega
theorem mL_s:mL a b (i+1)=mL a b i++[mX a b i]:=rfl
theorem VC(hu:Lim u)(hd:0≤d∧d<1000000000)(h1:u.length≤i)(hc:scC u d i=0):Lim (List.replicate k 0++scL u d i)∧val (List.replicate k 0++scL u d i)=bp k*(val u*d):=by
 obtain⟨p1,p2⟩:=OX (i:=i) hu hd
 rw[dn h1,hc] at p2
 refine⟨Lim.rep.app p1,?_⟩
 rw[sD,Iw,List.length_replicate]
 have:val (scL u d i)=val u*d:=by omega
 rw[this];omega
theorem VD(hu:Lim u)(hd:0≤d∧d<1000000000)(h1:u.length≤i):scC u d (i+1)=0:=by
 have:=o6 (i:=i) hu hd
 rw[zI,dY h1];omega
end
