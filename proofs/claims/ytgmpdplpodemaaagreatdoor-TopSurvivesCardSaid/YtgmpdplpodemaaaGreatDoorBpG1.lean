/- Bp1 Bp3 Bp5 Bp7 Bp8 Bp10 Bp12 Bp14 Bp15 Bp17 Bp18 Bp19 Bp20 Bp25. No condition. -/
import Derived.Test.YtgmpdplpodemaaaGreatDoorSymG36
import Derived.Lib.TrailingZeros
set_option linter.all false
namespace Go.Bp
section
structure Nd where
 kind:Int
 server:Int
 need:Int
 wz:Bool
 w:List Int
 kz:Bool
 k:List Int
deriving DecidableEq
instance:Inhabited Nd:=⟨⟨0,0,0,true,[],true,[]⟩⟩
structure Ex where
 nz:Bool
 nodes:List Nd
 root:Int
deriving DecidableEq
instance:Inhabited Ex:=⟨⟨true,[],0⟩⟩
end
set_option maxRecDepth 20000
section
def WP(g:Nat→List Nd→List Nd)(mk:Nd→List Int→Nd)(n:Nd):List Int→List Nd→List Int→List Nd
 |[],out,ks=>out++[mk n ks]
 |k::kk,out,ks=>WP g mk n kk (g k.toNat out) (ks++[((g k.toNat out).length:Int)-1])
def N7(mk:Nd→List Int→Nd)(sub:List Nd→Nd→Option (List Nd))(nodes:List Nd):Nat→Nat→List Nd→List Nd
 |0,_,out=>out
 |f+1,i,out=>match sub out (nodes.getD i default) with
  |some out'=>out'
  |none=>WP (N7 mk sub nodes f) mk (nodes.getD i default) (nodes.getD i default).k out []
end
section
def ix{α:Type}(p:α→Bool)(l:List α):Int:=match l.findIdx? p with
 |some i=>i
 |none=> -1
section
variable {α:Type} [Inhabited α]{p:α→Bool} {l:List α} {j:Nat}
theorem um(hj:j<l.length)(h:∀i,i<j→p (l.getD i default)=false)(hp:p (l.getD j default)=true):ix p l=j:=by
 have:l.findIdx? p=some j:=by
  rw[List.findIdx?_eq_some_iff_getElem]
  refine⟨hj,by simpa[List.getD_eq_getElem?_getD,hj] using hp,fun i hi=>?_⟩
  have:=h i hi
  have hil:i<l.length:=by omega
  simpa[List.getD_eq_getElem?_getD,hil] using this
 unfold ix;rw[this]
theorem oV(h:∀i,i<l.length→p (l.getD i default)=false):ix p l= -1:=by
 have:l.findIdx? p=none:=by
  rw[List.findIdx?_eq_none_iff]
  intro x hx
  obtain⟨i,hi,rfl⟩:=List.getElem_of_mem hx
  have:=h i hi
  simpa[List.getD_eq_getElem?_getD,hi] using this
 unfold ix;rw[this]
theorem nV(h:∀i,i<j→p (l.getD i default)=false)(hp:p (l.getD j default)=false):∀i,i<j+1→p (l.getD i default)=false:=fun i hi=>by
 by_cases e:i=j
 ·subst e;exact hp
 ·exact h i (by omega)
theorem lV:decide (0≤ix p l)=l.any p:=by
 unfold ix
 cases h:l.findIdx? p with
 |none=>
  rw[List.findIdx?_eq_none_iff] at h
  have:l.any p=false:=by rw[List.any_eq_false];intro x hx;simp[h x hx]
  rw[this];rfl
 |some i=>
  rw[List.findIdx?_eq_some_iff_getElem] at h
  obtain⟨hi,hp,_⟩:=h
  have:l.any p=true:=List.any_eq_true.2 ⟨_,List.getElem_mem hi,hp⟩
  rw[this];simp
end
end
section
variable {mk:Nd→List Int→Nd} {sub:List Nd→Nd→Option (List Nd)} {nodes:List Nd} {c:Int} {of:Int→Int} {f i:Nat} {out:List Nd}
def Tab(mk:Nd→List Int→Nd)(sub:List Nd→Nd→Option (List Nd))(nodes:List Nd)(c:Int)(S:List Int)(i:Nat):Prop:=
 ∀j,j<i→∀f,j<f→∀out:List Nd,1≤((N7 mk sub nodes f j out).length:Int)-out.length∧S.getD j 0=min c (((N7 mk sub nodes f j out).length:Int)-out.length)
end
section
variable {ws:List Nat} {i j m b n:Nat}
def off(ws:List Nat)(j:Nat):Nat:=(ws.take j).sum
end
section
variable {h:Int→Bool} {x:Ex} {t:Nd} {i j q n N:Nat} {A:List Bool} {s:Nat}
def mem(s:Nat):Nat→List Int
 |0=>[]
 |j+1=>if s.testBit j then mem s j++[(j:Int)] else mem s j
def aA(s j:Nat):Nat:=(mem s j).length
theorem H6(hb:s.testBit j=true):mem s (j+1)=mem s j++[(j:Int)]:=by rw[mem,if_pos hb]
theorem H7(hb:s.testBit j=false):mem s (j+1)=mem s j:=by rw[mem,if_neg (by rw[hb];simp)]
theorem FH:aA s 0=0:=rfl
theorem FI(hb:s.testBit j=true):aA s (j+1)=aA s j+1:=by unfold aA;rw[H6 hb];simp
theorem FJ(hb:s.testBit j=false):aA s (j+1)=aA s j:=by unfold aA;rw[H7 hb]
theorem mK:(mem s j).length=aA s j:=rfl
theorem H8(h0:aA s j=0):mem s j=[]:=List.eq_nil_of_length_eq_zero h0
theorem lF:aA s j≤j:=by
 induction j with
 |zero=>exact Nat.le_refl _
 |succ j ih=>
  cases hb:s.testBit j with
  |true=>rw[FI hb];omega
  |false=>rw[FJ hb];omega
theorem Ap:(mem s j).take (aA s j)=mem s j:=List.take_of_length_le (Nat.le_refl _)
end
section
open Go.Sy
variable {s i j k n p:Nat}
def low(s:Nat):Nat:=Lib.ctz 16 (s%65536)
def nH(s k:Nat):Nat:=s%65536/2^k*2^k
theorem Z0:nH s 0=s%65536:=by simp[nH]
theorem Aq:nH s k<65536:=Nat.lt_of_le_of_lt (Nat.div_mul_le_self _ _) (Nat.mod_lt _ (by decide))
theorem nW:(nH s k).testBit i=(decide (k≤i)&&(s%65536).testBit i):=by
 unfold nH
 rw[Nat.testBit_mul_two_pow,Nat.testBit_div_two_pow]
 by_cases h:k≤i
 ·simp[h]
 ·simp[h]
theorem oW(h:i<16):(s%65536).testBit i=s.testBit i:=by
 rw[show(65536:Nat)=2^16 by rfl,Nat.testBit_mod_two_pow];simp[h]
theorem Ar(h:16≤i):(s%65536).testBit i=false:=by
 rw[show(65536:Nat)=2^16 by rfl,Nat.testBit_mod_two_pow];simp;omega
theorem H9(hk:k≤p)(h:∀i,k≤i→i<p→s.testBit i=false):mem s p=mem s k:=by
 induction p with
 |zero=>have:k=0:=by omega
        subst this;rfl
 |succ p ih=>
  by_cases e:k=p+1
  ·subst e;rfl
  ·rw[H7 (h p (by omega) (by omega))]
   exact ih (by omega) (fun i h1 h2=>h i h1 (by omega))
structure NextM(s k:Nat)(p:Nat):Prop where
 ge:k≤p
 lt:p<16
 mem:mem s (p+1)=mem s k++[(p:Int)]
 len:aA s (p+1)=aA s k+1
 cut:U (bP (nH s k) (nH s k+65535))=U (nH s (p+1))
theorem N8(h:¬nH s k%65536=0):NextM s k (low (nH s k)):=by
 have hlt:=Aq (s:=s) (k:=k)
 generalize hr:nH s k=r at*
 rw[Nat.mod_eq_of_lt hlt] at h
 obtain⟨m,hm,hp⟩:=Lib.ctzFrom_spec 16 r (by omega) (by simpa using hlt)
 have e:low r=Lib.ctzFrom 16 r:=by unfold low;rw[Nat.mod_eq_of_lt hlt];simp[Lib.ctz,h]
 rw[e]
 generalize Lib.ctzFrom 16 r=p at*
 have hb:∀i,r.testBit i=(decide (p≤i)&&(2*m+1).testBit (i-p)):=fun i=>by
  rw[hm,Nat.mul_comm,Nat.testBit_mul_two_pow]
 have hbp:r.testBit p=true:=by rw[hb];simp
 have hk:k≤p∧(s%65536).testBit p=true:=by
  rw[←hr,nW] at hbp;simpa using hbp
 have hgap:∀i,k≤i→i<p→s.testBit i=false:=fun i h1 h2=>by
  have h3:r.testBit i=false:=by rw[hb];simp;omega
  rw[←hr,nW] at h3
  rw[←oW (by omega)]
  simpa[h1] using h3
 have hsp:s.testBit p=true:=by rw[←oW hp];exact hk.2
 have hmem:mem s (p+1)=mem s k++[(p:Int)]:=by rw[H6 hsp,H9 hk.1 hgap]
 refine⟨hk.1,hp,hmem,by unfold aA;rw[hmem];simp,?_⟩
 unfold U
 congr 1
 have e1:(r+65535)%65536=r-1:=by omega
 unfold bP
 rw[jL,hr,e1,Nat.mod_eq_of_lt hlt,Nat.mod_eq_of_lt Aq]
 refine Nat.eq_of_testBit_eq (fun i=>?_)
 have e2:r-1=2^(p+1)*m+(2^p-1):=by
  have h2:0<2^p:=Nat.two_pow_pos p
  rw[hm,Nat.pow_succ,Nat.mul_add,Nat.mul_one,←Nat.mul_assoc];omega
 have h2:2^p-1<2^(p+1):=by have h2:0<2^p:=Nat.two_pow_pos p;rw[Nat.pow_succ];omega
 rw[Nat.testBit_and,e2,Nat.testBit_two_pow_mul_add _ h2,nW]
 have hs:r.testBit i=(decide (k≤i)&&(s%65536).testBit i):=by rw[←hr,nW]
 by_cases c:p+1≤i
 ·have hk':decide (k≤i)=true:=by simp;omega
  rw[hk',Bool.true_and] at hs
  have hx:r.testBit i=m.testBit (i-(p+1)):=by
   rw[hb]
   have:i-p=(i-(p+1))+1:=by omega
   rw[this,Nat.testBit_succ,show(2*m+1)/2=m by omega]
   simp;omega
  rw[if_neg (by omega),←hs,hx]
  simp[c]
 ·rw[if_pos (by omega),Nat.testBit_two_pow_sub_one]
  have:decide (p+1≤i)=false:=by simpa using c
  rw[this,Bool.false_and]
  by_cases c2:i<p
  ·have:r.testBit i=false:=by rw[hb];simp;omega
   rw[this];simp
  ·simp[c2]
theorem N9(h:nH s k%65536=0)(hk:k≤16):mem s 16=mem s k∧aA s 16=aA s k:=by
 have e:mem s 16=mem s k:=by
  refine H9 hk (fun i h1 h2=>?_)
  have h3:(nH s k).testBit i=false:=by
   rw[Nat.mod_eq_of_lt Aq] at h;rw[h];simp
  rw[nW] at h3
  rw[←oW h2]
  simpa[h1] using h3
 exact⟨e,by unfold aA;rw[e]⟩
end
section
open Go.Sy
variable {l:List Ex} {s q i j k n:Nat}
def Oa(n:Nat):Nat:=2^n-1
def Au(s n:Nat):List Nat:=(List.range n).filter fun i=>s.testBit i
theorem WQ:mem s n=(Au s n).map fun(i:Nat)=>(i:Int):=by
 induction n with
 |zero=>rfl
 |succ n ih=>
  unfold Au at*
  rw[List.range_succ,List.filter_append,List.map_append,←ih]
  cases h:s.testBit n with
  |true=>rw[H6 h];simp[h]
  |false=>rw[H7 h];simp[h]
theorem Ob:aA s n=(Au s n).length:=by unfold aA;rw[WQ];simp
theorem Oc:i∈Au s n↔i<n∧s.testBit i=true:=by simp[Au]
end
section
open Go.Sy
variable {s q x y i j k n:Nat}
theorem Av(h:16≤i):bit x i=false:=Ar h
theorem FK(h:bit x i=true):i<16:=by
 refine Classical.byContradiction fun hn=>?_
 rw[Av (by omega)] at h;cases h
theorem UB:bit (x%65536) i=bit x i:=by unfold bit;rw[Nat.mod_mod]
theorem iy:bit (bP x y) i=(bit x i&&bit y i):=by unfold bit bP;rw[jL,Nat.testBit_and]
theorem UC:bit (sor x y) i=(bit x i||bit y i):=by unfold bit sor;rw[xM,Nat.testBit_or]
theorem xO:bit (dJ x y) i=(bit x i&& !bit y i):=by
 have h:=Nz (x:=x%65536) (y:=y) (j:=i) (Nat.mod_lt _ (by decide))
 by_cases hi:i<16
 ·have e:dJ x y%65536=TL (x%65536) y:=by
   unfold dJ TL
   rw[jL];congr 1;omega
  unfold bit
  rw[e,h,oW hi (s:=y)]
 ·rw[Av (by omega),Av (x:=x) (by omega)];rfl
theorem CY(hn:n≤16):bit (Oa n) i=decide (i<n):=by
 have h:2^n≤65536:=by rw[show(65536:Nat)=2^16 by rfl];exact Nat.pow_le_pow_right (by decide) hn
 have h2:0<2^n:=Nat.two_pow_pos n
 unfold bit Oa
 rw[Nat.mod_eq_of_lt (by omega),Nat.testBit_two_pow_sub_one]
theorem zA:bit 0 i=false:=by simp[bit]
theorem mM:x%65536=y%65536↔∀i,i<16→bit x i=bit y i:=by
 refine⟨fun h i _=>by unfold bit;rw[h],fun h=>Nat.eq_of_testBit_eq fun i=>?_⟩
 by_cases hi:i<16
 ·exact h i hi
 ·rw[Ar (by omega),Ar (by omega)]
theorem Od:x%65536=0↔∀i,i<16→bit x i=false:=by
 have:=mM (x:=x) (y:=0)
 simp only[zA,Nat.zero_mod] at this
 exact this
theorem dR:dJ x y%65536=0↔∀i,bit x i=true→bit y i=true:=by
 rw[Od]
 refine⟨fun h i hx=>?_,fun h i _=>?_⟩
 ·have:=h i (FK hx)
  rw[xO,hx] at this
  simpa using this
 ·rw[xO]
  cases hx:bit x i with
  |false=>rfl
  |true=>rw[h i hx];rfl
theorem UD(h:∀i,bit s i=true→i<n):s%65536<2^n:=by
 refine Nat.lt_of_not_le fun hge=>?_
 obtain⟨k,hk1,hk2⟩:=Nat.exists_ge_and_testBit_of_ge_two_pow hge
 have:=h k hk2
 omega
end
section
open Go.Sy
variable {s q x y i j k n m:Nat} {go:Nat→Bool}
def fd(go:Nat→Bool)(j:Nat):Nat→Nat×Bool
 |0=>(j,true)
 |n+1=>if go (j+1)=true then fd go (j+1) n else(j+1,false)
theorem AA(h:go (j+1)=true):fd go j (n+1)=fd go (j+1) n:=by simp[fd,h]
theorem Kv(h:go (j+1)=false):fd go j (n+1)=(j+1,false):=by simp[fd,h]
theorem acM(h0:go j=true)(h:(fd go j n).2=true):go (fd go j n).1=true∧(fd go j n).1=j+n:=by
 induction n generalizing j with
 |zero=>exact⟨h0,rfl⟩
 |succ n ih=>
  by_cases hg:go (j+1)=true
  ·rw[AA hg] at h⊢
   have:=ih hg h
   exact⟨this.1,by rw[this.2];omega⟩
  ·rw[Kv (by simpa using hg)] at h;cases h
theorem Z6(h:(fd go j n).2=true):fd go j (n+m)=fd go (j+n) m:=by
 induction n generalizing j with
 |zero=>rw[Nat.zero_add];rfl
 |succ n ih=>
  by_cases hg:go (j+1)=true
  ·rw[AA hg] at h
   rw[show n+1+m=n+m+1 by omega,AA hg,ih h,show j+1+n=j+(n+1) by omega]
  ·rw[Kv (by simpa using hg)] at h;cases h
theorem Oe(h:(fd go j n).2=false):fd go j (n+m)=fd go j n:=by
 induction n generalizing j with
 |zero=>cases h
 |succ n ih=>
  by_cases hg:go (j+1)=true
  ·rw[AA hg] at h⊢
   rw[show n+1+m=n+m+1 by omega,AA hg,ih h]
  ·have hg:go (j+1)=false:=by simpa using hg
   rw[Kv hg,show n+1+m=n+m+1 by omega,Kv hg]
def gq(m k:Nat):List Nat:=(List.range (2^m)).filter fun n=>decide ((aA n 16)=k)
def UE(n:Nat):Nat:=bP n (FE n)
def upV(n:Nat):Nat:=n+UE n
def FL(n:Nat):Nat:=sor (upV n) (UA (pQ n (upV n)) (UE n)%4294967296/2^2)
def FM(m k:Nat):Bool:=
 let l:=gq m k
 decide (0<l.length)&&decide (l.length≤64)&&decide (l.getD 0 0=2^k-1)&&(List.range l.length).all fun j=>
  let n:=l.getD j 0
  decide (n<2^m)&&(if n=0 then decide (j+1=l.length) else decide (UE n%4294967296≠0)&&(if j+1<l.length then decide (FL n%4294967296=l.getD (j+1) 0) else !decide (FL n%4294967296<2^m)))
theorem Ia:∀m,m<7→∀k,k<m+1→FM m k=true:=by decide+kernel
structure Xl(m k j n:Nat):Prop where
 lt:n<2^m
 zero:n=0→j+1=(gq m k).length
 low:n≠0→UE n%4294967296≠0
 next:n≠0→j+1<(gq m k).length→FL n%4294967296=(gq m k).getD (j+1) 0
 last:n≠0→¬j+1<(gq m k).length→¬FL n%4294967296<2^m
theorem UF(hm:m<7)(hk:k≤m)(hj:j<(gq m k).length):Xl m k j ((gq m k).getD j 0):=by
 have h:=Ia m hm k (by omega)
 unfold FM at h
 simp only[Bool.and_eq_true,decide_eq_true_eq,List.all_eq_true,List.mem_range] at h
 obtain⟨_,h⟩:=h
 obtain⟨h1,h2⟩:=h j hj
 refine⟨h1,fun e=>?_,fun e=>?_,fun e e2=>?_,fun e e2=>?_⟩
 ·rw[if_pos e] at h2;simpa using h2
 ·rw[if_neg e] at h2;simp only[Bool.and_eq_true,decide_eq_true_eq] at h2;exact h2.1
 ·rw[if_neg e] at h2;simp only[Bool.and_eq_true,decide_eq_true_eq] at h2;rw[if_pos e2] at h2;simpa using h2.2
 ·rw[if_neg e] at h2;simp only[Bool.and_eq_true,decide_eq_true_eq] at h2;rw[if_neg e2] at h2;simpa using h2.2
theorem FN(hm:m<7)(hk:k≤m):0<(gq m k).length∧(gq m k).length≤64∧(gq m k).getD 0 0=2^k-1:=by
 have h:=Ia m hm k (by omega)
 unfold FM at h
 simp only[Bool.and_eq_true,decide_eq_true_eq] at h
 exact⟨h.1.1.1,h.1.1.2,h.1.2⟩
def zC(ms:List Nat)(n:Nat):Nat→Nat
 |0=>0
 |i+1=>if Ku n i=true then sor (zC ms n i) (2^ms.getD i 0) else zC ms n i
def pick(s n:Nat):Nat:=zC (Au s 16) n (aA s 16)
def chs(s k:Nat):List Nat:=(gq (aA s 16) k).map (pick s)
def rY(s:Nat):Nat→List Nat
 |0=>[]
 |k+1=>rY s k++chs s k
def dW(s:Nat):List Nat:=rY s (aA s 16+1)
end
section
open Go.Sy
variable {n i j k m s N:Nat} {go:Nat→Bool}
def sbL(s k:Nat):Nat:=(rY s k).length
theorem xP:sbL s (k+1)=sbL s k+(gq (aA s 16) k).length:=by unfold sbL;simp[rY,chs]
theorem WS:sbL s 0=0:=rfl
theorem zD:∃r,rY s (k+n)=rY s k++r:=by
 induction n with
 |zero=>exact⟨[],by simp⟩
 |succ n ih=>
  obtain⟨r,hr⟩:=ih
  exact⟨r++chs s (k+n),by show rY s (k+n)++chs s (k+n)=_;rw[hr,List.append_assoc]⟩
theorem FO(h:k≤m):sbL s k≤sbL s m:=by
 obtain⟨r,hr⟩:=zD (s:=s) (k:=k) (n:=m-k)
 rw[show k+(m-k)=m by omega] at hr
 unfold sbL;rw[hr,List.length_append];omega
theorem UG(hk:k≤aA s 16)(hi:i<(gq (aA s 16) k).length):(dW s).getD (sbL s k+i) 0=pick s ((gq (aA s 16) k).getD i 0):=by
 obtain⟨r,hr⟩:=zD (s:=s) (k:=k+1) (n:=aA s 16-k)
 rw[show k+1+(aA s 16-k)=aA s 16+1 by omega] at hr
 unfold dW sbL;rw[hr,show rY s (k+1)=rY s k++chs s k from rfl,List.append_assoc]
 have hc:i<(chs s k).length:=by unfold chs;simpa using hi
 simp only[List.getD_eq_getElem?_getD]
 rw[List.getElem?_append_right (by omega),Nat.add_sub_cancel_left,List.getElem?_append_left hc]
 unfold chs;simp[List.getElem?_eq_getElem hi]
structure SG(s:Nat)(go:Nat→Bool)(k:Nat):Prop where
 hle:k≤aA s 16+1
 hgo:go (sbL s k)=true
 hfd:fd go 0 (dW s).length=fd go (sbL s k) ((dW s).length-sbL s k)
theorem SG.zero(h:go 0=true):SG s go 0:=⟨by omega,h,by rw[WS];rfl⟩
theorem wy:(dW s).length=sbL s (aA s 16+1):=rfl
theorem SG.t(h:SG s go k)(hk:k≤aA s 16)(hb:(fd go (sbL s k) (gq (aA s 16) k).length).2=true):SG s go (k+1)∧(fd go (sbL s k) (gq (aA s 16) k).length).1=sbL s (k+1):=by
 have h1:=acM h.hgo hb
 have hl:=FO (s:=s) (k:=k+1) (m:=aA s 16+1) (by omega)
 rw[←wy] at hl
 have hs:=xP (s:=s) (k:=k)
 rw[←hs] at h1
 refine⟨⟨by omega,by rw[←h1.2];exact h1.1,?_⟩,h1.2⟩
 rw[h.hfd,show(dW s).length-sbL s k=(gq (aA s 16) k).length+((dW s).length-sbL s (k+1)) by omega,Z6 hb,←hs]
theorem SG.f(h:SG s go k)(hk:k≤aA s 16)(hb:(fd go (sbL s k) (gq (aA s 16) k).length).2=false):fd go 0 (dW s).length=fd go (sbL s k) (gq (aA s 16) k).length:=by
 have hl:=FO (s:=s) (k:=k+1) (m:=aA s 16+1) (by omega)
 rw[←wy] at hl
 have hs:=xP (s:=s) (k:=k)
 rw[h.hfd,show(dW s).length-sbL s k=(gq (aA s 16) k).length+((dW s).length-sbL s (k+1)) by omega,Oe hb]
theorem SG.e(h:SG s go k)(hk:k=aA s 16+1):(fd go 0 (dW s).length).1=sbL s k:=by
 rw[h.hfd,wy,hk,Nat.sub_self];rfl
end
section
open Go.Sy
variable {n i j k m s q d x N L:Nat} {p:Nat→Bool} {xs:List Nat}
def eO(acc:List Nat)(q:Nat):Bool:=acc.any fun m=>decide (dJ m q%65536=0)
end
section
open Go.Sy
variable {n i j k:Nat} {D D':Nat→Nat→Bool} {qs:List Nat}
def jxG(p:Nat→Bool):Nat→Nat→Option Nat
 |_,0=>none
 |j,n+1=>if p j=true then some j else jxG p (j+1) n
def jx(p:Nat→Bool)(n:Nat):Option Nat:=jxG p 0 n
theorem QT{p:Nat→Bool}(h:jxG p k n=some j):k≤j∧j<k+n∧p j=true∧∀i,k≤i→i<j→p i=false:=by
 induction n generalizing k with
 |zero=>cases h
 |succ n ih=>
  unfold jxG at h
  split at h
  ·cases h;exact⟨Nat.le_refl _,by omega,‹_›,fun i h1 h2=>by omega⟩
  ·rename_i hn
   obtain⟨h1,h2,h3,h4⟩:=ih h
   refine⟨by omega,by omega,h3,fun i hi hi2=>?_⟩
   by_cases e:i=k
   ·subst e;simpa using hn
   ·exact h4 i (by omega) hi2
theorem WB{p:Nat→Bool}(h:jx p n=some j):j<n∧p j=true∧∀i,i<j→p i=false:=by
 have:=QT h;exact⟨by omega,this.2.2.1,fun i hi=>this.2.2.2 i (Nat.zero_le _) hi⟩
theorem adq{p:Nat→Bool}(h:jx p n=none):∀i,i<n→p i=false:=fun i hi=>by
 cases e:p i with
 |false=>rfl
 |true=>
  exfalso
  have key:∀(m k:Nat),jxG p k m=none→∀i,k≤i→i<k+m→p i=false:=by
   intro m
   induction m with
   |zero=>intro k _ i h1 h2;omega
   |succ m ih=>
    intro k hk i h1 h2
    unfold jxG at hk
    split at hk
    ·cases hk
    ·rename_i hn
     by_cases e:i=k
     ·subst e;simpa using hn
     ·exact ih (k+1) hk i (by omega) (by omega)
  rw[key n 0 h i (by omega) (by omega)] at e;cases e
end
section
open Go.Sy
variable {n i j:Nat} {F:Nat→Bool}
def goF(F:Nat→Bool):Nat→Bool
 |0=>true
 |j+1=>goF F j&& !F j
theorem Jw(h:∀i,i<j→F i=false):goF F j=true:=by
 induction j with
 |zero=>rfl
 |succ j ih=>show(goF F j&& !F j)=true;rw[ih (fun i hi=>h i (by omega)),h j (by omega)];rfl
theorem G8(h:goF F j=true):∀i,i<j→F i=false:=by
 induction j with
 |zero=>intro i hi;omega
 |succ j ih=>
  intro i hi
  have h:(goF F j&& !F j)=true:=h
  rw[Bool.and_eq_true] at h
  by_cases e:i=j
  ·subst e;simpa using h.2
  ·exact ih h.1 i (by omega)
theorem fdF{k:Nat}(hg:goF F k=true):fd (goF F) k n=match jxG F k n with|some j=>(j+1,false)|none=>(k+n,true):=by
 induction n generalizing k with
 |zero=>rfl
 |succ n ih=>
  unfold jxG
  cases hF:F k with
  |true=>
   rw[Kv (by show(goF F k&& !F k)=false;rw[hg,hF];rfl)];simp
  |false=>
   have hg2:goF F (k+1)=true:=by show(goF F k&& !F k)=true;rw[hg,hF];rfl
   rw[AA hg2,ih hg2]
   simp only[Bool.false_eq_true,if_false]
   cases jxG F (k+1) n with
   |none=>simp;omega
   |some j=>rfl
end
