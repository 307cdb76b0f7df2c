/- Tm1 Tm4 Tm5 Tm2. No condition. -/
import Derived.Test.YtgmpdplpodemaaaGreatDoorDg9
set_option linter.all false
set_option maxHeartbeats 4000000
set_option maxRecDepth 20000
namespace Go.Proofs.YtgmpdplpodemaaaGreatDoor
section
open Go Go.Sy Go.Bp Go.Dg
variable {n N M T L k i j m r a b w u v s q x y d:Nat} {p f g:Nat→Bool} {ms xs o o' l:List Nat}
def kZ(o:List Nat)(x:Nat):Nat:=(o.takeWhile fun y=>bef y x).length
def ut(o:List Nat)(x:Nat):List Nat:=
 if kZ o x<o.length∧o.getD (kZ o x) default%65536=x%65536 then o else o.take (kZ o x)++x::o.drop (kZ o x)
def iT(xs:List Nat):Nat→List Nat
 |0=>[]
 |j+1=>ut (iT xs j) (xs.getD j default)
theorem aah:iT xs 0=[]:=rfl
theorem FW:iT xs (j+1)=ut (iT xs j) (xs.getD j default):=rfl
theorem Ij(h:∀i,i<a→bef (o.getD i default) x=true)(ha:a≤o.length)(he:a=o.length∨bef (o.getD a default) x=false):kZ o x=a:=by
 unfold kZ
 induction o generalizing a with
 |nil=>simp at ha;subst ha;rfl
 |cons y o ih=>
  cases a with
  |zero=>
   rcases he with he|he
   ·simp at he
   ·have he:bef y x=false:=he
    rw[List.takeWhile_cons,he];rfl
  |succ a=>
   have h0:bef y x=true:=h 0 (by omega)
   rw[List.takeWhile_cons,h0]
   show(_::_).length=_
   rw[List.length_cons,ih (a:=a) (fun i hi=>h (i+1) (by omega)) (by simpa using ha) (by simpa using he)]
theorem UY:kZ o x≤o.length:=by
 unfold kZ
 exact(List.takeWhile_prefix _).length_le
theorem OB(hi:i<kZ o x):bef (o.getD i default) x=true:=by
 unfold kZ at hi
 induction o generalizing i with
 |nil=>simp at hi
 |cons y o ih=>
  rw[List.takeWhile_cons] at hi
  cases hb:bef y x with
  |false=>rw[hb] at hi;simp at hi
  |true=>
   rw[hb] at hi
   cases i with
   |zero=>exact hb
   |succ i=>exact ih (i:=i) (by simpa using hi)
theorem UZ(h:kZ o x<o.length):bef (o.getD (kZ o x) default) x=false:=by
 unfold kZ at*
 induction o with
 |nil=>simp at h
 |cons y o ih=>
  rw[List.takeWhile_cons] at h⊢
  cases hb:bef y x with
  |false=>rw[if_neg (by simp)];exact hb
  |true=>
   rw[hb] at h
   rw[if_pos rfl]
   show bef ((y::o).getD ((_:List Nat).length+1) default) x=false
   exact ih (by simpa using h)
theorem Ik:bef x x=false:=wC kM
theorem U0(h1:bef x y=false)(h2:¬x%65536=y%65536):bef y x=true:=by
 unfold bef at*
 by_cases e:aA x 16=aA y 16
 ·rw[if_pos e] at h1;rw[if_pos e.symm];simp only[decide_eq_true_eq,decide_eq_false_iff_not] at*;omega
 ·rw[if_neg e] at h1;rw[if_neg (fun h=>e h.symm)];simp only[decide_eq_true_eq,decide_eq_false_iff_not] at*;omega
theorem OC(hx:x<65536)(ho:∀y∈o,y<65536):y∈ut o x↔y∈o∨y=x:=by
 unfold ut
 split
 ·rename_i h
  refine⟨fun h=> .inl h,fun h2=>h2.elim id fun e=>?_⟩
  have hm:o.getD (kZ o x) default∈o:=iR h.1
  have:=ho _ hm
  rw[Nat.mod_eq_of_lt this,Nat.mod_eq_of_lt hx] at h
  rw[e,←h.2];exact hm
 ·rw[List.mem_append,List.mem_cons]
  have:y∈o↔y∈o.take (kZ o x)∨y∈o.drop (kZ o x):=by
   conv=>lhs;rw[←List.take_append_drop (kZ o x) o]
   exact List.mem_append
  rw[this]
  constructor
  ·rintro(h|h|h)
   ·exact .inl (.inl h)
   ·exact .inr h
   ·exact .inl (.inr h)
  ·rintro((h|h)|h)
   ·exact .inl h
   ·exact .inr (.inr h)
   ·exact .inr (.inl h)
theorem OD(ho:o.Pairwise fun a b=>bef a b=true):(ut o x).Pairwise fun a b=>bef a b=true:=by
 unfold ut
 split
 ·exact ho
 ·rename_i h
  have ho2:=ho
  rw[←List.take_append_drop (kZ o x) o] at ho2
  obtain⟨h1,h2,h3⟩:=List.pairwise_append.1 ho2
  have ht:∀y∈o.take (kZ o x),bef y x=true:=fun y hy=>by
   obtain⟨i,hi,rfl⟩:=List.getElem_of_mem hy
   rw[List.length_take] at hi
   have:=OB (o:=o) (x:=x) (i:=i) (by omega)
   rw[gD (by omega)] at this
   rw[List.getElem_take];exact this
  have hd:∀y∈o.drop (kZ o x),bef x y=true:=fun y hy=>by
   have hl:kZ o x<o.length:=by
    refine Decidable.not_not.1 fun hc=>?_
    rw[List.drop_eq_nil_of_le (by omega)] at hy;cases hy
   have hb:=UZ hl
   have hne:¬o.getD (kZ o x) default%65536=x%65536:=fun e=>h ⟨hl,e⟩
   have hxb:=U0 hb hne
   rw[List.drop_eq_getElem_cons hl] at hy h2
   rw[gD hl] at hxb
   rcases List.mem_cons.1 hy with rfl|hy
   ·exact hxb
   ·exact KE hxb ((List.pairwise_cons.1 h2).1 y hy)
  refine List.pairwise_append.2 ⟨h1,List.pairwise_cons.2 ⟨hd,h2⟩,fun y hy z hz=>?_⟩
  rcases List.mem_cons.1 hz with rfl|hz
  ·exact ht y hy
  ·exact h3 y hy z hz
theorem U1:∀j,(iT xs j).Pairwise fun a b=>bef a b=true:=by
 intro j
 induction j with
 |zero=>exact List.Pairwise.nil
 |succ j ih=>exact OD ih
theorem Il(hx:∀y∈xs,y<65536):∀j,j≤xs.length→((∀y,y∈iT xs j↔y∈xs.take j)∧∀y∈iT xs j,y<65536):=by
 intro j
 induction j with
 |zero=>intro _;simp[iT]
 |succ j ih=>
  intro hj
  obtain⟨h1,h2⟩:=ih (by omega)
  have hlt:xs.getD j default<65536:=hx _ (iR (by omega))
  have e:∀y,y∈iT xs (j+1)↔y∈xs.take (j+1):=fun y=>by
   rw[FW,OC hlt h2,h1 y,show xs.take (j+1)=xs.take j++[xs.getD j default] from wB (by omega),List.mem_append,List.mem_singleton]
  exact⟨e,fun y hy=>hx y (List.mem_of_mem_take ((e y).1 hy))⟩
theorem OE:o.length≤(ut o x).length∧(ut o x).length≤o.length+1:=by
 unfold ut
 split
 ·omega
 ·rw[List.length_append,List.length_cons,List.length_take,List.length_drop]
  have:=UY (o:=o) (x:=x)
  omega
theorem AQ:∀j,(iT xs j).length≤j:=by
 intro j
 induction j with
 |zero=>exact Nat.le_refl _
 |succ j ih=>have:=OE (o:=iT xs j) (x:=xs.getD j default);rw[FW];omega
def lsB(o:List Nat)(i:Nat):Nat→Bool
 |0=>true
 |j+1=>if¬i=j∧dJ (o.getD j default) (o.getD i default)%65536=0 then false else lsB o i j
theorem acY:lsB o i 0=true:=rfl
theorem OG(h:¬i=j)(h2:dJ (o.getD j default) (o.getD i default)%65536=0):lsB o i (j+1)=false:=by
 unfold lsB;rw[if_pos ⟨h,h2⟩]
theorem Db(h:i=j∨¬dJ (o.getD j default) (o.getD i default)%65536=0):lsB o i (j+1)=lsB o i j:=by
 conv=>lhs;unfold lsB
 rw[if_neg (fun h2=>h.elim (fun e=>h2.1 e) fun e=>e h2.2)]
theorem Im:lsB o i j=true↔∀k,k<j→¬i=k→¬dJ (o.getD k default) (o.getD i default)%65536=0:=by
 induction j with
 |zero=>exact⟨fun _ k hk=>absurd hk (by omega),fun _=>rfl⟩
 |succ j ih=>
  by_cases h:i=j∨¬dJ (o.getD j default) (o.getD i default)%65536=0
  ·rw[Db h,ih]
   refine⟨fun h2 k hk hne=>?_,fun h2 k hk=>h2 k (by omega)⟩
   rcases Nat.lt_or_eq_of_le (Nat.le_of_lt_succ hk) with h3|h3
   ·exact h2 k h3 hne
   ·subst h3;exact h.elim (fun e=>absurd e hne) id
  ·have h1:¬i=j:=fun e=>h (.inl e)
   have h2:dJ (o.getD j default) (o.getD i default)%65536=0:=Decidable.not_not.1 fun e=>h (.inr e)
   rw[OG h1 h2]
   exact⟨fun h=>(by cases h),fun h3=>absurd h2 (h3 j (by omega) h1)⟩
def loL(o:List Nat):Nat→List Nat
 |0=>[]
 |i+1=>if lsB o i o.length=true then loL o i++[o.getD i default] else loL o i
theorem acZ:loL o 0=[]:=rfl
theorem Dc(h:lsB o i o.length=true):loL o (i+1)=loL o i++[o.getD i default]:=by
 show(if lsB o i o.length=true then _ else _)=_
 rw[if_pos h]
theorem De(h:lsB o i o.length=false):loL o (i+1)=loL o i:=by
 show(if lsB o i o.length=true then _ else _)=_
 rw[h];rfl
theorem U2:(loL o i).length≤i:=by
 induction i with
 |zero=>exact Nat.le_refl _
 |succ i ih=>
  cases h:lsB o i o.length with
  |true=>rw[Dc h,List.length_append];simp;omega
  |false=>rw[De h];omega
theorem Io(hi:i≤o.length):(loL o i).Sublist (o.take i):=by
 induction i with
 |zero=>exact List.Sublist.refl _
 |succ i ih=>
  rw[show o.take (i+1)=o.take i++[o.getD i default] from wB (by omega)]
  cases h:lsB o i o.length with
  |true=>rw[Dc h];exact(ih (by omega)).append (List.Sublist.refl _)
  |false=>rw[De h];exact(ih (by omega)).trans (List.sublist_append_left _ _)
theorem U3(hi:i≤o.length):y∈loL o i↔∃k,k<i∧o.getD k default=y∧lsB o k o.length=true:=by
 induction i with
 |zero=>simp[loL]
 |succ i ih=>
  have ih:=ih (by omega)
  cases h:lsB o i o.length with
  |true=>
   rw[Dc h,List.mem_append,List.mem_singleton,ih]
   constructor
   ·rintro(⟨k,h1,h2,h3⟩|rfl)
    ·exact⟨k,by omega,h2,h3⟩
    ·exact⟨i,by omega,rfl,h⟩
   ·rintro⟨k,h1,h2,h3⟩
    by_cases e:k=i
    ·subst e;exact .inr h2.symm
    ·exact .inl ⟨k,by omega,h2,h3⟩
  |false=>
   rw[De h,ih]
   constructor
   ·rintro⟨k,h1,h2,h3⟩;exact⟨k,by omega,h2,h3⟩
   ·rintro⟨k,h1,h2,h3⟩
    by_cases e:k=i
    ·subst e;rw[h] at h3;cases h3
    ·exact⟨k,by omega,h2,h3⟩
def iN(xs:List Nat):List Nat:=loL (iT xs xs.length) (iT xs xs.length).length
theorem uu(h:x∈xs):eO xs x=true:=jl.2 ⟨x,h,kM⟩
theorem U4(h:eO xs x=true)(hs:dJ x y%65536=0):eO xs y=true:=by
 obtain⟨m,h1,h2⟩:=jl.1 h
 exact jl.2 ⟨m,h1,l9 h2 hs⟩
theorem uR(hn:n≤6)(hx:∀y∈xs,y<2^n):sW n (eO xs) (iN xs):=by
 have hp:2^n≤2^6:=Nat.pow_le_pow_right (by omega) hn
 have hb:=U1 (xs:=xs) xs.length
 obtain⟨hm,hl⟩:=Il (xs:=xs) (fun y hy=>by have:=hx y hy;omega) xs.length (Nat.le_refl _)
 rw[List.take_length] at hm
 have hsub:(iN xs).Sublist (iT xs xs.length):=by
  have:=Io (o:=iT xs xs.length) (Nat.le_refl _)
  rw[List.take_length] at this;exact this
 have hmem:∀y,y∈iN xs↔∃k,k<(iT xs xs.length).length∧(iT xs xs.length).getD k default=y∧lsB (iT xs xs.length) k (iT xs xs.length).length=true:=fun y=>U3 (Nat.le_refl _)
 generalize iT xs xs.length=o at*
 have hlt:∀m∈iN xs,m<2^n:=fun m h=>hx m ((hm m).1 (hsub.subset h))
 have inj:∀i k,i<o.length→k<o.length→o.getD i default=o.getD k default→i=k:=fun i k hi hk e=>by
  rw[gD hi,gD hk] at e
  rcases Nat.lt_trichotomy i k with h|h|h
  ·have:=List.pairwise_iff_getElem.1 hb i k hi hk h
   rw[e,Ik] at this;cases this
  ·exact h
  ·have:=List.pairwise_iff_getElem.1 hb k i hk hi h
   rw[e,Ik] at this;cases this
 refine⟨hb.sublist hsub,(hb.sublist hsub).imp fun{a b} h hs=>?_,hlt,fun m hmn=>?_⟩
 ·rw[wC hs] at h;cases h
 ·rw[hmem,iG]
  constructor
  ·rintro⟨k,hk,rfl,hls⟩
   have hko:o.getD k default∈o:=iR hk
   refine⟨uu ((hm _).1 hko),fun y hy hh hs=>?_⟩
   obtain⟨e,h1,h2⟩:=jl.1 hh
   obtain⟨q,hq,rfl⟩:=List.getElem_of_mem ((hm e).2 h1)
   have hes:=l9 h2 hs
   rw[←gD hq] at hes h2
   by_cases e:k=q
   ·subst e
    have:=uo h2 (by omega) (by omega)
    omega
   ·exact(Im.1 hls) q hq e hes
  ·rintro⟨h1,h2⟩
   obtain⟨e,he,hs⟩:=jl.1 h1
   have heo:=(hm e).2 he
   have hen:=hx e he
   have hle:=uo hs (by omega) (by omega)
   have eq:e=m:=by
    refine Decidable.not_not.1 fun hc=>?_
    exact h2 e (by omega) (uu he) hs
   subst eq
   obtain⟨q,hq,rfl⟩:=List.getElem_of_mem heo
   refine⟨q,hq,gD hq,Im.2 fun k hk hne hs2=>?_⟩
   have hko:o.getD k default∈o:=iR hk
   have hkx:=(hm _).1 hko
   have hkn:=hx _ hkx
   rw[gD hq] at hs2
   have hle2:=uo hs2 (by omega) (by omega)
   by_cases e:o.getD k default=o[q]
   ·exact hne (inj q k hq hk (by rw[gD hq,e]))
   ·exact h2 _ (by omega) (uu hkx) hs2
theorem KG(h:∀t,t<2^n→p t=f t)(hx:x<2^n):isM p x=isM f x:=by
 rw[Bool.eq_iff_iff,iG,iG,h x hx]
 refine and_congr_right fun _=>⟨fun h2 y hy=>?_,fun h2 y hy=>?_⟩
 ·rw[←h y (by omega)];exact h2 y hy
 ·rw[h y (by omega)];exact h2 y hy
theorem sW.congr(h:∀t,t<2^n→p t=f t)(h1:sW n p ms):sW n f ms:=
 ⟨h1.bef,h1.ord,h1.lt,fun m hm=>by rw[←KG h hm];exact h1.mem m hm⟩
theorem KH(hn:n≤6):Z5 n (eO xs):=fun t i ht hi h=>by
 have hp:2^n≤2^6:=Nat.pow_le_pow_right (by omega) hn
 refine U4 h (dR.2 fun k hk=>?_)
 have h2:=Ay hi ht
 unfold bit at*
 rw[Nat.mod_eq_of_lt (by omega)] at hk⊢
 rw[Az,hk];rfl
theorem KI(hn:n≤6)(hx:∀y∈xs,y<2^n):∀t,t<2^n→eO (iN xs) t=eO xs t:=(OA hn (uR hn hx)).1 (KH hn)
theorem OH:∀S,S<64→((List.range 64).all fun x=>(dW S).contains x==decide (dJ x S%65536=0))=true∧((dW S).all fun x=>decide (x<64))=true:=by decide+kernel
theorem mO:∀S,S<64→(dW S).Pairwise fun a b=>bef a b=true:=by decide+kernel
theorem jm(hS:s<64):x∈dW s↔(x<64∧dJ x s%65536=0):=by
 obtain⟨h1,h2⟩:=OH s hS
 constructor
 ·intro h
  have hx:x<64:=of_decide_eq_true (List.all_eq_true.1 h2 x h)
  have:=List.all_eq_true.1 h1 x (List.mem_range.2 hx)
  have hc:(dW s).contains x=true:=by simpa using h
  rw[hc] at this
  exact⟨hx,by simpa using this⟩
 ·rintro⟨hx,hs⟩
  have:=List.all_eq_true.1 h1 x (List.mem_range.2 hx)
  rw[decide_eq_true hs] at this
  simpa using this
theorem xQ(hS:s<64):∀j,j≤(dW s).length→mB p (dW s) j=((dW s).take j).filter (isM p):=by
 have hall:=fun x=>jm (x:=x) hS
 have hord:(dW s).Pairwise fun a b=>¬dJ b a%65536=0:=(mO s hS).imp fun{a b} h hs=>by rw[wC hs] at h;cases h
 generalize dW s=xs at*
 intro j
 induction j with
 |zero=>intro _;rfl
 |succ j ih=>
  intro hj
  have ih:=ih (by omega)
  rw[wB (by omega),List.filter_append,←ih]
  have hxm:xs.getD j 0∈xs:=iR (d:=0) (by omega)
  have hsp:xs=xs.take j++(xs.getD j 0::xs.drop (j+1)):=by
   conv=>lhs;rw[←List.take_append_drop j xs]
   congr 1
   rw[List.drop_eq_getElem_cons (by omega),List.getD_eq_getElem?_getD,List.getElem?_eq_getElem (by omega)];rfl
  have hp:=hord
  generalize hxj:xs.getD j 0=x at*
  obtain⟨hx64,hxs⟩:=(hall x).1 hxm
  have e:(!eO (mB p xs j) x&&p x)=isM p x:=by
   cases hpx:p x with
   |false=>unfold isM;rw[hpx,Bool.and_false,Bool.false_and]
   |true=>
    rw[Bool.and_true,Bool.eq_iff_iff,Bool.not_eq_true',iG]
    refine⟨fun h=>⟨hpx,fun y hy hpy hs=>?_⟩,fun h=>?_⟩
    ·obtain⟨m,h1,h2,h3⟩:=Og hpy
     have hmx:=l9 h3 hs
     have hm:m∈xs:=(hall m).2 ⟨by omega,l9 hmx hxs⟩
     rw[hsp] at hm hp
     have hmt:m∈xs.take j:=by
      rcases List.mem_append.1 hm with hm|hm
      ·exact hm
      ·rcases List.mem_cons.1 hm with rfl|hm
       ·omega
       ·exact absurd hmx ((List.pairwise_cons.1 (List.pairwise_append.1 hp).2.1).1 m hm)
     have:eO (mB p xs j) x=true:=by
      unfold eO
      rw[ih,List.any_eq_true]
      exact⟨m,List.mem_filter.2 ⟨hmt,h2⟩,decide_eq_true hmx⟩
     rw[this] at h;cases h
    ·rw[Bool.eq_false_iff]
     intro hc
     obtain⟨m,h1,h2⟩:=jl.1 hc
     rw[ih] at h1
     obtain⟨h3,h4⟩:=List.mem_filter.1 h1
     have hm64:=((hall m).1 (List.mem_of_mem_take h3)).1
     have hle:=uo h2 (by omega) (by omega)
     by_cases e:m=x
     ·subst e
      rw[hsp] at hp
      exact(List.pairwise_append.1 hp).2.2 m h3 m (by simp) kM
     ·exact h.2 m (by omega) (iG.1 h4).1 h2
  show(if(!eO (mB p xs j) (xs.getD j 0)&&p (xs.getD j 0))=true then _ else _)=_
  rw[hxj,e]
  cases hm:isM p x with
  |true=>simp[hm]
  |false=>simp[hm]
theorem Df:dJ (bP x s) x%65536=0:=dR.2 fun i h=>by rw[iy,Bool.and_eq_true] at h;exact h.1
theorem aai(hn:n≤6)(hS:s<2^n)(hp:∀t,t<2^n→p (bP t s)=p t):sW n p (mB p (dW s) (dW s).length):=by
 have h6:2^n≤2^6:=Nat.pow_le_pow_right (by omega) hn
 have hS6:s<64:=by omega
 rw[xQ hS6 _ (Nat.le_refl _),List.take_length]
 have hb:=mO s hS6
 have hall:=fun x=>jm (x:=x) hS6
 refine⟨hb.sublist (List.filter_sublist ..),(hb.sublist (List.filter_sublist ..)).imp fun{a b} h hs=>(by rw[wC hs] at h;cases h),fun m hm=>?_,fun m hm=>⟨fun h=>(List.mem_filter.1 h).2,fun h=>List.mem_filter.2 ⟨?_,h⟩⟩⟩
 ·obtain⟨h1,h2⟩:=(hall m).1 (List.mem_filter.1 hm).1
  have:=uo h2 (by omega) (by omega);omega
 ·refine(hall m).2 ⟨by omega,?_⟩
  have hle:bP m s≤m:=Nat.and_le_left
  have e:bP m s=m:=by
   refine Decidable.not_not.1 fun hc=>?_
   exact(iG.1 h).2 (bP m s) (by omega) (by rw[hp m hm];exact(iG.1 h).1) Df
  rw[←e]
  exact dR.2 fun i h=>by rw[iy,Bool.and_eq_true] at h;exact h.2
end
section
open Go Go.Sy Go.Bp Go.Dg
attribute [local irreducible] AO AL AC OpT ACall Ends DGo aN Thn Blk Nxt
variable {n N M k i m r a b j w u v s q y d:Nat} {z:Bool} {x:Ex} {e:Int} {p:Nat→Bool} {xs qs:List Nat}
def dD(f:List Nat)(s:Nat):Bool:= !(f.any fun m=>decide (bP m s%65536=0))
theorem OI:ACall Tryz.prog 79 [.val (.int .u16 (U q)),.ipt [.val (.int .u16 (U s))] 0] [] 0 (.val (.bool (decide (bP q s%65536=0)))) []:=by
 refine az Tryz.func79 Tryz.ntmps79 rfl ?_
 repeat' (first|refine zqN ?_|refine bA ?_|refine bB ?_|(refine bC ?_ ?_<;>intro hc<;>try exact zqM))
 all_goals(refine Ends.mk2 zqI [] ?_;simp-dsimp(disch:=try exact vD) only[push_cast,simprocAttr,Tryz.f79];try exact zqF)
theorem AR(hl:qs.length=n)(hn:n<2^47):ACall Tryz.prog 36 [.isl z (cX qs) n,.val (.int .u16 (U s))] [] 0 (.val (.bool (dD qs s))) []:=by
 have h:=PLift.up (C8 (z:=z) (k:=qs) (F:=79) (c1:=[.val (.int .u16 (U s))]) (fun m=>decide (bP m s%65536=0)) hl hn (fun m=>OI))
 unfold dD
 generalize(qs.any fun m=>decide (bP m s%65536=0))=v at h⊢
 refine az Tryz.func36 Tryz.ntmps36 rfl ?_
 repeat' (first|((first|refine dP (r:=1) 0 ?_|refine dO (r:=1) 0 ?_);refine j5 ?_;intro K hK;refine hK _ _ ?_;clear hK K)|refine zqN ?_|refine aT h.down ?_|refine bA ?_|refine bB ?_|(refine bC ?_ ?_<;>intro hc<;>try exact zqM))
 all_goals(refine Ends.mk2 zqI [] ?_;simp-dsimp(disch:=try exact vD) only[push_cast,simprocAttr,Tryz.f36];try exact zqF)
theorem j6:∀S,S<64→(dW S).length≤64∧aA S 16<7:=by decide+kernel
theorem OJ(hs:s<64)(hx:dW s=xs):∀H:iU,H.P=Tryz.prog→H.xs=yX xs→H.go=(fun _=>true)→∃r,ACall Tryz.prog 78 [.yl 0,bxS s] [.tr H 0] 1 r [.tr H xs.length]:=fun H h1 h2 h3=>by
 have h:=CZ (H:=H) (s:=s) h1 (j6 s hs).2 (by rw[h3]) (fun i hi=>by rw[h2,←hx];unfold yX;rw[if_pos hi])
 rw[h3,Ie,hx,Nat.zero_add] at h
 exact⟨_,h⟩
attribute [local irreducible] aA mem gq pick fd sbL dW mB mBl eO
def fyO(p:Nat→Bool)(xs:List Nat)(j:Nat):List (Nat×Option aC):=[(0,some (.cells [.isl true [] 0] 25)),(1,some (.cells [.val (.int .i64 0)] 31)),(2,some (.cells [gL (mBl p xs j) 3 1] 25))]++gM (mBl p xs j) 3 (cX (mB p xs j)) 30
end
section
open Go Go.Sy Go.Bp Go.Dg
attribute [local irreducible] AO AL AC OpT ACall Ends DGo aN Thn Blk Nxt
variable {n N M k i m r a b j w u v s q y d:Nat} {z:Bool} {x:Ex} {e:Int} {p:Nat→Bool} {xs qs f:List Nat}
attribute [local irreducible] aA mem gq pick fd sbL dW mB mBl eO
def tdR(z:Bool)(f:List Nat)(n:Nat)(p:Nat→Bool)(xs:List Nat)(ca cb:Code):RLoop:=
 ⟨33,3,[(1,.ipt [.isl z (cX f) n] 0),(2,.pt 0 0),(3,.pt 1 0),(5,.pt 2 0)],fyO p xs,fun _=>[],4,0,fun _=>true,yX xs,.ret,15,ca,cb⟩
theorem OL(hl:f.length=n)(hn:n≤400)(he0:pR f=0)(hs:iH f n=s)(hs6:s<64)(hx':dW s=xs)(hp:dD f=p):
 ACall Tryz.prog 10 [.isl z (cX f) n] [] 0 (.tup [.isl (mBl p xs xs.length==0) (cX (mB p xs xs.length)) (mBl p xs xs.length),.val (.int .i64 0)]) []:=by
 have hva:=PLift.up (ky (z:=z) hl hn)
 rw[he0] at hva
 have hsv:=PLift.up (kN (z:=z) hl (by omega))
 rw[hs] at hsv
 have hho:∀q,ACall Tryz.prog 36 [.isl z (cX f) n,.val (.int .u16 (U q))] [] 0 (.val (.bool (p q))) []:=fun q=>by
  rw[←hp];exact AR hl (by omega)
 have hit:=OJ hs6 hx'
 have hl6:=(j6 s hs6).1
 rw[hx'] at hl6
 clear hp he0 hl
 have hb:=ae;have hpq:=ae;have he:=ae;have hel:=ae
 refine az Tryz.func10 Tryz.ntmps10 rfl ?_
 repeat' (first|((first|refine dP (r:=5) 0 ?_|refine dO (r:=5) 0 ?_);simp-dsimp(disch:=try exact vD) only[push_cast,simprocAttr,AP,sj];(repeat refine aI ?_);intro K hK;refine hK _ _ ?_;clear hK K)|apply bZ|apply aB|((first|refine ax rfl (fun K hK=>?_)|refine ak (fun K hK=>?_));(first|refine ah (f:=33) [] 0 false ?_|refine ah (f:=35) [] 0 false ?_|refine ah (f:=34) [] 0 false ?_);simp-dsimp(disch:=try exact vD) only[push_cast,simprocAttr,AP,sj];(repeat refine aI ?_);intro G hG;refine hG _ _ ?_;clear hG G;(first|refine⟨_,_,hva.down,?_⟩|refine⟨_,_,hsv.down,?_⟩|refine⟨_,_,Ic (s:=s),?_⟩);simp-dsimp(disch:=try exact vD) only[push_cast,simprocAttr,AP,sj];(repeat refine aI ?_);apply hK;clear hK K)|((first|refine ax rfl (fun K hK=>?_)|refine ak (fun K hK=>?_));(first|apply bM|apply aR|apply bU|apply aO|apply fP|apply bO|apply fw|apply fM|apply fO|apply eY|apply dH|apply dm|apply aP|apply bR|apply bu|apply aU|apply dE|apply bS);simp-dsimp(disch:=try exact vD) only[push_cast,simprocAttr,AP,sj];(repeat refine aI ?_);apply hK;clear hK K)|((first|refine ax rfl (fun K hK=>?_)|refine ak (fun K hK=>?_));(first|apply dV);simp-dsimp(disch:=try exact vD) only[push_cast,simprocAttr,AP,sj];(repeat refine aI ?_);apply hK;clear hK K)|((first|refine ax rfl (fun K hK=>?_)|refine ak (fun K hK=>?_));(first|apply df);simp-dsimp(disch:=try exact vD) only[push_cast,simprocAttr,AP,sj];(repeat refine aI ?_);apply hK;clear hK K)|((first|refine ax rfl (fun K hK=>?_)|refine ak (fun K hK=>?_));(first|apply cZ);simp-dsimp(disch:=try exact vD) only[push_cast,simprocAttr,AP,sj];(repeat refine aI ?_);apply hK;clear hK K)|((first|refine aK rfl rfl (fun K1 K2 h1 h2=>?_) rfl|refine aF (fun K1 K2 h1 h2=>?_));simp-dsimp(disch:=try exact vD) only[push_cast,simprocAttr,AP,sj];(first|(refine⟨fun hc=>?_,fun hc=>?_⟩<;>first|(exfalso;omega)|(exfalso;contradiction)|refine h1 ?_|refine h2 ?_)|refine h1 ?_|refine h2 ?_);all_goals clear h1 h2 K1 K2)|apply cu|apply aL|apply bH|apply aX|apply aM|apply bI|apply aY|(refine aQ rfl ?_)|apply aZ|apply bG|apply bF|apply bY)
 refine rD (tdR z f n p xs _ _) [1,2,3,9] xs.length rfl (by simp[bnd]) (by kernel_rfl) hit (by unfold tdR fyO;dsimp only;refine Sub.mk2 ?_;(simp-dsimp(disch:=try exact vD) only[push_cast,simprocAttr,AP,sj])) rfl rfl (Nat.zero_le _) (fun j hj=>by
  have e:j=0∨j=1∨j=2:=(by have:j<3:=hj;omega)
  rcases e with e|e|e<;>subst e<;>rfl) (by simp[tdR,bnd]) (by show 15<33;decide) (.inl rfl) (fun j x hj hx=>?_) (fun _=>?_) (fun h=>nomatch h)
 ·obtain⟨hjl,rfl⟩:=Ao hx
  have hm1:=fun h=>Kw (p:=p) (xs:=xs) (j:=j) h
  have hm2:=fun h1 h2=>UO (p:=p) (xs:=xs) (j:=j) h1 h2
  have hll:=Ol (p:=p) (xs:=xs) (j:=j)
  obtain⟨q,hq⟩:∃q,xs.getD j 0=q:=⟨_,rfl⟩
  rw[hq] at hm1 hm2⊢
  have hac:=PLift.up (hho q)
  have hh0:mBl p xs j=0→eO (mB p xs j) q=false:=fun h=>by rw[nX h];unfold eO;rfl
  clear hx hho
  dsimp only[tdR,fyO]
  refine(Bool.eq_false_or_eq_true (eO (mB p xs j) q)).elim (fun hb=>?_) (fun hb=>(Bool.eq_false_or_eq_true (p q)).elim (fun hpq=>?_) (fun hpq=>?_))
  all_goals first
   |(have he:=hm2 hb hpq;have hel:=WU he)
   |(have he:=hm1 (by first|exact .inl hb|exact .inr hpq);have hel:=Oj he)
  all_goals rcases Nat.eq_zero_or_pos (mBl p xs j) with h0|h0
  all_goals first
   |(rw[hh0 h0] at hb;cases hb;done)
   |skip
  all_goals repeat' (first|(refine Mid.mk rfl ?_;dsimp only)|(refine ji [0,1,2,3] ⟨rfl,rfl⟩ ?_;(try dsimp only);unfold fyO;(try simp only[List.cons_append,List.nil_append]);refine Sub.mk2 ?_;(simp-dsimp(disch:=try exact vD) only[push_cast,simprocAttr,eU,hb,hpq,he,hel,bg,bV,bD,nX,gQ,jQ,List.nil_append]);(repeat refine aI ?_);first|done|exact vI)|(refine ji [0,1,2,9] ⟨rfl,rfl⟩ ?_;(try dsimp only);unfold fyO;(try simp only[List.cons_append,List.nil_append]);refine Sub.mk2 ?_;(simp-dsimp(disch:=try exact vD) only[push_cast,simprocAttr,eU,hb,hpq,he,hel,bg,bV,bD,nX,gQ,jQ,List.nil_append]);(repeat refine aI ?_);first|done|exact vI)|(refine ji [0,1,2,5] ⟨rfl,rfl⟩ ?_;(try dsimp only);unfold fyO;(try simp only[List.cons_append,List.nil_append]);refine Sub.mk2 ?_;(simp-dsimp(disch:=try exact vD) only[push_cast,simprocAttr,eU,hb,hpq,he,hel,bg,bV,bD,nX,gQ,jQ,List.nil_append]);(repeat refine aI ?_);first|done|exact vI)|(refine ji [0,1,2,4] ⟨rfl,rfl⟩ ?_;(try dsimp only);unfold fyO;(try simp only[List.cons_append,List.nil_append]);refine Sub.mk2 ?_;(simp-dsimp(disch:=try exact vD) only[push_cast,simprocAttr,eU,hb,hpq,he,hel,bg,bV,bD,nX,gQ,jQ,List.nil_append]);(repeat refine aI ?_);first|done|exact vI)|apply bZ|apply aB|((first|refine ax rfl (fun K hK=>?_)|refine ak (fun K hK=>?_));(first|refine ah (f:=36) [] 0 false ?_);simp-dsimp(disch:=try exact vD) only[push_cast,simprocAttr,eU,hb,hpq,he,hel,bg,bV,bD,nX,gQ,jQ,List.nil_append];(repeat refine aI ?_);intro G hG;refine hG _ _ ?_;clear hG G;(first|refine⟨_,_,hac.down,?_⟩);simp-dsimp(disch:=try exact vD) only[push_cast,simprocAttr,eU,hb,hpq,he,hel,bg,bV,bD,nX,gQ,jQ,List.nil_append];(repeat refine aI ?_);apply hK;clear hK K)|((first|refine ax rfl (fun K hK=>?_)|refine ak (fun K hK=>?_));(first|(refine ah (f:=14) [] 0 true ?_;simp-dsimp(disch:=try exact vD) only[push_cast,simprocAttr,eU,hb,hpq,he,hel,bg,bV,bD,nX,gQ,jQ,List.nil_append];(repeat refine aI ?_);intro G hG;refine hG _ _ ?_;clear hG G;refine⟨_,_,si (qs:=mB p xs j) gQ (by omega),?_⟩;simp-dsimp(disch:=try exact vD) only[push_cast,simprocAttr,eU,hb,hpq,he,hel,bg,bV,bD,nX,gQ,jQ,List.nil_append];(repeat refine aI ?_);apply hK;clear hK K)|(refine ah (f:=14) [] 0 true ?_;simp-dsimp(disch:=try exact vD) only[push_cast,simprocAttr,eU,hb,hpq,he,hel,bg,bV,bD,nX,gQ,jQ,List.nil_append];(repeat refine aI ?_);intro G hG;refine hG _ _ ?_;clear hG G;refine⟨_,_,si (qs:=[]) rfl (by omega),?_⟩;simp-dsimp(disch:=try exact vD) only[push_cast,simprocAttr,eU,hb,hpq,he,hel,bg,bV,bD,nX,gQ,jQ,List.nil_append];(repeat refine aI ?_);apply hK;clear hK K)))|((first|refine ax rfl (fun K hK=>?_)|refine ak (fun K hK=>?_));(first|apply bM|apply aR|apply bU|apply aO|apply fP|apply bO|apply fw|apply fM|apply fO|apply eY|apply dH|apply dm|apply aP|apply bR|apply bu|apply aU|apply dE|apply bS);simp-dsimp(disch:=try exact vD) only[push_cast,simprocAttr,eU,hb,hpq,he,hel,bg,bV,bD,nX,gQ,jQ,List.nil_append];(repeat refine aI ?_);apply hK;clear hK K)|((first|refine ax rfl (fun K hK=>?_)|refine ak (fun K hK=>?_));(first|apply dV);simp-dsimp(disch:=try exact vD) only[push_cast,simprocAttr,eU,hb,hpq,he,hel,bg,bV,bD,nX,gQ,jQ,List.nil_append];(repeat refine aI ?_);apply hK;clear hK K)|((first|refine ax rfl (fun K hK=>?_)|refine ak (fun K hK=>?_));(first|apply df);simp-dsimp(disch:=try exact vD) only[push_cast,simprocAttr,eU,hb,hpq,he,hel,bg,bV,bD,nX,gQ,jQ,List.nil_append];(repeat refine aI ?_);apply hK;clear hK K)|((first|refine ax rfl (fun K hK=>?_)|refine ak (fun K hK=>?_));(first|apply cZ);simp-dsimp(disch:=try exact vD) only[push_cast,simprocAttr,eU,hb,hpq,he,hel,bg,bV,bD,nX,gQ,jQ,List.nil_append];(repeat refine aI ?_);apply hK;clear hK K)|((first|refine aK rfl rfl (fun K1 K2 h1 h2=>?_) rfl|refine aF (fun K1 K2 h1 h2=>?_));simp-dsimp(disch:=try exact vD) only[push_cast,simprocAttr,eU,hb,hpq,he,hel,bg,bV,bD,nX,gQ,jQ,List.nil_append];(first|(refine⟨fun hc=>?_,fun hc=>?_⟩<;>first|(exfalso;omega)|(exfalso;contradiction)|refine h1 ?_|refine h2 ?_)|refine h1 ?_|refine h2 ?_);all_goals clear h1 h2 K1 K2)|apply cu|apply aL|apply bH|apply aX|apply aM|apply bI|apply aY|(refine aQ rfl ?_)|apply aZ|apply bG|apply bF|apply bY)
 ·dsimp only[tdR]
  rcases Nat.eq_zero_or_pos (mBl p xs xs.length) with h0|h0
  all_goals dsimp only[fyO]
  all_goals repeat' (first|apply bZ|apply aB|((first|refine ax rfl (fun K hK=>?_)|refine ak (fun K hK=>?_));(first|apply bM|apply aR|apply bU|apply aO|apply fP|apply bO|apply fw|apply fM|apply fO|apply eY|apply dH|apply dm|apply aP|apply bR|apply bu|apply aU|apply dE|apply bS);simp-dsimp(disch:=try exact vD) only[push_cast,simprocAttr];(repeat refine aI ?_);apply hK;clear hK K)|((first|refine ax rfl (fun K hK=>?_)|refine ak (fun K hK=>?_));(first|apply dV);simp-dsimp(disch:=try exact vD) only[push_cast,simprocAttr];(repeat refine aI ?_);apply hK;clear hK K)|((first|refine ax rfl (fun K hK=>?_)|refine ak (fun K hK=>?_));(first|apply df);simp-dsimp(disch:=try exact vD) only[push_cast,simprocAttr];(repeat refine aI ?_);apply hK;clear hK K)|((first|refine ax rfl (fun K hK=>?_)|refine ak (fun K hK=>?_));(first|apply cZ);simp-dsimp(disch:=try exact vD) only[push_cast,simprocAttr];(repeat refine aI ?_);apply hK;clear hK K)|((first|refine aK rfl rfl (fun K1 K2 h1 h2=>?_) rfl|refine aF (fun K1 K2 h1 h2=>?_));simp-dsimp(disch:=try exact vD) only[push_cast,simprocAttr];(first|(refine⟨fun hc=>?_,fun hc=>?_⟩<;>first|(exfalso;omega)|(exfalso;contradiction)|refine h1 ?_|refine h2 ?_)|refine h1 ?_|refine h2 ?_);all_goals clear h1 h2 K1 K2)|apply cu|apply aL|apply bH|apply aX|apply aM|apply bI|apply aY|(refine aQ rfl ?_)|apply aZ|apply bG|apply bF|apply bY)
  ·rw[h0,nX h0];(refine Ends.mk2 (by first|exact .inr rfl|exact .inl rfl) [] ?_;simp-dsimp(disch:=try exact vD) only[push_cast,simprocAttr,Tryz.f10];try exact zqF)
  ·rw[zB h0];((refine Ends.frz 3 ?_;simp-dsimp(disch:=try exact vD) only[push_cast,simprocAttr,Tryz.f10,jQ,gQ];(repeat refine aI ?_);intro K hK;refine hK _ _ ?_;clear hK K);refine Ends.mk2 (by first|exact .inr rfl|exact .inl rfl) [] ?_;simp-dsimp(disch:=try exact vD) only[push_cast,simprocAttr,Tryz.f10,jQ,gQ];try exact zqF)
end
section
open Go Go.Sy Go.Bp Go.Dg
attribute [local irreducible] AO AL AC OpT ACall Ends DGo aN Thn Blk Nxt
variable {n N M L k i j m r a b w u v s q x y d:Nat} {z:Bool} {xs o:List Nat}
def shL(o:List Nat)(k:Nat):List Nat:=o.take k++o.getD k 0::o.drop k
theorem U5(h:k≤o.length):(shL o k).length=o.length+1:=by
 unfold shL;rw[List.length_append,List.length_cons,List.length_take,List.length_drop];omega
theorem aak(h:k<o.length):(shL o (k+1))[k]? =some (o.getD k default):=by
 unfold shL
 rw[List.getElem?_append_left (by rw[List.length_take];omega),List.getElem?_take_of_lt (by omega),List.getElem?_eq_getElem h,gD h]
theorem OO:(cX o).set k (AV.val (.int .u16 (U x)))=cX (o.set k x):=by
 unfold cX;rw[List.map_set];rfl
theorem Ip{α:Type} {l r:List α} {b c:α}(h:l.length=k):(l++b::r).set k c=l++c::r:=by
 rw[List.set_append_right _ _ (by omega),h,Nat.sub_self];rfl
theorem U6(h:k<o.length):(cX (shL o (k+1))).set (k+1) (AV.val (.int .u16 (U (o.getD k default))))=cX (shL o k):=by
 rw[OO]
 congr 1
 unfold shL
 rw[Ip (by rw[List.length_take];omega),wB h,List.append_assoc]
 congr 1
 show _::(_::_)=_::o.drop k
 rw[List.drop_eq_getElem_cons h]
 congr 2
 exact gD h
theorem Iq(h:a≤o.length):(cX (shL o a)).set a (AV.val (.int .u16 (U x)))=cX (o.take a++x::o.drop a):=by
 rw[OO]
 unfold shL
 rw[Ip (by rw[List.length_take];omega)]
theorem ac0:cX (shL o o.length)=cX o++[AV.val (.int .u16 0)]:=by
 have e:shL o o.length=o++[0]:=by
  unfold shL
  rw[List.take_length,List.drop_length,List.getD_eq_getElem?_getD,List.getElem?_eq_none (by omega)];rfl
 rw[e,←bD];rfl
theorem U7(τ:Nat→Nat):List.map (ren τ) (cX o++[AV.val (.int .u16 0)])=cX o++[AV.val (.int .u16 0)]:=by
 rw[List.map_append,NB];simp[ren]
theorem Dh:(cX o).take o.length=cX o:=List.take_of_length_le (by simp[cX])
theorem aal:cX (shL ([]:List Nat) 0)=[AV.val (.int .u16 0)]:=rfl
theorem OP(ha:a<o.length)(hf:∀i,i<a→bef (o.getD i default) x=true)(hb:bef (o.getD a default) x=false)(he:o.getD a default%65536=x%65536):ut o x=o:=by
 have e:=Ij hf (Nat.le_of_lt ha) (.inr hb)
 unfold ut
 rw[e,if_pos ⟨ha,he⟩]
theorem Ir(ha:a≤o.length)(hf:∀i,i<a→bef (o.getD i default) x=true)(hb:a=o.length∨(bef (o.getD a default) x=false∧¬o.getD a default%65536=x%65536)):ut o x=o.take a++x::o.drop a:=by
 have e:=Ij hf ha (hb.imp id fun h=>h.1)
 unfold ut
 rw[e,if_neg (fun h=>hb.elim (fun h2=>by omega) fun h2=>h2.2 h.2)]
theorem Iu(ha:a≤o.length):(o.take a++x::o.drop a).length=o.length+1:=by
 rw[List.length_append,List.length_cons,List.length_take,List.length_drop];omega
def soI(z:Bool)(xs:List Nat)(n:Nat)(j:{j:Nat // j≤n}):St:=
 ⟨72,0,[(0,.isl z (cX xs) n),(3,gL (iT xs j.val).length 0 1),(4,.val (.int .i64 j.val))],gM (iT xs j.val).length 0 (cX (iT xs j.val)) 30⟩
def saI(z:Bool)(xs:List Nat)(n j:Nat)(o:List Nat)(a:{a:Nat // a≤o.length∧∀i,i<a→bef (o.getD i default) (xs.getD j default)=true}):St:=
 ⟨72,0,[(0,.isl z (cX xs) n),(3,gL o.length 0 1),(4,.val (.int .i64 j)),(5,.val (.int .i64 a.val))],gM o.length 0 (cX o) 30⟩
def shI(z:Bool)(xs:List Nat)(n j:Nat)(o:List Nat)(a:Nat)(k:{k:Nat // a≤k∧k≤o.length}):St:=
 ⟨72,0,[(0,.isl z (cX xs) n),(3,.sl 0 0 (o.length+1) 1),(4,.val (.int .i64 j)),(5,.val (.int .i64 a)),(6,.val (.int .i64 k.val))],[(0,some (.cells (cX (shL o k.val)) 30))]⟩
theorem KJ(hl:xs.length=n)(hn:n<2^40):ACall Tryz.prog 74 [.isl z (cX xs) n] [] 0 (.isl ((iT xs n).length==0) (cX (iT xs n)) (iT xs n).length) []:=by
 have zx2:=ae;have zx5:=ae;have zx6:=ae;have zx7:=ae;have zx8:=ae;have zx3:=ae;have zx4:=ae
 refine az Tryz.func74 Tryz.ntmps74 rfl ?_
 have zx1:= @Ih;have zx9:= @bg;have zx10:= @aah;have zx11:= @ac0;have zx12:= @U7;have zx13:= @aal;have zx14:= @bV;have zx15:= @aak;have zx16:= @U6;have zx17:= @U5;have zx18:=aD;have zx19:=aD;have zx20:=aD;repeat' (first|(refine ai ?_;refine au [1] ([1].length) (shI z xs n j o a) (fun k=>k.val) (⟨o.length,hal,Nat.le_refl _⟩) rfl (by unfold shI;exact gW) ?_;(rintro⟨k,hk1,hk2⟩;rcases Nat.lt_or_eq_of_le hk1 with hkl|hkl<;>first|(subst hkl;(simp-dsimp only[shI];refine zqS ?_))|(obtain⟨k,rfl⟩:∃k',k=k'+1:=⟨k-1,by omega⟩;(simp-dsimp only[shI];refine zqS ?_))))|(refine aj ?_;refine Nxt.mk [0] (⟨k,by omega,by omega⟩) rfl (by unfold shI;exact gW) zqO)|(refine ai ?_;refine au [2] ([2].length) (shI z xs n j o a) (fun k=>k.val) (⟨o.length,hal,Nat.le_refl _⟩) rfl (by unfold shI;exact gW) ?_;(rintro⟨k,hk1,hk2⟩;rcases Nat.lt_or_eq_of_le hk1 with hkl|hkl<;>first|(subst hkl;(simp-dsimp only[shI];refine zqS ?_))|(obtain⟨k,rfl⟩:∃k',k=k'+1:=⟨k-1,by omega⟩;(simp-dsimp only[shI];refine zqS ?_))))|(refine aj ?_;refine Nxt.mk [0] (⟨k,by omega,by omega⟩) rfl (by unfold shI;exact gW) zqO)|(refine ai ?_;refine au [9] ([9].length) (saI z xs n j o) (fun a=>o.length-a.val) (⟨0,Nat.zero_le _,fun i hi=>(Nat.not_lt_zero _ hi).elim⟩) rfl (by unfold saI;exact gW) ?_;(rintro⟨a,hal,haf⟩;have zx4:a=0:=(by rw[zx3] at hal;simpa using hal);(simp-dsimp(disch:=try exact vD) only[push_cast,simprocAttr,saI,zx3,zx4])))|(refine ai ?_;refine au [0] ([0].length) (saI z xs n j o) (fun a=>o.length-a.val) (⟨0,Nat.zero_le _,fun i hi=>(Nat.not_lt_zero _ hi).elim⟩) rfl (by unfold saI;exact gW) ?_;(rintro⟨a,hal,haf⟩;rcases Nat.lt_or_eq_of_le hal with hall|hall<;>first|(have zx8:=Iu (x:=xs.getD j default) hal;have hp:=Ir hal haf (.inl hall);rw[←hS2] at hp;rw[←hp] at zx8;have zx6:=Iq (x:=xs.getD j default) hal;rw[←hp] at zx6;(simp-dsimp only[saI];refine zqS ?_))|(rcases Bool.eq_false_or_eq_true (bef (o.getD a default) (xs.getD j default)) with zx5|zx5<;>first|(rcases Decidable.em (o.getD a default%65536=xs.getD j default%65536) with zx7|zx7<;>first|(have zx6:=OP hall haf zx5 zx7;rw[←hS2] at zx6;(simp-dsimp only[saI];refine zqS ?_))|(have zx8:=Iu (x:=xs.getD j default) hal;have hp:=Ir hal haf (.inr ⟨zx5,zx7⟩);rw[←hS2] at hp;rw[←hp] at zx8;have zx6:=Iq (x:=xs.getD j default) hal;rw[←hp] at zx6;(simp-dsimp only[saI];refine zqS ?_)))|(simp-dsimp only[saI];refine zqS ?_))))|(refine aj ?_;refine Nxt.mk [0] (⟨a+1,by omega,fun i hi=>by rcases Nat.lt_or_eq_of_le (Nat.le_of_lt_succ hi) with h|h;exact haf i h;rw[h];exact zx5⟩) rfl (by unfold saI;exact gW) zqO)|(refine ai ?_;refine au [9] ([9].length) (soI z xs n) (fun j=>n-j.val) (⟨0,by omega⟩) rfl (by unfold soI;exact gW) ?_;(rintro⟨j,hj⟩;dsimp only[soI];have hln:=AQ (xs:=xs) j;have hS2:=FW (xs:=xs) (j:=j);rcases Nat.lt_or_eq_of_le hj with hjl|hjl<;>first|(have ej:n=j:=hjl.symm;subst ej;generalize zx2:iT xs n=o at*;rcases Nat.eq_zero_or_pos o.length with h0|h0<;>(simp-dsimp(disch:=try exact vD) only[push_cast,simprocAttr,]))|(generalize zx2:iT xs j=o at*;rcases Nat.eq_zero_or_pos o.length with h0|h0<;>first|(have zx3:=List.length_eq_zero_iff.1 h0;have zx6:iT xs (j+1)=[xs.getD j default]:=(by rw[hS2,zx3];rfl);(simp-dsimp(disch:=try exact vD) only[push_cast,simprocAttr,zx3]))|(simp-dsimp(disch:=try exact vD) only[push_cast,simprocAttr,]))))|(refine aj ?_;refine Nxt.mk [0] (⟨j+1,by omega⟩) rfl (by unfold soI;exact gW) zqO)|refine zqN ?_|refine WL Kz ?_|refine Hz ?_|refine Fx ?_|refine Fy ?_|refine Fz ?_|refine HV ?_|(refine HY ?_ ?_<;>intro hc<;>try exact zqM)|refine zqR 6 [⟨0,[],[14,15],[],[],0⟩,⟨1,[],[13],[],[],0⟩,⟨2,[1],[13],[],[],0⟩,⟨3,[0,1,2],[],[],[],0⟩,⟨4,[0,1,2,3],[],[],[],0⟩,⟨5,[0,1,2,3,4],[19,22,23,24,25],[],[],0⟩,⟨6,[0,1,2,3,4],[18,22,23,24,25],[],[],0⟩,⟨7,[0,1,2,3,4,5,6],[22,23,24,25],[],[],0⟩,⟨8,[0,1,2,3,4,5,6,7],[22,23,24,25],[],[],0⟩,⟨9,[0,1,2,3,4],[18,19,20,21,23],[],[],0⟩,⟨10,[0,1,2,3,4],[18,19,20,21,22],[],[],0⟩,⟨11,[0,1,2,3,4,9,10],[18,19,20,21],[],[],0⟩,⟨12,[0,1,2,3,4,9,10,11],[18,19,20,21],[],[],0⟩,⟨13,[0,1,2,3,4,5,6,7,8,9,10,11,12],[],[],[],0⟩,⟨14,[0,1,2,3,4,5,6,7,8,9,10,11,12,13],[],[],[],0⟩] ?_|refine zqR 8 [⟨0,[],[31,32],[],[],0⟩,⟨1,[],[30],[],[],0⟩,⟨2,[1],[30],[],[],0⟩,⟨3,[0,1,2],[],[],[],0⟩,⟨4,[0,1,2,3],[],[],[],0⟩,⟨5,[0,1,2,3,4],[36,39,40,41,42],[],[],0⟩,⟨6,[0,1,2,3,4],[35,39,40,41,42],[],[],0⟩,⟨7,[0,1,2,3,4,5,6],[39,40,41,42],[],[],0⟩,⟨8,[0,1,2,3,4,5,6,7],[39,40,41,42],[],[],0⟩,⟨9,[0,1,2,3,4],[35,36,37,38,40],[],[],0⟩,⟨10,[0,1,2,3,4],[35,36,37,38,39],[],[],0⟩,⟨11,[0,1,2,3,4,9,10],[35,36,37,38],[],[],0⟩,⟨12,[0,1,2,3,4,9,10,11],[35,36,37,38],[],[],0⟩,⟨13,[0,1,2,3,4,5,6,7,8,9,10,11,12],[],[],[],0⟩,⟨14,[0,1,2,3,4,5,6,7,8,9,10,11,12,13],[],[],[],0⟩] ?_|refine zqD ?_|fail)
 all_goals first
  |(rw[List.length_eq_zero_iff.1 h0];(refine Ends.mk2 zqI [] ?_;simp-dsimp(disch:=try exact vD) only[push_cast,simprocAttr,Tryz.f74];try exact zqF);done)
  |(rw[zB h0];((refine Ends.frz 0 ?_;simp-dsimp(disch:=try exact vD) only[push_cast,simprocAttr,Tryz.f74,Dh];(repeat refine aI ?_);intro K hK;refine hK _ _ ?_;clear hK K);refine Ends.mk2 zqI [] ?_;simp-dsimp(disch:=try exact vD) only[push_cast,simprocAttr,Tryz.f74,Dh];try exact zqF);done)
  |skip
end
