/- Sx1 Sx2 Sx4 Sx3 Sx6 Sx7 Sx3_3 Sx5. No condition. -/
import Derived.Test.YtgmpdplpodemaaaGreatDoorLaG7
import Derived.Test.YtgmpdplpodemaaaGreatDoorPw3w
set_option linter.all false
namespace Go.Sx
open Go.Rt
structure Tab where
 rows:List (List Rat)
 basis:List Nat
def smB(q:Rat):Bool:=decide (q.num.natAbs<10^140)&&decide (q.den<10^140)
theorem gU{q:Rat}(h:smB q=true):Sm q:=by
 unfold smB at h
 rw[Bool.and_eq_true,decide_eq_true_eq,decide_eq_true_eq] at h
 exact h
def at2(R:List (List Rat))(i k:Nat):Rat:=(R.getD i []).getD k 0
def kS(l:List Rat):Nat→Nat
 |0=>0
 |w+1=>let e:=kS l w;if e<w then e else if l.getD w 0<0 then w else w+1
def bK(T:Tab)(m k w:Nat):Nat→Nat
 |0=>m
 |i+1=>
  let b:=bK T m k w i
  if at2 T.rows i k≤0 then b
  else if b=m then i
  else
   let q:=at2 T.rows i w/at2 T.rows i k
   let l:=at2 T.rows b w/at2 T.rows b k
   if l<q∨l=q∧T.basis.getD b 0<T.basis.getD i 0 then b else i
def ym(p:Rat)(l:List Rat):List Rat:=l.map (· /p)
def Ea(f:Rat)(a l:List Rat):List Rat:=l.zipWith (fun y x=>y-f*x) a
def lc(T:Tab)(i k:Nat):Tab:=
 let a:=ym (at2 T.rows i k) (T.rows.getD i [])
 ⟨(T.rows.zipIdx).map (fun p=>if p.2=i then a else if p.1.getD k 0=0 then p.1 else Ea (p.1.getD k 0) a p.1),T.basis.set i k⟩
def smT(T:Tab):Bool:=T.rows.all fun l=>l.all smB
def smP(T:Tab)(i k:Nat):Bool:=
 let a:=ym (at2 T.rows i k) (T.rows.getD i [])
 T.rows.all fun l=>a.all fun x=>smB (l.getD k 0*x)
def abj(m i:Nat):List Rat:=(List.range m).map fun k=>if k=i then 1 else 0
def ed(A:List (List Rat))(B C:List Rat):Tab:=
 ⟨(A.zipIdx).map (fun p=>p.1++abj B.length p.2++[B.getD p.2 0])++[C.map (fun c=> -c)++List.replicate (B.length+1) 0],(List.range B.length).map (C.length+ ·)⟩
end Go.Sx
set_option maxRecDepth 20000
namespace Go.Proofs.YtgmpdplpodemaaaGreatDoor
open Go Go.Sy Go.Bp Go.Lm Go.Rt Go.Sx
variable {n N M k i m j r s w:Nat} {l x:List Rat} {p f:Rat}
def rm(l:List Rat):List RV:=l.map rC
theorem eu:(rm l).length=l.length:=List.length_map _
theorem jK(h:j<l.length):(rm l).getD j default=rC (l.getD j 0):=by
 unfold rm
 rw[List.getD_eq_getElem?_getD,List.getElem?_map,List.getElem?_eq_getElem h,List.getD_eq_getElem?_getD,List.getElem?_eq_getElem h];rfl
theorem yn{a b:List RV}(hl:a.length=b.length)(h:∀j,j<a.length→a.getD j default=b.getD j default):a=b:=by
 apply List.ext_getElem hl
 intro j h1 h2
 have:=h j h1
 simpa[List.getD_eq_getElem?_getD,List.getElem?_eq_getElem h1,List.getElem?_eq_getElem h2] using this
theorem om(h:j<l.length):(ym p l).getD j 0=l.getD j 0/p:=by
 unfold ym
 rw[List.getD_eq_getElem?_getD,List.getElem?_map,List.getElem?_eq_getElem h,List.getD_eq_getElem?_getD,List.getElem?_eq_getElem h];rfl
theorem kT:(ym p l).length=l.length:=List.length_map _
theorem yo(h:x.length=l.length):(Ea f x l).length=l.length:=by unfold Ea;rw[List.length_zipWith];omega
theorem Eb(h:x.length=l.length)(hj:j<l.length):(Ea f x l).getD j 0=l.getD j 0-f*x.getD j 0:=by
 unfold Ea
 rw[List.getD_eq_getElem?_getD,List.getElem?_zipWith,List.getElem?_eq_getElem hj,List.getElem?_eq_getElem (by omega),List.getD_eq_getElem?_getD,List.getElem?_eq_getElem hj,List.getD_eq_getElem?_getD,List.getElem?_eq_getElem (by omega)];rfl
theorem VZ:dvL (rm l) (fun j=>rC (l.getD j 0/p)) l.length=rm (ym p l):=by
 refine yn (by rw[ku,eu,eu,kT]) fun j hj=>?_
 rw[ku,eu] at hj
 rw[Bv hj (by rw[eu];exact Nat.le_refl _),jK (by rw[kT];exact hj),om hj]
theorem V3(hx:x.length=l.length):sbR (rm l) (fun j=>sgn (x.getD j 0).num=0) (fun j=>rC (l.getD j 0-f*x.getD j 0)) l.length=rm (Ea f x l):=by
 refine yn (by rw[gI,eu,eu,yo hx]) fun j hj=>?_
 rw[gI,eu] at hj
 rw[GI hj (by rw[eu];exact Nat.le_refl _),jK (l:=Ea f x l) (by rw[yo hx];exact hj),Eb hx hj,jK (l:=l) hj]
 split
 ·rename_i h0
  have:(x.getD j 0).num=0:=by unfold sgn at h0;repeat' split at h0<;>omega
  rw[Rat.num_eq_zero.1 this,Rat.mul_zero,Rat.sub_eq_add_neg,Rat.neg_zero,Rat.add_zero]
 ·rfl
end Go.Proofs.YtgmpdplpodemaaaGreatDoor
namespace Go.Sx
open Go.Rt
variable {l:List Rat} {i j k m n s w S:Nat} {T T0:Tab}
theorem uH:kS l w≤w:=by
 induction w with
 |zero=>exact Nat.le_refl _
 |succ w ih=>
  unfold kS
  dsimp only
  split
  ·omega
  ·split<;>omega
theorem Ll:∀i,i<kS l w→¬l.getD i 0<0:=by
 induction w with
 |zero=>intro i hi;exact absurd hi (by unfold kS;omega)
 |succ w ih=>
  intro i
  have hle:=uH (l:=l) (w:=w)
  unfold kS
  dsimp only
  split
  ·exact ih i
  ·have he:kS l w=w:=by omega
   rw[he] at ih
   split
   ·exact ih i
   ·intro hi
    by_cases e:i=w
    ·subst e;assumption
    ·exact ih i (by omega)
theorem Lp(h:kS l w<w):l.getD (kS l w) 0<0:=by
 induction w with
 |zero=>omega
 |succ w ih=>
  have hle:=uH (l:=l) (w:=w)
  revert h
  unfold kS
  dsimp only
  split
  ·intro _;rename_i h _;exact ih h
  ·split
   ·intro _;assumption
   ·intro h;omega
theorem kU:bK T m k w (i+1)=if at2 T.rows i k≤0 then bK T m k w i else if bK T m k w i=m then i else if at2 T.rows (bK T m k w i) w/at2 T.rows (bK T m k w i) k<at2 T.rows i w/at2 T.rows i k∨at2 T.rows (bK T m k w i) w/at2 T.rows (bK T m k w i) k=at2 T.rows i w/at2 T.rows i k∧T.basis.getD (bK T m k w i) 0<T.basis.getD i 0 then bK T m k w i else i:=rfl
theorem Lr:bK T m k w i=m∨(bK T m k w i<i∧0<at2 T.rows (bK T m k w i) k):=by
 induction i with
 |zero=>exact .inl rfl
 |succ i ih=>
  rw[kU]
  split
  ·rcases ih with h|h
   ·exact .inl h
   ·exact .inr ⟨by omega,h.2⟩
  ·rename_i hp
   split
   ·exact .inr ⟨by omega,Rat.not_le.1 hp⟩
   ·split
    ·rcases ih with h|h
     ·exact .inl h
     ·exact .inr ⟨by omega,h.2⟩
    ·exact .inr ⟨by omega,Rat.not_le.1 hp⟩
def kkF(m n:Nat)(T:Tab):Nat:=kS (T.rows.getD m []) (n+m)
def iiF(m n:Nat)(T:Tab):Nat:=bK T m (kkF m n T) (n+m) m
def TT(m n:Nat)(T0:Tab):Nat→Tab
 |0=>T0
 |s+1=>lc (TT m n T0 s) (iiF m n (TT m n T0 s)) (kkF m n (TT m n T0 s))
def Jb(m n:Nat)(T:Tab):Bool:=decide (T.rows.length=m+1)&&(T.rows.all (fun l=>decide (l.length=n+m+1))&&(decide (T.basis.length=m)&&(T.basis.all (fun v=>decide (v<n+m))&&smT T)))
def P9(m n:Nat)(T:Tab):Bool:=
 Jb m n T&&(decide (kkF m n T<n+m)&&(decide (iiF m n T<m)&&(decide (¬at2 T.rows (iiF m n T) (kkF m n T)=0)&&(smP T (iiF m n T) (kkF m n T)&&(List.range m).all (fun r=>smB (at2 T.rows r (n+m)/at2 T.rows r (kkF m n T)))))))
def ql(m n:Nat)(T0:Tab)(S:Nat):Bool:=(List.range S).all (fun s=>P9 m n (TT m n T0 s))&&(Jb m n (TT m n T0 S)&&decide (kkF m n (TT m n T0 S)=n+m))
structure GT(m n:Nat)(T:Tab):Prop where
 rl:T.rows.length=m+1
 rw:∀r,r≤m→(T.rows.getD r []).length=n+m+1
 bl:T.basis.length=m
 bw:∀i,i<m→T.basis.getD i 0<n+m
 sm:smT T=true
theorem GT.of(h:Jb m n T=true):GT m n T:=by
 unfold Jb at h
 simp only[Bool.and_eq_true,decide_eq_true_eq,List.all_eq_true] at h
 obtain⟨h1,h2,h3,h4,h5⟩:=h
 refine⟨h1,fun r hr=>h2 _ ?_,h3,fun i hi=>h4 _ ?_,h5⟩
 ·rw[List.getD_eq_getElem?_getD,List.getElem?_eq_getElem (by omega)];exact List.getElem_mem _
 ·rw[List.getD_eq_getElem?_getD,List.getElem?_eq_getElem (by omega)];exact List.getElem_mem _
structure GS(m n:Nat)(T:Tab):Prop extends GT m n T where
 k:kkF m n T<n+m
 i:iiF m n T<m
 p0:¬at2 T.rows (iiF m n T) (kkF m n T)=0
 sp:smP T (iiF m n T) (kkF m n T)=true
 sq:∀r,r<m→Sm (at2 T.rows r (n+m)/at2 T.rows r (kkF m n T))
theorem GS.of(h:P9 m n T=true):GS m n T:=by
 unfold P9 at h
 simp only[Bool.and_eq_true,decide_eq_true_eq,List.all_eq_true,List.mem_range] at h
 obtain⟨h1,h2,h3,h4,h5,h6⟩:=h
 exact⟨GT.of h1,h2,h3,h4,h5,fun r hr=>gU (h6 r hr)⟩
theorem Jd(h:ql m n T0 S=true):∀s,s<S→GS m n (TT m n T0 s):=by
 unfold ql at h
 simp only[Bool.and_eq_true,decide_eq_true_eq,List.all_eq_true,List.mem_range] at h
 exact fun s hs=>GS.of (h.1 s hs)
theorem Bw(h:ql m n T0 S=true):∀s,s≤S→GT m n (TT m n T0 s):=by
 intro s hs
 rcases Nat.lt_or_eq_of_le hs with h1|h1
 ·exact(Jd h s h1).toGT
 ·subst h1
  unfold ql at h
  simp only[Bool.and_eq_true,decide_eq_true_eq,List.all_eq_true,List.mem_range] at h
  exact GT.of h.2.1
theorem V4(h:ql m n T0 S=true):kkF m n (TT m n T0 S)=n+m:=by
 unfold ql at h
 simp only[Bool.and_eq_true,decide_eq_true_eq,List.all_eq_true,List.mem_range] at h
 exact h.2.2
end Go.Sx
set_option maxHeartbeats 4000000
namespace Go.Proofs.YtgmpdplpodemaaaGreatDoor
open Go Go.Sy Go.Bp Go.Lm Go.Rt Go.Sx
variable {n N k i j m r s w W:Nat} {l x:List Rat} {p q f:Rat} {T:Tab}
theorem Bz(h:smT T=true)(hr:r<T.rows.length)(hj:j<(T.rows.getD r []).length):Sm (at2 T.rows r j):=by
 unfold smT at h
 rw[List.all_eq_true] at h
 have h1:=h (T.rows.getD r []) (by rw[List.getD_eq_getElem?_getD,List.getElem?_eq_getElem hr];exact List.getElem_mem hr)
 rw[List.all_eq_true] at h1
 refine gU (h1 _ ?_)
 unfold at2
 rw[List.getD_eq_getElem?_getD (l:=T.rows.getD r []),List.getElem?_eq_getElem hj]
 exact List.getElem_mem hj
theorem V5(h:smP T i k=true)(hr:r<T.rows.length)(hj:j<(T.rows.getD i []).length):Sm (at2 T.rows r k*(at2 T.rows i j/at2 T.rows i k)):=by
 unfold smP at h
 rw[List.all_eq_true] at h
 have h1:=h (T.rows.getD r []) (by rw[List.getD_eq_getElem?_getD,List.getElem?_eq_getElem hr];exact List.getElem_mem hr)
 rw[List.all_eq_true] at h1
 have h2:=h1 ((ym (at2 T.rows i k) (T.rows.getD i [])).getD j 0) (by
  have:j<(ym (at2 T.rows i k) (T.rows.getD i [])).length:=by rw[kT];exact hj
  rw[List.getD_eq_getElem?_getD (l:=ym _ _),List.getElem?_eq_getElem this];exact List.getElem_mem this)
 rw[om hj] at h2
 exact gU h2
theorem Qc:(lc T i k).rows.length=T.rows.length:=by unfold lc;simp
theorem mh(hr:r<T.rows.length):(lc T i k).rows.getD r []=if r=i then ym (at2 T.rows i k) (T.rows.getD i []) else if at2 T.rows r k=0 then T.rows.getD r [] else Ea (at2 T.rows r k) (ym (at2 T.rows i k) (T.rows.getD i [])) (T.rows.getD r []):=by
 unfold lc at2
 simp only[List.getD_eq_getElem?_getD,List.getElem?_map,List.getElem?_zipIdx,List.getElem?_eq_getElem hr,Option.map_some,Option.getD_some,Nat.zero_add]
theorem Ls(h1:Sm p)(h2:Sm q)(h0:¬q=0):ACall Tryz.prog 96 [.agg (aa.cells (rC p)),.agg (aa.cells (rC q))] [] 0 (.tup [.agg (aa.cells (rC (p/q))),.val (.int .i64 0)]) []:=by
 have:=divS (lX h1) (lX h2) h0
 rwa [←ma,←ma] at this
theorem GJ(h1:Sm p)(h2:Sm q):ACall Tryz.prog 99 [.agg (aa.cells (rC p)),.agg (aa.cells (rC q))] [] 0 (.tup [.agg (aa.cells (rC (p*q))),.val (.int .i64 0)]) []:=by
 have:=mulS (lX h1) (lX h2)
 rwa [←ma,←ma] at this
theorem V6(h1:Sm p)(h2:Sm q):ACall Tryz.prog 137 [.agg (aa.cells (rC p)),.agg (aa.cells (rC q))] [] 0 (.tup [.agg (aa.cells (rC (p-q))),.val (.int .i64 0)]) []:=by
 have:=subS (lX h1) (lX h2)
 rwa [←ma,←ma] at this
theorem abk(h1:Sm p)(h2:Sm q):ACall Tryz.prog 196 [.agg (aa.cells (rC p)),.agg (aa.cells (rC q))] [] 0 (.tup [.agg (aa.cells (rC (p+q))),.val (.int .i64 0)]) []:=by
 have:=addS (lX h1) (lX h2)
 rwa [←ma,←ma] at this
theorem V7(h1:Sm p)(h2:Sm q):ACall Tryz.prog 141 [.agg (aa.cells (rC p)),.agg (aa.cells (rC q))] [] 0 (.tup [.val (.int .i64 (eF (p.num*q.den) (q.num*p.den))),.val (.int .i64 0)]) []:=by
 have:=cmpS (lX h1) (lX h2)
 rwa [←ma,←ma] at this
def rwT(T:Tab)(r:Nat):List RV:=rm (T.rows.getD r [])
def biT(T:Tab):List Int:=T.basis.map fun(x:Nat)=>(x:Int)
theorem V8:biT (lc T i k)=(biT T).set i (k:Int):=by unfold biT lc;simp[List.map_set]
theorem Xk:sgn p.num=0↔p=0:=by
 rw[←Rat.num_eq_zero]
 unfold sgn
 repeat' split
 all_goals omega
theorem V9:0<p↔0<p.num:=by
 rw[Bl]
 show(0:Int)*p.den<p.num*((1:Nat):Int)↔_
 rw[Int.zero_mul,Int.natCast_one,Int.mul_one]
theorem neg_num:p<0↔p.num<0:=by
 rw[Bl]
 show p.num*((1:Nat):Int)<(0:Int)*p.den↔_
 rw[Int.zero_mul,Int.natCast_one,Int.mul_one]
theorem Wd{v:Int}:sgn v<0↔v<0:=by unfold sgn;repeat' split<;>omega
theorem mV:sgn p.num≤0↔p≤0:=by
 rw[←Rat.not_lt,V9]
 unfold sgn
 repeat' split
 all_goals omega
theorem abl:(rC p).num.neg=decide (p.num<0):=rfl
theorem iE:(0<eF (p.num*q.den) (q.num*p.den)↔q<p)∧(eF (p.num*q.den) (q.num*p.den)=0↔p=q)∧(eF (p.num*q.den) (q.num*p.den)<0↔p<q):=by
 have h1:=Bl (p:=p) (q:=q)
 have h2:=Bl (p:=q) (q:=p)
 have h3:p=q↔p.num*q.den=q.num*p.den:=by
  constructor
  ·intro h;rw[h]
  ·intro h
   rcases Rat.le_total (a:=p) (b:=q) with a|a
   ·exact Rat.le_antisymm a (Rat.not_lt.1 fun hc=>by have:=h1.1 hc;omega)
   ·exact Rat.le_antisymm (Rat.not_lt.1 fun hc=>by have:=h2.1 hc;omega) a
 unfold eF
 rw[h1,h2,h3]
 repeat' split
 all_goals omega
end Go.Proofs.YtgmpdplpodemaaaGreatDoor
namespace Go.Proofs.YtgmpdplpodemaaaGreatDoor
open Go Go.Sy Go.Bp Go.Lm Go.Rt Go.Sx
variable {n N k i j m r s w W:Nat} {l x:List Rat} {p q f:Rat} {T:Tab}
theorem BA{a b:List Rat}:rm (a++b)=rm a++rm b:=List.map_append
theorem abm:rm (l.set j p)=(rm l).set j (rC p):=List.map_set
theorem Qd:rm (List.replicate w p)=List.replicate w (rC p):=List.map_replicate
theorem Je:rm (l.take j)=(rm l).take j:=List.map_take
theorem We:rm (l.drop j)=(rm l).drop j:=List.map_drop
def mxA(A:List (List Rat)):List RL:=A.map fun l=>⟨false,rm l⟩
theorem wJ{A:List (List Rat)}:(mxA A).length=A.length:=List.length_map _
theorem sO{A:List (List Rat)}(h:i<A.length):(mxA A).getD i default=⟨false,rm (A.getD i [])⟩:=by
 unfold mxA
 rw[List.getD_eq_getElem?_getD,List.getElem?_map,List.getElem?_eq_getElem h,List.getD_eq_getElem?_getD,List.getElem?_eq_getElem h];rfl
theorem Wh{A:List (List Rat)} {B C:List Rat}(h:i<A.length):(ed A B C).rows.getD i []=A.getD i []++abj B.length i++[B.getD i 0]:=by
 unfold ed
 dsimp only
 rw[List.getD_eq_getElem?_getD,List.getElem?_append_left (by simpa using h),List.getElem?_map,List.getElem?_zipIdx,List.getElem?_eq_getElem h,List.getD_eq_getElem?_getD (l:=A),List.getElem?_eq_getElem h]
 simp
theorem Qe{A:List (List Rat)} {B C:List Rat}:(ed A B C).rows.getD A.length []=C.map (fun c=> -c)++List.replicate (B.length+1) 0:=by
 unfold ed
 dsimp only
 rw[List.getD_eq_getElem?_getD,List.getElem?_append_right (by simp)]
 simp
def xvF(T:Tab)(w:Nat):Nat→List Rat
 |0=>List.replicate w 0
 |i+1=>(xvF T w i).set (T.basis.getD i 0) (at2 T.rows i w)
theorem Wi:(xvF T w i).length=w:=by
 induction i with
 |zero=>exact List.length_replicate
 |succ i ih=>rw[xvF,List.length_set,ih]
def BB(m n:Nat)(T:Tab):Rat:=at2 T.rows m (n+m)
def BC(m n:Nat)(T:Tab):List Rat:=(xvF T (n+m) m).take n
def BD(m n:Nat)(T:Tab):List Rat:=((T.rows.getD m []).drop n).take m
end Go.Proofs.YtgmpdplpodemaaaGreatDoor
namespace Go.Sx
open Go Go.Sy Go.Bp Go.Rt Go.Proofs.YtgmpdplpodemaaaGreatDoor
variable {i j k m n S N:Nat} {wr:List Nat} {ks:List Nat} {f g:Nat→Rat} {T:Tab} {ld:Rat}
def wq(wr:List Nat)(i k:Nat):Rat:=if bit (wr.getD k default) i then 1 else 0
def mxF(wr:List Nat)(m:Nat):List (List Rat):=(List.range m).map fun i=>(List.range wr.length).map fun k=>wq wr i k
theorem sP:(mxF wr m).length=m:=by unfold mxF;simp
theorem Jg(h:i<m):(mxF wr m).getD i []=(List.range wr.length).map fun k=>wq wr i k:=by
 unfold mxF
 rw[List.getD_eq_getElem?_getD,List.getElem?_map,List.getElem?_range h];rfl
theorem GK(h:i<m):((mxF wr m).getD i []).length=wr.length:=by rw[Jg h];simp
theorem abn(h:i<m)(hk:k<wr.length):((mxF wr m).getD i []).getD k 0=wq wr i k:=by
 rw[Jg h,List.getD_eq_getElem?_getD,List.getElem?_map,List.getElem?_range hk];rfl
theorem adj:wq wr i k=0∨wq wr i k=1:=by unfold wq;split<;>simp
def onF(n:Nat):List Rat:=List.replicate n 1
theorem lK:(onF n).length=n:=List.length_replicate
theorem wK(h:j<n):(onF n).getD j 0=1:=by unfold onF;rw[List.getD_eq_getElem?_getD,List.getElem?_replicate,if_pos h];rfl
def T0F(wr:List Nat)(m:Nat):Tab:=ed (mxF wr m) (onF m) (onF wr.length)
def oo(f:Nat→Rat):Nat→Rat
 |0=>0
 |j+1=>oo f j+f j
def vV(f:Nat→Rat):Nat→Rat
 |0=>0
 |i+1=>if vV f i<f i then f i else vV f i
def uI(f g:Nat→Rat)(n:Nat):Bool:=(List.range n).all fun j=>smB (f j)&&(smB (g j)&&(smB (f j*g j)&&smB (oo (fun i=>f i*g i) (j+1))))
theorem sm0:Sm 0:=gU (by decide+kernel)
theorem sm1:Sm 1:=gU (by decide+kernel)
theorem kV(h:uI f g n=true)(hj:j<n):Sm (f j)∧Sm (g j)∧Sm (f j*g j):=by
 unfold uI at h
 simp only[List.all_eq_true,List.mem_range,Bool.and_eq_true] at h
 have:=h j hj
 exact⟨gU this.1,gU this.2.1,gU this.2.2.1⟩
theorem yt(h:uI f g n=true)(hj:j≤n):Sm (oo (fun i=>f i*g i) j):=by
 cases j with
 |zero=>exact sm0
 |succ j=>
  unfold uI at h
  simp only[List.all_eq_true,List.mem_range,Bool.and_eq_true] at h
  exact gU (h j (by omega)).2.2.2
def ksF(x:Nat→Rat)(n:Nat):List Nat:=(List.range n).filter fun k=>decide (0<x k)
theorem adk{x:Nat→Rat}:ksF x (n+1)=if 0<x n then ksF x n++[n] else ksF x n:=by
 unfold ksF
 rw[List.range_succ,List.filter_append]
 by_cases h:0<x n
 ·rw[if_pos h];simp[h]
 ·rw[if_neg h];simp[h]
theorem Jh{x:Nat→Rat}(h:i<(ksF x n).length):(ksF x n).getD i 0<n∧0<x ((ksF x n).getD i 0):=by
 have:(ksF x n).getD i 0∈ksF x n:=by rw[List.getD_eq_getElem?_getD,List.getElem?_eq_getElem h];exact List.getElem_mem h
 unfold ksF at this
 rw[List.mem_filter,List.mem_range,decide_eq_true_eq] at this
 exact this
theorem Wj{x:Nat→Rat}(h:i<j)(hj:j<(ksF x n).length):(ksF x n).getD i 0<(ksF x n).getD j 0:=by
 have hp:(ksF x n).Pairwise (· < ·):=List.Pairwise.filter _ List.pairwise_lt_range
 rw[List.getD_eq_getElem?_getD,List.getD_eq_getElem?_getD,List.getElem?_eq_getElem hj,List.getElem?_eq_getElem (by omega)]
 exact List.pairwise_iff_getElem.1 hp i j (by omega) hj h
def ldF(m n:Nat)(T:Tab):Rat:=1/BB m n T
def shF(m n:Nat)(T:Tab)(k:Nat):Rat:=(BC m n T).getD k 0*ldF m n T
def prF(m n:Nat)(T:Tab)(i:Nat):Rat:=(BD m n T).getD i 0*ldF m n T
def Ji(m n:Nat)(T:Tab):Bool:=
 decide (¬BB m n T=0)&&(smB (BB m n T)&&(smB (ldF m n T)&&((List.range n).all (fun k=>smB ((BC m n T).getD k 0)&&smB (shF m n T k))&&((List.range m).all (fun i=>smB ((BD m n T).getD i 0)&&smB (prF m n T i))&&decide (0<(ksF (shF m n T) n).length)))))
structure GO(m n:Nat)(T:Tab):Prop where
 v0:¬BB m n T=0
 v:Sm (BB m n T)
 l:Sm (ldF m n T)
 x:∀k,k<n→Sm ((BC m n T).getD k 0)∧Sm (shF m n T k)
 y:∀i,i<m→Sm ((BD m n T).getD i 0)∧Sm (prF m n T i)
 N:0<(ksF (shF m n T) n).length
theorem GO.of(h:Ji m n T=true):GO m n T:=by
 unfold Ji at h
 simp only[Bool.and_eq_true,decide_eq_true_eq,List.all_eq_true,List.mem_range] at h
 obtain⟨h1,h2,h3,h4,h5,h6⟩:=h
 exact⟨h1,gU h2,gU h3,fun k hk=>⟨gU (h4 k hk).1,gU (h4 k hk).2⟩,fun k hk=>⟨gU (h5 k hk).1,gU (h5 k hk).2⟩,h6⟩
def ksO(m n:Nat)(T:Tab):List Nat:=ksF (shF m n T) n
def paF(m n:Nat)(T:Tab)(j:Nat):Rat:=shF m n T ((ksO m n T).getD j 0)
def lsF(wr:List Nat)(m:Nat)(T:Tab)(i:Nat):Rat:=oo (fun j=>paF m wr.length T j*wq wr i ((ksO m wr.length T).getD j 0)) (ksO m wr.length T).length/1
def Jj(wr:List Nat)(m:Nat)(T:Tab):Bool:=
 uI (paF m wr.length T) (fun _=>1) (ksO m wr.length T).length&&(decide (oo (fun j=>paF m wr.length T j*1) (ksO m wr.length T).length=1)
  &&((List.range m).all (fun i=>uI (paF m wr.length T) (fun j=>wq wr i ((ksO m wr.length T).getD j 0)) (ksO m wr.length T).length&&(smB (lsF wr m T i)&&smB (vV (lsF wr m T) i)))&&(decide (vV (lsF wr m T) m=ldF m wr.length T)
  &&((List.range m).all (fun i=>decide (0≤prF m wr.length T i))&&(uI (prF m wr.length T) (fun _=>1) m&&(decide (oo (fun j=>prF m wr.length T j*1) m=1)
  &&(List.range wr.length).all (fun k=>uI (prF m wr.length T) (fun i=>wq wr i k) m&&decide (ldF m wr.length T≤oo (fun i=>prF m wr.length T i*wq wr i k) m))))))))
structure GC(wr:List Nat)(m:Nat)(T:Tab):Prop where
 p:uI (paF m wr.length T) (fun _=>1) (ksO m wr.length T).length=true
 p1:oo (fun j=>paF m wr.length T j*1) (ksO m wr.length T).length=1
 s:∀i,i<m→uI (paF m wr.length T) (fun j=>wq wr i ((ksO m wr.length T).getD j 0)) (ksO m wr.length T).length=true∧Sm (lsF wr m T i)∧Sm (vV (lsF wr m T) i)
 mx:vV (lsF wr m T) m=ldF m wr.length T
 y0:∀i,i<m→0≤prF m wr.length T i
 y:uI (prF m wr.length T) (fun _=>1) m=true
 y1:oo (fun j=>prF m wr.length T j*1) m=1
 w:∀k,k<wr.length→uI (prF m wr.length T) (fun i=>wq wr i k) m=true∧ldF m wr.length T≤oo (fun i=>prF m wr.length T i*wq wr i k) m
theorem GC.of(h:Jj wr m T=true):GC wr m T:=by
 unfold Jj at h
 simp only[Bool.and_eq_true,decide_eq_true_eq,List.all_eq_true,List.mem_range] at h
 obtain⟨h1,h2,h3,h4,h5,h6,h7,h8⟩:=h
 exact⟨h1,h2,fun i hi=>⟨(h3 i hi).1,gU (h3 i hi).2.1,gU (h3 i hi).2.2⟩,h4,h5,h6,h7,h8⟩
theorem abo:ql 3 3 (T0F [3,5,6] 3) 3=true:=by decide+kernel
theorem abp:Ji 3 3 (TT 3 3 (T0F [3,5,6] 3) 3)=true:=by decide+kernel
theorem abq:Jj [3,5,6] 3 (TT 3 3 (T0F [3,5,6] 3) 3)=true:=by decide+kernel
theorem abr:ldF 3 3 (TT 3 3 (T0F [3,5,6] 3) 3)=2/3:=by decide+kernel
end Go.Sx
namespace Go.Proofs.YtgmpdplpodemaaaGreatDoor
open Go Go.Sy Go.Bp Go.Lm Go.Rt Go.Sx
variable {n N k i j m r s w W:Nat} {l x:List Rat} {p q f:Rat} {T:Tab}
abbrev Eh(n W:Nat)(T:Tab):List aC:=[.cells [.val (.int .i64 3),.val (.int .i64 n),.sl 1 0 4 1,.sl 2 0 3 1,.val (.int .i64 0)] 197,.cells [.sl 3 0 W 4,.sl 4 0 W 4,.sl 5 0 W 4,.sl 6 0 W 4] 103,.cells (cI .i64 (biT T)) 3,.cells (cR (rwT T 0)) 60,.cells (cR (rwT T 1)) 60,.cells (cR (rwT T 2)) 60,.cells (cR (rwT T 3)) 60]
theorem GV(hi:i<3)(hW:W≤500)(hk:k<W)(hr:T.rows.length=4)(hl:∀r,r<4→(T.rows.getD r []).length=W)(hb:T.basis.length=3)(hp:¬at2 T.rows i k=0)(hs:smT T=true)(hs2:smT (lc T i k)=true)(hs3:smP T i k=true):
 ACall Tryz.prog 175 [.pt 0 0,.val (.int .i64 i),.val (.int .i64 k)] (Eh n W T) 7 (.tup []) (Eh n W (lc T i k)):=by
 have hS:∀r j,r<4→j<W→Sm (at2 T.rows r j):=fun r j h1 h2=>Bz hs (by omega) (by rw[hl r h1];exact h2)
 have hl2:∀r,r<4→((lc T i k).rows.getD r []).length=W:=fun r h=>by
  rw[mh (by omega)]
  split
  ·rw[kT];exact hl i (by omega)
  ·split
   ·exact hl r h
   ·rw[yo (by rw[kT,hl i (by omega),hl r h])];exact hl r h
 have hS2:∀r j,r<4→j<W→Sm (at2 (lc T i k).rows r j):=fun r j h1 h2=>Bz hs2 (by rw[Qc];omega) (by rw[hl2 r h1];exact h2)
 have hS3:∀r j,r<4→j<W→Sm (at2 T.rows r k*(at2 T.rows i j/at2 T.rows i k)):=fun r j h1 h2=>V5 hs3 (by omega) (by rw[hl i (by omega)];exact h2)
 have hq:∀j,j<W→at2 (lc T i k).rows i j=at2 T.rows i j/at2 T.rows i k:=fun j h=>by
  show((lc T i k).rows.getD i []).getD j 0=_
  rw[mh (by omega),if_pos rfl,om (by rw[hl i (by omega)];exact h)];rfl
 have hD:∀j,j<W→Sm (at2 T.rows i j/at2 T.rows i k):=fun j h=>by rw[←hq j h];exact hS2 i j (by omega) h
 have hget:∀r j,r<4→j<W→(rwT T r).getD j default=rC (at2 T.rows r j):=fun r j h1 h2=>jK (by rw[hl r h1];exact h2)
 have hU:∀r j,r<4→¬r=i→¬at2 T.rows r k=0→j<W→Sm (at2 T.rows r j-at2 T.rows r k*(at2 T.rows i j/at2 T.rows i k)):=fun r j h1 h2 h3 h4=>by
  have e:at2 (lc T i k).rows r j=at2 T.rows r j-at2 T.rows r k*(at2 T.rows i j/at2 T.rows i k):=by
   show((lc T i k).rows.getD r []).getD j 0=_
   rw[mh (by omega),if_neg h2,if_neg h3,Eb (by rw[kT,hl i (by omega),hl r h1]) (by rw[hl r h1];exact h4),om (by rw[hl i (by omega)];exact h4)];rfl
  rw[←e];exact hS2 r j h1 h4
 have hg0:∀r,r≤3→¬r=i→sgn (at2 T.rows r k).num=0→rwT (lc T i k) r=rwT T r:=fun r h1 h2 h3=>by
  unfold rwT;rw[mh (by omega),if_neg h2,if_pos (Xk.1 h3)]
 have hg1:∀r,r≤3→¬r=i→¬sgn (at2 T.rows r k).num=0→rwT (lc T i k) r=sbR (rwT T r) (fun j=>sgn (at2 T.rows i j/at2 T.rows i k).num=0) (fun j=>rC (at2 T.rows r j-at2 T.rows r k*(at2 T.rows i j/at2 T.rows i k))) W:=fun r h1 h2 h3=>by
  have hlr:=hl r (by omega)
  have hli:=hl i (by omega)
  unfold rwT
  rw[mh (by omega),if_neg h2,if_neg (fun h=>h3 (Xk.2 h)),←V3 (by rw[kT,hli,hlr]),hlr]
  refine yn (by rw[gI,gI]) fun j hj=>?_
  rw[gI,eu,hlr] at hj
  rw[GI hj (by rw[eu,hlr];exact Nat.le_refl _),GI hj (by rw[eu,hlr];exact Nat.le_refl _),om (by rw[hli];exact hj)]
  rfl
 have hNi:rwT (lc T i k) i=dvL (rwT T i) (fun j=>rC (at2 T.rows i j/at2 T.rows i k)) W:=by
  have hli:=hl i (by omega)
  unfold rwT
  rw[mh (by omega),if_pos rfl,←VZ,hli];rfl
 show ACall Tryz.prog 175 _ (Eh n W T) 7 (.tup []) (Eh n W (lc T i k))
 unfold Eh
 rw[V8]
 have hblen:(biT T).length=3:=by unfold biT;rw[List.length_map];exact hb
 have hlw:∀r,r≤3→(rwT T r).length=W:=fun r h=>by unfold rwT;rw[eu];exact hl r (by omega)
 exact pwW3 hi (p:=rC (at2 T.rows i k)) (d:=fun j=>rC (at2 T.rows i j/at2 T.rows i k)) (sx:=fun j=>sgn (at2 T.rows i j/at2 T.rows i k).num) (sg:=fun r=>sgn (at2 T.rows r k).num) (f:=fun r=>rC (at2 T.rows r k)) (mu:=fun r j=>rC (at2 T.rows r k*(at2 T.rows i j/at2 T.rows i k))) (su:=fun r j=>rC (at2 T.rows r j-at2 T.rows r k*(at2 T.rows i j/at2 T.rows i k))) (Rw:=rwT T) (New:=rwT (lc T i k))
  hW hk hlw hblen (hget i k (by omega) hk) hNi (fun j hj=>by rw[hget i j (by omega) hj];exact Ls (hS _ _ (by omega) hj) (hS _ _ (by omega) hk) hp) (fun r h1 h2=>hget r k (by omega) hk) (fun r h1 h2=>iD (hS _ _ (by omega) hk)) (fun j hj=>iD (hD j hj))
  (fun r j h1 h2 h3 h4 h5=>GJ (hS _ _ (by omega) hk) (hD j h4)) (fun r j h1 h2 h3 h4 h5=>by rw[hget r j (by omega) h4];exact V6 (hS _ _ (by omega) h4) (hS3 r j (by omega) h4)) hg0 hg1
end Go.Proofs.YtgmpdplpodemaaaGreatDoor
namespace Go.Proofs.YtgmpdplpodemaaaGreatDoor
open Go Go.Sy Go.Bp Go.Lm Go.Rt Go.Sx
variable {n N k i j m r s w W:Nat} {l x:List Rat} {p q f:Rat} {T:Tab}
def rsT(m:Nat)(T:Tab):List RL:=(List.range (m+1)).map fun r=>⟨false,rwT T r⟩
theorem Jr:(rsT m T).length=m+1:=by unfold rsT;rw[List.length_map,List.length_range]
theorem Js(h:r≤m):(rsT m T).getD r default=⟨false,rwT T r⟩:=by
 unfold rsT
 rw[List.getD_eq_getElem?_getD,List.getElem?_map,List.getElem?_range (by omega)];rfl
theorem jA(g:GT m n T)(h:r≤m):(rwT T r).length=n+m+1:=by unfold rwT;rw[eu];exact g.rw r h
theorem mZ(g:GT m n T)(h:r≤m)(hj:j<n+m+1):(rwT T r).getD j default=rC (at2 T.rows r j):=jK (by rw[g.rw r h];exact hj)
theorem Jt(g:GT m n T)(h:r≤m)(hj:j<n+m+1):Sm (at2 T.rows r j):=Bz g.sm (by rw[g.rl];omega) (by rw[g.rw r h];exact hj)
theorem BM(g:GT m n T):(biT T).length=m:=by unfold biT;rw[List.length_map];exact g.bl
theorem wM(g:GT m n T)(h:i<m):(biT T).getD i default=(T.basis.getD i 0:Nat):=by
 unfold biT
 have hl:i<T.basis.length:=by rw[g.bl];exact h
 rw[List.getD_eq_getElem?_getD,List.getElem?_map,List.getElem?_eq_getElem hl,List.getD_eq_getElem?_getD,List.getElem?_eq_getElem hl];rfl
theorem QD{l:List RV}(h:j<w):(l.take w).getD j default=l.getD j default:=by
 rw[List.getD_eq_getElem?_getD,List.getD_eq_getElem?_getD,List.getElem?_take,if_pos h]
theorem QE(hm:m≤14)(hn:n≤400)(g:GT m n T):ACall Tryz.prog 173 [.ipt (tbV m n (rsT m T) (biT T)) 0] [] 0 (.val (.int .i64 (if kkF m n T=n+m then-1 else(kkF m n T:Int)))) []:=by
 have hl:=jA g (Nat.le_refl m)
 have hg:∀j,j<n+m→((rwT T m).take (n+m)).getD j default=rC (at2 T.rows m j):=fun j hj=>by rw[QD hj,mZ g (Nat.le_refl m) (by omega)]
 have hlt:((rwT T m).take (n+m)).length=n+m:=by rw[List.length_take,hl];omega
 have hp:∀j,j<n+m→(((rwT T m).take (n+m)).getD j default).num.neg=decide (at2 T.rows m j<0):=fun j hj=>by
  rw[hg j hj,abl];exact decide_eq_decide.2 neg_num.symm
 have hi:=D9 (F:=202) (z:=false) (xs:=(rwT T m).take (n+m)) (n:=n+m) (fun X=>X.num.neg) hlt (by omega) (fun j hj=>by
  try dsimp only
  rw[hp j hj,hg j hj]
  have:=VY (iD (Jt g (Nat.le_refl m) (show j<n+m+1 by omega)))
  rwa [show decide (sgn (at2 T.rows m j).num<0)=decide (at2 T.rows m j<0) from decide_eq_decide.2 (by rw[Wd,neg_num])] at this)
 have e:ix (fun X:RV=>X.num.neg) ((rwT T m).take (n+m))=if kkF m n T=n+m then-1 else(kkF m n T:Int):=by
  have hle:kkF m n T≤n+m:=uH
  have hb:∀j,j<kkF m n T→¬at2 T.rows m j<0:=fun j hj=>Ll j hj
  split
  ·rename_i h
   exact oV fun j hj=>by rw[hlt] at hj;rw[hp j hj];exact decide_eq_false (hb j (by omega))
  ·rename_i h
   have hlt2:kkF m n T<n+m:=by omega
   exact um (by rw[hlt];exact hlt2) (fun j hj=>by rw[hp j (by omega)];exact decide_eq_false (hb j hj)) (by rw[hp _ hlt2];exact decide_eq_true (Lp hlt2))
 rw[e] at hi
 exact GG hm hn rfl Jr (Js (Nat.le_refl m)) hl hi
theorem abA(hm:m≤14)(hn:n≤400)(g:GS m n T):ACall Tryz.prog 174 [.ipt (tbV m n (rsT m T) (biT T)) 0,.val (.int .i64 (kkF m n T))] [] 0 (.val (.int .i64 (iiF m n T))) []:=by
 have gk:=g.k
 have gi:=g.i
 have gT:=g.toGT
 have B0:∀i,bK T m (kkF m n T) (n+m) i=m∨(bK T m (kkF m n T) (n+m) i<i∧0<at2 T.rows (bK T m (kkF m n T) (n+m) i) (kkF m n T)):=fun i=>Lr
 have:=GX (m:=m) (n:=n) (w:=n+m) (k:=kkF m n T) (rs:=rsT m T) (b:=biT T)
  (bst:=fun i=>if bK T m (kkF m n T) (n+m) i=m then-1 else(bK T m (kkF m n T) (n+m) i:Int))
  (sg:=fun i=>sgn (at2 T.rows i (kkF m n T)).num)
  (cm:=fun i=>eF ((at2 T.rows i (n+m)/at2 T.rows i (kkF m n T)).num*(at2 T.rows (bK T m (kkF m n T) (n+m) i) (n+m)/at2 T.rows (bK T m (kkF m n T) (n+m) i) (kkF m n T)).den) ((at2 T.rows (bK T m (kkF m n T) (n+m) i) (n+m)/at2 T.rows (bK T m (kkF m n T) (n+m) i) (kkF m n T)).num*(at2 T.rows i (n+m)/at2 T.rows i (kkF m n T)).den))
  (lst:=fun i=>if bK T m (kkF m n T) (n+m) i=m then rZ else rC (at2 T.rows (bK T m (kkF m n T) (n+m) i) (n+m)/at2 T.rows (bK T m (kkF m n T) (n+m) i) (kkF m n T)))
  (q:=fun i=>rC (at2 T.rows i (n+m)/at2 T.rows i (kkF m n T))) (y:=fun i=>rC (at2 T.rows i (kkF m n T))) (zz:=fun i=>rC (at2 T.rows i (n+m))) (rowL:=fun i=>rwT T i) (bb:=fun i=>(T.basis.getD (bK T m (kkF m n T) (n+m) i) 0:Nat))
  hm hn rfl gk Jr (fun i hi=>Js (by omega)) (fun i hi=>jA gT (by omega)) (fun i hi=>mZ gT (by omega) (by omega)) (fun i hi=>mZ gT (by omega) (by omega)) (BM gT)
  (fun i hi=>iD (Jt gT (by omega) (by omega)))
  (fun i hi h=>Ls (Jt gT (by omega) (by omega)) (Jt gT (by omega) (by omega)) (fun e=>h (mV.2 (by rw[e];exact Rat.le_refl))))
  (fun i hi h h2=>by
    try dsimp only at h2⊢
    rcases B0 i with hb|hb
    ·rw[if_pos hb] at h2;omega
    ·rw[if_neg (by omega)]
     exact V7 (g.sq i hi) (g.sq _ (by omega)))
  (by show(if bK T m (kkF m n T) (n+m) 0=m then(-1:Int) else _)= -1;exact if_pos rfl) (by show(if bK T m (kkF m n T) (n+m) 0=m then rZ else _)=rZ;exact if_pos rfl)
  (fun i hi=>by(try dsimp only);split<;>(have:=B0 i;omega))
  (fun i hi h=>by
    try dsimp only at h⊢
    rcases B0 i with hb|hb
    ·rw[if_pos hb] at h;omega
    ·rw[if_neg (by omega),Int.toNat_natCast];exact wM gT (by omega))
  (fun i hi h=>by
    try dsimp only
    have e:bK T m (kkF m n T) (n+m) (i+1)=bK T m (kkF m n T) (n+m) i:=by rw[kU,if_pos (mV.1 h)]
    rw[e];exact⟨rfl,rfl⟩)
  (fun i hi h h2=>by
    try dsimp only at h2⊢
    have hb:bK T m (kkF m n T) (n+m) i=m:=by
     rcases Decidable.em (bK T m (kkF m n T) (n+m) i=m) with hb|hb
     ·exact hb
     ·rw[if_neg hb] at h2;omega
    have e:bK T m (kkF m n T) (n+m) (i+1)=i:=by rw[kU,if_neg (fun hc=>h (mV.2 hc)),if_pos hb]
    rw[e,if_neg (by omega),if_neg (by omega)];exact⟨rfl,rfl⟩)
  (fun i hi h h2 h3=>by
    try dsimp only at h2 h3⊢
    have hb:¬bK T m (kkF m n T) (n+m) i=m:=by intro hb;rw[if_pos hb] at h2;omega
    have e:bK T m (kkF m n T) (n+m) (i+1)=bK T m (kkF m n T) (n+m) i:=by rw[kU,if_neg (fun hc=>h (mV.2 hc)),if_neg hb,if_pos (.inl (iE.1.1 h3))]
    rw[e];exact⟨rfl,rfl⟩)
  (fun i hi h h2 h3 h4=>by
    try dsimp only at h2 h3 h4⊢
    rw[wM gT hi] at h4
    have hb:¬bK T m (kkF m n T) (n+m) i=m:=by intro hb;rw[if_pos hb] at h2;omega
    have e:bK T m (kkF m n T) (n+m) (i+1)=bK T m (kkF m n T) (n+m) i:=by rw[kU,if_neg (fun hc=>h (mV.2 hc)),if_neg hb,if_pos (.inr ⟨(iE.2.1.1 h3).symm,by omega⟩)]
    rw[e];exact⟨rfl,rfl⟩)
  (fun i hi h h2 h3 h4=>by
    try dsimp only at h2 h3 h4⊢
    rw[wM gT hi] at h4
    have hb:¬bK T m (kkF m n T) (n+m) i=m:=by intro hb;rw[if_pos hb] at h2;omega
    have e:bK T m (kkF m n T) (n+m) (i+1)=i:=by
     rw[kU,if_neg (fun hc=>h (mV.2 hc)),if_neg hb,if_neg]
     rintro(hc|hc)
     ·rw[iE.2.1.1 h3] at hc;exact Rat.lt_irrefl hc
     ·exact h4 (by omega)
    rw[e,if_neg (by omega),if_neg (by omega)];exact⟨rfl,rfl⟩)
  (fun i hi h h2 h3=>by
    try dsimp only at h2 h3⊢
    have hb:¬bK T m (kkF m n T) (n+m) i=m:=by intro hb;rw[if_pos hb] at h2;omega
    have h5:=iE.2.2.1 h3
    have e:bK T m (kkF m n T) (n+m) (i+1)=i:=by
     rw[kU,if_neg (fun hc=>h (mV.2 hc)),if_neg hb,if_neg]
     rintro(hc|hc)
     ·exact Rat.not_lt.2 (Rat.le_of_lt h5) hc
     ·rw[hc.1] at h5;exact Rat.lt_irrefl h5
    rw[e,if_neg (by omega),if_neg (by omega)];exact⟨rfl,rfl⟩)
 try dsimp only at this
 have hi:¬bK T m (kkF m n T) (n+m) m=m:=by have:=g.i;unfold iiF at this;omega
 rw[if_neg hi] at this
 exact this
