/- Sx2 Sx3 Sx6 Sx7 Ld1 Pr8 Pr7. No condition. -/
import Derived.Test.YtgmpdplpodemaaaGreatDoorFacGAll
import Derived.Test.YtgmpdplpodemaaaGreatDoorBuG10
import Derived.Test.YtgmpdplpodemaaaGreatDoorLaG1
set_option linter.all false
set_option maxRecDepth 20000
namespace Go.Proofs.YtgmpdplpodemaaaGreatDoor
open Go Go.Sy Go.Bp Go.Lm Go.Rt Go.Sx
variable {n N M k i m j r s w:Nat} {l x:List Rat} {p f:Rat}
def rm(l:List Rat):List RV:=l.map rC
theorem dG:(rm l).length=l.length:=List.length_map _
theorem jk(h:j<l.length):(rm l).getD j default=rC (l.getD j 0):=by
 unfold rm
 rw[List.getD_eq_getElem?_getD,List.getElem?_map,List.getElem?_eq_getElem h,List.getD_eq_getElem?_getD,List.getElem?_eq_getElem h];rfl
theorem uY{a b:List RV}(hl:a.length=b.length)(h:∀j,j<a.length->a.getD j default=b.getD j default):a=b:=by
 apply List.ext_getElem hl
 intro j h1 h2
 have:=h j h1
 simpa[List.getD_eq_getElem?_getD,List.getElem?_eq_getElem h1,List.getElem?_eq_getElem h2] using this
theorem lc(h:j<l.length):(Ag p l).getD j 0=l.getD j 0/p:=by
 unfold Ag
 rw[List.getD_eq_getElem?_getD,List.getElem?_map,List.getElem?_eq_getElem h,List.getD_eq_getElem?_getD,List.getElem?_eq_getElem h];rfl
theorem iW:(Ag p l).length=l.length:=List.length_map _
theorem uZ(h:x.length=l.length):(Gt f x l).length=l.length:=by unfold Gt;rw[List.length_zipWith];omega
theorem Ah(h:x.length=l.length)(hj:j<l.length):(Gt f x l).getD j 0=l.getD j 0-f*x.getD j 0:=by
 unfold Gt
 rw[List.getD_eq_getElem?_getD,List.getElem?_zipWith,List.getElem?_eq_getElem hj,List.getElem?_eq_getElem omgz,List.getD_eq_getElem?_getD,List.getElem?_eq_getElem hj,List.getD_eq_getElem?_getD,List.getElem?_eq_getElem omgz];rfl
theorem LH:dvL (rm l) (λj=>rC (l.getD j 0/p)) l.length=rm (Ag p l):=by
 refine uY (by rw[oJ,dG,dG,iW]) λj hj=>?_
 rw[oJ,dG] at hj
 rw[JG hj (by rw[dG];exact Nat.le_refl _),jk (by rw[iW];exact hj),lc hj]
theorem LJ(hx:x.length=l.length):sbR (rm l) (λj=>sgn (x.getD j 0).num=0) (λj=>rC (l.getD j 0-f*x.getD j 0)) l.length=rm (Gt f x l):=by
 refine uY (by rw[jW,dG,dG,uZ hx]) λj hj=>?_
 rw[jW,dG] at hj
 rw[Af hj (by rw[dG];exact Nat.le_refl _),jk (l:=Gt f x l) (by rw[uZ hx];exact hj),Ah hx hj,jk (l:=l) hj]
 split
 ·rename_i h0
  have:(x.getD j 0).num=0:=by unfold sgn at h0;repeat' split at h0<;>omega
  rw[Rat.num_eq_zero.1 this,Rat.mul_zero,Rat.sub_eq_add_neg,Rat.neg_zero,Rat.add_zero]
 ·rfl
end Go.Proofs.YtgmpdplpodemaaaGreatDoor
set_option maxHeartbeats 4000000
namespace Go.Proofs.YtgmpdplpodemaaaGreatDoor
open Go Go.Sy Go.Bp Go.Lm Go.Rt Go.Sx
variable {n N k i j m r s w W:Nat} {l x:List Rat} {p q f:Rat} {T:Tab}
theorem u6(h:smT T=true)(hr:r<T.rows.length)(hj:j<(T.rows.getD r []).length):Sm (at2 T.rows r j):=by
 unfold smT at h
 rw[List.all_eq_true] at h
 have h1:=h (T.rows.getD r []) (by rw[List.getD_eq_getElem?_getD,List.getElem?_eq_getElem hr];exact List.getElem_mem hr)
 rw[List.all_eq_true] at h1
 refine gp (h1 _ ?_)
 unfold at2
 rw[List.getD_eq_getElem?_getD (l:=T.rows.getD r []),List.getElem?_eq_getElem hj]
 exact List.getElem_mem hj
theorem LP(h:smP T i k=true)(hr:r<T.rows.length)(hj:j<(T.rows.getD i []).length):Sm (at2 T.rows r k*(at2 T.rows i j/at2 T.rows i k)):=by
 unfold smP at h
 rw[List.all_eq_true] at h
 have h1:=h (T.rows.getD r []) (by rw[List.getD_eq_getElem?_getD,List.getElem?_eq_getElem hr];exact List.getElem_mem hr)
 rw[List.all_eq_true] at h1
 have h2:=h1 ((Ag (at2 T.rows i k) (T.rows.getD i [])).getD j 0) (by
  have:j<(Ag (at2 T.rows i k) (T.rows.getD i [])).length:=by rw[iW];exact hj
  rw[List.getD_eq_getElem?_getD (l:=Ag _ _),List.getElem?_eq_getElem this];exact List.getElem_mem this)
 rw[lc hj] at h2
 exact gp h2
theorem Gu:(ji T i k).rows.length=T.rows.length:=by unfold ji;simp
theorem iE(hr:r<T.rows.length):(ji T i k).rows.getD r []=if r=i then Ag (at2 T.rows i k) (T.rows.getD i []) else if at2 T.rows r k=0 then T.rows.getD r [] else Gt (at2 T.rows r k) (Ag (at2 T.rows i k) (T.rows.getD i [])) (T.rows.getD r []):=by
 unfold ji at2
 simp only[List.getD_eq_getElem?_getD,List.getElem?_map,List.getElem?_zipIdx,List.getElem?_eq_getElem hr,Option.map_some,Option.getD_some,Nat.zero_add]
theorem Ul(h1:Sm p)(h2:Sm q)(h0:¬q=0):ACall Tryz.prog 96 [.agg (aa.cells (rC p)),.agg (aa.cells (rC q))] [] 0 (.tup [.agg (aa.cells (rC (p/q))),.val (.int .i64 0)]) []:=by
 have:=divS (lh h1) (lh h2) h0
 rwa [<-mF,<-mF] at this
theorem Ot(h1:Sm p)(h2:Sm q):ACall Tryz.prog 99 [.agg (aa.cells (rC p)),.agg (aa.cells (rC q))] [] 0 (.tup [.agg (aa.cells (rC (p*q))),.val (.int .i64 0)]) []:=by
 have:=mulS (lh h1) (lh h2)
 rwa [<-mF,<-mF] at this
theorem ahj(h1:Sm p)(h2:Sm q):ACall Tryz.prog 137 [.agg (aa.cells (rC p)),.agg (aa.cells (rC q))] [] 0 (.tup [.agg (aa.cells (rC (p-q))),.val (.int .i64 0)]) []:=by
 have:=subS (lh h1) (lh h2)
 rwa [<-mF,<-mF] at this
theorem ahk(h1:Sm p)(h2:Sm q):ACall Tryz.prog 196 [.agg (aa.cells (rC p)),.agg (aa.cells (rC q))] [] 0 (.tup [.agg (aa.cells (rC (p+q))),.val (.int .i64 0)]) []:=by
 have:=addS (lh h1) (lh h2)
 rwa [<-mF,<-mF] at this
theorem Z8(h1:Sm p)(h2:Sm q):ACall Tryz.prog 141 [.agg (aa.cells (rC p)),.agg (aa.cells (rC q))] [] 0 (.tup [.val (.int .i64 (fE (p.num*q.den) (q.num*p.den))),.val (.int .i64 0)]) []:=by
 have:=cmpS (lh h1) (lh h2)
 rwa [<-mF,<-mF] at this
def rwT(T:Tab)(r:Nat):List RV:=rm (T.rows.getD r [])
def biT(T:Tab):List Int:=T.basis.map λ(x:Nat)=>(x:Int)
theorem LQ:biT (ji T i k)=(biT T).set i (k:Int):=by unfold biT ji;simp[List.map_set]
theorem LU:sgn p.num=0↔p=0:=by
 rw[<-Rat.num_eq_zero]
 unfold sgn
 repeat' split
 all_goals omega
theorem Z9:0<p↔0<p.num:=by
 rw[DD]
 show(0:Int)*p.den<p.num*((1:Nat):Int)↔_
 rw[Int.zero_mul,Int.natCast_one,Int.mul_one]
theorem neg_num:p<0↔p.num<0:=by
 rw[DD]
 show p.num*((1:Nat):Int)<(0:Int)*p.den↔_
 rw[Int.zero_mul,Int.natCast_one,Int.mul_one]
theorem aaa{v:Int}:sgn v<0↔v<0:=by unfold sgn;repeat' split<;>omega
theorem oK:sgn p.num<=0↔p<=0:=by
 rw[<-Rat.not_lt,Z9]
 unfold sgn
 repeat' split
 all_goals omega
theorem ahl:(rC p).num.neg=decide (p.num<0):=rfl
theorem iX:(0<fE (p.num*q.den) (q.num*p.den)↔q<p)/\(fE (p.num*q.den) (q.num*p.den)=0↔p=q)/\(fE (p.num*q.den) (q.num*p.den)<0↔p<q):=by
 have h1:=DD (p:=p) (q:=q)
 have h2:=DD (p:=q) (q:=p)
 have h3:p=q↔p.num*q.den=q.num*p.den:=by
  constructor
  ·intro h;rw[h]
  ·intro h
   rcases Rat.le_total (a:=p) (b:=q) with a|a
   ·exact Rat.le_antisymm a (Rat.not_lt.1 λhc=>by have:=h1.1 hc;omega)
   ·exact Rat.le_antisymm (Rat.not_lt.1 λhc=>by have:=h2.1 hc;omega) a
 unfold fE
 rw[h1,h2,h3]
 repeat' split
 all_goals omega
end Go.Proofs.YtgmpdplpodemaaaGreatDoor
namespace Go.Proofs.YtgmpdplpodemaaaGreatDoor
open Go Go.Sy Go.Bp Go.Lm Go.Rt Go.Sx
variable {n N k i j m r s w W:Nat} {l x:List Rat} {p q f:Rat} {T:Tab}
theorem ql{a b:List Rat}:rm (a++b)=rm a++rm b:=List.map_append
theorem ahm:rm (l.set j p)=(rm l).set j (rC p):=List.map_set
theorem Um:rm (List.replicate w p)=List.replicate w (rC p):=List.map_replicate
theorem xU:rm (l.take j)=(rm l).take j:=List.map_take
theorem LV:rm (l.drop j)=(rm l).drop j:=List.map_drop
def mxA(A:List (List Rat)):List RL:=A.map λl=>⟨false,rm l⟩
theorem u7{A:List (List Rat)}:(mxA A).length=A.length:=List.length_map _
theorem lK{A:List (List Rat)}(h:i<A.length):(mxA A).getD i default=⟨false,rm (A.getD i [])⟩:=by
 unfold mxA
 rw[List.getD_eq_getElem?_getD,List.getElem?_map,List.getElem?_eq_getElem h,List.getD_eq_getElem?_getD,List.getElem?_eq_getElem h];rfl
theorem LX{A:List (List Rat)} {B C:List Rat}(h:i<A.length):(aW A B C).rows.getD i []=A.getD i []++Sx.one1 B.length i++[B.getD i 0]:=by
 unfold aW
 dsimp only
 rw[List.getD_eq_getElem?_getD,List.getElem?_append_left (by simpa using h),List.getElem?_map,List.getElem?_zipIdx,List.getElem?_eq_getElem h,List.getD_eq_getElem?_getD (l:=A),List.getElem?_eq_getElem h]
 simp
theorem Gv{A:List (List Rat)} {B C:List Rat}:(aW A B C).rows.getD A.length []=C.map (λc=> -c)++List.replicate (B.length+1) 0:=by
 unfold aW
 dsimp only
 rw[List.getD_eq_getElem?_getD,List.getElem?_append_right (by simp)]
 simp
def xvF(T:Tab)(w:Nat):Nat->List Rat
 |0=>List.replicate w 0
 |i+1=>(xvF T w i).set (T.basis.getD i 0) (at2 T.rows i w)
theorem aab:(xvF T w i).length=w:=by
 induction i with
 |zero=>exact List.length_replicate
 |succ i ih=>rw[xvF,List.length_set,ih]
def Ai(m n:Nat)(T:Tab):Rat:=at2 T.rows m (n+m)
def Aj(m n:Nat)(T:Tab):List Rat:=(xvF T (n+m) m).take n
def Ak(m n:Nat)(T:Tab):List Rat:=((T.rows.getD m []).drop n).take m
end Go.Proofs.YtgmpdplpodemaaaGreatDoor
namespace Go.Sx
open Go Go.Sy Go.Bp Go.Rt Go.Proofs.YtgmpdplpodemaaaGreatDoor
variable {i j k m n S N:Nat} {wr:List Nat} {ks:List Nat} {f g:Nat->Rat} {T:Tab} {ld:Rat}
def wq(wr:List Nat)(i k:Nat):Rat:=if bit (wr.getD k default) i then 1 else 0
def mxF(wr:List Nat)(m:Nat):List (List Rat):=(List.range m).map λi=>(List.range wr.length).map λk=>wq wr i k
theorem rz:(mxF wr m).length=m:=by unfold mxF;simp
theorem LY(h:i<m):(mxF wr m).getD i []=(List.range wr.length).map λk=>wq wr i k:=by
 unfold mxF
 rw[List.getD_eq_getElem?_getD,List.getElem?_map,List.getElem?_range h];rfl
theorem DV(h:i<m):((mxF wr m).getD i []).length=wr.length:=by rw[LY h];simp
theorem ahn(h:i<m)(hk:k<wr.length):((mxF wr m).getD i []).getD k 0=wq wr i k:=by
 rw[LY h,List.getD_eq_getElem?_getD,List.getElem?_map,List.getElem?_range hk];rfl
theorem ajW:wq wr i k=0\/wq wr i k=1:=by unfold wq;split<;>simp
def onF(n:Nat):List Rat:=List.replicate n 1
theorem kS:(onF n).length=n:=List.length_replicate
theorem ve(h:j<n):(onF n).getD j 0=1:=by unfold onF;rw[List.getD_eq_getElem?_getD,List.getElem?_replicate,if_pos h];rfl
def T0F(wr:List Nat)(m:Nat):Tab:=aW (mxF wr m) (onF m) (onF wr.length)
def qm(f:Nat->Rat):Nat->Rat
 |0=>0
 |j+1=>qm f j+f j
def xk(f:Nat->Rat):Nat->Rat
 |0=>0
 |i+1=>if xk f i<f i then f i else xk f i
def wH(f g:Nat->Rat)(n:Nat):Bool:=(List.range n).all λj=>smB (f j)&&(smB (g j)&&(smB (f j*g j)&&smB (qm (λi=>f i*g i) (j+1))))
theorem sm0:Sm 0:=gp (by decide+kernel)
theorem sm1:Sm 1:=gp (by decide+kernel)
theorem mK(h:wH f g n=true)(hj:j<n):Sm (f j)/\Sm (g j)/\Sm (f j*g j):=by
 unfold wH at h
 simp only[List.all_eq_true,List.mem_range,Bool.and_eq_true] at h
 have:=h j hj
 exact⟨gp this.1,gp this.2.1,gp this.2.2.1⟩
theorem Al(h:wH f g n=true)(hj:j<=n):Sm (qm (λi=>f i*g i) j):=by
 cases j with
 |zero=>exact sm0
 |succ j=>
  unfold wH at h
  simp only[List.all_eq_true,List.mem_range,Bool.and_eq_true] at h
  exact gp (h j omgz).2.2.2
def ksF(x:Nat->Rat)(n:Nat):List Nat:=(List.range n).filter λk=>decide (0<x k)
theorem ajX{x:Nat->Rat}:ksF x (n+1)=if 0<x n then ksF x n++[n] else ksF x n:=by
 unfold ksF
 rw[List.range_succ,List.filter_append]
 by_cases h:0<x n
 ·rw[if_pos h];simp[h]
 ·rw[if_neg h];simp[h]
theorem LZ{x:Nat->Rat}(h:i<(ksF x n).length):(ksF x n).getD i 0<n/\0<x ((ksF x n).getD i 0):=by
 have:(ksF x n).getD i 0∈ksF x n:=by rw[List.getD_eq_getElem?_getD,List.getElem?_eq_getElem h];exact List.getElem_mem h
 unfold ksF at this
 rw[List.mem_filter,List.mem_range,decide_eq_true_eq] at this
 exact this
theorem aac{x:Nat->Rat}(h:i<j)(hj:j<(ksF x n).length):(ksF x n).getD i 0<(ksF x n).getD j 0:=by
 have hp:(ksF x n).Pairwise (· < ·):=List.Pairwise.filter _ List.pairwise_lt_range
 rw[List.getD_eq_getElem?_getD,List.getD_eq_getElem?_getD,List.getElem?_eq_getElem hj,List.getElem?_eq_getElem omgz]
 exact List.pairwise_iff_getElem.1 hp i j omgz hj h
def ldF(m n:Nat)(T:Tab):Rat:=1/Ai m n T
def shF(m n:Nat)(T:Tab)(k:Nat):Rat:=(Aj m n T).getD k 0*ldF m n T
def prF(m n:Nat)(T:Tab)(i:Nat):Rat:=(Ak m n T).getD i 0*ldF m n T
def Ch(m n:Nat)(T:Tab):Bool:=
 decide (¬Ai m n T=0)&&(smB (Ai m n T)&&(smB (ldF m n T)&&((List.range n).all (λk=>smB ((Aj m n T).getD k 0)&&smB (shF m n T k))&&((List.range m).all (λi=>smB ((Ak m n T).getD i 0)&&smB (prF m n T i))&&decide (0<(ksF (shF m n T) n).length)))))
structure GO(m n:Nat)(T:Tab):Prop where
 v0:¬Ai m n T=0
 v:Sm (Ai m n T)
 l:Sm (ldF m n T)
 x:∀k,k<n->Sm ((Aj m n T).getD k 0)/\Sm (shF m n T k)
 y:∀i,i<m->Sm ((Ak m n T).getD i 0)/\Sm (prF m n T i)
 N:0<(ksF (shF m n T) n).length
theorem GO.of(h:Ch m n T=true):GO m n T:=by
 unfold Ch at h
 simp only[Bool.and_eq_true,decide_eq_true_eq,List.all_eq_true,List.mem_range] at h
 obtain⟨h1,h2,h3,h4,h5,h6⟩:=h
 exact⟨h1,gp h2,gp h3,λk hk=>⟨gp (h4 k hk).1,gp (h4 k hk).2⟩,λk hk=>⟨gp (h5 k hk).1,gp (h5 k hk).2⟩,h6⟩
def ksO(m n:Nat)(T:Tab):List Nat:=ksF (shF m n T) n
def paF(m n:Nat)(T:Tab)(j:Nat):Rat:=shF m n T ((ksO m n T).getD j 0)
def lsF(wr:List Nat)(m:Nat)(T:Tab)(i:Nat):Rat:=qm (λj=>paF m wr.length T j*wq wr i ((ksO m wr.length T).getD j 0)) (ksO m wr.length T).length/1
def Ci(wr:List Nat)(m:Nat)(T:Tab):Bool:=
 wH (paF m wr.length T) (λ_=>1) (ksO m wr.length T).length&&(decide (qm (λj=>paF m wr.length T j*1) (ksO m wr.length T).length=1)
  &&((List.range m).all (λi=>wH (paF m wr.length T) (λj=>wq wr i ((ksO m wr.length T).getD j 0)) (ksO m wr.length T).length&&(smB (lsF wr m T i)&&smB (xk (lsF wr m T) i)))&&(decide (xk (lsF wr m T) m=ldF m wr.length T)
  &&((List.range m).all (λi=>decide (0<=prF m wr.length T i))&&(wH (prF m wr.length T) (λ_=>1) m&&(decide (qm (λj=>prF m wr.length T j*1) m=1)
  &&(List.range wr.length).all (λk=>wH (prF m wr.length T) (λi=>wq wr i k) m&&decide (ldF m wr.length T<=qm (λi=>prF m wr.length T i*wq wr i k) m))))))))
structure GC(wr:List Nat)(m:Nat)(T:Tab):Prop where
 p:wH (paF m wr.length T) (λ_=>1) (ksO m wr.length T).length=true
 p1:qm (λj=>paF m wr.length T j*1) (ksO m wr.length T).length=1
 s:∀i,i<m->wH (paF m wr.length T) (λj=>wq wr i ((ksO m wr.length T).getD j 0)) (ksO m wr.length T).length=true/\Sm (lsF wr m T i)/\Sm (xk (lsF wr m T) i)
 mx:xk (lsF wr m T) m=ldF m wr.length T
 y0:∀i,i<m->0<=prF m wr.length T i
 y:wH (prF m wr.length T) (λ_=>1) m=true
 y1:qm (λj=>prF m wr.length T j*1) m=1
 w:∀k,k<wr.length->wH (prF m wr.length T) (λi=>wq wr i k) m=true/\ldF m wr.length T<=qm (λi=>prF m wr.length T i*wq wr i k) m
theorem GC.of(h:Ci wr m T=true):GC wr m T:=by
 unfold Ci at h
 simp only[Bool.and_eq_true,decide_eq_true_eq,List.all_eq_true,List.mem_range] at h
 obtain⟨h1,h2,h3,h4,h5,h6,h7,h8⟩:=h
 exact⟨h1,h2,λi hi=>⟨(h3 i hi).1,gp (h3 i hi).2.1,gp (h3 i hi).2.2⟩,h4,h5,h6,h7,h8⟩
theorem aho:nH 3 3 (T0F [3,5,6] 3) 3=true:=by decide+kernel
theorem ahp:Ch 3 3 (TT 3 3 (T0F [3,5,6] 3) 3)=true:=by decide+kernel
theorem ahq:Ci [3,5,6] 3 (TT 3 3 (T0F [3,5,6] 3) 3)=true:=by decide+kernel
theorem ahr:ldF 3 3 (TT 3 3 (T0F [3,5,6] 3) 3)=2/3:=by decide+kernel
end Go.Sx
namespace Go.Proofs.YtgmpdplpodemaaaGreatDoor
open Go Go.Sy Go.Bp Go.Lm Go.Rt Go.Sx
attribute [local irreducible] AO AL AC OpT ACall Ends DGo aK Thn Blk Nxt
variable {n N k i j m:Nat} {p q:Rat} {wr:List Nat}
theorem wh0:ACall Tryz.prog 97 [.val (.int .i64 0)] [] 0 (.agg (aa.cells (rC 0))) []:=by
 have h:=Gd (v:=0) (by decide)
 rwa [show((0:Int):Rat)=0 from rfl] at h
theorem wh1:ACall Tryz.prog 97 [.val (.int .i64 1)] [] 0 (.agg (aa.cells (rC 1))) []:=by
 have h:=Gd (v:=1) (by decide)
 rwa [show((1:Int):Rat)=1 from rfl] at h
theorem oN(h:Sm p):ACall Tryz.prog 102 [.agg (aa.cells (rC p))] [] 0 (.val (.bool true)) []:=by
 rw[mF];exact jU (ajS h)
theorem vg(h1:Sm p)(h2:Sm q):ACall Tryz.prog 100 [.agg (aa.cells (rC p)),.agg (aa.cells (rC q))] [] 0 (.val (.int .i64 (fE (p.num*q.den) (q.num*p.den)))) []:=Bg (Z8 h1 h2)
theorem JI(h1:Sm p)(h2:Sm q)(h:q<=p):ACall Tryz.prog 105 [.agg (aa.cells (rC p)),.agg (aa.cells (rC q))] [] 0 (.val (.bool true)) []:=by
 have:=Gf (Z8 h1 h2)
 rwa [decide_eq_true (Int.not_lt.1 λhc=>Rat.not_lt.2 h ((iX (p:=p) (q:=q)).2.2.1 hc))] at this
structure GW(wr:List Nat)(m:Nat):Prop where
 n0:0<wr.length
 n:wr.length<=400
 m1:1<=m
 m2:m<=12
 v:oG wr=0
 va:oG [wr.getD 0 default]=0
 a0:¬wr.getD 0 default%65536=0
 s:U (sor (gW [wr.getD 0 default] 1) (gW wr wr.length)%65536/2^m)=0
 ne:∀i,i<wr.length->∀j,j<i->¬wr.getD j default%65536=wr.getD i default%65536
theorem ajY:GW [3,5,6] 3:=⟨by decide,by decide,by decide,by decide,by decide,by decide,by decide,by decide,by decide⟩
theorem onC(h:j<m):(rm (onF m)).getD j default=rC 1:=by rw[jk (by rw[kS];exact h),ve h]
theorem onL:(rm (onF m)).length=m:=by rw[dG,kS]
theorem nwC(g:GW wr m):ACall Tryz.prog 95 [.isl false [.val (.int .u16 (U (wr.getD 0 default)))] 1,.isl false (cX wr) wr.length,.agg (aa.cells (rC 0)),.isl false (cR (rm (onF m))) m] [] 0 (.tup [.pt 0 0,.val (.int .i64 0)]) [.cells (wkA false (wr.getD 0 default) wr wr.length (rC 0) (rC 1) (rm (onF m)) m) 202]:=by
 have gm:=g.m2
 have gn:=g.n
 have c1:=wE (F:=135) (z:=false) (xs:=rm (onF m)) (n:=m) (λ_=>false) onL omgz (λj hj=>by rw[onC hj];exact ahg (oN sm1))
 rw[show(rm (onF m)).any (λ_=>false)=false by simp] at c1
 have c2:=Oj (F:=136) (K:=aa.cells (rC 0)) (z:=false) (xs:=rm (onF m)) (n:=m) (λ_=>false) onL omgz (λj hj=>by rw[onC hj];exact ahh (by decide+kernel) (vg sm1 sm0))
 rw[show(rm (onF m)).any (λ_=>false)=false by simp] at c2
 have v1:=lW (z:=false) (xs:=[wr.getD 0 default]) (n:=1) rfl omgz
 have v2:=lW (z:=false) (xs:=wr) (n:=wr.length) rfl gn
 rw[g.va] at v1;rw[g.v] at v2
 exact DT (sr:=gW [wr.getD 0 default] 1) (sw:=gW wr wr.length) (c0:=fE ((0:Rat).num*(0:Rat).den) ((0:Rat).num*(0:Rat).den)) (c1:=fE ((0:Rat).num*(1:Rat).den) ((1:Rat).num*(0:Rat).den)) g.m1 gm (by decide+kernel) (by decide+kernel) g.s
  (Ol rfl g.n0 omgz g.a0 g.a0 v1 v2) (oN sm0) c1 wh0 wh1 (vg sm0 sm0) (vg sm0 sm1) (mE (z:=false) (xs:=[wr.getD 0 default]) (n:=1) rfl omgz) (mE (z:=false) (xs:=wr) (n:=wr.length) rfl omgz) c2 (by
    have:=ahj sm1 sm0
    rwa [show(1:Rat)-0=1 from by decide+kernel] at this)
theorem wtC(g:GW wr m)(hi:i<m):ACall Tryz.prog 153 [.ipt (wkA false (wr.getD 0 default) wr wr.length (rC 0) (rC 1) (rm (onF m)) m) 0,.val (.int .u16 (U (wr.getD 0 default))),.val (.int .u16 (U (wr.getD k default))),.val (.int .i64 i)] [] 0 (.agg (aa.cells (rC (wq wr i k)))) []:=by
 have gm:=g.m2
 have:=Gq (cz:=false) (a:=wr.getD 0 default) (wr:=wr) (n:=wr.length) (F:=rC 0) (R:=rC 1) (cap:=rm (onF m)) (m:=m) (r:=wr.getD 0 default) (s:=wr.getD k default) (i:=i) (x:=bit (wr.getD 0 default) i) (y:=bit (wr.getD k default) i) omgz rfl rfl wh1 wh0
 rwa [show wtV (rC 1) (rC 0) (rC 0) (rC 1) (bit (wr.getD 0 default) i) (bit (wr.getD k default) i)=rC (wq wr i k) by
  unfold wtV wq
  cases bit (wr.getD 0 default) i<;>cases bit (wr.getD k default) i<;>rfl] at this
theorem aai{wv:Nat->Nat->RV}:rwv wv i k=(List.range k).map (wv i):=by
 induction k with
 |zero=>rfl
 |succ k ih=>rw[rwv,ih,List.range_succ,List.map_append];rfl
theorem aaj{wv:Nat->Nat->RV}:rws wv n i=(List.range i).map λi=>(⟨false,rwv wv i n⟩:RL):=by
 induction i with
 |zero=>rfl
 |succ k ih=>rw[rws,ih,List.range_succ,List.map_append];rfl
theorem Ou{X:RV}:iJ X n=List.replicate n X:=by
 induction n with
 |zero=>rfl
 |succ n ih=>rw[iJ,ih,List.replicate_succ']
theorem ahu:rws (λi k=>rC (wq wr i k)) wr.length m=mxA (mxF wr m):=by
 rw[aaj]
 unfold mxA mxF
 rw[List.map_map]
 refine List.map_congr_left λi _=>?_
 rw[aai]
 show _=(⟨false,rm _⟩:RL)
 unfold rm
 rw[List.map_map];rfl
theorem DY:iJ (rC 1) n=rm (onF n):=by rw[Ou];unfold onF;rw[Um]
theorem aak(h:q=0\/q=1):ACall Tryz.prog 201 [.agg (aa.cells (rC q))] [] 0 (.val (.bool true)) []:=by
 obtain⟨s,hs,hi⟩:=FZ (u:=1) (by decide) (by decide)
 have e1:dgs 1=1:=by decide
 rw[e1] at hs
 have f1:=Uq (x:=1) (s:=s) omgz omgz (by decide) (by decide) (Tk (z:=false) (v:=1) (DK sm1).1) hi
 rcases h with rfl|rfl
 ·exact Am (z:=true) (l1:=[]) (n1:=0) (z':=false) (l2:=[1]) (n2:=1) (ng:=false) (s:=⟨#[48]⟩) (s2:=s) (by decide) omgz (Uo (Tk (z:=true) (v:=0) (DK sm0).1)) f1
 ·exact Am (z:=false) (l1:=[1]) (n1:=1) (z':=false) (l2:=[1]) (n2:=1) (ng:=false) (s:=s) (s2:=s) omgz omgz f1 f1
theorem sm01(h:q=0\/q=1):Sm q:=by
 rcases h with rfl|rfl
 ·exact sm0
 ·exact sm1
def nuL(wr:List Nat)(m:Nat):List RL:=mxA (mxF wr m)++[⟨false,rm (onF m)⟩,⟨false,rm (onF wr.length)⟩]
theorem L6:(nuL wr m).length=m+2:=by unfold nuL;rw[List.length_append,u7,rz];rfl
theorem DZ(hi:i<m+2):∃l:List Rat,(nuL wr m).getD i default=⟨false,rm l⟩/\(l.length=m\/l.length=wr.length)/\∀j,j<l.length->l.getD j 0=0\/l.getD j 0=1:=by
 have hl:(mxA (mxF wr m)).length=m:=by rw[u7,rz]
 by_cases h:i<m
 ·refine⟨(mxF wr m).getD i [],?_,.inr (DV h),λj hj=>?_⟩
  ·unfold nuL
   rw[List.getD_eq_getElem?_getD,List.getElem?_append_left omgz,<-List.getD_eq_getElem?_getD,lK (by rw[rz];exact h)]
  ·rw[DV h] at hj;rw[ahn h hj];exact ajW
 ·by_cases h2:i=m
  ·refine⟨onF m,?_,.inl kS,λj hj=> .inr (ve (by rw[kS] at hj;exact hj))⟩
   unfold nuL
   rw[List.getD_eq_getElem?_getD,List.getElem?_append_right omgz,hl,h2,Nat.sub_self];rfl
  ·refine⟨onF wr.length,?_,.inr kS,λj hj=> .inr (ve (by rw[kS] at hj;exact hj))⟩
   unfold nuL
   rw[List.getD_eq_getElem?_getD,List.getElem?_append_right omgz,hl,show i-m=1 by omega];rfl
theorem D5(g:GW wr m):ACall Tryz.prog 127 [.agg [.isl false (cX (mxA (mxF wr m))) m,.isl false (cR (rm (onF m))) m,.isl false (cR (rm (onF wr.length))) wr.length]] [] 0 (.val (.int .i64 0)) []:=by
 have gm:=g.m2
 have gn:=g.n
 have gn0:=g.n0
 have gm1:=g.m1
 have hA:(mxA (mxF wr m)).length=m:=by rw[u7,rz]
 have c1:=Us (F:=166) (c:=wr.length) (z:=false) (rs:=mxA (mxF wr m)) (n:=m) (λt=> !decide ((t.l.length:Int)=(wr.length:Int))) hA omgz (λt=>ahs)
 rw[show(mxA (mxF wr m)).any (λt=> !decide ((t.l.length:Int)=(wr.length:Int)))=false by
  rw[List.any_eq_false]
  intro t ht
  unfold mxA at ht
  obtain⟨l,hl,rfl⟩:=List.mem_map.1 ht
  unfold mxF at hl
  obtain⟨i,hi,rfl⟩:=List.mem_map.1 hl
  simp[dG]] at c1
 have c2:=wE (F:=169) (z:=false) (xs:=rm (onF m)) (n:=m) (λ_=>false) onL omgz (λj hj=>by
  rw[onC hj]
  have:=aht (jV sm1)
  rwa [show decide (sgn (1:Rat).num<0)=false by decide+kernel] at this)
 rw[show(rm (onF m)).any (λ_=>false)=false by simp] at c2
 have nu:=DX (rs:=nuL wr m) (n:=m+2) L6 omgz (λi hi=>by
  obtain⟨l,e,hl,_⟩:=DZ (wr:=wr) hi
  rw[e];show(rm l).length<=1000;rw[dG];omega)
  (λi j hi hj=>by
    obtain⟨l,e,hl,h⟩:=DZ (wr:=wr) hi
    rw[e] at hj⊢
    have hj:j<l.length:=by have:=hj;rwa [show(⟨false,rm l⟩:RL).l.length=l.length from dG] at this
    show ACall Tryz.prog 102 [.agg (aa.cells ((rm l).getD j default))] [] 0 (.val (.bool true)) []
    rw[jk hj];exact oN (sm01 (h j hj)))
  (λi j hi hj=>by
    obtain⟨l,e,hl,h⟩:=DZ (wr:=wr) hi
    rw[e] at hj⊢
    have hj:j<l.length:=by have:=hj;rwa [show(⟨false,rm l⟩:RL).l.length=l.length from dG] at this
    show ACall Tryz.prog 201 [.agg (aa.cells ((rm l).getD j default))] [] 0 (.val (.bool true)) []
    rw[jk hj];exact aak (h j hj))
 have e:cX (nuL wr m)=cX (mxA (mxF wr m))++[AV.isl false (cR (rm (onF m))) m,.isl false (cR (rm (onF wr.length))) wr.length]:=by
  unfold nuL
  rw[<-Ij]
  congr 1
  show [AV.isl false (cR (rm (onF m))) (rm (onF m)).length,.isl false (cR (rm (onF wr.length))) (rm (onF wr.length)).length]=_
  rw[onL,onL]
 have nu:=ACall.own (e:=103) (args:=[.sl 0 0 (m+2) 1]) (args':=[.isl false (cX (nuL wr m)) (m+2)]) (cs:=cX (nuL wr m)) (by rw[Ik];trivial) (by simp[bP];rw[List.take_of_length_le];rw[zo,L6];exact Nat.le_refl _) (by simp[bnd]) nu
 rw[e] at nu
 exact Gw g.m1 omgz g.n0 gn hA onL onL c1 (Ut hA omgz) nu c2
theorem Uu(g:GW wr m):ACall Tryz.prog 93 [.isl false [.val (.int .u16 (U (wr.getD 0 default)))] 1,.isl false (cX wr) wr.length,.agg (aa.cells (rC 0)),.isl false (cR (rm (onF m))) m] [] 0 (.tup [.agg [.isl false (cX (mxA (mxF wr m))) m,.isl false (cR (rm (onF m))) m,.isl false (cR (rm (onF wr.length))) wr.length],.val (.int .i64 0)]) []:=by
 have gm:=g.m2
 have gn:=g.n
 have hp:=DW (K:=wkA false (wr.getD 0 default) wr wr.length (rC 0) (rC 1) (rm (onF m)) m) (cz:=false) (cap:=rm (onF m)) (m:=m) (n:=wr.length) (P:=prL (wr.getD 0 default) wr wr.length) (ONE:=rC 1) (wv:=λi k=>rC (wq wr i k)) lJ g.n0 omgz onL g.m1 omgz rfl
  (uW rfl g.n0 omgz) (Oi onL omgz) wh1 (λi k hi hk=>by rw[ru hk];exact wtC g hi)
 rw[ahu,DY] at hp
 exact Bi gn g.n0 (nwC g) hp (D5 g)
end Go.Proofs.YtgmpdplpodemaaaGreatDoor
namespace Go.Proofs.YtgmpdplpodemaaaGreatDoor
open Go Go.Sy Go.Bp Go.Dg Go.Sx Go.Rt
variable {n m i j k q S s:Nat} {z x:Ex} {t:Nd} {ns:List Nd} {f g A O xs l:List Nat} {p c:Nat->Bool} {v:Rat} {P:List Nat->Nat->Bool}
def fT:Nat:=2^256*2^256-1
theorem ahv:∀q,q<512->fT.testBit q=true:=by decide+kernel
def srT(i:Nat):Nat:=(2^2^i-1)*2^2^i*(fT/(2^2^(i+1)-1))
theorem aal:∀i,i<9->∀q,q<512->(srT i).testBit q=q.testBit i:=by decide+kernel
def evT(A:List Nat)(t:Nd):Nat:=
 if t.kind=1 then srT t.server.toNat else if t.need=1 then t.k.foldr (λy a=>A.getD y.toNat 0|||a) 0 else t.k.foldr (λy a=>A.getD y.toNat 0&&&a) fT
def okT(t:Nd):Bool:=t.w.isEmpty&&(decide (t.k.length<=20)&&((t.kind==1&&(decide (0<=t.server)&&decide (t.server<9)))||(t.kind==2&&(t.need==1||t.need==(t.k.length:Int)))))
def ruT(A:List Nat):List Nd->List Nat
 |[]=>A
 |t::ns=>ruT (A++[evT A t]) ns
def taX(x:Ex):Nat:=(ruT [] x.nodes).getD x.root.toNat 0
theorem acU:(A.map λa=>a.testBit q).getD k false=(A.getD k 0).testBit q:=by
 rw[List.getD_eq_getElem?_getD,List.getD_eq_getElem?_getD,List.getElem?_map]
 cases A[k]? <;>simp
theorem cnt_any{l:List Bool}:decide ((1:Int)<=(cnt l:Nat))=l.any id:=by
 unfold cnt
 induction l with
 |nil=>rfl
 |cons b l ih=>
  cases b
  ·rw[List.filter_cons_of_neg (by simp),ih];rfl
  ·rw[List.filter_cons_of_pos rfl,List.length_cons];simp;omega
theorem cnt_le{l:List Bool}:cnt l<=l.length:=by unfold cnt;exact List.length_filter_le ..
theorem cnt_all{l:List Bool}:decide ((l.length:Int)<=(cnt l:Nat))=l.all id:=by
 induction l with
 |nil=>rfl
 |cons b l ih=>
  have hl:=cnt_le (l:=l)
  cases b
  ·rw[show cnt (false::l)=cnt l from rfl];simp;omega
  ·rw[show cnt (true::l)=cnt l+1 from rfl,List.length_cons,List.all_cons,<-ih]
   simp
theorem or_T{ks:List Int}:(ks.foldr (λy a=>A.getD y.toNat 0|||a) 0).testBit q=(ks.map λy=>(A.getD y.toNat 0).testBit q).any id:=by
 induction ks with
 |nil=>simp
 |cons y ks ih=>rw[List.foldr_cons,Nat.testBit_or,ih];rfl
theorem ajZ{ks:List Int}(hq:q<512):(ks.foldr (λy a=>A.getD y.toNat 0&&&a) fT).testBit q=(ks.map λy=>(A.getD y.toNat 0).testBit q).all id:=by
 induction ks with
 |nil=>rw[List.foldr_nil,ahv q hq];rfl
 |cons y ks ih=>rw[List.foldr_cons,Nat.testBit_and,ih];rfl
theorem ev_T(hq:q<512)(h:okT t=true):evN (Bc q) (A.map λa=>a.testBit q) t=(evT A t).testBit q:=by
 unfold okT at h
 simp only[Bool.and_eq_true,Bool.or_eq_true,beq_iff_eq,decide_eq_true_eq,List.isEmpty_iff] at h
 obtain⟨hw,_,h|h⟩:=h
 ·obtain⟨h1,h2,h3⟩:=h
  unfold evN evT
  rw[if_pos h1,h1,aal _ omgz _ hq]
  simp[Bc]
 ·obtain⟨h1,h2⟩:=h
  have e:(t.k.map λy=>(A.map λa=>a.testBit q).getD y.toNat false)=t.k.map λy=>(A.getD y.toNat 0).testBit q:=List.map_congr_left λy _=>acU
  unfold evN evT
  rw[if_neg omgz,h1,Fh _ hw,e]
  by_cases h3:t.need=1
  ·rw[if_pos h3,h3,cnt_any,or_T];simp
  ·rw[if_neg h3]
   have h2:=h2.resolve_left h3
   rw[h2,ajZ hq]
   have:=cnt_all (l:=t.k.map λy=>(A.getD y.toNat 0).testBit q)
   rw[List.length_map] at this
   rw[this];simp
theorem ru_T(hq:q<512)(h:∀t∈ns,okT t=true):fZ (Bc q) (A.map λa=>a.testBit q) ns=(ruT A ns).map λa=>a.testBit q:=by
 induction ns generalizing A with
 |nil=>rfl
 |cons t ns ih=>
  rw[fZ,ev_T hq (h t (by simp)),show(A.map λa=>a.testBit q)++[(evT A t).testBit q]=(A++[evT A t]).map λa=>a.testBit q by simp]
  exact ih λt ht=>h t (by simp[ht])
theorem ahw(hq:q<512)(h:∀t∈x.nodes,okT t=true):KH x q=(taX x).testBit q:=by
 show(fZ (Bc (q%65536)) [] x.nodes).getD _ _=_
 rw[Nat.mod_eq_of_lt omgz,show([]:List Bool)=([]:List Nat).map λa=>a.testBit q from rfl,ru_T hq h,acU];rfl
theorem aj0:∀i,i<=xs.length->mC p (mB p xs i) (xs.drop i)=mB p xs xs.length:=by
 intro i hi
 obtain⟨d,hd⟩:∃d,xs.length-i=d:=⟨_,rfl⟩
 induction d generalizing i with
 |zero=>
  have:i=xs.length:=by omega
  subst this;rw[List.drop_length];rfl
 |succ d ih=>
  have hil:i<xs.length:=by omega
  have e:xs.drop i=xs.getD i 0::xs.drop (i+1):=by rw[List.drop_eq_getElem_cons hil];simp[List.getD_eq_getElem?_getD,hil]
  rw[<-ih (i+1) omgz omgz,e,mC]
  congr 1
  rw[mB,Bool.and_comm]
theorem Uv(h:∀y∈l,p y=c y):mC p O l=mC c O l:=by
 induction l generalizing O with
 |nil=>rfl
 |cons y l ih=>rw[mC,mC,h y (by simp)];exact ih λy hy=>h y (by simp[hy])
def frN(n:Nat)(k:Nat->Bool):Bool:=match n with
 |0=>k 0
 |n+1=>k (n+1)
theorem Uw{k:Nat->Bool}:frN n k=k n:=by cases n<;>rfl
def frL:List Nat->(List Nat->Bool)->Bool
 |[],k=>k []
 |x::l,k=>frN x λx=>frL l λl=>k (x::l)
theorem ahx{k:List Nat->Bool}:frL l k=k l:=by
 induction l generalizing k with
 |nil=>rfl
 |cons x l ih=>rw[frL,Uw,ih]
def prZ(f g:List Nat):Ex×Int:=lC mkP (xF f) [xF g,xF g,xF g]
def prS(z:Ex):Nat:=svS z z.nodes.length
def okZ(z:Ex):Bool:=decide (bB z=0)&&(decide (z.nodes.length<=60)&&(z.nodes.all okT&&(decide (aF (prS z) 16<10)&&(decide ((iq (prS z)).length<=600)&&(iq (prS z)).all λy=>decide (y<512)))))
def okW(m:Nat)(A:List Nat):Bool:=decide (0<A.length)&&(decide (A.length<=400)&&(decide (oG A=0)&&(decide (oG [A.getD 0 default]=0)&&(decide (¬A.getD 0 default%65536=0)&&(decide (U (sor (gW [A.getD 0 default] 1) (gW A A.length)%65536/2^m)=0)
 &&(List.range A.length).all λi=>(List.range i).all λj=>decide (¬A.getD j default%65536=A.getD i default%65536))))))
def okL(m:Nat)(A:List Nat)(S:Nat):Bool:=okW m A&&(nH m A.length (T0F A m) S&&(Ch m A.length (TT m A.length (T0F A m) S)&&Ci A m (TT m A.length (T0F A m) S)))
def ldA(m:Nat)(A:List Nat)(S:Nat):Rat:=ldF m A.length (TT m A.length (T0F A m) S)
def s3(f:List Nat):Nat:=if f.length=1\/f=[3,5] then 1 else if f=[1,2,4]\/f=[3,5,6] then 3 else 2
def okP(f g:List Nat)(S:Nat):Bool:=decide ((prZ f g).2=3)||(decide ((prZ f g).2=0)&&(okZ (prZ f g).1&&(frN (taX (prZ f g).1) λT=>frL (mC (λq=>T.testBit q) [] (iq (prS (prZ f g).1))) λA=>okL 9 A S&&decide (ldA 9 A S=ldA 3 f (s3 f)*ldA 3 g (s3 g)))))
def nM(P:List Nat->Nat->Bool):List (List Nat)->List Nat->Bool
 |[],_=>true
 |g::G,s::l=>P g s&&nM P G l
 |_::_,[]=>false
theorem fV{G:List (List Nat)}(h:nM P G l=true):∀g∈G,∃s,P g s=true:=by
 induction G generalizing l with
 |nil=>intro g hg;cases hg
 |cons g G ih=>
  cases l with
  |nil=>cases h
  |cons s l=>
   rw[nM,Bool.and_eq_true] at h
   intro y hy
   rcases List.mem_cons.1 hy with rfl|hy
   ·exact⟨s,h.1⟩
   ·exact ih h.2 y hy
theorem acV:∀f∈FL,FOk 3 f:=by
 have h:∀f∈FL,(∀y∈f,¬y%65536=0)/\f.length<=20/\(f.Pairwise λa b=>bef a b=true)/\(f.Pairwise λa b=>¬jE b a%65536=0)/\(∀m∈f,m<2^3)/\(∀m,m<2^3->(m∈f↔isM (fH f) m=true)):=by decide+kernel
 exact λf hf=>have⟨h1,h2,h3,h4,h5,h6⟩:=h f hf;⟨omgz,h1,h2,⟨h3,h4,h5,h6⟩⟩
theorem acW:∀f∈FL,okL 3 f (s3 f)=true/\smB (ldA 3 f (s3 f))=true:=by decide+kernel
theorem Ux:∀f∈FL,∀g∈FL,smB (ldA 3 f (s3 f)*ldA 3 g (s3 g))=true:=by decide+kernel
end Go.Proofs.YtgmpdplpodemaaaGreatDoor
set_option maxHeartbeats 8000000
namespace Go.Proofs.YtgmpdplpodemaaaGreatDoor
open Go Go.Sy Go.Bp Go.Lm Go.Rt
attribute [local irreducible] AO AL AC OpT ACall Ends DGo aK Thn Blk Nxt
variable {n m N M K:Nat} {x y w:Ex} {f g h:List Nat} {l1 l2:List Int} {z1 z2 z3 zf zg o1 o2:Bool} {A B C D:RV}
theorem L8(haw:ACall Tryz.prog 7 [] [] 0 (.val (.bool true)) [])(s1:ACall Tryz.prog 17 [.isl z1 (cI .u8 l1) n,.val (.int .i64 3)] [] 0 (.tup [.isl zf (cX f) N,.val (.bool o1)]) [])(s2:ACall Tryz.prog 17 [.isl z2 (cI .u8 l2) m,.val (.int .i64 3)] [] 0 (.tup [.isl zg (cX g) M,.val (.bool o2)]) [])
 (ho:(o1&&o2)=false):ACall Tryz.prog 4 [.isl z1 (cI .u8 l1) n,.isl z2 (cI .u8 l2) m] [] 0 (.val (.bool true)) []:=by
 have haw:=PLift.up haw;have s1:=PLift.up s1;have s2:=PLift.up s2
 rcases o1 with _|_<;>rcases o2 with _|_<;>first|(cases ho;done)|skip
 all_goals clear ho
 all_goals refine az Tryz.func4 Tryz.ntmps4 rfl ?_
 all_goals repeat' (first|refine zqN ?_|refine aM s1.down ?_|refine aM s2.down ?_|refine aM haw.down ?_|refine aY ?_|refine aZ ?_|(refine bf ?_ ?_<;>intro hc<;>try exact zqM))
 all_goals exact aB []
theorem ahy(haw:ACall Tryz.prog 7 [] [] 0 (.val (.bool true)) [])(s1:ACall Tryz.prog 17 [.isl z1 (cI .u8 l1) n,.val (.int .i64 3)] [] 0 (.tup [.isl zf (cX f) N,.val (.bool true)]) [])(s2:ACall Tryz.prog 17 [.isl z2 (cI .u8 l2) m,.val (.int .i64 3)] [] 0 (.tup [.isl zg (cX g) M,.val (.bool true)]) [])
 (x1:ACall Tryz.prog 18 [.isl zf (cX f) N] [] 0 (.tup [.agg (aa.cells x),.val (.int .i64 0)]) []) (x2:ACall Tryz.prog 18 [.isl zg (cX g) M] [] 0 (.tup [.agg (aa.cells y),.val (.int .i64 0)]) [])
 (hc:ACall Tryz.prog 19 [.agg (aa.cells x),.sl 0 0 3 2] [.cells (aa.cells y++(aa.cells y++aa.cells y)) 50] 0 (.tup [.agg (aa.cells w),.val (.int .i64 3)]) []):
 ACall Tryz.prog 4 [.isl z1 (cI .u8 l1) n,.isl z2 (cI .u8 l2) m] [] 0 (.val (.bool true)) []:=by
 have haw:=PLift.up haw;have s1:=PLift.up s1;have s2:=PLift.up s2;have x1:=PLift.up x1;have x2:=PLift.up x2;have hc:=PLift.up hc
 simp only[jr,List.cons_append,List.nil_append] at x1 x2 hc
 refine az Tryz.func4 Tryz.ntmps4 rfl ?_
 repeat' (first|refine zqN ?_|((first|refine ay rfl (λK hK=>?_)|refine au (λK hK=>?_));(first|refine ai (f:=17) (dst:=some 27) [] 0 false ?_|refine ai (f:=17) (dst:=some 32) [] 0 false ?_|refine ai (f:=7) [] 0 false ?_|refine ai (f:=18) (dst:=some 48) [] 0 false ?_|refine ai (f:=18) (dst:=some 53) [] 0 false ?_|refine ai (f:=19) [2] 0 false ?_);refine mg ?_;(first|refine⟨_,_,s1.down,?_⟩|refine⟨_,_,s2.down,?_⟩|refine⟨_,_,haw.down,?_⟩|refine⟨_,_,x1.down,?_⟩|refine⟨_,_,x2.down,?_⟩|refine⟨_,_,hc.down,?_⟩);refine jo ?_;apply hK;clear hK K)|refine aY ?_|refine aZ ?_|(refine bf ?_ ?_<;>intro hc<;>try exact zqM))
 all_goals exact aB []
theorem aam(haw:ACall Tryz.prog 7 [] [] 0 (.val (.bool true)) [])(s1:ACall Tryz.prog 17 [.isl z1 (cI .u8 l1) n,.val (.int .i64 3)] [] 0 (.tup [.isl zf (cX f) N,.val (.bool true)]) [])(s2:ACall Tryz.prog 17 [.isl z2 (cI .u8 l2) m,.val (.int .i64 3)] [] 0 (.tup [.isl zg (cX g) M,.val (.bool true)]) [])
 (x1:ACall Tryz.prog 18 [.isl zf (cX f) N] [] 0 (.tup [.agg (aa.cells x),.val (.int .i64 0)]) []) (x2:ACall Tryz.prog 18 [.isl zg (cX g) M] [] 0 (.tup [.agg (aa.cells y),.val (.int .i64 0)]) [])
 (hc:ACall Tryz.prog 19 [.agg (aa.cells x),.sl 0 0 3 2] [.cells (aa.cells y++(aa.cells y++aa.cells y)) 50] 0 (.tup [.agg (aa.cells w),.val (.int .i64 0)]) [])
 (hf:ACall Tryz.prog 20 [.agg (aa.cells w)] [] 0 (.tup [.isl z3 (cX h) K,.val (.int .i64 0)]) []) (hK:0<K) (hK2:K<1000)
 (ld1:ACall Tryz.prog 21 [.isl zf (cX f) N,.val (.int .i64 3)] [] 0 (.tup [.agg (aa.cells A),.val (.int .i64 0)]) []) (ld2:ACall Tryz.prog 21 [.isl zg (cX g) M,.val (.int .i64 3)] [] 0 (.tup [.agg (aa.cells B),.val (.int .i64 0)]) [])
 (ld3:ACall Tryz.prog 21 [.isl z3 (cX h) K,.val (.int .i64 9)] [] 0 (.tup [.agg (aa.cells C),.val (.int .i64 0)]) [])
 (hm:ACall Tryz.prog 22 [.agg (aa.cells A),.agg (aa.cells B)] [] 0 (.tup [.agg (aa.cells D),.val (.int .i64 0)]) []) (he:ACall Tryz.prog 23 [.agg (aa.cells C),.agg (aa.cells D)] [] 0 (.val (.bool true)) []):
 ACall Tryz.prog 4 [.isl z1 (cI .u8 l1) n,.isl z2 (cI .u8 l2) m] [] 0 (.val (.bool true)) []:=by
 have haw:=PLift.up haw;have s1:=PLift.up s1;have s2:=PLift.up s2;have x1:=PLift.up x1;have x2:=PLift.up x2;have hc:=PLift.up hc;have hf:=PLift.up hf;have ld1:=PLift.up ld1;have ld2:=PLift.up ld2;have ld3:=PLift.up ld3;have hm:=PLift.up hm;have he:=PLift.up he
 have hk0:=hK;clear hK
 simp only[jr,ax,List.cons_append,List.nil_append] at x1 x2 hc hf ld1 ld2 ld3 hm he
 refine az Tryz.func4 Tryz.ntmps4 rfl ?_
 repeat' (first|refine zqN ?_|((first|refine ay rfl (λK hK=>?_)|refine au (λK hK=>?_));(first|refine ai (f:=17) (dst:=some 27) [] 0 false ?_|refine ai (f:=17) (dst:=some 32) [] 0 false ?_|refine ai (f:=7) [] 0 false ?_|refine ai (f:=18) (dst:=some 48) [] 0 false ?_|refine ai (f:=18) (dst:=some 53) [] 0 false ?_|refine ai (f:=19) [2] 0 false ?_|refine ai (f:=20) [] 0 false ?_|refine ai (f:=21) (dst:=some 89) [] 0 false ?_|refine ai (f:=21) (dst:=some 94) [] 0 false ?_|refine ai (f:=21) (dst:=some 99) [] 0 false ?_|refine ai (f:=22) [] 0 false ?_|refine ai (f:=23) [] 0 false ?_);refine mg ?_;(first|refine⟨_,_,s1.down,?_⟩|refine⟨_,_,s2.down,?_⟩|refine⟨_,_,haw.down,?_⟩|refine⟨_,_,x1.down,?_⟩|refine⟨_,_,x2.down,?_⟩|refine⟨_,_,hc.down,?_⟩|refine⟨_,_,hf.down,?_⟩|refine⟨_,_,ld1.down,?_⟩|refine⟨_,_,ld2.down,?_⟩|refine⟨_,_,ld3.down,?_⟩|refine⟨_,_,hm.down,?_⟩|refine⟨_,_,he.down,?_⟩);refine jo ?_;apply hK;clear hK K)|refine aY ?_|refine aZ ?_|(refine bf ?_ ?_<;>intro hc<;>try exact zqM))
 all_goals exact aB []
