/- Ld1 Ld2 Ld3 Ld4 LdA. No condition. -/
import Derived.Test.YtgmpdplpodemaaaGreatDoorRr3
import Derived.Test.YtgmpdplpodemaaaGreatDoorTp2
set_option linter.all false
set_option maxHeartbeats 4000000
set_option maxRecDepth 20000
namespace Go.Proofs.YtgmpdplpodemaaaGreatDoor
section
open Go Go.Sy Go.Bp Go.Lm Go.Rt Go.Sx
attribute [local irreducible] AO AL AC OpT ACall Ends DGo aN Thn Blk Nxt
variable {n N k i j m:Nat} {p q:Rat} {wr:List Nat}
theorem wh0:ACall Tryz.prog 97 [.val (.int .i64 0)] [] 0 (.agg (aa.cells (rC 0))) []:=by
 have h:=DV (v:=0) (by decide)
 rwa [show((0:Int):Rat)=0 from rfl] at h
theorem wh1:ACall Tryz.prog 97 [.val (.int .i64 1)] [] 0 (.agg (aa.cells (rC 1))) []:=by
 have h:=DV (v:=1) (by decide)
 rwa [show((1:Int):Rat)=1 from rfl] at h
theorem mW(h:Sm p):ACall Tryz.prog 102 [.agg (aa.cells (rC p))] [] 0 (.val (.bool true)) []:=by
 rw[ma];exact jy (adf h)
theorem sQ(h1:Sm p)(h2:Sm q):ACall Tryz.prog 100 [.agg (aa.cells (rC p)),.agg (aa.cells (rC q))] [] 0 (.val (.int .i64 (eF (p.num*q.den) (q.num*p.den)))) []:=yT (V7 h1 h2)
theorem GL(h1:Sm p)(h2:Sm q)(h:q≤p):ACall Tryz.prog 105 [.agg (aa.cells (rC p)),.agg (aa.cells (rC q))] [] 0 (.val (.bool true)) []:=by
 have:=DW (V7 h1 h2)
 rwa [decide_eq_true (Int.not_lt.1 fun hc=>Rat.not_lt.2 h ((iE (p:=p) (q:=q)).2.2.1 hc))] at this
structure GW(wr:List Nat)(m:Nat):Prop where
 n0:0<wr.length
 n:wr.length≤400
 m1:1≤m
 m2:m≤12
 v:pR wr=0
 va:pR [wr.getD 0 default]=0
 a0:¬wr.getD 0 default%65536=0
 s:U (sor (iH [wr.getD 0 default] 1) (iH wr wr.length)%65536/2^m)=0
 ne:∀i,i<wr.length→∀j,j<i→¬wr.getD j default%65536=wr.getD i default%65536
theorem adl:GW [3,5,6] 3:=⟨by decide,by decide,by decide,by decide,by decide,by decide,by decide,by decide,by decide⟩
theorem onC(h:j<m):(rm (onF m)).getD j default=rC 1:=by rw[jK (by rw[lK];exact h),wK h]
theorem onL:(rm (onF m)).length=m:=by rw[eu,lK]
theorem nwC(g:GW wr m):ACall Tryz.prog 95 [.isl false [.val (.int .u16 (U (wr.getD 0 default)))] 1,.isl false (cX wr) wr.length,.agg (aa.cells (rC 0)),.isl false (cR (rm (onF m))) m] [] 0 (.tup [.pt 0 0,.val (.int .i64 0)]) [.cells (wkA false (wr.getD 0 default) wr wr.length (rC 0) (rC 1) (rm (onF m)) m) 202]:=by
 have gm:=g.m2
 have gn:=g.n
 have c1:=uG (F:=135) (z:=false) (xs:=rm (onF m)) (n:=m) (fun _=>false) onL (by omega) (fun j hj=>by rw[onC hj];exact abg (mW sm1))
 rw[show(rm (onF m)).any (fun _=>false)=false by simp] at c1
 have c2:=Li (F:=136) (K:=aa.cells (rC 0)) (z:=false) (xs:=rm (onF m)) (n:=m) (fun _=>false) onL (by omega) (fun j hj=>by rw[onC hj];exact abh (by decide+kernel) (sQ sm1 sm0))
 rw[show(rm (onF m)).any (fun _=>false)=false by simp] at c2
 have v1:=ky (z:=false) (xs:=[wr.getD 0 default]) (n:=1) rfl (by omega)
 have v2:=ky (z:=false) (xs:=wr) (n:=wr.length) rfl gn
 rw[g.va] at v1;rw[g.v] at v2
 exact Bu (sr:=iH [wr.getD 0 default] 1) (sw:=iH wr wr.length) (c0:=eF ((0:Rat).num*(0:Rat).den) ((0:Rat).num*(0:Rat).den)) (c1:=eF ((0:Rat).num*(1:Rat).den) ((1:Rat).num*(0:Rat).den)) g.m1 gm (by decide+kernel) (by decide+kernel) g.s
  (Lj rfl g.n0 (by omega) g.a0 g.a0 v1 v2) (mW sm0) c1 wh0 wh1 (sQ sm0 sm0) (sQ sm0 sm1) (kN (z:=false) (xs:=[wr.getD 0 default]) (n:=1) rfl (by omega)) (kN (z:=false) (xs:=wr) (n:=wr.length) rfl (by omega)) c2 (by
    have:=V6 sm1 sm0
    rwa [show(1:Rat)-0=1 from by decide+kernel] at this)
theorem wtC(g:GW wr m)(hi:i<m):ACall Tryz.prog 153 [.ipt (wkA false (wr.getD 0 default) wr wr.length (rC 0) (rC 1) (rm (onF m)) m) 0,.val (.int .u16 (U (wr.getD 0 default))),.val (.int .u16 (U (wr.getD k default))),.val (.int .i64 i)] [] 0 (.agg (aa.cells (rC (wq wr i k)))) []:=by
 have gm:=g.m2
 have:=D8 (cz:=false) (a:=wr.getD 0 default) (wr:=wr) (n:=wr.length) (F:=rC 0) (R:=rC 1) (cap:=rm (onF m)) (m:=m) (r:=wr.getD 0 default) (s:=wr.getD k default) (i:=i) (x:=bit (wr.getD 0 default) i) (y:=bit (wr.getD k default) i) (by omega) rfl rfl wh1 wh0
 rwa [show wtV (rC 1) (rC 0) (rC 0) (rC 1) (bit (wr.getD 0 default) i) (bit (wr.getD k default) i)=rC (wq wr i k) by
  unfold wtV wq
  cases bit (wr.getD 0 default) i<;>cases bit (wr.getD k default) i<;>rfl] at this
theorem Ws{wv:Nat→Nat→RV}:rwv wv i k=(List.range k).map (wv i):=by
 induction k with
 |zero=>rfl
 |succ k ih=>rw[rwv,ih,List.range_succ,List.map_append];rfl
theorem Wt{wv:Nat→Nat→RV}:rws wv n i=(List.range i).map fun i=>(⟨false,rwv wv i n⟩:RL):=by
 induction i with
 |zero=>rfl
 |succ k ih=>rw[rws,ih,List.range_succ,List.map_append];rfl
theorem Lt{X:RV}:gX X n=List.replicate n X:=by
 induction n with
 |zero=>rfl
 |succ n ih=>rw[gX,ih,List.replicate_succ']
theorem abv:rws (fun i k=>rC (wq wr i k)) wr.length m=mxA (mxF wr m):=by
 rw[Wt]
 unfold mxA mxF
 rw[List.map_map]
 refine List.map_congr_left fun i _=>?_
 rw[Ws]
 show _=(⟨false,rm _⟩:RL)
 unfold rm
 rw[List.map_map];rfl
theorem Jk:gX (rC 1) n=rm (onF n):=by rw[Lt];unfold onF;rw[Qd]
theorem Wu(h:q=0∨q=1):ACall Tryz.prog 201 [.agg (aa.cells (rC q))] [] 0 (.val (.bool true)) []:=by
 obtain⟨s,hs,hi⟩:=Dx (u:=1) (by decide) (by decide)
 have e1:dgs 1=1:=by decide
 rw[e1] at hs
 have f1:=Qh (x:=1) (s:=s) (by omega) (by omega) (by decide) (by decide) (Pg (z:=false) (v:=1) (Bq sm1).1) hi
 rcases h with rfl|rfl
 ·exact yu (z:=true) (l1:=[]) (n1:=0) (z':=false) (l2:=[1]) (n2:=1) (ng:=false) (s:=⟨#[48]⟩) (s2:=s) (by decide) (by omega) (Qg (Pg (z:=true) (v:=0) (Bq sm0).1)) f1
 ·exact yu (z:=false) (l1:=[1]) (n1:=1) (z':=false) (l2:=[1]) (n2:=1) (ng:=false) (s:=s) (s2:=s) (by omega) (by omega) f1 f1
theorem sm01(h:q=0∨q=1):Sm q:=by
 rcases h with rfl|rfl
 ·exact sm0
 ·exact sm1
def nuL(wr:List Nat)(m:Nat):List RL:=mxA (mxF wr m)++[⟨false,rm (onF m)⟩,⟨false,rm (onF wr.length)⟩]
theorem Jl:(nuL wr m).length=m+2:=by unfold nuL;rw[List.length_append,wJ,sP];rfl
theorem BH(hi:i<m+2):∃l:List Rat,(nuL wr m).getD i default=⟨false,rm l⟩∧(l.length=m∨l.length=wr.length)∧∀j,j<l.length→l.getD j 0=0∨l.getD j 0=1:=by
 have hl:(mxA (mxF wr m)).length=m:=by rw[wJ,sP]
 by_cases h:i<m
 ·refine⟨(mxF wr m).getD i [],?_,.inr (GK h),fun j hj=>?_⟩
  ·unfold nuL
   rw[List.getD_eq_getElem?_getD,List.getElem?_append_left (by omega),←List.getD_eq_getElem?_getD,sO (by rw[sP];exact h)]
  ·rw[GK h] at hj;rw[abn h hj];exact adj
 ·by_cases h2:i=m
  ·refine⟨onF m,?_,.inl lK,fun j hj=> .inr (wK (by rw[lK] at hj;exact hj))⟩
   unfold nuL
   rw[List.getD_eq_getElem?_getD,List.getElem?_append_right (by omega),hl,h2,Nat.sub_self];rfl
  ·refine⟨onF wr.length,?_,.inr lK,fun j hj=> .inr (wK (by rw[lK] at hj;exact hj))⟩
   unfold nuL
   rw[List.getD_eq_getElem?_getD,List.getElem?_append_right (by omega),hl,show i-m=1 by omega];rfl
theorem Jm(g:GW wr m):ACall Tryz.prog 127 [.agg [.isl false (cX (mxA (mxF wr m))) m,.isl false (cR (rm (onF m))) m,.isl false (cR (rm (onF wr.length))) wr.length]] [] 0 (.val (.int .i64 0)) []:=by
 have gm:=g.m2
 have gn:=g.n
 have gn0:=g.n0
 have gm1:=g.m1
 have hA:(mxA (mxF wr m)).length=m:=by rw[wJ,sP]
 have c1:=Qj (F:=166) (c:=wr.length) (z:=false) (rs:=mxA (mxF wr m)) (n:=m) (fun t=> !decide ((t.l.length:Int)=(wr.length:Int))) hA (by omega) (fun t=>abt)
 rw[show(mxA (mxF wr m)).any (fun t=> !decide ((t.l.length:Int)=(wr.length:Int)))=false by
  rw[List.any_eq_false]
  intro t ht
  unfold mxA at ht
  obtain⟨l,hl,rfl⟩:=List.mem_map.1 ht
  unfold mxF at hl
  obtain⟨i,hi,rfl⟩:=List.mem_map.1 hl
  simp[eu]] at c1
 have c2:=uG (F:=169) (z:=false) (xs:=rm (onF m)) (n:=m) (fun _=>false) onL (by omega) (fun j hj=>by
  rw[onC hj]
  have:=abu (iD sm1)
  rwa [show decide (sgn (1:Rat).num<0)=false by decide+kernel] at this)
 rw[show(rm (onF m)).any (fun _=>false)=false by simp] at c2
 have nu:=BG (rs:=nuL wr m) (n:=m+2) Jl (by omega) (fun i hi=>by
  obtain⟨l,e,hl,_⟩:=BH (wr:=wr) hi
  rw[e];show(rm l).length≤1000;rw[eu];omega)
  (fun i j hi hj=>by
    obtain⟨l,e,hl,h⟩:=BH (wr:=wr) hi
    rw[e] at hj⊢
    have hj:j<l.length:=by have:=hj;rwa [show(⟨false,rm l⟩:RL).l.length=l.length from eu] at this
    show ACall Tryz.prog 102 [.agg (aa.cells ((rm l).getD j default))] [] 0 (.val (.bool true)) []
    rw[jK hj];exact mW (sm01 (h j hj)))
  (fun i j hi hj=>by
    obtain⟨l,e,hl,h⟩:=BH (wr:=wr) hi
    rw[e] at hj⊢
    have hj:j<l.length:=by have:=hj;rwa [show(⟨false,rm l⟩:RL).l.length=l.length from eu] at this
    show ACall Tryz.prog 201 [.agg (aa.cells ((rm l).getD j default))] [] 0 (.val (.bool true)) []
    rw[jK hj];exact Wu (h j hj))
 have e:cX (nuL wr m)=cX (mxA (mxF wr m))++[AV.isl false (cR (rm (onF m))) m,.isl false (cR (rm (onF wr.length))) wr.length]:=by
  unfold nuL
  rw[←Ak]
  congr 1
  show [AV.isl false (cR (rm (onF m))) (rm (onF m)).length,.isl false (cR (rm (onF wr.length))) (rm (onF wr.length)).length]=_
  rw[onL,onL]
 have nu:=ACall.own (e:=103) (args:=[.sl 0 0 (m+2) 1]) (args':=[.isl false (cX (nuL wr m)) (m+2)]) (cs:=cX (nuL wr m)) (by rw[xI];trivial) (by simp[bQ];rw[List.take_of_length_le];rw[xH,Jl];exact Nat.le_refl _) (by simp[bnd]) nu
 rw[e] at nu
 exact Ec g.m1 (by omega) g.n0 gn hA onL onL c1 (Qk hA (by omega)) nu c2
theorem Ql(g:GW wr m):ACall Tryz.prog 93 [.isl false [.val (.int .u16 (U (wr.getD 0 default)))] 1,.isl false (cX wr) wr.length,.agg (aa.cells (rC 0)),.isl false (cR (rm (onF m))) m] [] 0 (.tup [.agg [.isl false (cX (mxA (mxF wr m))) m,.isl false (cR (rm (onF m))) m,.isl false (cR (rm (onF wr.length))) wr.length],.val (.int .i64 0)]) []:=by
 have gm:=g.m2
 have gn:=g.n
 have hp:=BF (K:=wkA false (wr.getD 0 default) wr wr.length (rC 0) (rC 1) (rm (onF m)) m) (cz:=false) (cap:=rm (onF m)) (m:=m) (n:=wr.length) (P:=prL (wr.getD 0 default) wr wr.length) (ONE:=rC 1) (wv:=fun i k=>rC (wq wr i k)) kr g.n0 (by omega) onL g.m1 (by omega) rfl
  (sM rfl g.n0 (by omega)) (Lh onL (by omega)) wh1 (fun i k hi hk=>by rw[o9 hk];exact wtC g hi)
 rw[abv,Jk] at hp
 exact yV gn g.n0 (nwC g) hp (Jm g)
end
section
open Go Go.Sy Go.Bp Go.Lm Go.Rt Go.Sx
attribute [local irreducible] AO AL AC OpT ACall Ends DGo aN Thn Blk Nxt
variable {n N k i j m:Nat} {p q:Rat} {wr:List Nat} {T:Tab}
def ssF(wr:List Nat)(m:Nat)(T:Tab):List Sh:=(ksO m wr.length T).map fun k=>⟨wr.getD 0 default,wr.getD k default,rC (shF m wr.length T k)⟩
theorem wL:(ssF wr m T).length=(ksO m wr.length T).length:=List.length_map _
theorem kv(h:j<(ksO m wr.length T).length):(ssF wr m T).getD j default=⟨wr.getD 0 default,wr.getD ((ksO m wr.length T).getD j 0) default,rC (paF m wr.length T j)⟩:=by
 unfold ssF paF
 simp only[List.getD_eq_getElem?_getD,List.getElem?_map,List.getElem?_eq_getElem h,Option.map_some,Option.getD_some]
def cmF(m n:Nat)(T:Tab)(k:Nat):Int:=eF ((shF m n T k).num*(0:Rat).den) ((0:Rat).num*(shF m n T k).den)
theorem Jo:0<cmF m n T k↔0<shF m n T k:=iE.1
theorem Jp(h:i≤wr.length):mY (prL (wr.getD 0 default) wr wr.length) (fun k=>rC (shF m wr.length T k)) (cmF m wr.length T) i=(ksF (shF m wr.length T) i).map fun k=>⟨wr.getD 0 default,wr.getD k default,rC (shF m wr.length T k)⟩:=by
 induction i with
 |zero=>rfl
 |succ i ih=>
  rw[mY,adk,ih (by omega),o9 (show i<wr.length by omega)]
  by_cases hp:0<shF m wr.length T i
  ·rw[if_pos hp,if_pos (Jo.2 hp),List.map_append];rfl
  ·rw[if_neg hp,if_neg (fun hc=>hp (Jo.1 hc))]
theorem ado{f:Nat→RV}:qL f i=(List.range i).map f:=by
 induction i with
 |zero=>rfl
 |succ i ih=>rw[qL,ih,List.range_succ,List.map_append];rfl
def ysF(m n:Nat)(T:Tab):List Rat:=(List.range m).map (prF m n T)
theorem Jq:(ysF m n T).length=m:=by unfold ysF;simp
theorem Wv(h:i<m):(ysF m n T).getD i 0=prF m n T i:=by
 unfold ysF
 rw[List.getD_eq_getElem?_getD,List.getElem?_map,List.getElem?_range h];rfl
theorem Qr(g:GW wr m)(hm:m≤12)(h:GO m wr.length T)(hl:T.rows.length=m+1)(hr:(T.rows.getD m []).length=wr.length+m+1)
 (hso:ACall Tryz.prog 94 [.agg [.isl false (cX (mxA (mxF wr m))) m,.isl false (cR (rm (onF m))) m,.isl false (cR (rm (onF wr.length))) wr.length]] [] 0 (.tup [.agg (r4 (rC (BB m wr.length T))++[.isl false (cR (rm (BC m wr.length T))) wr.length,.isl false (cR (rm (BD m wr.length T))) m]),.val (.int .i64 0)]) []):
 ACall Tryz.prog 54 [.isl false [.val (.int .u16 (U (wr.getD 0 default)))] 1,.isl false (cX wr) wr.length,.agg (aa.cells (rC 0)),.isl false (cR (rm (onF m))) m] [] 0
  (.tup [.agg (r4 (rC (ldF m wr.length T))++[.isl false (cR (ssF wr m T)) (ksO m wr.length T).length,.isl false (cR (rm (ysF m wr.length T))) m]),.val (.int .i64 0)]) []:=by
 have gn:=g.n
 have gm1:=g.m1
 have xl:(BC m wr.length T).length=wr.length:=by unfold BC;rw[List.length_take,Wi];omega
 have yl:(BD m wr.length T).length=m:=by unfold BD;rw[List.length_take,List.length_drop,hr];omega
 have hN:shN (cmF m wr.length T) wr.length=(ksO m wr.length T).length:=by
  have:=Eg (P:=prL (wr.getD 0 default) wr wr.length) (q:=fun k=>rC (shF m wr.length T k)) (cm:=cmF m wr.length T) (i:=wr.length)
  rw[←this,Jp (Nat.le_refl _),List.length_map];rfl
 have:=BK (n:=wr.length) (m:=m) (a:=wr.getD 0 default) (wr:=wr) (cz:=false) (F:=rC 0) (R:=rC 1) (cap:=rm (onF m)) (xs:=rm (BC m wr.length T)) (ys:=rm (BD m wr.length T)) (P:=prL (wr.getD 0 default) wr wr.length) (OV:=rC (BB m wr.length T)) (LD:=rC (ldF m wr.length T)) (ONE:=rC 1) (ZERO:=rC 0)
  (q:=fun k=>rC (shF m wr.length T k)) (p:=fun i=>rC (prF m wr.length T i)) (cm:=cmF m wr.length T) (N:=(ksO m wr.length T).length)
  kr g.n0 gn g.m1 (by omega) (by rw[eu];exact xl) (by rw[eu];exact yl) hN h.N (Ql g) hso (nwC g) wh1 wh0 (Ls sm1 h.v h.v0) (sM rfl g.n0 (by omega))
  (fun k hk=>by rw[jK (by rw[xl];exact hk)];exact GJ (h.x k hk).1 h.l)
  (fun k hk=>sQ (h.x k hk).2 sm0)
  (fun i hi=>by rw[jK (by rw[yl];exact hi)];exact GJ (h.y i hi).1 h.l)
 rw[Jp (Nat.le_refl _),ado] at this
 have e:rm (ysF m wr.length T)=(List.range m).map fun i=>rC (prF m wr.length T i):=by unfold rm ysF;rw[List.map_map];rfl
 rw[e]
 exact this
end
section
open Go Go.Sy Go.Bp Go.Lm Go.Rt Go.Sx
attribute [local irreducible] AO AL AC OpT ACall Ends DGo aN Thn Blk Nxt
variable {n N k i j m:Nat} {p q s:Rat} {wr:List Nat} {T:Tab} {f g:Nat→Rat}
abbrev wkW(wr:List Nat)(m:Nat):List AV:=wkA false (wr.getD 0 default) wr wr.length (rC 0) (rC 1) (rm (onF m)) m
theorem BL:ACall Tryz.prog 151 [] [] 0 (.pt 0 0) [jR (rC 0)]:=D6 wh0
theorem Qs(h:uI f g n=true)(hj:j<n):ACall Tryz.prog 152 [.pt 0 0,.agg (aa.cells (rC (f j))),.agg (aa.cells (rC (g j)))] [jR (rC (oo (fun i=>f i*g i) j))] 1 (.tup []) [jR (rC (oo (fun i=>f i*g i) (j+1)))]:=
 D7 (GJ (kV h hj).1 (kV h hj).2.1) (abk (yt h (by omega)) (kV h hj).2.2)
theorem Qt(g:GW wr m)(h:GO m wr.length T):ACall Tryz.prog 103 [.ipt (wkW wr m) 0,.isl false (cR (ssF wr m T)) (ksO m wr.length T).length] [] 0 (.val (.bool true)) []:=by
 have gn:=g.n
 have hk:∀i,i<(ksO m wr.length T).length→(ksO m wr.length T).getD i 0<wr.length∧0<paF m wr.length T i:=fun i hi=>Jh hi
 have hle:(ksO m wr.length T).length≤wr.length:=by
  have:=List.length_filter_le (fun k=>decide (0<shF m wr.length T k)) (List.range wr.length)
  rw[List.length_range] at this;exact this
 exact BI (n:=(ksO m wr.length T).length) (H:=wr.length) (P:=prL (wr.getD 0 default) wr wr.length) (ss:=ssF wr m T) (K:=wkW wr m) (ZERO:=rC 0)
  (l:=fun i=>match i with|0=> -1|i+1=>((ksO m wr.length T).getD i 0:Nat)) (cm:=fun i=>eF ((paF m wr.length T i).num*(0:Rat).den) ((0:Rat).num*(paF m wr.length T i).den)) wL (by omega) kr g.n0 (sM rfl g.n0 (by omega)) rfl
  (fun i hi=>by
    have hki:=(hk i hi).1
    rw[kv hi]
    exact Lu (P:=prL (wr.getD 0 default) wr wr.length) (n:=wr.length) (a:=wr.getD 0 default) (b:=wr.getD ((ksO m wr.length T).getD i 0) default) (q:=(ksO m wr.length T).getD i 0) kr (by omega) hki (fun j hj=>by rw[o9 hj]) (by rw[o9 hki]) (fun j hj=>by rw[o9 (show j<wr.length by omega)];exact g.ne _ hki j hj))
  (fun i hi=>by
    cases i with
    |zero=>show¬(((ksO m wr.length T).getD 0 0:Nat):Int)≤ -1;omega
    |succ i=>
     have:=Wj (x:=shF m wr.length T) (n:=wr.length) (i:=i) (j:=i+1) (by omega) hi
     show¬(((ksF (shF m wr.length T) wr.length).getD (i+1) 0:Nat):Int)≤(((ksF (shF m wr.length T) wr.length).getD i 0:Nat):Int)
     omega)
  (fun i hi=>by rw[kv hi];exact mW (h.x _ (hk i hi).1).2) wh0
  (fun i hi=>by rw[kv hi];exact sQ (h.x _ (hk i hi).1).2 sm0)
  (fun i hi=>by have:=(iE (p:=paF m wr.length T i) (q:=0)).1.2 (hk i hi).2;(try dsimp only);omega)
theorem ofC(g:GW wr m)(h:GO m wr.length T)(c:GC wr m T):ACall Tryz.prog 104 [.ipt (wkW wr m) 0,.isl false (cR (ssF wr m T)) (ksO m wr.length T).length] [] 0 (.tup [.agg (aa.cells (rC (ldF m wr.length T))),.val (.int .i64 0)]) []:=by
 have gn:=g.n
 have gm:=g.m2
 have hk:∀i,i<(ksO m wr.length T).length→(ksO m wr.length T).getD i 0<wr.length∧0<paF m wr.length T i:=fun i hi=>Jh hi
 have hle:(ksO m wr.length T).length≤wr.length:=by
  have:=List.length_filter_le (fun k=>decide (0<shF m wr.length T k)) (List.range wr.length)
  rw[List.length_range] at this;exact this
 have hpa:=GM (ss:=ssF wr m T) (n:=(ksO m wr.length T).length) (ZERO:=rC 0) (ONE:=rC 1) (S:=fun j=>rC (oo (fun j=>paF m wr.length T j*1) j)) (cm:=fun i=>eF ((paF m wr.length T i).num*(0:Rat).den) ((0:Rat).num*(paF m wr.length T i).den)) wL (by omega)
  (fun i hi=>by rw[kv hi];exact mW (kV c.p hi).1) wh0 wh1 (fun i hi=>by rw[kv hi];exact sQ (kV c.p hi).1 sm0)
  (fun i hi=>by have:=(iE (p:=paF m wr.length T i) (q:=0)).1.2 (hk i hi).2;(try dsimp only);omega) rfl
  (fun i hi=>by
    rw[kv hi]
    refine zP ?_
    have:=abk (yt c.p (show i≤_ by omega)) (kV c.p hi).2.2
    try dsimp only at this
    rw[Rat.mul_one] at this
    show ACall Tryz.prog _ _ [] 0 (.tup [.agg (aa.cells (rC (oo (fun j=>paF m wr.length T j*1) i+paF m wr.length T i*1))),.val (.int .i64 0)]) []
    rw[Rat.mul_one]
    exact this)
  (by
    try dsimp only
    rw[c.p1]
    have:=sQ sm1 sm1
    rwa [show eF ((1:Rat).num*(1:Rat).den) ((1:Rat).num*(1:Rat).den)=0 from by decide+kernel] at this)
  BL
 have hc0:=GN (K:=wkW wr m) (ss:=ssF wr m T) (n:=(ksO m wr.length T).length) wL (by omega) (fun j hj=>by
  have hkj:=(hk j hj).1
  rw[kv hj]
  exact Qm (L1:=cX [wr.getD 0 default]) (L2:=cX wr) (n:=wr.length) rfl rfl
   (yw (zR (z:=false) (ws:=[wr.getD 0 default]) (n:=1) (b:=wr.getD 0 default) (q:=0) rfl (by omega) (by omega) rfl (fun i hi=>by omega)))
   (yw (zR (z:=false) (ws:=wr) (n:=wr.length) (b:=wr.getD ((ksO m wr.length T).getD j 0) default) (q:=(ksO m wr.length T).getD j 0) rfl (by omega) hkj rfl (fun i hi=>g.ne _ hkj i hi))))
 have:=Qo (ss:=ssF wr m T) (n:=(ksO m wr.length T).length) (K:=wkW wr m) (cap:=rm (onF m)) (cz:=false) (m:=m) (ZERO:=rC 0) (S:=fun i j=>rC (oo (fun j=>paF m wr.length T j*wq wr i ((ksO m wr.length T).getD j 0)) j)) (O:=fun i=>rC (vV (lsF wr m T) i))
  (wv:=fun i j=>rC (wq wr i ((ksO m wr.length T).getD j 0))) (ld:=fun i=>rC (lsF wr m T i)) (cm:=fun i=>eF ((lsF wr m T i).num*(vV (lsF wr m T) i).den) ((vV (lsF wr m T) i).num*(lsF wr m T i).den))
  wL (by omega) onL (by omega) rfl rfl hc0 hpa wh0 (fun i hi=>BL) (fun i j hi hj=>by rw[kv hj];exact wtC g hi)
  (fun i j hi hj=>by rw[kv hj];exact Qs (c.s i hi).1 hj)
  (fun i hi=>by rw[onC hi];exact Ls (yt (c.s i hi).1 (Nat.le_refl _)) sm1 (by decide+kernel))
  (fun i hi=>V7 (c.s i hi).2.1 (c.s i hi).2.2)
  (fun i hi h=>by
    have:=iE.1.1 h
    (try dsimp only);rw[vV,if_pos this])
  (fun i hi h=>by
    have:¬vV (lsF wr m T) i<lsF wr m T i:=fun hc=>h (iE.1.2 hc)
    (try dsimp only);rw[vV,if_neg this])
 try dsimp only at this
 rwa [c.mx] at this
theorem Ww(g:GW wr m)(h:GO m wr.length T)(c:GC wr m T):ACall Tryz.prog 106 [.ipt (wkW wr m) 0,.agg (aa.cells (rC (ldF m wr.length T))),.isl false (cR (rm (ysF m wr.length T))) m] [] 0 (.val (.bool true)) []:=by
 have gn:=g.n
 have gm:=g.m2
 have hy:∀i,i<m→(rm (ysF m wr.length T)).getD i default=rC (prF m wr.length T i):=fun i hi=>by rw[jK (by rw[Jq];exact hi),Wv hi]
 have hl:(rm (ysF m wr.length T)).length=m:=by rw[eu,Jq]
 have c1:=uG (F:=154) (z:=false) (xs:=rm (ysF m wr.length T)) (n:=m) (fun _=>false) hl (by omega) (fun i hi=>by
  rw[hy i hi]
  exact BJ (by
   have:=(iE (p:=prF m wr.length T i) (q:=0)).2.2
   have h3:=Rat.not_lt.2 (c.y0 i hi)
   exact fun hc=>h3 (this.1 hc)) (mW (kV c.y hi).1) wh0 (sQ (kV c.y hi).1 sm0))
 rw[show(rm (ysF m wr.length T)).any (fun _=>false)=false by simp] at c1
 have hd:=Qp (xs:=rm (ysF m wr.length T)) (ys:=rm (onF m)) (n:=m) (z:=false) (z':=false) (S:=fun j=>rC (oo (fun j=>prF m wr.length T j*1) j)) (q:=fun j=>rC (prF m wr.length T j*1)) (A:=iC 1) hl onL (by omega)
  (fun i hi=>by rw[hy i hi];exact mW (kV c.y hi).1) (fun i hi=>by rw[onC hi];exact mW sm1) PL rfl
  (fun i hi=>by rw[hy i hi,onC hi];exact GJ (kV c.y hi).1 sm1)
  (fun i hi=>abk (yt c.y (by omega)) (kV c.y hi).2.2)
 try dsimp only at hd
 rw[c.y1] at hd
 exact Ee (n:=wr.length) (m:=m) (K:=wkW wr m) (cz:=false) (cap:=rm (onF m)) (ys:=rm (ysF m wr.length T)) (P:=prL (wr.getD 0 default) wr wr.length) (ONE:=rC 1) (D:=rC 1) (LD:=rC (ldF m wr.length T)) (S:=fun k j=>rC (oo (fun i=>prF m wr.length T i*wq wr i k) j)) (wv:=fun k i=>rC (wq wr i k))
  hl onL (by omega) kr (by omega) g.n0 rfl c1 hd wh1 (by
   have:=sQ sm1 sm1
   rwa [show eF ((1:Rat).num*(1:Rat).den) ((1:Rat).num*(1:Rat).den)=0 from by decide+kernel] at this)
  (sM rfl g.n0 (by omega)) (fun k hk=>BL) (fun k i hk hi=>by rw[o9 hk];exact wtC g hi)
  (fun k i hk hi=>by rw[hy i hi];exact Qs (c.w k hk).1 hi)
  (fun k hk=>GL (yt (c.w k hk).1 (Nat.le_refl _)) h.l (c.w k hk).2)
theorem abz(g:GW wr m)(h:GO m wr.length T)(c:GC wr m T):ACall Tryz.prog 57 [.isl false [.val (.int .u16 (U (wr.getD 0 default)))] 1,.isl false (cX wr) wr.length,.agg (aa.cells (rC 0)),.isl false (cR (rm (onF m))) m,.agg (r4 (rC (ldF m wr.length T))++[.isl false (cR (ssF wr m T)) (ksO m wr.length T).length,.isl false (cR (rm (ysF m wr.length T))) m])] [] 0 (.val (.bool true)) []:=
 Ef (X:=rC (ldF m wr.length T)) (nwC g) (mW h.l) (Qt g h) (ofC g h c) (GL h.l h.l Rat.le_refl) (GL h.l h.l Rat.le_refl) (Ww g h c)
end
section
open Go Go.Sy Go.Bp Go.Lm Go.Rt Go.Sx
attribute [local irreducible] AO AL AC OpT ACall Ends DGo aN Thn Blk Nxt
variable {n N k i j m S:Nat} {p q s:Rat} {wr:List Nat} {T:Tab}
theorem abD(g:GW wr 3)(hr:ql 3 wr.length (T0F wr 3) S=true)(ho:Ji 3 wr.length (TT 3 wr.length (T0F wr 3) S)=true)(hc:Jj wr 3 (TT 3 wr.length (T0F wr 3) S)=true)
 (hz:ACall Tryz.prog 55 [] [] 0 (.agg (aa.cells (rC 0))) []) (hn:ACall Tryz.prog 101 [.val (.int .i64 1)] [] 0 (.agg (aa.cells (rC 1))) []):
 ACall Tryz.prog 21 [.isl false (cX wr) wr.length,.val (.int .i64 3)] [] 0 (.tup [.agg (aa.cells (rC (ldF 3 wr.length (TT 3 wr.length (T0F wr 3) S)))),.val (.int .i64 0)]) []:=by
 have gn:=g.n
 have gn0:=g.n0
 have gt:=Bw hr S (Nat.le_refl _)
 have hs:=G6 (cz:=false) (n:=wr.length) (A:=mxF wr 3) (B:=onF 3) (C:=onF wr.length) (S:=S) gn0 gn sP lK lK (fun i hi=>GK hi) (fun j hj=>by rw[wK hj];exact sm1) hr (Jm g)
 have ones:=LC (n:=3) (X:=rC 1) (by omega) (by omega) hn
 rw[Jk] at ones
 exact LF (m:=3) (n:=wr.length) (wr:=wr) (a:=wr.getD 0 default) (F:=rC 0) (cap:=rm (onF 3)) gn0 gn rfl rfl hz ones
  (Qr g (by omega) (GO.of ho) gt.rl (gt.rw 3 (Nat.le_refl _)) hs) (abz g (GO.of ho) (GC.of hc))
end
section
open Go Go.Sy Go.Bp Go.Lm Go.Rt Go.Sx Go.Dg
attribute [local irreducible] AO AL AC OpT ACall Ends DGo aN Thn Blk Nxt
variable {n N k i j m S L:Nat} {z:Bool} {B:List Nat}
theorem adv:ACall Tryz.prog 101 [.val (.int .i64 1)] [] 0 (.agg (aa.cells (rC 1))) []:=QO (sF (v:=1) (by decide) (by decide)) (sF (v:=1) (by decide) (by decide))
theorem WC:ACall Tryz.prog 55 [] [] 0 (.agg (aa.cells (rC 0))) []:=Em (sF (v:=1) (by decide) (by decide))
theorem s23:Sm (2/3):=gU (by decide+kernel)
theorem G9:ACall Tryz.prog 7 [] [] 0 (.val (.bool true)) []:=by
 have hl:=abD (wr:=[3,5,6]) (S:=3) adl abo abp abq WC adv
 rw[show ldF 3 ([3,5,6]:List Nat).length (TT 3 ([3,5,6]:List Nat).length (T0F [3,5,6] 3) 3)=2/3 from abr] at hl
 have hv:=ky (z:=false) (xs:=[3,5,6]) (n:=3) rfl (by omega)
 rw[show pR [3,5,6]=0 by decide] at hv
 have ht:=zT (z:=false) (f:=[3,5,6]) (n:=3) (s:=7) (xs:=dW 7) (p:=dD [3,5,6]) (q:=4) rfl (by omega) (by decide) (by decide) (by decide) rfl rfl (by decide) (by decide) (by decide)
 have hr:=Eo (z:=false) (f:=[3,5,6]) (n:=3) (s:=(dW 7).getD 4 0) (by omega) (by omega) (by decide) hv ht
 rw[show aA ((dW 7).getD 4 0) 16-1=1 by decide] at hr
 refine BP hl hr (aa6 (a:=2) (b:=3) (by decide) (by decide) (by decide)) ?_
 rw[show Rat.divInt 2 3=2/3 from by decide+kernel]
 have he:=VR (PU s23) (PU s23)
 rwa [Le] at he
end
