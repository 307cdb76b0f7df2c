/- DiagArgs2 Lr1 Lr6 Fa2 Rt2 Dv1 Dv2 Dv3 Fb1 Di24 Fb2 Fb3 Fb5. No condition. -/
import Derived.Test.YtcbginhpibfgaaaGreatDoorXFailurePair1
import Derived.Test.YtcbginhpibfgaaaGreatDoorFDoor
import Derived.Test.YtcbginhpibfgaaaGreatDoorDiG14
import Derived.Test.YtcbginhpibfgaaaGreatDoorFbG1
set_option linter.all false
set_option maxHeartbeats 4000000
set_option maxRecDepth 20000
namespace Go.Proofs.YtcbginhpibfgaaaGreatDoor
section
open Go Go.Sy Go.Bp Go.Dg
theorem SI{m:Nat} {av:List AV}(h:dO Tryz.prog m 114 av):∃x:Fk,av=aa.cells x∧True:=by
 obtain⟨_,xs,rfl,hl,hx⟩:=jm Tryz.underlying114 h
 match xs,hl with
 |[a0,a1,a2],_=>
  obtain⟨b0,rfl,_⟩:=gT Tryz.underlying3 (hx 0 _ a0 rfl rfl)
  obtain⟨b1,rfl,_⟩:=gT Tryz.underlying3 (hx 1 _ a1 rfl rfl)
  obtain⟨b2,rfl,_⟩:=gT Tryz.underlying3 (hx 2 _ a2 rfl rfl)
  exact⟨⟨b0,b1,b2⟩,rfl,trivial⟩
theorem Og{m:Nat} {av:List AV}(h:dO Tryz.prog m 27 av):∃(z:Bool) (l:List Fk),av=[.isl z (cR l) l.length]∧l.length<2^44:=by
 obtain⟨n,rfl|⟨xs,rfl,h1,h2⟩⟩:=u6 Tryz.underlying27 h
 ·exact⟨true,[],rfl,by decide⟩
 ·obtain⟨l,k1,k2⟩:=JD (R:=fun x a=>x=aa.cells a∧True) xs (fun x hx'=>SI (h1 x hx').2)
  refine⟨false,l,?_,?_⟩
  ·rw[Dm (g:=aa.cells) xs l k1 (fun i x a hx ha=>(k2 i x a hx ha).1),k1];rfl
  ·have e:Tryz.prog.bytesOf 114=24:=by kernel_rfl
   rw[e] at h2
   rw[k1];unfold reachBytes at h2;omega
theorem lc{m:Nat} {av:List AV}(h:dO Tryz.prog m 29 av):∃(n:Int) (z:Bool) (l:List Fk) (r:Int),av=[.val (.int .i64 n),.isl z (cR l) l.length,.val (.int .i64 r)]∧l.length<2^44∧r<2^63:=by
 obtain⟨_,xs,rfl,hl,hx⟩:=jm Tryz.underlying29 h
 match xs,hl with
 |[a0,a1,a2],_=>
  obtain⟨b0,rfl,_⟩:=gT Tryz.underlying3 (hx 0 _ a0 rfl rfl)
  obtain⟨z,l,rfl,hl⟩:=Og (hx 1 _ a1 rfl rfl)
  obtain⟨b2,rfl,h2⟩:=gT Tryz.underlying3 (hx 2 _ a2 rfl rfl)
  have h2:=NU h2
  exact⟨b0,z,l,b2,rfl,hl,by omega⟩
end
section
open Go Go.Sy
attribute [local irreducible] AO AL AC OpT ACall Ends DGo bK Thn Blk Nxt
section
open Go Go.Sy Go.Bp Go.Lm
variable {n N M k i m j r q:Nat} {z z' zq zr neg nx ny:Bool} {l a b u vl L R T Q Lx Ly:List Int} {v x y d f g c rv e:Int} {W W2 X Y:IV}
theorem QD(hl:X.l.length=n)(hn:n<2^50)(hk:k<2^50):ACall Tryz.prog 83 [.agg (aa.cells X),.val (.int .i64 k)] [] 0 (.val (.bool (decide (n≤k)))) []:=by
 have e:decide (n≤k)=decide ((n:Int)≤k):=decide_eq_decide.2 (by omega)
 rw[bC X,e,hl]
 refine ak Tryz.func83 Tryz.ntmps83 rfl ?_
 repeat' (first|refine zqN ?_|refine aK ?_|refine aL ?_|(refine aM ?_ ?_<;>intro hc<;>try exact zqM))
 all_goals first
  |((refine Ends.mk2 zqI [] ?_;simp-dsimp(disch:=try exact vD) only[push_cast,simprocAttr,Tryz.f83];try exact zqF);done)
  |skip
end
section
open Go Go.Sy Go.Bp Go.Lm Go.Rt
variable {n N M k i m j:Nat} {z z' neg:Bool} {l:List Int} {a b v x y e s c:Int} {A B C A1 B1 G G2 P Q R1 R2 Z1 X1 Y1:IV} {p q:Rat} {X Y W:RV}
theorem Yg:MP rZ:=⟨by show 0<_;decide,by show 0<_;decide⟩
theorem OO{r1 r2:Bool}(h1:ACall Tryz.prog 83 [.agg (aa.cells X.num),.val (.int .i64 a)] [] 0 (.val (.bool r1)) [])(h2:ACall Tryz.prog 83 [.agg (aa.cells X.den),.val (.int .i64 a)] [] 0 (.val (.bool r2)) []):
 ACall Tryz.prog 51 [.agg (aa.cells X),.val (.int .i64 a)] [] 0 (.val (.bool (r1&&r2))) []:=by
 have h2:=PLift.up h2
 rw[aB X]
 cases r1
 all_goals have h1:=PLift.up h1
 all_goals(refine ak Tryz.func51 Tryz.ntmps51 rfl ?_)
 all_goals repeat' (first|refine zqN ?_|refine az h1.down ?_|refine az h2.down ?_|refine aK ?_|refine aL ?_|(refine aM ?_ ?_<;>intro hc<;>try exact zqM))
 all_goals first
  |((refine Ends.mk2 zqI [] ?_;simp-dsimp(disch:=try exact vD) only[push_cast,simprocAttr,Tryz.f51];try exact zqF);done)
  |skip
theorem Mf(hX:MP X)(hk:k<2^50):ACall Tryz.prog 51 [.agg (aa.cells X),.val (.int .i64 k)] [] 0 (.val (.bool (decide (X.num.l.length≤k)&&decide (X.den.l.length≤k)))) []:=
 OO (QD rfl (by have:=hX.n;omega) hk) (QD rfl (by have:=hX.d;omega) hk)
end
section
open Go Go.Sy Go.Bp Go.Lm Go.Rt
variable {n N M k i m j r T:Nat} {z z' neg:Bool} {xs ys:List RV} {X:RV} {e:Int}
variable {ss:List RL}
theorem QP(h:psE xs=0):∀i,i<xs.length→pE (xs.getD i default)=0:=by
 induction xs with
 |nil=>intro i hi;simp at hi
 |cons x l ih=>
  intro i hi
  unfold psE at h
  by_cases hx:pE x=0
  ·rw[if_pos hx] at h
   cases i with
   |zero=>exact hx
   |succ i=>exact ih h i (by simpa using hi)
  ·rw[if_neg hx] at h;exact absurd h hx
end
end
end Go.Proofs.YtcbginhpibfgaaaGreatDoor
namespace Go.Rt
variable {p p' q:Nat→Rat} {g h:Nat→Rat} {n m k i j s t:Nat} {tab:Nat→Bool} {x y c:Rat}
theorem OY:Ev p (fun t=>1-g t) k i s=1-Ev p g k i s:=by
 induction k generalizing i s with
 |zero=>rfl
 |succ k ih=>rw[uC,uC,ih,ih];grind
theorem Yx:Pr p n (fun t=> !tab t)=1-Pr p n tab:=by
 unfold Pr
 rw[←OY]
 exact wY n 0 0 (by decide) (fun _ _ _=>rfl) fun t _ _=>by unfold ind;rcases Bool.eq_false_or_eq_true (tab t) with e|e<;>simp only[e]<;>decide+kernel
end Go.Rt
namespace Go.Proofs.YtcbginhpibfgaaaGreatDoor
section
open Go Go.Sy
attribute [local irreducible] AO AL AC OpT ACall Ends DGo bK Thn Blk Nxt
section
open Go Go.Sy Go.Dg
variable {N N' N1 N2 T:Nat} {F F1 F2 G:List Fo} {L L':List Fk} {k k1 k2 k' i m s t a j r:Nat} {p q n v lo hi:Int} {z b:Bool} {x y:Fk}
def GL(n:Int)(L:List Fk)(r:Int):Int:=if r<2 then n else(L.getD (r.toNat-2) default).v
theorem O4(h:r<2):ACall Tryz.prog 99 [.agg [.val (.int .i64 n),.isl z (cR L) N,.val (.int .i64 q)],.val (.int .i64 r)] [] 0 (.val (.int .i64 n)) []:=by
 refine ak Tryz.func99 Tryz.ntmps99 rfl ?_
 repeat' (first|refine zqN ?_|refine aK ?_|refine aL ?_|(refine aM ?_ ?_<;>intro hc<;>try exact zqM))
 all_goals((refine Ends.mk2 zqI [] ?_;simp-dsimp(disch:=try exact vD) only[push_cast,simprocAttr,Tryz.f99];try exact zqF))
theorem O5(hN:L.length=N)(hN2:N<2^40)(hk:k<N):ACall Tryz.prog 99 [.agg [.val (.int .i64 n),.isl z (cR L) N,.val (.int .i64 q)],.val (.int .i64 ((k:Int)+1+1))] [] 0 (.val (.int .i64 (L.getD k default).v)) []:=by
 have zx1:¬(k:Int)+1+1<2:=by omega
 refine ak Tryz.func99 Tryz.ntmps99 rfl ?_
 have zx2:= @uG;have zx3:= @lU;repeat' (first|refine zqN ?_|refine bM ?_|refine bO ?_|(refine bP ?_ ?_<;>intro hc<;>try exact zqM))
 all_goals((refine Ends.mk2 zqI [] ?_;simp-dsimp(disch:=try exact vD) only[push_cast,simprocAttr,Tryz.f99];try exact zqF))
theorem O6(hN:L.length=N)(hN2:N<2^40){r:Int}(h0:0≤r)(hr:r<N+2):ACall Tryz.prog 99 [.agg [.val (.int .i64 n),.isl z (cR L) N,.val (.int .i64 q)],.val (.int .i64 r)] [] 0 (.val (.int .i64 (GL n L r))) []:=by
 obtain⟨c,rfl⟩:=Int.eq_ofNat_of_zero_le h0
 unfold GL
 by_cases h:c<2
 ·rw[if_pos (by omega)];exact O4 h
 ·rw[if_neg (by omega)]
  obtain⟨k,rfl⟩:∃k,c=k+2:=⟨c-2,by omega⟩
  have:=O5 (z:=z) (n:=n) (q:=q) hN hN2 (show k<N by omega)
  have e:((k+2:Nat):Int)=(k:Int)+1+1:=by omega
  rw[show((k+2:Nat):Int).toNat-2=k by omega,e];exact this
structure OkI(n:Int)(L:List Fk)(i:Nat):Prop where
 v0:0≤(L.getD i default).v
 v1:(L.getD i default).v<n
 l0:0≤(L.getD i default).lo
 h0:0≤(L.getD i default).hi
 l1:(L.getD i default).lo<i+2
 h1:(L.getD i default).hi<i+2
 ne:¬(L.getD i default).lo=(L.getD i default).hi
 new:¬L.getD i default∈L.take i
 sl:(L.getD i default).v<GL n L (L.getD i default).lo
 sh:(L.getD i default).v<GL n L (L.getD i default).hi
def lZ(L:List Fk)(i:Nat):List (List Int×AV):=(L.take i).map fun f=>([f.v,f.lo,f.hi],.val (.bool true))
theorem seenL_pv:PV (lZ L i):=fun x hx=>by
 obtain⟨f,_,rfl⟩:=List.mem_map.1 hx
 exact⟨_,rfl⟩
theorem TL{τ:Nat→Nat}:((lZ L i).map fun x=>(x.1,ren τ x.2))=lZ L i:=seenL_pv.id fun v=>by simp[ren]
theorem TM{j:Nat}:(∀x∈lZ L i,bnd j x.2)=True:=seenL_pv.all fun v=>by simp[bnd]
attribute [push_cast] TL TM
theorem Bl:∀l:List Fk,cK (l.map fun f=>([f.v,f.lo,f.hi],AV.val (.bool true))) [x.v,x.lo,x.hi]=if x∈l then some (.val (.bool true)) else none:=by
 intro l
 induction l with
 |nil=>rfl
 |cons f l ih=>
  rw[List.map_cons]
  simp only[cK]
  by_cases e:f=x
  ·subst e;simp
  ·rw[if_neg (fun hc=>e (by cases f;cases x;simpa using hc)),ih]
   by_cases hm:x∈l
   ·rw[if_pos hm,if_pos (List.mem_cons_of_mem _ hm)]
   ·rw[if_neg hm,if_neg (fun h=>by
     rcases List.mem_cons.1 h with h|h
     ·exact e h.symm
     ·exact hm h)]
theorem adZ(h:i<L.length):L.take (i+1)=L.take i++[L.getD i default]:=by
 rw[List.take_add_one,List.getD_eq_getElem?_getD,List.getElem?_eq_getElem h];rfl
theorem TN(hi:i<L.length)(h:¬L.getD i default∈L.take i):mM (lZ L i) [(L.getD i default).v,(L.getD i default).lo,(L.getD i default).hi] (.val (.bool true))=lZ L (i+1):=by
 have e:cK (lZ L i) [(L.getD i default).v,(L.getD i default).lo,(L.getD i default).hi]=none:=by
  unfold lZ
  rw[Bl,if_neg h]
 rw[kU _ _ _ e]
 unfold lZ
 rw[adZ hi,List.map_append];rfl
theorem ad1:lZ L 0=[]:=rfl
def orJ(z:Bool)(n q:Int)(L:List Fk)(N:Nat)(i:{i:Nat // i≤N∧∀j,j<i→OkI n L j}):St:=
 ⟨80,0,[(1,.pt 0 0),(3,.mp 1),(8,.isl z (cR L) N),(9,.val (.int .i64 N)),(10,.val (.int .i64 i.val))],[(0,some (.cells [.val (.int .i64 n),.isl z (cR L) N,.val (.int .i64 q)] 29)),(1,some (.map true 3 (lZ L i.val)))]⟩
theorem Mr(hN:L.length=N)(hN2:N<2^40)(hn:n≤100)(hb:b=true↔∀j,j<N→OkI n L j):ACall Tryz.prog 107 [.agg [.val (.int .i64 n),.isl z (cR L) N,.val (.int .i64 q)]] [] 0 (.val (.bool b)) []:=by
 have hsv:=fun(r:Int) (h0:0≤r) (hr:r<N+2)=>PLift.up (O6 (z:=z) (n:=n) (q:=q) hN hN2 h0 hr)
 have hz:0≤N∧∀j,j<0→OkI n L j:=⟨Nat.zero_le _,fun j hj=>absurd hj (by omega)⟩
 have zx1:=ae;have zx2:=ae;have zx3:=ae
 have hput:=PLift.up (fun(i:Nat) (h:i<N)=>TN (L:=L) (i:=i) (by omega))
 refine ak Tryz.func107 Tryz.ntmps107 rfl ?_
 have zx4:= @lU;have zx5:= @ad1;have zx6:=aC;repeat' (first|(refine ai ?_;refine au [0,1] ([0,1].length) (orJ z n q L N) (fun i=>N-i.val) (⟨0,hz⟩) rfl (by unfold orJ;exact gY) ?_;(rintro⟨i,hi1,hok⟩;rcases Nat.lt_or_eq_of_le hi1 with hil|hil<;>first|(have ei:N=i:=hil.symm;subst ei;(simp-dsimp only[orJ];refine zqS ?_))|(obtain⟨x,zx3⟩:∃x,L.getD i default=x:=⟨_,rfl⟩;obtain⟨v,lo,hi⟩:=x;have hsa:=Bl (x:=⟨v,lo,hi⟩) (L.take i);rcases Decidable.em (⟨v,lo,hi⟩∈L.take i) with hm|hm<;>first|(rw[if_pos hm] at hsa;have zx1:cK (lZ L i) [v,lo,hi]=some (.val (.bool true)):=hsa;(simp-dsimp only[orJ];refine zqS ?_))|(rw[if_neg hm] at hsa;have zx1:cK (lZ L i) [v,lo,hi]=none:=hsa;have zx2:mM (lZ L i) [v,lo,hi] (.val (.bool true))=lZ L (i+1):=(by have:=hput.down i hil;rw[zx3] at this;exact this hm);(simp-dsimp only[orJ];refine zqS ?_)))))|(refine ax ?_;refine Nxt.mk [0,1] (⟨i+1,by omega,fun j hj=>by rcases Nat.lt_or_eq_of_le (Nat.le_of_lt_succ hj) with h|h;exact hok j h;rw[h];refine⟨?_,?_,?_,?_,?_,?_,?_,?_,?_,?_⟩<;>rw[zx3]<;>first|assumption|omega|(dsimp only;omega)⟩) rfl (by unfold orJ;exact gY) zqO)|refine zqN ?_|refine gG (hsv lo (by omega) (by omega)).down ?_|refine gG (hsv hi (by omega) (by omega)).down ?_|refine kE ?_|refine kF ?_|(refine kG ?_ ?_<;>intro hc<;>try exact zqM)|refine zqR 7 [⟨0,[],[62,63,65,66],[],[],0⟩,⟨1,[],[61,65,66],[],[],0⟩,⟨2,[1],[61,65,66],[],[],0⟩,⟨3,[0,1,2],[65,66],[],[],0⟩,⟨4,[],[61,62,63,64],[],[],0⟩,⟨5,[4],[61,62,63,64],[],[],0⟩,⟨6,[0,1,2,3,4,5],[],[],[],0⟩,⟨7,[0,1,2,3,4,5,6],[],[],[],0⟩,⟨8,[0,1,2,3,4,5,6,7],[70,71,73,74],[],[],0⟩,⟨9,[0,1,2,3,4,5,6,7],[69,73,74],[],[],0⟩,⟨10,[0,1,2,3,4,5,6,7,9],[69,73,74],[],[],0⟩,⟨11,[0,1,2,3,4,5,6,7,8,9,10],[73,74],[],[],0⟩,⟨12,[0,1,2,3,4,5,6,7],[69,70,71,72],[],[],0⟩,⟨13,[0,1,2,3,4,5,6,7,12],[69,70,71,72],[],[],0⟩,⟨14,[0,1,2,3,4,5,6,7,8,9,10,11,12,13],[],[],[],0⟩,⟨15,[0,1,2,3,4,5,6,7,8,9,10,11,12,13,14],[],[],[],0⟩] ?_|refine zqD ?_|fail)
 all_goals first
  |(have e:b=true:=hb.2 hok;rw[e];(refine Ends.mk2 zqI [] ?_;simp-dsimp(disch:=try exact vD) only[push_cast,simprocAttr,Tryz.f107];try exact zqF);done)
  |(have e:b=false:=(by rw[Bool.eq_false_iff];intro hc1;obtain⟨a1,a2,a3,a4,a5,a6,a7,a8,a9,a10⟩:=hb.1 hc1 i hil;rw[zx3] at a1 a2 a3 a4 a5 a6 a7 a8 a9 a10;dsimp only at a1 a2 a3 a4 a5 a6 a7 a9 a10;first|omega|exact a8 hm);rw[e];(refine Ends.mk2 zqI [] ?_;simp-dsimp(disch:=try exact vD) only[push_cast,simprocAttr,Tryz.f107];try exact zqF);done)
  |skip
def tof(x:Fk):Fo:=⟨x.v.toNat,x.lo.toNat,x.hi.toNat⟩
theorem ai2(h1:0≤x.v)(h2:0≤x.lo)(h3:0≤x.hi):fk (tof x)=x:=by
 cases x;simp only[fk,tof,Fk.mk.injEq] at*;omega
theorem YK(h:∀i,i<L.length→0≤(L.getD i default).v∧0≤(L.getD i default).lo∧0≤(L.getD i default).hi):(L.map tof).map fk=L:=by
 rw[List.map_map]
 conv=>rhs;rw[←List.map_id L]
 refine List.map_congr_left fun x hx=>?_
 obtain⟨i,hi,rfl⟩:=List.getElem_of_mem hx
 have:=h i hi
 rw[List.getD_eq_getElem?_getD,List.getElem?_eq_getElem hi] at this
 exact ai2 this.1 this.2.1 this.2.2
theorem fkL(h:k<F.length):(F.map fk).getD k default=fk (F.getD k default):=by
 simp[List.getD_eq_getElem?_getD,List.getElem?_eq_getElem h]
theorem O7{m:Nat}(h:r<F.length+2):GL m (F.map fk) r=(aP m F r:Nat):=by
 unfold GL aP
 by_cases h2:r<2
 ·rw[if_pos (by omega),if_pos h2]
 ·rw[if_neg (by omega),if_neg h2,show((r:Int).toNat-2)=r-2 by omega,fkL (by omega)];rfl
theorem YL{f:Fo} {l:List Fo}:fk f∈l.map fk↔f∈l:=by
 refine⟨fun h=>?_,fun h=>List.mem_map_of_mem h⟩
 obtain⟨g,hg,e⟩:=List.mem_map.1 h
 have:g=f:=by cases g;cases f;simp only[fk,Fk.mk.injEq] at e;simp only[Fo.mk.injEq];omega
 rw[←this];exact hg
theorem YM{m:Nat}(hg:Go.Dg.Good m F)(hi:i<F.length):OkI m (F.map fk) i:=by
 have ho:=hg.ok i hi
 have h1:=ho.lo;have h2:=ho.hi;have h3:=ho.v;have h4:=ho.ne;have h5:=ho.sl;have h6:=ho.sh
 have e:=fkL (F:=F) hi
 have e1:=O7 (F:=F) (m:=m) (r:=(F.getD i default).lo) (by omega)
 have e2:=O7 (F:=F) (m:=m) (r:=(F.getD i default).hi) (by omega)
 refine⟨?_,?_,?_,?_,?_,?_,?_,?_,?_,?_⟩<;>rw[e]
 ·show 0≤((F.getD i default).v:Int);omega
 ·show((F.getD i default).v:Int)<m;omega
 ·show 0≤((F.getD i default).lo:Int);omega
 ·show 0≤((F.getD i default).hi:Int);omega
 ·show((F.getD i default).lo:Int)<_;omega
 ·show((F.getD i default).hi:Int)<_;omega
 ·show¬((F.getD i default).lo:Int)=((F.getD i default).hi:Int);omega
 ·rw[←List.map_take,YL]
  intro hm
  obtain⟨j,hj,ej⟩:=List.getElem_of_mem hm
  have hj2:j<i∧j<F.length:=by rw[List.length_take] at hj;omega
  rw[List.getElem_take] at ej
  have e3:F.getD i default=F[i]:=by simp[List.getD_eq_getElem?_getD,hi]
  rw[e3] at ej
  have u1:=hg.nd.idxOf_getElem j hj2.2
  have u2:=hg.nd.idxOf_getElem i hi
  rw[ej,u2] at u1;omega
 ·show((F.getD i default).v:Int)<GL m (F.map fk) ((F.getD i default).lo:Int);rw[e1];omega
 ·show((F.getD i default).v:Int)<GL m (F.map fk) ((F.getD i default).hi:Int);rw[e2];omega
theorem YN{m:Nat}(h:∀i,i<F.length→OkI m (F.map fk) i):Go.Dg.Good m F:=by
 refine⟨fun k hk=>?_,?_⟩
 ·have o:=h k hk
  have e:=fkL (F:=F) hk
  have a1:=o.v1;have a2:=o.l1;have a3:=o.h1;have a4:=o.ne;have a5:=o.sl;have a6:=o.sh
  rw[e] at a1 a2 a3 a4 a5 a6
  have b1:((F.getD k default).v:Int)<m:=a1
  have b2:((F.getD k default).lo:Int)<k+2:=a2
  have b3:((F.getD k default).hi:Int)<k+2:=a3
  have b4:¬((F.getD k default).lo:Int)=((F.getD k default).hi:Int):=a4
  have b5:((F.getD k default).v:Int)<GL m (F.map fk) ((F.getD k default).lo:Int):=a5
  have b6:((F.getD k default).v:Int)<GL m (F.map fk) ((F.getD k default).hi:Int):=a6
  rw[O7 (by omega)] at b5 b6
  exact⟨by omega,by omega,by omega,by omega,by omega,by omega⟩
 ·rw[List.nodup_iff_pairwise_ne,List.pairwise_iff_getElem]
  intro i j hi hj hij e
  have o:=(h j hj).new
  rw[fkL hj,←List.map_take,YL] at o
  refine o ?_
  have e3:F.getD j default=F[j]:=by simp[List.getD_eq_getElem?_getD,hj]
  rw[e3,←e]
  have:F[i]=(F.take j)[i]'(by rw[List.length_take];omega):=by rw[List.getElem_take]
  rw[this];exact List.getElem_mem _
end
section
open Go Go.Sy Go.Dg
variable {N N' M T:Nat} {F G:List Fo} {L L':List Fk} {k i m s t a j R:Nat} {p q n r e n' r' o:Int} {z z' b nb:Bool} {x y:Fk}
theorem Kh(h:n<0∨12<n):ACall Tryz.prog 72 [dI z n L N r] [] 0 (.val (.int .i64 7)) []:=by
 unfold dI
 rcases h with h|h
 all_goals(refine ak Tryz.func72 Tryz.ntmps72 rfl ?_)
 all_goals repeat' (first|refine zqN ?_|refine aK ?_|refine aL ?_|(refine aM ?_ ?_<;>intro hc<;>try exact zqM))
 all_goals first
  |((refine Ends.mk2 zqI [] ?_;simp-dsimp(disch:=try exact vD) only[push_cast,simprocAttr,Tryz.f72];try exact zqF);done)
  |skip
theorem Ms(h0:0≤n)(h12:n≤12)(hN:N≤765)(h:r<0∨1+(N:Int)<r∨(0<N∧0≤r∧r<1+(N:Int))):ACall Tryz.prog 72 [dI z n L N r] [] 0 (.val (.int .i64 1)) []:=by
 unfold dI
 rcases h with h|h|⟨h1,h2,h3⟩
 all_goals(refine ak Tryz.func72 Tryz.ntmps72 rfl ?_)
 all_goals repeat' (first|refine zqN ?_|refine aK ?_|refine aL ?_|(refine aM ?_ ?_<;>intro hc<;>try exact zqM))
 all_goals first
  |((refine Ends.mk2 zqI [] ?_;simp-dsimp(disch:=try exact vD) only[push_cast,simprocAttr,Tryz.f72];try exact zqF);done)
  |(exfalso;omega)
  |skip
theorem Mt(h0:0≤n)(h12:n≤12)(hN:N≤765)(hr:0≤r)(hr2:(N=0∧r≤1)∨(0<N∧r=1+(N:Int)))(ho:ACall Tryz.prog 107 [dI z n L N r] [] 0 (.val (.bool b)) [])
 (hnm:b=true→ACall Tryz.prog 108 [dI z n L N r] [] 0 (.val (.bool nb)) []):ACall Tryz.prog 72 [dI z n L N r] [] 0 (.val (.int .i64 (if b=true∧nb=true then 0 else 1))) []:=by
 have ho:=PLift.up ho
 unfold dI at*
 have hx:=ae;have hy:=ae
 cases b with
 |false=>
  clear hnm
  rcases hr2 with⟨hx1,hx2⟩|⟨hx1,hx2⟩
  ·subst hx1
   refine ak Tryz.func72 Tryz.ntmps72 rfl ?_
   repeat' (first|refine zqN ?_|refine az ho.down ?_|refine aK ?_|refine aL ?_|(refine aM ?_ ?_<;>intro hc<;>try exact zqM))
   all_goals first
    |((refine Ends.mk2 zqI [] ?_;simp-dsimp(disch:=try exact vD) only[push_cast,simprocAttr,Tryz.f72];try exact zqF);done)
    |(exfalso;omega)
    |skip
  ·subst hx2
   refine ak Tryz.func72 Tryz.ntmps72 rfl ?_
   repeat' (first|refine zqN ?_|refine az ho.down ?_|refine aK ?_|refine aL ?_|(refine aM ?_ ?_<;>intro hc<;>try exact zqM))
   all_goals first
    |((refine Ends.mk2 zqI [] ?_;simp-dsimp(disch:=try exact vD) only[push_cast,simprocAttr,Tryz.f72];try exact zqF);done)
    |(exfalso;omega)
    |skip
 |true=>
  have hnm:=PLift.up (hnm rfl)
  cases nb
  all_goals rcases hr2 with⟨hx1,hx2⟩|⟨hx1,hx2⟩
  all_goals first
   |(subst hx1)
   |(subst hx2)
  all_goals(refine ak Tryz.func72 Tryz.ntmps72 rfl ?_)
  all_goals repeat' (first|refine zqN ?_|refine az ho.down ?_|refine az hnm.down ?_|refine aK ?_|refine aL ?_|(refine aM ?_ ?_<;>intro hc<;>try exact zqM))
  all_goals first
   |((refine Ends.mk2 zqI [] ?_;simp-dsimp(disch:=try exact vD) only[push_cast,simprocAttr,Tryz.f72];try exact zqF);done)
   |(exfalso;omega)
   |skip
theorem YO(h:¬VOk m L r)(hN:L.length=N)(hm:m≤12)(hN2:N≤765):ACall Tryz.prog 72 [dI z m L N r] [] 0 (.val (.int .i64 1)) []:=by
 by_cases hr:r<0∨1+(N:Int)<r∨(0<N∧0≤r∧r<1+(N:Int))
 ·exact Ms (by omega) (by omega) hN2 hr
 ·have hr0:0≤r:=by omega
  obtain⟨R,rfl⟩:=Int.eq_ofNat_of_zero_le hr0
  have hr2:(N=0∧(R:Int)≤1)∨(0<N∧(R:Int)=1+(N:Int)):=by omega
  by_cases ho:∀j,j<N→OkI m L j
  ·have hL:(L.map tof).map fk=L:=YK fun i hi=>⟨(ho i (by omega)).v0,(ho i (by omega)).l0,(ho i (by omega)).h0⟩
   obtain⟨F,hF⟩:∃F,L.map tof=F:=⟨_,rfl⟩
   rw[hF] at hL
   have hFN:F.length=N:=by rw[←hF,List.length_map,hN]
   have hg:Go.Dg.Good m F:=YN fun i hi=>by rw[hL];exact ho i (by omega)
   have hb:=Mr (z:=z) (n:=m) (q:=R) (b:=true) hN (by omega) (by omega) ⟨fun _=>ho,fun _=>rfl⟩
   have hnm:=Be (z:=z) (n:=m) (r:=R) hg.bnd hFN (by omega) (by omega)
   have hw:=Mt (z:=z) (L:=L) (b:=true) (nb:=((fe F R R 2).1&&decide ((fe F R R 2).2=N+2))) (show(0:Int)≤m by omega) (by omega) hN2 hr0 hr2 hb (fun _=>by
    unfold dI;rw[←hL,gV];exact hnm)
   rw[if_neg] at hw
   ·exact hw
   ·rintro⟨_,hc⟩
    refine h ⟨F,R,hL.symm,rfl,⟨hg,by omega,?_,hm,by omega⟩⟩
    rw[Bool.and_eq_true,decide_eq_true_eq] at hc
    rw[Wt,if_pos hc.1,hc.2,hFN]
  ·have hb:=Mr (z:=z) (n:=m) (q:=R) (b:=false) hN (by omega) (by omega) ⟨fun h=>(by cases h),fun h=>absurd h ho⟩
   have hw:=Mt (z:=z) (L:=L) (b:=false) (nb:=false) (show(0:Int)≤m by omega) (by omega) hN2 hr0 hr2 hb (fun h=>by cases h)
   rw[if_neg (fun h=>by cases h.1)] at hw
   exact hw
end
section
open Go Go.Sy Go.Dg
variable {N N' M T:Nat} {F G:List Fo} {L L':List Fk} {k i m s t a j R:Nat} {p q n r e n' r' o v lo hi:Int} {z z' b nb:Bool} {x y:Fk}
def vbI(z:Bool)(n:Int)(L:List Fk)(N c t:Nat)(x:{x:Nat // x=0}):St:=
 ⟨34,0,[(1,.val (.int .i64 ((c:Int)+1+1))),(2,.val (.int .u16 (U t))),(3,.pt 0 0)],[(0,some (.cells [.val (.int .i64 n),.isl z (cR L) N,.val (.int .i64 ((c:Int)+1+1))] 29))]⟩
theorem TQ(hN2:N<2^40)(hr:N+2≤R)(hr2:R<2^63)(ht:t<65536):ACall Tryz.prog 110 [dI z n L N R,.val (.int .i64 R),.val (.int .u16 (U t))] [] 0 (.val (.bool false)) []:=by
 unfold dI
 obtain⟨c,rfl⟩:∃c,R=c+2:=⟨R-2,by omega⟩
 have zx1:((c:Int)+1+1=1)=False:=eq_false (by omega)
 refine ak Tryz.func110 Tryz.ntmps110 rfl ?_
 have zx2:= @uG;have zx3:=aC;repeat' (first|(refine ai ?_;refine au [0] ([0].length) (vbI z n L N c t) (fun _=>0) (⟨0,rfl⟩) rfl (by unfold vbI;exact eQ) ?_;(rintro⟨x,rfl⟩;(simp-dsimp only[vbI];refine zqS ?_)))|refine zqN ?_|refine bM ?_|refine bO ?_|(refine bP ?_ ?_<;>intro hc<;>try exact zqM))
 all_goals first
  |((refine Ends.mk2 zqI [] ?_;simp-dsimp(disch:=try exact vD) only[push_cast,simprocAttr,Tryz.f110,zx1];try exact zqF);done)
  |skip
theorem vz(hm:m≤12)(hb:Bnd F)(h16:∀k,k<F.length→(F.getD k default).v<16)(hN:F.length=N)(hN2:N<2^40)(hr:R<2^63)(hT:2^m=T):ACall Tryz.prog 78 [.agg [.val (.int .i64 m),.isl z (cR F) N,.val (.int .i64 R)]] [] 0 (.isl false (cB (lT F R T)) T) []:=by
 have hp:2^m≤2^12:=Nat.pow_le_pow_right (by omega) hm
 have hpp:=Nat.two_pow_pos m
 have zx2:=Bc (n:=m) (by omega)
 rw[hT] at hp hpp zx2
 have hv:=fun(t:Nat) (h:t<65536)=>PLift.up (by
  have:ACall Tryz.prog 110 [.agg [.val (.int .i64 m),.isl z (cR F) N,.val (.int .i64 R)],.val (.int .i64 R),.val (.int .u16 (U t))] [] 0 (.val (.bool (aG F t R))) []:=by
   by_cases hR:R<N+2
   ·exact Lt (z:=z) (p:=m) (q:=R) (t:=t) hb h16 hN hN2 (by omega) h
   ·rw[Ls hb (by omega),←gV]
    exact TQ (z:=z) (n:=m) (L:=F.map fk) hN2 (by omega) hr h
  rw[Lp h] at this;exact this)
 have htk:=fun s=>WN (F:=F) (r:=R) (s:=s)
 have hx:=ae;have zx1:=ae
 refine ak Tryz.func78 Tryz.ntmps78 rfl ?_
 have zx3:= @mr;have zx4:= @gU;have zx5:=aC;have zx6:=aC;repeat' (first|(refine ai ?_;refine au [0,9] ([0,9].length) (rtI z m F N R T) (fun s=>T-s.val) (⟨0,by omega⟩) rfl (by unfold rtI;exact gY) ?_;(rintro⟨s,hs⟩;rcases Nat.lt_or_eq_of_le hs with hsl|hsl<;>first|(have es:T=s:=hsl.symm;subst es;(simp-dsimp only[rtI];refine zqS ?_))|(rcases Nat.eq_zero_or_pos s with h0|h0<;>first|(have hx:[AV.val (.bool (aG F s R))]=cB (lT F R (s+1)):=(by subst h0;rfl);(simp-dsimp only[rtI];refine zqS ?_))|(simp-dsimp only[rtI];refine zqS ?_))))|(refine ax ?_;refine Nxt.mk [0,2] (⟨s+1,by omega⟩) rfl (by unfold rtI;(try simp only[List.cons_append,List.nil_append]);refine Sub.mk2 ?_;(simp-dsimp(disch:=try exact vD) only[push_cast,simprocAttr,zx1,zx2,mr,gU,hx]);(repeat refine aI ?_);first|done|exact vI) zqO)|(refine ax ?_;refine Nxt.mk [0,3] (⟨s+1,by omega⟩) rfl (by unfold rtI;(try simp only[List.cons_append,List.nil_append]);refine Sub.mk2 ?_;(simp-dsimp(disch:=try exact vD) only[push_cast,simprocAttr,zx1,zx2,mr,gU,hx]);(repeat refine aI ?_);first|done|exact vI) zqO)|(refine ax ?_;refine Nxt.mk [0,1] (⟨s+1,by omega⟩) rfl (by unfold rtI;(try simp only[List.cons_append,List.nil_append]);refine Sub.mk2 ?_;(simp-dsimp(disch:=try exact vD) only[push_cast,simprocAttr,zx1,zx2,mr,gU,hx]);(repeat refine aI ?_);first|done|exact vI) zqO)|refine zqN ?_|refine gG (hv s (by omega)).down ?_|refine kE ?_|refine AX ?_|refine AY ?_|refine AZ ?_|refine kF ?_|(refine kG ?_ ?_<;>intro hc<;>try exact zqM))
 all_goals first
  |(((refine Ends.frz 1 ?_;simp-dsimp(disch:=try exact vD) only[push_cast,simprocAttr,Tryz.f78,htk];(repeat refine aI ?_);intro K hK;refine hK _ _ ?_;clear hK K);refine Ends.mk2 zqI [] ?_;simp-dsimp(disch:=try exact vD) only[push_cast,simprocAttr,Tryz.f78,htk];try exact zqF);done)
  |skip
structure RfI(n:Int)(L:List Fk)(i:Nat):Prop where
 v0:0≤(L.getD i default).v
 v1:(L.getD i default).v<n
 l0:0≤(L.getD i default).lo
 h0:0≤(L.getD i default).hi
 l1:(L.getD i default).lo<i+2
 h1:(L.getD i default).hi<i+2
theorem uL(h:n<0∨12<n):ACall Tryz.prog 50 [dI z n L N r] [] 0 (.val (.int .i64 7)) []:=by
 unfold dI
 rcases h with h|h
 all_goals(refine ak Tryz.func50 Tryz.ntmps50 rfl ?_)
 all_goals repeat' (first|refine zqN ?_|refine aK ?_|refine aL ?_|(refine aM ?_ ?_<;>intro hc<;>try exact zqM)|refine zqR 9 [⟨0,[],[],[],[],0⟩,⟨1,[0],[],[],[],0⟩,⟨2,[0,1],[],[],[],0⟩,⟨3,[0,1,2],[],[],[],0⟩,⟨4,[0,1,2,3],[70,71,72,73,74],[],[],0⟩,⟨5,[0,1,2,3],[69,72,73],[],[],0⟩,⟨6,[0,1,2,3,5],[69,72,73],[],[],0⟩,⟨7,[0,1,2,3],[69,70,71],[],[],0⟩,⟨8,[0,1,2,3,7],[69,70,71],[],[],0⟩,⟨9,[0,1,2,3,5,6,7,8],[69],[],[],0⟩,⟨10,[0,1,2,3,4,5,6,7,8,9],[],[],[],0⟩,⟨11,[0,1,2,3,4,5,6,7,8,9,10],[],[],[],0⟩,⟨12,[0,1,2,3,4,5,6,7,8,9,10,11],[],[],[],0⟩] ?_|refine zqD ?_|fail)
 all_goals first
  |((refine Ends.mk2 zqI [] ?_;simp-dsimp(disch:=try exact vD) only[push_cast,simprocAttr,Tryz.f50];try exact zqF);done)
  |skip
def rvJ(z:Bool)(n q:Int)(L:List Fk)(N:Nat)(i:{i:Nat // i≤N∧∀j,j<i→RfI n L j}):St:=
 ⟨78,0,[(1,.pt 0 0),(3,.val (.int .i64 i.val))],[(0,some (.cells [.val (.int .i64 n),.isl z (cR L) N,.val (.int .i64 q)] 29))]⟩
theorem Bn(h0:0≤n)(h12:n≤12)(hN:L.length=N)(hN2:N≤1000)(h:¬∀j,j<N→RfI n L j):ACall Tryz.prog 50 [dI z n L N r] [] 0 (.val (.int .i64 1)) []:=by
 have hz:0≤N∧∀j,j<0→RfI n L j:=⟨Nat.zero_le _,fun j hj=>absurd hj (by omega)⟩
 have zx1:=ae
 unfold dI
 refine ak Tryz.func50 Tryz.ntmps50 rfl ?_
 have zx2:= @lU;have zx3:=aC;repeat' (first|(refine ai ?_;refine au [0] ([0].length) (rvJ z n r L N) (fun i=>N-i.val) (⟨0,hz⟩) rfl (by unfold rvJ;exact eQ) ?_;(rintro⟨i,hi1,hok⟩;rcases Nat.lt_or_eq_of_le hi1 with hil|hil<;>first|(exfalso;rw[hil] at hok;exact h hok)|(obtain⟨x,zx1⟩:∃x,L.getD i default=x:=⟨_,rfl⟩;obtain⟨v,lo,hi⟩:=x;(simp-dsimp only[rvJ];refine zqS ?_))))|(refine ax ?_;refine Nxt.mk [0] (⟨i+1,by omega,fun j hj=>by rcases Nat.lt_or_eq_of_le (Nat.le_of_lt_succ hj) with h|h;exact hok j h;rw[h];refine⟨?_,?_,?_,?_,?_,?_⟩<;>rw[zx1]<;>first|assumption|omega|(dsimp only;omega)⟩) rfl (by unfold rvJ;exact eQ) zqO)|refine zqN ?_|refine bM ?_|refine bO ?_|(refine bP ?_ ?_<;>intro hc<;>try exact zqM)|refine zqR 9 [⟨0,[],[],[],[],0⟩,⟨1,[0],[],[],[],0⟩,⟨2,[0,1],[],[],[],0⟩,⟨3,[0,1,2],[],[],[],0⟩,⟨4,[0,1,2,3],[70,71,72,73,74],[],[],0⟩,⟨5,[0,1,2,3],[69,72,73],[],[],0⟩,⟨6,[0,1,2,3,5],[69,72,73],[],[],0⟩,⟨7,[0,1,2,3],[69,70,71],[],[],0⟩,⟨8,[0,1,2,3,7],[69,70,71],[],[],0⟩,⟨9,[0,1,2,3,5,6,7,8],[69],[],[],0⟩,⟨10,[0,1,2,3,4,5,6,7,8,9],[],[],[],0⟩,⟨11,[0,1,2,3,4,5,6,7,8,9,10],[],[],[],0⟩,⟨12,[0,1,2,3,4,5,6,7,8,9,10,11],[],[],[],0⟩] ?_|refine zqD ?_|fail)
 all_goals first
  |((refine Ends.mk2 zqI [] ?_;simp-dsimp(disch:=try exact vD) only[push_cast,simprocAttr,Tryz.f50];try exact zqF);done)
  |skip
theorem wZ(h0:0≤n)(h12:n≤12)(hN:L.length=N)(hN2:N≤1000)(h:∀j,j<N→RfI n L j)(hr:r<0):ACall Tryz.prog 50 [dI z n L N r] [] 0 (.val (.int .i64 1)) []:=by
 have hz:0≤N∧∀j,j<0→RfI n L j:=⟨Nat.zero_le _,fun j hj=>absurd hj (by omega)⟩
 have zx1:=ae
 unfold dI
 refine ak Tryz.func50 Tryz.ntmps50 rfl ?_
 have zx2:= @lU;have zx3:=aC;repeat' (first|(refine ai ?_;refine au [0] ([0].length) (rvJ z n r L N) (fun i=>N-i.val) (⟨0,hz⟩) rfl (by unfold rvJ;exact eQ) ?_;(rintro⟨i,hi1,hok⟩;rcases Nat.lt_or_eq_of_le hi1 with hil|hil<;>first|(have ei:N=i:=hil.symm;subst ei;(simp-dsimp only[rvJ];refine zqS ?_))|(obtain⟨x,zx1⟩:∃x,L.getD i default=x:=⟨_,rfl⟩;obtain⟨v,lo,hi⟩:=x;obtain⟨a1,a2,a3,a4,a5,a6⟩:=h i hil;rw[zx1] at a1 a2 a3 a4 a5 a6;dsimp only at a1 a2 a3 a4 a5 a6;(simp-dsimp only[rvJ];refine zqS ?_))))|(refine ax ?_;refine Nxt.mk [0] (⟨i+1,by omega,fun j hj=>h j (by omega)⟩) rfl (by unfold rvJ;exact eQ) zqO)|refine zqN ?_|refine bM ?_|refine bO ?_|(refine bP ?_ ?_<;>intro hc<;>try exact zqM)|refine zqR 9 [⟨0,[],[],[],[],0⟩,⟨1,[0],[],[],[],0⟩,⟨2,[0,1],[],[],[],0⟩,⟨3,[0,1,2],[],[],[],0⟩,⟨4,[0,1,2,3],[70,71,72,73,74],[],[],0⟩,⟨5,[0,1,2,3],[69,72,73],[],[],0⟩,⟨6,[0,1,2,3,5],[69,72,73],[],[],0⟩,⟨7,[0,1,2,3],[69,70,71],[],[],0⟩,⟨8,[0,1,2,3,7],[69,70,71],[],[],0⟩,⟨9,[0,1,2,3,5,6,7,8],[69],[],[],0⟩,⟨10,[0,1,2,3,4,5,6,7,8,9],[],[],[],0⟩,⟨11,[0,1,2,3,4,5,6,7,8,9,10],[],[],[],0⟩,⟨12,[0,1,2,3,4,5,6,7,8,9,10,11],[],[],[],0⟩] ?_|refine zqD ?_|fail)
 all_goals first
  |((refine Ends.mk2 zqI [] ?_;simp-dsimp(disch:=try exact vD) only[push_cast,simprocAttr,Tryz.f50];try exact zqF);done)
  |skip
theorem vC{tb:List AV} {W:List AV} {K:Nat} {w:Int} {zw:Bool}(h0:0≤n)(h12:n≤12)(hN:L.length=N)(hN2:N≤1000)(h:∀j,j<N→RfI n L j)(hr:0≤r)
 (ht:ACall Tryz.prog 78 [dI z n L N r] [] 0 (.isl false tb T) []) (hf:ACall Tryz.prog 42 [.val (.int .i64 n),.isl false tb T] [] 0 (.agg [.val (.int .i64 n),.isl zw W K,.val (.int .i64 w)]) [])
 (he:ACall Tryz.prog 82 [dI z n L N r,.agg [.val (.int .i64 n),.isl zw W K,.val (.int .i64 w)]] [] 0 (.val (.bool b)) []):ACall Tryz.prog 50 [dI z n L N r] [] 0 (.val (.int .i64 (if b=true then 0 else 1))) []:=by
 have hz:0≤N∧∀j,j<0→RfI n L j:=⟨Nat.zero_le _,fun j hj=>absurd hj (by omega)⟩
 have zx1:=ae
 have ht:=PLift.up ht;have hf:=PLift.up hf;have he:=PLift.up he
 unfold dI at*
 cases b
 all_goals(refine ak Tryz.func50 Tryz.ntmps50 rfl ?_)
 all_goals(have zx2:= @lU;have zx3:=aC;repeat' (first|(refine ai ?_;refine au [0] ([0].length) (rvJ z n r L N) (fun i=>N-i.val) (⟨0,hz⟩) rfl (by unfold rvJ;exact eQ) ?_;(rintro⟨i,hi1,hok⟩;rcases Nat.lt_or_eq_of_le hi1 with hil|hil<;>first|(have ei:N=i:=hil.symm;subst ei;(simp-dsimp only[rvJ];refine zqS ?_))|(obtain⟨x,zx1⟩:∃x,L.getD i default=x:=⟨_,rfl⟩;obtain⟨v,lo,hi⟩:=x;obtain⟨a1,a2,a3,a4,a5,a6⟩:=h i hil;rw[zx1] at a1 a2 a3 a4 a5 a6;dsimp only at a1 a2 a3 a4 a5 a6;(simp-dsimp only[rvJ];refine zqS ?_))))|(refine ax ?_;refine Nxt.mk [0] (⟨i+1,by omega,fun j hj=>h j (by omega)⟩) rfl (by unfold rvJ;exact eQ) zqO)|refine zqN ?_|refine bE ht.down ?_|refine bE hf.down ?_|refine bE he.down ?_|refine bM ?_|refine bO ?_|(refine bP ?_ ?_<;>intro hc<;>try exact zqM)|refine zqR 9 [⟨0,[],[],[],[],0⟩,⟨1,[0],[],[],[],0⟩,⟨2,[0,1],[],[],[],0⟩,⟨3,[0,1,2],[],[],[],0⟩,⟨4,[0,1,2,3],[70,71,72,73,74],[],[],0⟩,⟨5,[0,1,2,3],[69,72,73],[],[],0⟩,⟨6,[0,1,2,3,5],[69,72,73],[],[],0⟩,⟨7,[0,1,2,3],[69,70,71],[],[],0⟩,⟨8,[0,1,2,3,7],[69,70,71],[],[],0⟩,⟨9,[0,1,2,3,5,6,7,8],[69],[],[],0⟩,⟨10,[0,1,2,3,4,5,6,7,8,9],[],[],[],0⟩,⟨11,[0,1,2,3,4,5,6,7,8,9,10],[],[],[],0⟩,⟨12,[0,1,2,3,4,5,6,7,8,9,10,11],[],[],[],0⟩] ?_|refine zqD ?_|fail))
 all_goals first
  |((refine Ends.mk2 zqI [] ?_;simp-dsimp(disch:=try exact vD) only[push_cast,simprocAttr,Tryz.f50];try exact zqF);done)
  |skip
theorem TR(h:¬VOk m L r)(hN:L.length=N)(hm:m≤9)(hN2:N≤1000)(hr63:r<2^63):ACall Tryz.prog 50 [dI z m L N r] [] 0 (.val (.int .i64 1)) []:=by
 by_cases hb:∀j,j<N→RfI m L j
 ·by_cases hr:r<0
  ·exact wZ (by omega) (by omega) hN (by omega) hb hr
  ·obtain⟨R,rfl⟩:=Int.eq_ofNat_of_zero_le (show 0≤r by omega)
   have hL:(L.map tof).map fk=L:=YK fun i hi=>⟨(hb i (by omega)).v0,(hb i (by omega)).l0,(hb i (by omega)).h0⟩
   obtain⟨F,hF⟩:∃F,L.map tof=F:=⟨_,rfl⟩
   rw[hF] at hL
   have hFN:F.length=N:=by rw[←hF,List.length_map,hN]
   have hbd:Bnd F:=fun k hk=>by
    have o:=hb k (by omega)
    have o1:=o.l1;have o2:=o.h1
    rw[←hL,fkL hk] at o1 o2
    have b1:((F.getD k default).lo:Int)<k+2:=o1
    have b2:((F.getD k default).hi:Int)<k+2:=o2
    omega
   have h16:∀k,k<F.length→(F.getD k default).v<16:=fun k hk=>by
    have o:=(hb k (by omega)).v1
    rw[←hL,fkL hk] at o
    have b1:((F.getD k default).v:Int)<m:=o
    omega
   have ht:=vz (z:=z) (R:=R) (by omega) hbd h16 hFN (by omega) (by omega) (rfl:2^m=2^m)
   have hf:=lV (n:=m) (tb:=lT F R (2^m)) (M:=2^m) (by omega) gU rfl
   rw[yA rfl] at hf
   obtain⟨⟨D,w⟩,hD⟩:∃X,(fC m fun t=>aG F t R)=X:=⟨_,rfl⟩
   rw[hD] at hf
   have heq:=EF (z:=z) (z':=(D.length==0)) (p:=(m:Int)) (p':=(m:Int)) (q:=(R:Int)) (q':=(w:Int)) (L:=F.map fk) (L':=D.map fk) (by rw[List.length_map];omega)
   have hne:decide ((m:Int)=m∧(R:Int)=w∧F.map fk=D.map fk)=false:=by
    rw[decide_eq_false_iff_not]
    rintro⟨_,h1,h2⟩
    have e2:F=D:=List.map_inj_right (f:=fk) (fun x y hxy=>by
     cases x;cases y
     simp only[fk,Fk.mk.injEq] at hxy
     simp only[Fo.mk.injEq];omega) |>.1 h2
    have e1:R=w:=by omega
    have ho:=nD (n:=m) (tab:=fun t=>aG F t R) hm
    rw[hD,←e2,←e1] at ho
    exact h ⟨F,R,hL.symm,rfl,ho⟩
   rw[hne,←mP,←mP] at heq
   unfold dgV at heq hf
   have hx:=vC (z:=z) (L:=L) (b:=false) (show(0:Int)≤m by omega) (by omega) hN (by omega) hb (show(0:Int)≤(R:Int) by omega) (by unfold dI;rw[←hL,gV];exact ht) hf (by unfold dI;rw[←hL,gV,←hFN];exact heq)
   rw[if_neg (by simp)] at hx
   exact hx
 ·exact Bn (by omega) (by omega) hN (by omega) hb
theorem yQ(h:VOk m L r)(hN:L.length=N)(hm:m≤12):ACall Tryz.prog 50 [dI z m L N r] [] 0 (.val (.int .i64 0)) []:=by
 obtain⟨F,R,rfl,rfl,hD⟩:=h
 rw[List.length_map] at hN
 have hf0:=hD.few;have hl0:=hD.lt
 have hb:∀j,j<N→RfI m (F.map fk) j:=fun j hj=>by
  have o:=YM hD.good (show j<F.length by omega)
  exact⟨o.v0,o.v1,o.l0,o.h0,o.l1,o.h1⟩
 have ht:=vz (z:=z) (R:=R) hm hD.bnd hD.v16 hN (by omega) (by omega) (rfl:2^m=2^m)
 have hf:=lV (n:=m) (tb:=lT F R (2^m)) (M:=2^m) (by omega) gU rfl
 rw[yA rfl,hD.eq (tab:=fun t=>aG F t R) fun _ _=>rfl] at hf
 have heq:=N9 (z:=z) (z':=(F.length==0)) (p:=(m:Int)) (q:=(R:Int)) (L:=F.map fk) (by rw[List.length_map];omega)
 rw[←mP,←mP] at heq
 unfold dgV at heq hf
 have hx:=vC (z:=z) (L:=F.map fk) (r:=(R:Int)) (b:=true) (show(0:Int)≤m by omega) (by omega) (by rw[List.length_map,hN]) (by omega) hb (by omega) (by unfold dI;rw[gV];exact ht) hf (by unfold dI;rw[gV,←hN];exact heq)
 rw[if_pos rfl] at hx
 exact hx
end
section
open Go Go.Sy Go.Lm Go.Rt Go.Dg
variable {n N np k i m j r T:Nat} {z z' zp:Bool} {ps xs:List RV} {L:List Fk} {X Y W:RV} {v c e e2 rt:Int} {p q:Rat}
def fpI(z:Bool)(xs:List RV)(n:Nat)(T:Nat)(j:{j:Nat // j≤T}):St:=
 ⟨19,0,[(0,.isl z (cR xs) n),(3,.val (.int .i64 j.val))],[]⟩
theorem Mx(hl:xs.length=n)(hn:n<2^40)(hX:∀i,i<n→RIn (xs.getD i default))(h0:∀i,i<n→pE (xs.getD i default)=0):ACall Tryz.prog 76 [.isl z (cR xs) n] [] 0 (.val (.int .i64 0)) []:=by
 have hp:=fun(i:Nat) (hi:i<n)=>PLift.up (by have:=rH (hX i hi);rw[h0 i hi] at this;exact this)
 clear h0 hX
 refine ak Tryz.func76 Tryz.ntmps76 rfl ?_
 repeat' (first|(refine ai ?_;refine au [] ([].length) (fpI z xs n n) (fun j=>n-j.val) (⟨0,Nat.zero_le _⟩) rfl (by unfold fpI;exact mO) ?_;(rintro⟨j,hj⟩;rcases Nat.lt_or_eq_of_le hj with hjl|hjl<;>first|(subst hjl;(simp-dsimp only[fpI];refine zqS ?_))|(simp-dsimp only[fpI];refine zqS ?_)))|(refine ax ?_;refine Nxt.mk [] (⟨j+1,by omega⟩) rfl (by unfold fpI;exact mO) zqO)|refine zqN ?_|refine az (hp j hjl).down ?_|refine aK ?_|refine aL ?_|(refine aM ?_ ?_<;>intro hc<;>try exact zqM))
 all_goals first
  |((refine Ends.mk2 zqI [] ?_;simp-dsimp(disch:=try exact vD) only[push_cast,simprocAttr,Tryz.f76];try exact zqF);done)
  |skip
theorem YR(hl:xs.length=n)(hn:n<2^40)(hT:T<n)(hX:∀i,i<n→RIn (xs.getD i default))(h0:∀i,i<T→pE (xs.getD i default)=0)(he:pE (xs.getD T default)=e)(hne:¬e=0):ACall Tryz.prog 76 [.isl z (cR xs) n] [] 0 (.val (.int .i64 e)) []:=by
 have hp:=fun(i:Nat) (hi:i<T)=>PLift.up (by have:=rH (hX i (by omega));rw[h0 i hi] at this;exact this)
 have hp2:=PLift.up (by have:=rH (hX T hT);rw[he] at this;exact this)
 clear h0 hX he
 refine ak Tryz.func76 Tryz.ntmps76 rfl ?_
 have zx1:= @hne;have zx2:=aC;have zx3:=aC;repeat' (first|(refine ai ?_;refine au [] ([].length) (fpI z xs n T) (fun j=>n-j.val) (⟨0,Nat.zero_le _⟩) rfl (by unfold fpI;exact eQ) ?_;(rintro⟨j,hj⟩;rcases Nat.lt_or_eq_of_le hj with hjl|hjl<;>first|(subst hjl;have hpj:=hp2;(simp-dsimp only[fpI];refine zqS ?_))|(have hpj:=hp j hjl;(simp-dsimp only[fpI];refine zqS ?_))))|(refine ax ?_;refine Nxt.mk [] (⟨j+1,by omega⟩) rfl (by unfold fpI;exact eQ) zqO)|refine zqN ?_|refine bE hpj.down ?_|refine bM ?_|refine bO ?_|(refine bP ?_ ?_<;>intro hc<;>try exact zqM))
 all_goals first
  |((refine Ends.mk2 zqI [] ?_;simp-dsimp(disch:=try exact vD) only[push_cast,simprocAttr,Tryz.f76];try exact zqF);done)
  |skip
theorem IY(hl:xs.length=n)(hn:n<2^40)(hX:∀i,i<n→RIn (xs.getD i default)):ACall Tryz.prog 76 [.isl z (cR xs) n] [] 0 (.val (.int .i64 (psE xs))) []:=by
 rcases Mm (xs:=xs) with h|⟨j,h1,h2,h3⟩
 ·rw[Yt h]
  exact Mx hl hn hX (by rw[←hl];exact h)
 ·rw[Yu h1 h2 h3]
  exact YR hl hn (by omega) hX h2 rfl h3
theorem QX(hv:ACall Tryz.prog 50 [dI z rt L N e2] [] 0 (.val (.int .i64 0)) [])(hne:¬(np:Int)=rt):ACall Tryz.prog 46 [dI z rt L N e2,.isl zp (cR ps) np] [] 0 (.val (.int .i64 6)) []:=by
 have hv:=PLift.up hv
 unfold dI at*
 refine ak Tryz.func46 Tryz.ntmps46 rfl ?_
 have zx1:= @hne;have zx2:=aC;have zx3:=aC;repeat' (first|refine zqN ?_|refine bE hv.down ?_|refine bM ?_|refine bO ?_|(refine bP ?_ ?_<;>intro hc<;>try exact zqM))
 all_goals first
  |((refine Ends.mk2 zqI [] ?_;simp-dsimp(disch:=try exact vD) only[push_cast,simprocAttr,Tryz.f46];try exact zqF);done)
  |skip
theorem Pd(hv:ACall Tryz.prog 50 [dI z np L N e2] [] 0 (.val (.int .i64 0)) [])(hp:ACall Tryz.prog 76 [.isl zp (cR ps) np] [] 0 (.val (.int .i64 e)) []):ACall Tryz.prog 46 [dI z np L N e2,.isl zp (cR ps) np] [] 0 (.val (.int .i64 e)) []:=by
 have hv:=PLift.up hv;have hp:=PLift.up hp
 unfold dI at*
 refine ak Tryz.func46 Tryz.ntmps46 rfl ?_
 repeat' (first|refine zqN ?_|refine az hv.down ?_|refine az hp.down ?_|refine aK ?_|refine aL ?_|(refine aM ?_ ?_<;>intro hc<;>try exact zqM))
 all_goals first
  |((refine Ends.mk2 zqI [] ?_;simp-dsimp(disch:=try exact vD) only[push_cast,simprocAttr,Tryz.f46];try exact zqF);done)
  |skip
end
section
open Go Go.Sy Go.Bp Go.Dg
variable {n N M T k i m r a b j w u v s q x y d:Nat} {z:Bool} {F:List Fo} {p f g:Nat→Bool}
theorem vE(h:s<T):(fD p T).getD s default=p s:=Qd h
theorem Pe:fD p s++[p s]=fD p (s+1):=by unfold fD;rw[List.range_succ];simp
end
section
open Go Go.Sy Go.Lm Go.Rt Go.Dg
variable {n N np k i m j r s T sv:Nat} {z z' zp zt:Bool} {ps xs:List RV} {L:List Fk} {F:List Fo} {X Y W ONE:RV} {A D S:Nat→RV} {v c e e2 rt:Int} {p:Nat→Rat} {tb:List Bool} {tab:Nat→Bool} {d:Nat→Nat}
theorem YS(h:i≤16):Int.fdiv (s:Int) (2^min i (IntKind.bits .i64))=sN s i:=by
 rw[show IntKind.bits .i64=64 from rfl,Nat.min_eq_left (by omega),Int.fdiv_eq_ediv_of_nonneg _ (Int.le_of_lt (Int.pow_pos (by decide)))]
 unfold sN
 rw[Nat.shiftRight_eq_div_pow,Int.natCast_ediv,Int.natCast_pow];rfl
theorem YT(hs:s<65536):IntKind.wrap .i64 ((BitVec.ofInt (IntKind.bits .i64) (sN s i)&&&BitVec.ofInt (IntKind.bits .i64) (1:Int)).toNat:Int)=bN s i:=by
 have hl:=VW (i:=i) hs
 unfold sN bN
 generalize s>>>i=w at*
 have e1:(BitVec.ofInt (IntKind.bits .i64) ((w:Nat):Int)).toNat=w:=by
  show(BitVec.ofInt 64 _).toNat=_
  rw[BitVec.toNat_ofInt];omega
 have e2:(BitVec.ofInt (IntKind.bits .i64) (1:Int)).toNat=1:=rfl
 rw[BitVec.toNat_and,e1,e2]
 have:w&&&1≤1:=Nat.and_le_right
 exact K8 (by omega)
abbrev zQ:List AV:=[.val (.bool false),.isl true [] 0,.val (.bool false),.isl true [] 0]
def alI(zp:Bool)(ps:List RV)(n s:Nat)(A:Nat→RV)(i:{i:Nat // i≤n}):St:=
 ⟨34,0,[(0,.val (.int .i64 s)),(1,.isl zp (cR ps) n),(4,.pt 0 0),(5,.pt 1 0),(6,.val (.int .i64 i.val))],[(0,some (.cells zQ 37)),(1,some (.cells (aa.cells (A i.val)) 37))]⟩
theorem ad6(hl:ps.length=n)(hn:n≤16)(hs:s<65536)(h0:ACall Tryz.prog 69 [.val (.int .i64 1)] [] 0 (.agg (aa.cells (A 0))) [])
 (hs1:∀i,i<n→ACall Tryz.prog 55 [.agg (aa.cells (A 0)),.agg (aa.cells (ps.getD i default))] [] 0 (.agg (aa.cells (D i))) [])
 (hm1:∀i,i<n→s.testBit i=true→ACall Tryz.prog 70 [.agg (aa.cells (A i)),.agg (aa.cells (D i))] [] 0 (.agg (aa.cells (A (i+1)))) [])
 (hm0:∀i,i<n→s.testBit i=false→ACall Tryz.prog 70 [.agg (aa.cells (A i)),.agg (aa.cells (ps.getD i default))] [] 0 (.agg (aa.cells (A (i+1)))) []):
 ACall Tryz.prog 77 [.val (.int .i64 s),.isl zp (cR ps) n] [] 0 (.agg (aa.cells (A n))) []:=by
 have g0:=PLift.up h0;have hs1:=PLift.up hs1;have hm1:=PLift.up hm1;have hm0:=PLift.up hm0
 clear h0
 have zx1:=ae;have zx2:=ae
 have zx3:=fun(i:Nat)=>YT (i:=i) hs
 refine ak Tryz.func77 Tryz.ntmps77 rfl ?_
 repeat' (first|(refine ai ?_;refine au [0,1] ([0,1].length) (alI zp ps n s A) (fun i=>n-i.val) (⟨0,Nat.zero_le _⟩) rfl (by unfold alI;exact eQ) ?_;(rintro⟨i,hi⟩;rcases Nat.lt_or_eq_of_le hi with hil|hil<;>first|(subst hil;(simp-dsimp only[alI];refine zqS ?_))|(have zx2:=YS (s:=s) (i:=i) (by omega);rcases Bool.eq_false_or_eq_true (s.testBit i) with zx1|zx1<;>(simp-dsimp only[alI];refine zqS ?_))))|(refine ax ?_;refine Nxt.mk [0,1] (⟨i+1,by omega⟩) rfl (by unfold alI;exact eQ) zqO)|refine zqN ?_|refine bE g0.down ?_|refine bE (hs1.down i hil) ?_|refine bE (hm1.down i hil zx1) ?_|refine bE (hm0.down i hil zx1) ?_|refine bM ?_|refine bO ?_|(refine bP ?_ ?_<;>intro hc<;>try exact zqM)|refine zqR 6 [⟨0,[],[20,21,22,23,24,25],[],[],0⟩,⟨1,[],[19,21,22,23,24],[],[],0⟩,⟨2,[],[19,20,22],[],[],0⟩,⟨3,[],[19,20,21],[],[],0⟩,⟨4,[2,3],[19,20],[],[],0⟩,⟨5,[2,3,4],[19,20],[],[],0⟩,⟨6,[1,2,3,4,5],[19],[],[],0⟩,⟨7,[0,1,2,3,4,5,6],[],[],[],0⟩,⟨8,[0,1,2,3,4,5,6,7],[],[],[4],0⟩] ?_|refine zqR 7 [⟨0,[],[28,29,30,31],[],[],0⟩,⟨1,[],[27,29],[],[],0⟩,⟨2,[],[27,28],[],[],0⟩,⟨3,[1,2],[27],[],[],0⟩,⟨4,[1,2,3],[27],[],[],0⟩,⟨5,[0,1,2,3,4],[],[],[],0⟩,⟨6,[0,1,2,3,4,5],[],[],[4],0⟩] ?_|refine zqD ?_|fail)
 all_goals first
  |((refine Ends.mk2 zqI [] ?_;simp-dsimp(disch:=try exact vD) only[push_cast,simprocAttr,Tryz.f77];try exact zqF);done)
  |skip
theorem QY(h:Cs p d n)(hn:n≤12)(hi:i≤n):Sm (al p s i):=by
 have hb:=YF (s:=s) h hi
 have e:2^i≤2^12:=Nat.pow_le_pow_right (by omega) (by omega)
 exact h.sm hn (i:=0) (k:=i) (by omega) hb (by have:(2:Nat)^12≤10^60:=by decide
                                               omega)
theorem MB(hl:ps.length=n)(hn:n≤12)(hs:s<65536)(hC:Cs p d n)(hP:Ps ps p n):ACall Tryz.prog 77 [.val (.int .i64 s),.isl zp (cR ps) n] [] 0 (.agg (aa.cells (rC (al p s n)))) []:=by
 refine ad6 (A:=fun i=>rC (al p s i)) (D:=fun i=>rC (1-p i)) hl (by omega) hs ?_ (fun i hi=>?_) (fun i hi hb=>?_) (fun i hi hb=>?_)
 ·exact IX
 ·obtain⟨zi,ei,hsi⟩:=hP i hi
  rw[ei];exact DK IM hsi
 ·have a:=QY (s:=s) hC hn (show i≤n by omega)
  have b:=O9 hC hi
  show ACall _ _ _ _ _ (.agg (aa.cells (rC (al p s (i+1))))) _
  rw[aiV hb]
  have:=w9 (cu a) (cu b)
  rw[←eF,←eF] at this;exact this
 ·obtain⟨zi,ei,hsi⟩:=hP i hi
  have a:=QY (s:=s) hC hn (show i≤n by omega)
  show ACall _ _ _ _ _ (.agg (aa.cells (rC (al p s (i+1))))) _
  rw[aiW hb,ei]
  have:=w9 (cu a) hsi
  rw[←eF] at this;exact this
def smI(zt zp:Bool)(tb:List Bool)(T:Nat)(ps:List RV)(n:Nat)(S:Nat→RV)(s:{s:Nat // s≤T}):St:=
 ⟨24,0,[(0,.isl zt (cB tb) T),(1,.isl zp (cR ps) n),(4,.pt 0 0),(5,.pt 1 0),(6,.val (.int .i64 s.val))],[(0,some (.cells zQ 37)),(1,some (.cells (aa.cells (S s.val)) 37))]⟩
theorem aln(hl:tb.length=T)(hT:T<2^40)(h0:ACall Tryz.prog 69 [.val (.int .i64 0)] [] 0 (.agg (aa.cells (S 0))) [])
 (ha:∀s,s<T→ACall Tryz.prog 77 [.val (.int .i64 s),.isl zp (cR ps) n] [] 0 (.agg (aa.cells (A s))) [])
 (hd:∀s,s<T→tb.getD s default=true→ACall Tryz.prog 71 [.agg (aa.cells (S s)),.agg (aa.cells (A s))] [] 0 (.agg (aa.cells (S (s+1)))) [])
 (hz:∀s,s<T→tb.getD s default=false→S (s+1)=S s):
 ACall Tryz.prog 47 [.isl zt (cB tb) T,.isl zp (cR ps) n] [] 0 (.agg (aa.cells (S T))) []:=by
 have g0:=PLift.up h0;have ha:=PLift.up ha;have hd:=PLift.up hd
 clear h0
 have zx1:=ae;have zx2:=ae
 refine ak Tryz.func47 Tryz.ntmps47 rfl ?_
 have zx3:=aC;repeat' (first|(refine ai ?_;refine au [0,1] ([0,1].length) (smI zt zp tb T ps n S) (fun s=>T-s.val) (⟨0,Nat.zero_le _⟩) rfl (by unfold smI;exact eQ) ?_;(rintro⟨s,hs⟩;rcases Nat.lt_or_eq_of_le hs with hsl|hsl<;>first|(subst hsl;(simp-dsimp only[smI];refine zqS ?_))|(rcases Bool.eq_false_or_eq_true (tb.getD s default) with zx1|zx1<;>first|(have zx2:=hz s hsl zx1;(simp-dsimp only[smI];refine zqS ?_))|(simp-dsimp only[smI];refine zqS ?_))))|(refine ax ?_;refine Nxt.mk [0,1] (⟨s+1,by omega⟩) rfl (by unfold smI;exact eQ) zqO)|refine zqN ?_|refine bE g0.down ?_|refine bE (ha.down s hsl) ?_|refine bE (hd.down s hsl zx1) ?_|refine bM ?_|refine bO ?_|(refine bP ?_ ?_<;>intro hc<;>try exact zqM)|refine zqR 6 [⟨0,[],[19,20,21],[],[],0⟩,⟨1,[],[18,20],[],[],0⟩,⟨2,[],[18,19],[],[],0⟩,⟨3,[1,2],[18],[],[],0⟩,⟨4,[0,1,2,3],[],[],[],0⟩,⟨5,[0,1,2,3,4],[],[],[4],0⟩] ?_|refine zqD ?_|fail)
 all_goals first
  |((refine Ends.mk2 zqI [] ?_;simp-dsimp(disch:=try exact vD) only[push_cast,simprocAttr,Tryz.f47];try exact zqF);done)
  |skip
theorem vF(hps:ps.length=n)(hn:n≤12)(hC:Cs p d n)(hP:Ps ps p n):ACall Tryz.prog 47 [.isl zt (cB (fD tab (2^n))) (2^n),.isl zp (cR ps) n] [] 0 (.agg (aa.cells (rC (Pr p n tab)))) []:=by
 have e:2^n≤2^12:=Nat.pow_le_pow_right (by omega) hn
 rw[←Yw]
 refine aln (S:=fun s=>rC (sB p n tab s)) (A:=fun s=>rC (al p s n)) bR (by omega) Mw (fun s hs=>MB hps hn (by omega) hC hP) (fun s hs hb=>?_) (fun s hs hb=>?_)
 ·have a:=ae5 (tab:=tab) (s:=s) hC hn (by omega)
  have b:=QY (s:=s) hC hn (Nat.le_refl n)
  rw[vE hs] at hb
  show ACall _ _ _ _ _ (.agg (aa.cells (rC (sB p n tab (s+1))))) _
  rw[adN hb]
  have:=Kj (cu a) (cu b)
  rw[←eF,←eF] at this;exact this
 ·rw[vE hs] at hb
  show rC (sB p n tab (s+1))=rC (sB p n tab s)
  rw[adO hb]
end
section
open Go Go.Sy Go.Lm Go.Rt Go.Dg
variable {n N np k i m j r s T sv:Nat} {z z' zp zt:Bool} {ps xs:List RV} {L:List Fk} {F:List Fo} {X Y W A B V:RV} {v c e e2 rt:Int} {p:Nat→Rat} {tab f:Nat→Bool}
theorem MC:(cB (fD f T)).take T=cB (fD f T):=List.take_of_length_le (by rw[cB_len,bR];exact Nat.le_refl _)
end
section
open Go Go.Sy Go.Lm Go.Rt Go.Dg
variable {n N k i m j r a b:Nat} {z z' zp:Bool} {ps xs:List RV} {L:List Fk} {X Y W ONE:RV} {D:Nat→RV} {B:Nat→Bool} {v c e rt nn:Int} {p:Nat→Rat}
def fwI(zp:Bool)(ps:List RV)(n T:Nat)(i:{i:Nat // i≤T}):St:=
 ⟨19,0,[(0,.isl zp (cR ps) n),(3,.val (.int .i64 i.val))],[]⟩
theorem als(hl:ps.length=n)(hn:n<2^47)(h:∀i,i<n→ACall Tryz.prog 51 [.agg (aa.cells (ps.getD i default)),.val (.int .i64 40)] [] 0 (.val (.bool true)) []):
 ACall Tryz.prog 19 [.isl zp (cR ps) n] [] 0 (.val (.bool (decide (n≤14)))) []:=by
 have h:=PLift.up h
 have zx1:((n:Int)≤14)=(n≤14):=propext (by omega)
 refine ak Tryz.func19 Tryz.ntmps19 rfl ?_
 have zx2:=aC;have zx3:=aC;repeat' (first|(refine ai ?_;refine au [] ([].length) (fwI zp ps n n) (fun i=>n-i.val) (⟨0,Nat.zero_le _⟩) rfl (by unfold fwI;exact eQ) ?_;(rintro⟨i,hi⟩;rcases Nat.lt_or_eq_of_le hi with hil|hil<;>first|(subst hil;(simp-dsimp only[fwI];refine zqS ?_))|(simp-dsimp only[fwI];refine zqS ?_)))|(refine ax ?_;refine Nxt.mk [] (⟨i+1,by omega⟩) rfl (by unfold fwI;exact eQ) zqO)|refine zqN ?_|refine bE (h.down i hil) ?_|refine bM ?_|refine bO ?_|(refine bP ?_ ?_<;>intro hc<;>try exact zqM))
 all_goals first
  |((refine Ends.mk2 zqI [] ?_;simp-dsimp(disch:=try exact vD) only[push_cast,simprocAttr,Tryz.f19,zx1];try exact zqF);done)
  |skip
theorem alu(hl:ps.length=n)(hn:n<2^47)(hk:k<n)(h:∀i,i<k→ACall Tryz.prog 51 [.agg (aa.cells (ps.getD i default)),.val (.int .i64 40)] [] 0 (.val (.bool true)) [])(hb:ACall Tryz.prog 51 [.agg (aa.cells (ps.getD k default)),.val (.int .i64 40)] [] 0 (.val (.bool false)) []):
 ACall Tryz.prog 19 [.isl zp (cR ps) n] [] 0 (.val (.bool false)) []:=by
 have h:=PLift.up h;have hb:=PLift.up hb
 have hfw:=ae
 refine ak Tryz.func19 Tryz.ntmps19 rfl ?_
 repeat' (first|(refine ai ?_;refine au [] ([].length) (fwI zp ps n k) (fun i=>k-i.val) (⟨0,Nat.zero_le _⟩) rfl (by unfold fwI;exact mO) ?_;(rintro⟨i,hi⟩;rcases Nat.lt_or_eq_of_le hi with hil|hil<;>first|(subst hil;have hfw:=hb;(simp-dsimp only[fwI];refine zqS ?_))|(have hfw:=PLift.up (h.down i hil);(simp-dsimp only[fwI];refine zqS ?_))))|(refine ax ?_;refine Nxt.mk [] (⟨i+1,by omega⟩) rfl (by unfold fwI;exact mO) zqO)|refine zqN ?_|refine az hfw.down ?_|refine aK ?_|refine aL ?_|(refine aM ?_ ?_<;>intro hc<;>try exact zqM))
 all_goals first
  |((refine Ends.mk2 zqI [] ?_;simp-dsimp(disch:=try exact vD) only[push_cast,simprocAttr,Tryz.f19];try exact zqF);done)
  |skip
theorem Pj(hl:ps.length=n)(hn:n<2^47)(hx:∀i,i<n→MP (ps.getD i default)):∃r:Bool,(r=true→n≤14)∧ACall Tryz.prog 19 [.isl zp (cR ps) n] [] 0 (.val (.bool r)) []:=by
 have hf:=fun i hi=>Mf (k:=40) (hx i hi) (by decide)
 generalize hB:(fun i:Nat=>decide ((ps.getD i default).num.l.length≤40)&&decide ((ps.getD i default).den.l.length≤40))=B at hf
 have hf:∀i,i<n→ACall Tryz.prog 51 [.agg (aa.cells (ps.getD i default)),.val (.int .i64 40)] [] 0 (.val (.bool (B i))) []:=fun i hi=>by rw[←hB];exact Mf (k:=40) (hx i hi) (by decide)
 have key:∀k,k≤n→(∀i,i<k→B i=true)∨∃j,j<n∧B j=false∧∀i,i<j→B i=true:=by
  intro k
  induction k with
  |zero=>exact fun _=> .inl fun i h=>absurd h (Nat.not_lt_zero i)
  |succ k ih=>
   intro hk
   rcases ih (by omega) with h|h
   ·rcases Bool.eq_false_or_eq_true (B k) with hb|hb
    ·exact .inl fun i hi=>by
      rcases Nat.lt_or_eq_of_le (Nat.le_of_lt_succ hi) with h1|h1
      ·exact h i h1
      ·rw[h1];exact hb
    ·exact .inr ⟨k,by omega,hb,h⟩
   ·exact .inr h
 rcases key n (Nat.le_refl n) with h|⟨j,hj,hb,h⟩
 ·exact⟨_,fun hd=>of_decide_eq_true hd,als hl hn fun i hi=>by have:=hf i hi;rw[h i hi] at this;exact this⟩
 ·exact⟨false,fun hd=>(by cases hd),alu hl hn hj (fun i hi=>by have:=hf i (by omega);rw[h i hi] at this;exact this) (by have:=hf j hj;rw[hb] at this;exact this)⟩
theorem TY(hN:1010<N)(hN2:N<2^47):ACall Tryz.prog 18 [dI z nn L N rt] [] 0 (.val (.bool false)) []:=by
 unfold dI
 refine ak Tryz.func18 Tryz.ntmps18 rfl ?_
 repeat' (first|refine zqN ?_|refine aK ?_|refine aL ?_|(refine aM ?_ ?_<;>intro hc<;>try exact zqM))
 all_goals first
  |((refine Ends.mk2 zqI [] ?_;simp-dsimp(disch:=try exact vD) only[push_cast,simprocAttr,Tryz.f18];try exact zqF);done)
  |skip
theorem Q4(hN:N≤1010)(h:nn≤6):ACall Tryz.prog 18 [dI z nn L N rt] [] 0 (.val (.bool true)) []:=by
 unfold dI
 refine ak Tryz.func18 Tryz.ntmps18 rfl ?_
 repeat' (first|refine zqN ?_|refine aK ?_|refine aL ?_|(refine aM ?_ ?_<;>intro hc<;>try exact zqM))
 all_goals first
  |((refine Ends.mk2 zqI [] ?_;simp-dsimp(disch:=try exact vD) only[push_cast,simprocAttr,Tryz.f18];try exact zqF);done)
  |skip
theorem Kk(hN:N≤1010)(h:6<nn)(hv:ACall Tryz.prog 50 [dI z nn L N rt] [] 0 (.val (.int .i64 e)) []):ACall Tryz.prog 18 [dI z nn L N rt] [] 0 (.val (.bool (!decide (e=0)))) []:=by
 unfold dI at*
 have hv:=PLift.up hv
 refine ak Tryz.func18 Tryz.ntmps18 rfl ?_
 repeat' (first|refine zqN ?_|refine az hv.down ?_|refine aK ?_|refine aL ?_|(refine aM ?_ ?_<;>intro hc<;>try exact zqM))
 all_goals first
  |((refine Ends.mk2 zqI [] ?_;simp-dsimp(disch:=try exact vD) only[push_cast,simprocAttr,Tryz.f18];try exact zqF);done)
  |skip
end
end
