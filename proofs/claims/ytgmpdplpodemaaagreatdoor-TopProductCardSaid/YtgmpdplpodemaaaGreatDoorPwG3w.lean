/- Ld2 Ld3 Pw3w Sx3_3 Sx5 Rr3 So9w Pw9w Sx3_9 Bh9w Rr9 Ld9 Ld4 LdA Pr9. No condition. -/
import Derived.Test.YtgmpdplpodemaaaGreatDoorPq_0
import Derived.Test.YtgmpdplpodemaaaGreatDoorPq_1
import Derived.Test.YtgmpdplpodemaaaGreatDoorPq_2
import Derived.Test.YtgmpdplpodemaaaGreatDoorPq_3
import Derived.Test.YtgmpdplpodemaaaGreatDoorPq_4
import Derived.Test.YtgmpdplpodemaaaGreatDoorPq_5
import Derived.Test.YtgmpdplpodemaaaGreatDoorPwG30
import Derived.Test.YtgmpdplpodemaaaGreatDoorRnG3
import Derived.Test.YtgmpdplpodemaaaGreatDoorPw9_0
import Derived.Test.YtgmpdplpodemaaaGreatDoorPw9_1
import Derived.Test.YtgmpdplpodemaaaGreatDoorPw9_2
import Derived.Test.YtgmpdplpodemaaaGreatDoorPw9_3
import Derived.Test.YtgmpdplpodemaaaGreatDoorPw9_4
import Derived.Test.YtgmpdplpodemaaaGreatDoorPw9_5
import Derived.Test.YtgmpdplpodemaaaGreatDoorPw9_6
import Derived.Test.YtgmpdplpodemaaaGreatDoorPw9_7
import Derived.Test.YtgmpdplpodemaaaGreatDoorPw9_8
import Derived.Test.YtgmpdplpodemaaaGreatDoorPw9_9
import Derived.Test.YtgmpdplpodemaaaGreatDoorPw9_10
import Derived.Test.YtgmpdplpodemaaaGreatDoorPw9_11
import Derived.Test.YtgmpdplpodemaaaGreatDoorPw9_12
import Derived.Test.YtgmpdplpodemaaaGreatDoorPw9_13
import Derived.Test.YtgmpdplpodemaaaGreatDoorPw9_14
import Derived.Test.YtgmpdplpodemaaaGreatDoorPw9_15
import Derived.Test.YtgmpdplpodemaaaGreatDoorPw9_16
import Derived.Test.YtgmpdplpodemaaaGreatDoorPw9v0
import Derived.Test.YtgmpdplpodemaaaGreatDoorPw9v1
import Derived.Test.YtgmpdplpodemaaaGreatDoorPw9v2
import Derived.Test.YtgmpdplpodemaaaGreatDoorBhG90
import Derived.Test.YtgmpdplpodemaaaGreatDoorBhG93
import Derived.Test.YtgmpdplpodemaaaGreatDoorBhG96
set_option linter.all false
set_option maxHeartbeats 4000000
set_option maxRecDepth 20000
namespace Go.Proofs.YtgmpdplpodemaaaGreatDoor
section
open Go Go.Sy Go.Bp Go.Lm Go.Rt Go.Sx
attribute [local irreducible] AO AL AC OpT ACall Ends DGo aK Thn Blk Nxt
variable {n N k i j m:Nat} {p q:Rat} {wr:List Nat} {T:Tab}
def ssF(wr:List Nat)(m:Nat)(T:Tab):List Sh:=(ksO m wr.length T).map λk=>⟨wr.getD 0 default,wr.getD k default,rC (shF m wr.length T k)⟩
theorem xV:(ssF wr m T).length=(ksO m wr.length T).length:=List.length_map _
theorem lL(h:j<(ksO m wr.length T).length):(ssF wr m T).getD j default=⟨wr.getD 0 default,wr.getD ((ksO m wr.length T).getD j 0) default,rC (paF m wr.length T j)⟩:=by
 unfold ssF paF
 simp only[List.getD_eq_getElem?_getD,List.getElem?_map,List.getElem?_eq_getElem h,Option.map_some,Option.getD_some]
def cmF(m n:Nat)(T:Tab)(k:Nat):Int:=fE ((shF m n T k).num*(0:Rat).den) ((0:Rat).num*(shF m n T k).den)
theorem L9:0<cmF m n T k↔0<shF m n T k:=iX.1
theorem Ma(h:i<=wr.length):oO (prL (wr.getD 0 default) wr wr.length) (λk=>rC (shF m wr.length T k)) (cmF m wr.length T) i=(ksF (shF m wr.length T) i).map λk=>⟨wr.getD 0 default,wr.getD k default,rC (shF m wr.length T k)⟩:=by
 induction i with
 |zero=>rfl
 |succ i ih=>
  rw[oO,ajX,ih omgz,ru (show i<wr.length by omega)]
  by_cases hp:0<shF m wr.length T i
  ·rw[if_pos hp,if_pos (L9.2 hp),List.map_append];rfl
  ·rw[if_neg hp,if_neg (λhc=>hp (L9.1 hc))]
theorem aj3{f:Nat->RV}:qL f i=(List.range i).map f:=by
 induction i with
 |zero=>rfl
 |succ i ih=>rw[qL,ih,List.range_succ,List.map_append];rfl
def ysF(m n:Nat)(T:Tab):List Rat:=(List.range m).map (prF m n T)
theorem Mc:(ysF m n T).length=m:=by unfold ysF;simp
theorem aan(h:i<m):(ysF m n T).getD i 0=prF m n T i:=by
 unfold ysF
 rw[List.getD_eq_getElem?_getD,List.getElem?_map,List.getElem?_range h];rfl
theorem GD(g:GW wr m)(hm:m<=12)(h:GO m wr.length T)(hl:T.rows.length=m+1)(hr:(T.rows.getD m []).length=wr.length+m+1)
 (hso:ACall Tryz.prog 94 [.agg [.isl false (cX (mxA (mxF wr m))) m,.isl false (cR (rm (onF m))) m,.isl false (cR (rm (onF wr.length))) wr.length]] [] 0 (.tup [.agg (r4 (rC (Ai m wr.length T))++[.isl false (cR (rm (Aj m wr.length T))) wr.length,.isl false (cR (rm (Ak m wr.length T))) m]),.val (.int .i64 0)]) []):
 ACall Tryz.prog 54 [.isl false [.val (.int .u16 (U (wr.getD 0 default)))] 1,.isl false (cX wr) wr.length,.agg (aa.cells (rC 0)),.isl false (cR (rm (onF m))) m] [] 0
  (.tup [.agg (r4 (rC (ldF m wr.length T))++[.isl false (cR (ssF wr m T)) (ksO m wr.length T).length,.isl false (cR (rm (ysF m wr.length T))) m]),.val (.int .i64 0)]) []:=by
 have gn:=g.n
 have gm1:=g.m1
 have xl:(Aj m wr.length T).length=wr.length:=by unfold Aj;rw[List.length_take,aab];omega
 have yl:(Ak m wr.length T).length=m:=by unfold Ak;rw[List.length_take,List.length_drop,hr];omega
 have hN:shN (cmF m wr.length T) wr.length=(ksO m wr.length T).length:=by
  have:=GA (P:=prL (wr.getD 0 default) wr wr.length) (q:=λk=>rC (shF m wr.length T k)) (cm:=cmF m wr.length T) (i:=wr.length)
  rw[<-this,Ma (Nat.le_refl _),List.length_map];rfl
 have:=D8 (n:=wr.length) (m:=m) (a:=wr.getD 0 default) (wr:=wr) (cz:=false) (F:=rC 0) (R:=rC 1) (cap:=rm (onF m)) (xs:=rm (Aj m wr.length T)) (ys:=rm (Ak m wr.length T)) (P:=prL (wr.getD 0 default) wr wr.length) (OV:=rC (Ai m wr.length T)) (LD:=rC (ldF m wr.length T)) (ONE:=rC 1) (ZERO:=rC 0)
  (q:=λk=>rC (shF m wr.length T k)) (p:=λi=>rC (prF m wr.length T i)) (cm:=cmF m wr.length T) (N:=(ksO m wr.length T).length)
  lJ g.n0 gn g.m1 omgz (by rw[dG];exact xl) (by rw[dG];exact yl) hN h.N (Uu g) hso (nwC g) wh1 wh0 (Ul sm1 h.v h.v0) (uW rfl g.n0 omgz)
  (λk hk=>by rw[jk (by rw[xl];exact hk)];exact Ot (h.x k hk).1 h.l)
  (λk hk=>vg (h.x k hk).2 sm0)
  (λi hi=>by rw[jk (by rw[yl];exact hi)];exact Ot (h.y i hi).1 h.l)
 rw[Ma (Nat.le_refl _),aj3] at this
 have e:rm (ysF m wr.length T)=(List.range m).map λi=>rC (prF m wr.length T i):=by unfold rm ysF;rw[List.map_map];rfl
 rw[e]
 exact this
end
section
open Go Go.Sy Go.Bp Go.Lm Go.Rt Go.Sx
attribute [local irreducible] AO AL AC OpT ACall Ends DGo aK Thn Blk Nxt
variable {n N k i j m:Nat} {p q s:Rat} {wr:List Nat} {T:Tab} {f g:Nat->Rat}
abbrev wkW(wr:List Nat)(m:Nat):List AV:=wkA false (wr.getD 0 default) wr wr.length (rC 0) (rC 1) (rm (onF m)) m
theorem D9:ACall Tryz.prog 151 [] [] 0 (.pt 0 0) [kZ (rC 0)]:=Gm wh0
theorem UD(h:wH f g n=true)(hj:j<n):ACall Tryz.prog 152 [.pt 0 0,.agg (aa.cells (rC (f j))),.agg (aa.cells (rC (g j)))] [kZ (rC (qm (λi=>f i*g i) j))] 1 (.tup []) [kZ (rC (qm (λi=>f i*g i) (j+1)))]:=
 Gn (Ot (mK h hj).1 (mK h hj).2.1) (ahk (Al h omgz) (mK h hj).2.2)
theorem UE(g:GW wr m)(h:GO m wr.length T):ACall Tryz.prog 103 [.ipt (wkW wr m) 0,.isl false (cR (ssF wr m T)) (ksO m wr.length T).length] [] 0 (.val (.bool true)) []:=by
 have gn:=g.n
 have hk:∀i,i<(ksO m wr.length T).length->(ksO m wr.length T).getD i 0<wr.length/\0<paF m wr.length T i:=λi hi=>LZ hi
 have hle:(ksO m wr.length T).length<=wr.length:=by
  have:=List.length_filter_le (λk=>decide (0<shF m wr.length T k)) (List.range wr.length)
  rw[List.length_range] at this;exact this
 exact D6 (n:=(ksO m wr.length T).length) (H:=wr.length) (P:=prL (wr.getD 0 default) wr wr.length) (ss:=ssF wr m T) (K:=wkW wr m) (ZERO:=rC 0)
  (l:=λi=>match i with|0=> -1|i+1=>((ksO m wr.length T).getD i 0:Nat)) (cm:=λi=>fE ((paF m wr.length T i).num*(0:Rat).den) ((0:Rat).num*(paF m wr.length T i).den)) xV omgz lJ g.n0 (uW rfl g.n0 omgz) rfl
  (λi hi=>by
    have hki:=(hk i hi).1
    rw[lL hi]
    exact Ov (P:=prL (wr.getD 0 default) wr wr.length) (n:=wr.length) (a:=wr.getD 0 default) (b:=wr.getD ((ksO m wr.length T).getD i 0) default) (q:=(ksO m wr.length T).getD i 0) lJ omgz hki (λj hj=>by rw[ru hj]) (by rw[ru hki]) (λj hj=>by rw[ru (show j<wr.length by omega)];exact g.ne _ hki j hj))
  (λi hi=>by
    cases i with
    |zero=>show¬(((ksO m wr.length T).getD 0 0:Nat):Int)<= -1;omega
    |succ i=>
     have:=aac (x:=shF m wr.length T) (n:=wr.length) (i:=i) (j:=i+1) omgz hi
     show¬(((ksF (shF m wr.length T) wr.length).getD (i+1) 0:Nat):Int)<=(((ksF (shF m wr.length T) wr.length).getD i 0:Nat):Int)
     omega)
  (λi hi=>by rw[lL hi];exact oN (h.x _ (hk i hi).1).2) wh0
  (λi hi=>by rw[lL hi];exact vg (h.x _ (hk i hi).1).2 sm0)
  (λi hi=>by have:=(iX (p:=paF m wr.length T i) (q:=0)).1.2 (hk i hi).2;(try dsimp only);omega)
theorem ofC(g:GW wr m)(h:GO m wr.length T)(c:GC wr m T):ACall Tryz.prog 104 [.ipt (wkW wr m) 0,.isl false (cR (ssF wr m T)) (ksO m wr.length T).length] [] 0 (.tup [.agg (aa.cells (rC (ldF m wr.length T))),.val (.int .i64 0)]) []:=by
 have gn:=g.n
 have gm:=g.m2
 have hk:∀i,i<(ksO m wr.length T).length->(ksO m wr.length T).getD i 0<wr.length/\0<paF m wr.length T i:=λi hi=>LZ hi
 have hle:(ksO m wr.length T).length<=wr.length:=by
  have:=List.length_filter_le (λk=>decide (0<shF m wr.length T k)) (List.range wr.length)
  rw[List.length_range] at this;exact this
 have hpa:=JJ (ss:=ssF wr m T) (n:=(ksO m wr.length T).length) (ZERO:=rC 0) (ONE:=rC 1) (S:=λj=>rC (qm (λj=>paF m wr.length T j*1) j)) (cm:=λi=>fE ((paF m wr.length T i).num*(0:Rat).den) ((0:Rat).num*(paF m wr.length T i).den)) xV omgz
  (λi hi=>by rw[lL hi];exact oN (mK c.p hi).1) wh0 wh1 (λi hi=>by rw[lL hi];exact vg (mK c.p hi).1 sm0)
  (λi hi=>by have:=(iX (p:=paF m wr.length T i) (q:=0)).1.2 (hk i hi).2;(try dsimp only);omega) rfl
  (λi hi=>by
    rw[lL hi]
    refine Cg ?_
    have:=ahk (Al c.p (show i<=_ by omega)) (mK c.p hi).2.2
    try dsimp only at this
    rw[Rat.mul_one] at this
    show ACall Tryz.prog _ _ [] 0 (.tup [.agg (aa.cells (rC (qm (λj=>paF m wr.length T j*1) i+paF m wr.length T i*1))),.val (.int .i64 0)]) []
    rw[Rat.mul_one]
    exact this)
  (by
    try dsimp only
    rw[c.p1]
    have:=vg sm1 sm1
    rwa [show fE ((1:Rat).num*(1:Rat).den) ((1:Rat).num*(1:Rat).den)=0 from by decide+kernel] at this)
  D9
 have hc0:=JK (K:=wkW wr m) (ss:=ssF wr m T) (n:=(ksO m wr.length T).length) xV omgz (λj hj=>by
  have hkj:=(hk j hj).1
  rw[lL hj]
  exact Uy (L1:=cX [wr.getD 0 default]) (L2:=cX wr) (n:=wr.length) rfl rfl
   (Ao (Ck (z:=false) (ws:=[wr.getD 0 default]) (n:=1) (b:=wr.getD 0 default) (q:=0) rfl omgz omgz rfl (λi hi=>by omega)))
   (Ao (Ck (z:=false) (ws:=wr) (n:=wr.length) (b:=wr.getD ((ksO m wr.length T).getD j 0) default) (q:=(ksO m wr.length T).getD j 0) rfl omgz hkj rfl (λi hi=>g.ne _ hkj i hi))))
 have:=UA (ss:=ssF wr m T) (n:=(ksO m wr.length T).length) (K:=wkW wr m) (cap:=rm (onF m)) (cz:=false) (m:=m) (ZERO:=rC 0) (S:=λi j=>rC (qm (λj=>paF m wr.length T j*wq wr i ((ksO m wr.length T).getD j 0)) j)) (O:=λi=>rC (xk (lsF wr m T) i))
  (wv:=λi j=>rC (wq wr i ((ksO m wr.length T).getD j 0))) (ld:=λi=>rC (lsF wr m T i)) (cm:=λi=>fE ((lsF wr m T i).num*(xk (lsF wr m T) i).den) ((xk (lsF wr m T) i).num*(lsF wr m T i).den))
  xV omgz onL omgz rfl rfl hc0 hpa wh0 (λi hi=>D9) (λi j hi hj=>by rw[lL hj];exact wtC g hi)
  (λi j hi hj=>by rw[lL hj];exact UD (c.s i hi).1 hj)
  (λi hi=>by rw[onC hi];exact Ul (Al (c.s i hi).1 (Nat.le_refl _)) sm1 (by decide+kernel))
  (λi hi=>Z8 (c.s i hi).2.1 (c.s i hi).2.2)
  (λi hi h=>by
    have:=iX.1.1 h
    (try dsimp only);rw[xk,if_pos this])
  (λi hi h=>by
    have:¬xk (lsF wr m T) i<lsF wr m T i:=λhc=>h (iX.1.2 hc)
    (try dsimp only);rw[xk,if_neg this])
 try dsimp only at this
 rwa [c.mx] at this
theorem aao(g:GW wr m)(h:GO m wr.length T)(c:GC wr m T):ACall Tryz.prog 106 [.ipt (wkW wr m) 0,.agg (aa.cells (rC (ldF m wr.length T))),.isl false (cR (rm (ysF m wr.length T))) m] [] 0 (.val (.bool true)) []:=by
 have gn:=g.n
 have gm:=g.m2
 have hy:∀i,i<m->(rm (ysF m wr.length T)).getD i default=rC (prF m wr.length T i):=λi hi=>by rw[jk (by rw[Mc];exact hi),aan hi]
 have hl:(rm (ysF m wr.length T)).length=m:=by rw[dG,Mc]
 have c1:=wE (F:=154) (z:=false) (xs:=rm (ysF m wr.length T)) (n:=m) (λ_=>false) hl omgz (λi hi=>by
  rw[hy i hi]
  exact D7 (by
   have:=(iX (p:=prF m wr.length T i) (q:=0)).2.2
   have h3:=Rat.not_lt.2 (c.y0 i hi)
   exact λhc=>h3 (this.1 hc)) (oN (mK c.y hi).1) wh0 (vg (mK c.y hi).1 sm0))
 rw[show(rm (ysF m wr.length T)).any (λ_=>false)=false by simp] at c1
 have hd:=UB (xs:=rm (ysF m wr.length T)) (ys:=rm (onF m)) (n:=m) (z:=false) (z':=false) (S:=λj=>rC (qm (λj=>prF m wr.length T j*1) j)) (q:=λj=>rC (prF m wr.length T j*1)) (A:=iC 1) hl onL omgz
  (λi hi=>by rw[hy i hi];exact oN (mK c.y hi).1) (λi hi=>by rw[onC hi];exact oN sm1) TP rfl
  (λi hi=>by rw[hy i hi,onC hi];exact Ot (mK c.y hi).1 sm1)
  (λi hi=>ahk (Al c.y omgz) (mK c.y hi).2.2)
 try dsimp only at hd
 rw[c.y1] at hd
 exact Gy (n:=wr.length) (m:=m) (K:=wkW wr m) (cz:=false) (cap:=rm (onF m)) (ys:=rm (ysF m wr.length T)) (P:=prL (wr.getD 0 default) wr wr.length) (ONE:=rC 1) (D:=rC 1) (LD:=rC (ldF m wr.length T)) (S:=λk j=>rC (qm (λi=>prF m wr.length T i*wq wr i k) j)) (wv:=λk i=>rC (wq wr i k))
  hl onL omgz lJ omgz g.n0 rfl c1 hd wh1 (by
   have:=vg sm1 sm1
   rwa [show fE ((1:Rat).num*(1:Rat).den) ((1:Rat).num*(1:Rat).den)=0 from by decide+kernel] at this)
  (uW rfl g.n0 omgz) (λk hk=>D9) (λk i hk hi=>by rw[ru hk];exact wtC g hi)
  (λk i hk hi=>by rw[hy i hi];exact UD (c.w k hk).1 hi)
  (λk hk=>JI (Al (c.w k hk).1 (Nat.le_refl _)) h.l (c.w k hk).2)
theorem UF(g:GW wr m)(h:GO m wr.length T)(c:GC wr m T):ACall Tryz.prog 57 [.isl false [.val (.int .u16 (U (wr.getD 0 default)))] 1,.isl false (cX wr) wr.length,.agg (aa.cells (rC 0)),.isl false (cR (rm (onF m))) m,.agg (r4 (rC (ldF m wr.length T))++[.isl false (cR (ssF wr m T)) (ksO m wr.length T).length,.isl false (cR (rm (ysF m wr.length T))) m])] [] 0 (.val (.bool true)) []:=
 Gz (X:=rC (ldF m wr.length T)) (nwC g) (oN h.l) (UE g h) (ofC g h c) (JI h.l h.l Rat.le_refl) (JI h.l h.l Rat.le_refl) (aao g h c)
end
set_option maxHeartbeats 20000000
section
open Go Go.Sy Go.Bp Go.Lm Go.Rt
attribute [local irreducible] AO AL AC OpT ACall Ends DGo aK Thn Blk Nxt
theorem ahD:∀I,I=0->(∀q,q<=3->¬q=I->xm I q)->aap I:=by exact ahC
theorem ahE:∀I,I=1->(∀q,q<=3->¬q=I->xm I q)->aap I:=by exact ahC
theorem ahF:∀I,I=2->(∀q,q<=3->¬q=I->xm I q)->aap I:=by exact ahC
theorem pwW3{I:Nat}(hI:I<3):aap I:=by
 have h:I=0\/I=1\/I=2:=by omega
 rcases h with h|h|h
 ·refine @ahD _ h λq h1 h2=>?_
  have h3:q=1\/q=2\/q=3:=by omega
  rcases h3 with h3|h3|h3
  ·exact @aaq _ _ h h3
  ·exact @aar _ _ h h3
  ·exact @aas _ _ h h3
 ·refine @ahE _ h λq h1 h2=>?_
  have h3:q=0\/q=2\/q=3:=by omega
  rcases h3 with h3|h3|h3
  ·exact @aat _ _ h h3
  ·exact @aau _ _ h h3
  ·exact @aav _ _ h h3
 ·refine @ahF _ h λq h1 h2=>?_
  have h3:q=0\/q=1\/q=3:=by omega
  rcases h3 with h3|h3|h3
  ·exact @aaw _ _ h h3
  ·exact @aax _ _ h h3
  ·exact @aay _ _ h h3
end
set_option maxHeartbeats 4000000
section
open Go Go.Sy Go.Bp Go.Lm Go.Rt Go.Sx
variable {n N k i j m r s w W:Nat} {l x:List Rat} {p q f:Rat} {T:Tab}
abbrev GG(n W:Nat)(T:Tab):List aC:=[.cells [.val (.int .i64 3),.val (.int .i64 n),.sl 1 0 4 1,.sl 2 0 3 1,.val (.int .i64 0)] 197,.cells [.sl 3 0 W 4,.sl 4 0 W 4,.sl 5 0 W 4,.sl 6 0 W 4] 103,.cells (cI .i64 (biT T)) 3,.cells (cR (rwT T 0)) 60,.cells (cR (rwT T 1)) 60,.cells (cR (rwT T 2)) 60,.cells (cR (rwT T 3)) 60]
theorem JL(hi:i<3)(hW:W<=500)(hk:k<W)(hr:T.rows.length=4)(hl:∀r,r<4->(T.rows.getD r []).length=W)(hb:T.basis.length=3)(hp:¬at2 T.rows i k=0)(hs:smT T=true)(hs2:smT (ji T i k)=true)(hs3:smP T i k=true):
 ACall Tryz.prog 175 [.pt 0 0,.val (.int .i64 i),.val (.int .i64 k)] (GG n W T) 7 (.tup []) (GG n W (ji T i k)):=by
 have hS:∀r j,r<4->j<W->Sm (at2 T.rows r j):=λr j h1 h2=>u6 hs omgz (by rw[hl r h1];exact h2)
 have hl2:∀r,r<4->((ji T i k).rows.getD r []).length=W:=λr h=>by
  rw[iE omgz]
  split
  ·rw[iW];exact hl i omgz
  ·split
   ·exact hl r h
   ·rw[uZ (by rw[iW,hl i omgz,hl r h])];exact hl r h
 have hS2:∀r j,r<4->j<W->Sm (at2 (ji T i k).rows r j):=λr j h1 h2=>u6 hs2 (by rw[Gu];omega) (by rw[hl2 r h1];exact h2)
 have hS3:∀r j,r<4->j<W->Sm (at2 T.rows r k*(at2 T.rows i j/at2 T.rows i k)):=λr j h1 h2=>LP hs3 omgz (by rw[hl i omgz];exact h2)
 have hq:∀j,j<W->at2 (ji T i k).rows i j=at2 T.rows i j/at2 T.rows i k:=λj h=>by
  show((ji T i k).rows.getD i []).getD j 0=_
  rw[iE omgz,if_pos rfl,lc (by rw[hl i omgz];exact h)];rfl
 have hD:∀j,j<W->Sm (at2 T.rows i j/at2 T.rows i k):=λj h=>by rw[<-hq j h];exact hS2 i j omgz h
 have hget:∀r j,r<4->j<W->(rwT T r).getD j default=rC (at2 T.rows r j):=λr j h1 h2=>jk (by rw[hl r h1];exact h2)
 have hU:∀r j,r<4->¬r=i->¬at2 T.rows r k=0->j<W->Sm (at2 T.rows r j-at2 T.rows r k*(at2 T.rows i j/at2 T.rows i k)):=λr j h1 h2 h3 h4=>by
  have e:at2 (ji T i k).rows r j=at2 T.rows r j-at2 T.rows r k*(at2 T.rows i j/at2 T.rows i k):=by
   show((ji T i k).rows.getD r []).getD j 0=_
   rw[iE omgz,if_neg h2,if_neg h3,Ah (by rw[iW,hl i omgz,hl r h1]) (by rw[hl r h1];exact h4),lc (by rw[hl i omgz];exact h4)];rfl
  rw[<-e];exact hS2 r j h1 h4
 have hg0:∀r,r<=3->¬r=i->sgn (at2 T.rows r k).num=0->rwT (ji T i k) r=rwT T r:=λr h1 h2 h3=>by
  unfold rwT;rw[iE omgz,if_neg h2,if_pos (LU.1 h3)]
 have hg1:∀r,r<=3->¬r=i->¬sgn (at2 T.rows r k).num=0->rwT (ji T i k) r=sbR (rwT T r) (λj=>sgn (at2 T.rows i j/at2 T.rows i k).num=0) (λj=>rC (at2 T.rows r j-at2 T.rows r k*(at2 T.rows i j/at2 T.rows i k))) W:=λr h1 h2 h3=>by
  have hlr:=hl r omgz
  have hli:=hl i omgz
  unfold rwT
  rw[iE omgz,if_neg h2,if_neg (λh=>h3 (LU.2 h)),<-LJ (by rw[iW,hli,hlr]),hlr]
  refine uY (by rw[jW,jW]) λj hj=>?_
  rw[jW,dG,hlr] at hj
  rw[Af hj (by rw[dG,hlr];exact Nat.le_refl _),Af hj (by rw[dG,hlr];exact Nat.le_refl _),lc (by rw[hli];exact hj)]
  rfl
 have hNi:rwT (ji T i k) i=dvL (rwT T i) (λj=>rC (at2 T.rows i j/at2 T.rows i k)) W:=by
  have hli:=hl i omgz
  unfold rwT
  rw[iE omgz,if_pos rfl,<-LH,hli];rfl
 show ACall Tryz.prog 175 _ (GG n W T) 7 (.tup []) (GG n W (ji T i k))
 unfold GG
 rw[LQ]
 have hblen:(biT T).length=3:=by unfold biT;rw[List.length_map];exact hb
 have hlw:∀r,r<=3->(rwT T r).length=W:=λr h=>by unfold rwT;rw[dG];exact hl r omgz
 exact pwW3 hi (p:=rC (at2 T.rows i k)) (d:=λj=>rC (at2 T.rows i j/at2 T.rows i k)) (sx:=λj=>sgn (at2 T.rows i j/at2 T.rows i k).num) (sg:=λr=>sgn (at2 T.rows r k).num) (f:=λr=>rC (at2 T.rows r k)) (mu:=λr j=>rC (at2 T.rows r k*(at2 T.rows i j/at2 T.rows i k))) (su:=λr j=>rC (at2 T.rows r j-at2 T.rows r k*(at2 T.rows i j/at2 T.rows i k))) (Rw:=rwT T) (New:=rwT (ji T i k))
  hW hk hlw hblen (hget i k omgz hk) hNi (λj hj=>by rw[hget i j omgz hj];exact Ul (hS _ _ omgz hj) (hS _ _ omgz hk) hp) (λr h1 h2=>hget r k omgz hk) (λr h1 h2=>jV (hS _ _ omgz hk)) (λj hj=>jV (hD j hj))
  (λr j h1 h2 h3 h4 h5=>Ot (hS _ _ omgz hk) (hD j h4)) (λr j h1 h2 h3 h4 h5=>by rw[hget r j omgz h4];exact ahj (hS _ _ omgz h4) (hS3 r j omgz h4)) hg0 hg1
end
section
open Go Go.Sy Go.Bp Go.Lm Go.Rt Go.Sx
variable {n N k i j m r s w W:Nat} {l x:List Rat} {p q f:Rat} {T:Tab}
def rsT(m:Nat)(T:Tab):List RL:=(List.range (m+1)).map λr=>⟨false,rwT T r⟩
theorem Md:(rsT m T).length=m+1:=by unfold rsT;rw[List.length_map,List.length_range]
theorem Me(h:r<=m):(rsT m T).getD r default=⟨false,rwT T r⟩:=by
 unfold rsT
 rw[List.getD_eq_getElem?_getD,List.getElem?_map,List.getElem?_range omgz];rfl
theorem eD(g:GT m n T)(h:r<=m):(rwT T r).length=n+m+1:=by unfold rwT;rw[dG];exact g.rw r h
theorem lM(g:GT m n T)(h:r<=m)(hj:j<n+m+1):(rwT T r).getD j default=rC (at2 T.rows r j):=jk (by rw[g.rw r h];exact hj)
theorem Mf(g:GT m n T)(h:r<=m)(hj:j<n+m+1):Sm (at2 T.rows r j):=u6 g.sm (by rw[g.rl];omega) (by rw[g.rw r h];exact hj)
theorem vk(g:GT m n T):(biT T).length=m:=by unfold biT;rw[List.length_map];exact g.bl
theorem vo(g:GT m n T)(h:i<m):(biT T).getD i default=(T.basis.getD i 0:Nat):=by
 unfold biT
 have hl:i<T.basis.length:=by rw[g.bl];exact h
 rw[List.getD_eq_getElem?_getD,List.getElem?_map,List.getElem?_eq_getElem hl,List.getD_eq_getElem?_getD,List.getElem?_eq_getElem hl];rfl
theorem UH{l:List RV}(h:j<w):(l.take w).getD j default=l.getD j default:=by
 rw[List.getD_eq_getElem?_getD,List.getD_eq_getElem?_getD,List.getElem?_take,if_pos h]
theorem Ec(hm:m<=14)(hn:n<=400)(g:GT m n T):ACall Tryz.prog 173 [.ipt (tbV m n (rsT m T) (biT T)) 0] [] 0 (.val (.int .i64 (if kkF m n T=n+m then-1 else(kkF m n T:Int)))) []:=by
 have hl:=eD g (Nat.le_refl m)
 have hg:∀j,j<n+m->((rwT T m).take (n+m)).getD j default=rC (at2 T.rows m j):=λj hj=>by rw[UH hj,lM g (Nat.le_refl m) omgz]
 have hlt:((rwT T m).take (n+m)).length=n+m:=by rw[List.length_take,hl];omega
 have hp:∀j,j<n+m->(((rwT T m).take (n+m)).getD j default).num.neg=decide (at2 T.rows m j<0):=λj hj=>by
  rw[hg j hj,ahl];exact decide_eq_decide.2 neg_num.symm
 have hi:=Gr (F:=202) (z:=false) (xs:=(rwT T m).take (n+m)) (n:=n+m) (λX=>X.num.neg) hlt omgz (λj hj=>by
  try dsimp only
  rw[hp j hj,hg j hj]
  have:=Z7 (jV (Mf g (Nat.le_refl m) (show j<n+m+1 by omega)))
  rwa [show decide (sgn (at2 T.rows m j).num<0)=decide (at2 T.rows m j<0) from decide_eq_decide.2 (by rw[aaa,neg_num])] at this)
 have e:ix (λX:RV=>X.num.neg) ((rwT T m).take (n+m))=if kkF m n T=n+m then-1 else(kkF m n T:Int):=by
  have hle:kkF m n T<=n+m:=wG
  have hb:∀j,j<kkF m n T->¬at2 T.rows m j<0:=λj hj=>Om j hj
  split
  ·rename_i h
   exact lG λj hj=>by rw[hlt] at hj;rw[hp j hj];exact decide_eq_false (hb j omgz)
  ·rename_i h
   have hlt2:kkF m n T<n+m:=by omega
   exact oD (by rw[hlt];exact hlt2) (λj hj=>by rw[hp j omgz];exact decide_eq_false (hb j hj)) (by rw[hp _ hlt2];exact decide_eq_true (Oo hlt2))
 rw[e] at hi
 exact JF hm hn rfl Md (Me (Nat.le_refl m)) hl hi
theorem UI(hm:m<=14)(hn:n<=400)(g:GS m n T):ACall Tryz.prog 174 [.ipt (tbV m n (rsT m T) (biT T)) 0,.val (.int .i64 (kkF m n T))] [] 0 (.val (.int .i64 (iiF m n T))) []:=by
 have gk:=g.k
 have gi:=g.i
 have gT:=g.toGT
 have B0:∀i,bK T m (kkF m n T) (n+m) i=m\/(bK T m (kkF m n T) (n+m) i<i/\0<at2 T.rows (bK T m (kkF m n T) (n+m) i) (kkF m n T)):=λi=>Oq
 have:=JM (m:=m) (n:=n) (w:=n+m) (k:=kkF m n T) (rs:=rsT m T) (b:=biT T)
  (bst:=λi=>if bK T m (kkF m n T) (n+m) i=m then-1 else(bK T m (kkF m n T) (n+m) i:Int))
  (sg:=λi=>sgn (at2 T.rows i (kkF m n T)).num)
  (cm:=λi=>fE ((at2 T.rows i (n+m)/at2 T.rows i (kkF m n T)).num*(at2 T.rows (bK T m (kkF m n T) (n+m) i) (n+m)/at2 T.rows (bK T m (kkF m n T) (n+m) i) (kkF m n T)).den) ((at2 T.rows (bK T m (kkF m n T) (n+m) i) (n+m)/at2 T.rows (bK T m (kkF m n T) (n+m) i) (kkF m n T)).num*(at2 T.rows i (n+m)/at2 T.rows i (kkF m n T)).den))
  (lst:=λi=>if bK T m (kkF m n T) (n+m) i=m then rZ else rC (at2 T.rows (bK T m (kkF m n T) (n+m) i) (n+m)/at2 T.rows (bK T m (kkF m n T) (n+m) i) (kkF m n T)))
  (q:=λi=>rC (at2 T.rows i (n+m)/at2 T.rows i (kkF m n T))) (y:=λi=>rC (at2 T.rows i (kkF m n T))) (zz:=λi=>rC (at2 T.rows i (n+m))) (rowL:=λi=>rwT T i) (bb:=λi=>(T.basis.getD (bK T m (kkF m n T) (n+m) i) 0:Nat))
  hm hn rfl gk Md (λi hi=>Me omgz) (λi hi=>eD gT omgz) (λi hi=>lM gT omgz omgz) (λi hi=>lM gT omgz omgz) (vk gT)
  (λi hi=>jV (Mf gT omgz omgz))
  (λi hi h=>Ul (Mf gT omgz omgz) (Mf gT omgz omgz) (λe=>h (oK.2 (by rw[e];exact Rat.le_refl))))
  (λi hi h h2=>by
    try dsimp only at h2⊢
    rcases B0 i with hb|hb
    ·rw[if_pos hb] at h2;omega
    ·rw[if_neg omgz]
     exact Z8 (g.sq i hi) (g.sq _ omgz))
  (by show(if bK T m (kkF m n T) (n+m) 0=m then(-1:Int) else _)= -1;exact if_pos rfl) (by show(if bK T m (kkF m n T) (n+m) 0=m then rZ else _)=rZ;exact if_pos rfl)
  (λi hi=>by(try dsimp only);split<;>(have:=B0 i;omega))
  (λi hi h=>by
    try dsimp only at h⊢
    rcases B0 i with hb|hb
    ·rw[if_pos hb] at h;omega
    ·rw[if_neg omgz,Int.toNat_natCast];exact vo gT omgz)
  (λi hi h=>by
    try dsimp only
    have e:bK T m (kkF m n T) (n+m) (i+1)=bK T m (kkF m n T) (n+m) i:=by rw[mJ,if_pos (oK.1 h)]
    rw[e];exact⟨rfl,rfl⟩)
  (λi hi h h2=>by
    try dsimp only at h2⊢
    have hb:bK T m (kkF m n T) (n+m) i=m:=by
     rcases Decidable.em (bK T m (kkF m n T) (n+m) i=m) with hb|hb
     ·exact hb
     ·rw[if_neg hb] at h2;omega
    have e:bK T m (kkF m n T) (n+m) (i+1)=i:=by rw[mJ,if_neg (λhc=>h (oK.2 hc)),if_pos hb]
    rw[e,if_neg omgz,if_neg omgz];exact⟨rfl,rfl⟩)
  (λi hi h h2 h3=>by
    try dsimp only at h2 h3⊢
    have hb:¬bK T m (kkF m n T) (n+m) i=m:=by intro hb;rw[if_pos hb] at h2;omega
    have e:bK T m (kkF m n T) (n+m) (i+1)=bK T m (kkF m n T) (n+m) i:=by rw[mJ,if_neg (λhc=>h (oK.2 hc)),if_neg hb,if_pos (.inl (iX.1.1 h3))]
    rw[e];exact⟨rfl,rfl⟩)
  (λi hi h h2 h3 h4=>by
    try dsimp only at h2 h3 h4⊢
    rw[vo gT hi] at h4
    have hb:¬bK T m (kkF m n T) (n+m) i=m:=by intro hb;rw[if_pos hb] at h2;omega
    have e:bK T m (kkF m n T) (n+m) (i+1)=bK T m (kkF m n T) (n+m) i:=by rw[mJ,if_neg (λhc=>h (oK.2 hc)),if_neg hb,if_pos (.inr ⟨(iX.2.1.1 h3).symm,omgz⟩)]
    rw[e];exact⟨rfl,rfl⟩)
  (λi hi h h2 h3 h4=>by
    try dsimp only at h2 h3 h4⊢
    rw[vo gT hi] at h4
    have hb:¬bK T m (kkF m n T) (n+m) i=m:=by intro hb;rw[if_pos hb] at h2;omega
    have e:bK T m (kkF m n T) (n+m) (i+1)=i:=by
     rw[mJ,if_neg (λhc=>h (oK.2 hc)),if_neg hb,if_neg]
     rintro(hc|hc)
     ·rw[iX.2.1.1 h3] at hc;exact Rat.lt_irrefl hc
     ·exact h4 omgz
    rw[e,if_neg omgz,if_neg omgz];exact⟨rfl,rfl⟩)
  (λi hi h h2 h3=>by
    try dsimp only at h2 h3⊢
    have hb:¬bK T m (kkF m n T) (n+m) i=m:=by intro hb;rw[if_pos hb] at h2;omega
    have h5:=iX.2.2.1 h3
    have e:bK T m (kkF m n T) (n+m) (i+1)=i:=by
     rw[mJ,if_neg (λhc=>h (oK.2 hc)),if_neg hb,if_neg]
     rintro(hc|hc)
     ·exact Rat.not_lt.2 (Rat.le_of_lt h5) hc
     ·rw[hc.1] at h5;exact Rat.lt_irrefl h5
    rw[e,if_neg omgz,if_neg omgz];exact⟨rfl,rfl⟩)
 try dsimp only at this
 have hi:¬bK T m (kkF m n T) (n+m) m=m:=by have:=g.i;unfold iiF at this;omega
 rw[if_neg hi] at this
 exact this
end
section
open Go Go.Sy Go.Bp Go.Lm Go.Rt Go.Sx
attribute [local irreducible] AO AL AC OpT ACall Ends DGo aK Thn Blk Nxt
variable {n N k i j m r s w W S:Nat} {cz:Bool} {l x:List Rat} {p q f:Rat} {T T0:Tab} {A:List (List Rat)} {B C:List Rat}
theorem Eg(g:GT 3 n T):UK n (n+4) (λ_=>rwT T) (λ_=>biT T) s=tbV 3 n (rsT 3 T) (biT T):=by
 have h0:(rwT T 0).length=n+4:=eD g omgz;have h1:(rwT T 1).length=n+4:=eD g omgz;have h2:(rwT T 2).length=n+4:=eD g omgz;have h3:(rwT T 3).length=n+4:=eD g omgz
 show([.val (.int .i64 3),.val (.int .i64 n),.isl false [.isl false (cR (rwT T 0)) (n+4),.isl false (cR (rwT T 1)) (n+4),.isl false (cR (rwT T 2)) (n+4),.isl false (cR (rwT T 3)) (n+4)] 4,.isl false (cI .i64 (biT T)) 3,.val (.int .i64 0)]:List AV)=[.val (.int .i64 (3:Nat)),.val (.int .i64 n),.isl false [.isl (false:Bool) (cR (rwT T 0)) (rwT T 0).length,.isl (false:Bool) (cR (rwT T 1)) (rwT T 1).length,.isl (false:Bool) (cR (rwT T 2)) (rwT T 2).length,.isl (false:Bool) (cR (rwT T 3)) (rwT T 3).length] (3+1),.isl false (cI .i64 (biT T)) 3,.val (.int .i64 0)]
 rw[h0,h1,h2,h3];rfl
theorem UO(hn:n<=400)(h:nH 3 n T0 S=true):ACall Tryz.prog 129 [.pt 0 0] (GG n (n+4) T0) 7 (.tup [.val (.int .i64 (-1)),.val (.int .i64 0)]) (GG n (n+4) (TT 3 n T0 S)):=by
 have gt:=ry h
 have gs:=DU h
 have ge:=LM h
 exact Oy (n:=n) (W:=n+4) (S:=S) (Ro:=λs=>rwT (TT 3 n T0 s)) (bs:=λs=>biT (TT 3 n T0 s)) (kk:=λs=>kkF 3 n (TT 3 n T0 s)) (ii:=λs=>iiF 3 n (TT 3 n T0 s)) omgz
  (λs r hs hr=>eD (gt s hs) hr) (λs hs=>vk (gt s hs))
  (λs hs=>by
    have:=Ec omgz hn (gs s hs).toGT
    rw[if_neg (by have:=(gs s hs).k;omega),<-Eg (s:=s) (gs s hs).toGT] at this
    exact this)
  (by
    have:=Ec omgz hn (gt S (Nat.le_refl _))
    rw[if_pos ge,<-Eg (s:=S) (gt S (Nat.le_refl _))] at this
    exact this)
  (λs hs=>by
    have:=UI omgz hn (gs s hs)
    rw[<-Eg (s:=s) (gs s hs).toGT] at this
    exact this)
  (λs hs=>by
    have g:=gs s hs
    exact JL (n:=n) (W:=n+4) (T:=TT 3 n T0 s) (i:=iiF 3 n (TT 3 n T0 s)) (k:=kkF 3 n (TT 3 n T0 s)) g.i omgz (by have:=g.k;omega) g.rl (λr hr=>g.rw r omgz) g.bl g.p0 g.sm (gt (s+1) hs).sm g.sp)
theorem UQ(hA:A.length=3)(hi:i<3):jd (mxA A) (rC 1) (rC 0) i k=rm (A.getD i []++(List.range k).map (λq=>if q=i then(1:Rat) else 0)):=by
 induction k with
 |zero=>rw[jd,lK omgz];simp
 |succ k ih=>
  rw[jd,ih,List.range_succ,List.map_append,<-List.append_assoc,ql (b:=List.map _ [k])]
  congr 1
  show _=[rC (if k=i then 1 else 0)]
  split<;>rfl
theorem Av(hi:i<3)(hA:A.length=3)(hB:B.length=3):j5 (mxA A) (rm B) (rC 1) (rC 0) i=rwT (aW A B C) i:=by
 unfold rwT
 rw[j5,UQ hA hi,LX omgz,ql (b:=[B.getD i 0]),Sx.one1,hB,jk omgz];rfl
theorem UR(h:k<=C.length):Aq (λj=>rC (-(C.getD j 0))) k=rm ((C.take k).map (λc=> -c)):=by
 induction k with
 |zero=>simp[Aq,rm]
 |succ k ih=>
  rw[Aq,ih omgz,List.take_add_one,List.getElem?_eq_getElem omgz,List.map_append,ql]
  congr 1
  rw[List.getD_eq_getElem?_getD,List.getElem?_eq_getElem omgz];rfl
theorem UT(hn:C.length=n):xn (λj=>rC (-(C.getD j 0))) n (rC 0) k=rm (C.map (λc=> -c)++List.replicate k 0):=by
 induction k with
 |zero=>rw[xn,UR omgz,List.take_of_length_le omgz];simp
 |succ k ih=>rw[xn,ih,List.replicate_succ',<-List.append_assoc,ql (b:=[0])];rfl
theorem JO(hn:1<=n)(hn2:n<=400)(hA:A.length=3)(hB:B.length=3)(hC:C.length=n)(hl:∀i,i<3->(A.getD i []).length=n)(hs:∀j,j<n->Sm (C.getD j 0)):
 ACall Tryz.prog 128 [.agg [.isl false (cX (mxA A)) 3,.isl cz (cR (rm B)) 3,.isl false (cR (rm C)) n]] [] 0 (.pt 0 0) (GG n (n+4) (aW A B C)):=by
 have h:=GJ (n:=n) (cz:=cz) (A:=mxA A) (B:=rm B) (C:=rm C) (ONE:=rC 1) (ZERO:=rC 0) (NE:=λj=>rC (-(C.getD j 0))) hn hn2 (by rw[u7];exact hA) (by rw[dG];exact hB) (by rw[dG];exact hC)
  (λi hi=>by rw[lK omgz]) (λi hi=>by rw[lK omgz];show(rm _).length=n;rw[dG];exact hl i hi)
  (λi hi=>by rw[lK omgz];exact Gg (by rw[dG];exact hl i hi) omgz) LC uV
  (λj hj=>by rw[jk omgz];exact LF (hs j hj))
 have eb:biT (aW A B C)=(List.range 3).map λk=>((n+k:Nat):Int):=by unfold biT aW;dsimp only;rw[hB,hC,List.map_map];rfl
 have el:xn (λj=>rC (-(C.getD j 0))) n (rC 0) 4=rwT (aW A B C) 3:=by
  have h2:=Gv (A:=A) (B:=B) (C:=C)
  rw[hA,hB] at h2
  unfold rwT
  rw[h2,UT hC]
 have e0:j5 (mxA A) (rm B) (rC 1) (rC 0) 0=rwT (aW A B C) 0:=Av omgz hA hB
 have e1:j5 (mxA A) (rm B) (rC 1) (rC 0) 1=rwT (aW A B C) 1:=Av omgz hA hB
 have e2:j5 (mxA A) (rm B) (rC 1) (rC 0) 2=rwT (aW A B C) 2:=Av omgz hA hB
 rw[e0,e1,e2,el] at h
 show ACall Tryz.prog 128 _ [] 0 (.pt 0 0) [.cells [.val (.int .i64 3),.val (.int .i64 n),.sl 1 0 4 1,.sl 2 0 3 1,.val (.int .i64 0)] 197,.cells [.sl 3 0 (n+4) 4,.sl 4 0 (n+4) 4,.sl 5 0 (n+4) 4,.sl 6 0 (n+4) 4] 103,.cells (cI .i64 (biT (aW A B C))) 3,.cells (cR (rwT (aW A B C) 0)) 60,.cells (cR (rwT (aW A B C) 1)) 60,.cells (cR (rwT (aW A B C) 2)) 60,.cells (cR (rwT (aW A B C) 3)) 60]
 rw[eb]
 exact h
theorem aaz:j<=w->xzL (rC 0) w j=List.replicate j (rC 0)++List.replicate (w-j) rZ:=by
 induction j with
 |zero=>intro _;simp[xzL]
 |succ j ih=>
  intro h
  rw[xzL,ih omgz]
  obtain⟨d,hd⟩:∃d,w-j=d+1:=⟨w-j-1,omgz⟩
  rw[hd,show w-(j+1)=d by omega,List.replicate_succ,List.replicate_succ' (n:=j),List.set_append_right _ _ (by simp),List.length_replicate,Nat.sub_self,List.set_cons_zero,List.append_assoc];rfl
theorem Mg:xbL (rC 0) w (λi=>T.basis.getD i 0) (λi=>rC (at2 T.rows i w)) i=rm (xvF T w i):=by
 induction i with
 |zero=>rw[xbL,xvF,aaz (Nat.le_refl w),Nat.sub_self,Um];simp
 |succ i ih=>rw[xbL,xvF,ahm,ih]
theorem JP(hn:1<=n)(hn2:n<=400)(hA:A.length=3)(hB:B.length=3)(hC:C.length=n)(hl:∀i,i<3->(A.getD i []).length=n)(hs:∀j,j<n->Sm (C.getD j 0))(h:nH 3 n (aW A B C) S=true)
 (hv:ACall Tryz.prog 127 [.agg [.isl false (cX (mxA A)) 3,.isl cz (cR (rm B)) 3,.isl false (cR (rm C)) n]] [] 0 (.val (.int .i64 0)) []):
 ACall Tryz.prog 94 [.agg [.isl false (cX (mxA A)) 3,.isl cz (cR (rm B)) 3,.isl false (cR (rm C)) n]] [] 0 (.tup [.agg (r4 (rC (Ai 3 n (TT 3 n (aW A B C) S)))++[.isl false (cR (rm (Aj 3 n (TT 3 n (aW A B C) S)))) n,.isl false (cR (rm (Ak 3 n (TT 3 n (aW A B C) S)))) 3]),.val (.int .i64 0)]) []:=by
 have g:=ry h S (Nat.le_refl _)
 generalize hT:TT 3 n (aW A B C) S=T at g⊢
 have hr:=UO hn2 h
 rw[hT] at hr
 have:=GH (n:=n) (w:=n+3) (W:=n+4) (CA:=cX (mxA A)) (CB:=cR (rm B)) (CC:=cR (rm C)) (b0:=biT (aW A B C)) (Q:=rwT (aW A B C)) (b:=biT T) (R0:=rwT T 0) (R1:=rwT T 1) (R2:=rwT T 2) (R3:=rwT T 3) (v:=λi=>T.basis.getD i 0) (z:=λi=>rC (at2 T.rows i (n+3))) hn hn2 rfl rfl (vk g) (eD g omgz) (eD g omgz) (eD g omgz) (eD g omgz) (λi hi=>⟨vo g hi,g.bw i hi⟩) (lM g omgz omgz) (lM g omgz omgz) (lM g omgz omgz)
  hv (JO hn hn2 hA hB hC hl hs) hr uV
 rw[Mg,lM g (Nat.le_refl _) omgz] at this
 unfold Ai Aj Ak
 rw[xU,xU,LV]
 exact this
end
set_option maxHeartbeats 20000000
section
open Go Go.Sy Go.Bp Go.Lm Go.Rt
attribute [local irreducible] AO AL AC OpT ACall Ends DGo aK Thn Blk Nxt
variable {n W k i j q S o:Nat} {cz:Bool} {xs:List RV} {ZERO X:RV}
theorem soR9{i:Nat}(hi:i<9):Bl i:=by
 have h:i=0\/i=1\/i=2\/i=3\/i=4\/i=5\/i=6\/i=7\/i=8:=by omega
 rcases h with h|h|h|h|h|h|h|h|h
 ·exact @aj4 _ h
 ·exact @aj5 _ h
 ·exact @aj6 _ h
 ·exact @aj7 _ h
 ·exact @aj8 _ h
 ·exact @aj9 _ h
 ·exact @aka _ h
 ·exact @akb _ h
 ·exact @akc _ h
theorem GK{w:Nat} {CA CB CC:List AV} {b b0:List Int} {Q R:Nat->List RV} {v:Nat->Nat} {z:Nat->RV}(hn:1<=n)(hn2:n<=400)(hw:n+9=w)(hW:w+1=W)(hb:b.length=9)(hl:∀r,r<=9->(R r).length=W)(hv:∀i,i<9->b.getD i default=(v i:Int)/\v i<w)(hz:∀i,i<9->(R i).getD w default=z i)
 (hva:ACall Tryz.prog 127 [.agg [.isl false CA 9,.isl cz CB 9,.isl false CC n]] [] 0 (.val (.int .i64 0)) []) (hbg:ACall Tryz.prog 128 [.agg [.isl false CA 9,.isl cz CB 9,.isl false CC n]] [] 0 (.pt 0 0) [.cells [.val (.int .i64 9),.val (.int .i64 n),.sl 1 0 10 1,.sl 2 0 9 1,.val (.int .i64 0)] 197,.cells [.sl 3 0 W 4,.sl 4 0 W 4,.sl 5 0 W 4,.sl 6 0 W 4,.sl 7 0 W 4,.sl 8 0 W 4,.sl 9 0 W 4,.sl 10 0 W 4,.sl 11 0 W 4,.sl 12 0 W 4] 103,.cells (cI .i64 b0) 3,.cells (cR (Q 0)) 60,.cells (cR (Q 1)) 60,.cells (cR (Q 2)) 60,.cells (cR (Q 3)) 60,.cells (cR (Q 4)) 60,.cells (cR (Q 5)) 60,.cells (cR (Q 6)) 60,.cells (cR (Q 7)) 60,.cells (cR (Q 8)) 60,.cells (cR (Q 9)) 60]) (hr:ACall Tryz.prog 129 [.pt 0 0] [.cells [.val (.int .i64 9),.val (.int .i64 n),.sl 1 0 10 1,.sl 2 0 9 1,.val (.int .i64 0)] 197,.cells [.sl 3 0 W 4,.sl 4 0 W 4,.sl 5 0 W 4,.sl 6 0 W 4,.sl 7 0 W 4,.sl 8 0 W 4,.sl 9 0 W 4,.sl 10 0 W 4,.sl 11 0 W 4,.sl 12 0 W 4] 103,.cells (cI .i64 b0) 3,.cells (cR (Q 0)) 60,.cells (cR (Q 1)) 60,.cells (cR (Q 2)) 60,.cells (cR (Q 3)) 60,.cells (cR (Q 4)) 60,.cells (cR (Q 5)) 60,.cells (cR (Q 6)) 60,.cells (cR (Q 7)) 60,.cells (cR (Q 8)) 60,.cells (cR (Q 9)) 60] 13 (.tup [.val (.int .i64 (-1)),.val (.int .i64 0)]) [.cells [.val (.int .i64 9),.val (.int .i64 n),.sl 1 0 10 1,.sl 2 0 9 1,.val (.int .i64 0)] 197,.cells [.sl 3 0 W 4,.sl 4 0 W 4,.sl 5 0 W 4,.sl 6 0 W 4,.sl 7 0 W 4,.sl 8 0 W 4,.sl 9 0 W 4,.sl 10 0 W 4,.sl 11 0 W 4,.sl 12 0 W 4] 103,.cells (cI .i64 b) 3,.cells (cR (R 0)) 60,.cells (cR (R 1)) 60,.cells (cR (R 2)) 60,.cells (cR (R 3)) 60,.cells (cR (R 4)) 60,.cells (cR (R 5)) 60,.cells (cR (R 6)) 60,.cells (cR (R 7)) 60,.cells (cR (R 8)) 60,.cells (cR (R 9)) 60])
 (h0:ACall Tryz.prog 131 [] [] 0 (.agg (aa.cells ZERO)) []):
 ACall Tryz.prog 94 [.agg [.isl false CA 9,.isl cz CB 9,.isl false CC n]] [] 0 (.tup [.agg (r4 ((R 9).getD w default)++[.isl false (cR ((xbL ZERO w v z 9).take n)) n,.isl false (cR (((R 9).drop n).take 9)) 9]),.val (.int .i64 0)]) []:=by
 have hva:=PLift.up hva;have hbg:=PLift.up hbg;have hr:=PLift.up hr;have h0:=PLift.up h0
 rw[ax ZERO] at h0
 have hwd:=PLift.up (qj (m:=9) (n:=n) (A1:= .isl false [.isl false (cR (R 0)) W,.isl false (cR (R 1)) W,.isl false (cR (R 2)) W,.isl false (cR (R 3)) W,.isl false (cR (R 4)) W,.isl false (cR (R 5)) W,.isl false (cR (R 6)) W,.isl false (cR (R 7)) W,.isl false (cR (R 8)) W,.isl false (cR (R 9)) W] 10) (A2:= .isl false (cI .i64 b) 9) (A3:= .val (.int .i64 0)) omgz omgz)
 rw[hw] at hwd
 have hlM:=hl 9 omgz
 have hco:=PLift.up (Ap (xs:=R 9) (o:=n) (n:=9) omgz omgz omgz)
 have hRb:=λ(q:Nat) (h1:q<9)=>PLift.up (λ(Q:Exit->Nat->St->Prop) (him:q<=9)=>(@soR9 q h1) (CA:=CA) (CB:=CB) (CC:=CC) (cz:=cz) (n:=n) (W:=W) (w:=w) (b:=b) (R:=R) (ZERO:=ZERO) (v:=v) (z:=z) (Q:=Q) him hn2 hw hW hb hl (hv q h1).1 (hv q h1).2 (hz q h1))
 have lz:=λ(j:Nat)=>Ed (ZERO:=ZERO) (w:=w) (j:=j)
 have hbl:(xbL ZERO w v z 9).length=w:=Ee
 have hzz:eO [.bool false,.slice none 0 0,.bool false,.slice none 0 0] w=cR (xzL ZERO w 0):=acX
 have hzb:cR (xzL ZERO w w)=cR (xbL ZERO w v z 0):=rfl
 have zx3:=And.intro (jD (hl 0 omgz)) (And.intro (jD (hl 1 omgz)) (And.intro (jD (hl 2 omgz)) (And.intro (jD (hl 3 omgz)) (And.intro (jD (hl 4 omgz)) (And.intro (jD (hl 5 omgz)) (And.intro (jD (hl 6 omgz)) (And.intro (jD (hl 7 omgz)) (And.intro (jD (hl 8 omgz)) ((jD (hl 9 omgz)))))))))))
 have zx2:=And.intro (hl 0 omgz) (And.intro (hl 1 omgz) (And.intro (hl 2 omgz) (And.intro (hl 3 omgz) (And.intro (hl 4 omgz) (And.intro (hl 5 omgz) (And.intro (hl 6 omgz) (And.intro (hl 7 omgz) (And.intro (hl 8 omgz) ((hl 9 omgz))))))))))
 have hwn:w-n=9:=by omega
 have hx1:(cR (xbL ZERO w v z 9)).take (n*4)=cR ((xbL ZERO w v z 9).take n):=xC
 have hx2:(cR (((R 9).drop n).take 9)).take 36=cR (((R 9).drop n).take 9):=List.take_of_length_le (by rw[dF,List.length_take,List.length_drop];omega)
 have zx4:=ae;have zx5:=ae
 have zx1:=And.intro hwn (And.intro hb (And.intro hzz (And.intro hzb hbl)))
 simp only[r4,List.cons_append,List.nil_append]
 refine az Tryz.func94 Tryz.ntmps94 rfl ?_
 have zx6:=aA;repeat' (first|(refine ah ?_;refine ak [0,1,2,3,4,5,6,7,8,9,10,11,12,13,14,15] ([0,1,2,3,4,5,6,7,8,9,10,11,12,13,14,15].length) (UU CA CB CC cz n W w b R ZERO) (λj=>w-j.val) (⟨0,omgz⟩) rfl (by unfold UU;exact dK) ?_;(rintro⟨j,hj⟩;have zx5:=lz j;rcases Nat.lt_or_eq_of_le hj with hjl|hjl<;>first|(have eQ:=hjl.symm;subst eQ;(simp-dsimp only[UU];refine zqS ?_))|(have zx4:spl (cR (xzL ZERO w j)) (j*4) [.val (.bool ZERO.num.neg),.isl ZERO.num.z (cI .u32 ZERO.num.l) ZERO.num.l.length,.val (.bool ZERO.den.neg),.isl ZERO.den.z (cI .u32 ZERO.den.l) ZERO.den.l.length]=cR (xzL ZERO w (j+1)):=ahi omgz;(simp-dsimp only[UU];refine zqS ?_))))|(refine aj ?_;refine Nxt.mk [0,1,2,3,4,5,6,7,8,9,10,11,12,13,14,15] (⟨j+1,omgz⟩) rfl (by unfold UU;exact dK) zqO)|(refine ah ?_;refine ak [0,1,2,3,4,5,6,7,8,9,10,11,12,13,14,15] ([0,1,2,3,4,5,6,7,8,9,10,11,12,13,14,15].length) (JQ CA CB CC cz n W w b R ZERO v z) (λi=>9-i.val) (⟨0,omgz⟩) rfl (by unfold JQ;exact dK) ?_;(rintro⟨i,hi⟩;rcases Nat.lt_or_eq_of_le hi with hil|hil<;>first|(exact(hRb _ hil).down _ _)|(subst hil;(simp-dsimp only[JQ];refine zqS ?_))))|refine zqN ?_|((first|refine ay rfl (λK hK=>?_)|refine au (λK hK=>?_)|refine J7 [14] (λK hK=>?_));refine ai (f:=132) [14] 1 false ?_;refine vT ?_;refine⟨_,_,hco.down,?_⟩;refine nP ?_;apply hK;clear hK K)|((first|refine ay rfl (λK hK=>?_)|refine au (λK hK=>?_)|refine aD (λK hK=>?_));(first|refine ai (f:=127) [] 0 false ?_|refine ai (f:=128) [] 0 false ?_|refine ai (f:=129) [2,3,4,5,6,7,8,9,10,11,12,13,14] 13 false ?_|refine ai (f:=130) [] 0 true ?_|refine ai (f:=131) [] 0 false ?_);refine vT ?_;(first|refine⟨_,_,hva.down,?_⟩|refine⟨_,_,hbg.down,?_⟩|refine⟨_,_,hr.down,?_⟩|refine⟨_,_,hwd.down,?_⟩|refine⟨_,_,h0.down,?_⟩);refine nP ?_;apply hK;clear hK K)|refine kI ?_|refine uy ?_|refine uz ?_|refine uA ?_|refine kJ ?_|(refine kK ?_ ?_<;>intro hc<;>try exact zqM)|refine zqR [(19,14,[2],0),(22,19,[],1),(22,21,[2],0)] ?_|refine zqD ?_|fail)
 all_goals first
  |(((refine Ends.frz 15 ?_;simp-dsimp(disch:=try exact vD) only[push_cast,simprocAttr,Tryz.f94,hx1,hx2];(repeat refine aI ?_);intro K hK;refine hK _ _ ?_;clear hK K);(refine Ends.frz 16 ?_;simp-dsimp(disch:=try exact vD) only[push_cast,simprocAttr,Tryz.f94,hx1,hx2];(repeat refine aI ?_);intro K hK;refine hK _ _ ?_;clear hK K);refine Ends.mk2 zqI [] ?_;simp-dsimp(disch:=try exact vD) only[push_cast,simprocAttr,Tryz.f94,hx1,hx2];try exact zqF);done)
  |skip
end
section
open Go Go.Sy Go.Bp Go.Lm Go.Rt
attribute [local irreducible] AO AL AC OpT ACall Ends DGo aK Thn Blk Nxt
theorem pwW9{I:Nat}(hI:I<9):Bn I:=by
 have h:I=0\/I=1\/I=2\/I=3\/I=4\/I=5\/I=6\/I=7\/I=8:=by omega
 rcases h with h|h|h|h|h|h|h|h|h
 ·refine @ahG _ h λq h1 h2=>?_
  have h3:q=1\/q=2\/q=3\/q=4\/q=5\/q=6\/q=7\/q=8\/q=9:=by omega
  rcases h3 with h3|h3|h3|h3|h3|h3|h3|h3|h3
  ·exact @aaA _ _ h h3
  ·exact @aaB _ _ h h3
  ·exact @aaC _ _ h h3
  ·exact @aaD _ _ h h3
  ·exact @aaE _ _ h h3
  ·exact @aaF _ _ h h3
  ·exact @aaG _ _ h h3
  ·exact @aaH _ _ h h3
  ·exact @aaI _ _ h h3
 ·refine @ahH _ h λq h1 h2=>?_
  have h3:q=0\/q=2\/q=3\/q=4\/q=5\/q=6\/q=7\/q=8\/q=9:=by omega
  rcases h3 with h3|h3|h3|h3|h3|h3|h3|h3|h3
  ·exact @aaJ _ _ h h3
  ·exact @aaK _ _ h h3
  ·exact @aaL _ _ h h3
  ·exact @aaM _ _ h h3
  ·exact @aaN _ _ h h3
  ·exact @aaO _ _ h h3
  ·exact @aaP _ _ h h3
  ·exact @aaQ _ _ h h3
  ·exact @aaR _ _ h h3
 ·refine @ahI _ h λq h1 h2=>?_
  have h3:q=0\/q=1\/q=3\/q=4\/q=5\/q=6\/q=7\/q=8\/q=9:=by omega
  rcases h3 with h3|h3|h3|h3|h3|h3|h3|h3|h3
  ·exact @aaS _ _ h h3
  ·exact @aaT _ _ h h3
  ·exact @aaU _ _ h h3
  ·exact @aaV _ _ h h3
  ·exact @aaW _ _ h h3
  ·exact @aaX _ _ h h3
  ·exact @aaY _ _ h h3
  ·exact @aaZ _ _ h h3
  ·exact @aa0 _ _ h h3
 ·refine @ahJ _ h λq h1 h2=>?_
  have h3:q=0\/q=1\/q=2\/q=4\/q=5\/q=6\/q=7\/q=8\/q=9:=by omega
  rcases h3 with h3|h3|h3|h3|h3|h3|h3|h3|h3
  ·exact @aa1 _ _ h h3
  ·exact @aa2 _ _ h h3
  ·exact @aa3 _ _ h h3
  ·exact @aa4 _ _ h h3
  ·exact @aa5 _ _ h h3
  ·exact @aa6 _ _ h h3
  ·exact @aa7 _ _ h h3
  ·exact @aa8 _ _ h h3
  ·exact @aa9 _ _ h h3
 ·refine @ahK _ h λq h1 h2=>?_
  have h3:q=0\/q=1\/q=2\/q=3\/q=5\/q=6\/q=7\/q=8\/q=9:=by omega
  rcases h3 with h3|h3|h3|h3|h3|h3|h3|h3|h3
  ·exact @aba _ _ h h3
  ·exact @abb _ _ h h3
  ·exact @abd _ _ h h3
  ·exact @abe _ _ h h3
  ·exact @abf _ _ h h3
  ·exact @abg _ _ h h3
  ·exact @abh _ _ h h3
  ·exact @abj _ _ h h3
  ·exact @abk _ _ h h3
 ·refine @ahL _ h λq h1 h2=>?_
  have h3:q=0\/q=1\/q=2\/q=3\/q=4\/q=6\/q=7\/q=8\/q=9:=by omega
  rcases h3 with h3|h3|h3|h3|h3|h3|h3|h3|h3
  ·exact @abl _ _ h h3
  ·exact @abm _ _ h h3
  ·exact @abn _ _ h h3
  ·exact @abo _ _ h h3
  ·exact @abp _ _ h h3
  ·exact @abq _ _ h h3
  ·exact @abr _ _ h h3
  ·exact @abt _ _ h h3
  ·exact @abu _ _ h h3
 ·refine @ahM _ h λq h1 h2=>?_
  have h3:q=0\/q=1\/q=2\/q=3\/q=4\/q=5\/q=7\/q=8\/q=9:=by omega
  rcases h3 with h3|h3|h3|h3|h3|h3|h3|h3|h3
  ·exact @abv _ _ h h3
  ·exact @abw _ _ h h3
  ·exact @abx _ _ h h3
  ·exact @aby _ _ h h3
  ·exact @abz _ _ h h3
  ·exact @abA _ _ h h3
  ·exact @abB _ _ h h3
  ·exact @abC _ _ h h3
  ·exact @abD _ _ h h3
 ·refine @ahN _ h λq h1 h2=>?_
  have h3:q=0\/q=1\/q=2\/q=3\/q=4\/q=5\/q=6\/q=8\/q=9:=by omega
  rcases h3 with h3|h3|h3|h3|h3|h3|h3|h3|h3
  ·exact @abE _ _ h h3
  ·exact @abF _ _ h h3
  ·exact @abG _ _ h h3
  ·exact @abH _ _ h h3
  ·exact @abI _ _ h h3
  ·exact @abJ _ _ h h3
  ·exact @abK _ _ h h3
  ·exact @abL _ _ h h3
  ·exact @abM _ _ h h3
 ·refine @ahO _ h λq h1 h2=>?_
  have h3:q=0\/q=1\/q=2\/q=3\/q=4\/q=5\/q=6\/q=7\/q=9:=by omega
  rcases h3 with h3|h3|h3|h3|h3|h3|h3|h3|h3
  ·exact @abN _ _ h h3
  ·exact @abO _ _ h h3
  ·exact @abP _ _ h h3
  ·exact @abQ _ _ h h3
  ·exact @abR _ _ h h3
  ·exact @abS _ _ h h3
  ·exact @abT _ _ h h3
  ·exact @abU _ _ h h3
  ·exact @abV _ _ h h3
end
set_option maxHeartbeats 4000000
section
open Go Go.Sy Go.Bp Go.Lm Go.Rt Go.Sx
variable {n N k i j m r s w W:Nat} {l x:List Rat} {p q f:Rat} {T:Tab}
abbrev GL(n W:Nat)(T:Tab):List aC:=[.cells [.val (.int .i64 9),.val (.int .i64 n),.sl 1 0 10 1,.sl 2 0 9 1,.val (.int .i64 0)] 197,.cells [.sl 3 0 W 4,.sl 4 0 W 4,.sl 5 0 W 4,.sl 6 0 W 4,.sl 7 0 W 4,.sl 8 0 W 4,.sl 9 0 W 4,.sl 10 0 W 4,.sl 11 0 W 4,.sl 12 0 W 4] 103,.cells (cI .i64 (biT T)) 3,.cells (cR (rwT T 0)) 60,.cells (cR (rwT T 1)) 60,.cells (cR (rwT T 2)) 60,.cells (cR (rwT T 3)) 60,.cells (cR (rwT T 4)) 60,.cells (cR (rwT T 5)) 60,.cells (cR (rwT T 6)) 60,.cells (cR (rwT T 7)) 60,.cells (cR (rwT T 8)) 60,.cells (cR (rwT T 9)) 60]
theorem JR(hi:i<9)(hW:W<=500)(hk:k<W)(hr:T.rows.length=10)(hl:∀r,r<10->(T.rows.getD r []).length=W)(hb:T.basis.length=9)(hp:¬at2 T.rows i k=0)(hs:smT T=true)(hs2:smT (ji T i k)=true)(hs3:smP T i k=true):
 ACall Tryz.prog 175 [.pt 0 0,.val (.int .i64 i),.val (.int .i64 k)] (GL n W T) 13 (.tup []) (GL n W (ji T i k)):=by
 have hS:∀r j,r<10->j<W->Sm (at2 T.rows r j):=λr j h1 h2=>u6 hs omgz (by rw[hl r h1];exact h2)
 have hl2:∀r,r<10->((ji T i k).rows.getD r []).length=W:=λr h=>by
  rw[iE omgz]
  split
  ·rw[iW];exact hl i omgz
  ·split
   ·exact hl r h
   ·rw[uZ (by rw[iW,hl i omgz,hl r h])];exact hl r h
 have hS2:∀r j,r<10->j<W->Sm (at2 (ji T i k).rows r j):=λr j h1 h2=>u6 hs2 (by rw[Gu];omega) (by rw[hl2 r h1];exact h2)
 have hS3:∀r j,r<10->j<W->Sm (at2 T.rows r k*(at2 T.rows i j/at2 T.rows i k)):=λr j h1 h2=>LP hs3 omgz (by rw[hl i omgz];exact h2)
 have hq:∀j,j<W->at2 (ji T i k).rows i j=at2 T.rows i j/at2 T.rows i k:=λj h=>by
  show((ji T i k).rows.getD i []).getD j 0=_
  rw[iE omgz,if_pos rfl,lc (by rw[hl i omgz];exact h)];rfl
 have hD:∀j,j<W->Sm (at2 T.rows i j/at2 T.rows i k):=λj h=>by rw[<-hq j h];exact hS2 i j omgz h
 have hget:∀r j,r<10->j<W->(rwT T r).getD j default=rC (at2 T.rows r j):=λr j h1 h2=>jk (by rw[hl r h1];exact h2)
 have hU:∀r j,r<10->¬r=i->¬at2 T.rows r k=0->j<W->Sm (at2 T.rows r j-at2 T.rows r k*(at2 T.rows i j/at2 T.rows i k)):=λr j h1 h2 h3 h4=>by
  have e:at2 (ji T i k).rows r j=at2 T.rows r j-at2 T.rows r k*(at2 T.rows i j/at2 T.rows i k):=by
   show((ji T i k).rows.getD r []).getD j 0=_
   rw[iE omgz,if_neg h2,if_neg h3,Ah (by rw[iW,hl i omgz,hl r h1]) (by rw[hl r h1];exact h4),lc (by rw[hl i omgz];exact h4)];rfl
  rw[<-e];exact hS2 r j h1 h4
 have hg0:∀r,r<=9->¬r=i->sgn (at2 T.rows r k).num=0->rwT (ji T i k) r=rwT T r:=λr h1 h2 h3=>by
  unfold rwT;rw[iE omgz,if_neg h2,if_pos (LU.1 h3)]
 have hg1:∀r,r<=9->¬r=i->¬sgn (at2 T.rows r k).num=0->rwT (ji T i k) r=sbR (rwT T r) (λj=>sgn (at2 T.rows i j/at2 T.rows i k).num=0) (λj=>rC (at2 T.rows r j-at2 T.rows r k*(at2 T.rows i j/at2 T.rows i k))) W:=λr h1 h2 h3=>by
  have hlr:=hl r omgz
  have hli:=hl i omgz
  unfold rwT
  rw[iE omgz,if_neg h2,if_neg (λh=>h3 (LU.2 h)),<-LJ (by rw[iW,hli,hlr]),hlr]
  refine uY (by rw[jW,jW]) λj hj=>?_
  rw[jW,dG,hlr] at hj
  rw[Af hj (by rw[dG,hlr];exact Nat.le_refl _),Af hj (by rw[dG,hlr];exact Nat.le_refl _),lc (by rw[hli];exact hj)]
  rfl
 have hNi:rwT (ji T i k) i=dvL (rwT T i) (λj=>rC (at2 T.rows i j/at2 T.rows i k)) W:=by
  have hli:=hl i omgz
  unfold rwT
  rw[iE omgz,if_pos rfl,<-LH,hli];rfl
 show ACall Tryz.prog 175 _ (GL n W T) 13 (.tup []) (GL n W (ji T i k))
 unfold GL
 rw[LQ]
 have hblen:(biT T).length=9:=by unfold biT;rw[List.length_map];exact hb
 have hlw:∀r,r<=9->(rwT T r).length=W:=λr h=>by unfold rwT;rw[dG];exact hl r omgz
 exact pwW9 hi (p:=rC (at2 T.rows i k)) (d:=λj=>rC (at2 T.rows i j/at2 T.rows i k)) (sx:=λj=>sgn (at2 T.rows i j/at2 T.rows i k).num) (sg:=λr=>sgn (at2 T.rows r k).num) (f:=λr=>rC (at2 T.rows r k)) (mu:=λr j=>rC (at2 T.rows r k*(at2 T.rows i j/at2 T.rows i k))) (su:=λr j=>rC (at2 T.rows r j-at2 T.rows r k*(at2 T.rows i j/at2 T.rows i k))) (Rw:=rwT T) (New:=rwT (ji T i k))
  hW hk hlw hblen (hget i k omgz hk) hNi (λj hj=>by rw[hget i j omgz hj];exact Ul (hS _ _ omgz hj) (hS _ _ omgz hk) hp) (λr h1 h2=>hget r k omgz hk) (λr h1 h2=>jV (hS _ _ omgz hk)) (λj hj=>jV (hD j hj))
  (λr j h1 h2 h3 h4 h5=>Ot (hS _ _ omgz hk) (hD j h4)) (λr j h1 h2 h3 h4 h5=>by rw[hget r j omgz h4];exact ahj (hS _ _ omgz h4) (hS3 r j omgz h4)) hg0 hg1
end
section
open Go Go.Sy Go.Bp Go.Lm Go.Rt
attribute [local irreducible] AO AL AC OpT ACall Ends DGo aK Thn Blk Nxt
variable {n k i j q:Nat} {cz:Bool} {A:List RL} {B C:List RV} {ONE ZERO X:RV}
theorem bgR9{Q:Exit->Nat->St->Prop}(hi:i<9)(hr:i<=9)(hn:1<=n)(hn2:n<=400)(hA:A.length=9)(hB:B.length=9)(hz:(A.getD i default).z=false)(hl:(A.getD i default).l.length=n)(hc:ACall Tryz.prog 132 [.isl false (cR (A.getD i default).l) n] [] 0 (.sl 0 0 n 4) [.cells (cR (A.getD i default).l) 60])(h1:ACall Tryz.prog 171 [] [] 0 (.agg (aa.cells ONE)) [])(h0:ACall Tryz.prog 131 [] [] 0 (.agg (aa.cells ZERO)) []):
 AC Tryz.prog (cAt [1,1,0,1,0,0] (Tryz.f128.body.getD .skip)) (Thn (λ_ s=>Nxt (gV A B C cz n ONE ZERO) (λi=>9-i.val) ([0,1,20,21,22,23,24,25,26,27,28,29,30]:List Nat).length ⟨i,hr⟩ s) Q) ([0,1,20,21,22,23,24,25,26,27,28,29,30]:List Nat).length (gV A B C cz n ONE ZERO ⟨i,hr⟩):=by
 have h:i=0\/i=1\/i=2\/i=3\/i=4\/i=5\/i=6\/i=7\/i=8:=by omega
 rcases h with h|h|h|h|h|h|h|h|h
 ·subst h;exact ahP hr hn hn2 hA hB hz hl hc h1 h0
 ·subst h;exact ahQ hr hn hn2 hA hB hz hl hc h1 h0
 ·subst h;exact ahR hr hn hn2 hA hB hz hl hc h1 h0
 ·subst h;exact ahS hr hn hn2 hA hB hz hl hc h1 h0
 ·subst h;exact ahT hr hn hn2 hA hB hz hl hc h1 h0
 ·subst h;exact ahU hr hn hn2 hA hB hz hl hc h1 h0
 ·subst h;exact ahV hr hn hn2 hA hB hz hl hc h1 h0
 ·subst h;exact ahW hr hn hn2 hA hB hz hl hc h1 h0
 ·subst h;exact ahX hr hn hn2 hA hB hz hl hc h1 h0
theorem GN{NE:Nat->RV}(hn:1<=n)(hn2:n<=400)(hA:A.length=9)(hB:B.length=9)(hC:C.length=n)(hz:∀i,i<9->(A.getD i default).z=false)(hl:∀i,i<9->(A.getD i default).l.length=n)
 (hc:∀i,i<9->ACall Tryz.prog 132 [.isl false (cR (A.getD i default).l) n] [] 0 (.sl 0 0 n 4) [.cells (cR (A.getD i default).l) 60]) (h1:ACall Tryz.prog 171 [] [] 0 (.agg (aa.cells ONE)) []) (h0:ACall Tryz.prog 131 [] [] 0 (.agg (aa.cells ZERO)) [])
 (hne:∀j,j<n->ACall Tryz.prog 172 [.agg (aa.cells (C.getD j default))] [] 0 (.agg (aa.cells (NE j))) []):
 ACall Tryz.prog 128 [.agg [.isl false (cX A) 9,.isl cz (cR B) 9,.isl false (cR C) n]] [] 0 (.pt 0 0) [.cells [.val (.int .i64 9),.val (.int .i64 n),.sl 1 0 10 1,.sl 2 0 9 1,.val (.int .i64 0)] 197,.cells [.sl 3 0 (n+10) 4,.sl 4 0 (n+10) 4,.sl 5 0 (n+10) 4,.sl 6 0 (n+10) 4,.sl 7 0 (n+10) 4,.sl 8 0 (n+10) 4,.sl 9 0 (n+10) 4,.sl 10 0 (n+10) 4,.sl 11 0 (n+10) 4,.sl 12 0 (n+10) 4] 103,.cells [.val (.int .i64 n),.val (.int .i64 ((n:Int)+1)),.val (.int .i64 ((n:Int)+2)),.val (.int .i64 ((n:Int)+3)),.val (.int .i64 ((n:Int)+4)),.val (.int .i64 ((n:Int)+5)),.val (.int .i64 ((n:Int)+6)),.val (.int .i64 ((n:Int)+7)),.val (.int .i64 ((n:Int)+8))] 3,.cells (cR (aP A B ONE ZERO 0)) 60,.cells (cR (aP A B ONE ZERO 1)) 60,.cells (cR (aP A B ONE ZERO 2)) 60,.cells (cR (aP A B ONE ZERO 3)) 60,.cells (cR (aP A B ONE ZERO 4)) 60,.cells (cR (aP A B ONE ZERO 5)) 60,.cells (cR (aP A B ONE ZERO 6)) 60,.cells (cR (aP A B ONE ZERO 7)) 60,.cells (cR (aP A B ONE ZERO 8)) 60,.cells (cR (xq NE n ZERO 10)) 60]:=by
 have hRq:=λ(q:Nat) (hq1:q<9)=>PLift.up (λ(Q:Exit->Nat->St->Prop) (him:q<=9)=>bgR9 (A:=A) (B:=B) (C:=C) (cz:=cz) (n:=n) (ONE:=ONE) (ZERO:=ZERO) (Q:=Q) hq1 him hn hn2 hA hB (hz q hq1) (hl q hq1) (hc q hq1) h1 h0)
 have hnq:=λ(j:Nat) (h:j<n)=>PLift.up (hne j h)
 have h1:=PLift.up h1;have h0:=PLift.up h0
 rw[ax ZERO] at h0;clear h1
 have hn4:n+9+1=n+10:=rfl;have hi0:(n:Int)+0=n:=Int.add_zero _
 have hzn0:xq NE n ZERO 0=Aw NE n:=rfl
 have zx5:=And.intro hzn0 (And.intro hn4 (And.intro hi0 (And.intro hA (And.intro hB hC))))
 have hbf:=And.intro (iY (A:=A) (B:=B) (ONE:=ONE) (ZERO:=ZERO) (hl 0 omgz)) (iY (A:=A) (B:=B) (ONE:=ONE) (ZERO:=ZERO) (hl 1 omgz))
 clear hc hz hl hne
 have ln:=λ(j:Nat)=>GM (NE:=NE) (j:=j);have lz:=λ(k:Nat)=>UZ (NE:=NE) (n:=n) (ZERO:=ZERO) (k:=k)
 have zx1:=ae;have zx2:=ae;have zx3:=ae;have hni:=ae
 refine az Tryz.func128 Tryz.ntmps128 rfl ?_
 have zx4:= @lq;have zx6:=aA;repeat' (first|(refine ah ?_;refine ak [0,1,20,21,22,23,24,25,26,27,28,29,30] ([0,1,20,21,22,23,24,25,26,27,28,29,30].length) (gV A B C cz n ONE ZERO) (λi=>9-i.val) (⟨0,omgz⟩) rfl (by unfold gV;exact dK) ?_;(rintro⟨i,hi⟩;rcases Nat.lt_or_eq_of_le hi with hil|hil<;>first|(exact(hRq _ hil).down _ _)|(subst hil;(simp-dsimp only[gV];refine zqS ?_))))|(refine ah ?_;refine ak [0,1,2,3,4,5,6,7,8,9,10,11,12,99] ([0,1,2,3,4,5,6,7,8,9,10,11,12,99].length) (Ay A B C cz n ONE ZERO NE) (λj=>n-j.val) (⟨0,omgz⟩) rfl (by unfold Ay;exact dK) ?_;(rintro⟨j,hj⟩;have zx1:=ln j;rcases Nat.lt_or_eq_of_le hj with hjl|hjl<;>first|(have eQ:=hjl.symm;subst eQ;(simp-dsimp only[Ay];refine zqS ?_))|(have hni:=hnq j hjl;have zx3:_=cR (Aw NE (j+1)):=dE (Aw NE j) (NE j);rcases Nat.eq_zero_or_pos j with j0|j0<;>first|(subst j0;(simp-dsimp only[Ay];refine zqS ?_))|(simp-dsimp only[Ay];refine zqS ?_))))|(refine aj ?_;refine Nxt.mk [0,1,2,3,4,5,6,7,8,9,10,11,12,14] (⟨j+1,omgz⟩) rfl (by unfold Ay;exact dK) zqO)|(refine aj ?_;refine Nxt.mk [0,1,2,3,4,5,6,7,8,9,10,11,12,14] (⟨1,omgz⟩) rfl (by unfold Ay;exact dK) zqO)|(refine aj ?_;refine Nxt.mk [0,1,2,3,4,5,6,7,8,9,10,11,12,15] (⟨j+1,omgz⟩) rfl (by unfold Ay;exact dK) zqO)|(refine aj ?_;refine Nxt.mk [0,1,2,3,4,5,6,7,8,9,10,11,12,15] (⟨1,omgz⟩) rfl (by unfold Ay;exact dK) zqO)|(refine aj ?_;refine Nxt.mk [0,1,2,3,4,5,6,7,8,9,10,11,12,16] (⟨j+1,omgz⟩) rfl (by unfold Ay;exact dK) zqO)|(refine aj ?_;refine Nxt.mk [0,1,2,3,4,5,6,7,8,9,10,11,12,16] (⟨1,omgz⟩) rfl (by unfold Ay;exact dK) zqO)|(refine ah ?_;refine ak [0,1,2,3,4,5,6,7,8,9,10,11,12,13] ([0,1,2,3,4,5,6,7,8,9,10,11,12,13].length) (JS A B C cz n ONE ZERO NE) (λk=>10-k.val) (⟨0,omgz⟩) rfl (by unfold JS;exact dK) ?_;(rintro⟨k,hk⟩;have zx2:=lz k;rcases Nat.lt_or_eq_of_le hk with hkl|hkl<;>first|(have eQ:=hkl.symm;subst eQ;(simp-dsimp only[JS];refine zqS ?_))|(have zx3:_=cR (xq NE n ZERO (k+1)):=dE (xq NE n ZERO k) ZERO;(simp-dsimp only[JS];refine zqS ?_))))|(refine aj ?_;refine Nxt.mk [0,1,2,3,4,5,6,7,8,9,10,11,12,14] (⟨k+1,omgz⟩) rfl (by unfold JS;exact dK) zqO)|(refine aj ?_;refine Nxt.mk [0,1,2,3,4,5,6,7,8,9,10,11,12,15] (⟨k+1,omgz⟩) rfl (by unfold JS;exact dK) zqO)|(refine aj ?_;refine Nxt.mk [0,1,2,3,4,5,6,7,8,9,10,11,12,16] (⟨k+1,omgz⟩) rfl (by unfold JS;exact dK) zqO)|refine zqN ?_|refine o7 h0.down ?_|refine o7 hni.down ?_|refine kI ?_|refine uy ?_|refine uz ?_|refine uA ?_|refine kJ ?_|(refine kK ?_ ?_<;>intro hc<;>try exact zqM)|refine zqR [(13,11,[],1),(13,12,[2],1),(13,13,[],1),(13,14,[2],1),(13,17,[2],0),(14,11,[],1),(14,12,[6],1),(14,15,[2],0)] ?_|refine zqD ?_|fail)
 all_goals first
  |(exact aB [1,15,3,4,5,6,7,8,9,10,11,12,13];done)
  |(exact aB [1,2,3,4,5,6,7,8,9,10,11,12,13];done)
  |skip
end
section
open Go Go.Sy Go.Bp Go.Lm Go.Rt Go.Sx
attribute [local irreducible] AO AL AC OpT ACall Ends DGo aK Thn Blk Nxt
variable {n N k i j m r s w W S:Nat} {cz:Bool} {l x:List Rat} {p q f:Rat} {T T0:Tab} {A:List (List Rat)} {B C:List Rat}
theorem El(g:GT 9 n T):UX n (n+10) (λ_=>rwT T) (λ_=>biT T) s=tbV 9 n (rsT 9 T) (biT T):=by
 have h0:(rwT T 0).length=n+10:=eD g omgz;have h1:(rwT T 1).length=n+10:=eD g omgz;have h2:(rwT T 2).length=n+10:=eD g omgz;have h3:(rwT T 3).length=n+10:=eD g omgz;have h4:(rwT T 4).length=n+10:=eD g omgz;have h5:(rwT T 5).length=n+10:=eD g omgz;have h6:(rwT T 6).length=n+10:=eD g omgz;have h7:(rwT T 7).length=n+10:=eD g omgz;have h8:(rwT T 8).length=n+10:=eD g omgz;have h9:(rwT T 9).length=n+10:=eD g omgz
 show([.val (.int .i64 9),.val (.int .i64 n),.isl false [.isl false (cR (rwT T 0)) (n+10),.isl false (cR (rwT T 1)) (n+10),.isl false (cR (rwT T 2)) (n+10),.isl false (cR (rwT T 3)) (n+10),.isl false (cR (rwT T 4)) (n+10),.isl false (cR (rwT T 5)) (n+10),.isl false (cR (rwT T 6)) (n+10),.isl false (cR (rwT T 7)) (n+10),.isl false (cR (rwT T 8)) (n+10),.isl false (cR (rwT T 9)) (n+10)] 10,.isl false (cI .i64 (biT T)) 9,.val (.int .i64 0)]:List AV)=[.val (.int .i64 (9:Nat)),.val (.int .i64 n),.isl false [.isl (false:Bool) (cR (rwT T 0)) (rwT T 0).length,.isl (false:Bool) (cR (rwT T 1)) (rwT T 1).length,.isl (false:Bool) (cR (rwT T 2)) (rwT T 2).length,.isl (false:Bool) (cR (rwT T 3)) (rwT T 3).length,.isl (false:Bool) (cR (rwT T 4)) (rwT T 4).length,.isl (false:Bool) (cR (rwT T 5)) (rwT T 5).length,.isl (false:Bool) (cR (rwT T 6)) (rwT T 6).length,.isl (false:Bool) (cR (rwT T 7)) (rwT T 7).length,.isl (false:Bool) (cR (rwT T 8)) (rwT T 8).length,.isl (false:Bool) (cR (rwT T 9)) (rwT T 9).length] (9+1),.isl false (cI .i64 (biT T)) 9,.val (.int .i64 0)]
 rw[h0,h1,h2,h3,h4,h5,h6,h7,h8,h9];rfl
theorem U0(hn:n<=400)(h:nH 9 n T0 S=true):ACall Tryz.prog 129 [.pt 0 0] (GL n (n+10) T0) 13 (.tup [.val (.int .i64 (-1)),.val (.int .i64 0)]) (GL n (n+10) (TT 9 n T0 S)):=by
 have gt:=ry h
 have gs:=DU h
 have ge:=LM h
 exact OB (n:=n) (W:=n+10) (S:=S) (Ro:=λs=>rwT (TT 9 n T0 s)) (bs:=λs=>biT (TT 9 n T0 s)) (kk:=λs=>kkF 9 n (TT 9 n T0 s)) (ii:=λs=>iiF 9 n (TT 9 n T0 s)) omgz
  (λs r hs hr=>eD (gt s hs) hr) (λs hs=>vk (gt s hs))
  (λs hs=>by
    have:=Ec omgz hn (gs s hs).toGT
    rw[if_neg (by have:=(gs s hs).k;omega),<-El (s:=s) (gs s hs).toGT] at this
    exact this)
  (by
    have:=Ec omgz hn (gt S (Nat.le_refl _))
    rw[if_pos ge,<-El (s:=S) (gt S (Nat.le_refl _))] at this
    exact this)
  (λs hs=>by
    have:=UI omgz hn (gs s hs)
    rw[<-El (s:=s) (gs s hs).toGT] at this
    exact this)
  (λs hs=>by
    have g:=gs s hs
    exact JR (n:=n) (W:=n+10) (T:=TT 9 n T0 s) (i:=iiF 9 n (TT 9 n T0 s)) (k:=kkF 9 n (TT 9 n T0 s)) g.i omgz (by have:=g.k;omega) g.rl (λr hr=>g.rw r omgz) g.bl g.p0 g.sm (gt (s+1) hs).sm g.sp)
theorem U1(hA:A.length=9)(hi:i<9):bM (mxA A) (rC 1) (rC 0) i k=rm (A.getD i []++(List.range k).map (λq=>if q=i then(1:Rat) else 0)):=by
 induction k with
 |zero=>rw[bM,lK omgz];simp
 |succ k ih=>
  rw[bM,ih,List.range_succ,List.map_append,<-List.append_assoc,ql (b:=List.map _ [k])]
  congr 1
  show _=[rC (if k=i then 1 else 0)]
  split<;>rfl
theorem jX(hi:i<9)(hA:A.length=9)(hB:B.length=9):aP (mxA A) (rm B) (rC 1) (rC 0) i=rwT (aW A B C) i:=by
 unfold rwT
 rw[aP,U1 hA hi,LX omgz,ql (b:=[B.getD i 0]),Sx.one1,hB,jk omgz];rfl
theorem U2(h:k<=C.length):Aw (λj=>rC (-(C.getD j 0))) k=rm ((C.take k).map (λc=> -c)):=by
 induction k with
 |zero=>simp[Aw,rm]
 |succ k ih=>
  rw[Aw,ih omgz,List.take_add_one,List.getElem?_eq_getElem omgz,List.map_append,ql]
  congr 1
  rw[List.getD_eq_getElem?_getD,List.getElem?_eq_getElem omgz];rfl
theorem U3(hn:C.length=n):xq (λj=>rC (-(C.getD j 0))) n (rC 0) k=rm (C.map (λc=> -c)++List.replicate k 0):=by
 induction k with
 |zero=>rw[xq,U2 omgz,List.take_of_length_le omgz];simp
 |succ k ih=>rw[xq,ih,List.replicate_succ',<-List.append_assoc,ql (b:=[0])];rfl
theorem JU(hn:1<=n)(hn2:n<=400)(hA:A.length=9)(hB:B.length=9)(hC:C.length=n)(hl:∀i,i<9->(A.getD i []).length=n)(hs:∀j,j<n->Sm (C.getD j 0)):
 ACall Tryz.prog 128 [.agg [.isl false (cX (mxA A)) 9,.isl cz (cR (rm B)) 9,.isl false (cR (rm C)) n]] [] 0 (.pt 0 0) (GL n (n+10) (aW A B C)):=by
 have h:=GN (n:=n) (cz:=cz) (A:=mxA A) (B:=rm B) (C:=rm C) (ONE:=rC 1) (ZERO:=rC 0) (NE:=λj=>rC (-(C.getD j 0))) hn hn2 (by rw[u7];exact hA) (by rw[dG];exact hB) (by rw[dG];exact hC)
  (λi hi=>by rw[lK omgz]) (λi hi=>by rw[lK omgz];show(rm _).length=n;rw[dG];exact hl i hi)
  (λi hi=>by rw[lK omgz];exact Gg (by rw[dG];exact hl i hi) omgz) LC uV
  (λj hj=>by rw[jk omgz];exact LF (hs j hj))
 have eb:biT (aW A B C)=(List.range 9).map λk=>((n+k:Nat):Int):=by unfold biT aW;dsimp only;rw[hB,hC,List.map_map];rfl
 have el:xq (λj=>rC (-(C.getD j 0))) n (rC 0) 10=rwT (aW A B C) 9:=by
  have h2:=Gv (A:=A) (B:=B) (C:=C)
  rw[hA,hB] at h2
  unfold rwT
  rw[h2,U3 hC]
 have e0:aP (mxA A) (rm B) (rC 1) (rC 0) 0=rwT (aW A B C) 0:=jX omgz hA hB
 have e1:aP (mxA A) (rm B) (rC 1) (rC 0) 1=rwT (aW A B C) 1:=jX omgz hA hB
 have e2:aP (mxA A) (rm B) (rC 1) (rC 0) 2=rwT (aW A B C) 2:=jX omgz hA hB
 have e3:aP (mxA A) (rm B) (rC 1) (rC 0) 3=rwT (aW A B C) 3:=jX omgz hA hB
 have e4:aP (mxA A) (rm B) (rC 1) (rC 0) 4=rwT (aW A B C) 4:=jX omgz hA hB
 have e5:aP (mxA A) (rm B) (rC 1) (rC 0) 5=rwT (aW A B C) 5:=jX omgz hA hB
 have e6:aP (mxA A) (rm B) (rC 1) (rC 0) 6=rwT (aW A B C) 6:=jX omgz hA hB
 have e7:aP (mxA A) (rm B) (rC 1) (rC 0) 7=rwT (aW A B C) 7:=jX omgz hA hB
 have e8:aP (mxA A) (rm B) (rC 1) (rC 0) 8=rwT (aW A B C) 8:=jX omgz hA hB
 rw[e0,e1,e2,e3,e4,e5,e6,e7,e8,el] at h
 show ACall Tryz.prog 128 _ [] 0 (.pt 0 0) [.cells [.val (.int .i64 9),.val (.int .i64 n),.sl 1 0 10 1,.sl 2 0 9 1,.val (.int .i64 0)] 197,.cells [.sl 3 0 (n+10) 4,.sl 4 0 (n+10) 4,.sl 5 0 (n+10) 4,.sl 6 0 (n+10) 4,.sl 7 0 (n+10) 4,.sl 8 0 (n+10) 4,.sl 9 0 (n+10) 4,.sl 10 0 (n+10) 4,.sl 11 0 (n+10) 4,.sl 12 0 (n+10) 4] 103,.cells (cI .i64 (biT (aW A B C))) 3,.cells (cR (rwT (aW A B C) 0)) 60,.cells (cR (rwT (aW A B C) 1)) 60,.cells (cR (rwT (aW A B C) 2)) 60,.cells (cR (rwT (aW A B C) 3)) 60,.cells (cR (rwT (aW A B C) 4)) 60,.cells (cR (rwT (aW A B C) 5)) 60,.cells (cR (rwT (aW A B C) 6)) 60,.cells (cR (rwT (aW A B C) 7)) 60,.cells (cR (rwT (aW A B C) 8)) 60,.cells (cR (rwT (aW A B C) 9)) 60]
 rw[eb]
 exact h
theorem JV(hn:1<=n)(hn2:n<=400)(hA:A.length=9)(hB:B.length=9)(hC:C.length=n)(hl:∀i,i<9->(A.getD i []).length=n)(hs:∀j,j<n->Sm (C.getD j 0))(h:nH 9 n (aW A B C) S=true)
 (hv:ACall Tryz.prog 127 [.agg [.isl false (cX (mxA A)) 9,.isl cz (cR (rm B)) 9,.isl false (cR (rm C)) n]] [] 0 (.val (.int .i64 0)) []):
 ACall Tryz.prog 94 [.agg [.isl false (cX (mxA A)) 9,.isl cz (cR (rm B)) 9,.isl false (cR (rm C)) n]] [] 0 (.tup [.agg (r4 (rC (Ai 9 n (TT 9 n (aW A B C) S)))++[.isl false (cR (rm (Aj 9 n (TT 9 n (aW A B C) S)))) n,.isl false (cR (rm (Ak 9 n (TT 9 n (aW A B C) S)))) 9]),.val (.int .i64 0)]) []:=by
 have g:=ry h S (Nat.le_refl _)
 generalize hT:TT 9 n (aW A B C) S=T at g⊢
 have hr:=U0 hn2 h
 rw[hT] at hr
 have:=GK (n:=n) (w:=n+9) (W:=n+10) (CA:=cX (mxA A)) (CB:=cR (rm B)) (CC:=cR (rm C)) (b0:=biT (aW A B C)) (Q:=rwT (aW A B C)) (b:=biT T) (R:=rwT T) (v:=λi=>T.basis.getD i 0) (z:=λi=>rC (at2 T.rows i (n+9))) hn hn2 rfl rfl (vk g) (λr h=>eD g omgz) (λi hi=>⟨vo g hi,g.bw i hi⟩) (λi h=>lM g omgz omgz)
  hv (JU hn hn2 hA hB hC hl hs) hr uV
 rw[Mg,lM g (Nat.le_refl _) omgz] at this
 unfold Ai Aj Ak
 rw[xU,xU,LV]
 exact this
end
section
open Go Go.Sy Go.Bp Go.Lm Go.Rt Go.Sx
attribute [local irreducible] AO AL AC OpT ACall Ends DGo aK Thn Blk Nxt
variable {n N k i j m S:Nat} {p q s:Rat} {wr:List Nat} {T:Tab}
theorem ahY(g:GW wr 9)(hr:nH 9 wr.length (T0F wr 9) S=true)(ho:Ch 9 wr.length (TT 9 wr.length (T0F wr 9) S)=true)(hc:Ci wr 9 (TT 9 wr.length (T0F wr 9) S)=true)
 (hz:ACall Tryz.prog 55 [] [] 0 (.agg (aa.cells (rC 0))) []) (hn:ACall Tryz.prog 101 [.val (.int .i64 1)] [] 0 (.agg (aa.cells (rC 1))) []):
 ACall Tryz.prog 21 [.isl false (cX wr) wr.length,.val (.int .i64 9)] [] 0 (.tup [.agg (aa.cells (rC (ldF 9 wr.length (TT 9 wr.length (T0F wr 9) S)))),.val (.int .i64 0)]) []:=by
 have gn:=g.n
 have gn0:=g.n0
 have gt:=ry hr S (Nat.le_refl _)
 have hs:=JV (cz:=false) (n:=wr.length) (A:=mxF wr 9) (B:=onF 9) (C:=onF wr.length) (S:=S) gn0 gn rz kS kS (λi hi=>DV hi) (λj hj=>by rw[ve hj];exact sm1) hr (D5 g)
 have ones:=Cm (n:=9) (X:=rC 1) omgz omgz hn
 rw[DY] at ones
 exact Cn (m:=9) (n:=wr.length) (wr:=wr) (a:=wr.getD 0 default) (F:=rC 0) (cap:=rm (onF 9)) gn0 gn rfl rfl hz ones
  (GD g omgz (GO.of ho) gt.rl (gt.rw 9 (Nat.le_refl _)) hs) (UF g (GO.of ho) (GC.of hc))
end
section
open Go Go.Sy Go.Bp Go.Lm Go.Rt Go.Sx
attribute [local irreducible] AO AL AC OpT ACall Ends DGo aK Thn Blk Nxt
variable {n N k i j m S:Nat} {p q s:Rat} {wr:List Nat} {T:Tab}
theorem U7(g:GW wr 3)(hr:nH 3 wr.length (T0F wr 3) S=true)(ho:Ch 3 wr.length (TT 3 wr.length (T0F wr 3) S)=true)(hc:Ci wr 3 (TT 3 wr.length (T0F wr 3) S)=true)
 (hz:ACall Tryz.prog 55 [] [] 0 (.agg (aa.cells (rC 0))) []) (hn:ACall Tryz.prog 101 [.val (.int .i64 1)] [] 0 (.agg (aa.cells (rC 1))) []):
 ACall Tryz.prog 21 [.isl false (cX wr) wr.length,.val (.int .i64 3)] [] 0 (.tup [.agg (aa.cells (rC (ldF 3 wr.length (TT 3 wr.length (T0F wr 3) S)))),.val (.int .i64 0)]) []:=by
 have gn:=g.n
 have gn0:=g.n0
 have gt:=ry hr S (Nat.le_refl _)
 have hs:=JP (cz:=false) (n:=wr.length) (A:=mxF wr 3) (B:=onF 3) (C:=onF wr.length) (S:=S) gn0 gn rz kS kS (λi hi=>DV hi) (λj hj=>by rw[ve hj];exact sm1) hr (D5 g)
 have ones:=Cm (n:=3) (X:=rC 1) omgz omgz hn
 rw[DY] at ones
 exact Cn (m:=3) (n:=wr.length) (wr:=wr) (a:=wr.getD 0 default) (F:=rC 0) (cap:=rm (onF 3)) gn0 gn rfl rfl hz ones
  (GD g omgz (GO.of ho) gt.rl (gt.rw 3 (Nat.le_refl _)) hs) (UF g (GO.of ho) (GC.of hc))
end
section
open Go Go.Sy Go.Bp Go.Lm Go.Rt Go.Sx Go.Dg
attribute [local irreducible] AO AL AC OpT ACall Ends DGo aK Thn Blk Nxt
variable {n N k i j m S L:Nat} {z:Bool} {B:List Nat}
theorem U8:ACall Tryz.prog 101 [.val (.int .i64 1)] [] 0 (.agg (aa.cells (rC 1))) []:=U4 (rf (v:=1) (by decide) (by decide)) (rf (v:=1) (by decide) (by decide))
theorem En:ACall Tryz.prog 55 [] [] 0 (.agg (aa.cells (rC 0))) []:=GQ (rf (v:=1) (by decide) (by decide))
theorem s23:Sm (2/3):=gp (by decide+kernel)
theorem oP:ACall Tryz.prog 7 [] [] 0 (.val (.bool true)) []:=by
 have hl:=U7 (wr:=[3,5,6]) (S:=3) ajY aho ahp ahq En U8
 rw[show ldF 3 ([3,5,6]:List Nat).length (TT 3 ([3,5,6]:List Nat).length (T0F [3,5,6] 3) 3)=2/3 from ahr] at hl
 have hv:=lW (z:=false) (xs:=[3,5,6]) (n:=3) rfl omgz
 rw[show oG [3,5,6]=0 by decide] at hv
 have ht:=OC (z:=false) (f:=[3,5,6]) (n:=3) (s:=7) (xs:=iq 7) (p:=BM [3,5,6]) (q:=4) rfl omgz (by decide) (by decide) (by decide) rfl rfl (by decide) (by decide) (by decide)
 have hr:=U6 (z:=false) (f:=[3,5,6]) (n:=3) (s:=(iq 7).getD 4 0) omgz omgz (by decide) hv ht
 rw[show aF ((iq 7).getD 4 0) 16-1=1 by decide] at hr
 refine Em hl hr (ag6 (a:=2) (b:=3) (by decide) (by decide) (by decide)) ?_
 rw[show Rat.divInt 2 3=2/3 from by decide+kernel]
 have he:=LA (DL s23) (DL s23)
 rwa [Cf] at he
end
section
open Go Go.Sy Go.Bp Go.Dg Go.Lm Go.Sx Go.Rt
attribute [local irreducible] AO AL AC OpT ACall Ends DGo aK Thn Blk Nxt
variable {n m i j k q S s:Nat} {z x:Ex} {t:Nd} {f g A xs:List Nat} {p:Nat->Bool} {a b:Rat} {l1 l2:List Int} {z1 z2 zf zg:Bool} {k3:List Ex} {e:TypeId}
theorem ahZ(hf:f∈FL)(hg:g∈FL):∃S,okP f g S=true:=by
 unfold FL at hf
 simp only[List.mem_cons,List.not_mem_nil,or_false] at hf
 rcases hf with h|h|h|h|h|h|h|h|h|h|h|h|h|h|h|h|h|h<;>subst h
 ·exact fV pq0 g hg
 ·exact fV pq1 g hg
 ·exact fV pq2 g hg
 ·exact fV pq3 g hg
 ·exact fV pq4 g hg
 ·exact fV pq5 g hg
 ·exact fV pq6 g hg
 ·exact fV pq7 g hg
 ·exact fV pq8 g hg
 ·exact fV pq9 g hg
 ·exact fV pq10 g hg
 ·exact fV pq11 g hg
 ·exact fV pq12 g hg
 ·exact fV pq13 g hg
 ·exact fV pq14 g hg
 ·exact fV pq15 g hg
 ·exact fV pq16 g hg
 ·exact fV pq17 g hg
theorem U9(h:okW m A=true)(h1:1<=m)(h2:m<=12):GW A m:=by
 unfold okW at h
 simp only[Bool.and_eq_true,decide_eq_true_eq,List.all_eq_true,List.mem_range] at h
 obtain⟨a1,a2,a3,a4,a5,a6,a7⟩:=h
 exact⟨a1,a2,h1,h2,a3,a4,a5,a6,a7⟩
theorem acY(h:okL 3 A S=true):ACall Tryz.prog 21 [.isl false (cX A) A.length,.val (.int .i64 3)] [] 0 (.tup [.agg (aa.cells (rC (ldA 3 A S))),.val (.int .i64 0)]) []:=by
 unfold okL at h
 simp only[Bool.and_eq_true] at h
 exact U7 (U9 h.1 omgz omgz) h.2.1 h.2.2.1 h.2.2.2 En U8
theorem ake(h:okL 9 A S=true):ACall Tryz.prog 21 [.isl false (cX A) A.length,.val (.int .i64 9)] [] 0 (.tup [.agg (aa.cells (rC (ldA 9 A S))),.val (.int .i64 0)]) []:=by
 unfold okL at h
 simp only[Bool.and_eq_true] at h
 exact ahY (U9 h.1 omgz omgz) h.2.1 h.2.2.1 h.2.2.2 En U8
theorem ah0(h:Sm a)(h2:Sm b):ACall Tryz.prog 22 [.agg (aa.cells (rC a)),.agg (aa.cells (rC b))] [] 0 (.tup [.agg (aa.cells (rC (a*b))),.val (.int .i64 0)]) []:=by
 rw[mF (q:=a),mF (q:=b)]
 refine Two.rmul (lh h).ok (lh h2).ok (wD h h2).d (Ad ?_)
 have a:=mH h.1 h2.1
 rw[Int.natAbs_mul]
 generalize(10:Nat)^280=T at*
 omega
theorem Co_o(hso:kY x)(hfo:xg x)(hls:∀y∈k3,kY y/\xg y/\Nz y)(hL2:k3.length<=1000):
 ACall Tryz.prog 19 [.agg (aa.cells x),.sl 0 0 k3.length 2] [.cells (cR k3) e] 0 (.tup [.agg (aa.cells (lC mkP x k3).1),.val (.int .i64 (lC mkP x k3).2)]) []:=
 ACall.own (args':=[.agg (aa.cells x),.isl false (cR k3) k3.length]) (by rw[Qg];trivial) (by simp[bP,age rfl,Qs]) (by
  intro y hy
  rcases List.mem_cons.1 hy with rfl|hy
  ·unfold bnd;rw[Qt];trivial
  ·rw[List.mem_singleton.1 hy];simp[bnd]) (ajD hso hfo hls hL2)
theorem Co3(hf:FOk 3 f)(hg:FOk 3 g):ACall Tryz.prog 19 [.agg (aa.cells (xF f)),.sl 0 0 3 2] [.cells (aa.cells (xF g)++(aa.cells (xF g)++aa.cells (xF g))) 50] 0 (.tup [.agg (aa.cells (prZ f g).1),.val (.int .i64 (prZ f g).2)]) []:=by
 have h:=Co_o (x:=xF f) (k3:=[xF g,xF g,xF g]) (e:=50) hf.fine.sh (λj hj _=>(hf.fine.nz _ (bq hj)).1) (λy hy=>by
  have:y=xF g:=by simpa using hy
  subst this
  refine⟨hg.fine.sh,λj hj _=>(hg.fine.nz _ (bq hj)).1,λhz=>?_⟩
  unfold xF FB at hz
  split at hz<;>cases hz) (by simp)
 rwa [show cR [xF g,xF g,xF g]=aa.cells (xF g)++(aa.cells (xF g)++aa.cells (xF g)) by simp[cR]] at h
theorem Va:∀d,j+d=m->mBl p xs j<=mBl p xs m:=by
 intro d
 induction d generalizing m with
 |zero=>intro h;rw[<-h];exact Nat.le_refl _
 |succ d ih=>
  intro h
  subst h
  refine Nat.le_trans (ih rfl) ?_
  show(mB p xs (j+d)).length<=(mB p xs (j+d+1)).length
  rw[mB]
  split
  ·simp
  ·exact Nat.le_refl _
theorem akf(h:okZ z=true)(hA:mC (λq=>(taX z).testBit q) [] (iq (prS z))=A)(hl:A.length<=400):
 ∃b,ACall Tryz.prog 20 [.agg (aa.cells z)] [] 0 (.tup [.isl b (cX A) A.length,.val (.int .i64 0)]) []/\b=(A.length==0):=by
 unfold okZ at h
 simp only[Bool.and_eq_true,decide_eq_true_eq,List.all_eq_true] at h
 obtain⟨h1,h2,h3,h4,h5,h6⟩:=h
 have hk:∀t∈z.nodes,t.w=[]/\t.k.length<=20:=λt ht=>by
  have:=h3 t ht
  unfold okT at this
  simp only[Bool.and_eq_true,decide_eq_true_eq,List.isEmpty_iff] at this
  exact⟨this.1,this.2.1⟩
 have e:mB (KH z) (iq (prS z)) (iq (prS z)).length=A:=by
  rw[<-aj0 0 (Nat.zero_le _),List.drop_zero,<-hA]
  exact Uv λy hy=>ahw (h6 y hy) h3
 have hml:∀j,j<=(iq (prS z)).length->mBl (KH z) (iq (prS z)) j<=400:=λj hj=>by
  refine Nat.le_trans (Va (j:=j) (m:=(iq (prS z)).length) ((iq (prS z)).length-j) omgz) ?_
  show(mB _ _ _).length<=400
  rw[e];exact hl
 have hf:=I1 (x:=z) h1 ⟨omgz,λj hj=>by
  have:=hk _ (bq (d:=default) hj)
  rw[this.1];exact⟨by simp,omgz⟩⟩ (λj hj=>by have:=(hk _ (bq (d:=default) hj)).2;omega) rfl h4 rfl h5 hml rfl
 unfold mBl at hf
 rw[show svS z z.nodes.length=prS z from rfl,e] at hf
 exact⟨_,hf,rfl⟩
theorem abX(hf:f∈FL)(hg:g∈FL)(s1:ACall Tryz.prog 17 [.isl z1 (cI .u8 l1) n,.val (.int .i64 3)] [] 0 (.tup [.isl false (cX f) f.length,.val (.bool true)]) [])(s2:ACall Tryz.prog 17 [.isl z2 (cI .u8 l2) m,.val (.int .i64 3)] [] 0 (.tup [.isl false (cX g) g.length,.val (.bool true)]) []):
 ACall Tryz.prog 4 [.isl z1 (cI .u8 l1) n,.isl z2 (cI .u8 l2) m] [] 0 (.val (.bool true)) []:=by
 obtain⟨S,h⟩:=ahZ hf hg
 have F:=acV f hf;have G:=acV g hg
 have x1:=F.xof (z:=false);have x2:=G.xof (z:=false)
 have hc:=Co3 F G
 unfold okP at h
 rw[Bool.or_eq_true,decide_eq_true_eq] at h
 rcases h with h|h
 ·rw[h] at hc
  exact ahy oP s1 s2 x1 x2 hc
 ·rw[Bool.and_eq_true,Bool.and_eq_true,decide_eq_true_eq,Uw,ahx,Bool.and_eq_true,decide_eq_true_eq] at h
  obtain⟨h1,h2,h3,h4⟩:=h
  rw[h1] at hc
  generalize hA:mC (λq=>(taX (prZ f g).1).testBit q) [] (iq (prS (prZ f g).1))=A at h3 h4
  have hW:=U9 (Bool.and_eq_true .. |>.mp h3).1 omgz omgz
  have hn0:=hW.n0;have hn4:=hW.n
  obtain⟨b,hfa,hb⟩:=akf h2 hA hn4
  have hb0:b=false:=by rw[hb,beq_eq_false_iff_ne];omega
  subst hb0
  have f1:=acW f hf;have g1:=acW g hg
  have he:=LA (DL (gp (Ux f hf g hg))) (DL (gp (Ux f hf g hg)))
  rw[Cf] at he
  have l9:=ake h3
  rw[h4] at l9
  exact aam oP s1 s2 x1 x2 hc hfa hn0 omgz (acY f1.1) (acY g1.1) l9 (ah0 (gp f1.2) (gp g1.2)) he
theorem abY:∀f∈FL,(f.length==0)=false/\(decide (0<f.length)&& !decide (f.getD 0 default%65536=0))=true:=by decide
theorem abZ(h1:l1.length=n)(h2:n<2^47)(h3:l2.length=m)(h4:m<2^47):ACall Tryz.prog 4 [.isl z1 (cI .u8 l1) n,.isl z2 (cI .u8 l2) m] [] 0 (.val (.bool true)) []:=by
 obtain⟨f,hf,s1⟩:=KL (z:=z1) h1 h2
 obtain⟨g,hg,s2⟩:=KL (z:=z2) h3 h4
 rcases hf with hf|hf
 ·rcases hg with hg|hg
  ·rw[(abY f hf).1,(abY f hf).2] at s1;rw[(abY g hg).1,(abY g hg).2] at s2
   exact abX hf hg s1 s2
  ·subst hg;exact L8 oP s1 s2 (by simp)
 ·subst hf;exact L8 oP s1 s2 (by simp)
end
