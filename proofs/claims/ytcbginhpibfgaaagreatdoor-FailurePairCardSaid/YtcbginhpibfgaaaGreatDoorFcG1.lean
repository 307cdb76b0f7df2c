/- Fc1 Fc2 Fc3 Fc4 Fc5 Fc6. No condition. -/
import Derived.Test.YtcbginhpibfgaaaGreatDoorDiG14
import Derived.Test.YtcbginhpibfgaaaGreatDoorFbG1
import Derived.Test.YtcbginhpibfgaaaGreatDoorFa10
set_option linter.all false
set_option maxHeartbeats 4000000
set_option maxRecDepth 20000
namespace Go.Proofs.YtcbginhpibfgaaaGreatDoor
section
open Go Go.Sy Go.Lm Go.Rt Go.Dg
attribute [local irreducible] AO AL AC OpT ACall Ends DGo bK Thn Blk Nxt
variable {n N K k i m j r s:Nat} {z zs zt zp:Bool} {ss:List Nat} {ps ts:List RV} {l:List Int} {F:List Fo} {X:RV} {p site:Nat→Rat} {d dt:Nat→Nat} {c x:Rat} {e:Int} {tab:Nat→Bool}
structure Gd(ps:List RV)(p:Nat→Rat)(d:Nat→Nat)(n:Nat):Prop where
 len:ps.length=n
 cs:Cs p d n
 pq:Ps ps p n
 rin:∀i,i<n→RIn (ps.getD i default)
 e:∀i,i<n→pE (ps.getD i default)=0
theorem uM(h0:0≤c)(h1:c≤1)(hd:c.den≤1000000):Sm c∧Bd c.den 1 c∧0<c.den:=by
 have hp:0<c.den:=Nat.pos_of_ne_zero c.den_nz
 have a:0≤c.num:=Rat.num_nonneg.2 h0
 have b:¬(1:Rat)<c:=Rat.not_lt.2 h1
 rw[J8] at b
 have b2:c.num≤c.den:=by
  have e1:(1:Rat).num=1:=rfl
  have e2:(1:Rat).den=1:=rfl
  rw[e1,e2] at b
  omega
 have e3:(1000000:Nat)<10^140:=by decide
 exact⟨⟨by omega,by omega⟩,Bd.of (Nat.dvd_refl _) (by omega),hp⟩
theorem Gd.of(hl:ps.length=n)(hX:∀i,i<n→RIn (ps.getD i default))(h0:∀i,i<n→pE (ps.getD i default)=0):∃p d,Gd ps p d n:=by
 have key:∀i,∃q:Rat,i<n→∃z,ps.getD i default=rQ z q∧(z=true→q.num=0)∧0≤q∧q≤1∧q.den≤1000000:=fun i=>by
  by_cases hi:i<n
  ·obtain⟨z,q,h⟩:=pE_0 (h0 i hi)
   exact⟨q,fun _=>⟨z,h⟩⟩
  ·exact⟨0,fun h=>absurd h hi⟩
 obtain⟨p,hp⟩:=Classical.skolem.1 key
 refine⟨p,fun i=>(p i).den,hl,fun i hi=>?_,fun i hi=>?_,hX,h0⟩
 ·obtain⟨z,e,hz,a,b,cc⟩:=hp i hi
  have:=uM a b cc
  exact⟨this.2.1,this.2.2,cc⟩
 ·obtain⟨z,e,hz,a,b,cc⟩:=hp i hi
  exact⟨z,e,(uM a b cc).1,hz⟩
theorem Q8(h0:0≤c)(h1:c≤1)(hd:c.den≤1000000):RIn (rC c)∧pE (rC c)=0:=by
 have h:=ala (uM h0 h1 hd).1
 rw[eF]
 refine⟨h.in_,?_⟩
 rw[QL h.is]
 unfold chE
 rw[if_neg (by
  rintro(h|h)
  ·exact Rat.not_lt.2 h0 h
  ·exact Rat.not_lt.2 h1 h),if_neg (by omega)]
theorem Gd.rc(hl:ps.length=n)(hat:∀i,i<n→ps.getD i default=rC (p i))(hq:∀i,i<n→0≤p i∧p i≤1∧(p i).den≤1000000):Gd ps p (fun i=>(p i).den) n:=by
 refine⟨hl,fun i hi=>?_,fun i hi=>?_,fun i hi=>?_,fun i hi=>?_⟩
 all_goals obtain⟨a,b,cc⟩:=hq i hi
 ·have:=uM a b cc
  exact⟨this.2.1,this.2.2,cc⟩
 ·exact⟨_,(hat i hi).trans eF,cu (uM a b cc).1⟩
 ·rw[hat i hi];exact(Q8 a b cc).1
 ·rw[hat i hi];exact(Q8 a b cc).2
theorem Gd.ps0(g:Gd ps p d n):psE ps=0:=Yt fun i hi=>g.e i (by rw[←g.len];exact hi)
theorem Gd.probs1(g:Gd ps p d n)(hn:n≤100):ACall Tryz.prog 74 [.isl false [.isl zp (cR ps) n] 1] [] 0 (.val (.int .i64 0)) []:=by
 have:=yO (z:=zp) (xs:=ps) (by rw[g.len];exact hn) (by rw[g.len];exact g.rin)
 rw[g.ps0,g.len] at this;exact this
theorem jo(h:Cs p d n)(hn:n≤12):Sm (Pr p n tab):=by rw[←Yw];exact ae5 h hn (Nat.le_refl _)
theorem iN(hD:DOk n F r)(hN:F.length=N):ACall Tryz.prog 72 [dI z n (F.map fk) N r] [] 0 (.val (.int .i64 0)) []:=by
 have:=tF (z:=z) hD hN
 rw[←gV] at this;exact this
theorem MF(hD:DOk n F r)(hN:F.length=N)(g:Gd ps p d n):ACall Tryz.prog 43 [dI z n (F.map fk) N r,.isl zp (cR ps) n] [] 0 (.val (.int .i64 0)) []:=
 QW (iN hD hN) (g.probs1 (by have:=hD.n12;omega))
theorem nH(hD:DOk n F r)(hN:F.length=N)(hps:ps.length=n)(hC:Cs p d n)(hP:Ps ps p n):ACall Tryz.prog 45 [.pt 0 0,dI z n (F.map fk) N r,.isl zp (cR ps) n] [bD] 1 (.agg (aa.cells (rC (Pr p n fun t=> !aG F t r)))) [bD]:=by
 have h:=Mv (z:=z) (zp:=zp) hD hN hps hC hP
 rw[←gV] at h
 exact h
theorem uO(hD:DOk n F r)(hN:F.length=N)(g:Gd ps p d n):ACall Tryz.prog 15 [dI z n (F.map fk) N r,.isl zp (cR ps) n] [] 0 (.tup [.agg (aa.cells (rC (Pr p n fun t=> !aG F t r))),.val (.int .i64 0)]) []:=
 of_0 (MF hD hN g) (nH hD hN g.len g.cs g.pq)
theorem Pm:Bd 1 1 0:=Bd.zero.mono (Nat.one_dvd _) (by omega)
theorem Ps.set1(hl:ps.length=n)(hs:s<n)(hP:Ps ps p n):Ps (ps.set s (rQ false 1)) (upd p s 1) n:=YX (d:=fun _=>0) hl hs hP IM
theorem Ps.set0(hl:ps.length=n)(hs:s<n)(hP:Ps ps p n):Ps (ps.set s (rQ true 0)) (upd p s 0) n:=YX (d:=fun _=>0) hl hs hP ald
theorem Pn(hD:DOk n F r)(hN:F.length=N)(g:Gd ps p d n)(hs:s<n):ACall Tryz.prog 21 [dI z n (F.map fk) N r,.isl false (cR ps) n,.val (.int .i64 s)] [] 0 (.tup [.agg (aa.cells (rC ((Pr (upd p s 1) n fun t=> !aG F t r)-Pr (upd p s 0) n fun t=> !aG F t r))),.val (.int .i64 0)]) []:=by
 have h12:=hD.n12
 have a:=jo (tab:=fun t=> !aG F t r) (jO (sv:=s) g.cs Bd.one) h12
 have b:=jo (tab:=fun t=> !aG F t r) (jO (sv:=s) g.cs Pm) h12
 have n1:=gX (v:=1) (by decide)
 have n0:=gX (v:=0) (by decide)
 rw[Yl] at n1;rw[aiT] at n0
 have hsb:=QM (cu a) (cu b)
 rw[←eF,←eF] at hsb
 exact alo (by omega) (MF hD hN g)
  (YU g.len (by omega) hs n1 (nH hD hN (by rw[List.length_set];exact g.len) (jO g.cs Bd.one) (Ps.set1 g.len hs g.pq)))
  (YU g.len (by omega) hs n0 (nH hD hN (by rw[List.length_set];exact g.len) (jO g.cs Pm) (Ps.set0 g.len hs g.pq))) hsb
end
section
open Go Go.Sy Go.Lm Go.Rt Go.Dg
attribute [local irreducible] AO AL AC OpT ACall Ends DGo bK Thn Blk Nxt
variable {n N K k i m j r s:Nat} {z zs zt zp:Bool} {l:List Int} {X:RV} {c x:Rat} {e:Int}
theorem ajj{d:Nat} {a:Nat→Int}(h:Bd d 1 c)(ha:∀i,i<j→(a i).natAbs≤2^63):Bd (d^N) (j*(2^63*2^N)) (atS a c N j):=by
 induction j with
 |zero=>rw[alh,Nat.zero_mul];exact Bd.zero.mono (Nat.one_dvd _) (Nat.le_refl _)
 |succ j ih=>
  rw[IU]
  refine((ih fun i hi=>ha i (by omega)).add (YG h)).mono (Nat.dvd_refl _) ?_
  have:=Nat.mul_le_mul (ha j (by omega)) (Nat.le_refl (2^N))
  rw[Nat.succ_mul j];exact Nat.add_le_add_left this _
theorem alN{d:Nat}(hd:d≤1000000)(hN:i≤12)(h0:0<d):d^i≤1000000^12:=Nat.le_trans (Nat.pow_le_pow_left hd i) (Nat.pow_le_pow_right (by omega) hN)
theorem Zo{d:Nat}(hK:K≤13*(2^63*2^12))(hd:d≤1000000)(h0:0<d)(hN:i≤12)(h:Bd (d^i) K x):Sm x:=by
 have h1:=alN hd hN h0
 have h2:=Nat.mul_le_mul hK h1
 have e:13*(2^63*2^12)*1000000^12<10^140:=by decide
 have e2:1000000^12<10^140:=by decide
 exact h.sm (Nat.pow_pos h0) (by omega) (by omega)
theorem ajk{d:Nat} {a:Int}(h:Bd d 1 c)(hd:d≤1000000)(h0:0<d)(hi:i≤12)(ha:a.natAbs≤2^63):Sm (tmF (a:Rat) c (1-c) k i):=by
 refine Zo ?_ hd h0 hi (YG h)
 have h1:2^i≤2^12:=Nat.pow_le_pow_right (by omega) hi
 have:=Nat.mul_le_mul ha h1
 omega
theorem ajl{d:Nat} {a:Nat→Int}(h:Bd d 1 c)(hd:d≤1000000)(h0:0<d)(hN:N≤12)(hj:j≤13)(ha:∀i,i<j→(a i).natAbs≤2^63):Sm (atS a c N j):=by
 refine Zo ?_ hd h0 hN (ajj h ha)
 have h1:2^N≤2^12:=Nat.pow_le_pow_right (by omega) hN
 exact Nat.mul_le_mul hj (Nat.mul_le_mul (Nat.le_refl _) h1)
def L64(l:List Int):Prop:=∀i,i<l.length→I64 (l.getD i default)
theorem L64.abs(h:L64 l)(hi:i<l.length):(l.getD i default).natAbs≤2^63:=by
 have:=h i hi
 obtain⟨a,b⟩:=this
 omega
variable (hl:l.length=n)(h0:0<n)(hn:n≤13)(hL:L64 l)(hX:RIn X)(he:pE X=0)
include hl h0 hn hL hX he
theorem Zp:∃c:Rat,(∀z,ACall Tryz.prog 30 [.isl z (cI .i64 l) n,.agg (aa.cells X)] [] 0 (.tup [.agg (aa.cells (rC (atS (fun i=>l.getD i default) c (n-1) n))),.val (.int .i64 0)]) [])∧(∀z,ACall Tryz.prog 32 [.isl z (cI .i64 l) n,.agg (aa.cells X)] [] 0 (.tup [.agg (aa.cells (rC (atS (fun i=>l.getD i default) c (n-1) n))),.val (.int .i64 0)]) [])∧Sm (atS (fun i=>l.getD i default) c (n-1) n)∧∀q,0≤q→q≤1→q.den≤1000000→X=rC q→c=q:=by
 obtain⟨zx,c,e,hz,a,b,cc⟩:=pE_0 he
 have hp:=wX hX
 have hp2:=rH hX
 rw[he] at hp hp2
 obtain⟨hs,hb,hd⟩:=uM a b cc
 have hq:=uj (z:=zx) (p:=c) ⟨hs,hz⟩
 have hq2:=DK (z':=zx) (q:=c) IM ⟨hs,hz⟩
 have ha:∀i,i<n→(l.getD i default).natAbs≤2^63:=fun i hi=>hL.abs (by omega)
 have hns:Sm (1-c):=by
  have h2:=(hb.not)
  have e5:(1+1)*1000000<10^140:=by decide
  exact h2.sm hd (by have:=Nat.mul_le_mul (Nat.le_refl (1+1)) cc;omega) (by omega)
 have ht:∀j i,j<n→i≤n-1→Sm (tmF ((l.getD j default:Int):Rat) c (1-c) j i):=fun j i hj hi=>ajk hb cc hd (by omega) (ha j hj)
 have hS:∀j,j≤n→Sm (atS (fun i=>l.getD i default) c (n-1) j):=fun j hj=>ajl hb cc hd (by omega) (by omega) fun i hi=>ha i (by omega)
 refine⟨c,fun z=>?_,fun z=>?_,hS n (Nat.le_refl n),fun q q0 q1 q2 hXq=>?_⟩
 ·rw[e] at hp⊢
  refine at_w (S:=fun j=>rC (atS (fun i=>l.getD i default) c (n-1) j)) (T:=fun j i=>rC (tmF ((l.getD j default:Int):Rat) c (1-c) j i)) (Q:=rC (1-c)) hl h0 hn hp hq ?_ (fun j hj=>?_) (fun j i hj hi hij=>?_) (fun j i hj hi hij=>?_) (fun j i hj hi=>?_)
  ·exact gX (v:=0) (by decide)
  ·exact gX (hL j (by omega))
  ·have:=ui (cu (ht j i hj (by omega))) (⟨hs,hz⟩:SmZ zx c)
   rw[←eF] at this
   show ACall _ _ _ _ _ (.agg (aa.cells (rC (tmF _ c (1-c) j (i+1))))) _
   rw[YB hij];exact this
  ·have:=ui (cu (ht j i hj (by omega))) (cu hns)
   rw[←eF,←eF] at this
   show ACall _ _ _ _ _ (.agg (aa.cells (rC (tmF _ c (1-c) j (i+1))))) _
   rw[YC hij];exact this
  ·subst hi
   have:=Kc (cu (hS j (by omega))) (cu (ht j (n-1) hj (Nat.le_refl _)))
   rw[←eF,←eF] at this;exact this
 ·rw[e] at hp2⊢
  refine alB (S:=fun j=>rC (atS (fun i=>l.getD i default) c (n-1) j)) (Tm:=fun j i=>rC (tmF ((l.getD j default:Int):Rat) c (1-c) j i)) (Q:=rC (1-c)) hl h0 hn hp2 IX hq2 ?_ (fun j hj=>?_) (fun j i hj hi hij=>?_) (fun j i hj hi hij=>?_) (fun j i hj hi=>?_)
  ·exact Mw
  ·exact oo (hL j (by omega))
  ·have:=w9 (cu (ht j i hj (by omega))) (⟨hs,hz⟩:SmZ zx c)
   rw[←eF] at this
   show ACall _ _ _ _ _ (.agg (aa.cells (rC (tmF _ c (1-c) j (i+1))))) _
   rw[YB hij];exact this
  ·have:=w9 (cu (ht j i hj (by omega))) (cu hns)
   rw[←eF,←eF] at this
   show ACall _ _ _ _ _ (.agg (aa.cells (rC (tmF _ c (1-c) j (i+1))))) _
   rw[YC hij];exact this
  ·subst hi
   have:=Kj (cu (hS j (by omega))) (cu (ht j (n-1) hj (Nat.le_refl _)))
   rw[←eF,←eF] at this;exact this
 ·rw[hXq,eF] at e
  have:=aiR (z:=q.num==0) (z':=zx) (p:=q) (q:=c)
  rw[e,yL] at this
  exact(of_decide_eq_true this.symm).symm
end
section
open Go Go.Sy Go.Lm Go.Rt Go.Dg
attribute [local irreducible] AO AL AC OpT ACall Ends DGo bK Thn Blk Nxt
variable {n N K k i m j r s up N1 N2 r1 r2:Nat} {z zs zt zp z1 z2:Bool} {ss:List Nat} {ps ts:List RV} {F F1 F2:List Fo} {X:RV} {p site:Nat→Rat} {d dt:Nat→Nat} {c x:Rat} {e:Int} {tab:Nat→Bool}
def siV(ss:List Nat)(site:Nat→Rat)(m n:Nat)(F:List Fo)(r:Nat)(p:Nat→Rat):Rat:=vv (bSt ss) site (fun p=>Pr p n fun t=> !aG F t r) m 0 p
theorem Gd.probs2(g:Gd ps p d n)(gs:Gd ts site dt m)(hn:n≤100)(hm:m≤100):ACall Tryz.prog 74 [.isl false [.isl zt (cR ts) m,.isl zp (cR ps) n] 2] [] 0 (.val (.int .i64 0)) []:=by
 have:=TI (z:=zt) (z':=zp) (xs:=ts) (ys:=ps) (by rw[gs.len];exact hm) (by rw[g.len];exact hn) (by rw[gs.len];exact gs.rin) (by rw[g.len];exact g.rin)
 rw[gs.ps0,g.ps0,if_pos rfl,g.len,gs.len] at this;exact this
theorem xe(hD:DOk n F r)(hN:F.length=N)(g:Gd ps p d n)(gs:Gd ts site dt m)(hm:m≤4)(hss:ss.length=m)(hz:zp=true→n=0)(ha:ApE ss n e):ACall Tryz.prog 33 [dI z n (F.map fk) N r,.isl zs (cX ss) m,.isl zt (cR ts) m,.isl zp (cR ps) n] [] 0 (.tup [.agg (aa.cells (if e=0 then rC (siV ss site m n F r p) else rZ)),.val (.int .i64 e)]) []:=by
 have h12:=hD.n12
 have hap:=Y8 (z:=zs) hss (by omega) h12 ha
 by_cases he:e=0
 ·subst he
  rw[if_pos rfl]
  have hv:=Zf (z:=z) (zs:=zs) (zt:=zt) (d:=d) hD hN hss gs.len hm gs.cs gs.pq m 0 zp ps p (by omega) g.len hz g.cs g.pq
  exact aeg (iN hD hN) (by omega) hap (g.probs2 gs (by omega) (by omega)) hv
 ·rw[if_neg he]
  exact Zh (iN hD hN) (by omega) hap he
end
section
open Go Go.Sy Go.Lm Go.Rt Go.Dg
attribute [local irreducible] AO AL AC OpT ACall Ends DGo bK Thn Blk Nxt
variable {N m R:Nat} {F:List Fo} {L:List Fk} {n r e:Int} {z:Bool}
theorem VOk.few(h:VOk m L r):L.length≤765:=by
 obtain⟨F,R,rfl,rfl,hD⟩:=h
 rw[List.length_map];have:=hD.few;omega
end
section
open Go Go.Sy Go.Lm Go.Rt Go.Dg
attribute [local irreducible] AO AL AC OpT ACall Ends DGo bK Thn Blk Nxt
variable {n m k i j:Nat} {z z':Bool} {l xs:List Int} {ss:List Nat} {X:RV} {a b:Int}
def aem(z z':Bool)(l:List Int)(n:Nat)(i:{i:Nat // i≤n}):St:=
 ⟨26,0,[(0,.isl z (cI .i64 l) n),(1,.isl z' (cI .i64 l) n),(12,.val (.int .i64 n)),(13,.val (.int .i64 i.val))],[]⟩
theorem Pv(hn:l.length=n)(hb:n≤100000):ACall Tryz.prog 28 [.isl z (cI .i64 l) n,.isl z' (cI .i64 l) n] [] 0 (.val (.bool true)) []:=by
 refine ak Tryz.func28 Tryz.ntmps28 rfl ?_
 repeat' (first|(refine ai ?_;refine au [] ([].length) (aem z z' l n) (fun i=>n-i.val) (⟨0,by omega⟩) rfl (by unfold aem;exact mO) ?_;(rintro⟨i,hi⟩;(simp-dsimp only[aem];refine zqS ?_)))|(refine ax ?_;refine Nxt.mk [] (⟨i+1,by omega⟩) rfl (by unfold aem;exact mO) zqO)|refine zqN ?_|refine aK ?_|refine aL ?_|(refine aM ?_ ?_<;>intro hc<;>try exact zqM)|refine zqR 6 [⟨0,[],[17,20,21,22,23],[],[],0⟩,⟨1,[],[16,20,21,22,23],[],[],0⟩,⟨2,[0,1],[20,21,22,23],[],[],0⟩,⟨3,[0,1,2],[20,21,22,23],[],[],0⟩,⟨4,[],[16,17,18,19,21],[],[],0⟩,⟨5,[],[16,17,18,19,20],[],[],0⟩,⟨6,[4,5],[16,17,18,19],[],[],0⟩,⟨7,[4,5,6],[16,17,18,19],[],[],0⟩,⟨8,[0,1,2,3,4,5,6,7],[],[],[],0⟩] ?_|refine zqD ?_|fail)
 all_goals first
  |((refine Ends.mk2 zqI [] ?_;simp-dsimp(disch:=try exact vD) only[push_cast,simprocAttr,Tryz.f28];try exact zqF);done)
  |skip
theorem Pw(h:ACall Tryz.prog 57 [.val (.int .i64 a),.val (.int .i64 b)] [] 0 (.tup [.agg (aa.cells X),.val (.int .i64 0)]) []):ACall Tryz.prog 23 [.val (.int .i64 a),.val (.int .i64 b)] [] 0 (.agg (aa.cells X)) []:=by
 have h:=PLift.up h
 refine ak Tryz.func23 Tryz.ntmps23 rfl ?_
 repeat' (first|refine zqN ?_|refine az h.down ?_|refine aK ?_|refine aL ?_|(refine aM ?_ ?_<;>intro hc<;>try exact zqM))
 all_goals first
  |((refine Ends.mk2 zqI [] ?_;simp-dsimp(disch:=try exact vD) only[push_cast,simprocAttr,Tryz.f23];try exact zqF);done)
  |skip
theorem l5(ha:I64 a)(hb:I64 b)(h0:¬b=0):ACall Tryz.prog 23 [.val (.int .i64 a),.val (.int .i64 b)] [] 0 (.agg (aa.cells (rC (Rat.divInt a b)))) []:=Pw (OM ha hb h0)
theorem aen:kM 3 [false,false,false,true,false,true,true,true]=(twoF,5):=by decide+kernel
theorem ajs:ACall Tryz.prog 42 [.val (.int .i64 3),.isl false [.val (.bool false),.val (.bool false),.val (.bool false),.val (.bool true),.val (.bool false),.val (.bool true),.val (.bool true),.val (.bool true)] 8] [] 0 (.agg [i6v 3,.isl false (cR twoF) 4,i6v 5]) []:=by
 have h:=lV (n:=3) (tb:=[false,false,false,true,false,true,true,true]) (M:=8) (by omega) rfl rfl
 rw[aen] at h;exact h
theorem ajt:ACall Tryz.prog 42 [.val (.int .i64 3),.sl 0 0 8 1] [.cells [.val (.bool false),.val (.bool false),.val (.bool false),.val (.bool true),.val (.bool false),.val (.bool true),.val (.bool true),.val (.bool true)] 4] 0 (.agg [i6v 3,.isl false (cR twoF) 4,i6v 5]) []:=
 ACall.own (args':=[.val (.int .i64 3),.isl false [.val (.bool false),.val (.bool false),.val (.bool false),.val (.bool true),.val (.bool false),.val (.bool true),.val (.bool true),.val (.bool true)] 8]) (by simp[bnd]) (by simp[bT]) (by simp[bnd]) ajs
theorem alQ:ACall Tryz.prog 40 [] [] 0 (.agg [i6v 3,.isl false (cR twoF) 4,i6v 5]) []:=by
 have h:=PLift.up ajt
 obtain⟨C,hC⟩:∃C,cR twoF=C:=⟨_,rfl⟩
 have hb:∀x∈C,bnd 0 x:=by rw[←hC];exact fun x hx=>by have:=NH (n:=0) (l:=twoF);simp at this;exact this x hx
 rw[hC] at h⊢
 clear hC
 refine ak Tryz.func40 Tryz.ntmps40 rfl ?_
 repeat' (first|refine zqN ?_|((first|refine ay rfl (fun K hK=>?_)|refine aj (fun K hK=>?_));(first|refine ah (f:=42) [1] 0 false ?_);refine jP ?_;(first|refine⟨_,_,h.down,?_⟩);refine gD ?_;apply hK;clear hK K)|refine aK ?_|refine aL ?_|(refine aM ?_ ?_<;>intro hc<;>try exact zqM))
 all_goals first
  |((refine Ends.mk2 zqI [] ?_;simp-dsimp(disch:=try exact vD) only[push_cast,simprocAttr,Tryz.f40];try exact zqF);done)
  |skip
abbrev hlf:Rat:=Rat.divInt 1 2
theorem gd3{c:Rat}(h:0≤c∧c≤1∧c.den≤1000000):Gd [rC c,rC c,rC c] (fun _=>c) (fun _=>c.den) 3:=
 Gd.rc rfl (fun i hi=>by
  have:i=0∨i=1∨i=2:=by omega
  rcases this with e|e|e<;>subst e<;>rfl) (fun i hi=>h)
theorem gd1{c:Rat}(h:0≤c∧c≤1∧c.den≤1000000):Gd [rC c] (fun _=>c) (fun _=>c.den) 1:=
 Gd.rc rfl (fun i hi=>by
  have e:i=0:=by omega
  subst e;rfl) (fun i hi=>h)
theorem k_of:(Pr (fun _=>hlf) 3 fun t=> !aG twoF t 5)=hlf:=by decide+kernel
theorem alR:((Pr (upd (fun _=>hlf) 1 1) 3 fun t=> !aG twoF t 5)-Pr (upd (fun _=>hlf) 1 0) 3 fun t=> !aG twoF t 5)=hlf:=by decide+kernel
theorem k_at:atS (fun i=>([0,0,3,1]:List Int).getD i default) (Rat.divInt 1 10) (4-1) 4=Rat.divInt 7 250:=by decide+kernel
theorem k_si:siV [3] (fun _=>hlf) 1 3 twoF 5 (fun _=>Rat.divInt 0 1)=hlf:=by decide+kernel
theorem k_po:poL (bnL 3 3) [0,0,3,1] 3 4=[0,0,3,1]:=by decide+kernel
theorem k_h:0≤hlf∧hlf≤1∧hlf.den≤1000000:=by decide+kernel
theorem k_z:0≤Rat.divInt 0 1∧Rat.divInt 0 1≤1∧(Rat.divInt 0 1).den≤1000000:=by decide+kernel
theorem k_t:0≤Rat.divInt 1 10∧Rat.divInt 1 10≤1∧(Rat.divInt 1 10).den≤1000000:=by decide+kernel
theorem alS:ACall Tryz.prog 15 [.agg [i6v 3,.isl false (cR twoF) 4,i6v 5],.isl false (cR [rC hlf,rC hlf,rC hlf]) 3] [] 0 (.tup [.agg (aa.cells (rC hlf)),i6v 0]) []:=by
 have h:=uO (z:=false) (zp:=false) (N:=4) Dw rfl (gd3 k_h)
 unfold dI at h
 rw[gV,k_of] at h;exact h
theorem aju:ACall Tryz.prog 21 [.agg [i6v 3,.isl false (cR twoF) 4,i6v 5],.isl false (cR [rC hlf,rC hlf,rC hlf]) 3,i6v 1] [] 0 (.tup [.agg (aa.cells (rC hlf)),i6v 0]) []:=by
 have h:=Pn (z:=false) (N:=4) (s:=1) Dw rfl (gd3 k_h) (by omega)
 unfold dI at h
 rw[gV,alR] at h;exact h
theorem aeo:ACall Tryz.prog 26 [.agg [i6v 3,.isl false (cR twoF) 4,i6v 5]] [] 0 (.tup [.isl false (cI .i64 [0,0,3,1]) 4,i6v 0]) []:=by
 have hc:=LD (z:=false) (N:=4) Dw rfl Oe
 rw[←gV] at hc
 have hb:=Y3 (n:=3) (by omega)
 have h:=Y6 (z:=false) (n:=3) (L:=twoF.map fk) (N:=4) (rt:=5) (B:=bnL 3 3) (A:=[0,0,3,1]) (by omega) rfl rfl (by decide) (by decide) hc hb
 unfold dI at h
 rw[k_po,gV] at h;exact h
theorem alT:ACall Tryz.prog 30 [.isl false (cI .i64 [0,0,3,1]) 4,.agg (aa.cells (rC (Rat.divInt 1 10)))] [] 0 (.tup [.agg (aa.cells (rC (Rat.divInt 7 250))),i6v 0]) []:=by
 obtain⟨a,b⟩:=Q8 k_t.1 k_t.2.1 k_t.2.2
 obtain⟨c,h1,_,_,h3⟩:=Zp (l:=[0,0,3,1]) (n:=4) rfl (by omega) (by omega) (fun i hi=>by
  have hi:i<4:=hi
  have:i=0∨i=1∨i=2∨i=3:=by omega
  rcases this with e|e|e|e<;>subst e<;>decide) a b
 have e:=h3 _ k_t.1 k_t.2.1 k_t.2.2 rfl
 subst e
 have h:=h1 false
 rw[k_at] at h;exact h
theorem alU:ACall Tryz.prog 33 [.agg [i6v 3,.isl false (cR twoF) 4,i6v 5],.isl false (cX [3]) 1,.isl false (cR [rC hlf]) 1,.isl false (cR [rC (Rat.divInt 0 1),rC (Rat.divInt 0 1),rC (Rat.divInt 0 1)]) 3] [] 0 (.tup [.agg (aa.cells (rC hlf)),i6v 0]) []:=by
 have h:=xe (z:=false) (zs:=false) (zt:=false) (zp:=false) (N:=4) (ss:=[3]) Dw rfl (gd3 k_z) (gd1 k_h) (by omega) rfl (fun h=>by cases h) (.ok fun j hj=>by
  have hj:j<1:=hj
  have e:j=0:=by omega
  subst e;exact⟨by unfold ap1;decide,by unfold ap2;decide⟩)
 unfold dI at h
 rw[if_pos rfl,gV,k_si] at h;exact h
end
section
open Go Go.Sy Go.Lm Go.Rt Go.Dg
attribute [local irreducible] AO AL AC OpT ACall Ends DGo bK Thn Blk Nxt
theorem c3R(W:RV):cR [W,W,W]=[.val (.bool W.num.neg),.isl W.num.z (cI .u32 W.num.l) W.num.l.length,.val (.bool W.den.neg),.isl W.den.z (cI .u32 W.den.l) W.den.l.length,.val (.bool W.num.neg),.isl W.num.z (cI .u32 W.num.l) W.num.l.length,.val (.bool W.den.neg),.isl W.den.z (cI .u32 W.den.l) W.den.l.length,.val (.bool W.num.neg),.isl W.num.z (cI .u32 W.num.l) W.num.l.length,.val (.bool W.den.neg),.isl W.den.z (cI .u32 W.den.l) W.den.l.length]:=rfl
theorem c1R(W:RV):cR [W]=[.val (.bool W.num.neg),.isl W.num.z (cI .u32 W.num.l) W.num.l.length,.val (.bool W.den.neg),.isl W.den.z (cI .u32 W.den.l) W.den.l.length]:=rfl
theorem cX3:cX [3]=[u6v 3]:=rfl
theorem eq_self(c:Rat)(h:Sm c):ACall Tryz.prog 17 [.agg (aa.cells (rC c)),.agg (aa.cells (rC c))] [] 0 (.val (.bool true)) []:=by
 have:=QI (Yh h) (Yh h)
 rw[yL] at this;exact this
theorem ajv{W Z:RV} {C:List AV}(hb:∀x∈C,bnd 0 x)(h:ACall Tryz.prog 33 [.agg [i6v 3,.isl false C 4,i6v 5],.isl false [u6v 3] 1,.isl false (cR [W]) 1,.isl false (cR [Z,Z,Z]) 3] [] 0 (.tup [.agg (aa.cells W),i6v 0]) []):
 ACall Tryz.prog 33 [.agg [i6v 3,.isl false C 4,i6v 5],.sl 0 0 1 1,.sl 1 0 1 4,.sl 2 0 3 4] [.cells [u6v 3] 67,.cells (cR [W]) 37,.cells (cR [Z,Z,Z]) 37] 0 (.tup [.agg (aa.cells W),i6v 0]) []:=
 ACall.own3 (args':=[.agg [i6v 3,.isl false C 4,i6v 5],.isl false [u6v 3] 1,.isl false (cR [W]) 1,.isl false (cR [Z,Z,Z]) 3]) (by simp[bnd]) (by simp[bnd,c1R]) (by simp[bnd,c3R]) (by simp[bT];exact⟨rfl,rfl⟩) (by simp[bnd,c1R,c3R];try exact hb) h
theorem bQ:ACall Tryz.prog 12 [] [] 0 (.val (.bool true)) []:=by
 have h1:=PLift.up alS;have h2:=PLift.up aju;have h3:=PLift.up aeo;have h4:=PLift.up alT;have h5:=PLift.up alU;have h6:=PLift.up alQ
 have e1:=PLift.up (eq_self hlf (by unfold Sm;decide+kernel));have e2:=PLift.up (eq_self (Rat.divInt 7 250) (by unfold Sm;decide+kernel))
 have r1:=PLift.up (l5 (a:=1) (b:=2) (by decide) (by decide) (by decide));have r2:=PLift.up (l5 (a:=1) (b:=10) (by decide) (by decide) (by decide));have r3:=PLift.up (l5 (a:=0) (b:=1) (by decide) (by decide) (by decide));have r4:=PLift.up (l5 (a:=7) (b:=250) (by decide) (by decide) (by decide))
 have e3:=PLift.up (Pv (l:=[0,0,3,1]) (n:=4) (z:=false) (z':=false) rfl (by decide))
 rw[ah7] at h3 h4 e3
 rw[cX3] at h5
 unfold hlf at*
 obtain⟨C,hC⟩:∃C,cR twoF=C:=⟨_,rfl⟩
 rw[hC] at h1 h2 h3 h5 h6
 have hb:∀x∈C,bnd 0 x:=by rw[←hC];exact fun x hx=>by have:=NH (n:=0) (l:=twoF);simp at this;exact this x hx
 clear hC
 generalize rC (Rat.divInt 1 2)=W at*
 generalize rC (Rat.divInt 1 10)=V at*
 generalize rC (Rat.divInt 0 1)=Z at*
 generalize rC (Rat.divInt 7 250)=Y at*
 have h5:=PLift.up (ajv hb h5.down)
 rw[c3R] at h1 h2 h5
 rw[c1R] at h5
 refine ak Tryz.func12 Tryz.ntmps12 rfl ?_
 repeat' (first|((first|refine bI (r:=3) 1 ?_|refine bH (r:=3) 1 ?_);refine gD ?_;intro K hK;refine hK _ _ ?_;clear hK K)|refine zqN ?_|((first|refine ay rfl (fun K hK=>?_)|refine aj (fun K hK=>?_)|refine aA (fun K hK=>?_));(first|refine ah (f:=23) (dst:=some 14) [] 0 false ?_|refine ah (f:=23) (dst:=some 38) [] 0 false ?_|refine ah (f:=23) (dst:=some 47) [] 0 false ?_|refine ah (f:=23) (dst:=some 48) [] 0 false ?_|refine ah (f:=23) (dst:=some 49) [] 0 false ?_|refine ah (f:=23) (dst:=some 90) [] 0 false ?_|refine ah (f:=40) [] 0 false ?_|refine ah (f:=15) [] 0 false ?_|refine ah (f:=21) [] 0 false ?_|refine ah (f:=26) [] 0 false ?_|refine ah (f:=30) [] 0 false ?_|refine ah (f:=33) [5,6,7] 0 false ?_|refine ah (f:=17) (dst:=some 76) [] 0 false ?_|refine ah (f:=17) (dst:=some 81) [] 0 false ?_|refine ah (f:=17) (dst:=some 91) [] 0 false ?_|refine ah (f:=17) (dst:=some 96) [] 0 false ?_|refine ah (f:=28) [] 0 true ?_);refine jP ?_;(first|refine⟨_,_,r1.down,?_⟩|refine⟨_,_,r2.down,?_⟩|refine⟨_,_,r3.down,?_⟩|refine⟨_,_,r3.down,?_⟩|refine⟨_,_,r3.down,?_⟩|refine⟨_,_,r4.down,?_⟩|refine⟨_,_,h6.down,?_⟩|refine⟨_,_,h1.down,?_⟩|refine⟨_,_,h2.down,?_⟩|refine⟨_,_,h3.down,?_⟩|refine⟨_,_,h4.down,?_⟩|refine⟨_,_,h5.down,?_⟩|refine⟨_,_,e1.down,?_⟩|refine⟨_,_,e1.down,?_⟩|refine⟨_,_,e2.down,?_⟩|refine⟨_,_,e1.down,?_⟩|refine⟨_,_,e3.down,?_⟩);refine gD ?_;apply hK;clear hK K)|refine aK ?_|refine aL ?_|(refine aM ?_ ?_<;>intro hc<;>try exact zqM)|refine zqR 7 [⟨0,[],[11,44,45,46],[],[],0⟩,⟨1,[],[11,43,45,46,47,48,49,50],[],[],1⟩,⟨2,[],[11,43,44,47,48,49,50],[],[],0⟩,⟨3,[2],[11,43,44,47,48,49,50],[],[],1⟩,⟨4,[0],[11,44,45,46],[],[],0⟩,⟨5,[0,4],[11,44,45,46],[],[],0⟩,⟨6,[0,4,5],[11,44,45,46],[],[],0⟩,⟨7,[0,4,5,6],[11,44,45,46],[],[],1⟩,⟨8,[0,1,2,3,4,5,6,7],[11],[],[8,9,10],0⟩,⟨9,[0,1,2,3,4,5,6,7,8],[11],[],[],0⟩,⟨10,[0,1,2,3,4,5,6,7,8,9],[11,53],[],[],0⟩,⟨11,[0,1,2,3,4,5,6,7,8,9],[11,52],[2],[],0⟩,⟨12,[],[42,43,44,45,46,47,48,49,50,51,52,53],[8,9,10],[],1⟩,⟨13,[0,1,2,3,4,5,6,7,8,9,10,12],[53],[],[2],0⟩,⟨14,[0,1,2,3,4,5,6,7,8,9,10,11,12,13],[],[],[],0⟩] ?_|refine zqR 9 [⟨0,[],[],[],[],0⟩,⟨1,[0],[],[],[],0⟩,⟨2,[0,1],[75],[],[],0⟩,⟨3,[0,1],[74],[],[],0⟩,⟨4,[0,1,2,3],[],[],[],0⟩,⟨5,[0,1,2,3,4],[],[],[],0⟩,⟨6,[0,1,2,3,4,5],[],[],[],0⟩,⟨7,[0,1,2,3,4,5,6],[80],[],[],0⟩,⟨8,[0,1,2,3,4,5,6],[79],[],[],0⟩,⟨9,[0,1,2,3,4,5,6,7,8],[],[],[],0⟩,⟨10,[0,1,2,3,4,5,6,7,8,9],[],[],[],0⟩,⟨11,[0,1,2,3,4,5,6,7,8,9,10],[],[],[],0⟩,⟨12,[0,1,2,3,4,5,6,7,8,9,10,11],[85],[],[],0⟩,⟨13,[0,1,2,3,4,5,6,7,8,9,10,11],[84],[],[],1⟩,⟨14,[0,1,2,3,4,5,6,7,8,9,10,11,12,13],[],[],[],0⟩,⟨15,[0,1,2,3,4,5,6,7,8,9,10,11,12,13,14],[],[],[],0⟩,⟨16,[0,1,2,3,4,5,6,7,8,9,10,11,12,13,14,15],[],[],[],0⟩,⟨17,[0,1,2,3,4,5,6,7,8,9,10,11,12,13,14,15,16],[90],[],[],0⟩,⟨18,[0,1,2,3,4,5,6,7,8,9,10,11,12,13,14,15,16],[89],[],[],0⟩,⟨19,[0,1,2,3,4,5,6,7,8,9,10,11,12,13,14,15,16,17,18],[],[],[],0⟩,⟨20,[0,1,2,3,4,5,6,7,8,9,10,11,12,13,14,15,16,17,18,19],[],[],[],0⟩,⟨21,[0,1,2,3,4,5,6,7,8,9,10,11,12,13,14,15,16,17,18,19,20],[],[],[],0⟩,⟨22,[0,1,2,3,4,5,6,7,8,9,10,11,12,13,14,15,16,17,18,19,20,21],[95],[],[],0⟩,⟨23,[0,1,2,3,4,5,6,7,8,9,10,11,12,13,14,15,16,17,18,19,20,21],[94],[],[],0⟩,⟨24,[0,1,2,3,4,5,6,7,8,9,10,11,12,13,14,15,16,17,18,19,20,21,22,23],[],[],[],0⟩,⟨25,[0,1,2,3,4,5,6,7,8,9,10,11,12,13,14,15,16,17,18,19,20,21,22,23,24],[],[],[],0⟩,⟨26,[0,1,2,3,4,5,6,7,8,9,10,11,12,13,14,15,16,17,18,19,20,21,22,23,24,25],[],[],[],0⟩] ?_|refine zqD ?_|fail)
 all_goals first
  |((refine Ends.mk2 zqI [] ?_;simp-dsimp(disch:=try exact vD) only[push_cast,simprocAttr,Tryz.f12];try exact zqF);done)
  |skip
end
