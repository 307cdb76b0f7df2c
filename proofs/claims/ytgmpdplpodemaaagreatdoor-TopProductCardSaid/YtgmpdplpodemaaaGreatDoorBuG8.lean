/- Bu8 Fe2 Ev0 Dw1 Tm4 Bu2 Tm7 Tm8 Tm9 Tm11 Bu22 Tp2. No condition. -/
import Derived.Test.YtgmpdplpodemaaaGreatDoorArgsG
set_option linter.all false
set_option maxHeartbeats 1000000
set_option maxRecDepth 20000
namespace Go.Proofs.YtgmpdplpodemaaaGreatDoor
section
open Go Go.Sy Go.Bp
attribute [local irreducible] AO AL AC OpT ACall Ends DGo aK Thn Blk Nxt
variable {l k w:List Int} {z zk wz:Bool} {n K i j m b c:Nat} {a x:Int} {t:Nd}
def igI(z:Bool)(F:Nat)(c:Int)(p:Int->Bool)(l:List Int)(n:Nat)(j:{j:Nat // j<=n/\∀i,i<j->p (l.getD i default)=false}):St:=
 ⟨19,0,[(0,.isl z (cI .i64 l) n),(1,.fn F [.ipt [.val (.int .i64 c)] 0]),(7,.val (.int .i64 n)),(8,.val (.int .i64 j.val))],[]⟩
theorem YH{F:FuncId} [eU Tryz.prog F]{c:Int}(p:Int->Bool)(hl:l.length=n)(hn:n<2^47)(hf:∀t:Int,ACall Tryz.prog F [.val (.int .i64 t),.ipt [.val (.int .i64 c)] 0] [] 0 (.val (.bool (p t))) []):
 ACall Tryz.prog 164 [.isl z (cI .i64 l) n,.fn F [.ipt [.val (.int .i64 c)] 0]] [] 0 (.val (.int .i64 (ix p l))) []:=by
 refine az Tryz.func164 Tryz.ntmps164 rfl ?_
 repeat' (first|(refine ah ?_;refine ak [] ([].length) (igI z F c p l n) (λj=>n-j.val) (⟨0,omgz,λi hi=>absurd hi omgz⟩) rfl (by unfold igI;exact jZ) ?_;(rintro⟨j,hj,hnb⟩;(simp-dsimp only[igI];refine zqS ?_)))|(refine aj ?_;refine Nxt.mk [] (⟨j+1,omgz,kW hnb (by assumption)⟩) rfl (by unfold igI;exact jZ) zqO)|refine zqN ?_|((first|refine ay rfl (λK hK=>?_)|refine au (λK hK=>?_));(first|refine gq (f:=F) [] 0 false ?_);refine mg ?_;(first|refine⟨_,_,hf (l.getD j default),?_⟩);refine jo ?_;apply hK;clear hK K)|refine aY ?_|refine aZ ?_|(refine bf ?_ ?_<;>intro hc<;>try exact zqM))
 all_goals first
  |(have e:ix p l=j:=oD omgz hnb (by assumption);exact fu [] @e)
  |(have ej:j=n:=omgz;subst ej;subst hl;have e:ix p l= -1:=lG hnb;exact fu [] @e)
theorem RF{F:FuncId} [eU Tryz.prog F]{c:Int}(p:Int->Bool)(hl:l.length=n)(hn:n<2^47)(hf:∀t:Int,ACall Tryz.prog F [.val (.int .i64 t),.ipt [.val (.int .i64 c)] 0] [] 0 (.val (.bool (p t))) []):
 ACall Tryz.prog 124 [.isl z (cI .i64 l) n,.fn F [.ipt [.val (.int .i64 c)] 0]] [] 0 (.val (.bool (l.any p))) []:=by
 refine az Tryz.func124 Tryz.ntmps124 rfl ?_
 have zx1:= @jh;have zx2:=aA;have zx3:=aA;repeat' (first|refine zqN ?_|refine eG (YH p hl hn hf) ?_|refine dm ?_|refine dn ?_|(refine dw ?_ ?_<;>intro hc<;>try exact zqM))
 all_goals exact fu [] @jh
theorem ajh:ACall Tryz.prog 122 [.val (.int .i64 a)] [] 0 (.val (.bool (pQ a))) []:=by
 unfold pQ
 refine az Tryz.func122 Tryz.ntmps122 rfl ?_
 repeat' (first|refine zqN ?_|refine aY ?_|refine aZ ?_|(refine bf ?_ ?_<;>intro hc<;>try exact zqM))
 all_goals exact aB []
theorem aji:ACall Tryz.prog 123 [.val (.int .i64 a),.ipt [.val (.int .i64 i)] 0] [] 0 (.val (.bool (unk i a))) []:=by
 unfold unk
 refine az Tryz.func123 Tryz.ntmps123 rfl ?_
 repeat' (first|refine zqN ?_|refine aY ?_|refine aZ ?_|(refine bf ?_ ?_<;>intro hc<;>try exact zqM))
 all_goals exact aB []
theorem ajj(hw:t.w.length<2^47)(hk:t.k.length<2^47):ACall Tryz.prog 86 [.agg (aa.cells t),.val (.int .i64 i)] [] 0 (.val (.int .i64 (fJ t i))) []:=by
 refine az Tryz.func86 Tryz.ntmps86 rfl ?_
 repeat' (first|((first|refine bT (r:=10) 1 ?_|refine bS (r:=10) 1 ?_);refine jo ?_;intro K hK;refine hK _ _ ?_;clear hK K)|refine zqN ?_|refine aM (Rn (l:=t.w) pQ rfl hw (λt=>ajh)) ?_|refine aM (RF (l:=t.k) (unk i) rfl hk (λt=>aji)) ?_|refine aY ?_|refine aZ ?_|(refine bf ?_ ?_<;>intro hc<;>try exact zqM))
 all_goals first
  |(have e:fJ t i=1:=X4 (by unfold sQ;omega);exact fu [] @e)
  |(have e:fJ t i=7:=X5 (by unfold sQ;omega) (by unfold sS;omega);exact fu [] @e)
  |(have e:fJ t i=7:=X6 (by unfold sQ;omega) (by unfold sS;omega) (by assumption);exact fu [] @e)
  |(have e:fJ t i=6:=X7 (by unfold sQ;omega) (by unfold sS;omega) (by assumption) omgz;exact fu [] @e)
  |(have e:fJ t i=4:=X8 (by unfold sQ;omega) (by unfold sS;omega) (by assumption) omgz (by assumption);exact fu [] @e)
  |(have e:fJ t i=0:=X9 (by unfold sQ;omega) (by unfold sS;omega) (by assumption) omgz (by assumption);exact fu [] @e)
def vaI(x:Ex)(j:{j:Nat // j<=x.nodes.length/\fP 0 (x.nodes.take j)=0}):St:=
 ⟨40,0,[(1,.pt 0 0),(15,.isl x.nz (cR x.nodes) x.nodes.length),(16,.val (.int .i64 x.nodes.length)),(17,.val (.int .i64 j.val))],[(0,some (.cells (aa.cells x) 50))]⟩
theorem uK{x:Ex}(hx:kY x):ACall Tryz.prog 47 [.agg (aa.cells x)] [] 0 (.val (.int .i64 (bB x))) []:=by
 have hx1:=hx.1
 have hx2:=hx.2
 refine az Tryz.func47 Tryz.ntmps47 rfl ?_
 repeat' (first|(refine ah ?_;refine ak [0] ([0].length) (vaI x) (λj=>x.nodes.length-j.val) (⟨0,omgz,rfl⟩) rfl (by unfold vaI;exact jZ) ?_;(rintro⟨j,hj,he⟩;(simp-dsimp only[vaI];refine zqS ?_)))|(refine aj ?_;refine Nxt.mk [0] (⟨j+1,omgz,QU omgz he (Decidable.not_not.1 (by assumption))⟩) rfl (by unfold vaI;exact jZ) zqO)|refine zqN ?_|refine aM (ajj (t:=x.nodes.getD j default) (i:=j) (hx2 j omgz).1 (hx2 j omgz).2) ?_|refine aY ?_|refine aZ ?_|(refine bf ?_ ?_<;>intro hc<;>try exact zqM))
 all_goals first
  |(have e:bB x=9:=QW omgz;exact fu [] @e)
  |(have e:bB x=3:=QX omgz;exact fu [] @e)
  |(have e:bB x=fJ (x.nodes.getD j default) j:=QY omgz omgz he (by assumption);exact fu [] @e)
  |(have ej:j=x.nodes.length:=omgz;rw[ej,List.take_length] at he;have e:bB x=4:=QZ omgz omgz he omgz;exact fu [] @e)
  |(have ej:j=x.nodes.length:=omgz;rw[ej,List.take_length] at he;have e:bB x=0:=Q0 omgz omgz he omgz;exact fu [] @e)
end
set_option maxHeartbeats 2000000
section
open Go Go.Sy Go.Bp
attribute [local irreducible] AO AL AC OpT ACall Ends DGo aK Thn Blk Nxt
variable {z zl:Bool} {n i j m q s r:Nat} {a b:Int} {x:Ex} {t:Nd}
theorem Nu(hw:t.w.length=0):ACall Tryz.prog 92 [.agg (aa.cells t),.val (.int .i64 q)] [] 0 (.val (.int .i64 (wt t q))) []:=by
 have e:wt t q=1:=by unfold wt;rw[if_pos hw]
 rw[e]
 refine az Tryz.func92 Tryz.ntmps92 rfl ?_
 have zx1:= @hw;have zx2:=aA;have zx3:=aA;repeat' (first|refine zqN ?_|refine dm ?_|refine dn ?_|(refine dw ?_ ?_<;>intro hc<;>try exact zqM))
 all_goals exact aB []
theorem Nv(hw:q<t.w.length)(hb:t.w.length<2^40):ACall Tryz.prog 92 [.agg (aa.cells t),.val (.int .i64 q)] [] 0 (.val (.int .i64 (wt t q))) []:=by
 have e:wt t q=t.w.getD q default:=by unfold wt;rw[if_neg omgz];rfl
 rw[e]
 refine az Tryz.func92 Tryz.ntmps92 rfl ?_
 repeat' (first|refine zqN ?_|refine aY ?_|refine aZ ?_|(refine bf ?_ ?_<;>intro hc<;>try exact zqM))
 all_goals exact aB []
theorem IX(hn:NOk t i)(hq:q<t.k.length)(hk:t.k.length<=1000):ACall Tryz.prog 92 [.agg (aa.cells t),.val (.int .i64 q)] [] 0 (.val (.int .i64 (wt t q))) []:=by
 by_cases h:t.w.length=0
 ·exact Nu h
 ·have:=hn.wl (λe=>h (by rw[e];rfl))
  exact Nv omgz omgz
def hpI(s:Nat)(x:Ex)(r:Nat)(p:{p:Nat×List Bool // p.1<=r+1/\Er (Bc (s%65536)) x p.1 p.2}):St:=
 ⟨62,0,[(1,.val (.int .u16 (U s))),(2,.pt 0 0),(5,.pt 1 0),(16,.isl x.nz (cR (x.nodes.take (r+1))) (r+1)),(17,.val (.int .i64 ((r:Int)+1))),(18,.val (.int .i64 p.val.1))],[(0,some (.cells (aa.cells x) 50)),(1,some (.cells (cB p.val.2) 146))]⟩
def hpJ(s:Nat)(x:Ex)(r i:Nat)(A:List Bool)(t:Nd)(q:{q:Nat // q<=t.k.length}):St:=
 ⟨62,0,[(1,.val (.int .u16 (U s))),(2,.pt 0 0),(5,.pt 1 0),(6,.val (.int .i64 i)),(7,.pt 2 0),(8,.val (.int .i64 (uF t A q))),(16,.isl x.nz (cR (x.nodes.take (r+1))) (r+1)),(17,.val (.int .i64 ((r:Int)+1))),(18,.val (.int .i64 i)),
    (35,.isl t.kz (cI .i64 t.k) t.k.length),(36,.val (.int .i64 t.k.length)),(37,.val (.int .i64 q.val))],
  [(0,some (.cells (aa.cells x) 50)),(1,some (.cells (cB A) 146)),(2,some (.cells (aa.cells t) 95))]⟩
theorem afU:(vB 60).map ofV=cB (List.replicate 60 false):=rfl
theorem YI{α:Type} [Inhabited α]{l:List α} {i k:Nat}(h:i<k):(l.take k).getD i default=l.getD i default:=by simp[List.getD_eq_getElem?_getD,List.getElem?_take_of_lt h]
theorem IY(hx:XOk x)(hks:KS x)(hr:x.root=(r:Nat)):ACall Tryz.prog 53 [.agg (aa.cells x),.val (.int .u16 (U s))] [] 0 (.val (.bool (hold (Bc (s%65536)) x))) []:=by
 have hfew:=hx.few
 have hrl:=hx.root.2
 have zx1:=ae;have zx2:=ae;have zx3:=ae;have zx4:=ae;have zx5:=ae;have zx6:=ae
 refine az Tryz.func53 Tryz.ntmps53 rfl ?_
 have zx7:= @hr;have zx8:= @Re;have zx9:= @afU;have zx10:= @YI;have zx11:=aA;have zx12:=aA;repeat' (first|(refine ah ?_;refine ak [0,1,2] ([0,1,2].length) (hpJ s x r i A t) (λq=>t.k.length-q.val) (⟨0,omgz⟩) rfl (by unfold hpJ;exact cO) ?_;(rintro⟨q,hq⟩;have hgr:=Fj (A:=A) hno hq;rcases Nat.lt_or_eq_of_le hq with hql|hql<;>first|(exfalso;omega)|(subst hql;(simp-dsimp only[hpJ];refine zqS ?_))|(have hkq:=hno.ks _ (bq (d:=default) hql);have hwr:=Rf hno hql;have hgt:=Fj (A:=A) hno (q:=q+1) hql;rcases Decidable.em (A.getD (t.k.getD q default).toNat default=true) with zx5|zx5<;>first|(have zx3:=afE hql zx5;(simp-dsimp only[hpJ];refine zqS ?_))|(have zx3:=afF hql zx5;(simp-dsimp only[hpJ];refine zqS ?_)))))|(refine aj ?_;refine Nxt.mk [0,1,2] (⟨q+1,omgz⟩) rfl (by unfold hpJ;exact cO) zqO)|(refine ah ?_;refine ak [0,1] ([0,1].length) (hpI s x r) (λp=>r+1-p.val.1) (⟨(0,List.replicate 60 false),omgz,Er.zero⟩) rfl (by unfold hpI;exact cO) ?_;(rintro⟨⟨i,A⟩,hi,hA⟩;dsimp only at hi hA;have hAl:=hA.len;rcases Nat.lt_or_eq_of_le hi with hil|hil<;>first|(have ei:r+1=i:=hil.symm;subst ei;have zx4:=hA.root hr omgz;(simp-dsimp only[hpI];refine zqS ?_))|(have hno:=hx.node i omgz;have hkl:=hks i omgz;generalize zx1:x.nodes.getD i default=t at hno hkl;have hsv:=hno.srv;rcases Decidable.em (t.kind=1) with zx2|zx2<;>first|(have hk0:t.k.length=0:=(by rw[(hno.leaf zx2).2.2];rfl);(simp-dsimp only[hpI];refine zqS ?_))|(have hk2:t.kind=2:=(hno.kind.resolve_left zx2);(simp-dsimp only[hpI];refine zqS ?_)))))|(refine aj ?_;refine Nxt.mk [0,1] (⟨(i+1,A.set i (bit s t.server.toNat)),omgz,hA.step omgz omgz (by rw[zx1];exact(ev_1 (h:=Bc (s%65536)) (A:=A) hno zx2).symm)⟩) rfl (by unfold hpI;exact cO) zqO)|(refine aj ?_;refine Nxt.mk [0,1] (⟨(i+1,A.set i (decide (t.need<=uF t A t.k.length))),omgz,hA.step omgz omgz (by rw[zx1];exact(ev_2 (h:=Bc (s%65536)) (A:=A) hno zx2).symm)⟩) rfl (by unfold hpI;exact cO) zqO)|refine zqN ?_|refine jq (IX hno (q:=q) omgz omgz) ?_|refine nQ ?_|refine sK ?_|refine sM ?_|refine sO ?_|refine nR ?_|(refine nS ?_ ?_<;>intro hc<;>try exact zqM))
 all_goals exact aB []
end
set_option maxHeartbeats 4000000
section
open Go Go.Sy Go.Bp
attribute [local irreducible] AO AL AC OpT ACall Ends DGo aK Thn Blk Nxt
variable {s:Nat} {x:Ex}
theorem Nw(hx:XOk x)(hks:KS x):ACall Tryz.prog 53 [.agg (aa.cells x),.val (.int .u16 (U s))] [] 0 (.val (.bool (hold (Bc (s%65536)) x))) []:=by
 obtain⟨r,hr⟩:=Int.eq_ofNat_of_zero_le hx.root.1
 exact IY hx hks hr
end
section
open Go Go.Sy Go.Bp Go.Dg
attribute [local irreducible] AO AL AC OpT ACall Ends DGo aK Thn Blk Nxt
variable {n N M T k i m r a b j w u v s q y d:Nat} {z:Bool} {x:Ex} {e:Int} {p:Nat->Bool}
abbrev KH(x:Ex)(s:Nat):Bool:=hold (Bc (s%65536)) x
end
section
open Go Go.Sy Go.Bp Go.Dg
attribute [local irreducible] AO AL AC OpT ACall Ends DGo aK Thn Blk Nxt
variable {n N M k i m r a b j w u v s q y d:Nat} {z:Bool} {x:Ex} {e:Int} {p:Nat->Bool} {xs qs:List Nat}
def svS(x:Ex):Nat->Nat
 |0=>0
 |j+1=>if(x.nodes.getD j default).kind=1 then sor (svS x j) (2^(x.nodes.getD j default).server.toNat) else svS x j
theorem ajk:svS x 0=0:=rfl
theorem ajl(h:(x.nodes.getD j default).kind=1):svS x (j+1)=sor (svS x j) (2^(x.nodes.getD j default).server.toNat):=if_pos h
theorem ajm(h:¬(x.nodes.getD j default).kind=1):svS x (j+1)=svS x j:=if_neg h
def svI(x:Ex)(N:Nat)(j:{j:Nat // j<=N}):St:=
 ⟨23,0,[(1,.pt 0 0),(3,.val (.int .u16 (U (svS x j.val)))),(7,.isl x.nz (cR x.nodes) N),(8,.val (.int .i64 N)),(9,.val (.int .i64 j.val))],[(0,some (.cells (aa.cells x) 50))]⟩
theorem IZ(hok:XOk x)(hN:x.nodes.length=N):ACall Tryz.prog 52 [.agg (aa.cells x)] [] 0 (.val (.int .u16 (U (svS x N)))) []:=by
 have hfew:=hok.few
 have hnd:=λ(j:Nat) (h:j<x.nodes.length)=>(hok.node j h).srv
 rw[hN] at hfew hnd
 have zx2:=ae;have zx3:=ae
 refine az Tryz.func52 Tryz.ntmps52 rfl ?_
 have zx1:= @hN;have zx4:= @ajk;have zx5:=aA;have zx6:=aA;repeat' (first|(refine ah ?_;refine ak [0] ([0].length) (svI x N) (λj=>N-j.val) (⟨0,omgz⟩) rfl (by unfold svI;exact dK) ?_;(rintro⟨j,hj⟩;rcases Nat.lt_or_eq_of_le hj with hjl|hjl<;>first|(have ej:N=j:=hjl.symm;subst ej;(simp-dsimp only[svI];refine zqS ?_))|(have hs1:=hnd j hjl;by_cases zx3:(x.nodes.getD j default).kind=1<;>first|(have zx2:=ajl (x:=x) zx3;(simp-dsimp only[svI];refine zqS ?_))|(have zx2:=ajm (x:=x) (j:=j) zx3;(simp-dsimp only[svI];refine zqS ?_)))))|(refine aj ?_;refine Nxt.mk [0] (⟨j+1,omgz⟩) rfl (by unfold svI;exact dK) zqO)|refine zqN ?_|refine kI ?_|refine kJ ?_|(refine kK ?_ ?_<;>intro hc<;>try exact zqM))
 all_goals exact aB []
def BM(f:List Nat)(s:Nat):Bool:= !(f.any λm=>decide (fG m s%65536=0))
theorem RG:ACall Tryz.prog 79 [.val (.int .u16 (U q)),.ipt [.val (.int .u16 (U s))] 0] [] 0 (.val (.bool (decide (fG q s%65536=0)))) []:=by
 refine az Tryz.func79 Tryz.ntmps79 rfl ?_
 repeat' (first|refine zqN ?_|refine aY ?_|refine aZ ?_|(refine bf ?_ ?_<;>intro hc<;>try exact zqM))
 all_goals exact aB []
theorem YJ(hl:qs.length=n)(hn:n<2^47):ACall Tryz.prog 36 [.isl z (cX qs) n,.val (.int .u16 (U s))] [] 0 (.val (.bool (BM qs s))) []:=by
 have h:=PLift.up (Fw (z:=z) (k:=qs) (F:=79) (c1:=[.val (.int .u16 (U s))]) (λm=>decide (fG m s%65536=0)) hl hn (λm=>RG))
 unfold BM
 generalize(qs.any λm=>decide (fG m s%65536=0))=v at h⊢
 refine az Tryz.func36 Tryz.ntmps36 rfl ?_
 repeat' (first|((first|refine bT (r:=1) 0 ?_|refine bS (r:=1) 0 ?_);refine jo ?_;intro K hK;refine hK _ _ ?_;clear hK K)|refine zqN ?_|refine aM h.down ?_|refine aY ?_|refine aZ ?_|(refine bf ?_ ?_<;>intro hc<;>try exact zqM))
 all_goals exact aB []
theorem uL:∀S,S<64->(iq S).length<=64/\aF S 16<7:=by decide+kernel
attribute [local irreducible] aF mem iZ pick fd sbL iq mB mBl fH
def fyO(p:Nat->Bool)(xs:List Nat)(j:Nat):List (Nat×Option aC):=[(0,some (.cells [.isl true [] 0] 25)),(1,some (.cells [.val (.int .i64 0)] 31)),(2,some (.cells [fw (mBl p xs j) 3 1] 25))]++fA (mBl p xs j) 3 (cX (mB p xs j)) 30
def fyR(x:Ex)(p:Nat->Bool)(xs:List Nat)(ca cb:Code):RLoop:=
 ⟨33,3,[(1,.ipt (aa.cells x) 0),(2,.pt 0 0),(3,.pt 1 0),(5,.pt 2 0)],fyO p xs,λ_=>[],4,0,λ_=>true,yX xs,.ret,15,ca,cb⟩
end
set_option maxHeartbeats 2000000
section
open Go Go.Sy Go.Bp
attribute [local irreducible] AO AL AC OpT ACall Ends DGo aK Thn Blk Nxt
variable {l k w:List Int} {z zk wz:Bool} {n K i j m:Nat} {a b:Int} {kids:List Ex} {need:Int} {t:Nd} {L:List Nd}
theorem KN{α:Type} {l:List α} {a:α}:(l++[a]).take (l.length+1)=l++[a]:=List.take_of_length_le (by simp)
def xJ(kids:List Ex)(j:Nat):Ex:=kids.getD j default
theorem take_s(h:j<kids.length):kids.take (j+1)=kids.take j++[xJ kids j]:=by
 rw[List.take_add_one];simp[xJ,List.getD_eq_getElem?_getD,h]
end
set_option maxHeartbeats 8000000
section
open Go Go.Sy Go.Bp Go.Dg
attribute [local irreducible] AO AL AC OpT ACall Ends DGo aK Thn Blk Nxt
variable {n N M K S k i m r a b j w u v s q y d:Nat} {z:Bool} {x:Ex} {t:Nd} {e:Int} {ms pl:List Int} {f:List Nat} {nd0:List Nd}
def plA(ms:List Int):Nat->List Int
 |0=>List.replicate 12 0
 |k+1=>(plA ms k).set (ms.getD k default).toNat k
theorem jB:plA ms (k+1)=(plA ms k).set (ms.getD k default).toNat k:=rfl
theorem Db:(plA ms k).length=12:=by
 induction k with
 |zero=>rfl
 |succ k ih=>rw[jB,List.length_set];exact ih
def srN(ms:List Int)(k:Nat):List Nd:=(ms.take k).map λm=>⟨1,m,0,true,[],true,[]⟩
theorem ku(h:k=0):srN ms k=[]:=by subst h;rfl
theorem acp(h:k<ms.length):srN ms (k+1)=srN ms k++[⟨1,ms.getD k default,0,true,[],true,[]⟩]:=by
 unfold srN
 rw[List.take_add_one,List.map_append];simp[List.getD_eq_getElem?_getD,h]
theorem Dc(h:k<=ms.length):(srN ms k).length=k:=by unfold srN;rw[List.length_map,List.length_take];omega
def kdL(pl:List Int)(s q:Nat):List Int:=((mem s 16).take q).map λm=>pl.getD m.toNat default
theorem kv(h:q=0):kdL pl s q=[]:=by subst h;rfl
theorem acr(h:q<aF s 16):kdL pl s (q+1)=kdL pl s q++[pl.getD ((mem s 16).getD q default).toNat default]:=by
 have h2:q<(mem s 16).length:=by rw[dI];exact h
 unfold kdL
 rw[List.take_add_one,List.map_append];simp[List.getD_eq_getElem?_getD,h2]
theorem xM(h:q<=aF s 16):(kdL pl s q).length=q:=by unfold kdL;rw[List.length_map,List.length_take,dI];omega
theorem R9(h:q<=aF s 16):(kdL pl s q).take q=kdL pl s q:=List.take_of_length_le (by rw[xM h];exact Nat.le_refl _)
def ofJ(pl:List Int)(nd0:List Nd)(f:List Nat):Nat->List Nd×List Int
 |0=>(nd0,[])
 |j+1=>if aF (f.getD j default) 16=1 then((ofJ pl nd0 f j).1,(ofJ pl nd0 f j).2++[(kdL pl (f.getD j default) 1).getD 0 default])
  else((ofJ pl nd0 f j).1++[⟨2,0,aF (f.getD j default) 16,true,[],false,kdL pl (f.getD j default) (aF (f.getD j default) 16)⟩],(ofJ pl nd0 f j).2++[((ofJ pl nd0 f j).1.length:Int)])
theorem kw:ofJ pl nd0 f 0=(nd0,[]):=rfl
theorem Sa(h:aF (f.getD j default) 16=1):ofJ pl nd0 f (j+1)=((ofJ pl nd0 f j).1,(ofJ pl nd0 f j).2++[(kdL pl (f.getD j default) 1).getD 0 default]):=by
 conv=>lhs;unfold ofJ
 rw[if_pos h]
theorem Sb(h:¬aF (f.getD j default) 16=1):ofJ pl nd0 f (j+1)=((ofJ pl nd0 f j).1++[⟨2,0,aF (f.getD j default) 16,true,[],false,kdL pl (f.getD j default) (aF (f.getD j default) 16)⟩],(ofJ pl nd0 f j).2++[((ofJ pl nd0 f j).1.length:Int)]):=by
 conv=>lhs;unfold ofJ
 rw[if_neg h]
theorem YT:∀j,(ofJ pl nd0 f j).2.length=j/\nd0.length<=(ofJ pl nd0 f j).1.length/\(ofJ pl nd0 f j).1.length<=nd0.length+j:=by
 intro j
 induction j with
 |zero=>exact⟨rfl,Nat.le_refl _,Nat.le_refl _⟩
 |succ j ih=>
  by_cases h:aF (f.getD j default) 16=1
  ·rw[Sa h]
   simp only[List.length_append,List.length_cons,List.length_nil];omega
  ·rw[Sb h]
   simp only[List.length_append,List.length_cons,List.length_nil];omega
def vW(ms:List Int)(f:List Nat):List Nd×List Int:=ofJ (plA ms ms.length) (srN ms ms.length) f f.length
def FB(ms:List Int)(f:List Nat):Ex:=
 if f.length=1 then⟨false,(vW ms f).1,(vW ms f).2.getD 0 default⟩ else⟨false,(vW ms f).1++[⟨2,0,1,true,[],f.length==0,(vW ms f).2⟩],(vW ms f).1.length⟩
theorem Sc(h:f.length=1):FB ms f=⟨false,(vW ms f).1,(vW ms f).2.getD 0 default⟩:=if_pos h
theorem Sg(h:¬f.length=1):FB ms f=⟨false,(vW ms f).1++[⟨2,0,1,true,[],f.length==0,(vW ms f).2⟩],(vW ms f).1.length⟩:=if_neg h
def xoA(z:Bool)(f:List Nat)(M:Nat)(ms:List Int)(zm:Bool)(K:Nat)(k:{k:Nat // k<=K}):St:=
 ⟨110,0,[(0,.isl z (cX f) M),(2,.pt 0 0),(3,.val (.int .i64 0)),(5,.pt 1 0),(6,.pt 2 0),(23,.isl zm (cI .i64 ms) K),(24,.val (.int .i64 K)),(25,.val (.int .i64 k.val))],
  [(0,some (.cells [.isl true [] 0,.val (.int .i64 0)] 50)),(1,some (.cells [fw k.val 3 5,.val (.int .i64 0)] 50)),(2,some (.cells (cI .i64 (plA ms k.val)) 93))]++fA k.val 3 (cR (srN ms k.val)) 95⟩
def xoI(z:Bool)(f:List Nat)(M:Nat)(pl:List Int)(nd0:List Nd)(j:{j:Nat // j<=M}):St:=
 ⟨110,0,[(2,.pt 0 0),(3,.val (.int .i64 0)),(5,.pt 1 0),(6,.pt 2 0),(9,fw j.val 4 1),(41,.isl z (cX f) M),(42,.val (.int .i64 M)),(43,.val (.int .i64 j.val))],
  [(0,some (.cells [.isl true [] 0,.val (.int .i64 0)] 50)),(1,some (.cells [.sl 3 0 (ofJ pl nd0 f j.val).1.length 5,.val (.int .i64 0)] 50)),(2,some (.cells (cI .i64 pl) 93)),(3,some (.cells (cR (ofJ pl nd0 f j.val).1) 95))]++fA j.val 4 (cI .i64 (ofJ pl nd0 f j.val).2) 3⟩
def xoJ(z:Bool)(f:List Nat)(M:Nat)(pl:List Int)(R:List Nd×List Int)(j s:Nat)(q:{q:Nat // q<=aF s 16}):St:=
 ⟨110,0,[(2,.pt 0 0),(3,.val (.int .i64 0)),(5,.pt 1 0),(6,.pt 2 0),(9,fw j 4 1),(12,fw q.val 5 1),(41,.isl z (cX f) M),(42,.val (.int .i64 M)),(43,.val (.int .i64 j)),(48,.isl (aF s 16==0) (cI .i64 (mem s 16)) (aF s 16)),(49,.val (.int .i64 (aF s 16:Nat))),(50,.val (.int .i64 q.val))],
  [(0,some (.cells [.isl true [] 0,.val (.int .i64 0)] 50)),(1,some (.cells [.sl 3 0 R.1.length 5,.val (.int .i64 0)] 50)),(2,some (.cells (cI .i64 pl) 93)),(3,some (.cells (cR R.1) 95))]++fA j 4 (cI .i64 R.2) 3++fA q.val 5 (cI .i64 (kdL pl s q.val)) 3⟩
theorem iw:cI .i64 (plA ms 0)=[.val (.int .i64 0),.val (.int .i64 0),.val (.int .i64 0),.val (.int .i64 0),.val (.int .i64 0),.val (.int .i64 0),.val (.int .i64 0),.val (.int .i64 0),.val (.int .i64 0),.val (.int .i64 0),.val (.int .i64 0),.val (.int .i64 0)]:=rfl
theorem af1(hl:f.length=M)(h0:0<M)(hM:M<=20)(he:oG f=0)(hS:gW f M=S)(hms:mem S 16=ms)(hK:aF S 16=K)(hK0:0<K)(hK12:K<=12)
 (hmr:∀k,k<K->0<=ms.getD k default/\ms.getD k default<12)
 (hfr:∀j,j<M->0<aF (f.getD j default) 16/\∀q,q<aF (f.getD j default) 16->0<=(mem (f.getD j default) 16).getD q default/\(mem (f.getD j default) 16).getD q default<12):
 ACall Tryz.prog 18 [.isl z (cX f) M] [] 0 (.tup [.agg (aa.cells (FB ms f)),.val (.int .i64 0)]) []:=by
 have hva:=PLift.up (lW (z:=z) hl omgz)
 rw[he] at hva
 have hsu:=PLift.up (mE (z:=z) hl omgz)
 rw[hS] at hsu
 have hmm:=PLift.up (KD (s:=S))
 have hml:ms.length=K:=by rw[<-hms,dI];exact hK
 rw[hms,hK,wT hK0] at hmm
 have hpl:∀k,(plA ms k).length=12:=λk=>Db
 have hrl:=λ(k:Nat) (h:k<=K)=>Dc (ms:=ms) (k:=k) omgz
 have hrs:=λ(k:Nat) (h:k<K)=>acp (ms:=ms) (k:=k) omgz
 have hx1:=Sc (ms:=ms) (f:=f)
 have hx2:=Sg (ms:=ms) (f:=f)
 unfold vW at hx1 hx2
 rw[hml,hl] at hx1 hx2
 obtain⟨pl,hplK⟩:∃pl,plA ms K=pl:=⟨_,rfl⟩
 obtain⟨nd0,hnd⟩:∃nd0,srN ms K=nd0:=⟨_,rfl⟩
 have hp12:pl.length=12:=by rw[<-hplK];exact Db
 have hn0:nd0.length=K:=by rw[<-hnd];exact hrl K (Nat.le_refl _)
 have hjl:=λ(j:Nat)=>YT (pl:=pl) (nd0:=nd0) (f:=f) j
 rw[hplK,hnd] at hx1 hx2
 clear he hS hms hK
 have hd1:=ae;have hkd:=ae;have hns:=ae;have htk:=ae;have hlj:=ae;have hR1:=ae;have hR2:=ae;have hkl:=ae;have hl1:=ae;have hl2:=ae;have hSR:=ae;have hz:=ae;have hq1:=ae
 refine az Tryz.func18 Tryz.ntmps18 rfl ?_
 repeat' (first|((first|refine bT (r:=25) 5 ?_|refine bS (r:=25) 5 ?_);simp-dsimp(disch:=try exact vD) only[push_cast,simprocAttr,hplK,hnd,hn0,hd1,hkd,hns,htk,hlj,hR1,hR2,hkl,hl1,hl2,hSR,hz,hq1,hpl,iw,jB,ku,kv,kw,bC,dI,dJ,df];(repeat refine aI ?_);intro K hK;refine hK _ _ ?_;clear hK K)|((first|refine bT (r:=30) 4 ?_|refine bS (r:=30) 4 ?_);simp-dsimp(disch:=try exact vD) only[push_cast,simprocAttr,hplK,hnd,hn0,hd1,hkd,hns,htk,hlj,hR1,hR2,hkl,hl1,hl2,hSR,hz,hq1,hpl,iw,jB,ku,kv,kw,bC,dI,dJ,df];(repeat refine aI ?_);intro K hK;refine hK _ _ ?_;clear hK K)|(refine ah ?_;refine ak [0,1,2,99] ([0,1,2,99].length) (xoA z f M ms false K) (λk=>K-k.val) (⟨0,Nat.zero_le _⟩) rfl (by unfold xoA;(try simp only[List.cons_append,List.nil_append]);refine Sub.mk2 ?_;(simp-dsimp(disch:=try exact vD) only[push_cast,simprocAttr,hplK,hnd,hn0,hd1,hkd,hns,htk,hlj,hR1,hR2,hkl,hl1,hl2,hSR,hz,hq1,hpl,iw,jB,ku,kv,kw,bC,dI,dJ,df]);(repeat refine aI ?_);first|done|exact vI) ?_;(rintro⟨k,hk⟩;have hlj:=hrl k hk;rcases Nat.lt_or_eq_of_le hk with hkl1|hkl1<;>first|(have ek:K=k:=hkl1.symm;subst ek;(simp-dsimp(disch:=try exact vD) only[push_cast,simprocAttr,xoA]))|(have hd1:=hrs k hkl1;have hmk:=hmr k hkl1;rcases Nat.eq_zero_or_pos k with hk0|hk0<;>(simp-dsimp(disch:=try exact vD) only[push_cast,simprocAttr,xoA]))))|(refine aj ?_;refine Nxt.mk [0,1,2,5] (⟨k+1,omgz⟩) rfl (by unfold xoA;(try simp only[List.cons_append,List.nil_append]);refine Sub.mk2 ?_;(simp-dsimp(disch:=try exact vD) only[push_cast,simprocAttr,hplK,hnd,hn0,hd1,hkd,hns,htk,hlj,hR1,hR2,hkl,hl1,hl2,hSR,hz,hq1,hpl,iw,jB,ku,kv,kw,bC,dI,dJ,df]);(repeat refine aI ?_);first|done|exact vI) (by first|omega|(dsimp only;omega)|(simp;done)|(simp;omega)))|(refine ah ?_;refine ak [0,1,2,3,99,99] ([0,1,2,3,99,99].length) (xoJ z f M pl R j s) (λq=>aF s 16-q.val) (⟨0,Nat.zero_le _⟩) rfl (by unfold xoJ;(try simp only[List.cons_append,List.nil_append]);refine Sub.mk2 ?_;(simp-dsimp(disch:=try exact vD) only[push_cast,simprocAttr,hplK,hnd,hn0,hd1,hkd,hns,htk,hlj,hR1,hR2,hkl,hl1,hl2,hSR,hz,hq1,hpl,iw,jB,ku,kv,kw,bC,dI,dJ,df]);(repeat refine aI ?_);first|done|exact vI) ?_;(rintro⟨q,hq⟩;have hkl:=xM (pl:=pl) hq;rcases Nat.lt_or_eq_of_le hq with hql|hql<;>first|(have hq1:aF s 16=q:=hql.symm;clear hql;have htk:=R9 (pl:=pl) hq;rcases Decidable.em (q=1) with hz|hz<;>first|(subst hz;have hR1:=ho1 hq1;(simp-dsimp(disch:=try exact vD) only[push_cast,simprocAttr,xoJ]))|(have hR1:=ho2 (λh=>hz (hq1.symm.trans h));(simp-dsimp(disch:=try exact vD) only[push_cast,simprocAttr,xoJ])))|(have hd1:=acr (pl:=pl) hql;have hmk:=hfm q hql;rcases Nat.eq_zero_or_pos q with hq0|hq0<;>(simp-dsimp(disch:=try exact vD) only[push_cast,simprocAttr,xoJ]))))|(refine aj ?_;refine Nxt.mk [0,1,2,3,99,7] (⟨q+1,omgz⟩) rfl (by unfold xoJ;(try simp only[List.cons_append,List.nil_append]);refine Sub.mk2 ?_;(simp-dsimp(disch:=try exact vD) only[push_cast,simprocAttr,hplK,hnd,hn0,hd1,hkd,hns,htk,hlj,hR1,hR2,hkl,hl1,hl2,hSR,hz,hq1,hpl,iw,jB,ku,kv,kw,bC,dI,dJ,df]);(repeat refine aI ?_);first|done|exact vI) (by first|omega|(dsimp only;omega)|(simp;done)|(simp;omega)))|(refine ah ?_;refine ak [0,1,2,3,4,99] ([0,1,2,3,4,99].length) (xoJ z f M pl R j s) (λq=>aF s 16-q.val) (⟨0,Nat.zero_le _⟩) rfl (by unfold xoJ;(try simp only[List.cons_append,List.nil_append]);refine Sub.mk2 ?_;(simp-dsimp(disch:=try exact vD) only[push_cast,simprocAttr,hplK,hnd,hn0,hd1,hkd,hns,htk,hlj,hR1,hR2,hkl,hl1,hl2,hSR,hz,hq1,hpl,iw,jB,ku,kv,kw,bC,dI,dJ,df]);(repeat refine aI ?_);first|done|exact vI) ?_;(rintro⟨q,hq⟩;have hkl:=xM (pl:=pl) hq;rcases Nat.lt_or_eq_of_le hq with hql|hql<;>first|(have hq1:aF s 16=q:=hql.symm;clear hql;have htk:=R9 (pl:=pl) hq;rcases Decidable.em (q=1) with hz|hz<;>first|(subst hz;have hR1:=ho1 hq1;(simp-dsimp(disch:=try exact vD) only[push_cast,simprocAttr,xoJ]))|(have hR1:=ho2 (λh=>hz (hq1.symm.trans h));(simp-dsimp(disch:=try exact vD) only[push_cast,simprocAttr,xoJ])))|(have hd1:=acr (pl:=pl) hql;have hmk:=hfm q hql;rcases Nat.eq_zero_or_pos q with hq0|hq0<;>(simp-dsimp(disch:=try exact vD) only[push_cast,simprocAttr,xoJ]))))|(refine aj ?_;refine Nxt.mk [0,1,2,3,4,7] (⟨q+1,omgz⟩) rfl (by unfold xoJ;(try simp only[List.cons_append,List.nil_append]);refine Sub.mk2 ?_;(simp-dsimp(disch:=try exact vD) only[push_cast,simprocAttr,hplK,hnd,hn0,hd1,hkd,hns,htk,hlj,hR1,hR2,hkl,hl1,hl2,hSR,hz,hq1,hpl,iw,jB,ku,kv,kw,bC,dI,dJ,df]);(repeat refine aI ?_);first|done|exact vI) (by first|omega|(dsimp only;omega)|(simp;done)|(simp;omega)))|(refine ah ?_;refine ak [0,1,2,3,99] ([0,1,2,3,99].length) (xoI z f M pl nd0) (λj=>M-j.val) (⟨0,Nat.zero_le _⟩) rfl (by unfold xoI;(try simp only[List.cons_append,List.nil_append]);refine Sub.mk2 ?_;(simp-dsimp(disch:=try exact vD) only[push_cast,simprocAttr,hplK,hnd,hn0,hd1,hkd,hns,htk,hlj,hR1,hR2,hkl,hl1,hl2,hSR,hz,hq1,hpl,iw,jB,ku,kv,kw,bC,dI,dJ,df]);(repeat refine aI ?_);first|done|exact vI) ?_;(rintro⟨j,hj⟩;have hjl1:=hjl j;have ho1:=Sa (pl:=pl) (nd0:=nd0) (f:=f) (j:=j);have ho2:=Sb (pl:=pl) (nd0:=nd0) (f:=f) (j:=j);dsimp only[xoI];rcases Nat.lt_or_eq_of_le hj with hjl2|hjl2<;>first|(have ej:M=j:=hjl2.symm;subst ej;generalize hSR:ofJ pl nd0 f M=R at*;have hlj:=hjl1.1;(simp-dsimp(disch:=try exact vD) only[push_cast,simprocAttr,]))|(obtain⟨hf0,hfm⟩:=hfr j hjl2;generalize hns:f.getD j default=s at*;generalize hSR:ofJ pl nd0 f j=R at*;have hlj:=hjl1.1;have hml2:=dI (s:=s) (j:=16);have hml3:=ni (s:=s) (j:=16);rcases Nat.eq_zero_or_pos j with hj0|hj0<;>first|(have hR2:=List.length_eq_zero_iff.1 (hlj.trans hj0);(simp-dsimp(disch:=try exact vD) only[push_cast,simprocAttr,]))|(simp-dsimp(disch:=try exact vD) only[push_cast,simprocAttr,]))))|(refine aj ?_;refine Nxt.mk [0,1,2,9,7] (⟨j+1,omgz⟩) rfl (by unfold xoI;(try simp only[List.cons_append,List.nil_append]);refine Sub.mk2 ?_;(simp-dsimp(disch:=try exact vD) only[push_cast,simprocAttr,hplK,hnd,hn0,hd1,hkd,hns,htk,hlj,hR1,hR2,hkl,hl1,hl2,hSR,hz,hq1,hpl,iw,jB,ku,kv,kw,bC,dI,dJ,df]);(repeat refine aI ?_);first|done|exact vI) (by first|omega|(dsimp only;omega)|(simp;done)|(simp;omega)))|(refine aj ?_;refine Nxt.mk [0,1,2,3,7] (⟨j+1,omgz⟩) rfl (by unfold xoI;(try simp only[List.cons_append,List.nil_append]);refine Sub.mk2 ?_;(simp-dsimp(disch:=try exact vD) only[push_cast,simprocAttr,hplK,hnd,hn0,hd1,hkd,hns,htk,hlj,hR1,hR2,hkl,hl1,hl2,hSR,hz,hq1,hpl,iw,jB,ku,kv,kw,bC,dI,dJ,df]);(repeat refine aI ?_);first|done|exact vI) (by first|omega|(dsimp only;omega)|(simp;done)|(simp;omega)))|apply dU|apply aJ|((first|refine ay rfl (λK hK=>?_)|refine au (λK hK=>?_));(first|refine ai (f:=33) [] 0 false ?_|refine ai (f:=35) [] 0 false ?_|refine ai (f:=46) (dst:=some 23) [] 0 false ?_|refine ai (f:=46) (dst:=some 48) [] 0 false ?_);simp-dsimp(disch:=try exact vD) only[push_cast,simprocAttr,hplK,hnd,hn0,hd1,hkd,hns,htk,hlj,hR1,hR2,hkl,hl1,hl2,hSR,hz,hq1,hpl,iw,jB,ku,kv,kw,bC,dI,dJ,df];(repeat refine aI ?_);intro G hG;refine hG _ _ ?_;clear hG G;(first|refine⟨_,_,hva.down,?_⟩|refine⟨_,_,hsu.down,?_⟩|refine⟨_,_,hmm.down,?_⟩|refine⟨_,_,KD (s:=s),?_⟩);simp-dsimp(disch:=try exact vD) only[push_cast,simprocAttr,hplK,hnd,hn0,hd1,hkd,hns,htk,hlj,hR1,hR2,hkl,hl1,hl2,hSR,hz,hq1,hpl,iw,jB,ku,kv,kw,bC,dI,dJ,df];(repeat refine aI ?_);apply hK;clear hK K)|((first|refine ay rfl (λK hK=>?_)|refine au (λK hK=>?_));(first|apply cZ|apply aX|apply dz|apply aR|apply bD|apply bE|apply bO|apply iI|apply dh|apply eT|apply dO|apply kN|apply gH|apply aV|apply dC|apply bQ|apply bF|apply eH|apply dH);simp-dsimp(disch:=try exact vD) only[push_cast,simprocAttr,hplK,hnd,hn0,hd1,hkd,hns,htk,hlj,hR1,hR2,hkl,hl1,hl2,hSR,hz,hq1,hpl,iw,jB,ku,kv,kw,bC,dI,dJ,df];(repeat refine aI ?_);apply hK;clear hK K)|((first|refine ay rfl (λK hK=>?_)|refine au (λK hK=>?_));(first|apply gz);simp-dsimp(disch:=try exact vD) only[push_cast,simprocAttr,hplK,hnd,hn0,hd1,hkd,hns,htk,hlj,hR1,hR2,hkl,hl1,hl2,hSR,hz,hq1,hpl,iw,jB,ku,kv,kw,bC,dI,dJ,df];(repeat refine aI ?_);apply hK;clear hK K)|((first|refine ay rfl (λK hK=>?_)|refine au (λK hK=>?_));(first|apply d9);simp-dsimp(disch:=try exact vD) only[push_cast,simprocAttr,hplK,hnd,hn0,hd1,hkd,hns,htk,hlj,hR1,hR2,hkl,hl1,hl2,hSR,hz,hq1,hpl,iw,jB,ku,kv,kw,bC,dI,dJ,df];(repeat refine aI ?_);apply hK;clear hK K)|((first|refine ay rfl (λK hK=>?_)|refine au (λK hK=>?_));(first|apply dZ);simp-dsimp(disch:=try exact vD) only[push_cast,simprocAttr,hplK,hnd,hn0,hd1,hkd,hns,htk,hlj,hR1,hR2,hkl,hl1,hl2,hSR,hz,hq1,hpl,iw,jB,ku,kv,kw,bC,dI,dJ,df];(repeat refine aI ?_);apply hK;clear hK K)|((first|refine aN rfl rfl (λK1 K2 h1 h2=>?_) rfl|refine aL (λK1 K2 h1 h2=>?_));simp-dsimp(disch:=try exact vD) only[push_cast,simprocAttr,hplK,hnd,hn0,hd1,hkd,hns,htk,hlj,hR1,hR2,hkl,hl1,hl2,hSR,hz,hq1,hpl,iw,jB,ku,kv,kw,bC,dI,dJ,df];(first|(refine⟨λhc=>?_,λhc=>?_⟩<;>first|(exfalso;omega)|(exfalso;contradiction)|refine h1 ?_|refine h2 ?_)|refine h1 ?_|refine h2 ?_);all_goals clear h1 h2 K1 K2)|apply dV|apply aT|apply cu|apply bG|apply aU|apply cK|apply bH|(refine bu rfl ?_)|apply bI|apply bZ|apply bY|apply dS)
 all_goals first
  |(rw[hx1 omgz];((refine Ends.frz 3 ?_;simp-dsimp(disch:=try exact vD) only[push_cast,simprocAttr,Tryz.f18,jr];(repeat refine aI ?_);intro K hK;refine hK _ _ ?_;clear hK K);refine Ends.mk2 (by first|exact .inr rfl|exact .inl rfl) [] ?_;simp-dsimp(disch:=try exact vD) only[push_cast,simprocAttr,Tryz.f18,jr];try exact zqF);done)
  |(rw[hx2 omgz,wT h0];((refine Ends.frz 6 ?_;simp-dsimp(disch:=try exact vD) only[push_cast,simprocAttr,Tryz.f18,jr,KN];(repeat refine aI ?_);intro K hK;refine hK _ _ ?_;clear hK K);refine Ends.mk2 (by first|exact .inr rfl|exact .inl rfl) [] ?_;simp-dsimp(disch:=try exact vD) only[push_cast,simprocAttr,Tryz.f18,jr,KN];try exact zqF);done)
  |skip
end
set_option maxHeartbeats 4000000
section
open Go Go.Sy Go.Bp Go.Dg
variable {n N M K S k i m r a b j w u v s q y d c:Nat} {z:Bool} {x:Ex} {t:Nd} {e:Int} {ms pl ks:List Int} {f:List Nat} {nd0 nds:List Nd} {h h':Int->Bool} {A acc:List Bool}
theorem I5:∀{k:Nat},∀y∈mem s k,0<=y/\y<k:=by
 intro k y hy
 rw[Fp] at hy
 obtain⟨i,hi,rfl⟩:=List.mem_map.1 hy
 have:=(uG.1 hi).1
 omega
theorem NB:∀k,(mem s k).Nodup:=by
 intro k
 induction k with
 |zero=>exact List.nodup_nil
 |succ k ih=>
  cases hb:s.testBit k with
  |false=>rw[Kw hb];exact ih
  |true=>
   rw[Kv hb,List.nodup_append]
   refine⟨ih,by simp,λa ha b hb2 e=>?_⟩
   rw[List.mem_singleton.1 hb2] at e
   have:=I5 a ha
   omega
theorem Si(hi:i<k)(hb:s.testBit i=true):(i:Int)∈mem s k:=by
 rw[Fp];exact List.mem_map.2 ⟨i,uG.2 ⟨hi,hb⟩,rfl⟩
theorem KO(hy:y<k):(y:Int)∈mem s k->s.testBit y=true:=by
 intro h
 rw[Fp] at h
 obtain⟨i,hi,e⟩:=List.mem_map.1 h
 have:i=y:=by omega
 subst this;exact(uG.1 hi).2
structure Bo(ms:List Int)(K:Nat):Prop where
 len:ms.length=K
 rng:∀k,k<K->0<=ms.getD k default/\ms.getD k default<12
 inj:∀i k,i<K->k<K->ms.getD i default=ms.getD k default->i=k
theorem YU(h:Bo ms K):∀k,k<=K->∀j,j<k->(plA ms k).getD (ms.getD j default).toNat default=(j:Int):=by
 intro k
 induction k with
 |zero=>intro _ j hj;omega
 |succ k ih=>
  intro hk j hj
  have hr:=h.rng k omgz
  have hrj:=h.rng j omgz
  have hl:=Db (ms:=ms) (k:=k)
  rw[jB,List.getD_eq_getElem?_getD,List.getElem?_set]
  by_cases e:j=k
  ·subst e
   rw[if_pos rfl,if_pos omgz];rfl
  ·rw[if_neg (λe2=>e (h.inj j k omgz omgz omgz))]
   have:=ih omgz j omgz
   rw[List.getD_eq_getElem?_getD] at this;exact this
theorem YV:∀k,k<=ms.length->fZ h [] (srN ms k)=(ms.take k).map h:=by
 intro k
 induction k with
 |zero=>intro _;rfl
 |succ k ih=>
  intro hk
  rw[acp omgz,nT,ih omgz]
  have e:ms.take (k+1)=ms.take k++[ms.getD k default]:=by
   rw[List.take_add_one,List.getD_eq_getElem?_getD,List.getElem?_eq_getElem omgz];rfl
  rw[e,List.map_append]
  show _++[evN h _ _]=_
  congr 1
  simp[evN]
def De(h:Int->Bool)(s:Nat):Bool:=(mem s 16).all h
theorem gdA(hi:i<A.length):(A++acc).getD i false=A.getD i false:=by
 rw[List.getD_eq_getElem?_getD,List.getElem?_append_left hi,<-List.getD_eq_getElem?_getD]
structure SOk(ms:List Int)(s:Nat):Prop where
 pos:0<aF s 16
 mem:∀y∈mem s 16,∃k,k<ms.length/\ms.getD k default=y
structure JOk(h:Int->Bool)(ms:List Int)(f:List Nat)(j:Nat)(R:List Nd×List Int):Prop where
 srv:∀k,k<ms.length->(fZ h [] R.1).getD k false=h (ms.getD k default)
 lenT:R.2.length=j
 lenN:ms.length<=R.1.length/\R.1.length<=ms.length+j
 top:∀i,i<j->0<=R.2.getD i default/\R.2.getD i default<R.1.length/\(fZ h [] R.1).getD (R.2.getD i default).toNat false=De h (f.getD i default)
 ok:AllOk R.1
 nz:∀t∈R.1,t.w=[]/\(t.kz=true->t.k=[])/\t.k.length<=16
 sv:∀t∈R.1,t.kind=1->t.server∈ms
 ky:∀k,k<ms.length->(R.1.getD k default).kind=1/\(R.1.getD k default).server=ms.getD k default
theorem zQ(ha:AllOk nds)(ht:NOk t nds.length):AllOk (nds++[t]):=by
 intro i hi
 rw[List.length_append,List.length_singleton] at hi
 rcases Nat.lt_or_eq_of_le (Nat.le_of_lt_succ hi) with h1|h1
 ·rw[List.getD_eq_getElem?_getD,List.getElem?_append_left h1,<-List.getD_eq_getElem?_getD];exact ha i h1
 ·subst h1
  rw[List.getD_eq_getElem?_getD,List.getElem?_append_right (Nat.le_refl _),Nat.sub_self];exact ht
theorem YW(hm:Bo ms K):AllOk (srN ms ms.length)/\(∀t∈srN ms ms.length,t.w=[]/\(t.kz=true->t.k=[])/\t.k.length<=16/\(t.kind=1->t.server∈ms))/\∀k,k<ms.length->((srN ms ms.length).getD k default).kind=1/\((srN ms ms.length).getD k default).server=ms.getD k default:=by
 have e:srN ms ms.length=ms.map λm=>⟨1,m,0,true,[],true,[]⟩:=by unfold srN;rw[List.take_length]
 have hg:∀k,k<ms.length->(srN ms ms.length).getD k default=⟨1,ms.getD k default,0,true,[],true,[]⟩:=λk hk=>by
  rw[e,List.getD_eq_getElem?_getD,List.getElem?_map,List.getElem?_eq_getElem hk,List.getD_eq_getElem?_getD,List.getElem?_eq_getElem hk];rfl
 refine⟨λi hi=>?_,λt ht=>?_,λk hk=>by rw[hg k hk];exact⟨rfl,rfl⟩⟩
 ·rw[Dc (Nat.le_refl _)] at hi
  have:=hm.rng i (by rw[<-hm.len];exact hi)
  rw[hg i hi]
  exact⟨.inl rfl,this,λ_=>⟨rfl,rfl,rfl⟩,λh=>absurd (show(1:Int)=2 from h) (by decide),⟨Int.le_refl _,(by decide:(0:Int)<=100000)⟩,λw hw=>(nomatch hw),λh=>absurd rfl h,λk hk=>(nomatch hk)⟩
 ·rw[e] at ht
  obtain⟨m,hm2,rfl⟩:=List.mem_map.1 ht
  exact⟨rfl,λ_=>rfl,Nat.zero_le _,λ_=>hm2⟩
theorem JOk.zero(hm:Bo ms K):JOk h ms f 0 (srN ms ms.length,[]):=by
 obtain⟨h1,h2,h3⟩:=YW hm
 have hl:=Dc (ms:=ms) (Nat.le_refl _)
 refine⟨λk hk=>?_,rfl,by dsimp only;omega,λi hi=>absurd hi omgz,h1,λt ht=>⟨(h2 t ht).1,(h2 t ht).2.1,(h2 t ht).2.2.1⟩,λt ht=>(h2 t ht).2.2.2,h3⟩
 show(fZ h [] (srN ms ms.length)).getD k false=_
 rw[YV _ (Nat.le_refl _),List.take_length,List.getD_eq_getElem?_getD,List.getElem?_map,List.getElem?_eq_getElem hk,List.getD_eq_getElem?_getD,List.getElem?_eq_getElem hk];rfl
theorem Df(hm:Bo ms K)(hj:JOk h ms f j (nds,ks))(hy:e∈mem s 16)(hs:SOk ms s):
 0<=(plA ms ms.length).getD e.toNat default/\(plA ms ms.length).getD e.toNat default<nds.length/\(fZ h [] nds).getD ((plA ms ms.length).getD e.toNat default).toNat false=h e:=by
 obtain⟨k,hk,rfl⟩:=hs.mem e hy
 rw[YU hm ms.length (by rw[hm.len];exact Nat.le_refl _) k hk]
 have h1:ms.length<=nds.length:=hj.lenN.1
 have h2:(fZ h [] nds).getD k false=_:=hj.srv k hk
 exact⟨omgz,omgz,h2⟩
theorem af2(hm:Bo ms K)(hj:JOk h ms f j (nds,ks))(hs:SOk ms s):(kdL (plA ms ms.length) s (aF s 16)).map (λy=>(fZ h [] nds).getD y.toNat false)=(mem s 16).map h:=by
 have e:(mem s 16).take (aF s 16)=mem s 16:=List.take_of_length_le (Nat.le_refl _)
 unfold kdL
 rw[e,List.map_map]
 exact List.map_congr_left λy hy=>(Df hm hj hy hs).2.2
theorem af3(hm:Bo ms K)(hj:JOk h ms f j (nds,ks))(hs:SOk ms s):∀y∈kdL (plA ms ms.length) s (aF s 16),0<=y/\y<nds.length:=by
 intro y hy
 unfold kdL at hy
 obtain⟨m,hm2,rfl⟩:=List.mem_map.1 hy
 have:=Df hm hj (List.mem_of_mem_take hm2) hs
 exact⟨this.1,this.2.1⟩
theorem all_map{α:Type}(l:List α)(g:α->Bool):(l.map g).all id=l.all g:=by rw[List.all_map];rfl
theorem KP(hk:t.kind=2)(hw:t.w=[]):evN h A t=decide (t.need<=(cnt (t.k.map λy=>A.getD y.toNat false):Nat)):=by
 unfold evN
 rw[Fh t hw,hk];simp
theorem JOk.step(hm:Bo ms K)(hj:JOk h ms f j (ofJ (plA ms ms.length) (srN ms ms.length) f j))(hs:SOk ms (f.getD j default)):JOk h ms f (j+1) (ofJ (plA ms ms.length) (srN ms ms.length) f (j+1)):=by
 obtain⟨s,hse⟩:∃s,f.getD j default=s:=⟨_,rfl⟩
 have hl16:=ni (s:=s) (j:=16)
 have o1:=Sa (pl:=plA ms ms.length) (nd0:=srN ms ms.length) (f:=f) (j:=j)
 have o2:=Sb (pl:=plA ms ms.length) (nd0:=srN ms ms.length) (f:=f) (j:=j)
 rw[hse] at hs o1 o2
 generalize ofJ (plA ms ms.length) (srN ms ms.length) f j=R at hj o1 o2
 obtain⟨nds,ts⟩:=R
 have hp:=hs.pos
 have hlT:ts.length=j:=hj.lenT
 have hlN:ms.length<=nds.length/\nds.length<=ms.length+j:=hj.lenN
 have htop:∀i,i<j->0<=ts.getD i default/\ts.getD i default<nds.length/\(fZ h [] nds).getD (ts.getD i default).toNat false=De h (f.getD i default):=hj.top
 have hrl:(fZ h [] nds).length=nds.length:=by rw[zG];simp
 have gt:∀{c:Int} {i},i<j->(ts++[c]).getD i default=ts.getD i default:=λ{c i} hi=>by
  rw[List.getD_eq_getElem?_getD,List.getElem?_append_left omgz,<-List.getD_eq_getElem?_getD]
 have gl:∀{c:Int},(ts++[c]).getD j default=c:=λ{c}=>by
  rw[List.getD_eq_getElem?_getD,List.getElem?_append_right omgz,hlT,Nat.sub_self];rfl
 by_cases h1:aF s 16=1
 ·rw[o1 h1]
  obtain⟨m0,hm0⟩:∃m0,mem s 16=[m0]:=List.length_eq_one_iff.1 h1
  have hk1:(kdL (plA ms ms.length) s 1).getD 0 default=(plA ms ms.length).getD m0.toNat default:=by unfold kdL;rw[hm0];rfl
  have hkv:=Df hm hj (e:=m0) (s:=s) (by rw[hm0];simp) hs
  refine⟨hj.srv,by simp[hlT],by simp only;omega,λi hi=>?_,hj.ok,hj.nz,hj.sv,hj.ky⟩
  dsimp only
  rcases Nat.lt_or_eq_of_le (Nat.le_of_lt_succ hi) with h2|h2
  ·rw[gt h2];exact htop i h2
  ·subst h2
   rw[gl,hk1,hse]
   refine⟨hkv.1,hkv.2.1,?_⟩
   rw[hkv.2.2];unfold De;rw[hm0];simp
 ·rw[o2 h1]
  have hkm:=af3 hm hj hs
  have hkv:=af2 hm hj hs
  have hkl:(kdL (plA ms ms.length) s (aF s 16)).length=aF s 16:=xM (Nat.le_refl _)
  generalize hkd:kdL (plA ms ms.length) s (aF s 16)=kd at*
  have hnt:NOk ⟨2,0,aF s 16,true,[],false,kd⟩ nds.length:=⟨.inr rfl,⟨Int.le_refl _,(by decide:(0:Int)<12)⟩,λh=>absurd (show(2:Int)=1 from h) (by decide),λ_=>rfl,(by show(0:Int)<=(aF s 16:Nat)/\((aF s 16:Nat):Int)<=100000;omega),λw hw=>(nomatch hw),λh=>absurd rfl h,hkm⟩
  have hev:evN h (fZ h [] nds) ⟨2,0,aF s 16,true,[],false,kd⟩=De h s:=by
   rw[KP rfl rfl]
   show decide (((aF s 16:Nat):Int)<=(cnt (kd.map λy=>(fZ h [] nds).getD y.toNat false):Nat))=_
   rw[hkv]
   have:=cnt_all ((mem s 16).map h)
   rw[List.length_map] at this
   unfold aF;rw[this,all_map];rfl
  have hrun:fZ h [] (nds++[⟨2,0,aF s 16,true,[],false,kd⟩])=fZ h [] nds++[De h s]:=by
   rw[nT];show _++[evN h _ _]=_;rw[hev]
  refine⟨λk hk=>?_,by simp[hlT],by simp only[List.length_append,List.length_singleton];omega,λi hi=>?_,zQ hj.ok hnt,λt ht=>?_,λt ht hk=>?_,λk hk=>?_⟩
  ·show(fZ h [] (nds++[_])).getD k false=_
   rw[hrun,gdA omgz];exact hj.srv k hk
  ·dsimp only
   rw[hrun,List.length_append,List.length_singleton]
   rcases Nat.lt_or_eq_of_le (Nat.le_of_lt_succ hi) with h2|h2
   ·rw[gt h2]
    obtain⟨a1,a2,a3⟩:=htop i h2
    exact⟨a1,omgz,by rw[gdA omgz];exact a3⟩
   ·subst h2
    rw[gl,hse]
    refine⟨omgz,omgz,?_⟩
    rw[List.getD_eq_getElem?_getD,List.getElem?_append_right omgz,hrl]
    simp
  ·rcases List.mem_append.1 ht with h2|h2
   ·exact hj.nz t h2
   ·rw[List.mem_singleton.1 h2];exact⟨rfl,λh=>(by cases h),by show kd.length<=16;omega⟩
  ·rcases List.mem_append.1 ht with h2|h2
   ·exact hj.sv t h2 hk
   ·rw[List.mem_singleton.1 h2] at hk;exact absurd (show(2:Int)=1 from hk) (by decide)
  ·have:(nds++[(⟨2,0,aF s 16,true,[],false,kd⟩:Nd)]).getD k default=nds.getD k default:=by
    rw[List.getD_eq_getElem?_getD,List.getElem?_append_left omgz,<-List.getD_eq_getElem?_getD]
   show((nds++[_]).getD k default).kind=1/\((nds++[_]).getD k default).server=_
   rw[this];exact hj.ky k hk
theorem JOk.all(hm:Bo ms K)(hs:∀j,j<f.length->SOk ms (f.getD j default)):∀j,j<=f.length->JOk h ms f j (ofJ (plA ms ms.length) (srN ms ms.length) f j):=by
 intro j
 induction j with
 |zero=>intro _;exact JOk.zero hm
 |succ j ih=>intro hj;exact JOk.step hm (ih omgz) (hs j omgz)
structure XfOk(h:Int->Bool)(ms:List Int)(f:List Nat)(x:Ex):Prop where
 ok:XOk x
 nz:∀t∈x.nodes,t.w=[]/\(t.kz=true->t.k=[])/\t.k.length<=20
 sv:∀t∈x.nodes,t.kind=1->t.server∈ms
 ky:∀k,k<ms.length->(x.nodes.getD k default).kind=1/\(x.nodes.getD k default).server=ms.getD k default
 hd:hold h x=f.any (De h)
 ln:ms.length<=x.nodes.length
theorem af4(hT:ks.length=f.length)(ht:∀i,i<f.length->A.getD (ks.getD i default).toNat false=De h (f.getD i default)):ks.map (λy=>A.getD y.toNat false)=f.map (De h):=by
 apply List.ext_getElem
 ·simp[hT]
 ·intro i h1 h2
  rw[List.length_map] at h1 h2
  have:=ht i h2
  rw[List.getElem_map,List.getElem_map]
  rw[List.getD_eq_getElem?_getD (l:=ks),List.getElem?_eq_getElem h1,List.getD_eq_getElem?_getD (l:=f),List.getElem?_eq_getElem h2] at this
  exact this
theorem Sj(hm:Bo ms K)(hK:K<=12)(hs:∀j,j<f.length->SOk ms (f.getD j default))(hl:f.length<=20):XfOk h ms f (FB ms f):=by
 have hj:=JOk.all (h:=h) hm hs f.length (Nat.le_refl _)
 have hKl:=hm.len
 by_cases h1:f.length=1
 ·rw[Sc h1]
  unfold vW
  generalize ofJ (plA ms ms.length) (srN ms ms.length) f f.length=R at hj
  obtain⟨nds,ts⟩:=R
  obtain⟨a1,a2,a3⟩:=hj.top 0 omgz
  have a2:ts.getD 0 default<nds.length:=a2
  have a1:0<=ts.getD 0 default:=a1
  have hlN:ms.length<=nds.length/\nds.length<=ms.length+f.length:=hj.lenN
  refine⟨⟨by show 0<nds.length;omega,by show nds.length<=60;omega,hj.ok,⟨a1,a2⟩⟩,λt ht=>⟨(hj.nz t ht).1,(hj.nz t ht).2.1,by have:=(hj.nz t ht).2.2;omega⟩,hj.sv,hj.ky,?_,hlN.1⟩
  obtain⟨f0,hf0⟩:∃f0,f=[f0]:=List.length_eq_one_iff.1 h1
  show(fZ h [] nds).getD (ts.getD 0 default).toNat false=_
  have a3:(fZ h [] nds).getD (ts.getD 0 default).toNat false=_:=a3
  rw[a3,hf0];simp
 ·rw[Sg h1]
  unfold vW
  generalize ofJ (plA ms ms.length) (srN ms ms.length) f f.length=R at hj
  obtain⟨nds,ts⟩:=R
  have hlN:ms.length<=nds.length/\nds.length<=ms.length+f.length:=hj.lenN
  have hlT:ts.length=f.length:=hj.lenT
  have htop:∀i,i<f.length->0<=ts.getD i default/\ts.getD i default<nds.length/\(fZ h [] nds).getD (ts.getD i default).toNat false=De h (f.getD i default):=hj.top
  have htm:∀y∈ts,0<=y/\y<nds.length:=λy hy=>by
   obtain⟨i,hi,rfl⟩:=List.getElem_of_mem hy
   have:=htop i omgz
   rw[List.getD_eq_getElem?_getD,List.getElem?_eq_getElem hi] at this
   exact⟨this.1,this.2.1⟩
  have hnt:NOk ⟨2,0,1,true,[],f.length==0,ts⟩ nds.length:=⟨.inr rfl,⟨Int.le_refl _,(by decide:(0:Int)<12)⟩,λh=>absurd (show(2:Int)=1 from h) (by decide),λ_=>rfl,(by show(0:Int)<=1/\(1:Int)<=100000;decide),λw hw=>(nomatch hw),λh=>absurd rfl h,htm⟩
  have hrl:(fZ h [] nds).length=nds.length:=by rw[zG];simp
  refine⟨⟨by show 0<(nds++[_]).length;simp,by show(nds++[_]).length<=60;simp;omega,zQ hj.ok hnt,⟨by show(0:Int)<=nds.length;omega,by show(nds.length:Int)<(nds++[_]).length;simp;omega⟩⟩,λt ht=>?_,λt ht hk=>?_,λk hk=>?_,?_,by show ms.length<=(nds++[_]).length;simp;omega⟩
  ·rcases List.mem_append.1 ht with h2|h2
   ·exact⟨(hj.nz t h2).1,(hj.nz t h2).2.1,by have:=(hj.nz t h2).2.2;omega⟩
   ·rw[List.mem_singleton.1 h2]
    refine⟨rfl,λh=>?_,by show ts.length<=20;omega⟩
    have:f.length=0:=by simpa using h
    exact List.length_eq_zero_iff.1 (by show ts.length=0;omega)
  ·rcases List.mem_append.1 ht with h2|h2
   ·exact hj.sv t h2 hk
   ·rw[List.mem_singleton.1 h2] at hk;exact absurd (show(2:Int)=1 from hk) (by decide)
  ·have e:(nds++[(⟨2,0,1,true,[],f.length==0,ts⟩:Nd)]).getD k default=nds.getD k default:=by
    rw[List.getD_eq_getElem?_getD,List.getElem?_append_left omgz,<-List.getD_eq_getElem?_getD]
   show((nds++[_]).getD k default).kind=1/\((nds++[_]).getD k default).server=_
   rw[e];exact hj.ky k hk
  ·show(fZ h [] (nds++[_])).getD ((nds.length:Nat):Int).toNat false=_
   rw[nT]
   show(fZ h [] nds++[evN h _ _]).getD _ false=_
   rw[Int.toNat_natCast,List.getD_eq_getElem?_getD,List.getElem?_append_right omgz,hrl,Nat.sub_self]
   show evN h (fZ h [] nds) _=_
   rw[KP rfl rfl]
   show decide ((1:Int)<=(cnt (ts.map λy=>(fZ h [] nds).getD y.toNat false):Nat))=_
   rw[cnt_any,af4 hlT λi hi=>(htop i hi).2.2,List.any_map];rfl
end
section
open Go Go.Sy Go.Bp Go.Dg
attribute [local irreducible] AO AL AC OpT ACall Ends DGo aK Thn Blk Nxt
variable {n N M K S k i m r a b j w u v s q y d c:Nat} {z:Bool} {x:Ex} {t:Nd} {e:Int} {ms pl ks:List Int} {f:List Nat} {nd0 nds:List Nd} {h h':Int->Bool} {A acc:List Bool}
def xoZ(z:Bool)(j:{j:Nat // j=0}):St:=
 ⟨110,0,[(2,.pt 0 0),(3,.val (.int .i64 0)),(5,.pt 1 0),(6,.pt 2 0),(9,.isl true [] 0),(41,.isl z [] 0),(42,.val (.int .i64 0)),(43,.val (.int .i64 0))],
  [(0,some (.cells [.isl true [] 0,.val (.int .i64 0)] 50)),(1,some (.cells [.isl true [] 0,.val (.int .i64 0)] 50)),(2,some (.cells (cI .i64 (plA [] 0)) 93))]⟩
def xoY(z:Bool)(zm:Bool)(k:{k:Nat // k=0}):St:=
 ⟨110,0,[(0,.isl z [] 0),(2,.pt 0 0),(3,.val (.int .i64 0)),(5,.pt 1 0),(6,.pt 2 0),(23,.isl zm [] 0),(24,.val (.int .i64 0)),(25,.val (.int .i64 0))],
  [(0,some (.cells [.isl true [] 0,.val (.int .i64 0)] 50)),(1,some (.cells [.isl true [] 0,.val (.int .i64 0)] 50)),(2,some (.cells (cI .i64 (plA [] 0)) 93))]⟩
theorem YX:ACall Tryz.prog 18 [.isl z [] 0] [] 0 (.tup [.agg (aa.cells (FB [] [])),.val (.int .i64 0)]) []:=by
 have hva:=PLift.up (lW (z:=z) (xs:=[]) (n:=0) rfl omgz)
 have hsu:=PLift.up (mE (z:=z) (xs:=[]) (n:=0) rfl omgz)
 have hmm:=PLift.up (KD (s:=0))
 have e1:oG []=0:=rfl
 have e2:gW [] 0=0:=rfl
 have e3:mem 0 16=[]:=by decide
 have e4:aF 0 16=0:=by decide
 rw[e1,CP] at hva
 rw[e2,CP] at hsu
 rw[e3,e4,fF] at hmm
 have ex:FB [] []=⟨false,[⟨2,0,1,true,[],true,[]⟩],0⟩:=rfl
 rw[ex,jr]
 clear e1 e2 e3 e4 ex
 refine az Tryz.func18 Tryz.ntmps18 rfl ?_
 have zx1:= @iw;have zx2:= @CP;have zx3:=aA;repeat' (first|(refine ah ?_;refine ak [0,1,2] ([0,1,2].length) (xoZ z) (λk=>k.val) (⟨0,rfl⟩) rfl (by unfold xoZ;exact ed) ?_;(rintro⟨k,hk⟩;(simp-dsimp only[xoZ];refine zqS ?_)))|(refine ah ?_;refine ak [0,1,2] ([0,1,2].length) (xoY z true) (λk=>k.val) (⟨0,rfl⟩) rfl (by unfold xoY;exact ed) ?_;(rintro⟨k,hk⟩;(simp-dsimp only[xoY];refine zqS ?_)))|refine zqN ?_|refine eG hva.down ?_|refine eG hsu.down ?_|refine eG hmm.down ?_|refine dm ?_|refine oV ?_|refine oW ?_|refine oZ ?_|refine dn ?_|(refine dw ?_ ?_<;>intro hc<;>try exact zqM))
 all_goals first
  |(((refine Ends.frz 4 ?_;simp-dsimp(disch:=try exact vD) only[push_cast,simprocAttr,Tryz.f18,zK,zi,fF];(repeat refine aI ?_);intro K hK;refine hK _ _ ?_;clear hK K);refine Ends.mk2 zqI [] ?_;simp-dsimp(disch:=try exact vD) only[push_cast,simprocAttr,Tryz.f18,zK,zi,fF];try exact zqF);done)
  |skip
structure ah4(x:Ex):Prop where
 ok:XOk x
 nz:∀t∈x.nodes,t.w=[]/\(t.kz=true->t.k=[])/\t.k.length<=20
theorem ah4.sh(h:ah4 x):kY x:=⟨by have:=h.ok.few;omega,λj hj=>by
 obtain⟨h1,h2,h3⟩:=h.nz _ (bq (d:=default) hj)
 rw[h1];exact⟨by simp,omgz⟩⟩
end
section
open Go Go.Sy Go.Bp Go.Dg
attribute [local irreducible] AO AL AC OpT ACall Ends DGo aK Thn Blk Nxt
variable {n N M K L S k i m r a b j w u v s q y d c:Nat} {z:Bool} {x:Ex} {t:Nd} {e:Int} {f xs B:List Nat}
structure FOk(n:Nat)(f:List Nat):Prop where
 n6:n<=6
 nz:∀y∈f,¬y%65536=0
 few:f.length<=20
 min:ac0 n (fH f) f
theorem FOk.fam(h:FOk n f):oG f=0:=RB h.n6 h.min
theorem YY(hf:∀y∈f,y<2^n):∀j,j<=f.length->gW f j<2^n:=by
 intro j
 induction j with
 |zero=>intro _;exact Nat.two_pow_pos n
 |succ j ih=>
  intro hj
  rw[zO]
  exact Nat.or_lt_two_pow (ih omgz) (hf _ (bq (d:=default) omgz))
theorem FOk.sup(h:FOk n f):gW f f.length<2^n:=YY h.min.lt _ (Nat.le_refl _)
theorem FOk.sub(h:FOk n f)(hm:m∈f)(hi:bit m i=true):bit (gW f f.length) i=true:=by
 obtain⟨k,hk,rfl⟩:=List.getElem_of_mem hm
 refine(Fy f.length).2 ⟨k,hk,?_⟩
 rw[gD hk];exact hi
theorem FOk.msok(h:FOk n f):Bo (mem (gW f f.length) 16) (aF (gW f f.length) 16):=by
 have hs:=h.sup
 have hp:2^n<=2^6:=Nat.pow_le_pow_right omgz h.n6
 generalize gW f f.length=S at hs
 refine⟨rfl,λk hk=>?_,λi k hi hk e=>?_⟩
 ·have hm:(mem S 16).getD k default∈mem S 16:=bq hk
  have hr:=I5 _ hm
  generalize(mem S 16).getD k default=y at*
  obtain⟨i,rfl⟩:=Int.eq_ofNat_of_zero_le hr.1
  have hb:=KO omgz hm
  refine⟨hr.1,?_⟩
  have:i<12:=Decidable.not_not.1 λhc=>by
   have:2^12<=2^i:=Nat.pow_le_pow_right omgz omgz
   rw[Nat.testBit_lt_two_pow omgz] at hb;cases hb
  omega
 ·have hd:=NB (s:=S) 16
  have hi:i<(mem S 16).length:=hi
  have hk:k<(mem S 16).length:=hk
  rw[List.getD_eq_getElem?_getD,List.getElem?_eq_getElem hi,List.getD_eq_getElem?_getD,List.getElem?_eq_getElem hk] at e
  have e:(mem S 16)[i]=(mem S 16)[k]:=e
  rcases Nat.lt_trichotomy i k with h1|h1|h1
  ·exact absurd e (List.pairwise_iff_getElem.1 hd i k hi hk h1)
  ·exact h1
  ·exact absurd e.symm (List.pairwise_iff_getElem.1 hd k i hk hi h1)
theorem FOk.sok(h:FOk n f)(hj:j<f.length):SOk (mem (gW f f.length) 16) (f.getD j default):=by
 have hm:f.getD j default∈f:=bq hj
 have hz:=h.nz _ hm
 have hsu:=λi=>h.sub (i:=i) hm
 have hlt:=h.min.lt _ hm
 have hp:2^n<=2^6:=Nat.pow_le_pow_right omgz h.n6
 generalize f.getD j default=s at*
 constructor
 ·refine Nat.pos_of_ne_zero λh0=>hz ?_
  have he:mem s 16=[]:=List.length_eq_zero_iff.1 h0
  have:s%65536=0%65536:=xH.2 λi hi=>by
   cases hb:bit s i with
   |false=>rw[Fu]
   |true=>
    rw[nk hi] at hb
    have:=Si hi hb
    rw[he] at this;cases this
  omega
 ·intro y hy
  have hr:=I5 y hy
  obtain⟨i,rfl⟩:=Int.eq_ofNat_of_zero_le hr.1
  have h16:i<16:=by omega
  have hb:=KO h16 hy
  have:=hsu i (by rw[nk h16];exact hb)
  rw[nk h16] at this
  obtain⟨k,hk,e⟩:=List.getElem_of_mem (Si h16 this)
  exact⟨k,hk,by rw[List.getD_eq_getElem?_getD,List.getElem?_eq_getElem hk];exact e⟩
def xF(f:List Nat):Ex:=FB (mem (gW f f.length) 16) f
theorem FOk.k12(h:FOk n f):aF (gW f f.length) 16<=12:=by
 have hs:=h.sup
 have hp:2^n<=2^6:=Nat.pow_le_pow_right omgz h.n6
 have:=(uL (gW f f.length) omgz).2
 omega
theorem FOk.xf(h:FOk n f)(g:Int->Bool):XfOk g (mem (gW f f.length) 16) f (xF f):=Sj h.msok h.k12 (λj hj=>h.sok hj) h.few
theorem FOk.fine(h:FOk n f):ah4 (xF f):=⟨(h.xf λ_=>false).ok,(h.xf λ_=>false).nz⟩
theorem FOk.xof(h:FOk n f):ACall Tryz.prog 18 [.isl z (cX f) f.length] [] 0 (.tup [.agg (aa.cells (xF f)),.val (.int .i64 0)]) []:=by
 rcases Nat.eq_zero_or_pos f.length with h0|h0
 ·have e:=List.length_eq_zero_iff.1 h0
  subst e
  exact YX
 ·have hs:=h.sok h0
  have hK:0<aF (gW f f.length) 16:=by
   obtain⟨k,hk,_⟩:=hs.mem ((mem (f.getD 0 default) 16).getD 0 default) (bq hs.pos)
   exact Nat.lt_of_le_of_lt (Nat.zero_le _) hk
  refine af1 rfl h0 h.few h.fam rfl rfl rfl hK h.k12 h.msok.rng λj hj=>?_
  have hs:=h.sok hj
  refine⟨hs.pos,λq hq=>?_⟩
  obtain⟨k,hk,e⟩:=hs.mem _ (bq (d:=default) hq)
  have:=h.msok.rng k hk
  rw[e] at this;exact this
end
set_option maxHeartbeats 2000000
section
open Go Go.Sy Go.Bp
attribute [local irreducible] AO AL AC OpT ACall Ends DGo aK Thn Blk Nxt
variable {K:Nat} {kids:List Ex} {need:Int} {e:TypeId}
theorem age(hK:kids.length=K):(cR kids).take (K*2)=cR kids:=List.take_of_length_le (by rw[dF];omega)
end
set_option maxHeartbeats 4000000
section
open Go Go.Sy Go.Bp Go.Dg
attribute [local irreducible] AO AL AC OpT ACall Ends DGo aK Thn Blk Nxt
variable {n N M k i m r a b j w u v s q y d:Nat} {z:Bool} {e:Int} {p:Nat->Bool} {xs qs f:List Nat}
attribute [local irreducible] aF mem iZ pick fd sbL iq mB mBl fH goF
def tlO(x:Int)(_:Nat):List (Nat×Option aC):=[(0,some (.cells [.val (.int .u16 x)] 30)),(1,some (.cells [.val (.int .i64 0)] 31))]
def tlS(xs:List Nat)(j:Nat):List (Nat×Option aC):=[(0,some (.cells [.val (.int .u16 (U (xs.getD (j-1) 0)))] 30)),(1,some (.cells [.val (.int .i64 0)] 31))]
def tlR(z:Bool)(f:List Nat)(n:Nat)(p:Nat->Bool)(xs:List Nat)(ca cb:Code):RLoop:=
 ⟨19,2,[(1,.ipt [.isl z (cX f) n] 0),(2,.pt 0 0),(3,.pt 1 0)],tlO 0,tlS xs,2,2,goF (λj=>p (xs.getD j 0)),yX xs,.ret,14,ca,cb⟩
theorem OC(hl:f.length=n)(hn:n<=400)(he0:oG f=0)(hs:gW f n=s)(hs6:s<64)(hx':iq s=xs)(hp:BM f=p)(hq:q<xs.length)(h1:p (xs.getD q 0)=true)(h2:∀i,i<q->p (xs.getD i 0)=false):
 ACall Tryz.prog 9 [.isl z (cX f) n] [] 0 (.tup [.val (.int .u16 (U (xs.getD q 0))),.val (.int .i64 0)]) []:=by
 have hva:=PLift.up (lW (z:=z) hl hn)
 rw[he0] at hva
 have hsv:=PLift.up (mE (z:=z) hl omgz)
 rw[hs] at hsv
 have hho:∀q,ACall Tryz.prog 36 [.isl z (cX f) n,.val (.int .u16 (U q))] [] 0 (.val (.bool (p q))) []:=λq=>by
  rw[<-hp];exact YJ hl omgz
 obtain⟨F,hF⟩:∃F,(λj=>p (xs.getD j 0))=F:=⟨_,rfl⟩
 have hF2:∀j,p (xs.getD j 0)=F j:=λj=>by rw[<-hF]
 have hit:∀H:jG,H.P=Tryz.prog->H.xs=yX xs->H.go=goF F->∃r,ACall Tryz.prog 78 [.yl 0,bxS s] [.tr H 0] 1 r [.tr H (fd (goF F) 0 xs.length).1]:=λH e1 e2 e3=>by
  have h:=Fv (H:=H) (s:=s) e1 (Nat.lt_of_lt_of_le (uL s hs6).2 (by decide)) (by rw[e3];exact Mh (λi hi=>absurd hi omgz)) (λi hi=>by rw[e2,<-hx'];unfold yX;rw[if_pos hi])
  rw[e3,hx'] at h
  exact⟨_,h⟩
 have hfd:=fdF (F:=F) (n:=xs.length) (k:=0) (Mh (λi hi=>absurd hi omgz))
 have hjq:jx F xs.length=some q:=by
  cases e:jx F xs.length with
  |none=>have:=akd e q hq;rw[<-hF2,h1] at this;cases this
  |some j=>
   obtain⟨a1,a2,a3⟩:=abW e
   rcases Nat.lt_trichotomy j q with h|h|h
   ·have:=h2 j h;rw[hF2,a2] at this;cases this
   ·rw[h]
   ·have:=a3 q h;rw[<-hF2,h1] at this;cases this
 rw[show jxG F 0 xs.length=some q from hjq] at hfd
 clear hp he0 hl hjq
 have hff:=ae
 refine az Tryz.func9 Tryz.ntmps9 rfl ?_
 repeat' (first|((first|refine bT (r:=4) 0 ?_|refine bS (r:=4) 0 ?_);simp-dsimp(disch:=try exact vD) only[push_cast,simprocAttr];(repeat refine aI ?_);intro K hK;refine hK _ _ ?_;clear hK K)|apply dU|apply aJ|((first|refine ay rfl (λK hK=>?_)|refine au (λK hK=>?_));(first|refine ai (f:=33) [] 0 false ?_|refine ai (f:=35) [] 0 false ?_|refine ai (f:=34) [] 0 false ?_);simp-dsimp(disch:=try exact vD) only[push_cast,simprocAttr];(repeat refine aI ?_);intro G hG;refine hG _ _ ?_;clear hG G;(first|refine⟨_,_,hva.down,?_⟩|refine⟨_,_,hsv.down,?_⟩|refine⟨_,_,KE (s:=s),?_⟩);simp-dsimp(disch:=try exact vD) only[push_cast,simprocAttr];(repeat refine aI ?_);apply hK;clear hK K)|((first|refine ay rfl (λK hK=>?_)|refine au (λK hK=>?_));(first|apply cZ|apply aX|apply dz|apply aR|apply iD|apply eT|apply dO|apply dC|apply bQ|apply bF|apply eH);simp-dsimp(disch:=try exact vD) only[push_cast,simprocAttr];(repeat refine aI ?_);apply hK;clear hK K)|((first|refine aN rfl rfl (λK1 K2 h1 h2=>?_) rfl|refine aL (λK1 K2 h1 h2=>?_));simp-dsimp(disch:=try exact vD) only[push_cast,simprocAttr];(first|(refine⟨λhc=>?_,λhc=>?_⟩<;>first|(exfalso;omega)|(exfalso;contradiction)|refine h1 ?_|refine h2 ?_)|refine h1 ?_|refine h2 ?_);all_goals clear h1 h2 K1 K2)|apply dV|apply aT|apply cu|apply bG|apply aU|apply cK|apply bH|(refine bu rfl ?_)|apply bI|apply bZ|apply bY|apply dS)
 refine E9 (tlR z f n p xs _ _) [1,2] (fd (goF F) 0 xs.length).1 rfl (by simp[bnd]) (by kernel_rfl) (by rw[<-hF] at hit⊢;exact hit) (by unfold tlR tlO;dsimp only;refine Sub.mk2 ?_;(simp-dsimp(disch:=try exact vD) only[push_cast,simprocAttr,])) rfl (Mh (λi hi=>absurd hi omgz)) (Nat.zero_le _) (λj hj=>by have e:j=0\/j=1:=(by have:j<2:=hj;omega);rcases e with e|e<;>subst e<;>rfl) (by simp[tlR,bnd,Ik]) (by show 14<19;decide) (.inl rfl) (λj x hj hx=>?_) (λhg=>?_) (λhg=>?_)
 ·obtain⟨hjl,rfl⟩:=QS hx
  have hj:goF F j=true:=by rw[<-hF];exact hj
  have hF3:=hF2 j
  have hac:=PLift.up (hho (xs.getD j 0))
  rw[hF3] at hac
  have hgn:F j=false->goF F (j+1)=true:=λe=>Mh (λi hi=>by
   by_cases ei:i=j
   ·rw[ei];exact e
   ·exact JW hj i omgz)
  have hgs:F j=true->goF F (j+1)=false:=λe=>by
   cases hh:goF F (j+1) with
   |false=>rfl
   |true=>have:=JW hh j omgz;rw[e] at this;cases this
  clear hx hho hit
  dsimp only[tlR,tlO]
  rcases Bool.eq_false_or_eq_true (F j) with hff|hff
  all_goals repeat' (first|(refine Mid.mk rfl ?_;dsimp only)|(refine oz [0,1] ⟨(by rw[hF];exact hgn hff),rfl⟩ ?_;(try dsimp only);unfold tlO;(try simp only[List.cons_append,List.nil_append]);refine Sub.mk2 ?_;(simp-dsimp(disch:=try exact vD) only[push_cast,simprocAttr,hff,Nat.add_sub_cancel]);(repeat refine aI ?_);first|done|exact vI)|(refine Xz [0,1] ⟨rfl,(by rw[hF];exact hgs hff),rfl⟩ ?_;(try dsimp only);unfold tlS;(try simp only[List.cons_append,List.nil_append]);refine Sub.mk2 ?_;(simp-dsimp(disch:=try exact vD) only[push_cast,simprocAttr,hff,Nat.add_sub_cancel]);(repeat refine aI ?_);first|done|exact vI)|apply dU|apply aJ|((first|refine ay rfl (λK hK=>?_)|refine au (λK hK=>?_));(first|refine ai (f:=36) [] 0 false ?_);simp-dsimp(disch:=try exact vD) only[push_cast,simprocAttr,hff,Nat.add_sub_cancel];(repeat refine aI ?_);intro G hG;refine hG _ _ ?_;clear hG G;(first|refine⟨_,_,hac.down,?_⟩);simp-dsimp(disch:=try exact vD) only[push_cast,simprocAttr,hff,Nat.add_sub_cancel];(repeat refine aI ?_);apply hK;clear hK K)|((first|refine ay rfl (λK hK=>?_)|refine au (λK hK=>?_));(first|apply cZ|apply aX|apply dz|apply aR|apply iD|apply eT|apply dO|apply dC|apply bQ|apply bF|apply eH);simp-dsimp(disch:=try exact vD) only[push_cast,simprocAttr,hff,Nat.add_sub_cancel];(repeat refine aI ?_);apply hK;clear hK K)|((first|refine aN rfl rfl (λK1 K2 h1 h2=>?_) rfl|refine aL (λK1 K2 h1 h2=>?_));simp-dsimp(disch:=try exact vD) only[push_cast,simprocAttr,hff,Nat.add_sub_cancel];(first|(refine⟨λhc=>?_,λhc=>?_⟩<;>first|(exfalso;omega)|(exfalso;contradiction)|refine h1 ?_|refine h2 ?_)|refine h1 ?_|refine h2 ?_);all_goals clear h1 h2 K1 K2)|apply dV|apply aT|apply cu|apply bG|apply aU|apply cK|apply bH|(refine bu rfl ?_)|apply bI|apply bZ|apply bY|apply dS)
 ·have hg:goF F (fd (goF F) 0 xs.length).1=true:=by rw[<-hF] at hg⊢;exact hg
  rw[hfd] at hg;dsimp only at hg
  have:=JW hg q omgz
  rw[<-hF2,h1] at this;cases this
 ·rw[hfd]
  dsimp only[tlR,tlS]
  repeat' (first|apply dU|apply aJ|((first|refine ay rfl (λK hK=>?_)|refine au (λK hK=>?_));(first|apply cZ|apply aX|apply dz|apply aR|apply iD|apply eT|apply dO|apply dC|apply bQ|apply bF|apply eH);simp-dsimp(disch:=try exact vD) only[push_cast,simprocAttr];(repeat refine aI ?_);apply hK;clear hK K)|((first|refine aN rfl rfl (λK1 K2 h1 h2=>?_) rfl|refine aL (λK1 K2 h1 h2=>?_));simp-dsimp(disch:=try exact vD) only[push_cast,simprocAttr];(first|(refine⟨λhc=>?_,λhc=>?_⟩<;>first|(exfalso;omega)|(exfalso;contradiction)|refine h1 ?_|refine h2 ?_)|refine h1 ?_|refine h2 ?_);all_goals clear h1 h2 K1 K2)|apply dV|apply aT|apply cu|apply bG|apply aU|apply cK|apply bH|(refine bu rfl ?_)|apply bI|apply bZ|apply bY|apply dS)
  exact fu [] @Nat.add_sub_cancel
theorem U6(h0:0<n)(hb:n<=400)(hc:0<aF s 16)(hva:ACall Tryz.prog 33 [.isl z (cX f) n] [] 0 (.val (.int .i64 0)) [])(hle:ACall Tryz.prog 9 [.isl z (cX f) n] [] 0 (.tup [.val (.int .u16 (U s)),.val (.int .i64 0)]) []):
 ACall Tryz.prog 8 [.isl z (cX f) n] [] 0 (.tup [.val (.int .i64 ((aF s 16-1:Nat):Int)),.val (.int .i64 0)]) []:=by
 have hva:=PLift.up hva;have hle:=PLift.up hle
 have hml:=ni (s:=s) (j:=16)
 have zx1:¬n=0:=by omega
 refine az Tryz.func8 Tryz.ntmps8 rfl ?_
 have zx2:=aA;have zx3:=aA;repeat' (first|refine zqN ?_|refine eG hva.down ?_|refine eG hle.down ?_|refine eG (CZ (s:=s)) ?_|refine dm ?_|refine dn ?_|(refine dw ?_ ?_<;>intro hc<;>try exact zqM))
 all_goals exact aB []
end
