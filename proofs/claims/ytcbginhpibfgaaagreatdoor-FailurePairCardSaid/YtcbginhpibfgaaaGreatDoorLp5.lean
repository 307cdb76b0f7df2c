/- Lp5. No condition. -/
import Derived.Test.YtcbginhpibfgaaaGreatDoorLp2
set_option linter.all false
set_option maxHeartbeats 4000000
set_option maxRecDepth 20000
namespace Go.Proofs.YtcbginhpibfgaaaGreatDoor
open Go Go.Sy Go.Bp Go.Lm
attribute [local irreducible] AO AL AC OpT ACall Ends DGo bK Thn Blk Nxt
variable {n N M k i m j:Nat} {z z' neg:Bool} {l a b:List Int} {v x y:Int} {xs:List IV} {X:IV}
def D300(v:Int):Prop:=v.natAbs<10^300
theorem EU{a b s t u:Nat}(h:a<10^s)(h2:b<10^t)(e:s+t=u):a*b<10^u:=by
 subst e;rw[Nat.pow_add];exact Nat.mul_lt_mul'' h h2
theorem D300.few(h:D300 v):(lb v.natAbs).length≤34:=ER h
theorem JS:R32 (lb n):=fun y hy=>by have:=lim_lb y hy;omega
theorem DC(h:D300 v):ACall Tryz.prog 128 [.agg (aa.cells (iV z v))] [] 0 (.val (.bool true)) []:=by
 have:=yG (X:=iV z v) rfl (by show(lb v.natAbs).length<_;have:=h.few;omega) JS
 rw[IG h] at this;exact this
def ckI(z:Bool)(xs:List IV)(n:Nat)(j:{j:Nat // j≤n}):St:=
 ⟨15,0,[(2,.val (.int .i64 0)),(5,.isl z (cR xs) n),(6,.val (.int .i64 n)),(7,.val (.int .i64 j.val))],[]⟩
theorem XD(hl:xs.length=n)(hn:n<2^47)(hv:∀j,j<n→∃z v,xs.getD j default=iV z v∧D300 v):ACall Tryz.prog 133 [.isl z (cR xs) n] [] 0 (.val (.int .i64 0)) []:=by
 have hvv:∀j,j<n→PLift (ACall Tryz.prog 128 [.agg (aa.cells (xs.getD j default))] [] 0 (.val (.bool true)) []):=fun j hj=>⟨by
  obtain⟨z,v,e,h⟩:=hv j hj
  rw[e];exact DC h⟩
 clear hv
 refine ak Tryz.func133 Tryz.ntmps133 rfl ?_
 repeat' (first|(refine ai ?_;refine au [] ([].length) (ckI z xs n) (fun j=>n-j.val) (⟨0,by omega⟩) rfl (by unfold ckI;exact mO) ?_;(rintro⟨j,hj⟩;(simp-dsimp only[ckI];refine zqS ?_)))|(refine ax ?_;refine Nxt.mk [] (⟨j+1,by omega⟩) rfl (by unfold ckI;exact mO) zqO)|refine zqN ?_|refine az (hvv j (by omega)).down ?_|refine aK ?_|refine aL ?_|(refine aM ?_ ?_<;>intro hc<;>try exact zqM))
 all_goals first
  |((refine Ends.mk2 zqI [] ?_;simp-dsimp(disch:=try exact vD) only[push_cast,simprocAttr,Tryz.f133];try exact zqF);done)
  |skip
theorem yH(h:D300 x)(h2:D300 y):ACall Tryz.prog 133 [.isl false (aa.cells (iV z x)++aa.cells (iV z' y)) 2] [] 0 (.val (.int .i64 0)) []:=by
 have:=XD (z:=false) (xs:=[iV z x,iV z' y]) (n:=2) rfl (by decide) (fun j hj=>by
  have:j=0∨j=1:=by omega
  rcases this with rfl|rfl
  ·exact⟨z,x,rfl,h⟩
  ·exact⟨z',y,rfl,h2⟩)
 rw[kV,VI] at this;exact this
theorem EW(h:D300 v):ACall Tryz.prog 129 [.agg (aa.cells (iV z v))] [] 0 (.val (.int .i64 (sgn v))) []:=by
 have hv:=PLift.up (DC (z:=z) h)
 have hs:=PLift.up (JQ (z:=z) (v:=v))
 unfold iV at*
 rw[bC] at*
 generalize lb v.natAbs=L at*
 generalize decide (v<0)=ng at*
 refine ak Tryz.func129 Tryz.ntmps129 rfl ?_
 repeat' (first|refine zqN ?_|refine az hv.down ?_|refine az hs.down ?_|refine aK ?_|refine aL ?_|(refine aM ?_ ?_<;>intro hc<;>try exact zqM))
 all_goals(refine Ends.mk2 zqI [] ?_;simp-dsimp(disch:=try exact vD) only[push_cast,simprocAttr,Tryz.f129];try exact zqF)
def sg(neg:Bool)(v:Int):Int:=if neg=true then-v else v
theorem Ou(hi:Lim l)(hl:l.length=n)(hn:n<2^47)(hb:¬D300 (val l)):ACall Tryz.prog 136 [.val (.bool neg),.isl z (cI .u32 l) n] [] 0 (.tup [.agg (aa.cells (iC 0)),.val (.int .i64 3)]) []:=by
 have ht:=PLift.up (mD (z:=z) hl hn)
 have hle:=vg (l:=l) (j:=n)
 have htl:(l.take (trN l n)).length=trN l n:=by rw[List.length_take];omega
 have hd:=PLift.up (yF (z:=z) htl (by omega) hi.take (Oi (by omega)))
 have hg:¬dg9 (l.take (trN l n))≤300:=by
  rw[←hl,jK hi]
  intro hc
  have:=EQ.1 hc
  have hv:=(bJ hi).1
  exact hb (by unfold D300;omega)
 have e:iC 0=⟨true,false,[]⟩:=rfl
 rw[e,bC]
 generalize dg9 (l.take (trN l n))=dd at*
 generalize l.take (trN l n)=L at*
 generalize trN l n=q at*
 clear e
 refine ak Tryz.func136 Tryz.ntmps136 rfl ?_
 repeat' (first|refine zqN ?_|refine az ht.down ?_|refine az hd.down ?_|refine aK ?_|refine aL ?_|(refine aM ?_ ?_<;>intro hc<;>try exact zqM))
 all_goals first
  |((refine Ends.mk2 zqI [] ?_;simp-dsimp(disch:=try exact vD) only[push_cast,simprocAttr,Tryz.f136,lG];try exact zqF);done)
  |skip
theorem SN(hi:Lim l)(hl:l.length=n)(hn:n<2^47)(hz:z=true→l=[])(hb:D300 (val l)):ACall Tryz.prog 136 [.val (.bool neg),.isl z (cI .u32 l) n] [] 0 (.tup [.agg (aa.cells (iC (sg neg (val l)))),.val (.int .i64 0)]) []:=by
 have ht:=PLift.up (mD (z:=z) hl hn)
 have hle:=vg (l:=l) (j:=n)
 have htl:(l.take (trN l n)).length=trN l n:=by rw[List.length_take];omega
 have hd:=PLift.up (yF (z:=z) htl (by omega) hi.take (Oi (by omega)))
 have hv:=(bJ hi).1
 have hte:l.take (trN l n)=lb (val l).toNat:=by rw[←hl];exact jK hi
 have hg:dg9 (l.take (trN l n))≤300:=by
  rw[hte]
  exact EQ.2 (by unfold D300 at hb;omega)
 have hab:(sg neg (val l)).natAbs=(val l).toNat:=by unfold sg;split<;>omega
 by_cases h0:val l=0
 ·have e:iC (sg neg (val l))=⟨true,false,[]⟩:=by rw[h0];unfold sg;split<;>rfl
  rw[e,bC]
  have hq:trN l n=0:=by
   have h2:(lb (val l).toNat).length=0:=by rw[h0];rfl
   rw[←hte,htl] at h2;exact h2
  generalize dg9 (l.take (trN l n))=dd at*
  generalize l.take (trN l n)=L at*
  generalize trN l n=q at*
  subst hq
  clear e hte
  refine ak Tryz.func136 Tryz.ntmps136 rfl ?_
  repeat' (first|refine zqN ?_|refine az ht.down ?_|refine az hd.down ?_|refine aK ?_|refine aL ?_|(refine aM ?_ ?_<;>intro hc<;>try exact zqM))
  all_goals first
   |((refine Ends.mk2 zqI [] ?_;simp-dsimp(disch:=try exact vD) only[push_cast,simprocAttr,Tryz.f136,lG];try exact zqF);done)
   |skip
 ·have hzf:z=false:=by
   cases z with
   |false=>rfl
   |true=>exact absurd (by rw[hz rfl];rfl) h0
  subst hzf
  have hq:0<trN l n:=by
   refine Nat.pos_of_ne_zero fun hc=>h0 ?_
   have:=Qk (l:=l) (j:=n)
   rw[hc,kr,dh (by omega)] at this
   exact this.symm
  have e:iC (sg neg (val l))=⟨false,neg,l.take (trN l n)⟩:=by
   unfold iC iV
   rw[hab,hte]
   have e1:(sg neg (val l)==0)=false:=by unfold sg;split<;>simp<;>omega
   have e2:decide (sg neg (val l)<0)=neg:=by
    unfold sg
    cases neg with
    |true=>rw[if_pos rfl];exact decide_eq_true (by omega)
    |false=>rw[if_neg (by simp)];exact decide_eq_false (by omega)
   rw[e1,e2]
  rw[e,bC]
  dsimp only
  rw[htl]
  generalize dg9 (l.take (trN l n))=dd at*
  generalize l.take (trN l n)=L at*
  generalize trN l n=q at*
  clear e hte
  refine ak Tryz.func136 Tryz.ntmps136 rfl ?_
  repeat' (first|refine zqN ?_|refine az ht.down ?_|refine az hd.down ?_|refine aK ?_|refine aL ?_|(refine aM ?_ ?_<;>intro hc<;>try exact zqM))
  all_goals first
   |((refine Ends.mk2 zqI [] ?_;simp-dsimp(disch:=try exact vD) only[push_cast,simprocAttr,Tryz.f136];try exact zqF);done)
   |skip
def gp(x y:Int):Int:=if x<y then-1 else if y<x then 1 else 0
theorem wM:oh (lb x.natAbs) (lb y.natAbs)=gp x.natAbs y.natAbs:=by unfold oh gp;rw[aU,aU]
theorem XE(h:sgn x<sgn y):gp x y= -1:=by
 unfold sgn at h;unfold gp
 rw[if_pos]
 repeat' split at h<;>try omega
theorem XG(h:sgn y<sgn x):gp x y=1:=by
 unfold sgn at h;unfold gp
 rw[if_neg,if_pos]
 all_goals repeat' split at h<;>try omega
theorem JU: -1≤sgn x∧sgn x≤1:=by unfold sgn;repeat' split<;>try omega
theorem L8: -1≤gp x y∧gp x y≤1:=by unfold gp;repeat' split<;>try omega
theorem XH{nx ny:Bool} {Lx Ly:List Int} {c1 c2 sx sy:Int}
 (hck:ACall Tryz.prog 133 [.isl false [.val (.bool nx),.isl z (cI .u32 Lx) Lx.length,.val (.bool ny),.isl z' (cI .u32 Ly) Ly.length] 2] [] 0 (.val (.int .i64 0)) [])
 (hs1:ACall Tryz.prog 134 [.agg [.val (.bool nx),.isl z (cI .u32 Lx) Lx.length]] [] 0 (.val (.int .i64 sx)) [])
 (hs2:ACall Tryz.prog 134 [.agg [.val (.bool ny),.isl z' (cI .u32 Ly) Ly.length]] [] 0 (.val (.int .i64 sy)) [])
 (hcm:ACall Tryz.prog 135 [.isl z (cI .u32 Lx) Lx.length,.isl z' (cI .u32 Ly) Ly.length] [] 0 (.val (.int .i64 c1)) [])
 (r1: -1≤sx∧sx≤1) (r2: -1≤sy∧sy≤1) (r3: -1≤c1∧c1≤1) (e1:sx<sy→c2= -1) (e2:sy<sx→c2=1) (e3:sx=sy→nx=true→c2= -c1) (e4:sx=sy→nx=false→c2=c1):
 ACall Tryz.prog 102 [.agg [.val (.bool nx),.isl z (cI .u32 Lx) Lx.length],.agg [.val (.bool ny),.isl z' (cI .u32 Ly) Ly.length]] [] 0 (.val (.int .i64 c2)) []:=by
 have hck:=PLift.up hck;have hs1:=PLift.up hs1;have hs2:=PLift.up hs2;have hcm:=PLift.up hcm
 have hnx:=ae;have hne:=ae;have hlt:=ae
 rcases Decidable.em (sx=sy) with hne|hne
 ·subst hne
  rcases Bool.eq_false_or_eq_true nx with hnx|hnx
  ·rw[e3 rfl hnx]
   subst hnx
   refine ak Tryz.func102 Tryz.ntmps102 rfl ?_
   repeat' (first|apply dG|apply aF|((first|refine ay rfl (fun K hK=>?_)|refine aj (fun K hK=>?_)|refine aA (fun K hK=>?_));(first|refine ah (f:=133) [] 0 true ?_|refine ah (f:=134) (dst:=some 14) [] 0 false ?_|refine ah (f:=134) (dst:=some 16) [] 0 false ?_|refine ah (f:=135) [] 0 false ?_);simp-dsimp(disch:=try exact vD) only[push_cast,simprocAttr];(repeat refine aI ?_);intro G hG;refine hG _ _ ?_;clear hG G;(first|refine⟨_,_,hck.down,?_⟩|refine⟨_,_,hs1.down,?_⟩|refine⟨_,_,hs2.down,?_⟩|refine⟨_,_,hcm.down,?_⟩);simp-dsimp(disch:=try exact vD) only[push_cast,simprocAttr];(repeat refine aI ?_);apply hK;clear hK K)|((first|refine ay rfl (fun K hK=>?_)|refine aj (fun K hK=>?_)|refine aA (fun K hK=>?_));(first|apply cO|apply aZ|apply df|apply aT|apply aW|apply gJ|apply gK|apply gm|apply aX|apply dP|apply dm|apply bU|apply dY);simp-dsimp(disch:=try exact vD) only[push_cast,simprocAttr];(repeat refine aI ?_);apply hK;clear hK K)|((first|refine aQ rfl rfl (fun K1 K2 h1 h2=>?_) rfl|refine aJ (fun K1 K2 h1 h2=>?_)|refine bL rfl rfl (fun K1 K2 h1 h2=>?_));simp-dsimp(disch:=try exact vD) only[push_cast,simprocAttr];(first|(refine⟨fun hc=>?_,fun hc=>?_⟩<;>first|(exfalso;omega)|(exfalso;contradiction)|refine h1 ?_|refine h2 ?_)|refine h1 ?_|refine h2 ?_);all_goals clear h1 h2 K1 K2)|(refine aV (id:=3) (by kernel_rfl) [⟨0,[],[15],[],[],0⟩,⟨1,[0],[15],[],[],0⟩,⟨2,[],[13,14],[],[],0⟩,⟨3,[0,1,2],[],[],[],0⟩,⟨4,[0,1,2,3],[],[],[],0⟩,⟨5,[0,1,2,3,4],[],[],[],0⟩] (by kernel_rfl) (by kernel_rfl) (by kernel_rfl) ?_)|((first|refine dW (by kernel_rfl) (fun K hK=>?_)|refine gy (by kernel_rfl) (fun K hK=>?_));simp only[↓Go.Sy.dz,↓Go.Sy.dA,↓Go.Sy.dU,↓Go.Sy.dD,↓Go.Sy.dV,↓Go.Sy.cZ,↓Go.Sy.dE,push_cast,Nat.reduceLeDiff,Nat.reduceSub,Nat.reduceBEq,Nat.reduceEqDiff,Nat.reduceAdd,Nat.reduceLT,↓reduceIte,reduceCtorEq];refine hK _ _ _ ?_;clear hK K)|apply jl|apply dH|apply aR|apply bX|apply bz|apply aS|apply bY|apply bA|(refine aY rfl ?_)|apply bB|apply bW|apply bV|apply dF)
   all_goals first
    |((refine Ends.mk2 (by first|exact .inr rfl|exact .inl rfl) [] ?_;simp-dsimp(disch:=try exact vD) only[push_cast,simprocAttr,Tryz.f102];try exact zqF);done)
    |skip
  ·rw[e4 rfl hnx]
   subst hnx
   refine ak Tryz.func102 Tryz.ntmps102 rfl ?_
   repeat' (first|apply dG|apply aF|((first|refine ay rfl (fun K hK=>?_)|refine aj (fun K hK=>?_)|refine aA (fun K hK=>?_));(first|refine ah (f:=133) [] 0 true ?_|refine ah (f:=134) (dst:=some 14) [] 0 false ?_|refine ah (f:=134) (dst:=some 16) [] 0 false ?_|refine ah (f:=135) [] 0 false ?_);simp-dsimp(disch:=try exact vD) only[push_cast,simprocAttr];(repeat refine aI ?_);intro G hG;refine hG _ _ ?_;clear hG G;(first|refine⟨_,_,hck.down,?_⟩|refine⟨_,_,hs1.down,?_⟩|refine⟨_,_,hs2.down,?_⟩|refine⟨_,_,hcm.down,?_⟩);simp-dsimp(disch:=try exact vD) only[push_cast,simprocAttr];(repeat refine aI ?_);apply hK;clear hK K)|((first|refine ay rfl (fun K hK=>?_)|refine aj (fun K hK=>?_)|refine aA (fun K hK=>?_));(first|apply cO|apply aZ|apply df|apply aT|apply aW|apply gJ|apply gK|apply gm|apply aX|apply dP|apply dm|apply bU|apply dY);simp-dsimp(disch:=try exact vD) only[push_cast,simprocAttr];(repeat refine aI ?_);apply hK;clear hK K)|((first|refine aQ rfl rfl (fun K1 K2 h1 h2=>?_) rfl|refine aJ (fun K1 K2 h1 h2=>?_)|refine bL rfl rfl (fun K1 K2 h1 h2=>?_));simp-dsimp(disch:=try exact vD) only[push_cast,simprocAttr];(first|(refine⟨fun hc=>?_,fun hc=>?_⟩<;>first|(exfalso;omega)|(exfalso;contradiction)|refine h1 ?_|refine h2 ?_)|refine h1 ?_|refine h2 ?_);all_goals clear h1 h2 K1 K2)|(refine aV (id:=3) (by kernel_rfl) [⟨0,[],[15],[],[],0⟩,⟨1,[0],[15],[],[],0⟩,⟨2,[],[13,14],[],[],0⟩,⟨3,[0,1,2],[],[],[],0⟩,⟨4,[0,1,2,3],[],[],[],0⟩,⟨5,[0,1,2,3,4],[],[],[],0⟩] (by kernel_rfl) (by kernel_rfl) (by kernel_rfl) ?_)|((first|refine dW (by kernel_rfl) (fun K hK=>?_)|refine gy (by kernel_rfl) (fun K hK=>?_));simp only[↓Go.Sy.dz,↓Go.Sy.dA,↓Go.Sy.dU,↓Go.Sy.dD,↓Go.Sy.dV,↓Go.Sy.cZ,↓Go.Sy.dE,push_cast,Nat.reduceLeDiff,Nat.reduceSub,Nat.reduceBEq,Nat.reduceEqDiff,Nat.reduceAdd,Nat.reduceLT,↓reduceIte,reduceCtorEq];refine hK _ _ _ ?_;clear hK K)|apply jl|apply dH|apply aR|apply bX|apply bz|apply aS|apply bY|apply bA|(refine aY rfl ?_)|apply bB|apply bW|apply bV|apply dF)
   all_goals first
    |((refine Ends.mk2 (by first|exact .inr rfl|exact .inl rfl) [] ?_;simp-dsimp(disch:=try exact vD) only[push_cast,simprocAttr,Tryz.f102];try exact zqF);done)
    |skip
 ·rcases Decidable.em (sx<sy) with hlt|hlt
  ·rw[e1 hlt]
   refine ak Tryz.func102 Tryz.ntmps102 rfl ?_
   repeat' (first|apply dG|apply aF|((first|refine ay rfl (fun K hK=>?_)|refine aj (fun K hK=>?_)|refine aA (fun K hK=>?_));(first|refine ah (f:=133) [] 0 true ?_|refine ah (f:=134) (dst:=some 14) [] 0 false ?_|refine ah (f:=134) (dst:=some 16) [] 0 false ?_);simp-dsimp(disch:=try exact vD) only[push_cast,simprocAttr,hne,hlt];(repeat refine aI ?_);intro G hG;refine hG _ _ ?_;clear hG G;(first|refine⟨_,_,hck.down,?_⟩|refine⟨_,_,hs1.down,?_⟩|refine⟨_,_,hs2.down,?_⟩);simp-dsimp(disch:=try exact vD) only[push_cast,simprocAttr,hne,hlt];(repeat refine aI ?_);apply hK;clear hK K)|((first|refine ay rfl (fun K hK=>?_)|refine aj (fun K hK=>?_)|refine aA (fun K hK=>?_));(first|apply cO|apply aZ|apply df|apply aT|apply aW|apply gJ|apply gK|apply gm|apply aX|apply dP|apply dm|apply bU|apply dY);simp-dsimp(disch:=try exact vD) only[push_cast,simprocAttr,hne,hlt];(repeat refine aI ?_);apply hK;clear hK K)|((first|refine aQ rfl rfl (fun K1 K2 h1 h2=>?_) rfl|refine aJ (fun K1 K2 h1 h2=>?_)|refine bL rfl rfl (fun K1 K2 h1 h2=>?_));simp-dsimp(disch:=try exact vD) only[push_cast,simprocAttr,hne,hlt];(first|(refine⟨fun hc=>?_,fun hc=>?_⟩<;>first|(exfalso;omega)|(exfalso;contradiction)|refine h1 ?_|refine h2 ?_)|refine h1 ?_|refine h2 ?_);all_goals clear h1 h2 K1 K2)|(refine aV (id:=3) (by kernel_rfl) [⟨0,[],[15],[],[],0⟩,⟨1,[0],[15],[],[],0⟩,⟨2,[],[13,14],[],[],0⟩,⟨3,[0,1,2],[],[],[],0⟩,⟨4,[0,1,2,3],[],[],[],0⟩,⟨5,[0,1,2,3,4],[],[],[],0⟩] (by kernel_rfl) (by kernel_rfl) (by kernel_rfl) ?_)|((first|refine dW (by kernel_rfl) (fun K hK=>?_)|refine gy (by kernel_rfl) (fun K hK=>?_));simp only[↓Go.Sy.dz,↓Go.Sy.dA,↓Go.Sy.dU,↓Go.Sy.dD,↓Go.Sy.dV,↓Go.Sy.cZ,↓Go.Sy.dE,push_cast,Nat.reduceLeDiff,Nat.reduceSub,Nat.reduceBEq,Nat.reduceEqDiff,Nat.reduceAdd,Nat.reduceLT,↓reduceIte,reduceCtorEq];refine hK _ _ _ ?_;clear hK K)|apply jl|apply dH|apply aR|apply bX|apply bz|apply aS|apply bY|apply bA|(refine aY rfl ?_)|apply bB|apply bW|apply bV|apply dF)
   all_goals first
    |((refine Ends.mk2 (by first|exact .inr rfl|exact .inl rfl) [] ?_;simp-dsimp(disch:=try exact vD) only[push_cast,simprocAttr,Tryz.f102];try exact zqF);done)
    |skip
  ·rw[e2 (by omega)]
   refine ak Tryz.func102 Tryz.ntmps102 rfl ?_
   repeat' (first|apply dG|apply aF|((first|refine ay rfl (fun K hK=>?_)|refine aj (fun K hK=>?_)|refine aA (fun K hK=>?_));(first|refine ah (f:=133) [] 0 true ?_|refine ah (f:=134) (dst:=some 14) [] 0 false ?_|refine ah (f:=134) (dst:=some 16) [] 0 false ?_);simp-dsimp(disch:=try exact vD) only[push_cast,simprocAttr,hne,hlt];(repeat refine aI ?_);intro G hG;refine hG _ _ ?_;clear hG G;(first|refine⟨_,_,hck.down,?_⟩|refine⟨_,_,hs1.down,?_⟩|refine⟨_,_,hs2.down,?_⟩);simp-dsimp(disch:=try exact vD) only[push_cast,simprocAttr,hne,hlt];(repeat refine aI ?_);apply hK;clear hK K)|((first|refine ay rfl (fun K hK=>?_)|refine aj (fun K hK=>?_)|refine aA (fun K hK=>?_));(first|apply cO|apply aZ|apply df|apply aT|apply aW|apply gJ|apply gK|apply gm|apply aX|apply dP|apply dm|apply bU|apply dY);simp-dsimp(disch:=try exact vD) only[push_cast,simprocAttr,hne,hlt];(repeat refine aI ?_);apply hK;clear hK K)|((first|refine aQ rfl rfl (fun K1 K2 h1 h2=>?_) rfl|refine aJ (fun K1 K2 h1 h2=>?_)|refine bL rfl rfl (fun K1 K2 h1 h2=>?_));simp-dsimp(disch:=try exact vD) only[push_cast,simprocAttr,hne,hlt];(first|(refine⟨fun hc=>?_,fun hc=>?_⟩<;>first|(exfalso;omega)|(exfalso;contradiction)|refine h1 ?_|refine h2 ?_)|refine h1 ?_|refine h2 ?_);all_goals clear h1 h2 K1 K2)|(refine aV (id:=3) (by kernel_rfl) [⟨0,[],[15],[],[],0⟩,⟨1,[0],[15],[],[],0⟩,⟨2,[],[13,14],[],[],0⟩,⟨3,[0,1,2],[],[],[],0⟩,⟨4,[0,1,2,3],[],[],[],0⟩,⟨5,[0,1,2,3,4],[],[],[],0⟩] (by kernel_rfl) (by kernel_rfl) (by kernel_rfl) ?_)|((first|refine dW (by kernel_rfl) (fun K hK=>?_)|refine gy (by kernel_rfl) (fun K hK=>?_));simp only[↓Go.Sy.dz,↓Go.Sy.dA,↓Go.Sy.dU,↓Go.Sy.dD,↓Go.Sy.dV,↓Go.Sy.cZ,↓Go.Sy.dE,push_cast,Nat.reduceLeDiff,Nat.reduceSub,Nat.reduceBEq,Nat.reduceEqDiff,Nat.reduceAdd,Nat.reduceLT,↓reduceIte,reduceCtorEq];refine hK _ _ _ ?_;clear hK K)|apply jl|apply dH|apply aR|apply bX|apply bz|apply aS|apply bY|apply bA|(refine aY rfl ?_)|apply bB|apply bW|apply bV|apply dF)
   all_goals first
    |((refine Ends.mk2 (by first|exact .inr rfl|exact .inl rfl) [] ?_;simp-dsimp(disch:=try exact vD) only[push_cast,simprocAttr,Tryz.f102];try exact zqF);done)
    |skip
theorem Ov(h:D300 x)(h2:D300 y):ACall Tryz.prog 102 [.agg (aa.cells (iV z x)),.agg (aa.cells (iV z' y))] [] 0 (.val (.int .i64 (gp x y))) []:=by
 have hcm:=mE (z:=z) (z':=z') (a:=lb x.natAbs) (b:=lb y.natAbs) lim_lb lim_lb ic ic (by have:=h.few;omega) (by have:=h2.few;omega)
 rw[wM] at hcm
 refine XH (yH h h2) JQ JQ hcm JU JU L8 XE XG (fun he hn=>?_) fun he hn=>?_
 ·have hx:x<0:=of_decide_eq_true hn
  have hy:y<0:=by unfold sgn at he;repeat' split at he<;>try omega
  unfold gp
  repeat' split<;>try omega
 ·have hx:¬x<0:=of_decide_eq_false hn
  have hy:¬y<0:=by intro hc;unfold sgn at he;repeat' split at he<;>try omega
  unfold gp
  repeat' split<;>try omega
