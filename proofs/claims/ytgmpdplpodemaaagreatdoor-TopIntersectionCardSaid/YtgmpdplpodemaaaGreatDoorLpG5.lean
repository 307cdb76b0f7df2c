/- Lp5 Lp9 Lp10 Lp6 Lp7. No condition. -/
import Derived.Test.YtgmpdplpodemaaaGreatDoorLpG1
set_option linter.all false
set_option maxHeartbeats 4000000
set_option maxRecDepth 20000
namespace Go.Proofs.YtgmpdplpodemaaaGreatDoor
section
open Go Go.Sy Go.Bp Go.Lm
attribute [local irreducible] AO AL AC OpT ACall Ends DGo aN Thn Blk Nxt
variable {n N M k i m j:Nat} {z z' neg:Bool} {l a b:List Int} {v x y:Int} {xs:List IV} {X:IV}
def D300(v:Int):Prop:=v.natAbs<10^300
theorem Dy{a b s t u:Nat}(h:a<10^s)(h2:b<10^t)(e:s+t=u):a*b<10^u:=by
 subst e;rw[Nat.pow_add];exact Nat.mul_lt_mul'' h h2
theorem D300.few(h:D300 v):(lb v.natAbs).length≤34:=Gc h
theorem Bb:R32 (lb n):=fun y hy=>by have:=lim_lb y hy;omega
theorem wG(h:D300 v):ACall Tryz.prog 142 [.agg (aa.cells (iV z v))] [] 0 (.val (.bool true)) []:=by
 have:=uC (X:=iV z v) rfl (by show(lb v.natAbs).length<_;have:=h.few;omega) Bb
 rw[IJ h] at this;exact this
def ckI(z:Bool)(xs:List IV)(n:Nat)(j:{j:Nat // j≤n}):St:=
 ⟨15,0,[(2,.val (.int .i64 0)),(5,.isl z (cR xs) n),(6,.val (.int .i64 n)),(7,.val (.int .i64 j.val))],[]⟩
theorem Dz(hl:xs.length=n)(hn:n<2^47)(hv:∀j,j<n→∃z v,xs.getD j default=iV z v∧D300 v):ACall Tryz.prog 188 [.isl z (cR xs) n] [] 0 (.val (.int .i64 0)) []:=by
 have hvv:∀j,j<n→PLift (ACall Tryz.prog 142 [.agg (aa.cells (xs.getD j default))] [] 0 (.val (.bool true)) []):=fun j hj=>⟨by
  obtain⟨z,v,e,h⟩:=hv j hj
  rw[e];exact wG h⟩
 clear hv
 refine az Tryz.func188 Tryz.ntmps188 rfl ?_
 repeat' (first|(refine ai ?_;refine au [] ([].length) (ckI z xs n) (fun j=>n-j.val) (⟨0,by omega⟩) rfl (by unfold ckI;exact nU) ?_;(rintro⟨j,hj⟩;(simp-dsimp only[ckI];refine zqS ?_)))|(refine aj ?_;refine Nxt.mk [] (⟨j+1,by omega⟩) rfl (by unfold ckI;exact nU) zqO)|refine zqN ?_|refine aT (hvv j (by omega)).down ?_|refine bA ?_|refine bB ?_|(refine bC ?_ ?_<;>intro hc<;>try exact zqM))
 all_goals first
  |((refine Ends.mk2 zqI [] ?_;simp-dsimp(disch:=try exact vD) only[push_cast,simprocAttr,Tryz.f188];try exact zqF);done)
  |skip
theorem Pg(h:D300 v):ACall Tryz.prog 188 [.isl false (aa.cells (iV z v)) 1] [] 0 (.val (.int .i64 0)) []:=by
 have:=Dz (z:=false) (xs:=[iV z v]) (n:=1) rfl (by decide) (fun j hj=>by
  have:j=0:=by omega
  subst this;exact⟨z,v,rfl,h⟩)
 rw[Fg] at this;exact this
theorem uD(h:D300 x)(h2:D300 y):ACall Tryz.prog 188 [.isl false (aa.cells (iV z x)++aa.cells (iV z' y)) 2] [] 0 (.val (.int .i64 0)) []:=by
 have:=Dz (z:=false) (xs:=[iV z x,iV z' y]) (n:=2) rfl (by decide) (fun j hj=>by
  have:j=0∨j=1:=by omega
  rcases this with rfl|rfl
  ·exact⟨z,x,rfl,h⟩
  ·exact⟨z',y,rfl,h2⟩)
 rw[oO,Fg] at this;exact this
theorem oh(h:D300 v):ACall Tryz.prog 138 [.agg (aa.cells (iV z v))] [] 0 (.val (.int .i64 (sgn v))) []:=by
 have hv:=PLift.up (wG (z:=z) h)
 have hs:=PLift.up (A9 (z:=z) (v:=v))
 unfold iV at*
 rw[bE] at*
 generalize lb v.natAbs=L at*
 generalize decide (v<0)=ng at*
 refine az Tryz.func138 Tryz.ntmps138 rfl ?_
 repeat' (first|refine zqN ?_|refine aT hv.down ?_|refine aT hs.down ?_|refine bA ?_|refine bB ?_|(refine bC ?_ ?_<;>intro hc<;>try exact zqM))
 all_goals(refine Ends.mk2 zqI [] ?_;simp-dsimp(disch:=try exact vD) only[push_cast,simprocAttr,Tryz.f138];try exact zqF)
def sg(neg:Bool)(v:Int):Int:=if neg=true then-v else v
theorem Gd(hi:Lim l)(hl:l.length=n)(hn:n<2^47)(hb:¬D300 (val l)):ACall Tryz.prog 191 [.val (.bool neg),.isl z (cI .u32 l) n] [] 0 (.tup [.agg (aa.cells (iC 0)),.val (.int .i64 3)]) []:=by
 have ht:=PLift.up (lG (z:=z) hl hn)
 have hle:=qH (l:=l) (j:=n)
 have htl:(l.take (trN l n)).length=trN l n:=by rw[List.length_take];omega
 have hd:=PLift.up (uB (z:=z) htl (by omega) hi.take (F3 (by omega)))
 have hg:¬dg9 (l.take (trN l n))≤300:=by
  rw[←hl,jr hi]
  intro hc
  have:=xV.1 hc
  have hv:=(bv hi).1
  exact hb (by unfold D300;omega)
 have e:iC 0=⟨true,false,[]⟩:=rfl
 rw[e,bE]
 generalize dg9 (l.take (trN l n))=dd at*
 generalize l.take (trN l n)=L at*
 generalize trN l n=q at*
 clear e
 refine az Tryz.func191 Tryz.ntmps191 rfl ?_
 repeat' (first|refine zqN ?_|refine aT ht.down ?_|refine aT hd.down ?_|refine bA ?_|refine bB ?_|(refine bC ?_ ?_<;>intro hc<;>try exact zqM))
 all_goals first
  |((refine Ends.mk2 zqI [] ?_;simp-dsimp(disch:=try exact vD) only[push_cast,simprocAttr,Tryz.f191,fQ];try exact zqF);done)
  |skip
theorem KP(hi:Lim l)(hl:l.length=n)(hn:n<2^47)(hz:z=true→l=[])(hb:D300 (val l)):ACall Tryz.prog 191 [.val (.bool neg),.isl z (cI .u32 l) n] [] 0 (.tup [.agg (aa.cells (iC (sg neg (val l)))),.val (.int .i64 0)]) []:=by
 have ht:=PLift.up (lG (z:=z) hl hn)
 have hle:=qH (l:=l) (j:=n)
 have htl:(l.take (trN l n)).length=trN l n:=by rw[List.length_take];omega
 have hd:=PLift.up (uB (z:=z) htl (by omega) hi.take (F3 (by omega)))
 have hv:=(bv hi).1
 have hte:l.take (trN l n)=lb (val l).toNat:=by rw[←hl];exact jr hi
 have hg:dg9 (l.take (trN l n))≤300:=by
  rw[hte]
  exact xV.2 (by unfold D300 at hb;omega)
 have hab:(sg neg (val l)).natAbs=(val l).toNat:=by unfold sg;split<;>omega
 by_cases h0:val l=0
 ·have e:iC (sg neg (val l))=⟨true,false,[]⟩:=by rw[h0];unfold sg;split<;>rfl
  rw[e,bE]
  have hq:trN l n=0:=by
   have h2:(lb (val l).toNat).length=0:=by rw[h0];rfl
   rw[←hte,htl] at h2;exact h2
  generalize dg9 (l.take (trN l n))=dd at*
  generalize l.take (trN l n)=L at*
  generalize trN l n=q at*
  subst hq
  clear e hte
  refine az Tryz.func191 Tryz.ntmps191 rfl ?_
  repeat' (first|refine zqN ?_|refine aT ht.down ?_|refine aT hd.down ?_|refine bA ?_|refine bB ?_|(refine bC ?_ ?_<;>intro hc<;>try exact zqM))
  all_goals first
   |((refine Ends.mk2 zqI [] ?_;simp-dsimp(disch:=try exact vD) only[push_cast,simprocAttr,Tryz.f191,fQ];try exact zqF);done)
   |skip
 ·have hzf:z=false:=by
   cases z with
   |false=>rfl
   |true=>exact absurd (by rw[hz rfl];rfl) h0
  subst hzf
  have hq:0<trN l n:=by
   refine Nat.pos_of_ne_zero fun hc=>h0 ?_
   have:=IA (l:=l) (j:=n)
   rw[hc,kP,dn (by omega)] at this
   exact this.symm
  have e:iC (sg neg (val l))=⟨false,neg,l.take (trN l n)⟩:=by
   unfold iC iV
   rw[hab,hte]
   have e1:(sg neg (val l)==0)=false:=by unfold sg;split<;>simp<;>omega
   have e2:decide (sg neg (val l)<0)=neg:=by
    unfold sg
    cases neg with
    |true=>rw[if_pos rfl];exact decide_eq_true (by omega)
    |false=>rw[if_neg (by simp)];exact decide_eq_false (by omega)
   rw[e1,e2]
  rw[e,bE]
  dsimp only
  rw[htl]
  generalize dg9 (l.take (trN l n))=dd at*
  generalize l.take (trN l n)=L at*
  generalize trN l n=q at*
  clear e hte
  refine az Tryz.func191 Tryz.ntmps191 rfl ?_
  repeat' (first|refine zqN ?_|refine aT ht.down ?_|refine aT hd.down ?_|refine bA ?_|refine bB ?_|(refine bC ?_ ?_<;>intro hc<;>try exact zqM))
  all_goals first
   |((refine Ends.mk2 zqI [] ?_;simp-dsimp(disch:=try exact vD) only[push_cast,simprocAttr,Tryz.f191];try exact zqF);done)
   |skip
def eF(x y:Int):Int:=if x<y then-1 else if y<x then 1 else 0
theorem DC:mQ (lb x.natAbs) (lb y.natAbs)=eF x.natAbs y.natAbs:=by unfold mQ eF;rw[aW,aW]
theorem aaJ(h:sgn x<sgn y):eF x y= -1:=by
 unfold sgn at h;unfold eF
 rw[if_pos]
 repeat' split at h<;>try omega
theorem aaK(h:sgn y<sgn x):eF x y=1:=by
 unfold sgn at h;unfold eF
 rw[if_neg,if_pos]
 all_goals repeat' split at h<;>try omega
theorem IK: -1≤sgn x∧sgn x≤1:=by unfold sgn;repeat' split<;>try omega
theorem Pi: -1≤eF x y∧eF x y≤1:=by unfold eF;repeat' split<;>try omega
theorem Pj{nx ny:Bool} {Lx Ly:List Int} {c1 c2 sx sy:Int}
 (hck:ACall Tryz.prog 188 [.isl false [.val (.bool nx),.isl z (cI .u32 Lx) Lx.length,.val (.bool ny),.isl z' (cI .u32 Ly) Ly.length] 2] [] 0 (.val (.int .i64 0)) [])
 (hs1:ACall Tryz.prog 180 [.agg [.val (.bool nx),.isl z (cI .u32 Lx) Lx.length]] [] 0 (.val (.int .i64 sx)) [])
 (hs2:ACall Tryz.prog 180 [.agg [.val (.bool ny),.isl z' (cI .u32 Ly) Ly.length]] [] 0 (.val (.int .i64 sy)) [])
 (hcm:ACall Tryz.prog 192 [.isl z (cI .u32 Lx) Lx.length,.isl z' (cI .u32 Ly) Ly.length] [] 0 (.val (.int .i64 c1)) [])
 (r1: -1≤sx∧sx≤1) (r2: -1≤sy∧sy≤1) (r3: -1≤c1∧c1≤1) (e1:sx<sy→c2= -1) (e2:sy<sx→c2=1) (e3:sx=sy→nx=true→c2= -c1) (e4:sx=sy→nx=false→c2=c1):
 ACall Tryz.prog 144 [.agg [.val (.bool nx),.isl z (cI .u32 Lx) Lx.length],.agg [.val (.bool ny),.isl z' (cI .u32 Ly) Ly.length]] [] 0 (.val (.int .i64 c2)) []:=by
 have hck:=PLift.up hck;have hs1:=PLift.up hs1;have hs2:=PLift.up hs2;have hcm:=PLift.up hcm
 have hnx:=ae;have hne:=ae;have hlt:=ae
 rcases Decidable.em (sx=sy) with hne|hne
 ·subst hne
  rcases Bool.eq_false_or_eq_true nx with hnx|hnx
  ·rw[e3 rfl hnx]
   subst hnx
   refine az Tryz.func144 Tryz.ntmps144 rfl ?_
   repeat' (first|apply bZ|apply aB|((first|refine ax rfl (fun K hK=>?_)|refine ak (fun K hK=>?_)|refine aJ (fun K hK=>?_));(first|refine ah (f:=188) [] 0 true ?_|refine ah (f:=180) (dst:=some 14) [] 0 false ?_|refine ah (f:=180) (dst:=some 16) [] 0 false ?_|refine ah (f:=192) [] 0 false ?_);simp-dsimp(disch:=try exact vD) only[push_cast,simprocAttr];(repeat refine aI ?_);intro G hG;refine hG _ _ ?_;clear hG G;(first|refine⟨_,_,hck.down,?_⟩|refine⟨_,_,hs1.down,?_⟩|refine⟨_,_,hs2.down,?_⟩|refine⟨_,_,hcm.down,?_⟩);simp-dsimp(disch:=try exact vD) only[push_cast,simprocAttr];(repeat refine aI ?_);apply hK;clear hK K)|((first|refine ax rfl (fun K hK=>?_)|refine ak (fun K hK=>?_)|refine aJ (fun K hK=>?_));(first|apply bM|apply aR|apply bU|apply aO|apply dF|apply fM|apply fO|apply eY|apply aP|apply bR|apply bu|apply aU|apply dE);simp-dsimp(disch:=try exact vD) only[push_cast,simprocAttr];(repeat refine aI ?_);apply hK;clear hK K)|((first|refine aK rfl rfl (fun K1 K2 h1 h2=>?_) rfl|refine aF (fun K1 K2 h1 h2=>?_)|refine cO rfl rfl (fun K1 K2 h1 h2=>?_));simp-dsimp(disch:=try exact vD) only[push_cast,simprocAttr];(first|(refine⟨fun hc=>?_,fun hc=>?_⟩<;>first|(exfalso;omega)|(exfalso;contradiction)|refine h1 ?_|refine h2 ?_)|refine h1 ?_|refine h2 ?_);all_goals clear h1 h2 K1 K2)|(refine dw (id:=3) (by kernel_rfl) [⟨0,[],[15],[],[],0⟩,⟨1,[0],[15],[],[],0⟩,⟨2,[],[13,14],[],[],0⟩,⟨3,[0,1,2],[],[],[],0⟩,⟨4,[0,1,2,3],[],[],[],0⟩,⟨5,[0,1,2,3,4],[],[],[],0⟩] (by kernel_rfl) (by kernel_rfl) (by kernel_rfl) ?_)|((first|refine iP (by kernel_rfl) (fun K hK=>?_)|refine kI (by kernel_rfl) (fun K hK=>?_));simp only[↓Go.Sy.fH,↓Go.Sy.fI,↓Go.Sy.ig,↓Go.Sy.fJ,↓Go.Sy.ik,↓Go.Sy.eT,↓Go.Sy.fK,push_cast,Nat.reduceLeDiff,Nat.reduceSub,Nat.reduceBEq,Nat.reduceEqDiff,Nat.reduceAdd,Nat.reduceLT,↓reduceIte,reduceCtorEq];refine hK _ _ _ ?_;clear hK K)|apply pY|apply cu|apply aL|apply bH|apply aX|apply aM|apply bI|apply aY|(refine aQ rfl ?_)|apply aZ|apply bG|apply bF|apply bY)
   all_goals first
    |((refine Ends.mk2 (by first|exact .inr rfl|exact .inl rfl) [] ?_;simp-dsimp(disch:=try exact vD) only[push_cast,simprocAttr,Tryz.f144];try exact zqF);done)
    |skip
  ·rw[e4 rfl hnx]
   subst hnx
   refine az Tryz.func144 Tryz.ntmps144 rfl ?_
   repeat' (first|apply bZ|apply aB|((first|refine ax rfl (fun K hK=>?_)|refine ak (fun K hK=>?_)|refine aJ (fun K hK=>?_));(first|refine ah (f:=188) [] 0 true ?_|refine ah (f:=180) (dst:=some 14) [] 0 false ?_|refine ah (f:=180) (dst:=some 16) [] 0 false ?_|refine ah (f:=192) [] 0 false ?_);simp-dsimp(disch:=try exact vD) only[push_cast,simprocAttr];(repeat refine aI ?_);intro G hG;refine hG _ _ ?_;clear hG G;(first|refine⟨_,_,hck.down,?_⟩|refine⟨_,_,hs1.down,?_⟩|refine⟨_,_,hs2.down,?_⟩|refine⟨_,_,hcm.down,?_⟩);simp-dsimp(disch:=try exact vD) only[push_cast,simprocAttr];(repeat refine aI ?_);apply hK;clear hK K)|((first|refine ax rfl (fun K hK=>?_)|refine ak (fun K hK=>?_)|refine aJ (fun K hK=>?_));(first|apply bM|apply aR|apply bU|apply aO|apply dF|apply fM|apply fO|apply eY|apply aP|apply bR|apply bu|apply aU|apply dE);simp-dsimp(disch:=try exact vD) only[push_cast,simprocAttr];(repeat refine aI ?_);apply hK;clear hK K)|((first|refine aK rfl rfl (fun K1 K2 h1 h2=>?_) rfl|refine aF (fun K1 K2 h1 h2=>?_)|refine cO rfl rfl (fun K1 K2 h1 h2=>?_));simp-dsimp(disch:=try exact vD) only[push_cast,simprocAttr];(first|(refine⟨fun hc=>?_,fun hc=>?_⟩<;>first|(exfalso;omega)|(exfalso;contradiction)|refine h1 ?_|refine h2 ?_)|refine h1 ?_|refine h2 ?_);all_goals clear h1 h2 K1 K2)|(refine dw (id:=3) (by kernel_rfl) [⟨0,[],[15],[],[],0⟩,⟨1,[0],[15],[],[],0⟩,⟨2,[],[13,14],[],[],0⟩,⟨3,[0,1,2],[],[],[],0⟩,⟨4,[0,1,2,3],[],[],[],0⟩,⟨5,[0,1,2,3,4],[],[],[],0⟩] (by kernel_rfl) (by kernel_rfl) (by kernel_rfl) ?_)|((first|refine iP (by kernel_rfl) (fun K hK=>?_)|refine kI (by kernel_rfl) (fun K hK=>?_));simp only[↓Go.Sy.fH,↓Go.Sy.fI,↓Go.Sy.ig,↓Go.Sy.fJ,↓Go.Sy.ik,↓Go.Sy.eT,↓Go.Sy.fK,push_cast,Nat.reduceLeDiff,Nat.reduceSub,Nat.reduceBEq,Nat.reduceEqDiff,Nat.reduceAdd,Nat.reduceLT,↓reduceIte,reduceCtorEq];refine hK _ _ _ ?_;clear hK K)|apply pY|apply cu|apply aL|apply bH|apply aX|apply aM|apply bI|apply aY|(refine aQ rfl ?_)|apply aZ|apply bG|apply bF|apply bY)
   all_goals first
    |((refine Ends.mk2 (by first|exact .inr rfl|exact .inl rfl) [] ?_;simp-dsimp(disch:=try exact vD) only[push_cast,simprocAttr,Tryz.f144];try exact zqF);done)
    |skip
 ·rcases Decidable.em (sx<sy) with hlt|hlt
  ·rw[e1 hlt]
   refine az Tryz.func144 Tryz.ntmps144 rfl ?_
   repeat' (first|apply bZ|apply aB|((first|refine ax rfl (fun K hK=>?_)|refine ak (fun K hK=>?_)|refine aJ (fun K hK=>?_));(first|refine ah (f:=188) [] 0 true ?_|refine ah (f:=180) (dst:=some 14) [] 0 false ?_|refine ah (f:=180) (dst:=some 16) [] 0 false ?_);simp-dsimp(disch:=try exact vD) only[push_cast,simprocAttr,hne,hlt];(repeat refine aI ?_);intro G hG;refine hG _ _ ?_;clear hG G;(first|refine⟨_,_,hck.down,?_⟩|refine⟨_,_,hs1.down,?_⟩|refine⟨_,_,hs2.down,?_⟩);simp-dsimp(disch:=try exact vD) only[push_cast,simprocAttr,hne,hlt];(repeat refine aI ?_);apply hK;clear hK K)|((first|refine ax rfl (fun K hK=>?_)|refine ak (fun K hK=>?_)|refine aJ (fun K hK=>?_));(first|apply bM|apply aR|apply bU|apply aO|apply dF|apply fM|apply fO|apply eY|apply aP|apply bR|apply bu|apply aU|apply dE);simp-dsimp(disch:=try exact vD) only[push_cast,simprocAttr,hne,hlt];(repeat refine aI ?_);apply hK;clear hK K)|((first|refine aK rfl rfl (fun K1 K2 h1 h2=>?_) rfl|refine aF (fun K1 K2 h1 h2=>?_)|refine cO rfl rfl (fun K1 K2 h1 h2=>?_));simp-dsimp(disch:=try exact vD) only[push_cast,simprocAttr,hne,hlt];(first|(refine⟨fun hc=>?_,fun hc=>?_⟩<;>first|(exfalso;omega)|(exfalso;contradiction)|refine h1 ?_|refine h2 ?_)|refine h1 ?_|refine h2 ?_);all_goals clear h1 h2 K1 K2)|(refine dw (id:=3) (by kernel_rfl) [⟨0,[],[15],[],[],0⟩,⟨1,[0],[15],[],[],0⟩,⟨2,[],[13,14],[],[],0⟩,⟨3,[0,1,2],[],[],[],0⟩,⟨4,[0,1,2,3],[],[],[],0⟩,⟨5,[0,1,2,3,4],[],[],[],0⟩] (by kernel_rfl) (by kernel_rfl) (by kernel_rfl) ?_)|((first|refine iP (by kernel_rfl) (fun K hK=>?_)|refine kI (by kernel_rfl) (fun K hK=>?_));simp only[↓Go.Sy.fH,↓Go.Sy.fI,↓Go.Sy.ig,↓Go.Sy.fJ,↓Go.Sy.ik,↓Go.Sy.eT,↓Go.Sy.fK,push_cast,Nat.reduceLeDiff,Nat.reduceSub,Nat.reduceBEq,Nat.reduceEqDiff,Nat.reduceAdd,Nat.reduceLT,↓reduceIte,reduceCtorEq];refine hK _ _ _ ?_;clear hK K)|apply pY|apply cu|apply aL|apply bH|apply aX|apply aM|apply bI|apply aY|(refine aQ rfl ?_)|apply aZ|apply bG|apply bF|apply bY)
   all_goals first
    |((refine Ends.mk2 (by first|exact .inr rfl|exact .inl rfl) [] ?_;simp-dsimp(disch:=try exact vD) only[push_cast,simprocAttr,Tryz.f144];try exact zqF);done)
    |skip
  ·rw[e2 (by omega)]
   refine az Tryz.func144 Tryz.ntmps144 rfl ?_
   repeat' (first|apply bZ|apply aB|((first|refine ax rfl (fun K hK=>?_)|refine ak (fun K hK=>?_)|refine aJ (fun K hK=>?_));(first|refine ah (f:=188) [] 0 true ?_|refine ah (f:=180) (dst:=some 14) [] 0 false ?_|refine ah (f:=180) (dst:=some 16) [] 0 false ?_);simp-dsimp(disch:=try exact vD) only[push_cast,simprocAttr,hne,hlt];(repeat refine aI ?_);intro G hG;refine hG _ _ ?_;clear hG G;(first|refine⟨_,_,hck.down,?_⟩|refine⟨_,_,hs1.down,?_⟩|refine⟨_,_,hs2.down,?_⟩);simp-dsimp(disch:=try exact vD) only[push_cast,simprocAttr,hne,hlt];(repeat refine aI ?_);apply hK;clear hK K)|((first|refine ax rfl (fun K hK=>?_)|refine ak (fun K hK=>?_)|refine aJ (fun K hK=>?_));(first|apply bM|apply aR|apply bU|apply aO|apply dF|apply fM|apply fO|apply eY|apply aP|apply bR|apply bu|apply aU|apply dE);simp-dsimp(disch:=try exact vD) only[push_cast,simprocAttr,hne,hlt];(repeat refine aI ?_);apply hK;clear hK K)|((first|refine aK rfl rfl (fun K1 K2 h1 h2=>?_) rfl|refine aF (fun K1 K2 h1 h2=>?_)|refine cO rfl rfl (fun K1 K2 h1 h2=>?_));simp-dsimp(disch:=try exact vD) only[push_cast,simprocAttr,hne,hlt];(first|(refine⟨fun hc=>?_,fun hc=>?_⟩<;>first|(exfalso;omega)|(exfalso;contradiction)|refine h1 ?_|refine h2 ?_)|refine h1 ?_|refine h2 ?_);all_goals clear h1 h2 K1 K2)|(refine dw (id:=3) (by kernel_rfl) [⟨0,[],[15],[],[],0⟩,⟨1,[0],[15],[],[],0⟩,⟨2,[],[13,14],[],[],0⟩,⟨3,[0,1,2],[],[],[],0⟩,⟨4,[0,1,2,3],[],[],[],0⟩,⟨5,[0,1,2,3,4],[],[],[],0⟩] (by kernel_rfl) (by kernel_rfl) (by kernel_rfl) ?_)|((first|refine iP (by kernel_rfl) (fun K hK=>?_)|refine kI (by kernel_rfl) (fun K hK=>?_));simp only[↓Go.Sy.fH,↓Go.Sy.fI,↓Go.Sy.ig,↓Go.Sy.fJ,↓Go.Sy.ik,↓Go.Sy.eT,↓Go.Sy.fK,push_cast,Nat.reduceLeDiff,Nat.reduceSub,Nat.reduceBEq,Nat.reduceEqDiff,Nat.reduceAdd,Nat.reduceLT,↓reduceIte,reduceCtorEq];refine hK _ _ _ ?_;clear hK K)|apply pY|apply cu|apply aL|apply bH|apply aX|apply aM|apply bI|apply aY|(refine aQ rfl ?_)|apply aZ|apply bG|apply bF|apply bY)
   all_goals first
    |((refine Ends.mk2 (by first|exact .inr rfl|exact .inl rfl) [] ?_;simp-dsimp(disch:=try exact vD) only[push_cast,simprocAttr,Tryz.f144];try exact zqF);done)
    |skip
theorem Pk(h:D300 x)(h2:D300 y):ACall Tryz.prog 144 [.agg (aa.cells (iV z x)),.agg (aa.cells (iV z' y))] [] 0 (.val (.int .i64 (eF x y))) []:=by
 have hcm:=lH (z:=z) (z':=z') (a:=lb x.natAbs) (b:=lb y.natAbs) lim_lb lim_lb ja ja (by have:=h.few;omega) (by have:=h2.few;omega)
 rw[DC] at hcm
 refine Pj (uD h h2) A9 A9 hcm IK IK Pi aaJ aaK (fun he hn=>?_) fun he hn=>?_
 ·have hx:x<0:=of_decide_eq_true hn
  have hy:y<0:=by unfold sgn at he;repeat' split at he<;>try omega
  unfold eF
  repeat' split<;>try omega
 ·have hx:¬x<0:=of_decide_eq_false hn
  have hy:¬y<0:=by intro hc;unfold sgn at he;repeat' split at he<;>try omega
  unfold eF
  repeat' split<;>try omega
end
section
open Go Go.Sy Go.Bp Go.Lm
attribute [local irreducible] AO AL AC OpT ACall Ends DGo aN Thn Blk Nxt
variable {n N M k i m j:Nat} {z z' neg:Bool} {l a b u L:List Int} {v x y d:Int}
theorem Gf(h:k<u.length):u.drop k=u.getD k 0::u.drop (k+1):=by
 rw[List.drop_eq_getElem_cons h,iI h]
def Pm(z:Bool)(u:List Int)(n:Nat)(v:Int)(k:{k:Nat // k≤n}):St:=
 ⟨43,0,[(0,.isl z (cI .u32 u) n),(1,.val (.int .u32 v)),(6,.sl 0 0 n 1),(7,.val (.int .u64 (jc v (u.drop k.val)).2)),(8,.val (.int .i64 ((k.val:Int)-1)))],[(0,some (.cells (cI .u32 (List.replicate k.val 0++(jc v (u.drop k.val)).1)) 136))]⟩
theorem DD(hu:Lim u)(hl:u.length=n)(hn:n<2^30)(h0:0<v)(hv:v<1000000000):ACall Tryz.prog 209 [.isl z (cI .u32 u) n,.val (.int .u32 v)] [] 0 (.tup [.isl false (cI .u32 (lb (val u/v).toNat)) (lb (val u/v).toNat).length,.val (.int .u32 (val u%v))]) []:=by
 obtain⟨s1,s2,s3,s4,s5⟩:=IE h0 hu
 have hsl:(jc v u).1.length=n:=by rw[Dp];exact hl
 have ht:=PLift.up (lG (z:=false) (l:=(jc v u).1) hsl (by omega))
 have e1:=jr s1
 have e2:=jv s1
 rw[hsl,s2] at e1 e2
 rw[e1,←e2] at ht
 have zx2:¬v=0:=by omega
 have hst:=fun(k:Nat)=>IE (l:=u.drop k) h0 hu.drop
 have hln:=fun(k:Nat)=>(show(jc v (u.drop k)).1.length=n-k by rw[Dp,List.length_drop,hl])
 have hdr:=fun(k:Nat) (h:k<n)=>Gf (u:=u) (k:=k) (by omega)
 have zx5:List.replicate n 0++(jc v (u.drop n)).1=List.replicate n (0:Int):=by
  rw[List.drop_eq_nil_of_le (by omega),Dn,List.append_nil]
 have zx6:(jc v (u.drop n)).2=0:=by rw[List.drop_eq_nil_of_le (by omega),Dn]
 have zx7:List.replicate 0 (0:Int)++(jc v (u.drop 0)).1=(jc v u).1:=rfl
 have zx8:(jc v u).2=val u%v:=s3
 have zx9:(jc v u).1.take n=(jc v u).1:=List.take_of_length_le (by omega)
 have hmr:0≤val u%v∧val u%v<v:=by rw[←s3];exact⟨s4,s5⟩
 rw[s3] at s4 s5
 generalize lb (val u/v).toNat=R at ht⊢
 generalize val u%v=r0 at*
 clear e1 e2 s2 s3
 have zx10:=ae;have zx11:=ae;have zx12:=ae;have zx13:=ae;have zx14:=ae;have zx15:=ae;have zx3:=ae
 refine az Tryz.func209 Tryz.ntmps209 rfl ?_
 have zx1:= @gd0;have zx4:= @a1s;have zx16:=aD;repeat' (first|((first|refine dP (r:=9) 0 ?_|refine dO (r:=9) 0 ?_);refine acy ?_;intro K hK;refine hK _ _ ?_;clear hK K)|(refine ai ?_;refine au [0] ([0].length) (Pm z u n v) (fun k=>k.val) (⟨n,Nat.le_refl _⟩) rfl (by unfold Pm;exact nC) ?_;(rintro⟨k,hk⟩;rcases Nat.eq_zero_or_pos k with hk0|hk0<;>first|(subst hk0;(simp-dsimp only[Pm];refine zqS ?_))|(obtain⟨k,rfl⟩:∃k',k=k'+1:=⟨k-1,by omega⟩;have hxr:=hu.at k;obtain⟨t1,t2,t3,t4,t5⟩:=hst (k+1);obtain⟨q1,q2,q3,q4,q5⟩:=hst k;have hl1:=hln (k+1);rw[hdr k (by omega),o5] at q1 q4 q5;have zx11:jc v (u.drop k)=_:=(by rw[hdr k (by omega),o5]);generalize zx10:jc v (u.drop (k+1))=S at*;obtain⟨Q,r⟩:=S;dsimp only at*;generalize zx3:u.getD k 0=x at*;have hq1:=q1.hd;generalize zx14:(r*1000000000+x)/v=qq at*;generalize zx15:(r*1000000000+x)%v=rr at*;have zx13:=xS (i:=k) (x:=qq) (L:=Q);(simp-dsimp only[Pm];refine zqS ?_))))|(refine aj ?_;refine Nxt.mk [0] (⟨k,by omega⟩) rfl (by unfold Pm;exact nC) zqO)|refine zqN ?_|refine NN ht.down ?_|refine NM ?_|refine NP ?_|(refine NQ ?_ ?_<;>intro hc<;>try exact zqM))
 all_goals first
  |((refine Ends.mk2 zqI [] ?_;simp-dsimp(disch:=try exact vD) only[push_cast,simprocAttr,Tryz.f209];try exact zqF);done)
  |skip
def scI(z:Bool)(u:List Int)(m:Nat)(d:Int)(n:Nat)(i:{i:Nat // i≤n}):St:=
 ⟨40,0,[(0,.isl z (cI .u32 u) m),(1,.val (.int .u64 d)),(7,.sl 0 0 n 1),(8,.val (.int .u64 (scC u d i.val))),(13,.val (.int .i64 n)),(14,.val (.int .i64 i.val))],[(0,some (.cells (cI .u32 (scL u d i.val++List.replicate (n-i.val) 0)) 136))]⟩
theorem Po(hu:Lim u)(hl:u.length=m)(hm:m<2^30)(hn:n<2^30)(hd:0≤d∧d<1000000000):ACall Tryz.prog 211 [.isl z (cI .u32 u) m,.val (.int .u64 d),.val (.int .i64 n)] [] 0 (.sl 0 0 n 1) [.cells (cI .u32 (scL u d n)) 136]:=by
 have zx2:scL u d 0++List.replicate (n-0) 0=List.replicate n (0:Int):=rfl
 have zx3:scL u d n++List.replicate (n-n) 0=scL u d n:=by rw[Nat.sub_self,List.replicate_zero,List.append_nil]
 have hcc:=fun(i:Nat)=>o6 (i:=i) hu hd
 have zx6:=ae;have zx7:=ae;have zx8:=ae;have zx9:=ae;have zx10:=ae
 have hlen:=fun(i:Nat) (h:i≤n)=>(show(scL u d i++List.replicate (n-i) 0).length=n by rw[List.length_append,iJ,List.length_replicate];omega)
 refine az Tryz.func211 Tryz.ntmps211 rfl ?_
 have zx1:= @gd0;have zx4:= @Dq;have zx5:= @iJ;have zx11:=aD;have zx12:=aD;repeat' (first|(refine ai ?_;refine au [0] ([0].length) (scI z u m d n) (fun i=>n-i.val) (⟨0,Nat.zero_le _⟩) rfl (by unfold scI;exact bX) ?_;(rintro⟨i,hi⟩;rcases Nat.lt_or_eq_of_le hi with hil|hil<;>first|(have ei:n=i:=hil.symm;subst ei;(simp-dsimp only[scI];refine zqS ?_))|(have hur:=hu.at i;have hc1:=hcc i;have hmr:=kg hur hd;have zx7:=zI (u:=u) (d:=d) (i:=i);have zx8:=Dr (u:=u) (d:=d) (i:=i);have hll:=hlen i hi;have zx9:=IG (n:=n) (x:=(scC u d i+u.getD i 0*d)%1000000000) (iJ (u:=u) (d:=d) (i:=i)) hil;rw[←zx8] at zx9;rcases Nat.lt_or_ge i m with him|him<;>first|(have zx10:u.getD i 0=0:=dY (by omega);rw[zx10,Int.zero_mul,Int.add_zero] at zx7 zx9;(simp-dsimp only[scI];refine zqS ?_))|(generalize zx6:u.getD i 0*d=pp at*;(simp-dsimp only[scI];refine zqS ?_)))))|(refine aj ?_;refine Nxt.mk [0] (⟨i+1,by omega⟩) rfl (by unfold scI;exact bX) zqO)|refine zqN ?_|refine jV ?_|refine jW ?_|(refine jX ?_ ?_<;>intro hc<;>try exact zqM))
 all_goals first
  |((refine Ends.mk2 zqI [0] ?_;simp-dsimp(disch:=try exact vD) only[push_cast,simprocAttr,Tryz.f211];try exact zqF);done)
  |skip
theorem Pp(hu:Lim u)(hl:u.length=m)(hm:m<2^30)(hn:n<2^30)(hd:0≤d∧d<1000000000):ACall Tryz.prog 211 [.isl z (cI .u32 u) m,.val (.int .u64 d),.val (.int .i64 n)] [] 0 (.isl false (cI .u32 (scL u d n)) n) []:=by
 have zx2:scL u d 0++List.replicate (n-0) 0=List.replicate n (0:Int):=rfl
 have zx3:scL u d n++List.replicate (n-n) 0=scL u d n:=by rw[Nat.sub_self,List.replicate_zero,List.append_nil]
 have tk0:(scL u d n).take n=scL u d n:=List.take_of_length_le (by rw[iJ];exact Nat.le_refl _)
 have hcc:=fun(i:Nat)=>o6 (i:=i) hu hd
 have zx6:=ae;have zx7:=ae;have zx8:=ae;have zx9:=ae;have zx10:=ae
 have hlen:=fun(i:Nat) (h:i≤n)=>(show(scL u d i++List.replicate (n-i) 0).length=n by rw[List.length_append,iJ,List.length_replicate];omega)
 refine az Tryz.func211 Tryz.ntmps211 rfl ?_
 have zx1:= @gd0;have zx4:= @Dq;have zx5:= @iJ;have zx11:=aD;have zx12:=aD;repeat' (first|(refine ai ?_;refine au [0] ([0].length) (scI z u m d n) (fun i=>n-i.val) (⟨0,Nat.zero_le _⟩) rfl (by unfold scI;exact bX) ?_;(rintro⟨i,hi⟩;rcases Nat.lt_or_eq_of_le hi with hil|hil<;>first|(have ei:n=i:=hil.symm;subst ei;(simp-dsimp only[scI];refine zqS ?_))|(have hur:=hu.at i;have hc1:=hcc i;have hmr:=kg hur hd;have zx7:=zI (u:=u) (d:=d) (i:=i);have zx8:=Dr (u:=u) (d:=d) (i:=i);have hll:=hlen i hi;have zx9:=IG (n:=n) (x:=(scC u d i+u.getD i 0*d)%1000000000) (iJ (u:=u) (d:=d) (i:=i)) hil;rw[←zx8] at zx9;rcases Nat.lt_or_ge i m with him|him<;>first|(have zx10:u.getD i 0=0:=dY (by omega);rw[zx10,Int.zero_mul,Int.add_zero] at zx7 zx9;(simp-dsimp only[scI];refine zqS ?_))|(generalize zx6:u.getD i 0*d=pp at*;(simp-dsimp only[scI];refine zqS ?_)))))|(refine aj ?_;refine Nxt.mk [0] (⟨i+1,by omega⟩) rfl (by unfold scI;exact bX) zqO)|refine zqN ?_|refine jV ?_|refine jW ?_|(refine jX ?_ ?_<;>intro hc<;>try exact zqM))
 all_goals first
  |(((refine Ends.frz 0 ?_;simp-dsimp(disch:=try exact vD) only[push_cast,simprocAttr,Tryz.f211,tk0];(repeat refine aI ?_);intro K hK;refine hK _ _ ?_;clear hK K);refine Ends.mk2 zqI [] ?_;simp-dsimp(disch:=try exact vD) only[push_cast,simprocAttr,Tryz.f211,tk0];try exact zqF);done)
  |skip
end
section
open Go Go.Sy Go.Bp Go.Lm
attribute [local irreducible] AO AL AC OpT ACall Ends DGo aN Thn Blk Nxt
variable {n N M k i m j:Nat} {z z' neg:Bool} {l a b u L X y w R T:List Int} {v x d f:Int}
def sbZ(X:List Int)(j n:Nat)(R:List Int):List Int:=X.take j++R++X.drop (j+n+1)
theorem Bc(hR:R.length=n+1)(h:j+n+1≤X.length):(sbZ X j n R).length=X.length:=by
 unfold sbZ;rw[List.length_append,List.length_append,List.length_take,List.length_drop,hR];omega
theorem IL(hR:R.length=n+1)(h:j+n+1≤X.length)(hi:i<n+1):(sbZ X j n R).getD (j+i) 0=R.getD i 0:=by
 unfold sbZ
 have e:(X.take j).length=j:=by rw[List.length_take];omega
 rw[List.append_assoc,List.getD_eq_getElem?_getD,List.getElem?_append_right (by omega),e,Nat.add_sub_cancel_left,List.getElem?_append_left (by omega),←List.getD_eq_getElem?_getD]
theorem IM(hR:R.length=n+1)(h:j+n+1≤X.length)(hi:i<n+1):(sbZ X j n R).set (j+i) x=sbZ X j n (R.set i x):=by
 unfold sbZ
 have e:(X.take j).length=j:=by rw[List.length_take];omega
 rw[List.append_assoc,List.set_append_right _ _ (by omega),e,Nat.add_sub_cancel_left,List.set_append_left _ _ (by omega),←List.append_assoc]
theorem DF(h:j+n+1≤X.length):sbZ X j n ((X.drop j).take (n+1))=X:=by
 unfold sbZ
 rw[List.append_assoc,show X.drop (j+n+1)=(X.drop j).drop (n+1) by rw[List.drop_drop];rfl,List.take_append_drop,List.take_append_drop]
theorem o7(hT:T.length=i)(hw:w.length=n)(hi:i≤n):(T++w.drop i).length=n:=by
 rw[List.length_append,List.length_drop,hT,hw];omega
theorem IP(hT:T.length=i)(hw:w.length=n)(hi:i<n):(T++w.drop i).getD i 0=w.getD i 0:=by
 rw[List.getD_eq_getElem?_getD,List.getElem?_append_right (by omega),hT,Nat.sub_self,List.getElem?_drop,Nat.add_zero,←List.getD_eq_getElem?_getD]
theorem IQ(hT:T.length=i)(hw:w.length=n)(hi:i<n):(T++w.drop i).set i x=(T++[x])++w.drop (i+1):=by
 rw[List.set_append_right _ _ (by omega),hT,Nat.sub_self,List.drop_eq_getElem_cons (by omega),List.append_assoc];rfl
theorem IR(h:j+n+1≤X.length):((X.drop j).take (n+1)).length=n+1:=by
 rw[List.length_take,List.length_drop];omega
def suZ(X w y:List Int)(j n:Nat)(f:Int)(i:Nat):List Int:=sbZ X j n (tL w y f i++w.drop i)
def reZ(X w y:List Int)(j n:Nat)(i:Nat):List Int:=sbZ X j n (pL w y i++w.drop i)
theorem IU(h:tL w y f (i+1)=T):suZ X w y j n f (i+1)=sbZ X j n (T++w.drop (i+1)):=by unfold suZ;rw[h]
theorem IW(h:pL w y (i+1)=T):reZ X w y j n (i+1)=sbZ X j n (T++w.drop (i+1)):=by unfold reZ;rw[h]
def DJ(X w y:List Int)(j n:Nat)(f:Int)(i:{i:Nat // i≤n+1}):St:=
 ⟨54,1,[(0,.sl 0 j (n+1) 1),(1,.isl false (cI .u32 y) n),(2,.val (.int .u64 f)),(7,.val (.int .u64 (tC y f i.val))),(8,.val (.int .i64 (tB w y f i.val))),(12,.val (.int .i64 ((n:Int)+1))),(13,.val (.int .i64 i.val))],[(0,some (.cells (cI .u32 (suZ X w y j n f i.val)) 136))]⟩
theorem uS(hX:Lim X)(hXl:X.length=M)(hy:Lim y)(hl:y.length=n)(hj:j+n+1≤M)(hM:M<2^30)(hf:0≤f∧f<1000000000)(hw:(X.drop j).take (n+1)=w):
 ACall Tryz.prog 212 [.sl 0 j (n+1) 1,.isl false (cI .u32 y) n,.val (.int .u64 f)] [.cells (cI .u32 X) 136] 1 (.val (.bool (decide (¬tB w y f (n+1)=0)))) [.cells (cI .u32 (sbZ X j n (tL w y f (n+1)))) 136]:=by
 subst hXl
 have hwl:w.length=n+1:=by rw[←hw];exact IR hj
 have hwL:Lim w:=by rw[←hw];exact hX.drop.take
 have e0:X=suZ X w y j n f 0:=by rw[←hw];exact(DF hj).symm
 have zx11:suZ X w y j n f (n+1)=sbZ X j n (tL w y f (n+1)):=by unfold suZ;rw[List.drop_eq_nil_of_le (by omega),List.append_nil]
 have hln:∀(i:Nat),i≤n+1→(suZ X w y j n f i).length=X.length:=fun i h=>Bc (X:=X) (j:=j) (o7 (T:=tL w y f i) tL_len hwl h) hj
 have hgt:∀(i:Nat),i<n+1→(suZ X w y j n f i).getD (j+i) 0=w.getD i 0:=fun i h=>(IL (X:=X) (j:=j) (o7 (T:=tL w y f i) tL_len hwl (by omega)) hj h).trans (IP tL_len hwl h)
 have hst:∀(i:Nat) (x:Int),i<n+1→(suZ X w y j n f i).set (j+i) x=sbZ X j n ((tL w y f i++[x])++w.drop (i+1)):=fun i x h=>(IM (X:=X) (j:=j) (x:=x) (o7 (T:=tL w y f i) tL_len hwl (by omega)) hj h).trans (congrArg (sbZ X j n) (IQ tL_len hwl h))
 have hcr:=fun(i:Nat)=>Ga (i:=i) hy hf
 have hbr:=fun(i:Nat)=>AU (w:=w) (yl:=y) (f:=f) (i:=i)
 clear hw
 have zx2:=ae;have zx3:=ae;have zx4:=ae;have zx5:=ae;have zx6:=ae;have zx7:=ae;have zx8:=ae;have zx9:=ae;have zx10:=ae
 revert e0
 generalize hXX:cI IntKind.u32 X=C
 intro e00
 have e0:C=cI IntKind.u32 (suZ X w y j n f 0):=by rw[←e00];exact hXX.symm
 subst e0
 clear hXX e00
 refine az Tryz.func212 Tryz.ntmps212 rfl ?_
 have zx1:= @gd0;have zx12:= @aay;have zx13:= @tB_0;have zx14:=aD;have zx15:=aD;have zx16:=aD;repeat' (first|(refine ai ?_;refine au [0] ([0].length) (DJ X w y j n f) (fun i=>n+1-i.val) (⟨0,Nat.zero_le _⟩) rfl (by unfold DJ;exact nC) ?_;(rintro⟨i,hi⟩;have hci:=hcr i;have hbi:=hbr i;have zx10:=hln i hi;rcases Nat.lt_or_eq_of_le hi with hil|hil<;>first|(subst hil;(simp-dsimp only[DJ];refine zqS ?_))|(have hwr:=hwL.at i;have hyr:=hy.at i;have hmr:=kg hyr hf;have zx8:=hgt i hil;have zx9:=fun x=>hst i x hil;have zx4:=Vf (yl:=y) (f:=f) (i:=i);rcases Nat.lt_or_ge i n with him|him<;>rcases Decidable.em (w.getD i 0-(tC y f i+y.getD i 0*f)%1000000000-tB w y f i<0) with zx2|zx2<;>first|(have zx6:y.getD i 0=0:=dY (by omega);have zx3:=IU (X:=X) (j:=j) (n:=n) (aaB zx2);have zx5:=aaz zx2;rw[zx6,Int.zero_mul,Int.add_zero] at zx3 zx2 zx4;(simp-dsimp only[DJ];refine zqS ?_))|(have zx6:y.getD i 0=0:=dY (by omega);have zx3:=IU (X:=X) (j:=j) (n:=n) (aaC zx2);have zx5:=aaA zx2;rw[zx6,Int.zero_mul,Int.add_zero] at zx3 zx2 zx4;(simp-dsimp only[DJ];refine zqS ?_))|(have zx3:=IU (X:=X) (j:=j) (n:=n) (aaB zx2);have zx5:=aaz zx2;generalize zx7:y.getD i 0*f=pp at*;(simp-dsimp only[DJ];refine zqS ?_))|(have zx3:=IU (X:=X) (j:=j) (n:=n) (aaC zx2);have zx5:=aaA zx2;generalize zx7:y.getD i 0*f=pp at*;(simp-dsimp only[DJ];refine zqS ?_)))))|(refine aj ?_;refine Nxt.mk [0] (⟨i+1,by omega⟩) rfl (by unfold DJ;exact nC) zqO)|refine zqN ?_|refine NM ?_|refine NP ?_|(refine NQ ?_ ?_<;>intro hc<;>try exact zqM))
 all_goals first
  |((refine Ends.mk2 zqI [0] ?_;simp-dsimp(disch:=try exact vD) only[push_cast,simprocAttr,Tryz.f212];try exact zqF);done)
  |skip
def reI(X w y:List Int)(j n:Nat)(i:{i:Nat // i≤n+1}):St:=
 ⟨37,1,[(0,.sl 0 j (n+1) 1),(1,.isl false (cI .u32 y) n),(4,.val (.int .u32 (pC w y i.val))),(8,.val (.int .i64 ((n:Int)+1))),(9,.val (.int .i64 i.val))],[(0,some (.cells (cI .u32 (reZ X w y j n i.val)) 136))]⟩
theorem Gg(hX:Lim X)(hXl:X.length=M)(hy:Lim y)(hl:y.length=n)(hj:j+n+1≤M)(hM:M<2^30)(hw:(X.drop j).take (n+1)=w):
 ACall Tryz.prog 213 [.sl 0 j (n+1) 1,.isl false (cI .u32 y) n] [.cells (cI .u32 X) 136] 1 (.tup []) [.cells (cI .u32 (sbZ X j n (pL w y (n+1)))) 136]:=by
 subst hXl
 have hwl:w.length=n+1:=by rw[←hw];exact IR hj
 have hwL:Lim w:=by rw[←hw];exact hX.drop.take
 have e0:X=reZ X w y j n 0:=by rw[←hw];exact(DF hj).symm
 have zx9:reZ X w y j n (n+1)=sbZ X j n (pL w y (n+1)):=by unfold reZ;rw[List.drop_eq_nil_of_le (by omega),List.append_nil]
 have hln:∀(i:Nat),i≤n+1→(reZ X w y j n i).length=X.length:=fun i h=>Bc (X:=X) (j:=j) (o7 (T:=pL w y i) pL_len hwl h) hj
 have hgt:∀(i:Nat),i<n+1→(reZ X w y j n i).getD (j+i) 0=w.getD i 0:=fun i h=>(IL (X:=X) (j:=j) (o7 (T:=pL w y i) pL_len hwl (by omega)) hj h).trans (IP pL_len hwl h)
 have hst:∀(i:Nat) (x:Int),i<n+1→(reZ X w y j n i).set (j+i) x=sbZ X j n ((pL w y i++[x])++w.drop (i+1)):=fun i x h=>(IM (X:=X) (j:=j) (x:=x) (o7 (T:=pL w y i) pL_len hwl (by omega)) hj h).trans (congrArg (sbZ X j n) (IQ pL_len hwl h))
 have hcr:=fun(i:Nat)=>uz (a:=w) (b:=y) (i:=i)
 clear hw
 have zx2:=ae;have zx3:=ae;have zx4:=ae;have zx5:=ae;have zx6:=ae;have zx7:=ae;have zx8:=ae
 revert e0
 generalize hXX:cI IntKind.u32 X=C
 intro e00
 have e0:C=cI IntKind.u32 (reZ X w y j n 0):=by rw[←e00];exact hXX.symm
 subst e0
 clear hXX e00
 refine az Tryz.func213 Tryz.ntmps213 rfl ?_
 have zx1:= @gd0;have zx10:= @aas;have zx11:=aD;have zx12:=aD;repeat' (first|(refine ai ?_;refine au [0] ([0].length) (reI X w y j n) (fun i=>n+1-i.val) (⟨0,Nat.zero_le _⟩) rfl (by unfold reI;exact bX) ?_;(rintro⟨i,hi⟩;have hci:=hcr i;have zx8:=hln i hi;rcases Nat.lt_or_eq_of_le hi with hil|hil<;>first|(subst hil;(simp-dsimp only[reI];refine zqS ?_))|(have hwr:=hwL.at i;have hyr:=hy.at i;have zx6:=hgt i hil;have zx7:=fun x=>hst i x hil;rcases Nat.lt_or_ge i n with him|him<;>rcases Decidable.em (1000000000≤w.getD i 0+pC w y i+y.getD i 0) with zx2|zx2<;>first|(have zx5:y.getD i 0=0:=dY (by omega);have zx3:=IW (X:=X) (j:=j) (n:=n) (F6 zx2);have zx4:=F4 zx2;rw[zx5,Int.add_zero] at zx3 zx2;(simp-dsimp only[reI];refine zqS ?_))|(have zx5:y.getD i 0=0:=dY (by omega);have zx3:=IW (X:=X) (j:=j) (n:=n) (F7 zx2);have zx4:=F5 zx2;rw[zx5,Int.add_zero] at zx3 zx2;(simp-dsimp only[reI];refine zqS ?_))|(have zx3:=IW (X:=X) (j:=j) (n:=n) (F6 zx2);have zx4:=F4 zx2;(simp-dsimp only[reI];refine zqS ?_))|(have zx3:=IW (X:=X) (j:=j) (n:=n) (F7 zx2);have zx4:=F5 zx2;(simp-dsimp only[reI];refine zqS ?_)))))|(refine aj ?_;refine Nxt.mk [0] (⟨i+1,by omega⟩) rfl (by unfold reI;exact bX) zqO)|refine zqN ?_|refine jV ?_|refine jW ?_|(refine jX ?_ ?_<;>intro hc<;>try exact zqM))
 all_goals first
  |((refine Ends.mk2 zqI [0] ?_;simp-dsimp(disch:=try exact vD) only[push_cast,simprocAttr,Tryz.f213];try exact zqF);done)
  |skip
end
section
open Go Go.Sy Go.Bp Go.Lm
attribute [local irreducible] AO AL AC OpT ACall Ends DGo aN Thn Blk Nxt
variable {n N M k i m j:Nat} {z z' neg:Bool} {l a b:List Int} {v x y:Int}
theorem IX{c:Int}:(pL a b n++[c]).take (n+1)=pL a b n++[c]:=List.take_of_length_le (by rw[List.length_append,pL_len];exact Nat.le_refl _)
theorem Xf:(mL a b n).take n=mL a b n:=List.take_of_length_le (by rw[nZ];exact Nat.le_refl _)
def psI(z z':Bool)(a b:List Int)(n m:Nat)(i:{i:Nat // i≤n}):St:=
 ⟨53,0,[(0,.isl z (cI .u32 a) n),(1,.isl z' (cI .u32 b) m),(5,.sl 0 0 i.val 1),(6,.val (.int .u32 (pC a b i.val))),(20,.isl z (cI .u32 a) n),(21,.val (.int .i64 n)),(22,.val (.int .i64 i.val))],[(0,some (.cells (cI .u32 (pL a b i.val)) 136))]⟩
theorem aaO(ha:Lim a)(hb:Lim b)(hl:a.length=n)(hm:b.length=m)(hle:m≤n)(hn:n<2^40):ACall Tryz.prog 216 [.isl z (cI .u32 a) n,.isl z' (cI .u32 b) m] [] 0 (.isl false (cI .u32 (nY a b)) (n+1)) []:=by
 have zx2:=ae;have zx3:=ae;have zx4:=ae;have zx5:=ae
 unfold nY
 rw[hl]
 refine az Tryz.func216 Tryz.ntmps216 rfl ?_
 have zx1:= @gd0;have zx6:= @pL_z;have zx7:= @aas;have zx8:= @pL_len;have zx9:= @fQ;repeat' (first|(refine ai ?_;refine au [0] ([0].length) (psI z z' a b n m) (fun i=>n-i.val) (⟨0,Nat.zero_le _⟩) rfl (by unfold psI;exact dM) ?_;(rintro⟨i,hi⟩;have hpr:=uz (a:=a) (b:=b) (i:=i);rcases Nat.lt_or_eq_of_le hi with hil|hil<;>first|(have ei:n=i:=hil.symm;subst ei;(simp-dsimp only[psI];refine zqS ?_))|(have har:=ha.at i;have hbr:=hb.at i;rcases Nat.lt_or_ge i m with him|him<;>rcases Decidable.em (1000000000≤a.getD i 0+pC a b i+b.getD i 0) with zx2|zx2<;>first|(have zx5:b.getD i 0=0:=dY (by omega);have zx3:=F6 zx2;have zx4:=F4 zx2;rw[zx5,Int.add_zero] at zx3 zx2;(simp-dsimp only[psI];refine zqS ?_))|(have zx5:b.getD i 0=0:=dY (by omega);have zx3:=F7 zx2;have zx4:=F5 zx2;rw[zx5,Int.add_zero] at zx3 zx2;(simp-dsimp only[psI];refine zqS ?_))|(have zx3:=F6 zx2;have zx4:=F4 zx2;(simp-dsimp only[psI];refine zqS ?_))|(have zx3:=F7 zx2;have zx4:=F5 zx2;(simp-dsimp only[psI];refine zqS ?_)))))|(refine aj ?_;refine Nxt.mk [2] (⟨i+1,by omega⟩) rfl (by unfold psI;exact dM) zqO)|(refine aj ?_;refine Nxt.mk [1] (⟨i+1,by omega⟩) rfl (by unfold psI;exact dM) zqO)|refine zqN ?_|((first|refine ax rfl (fun K hK=>?_)|refine ak (fun K hK=>?_));(first|apply mJ);refine qD ?_;apply hK;clear hK K)|refine rJ ?_|refine rM ?_|refine rO ?_|refine rP ?_|refine rT ?_|(refine rU ?_ ?_<;>intro hc<;>try exact zqM))
 all_goals first
  |(((refine Ends.frz 2 ?_;simp-dsimp(disch:=try exact vD) only[push_cast,simprocAttr,Tryz.f216,IX];(repeat refine aI ?_);intro K hK;refine hK _ _ ?_;clear hK K);refine Ends.mk2 zqI [] ?_;simp-dsimp(disch:=try exact vD) only[push_cast,simprocAttr,Tryz.f216,IX];try exact zqF);done)
  |skip
theorem aaP(ha:Lim a)(hb:Lim b)(hl:a.length=n)(hm:b.length=m)(hle:m<n)(hn:n<2^40):ACall Tryz.prog 216 [.isl z' (cI .u32 b) m,.isl z (cI .u32 a) n] [] 0 (.isl false (cI .u32 (nY a b)) (n+1)) []:=by
 have zx2:=ae;have zx3:=ae;have zx4:=ae;have zx5:=ae
 unfold nY
 rw[hl]
 refine az Tryz.func216 Tryz.ntmps216 rfl ?_
 have zx1:= @gd0;have zx6:= @pL_z;have zx7:= @aas;have zx8:= @pL_len;have zx9:= @fQ;repeat' (first|(refine ai ?_;refine au [0] ([0].length) (psI z z' a b n m) (fun i=>n-i.val) (⟨0,Nat.zero_le _⟩) rfl (by unfold psI;exact dM) ?_;(rintro⟨i,hi⟩;have hpr:=uz (a:=a) (b:=b) (i:=i);rcases Nat.lt_or_eq_of_le hi with hil|hil<;>first|(have ei:n=i:=hil.symm;subst ei;(simp-dsimp only[psI];refine zqS ?_))|(have har:=ha.at i;have hbr:=hb.at i;rcases Nat.lt_or_ge i m with him|him<;>rcases Decidable.em (1000000000≤a.getD i 0+pC a b i+b.getD i 0) with zx2|zx2<;>first|(have zx5:b.getD i 0=0:=dY (by omega);have zx3:=F6 zx2;have zx4:=F4 zx2;rw[zx5,Int.add_zero] at zx3 zx2;(simp-dsimp only[psI];refine zqS ?_))|(have zx5:b.getD i 0=0:=dY (by omega);have zx3:=F7 zx2;have zx4:=F5 zx2;rw[zx5,Int.add_zero] at zx3 zx2;(simp-dsimp only[psI];refine zqS ?_))|(have zx3:=F6 zx2;have zx4:=F4 zx2;(simp-dsimp only[psI];refine zqS ?_))|(have zx3:=F7 zx2;have zx4:=F5 zx2;(simp-dsimp only[psI];refine zqS ?_)))))|(refine aj ?_;refine Nxt.mk [2] (⟨i+1,by omega⟩) rfl (by unfold psI;exact dM) zqO)|(refine aj ?_;refine Nxt.mk [1] (⟨i+1,by omega⟩) rfl (by unfold psI;exact dM) zqO)|refine zqN ?_|((first|refine ax rfl (fun K hK=>?_)|refine ak (fun K hK=>?_));(first|apply mJ);refine qD ?_;apply hK;clear hK K)|refine rJ ?_|refine rM ?_|refine rO ?_|refine rP ?_|refine rT ?_|(refine rU ?_ ?_<;>intro hc<;>try exact zqM))
 all_goals first
  |(((refine Ends.frz 2 ?_;simp-dsimp(disch:=try exact vD) only[push_cast,simprocAttr,Tryz.f216,IX];(repeat refine aI ?_);intro K hK;refine hK _ _ ?_;clear hK K);refine Ends.mk2 zqI [] ?_;simp-dsimp(disch:=try exact vD) only[push_cast,simprocAttr,Tryz.f216,IX];try exact zqF);done)
  |skip
def mnI(z z':Bool)(a b:List Int)(n m:Nat)(i:{i:Nat // i≤n}):St:=
 ⟨45,0,[(1,.isl z' (cI .u32 b) m),(5,.sl 0 0 i.val 1),(6,.val (.int .u32 (mC a b i.val))),(13,.isl z (cI .u32 a) n),(14,.val (.int .i64 n)),(15,.val (.int .i64 i.val))],[(0,some (.cells (cI .u32 (mL a b i.val)) 136))]⟩
theorem IY(ha:Lim a)(hb:Lim b)(hl:a.length=n)(hm:b.length=m)(hle:m≤n)(hn:n<2^40)(hv:val b≤val a):ACall Tryz.prog 217 [.isl z (cI .u32 a) n,.isl z' (cI .u32 b) m] [] 0 (.isl false (cI .u32 (lb (val a-val b).toNat)) (lb (val a-val b).toNat).length) []:=by
 have zx2:=ae;have zx3:=ae;have zx4:=ae;have zx5:=ae
 have hmo:=Dl ha hb (by omega) hv
 rw[hl] at hmo
 have hml:(mL a b n).length=n:=nZ
 have ht:=PLift.up (lG (z:=false) (l:=mL a b n) hml (by omega))
 have e1:=jr hmo.1
 have e2:=jv hmo.1
 rw[hml,hmo.2] at e1 e2
 rw[e1,←e2] at ht
 generalize lb (val a-val b).toNat=R at ht⊢
 refine az Tryz.func217 Tryz.ntmps217 rfl ?_
 have zx1:= @gd0;have zx6:= @mL_z;have zx7:= @mC_0;have zx8:= @nZ;have zx9:= @fQ;have zx10:= @Xf;have zx11:=aD;have zx12:=aD;repeat' (first|((first|refine dP (r:=15) 0 ?_|refine dO (r:=15) 0 ?_);refine CS ?_;intro K hK;refine hK _ _ ?_;clear hK K)|(refine ai ?_;refine au [0] ([0].length) (mnI z z' a b n m) (fun i=>n-i.val) (⟨0,Nat.zero_le _⟩) rfl (by unfold mnI;exact bX) ?_;(rintro⟨i,hi⟩;have hpr:=uA (a:=a) (b:=b) (i:=i);rcases Nat.lt_or_eq_of_le hi with hil|hil<;>first|(have ei:n=i:=hil.symm;subst ei;(simp-dsimp only[mnI];refine zqS ?_))|(have har:=ha.at i;have hbr:=hb.at i;rcases Nat.lt_or_ge i m with him|him<;>rcases Decidable.em (a.getD i 0<mC a b i+b.getD i 0) with zx2|zx2<;>first|(have zx5:b.getD i 0=0:=dY (by omega);have zx3:=aat zx2;have zx4:=Vd zx2;rw[zx5,Int.add_zero] at zx3 zx2;(simp-dsimp only[mnI];refine zqS ?_))|(have zx5:b.getD i 0=0:=dY (by omega);have zx3:=aau zx2;have zx4:=Ve zx2;rw[zx5,Int.add_zero] at zx3 zx2;(simp-dsimp only[mnI];refine zqS ?_))|(have zx3:=aat zx2;have zx4:=Vd zx2;(simp-dsimp only[mnI];refine zqS ?_))|(have zx3:=aau zx2;have zx4:=Ve zx2;(simp-dsimp only[mnI];refine zqS ?_)))))|(refine aj ?_;refine Nxt.mk [2] (⟨i+1,by omega⟩) rfl (by unfold mnI;exact bX) zqO)|(refine aj ?_;refine Nxt.mk [1] (⟨i+1,by omega⟩) rfl (by unfold mnI;exact bX) zqO)|refine zqN ?_|refine bW ht.down ?_|((first|refine ax rfl (fun K hK=>?_)|refine ak (fun K hK=>?_));(first|apply mJ);refine CS ?_;apply hK;clear hK K)|refine jV ?_|refine Fu ?_|refine Fv ?_|refine Fw ?_|refine jW ?_|(refine jX ?_ ?_<;>intro hc<;>try exact zqM))
 all_goals first
  |((refine Ends.mk2 zqI [] ?_;simp-dsimp(disch:=try exact vD) only[push_cast,simprocAttr,Tryz.f217];try exact zqF);done)
  |skip
end
section
open Go Go.Sy Go.Bp Go.Lm
attribute [local irreducible] AO AL AC OpT ACall Ends DGo aN Thn Blk Nxt
variable {n N M k i m j:Nat} {z z' neg:Bool} {l a b T:List Int} {v x y:Int}
def tmI(z z':Bool)(a b:List Int)(n m:Nat)(i:{i:Nat // i≤n}):St:=
 ⟨69,0,[(1,.isl z' (cI .u32 b) m),(5,.sl 0 0 (n+m) 1),(18,.isl z (cI .u32 a) n),(19,.val (.int .i64 n)),(20,.val (.int .i64 i.val))],[(0,some (.cells (cI .u32 (tT a b i.val)) 136))]⟩
def tmJ(z z':Bool)(a b:List Int)(n m i:Nat)(x:Int)(T:List Int)(k:{k:Nat // k≤m}):St:=
 ⟨69,0,[(1,.isl z' (cI .u32 b) m),(5,.sl 0 0 (n+m) 1),(6,.val (.int .i64 i)),(7,.val (.int .u32 x)),(8,.val (.int .u64 (tK x b i T k.val).2)),(18,.isl z (cI .u32 a) n),(19,.val (.int .i64 n)),(20,.val (.int .i64 i)),(25,.isl z' (cI .u32 b) m),(26,.val (.int .i64 m)),(27,.val (.int .i64 k.val))],[(0,some (.cells (cI .u32 (tK x b i T k.val).1) 136))]⟩
theorem Vw(ha:Lim a)(hb:Lim b)(hl:a.length=n)(hm:b.length=m)(hn:n<2^30)(hn2:m<2^30):ACall Tryz.prog 205 [.isl z (cI .u32 a) n,.isl z' (cI .u32 b) m] [] 0 (.isl false (cI .u32 (lb (val a*val b).toNat)) (lb (val a*val b).toNat).length) []:=by
 have zx2:=ae;have zx3:=ae;have zx4:=ae;have zx5:=ae;have zx6:=ae
 have hmo:=OW ha hb
 rw[hl] at hmo
 have hml:(tT a b n).length=n+m:=by rw[F8,hl,hm]
 have ht:=PLift.up (lG (z:=false) (l:=tT a b n) hml (by omega))
 have e1:=jr hmo.1
 have e2:=jv hmo.1
 rw[hml,hmo.2] at e1 e2
 rw[e1,←e2] at ht
 have zx8:(tT a b n).take (n+m)=tT a b n:=List.take_of_length_le (by omega)
 have zx7:tT a b 0=List.replicate (n+m) 0:=by rw[aaw,hl,hm]
 have hts:=fun(i:Nat)=>aax (a:=a) (b:=b) (i:=i)
 have hok:=fun(i:Nat) (h:i≤n)=>WY (i:=i) ha hb (by omega)
 have hTl:=fun(i:Nat)=>F8 (a:=a) (b:=b) (i:=i)
 rw[hm] at hts
 rw[hl,hm] at hTl
 clear e1 e2 hmo
 generalize lb (val a*val b).toNat=R at ht⊢
 refine az Tryz.func205 Tryz.ntmps205 rfl ?_
 have zx1:= @gd0;have zx9:= @tK_0;have zx10:= @xR;have zx11:=aD;have zx12:=aD;repeat' (first|((first|refine dP (r:=15) 0 ?_|refine dO (r:=15) 0 ?_);refine CS ?_;intro K hK;refine hK _ _ ?_;clear hK K)|(refine ai ?_;refine au [0] ([0].length) (tmJ z z' a b n m i x T) (fun k=>m-k.val) (⟨0,Nat.zero_le _⟩) rfl (by unfold tmJ;exact bX) ?_;(rintro⟨k,hk⟩;obtain⟨g1,g2,g3,g4,g5⟩:=WX (i:=i) (k:=k) hTi hb hxr (by omega);have hlT:(tK x b i T k).1.length=n+m:=(by rw[xR];exact hTT);rcases Nat.lt_or_eq_of_le hk with hkl|hkl<;>first|(have ek:m=k:=hkl.symm;subst ek;(simp-dsimp only[tmJ];refine zqS ?_))|(have zx3:=aav (x:=x) (b:=b) (i:=i) (T:=T) (k:=k);have hra:=g1.at (i+k);have hrb:=hb.at k;have hmr:=kg hxr hrb;generalize zx5:tK x b i T k=P at*;obtain⟨L,c⟩:=P;dsimp only at*;generalize zx6:x*b.getD k 0=pp at*;(simp-dsimp only[tmJ];refine zqS ?_))))|(refine aj ?_;refine Nxt.mk [0] (⟨k+1,by omega⟩) rfl (by unfold tmJ;exact bX) zqO)|(refine ai ?_;refine au [0] ([0].length) (tmI z z' a b n m) (fun i=>n-i.val) (⟨0,Nat.zero_le _⟩) rfl (by unfold tmI;exact bX) ?_;(rintro⟨i,hi⟩;rcases Nat.lt_or_eq_of_le hi with hil|hil<;>first|(have ei:n=i:=hil.symm;subst ei;(simp-dsimp only[tmI];refine zqS ?_))|(have hxr:=ha.at i;have hTi:=(hok i hi).1;have hTT:=hTl i;have zx4:=hts i;generalize zx2:a.getD i 0=x at*;dsimp only[tmI];generalize tT a b i=T at*;(simp-dsimp(disch:=try exact vD) only[push_cast,simprocAttr,]))))|(refine aj ?_;refine Nxt.mk [0] (⟨i+1,by omega⟩) rfl (by unfold tmI;exact bX) zqO)|refine zqN ?_|refine bW ht.down ?_|refine jV ?_|refine jW ?_|(refine jX ?_ ?_<;>intro hc<;>try exact zqM))
 all_goals first
  |((refine Ends.mk2 zqI [] ?_;simp-dsimp(disch:=try exact vD) only[push_cast,simprocAttr,Tryz.f205];try exact zqF);done)
  |skip
end
