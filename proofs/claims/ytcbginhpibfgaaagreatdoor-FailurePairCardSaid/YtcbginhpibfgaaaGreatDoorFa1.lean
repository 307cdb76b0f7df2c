/- Fa1. No condition. -/
import Derived.Test.YtcbginhpibfgaaaGreatDoorLr6
set_option linter.all false
set_option maxHeartbeats 4000000
set_option maxRecDepth 20000
namespace Go.Proofs.YtcbginhpibfgaaaGreatDoor
open Go Go.Sy Go.Bp Go.Lm Go.Rt
attribute [local irreducible] AO AL AC OpT ACall Ends DGo bK Thn Blk Nxt
variable {n N M k i m j:Nat} {z z' neg:Bool} {l:List Int} {a b v x y e s c:Int} {A B C P Q:IV} {p q:Rat} {X Y W:RV}
theorem Mj(v:Int):Rat.divInt v 1=(v:Rat):=by
 rw[Rat.divInt_eq_div,show((1:Int):Rat)=1 from rfl];grind
theorem Mk(h:ACall Tryz.prog 84 [.val (.int .i64 v),.val (.int .i64 1)] [] 0 (.tup [.agg (aa.cells X),.val (.int .i64 0)]) []):ACall Tryz.prog 53 [.val (.int .i64 v)] [] 0 (.agg (aa.cells X)) []:=by
 have h:=PLift.up h
 refine ak Tryz.func53 Tryz.ntmps53 rfl ?_
 repeat' (first|refine zqN ?_|refine az h.down ?_|refine aK ?_|refine aL ?_|(refine aM ?_ ?_<;>intro hc<;>try exact zqM))
 all_goals first
  |((refine Ends.mk2 zqI [] ?_;simp-dsimp(disch:=try exact vD) only[push_cast,simprocAttr,Tryz.f53];try exact zqF);done)
  |skip
theorem gX(h:I64 v):ACall Tryz.prog 53 [.val (.int .i64 v)] [] 0 (.agg (aa.cells (rC (v:Rat)))) []:=by
 have:=ak9 (b:=1) h (by decide) (by decide)
 rw[Mj] at this
 exact Mk this
theorem Ty(h:ACall Tryz.prog 132 [.agg (aa.cells X),.agg (aa.cells Y)] [] 0 (.tup [.val (.int .i64 c),.val (.int .i64 0)]) []):ACall Tryz.prog 101 [.agg (aa.cells X),.agg (aa.cells Y)] [] 0 (.val (.bool (decide (c<0)))) []:=by
 have h:=PLift.up h
 rw[aB X,aB Y]
 refine ak Tryz.func101 Tryz.ntmps101 rfl ?_
 repeat' (first|refine zqN ?_|refine az h.down ?_|refine aK ?_|refine aL ?_|(refine aM ?_ ?_<;>intro hc<;>try exact zqM))
 all_goals first
  |((refine Ends.mk2 zqI [] ?_;simp-dsimp(disch:=try exact vD) only[push_cast,simprocAttr,Tryz.f101];try exact zqF);done)
  |skip
theorem cmp_lt:decide (gp x y<0)=decide (x<y):=by
 refine decide_eq_decide.2 ?_
 unfold gp
 by_cases h:x<y
 ·rw[if_pos h];omega
 ·rw[if_neg h];split<;>omega
theorem QK(h:ROk z p)(h2:ROk z' q)(d1:D300 (p.num*q.den))(d2:D300 (q.num*p.den)):ACall Tryz.prog 101 [.agg (aa.cells (rQ z p)),.agg (aa.cells (rQ z' q))] [] 0 (.val (.bool (decide (p<q)))) []:=by
 have:=Ty (adz h h2 d1 d2)
 rw[cmp_lt] at this
 rw[show decide (p<q)=decide (p.num*q.den<q.num*p.den) from decide_eq_decide.2 J8];exact this
def chE(q:Rat):Int:=if q<0∨1<q then 7 else if 1000000<q.den then 3 else 0
open Classical in
noncomputable def pE (X:RV):Int:=if h:∃q,RIs X q then chE h.choose else 1
theorem QL(h:RIs X q):pE X=chE q:=by
 have h2:∃q,RIs X q:=⟨q,h⟩
 unfold pE
 rw[dif_pos h2]
 rw[(h2.choose_spec).inj h]
theorem OX(h:¬∃q,RIs X q):pE X=1:=dif_neg h
theorem RIs.ok(h:RIs X q):∃z,X=rQ z q∧ROk z q:=by
 obtain⟨z,e,h1,h2,h3⟩:=h
 exact⟨z,e,⟨h2,h1⟩,h3⟩
theorem alc(h:chE q=0):0≤q∧q≤1∧q.den≤1000000:=by
 unfold chE at h
 by_cases h1:q<0∨1<q
 ·rw[if_pos h1] at h;cases h
 ·rw[if_neg h1] at h
  by_cases h2:1000000<q.den
  ·rw[if_pos h2] at h;cases h
  ·exact⟨Rat.not_lt.1 fun hc=>h1 (.inl hc),Rat.not_lt.1 fun hc=>h1 (.inr hc),by omega⟩
theorem pE_0(h:pE X=0):∃z q,X=rQ z q∧(z=true→q.num=0)∧0≤q∧q≤1∧q.den≤1000000:=by
 by_cases h2:∃q,RIs X q
 ·obtain⟨q,hq⟩:=h2
  rw[QL hq] at h
  obtain⟨z,e,hz⟩:=hq.ok
  obtain⟨h3,h4,h5⟩:=alc h
  exact⟨z,q,e,hz.n.z,h3,h4,h5⟩
 ·rw[OX h2] at h;cases h
theorem Yk(h:ACall Tryz.prog 100 [.agg (aa.cells X)] [] 0 (.val (.bool false)) []):ACall Tryz.prog 64 [.agg (aa.cells X)] [] 0 (.val (.int .i64 1)) []:=by
 have h:=PLift.up h
 rw[aB X]
 refine ak Tryz.func64 Tryz.ntmps64 rfl ?_
 repeat' (first|refine zqN ?_|refine az h.down ?_|refine aK ?_|refine aL ?_|(refine aM ?_ ?_<;>intro hc<;>try exact zqM)|refine zqR 3 [⟨0,[],[7],[],[],0⟩,⟨1,[],[6],[],[],0⟩,⟨2,[0,1],[],[],[],0⟩,⟨3,[0,1,2],[],[],[],0⟩,⟨4,[0,1,2,3],[11],[],[],0⟩,⟨5,[0,1,2,3],[10],[],[],0⟩,⟨6,[0,1,2,3,4,5],[],[],[],0⟩,⟨7,[0,1,2,3,4,5,6],[],[],[],0⟩] ?_|refine zqR 5 [⟨0,[],[16],[],[],0⟩,⟨1,[0],[16],[],[],0⟩,⟨2,[],[14,15],[],[],0⟩,⟨3,[0,1,2],[],[],[],0⟩,⟨4,[0,1,2,3],[],[],[],0⟩] ?_|refine zqD ?_|fail)
 all_goals first
  |((refine Ends.mk2 zqI [] ?_;simp-dsimp(disch:=try exact vD) only[push_cast,simprocAttr,Tryz.f64];try exact zqF);done)
  |skip
theorem aiS{Z0 Z1:RV} {ZM:IV} {r1 r2:Bool} {c e:Int}(h:ACall Tryz.prog 100 [.agg (aa.cells X)] [] 0 (.val (.bool true)) [])(n0:ACall Tryz.prog 53 [.val (.int .i64 0)] [] 0 (.agg (aa.cells Z0)) [])(n1:ACall Tryz.prog 53 [.val (.int .i64 1)] [] 0 (.agg (aa.cells Z1)) [])
 (l0:ACall Tryz.prog 101 [.agg (aa.cells X),.agg (aa.cells Z0)] [] 0 (.val (.bool r1)) []) (l1:ACall Tryz.prog 101 [.agg (aa.cells Z1),.agg (aa.cells X)] [] 0 (.val (.bool r2)) [])
 (nm:ACall Tryz.prog 103 [.val (.int .i64 1000000)] [] 0 (.agg (aa.cells ZM)) []) (cm:ACall Tryz.prog 102 [.agg (aa.cells X.den),.agg (aa.cells ZM)] [] 0 (.val (.int .i64 c)) [])
 (he:e=if r1=true∨r2=true then 7 else if 0<c then 3 else 0):ACall Tryz.prog 64 [.agg (aa.cells X)] [] 0 (.val (.int .i64 e)) []:=by
 subst he
 have h:=PLift.up h;have n0:=PLift.up n0;have n1:=PLift.up n1;have nm:=PLift.up nm;have cm:=PLift.up cm
 rw[aB X]
 cases r1
 ·cases r2
  ·rw[if_neg (by simp)]
   have l0:=PLift.up l0;have l1:=PLift.up l1
   have hcc:=ae
   rcases Decidable.em (0<c) with hcc|hcc
   ·rw[if_pos hcc]
    refine ak Tryz.func64 Tryz.ntmps64 rfl ?_
    repeat' (first|apply dG|apply aF|((first|refine ay rfl (fun K hK=>?_)|refine aj (fun K hK=>?_)|refine aA (fun K hK=>?_));(first|refine ah (f:=100) [] 0 false ?_|refine ah (f:=53) (dst:=some 7) [] 0 false ?_|refine ah (f:=53) (dst:=some 10) [] 0 false ?_|refine ah (f:=101) (dst:=some 8) [] 0 false ?_|refine ah (f:=101) (dst:=some 12) [] 0 false ?_|refine ah (f:=103) [] 0 false ?_|refine ah (f:=102) [] 0 false ?_);simp-dsimp(disch:=try exact vD) only[push_cast,simprocAttr,hcc];(repeat refine aI ?_);intro G hG;refine hG _ _ ?_;clear hG G;(first|refine⟨_,_,h.down,?_⟩|refine⟨_,_,n0.down,?_⟩|refine⟨_,_,n1.down,?_⟩|refine⟨_,_,l0.down,?_⟩|refine⟨_,_,l1.down,?_⟩|refine⟨_,_,nm.down,?_⟩|refine⟨_,_,cm.down,?_⟩);simp-dsimp(disch:=try exact vD) only[push_cast,simprocAttr,hcc];(repeat refine aI ?_);apply hK;clear hK K)|((first|refine ay rfl (fun K hK=>?_)|refine aj (fun K hK=>?_)|refine aA (fun K hK=>?_));(first|apply cO|apply aZ|apply df|apply aT|apply aW|apply fA|apply gJ|apply gK|apply gm|apply dY);simp-dsimp(disch:=try exact vD) only[push_cast,simprocAttr,hcc];(repeat refine aI ?_);apply hK;clear hK K)|((first|refine aQ rfl rfl (fun K1 K2 h1 h2=>?_) rfl|refine aJ (fun K1 K2 h1 h2=>?_)|refine bL rfl rfl (fun K1 K2 h1 h2=>?_));simp-dsimp(disch:=try exact vD) only[push_cast,simprocAttr,hcc];(first|(refine⟨fun hc=>?_,fun hc=>?_⟩<;>first|(exfalso;omega)|(exfalso;contradiction)|refine h1 ?_|refine h2 ?_)|refine h1 ?_|refine h2 ?_);all_goals clear h1 h2 K1 K2)|(refine aV (id:=3) (by kernel_rfl) [⟨0,[],[7],[],[],0⟩,⟨1,[],[6],[],[],0⟩,⟨2,[0,1],[],[],[],0⟩,⟨3,[0,1,2],[],[],[],0⟩,⟨4,[0,1,2,3],[11],[],[],0⟩,⟨5,[0,1,2,3],[10],[],[],0⟩,⟨6,[0,1,2,3,4,5],[],[],[],0⟩,⟨7,[0,1,2,3,4,5,6],[],[],[],0⟩] (by kernel_rfl) (by kernel_rfl) (by kernel_rfl) ?_)|(refine aV (id:=5) (by kernel_rfl) [⟨0,[],[16],[],[],0⟩,⟨1,[0],[16],[],[],0⟩,⟨2,[],[14,15],[],[],0⟩,⟨3,[0,1,2],[],[],[],0⟩,⟨4,[0,1,2,3],[],[],[],0⟩] (by kernel_rfl) (by kernel_rfl) (by kernel_rfl) ?_)|((first|refine dW (by kernel_rfl) (fun K hK=>?_)|refine gy (by kernel_rfl) (fun K hK=>?_));simp only[↓Go.Sy.dz,↓Go.Sy.dA,↓Go.Sy.dU,↓Go.Sy.dD,↓Go.Sy.dV,↓Go.Sy.cZ,↓Go.Sy.dE,push_cast,Nat.reduceLeDiff,Nat.reduceSub,Nat.reduceBEq,Nat.reduceEqDiff,Nat.reduceAdd,Nat.reduceLT,↓reduceIte,reduceCtorEq];refine hK _ _ _ ?_;clear hK K)|apply jl|apply dH|apply aR|apply bX|apply bz|apply aS|apply bY|apply bA|(refine aY rfl ?_)|apply bB|apply bW|apply bV|apply dF)
    all_goals first
     |((refine Ends.mk2 (by first|exact .inr rfl|exact .inl rfl) [] ?_;simp-dsimp(disch:=try exact vD) only[push_cast,simprocAttr,Tryz.f64];try exact zqF);done)
     |skip
   ·rw[if_neg hcc]
    refine ak Tryz.func64 Tryz.ntmps64 rfl ?_
    repeat' (first|apply dG|apply aF|((first|refine ay rfl (fun K hK=>?_)|refine aj (fun K hK=>?_)|refine aA (fun K hK=>?_));(first|refine ah (f:=100) [] 0 false ?_|refine ah (f:=53) (dst:=some 7) [] 0 false ?_|refine ah (f:=53) (dst:=some 10) [] 0 false ?_|refine ah (f:=101) (dst:=some 8) [] 0 false ?_|refine ah (f:=101) (dst:=some 12) [] 0 false ?_|refine ah (f:=103) [] 0 false ?_|refine ah (f:=102) [] 0 false ?_);simp-dsimp(disch:=try exact vD) only[push_cast,simprocAttr,hcc];(repeat refine aI ?_);intro G hG;refine hG _ _ ?_;clear hG G;(first|refine⟨_,_,h.down,?_⟩|refine⟨_,_,n0.down,?_⟩|refine⟨_,_,n1.down,?_⟩|refine⟨_,_,l0.down,?_⟩|refine⟨_,_,l1.down,?_⟩|refine⟨_,_,nm.down,?_⟩|refine⟨_,_,cm.down,?_⟩);simp-dsimp(disch:=try exact vD) only[push_cast,simprocAttr,hcc];(repeat refine aI ?_);apply hK;clear hK K)|((first|refine ay rfl (fun K hK=>?_)|refine aj (fun K hK=>?_)|refine aA (fun K hK=>?_));(first|apply cO|apply aZ|apply df|apply aT|apply aW|apply fA|apply gJ|apply gK|apply gm|apply dY);simp-dsimp(disch:=try exact vD) only[push_cast,simprocAttr,hcc];(repeat refine aI ?_);apply hK;clear hK K)|((first|refine aQ rfl rfl (fun K1 K2 h1 h2=>?_) rfl|refine aJ (fun K1 K2 h1 h2=>?_)|refine bL rfl rfl (fun K1 K2 h1 h2=>?_));simp-dsimp(disch:=try exact vD) only[push_cast,simprocAttr,hcc];(first|(refine⟨fun hc=>?_,fun hc=>?_⟩<;>first|(exfalso;omega)|(exfalso;contradiction)|refine h1 ?_|refine h2 ?_)|refine h1 ?_|refine h2 ?_);all_goals clear h1 h2 K1 K2)|(refine aV (id:=3) (by kernel_rfl) [⟨0,[],[7],[],[],0⟩,⟨1,[],[6],[],[],0⟩,⟨2,[0,1],[],[],[],0⟩,⟨3,[0,1,2],[],[],[],0⟩,⟨4,[0,1,2,3],[11],[],[],0⟩,⟨5,[0,1,2,3],[10],[],[],0⟩,⟨6,[0,1,2,3,4,5],[],[],[],0⟩,⟨7,[0,1,2,3,4,5,6],[],[],[],0⟩] (by kernel_rfl) (by kernel_rfl) (by kernel_rfl) ?_)|(refine aV (id:=5) (by kernel_rfl) [⟨0,[],[16],[],[],0⟩,⟨1,[0],[16],[],[],0⟩,⟨2,[],[14,15],[],[],0⟩,⟨3,[0,1,2],[],[],[],0⟩,⟨4,[0,1,2,3],[],[],[],0⟩] (by kernel_rfl) (by kernel_rfl) (by kernel_rfl) ?_)|((first|refine dW (by kernel_rfl) (fun K hK=>?_)|refine gy (by kernel_rfl) (fun K hK=>?_));simp only[↓Go.Sy.dz,↓Go.Sy.dA,↓Go.Sy.dU,↓Go.Sy.dD,↓Go.Sy.dV,↓Go.Sy.cZ,↓Go.Sy.dE,push_cast,Nat.reduceLeDiff,Nat.reduceSub,Nat.reduceBEq,Nat.reduceEqDiff,Nat.reduceAdd,Nat.reduceLT,↓reduceIte,reduceCtorEq];refine hK _ _ _ ?_;clear hK K)|apply jl|apply dH|apply aR|apply bX|apply bz|apply aS|apply bY|apply bA|(refine aY rfl ?_)|apply bB|apply bW|apply bV|apply dF)
    all_goals first
     |((refine Ends.mk2 (by first|exact .inr rfl|exact .inl rfl) [] ?_;simp-dsimp(disch:=try exact vD) only[push_cast,simprocAttr,Tryz.f64];try exact zqF);done)
     |skip
  ·rw[if_pos (.inr rfl)]
   have l0:=PLift.up l0;have l1:=PLift.up l1
   refine ak Tryz.func64 Tryz.ntmps64 rfl ?_
   repeat' (first|apply dG|apply aF|((first|refine ay rfl (fun K hK=>?_)|refine aj (fun K hK=>?_)|refine aA (fun K hK=>?_));(first|refine ah (f:=100) [] 0 false ?_|refine ah (f:=53) (dst:=some 7) [] 0 false ?_|refine ah (f:=53) (dst:=some 10) [] 0 false ?_|refine ah (f:=101) (dst:=some 8) [] 0 false ?_|refine ah (f:=101) (dst:=some 12) [] 0 false ?_);simp-dsimp(disch:=try exact vD) only[push_cast,simprocAttr];(repeat refine aI ?_);intro G hG;refine hG _ _ ?_;clear hG G;(first|refine⟨_,_,h.down,?_⟩|refine⟨_,_,n0.down,?_⟩|refine⟨_,_,n1.down,?_⟩|refine⟨_,_,l0.down,?_⟩|refine⟨_,_,l1.down,?_⟩);simp-dsimp(disch:=try exact vD) only[push_cast,simprocAttr];(repeat refine aI ?_);apply hK;clear hK K)|((first|refine ay rfl (fun K hK=>?_)|refine aj (fun K hK=>?_)|refine aA (fun K hK=>?_));(first|apply cO|apply aZ|apply df|apply aT|apply aW|apply fA|apply gJ|apply gK|apply gm|apply dY);simp-dsimp(disch:=try exact vD) only[push_cast,simprocAttr];(repeat refine aI ?_);apply hK;clear hK K)|((first|refine aQ rfl rfl (fun K1 K2 h1 h2=>?_) rfl|refine aJ (fun K1 K2 h1 h2=>?_)|refine bL rfl rfl (fun K1 K2 h1 h2=>?_));simp-dsimp(disch:=try exact vD) only[push_cast,simprocAttr];(first|(refine⟨fun hc=>?_,fun hc=>?_⟩<;>first|(exfalso;omega)|(exfalso;contradiction)|refine h1 ?_|refine h2 ?_)|refine h1 ?_|refine h2 ?_);all_goals clear h1 h2 K1 K2)|(refine aV (id:=3) (by kernel_rfl) [⟨0,[],[7],[],[],0⟩,⟨1,[],[6],[],[],0⟩,⟨2,[0,1],[],[],[],0⟩,⟨3,[0,1,2],[],[],[],0⟩,⟨4,[0,1,2,3],[11],[],[],0⟩,⟨5,[0,1,2,3],[10],[],[],0⟩,⟨6,[0,1,2,3,4,5],[],[],[],0⟩,⟨7,[0,1,2,3,4,5,6],[],[],[],0⟩] (by kernel_rfl) (by kernel_rfl) (by kernel_rfl) ?_)|(refine aV (id:=5) (by kernel_rfl) [⟨0,[],[16],[],[],0⟩,⟨1,[0],[16],[],[],0⟩,⟨2,[],[14,15],[],[],0⟩,⟨3,[0,1,2],[],[],[],0⟩,⟨4,[0,1,2,3],[],[],[],0⟩] (by kernel_rfl) (by kernel_rfl) (by kernel_rfl) ?_)|((first|refine dW (by kernel_rfl) (fun K hK=>?_)|refine gy (by kernel_rfl) (fun K hK=>?_));simp only[↓Go.Sy.dz,↓Go.Sy.dA,↓Go.Sy.dU,↓Go.Sy.dD,↓Go.Sy.dV,↓Go.Sy.cZ,↓Go.Sy.dE,push_cast,Nat.reduceLeDiff,Nat.reduceSub,Nat.reduceBEq,Nat.reduceEqDiff,Nat.reduceAdd,Nat.reduceLT,↓reduceIte,reduceCtorEq];refine hK _ _ _ ?_;clear hK K)|apply jl|apply dH|apply aR|apply bX|apply bz|apply aS|apply bY|apply bA|(refine aY rfl ?_)|apply bB|apply bW|apply bV|apply dF)
   all_goals first
    |((refine Ends.mk2 (by first|exact .inr rfl|exact .inl rfl) [] ?_;simp-dsimp(disch:=try exact vD) only[push_cast,simprocAttr,Tryz.f64];try exact zqF);done)
    |skip
 ·rw[if_pos (.inl rfl)]
  have l0:=PLift.up l0;have l1:=PLift.up l1
  refine ak Tryz.func64 Tryz.ntmps64 rfl ?_
  repeat' (first|apply dG|apply aF|((first|refine ay rfl (fun K hK=>?_)|refine aj (fun K hK=>?_)|refine aA (fun K hK=>?_));(first|refine ah (f:=100) [] 0 false ?_|refine ah (f:=53) (dst:=some 7) [] 0 false ?_|refine ah (f:=53) (dst:=some 10) [] 0 false ?_|refine ah (f:=101) (dst:=some 8) [] 0 false ?_|refine ah (f:=101) (dst:=some 12) [] 0 false ?_);simp-dsimp(disch:=try exact vD) only[push_cast,simprocAttr];(repeat refine aI ?_);intro G hG;refine hG _ _ ?_;clear hG G;(first|refine⟨_,_,h.down,?_⟩|refine⟨_,_,n0.down,?_⟩|refine⟨_,_,n1.down,?_⟩|refine⟨_,_,l0.down,?_⟩|refine⟨_,_,l1.down,?_⟩);simp-dsimp(disch:=try exact vD) only[push_cast,simprocAttr];(repeat refine aI ?_);apply hK;clear hK K)|((first|refine ay rfl (fun K hK=>?_)|refine aj (fun K hK=>?_)|refine aA (fun K hK=>?_));(first|apply cO|apply aZ|apply df|apply aT|apply aW|apply fA|apply gJ|apply gK|apply gm|apply dY);simp-dsimp(disch:=try exact vD) only[push_cast,simprocAttr];(repeat refine aI ?_);apply hK;clear hK K)|((first|refine aQ rfl rfl (fun K1 K2 h1 h2=>?_) rfl|refine aJ (fun K1 K2 h1 h2=>?_)|refine bL rfl rfl (fun K1 K2 h1 h2=>?_));simp-dsimp(disch:=try exact vD) only[push_cast,simprocAttr];(first|(refine⟨fun hc=>?_,fun hc=>?_⟩<;>first|(exfalso;omega)|(exfalso;contradiction)|refine h1 ?_|refine h2 ?_)|refine h1 ?_|refine h2 ?_);all_goals clear h1 h2 K1 K2)|(refine aV (id:=3) (by kernel_rfl) [⟨0,[],[7],[],[],0⟩,⟨1,[],[6],[],[],0⟩,⟨2,[0,1],[],[],[],0⟩,⟨3,[0,1,2],[],[],[],0⟩,⟨4,[0,1,2,3],[11],[],[],0⟩,⟨5,[0,1,2,3],[10],[],[],0⟩,⟨6,[0,1,2,3,4,5],[],[],[],0⟩,⟨7,[0,1,2,3,4,5,6],[],[],[],0⟩] (by kernel_rfl) (by kernel_rfl) (by kernel_rfl) ?_)|(refine aV (id:=5) (by kernel_rfl) [⟨0,[],[16],[],[],0⟩,⟨1,[0],[16],[],[],0⟩,⟨2,[],[14,15],[],[],0⟩,⟨3,[0,1,2],[],[],[],0⟩,⟨4,[0,1,2,3],[],[],[],0⟩] (by kernel_rfl) (by kernel_rfl) (by kernel_rfl) ?_)|((first|refine dW (by kernel_rfl) (fun K hK=>?_)|refine gy (by kernel_rfl) (fun K hK=>?_));simp only[↓Go.Sy.dz,↓Go.Sy.dA,↓Go.Sy.dU,↓Go.Sy.dD,↓Go.Sy.dV,↓Go.Sy.cZ,↓Go.Sy.dE,push_cast,Nat.reduceLeDiff,Nat.reduceSub,Nat.reduceBEq,Nat.reduceEqDiff,Nat.reduceAdd,Nat.reduceLT,↓reduceIte,reduceCtorEq];refine hK _ _ _ ?_;clear hK K)|apply jl|apply dH|apply aR|apply bX|apply bz|apply aS|apply bY|apply bA|(refine aY rfl ?_)|apply bB|apply bW|apply bV|apply dF)
  all_goals first
   |((refine Ends.mk2 (by first|exact .inr rfl|exact .inl rfl) [] ?_;simp-dsimp(disch:=try exact vD) only[push_cast,simprocAttr,Tryz.f64];try exact zqF);done)
   |skip
theorem aeZ:ROk true 0:=⟨⟨Ka,fun _=>rfl⟩,rD⟩
theorem ae0:ROk false 1:=⟨⟨rD,fun h=>by cases h⟩,rD⟩
theorem aiT:rC ((0:Int):Rat)=rQ true 0:=rfl
theorem Yl:rC ((1:Int):Rat)=rQ false 1:=rfl
theorem Ym{x y:Int}:0<gp x y↔y<x:=by
 unfold gp
 by_cases h:x<y
 ·rw[if_pos h];omega
 ·rw[if_neg h];by_cases h2:y<x
  ·rw[if_pos h2];omega
  ·rw[if_neg h2];omega
theorem wX(hX:RIn X):ACall Tryz.prog 64 [.agg (aa.cells X)] [] 0 (.val (.int .i64 (pE X))) []:=by
 obtain⟨r,hr,hv⟩:=IL hX
 by_cases h2:∃q,RIs X q
 ·obtain⟨q,hq⟩:=h2
  rw[hr.2 ⟨q,hq⟩] at hv
  rw[QL hq]
  obtain⟨z,e,hz⟩:=hq.ok
  subst e
  have n0:=gX (v:=0) (by decide)
  have n1:=gX (v:=1) (by decide)
  rw[aiT] at n0;rw[Yl] at n1
  have l0:=QK hz aeZ (by show D300 (q.num*1);rw[Int.mul_one];exact hz.n.d) (by show D300 (0*_);rw[Int.zero_mul];exact Ka)
  have l1:=QK ae0 hz (by show D300 (1*_);rw[Int.one_mul];exact hz.d) (by show D300 (q.num*1);rw[Int.mul_one];exact hz.n.d)
  have nm:=EY (v:=1000000) (by decide) (by decide)
  rw[wN] at nm
  have cm:=Ov (z:=false) (z':=(1000000:Int)==0) hz.d (Fa (v:=1000000) (by decide))
  refine aiS hv n0 n1 l0 l1 nm cm ?_
  unfold chE
  have e1:(q<0∨1<q)↔(decide (q<0)=true∨decide (1<q)=true):=by rw[decide_eq_true_eq,decide_eq_true_eq]
  have e2:1000000<q.den↔0<gp (q.den:Int) 1000000:=by rw[Ym];omega
  by_cases c1:q<0∨1<q
  ·rw[if_pos c1,if_pos (e1.1 c1)]
  ·rw[if_neg c1,if_neg (fun h=>c1 (e1.2 h))]
   by_cases c2:1000000<q.den
   ·rw[if_pos c2,if_pos (e2.1 c2)]
   ·rw[if_neg c2,if_neg (fun h=>c2 (e2.2 h))]
 ·have e:r=false:=by
   cases r with
   |false=>rfl
   |true=>exact absurd (hr.1 rfl) h2
  rw[e] at hv
  rw[OX h2]
  exact Yk hv
abbrev bD:aD:= .cells [.val (.int .i64 0)] 81
theorem Yn:ACall Tryz.prog 85 [.pt 0 0,.agg (aa.cells X),.val (.int .i64 0)] [bD] 1 (.agg (aa.cells X)) [bD]:=by
 unfold bD
 rw[aB X]
 refine ak Tryz.func85 Tryz.ntmps85 rfl ?_
 repeat' (first|refine zqN ?_|refine aK ?_|refine aL ?_|(refine aM ?_ ?_<;>intro hc<;>try exact zqM))
 all_goals first
  |((refine Ends.mk2 zqI [0] ?_;simp-dsimp(disch:=try exact vD) only[push_cast,simprocAttr,Tryz.f85];try exact zqF);done)
  |skip
theorem Tz(h:ACall Tryz.prog 105 [.agg (aa.cells X),.agg (aa.cells Y)] [] 0 (.tup [.agg (aa.cells W),.val (.int .i64 0)]) []):ACall Tryz.prog 67 [.pt 0 0,.agg (aa.cells X),.agg (aa.cells Y)] [bD] 1 (.agg (aa.cells W)) [bD]:=by
 have h:=PLift.up h;have hd:=PLift.up (Yn (X:=W))
 unfold bD at*
 rw[aB X,aB Y]
 refine ak Tryz.func67 Tryz.ntmps67 rfl ?_
 repeat' (first|refine zqN ?_|((first|refine ay rfl (fun K hK=>?_)|refine aj (fun K hK=>?_));(first|refine ah (f:=105) [] 0 false ?_|refine ah (f:=85) [0] 1 false ?_);refine jP ?_;(first|refine⟨_,_,h.down,?_⟩|refine⟨_,_,hd.down,?_⟩);refine gD ?_;apply hK;clear hK K)|refine aK ?_|refine aL ?_|(refine aM ?_ ?_<;>intro hc<;>try exact zqM))
 all_goals first
  |((refine Ends.mk2 zqI [0] ?_;simp-dsimp(disch:=try exact vD) only[push_cast,simprocAttr,Tryz.f67];try exact zqF);done)
  |skip
theorem TA(h:ACall Tryz.prog 86 [.agg (aa.cells X),.agg (aa.cells Y)] [] 0 (.tup [.agg (aa.cells W),.val (.int .i64 0)]) []):ACall Tryz.prog 54 [.pt 0 0,.agg (aa.cells X),.agg (aa.cells Y)] [bD] 1 (.agg (aa.cells W)) [bD]:=by
 have h:=PLift.up h;have hd:=PLift.up (Yn (X:=W))
 unfold bD at*
 rw[aB X,aB Y]
 refine ak Tryz.func54 Tryz.ntmps54 rfl ?_
 repeat' (first|refine zqN ?_|((first|refine ay rfl (fun K hK=>?_)|refine aj (fun K hK=>?_));(first|refine ah (f:=86) [] 0 false ?_|refine ah (f:=85) [0] 1 false ?_);refine jP ?_;(first|refine⟨_,_,h.down,?_⟩|refine⟨_,_,hd.down,?_⟩);refine gD ?_;apply hK;clear hK K)|refine aK ?_|refine aL ?_|(refine aM ?_ ?_<;>intro hc<;>try exact zqM))
 all_goals first
  |((refine Ends.mk2 zqI [0] ?_;simp-dsimp(disch:=try exact vD) only[push_cast,simprocAttr,Tryz.f54];try exact zqF);done)
  |skip
theorem TD(h:ACall Tryz.prog 104 [.agg (aa.cells X),.agg (aa.cells Y)] [] 0 (.tup [.agg (aa.cells W),.val (.int .i64 0)]) []):ACall Tryz.prog 66 [.pt 0 0,.agg (aa.cells X),.agg (aa.cells Y)] [bD] 1 (.agg (aa.cells W)) [bD]:=by
 have h:=PLift.up h;have hd:=PLift.up (Yn (X:=W))
 unfold bD at*
 rw[aB X,aB Y]
 refine ak Tryz.func66 Tryz.ntmps66 rfl ?_
 repeat' (first|refine zqN ?_|((first|refine ay rfl (fun K hK=>?_)|refine aj (fun K hK=>?_));(first|refine ah (f:=104) [] 0 false ?_|refine ah (f:=85) [0] 1 false ?_);refine jP ?_;(first|refine⟨_,_,h.down,?_⟩|refine⟨_,_,hd.down,?_⟩);refine gD ?_;apply hK;clear hK K)|refine aK ?_|refine aL ?_|(refine aM ?_ ?_<;>intro hc<;>try exact zqM))
 all_goals first
  |((refine Ends.mk2 zqI [0] ?_;simp-dsimp(disch:=try exact vD) only[push_cast,simprocAttr,Tryz.f66];try exact zqF);done)
  |skip
theorem Kc(h:SmZ z p)(h2:SmZ z' q):ACall Tryz.prog 67 [.pt 0 0,.agg (aa.cells (rQ z p)),.agg (aa.cells (rQ z' q))] [bD] 1 (.agg (aa.cells (rC (p+q)))) [bD]:=Tz (addS h h2)
theorem QM(h:SmZ z p)(h2:SmZ z' q):ACall Tryz.prog 54 [.pt 0 0,.agg (aa.cells (rQ z p)),.agg (aa.cells (rQ z' q))] [bD] 1 (.agg (aa.cells (rC (p-q)))) [bD]:=TA (subS h h2)
theorem ui(h:SmZ z p)(h2:SmZ z' q):ACall Tryz.prog 66 [.pt 0 0,.agg (aa.cells (rQ z p)),.agg (aa.cells (rQ z' q))] [bD] 1 (.agg (aa.cells (rC (p*q)))) [bD]:=TD (mulS h h2)
theorem TE(h1:ACall Tryz.prog 53 [.val (.int .i64 1)] [] 0 (.agg (aa.cells Y)) [])(h:ACall Tryz.prog 54 [.pt 0 0,.agg (aa.cells Y),.agg (aa.cells X)] [bD] 1 (.agg (aa.cells W)) [bD]):ACall Tryz.prog 65 [.pt 0 0,.agg (aa.cells X)] [bD] 1 (.agg (aa.cells W)) [bD]:=by
 have h:=PLift.up h;have hn:=PLift.up h1
 clear h1
 unfold bD at*
 rw[aB X]
 refine ak Tryz.func65 Tryz.ntmps65 rfl ?_
 repeat' (first|refine zqN ?_|((first|refine ay rfl (fun K hK=>?_)|refine aj (fun K hK=>?_)|refine aA (fun K hK=>?_));(first|refine ah (f:=53) [] 0 false ?_|refine ah (f:=54) [0] 1 false ?_);refine jP ?_;(first|refine⟨_,_,hn.down,?_⟩|refine⟨_,_,h.down,?_⟩);refine gD ?_;apply hK;clear hK K)|refine aK ?_|refine aL ?_|(refine aM ?_ ?_<;>intro hc<;>try exact zqM)|refine zqR 1 [⟨0,[],[6,7],[],[],0⟩,⟨1,[],[5,7],[],[],0⟩,⟨2,[],[5,6],[],[],0⟩,⟨3,[0,1,2],[],[],[2],0⟩,⟨4,[0,1,2,3],[],[],[2],0⟩] ?_|refine zqD ?_|fail)
 all_goals first
  |((refine Ends.mk2 zqI [0] ?_;simp-dsimp(disch:=try exact vD) only[push_cast,simprocAttr,Tryz.f65];try exact zqF);done)
  |skip
theorem ald:SmZ true 0:=⟨⟨by decide,by decide⟩,fun _=>rfl⟩
theorem IM:SmZ false 1:=⟨⟨by decide,by decide⟩,fun h=>by cases h⟩
theorem uj(h:SmZ z p):ACall Tryz.prog 65 [.pt 0 0,.agg (aa.cells (rQ z p))] [bD] 1 (.agg (aa.cells (rC (1-p)))) [bD]:=by
 have n1:=gX (v:=1) (by decide)
 rw[Yl] at n1
 exact TE n1 (QM IM h)
theorem DJ:ACall Tryz.prog 44 [.pt 0 0,.agg (aa.cells X)] [bD] 1 (.tup [.agg (aa.cells X),.val (.int .i64 0)]) [bD]:=by
 unfold bD
 rw[aB X]
 refine ak Tryz.func44 Tryz.ntmps44 rfl ?_
 repeat' (first|refine zqN ?_|refine aK ?_|refine aL ?_|(refine aM ?_ ?_<;>intro hc<;>try exact zqM)|refine zqR 2 [⟨0,[],[12,13,14,15],[],[],0⟩,⟨1,[],[11],[2],[],0⟩,⟨2,[1],[11],[2],[],0⟩,⟨3,[1,2],[11],[2],[],0⟩,⟨4,[1,2,3],[11],[2],[],0⟩,⟨5,[0],[12,13,14,15],[],[2],0⟩,⟨6,[0,1,2,3,4,5],[],[],[],0⟩] ?_|refine zqD ?_|fail)
 all_goals first
  |((refine Ends.mk2 zqI [0] ?_;simp-dsimp(disch:=try exact vD) only[push_cast,simprocAttr,Tryz.f44];try exact zqF);done)
  |skip
