/- Bh9_3 Bh9_4 Bh9_5. No condition. -/
import Derived.Test.YtgmpdplpodemaaaGreatDoorLaG5b
set_option linter.all false
set_option maxHeartbeats 4000000
set_option maxRecDepth 20000
namespace Go.Proofs.YtgmpdplpodemaaaGreatDoor
section
open Go Go.Sy Go.Bp Go.Lm Go.Rt
attribute [local irreducible] AO AL AC OpT ACall Ends DGo aK Thn Blk Nxt
variable {n k i j q:Nat} {cz:Bool} {A:List RL} {B C:List RV} {ONE ZERO X:RV}
theorem ahS{Q:Exit->Nat->St->Prop}(hr:3<=9)(hn:1<=n)(hn2:n<=400)(hA:A.length=9)(hB:B.length=9)(hz3:(A.getD 3 default).z=false)(hl3:(A.getD 3 default).l.length=n)(hc3:ACall Tryz.prog 132 [.isl false (cR (A.getD 3 default).l) n] [] 0 (.sl 0 0 n 4) [.cells (cR (A.getD 3 default).l) 60])(h1:ACall Tryz.prog 171 [] [] 0 (.agg (aa.cells ONE)) [])(h0:ACall Tryz.prog 131 [] [] 0 (.agg (aa.cells ZERO)) []):
 AC Tryz.prog (cAt [1,1,0,1,0,0] (Tryz.f128.body.getD .skip)) (Thn (λ_ s=>Nxt (gV A B C cz n ONE ZERO) (λi=>9-i.val) ([0,1,20,21,22,23,24,25,26,27,28,29,30]:List Nat).length ⟨3,hr⟩ s) Q) ([0,1,20,21,22,23,24,25,26,27,28,29,30]:List Nat).length (gV A B C cz n ONE ZERO ⟨3,hr⟩):=by
 have h1:=PLift.up h1;have h0:=PLift.up h0;have hc3:=PLift.up hc3
 rw[ax ONE] at h1;rw[ax ZERO] at h0
 have hg3:=λ(k:Nat)=>jv (A:=A) (ONE:=ONE) (ZERO:=ZERO) (i:=3) (k:=k) hl3;have hf3:=iY (A:=A) (B:=B) (ONE:=ONE) (ZERO:=ZERO) (i:=3) hl3
 have hs3:_=cR (aP A B ONE ZERO 3):=dE (bM A ONE ZERO 3 9) (B.getD 3 default);have hgz3:bM A ONE ZERO 3 0=(A.getD 3 default).l:=rfl
 have hn4:n+9+1=n+10:=rfl;have hi0:(n:Int)+0=n:=Int.add_zero _
 have hbd3:List.take 4 (List.drop 12 (cR B))=[.val (.bool (B.getD 3 default).num.neg),.isl (B.getD 3 default).num.z (cI .u32 (B.getD 3 default).num.l) (B.getD 3 default).num.l.length,.val (.bool (B.getD 3 default).den.neg),.isl (B.getD 3 default).den.z (cI .u32 (B.getD 3 default).den.l) (B.getD 3 default).den.l.length]:=by
  match B,hB with
  |[b0,b1,b2,b3,b4,b5,b6,b7,b8],_=>rfl
 have zx7:=And.intro hn4 (And.intro hi0 (And.intro hbd3 (And.intro hz3 (And.intro hl3 (And.intro hf3 (And.intro hs3 (hgz3)))))))
 have zx1:=ae;have zx2:=ae;have zx3:=ae
 (simp-dsimp only[gV];refine zqS ?_)
 all_goals(have zx4:= @hA;have zx5:= @hB;have zx6:= @lq;have zx8:=aA;have zx9:=aA;repeat' (first|(refine ah ?_;refine ak [0,1,2,3,4,5,6,13] ([0,1,2,3,4,5,6,13].length) (qA A B C cz n ONE ZERO) (λk=>9-k.val) (⟨0,omgz⟩) rfl (by unfold qA;exact aO) ?_;(rintro⟨k,hk⟩;have zx1:=hg3 k;rcases Nat.lt_or_eq_of_le hk with hkl|hkl<;>first|(have eQ:=hkl.symm;subst eQ;(simp-dsimp only[qA];refine zqS ?_))|(rcases Decidable.em (k=3) with zx2|zx2<;>first|(have zx3:cR (bM A ONE ZERO 3 k)++[.val (.bool ONE.num.neg),.isl ONE.num.z (cI .u32 ONE.num.l) ONE.num.l.length,.val (.bool ONE.den.neg),.isl ONE.den.z (cI .u32 ONE.den.l) ONE.den.l.length]=cR (bM A ONE ZERO 3 (k+1)):=(by rw[bM,if_pos zx2];exact dE _ _);(simp-dsimp only[qA];refine zqS ?_))|(have zx3:cR (bM A ONE ZERO 3 k)++[.val (.bool ZERO.num.neg),.isl ZERO.num.z (cI .u32 ZERO.num.l) ZERO.num.l.length,.val (.bool ZERO.den.neg),.isl ZERO.den.z (cI .u32 ZERO.den.l) ZERO.den.l.length]=cR (bM A ONE ZERO 3 (k+1)):=(by rw[bM,if_neg zx2];exact dE _ _);(simp-dsimp only[qA];refine zqS ?_)))))|(refine aj ?_;refine Nxt.mk [0,1,2,3,4,5,6,8] (⟨k+1,omgz⟩) rfl (by unfold qA;exact aO) zqO)|(refine aj ?_;refine Nxt.mk [0,1,2,3,4,5,6,9] (⟨k+1,omgz⟩) rfl (by unfold qA;exact aO) zqO)|(refine aj ?_;refine Nxt.mk [0,1,2,3,4,5,6,10] (⟨k+1,omgz⟩) rfl (by unfold qA;exact aO) zqO)|(refine aj ?_;refine Nxt.mk [0,1,11,13,4,5,6,9,21,22,23,24,25] (⟨4,omgz⟩) rfl (by unfold gV;exact aO) zqO)|refine zqN ?_|refine fC hc3.down ?_|refine fC h1.down ?_|refine fC h0.down ?_|refine mh ?_|refine kg ?_|refine ko ?_|refine kr ?_|refine mo ?_|(refine mq ?_ ?_<;>intro hc<;>try exact zqM)|refine zqR [(13,11,[],1),(13,12,[10],1),(13,13,[],1),(13,14,[5],1),(13,17,[2],0),(14,11,[],1),(14,12,[6],1),(14,15,[2],0)] ?_|refine zqD ?_|fail))
 all_goals trace_state
end
section
open Go Go.Sy Go.Bp Go.Lm Go.Rt
attribute [local irreducible] AO AL AC OpT ACall Ends DGo aK Thn Blk Nxt
variable {n k i j q:Nat} {cz:Bool} {A:List RL} {B C:List RV} {ONE ZERO X:RV}
theorem ahT{Q:Exit->Nat->St->Prop}(hr:4<=9)(hn:1<=n)(hn2:n<=400)(hA:A.length=9)(hB:B.length=9)(hz4:(A.getD 4 default).z=false)(hl4:(A.getD 4 default).l.length=n)(hc4:ACall Tryz.prog 132 [.isl false (cR (A.getD 4 default).l) n] [] 0 (.sl 0 0 n 4) [.cells (cR (A.getD 4 default).l) 60])(h1:ACall Tryz.prog 171 [] [] 0 (.agg (aa.cells ONE)) [])(h0:ACall Tryz.prog 131 [] [] 0 (.agg (aa.cells ZERO)) []):
 AC Tryz.prog (cAt [1,1,0,1,0,0] (Tryz.f128.body.getD .skip)) (Thn (λ_ s=>Nxt (gV A B C cz n ONE ZERO) (λi=>9-i.val) ([0,1,20,21,22,23,24,25,26,27,28,29,30]:List Nat).length ⟨4,hr⟩ s) Q) ([0,1,20,21,22,23,24,25,26,27,28,29,30]:List Nat).length (gV A B C cz n ONE ZERO ⟨4,hr⟩):=by
 have h1:=PLift.up h1;have h0:=PLift.up h0;have hc4:=PLift.up hc4
 rw[ax ONE] at h1;rw[ax ZERO] at h0
 have hg4:=λ(k:Nat)=>jv (A:=A) (ONE:=ONE) (ZERO:=ZERO) (i:=4) (k:=k) hl4;have hf4:=iY (A:=A) (B:=B) (ONE:=ONE) (ZERO:=ZERO) (i:=4) hl4
 have hs4:_=cR (aP A B ONE ZERO 4):=dE (bM A ONE ZERO 4 9) (B.getD 4 default);have hgz4:bM A ONE ZERO 4 0=(A.getD 4 default).l:=rfl
 have hn4:n+9+1=n+10:=rfl;have hi0:(n:Int)+0=n:=Int.add_zero _
 have hbd4:List.take 4 (List.drop 16 (cR B))=[.val (.bool (B.getD 4 default).num.neg),.isl (B.getD 4 default).num.z (cI .u32 (B.getD 4 default).num.l) (B.getD 4 default).num.l.length,.val (.bool (B.getD 4 default).den.neg),.isl (B.getD 4 default).den.z (cI .u32 (B.getD 4 default).den.l) (B.getD 4 default).den.l.length]:=by
  match B,hB with
  |[b0,b1,b2,b3,b4,b5,b6,b7,b8],_=>rfl
 have zx7:=And.intro hn4 (And.intro hi0 (And.intro hbd4 (And.intro hz4 (And.intro hl4 (And.intro hf4 (And.intro hs4 (hgz4)))))))
 have zx1:=ae;have zx2:=ae;have zx3:=ae
 (simp-dsimp only[gV];refine zqS ?_)
 all_goals(have zx4:= @hA;have zx5:= @hB;have zx6:= @lq;have zx8:=aA;have zx9:=aA;repeat' (first|(refine ah ?_;refine ak [0,1,2,3,4,5,6,7,13] ([0,1,2,3,4,5,6,7,13].length) (qB A B C cz n ONE ZERO) (λk=>9-k.val) (⟨0,omgz⟩) rfl (by unfold qB;exact aO) ?_;(rintro⟨k,hk⟩;have zx1:=hg4 k;rcases Nat.lt_or_eq_of_le hk with hkl|hkl<;>first|(have eQ:=hkl.symm;subst eQ;(simp-dsimp only[qB];refine zqS ?_))|(rcases Decidable.em (k=4) with zx2|zx2<;>first|(have zx3:cR (bM A ONE ZERO 4 k)++[.val (.bool ONE.num.neg),.isl ONE.num.z (cI .u32 ONE.num.l) ONE.num.l.length,.val (.bool ONE.den.neg),.isl ONE.den.z (cI .u32 ONE.den.l) ONE.den.l.length]=cR (bM A ONE ZERO 4 (k+1)):=(by rw[bM,if_pos zx2];exact dE _ _);(simp-dsimp only[qB];refine zqS ?_))|(have zx3:cR (bM A ONE ZERO 4 k)++[.val (.bool ZERO.num.neg),.isl ZERO.num.z (cI .u32 ZERO.num.l) ZERO.num.l.length,.val (.bool ZERO.den.neg),.isl ZERO.den.z (cI .u32 ZERO.den.l) ZERO.den.l.length]=cR (bM A ONE ZERO 4 (k+1)):=(by rw[bM,if_neg zx2];exact dE _ _);(simp-dsimp only[qB];refine zqS ?_)))))|(refine aj ?_;refine Nxt.mk [0,1,2,3,4,5,6,7,9] (⟨k+1,omgz⟩) rfl (by unfold qB;exact aO) zqO)|(refine aj ?_;refine Nxt.mk [0,1,2,3,4,5,6,7,10] (⟨k+1,omgz⟩) rfl (by unfold qB;exact aO) zqO)|(refine aj ?_;refine Nxt.mk [0,1,2,3,4,5,6,7,11] (⟨k+1,omgz⟩) rfl (by unfold qB;exact aO) zqO)|(refine aj ?_;refine Nxt.mk [0,1,12,14,4,5,6,7,10,21,22,23,24] (⟨5,omgz⟩) rfl (by unfold gV;exact aO) zqO)|refine zqN ?_|refine fC hc4.down ?_|refine fC h1.down ?_|refine fC h0.down ?_|refine mh ?_|refine kg ?_|refine ko ?_|refine kr ?_|refine mo ?_|(refine mq ?_ ?_<;>intro hc<;>try exact zqM)|refine zqR [(13,11,[],1),(13,12,[11],1),(13,13,[],1),(13,14,[5],1),(13,17,[2],0),(14,11,[],1),(14,12,[6],1),(14,15,[2],0)] ?_|refine zqD ?_|fail))
 all_goals trace_state
end
section
open Go Go.Sy Go.Bp Go.Lm Go.Rt
attribute [local irreducible] AO AL AC OpT ACall Ends DGo aK Thn Blk Nxt
variable {n k i j q:Nat} {cz:Bool} {A:List RL} {B C:List RV} {ONE ZERO X:RV}
theorem ahU{Q:Exit->Nat->St->Prop}(hr:5<=9)(hn:1<=n)(hn2:n<=400)(hA:A.length=9)(hB:B.length=9)(hz5:(A.getD 5 default).z=false)(hl5:(A.getD 5 default).l.length=n)(hc5:ACall Tryz.prog 132 [.isl false (cR (A.getD 5 default).l) n] [] 0 (.sl 0 0 n 4) [.cells (cR (A.getD 5 default).l) 60])(h1:ACall Tryz.prog 171 [] [] 0 (.agg (aa.cells ONE)) [])(h0:ACall Tryz.prog 131 [] [] 0 (.agg (aa.cells ZERO)) []):
 AC Tryz.prog (cAt [1,1,0,1,0,0] (Tryz.f128.body.getD .skip)) (Thn (λ_ s=>Nxt (gV A B C cz n ONE ZERO) (λi=>9-i.val) ([0,1,20,21,22,23,24,25,26,27,28,29,30]:List Nat).length ⟨5,hr⟩ s) Q) ([0,1,20,21,22,23,24,25,26,27,28,29,30]:List Nat).length (gV A B C cz n ONE ZERO ⟨5,hr⟩):=by
 have h1:=PLift.up h1;have h0:=PLift.up h0;have hc5:=PLift.up hc5
 rw[ax ONE] at h1;rw[ax ZERO] at h0
 have hg5:=λ(k:Nat)=>jv (A:=A) (ONE:=ONE) (ZERO:=ZERO) (i:=5) (k:=k) hl5;have hf5:=iY (A:=A) (B:=B) (ONE:=ONE) (ZERO:=ZERO) (i:=5) hl5
 have hs5:_=cR (aP A B ONE ZERO 5):=dE (bM A ONE ZERO 5 9) (B.getD 5 default);have hgz5:bM A ONE ZERO 5 0=(A.getD 5 default).l:=rfl
 have hn4:n+9+1=n+10:=rfl;have hi0:(n:Int)+0=n:=Int.add_zero _
 have hbd5:List.take 4 (List.drop 20 (cR B))=[.val (.bool (B.getD 5 default).num.neg),.isl (B.getD 5 default).num.z (cI .u32 (B.getD 5 default).num.l) (B.getD 5 default).num.l.length,.val (.bool (B.getD 5 default).den.neg),.isl (B.getD 5 default).den.z (cI .u32 (B.getD 5 default).den.l) (B.getD 5 default).den.l.length]:=by
  match B,hB with
  |[b0,b1,b2,b3,b4,b5,b6,b7,b8],_=>rfl
 have zx7:=And.intro hn4 (And.intro hi0 (And.intro hbd5 (And.intro hz5 (And.intro hl5 (And.intro hf5 (And.intro hs5 (hgz5)))))))
 have zx1:=ae;have zx2:=ae;have zx3:=ae
 (simp-dsimp only[gV];refine zqS ?_)
 all_goals(have zx4:= @hA;have zx5:= @hB;have zx6:= @lq;have zx8:=aA;have zx9:=aA;repeat' (first|(refine ah ?_;refine ak [0,1,2,3,4,5,6,7,8,13] ([0,1,2,3,4,5,6,7,8,13].length) (qC A B C cz n ONE ZERO) (λk=>9-k.val) (⟨0,omgz⟩) rfl (by unfold qC;exact aO) ?_;(rintro⟨k,hk⟩;have zx1:=hg5 k;rcases Nat.lt_or_eq_of_le hk with hkl|hkl<;>first|(have eQ:=hkl.symm;subst eQ;(simp-dsimp only[qC];refine zqS ?_))|(rcases Decidable.em (k=5) with zx2|zx2<;>first|(have zx3:cR (bM A ONE ZERO 5 k)++[.val (.bool ONE.num.neg),.isl ONE.num.z (cI .u32 ONE.num.l) ONE.num.l.length,.val (.bool ONE.den.neg),.isl ONE.den.z (cI .u32 ONE.den.l) ONE.den.l.length]=cR (bM A ONE ZERO 5 (k+1)):=(by rw[bM,if_pos zx2];exact dE _ _);(simp-dsimp only[qC];refine zqS ?_))|(have zx3:cR (bM A ONE ZERO 5 k)++[.val (.bool ZERO.num.neg),.isl ZERO.num.z (cI .u32 ZERO.num.l) ZERO.num.l.length,.val (.bool ZERO.den.neg),.isl ZERO.den.z (cI .u32 ZERO.den.l) ZERO.den.l.length]=cR (bM A ONE ZERO 5 (k+1)):=(by rw[bM,if_neg zx2];exact dE _ _);(simp-dsimp only[qC];refine zqS ?_)))))|(refine aj ?_;refine Nxt.mk [0,1,2,3,4,5,6,7,8,10] (⟨k+1,omgz⟩) rfl (by unfold qC;exact aO) zqO)|(refine aj ?_;refine Nxt.mk [0,1,2,3,4,5,6,7,8,11] (⟨k+1,omgz⟩) rfl (by unfold qC;exact aO) zqO)|(refine aj ?_;refine Nxt.mk [0,1,2,3,4,5,6,7,8,12] (⟨k+1,omgz⟩) rfl (by unfold qC;exact aO) zqO)|(refine aj ?_;refine Nxt.mk [0,1,13,15,4,5,6,7,8,11,21,22,23] (⟨6,omgz⟩) rfl (by unfold gV;exact aO) zqO)|refine zqN ?_|refine fC hc5.down ?_|refine fC h1.down ?_|refine fC h0.down ?_|refine mh ?_|refine kg ?_|refine ko ?_|refine kr ?_|refine mo ?_|(refine mq ?_ ?_<;>intro hc<;>try exact zqM)|refine zqR [(13,11,[],1),(13,12,[12],1),(13,13,[],1),(13,14,[5],1),(13,17,[2],0),(14,11,[],1),(14,12,[6],1),(14,15,[2],0)] ?_|refine zqD ?_|fail))
 all_goals trace_state
end
