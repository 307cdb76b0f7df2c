/- Bh9_0 Bh9_1 Bh9_2. No condition. -/
import Derived.Test.YtgmpdplpodemaaaGreatDoorLaG5b
set_option linter.all false
set_option maxHeartbeats 4000000
set_option maxRecDepth 20000
namespace Go.Proofs.YtgmpdplpodemaaaGreatDoor
section
open Go Go.Sy Go.Bp Go.Lm Go.Rt
attribute [local irreducible] AO AL AC OpT ACall Ends DGo aK Thn Blk Nxt
variable {n k i j q:Nat} {cz:Bool} {A:List RL} {B C:List RV} {ONE ZERO X:RV}
theorem ahP{Q:Exit->Nat->St->Prop}(hr:0<=9)(hn:1<=n)(hn2:n<=400)(hA:A.length=9)(hB:B.length=9)(hz0:(A.getD 0 default).z=false)(hl0:(A.getD 0 default).l.length=n)(hc0:ACall Tryz.prog 132 [.isl false (cR (A.getD 0 default).l) n] [] 0 (.sl 0 0 n 4) [.cells (cR (A.getD 0 default).l) 60])(h1:ACall Tryz.prog 171 [] [] 0 (.agg (aa.cells ONE)) [])(h0:ACall Tryz.prog 131 [] [] 0 (.agg (aa.cells ZERO)) []):
 AC Tryz.prog (cAt [1,1,0,1,0,0] (Tryz.f128.body.getD .skip)) (Thn (λ_ s=>Nxt (gV A B C cz n ONE ZERO) (λi=>9-i.val) ([0,1,20,21,22,23,24,25,26,27,28,29,30]:List Nat).length ⟨0,hr⟩ s) Q) ([0,1,20,21,22,23,24,25,26,27,28,29,30]:List Nat).length (gV A B C cz n ONE ZERO ⟨0,hr⟩):=by
 have h1:=PLift.up h1;have h0:=PLift.up h0;have hc0:=PLift.up hc0
 rw[ax ONE] at h1;rw[ax ZERO] at h0
 have hg0:=λ(k:Nat)=>jv (A:=A) (ONE:=ONE) (ZERO:=ZERO) (i:=0) (k:=k) hl0;have hf0:=iY (A:=A) (B:=B) (ONE:=ONE) (ZERO:=ZERO) (i:=0) hl0
 have hs0:_=cR (aP A B ONE ZERO 0):=dE (bM A ONE ZERO 0 9) (B.getD 0 default);have hgz0:bM A ONE ZERO 0 0=(A.getD 0 default).l:=rfl
 have hn4:n+9+1=n+10:=rfl;have hi0:(n:Int)+0=n:=Int.add_zero _
 have zx7:=And.intro hn4 (And.intro hi0 (And.intro hz0 (And.intro hl0 (And.intro hf0 (And.intro hs0 (hgz0))))))
 have zx1:=ae;have zx2:=ae;have zx3:=ae
 (simp-dsimp only[gV];refine zqS ?_)
 all_goals(have zx4:= @hA;have zx5:= @hB;have zx6:= @lq;have zx8:=aA;have zx9:=aA;repeat' (first|(refine ah ?_;refine ak [0,1,13] ([0,1,13].length) (qx A B C cz n ONE ZERO) (λk=>9-k.val) (⟨0,omgz⟩) rfl (by unfold qx;exact aO) ?_;(rintro⟨k,hk⟩;have zx1:=hg0 k;rcases Nat.lt_or_eq_of_le hk with hkl|hkl<;>first|(have eQ:=hkl.symm;subst eQ;(simp-dsimp only[qx];refine zqS ?_))|(rcases Decidable.em (k=0) with zx2|zx2<;>first|(have zx3:cR (bM A ONE ZERO 0 k)++[.val (.bool ONE.num.neg),.isl ONE.num.z (cI .u32 ONE.num.l) ONE.num.l.length,.val (.bool ONE.den.neg),.isl ONE.den.z (cI .u32 ONE.den.l) ONE.den.l.length]=cR (bM A ONE ZERO 0 (k+1)):=(by rw[bM,if_pos zx2];exact dE _ _);(simp-dsimp only[qx];refine zqS ?_))|(have zx3:cR (bM A ONE ZERO 0 k)++[.val (.bool ZERO.num.neg),.isl ZERO.num.z (cI .u32 ZERO.num.l) ZERO.num.l.length,.val (.bool ZERO.den.neg),.isl ZERO.den.z (cI .u32 ZERO.den.l) ZERO.den.l.length]=cR (bM A ONE ZERO 0 (k+1)):=(by rw[bM,if_neg zx2];exact dE _ _);(simp-dsimp only[qx];refine zqS ?_)))))|(refine aj ?_;refine Nxt.mk [0,1,3] (⟨k+1,omgz⟩) rfl (by unfold qx;exact aO) zqO)|(refine aj ?_;refine Nxt.mk [0,1,4] (⟨k+1,omgz⟩) rfl (by unfold qx;exact aO) zqO)|(refine aj ?_;refine Nxt.mk [0,1,5] (⟨k+1,omgz⟩) rfl (by unfold qx;exact aO) zqO)|(refine aj ?_;refine Nxt.mk [0,1,6,8,4,21,22,23,24,25,26,27,28] (⟨1,omgz⟩) rfl (by unfold gV;exact aO) zqO)|refine zqN ?_|refine fC hc0.down ?_|refine fC h1.down ?_|refine fC h0.down ?_|refine mh ?_|refine kg ?_|refine ko ?_|refine kr ?_|refine mo ?_|(refine mq ?_ ?_<;>intro hc<;>try exact zqM)|refine zqR [(13,11,[],1),(13,12,[5],1),(13,13,[],1),(13,14,[5],1),(13,17,[2],0),(14,11,[],1),(14,12,[6],1),(14,15,[2],0)] ?_|refine zqD ?_|fail))
 all_goals trace_state
end
section
open Go Go.Sy Go.Bp Go.Lm Go.Rt
attribute [local irreducible] AO AL AC OpT ACall Ends DGo aK Thn Blk Nxt
variable {n k i j q:Nat} {cz:Bool} {A:List RL} {B C:List RV} {ONE ZERO X:RV}
theorem ahQ{Q:Exit->Nat->St->Prop}(hr:1<=9)(hn:1<=n)(hn2:n<=400)(hA:A.length=9)(hB:B.length=9)(hz1:(A.getD 1 default).z=false)(hl1:(A.getD 1 default).l.length=n)(hc1:ACall Tryz.prog 132 [.isl false (cR (A.getD 1 default).l) n] [] 0 (.sl 0 0 n 4) [.cells (cR (A.getD 1 default).l) 60])(h1:ACall Tryz.prog 171 [] [] 0 (.agg (aa.cells ONE)) [])(h0:ACall Tryz.prog 131 [] [] 0 (.agg (aa.cells ZERO)) []):
 AC Tryz.prog (cAt [1,1,0,1,0,0] (Tryz.f128.body.getD .skip)) (Thn (λ_ s=>Nxt (gV A B C cz n ONE ZERO) (λi=>9-i.val) ([0,1,20,21,22,23,24,25,26,27,28,29,30]:List Nat).length ⟨1,hr⟩ s) Q) ([0,1,20,21,22,23,24,25,26,27,28,29,30]:List Nat).length (gV A B C cz n ONE ZERO ⟨1,hr⟩):=by
 have h1:=PLift.up h1;have h0:=PLift.up h0;have hc1:=PLift.up hc1
 rw[ax ONE] at h1;rw[ax ZERO] at h0
 have hg1:=λ(k:Nat)=>jv (A:=A) (ONE:=ONE) (ZERO:=ZERO) (i:=1) (k:=k) hl1;have hf1:=iY (A:=A) (B:=B) (ONE:=ONE) (ZERO:=ZERO) (i:=1) hl1
 have hs1:_=cR (aP A B ONE ZERO 1):=dE (bM A ONE ZERO 1 9) (B.getD 1 default);have hgz1:bM A ONE ZERO 1 0=(A.getD 1 default).l:=rfl
 have hn4:n+9+1=n+10:=rfl;have hi0:(n:Int)+0=n:=Int.add_zero _
 have zx7:=And.intro hn4 (And.intro hi0 (And.intro hz1 (And.intro hl1 (And.intro hf1 (And.intro hs1 (hgz1))))))
 have zx1:=ae;have zx2:=ae;have zx3:=ae
 (simp-dsimp only[gV];refine zqS ?_)
 all_goals(have zx4:= @hA;have zx5:= @hB;have zx6:= @lq;have zx8:=aA;have zx9:=aA;repeat' (first|(refine ah ?_;refine ak [0,1,2,3,4,13] ([0,1,2,3,4,13].length) (qy A B C cz n ONE ZERO) (λk=>9-k.val) (⟨0,omgz⟩) rfl (by unfold qy;exact aO) ?_;(rintro⟨k,hk⟩;have zx1:=hg1 k;rcases Nat.lt_or_eq_of_le hk with hkl|hkl<;>first|(have eQ:=hkl.symm;subst eQ;(simp-dsimp only[qy];refine zqS ?_))|(rcases Decidable.em (k=1) with zx2|zx2<;>first|(have zx3:cR (bM A ONE ZERO 1 k)++[.val (.bool ONE.num.neg),.isl ONE.num.z (cI .u32 ONE.num.l) ONE.num.l.length,.val (.bool ONE.den.neg),.isl ONE.den.z (cI .u32 ONE.den.l) ONE.den.l.length]=cR (bM A ONE ZERO 1 (k+1)):=(by rw[bM,if_pos zx2];exact dE _ _);(simp-dsimp only[qy];refine zqS ?_))|(have zx3:cR (bM A ONE ZERO 1 k)++[.val (.bool ZERO.num.neg),.isl ZERO.num.z (cI .u32 ZERO.num.l) ZERO.num.l.length,.val (.bool ZERO.den.neg),.isl ZERO.den.z (cI .u32 ZERO.den.l) ZERO.den.l.length]=cR (bM A ONE ZERO 1 (k+1)):=(by rw[bM,if_neg zx2];exact dE _ _);(simp-dsimp only[qy];refine zqS ?_)))))|(refine aj ?_;refine Nxt.mk [0,1,2,3,4,6] (⟨k+1,omgz⟩) rfl (by unfold qy;exact aO) zqO)|(refine aj ?_;refine Nxt.mk [0,1,2,3,4,7] (⟨k+1,omgz⟩) rfl (by unfold qy;exact aO) zqO)|(refine aj ?_;refine Nxt.mk [0,1,2,3,4,8] (⟨k+1,omgz⟩) rfl (by unfold qy;exact aO) zqO)|(refine aj ?_;refine Nxt.mk [0,1,9,11,4,7,21,22,23,24,25,26,27] (⟨2,omgz⟩) rfl (by unfold gV;exact aO) zqO)|refine zqN ?_|refine fC hc1.down ?_|refine fC h1.down ?_|refine fC h0.down ?_|refine mh ?_|refine kg ?_|refine ko ?_|refine kr ?_|refine mo ?_|(refine mq ?_ ?_<;>intro hc<;>try exact zqM)|refine zqR [(13,11,[],1),(13,12,[8],1),(13,13,[],1),(13,14,[5],1),(13,17,[2],0),(14,11,[],1),(14,12,[6],1),(14,15,[2],0)] ?_|refine zqD ?_|fail))
 all_goals trace_state
end
section
open Go Go.Sy Go.Bp Go.Lm Go.Rt
attribute [local irreducible] AO AL AC OpT ACall Ends DGo aK Thn Blk Nxt
variable {n k i j q:Nat} {cz:Bool} {A:List RL} {B C:List RV} {ONE ZERO X:RV}
theorem ahR{Q:Exit->Nat->St->Prop}(hr:2<=9)(hn:1<=n)(hn2:n<=400)(hA:A.length=9)(hB:B.length=9)(hz2:(A.getD 2 default).z=false)(hl2:(A.getD 2 default).l.length=n)(hc2:ACall Tryz.prog 132 [.isl false (cR (A.getD 2 default).l) n] [] 0 (.sl 0 0 n 4) [.cells (cR (A.getD 2 default).l) 60])(h1:ACall Tryz.prog 171 [] [] 0 (.agg (aa.cells ONE)) [])(h0:ACall Tryz.prog 131 [] [] 0 (.agg (aa.cells ZERO)) []):
 AC Tryz.prog (cAt [1,1,0,1,0,0] (Tryz.f128.body.getD .skip)) (Thn (λ_ s=>Nxt (gV A B C cz n ONE ZERO) (λi=>9-i.val) ([0,1,20,21,22,23,24,25,26,27,28,29,30]:List Nat).length ⟨2,hr⟩ s) Q) ([0,1,20,21,22,23,24,25,26,27,28,29,30]:List Nat).length (gV A B C cz n ONE ZERO ⟨2,hr⟩):=by
 have h1:=PLift.up h1;have h0:=PLift.up h0;have hc2:=PLift.up hc2
 rw[ax ONE] at h1;rw[ax ZERO] at h0
 have hg2:=λ(k:Nat)=>jv (A:=A) (ONE:=ONE) (ZERO:=ZERO) (i:=2) (k:=k) hl2;have hf2:=iY (A:=A) (B:=B) (ONE:=ONE) (ZERO:=ZERO) (i:=2) hl2
 have hs2:_=cR (aP A B ONE ZERO 2):=dE (bM A ONE ZERO 2 9) (B.getD 2 default);have hgz2:bM A ONE ZERO 2 0=(A.getD 2 default).l:=rfl
 have hn4:n+9+1=n+10:=rfl;have hi0:(n:Int)+0=n:=Int.add_zero _
 have hbd2:List.take 4 (List.drop 8 (cR B))=[.val (.bool (B.getD 2 default).num.neg),.isl (B.getD 2 default).num.z (cI .u32 (B.getD 2 default).num.l) (B.getD 2 default).num.l.length,.val (.bool (B.getD 2 default).den.neg),.isl (B.getD 2 default).den.z (cI .u32 (B.getD 2 default).den.l) (B.getD 2 default).den.l.length]:=by
  match B,hB with
  |[b0,b1,b2,b3,b4,b5,b6,b7,b8],_=>rfl
 have zx7:=And.intro hn4 (And.intro hi0 (And.intro hbd2 (And.intro hz2 (And.intro hl2 (And.intro hf2 (And.intro hs2 (hgz2)))))))
 have zx1:=ae;have zx2:=ae;have zx3:=ae
 (simp-dsimp only[gV];refine zqS ?_)
 all_goals(have zx4:= @hA;have zx5:= @hB;have zx6:= @lq;have zx8:=aA;have zx9:=aA;repeat' (first|(refine ah ?_;refine ak [0,1,2,3,4,5,13] ([0,1,2,3,4,5,13].length) (qz A B C cz n ONE ZERO) (λk=>9-k.val) (⟨0,omgz⟩) rfl (by unfold qz;exact aO) ?_;(rintro⟨k,hk⟩;have zx1:=hg2 k;rcases Nat.lt_or_eq_of_le hk with hkl|hkl<;>first|(have eQ:=hkl.symm;subst eQ;(simp-dsimp only[qz];refine zqS ?_))|(rcases Decidable.em (k=2) with zx2|zx2<;>first|(have zx3:cR (bM A ONE ZERO 2 k)++[.val (.bool ONE.num.neg),.isl ONE.num.z (cI .u32 ONE.num.l) ONE.num.l.length,.val (.bool ONE.den.neg),.isl ONE.den.z (cI .u32 ONE.den.l) ONE.den.l.length]=cR (bM A ONE ZERO 2 (k+1)):=(by rw[bM,if_pos zx2];exact dE _ _);(simp-dsimp only[qz];refine zqS ?_))|(have zx3:cR (bM A ONE ZERO 2 k)++[.val (.bool ZERO.num.neg),.isl ZERO.num.z (cI .u32 ZERO.num.l) ZERO.num.l.length,.val (.bool ZERO.den.neg),.isl ZERO.den.z (cI .u32 ZERO.den.l) ZERO.den.l.length]=cR (bM A ONE ZERO 2 (k+1)):=(by rw[bM,if_neg zx2];exact dE _ _);(simp-dsimp only[qz];refine zqS ?_)))))|(refine aj ?_;refine Nxt.mk [0,1,2,3,4,5,7] (⟨k+1,omgz⟩) rfl (by unfold qz;exact aO) zqO)|(refine aj ?_;refine Nxt.mk [0,1,2,3,4,5,8] (⟨k+1,omgz⟩) rfl (by unfold qz;exact aO) zqO)|(refine aj ?_;refine Nxt.mk [0,1,2,3,4,5,9] (⟨k+1,omgz⟩) rfl (by unfold qz;exact aO) zqO)|(refine aj ?_;refine Nxt.mk [0,1,10,12,4,5,8,21,22,23,24,25,26] (⟨3,omgz⟩) rfl (by unfold gV;exact aO) zqO)|refine zqN ?_|refine fC hc2.down ?_|refine fC h1.down ?_|refine fC h0.down ?_|refine mh ?_|refine kg ?_|refine ko ?_|refine kr ?_|refine mo ?_|(refine mq ?_ ?_<;>intro hc<;>try exact zqM)|refine zqR [(13,11,[],1),(13,12,[9],1),(13,13,[],1),(13,14,[5],1),(13,17,[2],0),(14,11,[],1),(14,12,[6],1),(14,15,[2],0)] ?_|refine zqD ?_|fail))
 all_goals trace_state
end
