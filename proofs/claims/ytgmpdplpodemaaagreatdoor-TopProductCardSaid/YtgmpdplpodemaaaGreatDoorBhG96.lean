/- Bh9_6 Bh9_7 Bh9_8. No condition. -/
import Derived.Test.YtgmpdplpodemaaaGreatDoorLaG5b
set_option linter.all false
set_option maxHeartbeats 4000000
set_option maxRecDepth 20000
namespace Go.Proofs.YtgmpdplpodemaaaGreatDoor
section
open Go Go.Sy Go.Bp Go.Lm Go.Rt
attribute [local irreducible] AO AL AC OpT ACall Ends DGo aK Thn Blk Nxt
variable {n k i j q:Nat} {cz:Bool} {A:List RL} {B C:List RV} {ONE ZERO X:RV}
theorem ahV{Q:Exit->Nat->St->Prop}(hr:6<=9)(hn:1<=n)(hn2:n<=400)(hA:A.length=9)(hB:B.length=9)(hz6:(A.getD 6 default).z=false)(hl6:(A.getD 6 default).l.length=n)(hc6:ACall Tryz.prog 132 [.isl false (cR (A.getD 6 default).l) n] [] 0 (.sl 0 0 n 4) [.cells (cR (A.getD 6 default).l) 60])(h1:ACall Tryz.prog 171 [] [] 0 (.agg (aa.cells ONE)) [])(h0:ACall Tryz.prog 131 [] [] 0 (.agg (aa.cells ZERO)) []):
 AC Tryz.prog (cAt [1,1,0,1,0,0] (Tryz.f128.body.getD .skip)) (Thn (λ_ s=>Nxt (gV A B C cz n ONE ZERO) (λi=>9-i.val) ([0,1,20,21,22,23,24,25,26,27,28,29,30]:List Nat).length ⟨6,hr⟩ s) Q) ([0,1,20,21,22,23,24,25,26,27,28,29,30]:List Nat).length (gV A B C cz n ONE ZERO ⟨6,hr⟩):=by
 have h1:=PLift.up h1;have h0:=PLift.up h0;have hc6:=PLift.up hc6
 rw[ax ONE] at h1;rw[ax ZERO] at h0
 have hg6:=λ(k:Nat)=>jv (A:=A) (ONE:=ONE) (ZERO:=ZERO) (i:=6) (k:=k) hl6;have hf6:=iY (A:=A) (B:=B) (ONE:=ONE) (ZERO:=ZERO) (i:=6) hl6
 have hs6:_=cR (aP A B ONE ZERO 6):=dE (bM A ONE ZERO 6 9) (B.getD 6 default);have hgz6:bM A ONE ZERO 6 0=(A.getD 6 default).l:=rfl
 have hn4:n+9+1=n+10:=rfl;have hi0:(n:Int)+0=n:=Int.add_zero _
 have hbd6:List.take 4 (List.drop 24 (cR B))=[.val (.bool (B.getD 6 default).num.neg),.isl (B.getD 6 default).num.z (cI .u32 (B.getD 6 default).num.l) (B.getD 6 default).num.l.length,.val (.bool (B.getD 6 default).den.neg),.isl (B.getD 6 default).den.z (cI .u32 (B.getD 6 default).den.l) (B.getD 6 default).den.l.length]:=by
  match B,hB with
  |[b0,b1,b2,b3,b4,b5,b6,b7,b8],_=>rfl
 have zx7:=And.intro hn4 (And.intro hi0 (And.intro hbd6 (And.intro hz6 (And.intro hl6 (And.intro hf6 (And.intro hs6 (hgz6)))))))
 have zx1:=ae;have zx2:=ae;have zx3:=ae
 (simp-dsimp only[gV];refine zqS ?_)
 all_goals(have zx4:= @hA;have zx5:= @hB;have zx6:= @lq;have zx8:=aA;have zx9:=aA;repeat' (first|(refine ah ?_;refine ak [0,1,2,3,4,5,6,7,8,9,13] ([0,1,2,3,4,5,6,7,8,9,13].length) (qD A B C cz n ONE ZERO) (λk=>9-k.val) (⟨0,omgz⟩) rfl (by unfold qD;exact aO) ?_;(rintro⟨k,hk⟩;have zx1:=hg6 k;rcases Nat.lt_or_eq_of_le hk with hkl|hkl<;>first|(have eQ:=hkl.symm;subst eQ;(simp-dsimp only[qD];refine zqS ?_))|(rcases Decidable.em (k=6) with zx2|zx2<;>first|(have zx3:cR (bM A ONE ZERO 6 k)++[.val (.bool ONE.num.neg),.isl ONE.num.z (cI .u32 ONE.num.l) ONE.num.l.length,.val (.bool ONE.den.neg),.isl ONE.den.z (cI .u32 ONE.den.l) ONE.den.l.length]=cR (bM A ONE ZERO 6 (k+1)):=(by rw[bM,if_pos zx2];exact dE _ _);(simp-dsimp only[qD];refine zqS ?_))|(have zx3:cR (bM A ONE ZERO 6 k)++[.val (.bool ZERO.num.neg),.isl ZERO.num.z (cI .u32 ZERO.num.l) ZERO.num.l.length,.val (.bool ZERO.den.neg),.isl ZERO.den.z (cI .u32 ZERO.den.l) ZERO.den.l.length]=cR (bM A ONE ZERO 6 (k+1)):=(by rw[bM,if_neg zx2];exact dE _ _);(simp-dsimp only[qD];refine zqS ?_)))))|(refine aj ?_;refine Nxt.mk [0,1,2,3,4,5,6,7,8,9,11] (⟨k+1,omgz⟩) rfl (by unfold qD;exact aO) zqO)|(refine aj ?_;refine Nxt.mk [0,1,2,3,4,5,6,7,8,9,12] (⟨k+1,omgz⟩) rfl (by unfold qD;exact aO) zqO)|(refine aj ?_;refine Nxt.mk [0,1,2,3,4,5,6,7,8,9,13] (⟨k+1,omgz⟩) rfl (by unfold qD;exact aO) zqO)|(refine aj ?_;refine Nxt.mk [0,1,14,16,4,5,6,7,8,9,12,21,22] (⟨7,omgz⟩) rfl (by unfold gV;exact aO) zqO)|refine zqN ?_|refine fC hc6.down ?_|refine fC h1.down ?_|refine fC h0.down ?_|refine mh ?_|refine kg ?_|refine ko ?_|refine kr ?_|refine mo ?_|(refine mq ?_ ?_<;>intro hc<;>try exact zqM)|refine zqR [(13,11,[],1),(13,12,[13],1),(13,13,[],1),(13,14,[5],1),(13,17,[2],0),(14,11,[],1),(14,12,[6],1),(14,15,[2],0)] ?_|refine zqD ?_|fail))
 all_goals trace_state
end
section
open Go Go.Sy Go.Bp Go.Lm Go.Rt
attribute [local irreducible] AO AL AC OpT ACall Ends DGo aK Thn Blk Nxt
variable {n k i j q:Nat} {cz:Bool} {A:List RL} {B C:List RV} {ONE ZERO X:RV}
theorem ahW{Q:Exit->Nat->St->Prop}(hr:7<=9)(hn:1<=n)(hn2:n<=400)(hA:A.length=9)(hB:B.length=9)(hz7:(A.getD 7 default).z=false)(hl7:(A.getD 7 default).l.length=n)(hc7:ACall Tryz.prog 132 [.isl false (cR (A.getD 7 default).l) n] [] 0 (.sl 0 0 n 4) [.cells (cR (A.getD 7 default).l) 60])(h1:ACall Tryz.prog 171 [] [] 0 (.agg (aa.cells ONE)) [])(h0:ACall Tryz.prog 131 [] [] 0 (.agg (aa.cells ZERO)) []):
 AC Tryz.prog (cAt [1,1,0,1,0,0] (Tryz.f128.body.getD .skip)) (Thn (λ_ s=>Nxt (gV A B C cz n ONE ZERO) (λi=>9-i.val) ([0,1,20,21,22,23,24,25,26,27,28,29,30]:List Nat).length ⟨7,hr⟩ s) Q) ([0,1,20,21,22,23,24,25,26,27,28,29,30]:List Nat).length (gV A B C cz n ONE ZERO ⟨7,hr⟩):=by
 have h1:=PLift.up h1;have h0:=PLift.up h0;have hc7:=PLift.up hc7
 rw[ax ONE] at h1;rw[ax ZERO] at h0
 have hg7:=λ(k:Nat)=>jv (A:=A) (ONE:=ONE) (ZERO:=ZERO) (i:=7) (k:=k) hl7;have hf7:=iY (A:=A) (B:=B) (ONE:=ONE) (ZERO:=ZERO) (i:=7) hl7
 have hs7:_=cR (aP A B ONE ZERO 7):=dE (bM A ONE ZERO 7 9) (B.getD 7 default);have hgz7:bM A ONE ZERO 7 0=(A.getD 7 default).l:=rfl
 have hn4:n+9+1=n+10:=rfl;have hi0:(n:Int)+0=n:=Int.add_zero _
 have hbd7:List.take 4 (List.drop 28 (cR B))=[.val (.bool (B.getD 7 default).num.neg),.isl (B.getD 7 default).num.z (cI .u32 (B.getD 7 default).num.l) (B.getD 7 default).num.l.length,.val (.bool (B.getD 7 default).den.neg),.isl (B.getD 7 default).den.z (cI .u32 (B.getD 7 default).den.l) (B.getD 7 default).den.l.length]:=by
  match B,hB with
  |[b0,b1,b2,b3,b4,b5,b6,b7,b8],_=>rfl
 have zx7:=And.intro hn4 (And.intro hi0 (And.intro hbd7 (And.intro hz7 (And.intro hl7 (And.intro hf7 (And.intro hs7 (hgz7)))))))
 have zx1:=ae;have zx2:=ae;have zx3:=ae
 (simp-dsimp only[gV];refine zqS ?_)
 all_goals(have zx4:= @hA;have zx5:= @hB;have zx6:= @lq;have zx8:=aA;have zx9:=aA;repeat' (first|(refine ah ?_;refine ak [0,1,2,3,4,5,6,7,8,9,10,13] ([0,1,2,3,4,5,6,7,8,9,10,13].length) (qE A B C cz n ONE ZERO) (λk=>9-k.val) (⟨0,omgz⟩) rfl (by unfold qE;exact aO) ?_;(rintro⟨k,hk⟩;have zx1:=hg7 k;rcases Nat.lt_or_eq_of_le hk with hkl|hkl<;>first|(have eQ:=hkl.symm;subst eQ;(simp-dsimp only[qE];refine zqS ?_))|(rcases Decidable.em (k=7) with zx2|zx2<;>first|(have zx3:cR (bM A ONE ZERO 7 k)++[.val (.bool ONE.num.neg),.isl ONE.num.z (cI .u32 ONE.num.l) ONE.num.l.length,.val (.bool ONE.den.neg),.isl ONE.den.z (cI .u32 ONE.den.l) ONE.den.l.length]=cR (bM A ONE ZERO 7 (k+1)):=(by rw[bM,if_pos zx2];exact dE _ _);(simp-dsimp only[qE];refine zqS ?_))|(have zx3:cR (bM A ONE ZERO 7 k)++[.val (.bool ZERO.num.neg),.isl ZERO.num.z (cI .u32 ZERO.num.l) ZERO.num.l.length,.val (.bool ZERO.den.neg),.isl ZERO.den.z (cI .u32 ZERO.den.l) ZERO.den.l.length]=cR (bM A ONE ZERO 7 (k+1)):=(by rw[bM,if_neg zx2];exact dE _ _);(simp-dsimp only[qE];refine zqS ?_)))))|(refine aj ?_;refine Nxt.mk [0,1,2,3,4,5,6,7,8,9,10,12] (⟨k+1,omgz⟩) rfl (by unfold qE;exact aO) zqO)|(refine aj ?_;refine Nxt.mk [0,1,2,3,4,5,6,7,8,9,10,13] (⟨k+1,omgz⟩) rfl (by unfold qE;exact aO) zqO)|(refine aj ?_;refine Nxt.mk [0,1,2,3,4,5,6,7,8,9,10,14] (⟨k+1,omgz⟩) rfl (by unfold qE;exact aO) zqO)|(refine aj ?_;refine Nxt.mk [0,1,15,17,4,5,6,7,8,9,10,13,21] (⟨8,omgz⟩) rfl (by unfold gV;exact aO) zqO)|refine zqN ?_|refine fC hc7.down ?_|refine fC h1.down ?_|refine fC h0.down ?_|refine mh ?_|refine kg ?_|refine ko ?_|refine kr ?_|refine mo ?_|(refine mq ?_ ?_<;>intro hc<;>try exact zqM)|refine zqR [(13,11,[],1),(13,12,[14],1),(13,13,[],1),(13,14,[5],1),(13,17,[2],0),(14,11,[],1),(14,12,[6],1),(14,15,[2],0)] ?_|refine zqD ?_|fail))
 all_goals trace_state
end
section
open Go Go.Sy Go.Bp Go.Lm Go.Rt
attribute [local irreducible] AO AL AC OpT ACall Ends DGo aK Thn Blk Nxt
variable {n k i j q:Nat} {cz:Bool} {A:List RL} {B C:List RV} {ONE ZERO X:RV}
theorem ahX{Q:Exit->Nat->St->Prop}(hr:8<=9)(hn:1<=n)(hn2:n<=400)(hA:A.length=9)(hB:B.length=9)(hz8:(A.getD 8 default).z=false)(hl8:(A.getD 8 default).l.length=n)(hc8:ACall Tryz.prog 132 [.isl false (cR (A.getD 8 default).l) n] [] 0 (.sl 0 0 n 4) [.cells (cR (A.getD 8 default).l) 60])(h1:ACall Tryz.prog 171 [] [] 0 (.agg (aa.cells ONE)) [])(h0:ACall Tryz.prog 131 [] [] 0 (.agg (aa.cells ZERO)) []):
 AC Tryz.prog (cAt [1,1,0,1,0,0] (Tryz.f128.body.getD .skip)) (Thn (λ_ s=>Nxt (gV A B C cz n ONE ZERO) (λi=>9-i.val) ([0,1,20,21,22,23,24,25,26,27,28,29,30]:List Nat).length ⟨8,hr⟩ s) Q) ([0,1,20,21,22,23,24,25,26,27,28,29,30]:List Nat).length (gV A B C cz n ONE ZERO ⟨8,hr⟩):=by
 have h1:=PLift.up h1;have h0:=PLift.up h0;have hc8:=PLift.up hc8
 rw[ax ONE] at h1;rw[ax ZERO] at h0
 have hg8:=λ(k:Nat)=>jv (A:=A) (ONE:=ONE) (ZERO:=ZERO) (i:=8) (k:=k) hl8;have hf8:=iY (A:=A) (B:=B) (ONE:=ONE) (ZERO:=ZERO) (i:=8) hl8
 have hs8:_=cR (aP A B ONE ZERO 8):=dE (bM A ONE ZERO 8 9) (B.getD 8 default);have hgz8:bM A ONE ZERO 8 0=(A.getD 8 default).l:=rfl
 have hn4:n+9+1=n+10:=rfl;have hi0:(n:Int)+0=n:=Int.add_zero _
 have hbd8:List.take 4 (List.drop 32 (cR B))=[.val (.bool (B.getD 8 default).num.neg),.isl (B.getD 8 default).num.z (cI .u32 (B.getD 8 default).num.l) (B.getD 8 default).num.l.length,.val (.bool (B.getD 8 default).den.neg),.isl (B.getD 8 default).den.z (cI .u32 (B.getD 8 default).den.l) (B.getD 8 default).den.l.length]:=by
  match B,hB with
  |[b0,b1,b2,b3,b4,b5,b6,b7,b8],_=>rfl
 have zx7:=And.intro hn4 (And.intro hi0 (And.intro hbd8 (And.intro hz8 (And.intro hl8 (And.intro hf8 (And.intro hs8 (hgz8)))))))
 have zx1:=ae;have zx2:=ae;have zx3:=ae
 (simp-dsimp only[gV];refine zqS ?_)
 all_goals(have zx4:= @hA;have zx5:= @hB;have zx6:= @lq;have zx8:=aA;have zx9:=aA;repeat' (first|(refine ah ?_;refine ak [0,1,2,3,4,5,6,7,8,9,10,11,13] ([0,1,2,3,4,5,6,7,8,9,10,11,13].length) (qF A B C cz n ONE ZERO) (λk=>9-k.val) (⟨0,omgz⟩) rfl (by unfold qF;exact aO) ?_;(rintro⟨k,hk⟩;have zx1:=hg8 k;rcases Nat.lt_or_eq_of_le hk with hkl|hkl<;>first|(have eQ:=hkl.symm;subst eQ;(simp-dsimp only[qF];refine zqS ?_))|(rcases Decidable.em (k=8) with zx2|zx2<;>first|(have zx3:cR (bM A ONE ZERO 8 k)++[.val (.bool ONE.num.neg),.isl ONE.num.z (cI .u32 ONE.num.l) ONE.num.l.length,.val (.bool ONE.den.neg),.isl ONE.den.z (cI .u32 ONE.den.l) ONE.den.l.length]=cR (bM A ONE ZERO 8 (k+1)):=(by rw[bM,if_pos zx2];exact dE _ _);(simp-dsimp only[qF];refine zqS ?_))|(have zx3:cR (bM A ONE ZERO 8 k)++[.val (.bool ZERO.num.neg),.isl ZERO.num.z (cI .u32 ZERO.num.l) ZERO.num.l.length,.val (.bool ZERO.den.neg),.isl ZERO.den.z (cI .u32 ZERO.den.l) ZERO.den.l.length]=cR (bM A ONE ZERO 8 (k+1)):=(by rw[bM,if_neg zx2];exact dE _ _);(simp-dsimp only[qF];refine zqS ?_)))))|(refine aj ?_;refine Nxt.mk [0,1,2,3,4,5,6,7,8,9,10,11,13] (⟨k+1,omgz⟩) rfl (by unfold qF;exact aO) zqO)|(refine aj ?_;refine Nxt.mk [0,1,2,3,4,5,6,7,8,9,10,11,14] (⟨k+1,omgz⟩) rfl (by unfold qF;exact aO) zqO)|(refine aj ?_;refine Nxt.mk [0,1,2,3,4,5,6,7,8,9,10,11,15] (⟨k+1,omgz⟩) rfl (by unfold qF;exact aO) zqO)|(refine aj ?_;refine Nxt.mk [0,1,16,18,4,5,6,7,8,9,10,11,14] (⟨9,omgz⟩) rfl (by unfold gV;exact aO) zqO)|refine zqN ?_|refine fC hc8.down ?_|refine fC h1.down ?_|refine fC h0.down ?_|refine mh ?_|refine kg ?_|refine ko ?_|refine kr ?_|refine mo ?_|(refine mq ?_ ?_<;>intro hc<;>try exact zqM)|refine zqR [(13,11,[],1),(13,12,[15],1),(13,13,[],1),(13,14,[5],1),(13,17,[2],0),(14,11,[],1),(14,12,[6],1),(14,15,[2],0)] ?_|refine zqD ?_|fail))
 all_goals trace_state
end
