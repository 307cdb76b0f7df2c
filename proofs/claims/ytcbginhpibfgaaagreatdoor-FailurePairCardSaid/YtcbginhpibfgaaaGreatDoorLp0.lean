/- Lp0. No condition. -/
import Derived.Test.YtcbginhpibfgaaaGreatDoorEcG1
import Derived.Test.YtcbginhpibfgaaaGreatDoorLmG1
import Derived.Lib.ItoaNum
set_option linter.all false
set_option maxHeartbeats 4000000
set_option maxRecDepth 200000
namespace Go.Proofs.YtcbginhpibfgaaaGreatDoor
open Go Go.Sy Go.Bp Go.Lm
attribute [local irreducible] AO AL AC OpT ACall Ends DGo bK Thn Blk Nxt
variable {n k i m j u b c w q:Nat} {z:Bool} {l:List Int} {v x y:Int} {B:Bool}
def l8S:ByteArray:=⟨(([0,1,2,2,3,3,3,3,4,4,4,4,4,4,4,4,5,5,5,5,5,5,5,5,5,5,5,5,5,5,5,5,6,6,6,6,6,6,6,6,6,6,6,6,6,6,6,6,6,6,6,6,6,6,6,6,6,6,6,6,6,6,6,6].append [7,7,7,7,7,7,7,7,7,7,7,7,7,7,7,7,7,7,7,7,7,7,7,7,7,7,7,7,7,7,7,7,7,7,7,7,7,7,7,7,7,7,7,7,7,7,7,7,7,7,7,7,7,7,7,7,7,7,7,7,7,7,7,7]).append ([8,8,8,8,8,8,8,8,8,8,8,8,8,8,8,8,8,8,8,8,8,8,8,8,8,8,8,8,8,8,8,8,8,8,8,8,8,8,8,8,8,8,8,8,8,8,8,8,8,8,8,8,8,8,8,8,8,8,8,8,8,8,8,8].append [8,8,8,8,8,8,8,8,8,8,8,8,8,8,8,8,8,8,8,8,8,8,8,8,8,8,8,8,8,8,8,8,8,8,8,8,8,8,8,8,8,8,8,8,8,8,8,8,8,8,8,8,8,8,8,8,8,8,8,8,8,8,8,8])).toArray⟩
theorem Dx:(⟨(([0,1,2,2,3,3,3,3,4,4,4,4,4,4,4,4,5,5,5,5,5,5,5,5,5,5,5,5,5,5,5,5,6,6,6,6,6,6,6,6,6,6,6,6,6,6,6,6,6,6,6,6,6,6,6,6,6,6,6,6,6,6,6,6].append [7,7,7,7,7,7,7,7,7,7,7,7,7,7,7,7,7,7,7,7,7,7,7,7,7,7,7,7,7,7,7,7,7,7,7,7,7,7,7,7,7,7,7,7,7,7,7,7,7,7,7,7,7,7,7,7,7,7,7,7,7,7,7,7]).append ([8,8,8,8,8,8,8,8,8,8,8,8,8,8,8,8,8,8,8,8,8,8,8,8,8,8,8,8,8,8,8,8,8,8,8,8,8,8,8,8,8,8,8,8,8,8,8,8,8,8,8,8,8,8,8,8,8,8,8,8,8,8,8,8].append [8,8,8,8,8,8,8,8,8,8,8,8,8,8,8,8,8,8,8,8,8,8,8,8,8,8,8,8,8,8,8,8,8,8,8,8,8,8,8,8,8,8,8,8,8,8,8,8,8,8,8,8,8,8,8,8,8,8,8,8,8,8,8,8])).toArray⟩:ByteArray)=l8S:=rfl
theorem Dy:l8S.size=256:=by decide+kernel
def b8(x:Nat):Nat:=(l8S.get! x).toNat
theorem aim:∀x,x<256→(x=0∧b8 x=0)∨(1≤b8 x∧b8 x≤8∧2^(b8 x-1)≤x∧x<2^b8 x):=by decide+kernel
def smS:ByteArray:=⟨(([48,48,48,49,48,50,48,51,48,52,48,53,48,54,48,55,48,56,48,57,49,48,49,49,49,50,49,51,49,52,49,53,49,54,49,55,49,56,49,57,50,48,50,49,50,50,50,51,50,52].append [50,53,50,54,50,55,50,56,50,57,51,48,51,49,51,50,51,51,51,52,51,53,51,54,51,55,51,56,51,57,52,48,52,49,52,50,52,51,52,52,52,53,52,54,52,55,52,56,52,57]).append ([53,48,53,49,53,50,53,51,53,52,53,53,53,54,53,55,53,56,53,57,54,48,54,49,54,50,54,51,54,52,54,53,54,54,54,55,54,56,54,57,55,48,55,49,55,50,55,51,55,52].append [55,53,55,54,55,55,55,56,55,57,56,48,56,49,56,50,56,51,56,52,56,53,56,54,56,55,56,56,56,57,57,48,57,49,57,50,57,51,57,52,57,53,57,54,57,55,57,56,57,57])).toArray⟩
theorem gu:(⟨(([48,48,48,49,48,50,48,51,48,52,48,53,48,54,48,55,48,56,48,57,49,48,49,49,49,50,49,51,49,52,49,53,49,54,49,55,49,56,49,57,50,48,50,49,50,50,50,51,50,52].append [50,53,50,54,50,55,50,56,50,57,51,48,51,49,51,50,51,51,51,52,51,53,51,54,51,55,51,56,51,57,52,48,52,49,52,50,52,51,52,52,52,53,52,54,52,55,52,56,52,57]).append ([53,48,53,49,53,50,53,51,53,52,53,53,53,54,53,55,53,56,53,57,54,48,54,49,54,50,54,51,54,52,54,53,54,54,54,55,54,56,54,57,55,48,55,49,55,50,55,51,55,52].append [55,53,55,54,55,55,55,56,55,57,56,48,56,49,56,50,56,51,56,52,56,53,56,54,56,55,56,56,56,57,57,48,57,49,57,50,57,51,57,52,57,53,57,54,57,55,57,56,57,57])).toArray⟩:ByteArray)=smS:=rfl
theorem fP:smS.size=200:=by decide+kernel
theorem fdv(u s:Nat)(h:s≤64):Int.fdiv (u:Int) (2^min s (IntKind.bits .u64))=((u/2^s:Nat):Int):=by
 rw[show IntKind.bits .u64=64 from rfl,Nat.min_eq_left h,Int.fdiv_eq_ediv_of_nonneg _ (Int.pow_nonneg (by decide)),show(2:Int)^s=((2^s:Nat):Int) by simp,←Int.natCast_ediv]
theorem fd16(u:Nat):Int.fdiv (u:Int) (2^min 16 (IntKind.bits .u64))=((u/65536:Nat):Int):=fdv u 16 (by decide)
theorem fd8(u:Nat):Int.fdiv (u:Int) (2^min 8 (IntKind.bits .u64))=((u/256:Nat):Int):=fdv u 8 (by decide)
theorem acX{s:Nat}(h1:1≤b∧2^(b-1)≤u∧u<2^b)(h2:1≤c∧2^(c-1)≤u/2^s∧u/2^s<2^c):b=c+s:=by
 have hs:=Nat.two_pow_pos s
 have l1:2^(c-1+s)≤u:=by rw[Nat.pow_add];exact(Nat.le_div_iff_mul_le hs).1 h2.2.1
 have l2:u<2^(c+s):=by rw[Nat.pow_add];exact(Nat.div_lt_iff_lt_mul hs).1 h2.2.2
 have a1:c-1+s<b:=(Nat.pow_lt_pow_iff_right (show 1<2 by decide)).1 (Nat.lt_of_le_of_lt l1 h1.2.2)
 have a2:b-1<c+s:=(Nat.pow_lt_pow_iff_right (show 1<2 by decide)).1 (Nat.lt_of_le_of_lt h1.2.1 l2)
 omega
theorem Dz(x:Nat):(l8S.get! x).toNat=b8 x:=rfl
theorem Xu(h0:0<u)(hu:u<4294967296)(hb:1≤b∧2^(b-1)≤u∧u<2^b):ACall Tryz.prog 172 [.val (.int .u64 u)] [] 0 (.val (.int .i64 b)) []:=by
 have zx1:=fd16 u;have zx2:=fd8 u;have zx3:=fd8 (u/65536)
 obtain⟨v,hv⟩:∃v,u/65536=v:=⟨_,rfl⟩
 obtain⟨w,hw⟩:∃w,u/256=w:=⟨_,rfl⟩
 obtain⟨x,hx2⟩:∃x,v/256=x:=⟨_,rfl⟩
 rw[hv] at zx1 zx3;rw[hw] at zx2;rw[hx2] at zx3
 have key:∀y s,y<256→y=u/2^s→0<y→b=b8 y+s∧b8 y≤8:=fun y s hy e h0=>by
  rcases aim y hy with hx|hx
  ·omega
  ·exact⟨acX (s:=s) hb (by rw[←e];exact⟨hx.1,hx.2.2.1,hx.2.2.2⟩),hx.2.1⟩
 rcases Nat.lt_or_ge u 65536 with h1|h1
 ·rcases Nat.lt_or_ge u 256 with h2|h2
  ·obtain⟨e,hq8⟩:=key u 0 h2 (by rw[Nat.pow_zero,Nat.div_one]) h0
   generalize hq:b8 u=q at e hq8
   refine ak Tryz.func172 Tryz.ntmps172 rfl ?_
   have zx4:= @Dx;have zx5:= @Dy;have zx6:= @Dz;have zx7:= @hq;have zx8:=aC;have zx9:=aC;repeat' (first|refine zqN ?_|((first|refine ay rfl (fun K hK=>?_)|refine aj (fun K hK=>?_));(first|apply dZ);refine qV ?_;apply hK;clear hK K)|refine uz ?_|refine uA ?_|(refine uB ?_ ?_<;>intro hc<;>try exact zqM))
   all_goals(refine Ends.mk2 zqI [] ?_;simp-dsimp(disch:=try exact vD) only[push_cast,simprocAttr,Tryz.f172];try exact zqF)
  ·obtain⟨e,hq8⟩:=key w 8 (by omega) hw.symm (by omega)
   generalize hq:b8 w=q at e hq8
   refine ak Tryz.func172 Tryz.ntmps172 rfl ?_
   have zx4:= @Dx;have zx5:= @Dy;have zx6:= @Dz;have zx7:= @hq;have zx8:=aC;have zx9:=aC;repeat' (first|refine zqN ?_|((first|refine ay rfl (fun K hK=>?_)|refine aj (fun K hK=>?_));(first|apply dZ);refine qV ?_;apply hK;clear hK K)|refine uz ?_|refine uA ?_|(refine uB ?_ ?_<;>intro hc<;>try exact zqM))
   all_goals(refine Ends.mk2 zqI [] ?_;simp-dsimp(disch:=try exact vD) only[push_cast,simprocAttr,Tryz.f172];try exact zqF)
 ·rcases Nat.lt_or_ge v 256 with h2|h2
  ·obtain⟨e,hq8⟩:=key v 16 h2 hv.symm (by omega)
   generalize hq:b8 v=q at e hq8
   refine ak Tryz.func172 Tryz.ntmps172 rfl ?_
   have zx4:= @Dx;have zx5:= @Dy;have zx6:= @Dz;have zx7:= @hq;have zx8:=aC;have zx9:=aC;repeat' (first|refine zqN ?_|((first|refine ay rfl (fun K hK=>?_)|refine aj (fun K hK=>?_));(first|apply dZ);refine qV ?_;apply hK;clear hK K)|refine uz ?_|refine uA ?_|(refine uB ?_ ?_<;>intro hc<;>try exact zqM))
   all_goals(refine Ends.mk2 zqI [] ?_;simp-dsimp(disch:=try exact vD) only[push_cast,simprocAttr,Tryz.f172];try exact zqF)
  ·obtain⟨e,hq8⟩:=key x 24 (by omega) (by rw[show(2:Nat)^24=16777216 from rfl];omega) (by omega)
   generalize hq:b8 x=q at e hq8
   refine ak Tryz.func172 Tryz.ntmps172 rfl ?_
   have zx4:= @Dx;have zx5:= @Dy;have zx6:= @Dz;have zx7:= @hq;have zx8:=aC;have zx9:=aC;repeat' (first|refine zqN ?_|((first|refine ay rfl (fun K hK=>?_)|refine aj (fun K hK=>?_));(first|apply dZ);refine qV ?_;apply hK;clear hK K)|refine uz ?_|refine uA ?_|(refine uB ?_ ?_<;>intro hc<;>try exact zqM))
   all_goals(refine Ends.mk2 zqI [] ?_;simp-dsimp(disch:=try exact vD) only[push_cast,simprocAttr,Tryz.f172];try exact zqF)
theorem ain(h:b≤64):ACall Tryz.prog 171 [.val (.int .i64 b)] [] 0 (.val (.int .i64 (Lib.l10 b))) []:=by
 have zx1:Int.fdiv ((b:Int)*78913) (2^min 18 (IntKind.bits .i64))=((Lib.l10 b:Nat):Int):=by
  rw[show IntKind.bits .i64=64 from rfl,show min 18 64=18 from rfl,Int.fdiv_eq_ediv_of_nonneg _ (by decide)]
  unfold Lib.l10
  rw[show(2:Int)^18=((262144:Nat):Int) by rfl];omega
 refine ak Tryz.func171 Tryz.ntmps171 rfl ?_
 have zx2:=aC;have zx3:=aC;repeat' (first|refine zqN ?_|refine bM ?_|refine bO ?_|(refine bP ?_ ?_<;>intro hc<;>try exact zqM))
 all_goals(refine Ends.mk2 zqI [] ?_;simp-dsimp(disch:=try exact vD) only[push_cast,simprocAttr,Tryz.f171];try exact zqF)
theorem Xv:ACall Tryz.prog 173 [.val (.bool B)] [] 0 (.val (.int .i64 (if B=true then 1 else 0))) []:=by
 cases B
 all_goals(refine ak Tryz.func173 Tryz.ntmps173 rfl ?_)
 all_goals repeat' (first|refine zqN ?_|refine aK ?_|refine aL ?_|(refine aM ?_ ?_<;>intro hc<;>try exact zqM))
 all_goals(refine Ends.mk2 zqI [] ?_;simp-dsimp(disch:=try exact vD) only[push_cast,simprocAttr,Tryz.f173];try exact zqF)
theorem aio{st:St} {g:Nat}:st.op (.global g)=Re g:=rfl
theorem ak1:Re 0= .ipt (cI .u64 tabP) 0:=rfl
theorem Xw:tabP.length=20:=rfl
theorem acY:∀i,i<20→tabP[i]? =some ((10^i:Nat):Int):=by decide
theorem nDig(h:0<u):Lib.nDigits u=dgs u:=by
 obtain⟨h1,h2⟩:=EP h
 obtain⟨q,hq⟩:∃q,dgs u=q+1:=⟨_,(Nat.succ_pred_eq_of_pos h1).symm⟩
 have h3:=JN (u:=u)
 rw[hq] at h2 h3⊢
 exact Lib.nDigits_unique q u h2 h3
theorem acZ(h0:0<u)(hu:u<4294967296):ACall Tryz.prog 168 [.val (.int .u64 u)] [] 0 (.val (.int .i64 (dgs u))) []:=by
 obtain⟨h1,h2⟩:=Lib.numDigits_eq u h0 (by omega)
 have hb:=Lib.bitLenAux_bounds 64 u (by omega) (by omega)
 have hbu:Lib.bitLenAux 64 u≤64:=by
  refine Decidable.not_not.1 fun hc=>?_
  have:2^64≤2^(Lib.bitLenAux 64 u-1):=Nat.pow_le_pow_right (by decide) (by omega)
  omega
 rw[nDig h0] at h1
 rw[←h1]
 unfold Lib.bitLen at*
 have h9:=PLift.up (Xu h0 hu hb)
 have h10:=PLift.up (ain hbu)
 generalize Lib.bitLenAux 64 u=b at*
 generalize Lib.l10 b=k at*
 have zx4:=acY k (by omega)
 have hp:10^k≤10^19:=Nat.pow_le_pow_right (by decide) h2
 generalize 10^k=P at*
 have hle:(((P:Nat):Int)≤(u:Int))=(P≤u):=propext Int.ofNat_le
 have zx5:=ae
 by_cases zx5:P≤u
 all_goals(refine ak Tryz.func168 Tryz.ntmps168 rfl ?_)
 all_goals(have zx1:= @aio;have zx2:= @ak1;have zx3:= @Xw;have zx6:=aC;repeat' (first|refine zqN ?_|refine gG h9.down ?_|refine gG h10.down ?_|refine gG Xv ?_|refine kE ?_|refine kF ?_|(refine kG ?_ ?_<;>intro hc<;>try exact zqM)))
 all_goals first
  |(rw[if_pos zx5];(refine Ends.mk2 zqI [] ?_;simp-dsimp(disch:=try exact vD) only[push_cast,simprocAttr,Tryz.f168];try exact zqF);done)
  |(rw[if_neg zx5];(refine Ends.mk2 zqI [] ?_;simp-dsimp(disch:=try exact vD) only[push_cast,simprocAttr,Tryz.f168];try exact zqF);done)
  |skip
