/- Lq1 Lq2. No condition. -/
import Derived.Test.YtgmpdplpodemaaaGreatDoorLpG12
import Derived.Test.YtgmpdplpodemaaaGreatDoorRtG1
set_option linter.all false
set_option maxHeartbeats 4000000
set_option maxRecDepth 20000
namespace Go.Proofs.YtgmpdplpodemaaaGreatDoor
open Go Go.Sy Go.Bp Go.Lm Go.Rt
attribute [local irreducible] AO AL AC OpT ACall Ends DGo aN Thn Blk Nxt
variable {n N M k i m j:Nat} {z z':Bool} {a b v x y e s c:Int} {A B A1 B1 G G2 P Q R1 R2 Z1 X1 Y1:IV} {p q:Rat}
structure RV where
 num:IV
 den:IV
deriving DecidableEq
instance:Inhabited RV:=⟨⟨default,default⟩⟩
instance:aa RV 4:=⟨fun x=>[.val (.bool x.num.neg),.isl x.num.z (cI .u32 x.num.l) x.num.l.length,.val (.bool x.den.neg),.isl x.den.z (cI .u32 x.den.l) x.den.l.length],fun _=>rfl,fun _=>rfl,fun _=>rfl⟩
theorem ay(x:RV):aa.cells x=[.val (.bool x.num.neg),.isl x.num.z (cI .u32 x.num.l) x.num.l.length,.val (.bool x.den.neg),.isl x.den.z (cI .u32 x.den.l) x.den.l.length]:=rfl
theorem rv_0(x:RV):(aa.cells x)[0]? =some (.val (.bool x.num.neg)):=rfl
theorem rv_1(x:RV):(aa.cells x)[1]? =some (.isl x.num.z (cI .u32 x.num.l) x.num.l.length):=rfl
theorem rv_2(x:RV):(aa.cells x)[2]? =some (.val (.bool x.den.neg)):=rfl
theorem rv_3(x:RV):(aa.cells x)[3]? =some (.isl x.den.z (cI .u32 x.den.l) x.den.l.length):=rfl
attribute [push_cast] ay rv_0 rv_1 rv_2 rv_3
variable {X Y:RV}
def rQ(z:Bool)(q:Rat):RV:=⟨iV z q.num,iV false q.den⟩
def rC(q:Rat):RV:=⟨iC q.num,iC q.den⟩
theorem ma:rC q=rQ (q.num==0) q:=by
 unfold rC rQ
 rw[xY,xY,show((q.den:Int)==0)=false by simpa using q.den_nz]
def rZ:RV:=⟨⟨true,false,[]⟩,⟨true,false,[]⟩⟩
theorem PL:ACall Tryz.prog 145 [] [] 0 (.agg (aa.cells (iC 1))) []:=by
 have h:=PLift.up (uE (v:=1) (by decide) (by decide))
 obtain⟨W,hW⟩:∃W,W=iC 1:=⟨_,rfl⟩
 rw[←hW] at h⊢
 refine az Tryz.func145 Tryz.ntmps145 rfl ?_
 repeat' (first|refine zqN ?_|refine aT h.down ?_|refine bA ?_|refine bB ?_|(refine bC ?_ ?_<;>intro hc<;>try exact zqM))
 all_goals first
  |((refine Ends.mk2 zqI [] ?_;simp-dsimp(disch:=try exact vD) only[push_cast,simprocAttr,Tryz.f145];try exact zqF);done)
  |skip
theorem Bn(hs0:¬s<0)(hg:ACall Tryz.prog 143 [.agg (aa.cells A),.agg (aa.cells B)] [] 0 (.tup [.agg (aa.cells G),.val (.int .i64 0)]) [])
 (hs:ACall Tryz.prog 138 [.agg (aa.cells B)] [] 0 (.val (.int .i64 s)) []) (h1:ACall Tryz.prog 206 [.agg (aa.cells A),.agg (aa.cells G)] [] 0 (.tup [.agg (aa.cells P),.agg (aa.cells R1),.val (.int .i64 0)]) [])
 (h2:ACall Tryz.prog 206 [.agg (aa.cells B),.agg (aa.cells G)] [] 0 (.tup [.agg (aa.cells Q),.agg (aa.cells R2),.val (.int .i64 0)]) []):
 ACall Tryz.prog 182 [.agg (aa.cells A),.agg (aa.cells B)] [] 0 (.tup [.agg (aa.cells (⟨P,Q⟩:RV)),.val (.int .i64 0)]) []:=by
 have hg:=PLift.up hg;have hs:=PLift.up hs;have h1:=PLift.up h1;have h2:=PLift.up h2
 rw[bE A,bE B]
 refine az Tryz.func182 Tryz.ntmps182 rfl ?_
 repeat' (first|refine zqN ?_|refine aT hg.down ?_|refine aT hs.down ?_|refine aT h1.down ?_|refine aT h2.down ?_|refine bA ?_|refine bB ?_|(refine bC ?_ ?_<;>intro hc<;>try exact zqM)|refine zqR 5 [⟨0,[],[27],[],[],0⟩,⟨1,[],[26],[],[],0⟩,⟨2,[0,1],[],[],[],0⟩,⟨3,[0,1,2],[],[],[],0⟩,⟨4,[0,1,2,3],[30],[],[],0⟩,⟨5,[0,1,2,3],[29],[2],[],0⟩,⟨6,[0,1,2,3,4],[30],[],[2],0⟩,⟨7,[0,1,2,3,4,5,6],[],[],[],0⟩] ?_|refine zqD ?_|fail)
 all_goals first
  |((refine Ends.mk2 zqI [] ?_;simp-dsimp(disch:=try exact vD) only[push_cast,simprocAttr,Tryz.f182];try exact zqF);done)
  |skip
theorem uF(hs0:s<0)(hg:ACall Tryz.prog 143 [.agg (aa.cells A),.agg (aa.cells B)] [] 0 (.tup [.agg (aa.cells G),.val (.int .i64 0)]) [])
 (hs:ACall Tryz.prog 138 [.agg (aa.cells B)] [] 0 (.val (.int .i64 s)) []) (hz:ACall Tryz.prog 176 [.val (.int .i64 0)] [] 0 (.agg (aa.cells Z1)) [])
 (hsb:ACall Tryz.prog 179 [.agg (aa.cells Z1),.agg (aa.cells G)] [] 0 (.tup [.agg (aa.cells G2),.val (.int .i64 0)]) [])
 (h1:ACall Tryz.prog 206 [.agg (aa.cells A),.agg (aa.cells G2)] [] 0 (.tup [.agg (aa.cells P),.agg (aa.cells R1),.val (.int .i64 0)]) [])
 (h2:ACall Tryz.prog 206 [.agg (aa.cells B),.agg (aa.cells G2)] [] 0 (.tup [.agg (aa.cells Q),.agg (aa.cells R2),.val (.int .i64 0)]) []):
 ACall Tryz.prog 182 [.agg (aa.cells A),.agg (aa.cells B)] [] 0 (.tup [.agg (aa.cells (⟨P,Q⟩:RV)),.val (.int .i64 0)]) []:=by
 have hg:=PLift.up hg;have hs:=PLift.up hs;have h1:=PLift.up h1;have h2:=PLift.up h2;have hz:=PLift.up hz;have hsb:=PLift.up hsb
 rw[bE A,bE B]
 refine az Tryz.func182 Tryz.ntmps182 rfl ?_
 repeat' (first|refine zqN ?_|refine aT hg.down ?_|refine aT hs.down ?_|refine aT hz.down ?_|refine aT hsb.down ?_|refine aT h1.down ?_|refine aT h2.down ?_|refine bA ?_|refine bB ?_|(refine bC ?_ ?_<;>intro hc<;>try exact zqM)|refine zqR 5 [⟨0,[],[27],[],[],0⟩,⟨1,[],[26],[],[],0⟩,⟨2,[0,1],[],[],[],0⟩,⟨3,[0,1,2],[],[],[],0⟩,⟨4,[0,1,2,3],[30],[],[],0⟩,⟨5,[0,1,2,3],[29],[2],[],0⟩,⟨6,[0,1,2,3,4],[30],[],[2],0⟩,⟨7,[0,1,2,3,4,5,6],[],[],[],0⟩] ?_|refine zqD ?_|fail)
 all_goals first
  |((refine Ends.mk2 zqI [] ?_;simp-dsimp(disch:=try exact vD) only[push_cast,simprocAttr,Tryz.f182];try exact zqF);done)
  |skip
theorem aa4:D300 0:=by unfold D300;decide+kernel
theorem aa5:D300 1:=by
 unfold D300
 have:1<10^300:=by decide+kernel
 exact this
theorem kQ(ha:IOk z a)(hb:IOk z' b)(h0:¬b=0):ACall Tryz.prog 182 [.agg (aa.cells (iV z a)),.agg (aa.cells (iV z' b))] [] 0 (.tup [.agg (aa.cells (rC (Rat.divInt a b))),.val (.int .i64 0)]) []:=by
 have hgd:=zM ha.d hb.d
 have hg0:¬((Int.gcd a b:Nat):Int)=0:=by have:=wI (a:=a) h0;omega
 have hg:=PE ha hb
 have hs:=oh (z:=z') hb.d
 unfold rC
 by_cases hn:b<0
 ·have hz:=uE (v:=0) (by decide) (by decide)
  rw[xY] at hg hz
  have hsb:=I1 (z:=(0:Int)==0) (z':=((Int.gcd a b:Nat):Int)==0) aa4 hgd
  have hgd2:D300 (0-((Int.gcd a b:Nat):Int)):=by unfold D300 at*;omega
  unfold rV at hsb
  rw[qc hgd2,qf hgd2,Int.zero_sub] at hsb
  rw[Int.zero_sub] at hgd2
  rw[sH hn,sI hn]
  have h1:=Bg (z:=z) (z':=(-((Int.gcd a b:Nat):Int))==0) ha (IOk.of hgd2) (by omega)
  have h2:=Bg (z:=z') (z':=(-((Int.gcd a b:Nat):Int))==0) hb (IOk.of hgd2) (by omega)
  refine uF (s:=sgn b) ?_ hg hs hz hsb h1 h2
  unfold sgn;rw[if_neg h0,if_pos hn];decide
 ·have hp:0<b:=by omega
  rw[xY] at hg
  rw[x9 hp,yc hp]
  have h1:=Bg (z:=z) (z':=((Int.gcd a b:Nat):Int)==0) ha (IOk.of hgd) hg0
  have h2:=Bg (z:=z') (z':=((Int.gcd a b:Nat):Int)==0) hb (IOk.of hgd) hg0
  refine Bn (s:=sgn b) ?_ hg hs h1 h2
  unfold sgn;rw[if_neg h0,if_neg hn];decide
theorem K6(h1:ACall Tryz.prog 142 [.agg (aa.cells A)] [] 0 (.val (.bool true)) [])(h2:ACall Tryz.prog 142 [.agg (aa.cells B)] [] 0 (.val (.bool true)) [])(hs0:¬s=0)
 (hs:ACall Tryz.prog 138 [.agg (aa.cells B)] [] 0 (.val (.int .i64 s)) []) (hr:ACall Tryz.prog 182 [.agg (aa.cells A),.agg (aa.cells B)] [] 0 (.tup [.agg (aa.cells X),.val (.int .i64 e)]) []):
 ACall Tryz.prog 183 [.agg (aa.cells A),.agg (aa.cells B)] [] 0 (.tup [.agg (aa.cells X),.val (.int .i64 e)]) []:=by
 have h1:=PLift.up h1;have h2:=PLift.up h2;have hs:=PLift.up hs;have hr:=PLift.up hr
 rw[bE A,bE B]
 refine az Tryz.func183 Tryz.ntmps183 rfl ?_
 have zx1:= @hs0;have zx2:=aD;have zx3:=aD;repeat' (first|refine zqN ?_|refine eG h1.down ?_|refine eG h2.down ?_|refine eG hs.down ?_|refine eG hr.down ?_|refine dx ?_|refine dz ?_|(refine dA ?_ ?_<;>intro hc<;>try exact zqM))
 all_goals first
  |((refine Ends.mk2 zqI [] ?_;simp-dsimp(disch:=try exact vD) only[push_cast,simprocAttr,Tryz.f183];try exact zqF);done)
  |skip
theorem VK(ha:IOk z a)(hb:IOk z' b)(h0:¬b=0):ACall Tryz.prog 183 [.agg (aa.cells (iV z a)),.agg (aa.cells (iV z' b))] [] 0 (.tup [.agg (aa.cells (rC (Rat.divInt a b))),.val (.int .i64 0)]) []:=
 K6 (wG ha.d) (wG hb.d) (by unfold sgn;rw[if_neg h0];split<;>decide) (oh hb.d) (kQ ha hb h0)
theorem VL(h1:ACall Tryz.prog 176 [.val (.int .i64 a)] [] 0 (.agg (aa.cells A)) [])(h2:ACall Tryz.prog 176 [.val (.int .i64 b)] [] 0 (.agg (aa.cells B)) [])(hr:ACall Tryz.prog 183 [.agg (aa.cells A),.agg (aa.cells B)] [] 0 (.tup [.agg (aa.cells X),.val (.int .i64 e)]) []):
 ACall Tryz.prog 140 [.val (.int .i64 a),.val (.int .i64 b)] [] 0 (.tup [.agg (aa.cells X),.val (.int .i64 e)]) []:=by
 have h1:=PLift.up h1;have h2:=PLift.up h2;have hr:=PLift.up hr
 refine az Tryz.func140 Tryz.ntmps140 rfl ?_
 repeat' (first|refine zqN ?_|refine aT h1.down ?_|refine aT h2.down ?_|refine aT hr.down ?_|refine bA ?_|refine bB ?_|(refine bC ?_ ?_<;>intro hc<;>try exact zqM))
 all_goals first
  |((refine Ends.mk2 zqI [] ?_;simp-dsimp(disch:=try exact vD) only[push_cast,simprocAttr,Tryz.f140];try exact zqF);done)
  |skip
abbrev I64(v:Int):Prop:= -9223372036854775808≤v∧v≤9223372036854775807
theorem I9(h:I64 v):D300 v:=by
 have:(9223372036854775808:Nat)<10^300:=by decide+kernel
 unfold D300;obtain⟨h1,h2⟩:=h;omega
theorem ade(ha:I64 a)(hb:I64 b)(h0:¬b=0):ACall Tryz.prog 140 [.val (.int .i64 a),.val (.int .i64 b)] [] 0 (.tup [.agg (aa.cells (rC (Rat.divInt a b))),.val (.int .i64 0)]) []:=
 VL (uE ha.1 ha.2) (uE hb.1 hb.2) (VK (z:=a==0) (z':=b==0) (IOk.of (I9 ha)) (IOk.of (I9 hb)) h0)
theorem PM(h1:ACall Tryz.prog 142 [.agg (aa.cells X.num)] [] 0 (.val (.bool false)) []):ACall Tryz.prog 102 [.agg (aa.cells X)] [] 0 (.val (.bool false)) []:=by
 have h1:=PLift.up h1
 rw[ay X]
 refine az Tryz.func102 Tryz.ntmps102 rfl ?_
 repeat' (first|refine zqN ?_|refine aT h1.down ?_|refine bA ?_|refine bB ?_|(refine bC ?_ ?_<;>intro hc<;>try exact zqM)|refine zqR 4 [⟨0,[],[],[],[],0⟩,⟨1,[0],[],[],[],0⟩,⟨2,[0,1],[],[],[],0⟩,⟨3,[0,1,2],[33],[],[],0⟩,⟨4,[0,1,2],[32],[],[],0⟩,⟨5,[0,1,2,3,4],[],[],[],0⟩,⟨6,[0,1,2,3,4,5],[],[],[],0⟩,⟨7,[0,1,2,3,4,5,6],[],[],[],0⟩,⟨8,[0,1,2,3,4,5,6,7],[],[],[],0⟩] ?_|refine zqD ?_|fail)
 all_goals first
  |((refine Ends.mk2 zqI [] ?_;simp-dsimp(disch:=try exact vD) only[push_cast,simprocAttr,Tryz.f102];try exact zqF);done)
  |skip
theorem PN(h1:ACall Tryz.prog 142 [.agg (aa.cells X.num)] [] 0 (.val (.bool true)) [])(h2:ACall Tryz.prog 142 [.agg (aa.cells X.den)] [] 0 (.val (.bool false)) []):ACall Tryz.prog 102 [.agg (aa.cells X)] [] 0 (.val (.bool false)) []:=by
 have h1:=PLift.up h1;have h2:=PLift.up h2
 rw[ay X]
 refine az Tryz.func102 Tryz.ntmps102 rfl ?_
 repeat' (first|refine zqN ?_|refine aT h1.down ?_|refine aT h2.down ?_|refine bA ?_|refine bB ?_|(refine bC ?_ ?_<;>intro hc<;>try exact zqM)|refine zqR 4 [⟨0,[],[],[],[],0⟩,⟨1,[0],[],[],[],0⟩,⟨2,[0,1],[],[],[],0⟩,⟨3,[0,1,2],[33],[],[],0⟩,⟨4,[0,1,2],[32],[],[],0⟩,⟨5,[0,1,2,3,4],[],[],[],0⟩,⟨6,[0,1,2,3,4,5],[],[],[],0⟩,⟨7,[0,1,2,3,4,5,6],[],[],[],0⟩,⟨8,[0,1,2,3,4,5,6,7],[],[],[],0⟩] ?_|refine zqD ?_|fail)
 all_goals first
  |((refine Ends.mk2 zqI [] ?_;simp-dsimp(disch:=try exact vD) only[push_cast,simprocAttr,Tryz.f102];try exact zqF);done)
  |skip
theorem PO(h1:ACall Tryz.prog 142 [.agg (aa.cells X.num)] [] 0 (.val (.bool true)) [])(h2:ACall Tryz.prog 142 [.agg (aa.cells X.den)] [] 0 (.val (.bool true)) [])(hs0:s≤0)
 (hs:ACall Tryz.prog 138 [.agg (aa.cells X.den)] [] 0 (.val (.int .i64 s)) []):ACall Tryz.prog 102 [.agg (aa.cells X)] [] 0 (.val (.bool false)) []:=by
 have h1:=PLift.up h1;have h2:=PLift.up h2;have hs:=PLift.up hs
 rw[ay X]
 refine az Tryz.func102 Tryz.ntmps102 rfl ?_
 repeat' (first|refine zqN ?_|refine aT h1.down ?_|refine aT h2.down ?_|refine aT hs.down ?_|refine bA ?_|refine bB ?_|(refine bC ?_ ?_<;>intro hc<;>try exact zqM)|refine zqR 4 [⟨0,[],[],[],[],0⟩,⟨1,[0],[],[],[],0⟩,⟨2,[0,1],[],[],[],0⟩,⟨3,[0,1,2],[33],[],[],0⟩,⟨4,[0,1,2],[32],[],[],0⟩,⟨5,[0,1,2,3,4],[],[],[],0⟩,⟨6,[0,1,2,3,4,5],[],[],[],0⟩,⟨7,[0,1,2,3,4,5,6],[],[],[],0⟩,⟨8,[0,1,2,3,4,5,6,7],[],[],[],0⟩] ?_|refine zqD ?_|fail)
 all_goals first
  |((refine Ends.mk2 zqI [] ?_;simp-dsimp(disch:=try exact vD) only[push_cast,simprocAttr,Tryz.f102];try exact zqF);done)
  |skip
theorem PP(h1:ACall Tryz.prog 142 [.agg (aa.cells X.num)] [] 0 (.val (.bool true)) [])(h2:ACall Tryz.prog 142 [.agg (aa.cells X.den)] [] 0 (.val (.bool true)) [])(hs0:¬s≤0)
 (hs:ACall Tryz.prog 138 [.agg (aa.cells X.den)] [] 0 (.val (.int .i64 s)) []) (hg:ACall Tryz.prog 143 [.agg (aa.cells X.num),.agg (aa.cells X.den)] [] 0 (.tup [.agg (aa.cells G),.val (.int .i64 0)]) [])
 (h3:ACall Tryz.prog 145 [] [] 0 (.agg (aa.cells Z1)) []) (hcq:ACall Tryz.prog 144 [.agg (aa.cells G),.agg (aa.cells Z1)] [] 0 (.val (.int .i64 c)) []):ACall Tryz.prog 102 [.agg (aa.cells X)] [] 0 (.val (.bool (decide (c=0)))) []:=by
 have h1:=PLift.up h1;have h2:=PLift.up h2;have hs:=PLift.up hs;have hg:=PLift.up hg;have h3:=PLift.up h3;have hcq:=PLift.up hcq
 rw[ay X]
 refine az Tryz.func102 Tryz.ntmps102 rfl ?_
 repeat' (first|refine zqN ?_|refine aT h1.down ?_|refine aT h2.down ?_|refine aT hs.down ?_|refine aT hg.down ?_|refine aT h3.down ?_|refine aT hcq.down ?_|refine bA ?_|refine bB ?_|(refine bC ?_ ?_<;>intro hc<;>try exact zqM)|refine zqR 4 [⟨0,[],[],[],[],0⟩,⟨1,[0],[],[],[],0⟩,⟨2,[0,1],[],[],[],0⟩,⟨3,[0,1,2],[33],[],[],0⟩,⟨4,[0,1,2],[32],[],[],0⟩,⟨5,[0,1,2,3,4],[],[],[],0⟩,⟨6,[0,1,2,3,4,5],[],[],[],0⟩,⟨7,[0,1,2,3,4,5,6],[],[],[],0⟩,⟨8,[0,1,2,3,4,5,6,7],[],[],[],0⟩] ?_|refine zqD ?_|fail)
 all_goals first
  |((refine Ends.mk2 zqI [] ?_;simp-dsimp(disch:=try exact vD) only[push_cast,simprocAttr,Tryz.f102];try exact zqF);done)
  |skip
end Go.Proofs.YtgmpdplpodemaaaGreatDoor
namespace Go.Proofs.YtgmpdplpodemaaaGreatDoor
open Go Go.Sy Go.Bp Go.Lm Go.Rt
attribute [local irreducible] AO AL AC OpT ACall Ends DGo aN Thn Blk Nxt
variable {n N M k i m j:Nat} {z z':Bool} {a b v x y e s c:Int} {A B A1 B1 G G2 P Q R1 R2 Z1 X1 Y1:IV} {p q:Rat} {X Y W:RV}
structure RIn(X:RV):Prop where
 rn:R32 X.num.l
 rd:R32 X.den.l
 zn:X.num.z=true→X.num.l=[]
 zd:X.den.z=true→X.den.l=[]
 ln:X.num.l.length<2^47
 ld:X.den.l.length<2^47
def RIs(X:RV)(q:Rat):Prop:=∃z,X=rQ z q∧(z=true→q.num=0)∧D300 q.num∧D300 q.den
theorem yf{z':Bool}(h:iV z x=iV z' y):x=y:=by
 unfold iV at h
 simp only[IV.mk.injEq] at h
 obtain⟨_,h1,h2⟩:=h
 have h3:=congrArg val h2
 rw[aW,aW] at h3
 have h4:=decide_eq_decide.1 h1
 omega
theorem RIs.inj(h:RIs X p)(h2:RIs X q):p=q:=by
 obtain⟨z,e,_⟩:=h;obtain⟨z',e2,_⟩:=h2
 rw[e] at e2
 unfold rQ at e2
 simp only[RV.mk.injEq] at e2
 have h1:=yf e2.1
 have h2:=yf e2.2
 exact Rat.ext h1 (by omega)
theorem VM(hX:RIn X):(∃q,RIs X q)↔∃z a z' b,X=⟨iV z a,iV z' b⟩∧D300 a∧D300 b∧0<b∧Int.gcd a b=1:=by
 constructor
 ·rintro⟨q,z,e,h1,h2,h3⟩
  exact⟨z,q.num,false,q.den,e,h2,h3,by have:=mU (q:=q);omega,K5⟩
 ·rintro⟨z,a,z',b,e,h1,h2,h3,h4⟩
  obtain⟨g1,g2⟩:=PK h3 h4
  have zn:=hX.zn;have zd:=hX.zd
  subst e
  have hz':z'=false:=by
   cases z' with
   |false=>rfl
   |true=>
    have:=iZ.1 (zd rfl)
    omega
  subst hz'
  refine⟨Rat.divInt a b,z,?_,fun hz=>?_,by rw[g1];exact h1,by rw[g2];exact h2⟩
  ·unfold rQ;rw[g1,g2]
  ·have:=iZ.1 (zn hz)
   rw[g1];omega
theorem Xj{X:IV}(hr:R32 X.l)(hz:X.z=true→X.l=[])(hv:vB X=true):∃v,X=iV X.z v∧IOk X.z v:=by
 obtain⟨v,e,h⟩:=ac8 hv hr
 refine⟨v,e,h,fun hzt=>?_⟩
 have hl:=hz hzt
 rw[e] at hl
 have:=iZ.1 hl
 omega
theorem K7(hX:RIn X):∃r:Bool,(r=true↔∃q,RIs X q)∧ACall Tryz.prog 102 [.agg (aa.cells X)] [] 0 (.val (.bool r)) []:=by
 have v1:=uC (X:=X.num) rfl hX.ln hX.rn
 have v2:=uC (X:=X.den) rfl hX.ld hX.rd
 rw[VM hX]
 by_cases c1:vB X.num=true
 ·rw[c1] at v1
  obtain⟨a,ea,ia⟩:=Xj hX.rn hX.zn c1
  by_cases c2:vB X.den=true
  ·rw[c2] at v2
   obtain⟨b,eb,ib⟩:=Xj hX.rd hX.zd c2
   have hs:=oh (z:=X.den.z) ib.d
   rw[←eb] at hs
   by_cases c3:sgn b≤0
   ·refine⟨false,⟨fun h=>by(cases h),?_⟩,PO v1 v2 c3 hs⟩
    rintro⟨z,a',z',b',e,_,_,h3,_⟩
    have e2:X.den=iV z' b':=by rw[e]
    rw[eb] at e2
    have:=yf e2
    exfalso
    unfold sgn at c3
    rw[if_neg (by omega),if_neg (by omega)] at c3
    omega
   ·have hg:=PE (z:=X.num.z) (z':=X.den.z) ia ib
    rw[←ea,←eb] at hg
    have hgd:=zM ia.d ib.d
    have hc:=Pk (z:=((Int.gcd a b:Nat):Int)==0) (z':=(1:Int)==0) hgd aa5
    have hb0:0<b:=by
     unfold sgn at c3
     by_cases h1:b=0
     ·rw[if_pos h1] at c3;omega
     ·by_cases h2:b<0
      ·rw[if_neg h1,if_pos h2] at c3;omega
      ·omega
    refine⟨_,?_,PP v1 v2 c3 hs hg PL hc⟩
    rw[decide_eq_true_eq]
    constructor
    ·intro h
     refine⟨X.num.z,a,X.den.z,b,?_,ia.d,ib.d,hb0,?_⟩
     ·rw[←ea,←eb]
     ·unfold eF at h
      repeat' split at h<;>try omega
    ·rintro⟨z,a',z',b',e,_,_,_,h4⟩
     have e1:X.num=iV z a':=by rw[e]
     have e2:X.den=iV z' b':=by rw[e]
     rw[ea] at e1;rw[eb] at e2
     rw[←yf e1,←yf e2] at h4
     rw[h4];rfl
  ·rw[Bool.not_eq_true _ |>.mp c2] at v2
   refine⟨false,⟨fun h=>by(cases h),?_⟩,PN v1 v2⟩
   rintro⟨z,a',z',b',e,_,h2,_⟩
   have e2:X.den=iV z' b':=by rw[e]
   exact absurd (by rw[e2];exact IJ h2) c2
 ·rw[Bool.not_eq_true _ |>.mp c1] at v1
  refine⟨false,⟨fun h=>by(cases h),?_⟩,PM v1⟩
  rintro⟨z,a',z',b',e,h1,_⟩
  have e1:X.num=iV z a':=by rw[e]
  exact absurd (by rw[e1];exact IJ h1) c1
structure ROk(z:Bool)(q:Rat):Prop where
 n:IOk z q.num
 d:D300 q.den
theorem ROk.in_(h:ROk z q):RIn (rQ z q):=⟨Bb,Bb,fun hz=>(by show lb _=[];rw[h.n.z hz];rfl),(fun hz=>nomatch hz),(by have:=h.n.d.few;show(lb _).length<_;omega),(by have:=h.d.few;show(lb _).length<_;omega)⟩
theorem ROk.is(h:ROk z q):RIs (rQ z q) q:=⟨z,rfl,h.n.z,h.n.d,h.d⟩
theorem jy(h:ROk z q):ACall Tryz.prog 102 [.agg (aa.cells (rQ z q))] [] 0 (.val (.bool true)) []:=by
 obtain⟨r,h1,h2⟩:=K7 h.in_
 rw[h1.2 ⟨q,h.is⟩] at h2;exact h2
theorem Bo(h1:ACall Tryz.prog 181 [.agg (aa.cells X.num),.agg (aa.cells Y.den)] [] 0 (.tup [.agg (aa.cells A),.val (.int .i64 0)]) [])(h2:ACall Tryz.prog 181 [.agg (aa.cells Y.num),.agg (aa.cells X.den)] [] 0 (.tup [.agg (aa.cells B),.val (.int .i64 0)]) []):
 ACall Tryz.prog 184 [.agg (aa.cells X),.agg (aa.cells Y)] [] 0 (.tup [.agg (aa.cells A),.agg (aa.cells B),.val (.int .i64 0)]) []:=by
 have h1:=PLift.up h1;have h2:=PLift.up h2
 rw[ay X,ay Y]
 refine az Tryz.func184 Tryz.ntmps184 rfl ?_
 repeat' (first|refine zqN ?_|refine aT h1.down ?_|refine aT h2.down ?_|refine bA ?_|refine bB ?_|(refine bC ?_ ?_<;>intro hc<;>try exact zqM)|refine zqR 7 [⟨0,[],[37],[],[],0⟩,⟨1,[],[36],[5],[],0⟩,⟨2,[0],[37],[],[5],0⟩,⟨3,[0,1,2],[],[],[6],0⟩,⟨4,[0,1,2,3],[],[],[],0⟩] ?_|refine zqD ?_|fail)
 all_goals first
  |((refine Ends.mk2 zqI [] ?_;simp-dsimp(disch:=try exact vD) only[push_cast,simprocAttr,Tryz.f184];try exact zqF);done)
  |skip
theorem lI(h:D300 x)(h2:D300 y)(h3:D300 (x*y)):ACall Tryz.prog 181 [.agg (aa.cells (iV z x)),.agg (aa.cells (iV z' y))] [] 0 (.tup [.agg (aa.cells (iC (x*y))),.val (.int .i64 0)]) []:=by
 have:=aaR (z:=z) (z':=z') h h2
 unfold rV at this
 rw[qc h3,qf h3] at this;exact this
theorem VN(h:D300 x)(h2:D300 y)(h3:D300 (x+y)):ACall Tryz.prog 214 [.agg (aa.cells (iV z x)),.agg (aa.cells (iV z' y))] [] 0 (.tup [.agg (aa.cells (iC (x+y))),.val (.int .i64 0)]) []:=by
 have:=aaQ (z:=z) (z':=z') h h2
 unfold rV at this
 rw[qc h3,qf h3] at this;exact this
theorem VO(h:D300 x)(h2:D300 y)(h3:D300 (x-y)):ACall Tryz.prog 179 [.agg (aa.cells (iV z x)),.agg (aa.cells (iV z' y))] [] 0 (.tup [.agg (aa.cells (iC (x-y))),.val (.int .i64 0)]) []:=by
 have:=I1 (z:=z) (z':=z') h h2
 unfold rV at this
 rw[qc h3,qf h3] at this;exact this
theorem qI(h:ROk z p)(h2:ROk z' q)(d1:D300 (p.num*q.den))(d2:D300 (q.num*p.den)):
 ACall Tryz.prog 184 [.agg (aa.cells (rQ z p)),.agg (aa.cells (rQ z' q))] [] 0 (.tup [.agg (aa.cells (iC (p.num*q.den))),.agg (aa.cells (iC (q.num*p.den))),.val (.int .i64 0)]) []:=
 Bo (lI h.n.d h2.d d1) (lI h2.n.d h.d d2)
theorem K8(v1:ACall Tryz.prog 102 [.agg (aa.cells X)] [] 0 (.val (.bool true)) [])(v2:ACall Tryz.prog 102 [.agg (aa.cells Y)] [] 0 (.val (.bool true)) [])(hx:ACall Tryz.prog 184 [.agg (aa.cells X),.agg (aa.cells Y)] [] 0 (.tup [.agg (aa.cells A),.agg (aa.cells B),.val (.int .i64 0)]) [])
 (hcq:ACall Tryz.prog 144 [.agg (aa.cells A),.agg (aa.cells B)] [] 0 (.val (.int .i64 c)) []):
 ACall Tryz.prog 141 [.agg (aa.cells X),.agg (aa.cells Y)] [] 0 (.tup [.val (.int .i64 c),.val (.int .i64 0)]) []:=by
 have v1:=PLift.up v1;have v2:=PLift.up v2;have hx:=PLift.up hx;have hcq:=PLift.up hcq
 rw[ay X,ay Y]
 refine az Tryz.func141 Tryz.ntmps141 rfl ?_
 repeat' (first|refine zqN ?_|refine aT v1.down ?_|refine aT v2.down ?_|refine aT hx.down ?_|refine aT hcq.down ?_|refine bA ?_|refine bB ?_|(refine bC ?_ ?_<;>intro hc<;>try exact zqM))
 all_goals first
  |((refine Ends.mk2 zqI [] ?_;simp-dsimp(disch:=try exact vD) only[push_cast,simprocAttr,Tryz.f141];try exact zqF);done)
  |skip
theorem VP(h:ROk z p)(h2:ROk z' q)(d1:D300 (p.num*q.den))(d2:D300 (q.num*p.den)):
 ACall Tryz.prog 141 [.agg (aa.cells (rQ z p)),.agg (aa.cells (rQ z' q))] [] 0 (.tup [.val (.int .i64 (eF (p.num*q.den) (q.num*p.den))),.val (.int .i64 0)]) []:=
 K8 (jy h) (jy h2) (qI h h2 d1 d2) (Pk d1 d2)
theorem sJ{F:FuncId} [gV Tryz.prog F](v1:ACall Tryz.prog 102 [.agg (aa.cells X)] [] 0 (.val (.bool true)) [])(v2:ACall Tryz.prog 102 [.agg (aa.cells Y)] [] 0 (.val (.bool true)) [])(hx:ACall Tryz.prog 184 [.agg (aa.cells X),.agg (aa.cells Y)] [] 0 (.tup [.agg (aa.cells A),.agg (aa.cells B),.val (.int .i64 0)]) [])
 (hf:ACall Tryz.prog F [.agg (aa.cells A),.agg (aa.cells B)] [] 0 (.tup [.agg (aa.cells P),.val (.int .i64 0)]) []) (hm:ACall Tryz.prog 181 [.agg (aa.cells X.den),.agg (aa.cells Y.den)] [] 0 (.tup [.agg (aa.cells Q),.val (.int .i64 0)]) [])
 (hr:ACall Tryz.prog 182 [.agg (aa.cells P),.agg (aa.cells Q)] [] 0 (.tup [.agg (aa.cells W),.val (.int .i64 e)]) []):
 ACall Tryz.prog 178 [.agg (aa.cells X),.agg (aa.cells Y),.fn F []] [] 0 (.tup [.agg (aa.cells W),.val (.int .i64 e)]) []:=by
 have v1:=PLift.up v1;have v2:=PLift.up v2;have hx:=PLift.up hx;have hf:=PLift.up hf;have hm:=PLift.up hm;have hr:=PLift.up hr
 rw[ay X,ay Y]
 refine az Tryz.func178 Tryz.ntmps178 rfl ?_
 repeat' (first|refine zqN ?_|((first|refine ax rfl (fun K hK=>?_)|refine ak (fun K hK=>?_));(first|refine ah (f:=102) (dst:=some 14) [] 0 false ?_|refine ah (f:=102) (dst:=some 18) [] 0 false ?_|refine ah (f:=184) [] 0 false ?_|refine jG (f:=F) (dst:=some 37) [] 0 false ?_|refine ah (f:=181) [] 0 false ?_|refine ah (f:=182) [] 0 false ?_);refine nG ?_;(first|refine⟨_,_,v1.down,?_⟩|refine⟨_,_,v2.down,?_⟩|refine⟨_,_,hx.down,?_⟩|refine⟨_,_,hf.down,?_⟩|refine⟨_,_,hm.down,?_⟩|refine⟨_,_,hr.down,?_⟩);refine j5 ?_;apply hK;clear hK K)|refine bA ?_|refine bB ?_|(refine bC ?_ ?_<;>intro hc<;>try exact zqM))
 all_goals first
  |((refine Ends.mk2 zqI [] ?_;simp-dsimp(disch:=try exact vD) only[push_cast,simprocAttr,Tryz.f178];try exact zqF);done)
  |skip
theorem K9(h:ACall Tryz.prog 178 [.agg (aa.cells X),.agg (aa.cells Y),.fn 214 []] [] 0 (.tup [.agg (aa.cells W),.val (.int .i64 e)]) []):ACall Tryz.prog 196 [.agg (aa.cells X),.agg (aa.cells Y)] [] 0 (.tup [.agg (aa.cells W),.val (.int .i64 e)]) []:=by
 have h:=PLift.up h
 rw[ay X,ay Y]
 refine az Tryz.func196 Tryz.ntmps196 rfl ?_
 repeat' (first|refine zqN ?_|refine aT h.down ?_|refine bA ?_|refine bB ?_|(refine bC ?_ ?_<;>intro hc<;>try exact zqM))
 all_goals first
  |((refine Ends.mk2 zqI [] ?_;simp-dsimp(disch:=try exact vD) only[push_cast,simprocAttr,Tryz.f196];try exact zqF);done)
  |skip
theorem La(h:ACall Tryz.prog 178 [.agg (aa.cells X),.agg (aa.cells Y),.fn 179 []] [] 0 (.tup [.agg (aa.cells W),.val (.int .i64 e)]) []):ACall Tryz.prog 137 [.agg (aa.cells X),.agg (aa.cells Y)] [] 0 (.tup [.agg (aa.cells W),.val (.int .i64 e)]) []:=by
 have h:=PLift.up h
 rw[ay X,ay Y]
 refine az Tryz.func137 Tryz.ntmps137 rfl ?_
 repeat' (first|refine zqN ?_|refine aT h.down ?_|refine bA ?_|refine bB ?_|(refine bC ?_ ?_<;>intro hc<;>try exact zqM))
 all_goals first
  |((refine Ends.mk2 zqI [] ?_;simp-dsimp(disch:=try exact vD) only[push_cast,simprocAttr,Tryz.f137];try exact zqF);done)
  |skip
structure Two(p q:Rat):Prop where
 x:D300 (p.num*q.den)
 y:D300 (q.num*p.den)
 d:D300 (p.den*q.den)
theorem Two.add(h:ROk z p)(h2:ROk z' q)(t:Two p q)(d:D300 (p.num*q.den+q.num*p.den)):ACall Tryz.prog 196 [.agg (aa.cells (rQ z p)),.agg (aa.cells (rQ z' q))] [] 0 (.tup [.agg (aa.cells (rC (p+q))),.val (.int .i64 0)]) []:=by
 rw[aa1]
 exact K9 (sJ (jy h) (jy h2) (qI h h2 t.x t.y) (VN t.x t.y d) (lI h.d h2.d t.d) (kQ (IOk.of d) (IOk.of t.d) (by
  have a:=mU (q:=p);have b:=mU (q:=q)
  have:=Int.mul_pos (show(0:Int)<p.den by omega) (show(0:Int)<q.den by omega);omega)))
theorem Two.sub(h:ROk z p)(h2:ROk z' q)(t:Two p q)(d:D300 (p.num*q.den-q.num*p.den)):ACall Tryz.prog 137 [.agg (aa.cells (rQ z p)),.agg (aa.cells (rQ z' q))] [] 0 (.tup [.agg (aa.cells (rC (p-q))),.val (.int .i64 0)]) []:=by
 rw[aa2]
 exact La (sJ (jy h) (jy h2) (qI h h2 t.x t.y) (VO t.x t.y d) (lI h.d h2.d t.d) (kQ (IOk.of d) (IOk.of t.d) (by
  have a:=mU (q:=p);have b:=mU (q:=q)
  have:=Int.mul_pos (show(0:Int)<p.den by omega) (show(0:Int)<q.den by omega);omega)))
theorem qg(h1:ACall Tryz.prog 181 [.agg (aa.cells A),.agg (aa.cells B)] [] 0 (.tup [.agg (aa.cells P),.val (.int .i64 0)]) [])(h2:ACall Tryz.prog 181 [.agg (aa.cells A1),.agg (aa.cells B1)] [] 0 (.tup [.agg (aa.cells Q),.val (.int .i64 0)]) [])
 (hr:ACall Tryz.prog 182 [.agg (aa.cells P),.agg (aa.cells Q)] [] 0 (.tup [.agg (aa.cells W),.val (.int .i64 e)]) []):
 ACall Tryz.prog 139 [.agg (aa.cells A),.agg (aa.cells B),.agg (aa.cells A1),.agg (aa.cells B1)] [] 0 (.tup [.agg (aa.cells W),.val (.int .i64 e)]) []:=by
 have h1:=PLift.up h1;have h2:=PLift.up h2;have hr:=PLift.up hr
 rw[bE A,bE B,bE A1,bE B1]
 refine az Tryz.func139 Tryz.ntmps139 rfl ?_
 repeat' (first|refine zqN ?_|refine aT h1.down ?_|refine aT h2.down ?_|refine aT hr.down ?_|refine bA ?_|refine bB ?_|(refine bC ?_ ?_<;>intro hc<;>try exact zqM))
 all_goals first
  |((refine Ends.mk2 zqI [] ?_;simp-dsimp(disch:=try exact vD) only[push_cast,simprocAttr,Tryz.f139];try exact zqF);done)
  |skip
theorem Lb(v1:ACall Tryz.prog 102 [.agg (aa.cells X)] [] 0 (.val (.bool true)) [])(v2:ACall Tryz.prog 102 [.agg (aa.cells Y)] [] 0 (.val (.bool true)) [])
 (hq:ACall Tryz.prog 139 [.agg (aa.cells X.num),.agg (aa.cells Y.num),.agg (aa.cells X.den),.agg (aa.cells Y.den)] [] 0 (.tup [.agg (aa.cells W),.val (.int .i64 e)]) []):
 ACall Tryz.prog 99 [.agg (aa.cells X),.agg (aa.cells Y)] [] 0 (.tup [.agg (aa.cells W),.val (.int .i64 e)]) []:=by
 have v1:=PLift.up v1;have v2:=PLift.up v2;have hq:=PLift.up hq
 rw[ay X,ay Y]
 refine az Tryz.func99 Tryz.ntmps99 rfl ?_
 repeat' (first|refine zqN ?_|refine aT v1.down ?_|refine aT v2.down ?_|refine aT hq.down ?_|refine bA ?_|refine bB ?_|(refine bC ?_ ?_<;>intro hc<;>try exact zqM))
 all_goals first
  |((refine Ends.mk2 zqI [] ?_;simp-dsimp(disch:=try exact vD) only[push_cast,simprocAttr,Tryz.f99];try exact zqF);done)
  |skip
theorem Two.mul(h:ROk z p)(h2:ROk z' q)(t:D300 (p.den*q.den))(d:D300 (p.num*q.num)):ACall Tryz.prog 99 [.agg (aa.cells (rQ z p)),.agg (aa.cells (rQ z' q))] [] 0 (.tup [.agg (aa.cells (rC (p*q))),.val (.int .i64 0)]) []:=by
 rw[aa3]
 exact Lb (jy h) (jy h2) (qg (lI h.n.d h2.n.d d) (lI h.d h2.d t) (kQ (IOk.of d) (IOk.of t) (by
  have a:=mU (q:=p);have b:=mU (q:=q)
  have:=Int.mul_pos (show(0:Int)<p.den by omega) (show(0:Int)<q.den by omega);omega)))
theorem lW{a b:Nat}(h:a<10^140)(h2:b<10^140):a*b<10^280:=Dy (s:=140) (t:=140) (u:=280) h h2 rfl
theorem yS{v:Int}(h:v.natAbs<10^280+10^280):D300 v:=by
 have:(10:Nat)^280+10^280<10^300:=by decide+kernel
 unfold D300;omega
theorem yg(h:Sm p)(h2:Sm q):Two p q:=by
 refine⟨yS ?_,yS ?_,yS ?_⟩
 ·rw[Int.natAbs_mul,Int.natAbs_natCast];have:=lW h.1 h2.2;omega
 ·rw[Int.natAbs_mul,Int.natAbs_natCast];have:=lW h2.1 h.2;omega
 ·rw[←Int.natCast_mul,Int.natAbs_natCast];have:=lW h.2 h2.2;omega
theorem Bq(h:Sm p):D300 p.num∧D300 p.den:=by
 have h1:=h.1;have h2:=h.2
 have e:(10:Nat)^140<10^280:=by decide+kernel
 exact⟨yS (by omega),yS (by rw[Int.natAbs_natCast];omega)⟩
theorem adf(h:Sm p):ROk (p.num==0) p:=⟨IOk.of (Bq h).1,(Bq h).2⟩
structure SmZ(z:Bool)(q:Rat):Prop where
 s:Sm q
 z:z=true→q.num=0
theorem SmZ.ok(h:SmZ z p):ROk z p:=⟨⟨(Bq h.s).1,h.z⟩,(Bq h.s).2⟩
theorem lX(h:Sm p):SmZ (p.num==0) p:=⟨h,fun h=>by simpa using h⟩
theorem addS(h:SmZ z p)(h2:SmZ z' q):ACall Tryz.prog 196 [.agg (aa.cells (rQ z p)),.agg (aa.cells (rQ z' q))] [] 0 (.tup [.agg (aa.cells (rC (p+q))),.val (.int .i64 0)]) []:=
 Two.add h.ok h2.ok (yg h.s h2.s) (yS (by
  have a:=lW h.s.1 h2.s.2;have b:=lW h2.s.1 h.s.2
  have e1:(p.num*q.den).natAbs<10^280:=by rw[Int.natAbs_mul,Int.natAbs_natCast];exact a
  have e2:(q.num*p.den).natAbs<10^280:=by rw[Int.natAbs_mul,Int.natAbs_natCast];exact b
  generalize(10:Nat)^280=T at*
  omega))
theorem subS(h:SmZ z p)(h2:SmZ z' q):ACall Tryz.prog 137 [.agg (aa.cells (rQ z p)),.agg (aa.cells (rQ z' q))] [] 0 (.tup [.agg (aa.cells (rC (p-q))),.val (.int .i64 0)]) []:=
 Two.sub h.ok h2.ok (yg h.s h2.s) (yS (by
  have a:=lW h.s.1 h2.s.2;have b:=lW h2.s.1 h.s.2
  have e1:(p.num*q.den).natAbs<10^280:=by rw[Int.natAbs_mul,Int.natAbs_natCast];exact a
  have e2:(q.num*p.den).natAbs<10^280:=by rw[Int.natAbs_mul,Int.natAbs_natCast];exact b
  generalize(10:Nat)^280=T at*
  omega))
theorem mulS(h:SmZ z p)(h2:SmZ z' q):ACall Tryz.prog 99 [.agg (aa.cells (rQ z p)),.agg (aa.cells (rQ z' q))] [] 0 (.tup [.agg (aa.cells (rC (p*q))),.val (.int .i64 0)]) []:=
 Two.mul h.ok h2.ok (yg h.s h2.s).d (yS (by
  have a:=lW h.s.1 h2.s.1
  rw[Int.natAbs_mul]
  generalize(10:Nat)^280=T at*
  omega))
