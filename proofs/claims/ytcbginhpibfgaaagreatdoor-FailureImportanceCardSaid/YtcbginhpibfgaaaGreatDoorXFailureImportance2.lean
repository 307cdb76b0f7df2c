/- LawEB. No condition. -/
import Derived.Test.YtcbginhpibfgaaaGreatDoorXFailureImportance1
import Derived.Test.YtcbginhpibfgaaaGreatDoorFcG1
import Derived.Test.YtcbginhpibfgaaaGreatDoorLawD1
set_option linter.all false
set_option maxHeartbeats 4000000
set_option maxRecDepth 20000
namespace Go.Proofs.YtcbginhpibfgaaaGreatDoor
open Go Go.Sy Go.Lm Go.Rt Go.Dg
attribute [local irreducible] AO AL AC OpT ACall Ends DGo bK Thn Blk Nxt
variable {n N M L k i m r sv:Nat} {z zl zm:Bool} {up:Bool} {B:List Nat} {l:List Chc} {F:List Fo} {X Y Z W P S:RV} {ps:List RV} {C:List AV}
theorem ZE(hM:ACall Tryz.prog 13 [.agg (drC N z B L up)] [] 0 (.agg [.val (.int .i64 0),.isl zm C M,.val (.int .i64 r)]) []):ACall Tryz.prog 5 [.agg (drC N z B L up),.isl zl (cR l) k,.val (.int .u8 sv)] [] 0 (.val (.bool true)) []:=by
 have hM:=PLift.up hM;have haw:=PLift.up bQ
 unfold drC at*
 refine ak Tryz.func5 Tryz.ntmps5 rfl ?_
 repeat' (first|refine zqN ?_|refine az haw.down ?_|refine az hM.down ?_|refine aK ?_|refine aL ?_|(refine aM ?_ ?_<;>intro hc<;>try exact zqM)|refine zqR 11 [⟨0,[],[17,67,70],[],[],0⟩,⟨1,[],[17,66,70],[],[],0⟩,⟨2,[0,1],[17,70],[],[],0⟩,⟨3,[0,1,2],[17,70],[],[],0⟩,⟨4,[],[17,66,67,68,69],[],[],0⟩,⟨5,[0,1,2,3,4],[17],[],[],0⟩,⟨6,[0,1,2,3,4,5],[17],[],[],0⟩,⟨7,[0,1,2,3,4,5,6],[17,73],[],[],0⟩,⟨8,[0,1,2,3,4,5,6],[17,72],[2],[],0⟩,⟨9,[],[65,66,67,68,69,70,71,72,73],[],[],1⟩,⟨10,[0,1,2,3,4,5,6,7,9],[73],[],[2],0⟩,⟨11,[0,1,2,3,4,5,6,7,8,9,10],[],[],[],0⟩] ?_|refine zqD ?_|fail)
 all_goals first
  |((refine Ends.mk2 zqI [] ?_;simp-dsimp(disch:=try exact vD) only[push_cast,simprocAttr,Tryz.f5];try exact zqF);done)
  |skip
theorem ZF(hn:0<n)(hn6:n≤6)(hs:sv<256)(hi:sv%n=i)(hps:ps.length=n)(hP:ps.getD i default=P)
 (hM:ACall Tryz.prog 13 [.agg (drC N z B L up)] [] 0 (.agg [.val (.int .i64 n),.isl zm C M,.val (.int .i64 r)]) []) (hls:ACall Tryz.prog 14 [.isl zl (cR l) k,.val (.int .i64 n)] [] 0 (.isl false (cR ps) n) [])
 (o1:ACall Tryz.prog 15 [.agg [.val (.int .i64 n),.isl zm C M,.val (.int .i64 r)],.isl false (cR ps) n] [] 0 (.tup [.agg (aa.cells X),.val (.int .i64 0)]) [])
 (hi1:ACall Tryz.prog 21 [.agg [.val (.int .i64 n),.isl zm C M,.val (.int .i64 r)],.isl false (cR ps) n,.val (.int .i64 i)] [] 0 (.tup [.agg (aa.cells Y),.val (.int .i64 0)]) [])
 (hr:ACall Tryz.prog 23 [.val (.int .i64 0),.val (.int .i64 1)] [] 0 (.agg (aa.cells Z)) [])
 (o2:ACall Tryz.prog 15 [.agg [.val (.int .i64 n),.isl zm C M,.val (.int .i64 r)],.isl false (cR (ps.set i Z)) n] [] 0 (.tup [.agg (aa.cells W),.val (.int .i64 0)]) [])
 (hm:ACall Tryz.prog 24 [.agg (aa.cells P),.agg (aa.cells Y)] [] 0 (.tup [.agg (aa.cells S),.val (.int .i64 0)]) [])
 (ha:ACall Tryz.prog 25 [.agg (aa.cells W),.agg (aa.cells S)] [] 0 (.tup [.agg (aa.cells X),.val (.int .i64 0)]) [])
 (he:ACall Tryz.prog 17 [.agg (aa.cells X),.agg (aa.cells X)] [] 0 (.val (.bool true)) []):
 ACall Tryz.prog 5 [.agg (drC N z B L up),.isl zl (cR l) k,.val (.int .u8 sv)] [] 0 (.val (.bool true)) []:=by
 subst hP
 have hil:i<n:=by rw[←hi];exact Nat.mod_lt _ hn
 have zx1:(sv:Int)%(n:Int)=(i:Int):=by rw[←hi];exact(Int.natCast_emod sv n).symm
 have zx2:Int.tmod (sv:Int) (n:Int)=(i:Int):=by rw[Int.tmod_eq_emod_of_nonneg (by omega)];exact zx1
 have zx3:=QZ (X:=Z) (ps:=ps) (sv:=i) (by omega)
 have hln:(ps.set i Z).length=n:=by rw[List.length_set];exact hps
 have zx4:(cR (ps.set i Z)).take (n*4)=cR (ps.set i Z):=List.take_of_length_le (by rw[lM,hln];exact Nat.le_refl _)
 have hcl:=PLift.up (Fg hps (by omega))
 have hM:=PLift.up hM;have hls:=PLift.up hls;have o1:=PLift.up o1;have o2:=PLift.up o2;have hi1:=PLift.up hi1;have hr:=PLift.up hr;have hm:=PLift.up hm;have ha:=PLift.up ha;have he:=PLift.up he;have haw:=PLift.up bQ
 clear hi
 unfold drC at*
 refine ak Tryz.func5 Tryz.ntmps5 rfl ?_
 have zx5:=aC;have zx6:=aC;repeat' (first|((first|refine bI (r:=10) 4 ?_|refine bH (r:=10) 4 ?_);refine Ll ?_;intro K hK;refine hK _ _ ?_;clear hK K)|refine zqN ?_|refine gG haw.down ?_|refine gG hM.down ?_|refine gG hls.down ?_|refine gG o1.down ?_|refine gG hi1.down ?_|refine gG hcl.down ?_|refine gG hr.down ?_|refine gG o2.down ?_|refine gG hm.down ?_|refine gG ha.down ?_|refine gG he.down ?_|refine kE ?_|refine kF ?_|(refine kG ?_ ?_<;>intro hc<;>try exact zqM)|refine zqR 11 [⟨0,[],[17,67,70],[],[],0⟩,⟨1,[],[17,66,70],[],[],0⟩,⟨2,[0,1],[17,70],[],[],0⟩,⟨3,[0,1,2],[17,70],[],[],0⟩,⟨4,[],[17,66,67,68,69],[],[],0⟩,⟨5,[0,1,2,3,4],[17],[],[],0⟩,⟨6,[0,1,2,3,4,5],[17],[],[],0⟩,⟨7,[0,1,2,3,4,5,6],[17,73],[],[],0⟩,⟨8,[0,1,2,3,4,5,6],[17,72],[9],[],0⟩,⟨9,[],[65,66,67,68,69,70,71,72,73],[],[],1⟩,⟨10,[0,1,2,3,4,5,6,7,9],[73],[],[9],0⟩,⟨11,[0,1,2,3,4,5,6,7,8,9,10],[],[],[],0⟩] ?_|refine zqD ?_|fail)
 all_goals first
  |((refine Ends.mk2 zqI [] ?_;simp-dsimp(disch:=try exact vD) only[push_cast,simprocAttr,Tryz.f5];try exact zqF);done)
  |skip
theorem ZG:Gd ((lsL l n).set i (rC (Rat.divInt 0 1))) (upd (chP l) i 0) (fun j=>(upd (chP l) i 0 j).den) n:=Gd.rc (by rw[List.length_set,iZ]) (fun j hj=>by
 by_cases hi:i<n
 ·rw[YW (by rw[iZ];exact hi)]
  unfold upd
  by_cases e:j=i
  ·rw[if_pos e,if_pos e];rfl
  ·rw[if_neg e,if_neg e];exact Fs hj
 ·rw[List.set_eq_of_length_le (by rw[iZ];omega)]
  unfold upd
  rw[if_neg (show¬j=i by omega)];exact Fs hj) fun j _=>by
 unfold upd
 by_cases e:j=i
 ·rw[if_pos e];decide+kernel
 ·rw[if_neg e];exact mV
theorem aeq{p:Nat→Rat} {d:Nat→Nat} {c:Rat}(hD:DOk n F r)(g:Gd ps p d n)(hc:0≤c∧c≤1∧c.den≤1000000):Sm (c*((Pr (upd p sv 1) n fun t=> !aG F t r)-Pr (upd p sv 0) n fun t=> !aG F t r)):=by
 have h12:=hD.n12
 obtain⟨_,hb,hp0⟩:=uM hc.1 hc.2.1 hc.2.2
 have b:=hb.mul ((Bo hD (jO (sv:=sv) g.cs Bd.one)).sub (Bo hD (jO (sv:=sv) g.cs Pm)))
 have hp:=uK (d:=d) (i:=0) (k:=n) fun j _ hj=>⟨(g.cs j (by omega)).2.1,(g.cs j (by omega)).2.2⟩
 have e3:3^n≤3^12:=Nat.pow_le_pow_right (by omega) h12
 have e2:1000000^n≤1000000^12:=Nat.pow_le_pow_right (by omega) h12
 have e6:c.den*pp d 0 n≤1000000*1000000^12:=Nat.mul_le_mul hc.2.2 (Nat.le_trans hp.2 e2)
 have e7:=Nat.mul_le_mul (show 1*(3^n+3^n)≤3^12+3^12 by omega) e6
 have e4:(3^12+3^12)*(1000000*1000000^12)<10^140:=by decide
 have e5:1000000*1000000^12<10^140:=by decide
 exact b.sm (Nat.mul_pos hp0 hp.1) (by omega) (by omega)
theorem ajA(h:MQ N B L)(hc:MO l k)(hs:sv<256):ACall Tryz.prog 5 [.agg (drC N z B L up),.isl zl (cR l) k,.val (.int .u8 sv)] [] 0 (.val (.bool true)) []:=by
 obtain⟨n,F,r,M,hn6,hD,hN,hM⟩:=xh (z:=z) (up:=up) h
 unfold dI at hM
 rcases Nat.eq_zero_or_pos n with h0|h0
 ·subst h0;exact ZE hM
 have hzn:(n==0)=false:=Ke h0
 have g:=yR (l:=l) (n:=n)
 have hls:=uq (zl:=zl) (n:=n) hc (by omega)
 rw[hzn] at hls
 have hil:sv%n<n:=Nat.mod_lt _ h0
 have o1:=uO (z:=(M==0)) (zp:=false) hD hN g
 have i1:=Pn (z:=(M==0)) (s:=sv%n) hD hN g hil
 have g0:=ZG (l:=l) (n:=n) (i:=sv%n)
 have o2:=uO (z:=(M==0)) (zp:=false) hD hN g0
 have h12:=hD.n12
 have smd:=Rb (sv:=sv%n) hD g
 have smp:Sm (chP l (sv%n)):=(uM mV.1 mV.2.1 mV.2.2).1
 have hm:=aeY (cu smp) (cu smd)
 have smw:=jo (tab:=fun t=> !aG F t r) g0.cs h12
 have hX:=TK (p:=chP l) (i:=sv%n) (n:=n) (tab:=fun t=> !aG F t r)
 have smx:=jo (tab:=fun t=> !aG F t r) g.cs h12
 have sms:Sm (chP l (sv%n)*((Pr (upd (chP l) (sv%n) 1) n fun t=> !aG F t r)-Pr (upd (chP l) (sv%n) 0) n fun t=> !aG F t r)):=aeq hD g mV
 have ha:=Yj (cu smw) (cu sms)
 rw[←eF,←eF] at hm ha
 rw[←hX] at ha
 have he:=eq_self _ smx
 unfold dI at o1 i1 o2
 exact ZF h0 hn6 hs rfl iZ (Fs hil) hM hls o1 i1 (l5 (by decide) (by decide) (by decide)) o2 hm ha he
