/- Fa1 Fa2 Fa5. No condition. -/
import Derived.Test.YtgmpdplpodemaaaGreatDoorDiG4
import Derived.Test.YtgmpdplpodemaaaGreatDoorLrG2
set_option linter.all false
set_option maxHeartbeats 4000000
set_option maxRecDepth 20000
namespace Go.Proofs.YtgmpdplpodemaaaGreatDoor
section
open Go Go.Sy Go.Bp Go.Lm Go.Rt
attribute [local irreducible] AO AL AC OpT ACall Ends DGo aN Thn Blk Nxt
variable {n N M k i m j:Nat} {z z' neg:Bool} {l:List Int} {a b v x y e s c:Int} {A B C P Q:IV} {p q:Rat} {X Y W:RV}
theorem PV(v:Int):Rat.divInt v 1=(v:Rat):=by
 rw[Rat.divInt_eq_div,show((1:Int):Rat)=1 from rfl];grind
theorem cmp_lt:decide (eF x y<0)=decide (x<y):=by
 refine decide_eq_decide.2 ?_
 unfold eF
 by_cases h:x<y
 ·rw[if_pos h];omega
 ·rw[if_neg h];split<;>omega
open Classical in
theorem RIs.ok(h:RIs X q):∃z,X=rQ z q∧ROk z q:=by
 obtain⟨z,e,h1,h2,h3⟩:=h
 exact⟨z,e,⟨h2,h1⟩,h3⟩
end
section
open Go Go.Sy Go.Bp Go.Lm Go.Rt
attribute [local irreducible] AO AL AC OpT ACall Ends DGo aN Thn Blk Nxt
variable {n N M k i m j r T:Nat} {z z' neg:Bool} {xs ys:List RV} {X:RV} {e:Int}
theorem PW(hn:xs.length=n)(hb:n≤100000):ACall Tryz.prog 132 [.isl false (cR xs) n] [] 0 (.sl 0 0 n 4) [.cells (cR xs) 60]:=by
 refine az Tryz.func132 Tryz.ntmps132 rfl ?_
 repeat' (first|refine zqN ?_|refine bA ?_|refine l5 ?_|refine nk ?_|refine nA ?_|refine bB ?_|(refine bC ?_ ?_<;>intro hc<;>try exact zqM))
 all_goals(refine Ends.mk2 zqI [1] ?_;simp-dsimp(disch:=try exact vD) only[push_cast,simprocAttr,Tryz.f132];try exact zqF)
theorem Lh(hn:xs.length=n)(hb:n≤100000):ACall Tryz.prog 132 [.isl false (cR xs) n] [] 0 (.isl false (cR xs) n) []:=by
 refine az Tryz.func132 Tryz.ntmps132 rfl ?_
 repeat' (first|refine zqN ?_|refine bA ?_|refine l5 ?_|refine nk ?_|refine nA ?_|refine bB ?_|(refine bC ?_ ?_<;>intro hc<;>try exact zqM))
 all_goals((refine Ends.frz 1 ?_;simp-dsimp(disch:=try exact vD) only[push_cast,simprocAttr,Tryz.f132];(repeat refine aI ?_);intro K hK;refine hK _ _ ?_;clear hK K);refine Ends.mk2 zqI [] ?_;simp-dsimp(disch:=try exact vD) only[push_cast,simprocAttr,Tryz.f132];try exact zqF)
structure RL where
 z:Bool
 l:List RV
instance:Inhabited RL:=⟨⟨true,[]⟩⟩
instance:sZ RL:=⟨fun a=> .isl a.z (cR a.l) a.l.length,fun _=>rfl,fun _=>rfl⟩
theorem fE(a:RL):sZ.c a= .isl a.z (cR a.l) a.l.length:=rfl
variable {ss:List RL}
end
section
open Go Go.Sy Go.Lm Go.Rt Go.Dg
attribute [local irreducible] AO AL AC OpT ACall Ends DGo aN Thn Blk Nxt
variable {n N np k i m j r q lo hi sv:Nat} {z zp:Bool} {ps:List RV} {F:List Fo} {L:List Fk} {p:Nat→Rat} {W H M1 M2 M3 X V:RV} {rt e e2 v:Int} {d:Nat→Nat} {x:Rat}
theorem set4(h:sv<ps.length):spl (cR ps) (sv*4) (aa.cells X)=cR (ps.set sv X):=by
 rw[Np,Nq h]
theorem kR(h:sv<ps.length):spl (cR ps) (sv*4) [.val (.bool X.num.neg),.isl X.num.z (cI .u32 X.num.l) X.num.l.length,.val (.bool X.den.neg),.isl X.den.z (cI .u32 X.den.l) X.den.l.length]=cR (ps.set sv X):=set4 h
end
