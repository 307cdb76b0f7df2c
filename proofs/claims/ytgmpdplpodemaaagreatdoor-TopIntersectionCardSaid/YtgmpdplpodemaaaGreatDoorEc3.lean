/- Ec3. No condition. -/
import Derived.Test.YtgmpdplpodemaaaGreatDoorFeG1
set_option linter.all false
set_option maxHeartbeats 2000000
set_option maxRecDepth 20000
namespace Go.Proofs.YtgmpdplpodemaaaGreatDoor
open Go Go.Sy Go.Bp
attribute [local irreducible] AO AL AC OpT ACall Ends DGo aN Thn Blk Nxt
variable {z:Bool} {n i j m q s d L:Nat} {qs:List Nat}
instance:sZ Nat:=⟨fun x=> .val (.int .u16 (U x)),fun _=>rfl,fun _=>rfl⟩
theorem bg(x:Nat):sZ.c x=AV.val (.int .u16 (U x)):=rfl
theorem bV(x:Nat):cX [x]=[AV.val (.int .u16 (U x))]:=rfl
theorem bD(x:Nat):cX qs++[AV.val (.int .u16 (U x))]=cX (qs++[x]):=by simp[cX,bg]
def ixI(z:Bool)(F:Nat)(c1:List AV)(p:Nat→Bool)(k:List Nat)(n:Nat)(j:{j:Nat // j≤n∧∀i,i<j→p (k.getD i default)=false}):St:=
 ⟨19,0,[(0,.isl z (cX k) n),(1,.fn F [.ipt c1 0]),(7,.val (.int .i64 n)),(8,.val (.int .i64 j.val))],[]⟩
theorem UM{F:FuncId} [gV Tryz.prog F]{c1:List AV} {k:List Nat}(p:Nat→Bool)(hl:k.length=n)(hn:n<2^47)(hf:∀x,ACall Tryz.prog F [.val (.int .u16 (U x)),.ipt c1 0] [] 0 (.val (.bool (p x))) []):
 ACall Tryz.prog 80 [.isl z (cX k) n,.fn F [.ipt c1 0]] [] 0 (.val (.int .i64 (ix p k))) []:=by
 refine az Tryz.func80 Tryz.ntmps80 rfl ?_
 have zx1:= @bg;have zx2:=aD;have zx3:=aD;repeat' (first|(refine ai ?_;refine au [] ([].length) (ixI z F c1 p k n) (fun j=>n-j.val) (⟨0,by omega,fun i hi=>absurd hi (by omega)⟩) rfl (by unfold ixI;exact eH) ?_;(rintro⟨j,hj,hnb⟩;(simp-dsimp only[ixI];refine zqS ?_)))|(refine aj ?_;refine Nxt.mk [] (⟨j+1,by omega,nV hnb (by assumption)⟩) rfl (by unfold ixI;exact eH) zqO)|refine zqN ?_|((first|refine ax rfl (fun K hK=>?_)|refine ak (fun K hK=>?_));(first|refine jG (f:=F) [] 0 false ?_);refine Am ?_;(first|refine⟨_,_,hf (k.getD j default),?_⟩);refine rG ?_;apply hK;clear hK K)|refine dx ?_|refine dz ?_|(refine dA ?_ ?_<;>intro hc<;>try exact zqM))
 all_goals first
  |(have e:ix p k=j:=um (by omega) hnb (by assumption);(refine Ends.mk2 zqI [] ?_;simp-dsimp(disch:=try exact vD) only[push_cast,simprocAttr,Tryz.f80,e];try exact zqF);done)
  |(have ej:j=n:=(by omega);subst ej;subst hl;have e:ix p k= -1:=oV hnb;(refine Ends.mk2 zqI [] ?_;simp-dsimp(disch:=try exact vD) only[push_cast,simprocAttr,Tryz.f80,e];try exact zqF);done)
  |skip
theorem C8{F:FuncId} [gV Tryz.prog F]{c1:List AV} {k:List Nat}(p:Nat→Bool)(hl:k.length=n)(hn:n<2^47)(hf:∀x,ACall Tryz.prog F [.val (.int .u16 (U x)),.ipt c1 0] [] 0 (.val (.bool (p x))) []):
 ACall Tryz.prog 40 [.isl z (cX k) n,.fn F [.ipt c1 0]] [] 0 (.val (.bool (k.any p))) []:=by
 refine az Tryz.func40 Tryz.ntmps40 rfl ?_
 have zx1:= @lV;have zx2:=aD;have zx3:=aD;repeat' (first|refine zqN ?_|refine eG (UM p hl hn hf) ?_|refine dx ?_|refine dz ?_|(refine dA ?_ ?_<;>intro hc<;>try exact zqM))
 all_goals(refine Ends.mk2 zqI [] ?_;simp-dsimp(disch:=try exact vD) only[push_cast,simprocAttr,Tryz.f40,lV];try exact zqF)
