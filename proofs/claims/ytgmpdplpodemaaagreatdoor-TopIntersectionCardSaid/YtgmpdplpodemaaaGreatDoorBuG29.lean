/- Bu29 Bu8. No condition. -/
import Derived.Test.YtgmpdplpodemaaaGreatDoorEc1
set_option linter.all false
set_option maxHeartbeats 2000000
set_option maxRecDepth 20000
namespace Go.Proofs.YtgmpdplpodemaaaGreatDoor
open Go Go.Sy Go.Bp
attribute [local irreducible] AO AL AC OpT ACall Ends DGo aN Thn Blk Nxt
variable {z zl:Bool} {n i j m q s:Nat} {a b:Int} {x:Ex} {t:Nd}
theorem agB(hw:t.w.length=0):ACall Tryz.prog 114 [.agg (aa.cells t),.val (.int .i64 q)] [] 0 (.val (.int .i64 (wt t q))) []:=by
 have e:wt t q=1:=by unfold wt;rw[if_pos hw]
 rw[e]
 refine az Tryz.func114 Tryz.ntmps114 rfl ?_
 have zx1:= @hw;have zx2:=aD;have zx3:=aD;repeat' (first|refine zqN ?_|refine dx ?_|refine dz ?_|(refine dA ?_ ?_<;>intro hc<;>try exact zqM))
 all_goals(refine Ends.mk2 zqI [] ?_;simp-dsimp(disch:=try exact vD) only[push_cast,simprocAttr,Tryz.f114];try exact zqF)
theorem agC(hw:q<t.w.length)(hb:t.w.length<2^40):ACall Tryz.prog 114 [.agg (aa.cells t),.val (.int .i64 q)] [] 0 (.val (.int .i64 (wt t q))) []:=by
 have e:wt t q=t.w.getD q default:=by unfold wt;rw[if_neg (by omega)];rfl
 rw[e]
 refine az Tryz.func114 Tryz.ntmps114 rfl ?_
 repeat' (first|refine zqN ?_|refine bA ?_|refine bB ?_|(refine bC ?_ ?_<;>intro hc<;>try exact zqM))
 all_goals(refine Ends.mk2 zqI [] ?_;simp-dsimp(disch:=try exact vD) only[push_cast,simprocAttr,Tryz.f114];try exact zqF)
theorem af7(hn:NOk t i)(hq:q<t.k.length)(hk:t.k.length≤1000):ACall Tryz.prog 114 [.agg (aa.cells t),.val (.int .i64 q)] [] 0 (.val (.int .i64 (wt t q))) []:=by
 by_cases h:t.w.length=0
 ·exact agB h
 ·have:=hn.wl (fun e=>h (by rw[e];rfl))
  exact agC (by omega) (by omega)
end Go.Proofs.YtgmpdplpodemaaaGreatDoor
set_option maxHeartbeats 1000000
namespace Go.Proofs.YtgmpdplpodemaaaGreatDoor
open Go Go.Sy Go.Bp
attribute [local irreducible] AO AL AC OpT ACall Ends DGo aN Thn Blk Nxt
variable {l k w:List Int} {z zk wz:Bool} {n K i j m b c:Nat} {a x:Int} {t:Nd}
def igI(z:Bool)(F:Nat)(c:Int)(p:Int→Bool)(l:List Int)(n:Nat)(j:{j:Nat // j≤n∧∀i,i<j→p (l.getD i default)=false}):St:=
 ⟨19,0,[(0,.isl z (cI .i64 l) n),(1,.fn F [.ipt [.val (.int .i64 c)] 0]),(7,.val (.int .i64 n)),(8,.val (.int .i64 j.val))],[]⟩
theorem ahq{F:FuncId} [gV Tryz.prog F]{c:Int}(p:Int→Bool)(hl:l.length=n)(hn:n<2^47)(hf:∀t:Int,ACall Tryz.prog F [.val (.int .i64 t),.ipt [.val (.int .i64 c)] 0] [] 0 (.val (.bool (p t))) []):
 ACall Tryz.prog 164 [.isl z (cI .i64 l) n,.fn F [.ipt [.val (.int .i64 c)] 0]] [] 0 (.val (.int .i64 (ix p l))) []:=by
 refine az Tryz.func164 Tryz.ntmps164 rfl ?_
 repeat' (first|(refine ai ?_;refine au [] ([].length) (igI z F c p l n) (fun j=>n-j.val) (⟨0,by omega,fun i hi=>absurd hi (by omega)⟩) rfl (by unfold igI;exact nU) ?_;(rintro⟨j,hj,hnb⟩;(simp-dsimp only[igI];refine zqS ?_)))|(refine aj ?_;refine Nxt.mk [] (⟨j+1,by omega,nV hnb (by assumption)⟩) rfl (by unfold igI;exact nU) zqO)|refine zqN ?_|((first|refine ax rfl (fun K hK=>?_)|refine ak (fun K hK=>?_));(first|refine jG (f:=F) [] 0 false ?_);refine nG ?_;(first|refine⟨_,_,hf (l.getD j default),?_⟩);refine j5 ?_;apply hK;clear hK K)|refine bA ?_|refine bB ?_|(refine bC ?_ ?_<;>intro hc<;>try exact zqM))
 all_goals first
  |(have e:ix p l=j:=um (by omega) hnb (by assumption);(refine Ends.mk2 zqI [] ?_;simp-dsimp(disch:=try exact vD) only[push_cast,simprocAttr,Tryz.f164,e];try exact zqF))
  |(have ej:j=n:=(by omega);subst ej;subst hl;have e:ix p l= -1:=oV hnb;(refine Ends.mk2 zqI [] ?_;simp-dsimp(disch:=try exact vD) only[push_cast,simprocAttr,Tryz.f164,e];try exact zqF))
theorem agD{F:FuncId} [gV Tryz.prog F]{c:Int}(p:Int→Bool)(hl:l.length=n)(hn:n<2^47)(hf:∀t:Int,ACall Tryz.prog F [.val (.int .i64 t),.ipt [.val (.int .i64 c)] 0] [] 0 (.val (.bool (p t))) []):
 ACall Tryz.prog 124 [.isl z (cI .i64 l) n,.fn F [.ipt [.val (.int .i64 c)] 0]] [] 0 (.val (.bool (l.any p))) []:=by
 refine az Tryz.func124 Tryz.ntmps124 rfl ?_
 have zx1:= @lV;have zx2:=aD;have zx3:=aD;repeat' (first|refine zqN ?_|refine eG (ahq p hl hn hf) ?_|refine dx ?_|refine dz ?_|(refine dA ?_ ?_<;>intro hc<;>try exact zqM))
 all_goals(refine Ends.mk2 zqI [] ?_;simp-dsimp(disch:=try exact vD) only[push_cast,simprocAttr,Tryz.f124,lV];try exact zqF)
theorem ais:ACall Tryz.prog 122 [.val (.int .i64 a)] [] 0 (.val (.bool (adM a))) []:=by
 unfold adM
 refine az Tryz.func122 Tryz.ntmps122 rfl ?_
 repeat' (first|refine zqN ?_|refine bA ?_|refine bB ?_|(refine bC ?_ ?_<;>intro hc<;>try exact zqM))
 all_goals(refine Ends.mk2 zqI [] ?_;simp-dsimp(disch:=try exact vD) only[push_cast,simprocAttr,Tryz.f122];try exact zqF)
theorem ait:ACall Tryz.prog 123 [.val (.int .i64 a),.ipt [.val (.int .i64 i)] 0] [] 0 (.val (.bool (unk i a))) []:=by
 unfold unk
 refine az Tryz.func123 Tryz.ntmps123 rfl ?_
 repeat' (first|refine zqN ?_|refine bA ?_|refine bB ?_|(refine bC ?_ ?_<;>intro hc<;>try exact zqM))
 all_goals(refine Ends.mk2 zqI [] ?_;simp-dsimp(disch:=try exact vD) only[push_cast,simprocAttr,Tryz.f123];try exact zqF)
theorem aiu(hw:t.w.length<2^47)(hk:t.k.length<2^47):ACall Tryz.prog 86 [.agg (aa.cells t),.val (.int .i64 i)] [] 0 (.val (.int .i64 (zt t i))) []:=by
 refine az Tryz.func86 Tryz.ntmps86 rfl ?_
 repeat' (first|((first|refine dP (r:=10) 1 ?_|refine dO (r:=10) 1 ?_);refine j5 ?_;intro K hK;refine hK _ _ ?_;clear hK K)|refine zqN ?_|refine aT (agz (l:=t.w) adM rfl hw (fun t=>ais)) ?_|refine aT (agD (l:=t.k) (unk i) rfl hk (fun t=>ait)) ?_|refine bA ?_|refine bB ?_|(refine bC ?_ ?_<;>intro hc<;>try exact zqM))
 all_goals first
  |(have e:zt t i=1:=ahi (by unfold aet;omega);(refine Ends.mk2 zqI [] ?_;simp-dsimp(disch:=try exact vD) only[push_cast,simprocAttr,Tryz.f86,e];try exact zqF))
  |(have e:zt t i=7:=ahj (by unfold aet;omega) (by unfold aeu;omega);(refine Ends.mk2 zqI [] ?_;simp-dsimp(disch:=try exact vD) only[push_cast,simprocAttr,Tryz.f86,e];try exact zqF))
  |(have e:zt t i=7:=ahk (by unfold aet;omega) (by unfold aeu;omega) (by assumption);(refine Ends.mk2 zqI [] ?_;simp-dsimp(disch:=try exact vD) only[push_cast,simprocAttr,Tryz.f86,e];try exact zqF))
  |(have e:zt t i=6:=ahl (by unfold aet;omega) (by unfold aeu;omega) (by assumption) (by omega);(refine Ends.mk2 zqI [] ?_;simp-dsimp(disch:=try exact vD) only[push_cast,simprocAttr,Tryz.f86,e];try exact zqF))
  |(have e:zt t i=4:=ahm (by unfold aet;omega) (by unfold aeu;omega) (by assumption) (by omega) (by assumption);(refine Ends.mk2 zqI [] ?_;simp-dsimp(disch:=try exact vD) only[push_cast,simprocAttr,Tryz.f86,e];try exact zqF))
  |(have e:zt t i=0:=ahn (by unfold aet;omega) (by unfold aeu;omega) (by assumption) (by omega) (by assumption);(refine Ends.mk2 zqI [] ?_;simp-dsimp(disch:=try exact vD) only[push_cast,simprocAttr,Tryz.f86,e];try exact zqF))
def vaI(x:Ex)(j:{j:Nat // j≤x.nodes.length∧zo 0 (x.nodes.take j)=0}):St:=
 ⟨40,0,[(1,.pt 0 0),(15,.isl x.nz (cR x.nodes) x.nodes.length),(16,.val (.int .i64 x.nodes.length)),(17,.val (.int .i64 j.val))],[(0,some (.cells (aa.cells x) 50))]⟩
theorem aez{x:Ex}(hx:afp x):ACall Tryz.prog 47 [.agg (aa.cells x)] [] 0 (.val (.int .i64 (PG x))) []:=by
 have hx1:=hx.1
 have hx2:=hx.2
 refine az Tryz.func47 Tryz.ntmps47 rfl ?_
 repeat' (first|(refine ai ?_;refine au [0] ([0].length) (vaI x) (fun j=>x.nodes.length-j.val) (⟨0,by omega,rfl⟩) rfl (by unfold vaI;exact nU) ?_;(rintro⟨j,hj,he⟩;(simp-dsimp only[vaI];refine zqS ?_)))|(refine aj ?_;refine Nxt.mk [0] (⟨j+1,by omega,afn (by omega) he (Decidable.not_not.1 (by assumption))⟩) rfl (by unfold vaI;exact nU) zqO)|refine zqN ?_|refine aT (aiu (t:=x.nodes.getD j default) (i:=j) (hx2 j (by omega)).1 (hx2 j (by omega)).2) ?_|refine bA ?_|refine bB ?_|(refine bC ?_ ?_<;>intro hc<;>try exact zqM))
 all_goals first
  |(have e:PG x=9:=ags (by omega);(refine Ends.mk2 zqI [] ?_;simp-dsimp(disch:=try exact vD) only[push_cast,simprocAttr,Tryz.f47,e];try exact zqF))
  |(have e:PG x=3:=agt (by omega);(refine Ends.mk2 zqI [] ?_;simp-dsimp(disch:=try exact vD) only[push_cast,simprocAttr,Tryz.f47,e];try exact zqF))
  |(have e:PG x=zt (x.nodes.getD j default) j:=agu (by omega) (by omega) he (by assumption);(refine Ends.mk2 zqI [] ?_;simp-dsimp(disch:=try exact vD) only[push_cast,simprocAttr,Tryz.f47,e];try exact zqF))
  |(have ej:j=x.nodes.length:=(by omega);rw[ej,List.take_length] at he;have e:PG x=4:=agv (by omega) (by omega) he (by omega);(refine Ends.mk2 zqI [] ?_;simp-dsimp(disch:=try exact vD) only[push_cast,simprocAttr,Tryz.f47,e];try exact zqF))
  |(have ej:j=x.nodes.length:=(by omega);rw[ej,List.take_length] at he;have e:PG x=0:=agw (by omega) (by omega) he (by omega);(refine Ends.mk2 zqI [] ?_;simp-dsimp(disch:=try exact vD) only[push_cast,simprocAttr,Tryz.f47,e];try exact zqF))
