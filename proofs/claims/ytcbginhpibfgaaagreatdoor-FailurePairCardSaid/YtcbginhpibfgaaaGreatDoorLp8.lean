/- Lp8. No condition. -/
import Derived.Test.YtcbginhpibfgaaaGreatDoorLpG9
set_option linter.all false
set_option maxHeartbeats 4000000
set_option maxRecDepth 20000
namespace Go.Proofs.YtcbginhpibfgaaaGreatDoor
open Go Go.Sy Go.Bp Go.Lm
attribute [local irreducible] AO AL AC OpT ACall Ends DGo bK Thn Blk Nxt
variable {n N M k i m j:Nat} {z z' neg nx ny:Bool} {l a b P Lx Ly:List Int} {v x y e:Int} {W:IV}
def rI(v:Int):IV:=if v.natAbs<10^300 then iC v else iC 0
def rE(v:Int):Int:=if v.natAbs<10^300 then 0 else 3
abbrev rV(v:Int):AV:= .tup [.agg (aa.cells (rI v)),.val (.int .i64 (rE v))]
theorem ow(h:D300 v):rI v=iC v:=if_pos h
theorem oz(h:D300 v):rE v=0:=if_pos h
theorem JW:(sg neg v).natAbs=v.natAbs:=by unfold sg;split<;>omega
theorem iG(hi:Lim l)(hl:l.length=n)(hn:n<2^47)(hz:z=true→l=[])(hv:sg neg (val l)=v):ACall Tryz.prog 136 [.val (.bool neg),.isl z (cI .u32 l) n] [] 0 (rV v) []:=by
 subst hv
 by_cases h:D300 (val l)
 ·have h2:D300 (sg neg (val l)):=by unfold D300;rw[JW];exact h
  unfold rV
  rw[ow h2,oz h2]
  exact SN hi hl hn hz h
 ·have h2:¬(sg neg (val l)).natAbs<10^300:=by rw[JW];exact h
  unfold rV rI rE
  rw[if_neg h2,if_neg h2]
  exact Ou hi hl hn h
theorem adb(ha:Lim a)(hb:Lim b)(h1:a.length<2^39)(h2:b.length<2^39):∃P,Lim P∧val P=val a+val b∧P.length<2^47∧ACall Tryz.prog 157 [.isl z (cI .u32 a) a.length,.isl z' (cI .u32 b) b.length] [] 0 (.isl false (cI .u32 P) P.length) []:=by
 rcases Nat.lt_or_ge a.length b.length with h|h
 ·obtain⟨p1,p2⟩:=Ql hb ha (by omega)
  refine⟨ru b a,p1,by rw[p2];omega,by rw[tN];omega,?_⟩
  rw[tN]
  exact aiv hb ha rfl rfl h (by omega)
 ·obtain⟨p1,p2⟩:=Ql ha hb h
  refine⟨ru a b,p1,p2,by rw[tN];omega,?_⟩
  rw[tN]
  exact aiu ha hb rfl rfl h (by omega)
theorem SS(hne:nx=ny)(hp:ACall Tryz.prog 157 [.isl z (cI .u32 Lx) n,.isl z' (cI .u32 Ly) m] [] 0 (.isl false (cI .u32 P) k) [])(hr:ACall Tryz.prog 136 [.val (.bool nx),.isl false (cI .u32 P) k] [] 0 (.tup [.agg (aa.cells W),.val (.int .i64 e)]) []):
 ACall Tryz.prog 146 [.agg [.val (.bool nx),.isl z (cI .u32 Lx) n],.agg [.val (.bool ny),.isl z' (cI .u32 Ly) m]] [] 0 (.tup [.agg (aa.cells W),.val (.int .i64 e)]) []:=by
 subst hne
 have hp:=PLift.up hp;have hr:=PLift.up hr
 rcases Bool.eq_false_or_eq_true nx with hnx|hnx
 all_goals subst hnx
 all_goals(refine ak Tryz.func146 Tryz.ntmps146 rfl ?_)
 all_goals repeat' (first|refine zqN ?_|refine az hp.down ?_|refine az hr.down ?_|refine aK ?_|refine aL ?_|(refine aM ?_ ?_<;>intro hc<;>try exact zqM)|refine zqR 2 [⟨0,[],[14,15,16,17,18],[],[],0⟩,⟨1,[0],[14,15,16,17,18],[],[],0⟩,⟨2,[],[12,13,16,17],[],[],0⟩,⟨3,[2],[12,13,16,17],[],[],0⟩,⟨4,[],[12,13,14,15],[],[],0⟩,⟨5,[4],[12,13,14,15],[],[],0⟩,⟨6,[2,3,4,5],[12,13],[],[],0⟩,⟨7,[0,1,2,3,4,5,6],[],[],[],0⟩,⟨8,[0,1,2,3,4,5,6,7],[21],[],[],0⟩,⟨9,[0,1,2,3,4,5,6,7],[20],[],[],0⟩,⟨10,[0,1,2,3,4,5,6,7,8,9],[],[],[2],0⟩,⟨11,[0,1,2,3,4,5,6,7,8,9,10],[],[],[],0⟩] ?_|refine zqR 4 [⟨0,[],[31,32,33,34,35],[],[],0⟩,⟨1,[0],[31,32,33,34,35],[],[],0⟩,⟨2,[],[29,30,33,34],[],[],0⟩,⟨3,[2],[29,30,33,34],[],[],0⟩,⟨4,[],[29,30,31,32],[],[],0⟩,⟨5,[4],[29,30,31,32],[],[],0⟩,⟨6,[2,3,4,5],[29,30],[],[],0⟩,⟨7,[0,1,2,3,4,5,6],[],[],[],0⟩,⟨8,[0,1,2,3,4,5,6,7],[38],[],[],0⟩,⟨9,[0,1,2,3,4,5,6,7],[37],[],[],0⟩,⟨10,[0,1,2,3,4,5,6,7,8,9],[],[],[2],0⟩,⟨11,[0,1,2,3,4,5,6,7,8,9,10],[],[],[],0⟩] ?_|refine zqR 5 [⟨0,[],[41,42,43,44,45],[],[],0⟩,⟨1,[0],[41,42,43,44,45],[],[],0⟩,⟨2,[],[39,40,43,44],[],[],0⟩,⟨3,[2],[39,40,43,44],[],[],0⟩,⟨4,[],[39,40,41,42],[],[],0⟩,⟨5,[4],[39,40,41,42],[],[],0⟩,⟨6,[2,3,4,5],[39,40],[],[],0⟩,⟨7,[0,1,2,3,4,5,6],[],[],[],0⟩,⟨8,[0,1,2,3,4,5,6,7],[48],[],[],0⟩,⟨9,[0,1,2,3,4,5,6,7],[47],[],[],0⟩,⟨10,[0,1,2,3,4,5,6,7,8,9],[],[],[2],0⟩,⟨11,[0,1,2,3,4,5,6,7,8,9,10],[],[],[],0⟩] ?_|refine zqD ?_|fail)
 all_goals first
  |((refine Ends.mk2 zqI [] ?_;simp-dsimp(disch:=try exact vD) only[push_cast,simprocAttr,Tryz.f146];try exact zqF);done)
  |skip
theorem adc{c:Int}(hne:¬nx=ny)(hc0:0≤c)(hcm:ACall Tryz.prog 135 [.isl z (cI .u32 Lx) n,.isl z' (cI .u32 Ly) m] [] 0 (.val (.int .i64 c)) [])(hp:ACall Tryz.prog 158 [.isl z (cI .u32 Lx) n,.isl z' (cI .u32 Ly) m] [] 0 (.isl false (cI .u32 P) k) [])(hr:ACall Tryz.prog 136 [.val (.bool nx),.isl false (cI .u32 P) k] [] 0 (.tup [.agg (aa.cells W),.val (.int .i64 e)]) []):
 ACall Tryz.prog 146 [.agg [.val (.bool nx),.isl z (cI .u32 Lx) n],.agg [.val (.bool ny),.isl z' (cI .u32 Ly) m]] [] 0 (.tup [.agg (aa.cells W),.val (.int .i64 e)]) []:=by
 have hp:=PLift.up hp;have hr:=PLift.up hr;have hcm:=PLift.up hcm
 rcases Bool.eq_false_or_eq_true nx with hnx|hnx<;>rcases Bool.eq_false_or_eq_true ny with hny|hny
 all_goals subst hnx
 all_goals subst hny
 all_goals first
  |(exact absurd rfl hne;done)
  |skip
 all_goals(refine ak Tryz.func146 Tryz.ntmps146 rfl ?_)
 all_goals repeat' (first|refine zqN ?_|refine az hcm.down ?_|refine az hp.down ?_|refine az hr.down ?_|refine aK ?_|refine aL ?_|(refine aM ?_ ?_<;>intro hc<;>try exact zqM)|refine zqR 2 [⟨0,[],[14,15,16,17,18],[],[],0⟩,⟨1,[0],[14,15,16,17,18],[],[],0⟩,⟨2,[],[12,13,16,17],[],[],0⟩,⟨3,[2],[12,13,16,17],[],[],0⟩,⟨4,[],[12,13,14,15],[],[],0⟩,⟨5,[4],[12,13,14,15],[],[],0⟩,⟨6,[2,3,4,5],[12,13],[],[],0⟩,⟨7,[0,1,2,3,4,5,6],[],[],[],0⟩,⟨8,[0,1,2,3,4,5,6,7],[21],[],[],0⟩,⟨9,[0,1,2,3,4,5,6,7],[20],[],[],0⟩,⟨10,[0,1,2,3,4,5,6,7,8,9],[],[],[2],0⟩,⟨11,[0,1,2,3,4,5,6,7,8,9,10],[],[],[],0⟩] ?_|refine zqR 4 [⟨0,[],[31,32,33,34,35],[],[],0⟩,⟨1,[0],[31,32,33,34,35],[],[],0⟩,⟨2,[],[29,30,33,34],[],[],0⟩,⟨3,[2],[29,30,33,34],[],[],0⟩,⟨4,[],[29,30,31,32],[],[],0⟩,⟨5,[4],[29,30,31,32],[],[],0⟩,⟨6,[2,3,4,5],[29,30],[],[],0⟩,⟨7,[0,1,2,3,4,5,6],[],[],[],0⟩,⟨8,[0,1,2,3,4,5,6,7],[38],[],[],0⟩,⟨9,[0,1,2,3,4,5,6,7],[37],[],[],0⟩,⟨10,[0,1,2,3,4,5,6,7,8,9],[],[],[2],0⟩,⟨11,[0,1,2,3,4,5,6,7,8,9,10],[],[],[],0⟩] ?_|refine zqR 5 [⟨0,[],[41,42,43,44,45],[],[],0⟩,⟨1,[0],[41,42,43,44,45],[],[],0⟩,⟨2,[],[39,40,43,44],[],[],0⟩,⟨3,[2],[39,40,43,44],[],[],0⟩,⟨4,[],[39,40,41,42],[],[],0⟩,⟨5,[4],[39,40,41,42],[],[],0⟩,⟨6,[2,3,4,5],[39,40],[],[],0⟩,⟨7,[0,1,2,3,4,5,6],[],[],[],0⟩,⟨8,[0,1,2,3,4,5,6,7],[48],[],[],0⟩,⟨9,[0,1,2,3,4,5,6,7],[47],[],[],0⟩,⟨10,[0,1,2,3,4,5,6,7,8,9],[],[],[2],0⟩,⟨11,[0,1,2,3,4,5,6,7,8,9,10],[],[],[],0⟩] ?_|refine zqD ?_|fail)
 all_goals first
  |((refine Ends.mk2 zqI [] ?_;simp-dsimp(disch:=try exact vD) only[push_cast,simprocAttr,Tryz.f146];try exact zqF);done)
  |skip
theorem ade{c:Int}(hne:¬nx=ny)(hc0:¬0≤c)(hcm:ACall Tryz.prog 135 [.isl z (cI .u32 Lx) n,.isl z' (cI .u32 Ly) m] [] 0 (.val (.int .i64 c)) [])(hp:ACall Tryz.prog 158 [.isl z' (cI .u32 Ly) m,.isl z (cI .u32 Lx) n] [] 0 (.isl false (cI .u32 P) k) [])(hr:ACall Tryz.prog 136 [.val (.bool ny),.isl false (cI .u32 P) k] [] 0 (.tup [.agg (aa.cells W),.val (.int .i64 e)]) []):
 ACall Tryz.prog 146 [.agg [.val (.bool nx),.isl z (cI .u32 Lx) n],.agg [.val (.bool ny),.isl z' (cI .u32 Ly) m]] [] 0 (.tup [.agg (aa.cells W),.val (.int .i64 e)]) []:=by
 have hp:=PLift.up hp;have hr:=PLift.up hr;have hcm:=PLift.up hcm
 rcases Bool.eq_false_or_eq_true nx with hnx|hnx<;>rcases Bool.eq_false_or_eq_true ny with hny|hny
 all_goals subst hnx
 all_goals subst hny
 all_goals first
  |(exact absurd rfl hne;done)
  |skip
 all_goals(refine ak Tryz.func146 Tryz.ntmps146 rfl ?_)
 all_goals repeat' (first|refine zqN ?_|refine az hcm.down ?_|refine az hp.down ?_|refine az hr.down ?_|refine aK ?_|refine aL ?_|(refine aM ?_ ?_<;>intro hc<;>try exact zqM)|refine zqR 2 [⟨0,[],[14,15,16,17,18],[],[],0⟩,⟨1,[0],[14,15,16,17,18],[],[],0⟩,⟨2,[],[12,13,16,17],[],[],0⟩,⟨3,[2],[12,13,16,17],[],[],0⟩,⟨4,[],[12,13,14,15],[],[],0⟩,⟨5,[4],[12,13,14,15],[],[],0⟩,⟨6,[2,3,4,5],[12,13],[],[],0⟩,⟨7,[0,1,2,3,4,5,6],[],[],[],0⟩,⟨8,[0,1,2,3,4,5,6,7],[21],[],[],0⟩,⟨9,[0,1,2,3,4,5,6,7],[20],[],[],0⟩,⟨10,[0,1,2,3,4,5,6,7,8,9],[],[],[2],0⟩,⟨11,[0,1,2,3,4,5,6,7,8,9,10],[],[],[],0⟩] ?_|refine zqR 4 [⟨0,[],[31,32,33,34,35],[],[],0⟩,⟨1,[0],[31,32,33,34,35],[],[],0⟩,⟨2,[],[29,30,33,34],[],[],0⟩,⟨3,[2],[29,30,33,34],[],[],0⟩,⟨4,[],[29,30,31,32],[],[],0⟩,⟨5,[4],[29,30,31,32],[],[],0⟩,⟨6,[2,3,4,5],[29,30],[],[],0⟩,⟨7,[0,1,2,3,4,5,6],[],[],[],0⟩,⟨8,[0,1,2,3,4,5,6,7],[38],[],[],0⟩,⟨9,[0,1,2,3,4,5,6,7],[37],[],[],0⟩,⟨10,[0,1,2,3,4,5,6,7,8,9],[],[],[2],0⟩,⟨11,[0,1,2,3,4,5,6,7,8,9,10],[],[],[],0⟩] ?_|refine zqR 5 [⟨0,[],[41,42,43,44,45],[],[],0⟩,⟨1,[0],[41,42,43,44,45],[],[],0⟩,⟨2,[],[39,40,43,44],[],[],0⟩,⟨3,[2],[39,40,43,44],[],[],0⟩,⟨4,[],[39,40,41,42],[],[],0⟩,⟨5,[4],[39,40,41,42],[],[],0⟩,⟨6,[2,3,4,5],[39,40],[],[],0⟩,⟨7,[0,1,2,3,4,5,6],[],[],[],0⟩,⟨8,[0,1,2,3,4,5,6,7],[48],[],[],0⟩,⟨9,[0,1,2,3,4,5,6,7],[47],[],[],0⟩,⟨10,[0,1,2,3,4,5,6,7,8,9],[],[],[2],0⟩,⟨11,[0,1,2,3,4,5,6,7,8,9,10],[],[],[],0⟩] ?_|refine zqD ?_|fail)
 all_goals first
  |((refine Ends.mk2 zqI [] ?_;simp-dsimp(disch:=try exact vD) only[push_cast,simprocAttr,Tryz.f146];try exact zqF);done)
  |skip
theorem Qz(h:D300 x)(h2:D300 y):ACall Tryz.prog 146 [.agg (aa.cells (iV z x)),.agg (aa.cells (iV z' y))] [] 0 (rV (x+y)) []:=by
 have f1:=h.few;have f2:=h2.few
 by_cases hne:decide (x<0)=decide (y<0)
 ·obtain⟨P,p1,p2,p3,p4⟩:=adb (z:=z) (z':=z') (a:=lb x.natAbs) (b:=lb y.natAbs) lim_lb lim_lb (by omega) (by omega)
  rw[aU,aU] at p2
  refine SS hne p4 (iG p1 rfl (by omega) (fun h=>nomatch h) ?_)
  rw[p2];unfold sg
  show(if decide (x<0)=true then _ else _)=_
  by_cases hx:x<0
  ·rw[decide_eq_true hx] at hne
   have:=of_decide_eq_true hne.symm
   rw[decide_eq_true hx,if_pos rfl];omega
  ·rw[decide_eq_false hx] at hne
   have:=of_decide_eq_false hne.symm
   rw[decide_eq_false hx,if_neg (by simp)];omega
 ·have hcm:=mE (z:=z) (z':=z') (a:=lb x.natAbs) (b:=lb y.natAbs) lim_lb lim_lb ic ic (by omega) (by omega)
  rw[wM] at hcm
  have hxy:(x<0∧¬y<0)∨(¬x<0∧y<0):=by
   by_cases hx:x<0<;>by_cases hy:y<0
   ·rw[decide_eq_true hx,decide_eq_true hy] at hne;exact absurd rfl hne
   ·exact .inl ⟨hx,hy⟩
   ·exact .inr ⟨hx,hy⟩
   ·rw[decide_eq_false hx,decide_eq_false hy] at hne;exact absurd rfl hne
  have hlen:∀{p q:Nat},p≤q→(lb p).length≤(lb q).length:=fun{p q} hpq=>by
   refine Decidable.not_not.1 fun hc=>?_
   have:=yD (a:=lb q) (b:=lb p) lim_lb lim_lb ic (by omega)
   rw[aU,aU] at this;omega
  by_cases hge:y.natAbs≤x.natAbs
  ·have hm:=Qy (z:=z) (z':=z') (a:=lb x.natAbs) (b:=lb y.natAbs) lim_lb lim_lb rfl rfl (hlen hge) (by omega) (by rw[aU,aU];omega)
   rw[aU,aU] at hm
   refine adc hne (by unfold gp;repeat' split<;>try omega) hcm hm (iG lim_lb rfl (Nat.lt_of_le_of_lt (hlen (show _≤x.natAbs by omega)) (by omega)) (fun h=>nomatch h) ?_)
   rw[aU];unfold sg
   show(if decide (x<0)=true then _ else _)=_
   rcases hxy with⟨hx,hy⟩|⟨hx,hy⟩
   ·rw[decide_eq_true hx,if_pos rfl];omega
   ·rw[decide_eq_false hx,if_neg (by simp)];omega
  ·have hm:=Qy (z:=z') (z':=z) (a:=lb y.natAbs) (b:=lb x.natAbs) lim_lb lim_lb rfl rfl (hlen (by omega)) (by omega) (by rw[aU,aU];omega)
   rw[aU,aU] at hm
   refine ade hne (by unfold gp;repeat' split<;>try omega) hcm hm (iG lim_lb rfl (Nat.lt_of_le_of_lt (hlen (show _≤y.natAbs by omega)) (by omega)) (fun h=>nomatch h) ?_)
   rw[aU];unfold sg
   show(if decide (y<0)=true then _ else _)=_
   rcases hxy with⟨hx,hy⟩|⟨hx,hy⟩
   ·rw[decide_eq_false hy,if_neg (by simp)];omega
   ·rw[decide_eq_true hy,if_pos rfl];omega
theorem XM(hck:ACall Tryz.prog 133 [.isl false [.val (.bool nx),.isl z (cI .u32 Lx) n,.val (.bool ny),.isl z' (cI .u32 Ly) m] 2] [] 0 (.val (.int .i64 0)) [])
 (hr:ACall Tryz.prog 146 [.agg [.val (.bool nx),.isl z (cI .u32 Lx) n],.agg [.val (.bool ny),.isl z' (cI .u32 Ly) m]] [] 0 (.tup [.agg (aa.cells W),.val (.int .i64 e)]) []):
 ACall Tryz.prog 138 [.agg [.val (.bool nx),.isl z (cI .u32 Lx) n],.agg [.val (.bool ny),.isl z' (cI .u32 Ly) m]] [] 0 (.tup [.agg (aa.cells W),.val (.int .i64 e)]) []:=by
 have hck:=PLift.up hck;have hr:=PLift.up hr
 refine ak Tryz.func138 Tryz.ntmps138 rfl ?_
 repeat' (first|refine zqN ?_|((first|refine ay rfl (fun K hK=>?_)|refine aj (fun K hK=>?_));(first|refine ah (f:=133) [] 0 true ?_|refine ah (f:=146) [] 0 false ?_);refine jP ?_;(first|refine⟨_,_,hck.down,?_⟩|refine⟨_,_,hr.down,?_⟩);refine gD ?_;apply hK;clear hK K)|refine aK ?_|refine aL ?_|(refine aM ?_ ?_<;>intro hc<;>try exact zqM))
 all_goals first
  |((refine Ends.mk2 zqI [] ?_;simp-dsimp(disch:=try exact vD) only[push_cast,simprocAttr,Tryz.f138];try exact zqF);done)
  |skip
theorem aiw(h:D300 x)(h2:D300 y):ACall Tryz.prog 138 [.agg (aa.cells (iV z x)),.agg (aa.cells (iV z' y))] [] 0 (rV (x+y)) []:=XM (yH h h2) (Qz h h2)
theorem XN(hck:ACall Tryz.prog 133 [.isl false [.val (.bool nx),.isl z (cI .u32 Lx) n,.val (.bool ny),.isl z' (cI .u32 Ly) m] 2] [] 0 (.val (.int .i64 0)) [])
 (hr:ACall Tryz.prog 146 [.agg [.val (.bool nx),.isl z (cI .u32 Lx) n],.agg [.val (.bool (!ny&&decide (0<m))),.isl z' (cI .u32 Ly) m]] [] 0 (.tup [.agg (aa.cells W),.val (.int .i64 e)]) []):
 ACall Tryz.prog 120 [.agg [.val (.bool nx),.isl z (cI .u32 Lx) n],.agg [.val (.bool ny),.isl z' (cI .u32 Ly) m]] [] 0 (.tup [.agg (aa.cells W),.val (.int .i64 e)]) []:=by
 have hck:=PLift.up hck
 rcases Bool.eq_false_or_eq_true ny with hny|hny<;>rcases Nat.eq_zero_or_pos m with hm|hm
 all_goals subst hny
 all_goals first
  |(subst hm)
  |(rw[decide_eq_true hm] at hr;(try rw[show(!false&&true)=decide ((0:Int)<(m:Int)) from(decide_eq_true (by omega)).symm] at hr))
 all_goals have hr:=PLift.up hr
 all_goals(refine ak Tryz.func120 Tryz.ntmps120 rfl ?_)
 all_goals repeat' (first|refine zqN ?_|((first|refine ay rfl (fun K hK=>?_)|refine aj (fun K hK=>?_));(first|refine ah (f:=133) [] 0 true ?_|refine ah (f:=146) [] 0 false ?_);refine jP ?_;(first|refine⟨_,_,hck.down,?_⟩|refine⟨_,_,hr.down,?_⟩);refine gD ?_;apply hK;clear hK K)|refine aK ?_|refine aL ?_|(refine aM ?_ ?_<;>intro hc<;>try exact zqM))
 all_goals first
  |((refine Ends.mk2 zqI [] ?_;simp-dsimp(disch:=try exact vD) only[push_cast,simprocAttr,Tryz.f120];try exact zqF);done)
  |skip
theorem QA(h:D300 x)(h2:D300 y):ACall Tryz.prog 120 [.agg (aa.cells (iV z x)),.agg (aa.cells (iV z' y))] [] 0 (rV (x-y)) []:=by
 have h3:D300 (-y):=by unfold D300;rw[Int.natAbs_neg];exact h2
 have hr:=Qz (z:=z) (z':=z') h h3
 rw[←Int.sub_eq_add_neg] at hr
 refine XN (yH h h2) ?_
 have e1:(!decide (y<0)&&decide (0<(lb y.natAbs).length))=decide (-y<0):=by
  have hl:(lb y.natAbs).length=0↔y=0:=by rw[List.length_eq_zero_iff,iE];omega
  rw[Bool.eq_iff_iff]
  simp only[Bool.and_eq_true,Bool.not_eq_true',decide_eq_false_iff_not,decide_eq_true_eq]
  omega
 unfold iV at hr
 rw[Int.natAbs_neg,←e1] at hr
 exact hr
theorem XO{q:Bool}(hq:(nx !=ny)=q)(hck:ACall Tryz.prog 133 [.isl false [.val (.bool nx),.isl z (cI .u32 Lx) n,.val (.bool ny),.isl z' (cI .u32 Ly) m] 2] [] 0 (.val (.int .i64 0)) [])
 (hp:ACall Tryz.prog 156 [.isl z (cI .u32 Lx) n,.isl z' (cI .u32 Ly) m] [] 0 (.isl false (cI .u32 P) k) []) (hr:ACall Tryz.prog 136 [.val (.bool q),.isl false (cI .u32 P) k] [] 0 (.tup [.agg (aa.cells W),.val (.int .i64 e)]) []):
 ACall Tryz.prog 145 [.agg [.val (.bool nx),.isl z (cI .u32 Lx) n],.agg [.val (.bool ny),.isl z' (cI .u32 Ly) m]] [] 0 (.tup [.agg (aa.cells W),.val (.int .i64 e)]) []:=by
 subst hq
 have hck:=PLift.up hck;have hp:=PLift.up hp
 rcases Bool.eq_false_or_eq_true nx with hnx|hnx<;>rcases Bool.eq_false_or_eq_true ny with hny|hny
 all_goals subst hnx
 all_goals subst hny
 all_goals have hr:=PLift.up hr
 all_goals(refine ak Tryz.func145 Tryz.ntmps145 rfl ?_)
 all_goals repeat' (first|refine zqN ?_|((first|refine ay rfl (fun K hK=>?_)|refine aj (fun K hK=>?_)|refine aA (fun K hK=>?_));(first|refine ah (f:=133) [] 0 true ?_|refine ah (f:=156) [] 0 false ?_|refine ah (f:=136) [] 0 false ?_);refine jP ?_;(first|refine⟨_,_,hck.down,?_⟩|refine⟨_,_,hp.down,?_⟩|refine⟨_,_,hr.down,?_⟩);refine gD ?_;apply hK;clear hK K)|refine aK ?_|refine aL ?_|(refine aM ?_ ?_<;>intro hc<;>try exact zqM)|refine zqR 4 [⟨0,[],[17,18,20,21,22,23,24],[],[],0⟩,⟨1,[0],[17,18,20,21,22,23,24],[],[],0⟩,⟨2,[],[15,16,20,21,22,23,24],[],[],0⟩,⟨3,[2],[15,16,20,21,22,23,24],[],[],0⟩,⟨4,[0,1,2,3],[20,21,22,23,24],[],[],0⟩,⟨5,[],[15,16,17,18,19,22,23],[],[],0⟩,⟨6,[5],[15,16,17,18,19,22,23],[],[],0⟩,⟨7,[],[15,16,17,18,19,20,21],[],[],0⟩,⟨8,[7],[15,16,17,18,19,20,21],[],[],0⟩,⟨9,[5,6,7,8],[15,16,17,18,19],[],[],0⟩,⟨10,[0,1,2,3,4,5,6,7,8,9],[],[],[],0⟩,⟨11,[0,1,2,3,4,5,6,7,8,9,10],[27],[],[],0⟩,⟨12,[0,1,2,3,4,5,6,7,8,9,10],[26],[],[],0⟩,⟨13,[0,1,2,3,4,5,6,7,8,9,10,11,12],[],[],[2],0⟩,⟨14,[0,1,2,3,4,5,6,7,8,9,10,11,12,13],[],[],[],0⟩] ?_|refine zqD ?_|fail)
 all_goals first
  |((refine Ends.mk2 zqI [] ?_;simp-dsimp(disch:=try exact vD) only[push_cast,simprocAttr,Tryz.f145];try exact zqF);done)
  |skip
theorem aix(h:D300 x)(h2:D300 y):ACall Tryz.prog 145 [.agg (aa.cells (iV z x)),.agg (aa.cells (iV z' y))] [] 0 (rV (x*y)) []:=by
 have f1:=h.few;have f2:=h2.few
 have ht:=ada (z:=z) (z':=z') (a:=lb x.natAbs) (b:=lb y.natAbs) lim_lb lim_lb rfl rfl (by omega) (by omega)
 rw[aU,aU] at ht
 have hlen:(lb ((x.natAbs:Int)*y.natAbs).toNat).length<2^47:=by
  have e:((x.natAbs:Int)*y.natAbs).toNat=x.natAbs*y.natAbs:=by rw[←Int.natCast_mul,Int.toNat_natCast]
  rw[e]
  have:x.natAbs*y.natAbs<10^600:=EU (s:=300) (t:=300) (u:=600) h h2 rfl
  have:=ER this
  omega
 refine XO rfl (yH h h2) ht (iG lim_lb rfl hlen (fun h=>nomatch h) ?_)
 have hnn:0≤(x.natAbs:Int)*y.natAbs:=Int.mul_nonneg (by omega) (by omega)
 rw[aU,Int.toNat_of_nonneg hnn]
 unfold sg
 show(if(decide (x<0) !=decide (y<0))=true then _ else _)=_
 have ea:∀t:Int,(t.natAbs:Int)=if t<0 then-t else t:=fun t=>by split<;>omega
 rw[ea x,ea y]
 by_cases hx:x<0<;>by_cases hy:y<0
 ·rw[decide_eq_true hx,decide_eq_true hy,if_pos hx,if_pos hy,if_neg (by simp),Int.neg_mul_neg]
 ·rw[decide_eq_true hx,decide_eq_false hy,if_pos hx,if_neg hy,if_pos (by rfl),Int.neg_mul,Int.neg_neg]
 ·rw[decide_eq_false hx,decide_eq_true hy,if_neg hx,if_pos hy,if_pos (by rfl),Int.mul_neg,Int.neg_neg]
 ·rw[decide_eq_false hx,decide_eq_false hy,if_neg hx,if_neg hy,if_neg (by simp)]
