/- La1 La2. No condition. -/
import Derived.Test.YtgmpdplpodemaaaGreatDoorFaG1
set_option linter.all false
set_option maxHeartbeats 4000000
set_option maxRecDepth 20000
namespace Go.Proofs.YtgmpdplpodemaaaGreatDoor
open Go Go.Sy Go.Bp Go.Lm Go.Rt
attribute [local irreducible] AO AL AC OpT ACall Ends DGo aN Thn Blk Nxt
variable {n N M k i m j:Nat} {z z':Bool} {v s c e:Int} {A B C P Q:IV} {p q:Rat} {X Y W:RV}
theorem Lf(v1:ACall Tryz.prog 102 [.agg (aa.cells X)] [] 0 (.val (.bool true)) [])(v2:ACall Tryz.prog 102 [.agg (aa.cells Y)] [] 0 (.val (.bool true)) [])(hs:ACall Tryz.prog 138 [.agg (aa.cells Y.num)] [] 0 (.val (.int .i64 s)) [])(hs0:¬s=0)
 (hq:ACall Tryz.prog 139 [.agg (aa.cells X.num),.agg (aa.cells Y.den),.agg (aa.cells X.den),.agg (aa.cells Y.num)] [] 0 (.tup [.agg (aa.cells W),.val (.int .i64 e)]) []):
 ACall Tryz.prog 96 [.agg (aa.cells X),.agg (aa.cells Y)] [] 0 (.tup [.agg (aa.cells W),.val (.int .i64 e)]) []:=by
 have v1:=PLift.up v1;have v2:=PLift.up v2;have hq:=PLift.up hq;have hs:=PLift.up hs
 rw[ay X,ay Y]
 refine az Tryz.func96 Tryz.ntmps96 rfl ?_
 have zx1:= @hs0;have zx2:=aD;have zx3:=aD;repeat' (first|refine zqN ?_|refine eG v1.down ?_|refine eG v2.down ?_|refine eG hs.down ?_|refine eG hq.down ?_|refine dx ?_|refine dz ?_|(refine dA ?_ ?_<;>intro hc<;>try exact zqM))
 all_goals first
  |((refine Ends.mk2 zqI [] ?_;simp-dsimp(disch:=try exact vD) only[push_cast,simprocAttr,Tryz.f96];try exact zqF);done)
  |skip
theorem aa9:p/q=Rat.divInt (p.num*q.den) (p.den*q.num):=by
 by_cases h:q.num=0
 ·have:q=0:=Rat.num_eq_zero.1 h
  subst this
  rw[h,Int.mul_zero,Rat.divInt_zero,Rat.div_def,Rat.inv_zero,Rat.mul_zero]
 ·have h1:=Rat.num_divInt_den p
  have h2:=Rat.num_divInt_den q
  rw[Rat.divInt_eq_div] at h1 h2
  have a:((p.den:Int):Rat)≠0:=by have:=p.den_nz;exact_mod_cast this
  have b:((q.den:Int):Rat)≠0:=by have:=q.den_nz;exact_mod_cast this
  have c:((q.num:Int):Rat)≠0:=by exact_mod_cast h
  rw[Rat.divInt_eq_div,Rat.intCast_mul,Rat.intCast_mul]
  conv=>lhs;rw[←h1,←h2]
  have e1:((p.den:Nat):Rat)=((p.den:Int):Rat):=rfl
  have e2:((q.den:Nat):Rat)=((q.den:Int):Rat):=rfl
  grind
theorem divS(h:SmZ z p)(h2:SmZ z' q)(hq:¬q=0):ACall Tryz.prog 96 [.agg (aa.cells (rQ z p)),.agg (aa.cells (rQ z' q))] [] 0 (.tup [.agg (aa.cells (rC (p/q))),.val (.int .i64 0)]) []:=by
 have hqn:¬q.num=0:=fun h=>hq (Rat.num_eq_zero.1 h)
 have d1:D300 (p.num*q.den):=yS (by
  have a:=lW h.s.1 h2.s.2
  rw[Int.natAbs_mul,Int.natAbs_natCast]
  generalize(10:Nat)^280=T at*
  omega)
 have d2:D300 (p.den*q.num):=yS (by
  have a:=lW h.s.2 h2.s.1
  rw[Int.natAbs_mul,Int.natAbs_natCast]
  generalize(10:Nat)^280=T at*
  omega)
 rw[aa9]
 refine Lf (jy h.ok) (jy h2.ok) (oh h2.ok.n.d) (by unfold sgn;repeat' split<;>omega) (qg (lI h.ok.n.d h2.ok.d d1) (lI h.ok.d h2.ok.n.d d2) (kQ (IOk.of d1) (IOk.of d2) ?_))
 have:=p.den_nz
 exact fun hc=>by rcases Int.mul_eq_zero.1 hc with h|h<;>omega
theorem Gy(h:ACall Tryz.prog 176 [.val (.int .i64 1)] [] 0 (.agg (aa.cells A)) []):ACall Tryz.prog 131 [] [] 0 (.agg (aa.cells (⟨⟨true,false,[]⟩,A⟩:RV))) []:=by
 have h:=PLift.up h
 rw[ay]
 refine az Tryz.func131 Tryz.ntmps131 rfl ?_
 repeat' (first|refine zqN ?_|refine aT h.down ?_|refine bA ?_|refine bB ?_|(refine bC ?_ ?_<;>intro hc<;>try exact zqM))
 all_goals first
  |((refine Ends.mk2 zqI [] ?_;simp-dsimp(disch:=try exact vD) only[push_cast,simprocAttr,Tryz.f131];try exact zqF);done)
  |skip
theorem DU:ACall Tryz.prog 131 [] [] 0 (.agg (aa.cells (rC 0))) []:=Gy (uE (v:=1) (by decide) (by decide))
theorem Lg(h:ACall Tryz.prog 176 [.val (.int .i64 1)] [] 0 (.agg (aa.cells A)) []):ACall Tryz.prog 171 [] [] 0 (.agg (aa.cells (⟨A,A⟩:RV))) []:=by
 have h:=PLift.up h
 rw[ay]
 refine az Tryz.func171 Tryz.ntmps171 rfl ?_
 repeat' (first|refine zqN ?_|refine aT h.down ?_|refine bA ?_|refine bB ?_|(refine bC ?_ ?_<;>intro hc<;>try exact zqM))
 all_goals first
  |((refine Ends.mk2 zqI [] ?_;simp-dsimp(disch:=try exact vD) only[push_cast,simprocAttr,Tryz.f171];try exact zqF);done)
  |skip
theorem VS:ACall Tryz.prog 171 [] [] 0 (.agg (aa.cells (rC 1))) []:=Lg (uE (v:=1) (by decide) (by decide))
theorem Gz(h:ACall Tryz.prog 138 [.agg (aa.cells X.num)] [] 0 (.val (.int .i64 s)) []):ACall Tryz.prog 170 [.agg (aa.cells X)] [] 0 (.val (.int .i64 s)) []:=by
 have h:=PLift.up h
 rw[ay X]
 refine az Tryz.func170 Tryz.ntmps170 rfl ?_
 repeat' (first|refine zqN ?_|refine aT h.down ?_|refine bA ?_|refine bB ?_|(refine bC ?_ ?_<;>intro hc<;>try exact zqM))
 all_goals first
  |((refine Ends.mk2 zqI [] ?_;simp-dsimp(disch:=try exact vD) only[push_cast,simprocAttr,Tryz.f170];try exact zqF);done)
  |skip
theorem iD(h:Sm q):ACall Tryz.prog 170 [.agg (aa.cells (rC q))] [] 0 (.val (.int .i64 (sgn q.num))) []:=by
 rw[ma]
 exact Gz (oh (Bq h).1)
theorem aba(h:ACall Tryz.prog 170 [.agg (aa.cells X)] [] 0 (.val (.int .i64 0)) []):ACall Tryz.prog 172 [.agg (aa.cells X)] [] 0 (.agg (aa.cells X)) []:=by
 have h:=PLift.up h
 rw[ay X]
 refine az Tryz.func172 Tryz.ntmps172 rfl ?_
 repeat' (first|refine zqN ?_|refine aT h.down ?_|refine bA ?_|refine bB ?_|(refine bC ?_ ?_<;>intro hc<;>try exact zqM))
 all_goals first
  |((refine Ends.mk2 zqI [] ?_;simp-dsimp(disch:=try exact vD) only[push_cast,simprocAttr,Tryz.f172];try exact zqF);done)
  |skip
theorem abb(h:ACall Tryz.prog 170 [.agg (aa.cells X)] [] 0 (.val (.int .i64 s)) [])(hs:¬s=0):ACall Tryz.prog 172 [.agg (aa.cells X)] [] 0 (.agg (aa.cells (⟨⟨X.num.z,!X.num.neg,X.num.l⟩,X.den⟩:RV))) []:=by
 have h:=PLift.up h
 rw[ay X,ay]
 refine az Tryz.func172 Tryz.ntmps172 rfl ?_
 have zx1:= @hs;have zx2:=aD;have zx3:=aD;repeat' (first|refine zqN ?_|refine eG h.down ?_|refine dx ?_|refine dz ?_|(refine dA ?_ ?_<;>intro hc<;>try exact zqM))
 all_goals first
  |((refine Ends.mk2 zqI [] ?_;simp-dsimp(disch:=try exact vD) only[push_cast,simprocAttr,Tryz.f172];try exact zqF);done)
  |skip
theorem VT(h:Sm q):ACall Tryz.prog 172 [.agg (aa.cells (rC q))] [] 0 (.agg (aa.cells (rC (-q)))) []:=by
 by_cases h0:q.num=0
 ·have e:q=0:=Rat.num_eq_zero.1 h0
  subst e
  exact aba (iD h)
 ·have h1:=abb (iD h) (by unfold sgn;repeat' split<;>omega)
  have e:(⟨⟨(rC q).num.z,!(rC q).num.neg,(rC q).num.l⟩,(rC q).den⟩:RV)=rC (-q):=by
   unfold rC iC iV
   rw[Rat.neg_num,Rat.neg_den,Int.natAbs_neg]
   have a:(decide (-q.num<0))= !(decide (q.num<0)):=by
    by_cases hn:q.num<0
    ·rw[decide_eq_true hn,decide_eq_false (by omega)];rfl
    ·rw[decide_eq_false hn,decide_eq_true (by omega)];rfl
   simp[a,h0]
   refine⟨?_,?_⟩
   ·rw[show(q.num==0)=false from beq_eq_false_iff_ne.2 h0,show(-q.num==0)=false from beq_eq_false_iff_ne.2 (by omega)]
   ·by_cases hn:q.num<0
    ·rw[decide_eq_true hn,decide_eq_false (by omega)];rfl
    ·rw[decide_eq_false hn,decide_eq_true (by omega)];rfl
  rw[e] at h1;exact h1
theorem GA(h:ACall Tryz.prog 140 [.val (.int .i64 v),.val (.int .i64 1)] [] 0 (.tup [.agg (aa.cells X),.val (.int .i64 0)]) []):ACall Tryz.prog 97 [.val (.int .i64 v)] [] 0 (.agg (aa.cells X)) []:=by
 have h:=PLift.up h
 refine az Tryz.func97 Tryz.ntmps97 rfl ?_
 repeat' (first|refine zqN ?_|refine aT h.down ?_|refine bA ?_|refine bB ?_|(refine bC ?_ ?_<;>intro hc<;>try exact zqM))
 all_goals first
  |((refine Ends.mk2 zqI [] ?_;simp-dsimp(disch:=try exact vD) only[push_cast,simprocAttr,Tryz.f97];try exact zqF);done)
  |skip
theorem DV(h:I64 v):ACall Tryz.prog 97 [.val (.int .i64 v)] [] 0 (.agg (aa.cells (rC (v:Rat)))) []:=by
 have:=ade (b:=1) h (by decide) (by decide)
 rw[PV] at this
 exact GA this
theorem yT(h:ACall Tryz.prog 141 [.agg (aa.cells X),.agg (aa.cells Y)] [] 0 (.tup [.val (.int .i64 c),.val (.int .i64 0)]) []):ACall Tryz.prog 100 [.agg (aa.cells X),.agg (aa.cells Y)] [] 0 (.val (.int .i64 c)) []:=by
 have h:=PLift.up h
 rw[ay X,ay Y]
 refine az Tryz.func100 Tryz.ntmps100 rfl ?_
 repeat' (first|refine zqN ?_|refine aT h.down ?_|refine bA ?_|refine bB ?_|(refine bC ?_ ?_<;>intro hc<;>try exact zqM))
 all_goals first
  |((refine Ends.mk2 zqI [] ?_;simp-dsimp(disch:=try exact vD) only[push_cast,simprocAttr,Tryz.f100];try exact zqF);done)
  |skip
theorem DW(h:ACall Tryz.prog 141 [.agg (aa.cells X),.agg (aa.cells Y)] [] 0 (.tup [.val (.int .i64 c),.val (.int .i64 0)]) []):ACall Tryz.prog 105 [.agg (aa.cells X),.agg (aa.cells Y)] [] 0 (.val (.bool (decide (0≤c)))) []:=by
 have h:=PLift.up h
 rw[ay X,ay Y]
 refine az Tryz.func105 Tryz.ntmps105 rfl ?_
 repeat' (first|refine zqN ?_|refine aT h.down ?_|refine bA ?_|refine bB ?_|(refine bC ?_ ?_<;>intro hc<;>try exact zqM))
 all_goals first
  |((refine Ends.mk2 zqI [] ?_;simp-dsimp(disch:=try exact vD) only[push_cast,simprocAttr,Tryz.f105];try exact zqF);done)
  |skip
theorem cmpS(h:SmZ z p)(h2:SmZ z' q):ACall Tryz.prog 141 [.agg (aa.cells (rQ z p)),.agg (aa.cells (rQ z' q))] [] 0 (.tup [.val (.int .i64 (eF (p.num*q.den) (q.num*p.den))),.val (.int .i64 0)]) []:=
 VP h.ok h2.ok (yg h.s h2.s).x (yg h.s h2.s).y
end Go.Proofs.YtgmpdplpodemaaaGreatDoor
namespace Go.Proofs.YtgmpdplpodemaaaGreatDoor
open Go Go.Sy Go.Bp Go.Lm Go.Rt
instance:TB2 Tryz.prog 242:=⟨⟨4,Tryz.underlying242,by kernel_rfl,Tryz.underlying4⟩,by kernel_rfl⟩
attribute [local irreducible] AO AL AC OpT ACall Ends DGo aN Thn Blk Nxt
variable {n N M k i m j r s a:Nat} {z z' cz:Bool} {v c e:Int} {X Y W V V2 F R ZERO ONE:RV} {wr:List Nat} {cap:List RV}
abbrev jR(V:RV):aC:= .cells [.val (.bool V.num.neg),.isl V.num.z (cI .u32 V.num.l) V.num.l.length,.val (.bool V.den.neg),.isl V.den.z (cI .u32 V.den.l) V.den.l.length,.val (.int .i64 0)] 216
theorem D6(h:ACall Tryz.prog 97 [.val (.int .i64 0)] [] 0 (.agg (aa.cells X)) []):ACall Tryz.prog 151 [] [] 0 (.pt 0 0) [jR X]:=by
 have h:=PLift.up h
 rw[ay X] at h
 unfold jR
 refine az Tryz.func151 Tryz.ntmps151 rfl ?_
 repeat' (first|refine zqN ?_|refine aT h.down ?_|refine bA ?_|refine bB ?_|(refine bC ?_ ?_<;>intro hc<;>try exact zqM))
 all_goals first
  |((refine Ends.mk2 zqI [0] ?_;simp-dsimp(disch:=try exact vD) only[push_cast,simprocAttr,Tryz.f151];try exact zqF);done)
  |skip
theorem zP(h:ACall Tryz.prog 196 [.agg (aa.cells V),.agg (aa.cells Y)] [] 0 (.tup [.agg (aa.cells W),.val (.int .i64 0)]) []):ACall Tryz.prog 195 [.pt 0 0,.agg (aa.cells Y)] [jR V] 1 (.tup []) [jR W]:=by
 have h:=PLift.up h
 rw[ay V,ay Y,ay W] at h
 rw[ay Y]
 unfold jR
 refine az Tryz.func195 Tryz.ntmps195 rfl ?_
 repeat' (first|(((refine kI (Q:=fun e _ s=>Go.Sy.Ends _ _ _ _ _ _ e s) (by kernel_rfl) (fun K hK=>?_));simp only[↓fH,↓fI,↓ig,↓fJ,↓ik,↓eT,↓fK,push_cast,Nat.reduceLeDiff,Nat.reduceSub,Nat.reduceBEq,Nat.reduceEqDiff,Nat.reduceAdd,Nat.reduceLT,↓reduceIte,reduceCtorEq];refine hK _ _ _ ?_;clear hK K))|refine zqN ?_|refine aT h.down ?_|refine bA ?_|refine bB ?_|(refine bC ?_ ?_<;>intro hc<;>try exact zqM)|refine zqR 2 [⟨0,[],[9,11,12,13,14,15,16,17,18,19],[],[],0⟩,⟨1,[],[9,10,12,13,14,15,16,17,18,19,20,21],[3],[],0⟩,⟨2,[],[10,11,16],[],[],0⟩,⟨3,[2],[10,11,16],[],[],0⟩,⟨4,[2,3],[10,11,16],[],[],0⟩,⟨5,[2,3,4],[10,11,16],[],[],0⟩,⟨6,[],[10,11,12,13,14,15],[],[],0⟩,⟨7,[2,3,4,5,6],[10,11],[],[],0⟩,⟨8,[2,3,4,5,6,7],[10,11],[],[],0⟩,⟨9,[2,3,4,5,6,7,8],[10,11,19],[],[],0⟩,⟨10,[2,3,4,5,6,7,8],[10,11,18,20,21],[3],[],0⟩,⟨11,[0,2,3,4,5,6,7,8,9],[11,19],[],[],0⟩,⟨12,[0,2,3,4,5,6,7,8,9,11],[11,19],[],[],0⟩,⟨13,[0,2,3,4,5,6,7,8,9,11,12],[11,19],[],[3],0⟩,⟨14,[0,1,2,3,4,5,6,7,8,9,10,11,12,13],[],[],[],0⟩,⟨15,[0,1,2,3,4,5,6,7,8,9,10,11,12,13,14],[],[],[],0⟩,⟨16,[0,1,2,3,4,5,6,7,8,9,10,11,12,13,14,15],[],[],[3],0⟩] ?_|refine zqD ?_|fail)
 all_goals first
  |((refine Ends.mk2 zqI [0] ?_;simp-dsimp(disch:=try exact vD) only[push_cast,simprocAttr,Tryz.f195];try exact zqF);done)
  |skip
theorem D7(h:ACall Tryz.prog 99 [.agg (aa.cells X),.agg (aa.cells Y)] [] 0 (.tup [.agg (aa.cells W),.val (.int .i64 0)]) [])(h2:ACall Tryz.prog 196 [.agg (aa.cells V),.agg (aa.cells W)] [] 0 (.tup [.agg (aa.cells V2),.val (.int .i64 0)]) []):
 ACall Tryz.prog 152 [.pt 0 0,.agg (aa.cells X),.agg (aa.cells Y)] [jR V] 1 (.tup []) [jR V2]:=by
 have h:=PLift.up h;have hs:=PLift.up (zP h2)
 clear h2
 rw[ay X,ay Y,ay W] at h
 rw[ay W] at hs
 rw[ay X,ay Y]
 unfold jR at*
 refine az Tryz.func152 Tryz.ntmps152 rfl ?_
 repeat' (first|refine zqN ?_|((first|refine ax rfl (fun K hK=>?_)|refine ak (fun K hK=>?_));(first|refine ah (f:=99) [] 0 false ?_|refine ah (f:=195) [0] 1 false ?_);refine nG ?_;(first|refine⟨_,_,h.down,?_⟩|refine⟨_,_,hs.down,?_⟩);refine j5 ?_;apply hK;clear hK K)|refine bA ?_|refine bB ?_|(refine bC ?_ ?_<;>intro hc<;>try exact zqM))
 all_goals first
  |((refine Ends.mk2 zqI [0] ?_;simp-dsimp(disch:=try exact vD) only[push_cast,simprocAttr,Tryz.f152];try exact zqF);done)
  |skip
abbrev wkA(cz:Bool)(a:Nat)(wr:List Nat)(n:Nat)(F R:RV)(cap:List RV)(m:Nat):List AV:=[.isl false [.val (.int .u16 (U a))] 1,.isl false (cX wr) n,.val (.bool F.num.neg),.isl F.num.z (cI .u32 F.num.l) F.num.l.length,.val (.bool F.den.neg),.isl F.den.z (cI .u32 F.den.l) F.den.l.length,
 .val (.bool R.num.neg),.isl R.num.z (cI .u32 R.num.l) R.num.l.length,.val (.bool R.den.neg),.isl R.den.z (cI .u32 R.den.l) R.den.l.length,.isl cz (cR cap) m]
def wtV(ONE ZERO F R:RV)(x y:Bool):RV:=if x then(if y then ONE else F) else if y then R else ZERO
theorem D8{x y:Bool}(hi:i<16)(hx:bit r i=x)(hy:bit s i=y)(h1:ACall Tryz.prog 97 [.val (.int .i64 1)] [] 0 (.agg (aa.cells ONE)) [])(h0:ACall Tryz.prog 97 [.val (.int .i64 0)] [] 0 (.agg (aa.cells ZERO)) []):
 ACall Tryz.prog 153 [.ipt (wkA cz a wr n F R cap m) 0,.val (.int .u16 (U r)),.val (.int .u16 (U s)),.val (.int .i64 i)] [] 0 (.agg (aa.cells (wtV ONE ZERO F R x y))) []:=by
 have h1:=PLift.up h1;have h0:=PLift.up h0
 rw[ay ONE] at h1;rw[ay ZERO] at h0
 rw[ay]
 unfold wkA
 cases x<;>cases y<;>simp only[wtV,if_true,if_false,Bool.false_eq_true]
 all_goals(refine az Tryz.func153 Tryz.ntmps153 rfl ?_)
 all_goals(have zx1:= @hx;have zx2:= @hy;have zx3:=aD;repeat' (first|(((first|refine ax rfl (fun K hK=>?_)|refine ak (fun K hK=>?_));apply abf;(simp-dsimp(disch:=try exact vD) only[push_cast,simprocAttr,]);(repeat refine aI ?_);apply hK;clear hK K))|refine zqN ?_|refine eG h1.down ?_|refine eG h0.down ?_|refine dx ?_|refine dz ?_|(refine dA ?_ ?_<;>intro hc<;>try exact zqM)|refine zqR 1 [⟨0,[],[9,11,15,16,17,18,19],[],[],0⟩,⟨1,[],[9,10,15,16,17,18,19],[],[],0⟩,⟨2,[0,1],[9,15,16,17,18,19],[],[],0⟩,⟨3,[0,1,2],[9,15,16,17,18,19],[],[],0⟩,⟨4,[0,1,2,3],[9,15,16,17,18,19],[],[],0⟩,⟨5,[],[9,10,11,12,13,14,16],[],[],0⟩,⟨6,[],[9,10,11,12,13,14,15],[],[],0⟩,⟨7,[5,6],[9,10,11,12,13,14],[],[],0⟩,⟨8,[5,6,7],[9,10,11,12,13,14],[],[],0⟩,⟨9,[5,6,7,8],[9,10,11,12,13,14],[],[],0⟩,⟨10,[0,1,2,3,4,5,6,7,8,9],[9],[],[],0⟩,⟨11,[],[10,11,12,13,14,15,16,17,18,19,20],[],[],1⟩,⟨12,[0,1,2,3,4,5,6,7,8,9,10,11],[],[],[2],0⟩] ?_|refine zqD ?_|fail))
 all_goals first
  |((refine Ends.mk2 zqI [] ?_;simp-dsimp(disch:=try exact vD) only[push_cast,simprocAttr,Tryz.f153];try exact zqF);done)
  |skip
structure Pr where
 a:Nat
 b:Nat
instance:Inhabited Pr:=⟨⟨0,0⟩⟩
instance:aa Pr 2:=⟨fun x=>[.val (.int .u16 (U x.a)),.val (.int .u16 (U x.b))],fun _=>rfl,fun _=>rfl,fun _=>rfl⟩
theorem P6(x:Pr):aa.cells x=[.val (.int .u16 (U x.a)),.val (.int .u16 (U x.b))]:=rfl
theorem adg(x:Pr):(aa.cells x)[0]? =some (.val (.int .u16 (U x.a))):=rfl
theorem adh(x:Pr):(aa.cells x)[1]? =some (.val (.int .u16 (U x.b))):=rfl
attribute [push_cast] P6 adg adh
def prL(a:Nat)(wr:List Nat):Nat→List Pr
 |0=>[]
 |j+1=>prL a wr j++[⟨a,wr.getD j default⟩]
theorem kr:(prL a wr j).length=j:=by
 induction j with
 |zero=>rfl
 |succ j ih=>simp[prL,ih]
theorem lJ:cR (prL a wr 1)=[.val (.int .u16 (U a)),.val (.int .u16 (U (wr.getD 0 default)))]:=rfl
theorem adi:cR (prL a wr j)++[.val (.int .u16 (U a)),.val (.int .u16 (U (wr.getD j default)))]=cR (prL a wr (j+1)):=by
 rw[prL,←uk];rfl
theorem o9(h:i<j):(prL a wr j).getD i default=⟨a,wr.getD i default⟩:=by
 induction j with
 |zero=>omega
 |succ j ih=>
  rw[prL,List.getD_eq_getElem?_getD]
  by_cases e:i<j
  ·rw[List.getElem?_append_left (by rw[kr];exact e),←List.getD_eq_getElem?_getD];exact ih e
  ·have:i=j:=by omega
   subst this
   rw[List.getElem?_append_right (by rw[kr];exact Nat.le_refl _),kr,Nat.sub_self];rfl
def paI(K:List AV)(a:Nat)(wr:List Nat)(n:Nat)(i:{i:Nat // i≤1}):St:=
 ⟨35,0,[(0,.ipt K 0),(3,gL (i.val*n) 0 2),(11,.isl false [.val (.int .u16 (U a))] 1),(12,.val (.int .i64 1)),(13,.val (.int .i64 i.val))],gM (i.val*n) 0 (cR (prL a wr n)) 164⟩
def paJ(K:List AV)(a:Nat)(wr:List Nat)(n:Nat)(j:{j:Nat // j≤n}):St:=
 ⟨35,0,[(0,.ipt K 0),(3,gL j.val 0 2),(5,.val (.int .u16 (U a))),(11,.isl false [.val (.int .u16 (U a))] 1),(12,.val (.int .i64 1)),(13,.val (.int .i64 0)),(20,.isl false (cX wr) n),(21,.val (.int .i64 n)),(22,.val (.int .i64 j.val))],gM j.val 0 (cR (prL a wr j.val)) 164⟩
theorem sM(hn:wr.length=n)(h0:0<n)(hb:n≤1000):ACall Tryz.prog 98 [.ipt (wkA cz a wr n F R cap m) 0] [] 0 (.sl 0 0 n 2) [.cells (cR (prL a wr n)) 164]:=by
 have e0:0*n=0:=Nat.zero_mul n
 have e1:1*n=n:=Nat.one_mul n
 have hlen:=fun(j:Nat)=>kr (a:=a) (wr:=wr) (j:=j)
 have hs:=fun(j:Nat)=>adi (a:=a) (wr:=wr) (j:=j)
 obtain⟨K,hK⟩:∃K,wkA cz a wr n F R cap m=K:=⟨_,rfl⟩
 have g0:K[0]? =some (.isl false [.val (.int .u16 (U a))] 1):=by rw[←hK];rfl
 have g1:K[1]? =some (.isl false (cX wr) n):=by rw[←hK];rfl
 rw[hK]
 clear hK
 have hsn:=ae
 refine az Tryz.func98 Tryz.ntmps98 rfl ?_
 repeat' (first|(refine ai ?_;refine au [0] ([0].length) (paJ K a wr n) (fun j=>n-j.val) (⟨0,by omega⟩) rfl (by unfold paJ;(try simp only[List.cons_append,List.nil_append]);refine Sub.mk2 ?_;(simp-dsimp(disch:=try exact vD) only[push_cast,simprocAttr,e0,e1,g0,g1,hsn,lJ,bg]);(repeat refine aI ?_);first|done|exact vI) ?_;(rintro⟨j,hj⟩;rcases Nat.lt_or_eq_of_le hj with hjl|hjl<;>first|(subst hjl;(simp-dsimp(disch:=try exact vD) only[push_cast,simprocAttr,paJ]))|(have hsn:=hs j;rcases Nat.eq_zero_or_pos j with j0|j0<;>first|(subst j0;(simp-dsimp(disch:=try exact vD) only[push_cast,simprocAttr,paJ]))|(simp-dsimp(disch:=try exact vD) only[push_cast,simprocAttr,paJ]))))|(refine aj ?_;refine Nxt.mk [2] (⟨j+1,by omega⟩) rfl (by unfold paJ;(try simp only[List.cons_append,List.nil_append]);refine Sub.mk2 ?_;(simp-dsimp(disch:=try exact vD) only[push_cast,simprocAttr,e0,e1,g0,g1,hsn,lJ,bg]);(repeat refine aI ?_);first|done|exact vI) (by first|omega|(dsimp only;omega)|(simp;done)|(simp;omega)))|(refine aj ?_;refine Nxt.mk [1] (⟨j+1,by omega⟩) rfl (by unfold paJ;(try simp only[List.cons_append,List.nil_append]);refine Sub.mk2 ?_;(simp-dsimp(disch:=try exact vD) only[push_cast,simprocAttr,e0,e1,g0,g1,hsn,lJ,bg]);(repeat refine aI ?_);first|done|exact vI) (by first|omega|(dsimp only;omega)|(simp;done)|(simp;omega)))|(refine aj ?_;refine Nxt.mk [0] (⟨j+1,by omega⟩) rfl (by unfold paJ;(try simp only[List.cons_append,List.nil_append]);refine Sub.mk2 ?_;(simp-dsimp(disch:=try exact vD) only[push_cast,simprocAttr,e0,e1,g0,g1,hsn,lJ,bg]);(repeat refine aI ?_);first|done|exact vI) (by first|omega|(dsimp only;omega)|(simp;done)|(simp;omega)))|(refine aj ?_;refine Nxt.mk [2] (⟨1,by omega⟩) rfl (by unfold paJ;(try simp only[List.cons_append,List.nil_append]);refine Sub.mk2 ?_;(simp-dsimp(disch:=try exact vD) only[push_cast,simprocAttr,e0,e1,g0,g1,hsn,lJ,bg]);(repeat refine aI ?_);first|done|exact vI) (by first|omega|(dsimp only;omega)|(simp;done)|(simp;omega)))|(refine aj ?_;refine Nxt.mk [1] (⟨1,by omega⟩) rfl (by unfold paJ;(try simp only[List.cons_append,List.nil_append]);refine Sub.mk2 ?_;(simp-dsimp(disch:=try exact vD) only[push_cast,simprocAttr,e0,e1,g0,g1,hsn,lJ,bg]);(repeat refine aI ?_);first|done|exact vI) (by first|omega|(dsimp only;omega)|(simp;done)|(simp;omega)))|(refine aj ?_;refine Nxt.mk [0] (⟨1,by omega⟩) rfl (by unfold paJ;(try simp only[List.cons_append,List.nil_append]);refine Sub.mk2 ?_;(simp-dsimp(disch:=try exact vD) only[push_cast,simprocAttr,e0,e1,g0,g1,hsn,lJ,bg]);(repeat refine aI ?_);first|done|exact vI) (by first|omega|(dsimp only;omega)|(simp;done)|(simp;omega)))|(refine ai ?_;refine au [0] ([0].length) (paI K a wr n) (fun i=>1-i.val) (⟨0,by omega⟩) rfl (by unfold paI;(try simp only[List.cons_append,List.nil_append]);refine Sub.mk2 ?_;(simp-dsimp(disch:=try exact vD) only[push_cast,simprocAttr,e0,e1,g0,g1,hsn,lJ,bg]);(repeat refine aI ?_);first|done|exact vI) ?_;(rintro⟨i,hi⟩;have hi2:i=0∨i=1:=(by omega);rcases hi2 with hi2|hi2<;>subst hi2<;>(simp-dsimp(disch:=try exact vD) only[push_cast,simprocAttr,paI])))|(refine aj ?_;refine Nxt.mk [0] (⟨1,by omega⟩) rfl (by unfold paI;(try simp only[List.cons_append,List.nil_append]);refine Sub.mk2 ?_;(simp-dsimp(disch:=try exact vD) only[push_cast,simprocAttr,e0,e1,g0,g1,hsn,lJ,bg]);(repeat refine aI ?_);first|done|exact vI) (by first|omega|(dsimp only;omega)|(simp;done)|(simp;omega)))|apply bZ|apply aB|((first|refine ax rfl (fun K hK=>?_)|refine ak (fun K hK=>?_));(first|apply bM|apply aR|apply bU|apply aO|apply dF|apply bi|apply bJ|apply fu|apply fP|apply bO|apply lC|apply iw|apply aP|apply dE|apply bS);simp-dsimp(disch:=try exact vD) only[push_cast,simprocAttr,e0,e1,g0,g1,hsn,lJ,bg];(repeat refine aI ?_);apply hK;clear hK K)|((first|refine ax rfl (fun K hK=>?_)|refine ak (fun K hK=>?_));(first|apply dV);simp-dsimp(disch:=try exact vD) only[push_cast,simprocAttr,e0,e1,g0,g1,hsn,lJ,bg];(repeat refine aI ?_);apply hK;clear hK K)|((first|refine ax rfl (fun K hK=>?_)|refine ak (fun K hK=>?_));(first|apply df);simp-dsimp(disch:=try exact vD) only[push_cast,simprocAttr,e0,e1,g0,g1,hsn,lJ,bg];(repeat refine aI ?_);apply hK;clear hK K)|((first|refine ax rfl (fun K hK=>?_)|refine ak (fun K hK=>?_));(first|apply cZ);simp-dsimp(disch:=try exact vD) only[push_cast,simprocAttr,e0,e1,g0,g1,hsn,lJ,bg];(repeat refine aI ?_);apply hK;clear hK K)|((first|refine aK rfl rfl (fun K1 K2 h1 h2=>?_) rfl|refine aF (fun K1 K2 h1 h2=>?_));simp-dsimp(disch:=try exact vD) only[push_cast,simprocAttr,e0,e1,g0,g1,hsn,lJ,bg];(first|(refine⟨fun hc=>?_,fun hc=>?_⟩<;>first|(exfalso;omega)|(exfalso;contradiction)|refine h1 ?_|refine h2 ?_)|refine h1 ?_|refine h2 ?_);all_goals clear h1 h2 K1 K2)|apply cu|apply aL|apply bH|apply aX|apply aM|apply bI|apply aY|(refine aQ rfl ?_)|apply aZ|apply bG|apply bF|apply bY)
 all_goals first
  |((refine Ends.mk2 (by first|exact .inr rfl|exact .inl rfl) [0] ?_;simp-dsimp(disch:=try exact vD) only[push_cast,simprocAttr,Tryz.f98];try exact zqF);done)
  |skip
