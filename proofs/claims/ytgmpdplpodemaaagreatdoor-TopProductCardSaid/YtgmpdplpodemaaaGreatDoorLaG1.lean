/- La1 Fa2 La2 La3 Fa5 La5 La4 La6 La7 Pw3 Pw9. No condition. -/
import Derived.Test.YtgmpdplpodemaaaGreatDoorLrG2
set_option linter.all false
set_option maxHeartbeats 4000000
set_option maxRecDepth 20000
namespace Go.Proofs.YtgmpdplpodemaaaGreatDoor
section
open Go Go.Sy Go.Bp Go.Lm Go.Rt
attribute [local irreducible] AO AL AC OpT ACall Ends DGo aK Thn Blk Nxt
variable {n N M k i m j:Nat} {z z':Bool} {v s c e:Int} {A B C P Q:IV} {p q:Rat} {X Y W:RV}
theorem Og(v1:ACall Tryz.prog 102 [.agg (aa.cells X)] [] 0 (.val (.bool true)) [])(v2:ACall Tryz.prog 102 [.agg (aa.cells Y)] [] 0 (.val (.bool true)) [])(hs:ACall Tryz.prog 138 [.agg (aa.cells Y.num)] [] 0 (.val (.int .i64 s)) [])(hs0:¬s=0)
 (hq:ACall Tryz.prog 139 [.agg (aa.cells X.num),.agg (aa.cells Y.den),.agg (aa.cells X.den),.agg (aa.cells Y.num)] [] 0 (.tup [.agg (aa.cells W),.val (.int .i64 e)]) []):
 ACall Tryz.prog 96 [.agg (aa.cells X),.agg (aa.cells Y)] [] 0 (.tup [.agg (aa.cells W),.val (.int .i64 e)]) []:=by
 have v1:=PLift.up v1;have v2:=PLift.up v2;have hq:=PLift.up hq;have hs:=PLift.up hs
 rw[ax X,ax Y]
 refine az Tryz.func96 Tryz.ntmps96 rfl ?_
 have zx1:= @hs0;have zx2:=aA;have zx3:=aA;repeat' (first|refine zqN ?_|refine eG v1.down ?_|refine eG v2.down ?_|refine eG hs.down ?_|refine eG hq.down ?_|refine dm ?_|refine dn ?_|(refine dw ?_ ?_<;>intro hc<;>try exact zqM))
 all_goals exact aB []
theorem aha:p/q=Rat.divInt (p.num*q.den) (p.den*q.num):=by
 by_cases h:q.num=0
 ·have:q=0:=Rat.num_eq_zero.1 h
  subst this
  rw[h,Int.mul_zero,Rat.divInt_zero,Rat.div_def,Rat.inv_zero,Rat.mul_zero]
 ·have h1:=Rat.num_divInt_den p
  have h2:=Rat.num_divInt_den q
  rw[Rat.divInt_eq_div] at h1 h2
  have a:((p.den:Int):Rat)≠0:=by have:=p.den_nz;exact_mod_cast this
  have b:((q.den:Int):Rat)≠0:=by have:=q.den_nz;exact_mod_cast this
  have c:((q.num:Int):Rat)≠0:=by exact_mod_cast h
  rw[Rat.divInt_eq_div,Rat.intCast_mul,Rat.intCast_mul]
  conv=>lhs;rw[<-h1,<-h2]
  have e1:((p.den:Nat):Rat)=((p.den:Int):Rat):=rfl
  have e2:((q.den:Nat):Rat)=((q.den:Int):Rat):=rfl
  grind
theorem divS(h:SmZ z p)(h2:SmZ z' q)(hq:¬q=0):ACall Tryz.prog 96 [.agg (aa.cells (rQ z p)),.agg (aa.cells (rQ z' q))] [] 0 (.tup [.agg (aa.cells (rC (p/q))),.val (.int .i64 0)]) []:=by
 have hqn:¬q.num=0:=λh=>hq (Rat.num_eq_zero.1 h)
 have d1:D300 (p.num*q.den):=Ad (by
  have a:=mH h.s.1 h2.s.2
  rw[Int.natAbs_mul,Int.natAbs_natCast]
  generalize(10:Nat)^280=T at*
  omega)
 have d2:D300 (p.den*q.num):=Ad (by
  have a:=mH h.s.2 h2.s.1
  rw[Int.natAbs_mul,Int.natAbs_natCast]
  generalize(10:Nat)^280=T at*
  omega)
 rw[aha]
 refine Og (jU h.ok) (jU h2.ok) (qc h2.ok.n.d) (by unfold sgn;repeat' split<;>omega) (rY (nE h.ok.n.d h2.ok.d d1) (nE h.ok.d h2.ok.n.d d2) (mG (IOk.of d1) (IOk.of d2) ?_))
 have:=p.den_nz
 exact λhc=>by rcases Int.mul_eq_zero.1 hc with h|h<;>omega
theorem JB(h:ACall Tryz.prog 176 [.val (.int .i64 1)] [] 0 (.agg (aa.cells A)) []):ACall Tryz.prog 131 [] [] 0 (.agg (aa.cells (⟨⟨true,false,[]⟩,A⟩:RV))) []:=by
 have h:=PLift.up h
 rw[ax]
 refine az Tryz.func131 Tryz.ntmps131 rfl ?_
 repeat' (first|refine zqN ?_|refine aM h.down ?_|refine aY ?_|refine aZ ?_|(refine bf ?_ ?_<;>intro hc<;>try exact zqM))
 all_goals exact aB []
theorem uV:ACall Tryz.prog 131 [] [] 0 (.agg (aa.cells (rC 0))) []:=JB (wy (v:=1) (by decide) (by decide))
theorem Oh(h:ACall Tryz.prog 176 [.val (.int .i64 1)] [] 0 (.agg (aa.cells A)) []):ACall Tryz.prog 171 [] [] 0 (.agg (aa.cells (⟨A,A⟩:RV))) []:=by
 have h:=PLift.up h
 rw[ax]
 refine az Tryz.func171 Tryz.ntmps171 rfl ?_
 repeat' (first|refine zqN ?_|refine aM h.down ?_|refine aY ?_|refine aZ ?_|(refine bf ?_ ?_<;>intro hc<;>try exact zqM))
 all_goals exact aB []
theorem LC:ACall Tryz.prog 171 [] [] 0 (.agg (aa.cells (rC 1))) []:=Oh (wy (v:=1) (by decide) (by decide))
theorem JC(h:ACall Tryz.prog 138 [.agg (aa.cells X.num)] [] 0 (.val (.int .i64 s)) []):ACall Tryz.prog 170 [.agg (aa.cells X)] [] 0 (.val (.int .i64 s)) []:=by
 have h:=PLift.up h
 rw[ax X]
 refine az Tryz.func170 Tryz.ntmps170 rfl ?_
 repeat' (first|refine zqN ?_|refine aM h.down ?_|refine aY ?_|refine aZ ?_|(refine bf ?_ ?_<;>intro hc<;>try exact zqM))
 all_goals exact aB []
theorem jV(h:Sm q):ACall Tryz.prog 170 [.agg (aa.cells (rC q))] [] 0 (.val (.int .i64 (sgn q.num))) []:=by
 rw[mF]
 exact JC (qc (DK h).1)
theorem ahb(h:ACall Tryz.prog 170 [.agg (aa.cells X)] [] 0 (.val (.int .i64 0)) []):ACall Tryz.prog 172 [.agg (aa.cells X)] [] 0 (.agg (aa.cells X)) []:=by
 have h:=PLift.up h
 rw[ax X]
 refine az Tryz.func172 Tryz.ntmps172 rfl ?_
 repeat' (first|refine zqN ?_|refine aM h.down ?_|refine aY ?_|refine aZ ?_|(refine bf ?_ ?_<;>intro hc<;>try exact zqM))
 all_goals exact aB []
theorem ahc(h:ACall Tryz.prog 170 [.agg (aa.cells X)] [] 0 (.val (.int .i64 s)) [])(hs:¬s=0):ACall Tryz.prog 172 [.agg (aa.cells X)] [] 0 (.agg (aa.cells (⟨⟨X.num.z,!X.num.neg,X.num.l⟩,X.den⟩:RV))) []:=by
 have h:=PLift.up h
 rw[ax X,ax]
 refine az Tryz.func172 Tryz.ntmps172 rfl ?_
 have zx1:= @hs;have zx2:=aA;have zx3:=aA;repeat' (first|refine zqN ?_|refine eG h.down ?_|refine dm ?_|refine dn ?_|(refine dw ?_ ?_<;>intro hc<;>try exact zqM))
 all_goals exact aB []
theorem LF(h:Sm q):ACall Tryz.prog 172 [.agg (aa.cells (rC q))] [] 0 (.agg (aa.cells (rC (-q)))) []:=by
 by_cases h0:q.num=0
 ·have e:q=0:=Rat.num_eq_zero.1 h0
  subst e
  exact ahb (jV h)
 ·have h1:=ahc (jV h) (by unfold sgn;repeat' split<;>omega)
  have e:(⟨⟨(rC q).num.z,!(rC q).num.neg,(rC q).num.l⟩,(rC q).den⟩:RV)=rC (-q):=by
   unfold rC iC iV
   rw[Rat.neg_num,Rat.neg_den,Int.natAbs_neg]
   have a:(decide (-q.num<0))= !(decide (q.num<0)):=by
    by_cases hn:q.num<0
    ·rw[decide_eq_true hn,decide_eq_false omgz];rfl
    ·rw[decide_eq_false hn,decide_eq_true omgz];rfl
   simp[a,h0]
   refine⟨?_,?_⟩
   ·rw[show(q.num==0)=false from beq_eq_false_iff_ne.2 h0,show(-q.num==0)=false from beq_eq_false_iff_ne.2 omgz]
   ·by_cases hn:q.num<0
    ·rw[decide_eq_true hn,decide_eq_false omgz];rfl
    ·rw[decide_eq_false hn,decide_eq_true omgz];rfl
  rw[e] at h1;exact h1
theorem JD(h:ACall Tryz.prog 140 [.val (.int .i64 v),.val (.int .i64 1)] [] 0 (.tup [.agg (aa.cells X),.val (.int .i64 0)]) []):ACall Tryz.prog 97 [.val (.int .i64 v)] [] 0 (.agg (aa.cells X)) []:=by
 have h:=PLift.up h
 refine az Tryz.func97 Tryz.ntmps97 rfl ?_
 repeat' (first|refine zqN ?_|refine aM h.down ?_|refine aY ?_|refine aZ ?_|(refine bf ?_ ?_<;>intro hc<;>try exact zqM))
 all_goals exact aB []
theorem Gd(h:I64 v):ACall Tryz.prog 97 [.val (.int .i64 v)] [] 0 (.agg (aa.cells (rC (v:Rat)))) []:=by
 have:=ajR (b:=1) h (by decide) (by decide)
 rw[Ua] at this
 exact JD this
theorem Bg(h:ACall Tryz.prog 141 [.agg (aa.cells X),.agg (aa.cells Y)] [] 0 (.tup [.val (.int .i64 c),.val (.int .i64 0)]) []):ACall Tryz.prog 100 [.agg (aa.cells X),.agg (aa.cells Y)] [] 0 (.val (.int .i64 c)) []:=by
 have h:=PLift.up h
 rw[ax X,ax Y]
 refine az Tryz.func100 Tryz.ntmps100 rfl ?_
 repeat' (first|refine zqN ?_|refine aM h.down ?_|refine aY ?_|refine aZ ?_|(refine bf ?_ ?_<;>intro hc<;>try exact zqM))
 all_goals exact aB []
theorem Gf(h:ACall Tryz.prog 141 [.agg (aa.cells X),.agg (aa.cells Y)] [] 0 (.tup [.val (.int .i64 c),.val (.int .i64 0)]) []):ACall Tryz.prog 105 [.agg (aa.cells X),.agg (aa.cells Y)] [] 0 (.val (.bool (decide (0<=c)))) []:=by
 have h:=PLift.up h
 rw[ax X,ax Y]
 refine az Tryz.func105 Tryz.ntmps105 rfl ?_
 repeat' (first|refine zqN ?_|refine aM h.down ?_|refine aY ?_|refine aZ ?_|(refine bf ?_ ?_<;>intro hc<;>try exact zqM))
 all_goals exact aB []
theorem cmpS(h:SmZ z p)(h2:SmZ z' q):ACall Tryz.prog 141 [.agg (aa.cells (rQ z p)),.agg (aa.cells (rQ z' q))] [] 0 (.tup [.val (.int .i64 (fE (p.num*q.den) (q.num*p.den))),.val (.int .i64 0)]) []:=
 ZY h.ok h2.ok (wD h.s h2.s).x (wD h.s h2.s).y
end
section
open Go Go.Sy Go.Bp Go.Lm Go.Rt
attribute [local irreducible] AO AL AC OpT ACall Ends DGo aK Thn Blk Nxt
variable {n N M k i m j r T:Nat} {z z' neg:Bool} {xs ys:List RV} {X:RV} {e:Int}
theorem Gg(hn:xs.length=n)(hb:n<=100000):ACall Tryz.prog 132 [.isl false (cR xs) n] [] 0 (.sl 0 0 n 4) [.cells (cR xs) 60]:=by
 refine az Tryz.func132 Tryz.ntmps132 rfl ?_
 repeat' (first|refine zqN ?_|refine aY ?_|refine mf ?_|refine mW ?_|refine mY ?_|refine aZ ?_|(refine bf ?_ ?_<;>intro hc<;>try exact zqM))
 all_goals exact aB [1]
theorem Oi(hn:xs.length=n)(hb:n<=100000):ACall Tryz.prog 132 [.isl false (cR xs) n] [] 0 (.isl false (cR xs) n) []:=by
 refine az Tryz.func132 Tryz.ntmps132 rfl ?_
 repeat' (first|refine zqN ?_|refine aY ?_|refine mf ?_|refine mW ?_|refine mY ?_|refine aZ ?_|(refine bf ?_ ?_<;>intro hc<;>try exact zqM))
 all_goals((refine Ends.frz 1 ?_;simp-dsimp(disch:=try exact vD) only[push_cast,simprocAttr,Tryz.f132];(repeat refine aI ?_);intro K hK;refine hK _ _ ?_;clear hK K);refine Ends.mk2 zqI [] ?_;simp-dsimp(disch:=try exact vD) only[push_cast,simprocAttr,Tryz.f132];try exact zqF)
structure RL where
 z:Bool
 l:List RV
instance:Inhabited RL:=⟨⟨true,[]⟩⟩
instance:vw RL:=⟨λa=> .isl a.z (cR a.l) a.l.length,λ_=>rfl,λ_=>rfl⟩
theorem lq(a:RL):vw.c a= .isl a.z (cR a.l) a.l.length:=rfl
variable {ss:List RL}
end
section
open Go Go.Sy Go.Bp Go.Lm Go.Rt
instance:TB2 Tryz.prog 242:=⟨⟨4,Tryz.underlying242,by kernel_rfl,Tryz.underlying4⟩,by kernel_rfl⟩
attribute [local irreducible] AO AL AC OpT ACall Ends DGo aK Thn Blk Nxt
variable {n N M k i m j r s a:Nat} {z z' cz:Bool} {v c e:Int} {X Y W V V2 F R ZERO ONE:RV} {wr:List Nat} {cap:List RV}
abbrev kZ(V:RV):aC:= .cells [.val (.bool V.num.neg),.isl V.num.z (cI .u32 V.num.l) V.num.l.length,.val (.bool V.den.neg),.isl V.den.z (cI .u32 V.den.l) V.den.l.length,.val (.int .i64 0)] 216
theorem Gm(h:ACall Tryz.prog 97 [.val (.int .i64 0)] [] 0 (.agg (aa.cells X)) []):ACall Tryz.prog 151 [] [] 0 (.pt 0 0) [kZ X]:=by
 have h:=PLift.up h
 rw[ax X] at h
 unfold kZ
 refine az Tryz.func151 Tryz.ntmps151 rfl ?_
 repeat' (first|refine zqN ?_|refine aM h.down ?_|refine aY ?_|refine aZ ?_|(refine bf ?_ ?_<;>intro hc<;>try exact zqM))
 all_goals exact aB [0]
theorem Cg(h:ACall Tryz.prog 196 [.agg (aa.cells V),.agg (aa.cells Y)] [] 0 (.tup [.agg (aa.cells W),.val (.int .i64 0)]) []):ACall Tryz.prog 195 [.pt 0 0,.agg (aa.cells Y)] [kZ V] 1 (.tup []) [kZ W]:=by
 have h:=PLift.up h
 rw[ax V,ax Y,ax W] at h
 rw[ax Y]
 unfold kZ
 refine az Tryz.func195 Tryz.ntmps195 rfl ?_
 repeat' (first|(((refine l8 (Q:=λe _ s=>Go.Sy.Ends _ _ _ _ _ _ e s) (by kernel_rfl) (λK hK=>?_));simp only[↓gL,↓gM,↓iN,↓gN,↓iO,↓fO,↓gQ,push_cast,Nat.reduceLeDiff,Nat.reduceSub,Nat.reduceBEq,Nat.reduceEqDiff,Nat.reduceAdd,Nat.reduceLT,↓reduceIte,reduceCtorEq];refine hK _ _ _ ?_;clear hK K))|refine zqN ?_|refine aM h.down ?_|refine aY ?_|refine aZ ?_|(refine bf ?_ ?_<;>intro hc<;>try exact zqM)|refine zqR [(2,13,[3],0),(2,16,[3],0)] ?_|refine zqD ?_|fail)
 all_goals exact aB [0]
theorem Gn(h:ACall Tryz.prog 99 [.agg (aa.cells X),.agg (aa.cells Y)] [] 0 (.tup [.agg (aa.cells W),.val (.int .i64 0)]) [])(h2:ACall Tryz.prog 196 [.agg (aa.cells V),.agg (aa.cells W)] [] 0 (.tup [.agg (aa.cells V2),.val (.int .i64 0)]) []):
 ACall Tryz.prog 152 [.pt 0 0,.agg (aa.cells X),.agg (aa.cells Y)] [kZ V] 1 (.tup []) [kZ V2]:=by
 have h:=PLift.up h;have hs:=PLift.up (Cg h2)
 clear h2
 rw[ax X,ax Y,ax W] at h
 rw[ax W] at hs
 rw[ax X,ax Y]
 unfold kZ at*
 refine az Tryz.func152 Tryz.ntmps152 rfl ?_
 repeat' (first|refine zqN ?_|((first|refine ay rfl (λK hK=>?_)|refine au (λK hK=>?_));(first|refine ai (f:=99) [] 0 false ?_|refine ai (f:=195) [0] 1 false ?_);refine mg ?_;(first|refine⟨_,_,h.down,?_⟩|refine⟨_,_,hs.down,?_⟩);refine jo ?_;apply hK;clear hK K)|refine aY ?_|refine aZ ?_|(refine bf ?_ ?_<;>intro hc<;>try exact zqM))
 all_goals exact aB [0]
abbrev wkA(cz:Bool)(a:Nat)(wr:List Nat)(n:Nat)(F R:RV)(cap:List RV)(m:Nat):List AV:=[.isl false [.val (.int .u16 (U a))] 1,.isl false (cX wr) n,.val (.bool F.num.neg),.isl F.num.z (cI .u32 F.num.l) F.num.l.length,.val (.bool F.den.neg),.isl F.den.z (cI .u32 F.den.l) F.den.l.length,
 .val (.bool R.num.neg),.isl R.num.z (cI .u32 R.num.l) R.num.l.length,.val (.bool R.den.neg),.isl R.den.z (cI .u32 R.den.l) R.den.l.length,.isl cz (cR cap) m]
def wtV(ONE ZERO F R:RV)(x y:Bool):RV:=if x then(if y then ONE else F) else if y then R else ZERO
theorem Gq{x y:Bool}(hi:i<16)(hx:bit r i=x)(hy:bit s i=y)(h1:ACall Tryz.prog 97 [.val (.int .i64 1)] [] 0 (.agg (aa.cells ONE)) [])(h0:ACall Tryz.prog 97 [.val (.int .i64 0)] [] 0 (.agg (aa.cells ZERO)) []):
 ACall Tryz.prog 153 [.ipt (wkA cz a wr n F R cap m) 0,.val (.int .u16 (U r)),.val (.int .u16 (U s)),.val (.int .i64 i)] [] 0 (.agg (aa.cells (wtV ONE ZERO F R x y))) []:=by
 have h1:=PLift.up h1;have h0:=PLift.up h0
 rw[ax ONE] at h1;rw[ax ZERO] at h0
 rw[ax]
 unfold wkA
 cases x<;>cases y<;>simp only[wtV,if_true,if_false,Bool.false_eq_true]
 all_goals(refine az Tryz.func153 Tryz.ntmps153 rfl ?_)
 all_goals(have zx1:= @hx;have zx2:= @hy;have zx3:=aA;repeat' (first|(((first|refine ay rfl (λK hK=>?_)|refine au (λK hK=>?_));apply ahf;(simp-dsimp(disch:=try exact vD) only[push_cast,simprocAttr,]);(repeat refine aI ?_);apply hK;clear hK K))|refine zqN ?_|refine eG h1.down ?_|refine eG h0.down ?_|refine dm ?_|refine dn ?_|(refine dw ?_ ?_<;>intro hc<;>try exact zqM)|refine zqR [(1,11,[],1),(1,12,[2],0)] ?_|refine zqD ?_|fail))
 all_goals exact aB []
structure Pr where
 a:Nat
 b:Nat
instance:Inhabited Pr:=⟨⟨0,0⟩⟩
instance:aa Pr 2:=⟨λx=>[.val (.int .u16 (U x.a)),.val (.int .u16 (U x.b))],λ_=>rfl,λ_=>rfl,λ_=>rfl⟩
theorem Uf(x:Pr):aa.cells x=[.val (.int .u16 (U x.a)),.val (.int .u16 (U x.b))]:=rfl
theorem ajT(x:Pr):(aa.cells x)[0]? =some (.val (.int .u16 (U x.a))):=rfl
theorem ajU(x:Pr):(aa.cells x)[1]? =some (.val (.int .u16 (U x.b))):=rfl
attribute [push_cast] Uf ajT ajU
def prL(a:Nat)(wr:List Nat):Nat->List Pr
 |0=>[]
 |j+1=>prL a wr j++[⟨a,wr.getD j default⟩]
theorem lJ:(prL a wr j).length=j:=by
 induction j with
 |zero=>rfl
 |succ j ih=>simp[prL,ih]
theorem nG:cR (prL a wr 1)=[.val (.int .u16 (U a)),.val (.int .u16 (U (wr.getD 0 default)))]:=rfl
theorem ajV:cR (prL a wr j)++[.val (.int .u16 (U a)),.val (.int .u16 (U (wr.getD j default)))]=cR (prL a wr (j+1)):=by
 rw[prL,<-vS];rfl
theorem ru(h:i<j):(prL a wr j).getD i default=⟨a,wr.getD i default⟩:=by
 induction j with
 |zero=>omega
 |succ j ih=>
  rw[prL,List.getD_eq_getElem?_getD]
  by_cases e:i<j
  ·rw[List.getElem?_append_left (by rw[lJ];exact e),<-List.getD_eq_getElem?_getD];exact ih e
  ·have:i=j:=by omega
   subst this
   rw[List.getElem?_append_right (by rw[lJ];exact Nat.le_refl _),lJ,Nat.sub_self];rfl
def paI(K:List AV)(a:Nat)(wr:List Nat)(n:Nat)(i:{i:Nat // i<=1}):St:=
 ⟨35,0,[(0,.ipt K 0),(3,fw (i.val*n) 0 2),(11,.isl false [.val (.int .u16 (U a))] 1),(12,.val (.int .i64 1)),(13,.val (.int .i64 i.val))],fA (i.val*n) 0 (cR (prL a wr n)) 164⟩
def paJ(K:List AV)(a:Nat)(wr:List Nat)(n:Nat)(j:{j:Nat // j<=n}):St:=
 ⟨35,0,[(0,.ipt K 0),(3,fw j.val 0 2),(5,.val (.int .u16 (U a))),(11,.isl false [.val (.int .u16 (U a))] 1),(12,.val (.int .i64 1)),(13,.val (.int .i64 0)),(20,.isl false (cX wr) n),(21,.val (.int .i64 n)),(22,.val (.int .i64 j.val))],fA j.val 0 (cR (prL a wr j.val)) 164⟩
theorem uW(hn:wr.length=n)(h0:0<n)(hb:n<=1000):ACall Tryz.prog 98 [.ipt (wkA cz a wr n F R cap m) 0] [] 0 (.sl 0 0 n 2) [.cells (cR (prL a wr n)) 164]:=by
 have e0:0*n=0:=Nat.zero_mul n
 have e1:1*n=n:=Nat.one_mul n
 have hlen:=λ(j:Nat)=>lJ (a:=a) (wr:=wr) (j:=j)
 have hs:=λ(j:Nat)=>ajV (a:=a) (wr:=wr) (j:=j)
 obtain⟨K,hK⟩:∃K,wkA cz a wr n F R cap m=K:=⟨_,rfl⟩
 have g0:K[0]? =some (.isl false [.val (.int .u16 (U a))] 1):=by rw[<-hK];rfl
 have g1:K[1]? =some (.isl false (cX wr) n):=by rw[<-hK];rfl
 rw[hK]
 clear hK
 have hsn:=ae
 refine az Tryz.func98 Tryz.ntmps98 rfl ?_
 repeat' (first|(refine ah ?_;refine ak [0] ([0].length) (paJ K a wr n) (λj=>n-j.val) (⟨0,omgz⟩) rfl (by unfold paJ;(try simp only[List.cons_append,List.nil_append]);refine Sub.mk2 ?_;(simp-dsimp(disch:=try exact vD) only[push_cast,simprocAttr,e0,e1,g0,g1,hsn,nG,bC]);(repeat refine aI ?_);first|done|exact vI) ?_;(rintro⟨j,hj⟩;rcases Nat.lt_or_eq_of_le hj with hjl|hjl<;>first|(subst hjl;(simp-dsimp(disch:=try exact vD) only[push_cast,simprocAttr,paJ]))|(have hsn:=hs j;rcases Nat.eq_zero_or_pos j with j0|j0<;>first|(subst j0;(simp-dsimp(disch:=try exact vD) only[push_cast,simprocAttr,paJ]))|(simp-dsimp(disch:=try exact vD) only[push_cast,simprocAttr,paJ]))))|(refine aj ?_;refine Nxt.mk [2] (⟨j+1,omgz⟩) rfl (by unfold paJ;(try simp only[List.cons_append,List.nil_append]);refine Sub.mk2 ?_;(simp-dsimp(disch:=try exact vD) only[push_cast,simprocAttr,e0,e1,g0,g1,hsn,nG,bC]);(repeat refine aI ?_);first|done|exact vI) (by first|omega|(dsimp only;omega)|(simp;done)|(simp;omega)))|(refine aj ?_;refine Nxt.mk [1] (⟨j+1,omgz⟩) rfl (by unfold paJ;(try simp only[List.cons_append,List.nil_append]);refine Sub.mk2 ?_;(simp-dsimp(disch:=try exact vD) only[push_cast,simprocAttr,e0,e1,g0,g1,hsn,nG,bC]);(repeat refine aI ?_);first|done|exact vI) (by first|omega|(dsimp only;omega)|(simp;done)|(simp;omega)))|(refine aj ?_;refine Nxt.mk [0] (⟨j+1,omgz⟩) rfl (by unfold paJ;(try simp only[List.cons_append,List.nil_append]);refine Sub.mk2 ?_;(simp-dsimp(disch:=try exact vD) only[push_cast,simprocAttr,e0,e1,g0,g1,hsn,nG,bC]);(repeat refine aI ?_);first|done|exact vI) (by first|omega|(dsimp only;omega)|(simp;done)|(simp;omega)))|(refine aj ?_;refine Nxt.mk [2] (⟨1,omgz⟩) rfl (by unfold paJ;(try simp only[List.cons_append,List.nil_append]);refine Sub.mk2 ?_;(simp-dsimp(disch:=try exact vD) only[push_cast,simprocAttr,e0,e1,g0,g1,hsn,nG,bC]);(repeat refine aI ?_);first|done|exact vI) (by first|omega|(dsimp only;omega)|(simp;done)|(simp;omega)))|(refine aj ?_;refine Nxt.mk [1] (⟨1,omgz⟩) rfl (by unfold paJ;(try simp only[List.cons_append,List.nil_append]);refine Sub.mk2 ?_;(simp-dsimp(disch:=try exact vD) only[push_cast,simprocAttr,e0,e1,g0,g1,hsn,nG,bC]);(repeat refine aI ?_);first|done|exact vI) (by first|omega|(dsimp only;omega)|(simp;done)|(simp;omega)))|(refine aj ?_;refine Nxt.mk [0] (⟨1,omgz⟩) rfl (by unfold paJ;(try simp only[List.cons_append,List.nil_append]);refine Sub.mk2 ?_;(simp-dsimp(disch:=try exact vD) only[push_cast,simprocAttr,e0,e1,g0,g1,hsn,nG,bC]);(repeat refine aI ?_);first|done|exact vI) (by first|omega|(dsimp only;omega)|(simp;done)|(simp;omega)))|(refine ah ?_;refine ak [0] ([0].length) (paI K a wr n) (λi=>1-i.val) (⟨0,omgz⟩) rfl (by unfold paI;(try simp only[List.cons_append,List.nil_append]);refine Sub.mk2 ?_;(simp-dsimp(disch:=try exact vD) only[push_cast,simprocAttr,e0,e1,g0,g1,hsn,nG,bC]);(repeat refine aI ?_);first|done|exact vI) ?_;(rintro⟨i,hi⟩;have hi2:i=0\/i=1:=omgz;rcases hi2 with hi2|hi2<;>subst hi2<;>(simp-dsimp(disch:=try exact vD) only[push_cast,simprocAttr,paI])))|(refine aj ?_;refine Nxt.mk [0] (⟨1,omgz⟩) rfl (by unfold paI;(try simp only[List.cons_append,List.nil_append]);refine Sub.mk2 ?_;(simp-dsimp(disch:=try exact vD) only[push_cast,simprocAttr,e0,e1,g0,g1,hsn,nG,bC]);(repeat refine aI ?_);first|done|exact vI) (by first|omega|(dsimp only;omega)|(simp;done)|(simp;omega)))|apply dU|apply aJ|((first|refine ay rfl (λK hK=>?_)|refine au (λK hK=>?_));(first|apply cZ|apply aX|apply dz|apply aR|apply bD|apply bE|apply bO|apply fM|apply iI|apply dh|apply kN|apply gH|apply aV|apply eH|apply dH);simp-dsimp(disch:=try exact vD) only[push_cast,simprocAttr,e0,e1,g0,g1,hsn,nG,bC];(repeat refine aI ?_);apply hK;clear hK K)|((first|refine ay rfl (λK hK=>?_)|refine au (λK hK=>?_));(first|apply gz);simp-dsimp(disch:=try exact vD) only[push_cast,simprocAttr,e0,e1,g0,g1,hsn,nG,bC];(repeat refine aI ?_);apply hK;clear hK K)|((first|refine ay rfl (λK hK=>?_)|refine au (λK hK=>?_));(first|apply d9);simp-dsimp(disch:=try exact vD) only[push_cast,simprocAttr,e0,e1,g0,g1,hsn,nG,bC];(repeat refine aI ?_);apply hK;clear hK K)|((first|refine ay rfl (λK hK=>?_)|refine au (λK hK=>?_));(first|apply dZ);simp-dsimp(disch:=try exact vD) only[push_cast,simprocAttr,e0,e1,g0,g1,hsn,nG,bC];(repeat refine aI ?_);apply hK;clear hK K)|((first|refine aN rfl rfl (λK1 K2 h1 h2=>?_) rfl|refine aL (λK1 K2 h1 h2=>?_));simp-dsimp(disch:=try exact vD) only[push_cast,simprocAttr,e0,e1,g0,g1,hsn,nG,bC];(first|(refine⟨λhc=>?_,λhc=>?_⟩<;>first|(exfalso;omega)|(exfalso;contradiction)|refine h1 ?_|refine h2 ?_)|refine h1 ?_|refine h2 ?_);all_goals clear h1 h2 K1 K2)|apply dV|apply aT|apply cu|apply bG|apply aU|apply cK|apply bH|(refine bu rfl ?_)|apply bI|apply bZ|apply bY|apply dS)
 all_goals exact aB [0]
end
section
open Go Go.Sy Go.Bp Go.Lm Go.Rt
attribute [local irreducible] AO AL AC OpT ACall Ends DGo aK Thn Blk Nxt
variable {n N M k i m j r s a sr sw:Nat} {z z' cz:Bool} {v c e c0 c1:Int} {X Y W V V2 F R ZERO ONE:RV} {wr:List Nat} {cap xs:List RV} {p:RV->Bool} {K:List AV}
def Z4(z:Bool)(F:Nat)(p:RV->Bool)(xs:List RV)(n:Nat)(j:{j:Nat // j<=n/\∀i,i<j->p (xs.getD i default)=false}):St:=
 ⟨19,0,[(0,.isl z (cR xs) n),(1,.fn F []),(7,.val (.int .i64 n)),(8,.val (.int .i64 j.val))],[]⟩
theorem Gr{F:FuncId} [eU Tryz.prog F](p:RV->Bool)(hl:xs.length=n)(hn:n<=10000)(hf:∀j,j<n->ACall Tryz.prog F [.agg (aa.cells (xs.getD j default))] [] 0 (.val (.bool (p (xs.getD j default)))) []):
 ACall Tryz.prog 177 [.isl z (cR xs) n,.fn F []] [] 0 (.val (.int .i64 (ix p xs))) []:=by
 have hq:=λ(j:Nat) (h:j<n)=>PLift.up (hf j h)
 clear hf
 refine az Tryz.func177 Tryz.ntmps177 rfl ?_
 repeat' (first|(refine ah ?_;refine ak [] ([].length) (Z4 z F p xs n) (λj=>n-j.val) (⟨0,omgz,λi hi=>absurd hi omgz⟩) rfl (by unfold Z4;exact jZ) ?_;(rintro⟨j,hj,hnb⟩;(simp-dsimp only[Z4];refine zqS ?_)))|(refine aj ?_;refine Nxt.mk [] (⟨j+1,omgz,kW hnb (by assumption)⟩) rfl (by unfold Z4;exact jZ) zqO)|refine zqN ?_|((first|refine ay rfl (λK hK=>?_)|refine au (λK hK=>?_));(first|refine gq (f:=F) [] 0 false ?_);refine mg ?_;(first|refine⟨_,_,(hq j omgz).down,?_⟩);refine jo ?_;apply hK;clear hK K)|refine aY ?_|refine aZ ?_|(refine bf ?_ ?_<;>intro hc<;>try exact zqM))
 all_goals first
  |(have e:ix p xs=j:=oD omgz hnb (by assumption);exact fu [] @e;done)
  |(have ej:j=n:=omgz;subst ej;subst hl;have e:ix p xs= -1:=lG hnb;exact fu [] @e;done)
  |skip
theorem wE{F:FuncId} [eU Tryz.prog F](p:RV->Bool)(hl:xs.length=n)(hn:n<=10000)(hf:∀j,j<n->ACall Tryz.prog F [.agg (aa.cells (xs.getD j default))] [] 0 (.val (.bool (p (xs.getD j default)))) []):
 ACall Tryz.prog 134 [.isl z (cR xs) n,.fn F []] [] 0 (.val (.bool (xs.any p))) []:=by
 refine az Tryz.func134 Tryz.ntmps134 rfl ?_
 have zx1:= @jh;have zx2:=aA;have zx3:=aA;repeat' (first|refine zqN ?_|refine eG (Gr p hl hn hf) ?_|refine dm ?_|refine dn ?_|(refine dw ?_ ?_<;>intro hc<;>try exact zqM))
 all_goals exact fu [] @jh
def Z5(z:Bool)(F:Nat)(K:List AV)(p:RV->Bool)(xs:List RV)(n:Nat)(j:{j:Nat // j<=n/\∀i,i<j->p (xs.getD i default)=false}):St:=
 ⟨19,0,[(0,.isl z (cR xs) n),(1,.fn F [.ipt K 0]),(7,.val (.int .i64 n)),(8,.val (.int .i64 j.val))],[]⟩
theorem Ug{F:FuncId} [eU Tryz.prog F](p:RV->Bool)(hl:xs.length=n)(hn:n<=10000)(hf:∀j,j<n->ACall Tryz.prog F [.agg (aa.cells (xs.getD j default)),.ipt K 0] [] 0 (.val (.bool (p (xs.getD j default)))) []):
 ACall Tryz.prog 177 [.isl z (cR xs) n,.fn F [.ipt K 0]] [] 0 (.val (.int .i64 (ix p xs))) []:=by
 have hq:=λ(j:Nat) (h:j<n)=>PLift.up (hf j h)
 clear hf
 refine az Tryz.func177 Tryz.ntmps177 rfl ?_
 repeat' (first|(refine ah ?_;refine ak [] ([].length) (Z5 z F K p xs n) (λj=>n-j.val) (⟨0,omgz,λi hi=>absurd hi omgz⟩) rfl (by unfold Z5;exact jZ) ?_;(rintro⟨j,hj,hnb⟩;(simp-dsimp only[Z5];refine zqS ?_)))|(refine aj ?_;refine Nxt.mk [] (⟨j+1,omgz,kW hnb (by assumption)⟩) rfl (by unfold Z5;exact jZ) zqO)|refine zqN ?_|((first|refine ay rfl (λK hK=>?_)|refine au (λK hK=>?_));(first|refine gq (f:=F) [] 0 false ?_);refine mg ?_;(first|refine⟨_,_,(hq j omgz).down,?_⟩);refine jo ?_;apply hK;clear hK K)|refine aY ?_|refine aZ ?_|(refine bf ?_ ?_<;>intro hc<;>try exact zqM))
 all_goals first
  |(have e:ix p xs=j:=oD omgz hnb (by assumption);exact fu [] @e;done)
  |(have ej:j=n:=omgz;subst ej;subst hl;have e:ix p xs= -1:=lG hnb;exact fu [] @e;done)
  |skip
theorem Oj{F:FuncId} [eU Tryz.prog F](p:RV->Bool)(hl:xs.length=n)(hn:n<=10000)(hf:∀j,j<n->ACall Tryz.prog F [.agg (aa.cells (xs.getD j default)),.ipt K 0] [] 0 (.val (.bool (p (xs.getD j default)))) []):
 ACall Tryz.prog 134 [.isl z (cR xs) n,.fn F [.ipt K 0]] [] 0 (.val (.bool (xs.any p))) []:=by
 refine az Tryz.func134 Tryz.ntmps134 rfl ?_
 have zx1:= @jh;have zx2:=aA;have zx3:=aA;repeat' (first|refine zqN ?_|refine eG (Ug p hl hn hf) ?_|refine dm ?_|refine dn ?_|(refine dw ?_ ?_<;>intro hc<;>try exact zqM))
 all_goals exact fu [] @jh
def stI(a:Nat)(wr:List Nat)(n:Nat)(i:{i:Nat // i<=2}):St:=
 ⟨36,0,[(0,.isl false [.isl false [.val (.int .u16 (U a))] 1,.isl false (cX wr) n] 2),(8,.isl false [.isl false [.val (.int .u16 (U a))] 1,.isl false (cX wr) n] 2),(9,.val (.int .i64 2)),(10,.val (.int .i64 i.val))],[]⟩
def stJ(a:Nat)(wr:List Nat)(n:Nat)(i:{i:Nat // i<=2}):St:=
 ⟨36,0,[(20,.isl false [.isl false [.val (.int .u16 (U a))] 1,.isl false (cX wr) n] 2),(21,.val (.int .i64 2)),(22,.val (.int .i64 i.val))],[]⟩
theorem Ol(hl:wr.length=n)(h0:0<n)(hn:n<=1000)(ha:¬a%65536=0)(hw:¬wr.getD 0 default%65536=0)(h1:ACall Tryz.prog 33 [.isl false [.val (.int .u16 (U a))] 1] [] 0 (.val (.int .i64 0)) [])(h2:ACall Tryz.prog 33 [.isl false (cX wr) n] [] 0 (.val (.int .i64 0)) []):
 ACall Tryz.prog 133 [.isl false [.isl false [.val (.int .u16 (U a))] 1,.isl false (cX wr) n] 2] [] 0 (.val (.int .i64 0)) []:=by
 have h1:=PLift.up h1;have h2:=PLift.up h2
 have zx1:¬n=0:=by omega
 have hu:U a=((a%65536:Nat):Int):=rfl
 have zx2:¬U a=0:=by rw[hu];omega
 have zx3:¬U (wr.getD 0 default)=0:=by show¬((wr.getD 0 default%65536:Nat):Int)=0;omega
 clear hu
 refine az Tryz.func133 Tryz.ntmps133 rfl ?_
 have zx4:= @bC;have zx5:=aA;have zx6:=aA;repeat' (first|(refine ah ?_;refine ak [] ([].length) (stI a wr n) (λi=>2-i.val) (⟨0,omgz⟩) rfl (by unfold stI;exact dK) ?_;(rintro⟨i,hi⟩;have hi2:i=0\/i=1\/i=2:=omgz;rcases hi2 with hi2|hi2|hi2<;>subst hi2<;>(simp-dsimp only[stI];refine zqS ?_)))|(refine aj ?_;refine Nxt.mk [] (⟨1,omgz⟩) rfl (by unfold stI;exact dK) zqO)|(refine aj ?_;refine Nxt.mk [] (⟨2,omgz⟩) rfl (by unfold stI;exact dK) zqO)|(refine ah ?_;refine ak [] ([].length) (stJ a wr n) (λi=>2-i.val) (⟨0,omgz⟩) rfl (by unfold stJ;exact dK) ?_;(rintro⟨i,hi⟩;have hi2:i=0\/i=1\/i=2:=omgz;rcases hi2 with hi2|hi2|hi2<;>subst hi2<;>(simp-dsimp only[stJ];refine zqS ?_)))|(refine aj ?_;refine Nxt.mk [] (⟨1,omgz⟩) rfl (by unfold stJ;exact dK) zqO)|(refine aj ?_;refine Nxt.mk [] (⟨2,omgz⟩) rfl (by unfold stJ;exact dK) zqO)|refine zqN ?_|((first|refine ay rfl (λK hK=>?_)|refine au (λK hK=>?_));(first|(refine ai (f:=33) [] 0 false ?_;refine vT ?_;refine⟨_,_,h1.down,?_⟩;refine nP ?_;apply hK;clear hK K)|(refine ai (f:=33) [] 0 false ?_;refine vT ?_;refine⟨_,_,h2.down,?_⟩;refine nP ?_;apply hK;clear hK K)))|refine kI ?_|refine kJ ?_|(refine kK ?_ ?_<;>intro hc<;>try exact zqM))
 all_goals exact aB []
theorem ahg(h:ACall Tryz.prog 102 [.agg (aa.cells X)] [] 0 (.val (.bool true)) []):ACall Tryz.prog 135 [.agg (aa.cells X)] [] 0 (.val (.bool false)) []:=by
 have h:=PLift.up h
 rw[ax X]
 refine az Tryz.func135 Tryz.ntmps135 rfl ?_
 repeat' (first|refine zqN ?_|refine aM h.down ?_|refine aY ?_|refine aZ ?_|(refine bf ?_ ?_<;>intro hc<;>try exact zqM))
 all_goals exact aB []
theorem ahh(hc:0<c)(h:ACall Tryz.prog 100 [.agg (aa.cells X),.agg (aa.cells ZERO)] [] 0 (.val (.int .i64 c)) []):ACall Tryz.prog 136 [.agg (aa.cells X),.ipt (aa.cells ZERO) 0] [] 0 (.val (.bool false)) []:=by
 have h:=PLift.up h
 have zx1:¬c<=0:=by omega
 rw[ax X,ax ZERO]
 refine az Tryz.func136 Tryz.ntmps136 rfl ?_
 have zx2:=aA;have zx3:=aA;repeat' (first|refine zqN ?_|refine eG h.down ?_|refine dm ?_|refine dn ?_|(refine dw ?_ ?_<;>intro hc<;>try exact zqM))
 all_goals exact aB []
theorem DT(hm:1<=m)(hm2:m<=12)(hc0:¬c0<0)(hc1:¬0<c1)(hsup:U (sor sr sw%65536/2^m)=0)(hs:ACall Tryz.prog 133 [.isl false [.isl false [.val (.int .u16 (U a))] 1,.isl false (cX wr) n] 2] [] 0 (.val (.int .i64 0)) [])
 (hv:ACall Tryz.prog 102 [.agg (aa.cells F)] [] 0 (.val (.bool true)) []) (hc:ACall Tryz.prog 134 [.isl cz (cR cap) m,.fn 135 []] [] 0 (.val (.bool false)) []) (w0:ACall Tryz.prog 97 [.val (.int .i64 0)] [] 0 (.agg (aa.cells ZERO)) []) (w1:ACall Tryz.prog 97 [.val (.int .i64 1)] [] 0 (.agg (aa.cells ONE)) [])
 (k0:ACall Tryz.prog 100 [.agg (aa.cells F),.agg (aa.cells ZERO)] [] 0 (.val (.int .i64 c0)) []) (k1:ACall Tryz.prog 100 [.agg (aa.cells F),.agg (aa.cells ONE)] [] 0 (.val (.int .i64 c1)) [])
 (s1:ACall Tryz.prog 35 [.isl false [.val (.int .u16 (U a))] 1] [] 0 (.val (.int .u16 (U sr))) []) (s2:ACall Tryz.prog 35 [.isl false (cX wr) n] [] 0 (.val (.int .u16 (U sw))) []) (hc2:ACall Tryz.prog 134 [.isl cz (cR cap) m,.fn 136 [.ipt (aa.cells ZERO) 0]] [] 0 (.val (.bool false)) [])
 (hsub:ACall Tryz.prog 137 [.agg (aa.cells ONE),.agg (aa.cells F)] [] 0 (.tup [.agg (aa.cells R),.val (.int .i64 0)]) []):
 ACall Tryz.prog 95 [.isl false [.val (.int .u16 (U a))] 1,.isl false (cX wr) n,.agg (aa.cells F),.isl cz (cR cap) m] [] 0 (.tup [.pt 0 0,.val (.int .i64 0)]) [.cells (wkA cz a wr n F R cap m) 202]:=by
 have hs:=PLift.up hs;have hv:=PLift.up hv;have hc:=PLift.up hc;have w0:=PLift.up w0;have w1:=PLift.up w1;have k0:=PLift.up k0;have k1:=PLift.up k1;have s1:=PLift.up s1;have s2:=PLift.up s2;have hc2:=PLift.up hc2;have hsub:=PLift.up hsub
 have zx1:¬m<1:=by omega
 have zx2:¬12<m:=by omega
 rw[ax F] at hv k0 k1 hsub
 rw[ax ZERO] at w0 k0 hc2
 rw[ax ONE] at w1 k1 hsub
 rw[ax R] at hsub
 rw[ax F]
 unfold wkA
 refine az Tryz.func95 Tryz.ntmps95 rfl ?_
 have zx3:= @hc0;have zx4:= @hc1;have zx5:= @hsup;have zx6:=aA;repeat' (first|refine zqN ?_|((first|refine ay rfl (λK hK=>?_)|refine au (λK hK=>?_)|refine aD (λK hK=>?_));(first|refine ai (f:=133) [] 0 true ?_|refine ai (f:=102) [] 0 false ?_|refine ai (f:=134) (dst:=some 27) [] 0 false ?_|refine ai (f:=97) (dst:=some 37) [] 0 false ?_|refine ai (f:=97) (dst:=some 44) [] 0 false ?_|refine ai (f:=97) (dst:=some 64) [] 0 false ?_|refine ai (f:=100) (dst:=some 40) [] 0 false ?_|refine ai (f:=100) (dst:=some 45) [] 0 false ?_|refine ai (f:=35) (dst:=some 50) [] 0 false ?_|refine ai (f:=35) (dst:=some 52) [] 0 false ?_|refine ai (f:=134) (dst:=some 61) [] 0 true ?_|refine ai (f:=137) [] 0 false ?_);refine vT ?_;(first|refine⟨_,_,hs.down,?_⟩|refine⟨_,_,hv.down,?_⟩|refine⟨_,_,hc.down,?_⟩|refine⟨_,_,w0.down,?_⟩|refine⟨_,_,w1.down,?_⟩|refine⟨_,_,w1.down,?_⟩|refine⟨_,_,k0.down,?_⟩|refine⟨_,_,k1.down,?_⟩|refine⟨_,_,s1.down,?_⟩|refine⟨_,_,s2.down,?_⟩|refine⟨_,_,hc2.down,?_⟩|refine⟨_,_,hsub.down,?_⟩);refine nP ?_;apply hK;clear hK K)|refine kI ?_|refine kJ ?_|(refine kK ?_ ?_<;>intro hc<;>try exact zqM)|refine zqR [(12,6,[],1),(12,7,[2],0)] ?_|refine zqD ?_|fail)
 all_goals exact aB [4]
end
section
open Go Go.Sy Go.Lm Go.Rt Go.Dg
attribute [local irreducible] AO AL AC OpT ACall Ends DGo aK Thn Blk Nxt
variable {n N np k i m j r q lo hi sv:Nat} {z zp:Bool} {ps:List RV} {F:List Fo} {L:List Fk} {p:Nat->Rat} {W H M1 M2 M3 X V:RV} {rt e e2 v:Int} {d:Nat->Nat} {x:Rat}
theorem ahi(h:sv<ps.length):spl (cR ps) (sv*4) (aa.cells X)=cR (ps.set sv X):=by
 rw[Qh,Qi h]
theorem wX(h:sv<ps.length):spl (cR ps) (sv*4) [.val (.bool X.num.neg),.isl X.num.z (cI .u32 X.num.l) X.num.l.length,.val (.bool X.den.neg),.isl X.den.z (cI .u32 X.den.l) X.den.l.length]=cR (ps.set sv X):=ahi h
end
section
open Go Go.Sy Go.Bp Go.Lm Go.Rt
attribute [local irreducible] AO AL AC OpT ACall Ends DGo aK Thn Blk Nxt
variable {n N M k i m j r s w:Nat} {z z':Bool} {v c e:Int} {X Y W:RV} {xs:List RV} {rs:List RL} {b:List Int} {C:List AV} {A1 A2 A3:AV}
theorem Z6:ACall Tryz.prog 203 [.ipt C 0,.agg (aa.cells X),.val (.int .i64 0)] [] 0 (.agg (aa.cells X)) []:=by
 rw[ax X]
 refine az Tryz.func203 Tryz.ntmps203 rfl ?_
 repeat' (first|refine zqN ?_|refine aY ?_|refine aZ ?_|(refine bf ?_ ?_<;>intro hc<;>try exact zqM))
 all_goals exact aB []
theorem uX:ACall Tryz.prog 203 [.any,.agg (aa.cells X),.val (.int .i64 0)] [] 0 (.agg (aa.cells X)) []:=by
 rw[ax X]
 refine az Tryz.func203 Tryz.ntmps203 rfl ?_
 repeat' (first|refine zqN ?_|refine aY ?_|refine aZ ?_|(refine bf ?_ ?_<;>intro hc<;>try exact zqM))
 all_goals exact aB []
theorem qj(hm:m<=1000)(hn:n<=1000):ACall Tryz.prog 130 [.ipt [.val (.int .i64 m),.val (.int .i64 n),A1,A2,A3] 0] [] 0 (.val (.int .i64 ((n+m:Nat):Int))) []:=by
 refine az Tryz.func130 Tryz.ntmps130 rfl ?_
 repeat' (first|refine zqN ?_|refine aY ?_|refine aZ ?_|(refine bf ?_ ?_<;>intro hc<;>try exact zqM)|refine zqR [] ?_|refine zqD ?_|fail)
 all_goals exact aB []
theorem Z7(h:ACall Tryz.prog 170 [.agg (aa.cells X)] [] 0 (.val (.int .i64 c)) []):ACall Tryz.prog 202 [.agg (aa.cells X)] [] 0 (.val (.bool (decide (c<0)))) []:=by
 have h:=PLift.up h
 rw[ax X]
 refine az Tryz.func202 Tryz.ntmps202 rfl ?_
 repeat' (first|refine zqN ?_|refine aM h.down ?_|refine aY ?_|refine aZ ?_|(refine bf ?_ ?_<;>intro hc<;>try exact zqM))
 all_goals exact aB []
abbrev tbV(m n:Nat)(rs:List RL)(b:List Int):List AV:=[.val (.int .i64 m),.val (.int .i64 n),.isl false (cX rs) (m+1),.isl false (cI .i64 b) m,.val (.int .i64 0)]
theorem JF(hm:m<=14)(hn:n<=400)(hw:n+m=w)(hrs:rs.length=m+1)(hrow:rs.getD m default=⟨false,xs⟩)(hxs:xs.length=w+1)
 (hi:ACall Tryz.prog 177 [.isl false (cR (xs.take w)) w,.fn 202 []] [] 0 (.val (.int .i64 e)) []):ACall Tryz.prog 173 [.ipt (tbV m n rs b) 0] [] 0 (.val (.int .i64 e)) []:=by
 have hwd:=PLift.up (qj (m:=m) (n:=n) (A1:= .isl false (cX rs) (m+1)) (A2:= .isl false (cI .i64 b) m) (A3:= .val (.int .i64 0)) omgz omgz)
 rw[hw] at hwd
 have hi:=PLift.up hi
 unfold tbV
 refine az Tryz.func173 Tryz.ntmps173 rfl ?_
 have zx1:= @hrow;have zx2:= @hxs;have zx3:= @lq;repeat' (first|refine zqN ?_|refine eG hwd.down ?_|refine eG hi.down ?_|refine dm ?_|refine oV ?_|refine oW ?_|refine oZ ?_|refine dn ?_|(refine dw ?_ ?_<;>intro hc<;>try exact zqM)|refine zqR [] ?_|refine zqD ?_|fail)
 all_goals exact aB []
def dvL(R:List RV)(d:Nat->RV):Nat->List RV
 |0=>R
 |j+1=>(dvL R d j).set j (d j)
theorem oJ{R:List RV} {d:Nat->RV}:(dvL R d j).length=R.length:=by
 induction j with
 |zero=>rfl
 |succ j ih=>rw[dvL,List.length_set,ih]
theorem Uh{R:List RV} {d:Nat->RV}(h:j<=i):(dvL R d j).getD i default=R.getD i default:=by
 induction j with
 |zero=>rfl
 |succ j ih=>
  rw[dvL,List.getD_eq_getElem?_getD,List.getElem?_set,if_neg omgz,<-List.getD_eq_getElem?_getD]
  exact ih omgz
theorem JG{R:List RV} {d:Nat->RV}(h:i<j)(hj:j<=R.length):(dvL R d j).getD i default=d i:=by
 induction j with
 |zero=>omega
 |succ j ih=>
  rw[dvL,List.getD_eq_getElem?_getD,List.getElem?_set]
  by_cases e:j=i
  ·subst e;rw[if_pos rfl,oJ,if_pos omgz];rfl
  ·rw[if_neg e,<-List.getD_eq_getElem?_getD];exact ih omgz omgz
def sbR(R:List RV)(p:Nat->Prop) [DecidablePred p](d:Nat->RV):Nat->List RV
 |0=>R
 |j+1=>if p j then sbR R p d j else(sbR R p d j).set j (d j)
section
variable {R:List RV} {p:Nat->Prop} [DecidablePred p]{d:Nat->RV}
theorem jW:(sbR R p d j).length=R.length:=by
 induction j with
 |zero=>rfl
 |succ j ih=>rw[sbR];split<;>simp[ih]
theorem JH(h:j<=i):(sbR R p d j).getD i default=R.getD i default:=by
 induction j with
 |zero=>rfl
 |succ j ih=>
  rw[sbR]
  split
  ·exact ih omgz
  ·rw[List.getD_eq_getElem?_getD,List.getElem?_set,if_neg omgz,<-List.getD_eq_getElem?_getD]
   exact ih omgz
theorem Ui(h:p j):sbR R p d (j+1)=sbR R p d j:=if_pos h
theorem Uj(h:¬p j):sbR R p d (j+1)=(sbR R p d j).set j (d j):=if_neg h
theorem Af(h:i<j)(hj:j<=R.length):(sbR R p d j).getD i default=if p i then R.getD i default else d i:=by
 induction j with
 |zero=>omega
 |succ j ih=>
  by_cases e:j=i
  ·subst e
   by_cases hp:p j
   ·rw[Ui hp,if_pos hp];exact JH (Nat.le_refl _)
   ·rw[Uj hp,if_neg hp,List.getD_eq_getElem?_getD,List.getElem?_set,if_pos rfl,jW,if_pos omgz];rfl
  ·have:=ih omgz omgz
   rw[sbR]
   split
   ·exact this
   ·rw[List.getD_eq_getElem?_getD,List.getElem?_set,if_neg e,<-List.getD_eq_getElem?_getD];exact this
end
end
section
open Go Go.Sy Go.Bp Go.Lm Go.Rt
attribute [local irreducible] AO AL AC OpT ACall Ends DGo aK Thn Blk Nxt
variable {n N M k i m j r s a:Nat} {z z' cz:Bool} {v c e:Int} {X Y W V F R ZERO ONE:RV} {wr:List Nat} {cap xs:List RV} {P:List Pr} {K:List AV} {wv:Nat->Nat->RV}
def rwv(wv:Nat->Nat->RV)(i:Nat):Nat->List RV
 |0=>[]
 |k+1=>rwv wv i k++[wv i k]
def rws(wv:Nat->Nat->RV)(n:Nat):Nat->List RL
 |0=>[]
 |i+1=>rws wv n i++[⟨false,rwv wv i n⟩]
theorem aad:(rwv wv i k).length=k:=by
 induction k with
 |zero=>rfl
 |succ k ih=>simp[rwv,ih]
theorem aae:(rws wv n i).length=i:=by
 induction i with
 |zero=>rfl
 |succ i ih=>simp[rws,ih]
def iJ(ONE:RV):Nat->List RV
 |0=>[]
 |j+1=>iJ ONE j++[ONE]
theorem Cj:(iJ ONE j).length=j:=by
 induction j with
 |zero=>rfl
 |succ j ih=>simp[iJ,ih]
theorem dE(l:List RV)(X:RV):cR l++[.val (.bool X.num.neg),.isl X.num.z (cI .u32 X.num.l) X.num.l.length,.val (.bool X.den.neg),.isl X.den.z (cI .u32 X.den.l) X.den.l.length]=cR (l++[X]):=by rw[<-vS];rfl
def pgI(K:List AV)(cz:Bool)(cap:List RV)(m:Nat)(ONE:RV)(P:List Pr)(n:Nat)(j:{j:Nat // j<=n}):St:=
 ⟨61,0,[(0,.ipt K 0),(2,.pt 0 0),(3,.isl false (cR P) n),(4,.pt 1 0),(18,.val (.int .i64 n)),(19,.val (.int .i64 j.val))],
   [(0,some (.cells [.isl true [] 0,.isl true [] 0,.isl true [] 0] 150)),(1,some (.cells [.isl true [] 0,.isl cz (cR cap) m,fw j.val 2 4] 150))]++fA j.val 2 (cR (iJ ONE j.val)) 60⟩
def pgA(K:List AV)(cz:Bool)(cap:List RV)(m:Nat)(ONE:RV)(P:List Pr)(n:Nat)(wv:Nat->Nat->RV)(i:{i:Nat // i<=m}):St:=
 ⟨61,0,[(0,.ipt K 0),(2,.pt 0 0),(3,.isl false (cR P) n),(4,.pt 1 0),(32,.val (.int .i64 m)),(33,.val (.int .i64 i.val))],
   [(0,some (.cells [.isl true [] 0,.isl true [] 0,.isl true [] 0] 150)),(1,some (.cells [fw i.val 3 1,.isl cz (cR cap) m,.sl 2 0 n 4] 150)),(2,some (.cells (cR (iJ ONE n)) 60))]++fA i.val 3 (cX (rws wv n i.val)) 103⟩
def pgR(K:List AV)(cz:Bool)(cap:List RV)(m:Nat)(ONE:RV)(P:List Pr)(n:Nat)(wv:Nat->Nat->RV)(i:Nat)(k:{k:Nat // k<=n}):St:=
 ⟨61,0,[(0,.ipt K 0),(2,.pt 0 0),(3,.isl false (cR P) n),(4,.pt 1 0),(5,.val (.int .i64 i)),(6,fw k.val 4 4),(32,.val (.int .i64 m)),(33,.val (.int .i64 i)),(36,.isl false (cR P) n),(37,.val (.int .i64 n)),(38,.val (.int .i64 k.val))],
   [(0,some (.cells [.isl true [] 0,.isl true [] 0,.isl true [] 0] 150)),(1,some (.cells [fw i 3 1,.isl cz (cR cap) m,.sl 2 0 n 4] 150)),(2,some (.cells (cR (iJ ONE n)) 60))]++fA i 3 (cX (rws wv n i)) 103++fA k.val 4 (cR (rwv wv i k.val)) 60⟩
theorem DW(hP:P.length=n)(h0:0<n)(hn:n<=1000)(hcl:cap.length=m)(hm0:0<m)(hm:m<=1000)(g4:K[10]? =some (.isl cz (cR cap) m))(hpr:ACall Tryz.prog 98 [.ipt K 0] [] 0 (.sl 0 0 n 2) [.cells (cR P) 164])(hco:ACall Tryz.prog 132 [.isl cz (cR cap) m] [] 0 (.isl cz (cR cap) m) [])
 (h1:ACall Tryz.prog 97 [.val (.int .i64 1)] [] 0 (.agg (aa.cells ONE)) []) (hw:∀i k,i<m->k<n->ACall Tryz.prog 153 [.ipt K 0,.val (.int .u16 (U (P.getD k default).a)),.val (.int .u16 (U (P.getD k default).b)),.val (.int .i64 i)] [] 0 (.agg (aa.cells (wv i k))) []):
 ACall Tryz.prog 126 [.ipt K 0] [] 0 (.agg [.isl false (cX (rws wv n m)) m,.isl cz (cR cap) m,.isl false (cR (iJ ONE n)) n]) []:=by
 have hpr:=PLift.up hpr;have hco:=PLift.up hco;have h1:=PLift.up h1
 have hwq:=λ(i k:Nat) (h:i<m) (h2:k<n)=>PLift.up (hw i k h h2)
 clear hw
 rw[ax ONE] at h1
 have l1:=λ(j:Nat)=>Cj (ONE:=ONE) (j:=j)
 have l2:=λ(i k:Nat)=>aad (wv:=wv) (i:=i) (k:=k)
 have l3:=λ(i:Nat)=>aae (wv:=wv) (n:=n) (i:=i)
 have zx2:(cR P).take (n*2)=cR P:=List.take_of_length_le (by rw[dF,hP];exact Nat.le_refl _)
 have o1:cR (iJ ONE 1)=[.val (.bool ONE.num.neg),.isl ONE.num.z (cI .u32 ONE.num.l) ONE.num.l.length,.val (.bool ONE.den.neg),.isl ONE.den.z (cI .u32 ONE.den.l) ONE.den.l.length]:=rfl
 have os:=λ(j:Nat)=>(dE (iJ ONE j) ONE:_=cR (iJ ONE (j+1)))
 have zx3:(cR (iJ ONE n)).take (n*4)=cR (iJ ONE n):=List.take_of_length_le (by rw[dF,l1];exact Nat.le_refl _)
 have zx4:(cX (rws wv n m)).take m=cX (rws wv n m):=List.take_of_length_le (by rw[zo,l3];exact Nat.le_refl _)
 have tk3:∀i,(cR (rwv wv i n)).take (n*4)=cR (rwv wv i n):=λi=>List.take_of_length_le (by rw[dF,l2];exact Nat.le_refl _)
 have rs0:cX (rws wv n 1)=[.isl false (cR (rwv wv 0 n)) n]:=by show [AV.isl false (cR (rwv wv 0 n)) (rwv wv 0 n).length]=_;rw[l2]
 have rs1:∀i,cX (rws wv n i)++[.isl false (cR (rwv wv i n)) n]=cX (rws wv n (i+1)):=λi=>by
  rw[rws,<-Ij];show _=cX (rws wv n i)++[AV.isl false (cR (rwv wv i n)) (rwv wv i n).length];rw[l2]
 have zx5:=ae;have hrw:=ae;have hwk:=ae;have zx6:=ae;have zx7:=ae
 refine az Tryz.func126 Tryz.ntmps126 rfl ?_
 have zx1:= @g4;have zx8:= @lq;have zx9:=aA;repeat' (first|((first|refine bT (r:=2) 1 ?_|refine bS (r:=2) 1 ?_);refine sJ ?_;intro K hK;refine hK _ _ ?_;clear hK K)|(refine ah ?_;refine ak [0,2,9] ([0,2,9].length) (pgI K cz cap m ONE P n) (λj=>n-j.val) (⟨0,omgz⟩) rfl (by unfold pgI;exact aO) ?_;(rintro⟨j,hj⟩;have hlj:=l1 j;rcases Nat.lt_or_eq_of_le hj with hjl|hjl<;>first|(have eQ:=hjl.symm;subst eQ;(simp-dsimp only[pgI];refine zqS ?_))|(rcases Nat.eq_zero_or_pos j with j0|j0<;>first|(subst j0;have zx5:=o1;(simp-dsimp only[pgI];refine zqS ?_))|(have zx5:iJ ONE j++[ONE]=iJ ONE (j+1):=rfl;(simp-dsimp only[pgI];refine zqS ?_)))))|(refine aj ?_;refine Nxt.mk [0,1,4] (⟨j+1,omgz⟩) rfl (by unfold pgI;exact aO) zqO)|(refine aj ?_;refine Nxt.mk [0,1,3] (⟨j+1,omgz⟩) rfl (by unfold pgI;exact aO) zqO)|(refine aj ?_;refine Nxt.mk [0,1,5] (⟨j+1,omgz⟩) rfl (by unfold pgI;exact aO) zqO)|(refine aj ?_;refine Nxt.mk [0,1,4] (⟨1,omgz⟩) rfl (by unfold pgI;exact aO) zqO)|(refine aj ?_;refine Nxt.mk [0,1,3] (⟨1,omgz⟩) rfl (by unfold pgI;exact aO) zqO)|(refine aj ?_;refine Nxt.mk [0,1,5] (⟨1,omgz⟩) rfl (by unfold pgI;exact aO) zqO)|(refine ah ?_;refine ak [0,1,2,3,9] ([0,1,2,3,9].length) (pgR K cz cap m ONE P n wv i) (λk=>n-k.val) (⟨0,omgz⟩) rfl (by unfold pgR;exact aO) ?_;(rintro⟨k,hk⟩;have hlk:=l2 i k;rcases Nat.lt_or_eq_of_le hk with hkl|hkl<;>first|(have eQ:=hkl.symm;subst eQ;(simp-dsimp only[pgR];refine zqS ?_))|(have hwk:=hwq i k hil hkl;rcases Nat.eq_zero_or_pos k with j0|j0<;>first|(subst j0;have hrw:[AV.val (.bool (wv i 0).num.neg),.isl (wv i 0).num.z (cI .u32 (wv i 0).num.l) (wv i 0).num.l.length,.val (.bool (wv i 0).den.neg),.isl (wv i 0).den.z (cI .u32 (wv i 0).den.l) (wv i 0).den.l.length]=cR (rwv wv i 1):=rfl;(simp-dsimp only[pgR];refine zqS ?_))|(have hrw:cR (rwv wv i k)++[AV.val (.bool (wv i k).num.neg),.isl (wv i k).num.z (cI .u32 (wv i k).num.l) (wv i k).num.l.length,.val (.bool (wv i k).den.neg),.isl (wv i k).den.z (cI .u32 (wv i k).den.l) (wv i k).den.l.length]=cR (rwv wv i (k+1)):=dE _ _;(simp-dsimp only[pgR];refine zqS ?_)))))|(refine aj ?_;refine Nxt.mk [0,1,2,3,4] (⟨k+1,omgz⟩) rfl (by unfold pgR;have zx9:= @hrw;exact aO) zqO)|(refine aj ?_;refine Nxt.mk [0,1,2,3,5] (⟨k+1,omgz⟩) rfl (by unfold pgR;have zx9:= @hrw;exact aO) zqO)|(refine aj ?_;refine Nxt.mk [0,1,2,3,6] (⟨k+1,omgz⟩) rfl (by unfold pgR;have zx9:= @hrw;exact aO) zqO)|(refine aj ?_;refine Nxt.mk [0,1,2,3,7] (⟨k+1,omgz⟩) rfl (by unfold pgR;have zx9:= @hrw;exact aO) zqO)|(refine aj ?_;refine Nxt.mk [0,1,2,3,4] (⟨1,omgz⟩) rfl (by unfold pgR;have zx9:= @hrw;exact aO) zqO)|(refine aj ?_;refine Nxt.mk [0,1,2,3,5] (⟨1,omgz⟩) rfl (by unfold pgR;have zx9:= @hrw;exact aO) zqO)|(refine aj ?_;refine Nxt.mk [0,1,2,3,6] (⟨1,omgz⟩) rfl (by unfold pgR;have zx9:= @hrw;exact aO) zqO)|(refine aj ?_;refine Nxt.mk [0,1,2,3,7] (⟨1,omgz⟩) rfl (by unfold pgR;have zx9:= @hrw;exact aO) zqO)|(refine ah ?_;refine ak [0,1,2,9,8] ([0,1,2,9,8].length) (pgR K cz cap m ONE P n wv 0) (λk=>n-k.val) (⟨0,omgz⟩) rfl (by unfold pgR;exact aO) ?_;(rintro⟨k,hk⟩;have hlk:=l2 0 k;rcases Nat.lt_or_eq_of_le hk with hkl|hkl<;>first|(have eQ:=hkl.symm;subst eQ;(simp-dsimp only[pgR];refine zqS ?_))|(have hwk:=hwq 0 k hil hkl;rcases Nat.eq_zero_or_pos k with j0|j0<;>first|(subst j0;have hrw:[AV.val (.bool (wv 0 0).num.neg),.isl (wv 0 0).num.z (cI .u32 (wv 0 0).num.l) (wv 0 0).num.l.length,.val (.bool (wv 0 0).den.neg),.isl (wv 0 0).den.z (cI .u32 (wv 0 0).den.l) (wv 0 0).den.l.length]=cR (rwv wv 0 1):=rfl;(simp-dsimp only[pgR];refine zqS ?_))|(have hrw:cR (rwv wv 0 k)++[AV.val (.bool (wv 0 k).num.neg),.isl (wv 0 k).num.z (cI .u32 (wv 0 k).num.l) (wv 0 k).num.l.length,.val (.bool (wv 0 k).den.neg),.isl (wv 0 k).den.z (cI .u32 (wv 0 k).den.l) (wv 0 k).den.l.length]=cR (rwv wv 0 (k+1)):=dE _ _;(simp-dsimp only[pgR];refine zqS ?_)))))|(refine aj ?_;refine Nxt.mk [0,1,2,9,4] (⟨k+1,omgz⟩) rfl (by unfold pgR;have zx9:= @hrw;exact aO) zqO)|(refine aj ?_;refine Nxt.mk [0,1,2,9,5] (⟨k+1,omgz⟩) rfl (by unfold pgR;have zx9:= @hrw;exact aO) zqO)|(refine aj ?_;refine Nxt.mk [0,1,2,9,6] (⟨k+1,omgz⟩) rfl (by unfold pgR;have zx9:= @hrw;exact aO) zqO)|(refine aj ?_;refine Nxt.mk [0,1,2,9,7] (⟨k+1,omgz⟩) rfl (by unfold pgR;have zx9:= @hrw;exact aO) zqO)|(refine aj ?_;refine Nxt.mk [0,1,2,9,4] (⟨1,omgz⟩) rfl (by unfold pgR;have zx9:= @hrw;exact aO) zqO)|(refine aj ?_;refine Nxt.mk [0,1,2,9,5] (⟨1,omgz⟩) rfl (by unfold pgR;have zx9:= @hrw;exact aO) zqO)|(refine aj ?_;refine Nxt.mk [0,1,2,9,6] (⟨1,omgz⟩) rfl (by unfold pgR;have zx9:= @hrw;exact aO) zqO)|(refine aj ?_;refine Nxt.mk [0,1,2,9,7] (⟨1,omgz⟩) rfl (by unfold pgR;have zx9:= @hrw;exact aO) zqO)|((first|refine bT (r:=16) 4 ?_|refine bS (r:=16) 4 ?_);refine sJ ?_;intro K hK;refine hK _ _ ?_;clear hK K)|(refine ah ?_;refine ak [0,1,2,9] ([0,1,2,9].length) (pgA K cz cap m ONE P n wv) (λi=>m-i.val) (⟨0,omgz⟩) rfl (by unfold pgA;exact aO) ?_;(rintro⟨i,hi⟩;have hli:=l3 i;have zx7:=tk3 i;rcases Nat.lt_or_eq_of_le hi with hil|hil<;>first|(have eQ:=hil.symm;subst eQ;(simp-dsimp only[pgA];refine zqS ?_))|(rcases Nat.eq_zero_or_pos i with i0|i0<;>first|(subst i0;have zx6:=rs0;(simp-dsimp only[pgA];refine zqS ?_))|(have zx6:=rs1 i;(simp-dsimp only[pgA];refine zqS ?_)))))|(refine aj ?_;refine Nxt.mk [0,1,2,6] (⟨i+1,omgz⟩) rfl (by unfold pgA;exact aO) zqO)|(refine aj ?_;refine Nxt.mk [0,1,2,5] (⟨i+1,omgz⟩) rfl (by unfold pgA;exact aO) zqO)|(refine aj ?_;refine Nxt.mk [0,1,2,7] (⟨i+1,omgz⟩) rfl (by unfold pgA;exact aO) zqO)|(refine aj ?_;refine Nxt.mk [0,1,2,6] (⟨1,omgz⟩) rfl (by unfold pgA;exact aO) zqO)|(refine aj ?_;refine Nxt.mk [0,1,2,5] (⟨1,omgz⟩) rfl (by unfold pgA;exact aO) zqO)|(refine aj ?_;refine Nxt.mk [0,1,2,7] (⟨1,omgz⟩) rfl (by unfold pgA;exact aO) zqO)|refine zqN ?_|refine fC hpr.down ?_|refine fC hco.down ?_|refine fC h1.down ?_|refine fC hwk.down ?_|refine mh ?_|refine kg ?_|refine ko ?_|refine kr ?_|refine mo ?_|(refine mq ?_ ?_<;>intro hc<;>try exact zqM)|refine zqR [(5,3,[],1),(5,4,[2],1),(5,6,[4],0)] ?_|refine zqD ?_|fail)
 all_goals first
  |(((refine Ends.frz 3 ?_;simp-dsimp(disch:=try exact vD) only[push_cast,simprocAttr,Tryz.f126,zx3,zx4];(repeat refine aI ?_);intro K hK;refine hK _ _ ?_;clear hK K);(refine Ends.frz 2 ?_;simp-dsimp(disch:=try exact vD) only[push_cast,simprocAttr,Tryz.f126,zx3,zx4];(repeat refine aI ?_);intro K hK;refine hK _ _ ?_;clear hK K);refine Ends.mk2 zqI [] ?_;simp-dsimp(disch:=try exact vD) only[push_cast,simprocAttr,Tryz.f126,zx3,zx4];try exact zqF);done)
  |skip
theorem Bi{PA:List RL} {PC:List RV}(hwl:n<=400)(h0:0<n)(hg:ACall Tryz.prog 95 [.isl false [.val (.int .u16 (U a))] 1,.isl false (cX wr) n,.agg (aa.cells F),.isl cz (cR cap) m] [] 0 (.tup [.pt 0 0,.val (.int .i64 0)]) [.cells (wkA cz a wr n F R cap m) 202])
 (hp:ACall Tryz.prog 126 [.ipt (wkA cz a wr n F R cap m) 0] [] 0 (.agg [.isl false (cX PA) m,.isl cz (cR cap) m,.isl false (cR PC) n]) []) (hv:ACall Tryz.prog 127 [.agg [.isl false (cX PA) m,.isl cz (cR cap) m,.isl false (cR PC) n]] [] 0 (.val (.int .i64 0)) []):
 ACall Tryz.prog 93 [.isl false [.val (.int .u16 (U a))] 1,.isl false (cX wr) n,.agg (aa.cells F),.isl cz (cR cap) m] [] 0 (.tup [.agg [.isl false (cX PA) m,.isl cz (cR cap) m,.isl false (cR PC) n],.val (.int .i64 0)]) []:=by
 have hg:=PLift.up hg;have hp:=PLift.up hp;have hv:=PLift.up hv
 have zx1:¬(400:Int)<n:=by omega
 have zx2:¬400<n:=by omega
 rw[ax F] at hg⊢
 unfold wkA at*
 refine az Tryz.func93 Tryz.ntmps93 rfl ?_
 have zx3:=aA;repeat' (first|((first|refine bT (r:=6) 2 ?_|refine bS (r:=6) 2 ?_);refine rG ?_;intro K hK;refine hK _ _ ?_;clear hK K)|refine zqN ?_|refine eG hg.down ?_|refine eG hp.down ?_|refine eG hv.down ?_|refine dm ?_|refine dn ?_|(refine dw ?_ ?_<;>intro hc<;>try exact zqM))
 all_goals exact aB []
end
section
open Go Go.Sy Go.Bp Go.Lm Go.Rt
instance:GR Tryz.prog 255 257:=⟨Tryz.underlying255⟩
instance:GR Tryz.prog 270 5:=⟨Tryz.underlying270⟩
instance:ah3 Tryz.prog 276:=⟨Tryz.underlying276⟩
instance:Es Tryz.prog 257 2:=⟨by kernel_rfl⟩
instance:Es Tryz.prog 5 1:=⟨by kernel_rfl⟩
instance:ac1 Tryz.prog 233:=⟨⟨_,Tryz.func233,by kernel_rfl,by kernel_rfl,by kernel_rfl,by kernel_rfl⟩⟩
attribute [local irreducible] AO AL AC OpT ACall Ends DGo aK Thn Blk Nxt
variable {n N M k i m j r w:Nat} {z z':Bool} {v c e:Int} {X Y W:RV} {s s2:ByteArray}
theorem Bj:ACall Tryz.prog 224 [.pt 0 0] [.cells [.val (.pointer none),.isl true [] 0] 257] 1 (.tup []) [.cells [.pt 0 0,.isl true [] 0] 257]:=by
 refine az Tryz.func224 Tryz.ntmps224 rfl ?_
 repeat' (first|(((first|refine ay rfl (λK hK=>?_)|refine au (λK hK=>?_));(first|apply JE|apply DN|apply ahd);(simp-dsimp(disch:=try exact vD) only[push_cast,simprocAttr,]);(repeat refine aI ?_);apply hK;clear hK K))|refine zqN ?_|refine aY ?_|refine mf ?_|refine aZ ?_|(refine bf ?_ ?_<;>intro hc<;>try exact zqM))
 all_goals exact aB [0]
theorem Un(hs:0<s.size)(hs2:s.size<=1000):ACall Tryz.prog 220 [.pt 0 0,.val (.string s)] [.cells [.val (.pointer none),.isl true [] 0] 257] 1 (.tup [.val (.int .i64 s.size),.val .nilIface]) [.cells [.pt 0 0,.sl 1 0 s.size 1] 257,.cells (cI .u8 (byL s)) 5]:=by
 have hc:=PLift.up Bj
 have zx3:ofV Value.nilIface= .val .nilIface:=rfl
 have zx2:s.size<=140737488355328:=by omega
 refine az Tryz.func220 Tryz.ntmps220 rfl ?_
 have zx1:= @hs;repeat' (first|(((first|refine ay rfl (λK hK=>?_)|refine au (λK hK=>?_));apply Gi;(simp-dsimp(disch:=try exact vD) only[push_cast,simprocAttr,hs,zx2]);(repeat refine aI ?_);apply hK;clear hK K))|refine zqN ?_|((first|refine ay rfl (λK hK=>?_)|refine au (λK hK=>?_));(first|refine ai (f:=224) [0] 1 false ?_);refine zu ?_;(first|refine⟨_,_,hc.down,?_⟩);refine rG ?_;apply hK;clear hK K)|refine dm ?_|refine oV ?_|refine oW ?_|refine oZ ?_|refine dn ?_|(refine dw ?_ ?_<;>intro hc<;>try exact zqM))
 all_goals exact fu [0,1] @zx3
theorem aaf(hs:0<s.size)(hs2:s.size<=1000):ACall Tryz.prog 222 [.pt 0 0] [.cells [.pt 0 0,.sl 1 0 s.size 1] 257,.cells (cI .u8 (byL s)) 5] 0 (.val (.string s)) []:=by
 have zx2:s.size<=140737488355328:=by omega
 refine az Tryz.func222 Tryz.ntmps222 rfl ?_
 have zx1:= @hs;have zx3:=aA;repeat' (first|((refine aD (λK hK=>?_);(first|apply DR|refine Gl s _ _ _ _ ?_);(simp-dsimp(disch:=try exact vD) only[push_cast,simprocAttr,hs,zx2]);(repeat refine aI ?_);apply hK;clear hK K))|refine zqN ?_|refine dm ?_|refine dn ?_|(refine dw ?_ ?_<;>intro hc<;>try exact zqM)|refine zqR [(1,10,[4],0)] ?_|refine zqD ?_|fail)
 all_goals exact aB []
theorem Uo(hc:ACall Tryz.prog 188 [.isl false [.val (.bool false),.isl z [] 0] 1] [] 0 (.val (.int .i64 0)) []):ACall Tryz.prog 215 [.agg [.val (.bool false),.isl z [] 0]] [] 0 (.tup [.val (.string ⟨#[48]⟩),.val (.int .i64 0)]) []:=by
 have hc:=PLift.up hc
 refine az Tryz.func215 Tryz.ntmps215 rfl ?_
 repeat' (first|refine zqN ?_|((first|refine ay rfl (λK hK=>?_)|refine au (λK hK=>?_));(first|refine ai (f:=188) [] 0 true ?_);refine mg ?_;(first|refine⟨_,_,hc.down,?_⟩);refine jo ?_;apply hK;clear hK K)|refine aY ?_|refine aZ ?_|(refine bf ?_ ?_<;>intro hc<;>try exact zqM))
 all_goals exact aB []
def fmI(x:Int)(s:ByteArray)(q:{q:Nat // q<=1}):St:=match q.val with
 |0=>⟨50,0,[(1,.pt 0 0),(5,.pt 1 0),(6,.val (.int .i64 0))],[(0,some (.cells [.val (.bool false),.isl false [.val (.int .u32 x)] 1] 58)),(1,some (.cells [.val (.pointer none),.isl true [] 0] 257))]⟩
 |_=>⟨50,0,[(1,.pt 0 0),(5,.pt 1 0),(6,.val (.int .i64 (-1)))],[(0,some (.cells [.val (.bool false),.isl false [.val (.int .u32 x)] 1] 58)),(1,some (.cells [.pt 1 0,.sl 2 0 s.size 1] 257)),(2,some (.cells (cI .u8 (byL s)) 5))]⟩
theorem Uq{x:Int}(hs:0<s.size)(hs2:s.size<=1000)(hx:0<=x)(hx2:x<1000000000)(hc:ACall Tryz.prog 188 [.isl false [.val (.bool false),.isl false [.val (.int .u32 x)] 1] 1] [] 0 (.val (.int .i64 0)) [])(hi:ACall Tryz.prog 208 [.val (.int .i64 x)] [] 0 (.val (.string s)) []):
 ACall Tryz.prog 215 [.agg [.val (.bool false),.isl false [.val (.int .u32 x)] 1]] [] 0 (.tup [.val (.string s),.val (.int .i64 0)]) []:=by
 have hc:=PLift.up hc;have hi:=PLift.up hi;have hw:=PLift.up (Un hs hs2);have hb:=PLift.up (aaf hs hs2)
 refine az Tryz.func215 Tryz.ntmps215 rfl ?_
 repeat' (first|(refine ah ?_;refine ak [0,2,9] ([0,2,9].length) (fmI x s) (λq=>1-q.val) (⟨0,omgz⟩) rfl (by unfold fmI;exact jZ) ?_;(rintro⟨q,hq⟩;have hq2:q=0\/q=1:=omgz;rcases hq2 with hq2|hq2<;>subst hq2<;>(simp-dsimp only[fmI];refine zqS ?_)))|(refine aj ?_;refine Nxt.mk [0,1,2] (⟨1,omgz⟩) rfl (by unfold fmI;exact jZ) zqO)|(refine ah ?_;refine ak [0,1,9] ([0,1,9].length) (fmI x s) (λq=>1-q.val) (⟨0,omgz⟩) rfl (by unfold fmI;exact jZ) ?_;(rintro⟨q,hq⟩;have hq2:q=0\/q=1:=omgz;rcases hq2 with hq2|hq2<;>subst hq2<;>(simp-dsimp only[fmI];refine zqS ?_)))|(refine aj ?_;refine Nxt.mk [0,1,2] (⟨1,omgz⟩) rfl (by unfold fmI;exact jZ) zqO)|(refine aj ?_;refine Nxt.mk [0,1,3] (⟨1,omgz⟩) rfl (by unfold fmI;exact jZ) zqO)|refine zqN ?_|((first|refine ay rfl (λK hK=>?_)|refine au (λK hK=>?_));(first|refine ai (f:=188) [] 0 true ?_|refine ai (f:=208) [] 0 false ?_|refine ai (f:=222) [1,2] 0 false ?_);refine mg ?_;(first|refine⟨_,_,hc.down,?_⟩|refine⟨_,_,hi.down,?_⟩|refine⟨_,_,hb.down,?_⟩);refine jo ?_;apply hK;clear hK K)|((first|refine ay rfl (λK hK=>?_)|refine au (λK hK=>?_));(first|(refine ai (f:=220) [1] 1 false ?_;refine mg ?_;refine⟨_,_,hw.down,?_⟩;refine jo ?_;apply hK;clear hK K)|(refine ai (f:=220) [2] 1 false ?_;refine mg ?_;refine⟨_,_,hw.down,?_⟩;refine jo ?_;apply hK;clear hK K)))|refine aY ?_|refine aZ ?_|(refine bf ?_ ?_<;>intro hc<;>try exact zqM))
 all_goals exact aB []
def Ur(ng z z':Bool)(l1 l2:List Int)(n1 n2:Nat)(q:{q:Nat // q<=2}):St:=
 ⟨32,0,[(13,.sl 0 0 2 2),(14,.val (.int .i64 2)),(15,.val (.int .i64 q.val))],[(0,some (.cells [.val (.bool false),.isl z (cI .u32 l1) n1,.val (.bool false),.isl z' (cI .u32 l2) n2] 58))]⟩
theorem Am{n1 n2:Nat} {l1 l2:List Int}(hs:s.size<=20)(hs2:s2.size<=20)(h1:ACall Tryz.prog 215 [.agg [.val (.bool false),.isl z (cI .u32 l1) n1]] [] 0 (.tup [.val (.string s),.val (.int .i64 0)]) [])(h2:ACall Tryz.prog 215 [.agg [.val (.bool false),.isl z' (cI .u32 l2) n2]] [] 0 (.tup [.val (.string s2),.val (.int .i64 0)]) []){ng:Bool}:
 ACall Tryz.prog 201 [.agg [.val (.bool ng),.isl z (cI .u32 l1) n1,.val (.bool false),.isl z' (cI .u32 l2) n2]] [] 0 (.val (.bool true)) []:=by
 have h1:=PLift.up h1;have h2:=PLift.up h2
 have zx1:¬(20:Int)<s.size:=by omega
 have zx2:¬(20:Int)<s2.size:=by omega
 have zx3:¬20<s.size:=by omega
 have zx4:¬20<s2.size:=by omega
 refine az Tryz.func201 Tryz.ntmps201 rfl ?_
 have zx5:=aA;have zx6:=aA;repeat' (first|(refine ah ?_;refine ak [1] ([1].length) (Ur ng z z' l1 l2 n1 n2) (λq=>2-q.val) (⟨0,omgz⟩) rfl (by unfold Ur;exact dK) ?_;(rintro⟨q,hq⟩;have hq2:q=0\/q=1\/q=2:=omgz;rcases hq2 with hq2|hq2|hq2<;>subst hq2<;>(simp-dsimp only[Ur];refine zqS ?_)))|(refine aj ?_;refine Nxt.mk [0] (⟨1,omgz⟩) rfl (by unfold Ur;exact dK) zqO)|(refine aj ?_;refine Nxt.mk [0] (⟨2,omgz⟩) rfl (by unfold Ur;exact dK) zqO)|refine zqN ?_|((first|refine ay rfl (λK hK=>?_)|refine au (λK hK=>?_));(first|(refine ai (f:=215) [] 0 false ?_;refine vT ?_;refine⟨_,_,h1.down,?_⟩;refine nP ?_;apply hK;clear hK K)|(refine ai (f:=215) [] 0 false ?_;refine vT ?_;refine⟨_,_,h2.down,?_⟩;refine nP ?_;apply hK;clear hK K)))|refine kI ?_|refine kJ ?_|(refine kK ?_ ?_<;>intro hc<;>try exact zqM))
 all_goals exact aB []
end
section
open Go Go.Sy Go.Bp Go.Lm Go.Rt
attribute [local irreducible] AO AL AC OpT ACall Ends DGo aK Thn Blk Nxt
variable {n N M k i m j r w L:Nat} {z z' cz:Bool} {v c e:Int} {X Y W:RV} {rs A:List RL} {B C xs:List RV} {p:RL->Bool}
def ilI(z:Bool)(F:Nat)(c:Int)(p:RL->Bool)(rs:List RL)(n:Nat)(j:{j:Nat // j<=n/\∀i,i<j->p (rs.getD i default)=false}):St:=
 ⟨19,0,[(0,.isl z (cX rs) n),(1,.fn F [.ipt [.val (.int .i64 c)] 0]),(7,.val (.int .i64 n)),(8,.val (.int .i64 j.val))],[]⟩
theorem aag{F:FuncId} [eU Tryz.prog F](p:RL->Bool)(hl:rs.length=n)(hn:n<=10000)(hf:∀t:RL,ACall Tryz.prog F [.isl t.z (cR t.l) t.l.length,.ipt [.val (.int .i64 c)] 0] [] 0 (.val (.bool (p t))) []):
 ACall Tryz.prog 200 [.isl z (cX rs) n,.fn F [.ipt [.val (.int .i64 c)] 0]] [] 0 (.val (.int .i64 (ix p rs))) []:=by
 refine az Tryz.func200 Tryz.ntmps200 rfl ?_
 have zx1:= @lq;have zx2:=aA;have zx3:=aA;repeat' (first|(refine ah ?_;refine ak [] ([].length) (ilI z F c p rs n) (λj=>n-j.val) (⟨0,omgz,λi hi=>absurd hi omgz⟩) rfl (by unfold ilI;exact ed) ?_;(rintro⟨j,hj,hnb⟩;(simp-dsimp only[ilI];refine zqS ?_)))|(refine aj ?_;refine Nxt.mk [] (⟨j+1,omgz,kW hnb (by assumption)⟩) rfl (by unfold ilI;exact ed) zqO)|refine zqN ?_|((first|refine ay rfl (λK hK=>?_)|refine au (λK hK=>?_));(first|refine gq (f:=F) [] 0 false ?_);refine zu ?_;(first|refine⟨_,_,hf (rs.getD j default),?_⟩);refine rG ?_;apply hK;clear hK K)|refine dm ?_|refine dn ?_|(refine dw ?_ ?_<;>intro hc<;>try exact zqM))
 all_goals first
  |(have e:ix p rs=j:=oD omgz hnb (by assumption);exact fu [] @e;done)
  |(have ej:j=n:=omgz;subst ej;subst hl;have e:ix p rs= -1:=lG hnb;exact fu [] @e;done)
  |skip
theorem Us{F:FuncId} [eU Tryz.prog F](p:RL->Bool)(hl:rs.length=n)(hn:n<=10000)(hf:∀t:RL,ACall Tryz.prog F [.isl t.z (cR t.l) t.l.length,.ipt [.val (.int .i64 c)] 0] [] 0 (.val (.bool (p t))) []):
 ACall Tryz.prog 165 [.isl z (cX rs) n,.fn F [.ipt [.val (.int .i64 c)] 0]] [] 0 (.val (.bool (rs.any p))) []:=by
 refine az Tryz.func165 Tryz.ntmps165 rfl ?_
 have zx1:= @jh;have zx2:=aA;have zx3:=aA;repeat' (first|refine zqN ?_|refine eG (aag p hl hn hf) ?_|refine dm ?_|refine dn ?_|(refine dw ?_ ?_<;>intro hc<;>try exact zqM))
 all_goals exact fu [] @jh
theorem ahs{t:RL}:ACall Tryz.prog 166 [.isl t.z (cR t.l) t.l.length,.ipt [.val (.int .i64 c)] 0] [] 0 (.val (.bool (!decide ((t.l.length:Int)=c)))) []:=by
 refine az Tryz.func166 Tryz.ntmps166 rfl ?_
 repeat' (first|refine zqN ?_|refine aY ?_|refine aZ ?_|(refine bf ?_ ?_<;>intro hc<;>try exact zqM))
 all_goals exact aB []
theorem Ut(hn:rs.length=n)(hb:n<=10000):ACall Tryz.prog 168 [.isl false (cX rs) n] [] 0 (.sl 0 0 n 1) [.cells (cX rs) 103]:=by
 refine az Tryz.func168 Tryz.ntmps168 rfl ?_
 repeat' (first|refine zqN ?_|refine aY ?_|refine mf ?_|refine mW ?_|refine mY ?_|refine aZ ?_|(refine bf ?_ ?_<;>intro hc<;>try exact zqM))
 all_goals exact aB [1]
def nuI(rs:List RL)(n:Nat)(i:{i:Nat // i<=n}):St:=
 ⟨29,0,[(3,.val (.int .i64 0)),(8,.isl false (cX rs) n),(9,.val (.int .i64 n)),(10,.val (.int .i64 i.val))],[]⟩
def nuJ(rs:List RL)(n i:Nat)(t:RL)(N:Nat)(j:{j:Nat // j<=N}):St:=
 ⟨29,0,[(3,.val (.int .i64 0)),(8,.isl false (cX rs) n),(9,.val (.int .i64 n)),(10,.val (.int .i64 i)),(14,.isl t.z (cR t.l) N),(15,.val (.int .i64 N)),(16,.val (.int .i64 j.val))],[]⟩
theorem DX(hl:rs.length=n)(hn:n<=1000)(hL:∀i,i<n->(rs.getD i default).l.length<=1000)(hv:∀i j,i<n->j<(rs.getD i default).l.length->ACall Tryz.prog 102 [.agg (aa.cells ((rs.getD i default).l.getD j default))] [] 0 (.val (.bool true)) [])
 (hs:∀i j,i<n->j<(rs.getD i default).l.length->ACall Tryz.prog 201 [.agg (aa.cells ((rs.getD i default).l.getD j default))] [] 0 (.val (.bool true)) []):ACall Tryz.prog 167 [.isl false (cX rs) n] [] 0 (.val (.int .i64 0)) []:=by
 have hvq:=λ(i j:Nat) (h:i<n) (h2:j<(rs.getD i default).l.length)=>PLift.up (hv i j h h2)
 have hsq:=λ(i j:Nat) (h:i<n) (h2:j<(rs.getD i default).l.length)=>PLift.up (hs i j h h2)
 clear hv hs
 have hvj:=ae;have hsj:=ae
 refine az Tryz.func167 Tryz.ntmps167 rfl ?_
 have zx1:= @lq;have zx2:=aA;have zx3:=aA;repeat' (first|(refine ah ?_;refine ak [] ([].length) (nuJ rs n i (rs.getD i default) (rs.getD i default).l.length) (λj=>(rs.getD i default).l.length-j.val) (⟨0,omgz⟩) rfl (by unfold nuJ;exact ed) ?_;(rintro⟨j,hj⟩;have hLi:=hL i hil;rcases Nat.lt_or_eq_of_le hj with hjl|hjl<;>first|(have hvj:=hvq i j hil hjl;have hsj:=hsq i j hil hjl;(simp-dsimp only[nuJ];refine zqS ?_))|(subst hjl;(simp-dsimp only[nuJ];refine zqS ?_))))|(refine aj ?_;refine Nxt.mk [] (⟨j+1,omgz⟩) rfl (by unfold nuJ;exact ed) zqO)|(refine ah ?_;refine ak [] ([].length) (nuI rs n) (λi=>n-i.val) (⟨0,omgz⟩) rfl (by unfold nuI;exact ed) ?_;(rintro⟨i,hi⟩;rcases Nat.lt_or_eq_of_le hi with hil|hil<;>first|(have hLi:=hL i hil;(simp-dsimp only[nuI];refine zqS ?_))|(subst hil;(simp-dsimp only[nuI];refine zqS ?_))))|(refine aj ?_;refine Nxt.mk [] (⟨i+1,omgz⟩) rfl (by unfold nuI;exact ed) zqO)|refine zqN ?_|refine eG hvj.down ?_|refine eG hsj.down ?_|refine dm ?_|refine dn ?_|(refine dw ?_ ?_<;>intro hc<;>try exact zqM))
 all_goals exact aB []
theorem aht(h:ACall Tryz.prog 170 [.agg (aa.cells X)] [] 0 (.val (.int .i64 c)) []):ACall Tryz.prog 169 [.agg (aa.cells X)] [] 0 (.val (.bool (decide (c<0)))) []:=by
 have h:=PLift.up h
 rw[ax X]
 refine az Tryz.func169 Tryz.ntmps169 rfl ?_
 repeat' (first|refine zqN ?_|refine aM h.down ?_|refine aY ?_|refine aZ ?_|(refine bf ?_ ?_<;>intro hc<;>try exact zqM))
 all_goals exact aB []
theorem aah{f:AV->AV} {l:List AV} {a b:AV}:(l++[a,b]).map f=l.map f++[f a,f b]:=by simp
theorem Gw(hm:1<=m)(hm2:m<=14)(hn:1<=n)(hn2:n<=400)(hA:A.length=m)(hB:B.length=m)(hC:C.length=n)(hc:ACall Tryz.prog 165 [.isl false (cX A) m,.fn 166 [.ipt [.val (.int .i64 n)] 0]] [] 0 (.val (.bool false)) [])
 (hcl:ACall Tryz.prog 168 [.isl false (cX A) m] [] 0 (.sl 0 0 m 1) [.cells (cX A) 103]) (hnu:ACall Tryz.prog 167 [.sl 0 0 (m+2) 1] [.cells (cX A++[.isl cz (cR B) m,.isl false (cR C) n]) 103] 0 (.val (.int .i64 0)) []) (h2:ACall Tryz.prog 134 [.isl cz (cR B) m,.fn 169 []] [] 0 (.val (.bool false)) []):
 ACall Tryz.prog 127 [.agg [.isl false (cX A) m,.isl cz (cR B) m,.isl false (cR C) n]] [] 0 (.val (.int .i64 0)) []:=by
 have hcx:=PLift.up hc;have hcl:=PLift.up hcl;have hnu:=PLift.up hnu;have h2:=PLift.up h2
 have tka:(cX A++[AV.isl cz (cR B) m,.isl false (cR C) n]).take (m+2)=cX A++[AV.isl cz (cR B) m,.isl false (cR C) n]:=List.take_of_length_le (by rw[List.length_append,zo,hA];exact Nat.le_refl _)
 have zx1:¬m<1:=by omega
 have zx2:¬14<m:=by omega
 have zx3:¬n<1:=by omega
 have zx4:¬400<n:=by omega
 refine az Tryz.func127 Tryz.ntmps127 rfl ?_
 have zx5:= @aah;have zx6:=aA;repeat' (first|refine zqN ?_|((first|refine ay rfl (λK hK=>?_)|refine au (λK hK=>?_)|refine aD (λK hK=>?_));(first|refine ai (f:=165) [] 0 true ?_|refine ai (f:=168) [] 0 false ?_|refine ai (f:=167) [4] 0 false ?_|refine ai (f:=134) [] 0 false ?_);refine vT ?_;(first|refine⟨_,_,hcx.down,?_⟩|refine⟨_,_,hcl.down,?_⟩|refine⟨_,_,hnu.down,?_⟩|refine⟨_,_,h2.down,?_⟩);refine nP ?_;apply hK;clear hK K)|refine kI ?_|refine uy ?_|refine uz ?_|refine uA ?_|refine kJ ?_|(refine kK ?_ ?_<;>intro hc<;>try exact zqM)|refine zqR [(1,6,[],1),(1,8,[2],0),(6,2,[],1),(6,7,[],1),(6,8,[2],1),(6,9,[2],0)] ?_|refine zqD ?_|fail)
 all_goals exact aB []
end
set_option maxHeartbeats 20000000
section
open Go Go.Sy Go.Bp Go.Lm Go.Rt
attribute [local irreducible] AO AL AC OpT ACall Ends DGo aK Thn Blk Nxt
def UG(I n W k:Nat)(b:List Int)(p:RV)(d:Nat->RV)(Rw:Nat->List RV)(j:{j:Nat // j<=W}):St:=
 ⟨148,7,[(0,.pt 0 0),(1,.val (.int .i64 (I:Nat))),(2,.val (.int .i64 k)),(6,.pt 7 0),(29,.val (.int .i64 W)),(30,.val (.int .i64 j.val))],
   [(0,some (.cells [.val (.int .i64 3),.val (.int .i64 n),.sl 1 0 4 1,.sl 2 0 3 1,.val (.int .i64 0)] 197)),(1,some (.cells [.sl 3 0 W 4,.sl 4 0 W 4,.sl 5 0 W 4,.sl 6 0 W 4] 103)),(2,some (.cells (cI .i64 b) 3)),(3,some (.cells (cR (if 0=I then dvL (Rw 0) d j.val else Rw 0)) 60)),(4,some (.cells (cR (if 1=I then dvL (Rw 1) d j.val else Rw 1)) 60)),(5,some (.cells (cR (if 2=I then dvL (Rw 2) d j.val else Rw 2)) 60)),(6,some (.cells (cR (if 3=I then dvL (Rw 3) d j.val else Rw 3)) 60)),(7,some (.cells [.val (.bool p.num.neg),.isl p.num.z (cI .u32 p.num.l) p.num.l.length,.val (.bool p.den.neg),.isl p.den.z (cI .u32 p.den.l) p.den.l.length] 60))]⟩
def Ea(I n W k:Nat)(b:List Int)(New Rw:Nat->List RV)(r:{r:Nat // r<=4}):St:=
 ⟨148,7,[(0,.pt 0 0),(1,.val (.int .i64 (I:Nat))),(2,.val (.int .i64 k)),(63,.val (.int .i64 4)),(64,.val (.int .i64 r.val))],
   [(0,some (.cells [.val (.int .i64 3),.val (.int .i64 n),.sl 1 0 4 1,.sl 2 0 3 1,.val (.int .i64 0)] 197)),(1,some (.cells [.sl 3 0 W 4,.sl 4 0 W 4,.sl 5 0 W 4,.sl 6 0 W 4] 103)),(2,some (.cells (cI .i64 b) 3)),(3,some (.cells (cR (if 0=I\/0<r.val then New 0 else Rw 0)) 60)),(4,some (.cells (cR (if 1=I\/1<r.val then New 1 else Rw 1)) 60)),(5,some (.cells (cR (if 2=I\/2<r.val then New 2 else Rw 2)) 60)),(6,some (.cells (cR (if 3=I\/3<r.val then New 3 else Rw 3)) 60))]⟩
def Ox(I q n W k:Nat)(b:List Int)(F:RV)(X:Nat->List RV)(New Rw:Nat->List RV)(j:{j:Nat // j<=W}):St:=
 ⟨148,7,[(0,.pt 0 0),(1,.val (.int .i64 (I:Nat))),(2,.val (.int .i64 k)),(8,.val (.int .i64 (q:Nat))),(9,.pt 7 0),(63,.val (.int .i64 4)),(64,.val (.int .i64 (q:Nat))),(91,.sl (3+I) 0 W 4),(92,.val (.int .i64 W)),(93,.val (.int .i64 j.val))],
   [(0,some (.cells [.val (.int .i64 3),.val (.int .i64 n),.sl 1 0 4 1,.sl 2 0 3 1,.val (.int .i64 0)] 197)),(1,some (.cells [.sl 3 0 W 4,.sl 4 0 W 4,.sl 5 0 W 4,.sl 6 0 W 4] 103)),(2,some (.cells (cI .i64 b) 3)),(3,some (.cells (cR (if 0=I\/0<q then New 0 else if 0=q then X j.val else Rw 0)) 60)),(4,some (.cells (cR (if 1=I\/1<q then New 1 else if 1=q then X j.val else Rw 1)) 60)),(5,some (.cells (cR (if 2=I\/2<q then New 2 else if 2=q then X j.val else Rw 2)) 60)),(6,some (.cells (cR (if 3=I\/3<q then New 3 else if 3=q then X j.val else Rw 3)) 60)),(7,some (.cells [.val (.bool F.num.neg),.isl F.num.z (cI .u32 F.num.l) F.num.l.length,.val (.bool F.den.neg),.isl F.den.z (cI .u32 F.den.l) F.den.l.length] 60))]⟩
def xm(I q:Nat):Prop:=∀{n W k:Nat} {b:List Int} {sx:Nat->Int} {d mu su:Nat->RV} {Rw New:Nat->List RV} {c:Int} {F:RV} {Y:List RV} {Q:Exit->Nat->St->Prop} (hr:q<=4) (hW:W<=500) (hk:k<W) (hY:Rw q=Y) (hlq:Y.length=W) (hlN:(New I).length=W) (hNx:∀j,j<W->(New I).getD j default=d j) (hfq:Y.getD k default=F) (hs:ACall Tryz.prog 170 [.agg (aa.cells F)] [] 0 (.val (.int .i64 c)) []) (hx:∀j,j<W->ACall Tryz.prog 170 [.agg (aa.cells (d j))] [] 0 (.val (.int .i64 (sx j))) [])
    (hm:∀j,¬c=0->j<W->¬sx j=0->ACall Tryz.prog 99 [.agg (aa.cells F),.agg (aa.cells (d j))] [] 0 (.tup [.agg (aa.cells (mu j)),.val (.int .i64 0)]) []) (hu:∀j,¬c=0->j<W->¬sx j=0->ACall Tryz.prog 137 [.agg (aa.cells (Y.getD j default)),.agg (aa.cells (mu j))] [] 0 (.tup [.agg (aa.cells (su j)),.val (.int .i64 0)]) [])
    (hz:c=0->New q=Y) (ho:¬c=0->New q=sbR Y (λj=>sx j=0) su W),
    AC Tryz.prog (cAt [1,1,0,1,0,0] (Tryz.f175.body.getD .skip)) (Thn (λ_ s=>Nxt (Ea I n W k b New Rw) (λr=>4-r.val) ([0,1,2,3,4,5,6]:List Nat).length ⟨q,hr⟩ s) Q) ([0,1,2,3,4,5,6]:List Nat).length (Ea I n W k b New Rw ⟨q,hr⟩)
theorem Eb{P:Prop}(h:P:=by
 intro I q hI hq n W k b sx d mu su Rw New c F Y Q hr hW hk hY hlq hlN hNx hfq hs hx hm hu hz ho
 have hsr:=PLift.up hs;have hxq:=λ(j:Nat) (h:j<W)=>PLift.up (hx j h)
 have hmq:=λ(j:Nat) (h3:¬c=0) (h4:j<W) (h5:¬sx j=0)=>PLift.up (hm j h3 h4 h5);have huq:=λ(j:Nat) (h3:¬c=0) (h4:j<W) (h5:¬sx j=0)=>PLift.up (hu j h3 h4 h5)
 clear hs hx hm hu
 have hcl:=λ(X:RV)=>PLift.up (uX (X:=X))
 have hbq:sbR Y (λj=>sx j=0) su 0=Y:=rfl
 obtain⟨S,hS⟩:∃S,S=Ox I q n W k b F (λj=>sbR Y (λj=>sx j=0) su j) New Rw:=⟨_,rfl⟩
 obtain⟨q1,hq1⟩:∃q1,q1=q+1:=⟨_,rfl⟩
 subst hI;subst hq
 have zx1:=And.intro hY (And.intro hlq (And.intro hlN (And.intro hfq (And.intro hbq hq1))))
 have zx2:=ae;have zx3:=ae;have zx4:=ae;have zx5:=ae;have zx6:=ae;have hmj:=ae;have huj:=ae;have zx8:=ae;have zx9:=ae;have zx10:=ae;have hxs:=ae
 rcases Decidable.em (c=0) with zx7|zx7<;>first|(have zx8:=hz zx7;clear ho;(simp-dsimp only[Ea];refine zqS ?_))|(clear hz;(simp-dsimp only[Ea];refine zqS ?_))
 all_goals(have zx11:=aA;have zx12:=aA;repeat' (first|(refine ah ?_;refine ak [0,1,2,3,4,5,6,7] ([0,1,2,3,4,5,6,7].length) (S) (λj=>W-j.val) (⟨0,omgz⟩) rfl (by rw[hS];unfold Ox;exact cO) ?_;(rintro⟨j,hj⟩;rw[hS];have zx5:=(jW (R:=Y) (p:=λj=>sx j=0) (d:=su) (j:=j)).trans hlq;rcases Nat.lt_or_eq_of_le hj with hjl|hjl<;>first|(have eQ:=hjl.symm;subst eQ;have zx9:=(ho zx7).symm;clear ho;(simp-dsimp only[Ox];refine zqS ?_))|(have zx4:=hNx j hjl;have hxs:=hxq j hjl;rcases Decidable.em (sx j=0) with zx3|zx3<;>first|(have zx2:=Ui (R:=Y) (p:=λj=>sx j=0) (d:=su) zx3;(simp-dsimp only[Ox];refine zqS ?_))|(have zx6:=JH (R:=Y) (p:=λj=>sx j=0) (d:=su) (Nat.le_refl j);have hmj:=hmq j zx7 hjl zx3;have huj:=huq j zx7 hjl zx3;have zx2:=(Uj (R:=Y) (p:=λj=>sx j=0) (d:=su) zx3).symm;have zx10:=wX (X:=su j) (ps:=sbR Y (λj=>sx j=0) su j) (sv:=j) omgz;(simp-dsimp only[Ox];refine zqS ?_)))))|(refine aj ?_;refine Nxt.mk [0,1,2,3,4,5,6,7] (⟨j+1,omgz⟩) rfl (by unfold Ox;exact cO) zqO)|(refine aj ?_;refine Nxt.mk [0,1,2,3,4,5,6] (⟨q1,omgz⟩) rfl (by unfold Ea;exact cO) zqO)|refine zqN ?_|refine jq hsr.down ?_|refine jq hxs.down ?_|refine jq hmj.down ?_|refine jq huj.down ?_|refine jq (hcl _).down ?_|refine nQ ?_|refine nR ?_|(refine nS ?_ ?_<;>intro hc<;>try exact zqM)|refine zqR [(4,25,[2],0),(15,31,[6,7,8,9],0)] ?_|refine zqD ?_|fail))
 all_goals trace_state):P:=h
def aap(I:Nat):Prop:=∀{n W k:Nat} {b:List Int} {p:RV} {d:Nat->RV} {sx:Nat->Int} {sg:Nat->Int} {f:Nat->RV} {mu su:Nat->Nat->RV} {Rw New:Nat->List RV} (hW:W<=500) (hk:k<W) (hl:∀r,r<=3->(Rw r).length=W) (hb:b.length=3) (hp:(Rw I).getD k default=p) (hNi:New I=dvL (Rw I) d W)
    (hd:∀j,j<W->ACall Tryz.prog 96 [.agg (aa.cells ((Rw I).getD j default)),.agg (aa.cells p)] [] 0 (.tup [.agg (aa.cells (d j)),.val (.int .i64 0)]) [])
    (hf:∀r,r<=3->¬r=I->(Rw r).getD k default=f r) (hs:∀r,r<=3->¬r=I->ACall Tryz.prog 170 [.agg (aa.cells (f r))] [] 0 (.val (.int .i64 (sg r))) []) (hx:∀j,j<W->ACall Tryz.prog 170 [.agg (aa.cells (d j))] [] 0 (.val (.int .i64 (sx j))) [])
    (hm:∀r j,r<=3->¬r=I->¬sg r=0->j<W->¬sx j=0->ACall Tryz.prog 99 [.agg (aa.cells (f r)),.agg (aa.cells (d j))] [] 0 (.tup [.agg (aa.cells (mu r j)),.val (.int .i64 0)]) [])
    (hu:∀r j,r<=3->¬r=I->¬sg r=0->j<W->¬sx j=0->ACall Tryz.prog 137 [.agg (aa.cells ((Rw r).getD j default)),.agg (aa.cells (mu r j))] [] 0 (.tup [.agg (aa.cells (su r j)),.val (.int .i64 0)]) [])
    (hN0:∀r,r<=3->¬r=I->sg r=0->New r=Rw r) (hN1:∀r,r<=3->¬r=I->¬sg r=0->New r=sbR (Rw r) (λj=>sx j=0) (su r) W),
    ACall Tryz.prog 175 [.pt 0 0,.val (.int .i64 (I:Nat)),.val (.int .i64 k)] [.cells [.val (.int .i64 3),.val (.int .i64 n),.sl 1 0 4 1,.sl 2 0 3 1,.val (.int .i64 0)] 197,.cells [.sl 3 0 W 4,.sl 4 0 W 4,.sl 5 0 W 4,.sl 6 0 W 4] 103,.cells (cI .i64 b) 3,.cells (cR (Rw 0)) 60,.cells (cR (Rw 1)) 60,.cells (cR (Rw 2)) 60,.cells (cR (Rw 3)) 60] 7 (.tup []) [.cells [.val (.int .i64 3),.val (.int .i64 n),.sl 1 0 4 1,.sl 2 0 3 1,.val (.int .i64 0)] 197,.cells [.sl 3 0 W 4,.sl 4 0 W 4,.sl 5 0 W 4,.sl 6 0 W 4] 103,.cells (cI .i64 (b.set I (k:Int))) 3,.cells (cR (New 0)) 60,.cells (cR (New 1)) 60,.cells (cR (New 2)) 60,.cells (cR (New 3)) 60]
theorem ahC{P:Prop}(h:P:=by
 intro I hI hR n W k b p d sx sg f mu su Rw New hW hk hl hb hp hNi hd hf hs hx hm hu hN0 hN1
 have hdq:=λ(j:Nat) (h:j<W)=>PLift.up (hd j h)
 have hcl:=λ(X:RV)=>PLift.up (uX (X:=X))
 have hlI:(Rw I).length=W:=hl I omgz
 have hlN:(New I).length=W:=by rw[hNi,oJ];exact hlI
 have hNx:∀j,j<W->(New I).getD j default=d j:=λj hj=>by rw[hNi];exact JG hj omgz
 have hNk:=hNx k hk
 have hRq:=λ(q:Nat) (h1:q<=3) (h2:¬q=I)=>PLift.up (λ(Q:Exit->Nat->St->Prop) (hr:q<=4)=>hR q h1 h2 (n:=n) (b:=b) (Q:=Q) (c:=sg q) (F:=f q) (d:=d) (mu:=mu q) (su:=su q) hr hW hk rfl (hl q h1) hlN hNx (hf q h1 h2) (hs q h1 h2) hx (λj h0 h3 h4=>hm q j h1 h2 h0 h3 h4) (λj h0 h3 h4=>hu q j h1 h2 h0 h3 h4) (hN0 q h1 h2) (hN1 q h1 h2))
 clear hd hs hx hm hu hl hf hN0 hN1 hNx hR
 have hNf:dvL (Rw I) d W=New I:=hNi.symm
 have hd0:dvL (Rw I) d 0=Rw I:=rfl
 clear hNi
 obtain⟨Y,hY⟩:∃Y,Y=Rw I:=⟨_,rfl⟩
 obtain⟨S1,hS1⟩:∃S,S=UG I n W k b p d Rw:=⟨_,rfl⟩
 obtain⟨S2,hS2⟩:∃S,S=Ea I n W k b New Rw:=⟨_,rfl⟩
 obtain⟨i1,hi1⟩:∃i1,i1=I+1:=⟨_,rfl⟩
 subst hI
 rw[<-hY] at hlI hp hd0 hNf
 have hYs:=hY.symm
 rw[<-hY] at hdq
 clear hY
 have zx1:=And.intro hYs (And.intro hlI (And.intro hlN (And.intro hp (And.intro hd0 (And.intro hNf (And.intro hNk hi1))))))
 have hdj:=ae;have zx3:=ae;have zx2:=ae;have zx4:=ae;have zx5:=ae
 refine az Tryz.func175 Tryz.ntmps175 rfl ?_
 have zx6:=aA;repeat' (first|(refine ah ?_;refine ak [0,1,2,3,4,5,6,7] ([0,1,2,3,4,5,6,7].length) (S1) (λj=>W-j.val) (⟨0,omgz⟩) rfl (by rw[hS1];unfold UG;exact dK) ?_;(rintro⟨j,hj⟩;rw[hS1];have zx3:=(oJ (R:=Y) (d:=d) (j:=j)).trans hlI;rcases Nat.lt_or_eq_of_le hj with hjl|hjl<;>first|(have eQ:=hjl.symm;subst eQ;(simp-dsimp only[UG];refine zqS ?_))|(have hdj:=hdq j hjl;have zx2:=Uh (R:=Y) (d:=d) (Nat.le_refl j);have zx5:=wX (X:=d j) (ps:=dvL Y d j) (sv:=j) omgz;have zx4:(dvL Y d j).set j (d j)=dvL Y d (j+1):=rfl;(simp-dsimp only[UG];refine zqS ?_))))|(refine aj ?_;refine Nxt.mk [0,1,2,3,4,5,6,7] (⟨j+1,omgz⟩) rfl (by unfold UG;exact dK) zqO)|(refine ah ?_;refine ak [0,1,2,3,4,5,6] ([0,1,2,3,4,5,6].length) (S2) (λr=>4-r.val) (⟨0,omgz⟩) rfl (by rw[hS2];unfold Ea;exact dK) ?_;(rintro⟨r,hr⟩;rw[hS2];have hr2:r=0\/r=1\/r=2\/r=3\/r=4:=omgz;rcases hr2 with hr2|hr2|hr2|hr2|hr2<;>subst hr2<;>first|(exact(hRq _ omgz omgz).down _ _)|(simp-dsimp only[Ea];refine zqS ?_)))|(refine aj ?_;refine Nxt.mk [0,1,2,3,4,5,6] (⟨i1,omgz⟩) rfl (by unfold Ea;exact dK) zqO)|refine zqN ?_|refine o7 hdj.down ?_|refine o7 (hcl _).down ?_|refine kI ?_|refine kJ ?_|(refine kK ?_ ?_<;>intro hc<;>try exact zqM)|refine zqR [(4,25,[6,7,8,9],0),(15,31,[2],0)] ?_|refine zqD ?_|fail)
 all_goals first
  |(exact aB [0,1,2,3,4,5,6];done)
  |skip):P:=h
end
section
open Go Go.Sy Go.Bp Go.Lm Go.Rt
attribute [local irreducible] AO AL AC OpT ACall Ends DGo aK Thn Blk Nxt
def UV(I n W k:Nat)(b:List Int)(p:RV)(d:Nat->RV)(Rw:Nat->List RV)(j:{j:Nat // j<=W}):St:=
 ⟨148,13,[(0,.pt 0 0),(1,.val (.int .i64 (I:Nat))),(2,.val (.int .i64 k)),(6,.pt 13 0),(29,.val (.int .i64 W)),(30,.val (.int .i64 j.val))],
   [(0,some (.cells [.val (.int .i64 9),.val (.int .i64 n),.sl 1 0 10 1,.sl 2 0 9 1,.val (.int .i64 0)] 197)),(1,some (.cells [.sl 3 0 W 4,.sl 4 0 W 4,.sl 5 0 W 4,.sl 6 0 W 4,.sl 7 0 W 4,.sl 8 0 W 4,.sl 9 0 W 4,.sl 10 0 W 4,.sl 11 0 W 4,.sl 12 0 W 4] 103)),(2,some (.cells (cI .i64 b) 3)),(3,some (.cells (cR (if 0=I then dvL (Rw 0) d j.val else Rw 0)) 60)),(4,some (.cells (cR (if 1=I then dvL (Rw 1) d j.val else Rw 1)) 60)),(5,some (.cells (cR (if 2=I then dvL (Rw 2) d j.val else Rw 2)) 60)),(6,some (.cells (cR (if 3=I then dvL (Rw 3) d j.val else Rw 3)) 60)),(7,some (.cells (cR (if 4=I then dvL (Rw 4) d j.val else Rw 4)) 60)),(8,some (.cells (cR (if 5=I then dvL (Rw 5) d j.val else Rw 5)) 60)),(9,some (.cells (cR (if 6=I then dvL (Rw 6) d j.val else Rw 6)) 60)),(10,some (.cells (cR (if 7=I then dvL (Rw 7) d j.val else Rw 7)) 60)),(11,some (.cells (cR (if 8=I then dvL (Rw 8) d j.val else Rw 8)) 60)),(12,some (.cells (cR (if 9=I then dvL (Rw 9) d j.val else Rw 9)) 60)),(13,some (.cells [.val (.bool p.num.neg),.isl p.num.z (cI .u32 p.num.l) p.num.l.length,.val (.bool p.den.neg),.isl p.den.z (cI .u32 p.den.l) p.den.l.length] 60))]⟩
def Ei(I n W k:Nat)(b:List Int)(New Rw:Nat->List RV)(r:{r:Nat // r<=10}):St:=
 ⟨148,13,[(0,.pt 0 0),(1,.val (.int .i64 (I:Nat))),(2,.val (.int .i64 k)),(63,.val (.int .i64 10)),(64,.val (.int .i64 r.val))],
   [(0,some (.cells [.val (.int .i64 9),.val (.int .i64 n),.sl 1 0 10 1,.sl 2 0 9 1,.val (.int .i64 0)] 197)),(1,some (.cells [.sl 3 0 W 4,.sl 4 0 W 4,.sl 5 0 W 4,.sl 6 0 W 4,.sl 7 0 W 4,.sl 8 0 W 4,.sl 9 0 W 4,.sl 10 0 W 4,.sl 11 0 W 4,.sl 12 0 W 4] 103)),(2,some (.cells (cI .i64 b) 3)),(3,some (.cells (cR (if 0=I\/0<r.val then New 0 else Rw 0)) 60)),(4,some (.cells (cR (if 1=I\/1<r.val then New 1 else Rw 1)) 60)),(5,some (.cells (cR (if 2=I\/2<r.val then New 2 else Rw 2)) 60)),(6,some (.cells (cR (if 3=I\/3<r.val then New 3 else Rw 3)) 60)),(7,some (.cells (cR (if 4=I\/4<r.val then New 4 else Rw 4)) 60)),(8,some (.cells (cR (if 5=I\/5<r.val then New 5 else Rw 5)) 60)),(9,some (.cells (cR (if 6=I\/6<r.val then New 6 else Rw 6)) 60)),(10,some (.cells (cR (if 7=I\/7<r.val then New 7 else Rw 7)) 60)),(11,some (.cells (cR (if 8=I\/8<r.val then New 8 else Rw 8)) 60)),(12,some (.cells (cR (if 9=I\/9<r.val then New 9 else Rw 9)) 60))]⟩
def OA(I q n W k:Nat)(b:List Int)(F:RV)(X:Nat->List RV)(New Rw:Nat->List RV)(j:{j:Nat // j<=W}):St:=
 ⟨148,13,[(0,.pt 0 0),(1,.val (.int .i64 (I:Nat))),(2,.val (.int .i64 k)),(8,.val (.int .i64 (q:Nat))),(9,.pt 13 0),(63,.val (.int .i64 10)),(64,.val (.int .i64 (q:Nat))),(91,.sl (3+I) 0 W 4),(92,.val (.int .i64 W)),(93,.val (.int .i64 j.val))],
   [(0,some (.cells [.val (.int .i64 9),.val (.int .i64 n),.sl 1 0 10 1,.sl 2 0 9 1,.val (.int .i64 0)] 197)),(1,some (.cells [.sl 3 0 W 4,.sl 4 0 W 4,.sl 5 0 W 4,.sl 6 0 W 4,.sl 7 0 W 4,.sl 8 0 W 4,.sl 9 0 W 4,.sl 10 0 W 4,.sl 11 0 W 4,.sl 12 0 W 4] 103)),(2,some (.cells (cI .i64 b) 3)),(3,some (.cells (cR (if 0=I\/0<q then New 0 else if 0=q then X j.val else Rw 0)) 60)),(4,some (.cells (cR (if 1=I\/1<q then New 1 else if 1=q then X j.val else Rw 1)) 60)),(5,some (.cells (cR (if 2=I\/2<q then New 2 else if 2=q then X j.val else Rw 2)) 60)),(6,some (.cells (cR (if 3=I\/3<q then New 3 else if 3=q then X j.val else Rw 3)) 60)),(7,some (.cells (cR (if 4=I\/4<q then New 4 else if 4=q then X j.val else Rw 4)) 60)),(8,some (.cells (cR (if 5=I\/5<q then New 5 else if 5=q then X j.val else Rw 5)) 60)),(9,some (.cells (cR (if 6=I\/6<q then New 6 else if 6=q then X j.val else Rw 6)) 60)),(10,some (.cells (cR (if 7=I\/7<q then New 7 else if 7=q then X j.val else Rw 7)) 60)),(11,some (.cells (cR (if 8=I\/8<q then New 8 else if 8=q then X j.val else Rw 8)) 60)),(12,some (.cells (cR (if 9=I\/9<q then New 9 else if 9=q then X j.val else Rw 9)) 60)),(13,some (.cells [.val (.bool F.num.neg),.isl F.num.z (cI .u32 F.num.l) F.num.l.length,.val (.bool F.den.neg),.isl F.den.z (cI .u32 F.den.l) F.den.l.length] 60))]⟩
def bL(I q:Nat):Prop:=∀{n W k:Nat} {b:List Int} {sx:Nat->Int} {d mu su:Nat->RV} {Rw New:Nat->List RV} {c:Int} {F:RV} {Y:List RV} {Q:Exit->Nat->St->Prop} (hr:q<=10) (hW:W<=500) (hk:k<W) (hY:Rw q=Y) (hlq:Y.length=W) (hlN:(New I).length=W) (hNx:∀j,j<W->(New I).getD j default=d j) (hfq:Y.getD k default=F) (hs:ACall Tryz.prog 170 [.agg (aa.cells F)] [] 0 (.val (.int .i64 c)) []) (hx:∀j,j<W->ACall Tryz.prog 170 [.agg (aa.cells (d j))] [] 0 (.val (.int .i64 (sx j))) [])
    (hm:∀j,¬c=0->j<W->¬sx j=0->ACall Tryz.prog 99 [.agg (aa.cells F),.agg (aa.cells (d j))] [] 0 (.tup [.agg (aa.cells (mu j)),.val (.int .i64 0)]) []) (hu:∀j,¬c=0->j<W->¬sx j=0->ACall Tryz.prog 137 [.agg (aa.cells (Y.getD j default)),.agg (aa.cells (mu j))] [] 0 (.tup [.agg (aa.cells (su j)),.val (.int .i64 0)]) [])
    (hz:c=0->New q=Y) (ho:¬c=0->New q=sbR Y (λj=>sx j=0) su W),
    AC Tryz.prog (cAt [1,1,0,1,0,0] (Tryz.f175.body.getD .skip)) (Thn (λ_ s=>Nxt (Ei I n W k b New Rw) (λr=>10-r.val) ([0,1,2,3,4,5,6,7,8,9,10,11,12]:List Nat).length ⟨q,hr⟩ s) Q) ([0,1,2,3,4,5,6,7,8,9,10,11,12]:List Nat).length (Ei I n W k b New Rw ⟨q,hr⟩)
theorem bU{P:Prop}(h:P:=by
 intro I q hI hq n W k b sx d mu su Rw New c F Y Q hr hW hk hY hlq hlN hNx hfq hs hx hm hu hz ho
 have hsr:=PLift.up hs;have hxq:=λ(j:Nat) (h:j<W)=>PLift.up (hx j h)
 have hmq:=λ(j:Nat) (h3:¬c=0) (h4:j<W) (h5:¬sx j=0)=>PLift.up (hm j h3 h4 h5);have huq:=λ(j:Nat) (h3:¬c=0) (h4:j<W) (h5:¬sx j=0)=>PLift.up (hu j h3 h4 h5)
 clear hs hx hm hu
 have hcl:=λ(X:RV)=>PLift.up (uX (X:=X))
 have hbq:sbR Y (λj=>sx j=0) su 0=Y:=rfl
 obtain⟨S,hS⟩:∃S,S=OA I q n W k b F (λj=>sbR Y (λj=>sx j=0) su j) New Rw:=⟨_,rfl⟩
 obtain⟨q1,hq1⟩:∃q1,q1=q+1:=⟨_,rfl⟩
 subst hI;subst hq
 have zx1:=And.intro hY (And.intro hlq (And.intro hlN (And.intro hfq (And.intro hbq hq1))))
 have zx2:=ae;have zx3:=ae;have zx4:=ae;have zx5:=ae;have zx6:=ae;have hmj:=ae;have huj:=ae;have zx8:=ae;have zx9:=ae;have zx10:=ae;have hxs:=ae
 rcases Decidable.em (c=0) with zx7|zx7<;>first|(have zx8:=hz zx7;clear ho;(simp-dsimp only[Ei];refine zqS ?_))|(clear hz;(simp-dsimp only[Ei];refine zqS ?_))
 all_goals(have zx11:=aA;have zx12:=aA;repeat' (first|(refine ah ?_;refine ak [0,1,2,3,4,5,6,7,8,9,10,11,12,13] ([0,1,2,3,4,5,6,7,8,9,10,11,12,13].length) (S) (λj=>W-j.val) (⟨0,omgz⟩) rfl (by rw[hS];unfold OA;exact cO) ?_;(rintro⟨j,hj⟩;rw[hS];have zx5:=(jW (R:=Y) (p:=λj=>sx j=0) (d:=su) (j:=j)).trans hlq;rcases Nat.lt_or_eq_of_le hj with hjl|hjl<;>first|(have eQ:=hjl.symm;subst eQ;have zx9:=(ho zx7).symm;clear ho;(simp-dsimp only[OA];refine zqS ?_))|(have zx4:=hNx j hjl;have hxs:=hxq j hjl;rcases Decidable.em (sx j=0) with zx3|zx3<;>first|(have zx2:=Ui (R:=Y) (p:=λj=>sx j=0) (d:=su) zx3;(simp-dsimp only[OA];refine zqS ?_))|(have zx6:=JH (R:=Y) (p:=λj=>sx j=0) (d:=su) (Nat.le_refl j);have hmj:=hmq j zx7 hjl zx3;have huj:=huq j zx7 hjl zx3;have zx2:=(Uj (R:=Y) (p:=λj=>sx j=0) (d:=su) zx3).symm;have zx10:=wX (X:=su j) (ps:=sbR Y (λj=>sx j=0) su j) (sv:=j) omgz;(simp-dsimp only[OA];refine zqS ?_)))))|(refine aj ?_;refine Nxt.mk [0,1,2,3,4,5,6,7,8,9,10,11,12,13] (⟨j+1,omgz⟩) rfl (by unfold OA;exact cO) zqO)|(refine aj ?_;refine Nxt.mk [0,1,2,3,4,5,6,7,8,9,10,11,12] (⟨q1,omgz⟩) rfl (by unfold Ei;exact cO) zqO)|refine zqN ?_|refine jq hsr.down ?_|refine jq hxs.down ?_|refine jq hmj.down ?_|refine jq huj.down ?_|refine jq (hcl _).down ?_|refine nQ ?_|refine nR ?_|(refine nS ?_ ?_<;>intro hc<;>try exact zqM)|refine zqR [(4,25,[2],0),(15,31,[6,7,8,9,10,11,12,13,14,15],0)] ?_|refine zqD ?_|fail))
 all_goals trace_state):P:=h
def Bn(I:Nat):Prop:=∀{n W k:Nat} {b:List Int} {p:RV} {d:Nat->RV} {sx:Nat->Int} {sg:Nat->Int} {f:Nat->RV} {mu su:Nat->Nat->RV} {Rw New:Nat->List RV} (hW:W<=500) (hk:k<W) (hl:∀r,r<=9->(Rw r).length=W) (hb:b.length=9) (hp:(Rw I).getD k default=p) (hNi:New I=dvL (Rw I) d W)
    (hd:∀j,j<W->ACall Tryz.prog 96 [.agg (aa.cells ((Rw I).getD j default)),.agg (aa.cells p)] [] 0 (.tup [.agg (aa.cells (d j)),.val (.int .i64 0)]) [])
    (hf:∀r,r<=9->¬r=I->(Rw r).getD k default=f r) (hs:∀r,r<=9->¬r=I->ACall Tryz.prog 170 [.agg (aa.cells (f r))] [] 0 (.val (.int .i64 (sg r))) []) (hx:∀j,j<W->ACall Tryz.prog 170 [.agg (aa.cells (d j))] [] 0 (.val (.int .i64 (sx j))) [])
    (hm:∀r j,r<=9->¬r=I->¬sg r=0->j<W->¬sx j=0->ACall Tryz.prog 99 [.agg (aa.cells (f r)),.agg (aa.cells (d j))] [] 0 (.tup [.agg (aa.cells (mu r j)),.val (.int .i64 0)]) [])
    (hu:∀r j,r<=9->¬r=I->¬sg r=0->j<W->¬sx j=0->ACall Tryz.prog 137 [.agg (aa.cells ((Rw r).getD j default)),.agg (aa.cells (mu r j))] [] 0 (.tup [.agg (aa.cells (su r j)),.val (.int .i64 0)]) [])
    (hN0:∀r,r<=9->¬r=I->sg r=0->New r=Rw r) (hN1:∀r,r<=9->¬r=I->¬sg r=0->New r=sbR (Rw r) (λj=>sx j=0) (su r) W),
    ACall Tryz.prog 175 [.pt 0 0,.val (.int .i64 (I:Nat)),.val (.int .i64 k)] [.cells [.val (.int .i64 9),.val (.int .i64 n),.sl 1 0 10 1,.sl 2 0 9 1,.val (.int .i64 0)] 197,.cells [.sl 3 0 W 4,.sl 4 0 W 4,.sl 5 0 W 4,.sl 6 0 W 4,.sl 7 0 W 4,.sl 8 0 W 4,.sl 9 0 W 4,.sl 10 0 W 4,.sl 11 0 W 4,.sl 12 0 W 4] 103,.cells (cI .i64 b) 3,.cells (cR (Rw 0)) 60,.cells (cR (Rw 1)) 60,.cells (cR (Rw 2)) 60,.cells (cR (Rw 3)) 60,.cells (cR (Rw 4)) 60,.cells (cR (Rw 5)) 60,.cells (cR (Rw 6)) 60,.cells (cR (Rw 7)) 60,.cells (cR (Rw 8)) 60,.cells (cR (Rw 9)) 60] 13 (.tup []) [.cells [.val (.int .i64 9),.val (.int .i64 n),.sl 1 0 10 1,.sl 2 0 9 1,.val (.int .i64 0)] 197,.cells [.sl 3 0 W 4,.sl 4 0 W 4,.sl 5 0 W 4,.sl 6 0 W 4,.sl 7 0 W 4,.sl 8 0 W 4,.sl 9 0 W 4,.sl 10 0 W 4,.sl 11 0 W 4,.sl 12 0 W 4] 103,.cells (cI .i64 (b.set I (k:Int))) 3,.cells (cR (New 0)) 60,.cells (cR (New 1)) 60,.cells (cR (New 2)) 60,.cells (cR (New 3)) 60,.cells (cR (New 4)) 60,.cells (cR (New 5)) 60,.cells (cR (New 6)) 60,.cells (cR (New 7)) 60,.cells (cR (New 8)) 60,.cells (cR (New 9)) 60]
theorem Ej{P:Prop}(h:P:=by
 intro I hI hR n W k b p d sx sg f mu su Rw New hW hk hl hb hp hNi hd hf hs hx hm hu hN0 hN1
 have hdq:=λ(j:Nat) (h:j<W)=>PLift.up (hd j h)
 have hcl:=λ(X:RV)=>PLift.up (uX (X:=X))
 have hlI:(Rw I).length=W:=hl I omgz
 have hlN:(New I).length=W:=by rw[hNi,oJ];exact hlI
 have hNx:∀j,j<W->(New I).getD j default=d j:=λj hj=>by rw[hNi];exact JG hj omgz
 have hNk:=hNx k hk
 have hRq:=λ(q:Nat) (h1:q<=9) (h2:¬q=I)=>PLift.up (λ(Q:Exit->Nat->St->Prop) (hr:q<=10)=>hR q h1 h2 (n:=n) (b:=b) (Q:=Q) (c:=sg q) (F:=f q) (d:=d) (mu:=mu q) (su:=su q) hr hW hk rfl (hl q h1) hlN hNx (hf q h1 h2) (hs q h1 h2) hx (λj h0 h3 h4=>hm q j h1 h2 h0 h3 h4) (λj h0 h3 h4=>hu q j h1 h2 h0 h3 h4) (hN0 q h1 h2) (hN1 q h1 h2))
 clear hd hs hx hm hu hl hf hN0 hN1 hNx hR
 have hNf:dvL (Rw I) d W=New I:=hNi.symm
 have hd0:dvL (Rw I) d 0=Rw I:=rfl
 clear hNi
 obtain⟨Y,hY⟩:∃Y,Y=Rw I:=⟨_,rfl⟩
 obtain⟨S1,hS1⟩:∃S,S=UV I n W k b p d Rw:=⟨_,rfl⟩
 obtain⟨S2,hS2⟩:∃S,S=Ei I n W k b New Rw:=⟨_,rfl⟩
 obtain⟨i1,hi1⟩:∃i1,i1=I+1:=⟨_,rfl⟩
 subst hI
 rw[<-hY] at hlI hp hd0 hNf
 have hYs:=hY.symm
 rw[<-hY] at hdq
 clear hY
 have zx1:=And.intro hYs (And.intro hlI (And.intro hlN (And.intro hp (And.intro hd0 (And.intro hNf (And.intro hNk hi1))))))
 have hdj:=ae;have zx3:=ae;have zx2:=ae;have zx4:=ae;have zx5:=ae
 refine az Tryz.func175 Tryz.ntmps175 rfl ?_
 have zx6:=aA;repeat' (first|(refine ah ?_;refine ak [0,1,2,3,4,5,6,7,8,9,10,11,12,13] ([0,1,2,3,4,5,6,7,8,9,10,11,12,13].length) (S1) (λj=>W-j.val) (⟨0,omgz⟩) rfl (by rw[hS1];unfold UV;exact dK) ?_;(rintro⟨j,hj⟩;rw[hS1];have zx3:=(oJ (R:=Y) (d:=d) (j:=j)).trans hlI;rcases Nat.lt_or_eq_of_le hj with hjl|hjl<;>first|(have eQ:=hjl.symm;subst eQ;(simp-dsimp only[UV];refine zqS ?_))|(have hdj:=hdq j hjl;have zx2:=Uh (R:=Y) (d:=d) (Nat.le_refl j);have zx5:=wX (X:=d j) (ps:=dvL Y d j) (sv:=j) omgz;have zx4:(dvL Y d j).set j (d j)=dvL Y d (j+1):=rfl;(simp-dsimp only[UV];refine zqS ?_))))|(refine aj ?_;refine Nxt.mk [0,1,2,3,4,5,6,7,8,9,10,11,12,13] (⟨j+1,omgz⟩) rfl (by unfold UV;exact dK) zqO)|(refine ah ?_;refine ak [0,1,2,3,4,5,6,7,8,9,10,11,12] ([0,1,2,3,4,5,6,7,8,9,10,11,12].length) (S2) (λr=>10-r.val) (⟨0,omgz⟩) rfl (by rw[hS2];unfold Ei;exact dK) ?_;(rintro⟨r,hr⟩;rw[hS2];have hr2:r=0\/r=1\/r=2\/r=3\/r=4\/r=5\/r=6\/r=7\/r=8\/r=9\/r=10:=omgz;rcases hr2 with hr2|hr2|hr2|hr2|hr2|hr2|hr2|hr2|hr2|hr2|hr2<;>subst hr2<;>first|(exact(hRq _ omgz omgz).down _ _)|(simp-dsimp only[Ei];refine zqS ?_)))|(refine aj ?_;refine Nxt.mk [0,1,2,3,4,5,6,7,8,9,10,11,12] (⟨i1,omgz⟩) rfl (by unfold Ei;exact dK) zqO)|refine zqN ?_|refine o7 hdj.down ?_|refine o7 (hcl _).down ?_|refine kI ?_|refine kJ ?_|(refine kK ?_ ?_<;>intro hc<;>try exact zqM)|refine zqR [(4,25,[6,7,8,9,10,11,12,13,14,15],0),(15,31,[2],0)] ?_|refine zqD ?_|fail)
 all_goals first
  |(exact aB [0,1,2,3,4,5,6,7,8,9,10,11,12];done)
  |skip):P:=h
end
