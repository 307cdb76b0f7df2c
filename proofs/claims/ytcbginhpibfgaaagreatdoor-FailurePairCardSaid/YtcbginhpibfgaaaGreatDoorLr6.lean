/- Lr6. No condition. -/
import Derived.Test.YtcbginhpibfgaaaGreatDoorLr5
set_option linter.all false
set_option maxHeartbeats 4000000
set_option maxRecDepth 20000
namespace Go.Proofs.YtcbginhpibfgaaaGreatDoor
open Go Go.Sy Go.Bp Go.Lm Go.Rt
attribute [local irreducible] AO AL AC OpT ACall Ends DGo bK Thn Blk Nxt
variable {n N M k i m j:Nat} {z z' neg:Bool} {l:List Int} {a b v x y e s c:Int} {A B C A1 B1 G G2 P Q R1 R2 Z1 X1 Y1:IV} {p q:Rat} {X Y W:RV}
theorem Tx{r1 r2:Bool}(h1:ACall Tryz.prog 49 [.agg (aa.cells X.num),.agg (aa.cells Y.num)] [] 0 (.val (.bool r1)) [])(h2:ACall Tryz.prog 49 [.agg (aa.cells X.den),.agg (aa.cells Y.den)] [] 0 (.val (.bool r2)) []):
 ACall Tryz.prog 17 [.agg (aa.cells X),.agg (aa.cells Y)] [] 0 (.val (.bool (r1&&r2))) []:=by
 have h2:=PLift.up h2
 rw[aB X,aB Y]
 cases r1
 all_goals have h1:=PLift.up h1
 all_goals(refine ak Tryz.func17 Tryz.ntmps17 rfl ?_)
 all_goals repeat' (first|refine zqN ?_|refine az h1.down ?_|refine az h2.down ?_|refine aK ?_|refine aL ?_|(refine aM ?_ ?_<;>intro hc<;>try exact zqM))
 all_goals first
  |((refine Ends.mk2 zqI [] ?_;simp-dsimp(disch:=try exact vD) only[push_cast,simprocAttr,Tryz.f17];try exact zqF);done)
  |skip
def Yf(X Y:RV):Bool:=decide (X.num.neg=Y.num.neg∧X.num.l=Y.num.l)&&decide (X.den.neg=Y.den.neg∧X.den.l=Y.den.l)
structure MP(X:RV):Prop where
 n:X.num.l.length<2^47
 d:X.den.l.length<2^47
theorem QI(hX:MP X)(hY:MP Y):ACall Tryz.prog 17 [.agg (aa.cells X),.agg (aa.cells Y)] [] 0 (.val (.bool (Yf X Y))) []:=
 Tx (yI hX.n hY.n) (yI hX.d hY.d)
theorem yL:Yf X X=true:=by unfold Yf;simp
theorem aiQ(h:D300 q.num)(h2:D300 q.den):MP (rQ z q):=⟨by have:=h.few;show(lb _).length<_;omega,by have:=h2.few;show(lb _).length<_;omega⟩
theorem Yh(h:Sm q):MP (rC q):=by rw[eF];exact aiQ (Tq h).1 (Tq h).2
theorem aiR:Yf (rQ z p) (rQ z' q)=decide (p=q):=by
 unfold Yf
 rw[Bool.eq_iff_iff,Bool.and_eq_true,decide_eq_true_eq,decide_eq_true_eq,decide_eq_true_eq]
 constructor
 ·rintro⟨⟨h1,h2⟩,h3,h4⟩
  have e1:=congrArg val h2
  have e2:=congrArg val h4
  have f1:(p.num.natAbs:Int)=q.num.natAbs:=by
   have:val (lb p.num.natAbs)=val (lb q.num.natAbs):=e1
   rwa [aU,aU] at this
  have f2:(((p.den:Int).natAbs:Nat):Int)=((q.den:Int).natAbs:Nat):=by
   have:val (lb (p.den:Int).natAbs)=val (lb (q.den:Int).natAbs):=e2
   rwa [aU,aU] at this
  have f3:=decide_eq_decide.1 (show decide (p.num<0)=decide (q.num<0) from h1)
  exact Rat.ext (by omega) (by omega)
 ·rintro rfl;exact⟨⟨rfl,rfl⟩,rfl,rfl⟩
theorem Mg(v1:ACall Tryz.prog 58 [.agg (aa.cells X)] [] 0 (.val (.bool true)) [])(v2:ACall Tryz.prog 58 [.agg (aa.cells Y)] [] 0 (.val (.bool true)) [])
 (h1:ACall Tryz.prog 59 [.agg (aa.cells X.num),.agg (aa.cells Y.den)] [] 0 (.tup [.agg (aa.cells A),.val (.int .i64 0)]) []) (h2:ACall Tryz.prog 59 [.agg (aa.cells Y.num),.agg (aa.cells X.den)] [] 0 (.tup [.agg (aa.cells B),.val (.int .i64 0)]) [])
 (h3:ACall Tryz.prog 59 [.agg (aa.cells X.den),.agg (aa.cells Y.den)] [] 0 (.tup [.agg (aa.cells C),.val (.int .i64 0)]) []):
 ACall Tryz.prog 96 [.agg (aa.cells X),.agg (aa.cells Y)] [] 0 (.tup [.agg (aa.cells A),.agg (aa.cells B),.agg (aa.cells C),.val (.int .i64 0)]) []:=by
 have v1:=PLift.up v1;have v2:=PLift.up v2;have h1:=PLift.up h1;have h2:=PLift.up h2;have h3:=PLift.up h3
 rw[aB X,aB Y]
 refine ak Tryz.func96 Tryz.ntmps96 rfl ?_
 repeat' (first|refine zqN ?_|refine az v1.down ?_|refine az v2.down ?_|refine az h1.down ?_|refine az h2.down ?_|refine az h3.down ?_|refine aK ?_|refine aL ?_|(refine aM ?_ ?_<;>intro hc<;>try exact zqM)|refine zqR 7 [⟨0,[],[56,57],[],[],0⟩,⟨1,[],[55,57],[2],[],0⟩,⟨2,[],[55,56],[2],[],0⟩,⟨3,[0],[56,57],[],[2],0⟩,⟨4,[0,1,3],[57],[],[2],0⟩,⟨5,[0,1,2,3,4],[],[],[2],0⟩,⟨6,[0,1,2,3,4,5],[],[],[],0⟩] ?_|refine zqR 9 [⟨0,[],[61,62],[],[],0⟩,⟨1,[],[60,62],[2],[],0⟩,⟨2,[],[60,61],[2],[],0⟩,⟨3,[0],[61,62],[],[2],0⟩,⟨4,[0,1,3],[62],[],[2],0⟩,⟨5,[0,1,2,3,4],[],[],[2],0⟩,⟨6,[0,1,2,3,4,5],[],[],[],0⟩] ?_|refine zqR 10 [⟨0,[],[64,65],[],[],0⟩,⟨1,[],[63,65],[5],[],0⟩,⟨2,[],[63,64],[5,6],[],0⟩,⟨3,[0],[64,65],[],[5],0⟩,⟨4,[0,1,3],[65],[],[6],0⟩,⟨5,[0,1,2,3,4],[],[],[7],0⟩,⟨6,[0,1,2,3,4,5],[],[],[],0⟩] ?_|refine zqD ?_|fail)
 all_goals first
  |((refine Ends.mk2 zqI [] ?_;simp-dsimp(disch:=try exact vD) only[push_cast,simprocAttr,Tryz.f96];try exact zqF);done)
  |skip
theorem wW(h:D300 x)(h2:D300 y)(h3:D300 (x*y)):ACall Tryz.prog 59 [.agg (aa.cells (iV z x)),.agg (aa.cells (iV z' y))] [] 0 (.tup [.agg (aa.cells (iC (x*y))),.val (.int .i64 0)]) []:=by
 have:=XZ (z:=z) (z':=z') h h2
 unfold rV at this
 rw[ow h3,oz h3] at this;exact this
theorem QJ(h:D300 x)(h2:D300 y)(h3:D300 (x+y)):ACall Tryz.prog 97 [.agg (aa.cells (iV z x)),.agg (aa.cells (iV z' y))] [] 0 (.tup [.agg (aa.cells (iC (x+y))),.val (.int .i64 0)]) []:=by
 have:=XY (z:=z) (z':=z') h h2
 unfold rV at this
 rw[ow h3,oz h3] at this;exact this
theorem yM(h:ROk z p)(h2:ROk z' q)(t:Two p q):
 ACall Tryz.prog 96 [.agg (aa.cells (rQ z p)),.agg (aa.cells (rQ z' q))] [] 0 (.tup [.agg (aa.cells (iC (p.num*q.den))),.agg (aa.cells (iC (q.num*p.den))),.agg (aa.cells (iC (p.den*q.den))),.val (.int .i64 0)]) []:=
 Mg (wV h) (wV h2) (wW h.n.d h2.d t.x) (wW h2.n.d h.d t.y) (wW h.d h2.d t.d)
theorem OP(hx:ACall Tryz.prog 96 [.agg (aa.cells X),.agg (aa.cells Y)] [] 0 (.tup [.agg (aa.cells A),.agg (aa.cells B),.agg (aa.cells C),.val (.int .i64 0)]) [])
 (hcq:ACall Tryz.prog 154 [.agg (aa.cells A),.agg (aa.cells B)] [] 0 (.val (.int .i64 c)) []):
 ACall Tryz.prog 139 [.agg (aa.cells X),.agg (aa.cells Y)] [] 0 (.tup [.val (.int .i64 c),.val (.int .i64 0)]) []:=by
 have hx:=PLift.up hx;have hcq:=PLift.up hcq
 rw[aB X,aB Y]
 refine ak Tryz.func139 Tryz.ntmps139 rfl ?_
 repeat' (first|refine zqN ?_|refine az hx.down ?_|refine az hcq.down ?_|refine aK ?_|refine aL ?_|(refine aM ?_ ?_<;>intro hc<;>try exact zqM))
 all_goals first
  |((refine Ends.mk2 zqI [] ?_;simp-dsimp(disch:=try exact vD) only[push_cast,simprocAttr,Tryz.f139];try exact zqF);done)
  |skip
theorem Yi(h:ROk z p)(h2:ROk z' q)(t:Two p q):
 ACall Tryz.prog 139 [.agg (aa.cells (rQ z p)),.agg (aa.cells (rQ z' q))] [] 0 (.tup [.val (.int .i64 (gp (p.num*q.den) (q.num*p.den))),.val (.int .i64 0)]) []:=
 OP (yM h h2 t) (ado t.x t.y)
theorem Mh(hx:ACall Tryz.prog 96 [.agg (aa.cells X),.agg (aa.cells Y)] [] 0 (.tup [.agg (aa.cells A),.agg (aa.cells B),.agg (aa.cells C),.val (.int .i64 0)]) [])
 (ha:ACall Tryz.prog 97 [.agg (aa.cells A),.agg (aa.cells B)] [] 0 (.tup [.agg (aa.cells P),.val (.int .i64 0)]) []) (hs0:¬s=0) (hs:ACall Tryz.prog 90 [.agg (aa.cells C)] [] 0 (.val (.int .i64 s)) [])
 (hm:ACall Tryz.prog 60 [.agg (aa.cells P),.agg (aa.cells C)] [] 0 (.tup [.agg (aa.cells W),.val (.int .i64 e)]) []):
 ACall Tryz.prog 61 [.agg (aa.cells X),.agg (aa.cells Y),.val (.bool false)] [] 0 (.tup [.agg (aa.cells W),.val (.int .i64 e)]) []:=by
 have hx:=PLift.up hx;have ha:=PLift.up ha;have hs:=PLift.up hs;have hm:=PLift.up hm
 rw[aB X,aB Y]
 refine ak Tryz.func61 Tryz.ntmps61 rfl ?_
 have zx1:= @hs0;have zx2:=aC;have zx3:=aC;repeat' (first|refine zqN ?_|refine bE hx.down ?_|refine bE ha.down ?_|refine bE hs.down ?_|refine bE hm.down ?_|refine bM ?_|refine bO ?_|(refine bP ?_ ?_<;>intro hc<;>try exact zqM))
 all_goals first
  |((refine Ends.mk2 zqI [] ?_;simp-dsimp(disch:=try exact vD) only[push_cast,simprocAttr,Tryz.f61];try exact zqF);done)
  |skip
theorem Mi(hx:ACall Tryz.prog 96 [.agg (aa.cells X),.agg (aa.cells Y)] [] 0 (.tup [.agg (aa.cells A),.agg (aa.cells B),.agg (aa.cells C),.val (.int .i64 0)]) [])
 (hn:ACall Tryz.prog 94 [.agg (aa.cells B)] [] 0 (.agg (aa.cells B1)) []) (ha:ACall Tryz.prog 97 [.agg (aa.cells A),.agg (aa.cells B1)] [] 0 (.tup [.agg (aa.cells P),.val (.int .i64 0)]) []) (hs0:¬s=0) (hs:ACall Tryz.prog 90 [.agg (aa.cells C)] [] 0 (.val (.int .i64 s)) [])
 (hm:ACall Tryz.prog 60 [.agg (aa.cells P),.agg (aa.cells C)] [] 0 (.tup [.agg (aa.cells W),.val (.int .i64 e)]) []):
 ACall Tryz.prog 61 [.agg (aa.cells X),.agg (aa.cells Y),.val (.bool true)] [] 0 (.tup [.agg (aa.cells W),.val (.int .i64 e)]) []:=by
 have hx:=PLift.up hx;have hn:=PLift.up hn;have ha:=PLift.up ha;have hs:=PLift.up hs;have hm:=PLift.up hm
 rw[aB X,aB Y]
 refine ak Tryz.func61 Tryz.ntmps61 rfl ?_
 have zx1:= @hs0;have zx2:=aC;have zx3:=aC;repeat' (first|refine zqN ?_|refine bE hx.down ?_|refine bE hn.down ?_|refine bE ha.down ?_|refine bE hs.down ?_|refine bE hm.down ?_|refine bM ?_|refine bO ?_|(refine bP ?_ ?_<;>intro hc<;>try exact zqM))
 all_goals first
  |((refine Ends.mk2 zqI [] ?_;simp-dsimp(disch:=try exact vD) only[push_cast,simprocAttr,Tryz.f61];try exact zqF);done)
  |skip
theorem OQ(h:ACall Tryz.prog 61 [.agg (aa.cells X),.agg (aa.cells Y),.val (.bool false)] [] 0 (.tup [.agg (aa.cells W),.val (.int .i64 e)]) []):ACall Tryz.prog 25 [.agg (aa.cells X),.agg (aa.cells Y)] [] 0 (.tup [.agg (aa.cells W),.val (.int .i64 e)]) []:=by
 have h:=PLift.up h
 rw[aB X,aB Y]
 refine ak Tryz.func25 Tryz.ntmps25 rfl ?_
 repeat' (first|refine zqN ?_|refine az h.down ?_|refine aK ?_|refine aL ?_|(refine aM ?_ ?_<;>intro hc<;>try exact zqM))
 all_goals first
  |((refine Ends.mk2 zqI [] ?_;simp-dsimp(disch:=try exact vD) only[push_cast,simprocAttr,Tryz.f25];try exact zqF);done)
  |skip
theorem OT(h:ACall Tryz.prog 61 [.agg (aa.cells X),.agg (aa.cells Y),.val (.bool true)] [] 0 (.tup [.agg (aa.cells W),.val (.int .i64 e)]) []):ACall Tryz.prog 87 [.agg (aa.cells X),.agg (aa.cells Y)] [] 0 (.tup [.agg (aa.cells W),.val (.int .i64 e)]) []:=by
 have h:=PLift.up h
 rw[aB X,aB Y]
 refine ak Tryz.func87 Tryz.ntmps87 rfl ?_
 repeat' (first|refine zqN ?_|refine az h.down ?_|refine aK ?_|refine aL ?_|(refine aM ?_ ?_<;>intro hc<;>try exact zqM))
 all_goals first
  |((refine Ends.mk2 zqI [] ?_;simp-dsimp(disch:=try exact vD) only[push_cast,simprocAttr,Tryz.f87];try exact zqF);done)
  |skip
theorem OU:(0:Int)<p.den*q.den:=by
 have a:=lh (q:=p);have b:=lh (q:=q)
 exact Int.mul_pos (by omega) (by omega)
theorem Two.radd(h:ROk z p)(h2:ROk z' q)(t:Two p q)(d:D300 (p.num*q.den+q.num*p.den)):ACall Tryz.prog 25 [.agg (aa.cells (rQ z p)),.agg (aa.cells (rQ z' q))] [] 0 (.tup [.agg (aa.cells (rC (p+q))),.val (.int .i64 0)]) []:=by
 have hd:=OU (p:=p) (q:=q)
 rw[X3]
 exact OQ (Mh (s:=sgn (p.den*q.den)) (yM h h2 t) (QJ t.x t.y d) (by unfold sgn;rw[if_neg (by omega),if_neg (by omega)];decide) jN (ug d t.d (by omega)))
theorem Two.rsub(h:ROk z p)(h2:ROk z' q)(t:Two p q)(d:D300 (p.num*q.den-q.num*p.den)):ACall Tryz.prog 87 [.agg (aa.cells (rQ z p)),.agg (aa.cells (rQ z' q))] [] 0 (.tup [.agg (aa.cells (rC (p-q))),.val (.int .i64 0)]) []:=by
 have hd:=OU (p:=p) (q:=q)
 have hy:D300 (-(q.num*p.den)):=by unfold D300;rw[Int.natAbs_neg];exact t.y
 rw[X4]
 rw[Int.sub_eq_add_neg] at d⊢
 exact OT (Mi (s:=sgn (p.den*q.den)) (yM h h2 t) (J2 t.y) (QJ t.x hy d) (by unfold sgn;rw[if_neg (by omega),if_neg (by omega)];decide) jN (ug d t.d (by omega)))
theorem OV(v1:ACall Tryz.prog 58 [.agg (aa.cells X)] [] 0 (.val (.bool true)) [])(v2:ACall Tryz.prog 58 [.agg (aa.cells Y)] [] 0 (.val (.bool true)) [])
 (h1:ACall Tryz.prog 59 [.agg (aa.cells X.num),.agg (aa.cells Y.num)] [] 0 (.tup [.agg (aa.cells A),.val (.int .i64 0)]) []) (h2:ACall Tryz.prog 59 [.agg (aa.cells X.den),.agg (aa.cells Y.den)] [] 0 (.tup [.agg (aa.cells B),.val (.int .i64 0)]) [])
 (hm:ACall Tryz.prog 60 [.agg (aa.cells A),.agg (aa.cells B)] [] 0 (.tup [.agg (aa.cells W),.val (.int .i64 e)]) []):
 ACall Tryz.prog 24 [.agg (aa.cells X),.agg (aa.cells Y)] [] 0 (.tup [.agg (aa.cells W),.val (.int .i64 e)]) []:=by
 have v1:=PLift.up v1;have v2:=PLift.up v2;have h1:=PLift.up h1;have h2:=PLift.up h2;have hm:=PLift.up hm
 rw[aB X,aB Y]
 refine ak Tryz.func24 Tryz.ntmps24 rfl ?_
 repeat' (first|refine zqN ?_|refine az v1.down ?_|refine az v2.down ?_|refine az h1.down ?_|refine az h2.down ?_|refine az hm.down ?_|refine aK ?_|refine aL ?_|(refine aM ?_ ?_<;>intro hc<;>try exact zqM))
 all_goals first
  |((refine Ends.mk2 zqI [] ?_;simp-dsimp(disch:=try exact vD) only[push_cast,simprocAttr,Tryz.f24];try exact zqF);done)
  |skip
theorem Two.rmul(h:ROk z p)(h2:ROk z' q)(t:D300 (p.den*q.den))(d:D300 (p.num*q.num)):ACall Tryz.prog 24 [.agg (aa.cells (rQ z p)),.agg (aa.cells (rQ z' q))] [] 0 (.tup [.agg (aa.cells (rC (p*q))),.val (.int .i64 0)]) []:=by
 have hd:=OU (p:=p) (q:=q)
 rw[X5]
 exact OV (wV h) (wV h2) (wW h.n.d h2.n.d d) (wW h.d h2.d t) (ug d t (by omega))
theorem OW(h:Sm p)(h2:Sm q):D300 (p.num*q.den+q.num*p.den)∧D300 (p.num*q.den-q.num*p.den)∧D300 (p.num*q.num):=by
 have a:=lX h.1 h2.2;have b:=lX h2.1 h.2;have c:=lX h.1 h2.1
 have e1:(p.num*q.den).natAbs<10^280:=by rw[Int.natAbs_mul,Int.natAbs_natCast];exact a
 have e2:(q.num*p.den).natAbs<10^280:=by rw[Int.natAbs_mul,Int.natAbs_natCast];exact b
 have e3:(p.num*q.num).natAbs<10^280:=by rw[Int.natAbs_mul];exact c
 refine⟨Fb ?_,Fb ?_,Fb ?_⟩
 all_goals generalize(10:Nat)^280=T at*
 all_goals omega
theorem Yj(h:SmZ z p)(h2:SmZ z' q):ACall Tryz.prog 25 [.agg (aa.cells (rQ z p)),.agg (aa.cells (rQ z' q))] [] 0 (.tup [.agg (aa.cells (rC (p+q))),.val (.int .i64 0)]) []:=
 Two.radd h.ok h2.ok (yK h.s h2.s) (OW h.s h2.s).1
theorem alb(h:SmZ z p)(h2:SmZ z' q):ACall Tryz.prog 87 [.agg (aa.cells (rQ z p)),.agg (aa.cells (rQ z' q))] [] 0 (.tup [.agg (aa.cells (rC (p-q))),.val (.int .i64 0)]) []:=
 Two.rsub h.ok h2.ok (yK h.s h2.s) (OW h.s h2.s).2.1
theorem aeY(h:SmZ z p)(h2:SmZ z' q):ACall Tryz.prog 24 [.agg (aa.cells (rQ z p)),.agg (aa.cells (rQ z' q))] [] 0 (.tup [.agg (aa.cells (rC (p*q))),.val (.int .i64 0)]) []:=
 Two.rmul h.ok h2.ok (yK h.s h2.s).d (OW h.s h2.s).2.2
