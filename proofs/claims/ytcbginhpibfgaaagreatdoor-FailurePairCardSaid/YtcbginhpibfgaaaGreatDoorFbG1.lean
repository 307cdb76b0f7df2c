/- Fb1 Fb2 Fb3 Fb4 Fb6. No condition. -/
import Derived.Test.YtcbginhpibfgaaaGreatDoorFaG4
set_option linter.all false
set_option maxHeartbeats 4000000
set_option maxRecDepth 20000
namespace Go.Proofs.YtcbginhpibfgaaaGreatDoor
section
open Go Go.Sy Go.Lm Go.Rt Go.Dg
attribute [local irreducible] AO AL AC OpT ACall Ends DGo bK Thn Blk Nxt
variable {n N np k i m j r T:Nat} {z z' zp:Bool} {ps xs:List RV} {L:List Fk} {X Y W:RV} {v c e e2 rt:Int} {p q:Rat}
theorem Ki(h:ACall Tryz.prog 57 [.val (.int .i64 v),.val (.int .i64 1)] [] 0 (.tup [.agg (aa.cells X),.val (.int .i64 0)]) []):ACall Tryz.prog 69 [.val (.int .i64 v)] [] 0 (.agg (aa.cells X)) []:=by
 have h:=PLift.up h
 refine ak Tryz.func69 Tryz.ntmps69 rfl ?_
 repeat' (first|refine zqN ?_|refine az h.down ?_|refine aK ?_|refine aL ?_|(refine aM ?_ ?_<;>intro hc<;>try exact zqM))
 all_goals first
  |((refine Ends.mk2 zqI [] ?_;simp-dsimp(disch:=try exact vD) only[push_cast,simprocAttr,Tryz.f69];try exact zqF);done)
  |skip
theorem oo(h:I64 v):ACall Tryz.prog 69 [.val (.int .i64 v)] [] 0 (.agg (aa.cells (rC (v:Rat)))) []:=by
 have:=OM (b:=1) h (by decide) (by decide)
 rw[Mj] at this
 exact Ki this
theorem Mw:ACall Tryz.prog 69 [.val (.int .i64 0)] [] 0 (.agg (aa.cells (rQ true 0))) []:=by
 have:=oo (v:=0) (by decide)
 rw[aiT] at this;exact this
theorem IX:ACall Tryz.prog 69 [.val (.int .i64 1)] [] 0 (.agg (aa.cells (rQ false 1))) []:=by
 have:=oo (v:=1) (by decide)
 rw[Yl] at this;exact this
theorem TS(h:ACall Tryz.prog 25 [.agg (aa.cells X),.agg (aa.cells Y)] [] 0 (.tup [.agg (aa.cells W),.val (.int .i64 0)]) []):ACall Tryz.prog 71 [.agg (aa.cells X),.agg (aa.cells Y)] [] 0 (.agg (aa.cells W)) []:=by
 have h:=PLift.up h
 rw[aB X,aB Y]
 refine ak Tryz.func71 Tryz.ntmps71 rfl ?_
 repeat' (first|refine zqN ?_|refine az h.down ?_|refine aK ?_|refine aL ?_|(refine aM ?_ ?_<;>intro hc<;>try exact zqM))
 all_goals first
  |((refine Ends.mk2 zqI [] ?_;simp-dsimp(disch:=try exact vD) only[push_cast,simprocAttr,Tryz.f71];try exact zqF);done)
  |skip
theorem TT(h:ACall Tryz.prog 87 [.agg (aa.cells X),.agg (aa.cells Y)] [] 0 (.tup [.agg (aa.cells W),.val (.int .i64 0)]) []):ACall Tryz.prog 55 [.agg (aa.cells X),.agg (aa.cells Y)] [] 0 (.agg (aa.cells W)) []:=by
 have h:=PLift.up h
 rw[aB X,aB Y]
 refine ak Tryz.func55 Tryz.ntmps55 rfl ?_
 repeat' (first|refine zqN ?_|refine az h.down ?_|refine aK ?_|refine aL ?_|(refine aM ?_ ?_<;>intro hc<;>try exact zqM))
 all_goals first
  |((refine Ends.mk2 zqI [] ?_;simp-dsimp(disch:=try exact vD) only[push_cast,simprocAttr,Tryz.f55];try exact zqF);done)
  |skip
theorem TU(h:ACall Tryz.prog 24 [.agg (aa.cells X),.agg (aa.cells Y)] [] 0 (.tup [.agg (aa.cells W),.val (.int .i64 0)]) []):ACall Tryz.prog 70 [.agg (aa.cells X),.agg (aa.cells Y)] [] 0 (.agg (aa.cells W)) []:=by
 have h:=PLift.up h
 rw[aB X,aB Y]
 refine ak Tryz.func70 Tryz.ntmps70 rfl ?_
 repeat' (first|refine zqN ?_|refine az h.down ?_|refine aK ?_|refine aL ?_|(refine aM ?_ ?_<;>intro hc<;>try exact zqM))
 all_goals first
  |((refine Ends.mk2 zqI [] ?_;simp-dsimp(disch:=try exact vD) only[push_cast,simprocAttr,Tryz.f70];try exact zqF);done)
  |skip
theorem Kj(h:SmZ z p)(h2:SmZ z' q):ACall Tryz.prog 71 [.agg (aa.cells (rQ z p)),.agg (aa.cells (rQ z' q))] [] 0 (.agg (aa.cells (rC (p+q)))) []:=TS (Yj h h2)
theorem DK(h:SmZ z p)(h2:SmZ z' q):ACall Tryz.prog 55 [.agg (aa.cells (rQ z p)),.agg (aa.cells (rQ z' q))] [] 0 (.agg (aa.cells (rC (p-q)))) []:=TT (alb h h2)
theorem w9(h:SmZ z p)(h2:SmZ z' q):ACall Tryz.prog 70 [.agg (aa.cells (rQ z p)),.agg (aa.cells (rQ z' q))] [] 0 (.agg (aa.cells (rC (p*q)))) []:=TU (aeY h h2)
theorem Pb(h:ACall Tryz.prog 139 [.agg (aa.cells X),.agg (aa.cells Y)] [] 0 (.tup [.val (.int .i64 c),.val (.int .i64 0)]) []):ACall Tryz.prog 106 [.agg (aa.cells X),.agg (aa.cells Y)] [] 0 (.val (.bool (decide (c<0)))) []:=by
 have h:=PLift.up h
 rw[aB X,aB Y]
 refine ak Tryz.func106 Tryz.ntmps106 rfl ?_
 repeat' (first|refine zqN ?_|refine az h.down ?_|refine aK ?_|refine aL ?_|(refine aM ?_ ?_<;>intro hc<;>try exact zqM))
 all_goals first
  |((refine Ends.mk2 zqI [] ?_;simp-dsimp(disch:=try exact vD) only[push_cast,simprocAttr,Tryz.f106];try exact zqF);done)
  |skip
theorem Fq(h:ROk z p)(h2:ROk z' q)(t:Two p q):ACall Tryz.prog 106 [.agg (aa.cells (rQ z p)),.agg (aa.cells (rQ z' q))] [] 0 (.val (.bool (decide (p<q)))) []:=by
 have:=Pb (Yi h h2 t)
 rw[cmp_lt] at this
 rw[show decide (p<q)=decide (p.num*q.den<q.num*p.den) from decide_eq_decide.2 J8];exact this
theorem TV(h:ACall Tryz.prog 58 [.agg (aa.cells X)] [] 0 (.val (.bool false)) []):ACall Tryz.prog 68 [.agg (aa.cells X)] [] 0 (.val (.int .i64 1)) []:=by
 have h:=PLift.up h
 rw[aB X]
 refine ak Tryz.func68 Tryz.ntmps68 rfl ?_
 repeat' (first|refine zqN ?_|refine az h.down ?_|refine aK ?_|refine aL ?_|(refine aM ?_ ?_<;>intro hc<;>try exact zqM)|refine zqR 3 [⟨0,[],[7],[],[],0⟩,⟨1,[],[6],[],[],0⟩,⟨2,[0,1],[],[],[],0⟩,⟨3,[0,1,2],[],[],[],0⟩,⟨4,[0,1,2,3],[11],[],[],0⟩,⟨5,[0,1,2,3],[10],[],[],0⟩,⟨6,[0,1,2,3,4,5],[],[],[],0⟩,⟨7,[0,1,2,3,4,5,6],[],[],[],0⟩] ?_|refine zqR 5 [⟨0,[],[15,16],[],[],0⟩,⟨1,[],[14,17,18],[],[],0⟩,⟨2,[1],[14,17,18],[],[],0⟩,⟨3,[0],[15,16],[],[],0⟩,⟨4,[0,3],[15,16],[],[],0⟩,⟨5,[0,1,2,3,4],[],[],[],0⟩,⟨6,[0,1,2,3,4,5],[],[],[],0⟩] ?_|refine zqD ?_|fail)
 all_goals first
  |((refine Ends.mk2 zqI [] ?_;simp-dsimp(disch:=try exact vD) only[push_cast,simprocAttr,Tryz.f68];try exact zqF);done)
  |skip
theorem ad4{Z0 Z1 ZM:RV} {r1 r2 r3:Bool} {e:Int}(h:ACall Tryz.prog 58 [.agg (aa.cells X)] [] 0 (.val (.bool true)) [])(n0:ACall Tryz.prog 69 [.val (.int .i64 0)] [] 0 (.agg (aa.cells Z0)) [])(n1:ACall Tryz.prog 69 [.val (.int .i64 1)] [] 0 (.agg (aa.cells Z1)) [])
 (l0:ACall Tryz.prog 106 [.agg (aa.cells X),.agg (aa.cells Z0)] [] 0 (.val (.bool r1)) []) (l1:ACall Tryz.prog 106 [.agg (aa.cells Z1),.agg (aa.cells X)] [] 0 (.val (.bool r2)) [])
 (nm:ACall Tryz.prog 69 [.val (.int .i64 1000000)] [] 0 (.agg (aa.cells ZM)) []) (lm:ACall Tryz.prog 106 [.agg (aa.cells ZM),.agg (aa.cells (⟨X.den,Z1.den⟩:RV))] [] 0 (.val (.bool r3)) [])
 (he:e=if r1=true∨r2=true then 7 else if r3=true then 3 else 0):ACall Tryz.prog 68 [.agg (aa.cells X)] [] 0 (.val (.int .i64 e)) []:=by
 subst he
 have h:=PLift.up h;have n0:=PLift.up n0;have n1:=PLift.up n1;have nm:=PLift.up nm
 rw[aB X]
 cases r1
 ·cases r2
  ·rw[if_neg (by simp)]
   have l0:=PLift.up l0;have l1:=PLift.up l1
   cases r3
   all_goals have lm:=PLift.up lm
   all_goals(refine ak Tryz.func68 Tryz.ntmps68 rfl ?_)
   all_goals repeat' (first|refine zqN ?_|refine az h.down ?_|refine az n0.down ?_|refine az n1.down ?_|refine az nm.down ?_|refine az l0.down ?_|refine az l1.down ?_|refine az lm.down ?_|refine aK ?_|refine aL ?_|(refine aM ?_ ?_<;>intro hc<;>try exact zqM)|refine zqR 3 [⟨0,[],[7],[],[],0⟩,⟨1,[],[6],[],[],0⟩,⟨2,[0,1],[],[],[],0⟩,⟨3,[0,1,2],[],[],[],0⟩,⟨4,[0,1,2,3],[11],[],[],0⟩,⟨5,[0,1,2,3],[10],[],[],0⟩,⟨6,[0,1,2,3,4,5],[],[],[],0⟩,⟨7,[0,1,2,3,4,5,6],[],[],[],0⟩] ?_|refine zqR 5 [⟨0,[],[15,16],[],[],0⟩,⟨1,[],[14,17,18],[],[],0⟩,⟨2,[1],[14,17,18],[],[],0⟩,⟨3,[0],[15,16],[],[],0⟩,⟨4,[0,3],[15,16],[],[],0⟩,⟨5,[0,1,2,3,4],[],[],[],0⟩,⟨6,[0,1,2,3,4,5],[],[],[],0⟩] ?_|refine zqD ?_|fail)
   all_goals first
    |((refine Ends.mk2 zqI [] ?_;simp-dsimp(disch:=try exact vD) only[push_cast,simprocAttr,Tryz.f68];try exact zqF);done)
    |skip
  ·rw[if_pos (.inr rfl)]
   have l0:=PLift.up l0;have l1:=PLift.up l1
   refine ak Tryz.func68 Tryz.ntmps68 rfl ?_
   repeat' (first|refine zqN ?_|refine az h.down ?_|refine az n0.down ?_|refine az n1.down ?_|refine az l0.down ?_|refine az l1.down ?_|refine aK ?_|refine aL ?_|(refine aM ?_ ?_<;>intro hc<;>try exact zqM)|refine zqR 3 [⟨0,[],[7],[],[],0⟩,⟨1,[],[6],[],[],0⟩,⟨2,[0,1],[],[],[],0⟩,⟨3,[0,1,2],[],[],[],0⟩,⟨4,[0,1,2,3],[11],[],[],0⟩,⟨5,[0,1,2,3],[10],[],[],0⟩,⟨6,[0,1,2,3,4,5],[],[],[],0⟩,⟨7,[0,1,2,3,4,5,6],[],[],[],0⟩] ?_|refine zqR 5 [⟨0,[],[15,16],[],[],0⟩,⟨1,[],[14,17,18],[],[],0⟩,⟨2,[1],[14,17,18],[],[],0⟩,⟨3,[0],[15,16],[],[],0⟩,⟨4,[0,3],[15,16],[],[],0⟩,⟨5,[0,1,2,3,4],[],[],[],0⟩,⟨6,[0,1,2,3,4,5],[],[],[],0⟩] ?_|refine zqD ?_|fail)
   all_goals first
    |((refine Ends.mk2 zqI [] ?_;simp-dsimp(disch:=try exact vD) only[push_cast,simprocAttr,Tryz.f68];try exact zqF);done)
    |skip
 ·rw[if_pos (.inl rfl)]
  have l0:=PLift.up l0;have l1:=PLift.up l1
  refine ak Tryz.func68 Tryz.ntmps68 rfl ?_
  repeat' (first|refine zqN ?_|refine az h.down ?_|refine az n0.down ?_|refine az n1.down ?_|refine az l0.down ?_|refine az l1.down ?_|refine aK ?_|refine aL ?_|(refine aM ?_ ?_<;>intro hc<;>try exact zqM)|refine zqR 3 [⟨0,[],[7],[],[],0⟩,⟨1,[],[6],[],[],0⟩,⟨2,[0,1],[],[],[],0⟩,⟨3,[0,1,2],[],[],[],0⟩,⟨4,[0,1,2,3],[11],[],[],0⟩,⟨5,[0,1,2,3],[10],[],[],0⟩,⟨6,[0,1,2,3,4,5],[],[],[],0⟩,⟨7,[0,1,2,3,4,5,6],[],[],[],0⟩] ?_|refine zqR 5 [⟨0,[],[15,16],[],[],0⟩,⟨1,[],[14,17,18],[],[],0⟩,⟨2,[1],[14,17,18],[],[],0⟩,⟨3,[0],[15,16],[],[],0⟩,⟨4,[0,3],[15,16],[],[],0⟩,⟨5,[0,1,2,3,4],[],[],[],0⟩,⟨6,[0,1,2,3,4,5],[],[],[],0⟩] ?_|refine zqD ?_|fail)
  all_goals first
   |((refine Ends.mk2 zqI [] ?_;simp-dsimp(disch:=try exact vD) only[push_cast,simprocAttr,Tryz.f68];try exact zqF);done)
   |skip
theorem rH(hX:RIn X):ACall Tryz.prog 68 [.agg (aa.cells X)] [] 0 (.val (.int .i64 (pE X))) []:=by
 obtain⟨r,hr,hv⟩:=Ff hX
 by_cases h2:∃q,RIs X q
 ·obtain⟨q,hq⟩:=h2
  rw[hr.2 ⟨q,hq⟩] at hv
  rw[QL hq]
  obtain⟨z,e,hz⟩:=hq.ok
  subst e
  have t0:Two q 0:=⟨by show D300 (q.num*1);rw[Int.mul_one];exact hz.n.d,by show D300 (0*_);rw[Int.zero_mul];exact Ka,by show D300 (q.den*1);rw[Int.mul_one];exact hz.d⟩
  have t1:Two 1 q:=⟨by show D300 (1*_);rw[Int.one_mul];exact hz.d,by show D300 (q.num*1);rw[Int.mul_one];exact hz.n.d,by show D300 (1*_);rw[Int.one_mul];exact hz.d⟩
  have l0:=Fq hz aeZ t0
  have l1:=Fq ae0 hz t1
  have nm:=oo (v:=1000000) (by decide)
  have hM:ROk false ((1000000:Int):Rat):=⟨⟨Fa (v:=1000000) (by decide),fun h=>by cases h⟩,rD⟩
  have hMe:rC ((1000000:Int):Rat)=rQ false ((1000000:Int):Rat):=rfl
  have hQ:ROk false (((q.den:Nat):Int):Rat):=⟨⟨by rw[Rat.num_intCast];exact hz.d,fun h=>by cases h⟩,by rw[Rat.den_intCast];exact rD⟩
  have hQe:(⟨(rQ z q).den,(rQ false 1).den⟩:RV)=rQ false (((q.den:Nat):Int):Rat):=by
   unfold rQ
   rw[Rat.num_intCast,Rat.den_intCast];rfl
  have tm:Two ((1000000:Int):Rat) (((q.den:Nat):Int):Rat):=by
   refine⟨?_,?_,?_⟩
   ·rw[Rat.den_intCast];exact Fa (v:=1000000*1) (by decide)
   ·rw[Rat.num_intCast];show D300 ((q.den:Int)*1);rw[Int.mul_one];exact hz.d
   ·rw[Rat.den_intCast];exact rD
  have lm:=Fq hM hQ tm
  rw[hMe] at nm
  rw[←hQe] at lm
  refine ad4 hv Mw IX l0 l1 nm lm ?_
  unfold chE
  have e1:(q<0∨1<q)↔(decide (q<0)=true∨decide (1<q)=true):=by rw[decide_eq_true_eq,decide_eq_true_eq]
  have e2:1000000<q.den↔decide (((1000000:Int):Rat)<(((q.den:Nat):Int):Rat))=true:=by
   rw[decide_eq_true_eq,J8,Rat.num_intCast,Rat.num_intCast,Rat.den_intCast,Rat.den_intCast];omega
  by_cases c1:q<0∨1<q
  ·rw[if_pos c1,if_pos (e1.1 c1)]
  ·rw[if_neg c1,if_neg (fun h=>c1 (e1.2 h))]
   by_cases c2:1000000<q.den
   ·rw[if_pos c2,if_pos (e2.1 c2)]
   ·rw[if_neg c2,if_neg (fun h=>c2 (e2.2 h))]
 ·have e:r=false:=by
   cases r with
   |false=>rfl
   |true=>exact absurd (hr.1 rfl) h2
  rw[e] at hv
  rw[OX h2]
  exact TV hv
end
section
open Go Go.Sy Go.Lm Go.Rt Go.Dg
attribute [local irreducible] AO AL AC OpT ACall Ends DGo bK Thn Blk Nxt
variable {n N np k i m j r s T sv:Nat} {z z' zp zt:Bool} {ps xs:List RV} {L:List Fk} {F:List Fo} {X Y W ONE:RV} {A D S:Nat→RV} {v c e e2 rt:Int} {p:Nat→Rat} {tb:List Bool} {tab:Nat→Bool} {d:Nat→Nat}
theorem ae5(h:Cs p d n)(hn:n≤12)(hs:s≤2^n):Sm (sB p n tab s):=by
 have hb:=alm (tab:=tab) (s:=s) h
 have e:2^n≤2^12:=Nat.pow_le_pow_right (by omega) hn
 have e2:s*2^n≤2^12*2^12:=Nat.mul_le_mul (by omega) e
 exact h.sm hn (i:=0) (k:=n) (by omega) hb (by have:(2:Nat)^12*2^12≤10^60:=by decide
                                               omega)
end
section
open Go Go.Sy Go.Lm Go.Rt Go.Dg
attribute [local irreducible] AO AL AC OpT ACall Ends DGo bK Thn Blk Nxt
variable {n N np k i m j r s T sv:Nat} {z z' zp zt:Bool} {ps xs:List RV} {L:List Fk} {F:List Fo} {X Y W A B V:RV} {v c e e2 rt:Int} {p:Nat→Rat} {tab f:Nat→Bool}
theorem YW(hs:sv<ps.length):∀i,(ps.set sv X).getD i default=if i=sv then X else ps.getD i default:=fun i=>by
 rw[List.getD_eq_getElem?_getD,List.getElem?_set]
 by_cases e:sv=i
 ·subst e;rw[if_pos rfl,if_pos hs,if_pos rfl];rfl
 ·rw[if_neg e,if_neg (fun h=>e h.symm),List.getD_eq_getElem?_getD]
theorem YX{d:Nat→Nat} {x:Rat}(hl:ps.length=n)(hs:sv<n)(hP:Ps ps p n)(hx:SmZ z x):Ps (ps.set sv (rQ z x)) (upd p sv x) n:=fun i hi=>by
 rw[YW (by omega)]
 unfold upd
 by_cases e:i=sv
 ·rw[if_pos e,if_pos e];exact⟨z,rfl,hx⟩
 ·rw[if_neg e,if_neg e];exact hP i hi
theorem jO{d:Nat→Nat} {x:Rat}(hC:Cs p d n)(hx:Bd 1 1 x):Cs (upd p sv x) d n:=fun i hi=>by
 obtain⟨h1,h2,h3⟩:=hC i hi
 refine⟨?_,h2,h3⟩
 unfold upd
 split
 ·exact hx.mono (Nat.one_dvd _) (Nat.le_refl _)
 ·exact h1
end
section
open Go Go.Sy Go.Lm Go.Rt Go.Dg
attribute [local irreducible] AO AL AC OpT ACall Ends DGo bK Thn Blk Nxt
variable {n N k i m j r a b:Nat} {z z' zp:Bool} {ps xs:List RV} {X Y W ONE:RV} {v c e:Int} {p:Nat→Rat}
structure Chc where
 a:Nat
 b:Nat
instance:Inhabited Chc:=⟨⟨1,1⟩⟩
instance:aa Chc 2:=⟨fun x=>[.val (.int .u8 x.a),.val (.int .u8 x.b)],fun _=>rfl,fun _=>rfl,fun _=>rfl⟩
theorem TW(x:Chc):aa.cells x=[.val (.int .u8 x.a),.val (.int .u8 x.b)]:=rfl
theorem alq(x:Chc):(aa.cells x)[0]? =some (.val (.int .u8 x.a)):=rfl
theorem alr(x:Chc):(aa.cells x)[1]? =some (.val (.int .u8 x.b)):=rfl
attribute [push_cast] TW alq alr
end
section
open Go Go.Sy Go.Lm Go.Rt Go.Dg
attribute [local irreducible] AO AL AC OpT ACall Ends DGo bK Thn Blk Nxt
variable {n N k i m j r s T:Nat} {z z' zp:Bool} {l:List Int} {L:List Fk} {F:List Fo} {X Y W ONE P:RV} {S:Nat→RV} {Tm:Nat→Nat→RV} {v c e rt nn:Int} {p:Nat→Rat} {tab:Nat→Bool}
def faI(z:Bool)(l:List Int)(n:Nat)(P:RV)(S:Nat→RV)(j:{j:Nat // j≤n}):St:=
 ⟨60,0,[(0,.isl z (cI .i64 l) n),(3,.pt 0 0),(4,.pt 1 0),(7,.pt 2 0),(8,.val (.int .i64 j.val))],
   [(0,some (.cells (aa.cells P) 37)),(1,some (.cells (aa.cells rZ) 37)),(2,some (.cells (aa.cells (S j.val)) 37))]⟩
def faJ(z:Bool)(l:List Int)(n:Nat)(P:RV)(S:Nat→RV)(T:Nat→Nat→RV)(j:Nat)(i:{i:Nat // i≤n-1}):St:=
 ⟨60,0,[(0,.isl z (cI .i64 l) n),(3,.pt 0 0),(4,.pt 1 0),(7,.pt 2 0),(8,.val (.int .i64 j)),(9,.pt 3 0),(10,.val (.int .i64 i.val))],
   [(0,some (.cells (aa.cells P) 37)),(1,some (.cells (aa.cells rZ) 37)),(2,some (.cells (aa.cells (S j)) 37)),(3,some (.cells (aa.cells (T j i.val)) 37))]⟩
theorem alB{Q:RV}(hl:l.length=n)(h0:0<n)(hn:n≤13)(hp:ACall Tryz.prog 68 [.agg (aa.cells P)] [] 0 (.val (.int .i64 0)) [])(h1:ACall Tryz.prog 69 [.val (.int .i64 1)] [] 0 (.agg (aa.cells ONE)) [])(hq:ACall Tryz.prog 55 [.agg (aa.cells ONE),.agg (aa.cells P)] [] 0 (.agg (aa.cells Q)) [])(hz:ACall Tryz.prog 69 [.val (.int .i64 0)] [] 0 (.agg (aa.cells (S 0))) [])
 (hnum:∀j,j<n→ACall Tryz.prog 69 [.val (.int .i64 (l.getD j default))] [] 0 (.agg (aa.cells (Tm j 0))) [])
 (hmp:∀j i,j<n→i<n-1→i<j→ACall Tryz.prog 70 [.agg (aa.cells (Tm j i)),.agg (aa.cells P)] [] 0 (.agg (aa.cells (Tm j (i+1)))) [])
 (hmq:∀j i,j<n→i<n-1→¬i<j→ACall Tryz.prog 70 [.agg (aa.cells (Tm j i)),.agg (aa.cells Q)] [] 0 (.agg (aa.cells (Tm j (i+1)))) [])
 (hadd:∀j i,j<n→i=n-1→ACall Tryz.prog 71 [.agg (aa.cells (S j)),.agg (aa.cells (Tm j i))] [] 0 (.agg (aa.cells (S (j+1)))) []):
 ACall Tryz.prog 32 [.isl z (cI .i64 l) n,.agg (aa.cells P)] [] 0 (.tup [.agg (aa.cells (S n)),.val (.int .i64 0)]) []:=by
 have zx1:aa.cells rZ=[.val (.bool false),.isl true [] 0,.val (.bool false),.isl true [] 0]:=rfl
 have hp:=PLift.up hp;have g1:=PLift.up h1;have hq:=PLift.up hq;have hz:=PLift.up hz;have hnum:=PLift.up hnum;have hmp:=PLift.up hmp;have hmq:=PLift.up hmq;have hadd:=PLift.up hadd
 clear h1
 rw[aB P]
 refine ak Tryz.func32 Tryz.ntmps32 rfl ?_
 have zx2:=aC;have zx3:=aC;repeat' (first|(refine ai ?_;refine au [0,1,2,3] ([0,1,2,3].length) (faJ z l n P S Tm j) (fun i=>n-1-i.val) (⟨0,Nat.zero_le _⟩) rfl (by unfold faJ;exact eQ) ?_;(rintro⟨i,hi⟩;rcases Nat.lt_or_eq_of_le hi with hil|hil<;>first|(rcases Nat.lt_or_ge i j with hij|hij<;>first|(simp-dsimp only[faJ];refine zqS ?_)|(replace hij:¬i<j:=(by omega);(simp-dsimp only[faJ];refine zqS ?_)))|(subst hil;(simp-dsimp only[faJ];refine zqS ?_))))|(refine ax ?_;refine Nxt.mk [0,1,2,3] (⟨i+1,by omega⟩) rfl (by unfold faJ;exact eQ) zqO)|(refine ai ?_;refine au [0,1,2] ([0,1,2].length) (faI z l n P S) (fun j=>n-j.val) (⟨0,Nat.zero_le _⟩) rfl (by unfold faI;exact eQ) ?_;(rintro⟨j,hj⟩;rcases Nat.lt_or_eq_of_le hj with hjl|hjl<;>first|(subst hjl;(simp-dsimp only[faI];refine zqS ?_))|(simp-dsimp only[faI];refine zqS ?_)))|(refine ax ?_;refine Nxt.mk [0,1,2] (⟨j+1,by omega⟩) rfl (by unfold faI;exact eQ) zqO)|refine zqN ?_|refine bE hp.down ?_|refine bE hz.down ?_|refine bE (hnum.down j hjl) ?_|refine bE g1.down ?_|refine bE hq.down ?_|refine bE (hmp.down j i hjl hil hij) ?_|refine bE (hmq.down j i hjl hil (by omega)) ?_|refine bE (hadd.down j i hjl (by omega)) ?_|refine bM ?_|refine bO ?_|(refine bP ?_ ?_<;>intro hc<;>try exact zqM)|refine zqR 16 [⟨0,[],[52,53,54],[],[],0⟩,⟨1,[],[51,53],[],[],0⟩,⟨2,[],[51,52],[],[],0⟩,⟨3,[1,2],[51],[],[],0⟩,⟨4,[0,1,2,3],[],[],[],0⟩,⟨5,[0,1,2,3,4],[],[],[2],0⟩] ?_|refine zqD ?_|fail)
 all_goals first
  |((refine Ends.mk2 zqI [] ?_;simp-dsimp(disch:=try exact vD) only[push_cast,simprocAttr,Tryz.f32];try exact zqF);done)
  |skip
end
