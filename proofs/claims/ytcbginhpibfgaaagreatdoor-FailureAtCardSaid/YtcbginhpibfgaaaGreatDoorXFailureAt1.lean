/- Sym17 Args Lr1 Lr6 Fb5 Fb6 Fa7 Fc5 LawEC LawED FailArgs FacFailureAt. No condition. -/
import Derived.Test.YtcbginhpibfgaaaGreatDoorFacAll
import Derived.Test.YtcbginhpibfgaaaGreatDoorFDoor
import Derived.Test.YtcbginhpibfgaaaGreatDoorFcG1
import Derived.Test.YtcbginhpibfgaaaGreatDoorLawD1
import Derived.Test.YtcbginhpibfgaaaGreatDoorCards
import Derived.SevenTiedAt
set_option linter.all false
namespace Go.Sy
open Go.ChangeShapes Go.WideShapes Go.ChangeAt Go.RowKit
section
variable {H:Type} {enc:TypeId×Value→H} {P:Program} {W W':World}
theorem kT(K:Kids P (· <P.types.size))(hz:∀t e,t<P.types.size→P.underlying t=some (.slice e)→0<P.cellsOf e){r:Reach} {b:Nat} {m:Nat} {t:TypeId} {v:Value} {d:DataW H} {ps:List MemPlace} {held:Bool}(ht:t<P.types.size)(hp:mK P m t=true)
 (hs:(match P.underlying t with|some (.struct _)=>false|_=>true)=true) (hval:Value.okWide P W r b t v) (h:DataW.Trod enc P W 0 (fun _=>true) held t v d ps) (hw:∀k∈d.weights P t,k≤reachBytes):
 ∃x,dO P m t [x]∧Rep W (fun b=>b<W.heap.size) (fun _=>none) v x:=by
 obtain⟨fuel,hf⟩:=h
 obtain⟨asq,h1,h2⟩:=yh K hz m t _ _ fuel ht hp hf hw
 have hc:v.cells.toList=[v]:=by
  cases m with
  |zero=>simp[mK] at hp
  |succ m=>
   unfold mK at hp
   unfold Value.okWide at hval
   split at hp
   all_goals(try(rename_i hu;rw[hu] at hval hs))
   all_goals first
    |(cases hp;done)
    |(cases hs;done)
    |(simp only[Cell.okWide,Cell.ok] at hval
      rw[hu] at hval
      cases v<;>first|rfl|(simp at hval))
    |(rename_i hu;rw[hu] at hval hs;simp only[Cell.okWide,Cell.ok] at hval;rw[hu] at hval;cases v<;>first|rfl|(simp at hval))
 rw[hc] at h2
 obtain⟨g1,g2⟩:=h2
 cases asq with
 |nil=>simp at g1
 |cons x asq=>
  have:asq=[]:=List.length_eq_zero_iff.1 (by simpa using g1)
  subst this
  exact⟨x,h1,(g2 0 x rfl).2⟩
end
end Go.Sy
namespace Go.Proofs.YtcbginhpibfgaaaGreatDoor
open Go Go.Sy
theorem ahx{α:Type} {R:α→Prop}(xs:List (List AV))(l:List α)(hl:l.length=xs.length)(h:∀(i:Nat) (x:List AV) (a:α),xs[i]? =some x→l[i]? =some a→R a):∀a∈l,R a:=by
 intro a ha
 obtain⟨i,hi⟩:=List.mem_iff_getElem?.1 ha
 obtain⟨x,hx⟩:∃x,xs[i]? =some x:=⟨_,List.getElem?_eq_getElem (by rw[←hl];exact(List.getElem?_eq_some_iff.1 hi).1)⟩
 exact h i x a hx hi
theorem NU{m:Int}(h:(Lit.int .i64 m).wf=true): -9223372036854775808≤m∧m≤9223372036854775807:=by
 simp only[Lit.wf,Bool.and_eq_true,decide_eq_true_eq,IntKind.min,IntKind.max] at h
 simpa[IntKind.bits,IntKind.signed] using h
theorem Ii{m:Nat} {t:TypeId} {av:List AV}(hu:Tryz.prog.underlying t=some .bool)(h:dO Tryz.prog m t av):∃b,av=[.val (.bool b)]:=by
 cases m with
 |zero=>cases h
 |succ m=>unfold dO at h;rw[hu] at h;exact h
theorem mo{α β:Type}(g:α→β)(l:List α):l.flatMap (fun i=>[g i])=l.map g:=by
 induction l with
 |nil=>rfl
 |cons a l ih=>rw[List.flatMap_cons,ih];rfl
theorem lN{α:Type} {g:α→List AV} {Q:α→Prop} {m bn:Nat} {t e:TypeId} {av:List AV}(hu:Tryz.prog.underlying t=some (.slice e))(h:dO Tryz.prog m t av)(hb:Tryz.prog.bytesOf e=bn)(h8:1≤bn)
 (hx:∀n x,dO Tryz.prog n e x→∃a,x=g a∧Q a):∃(z:Bool) (l:List α),av=[.isl z (l.flatMap g) l.length]∧(∀a∈l,Q a)∧l.length<2^47∧(z=true→l=[]):=by
 obtain⟨n,rfl|⟨xs,rfl,h1,h2⟩⟩:=u6 hu h
 ·exact⟨true,[],rfl,by simp,Nat.two_pow_pos 47,fun _=>rfl⟩
 ·obtain⟨l,k1,k2⟩:=JD (R:=fun x a=>x=g a∧Q a) xs (fun x hx'=>hx n x (h1 x hx').2)
  refine⟨false,l,?_,ahx xs l k1 (fun i x a hx ha=>(k2 i x a hx ha).2),?_,fun h=>by cases h⟩
  ·rw[Dm (g:=g) xs l k1 (fun i x a hx ha=>(k2 i x a hx ha).1),k1]
  ·have h3:xs.length*1≤reachBytes:=Nat.le_trans (Nat.mul_le_mul_left _ (hb▸h8)) h2
   rw[k1];unfold reachBytes at h3;omega
end Go.Proofs.YtcbginhpibfgaaaGreatDoor
set_option maxHeartbeats 4000000
set_option maxRecDepth 20000
namespace Go.Proofs.YtcbginhpibfgaaaGreatDoor
open Go Go.Sy Go.Bp Go.Lm
attribute [local irreducible] AO AL AC OpT ACall Ends DGo bK Thn Blk Nxt
variable {n N M k i m j r q:Nat} {z z' zq zr neg nx ny:Bool} {l a b u vl L R T Q Lx Ly:List Int} {v x y d f g c rv e:Int} {W W2 X Y:IV}
theorem QD(hl:X.l.length=n)(hn:n<2^50)(hk:k<2^50):ACall Tryz.prog 83 [.agg (aa.cells X),.val (.int .i64 k)] [] 0 (.val (.bool (decide (n≤k)))) []:=by
 have e:decide (n≤k)=decide ((n:Int)≤k):=decide_eq_decide.2 (by omega)
 rw[bC X,e,hl]
 refine ak Tryz.func83 Tryz.ntmps83 rfl ?_
 repeat' (first|refine zqN ?_|refine aK ?_|refine aL ?_|(refine aM ?_ ?_<;>intro hc<;>try exact zqM))
 all_goals first
  |((refine Ends.mk2 zqI [] ?_;simp-dsimp(disch:=try exact vD) only[push_cast,simprocAttr,Tryz.f83];try exact zqF);done)
  |skip
end Go.Proofs.YtcbginhpibfgaaaGreatDoor
namespace Go.Proofs.YtcbginhpibfgaaaGreatDoor
open Go Go.Sy Go.Bp Go.Lm Go.Rt
attribute [local irreducible] AO AL AC OpT ACall Ends DGo bK Thn Blk Nxt
variable {n N M k i m j:Nat} {z z' neg:Bool} {l:List Int} {a b v x y e s c:Int} {A B C A1 B1 G G2 P Q R1 R2 Z1 X1 Y1:IV} {p q:Rat} {X Y W:RV}
theorem Yg:MP rZ:=⟨by show 0<_;decide,by show 0<_;decide⟩
theorem OO{r1 r2:Bool}(h1:ACall Tryz.prog 83 [.agg (aa.cells X.num),.val (.int .i64 a)] [] 0 (.val (.bool r1)) [])(h2:ACall Tryz.prog 83 [.agg (aa.cells X.den),.val (.int .i64 a)] [] 0 (.val (.bool r2)) []):
 ACall Tryz.prog 51 [.agg (aa.cells X),.val (.int .i64 a)] [] 0 (.val (.bool (r1&&r2))) []:=by
 have h2:=PLift.up h2
 rw[aB X]
 cases r1
 all_goals have h1:=PLift.up h1
 all_goals(refine ak Tryz.func51 Tryz.ntmps51 rfl ?_)
 all_goals repeat' (first|refine zqN ?_|refine az h1.down ?_|refine az h2.down ?_|refine aK ?_|refine aL ?_|(refine aM ?_ ?_<;>intro hc<;>try exact zqM))
 all_goals first
  |((refine Ends.mk2 zqI [] ?_;simp-dsimp(disch:=try exact vD) only[push_cast,simprocAttr,Tryz.f51];try exact zqF);done)
  |skip
theorem Mf(hX:MP X)(hk:k<2^50):ACall Tryz.prog 51 [.agg (aa.cells X),.val (.int .i64 k)] [] 0 (.val (.bool (decide (X.num.l.length≤k)&&decide (X.den.l.length≤k)))) []:=
 OO (QD rfl (by have:=hX.n;omega) hk) (QD rfl (by have:=hX.d;omega) hk)
end Go.Proofs.YtcbginhpibfgaaaGreatDoor
namespace Go.Proofs.YtcbginhpibfgaaaGreatDoor
open Go Go.Sy Go.Lm Go.Rt Go.Dg
attribute [local irreducible] AO AL AC OpT ACall Ends DGo bK Thn Blk Nxt
variable {n N k i m j r a b:Nat} {z z' zp:Bool} {ps xs:List RV} {L:List Fk} {X Y W ONE:RV} {D:Nat→RV} {B:Nat→Bool} {v c e rt nn:Int} {p:Nat→Rat}
def fwI(zp:Bool)(ps:List RV)(n T:Nat)(i:{i:Nat // i≤T}):St:=
 ⟨19,0,[(0,.isl zp (cR ps) n),(3,.val (.int .i64 i.val))],[]⟩
theorem als(hl:ps.length=n)(hn:n<2^47)(h:∀i,i<n→ACall Tryz.prog 51 [.agg (aa.cells (ps.getD i default)),.val (.int .i64 40)] [] 0 (.val (.bool true)) []):
 ACall Tryz.prog 19 [.isl zp (cR ps) n] [] 0 (.val (.bool (decide (n≤14)))) []:=by
 have h:=PLift.up h
 have zx1:((n:Int)≤14)=(n≤14):=propext (by omega)
 refine ak Tryz.func19 Tryz.ntmps19 rfl ?_
 have zx2:=aC;have zx3:=aC;repeat' (first|(refine ai ?_;refine au [] ([].length) (fwI zp ps n n) (fun i=>n-i.val) (⟨0,Nat.zero_le _⟩) rfl (by unfold fwI;exact eQ) ?_;(rintro⟨i,hi⟩;rcases Nat.lt_or_eq_of_le hi with hil|hil<;>first|(subst hil;(simp-dsimp only[fwI];refine zqS ?_))|(simp-dsimp only[fwI];refine zqS ?_)))|(refine ax ?_;refine Nxt.mk [] (⟨i+1,by omega⟩) rfl (by unfold fwI;exact eQ) zqO)|refine zqN ?_|refine bE (h.down i hil) ?_|refine bM ?_|refine bO ?_|(refine bP ?_ ?_<;>intro hc<;>try exact zqM))
 all_goals first
  |((refine Ends.mk2 zqI [] ?_;simp-dsimp(disch:=try exact vD) only[push_cast,simprocAttr,Tryz.f19,zx1];try exact zqF);done)
  |skip
theorem alu(hl:ps.length=n)(hn:n<2^47)(hk:k<n)(h:∀i,i<k→ACall Tryz.prog 51 [.agg (aa.cells (ps.getD i default)),.val (.int .i64 40)] [] 0 (.val (.bool true)) [])(hb:ACall Tryz.prog 51 [.agg (aa.cells (ps.getD k default)),.val (.int .i64 40)] [] 0 (.val (.bool false)) []):
 ACall Tryz.prog 19 [.isl zp (cR ps) n] [] 0 (.val (.bool false)) []:=by
 have h:=PLift.up h;have hb:=PLift.up hb
 have hfw:=ae
 refine ak Tryz.func19 Tryz.ntmps19 rfl ?_
 repeat' (first|(refine ai ?_;refine au [] ([].length) (fwI zp ps n k) (fun i=>k-i.val) (⟨0,Nat.zero_le _⟩) rfl (by unfold fwI;exact mO) ?_;(rintro⟨i,hi⟩;rcases Nat.lt_or_eq_of_le hi with hil|hil<;>first|(subst hil;have hfw:=hb;(simp-dsimp only[fwI];refine zqS ?_))|(have hfw:=PLift.up (h.down i hil);(simp-dsimp only[fwI];refine zqS ?_))))|(refine ax ?_;refine Nxt.mk [] (⟨i+1,by omega⟩) rfl (by unfold fwI;exact mO) zqO)|refine zqN ?_|refine az hfw.down ?_|refine aK ?_|refine aL ?_|(refine aM ?_ ?_<;>intro hc<;>try exact zqM))
 all_goals first
  |((refine Ends.mk2 zqI [] ?_;simp-dsimp(disch:=try exact vD) only[push_cast,simprocAttr,Tryz.f19];try exact zqF);done)
  |skip
theorem Pj(hl:ps.length=n)(hn:n<2^47)(hx:∀i,i<n→MP (ps.getD i default)):∃r:Bool,(r=true→n≤14)∧ACall Tryz.prog 19 [.isl zp (cR ps) n] [] 0 (.val (.bool r)) []:=by
 have hf:=fun i hi=>Mf (k:=40) (hx i hi) (by decide)
 generalize hB:(fun i:Nat=>decide ((ps.getD i default).num.l.length≤40)&&decide ((ps.getD i default).den.l.length≤40))=B at hf
 have hf:∀i,i<n→ACall Tryz.prog 51 [.agg (aa.cells (ps.getD i default)),.val (.int .i64 40)] [] 0 (.val (.bool (B i))) []:=fun i hi=>by rw[←hB];exact Mf (k:=40) (hx i hi) (by decide)
 have key:∀k,k≤n→(∀i,i<k→B i=true)∨∃j,j<n∧B j=false∧∀i,i<j→B i=true:=by
  intro k
  induction k with
  |zero=>exact fun _=> .inl fun i h=>absurd h (Nat.not_lt_zero i)
  |succ k ih=>
   intro hk
   rcases ih (by omega) with h|h
   ·rcases Bool.eq_false_or_eq_true (B k) with hb|hb
    ·exact .inl fun i hi=>by
      rcases Nat.lt_or_eq_of_le (Nat.le_of_lt_succ hi) with h1|h1
      ·exact h i h1
      ·rw[h1];exact hb
    ·exact .inr ⟨k,by omega,hb,h⟩
   ·exact .inr h
 rcases key n (Nat.le_refl n) with h|⟨j,hj,hb,h⟩
 ·exact⟨_,fun hd=>of_decide_eq_true hd,als hl hn fun i hi=>by have:=hf i hi;rw[h i hi] at this;exact this⟩
 ·exact⟨false,fun hd=>(by cases hd),alu hl hn hj (fun i hi=>by have:=hf i (by omega);rw[h i hi] at this;exact this) (by have:=hf j hj;rw[hb] at this;exact this)⟩
end Go.Proofs.YtcbginhpibfgaaaGreatDoor
namespace Go.Proofs.YtcbginhpibfgaaaGreatDoor
open Go Go.Sy Go.Lm Go.Rt Go.Dg
attribute [local irreducible] AO AL AC OpT ACall Ends DGo bK Thn Blk Nxt
variable {n N k i m j r s T:Nat} {z z' zp:Bool} {l:List Int} {L:List Fk} {F:List Fo} {X Y W ONE P:RV} {S:Nat→RV} {Tm:Nat→Nat→RV} {v c e rt nn:Int} {p:Nat→Rat} {tab:Nat→Bool}
theorem aec(hl:l.length=n)(hn:n=0∨13<n)(hn2:n<2^47):ACall Tryz.prog 32 [.isl z (cI .i64 l) n,.agg (aa.cells P)] [] 0 (.tup [.agg (aa.cells rZ),.val (.int .i64 6)]) []:=by
 have ez:aa.cells rZ=[.val (.bool false),.isl true [] 0,.val (.bool false),.isl true [] 0]:=rfl
 rw[ez,aB P]
 rcases hn with hn|hn
 all_goals(refine ak Tryz.func32 Tryz.ntmps32 rfl ?_)
 all_goals repeat' (first|refine zqN ?_|refine aK ?_|refine aL ?_|(refine aM ?_ ?_<;>intro hc<;>try exact zqM)|refine zqR 16 [⟨0,[],[52,53,54],[],[],0⟩,⟨1,[],[51,53],[],[],0⟩,⟨2,[],[51,52],[],[],0⟩,⟨3,[1,2],[51],[],[],0⟩,⟨4,[0,1,2,3],[],[],[],0⟩,⟨5,[0,1,2,3,4],[],[],[2],0⟩] ?_|refine zqD ?_|fail)
 all_goals first
  |((refine Ends.mk2 zqI [] ?_;simp-dsimp(disch:=try exact vD) only[push_cast,simprocAttr,Tryz.f32];try exact zqF);done)
  |skip
theorem alA(hl:l.length=n)(h0:0<n)(hn:n≤13)(hp:ACall Tryz.prog 68 [.agg (aa.cells P)] [] 0 (.val (.int .i64 e)) [])(hne:¬e=0):ACall Tryz.prog 32 [.isl z (cI .i64 l) n,.agg (aa.cells P)] [] 0 (.tup [.agg (aa.cells rZ),.val (.int .i64 e)]) []:=by
 have ez:aa.cells rZ=[.val (.bool false),.isl true [] 0,.val (.bool false),.isl true [] 0]:=rfl
 have hp:=PLift.up hp
 rw[ez,aB P]
 refine ak Tryz.func32 Tryz.ntmps32 rfl ?_
 have zx1:= @hne;have zx2:=aC;have zx3:=aC;repeat' (first|refine zqN ?_|refine bE hp.down ?_|refine bM ?_|refine bO ?_|(refine bP ?_ ?_<;>intro hc<;>try exact zqM)|refine zqR 16 [⟨0,[],[52,53,54],[],[],0⟩,⟨1,[],[51,53],[],[],0⟩,⟨2,[],[51,52],[],[],0⟩,⟨3,[1,2],[51],[],[],0⟩,⟨4,[0,1,2,3],[],[],[],0⟩,⟨5,[0,1,2,3,4],[],[],[2],0⟩] ?_|refine zqD ?_|fail)
 all_goals first
  |((refine Ends.mk2 zqI [] ?_;simp-dsimp(disch:=try exact vD) only[push_cast,simprocAttr,Tryz.f32];try exact zqF);done)
  |skip
end Go.Proofs.YtcbginhpibfgaaaGreatDoor
namespace Go.Proofs.YtcbginhpibfgaaaGreatDoor
open Go Go.Sy Go.Lm Go.Rt Go.Dg
attribute [local irreducible] AO AL AC OpT ACall Ends DGo bK Thn Blk Nxt
variable {n N k i m j r:Nat} {z zp:Bool} {B A l:List Int} {P Q W X Y:RV} {T:Nat→Nat→RV} {S:Nat→RV} {rt e e2 v:Int} {x c:Rat}
theorem ajc(hl:l.length=n)(hn:n=0∨13<n)(hn2:n<2^47):ACall Tryz.prog 30 [.isl z (cI .i64 l) n,.agg (aa.cells P)] [] 0 (.tup [.agg (aa.cells rZ),.val (.int .i64 6)]) []:=by
 have ez:aa.cells rZ=[.val (.bool false),.isl true [] 0,.val (.bool false),.isl true [] 0]:=rfl
 rw[ez,aB P]
 rcases hn with hn|hn
 all_goals(refine ak Tryz.func30 Tryz.ntmps30 rfl ?_)
 all_goals repeat' (first|refine zqN ?_|refine aK ?_|refine aL ?_|(refine aM ?_ ?_<;>intro hc<;>try exact zqM))
 all_goals first
  |((refine Ends.mk2 zqI [] ?_;simp-dsimp(disch:=try exact vD) only[push_cast,simprocAttr,Tryz.f30];try exact zqF);done)
  |skip
theorem at_e(hl:l.length=n)(h0:0<n)(hn:n≤13)(hp:ACall Tryz.prog 64 [.agg (aa.cells P)] [] 0 (.val (.int .i64 e)) [])(hne:¬e=0):ACall Tryz.prog 30 [.isl z (cI .i64 l) n,.agg (aa.cells P)] [] 0 (.tup [.agg (aa.cells rZ),.val (.int .i64 e)]) []:=by
 have ez:aa.cells rZ=[.val (.bool false),.isl true [] 0,.val (.bool false),.isl true [] 0]:=rfl
 have hp:=PLift.up hp
 rw[ez,aB P]
 refine ak Tryz.func30 Tryz.ntmps30 rfl ?_
 have zx1:= @hne;have zx2:=aC;have zx3:=aC;repeat' (first|refine zqN ?_|refine bE hp.down ?_|refine bM ?_|refine bO ?_|(refine bP ?_ ?_<;>intro hc<;>try exact zqM))
 all_goals first
  |((refine Ends.mk2 zqI [] ?_;simp-dsimp(disch:=try exact vD) only[push_cast,simprocAttr,Tryz.f30];try exact zqF);done)
  |skip
end Go.Proofs.YtcbginhpibfgaaaGreatDoor
namespace Go.Proofs.YtcbginhpibfgaaaGreatDoor
open Go Go.Sy Go.Lm Go.Rt Go.Dg
attribute [local irreducible] AO AL AC OpT ACall Ends DGo bK Thn Blk Nxt
variable {n m k i j:Nat} {z z':Bool} {l xs:List Int} {ss:List Nat} {X:RV} {a b:Int}
theorem alO:ACall Tryz.prog 31 [.isl true [] 0] [] 0 (.isl true [] 0) []:=by
 refine ak Tryz.func31 Tryz.ntmps31 rfl ?_
 repeat' (first|refine zqN ?_|refine aK ?_|refine iy ?_|refine iA ?_|refine iB ?_|refine aL ?_|(refine aM ?_ ?_<;>intro hc<;>try exact zqM))
 all_goals(refine Ends.mk2 zqI [] ?_;simp-dsimp(disch:=try exact vD) only[push_cast,simprocAttr,Tryz.f31];try exact zqF)
theorem ajp(hn:l.length=n)(hb:n≤100000):ACall Tryz.prog 31 [.isl false (cI .i64 l) n] [] 0 (.isl false (cI .i64 l) n) []:=by
 refine ak Tryz.func31 Tryz.ntmps31 rfl ?_
 repeat' (first|refine zqN ?_|refine aK ?_|refine iy ?_|refine iA ?_|refine iB ?_|refine aL ?_|(refine aM ?_ ?_<;>intro hc<;>try exact zqM))
 all_goals((refine Ends.frz 1 ?_;simp-dsimp(disch:=try exact vD) only[push_cast,simprocAttr,Tryz.f31];(repeat refine aI ?_);intro K hK;refine hK _ _ ?_;clear hK K);refine Ends.mk2 zqI [] ?_;simp-dsimp(disch:=try exact vD) only[push_cast,simprocAttr,Tryz.f31];try exact zqF)
theorem ajq(hn:l.length=n)(hb:n≤100000)(hz:z=true→l=[]):ACall Tryz.prog 31 [.isl z (cI .i64 l) n] [] 0 (.isl z (cI .i64 l) n) []:=by
 cases z with
 |false=>exact ajp hn hb
 |true=>
  have e:=hz rfl
  subst e;subst hn;exact alO
end Go.Proofs.YtcbginhpibfgaaaGreatDoor
namespace Go.Proofs.YtcbginhpibfgaaaGreatDoor
open Go Go.Sy Go.Lm Go.Rt Go.Dg
attribute [local irreducible] AO AL AC OpT ACall Ends DGo bK Thn Blk Nxt
variable {N M L k i m np:Nat} {z zp:Bool} {ps:List RV} {L:List Fk} {X Y:RV} {n r e g s:Int} {F:List Fo}
theorem fT:ACall Tryz.prog 17 [.agg (aa.cells rZ),.agg (aa.cells rZ)] [] 0 (.val (.bool true)) []:=by
 have:=QI Yg Yg
 rw[yL] at this;exact this
end Go.Proofs.YtcbginhpibfgaaaGreatDoor
namespace Go.Proofs.YtcbginhpibfgaaaGreatDoor
open Go Go.Sy Go.Lm Go.Rt Go.Dg
attribute [local irreducible] AO AL AC OpT ACall Ends DGo bK Thn Blk Nxt
variable {n:Nat} {z:Bool} {l:List Int} {P X:RV} {e:Int} {fw:Bool}
theorem Rc{b:Bool}(h:ACall Tryz.prog 19 [.isl false (cR [P]) 1] [] 0 (.val (.bool b)) []):ACall Tryz.prog 19 [.sl 0 0 1 4] [.cells (cR [P]) 37] 0 (.val (.bool b)) []:=
 ACall.own (args':=[.isl false (cR [P]) 1]) (by simp[bnd,c1R]) (by simp[bT];rfl) (by simp[bnd,c1R]) h
theorem ZB(hl:l.length=n)(hn:15<n)(hn2:n<2^47):ACall Tryz.prog 7 [.isl z (cI .i64 l) n,.agg (aa.cells P)] [] 0 (.val (.bool true)) []:=by
 have haw:=PLift.up bQ
 rw[aB P]
 refine ak Tryz.func7 Tryz.ntmps7 rfl ?_
 repeat' (first|refine zqN ?_|refine az haw.down ?_|refine aK ?_|refine aL ?_|(refine aM ?_ ?_<;>intro hc<;>try exact zqM)|refine zqR 3 [⟨0,[],[5,26],[],[],0⟩,⟨1,[0],[5,26],[],[],0⟩,⟨2,[],[5,24,25],[],[],0⟩,⟨3,[0,1,2],[5],[],[],0⟩,⟨4,[0,1,2,3],[5],[],[],0⟩,⟨5,[0,1,2,3,4],[5,29],[],[],0⟩,⟨6,[0,1,2,3,4],[5,28],[2],[],0⟩,⟨7,[],[23,24,25,26,27,28,29],[],[],1⟩,⟨8,[0,1,2,3,4,5,7],[29],[],[2],0⟩,⟨9,[0,1,2,3,4,5,6,7,8],[],[],[],0⟩] ?_|refine zqD ?_|fail)
 all_goals first
  |((refine Ends.mk2 zqI [] ?_;simp-dsimp(disch:=try exact vD) only[push_cast,simprocAttr,Tryz.f7];try exact zqF);done)
  |skip
theorem ZC(hl:l.length=n)(hn:n≤15)(hf:ACall Tryz.prog 19 [.isl false (cR [P]) 1] [] 0 (.val (.bool false)) []):ACall Tryz.prog 7 [.isl z (cI .i64 l) n,.agg (aa.cells P)] [] 0 (.val (.bool true)) []:=by
 have hf:=Rc hf
 rw[c1R] at hf
 have haw:=PLift.up bQ;have hf:=PLift.up hf
 rw[aB P]
 refine ak Tryz.func7 Tryz.ntmps7 rfl ?_
 repeat' (first|refine zqN ?_|((first|refine ay rfl (fun K hK=>?_)|refine aj (fun K hK=>?_)|refine aA (fun K hK=>?_));(first|refine ah (f:=12) [] 0 false ?_|refine ah (f:=19) [1] 0 false ?_);refine jP ?_;(first|refine⟨_,_,haw.down,?_⟩|refine⟨_,_,hf.down,?_⟩);refine gD ?_;apply hK;clear hK K)|refine aK ?_|refine aL ?_|(refine aM ?_ ?_<;>intro hc<;>try exact zqM)|refine zqR 3 [⟨0,[],[5,26],[],[],0⟩,⟨1,[0],[5,26],[],[],0⟩,⟨2,[],[5,24,25],[],[],0⟩,⟨3,[0,1,2],[5],[],[],0⟩,⟨4,[0,1,2,3],[5],[],[],0⟩,⟨5,[0,1,2,3,4],[5,29],[],[],0⟩,⟨6,[0,1,2,3,4],[5,28],[2],[],0⟩,⟨7,[],[23,24,25,26,27,28,29],[],[],1⟩,⟨8,[0,1,2,3,4,5,7],[29],[],[2],0⟩,⟨9,[0,1,2,3,4,5,6,7,8],[],[],[],0⟩] ?_|refine zqD ?_|fail)
 all_goals first
  |((refine Ends.mk2 zqI [] ?_;simp-dsimp(disch:=try exact vD) only[push_cast,simprocAttr,Tryz.f7];try exact zqF);done)
  |skip
theorem Ko(hl:l.length=n)(hn:n≤15)(hf:ACall Tryz.prog 19 [.isl false (cR [P]) 1] [] 0 (.val (.bool true)) [])(hc:ACall Tryz.prog 31 [.isl z (cI .i64 l) n] [] 0 (.isl z (cI .i64 l) n) [])
 (o1:ACall Tryz.prog 30 [.isl z (cI .i64 l) n,.agg (aa.cells P)] [] 0 (.tup [.agg (aa.cells X),.val (.int .i64 e)]) []) (o2:ACall Tryz.prog 32 [.isl z (cI .i64 l) n,.agg (aa.cells P)] [] 0 (.tup [.agg (aa.cells X),.val (.int .i64 e)]) []) (e1:ACall Tryz.prog 17 [.agg (aa.cells X),.agg (aa.cells X)] [] 0 (.val (.bool true)) []):
 ACall Tryz.prog 7 [.isl z (cI .i64 l) n,.agg (aa.cells P)] [] 0 (.val (.bool true)) []:=by
 have hf:=Rc hf
 rw[c1R] at hf
 have haw:=PLift.up bQ;have hf:=PLift.up hf;have hcl:=PLift.up hc;have o1:=PLift.up o1;have o2:=PLift.up o2;have e1:=PLift.up e1
 clear hc
 rw[aB P] at*
 refine ak Tryz.func7 Tryz.ntmps7 rfl ?_
 repeat' (first|refine zqN ?_|((first|refine ay rfl (fun K hK=>?_)|refine aj (fun K hK=>?_)|refine aA (fun K hK=>?_));(first|refine ah (f:=12) [] 0 false ?_|refine ah (f:=19) [1] 0 false ?_|refine ah (f:=31) [] 0 false ?_|refine ah (f:=30) [] 0 false ?_|refine ah (f:=32) [] 0 false ?_|refine ah (f:=17) [] 0 false ?_);refine jP ?_;(first|refine⟨_,_,haw.down,?_⟩|refine⟨_,_,hf.down,?_⟩|refine⟨_,_,hcl.down,?_⟩|refine⟨_,_,o1.down,?_⟩|refine⟨_,_,o2.down,?_⟩|refine⟨_,_,e1.down,?_⟩);refine gD ?_;apply hK;clear hK K)|refine aK ?_|refine aL ?_|(refine aM ?_ ?_<;>intro hc<;>try exact zqM)|refine zqR 3 [⟨0,[],[5,26],[],[],0⟩,⟨1,[0],[5,26],[],[],0⟩,⟨2,[],[5,24,25],[],[],0⟩,⟨3,[0,1,2],[5],[],[],0⟩,⟨4,[0,1,2,3],[5],[],[],0⟩,⟨5,[0,1,2,3,4],[5,29],[],[],0⟩,⟨6,[0,1,2,3,4],[5,28],[5],[],0⟩,⟨7,[],[23,24,25,26,27,28,29],[],[],1⟩,⟨8,[0,1,2,3,4,5,7],[29],[],[5],0⟩,⟨9,[0,1,2,3,4,5,6,7,8],[],[],[],0⟩] ?_|refine zqD ?_|fail)
 all_goals first
  |((refine Ends.mk2 zqI [] ?_;simp-dsimp(disch:=try exact vD) only[push_cast,simprocAttr,Tryz.f7];try exact zqF);done)
  |skip
theorem alW(hl:l.length=n)(hn2:n<2^47)(hz:z=true→l=[])(hL:L64 l)(hX:RIn P):ACall Tryz.prog 7 [.isl z (cI .i64 l) n,.agg (aa.cells P)] [] 0 (.val (.bool true)) []:=by
 by_cases h15:15<n
 ·exact ZB hl h15 hn2
 obtain⟨fw,_,hfw⟩:=Pj (zp:=false) (ps:=[P]) (n:=1) rfl (by omega) (fun i hi=>by
  have:i=0:=by omega
  subst this;exact⟨hX.ln,hX.ld⟩)
 cases fw with
 |false=>exact ZC hl (by omega) hfw
 |true=>
  have hc:=ajq (z:=z) hl (by omega) hz
  by_cases hr:n=0∨13<n
  ·exact Ko hl (by omega) hfw hc (ajc hl hr (by omega)) (aec hl hr (by omega)) fT
  ·have h0:0<n:=by omega
   have h13:n≤13:=by omega
   by_cases he:pE P=0
   ·obtain⟨c,a,b,sm,_⟩:=Zp hl h0 h13 hL hX he
    exact Ko hl (by omega) hfw hc (a z) (b z) (eq_self _ sm)
   ·exact Ko hl (by omega) hfw hc (at_e hl h0 h13 (wX hX) he) (alA hl h0 h13 (rH hX) he) fT
end Go.Proofs.YtcbginhpibfgaaaGreatDoor
namespace Go.Proofs.YtcbginhpibfgaaaGreatDoor
open Go Go.Sy Go.Bp Go.Dg Go.Lm
theorem ajy{m:Int}(h:(Lit.int .u32 m).wf=true):0≤m∧m≤4294967295:=by
 simp only[Lit.wf,Bool.and_eq_true,decide_eq_true_eq,IntKind.min,IntKind.max] at h
 simpa[IntKind.bits,IntKind.signed] using h
theorem Uj{m:Nat} {av:List AV}(h:dO Tryz.prog m 33 av):∃(z:Bool) (l:List Int),av=[.isl z (cI .u32 l) l.length]∧R32 l∧l.length<2^47∧(z=true→l=[]):=by
 obtain⟨z,l,e,ho,hl,hz⟩:=lN (g:=fun(x:Int)=>[AV.val (.int .u32 x)]) (Q:=fun x=>0≤x∧x≤4294967295) (bn:=4) Tryz.underlying33 h (by kernel_rfl) (by decide) (fun n x hx=>by
  obtain⟨k,rfl,hk⟩:=gT Tryz.underlying115 hx
  exact⟨k,rfl,ajy hk⟩)
 rw[show l.flatMap (fun(x:Int)=>[AV.val (.int .u32 x)])=cI .u32 l from mo _ l] at e
 exact⟨z,l,e,ho,hl,hz⟩
theorem Uk{m:Nat} {av:List AV}(h:dO Tryz.prog m 53 av):∃(z:Bool) (l:List Int),av=[.isl z (cI .i64 l) l.length]∧L64 l∧l.length<2^47∧(z=true→l=[]):=by
 obtain⟨z,l,e,ho,hl,hz⟩:=lN (g:=fun(x:Int)=>[AV.val (.int .i64 x)]) (Q:=fun x=>I64 x) (bn:=8) Tryz.underlying53 h (by kernel_rfl) (by decide) (fun n x hx=>by
  obtain⟨k,rfl,hk⟩:=gT Tryz.underlying2 hx
  have:=NU hk
  exact⟨k,rfl,by unfold I64;omega⟩)
 rw[show l.flatMap (fun(x:Int)=>[AV.val (.int .i64 x)])=cI .i64 l from mo _ l] at e
 refine⟨z,l,e,fun i hi=>?_,hl,hz⟩
 rw[List.getD_eq_getElem?_getD,List.getElem?_eq_getElem hi];exact ho _ (List.getElem_mem hi)
theorem I4{m:Nat} {av:List AV}(h:dO Tryz.prog m 35 av):∃X:IV,av=aa.cells X∧R32 X.l∧(X.z=true→X.l=[])∧X.l.length<2^47:=by
 obtain⟨_,xs,rfl,hl,hx⟩:=jm Tryz.underlying35 h
 match xs,hl with
 |[a0,a1],_=>
  obtain⟨b0,rfl⟩:=Ii Tryz.underlying4 (hx 0 _ a0 rfl rfl)
  obtain⟨z,l,rfl,h1,h2,h3⟩:=Uj (hx 1 _ a1 rfl rfl)
  exact⟨⟨z,b0,l⟩,rfl,h1,h3,h2⟩
theorem Fw{m:Nat} {av:List AV}(h:dO Tryz.prog m 37 av):∃X:RV,av=aa.cells X∧RIn X:=by
 obtain⟨_,xs,rfl,hl,hx⟩:=jm Tryz.underlying37 h
 match xs,hl with
 |[a0,a1],_=>
  obtain⟨X,rfl,p1,p2,p3⟩:=I4 (hx 0 _ a0 rfl rfl)
  obtain⟨Y,rfl,q1,q2,q3⟩:=I4 (hx 1 _ a1 rfl rfl)
  exact⟨⟨X,Y⟩,rfl,p1,q1,p2,q2,p3,q3⟩
end Go.Proofs.YtcbginhpibfgaaaGreatDoor
set_option maxRecDepth 100000
namespace Go.Proofs.YtcbginhpibfgaaaGreatDoor
open Go
theorem Kq:Rows.failureAtRow.wf (OpenSpec.ofChange Rows.failureAtSpec)=true:=by kernel_rfl
theorem Kr:Tryz.f7.params.all (Tryz.prog.readableRec ·)=true:=by kernel_rfl
theorem Kt:namedTie Tryz.prog Rows.failureAtRow.named Rows.failureAtSpec.vars=true:=by kernel_rfl
theorem Ku:(Rows.failureAtRow.stops==[])=true:=by kernel_rfl
theorem Kv:(Rows.failureAtRow.knobs==[])=true:=by kernel_rfl
theorem Kw:(Rows.failureAtRow.inPlace==Tryz.prog.inPlace 7)=true:=by kernel_rfl
theorem GM:(Rows.failureAtRow.unfollowed==Tryz.prog.unfollowed 7)=true:=by kernel_rfl
theorem GN:(Rows.failureAtRow.recurses==Tryz.prog.recurses 7)=true:=by kernel_rfl
theorem GQ:(Rows.failureAtRow.named==Tryz.prog.varsNamed 7)=true:=by kernel_rfl
theorem GR:(Rows.failureAtRow.maps==(Tryz.f7.params.toList++Rows.failureAtSpec.plain.varTypes Tryz.prog).any (Tryz.prog.mapsRec ·))=true:=by kernel_rfl
theorem GU:(Rows.failureAtRow.ifaces==(Tryz.f7.params.toList++Rows.failureAtSpec.plain.varTypes Tryz.prog).any (Tryz.prog.ifacesRec ·))=true:=by kernel_rfl
theorem GV:(Rows.failureAtRow.mapsOut==Tryz.prog.mapsAmong Tryz.f7.resultTypes.toList)=true:=by kernel_rfl
theorem GX:(Rows.failureAtRow.loops==(Tryz.f7.params.toList++Rows.failureAtSpec.plain.varTypes Tryz.prog).any (Tryz.prog.loopsFrom ·))=true:=by kernel_rfl
theorem GY:(Rows.failureAtRow.wideKeys==(Tryz.f7.params.toList++Rows.failureAtSpec.plain.varTypes Tryz.prog++Tryz.f7.resultTypes.toList).any (Tryz.prog.wideKeysFrom ·))=true:=by kernel_rfl
theorem GZ:Rows.failureAtSpec.vars.all (Tryz.prog.varReadable ·)=true:=by kernel_rfl
theorem G5:Tryz.f7.resultTypes.all (fun t=>Tryz.prog.readableRec t&&decide (t<Tryz.prog.types.size))=true:=by kernel_rfl
theorem G6:(Rows.failureAtRow.ifacesOut==Tryz.f7.resultTypes.toList.any (Tryz.prog.ifacesRec ·))=true:=by kernel_rfl
theorem G7:(Rows.failureAtRow.loopsOut==Tryz.f7.resultTypes.toList.any (Tryz.prog.loopsFrom ·))=true:=by kernel_rfl
theorem G8:(Rows.failureAtRow.plainKeys==Tryz.prog.plainKeys)=true:=by kernel_rfl
theorem G9:Rows.failureAtRow.shortTexts.isNone=true:=by kernel_rfl
theorem Ha:(Rows.failureAtRow.lifted==Tryz.prog.liftsFinal)=true:=by kernel_rfl
theorem Hd:(Tryz.prog.make==some Rows.failureAtRow.make)=true:=by kernel_rfl
theorem He:(Rows.failureAtRow.kinds==(if Rows.failureAtRow.domain.isEmpty then [] else Tryz.f7.params.toList.map fun t=>match Tryz.prog.underlying t with|some (.int k)=>some k|_=>none))=true:=by kernel_rfl
theorem Hf:(Rows.failureAtRow.pinned==Rows.failureAtRow.pinnedBy)=true:=by kernel_rfl
theorem Hg:(Rows.failureAtRow.veiled==(Tryz.f7.params.toList++Rows.failureAtSpec.plain.varTypes Tryz.prog++Tryz.f7.resultTypes.toList).any (Tryz.prog.veiledRec ·))=true:=by kernel_rfl
theorem Hl:Rows.failureAtRow.veiledFits Tryz.prog Tryz.f7.params.toList (Tryz.f7.params.toList++Rows.failureAtSpec.plain.varTypes Tryz.prog++Tryz.f7.resultTypes.toList)=true:=by kernel_rfl
theorem Hm:joinedFacts Tryz.prog 7 Tryz.f7 Rows.failureAtSpec Rows.failureAtRow=true:=by
 simp only[joinedFacts,Bool.and_eq_true]
 exact⟨⟨⟨⟨⟨⟨⟨⟨⟨⟨⟨⟨⟨⟨⟨⟨⟨⟨⟨⟨⟨⟨⟨⟨⟨⟨⟨⟨⟨⟨⟨Kq,nI⟩,nJ⟩,Kr⟩,Kt⟩,Ku⟩,nK⟩,Kv⟩,nL⟩,Kw⟩,GM⟩,GN⟩,GQ⟩,GR⟩,GU⟩,GV⟩,GX⟩,GY⟩,GZ⟩,G5⟩,G6⟩,G7⟩,G8⟩,G9⟩,kN⟩,kQ⟩,Ha⟩,Hd⟩,He⟩,Hf⟩,Hg⟩,Hl⟩
theorem failureAt_nam:Tryz.pinned.checked.prog.funcNamed Rows.failureAtRow.func=some 7:=by kernel_rfl
theorem Ho:Tryz.f7.isInstance Tryz.pinned.checked.prog Rows.failureAtRow.origin Rows.failureAtRow.targs:=of_decide_eq_true (by kernel_rfl)
theorem Hq:Tryz.f7.isWrapper Tryz.pinned.checked.prog Rows.failureAtRow.wrapper Rows.failureAtRow.mainSum:=by unfold Func.isWrapper;first|(rw[if_pos (by decide+kernel)];kernel_rfl)|(rw[if_neg (by decide+kernel)];exact⟨rfl,rfl⟩)
theorem Hr:Rows.failureAtRow.wfByText (OpenSpec.ofChange Rows.failureAtSpec)=true:=by kernel_rfl
theorem Ht:Tryz.pinned.checked.prog.mainIs=some (true, "6c6ed28039965d1e05ce70114d4f84b00907715979fcf266077e3121104a4804".toList):=by kernel_rfl
theorem Hu:false=Tryz.pinned.checked.prog.looks []:=by kernel_rfl
theorem Hw:([53,37].all fun u=> !Tryz.prog.wantsStandIn u)=true:=by kernel_rfl
theorem Hy:false=Rows.failureAtRow.goesBy Tryz.pinned.checked.prog:=by kernel_rfl
