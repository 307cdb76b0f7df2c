/- Fa7 Fa8 Fa9. No condition. -/
import Derived.Test.YtcbginhpibfgaaaGreatDoorFaG4
set_option linter.all false
set_option maxHeartbeats 4000000
set_option maxRecDepth 20000
namespace Go.Proofs.YtcbginhpibfgaaaGreatDoor
section
open Go Go.Sy Go.Lm Go.Rt Go.Dg
attribute [local irreducible] AO AL AC OpT ACall Ends DGo bK Thn Blk Nxt
variable {n N k i m j r:Nat} {z zp:Bool} {B A l:List Int} {P Q W X Y:RV} {T:Nat→Nat→RV} {S:Nat→RV} {rt e e2 v:Int} {x c:Rat}
def atI(z:Bool)(l:List Int)(n:Nat)(P Q:RV)(S:Nat→RV)(j:{j:Nat // j≤n}):St:=
 ⟨72,0,[(0,.isl z (cI .i64 l) n),(3,.pt 0 0),(4,.pt 1 0),(7,.pt 2 0),(8,.pt 3 0),(9,.pt 4 0),(35,.isl z (cI .i64 l) n),(36,.val (.int .i64 n)),(37,.val (.int .i64 j.val))],
   [(0,some (.cells (aa.cells P) 37)),(1,some (.cells (aa.cells rZ) 37)),(2,some (.cells [.val (.int .i64 0)] 81)),(3,some (.cells (aa.cells Q) 37)),(4,some (.cells (aa.cells (S j.val)) 37))]⟩
def atJ(z:Bool)(l:List Int)(n:Nat)(P Q:RV)(S:Nat→RV)(T:Nat→Nat→RV)(j:Nat)(i:{i:Nat // i≤n-1}):St:=
 ⟨72,0,[(0,.isl z (cI .i64 l) n),(3,.pt 0 0),(4,.pt 1 0),(7,.pt 2 0),(8,.pt 3 0),(9,.pt 4 0),(10,.val (.int .i64 j)),(12,.pt 5 0),(35,.isl z (cI .i64 l) n),(36,.val (.int .i64 n)),(37,.val (.int .i64 j)),(46,.val (.int .i64 ((n:Int)-1))),(47,.val (.int .i64 i.val))],
   [(0,some (.cells (aa.cells P) 37)),(1,some (.cells (aa.cells rZ) 37)),(2,some (.cells [.val (.int .i64 0)] 81)),(3,some (.cells (aa.cells Q) 37)),(4,some (.cells (aa.cells (S j)) 37)),(5,some (.cells (aa.cells (T j i.val)) 37))]⟩
theorem at_w(hl:l.length=n)(h0:0<n)(hn:n≤13)(hp:ACall Tryz.prog 64 [.agg (aa.cells P)] [] 0 (.val (.int .i64 0)) [])(hq:ACall Tryz.prog 65 [.pt 0 0,.agg (aa.cells P)] [bD] 1 (.agg (aa.cells Q)) [bD])(hz:ACall Tryz.prog 53 [.val (.int .i64 0)] [] 0 (.agg (aa.cells (S 0))) [])
 (hnum:∀j,j<n→ACall Tryz.prog 53 [.val (.int .i64 (l.getD j default))] [] 0 (.agg (aa.cells (T j 0))) [])
 (hmp:∀j i,j<n→i<n-1→i<j→ACall Tryz.prog 66 [.pt 0 0,.agg (aa.cells (T j i)),.agg (aa.cells P)] [bD] 1 (.agg (aa.cells (T j (i+1)))) [bD])
 (hmq:∀j i,j<n→i<n-1→¬i<j→ACall Tryz.prog 66 [.pt 0 0,.agg (aa.cells (T j i)),.agg (aa.cells Q)] [bD] 1 (.agg (aa.cells (T j (i+1)))) [bD])
 (hadd:∀j i,j<n→i=n-1→ACall Tryz.prog 67 [.pt 0 0,.agg (aa.cells (S j)),.agg (aa.cells (T j i))] [bD] 1 (.agg (aa.cells (S (j+1)))) [bD]):
 ACall Tryz.prog 30 [.isl z (cI .i64 l) n,.agg (aa.cells P)] [] 0 (.tup [.agg (aa.cells (S n)),.val (.int .i64 0)]) []:=by
 have zx1:aa.cells rZ=[.val (.bool false),.isl true [] 0,.val (.bool false),.isl true [] 0]:=rfl
 have hp:=PLift.up hp;have hq:=PLift.up hq;have hz:=PLift.up hz;have hnum:=PLift.up hnum;have hmp:=PLift.up hmp;have hmq:=PLift.up hmq;have hadd:=PLift.up hadd;have hr:=PLift.up (DJ (X:=S n))
 have hi1:((n:Int)-1)=((n-1:Nat):Int):=by omega
 rw[aB P]
 unfold bD at*
 refine ak Tryz.func30 Tryz.ntmps30 rfl ?_
 have zx2:=aC;have zx3:=aC;repeat' (first|(refine ai ?_;refine au [0,1,2,3,4,5] ([0,1,2,3,4,5].length) (atJ z l n P Q S T j) (fun i=>n-1-i.val) (⟨0,Nat.zero_le _⟩) rfl (by unfold atJ;exact eQ) ?_;(rintro⟨i,hi⟩;rcases Nat.lt_or_eq_of_le hi with hil|hil<;>first|(rcases Nat.lt_or_ge i j with hij|hij<;>first|(simp-dsimp only[atJ];refine zqS ?_)|(replace hij:¬i<j:=(by omega);(simp-dsimp only[atJ];refine zqS ?_)))|(subst hil;(simp-dsimp only[atJ];refine zqS ?_))))|(refine ax ?_;refine Nxt.mk [0,1,2,3,4,5] (⟨i+1,by omega⟩) rfl (by unfold atJ;exact eQ) zqO)|(refine ai ?_;refine au [0,1,2,3,4] ([0,1,2,3,4].length) (atI z l n P Q S) (fun j=>n-j.val) (⟨0,Nat.zero_le _⟩) rfl (by unfold atI;exact eQ) ?_;(rintro⟨j,hj⟩;rcases Nat.lt_or_eq_of_le hj with hjl|hjl<;>first|(subst hjl;(simp-dsimp only[atI];refine zqS ?_))|(simp-dsimp only[atI];refine zqS ?_)))|(refine ax ?_;refine Nxt.mk [0,1,2,3,4] (⟨j+1,by omega⟩) rfl (by unfold atI;exact eQ) zqO)|refine zqN ?_|((first|refine ay rfl (fun K hK=>?_)|refine aj (fun K hK=>?_));(first|refine ah (f:=64) [] 0 false ?_|refine ah (f:=65) [2] 1 false ?_|refine ah (f:=53) (dst:=some 34) [] 0 false ?_|refine ah (f:=53) (dst:=some 43) [] 0 false ?_|refine ah (f:=66) (dst:=some 56) [2] 1 false ?_|refine ah (f:=66) (dst:=some 60) [2] 1 false ?_|refine ah (f:=67) [2] 1 false ?_|refine ah (f:=44) [2] 1 false ?_);refine l8 ?_;(first|refine⟨_,_,hp.down,?_⟩|refine⟨_,_,hq.down,?_⟩|refine⟨_,_,hz.down,?_⟩|refine⟨_,_,(hnum.down j hjl),?_⟩|refine⟨_,_,(hmp.down j i hjl hil hij),?_⟩|refine⟨_,_,(hmq.down j i hjl hil (by omega)),?_⟩|refine⟨_,_,(hadd.down j i hjl (by omega)),?_⟩|refine⟨_,_,hr.down,?_⟩);refine gQ ?_;apply hK;clear hK K)|refine bM ?_|refine bO ?_|(refine bP ?_ ?_<;>intro hc<;>try exact zqM))
 all_goals first
  |((refine Ends.mk2 zqI [] ?_;simp-dsimp(disch:=try exact vD) only[push_cast,simprocAttr,Tryz.f30];try exact zqF);done)
  |skip
end
section
open Go Go.Sy Go.Lm Go.Rt Go.Dg
attribute [local irreducible] AO AL AC OpT ACall Ends DGo bK Thn Blk Nxt
variable {n N k i m j r:Nat} {z zp:Bool} {ss:List Nat} {T:Nat}
def Fu(ss:List Nat):Nat→Nat
 |0=>0
 |j+1=>sor (Fu ss j) (ss.getD j default)
theorem fQ:Fu ss 0=0:=rfl
theorem um:Fu ss (j+1)=sor (Fu ss j) (ss.getD j default):=rfl
def ap1(ss:List Nat)(n j:Nat):Prop:=ss.getD j default%65536/2^n%65536=0
def ap2(ss:List Nat)(j:Nat):Prop:=nZ (ss.getD j default) (Fu ss j)%65536=0
def apI(z:Bool)(ss:List Nat)(n m T:Nat)(j:{j:Nat // j≤T}):St:=
 ⟨28,0,[(1,.val (.int .i64 n)),(5,.val (.int .u16 (U (Fu ss j.val)))),(8,.isl z (cX ss) m),(9,.val (.int .i64 m)),(10,.val (.int .i64 j.val))],[]⟩
theorem aed(hl:ss.length=m)(hm:m≤1000)(hn:n≤12)(h:∀j,j<m→ap1 ss n j∧ap2 ss j):ACall Tryz.prog 73 [.isl z (cX ss) m,.val (.int .i64 n)] [] 0 (.val (.int .i64 0)) []:=by
 unfold ap1 ap2 at h
 have zx2:=ae;have zx3:=ae;have zx5:=ae
 refine ak Tryz.func73 Tryz.ntmps73 rfl ?_
 have zx1:= @jH;have zx4:= @fQ;have zx6:=aC;repeat' (first|(refine ai ?_;refine au [] ([].length) (apI z ss n m m) (fun j=>m-j.val) (⟨0,Nat.zero_le _⟩) rfl (by unfold apI;exact gY) ?_;(rintro⟨j,hj⟩;rcases Nat.lt_or_eq_of_le hj with hjl|hjl<;>first|(subst hjl;(simp-dsimp only[apI];refine zqS ?_))|(obtain⟨zx2,zx3⟩:=h j hjl;have zx5:=um (ss:=ss) (j:=j);(simp-dsimp only[apI];refine zqS ?_))))|(refine ax ?_;refine Nxt.mk [] (⟨j+1,by omega⟩) rfl (by unfold apI;exact gY) zqO)|refine zqN ?_|refine kE ?_|refine kF ?_|(refine kG ?_ ?_<;>intro hc<;>try exact zqM))
 all_goals first
  |((refine Ends.mk2 zqI [] ?_;simp-dsimp(disch:=try exact vD) only[push_cast,simprocAttr,Tryz.f73];try exact zqF);done)
  |skip
theorem aee(hl:ss.length=m)(hm:m≤1000)(hn:n≤12)(hT:T<m)(h:∀j,j<T→ap1 ss n j∧ap2 ss j)(hb:¬ap1 ss n T):ACall Tryz.prog 73 [.isl z (cX ss) m,.val (.int .i64 n)] [] 0 (.val (.int .i64 7)) []:=by
 unfold ap1 ap2 at*
 have zx2:=ae;have zx3:=ae;have zx5:=ae
 refine ak Tryz.func73 Tryz.ntmps73 rfl ?_
 have zx1:= @jH;have zx4:= @fQ;have zx6:=aC;repeat' (first|(refine ai ?_;refine au [] ([].length) (apI z ss n m T) (fun j=>m-j.val) (⟨0,Nat.zero_le _⟩) rfl (by unfold apI;exact gY) ?_;(rintro⟨j,hj⟩;have zx5:=um (ss:=ss) (j:=j);rcases Nat.lt_or_eq_of_le hj with hjl|hjl<;>first|(subst hjl;have zx2:=hb;(simp-dsimp only[apI];refine zqS ?_))|(obtain⟨zx2,zx3⟩:=h j hjl;(simp-dsimp only[apI];refine zqS ?_))))|(refine ax ?_;refine Nxt.mk [] (⟨j+1,by omega⟩) rfl (by unfold apI;exact gY) zqO)|refine zqN ?_|refine kE ?_|refine kF ?_|(refine kG ?_ ?_<;>intro hc<;>try exact zqM))
 all_goals first
  |((refine Ends.mk2 zqI [] ?_;simp-dsimp(disch:=try exact vD) only[push_cast,simprocAttr,Tryz.f73];try exact zqF);done)
  |skip
theorem aef(hl:ss.length=m)(hm:m≤1000)(hn:n≤12)(hT:T<m)(h:∀j,j<T→ap1 ss n j∧ap2 ss j)(ha:ap1 ss n T)(hb:¬ap2 ss T):ACall Tryz.prog 73 [.isl z (cX ss) m,.val (.int .i64 n)] [] 0 (.val (.int .i64 5)) []:=by
 unfold ap1 ap2 at*
 have zx2:=ae;have zx3:=ae;have zx5:=ae
 refine ak Tryz.func73 Tryz.ntmps73 rfl ?_
 have zx1:= @jH;have zx4:= @fQ;have zx6:=aC;repeat' (first|(refine ai ?_;refine au [] ([].length) (apI z ss n m T) (fun j=>m-j.val) (⟨0,Nat.zero_le _⟩) rfl (by unfold apI;exact gY) ?_;(rintro⟨j,hj⟩;have zx5:=um (ss:=ss) (j:=j);rcases Nat.lt_or_eq_of_le hj with hjl|hjl<;>first|(subst hjl;have zx2:=ha;have zx3:=hb;(simp-dsimp only[apI];refine zqS ?_))|(obtain⟨zx2,zx3⟩:=h j hjl;(simp-dsimp only[apI];refine zqS ?_))))|(refine ax ?_;refine Nxt.mk [] (⟨j+1,by omega⟩) rfl (by unfold apI;exact gY) zqO)|refine zqN ?_|refine kE ?_|refine kF ?_|(refine kG ?_ ?_<;>intro hc<;>try exact zqM))
 all_goals first
  |((refine Ends.mk2 zqI [] ?_;simp-dsimp(disch:=try exact vD) only[push_cast,simprocAttr,Tryz.f73];try exact zqF);done)
  |skip
inductive ApE (ss:List Nat) (n:Nat):Int→Prop
 |ok (h:∀j,j<ss.length→ap1 ss n j∧ap2 ss j):ApE ss n 0
 |rg (T:Nat) (hT:T<ss.length) (h:∀j,j<T→ap1 ss n j∧ap2 ss j) (hb:¬ap1 ss n T):ApE ss n 7
 |ex (T:Nat) (hT:T<ss.length) (h:∀j,j<T→ap1 ss n j∧ap2 ss j) (ha:ap1 ss n T) (hb:¬ap2 ss T):ApE ss n 5
theorem Y8{e:Int}(hl:ss.length=m)(hm:m≤1000)(hn:n≤12)(h:ApE ss n e):ACall Tryz.prog 73 [.isl z (cX ss) m,.val (.int .i64 n)] [] 0 (.val (.int .i64 e)) []:=by
 cases h with
 |ok h=>exact aed hl hm hn (by rw[←hl];exact h)
 |rg T hT h hb=>exact aee hl hm hn (by omega) h hb
 |ex T hT h ha hb=>exact aef hl hm hn (by omega) h ha hb
end
section
open Go Go.Sy Go.Lm Go.Rt Go.Dg
attribute [local irreducible] AO AL AC OpT ACall Ends DGo bK Thn Blk Nxt
variable {n N k i m j r s:Nat} {z zp zs zt:Bool} {ss:List Nat} {ps ts:List RV} {L:List Fk} {A B W M1 M2 M3 X:RV} {rt e e2 v:Int} {p:Nat→Rat} {x:Rat}
def dnl(ps:List RV)(s:Nat):Nat→List RV
 |0=>ps
 |i+1=>if bit s i=true then(dnl ps s i).set i (rQ false 1) else dnl ps s i
theorem alE:dnl ps s 0=ps:=rfl
theorem Y9(h:bit s i=true):dnl ps s (i+1)=(dnl ps s i).set i (rQ false 1):=if_pos h
theorem Za(h:bit s i=false):dnl ps s (i+1)=dnl ps s i:=if_neg (by rw[h];simp)
theorem dnl_len:(dnl ps s i).length=ps.length:=by
 induction i with
 |zero=>rfl
 |succ i ih=>unfold dnl;split<;>simp[ih]
theorem ajd(hi:i≤ps.length):∀j,(dnl ps s i).getD j default=if j<i∧bit s j=true then rQ false 1 else ps.getD j default:=by
 induction i with
 |zero=>intro j;rw[if_neg (by omega)];rfl
 |succ i ih=>
  intro j
  have h0:=ih (by omega) j
  by_cases hb:bit s i=true
  ·rw[Y9 hb,List.getD_eq_getElem?_getD,List.getElem?_set]
   by_cases e:i=j
   ·subst e;rw[if_pos rfl,if_pos (by rw[dnl_len];omega),if_pos ⟨by omega,hb⟩];rfl
   ·rw[if_neg e,←List.getD_eq_getElem?_getD,h0]
    by_cases c:j<i∧bit s j=true
    ·rw[if_pos c,if_pos ⟨by omega,c.2⟩]
    ·rw[if_neg c,if_neg (fun h=>c ⟨by omega,h.2⟩)]
  ·have hb2:bit s i=false:=by simpa using hb
   rw[Za hb2,h0]
   by_cases c:j<i∧bit s j=true
   ·rw[if_pos c,if_pos ⟨by omega,c.2⟩]
   ·rw[if_neg c,if_neg (fun h=>c ⟨by
     rcases Nat.lt_or_eq_of_le (Nat.le_of_lt_succ h.1) with h1|h1
     ·exact h1
     ·rw[h1] at h;exact absurd h.2 hb,h.2⟩)]
abbrev stA(n:Int)(z:Bool)(L:List Fk)(N:Nat)(rt:Int)(zs:Bool)(ss:List Nat)(zt:Bool)(ts:List RV)(m:Nat):List AV:=[.ipt [.isl zs (cX ss) m] 0,.pt 0 0,.ipt [.val (.int .i64 n),.isl z (cR L) N,.val (.int .i64 rt)] 0,.ipt [.isl zt (cR ts) m] 0,.pt 1 0]
abbrev stO(n:Int)(z:Bool)(L:List Fk)(N:Nat)(rt:Int)(zs:Bool)(ss:List Nat)(zt:Bool)(ts:List RV)(m:Nat):List aD:=[.cells [.pt 2 0] 79,.cells [.fn 75 (stA n z L N rt zs ss zt ts m)] 103,bD]
theorem Zb(hf:ACall Tryz.prog 45 [.pt 0 0,dI z rt L N e2,.isl zp (cR ps) n] [bD] 1 (.agg (aa.cells W)) [bD]):
 ACall Tryz.prog 75 (.val (.int .i64 m):: .isl zp (cR ps) n::stA rt z L N e2 zs ss zt ts m) (stO rt z L N e2 zs ss zt ts m) 3 (.agg (aa.cells W)) (stO rt z L N e2 zs ss zt ts m):=by
 have hf:=PLift.up hf
 unfold stA stO dI bD at*
 refine ak Tryz.func75 Tryz.ntmps75 rfl ?_
 repeat' (first|refine zqN ?_|((first|refine ay rfl (fun K hK=>?_)|refine aj (fun K hK=>?_)|refine aA (fun K hK=>?_));(first|refine ah (f:=45) [2] 1 false ?_);refine jP ?_;(first|refine⟨_,_,hf.down,?_⟩);refine gD ?_;apply hK;clear hK K)|refine aK ?_|refine aL ?_|(refine aM ?_ ?_<;>intro hc<;>try exact zqM)|refine zqR 10 [⟨0,[],[12,42,43,44,45,46,47,48,49,50],[2],[],0⟩,⟨1,[],[12,41,43,46,47,48,49,50],[2],[],0⟩,⟨2,[],[12,41,42,46,47,48,49,50],[2],[],0⟩,⟨3,[1,2],[12,41,46,47,48,49,50],[2],[],0⟩,⟨4,[1,2,3],[12,41,46,47,48,49,50],[2],[],0⟩,⟨5,[],[12,41,42,43,44,45,47,48,49],[],[],0⟩,⟨6,[],[12,41,42,43,44,45,46,49],[],[],0⟩,⟨7,[6],[12,41,42,43,44,45,46,49],[],[],0⟩,⟨8,[],[12,41,42,43,44,45,46,47,48],[],[],0⟩,⟨9,[5,6,7,8],[12,41,42,43,44,45],[],[2],0⟩,⟨10,[0,1,2,3,4,5,6,7,8,9],[12],[],[],0⟩,⟨11,[],[41,42,43,44,45,46,47,48,49,50,51],[2],[],1⟩,⟨12,[0,1,2,3,4,5,6,7,8,9,10,11],[],[],[2],0⟩] ?_|refine zqR 11 [⟨0,[],[53,54,55,56,57,58,59,60,61,62,63,64,65,66],[2],[],0⟩,⟨1,[],[52,54,55,56,57,58,59,60,61,62,63,64,65,66],[2],[],0⟩,⟨2,[],[52,53,55,56,57,58,59,60,61,62,63,64,65],[2],[],0⟩,⟨3,[],[52,53,54,56,57,58,59,61,62,63,64],[],[],0⟩,⟨4,[],[52,53,54,55,57,61,62,63,64],[],[],0⟩,⟨5,[],[52,53,54,55,56,61,62,63,64],[],[],0⟩,⟨6,[4,5],[52,53,54,55,61,62,63,64],[],[],0⟩,⟨7,[4,5,6],[52,53,54,55,61,62,63,64],[],[],0⟩,⟨8,[3,4,5,6,7],[52,53,54,61,62,63,64],[],[],0⟩,⟨9,[],[52,53,54,55,56,57,58,59,60,62,63,64],[],[],0⟩,⟨10,[],[52,53,54,55,56,57,58,59,60,61,64],[],[],0⟩,⟨11,[10],[52,53,54,55,56,57,58,59,60,61,64],[],[],0⟩,⟨12,[],[52,53,54,55,56,57,58,59,60,61,62,63],[],[],0⟩,⟨13,[3,4,5,6,7,8,9,10,11,12],[52,53,54],[],[2],0⟩,⟨14,[2,3,4,5,6,7,8,9,10,11,12,13],[52,53],[],[],0⟩,⟨15,[0,1,2,3,4,5,6,7,8,9,10,11,12,13,14],[],[],[],0⟩,⟨16,[0,1,2,3,4,5,6,7,8,9,10,11,12,13,14,15],[],[],[2],0⟩] ?_|refine zqD ?_|fail)
 all_goals first
  |((refine Ends.mk2 zqI [0,1,2] ?_;simp-dsimp(disch:=try exact vD) only[push_cast,simprocAttr,Tryz.f75];try exact zqF);done)
  |skip
def stI(n:Nat)(rt:Int)(z:Bool)(L:List Fk)(N:Nat)(e2:Int)(zs:Bool)(ss:List Nat)(zt:Bool)(ts:List RV)(m k:Nat)(ps:List RV)(s:Nat)(i:{i:Nat // i≤n}):St:=
 ⟨68,3,[(0,.val (.int .i64 k)),(1,.isl false (cR ps) n),(2,.ipt [.isl zs (cX ss) m] 0),(3,.pt 0 0),(4,.ipt [.val (.int .i64 rt),.isl z (cR L) N,.val (.int .i64 e2)] 0),(5,.ipt [.isl zt (cR ts) m] 0),(6,.pt 1 0),(9,.pt 3 0),(10,.sl 4 0 n 4),(24,.val (.int .i64 n)),(25,.val (.int .i64 i.val))],
   [(0,some (.cells [.pt 2 0] 79)),(1,some (.cells [.fn 75 (stA rt z L N e2 zs ss zt ts m)] 103)),(2,some (.cells [.val (.int .i64 0)] 81)),(3,some (.cells (aa.cells rZ) 37)),(4,some (.cells (cR (dnl ps s i.val)) 37))]⟩
theorem aje(hn:ps.length=n)(hn2:n≤12)(hss:ss.length=m)(hts:ts.length=m)(hm:m≤1000)(hk:k<m)(hs:ss.getD k default=s)
 (h1:ACall Tryz.prog 75 (.val (.int .i64 ((k:Int)+1)):: .isl false (cR (dnl ps s n)) n::stA rt z L N e2 zs ss zt ts m) (stO rt z L N e2 zs ss zt ts m) 3 (.agg (aa.cells A)) (stO rt z L N e2 zs ss zt ts m))
 (h2:ACall Tryz.prog 75 (.val (.int .i64 ((k:Int)+1)):: .isl false (cR ps) n::stA rt z L N e2 zs ss zt ts m) (stO rt z L N e2 zs ss zt ts m) 3 (.agg (aa.cells B)) (stO rt z L N e2 zs ss zt ts m))
 (m1:ACall Tryz.prog 66 [.pt 0 0,.agg (aa.cells (ts.getD k default)),.agg (aa.cells A)] [bD] 1 (.agg (aa.cells M1)) [bD])
 (nt:ACall Tryz.prog 65 [.pt 0 0,.agg (aa.cells (ts.getD k default))] [bD] 1 (.agg (aa.cells M2)) [bD])
 (m2:ACall Tryz.prog 66 [.pt 0 0,.agg (aa.cells M2),.agg (aa.cells B)] [bD] 1 (.agg (aa.cells M3)) [bD])
 (ad:ACall Tryz.prog 67 [.pt 0 0,.agg (aa.cells M1),.agg (aa.cells M3)] [bD] 1 (.agg (aa.cells W)) [bD]):
 ACall Tryz.prog 75 (.val (.int .i64 k):: .isl false (cR ps) n::stA rt z L N e2 zs ss zt ts m) (stO rt z L N e2 zs ss zt ts m) 3 (.agg (aa.cells W)) (stO rt z L N e2 zs ss zt ts m):=by
 have v1:=PLift.up h1;have v2:=PLift.up h2;have m1:=PLift.up m1;have nt:=PLift.up nt;have m2:=PLift.up m2;have ad:=PLift.up ad
 have hcl:=PLift.up (Fg hn (by omega))
 have hnm:=gX (v:=1) (by decide)
 rw[Yl] at hnm
 have hst:=fun(i:Nat) (h:i<n)=>QZ (X:=rQ false 1) (ps:=dnl ps s i) (sv:=i) (by rw[dnl_len];omega)
 have hln:=fun(i:Nat)=>(dnl_len (ps:=ps) (s:=s) (i:=i)).trans hn
 have hd1:∀i,bit s i=true→dnl ps s (i+1)=(dnl ps s i).set i (rQ false 1):=fun i h=>Y9 h
 have hd2:∀i,bit s i=false→dnl ps s (i+1)=dnl ps s i:=fun i h=>Za h
 generalize rQ false 1=X1 at hnm hst hd1
 have hnm:=PLift.up hnm
 have zx9:(cR (dnl ps s n)).take (n*4)=cR (dnl ps s n):=List.take_of_length_le (by rw[lM,hln];exact Nat.le_refl _)
 have zx3:aa.cells rZ=[.val (.bool false),.isl true [] 0,.val (.bool false),.isl true [] 0]:=rfl
 have zx4:=alE (ps:=ps) (s:=s)
 have zx5:=ae;have zx6:=ae;have zx7:=ae;have zx8:=ae
 clear h1 h2
 unfold stA stO bD at*
 refine ak Tryz.func75 Tryz.ntmps75 rfl ?_
 have zx1:= @jH;have zx2:= @hs;repeat' (first|((first|refine bI (r:=10) 4 ?_|refine bH (r:=10) 4 ?_);refine qV ?_;intro K hK;refine hK _ _ ?_;clear hK K)|(refine ai ?_;refine au [0,1,2,3,4] ([0,1,2,3,4].length) (stI n rt z L N e2 zs ss zt ts m k ps s) (fun i=>n-i.val) (⟨0,Nat.zero_le _⟩) rfl (by unfold stI;exact kK) ?_;(rintro⟨i,hi⟩;rcases Nat.lt_or_eq_of_le hi with hil|hil<;>first|(subst hil;(simp-dsimp only[stI];refine zqS ?_))|(have zx8:=hln i;rcases Bool.eq_false_or_eq_true (bit s i) with zx5|zx5<;>first|(have zx6:=hd1 i zx5;have zx7:=hst i hil;(simp-dsimp only[stI];refine zqS ?_))|(have zx6:=hd2 i zx5;(simp-dsimp only[stI];refine zqS ?_)))))|(refine ax ?_;refine Nxt.mk [0,1,2,3,4] (⟨i+1,by omega⟩) rfl (by unfold stI;exact kK) zqO)|refine zqN ?_|((first|refine ay rfl (fun K hK=>?_)|refine aj (fun K hK=>?_)|refine gM [0,1] (fun K hK=>?_));refine bq (f:=75) (dst:=some 50) [0,1,2] 3 false ?_;refine JC ?_;refine⟨_,_,v1.down,?_⟩;refine qV ?_;apply hK;clear hK K)|((first|refine ay rfl (fun K hK=>?_)|refine aj (fun K hK=>?_)|refine gM [0,1] (fun K hK=>?_));refine bq (f:=75) (dst:=some 65) [0,1,2] 3 false ?_;refine JC ?_;refine⟨_,_,v2.down,?_⟩;refine qV ?_;apply hK;clear hK K)|((first|refine ay rfl (fun K hK=>?_)|refine aj (fun K hK=>?_)|refine aA (fun K hK=>?_));(first|refine ah (f:=20) [] 0 false ?_|refine ah (f:=53) [] 0 false ?_|refine ah (f:=66) (dst:=some 51) [2] 1 false ?_|refine ah (f:=65) [2] 1 false ?_|refine ah (f:=66) (dst:=some 66) [2] 1 false ?_|refine ah (f:=67) [2] 1 false ?_);refine JC ?_;(first|refine⟨_,_,hcl.down,?_⟩|refine⟨_,_,hnm.down,?_⟩|refine⟨_,_,m1.down,?_⟩|refine⟨_,_,nt.down,?_⟩|refine⟨_,_,m2.down,?_⟩|refine⟨_,_,ad.down,?_⟩);refine qV ?_;apply hK;clear hK K)|refine uz ?_|refine uA ?_|(refine uB ?_ ?_<;>intro hc<;>try exact zqM)|refine zqR 10 [⟨0,[],[12,42,43,44,45,46,47,48,49,50],[5],[],0⟩,⟨1,[],[12,41,43,46,47,48,49,50],[5],[],0⟩,⟨2,[],[12,41,42,46,47,48,49,50],[5],[],0⟩,⟨3,[1,2],[12,41,46,47,48,49,50],[5],[],0⟩,⟨4,[1,2,3],[12,41,46,47,48,49,50],[5],[],0⟩,⟨5,[],[12,41,42,43,44,45,47,48,49],[],[],0⟩,⟨6,[],[12,41,42,43,44,45,46,49],[],[],0⟩,⟨7,[6],[12,41,42,43,44,45,46,49],[],[],0⟩,⟨8,[],[12,41,42,43,44,45,46,47,48],[],[],0⟩,⟨9,[5,6,7,8],[12,41,42,43,44,45],[],[5],0⟩,⟨10,[0,1,2,3,4,5,6,7,8,9],[12],[],[5],0⟩,⟨11,[],[41,42,43,44,45,46,47,48,49,50,51],[5],[],1⟩,⟨12,[0,1,2,3,4,5,6,7,8,9,10,11],[],[],[2],0⟩] ?_|refine zqR 11 [⟨0,[],[53,54,55,56,57,58,59,60,61,62,63,64,65,66],[5],[],0⟩,⟨1,[],[52,54,55,56,57,58,59,60,61,62,63,64,65,66],[5],[],0⟩,⟨2,[],[52,53,55,56,57,58,59,60,61,62,63,64,65],[5],[],0⟩,⟨3,[],[52,53,54,56,57,58,59,61,62,63,64],[],[],0⟩,⟨4,[],[52,53,54,55,57,61,62,63,64],[],[],0⟩,⟨5,[],[52,53,54,55,56,61,62,63,64],[],[],0⟩,⟨6,[4,5],[52,53,54,55,61,62,63,64],[],[],0⟩,⟨7,[4,5,6],[52,53,54,55,61,62,63,64],[],[],0⟩,⟨8,[3,4,5,6,7],[52,53,54,61,62,63,64],[],[5],0⟩,⟨9,[],[52,53,54,55,56,57,58,59,60,62,63,64],[5],[],0⟩,⟨10,[],[52,53,54,55,56,57,58,59,60,61,64],[5],[],0⟩,⟨11,[10],[52,53,54,55,56,57,58,59,60,61,64],[5],[],0⟩,⟨12,[],[52,53,54,55,56,57,58,59,60,61,62,63],[5],[],0⟩,⟨13,[3,4,5,6,7,8,9,10,11,12],[52,53,54],[],[5],0⟩,⟨14,[2,3,4,5,6,7,8,9,10,11,12,13],[52,53],[],[5],0⟩,⟨15,[0,1,2,3,4,5,6,7,8,9,10,11,12,13,14],[],[],[5],0⟩,⟨16,[0,1,2,3,4,5,6,7,8,9,10,11,12,13,14,15],[],[],[2],0⟩] ?_|refine zqD ?_|fail)
 all_goals first
  |((refine Ends.mk2 zqI [0,1,2] ?_;simp-dsimp(disch:=try exact vD) only[push_cast,simprocAttr,Tryz.f75];try exact zqF);done)
  |skip
end
