/- Fb4 Fa8 Fa10 Fb7 Fc1 Fc3 Fc5 Di22. No condition. -/
import Derived.Test.YtcbginhpibfgaaaGreatDoorXFailureSites1
import Derived.Test.YtcbginhpibfgaaaGreatDoorFcG1
set_option linter.all false
set_option maxHeartbeats 4000000
set_option maxRecDepth 20000
namespace Go.Proofs.YtcbginhpibfgaaaGreatDoor
section
open Go Go.Sy Go.Lm Go.Rt Go.Dg
attribute [local irreducible] AO AL AC OpT ACall Ends DGo bK Thn Blk Nxt
section
variable {n N k i m j r a b:Nat} {z z' zp:Bool} {ps xs:List RV} {X Y W ONE:RV} {v c e:Int} {p:Nat→Rat}
def chQ(x:Chc):Rat:=Rat.divInt ((x.a%(x.b%12+2):Nat):Int) ((x.b%12+1:Nat):Int)
theorem ad8{q1 q2:Int}(ha:a<256)(hb:b<256)(e1:((b:Int)%12)+1=q2∨1+((b:Int)%12)=q2)(e2:(a:Int)%(q2+1)=q1)(hq:1≤q2∧q2≤12)(h:ACall Tryz.prog 57 [.val (.int .i64 q1),.val (.int .i64 q2)] [] 0 (.tup [.agg (aa.cells X),.val (.int .i64 0)]) []):ACall Tryz.prog 29 [.agg [.val (.int .u8 a),.val (.int .u8 b)]] [] 0 (.agg (aa.cells X)) []:=by
 have h:=PLift.up h
 have zx1:1+((b:Int)%12)=q2:=by omega
 have zx4:¬q2+1=0:=by omega
 have hr:0≤q1∧q1<300:=by rw[←e2];exact⟨Int.emod_nonneg _ zx4,by have:=Int.emod_lt_of_pos (a:Int) (show 0<q2+1 by omega);omega⟩
 have zx3:Int.tmod (a:Int) (q2+1)=q1:=by rw[Int.tmod_eq_emod_of_nonneg (by omega)];exact e2
 clear e1
 refine ak Tryz.func29 Tryz.ntmps29 rfl ?_
 have zx2:= @e2;have zx5:=aC;have zx6:=aC;repeat' (first|refine zqN ?_|refine gG h.down ?_|refine kE ?_|refine kF ?_|(refine kG ?_ ?_<;>intro hc<;>try exact zqM))
 all_goals first
  |((refine Ends.mk2 zqI [] ?_;simp-dsimp(disch:=try exact vD) only[push_cast,simprocAttr,Tryz.f29];try exact zqF);done)
  |skip
theorem ME(ha:a<256)(hb:b<256):ACall Tryz.prog 29 [.agg [.val (.int .u8 a),.val (.int .u8 b)]] [] 0 (.agg (aa.cells (rC (chQ ⟨a,b⟩)))) []:=by
 have hm:a%(b%12+2)<b%12+2:=Nat.mod_lt _ (by omega)
 have h:=OM (a:=((a%(b%12+2):Nat):Int)) (b:=((b%12+1:Nat):Int)) ⟨by omega,by omega⟩ ⟨by omega,by omega⟩ (by omega)
 refine ad8 ha hb (.inl (by omega)) ?_ (by omega) h
 rw[show(((b%12+1:Nat):Int)+1)=((b%12+2:Nat):Int) by omega,Int.natCast_emod]
theorem YZ(x:Chc):0≤chQ x∧chQ x≤1∧(chQ x).den≤12:=by
 have hm:x.a%(x.b%12+2)<x.b%12+2:=Nat.mod_lt _ (by omega)
 unfold chQ
 generalize x.a%(x.b%12+2)=u at*
 have hb:x.b%12<12:=Nat.mod_lt _ (by decide)
 generalize x.b%12=w at*
 have h1:∀w,w<12→∀u,u<w+2→0≤Rat.divInt ((u:Nat):Int) ((w+1:Nat):Int)∧Rat.divInt ((u:Nat):Int) ((w+1:Nat):Int)≤1∧(Rat.divInt ((u:Nat):Int) ((w+1:Nat):Int)).den≤12:=by decide+kernel
 exact h1 w hb u hm
def lsL(l:List Chc):Nat→List RV
 |0=>[]
 |i+1=>lsL l i++[rC (chQ (l.getD i default))]
theorem ae6{l:List Chc}(h:i=0):lsL l i=[]:=by subst h;rfl
theorem ae7{l:List Chc}:lsL l (i+1)=lsL l i++[rC (chQ (l.getD i default))]:=rfl
theorem iZ{l:List Chc}:(lsL l i).length=i:=by
 induction i with
 |zero=>rfl
 |succ i ih=>rw[ae7,List.length_append,ih];rfl
theorem Fs{l:List Chc}(h:j<i):(lsL l i).getD j default=rC (chQ (l.getD j default)):=by
 induction i with
 |zero=>omega
 |succ i ih=>
  rw[ae7]
  rcases Nat.lt_or_eq_of_le (Nat.le_of_lt_succ h) with h1|h1
  ·rw[List.getD_eq_getElem?_getD,List.getElem?_append_left (by rw[iZ];omega),←List.getD_eq_getElem?_getD]
   exact ih h1
  ·rw[List.getD_eq_getElem?_getD,List.getElem?_append_right (by rw[iZ];omega),iZ,h1,Nat.sub_self];rfl
theorem aja:cR ps++[.val (.bool X.num.neg),.isl X.num.z (cI .u32 X.num.l) X.num.l.length,.val (.bool X.den.neg),.isl X.den.z (cI .u32 X.den.l) X.den.l.length]=cR (ps++[X]):=PY (a:=X) (l:=ps)
theorem Q0(h:ps.length=n):(cR ps).take (n*4)=cR ps:=List.take_of_length_le (by rw[lM,h];exact Nat.le_refl _)
def lsI(z:Bool)(l:List Chc)(k n:Nat)(i:{i:Nat // i≤n}):St:=
 ⟨28,0,[(0,.isl z (cR l) k),(1,.val (.int .i64 n)),(5,kC i.val 0 4),(6,.val (.int .i64 i.val))],kD i.val 0 (cR (lsL l i.val)) 37⟩
theorem ad9{l:List Chc}(hl:l.length=k)(hk:k<2^47)(hn:n≤1000)(hm:∀i,i<n→ACall Tryz.prog 29 [.agg [.val (.int .u8 (l.getD i default).a),.val (.int .u8 (l.getD i default).b)]] [] 0 (.agg (aa.cells (rC (chQ (l.getD i default))))) []):
 ACall Tryz.prog 14 [.isl z (cR l) k,.val (.int .i64 n)] [] 0 (.isl (n==0) (cR (lsL l n)) n) []:=by
 have hm:=PLift.up hm
 have hlen:=fun(i:Nat)=>iZ (l:=l) (i:=i)
 have htk:=Q0 (ps:=lsL l n) iZ
 have hgd:∀i,k≤i→l.getD i default=⟨1,1⟩:=fun i hi=>by rw[List.getD_eq_getElem?_getD,List.getElem?_eq_none (by omega)];rfl
 have hs:∀i,cR (lsL l i)++[.val (.bool (rC (chQ (l.getD i default))).num.neg),.isl (rC (chQ (l.getD i default))).num.z (cI .u32 (rC (chQ (l.getD i default))).num.l) (rC (chQ (l.getD i default))).num.l.length,.val (.bool (rC (chQ (l.getD i default))).den.neg),.isl (rC (chQ (l.getD i default))).den.z (cI .u32 (rC (chQ (l.getD i default))).den.l) (rC (chQ (l.getD i default))).den.l.length]=cR (lsL l (i+1)):=fun i=>aja
 have h0:∀i,i=0→[.val (.bool (rC (chQ (l.getD i default))).num.neg),.isl (rC (chQ (l.getD i default))).num.z (cI .u32 (rC (chQ (l.getD i default))).num.l) (rC (chQ (l.getD i default))).num.l.length,.val (.bool (rC (chQ (l.getD i default))).den.neg),.isl (rC (chQ (l.getD i default))).den.z (cI .u32 (rC (chQ (l.getD i default))).den.l) (rC (chQ (l.getD i default))).den.l.length]=cR (lsL l (i+1)):=fun i hi=>by
  subst hi
  exact(List.nil_append _).symm.trans (hs 0)
 have hx:=ae;have hsn:=ae;have hc1:=ae
 rcases Nat.eq_zero_or_pos n with hn0|hn0
 ·subst hn0
  refine ak Tryz.func14 Tryz.ntmps14 rfl ?_
  repeat' (first|(refine ai ?_;refine au [9] ([9].length) (lsI z l k 0) (fun i=>0) (⟨0,Nat.zero_le _⟩) rfl (by unfold lsI;(try simp only[List.cons_append,List.nil_append]);refine Sub.mk2 ?_;(simp-dsimp(disch:=try exact vD) only[push_cast,simprocAttr]);(repeat refine aI ?_);first|done|exact vI) ?_;(rintro⟨i,hi⟩;have hi0:i=0:=(by omega);subst hi0;(simp-dsimp(disch:=try exact vD) only[push_cast,simprocAttr,lsI,ae6])))|apply dG|apply aF|((first|refine ay rfl (fun K hK=>?_)|refine aj (fun K hK=>?_));(first|apply cO|apply aZ|apply df|apply aT|apply bf|apply bu|apply fK|apply bZ|apply fu|apply eG|apply iX|apply eZ|apply aX|apply dY|apply dM);simp-dsimp(disch:=try exact vD) only[push_cast,simprocAttr];(repeat refine aI ?_);apply hK;clear hK K)|((first|refine ay rfl (fun K hK=>?_)|refine aj (fun K hK=>?_));(first|apply gz);simp-dsimp(disch:=try exact vD) only[push_cast,simprocAttr];(repeat refine aI ?_);apply hK;clear hK K)|((first|refine ay rfl (fun K hK=>?_)|refine aj (fun K hK=>?_));(first|apply eO);simp-dsimp(disch:=try exact vD) only[push_cast,simprocAttr];(repeat refine aI ?_);apply hK;clear hK K)|((first|refine ay rfl (fun K hK=>?_)|refine aj (fun K hK=>?_));(first|apply eH);simp-dsimp(disch:=try exact vD) only[push_cast,simprocAttr];(repeat refine aI ?_);apply hK;clear hK K)|((first|refine aQ rfl rfl (fun K1 K2 h1 h2=>?_) rfl|refine aJ (fun K1 K2 h1 h2=>?_));simp-dsimp(disch:=try exact vD) only[push_cast,simprocAttr];(first|(refine⟨fun hc=>?_,fun hc=>?_⟩<;>first|(exfalso;omega)|(exfalso;contradiction)|refine h1 ?_|refine h2 ?_)|refine h1 ?_|refine h2 ?_);all_goals clear h1 h2 K1 K2)|apply dH|apply aR|apply bX|apply bz|apply aS|apply bY|apply bA|(refine aY rfl ?_)|apply bB|apply bW|apply bV|apply dF)
  all_goals first
   |((refine Ends.mk2 (by first|exact .inr rfl|exact .inl rfl) [] ?_;simp-dsimp(disch:=try exact vD) only[push_cast,simprocAttr,Tryz.f14,ae6,nX];try exact zqF);done)
   |skip
 ·have hnz:(n==0)=false:=Ke hn0
  rw[hnz]
  refine ak Tryz.func14 Tryz.ntmps14 rfl ?_
  repeat' (first|(refine ai ?_;refine au [9] ([9].length) (lsI z l k n) (fun i=>n-i.val) (⟨0,Nat.zero_le _⟩) rfl (by unfold lsI;(try simp only[List.cons_append,List.nil_append]);refine Sub.mk2 ?_;(simp-dsimp(disch:=try exact vD) only[push_cast,simprocAttr,hx,hc1,htk,hlen]);(repeat refine aI ?_);first|done|exact vI) ?_;(rintro⟨i,hi⟩;rcases Nat.lt_or_eq_of_le hi with hil|hil<;>first|(subst hil;(simp-dsimp(disch:=try exact vD) only[push_cast,simprocAttr,lsI]))|(have hmi:=hm.down i hil;have hli:=hlen i;have hs1:=hs i;have h01:=h0 i;generalize hW:rC (chQ (l.getD i default))=W at*;rcases Nat.lt_or_ge i k with hik|hik<;>rcases Nat.eq_zero_or_pos i with hi0|hi0<;>first|(rw[hgd i hik] at hmi;have hmi:=PLift.up hmi;have hsn:=h01 hi0;(simp-dsimp(disch:=try exact vD) only[push_cast,simprocAttr,lsI]))|(rw[hgd i hik] at hmi;have hmi:=PLift.up hmi;have hsn:=hs1;(simp-dsimp(disch:=try exact vD) only[push_cast,simprocAttr,lsI]))|(have hmi:=PLift.up hmi;have hsn:=h01 hi0;(simp-dsimp(disch:=try exact vD) only[push_cast,simprocAttr,lsI]))|(have hmi:=PLift.up hmi;have hsn:=hs1;(simp-dsimp(disch:=try exact vD) only[push_cast,simprocAttr,lsI])))))|(refine ax ?_;refine Nxt.mk [3] (⟨i+1,by omega⟩) rfl (by unfold lsI;(try simp only[List.cons_append,List.nil_append]);refine Sub.mk2 ?_;(simp-dsimp(disch:=try exact vD) only[push_cast,simprocAttr,hx,hc1,htk,hlen,hsn]);(repeat refine aI ?_);first|done|exact vI) (by first|omega|(dsimp only;omega)|(simp;done)|(simp;omega)))|(refine ax ?_;refine Nxt.mk [2] (⟨i+1,by omega⟩) rfl (by unfold lsI;(try simp only[List.cons_append,List.nil_append]);refine Sub.mk2 ?_;(simp-dsimp(disch:=try exact vD) only[push_cast,simprocAttr,hx,hc1,htk,hlen,hsn]);(repeat refine aI ?_);first|done|exact vI) (by first|omega|(dsimp only;omega)|(simp;done)|(simp;omega)))|(refine ax ?_;refine Nxt.mk [1] (⟨i+1,by omega⟩) rfl (by unfold lsI;(try simp only[List.cons_append,List.nil_append]);refine Sub.mk2 ?_;(simp-dsimp(disch:=try exact vD) only[push_cast,simprocAttr,hx,hc1,htk,hlen,hsn]);(repeat refine aI ?_);first|done|exact vI) (by first|omega|(dsimp only;omega)|(simp;done)|(simp;omega)))|(refine ax ?_;refine Nxt.mk [0] (⟨i+1,by omega⟩) rfl (by unfold lsI;(try simp only[List.cons_append,List.nil_append]);refine Sub.mk2 ?_;(simp-dsimp(disch:=try exact vD) only[push_cast,simprocAttr,hx,hc1,htk,hlen,hsn]);(repeat refine aI ?_);first|done|exact vI) (by first|omega|(dsimp only;omega)|(simp;done)|(simp;omega)))|apply dG|apply aF|((first|refine ay rfl (fun K hK=>?_)|refine aj (fun K hK=>?_));(first|refine ah (f:=29) [] 0 false ?_);simp-dsimp(disch:=try exact vD) only[push_cast,simprocAttr,hx,hc1,htk,hlen];(repeat refine aI ?_);intro G hG;refine hG _ _ ?_;clear hG G;(first|refine⟨_,_,hmi.down,?_⟩);simp-dsimp(disch:=try exact vD) only[push_cast,simprocAttr,hx,hc1,htk,hlen];(repeat refine aI ?_);apply hK;clear hK K)|((first|refine ay rfl (fun K hK=>?_)|refine aj (fun K hK=>?_));(first|apply cO|apply aZ|apply df|apply aT|apply bf|apply bu|apply fK|apply bZ|apply fu|apply eG|apply iX|apply eZ|apply aX|apply dY|apply dM);simp-dsimp(disch:=try exact vD) only[push_cast,simprocAttr,hx,hc1,htk,hlen];(repeat refine aI ?_);apply hK;clear hK K)|((first|refine ay rfl (fun K hK=>?_)|refine aj (fun K hK=>?_));(first|apply gz);simp-dsimp(disch:=try exact vD) only[push_cast,simprocAttr,hx,hc1,htk,hlen];(repeat refine aI ?_);apply hK;clear hK K)|((first|refine ay rfl (fun K hK=>?_)|refine aj (fun K hK=>?_));(first|apply eO);simp-dsimp(disch:=try exact vD) only[push_cast,simprocAttr,hx,hc1,htk,hlen];(repeat refine aI ?_);apply hK;clear hK K)|((first|refine ay rfl (fun K hK=>?_)|refine aj (fun K hK=>?_));(first|apply eH);simp-dsimp(disch:=try exact vD) only[push_cast,simprocAttr,hx,hc1,htk,hlen];(repeat refine aI ?_);apply hK;clear hK K)|((first|refine aQ rfl rfl (fun K1 K2 h1 h2=>?_) rfl|refine aJ (fun K1 K2 h1 h2=>?_));simp-dsimp(disch:=try exact vD) only[push_cast,simprocAttr,hx,hc1,htk,hlen];(first|(refine⟨fun hc=>?_,fun hc=>?_⟩<;>first|(exfalso;omega)|(exfalso;contradiction)|refine h1 ?_|refine h2 ?_)|refine h1 ?_|refine h2 ?_);all_goals clear h1 h2 K1 K2)|apply dH|apply aR|apply bX|apply bz|apply aS|apply bY|apply bA|(refine aY rfl ?_)|apply bB|apply bW|apply bV|apply dF)
  all_goals first
   |(((refine Ends.frz 0 ?_;simp-dsimp(disch:=try exact vD) only[push_cast,simprocAttr,Tryz.f14,htk];(repeat refine aI ?_);intro K hK;refine hK _ _ ?_;clear hK K);refine Ends.mk2 (by first|exact .inr rfl|exact .inl rfl) [] ?_;simp-dsimp(disch:=try exact vD) only[push_cast,simprocAttr,Tryz.f14,htk];try exact zqF);done)
   |skip
end
section
variable {n N k i m j r:Nat} {z zp:Bool} {ss:List Nat} {T:Nat}
theorem Y7(ss:List Nat)(n:Nat):∃e,ApE ss n e:=by
 have:∀k,k≤ss.length→(∀j,j<k→ap1 ss n j∧ap2 ss j)∨∃e,ApE ss n e:=by
  intro k
  induction k with
  |zero=>exact fun _=> .inl fun j hj=>absurd hj (by omega)
  |succ k ih=>
   intro hk
   rcases ih (by omega) with h|h
   ·by_cases h1:ap1 ss n k
    ·by_cases h2:ap2 ss k
     ·refine .inl fun j hj=>?_
      rcases Nat.lt_or_eq_of_le (Nat.le_of_lt_succ hj) with h3|h3
      ·exact h j h3
      ·rw[h3];exact⟨h1,h2⟩
     ·exact .inr ⟨5,.ex k (by omega) h h1 h2⟩
    ·exact .inr ⟨7,.rg k (by omega) h h1⟩
   ·exact .inr h
 rcases this ss.length (Nat.le_refl _) with h|h
 ·exact⟨0,.ok h⟩
 ·exact h
end
section
variable {n N k i m j r s f:Nat} {z zp zs zt:Bool} {ss:List Nat} {ps ts:List RV} {L:List Fk} {F:List Fo} {A B W M1 M2 M3 X:RV} {rt e e2 v:Int} {p site:Nat→Rat} {x:Rat} {d dt:Nat→Nat}
theorem Zg(hv:ACall Tryz.prog 72 [dI z n L N e2] [] 0 (.val (.int .i64 0)) [])(hm:12<m)(hm2:m<2^47):ACall Tryz.prog 33 [dI z n L N e2,.isl zs (cX ss) m,.isl zt (cR ts) m,.isl zp (cR ps) n] [] 0 (.tup [.agg (aa.cells rZ),.val (.int .i64 3)]) []:=by
 have hv:=PLift.up hv
 unfold dI at*
 have ez:aa.cells rZ=[.val (.bool false),.isl true [] 0,.val (.bool false),.isl true [] 0]:=rfl
 rw[ez]
 refine ak Tryz.func33 Tryz.ntmps33 rfl ?_
 repeat' (first|refine zqN ?_|refine az hv.down ?_|refine aK ?_|refine aL ?_|(refine aM ?_ ?_<;>intro hc<;>try exact zqM)|refine zqR 17 [⟨0,[],[60,61,62],[2],[],0⟩,⟨1,[],[59,61],[],[],0⟩,⟨2,[],[59,60],[],[],0⟩,⟨3,[1,2],[59],[],[2],0⟩,⟨4,[0,1,2,3],[],[],[],0⟩,⟨5,[0,1,2,3,4],[65],[],[],0⟩,⟨6,[0,1,2,3,4],[64],[],[],0⟩,⟨7,[0,1,2,3,4,5,6],[],[],[2],0⟩,⟨8,[0,1,2,3,4,5,6,7],[],[],[],0⟩] ?_|refine zqD ?_|fail)
 all_goals first
  |((refine Ends.mk2 zqI [] ?_;simp-dsimp(disch:=try exact vD) only[push_cast,simprocAttr,Tryz.f33];try exact zqF);done)
  |skip
end
section
variable {n N k i m j r s T M K up:Nat} {z zs zt zp:Bool} {ss:List Nat} {ps ts l:List RV} {L:List Fk} {F:List Fo} {X W:RV} {S A B C:Nat→RV} {v c e rt nn:Int} {p:Nat→Rat} {tab:Nat→Bool}
def spL(ps:List RV)(ss:List Nat)(n up:Nat):Nat→List RV
 |0=>ps
 |k+1=>if up.testBit k=true then spL ps ss n up k else dnl (spL ps ss n up k) (ss.getD k default) n
def inL(ps:List RV)(ss:List Nat)(n up k i:Nat):List RV:=if up.testBit k=true then spL ps ss n up k else dnl (spL ps ss n up k) (ss.getD k default) i
theorem alF:spL ps ss n up 0=ps:=rfl
theorem alG:inL ps ss n up k 0=spL ps ss n up k:=by unfold inL;split<;>rfl
theorem alH:inL ps ss n up k n=spL ps ss n up (k+1):=rfl
theorem alJ(h:up.testBit k=true):inL ps ss n up k (i+1)=inL ps ss n up k i:=by unfold inL;rw[if_pos h,if_pos h]
theorem alK(h:up.testBit k=false)(hb:bit (ss.getD k default) i=true):inL ps ss n up k (i+1)=(inL ps ss n up k i).set i (rQ false 1):=by
 unfold inL;rw[if_neg (by rw[h];simp),if_neg (by rw[h];simp)];exact Y9 hb
theorem alL(hb:bit (ss.getD k default) i=false):inL ps ss n up k (i+1)=inL ps ss n up k i:=by
 unfold inL;split
 ·rfl
 ·exact Za hb
theorem spL_len:(spL ps ss n up k).length=ps.length:=by
 induction k with
 |zero=>rfl
 |succ k ih=>unfold spL;split
             ·exact ih
             ·rw[dnl_len];exact ih
theorem inL_len:(inL ps ss n up k i).length=ps.length:=by
 unfold inL;split
 ·exact spL_len
 ·rw[dnl_len];exact spL_len
def fsA(z:Bool)(n:Nat)(L:List Fk)(N:Nat)(rt:Int)(zs zt zp:Bool)(ss:List Nat)(ts ps:List RV)(m T:Nat)(j:{j:Nat // j≤T}):St:=
 ⟨135,0,[(1,.isl zs (cX ss) m),(2,.isl zt (cR ts) m),(3,.isl zp (cR ps) n),(4,.pt 0 0),(8,.pt 1 0),(11,.val (.int .u16 (U (Fu ss j.val)))),(12,.val (.int .i64 j.val))],
   [(0,some (.cells [.val (.int .i64 n),.isl z (cR L) N,.val (.int .i64 rt)] 29)),(1,some (.cells zQ 37))]⟩
theorem TZ(hl:ps.length=n)(hv:ACall Tryz.prog 50 [dI z n L N rt] [] 0 (.val (.int .i64 0)) [])(hm:12<m)(hm2:m<2^47):ACall Tryz.prog 35 [dI z n L N rt,.isl zs (cX ss) m,.isl zt (cR ts) m,.isl zp (cR ps) n] [] 0 (.tup [.agg (aa.cells rZ),.val (.int .i64 3)]) []:=by
 have hv:=PLift.up hv
 unfold dI at*
 have ez:aa.cells rZ=[.val (.bool false),.isl true [] 0,.val (.bool false),.isl true [] 0]:=rfl
 rw[ez]
 refine ak Tryz.func35 Tryz.ntmps35 rfl ?_
 repeat' (first|refine zqN ?_|refine az hv.down ?_|refine aK ?_|refine aL ?_|(refine aM ?_ ?_<;>intro hc<;>try exact zqM)|refine zqR 12 [⟨0,[],[50,54,55,56],[],[],0⟩,⟨1,[],[49,54,55,56],[],[],0⟩,⟨2,[0,1],[54,55,56],[],[],0⟩,⟨3,[0,1,2],[54,55,56],[],[],0⟩,⟨4,[0,1,2,3],[54,55,56],[],[],0⟩,⟨5,[],[49,50,51,52,53],[],[],0⟩,⟨6,[5],[49,50,51,52,53],[],[],0⟩,⟨7,[5,6],[49,50,51,52,53],[],[],0⟩,⟨8,[0,1,2,3,4,5,6,7],[],[],[],0⟩] ?_|refine zqR 36 [⟨0,[],[125,126,127,128,129,130,131,132],[],[],0⟩,⟨1,[],[124,126,128,130],[],[],0⟩,⟨2,[],[124,125,128,130],[],[],0⟩,⟨3,[1,2],[124,128,130],[],[],0⟩,⟨4,[],[124,125,126,127,130],[],[],0⟩,⟨5,[1,2,3,4],[124,130],[],[],0⟩,⟨6,[],[124,125,126,127,128,129],[],[],0⟩,⟨7,[1,2,3,4,5,6],[124],[],[],0⟩,⟨8,[1,2,3,4,5,6,7],[124],[],[],0⟩,⟨9,[0,1,2,3,4,5,6,7,8],[],[],[],0⟩,⟨10,[0,1,2,3,4,5,6,7,8,9],[],[],[2],0⟩] ?_|refine zqD ?_|fail)
 all_goals first
  |((refine Ends.mk2 zqI [] ?_;simp-dsimp(disch:=try exact vD) only[push_cast,simprocAttr,Tryz.f35];try exact zqF);done)
  |skip
theorem Q5(h:ap1 ss n j)(hT:2^n=T)(hn:n≤12):¬(T:Int)≤U (ss.getD j default):=by
 unfold ap1 at h
 have hlt:ss.getD j default%65536<65536:=Nat.mod_lt _ (by decide)
 have hq:ss.getD j default%65536/2^n≤ss.getD j default%65536:=Nat.div_le_self ..
 rw[hT,Nat.mod_eq_of_lt (by rw[←hT];omega)] at h
 have h0:0<T:=by rw[←hT];exact Nat.two_pow_pos n
 have:=(Nat.div_eq_zero_iff).mp h
 show¬(T:Int)≤((ss.getD j default%65536:Nat):Int)
 omega
theorem alM(h:¬ap1 ss n j)(hT:2^n=T)(hn:n≤12):(T:Int)≤U (ss.getD j default):=by
 unfold ap1 at h
 have hlt:ss.getD j default%65536<65536:=Nat.mod_lt _ (by decide)
 have hq:ss.getD j default%65536/2^n≤ss.getD j default%65536:=Nat.div_le_self ..
 rw[hT,Nat.mod_eq_of_lt (by rw[←hT];omega)] at h
 have h0:0<T:=by rw[←hT];exact Nat.two_pow_pos n
 show(T:Int)≤((ss.getD j default%65536:Nat):Int)
 rcases Nat.lt_or_ge (ss.getD j default%65536) T with h1|h1
 ·exact absurd (Nat.div_eq_of_lt h1) h
 ·omega
theorem Zi(hl:ps.length=n)(hss:ss.length=m)(hn:n≤12)(hT2:2^n=M)(hv:ACall Tryz.prog 50 [dI z n L N rt] [] 0 (.val (.int .i64 0)) [])(hm:m≤12)(hT:T<m)(h:∀j,j<T→ap1 ss n j∧ap2 ss j)(hb:¬ap1 ss n T):ACall Tryz.prog 35 [dI z n L N rt,.isl zs (cX ss) m,.isl zt (cR ts) m,.isl zp (cR ps) n] [] 0 (.tup [.agg (aa.cells rZ),.val (.int .i64 7)]) []:=by
 have hv:=PLift.up hv
 unfold dI at*
 have ez:aa.cells rZ=[.val (.bool false),.isl true [] 0,.val (.bool false),.isl true [] 0]:=rfl
 rw[ez]
 have zx4:=Bc (n:=n) (by omega)
 rw[hT2] at zx4
 have hb:=alM hb hT2 hn
 have h:∀j,j<T→¬(M:Int)≤U (ss.getD j default)∧ap2 ss j:=fun j hj=>⟨Q5 (h j hj).1 hT2 hn,(h j hj).2⟩
 have hM:M≤4096:=by rw[←hT2];exact Nat.pow_le_pow_right (by omega) hn
 clear hT2
 unfold ap2 at*
 have zx2:=ae;have zx3:=ae;have zx6:=ae
 refine ak Tryz.func35 Tryz.ntmps35 rfl ?_
 have zx1:= @jH;have zx5:= @fQ;repeat' (first|(refine ai ?_;refine au [0,1] ([0,1].length) (fsA z n L N rt zs zt zp ss ts ps m T) (fun j=>m-j.val) (⟨0,Nat.zero_le _⟩) rfl (by unfold fsA;exact gY) ?_;(rintro⟨j,hj⟩;have zx6:=um (ss:=ss) (j:=j);rcases Nat.lt_or_eq_of_le hj with hjl|hjl<;>first|(subst hjl;have zx2:=hb;(simp-dsimp only[fsA];refine zqS ?_))|(obtain⟨zx2,zx3⟩:=h j hjl;(simp-dsimp only[fsA];refine zqS ?_))))|(refine ax ?_;refine Nxt.mk [0,1] (⟨j+1,by omega⟩) rfl (by unfold fsA;exact gY) zqO)|refine zqN ?_|refine gG hv.down ?_|refine kE ?_|refine kF ?_|(refine kG ?_ ?_<;>intro hc<;>try exact zqM)|refine zqR 12 [⟨0,[],[50,54,55,56],[],[],0⟩,⟨1,[],[49,54,55,56],[],[],0⟩,⟨2,[0,1],[54,55,56],[],[],0⟩,⟨3,[0,1,2],[54,55,56],[],[],0⟩,⟨4,[0,1,2,3],[54,55,56],[],[],0⟩,⟨5,[],[49,50,51,52,53],[],[],0⟩,⟨6,[5],[49,50,51,52,53],[],[],0⟩,⟨7,[5,6],[49,50,51,52,53],[],[],0⟩,⟨8,[0,1,2,3,4,5,6,7],[],[],[],0⟩] ?_|refine zqR 36 [⟨0,[],[125,126,127,128,129,130,131,132],[],[],0⟩,⟨1,[],[124,126,128,130],[],[],0⟩,⟨2,[],[124,125,128,130],[],[],0⟩,⟨3,[1,2],[124,128,130],[],[],0⟩,⟨4,[],[124,125,126,127,130],[],[],0⟩,⟨5,[1,2,3,4],[124,130],[],[],0⟩,⟨6,[],[124,125,126,127,128,129],[],[],0⟩,⟨7,[1,2,3,4,5,6],[124],[],[],0⟩,⟨8,[1,2,3,4,5,6,7],[124],[],[],0⟩,⟨9,[0,1,2,3,4,5,6,7,8],[],[],[],0⟩,⟨10,[0,1,2,3,4,5,6,7,8,9],[],[],[2],0⟩] ?_|refine zqD ?_|fail)
 all_goals first
  |((refine Ends.mk2 zqI [] ?_;simp-dsimp(disch:=try exact vD) only[push_cast,simprocAttr,Tryz.f35];try exact zqF);done)
  |skip
theorem Zj(hl:ps.length=n)(hss:ss.length=m)(hn:n≤12)(hT2:2^n=M)(hv:ACall Tryz.prog 50 [dI z n L N rt] [] 0 (.val (.int .i64 0)) [])(hm:m≤12)(hT:T<m)(h:∀j,j<T→ap1 ss n j∧ap2 ss j)(ha:ap1 ss n T)(hb:¬ap2 ss T):ACall Tryz.prog 35 [dI z n L N rt,.isl zs (cX ss) m,.isl zt (cR ts) m,.isl zp (cR ps) n] [] 0 (.tup [.agg (aa.cells rZ),.val (.int .i64 5)]) []:=by
 have hv:=PLift.up hv
 unfold dI at*
 have ez:aa.cells rZ=[.val (.bool false),.isl true [] 0,.val (.bool false),.isl true [] 0]:=rfl
 rw[ez]
 have zx4:=Bc (n:=n) (by omega)
 rw[hT2] at zx4
 have ha:=Q5 ha hT2 hn
 have h:∀j,j<T→¬(M:Int)≤U (ss.getD j default)∧ap2 ss j:=fun j hj=>⟨Q5 (h j hj).1 hT2 hn,(h j hj).2⟩
 have hM:M≤4096:=by rw[←hT2];exact Nat.pow_le_pow_right (by omega) hn
 clear hT2
 unfold ap2 at*
 have zx2:=ae;have zx3:=ae;have zx6:=ae
 refine ak Tryz.func35 Tryz.ntmps35 rfl ?_
 have zx1:= @jH;have zx5:= @fQ;repeat' (first|(refine ai ?_;refine au [0,1] ([0,1].length) (fsA z n L N rt zs zt zp ss ts ps m T) (fun j=>m-j.val) (⟨0,Nat.zero_le _⟩) rfl (by unfold fsA;exact gY) ?_;(rintro⟨j,hj⟩;have zx6:=um (ss:=ss) (j:=j);rcases Nat.lt_or_eq_of_le hj with hjl|hjl<;>first|(subst hjl;have zx2:=ha;have zx3:=hb;(simp-dsimp only[fsA];refine zqS ?_))|(obtain⟨zx2,zx3⟩:=h j hjl;(simp-dsimp only[fsA];refine zqS ?_))))|(refine ax ?_;refine Nxt.mk [0,1] (⟨j+1,by omega⟩) rfl (by unfold fsA;exact gY) zqO)|refine zqN ?_|refine gG hv.down ?_|refine kE ?_|refine kF ?_|(refine kG ?_ ?_<;>intro hc<;>try exact zqM)|refine zqR 12 [⟨0,[],[50,54,55,56],[],[],0⟩,⟨1,[],[49,54,55,56],[],[],0⟩,⟨2,[0,1],[54,55,56],[],[],0⟩,⟨3,[0,1,2],[54,55,56],[],[],0⟩,⟨4,[0,1,2,3],[54,55,56],[],[],0⟩,⟨5,[],[49,50,51,52,53],[],[],0⟩,⟨6,[5],[49,50,51,52,53],[],[],0⟩,⟨7,[5,6],[49,50,51,52,53],[],[],0⟩,⟨8,[0,1,2,3,4,5,6,7],[],[],[],0⟩] ?_|refine zqR 36 [⟨0,[],[125,126,127,128,129,130,131,132],[],[],0⟩,⟨1,[],[124,126,128,130],[],[],0⟩,⟨2,[],[124,125,128,130],[],[],0⟩,⟨3,[1,2],[124,128,130],[],[],0⟩,⟨4,[],[124,125,126,127,130],[],[],0⟩,⟨5,[1,2,3,4],[124,130],[],[],0⟩,⟨6,[],[124,125,126,127,128,129],[],[],0⟩,⟨7,[1,2,3,4,5,6],[124],[],[],0⟩,⟨8,[1,2,3,4,5,6,7],[124],[],[],0⟩,⟨9,[0,1,2,3,4,5,6,7,8],[],[],[],0⟩,⟨10,[0,1,2,3,4,5,6,7,8,9],[],[],[2],0⟩] ?_|refine zqD ?_|fail)
 all_goals first
  |((refine Ends.mk2 zqI [] ?_;simp-dsimp(disch:=try exact vD) only[push_cast,simprocAttr,Tryz.f35];try exact zqF);done)
  |skip
def fsU(z:Bool)(n:Nat)(L:List Fk)(N:Nat)(rt:Int)(zs zt zp:Bool)(ss:List Nat)(ts ps:List RV)(m K:Nat)(S:Nat→RV)(up:{up:Nat // up≤K}):St:=
 ⟨135,0,[(1,.isl zs (cX ss) m),(2,.isl zt (cR ts) m),(3,.isl zp (cR ps) n),(4,.pt 0 0),(8,.pt 1 0),(15,.pt 2 0),(16,.val (.int .i64 up.val))],
   [(0,some (.cells [.val (.int .i64 n),.isl z (cR L) N,.val (.int .i64 rt)] 29)),(1,some (.cells zQ 37)),(2,some (.cells (aa.cells (S up.val)) 37))]⟩
def fsK(z:Bool)(n:Nat)(L:List Fk)(N:Nat)(rt:Int)(zs zt zp:Bool)(ss:List Nat)(ts ps:List RV)(m:Nat)(S:Nat→RV)(up:Nat)(k:{k:Nat // k≤m}):St:=
 ⟨135,0,[(1,.isl zs (cX ss) m),(2,.isl zt (cR ts) m),(3,.isl zp (cR ps) n),(4,.pt 0 0),(8,.pt 1 0),(15,.pt 2 0),(16,.val (.int .i64 up)),(17,.isl zp (cR (spL ps ss n up k.val)) n),(18,.val (.int .i64 k.val))],
   [(0,some (.cells [.val (.int .i64 n),.isl z (cR L) N,.val (.int .i64 rt)] 29)),(1,some (.cells zQ 37)),(2,some (.cells (aa.cells (S up)) 37))]⟩
def fsI(z:Bool)(n:Nat)(L:List Fk)(N:Nat)(rt:Int)(zs zt zp:Bool)(ss:List Nat)(ts ps:List RV)(m:Nat)(S:Nat→RV)(up k:Nat)(i:{i:Nat // i≤n}):St:=
 ⟨135,0,[(1,.isl zs (cX ss) m),(2,.isl zt (cR ts) m),(3,.isl zp (cR ps) n),(4,.pt 0 0),(8,.pt 1 0),(15,.pt 2 0),(16,.val (.int .i64 up)),(17,.isl zp (cR (inL ps ss n up k i.val)) n),(18,.val (.int .i64 k)),(19,.val (.int .i64 i.val))],
   [(0,some (.cells [.val (.int .i64 n),.isl z (cR L) N,.val (.int .i64 rt)] 29)),(1,some (.cells zQ 37)),(2,some (.cells (aa.cells (S up)) 37))]⟩
theorem Zk(hl:ps.length=n)(hss:ss.length=m)(hn:n≤12)(hT2:2^n=M)(hK2:2^m=K)(hm:m≤4)(hz:zp=true→n=0)(h:∀j,j<m→ap1 ss n j∧ap2 ss j)
 (hv:ACall Tryz.prog 50 [dI z n L N rt] [] 0 (.val (.int .i64 0)) [])
 (h1:ACall Tryz.prog 76 [.isl zt (cR ts) m] [] 0 (.val (.int .i64 0)) []) (h2:ACall Tryz.prog 76 [.isl zp (cR ps) n] [] 0 (.val (.int .i64 0)) [])
 (h0:ACall Tryz.prog 69 [.val (.int .i64 0)] [] 0 (.agg (aa.cells (S 0))) [])
 (ha:∀up,up<K→ACall Tryz.prog 77 [.val (.int .i64 up),.isl zt (cR ts) m] [] 0 (.agg (aa.cells (A up))) [])
 (hd:ACall Tryz.prog 48 [dI z n L N rt] [] 0 (.isl false (cB (fD tab M)) M) [])
 (hs:∀up,up<K→ACall Tryz.prog 47 [.isl false (cB (fD tab M)) M,.isl zp (cR (spL ps ss n up m)) n] [] 0 (.agg (aa.cells (B up))) [])
 (hmu:∀up,up<K→ACall Tryz.prog 70 [.agg (aa.cells (A up)),.agg (aa.cells (B up))] [] 0 (.agg (aa.cells (C up))) [])
 (had:∀up,up<K→ACall Tryz.prog 71 [.agg (aa.cells (S up)),.agg (aa.cells (C up))] [] 0 (.agg (aa.cells (S (up+1)))) []):
 ACall Tryz.prog 35 [dI z n L N rt,.isl zs (cX ss) m,.isl zt (cR ts) m,.isl zp (cR ps) n] [] 0 (.tup [.agg (aa.cells (S K)),.val (.int .i64 0)]) []:=by
 have hw:∀up k i,i<n→ACall Tryz.prog 56 [.isl zp (cR (inL ps ss n up k i)) n,.val (.int .i64 i),.val (.int .i64 1)] [] 0 (.isl zp (cR ((inL ps ss n up k i).set i (rQ false 1))) n) []:=fun up k i hi=>by
  have hzf:zp=false:=by
   rcases Bool.eq_false_or_eq_true zp with hh|hh
   ·have:=hz hh;omega
   ·exact hh
  rw[hzf]
  exact Pf (inL_len.trans hl) (by omega) hi IX
 have hv:=PLift.up hv;have g1:=PLift.up h1;have g2:=PLift.up h2;have g0:=PLift.up h0;have ha:=PLift.up ha;have hd:=PLift.up hd;have hs:=PLift.up hs;have hmu:=PLift.up hmu;have had:=PLift.up had;have hw:=PLift.up hw
 clear h1 h2 h0
 unfold dI at*
 have hsh:=Bc (n:=n) (by omega)
 rw[hT2] at hsh
 have hsk:=Bc (n:=m) (by omega)
 rw[hK2] at hsk
 have h:∀j,j<m→¬(M:Int)≤U (ss.getD j default)∧ap2 ss j:=fun j hj=>⟨Q5 (h j hj).1 hT2 hn,(h j hj).2⟩
 have hM:M≤4096:=by rw[←hT2];exact Nat.pow_le_pow_right (by omega) hn
 have hK:K≤16:=by rw[←hK2];exact(Nat.pow_le_pow_right (by omega) hm:2^m≤2^4)
 clear hT2 hK2
 have e0:=fun(up k:Nat)=>alG (ps:=ps) (ss:=ss) (n:=n) (up:=up) (k:=k)
 have en:=fun(up k:Nat)=>alH (ps:=ps) (ss:=ss) (n:=n) (up:=up) (k:=k)
 have s0:=fun(up:Nat)=>alF (ps:=ps) (ss:=ss) (n:=n) (up:=up)
 have i1:∀up k i,up.testBit k=false→bit (ss.getD k default) i=true→inL ps ss n up k (i+1)=(inL ps ss n up k i).set i (rQ false 1):=fun up k i a b=>alK a b
 generalize rQ false 1=X1 at*
 unfold ap2 at*
 have hx:=ae;have hy:=ae;have he:=ae;have hb:=ae;have hsu:=ae;have han:=ae;have hbv:=ae;have hbt:=ae;have hin:=ae;have hek:=ae
 refine ak Tryz.func35 Tryz.ntmps35 rfl ?_
 repeat' (first|(refine ai ?_;refine au [0,1,2] ([0,1,2].length) (fsI z n L N rt zs zt zp ss ts ps m S up k) (fun i=>n-i.val) (⟨0,Nat.zero_le _⟩) rfl (by unfold fsI;(try simp only[List.cons_append,List.nil_append]);refine Sub.mk2 ?_;(simp-dsimp(disch:=try exact vD) only[push_cast,simprocAttr,jH,hx,hy,hsh,hsk,fQ,he,hb,hsu,han,hbv,hbt,hin,hek,e0,s0]);(repeat refine aI ?_);first|done|exact vI) ?_;(rintro⟨i,hi⟩;rcases Nat.lt_or_eq_of_le hi with hil|hil<;>first|(have hek:=en up k;have ei:n=i:=hil.symm;subst ei;(simp-dsimp(disch:=try exact vD) only[push_cast,simprocAttr,fsI]))|(have hsu:=YS (s:=up) (i:=k) (by omega);have han:=YT (s:=up) (i:=k) (by omega);rcases Bool.eq_false_or_eq_true (up.testBit k) with hb|hb<;>first|(have hbv:bN up k=1:=(by rw[ahp];exact hb);have hin:=alJ (ps:=ps) (ss:=ss) (n:=n) (i:=i) hb;(simp-dsimp(disch:=try exact vD) only[push_cast,simprocAttr,fsI]))|(have hbv:bN up k=0:=(by rw[ahq];exact hb);rcases Bool.eq_false_or_eq_true (bit (ss.getD k default) i) with hbt|hbt<;>first|(have hin:=i1 up k i hb hbt;(simp-dsimp(disch:=try exact vD) only[push_cast,simprocAttr,fsI]))|(have hin:=alL (ps:=ps) (n:=n) (up:=up) hbt;(simp-dsimp(disch:=try exact vD) only[push_cast,simprocAttr,fsI]))))))|(refine ax ?_;refine Nxt.mk [0,1,2] (⟨i+1,by omega⟩) rfl (by unfold fsI;(try simp only[List.cons_append,List.nil_append]);refine Sub.mk2 ?_;(simp-dsimp(disch:=try exact vD) only[push_cast,simprocAttr,jH,hx,hy,hsh,hsk,fQ,he,hb,hsu,han,hbv,hbt,hin,hek,e0,s0]);(repeat refine aI ?_);first|done|exact vI) (by first|omega|(dsimp only;omega)|(simp;done)|(simp;omega)))|(refine ai ?_;refine au [0,1,2] ([0,1,2].length) (fsK z n L N rt zs zt zp ss ts ps m S up) (fun k=>m-k.val) (⟨0,Nat.zero_le _⟩) rfl (by unfold fsK;(try simp only[List.cons_append,List.nil_append]);refine Sub.mk2 ?_;(simp-dsimp(disch:=try exact vD) only[push_cast,simprocAttr,jH,hx,hy,hsh,hsk,fQ,he,hb,hsu,han,hbv,hbt,hin,hek,e0,s0]);(repeat refine aI ?_);first|done|exact vI) ?_;(rintro⟨k,hk⟩;rcases Nat.lt_or_eq_of_le hk with hkl|hkl<;>first|(have ek:m=k:=hkl.symm;subst ek;(simp-dsimp(disch:=try exact vD) only[push_cast,simprocAttr,fsK]))|(simp-dsimp(disch:=try exact vD) only[push_cast,simprocAttr,fsK])))|(refine ax ?_;refine Nxt.mk [0,1,2] (⟨k+1,by omega⟩) rfl (by unfold fsK;(try simp only[List.cons_append,List.nil_append]);refine Sub.mk2 ?_;(simp-dsimp(disch:=try exact vD) only[push_cast,simprocAttr,jH,hx,hy,hsh,hsk,fQ,he,hb,hsu,han,hbv,hbt,hin,hek,e0,s0]);(repeat refine aI ?_);first|done|exact vI) (by first|omega|(dsimp only;omega)|(simp;done)|(simp;omega)))|(refine ai ?_;refine au [0,1,2] ([0,1,2].length) (fsU z n L N rt zs zt zp ss ts ps m K S) (fun up=>K-up.val) (⟨0,Nat.zero_le _⟩) rfl (by unfold fsU;(try simp only[List.cons_append,List.nil_append]);refine Sub.mk2 ?_;(simp-dsimp(disch:=try exact vD) only[push_cast,simprocAttr,jH,hx,hy,hsh,hsk,fQ,he,hb,hsu,han,hbv,hbt,hin,hek,e0,s0]);(repeat refine aI ?_);first|done|exact vI) ?_;(rintro⟨up,hu⟩;rcases Nat.lt_or_eq_of_le hu with hul|hul<;>first|(have eu:K=up:=hul.symm;subst eu;(simp-dsimp(disch:=try exact vD) only[push_cast,simprocAttr,fsU]))|(simp-dsimp(disch:=try exact vD) only[push_cast,simprocAttr,fsU])))|(refine ax ?_;refine Nxt.mk [0,1,2] (⟨up+1,by omega⟩) rfl (by unfold fsU;(try simp only[List.cons_append,List.nil_append]);refine Sub.mk2 ?_;(simp-dsimp(disch:=try exact vD) only[push_cast,simprocAttr,jH,hx,hy,hsh,hsk,fQ,he,hb,hsu,han,hbv,hbt,hin,hek,e0,s0]);(repeat refine aI ?_);first|done|exact vI) (by first|omega|(dsimp only;omega)|(simp;done)|(simp;omega)))|(refine ai ?_;refine au [0,1] ([0,1].length) (fsA z n L N rt zs zt zp ss ts ps m m) (fun j=>m-j.val) (⟨0,Nat.zero_le _⟩) rfl (by unfold fsA;(try simp only[List.cons_append,List.nil_append]);refine Sub.mk2 ?_;(simp-dsimp(disch:=try exact vD) only[push_cast,simprocAttr,jH,hx,hy,hsh,hsk,fQ,he,hb,hsu,han,hbv,hbt,hin,hek,e0,s0]);(repeat refine aI ?_);first|done|exact vI) ?_;(rintro⟨j,hj⟩;have he:=um (ss:=ss) (j:=j);rcases Nat.lt_or_eq_of_le hj with hjl|hjl<;>first|(have ej:m=j:=hjl.symm;subst ej;(simp-dsimp(disch:=try exact vD) only[push_cast,simprocAttr,fsA]))|(obtain⟨hx,hy⟩:=h j hjl;(simp-dsimp(disch:=try exact vD) only[push_cast,simprocAttr,fsA]))))|(refine ax ?_;refine Nxt.mk [0,1] (⟨j+1,by omega⟩) rfl (by unfold fsA;(try simp only[List.cons_append,List.nil_append]);refine Sub.mk2 ?_;(simp-dsimp(disch:=try exact vD) only[push_cast,simprocAttr,jH,hx,hy,hsh,hsk,fQ,he,hb,hsu,han,hbv,hbt,hin,hek,e0,s0]);(repeat refine aI ?_);first|done|exact vI) (by first|omega|(dsimp only;omega)|(simp;done)|(simp;omega)))|apply dG|apply aF|((first|refine ay rfl (fun K hK=>?_)|refine aj (fun K hK=>?_)|refine aA (fun K hK=>?_));(first|refine ah (f:=50) [] 0 false ?_|refine ah (f:=76) (dst:=some 74) [] 0 false ?_|refine ah (f:=76) (dst:=some 80) [] 0 false ?_|refine ah (f:=69) [] 0 false ?_|refine ah (f:=56) [] 0 false ?_|refine ah (f:=77) [] 0 false ?_|refine ah (f:=48) [] 0 false ?_|refine ah (f:=47) [] 0 false ?_|refine ah (f:=70) [] 0 false ?_|refine ah (f:=71) [] 0 false ?_);simp-dsimp(disch:=try exact vD) only[push_cast,simprocAttr,jH,hx,hy,hsh,hsk,fQ,he,hb,hsu,han,hbv,hbt,hin,hek,e0,s0];(repeat refine aI ?_);intro G hG;refine hG _ _ ?_;clear hG G;(first|refine⟨_,_,hv.down,?_⟩|refine⟨_,_,g1.down,?_⟩|refine⟨_,_,g2.down,?_⟩|refine⟨_,_,g0.down,?_⟩|refine⟨_,_,(hw.down up k i hil),?_⟩|refine⟨_,_,(ha.down up hul),?_⟩|refine⟨_,_,hd.down,?_⟩|refine⟨_,_,(hs.down up hul),?_⟩|refine⟨_,_,(hmu.down up hul),?_⟩|refine⟨_,_,(had.down up hul),?_⟩);simp-dsimp(disch:=try exact vD) only[push_cast,simprocAttr,jH,hx,hy,hsh,hsk,fQ,he,hb,hsu,han,hbv,hbt,hin,hek,e0,s0];(repeat refine aI ?_);apply hK;clear hK K)|((first|refine ay rfl (fun K hK=>?_)|refine aj (fun K hK=>?_)|refine aA (fun K hK=>?_));(first|apply cO|apply aZ|apply df|apply aT|apply aW|apply bf|apply bu|apply fK|apply bZ|apply fA|apply gm|apply fu|apply eG|apply iX|apply eZ|apply dK|apply dP|apply dm|apply bU|apply dY);simp-dsimp(disch:=try exact vD) only[push_cast,simprocAttr,jH,hx,hy,hsh,hsk,fQ,he,hb,hsu,han,hbv,hbt,hin,hek,e0,s0];(repeat refine aI ?_);apply hK;clear hK K)|((first|refine aQ rfl rfl (fun K1 K2 h1 h2=>?_) rfl|refine aJ (fun K1 K2 h1 h2=>?_)|refine bL rfl rfl (fun K1 K2 h1 h2=>?_));simp-dsimp(disch:=try exact vD) only[push_cast,simprocAttr,jH,hx,hy,hsh,hsk,fQ,he,hb,hsu,han,hbv,hbt,hin,hek,e0,s0];(first|(refine⟨fun hc=>?_,fun hc=>?_⟩<;>first|(exfalso;omega)|(exfalso;contradiction)|refine h1 ?_|refine h2 ?_)|refine h1 ?_|refine h2 ?_);all_goals clear h1 h2 K1 K2)|(refine aV (id:=12) (by kernel_rfl) [⟨0,[],[50,54,55,56],[],[],0⟩,⟨1,[],[49,54,55,56],[],[],0⟩,⟨2,[0,1],[54,55,56],[],[],0⟩,⟨3,[0,1,2],[54,55,56],[],[],0⟩,⟨4,[0,1,2,3],[54,55,56],[],[],0⟩,⟨5,[],[49,50,51,52,53],[],[],0⟩,⟨6,[5],[49,50,51,52,53],[],[],0⟩,⟨7,[5,6],[49,50,51,52,53],[],[],0⟩,⟨8,[0,1,2,3,4,5,6,7],[],[],[],0⟩] (by kernel_rfl) (by kernel_rfl) (by kernel_rfl) ?_)|(refine aV (id:=36) (by kernel_rfl) [⟨0,[],[125,126,127,128,129,130,131,132],[],[],0⟩,⟨1,[],[124,126,128,130],[],[],0⟩,⟨2,[],[124,125,128,130],[],[],0⟩,⟨3,[1,2],[124,128,130],[],[],0⟩,⟨4,[],[124,125,126,127,130],[],[],0⟩,⟨5,[1,2,3,4],[124,130],[],[],0⟩,⟨6,[],[124,125,126,127,128,129],[],[],0⟩,⟨7,[1,2,3,4,5,6],[124],[],[],0⟩,⟨8,[1,2,3,4,5,6,7],[124],[],[],0⟩,⟨9,[0,1,2,3,4,5,6,7,8],[],[],[],0⟩,⟨10,[0,1,2,3,4,5,6,7,8,9],[],[],[5],0⟩] (by kernel_rfl) (by kernel_rfl) (by kernel_rfl) ?_)|((first|refine dW (by kernel_rfl) (fun K hK=>?_)|refine gy (by kernel_rfl) (fun K hK=>?_));simp only[↓Go.Sy.dz,↓Go.Sy.dA,↓Go.Sy.dU,↓Go.Sy.dD,↓Go.Sy.dV,↓Go.Sy.cZ,↓Go.Sy.dE,push_cast,Nat.reduceLeDiff,Nat.reduceSub,Nat.reduceBEq,Nat.reduceEqDiff,Nat.reduceAdd,Nat.reduceLT,↓reduceIte,reduceCtorEq];refine hK _ _ _ ?_;clear hK K)|apply jl|apply dH|apply aR|apply bX|apply bz|apply aS|apply bY|apply bA|(refine aY rfl ?_)|apply bB|apply bW|apply bV|apply dF)
 all_goals first
  |((refine Ends.mk2 (by first|exact .inr rfl|exact .inl rfl) [] ?_;simp-dsimp(disch:=try exact vD) only[push_cast,simprocAttr,Tryz.f35];try exact zqF);done)
  |skip
end
section
variable {n N K k i m j r s:Nat} {z zs zt zp:Bool} {ss:List Nat} {ps ts:List RV} {l:List Int} {F:List Fo} {X:RV} {p site:Nat→Rat} {d dt:Nat→Nat} {c x:Rat} {e:Int} {tab:Nat→Bool}
theorem Gd.rprobs(g:Gd ps p d n)(hn:n≤100):ACall Tryz.prog 76 [.isl zp (cR ps) n] [] 0 (.val (.int .i64 0)) []:=Mx g.len (by omega) g.rin g.e
end
section
variable {n N K k i m j r s up N1 N2 r1 r2:Nat} {z zs zt zp z1 z2:Bool} {ss:List Nat} {ps ts:List RV} {F F1 F2:List Fo} {X:RV} {p site:Nat→Rat} {d dt:Nat→Nat} {c x:Rat} {e:Int} {tab:Nat→Bool}
theorem Zw(h:Cs p d n){S:Nat→Nat→Bool}:∀k,Cs (sP S p up k) d n:=fun k=>by
 induction k with
 |zero=>exact h
 |succ k ih=>unfold sP;split
             ·exact ih
             ·exact Zc ih
theorem ajo(hps:ps.length=n)(hP:Ps ps p n):∀k,Ps (spL ps ss n up k) (sP (bSt ss) p up k) n:=fun k=>by
 induction k with
 |zero=>exact hP
 |succ k ih=>
  unfold spL sP
  split
  ·exact ih
  ·exact Ze (spL_len.trans hps) ih
theorem Ra{D E K:Nat}(hm:m≤4)(hn:n≤12)(h1:0<D)(h2:0<E)(hD:D≤1000000^m)(hE:E≤1000000^n)(hK:K≤10^30)(h:Bd (D*E) K x):Sm x:=by
 have e1:1000000^m≤1000000^4:=Nat.pow_le_pow_right (by omega) hm
 have e2:1000000^n≤1000000^12:=Nat.pow_le_pow_right (by omega) hn
 have h3:D*E≤1000000^4*1000000^12:=Nat.mul_le_mul (Nat.le_trans hD e1) (Nat.le_trans hE e2)
 have e3:1000000^4*1000000^12<10^140:=by decide
 refine h.sm (Nat.mul_pos h1 h2) ?_ (by omega)
 have h4:=Nat.mul_le_mul hK h3
 have e4:10^30*(1000000^4*1000000^12)<10^140:=by decide
 omega
theorem Ug(hv:ACall Tryz.prog 50 [dI z n (F.map fk) N r] [] 0 (.val (.int .i64 0)) [])(hD:DOk n F r)(hN:F.length=N)(g:Gd ps p d n)(gs:Gd ts site dt m)(hm:m≤4)(hss:ss.length=m)(hz:zp=true→n=0)(ha:ApE ss n e):ACall Tryz.prog 35 [dI z n (F.map fk) N r,.isl zs (cX ss) m,.isl zt (cR ts) m,.isl zp (cR ps) n] [] 0 (.tup [.agg (aa.cells (if e=0 then rC (siV ss site m n F r p) else rZ)),.val (.int .i64 e)]) []:=by
 have h12:=hD.n12
 cases ha with
 |rg T hT h hb=>exact Zi g.len hss h12 rfl hv (by omega) (by omega) h hb
 |ex T hT h h1 hb=>exact Zj g.len hss h12 rfl hv (by omega) (by omega) h h1 hb
 |ok h=>
  rw[if_pos rfl]
  rw[hss] at h
  have hG:∀up,Sm (Pr (sP (bSt ss) p up m) n fun t=> !aG F t r):=fun up=>jo (Zw g.cs m) h12
  have hA:∀up,Sm (al site up m):=fun up=>QY gs.cs (by omega) (Nat.le_refl m)
  have hp1:=uK (d:=d) (i:=0) (k:=n) fun j _ hj=>⟨(g.cs j (by omega)).2.1,(g.cs j (by omega)).2.2⟩
  have hp2:=uK (d:=dt) (i:=0) (k:=m) fun j _ hj=>⟨(gs.cs j (by omega)).2.1,(gs.cs j (by omega)).2.2⟩
  have e2m:2^m≤16:=(Nat.pow_le_pow_right (by omega) hm:2^m≤2^4)
  have e3n:3^n≤531441:=(Nat.pow_le_pow_right (by omega) h12:3^n≤3^12)
  have hC:∀up,Bd (pp dt 0 m*pp d 0 n) (2^m*3^n) (al site up m*Pr (sP (bSt ss) p up m) n fun t=> !aG F t r):=fun up=>
   (YF gs.cs (Nat.le_refl m)).mul (Bo hD (Zw g.cs m))
  have hk:2^m*3^n≤16*531441:=Nat.mul_le_mul e2m e3n
  have hCs:∀up,Sm (al site up m*Pr (sP (bSt ss) p up m) n fun t=> !aG F t r):=fun up=>
   Ra hm h12 hp2.1 hp1.1 hp2.2 hp1.2 (Nat.le_trans hk (by decide)) (hC up)
  have hSb:∀up,Bd (pp dt 0 m*pp d 0 n) (up*(2^m*3^n)) (sT site m (fun up=>Pr (sP (bSt ss) p up m) n fun t=> !aG F t r) up):=fun up=>by
   induction up with
   |zero=>rw[adL];exact Bd.zero.mono (Nat.one_dvd _) (by omega)
   |succ up ih=>
    rw[OZ]
    exact(ih.add (hC up)).mono (Nat.dvd_refl _) (by rw[Nat.succ_mul up];exact Nat.le_refl _)
  have hS:∀up,up≤2^m→Sm (sT site m (fun up=>Pr (sP (bSt ss) p up m) n fun t=> !aG F t r) up):=fun up hu=>
   Ra hm h12 hp2.1 hp1.1 hp2.2 hp1.2 (Nat.le_trans (Nat.mul_le_mul (Nat.le_trans hu e2m) hk) (by decide)) (hSb up)
  have hw:=Zk (S:=fun up=>rC (sT site m (fun up=>Pr (sP (bSt ss) p up m) n fun t=> !aG F t r) up)) (A:=fun up=>rC (al site up m)) (B:=fun up=>rC (Pr (sP (bSt ss) p up m) n fun t=> !aG F t r)) (C:=fun up=>rC (al site up m*Pr (sP (bSt ss) p up m) n fun t=> !aG F t r))
   (zs:=zs) (zt:=zt) (ts:=ts) g.len hss h12 (rfl:2^n=2^n) (rfl:2^m=2^m) hm hz h hv (gs.rprobs (by omega)) (g.rprobs (by omega)) Mw (fun up hu=>MB gs.len (by omega) (by omega) gs.cs gs.pq) (DL hD hN)
   (fun up hu=>vF (spL_len.trans g.len) h12 (Zw g.cs m) (ajo g.len g.pq m)) (fun up hu=>?_) (fun up hu=>?_)
  ·have e:siV ss site m n F r p=Ev site (fun up=>Pr (sP (bSt ss) p up m) n fun t=> !aG F t r) m 0 0:=ai0 (F:=fun p=>Pr p n fun t=> !aG F t r)
   rw[ae1] at hw;rw[e];exact hw
  ·have:=w9 (cu (hA up)) (cu (hG up))
   rw[←eF,←eF] at this;exact this
  ·have:=Kj (cu (hS up (by omega))) (cu (hCs up))
   rw[←eF,←eF] at this
   show ACall _ _ _ _ _ (.agg (aa.cells (rC (sT _ _ _ (up+1))))) _
   rw[OZ];exact this
end
section
variable {n m k i j:Nat} {z z':Bool} {l xs:List Int} {ss:List Nat} {X:RV} {a b:Int}
theorem alP:ACall Tryz.prog 34 [.isl true [] 0] [] 0 (.isl true [] 0) []:=by
 refine ak Tryz.func34 Tryz.ntmps34 rfl ?_
 repeat' (first|refine zqN ?_|refine aK ?_|refine iy ?_|refine iA ?_|refine iB ?_|refine aL ?_|(refine aM ?_ ?_<;>intro hc<;>try exact zqM))
 all_goals(refine Ends.mk2 zqI [] ?_;simp-dsimp(disch:=try exact vD) only[push_cast,simprocAttr,Tryz.f34];try exact zqF)
theorem ajr(hn:ss.length=n)(hb:n≤100000):ACall Tryz.prog 34 [.isl false (cX ss) n] [] 0 (.isl false (cX ss) n) []:=by
 refine ak Tryz.func34 Tryz.ntmps34 rfl ?_
 repeat' (first|refine zqN ?_|refine aK ?_|refine iy ?_|refine iA ?_|refine iB ?_|refine aL ?_|(refine aM ?_ ?_<;>intro hc<;>try exact zqM))
 all_goals((refine Ends.frz 1 ?_;simp-dsimp(disch:=try exact vD) only[push_cast,simprocAttr,Tryz.f34];(repeat refine aI ?_);intro K hK;refine hK _ _ ?_;clear hK K);refine Ends.mk2 zqI [] ?_;simp-dsimp(disch:=try exact vD) only[push_cast,simprocAttr,Tryz.f34];try exact zqF)
theorem Zy(hn:ss.length=n)(hb:n≤100000)(hz:z=true→ss=[]):ACall Tryz.prog 34 [.isl z (cX ss) n] [] 0 (.isl z (cX ss) n) []:=by
 cases z with
 |false=>exact ajr hn hb
 |true=>
  have e:=hz rfl
  subst e;subst hn;exact alP
end
end
section
open Go Go.Sy Go.Bp Go.Dg
attribute [local irreducible] AO AL AC OpT ACall Ends DGo bK Thn Blk Nxt
variable {n N M L T k i m r a b j w u v s q x y d:Nat} {z up:Bool} {B:List Nat} {e:Int} {p:Nat→Bool}
def bsI(y s:Nat):Bool:=decide (IntKind.u8.wrap (((BitVec.ofInt IntKind.u8.bits ((y:Int).fdiv (2^((s:Int)%8).toNat))&&&BitVec.ofInt IntKind.u8.bits 1).toNat:Nat):Int)=1)
def mdB(B:List Nat)(L s:Nat):Bool:=if L=0 then false else bsI (B.getD (s/8%L) 0) s
theorem afa:mdB B 0 s=false:=if_pos rfl
theorem afb(h:0<L):mdB B L s=bsI (B.getD (s/8%L) 0) s:=if_neg (by omega)
def isx(l:List Bool)(s x:Nat):Bool:=(List.range x).any fun y=>l.getD y default&&decide (yw y s%65536=0)
def mkT(p:Nat→Bool)(up:Bool):Nat→List Bool
 |0=>[]
 |s+1=>mkT p up s++[p s||(up&&isx (mkT p up s) s s)]
theorem uo:∀s,(mkT p up s).length=s
 |0=>rfl
 |s+1=>by rw[mkT,List.length_append,uo s];rfl
theorem alV{l:List Bool}:isx l s (x+1)=(isx l s x||(l.getD x default&&decide (yw x s%65536=0))):=by
 unfold isx;rw[List.range_succ,List.any_append];simp
theorem Zz:(cB (mkT p up T)).take T=cB (mkT p up T):=List.take_of_length_le (by rw[cB_len,uo];exact Nat.le_refl _)
def mdA(z:Bool)(N:Nat)(B:List Nat)(L:Nat)(up:Bool)(n T:Nat)(s:{s:Nat // s≤T}):St:=⟨69,0,[(1,.pt 0 0),(2,.pt 1 0),(3,.val (.int .i64 n)),(4,kC s.val 2 1),(5,.val (.int .i64 s.val))],[(0,some (.cells (drC N z B L up) 24)),(1,some zDO)]++kD s.val 2 (cB (mkT (mdB B L) up s.val)) 4⟩
def mdF(z:Bool)(N:Nat)(B:List Nat)(L:Nat)(n s:Nat)(b0:Bool)(x:{x:Nat // x=0}):St:=⟨69,0,[(1,.pt 0 0),(2,.pt 1 0),(3,.val (.int .i64 n)),(4,kC s 2 1),(5,.val (.int .i64 s)),(6,.val (.bool b0)),(7,.val (.int .i64 x.val))],[(0,some (.cells (drC N z B L false) 24)),(1,some zDO)]++kD s 2 (cB (mkT (mdB B L) false s)) 4⟩
def mdG(z:Bool)(N:Nat)(B:List Nat)(L:Nat)(n s:Nat)(b0:Bool)(x:{x:Nat // x≤s}):St:=⟨69,0,[(1,.pt 0 0),(2,.pt 1 0),(3,.val (.int .i64 n)),(4,kC s 2 1),(5,.val (.int .i64 s)),(6,.val (.bool (b0||isx (mkT (mdB B L) true s) s x.val))),(7,.val (.int .i64 x.val))],[(0,some (.cells (drC N z B L true) 24)),(1,some zDO)]++kD s 2 (cB (mkT (mdB B L) true s)) 4⟩
theorem ajw(hN:N<256)(hL:B.length=L)(hL2:L<2^47)(hn:N%7=n)(hT:2^n=T)(hb:∀i,B.getD i 0<256):ACall Tryz.prog 13 [.agg (drC N z B L false)] [] 0 (dgV ((kM n (mkT (mdB B L) false T)).1.length==0) n (kM n (mkT (mdB B L) false T)).1 (kM n (mkT (mdB B L) false T)).2) []:=by
 have hx:=ae;have hq:=ae;have hg:=ae;have hb0:=ae;have hbs:=ae;have hL00:=ae;have hv:=ae;have ht:=ae;have hw:=ae;have hst:=ae;have hsn:=ae;have hlT:=ae;have hmin:=ae;have hs0:=ae
 have hn6:n≤6:=by omega
 have hT64:T≤64:=by rw[←hT];exact(Nat.pow_le_pow_right (by omega) hn6:2^n≤2^6)
 have hTp:0<T:=by rw[←hT];exact Nat.two_pow_pos n
 have hsh:=Bc (n:=n) (by omega)
 have hfr:=PLift.up (lV (n:=n) (tb:=mkT (mdB B L) false T) (M:=T) (by omega) (uo _) hT.symm)
 have htk:=Zz (p:=mdB B L) (up:=false) (T:=T)
 have hwi:=fun(x s:Nat) (hx:x<65536) (h:s<65536)=>PLift.up (by
  have:=Bh (s:=x) (q:=s)
  rw[Lp hx,Lp h] at this;exact this)
 rw[hT] at hsh
 unfold dgV at*
 generalize((kM n (mkT (mdB B L) false T)).1.length==0)=zb at hfr⊢
 generalize kM n (mkT (mdB B L) false T)=R at hfr⊢
 unfold drC
 refine ak Tryz.func13 Tryz.ntmps13 rfl ?_
 repeat' (first|((first|refine bI (r:=12) 2 ?_|refine bH (r:=12) 2 ?_);simp-dsimp(disch:=try exact vD) only[push_cast,simprocAttr,htk,hsh,hmin,hs0,hq,hg,hb0,hbs,hL00,hv,ht,hw,hst,hlT,drC];(repeat refine aI ?_);intro K hK;refine hK _ _ ?_;clear hK K)|(refine ai ?_;refine au [0,1,2] ([0,1,2].length) (mdF z N B L n s (mdB B L s)) (fun _=>0) (⟨0,rfl⟩) rfl (by unfold mdF;(try simp only[List.cons_append,List.nil_append]);refine Sub.mk2 ?_;(simp-dsimp(disch:=try exact vD) only[push_cast,simprocAttr,htk,hsh,hmin,hs0,hq,hg,hb0,hbs,hL00,hv,ht,hw,hst,hlT,drC]);(repeat refine aI ?_);first|done|exact vI) ?_;(rintro⟨x,rfl⟩;have hsn:mkT (mdB B L) false s++[mdB B L s]=mkT (mdB B L) false (s+1):=(by rw[mkT,Bool.false_and,Bool.or_false]);rw[hb0] at hsn;first|(have s00:s=0:=s0;subst s00;have hsn:=congrArg cB hsn;have hsn:[AV.val (.bool _)]=cB (mkT (mdB B L) false 1):=hsn;(simp-dsimp(disch:=try exact vD) only[push_cast,simprocAttr,mdF]))|(have hs0:((0:Int)<(s:Int))=True:=eq_true (by omega);(simp-dsimp(disch:=try exact vD) only[push_cast,simprocAttr,mdF]))))|(refine ai ?_;refine au [0,1,9] ([0,1,9].length) (mdA z N B L false n T) (fun s=>T-s.val) (⟨0,by omega⟩) rfl (by unfold mdA;(try simp only[List.cons_append,List.nil_append]);refine Sub.mk2 ?_;(simp-dsimp(disch:=try exact vD) only[push_cast,simprocAttr,htk,hsh,hmin,hs0,hq,hg,hb0,hbs,hL00,hv,ht,hw,hst,hlT,drC]);(repeat refine aI ?_);first|done|exact vI) ?_;(rintro⟨s,hs⟩;rcases Nat.lt_or_eq_of_le hs with hsl|hsl<;>first|(have es:T=s:=hsl.symm;subst es;(simp-dsimp(disch:=try exact vD) only[push_cast,simprocAttr,mdA]))|(have hlT:=uo (p:=mdB B L) (up:=false) s;rcases Nat.eq_zero_or_pos s with s0|s0<;>rcases Nat.eq_zero_or_pos L with h0|h0<;>first|(have hb0:mdB B L s=false:=(by rw[h0];exact afa);have hL00:(0<(L:Int))=False:=eq_false (by omega);(simp-dsimp(disch:=try exact vD) only[push_cast,simprocAttr,mdA]))|(have hb0:=afb (B:=B) (s:=s) h0;have hmin:min ((s:Int)%8).toNat IntKind.u8.bits=((s:Int)%8).toNat:=Nat.min_eq_left (by show _≤8;omega);have hqL:s/8%L<L:=Nat.mod_lt _ h0;have hq:((s:Int)/8%(L:Int))=((s/8%L:Nat):Int):=(by norm_cast);obtain⟨q,hqe⟩:∃q,s/8%L=q:=⟨_,rfl⟩;rw[hqe] at hq hqL hb0;have hg:=Bi (l:=B) (j:=q) (by omega);have hlB:(NI B).length=L:=(by rw[dS,hL]);obtain⟨y,hye⟩:∃y,B.getD q 0=y:=⟨_,rfl⟩;have hy:=hb q;rw[hye] at hg hy hb0;rcases Bool.eq_false_or_eq_true (bsI y s) with h8|h8<;>rw[h8] at hb0<;>first|(have hbs:=eq_true (of_decide_eq_true h8);(simp-dsimp(disch:=try exact vD) only[push_cast,simprocAttr,mdA]))|(have hbs:=eq_false (of_decide_eq_false h8);(simp-dsimp(disch:=try exact vD) only[push_cast,simprocAttr,mdA]))))))|(refine ax ?_;refine Nxt.mk [0,1,4] (⟨1,by omega⟩) rfl (by unfold mdA;(try simp only[List.cons_append,List.nil_append]);refine Sub.mk2 ?_;(simp-dsimp(disch:=try exact vD) only[push_cast,simprocAttr,htk,hsh,hmin,hs0,hq,hg,hb0,hbs,hL00,hv,ht,hw,hst,hlT,drC,hsn]);(repeat refine aI ?_);first|done|exact vI) (by first|omega|(dsimp only;omega)|(simp;done)|(simp;omega)))|(refine ax ?_;refine Nxt.mk [0,1,2] (⟨s+1,by omega⟩) rfl (by unfold mdA;(try simp only[List.cons_append,List.nil_append]);refine Sub.mk2 ?_;(simp-dsimp(disch:=try exact vD) only[push_cast,simprocAttr,htk,hsh,hmin,hs0,hq,hg,hb0,hbs,hL00,hv,ht,hw,hst,hlT,drC,hsn]);(repeat refine aI ?_);first|done|exact vI) (by first|omega|(dsimp only;omega)|(simp;done)|(simp;omega)))|(refine ax ?_;refine Nxt.mk [0,1,3] (⟨s+1,by omega⟩) rfl (by unfold mdA;(try simp only[List.cons_append,List.nil_append]);refine Sub.mk2 ?_;(simp-dsimp(disch:=try exact vD) only[push_cast,simprocAttr,htk,hsh,hmin,hs0,hq,hg,hb0,hbs,hL00,hv,ht,hw,hst,hlT,drC,hsn]);(repeat refine aI ?_);first|done|exact vI) (by first|omega|(dsimp only;omega)|(simp;done)|(simp;omega)))|(refine ax ?_;refine Nxt.mk [0,1,4] (⟨s+1,by omega⟩) rfl (by unfold mdA;(try simp only[List.cons_append,List.nil_append]);refine Sub.mk2 ?_;(simp-dsimp(disch:=try exact vD) only[push_cast,simprocAttr,htk,hsh,hmin,hs0,hq,hg,hb0,hbs,hL00,hv,ht,hw,hst,hlT,drC,hsn]);(repeat refine aI ?_);first|done|exact vI) (by first|omega|(dsimp only;omega)|(simp;done)|(simp;omega)))|apply dG|apply aF|((first|refine ay rfl (fun K hK=>?_)|refine aj (fun K hK=>?_)|refine aA (fun K hK=>?_));(first|refine ah (f:=42) [] 0 false ?_|refine ah (f:=41) [] 0 false ?_);simp-dsimp(disch:=try exact vD) only[push_cast,simprocAttr,htk,hsh,hmin,hs0,hq,hg,hb0,hbs,hL00,hv,ht,hw,hst,hlT,drC];(repeat refine aI ?_);intro G hG;refine hG _ _ ?_;clear hG G;(first|refine⟨_,_,hfr.down,?_⟩|refine⟨_,_,(hwi x s (by omega) (by omega)).down,?_⟩);simp-dsimp(disch:=try exact vD) only[push_cast,simprocAttr,htk,hsh,hmin,hs0,hq,hg,hb0,hbs,hL00,hv,ht,hw,hst,hlT,drC];(repeat refine aI ?_);apply hK;clear hK K)|((first|refine ay rfl (fun K hK=>?_)|refine aj (fun K hK=>?_)|refine aA (fun K hK=>?_));(first|apply cO|apply aZ|apply df|apply aT|apply aW|apply bf|apply bu|apply fK|apply bZ|apply fA|apply gm|apply fu|apply eG|apply aX|apply dK|apply dP|apply dm|apply bU|apply dY|apply dM);simp-dsimp(disch:=try exact vD) only[push_cast,simprocAttr,htk,hsh,hmin,hs0,hq,hg,hb0,hbs,hL00,hv,ht,hw,hst,hlT,drC];(repeat refine aI ?_);apply hK;clear hK K)|((first|refine ay rfl (fun K hK=>?_)|refine aj (fun K hK=>?_)|refine aA (fun K hK=>?_));(first|apply gz);simp-dsimp(disch:=try exact vD) only[push_cast,simprocAttr,htk,hsh,hmin,hs0,hq,hg,hb0,hbs,hL00,hv,ht,hw,hst,hlT,drC];(repeat refine aI ?_);apply hK;clear hK K)|((first|refine ay rfl (fun K hK=>?_)|refine aj (fun K hK=>?_)|refine aA (fun K hK=>?_));(first|apply eO);simp-dsimp(disch:=try exact vD) only[push_cast,simprocAttr,htk,hsh,hmin,hs0,hq,hg,hb0,hbs,hL00,hv,ht,hw,hst,hlT,drC];(repeat refine aI ?_);apply hK;clear hK K)|((first|refine ay rfl (fun K hK=>?_)|refine aj (fun K hK=>?_)|refine aA (fun K hK=>?_));(first|apply eH);simp-dsimp(disch:=try exact vD) only[push_cast,simprocAttr,htk,hsh,hmin,hs0,hq,hg,hb0,hbs,hL00,hv,ht,hw,hst,hlT,drC];(repeat refine aI ?_);apply hK;clear hK K)|((first|refine aQ rfl rfl (fun K1 K2 h1 h2=>?_) rfl|refine aJ (fun K1 K2 h1 h2=>?_)|refine bL rfl rfl (fun K1 K2 h1 h2=>?_));simp-dsimp(disch:=try exact vD) only[push_cast,simprocAttr,htk,hsh,hmin,hs0,hq,hg,hb0,hbs,hL00,hv,ht,hw,hst,hlT,drC];(first|(refine⟨fun hc=>?_,fun hc=>?_⟩<;>first|(exfalso;omega)|(exfalso;contradiction)|refine h1 ?_|refine h2 ?_)|refine h1 ?_|refine h2 ?_);all_goals clear h1 h2 K1 K2)|(refine aV (id:=6) (by kernel_rfl) [⟨0,[],[],[],[],0⟩,⟨1,[0],[],[],[],0⟩,⟨2,[0,1],[],[],[],0⟩,⟨3,[0,1,2],[],[],[],0⟩,⟨4,[0,1,2,3],[],[],[],0⟩,⟨5,[0,1,2,3,4],[25,26,27,28,29,30,33,34],[],[],0⟩,⟨6,[0,1,2,3,4,5],[25,26,27,28,29,30,33,34],[],[],0⟩,⟨7,[0,1,2,3,4],[23,24,27,28,29,33,34],[],[],0⟩,⟨8,[0,1,2,3,4,7],[23,24,27,28,29,33,34],[],[],0⟩,⟨9,[0,1,2,3,4],[23,24,25,26,33,34],[],[],0⟩,⟨10,[0,1,2,3,4,9],[23,24,25,26,33,34],[],[],0⟩,⟨11,[0,1,2,3,4,9,10],[23,24,25,26,33,34],[],[],0⟩,⟨12,[0,1,2,3,4,7,8,9,10,11],[23,24,33,34],[],[],0⟩,⟨13,[0,1,2,3,4,5,6,7,8,9,10,11,12],[33,34],[],[],0⟩,⟨14,[0,1,2,3,4,5,6,7,8,9,10,11,12,13],[33,34],[],[],0⟩,⟨15,[0,1,2,3,4],[23,24,25,26,27,28,29,30,31,32],[],[],0⟩,⟨16,[0,1,2,3,4,15],[23,24,25,26,27,28,29,30,31,32],[],[],0⟩,⟨17,[0,1,2,3,4,5,6,7,8,9,10,11,12,13,14,15,16],[],[],[],0⟩,⟨18,[0,1,2,3,4,5,6,7,8,9,10,11,12,13,14,15,16,17],[],[],[],0⟩,⟨19,[0,1,2,3,4,5,6,7,8,9,10,11,12,13,14,15,16,17,18],[],[],[],0⟩,⟨20,[0,1,2,3,4,5,6,7,8,9,10,11,12,13,14,15,16,17,18,19],[],[],[],0⟩,⟨21,[0,1,2,3,4,5,6,7,8,9,10,11,12,13,14,15,16,17,18,19,20],[],[],[],0⟩] (by kernel_rfl) (by kernel_rfl) (by kernel_rfl) ?_)|((first|refine dW (by kernel_rfl) (fun K hK=>?_)|refine gy (by kernel_rfl) (fun K hK=>?_));simp only[↓Go.Sy.dz,↓Go.Sy.dA,↓Go.Sy.dU,↓Go.Sy.dD,↓Go.Sy.dV,↓Go.Sy.cZ,↓Go.Sy.dE,push_cast,Nat.reduceLeDiff,Nat.reduceSub,Nat.reduceBEq,Nat.reduceEqDiff,Nat.reduceAdd,Nat.reduceLT,↓reduceIte,reduceCtorEq];refine hK _ _ _ ?_;clear hK K)|apply jl|apply dH|apply aR|apply bX|apply bz|apply aS|apply bY|apply bA|(refine aY rfl ?_)|apply bB|apply bW|apply bV|apply dF)
 all_goals first
  |((refine Ends.mk2 (by first|exact .inr rfl|exact .inl rfl) [] ?_;simp-dsimp(disch:=try exact vD) only[push_cast,simprocAttr,Tryz.f13];try exact zqF);done)
  |skip
end
