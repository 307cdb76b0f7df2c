/- La8 La9. No condition. -/
import Derived.Test.YtgmpdplpodemaaaGreatDoorLaG3
set_option linter.all false
set_option maxHeartbeats 4000000
set_option maxRecDepth 20000
namespace Go.Proofs.YtgmpdplpodemaaaGreatDoor
open Go Go.Sy Go.Bp Go.Lm Go.Rt
attribute [local irreducible] AO AL AC OpT ACall Ends DGo aN Thn Blk Nxt
variable {n N M k i m j r a H:Nat} {z z' cz:Bool} {v c e:Int} {X Y W F R ZERO ONE LD:RV} {wr:List Nat} {cap xs ys:List RV} {K:List AV}
structure Sh where
 a:Nat
 b:Nat
 p:RV
instance:Inhabited Sh:=⟨⟨0,0,default⟩⟩
instance:aa Sh 6:=⟨fun x=>[.val (.int .u16 (U x.a)),.val (.int .u16 (U x.b)),.val (.bool x.p.num.neg),.isl x.p.num.z (cI .u32 x.p.num.l) x.p.num.l.length,.val (.bool x.p.den.neg),.isl x.p.den.z (cI .u32 x.p.den.l) x.p.den.l.length],fun _=>rfl,fun _=>rfl,fun _=>rfl⟩
theorem Ed(x:Sh):aa.cells x=[.val (.int .u16 (U x.a)),.val (.int .u16 (U x.b)),.val (.bool x.p.num.neg),.isl x.p.num.z (cI .u32 x.p.num.l) x.p.num.l.length,.val (.bool x.p.den.neg),.isl x.p.den.z (cI .u32 x.p.den.l) x.p.den.l.length]:=rfl
attribute [push_cast] Ed
variable {ss:List Sh} {P:List Pr}
def ptI(ss:List Sh)(n:Nat)(S:Nat→RV)(i:{i:Nat // i≤n}):St:=
 ⟨45,0,[(3,.pt 0 0),(7,.isl false (cR ss) n),(8,.val (.int .i64 n)),(9,.val (.int .i64 i.val))],[(0,some (jR (S i.val)))]⟩
theorem GM{S:Nat→RV} {cm:Nat→Int}(hl:ss.length=n)(hn:n≤1000)(hv:∀i,i<n→ACall Tryz.prog 102 [.agg (aa.cells (ss.getD i default).p)] [] 0 (.val (.bool true)) [])(w0:ACall Tryz.prog 97 [.val (.int .i64 0)] [] 0 (.agg (aa.cells ZERO)) [])(w1:ACall Tryz.prog 97 [.val (.int .i64 1)] [] 0 (.agg (aa.cells ONE)) [])
 (hc:∀i,i<n→ACall Tryz.prog 100 [.agg (aa.cells (ss.getD i default).p),.agg (aa.cells ZERO)] [] 0 (.val (.int .i64 (cm i))) []) (hcm:∀i,i<n→¬cm i<0) (h0:ZERO=S 0) (ha:∀i,i<n→ACall Tryz.prog 195 [.pt 0 0,.agg (aa.cells (ss.getD i default).p)] [jR (S i)] 1 (.tup []) [jR (S (i+1))])
 (h1:ACall Tryz.prog 100 [.agg (aa.cells (S n)),.agg (aa.cells ONE)] [] 0 (.val (.int .i64 0)) []) (hs:ACall Tryz.prog 151 [] [] 0 (.pt 0 0) [jR (S 0)]):ACall Tryz.prog 150 [.isl false (cR ss) n] [] 0 (.val (.int .i64 0)) []:=by
 have hvq:=fun(i:Nat) (h:i<n)=>PLift.up (hv i h);have hcq:=fun(i:Nat) (h:i<n)=>PLift.up (hc i h);have haq:=fun(i:Nat) (h:i<n)=>PLift.up (ha i h)
 clear hv hc ha
 have w0:=PLift.up w0;have w1:=PLift.up w1;have h1:=PLift.up h1;have hs:=PLift.up hs
 rw[ay ZERO] at w0
 have hvi:=ae;have hci:=ae;have hai:=ae;have zx1:=ae
 unfold jR at*
 refine az Tryz.func150 Tryz.ntmps150 rfl ?_
 have zx2:=aD;have zx3:=aD;repeat' (first|(refine ai ?_;refine au [0] ([0].length) (ptI ss n S) (fun i=>n-i.val) (⟨0,by omega⟩) rfl (by unfold ptI;exact eH) ?_;(rintro⟨i,hi⟩;rcases Nat.lt_or_eq_of_le hi with hil|hil<;>first|(subst hil;(simp-dsimp only[ptI];refine zqS ?_))|(have hvi:=hvq i hil;have hci:=hcq i hil;have hai:=haq i hil;have zx1:=hcm i hil;rw[ay ZERO] at hci;(simp-dsimp only[ptI];refine zqS ?_))))|(refine aj ?_;refine Nxt.mk [0] (⟨i+1,by omega⟩) rfl (by unfold ptI;exact eH) zqO)|refine zqN ?_|((first|refine ax rfl (fun K hK=>?_)|refine ak (fun K hK=>?_)|refine aJ (fun K hK=>?_));(first|refine ah (f:=151) [] 0 false ?_|refine ah (f:=102) [] 0 false ?_|refine ah (f:=97) (dst:=some 20) [] 0 false ?_|refine ah (f:=97) (dst:=some 42) [] 0 false ?_|refine ah (f:=100) (dst:=some 21) [] 0 false ?_|refine ah (f:=100) (dst:=some 43) [] 0 false ?_|refine ah (f:=195) [0] 1 false ?_);refine Am ?_;(first|refine⟨_,_,hs.down,?_⟩|refine⟨_,_,hvi.down,?_⟩|refine⟨_,_,w0.down,?_⟩|refine⟨_,_,w1.down,?_⟩|refine⟨_,_,hci.down,?_⟩|refine⟨_,_,h1.down,?_⟩|refine⟨_,_,hai.down,?_⟩);refine rG ?_;apply hK;clear hK K)|refine dx ?_|refine dz ?_|(refine dA ?_ ?_<;>intro hc<;>try exact zqM)|refine zqR 5 [⟨0,[],[],[],[],0⟩,⟨1,[0],[],[],[],0⟩,⟨2,[0,1],[],[],[],0⟩,⟨3,[0,1,2],[],[],[],0⟩,⟨4,[0,1,2,3],[],[],[],0⟩,⟨5,[0,1,2,3,4],[20],[],[],0⟩,⟨6,[0,1,2,3,4,5],[20],[],[],0⟩,⟨7,[0,1,2,3,4],[18,19],[],[],0⟩,⟨8,[0,1,2,3,4,5,6,7],[],[],[],0⟩,⟨9,[0,1,2,3,4,5,6,7,8],[],[],[],0⟩,⟨10,[0,1,2,3,4,5,6,7,8,9],[],[],[],0⟩] ?_|refine zqR 11 [⟨0,[],[42],[],[],0⟩,⟨1,[0],[42],[],[],0⟩,⟨2,[0,1],[42],[],[],0⟩,⟨3,[0,1,2],[42],[],[],0⟩,⟨4,[],[38,39,40,41],[],[],0⟩,⟨5,[0,1,2,3,4],[],[],[],0⟩,⟨6,[0,1,2,3,4,5],[],[],[],0⟩] ?_|refine zqD ?_|fail)
 all_goals first
  |((refine Ends.mk2 zqI [] ?_;simp-dsimp(disch:=try exact vD) only[push_cast,simprocAttr,Tryz.f150];try exact zqF);done)
  |skip
def ipI(P:List Pr)(n a b:Nat)(q:Nat)(j:{j:Nat // j≤q}):St:=
 ⟨19,0,[(0,.isl false (cR P) n),(3,.pt 0 0),(7,.val (.int .i64 n)),(8,.val (.int .i64 j.val))],[(0,some (.cells [.val (.int .u16 (U a)),.val (.int .u16 (U b))] 164))]⟩
theorem Lu{b q:Nat}(hl:P.length=n)(hn:n≤1000)(hq:q<n)(ha:∀i,i<n→(P.getD i default).a=a)(hb:(P.getD q default).b=b)(hne:∀i,i<q→¬(P.getD i default).b%65536=b%65536):
 ACall Tryz.prog 146 [.isl false (cR P) n,.agg [.val (.int .u16 (U a)),.val (.int .u16 (U b))]] [] 0 (.val (.int .i64 q)) []:=by
 have zx1:=ae;have zx2:=ae
 refine az Tryz.func146 Tryz.ntmps146 rfl ?_
 have zx3:=aD;repeat' (first|(refine ai ?_;refine au [0] ([0].length) (ipI P n a b q) (fun j=>q-j.val) (⟨0,by omega⟩) rfl (by unfold ipI;exact eH) ?_;(rintro⟨j,hj⟩;have zx1:=ha j (by omega);rcases Nat.lt_or_eq_of_le hj with hjl|hjl<;>first|(have zx2:=hne j hjl;(simp-dsimp only[ipI];refine zqS ?_))|(subst hjl;have zx2:=hb;(simp-dsimp only[ipI];refine zqS ?_))))|(refine aj ?_;refine Nxt.mk [0] (⟨j+1,by omega⟩) rfl (by unfold ipI;exact eH) zqO)|refine zqN ?_|refine dx ?_|refine dz ?_|(refine dA ?_ ?_<;>intro hc<;>try exact zqM)|refine zqR 4 [⟨0,[],[12,13,14,15],[],[],0⟩,⟨1,[],[11,13],[],[],0⟩,⟨2,[],[11,12],[],[],0⟩,⟨3,[1,2],[11],[],[],0⟩,⟨4,[1,2,3],[11],[],[],0⟩,⟨5,[0,1,2,3,4],[],[],[],0⟩] ?_|refine zqD ?_|fail)
 all_goals first
  |((refine Ends.mk2 zqI [] ?_;simp-dsimp(disch:=try exact vD) only[push_cast,simprocAttr,Tryz.f146];try exact zqF);done)
  |skip
def isL(z:Bool)(ws:List Nat)(n b:Nat)(q:Nat)(j:{j:Nat // j≤q}):St:=
 ⟨19,0,[(0,.isl z (cX ws) n),(1,.val (.int .u16 (U b))),(7,.val (.int .i64 n)),(8,.val (.int .i64 j.val))],[]⟩
theorem zR{b q:Nat} {ws:List Nat}(hl:ws.length=n)(hn:n≤1000)(hq:q<n)(hb:ws.getD q default=b)(hne:∀i,i<q→¬ws.getD i default%65536=b%65536):ACall Tryz.prog 194 [.isl z (cX ws) n,.val (.int .u16 (U b))] [] 0 (.val (.int .i64 q)) []:=by
 have zx1:=ae
 refine az Tryz.func194 Tryz.ntmps194 rfl ?_
 have zx2:= @bg;have zx3:=aD;repeat' (first|(refine ai ?_;refine au [] ([].length) (isL z ws n b q) (fun j=>q-j.val) (⟨0,by omega⟩) rfl (by unfold isL;exact eH) ?_;(rintro⟨j,hj⟩;rcases Nat.lt_or_eq_of_le hj with hjl|hjl<;>first|(have zx1:=hne j hjl;(simp-dsimp only[isL];refine zqS ?_))|(subst hjl;have zx1:=hb;(simp-dsimp only[isL];refine zqS ?_))))|(refine aj ?_;refine Nxt.mk [] (⟨j+1,by omega⟩) rfl (by unfold isL;exact eH) zqO)|refine zqN ?_|refine dx ?_|refine dz ?_|(refine dA ?_ ?_<;>intro hc<;>try exact zqM))
 all_goals first
  |((refine Ends.mk2 zqI [] ?_;simp-dsimp(disch:=try exact vD) only[push_cast,simprocAttr,Tryz.f194];try exact zqF);done)
  |skip
theorem yw{b q:Nat} {ws:List AV}(h:ACall Tryz.prog 194 [.isl z ws n,.val (.int .u16 (U b))] [] 0 (.val (.int .i64 q)) []):ACall Tryz.prog 149 [.isl z ws n,.val (.int .u16 (U b))] [] 0 (.val (.bool true)) []:=by
 have h:=PLift.up h
 have zx1:(0:Int)≤q:=by omega
 refine az Tryz.func149 Tryz.ntmps149 rfl ?_
 have zx2:=aD;have zx3:=aD;repeat' (first|refine zqN ?_|refine eG h.down ?_|refine dx ?_|refine dz ?_|(refine dA ?_ ?_<;>intro hc<;>try exact zqM))
 all_goals first
  |((refine Ends.mk2 zqI [] ?_;simp-dsimp(disch:=try exact vD) only[push_cast,simprocAttr,Tryz.f149];try exact zqF);done)
  |skip
theorem Qm{x:Sh} {L1 L2:List AV}(g0:K[0]? =some (.isl false L1 1))(g1:K[1]? =some (.isl false L2 n))(h1:ACall Tryz.prog 149 [.isl false L1 1,.val (.int .u16 (U x.a))] [] 0 (.val (.bool true)) [])(h2:ACall Tryz.prog 149 [.isl false L2 n,.val (.int .u16 (U x.b))] [] 0 (.val (.bool true)) []):
 ACall Tryz.prog 148 [.agg (aa.cells x),.ipt [.ipt K 0] 0] [] 0 (.val (.bool false)) []:=by
 have h1:=PLift.up h1;have h2:=PLift.up h2
 rw[Ed]
 refine az Tryz.func148 Tryz.ntmps148 rfl ?_
 repeat' (first|apply bZ|apply aB|((first|refine ax rfl (fun K hK=>?_)|refine ak (fun K hK=>?_)|refine aJ (fun K hK=>?_));(first|refine ah (f:=149) (dst:=some 10) [] 0 false ?_|refine ah (f:=149) (dst:=some 19) [] 0 false ?_);simp-dsimp(disch:=try exact vD) only[push_cast,simprocAttr,g0,g1];(repeat refine aI ?_);intro G hG;refine hG _ _ ?_;clear hG G;(first|refine⟨_,_,h1.down,?_⟩|refine⟨_,_,h2.down,?_⟩);simp-dsimp(disch:=try exact vD) only[push_cast,simprocAttr,g0,g1];(repeat refine aI ?_);apply hK;clear hK K)|((first|refine ax rfl (fun K hK=>?_)|refine ak (fun K hK=>?_)|refine aJ (fun K hK=>?_));(first|apply bM|apply aR|apply bU|apply aO|apply dF|apply fu|apply fw|apply fM|apply fO|apply eY);simp-dsimp(disch:=try exact vD) only[push_cast,simprocAttr,g0,g1];(repeat refine aI ?_);apply hK;clear hK K)|((first|refine aK rfl rfl (fun K1 K2 h1 h2=>?_) rfl|refine aF (fun K1 K2 h1 h2=>?_)|refine cO rfl rfl (fun K1 K2 h1 h2=>?_));simp-dsimp(disch:=try exact vD) only[push_cast,simprocAttr,g0,g1];(first|(refine⟨fun hc=>?_,fun hc=>?_⟩<;>first|(exfalso;omega)|(exfalso;contradiction)|refine h1 ?_|refine h2 ?_)|refine h1 ?_|refine h2 ?_);all_goals clear h1 h2 K1 K2)|(refine dw (id:=1) (by kernel_rfl) [⟨0,[],[8,9],[],[],0⟩,⟨1,[0],[8,9],[],[],0⟩,⟨2,[0,1],[8,9],[],[],0⟩,⟨3,[0,1,2],[8,9],[],[],0⟩,⟨4,[],[4,5,6,7],[],[],0⟩,⟨5,[4],[4,5,6,7],[],[],0⟩,⟨6,[0,1,2,3,4,5],[],[],[],0⟩,⟨7,[0,1,2,3,4,5,6],[],[],[],0⟩,⟨8,[0,1,2,3,4,5,6,7],[],[],[],0⟩,⟨9,[0,1,2,3,4,5,6,7,8],[17,18],[],[],0⟩,⟨10,[0,1,2,3,4,5,6,7,8,9],[17,18],[],[],0⟩,⟨11,[0,1,2,3,4,5,6,7,8,9,10],[17,18],[],[],0⟩,⟨12,[0,1,2,3,4,5,6,7,8,9,10,11],[17,18],[],[],0⟩,⟨13,[0,1,2,3,4,5,6,7,8],[13,14,15,16],[],[],0⟩,⟨14,[0,1,2,3,4,5,6,7,8,13],[13,14,15,16],[],[],0⟩,⟨15,[0,1,2,3,4,5,6,7,8,9,10,11,12,13,14],[],[],[],0⟩,⟨16,[0,1,2,3,4,5,6,7,8,9,10,11,12,13,14,15],[],[],[],0⟩,⟨17,[0,1,2,3,4,5,6,7,8,9,10,11,12,13,14,15,16],[],[],[],0⟩,⟨18,[0,1,2,3,4,5,6,7,8,9,10,11,12,13,14,15,16,17],[],[],[],0⟩] (by kernel_rfl) (by kernel_rfl) (by kernel_rfl) ?_)|((first|refine iP (by kernel_rfl) (fun K hK=>?_)|refine kI (by kernel_rfl) (fun K hK=>?_));simp only[↓Go.Sy.fH,↓Go.Sy.fI,↓Go.Sy.ig,↓Go.Sy.fJ,↓Go.Sy.ik,↓Go.Sy.eT,↓Go.Sy.fK,push_cast,Nat.reduceLeDiff,Nat.reduceSub,Nat.reduceBEq,Nat.reduceEqDiff,Nat.reduceAdd,Nat.reduceLT,↓reduceIte,reduceCtorEq];refine hK _ _ _ ?_;clear hK K)|apply pY|apply cu|apply aL|apply bH|apply aX|apply aM|apply bI|apply aY|(refine aQ rfl ?_)|apply aZ|apply bG|apply bF|apply bY)
 all_goals first
  |((refine Ends.mk2 (by first|exact .inr rfl|exact .inl rfl) [] ?_;simp-dsimp(disch:=try exact vD) only[push_cast,simprocAttr,Tryz.f148];try exact zqF);done)
  |skip
def ihI(K:List AV)(ss:List Sh)(n:Nat)(j:{j:Nat // j≤n}):St:=
 ⟨19,0,[(0,.isl false (cR ss) n),(1,.fn 148 [.ipt [.ipt K 0] 0]),(7,.val (.int .i64 n)),(8,.val (.int .i64 j.val))],[]⟩
theorem Lv(hl:ss.length=n)(hn:n≤1000)(hf:∀j,j<n→ACall Tryz.prog 148 [.agg (aa.cells (ss.getD j default)),.ipt [.ipt K 0] 0] [] 0 (.val (.bool false)) []):ACall Tryz.prog 193 [.isl false (cR ss) n,.fn 148 [.ipt [.ipt K 0] 0]] [] 0 (.val (.int .i64 (-1))) []:=by
 have hq:=fun(j:Nat) (h:j<n)=>PLift.up (hf j h)
 clear hf
 refine az Tryz.func193 Tryz.ntmps193 rfl ?_
 repeat' (first|(refine ai ?_;refine au [] ([].length) (ihI K ss n) (fun j=>n-j.val) (⟨0,by omega⟩) rfl (by unfold ihI;exact nU) ?_;(rintro⟨j,hj⟩;rcases Nat.lt_or_eq_of_le hj with hjl|hjl<;>first|(subst hjl;(simp-dsimp only[ihI];refine zqS ?_))|(simp-dsimp only[ihI];refine zqS ?_)))|(refine aj ?_;refine Nxt.mk [] (⟨j+1,by omega⟩) rfl (by unfold ihI;exact nU) zqO)|refine zqN ?_|((first|refine ax rfl (fun K hK=>?_)|refine ak (fun K hK=>?_));(first|refine jG (f:=148) [] 0 false ?_);refine nG ?_;(first|refine⟨_,_,(hq j (by omega)).down,?_⟩);refine j5 ?_;apply hK;clear hK K)|refine bA ?_|refine bB ?_|(refine bC ?_ ?_<;>intro hc<;>try exact zqM))
 all_goals first
  |((refine Ends.mk2 zqI [] ?_;simp-dsimp(disch:=try exact vD) only[push_cast,simprocAttr,Tryz.f193];try exact zqF);done)
  |skip
theorem GN(hl:ss.length=n)(hn:n≤1000)(hf:∀j,j<n→ACall Tryz.prog 148 [.agg (aa.cells (ss.getD j default)),.ipt [.ipt K 0] 0] [] 0 (.val (.bool false)) []):ACall Tryz.prog 147 [.isl false (cR ss) n,.fn 148 [.ipt [.ipt K 0] 0]] [] 0 (.val (.bool false)) []:=by
 have h:=PLift.up (Lv hl hn hf)
 clear hf
 refine az Tryz.func147 Tryz.ntmps147 rfl ?_
 repeat' (first|refine zqN ?_|refine aT h.down ?_|refine bA ?_|refine bB ?_|(refine bC ?_ ?_<;>intro hc<;>try exact zqM))
 all_goals first
  |((refine Ends.mk2 zqI [] ?_;simp-dsimp(disch:=try exact vD) only[push_cast,simprocAttr,Tryz.f147];try exact zqF);done)
  |skip
abbrev r4(V:RV):List AV:=[.val (.bool V.num.neg),.isl V.num.z (cI .u32 V.num.l) V.num.l.length,.val (.bool V.den.neg),.isl V.den.z (cI .u32 V.den.l) V.den.l.length]
def ofI(K:List AV)(ss:List Sh)(n:Nat)(cap:List RV)(cz:Bool)(m:Nat)(O:Nat→RV)(i:{i:Nat // i≤m}):St:=
 ⟨94,0,[(1,.isl false (cR ss) n),(2,.pt 0 0),(4,.pt 1 0),(7,.pt 2 0),(30,.isl cz (cR cap) m),(31,.val (.int .i64 m)),(32,.val (.int .i64 i.val))],[(0,some (.cells [.ipt K 0] 157)),(1,some (.cells [.val (.bool false),.isl true [] 0,.val (.bool false),.isl true [] 0] 60)),(2,some (.cells (r4 (O i.val)) 60))]⟩
def Qn(K:List AV)(ss:List Sh)(n:Nat)(cap:List RV)(cz:Bool)(m:Nat)(O:Nat→RV)(C:RV)(S:Nat→RV)(i:Nat)(j:{j:Nat // j≤n}):St:=
 ⟨94,0,[(1,.isl false (cR ss) n),(2,.pt 0 0),(4,.pt 1 0),(7,.pt 2 0),(8,.val (.int .i64 i)),(9,.pt 3 0),(10,.pt 4 0),(30,.isl cz (cR cap) m),(31,.val (.int .i64 m)),(32,.val (.int .i64 i)),(38,.isl false (cR ss) n),(39,.val (.int .i64 n)),(40,.val (.int .i64 j.val))],
   [(0,some (.cells [.ipt K 0] 157)),(1,some (.cells [.val (.bool false),.isl true [] 0,.val (.bool false),.isl true [] 0] 60)),(2,some (.cells (r4 (O i)) 60)),(3,some (.cells (r4 C) 60)),(4,some (jR (S j.val)))]⟩
theorem Qo{S:Nat→Nat→RV} {O:Nat→RV} {wv:Nat→Nat→RV} {ld:Nat→RV} {cm:Nat→Int}(hl:ss.length=n)(hn:n≤1000)(hcl:cap.length=m)(hm:m≤1000)(g4:K[10]? =some (.isl cz (cR cap) m))(hO:O 0=ZERO)(hc0:ACall Tryz.prog 147 [.isl false (cR ss) n,.fn 148 [.ipt [.ipt K 0] 0]] [] 0 (.val (.bool false)) [])
 (hpa:ACall Tryz.prog 150 [.isl false (cR ss) n] [] 0 (.val (.int .i64 0)) []) (w0:ACall Tryz.prog 97 [.val (.int .i64 0)] [] 0 (.agg (aa.cells ZERO)) []) (hS:∀i,i<m→ACall Tryz.prog 151 [] [] 0 (.pt 0 0) [jR (S i 0)])
 (hw:∀i j,i<m→j<n→ACall Tryz.prog 153 [.ipt K 0,.val (.int .u16 (U (ss.getD j default).a)),.val (.int .u16 (U (ss.getD j default).b)),.val (.int .i64 i)] [] 0 (.agg (aa.cells (wv i j))) []) (ht:∀i j,i<m→j<n→ACall Tryz.prog 152 [.pt 0 0,.agg (aa.cells (ss.getD j default).p),.agg (aa.cells (wv i j))] [jR (S i j)] 1 (.tup []) [jR (S i (j+1))])
 (hd:∀i,i<m→ACall Tryz.prog 96 [.agg (aa.cells (S i n)),.agg (aa.cells (cap.getD i default))] [] 0 (.tup [.agg (aa.cells (ld i)),.val (.int .i64 0)]) []) (hc:∀i,i<m→ACall Tryz.prog 141 [.agg (aa.cells (ld i)),.agg (aa.cells (O i))] [] 0 (.tup [.val (.int .i64 (cm i)),.val (.int .i64 0)]) [])
 (s1:∀i,i<m→0<cm i→O (i+1)=ld i) (s2:∀i,i<m→¬0<cm i→O (i+1)=O i):
 ACall Tryz.prog 104 [.ipt K 0,.isl false (cR ss) n] [] 0 (.tup [.agg (aa.cells (O m)),.val (.int .i64 0)]) []:=by
 have hc0:=PLift.up hc0;have hpa:=PLift.up hpa;have w0:=PLift.up w0
 have hSq:=fun(i:Nat) (h:i<m)=>PLift.up (hS i h);have hwq:=fun(i j:Nat) (h:i<m) (h2:j<n)=>PLift.up (hw i j h h2);have htq:=fun(i j:Nat) (h:i<m) (h2:j<n)=>PLift.up (ht i j h h2);have hdq:=fun(i:Nat) (h:i<m)=>PLift.up (hd i h);have hcq:=fun(i:Nat) (h:i<m)=>PLift.up (hc i h)
 clear hS hw ht hd hc
 rw[ay ZERO] at w0
 rw[ay (O m)]
 have hSi:=ae;have hwi:=ae;have hti:=ae;have hdi:=ae;have hci:=ae;have zx3:=ae;have zx4:=ae
 unfold jR at*
 refine az Tryz.func104 Tryz.ntmps104 rfl ?_
 have zx1:= @g4;have zx2:= @hO;have zx5:=aD;have zx6:=aD;repeat' (first|(refine ai ?_;refine au [0,1,2,3,4] ([0,1,2,3,4].length) (Qn K ss n cap cz m O (cap.getD i default) (S i) i) (fun j=>n-j.val) (⟨0,by omega⟩) rfl (by unfold Qn;exact gG) ?_;(rintro⟨j,hj⟩;rcases Nat.lt_or_eq_of_le hj with hjl|hjl<;>first|(subst hjl;(simp-dsimp only[Qn];refine zqS ?_))|(have hwi:=hwq i j hil hjl;have hti:=htq i j hil hjl;(simp-dsimp only[Qn];refine zqS ?_))))|(refine aj ?_;refine Nxt.mk [0,1,2,3,4] (⟨j+1,by omega⟩) rfl (by unfold Qn;exact gG) zqO)|(refine ai ?_;refine au [0,1,2] ([0,1,2].length) (ofI K ss n cap cz m O) (fun i=>m-i.val) (⟨0,by omega⟩) rfl (by unfold ofI;exact gG) ?_;(rintro⟨i,hi⟩;rcases Nat.lt_or_eq_of_le hi with hil|hil<;>first|(subst hil;(simp-dsimp only[ofI];refine zqS ?_))|(have hSi:=hSq i hil;have hdi:=hdq i hil;have hci:=hcq i hil;rcases Decidable.em (0<cm i) with zx3|zx3<;>first|(have zx4:=s1 i hil zx3;(simp-dsimp only[ofI];refine zqS ?_))|(have zx4:=s2 i hil zx3;(simp-dsimp only[ofI];refine zqS ?_)))))|(refine aj ?_;refine Nxt.mk [0,1,2] (⟨i+1,by omega⟩) rfl (by unfold ofI;(try simp only[List.cons_append,List.nil_append]);refine Sub.mk2 ?_;(simp-dsimp(disch:=try exact vD) only[push_cast,simprocAttr,g4,hO,zx3,zx4,zx4]);(repeat refine aI ?_);first|done|exact vI) zqO)|refine zqN ?_|((first|refine ax rfl (fun K hK=>?_)|refine ak (fun K hK=>?_)|refine aJ (fun K hK=>?_));(first|refine ah (f:=147) [] 0 true ?_|refine ah (f:=150) [] 0 false ?_|refine ah (f:=97) [] 0 false ?_|refine ah (f:=151) [] 0 false ?_|refine ah (f:=153) [] 0 false ?_|refine ah (f:=152) [4] 1 false ?_|refine ah (f:=96) [] 0 false ?_|refine ah (f:=141) [] 0 false ?_);refine CR ?_;(first|refine⟨_,_,hc0.down,?_⟩|refine⟨_,_,hpa.down,?_⟩|refine⟨_,_,w0.down,?_⟩|refine⟨_,_,hSi.down,?_⟩|refine⟨_,_,hwi.down,?_⟩|refine⟨_,_,hti.down,?_⟩|refine⟨_,_,hdi.down,?_⟩|refine⟨_,_,hci.down,?_⟩);refine rH ?_;apply hK;clear hK K)|refine adH ?_|refine l7 ?_|(refine l8 ?_ ?_<;>intro hc<;>try exact zqM)|refine zqR 14 [⟨0,[],[45,46,47,48,49,50,51,52,53],[],[],0⟩,⟨1,[],[44,47,48,49,50,51,52,53],[],[],0⟩,⟨2,[1],[44,47,48,49,50,51,52,53],[],[],0⟩,⟨3,[],[44,45,46,48,49,50,51,52],[],[],0⟩,⟨4,[],[44,45,46,47,50,51,52],[],[],0⟩,⟨5,[4],[44,45,46,47,50,51,52],[],[],0⟩,⟨6,[],[44,45,46,47,48,49,52],[],[],0⟩,⟨7,[6],[44,45,46,47,48,49,52],[],[],0⟩,⟨8,[],[44,45,46,47,48,49,50,51],[],[],0⟩,⟨9,[3,4,5,6,7,8],[44,45,46],[],[],0⟩,⟨10,[0,1,2,3,4,5,6,7,8,9],[],[],[2],0⟩] ?_|refine zqR 17 [⟨0,[],[62,63,64,65],[],[],0⟩,⟨1,[],[61],[2],[],0⟩,⟨2,[1],[61],[2],[],0⟩,⟨3,[1,2],[61],[2],[],0⟩,⟨4,[1,2,3],[61],[2],[],0⟩,⟨5,[0],[62,63,64,65],[],[2],0⟩,⟨6,[0,1,2,3,4,5],[],[],[],0⟩] ?_|refine zqR 18 [⟨0,[],[13,71],[],[],0⟩,⟨1,[0],[13,71],[],[],0⟩,⟨2,[0,1],[13,71],[],[],0⟩,⟨3,[0,1,2],[13,71],[],[],0⟩,⟨4,[],[13,67,68,69,70],[],[],0⟩,⟨5,[0,1,2,3,4],[13],[],[],0⟩,⟨6,[0,1,2,3,4,5],[13],[],[],0⟩,⟨7,[0,1,2,3,4,5,6],[13,74],[],[],0⟩,⟨8,[0,1,2,3,4,5,6],[13,73],[2],[],0⟩,⟨9,[],[66,67,68,69,70,71,72,73,74],[],[],1⟩,⟨10,[0,1,2,3,4,5,6,7,9],[74],[],[2],0⟩,⟨11,[0,1,2,3,4,5,6,7,8,9,10],[],[],[],0⟩] ?_|refine zqD ?_|fail)
 all_goals first
  |((refine Ends.mk2 zqI [] ?_;simp-dsimp(disch:=try exact vD) only[push_cast,simprocAttr,Tryz.f104];try exact zqF);done)
  |skip
end Go.Proofs.YtgmpdplpodemaaaGreatDoor
namespace Go.Proofs.YtgmpdplpodemaaaGreatDoor
open Go Go.Sy Go.Bp Go.Lm Go.Rt
attribute [local irreducible] AO AL AC OpT ACall Ends DGo aN Thn Blk Nxt
variable {n N M k i m j r a H:Nat} {z z' cz:Bool} {v c e:Int} {X Y W F R ZERO ONE LD:RV} {wr:List Nat} {cap xs ys:List RV} {K:List AV} {ss:List Sh} {P:List Pr}
def odI(K:List AV)(ss:List Sh)(n:Nat)(P:List Pr)(H:Nat)(l:Nat→Int)(i:{i:Nat // i≤n}):St:=
 ⟨43,0,[(5,.isl false (cR P) H),(6,.val (.int .i64 (l i.val))),(12,.isl false (cR ss) n),(13,.val (.int .i64 n)),(14,.val (.int .i64 i.val))],[]⟩
theorem BI{l:Nat→Int} {cm:Nat→Int}(hl:ss.length=n)(hn:n≤1000)(hP:P.length=H)(hH:0<H)(hpr:ACall Tryz.prog 98 [.ipt K 0] [] 0 (.sl 0 0 H 2) [.cells (cR P) 164])(h0:l 0= -1)(hix:∀i,i<n→ACall Tryz.prog 146 [.isl false (cR P) H,.agg [.val (.int .u16 (U (ss.getD i default).a)),.val (.int .u16 (U (ss.getD i default).b))]] [] 0 (.val (.int .i64 (l (i+1)))) [])
 (hup:∀i,i<n→¬l (i+1)≤l i) (hv:∀i,i<n→ACall Tryz.prog 102 [.agg (aa.cells (ss.getD i default).p)] [] 0 (.val (.bool true)) []) (w0:ACall Tryz.prog 97 [.val (.int .i64 0)] [] 0 (.agg (aa.cells ZERO)) []) (hc:∀i,i<n→ACall Tryz.prog 100 [.agg (aa.cells (ss.getD i default).p),.agg (aa.cells ZERO)] [] 0 (.val (.int .i64 (cm i))) []) (hcm:∀i,i<n→¬cm i≤0):
 ACall Tryz.prog 103 [.ipt K 0,.isl false (cR ss) n] [] 0 (.val (.bool true)) []:=by
 have hpr:=PLift.up hpr;have w0:=PLift.up w0
 have hiq:=fun(i:Nat) (h:i<n)=>PLift.up (hix i h);have hvq:=fun(i:Nat) (h:i<n)=>PLift.up (hv i h);have hcq:=fun(i:Nat) (h:i<n)=>PLift.up (hc i h)
 clear hix hv hc
 rw[ay ZERO] at w0
 have zx2:(cR P).take (H*2)=cR P:=List.take_of_length_le (by rw[fT,hP];exact Nat.le_refl _)
 have hii:=ae;have hvi:=ae;have hci:=ae;have zx3:=ae;have zx4:=ae
 refine az Tryz.func103 Tryz.ntmps103 rfl ?_
 have zx1:= @h0;have zx5:=aD;have zx6:=aD;repeat' (first|((first|refine dP (r:=2) 0 ?_|refine dO (r:=2) 0 ?_);refine rH ?_;intro K hK;refine hK _ _ ?_;clear hK K)|(refine ai ?_;refine au [] ([].length) (odI K ss n P H l) (fun i=>n-i.val) (⟨0,by omega⟩) rfl (by unfold odI;exact gG) ?_;(rintro⟨i,hi⟩;rcases Nat.lt_or_eq_of_le hi with hil|hil<;>first|(have eQ:=hil.symm;subst eQ;(simp-dsimp only[odI];refine zqS ?_))|(have hii:=hiq i hil;have hvi:=hvq i hil;have hci:=hcq i hil;have zx3:=hup i hil;have zx4:=hcm i hil;rw[ay ZERO] at hci;(simp-dsimp only[odI];refine zqS ?_))))|(refine aj ?_;refine Nxt.mk [] (⟨i+1,by omega⟩) rfl (by unfold odI;exact gG) zqO)|refine zqN ?_|refine qC hpr.down ?_|refine qC hii.down ?_|refine qC hvi.down ?_|refine qC w0.down ?_|refine qC hci.down ?_|refine adH ?_|refine l7 ?_|(refine l8 ?_ ?_<;>intro hc<;>try exact zqM)|refine zqR 7 [⟨0,[],[26],[],[],0⟩,⟨1,[],[25],[],[],0⟩,⟨2,[0,1],[],[],[],0⟩,⟨3,[0,1,2],[],[],[],0⟩,⟨4,[0,1,2,3],[],[],[],0⟩,⟨5,[0,1,2,3,4],[],[],[],0⟩,⟨6,[0,1,2,3,4,5],[],[],[],0⟩,⟨7,[0,1,2,3,4,5,6],[],[],[],0⟩,⟨8,[0,1,2,3,4,5,6,7],[],[],[],0⟩,⟨9,[0,1,2,3,4,5,6,7,8],[],[],[],0⟩,⟨10,[0,1,2,3,4,5,6,7,8,9],[37],[],[],0⟩,⟨11,[0,1,2,3,4,5,6,7,8,9,10],[37],[],[],0⟩,⟨12,[0,1,2,3,4,5,6,7,8,9],[35,36],[],[],0⟩,⟨13,[0,1,2,3,4,5,6,7,8,9,10,11,12],[],[],[],0⟩,⟨14,[0,1,2,3,4,5,6,7,8,9,10,11,12,13],[],[],[],0⟩,⟨15,[0,1,2,3,4,5,6,7,8,9,10,11,12,13,14],[],[],[],0⟩] ?_|refine zqD ?_|fail)
 all_goals first
  |((refine Ends.mk2 zqI [] ?_;simp-dsimp(disch:=try exact vD) only[push_cast,simprocAttr,Tryz.f103];try exact zqF);done)
  |skip
def dtI(z z':Bool)(xs ys:List RV)(n:Nat)(i:{i:Nat // i≤n}):St:=
 ⟨73,0,[(0,.isl z (cR xs) n),(1,.isl z' (cR ys) n),(4,.pt 0 0),(18,.val (.int .i64 n)),(19,.val (.int .i64 i.val))],[(0,some (.cells [.val (.bool false),.isl true [] 0,.val (.bool false),.isl true [] 0] 60))]⟩
def dtJ(z z':Bool)(xs ys:List RV)(n:Nat)(S:Nat→RV)(i:{i:Nat // i≤n}):St:=
 ⟨73,0,[(0,.isl z (cR xs) n),(1,.isl z' (cR ys) n),(4,.pt 0 0),(7,.pt 1 0),(41,.val (.int .i64 n)),(42,.val (.int .i64 i.val))],[(0,some (.cells [.val (.bool false),.isl true [] 0,.val (.bool false),.isl true [] 0] 60)),(1,some (.cells (r4 (S i.val)) 60))]⟩
theorem Qp{S q:Nat→RV} {A:IV}(hl:xs.length=n)(hl2:ys.length=n)(hn:n≤1000)(hv:∀i,i<n→ACall Tryz.prog 102 [.agg (aa.cells (xs.getD i default))] [] 0 (.val (.bool true)) [])(hv2:∀i,i<n→ACall Tryz.prog 102 [.agg (aa.cells (ys.getD i default))] [] 0 (.val (.bool true)) [])
 (ho:ACall Tryz.prog 145 [] [] 0 (.agg (aa.cells A)) []) (h0:S 0=⟨⟨true,false,[]⟩,A⟩) (hm:∀i,i<n→ACall Tryz.prog 99 [.agg (aa.cells (xs.getD i default)),.agg (aa.cells (ys.getD i default))] [] 0 (.tup [.agg (aa.cells (q i)),.val (.int .i64 0)]) [])
 (ha:∀i,i<n→ACall Tryz.prog 196 [.agg (aa.cells (S i)),.agg (aa.cells (q i))] [] 0 (.tup [.agg (aa.cells (S (i+1))),.val (.int .i64 0)]) []):ACall Tryz.prog 155 [.isl z (cR xs) n,.isl z' (cR ys) n] [] 0 (.tup [.agg (aa.cells (S n)),.val (.int .i64 0)]) []:=by
 have ho:=PLift.up ho
 have hvq:=fun(i:Nat) (h:i<n)=>PLift.up (hv i h);have hvr:=fun(i:Nat) (h:i<n)=>PLift.up (hv2 i h);have hmq:=fun(i:Nat) (h:i<n)=>PLift.up (hm i h);have haq:=fun(i:Nat) (h:i<n)=>PLift.up (ha i h)
 clear hv hv2 hm ha
 rw[ay (S n)]
 have hvi:=ae;have hvj:=ae;have hmi:=ae;have hai:=ae
 refine az Tryz.func155 Tryz.ntmps155 rfl ?_
 have zx1:= @h0;have zx2:=aD;have zx3:=aD;repeat' (first|(refine ai ?_;refine au [0] ([0].length) (dtI z z' xs ys n) (fun i=>n-i.val) (⟨0,by omega⟩) rfl (by unfold dtI;exact eH) ?_;(rintro⟨i,hi⟩;rcases Nat.lt_or_eq_of_le hi with hil|hil<;>first|(have eQ:=hil.symm;subst eQ;(simp-dsimp only[dtI];refine zqS ?_))|(have hvi:=hvq i hil;have hvj:=hvr i hil;(simp-dsimp only[dtI];refine zqS ?_))))|(refine aj ?_;refine Nxt.mk [0] (⟨i+1,by omega⟩) rfl (by unfold dtI;exact eH) zqO)|(refine ai ?_;refine au [0,1] ([0,1].length) (dtJ z z' xs ys n S) (fun i=>n-i.val) (⟨0,by omega⟩) rfl (by unfold dtJ;exact eH) ?_;(rintro⟨i,hi⟩;rcases Nat.lt_or_eq_of_le hi with hil|hil<;>first|(have eQ:=hil.symm;subst eQ;(simp-dsimp only[dtJ];refine zqS ?_))|(have hmi:=hmq i hil;have hai:=haq i hil;(simp-dsimp only[dtJ];refine zqS ?_))))|(refine aj ?_;refine Nxt.mk [0,1] (⟨i+1,by omega⟩) rfl (by unfold dtJ;exact eH) zqO)|refine zqN ?_|refine eG hvi.down ?_|refine eG hvj.down ?_|refine eG ho.down ?_|refine eG hmi.down ?_|refine eG hai.down ?_|refine dx ?_|refine dz ?_|(refine dA ?_ ?_<;>intro hc<;>try exact zqM)|refine zqR 13 [⟨0,[],[9,47,50,51,52,53],[],[],0⟩,⟨1,[],[9,46,50,51,52,53],[],[],0⟩,⟨2,[0,1],[9,50,51,52,53],[],[],0⟩,⟨3,[0,1,2],[9,50,51,52,53],[],[],0⟩,⟨4,[],[9,46,47,48,49,51],[],[],0⟩,⟨5,[],[9,46,47,48,49,50],[],[],0⟩,⟨6,[4,5],[9,46,47,48,49],[],[],0⟩,⟨7,[4,5,6],[9,46,47,48,49],[],[],0⟩,⟨8,[0,1,2,3,4,5,6,7],[9],[],[],0⟩,⟨9,[0,1,2,3,4,5,6,7,8],[9],[],[],0⟩,⟨10,[0,1,2,3,4,5,6,7,8,9],[9,56],[],[],0⟩,⟨11,[0,1,2,3,4,5,6,7,8,9],[9,55],[2],[],0⟩,⟨12,[],[45,46,47,48,49,50,51,52,53,54,55,56],[],[],1⟩,⟨13,[0,1,2,3,4,5,6,7,8,9,10,12],[56],[],[2],0⟩,⟨14,[0,1,2,3,4,5,6,7,8,9,10,11,12,13],[],[],[],0⟩] ?_|refine zqD ?_|fail)
 all_goals first
  |((refine Ends.mk2 zqI [] ?_;simp-dsimp(disch:=try exact vD) only[push_cast,simprocAttr,Tryz.f155];try exact zqF);done)
  |skip
theorem BJ(hc:¬c<0)(hv:ACall Tryz.prog 102 [.agg (aa.cells X)] [] 0 (.val (.bool true)) [])(w0:ACall Tryz.prog 97 [.val (.int .i64 0)] [] 0 (.agg (aa.cells ZERO)) [])(h:ACall Tryz.prog 100 [.agg (aa.cells X),.agg (aa.cells ZERO)] [] 0 (.val (.int .i64 c)) []):
 ACall Tryz.prog 154 [.agg (aa.cells X)] [] 0 (.val (.bool false)) []:=by
 have hv:=PLift.up hv;have w0:=PLift.up w0;have h:=PLift.up h
 rw[ay X] at*
 rw[ay ZERO] at*
 refine az Tryz.func154 Tryz.ntmps154 rfl ?_
 have zx1:= @hc;have zx2:=aD;have zx3:=aD;repeat' (first|refine zqN ?_|refine eG hv.down ?_|refine eG w0.down ?_|refine eG h.down ?_|refine dx ?_|refine dz ?_|(refine dA ?_ ?_<;>intro hc<;>try exact zqM)|refine zqR 1 [⟨0,[],[],[],[],0⟩,⟨1,[0],[],[],[],0⟩,⟨2,[0,1],[],[],[],0⟩,⟨3,[0,1,2],[],[],[],0⟩,⟨4,[0,1,2,3],[8],[],[],0⟩,⟨5,[0,1,2,3],[7],[],[],0⟩,⟨6,[0,1,2,3,4,5],[],[],[],0⟩,⟨7,[0,1,2,3,4,5,6],[],[],[],0⟩,⟨8,[0,1,2,3,4,5,6,7],[],[],[],0⟩,⟨9,[0,1,2,3,4,5,6,7,8],[],[],[],0⟩] ?_|refine zqD ?_|fail)
 all_goals first
  |((refine Ends.mk2 zqI [] ?_;simp-dsimp(disch:=try exact vD) only[push_cast,simprocAttr,Tryz.f154];try exact zqF);done)
  |skip
def pvI(K:List AV)(ys:List RV)(m:Nat)(LD:RV)(P:List Pr)(n:Nat)(i:{i:Nat // i≤n}):St:=
 ⟨84,0,[(0,.ipt K 0),(2,.isl false (cR ys) m),(4,.pt 0 0),(44,.sl 1 0 n 2),(45,.val (.int .i64 n)),(46,.val (.int .i64 i.val))],[(0,some (.cells (r4 LD) 60)),(1,some (.cells (cR P) 164))]⟩
def pvJ(K:List AV)(ys:List RV)(m:Nat)(LD:RV)(P:List Pr)(n:Nat)(S:Nat→RV)(i:Nat)(x:Pr)(j:{j:Nat // j≤m}):St:=
 ⟨84,0,[(0,.ipt K 0),(2,.isl false (cR ys) m),(4,.pt 0 0),(10,.pt 2 0),(11,.pt 3 0),(44,.sl 1 0 n 2),(45,.val (.int .i64 n)),(46,.val (.int .i64 i)),(51,.isl false (cR ys) m),(52,.val (.int .i64 m)),(53,.val (.int .i64 j.val))],
   [(0,some (.cells (r4 LD) 60)),(1,some (.cells (cR P) 164)),(2,some (.cells [.val (.int .u16 (U x.a)),.val (.int .u16 (U x.b))] 164)),(3,some (jR (S j.val)))]⟩
theorem Ee{S:Nat→Nat→RV} {D:RV} {wv:Nat→Nat→RV}(hl:ys.length=m)(hcl:cap.length=m)(hm:m≤1000)(hP:P.length=n)(hn:n≤1000)(h0:0<n)(g4:K[10]? =some (.isl cz (cR cap) m))(hc:ACall Tryz.prog 134 [.isl false (cR ys) m,.fn 154 []] [] 0 (.val (.bool false)) [])(hd:ACall Tryz.prog 155 [.isl false (cR ys) m,.isl cz (cR cap) m] [] 0 (.tup [.agg (aa.cells D),.val (.int .i64 0)]) [])
 (w1:ACall Tryz.prog 97 [.val (.int .i64 1)] [] 0 (.agg (aa.cells ONE)) []) (hc1:ACall Tryz.prog 100 [.agg (aa.cells D),.agg (aa.cells ONE)] [] 0 (.val (.int .i64 0)) []) (hpr:ACall Tryz.prog 98 [.ipt K 0] [] 0 (.sl 0 0 n 2) [.cells (cR P) 164]) (hS:∀i,i<n→ACall Tryz.prog 151 [] [] 0 (.pt 0 0) [jR (S i 0)])
 (hw:∀i j,i<n→j<m→ACall Tryz.prog 153 [.ipt K 0,.val (.int .u16 (U (P.getD i default).a)),.val (.int .u16 (U (P.getD i default).b)),.val (.int .i64 j)] [] 0 (.agg (aa.cells (wv i j))) []) (ht:∀i j,i<n→j<m→ACall Tryz.prog 152 [.pt 0 0,.agg (aa.cells (ys.getD j default)),.agg (aa.cells (wv i j))] [jR (S i j)] 1 (.tup []) [jR (S i (j+1))])
 (hle:∀i,i<n→ACall Tryz.prog 105 [.agg (aa.cells (S i m)),.agg (aa.cells LD)] [] 0 (.val (.bool true)) []):ACall Tryz.prog 106 [.ipt K 0,.agg (aa.cells LD),.isl false (cR ys) m] [] 0 (.val (.bool true)) []:=by
 have hc:=PLift.up hc;have hd:=PLift.up hd;have w1:=PLift.up w1;have hc1:=PLift.up hc1;have hpr:=PLift.up hpr
 have hSq:=fun(i:Nat) (h:i<n)=>PLift.up (hS i h);have hwq:=fun(i j:Nat) (h:i<n) (h2:j<m)=>PLift.up (hw i j h h2);have htq:=fun(i j:Nat) (h:i<n) (h2:j<m)=>PLift.up (ht i j h h2);have hlq:=fun(i:Nat) (h:i<n)=>PLift.up (hle i h)
 clear hS hw ht hle
 rw[ay ONE] at w1 hc1
 rw[ay D] at hd hc1
 rw[ay LD]
 have zx2:(cR P).take (n*2)=cR P:=List.take_of_length_le (by rw[fT,hP];exact Nat.le_refl _)
 have hSi:=ae;have hwi:=ae;have hti:=ae;have hli:=ae
 unfold jR at*
 refine az Tryz.func106 Tryz.ntmps106 rfl ?_
 have zx1:= @g4;have zx3:=aD;repeat' (first|(refine ai ?_;refine au [0,1,2,3] ([0,1,2,3].length) (pvJ K ys m LD P n (S i) i (P.getD i default)) (fun j=>m-j.val) (⟨0,by omega⟩) rfl (by unfold pvJ;exact eH) ?_;(rintro⟨j,hj⟩;rcases Nat.lt_or_eq_of_le hj with hjl|hjl<;>first|(have eQ:=hjl.symm;subst eQ;(simp-dsimp only[pvJ];refine zqS ?_))|(have hwi:=hwq i j hil hjl;have hti:=htq i j hil hjl;(simp-dsimp only[pvJ];refine zqS ?_))))|(refine aj ?_;refine Nxt.mk [0,1,2,3] (⟨j+1,by omega⟩) rfl (by unfold pvJ;exact eH) zqO)|(refine ai ?_;refine au [0,2] ([0,2].length) (pvI K ys m LD P n) (fun i=>n-i.val) (⟨0,by omega⟩) rfl (by unfold pvI;exact eH) ?_;(rintro⟨i,hi⟩;rcases Nat.lt_or_eq_of_le hi with hil|hil<;>first|(have eQ:=hil.symm;subst eQ;(simp-dsimp only[pvI];refine zqS ?_))|(have hSi:=hSq i hil;have hli:=hlq i hil;rw[ay LD] at hli;(simp-dsimp only[pvI];refine zqS ?_))))|(refine aj ?_;refine Nxt.mk [0,1] (⟨i+1,by omega⟩) rfl (by unfold pvI;exact eH) zqO)|refine zqN ?_|((first|refine ax rfl (fun K hK=>?_)|refine ak (fun K hK=>?_)|refine aJ (fun K hK=>?_));(first|refine ah (f:=134) [] 0 false ?_|refine ah (f:=155) [] 0 false ?_|refine ah (f:=97) [] 0 false ?_|refine ah (f:=100) [] 0 false ?_|refine ah (f:=98) [] 0 false ?_|refine ah (f:=151) [] 0 false ?_|refine ah (f:=153) [] 0 false ?_|refine ah (f:=152) [3] 1 false ?_|refine ah (f:=105) [] 0 false ?_);refine Am ?_;(first|refine⟨_,_,hc.down,?_⟩|refine⟨_,_,hd.down,?_⟩|refine⟨_,_,w1.down,?_⟩|refine⟨_,_,hc1.down,?_⟩|refine⟨_,_,hpr.down,?_⟩|refine⟨_,_,hSi.down,?_⟩|refine⟨_,_,hwi.down,?_⟩|refine⟨_,_,hti.down,?_⟩|refine⟨_,_,hli.down,?_⟩);refine rG ?_;apply hK;clear hK K)|refine dx ?_|refine dz ?_|(refine dA ?_ ?_<;>intro hc<;>try exact zqM)|refine zqR 4 [⟨0,[],[],[],[],0⟩,⟨1,[0],[],[],[],0⟩,⟨2,[0,1],[],[],[],0⟩,⟨3,[0,1,2],[39],[],[],0⟩,⟨4,[0,1,2],[38],[],[],0⟩,⟨5,[0,1,2,3,4],[],[],[],0⟩,⟨6,[0,1,2,3,4,5],[],[],[],0⟩,⟨7,[0,1,2,3,4,5,6],[],[],[],0⟩] ?_|refine zqR 13 [⟨0,[],[59,60,61,62,63,64,65,66],[],[],0⟩,⟨1,[],[58,60,61,62,63,64,65,66],[],[],0⟩,⟨2,[],[58,59,61,62,63,64,65],[],[],0⟩,⟨3,[],[58,59,60,63,64,65],[],[],0⟩,⟨4,[3],[58,59,60,63,64,65],[],[],0⟩,⟨5,[],[58,59,60,61,62,65],[],[],0⟩,⟨6,[5],[58,59,60,61,62,65],[],[],0⟩,⟨7,[],[58,59,60,61,62,63,64],[],[],0⟩,⟨8,[2,3,4,5,6,7],[58,59],[],[],0⟩,⟨9,[0,1,2,3,4,5,6,7,8],[],[],[2],0⟩] ?_|refine zqR 15 [⟨0,[],[],[],[],0⟩,⟨1,[0],[],[],[],0⟩,⟨2,[0,1],[],[],[],0⟩,⟨3,[0,1,2],[],[],[],0⟩,⟨4,[0,1,2,3],[],[],[],0⟩,⟨5,[0,1,2,3,4],[],[],[],0⟩,⟨6,[0,1,2,3,4,5],[79],[],[],0⟩,⟨7,[0,1,2,3,4,5,6],[79],[],[],0⟩,⟨8,[0,1,2,3,4,5,6,7],[79],[],[],0⟩,⟨9,[0,1,2,3,4,5,6,7,8],[79],[],[],0⟩,⟨10,[0,1,2,3,4,5],[75,76,77,78],[],[],0⟩,⟨11,[0,1,2,3,4,5,6,7,8,9,10],[],[],[],0⟩,⟨12,[0,1,2,3,4,5,6,7,8,9,10,11],[],[],[],0⟩,⟨13,[0,1,2,3,4,5,6,7,8,9,10,11,12],[],[],[],0⟩] ?_|refine zqD ?_|fail)
 all_goals first
  |((refine Ends.mk2 zqI [] ?_;simp-dsimp(disch:=try exact vD) only[push_cast,simprocAttr,Tryz.f106];try exact zqF);done)
  |skip
theorem Ef(hg:ACall Tryz.prog 95 [.isl false [.val (.int .u16 (U a))] 1,.isl false (cX wr) n,.agg (aa.cells F),.isl cz (cR cap) m] [] 0 (.tup [.pt 0 0,.val (.int .i64 0)]) [.cells (wkA cz a wr n F R cap m) 202])
 (hv:ACall Tryz.prog 102 [.agg (aa.cells LD)] [] 0 (.val (.bool true)) []) (ho:ACall Tryz.prog 103 [.ipt (wkA cz a wr n F R cap m) 0,.isl false (cR ss) N] [] 0 (.val (.bool true)) []) (hof:ACall Tryz.prog 104 [.ipt (wkA cz a wr n F R cap m) 0,.isl false (cR ss) N] [] 0 (.tup [.agg (aa.cells X),.val (.int .i64 0)]) [])
 (l1:ACall Tryz.prog 105 [.agg (aa.cells X),.agg (aa.cells LD)] [] 0 (.val (.bool true)) []) (l2:ACall Tryz.prog 105 [.agg (aa.cells LD),.agg (aa.cells X)] [] 0 (.val (.bool true)) []) (hp:ACall Tryz.prog 106 [.ipt (wkA cz a wr n F R cap m) 0,.agg (aa.cells LD),.isl false (cR ys) m] [] 0 (.val (.bool true)) []):
 ACall Tryz.prog 57 [.isl false [.val (.int .u16 (U a))] 1,.isl false (cX wr) n,.agg (aa.cells F),.isl cz (cR cap) m,.agg (r4 LD++[.isl false (cR ss) N,.isl false (cR ys) m])] [] 0 (.val (.bool true)) []:=by
 have hg:=PLift.up hg;have hv:=PLift.up hv;have ho:=PLift.up ho;have hof:=PLift.up hof;have l1:=PLift.up l1;have l2:=PLift.up l2;have hp:=PLift.up hp
 rw[ay F] at*
 rw[ay LD] at hv l1 l2 hp
 rw[ay X] at hof l1 l2
 unfold wkA at*
 simp only[r4,List.cons_append,List.nil_append]
 refine az Tryz.func57 Tryz.ntmps57 rfl ?_
 repeat' (first|((first|refine dP (r:=2) 2 ?_|refine dO (r:=2) 2 ?_);refine j5 ?_;intro K hK;refine hK _ _ ?_;clear hK K)|refine zqN ?_|refine aT hg.down ?_|refine aT hv.down ?_|refine aT ho.down ?_|refine aT hof.down ?_|refine aT l1.down ?_|refine aT l2.down ?_|refine aT hp.down ?_|refine bA ?_|refine bB ?_|(refine bC ?_ ?_<;>intro hc<;>try exact zqM))
 all_goals first
  |((refine Ends.mk2 zqI [] ?_;simp-dsimp(disch:=try exact vD) only[push_cast,simprocAttr,Tryz.f57];try exact zqF);done)
  |skip
