/- La8 La9 La10 La11. No condition. -/
import Derived.Test.YtgmpdplpodemaaaGreatDoorLaG1
set_option linter.all false
set_option maxHeartbeats 4000000
set_option maxRecDepth 20000
namespace Go.Proofs.YtgmpdplpodemaaaGreatDoor
section
open Go Go.Sy Go.Bp Go.Lm Go.Rt
attribute [local irreducible] AO AL AC OpT ACall Ends DGo aK Thn Blk Nxt
variable {n N M k i m j r a H:Nat} {z z' cz:Bool} {v c e:Int} {X Y W F R ZERO ONE LD:RV} {wr:List Nat} {cap xs ys:List RV} {K:List AV}
structure Sh where
 a:Nat
 b:Nat
 p:RV
instance:Inhabited Sh:=⟨⟨0,0,default⟩⟩
instance:aa Sh 6:=⟨λx=>[.val (.int .u16 (U x.a)),.val (.int .u16 (U x.b)),.val (.bool x.p.num.neg),.isl x.p.num.z (cI .u32 x.p.num.l) x.p.num.l.length,.val (.bool x.p.den.neg),.isl x.p.den.z (cI .u32 x.p.den.l) x.p.den.l.length],λ_=>rfl,λ_=>rfl,λ_=>rfl⟩
theorem Gx(x:Sh):aa.cells x=[.val (.int .u16 (U x.a)),.val (.int .u16 (U x.b)),.val (.bool x.p.num.neg),.isl x.p.num.z (cI .u32 x.p.num.l) x.p.num.l.length,.val (.bool x.p.den.neg),.isl x.p.den.z (cI .u32 x.p.den.l) x.p.den.l.length]:=rfl
attribute [push_cast] Gx
variable {ss:List Sh} {P:List Pr}
def ptI(ss:List Sh)(n:Nat)(S:Nat->RV)(i:{i:Nat // i<=n}):St:=
 ⟨45,0,[(3,.pt 0 0),(7,.isl false (cR ss) n),(8,.val (.int .i64 n)),(9,.val (.int .i64 i.val))],[(0,some (kZ (S i.val)))]⟩
theorem JJ{S:Nat->RV} {cm:Nat->Int}(hl:ss.length=n)(hn:n<=1000)(hv:∀i,i<n->ACall Tryz.prog 102 [.agg (aa.cells (ss.getD i default).p)] [] 0 (.val (.bool true)) [])(w0:ACall Tryz.prog 97 [.val (.int .i64 0)] [] 0 (.agg (aa.cells ZERO)) [])(w1:ACall Tryz.prog 97 [.val (.int .i64 1)] [] 0 (.agg (aa.cells ONE)) [])
 (hc:∀i,i<n->ACall Tryz.prog 100 [.agg (aa.cells (ss.getD i default).p),.agg (aa.cells ZERO)] [] 0 (.val (.int .i64 (cm i))) []) (hcm:∀i,i<n->¬cm i<0) (h0:ZERO=S 0) (ha:∀i,i<n->ACall Tryz.prog 195 [.pt 0 0,.agg (aa.cells (ss.getD i default).p)] [kZ (S i)] 1 (.tup []) [kZ (S (i+1))])
 (h1:ACall Tryz.prog 100 [.agg (aa.cells (S n)),.agg (aa.cells ONE)] [] 0 (.val (.int .i64 0)) []) (hs:ACall Tryz.prog 151 [] [] 0 (.pt 0 0) [kZ (S 0)]):ACall Tryz.prog 150 [.isl false (cR ss) n] [] 0 (.val (.int .i64 0)) []:=by
 have hvq:=λ(i:Nat) (h:i<n)=>PLift.up (hv i h);have hcq:=λ(i:Nat) (h:i<n)=>PLift.up (hc i h);have haq:=λ(i:Nat) (h:i<n)=>PLift.up (ha i h)
 clear hv hc ha
 have w0:=PLift.up w0;have w1:=PLift.up w1;have h1:=PLift.up h1;have hs:=PLift.up hs
 rw[ax ZERO] at w0
 have hvi:=ae;have hci:=ae;have hai:=ae;have zx1:=ae
 unfold kZ at*
 refine az Tryz.func150 Tryz.ntmps150 rfl ?_
 have zx2:=aA;have zx3:=aA;repeat' (first|(refine ah ?_;refine ak [0] ([0].length) (ptI ss n S) (λi=>n-i.val) (⟨0,omgz⟩) rfl (by unfold ptI;exact ed) ?_;(rintro⟨i,hi⟩;rcases Nat.lt_or_eq_of_le hi with hil|hil<;>first|(subst hil;(simp-dsimp only[ptI];refine zqS ?_))|(have hvi:=hvq i hil;have hci:=hcq i hil;have hai:=haq i hil;have zx1:=hcm i hil;rw[ax ZERO] at hci;(simp-dsimp only[ptI];refine zqS ?_))))|(refine aj ?_;refine Nxt.mk [0] (⟨i+1,omgz⟩) rfl (by unfold ptI;exact ed) zqO)|refine zqN ?_|((first|refine ay rfl (λK hK=>?_)|refine au (λK hK=>?_)|refine aD (λK hK=>?_));(first|refine ai (f:=151) [] 0 false ?_|refine ai (f:=102) [] 0 false ?_|refine ai (f:=97) (dst:=some 20) [] 0 false ?_|refine ai (f:=97) (dst:=some 42) [] 0 false ?_|refine ai (f:=100) (dst:=some 21) [] 0 false ?_|refine ai (f:=100) (dst:=some 43) [] 0 false ?_|refine ai (f:=195) [0] 1 false ?_);refine zu ?_;(first|refine⟨_,_,hs.down,?_⟩|refine⟨_,_,hvi.down,?_⟩|refine⟨_,_,w0.down,?_⟩|refine⟨_,_,w1.down,?_⟩|refine⟨_,_,hci.down,?_⟩|refine⟨_,_,h1.down,?_⟩|refine⟨_,_,hai.down,?_⟩);refine rG ?_;apply hK;clear hK K)|refine dm ?_|refine dn ?_|(refine dw ?_ ?_<;>intro hc<;>try exact zqM)|refine zqR [] ?_|refine zqD ?_|fail)
 all_goals exact aB []
def ipI(P:List Pr)(n a b:Nat)(q:Nat)(j:{j:Nat // j<=q}):St:=
 ⟨19,0,[(0,.isl false (cR P) n),(3,.pt 0 0),(7,.val (.int .i64 n)),(8,.val (.int .i64 j.val))],[(0,some (.cells [.val (.int .u16 (U a)),.val (.int .u16 (U b))] 164))]⟩
theorem Ov{b q:Nat}(hl:P.length=n)(hn:n<=1000)(hq:q<n)(ha:∀i,i<n->(P.getD i default).a=a)(hb:(P.getD q default).b=b)(hne:∀i,i<q->¬(P.getD i default).b%65536=b%65536):
 ACall Tryz.prog 146 [.isl false (cR P) n,.agg [.val (.int .u16 (U a)),.val (.int .u16 (U b))]] [] 0 (.val (.int .i64 q)) []:=by
 have zx1:=ae;have zx2:=ae
 refine az Tryz.func146 Tryz.ntmps146 rfl ?_
 have zx3:=aA;repeat' (first|(refine ah ?_;refine ak [0] ([0].length) (ipI P n a b q) (λj=>q-j.val) (⟨0,omgz⟩) rfl (by unfold ipI;exact ed) ?_;(rintro⟨j,hj⟩;have zx1:=ha j omgz;rcases Nat.lt_or_eq_of_le hj with hjl|hjl<;>first|(have zx2:=hne j hjl;(simp-dsimp only[ipI];refine zqS ?_))|(subst hjl;have zx2:=hb;(simp-dsimp only[ipI];refine zqS ?_))))|(refine aj ?_;refine Nxt.mk [0] (⟨j+1,omgz⟩) rfl (by unfold ipI;exact ed) zqO)|refine zqN ?_|refine dm ?_|refine dn ?_|(refine dw ?_ ?_<;>intro hc<;>try exact zqM)|refine zqR [] ?_|refine zqD ?_|fail)
 all_goals exact aB []
def isL(z:Bool)(ws:List Nat)(n b:Nat)(q:Nat)(j:{j:Nat // j<=q}):St:=
 ⟨19,0,[(0,.isl z (cX ws) n),(1,.val (.int .u16 (U b))),(7,.val (.int .i64 n)),(8,.val (.int .i64 j.val))],[]⟩
theorem Ck{b q:Nat} {ws:List Nat}(hl:ws.length=n)(hn:n<=1000)(hq:q<n)(hb:ws.getD q default=b)(hne:∀i,i<q->¬ws.getD i default%65536=b%65536):ACall Tryz.prog 194 [.isl z (cX ws) n,.val (.int .u16 (U b))] [] 0 (.val (.int .i64 q)) []:=by
 have zx1:=ae
 refine az Tryz.func194 Tryz.ntmps194 rfl ?_
 have zx2:= @bC;have zx3:=aA;repeat' (first|(refine ah ?_;refine ak [] ([].length) (isL z ws n b q) (λj=>q-j.val) (⟨0,omgz⟩) rfl (by unfold isL;exact ed) ?_;(rintro⟨j,hj⟩;rcases Nat.lt_or_eq_of_le hj with hjl|hjl<;>first|(have zx1:=hne j hjl;(simp-dsimp only[isL];refine zqS ?_))|(subst hjl;have zx1:=hb;(simp-dsimp only[isL];refine zqS ?_))))|(refine aj ?_;refine Nxt.mk [] (⟨j+1,omgz⟩) rfl (by unfold isL;exact ed) zqO)|refine zqN ?_|refine dm ?_|refine dn ?_|(refine dw ?_ ?_<;>intro hc<;>try exact zqM))
 all_goals exact aB []
theorem Ao{b q:Nat} {ws:List AV}(h:ACall Tryz.prog 194 [.isl z ws n,.val (.int .u16 (U b))] [] 0 (.val (.int .i64 q)) []):ACall Tryz.prog 149 [.isl z ws n,.val (.int .u16 (U b))] [] 0 (.val (.bool true)) []:=by
 have h:=PLift.up h
 have zx1:(0:Int)<=q:=by omega
 refine az Tryz.func149 Tryz.ntmps149 rfl ?_
 have zx2:=aA;have zx3:=aA;repeat' (first|refine zqN ?_|refine eG h.down ?_|refine dm ?_|refine dn ?_|(refine dw ?_ ?_<;>intro hc<;>try exact zqM))
 all_goals exact aB []
theorem Uy{x:Sh} {L1 L2:List AV}(g0:K[0]? =some (.isl false L1 1))(g1:K[1]? =some (.isl false L2 n))(h1:ACall Tryz.prog 149 [.isl false L1 1,.val (.int .u16 (U x.a))] [] 0 (.val (.bool true)) [])(h2:ACall Tryz.prog 149 [.isl false L2 n,.val (.int .u16 (U x.b))] [] 0 (.val (.bool true)) []):
 ACall Tryz.prog 148 [.agg (aa.cells x),.ipt [.ipt K 0] 0] [] 0 (.val (.bool false)) []:=by
 have h1:=PLift.up h1;have h2:=PLift.up h2
 rw[Gx]
 refine az Tryz.func148 Tryz.ntmps148 rfl ?_
 repeat' (first|apply dU|apply aJ|((first|refine ay rfl (λK hK=>?_)|refine au (λK hK=>?_)|refine aD (λK hK=>?_));(first|refine ai (f:=149) (dst:=some 10) [] 0 false ?_|refine ai (f:=149) (dst:=some 19) [] 0 false ?_);simp-dsimp(disch:=try exact vD) only[push_cast,simprocAttr,g0,g1];(repeat refine aI ?_);intro G hG;refine hG _ _ ?_;clear hG G;(first|refine⟨_,_,h1.down,?_⟩|refine⟨_,_,h2.down,?_⟩);simp-dsimp(disch:=try exact vD) only[push_cast,simprocAttr,g0,g1];(repeat refine aI ?_);apply hK;clear hK K)|((first|refine ay rfl (λK hK=>?_)|refine au (λK hK=>?_)|refine aD (λK hK=>?_));(first|apply cZ|apply aX|apply dz|apply aR|apply bD|apply fM|apply gU|apply gZ|apply ic|apply iD);simp-dsimp(disch:=try exact vD) only[push_cast,simprocAttr,g0,g1];(repeat refine aI ?_);apply hK;clear hK K)|((first|refine aN rfl rfl (λK1 K2 h1 h2=>?_) rfl|refine aL (λK1 K2 h1 h2=>?_)|refine bX rfl rfl (λK1 K2 h1 h2=>?_));simp-dsimp(disch:=try exact vD) only[push_cast,simprocAttr,g0,g1];(first|(refine⟨λhc=>?_,λhc=>?_⟩<;>first|(exfalso;omega)|(exfalso;contradiction)|refine h1 ?_|refine h2 ?_)|refine h1 ?_|refine h2 ?_);all_goals clear h1 h2 K1 K2)|refine zqR [] ?_|((first|refine jl (by kernel_rfl) (λK hK=>?_)|refine l8 (by kernel_rfl) (λK hK=>?_));simp only[↓Go.Sy.gL,↓Go.Sy.gM,↓Go.Sy.iN,↓Go.Sy.gN,↓Go.Sy.iO,↓Go.Sy.fO,↓Go.Sy.gQ,push_cast,Nat.reduceLeDiff,Nat.reduceSub,Nat.reduceBEq,Nat.reduceEqDiff,Nat.reduceAdd,Nat.reduceLT,↓reduceIte,reduceCtorEq];refine hK _ _ _ ?_;clear hK K)|apply rP|apply dV|apply aT|apply cu|apply bG|apply aU|apply cK|apply bH|(refine bu rfl ?_)|apply bI|apply bZ|apply bY|apply dS)
 all_goals exact aB []
def ihI(K:List AV)(ss:List Sh)(n:Nat)(j:{j:Nat // j<=n}):St:=
 ⟨19,0,[(0,.isl false (cR ss) n),(1,.fn 148 [.ipt [.ipt K 0] 0]),(7,.val (.int .i64 n)),(8,.val (.int .i64 j.val))],[]⟩
theorem Ow(hl:ss.length=n)(hn:n<=1000)(hf:∀j,j<n->ACall Tryz.prog 148 [.agg (aa.cells (ss.getD j default)),.ipt [.ipt K 0] 0] [] 0 (.val (.bool false)) []):ACall Tryz.prog 193 [.isl false (cR ss) n,.fn 148 [.ipt [.ipt K 0] 0]] [] 0 (.val (.int .i64 (-1))) []:=by
 have hq:=λ(j:Nat) (h:j<n)=>PLift.up (hf j h)
 clear hf
 refine az Tryz.func193 Tryz.ntmps193 rfl ?_
 repeat' (first|(refine ah ?_;refine ak [] ([].length) (ihI K ss n) (λj=>n-j.val) (⟨0,omgz⟩) rfl (by unfold ihI;exact jZ) ?_;(rintro⟨j,hj⟩;rcases Nat.lt_or_eq_of_le hj with hjl|hjl<;>first|(subst hjl;(simp-dsimp only[ihI];refine zqS ?_))|(simp-dsimp only[ihI];refine zqS ?_)))|(refine aj ?_;refine Nxt.mk [] (⟨j+1,omgz⟩) rfl (by unfold ihI;exact jZ) zqO)|refine zqN ?_|((first|refine ay rfl (λK hK=>?_)|refine au (λK hK=>?_));(first|refine gq (f:=148) [] 0 false ?_);refine mg ?_;(first|refine⟨_,_,(hq j omgz).down,?_⟩);refine jo ?_;apply hK;clear hK K)|refine aY ?_|refine aZ ?_|(refine bf ?_ ?_<;>intro hc<;>try exact zqM))
 all_goals exact aB []
theorem JK(hl:ss.length=n)(hn:n<=1000)(hf:∀j,j<n->ACall Tryz.prog 148 [.agg (aa.cells (ss.getD j default)),.ipt [.ipt K 0] 0] [] 0 (.val (.bool false)) []):ACall Tryz.prog 147 [.isl false (cR ss) n,.fn 148 [.ipt [.ipt K 0] 0]] [] 0 (.val (.bool false)) []:=by
 have h:=PLift.up (Ow hl hn hf)
 clear hf
 refine az Tryz.func147 Tryz.ntmps147 rfl ?_
 repeat' (first|refine zqN ?_|refine aM h.down ?_|refine aY ?_|refine aZ ?_|(refine bf ?_ ?_<;>intro hc<;>try exact zqM))
 all_goals exact aB []
abbrev r4(V:RV):List AV:=[.val (.bool V.num.neg),.isl V.num.z (cI .u32 V.num.l) V.num.l.length,.val (.bool V.den.neg),.isl V.den.z (cI .u32 V.den.l) V.den.l.length]
def ofI(K:List AV)(ss:List Sh)(n:Nat)(cap:List RV)(cz:Bool)(m:Nat)(O:Nat->RV)(i:{i:Nat // i<=m}):St:=
 ⟨94,0,[(1,.isl false (cR ss) n),(2,.pt 0 0),(4,.pt 1 0),(7,.pt 2 0),(30,.isl cz (cR cap) m),(31,.val (.int .i64 m)),(32,.val (.int .i64 i.val))],[(0,some (.cells [.ipt K 0] 157)),(1,some (.cells [.val (.bool false),.isl true [] 0,.val (.bool false),.isl true [] 0] 60)),(2,some (.cells (r4 (O i.val)) 60))]⟩
def Uz(K:List AV)(ss:List Sh)(n:Nat)(cap:List RV)(cz:Bool)(m:Nat)(O:Nat->RV)(C:RV)(S:Nat->RV)(i:Nat)(j:{j:Nat // j<=n}):St:=
 ⟨94,0,[(1,.isl false (cR ss) n),(2,.pt 0 0),(4,.pt 1 0),(7,.pt 2 0),(8,.val (.int .i64 i)),(9,.pt 3 0),(10,.pt 4 0),(30,.isl cz (cR cap) m),(31,.val (.int .i64 m)),(32,.val (.int .i64 i)),(38,.isl false (cR ss) n),(39,.val (.int .i64 n)),(40,.val (.int .i64 j.val))],
   [(0,some (.cells [.ipt K 0] 157)),(1,some (.cells [.val (.bool false),.isl true [] 0,.val (.bool false),.isl true [] 0] 60)),(2,some (.cells (r4 (O i)) 60)),(3,some (.cells (r4 C) 60)),(4,some (kZ (S j.val)))]⟩
theorem UA{S:Nat->Nat->RV} {O:Nat->RV} {wv:Nat->Nat->RV} {ld:Nat->RV} {cm:Nat->Int}(hl:ss.length=n)(hn:n<=1000)(hcl:cap.length=m)(hm:m<=1000)(g4:K[10]? =some (.isl cz (cR cap) m))(hO:O 0=ZERO)(hc0:ACall Tryz.prog 147 [.isl false (cR ss) n,.fn 148 [.ipt [.ipt K 0] 0]] [] 0 (.val (.bool false)) [])
 (hpa:ACall Tryz.prog 150 [.isl false (cR ss) n] [] 0 (.val (.int .i64 0)) []) (w0:ACall Tryz.prog 97 [.val (.int .i64 0)] [] 0 (.agg (aa.cells ZERO)) []) (hS:∀i,i<m->ACall Tryz.prog 151 [] [] 0 (.pt 0 0) [kZ (S i 0)])
 (hw:∀i j,i<m->j<n->ACall Tryz.prog 153 [.ipt K 0,.val (.int .u16 (U (ss.getD j default).a)),.val (.int .u16 (U (ss.getD j default).b)),.val (.int .i64 i)] [] 0 (.agg (aa.cells (wv i j))) []) (ht:∀i j,i<m->j<n->ACall Tryz.prog 152 [.pt 0 0,.agg (aa.cells (ss.getD j default).p),.agg (aa.cells (wv i j))] [kZ (S i j)] 1 (.tup []) [kZ (S i (j+1))])
 (hd:∀i,i<m->ACall Tryz.prog 96 [.agg (aa.cells (S i n)),.agg (aa.cells (cap.getD i default))] [] 0 (.tup [.agg (aa.cells (ld i)),.val (.int .i64 0)]) []) (hc:∀i,i<m->ACall Tryz.prog 141 [.agg (aa.cells (ld i)),.agg (aa.cells (O i))] [] 0 (.tup [.val (.int .i64 (cm i)),.val (.int .i64 0)]) [])
 (s1:∀i,i<m->0<cm i->O (i+1)=ld i) (s2:∀i,i<m->¬0<cm i->O (i+1)=O i):
 ACall Tryz.prog 104 [.ipt K 0,.isl false (cR ss) n] [] 0 (.tup [.agg (aa.cells (O m)),.val (.int .i64 0)]) []:=by
 have hc0:=PLift.up hc0;have hpa:=PLift.up hpa;have w0:=PLift.up w0
 have hSq:=λ(i:Nat) (h:i<m)=>PLift.up (hS i h);have hwq:=λ(i j:Nat) (h:i<m) (h2:j<n)=>PLift.up (hw i j h h2);have htq:=λ(i j:Nat) (h:i<m) (h2:j<n)=>PLift.up (ht i j h h2);have hdq:=λ(i:Nat) (h:i<m)=>PLift.up (hd i h);have hcq:=λ(i:Nat) (h:i<m)=>PLift.up (hc i h)
 clear hS hw ht hd hc
 rw[ax ZERO] at w0
 rw[ax (O m)]
 have hSi:=ae;have hwi:=ae;have hti:=ae;have hdi:=ae;have hci:=ae;have zx3:=ae;have zx4:=ae
 unfold kZ at*
 refine az Tryz.func104 Tryz.ntmps104 rfl ?_
 have zx1:= @g4;have zx2:= @hO;have zx5:=aA;have zx6:=aA;repeat' (first|(refine ah ?_;refine ak [0,1,2,3,4] ([0,1,2,3,4].length) (Uz K ss n cap cz m O (cap.getD i default) (S i) i) (λj=>n-j.val) (⟨0,omgz⟩) rfl (by unfold Uz;exact dK) ?_;(rintro⟨j,hj⟩;rcases Nat.lt_or_eq_of_le hj with hjl|hjl<;>first|(subst hjl;(simp-dsimp only[Uz];refine zqS ?_))|(have hwi:=hwq i j hil hjl;have hti:=htq i j hil hjl;(simp-dsimp only[Uz];refine zqS ?_))))|(refine aj ?_;refine Nxt.mk [0,1,2,3,4] (⟨j+1,omgz⟩) rfl (by unfold Uz;exact dK) zqO)|(refine ah ?_;refine ak [0,1,2] ([0,1,2].length) (ofI K ss n cap cz m O) (λi=>m-i.val) (⟨0,omgz⟩) rfl (by unfold ofI;exact dK) ?_;(rintro⟨i,hi⟩;rcases Nat.lt_or_eq_of_le hi with hil|hil<;>first|(subst hil;(simp-dsimp only[ofI];refine zqS ?_))|(have hSi:=hSq i hil;have hdi:=hdq i hil;have hci:=hcq i hil;rcases Decidable.em (0<cm i) with zx3|zx3<;>first|(have zx4:=s1 i hil zx3;(simp-dsimp only[ofI];refine zqS ?_))|(have zx4:=s2 i hil zx3;(simp-dsimp only[ofI];refine zqS ?_)))))|(refine aj ?_;refine Nxt.mk [0,1,2] (⟨i+1,omgz⟩) rfl (by unfold ofI;exact dK) zqO)|refine zqN ?_|((first|refine ay rfl (λK hK=>?_)|refine au (λK hK=>?_)|refine aD (λK hK=>?_));(first|refine ai (f:=147) [] 0 true ?_|refine ai (f:=150) [] 0 false ?_|refine ai (f:=97) [] 0 false ?_|refine ai (f:=151) [] 0 false ?_|refine ai (f:=153) [] 0 false ?_|refine ai (f:=152) [4] 1 false ?_|refine ai (f:=96) [] 0 false ?_|refine ai (f:=141) [] 0 false ?_);refine vT ?_;(first|refine⟨_,_,hc0.down,?_⟩|refine⟨_,_,hpa.down,?_⟩|refine⟨_,_,w0.down,?_⟩|refine⟨_,_,hSi.down,?_⟩|refine⟨_,_,hwi.down,?_⟩|refine⟨_,_,hti.down,?_⟩|refine⟨_,_,hdi.down,?_⟩|refine⟨_,_,hci.down,?_⟩);refine nP ?_;apply hK;clear hK K)|refine kI ?_|refine kJ ?_|(refine kK ?_ ?_<;>intro hc<;>try exact zqM)|refine zqR [(14,10,[2],0),(17,5,[2],0),(18,9,[],1),(18,10,[2],0)] ?_|refine zqD ?_|fail)
 all_goals exact aB []
end
section
open Go Go.Sy Go.Bp Go.Lm Go.Rt
attribute [local irreducible] AO AL AC OpT ACall Ends DGo aK Thn Blk Nxt
variable {n N M k i m j r a H:Nat} {z z' cz:Bool} {v c e:Int} {X Y W F R ZERO ONE LD:RV} {wr:List Nat} {cap xs ys:List RV} {K:List AV} {ss:List Sh} {P:List Pr}
def odI(K:List AV)(ss:List Sh)(n:Nat)(P:List Pr)(H:Nat)(l:Nat->Int)(i:{i:Nat // i<=n}):St:=
 ⟨43,0,[(5,.isl false (cR P) H),(6,.val (.int .i64 (l i.val))),(12,.isl false (cR ss) n),(13,.val (.int .i64 n)),(14,.val (.int .i64 i.val))],[]⟩
theorem D6{l:Nat->Int} {cm:Nat->Int}(hl:ss.length=n)(hn:n<=1000)(hP:P.length=H)(hH:0<H)(hpr:ACall Tryz.prog 98 [.ipt K 0] [] 0 (.sl 0 0 H 2) [.cells (cR P) 164])(h0:l 0= -1)(hix:∀i,i<n->ACall Tryz.prog 146 [.isl false (cR P) H,.agg [.val (.int .u16 (U (ss.getD i default).a)),.val (.int .u16 (U (ss.getD i default).b))]] [] 0 (.val (.int .i64 (l (i+1)))) [])
 (hup:∀i,i<n->¬l (i+1)<=l i) (hv:∀i,i<n->ACall Tryz.prog 102 [.agg (aa.cells (ss.getD i default).p)] [] 0 (.val (.bool true)) []) (w0:ACall Tryz.prog 97 [.val (.int .i64 0)] [] 0 (.agg (aa.cells ZERO)) []) (hc:∀i,i<n->ACall Tryz.prog 100 [.agg (aa.cells (ss.getD i default).p),.agg (aa.cells ZERO)] [] 0 (.val (.int .i64 (cm i))) []) (hcm:∀i,i<n->¬cm i<=0):
 ACall Tryz.prog 103 [.ipt K 0,.isl false (cR ss) n] [] 0 (.val (.bool true)) []:=by
 have hpr:=PLift.up hpr;have w0:=PLift.up w0
 have hiq:=λ(i:Nat) (h:i<n)=>PLift.up (hix i h);have hvq:=λ(i:Nat) (h:i<n)=>PLift.up (hv i h);have hcq:=λ(i:Nat) (h:i<n)=>PLift.up (hc i h)
 clear hix hv hc
 rw[ax ZERO] at w0
 have zx2:(cR P).take (H*2)=cR P:=List.take_of_length_le (by rw[dF,hP];exact Nat.le_refl _)
 have hii:=ae;have hvi:=ae;have hci:=ae;have zx3:=ae;have zx4:=ae
 refine az Tryz.func103 Tryz.ntmps103 rfl ?_
 have zx1:= @h0;have zx5:=aA;have zx6:=aA;repeat' (first|((first|refine bT (r:=2) 0 ?_|refine bS (r:=2) 0 ?_);refine nP ?_;intro K hK;refine hK _ _ ?_;clear hK K)|(refine ah ?_;refine ak [] ([].length) (odI K ss n P H l) (λi=>n-i.val) (⟨0,omgz⟩) rfl (by unfold odI;exact dK) ?_;(rintro⟨i,hi⟩;rcases Nat.lt_or_eq_of_le hi with hil|hil<;>first|(have eQ:=hil.symm;subst eQ;(simp-dsimp only[odI];refine zqS ?_))|(have hii:=hiq i hil;have hvi:=hvq i hil;have hci:=hcq i hil;have zx3:=hup i hil;have zx4:=hcm i hil;rw[ax ZERO] at hci;(simp-dsimp only[odI];refine zqS ?_))))|(refine aj ?_;refine Nxt.mk [] (⟨i+1,omgz⟩) rfl (by unfold odI;exact dK) zqO)|refine zqN ?_|refine o7 hpr.down ?_|refine o7 hii.down ?_|refine o7 hvi.down ?_|refine o7 w0.down ?_|refine o7 hci.down ?_|refine kI ?_|refine kJ ?_|(refine kK ?_ ?_<;>intro hc<;>try exact zqM)|refine zqR [] ?_|refine zqD ?_|fail)
 all_goals exact aB []
def dtI(z z':Bool)(xs ys:List RV)(n:Nat)(i:{i:Nat // i<=n}):St:=
 ⟨73,0,[(0,.isl z (cR xs) n),(1,.isl z' (cR ys) n),(4,.pt 0 0),(18,.val (.int .i64 n)),(19,.val (.int .i64 i.val))],[(0,some (.cells [.val (.bool false),.isl true [] 0,.val (.bool false),.isl true [] 0] 60))]⟩
def dtJ(z z':Bool)(xs ys:List RV)(n:Nat)(S:Nat->RV)(i:{i:Nat // i<=n}):St:=
 ⟨73,0,[(0,.isl z (cR xs) n),(1,.isl z' (cR ys) n),(4,.pt 0 0),(7,.pt 1 0),(41,.val (.int .i64 n)),(42,.val (.int .i64 i.val))],[(0,some (.cells [.val (.bool false),.isl true [] 0,.val (.bool false),.isl true [] 0] 60)),(1,some (.cells (r4 (S i.val)) 60))]⟩
theorem UB{S q:Nat->RV} {A:IV}(hl:xs.length=n)(hl2:ys.length=n)(hn:n<=1000)(hv:∀i,i<n->ACall Tryz.prog 102 [.agg (aa.cells (xs.getD i default))] [] 0 (.val (.bool true)) [])(hv2:∀i,i<n->ACall Tryz.prog 102 [.agg (aa.cells (ys.getD i default))] [] 0 (.val (.bool true)) [])
 (ho:ACall Tryz.prog 145 [] [] 0 (.agg (aa.cells A)) []) (h0:S 0=⟨⟨true,false,[]⟩,A⟩) (hm:∀i,i<n->ACall Tryz.prog 99 [.agg (aa.cells (xs.getD i default)),.agg (aa.cells (ys.getD i default))] [] 0 (.tup [.agg (aa.cells (q i)),.val (.int .i64 0)]) [])
 (ha:∀i,i<n->ACall Tryz.prog 196 [.agg (aa.cells (S i)),.agg (aa.cells (q i))] [] 0 (.tup [.agg (aa.cells (S (i+1))),.val (.int .i64 0)]) []):ACall Tryz.prog 155 [.isl z (cR xs) n,.isl z' (cR ys) n] [] 0 (.tup [.agg (aa.cells (S n)),.val (.int .i64 0)]) []:=by
 have ho:=PLift.up ho
 have hvq:=λ(i:Nat) (h:i<n)=>PLift.up (hv i h);have hvr:=λ(i:Nat) (h:i<n)=>PLift.up (hv2 i h);have hmq:=λ(i:Nat) (h:i<n)=>PLift.up (hm i h);have haq:=λ(i:Nat) (h:i<n)=>PLift.up (ha i h)
 clear hv hv2 hm ha
 rw[ax (S n)]
 have hvi:=ae;have hvj:=ae;have hmi:=ae;have hai:=ae
 refine az Tryz.func155 Tryz.ntmps155 rfl ?_
 have zx1:= @h0;have zx2:=aA;have zx3:=aA;repeat' (first|(refine ah ?_;refine ak [0] ([0].length) (dtI z z' xs ys n) (λi=>n-i.val) (⟨0,omgz⟩) rfl (by unfold dtI;exact ed) ?_;(rintro⟨i,hi⟩;rcases Nat.lt_or_eq_of_le hi with hil|hil<;>first|(have eQ:=hil.symm;subst eQ;(simp-dsimp only[dtI];refine zqS ?_))|(have hvi:=hvq i hil;have hvj:=hvr i hil;(simp-dsimp only[dtI];refine zqS ?_))))|(refine aj ?_;refine Nxt.mk [0] (⟨i+1,omgz⟩) rfl (by unfold dtI;exact ed) zqO)|(refine ah ?_;refine ak [0,1] ([0,1].length) (dtJ z z' xs ys n S) (λi=>n-i.val) (⟨0,omgz⟩) rfl (by unfold dtJ;exact ed) ?_;(rintro⟨i,hi⟩;rcases Nat.lt_or_eq_of_le hi with hil|hil<;>first|(have eQ:=hil.symm;subst eQ;(simp-dsimp only[dtJ];refine zqS ?_))|(have hmi:=hmq i hil;have hai:=haq i hil;(simp-dsimp only[dtJ];refine zqS ?_))))|(refine aj ?_;refine Nxt.mk [0,1] (⟨i+1,omgz⟩) rfl (by unfold dtJ;exact ed) zqO)|refine zqN ?_|refine eG hvi.down ?_|refine eG hvj.down ?_|refine eG ho.down ?_|refine eG hmi.down ?_|refine eG hai.down ?_|refine dm ?_|refine dn ?_|(refine dw ?_ ?_<;>intro hc<;>try exact zqM)|refine zqR [(13,12,[],1),(13,13,[2],0)] ?_|refine zqD ?_|fail)
 all_goals exact aB []
theorem D7(hc:¬c<0)(hv:ACall Tryz.prog 102 [.agg (aa.cells X)] [] 0 (.val (.bool true)) [])(w0:ACall Tryz.prog 97 [.val (.int .i64 0)] [] 0 (.agg (aa.cells ZERO)) [])(h:ACall Tryz.prog 100 [.agg (aa.cells X),.agg (aa.cells ZERO)] [] 0 (.val (.int .i64 c)) []):
 ACall Tryz.prog 154 [.agg (aa.cells X)] [] 0 (.val (.bool false)) []:=by
 have hv:=PLift.up hv;have w0:=PLift.up w0;have h:=PLift.up h
 rw[ax X] at*
 rw[ax ZERO] at*
 refine az Tryz.func154 Tryz.ntmps154 rfl ?_
 have zx1:= @hc;have zx2:=aA;have zx3:=aA;repeat' (first|refine zqN ?_|refine eG hv.down ?_|refine eG w0.down ?_|refine eG h.down ?_|refine dm ?_|refine dn ?_|(refine dw ?_ ?_<;>intro hc<;>try exact zqM)|refine zqR [] ?_|refine zqD ?_|fail)
 all_goals exact aB []
def pvI(K:List AV)(ys:List RV)(m:Nat)(LD:RV)(P:List Pr)(n:Nat)(i:{i:Nat // i<=n}):St:=
 ⟨84,0,[(0,.ipt K 0),(2,.isl false (cR ys) m),(4,.pt 0 0),(44,.sl 1 0 n 2),(45,.val (.int .i64 n)),(46,.val (.int .i64 i.val))],[(0,some (.cells (r4 LD) 60)),(1,some (.cells (cR P) 164))]⟩
def pvJ(K:List AV)(ys:List RV)(m:Nat)(LD:RV)(P:List Pr)(n:Nat)(S:Nat->RV)(i:Nat)(x:Pr)(j:{j:Nat // j<=m}):St:=
 ⟨84,0,[(0,.ipt K 0),(2,.isl false (cR ys) m),(4,.pt 0 0),(10,.pt 2 0),(11,.pt 3 0),(44,.sl 1 0 n 2),(45,.val (.int .i64 n)),(46,.val (.int .i64 i)),(51,.isl false (cR ys) m),(52,.val (.int .i64 m)),(53,.val (.int .i64 j.val))],
   [(0,some (.cells (r4 LD) 60)),(1,some (.cells (cR P) 164)),(2,some (.cells [.val (.int .u16 (U x.a)),.val (.int .u16 (U x.b))] 164)),(3,some (kZ (S j.val)))]⟩
theorem Gy{S:Nat->Nat->RV} {D:RV} {wv:Nat->Nat->RV}(hl:ys.length=m)(hcl:cap.length=m)(hm:m<=1000)(hP:P.length=n)(hn:n<=1000)(h0:0<n)(g4:K[10]? =some (.isl cz (cR cap) m))(hc:ACall Tryz.prog 134 [.isl false (cR ys) m,.fn 154 []] [] 0 (.val (.bool false)) [])(hd:ACall Tryz.prog 155 [.isl false (cR ys) m,.isl cz (cR cap) m] [] 0 (.tup [.agg (aa.cells D),.val (.int .i64 0)]) [])
 (w1:ACall Tryz.prog 97 [.val (.int .i64 1)] [] 0 (.agg (aa.cells ONE)) []) (hc1:ACall Tryz.prog 100 [.agg (aa.cells D),.agg (aa.cells ONE)] [] 0 (.val (.int .i64 0)) []) (hpr:ACall Tryz.prog 98 [.ipt K 0] [] 0 (.sl 0 0 n 2) [.cells (cR P) 164]) (hS:∀i,i<n->ACall Tryz.prog 151 [] [] 0 (.pt 0 0) [kZ (S i 0)])
 (hw:∀i j,i<n->j<m->ACall Tryz.prog 153 [.ipt K 0,.val (.int .u16 (U (P.getD i default).a)),.val (.int .u16 (U (P.getD i default).b)),.val (.int .i64 j)] [] 0 (.agg (aa.cells (wv i j))) []) (ht:∀i j,i<n->j<m->ACall Tryz.prog 152 [.pt 0 0,.agg (aa.cells (ys.getD j default)),.agg (aa.cells (wv i j))] [kZ (S i j)] 1 (.tup []) [kZ (S i (j+1))])
 (hle:∀i,i<n->ACall Tryz.prog 105 [.agg (aa.cells (S i m)),.agg (aa.cells LD)] [] 0 (.val (.bool true)) []):ACall Tryz.prog 106 [.ipt K 0,.agg (aa.cells LD),.isl false (cR ys) m] [] 0 (.val (.bool true)) []:=by
 have hc:=PLift.up hc;have hd:=PLift.up hd;have w1:=PLift.up w1;have hc1:=PLift.up hc1;have hpr:=PLift.up hpr
 have hSq:=λ(i:Nat) (h:i<n)=>PLift.up (hS i h);have hwq:=λ(i j:Nat) (h:i<n) (h2:j<m)=>PLift.up (hw i j h h2);have htq:=λ(i j:Nat) (h:i<n) (h2:j<m)=>PLift.up (ht i j h h2);have hlq:=λ(i:Nat) (h:i<n)=>PLift.up (hle i h)
 clear hS hw ht hle
 rw[ax ONE] at w1 hc1
 rw[ax D] at hd hc1
 rw[ax LD]
 have zx2:(cR P).take (n*2)=cR P:=List.take_of_length_le (by rw[dF,hP];exact Nat.le_refl _)
 have hSi:=ae;have hwi:=ae;have hti:=ae;have hli:=ae
 unfold kZ at*
 refine az Tryz.func106 Tryz.ntmps106 rfl ?_
 have zx1:= @g4;have zx3:=aA;repeat' (first|(refine ah ?_;refine ak [0,1,2,3] ([0,1,2,3].length) (pvJ K ys m LD P n (S i) i (P.getD i default)) (λj=>m-j.val) (⟨0,omgz⟩) rfl (by unfold pvJ;exact ed) ?_;(rintro⟨j,hj⟩;rcases Nat.lt_or_eq_of_le hj with hjl|hjl<;>first|(have eQ:=hjl.symm;subst eQ;(simp-dsimp only[pvJ];refine zqS ?_))|(have hwi:=hwq i j hil hjl;have hti:=htq i j hil hjl;(simp-dsimp only[pvJ];refine zqS ?_))))|(refine aj ?_;refine Nxt.mk [0,1,2,3] (⟨j+1,omgz⟩) rfl (by unfold pvJ;exact ed) zqO)|(refine ah ?_;refine ak [0,2] ([0,2].length) (pvI K ys m LD P n) (λi=>n-i.val) (⟨0,omgz⟩) rfl (by unfold pvI;exact ed) ?_;(rintro⟨i,hi⟩;rcases Nat.lt_or_eq_of_le hi with hil|hil<;>first|(have eQ:=hil.symm;subst eQ;(simp-dsimp only[pvI];refine zqS ?_))|(have hSi:=hSq i hil;have hli:=hlq i hil;rw[ax LD] at hli;(simp-dsimp only[pvI];refine zqS ?_))))|(refine aj ?_;refine Nxt.mk [0,1] (⟨i+1,omgz⟩) rfl (by unfold pvI;exact ed) zqO)|refine zqN ?_|((first|refine ay rfl (λK hK=>?_)|refine au (λK hK=>?_)|refine aD (λK hK=>?_));(first|refine ai (f:=134) [] 0 false ?_|refine ai (f:=155) [] 0 false ?_|refine ai (f:=97) [] 0 false ?_|refine ai (f:=100) [] 0 false ?_|refine ai (f:=98) [] 0 false ?_|refine ai (f:=151) [] 0 false ?_|refine ai (f:=153) [] 0 false ?_|refine ai (f:=152) [3] 1 false ?_|refine ai (f:=105) [] 0 false ?_);refine zu ?_;(first|refine⟨_,_,hc.down,?_⟩|refine⟨_,_,hd.down,?_⟩|refine⟨_,_,w1.down,?_⟩|refine⟨_,_,hc1.down,?_⟩|refine⟨_,_,hpr.down,?_⟩|refine⟨_,_,hSi.down,?_⟩|refine⟨_,_,hwi.down,?_⟩|refine⟨_,_,hti.down,?_⟩|refine⟨_,_,hli.down,?_⟩);refine rG ?_;apply hK;clear hK K)|refine dm ?_|refine dn ?_|(refine dw ?_ ?_<;>intro hc<;>try exact zqM)|refine zqR [(13,9,[2],0)] ?_|refine zqD ?_|fail)
 all_goals exact aB []
theorem Gz(hg:ACall Tryz.prog 95 [.isl false [.val (.int .u16 (U a))] 1,.isl false (cX wr) n,.agg (aa.cells F),.isl cz (cR cap) m] [] 0 (.tup [.pt 0 0,.val (.int .i64 0)]) [.cells (wkA cz a wr n F R cap m) 202])
 (hv:ACall Tryz.prog 102 [.agg (aa.cells LD)] [] 0 (.val (.bool true)) []) (ho:ACall Tryz.prog 103 [.ipt (wkA cz a wr n F R cap m) 0,.isl false (cR ss) N] [] 0 (.val (.bool true)) []) (hof:ACall Tryz.prog 104 [.ipt (wkA cz a wr n F R cap m) 0,.isl false (cR ss) N] [] 0 (.tup [.agg (aa.cells X),.val (.int .i64 0)]) [])
 (l1:ACall Tryz.prog 105 [.agg (aa.cells X),.agg (aa.cells LD)] [] 0 (.val (.bool true)) []) (l2:ACall Tryz.prog 105 [.agg (aa.cells LD),.agg (aa.cells X)] [] 0 (.val (.bool true)) []) (hp:ACall Tryz.prog 106 [.ipt (wkA cz a wr n F R cap m) 0,.agg (aa.cells LD),.isl false (cR ys) m] [] 0 (.val (.bool true)) []):
 ACall Tryz.prog 57 [.isl false [.val (.int .u16 (U a))] 1,.isl false (cX wr) n,.agg (aa.cells F),.isl cz (cR cap) m,.agg (r4 LD++[.isl false (cR ss) N,.isl false (cR ys) m])] [] 0 (.val (.bool true)) []:=by
 have hg:=PLift.up hg;have hv:=PLift.up hv;have ho:=PLift.up ho;have hof:=PLift.up hof;have l1:=PLift.up l1;have l2:=PLift.up l2;have hp:=PLift.up hp
 rw[ax F] at*
 rw[ax LD] at hv l1 l2 hp
 rw[ax X] at hof l1 l2
 unfold wkA at*
 simp only[r4,List.cons_append,List.nil_append]
 refine az Tryz.func57 Tryz.ntmps57 rfl ?_
 repeat' (first|((first|refine bT (r:=2) 2 ?_|refine bS (r:=2) 2 ?_);refine jo ?_;intro K hK;refine hK _ _ ?_;clear hK K)|refine zqN ?_|refine aM hg.down ?_|refine aM hv.down ?_|refine aM ho.down ?_|refine aM hof.down ?_|refine aM l1.down ?_|refine aM l2.down ?_|refine aM hp.down ?_|refine aY ?_|refine aZ ?_|(refine bf ?_ ?_<;>intro hc<;>try exact zqM))
 all_goals exact aB []
end
section
open Go Go.Sy Go.Bp Go.Lm Go.Rt
attribute [local irreducible] AO AL AC OpT ACall Ends DGo aK Thn Blk Nxt
variable {n N M k i m j r a H:Nat} {z z' cz:Bool} {v c e:Int} {X Y W F R ZERO ONE LD OV:RV} {wr:List Nat} {cap xs ys:List RV} {K:List AV} {P:List Pr}
def oO(P:List Pr)(q:Nat->RV)(cm:Nat->Int):Nat->List Sh
 |0=>[]
 |i+1=>if 0<cm i then oO P q cm i++[⟨(P.getD i default).a,(P.getD i default).b,q i⟩] else oO P q cm i
def shN(cm:Nat->Int):Nat->Nat
 |0=>0
 |i+1=>if 0<cm i then shN cm i+1 else shN cm i
section
variable {q:Nat->RV} {cm:Nat->Int}
theorem GA:(oO P q cm i).length=shN cm i:=by
 induction i with
 |zero=>rfl
 |succ i ih=>unfold oO shN;split<;>simp[ih]
theorem ahz:shN cm i<=i:=by
 induction i with
 |zero=>exact Nat.le_refl _
 |succ i ih=>unfold shN;split<;>omega
theorem UC(h:0<cm i):oO P q cm (i+1)=oO P q cm i++[⟨(P.getD i default).a,(P.getD i default).b,q i⟩]:=if_pos h
theorem ahA(h:¬0<cm i):oO P q cm (i+1)=oO P q cm i:=if_neg h
theorem aj1(h:0<cm i):shN cm (i+1)=shN cm i+1:=if_pos h
theorem aj2(h:¬0<cm i):shN cm (i+1)=shN cm i:=if_neg h
end
def qL(q:Nat->RV):Nat->List RV
 |0=>[]
 |i+1=>qL q i++[q i]
theorem ahB{q:Nat->RV}:(qL q i).length=i:=by
 induction i with
 |zero=>rfl
 |succ i ih=>simp[qL,ih]
abbrev bz:List AV:=[.val (.bool false),.isl true [] 0,.val (.bool false),.isl true [] 0,.isl true [] 0,.isl true [] 0]
def opS(OV:RV)(xs ys:List RV)(n m:Nat)(LD:RV)(P:List Pr)(q:Nat->RV)(cm:Nat->Int)(i:{i:Nat // i<=n}):St:=
 ⟨130,0,[(8,.pt 0 0),(12,.pt 1 0),(15,.pt 2 0),(16,.pt 3 0),(68,.sl 4 0 n 2),(69,.val (.int .i64 n)),(70,.val (.int .i64 i.val))],
   [(0,some (.cells bz 105)),(1,some (.cells (r4 OV++[.isl false (cR xs) n,.isl false (cR ys) m]) 154)),(2,some (.cells (r4 LD) 60)),(3,some (.cells (r4 LD++[fw (shN cm i.val) 5 6,.isl true [] 0]) 105)),(4,some (.cells (cR P) 164))]++fA (shN cm i.val) 5 (cR (oO P q cm i.val)) 167⟩
def opP(ys:List RV)(m:Nat)(LD:RV)(N:Nat)(ss:List Sh)(p:Nat->RV)(i:{i:Nat // i<=m}):St:=
 ⟨130,0,[(8,.pt 0 0),(15,.pt 1 0),(16,.pt 2 0),(106,.isl false (cR ys) m),(107,.val (.int .i64 m)),(108,.val (.int .i64 i.val))],
   [(0,some (.cells bz 105)),(1,some (.cells (r4 LD) 60)),(2,some (.cells (r4 LD++[.sl 3 0 N 6,fw i.val 4 4]) 105)),(3,some (.cells (cR ss) 167))]++fA i.val 4 (cR (qL p i.val)) 60⟩
theorem D8{q p:Nat->RV} {cm:Nat->Int} {CA CB CC:List AV}(hP:P.length=n)(h0:0<n)(hn:n<=400)(hm0:0<m)(hm:m<=14)(hxl:xs.length=n)(hyl:ys.length=m)(hN:shN cm n=N)(hN0:0<N)(hpf:ACall Tryz.prog 93 [.isl false [.val (.int .u16 (U a))] 1,.isl false (cX wr) n,.agg (aa.cells F),.isl cz (cR cap) m] [] 0 (.tup [.agg [.isl false CA m,.isl cz CB m,.isl false CC n],.val (.int .i64 0)]) [])
 (hso:ACall Tryz.prog 94 [.agg [.isl false CA m,.isl cz CB m,.isl false CC n]] [] 0 (.tup [.agg (r4 OV++[.isl false (cR xs) n,.isl false (cR ys) m]),.val (.int .i64 0)]) []) (hg:ACall Tryz.prog 95 [.isl false [.val (.int .u16 (U a))] 1,.isl false (cX wr) n,.agg (aa.cells F),.isl cz (cR cap) m] [] 0 (.tup [.pt 0 0,.val (.int .i64 0)]) [.cells (wkA cz a wr n F R cap m) 202])
 (w1:ACall Tryz.prog 97 [.val (.int .i64 1)] [] 0 (.agg (aa.cells ONE)) []) (w0:ACall Tryz.prog 97 [.val (.int .i64 0)] [] 0 (.agg (aa.cells ZERO)) []) (hd:ACall Tryz.prog 96 [.agg (aa.cells ONE),.agg (aa.cells OV)] [] 0 (.tup [.agg (aa.cells LD),.val (.int .i64 0)]) [])
 (hpr:ACall Tryz.prog 98 [.ipt (wkA cz a wr n F R cap m) 0] [] 0 (.sl 0 0 n 2) [.cells (cR P) 164]) (hq:∀i,i<n->ACall Tryz.prog 99 [.agg (aa.cells (xs.getD i default)),.agg (aa.cells LD)] [] 0 (.tup [.agg (aa.cells (q i)),.val (.int .i64 0)]) [])
 (hc:∀i,i<n->ACall Tryz.prog 100 [.agg (aa.cells (q i)),.agg (aa.cells ZERO)] [] 0 (.val (.int .i64 (cm i))) []) (hy:∀i,i<m->ACall Tryz.prog 99 [.agg (aa.cells (ys.getD i default)),.agg (aa.cells LD)] [] 0 (.tup [.agg (aa.cells (p i)),.val (.int .i64 0)]) []):
 ACall Tryz.prog 54 [.isl false [.val (.int .u16 (U a))] 1,.isl false (cX wr) n,.agg (aa.cells F),.isl cz (cR cap) m] [] 0 (.tup [.agg (r4 LD++[.isl false (cR (oO P q cm n)) N,.isl false (cR (qL p m)) m]),.val (.int .i64 0)]) []:=by
 have hpf:=PLift.up hpf;have hso:=PLift.up hso;have hg:=PLift.up hg;have w1:=PLift.up w1;have w0:=PLift.up w0;have hd:=PLift.up hd;have hpr:=PLift.up hpr
 have hqq:=λ(i:Nat) (h:i<n)=>PLift.up (hq i h);have hcq:=λ(i:Nat) (h:i<n)=>PLift.up (hc i h);have hyq:=λ(i:Nat) (h:i<m)=>PLift.up (hy i h)
 clear hq hc hy
 rw[ax F] at*
 rw[ax ONE] at w1 hd
 rw[ax ZERO] at w0
 rw[ax OV,ax LD] at hd
 unfold wkA r4 at*
 simp only[List.cons_append,List.nil_append] at*
 have lS:=λ(i:Nat)=>GA (P:=P) (q:=q) (cm:=cm) (i:=i)
 have lN:=λ(i:Nat)=>ahz (cm:=cm) (i:=i)
 have lQ:=λ(i:Nat)=>ahB (q:=p) (i:=i)
 have zx2:(cR P).take (n*2)=cR P:=List.take_of_length_le (by rw[dF,hP];exact Nat.le_refl _)
 have zx3:(cR (oO P q cm n)).take (N*6)=cR (oO P q cm n):=List.take_of_length_le (by rw[dF,lS,hN];exact Nat.le_refl _)
 have zx4:(cR (qL p m)).take (m*4)=cR (qL p m):=List.take_of_length_le (by rw[dF,lQ];exact Nat.le_refl _)
 have zx1:shN cm 0=0:=rfl
 have hqi:=ae;have hci:=ae;have hyi:=ae;have zx5:=ae;have hsn:=ae;have hnn:=ae;have zx6:=ae;have hps:=ae;have zx7:=ae;have h00:=ae
 refine az Tryz.func54 Tryz.ntmps54 rfl ?_
 have zx8:= @hN;have zx9:=aA;repeat' (first|((first|refine bT (r:=12) 4 ?_|refine bS (r:=12) 4 ?_);refine sJ ?_;intro K hK;refine hK _ _ ?_;clear hK K)|(refine ah ?_;refine ak [1,3,5,6,7,99] ([1,3,5,6,7,99].length) (opS OV xs ys n m LD P q cm) (λi=>n-i.val) (⟨0,omgz⟩) rfl (by unfold opS;exact aO) ?_;(rintro⟨i,hi⟩;have zx6:=lS i;have hnl:=lN i;rcases Nat.lt_or_eq_of_le hi with hil|hil<;>first|(have eQ:=hil.symm;subst eQ;(simp-dsimp only[opS];refine zqS ?_))|(have hqi:=hqq i hil;have hci:=hcq i hil;rcases Decidable.em (0<cm i) with zx5|zx5<;>first|(have hnn:=aj1 (cm:=cm) zx5;rcases Nat.eq_zero_or_pos (shN cm i) with h00|h00<;>first|(have hps:[.val (.int .u16 (U (P.getD i default).a)),.val (.int .u16 (U (P.getD i default).b)),.val (.bool (q i).num.neg),.isl (q i).num.z (cI .u32 (q i).num.l) (q i).num.l.length,.val (.bool (q i).den.neg),.isl (q i).den.z (cI .u32 (q i).den.l) (q i).den.l.length]=cR (oO P q cm (i+1)):=(by have e:oO P q cm i=[]:=List.eq_nil_of_length_eq_zero (zx6.trans h00);rw[UC zx5,e];rfl);(simp-dsimp only[opS];refine zqS ?_))|(have hps:cR (oO P q cm i)++[.val (.int .u16 (U (P.getD i default).a)),.val (.int .u16 (U (P.getD i default).b)),.val (.bool (q i).num.neg),.isl (q i).num.z (cI .u32 (q i).num.l) (q i).num.l.length,.val (.bool (q i).den.neg),.isl (q i).den.z (cI .u32 (q i).den.l) (q i).den.l.length]=cR (oO P q cm (i+1)):=(by rw[UC zx5,<-vS];rfl);(simp-dsimp only[opS];refine zqS ?_)))|(have hnn:=aj2 (cm:=cm) zx5;have hps:=ahA (P:=P) (q:=q) zx5;rcases Nat.eq_zero_or_pos (shN cm i) with h00|h00<;>(simp-dsimp only[opS];refine zqS ?_)))))|(refine aj ?_;refine Nxt.mk [0,1,2,3,4,9] (⟨i+1,omgz⟩) rfl (by unfold opS;have zx9:= @hps;have zx10:= @hnn;have zx11:= @h00;have zx12:=aA;exact cO) zqO)|(refine aj ?_;refine Nxt.mk [0,1,2,3,4,5] (⟨i+1,omgz⟩) rfl (by unfold opS;have zx9:= @hps;have zx10:= @hnn;have zx11:= @h00;have zx12:=aA;exact cO) zqO)|(refine aj ?_;refine Nxt.mk [0,1,2,3,4,19] (⟨i+1,omgz⟩) rfl (by unfold opS;have zx9:= @hps;have zx10:= @hnn;have zx11:= @h00;have zx12:=aA;exact cO) zqO)|(refine ah ?_;refine ak [0,2,3,5,99] ([0,2,3,5,99].length) (opP ys m LD N (oO P q cm n) p) (λi=>m-i.val) (⟨0,omgz⟩) rfl (by unfold opP;exact aO) ?_;(rintro⟨i,hi⟩;have zx7:=lQ i;rcases Nat.lt_or_eq_of_le hi with hil|hil<;>first|(have eQ:=hil.symm;subst eQ;(simp-dsimp only[opP];refine zqS ?_))|(have hyi:=hyq i hil;have hps:_=cR (qL p (i+1)):=dE (qL p i) (p i);rcases Nat.eq_zero_or_pos i with h00|h00<;>first|(subst h00;(simp-dsimp only[opP];refine zqS ?_))|(simp-dsimp only[opP];refine zqS ?_))))|(refine aj ?_;refine Nxt.mk [0,1,2,3,8] (⟨i+1,omgz⟩) rfl (by unfold opP;have zx9:= @hps;exact aO) zqO)|(refine aj ?_;refine Nxt.mk [0,1,2,3,7] (⟨i+1,omgz⟩) rfl (by unfold opP;have zx9:= @hps;exact aO) zqO)|(refine aj ?_;refine Nxt.mk [0,1,2,3,8] (⟨1,omgz⟩) rfl (by unfold opP;have zx9:= @hps;exact aO) zqO)|(refine aj ?_;refine Nxt.mk [0,1,2,3,7] (⟨1,omgz⟩) rfl (by unfold opP;have zx9:= @hps;exact aO) zqO)|refine zqN ?_|refine fC hpf.down ?_|refine fC hso.down ?_|refine fC hg.down ?_|refine fC w1.down ?_|refine fC w0.down ?_|refine fC hd.down ?_|refine fC hpr.down ?_|refine fC hqi.down ?_|refine fC hyi.down ?_|refine fC hci.down ?_|refine mh ?_|refine kg ?_|refine ko ?_|refine kr ?_|refine mo ?_|(refine mq ?_ ?_<;>intro hc<;>try exact zqM)|refine zqR [(8,7,[],1),(8,8,[2],0),(15,10,[],1),(15,11,[2],0)] ?_|refine zqD ?_|fail)
 all_goals first
  |(((refine Ends.frz 3 ?_;simp-dsimp(disch:=try exact vD) only[push_cast,simprocAttr,Tryz.f54,zx3,zx4];(repeat refine aI ?_);intro K hK;refine hK _ _ ?_;clear hK K);(refine Ends.frz 4 ?_;simp-dsimp(disch:=try exact vD) only[push_cast,simprocAttr,Tryz.f54,zx3,zx4];(repeat refine aI ?_);intro K hK;refine hK _ _ ?_;clear hK K);refine Ends.mk2 zqI [] ?_;simp-dsimp(disch:=try exact vD) only[push_cast,simprocAttr,Tryz.f54,zx3,zx4];try exact zqF);done)
  |skip
end
section
open Go Go.Sy Go.Bp Go.Lm Go.Rt
attribute [local irreducible] AO AL AC OpT ACall Ends DGo aK Thn Blk Nxt
variable {n N M k i m j r a H:Nat} {z z' cz:Bool} {v c e:Int} {A B:IV} {X Y W F R ZERO ONE LD:RV} {wr:List Nat} {cap xs ys:List RV} {K:List AV}
theorem U4(h:ACall Tryz.prog 76 [.val (.int .i64 v)] [] 0 (.agg (aa.cells A)) [])(h1:ACall Tryz.prog 76 [.val (.int .i64 1)] [] 0 (.agg (aa.cells B)) []):ACall Tryz.prog 101 [.val (.int .i64 v)] [] 0 (.agg (aa.cells (⟨A,B⟩:RV))) []:=by
 have h:=PLift.up h;have h1:=PLift.up h1
 rw[ax]
 refine az Tryz.func101 Tryz.ntmps101 rfl ?_
 repeat' (first|refine zqN ?_|refine aM h.down ?_|refine aM h1.down ?_|refine aY ?_|refine aZ ?_|(refine bf ?_ ?_<;>intro hc<;>try exact zqM))
 all_goals exact aB []
theorem GQ(h:ACall Tryz.prog 76 [.val (.int .i64 1)] [] 0 (.agg (aa.cells A)) []):ACall Tryz.prog 55 [] [] 0 (.agg (aa.cells (⟨⟨true,false,[]⟩,A⟩:RV))) []:=by
 have h:=PLift.up h
 rw[ax]
 refine az Tryz.func55 Tryz.ntmps55 rfl ?_
 repeat' (first|refine zqN ?_|refine aM h.down ?_|refine aY ?_|refine aZ ?_|(refine bf ?_ ?_<;>intro hc<;>try exact zqM))
 all_goals exact aB []
def onI(X:RV)(n:Nat)(j:{j:Nat // j<=n}):St:=
 ⟨13,0,[(3,fw j.val 0 4),(4,.val (.int .i64 n)),(5,.val (.int .i64 j.val))],fA j.val 0 (cR (iJ X j.val)) 60⟩
theorem Cm(h0:0<n)(hn:n<=1000)(h:ACall Tryz.prog 101 [.val (.int .i64 1)] [] 0 (.agg (aa.cells X)) []):ACall Tryz.prog 56 [.val (.int .i64 n)] [] 0 (.isl false (cR (iJ X n)) n) []:=by
 have h:=PLift.up h
 rw[ax X] at h
 have l1:=λ(j:Nat)=>Cj (ONE:=X) (j:=j)
 have o1:cR (iJ X 1)=[.val (.bool X.num.neg),.isl X.num.z (cI .u32 X.num.l) X.num.l.length,.val (.bool X.den.neg),.isl X.den.z (cI .u32 X.den.l) X.den.l.length]:=rfl
 have zx2:(cR (iJ X n)).take (n*4)=cR (iJ X n):=List.take_of_length_le (by rw[dF,l1];exact Nat.le_refl _)
 have zx1:=ae
 refine az Tryz.func56 Tryz.ntmps56 rfl ?_
 have zx3:=aA;repeat' (first|(refine ah ?_;refine ak [9] ([9].length) (onI X n) (λj=>n-j.val) (⟨0,omgz⟩) rfl (by unfold onI;exact ed) ?_;(rintro⟨j,hj⟩;have hlj:=l1 j;rcases Nat.lt_or_eq_of_le hj with hjl|hjl<;>first|(have eQ:=hjl.symm;subst eQ;(simp-dsimp only[onI];refine zqS ?_))|(rcases Nat.eq_zero_or_pos j with j0|j0<;>first|(subst j0;have zx1:=o1;(simp-dsimp only[onI];refine zqS ?_))|(have zx1:_=cR (iJ X (j+1)):=dE (iJ X j) X;(simp-dsimp only[onI];refine zqS ?_)))))|(refine aj ?_;refine Nxt.mk [2] (⟨j+1,omgz⟩) rfl (by unfold onI;exact ed) zqO)|(refine aj ?_;refine Nxt.mk [1] (⟨j+1,omgz⟩) rfl (by unfold onI;exact ed) zqO)|(refine aj ?_;refine Nxt.mk [0] (⟨j+1,omgz⟩) rfl (by unfold onI;exact ed) zqO)|(refine aj ?_;refine Nxt.mk [2] (⟨1,omgz⟩) rfl (by unfold onI;exact ed) zqO)|(refine aj ?_;refine Nxt.mk [1] (⟨1,omgz⟩) rfl (by unfold onI;exact ed) zqO)|(refine aj ?_;refine Nxt.mk [0] (⟨1,omgz⟩) rfl (by unfold onI;exact ed) zqO)|refine zqN ?_|refine eG h.down ?_|refine dm ?_|refine oV ?_|refine oW ?_|refine oZ ?_|refine dn ?_|(refine dw ?_ ?_<;>intro hc<;>try exact zqM))
 all_goals first
  |(((refine Ends.frz 0 ?_;simp-dsimp(disch:=try exact vD) only[push_cast,simprocAttr,Tryz.f56,zx2];(repeat refine aI ?_);intro K hK;refine hK _ _ ?_;clear hK K);refine Ends.mk2 zqI [] ?_;simp-dsimp(disch:=try exact vD) only[push_cast,simprocAttr,Tryz.f56,zx2];try exact zqF);done)
  |skip
theorem Cn{ss:List Sh}(h0:0<n)(hn:n<=400)(hl:wr.length=n)(ha:wr.getD 0 default=a)(hz:ACall Tryz.prog 55 [] [] 0 (.agg (aa.cells F)) [])(ho:ACall Tryz.prog 56 [.val (.int .i64 m)] [] 0 (.isl false (cR cap) m) [])
 (hop:ACall Tryz.prog 54 [.isl false [.val (.int .u16 (U a))] 1,.isl false (cX wr) n,.agg (aa.cells F),.isl false (cR cap) m] [] 0 (.tup [.agg (r4 LD++[.isl false (cR ss) N,.isl false (cR ys) m]),.val (.int .i64 0)]) [])
 (hc:ACall Tryz.prog 57 [.isl false [.val (.int .u16 (U a))] 1,.isl false (cX wr) n,.agg (aa.cells F),.isl false (cR cap) m,.agg (r4 LD++[.isl false (cR ss) N,.isl false (cR ys) m])] [] 0 (.val (.bool true)) []):
 ACall Tryz.prog 21 [.isl false (cX wr) n,.val (.int .i64 m)] [] 0 (.tup [.agg (aa.cells LD),.val (.int .i64 0)]) []:=by
 have hz:=PLift.up hz;have ho:=PLift.up ho;have hop:=PLift.up hop;have hc:=PLift.up hc
 rw[ax F] at hz hop hc
 rw[ax LD]
 unfold r4 at hop hc
 simp only[List.cons_append,List.nil_append] at hop hc
 have zx1:(cX wr).take 1=[.val (.int .u16 (U a))]:=by
  cases wr with
  |nil=>simp at hl;omega
  |cons x l=>have e:x=a:=ha;subst e;rfl
 refine az Tryz.func21 Tryz.ntmps21 rfl ?_
 have zx2:=aA;have zx3:=aA;repeat' (first|refine zqN ?_|refine eG hz.down ?_|refine eG ho.down ?_|refine eG hop.down ?_|refine eG hc.down ?_|refine dm ?_|refine oV ?_|refine oW ?_|refine oZ ?_|refine dn ?_|(refine dw ?_ ?_<;>intro hc<;>try exact zqM)|refine zqR [(1,10,[],1),(1,11,[2],0)] ?_|refine zqD ?_|fail)
 all_goals exact aB []
theorem Em(hl:ACall Tryz.prog 21 [.isl false [.val (.int .u16 3),.val (.int .u16 5),.val (.int .u16 6)] 3,.val (.int .i64 3)] [] 0 (.tup [.agg (aa.cells LD),.val (.int .i64 0)]) [])(hr:ACall Tryz.prog 8 [.isl false [.val (.int .u16 3),.val (.int .u16 5),.val (.int .u16 6)] 3] [] 0 (.tup [.val (.int .i64 1),.val (.int .i64 0)]) [])
 (ho:ACall Tryz.prog 32 [.val (.int .i64 2),.val (.int .i64 3)] [] 0 (.tup [.agg (aa.cells W),.val (.int .i64 0)]) []) (he:ACall Tryz.prog 23 [.agg (aa.cells LD),.agg (aa.cells W)] [] 0 (.val (.bool true)) []):ACall Tryz.prog 7 [] [] 0 (.val (.bool true)) []:=by
 have hl:=PLift.up hl;have hr:=PLift.up hr;have ho:=PLift.up ho;have he:=PLift.up he
 rw[ax LD] at hl he
 rw[ax W] at ho he
 refine az Tryz.func7 Tryz.ntmps7 rfl ?_
 repeat' (first|((first|refine bT (r:=2) 0 ?_|refine bS (r:=2) 0 ?_);refine jo ?_;intro K hK;refine hK _ _ ?_;clear hK K)|refine zqN ?_|refine aM hl.down ?_|refine aM hr.down ?_|refine aM ho.down ?_|refine aM he.down ?_|refine aY ?_|refine aZ ?_|(refine bf ?_ ?_<;>intro hc<;>try exact zqM))
 all_goals exact aB []
end
