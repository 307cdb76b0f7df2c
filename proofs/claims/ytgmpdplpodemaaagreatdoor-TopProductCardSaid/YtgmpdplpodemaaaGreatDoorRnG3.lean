/- Rn3 So9 So9_0 So9_1 So9_2 Rn9. No condition. -/
import Derived.Test.YtgmpdplpodemaaaGreatDoorLaG8
set_option linter.all false
set_option maxHeartbeats 4000000
set_option maxRecDepth 20000
namespace Go.Proofs.YtgmpdplpodemaaaGreatDoor
section
open Go Go.Sy Go.Bp Go.Lm Go.Rt
attribute [local irreducible] AO AL AC OpT ACall Ends DGo aK Thn Blk Nxt
variable {n W k i j q S o:Nat} {cz:Bool} {xs:List RV} {ZERO X:RV} {Ro:Nat->Nat->List RV} {bs:Nat->List Int} {kk ii:Nat->Nat}
abbrev UJ(n W:Nat)(Ro:Nat->Nat->List RV)(bs:Nat->List Int)(s:Nat):List aC:=[.cells [.val (.int .i64 3),.val (.int .i64 n),.sl 1 0 4 1,.sl 2 0 3 1,.val (.int .i64 0)] 197,.cells [.sl 3 0 W 4,.sl 4 0 W 4,.sl 5 0 W 4,.sl 6 0 W 4] 103,.cells (cI .i64 (bs s)) 3,.cells (cR (Ro s 0)) 60,.cells (cR (Ro s 1)) 60,.cells (cR (Ro s 2)) 60,.cells (cR (Ro s 3)) 60]
abbrev UK(n W:Nat)(Ro:Nat->Nat->List RV)(bs:Nat->List Int)(s:Nat):List AV:=[.val (.int .i64 3),.val (.int .i64 n),.isl false [.isl false (cR (Ro s 0)) W,.isl false (cR (Ro s 1)) W,.isl false (cR (Ro s 2)) W,.isl false (cR (Ro s 3)) W] 4,.isl false (cI .i64 (bs s)) 3,.val (.int .i64 0)]
def UL(n W:Nat)(Ro:Nat->Nat->List RV)(bs:Nat->List Int)(S:Nat)(s:{s:Nat // s<=S}):St:=
 ⟨38,7,[(0,.pt 0 0)],[(0,some (.cells [.val (.int .i64 3),.val (.int .i64 n),.sl 1 0 4 1,.sl 2 0 3 1,.val (.int .i64 0)] 197)),(1,some (.cells [.sl 3 0 W 4,.sl 4 0 W 4,.sl 5 0 W 4,.sl 6 0 W 4] 103)),(2,some (.cells (cI .i64 (bs s.val)) 3)),(3,some (.cells (cR (Ro s.val 0)) 60)),(4,some (.cells (cR (Ro s.val 1)) 60)),(5,some (.cells (cR (Ro s.val 2)) 60)),(6,some (.cells (cR (Ro s.val 3)) 60))]⟩
theorem Oy(hW:W<=500)(hR:∀s r,s<=S->r<=3->(Ro s r).length=W)(hB:∀s,s<=S->(bs s).length=3)(hE:∀s,s<S->ACall Tryz.prog 173 [.ipt (UK n W Ro bs s) 0] [] 0 (.val (.int .i64 (kk s))) [])(hE1:ACall Tryz.prog 173 [.ipt (UK n W Ro bs S) 0] [] 0 (.val (.int .i64 (-1))) [])
 (hL:∀s,s<S->ACall Tryz.prog 174 [.ipt (UK n W Ro bs s) 0,.val (.int .i64 (kk s))] [] 0 (.val (.int .i64 (ii s))) []) (hP:∀s,s<S->ACall Tryz.prog 175 [.pt 0 0,.val (.int .i64 (ii s)),.val (.int .i64 (kk s))] (UJ n W Ro bs s) 7 (.tup []) (UJ n W Ro bs (s+1))):
 ACall Tryz.prog 129 [.pt 0 0] (UJ n W Ro bs 0) 7 (.tup [.val (.int .i64 (-1)),.val (.int .i64 0)]) (UJ n W Ro bs S):=by
 have hEq:=λ(s:Nat) (h:s<S)=>PLift.up (hE s h);have hLq:=λ(s:Nat) (h:s<S)=>PLift.up (hL s h);have hPq:=λ(s:Nat) (h:s<S)=>PLift.up (hP s h);have hE1:=PLift.up hE1
 clear hE hL hP
 unfold UK UJ at*
 have hEs:=ae;have hLs:=ae;have hPs:=ae
 have zx1:=ae;have zx2:=ae;have zx4:=ae;have zx6:=ae;have zx8:=ae;have zx3:=ae;have zx5:=ae;have zx7:=ae;have zx9:=ae
 refine az Tryz.func129 Tryz.ntmps129 rfl ?_
 repeat' (first|(refine ah ?_;refine ak [0,1,2,3,4,5,6] ([0,1,2,3,4,5,6].length) (UL n W Ro bs S) (λs=>S-s.val) (⟨0,omgz⟩) rfl (by unfold UL;exact aO) ?_;(rintro⟨s,hs⟩;have zx1:=hB s hs;have zx2:=hR s 0 hs omgz;have zx4:=hR s 1 hs omgz;have zx6:=hR s 2 hs omgz;have zx8:=hR s 3 hs omgz;have zx3:(cR (Ro s 0)).take (W*4)=cR (Ro s 0):=List.take_of_length_le (by rw[dF,zx2];exact Nat.le_refl _);have zx5:(cR (Ro s 1)).take (W*4)=cR (Ro s 1):=List.take_of_length_le (by rw[dF,zx4];exact Nat.le_refl _);have zx7:(cR (Ro s 2)).take (W*4)=cR (Ro s 2):=List.take_of_length_le (by rw[dF,zx6];exact Nat.le_refl _);have zx9:(cR (Ro s 3)).take (W*4)=cR (Ro s 3):=List.take_of_length_le (by rw[dF,zx8];exact Nat.le_refl _);rcases Nat.lt_or_eq_of_le hs with hsl|hsl<;>first|(have eQ:=hsl.symm;subst eQ;have hEs:=hE1;(simp-dsimp only[UL];refine zqS ?_))|(have hEs:=hEq s hsl;have hLs:=hLq s hsl;have hPs:=hPq s hsl;(simp-dsimp only[UL];refine zqS ?_))))|(refine aj ?_;refine Nxt.mk [0,1,2,3,4,5,6] (⟨s+1,omgz⟩) rfl (by unfold UL;exact aO) zqO)|refine zqN ?_|((first|refine ay rfl (λK hK=>?_)|refine au (λK hK=>?_)|refine aD (λK hK=>?_));(first|refine ai (f:=173) [] 0 true ?_|refine ai (f:=174) [] 0 true ?_|refine ai (f:=175) [0,1,2,3,4,5,6] 7 false ?_);refine Qw ?_;(first|refine⟨_,_,hEs.down,?_⟩|refine⟨_,_,hLs.down,?_⟩|refine⟨_,_,hPs.down,?_⟩);refine sJ ?_;apply hK;clear hK K)|refine mh ?_|refine mo ?_|(refine mq ?_ ?_<;>intro hc<;>try exact zqM)|refine zqR [] ?_|refine zqD ?_|fail)
 all_goals exact aB [0,1,2,3,4,5,6]
theorem Ap(hl:o+n<=xs.length)(hn:0<n)(hb:xs.length<=10000):ACall Tryz.prog 132 [.sl 0 (o*4) n 4] [.cells (cR xs) 60] 1 (.sl 1 0 n 4) [.cells (cR xs) 60,.cells (cR ((xs.drop o).take n)) 60]:=by
 have zx1:((xs.drop o).take n).length=n:=by rw[List.length_take,List.length_drop];omega
 refine az Tryz.func132 Tryz.ntmps132 rfl ?_
 have zx2:=aA;have zx3:=aA;repeat' (first|refine zqN ?_|refine dm ?_|refine oV ?_|refine oW ?_|refine oZ ?_|refine dn ?_|(refine dw ?_ ?_<;>intro hc<;>try exact zqM))
 all_goals exact aB [0,2]
def xzL(ZERO:RV)(w:Nat):Nat->List RV
 |0=>List.replicate w rZ
 |j+1=>(xzL ZERO w j).set j ZERO
theorem Ed{w:Nat}:(xzL ZERO w j).length=w:=by
 induction j with
 |zero=>exact List.length_replicate
 |succ j ih=>rw[xzL,List.length_set,ih]
def xbL(ZERO:RV)(w:Nat)(v:Nat->Nat)(z:Nat->RV):Nat->List RV
 |0=>xzL ZERO w w
 |i+1=>(xbL ZERO w v z i).set (v i) (z i)
theorem Ee{w:Nat} {v:Nat->Nat} {z:Nat->RV}:(xbL ZERO w v z i).length=w:=by
 induction i with
 |zero=>exact Ed
 |succ i ih=>rw[xbL,List.length_set,ih]
theorem acX{w:Nat}:eO [.bool false,.slice none 0 0,.bool false,.slice none 0 0] w=cR (List.replicate w rZ):=aeI rfl
def UM(CA CB CC:List AV)(cz:Bool)(n W w:Nat)(b:List Int)(R0 R1 R2 R3:List RV)(ZERO:RV)(j:{j:Nat // j<=w}):St:=
 ⟨102,0,[(1,.pt 0 0),(2,.pt 1 0),(5,.pt 2 0),(8,.sl 9 0 w 4),(37,.val (.int .i64 w)),(38,.val (.int .i64 j.val))],[(0,some (.cells [.isl false CA 3,.isl cz CB 3,.isl false CC n] 150)),(1,some (.cells [.val (.bool false),.isl true [] 0,.val (.bool false),.isl true [] 0,.isl true [] 0,.isl true [] 0] 154)),(2,some (.cells [.val (.int .i64 3),.val (.int .i64 n),.sl 3 0 4 1,.sl 4 0 3 1,.val (.int .i64 0)] 197)),(3,some (.cells [.sl 5 0 W 4,.sl 6 0 W 4,.sl 7 0 W 4,.sl 8 0 W 4] 103)),(4,some (.cells (cI .i64 b) 3)),(5,some (.cells (cR R0) 60)),(6,some (.cells (cR R1) 60)),(7,some (.cells (cR R2) 60)),(8,some (.cells (cR R3) 60)),(9,some (.cells (cR (xzL ZERO w j.val)) 60))]⟩
def Ef(CA CB CC:List AV)(cz:Bool)(n W w:Nat)(b:List Int)(R0 R1 R2 R3:List RV)(ZERO:RV)(v:Nat->Nat)(z:Nat->RV)(i:{i:Nat // i<=3}):St:=
 ⟨102,0,[(1,.pt 0 0),(2,.pt 1 0),(5,.pt 2 0),(8,.sl 9 0 w 4),(49,.sl 4 0 3 1),(50,.val (.int .i64 3)),(51,.val (.int .i64 i.val))],[(0,some (.cells [.isl false CA 3,.isl cz CB 3,.isl false CC n] 150)),(1,some (.cells [.val (.bool false),.isl true [] 0,.val (.bool false),.isl true [] 0,.isl true [] 0,.isl true [] 0] 154)),(2,some (.cells [.val (.int .i64 3),.val (.int .i64 n),.sl 3 0 4 1,.sl 4 0 3 1,.val (.int .i64 0)] 197)),(3,some (.cells [.sl 5 0 W 4,.sl 6 0 W 4,.sl 7 0 W 4,.sl 8 0 W 4] 103)),(4,some (.cells (cI .i64 b) 3)),(5,some (.cells (cR R0) 60)),(6,some (.cells (cR R1) 60)),(7,some (.cells (cR R2) 60)),(8,some (.cells (cR R3) 60)),(9,some (.cells (cR (xbL ZERO w v z i.val)) 60))]⟩
theorem GH{w:Nat} {CA CB CC:List AV} {b b0:List Int} {Q:Nat->List RV} {R0 R1 R2 R3:List RV} {v:Nat->Nat} {z:Nat->RV}(hn:1<=n)(hn2:n<=400)(hw:n+3=w)(hW:w+1=W)(hb:b.length=3)(hl0:R0.length=W)(hl1:R1.length=W)(hl2:R2.length=W)(hl3:R3.length=W)(hv:∀i,i<3->b.getD i default=(v i:Int)/\v i<w)(hz0:R0.getD w default=z 0)(hz1:R1.getD w default=z 1)(hz2:R2.getD w default=z 2)
 (hva:ACall Tryz.prog 127 [.agg [.isl false CA 3,.isl cz CB 3,.isl false CC n]] [] 0 (.val (.int .i64 0)) []) (hbg:ACall Tryz.prog 128 [.agg [.isl false CA 3,.isl cz CB 3,.isl false CC n]] [] 0 (.pt 0 0) [.cells [.val (.int .i64 3),.val (.int .i64 n),.sl 1 0 4 1,.sl 2 0 3 1,.val (.int .i64 0)] 197,.cells [.sl 3 0 W 4,.sl 4 0 W 4,.sl 5 0 W 4,.sl 6 0 W 4] 103,.cells (cI .i64 b0) 3,.cells (cR (Q 0)) 60,.cells (cR (Q 1)) 60,.cells (cR (Q 2)) 60,.cells (cR (Q 3)) 60]) (hr:ACall Tryz.prog 129 [.pt 0 0] [.cells [.val (.int .i64 3),.val (.int .i64 n),.sl 1 0 4 1,.sl 2 0 3 1,.val (.int .i64 0)] 197,.cells [.sl 3 0 W 4,.sl 4 0 W 4,.sl 5 0 W 4,.sl 6 0 W 4] 103,.cells (cI .i64 b0) 3,.cells (cR (Q 0)) 60,.cells (cR (Q 1)) 60,.cells (cR (Q 2)) 60,.cells (cR (Q 3)) 60] 7 (.tup [.val (.int .i64 (-1)),.val (.int .i64 0)]) [.cells [.val (.int .i64 3),.val (.int .i64 n),.sl 1 0 4 1,.sl 2 0 3 1,.val (.int .i64 0)] 197,.cells [.sl 3 0 W 4,.sl 4 0 W 4,.sl 5 0 W 4,.sl 6 0 W 4] 103,.cells (cI .i64 b) 3,.cells (cR R0) 60,.cells (cR R1) 60,.cells (cR R2) 60,.cells (cR R3) 60])
 (h0:ACall Tryz.prog 131 [] [] 0 (.agg (aa.cells ZERO)) []):
 ACall Tryz.prog 94 [.agg [.isl false CA 3,.isl cz CB 3,.isl false CC n]] [] 0 (.tup [.agg (r4 (R3.getD w default)++[.isl false (cR ((xbL ZERO w v z 3).take n)) n,.isl false (cR ((R3.drop n).take 3)) 3]),.val (.int .i64 0)]) []:=by
 have hva:=PLift.up hva;have hbg:=PLift.up hbg;have hr:=PLift.up hr;have h0:=PLift.up h0
 rw[ax ZERO] at h0
 have hwd:=PLift.up (qj (m:=3) (n:=n) (A1:= .isl false [.isl false (cR R0) W,.isl false (cR R1) W,.isl false (cR R2) W,.isl false (cR R3) W] 4) (A2:= .isl false (cI .i64 b) 3) (A3:= .val (.int .i64 0)) omgz omgz)
 rw[hw] at hwd
 have hco:=PLift.up (Ap (xs:=R3) (o:=n) (n:=3) omgz omgz omgz)
 have lz:=λ(j:Nat)=>Ed (ZERO:=ZERO) (w:=w) (j:=j)
 have lb:=λ(i:Nat)=>Ee (ZERO:=ZERO) (w:=w) (v:=v) (z:=z) (i:=i)
 have zx3:eO [.bool false,.slice none 0 0,.bool false,.slice none 0 0] w=cR (xzL ZERO w 0):=acX
 have zx4:cR (xzL ZERO w w)=cR (xbL ZERO w v z 0):=rfl
 have zx16:(cR R0).take (W*4)=cR R0:=List.take_of_length_le (by rw[dF,hl0];exact Nat.le_refl _);have zx17:(cR R1).take (W*4)=cR R1:=List.take_of_length_le (by rw[dF,hl1];exact Nat.le_refl _);have zx18:(cR R2).take (W*4)=cR R2:=List.take_of_length_le (by rw[dF,hl2];exact Nat.le_refl _);have zx19:(cR R3).take (W*4)=cR R3:=List.take_of_length_le (by rw[dF,hl3];exact Nat.le_refl _)
 have zx1:w-n=3:=by omega
 have hx1:(cR (xbL ZERO w v z 3)).take (n*4)=cR ((xbL ZERO w v z 3).take n):=xC
 have hx2:(cR ((R3.drop n).take 3)).take 12=cR ((R3.drop n).take 3):=List.take_of_length_le (by rw[dF,List.length_take,List.length_drop];omega)
 have hjl:=ae;have zx5:=ae;have zx6:=ae;have zx7:=ae;have zx8:=ae
 simp only[r4,List.cons_append,List.nil_append]
 refine az Tryz.func94 Tryz.ntmps94 rfl ?_
 have zx2:= @hb;have zx9:= @hl0;have zx10:= @hl1;have zx11:= @hl2;have zx12:= @hl3;have zx13:= @hz0;have zx14:= @hz1;have zx15:= @hz2;have zx20:=aA;repeat' (first|(refine ah ?_;refine ak [0,1,2,3,4,5,6,7,8,9] ([0,1,2,3,4,5,6,7,8,9].length) (UM CA CB CC cz n W w b R0 R1 R2 R3 ZERO) (λj=>w-j.val) (⟨0,omgz⟩) rfl (by unfold UM;exact mr) ?_;(rintro⟨j,hj⟩;have zx7:=lz j;rcases Nat.lt_or_eq_of_le hj with hjl|hjl<;>first|(have eQ:=hjl.symm;subst eQ;(simp-dsimp only[UM];refine zqS ?_))|(have zx5:spl (cR (xzL ZERO w j)) (j*4) [.val (.bool ZERO.num.neg),.isl ZERO.num.z (cI .u32 ZERO.num.l) ZERO.num.l.length,.val (.bool ZERO.den.neg),.isl ZERO.den.z (cI .u32 ZERO.den.l) ZERO.den.l.length]=cR (xzL ZERO w (j+1)):=ahi omgz;(simp-dsimp only[UM];refine zqS ?_))))|(refine aj ?_;refine Nxt.mk [0,1,2,3,4,5,6,7,8,9] (⟨j+1,omgz⟩) rfl (by unfold UM;exact mr) zqO)|(refine ah ?_;refine ak [0,1,2,3,4,5,6,7,8,9] ([0,1,2,3,4,5,6,7,8,9].length) (Ef CA CB CC cz n W w b R0 R1 R2 R3 ZERO v z) (λi=>3-i.val) (⟨0,omgz⟩) rfl (by unfold Ef;exact mr) ?_;(rintro⟨i,hi⟩;have zx7:=lb i;have hi2:i=0\/i=1\/i=2\/i=3:=omgz;rcases hi2 with hi2|hi2|hi2|hi2<;>first|((have hr3:i=0:=hi2);subst hi2;have zx6:=(hv 0 (by decide)).1;have hvi:=(hv 0 (by decide)).2;have zx5:=wX (X:=z 0) (ps:=xbL ZERO w v z 0) (sv:=v 0) omgz;have zx8:(xbL ZERO w v z 0).set (v 0) (z 0)=xbL ZERO w v z 1:=rfl;(simp-dsimp only[Ef];refine zqS ?_))|((have hr3:i=1:=hi2);subst hi2;have zx6:=(hv 1 (by decide)).1;have hvi:=(hv 1 (by decide)).2;have zx5:=wX (X:=z 1) (ps:=xbL ZERO w v z 1) (sv:=v 1) omgz;have zx8:(xbL ZERO w v z 1).set (v 1) (z 1)=xbL ZERO w v z 2:=rfl;(simp-dsimp only[Ef];refine zqS ?_))|((have hr3:i=2:=hi2);subst hi2;have zx6:=(hv 2 (by decide)).1;have hvi:=(hv 2 (by decide)).2;have zx5:=wX (X:=z 2) (ps:=xbL ZERO w v z 2) (sv:=v 2) omgz;have zx8:(xbL ZERO w v z 2).set (v 2) (z 2)=xbL ZERO w v z 3:=rfl;(simp-dsimp only[Ef];refine zqS ?_))|((have hr3:i=3:=hi2);subst hi2;(simp-dsimp only[Ef];refine zqS ?_))))|(refine aj ?_;refine Nxt.mk [0,1,2,3,4,5,6,7,8,9] (⟨1,omgz⟩) rfl (by unfold Ef;exact mr) zqO)|(refine aj ?_;refine Nxt.mk [0,1,2,3,4,5,6,7,8,9] (⟨2,omgz⟩) rfl (by unfold Ef;exact mr) zqO)|(refine aj ?_;refine Nxt.mk [0,1,2,3,4,5,6,7,8,9] (⟨3,omgz⟩) rfl (by unfold Ef;exact mr) zqO)|refine zqN ?_|((first|refine ay rfl (λK hK=>?_)|refine au (λK hK=>?_)|refine J7 [8] (λK hK=>?_));refine ai (f:=132) [8] 1 false ?_;refine QF ?_;refine⟨_,_,hco.down,?_⟩;refine Kj ?_;apply hK;clear hK K)|((first|refine ay rfl (λK hK=>?_)|refine au (λK hK=>?_)|refine aD (λK hK=>?_));(first|refine ai (f:=127) [] 0 false ?_|refine ai (f:=128) [] 0 false ?_|refine ai (f:=129) [2,3,4,5,6,7,8] 7 false ?_|refine ai (f:=130) [] 0 true ?_|refine ai (f:=131) [] 0 false ?_);refine QF ?_;(first|refine⟨_,_,hva.down,?_⟩|refine⟨_,_,hbg.down,?_⟩|refine⟨_,_,hr.down,?_⟩|refine⟨_,_,hwd.down,?_⟩|refine⟨_,_,h0.down,?_⟩);refine Kj ?_;apply hK;clear hK K)|refine QB ?_|refine QC ?_|refine QD ?_|refine QE ?_|refine QG ?_|(refine QH ?_ ?_<;>intro hc<;>try exact zqM)|refine zqR [(19,14,[2],0),(22,19,[],1),(22,21,[2],0)] ?_|refine zqD ?_|fail)
 all_goals first
  |(((refine Ends.frz 9 ?_;simp-dsimp(disch:=try exact vD) only[push_cast,simprocAttr,Tryz.f94,hx1,hx2];(repeat refine aI ?_);intro K hK;refine hK _ _ ?_;clear hK K);(refine Ends.frz 10 ?_;simp-dsimp(disch:=try exact vD) only[push_cast,simprocAttr,Tryz.f94,hx1,hx2];(repeat refine aI ?_);intro K hK;refine hK _ _ ?_;clear hK K);refine Ends.mk2 zqI [] ?_;simp-dsimp(disch:=try exact vD) only[push_cast,simprocAttr,Tryz.f94,hx1,hx2];try exact zqF);done)
  |skip
end
set_option maxHeartbeats 20000000
section
open Go Go.Sy Go.Bp Go.Lm Go.Rt
attribute [local irreducible] AO AL AC OpT ACall Ends DGo aK Thn Blk Nxt
def UU(CA CB CC:List AV)(cz:Bool)(n W w:Nat)(b:List Int)(R:Nat->List RV)(ZERO:RV)(j:{j:Nat // j<=w}):St:=
 ⟨102,0,[(1,.pt 0 0),(2,.pt 1 0),(5,.pt 2 0),(8,.sl 15 0 w 4),(37,.val (.int .i64 w)),(38,.val (.int .i64 j.val))],[(0,some (.cells [.isl false CA 9,.isl cz CB 9,.isl false CC n] 150)),(1,some (.cells [.val (.bool false),.isl true [] 0,.val (.bool false),.isl true [] 0,.isl true [] 0,.isl true [] 0] 154)),(2,some (.cells [.val (.int .i64 9),.val (.int .i64 n),.sl 3 0 10 1,.sl 4 0 9 1,.val (.int .i64 0)] 197)),(3,some (.cells [.sl 5 0 W 4,.sl 6 0 W 4,.sl 7 0 W 4,.sl 8 0 W 4,.sl 9 0 W 4,.sl 10 0 W 4,.sl 11 0 W 4,.sl 12 0 W 4,.sl 13 0 W 4,.sl 14 0 W 4] 103)),(4,some (.cells (cI .i64 b) 3)),(5,some (.cells (cR (R 0)) 60)),(6,some (.cells (cR (R 1)) 60)),(7,some (.cells (cR (R 2)) 60)),(8,some (.cells (cR (R 3)) 60)),(9,some (.cells (cR (R 4)) 60)),(10,some (.cells (cR (R 5)) 60)),(11,some (.cells (cR (R 6)) 60)),(12,some (.cells (cR (R 7)) 60)),(13,some (.cells (cR (R 8)) 60)),(14,some (.cells (cR (R 9)) 60)),(15,some (.cells (cR (xzL ZERO w j.val)) 60))]⟩
def JQ(CA CB CC:List AV)(cz:Bool)(n W w:Nat)(b:List Int)(R:Nat->List RV)(ZERO:RV)(v:Nat->Nat)(z:Nat->RV)(i:{i:Nat // i<=9}):St:=
 ⟨102,0,[(1,.pt 0 0),(2,.pt 1 0),(5,.pt 2 0),(8,.sl 15 0 w 4),(49,.sl 4 0 9 1),(50,.val (.int .i64 9)),(51,.val (.int .i64 i.val))],[(0,some (.cells [.isl false CA 9,.isl cz CB 9,.isl false CC n] 150)),(1,some (.cells [.val (.bool false),.isl true [] 0,.val (.bool false),.isl true [] 0,.isl true [] 0,.isl true [] 0] 154)),(2,some (.cells [.val (.int .i64 9),.val (.int .i64 n),.sl 3 0 10 1,.sl 4 0 9 1,.val (.int .i64 0)] 197)),(3,some (.cells [.sl 5 0 W 4,.sl 6 0 W 4,.sl 7 0 W 4,.sl 8 0 W 4,.sl 9 0 W 4,.sl 10 0 W 4,.sl 11 0 W 4,.sl 12 0 W 4,.sl 13 0 W 4,.sl 14 0 W 4] 103)),(4,some (.cells (cI .i64 b) 3)),(5,some (.cells (cR (R 0)) 60)),(6,some (.cells (cR (R 1)) 60)),(7,some (.cells (cR (R 2)) 60)),(8,some (.cells (cR (R 3)) 60)),(9,some (.cells (cR (R 4)) 60)),(10,some (.cells (cR (R 5)) 60)),(11,some (.cells (cR (R 6)) 60)),(12,some (.cells (cR (R 7)) 60)),(13,some (.cells (cR (R 8)) 60)),(14,some (.cells (cR (R 9)) 60)),(15,some (.cells (cR (xbL ZERO w v z i.val)) 60))]⟩
def Bl(i:Nat):Prop:=∀{CA CB CC:List AV} {cz:Bool} {n W w:Nat} {b:List Int} {R:Nat->List RV} {ZERO:RV} {v:Nat->Nat} {z:Nat->RV} {Q:Exit->Nat->St->Prop} (hi:i<=9) (hn2:n<=400) (hw:n+9=w) (hW:w+1=W) (hb:b.length=9) (hl:∀r,r<=9->(R r).length=W) (hv:b.getD i default=(v i:Int)) (hvw:v i<w) (hz:(R i).getD w default=z i),
    AC Tryz.prog (cAt [1,1,1,1,1,1,1,1,0,1,0,0] (Tryz.f94.body.getD .skip)) (Thn (λ_ s=>Nxt (JQ CA CB CC cz n W w b R ZERO v z) (λi=>9-i.val) ([0,1,2,3,4,5,6,7,8,9,10,11,12,13,14,15]:List Nat).length ⟨i,hi⟩ s) Q) ([0,1,2,3,4,5,6,7,8,9,10,11,12,13,14,15]:List Nat).length (JQ CA CB CC cz n W w b R ZERO v z ⟨i,hi⟩)
theorem jD{xs:List RV} {W:Nat}(h:xs.length=W):(cR xs).take (W*4)=cR xs:=List.take_of_length_le (by rw[dF,h];exact Nat.le_refl _)
theorem Eh{P:Prop}(h:P:=by
 intro i hi CA CB CC cz n W w b R ZERO v z Q him hn2 hw hW hb hl hv hvw hz
 have hwd:=PLift.up (qj (m:=9) (n:=n) (A1:= .isl false [.isl false (cR (R 0)) W,.isl false (cR (R 1)) W,.isl false (cR (R 2)) W,.isl false (cR (R 3)) W,.isl false (cR (R 4)) W,.isl false (cR (R 5)) W,.isl false (cR (R 6)) W,.isl false (cR (R 7)) W,.isl false (cR (R 8)) W,.isl false (cR (R 9)) W] 10) (A2:= .isl false (cI .i64 b) 9) (A3:= .val (.int .i64 0)) omgz omgz)
 rw[hw] at hwd
 have hll:=Ee (ZERO:=ZERO) (w:=w) (v:=v) (z:=z) (i:=i)
 have hst:=wX (X:=z i) (ps:=xbL ZERO w v z i) (sv:=v i) omgz
 have hsx:(xbL ZERO w v z i).set (v i) (z i)=xbL ZERO w v z (i+1):=rfl
 have zx3:=And.intro (jD (hl 0 omgz)) (And.intro (jD (hl 1 omgz)) (And.intro (jD (hl 2 omgz)) (And.intro (jD (hl 3 omgz)) (And.intro (jD (hl 4 omgz)) (And.intro (jD (hl 5 omgz)) (And.intro (jD (hl 6 omgz)) (And.intro (jD (hl 7 omgz)) (And.intro (jD (hl 8 omgz)) ((jD (hl 9 omgz)))))))))))
 have zx2:=And.intro (hl 0 omgz) (And.intro (hl 1 omgz) (And.intro (hl 2 omgz) (And.intro (hl 3 omgz) (And.intro (hl 4 omgz) (And.intro (hl 5 omgz) (And.intro (hl 6 omgz) (And.intro (hl 7 omgz) (And.intro (hl 8 omgz) ((hl 9 omgz))))))))))
 obtain⟨i1,zx4⟩:∃i1,i1=i+1:=⟨_,rfl⟩
 subst hi
 have zx1:=And.intro hb (And.intro hv (And.intro hz (And.intro hll (And.intro hst hsx))))
 (simp-dsimp only[JQ];refine zqS ?_)
 all_goals(have zx5:=aA;have zx6:=aA;repeat' (first|(refine aj ?_;refine Nxt.mk [0,1,2,3,4,5,6,7,8,9,10,11,12,13,14,15] (⟨i1,omgz⟩) rfl (by unfold JQ;exact dK) zqO)|refine zqN ?_|((first|refine ay rfl (λK hK=>?_)|refine au (λK hK=>?_)|refine aD (λK hK=>?_));(first|refine ai (f:=130) [] 0 true ?_);refine vT ?_;(first|refine⟨_,_,hwd.down,?_⟩);refine nP ?_;apply hK;clear hK K)|refine kI ?_|refine uy ?_|refine uz ?_|refine uA ?_|refine kJ ?_|(refine kK ?_ ?_<;>intro hc<;>try exact zqM)|refine zqR [(19,14,[2],0),(22,21,[2],0)] ?_|refine zqD ?_|fail))
 all_goals trace_state):P:=h
end
section
open Go Go.Sy Go.Bp Go.Lm Go.Rt
attribute [local irreducible] AO AL AC OpT ACall Ends DGo aK Thn Blk Nxt
theorem aj4:∀i,i=0->Bl i:=by exact Eh
theorem aj5:∀i,i=1->Bl i:=by exact Eh
theorem aj6:∀i,i=2->Bl i:=by exact Eh
end
section
open Go Go.Sy Go.Bp Go.Lm Go.Rt
attribute [local irreducible] AO AL AC OpT ACall Ends DGo aK Thn Blk Nxt
theorem aj7:∀i,i=3->Bl i:=by exact Eh
theorem aj8:∀i,i=4->Bl i:=by exact Eh
theorem aj9:∀i,i=5->Bl i:=by exact Eh
end
section
open Go Go.Sy Go.Bp Go.Lm Go.Rt
attribute [local irreducible] AO AL AC OpT ACall Ends DGo aK Thn Blk Nxt
theorem aka:∀i,i=6->Bl i:=by exact Eh
theorem akb:∀i,i=7->Bl i:=by exact Eh
theorem akc:∀i,i=8->Bl i:=by exact Eh
end
set_option maxHeartbeats 4000000
section
open Go Go.Sy Go.Bp Go.Lm Go.Rt
attribute [local irreducible] AO AL AC OpT ACall Ends DGo aK Thn Blk Nxt
variable {n W k i j q S o:Nat} {cz:Bool} {xs:List RV} {ZERO X:RV} {Ro:Nat->Nat->List RV} {bs:Nat->List Int} {kk ii:Nat->Nat}
abbrev UW(n W:Nat)(Ro:Nat->Nat->List RV)(bs:Nat->List Int)(s:Nat):List aC:=[.cells [.val (.int .i64 9),.val (.int .i64 n),.sl 1 0 10 1,.sl 2 0 9 1,.val (.int .i64 0)] 197,.cells [.sl 3 0 W 4,.sl 4 0 W 4,.sl 5 0 W 4,.sl 6 0 W 4,.sl 7 0 W 4,.sl 8 0 W 4,.sl 9 0 W 4,.sl 10 0 W 4,.sl 11 0 W 4,.sl 12 0 W 4] 103,.cells (cI .i64 (bs s)) 3,.cells (cR (Ro s 0)) 60,.cells (cR (Ro s 1)) 60,.cells (cR (Ro s 2)) 60,.cells (cR (Ro s 3)) 60,.cells (cR (Ro s 4)) 60,.cells (cR (Ro s 5)) 60,.cells (cR (Ro s 6)) 60,.cells (cR (Ro s 7)) 60,.cells (cR (Ro s 8)) 60,.cells (cR (Ro s 9)) 60]
abbrev UX(n W:Nat)(Ro:Nat->Nat->List RV)(bs:Nat->List Int)(s:Nat):List AV:=[.val (.int .i64 9),.val (.int .i64 n),.isl false [.isl false (cR (Ro s 0)) W,.isl false (cR (Ro s 1)) W,.isl false (cR (Ro s 2)) W,.isl false (cR (Ro s 3)) W,.isl false (cR (Ro s 4)) W,.isl false (cR (Ro s 5)) W,.isl false (cR (Ro s 6)) W,.isl false (cR (Ro s 7)) W,.isl false (cR (Ro s 8)) W,.isl false (cR (Ro s 9)) W] 10,.isl false (cI .i64 (bs s)) 9,.val (.int .i64 0)]
def UY(n W:Nat)(Ro:Nat->Nat->List RV)(bs:Nat->List Int)(S:Nat)(s:{s:Nat // s<=S}):St:=
 ⟨38,13,[(0,.pt 0 0)],[(0,some (.cells [.val (.int .i64 9),.val (.int .i64 n),.sl 1 0 10 1,.sl 2 0 9 1,.val (.int .i64 0)] 197)),(1,some (.cells [.sl 3 0 W 4,.sl 4 0 W 4,.sl 5 0 W 4,.sl 6 0 W 4,.sl 7 0 W 4,.sl 8 0 W 4,.sl 9 0 W 4,.sl 10 0 W 4,.sl 11 0 W 4,.sl 12 0 W 4] 103)),(2,some (.cells (cI .i64 (bs s.val)) 3)),(3,some (.cells (cR (Ro s.val 0)) 60)),(4,some (.cells (cR (Ro s.val 1)) 60)),(5,some (.cells (cR (Ro s.val 2)) 60)),(6,some (.cells (cR (Ro s.val 3)) 60)),(7,some (.cells (cR (Ro s.val 4)) 60)),(8,some (.cells (cR (Ro s.val 5)) 60)),(9,some (.cells (cR (Ro s.val 6)) 60)),(10,some (.cells (cR (Ro s.val 7)) 60)),(11,some (.cells (cR (Ro s.val 8)) 60)),(12,some (.cells (cR (Ro s.val 9)) 60))]⟩
theorem OB(hW:W<=500)(hR:∀s r,s<=S->r<=9->(Ro s r).length=W)(hB:∀s,s<=S->(bs s).length=9)(hE:∀s,s<S->ACall Tryz.prog 173 [.ipt (UX n W Ro bs s) 0] [] 0 (.val (.int .i64 (kk s))) [])(hE1:ACall Tryz.prog 173 [.ipt (UX n W Ro bs S) 0] [] 0 (.val (.int .i64 (-1))) [])
 (hL:∀s,s<S->ACall Tryz.prog 174 [.ipt (UX n W Ro bs s) 0,.val (.int .i64 (kk s))] [] 0 (.val (.int .i64 (ii s))) []) (hP:∀s,s<S->ACall Tryz.prog 175 [.pt 0 0,.val (.int .i64 (ii s)),.val (.int .i64 (kk s))] (UW n W Ro bs s) 13 (.tup []) (UW n W Ro bs (s+1))):
 ACall Tryz.prog 129 [.pt 0 0] (UW n W Ro bs 0) 13 (.tup [.val (.int .i64 (-1)),.val (.int .i64 0)]) (UW n W Ro bs S):=by
 have hEq:=λ(s:Nat) (h:s<S)=>PLift.up (hE s h);have hLq:=λ(s:Nat) (h:s<S)=>PLift.up (hL s h);have hPq:=λ(s:Nat) (h:s<S)=>PLift.up (hP s h);have hE1:=PLift.up hE1
 clear hE hL hP
 unfold UX UW at*
 have hEs:=ae;have hLs:=ae;have hPs:=ae
 have zx1:=ae;have zx2:=ae;have zx4:=ae;have zx6:=ae;have zx8:=ae;have zx10:=ae;have zx12:=ae;have zx14:=ae;have zx16:=ae;have zx18:=ae;have zx20:=ae;have zx3:=ae;have zx5:=ae;have zx7:=ae;have zx9:=ae;have zx11:=ae;have zx13:=ae;have zx15:=ae;have zx17:=ae;have zx19:=ae;have zx21:=ae
 refine az Tryz.func129 Tryz.ntmps129 rfl ?_
 have zx22:=aA;have zx23:=aA;have zx24:=aA;repeat' (first|(refine ah ?_;refine ak [0,1,2,3,4,5,6,7,8,9,10,11,12] ([0,1,2,3,4,5,6,7,8,9,10,11,12].length) (UY n W Ro bs S) (λs=>S-s.val) (⟨0,omgz⟩) rfl (by unfold UY;exact rT) ?_;(rintro⟨s,hs⟩;have zx1:=hB s hs;have zx2:=hR s 0 hs omgz;have zx4:=hR s 1 hs omgz;have zx6:=hR s 2 hs omgz;have zx8:=hR s 3 hs omgz;have zx10:=hR s 4 hs omgz;have zx12:=hR s 5 hs omgz;have zx14:=hR s 6 hs omgz;have zx16:=hR s 7 hs omgz;have zx18:=hR s 8 hs omgz;have zx20:=hR s 9 hs omgz;have zx3:(cR (Ro s 0)).take (W*4)=cR (Ro s 0):=List.take_of_length_le (by rw[dF,zx2];exact Nat.le_refl _);have zx5:(cR (Ro s 1)).take (W*4)=cR (Ro s 1):=List.take_of_length_le (by rw[dF,zx4];exact Nat.le_refl _);have zx7:(cR (Ro s 2)).take (W*4)=cR (Ro s 2):=List.take_of_length_le (by rw[dF,zx6];exact Nat.le_refl _);have zx9:(cR (Ro s 3)).take (W*4)=cR (Ro s 3):=List.take_of_length_le (by rw[dF,zx8];exact Nat.le_refl _);have zx11:(cR (Ro s 4)).take (W*4)=cR (Ro s 4):=List.take_of_length_le (by rw[dF,zx10];exact Nat.le_refl _);have zx13:(cR (Ro s 5)).take (W*4)=cR (Ro s 5):=List.take_of_length_le (by rw[dF,zx12];exact Nat.le_refl _);have zx15:(cR (Ro s 6)).take (W*4)=cR (Ro s 6):=List.take_of_length_le (by rw[dF,zx14];exact Nat.le_refl _);have zx17:(cR (Ro s 7)).take (W*4)=cR (Ro s 7):=List.take_of_length_le (by rw[dF,zx16];exact Nat.le_refl _);have zx19:(cR (Ro s 8)).take (W*4)=cR (Ro s 8):=List.take_of_length_le (by rw[dF,zx18];exact Nat.le_refl _);have zx21:(cR (Ro s 9)).take (W*4)=cR (Ro s 9):=List.take_of_length_le (by rw[dF,zx20];exact Nat.le_refl _);rcases Nat.lt_or_eq_of_le hs with hsl|hsl<;>first|(have eQ:=hsl.symm;subst eQ;have hEs:=hE1;(simp-dsimp only[UY];refine zqS ?_))|(have hEs:=hEq s hsl;have hLs:=hLq s hsl;have hPs:=hPq s hsl;(simp-dsimp only[UY];refine zqS ?_))))|(refine aj ?_;refine Nxt.mk [0,1,2,3,4,5,6,7,8,9,10,11,12] (⟨s+1,omgz⟩) rfl (by unfold UY;exact rT) zqO)|refine zqN ?_|((first|refine ay rfl (λK hK=>?_)|refine au (λK hK=>?_)|refine aD (λK hK=>?_));(first|refine ai (f:=173) [] 0 true ?_|refine ai (f:=174) [] 0 true ?_|refine ai (f:=175) [0,1,2,3,4,5,6,7,8,9,10,11,12] 13 false ?_);refine Kk ?_;(first|refine⟨_,_,hEs.down,?_⟩|refine⟨_,_,hLs.down,?_⟩|refine⟨_,_,hPs.down,?_⟩);refine zw ?_;apply hK;clear hK K)|refine ab6 ?_|refine ab7 ?_|(refine ab8 ?_ ?_<;>intro hc<;>try exact zqM)|refine zqR [] ?_|refine zqD ?_|fail)
 all_goals exact aB [0,1,2,3,4,5,6,7,8,9,10,11,12]
end
