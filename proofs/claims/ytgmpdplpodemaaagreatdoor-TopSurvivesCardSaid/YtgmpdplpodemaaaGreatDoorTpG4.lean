/- Tp4 Tp5. No condition. -/
import Derived.Test.YtgmpdplpodemaaaGreatDoorTpG1
set_option linter.all false
set_option maxHeartbeats 8000000
set_option maxRecDepth 20000
namespace Go.Proofs.YtgmpdplpodemaaaGreatDoor
open Go Go.Sy Go.Bp Go.Dg
attribute [local irreducible] AO AL AC OpT ACall Ends DGo aN Thn Blk Nxt
variable {n N M G L c k j s y T:Nat} {z zf zt:Bool} {f g B xs ws:List Nat} {p:Nat→Bool}
attribute [local irreducible] aA mem gq pick fd sbL dW mB mBl eO wsL wsN
theorem Q0(haw:ACall Tryz.prog 7 [] [] 0 (.val (.bool true)) [])(hd:WF N B L)(hL:20<L):ACall Tryz.prog 3 [.agg (d8 N z B L)] [] 0 (.val (.bool true)) []:=by
 have haw:=PLift.up haw
 have hof:=PLift.up (U8 (z:=z) hd.n rfl hd.len hL hd.lt)
 generalize 1+N%6=n at hof
 clear hd
 unfold d8 at*
 refine az Tryz.func3 Tryz.ntmps3 rfl ?_
 repeat' (first|refine zqN ?_|refine aT hof.down ?_|refine aT haw.down ?_|refine bA ?_|refine l5 ?_|refine nk ?_|refine nA ?_|refine bB ?_|(refine bC ?_ ?_<;>intro hc<;>try exact zqM))
 all_goals first
  |((refine Ends.mk2 zqI [] ?_;simp-dsimp(disch:=try exact vD) only[push_cast,simprocAttr,Tryz.f3];try exact zqF);done)
  |skip
theorem Q3(haw:ACall Tryz.prog 7 [] [] 0 (.val (.bool true)) [])(hof:ACall Tryz.prog 6 [.agg (d8 N z B L)] [] 0 (.tup [.isl zf [] 0,.val (.int .i64 n),.val (.bool true)]) []):ACall Tryz.prog 3 [.agg (d8 N z B L)] [] 0 (.val (.bool true)) []:=by
 have haw:=PLift.up haw;have hof:=PLift.up hof
 unfold d8 at*
 refine az Tryz.func3 Tryz.ntmps3 rfl ?_
 repeat' (first|refine zqN ?_|refine aT hof.down ?_|refine aT haw.down ?_|refine bA ?_|refine l5 ?_|refine nk ?_|refine nA ?_|refine bB ?_|(refine bC ?_ ?_<;>intro hc<;>try exact zqM))
 all_goals first
  |((refine Ends.mk2 zqI [] ?_;simp-dsimp(disch:=try exact vD) only[push_cast,simprocAttr,Tryz.f3];try exact zqF);done)
  |skip
def smO(g:List Nat)(c j:Nat):List Nat:=wsL (fun x=>decide (aA x 16=c)) g j
def smN(g:List Nat)(c j:Nat):Nat:=wsN (fun x=>decide (aA x 16=c)) g j
theorem nE:smN g c 0=0:=qm
theorem gY:(smO g c j).length=smN g c j:=dS
theorem adr(h:aA (g.getD j 0) 16=c):smO g c (j+1)=smO g c j++[g.getD j 0]:=Jy (decide_eq_true h)
theorem ads(h:¬aA (g.getD j 0) 16=c):smO g c (j+1)=smO g c j:=Jz (decide_eq_false h)
theorem adt(h:aA (g.getD j 0) 16=c):smN g c (j+1)=smN g c j+1:=QW (decide_eq_true h)
theorem adu(h:¬aA (g.getD j 0) 16=c):smN g c (j+1)=smN g c j:=QX (decide_eq_false h)
theorem abE:smN g c j≤j:=BQ
attribute [local irreducible] smO smN
def tsO(zf:Bool)(f:List Nat)(M u:Nat)(_:Nat):List (Nat×Option aC):=[(0,some (.cells [.val (.bool false)] 4)),(1,some (.cells [.isl zf (cX f) M] 25)),(2,some (.cells [.val (.int .u16 (U u))] 30))]
def tsE(k y:Nat)(zt:Bool)(g:List Nat)(G:Nat)(ws:List Nat)(W:Nat):List (Nat×AV):=[(2,.pt 0 0),(3,.pt 1 0),(6,.val (.int .i64 k)),(8,.val (.int .u16 (U y))),(10,.isl zt (cX g) G),(12,.isl false (cX ws) W),(14,.pt 2 0)]
def tsR(zf:Bool)(f:List Nat)(M u k y:Nat)(zt:Bool)(g:List Nat)(G:Nat)(ws:List Nat)(W:Nat)(xs:List Nat)(ca cb:Code):RLoop:=
 ⟨138,3,tsE k y zt g G ws W,tsO zf f M u,fun _=>[],3,0,fun _=>true,yX xs,.ret,104,ca,cb⟩
def tsI(zf:Bool)(f:List Nat)(M u k y c:Nat)(zt:Bool)(g:List Nat)(G:Nat)(ws:List Nat)(W:Nat)(j:{j:Nat // j≤G}):St:=
 ⟨138,0,[(2,.pt 0 0),(3,.pt 1 0),(6,.val (.int .i64 k)),(8,.val (.int .u16 (U y))),(12,.isl false (cX ws) W),(14,.pt 2 0),(16,gL (smN g c j.val) 3 1),(111,.isl zt (cX g) G),(112,.val (.int .i64 G)),(113,.val (.int .i64 j.val))],
   [(0,some (.cells [.val (.bool false)] 4)),(1,some (.cells [.isl zf (cX f) M] 25)),(2,some (.cells [.val (.int .u16 (U u))] 30))]++gM (smN g c j.val) 3 (cX (smO g c j.val)) 30⟩
theorem abF{W:Nat}(hn:n≤6)(hM:0<M)(hfl:f.length=M)(hM2:M≤400)(hf0:¬f.getD 0 default%65536=0)(hk:k+1=c)(hu:k≤aA (2^n-1) 16)(hG:0<G)(hgl:g.length=G)(hG2:G≤448)(hg0:aA (g.getD 0 0) 16=c)(hy:aA y 16=c)(hpos:0<smN g c G)
 (haw:ACall Tryz.prog 7 [] [] 0 (.val (.bool true)) []) (hof:ACall Tryz.prog 6 [.agg (d8 N z B L)] [] 0 (.tup [.isl zf (cX f) M,.val (.int .i64 n),.val (.bool true)]) []) (hres:ACall Tryz.prog 8 [.isl zf (cX f) M] [] 0 (.tup [.val (.int .i64 k),.val (.int .i64 0)]) []) (hle:ACall Tryz.prog 9 [.isl zf (cX f) M] [] 0 (.tup [.val (.int .u16 (U y)),.val (.int .i64 0)]) [])
 (htd:ACall Tryz.prog 10 [.isl zf (cX f) M] [] 0 (.tup [.isl zt (cX g) G,.val (.int .i64 0)]) []) (hwo:ACall Tryz.prog 11 [.isl zf (cX f) M] [] 0 (.tup [.isl false (cX ws) W,.val (.int .i64 0)]) []) (hx:chL (2^n-1) k=xs)
 (hac:∀j,j<xs.length→ACall Tryz.prog 14 [.isl zf (cX f) M,.val (.int .u16 (U (dJ (2^n-1) (xs.getD j 0))))] [] 0 (.val (.bool true)) []) (hal:ACall Tryz.prog 14 [.isl zf (cX f) M,.val (.int .u16 (U (dJ (2^n-1) y)))] [] 0 (.val (.bool false)) [])
 (hcn:∀j,j<G→ACall Tryz.prog 15 [.val (.int .u16 (U (g.getD j 0)))] [] 0 (.val (.int .i64 (aA (g.getD j 0) 16))) []) (hsm:ACall Tryz.prog 16 [.isl false (cX ws) W,.isl false (cX (smO g c G)) (smN g c G)] [] 0 (.val (.bool true)) []):
 ACall Tryz.prog 3 [.agg (d8 N z B L)] [] 0 (.val (.bool true)) []:=by
 have hp:2^n≤2^6:=Nat.pow_le_pow_right (by omega) hn
 have haw:=PLift.up haw;have hof:=PLift.up hof;have hres:=PLift.up hres;have hle:=PLift.up hle;have htd:=PLift.up htd;have hwo:=PLift.up hwo;have hal:=PLift.up hal;have hsm:=PLift.up hsm
 have haq:=fun(j:Nat) (h:j<xs.length)=>PLift.up (hac j h);have hcq:=fun(j:Nat) (h:j<G)=>PLift.up (hcn j h)
 clear hac hcn
 have hit:=QV (s:=2^n-1) (k:=k) (by omega) hu hx
 have hc1:=PLift.up (qG (s:=y));have hc2:=PLift.up (qG (s:=g.getD 0 0))
 rw[hy] at hc1;rw[hg0] at hc2
 have hcb:c≤16:=by rw[←hy];exact lF
 have hMne:¬M=0:=by omega
 have hGne:¬G=0:=by omega
 have hkc:((k:Int)+1)=(c:Int):=by omega
 have hd:g.getD 0 default=g.getD 0 0:=rfl
 have hb:=ae;have hs1:=ae;have hs2:=ae;have hcj:=ae;have hgd:=ae;have hps:=ae;have h00:=ae
 unfold d8 at hof⊢
 refine az Tryz.func3 Tryz.ntmps3 rfl ?_
 repeat' (first|apply bZ|apply aB|((first|refine ax rfl (fun K hK=>?_)|refine ak (fun K hK=>?_));(first|refine ah (f:=6) [] 0 false ?_|refine ah (f:=7) [] 0 false ?_|refine ah (f:=8) [] 0 false ?_|refine ah (f:=9) [] 0 false ?_|refine ah (f:=10) [] 0 false ?_|refine ah (f:=11) [] 0 false ?_|refine ah (f:=12) (dst:=some 84) [] 0 false ?_|refine ah (f:=12) (dst:=some 93) [] 0 false ?_|refine ah (f:=13) [] 0 false ?_);simp-dsimp(disch:=try exact vD) only[push_cast,simprocAttr,hMne,hGne,hf0,hkc,hd,bg,hfl,hgl];(repeat refine aI ?_);intro G hG;refine hG _ _ ?_;clear hG G;(first|refine⟨_,_,hof.down,?_⟩|refine⟨_,_,haw.down,?_⟩|refine⟨_,_,hres.down,?_⟩|refine⟨_,_,hle.down,?_⟩|refine⟨_,_,htd.down,?_⟩|refine⟨_,_,hwo.down,?_⟩|refine⟨_,_,hc1.down,?_⟩|refine⟨_,_,hc2.down,?_⟩|refine⟨_,_,yF (s:=2^n-1) (k:=k),?_⟩);simp-dsimp(disch:=try exact vD) only[push_cast,simprocAttr,hMne,hGne,hf0,hkc,hd,bg,hfl,hgl];(repeat refine aI ?_);apply hK;clear hK K)|((first|refine ax rfl (fun K hK=>?_)|refine ak (fun K hK=>?_));(first|apply bM|apply aR|apply bU|apply aO|apply bi|apply bJ|apply fP|apply bO|apply fw|apply fM|apply fO|apply di|apply eY|apply dH|apply dm|apply aP|apply bR|apply bu|apply aU|apply dE|apply bS);simp-dsimp(disch:=try exact vD) only[push_cast,simprocAttr,hMne,hGne,hf0,hkc,hd,bg,hfl,hgl];(repeat refine aI ?_);apply hK;clear hK K)|((first|refine ax rfl (fun K hK=>?_)|refine ak (fun K hK=>?_));(first|apply dV);simp-dsimp(disch:=try exact vD) only[push_cast,simprocAttr,hMne,hGne,hf0,hkc,hd,bg,hfl,hgl];(repeat refine aI ?_);apply hK;clear hK K)|((first|refine ax rfl (fun K hK=>?_)|refine ak (fun K hK=>?_));(first|apply df);simp-dsimp(disch:=try exact vD) only[push_cast,simprocAttr,hMne,hGne,hf0,hkc,hd,bg,hfl,hgl];(repeat refine aI ?_);apply hK;clear hK K)|((first|refine ax rfl (fun K hK=>?_)|refine ak (fun K hK=>?_));(first|apply cZ);simp-dsimp(disch:=try exact vD) only[push_cast,simprocAttr,hMne,hGne,hf0,hkc,hd,bg,hfl,hgl];(repeat refine aI ?_);apply hK;clear hK K)|((first|refine aK rfl rfl (fun K1 K2 h1 h2=>?_) rfl|refine aF (fun K1 K2 h1 h2=>?_));simp-dsimp(disch:=try exact vD) only[push_cast,simprocAttr,hMne,hGne,hf0,hkc,hd,bg,hfl,hgl];(first|(refine⟨fun hc=>?_,fun hc=>?_⟩<;>first|(exfalso;omega)|(exfalso;contradiction)|refine h1 ?_|refine h2 ?_)|refine h1 ?_|refine h2 ?_);all_goals clear h1 h2 K1 K2)|apply cu|apply aL|apply bH|apply aX|apply aM|apply bI|apply aY|(refine aQ rfl ?_)|apply aZ|apply bG|apply bF|apply bY)
 refine rD (tsR zf f M (2^n-1) k y zt g G ws W xs _ _) [1,2,3] xs.length rfl (by simp[bnd]) (by kernel_rfl) hit (by unfold tsR tsO tsE;dsimp only;refine Sub.mk2 ?_;(simp-dsimp(disch:=try exact vD) only[push_cast,simprocAttr,])) rfl rfl (Nat.zero_le _) (fun j hj=>by have e:j=0∨j=1∨j=2:=(by have:j<3:=hj;omega);rcases e with e|e|e<;>subst e<;>rfl) (by simp[tsR,tsE,bnd,xI]) (by show 104<138;decide) (.inl rfl) (fun j x hj hx=>?_) (fun _=>?_) (fun h=>nomatch h)
 ·obtain⟨hjl,rfl⟩:=Ao hx
  have haj:=haq j hjl
  clear hx haq hit
  dsimp only[tsR,tsO,tsE]
  repeat' (first|(refine Mid.mk rfl ?_;dsimp only)|(refine ji [0,1,2] ⟨rfl,rfl⟩ ?_;(try dsimp only);unfold tsO;(try simp only[List.cons_append,List.nil_append]);refine Sub.mk2 ?_;(simp-dsimp(disch:=try exact vD) only[push_cast,simprocAttr]);(repeat refine aI ?_);first|done|exact vI)|apply bZ|apply aB|((first|refine ax rfl (fun K hK=>?_)|refine ak (fun K hK=>?_));(first|refine ah (f:=14) [] 0 true ?_);simp-dsimp(disch:=try exact vD) only[push_cast,simprocAttr];(repeat refine aI ?_);intro G hG;refine hG _ _ ?_;clear hG G;(first|refine⟨_,_,haj.down,?_⟩);simp-dsimp(disch:=try exact vD) only[push_cast,simprocAttr];(repeat refine aI ?_);apply hK;clear hK K)|((first|refine ax rfl (fun K hK=>?_)|refine ak (fun K hK=>?_));(first|apply bM|apply aR|apply bU|apply aO|apply bi|apply bJ|apply fP|apply bO|apply fw|apply fM|apply fO|apply di|apply eY|apply dH|apply dm|apply aP|apply bR|apply bu|apply aU|apply dE|apply bS);simp-dsimp(disch:=try exact vD) only[push_cast,simprocAttr];(repeat refine aI ?_);apply hK;clear hK K)|((first|refine ax rfl (fun K hK=>?_)|refine ak (fun K hK=>?_));(first|apply dV);simp-dsimp(disch:=try exact vD) only[push_cast,simprocAttr];(repeat refine aI ?_);apply hK;clear hK K)|((first|refine ax rfl (fun K hK=>?_)|refine ak (fun K hK=>?_));(first|apply df);simp-dsimp(disch:=try exact vD) only[push_cast,simprocAttr];(repeat refine aI ?_);apply hK;clear hK K)|((first|refine ax rfl (fun K hK=>?_)|refine ak (fun K hK=>?_));(first|apply cZ);simp-dsimp(disch:=try exact vD) only[push_cast,simprocAttr];(repeat refine aI ?_);apply hK;clear hK K)|((first|refine aK rfl rfl (fun K1 K2 h1 h2=>?_) rfl|refine aF (fun K1 K2 h1 h2=>?_));simp-dsimp(disch:=try exact vD) only[push_cast,simprocAttr];(first|(refine⟨fun hc=>?_,fun hc=>?_⟩<;>first|(exfalso;omega)|(exfalso;contradiction)|refine h1 ?_|refine h2 ?_)|refine h1 ?_|refine h2 ?_);all_goals clear h1 h2 K1 K2)|apply cu|apply aL|apply bH|apply aX|apply aM|apply bI|apply aY|(refine aQ rfl ?_)|apply aZ|apply bG|apply bF|apply bY)
 ·dsimp only[tsR,tsO,tsE]
  repeat' (first|(refine ai ?_;refine au [0,1,2,9] ([0,1,2,9].length) (tsI zf f M (2^n-1) k y c zt g G ws W) (fun j=>G-j.val) (⟨0,by omega⟩) rfl (by unfold tsI;(try simp only[List.cons_append,List.nil_append]);refine Sub.mk2 ?_;(simp-dsimp(disch:=try exact vD) only[push_cast,simprocAttr,hb,hgd,hkc,bg,nE,gY]);(repeat refine aI ?_);first|done|exact vI) ?_;(rintro⟨j,hj⟩;have hle2:=abE (g:=g) (c:=c) (j:=j);have hls:=gY (g:=g) (c:=c) (j:=j);rcases Nat.lt_or_eq_of_le hj with hjl|hjl<;>first|(have eQ:=hjl.symm;subst eQ;(simp-dsimp(disch:=try exact vD) only[push_cast,simprocAttr,tsI]))|(have hcj:=hcq j hjl;have hgd:g.getD j default=g.getD j 0:=rfl;rcases Decidable.em (aA (g.getD j 0) 16=c) with hb|hb<;>first|(have hs1:=adr (g:=g) hb;have hs2:=adt (g:=g) hb;rcases Nat.eq_zero_or_pos (smN g c j) with h00|h00<;>first|(have hps:[AV.val (.int .u16 (U (g.getD j 0)))]=cX (smO g c (j+1)):=(by have e:smO g c j=[]:=List.eq_nil_of_length_eq_zero (hls.trans h00);rw[hs1,e];rfl);(simp-dsimp(disch:=try exact vD) only[push_cast,simprocAttr,tsI]))|(have hps:cX (smO g c j)++[AV.val (.int .u16 (U (g.getD j 0)))]=cX (smO g c (j+1)):=(by rw[hs1,←Ak];rfl);(simp-dsimp(disch:=try exact vD) only[push_cast,simprocAttr,tsI])))|(have hs1:=ads (g:=g) hb;have hs2:=adu (g:=g) hb;rcases Nat.eq_zero_or_pos (smN g c j) with h00|h00<;>(simp-dsimp(disch:=try exact vD) only[push_cast,simprocAttr,tsI])))))|(refine aj ?_;refine Nxt.mk [0,1,2,5] (⟨j+1,by omega⟩) rfl (by unfold tsI;(try simp only[List.cons_append,List.nil_append]);refine Sub.mk2 ?_;(simp-dsimp(disch:=try exact vD) only[push_cast,simprocAttr,hb,hgd,hkc,bg,nE,gY,hps,hs2,h00]);(repeat refine aI ?_);first|done|exact vI) (by first|omega|(dsimp only;omega)|(simp;done)|(simp;omega)))|(refine aj ?_;refine Nxt.mk [0,1,2,4] (⟨j+1,by omega⟩) rfl (by unfold tsI;(try simp only[List.cons_append,List.nil_append]);refine Sub.mk2 ?_;(simp-dsimp(disch:=try exact vD) only[push_cast,simprocAttr,hb,hgd,hkc,bg,nE,gY,hps,hs2,h00]);(repeat refine aI ?_);first|done|exact vI) (by first|omega|(dsimp only;omega)|(simp;done)|(simp;omega)))|(refine aj ?_;refine Nxt.mk [0,1,2,3] (⟨j+1,by omega⟩) rfl (by unfold tsI;(try simp only[List.cons_append,List.nil_append]);refine Sub.mk2 ?_;(simp-dsimp(disch:=try exact vD) only[push_cast,simprocAttr,hb,hgd,hkc,bg,nE,gY,hs1,hs2,h00]);(repeat refine aI ?_);first|done|exact vI) (by first|omega|(dsimp only;omega)|(simp;done)|(simp;omega)))|(refine aj ?_;refine Nxt.mk [0,1,2,9] (⟨j+1,by omega⟩) rfl (by unfold tsI;(try simp only[List.cons_append,List.nil_append]);refine Sub.mk2 ?_;(simp-dsimp(disch:=try exact vD) only[push_cast,simprocAttr,hb,hgd,hkc,bg,nE,gY,hs1,hs2,h00]);(repeat refine aI ?_);first|done|exact vI) (by first|omega|(dsimp only;omega)|(simp;done)|(simp;omega)))|apply bZ|apply aB|((first|refine ax rfl (fun K hK=>?_)|refine ak (fun K hK=>?_));(first|refine ah (f:=15) [] 0 false ?_|refine ah (f:=14) [] 0 true ?_|refine ah (f:=16) [] 0 true ?_);simp-dsimp(disch:=try exact vD) only[push_cast,simprocAttr,hb,hgd,hkc,bg,nE,gY];(repeat refine aI ?_);intro G hG;refine hG _ _ ?_;clear hG G;(first|refine⟨_,_,hcj.down,?_⟩|refine⟨_,_,hal.down,?_⟩|refine⟨_,_,hsm.down,?_⟩);simp-dsimp(disch:=try exact vD) only[push_cast,simprocAttr,hb,hgd,hkc,bg,nE,gY];(repeat refine aI ?_);apply hK;clear hK K)|((first|refine ax rfl (fun K hK=>?_)|refine ak (fun K hK=>?_));(first|apply bM|apply aR|apply bU|apply aO|apply bi|apply bJ|apply fP|apply bO|apply fw|apply fM|apply fO|apply di|apply eY|apply dH|apply dm|apply aP|apply bR|apply bu|apply aU|apply dE|apply bS);simp-dsimp(disch:=try exact vD) only[push_cast,simprocAttr,hb,hgd,hkc,bg,nE,gY];(repeat refine aI ?_);apply hK;clear hK K)|((first|refine ax rfl (fun K hK=>?_)|refine ak (fun K hK=>?_));(first|apply dV);simp-dsimp(disch:=try exact vD) only[push_cast,simprocAttr,hb,hgd,hkc,bg,nE,gY];(repeat refine aI ?_);apply hK;clear hK K)|((first|refine ax rfl (fun K hK=>?_)|refine ak (fun K hK=>?_));(first|apply df);simp-dsimp(disch:=try exact vD) only[push_cast,simprocAttr,hb,hgd,hkc,bg,nE,gY];(repeat refine aI ?_);apply hK;clear hK K)|((first|refine ax rfl (fun K hK=>?_)|refine ak (fun K hK=>?_));(first|apply cZ);simp-dsimp(disch:=try exact vD) only[push_cast,simprocAttr,hb,hgd,hkc,bg,nE,gY];(repeat refine aI ?_);apply hK;clear hK K)|((first|refine aK rfl rfl (fun K1 K2 h1 h2=>?_) rfl|refine aF (fun K1 K2 h1 h2=>?_));simp-dsimp(disch:=try exact vD) only[push_cast,simprocAttr,hb,hgd,hkc,bg,nE,gY];(first|(refine⟨fun hc=>?_,fun hc=>?_⟩<;>first|(exfalso;omega)|(exfalso;contradiction)|refine h1 ?_|refine h2 ?_)|refine h1 ?_|refine h2 ?_);all_goals clear h1 h2 K1 K2)|apply cu|apply aL|apply bH|apply aX|apply aM|apply bI|apply aY|(refine aQ rfl ?_)|apply aZ|apply bG|apply bF|apply bY)
  all_goals first
   |((refine Ends.mk2 (by first|exact .inr rfl|exact .inl rfl) [] ?_;simp-dsimp(disch:=try exact vD) only[push_cast,simprocAttr,Tryz.f3];try exact zqF);done)
   |skip
end Go.Proofs.YtgmpdplpodemaaaGreatDoor
set_option maxHeartbeats 4000000
namespace Go.Proofs.YtgmpdplpodemaaaGreatDoor
open Go Go.Sy Go.Bp Go.Dg
attribute [local irreducible] AO AL AC OpT ACall Ends DGo aN Thn Blk Nxt
variable {n N M G L c k j s y T S:Nat} {z zf zt:Bool} {f g B xs ws:List Nat} {p:Nat→Bool}
theorem Q4(hn:n≤6)(h:s<2^n):dJ s (2^n-1)%65536=0:=dR.2 fun i hi=>by
 have hp:2^n≤2^6:=Nat.pow_le_pow_right (by omega) hn
 have hin:i<n:=by
  rcases Nat.lt_or_ge i n with h1|h1
  ·exact h1
  ·have:s<2^i:=Nat.lt_of_lt_of_le h (Nat.pow_le_pow_right (by omega) h1)
   have hb:(s%65536).testBit i=true:=hi
   rw[Nat.mod_eq_of_lt (by omega),Nat.testBit_lt_two_pow this] at hb;cases hb
 have:=CY (n:=n) (i:=i) (by omega)
 show((2^n-1)%65536).testBit i=true
 rw[Nat.mod_eq_of_lt (by omega),Nat.testBit_two_pow_sub_one,decide_eq_true hin]
theorem Ep(haw:ACall Tryz.prog 7 [] [] 0 (.val (.bool true)) [])(hd:WF N B L):ACall Tryz.prog 3 [.agg (d8 N z B L)] [] 0 (.val (.bool true)) []:=by
 rcases Nat.lt_or_ge 20 L with hL|hL
 ·exact Q0 haw hd hL
 ·obtain⟨n,hnn⟩:∃n,1+N%6=n:=⟨_,rfl⟩
  have hof:=aao (z:=z) hd.n hnn hd.len hL
  have hn6:n≤6:=by omega
  have h:=FOk.of (B:=B) (L:=L) hn6 hL
  generalize iN (kL n B L)=f at hof h
  have hp:2^n≤2^6:=Nat.pow_le_pow_right (by omega) hn6
  by_cases hf:f=[]
  ·subst hf;exact Q3 haw hof
  ·have hM:0<f.length:=by
    rcases Nat.eq_zero_or_pos f.length with h0|h0
    ·exact absurd (List.eq_nil_of_length_eq_zero h0) hf
    ·exact h0
   have hfew:=h.few
   obtain⟨q,hq,h1,h2⟩:=h.first
   obtain⟨S,hS⟩:∃S,iH f f.length=S:=⟨_,rfl⟩
   have h64:=h.s64
   have hS2:=h.sup
   rw[hS] at hq h1 h2 h64 hS2
   obtain⟨xs,hx⟩:∃xs,dW S=xs:=⟨_,rfl⟩
   rw[hx] at hq h1 h2
   obtain⟨hy64,hyS⟩:=G7 h hS hx hq h1 h2
   have hpos:=WA h hf hS hx hq h1 h2
   have hfl:=fun(y:Nat) (a:y<2^n) (b:dD f y=true)=>zS h hS hx hq h1 h2 a b
   obtain⟨l,hl⟩:=QR h hS hx hq h1 h2
   have hweq:=QS h hS hx hq h1 h2 rfl
   have hle:=zT (z:=f.length==0) (f:=f) rfl (by omega) h.fam hS h64 hx rfl hq h1 h2
   obtain⟨y,hyq⟩:∃y,xs.getD q 0=y:=⟨_,rfl⟩
   rw[hyq] at hy64 hyS hpos hfl hl hweq hle h1
   have hva:=ky (z:=f.length==0) (xs:=f) (n:=f.length) rfl (by omega)
   rw[h.fam] at hva
   have hres:=Eo hM (by omega) hpos hva hle
   obtain⟨zt,htd⟩:=h.tdual (z:=f.length==0)
   have hcS:aA y 16≤aA S 16:=(wN S h64 y hy64 hyS).1
   have hc7:aA y 16<7:=(kW y hy64).1
   obtain⟨hch,_⟩:=sU S h64 (aA y 16) hc7
   have hymem:y∈chL S (aA y 16):=by
    rw[hch]
    exact List.mem_filter.2 ⟨(jm h64).2 ⟨hy64,hyS⟩,decide_eq_true rfl⟩
   have hwl:=qJ (p:=dD f) (xs:=chL S (aA y 16)) _ (Nat.le_refl _)
   rw[List.take_length] at hwl
   have hwpos:0<wsN (dD f) (chL S (aA y 16)) (chL S (aA y 16)).length:=by
    rw[←dS,hwl]
    exact List.length_pos_of_mem (List.mem_filter.2 ⟨hymem,h1⟩)
   have hwo:=QY (z:=f.length==0) (c:=aA y 16) (f:=f) rfl (by omega) hS h64 rfl rfl hle rfl hcS hwpos
   have hsl:=qJ (p:=fun x=>decide (aA x 16=aA y 16)) (xs:=dF f) _ (Nat.le_refl _)
   rw[List.take_length,←hweq,←hwl] at hsl
   have hGl:0<(dF f).length:=by rw[hl];simp
   have hg0:(dF f).getD 0 0=y:=by rw[hl];rfl
   have hgl:(dF f).length≤64:=by
    have a1:=Ol (p:=dD f) (xs:=dW (iH f f.length)) (j:=(dW (iH f f.length)).length)
    have a2:=(j6 (iH f f.length) (by rw[hS];exact h64)).1
    unfold mBl at a1
    show(mB _ _ _).length≤_;omega
   have hS7:aA S 16≤aA (2^n-1) 16:=(wN (2^n-1) (by omega) S h64 (Q4 hn6 hS2)).1
   have hy2:y<2^n:=by
    refine Nat.lt_of_le_of_lt (Nat.le_of_testBit fun i hi=>?_) hS2
    have:=dR.1 hyS i (by show(y%65536).testBit i=true;rw[Nat.mod_eq_of_lt (by omega)];exact hi)
    have t:(S%65536).testBit i=true:=this
    rwa [Nat.mod_eq_of_lt (by omega)] at t
   have hsub:∀q,q<2^n→eO f (dJ (2^n-1) q)= !dD f q:=fun q hq=>by
    rw[h.cpl hq,Bool.not_not,←aaj hq hn6]
    unfold eO dJ;simp only[Nat.mod_mod]
   have hkx:∀x∈chL (2^n-1) (aA y 16-1),x<2^n∧aA x 16=aA y 16-1:=fun x hxm=>by
    rw[(sU (2^n-1) (by omega) (aA y 16-1) (by omega)).1] at hxm
    obtain⟨a,b⟩:=List.mem_filter.1 hxm
    obtain⟨c1,c2⟩:=(jm (show 2^n-1<64 by omega)).1 a
    refine⟨?_,of_decide_eq_true b⟩
    have:x≤2^n-1:=Nat.le_of_testBit fun i hi=>by
     have:=dR.1 c2 i (by show(x%65536).testBit i=true;rw[Nat.mod_eq_of_lt (by omega)];exact hi)
     have t:((2^n-1)%65536).testBit i=true:=this
     rwa [Nat.mod_eq_of_lt (by omega)] at t
    have:=Nat.two_pow_pos n
    omega
   refine abF (k:=aA y 16-1) (c:=aA y 16) (y:=y) (g:=dF f) hn6 hM rfl (by omega) (h.nz _ (iR (d:=default) hM)) (by omega) (by omega) hGl rfl (by omega) (by rw[hg0]) rfl ?_ haw hof hres hle htd hwo rfl (fun j hj=>?_) ?_ (fun j hj=>?_) ?_
   ·unfold smN
    rw[←dS,hsl,dS];exact hwpos
   ·have hm:=hkx _ (iR (d:=0) hj)
    have:=si (z:=f.length==0) (s:=dJ (2^n-1) ((chL (2^n-1) (aA y 16-1)).getD j 0)) (qs:=f) rfl (by omega)
    rw[hsub _ hm.1] at this
    have e:dD f ((chL (2^n-1) (aA y 16-1)).getD j 0)=false:=by
     cases hh:dD f ((chL (2^n-1) (aA y 16-1)).getD j 0) with
     |false=>rfl
     |true=>have:=hfl _ hm.1 hh;omega
    rw[e] at this;exact this
   ·have:=si (z:=f.length==0) (s:=dJ (2^n-1) y) (qs:=f) rfl (by omega)
    rw[hsub _ hy2,h1] at this;exact this
   ·have hmem:(dF f).getD j 0∈dF f:=iR hj
    have hlt:=h.dmin.lt _ hmem
    have:=FV (s:=(dF f).getD j 0) (by omega)
    rw[FD (by omega)];exact this
   ·have hq2:=QZ (zl:=false) (zr:=false) (qs:=wsL (dD f) (chL S (aA y 16)) (chL S (aA y 16)).length) (n:=wsN (dD f) (chL S (aA y 16)) (chL S (aA y 16)).length) dS (by
     have a:=BQ (p:=dD f) (xs:=chL S (aA y 16)) (j:=(chL S (aA y 16)).length)
     have b:=(sU S h64 (aA y 16) hc7).2
     omega)
    have e1:smO (dF f) (aA y 16) (dF f).length=wsL (dD f) (chL S (aA y 16)) (chL S (aA y 16)).length:=by unfold smO;exact hsl
    have e2:smN (dF f) (aA y 16) (dF f).length=wsN (dD f) (chL S (aA y 16)) (chL S (aA y 16)).length:=by rw[←gY,e1,dS]
    rw[e1,e2];exact hq2
