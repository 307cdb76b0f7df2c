/- Tp2. No condition. -/
import Derived.Test.YtgmpdplpodemaaaGreatDoorTmG1
set_option linter.all false
set_option maxHeartbeats 4000000
set_option maxRecDepth 20000
namespace Go.Proofs.YtgmpdplpodemaaaGreatDoor
open Go Go.Sy Go.Bp Go.Dg
attribute [local irreducible] AO AL AC OpT ACall Ends DGo aN Thn Blk Nxt
variable {n N M k i m r a b j w u v s q y d:Nat} {z:Bool} {e:Int} {p:Nat→Bool} {xs qs f:List Nat}
attribute [local irreducible] aA mem gq pick fd sbL dW mB mBl eO goF
def tlO(x:Int)(_:Nat):List (Nat×Option aC):=[(0,some (.cells [.val (.int .u16 x)] 30)),(1,some (.cells [.val (.int .i64 0)] 31))]
def tlS(xs:List Nat)(j:Nat):List (Nat×Option aC):=[(0,some (.cells [.val (.int .u16 (U (xs.getD (j-1) 0)))] 30)),(1,some (.cells [.val (.int .i64 0)] 31))]
def tlR(z:Bool)(f:List Nat)(n:Nat)(p:Nat→Bool)(xs:List Nat)(ca cb:Code):RLoop:=
 ⟨19,2,[(1,.ipt [.isl z (cX f) n] 0),(2,.pt 0 0),(3,.pt 1 0)],tlO 0,tlS xs,2,2,goF (fun j=>p (xs.getD j 0)),yX xs,.ret,14,ca,cb⟩
theorem zT(hl:f.length=n)(hn:n≤400)(he0:pR f=0)(hs:iH f n=s)(hs6:s<64)(hx':dW s=xs)(hp:dD f=p)(hq:q<xs.length)(h1:p (xs.getD q 0)=true)(h2:∀i,i<q→p (xs.getD i 0)=false):
 ACall Tryz.prog 9 [.isl z (cX f) n] [] 0 (.tup [.val (.int .u16 (U (xs.getD q 0))),.val (.int .i64 0)]) []:=by
 have hva:=PLift.up (ky (z:=z) hl hn)
 rw[he0] at hva
 have hsv:=PLift.up (kN (z:=z) hl (by omega))
 rw[hs] at hsv
 have hho:∀q,ACall Tryz.prog 36 [.isl z (cX f) n,.val (.int .u16 (U q))] [] 0 (.val (.bool (p q))) []:=fun q=>by
  rw[←hp];exact AR hl (by omega)
 obtain⟨F,hF⟩:∃F,(fun j=>p (xs.getD j 0))=F:=⟨_,rfl⟩
 have hF2:∀j,p (xs.getD j 0)=F j:=fun j=>by rw[←hF]
 have hit:∀H:iU,H.P=Tryz.prog→H.xs=yX xs→H.go=goF F→∃r,ACall Tryz.prog 78 [.yl 0,bxS s] [.tr H 0] 1 r [.tr H (fd (goF F) 0 xs.length).1]:=fun H e1 e2 e3=>by
  have h:=CZ (H:=H) (s:=s) e1 (j6 s hs6).2 (by rw[e3];exact Jw (fun i hi=>absurd hi (by omega))) (fun i hi=>by rw[e2,←hx'];unfold yX;rw[if_pos hi])
  rw[e3,hx'] at h
  exact⟨_,h⟩
 have hfd:=fdF (F:=F) (n:=xs.length) (k:=0) (Jw (fun i hi=>absurd hi (by omega)))
 have hjq:jx F xs.length=some q:=by
  cases e:jx F xs.length with
  |none=>have:=adq e q hq;rw[←hF2,h1] at this;cases this
  |some j=>
   obtain⟨a1,a2,a3⟩:=WB e
   rcases Nat.lt_trichotomy j q with h|h|h
   ·have:=h2 j h;rw[hF2,a2] at this;cases this
   ·rw[h]
   ·have:=a3 q h;rw[←hF2,h1] at this;cases this
 rw[show jxG F 0 xs.length=some q from hjq] at hfd
 clear hp he0 hl hjq
 have hff:=ae
 refine az Tryz.func9 Tryz.ntmps9 rfl ?_
 repeat' (first|((first|refine dP (r:=4) 0 ?_|refine dO (r:=4) 0 ?_);simp-dsimp(disch:=try exact vD) only[push_cast,simprocAttr];(repeat refine aI ?_);intro K hK;refine hK _ _ ?_;clear hK K)|apply bZ|apply aB|((first|refine ax rfl (fun K hK=>?_)|refine ak (fun K hK=>?_));(first|refine ah (f:=33) [] 0 false ?_|refine ah (f:=35) [] 0 false ?_|refine ah (f:=34) [] 0 false ?_);simp-dsimp(disch:=try exact vD) only[push_cast,simprocAttr];(repeat refine aI ?_);intro G hG;refine hG _ _ ?_;clear hG G;(first|refine⟨_,_,hva.down,?_⟩|refine⟨_,_,hsv.down,?_⟩|refine⟨_,_,Ic (s:=s),?_⟩);simp-dsimp(disch:=try exact vD) only[push_cast,simprocAttr];(repeat refine aI ?_);apply hK;clear hK K)|((first|refine ax rfl (fun K hK=>?_)|refine ak (fun K hK=>?_));(first|apply bM|apply aR|apply bU|apply aO|apply eY|apply dH|apply zm|apply bR|apply bu|apply aU|apply dE);simp-dsimp(disch:=try exact vD) only[push_cast,simprocAttr];(repeat refine aI ?_);apply hK;clear hK K)|((first|refine aK rfl rfl (fun K1 K2 h1 h2=>?_) rfl|refine aF (fun K1 K2 h1 h2=>?_));simp-dsimp(disch:=try exact vD) only[push_cast,simprocAttr];(first|(refine⟨fun hc=>?_,fun hc=>?_⟩<;>first|(exfalso;omega)|(exfalso;contradiction)|refine h1 ?_|refine h2 ?_)|refine h1 ?_|refine h2 ?_);all_goals clear h1 h2 K1 K2)|apply cu|apply aL|apply bH|apply aX|apply aM|apply bI|apply aY|(refine aQ rfl ?_)|apply aZ|apply bG|apply bF|apply bY)
 refine rD (tlR z f n p xs _ _) [1,2] (fd (goF F) 0 xs.length).1 rfl (by simp[bnd]) (by kernel_rfl) (by rw[←hF] at hit⊢;exact hit) (by unfold tlR tlO;dsimp only;refine Sub.mk2 ?_;(simp-dsimp(disch:=try exact vD) only[push_cast,simprocAttr,])) rfl (Jw (fun i hi=>absurd hi (by omega))) (Nat.zero_le _) (fun j hj=>by have e:j=0∨j=1:=(by have:j<2:=hj;omega);rcases e with e|e<;>subst e<;>rfl) (by simp[tlR,bnd,xI]) (by show 14<19;decide) (.inl rfl) (fun j x hj hx=>?_) (fun hg=>?_) (fun hg=>?_)
 ·obtain⟨hjl,rfl⟩:=Ao hx
  have hj:goF F j=true:=by rw[←hF];exact hj
  have hF3:=hF2 j
  have hac:=PLift.up (hho (xs.getD j 0))
  rw[hF3] at hac
  have hgn:F j=false→goF F (j+1)=true:=fun e=>Jw (fun i hi=>by
   by_cases ei:i=j
   ·rw[ei];exact e
   ·exact G8 hj i (by omega))
  have hgs:F j=true→goF F (j+1)=false:=fun e=>by
   cases hh:goF F (j+1) with
   |false=>rfl
   |true=>have:=G8 hh j (by omega);rw[e] at this;cases this
  clear hx hho hit
  dsimp only[tlR,tlO]
  rcases Bool.eq_false_or_eq_true (F j) with hff|hff
  all_goals repeat' (first|(refine Mid.mk rfl ?_;dsimp only)|(refine ji [0,1] ⟨(by rw[hF];exact hgn hff),rfl⟩ ?_;(try dsimp only);unfold tlO;(try simp only[List.cons_append,List.nil_append]);refine Sub.mk2 ?_;(simp-dsimp(disch:=try exact vD) only[push_cast,simprocAttr,hff,Nat.add_sub_cancel]);(repeat refine aI ?_);first|done|exact vI)|(refine Ub [0,1] ⟨rfl,(by rw[hF];exact hgs hff),rfl⟩ ?_;(try dsimp only);unfold tlS;(try simp only[List.cons_append,List.nil_append]);refine Sub.mk2 ?_;(simp-dsimp(disch:=try exact vD) only[push_cast,simprocAttr,hff,Nat.add_sub_cancel]);(repeat refine aI ?_);first|done|exact vI)|apply bZ|apply aB|((first|refine ax rfl (fun K hK=>?_)|refine ak (fun K hK=>?_));(first|refine ah (f:=36) [] 0 false ?_);simp-dsimp(disch:=try exact vD) only[push_cast,simprocAttr,hff,Nat.add_sub_cancel];(repeat refine aI ?_);intro G hG;refine hG _ _ ?_;clear hG G;(first|refine⟨_,_,hac.down,?_⟩);simp-dsimp(disch:=try exact vD) only[push_cast,simprocAttr,hff,Nat.add_sub_cancel];(repeat refine aI ?_);apply hK;clear hK K)|((first|refine ax rfl (fun K hK=>?_)|refine ak (fun K hK=>?_));(first|apply bM|apply aR|apply bU|apply aO|apply eY|apply dH|apply zm|apply bR|apply bu|apply aU|apply dE);simp-dsimp(disch:=try exact vD) only[push_cast,simprocAttr,hff,Nat.add_sub_cancel];(repeat refine aI ?_);apply hK;clear hK K)|((first|refine aK rfl rfl (fun K1 K2 h1 h2=>?_) rfl|refine aF (fun K1 K2 h1 h2=>?_));simp-dsimp(disch:=try exact vD) only[push_cast,simprocAttr,hff,Nat.add_sub_cancel];(first|(refine⟨fun hc=>?_,fun hc=>?_⟩<;>first|(exfalso;omega)|(exfalso;contradiction)|refine h1 ?_|refine h2 ?_)|refine h1 ?_|refine h2 ?_);all_goals clear h1 h2 K1 K2)|apply cu|apply aL|apply bH|apply aX|apply aM|apply bI|apply aY|(refine aQ rfl ?_)|apply aZ|apply bG|apply bF|apply bY)
 ·have hg:goF F (fd (goF F) 0 xs.length).1=true:=by rw[←hF] at hg⊢;exact hg
  rw[hfd] at hg;dsimp only at hg
  have:=G8 hg q (by omega)
  rw[←hF2,h1] at this;cases this
 ·rw[hfd]
  dsimp only[tlR,tlS]
  repeat' (first|apply bZ|apply aB|((first|refine ax rfl (fun K hK=>?_)|refine ak (fun K hK=>?_));(first|apply bM|apply aR|apply bU|apply aO|apply eY|apply dH|apply zm|apply bR|apply bu|apply aU|apply dE);simp-dsimp(disch:=try exact vD) only[push_cast,simprocAttr];(repeat refine aI ?_);apply hK;clear hK K)|((first|refine aK rfl rfl (fun K1 K2 h1 h2=>?_) rfl|refine aF (fun K1 K2 h1 h2=>?_));simp-dsimp(disch:=try exact vD) only[push_cast,simprocAttr];(first|(refine⟨fun hc=>?_,fun hc=>?_⟩<;>first|(exfalso;omega)|(exfalso;contradiction)|refine h1 ?_|refine h2 ?_)|refine h1 ?_|refine h2 ?_);all_goals clear h1 h2 K1 K2)|apply cu|apply aL|apply bH|apply aX|apply aM|apply bI|apply aY|(refine aQ rfl ?_)|apply aZ|apply bG|apply bF|apply bY)
  (refine Ends.mk2 (by first|exact .inr rfl|exact .inl rfl) [] ?_;simp-dsimp(disch:=try exact vD) only[push_cast,simprocAttr,Tryz.f9,Nat.add_sub_cancel];try exact zqF)
theorem Eo(h0:0<n)(hb:n≤400)(hc:0<aA s 16)(hva:ACall Tryz.prog 33 [.isl z (cX f) n] [] 0 (.val (.int .i64 0)) [])(hle:ACall Tryz.prog 9 [.isl z (cX f) n] [] 0 (.tup [.val (.int .u16 (U s)),.val (.int .i64 0)]) []):
 ACall Tryz.prog 8 [.isl z (cX f) n] [] 0 (.tup [.val (.int .i64 ((aA s 16-1:Nat):Int)),.val (.int .i64 0)]) []:=by
 have hva:=PLift.up hva;have hle:=PLift.up hle
 have hml:=lF (s:=s) (j:=16)
 have zx1:¬n=0:=by omega
 refine az Tryz.func8 Tryz.ntmps8 rfl ?_
 have zx2:=aD;have zx3:=aD;repeat' (first|refine zqN ?_|refine eG hva.down ?_|refine eG hle.down ?_|refine eG (qG (s:=s)) ?_|refine dx ?_|refine dz ?_|(refine dA ?_ ?_<;>intro hc<;>try exact zqM))
 all_goals first
  |((refine Ends.mk2 zqI [] ?_;simp-dsimp(disch:=try exact vD) only[push_cast,simprocAttr,Tryz.f8];try exact zqF);done)
  |skip
