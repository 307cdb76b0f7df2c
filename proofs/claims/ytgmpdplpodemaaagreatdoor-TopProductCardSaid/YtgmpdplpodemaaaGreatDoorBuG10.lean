/- Pr6 Bu10 Bu12 Bu13 Bu14 Bu26. No condition. -/
import Derived.Test.YtgmpdplpodemaaaGreatDoorBuG8
set_option linter.all false
set_option maxHeartbeats 4000000
set_option maxRecDepth 20000
namespace Go.Proofs.YtgmpdplpodemaaaGreatDoor
section
open Go Go.Sy Go.Bp Go.Dg
attribute [local irreducible] AO AL AC OpT ACall Ends DGo aK Thn Blk Nxt
variable {n N M k i m r a b j w u v s q y d:Nat} {z:Bool} {x:Ex} {e:Int} {p:Nat->Bool} {xs qs:List Nat}
theorem Ny(hs:aF s 16<10)(hx:iq s=xs):∀H:jG,H.P=Tryz.prog->H.xs=yX xs->H.go=(λ_=>true)->∃r,ACall Tryz.prog 78 [.yl 0,bxS s] [.tr H 0] 1 r [.tr H xs.length]:=λH h1 h2 h3=>by
 have h:=Fv (H:=H) (s:=s) h1 hs (by rw[h3]) (λi hi=>by rw[h2,<-hx];unfold yX;rw[if_pos hi])
 rw[h3,Yx,hx,Nat.zero_add] at h
 exact⟨_,h⟩
attribute [local irreducible] aF mem iZ pick fd sbL iq mB mBl fH
theorem I1(hv:bB x=0)(hsh:kY x)(hks:KS x)(hs:svS x x.nodes.length=s)(hs9:aF s 16<10)(hx':iq s=xs)(hl6:xs.length<=600)(hml:∀j,j<=xs.length->mBl p xs j<=400)(hp:KH x=p):
 ACall Tryz.prog 20 [.agg (aa.cells x)] [] 0 (.tup [.isl (mBl p xs xs.length==0) (cX (mB p xs xs.length)) (mBl p xs xs.length),.val (.int .i64 0)]) []:=by
 have hva:=PLift.up (uK hsh)
 rw[hv] at hva
 have hok:=kL hv
 have hsv:=PLift.up (IZ hok rfl)
 rw[hs] at hsv
 have hho:∀q,ACall Tryz.prog 53 [.agg (aa.cells x),.val (.int .u16 (U q))] [] 0 (.val (.bool (p q))) []:=λq=>by
  rw[<-hp];exact Nw hok hks
 have hit:=Ny hs9 hx'
 clear hok hsh hks hp hv
 have hb:=ae;have hpq:=ae;have he:=ae;have hel:=ae
 refine az Tryz.func20 Tryz.ntmps20 rfl ?_
 repeat' (first|((first|refine bT (r:=5) 0 ?_|refine bS (r:=5) 0 ?_);simp-dsimp(disch:=try exact vD) only[push_cast,simprocAttr,C9,uJ];(repeat refine aI ?_);intro K hK;refine hK _ _ ?_;clear hK K)|apply dU|apply aJ|((first|refine ay rfl (λK hK=>?_)|refine au (λK hK=>?_));(first|refine ai (f:=47) [] 0 false ?_|refine ai (f:=52) [] 0 false ?_|refine ai (f:=34) [] 0 false ?_);simp-dsimp(disch:=try exact vD) only[push_cast,simprocAttr,C9,uJ];(repeat refine aI ?_);intro G hG;refine hG _ _ ?_;clear hG G;(first|refine⟨_,_,hva.down,?_⟩|refine⟨_,_,hsv.down,?_⟩|refine⟨_,_,KE (s:=s),?_⟩);simp-dsimp(disch:=try exact vD) only[push_cast,simprocAttr,C9,uJ];(repeat refine aI ?_);apply hK;clear hK K)|((first|refine ay rfl (λK hK=>?_)|refine au (λK hK=>?_));(first|apply cZ|apply aX|apply dz|apply aR|apply iI|apply dh|apply gU|apply gZ|apply ic|apply iD|apply eT|apply dO|apply aV|apply dC|apply bQ|apply bF|apply eH|apply dH);simp-dsimp(disch:=try exact vD) only[push_cast,simprocAttr,C9,uJ];(repeat refine aI ?_);apply hK;clear hK K)|((first|refine ay rfl (λK hK=>?_)|refine au (λK hK=>?_));(first|apply gz);simp-dsimp(disch:=try exact vD) only[push_cast,simprocAttr,C9,uJ];(repeat refine aI ?_);apply hK;clear hK K)|((first|refine ay rfl (λK hK=>?_)|refine au (λK hK=>?_));(first|apply d9);simp-dsimp(disch:=try exact vD) only[push_cast,simprocAttr,C9,uJ];(repeat refine aI ?_);apply hK;clear hK K)|((first|refine ay rfl (λK hK=>?_)|refine au (λK hK=>?_));(first|apply dZ);simp-dsimp(disch:=try exact vD) only[push_cast,simprocAttr,C9,uJ];(repeat refine aI ?_);apply hK;clear hK K)|((first|refine aN rfl rfl (λK1 K2 h1 h2=>?_) rfl|refine aL (λK1 K2 h1 h2=>?_));simp-dsimp(disch:=try exact vD) only[push_cast,simprocAttr,C9,uJ];(first|(refine⟨λhc=>?_,λhc=>?_⟩<;>first|(exfalso;omega)|(exfalso;contradiction)|refine h1 ?_|refine h2 ?_)|refine h1 ?_|refine h2 ?_);all_goals clear h1 h2 K1 K2)|apply dV|apply aT|apply cu|apply bG|apply aU|apply cK|apply bH|(refine bu rfl ?_)|apply bI|apply bZ|apply bY|apply dS)
 refine E9 (fyR x p xs _ _) [1,2,3,9] xs.length rfl (by simp[bnd]) (by kernel_rfl) hit (by unfold fyR fyO;dsimp only;refine Sub.mk2 ?_;(simp-dsimp(disch:=try exact vD) only[push_cast,simprocAttr,C9,uJ])) rfl rfl (Nat.zero_le _) (λj hj=>by
  have e:j=0\/j=1\/j=2:=(by have:j<3:=hj;omega)
  rcases e with e|e|e<;>subst e<;>rfl) (by simp[fyR,bnd]) (by show 15<33;decide) (.inl rfl) (λj x hj hx=>?_) (λ_=>?_) (λh=>nomatch h)
 ·obtain⟨hjl,rfl⟩:=QS hx
  have hm1:=λh=>afP (p:=p) (xs:=xs) (j:=j) h
  have hm2:=λh1 h2=>mB_t (p:=p) (xs:=xs) (j:=j) h1 h2
  have hll:=afQ (p:=p) (xs:=xs) (j:=j);have hml1:=hml j omgz;have hml2:=hml (j+1) omgz
  obtain⟨q,hq⟩:∃q,xs.getD j 0=q:=⟨_,rfl⟩
  rw[hq] at hm1 hm2⊢
  have hac:=PLift.up (hho q)
  have hh0:mBl p xs j=0->fH (mB p xs j) q=false:=λh=>by rw[kX h];unfold fH;rfl
  clear hx hho
  dsimp only[fyR,fyO]
  refine(Bool.eq_false_or_eq_true (fH (mB p xs j) q)).elim (λhb=>?_) (λhb=>(Bool.eq_false_or_eq_true (p q)).elim (λhpq=>?_) (λhpq=>?_))
  ·rcases Bool.eq_false_or_eq_true (p q) with hpq|hpq
   all_goals have he:=hm1 (.inl hb)
   all_goals have hel:=KF he
   all_goals rcases Nat.eq_zero_or_pos (mBl p xs j) with h0|h0
   all_goals first
    |(rw[hh0 h0] at hb;cases hb;done)
    |skip
   all_goals repeat' (first|(refine Mid.mk rfl ?_;dsimp only)|(refine oz [0,1,2,3] ⟨rfl,rfl⟩ ?_;(try dsimp only);unfold fyO;(try simp only[List.cons_append,List.nil_append]);refine Sub.mk2 ?_;(simp-dsimp(disch:=try exact vD) only[push_cast,simprocAttr,di,hb,hpq,he,hel,bC,dR,bR,kX,eF,ig,List.nil_append]);(repeat refine aI ?_);first|done|exact vI)|(refine oz [0,1,2,9] ⟨rfl,rfl⟩ ?_;(try dsimp only);unfold fyO;(try simp only[List.cons_append,List.nil_append]);refine Sub.mk2 ?_;(simp-dsimp(disch:=try exact vD) only[push_cast,simprocAttr,di,hb,hpq,he,hel,bC,dR,bR,kX,eF,ig,List.nil_append]);(repeat refine aI ?_);first|done|exact vI)|apply dU|apply aJ|((first|refine ay rfl (λK hK=>?_)|refine au (λK hK=>?_));(first|refine ai (f:=53) [] 0 false ?_|refine ai (f:=14) [] 0 true ?_);simp-dsimp(disch:=try exact vD) only[push_cast,simprocAttr,di,hb,hpq,he,hel,bC,dR,bR,kX,eF,ig,List.nil_append];(repeat refine aI ?_);intro G hG;refine hG _ _ ?_;clear hG G;(first|refine⟨_,_,hac.down,?_⟩|refine⟨_,_,xL (qs:=mB p xs j) eF omgz,?_⟩);simp-dsimp(disch:=try exact vD) only[push_cast,simprocAttr,di,hb,hpq,he,hel,bC,dR,bR,kX,eF,ig,List.nil_append];(repeat refine aI ?_);apply hK;clear hK K)|((first|refine ay rfl (λK hK=>?_)|refine au (λK hK=>?_));(first|apply cZ|apply aX|apply dz|apply aR|apply iI|apply dh|apply gU|apply gZ|apply ic|apply iD|apply eT|apply dO|apply aV|apply dC|apply bQ|apply bF|apply eH|apply dH);simp-dsimp(disch:=try exact vD) only[push_cast,simprocAttr,di,hb,hpq,he,hel,bC,dR,bR,kX,eF,ig,List.nil_append];(repeat refine aI ?_);apply hK;clear hK K)|((first|refine ay rfl (λK hK=>?_)|refine au (λK hK=>?_));(first|apply gz);simp-dsimp(disch:=try exact vD) only[push_cast,simprocAttr,di,hb,hpq,he,hel,bC,dR,bR,kX,eF,ig,List.nil_append];(repeat refine aI ?_);apply hK;clear hK K)|((first|refine ay rfl (λK hK=>?_)|refine au (λK hK=>?_));(first|apply d9);simp-dsimp(disch:=try exact vD) only[push_cast,simprocAttr,di,hb,hpq,he,hel,bC,dR,bR,kX,eF,ig,List.nil_append];(repeat refine aI ?_);apply hK;clear hK K)|((first|refine ay rfl (λK hK=>?_)|refine au (λK hK=>?_));(first|apply dZ);simp-dsimp(disch:=try exact vD) only[push_cast,simprocAttr,di,hb,hpq,he,hel,bC,dR,bR,kX,eF,ig,List.nil_append];(repeat refine aI ?_);apply hK;clear hK K)|((first|refine aN rfl rfl (λK1 K2 h1 h2=>?_) rfl|refine aL (λK1 K2 h1 h2=>?_));simp-dsimp(disch:=try exact vD) only[push_cast,simprocAttr,di,hb,hpq,he,hel,bC,dR,bR,kX,eF,ig,List.nil_append];(first|(refine⟨λhc=>?_,λhc=>?_⟩<;>first|(exfalso;omega)|(exfalso;contradiction)|refine h1 ?_|refine h2 ?_)|refine h1 ?_|refine h2 ?_);all_goals clear h1 h2 K1 K2)|apply dV|apply aT|apply cu|apply bG|apply aU|apply cK|apply bH|(refine bu rfl ?_)|apply bI|apply bZ|apply bY|apply dS)
  all_goals first
   |(have he:=hm2 hb hpq;have hel:=acl he)
   |(have he:=hm1 (.inr hpq);have hel:=KF he)
  all_goals rcases Nat.eq_zero_or_pos (mBl p xs j) with h0|h0
  all_goals repeat' (first|(refine Mid.mk rfl ?_;dsimp only)|(refine oz [0,1,2,3] ⟨rfl,rfl⟩ ?_;(try dsimp only);unfold fyO;(try simp only[List.cons_append,List.nil_append]);refine Sub.mk2 ?_;(simp-dsimp(disch:=try exact vD) only[push_cast,simprocAttr,di,hb,hpq,he,hel,bC,dR,bR,kX,eF,ig,List.nil_append]);(repeat refine aI ?_);first|done|exact vI)|(refine oz [0,1,2,9] ⟨rfl,rfl⟩ ?_;(try dsimp only);unfold fyO;(try simp only[List.cons_append,List.nil_append]);refine Sub.mk2 ?_;(simp-dsimp(disch:=try exact vD) only[push_cast,simprocAttr,di,hb,hpq,he,hel,bC,dR,bR,kX,eF,ig,List.nil_append]);(repeat refine aI ?_);first|done|exact vI)|(refine oz [0,1,2,5] ⟨rfl,rfl⟩ ?_;(try dsimp only);unfold fyO;(try simp only[List.cons_append,List.nil_append]);refine Sub.mk2 ?_;(simp-dsimp(disch:=try exact vD) only[push_cast,simprocAttr,di,hb,hpq,he,hel,bC,dR,bR,kX,eF,ig,List.nil_append]);(repeat refine aI ?_);first|done|exact vI)|(refine oz [0,1,2,4] ⟨rfl,rfl⟩ ?_;(try dsimp only);unfold fyO;(try simp only[List.cons_append,List.nil_append]);refine Sub.mk2 ?_;(simp-dsimp(disch:=try exact vD) only[push_cast,simprocAttr,di,hb,hpq,he,hel,bC,dR,bR,kX,eF,ig,List.nil_append]);(repeat refine aI ?_);first|done|exact vI)|apply dU|apply aJ|((first|refine ay rfl (λK hK=>?_)|refine au (λK hK=>?_));(first|refine ai (f:=53) [] 0 false ?_);simp-dsimp(disch:=try exact vD) only[push_cast,simprocAttr,di,hb,hpq,he,hel,bC,dR,bR,kX,eF,ig,List.nil_append];(repeat refine aI ?_);intro G hG;refine hG _ _ ?_;clear hG G;(first|refine⟨_,_,hac.down,?_⟩);simp-dsimp(disch:=try exact vD) only[push_cast,simprocAttr,di,hb,hpq,he,hel,bC,dR,bR,kX,eF,ig,List.nil_append];(repeat refine aI ?_);apply hK;clear hK K)|((first|refine ay rfl (λK hK=>?_)|refine au (λK hK=>?_));(first|(refine ai (f:=14) [] 0 true ?_;simp-dsimp(disch:=try exact vD) only[push_cast,simprocAttr,di,hb,hpq,he,hel,bC,dR,bR,kX,eF,ig,List.nil_append];(repeat refine aI ?_);intro G hG;refine hG _ _ ?_;clear hG G;refine⟨_,_,xL (qs:=mB p xs j) eF omgz,?_⟩;simp-dsimp(disch:=try exact vD) only[push_cast,simprocAttr,di,hb,hpq,he,hel,bC,dR,bR,kX,eF,ig,List.nil_append];(repeat refine aI ?_);apply hK;clear hK K)|(refine ai (f:=14) [] 0 true ?_;simp-dsimp(disch:=try exact vD) only[push_cast,simprocAttr,di,hb,hpq,he,hel,bC,dR,bR,kX,eF,ig,List.nil_append];(repeat refine aI ?_);intro G hG;refine hG _ _ ?_;clear hG G;refine⟨_,_,xL (qs:=[]) rfl omgz,?_⟩;simp-dsimp(disch:=try exact vD) only[push_cast,simprocAttr,di,hb,hpq,he,hel,bC,dR,bR,kX,eF,ig,List.nil_append];(repeat refine aI ?_);apply hK;clear hK K)))|((first|refine ay rfl (λK hK=>?_)|refine au (λK hK=>?_));(first|apply cZ|apply aX|apply dz|apply aR|apply iI|apply dh|apply gU|apply gZ|apply ic|apply iD|apply eT|apply dO|apply aV|apply dC|apply bQ|apply bF|apply eH|apply dH);simp-dsimp(disch:=try exact vD) only[push_cast,simprocAttr,di,hb,hpq,he,hel,bC,dR,bR,kX,eF,ig,List.nil_append];(repeat refine aI ?_);apply hK;clear hK K)|((first|refine ay rfl (λK hK=>?_)|refine au (λK hK=>?_));(first|apply gz);simp-dsimp(disch:=try exact vD) only[push_cast,simprocAttr,di,hb,hpq,he,hel,bC,dR,bR,kX,eF,ig,List.nil_append];(repeat refine aI ?_);apply hK;clear hK K)|((first|refine ay rfl (λK hK=>?_)|refine au (λK hK=>?_));(first|apply d9);simp-dsimp(disch:=try exact vD) only[push_cast,simprocAttr,di,hb,hpq,he,hel,bC,dR,bR,kX,eF,ig,List.nil_append];(repeat refine aI ?_);apply hK;clear hK K)|((first|refine ay rfl (λK hK=>?_)|refine au (λK hK=>?_));(first|apply dZ);simp-dsimp(disch:=try exact vD) only[push_cast,simprocAttr,di,hb,hpq,he,hel,bC,dR,bR,kX,eF,ig,List.nil_append];(repeat refine aI ?_);apply hK;clear hK K)|((first|refine aN rfl rfl (λK1 K2 h1 h2=>?_) rfl|refine aL (λK1 K2 h1 h2=>?_));simp-dsimp(disch:=try exact vD) only[push_cast,simprocAttr,di,hb,hpq,he,hel,bC,dR,bR,kX,eF,ig,List.nil_append];(first|(refine⟨λhc=>?_,λhc=>?_⟩<;>first|(exfalso;omega)|(exfalso;contradiction)|refine h1 ?_|refine h2 ?_)|refine h1 ?_|refine h2 ?_);all_goals clear h1 h2 K1 K2)|apply dV|apply aT|apply cu|apply bG|apply aU|apply cK|apply bH|(refine bu rfl ?_)|apply bI|apply bZ|apply bY|apply dS)
 ·dsimp only[fyR]
  rcases Nat.eq_zero_or_pos (mBl p xs xs.length) with h0|h0
  all_goals dsimp only[fyO]
  all_goals repeat' (first|apply dU|apply aJ|((first|refine ay rfl (λK hK=>?_)|refine au (λK hK=>?_));(first|apply cZ|apply aX|apply dz|apply aR|apply iI|apply dh|apply gU|apply gZ|apply ic|apply iD|apply eT|apply dO|apply aV|apply dC|apply bQ|apply bF|apply eH|apply dH);simp-dsimp(disch:=try exact vD) only[push_cast,simprocAttr];(repeat refine aI ?_);apply hK;clear hK K)|((first|refine ay rfl (λK hK=>?_)|refine au (λK hK=>?_));(first|apply gz);simp-dsimp(disch:=try exact vD) only[push_cast,simprocAttr];(repeat refine aI ?_);apply hK;clear hK K)|((first|refine ay rfl (λK hK=>?_)|refine au (λK hK=>?_));(first|apply d9);simp-dsimp(disch:=try exact vD) only[push_cast,simprocAttr];(repeat refine aI ?_);apply hK;clear hK K)|((first|refine ay rfl (λK hK=>?_)|refine au (λK hK=>?_));(first|apply dZ);simp-dsimp(disch:=try exact vD) only[push_cast,simprocAttr];(repeat refine aI ?_);apply hK;clear hK K)|((first|refine aN rfl rfl (λK1 K2 h1 h2=>?_) rfl|refine aL (λK1 K2 h1 h2=>?_));simp-dsimp(disch:=try exact vD) only[push_cast,simprocAttr];(first|(refine⟨λhc=>?_,λhc=>?_⟩<;>first|(exfalso;omega)|(exfalso;contradiction)|refine h1 ?_|refine h2 ?_)|refine h1 ?_|refine h2 ?_);all_goals clear h1 h2 K1 K2)|apply dV|apply aT|apply cu|apply bG|apply aU|apply cK|apply bH|(refine bu rfl ?_)|apply bI|apply bZ|apply bY|apply dS)
  ·rw[h0,kX h0];exact aB []
  ·rw[wT h0];((refine Ends.frz 3 ?_;simp-dsimp(disch:=try exact vD) only[push_cast,simprocAttr,Tryz.f20,ig,eF];(repeat refine aI ?_);intro K hK;refine hK _ _ ?_;clear hK K);refine Ends.mk2 (by first|exact .inr rfl|exact .inl rfl) [] ?_;simp-dsimp(disch:=try exact vD) only[push_cast,simprocAttr,Tryz.f20,ig,eF];try exact zqF)
end
set_option maxHeartbeats 2000000
section
open Go Go.Sy Go.Bp
attribute [local irreducible] AO AL AC OpT ACall Ends DGo aK Thn Blk Nxt
variable {z zl:Bool} {n i j m r L:Nat} {a:Int} {x:Ex} {l:List Ex} {of:Int->Int} {F:FuncId} {t:Nd}
theorem acs:[.val (.int .i64 0),.val (.int .i64 0),.val (.int .i64 0),.val (.int .i64 0),.val (.int .i64 0),.val (.int .i64 0),.val (.int .i64 0),.val (.int .i64 0),.val (.int .i64 0),.val (.int .i64 0),.val (.int .i64 0),.val (.int .i64 0),.val (.int .i64 0),.val (.int .i64 0),.val (.int .i64 0),.val (.int .i64 0),.val (.int .i64 0),.val (.int .i64 0),.val (.int .i64 0),.val (.int .i64 0),.val (.int .i64 0),.val (.int .i64 0),.val (.int .i64 0),.val (.int .i64 0),.val (.int .i64 0),.val (.int .i64 0),.val (.int .i64 0),.val (.int .i64 0),.val (.int .i64 0),.val (.int .i64 0),.val (.int .i64 0),.val (.int .i64 0),.val (.int .i64 0),.val (.int .i64 0),.val (.int .i64 0),.val (.int .i64 0),.val (.int .i64 0),.val (.int .i64 0),.val (.int .i64 0),.val (.int .i64 0),.val (.int .i64 0),.val (.int .i64 0),.val (.int .i64 0),.val (.int .i64 0),.val (.int .i64 0),.val (.int .i64 0),.val (.int .i64 0),.val (.int .i64 0),.val (.int .i64 0),.val (.int .i64 0),.val (.int .i64 0),.val (.int .i64 0),.val (.int .i64 0),.val (.int .i64 0),.val (.int .i64 0),.val (.int .i64 0),.val (.int .i64 0),.val (.int .i64 0),.val (.int .i64 0),.val (.int .i64 0)]=cI .i64 (List.replicate 60 0):=rfl
theorem acu{ns:List Nd}:InO 60 61 of ns 0 (List.replicate 60 0):=⟨by simp,by simp[szA]⟩
theorem acv(h:i<r+1)(hr:r<x.nodes.length):(x.nodes.take (r+1)).getD i default=x.nodes.getD i default:=by
 simp[List.getD_eq_getElem?_getD,List.getElem?_take,h]
theorem FC{A:List Int}(h:InO 60 61 of (x.nodes.take (r+1)) (r+1) A)(hr:x.root=(r:Nat)):A.getD r default=size 61 of x:=by
 rw[h.at' omgz,List.take_take,Nat.min_self]
 unfold size;rw[hr];rfl
theorem acw(hx:XOk x)(hi:i<x.nodes.length){q:Nat}(hq:q<(x.nodes.getD i default).k.length):0<=(x.nodes.getD i default).k.getD q default/\(x.nodes.getD i default).k.getD q default<i:=
 (hx.node i hi).ks _ (bq hq)
theorem Sk(hx:XOk x)(ho:∀s,0<=s->s<12->1<=of s/\of s<=61):∀n∈x.nodes.take (r+1),n.kind=1->1<=of n.server/\of n.server<=61:=λn hn _=>by
 obtain⟨j,hj,rfl⟩:=List.getElem_of_mem (List.mem_of_mem_take hn)
 have:=(hx.node j hj).srv
 rw[List.getD_eq_getElem?_getD,List.getElem?_eq_getElem hj,Option.getD_some] at this
 exact ho _ this.1 this.2
def Sl(F:FuncId)(of:Int->Int)(x:Ex)(r:Nat)(p:{p:Nat×List Int // p.1<=r+1/\InO 60 61 of (x.nodes.take (r+1)) p.1 p.2}):St:=
 ⟨56,0,[(1,.fn F []),(2,.pt 0 0),(5,.pt 1 0),(15,.isl x.nz (cR (x.nodes.take (r+1))) (r+1)),(16,.val (.int .i64 ((r:Int)+1))),(17,.val (.int .i64 p.val.1))],
  [(0,some (.cells (aa.cells x) 50)),(1,some (.cells (cI .i64 p.val.2) 188))]⟩
def Sn(F:FuncId)(of:Int->Int)(x:Ex)(r i:Nat)(t:Nd)(p:{p:Nat×List Int // p.1<=t.k.length/\InI 60 61 of (x.nodes.take (r+1)) i p.1 p.2}):St:=
 ⟨56,0,[(1,.fn F []),(2,.pt 0 0),(5,.pt 1 0),(6,.val (.int .i64 i)),(15,.isl x.nz (cR (x.nodes.take (r+1))) (r+1)),(16,.val (.int .i64 ((r:Int)+1))),(17,.val (.int .i64 i)),
    (34,.isl t.kz (cI .i64 t.k) t.k.length),(35,.val (.int .i64 t.k.length)),(36,.val (.int .i64 p.val.1))],
  [(0,some (.cells (aa.cells x) 50)),(1,some (.cells (cI .i64 p.val.2) 188))]⟩
theorem ajw [eU Tryz.prog F](hx:XOk x)(hsh:kY x)(hr:x.root=(r:Nat))(ho:∀s,0<=s->s<12->1<=of s/\of s<=61)
 (hf:∀s:Int,0<=s->s<12->ACall Tryz.prog F (.val (.int .i64 s)::[]) [] 0 (.val (.int .i64 (of s))) []):
 ACall Tryz.prog 89 [.agg (aa.cells x),.fn F []] [] 0 (.val (.int .i64 (size 61 of x))) []:=by
 have hfew:=hx.few
 have hrl:=hx.root.2
 have hnode:=PLift.up hx.node
 have hoo:=PLift.up (Sk (r:=r) hx ho)
 have hks:=λ(i q:Nat) (hi:i<x.nodes.length) (hq:q<(x.nodes.getD i default).k.length)=>acw hx hi hq
 have zx1:=ae
 have hsk:=λ(i:Nat) (h:i<x.nodes.length)=>(hsh.2 i h).2
 refine az Tryz.func89 Tryz.ntmps89 rfl ?_
 have zx2:= @hr;have zx3:= @acs;have zx4:= @List.set_set.{0};have zx5:=aA;have zx6:=aA;repeat' (first|(refine ah ?_;refine ak [0,1] ([0,1].length) (Sn F of x r i t) (λp=>t.k.length-p.val.1) ((if hkd2:t.kind=1 then⟨(0,A.set i (of t.server)),omgz,hA.start omgz (by rw[zx1];simp[s0,hkd2])⟩ else⟨(0,A.set i 1),omgz,hA.start omgz (by rw[zx1];simp[s0,hkd2])⟩)) rfl (by unfold Sn;exact dK) ?_;(rintro⟨⟨q,B⟩,hq,hB⟩;dsimp only at hq hB;have hBl:=hB.len;have hBr:=hB.rng (by decide) hoo.down (by rw[List.length_take];omega);have hBs:=hBr.1;rcases Nat.lt_or_eq_of_le hq with hql|hql<;>first|(have hkq:=hks i q omgz (by rw[hn1];exact hql);rw[hn1] at hkq;have hBk:=hBr.2 (t.k.getD q default).toNat omgz;(simp-dsimp only[Sn];refine zqS ?_))|(simp-dsimp only[Sn];refine zqS ?_)))|(refine aj ?_;refine Nxt.mk [0,1] (⟨(q+1,B.set i (min 61 (B.getD i default+B.getD (t.k.getD q default).toNat default))),omgz,hB.step omgz (by rw[zx1];exact hql) (by rw[zx1];omega) (by rw[zx1])⟩) rfl (by unfold Sn;exact dK) zqO)|(refine ah ?_;refine ak [0,1] ([0,1].length) (Sl F of x r) (λp=>r+1-p.val.1) (⟨(0,List.replicate 60 0),omgz,acu⟩) rfl (by unfold Sl;exact dK) ?_;(rintro⟨⟨i,A⟩,hi,hA⟩;dsimp only at hi hA;have hAl:=hA.len;rcases Nat.lt_or_eq_of_le hi with hil|hil<;>first|(have zx1:=acv (x:=x) hil omgz;have hnd:=hnode.down i omgz;have htl:=hsk i omgz;generalize hn1:x.nodes.getD i default=t at hnd zx1 htl;have hsv:=hnd.srv;rcases Decidable.em (t.kind=1) with hkd|hkd<;>(simp-dsimp only[Sl];refine zqS ?_))|(simp-dsimp only[Sl];refine zqS ?_)))|(refine aj ?_;refine Nxt.mk [0,1] (⟨(i+1,B),omgz,hB.done (by rw[List.length_take];omega) omgz (by rw[zx1];omega)⟩) rfl (by unfold Sl;exact dK) zqO)|refine zqN ?_|((first|refine ay rfl (λK hK=>?_)|refine au (λK hK=>?_)|refine aD (λK hK=>?_));(first|refine gq (f:=F) [] 0 false ?_);refine vT ?_;(first|refine⟨_,_,hf t.server omgz omgz,?_⟩);refine nP ?_;apply hK;clear hK K)|refine kI ?_|refine uy ?_|refine uz ?_|refine uA ?_|refine kJ ?_|(refine kK ?_ ?_<;>intro hc<;>try exact zqM)|refine zqR [(11,10,[2],0)] ?_|refine zqD ?_|fail)
 all_goals(have ei:i=r+1:=omgz;subst ei;have e:=FC hA hr;exact fu [] @e)
theorem ajx:ACall Tryz.prog 88 [.val (.int .i64 a)] [] 0 (.val (.int .i64 1)) []:=by
 refine az Tryz.func88 Tryz.ntmps88 rfl ?_
 repeat' (first|refine zqN ?_|refine aY ?_|refine aZ ?_|(refine bf ?_ ?_<;>intro hc<;>try exact zqM))
 all_goals exact aB []
def one1:Int->Int:=λ_=>1
theorem Sq(hx:XOk x)(hsh:kY x):ACall Tryz.prog 89 [.agg (aa.cells x),.fn 88 []] [] 0 (.val (.int .i64 (size 61 one1 x))) []:=by
 obtain⟨r,hr⟩:=Int.eq_ofNat_of_zero_le hx.root.1
 exact ajw hx hsh hr (λs _ _=>by unfold one1;omega) (λs _ _=>ajx)
def ofP(l:List Ex)(s:Int):Int:=if s<l.length then size 61 one1 (l.getD s.toNat default) else 1
theorem acx{s:Int}(h:s<l.length):ofP l s=size 61 one1 (l.getD s.toNat default):=by unfold ofP;rw[if_pos h]
theorem acy{s:Int}(h:¬s<l.length):ofP l s=1:=by unfold ofP;rw[if_neg h]
theorem Sr(hx:XOk x)(ho:∀s,0<=s->s<12->1<=of s/\of s<=61):1<=size 61 of x/\size 61 of x<=61:=by
 have h:=BH (c:=61) (of:=of) (by decide) (x.nodes.take (x.root.toNat+1)) (Sk hx ho) [] (by simp)
 unfold size
 have hl:x.root.toNat<(szA 61 of [] (x.nodes.take (x.root.toNat+1))).length:=by
  rw[xG,List.length_take];have:=hx.root;simp;omega
 rw[List.getD_eq_getElem?_getD,List.getElem?_eq_getElem hl,Option.getD_some]
 exact h _ (List.getElem_mem hl)
theorem YZ:∀s,0<=s->s<12->1<=one1 s/\one1 s<=61:=λ_ _ _=>by unfold one1;omega
theorem Y0(hl:∀y∈l,XOk y):∀s,0<=s->s<12->1<=ofP l s/\ofP l s<=61:=λs h0 _=>by
 unfold ofP;split
 ·exact Sr (hl _ (bq omgz)) YZ
 ·omega
theorem ajy(hl:∀y∈l,XOk y)(hls:∀y∈l,kY y)(hL:l.length=L)(hL2:L<2^40)(h0:0<=a):ACall Tryz.prog 90 [.val (.int .i64 a),.ipt [.isl zl (cR l) L] 0,.ipt [.fn 88 []] 0] [] 0 (.val (.int .i64 (ofP l a))) []:=by
 obtain⟨n,rfl⟩:=Int.eq_ofNat_of_zero_le h0
 have hy:=λh:n<L=>PLift.up (And.intro (hl (l.getD n default) (bq omgz)) (hls (l.getD n default) (bq omgz)))
 refine az Tryz.func90 Tryz.ntmps90 rfl ?_
 repeat' (first|refine zqN ?_|refine aM (Sq (x:=l.getD n default) (hy omgz).down.1 (hy omgz).down.2) ?_|refine aY ?_|refine aZ ?_|(refine bf ?_ ?_<;>intro hc<;>try exact zqM)|refine zqR [] ?_|refine zqD ?_|fail)
 all_goals first
  |(have e:=acx (l:=l) (s:=(n:Int)) omgz;rw[Int.toNat_natCast] at e;exact fu [] @e)
  |(have e:=acy (l:=l) (s:=(n:Int)) omgz;exact fu [] @e)
def Su(F:FuncId)(zl:Bool)(l:List Ex)(L:Nat)(of:Int->Int)(x:Ex)(r:Nat)(p:{p:Nat×List Int // p.1<=r+1/\InO 60 61 of (x.nodes.take (r+1)) p.1 p.2}):St:=
 ⟨56,0,[(1,.fn F [.ipt [.isl zl (cR l) L] 0,.ipt [.fn 88 []] 0]),(2,.pt 0 0),(5,.pt 1 0),(15,.isl x.nz (cR (x.nodes.take (r+1))) (r+1)),(16,.val (.int .i64 ((r:Int)+1))),(17,.val (.int .i64 p.val.1))],
  [(0,some (.cells (aa.cells x) 50)),(1,some (.cells (cI .i64 p.val.2) 188))]⟩
def Sv(F:FuncId)(zl:Bool)(l:List Ex)(L:Nat)(of:Int->Int)(x:Ex)(r i:Nat)(t:Nd)(p:{p:Nat×List Int // p.1<=t.k.length/\InI 60 61 of (x.nodes.take (r+1)) i p.1 p.2}):St:=
 ⟨56,0,[(1,.fn F [.ipt [.isl zl (cR l) L] 0,.ipt [.fn 88 []] 0]),(2,.pt 0 0),(5,.pt 1 0),(6,.val (.int .i64 i)),(15,.isl x.nz (cR (x.nodes.take (r+1))) (r+1)),(16,.val (.int .i64 ((r:Int)+1))),(17,.val (.int .i64 i)),
    (34,.isl t.kz (cI .i64 t.k) t.k.length),(35,.val (.int .i64 t.k.length)),(36,.val (.int .i64 p.val.1))],
  [(0,some (.cells (aa.cells x) 50)),(1,some (.cells (cI .i64 p.val.2) 188))]⟩
theorem ajz [eU Tryz.prog F](hx:XOk x)(hsh:kY x)(hr:x.root=(r:Nat))(ho:∀s,0<=s->s<12->1<=of s/\of s<=61)
 (hf:∀s:Int,0<=s->s<12->ACall Tryz.prog F (.val (.int .i64 s)::[.ipt [.isl zl (cR l) L] 0,.ipt [.fn 88 []] 0]) [] 0 (.val (.int .i64 (of s))) []):
 ACall Tryz.prog 89 [.agg (aa.cells x),.fn F [.ipt [.isl zl (cR l) L] 0,.ipt [.fn 88 []] 0]] [] 0 (.val (.int .i64 (size 61 of x))) []:=by
 have hfew:=hx.few
 have hrl:=hx.root.2
 have hnode:=PLift.up hx.node
 have hoo:=PLift.up (Sk (r:=r) hx ho)
 have hks:=λ(i q:Nat) (hi:i<x.nodes.length) (hq:q<(x.nodes.getD i default).k.length)=>acw hx hi hq
 have zx1:=ae
 have hsk:=λ(i:Nat) (h:i<x.nodes.length)=>(hsh.2 i h).2
 refine az Tryz.func89 Tryz.ntmps89 rfl ?_
 have zx2:= @hr;have zx3:= @acs;have zx4:= @List.set_set.{0};have zx5:=aA;have zx6:=aA;repeat' (first|(refine ah ?_;refine ak [0,1] ([0,1].length) (Sv F zl l L of x r i t) (λp=>t.k.length-p.val.1) ((if hkd2:t.kind=1 then⟨(0,A.set i (of t.server)),omgz,hA.start omgz (by rw[zx1];simp[s0,hkd2])⟩ else⟨(0,A.set i 1),omgz,hA.start omgz (by rw[zx1];simp[s0,hkd2])⟩)) rfl (by unfold Sv;exact dK) ?_;(rintro⟨⟨q,B⟩,hq,hB⟩;dsimp only at hq hB;have hBl:=hB.len;have hBr:=hB.rng (by decide) hoo.down (by rw[List.length_take];omega);have hBs:=hBr.1;rcases Nat.lt_or_eq_of_le hq with hql|hql<;>first|(have hkq:=hks i q omgz (by rw[hn1];exact hql);rw[hn1] at hkq;have hBk:=hBr.2 (t.k.getD q default).toNat omgz;(simp-dsimp only[Sv];refine zqS ?_))|(simp-dsimp only[Sv];refine zqS ?_)))|(refine aj ?_;refine Nxt.mk [0,1] (⟨(q+1,B.set i (min 61 (B.getD i default+B.getD (t.k.getD q default).toNat default))),omgz,hB.step omgz (by rw[zx1];exact hql) (by rw[zx1];omega) (by rw[zx1])⟩) rfl (by unfold Sv;exact dK) zqO)|(refine ah ?_;refine ak [0,1] ([0,1].length) (Su F zl l L of x r) (λp=>r+1-p.val.1) (⟨(0,List.replicate 60 0),omgz,acu⟩) rfl (by unfold Su;exact dK) ?_;(rintro⟨⟨i,A⟩,hi,hA⟩;dsimp only at hi hA;have hAl:=hA.len;rcases Nat.lt_or_eq_of_le hi with hil|hil<;>first|(have zx1:=acv (x:=x) hil omgz;have hnd:=hnode.down i omgz;have htl:=hsk i omgz;generalize hn1:x.nodes.getD i default=t at hnd zx1 htl;have hsv:=hnd.srv;rcases Decidable.em (t.kind=1) with hkd|hkd<;>(simp-dsimp only[Su];refine zqS ?_))|(simp-dsimp only[Su];refine zqS ?_)))|(refine aj ?_;refine Nxt.mk [0,1] (⟨(i+1,B),omgz,hB.done (by rw[List.length_take];omega) omgz (by rw[zx1];omega)⟩) rfl (by unfold Su;exact dK) zqO)|refine zqN ?_|((first|refine ay rfl (λK hK=>?_)|refine au (λK hK=>?_)|refine aD (λK hK=>?_));(first|refine gq (f:=F) [] 0 false ?_);refine vT ?_;(first|refine⟨_,_,hf t.server omgz omgz,?_⟩);refine nP ?_;apply hK;clear hK K)|refine kI ?_|refine uy ?_|refine uz ?_|refine uA ?_|refine kJ ?_|(refine kK ?_ ?_<;>intro hc<;>try exact zqM)|refine zqR [(11,10,[2],0)] ?_|refine zqD ?_|fail)
 all_goals(have ei:i=r+1:=omgz;subst ei;have e:=FC hA hr;exact fu [] @e)
theorem af5(hx:XOk x)(hsh:kY x)(hl:∀y∈l,XOk y)(hls:∀y∈l,kY y)(hL:l.length=L)(hL2:L<2^40):ACall Tryz.prog 89 [.agg (aa.cells x),.fn 90 [.ipt [.isl zl (cR l) L] 0,.ipt [.fn 88 []] 0]] [] 0 (.val (.int .i64 (size 61 (ofP l) x))) []:=by
 obtain⟨r,hr⟩:=Int.eq_ofNat_of_zero_le hx.root.1
 exact ajz hx hsh hr (Y0 hl) (λs h0 _=>ajy hl hls hL hL2 h0)
end
section
open Go Go.Sy Go.Bp
attribute [local irreducible] AO AL AC OpT ACall Ends DGo aK Thn Blk Nxt
variable {z zl:Bool} {n i j m r L f q:Nat} {a y:Int} {x:Ex} {l:List Ex} {t:Nd} {out:List Nd}
def mkP(n:Nd)(ks:List Int):Nd:=⟨n.kind,n.server,n.need,n.wz,n.w,ks.isEmpty,ks⟩
def gP(x:Ex)(l:List Ex)(f i:Nat)(out:List Nd):List Nd:=fQ mkP (mD mkP l) x.nodes f i out
def oQ(x:Ex)(l:List Ex)(f:Nat)(t:Nd)(out:List Nd)(q:Nat):List Nd:=(gS (gP x l f) (t.k.take q) (out,[])).1
def kQ(x:Ex)(l:List Ex)(f:Nat)(t:Nd)(out:List Nd)(q:Nat):List Int:=(gS (gP x l f) (t.k.take q) (out,[])).2
theorem Sw:oQ x l f t out 0=out:=by simp[oQ,gS]
theorem kQ_z(h:q=0):kQ x l f t out q=[]:=by subst h;simp[kQ,gS]
theorem NC(h:q<t.k.length):oQ x l f t out (q+1)=gP x l f (t.k.getD q default).toNat (oQ x l f t out q):=by
 unfold oQ;rw[qV h,Ko]
theorem kQ_s(h:q<t.k.length):kQ x l f t out (q+1)=kQ x l f t out q++[((gP x l f (t.k.getD q default).toNat (oQ x l f t out q)).length:Int)-1]:=by
 unfold kQ oQ;rw[qV h,Ko]
theorem vX(h:q<=t.k.length):(kQ x l f t out q).length=q:=by
 unfold kQ;rw[Ya];simp;omega
theorem acz(h:q<=t.k.length):(kQ x l f t out q).take q=kQ x l f t out q:=List.take_of_length_le (by rw[vX h];exact Nat.le_refl _)
theorem acA:out.length<=(gP x l f i out).length:=zI _ _ _ Yc _ _ _
theorem gP_s(ht:x.nodes.getD i default=t)(hs:mD mkP l out t=none):gP x l (f+1) i out=(gS (gP x l f) t.k (out,[])).1++[mkP t (gS (gP x l f) t.k (out,[])).2]:=by
 show fQ mkP (mD mkP l) x.nodes (f+1) i out=_
 rw[oF _ _ _ _ _ _ (by rw[ht];exact hs),ht];rfl
theorem Sz(ht:x.nodes.getD i default=t)(hs:mD mkP l out t=none):(oQ x l f t out q).length+1<=(gP x l (f+1) i out).length:=by
 rw[gP_s ht hs,List.length_append]
 have:=Iz (g:=gP x l f) (λi o=>acA) t.k q (out,[])
 unfold oQ;simp only[List.length_singleton];omega
theorem SA(ht:x.nodes.getD i default=t)(hs:mD mkP l out t=none)(hq:q=t.k.length):gP x l (f+1) i out=oQ x l f t out q++[mkP t (kQ x l f t out q)]:=by
 subst hq
 rw[gP_s ht hs];unfold oQ kQ;rw[List.take_length]
theorem acB(h:q<=t.k.length):out.length<=(oQ x l f t out q).length:=by
 have:=Kq (g:=gP x l f) (λi o=>acA) (t.k.take q) (out,[])
 exact this
theorem SB(ht:x.nodes.getD i default=t)(hk:t.kind=1)(hs:t.server<l.length):gP x l (f+1) i out=o6 mkP (l.getD t.server.toNat default) out:=by
 unfold gP
 rw[nU _ _ _ _ _ _ _ (by rw[ht];exact Nj hk hs)]
theorem af6:0<(gP x l (f+1) i out).length:=BG _ _ _ Q5 _ _ _
def eN(out:List Nd)(a:Int):aC:= .cells [.sl 1 0 out.length 5,.val (.int .i64 a)] 50
def eZ(a:Int):aC:= .cells [.isl true [] 0,.val (.int .i64 a)] 50
def wN(out:List Nd):List aC:=[eN out ((out.length:Int)-1),.cells (cR out) 95]
structure WOk(x:Ex)(y:Int)(l:List Ex)(zl:Bool)(L:Nat)(G:List Nd->List Nd):Prop where
 z:∀a,(G []).length<=1000->ACall Tryz.prog 91 [.pt 0 0,.agg (aa.cells x),.val (.int .i64 y),.isl zl (cR l) L] [eZ a] 1 (.tup []) (wN (G []))
 s:∀out a,0<out.length->(G out).length<=1000->ACall Tryz.prog 91 [.pt 0 0,.agg (aa.cells x),.val (.int .i64 y),.isl zl (cR l) L] [eN out a,.cells (cR out) 95] 1 (.tup []) (wN (G out))
def rtQ(a:Int)(n q:Nat):Int:=if q=0 then a else(n:Int)-1
theorem acC(h:q=0):rtQ a n q=a:=by unfold rtQ;rw[if_pos h]
theorem acD(h:0<q):rtQ a n q=(n:Int)-1:=by unfold rtQ;rw[if_neg omgz]
def wrI(x:Ex)(l:List Ex)(zl:Bool)(L f:Nat)(t:Nd)(out:List Nd)(a:Int)(q:{q:Nat // q<=t.k.length}):St:=
 ⟨87,1,[(0,.pt 0 0),(3,.isl zl (cR l) L),(5,.pt 1 0),(8,.pt 2 0),(47,.isl t.kz (cI .i64 t.k) t.k.length),(48,.val (.int .i64 t.k.length)),(49,.val (.int .i64 q.val))],
  [(0,some (.cells [fw (oQ x l f t out q.val).length 3 5,.val (.int .i64 (rtQ a (oQ x l f t out q.val).length q.val))] 50)),(1,some (.cells (aa.cells x) 50)),
   (2,some (.cells [.val (.int .i64 t.kind),.val (.int .i64 t.server),.val (.int .i64 t.need),.isl t.wz (cI .i64 t.w) t.w.length,fw q.val 4 1] 95))]++fA (oQ x l f t out q.val).length 3 (cR (oQ x l f t out q.val)) 95++fA q.val 4 (cI .i64 (kQ x l f t out q.val)) 3⟩
theorem FD(hi:i<x.nodes.length)(hfew:x.nodes.length<=60)(ht:x.nodes.getD i default=t)(hk:t.kind=1)(hs:t.server<l.length)(h0:0<=t.server)(hL:l.length=L)(hL2:L<2^40)
 (hw:WOk (l.getD t.server.toNat default) (l.getD t.server.toNat default).root [] true 0 (o6 mkP (l.getD t.server.toNat default))) (hfin:(o6 mkP (l.getD t.server.toNat default) []).length<=1000):
 ACall Tryz.prog 91 [.pt 0 0,.agg (aa.cells x),.val (.int .i64 i),.isl zl (cR l) L] [eZ a] 1 (.tup []) (wN (o6 mkP (l.getD t.server.toNat default) [])):=by
 have hw1:=PLift.up (hw.z a hfin)
 simp only[eZ,wN,eN,CL] at hw1⊢
 refine az Tryz.func91 Tryz.ntmps91 rfl ?_
 have zx1:= @ht;have zx2:= @hk;have zx3:=aA;repeat' (first|refine zqN ?_|((first|refine ay rfl (λK hK=>?_)|refine au (λK hK=>?_)|refine aD (λK hK=>?_));(first|refine ai (f:=91) (dst:=some 39) [0] 1 false ?_);refine zu ?_;(first|refine⟨_,_,hw1.down,?_⟩);refine rG ?_;apply hK;clear hK K)|refine dm ?_|refine oV ?_|refine oW ?_|refine oZ ?_|refine dn ?_|(refine dw ?_ ?_<;>intro hc<;>try exact zqM)|refine zqR [(3,12,[2],1),(10,6,[],1),(10,7,[2],1),(10,9,[2],0),(12,6,[],1),(12,7,[2],1),(12,10,[2],0)] ?_|refine zqD ?_|fail)
 all_goals exact aB [0,3]
theorem FE(hi:i<x.nodes.length)(hfew:x.nodes.length<=60)(ht:x.nodes.getD i default=t)(hk:t.kind=1)(hs:t.server<l.length)(h0:0<=t.server)(hL:l.length=L)(hL2:L<2^40)
 (hw:WOk (l.getD t.server.toNat default) (l.getD t.server.toNat default).root [] true 0 (o6 mkP (l.getD t.server.toNat default))) (ho:0<out.length) (hfin:(o6 mkP (l.getD t.server.toNat default) out).length<=1000):
 ACall Tryz.prog 91 [.pt 0 0,.agg (aa.cells x),.val (.int .i64 i),.isl zl (cR l) L] [eN out a,.cells (cR out) 95] 1 (.tup []) (wN (o6 mkP (l.getD t.server.toNat default) out)):=by
 have hw1:=PLift.up (hw.s out a ho hfin)
 simp only[eZ,wN,eN,CL] at hw1⊢
 refine az Tryz.func91 Tryz.ntmps91 rfl ?_
 have zx1:= @ht;have zx2:= @hk;have zx3:=aA;repeat' (first|refine zqN ?_|((first|refine ay rfl (λK hK=>?_)|refine au (λK hK=>?_)|refine aD (λK hK=>?_));(first|refine ai (f:=91) (dst:=some 39) [0,1] 1 false ?_);refine zu ?_;(first|refine⟨_,_,hw1.down,?_⟩);refine rG ?_;apply hK;clear hK K)|refine dm ?_|refine oV ?_|refine oW ?_|refine oZ ?_|refine dn ?_|(refine dw ?_ ?_<;>intro hc<;>try exact zqM)|refine zqR [(3,12,[2],1),(10,6,[],1),(10,7,[2],1),(10,9,[2],0),(12,6,[],1),(12,7,[2],1),(12,10,[2],0)] ?_|refine zqD ?_|fail)
 all_goals exact aB [0,4]
theorem af7(hf:0<f)(h0:0<q)(h:q<=t.k.length):0<(oQ x l f t out q).length:=by
 obtain⟨q,rfl⟩:∃p,q=p+1:=⟨q-1,omgz⟩
 obtain⟨f,rfl⟩:∃p,f=p+1:=⟨f-1,omgz⟩
 rw[NC omgz];exact af6
theorem acE(h:q=0):mkP t (kQ x l f t out q)=⟨t.kind,t.server,t.need,t.wz,t.w,true,[]⟩:=by subst h;rfl
theorem acF(h:0<q)(h2:q<=t.k.length):mkP t (kQ x l f t out q)=⟨t.kind,t.server,t.need,t.wz,t.w,false,kQ x l f t out q⟩:=by
 unfold mkP
 have:=vX (x:=x) (l:=l) (f:=f) (t:=t) (out:=out) h2
 cases hk:kQ x l f t out q with
 |nil=>rw[hk] at this;simp at this;omega
 |cons a b=>rfl
theorem FH(hi:i<x.nodes.length)(hfew:x.nodes.length<=60)(ht:x.nodes.getD i default=t)(hsu:¬(t.kind=1/\t.server<l.length))(hL:l.length=L)(hL2:L<2^40)
 (hno:NOk t i) (hwz:t.wz=true->t.w=[]) (hwl:t.w.length<=1000) (hkl:t.k.length<=1000)
 (ih:∀y:Int,0<=y->y<i->WOk x y l zl L (gP x l f y.toNat)) (ho:0<out.length) (hfin:(gP x l (f+1) i out).length<=1000):
 ACall Tryz.prog 91 [.pt 0 0,.agg (aa.cells x),.val (.int .i64 i),.isl zl (cR l) L] [eN out a,.cells (cR out) 95] 1 (.tup []) (wN (gP x l (f+1) i out)):=by
 have hsub:=nV (mk:=mkP) (l:=l) (out:=out) (n:=t) hsu
 have hle:=λq=>Sz (q:=q) (f:=f) ht hsub
 have hge:=λ(q:Nat) (h:q<=t.k.length)=>acB (x:=x) (l:=l) (f:=f) (out:=out) h
 have hih:=λ(q:Nat) (h:q<t.k.length)=>PLift.up ((ih (t.k.getD q default) (hno.ks _ (bq h)).1 (hno.ks _ (bq h)).2).s (oQ x l f t out q))
 have hnx:=λ(q:Nat) (h:q<t.k.length)=>NC (x:=x) (l:=l) (f:=f) (out:=out) h
 have hend:=PLift.up (SA (f:=f) (q:=t.k.length) ht hsub rfl)
 clear ih
 simp only[wN,eN] at hih⊢
 refine az Tryz.func91 Tryz.ntmps91 rfl ?_
 have zx1:= @ht;have zx2:= @Sw;have zx3:= @kQ_z;have zx4:= @NC;have zx5:= @kQ_s;have zx6:= @vX;have zx7:= @acz;have zx8:= @acC;have zx9:= @acD;have zx10:= @lV;have zx11:=aA;have zx12:=aA;repeat' (first|((first|refine bT (r:=12) 4 ?_|refine bS (r:=12) 4 ?_);refine o5 ?_;intro K hK;refine hK _ _ ?_;clear hK K)|(refine ah ?_;refine ak [0,2,3,1,90] ([0,2,3,1,90].length) (wrI x l zl L f t out a) (λq=>t.k.length-q.val) (⟨0,omgz⟩) rfl (by unfold wrI;exact cO) ?_;(rintro⟨q,hq⟩;have hq1:=hle q;have hq2:=hge q hq;rcases Nat.eq_zero_or_pos q with hq0|hq0<;>rcases Nat.lt_or_eq_of_le hq with hql|hql<;>first|(have hq3:=hle (q+1);have hq4:=hnx q hql;rw[hq4] at hq3;have hq5:=hge (q+1) hql;rw[hq4] at hq5;(simp-dsimp only[wrI];refine zqS ?_))|(simp-dsimp only[wrI];refine zqS ?_)))|(refine aj ?_;refine Nxt.mk [0,1,2,5,7] (⟨q+1,omgz⟩) rfl (by unfold wrI;exact cO) zqO)|refine zqN ?_|((first|refine ay rfl (λK hK=>?_)|refine au (λK hK=>?_)|refine aD (λK hK=>?_));(first|refine ai (f:=125) [] 0 false ?_|refine ai (f:=91) (dst:=some 57) [0,3] 1 false ?_);refine Fe ?_;(first|refine⟨_,_,KM rfl omgz hwz,?_⟩|refine⟨_,_,(hih q omgz).down _ omgz omgz,?_⟩);refine o5 ?_;apply hK;clear hK K)|refine nQ ?_|refine sK ?_|refine sM ?_|refine sO ?_|refine nR ?_|(refine nS ?_ ?_<;>intro hc<;>try exact zqM)|refine zqR [(3,12,[2],1),(10,6,[],1),(10,7,[2],1),(10,9,[5],0),(12,6,[],1),(12,7,[2],1),(12,10,[3],0)] ?_|refine zqD ?_|fail)
 all_goals obtain rfl:q=t.k.length:=by omega
 all_goals have e1:=hend.down
 all_goals have e3:=vX (x:=x) (l:=l) (f:=f) (t:=t) (out:=out) (q:=t.k.length) (Nat.le_refl _)
 all_goals first
  |(have e2:=acF (x:=x) (l:=l) (f:=f) (t:=t) (out:=out) (q:=t.k.length) hq0 (Nat.le_refl _);exact afq [0,6] @e1 @e2 @lV @Int.add_sub_cancel)
  |(have e2:=acE (x:=x) (l:=l) (f:=f) (t:=t) (out:=out) (q:=t.k.length) hq0;exact afq [0,6] @e1 @e2 @lV @Int.add_sub_cancel)
theorem FI(hi:i<x.nodes.length)(hfew:x.nodes.length<=60)(ht:x.nodes.getD i default=t)(hsu:¬(t.kind=1/\t.server<l.length))(hL:l.length=L)(hL2:L<2^40)
 (hno:NOk t i) (hwz:t.wz=true->t.w=[]) (hwl:t.w.length<=1000) (hkl:t.k.length<=1000)
 (ih:∀y:Int,0<=y->y<i->WOk x y l zl L (gP x l f y.toNat)) (hf:0<t.k.length->0<f) (hfin:(gP x l (f+1) i []).length<=1000):
 ACall Tryz.prog 91 [.pt 0 0,.agg (aa.cells x),.val (.int .i64 i),.isl zl (cR l) L] [eZ a] 1 (.tup []) (wN (gP x l (f+1) i [])):=by
 have hsub:=nV (mk:=mkP) (l:=l) (out:=[]) (n:=t) hsu
 have hle:=λq=>Sz (q:=q) (f:=f) ht hsub
 have hge:=λ(q:Nat) (h:q<=t.k.length)=>acB (x:=x) (l:=l) (f:=f) (out:=[]) h
 have hih0:=λ(h:0<t.k.length)=>PLift.up ((ih (t.k.getD 0 default) (hno.ks _ (bq h)).1 (hno.ks _ (bq h)).2).z)
 have hpos:=λ(q:Nat) (h0:0<q) (h:q<=t.k.length)=>af7 (x:=x) (l:=l) (t:=t) (out:=[]) (hf omgz) h0 h
 have hih:=λ(q:Nat) (h:q<t.k.length)=>PLift.up ((ih (t.k.getD q default) (hno.ks _ (bq h)).1 (hno.ks _ (bq h)).2).s (oQ x l f t [] q))
 have hnx:=λ(q:Nat) (h:q<t.k.length)=>NC (x:=x) (l:=l) (f:=f) (out:=[]) h
 have hend:=PLift.up (SA (f:=f) (q:=t.k.length) ht hsub rfl)
 clear ih
 simp only[wN,eN,eZ] at hih hih0⊢
 refine az Tryz.func91 Tryz.ntmps91 rfl ?_
 have zx1:= @ht;have zx2:= @Sw;have zx3:= @kQ_z;have zx4:= @NC;have zx5:= @kQ_s;have zx6:= @vX;have zx7:= @acz;have zx8:= @acC;have zx9:= @acD;have zx10:= @lV;have zx11:=aA;have zx12:=aA;repeat' (first|((first|refine bT (r:=12) 4 ?_|refine bS (r:=12) 4 ?_);refine o5 ?_;intro K hK;refine hK _ _ ?_;clear hK K)|(refine ah ?_;refine ak [0,1,2,90,91] ([0,1,2,90,91].length) (wrI x l zl L f t [] a) (λq=>t.k.length-q.val) (⟨0,omgz⟩) rfl (by unfold wrI;exact cO) ?_;(rintro⟨q,hq⟩;rcases Nat.eq_zero_or_pos q with hq0|hq0<;>rcases Nat.lt_or_eq_of_le hq with hql|hql<;>first|(subst hq0;have hq3:=hle 1;have hq4:=hnx 0 hql;rw[Sw] at hq4;rw[hq4] at hq3;have hq5:=hpos 1 omgz hql;rw[hq4] at hq5;(simp-dsimp only[wrI];refine zqS ?_))|(have hq1:=hle q;have hq2:=hpos q hq0 hq;have hq3:=hle (q+1);have hq4:=hnx q hql;rw[hq4] at hq3;have hq5:=hpos (q+1) omgz hql;rw[hq4] at hq5;(simp-dsimp only[wrI];refine zqS ?_))|(subst hq0;(simp-dsimp only[wrI];refine zqS ?_))|(have hq1:=hle q;have hq2:=hpos q hq0 hq;(simp-dsimp only[wrI];refine zqS ?_))))|(refine aj ?_;refine Nxt.mk [0,1,2,5,7] (⟨q+1,omgz⟩) rfl (by unfold wrI;exact cO) zqO)|(refine aj ?_;refine Nxt.mk [0,1,2,5,7] (⟨0+1,omgz⟩) rfl (by unfold wrI;exact cO) zqO)|refine zqN ?_|refine jq (KM rfl omgz hwz) ?_|((first|refine ay rfl (λK hK=>?_)|refine au (λK hK=>?_)|refine aD (λK hK=>?_));(first|(refine ai (f:=91) (dst:=some 57) [0,3] 1 false ?_;refine Fe ?_;refine⟨_,_,(hih q omgz).down _ omgz omgz,?_⟩;refine o5 ?_;apply hK;clear hK K)|(refine ai (f:=91) (dst:=some 57) [0] 1 false ?_;refine Fe ?_;refine⟨_,_,(hih0 omgz).down _ omgz,?_⟩;refine o5 ?_;apply hK;clear hK K)))|refine nQ ?_|refine sK ?_|refine sM ?_|refine sO ?_|refine nR ?_|(refine nS ?_ ?_<;>intro hc<;>try exact zqM)|refine zqR [(3,12,[2],1),(10,6,[],1),(10,7,[2],1),(10,9,[5],0),(12,6,[],1),(12,7,[2],1),(12,10,[3],0)] ?_|refine zqD ?_|fail)
 all_goals have e1:=hend.down
 all_goals first
  |(obtain rfl:q=t.k.length:=by omega
    have e3:=vX (x:=x) (l:=l) (f:=f) (t:=t) (out:=[]) (q:=t.k.length) (Nat.le_refl _)
    have e2:=acF (x:=x) (l:=l) (f:=f) (t:=t) (out:=[]) (q:=t.k.length) hq0 (Nat.le_refl _);exact afq [0,6] @e1 @e2 @lV @Int.add_sub_cancel)
  |(have e0:t.k.length=0:=omgz
    have e2:=acE (x:=x) (l:=l) (f:=f) (t:=t) (out:=[]) (q:=t.k.length) e0
    rw[e2,e0,Sw] at e1;exact zqX3 [0,6] @e1 @lV @Int.add_sub_cancel)
end
section
open Go Go.Sy Go.Bp
attribute [local irreducible] AO AL AC OpT ACall Ends DGo aK Thn Blk Nxt
variable {z zl:Bool} {n i j m r L f q:Nat} {a y:Int} {x:Ex} {l:List Ex} {t:Nd} {out:List Nd}
theorem FJ(mk:Nd->List Int->Nd)(sub:List Nd->Nd->Option (List Nd))(nodes:List Nd)(hs:∀o n o',sub o n=some o'->o.length<o'.length)(f i:Nat)(out:List Nd):out.length<(fQ mk sub nodes (f+1) i out).length:=by
 cases h:sub out (nodes.getD i default) with
 |some o=>rw[nU _ _ _ _ _ _ _ h];exact hs _ _ _ h
 |none=>
  rw[oF _ _ _ _ _ _ h,List.length_append]
  have:=Kq (g:=fQ mk sub nodes f) (λi o=>zI _ _ _ (λo n o' h=>Nat.le_of_lt (hs o n o' h)) f i o) (nodes.getD i default).k (out,[])
  dsimp only at this;simp only[List.length_singleton];omega
theorem Y2{mk:Nd->List Int->Nd} {l:List Ex}:∀o n o',mD mk l o n=some o'->o.length<o'.length:=λo n o' h=>by
 unfold mD at h;split at h
 ·rw[<-Option.some.inj h];exact FJ _ _ _ (λ_ _ _ h=>by cases h) _ _ _
 ·cases h
theorem ajA(hf:0<f):out.length<(gP x l f i out).length:=by
 obtain⟨f,rfl⟩:∃p,f=p+1:=⟨f-1,omgz⟩
 exact FJ _ _ _ Y2 _ _ _
theorem af8(hf:0<f)(h:q<=t.k.length):out.length+q<=(oQ x l f t out q).length:=by
 induction q with
 |zero=>rw[Sw];exact Nat.le_refl _
 |succ q ih=>
  rw[NC omgz]
  have:=ih omgz
  have:=ajA (x:=x) (l:=l) (i:=(t.k.getD q default).toNat) (out:=oQ x l f t out q) hf
  omega
theorem KQ(ht:x.nodes.getD i default=t)(hs:mD mkP l out t=none)(hf:0<t.k.length->0<f)(hfin:(gP x l (f+1) i out).length<=1000):t.k.length<=1000:=by
 rcases Nat.eq_zero_or_pos t.k.length with h0|h0
 ·omega
 ·have h1:=af8 (x:=x) (l:=l) (out:=out) (hf h0) (Nat.le_refl t.k.length)
  have h2:=Sz (q:=t.k.length) (f:=f) ht hs
  omega
def xg(x:Ex):Prop:=∀j,j<x.nodes.length->(x.nodes.getD j default).wz=true->(x.nodes.getD j default).w=[]
theorem acG(hx:XOk x)(hfl:xg x)(hL:l.length=L)(hL2:L<2^40)
 (hsub:∀s:Int,0<=s->s<l.length->WOk (l.getD s.toNat default) (l.getD s.toNat default).root [] true 0 (o6 mkP (l.getD s.toNat default))):
 ∀(f:Nat) (y:Int),0<=y->y<x.nodes.length->y.toNat<f->WOk x y l zl L (gP x l f y.toNat):=by
 intro f
 induction f with
 |zero=>intro y _ _ h;omega
 |succ f ih=>
  intro y h0 h1 h2
  obtain⟨i,rfl⟩:=Int.eq_ofNat_of_zero_le h0
  rw[Int.toNat_natCast] at h2⊢
  have hi:i<x.nodes.length:=by omega
  have hno:=hx.node i hi
  have hwz:=hfl i hi
  generalize ht:x.nodes.getD i default=t at hno hwz
  by_cases hc:t.kind=1/\t.server<l.length
  ·have hw:=hsub t.server hno.srv.1 hc.2
   refine⟨λa hfin=>?_,λout a ho hfin=>?_⟩
   ·rw[SB ht hc.1 hc.2] at hfin⊢
    exact FD hi hx.few ht hc.1 hc.2 hno.srv.1 hL hL2 hw hfin
   ·rw[SB ht hc.1 hc.2] at hfin⊢
    exact FE hi hx.few ht hc.1 hc.2 hno.srv.1 hL hL2 hw ho hfin
  ·have hih:∀y:Int,0<=y->y<i->WOk x y l zl L (gP x l f y.toNat):=λy hy0 hyi=>ih y hy0 omgz omgz
   have hf:0<t.k.length->0<f:=λh=>by
    have:=hno.ks _ (bq (d:=default) h);omega
   have hwk:t.k.length<=1000->t.w.length<=1000:=λh=>by
    by_cases hw:t.w=[]
    ·rw[hw];simp
    ·rw[hno.wl hw];exact h
   refine⟨λa hfin=>?_,λout a ho hfin=>?_⟩
   ·have hk:=KQ ht (nV hc) hf hfin
    exact FI hi hx.few ht hc hL hL2 hno hwz (hwk hk) hk hih hf hfin
   ·have hk:=KQ ht (nV hc) hf hfin
    exact FH hi hx.few ht hc hL hL2 hno hwz (hwk hk) hk hih ho hfin
theorem af9(hx:XOk x)(f i:Nat)(out:List Nd)(hi:i<x.nodes.length)(hf:i<f):gP x [] f i out=fQ mkP IA x.nodes f i out:=by
 unfold gP
 induction f generalizing i out with
 |zero=>rfl
 |succ f ih=>
  have hno:=hx.node i hi
  have e1:mD mkP [] out (x.nodes.getD i default)=none:=Q6 hno.srv.1
  rw[oF _ _ _ _ _ _ e1,oF mkP IA x.nodes f i out rfl]
  have:∀(ks:List Int) (s:List Nd×List Int),(∀k∈ks,0<=k/\k<i)->gS (fQ mkP (mD mkP []) x.nodes f) ks s=gS (fQ mkP IA x.nodes f) ks s:=by
   intro ks
   induction ks with
   |nil=>intro s _;rfl
   |cons k ks ih2=>
    intro s h
    have hk:=h k (by simp)
    simp only[gS]
    rw[ih k.toNat s.1 omgz omgz,ih2 _ (λy hy=>h y (by simp[hy]))]
  rw[this _ _ hno.ks]
theorem W_0(hx:XOk x)(hfl:xg x):WOk x x.root [] true 0 (o6 mkP x):=by
 have h:=acG (zl:=true) (L:=0) hx hfl (l:=[]) rfl omgz (λs h0 h1=>by simp at h1;omega) (x.root.toNat+1) x.root hx.root.1 hx.root.2 omgz
 have e:gP x [] (x.root.toNat+1) x.root.toNat=o6 mkP x:=by
  funext out
  exact af9 hx _ _ _ (by have:=hx.root;omega) omgz
 rw[e] at h;exact h
theorem W_l(hx:XOk x)(hfl:xg x)(hl:∀y∈l,XOk y/\xg y)(hL:l.length=L)(hL2:L<2^40):WOk x x.root l zl L (gP x l (x.root.toNat+1) x.root.toNat):=
 acG hx hfl hL hL2 (λs h0 h1=>by
  have:=hl (l.getD s.toNat default) (bq omgz)
  exact W_0 this.1 this.2) _ _ hx.root.1 hx.root.2 omgz
end
section
open Go Go.Sy Go.Bp
attribute [local irreducible] AO AL AC OpT ACall Ends DGo aK Thn Blk Nxt
variable {z zl:Bool} {n i j m r L f q:Nat} {a y:Int} {x:Ex} {l:List Ex} {t:Nd} {out:List Nd}
def dD:List Ex->Int
 |[]=>0
 |y::ys=>if bB y=0 then dD ys else bB y
theorem BO(a b:List Ex)(h:dD a=0):dD (a++b)=dD b:=by
 induction a with
 |nil=>rfl
 |cons y a ih=>
  simp only[dD] at h
  by_cases h0:bB y=0
  ·rw[if_pos h0] at h;simp only[List.cons_append,dD,if_pos h0];exact ih h
  ·rw[if_neg h0] at h;exact absurd h h0
theorem vY(hj:j<l.length)(h:dD (l.take j)=0)(hn:¬bB (l.getD j default)=0):dD l=bB (l.getD j default):=by
 have e:l=l.take j++l.getD j default::l.drop (j+1):=by
  have:l.drop j=l.getD j default::l.drop (j+1):=by rw[List.drop_eq_getElem_cons hj];simp[List.getD_eq_getElem?_getD,hj]
  rw[<-this,List.take_append_drop]
 conv=>lhs;rw[e]
 rw[BO _ _ h,dD,if_neg hn]
theorem KR(hj:j<l.length)(h:dD (l.take j)=0)(hn:bB (l.getD j default)=0):dD (l.take (j+1))=0:=by
 have e:l.take (j+1)=l.take j++[l.getD j default]:=by rw[List.take_add_one];simp[List.getD_eq_getElem?_getD,hj]
 rw[e,BO _ _ h,dD,if_pos hn];rfl
theorem nW(h:dD l=0):∀y∈l,XOk y:=by
 induction l with
 |nil=>simp
 |cons y ys ih=>
  simp only[dD] at h
  by_cases h0:bB y=0
  ·rw[if_pos h0] at h
   intro u hu
   rcases List.mem_cons.1 hu with rfl|hu
   ·exact kL h0
   ·exact ih h u hu
  ·rw[if_neg h0] at h;exact absurd h h0
def xh(mk:Nd->List Int->Nd)(x:Ex)(l:List Ex):Ex×Int:=
 if bB x≠0 then(default,bB x) else if dD l≠0 then(default,dD l) else if 61<=size 61 (ofP l) x then(default,3)
 else(⟨false,pU mk x l,((pU mk x l).length:Int)-1⟩,0)
theorem aga{mk:Nd->List Int->Nd}(h:¬bB x=0):xh mk x l=(default,bB x):=by unfold xh;rw[if_pos h]
theorem agb{mk:Nd->List Int->Nd}(h:bB x=0)(h2:¬dD l=0):xh mk x l=(default,dD l):=by unfold xh;rw[if_neg (by simp[h]),if_pos h2]
theorem agc{mk:Nd->List Int->Nd}(h:bB x=0)(h2:dD l=0)(h3:61<=size 61 (ofP l) x):xh mk x l=(default,3):=by unfold xh;rw[if_neg (by simp[h]),if_neg (by simp[h2]),if_pos h3]
theorem agd{mk:Nd->List Int->Nd}(h:bB x=0)(h2:dD l=0)(h3:¬61<=size 61 (ofP l) x):xh mk x l=(⟨false,pU mk x l,((pU mk x l).length:Int)-1⟩,0):=by unfold xh;rw[if_neg (by simp[h]),if_neg (by simp[h2]),if_neg h3]
theorem Y3(n:Nd):GU IA one1 61 n:=⟨λ_ _ h=>(by cases h),λ_ _ _=>rfl⟩
theorem Y4{mk:Nd->List Int->Nd}(hl:∀y∈l,XOk y)(h0:0<=t.server):GU (mD mk l) (ofP l) 61 t:=by
 refine⟨λout o h=>?_,λout h hk=>?_⟩
 ·unfold mD at h
  split at h
  ·rename_i hc
   have hy:=hl (l.getD t.server.toNat default) (bq omgz)
   have hg:=BI (mk:=mk) hy (c:=61) (by decide) (λj hj=>Y3 _) out
   rw[<-Option.some.inj h,acx hc.2]
   exact⟨hc.1,hg.1,hg.2⟩
  ·cases h
 ·unfold mD at h
  split at h
  ·cases h
  ·rename_i hc
   exact acy (λh2=>hc ⟨hk,h2⟩)
theorem BP{mk:Nd->List Int->Nd}(hx:XOk x)(hl:∀y∈l,XOk y)(h:¬61<=size 61 (ofP l) x):(pU mk x l).length<=60/\1<=(pU mk x l).length:=by
 have hg:=BI (mk:=mk) hx (c:=61) (by decide) (λj hj=>Y4 (mk:=mk) hl (hx.node j hj).srv.1) []
 unfold pU
 simp only[List.length_nil] at hg
 omega
theorem nX:aa.cells (default:Ex)=[.isl true [] 0,.val (.int .i64 0)]:=rfl
def suI(x:Ex)(l:List Ex)(zl:Bool)(L:Nat)(j:{j:Nat // j<=L/\dD (l.take j)=0}):St:=
 ⟨42,0,[(2,.pt 0 0),(3,.pt 1 0),(4,.pt 2 0),(18,.isl zl (cR l) L),(19,.val (.int .i64 L)),(20,.val (.int .i64 j.val))],
  [(0,some (.cells (aa.cells x) 50)),(1,some (.cells [.isl zl (cR l) L] 54)),(2,some (.cells [.isl true [] 0,.val (.int .i64 0)] 50))]⟩
theorem BQ(hsh:kY x)(hfl:xg x)(hls:∀y∈l,kY y/\xg y)(hL:l.length=L)(hL2:L<2^40):
 ACall Tryz.prog 51 [.agg (aa.cells x),.isl zl (cR l) L] [] 0 (.tup [.agg (aa.cells (xh mkP x l).1),.val (.int .i64 (xh mkP x l).2)]) []:=by
 have hW:=λ(h:bB x=0) (h2:dD l=0) (h3:¬61<=size 61 (ofP l) x)=>PLift.up ((W_l (zl:=zl) (kL h) hfl (λy hy=>⟨nW h2 y hy,(hls y hy).2⟩) hL hL2).z 0 (Nat.le_trans (BP (mk:=mkP) (kL h) (nW h2) h3).1 omgz))
 have hfw:=λ(h:bB x=0) (h2:dD l=0) (h3:¬61<=size 61 (ofP l) x)=>BP (mk:=mkP) (kL h) (nW h2) h3
 have hSz:=λ(h:bB x=0) (h2:dD l=0)=>PLift.up (af5 (zl:=zl) (kL h) hsh (nW h2) (λy hy=>(hls y hy).1) hL hL2)
 have hVl:=λ(j:Nat) (h:j<l.length)=>PLift.up (uK (hls (l.getD j default) (bq h)).1)
 have hVx:=PLift.up (uK hsh)
 simp only[wN,eN,eZ] at hW
 change∀(h:bB x=0) (h2:dD l=0) (h3:¬61<=size 61 (ofP l) x),PLift (ACall _ _ _ _ _ _ [.cells [.sl 1 0 (pU mkP x l).length 5,.val (.int .i64 (((pU mkP x l).length:Int)-1))] _,.cells (cR (pU mkP x l)) _]) at hW
 generalize hG:pU mkP x l=G at*
 clear hls
 refine az Tryz.func51 Tryz.ntmps51 rfl ?_
 repeat' (first|((first|refine bT (r:=12) 1 ?_|refine bS (r:=12) 1 ?_);refine jo ?_;intro K hK;refine hK _ _ ?_;clear hK K)|((first|refine bT (r:=12) 3 ?_|refine bS (r:=12) 3 ?_);refine jo ?_;intro K hK;refine hK _ _ ?_;clear hK K)|(refine ah ?_;refine ak [0,1,2] ([0,1,2].length) (suI x l zl L) (λj=>L-j.val) (⟨0,omgz,rfl⟩) rfl (by unfold suI;exact jZ) ?_;(rintro⟨j,hj,he⟩;rcases Nat.lt_or_eq_of_le hj with hjl|hjl<;>first|(have ej:L=j:=hjl.symm;subst ej;rw[List.take_of_length_le omgz] at he;(simp-dsimp only[suI];refine zqS ?_))|(simp-dsimp only[suI];refine zqS ?_)))|(refine aj ?_;refine Nxt.mk [0,1,2] (⟨j+1,omgz,KR omgz he omgz⟩) rfl (by unfold suI;exact jZ) zqO)|refine zqN ?_|((first|refine ay rfl (λK hK=>?_)|refine au (λK hK=>?_));(first|refine ai (f:=47) (dst:=some 13) [] 0 false ?_|refine ai (f:=47) (dst:=some 25) [] 0 false ?_|refine ai (f:=89) [] 0 false ?_|refine ai (f:=91) [4] 1 false ?_);refine mg ?_;(first|refine⟨_,_,hVx.down,?_⟩|refine⟨_,_,(hVl j omgz).down,?_⟩|refine⟨_,_,(hSz omgz he).down,?_⟩|refine⟨_,_,(hW omgz he omgz).down,?_⟩);refine jo ?_;apply hK;clear hK K)|refine aY ?_|refine aZ ?_|(refine bf ?_ ?_<;>intro hc<;>try exact zqM))
 all_goals first
  |(have e:=aga (mk:=mkP) (x:=x) (l:=l) omgz;exact CR [] @e @nX)
  |(have e:=agb (mk:=mkP) (x:=x) (l:=l) omgz (by rw[vY (j:=j) omgz he omgz];omega);rw[vY (j:=j) omgz he omgz] at e;exact CR [] @e @nX)
  |(have e:=agc (mk:=mkP) (x:=x) (l:=l) omgz he omgz;exact CR [] @e @nX)
  |(have e:=agd (mk:=mkP) (x:=x) (l:=l) omgz he omgz;rw[hG] at e;((refine Ends.frz 5 ?_;simp-dsimp(disch:=try exact vD) only[push_cast,simprocAttr,Tryz.f51,e,jr,List.take_length];(repeat refine aI ?_);intro K hK;refine hK _ _ ?_;clear hK K);refine Ends.mk2 zqI [] ?_;simp-dsimp(disch:=try exact vD) only[push_cast,simprocAttr,Tryz.f51,e,jr,List.take_length];try exact zqF))
end
section
open Go Go.Sy Go.Bp
attribute [local irreducible] AO AL AC OpT ACall Ends DGo aK Thn Blk Nxt
variable {z zl:Bool} {n i j m r L:Nat} {a b:Int} {x o:Ex} {l:List Ex} {t:Nd} {nodes:List Nd} {p:Nd->Bool}
theorem agf(hn:nodes.length=n)(hb:n<=10000):ACall Tryz.prog 50 [.isl false (cR nodes) n] [] 0 (.sl 0 0 n 5) [.cells (cR nodes) 95]:=by
 refine az Tryz.func50 Tryz.ntmps50 rfl ?_
 repeat' (first|refine zqN ?_|refine aY ?_|refine mf ?_|refine mW ?_|refine mY ?_|refine aZ ?_|(refine bf ?_ ?_<;>intro hc<;>try exact zqM))
 all_goals exact aB [1]
def inI(z:Bool)(F:Nat)(zl:Bool)(l:List Ex)(L:Nat)(p:Nd->Bool)(nodes:List Nd)(n:Nat)(j:{j:Nat // j<=n/\∀i,i<j->p (nodes.getD i default)=false}):St:=
 ⟨19,0,[(0,.isl z (cR nodes) n),(1,.fn F [.ipt [.isl zl (cR l) L] 0]),(7,.val (.int .i64 n)),(8,.val (.int .i64 j.val))],[]⟩
theorem Y5{F:FuncId} [eU Tryz.prog F](p:Nd->Bool)(hl:nodes.length=n)(hn:n<=10000)(hf:∀t:Nd,ACall Tryz.prog F [.agg (aa.cells t),.ipt [.isl zl (cR l) L] 0] [] 0 (.val (.bool (p t))) []):
 ACall Tryz.prog 87 [.isl z (cR nodes) n,.fn F [.ipt [.isl zl (cR l) L] 0]] [] 0 (.val (.int .i64 (ix p nodes))) []:=by
 refine az Tryz.func87 Tryz.ntmps87 rfl ?_
 repeat' (first|(refine ah ?_;refine ak [] ([].length) (inI z F zl l L p nodes n) (λj=>n-j.val) (⟨0,omgz,λi hi=>absurd hi omgz⟩) rfl (by unfold inI;exact jZ) ?_;(rintro⟨j,hj,hnb⟩;(simp-dsimp only[inI];refine zqS ?_)))|(refine aj ?_;refine Nxt.mk [] (⟨j+1,omgz,kW hnb (by assumption)⟩) rfl (by unfold inI;exact jZ) zqO)|refine zqN ?_|((first|refine ay rfl (λK hK=>?_)|refine au (λK hK=>?_));(first|refine gq (f:=F) [] 0 false ?_);refine mg ?_;(first|refine⟨_,_,hf (nodes.getD j default),?_⟩);refine jo ?_;apply hK;clear hK K)|refine aY ?_|refine aZ ?_|(refine bf ?_ ?_<;>intro hc<;>try exact zqM))
 all_goals first
  |(have e:ix p nodes=j:=oD omgz hnb (by assumption);exact fu [] @e)
  |(have ej:j=n:=omgz;subst ej;subst hl;have e:ix p nodes= -1:=lG hnb;exact fu [] @e)
theorem SC{F:FuncId} [eU Tryz.prog F](p:Nd->Bool)(hl:nodes.length=n)(hn:n<=10000)(hf:∀t:Nd,ACall Tryz.prog F [.agg (aa.cells t),.ipt [.isl zl (cR l) L] 0] [] 0 (.val (.bool (p t))) []):
 ACall Tryz.prog 48 [.isl z (cR nodes) n,.fn F [.ipt [.isl zl (cR l) L] 0]] [] 0 (.val (.bool (nodes.any p))) []:=by
 refine az Tryz.func48 Tryz.ntmps48 rfl ?_
 have zx1:= @jh;have zx2:=aA;have zx3:=aA;repeat' (first|refine zqN ?_|refine eG (Y5 p hl hn hf) ?_|refine dm ?_|refine dn ?_|(refine dw ?_ ?_<;>intro hc<;>try exact zqM))
 all_goals exact fu [] @jh
theorem agh(h:t.kind=1):rJ L t=decide ((L:Int)<=t.server):=by simp[rJ,h]
theorem agi(h:¬t.kind=1):rJ L t=false:=by simp[rJ,h]
theorem c1_a(hL:L<=1000)(h:t.kind=1):ACall Tryz.prog 49 [.agg (aa.cells t),.ipt [.isl zl (cR l) L] 0] [] 0 (.val (.bool (rJ L t))) []:=by
 rw[agh h]
 refine az Tryz.func49 Tryz.ntmps49 rfl ?_
 have zx1:= @h;have zx2:=aA;have zx3:=aA;repeat' (first|refine zqN ?_|refine dm ?_|refine dn ?_|(refine dw ?_ ?_<;>intro hc<;>try exact zqM))
 all_goals exact aB []
theorem c1_b(hL:L<=1000)(h:¬t.kind=1):ACall Tryz.prog 49 [.agg (aa.cells t),.ipt [.isl zl (cR l) L] 0] [] 0 (.val (.bool (rJ L t))) []:=by
 rw[agi h]
 refine az Tryz.func49 Tryz.ntmps49 rfl ?_
 have zx1:= @h;have zx2:=aA;have zx3:=aA;repeat' (first|refine zqN ?_|refine dm ?_|refine dn ?_|(refine dw ?_ ?_<;>intro hc<;>try exact zqM))
 all_goals exact aB []
theorem ajB(hL:L<=1000):ACall Tryz.prog 49 [.agg (aa.cells t),.ipt [.isl zl (cR l) L] 0] [] 0 (.val (.bool (rJ L t))) []:=by
 by_cases h:t.kind=1
 ·exact c1_a hL h
 ·exact c1_b hL h
def lC(mk:Nd->List Int->Nd)(o:Ex)(l:List Ex):Ex×Int:=
 if bB o≠0 then(default,bB o) else if dD l≠0 then(default,dD l) else if(l.length:Int)<szE o then(default,6)
 else if 12<jA l l.length then(default,3) else xh mk o (uE l l.length)
variable {mk:Nd->List Int->Nd}
theorem Y6(h:¬bB o=0):lC mk o l=(default,bB o):=by unfold lC;rw[if_pos h]
theorem Y7(h:bB o=0)(h2:¬dD l=0):lC mk o l=(default,dD l):=by unfold lC;rw[if_neg (by simp[h]),if_pos h2]
theorem Y8(h:bB o=0)(h2:dD l=0)(h3:(l.length:Int)<szE o):lC mk o l=(default,6):=by unfold lC;rw[if_neg (by simp[h]),if_neg (by simp[h2]),if_pos h3]
theorem Y9(h:bB o=0)(h2:dD l=0)(h3:¬(l.length:Int)<szE o)(h4:12<jA l l.length):lC mk o l=(default,3):=by unfold lC;rw[if_neg (by simp[h]),if_neg (by simp[h2]),if_neg h3,if_pos h4]
theorem Za(h:bB o=0)(h2:dD l=0)(h3:¬(l.length:Int)<szE o)(h4:¬12<jA l l.length):lC mk o l=xh mk o (uE l l.length):=by unfold lC;rw[if_neg (by simp[h]),if_neg (by simp[h2]),if_neg h3,if_neg h4]
def Nz(x:Ex):Prop:=x.nz=true->x.nodes=[]
theorem Nz.ok(h:Nz x)(hx:XOk x):x.nz=false:=by
 cases e:x.nz with
 |false=>rfl
 |true=>have:=h e;have:=hx.pos;simp_all
theorem ND(h:kY x):kY (mvX b x):=by
 refine⟨by rw[uD];exact h.1,λj hj=>?_⟩
 rw[uD] at hj
 have e:(mvX b x).nodes.getD j default=mv b (x.nodes.getD j default):=by simp[mvX,List.getD_eq_getElem?_getD,hj]
 have:=h.2 j hj
 rw[e];unfold mv;split<;>exact this
theorem SE(h:xg x):xg (mvX b x):=by
 intro j hj
 rw[uD] at hj
 have e:(mvX b x).nodes.getD j default=mv b (x.nodes.getD j default):=by simp[mvX,List.getD_eq_getElem?_getD,hj]
 have:=h j hj
 rw[e];unfold mv;split<;>exact this
theorem agj(h:i<x.nodes.length)(ht:x.nodes.getD i default=t)(hk:t.kind=1):(cR (mvN b x i)).set (i*5+1) (.val (.int .i64 (t.server+b)))=cR (mvN b x (i+1)):=by
 rw[ace h,ht,mv_1 hk]
 refine Xe (i:=1) (by rw[uC (Nat.le_of_lt h)];exact h) omgz ?_
 rw[IC h,ht];rfl
theorem ajC:[AV.isl false (cR (mvX b x).nodes) x.nodes.length,.val (.int .i64 x.root)]=aa.cells (mvX b x):=by rw[jr,uD];rfl
theorem agk:aa.cells o++cR l=cR (o::l):=by simp[cR]
def cvI(o:Ex)(l:List Ex)(zl:Bool)(L:Nat)(j:{j:Nat // j<=L+1/\dD ((o::l).take j)=0}):St:=
 ⟨93,0,[(2,.pt 0 0),(3,.pt 1 0),(4,.pt 2 0),(20,.sl 3 0 (L+1) 2),(21,.val (.int .i64 ((L:Int)+1))),(22,.val (.int .i64 j.val))],
  [(0,some (.cells (aa.cells o) 50)),(1,some (.cells [.isl zl (cR l) L] 54)),(2,some (.cells [.isl true [] 0,.val (.int .i64 0)] 50)),(3,some (.cells (cR (o::l)) 50))]⟩
def cmI(o:Ex)(l:List Ex)(zl:Bool)(L:Nat)(j:{j:Nat // j<=L}):St:=
 ⟨93,0,[(2,.pt 0 0),(4,.pt 1 0),(9,fw j.val 2 2),(10,.val (.int .i64 (jA l j.val))),(38,.isl zl (cR l) L),(39,.val (.int .i64 L)),(40,.val (.int .i64 j.val))],
  [(0,some (.cells (aa.cells o) 50)),(1,some (.cells [.isl true [] 0,.val (.int .i64 0)] 50))]++fA j.val 2 (cR (uE l j.val)) 50⟩
def cnI(o:Ex)(l:List Ex)(zl:Bool)(L j:Nat)(x:Ex)(i:{i:Nat // i<=x.nodes.length}):St:=
 ⟨93,0,[(2,.pt 0 0),(4,.pt 1 0),(9,fw j 2 2),(10,.val (.int .i64 (jA l j))),(38,.isl zl (cR l) L),(39,.val (.int .i64 L)),(40,.val (.int .i64 j)),
    (13,.pt 4 0),(14,.val (.int .i64 (szJ x i.val))),(51,.sl 3 0 x.nodes.length 5),(52,.val (.int .i64 x.nodes.length)),(53,.val (.int .i64 i.val))],
  [(0,some (.cells (aa.cells o) 50)),(1,some (.cells [.isl true [] 0,.val (.int .i64 0)] 50)),(3,some (.cells (cR (mvN (jA l j) x i.val)) 95)),
   (4,some (.cells [.sl 3 0 x.nodes.length 5,.val (.int .i64 x.root)] 50))]++fA j 2 (cR (uE l j)) 50⟩
theorem I6(h:dD (o::l)=0):bB o=0/\dD l=0:=by
 simp only[dD] at h
 by_cases h0:bB o=0
 ·rw[if_pos h0] at h;exact⟨h0,h⟩
 ·rw[if_neg h0] at h;exact absurd h h0
theorem NF(h:¬dD (o::l)=0):lC mk o l=(default,dD (o::l)):=by
 by_cases h0:bB o=0
 ·have e:dD (o::l)=dD l:=by simp only[dD];rw[if_pos h0]
  rw[e] at h⊢;exact Y7 h0 h
 ·have e:dD (o::l)=bB o:=by simp only[dD];rw[if_neg h0]
  rw[e];exact Y6 h0
theorem agl:(mvX b x).nodes.take x.nodes.length=(mvX b x).nodes:=List.take_of_length_le (by rw[uD];exact Nat.le_refl _)
theorem Zb:(uE l j).take j=uE l j:=List.take_of_length_le (by rw[zJ];exact Nat.le_refl _)
theorem ajD(hso:kY o)(hfo:xg o)(hls:∀y∈l,kY y/\xg y/\Nz y)(hL2:l.length<=1000):
 ACall Tryz.prog 19 [.agg (aa.cells o),.isl zl (cR l) l.length] [] 0 (.tup [.agg (aa.cells (lC mkP o l).1),.val (.int .i64 (lC mkP o l).2)]) []:=by
 have hV:=λ(j:Nat) (h:j<(o::l).length)=>PLift.up (uK (x:=(o::l).getD j default) (by
  rcases List.mem_cons.1 (bq (d:=default) h) with e|e
  ·rw[e];exact hso
  ·exact(hls _ e).1))
 have hgt:=PLift.up (afD (x:=o) l.length)
 have hbad:=λ(j:Nat)=>PLift.up (@vY j (o::l))
 have hS:=PLift.up (BQ (zl:=false) (x:=o) (l:=uE l l.length) (L:=l.length) hso hfo (λy hy=>by
  obtain⟨i,hi,rfl⟩:=Rc hy
  have:=hls (l.getD i default) (bq omgz)
  exact⟨ND this.1,SE this.2.1⟩) zJ omgz)
 have hS0:=PLift.up (BQ (zl:=true) (x:=o) (l:=[]) (L:=0) hso hfo (by simp) rfl omgz)
 simp only[CL] at hS0
 have hok:=λ(h:dD l=0) (j:Nat) (hj:j<l.length)=>And.intro (nW h (l.getD j default) (bq hj)) (hls (l.getD j default) (bq hj)).2.2
 have hbr:=λ(h:dD l=0) (j:Nat) (hj:j<=l.length)=>Nl (l:=l) (j:=j) (λi hi=>Kt (nW h (l.getD i default) (bq omgz)))
 have zx1:=agk (o:=o) (l:=l)
 have zx2:=ae;have zx3:=ae;have zx4:=ae;have zx5:=ae;have zx6:=ae;have zx7:=ae
 clear hls
 refine az Tryz.func19 Tryz.ntmps19 rfl ?_
 have zx8:= @Yf;have zx9:= @Ku;have zx10:= @Rb;have zx11:= @IE;have zx12:= @zJ;have zx13:= @Zb;have zx14:= @ai6;have zx15:= @Kr;have zx16:= @ai5;have zx17:= @Ye;have zx18:= @IC;have zx19:= @uC;have zx20:= @agj;have zx21:= @agl;have zx22:= @ajC;have zx23:=aA;have zx24:=aA;repeat' (first|((first|refine bT (r:=8) 1 ?_|refine bS (r:=8) 1 ?_);refine zw ?_;intro K hK;refine hK _ _ ?_;clear hK K)|((first|refine bT (r:=24) 3 ?_|refine bS (r:=24) 3 ?_);refine zw ?_;intro K hK;refine hK _ _ ?_;clear hK K)|((first|refine bT (r:=29) 2 ?_|refine bS (r:=29) 2 ?_);refine zw ?_;intro K hK;refine hK _ _ ?_;clear hK K)|(refine ah ?_;refine ak [0,1,2,4,5] ([0,1,2,4,5].length) (cnI o l zl l.length j x) (λi=>x.nodes.length-i.val) (⟨0,omgz⟩) rfl (by unfold cnI;exact rT) ?_;(rintro⟨i,hi⟩;have hzr:=CS hxo hi;have hml:=uC (b:=jA l j) hi;rcases Nat.lt_or_eq_of_le hi with hil|hil<;>first|(have ei:x.nodes.length=i:=hil.symm;subst ei;(simp-dsimp only[cnI];refine zqS ?_))|(have hnd:=(hxo.node i hil).srv;generalize zx2:x.nodes.getD i default=t at hnd;rcases Decidable.em (t.kind=1) with zx6|zx6<;>first|(have zx4:=acg hil zx2 zx6;(simp-dsimp only[cnI];refine zqS ?_))|(have zx4:=ach hil zx2 zx6;have zx5:=acf (b:=jA l j) hil (by rw[zx2];exact zx6);(simp-dsimp only[cnI];refine zqS ?_)))))|(refine aj ?_;refine Nxt.mk [0,1,2,3,4] (⟨i+1,omgz⟩) rfl (by unfold cnI;exact rT) zqO)|(refine ah ?_;refine ak [0,1,9,4,5] ([0,1,9,4,5].length) (cnI o l zl l.length j x) (λi=>x.nodes.length-i.val) (⟨0,omgz⟩) rfl (by unfold cnI;exact rT) ?_;(rintro⟨i,hi⟩;have hzr:=CS hxo hi;have hml:=uC (b:=jA l j) hi;rcases Nat.lt_or_eq_of_le hi with hil|hil<;>first|(have ei:x.nodes.length=i:=hil.symm;subst ei;(simp-dsimp only[cnI];refine zqS ?_))|(have hnd:=(hxo.node i hil).srv;generalize zx2:x.nodes.getD i default=t at hnd;rcases Decidable.em (t.kind=1) with zx6|zx6<;>first|(have zx4:=acg hil zx2 zx6;(simp-dsimp only[cnI];refine zqS ?_))|(have zx4:=ach hil zx2 zx6;have zx5:=acf (b:=jA l j) hil (by rw[zx2];exact zx6);(simp-dsimp only[cnI];refine zqS ?_)))))|(refine aj ?_;refine Nxt.mk [0,1,9,3,4] (⟨i+1,omgz⟩) rfl (by unfold cnI;exact rT) zqO)|(refine ah ?_;refine ak [0,2,9] ([0,2,9].length) (cmI o l zl l.length) (λj=>l.length-j.val) (⟨0,omgz⟩) rfl (by unfold cmI;exact rT) ?_;(rintro⟨j,hj⟩;have hbj:=hbr he2.2 j hj;rcases Nat.lt_or_eq_of_le hj with hjl|hjl<;>first|(have ej:l.length=j:=hjl.symm;subst ej;rcases Nat.eq_zero_or_pos l.length with h0|h0<;>(simp-dsimp only[cmI];refine zqS ?_))|(have hxo:=hok he2.2 j hjl;generalize zx3:l.getD j default=x at hxo;have zx7:=hxo.2.ok hxo.1;replace hxo:=hxo.1;have hfx:=hxo.few;have hze:=Kt hxo;rcases Nat.eq_zero_or_pos j with h0|h0<;>(simp-dsimp only[cmI];refine zqS ?_))))|(refine aj ?_;refine Nxt.mk [0,1,6] (⟨j+1,omgz⟩) rfl (by unfold cmI;exact rT) zqO)|(refine ah ?_;refine ak [0,1,2,4] ([0,1,2,4].length) (cvI o l zl l.length) (λj=>l.length+1-j.val) (⟨0,omgz,rfl⟩) rfl (by unfold cvI;exact rT) ?_;(rintro⟨j,hj,he⟩;rcases Nat.lt_or_eq_of_le hj with hjl|hjl<;>first|(rw[hjl,List.take_of_length_le (by simp)] at he;have he2:=I6 he;have hof:=(kL he2.1).few;(simp-dsimp only[cvI];refine zqS ?_))|(simp-dsimp only[cvI];refine zqS ?_)))|(refine aj ?_;refine Nxt.mk [0,1,2,3] (⟨j+1,omgz,KR (by simp;omega) he omgz⟩) rfl (by unfold cvI;exact rT) zqO)|refine zqN ?_|((first|refine ay rfl (λK hK=>?_)|refine au (λK hK=>?_)|refine aD (λK hK=>?_));(first|refine ai (f:=47) [] 0 false ?_|refine ai (f:=48) [] 0 false ?_|refine ai (f:=50) [] 0 false ?_);refine Kk ?_;(first|refine⟨_,_,(hV j (by simp;omega)).down,?_⟩|refine⟨_,_,SC (rJ l.length) rfl omgz (λt=>ajB hL2),?_⟩|refine⟨_,_,agf (nodes:=x.nodes) rfl omgz,?_⟩);refine zw ?_;apply hK;clear hK K)|((first|refine ay rfl (λK hK=>?_)|refine au (λK hK=>?_)|refine aD (λK hK=>?_));(first|(refine ai (f:=51) [] 0 false ?_;refine Kk ?_;refine⟨_,_,hS.down,?_⟩;refine zw ?_;apply hK;clear hK K)|(refine ai (f:=51) [] 0 false ?_;refine Kk ?_;refine⟨_,_,hS0.down,?_⟩;refine zw ?_;apply hK;clear hK K)))|refine ab6 ?_|refine afj ?_|refine afk ?_|refine afl ?_|refine ab7 ?_|(refine ab8 ?_ ?_<;>intro hc<;>try exact zqM)|refine zqR [(15,2,[],1),(15,6,[],1),(15,7,[2],0)] ?_|refine zqD ?_|fail)
 all_goals first
  |(have e:=NF (mk:=mkP) (o:=o) (l:=l) (by rw[(hbad j).down (by simp;omega) he omgz];omega);rw[(hbad j).down (by simp;omega) he omgz] at e;exact CR [] @e @nX;done)
  |(have e:=Y8 (mk:=mkP) (o:=o) (l:=l) he2.1 he2.2 (hgt.down.2 (by assumption));exact CR [] @e @nX;done)
  |(have hc3:=mt hgt.down.1 (show¬o.nodes.any (rJ l.length)=true by first|assumption|(rw[Bool.not_eq_true];assumption));have e:=Y9 (mk:=mkP) (o:=o) (l:=l) he2.1 he2.2 hc3 omgz;exact CR [] @e @nX;done)
  |(have hc3:=mt hgt.down.1 (show¬o.nodes.any (rJ l.length)=true by first|assumption|(rw[Bool.not_eq_true];assumption));have e:=Za (mk:=mkP) (o:=o) (l:=l) he2.1 he2.2 hc3 omgz;first|(exact fu [] @e;done)|(rw[Rb h0] at e;exact fu [] @e;done))
end
