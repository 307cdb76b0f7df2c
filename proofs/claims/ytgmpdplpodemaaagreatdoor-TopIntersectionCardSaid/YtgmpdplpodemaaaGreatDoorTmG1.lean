/- Tm1 Tm4 Tm6 Tm9. No condition. -/
import Derived.Test.YtgmpdplpodemaaaGreatDoorDg9
import Derived.Test.YtgmpdplpodemaaaGreatDoorDw1
set_option linter.all false
set_option maxHeartbeats 4000000
set_option maxRecDepth 20000
namespace Go.Proofs.YtgmpdplpodemaaaGreatDoor
section
open Go Go.Sy Go.Bp Go.Dg
variable {n N M T L k i j m r a b w u v s q x y d:Nat} {p f g:Nat→Bool} {ms xs o o' l:List Nat}
theorem uu(h:x∈xs):eO xs x=true:=jl.2 ⟨x,h,kM⟩
theorem KG(h:∀t,t<2^n→p t=f t)(hx:x<2^n):isM p x=isM f x:=by
 rw[Bool.eq_iff_iff,iG,iG,h x hx]
 refine and_congr_right fun _=>⟨fun h2 y hy=>?_,fun h2 y hy=>?_⟩
 ·rw[←h y (by omega)];exact h2 y hy
 ·rw[h y (by omega)];exact h2 y hy
theorem sW.congr(h:∀t,t<2^n→p t=f t)(h1:sW n p ms):sW n f ms:=
 ⟨h1.bef,h1.ord,h1.lt,fun m hm=>by rw[←KG h hm];exact h1.mem m hm⟩
theorem OH:∀S,S<64→((List.range 64).all fun x=>(dW S).contains x==decide (dJ x S%65536=0))=true∧((dW S).all fun x=>decide (x<64))=true:=by decide+kernel
theorem mO:∀S,S<64→(dW S).Pairwise fun a b=>bef a b=true:=by decide+kernel
theorem jm(hS:s<64):x∈dW s↔(x<64∧dJ x s%65536=0):=by
 obtain⟨h1,h2⟩:=OH s hS
 constructor
 ·intro h
  have hx:x<64:=of_decide_eq_true (List.all_eq_true.1 h2 x h)
  have:=List.all_eq_true.1 h1 x (List.mem_range.2 hx)
  have hc:(dW s).contains x=true:=by simpa using h
  rw[hc] at this
  exact⟨hx,by simpa using this⟩
 ·rintro⟨hx,hs⟩
  have:=List.all_eq_true.1 h1 x (List.mem_range.2 hx)
  rw[decide_eq_true hs] at this
  simpa using this
theorem xQ(hS:s<64):∀j,j≤(dW s).length→mB p (dW s) j=((dW s).take j).filter (isM p):=by
 have hall:=fun x=>jm (x:=x) hS
 have hord:(dW s).Pairwise fun a b=>¬dJ b a%65536=0:=(mO s hS).imp fun{a b} h hs=>by rw[wC hs] at h;cases h
 generalize dW s=xs at*
 intro j
 induction j with
 |zero=>intro _;rfl
 |succ j ih=>
  intro hj
  have ih:=ih (by omega)
  rw[wB (by omega),List.filter_append,←ih]
  have hxm:xs.getD j 0∈xs:=iR (d:=0) (by omega)
  have hsp:xs=xs.take j++(xs.getD j 0::xs.drop (j+1)):=by
   conv=>lhs;rw[←List.take_append_drop j xs]
   congr 1
   rw[List.drop_eq_getElem_cons (by omega),List.getD_eq_getElem?_getD,List.getElem?_eq_getElem (by omega)];rfl
  have hp:=hord
  generalize hxj:xs.getD j 0=x at*
  obtain⟨hx64,hxs⟩:=(hall x).1 hxm
  have e:(!eO (mB p xs j) x&&p x)=isM p x:=by
   cases hpx:p x with
   |false=>unfold isM;rw[hpx,Bool.and_false,Bool.false_and]
   |true=>
    rw[Bool.and_true,Bool.eq_iff_iff,Bool.not_eq_true',iG]
    refine⟨fun h=>⟨hpx,fun y hy hpy hs=>?_⟩,fun h=>?_⟩
    ·obtain⟨m,h1,h2,h3⟩:=Og hpy
     have hmx:=l9 h3 hs
     have hm:m∈xs:=(hall m).2 ⟨by omega,l9 hmx hxs⟩
     rw[hsp] at hm hp
     have hmt:m∈xs.take j:=by
      rcases List.mem_append.1 hm with hm|hm
      ·exact hm
      ·rcases List.mem_cons.1 hm with rfl|hm
       ·omega
       ·exact absurd hmx ((List.pairwise_cons.1 (List.pairwise_append.1 hp).2.1).1 m hm)
     have:eO (mB p xs j) x=true:=by
      unfold eO
      rw[ih,List.any_eq_true]
      exact⟨m,List.mem_filter.2 ⟨hmt,h2⟩,decide_eq_true hmx⟩
     rw[this] at h;cases h
    ·rw[Bool.eq_false_iff]
     intro hc
     obtain⟨m,h1,h2⟩:=jl.1 hc
     rw[ih] at h1
     obtain⟨h3,h4⟩:=List.mem_filter.1 h1
     have hm64:=((hall m).1 (List.mem_of_mem_take h3)).1
     have hle:=uo h2 (by omega) (by omega)
     by_cases e:m=x
     ·subst e
      rw[hsp] at hp
      exact(List.pairwise_append.1 hp).2.2 m h3 m (by simp) kM
     ·exact h.2 m (by omega) (iG.1 h4).1 h2
  show(if(!eO (mB p xs j) (xs.getD j 0)&&p (xs.getD j 0))=true then _ else _)=_
  rw[hxj,e]
  cases hm:isM p x with
  |true=>simp[hm]
  |false=>simp[hm]
theorem Df:dJ (bP x s) x%65536=0:=dR.2 fun i h=>by rw[iy,Bool.and_eq_true] at h;exact h.1
theorem aai(hn:n≤6)(hS:s<2^n)(hp:∀t,t<2^n→p (bP t s)=p t):sW n p (mB p (dW s) (dW s).length):=by
 have h6:2^n≤2^6:=Nat.pow_le_pow_right (by omega) hn
 have hS6:s<64:=by omega
 rw[xQ hS6 _ (Nat.le_refl _),List.take_length]
 have hb:=mO s hS6
 have hall:=fun x=>jm (x:=x) hS6
 refine⟨hb.sublist (List.filter_sublist ..),(hb.sublist (List.filter_sublist ..)).imp fun{a b} h hs=>(by rw[wC hs] at h;cases h),fun m hm=>?_,fun m hm=>⟨fun h=>(List.mem_filter.1 h).2,fun h=>List.mem_filter.2 ⟨?_,h⟩⟩⟩
 ·obtain⟨h1,h2⟩:=(hall m).1 (List.mem_filter.1 hm).1
  have:=uo h2 (by omega) (by omega);omega
 ·refine(hall m).2 ⟨by omega,?_⟩
  have hle:bP m s≤m:=Nat.and_le_left
  have e:bP m s=m:=by
   refine Decidable.not_not.1 fun hc=>?_
   exact(iG.1 h).2 (bP m s) (by omega) (by rw[hp m hm];exact(iG.1 h).1) Df
  rw[←e]
  exact dR.2 fun i h=>by rw[iy,Bool.and_eq_true] at h;exact h.2
end
section
open Go Go.Sy Go.Bp Go.Dg
attribute [local irreducible] AO AL AC OpT ACall Ends DGo aN Thn Blk Nxt
variable {n N M k i m r a b j w u v s q y d:Nat} {z:Bool} {x:Ex} {e:Int} {p:Nat→Bool} {xs qs:List Nat}
def svS(x:Ex):Nat→Nat
 |0=>0
 |j+1=>if(x.nodes.getD j default).kind=1 then sor (svS x j) (2^(x.nodes.getD j default).server.toNat) else svS x j
theorem afJ:svS x 0=0:=rfl
theorem agE(h:(x.nodes.getD j default).kind=1):svS x (j+1)=sor (svS x j) (2^(x.nodes.getD j default).server.toNat):=if_pos h
theorem agF(h:¬(x.nodes.getD j default).kind=1):svS x (j+1)=svS x j:=if_neg h
def svI(x:Ex)(N:Nat)(j:{j:Nat // j≤N}):St:=
 ⟨23,0,[(1,.pt 0 0),(3,.val (.int .u16 (U (svS x j.val)))),(7,.isl x.nz (cR x.nodes) N),(8,.val (.int .i64 N)),(9,.val (.int .i64 j.val))],[(0,some (.cells (aa.cells x) 50))]⟩
theorem afy(hok:XOk x)(hN:x.nodes.length=N):ACall Tryz.prog 52 [.agg (aa.cells x)] [] 0 (.val (.int .u16 (U (svS x N)))) []:=by
 have hfew:=hok.few
 have hnd:=fun(j:Nat) (h:j<x.nodes.length)=>(hok.node j h).srv
 rw[hN] at hfew hnd
 have zx2:=ae;have zx3:=ae
 refine az Tryz.func52 Tryz.ntmps52 rfl ?_
 have zx1:= @hN;have zx4:= @afJ;have zx5:=aD;have zx6:=aD;repeat' (first|(refine ai ?_;refine au [0] ([0].length) (svI x N) (fun j=>N-j.val) (⟨0,by omega⟩) rfl (by unfold svI;exact gG) ?_;(rintro⟨j,hj⟩;rcases Nat.lt_or_eq_of_le hj with hjl|hjl<;>first|(have ej:N=j:=hjl.symm;subst ej;(simp-dsimp only[svI];refine zqS ?_))|(have hs1:=hnd j hjl;by_cases zx3:(x.nodes.getD j default).kind=1<;>first|(have zx2:=agE (x:=x) zx3;(simp-dsimp only[svI];refine zqS ?_))|(have zx2:=agF (x:=x) (j:=j) zx3;(simp-dsimp only[svI];refine zqS ?_)))))|(refine aj ?_;refine Nxt.mk [0] (⟨j+1,by omega⟩) rfl (by unfold svI;(try simp only[List.cons_append,List.nil_append]);refine Sub.mk2 ?_;(simp-dsimp(disch:=try exact vD) only[push_cast,simprocAttr,hN,zx2,zx3,afJ,zx2]);(repeat refine aI ?_);first|done|exact vI) zqO)|refine zqN ?_|refine adH ?_|refine l7 ?_|(refine l8 ?_ ?_<;>intro hc<;>try exact zqM))
 all_goals first
  |((refine Ends.mk2 zqI [] ?_;simp-dsimp(disch:=try exact vD) only[push_cast,simprocAttr,Tryz.f52];try exact zqF);done)
  |skip
def dD(f:List Nat)(s:Nat):Bool:= !(f.any fun m=>decide (bP m s%65536=0))
theorem OI:ACall Tryz.prog 79 [.val (.int .u16 (U q)),.ipt [.val (.int .u16 (U s))] 0] [] 0 (.val (.bool (decide (bP q s%65536=0)))) []:=by
 refine az Tryz.func79 Tryz.ntmps79 rfl ?_
 repeat' (first|refine zqN ?_|refine bA ?_|refine bB ?_|(refine bC ?_ ?_<;>intro hc<;>try exact zqM))
 all_goals(refine Ends.mk2 zqI [] ?_;simp-dsimp(disch:=try exact vD) only[push_cast,simprocAttr,Tryz.f79];try exact zqF)
theorem AR(hl:qs.length=n)(hn:n<2^47):ACall Tryz.prog 36 [.isl z (cX qs) n,.val (.int .u16 (U s))] [] 0 (.val (.bool (dD qs s))) []:=by
 have h:=PLift.up (C8 (z:=z) (k:=qs) (F:=79) (c1:=[.val (.int .u16 (U s))]) (fun m=>decide (bP m s%65536=0)) hl hn (fun m=>OI))
 unfold dD
 generalize(qs.any fun m=>decide (bP m s%65536=0))=v at h⊢
 refine az Tryz.func36 Tryz.ntmps36 rfl ?_
 repeat' (first|((first|refine dP (r:=1) 0 ?_|refine dO (r:=1) 0 ?_);refine j5 ?_;intro K hK;refine hK _ _ ?_;clear hK K)|refine zqN ?_|refine aT h.down ?_|refine bA ?_|refine bB ?_|(refine bC ?_ ?_<;>intro hc<;>try exact zqM))
 all_goals(refine Ends.mk2 zqI [] ?_;simp-dsimp(disch:=try exact vD) only[push_cast,simprocAttr,Tryz.f36];try exact zqF)
theorem j6:∀S,S<64→(dW S).length≤64∧aA S 16<7:=by decide+kernel
theorem OJ(hs:s<64)(hx:dW s=xs):∀H:iU,H.P=Tryz.prog→H.xs=yX xs→H.go=(fun _=>true)→∃r,ACall Tryz.prog 78 [.yl 0,bxS s] [.tr H 0] 1 r [.tr H xs.length]:=fun H h1 h2 h3=>by
 have h:=CZ (H:=H) (s:=s) h1 (j6 s hs).2 (by rw[h3]) (fun i hi=>by rw[h2,←hx];unfold yX;rw[if_pos hi])
 rw[h3,Ie,hx,Nat.zero_add] at h
 exact⟨_,h⟩
attribute [local irreducible] aA mem gq pick fd sbL dW mB mBl eO
def fyO(p:Nat→Bool)(xs:List Nat)(j:Nat):List (Nat×Option aC):=[(0,some (.cells [.isl true [] 0] 25)),(1,some (.cells [.val (.int .i64 0)] 31)),(2,some (.cells [gL (mBl p xs j) 3 1] 25))]++gM (mBl p xs j) 3 (cX (mB p xs j)) 30
def fyR(x:Ex)(p:Nat→Bool)(xs:List Nat)(ca cb:Code):RLoop:=
 ⟨33,3,[(1,.ipt (aa.cells x) 0),(2,.pt 0 0),(3,.pt 1 0),(5,.pt 2 0)],fyO p xs,fun _=>[],4,0,fun _=>true,yX xs,.ret,15,ca,cb⟩
theorem aeY(hv:PG x=0)(hsh:afp x)(hks:KS x)(hs:svS x x.nodes.length=s)(hs6:s<64)(hx':dW s=xs)(hp:kL x=p):
 ACall Tryz.prog 20 [.agg (aa.cells x)] [] 0 (.tup [.isl (mBl p xs xs.length==0) (cX (mB p xs xs.length)) (mBl p xs xs.length),.val (.int .i64 0)]) []:=by
 have hva:=PLift.up (aez hsh)
 rw[hv] at hva
 have hok:=aeE hv
 have hsv:=PLift.up (afy hok rfl)
 rw[hs] at hsv
 have hho:∀q,ACall Tryz.prog 53 [.agg (aa.cells x),.val (.int .u16 (U q))] [] 0 (.val (.bool (p q))) []:=fun q=>by
  rw[←hp];exact aeX hok hks
 have hit:=OJ hs6 hx'
 have hl6:=(j6 s hs6).1
 rw[hx'] at hl6
 clear hok hsh hks hp hv
 have hb:=ae;have hpq:=ae;have he:=ae;have hel:=ae
 refine az Tryz.func20 Tryz.ntmps20 rfl ?_
 repeat' (first|((first|refine dP (r:=5) 0 ?_|refine dO (r:=5) 0 ?_);simp-dsimp(disch:=try exact vD) only[push_cast,simprocAttr,AP,sj];(repeat refine aI ?_);intro K hK;refine hK _ _ ?_;clear hK K)|apply bZ|apply aB|((first|refine ax rfl (fun K hK=>?_)|refine ak (fun K hK=>?_));(first|refine ah (f:=47) [] 0 false ?_|refine ah (f:=52) [] 0 false ?_|refine ah (f:=34) [] 0 false ?_);simp-dsimp(disch:=try exact vD) only[push_cast,simprocAttr,AP,sj];(repeat refine aI ?_);intro G hG;refine hG _ _ ?_;clear hG G;(first|refine⟨_,_,hva.down,?_⟩|refine⟨_,_,hsv.down,?_⟩|refine⟨_,_,Ic (s:=s),?_⟩);simp-dsimp(disch:=try exact vD) only[push_cast,simprocAttr,AP,sj];(repeat refine aI ?_);apply hK;clear hK K)|((first|refine ax rfl (fun K hK=>?_)|refine ak (fun K hK=>?_));(first|apply bM|apply aR|apply bU|apply aO|apply fP|apply bO|apply fw|apply fM|apply fO|apply eY|apply dH|apply zm|apply aP|apply bR|apply bu|apply aU|apply dE|apply bS);simp-dsimp(disch:=try exact vD) only[push_cast,simprocAttr,AP,sj];(repeat refine aI ?_);apply hK;clear hK K)|((first|refine ax rfl (fun K hK=>?_)|refine ak (fun K hK=>?_));(first|apply dV);simp-dsimp(disch:=try exact vD) only[push_cast,simprocAttr,AP,sj];(repeat refine aI ?_);apply hK;clear hK K)|((first|refine ax rfl (fun K hK=>?_)|refine ak (fun K hK=>?_));(first|apply df);simp-dsimp(disch:=try exact vD) only[push_cast,simprocAttr,AP,sj];(repeat refine aI ?_);apply hK;clear hK K)|((first|refine ax rfl (fun K hK=>?_)|refine ak (fun K hK=>?_));(first|apply cZ);simp-dsimp(disch:=try exact vD) only[push_cast,simprocAttr,AP,sj];(repeat refine aI ?_);apply hK;clear hK K)|((first|refine aK rfl rfl (fun K1 K2 h1 h2=>?_) rfl|refine aF (fun K1 K2 h1 h2=>?_));simp-dsimp(disch:=try exact vD) only[push_cast,simprocAttr,AP,sj];(first|(refine⟨fun hc=>?_,fun hc=>?_⟩<;>first|(exfalso;omega)|(exfalso;contradiction)|refine h1 ?_|refine h2 ?_)|refine h1 ?_|refine h2 ?_);all_goals clear h1 h2 K1 K2)|apply cu|apply aL|apply bH|apply aX|apply aM|apply bI|apply aY|(refine aQ rfl ?_)|apply aZ|apply bG|apply bF|apply bY)
 refine rD (fyR x p xs _ _) [1,2,3,9] xs.length rfl (by simp[bnd]) (by kernel_rfl) hit (by unfold fyR fyO;dsimp only;refine Sub.mk2 ?_;(simp-dsimp(disch:=try exact vD) only[push_cast,simprocAttr,AP,sj])) rfl rfl (Nat.zero_le _) (fun j hj=>by
  have e:j=0∨j=1∨j=2:=(by have:j<3:=hj;omega)
  rcases e with e|e|e<;>subst e<;>rfl) (by simp[fyR,bnd]) (by show 15<33;decide) (.inl rfl) (fun j x hj hx=>?_) (fun _=>?_) (fun h=>nomatch h)
 ·obtain⟨hjl,rfl⟩:=Ao hx
  have hm1:=fun h=>Kw (p:=p) (xs:=xs) (j:=j) h
  have hm2:=fun h1 h2=>UO (p:=p) (xs:=xs) (j:=j) h1 h2
  have hll:=Ol (p:=p) (xs:=xs) (j:=j)
  obtain⟨q,hq⟩:∃q,xs.getD j 0=q:=⟨_,rfl⟩
  rw[hq] at hm1 hm2⊢
  have hac:=PLift.up (hho q)
  have hh0:mBl p xs j=0→eO (mB p xs j) q=false:=fun h=>by rw[nX h];unfold eO;rfl
  clear hx hho
  dsimp only[fyR,fyO]
  refine(Bool.eq_false_or_eq_true (eO (mB p xs j) q)).elim (fun hb=>?_) (fun hb=>(Bool.eq_false_or_eq_true (p q)).elim (fun hpq=>?_) (fun hpq=>?_))
  ·rcases Bool.eq_false_or_eq_true (p q) with hpq|hpq
   all_goals have he:=hm1 (.inl hb)
   all_goals have hel:=Oj he
   all_goals rcases Nat.eq_zero_or_pos (mBl p xs j) with h0|h0
   all_goals first
    |(rw[hh0 h0] at hb;cases hb;done)
    |skip
   all_goals repeat' (first|(refine Mid.mk rfl ?_;dsimp only)|(refine ji [0,1,2,3] ⟨rfl,rfl⟩ ?_;(try dsimp only);unfold fyO;(try simp only[List.cons_append,List.nil_append]);refine Sub.mk2 ?_;(simp-dsimp(disch:=try exact vD) only[push_cast,simprocAttr,eU,hb,hpq,he,hel,bg,bV,bD,nX,gQ,jQ,List.nil_append]);(repeat refine aI ?_);first|done|exact vI)|(refine ji [0,1,2,9] ⟨rfl,rfl⟩ ?_;(try dsimp only);unfold fyO;(try simp only[List.cons_append,List.nil_append]);refine Sub.mk2 ?_;(simp-dsimp(disch:=try exact vD) only[push_cast,simprocAttr,eU,hb,hpq,he,hel,bg,bV,bD,nX,gQ,jQ,List.nil_append]);(repeat refine aI ?_);first|done|exact vI)|apply bZ|apply aB|((first|refine ax rfl (fun K hK=>?_)|refine ak (fun K hK=>?_));(first|refine ah (f:=53) [] 0 false ?_|refine ah (f:=14) [] 0 true ?_);simp-dsimp(disch:=try exact vD) only[push_cast,simprocAttr,eU,hb,hpq,he,hel,bg,bV,bD,nX,gQ,jQ,List.nil_append];(repeat refine aI ?_);intro G hG;refine hG _ _ ?_;clear hG G;(first|refine⟨_,_,hac.down,?_⟩|refine⟨_,_,si (qs:=mB p xs j) gQ (by omega),?_⟩);simp-dsimp(disch:=try exact vD) only[push_cast,simprocAttr,eU,hb,hpq,he,hel,bg,bV,bD,nX,gQ,jQ,List.nil_append];(repeat refine aI ?_);apply hK;clear hK K)|((first|refine ax rfl (fun K hK=>?_)|refine ak (fun K hK=>?_));(first|apply bM|apply aR|apply bU|apply aO|apply fP|apply bO|apply fw|apply fM|apply fO|apply eY|apply dH|apply zm|apply aP|apply bR|apply bu|apply aU|apply dE|apply bS);simp-dsimp(disch:=try exact vD) only[push_cast,simprocAttr,eU,hb,hpq,he,hel,bg,bV,bD,nX,gQ,jQ,List.nil_append];(repeat refine aI ?_);apply hK;clear hK K)|((first|refine ax rfl (fun K hK=>?_)|refine ak (fun K hK=>?_));(first|apply dV);simp-dsimp(disch:=try exact vD) only[push_cast,simprocAttr,eU,hb,hpq,he,hel,bg,bV,bD,nX,gQ,jQ,List.nil_append];(repeat refine aI ?_);apply hK;clear hK K)|((first|refine ax rfl (fun K hK=>?_)|refine ak (fun K hK=>?_));(first|apply df);simp-dsimp(disch:=try exact vD) only[push_cast,simprocAttr,eU,hb,hpq,he,hel,bg,bV,bD,nX,gQ,jQ,List.nil_append];(repeat refine aI ?_);apply hK;clear hK K)|((first|refine ax rfl (fun K hK=>?_)|refine ak (fun K hK=>?_));(first|apply cZ);simp-dsimp(disch:=try exact vD) only[push_cast,simprocAttr,eU,hb,hpq,he,hel,bg,bV,bD,nX,gQ,jQ,List.nil_append];(repeat refine aI ?_);apply hK;clear hK K)|((first|refine aK rfl rfl (fun K1 K2 h1 h2=>?_) rfl|refine aF (fun K1 K2 h1 h2=>?_));simp-dsimp(disch:=try exact vD) only[push_cast,simprocAttr,eU,hb,hpq,he,hel,bg,bV,bD,nX,gQ,jQ,List.nil_append];(first|(refine⟨fun hc=>?_,fun hc=>?_⟩<;>first|(exfalso;omega)|(exfalso;contradiction)|refine h1 ?_|refine h2 ?_)|refine h1 ?_|refine h2 ?_);all_goals clear h1 h2 K1 K2)|apply cu|apply aL|apply bH|apply aX|apply aM|apply bI|apply aY|(refine aQ rfl ?_)|apply aZ|apply bG|apply bF|apply bY)
  all_goals first
   |(have he:=hm2 hb hpq;have hel:=WU he)
   |(have he:=hm1 (.inr hpq);have hel:=Oj he)
  all_goals rcases Nat.eq_zero_or_pos (mBl p xs j) with h0|h0
  all_goals repeat' (first|(refine Mid.mk rfl ?_;dsimp only)|(refine ji [0,1,2,3] ⟨rfl,rfl⟩ ?_;(try dsimp only);unfold fyO;(try simp only[List.cons_append,List.nil_append]);refine Sub.mk2 ?_;(simp-dsimp(disch:=try exact vD) only[push_cast,simprocAttr,eU,hb,hpq,he,hel,bg,bV,bD,nX,gQ,jQ,List.nil_append]);(repeat refine aI ?_);first|done|exact vI)|(refine ji [0,1,2,9] ⟨rfl,rfl⟩ ?_;(try dsimp only);unfold fyO;(try simp only[List.cons_append,List.nil_append]);refine Sub.mk2 ?_;(simp-dsimp(disch:=try exact vD) only[push_cast,simprocAttr,eU,hb,hpq,he,hel,bg,bV,bD,nX,gQ,jQ,List.nil_append]);(repeat refine aI ?_);first|done|exact vI)|(refine ji [0,1,2,5] ⟨rfl,rfl⟩ ?_;(try dsimp only);unfold fyO;(try simp only[List.cons_append,List.nil_append]);refine Sub.mk2 ?_;(simp-dsimp(disch:=try exact vD) only[push_cast,simprocAttr,eU,hb,hpq,he,hel,bg,bV,bD,nX,gQ,jQ,List.nil_append]);(repeat refine aI ?_);first|done|exact vI)|(refine ji [0,1,2,4] ⟨rfl,rfl⟩ ?_;(try dsimp only);unfold fyO;(try simp only[List.cons_append,List.nil_append]);refine Sub.mk2 ?_;(simp-dsimp(disch:=try exact vD) only[push_cast,simprocAttr,eU,hb,hpq,he,hel,bg,bV,bD,nX,gQ,jQ,List.nil_append]);(repeat refine aI ?_);first|done|exact vI)|apply bZ|apply aB|((first|refine ax rfl (fun K hK=>?_)|refine ak (fun K hK=>?_));(first|refine ah (f:=53) [] 0 false ?_);simp-dsimp(disch:=try exact vD) only[push_cast,simprocAttr,eU,hb,hpq,he,hel,bg,bV,bD,nX,gQ,jQ,List.nil_append];(repeat refine aI ?_);intro G hG;refine hG _ _ ?_;clear hG G;(first|refine⟨_,_,hac.down,?_⟩);simp-dsimp(disch:=try exact vD) only[push_cast,simprocAttr,eU,hb,hpq,he,hel,bg,bV,bD,nX,gQ,jQ,List.nil_append];(repeat refine aI ?_);apply hK;clear hK K)|((first|refine ax rfl (fun K hK=>?_)|refine ak (fun K hK=>?_));(first|(refine ah (f:=14) [] 0 true ?_;simp-dsimp(disch:=try exact vD) only[push_cast,simprocAttr,eU,hb,hpq,he,hel,bg,bV,bD,nX,gQ,jQ,List.nil_append];(repeat refine aI ?_);intro G hG;refine hG _ _ ?_;clear hG G;refine⟨_,_,si (qs:=mB p xs j) gQ (by omega),?_⟩;simp-dsimp(disch:=try exact vD) only[push_cast,simprocAttr,eU,hb,hpq,he,hel,bg,bV,bD,nX,gQ,jQ,List.nil_append];(repeat refine aI ?_);apply hK;clear hK K)|(refine ah (f:=14) [] 0 true ?_;simp-dsimp(disch:=try exact vD) only[push_cast,simprocAttr,eU,hb,hpq,he,hel,bg,bV,bD,nX,gQ,jQ,List.nil_append];(repeat refine aI ?_);intro G hG;refine hG _ _ ?_;clear hG G;refine⟨_,_,si (qs:=[]) rfl (by omega),?_⟩;simp-dsimp(disch:=try exact vD) only[push_cast,simprocAttr,eU,hb,hpq,he,hel,bg,bV,bD,nX,gQ,jQ,List.nil_append];(repeat refine aI ?_);apply hK;clear hK K)))|((first|refine ax rfl (fun K hK=>?_)|refine ak (fun K hK=>?_));(first|apply bM|apply aR|apply bU|apply aO|apply fP|apply bO|apply fw|apply fM|apply fO|apply eY|apply dH|apply zm|apply aP|apply bR|apply bu|apply aU|apply dE|apply bS);simp-dsimp(disch:=try exact vD) only[push_cast,simprocAttr,eU,hb,hpq,he,hel,bg,bV,bD,nX,gQ,jQ,List.nil_append];(repeat refine aI ?_);apply hK;clear hK K)|((first|refine ax rfl (fun K hK=>?_)|refine ak (fun K hK=>?_));(first|apply dV);simp-dsimp(disch:=try exact vD) only[push_cast,simprocAttr,eU,hb,hpq,he,hel,bg,bV,bD,nX,gQ,jQ,List.nil_append];(repeat refine aI ?_);apply hK;clear hK K)|((first|refine ax rfl (fun K hK=>?_)|refine ak (fun K hK=>?_));(first|apply df);simp-dsimp(disch:=try exact vD) only[push_cast,simprocAttr,eU,hb,hpq,he,hel,bg,bV,bD,nX,gQ,jQ,List.nil_append];(repeat refine aI ?_);apply hK;clear hK K)|((first|refine ax rfl (fun K hK=>?_)|refine ak (fun K hK=>?_));(first|apply cZ);simp-dsimp(disch:=try exact vD) only[push_cast,simprocAttr,eU,hb,hpq,he,hel,bg,bV,bD,nX,gQ,jQ,List.nil_append];(repeat refine aI ?_);apply hK;clear hK K)|((first|refine aK rfl rfl (fun K1 K2 h1 h2=>?_) rfl|refine aF (fun K1 K2 h1 h2=>?_));simp-dsimp(disch:=try exact vD) only[push_cast,simprocAttr,eU,hb,hpq,he,hel,bg,bV,bD,nX,gQ,jQ,List.nil_append];(first|(refine⟨fun hc=>?_,fun hc=>?_⟩<;>first|(exfalso;omega)|(exfalso;contradiction)|refine h1 ?_|refine h2 ?_)|refine h1 ?_|refine h2 ?_);all_goals clear h1 h2 K1 K2)|apply cu|apply aL|apply bH|apply aX|apply aM|apply bI|apply aY|(refine aQ rfl ?_)|apply aZ|apply bG|apply bF|apply bY)
 ·dsimp only[fyR]
  rcases Nat.eq_zero_or_pos (mBl p xs xs.length) with h0|h0
  all_goals dsimp only[fyO]
  all_goals repeat' (first|apply bZ|apply aB|((first|refine ax rfl (fun K hK=>?_)|refine ak (fun K hK=>?_));(first|apply bM|apply aR|apply bU|apply aO|apply fP|apply bO|apply fw|apply fM|apply fO|apply eY|apply dH|apply zm|apply aP|apply bR|apply bu|apply aU|apply dE|apply bS);simp-dsimp(disch:=try exact vD) only[push_cast,simprocAttr];(repeat refine aI ?_);apply hK;clear hK K)|((first|refine ax rfl (fun K hK=>?_)|refine ak (fun K hK=>?_));(first|apply dV);simp-dsimp(disch:=try exact vD) only[push_cast,simprocAttr];(repeat refine aI ?_);apply hK;clear hK K)|((first|refine ax rfl (fun K hK=>?_)|refine ak (fun K hK=>?_));(first|apply df);simp-dsimp(disch:=try exact vD) only[push_cast,simprocAttr];(repeat refine aI ?_);apply hK;clear hK K)|((first|refine ax rfl (fun K hK=>?_)|refine ak (fun K hK=>?_));(first|apply cZ);simp-dsimp(disch:=try exact vD) only[push_cast,simprocAttr];(repeat refine aI ?_);apply hK;clear hK K)|((first|refine aK rfl rfl (fun K1 K2 h1 h2=>?_) rfl|refine aF (fun K1 K2 h1 h2=>?_));simp-dsimp(disch:=try exact vD) only[push_cast,simprocAttr];(first|(refine⟨fun hc=>?_,fun hc=>?_⟩<;>first|(exfalso;omega)|(exfalso;contradiction)|refine h1 ?_|refine h2 ?_)|refine h1 ?_|refine h2 ?_);all_goals clear h1 h2 K1 K2)|apply cu|apply aL|apply bH|apply aX|apply aM|apply bI|apply aY|(refine aQ rfl ?_)|apply aZ|apply bG|apply bF|apply bY)
  ·rw[h0,nX h0];(refine Ends.mk2 (by first|exact .inr rfl|exact .inl rfl) [] ?_;simp-dsimp(disch:=try exact vD) only[push_cast,simprocAttr,Tryz.f20];try exact zqF)
  ·rw[zB h0];((refine Ends.frz 3 ?_;simp-dsimp(disch:=try exact vD) only[push_cast,simprocAttr,Tryz.f20,jQ,gQ];(repeat refine aI ?_);intro K hK;refine hK _ _ ?_;clear hK K);refine Ends.mk2 (by first|exact .inr rfl|exact .inl rfl) [] ?_;simp-dsimp(disch:=try exact vD) only[push_cast,simprocAttr,Tryz.f20,jQ,gQ];try exact zqF)
end
section
open Go Go.Sy Go.Bp Go.Dg
attribute [local irreducible] AO AL AC OpT ACall Ends DGo aN Thn Blk Nxt
variable {n N M k i m r a b j w u v s q y d:Nat} {z:Bool} {x:Ex} {t:Nd} {e:Int}
def wtS(t:Nd):Nat→Int
 |0=>0
 |k+1=>wtS t k+wt t k
theorem ahY:wtS t 0=0:=rfl
theorem aiy:wtS t (k+1)=wtS t k+wt t k:=rfl
theorem afQ(hn:NOk t i):∀k,k≤t.k.length→0≤wtS t k∧wtS t k≤1000*k:=by
 intro k
 induction k with
 |zero=>intro _;simp[wtS]
 |succ k ih=>
  intro hk
  have:=ih (by omega)
  have:=afa hn (q:=k) (by omega)
  rw[aiy];omega
end
section
open Go Go.Sy Go.Bp Go.Dg
attribute [local irreducible] AO AL AC OpT ACall Ends DGo aN Thn Blk Nxt
variable {n N M K S k i m r a b j w u v s q y d c:Nat} {z:Bool} {x:Ex} {t:Nd} {e:Int} {ms pl ks:List Int} {f:List Nat} {nd0 nds:List Nd} {h h':Int→Bool} {A acc:List Bool}
structure ahU(x:Ex):Prop where
 ok:XOk x
 nz:∀t∈x.nodes,t.w=[]∧(t.kz=true→t.k=[])∧t.k.length≤20
theorem ahU.sh(h:ahU x):afp x:=⟨by have:=h.ok.few;omega,fun j hj=>by
 obtain⟨h1,h2,h3⟩:=h.nz _ (iR (d:=default) hj)
 rw[h1];exact⟨by simp,by omega⟩⟩
theorem ahU.va(h:ahU x):PG x=0:=ae6 h.ok
theorem agK(hs:∀k,k<j→0≤(x.nodes.getD k default).server):(svS x j).testBit i=true↔∃k,k<j∧(x.nodes.getD k default).kind=1∧(x.nodes.getD k default).server=(i:Int):=by
 induction j with
 |zero=>simp[svS]
 |succ j ih=>
  have ih:=ih fun k hk=>hs k (by omega)
  have h0:=hs j (by omega)
  by_cases hk:(x.nodes.getD j default).kind=1
  ·rw[agE hk]
   unfold sor
   rw[Az,Bool.or_eq_true,ih,decide_eq_true_eq]
   constructor
   ·rintro(⟨k,h1,h2,h3⟩|h)
    ·exact⟨k,by omega,h2,h3⟩
    ·exact⟨j,by omega,hk,by omega⟩
   ·rintro⟨k,h1,h2,h3⟩
    by_cases e:k=j
    ·subst e;exact .inr (by omega)
    ·exact .inl ⟨k,by omega,h2,h3⟩
  ·rw[agF hk,ih]
   constructor
   ·rintro⟨k,h1,h2,h3⟩;exact⟨k,by omega,h2,h3⟩
   ·rintro⟨k,h1,h2,h3⟩
    by_cases e:k=j
    ·subst e;exact absurd h2 hk
    ·exact⟨k,by omega,h2,h3⟩
end
