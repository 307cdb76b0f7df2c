/- Tp1 Tp2 Tp3. No condition. -/
import Derived.Test.YtgmpdplpodemaaaGreatDoorTmG9
set_option linter.all false
set_option maxRecDepth 20000
namespace Go.Proofs.YtgmpdplpodemaaaGreatDoor
section
open Go Go.Sy Go.Bp Go.Dg
variable {n N M K L S k i m r a b j w u v s q y d c:Nat} {f xs:List Nat} {p:Nat→Bool}
def chL(s k:Nat):List Nat:=(gq (aA s 16) k).map (pick s)
theorem Jv:(chL s k).length=(gq (aA s 16) k).length:=List.length_map _
theorem abB(h:i<(gq (aA s 16) k).length):(chL s k).getD i 0=pick s ((gq (aA s 16) k).getD i 0):=by
 unfold chL
 rw[List.getD_eq_getElem?_getD,List.getElem?_map,List.getElem?_eq_getElem h,List.getD_eq_getElem?_getD,List.getElem?_eq_getElem h];rfl
theorem sU:∀s,s<64→∀k,k<7→chL s k=(dW s).filter (fun x=>decide (aA x 16=k))∧(chL s k).length≤20:=by decide+kernel
theorem wN:∀x,x<64→∀y,y<64→dJ y x%65536=0→aA y 16≤aA x 16∧(aA y 16=aA x 16→y=x):=by decide+kernel
theorem kW:∀x,x<64→aA x 16<7∧(aA x 16=0→x=0):=by decide+kernel
theorem En:∀{xs:List Nat},(∃x∈xs,p x=true)→∃q,q<xs.length∧p (xs.getD q 0)=true∧∀i,i<q→p (xs.getD i 0)=false
 |[],h=>by obtain⟨_,h,_⟩:=h;cases h
 |x::xs,h=>by
  cases hx:p x with
  |true=>exact⟨0,by simp,by simpa using hx,fun i hi=>by omega⟩
  |false=>
   have:∃y∈xs,p y=true:=by
    obtain⟨y,hy,h1⟩:=h
    rcases List.mem_cons.1 hy with rfl|hy
    ·rw[hx] at h1;cases h1
    ·exact⟨y,hy,h1⟩
   obtain⟨q,h1,h2,h3⟩:=En this
   refine⟨q+1,by simp;omega,by simpa using h2,fun i hi=>?_⟩
   cases i with
   |zero=>simpa using hx
   |succ i=>simpa using h3 i (by omega)
theorem FOk.s64(h:FOk n f):iH f f.length<64:=by
 have h1:=h.sup
 have:=h.n6
 have:2^n≤2^6:=Nat.pow_le_pow_right (by omega) this
 omega
theorem QP(h:FOk n f):dD f (iH f f.length)=true:=by
 unfold dD
 rw[Bool.not_eq_true',List.any_eq_false]
 intro m hm
 rw[decide_eq_true_eq]
 intro hc
 refine h.nz m hm ?_
 have e:∀i,bit (bP m (iH f f.length)) i=bit m i:=fun i=>by
  rw[iy]
  cases hb:bit m i with
  |false=>rfl
  |true=>rw[h.sub hm hb];rfl
 have h64:=h.s64
 have h2:m%65536=0:=by
  refine Nat.eq_of_testBit_eq fun i=>?_
  rw[Nat.zero_testBit]
  cases hb:(m%65536).testBit i with
  |false=>rfl
  |true=>
   have hb':bit m i=true:=hb
   rw[←e] at hb'
   have:(bP m (iH f f.length)%65536).testBit i=true:=hb'
   rw[hc,Nat.zero_testBit] at this;cases this
 exact h2
theorem abC(hf:f≠[]):dD f 0=false:=by
 cases f with
 |nil=>exact absurd rfl hf
 |cons x f=>
  unfold dD
  have:bP x 0%65536=0:=by unfold bP;simp
  simp[this]
theorem FOk.first(h:FOk n f):∃q,q<(dW (iH f f.length)).length∧dD f ((dW (iH f f.length)).getD q 0)=true∧∀i,i<q→dD f ((dW (iH f f.length)).getD i 0)=false:=
 En ⟨iH f f.length,(jm h.s64).2 ⟨h.s64,kM⟩,QP h⟩
section
variable (h:FOk n f)(hf:f≠[])(hS:iH f f.length=S)(hx:dW S=xs)(hq:q<xs.length)(h1:dD f (xs.getD q 0)=true)(h2:∀i,i<q→dD f (xs.getD i 0)=false)
include h hS hx hq h1 h2
theorem G7:xs.getD q 0<64∧dJ (xs.getD q 0) S%65536=0:=by
 have h64:=h.s64
 rw[hS] at h64
 have:xs.getD q 0∈dW S:=by rw[hx];exact iR hq
 exact(jm h64).1 this
theorem zS(hy:y<2^n)(hp:dD f y=true):aA (xs.getD q 0) 16≤aA y 16:=by
 have h64:=h.s64
 rw[hS] at h64
 have hy64:y<64:=by have:=h.n6;have:2^n≤2^6:=Nat.pow_le_pow_right (by omega) this;omega
 have hyS:dD f (bP y S)=true:=by rw[←hS,h.hon];exact hp
 have hlt:bP y S<64:=by
  have:bP y S≤y:=Nat.and_le_left
  omega
 have hmem:bP y S∈dW S:=(jm h64).2 ⟨hlt,dR.2 fun i hi=>by rw[iy,Bool.and_eq_true] at hi;exact hi.2⟩
 rw[hx] at hmem
 obtain⟨i,hi,he⟩:=List.getElem_of_mem hmem
 have he':xs.getD i 0=bP y S:=by rw[List.getD_eq_getElem?_getD,List.getElem?_eq_getElem hi];exact he
 have hiq:q≤i:=by
  rcases Nat.lt_or_ge i q with hc|hc
  ·have:=h2 i hc;rw[he',hyS] at this;cases this
  ·exact hc
 have hsub:=(wN y hy64 (bP y S) hlt Df).1
 rcases Nat.lt_or_eq_of_le hiq with hl|hl
 ·have hpw:=mO S h64
  rw[hx] at hpw
  have:=List.pairwise_iff_getElem.1 hpw q i hq hi hl
  have hb:bef (xs.getD q 0) (bP y S)=true:=by
   rw[←he,List.getD_eq_getElem?_getD,List.getElem?_eq_getElem hq];exact this
  unfold bef at hb
  split at hb
  ·omega
  ·have:=of_decide_eq_true hb;omega
 ·subst hl;rw[he'];exact hsub
include hf in
theorem WA:0<aA (xs.getD q 0) 16:=by
 have hl:=G7 h hS hx hq h1 h2
 rcases Nat.eq_zero_or_pos (aA (xs.getD q 0) 16) with hz|hz
 ·have:=(kW _ hl.1).2 hz
  rw[this,abC hf] at h1;cases h1
 ·exact hz
theorem QR:∃l,dF f=xs.getD q 0::l:=by
 have e:∀j,j≤q→mB (dD f) xs j=[]:=fun j hj=>by
  induction j with
  |zero=>rfl
  |succ j ih=>
   rw[Kw (.inr (h2 j (by omega)))];exact ih (by omega)
 have e1:mB (dD f) xs (q+1)=[xs.getD q 0]:=by
  rw[UO (by rw[e q (Nat.le_refl _)];rfl) h1,e q (Nat.le_refl _)];rfl
 have e2:∀d,∃l,mB (dD f) xs (q+1+d)=xs.getD q 0::l:=fun d=>by
  induction d with
  |zero=>exact⟨[],e1⟩
  |succ d ih=>
   obtain⟨l,hl⟩:=ih
   rw[show q+1+(d+1)=q+1+d+1 by omega]
   rcases Bool.eq_false_or_eq_true (eO (mB (dD f) xs (q+1+d)) (xs.getD (q+1+d) 0)) with hb|hb
   ·rw[Kw (.inl hb)];exact⟨l,hl⟩
   ·rcases Bool.eq_false_or_eq_true (dD f (xs.getD (q+1+d) 0)) with hp|hp
    ·rw[UO hb hp,hl];exact⟨l++[_],rfl⟩
    ·rw[Kw (.inr hp)];exact⟨l,hl⟩
 unfold dF
 rw[hS,hx]
 obtain⟨l,hl⟩:=e2 (xs.length-(q+1))
 rw[show q+1+(xs.length-(q+1))=xs.length by omega] at hl
 exact⟨l,hl⟩
theorem QS(hc:aA (xs.getD q 0) 16=c):(chL S c).filter (dD f)=(dF f).filter (fun x=>decide (aA x 16=c)):=by
 have h64:=h.s64
 rw[hS] at h64
 have hl:=G7 h hS hx hq h1 h2
 have hc7:c<7:=by rw[←hc];exact(kW _ hl.1).1
 unfold dF
 rw[hS,xQ h64 _ (Nat.le_refl _),List.take_length,(sU S h64 c hc7).1,List.filter_filter,List.filter_filter]
 refine List.filter_congr fun x hxm=>?_
 obtain⟨hx64,hxS⟩:=(jm h64).1 hxm
 by_cases hm:aA x 16=c
 ·rw[decide_eq_true hm,Bool.and_true,Bool.true_and]
  refine Bool.eq_iff_iff.2 ⟨fun hp=>iG.2 ⟨hp,fun y hy hpy hsy=>?_⟩,fun hp=>(iG.1 hp).1⟩
  have hy64:y<64:=by omega
  have hk:=wN x hx64 y hy64 hsy
  have hyS:dJ y S%65536=0:=dR.2 fun i hi=>dR.1 hxS i (dR.1 hsy i hi)
  have hmem:y∈dW S:=(jm h64).2 ⟨hy64,hyS⟩
  have hy2:y<2^n:=by
   refine Nat.lt_of_le_of_lt ?_ (hS▸h.sup:S<2^n)
   exact Nat.le_of_not_lt fun hgt=>by
    have:∀i,(y%65536).testBit i=true→(S%65536).testBit i=true:=fun i hi=>dR.1 hyS i hi
    have:=Nat.le_of_testBit this
    omega
  have:=zS h hS hx hq h1 h2 hy2 hpy
  have e:=hk.2 (by omega)
  omega
 ·rw[decide_eq_false hm,Bool.and_false,Bool.false_and]
end
end
set_option maxHeartbeats 4000000
section
open Go Go.Sy Go.Bp Go.Dg
attribute [local irreducible] AO AL AC OpT ACall Ends DGo aN Thn Blk Nxt
variable {n N M k i m r a b j w u v s q y d:Nat} {z:Bool} {e:Int} {p:Nat→Bool} {xs qs f:List Nat}
attribute [local irreducible] aA mem gq pick fd sbL dW mB mBl eO goF
def tlO(x:Int)(_:Nat):List (Nat×Option aC):=[(0,some (.cells [.val (.int .u16 x)] 30)),(1,some (.cells [.val (.int .i64 0)] 31))]
def tlS(xs:List Nat)(j:Nat):List (Nat×Option aC):=[(0,some (.cells [.val (.int .u16 (U (xs.getD (j-1) 0)))] 30)),(1,some (.cells [.val (.int .i64 0)] 31))]
def tlR(z:Bool)(f:List Nat)(n:Nat)(p:Nat→Bool)(xs:List Nat)(ca cb:Code):RLoop:=
 ⟨19,2,[(1,.ipt [.isl z (cX f) n] 0),(2,.pt 0 0),(3,.pt 1 0)],tlO 0,tlS xs,2,2,goF (fun j=>p (xs.getD j 0)),yX xs,.ret,14,ca,cb⟩
theorem zT(hl:f.length=n)(hn:n≤400)(he0:pR f=0)(hs:iH f n=s)(hs6:s<64)(hx':dW s=xs)(hp:dD f=p)(hq:q<xs.length)(h1:p (xs.getD q 0)=true)(h2:∀i,i<q→p (xs.getD i 0)=false):
 ACall Tryz.prog 9 [.isl z (cX f) n] [] 0 (.tup [.val (.int .u16 (U (xs.getD q 0))),.val (.int .i64 0)]) []:=by
 have hva:=PLift.up (ky (z:=z) hl hn)
 rw[he0] at hva
 have hsv:=PLift.up (kN (z:=z) hl (by omega))
 rw[hs] at hsv
 have hho:∀q,ACall Tryz.prog 36 [.isl z (cX f) n,.val (.int .u16 (U q))] [] 0 (.val (.bool (p q))) []:=fun q=>by
  rw[←hp];exact AR hl (by omega)
 obtain⟨F,hF⟩:∃F,(fun j=>p (xs.getD j 0))=F:=⟨_,rfl⟩
 have hF2:∀j,p (xs.getD j 0)=F j:=fun j=>by rw[←hF]
 have hit:∀H:iU,H.P=Tryz.prog→H.xs=yX xs→H.go=goF F→∃r,ACall Tryz.prog 78 [.yl 0,bxS s] [.tr H 0] 1 r [.tr H (fd (goF F) 0 xs.length).1]:=fun H e1 e2 e3=>by
  have h:=CZ (H:=H) (s:=s) e1 (j6 s hs6).2 (by rw[e3];exact Jw (fun i hi=>absurd hi (by omega))) (fun i hi=>by rw[e2,←hx'];unfold yX;rw[if_pos hi])
  rw[e3,hx'] at h
  exact⟨_,h⟩
 have hfd:=fdF (F:=F) (n:=xs.length) (k:=0) (Jw (fun i hi=>absurd hi (by omega)))
 have hjq:jx F xs.length=some q:=by
  cases e:jx F xs.length with
  |none=>have:=adq e q hq;rw[←hF2,h1] at this;cases this
  |some j=>
   obtain⟨a1,a2,a3⟩:=WB e
   rcases Nat.lt_trichotomy j q with h|h|h
   ·have:=h2 j h;rw[hF2,a2] at this;cases this
   ·rw[h]
   ·have:=a3 q h;rw[←hF2,h1] at this;cases this
 rw[show jxG F 0 xs.length=some q from hjq] at hfd
 clear hp he0 hl hjq
 have hff:=ae
 refine az Tryz.func9 Tryz.ntmps9 rfl ?_
 repeat' (first|((first|refine dP (r:=4) 0 ?_|refine dO (r:=4) 0 ?_);simp-dsimp(disch:=try exact vD) only[push_cast,simprocAttr];(repeat refine aI ?_);intro K hK;refine hK _ _ ?_;clear hK K)|apply bZ|apply aB|((first|refine ax rfl (fun K hK=>?_)|refine ak (fun K hK=>?_));(first|refine ah (f:=33) [] 0 false ?_|refine ah (f:=35) [] 0 false ?_|refine ah (f:=34) [] 0 false ?_);simp-dsimp(disch:=try exact vD) only[push_cast,simprocAttr];(repeat refine aI ?_);intro G hG;refine hG _ _ ?_;clear hG G;(first|refine⟨_,_,hva.down,?_⟩|refine⟨_,_,hsv.down,?_⟩|refine⟨_,_,Ic (s:=s),?_⟩);simp-dsimp(disch:=try exact vD) only[push_cast,simprocAttr];(repeat refine aI ?_);apply hK;clear hK K)|((first|refine ax rfl (fun K hK=>?_)|refine ak (fun K hK=>?_));(first|apply bM|apply aR|apply bU|apply aO|apply eY|apply dH|apply dm|apply bR|apply bu|apply aU|apply dE);simp-dsimp(disch:=try exact vD) only[push_cast,simprocAttr];(repeat refine aI ?_);apply hK;clear hK K)|((first|refine aK rfl rfl (fun K1 K2 h1 h2=>?_) rfl|refine aF (fun K1 K2 h1 h2=>?_));simp-dsimp(disch:=try exact vD) only[push_cast,simprocAttr];(first|(refine⟨fun hc=>?_,fun hc=>?_⟩<;>first|(exfalso;omega)|(exfalso;contradiction)|refine h1 ?_|refine h2 ?_)|refine h1 ?_|refine h2 ?_);all_goals clear h1 h2 K1 K2)|apply cu|apply aL|apply bH|apply aX|apply aM|apply bI|apply aY|(refine aQ rfl ?_)|apply aZ|apply bG|apply bF|apply bY)
 refine rD (tlR z f n p xs _ _) [1,2] (fd (goF F) 0 xs.length).1 rfl (by simp[bnd]) (by kernel_rfl) (by rw[←hF] at hit⊢;exact hit) (by unfold tlR tlO;dsimp only;refine Sub.mk2 ?_;(simp-dsimp(disch:=try exact vD) only[push_cast,simprocAttr,])) rfl (Jw (fun i hi=>absurd hi (by omega))) (Nat.zero_le _) (fun j hj=>by have e:j=0∨j=1:=(by have:j<2:=hj;omega);rcases e with e|e<;>subst e<;>rfl) (by simp[tlR,bnd,xI]) (by show 14<19;decide) (.inl rfl) (fun j x hj hx=>?_) (fun hg=>?_) (fun hg=>?_)
 ·obtain⟨hjl,rfl⟩:=Ao hx
  have hj:goF F j=true:=by rw[←hF];exact hj
  have hF3:=hF2 j
  have hac:=PLift.up (hho (xs.getD j 0))
  rw[hF3] at hac
  have hgn:F j=false→goF F (j+1)=true:=fun e=>Jw (fun i hi=>by
   by_cases ei:i=j
   ·rw[ei];exact e
   ·exact G8 hj i (by omega))
  have hgs:F j=true→goF F (j+1)=false:=fun e=>by
   cases hh:goF F (j+1) with
   |false=>rfl
   |true=>have:=G8 hh j (by omega);rw[e] at this;cases this
  clear hx hho hit
  dsimp only[tlR,tlO]
  rcases Bool.eq_false_or_eq_true (F j) with hff|hff
  all_goals repeat' (first|(refine Mid.mk rfl ?_;dsimp only)|(refine ji [0,1] ⟨(by rw[hF];exact hgn hff),rfl⟩ ?_;(try dsimp only);unfold tlO;(try simp only[List.cons_append,List.nil_append]);refine Sub.mk2 ?_;(simp-dsimp(disch:=try exact vD) only[push_cast,simprocAttr,hff,Nat.add_sub_cancel]);(repeat refine aI ?_);first|done|exact vI)|(refine Ub [0,1] ⟨rfl,(by rw[hF];exact hgs hff),rfl⟩ ?_;(try dsimp only);unfold tlS;(try simp only[List.cons_append,List.nil_append]);refine Sub.mk2 ?_;(simp-dsimp(disch:=try exact vD) only[push_cast,simprocAttr,hff,Nat.add_sub_cancel]);(repeat refine aI ?_);first|done|exact vI)|apply bZ|apply aB|((first|refine ax rfl (fun K hK=>?_)|refine ak (fun K hK=>?_));(first|refine ah (f:=36) [] 0 false ?_);simp-dsimp(disch:=try exact vD) only[push_cast,simprocAttr,hff,Nat.add_sub_cancel];(repeat refine aI ?_);intro G hG;refine hG _ _ ?_;clear hG G;(first|refine⟨_,_,hac.down,?_⟩);simp-dsimp(disch:=try exact vD) only[push_cast,simprocAttr,hff,Nat.add_sub_cancel];(repeat refine aI ?_);apply hK;clear hK K)|((first|refine ax rfl (fun K hK=>?_)|refine ak (fun K hK=>?_));(first|apply bM|apply aR|apply bU|apply aO|apply eY|apply dH|apply dm|apply bR|apply bu|apply aU|apply dE);simp-dsimp(disch:=try exact vD) only[push_cast,simprocAttr,hff,Nat.add_sub_cancel];(repeat refine aI ?_);apply hK;clear hK K)|((first|refine aK rfl rfl (fun K1 K2 h1 h2=>?_) rfl|refine aF (fun K1 K2 h1 h2=>?_));simp-dsimp(disch:=try exact vD) only[push_cast,simprocAttr,hff,Nat.add_sub_cancel];(first|(refine⟨fun hc=>?_,fun hc=>?_⟩<;>first|(exfalso;omega)|(exfalso;contradiction)|refine h1 ?_|refine h2 ?_)|refine h1 ?_|refine h2 ?_);all_goals clear h1 h2 K1 K2)|apply cu|apply aL|apply bH|apply aX|apply aM|apply bI|apply aY|(refine aQ rfl ?_)|apply aZ|apply bG|apply bF|apply bY)
 ·have hg:goF F (fd (goF F) 0 xs.length).1=true:=by rw[←hF] at hg⊢;exact hg
  rw[hfd] at hg;dsimp only at hg
  have:=G8 hg q (by omega)
  rw[←hF2,h1] at this;cases this
 ·rw[hfd]
  dsimp only[tlR,tlS]
  repeat' (first|apply bZ|apply aB|((first|refine ax rfl (fun K hK=>?_)|refine ak (fun K hK=>?_));(first|apply bM|apply aR|apply bU|apply aO|apply eY|apply dH|apply dm|apply bR|apply bu|apply aU|apply dE);simp-dsimp(disch:=try exact vD) only[push_cast,simprocAttr];(repeat refine aI ?_);apply hK;clear hK K)|((first|refine aK rfl rfl (fun K1 K2 h1 h2=>?_) rfl|refine aF (fun K1 K2 h1 h2=>?_));simp-dsimp(disch:=try exact vD) only[push_cast,simprocAttr];(first|(refine⟨fun hc=>?_,fun hc=>?_⟩<;>first|(exfalso;omega)|(exfalso;contradiction)|refine h1 ?_|refine h2 ?_)|refine h1 ?_|refine h2 ?_);all_goals clear h1 h2 K1 K2)|apply cu|apply aL|apply bH|apply aX|apply aM|apply bI|apply aY|(refine aQ rfl ?_)|apply aZ|apply bG|apply bF|apply bY)
  (refine Ends.mk2 (by first|exact .inr rfl|exact .inl rfl) [] ?_;simp-dsimp(disch:=try exact vD) only[push_cast,simprocAttr,Tryz.f9,Nat.add_sub_cancel];try exact zqF)
theorem Eo(h0:0<n)(hb:n≤400)(hc:0<aA s 16)(hva:ACall Tryz.prog 33 [.isl z (cX f) n] [] 0 (.val (.int .i64 0)) [])(hle:ACall Tryz.prog 9 [.isl z (cX f) n] [] 0 (.tup [.val (.int .u16 (U s)),.val (.int .i64 0)]) []):
 ACall Tryz.prog 8 [.isl z (cX f) n] [] 0 (.tup [.val (.int .i64 ((aA s 16-1:Nat):Int)),.val (.int .i64 0)]) []:=by
 have hva:=PLift.up hva;have hle:=PLift.up hle
 have hml:=lF (s:=s) (j:=16)
 have zx1:¬n=0:=by omega
 refine az Tryz.func8 Tryz.ntmps8 rfl ?_
 have zx2:=aD;have zx3:=aD;repeat' (first|refine zqN ?_|refine eG hva.down ?_|refine eG hle.down ?_|refine eG (qG (s:=s)) ?_|refine dx ?_|refine dz ?_|(refine dA ?_ ?_<;>intro hc<;>try exact zqM))
 all_goals first
  |((refine Ends.mk2 zqI [] ?_;simp-dsimp(disch:=try exact vD) only[push_cast,simprocAttr,Tryz.f8];try exact zqF);done)
  |skip
end
section
open Go Go.Sy Go.Bp Go.Dg
attribute [local irreducible] AO AL AC OpT ACall Ends DGo aN Thn Blk Nxt
variable {n N M k i m j r a b w u v s q y d c j1:Nat} {z:Bool} {e:Int} {p:Nat→Bool} {xs qs f:List Nat} {H:iU}
attribute [local irreducible] aA mem gq pick fd sbL dW mB mBl eO
theorem QU{b:Bool}(h:ACall Tryz.prog 39 [.val (.int .u16 (U s)),.val (.int .i64 k),.yl 0] [.tr H 0] 1 (.val (.bool b)) [.tr H j1]):ACall Tryz.prog 38 [.yl 0,.ipt [.val (.int .u16 (U s))] 0,.ipt [.val (.int .i64 k)] 0] [.tr H 0] 1 (.tup []) [.tr H j1]:=by
 have h:=PLift.up h
 refine az Tryz.func38 Tryz.ntmps38 rfl ?_
 repeat' (first|refine zqN ?_|((first|refine ax rfl (fun K hK=>?_)|refine ak (fun K hK=>?_));(first|refine ah (f:=39) [0] 1 false ?_);refine nG ?_;(first|refine⟨_,_,h.down,?_⟩);refine j5 ?_;apply hK;clear hK K)|refine bA ?_|refine bB ?_|(refine bC ?_ ?_<;>intro hc<;>try exact zqM))
 all_goals first
  |((refine Ends.mk2 zqI [0] ?_;simp-dsimp(disch:=try exact vD) only[push_cast,simprocAttr,Tryz.f38];try exact zqF);done)
  |skip
theorem yF:ACall Tryz.prog 13 [.val (.int .u16 (U s)),.val (.int .i64 k)] [] 0 (.fn 38 [.ipt [.val (.int .u16 (U s))] 0,.ipt [.val (.int .i64 k)] 0]) []:=by
 refine az Tryz.func13 Tryz.ntmps13 rfl ?_
 repeat' (first|refine zqN ?_|refine bA ?_|refine bB ?_|(refine bC ?_ ?_<;>intro hc<;>try exact zqM))
 all_goals first
  |(((refine Ends.frz 0 ?_;simp-dsimp(disch:=try exact vD) only[push_cast,simprocAttr,Tryz.f13];(repeat refine aI ?_);intro K hK;refine hK _ _ ?_;clear hK K);(refine Ends.frz 1 ?_;simp-dsimp(disch:=try exact vD) only[push_cast,simprocAttr,Tryz.f13];(repeat refine aI ?_);intro K hK;refine hK _ _ ?_;clear hK K);refine Ends.mk2 zqI [] ?_;simp-dsimp(disch:=try exact vD) only[push_cast,simprocAttr,Tryz.f13];try exact zqF);done)
  |skip
theorem QV(hs:s<64)(hk:k≤aA s 16)(hx:chL s k=xs):∀H:iU,H.P=Tryz.prog→H.xs=yX xs→H.go=(fun _=>true)→∃r,ACall Tryz.prog 38 [.yl 0,.ipt [.val (.int .u16 (U s))] 0,.ipt [.val (.int .i64 k)] 0] [.tr H 0] 1 r [.tr H xs.length]:=fun H h1 h2 h3=>by
 have h:=zF (H:=H) (s:=s) (k:=k) (j0:=0) h1 (kW s hs).1 hk rfl (by rw[h3]) (fun i hi=>by
  rw[h2,←hx]
  unfold yX
  rw[if_pos (by rw[Jv];omega),Nat.zero_add,abB hi])
 rw[h3,Ie,Nat.zero_add] at h
 have hl:(gq (aA s 16) k).length=xs.length:=by rw[←hx,Jv]
 rw[hl] at h
 exact⟨_,QU h⟩
def wsL(p:Nat→Bool)(xs:List Nat):Nat→List Nat
 |0=>[]
 |j+1=>if p (xs.getD j 0)=true then wsL p xs j++[xs.getD j 0] else wsL p xs j
def wsN(p:Nat→Bool)(xs:List Nat)(j:Nat):Nat:=(wsL p xs j).length
theorem sV:wsL p xs 0=[]:=rfl
theorem qm:wsN p xs 0=0:=rfl
theorem Jy(h:p (xs.getD j 0)=true):wsL p xs (j+1)=wsL p xs j++[xs.getD j 0]:=if_pos h
theorem Jz(h:p (xs.getD j 0)=false):wsL p xs (j+1)=wsL p xs j:=if_neg (by rw[h];decide)
theorem QW(h:p (xs.getD j 0)=true):wsN p xs (j+1)=wsN p xs j+1:=by unfold wsN;rw[Jy h];simp
theorem QX(h:p (xs.getD j 0)=false):wsN p xs (j+1)=wsN p xs j:=by unfold wsN;rw[Jz h]
theorem BQ:wsN p xs j≤j:=by
 induction j with
 |zero=>exact Nat.le_refl _
 |succ j ih=>
  cases h:p (xs.getD j 0) with
  |true=>rw[QW h];omega
  |false=>rw[QX h];omega
theorem dS:(wsL p xs j).length=wsN p xs j:=rfl
theorem nD(h:wsN p xs j=0):wsL p xs j=[]:=List.eq_nil_of_length_eq_zero h
theorem lL:(cX (wsL p xs j)).take (wsN p xs j)=cX (wsL p xs j):=List.take_of_length_le (by rw[xH,dS];exact Nat.le_refl _)
theorem qJ:∀j,j≤xs.length→wsL p xs j=(xs.take j).filter p
 |0,_=>by simp[wsL]
 |j+1,h=>by
  have e:xs.take (j+1)=xs.take j++[xs.getD j 0]:=by
   rw[List.take_add_one,List.getElem?_eq_getElem (by omega),List.getD_eq_getElem?_getD,List.getElem?_eq_getElem (by omega)];rfl
  rw[e,List.filter_append,←qJ j (by omega)]
  cases hp:p (xs.getD j 0) with
  |true=>rw[Jy hp,List.filter_cons,if_pos hp];rfl
  |false=>rw[Jz hp,List.filter_cons,if_neg (by rw[hp];decide),List.filter_nil,List.append_nil]
attribute [local irreducible] wsL wsN
def wtO(p:Nat→Bool)(xs:List Nat)(j:Nat):List (Nat×Option aC):=[(0,some (.cells [gL (wsN p xs j) 1 1] 25))]++gM (wsN p xs j) 1 (cX (wsL p xs j)) 30
def wtR(z:Bool)(f:List Nat)(n:Nat)(p:Nat→Bool)(xs:List Nat)(ca cb:Code):RLoop:=
 ⟨33,1,[(1,.ipt [.isl z (cX f) n] 0),(6,.pt 0 0)],wtO p xs,fun _=>[],2,0,fun _=>true,yX xs,.ret,21,ca,cb⟩
theorem QY(hl:f.length=n)(hn:n≤400)(hs:iH f n=s)(hs6:s<64)(hx':chL s c=xs)(hp:dD f=p)(hle:ACall Tryz.prog 9 [.isl z (cX f) n] [] 0 (.tup [.val (.int .u16 (U y)),.val (.int .i64 0)]) [])(hyc:aA y 16=c)(hcs:c≤aA s 16)(hpos:0<wsN p xs xs.length):
 ACall Tryz.prog 11 [.isl z (cX f) n] [] 0 (.tup [.isl false (cX (wsL p xs xs.length)) (wsN p xs xs.length),.val (.int .i64 0)]) []:=by
 have hle:=PLift.up hle
 have hsv:=PLift.up (kN (z:=z) hl (by omega))
 rw[hs] at hsv
 have hho:∀q,ACall Tryz.prog 36 [.isl z (cX f) n,.val (.int .u16 (U q))] [] 0 (.val (.bool (p q))) []:=fun q=>by
  rw[←hp];exact AR hl (by omega)
 have hit:=QV (k:=c) hs6 hcs hx'
 have hc7:c<7:=by have:=(kW s hs6).1;omega
 have hl6:=(sU s hs6 c hc7).2
 rw[hx'] at hl6
 have hct:=PLift.up (qG (s:=y))
 rw[hyc] at hct
 clear hp hl hyc
 have hb:=ae;have hpq:=ae;have he:=ae;have hel:=ae
 refine az Tryz.func11 Tryz.ntmps11 rfl ?_
 repeat' (first|((first|refine dP (r:=5) 0 ?_|refine dO (r:=5) 0 ?_);simp-dsimp(disch:=try exact vD) only[push_cast,simprocAttr,sV,qm];(repeat refine aI ?_);intro K hK;refine hK _ _ ?_;clear hK K)|apply bZ|apply aB|((first|refine ax rfl (fun K hK=>?_)|refine ak (fun K hK=>?_));(first|refine ah (f:=9) [] 0 false ?_|refine ah (f:=35) [] 0 false ?_|refine ah (f:=12) [] 0 false ?_|refine ah (f:=13) [] 0 false ?_);simp-dsimp(disch:=try exact vD) only[push_cast,simprocAttr,sV,qm];(repeat refine aI ?_);intro G hG;refine hG _ _ ?_;clear hG G;(first|refine⟨_,_,hle.down,?_⟩|refine⟨_,_,hsv.down,?_⟩|refine⟨_,_,hct.down,?_⟩|refine⟨_,_,yF (s:=s) (k:=c),?_⟩);simp-dsimp(disch:=try exact vD) only[push_cast,simprocAttr,sV,qm];(repeat refine aI ?_);apply hK;clear hK K)|((first|refine ax rfl (fun K hK=>?_)|refine ak (fun K hK=>?_));(first|apply bM|apply aR|apply bU|apply aO|apply fP|apply bO|apply di|apply eY|apply dH|apply dm|apply aP|apply bR|apply bu|apply aU|apply dE|apply bS);simp-dsimp(disch:=try exact vD) only[push_cast,simprocAttr,sV,qm];(repeat refine aI ?_);apply hK;clear hK K)|((first|refine ax rfl (fun K hK=>?_)|refine ak (fun K hK=>?_));(first|apply dV);simp-dsimp(disch:=try exact vD) only[push_cast,simprocAttr,sV,qm];(repeat refine aI ?_);apply hK;clear hK K)|((first|refine ax rfl (fun K hK=>?_)|refine ak (fun K hK=>?_));(first|apply df);simp-dsimp(disch:=try exact vD) only[push_cast,simprocAttr,sV,qm];(repeat refine aI ?_);apply hK;clear hK K)|((first|refine ax rfl (fun K hK=>?_)|refine ak (fun K hK=>?_));(first|apply cZ);simp-dsimp(disch:=try exact vD) only[push_cast,simprocAttr,sV,qm];(repeat refine aI ?_);apply hK;clear hK K)|((first|refine aK rfl rfl (fun K1 K2 h1 h2=>?_) rfl|refine aF (fun K1 K2 h1 h2=>?_));simp-dsimp(disch:=try exact vD) only[push_cast,simprocAttr,sV,qm];(first|(refine⟨fun hc=>?_,fun hc=>?_⟩<;>first|(exfalso;omega)|(exfalso;contradiction)|refine h1 ?_|refine h2 ?_)|refine h1 ?_|refine h2 ?_);all_goals clear h1 h2 K1 K2)|apply cu|apply aL|apply bH|apply aX|apply aM|apply bI|apply aY|(refine aQ rfl ?_)|apply aZ|apply bG|apply bF|apply bY)
 refine rD (wtR z f n p xs _ _) [1,9] xs.length rfl (by simp[bnd]) (by kernel_rfl) hit (by unfold wtR wtO;dsimp only;refine Sub.mk2 ?_;(simp-dsimp(disch:=try exact vD) only[push_cast,simprocAttr,sV,qm])) rfl rfl (Nat.zero_le 1) (fun j hj=>by have e:j=0:=(by have:j<1:=hj;omega);subst e;rfl) (by simp[wtR,bnd,xI]) (by show 21<33;decide) (.inl rfl) (fun j x hj hx=>?_) (fun _=>?_) (fun h=>nomatch h)
 ·obtain⟨hjl,rfl⟩:=Ao hx
  have hll:=BQ (p:=p) (xs:=xs) (j:=j)
  have hm1:=fun h=>Jy (p:=p) (xs:=xs) (j:=j) h
  have hm2:=fun h=>Jz (p:=p) (xs:=xs) (j:=j) h
  have hn1:=fun h=>QW (p:=p) (xs:=xs) (j:=j) h
  have hn2:=fun h=>QX (p:=p) (xs:=xs) (j:=j) h
  obtain⟨q,hq⟩:∃q,xs.getD j 0=q:=⟨_,rfl⟩
  rw[hq] at hm1 hm2 hn1 hn2⊢
  have hac:=PLift.up (hho q)
  clear hx hho hit
  dsimp only[wtR,wtO]
  refine(Bool.eq_false_or_eq_true (p q)).elim (fun hpq=>?_) (fun hpq=>?_)
  all_goals first
   |(have he:=hm1 hpq;have hel:=hn1 hpq)
   |(have he:=hm2 hpq;have hel:=hn2 hpq)
  all_goals rcases Nat.eq_zero_or_pos (wsN p xs j) with h0|h0
  all_goals repeat' (first|(refine Mid.mk rfl ?_;dsimp only)|(refine ji [0,1] ⟨rfl,rfl⟩ ?_;(try dsimp only);unfold wtO;(try simp only[List.cons_append,List.nil_append]);refine Sub.mk2 ?_;(simp-dsimp(disch:=try exact vD) only[push_cast,simprocAttr,hpq,he,hel,bg,bV,bD,nD,dS,lL,List.nil_append]);(repeat refine aI ?_);first|done|exact vI)|(refine ji [0,9] ⟨rfl,rfl⟩ ?_;(try dsimp only);unfold wtO;(try simp only[List.cons_append,List.nil_append]);refine Sub.mk2 ?_;(simp-dsimp(disch:=try exact vD) only[push_cast,simprocAttr,hpq,he,hel,bg,bV,bD,nD,dS,lL,List.nil_append]);(repeat refine aI ?_);first|done|exact vI)|(refine ji [0,4] ⟨rfl,rfl⟩ ?_;(try dsimp only);unfold wtO;(try simp only[List.cons_append,List.nil_append]);refine Sub.mk2 ?_;(simp-dsimp(disch:=try exact vD) only[push_cast,simprocAttr,hpq,he,hel,bg,bV,bD,nD,dS,lL,List.nil_append]);(repeat refine aI ?_);first|done|exact vI)|(refine ji [0,3] ⟨rfl,rfl⟩ ?_;(try dsimp only);unfold wtO;(try simp only[List.cons_append,List.nil_append]);refine Sub.mk2 ?_;(simp-dsimp(disch:=try exact vD) only[push_cast,simprocAttr,hpq,he,hel,bg,bV,bD,nD,dS,lL,List.nil_append]);(repeat refine aI ?_);first|done|exact vI)|(refine ji [0,2] ⟨rfl,rfl⟩ ?_;(try dsimp only);unfold wtO;(try simp only[List.cons_append,List.nil_append]);refine Sub.mk2 ?_;(simp-dsimp(disch:=try exact vD) only[push_cast,simprocAttr,hpq,he,hel,bg,bV,bD,nD,dS,lL,List.nil_append]);(repeat refine aI ?_);first|done|exact vI)|apply bZ|apply aB|((first|refine ax rfl (fun K hK=>?_)|refine ak (fun K hK=>?_));(first|refine ah (f:=36) [] 0 false ?_);simp-dsimp(disch:=try exact vD) only[push_cast,simprocAttr,hpq,he,hel,bg,bV,bD,nD,dS,lL,List.nil_append];(repeat refine aI ?_);intro G hG;refine hG _ _ ?_;clear hG G;(first|refine⟨_,_,hac.down,?_⟩);simp-dsimp(disch:=try exact vD) only[push_cast,simprocAttr,hpq,he,hel,bg,bV,bD,nD,dS,lL,List.nil_append];(repeat refine aI ?_);apply hK;clear hK K)|((first|refine ax rfl (fun K hK=>?_)|refine ak (fun K hK=>?_));(first|apply bM|apply aR|apply bU|apply aO|apply fP|apply bO|apply di|apply eY|apply dH|apply dm|apply aP|apply bR|apply bu|apply aU|apply dE|apply bS);simp-dsimp(disch:=try exact vD) only[push_cast,simprocAttr,hpq,he,hel,bg,bV,bD,nD,dS,lL,List.nil_append];(repeat refine aI ?_);apply hK;clear hK K)|((first|refine ax rfl (fun K hK=>?_)|refine ak (fun K hK=>?_));(first|apply dV);simp-dsimp(disch:=try exact vD) only[push_cast,simprocAttr,hpq,he,hel,bg,bV,bD,nD,dS,lL,List.nil_append];(repeat refine aI ?_);apply hK;clear hK K)|((first|refine ax rfl (fun K hK=>?_)|refine ak (fun K hK=>?_));(first|apply df);simp-dsimp(disch:=try exact vD) only[push_cast,simprocAttr,hpq,he,hel,bg,bV,bD,nD,dS,lL,List.nil_append];(repeat refine aI ?_);apply hK;clear hK K)|((first|refine ax rfl (fun K hK=>?_)|refine ak (fun K hK=>?_));(first|apply cZ);simp-dsimp(disch:=try exact vD) only[push_cast,simprocAttr,hpq,he,hel,bg,bV,bD,nD,dS,lL,List.nil_append];(repeat refine aI ?_);apply hK;clear hK K)|((first|refine aK rfl rfl (fun K1 K2 h1 h2=>?_) rfl|refine aF (fun K1 K2 h1 h2=>?_));simp-dsimp(disch:=try exact vD) only[push_cast,simprocAttr,hpq,he,hel,bg,bV,bD,nD,dS,lL,List.nil_append];(first|(refine⟨fun hc=>?_,fun hc=>?_⟩<;>first|(exfalso;omega)|(exfalso;contradiction)|refine h1 ?_|refine h2 ?_)|refine h1 ?_|refine h2 ?_);all_goals clear h1 h2 K1 K2)|apply cu|apply aL|apply bH|apply aX|apply aM|apply bI|apply aY|(refine aQ rfl ?_)|apply aZ|apply bG|apply bF|apply bY)
 ·have hlx:=BQ (p:=p) (xs:=xs) (j:=xs.length)
  dsimp only[wtR]
  dsimp only[wtO]
  repeat' (first|apply bZ|apply aB|((first|refine ax rfl (fun K hK=>?_)|refine ak (fun K hK=>?_));(first|apply bM|apply aR|apply bU|apply aO|apply fP|apply bO|apply di|apply eY|apply dH|apply dm|apply aP|apply bR|apply bu|apply aU|apply dE|apply bS);simp-dsimp(disch:=try exact vD) only[push_cast,simprocAttr];(repeat refine aI ?_);apply hK;clear hK K)|((first|refine ax rfl (fun K hK=>?_)|refine ak (fun K hK=>?_));(first|apply dV);simp-dsimp(disch:=try exact vD) only[push_cast,simprocAttr];(repeat refine aI ?_);apply hK;clear hK K)|((first|refine ax rfl (fun K hK=>?_)|refine ak (fun K hK=>?_));(first|apply df);simp-dsimp(disch:=try exact vD) only[push_cast,simprocAttr];(repeat refine aI ?_);apply hK;clear hK K)|((first|refine ax rfl (fun K hK=>?_)|refine ak (fun K hK=>?_));(first|apply cZ);simp-dsimp(disch:=try exact vD) only[push_cast,simprocAttr];(repeat refine aI ?_);apply hK;clear hK K)|((first|refine aK rfl rfl (fun K1 K2 h1 h2=>?_) rfl|refine aF (fun K1 K2 h1 h2=>?_));simp-dsimp(disch:=try exact vD) only[push_cast,simprocAttr];(first|(refine⟨fun hc=>?_,fun hc=>?_⟩<;>first|(exfalso;omega)|(exfalso;contradiction)|refine h1 ?_|refine h2 ?_)|refine h1 ?_|refine h2 ?_);all_goals clear h1 h2 K1 K2)|apply cu|apply aL|apply bH|apply aX|apply aM|apply bI|apply aY|(refine aQ rfl ?_)|apply aZ|apply bG|apply bF|apply bY)
  all_goals first
   |(((refine Ends.frz 1 ?_;simp-dsimp(disch:=try exact vD) only[push_cast,simprocAttr,Tryz.f11,lL,dS];(repeat refine aI ?_);intro K hK;refine hK _ _ ?_;clear hK K);refine Ends.mk2 (by first|exact .inr rfl|exact .inl rfl) [] ?_;simp-dsimp(disch:=try exact vD) only[push_cast,simprocAttr,Tryz.f11,lL,dS];try exact zqF);done)
   |skip
end
