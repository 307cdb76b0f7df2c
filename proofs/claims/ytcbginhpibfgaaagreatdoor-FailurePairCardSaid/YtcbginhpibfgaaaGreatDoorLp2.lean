/- Lp2. No condition. -/
import Derived.Test.YtcbginhpibfgaaaGreatDoorLpG1
set_option linter.all false
set_option maxHeartbeats 4000000
set_option maxRecDepth 20000
namespace Go.Proofs.YtcbginhpibfgaaaGreatDoor
open Go Go.Sy Go.Bp Go.Lm
attribute [local irreducible] AO AL AC OpT ACall Ends DGo bK Thn Blk Nxt
variable {n N M k i m j:Nat} {z z' neg:Bool} {l a b:List Int} {v x y:Int} {xs:List IV} {X:IV}
theorem XA(hl:l.length=0):ACall Tryz.prog 150 [.isl z (cI .u32 l) 0] [] 0 (.val (.int .i64 (dg9 l))) []:=by
 rw[Xp hl]
 refine ak Tryz.func150 Tryz.ntmps150 rfl ?_
 repeat' (first|refine zqN ?_|refine aK ?_|refine aL ?_|(refine aM ?_ ?_<;>intro hc<;>try exact zqM))
 all_goals(refine Ends.mk2 zqI [] ?_;simp-dsimp(disch:=try exact vD) only[push_cast,simprocAttr,Tryz.f150];try exact zqF)
theorem XB(hl:l.length=n+1)(hn:n<2^47)(hi:Lim l)(hw:¬l.getD n 0=0):ACall Tryz.prog 150 [.isl z (cI .u32 l) (n+1)] [] 0 (.val (.int .i64 (dg9 l))) []:=by
 have hr:=hi.at n
 rw[LY (by omega),hl,Nat.add_sub_cancel]
 obtain⟨w,hw2⟩:∃w:Nat,l.getD n 0=w:=Int.eq_ofNat_of_zero_le hr.1
 rw[hw2] at hr hw⊢
 have zx1:l.getD n default=w:=hw2
 rw[Int.toNat_natCast]
 obtain⟨s,zx2,hit⟩:=Xz (u:=w) (by omega) (by omega)
 have h9:=aeR (u:=w) (by omega)
 generalize dgs w=q at*
 have hit:=PLift.up hit
 refine ak Tryz.func150 Tryz.ntmps150 rfl ?_
 have zx3:= @a1s;repeat' (first|refine zqN ?_|refine bE hit.down ?_|refine bM ?_|refine bO ?_|(refine bP ?_ ?_<;>intro hc<;>try exact zqM))
 all_goals first
  |((refine Ends.mk2 zqI [] ?_;simp-dsimp(disch:=try exact vD) only[push_cast,simprocAttr,Tryz.f150];try exact zqF);done)
  |skip
theorem yF(hl:l.length=n)(hn:n<2^47)(hi:Lim l)(ht:Tr l):ACall Tryz.prog 150 [.isl z (cI .u32 l) n] [] 0 (.val (.int .i64 (dg9 l))) []:=by
 subst hl
 rcases Nat.eq_zero_or_pos l.length with h0|h0
 ·rw[h0];exact XA h0
 ·obtain⟨q,hq⟩:∃q,l.length=q+1:=⟨_,(Nat.succ_pred_eq_of_pos h0).symm⟩
  rcases ht with ht|ht
  ·rw[ht] at h0;exact absurd h0 (by decide)
  ·rw[hq] at ht hn⊢
   exact XB hq (by omega) hi ht
def iuI(z:Bool)(F:Nat)(p:Int→Bool)(l:List Int)(n:Nat)(j:{j:Nat // j≤n∧∀i,i<j→p (l.getD i default)=false}):St:=
 ⟨19,0,[(0,.isl z (cI .u32 l) n),(1,.fn F []),(7,.val (.int .i64 n)),(8,.val (.int .i64 j.val))],[]⟩
theorem ac2{F:FuncId} [mW Tryz.prog F](p:Int→Bool)(hl:l.length=n)(hn:n<2^47)(hf:∀t:Int,ACall Tryz.prog F [.val (.int .u32 t)] [] 0 (.val (.bool (p t))) []):
 ACall Tryz.prog 159 [.isl z (cI .u32 l) n,.fn F []] [] 0 (.val (.int .i64 (ix p l))) []:=by
 refine ak Tryz.func159 Tryz.ntmps159 rfl ?_
 repeat' (first|(refine ai ?_;refine au [] ([].length) (iuI z F p l n) (fun j=>n-j.val) (⟨0,by omega,fun i hi=>absurd hi (by omega)⟩) rfl (by unfold iuI;exact mO) ?_;(rintro⟨j,hj,hnb⟩;(simp-dsimp only[iuI];refine zqS ?_)))|(refine ax ?_;refine Nxt.mk [] (⟨j+1,by omega,Wj hnb (by assumption)⟩) rfl (by unfold iuI;exact mO) zqO)|refine zqN ?_|((first|refine ay rfl (fun K hK=>?_)|refine aj (fun K hK=>?_));(first|refine bq (f:=F) [] 0 false ?_);refine jP ?_;(first|refine⟨_,_,hf (l.getD j default),?_⟩);refine gD ?_;apply hK;clear hK K)|refine aK ?_|refine aL ?_|(refine aM ?_ ?_<;>intro hc<;>try exact zqM))
 all_goals first
  |(have e:ix p l=j:=ahI (by omega) hnb (by assumption);(refine Ends.mk2 zqI [] ?_;simp-dsimp(disch:=try exact vD) only[push_cast,simprocAttr,Tryz.f159,e];try exact zqF))
  |(have ej:j=n:=(by omega);subst ej;subst hl;have e:ix p l= -1:=ab1 hnb;(refine Ends.mk2 zqI [] ?_;simp-dsimp(disch:=try exact vD) only[push_cast,simprocAttr,Tryz.f159,e];try exact zqF))
theorem XC{F:FuncId} [mW Tryz.prog F](p:Int→Bool)(hl:l.length=n)(hn:n<2^47)(hf:∀t:Int,ACall Tryz.prog F [.val (.int .u32 t)] [] 0 (.val (.bool (p t))) []):
 ACall Tryz.prog 148 [.isl z (cI .u32 l) n,.fn F []] [] 0 (.val (.bool (l.any p))) []:=by
 refine ak Tryz.func148 Tryz.ntmps148 rfl ?_
 have zx1:= @Wl;have zx2:=aC;have zx3:=aC;repeat' (first|refine zqN ?_|refine bE (ac2 p hl hn hf) ?_|refine bM ?_|refine bO ?_|(refine bP ?_ ?_<;>intro hc<;>try exact zqM))
 all_goals(refine Ends.mk2 zqI [] ?_;simp-dsimp(disch:=try exact vD) only[push_cast,simprocAttr,Tryz.f148,Wl];try exact zqF)
theorem SL:ACall Tryz.prog 149 [.val (.int .u32 x)] [] 0 (.val (.bool (decide (1000000000≤x)))) []:=by
 refine ak Tryz.func149 Tryz.ntmps149 rfl ?_
 repeat' (first|refine zqN ?_|refine aK ?_|refine aL ?_|(refine aM ?_ ?_<;>intro hc<;>try exact zqM))
 all_goals(refine Ends.mk2 zqI [] ?_;simp-dsimp(disch:=try exact vD) only[push_cast,simprocAttr,Tryz.f149];try exact zqF)
def vB(X:IV):Bool:=
 if X.l.length=0 then !X.neg else if X.l.getD (X.l.length-1) 0=0∨34<X.l.length then false else if X.l.any (fun y=>decide (1000000000≤y))=true then false else decide (dg9 X.l≤300)
theorem ac3(h:X.l.length=0):vB X= !X.neg:=if_pos h
theorem aip(h:¬X.l.length=0)(h2:X.l.getD (X.l.length-1) 0=0∨34<X.l.length):vB X=false:=by unfold vB;rw[if_neg h,if_pos h2]
theorem aiq(h:¬X.l.length=0)(h2:¬(X.l.getD (X.l.length-1) 0=0∨34<X.l.length))(h3:X.l.any (fun y=>decide (1000000000≤y))=true):vB X=false:=by unfold vB;rw[if_neg h,if_neg h2,if_pos h3]
theorem ac4(h:¬X.l.length=0)(h2:¬(X.l.getD (X.l.length-1) 0=0∨34<X.l.length))(h3:¬X.l.any (fun y=>decide (1000000000≤y))=true):vB X=decide (dg9 X.l≤300):=by unfold vB;rw[if_neg h,if_neg h2,if_neg h3]
def R32(l:List Int):Prop:=∀y∈l,0≤y∧y≤4294967295
theorem JR(hr:R32 l)(h:¬l.any (fun y=>decide (1000000000≤y))=true):Lim l:=fun y hy=>by
 have:=hr y hy
 refine⟨this.1,Decidable.not_not.1 fun hc=>h ?_⟩
 rw[List.any_eq_true];exact⟨y,hy,by simp;omega⟩
theorem ac5(h:Lim l):¬l.any (fun y=>decide (1000000000≤y))=true:=fun hc=>by
 rw[List.any_eq_true] at hc
 obtain⟨y,h1,h2⟩:=hc
 have:=h y h1
 simp at h2;omega
theorem IG(h:v.natAbs<10^300):vB (iV z v)=true:=by
 by_cases h0:(lb v.natAbs).length=0
 ·have e:=iE.1 (List.length_eq_zero_iff.1 h0)
  rw[ac3 (X:=iV z v) h0]
  show(!decide (v<0))=true
  rw[decide_eq_false (by omega)];rfl
 ·have hf:=ER h
  have ht:=ic (n:=v.natAbs)
  have hne:¬((lb v.natAbs).getD ((lb v.natAbs).length-1) 0=0∨34<(lb v.natAbs).length):=by
   rcases ht with ht|ht
   ·exact absurd (by rw[ht];rfl) h0
   ·rintro(hc|hc)
    ·exact ht hc
    ·omega
  rw[ac4 (X:=iV z v) h0 hne (ac5 lim_lb)]
  exact decide_eq_true (EQ.2 h)
theorem ak2(h:vB X=true)(hr:R32 X.l):∃v:Int,X=iV X.z v∧v.natAbs<10^300:=by
 by_cases h0:X.l.length=0
 ·rw[ac3 h0] at h
  refine⟨0,?_,by decide+kernel⟩
  obtain⟨z,neg,l⟩:=X
  have hl:l=[]:=List.length_eq_zero_iff.1 h0
  have hn:neg=false:=by simpa using h
  subst hl;subst hn
  rfl
 ·by_cases h1:X.l.getD (X.l.length-1) 0=0∨34<X.l.length
  ·rw[aip h0 h1] at h;cases h
  ·by_cases h2:X.l.any (fun y=>decide (1000000000≤y))=true
   ·rw[aiq h0 h1 h2] at h;cases h
   ·rw[ac4 h0 h1 h2] at h
    have hl:=JR hr h2
    have ht:Tr X.l:= .inr fun hc=>h1 (.inl hc)
    have hv:=bJ hl
    have hd:=(Xq hl ht).1 (of_decide_eq_true h)
    have hge:=Qj hl ht fun e=>h0 (by rw[e];rfl)
    have hb:=gZ (k:=X.l.length-1)
    have he:=Xh hl ht
    obtain⟨z,neg,l⟩:=X
    dsimp only at*
    obtain⟨u,hu⟩:∃u:Nat,val l=u:=Int.eq_ofNat_of_zero_le hv.1
    rw[hu] at he hd hge
    rw[Int.toNat_natCast] at he
    cases neg with
    |true=>
     refine⟨-(u:Int),?_,by rw[Int.natAbs_neg,Int.natAbs_natCast];omega⟩
     unfold iV
     rw[Int.natAbs_neg,Int.natAbs_natCast,←he,decide_eq_true (show-(u:Int)<0 by omega)]
    |false=>
     refine⟨(u:Int),?_,by rw[Int.natAbs_natCast];omega⟩
     unfold iV
     rw[Int.natAbs_natCast,←he,decide_eq_false (show¬(u:Int)<0 by omega)]
theorem yG(hl:X.l.length=n)(hn:n<2^47)(hr:R32 X.l):ACall Tryz.prog 128 [.agg (aa.cells X)] [] 0 (.val (.bool (vB X))) []:=by
 have h0:=ac3 (X:=X);have h1:=aip (X:=X);have h2:=aiq (X:=X);have h3:=ac4 (X:=X)
 have hco:=PLift.up (XC (z:=X.z) (l:=X.l) (F:=149) (fun y=>decide (1000000000≤y)) hl (by omega) (fun t=>SL))
 have hdg:=fun h ht=>PLift.up (yF (z:=X.z) hl hn (JR hr h) ht)
 obtain⟨z,neg,l⟩:=X
 rw[bC]
 dsimp only at*
 rw[hl] at h0 h1 h2 h3⊢
 have hgd:=ae;have ha:=ae
 generalize vB ⟨z,neg,l⟩=r at*
 rcases Nat.eq_zero_or_pos n with hz|hz
 ·subst hz
  rw[h0 rfl]
  refine ak Tryz.func128 Tryz.ntmps128 rfl ?_
  repeat' (first|apply dG|apply aF|((first|refine ay rfl (fun K hK=>?_)|refine aj (fun K hK=>?_));(first|apply cO|apply aZ|apply df|apply aT|apply aW|apply bf|apply bu|apply fK|apply bZ|apply fA|apply gJ|apply gK|apply gm|apply dP|apply dm|apply bU|apply dY);simp-dsimp(disch:=try exact vD) only[push_cast,simprocAttr];(repeat refine aI ?_);apply hK;clear hK K)|((first|refine aQ rfl rfl (fun K1 K2 h1 h2=>?_) rfl|refine aJ (fun K1 K2 h1 h2=>?_));simp-dsimp(disch:=try exact vD) only[push_cast,simprocAttr];(first|(refine⟨fun hc=>?_,fun hc=>?_⟩<;>first|(exfalso;omega)|(exfalso;contradiction)|refine h1 ?_|refine h2 ?_)|refine h1 ?_|refine h2 ?_);all_goals clear h1 h2 K1 K2)|apply dH|apply aR|apply bX|apply bz|apply aS|apply bY|apply bA|(refine aY rfl ?_)|apply bB|apply bW|apply bV|apply dF)
  all_goals(refine Ends.mk2 (by first|exact .inr rfl|exact .inl rfl) [] ?_;simp-dsimp(disch:=try exact vD) only[push_cast,simprocAttr,Tryz.f128];try exact zqF)
 ·obtain⟨n,rfl⟩:∃m,n=m+1:=⟨_,(Nat.succ_pred_eq_of_pos hz).symm⟩
  rw[Nat.add_sub_cancel] at h1 h2 h3
  have hn0:¬n+1=0:=by omega
  rcases Decidable.em (l.getD n default=0) with hgd|hgd
  ·rw[h1 hn0 (.inl hgd)]
   refine ak Tryz.func128 Tryz.ntmps128 rfl ?_
   repeat' (first|apply dG|apply aF|((first|refine ay rfl (fun K hK=>?_)|refine aj (fun K hK=>?_));(first|apply cO|apply aZ|apply df|apply aT|apply aW|apply bf|apply bu|apply fK|apply bZ|apply fA|apply gJ|apply gK|apply gm|apply dP|apply dm|apply bU|apply dY);simp-dsimp(disch:=try exact vD) only[push_cast,simprocAttr,hgd,a1s];(repeat refine aI ?_);apply hK;clear hK K)|((first|refine aQ rfl rfl (fun K1 K2 h1 h2=>?_) rfl|refine aJ (fun K1 K2 h1 h2=>?_));simp-dsimp(disch:=try exact vD) only[push_cast,simprocAttr,hgd,a1s];(first|(refine⟨fun hc=>?_,fun hc=>?_⟩<;>first|(exfalso;omega)|(exfalso;contradiction)|refine h1 ?_|refine h2 ?_)|refine h1 ?_|refine h2 ?_);all_goals clear h1 h2 K1 K2)|apply dH|apply aR|apply bX|apply bz|apply aS|apply bY|apply bA|(refine aY rfl ?_)|apply bB|apply bW|apply bV|apply dF)
   all_goals(refine Ends.mk2 (by first|exact .inr rfl|exact .inl rfl) [] ?_;simp-dsimp(disch:=try exact vD) only[push_cast,simprocAttr,Tryz.f128];try exact zqF)
  ·rcases Nat.lt_or_ge 34 (n+1) with hlen|hlen
   ·rw[h1 hn0 (.inr hlen)]
    refine ak Tryz.func128 Tryz.ntmps128 rfl ?_
    repeat' (first|apply dG|apply aF|((first|refine ay rfl (fun K hK=>?_)|refine aj (fun K hK=>?_));(first|apply cO|apply aZ|apply df|apply aT|apply aW|apply bf|apply bu|apply fK|apply bZ|apply fA|apply gJ|apply gK|apply gm|apply dP|apply dm|apply bU|apply dY);simp-dsimp(disch:=try exact vD) only[push_cast,simprocAttr,hgd,a1s];(repeat refine aI ?_);apply hK;clear hK K)|((first|refine aQ rfl rfl (fun K1 K2 h1 h2=>?_) rfl|refine aJ (fun K1 K2 h1 h2=>?_));simp-dsimp(disch:=try exact vD) only[push_cast,simprocAttr,hgd,a1s];(first|(refine⟨fun hc=>?_,fun hc=>?_⟩<;>first|(exfalso;omega)|(exfalso;contradiction)|refine h1 ?_|refine h2 ?_)|refine h1 ?_|refine h2 ?_);all_goals clear h1 h2 K1 K2)|apply dH|apply aR|apply bX|apply bz|apply aS|apply bY|apply bA|(refine aY rfl ?_)|apply bB|apply bW|apply bV|apply dF)
    all_goals(refine Ends.mk2 (by first|exact .inr rfl|exact .inl rfl) [] ?_;simp-dsimp(disch:=try exact vD) only[push_cast,simprocAttr,Tryz.f128];try exact zqF)
   ·have hn1:¬(l.getD n 0=0∨34<n+1):=fun h=>h.elim hgd fun h=>by omega
    rcases Bool.eq_false_or_eq_true (l.any fun y=>decide (1000000000≤y)) with ha|ha
    ·rw[h2 hn0 hn1 ha]
     rw[ha] at hco
     refine ak Tryz.func128 Tryz.ntmps128 rfl ?_
     repeat' (first|apply dG|apply aF|((first|refine ay rfl (fun K hK=>?_)|refine aj (fun K hK=>?_));(first|refine ah (f:=148) [] 0 false ?_);simp-dsimp(disch:=try exact vD) only[push_cast,simprocAttr,hgd,a1s];(repeat refine aI ?_);intro G hG;refine hG _ _ ?_;clear hG G;(first|refine⟨_,_,hco.down,?_⟩);simp-dsimp(disch:=try exact vD) only[push_cast,simprocAttr,hgd,a1s];(repeat refine aI ?_);apply hK;clear hK K)|((first|refine ay rfl (fun K hK=>?_)|refine aj (fun K hK=>?_));(first|apply cO|apply aZ|apply df|apply aT|apply aW|apply bf|apply bu|apply fK|apply bZ|apply fA|apply gJ|apply gK|apply gm|apply dP|apply dm|apply bU|apply dY);simp-dsimp(disch:=try exact vD) only[push_cast,simprocAttr,hgd,a1s];(repeat refine aI ?_);apply hK;clear hK K)|((first|refine aQ rfl rfl (fun K1 K2 h1 h2=>?_) rfl|refine aJ (fun K1 K2 h1 h2=>?_));simp-dsimp(disch:=try exact vD) only[push_cast,simprocAttr,hgd,a1s];(first|(refine⟨fun hc=>?_,fun hc=>?_⟩<;>first|(exfalso;omega)|(exfalso;contradiction)|refine h1 ?_|refine h2 ?_)|refine h1 ?_|refine h2 ?_);all_goals clear h1 h2 K1 K2)|apply dH|apply aR|apply bX|apply bz|apply aS|apply bY|apply bA|(refine aY rfl ?_)|apply bB|apply bW|apply bV|apply dF)
     all_goals(refine Ends.mk2 (by first|exact .inr rfl|exact .inl rfl) [] ?_;simp-dsimp(disch:=try exact vD) only[push_cast,simprocAttr,Tryz.f128];try exact zqF)
    ·have ha2:¬(l.any fun y=>decide (1000000000≤y))=true:=by rw[ha];simp
     rw[h3 hn0 hn1 ha2]
     have hdg:=hdg ha2 (.inr (by rw[hl];exact hgd))
     rw[ha] at hco
     have e:decide (dg9 l≤300)=decide (((dg9 l:Nat):Int)≤300):=decide_eq_decide.2 (by omega)
     rw[e]
     generalize dg9 l=dd at*
     refine ak Tryz.func128 Tryz.ntmps128 rfl ?_
     repeat' (first|apply dG|apply aF|((first|refine ay rfl (fun K hK=>?_)|refine aj (fun K hK=>?_));(first|refine ah (f:=148) [] 0 false ?_|refine ah (f:=150) [] 0 false ?_);simp-dsimp(disch:=try exact vD) only[push_cast,simprocAttr,hgd,a1s];(repeat refine aI ?_);intro G hG;refine hG _ _ ?_;clear hG G;(first|refine⟨_,_,hco.down,?_⟩|refine⟨_,_,hdg.down,?_⟩);simp-dsimp(disch:=try exact vD) only[push_cast,simprocAttr,hgd,a1s];(repeat refine aI ?_);apply hK;clear hK K)|((first|refine ay rfl (fun K hK=>?_)|refine aj (fun K hK=>?_));(first|apply cO|apply aZ|apply df|apply aT|apply aW|apply bf|apply bu|apply fK|apply bZ|apply fA|apply gJ|apply gK|apply gm|apply dP|apply dm|apply bU|apply dY);simp-dsimp(disch:=try exact vD) only[push_cast,simprocAttr,hgd,a1s];(repeat refine aI ?_);apply hK;clear hK K)|((first|refine aQ rfl rfl (fun K1 K2 h1 h2=>?_) rfl|refine aJ (fun K1 K2 h1 h2=>?_));simp-dsimp(disch:=try exact vD) only[push_cast,simprocAttr,hgd,a1s];(first|(refine⟨fun hc=>?_,fun hc=>?_⟩<;>first|(exfalso;omega)|(exfalso;contradiction)|refine h1 ?_|refine h2 ?_)|refine h1 ?_|refine h2 ?_);all_goals clear h1 h2 K1 K2)|apply dH|apply aR|apply bX|apply bz|apply aS|apply bY|apply bA|(refine aY rfl ?_)|apply bB|apply bW|apply bV|apply dF)
     all_goals(refine Ends.mk2 (by first|exact .inr rfl|exact .inl rfl) [] ?_;simp-dsimp(disch:=try exact vD) only[push_cast,simprocAttr,Tryz.f128];try exact zqF)
