/- Lr1. No condition. -/
import Derived.Test.YtcbginhpibfgaaaGreatDoorLp14
set_option linter.all false
set_option maxHeartbeats 4000000
set_option maxRecDepth 20000
namespace Go.Proofs.YtcbginhpibfgaaaGreatDoor
open Go Go.Sy Go.Bp Go.Lm
attribute [local irreducible] AO AL AC OpT ACall Ends DGo bK Thn Blk Nxt
variable {n N M k i m j r q:Nat} {z z' zq zr neg nx ny:Bool} {l a b u vl L R T Q Lx Ly:List Int} {v x y d f g c rv e:Int} {W W2 X Y:IV}
theorem EZ(hl:l.length=n)(hn:n<2^47):ACall Tryz.prog 123 [.isl z (cI .u32 l) n] [] 0 (.isl z (cI .u32 (l.take (trN l n))) (trN l n)) []:=by
 have zx2:cI .u32 (l.take n)=cI .u32 l:=by rw[←hl,List.take_length]
 have zx1:=ae;have hle:=vg (l:=l) (j:=n)
 refine ak Tryz.func123 Tryz.ntmps123 rfl ?_
 have zx3:= @Xr;have zx4:= @aeS;have zx5:= @a1s;have zx6:=aC;repeat' (first|(refine ai ?_;refine au [] ([].length) (trI z l n) (fun j=>j.val) (⟨n,Nat.le_refl _,rfl⟩) rfl (by unfold trI;exact gY) ?_;(rintro⟨j,hj,ht⟩;rcases Nat.eq_zero_or_pos j with h0|h0<;>first|(subst h0;(simp-dsimp only[trI];refine zqS ?_))|(obtain⟨j,rfl⟩:∃j',j=j'+1:=⟨j-1,by omega⟩;have hjl:j<l.length:=(by omega);rcases Decidable.em (l.getD j default=0) with zx1|zx1<;>(simp-dsimp only[trI];refine zqS ?_))))|(refine ax ?_;refine Nxt.mk [] (⟨j,by omega,by rw[←LH zx1];exact ht⟩) rfl (by unfold trI;exact gY) zqO)|refine zqN ?_|refine kE ?_|refine AX ?_|refine AY ?_|refine AZ ?_|refine kF ?_|(refine kG ?_ ?_<;>intro hc<;>try exact zqM))
 all_goals first
  |(rw[aeL] at ht;rw[←ht];(refine Ends.mk2 zqI [] ?_;simp-dsimp(disch:=try exact vD) only[push_cast,simprocAttr,Tryz.f123];try exact zqF);done)
  |(rw[LJ zx1] at ht;rw[←ht];(refine Ends.mk2 zqI [] ?_;simp-dsimp(disch:=try exact vD) only[push_cast,simprocAttr,Tryz.f123];try exact zqF);done)
  |skip
theorem SX(hl:l.length=n)(hn:n<2^47):ACall Tryz.prog 123 [.sl 0 0 n 1] [.cells (cI .u32 l) 115] 0 (.isl false (cI .u32 (l.take (trN l n))) (trN l n)) []:=
 ACall.own (args':=[.isl false (cI .u32 l) n]) (by rw[uV];trivial) (by simp[bT,aeU hl]) (by simp[bnd,uV]) (EZ hl hn)
theorem wO(hi:Lim l)(hl:l.length=n)(hn:n<2^47):ACall Tryz.prog 123 [.isl z (cI .u32 l) n] [] 0 (.isl z (cI .u32 (lb (val l).toNat)) (lb (val l).toNat).length) []:=by
 have h:=EZ (z:=z) hl hn
 have e:=jK hi;have e2:=jL hi
 rw[hl] at e e2
 rw[e,←e2] at h;exact h
theorem IJ(hi:Lim l)(hl:l.length=n)(hn:n<2^47):ACall Tryz.prog 123 [.sl 0 0 n 1] [.cells (cI .u32 l) 115] 0 (.isl false (cI .u32 (lb (val l).toNat)) (lb (val l).toNat).length) []:=by
 have h:=SX hl hn
 have e:=jK hi;have e2:=jL hi
 rw[hl] at e e2
 rw[e,←e2] at h;exact h
def rdI(T:Nat)(p:{p:Nat×Nat // p.1+dgs p.2=T∧p.2<1000000000}):St:=
 ⟨25,0,[(3,.val (.int .i64 p.val.1)),(4,.val (.int .u32 p.val.2))],[]⟩
theorem SY(hl:l.length=0):ACall Tryz.prog 121 [.isl z (cI .u32 l) 0] [] 0 (.val (.int .i64 (dg9 l))) []:=by
 rw[Xp hl]
 refine ak Tryz.func121 Tryz.ntmps121 rfl ?_
 repeat' (first|refine zqN ?_|refine aK ?_|refine aL ?_|(refine aM ?_ ?_<;>intro hc<;>try exact zqM))
 all_goals(refine Ends.mk2 zqI [] ?_;simp-dsimp(disch:=try exact vD) only[push_cast,simprocAttr,Tryz.f121];try exact zqF)
theorem S9(hl:l.length=n+1)(hn:n<2^47)(hi:Lim l):ACall Tryz.prog 121 [.isl z (cI .u32 l) (n+1)] [] 0 (.val (.int .i64 (dg9 l))) []:=by
 have hr:=hi.at n
 rw[LY (by omega),hl,Nat.add_sub_cancel]
 obtain⟨w,hw2⟩:∃w:Nat,l.getD n 0=w:=Int.eq_ofNat_of_zero_le hr.1
 rw[hw2] at hr⊢
 have zx1:l.getD n default=w:=hw2
 rw[Int.toNat_natCast]
 obtain⟨T,hT⟩:∃T,9*n+dgs w=T:=⟨_,rfl⟩
 rw[hT]
 have h0:9*n+dgs w=T∧w<1000000000:=⟨hT,by omega⟩
 have hT50:T<2^52:=by have:=aeR (u:=w) (by omega);omega
 have zx3:((9*n:Nat):Int)=9*(n:Int):=by omega
 refine ak Tryz.func121 Tryz.ntmps121 rfl ?_
 have zx2:= @a1s;repeat' (first|(refine ai ?_;refine au [] ([].length) (rdI T) (fun p=>p.val.2) (⟨(9*n,w),h0⟩) rfl (by unfold rdI;exact eQ) ?_;(rintro⟨⟨p,u⟩,h1,h2⟩;dsimp only at h1 h2;rcases Nat.eq_zero_or_pos u with hu|hu<;>first|(subst hu;(simp-dsimp only[rdI];refine zqS ?_))|(have hds:=akZ hu;(simp-dsimp only[rdI];refine zqS ?_))))|(refine ax ?_;refine Nxt.mk [] (⟨(p+1,u/10),by dsimp only;omega,by dsimp only;omega⟩) rfl (by unfold rdI;exact eQ) zqO)|refine zqN ?_|refine bM ?_|refine bO ?_|(refine bP ?_ ?_<;>intro hc<;>try exact zqM))
 all_goals first
  |(rw[aeQ] at h1;have e:p=T:=(by omega);subst e;(refine Ends.mk2 zqI [] ?_;simp-dsimp(disch:=try exact vD) only[push_cast,simprocAttr,Tryz.f121];try exact zqF);done)
  |skip
theorem E5(hl:l.length=n)(hn:n<2^47)(hi:Lim l):ACall Tryz.prog 121 [.isl z (cI .u32 l) n] [] 0 (.val (.int .i64 (dg9 l))) []:=by
 subst hl
 rcases Nat.eq_zero_or_pos l.length with h0|h0
 ·rw[h0];exact SY h0
 ·obtain⟨q,hq⟩:∃q,l.length=q+1:=⟨_,(Nat.succ_pred_eq_of_pos h0).symm⟩
  rw[hq] at hn⊢
  exact S9 hq (by omega) hi
theorem adj{L:List Int} {dd:Nat}(hl:l.length=n)(hn:n<2^30)(ht:ACall Tryz.prog 123 [.sl 0 0 n 1] [.cells (cI .u32 l) 115] 0 (.isl false (cI .u32 L) L.length) [])(hd:ACall Tryz.prog 121 [.isl false (cI .u32 L) L.length] [] 0 (.val (.int .i64 (dd:Int))) [])
 (hg:¬dd≤300):ACall Tryz.prog 92 [.val (.bool neg),.isl z (cI .u32 l) n] [] 0 (.tup [.agg [.val (.bool false),.isl true [] 0],.val (.int .i64 3)]) []:=by
 have ht:=PLift.up ht;have hd:=PLift.up hd
 refine ak Tryz.func92 Tryz.ntmps92 rfl ?_
 repeat' (first|refine zqN ?_|((first|refine ay rfl (fun K hK=>?_)|refine aj (fun K hK=>?_));(first|refine ah (f:=123) [2] 0 false ?_|refine ah (f:=121) [] 0 false ?_);refine jP ?_;(first|refine⟨_,_,ht.down,?_⟩|refine⟨_,_,hd.down,?_⟩);refine gD ?_;apply hK;clear hK K)|refine aK ?_|refine iy ?_|refine iA ?_|refine iB ?_|refine aL ?_|(refine aM ?_ ?_<;>intro hc<;>try exact zqM))
 all_goals first
  |((refine Ends.mk2 zqI [] ?_;simp-dsimp(disch:=try exact vD) only[push_cast,simprocAttr,Tryz.f92,lG];try exact zqF);done)
  |skip
theorem adk{L:List Int} {dd:Nat}(hl:l.length=n)(hn:n<2^30)(ht:ACall Tryz.prog 123 [.sl 0 0 n 1] [.cells (cI .u32 l) 115] 0 (.isl false (cI .u32 L) L.length) [])(hd:ACall Tryz.prog 121 [.isl false (cI .u32 L) L.length] [] 0 (.val (.int .i64 (dd:Int))) [])
 (hg:dd≤300) (h0:L=[]):ACall Tryz.prog 92 [.val (.bool neg),.isl z (cI .u32 l) n] [] 0 (.tup [.agg [.val (.bool false),.isl true [] 0],.val (.int .i64 0)]) []:=by
 subst h0
 rw[lG,List.length_nil] at ht hd
 have ht:=PLift.up ht;have hd:=PLift.up hd
 refine ak Tryz.func92 Tryz.ntmps92 rfl ?_
 repeat' (first|refine zqN ?_|((first|refine ay rfl (fun K hK=>?_)|refine aj (fun K hK=>?_));(first|refine ah (f:=123) [2] 0 false ?_|refine ah (f:=121) [] 0 false ?_);refine jP ?_;(first|refine⟨_,_,ht.down,?_⟩|refine⟨_,_,hd.down,?_⟩);refine gD ?_;apply hK;clear hK K)|refine aK ?_|refine iy ?_|refine iA ?_|refine iB ?_|refine aL ?_|(refine aM ?_ ?_<;>intro hc<;>try exact zqM))
 all_goals first
  |((refine Ends.mk2 zqI [] ?_;simp-dsimp(disch:=try exact vD) only[push_cast,simprocAttr,Tryz.f92,lG];try exact zqF);done)
  |skip
theorem adl{L:List Int} {dd:Nat}(hl:l.length=n)(hn:n<2^30)(ht:ACall Tryz.prog 123 [.sl 0 0 n 1] [.cells (cI .u32 l) 115] 0 (.isl false (cI .u32 L) L.length) [])(hd:ACall Tryz.prog 121 [.isl false (cI .u32 L) L.length] [] 0 (.val (.int .i64 (dd:Int))) [])
 (hg:dd≤300) (h0:0<L.length):ACall Tryz.prog 92 [.val (.bool neg),.isl z (cI .u32 l) n] [] 0 (.tup [.agg [.val (.bool neg),.isl false (cI .u32 L) L.length],.val (.int .i64 0)]) []:=by
 have ht:=PLift.up ht;have hd:=PLift.up hd
 refine ak Tryz.func92 Tryz.ntmps92 rfl ?_
 repeat' (first|refine zqN ?_|((first|refine ay rfl (fun K hK=>?_)|refine aj (fun K hK=>?_));(first|refine ah (f:=123) [2] 0 false ?_|refine ah (f:=121) [] 0 false ?_);refine jP ?_;(first|refine⟨_,_,ht.down,?_⟩|refine⟨_,_,hd.down,?_⟩);refine gD ?_;apply hK;clear hK K)|refine aK ?_|refine iy ?_|refine iA ?_|refine iB ?_|refine aL ?_|(refine aM ?_ ?_<;>intro hc<;>try exact zqM))
 all_goals first
  |((refine Ends.mk2 zqI [] ?_;simp-dsimp(disch:=try exact vD) only[push_cast,simprocAttr,Tryz.f92];try exact zqF);done)
  |skip
theorem nE(hi:Lim l)(hl:l.length=n)(hn:n<2^30)(hv:sg neg (val l)=v):ACall Tryz.prog 92 [.val (.bool neg),.isl z (cI .u32 l) n] [] 0 (rV v) []:=by
 have hv0:=(bJ hi).1
 have ht:=IJ hi hl (by omega)
 have hlen:(lb (val l).toNat).length≤n:=by rw[jL hi,hl];exact vg
 have hd:=E5 (z:=false) (l:=lb (val l).toNat) rfl (by omega) lim_lb
 have hab:v.natAbs=(val l).toNat:=by rw[←hv,JW];omega
 have hdd:=EQ (n:=(val l).toNat) (m:=300)
 unfold rV rI rE
 by_cases h:v.natAbs<10^300
 ·rw[if_pos h,if_pos h]
  rw[hab] at h
  have hg:=hdd.2 h
  by_cases h0:v=0
  ·have e:iC v=⟨true,false,[]⟩:=by rw[h0];rfl
   rw[e,bC]
   refine adk hl hn ht hd hg ?_
   rw[←hab,h0];rfl
  ·have hne:0<(lb (val l).toNat).length:=Nat.pos_of_ne_zero fun hc=>h0 (by
    have:=iE.1 (List.length_eq_zero_iff.1 hc);omega)
   have e:iC v=⟨false,neg,lb (val l).toNat⟩:=by
    unfold iC iV
    rw[hab]
    have e1:(v==0)=false:=by simpa using h0
    have e2:decide (v<0)=neg:=by
     rw[←hv]
     unfold sg
     cases neg with
     |true=>rw[if_pos rfl];exact decide_eq_true (by omega)
     |false=>rw[if_neg (by simp)];exact decide_eq_false (by omega)
    rw[e1,e2]
   rw[e,bC]
   exact adl hl hn ht hd hg hne
 ·rw[if_neg h,if_neg h]
  exact adj hl hn ht hd fun hc=>h (by rw[hab];exact hdd.1 hc)
theorem rA(hi:Lim l)(hl:l.length=n)(hn:n<2^30)(hv:sg neg (val l)=v)(hd:D300 v):ACall Tryz.prog 92 [.val (.bool neg),.isl z (cI .u32 l) n] [] 0 (.tup [.agg (aa.cells (iC v)),.val (.int .i64 0)]) []:=by
 have:=nE (z:=z) hi hl hn hv
 unfold rV at this
 rw[ow hd,oz hd] at this;exact this
theorem Me{a1 a2 a3:Int}(hL:Lim [a1,a2,a3])(hv:sg neg (val [a1,a2,a3])=v)(hd:D300 v):ACall Tryz.prog 92 [.val (.bool neg),.sl 0 0 3 1] [.cells [.val (.int .u32 a1),.val (.int .u32 a2),.val (.int .u32 a3)] 115] 0 (.tup [.agg (aa.cells (iC v)),.val (.int .i64 0)]) []:=
 ACall.own (args':=[.val (.bool neg),.isl false (cI .u32 [a1,a2,a3]) 3]) (by simp[bnd]) (by simp[bT];rfl) (by simp[bnd,uV]) (rA (z:=false) (neg:=neg) (l:=[a1,a2,a3]) (n:=3) (v:=v) hL rfl (by decide) hv hd)
theorem JZ(h1: -9223372036854775808≤v)(h2:v≤9223372036854775807):ACall Tryz.prog 88 [.val (.int .i64 v)] [] 0 (.agg (aa.cells (iC v))) []:=by
 have hd:D300 v:=by
  have:(9223372036854775808:Nat)<10^300:=by decide+kernel
  unfold D300;omega
 have hL:∀m:Int,0≤m→m≤9223372036854775808→Lim [m%1000000000,m/1000000000%1000000000,m/1000000000/1000000000]∧val [m%1000000000,m/1000000000%1000000000,m/1000000000/1000000000]=m:=fun m h1 h2=>
  ⟨((Lim.nil.cons (by omega)).cons (by omega)).cons (by omega),by simp only[fq,jI];omega⟩
 by_cases hn:v<0
 ·obtain⟨m,hm⟩:∃m,m= -v:=⟨_,rfl⟩
  obtain⟨g1,g2⟩:=hL m (by omega) (by omega)
  have hr:=PLift.up (Me (neg:=decide (v<0)) g1 (by rw[g2,decide_eq_true hn];show-m=v;omega) hd)
  have w1:IntKind.wrap .u64 v=v+18446744073709551616:=by
   have:IntKind.wrap .u64 v=v%18446744073709551616:=by simp[IntKind.wrap,IntKind.bits,IntKind.signed]
   rw[this];omega
  have w2:IntKind.wrap .u64 (0-(v+18446744073709551616))=m:=by
   have:IntKind.wrap .u64 (0-(v+18446744073709551616))=(0-(v+18446744073709551616))%18446744073709551616:=by simp[IntKind.wrap,IntKind.bits,IntKind.signed]
   rw[this];omega
  have w3:IntKind.wrap .u64 (-(v+18446744073709551616))=m:=by rw[←w2];congr 1;omega
  clear hd g1 g2 hL
  refine ak Tryz.func88 Tryz.ntmps88 rfl ?_
  repeat' (first|apply dG|apply aF|((first|refine ay rfl (fun K hK=>?_)|refine aj (fun K hK=>?_));(first|refine ah (f:=92) [1] 0 false ?_);simp-dsimp(disch:=try exact vD) only[push_cast,simprocAttr,w1,w2,w3];(repeat refine aI ?_);intro G hG;refine hG _ _ ?_;clear hG G;(first|refine⟨_,_,hr.down,?_⟩);simp-dsimp(disch:=try exact vD) only[push_cast,simprocAttr,w1,w2,w3];(repeat refine aI ?_);apply hK;clear hK K)|((first|refine ay rfl (fun K hK=>?_)|refine aj (fun K hK=>?_));(first|apply cO|apply aZ|apply df|apply aT|apply gJ|apply gK|apply eX|apply fu|apply eG|apply aX|apply dK|apply dY);simp-dsimp(disch:=try exact vD) only[push_cast,simprocAttr,w1,w2,w3];(repeat refine aI ?_);apply hK;clear hK K)|((first|refine aQ rfl rfl (fun K1 K2 h1 h2=>?_) rfl|refine aJ (fun K1 K2 h1 h2=>?_));simp-dsimp(disch:=try exact vD) only[push_cast,simprocAttr,w1,w2,w3];(first|(refine⟨fun hc=>?_,fun hc=>?_⟩<;>first|(exfalso;omega)|(exfalso;contradiction)|refine h1 ?_|refine h2 ?_)|refine h1 ?_|refine h2 ?_);all_goals clear h1 h2 K1 K2)|apply dH|apply aR|apply bX|apply bz|apply aS|apply bY|apply bA|(refine aY rfl ?_)|apply bB|apply bW|apply bV|apply dF)
  all_goals first
   |((refine Ends.mk2 (by first|exact .inr rfl|exact .inl rfl) [] ?_;simp-dsimp(disch:=try exact vD) only[push_cast,simprocAttr,Tryz.f88];try exact zqF);done)
   |skip
 ·obtain⟨g1,g2⟩:=hL v (by omega) (by omega)
  have hr:=PLift.up (Me (neg:=decide (v<0)) g1 (by rw[g2,decide_eq_false hn];rfl) hd)
  clear hd g1 g2 hL
  refine ak Tryz.func88 Tryz.ntmps88 rfl ?_
  repeat' (first|apply dG|apply aF|((first|refine ay rfl (fun K hK=>?_)|refine aj (fun K hK=>?_));(first|refine ah (f:=92) [1] 0 false ?_);simp-dsimp(disch:=try exact vD) only[push_cast,simprocAttr];(repeat refine aI ?_);intro G hG;refine hG _ _ ?_;clear hG G;(first|refine⟨_,_,hr.down,?_⟩);simp-dsimp(disch:=try exact vD) only[push_cast,simprocAttr];(repeat refine aI ?_);apply hK;clear hK K)|((first|refine ay rfl (fun K hK=>?_)|refine aj (fun K hK=>?_));(first|apply cO|apply aZ|apply df|apply aT|apply gJ|apply gK|apply eX|apply fu|apply eG|apply aX|apply dK|apply dY);simp-dsimp(disch:=try exact vD) only[push_cast,simprocAttr];(repeat refine aI ?_);apply hK;clear hK K)|((first|refine aQ rfl rfl (fun K1 K2 h1 h2=>?_) rfl|refine aJ (fun K1 K2 h1 h2=>?_));simp-dsimp(disch:=try exact vD) only[push_cast,simprocAttr];(first|(refine⟨fun hc=>?_,fun hc=>?_⟩<;>first|(exfalso;omega)|(exfalso;contradiction)|refine h1 ?_|refine h2 ?_)|refine h1 ?_|refine h2 ?_);all_goals clear h1 h2 K1 K2)|apply dH|apply aR|apply bX|apply bz|apply aS|apply bY|apply bA|(refine aY rfl ?_)|apply bB|apply bW|apply bV|apply dF)
  all_goals first
   |((refine Ends.mk2 (by first|exact .inr rfl|exact .inl rfl) [] ?_;simp-dsimp(disch:=try exact vD) only[push_cast,simprocAttr,Tryz.f88];try exact zqF);done)
   |skip
theorem aiG{b2:Bool}(hb:X.neg= !b2)(hr:ACall Tryz.prog 92 [.val (.bool b2),.isl X.z (cI .u32 X.l) X.l.length] [] 0 (.tup [.agg (aa.cells W),.val (.int .i64 e)]) []):ACall Tryz.prog 94 [.agg (aa.cells X)] [] 0 (.agg (aa.cells W)) []:=by
 have hr:=PLift.up hr
 rw[bC X,hb]
 cases b2
 all_goals(refine ak Tryz.func94 Tryz.ntmps94 rfl ?_)
 all_goals repeat' (first|refine zqN ?_|refine az hr.down ?_|refine aK ?_|refine aL ?_|(refine aM ?_ ?_<;>intro hc<;>try exact zqM))
 all_goals first
  |((refine Ends.mk2 zqI [] ?_;simp-dsimp(disch:=try exact vD) only[push_cast,simprocAttr,Tryz.f94];try exact zqF);done)
  |skip
theorem J2(h:D300 v):ACall Tryz.prog 94 [.agg (aa.cells (iV z v))] [] 0 (.agg (aa.cells (iC (-v)))) []:=by
 have hf:=h.few
 refine aiG (b2:= !decide (v<0)) (e:=0) (by show decide (v<0)=_;rw[Bool.not_not]) (rA (l:=lb v.natAbs) lim_lb rfl (by show(lb v.natAbs).length<_;omega) ?_ (by unfold D300;rw[Int.natAbs_neg];exact h))
 rw[aU];unfold sg
 by_cases hv:v<0
 ·rw[decide_eq_true hv];show(if false=true then _ else _)=_;rw[if_neg (by simp)];omega
 ·rw[decide_eq_false hv];show(if true=true then _ else _)=_;rw[if_pos rfl];omega
theorem jN:ACall Tryz.prog 90 [.agg (aa.cells (iV z v))] [] 0 (.val (.int .i64 (sgn v))) []:=by
 have hl:(lb v.natAbs).length=0↔v=0:=by rw[List.length_eq_zero_iff,iE];omega
 unfold iV
 obtain⟨L,hL⟩:∃L,lb v.natAbs=L:=⟨_,rfl⟩
 rw[hL] at hl⊢
 have hn:=ae;have zx1:=ae
 rcases Int.lt_trichotomy v 0 with h|h|h
 ·have e:sgn v= -1:=by unfold sgn;rw[if_neg (by omega),if_pos h]
  have hn:decide (v<0)=true:=decide_eq_true h
  have zx1:¬L.length=0:=fun h2=>by have:=hl.1 h2;omega
  rw[e,hn]
  refine ak Tryz.func90 Tryz.ntmps90 rfl ?_
  have zx2:=aC;have zx3:=aC;repeat' (first|refine zqN ?_|refine bM ?_|refine bO ?_|(refine bP ?_ ?_<;>intro hc<;>try exact zqM))
  all_goals(refine Ends.mk2 zqI [] ?_;simp-dsimp(disch:=try exact vD) only[push_cast,simprocAttr,Tryz.f90];try exact zqF)
 ·have e:sgn v=0:=by unfold sgn;rw[if_pos h]
  have zx1:L.length=0:=hl.2 h
  rw[e]
  refine ak Tryz.func90 Tryz.ntmps90 rfl ?_
  have zx2:=aC;have zx3:=aC;repeat' (first|refine zqN ?_|refine bM ?_|refine bO ?_|(refine bP ?_ ?_<;>intro hc<;>try exact zqM))
  all_goals(refine Ends.mk2 zqI [] ?_;simp-dsimp(disch:=try exact vD) only[push_cast,simprocAttr,Tryz.f90];try exact zqF)
 ·have e:sgn v=1:=by unfold sgn;rw[if_neg (by omega),if_neg (by omega)]
  have hn:decide (v<0)=false:=decide_eq_false (by omega)
  have zx1:¬L.length=0:=fun h2=>by have:=hl.1 h2;omega
  rw[e,hn]
  refine ak Tryz.func90 Tryz.ntmps90 rfl ?_
  have zx2:=aC;have zx3:=aC;repeat' (first|refine zqN ?_|refine bM ?_|refine bO ?_|(refine bP ?_ ?_<;>intro hc<;>try exact zqM))
  all_goals(refine Ends.mk2 zqI [] ?_;simp-dsimp(disch:=try exact vD) only[push_cast,simprocAttr,Tryz.f90];try exact zqF)
theorem J4(ha:Lim a)(hb:Lim b)(hta:Tr a)(htb:Tr b)(hl:a.length=n)(hm:b.length=m)(hn:n<2^47)(hn2:m<2^47)(hne:¬n=m):ACall Tryz.prog 126 [.isl z (cI .u32 a) n,.isl z' (cI .u32 b) m] [] 0 (.val (.int .i64 (oh a b))) []:=by
 have zx1:((n:Int)=m)=False:=eq_false (by omega)
 rcases Nat.lt_or_ge n m with h|h
 ·rw[ES (yD ha hb htb (by omega))]
  refine ak Tryz.func126 Tryz.ntmps126 rfl ?_
  have zx2:=aC;have zx3:=aC;repeat' (first|refine zqN ?_|refine bM ?_|refine bO ?_|(refine bP ?_ ?_<;>intro hc<;>try exact zqM)|refine zqR 8 [⟨0,[],[24,27,28,29,30],[],[],0⟩,⟨1,[],[23,27,28,29,30],[],[],0⟩,⟨2,[0,1],[27,28,29,30],[],[],0⟩,⟨3,[0,1,2],[27,28,29,30],[],[],0⟩,⟨4,[],[23,24,25,26,28],[],[],0⟩,⟨5,[],[23,24,25,26,27],[],[],0⟩,⟨6,[4,5],[23,24,25,26],[],[],0⟩,⟨7,[4,5,6],[23,24,25,26],[],[],0⟩,⟨8,[0,1,2,3,4,5,6,7],[],[],[],0⟩] ?_|refine zqR 10 [⟨0,[],[33,36,37,38,39],[],[],0⟩,⟨1,[],[32,36,37,38,39],[],[],0⟩,⟨2,[0,1],[36,37,38,39],[],[],0⟩,⟨3,[0,1,2],[36,37,38,39],[],[],0⟩,⟨4,[],[32,33,34,35,37],[],[],0⟩,⟨5,[],[32,33,34,35,36],[],[],0⟩,⟨6,[4,5],[32,33,34,35],[],[],0⟩,⟨7,[4,5,6],[32,33,34,35],[],[],0⟩,⟨8,[0,1,2,3,4,5,6,7],[],[],[],0⟩] ?_|refine zqD ?_|fail)
  all_goals(refine Ends.mk2 zqI [] ?_;simp-dsimp(disch:=try exact vD) only[push_cast,simprocAttr,Tryz.f126];try exact zqF)
 ·rw[JO (yD hb ha hta (by omega))]
  refine ak Tryz.func126 Tryz.ntmps126 rfl ?_
  have zx2:=aC;have zx3:=aC;repeat' (first|refine zqN ?_|refine bM ?_|refine bO ?_|(refine bP ?_ ?_<;>intro hc<;>try exact zqM)|refine zqR 8 [⟨0,[],[24,27,28,29,30],[],[],0⟩,⟨1,[],[23,27,28,29,30],[],[],0⟩,⟨2,[0,1],[27,28,29,30],[],[],0⟩,⟨3,[0,1,2],[27,28,29,30],[],[],0⟩,⟨4,[],[23,24,25,26,28],[],[],0⟩,⟨5,[],[23,24,25,26,27],[],[],0⟩,⟨6,[4,5],[23,24,25,26],[],[],0⟩,⟨7,[4,5,6],[23,24,25,26],[],[],0⟩,⟨8,[0,1,2,3,4,5,6,7],[],[],[],0⟩] ?_|refine zqR 10 [⟨0,[],[33,36,37,38,39],[],[],0⟩,⟨1,[],[32,36,37,38,39],[],[],0⟩,⟨2,[0,1],[36,37,38,39],[],[],0⟩,⟨3,[0,1,2],[36,37,38,39],[],[],0⟩,⟨4,[],[32,33,34,35,37],[],[],0⟩,⟨5,[],[32,33,34,35,36],[],[],0⟩,⟨6,[4,5],[32,33,34,35],[],[],0⟩,⟨7,[4,5,6],[32,33,34,35],[],[],0⟩,⟨8,[0,1,2,3,4,5,6,7],[],[],[],0⟩] ?_|refine zqD ?_|fail)
  all_goals(refine Ends.mk2 zqI [] ?_;simp-dsimp(disch:=try exact vD) only[push_cast,simprocAttr,Tryz.f126];try exact zqF)
theorem GH(ha:Lim a)(hb:Lim b)(hl:a.length=n)(hm:b.length=n)(hn:n<2^47):ACall Tryz.prog 126 [.isl z (cI .u32 a) n,.isl z' (cI .u32 b) n] [] 0 (.val (.int .i64 (oh a b))) []:=by
 have h0:n≤n∧a.drop n=b.drop n:=⟨Nat.le_refl _,by rw[List.drop_eq_nil_of_le (by omega),List.drop_eq_nil_of_le (by omega)]⟩
 have zx1:=ae;have zx2:=ae
 refine ak Tryz.func126 Tryz.ntmps126 rfl ?_
 have zx3:= @a1s;repeat' (first|(refine ai ?_;refine au [] ([].length) (cpI z z' a b n) (fun k=>k.val) (⟨n,h0⟩) rfl (by unfold cpI;exact eQ) ?_;(rintro⟨k,hk,hd⟩;rcases Nat.eq_zero_or_pos k with hk0|hk0<;>first|(subst hk0;(simp-dsimp only[cpI];refine zqS ?_))|(obtain⟨k,rfl⟩:∃k',k=k'+1:=⟨k-1,by omega⟩;have hka:k<a.length:=(by omega);have hkb:k<b.length:=(by omega);rcases Decidable.em (a.getD k default<b.getD k default) with zx1|zx1<;>rcases Decidable.em (b.getD k default<a.getD k default) with zx2|zx2<;>(simp-dsimp only[cpI];refine zqS ?_))))|(refine ax ?_;refine Nxt.mk [] (⟨k,by omega,Qp hka hkb hd (by omega)⟩) rfl (by unfold cpI;exact eQ) zqO)|refine zqN ?_|refine bM ?_|refine bO ?_|(refine bP ?_ ?_<;>intro hc<;>try exact zqM)|refine zqR 8 [⟨0,[],[24,27,28,29,30],[],[],0⟩,⟨1,[],[23,27,28,29,30],[],[],0⟩,⟨2,[0,1],[27,28,29,30],[],[],0⟩,⟨3,[0,1,2],[27,28,29,30],[],[],0⟩,⟨4,[],[23,24,25,26,28],[],[],0⟩,⟨5,[],[23,24,25,26,27],[],[],0⟩,⟨6,[4,5],[23,24,25,26],[],[],0⟩,⟨7,[4,5,6],[23,24,25,26],[],[],0⟩,⟨8,[0,1,2,3,4,5,6,7],[],[],[],0⟩] ?_|refine zqR 10 [⟨0,[],[33,36,37,38,39],[],[],0⟩,⟨1,[],[32,36,37,38,39],[],[],0⟩,⟨2,[0,1],[36,37,38,39],[],[],0⟩,⟨3,[0,1,2],[36,37,38,39],[],[],0⟩,⟨4,[],[32,33,34,35,37],[],[],0⟩,⟨5,[],[32,33,34,35,36],[],[],0⟩,⟨6,[4,5],[32,33,34,35],[],[],0⟩,⟨7,[4,5,6],[32,33,34,35],[],[],0⟩,⟨8,[0,1,2,3,4,5,6,7],[],[],[],0⟩] ?_|refine zqD ?_|fail)
 all_goals first
  |(rw[Xt (by simpa using hd)];(refine Ends.mk2 zqI [] ?_;simp-dsimp(disch:=try exact vD) only[push_cast,simprocAttr,Tryz.f126];try exact zqF);done)
  |(rw[ES (cmp_lt ha hb (hl.trans hm.symm) hka hd zx1)];(refine Ends.mk2 zqI [] ?_;simp-dsimp(disch:=try exact vD) only[push_cast,simprocAttr,Tryz.f126];try exact zqF);done)
  |(rw[JO (cmp_lt hb ha (hm.trans hl.symm) hkb hd.symm zx2)];(refine Ends.mk2 zqI [] ?_;simp-dsimp(disch:=try exact vD) only[push_cast,simprocAttr,Tryz.f126];try exact zqF);done)
  |skip
theorem mF(ha:Lim a)(hb:Lim b)(hta:Tr a)(htb:Tr b)(hl:a.length<2^47)(hm:b.length<2^47):ACall Tryz.prog 126 [.isl z (cI .u32 a) a.length,.isl z' (cI .u32 b) b.length] [] 0 (.val (.int .i64 (oh a b))) []:=by
 by_cases h:a.length=b.length
 ·have:=GH (z:=z) (z':=z') ha hb rfl h.symm hl
  rw[h] at this⊢;exact this
 ·exact J4 ha hb hta htb rfl rfl hl hm h
theorem adm{sx sy:Int}(hne:¬sx=sy)(hs1:ACall Tryz.prog 90 [.agg (aa.cells X)] [] 0 (.val (.int .i64 sx)) [])(hs2:ACall Tryz.prog 90 [.agg (aa.cells Y)] [] 0 (.val (.int .i64 sy)) [])(hc:c=if sx<sy then-1 else 1):
 ACall Tryz.prog 154 [.agg (aa.cells X),.agg (aa.cells Y)] [] 0 (.val (.int .i64 c)) []:=by
 have hs1:=PLift.up hs1;have hs2:=PLift.up hs2
 have zx2:=ae
 rw[bC X,bC Y]
 rcases Decidable.em (sx<sy) with zx2|zx2
 ·rw[if_pos zx2] at hc;subst hc
  refine ak Tryz.func154 Tryz.ntmps154 rfl ?_
  have zx1:= @hne;have zx3:=aC;repeat' (first|refine zqN ?_|refine bE hs1.down ?_|refine bE hs2.down ?_|refine bM ?_|refine bO ?_|(refine bP ?_ ?_<;>intro hc<;>try exact zqM)|refine zqR 1 [⟨0,[],[7],[],[],0⟩,⟨1,[0],[7],[],[],0⟩,⟨2,[],[5,6],[],[],0⟩,⟨3,[0,1,2],[],[],[],0⟩,⟨4,[0,1,2,3],[],[],[],0⟩] ?_|refine zqR 2 [⟨0,[],[12],[],[],0⟩,⟨1,[0],[12],[],[],0⟩,⟨2,[],[10,11],[],[],0⟩,⟨3,[0,1,2],[],[],[],0⟩,⟨4,[0,1,2,3],[],[],[],0⟩] ?_|refine zqR 5 [⟨0,[],[17,18,19,20],[],[],0⟩,⟨1,[0],[17,18,19,20],[],[],0⟩,⟨2,[],[15,16,19,20],[],[],0⟩,⟨3,[2],[15,16,19,20],[],[],0⟩,⟨4,[],[15,16,17,18],[],[],0⟩,⟨5,[4],[15,16,17,18],[],[],0⟩,⟨6,[0,1,2,3,4,5],[],[],[],0⟩,⟨7,[0,1,2,3,4,5,6],[],[],[],0⟩,⟨8,[0,1,2,3,4,5,6,7],[],[],[],0⟩] ?_|refine zqD ?_|fail)
  all_goals first
   |((refine Ends.mk2 zqI [] ?_;simp-dsimp(disch:=try exact vD) only[push_cast,simprocAttr,Tryz.f154];try exact zqF);done)
   |skip
 ·rw[if_neg zx2] at hc;subst hc
  refine ak Tryz.func154 Tryz.ntmps154 rfl ?_
  have zx1:= @hne;have zx3:=aC;repeat' (first|refine zqN ?_|refine bE hs1.down ?_|refine bE hs2.down ?_|refine bM ?_|refine bO ?_|(refine bP ?_ ?_<;>intro hc<;>try exact zqM)|refine zqR 1 [⟨0,[],[7],[],[],0⟩,⟨1,[0],[7],[],[],0⟩,⟨2,[],[5,6],[],[],0⟩,⟨3,[0,1,2],[],[],[],0⟩,⟨4,[0,1,2,3],[],[],[],0⟩] ?_|refine zqR 2 [⟨0,[],[12],[],[],0⟩,⟨1,[0],[12],[],[],0⟩,⟨2,[],[10,11],[],[],0⟩,⟨3,[0,1,2],[],[],[],0⟩,⟨4,[0,1,2,3],[],[],[],0⟩] ?_|refine zqR 5 [⟨0,[],[17,18,19,20],[],[],0⟩,⟨1,[0],[17,18,19,20],[],[],0⟩,⟨2,[],[15,16,19,20],[],[],0⟩,⟨3,[2],[15,16,19,20],[],[],0⟩,⟨4,[],[15,16,17,18],[],[],0⟩,⟨5,[4],[15,16,17,18],[],[],0⟩,⟨6,[0,1,2,3,4,5],[],[],[],0⟩,⟨7,[0,1,2,3,4,5,6],[],[],[],0⟩,⟨8,[0,1,2,3,4,5,6,7],[],[],[],0⟩] ?_|refine zqD ?_|fail)
  all_goals first
   |((refine Ends.mk2 zqI [] ?_;simp-dsimp(disch:=try exact vD) only[push_cast,simprocAttr,Tryz.f154];try exact zqF);done)
   |skip
theorem adn{sx c1:Int}(r1: -1≤sx∧sx≤1)(r3: -1≤c1∧c1≤1)(hs1:ACall Tryz.prog 90 [.agg (aa.cells X)] [] 0 (.val (.int .i64 sx)) [])(hs2:ACall Tryz.prog 90 [.agg (aa.cells Y)] [] 0 (.val (.int .i64 sx)) [])
 (hcm:ACall Tryz.prog 126 [.isl X.z (cI .u32 X.l) X.l.length,.isl Y.z (cI .u32 Y.l) Y.l.length] [] 0 (.val (.int .i64 c1)) []) (hc:c=sx*c1):
 ACall Tryz.prog 154 [.agg (aa.cells X),.agg (aa.cells Y)] [] 0 (.val (.int .i64 c)) []:=by
 subst hc
 have hs1:=PLift.up hs1;have hs2:=PLift.up hs2;have hcm:=PLift.up hcm
 have hp: -1≤sx*c1∧sx*c1≤1:=by
  have:sx= -1∨sx=0∨sx=1:=by omega
  rcases this with rfl|rfl|rfl<;>omega
 generalize hpp:sx*c1=pp at*
 rw[bC X,bC Y]
 refine ak Tryz.func154 Tryz.ntmps154 rfl ?_
 have zx1:= @hpp;have zx2:=aC;have zx3:=aC;repeat' (first|refine zqN ?_|refine bE hs1.down ?_|refine bE hs2.down ?_|refine bE hcm.down ?_|refine bM ?_|refine bO ?_|(refine bP ?_ ?_<;>intro hc<;>try exact zqM)|refine zqR 1 [⟨0,[],[7],[],[],0⟩,⟨1,[0],[7],[],[],0⟩,⟨2,[],[5,6],[],[],0⟩,⟨3,[0,1,2],[],[],[],0⟩,⟨4,[0,1,2,3],[],[],[],0⟩] ?_|refine zqR 2 [⟨0,[],[12],[],[],0⟩,⟨1,[0],[12],[],[],0⟩,⟨2,[],[10,11],[],[],0⟩,⟨3,[0,1,2],[],[],[],0⟩,⟨4,[0,1,2,3],[],[],[],0⟩] ?_|refine zqR 5 [⟨0,[],[17,18,19,20],[],[],0⟩,⟨1,[0],[17,18,19,20],[],[],0⟩,⟨2,[],[15,16,19,20],[],[],0⟩,⟨3,[2],[15,16,19,20],[],[],0⟩,⟨4,[],[15,16,17,18],[],[],0⟩,⟨5,[4],[15,16,17,18],[],[],0⟩,⟨6,[0,1,2,3,4,5],[],[],[],0⟩,⟨7,[0,1,2,3,4,5,6],[],[],[],0⟩,⟨8,[0,1,2,3,4,5,6,7],[],[],[],0⟩] ?_|refine zqD ?_|fail)
 all_goals first
  |((refine Ends.mk2 zqI [] ?_;simp-dsimp(disch:=try exact vD) only[push_cast,simprocAttr,Tryz.f154];try exact zqF);done)
  |skip
theorem ado(h:D300 x)(h2:D300 y):ACall Tryz.prog 154 [.agg (aa.cells (iV z x)),.agg (aa.cells (iV z' y))] [] 0 (.val (.int .i64 (gp x y))) []:=by
 by_cases he:sgn x=sgn y
 ·have hcm:=mF (z:=z) (z':=z') (a:=lb x.natAbs) (b:=lb y.natAbs) lim_lb lim_lb ic ic (by have:=h.few;omega) (by have:=h2.few;omega)
  rw[wM] at hcm
  refine adn JU L8 jN (by rw[he];exact jN) hcm ?_
  unfold sgn at*
  unfold gp
  by_cases hx:x=0
  ·rw[if_pos hx] at he⊢
   have hy:y=0:=by repeat' split at he<;>try omega
   rw[hx,hy];rfl
  ·rw[if_neg hx] at he⊢
   by_cases hx2:x<0
   ·rw[if_pos hx2] at he⊢
    have hy:y<0:=by repeat' split at he<;>try omega
    repeat' split<;>try omega
   ·rw[if_neg hx2] at he⊢
    have hy:0<y:=by repeat' split at he<;>try omega
    repeat' split<;>try omega
 ·refine adm he jN jN ?_
  by_cases hlt:sgn x<sgn y
  ·rw[if_pos hlt];exact XE hlt
  ·rw[if_neg hlt];exact XG (by omega)
theorem wP(ha:Lim a)(hl:a.length=n)(hn:n<2^47)(hi:i<2^50):ACall Tryz.prog 147 [.isl z (cI .u32 a) n,.val (.int .i64 i)] [] 0 (.val (.int .u64 (a.getD i 0))) []:=by
 have hr:=ha.at i
 rcases Nat.lt_or_ge i n with h|h
 ·refine ak Tryz.func147 Tryz.ntmps147 rfl ?_
  repeat' (first|apply dG|apply aF|((first|refine ay rfl (fun K hK=>?_)|refine aj (fun K hK=>?_));(first|apply cO|apply aZ|apply df|apply aT|apply bf|apply bu|apply fK|apply bZ|apply dK|apply dY);simp-dsimp(disch:=try exact vD) only[push_cast,simprocAttr,gd0];(repeat refine aI ?_);apply hK;clear hK K)|((first|refine aQ rfl rfl (fun K1 K2 h1 h2=>?_) rfl|refine aJ (fun K1 K2 h1 h2=>?_));simp-dsimp(disch:=try exact vD) only[push_cast,simprocAttr,gd0];(first|(refine⟨fun hc=>?_,fun hc=>?_⟩<;>first|(exfalso;omega)|(exfalso;contradiction)|refine h1 ?_|refine h2 ?_)|refine h1 ?_|refine h2 ?_);all_goals clear h1 h2 K1 K2)|apply dH|apply aR|apply bX|apply bz|apply aS|apply bY|apply bA|(refine aY rfl ?_)|apply bB|apply bW|apply bV|apply dF)
  all_goals first
   |((refine Ends.mk2 (by first|exact .inr rfl|exact .inl rfl) [] ?_;simp-dsimp(disch:=try exact vD) only[push_cast,simprocAttr,Tryz.f147];try exact zqF);done)
   |skip
 ·rw[getD_out (by omega)]
  refine ak Tryz.func147 Tryz.ntmps147 rfl ?_
  repeat' (first|apply dG|apply aF|((first|refine ay rfl (fun K hK=>?_)|refine aj (fun K hK=>?_));(first|apply cO|apply aZ|apply df|apply aT|apply bf|apply bu|apply fK|apply bZ|apply dK|apply dY);simp-dsimp(disch:=try exact vD) only[push_cast,simprocAttr];(repeat refine aI ?_);apply hK;clear hK K)|((first|refine aQ rfl rfl (fun K1 K2 h1 h2=>?_) rfl|refine aJ (fun K1 K2 h1 h2=>?_));simp-dsimp(disch:=try exact vD) only[push_cast,simprocAttr];(first|(refine⟨fun hc=>?_,fun hc=>?_⟩<;>first|(exfalso;omega)|(exfalso;contradiction)|refine h1 ?_|refine h2 ?_)|refine h1 ?_|refine h2 ?_);all_goals clear h1 h2 K1 K2)|apply dH|apply aR|apply bX|apply bz|apply aS|apply bY|apply bA|(refine aY rfl ?_)|apply bB|apply bW|apply bV|apply dF)
  all_goals first
   |((refine Ends.mk2 (by first|exact .inr rfl|exact .inl rfl) [] ?_;simp-dsimp(disch:=try exact vD) only[push_cast,simprocAttr,Tryz.f147];try exact zqF);done)
   |skip
