/- Lr1. No condition. -/
import Derived.Test.YtgmpdplpodemaaaGreatDoorLpG12
set_option linter.all false
set_option maxHeartbeats 4000000
set_option maxRecDepth 20000
namespace Go.Proofs.YtgmpdplpodemaaaGreatDoor
open Go Go.Sy Go.Bp Go.Lm
attribute [local irreducible] AO AL AC OpT ACall Ends DGo aN Thn Blk Nxt
variable {n N M k i m j r q:Nat} {z z' zq zr neg nx ny:Bool} {l a b u vl L R T Q Lx Ly:List Int} {v x y d f g c rv e:Int} {W W2 X Y:IV}
theorem DN(hl:l.length=n)(hn:n<2^47):ACall Tryz.prog 158 [.isl z (cI .u32 l) n] [] 0 (.isl z (cI .u32 (l.take (trN l n))) (trN l n)) []:=by
 have zx2:cI .u32 (l.take n)=cI .u32 l:=by rw[←hl,List.take_length]
 have zx1:=ae;have hle:=qH (l:=l) (j:=n)
 refine az Tryz.func158 Tryz.ntmps158 rfl ?_
 have zx3:= @O4;have zx4:= @Xe;have zx5:= @a1s;have zx6:=aD;repeat' (first|(refine ai ?_;refine au [] ([].length) (trI z l n) (fun j=>j.val) (⟨n,Nat.le_refl _,rfl⟩) rfl (by unfold trI;exact gG) ?_;(rintro⟨j,hj,ht⟩;rcases Nat.eq_zero_or_pos j with h0|h0<;>first|(subst h0;(simp-dsimp only[trI];refine zqS ?_))|(obtain⟨j,rfl⟩:∃j',j=j'+1:=⟨j-1,by omega⟩;have hjl:j<l.length:=(by omega);rcases Decidable.em (l.getD j default=0) with zx1|zx1<;>(simp-dsimp only[trI];refine zqS ?_))))|(refine aj ?_;refine Nxt.mk [] (⟨j,by omega,by rw[←Dj zx1];exact ht⟩) rfl (by unfold trI;exact gG) zqO)|refine zqN ?_|refine adH ?_|refine NH ?_|refine NI ?_|refine NJ ?_|refine l7 ?_|(refine l8 ?_ ?_<;>intro hc<;>try exact zqM))
 all_goals first
  |(rw[WV] at ht;rw[←ht];(refine Ends.mk2 zqI [] ?_;simp-dsimp(disch:=try exact vD) only[push_cast,simprocAttr,Tryz.f158];try exact zqF);done)
  |(rw[Dk zx1] at ht;rw[←ht];(refine Ends.mk2 zqI [] ?_;simp-dsimp(disch:=try exact vD) only[push_cast,simprocAttr,Tryz.f158];try exact zqF);done)
  |skip
theorem KT(hl:l.length=n)(hn:n<2^47):ACall Tryz.prog 158 [.sl 0 0 n 1] [.cells (cI .u32 l) 136] 0 (.isl false (cI .u32 (l.take (trN l n))) (trN l n)) []:=
 ACall.own (args':=[.isl false (cI .u32 l) n]) (by rw[qA];trivial) (by simp[bQ,Xg hl]) (by simp[bnd,qA]) (DN hl hn)
theorem xZ(hi:Lim l)(hl:l.length=n)(hn:n<2^47):ACall Tryz.prog 158 [.isl z (cI .u32 l) n] [] 0 (.isl z (cI .u32 (lb (val l).toNat)) (lb (val l).toNat).length) []:=by
 have h:=DN (z:=z) hl hn
 have e:=jr hi;have e2:=jv hi
 rw[hl] at e e2
 rw[e,←e2] at h;exact h
theorem zN(hi:Lim l)(hl:l.length=n)(hn:n<2^47):ACall Tryz.prog 158 [.sl 0 0 n 1] [.cells (cI .u32 l) 136] 0 (.isl false (cI .u32 (lb (val l).toNat)) (lb (val l).toNat).length) []:=by
 have h:=KT hl hn
 have e:=jr hi;have e2:=jv hi
 rw[hl] at e e2
 rw[e,←e2] at h;exact h
def rdI(T:Nat)(p:{p:Nat×Nat // p.1+dgs p.2=T∧p.2<1000000000}):St:=
 ⟨25,0,[(3,.val (.int .i64 p.val.1)),(4,.val (.int .u32 p.val.2))],[]⟩
theorem KU(hl:l.length=0):ACall Tryz.prog 156 [.isl z (cI .u32 l) 0] [] 0 (.val (.int .i64 (dg9 l))) []:=by
 rw[O1 hl]
 refine az Tryz.func156 Tryz.ntmps156 rfl ?_
 repeat' (first|refine zqN ?_|refine bA ?_|refine bB ?_|(refine bC ?_ ?_<;>intro hc<;>try exact zqM))
 all_goals(refine Ends.mk2 zqI [] ?_;simp-dsimp(disch:=try exact vD) only[push_cast,simprocAttr,Tryz.f156];try exact zqF)
theorem KV(hl:l.length=n+1)(hn:n<2^47)(hi:Lim l):ACall Tryz.prog 156 [.isl z (cI .u32 l) (n+1)] [] 0 (.val (.int .i64 (dg9 l))) []:=by
 have hr:=hi.at n
 rw[Du (by omega),hl,Nat.add_sub_cancel]
 obtain⟨w,hw2⟩:∃w:Nat,l.getD n 0=w:=Int.eq_ofNat_of_zero_le hr.1
 rw[hw2] at hr⊢
 have zx1:l.getD n default=w:=hw2
 rw[Int.toNat_natCast]
 obtain⟨T,hT⟩:∃T,9*n+dgs w=T:=⟨_,rfl⟩
 rw[hT]
 have h0:9*n+dgs w=T∧w<1000000000:=⟨hT,by omega⟩
 have hT50:T<2^52:=by have:=Xd (u:=w) (by omega);omega
 have zx3:((9*n:Nat):Int)=9*(n:Int):=by omega
 refine az Tryz.func156 Tryz.ntmps156 rfl ?_
 have zx2:= @a1s;repeat' (first|(refine ai ?_;refine au [] ([].length) (rdI T) (fun p=>p.val.2) (⟨(9*n,w),h0⟩) rfl (by unfold rdI;exact eH) ?_;(rintro⟨⟨p,u⟩,h1,h2⟩;dsimp only at h1 h2;rcases Nat.eq_zero_or_pos u with hu|hu<;>first|(subst hu;(simp-dsimp only[rdI];refine zqS ?_))|(have hds:=ac5 hu;(simp-dsimp only[rdI];refine zqS ?_))))|(refine aj ?_;refine Nxt.mk [] (⟨(p+1,u/10),by dsimp only;omega,by dsimp only;omega⟩) rfl (by unfold rdI;exact eH) zqO)|refine zqN ?_|refine dx ?_|refine dz ?_|(refine dA ?_ ?_<;>intro hc<;>try exact zqM))
 all_goals first
  |(rw[Xb] at h1;have e:p=T:=(by omega);subst e;(refine Ends.mk2 zqI [] ?_;simp-dsimp(disch:=try exact vD) only[push_cast,simprocAttr,Tryz.f156];try exact zqF);done)
  |skip
theorem x8(hl:l.length=n)(hn:n<2^47)(hi:Lim l):ACall Tryz.prog 156 [.isl z (cI .u32 l) n] [] 0 (.val (.int .i64 (dg9 l))) []:=by
 subst hl
 rcases Nat.eq_zero_or_pos l.length with h0|h0
 ·rw[h0];exact KU h0
 ·obtain⟨q,hq⟩:∃q,l.length=q+1:=⟨_,(Nat.succ_pred_eq_of_pos h0).symm⟩
  rw[hq] at hn⊢
  exact KV hq (by omega) hi
theorem VE{L:List Int} {dd:Nat}(hl:l.length=n)(hn:n<2^30)(ht:ACall Tryz.prog 158 [.sl 0 0 n 1] [.cells (cI .u32 l) 136] 0 (.isl false (cI .u32 L) L.length) [])(hd:ACall Tryz.prog 156 [.isl false (cI .u32 L) L.length] [] 0 (.val (.int .i64 (dd:Int))) [])
 (hg:¬dd≤300):ACall Tryz.prog 110 [.val (.bool neg),.isl z (cI .u32 l) n] [] 0 (.tup [.agg [.val (.bool false),.isl true [] 0],.val (.int .i64 3)]) []:=by
 have ht:=PLift.up ht;have hd:=PLift.up hd
 refine az Tryz.func110 Tryz.ntmps110 rfl ?_
 repeat' (first|refine zqN ?_|((first|refine ax rfl (fun K hK=>?_)|refine ak (fun K hK=>?_));(first|refine ah (f:=158) [2] 0 false ?_|refine ah (f:=156) [] 0 false ?_);refine nG ?_;(first|refine⟨_,_,ht.down,?_⟩|refine⟨_,_,hd.down,?_⟩);refine j5 ?_;apply hK;clear hK K)|refine bA ?_|refine l5 ?_|refine nk ?_|refine nA ?_|refine bB ?_|(refine bC ?_ ?_<;>intro hc<;>try exact zqM))
 all_goals first
  |((refine Ends.mk2 zqI [] ?_;simp-dsimp(disch:=try exact vD) only[push_cast,simprocAttr,Tryz.f110,fQ];try exact zqF);done)
  |skip
theorem VF{L:List Int} {dd:Nat}(hl:l.length=n)(hn:n<2^30)(ht:ACall Tryz.prog 158 [.sl 0 0 n 1] [.cells (cI .u32 l) 136] 0 (.isl false (cI .u32 L) L.length) [])(hd:ACall Tryz.prog 156 [.isl false (cI .u32 L) L.length] [] 0 (.val (.int .i64 (dd:Int))) [])
 (hg:dd≤300) (h0:L=[]):ACall Tryz.prog 110 [.val (.bool neg),.isl z (cI .u32 l) n] [] 0 (.tup [.agg [.val (.bool false),.isl true [] 0],.val (.int .i64 0)]) []:=by
 subst h0
 rw[fQ,List.length_nil] at ht hd
 have ht:=PLift.up ht;have hd:=PLift.up hd
 refine az Tryz.func110 Tryz.ntmps110 rfl ?_
 repeat' (first|refine zqN ?_|((first|refine ax rfl (fun K hK=>?_)|refine ak (fun K hK=>?_));(first|refine ah (f:=158) [2] 0 false ?_|refine ah (f:=156) [] 0 false ?_);refine nG ?_;(first|refine⟨_,_,ht.down,?_⟩|refine⟨_,_,hd.down,?_⟩);refine j5 ?_;apply hK;clear hK K)|refine bA ?_|refine l5 ?_|refine nk ?_|refine nA ?_|refine bB ?_|(refine bC ?_ ?_<;>intro hc<;>try exact zqM))
 all_goals first
  |((refine Ends.mk2 zqI [] ?_;simp-dsimp(disch:=try exact vD) only[push_cast,simprocAttr,Tryz.f110,fQ];try exact zqF);done)
  |skip
theorem VG{L:List Int} {dd:Nat}(hl:l.length=n)(hn:n<2^30)(ht:ACall Tryz.prog 158 [.sl 0 0 n 1] [.cells (cI .u32 l) 136] 0 (.isl false (cI .u32 L) L.length) [])(hd:ACall Tryz.prog 156 [.isl false (cI .u32 L) L.length] [] 0 (.val (.int .i64 (dd:Int))) [])
 (hg:dd≤300) (h0:0<L.length):ACall Tryz.prog 110 [.val (.bool neg),.isl z (cI .u32 l) n] [] 0 (.tup [.agg [.val (.bool neg),.isl false (cI .u32 L) L.length],.val (.int .i64 0)]) []:=by
 have ht:=PLift.up ht;have hd:=PLift.up hd
 refine az Tryz.func110 Tryz.ntmps110 rfl ?_
 repeat' (first|refine zqN ?_|((first|refine ax rfl (fun K hK=>?_)|refine ak (fun K hK=>?_));(first|refine ah (f:=158) [2] 0 false ?_|refine ah (f:=156) [] 0 false ?_);refine nG ?_;(first|refine⟨_,_,ht.down,?_⟩|refine⟨_,_,hd.down,?_⟩);refine j5 ?_;apply hK;clear hK K)|refine bA ?_|refine l5 ?_|refine nk ?_|refine nA ?_|refine bB ?_|(refine bC ?_ ?_<;>intro hc<;>try exact zqM))
 all_goals first
  |((refine Ends.mk2 zqI [] ?_;simp-dsimp(disch:=try exact vD) only[push_cast,simprocAttr,Tryz.f110];try exact zqF);done)
  |skip
theorem KW(hi:Lim l)(hl:l.length=n)(hn:n<2^30)(hv:sg neg (val l)=v):ACall Tryz.prog 110 [.val (.bool neg),.isl z (cI .u32 l) n] [] 0 (rV v) []:=by
 have hv0:=(bv hi).1
 have ht:=zN hi hl (by omega)
 have hlen:(lb (val l).toNat).length≤n:=by rw[jv hi,hl];exact qH
 have hd:=x8 (z:=false) (l:=lb (val l).toNat) rfl (by omega) lim_lb
 have hab:v.natAbs=(val l).toNat:=by rw[←hv,Be];omega
 have hdd:=xV (n:=(val l).toNat) (m:=300)
 unfold rV rI rE
 by_cases h:v.natAbs<10^300
 ·rw[if_pos h,if_pos h]
  rw[hab] at h
  have hg:=hdd.2 h
  by_cases h0:v=0
  ·have e:iC v=⟨true,false,[]⟩:=by rw[h0];rfl
   rw[e,bE]
   refine VF hl hn ht hd hg ?_
   rw[←hab,h0];rfl
  ·have hne:0<(lb (val l).toNat).length:=Nat.pos_of_ne_zero fun hc=>h0 (by
    have:=iZ.1 (List.length_eq_zero_iff.1 hc);omega)
   have e:iC v=⟨false,neg,lb (val l).toNat⟩:=by
    unfold iC iV
    rw[hab]
    have e1:(v==0)=false:=by simpa using h0
    have e2:decide (v<0)=neg:=by
     rw[←hv]
     unfold sg
     cases neg with
     |true=>rw[if_pos rfl];exact decide_eq_true (by omega)
     |false=>rw[if_neg (by simp)];exact decide_eq_false (by omega)
    rw[e1,e2]
   rw[e,bE]
   exact VG hl hn ht hd hg hne
 ·rw[if_neg h,if_neg h]
  exact VE hl hn ht hd fun hc=>h (by rw[hab];exact hdd.1 hc)
theorem ol(hi:Lim l)(hl:l.length=n)(hn:n<2^30)(hv:sg neg (val l)=v)(hd:D300 v):ACall Tryz.prog 110 [.val (.bool neg),.isl z (cI .u32 l) n] [] 0 (.tup [.agg (aa.cells (iC v)),.val (.int .i64 0)]) []:=by
 have:=KW (z:=z) hi hl hn hv
 unfold rV at this
 rw[qc hd,qf hd] at this;exact this
theorem DR{a1 a2 a3:Int}(hL:Lim [a1,a2,a3])(hv:sg neg (val [a1,a2,a3])=v)(hd:D300 v):ACall Tryz.prog 110 [.val (.bool neg),.sl 0 0 3 1] [.cells [.val (.int .u32 a1),.val (.int .u32 a2),.val (.int .u32 a3)] 136] 0 (.tup [.agg (aa.cells (iC v)),.val (.int .i64 0)]) []:=
 ACall.own (args':=[.val (.bool neg),.isl false (cI .u32 [a1,a2,a3]) 3]) (by simp[bnd]) (by simp[bQ];rfl) (by simp[bnd,qA]) (ol (z:=false) (neg:=neg) (l:=[a1,a2,a3]) (n:=3) (v:=v) hL rfl (by decide) hv hd)
theorem sF(h1: -9223372036854775808≤v)(h2:v≤9223372036854775807):ACall Tryz.prog 76 [.val (.int .i64 v)] [] 0 (.agg (aa.cells (iC v))) []:=by
 have hd:D300 v:=by
  have:(9223372036854775808:Nat)<10^300:=by decide+kernel
  unfold D300;omega
 have hL:∀m:Int,0≤m→m≤9223372036854775808→Lim [m%1000000000,m/1000000000%1000000000,m/1000000000/1000000000]∧val [m%1000000000,m/1000000000%1000000000,m/1000000000/1000000000]=m:=fun m h1 h2=>
  ⟨((Lim.nil.cons (by omega)).cons (by omega)).cons (by omega),by simp only[eD,jo];omega⟩
 by_cases hn:v<0
 ·obtain⟨m,hm⟩:∃m,m= -v:=⟨_,rfl⟩
  obtain⟨g1,g2⟩:=hL m (by omega) (by omega)
  have hr:=PLift.up (DR (neg:=decide (v<0)) g1 (by rw[g2,decide_eq_true hn];show-m=v;omega) hd)
  have w1:IntKind.wrap .u64 v=v+18446744073709551616:=by
   have:IntKind.wrap .u64 v=v%18446744073709551616:=by simp[IntKind.wrap,IntKind.bits,IntKind.signed]
   rw[this];omega
  have w2:IntKind.wrap .u64 (0-(v+18446744073709551616))=m:=by
   have:IntKind.wrap .u64 (0-(v+18446744073709551616))=(0-(v+18446744073709551616))%18446744073709551616:=by simp[IntKind.wrap,IntKind.bits,IntKind.signed]
   rw[this];omega
  have w3:IntKind.wrap .u64 (-(v+18446744073709551616))=m:=by rw[←w2];congr 1;omega
  clear hd g1 g2 hL
  refine az Tryz.func76 Tryz.ntmps76 rfl ?_
  repeat' (first|apply bZ|apply aB|((first|refine ax rfl (fun K hK=>?_)|refine ak (fun K hK=>?_));(first|refine ah (f:=110) [1] 0 false ?_);simp-dsimp(disch:=try exact vD) only[push_cast,simprocAttr,w1,w2,w3];(repeat refine aI ?_);intro G hG;refine hG _ _ ?_;clear hG G;(first|refine⟨_,_,hr.down,?_⟩);simp-dsimp(disch:=try exact vD) only[push_cast,simprocAttr,w1,w2,w3];(repeat refine aI ?_);apply hK;clear hK K)|((first|refine ax rfl (fun K hK=>?_)|refine ak (fun K hK=>?_));(first|apply bM|apply aR|apply bU|apply aO|apply fM|apply fO|apply di|apply dH|apply zm|apply aP|apply dL|apply dE);simp-dsimp(disch:=try exact vD) only[push_cast,simprocAttr,w1,w2,w3];(repeat refine aI ?_);apply hK;clear hK K)|((first|refine aK rfl rfl (fun K1 K2 h1 h2=>?_) rfl|refine aF (fun K1 K2 h1 h2=>?_));simp-dsimp(disch:=try exact vD) only[push_cast,simprocAttr,w1,w2,w3];(first|(refine⟨fun hc=>?_,fun hc=>?_⟩<;>first|(exfalso;omega)|(exfalso;contradiction)|refine h1 ?_|refine h2 ?_)|refine h1 ?_|refine h2 ?_);all_goals clear h1 h2 K1 K2)|apply cu|apply aL|apply bH|apply aX|apply aM|apply bI|apply aY|(refine aQ rfl ?_)|apply aZ|apply bG|apply bF|apply bY)
  all_goals first
   |((refine Ends.mk2 (by first|exact .inr rfl|exact .inl rfl) [] ?_;simp-dsimp(disch:=try exact vD) only[push_cast,simprocAttr,Tryz.f76];try exact zqF);done)
   |skip
 ·obtain⟨g1,g2⟩:=hL v (by omega) (by omega)
  have hr:=PLift.up (DR (neg:=decide (v<0)) g1 (by rw[g2,decide_eq_false hn];rfl) hd)
  clear hd g1 g2 hL
  refine az Tryz.func76 Tryz.ntmps76 rfl ?_
  repeat' (first|apply bZ|apply aB|((first|refine ax rfl (fun K hK=>?_)|refine ak (fun K hK=>?_));(first|refine ah (f:=110) [1] 0 false ?_);simp-dsimp(disch:=try exact vD) only[push_cast,simprocAttr];(repeat refine aI ?_);intro G hG;refine hG _ _ ?_;clear hG G;(first|refine⟨_,_,hr.down,?_⟩);simp-dsimp(disch:=try exact vD) only[push_cast,simprocAttr];(repeat refine aI ?_);apply hK;clear hK K)|((first|refine ax rfl (fun K hK=>?_)|refine ak (fun K hK=>?_));(first|apply bM|apply aR|apply bU|apply aO|apply fM|apply fO|apply di|apply dH|apply zm|apply aP|apply dL|apply dE);simp-dsimp(disch:=try exact vD) only[push_cast,simprocAttr];(repeat refine aI ?_);apply hK;clear hK K)|((first|refine aK rfl rfl (fun K1 K2 h1 h2=>?_) rfl|refine aF (fun K1 K2 h1 h2=>?_));simp-dsimp(disch:=try exact vD) only[push_cast,simprocAttr];(first|(refine⟨fun hc=>?_,fun hc=>?_⟩<;>first|(exfalso;omega)|(exfalso;contradiction)|refine h1 ?_|refine h2 ?_)|refine h1 ?_|refine h2 ?_);all_goals clear h1 h2 K1 K2)|apply cu|apply aL|apply bH|apply aX|apply aM|apply bI|apply aY|(refine aQ rfl ?_)|apply aZ|apply bG|apply bF|apply bY)
  all_goals first
   |((refine Ends.mk2 (by first|exact .inr rfl|exact .inl rfl) [] ?_;simp-dsimp(disch:=try exact vD) only[push_cast,simprocAttr,Tryz.f76];try exact zqF);done)
   |skip
theorem aaX{b2:Bool}(hb:X.neg= !b2)(hr:ACall Tryz.prog 110 [.val (.bool b2),.isl X.z (cI .u32 X.l) X.l.length] [] 0 (.tup [.agg (aa.cells W),.val (.int .i64 e)]) []):ACall Tryz.prog 112 [.agg (aa.cells X)] [] 0 (.agg (aa.cells W)) []:=by
 have hr:=PLift.up hr
 rw[bE X,hb]
 cases b2
 all_goals(refine az Tryz.func112 Tryz.ntmps112 rfl ?_)
 all_goals repeat' (first|refine zqN ?_|refine aT hr.down ?_|refine bA ?_|refine bB ?_|(refine bC ?_ ?_<;>intro hc<;>try exact zqM))
 all_goals first
  |((refine Ends.mk2 zqI [] ?_;simp-dsimp(disch:=try exact vD) only[push_cast,simprocAttr,Tryz.f112];try exact zqF);done)
  |skip
theorem I6(h:D300 v):ACall Tryz.prog 112 [.agg (aa.cells (iV z v))] [] 0 (.agg (aa.cells (iC (-v)))) []:=by
 have hf:=h.few
 refine aaX (b2:= !decide (v<0)) (e:=0) (by show decide (v<0)=_;rw[Bool.not_not]) (ol (l:=lb v.natAbs) lim_lb rfl (by show(lb v.natAbs).length<_;omega) ?_ (by unfold D300;rw[Int.natAbs_neg];exact h))
 rw[aW];unfold sg
 by_cases hv:v<0
 ·rw[decide_eq_true hv];show(if false=true then _ else _)=_;rw[if_neg (by simp)];omega
 ·rw[decide_eq_false hv];show(if true=true then _ else _)=_;rw[if_pos rfl];omega
theorem DT:ACall Tryz.prog 108 [.agg (aa.cells (iV z v))] [] 0 (.val (.int .i64 (sgn v))) []:=by
 have hl:(lb v.natAbs).length=0↔v=0:=by rw[List.length_eq_zero_iff,iZ];omega
 unfold iV
 obtain⟨L,hL⟩:∃L,lb v.natAbs=L:=⟨_,rfl⟩
 rw[hL] at hl⊢
 have hn:=ae;have zx1:=ae
 rcases Int.lt_trichotomy v 0 with h|h|h
 ·have e:sgn v= -1:=by unfold sgn;rw[if_neg (by omega),if_pos h]
  have hn:decide (v<0)=true:=decide_eq_true h
  have zx1:¬L.length=0:=fun h2=>by have:=hl.1 h2;omega
  rw[e,hn]
  refine az Tryz.func108 Tryz.ntmps108 rfl ?_
  have zx2:=aD;have zx3:=aD;repeat' (first|refine zqN ?_|refine dx ?_|refine dz ?_|(refine dA ?_ ?_<;>intro hc<;>try exact zqM))
  all_goals(refine Ends.mk2 zqI [] ?_;simp-dsimp(disch:=try exact vD) only[push_cast,simprocAttr,Tryz.f108];try exact zqF)
 ·have e:sgn v=0:=by unfold sgn;rw[if_pos h]
  have zx1:L.length=0:=hl.2 h
  rw[e]
  refine az Tryz.func108 Tryz.ntmps108 rfl ?_
  have zx2:=aD;have zx3:=aD;repeat' (first|refine zqN ?_|refine dx ?_|refine dz ?_|(refine dA ?_ ?_<;>intro hc<;>try exact zqM))
  all_goals(refine Ends.mk2 zqI [] ?_;simp-dsimp(disch:=try exact vD) only[push_cast,simprocAttr,Tryz.f108];try exact zqF)
 ·have e:sgn v=1:=by unfold sgn;rw[if_neg (by omega),if_neg (by omega)]
  have hn:decide (v<0)=false:=decide_eq_false (by omega)
  have zx1:¬L.length=0:=fun h2=>by have:=hl.1 h2;omega
  rw[e,hn]
  refine az Tryz.func108 Tryz.ntmps108 rfl ?_
  have zx2:=aD;have zx3:=aD;repeat' (first|refine zqN ?_|refine dx ?_|refine dz ?_|(refine dA ?_ ?_<;>intro hc<;>try exact zqM))
  all_goals(refine Ends.mk2 zqI [] ?_;simp-dsimp(disch:=try exact vD) only[push_cast,simprocAttr,Tryz.f108];try exact zqF)
theorem Bh(ha:Lim a)(hb:Lim b)(hta:Tr a)(htb:Tr b)(hl:a.length=n)(hm:b.length=m)(hn:n<2^47)(hn2:m<2^47)(hne:¬n=m):ACall Tryz.prog 197 [.isl z (cI .u32 a) n,.isl z' (cI .u32 b) m] [] 0 (.val (.int .i64 (mQ a b))) []:=by
 have zx1:((n:Int)=m)=False:=eq_false (by omega)
 rcases Nat.lt_or_ge n m with h|h
 ·rw[xW (uy ha hb htb (by omega))]
  refine az Tryz.func197 Tryz.ntmps197 rfl ?_
  have zx2:=aD;have zx3:=aD;repeat' (first|refine zqN ?_|refine dx ?_|refine dz ?_|(refine dA ?_ ?_<;>intro hc<;>try exact zqM)|refine zqR 8 [⟨0,[],[24,27,28,29,30],[],[],0⟩,⟨1,[],[23,27,28,29,30],[],[],0⟩,⟨2,[0,1],[27,28,29,30],[],[],0⟩,⟨3,[0,1,2],[27,28,29,30],[],[],0⟩,⟨4,[],[23,24,25,26,28],[],[],0⟩,⟨5,[],[23,24,25,26,27],[],[],0⟩,⟨6,[4,5],[23,24,25,26],[],[],0⟩,⟨7,[4,5,6],[23,24,25,26],[],[],0⟩,⟨8,[0,1,2,3,4,5,6,7],[],[],[],0⟩] ?_|refine zqR 10 [⟨0,[],[33,36,37,38,39],[],[],0⟩,⟨1,[],[32,36,37,38,39],[],[],0⟩,⟨2,[0,1],[36,37,38,39],[],[],0⟩,⟨3,[0,1,2],[36,37,38,39],[],[],0⟩,⟨4,[],[32,33,34,35,37],[],[],0⟩,⟨5,[],[32,33,34,35,36],[],[],0⟩,⟨6,[4,5],[32,33,34,35],[],[],0⟩,⟨7,[4,5,6],[32,33,34,35],[],[],0⟩,⟨8,[0,1,2,3,4,5,6,7],[],[],[],0⟩] ?_|refine zqD ?_|fail)
  all_goals(refine Ends.mk2 zqI [] ?_;simp-dsimp(disch:=try exact vD) only[push_cast,simprocAttr,Tryz.f197];try exact zqF)
 ·rw[A7 (uy hb ha hta (by omega))]
  refine az Tryz.func197 Tryz.ntmps197 rfl ?_
  have zx2:=aD;have zx3:=aD;repeat' (first|refine zqN ?_|refine dx ?_|refine dz ?_|(refine dA ?_ ?_<;>intro hc<;>try exact zqM)|refine zqR 8 [⟨0,[],[24,27,28,29,30],[],[],0⟩,⟨1,[],[23,27,28,29,30],[],[],0⟩,⟨2,[0,1],[27,28,29,30],[],[],0⟩,⟨3,[0,1,2],[27,28,29,30],[],[],0⟩,⟨4,[],[23,24,25,26,28],[],[],0⟩,⟨5,[],[23,24,25,26,27],[],[],0⟩,⟨6,[4,5],[23,24,25,26],[],[],0⟩,⟨7,[4,5,6],[23,24,25,26],[],[],0⟩,⟨8,[0,1,2,3,4,5,6,7],[],[],[],0⟩] ?_|refine zqR 10 [⟨0,[],[33,36,37,38,39],[],[],0⟩,⟨1,[],[32,36,37,38,39],[],[],0⟩,⟨2,[0,1],[36,37,38,39],[],[],0⟩,⟨3,[0,1,2],[36,37,38,39],[],[],0⟩,⟨4,[],[32,33,34,35,37],[],[],0⟩,⟨5,[],[32,33,34,35,36],[],[],0⟩,⟨6,[4,5],[32,33,34,35],[],[],0⟩,⟨7,[4,5,6],[32,33,34,35],[],[],0⟩,⟨8,[0,1,2,3,4,5,6,7],[],[],[],0⟩] ?_|refine zqD ?_|fail)
  all_goals(refine Ends.mk2 zqI [] ?_;simp-dsimp(disch:=try exact vD) only[push_cast,simprocAttr,Tryz.f197];try exact zqF)
theorem yQ(ha:Lim a)(hb:Lim b)(hl:a.length=n)(hm:b.length=n)(hn:n<2^47):ACall Tryz.prog 197 [.isl z (cI .u32 a) n,.isl z' (cI .u32 b) n] [] 0 (.val (.int .i64 (mQ a b))) []:=by
 have h0:n≤n∧a.drop n=b.drop n:=⟨Nat.le_refl _,by rw[List.drop_eq_nil_of_le (by omega),List.drop_eq_nil_of_le (by omega)]⟩
 have zx1:=ae;have zx2:=ae
 refine az Tryz.func197 Tryz.ntmps197 rfl ?_
 have zx3:= @a1s;repeat' (first|(refine ai ?_;refine au [] ([].length) (cpI z z' a b n) (fun k=>k.val) (⟨n,h0⟩) rfl (by unfold cpI;exact eH) ?_;(rintro⟨k,hk,hd⟩;rcases Nat.eq_zero_or_pos k with hk0|hk0<;>first|(subst hk0;(simp-dsimp only[cpI];refine zqS ?_))|(obtain⟨k,rfl⟩:∃k',k=k'+1:=⟨k-1,by omega⟩;have hka:k<a.length:=(by omega);have hkb:k<b.length:=(by omega);rcases Decidable.em (a.getD k default<b.getD k default) with zx1|zx1<;>rcases Decidable.em (b.getD k default<a.getD k default) with zx2|zx2<;>(simp-dsimp only[cpI];refine zqS ?_))))|(refine aj ?_;refine Nxt.mk [] (⟨k,by omega,II hka hkb hd (by omega)⟩) rfl (by unfold cpI;exact eH) zqO)|refine zqN ?_|refine dx ?_|refine dz ?_|(refine dA ?_ ?_<;>intro hc<;>try exact zqM)|refine zqR 8 [⟨0,[],[24,27,28,29,30],[],[],0⟩,⟨1,[],[23,27,28,29,30],[],[],0⟩,⟨2,[0,1],[27,28,29,30],[],[],0⟩,⟨3,[0,1,2],[27,28,29,30],[],[],0⟩,⟨4,[],[23,24,25,26,28],[],[],0⟩,⟨5,[],[23,24,25,26,27],[],[],0⟩,⟨6,[4,5],[23,24,25,26],[],[],0⟩,⟨7,[4,5,6],[23,24,25,26],[],[],0⟩,⟨8,[0,1,2,3,4,5,6,7],[],[],[],0⟩] ?_|refine zqR 10 [⟨0,[],[33,36,37,38,39],[],[],0⟩,⟨1,[],[32,36,37,38,39],[],[],0⟩,⟨2,[0,1],[36,37,38,39],[],[],0⟩,⟨3,[0,1,2],[36,37,38,39],[],[],0⟩,⟨4,[],[32,33,34,35,37],[],[],0⟩,⟨5,[],[32,33,34,35,36],[],[],0⟩,⟨6,[4,5],[32,33,34,35],[],[],0⟩,⟨7,[4,5,6],[32,33,34,35],[],[],0⟩,⟨8,[0,1,2,3,4,5,6,7],[],[],[],0⟩] ?_|refine zqD ?_|fail)
 all_goals first
  |(rw[O5 (by simpa using hd)];(refine Ends.mk2 zqI [] ?_;simp-dsimp(disch:=try exact vD) only[push_cast,simprocAttr,Tryz.f197];try exact zqF);done)
  |(rw[xW (cmp_lt ha hb (hl.trans hm.symm) hka hd zx1)];(refine Ends.mk2 zqI [] ?_;simp-dsimp(disch:=try exact vD) only[push_cast,simprocAttr,Tryz.f197];try exact zqF);done)
  |(rw[A7 (cmp_lt hb ha (hm.trans hl.symm) hkb hd.symm zx2)];(refine Ends.mk2 zqI [] ?_;simp-dsimp(disch:=try exact vD) only[push_cast,simprocAttr,Tryz.f197];try exact zqF);done)
  |skip
theorem uT(ha:Lim a)(hb:Lim b)(hta:Tr a)(htb:Tr b)(hl:a.length<2^47)(hm:b.length<2^47):ACall Tryz.prog 197 [.isl z (cI .u32 a) a.length,.isl z' (cI .u32 b) b.length] [] 0 (.val (.int .i64 (mQ a b))) []:=by
 by_cases h:a.length=b.length
 ·have:=yQ (z:=z) (z':=z') ha hb rfl h.symm hl
  rw[h] at this⊢;exact this
 ·exact Bh ha hb hta htb rfl rfl hl hm h
theorem Bi(ha:Lim a)(hl:a.length=n)(hn:n<2^47)(hi:i<2^50):ACall Tryz.prog 199 [.isl z (cI .u32 a) n,.val (.int .i64 i)] [] 0 (.val (.int .u64 (a.getD i 0))) []:=by
 have hr:=ha.at i
 rcases Nat.lt_or_ge i n with h|h
 ·refine az Tryz.func199 Tryz.ntmps199 rfl ?_
  repeat' (first|apply bZ|apply aB|((first|refine ax rfl (fun K hK=>?_)|refine ak (fun K hK=>?_));(first|apply bM|apply aR|apply bU|apply aO|apply bi|apply bJ|apply fP|apply bO|apply dL|apply dE);simp-dsimp(disch:=try exact vD) only[push_cast,simprocAttr,gd0];(repeat refine aI ?_);apply hK;clear hK K)|((first|refine aK rfl rfl (fun K1 K2 h1 h2=>?_) rfl|refine aF (fun K1 K2 h1 h2=>?_));simp-dsimp(disch:=try exact vD) only[push_cast,simprocAttr,gd0];(first|(refine⟨fun hc=>?_,fun hc=>?_⟩<;>first|(exfalso;omega)|(exfalso;contradiction)|refine h1 ?_|refine h2 ?_)|refine h1 ?_|refine h2 ?_);all_goals clear h1 h2 K1 K2)|apply cu|apply aL|apply bH|apply aX|apply aM|apply bI|apply aY|(refine aQ rfl ?_)|apply aZ|apply bG|apply bF|apply bY)
  all_goals first
   |((refine Ends.mk2 (by first|exact .inr rfl|exact .inl rfl) [] ?_;simp-dsimp(disch:=try exact vD) only[push_cast,simprocAttr,Tryz.f199];try exact zqF);done)
   |skip
 ·rw[dY (by omega)]
  refine az Tryz.func199 Tryz.ntmps199 rfl ?_
  repeat' (first|apply bZ|apply aB|((first|refine ax rfl (fun K hK=>?_)|refine ak (fun K hK=>?_));(first|apply bM|apply aR|apply bU|apply aO|apply bi|apply bJ|apply fP|apply bO|apply dL|apply dE);simp-dsimp(disch:=try exact vD) only[push_cast,simprocAttr];(repeat refine aI ?_);apply hK;clear hK K)|((first|refine aK rfl rfl (fun K1 K2 h1 h2=>?_) rfl|refine aF (fun K1 K2 h1 h2=>?_));simp-dsimp(disch:=try exact vD) only[push_cast,simprocAttr];(first|(refine⟨fun hc=>?_,fun hc=>?_⟩<;>first|(exfalso;omega)|(exfalso;contradiction)|refine h1 ?_|refine h2 ?_)|refine h1 ?_|refine h2 ?_);all_goals clear h1 h2 K1 K2)|apply cu|apply aL|apply bH|apply aX|apply aM|apply bI|apply aY|(refine aQ rfl ?_)|apply aZ|apply bG|apply bF|apply bY)
  all_goals first
   |((refine Ends.mk2 (by first|exact .inr rfl|exact .inl rfl) [] ?_;simp-dsimp(disch:=try exact vD) only[push_cast,simprocAttr,Tryz.f199];try exact zqF);done)
   |skip
