/- Lp9 Lp10 Lp6 Lp7. No condition. -/
import Derived.Test.YtcbginhpibfgaaaGreatDoorLp5
set_option linter.all false
set_option maxHeartbeats 4000000
set_option maxRecDepth 20000
namespace Go.Proofs.YtcbginhpibfgaaaGreatDoor
section
open Go Go.Sy Go.Bp Go.Lm
attribute [local irreducible] AO AL AC OpT ACall Ends DGo bK Thn Blk Nxt
variable {n N M k i m j:Nat} {z z' neg:Bool} {l a b u L:List Int} {v x y d:Int}
theorem Ow(h:k<u.length):u.drop k=u.getD k 0::u.drop (k+1):=by
 rw[List.drop_eq_getElem_cons h,iK h]
def shI(z:Bool)(u:List Int)(n:Nat)(v:Int)(k:{k:Nat // k≤n}):St:=
 ⟨43,0,[(0,.isl z (cI .u32 u) n),(1,.val (.int .u32 v)),(6,.sl 0 0 n 1),(7,.val (.int .u64 (jq v (u.drop k.val)).2)),(8,.val (.int .i64 ((k.val:Int)-1)))],[(0,some (.cells (cI .u32 (List.replicate k.val 0++(jq v (u.drop k.val)).1)) 115))]⟩
theorem L9(hu:Lim u)(hl:u.length=n)(hn:n<2^30)(h0:0<v)(hv:v<1000000000):ACall Tryz.prog 161 [.isl z (cI .u32 u) n,.val (.int .u32 v)] [] 0 (.tup [.isl false (cI .u32 (lb (val u/v).toNat)) (lb (val u/v).toNat).length,.val (.int .u32 (val u%v))]) []:=by
 obtain⟨s1,s2,s3,s4,s5⟩:=Qn h0 hu
 have hsl:(jq v u).1.length=n:=by rw[LQ];exact hl
 have ht:=PLift.up (mD (z:=false) (l:=(jq v u).1) hsl (by omega))
 have e1:=jK s1
 have e2:=jL s1
 rw[hsl,s2] at e1 e2
 rw[e1,←e2] at ht
 have zx2:¬v=0:=by omega
 have hst:=fun(k:Nat)=>Qn (l:=u.drop k) h0 hu.drop
 have hln:=fun(k:Nat)=>(show(jq v (u.drop k)).1.length=n-k by rw[LQ,List.length_drop,hl])
 have hdr:=fun(k:Nat) (h:k<n)=>Ow (u:=u) (k:=k) (by omega)
 have zx5:List.replicate n 0++(jq v (u.drop n)).1=List.replicate n (0:Int):=by
  rw[List.drop_eq_nil_of_le (by omega),LP,List.append_nil]
 have zx6:(jq v (u.drop n)).2=0:=by rw[List.drop_eq_nil_of_le (by omega),LP]
 have zx7:List.replicate 0 (0:Int)++(jq v (u.drop 0)).1=(jq v u).1:=rfl
 have zx8:(jq v u).2=val u%v:=s3
 have zx9:(jq v u).1.take n=(jq v u).1:=List.take_of_length_le (by omega)
 have hmr:0≤val u%v∧val u%v<v:=by rw[←s3];exact⟨s4,s5⟩
 rw[s3] at s4 s5
 generalize lb (val u/v).toNat=R at ht⊢
 generalize val u%v=r0 at*
 clear e1 e2 s2 s3
 have zx10:=ae;have zx11:=ae;have zx12:=ae;have zx13:=ae;have zx14:=ae;have zx15:=ae;have zx3:=ae
 refine ak Tryz.func161 Tryz.ntmps161 rfl ?_
 have zx1:= @gd0;have zx4:= @a1s;have zx16:=aC;repeat' (first|((first|refine bI (r:=9) 0 ?_|refine bH (r:=9) 0 ?_);refine akx ?_;intro K hK;refine hK _ _ ?_;clear hK K)|(refine ai ?_;refine au [0] ([0].length) (shI z u n v) (fun k=>k.val) (⟨n,Nat.le_refl _⟩) rfl (by unfold shI;exact Ba) ?_;(rintro⟨k,hk⟩;rcases Nat.eq_zero_or_pos k with hk0|hk0<;>first|(subst hk0;(simp-dsimp only[shI];refine zqS ?_))|(obtain⟨k,rfl⟩:∃k',k=k'+1:=⟨k-1,by omega⟩;have hxr:=hu.at k;obtain⟨t1,t2,t3,t4,t5⟩:=hst (k+1);obtain⟨q1,q2,q3,q4,q5⟩:=hst k;have hl1:=hln (k+1);rw[hdr k (by omega),tO] at q1 q4 q5;have zx11:jq v (u.drop k)=_:=(by rw[hdr k (by omega),tO]);generalize zx10:jq v (u.drop (k+1))=S at*;obtain⟨Q,r⟩:=S;dsimp only at*;generalize zx3:u.getD k 0=x at*;have hq1:=q1.hd;generalize zx14:(r*1000000000+x)/v=qq at*;generalize zx15:(r*1000000000+x)%v=rr at*;have zx13:=EO (i:=k) (x:=qq) (L:=Q);(simp-dsimp only[shI];refine zqS ?_))))|(refine ax ?_;refine Nxt.mk [0] (⟨k,by omega⟩) rfl (by unfold shI;exact Ba) zqO)|refine zqN ?_|refine V3 ht.down ?_|refine VZ ?_|refine V4 ?_|(refine V5 ?_ ?_<;>intro hc<;>try exact zqM))
 all_goals first
  |((refine Ends.mk2 zqI [] ?_;simp-dsimp(disch:=try exact vD) only[push_cast,simprocAttr,Tryz.f161];try exact zqF);done)
  |skip
def scI(z:Bool)(u:List Int)(m:Nat)(d:Int)(n:Nat)(i:{i:Nat // i≤n}):St:=
 ⟨40,0,[(0,.isl z (cI .u32 u) m),(1,.val (.int .u64 d)),(7,.sl 0 0 n 1),(8,.val (.int .u64 (scC u d i.val))),(13,.val (.int .i64 n)),(14,.val (.int .i64 i.val))],[(0,some (.cells (cI .u32 (scL u d i.val++List.replicate (n-i.val) 0)) 115))]⟩
theorem XI(hu:Lim u)(hl:u.length=m)(hm:m<2^30)(hn:n<2^30)(hd:0≤d∧d<1000000000):ACall Tryz.prog 162 [.isl z (cI .u32 u) m,.val (.int .u64 d),.val (.int .i64 n)] [] 0 (.sl 0 0 n 1) [.cells (cI .u32 (scL u d n)) 115]:=by
 have zx2:scL u d 0++List.replicate (n-0) 0=List.replicate n (0:Int):=rfl
 have zx3:scL u d n++List.replicate (n-n) 0=scL u d n:=by rw[Nat.sub_self,List.replicate_zero,List.append_nil]
 have hcc:=fun(i:Nat)=>tV (i:=i) hu hd
 have zx6:=ae;have zx7:=ae;have zx8:=ae;have zx9:=ae;have zx10:=ae
 have hlen:=fun(i:Nat) (h:i≤n)=>(show(scL u d i++List.replicate (n-i) 0).length=n by rw[List.length_append,iL,List.length_replicate];omega)
 refine ak Tryz.func162 Tryz.ntmps162 rfl ?_
 have zx1:= @gd0;have zx4:= @LU;have zx5:= @iL;have zx11:=aC;have zx12:=aC;repeat' (first|(refine ai ?_;refine au [0] ([0].length) (scI z u m d n) (fun i=>n-i.val) (⟨0,Nat.zero_le _⟩) rfl (by unfold scI;exact iP) ?_;(rintro⟨i,hi⟩;rcases Nat.lt_or_eq_of_le hi with hil|hil<;>first|(have ei:n=i:=hil.symm;subst ei;(simp-dsimp only[scI];refine zqS ?_))|(have hur:=hu.at i;have hc1:=hcc i;have hmr:=lg hur hd;have zx7:=IB (u:=u) (d:=d) (i:=i);have zx8:=LV (u:=u) (d:=d) (i:=i);have hll:=hlen i hi;have zx9:=Qo (n:=n) (x:=(scC u d i+u.getD i 0*d)%1000000000) (iL (u:=u) (d:=d) (i:=i)) hil;rw[←zx8] at zx9;rcases Nat.lt_or_ge i m with him|him<;>first|(have zx10:u.getD i 0=0:=getD_out (by omega);rw[zx10,Int.zero_mul,Int.add_zero] at zx7 zx9;(simp-dsimp only[scI];refine zqS ?_))|(generalize zx6:u.getD i 0*d=pp at*;(simp-dsimp only[scI];refine zqS ?_)))))|(refine ax ?_;refine Nxt.mk [0] (⟨i+1,by omega⟩) rfl (by unfold scI;exact iP) zqO)|refine zqN ?_|refine A7 ?_|refine A8 ?_|(refine A9 ?_ ?_<;>intro hc<;>try exact zqM))
 all_goals first
  |((refine Ends.mk2 zqI [0] ?_;simp-dsimp(disch:=try exact vD) only[push_cast,simprocAttr,Tryz.f162];try exact zqF);done)
  |skip
theorem XJ(hu:Lim u)(hl:u.length=m)(hm:m<2^30)(hn:n<2^30)(hd:0≤d∧d<1000000000):ACall Tryz.prog 162 [.isl z (cI .u32 u) m,.val (.int .u64 d),.val (.int .i64 n)] [] 0 (.isl false (cI .u32 (scL u d n)) n) []:=by
 have zx2:scL u d 0++List.replicate (n-0) 0=List.replicate n (0:Int):=rfl
 have zx3:scL u d n++List.replicate (n-n) 0=scL u d n:=by rw[Nat.sub_self,List.replicate_zero,List.append_nil]
 have tk0:(scL u d n).take n=scL u d n:=List.take_of_length_le (by rw[iL];exact Nat.le_refl _)
 have hcc:=fun(i:Nat)=>tV (i:=i) hu hd
 have zx6:=ae;have zx7:=ae;have zx8:=ae;have zx9:=ae;have zx10:=ae
 have hlen:=fun(i:Nat) (h:i≤n)=>(show(scL u d i++List.replicate (n-i) 0).length=n by rw[List.length_append,iL,List.length_replicate];omega)
 refine ak Tryz.func162 Tryz.ntmps162 rfl ?_
 have zx1:= @gd0;have zx4:= @LU;have zx5:= @iL;have zx11:=aC;have zx12:=aC;repeat' (first|(refine ai ?_;refine au [0] ([0].length) (scI z u m d n) (fun i=>n-i.val) (⟨0,Nat.zero_le _⟩) rfl (by unfold scI;exact iP) ?_;(rintro⟨i,hi⟩;rcases Nat.lt_or_eq_of_le hi with hil|hil<;>first|(have ei:n=i:=hil.symm;subst ei;(simp-dsimp only[scI];refine zqS ?_))|(have hur:=hu.at i;have hc1:=hcc i;have hmr:=lg hur hd;have zx7:=IB (u:=u) (d:=d) (i:=i);have zx8:=LV (u:=u) (d:=d) (i:=i);have hll:=hlen i hi;have zx9:=Qo (n:=n) (x:=(scC u d i+u.getD i 0*d)%1000000000) (iL (u:=u) (d:=d) (i:=i)) hil;rw[←zx8] at zx9;rcases Nat.lt_or_ge i m with him|him<;>first|(have zx10:u.getD i 0=0:=getD_out (by omega);rw[zx10,Int.zero_mul,Int.add_zero] at zx7 zx9;(simp-dsimp only[scI];refine zqS ?_))|(generalize zx6:u.getD i 0*d=pp at*;(simp-dsimp only[scI];refine zqS ?_)))))|(refine ax ?_;refine Nxt.mk [0] (⟨i+1,by omega⟩) rfl (by unfold scI;exact iP) zqO)|refine zqN ?_|refine A7 ?_|refine A8 ?_|(refine A9 ?_ ?_<;>intro hc<;>try exact zqM))
 all_goals first
  |(((refine Ends.frz 0 ?_;simp-dsimp(disch:=try exact vD) only[push_cast,simprocAttr,Tryz.f162,tk0];(repeat refine aI ?_);intro K hK;refine hK _ _ ?_;clear hK K);refine Ends.mk2 zqI [] ?_;simp-dsimp(disch:=try exact vD) only[push_cast,simprocAttr,Tryz.f162,tk0];try exact zqF);done)
  |skip
end
section
open Go Go.Sy Go.Bp Go.Lm
attribute [local irreducible] AO AL AC OpT ACall Ends DGo bK Thn Blk Nxt
variable {n N M k i m j:Nat} {z z' neg:Bool} {l a b u L X y w R T:List Int} {v x d f:Int}
def sbZ(X:List Int)(j n:Nat)(R:List Int):List Int:=X.take j++R++X.drop (j+n+1)
theorem JV(hR:R.length=n+1)(h:j+n+1≤X.length):(sbZ X j n R).length=X.length:=by
 unfold sbZ;rw[List.length_append,List.length_append,List.length_take,List.length_drop,hR];omega
theorem Qq(hR:R.length=n+1)(h:j+n+1≤X.length)(hi:i<n+1):(sbZ X j n R).getD (j+i) 0=R.getD i 0:=by
 unfold sbZ
 have e:(X.take j).length=j:=by rw[List.length_take];omega
 rw[List.append_assoc,List.getD_eq_getElem?_getD,List.getElem?_append_right (by omega),e,Nat.add_sub_cancel_left,List.getElem?_append_left (by omega),←List.getD_eq_getElem?_getD]
theorem Qr(hR:R.length=n+1)(h:j+n+1≤X.length)(hi:i<n+1):(sbZ X j n R).set (j+i) x=sbZ X j n (R.set i x):=by
 unfold sbZ
 have e:(X.take j).length=j:=by rw[List.length_take];omega
 rw[List.append_assoc,List.set_append_right _ _ (by omega),e,Nat.add_sub_cancel_left,List.set_append_left _ _ (by omega),←List.append_assoc]
theorem Ma(h:j+n+1≤X.length):sbZ X j n ((X.drop j).take (n+1))=X:=by
 unfold sbZ
 rw[List.append_assoc,show X.drop (j+n+1)=(X.drop j).drop (n+1) by rw[List.drop_drop];rfl,List.take_append_drop,List.take_append_drop]
theorem tY(hT:T.length=i)(hw:w.length=n)(hi:i≤n):(T++w.drop i).length=n:=by
 rw[List.length_append,List.length_drop,hT,hw];omega
theorem Qs(hT:T.length=i)(hw:w.length=n)(hi:i<n):(T++w.drop i).getD i 0=w.getD i 0:=by
 rw[List.getD_eq_getElem?_getD,List.getElem?_append_right (by omega),hT,Nat.sub_self,List.getElem?_drop,Nat.add_zero,←List.getD_eq_getElem?_getD]
theorem Qt(hT:T.length=i)(hw:w.length=n)(hi:i<n):(T++w.drop i).set i x=(T++[x])++w.drop (i+1):=by
 rw[List.set_append_right _ _ (by omega),hT,Nat.sub_self,List.drop_eq_getElem_cons (by omega),List.append_assoc];rfl
theorem Qu(h:j+n+1≤X.length):((X.drop j).take (n+1)).length=n+1:=by
 rw[List.length_take,List.length_drop];omega
def suZ(X w y:List Int)(j n:Nat)(f:Int)(i:Nat):List Int:=sbZ X j n (tL w y f i++w.drop i)
def reZ(X w y:List Int)(j n:Nat)(i:Nat):List Int:=sbZ X j n (pL w y i++w.drop i)
theorem Qv(h:tL w y f (i+1)=T):suZ X w y j n f (i+1)=sbZ X j n (T++w.drop (i+1)):=by unfold suZ;rw[h]
theorem Qw(h:pL w y (i+1)=T):reZ X w y j n (i+1)=sbZ X j n (T++w.drop (i+1)):=by unfold reZ;rw[h]
def suI(X w y:List Int)(j n:Nat)(f:Int)(i:{i:Nat // i≤n+1}):St:=
 ⟨54,1,[(0,.sl 0 j (n+1) 1),(1,.isl false (cI .u32 y) n),(2,.val (.int .u64 f)),(7,.val (.int .u64 (tC y f i.val))),(8,.val (.int .i64 (tB w y f i.val))),(12,.val (.int .i64 ((n:Int)+1))),(13,.val (.int .i64 i.val))],[(0,some (.cells (cI .u32 (suZ X w y j n f i.val)) 115))]⟩
theorem Bj(hX:Lim X)(hXl:X.length=M)(hy:Lim y)(hl:y.length=n)(hj:j+n+1≤M)(hM:M<2^30)(hf:0≤f∧f<1000000000)(hw:(X.drop j).take (n+1)=w):
 ACall Tryz.prog 163 [.sl 0 j (n+1) 1,.isl false (cI .u32 y) n,.val (.int .u64 f)] [.cells (cI .u32 X) 115] 1 (.val (.bool (decide (¬tB w y f (n+1)=0)))) [.cells (cI .u32 (sbZ X j n (tL w y f (n+1)))) 115]:=by
 subst hXl
 have hwl:w.length=n+1:=by rw[←hw];exact Qu hj
 have hwL:Lim w:=by rw[←hw];exact hX.drop.take
 have e0:X=suZ X w y j n f 0:=by rw[←hw];exact(Ma hj).symm
 have zx11:suZ X w y j n f (n+1)=sbZ X j n (tL w y f (n+1)):=by unfold suZ;rw[List.drop_eq_nil_of_le (by omega),List.append_nil]
 have hln:∀(i:Nat),i≤n+1→(suZ X w y j n f i).length=X.length:=fun i h=>JV (X:=X) (j:=j) (tY (T:=tL w y f i) tL_len hwl h) hj
 have hgt:∀(i:Nat),i<n+1→(suZ X w y j n f i).getD (j+i) 0=w.getD i 0:=fun i h=>(Qq (X:=X) (j:=j) (tY (T:=tL w y f i) tL_len hwl (by omega)) hj h).trans (Qs tL_len hwl h)
 have hst:∀(i:Nat) (x:Int),i<n+1→(suZ X w y j n f i).set (j+i) x=sbZ X j n ((tL w y f i++[x])++w.drop (i+1)):=fun i x h=>(Qr (X:=X) (j:=j) (x:=x) (tY (T:=tL w y f i) tL_len hwl (by omega)) hj h).trans (congrArg (sbZ X j n) (Qt tL_len hwl h))
 have hcr:=fun(i:Nat)=>Oq (i:=i) hy hf
 have hbr:=fun(i:Nat)=>JK (w:=w) (yl:=y) (f:=f) (i:=i)
 clear hw
 have zx2:=ae;have zx3:=ae;have zx4:=ae;have zx5:=ae;have zx6:=ae;have zx7:=ae;have zx8:=ae;have zx9:=ae;have zx10:=ae
 revert e0
 generalize hXX:cI IntKind.u32 X=C
 intro e00
 have e0:C=cI IntKind.u32 (suZ X w y j n f 0):=by rw[←e00];exact hXX.symm
 subst e0
 clear hXX e00
 refine ak Tryz.func163 Tryz.ntmps163 rfl ?_
 have zx1:= @gd0;have zx12:= @aig;have zx13:= @tB_0;have zx14:=aC;have zx15:=aC;have zx16:=aC;repeat' (first|(refine ai ?_;refine au [0] ([0].length) (suI X w y j n f) (fun i=>n+1-i.val) (⟨0,Nat.zero_le _⟩) rfl (by unfold suI;exact Ba) ?_;(rintro⟨i,hi⟩;have hci:=hcr i;have hbi:=hbr i;have zx10:=hln i hi;rcases Nat.lt_or_eq_of_le hi with hil|hil<;>first|(subst hil;(simp-dsimp only[suI];refine zqS ?_))|(have hwr:=hwL.at i;have hyr:=hy.at i;have hmr:=lg hyr hf;have zx8:=hgt i hil;have zx9:=fun x=>hst i x hil;have zx4:=acT (yl:=y) (f:=f) (i:=i);rcases Nat.lt_or_ge i n with him|him<;>rcases Decidable.em (w.getD i 0-(tC y f i+y.getD i 0*f)%1000000000-tB w y f i<0) with zx2|zx2<;>first|(have zx6:y.getD i 0=0:=getD_out (by omega);have zx3:=Qv (X:=X) (j:=j) (n:=n) (aij zx2);have zx5:=aih zx2;rw[zx6,Int.zero_mul,Int.add_zero] at zx3 zx2 zx4;(simp-dsimp only[suI];refine zqS ?_))|(have zx6:y.getD i 0=0:=getD_out (by omega);have zx3:=Qv (X:=X) (j:=j) (n:=n) (aik zx2);have zx5:=aii zx2;rw[zx6,Int.zero_mul,Int.add_zero] at zx3 zx2 zx4;(simp-dsimp only[suI];refine zqS ?_))|(have zx3:=Qv (X:=X) (j:=j) (n:=n) (aij zx2);have zx5:=aih zx2;generalize zx7:y.getD i 0*f=pp at*;(simp-dsimp only[suI];refine zqS ?_))|(have zx3:=Qv (X:=X) (j:=j) (n:=n) (aik zx2);have zx5:=aii zx2;generalize zx7:y.getD i 0*f=pp at*;(simp-dsimp only[suI];refine zqS ?_)))))|(refine ax ?_;refine Nxt.mk [0] (⟨i+1,by omega⟩) rfl (by unfold suI;exact Ba) zqO)|refine zqN ?_|refine VZ ?_|refine V4 ?_|(refine V5 ?_ ?_<;>intro hc<;>try exact zqM))
 all_goals first
  |((refine Ends.mk2 zqI [0] ?_;simp-dsimp(disch:=try exact vD) only[push_cast,simprocAttr,Tryz.f163];try exact zqF);done)
  |skip
def reI(X w y:List Int)(j n:Nat)(i:{i:Nat // i≤n+1}):St:=
 ⟨37,1,[(0,.sl 0 j (n+1) 1),(1,.isl false (cI .u32 y) n),(4,.val (.int .u32 (pC w y i.val))),(8,.val (.int .i64 ((n:Int)+1))),(9,.val (.int .i64 i.val))],[(0,some (.cells (cI .u32 (reZ X w y j n i.val)) 115))]⟩
theorem Ox(hX:Lim X)(hXl:X.length=M)(hy:Lim y)(hl:y.length=n)(hj:j+n+1≤M)(hM:M<2^30)(hw:(X.drop j).take (n+1)=w):
 ACall Tryz.prog 164 [.sl 0 j (n+1) 1,.isl false (cI .u32 y) n] [.cells (cI .u32 X) 115] 1 (.tup []) [.cells (cI .u32 (sbZ X j n (pL w y (n+1)))) 115]:=by
 subst hXl
 have hwl:w.length=n+1:=by rw[←hw];exact Qu hj
 have hwL:Lim w:=by rw[←hw];exact hX.drop.take
 have e0:X=reZ X w y j n 0:=by rw[←hw];exact(Ma hj).symm
 have zx9:reZ X w y j n (n+1)=sbZ X j n (pL w y (n+1)):=by unfold reZ;rw[List.drop_eq_nil_of_le (by omega),List.append_nil]
 have hln:∀(i:Nat),i≤n+1→(reZ X w y j n i).length=X.length:=fun i h=>JV (X:=X) (j:=j) (tY (T:=pL w y i) pL_len hwl h) hj
 have hgt:∀(i:Nat),i<n+1→(reZ X w y j n i).getD (j+i) 0=w.getD i 0:=fun i h=>(Qq (X:=X) (j:=j) (tY (T:=pL w y i) pL_len hwl (by omega)) hj h).trans (Qs pL_len hwl h)
 have hst:∀(i:Nat) (x:Int),i<n+1→(reZ X w y j n i).set (j+i) x=sbZ X j n ((pL w y i++[x])++w.drop (i+1)):=fun i x h=>(Qr (X:=X) (j:=j) (x:=x) (tY (T:=pL w y i) pL_len hwl (by omega)) hj h).trans (congrArg (sbZ X j n) (Qt pL_len hwl h))
 have hcr:=fun(i:Nat)=>mU (a:=w) (b:=y) (i:=i)
 clear hw
 have zx2:=ae;have zx3:=ae;have zx4:=ae;have zx5:=ae;have zx6:=ae;have zx7:=ae;have zx8:=ae
 revert e0
 generalize hXX:cI IntKind.u32 X=C
 intro e00
 have e0:C=cI IntKind.u32 (reZ X w y j n 0):=by rw[←e00];exact hXX.symm
 subst e0
 clear hXX e00
 refine ak Tryz.func164 Tryz.ntmps164 rfl ?_
 have zx1:= @gd0;have zx10:= @acQ;have zx11:=aC;have zx12:=aC;repeat' (first|(refine ai ?_;refine au [0] ([0].length) (reI X w y j n) (fun i=>n+1-i.val) (⟨0,Nat.zero_le _⟩) rfl (by unfold reI;exact iP) ?_;(rintro⟨i,hi⟩;have hci:=hcr i;have zx8:=hln i hi;rcases Nat.lt_or_eq_of_le hi with hil|hil<;>first|(subst hil;(simp-dsimp only[reI];refine zqS ?_))|(have hwr:=hwL.at i;have hyr:=hy.at i;have zx6:=hgt i hil;have zx7:=fun x=>hst i x hil;rcases Nat.lt_or_ge i n with him|him<;>rcases Decidable.em (1000000000≤w.getD i 0+pC w y i+y.getD i 0) with zx2|zx2<;>first|(have zx5:y.getD i 0=0:=getD_out (by omega);have zx3:=Qw (X:=X) (j:=j) (n:=n) (Oj zx2);have zx4:=LK zx2;rw[zx5,Int.add_zero] at zx3 zx2;(simp-dsimp only[reI];refine zqS ?_))|(have zx5:y.getD i 0=0:=getD_out (by omega);have zx3:=Qw (X:=X) (j:=j) (n:=n) (Ol zx2);have zx4:=JJ zx2;rw[zx5,Int.add_zero] at zx3 zx2;(simp-dsimp only[reI];refine zqS ?_))|(have zx3:=Qw (X:=X) (j:=j) (n:=n) (Oj zx2);have zx4:=LK zx2;(simp-dsimp only[reI];refine zqS ?_))|(have zx3:=Qw (X:=X) (j:=j) (n:=n) (Ol zx2);have zx4:=JJ zx2;(simp-dsimp only[reI];refine zqS ?_)))))|(refine ax ?_;refine Nxt.mk [0] (⟨i+1,by omega⟩) rfl (by unfold reI;exact iP) zqO)|refine zqN ?_|refine A7 ?_|refine A8 ?_|(refine A9 ?_ ?_<;>intro hc<;>try exact zqM))
 all_goals first
  |((refine Ends.mk2 zqI [0] ?_;simp-dsimp(disch:=try exact vD) only[push_cast,simprocAttr,Tryz.f164];try exact zqF);done)
  |skip
end
section
open Go Go.Sy Go.Bp Go.Lm
attribute [local irreducible] AO AL AC OpT ACall Ends DGo bK Thn Blk Nxt
variable {n N M k i m j:Nat} {z z' neg:Bool} {l a b:List Int} {v x y:Int}
theorem Qx{c:Int}:(pL a b n++[c]).take (n+1)=pL a b n++[c]:=List.take_of_length_le (by rw[List.length_append,pL_len];exact Nat.le_refl _)
theorem aeT:(mL a b n).take n=mL a b n:=List.take_of_length_le (by rw[ry];exact Nat.le_refl _)
def psI(z z':Bool)(a b:List Int)(n m:Nat)(i:{i:Nat // i≤n}):St:=
 ⟨53,0,[(0,.isl z (cI .u32 a) n),(1,.isl z' (cI .u32 b) m),(5,.sl 0 0 i.val 1),(6,.val (.int .u32 (pC a b i.val))),(20,.isl z (cI .u32 a) n),(21,.val (.int .i64 n)),(22,.val (.int .i64 i.val))],[(0,some (.cells (cI .u32 (pL a b i.val)) 115))]⟩
theorem aiu(ha:Lim a)(hb:Lim b)(hl:a.length=n)(hm:b.length=m)(hle:m≤n)(hn:n<2^40):ACall Tryz.prog 157 [.isl z (cI .u32 a) n,.isl z' (cI .u32 b) m] [] 0 (.isl false (cI .u32 (ru a b)) (n+1)) []:=by
 have zx2:=ae;have zx3:=ae;have zx4:=ae;have zx5:=ae
 unfold ru
 rw[hl]
 refine ak Tryz.func157 Tryz.ntmps157 rfl ?_
 have zx1:= @gd0;have zx6:= @aia;have zx7:= @acQ;have zx8:= @pL_len;have zx9:= @lG;repeat' (first|(refine ai ?_;refine au [0] ([0].length) (psI z z' a b n m) (fun i=>n-i.val) (⟨0,Nat.zero_le _⟩) rfl (by unfold psI;exact kK) ?_;(rintro⟨i,hi⟩;have hpr:=mU (a:=a) (b:=b) (i:=i);rcases Nat.lt_or_eq_of_le hi with hil|hil<;>first|(have ei:n=i:=hil.symm;subst ei;(simp-dsimp only[psI];refine zqS ?_))|(have har:=ha.at i;have hbr:=hb.at i;rcases Nat.lt_or_ge i m with him|him<;>rcases Decidable.em (1000000000≤a.getD i 0+pC a b i+b.getD i 0) with zx2|zx2<;>first|(have zx5:b.getD i 0=0:=getD_out (by omega);have zx3:=Oj zx2;have zx4:=LK zx2;rw[zx5,Int.add_zero] at zx3 zx2;(simp-dsimp only[psI];refine zqS ?_))|(have zx5:b.getD i 0=0:=getD_out (by omega);have zx3:=Ol zx2;have zx4:=JJ zx2;rw[zx5,Int.add_zero] at zx3 zx2;(simp-dsimp only[psI];refine zqS ?_))|(have zx3:=Oj zx2;have zx4:=LK zx2;(simp-dsimp only[psI];refine zqS ?_))|(have zx3:=Ol zx2;have zx4:=JJ zx2;(simp-dsimp only[psI];refine zqS ?_)))))|(refine ax ?_;refine Nxt.mk [2] (⟨i+1,by omega⟩) rfl (by unfold psI;exact kK) zqO)|(refine ax ?_;refine Nxt.mk [1] (⟨i+1,by omega⟩) rfl (by unfold psI;exact kK) zqO)|refine zqN ?_|((first|refine ay rfl (fun K hK=>?_)|refine aj (fun K hK=>?_));(first|apply nY);refine qV ?_;apply hK;clear hK K)|refine uz ?_|refine Ic ?_|refine Ie ?_|refine Ig ?_|refine uA ?_|(refine uB ?_ ?_<;>intro hc<;>try exact zqM))
 all_goals first
  |(((refine Ends.frz 2 ?_;simp-dsimp(disch:=try exact vD) only[push_cast,simprocAttr,Tryz.f157,Qx];(repeat refine aI ?_);intro K hK;refine hK _ _ ?_;clear hK K);refine Ends.mk2 zqI [] ?_;simp-dsimp(disch:=try exact vD) only[push_cast,simprocAttr,Tryz.f157,Qx];try exact zqF);done)
  |skip
theorem aiv(ha:Lim a)(hb:Lim b)(hl:a.length=n)(hm:b.length=m)(hle:m<n)(hn:n<2^40):ACall Tryz.prog 157 [.isl z' (cI .u32 b) m,.isl z (cI .u32 a) n] [] 0 (.isl false (cI .u32 (ru a b)) (n+1)) []:=by
 have zx2:=ae;have zx3:=ae;have zx4:=ae;have zx5:=ae
 unfold ru
 rw[hl]
 refine ak Tryz.func157 Tryz.ntmps157 rfl ?_
 have zx1:= @gd0;have zx6:= @aia;have zx7:= @acQ;have zx8:= @pL_len;have zx9:= @lG;repeat' (first|(refine ai ?_;refine au [0] ([0].length) (psI z z' a b n m) (fun i=>n-i.val) (⟨0,Nat.zero_le _⟩) rfl (by unfold psI;exact kK) ?_;(rintro⟨i,hi⟩;have hpr:=mU (a:=a) (b:=b) (i:=i);rcases Nat.lt_or_eq_of_le hi with hil|hil<;>first|(have ei:n=i:=hil.symm;subst ei;(simp-dsimp only[psI];refine zqS ?_))|(have har:=ha.at i;have hbr:=hb.at i;rcases Nat.lt_or_ge i m with him|him<;>rcases Decidable.em (1000000000≤a.getD i 0+pC a b i+b.getD i 0) with zx2|zx2<;>first|(have zx5:b.getD i 0=0:=getD_out (by omega);have zx3:=Oj zx2;have zx4:=LK zx2;rw[zx5,Int.add_zero] at zx3 zx2;(simp-dsimp only[psI];refine zqS ?_))|(have zx5:b.getD i 0=0:=getD_out (by omega);have zx3:=Ol zx2;have zx4:=JJ zx2;rw[zx5,Int.add_zero] at zx3 zx2;(simp-dsimp only[psI];refine zqS ?_))|(have zx3:=Oj zx2;have zx4:=LK zx2;(simp-dsimp only[psI];refine zqS ?_))|(have zx3:=Ol zx2;have zx4:=JJ zx2;(simp-dsimp only[psI];refine zqS ?_)))))|(refine ax ?_;refine Nxt.mk [2] (⟨i+1,by omega⟩) rfl (by unfold psI;exact kK) zqO)|(refine ax ?_;refine Nxt.mk [1] (⟨i+1,by omega⟩) rfl (by unfold psI;exact kK) zqO)|refine zqN ?_|((first|refine ay rfl (fun K hK=>?_)|refine aj (fun K hK=>?_));(first|apply nY);refine qV ?_;apply hK;clear hK K)|refine uz ?_|refine Ic ?_|refine Ie ?_|refine Ig ?_|refine uA ?_|(refine uB ?_ ?_<;>intro hc<;>try exact zqM))
 all_goals first
  |(((refine Ends.frz 2 ?_;simp-dsimp(disch:=try exact vD) only[push_cast,simprocAttr,Tryz.f157,Qx];(repeat refine aI ?_);intro K hK;refine hK _ _ ?_;clear hK K);refine Ends.mk2 zqI [] ?_;simp-dsimp(disch:=try exact vD) only[push_cast,simprocAttr,Tryz.f157,Qx];try exact zqF);done)
  |skip
def mnI(z z':Bool)(a b:List Int)(n m:Nat)(i:{i:Nat // i≤n}):St:=
 ⟨45,0,[(1,.isl z' (cI .u32 b) m),(5,.sl 0 0 i.val 1),(6,.val (.int .u32 (mC a b i.val))),(13,.isl z (cI .u32 a) n),(14,.val (.int .i64 n)),(15,.val (.int .i64 i.val))],[(0,some (.cells (cI .u32 (mL a b i.val)) 115))]⟩
theorem Qy(ha:Lim a)(hb:Lim b)(hl:a.length=n)(hm:b.length=m)(hle:m≤n)(hn:n<2^40)(hv:val b≤val a):ACall Tryz.prog 158 [.isl z (cI .u32 a) n,.isl z' (cI .u32 b) m] [] 0 (.isl false (cI .u32 (lb (val a-val b).toNat)) (lb (val a-val b).toNat).length) []:=by
 have zx2:=ae;have zx3:=ae;have zx4:=ae;have zx5:=ae
 have hmo:=LM ha hb (by omega) hv
 rw[hl] at hmo
 have hml:(mL a b n).length=n:=ry
 have ht:=PLift.up (mD (z:=false) (l:=mL a b n) hml (by omega))
 have e1:=jK hmo.1
 have e2:=jL hmo.1
 rw[hml,hmo.2] at e1 e2
 rw[e1,←e2] at ht
 generalize lb (val a-val b).toNat=R at ht⊢
 refine ak Tryz.func158 Tryz.ntmps158 rfl ?_
 have zx1:= @gd0;have zx6:= @mL_z;have zx7:= @mC_0;have zx8:= @ry;have zx9:= @lG;have zx10:= @aeT;have zx11:=aC;have zx12:=aC;repeat' (first|((first|refine bI (r:=15) 0 ?_|refine bH (r:=15) 0 ?_);refine Ih ?_;intro K hK;refine hK _ _ ?_;clear hK K)|(refine ai ?_;refine au [0] ([0].length) (mnI z z' a b n m) (fun i=>n-i.val) (⟨0,Nat.zero_le _⟩) rfl (by unfold mnI;exact iP) ?_;(rintro⟨i,hi⟩;have hpr:=yE (a:=a) (b:=b) (i:=i);rcases Nat.lt_or_eq_of_le hi with hil|hil<;>first|(have ei:n=i:=hil.symm;subst ei;(simp-dsimp only[mnI];refine zqS ?_))|(have har:=ha.at i;have hbr:=hb.at i;rcases Nat.lt_or_ge i m with him|him<;>rcases Decidable.em (a.getD i 0<mC a b i+b.getD i 0) with zx2|zx2<;>first|(have zx5:b.getD i 0=0:=getD_out (by omega);have zx3:=aib zx2;have zx4:=acR zx2;rw[zx5,Int.add_zero] at zx3 zx2;(simp-dsimp only[mnI];refine zqS ?_))|(have zx5:b.getD i 0=0:=getD_out (by omega);have zx3:=aic zx2;have zx4:=acS zx2;rw[zx5,Int.add_zero] at zx3 zx2;(simp-dsimp only[mnI];refine zqS ?_))|(have zx3:=aib zx2;have zx4:=acR zx2;(simp-dsimp only[mnI];refine zqS ?_))|(have zx3:=aic zx2;have zx4:=acS zx2;(simp-dsimp only[mnI];refine zqS ?_)))))|(refine ax ?_;refine Nxt.mk [2] (⟨i+1,by omega⟩) rfl (by unfold mnI;exact iP) zqO)|(refine ax ?_;refine Nxt.mk [1] (⟨i+1,by omega⟩) rfl (by unfold mnI;exact iP) zqO)|refine zqN ?_|refine Er ht.down ?_|((first|refine ay rfl (fun K hK=>?_)|refine aj (fun K hK=>?_));(first|apply nY);refine Ih ?_;apply hK;clear hK K)|refine A7 ?_|refine NR ?_|refine NS ?_|refine NT ?_|refine A8 ?_|(refine A9 ?_ ?_<;>intro hc<;>try exact zqM))
 all_goals first
  |((refine Ends.mk2 zqI [] ?_;simp-dsimp(disch:=try exact vD) only[push_cast,simprocAttr,Tryz.f158];try exact zqF);done)
  |skip
end
section
open Go Go.Sy Go.Bp Go.Lm
attribute [local irreducible] AO AL AC OpT ACall Ends DGo bK Thn Blk Nxt
variable {n N M k i m j:Nat} {z z' neg:Bool} {l a b T:List Int} {v x y:Int}
def tmI(z z':Bool)(a b:List Int)(n m:Nat)(i:{i:Nat // i≤n}):St:=
 ⟨69,0,[(1,.isl z' (cI .u32 b) m),(5,.sl 0 0 (n+m) 1),(18,.isl z (cI .u32 a) n),(19,.val (.int .i64 n)),(20,.val (.int .i64 i.val))],[(0,some (.cells (cI .u32 (tT a b i.val)) 115))]⟩
def tmJ(z z':Bool)(a b:List Int)(n m i:Nat)(x:Int)(T:List Int)(k:{k:Nat // k≤m}):St:=
 ⟨69,0,[(1,.isl z' (cI .u32 b) m),(5,.sl 0 0 (n+m) 1),(6,.val (.int .i64 i)),(7,.val (.int .u32 x)),(8,.val (.int .u64 (tK x b i T k.val).2)),(18,.isl z (cI .u32 a) n),(19,.val (.int .i64 n)),(20,.val (.int .i64 i)),(25,.isl z' (cI .u32 b) m),(26,.val (.int .i64 m)),(27,.val (.int .i64 k.val))],[(0,some (.cells (cI .u32 (tK x b i T k.val).1) 115))]⟩
theorem ada(ha:Lim a)(hb:Lim b)(hl:a.length=n)(hm:b.length=m)(hn:n<2^30)(hn2:m<2^30):ACall Tryz.prog 156 [.isl z (cI .u32 a) n,.isl z' (cI .u32 b) m] [] 0 (.isl false (cI .u32 (lb (val a*val b).toNat)) (lb (val a*val b).toNat).length) []:=by
 have zx2:=ae;have zx3:=ae;have zx4:=ae;have zx5:=ae;have zx6:=ae
 have hmo:=Xj ha hb
 rw[hl] at hmo
 have hml:(tT a b n).length=n+m:=by rw[Om,hl,hm]
 have ht:=PLift.up (mD (z:=false) (l:=tT a b n) hml (by omega))
 have e1:=jK hmo.1
 have e2:=jL hmo.1
 rw[hml,hmo.2] at e1 e2
 rw[e1,←e2] at ht
 have zx8:(tT a b n).take (n+m)=tT a b n:=List.take_of_length_le (by omega)
 have zx7:tT a b 0=List.replicate (n+m) 0:=by rw[aie,hl,hm]
 have hts:=fun(i:Nat)=>aif (a:=a) (b:=b) (i:=i)
 have hok:=fun(i:Nat) (h:i≤n)=>aeN (i:=i) ha hb (by omega)
 have hTl:=fun(i:Nat)=>Om (a:=a) (b:=b) (i:=i)
 rw[hm] at hts
 rw[hl,hm] at hTl
 clear e1 e2 hmo
 generalize lb (val a*val b).toNat=R at ht⊢
 refine ak Tryz.func156 Tryz.ntmps156 rfl ?_
 have zx1:= @gd0;have zx9:= @tK_0;have zx10:= @EN;have zx11:=aC;have zx12:=aC;repeat' (first|((first|refine bI (r:=15) 0 ?_|refine bH (r:=15) 0 ?_);refine Ih ?_;intro K hK;refine hK _ _ ?_;clear hK K)|(refine ai ?_;refine au [0] ([0].length) (tmJ z z' a b n m i x T) (fun k=>m-k.val) (⟨0,Nat.zero_le _⟩) rfl (by unfold tmJ;exact iP) ?_;(rintro⟨k,hk⟩;obtain⟨g1,g2,g3,g4,g5⟩:=aeM (i:=i) (k:=k) hTi hb hxr (by omega);have hlT:(tK x b i T k).1.length=n+m:=(by rw[EN];exact hTT);rcases Nat.lt_or_eq_of_le hk with hkl|hkl<;>first|(have ek:m=k:=hkl.symm;subst ek;(simp-dsimp only[tmJ];refine zqS ?_))|(have zx3:=aid (x:=x) (b:=b) (i:=i) (T:=T) (k:=k);have hra:=g1.at (i+k);have hrb:=hb.at k;have hmr:=lg hxr hrb;generalize zx5:tK x b i T k=P at*;obtain⟨L,c⟩:=P;dsimp only at*;generalize zx6:x*b.getD k 0=pp at*;(simp-dsimp only[tmJ];refine zqS ?_))))|(refine ax ?_;refine Nxt.mk [0] (⟨k+1,by omega⟩) rfl (by unfold tmJ;exact iP) zqO)|(refine ai ?_;refine au [0] ([0].length) (tmI z z' a b n m) (fun i=>n-i.val) (⟨0,Nat.zero_le _⟩) rfl (by unfold tmI;exact iP) ?_;(rintro⟨i,hi⟩;rcases Nat.lt_or_eq_of_le hi with hil|hil<;>first|(have ei:n=i:=hil.symm;subst ei;(simp-dsimp only[tmI];refine zqS ?_))|(have hxr:=ha.at i;have hTi:=(hok i hi).1;have hTT:=hTl i;have zx4:=hts i;generalize zx2:a.getD i 0=x at*;dsimp only[tmI];generalize tT a b i=T at*;(simp-dsimp(disch:=try exact vD) only[push_cast,simprocAttr,]))))|(refine ax ?_;refine Nxt.mk [0] (⟨i+1,by omega⟩) rfl (by unfold tmI;exact iP) zqO)|refine zqN ?_|refine Er ht.down ?_|refine A7 ?_|refine A8 ?_|(refine A9 ?_ ?_<;>intro hc<;>try exact zqM))
 all_goals first
  |((refine Ends.mk2 zqI [] ?_;simp-dsimp(disch:=try exact vD) only[push_cast,simprocAttr,Tryz.f156];try exact zqF);done)
  |skip
end
