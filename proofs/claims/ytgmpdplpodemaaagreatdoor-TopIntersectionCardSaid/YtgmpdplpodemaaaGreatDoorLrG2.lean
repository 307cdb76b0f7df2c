/- Lr2 Lr3 Lr4 Lr5 Lr6. No condition. -/
import Derived.Test.YtgmpdplpodemaaaGreatDoorLr1
import Derived.Test.YtgmpdplpodemaaaGreatDoorLqG1
set_option linter.all false
set_option maxHeartbeats 4000000
set_option maxRecDepth 20000
namespace Go.Proofs.YtgmpdplpodemaaaGreatDoor
section
open Go Go.Sy Go.Bp Go.Lm
attribute [local irreducible] AO AL AC OpT ACall Ends DGo aN Thn Blk Nxt
variable {n N M k i m j r q up:Nat} {z z' zq zr neg nx ny:Bool} {l a b u vl L R T Q Lx Ly:List Int} {v x y d f g c rv e:Int}
def Gn(z z':Bool)(a b:List Int)(n m:Nat)(i:{i:Nat // i≤n}):St:=
 ⟨36,0,[(0,.isl z (cI .u32 a) n),(1,.isl z' (cI .u32 b) m),(5,gL i.val 0 1),(6,.val (.int .u64 (mC a b i.val))),(7,.val (.int .i64 i.val))],gM i.val 0 (cI .u32 (mL a b i.val)) 136⟩
theorem aaY(ha:Lim a)(hb:Lim b)(hl:a.length=n)(hm:b.length=m)(hp:0<n)(hle:m≤n)(hn:n<2^39)(hv:val b≤val a):ACall Tryz.prog 198 [.isl z (cI .u32 a) n,.isl z' (cI .u32 b) m] [] 0 (.isl false (cI .u32 (lb (val a-val b).toNat)) (lb (val a-val b).toNat).length) []:=by
 have hT:=PLift.up (by
  obtain⟨g1,g2⟩:=Dl ha hb (by omega) hv
  have:=xZ (z:=false) g1 (n:=a.length) nZ (by omega)
  rw[g2,hl] at this;exact this)
 have hlim:=fun(i:Nat) (h:i<2^50)=>PLift.up (Bi (z:=z) ha hl (show n<2^47 by omega) h)
 have hlim2:=fun(i:Nat) (h:i<2^50)=>PLift.up (Bi (z:=z') hb hm (show m<2^47 by omega) h)
 generalize lb (val a-val b).toNat=V at hT⊢
 have zx1:=ae;have zx2:=ae;have zx3:=ae;have zx4:=ae
 refine az Tryz.func198 Tryz.ntmps198 rfl ?_
 have zx5:= @mL_z;have zx6:= @mC_0;have zx7:= @nZ;have zx8:= @Xf;have zx9:= @fQ;repeat' (first|((first|refine dP (r:=9) 0 ?_|refine dO (r:=9) 0 ?_);refine qD ?_;intro K hK;refine hK _ _ ?_;clear hK K)|(refine ai ?_;refine au [9] ([9].length) (Gn z z' a b n m) (fun i=>n-i.val) (⟨0,Nat.zero_le _⟩) rfl (by unfold Gn;exact dM) ?_;(rintro⟨i,hi⟩;have hpr:=uA (a:=a) (b:=b) (i:=i);rcases Nat.lt_or_eq_of_le hi with hil|hil<;>first|(subst hil;(simp-dsimp only[Gn];refine zqS ?_))|(obtain⟨zx2,zx3,he0⟩:=aaW (i:=i) ha hb;have zx4:=mL_s (a:=a) (b:=b) (i:=i);have har:=ha.at i;have hbr:=hb.at i;have hr2:=uA (a:=a) (b:=b) (i:=i+1);generalize zx1:a.getD i 0+1000000000-b.getD i 0-mC a b i=x at*;generalize mX a b i=px at*;rcases Nat.eq_zero_or_pos i with hi0|hi0<;>(simp-dsimp only[Gn];refine zqS ?_))))|(refine aj ?_;refine Nxt.mk [2] (⟨i+1,by omega⟩) rfl (by unfold Gn;exact dM) zqO)|(refine aj ?_;refine Nxt.mk [1] (⟨i+1,by omega⟩) rfl (by unfold Gn;exact dM) zqO)|(refine aj ?_;refine Nxt.mk [0] (⟨i+1,by omega⟩) rfl (by unfold Gn;exact dM) zqO)|refine zqN ?_|refine kY hT.down ?_|refine kY (hlim i (by omega)).down ?_|refine kY (hlim2 i (by omega)).down ?_|refine rJ ?_|refine rM ?_|refine rO ?_|refine rP ?_|refine rT ?_|(refine rU ?_ ?_<;>intro hc<;>try exact zqM))
 all_goals first
  |((refine Ends.mk2 zqI [] ?_;simp-dsimp(disch:=try exact vD) only[push_cast,simprocAttr,Tryz.f198];try exact zqF);done)
  |skip
def rtT(a:List Int)(d:Int)(up i:Nat):List Int:=List.replicate up 0++scL a d i
theorem ac9:rtT a d up 0=List.replicate up 0:=List.append_nil _
theorem ada:rtT a d up (i+1)=rtT a d up i++[(scC a d i+a.getD i 0*d)%1000000000]:=by unfold rtT;rw[Dr,List.append_assoc]
theorem aaZ:(rtT a d up i).take (up+i)=rtT a d up i:=List.take_of_length_le (by unfold rtT;rw[List.length_append,List.length_replicate,iJ];exact Nat.le_refl _)
theorem Bj:(rtT a d up i).length=up+i:=by unfold rtT;rw[List.length_append,List.length_replicate,iJ]
def Gq(z:Bool)(a:List Int)(n:Nat)(d:Int)(up:Nat)(i:{i:Nat // i≤n+1}):St:=
 ⟨40,0,[(0,.isl z (cI .u32 a) n),(1,.val (.int .u64 d)),(7,.sl 0 0 (up+i.val) 1),(8,.val (.int .u64 (scC a d i.val))),(9,.val (.int .i64 i.val))],[(0,some (.cells (cI .u32 (rtT a d up i.val)) 136))]⟩
theorem KX(ha:Lim a)(hl:a.length=n)(hd:0≤d∧d<1000000000)(hn:n<2^29)(hup:up<2^29):ACall Tryz.prog 160 [.isl z (cI .u32 a) n,.val (.int .u64 d),.val (.int .i64 up)] [] 0 (.isl false (cI .u32 (lb (bp up*(val a*d)).toNat)) (lb (bp up*(val a*d)).toNat).length) []:=by
 have hT:∀i,n≤i→i≤n+1→scC a d i=0→PLift (ACall Tryz.prog 158 [.isl false (cI .u32 (rtT a d up i)) (up+i)] [] 0 (.isl false (cI .u32 (lb (bp up*(val a*d)).toNat)) (lb (bp up*(val a*d)).toNat).length) []):=fun i h1 h2 h3=>⟨by
  obtain⟨g1,g2⟩:=VC (k:=up) ha hd (i:=i) (by omega) h3
  have:=xZ (z:=false) (l:=rtT a d up i) g1 (n:=up+i) Bj (by omega)
  rw[show val (rtT a d up i)=_ from g2] at this;exact this⟩
 have hlim:=fun(i:Nat) (h:i<2^50)=>PLift.up (Bi (z:=z) ha hl (show n<2^47 by omega) h)
 have hend:scC a d (n+1)=0:=VD ha hd (by omega)
 have zx8:=ac9 (a:=a) (d:=d) (up:=up)
 generalize lb (bp up*(val a*d)).toNat=V at hT⊢
 have zx1:=ae;have zx2:=ae;have zx3:=ae;have zx4:=ae;have zx5:=ae;have zx6:=ae;have zx7:=ae
 refine az Tryz.func160 Tryz.ntmps160 rfl ?_
 have zx9:= @Dq;have zx10:= @Bj;have zx11:= @aaZ;have zx12:=aD;repeat' (first|((first|refine dP (r:=9) 0 ?_|refine dO (r:=9) 0 ?_);refine CS ?_;intro K hK;refine hK _ _ ?_;clear hK K)|(refine ai ?_;refine au [0] ([0].length) (Gq z a n d up) (fun i=>n+1-i.val) (⟨0,Nat.zero_le _⟩) rfl (by unfold Gq;exact bX) ?_;(rintro⟨i,hi⟩;have hcr:=o6 (i:=i) ha hd;have hgo:i<n∨(n≤i∧0<scC a d i∧i<n+1)∨(n≤i∧scC a d i=0):=(by rcases Nat.lt_or_ge i n with h|h;exact .inl h;by_cases hc:scC a d i=0;exact .inr (.inr ⟨h,hc⟩);refine .inr (.inl ⟨h,by omega,Nat.lt_of_le_of_ne hi fun e=>hc ?_⟩);rw[e];exact hend);rcases hgo with hgo|⟨hgo,hcp,hgo2⟩|⟨hgo,zx5⟩<;>first|(have hTi:=hT i hgo hi zx5;(simp-dsimp only[Gq];refine zqS ?_))|(have har:=ha.at i;have hmr:=kg har hd;have zx6:=zI (u:=a) (d:=d) (i:=i);have zx4:=ada (a:=a) (d:=d) (up:=up) (i:=i);have hrl:=Bj (a:=a) (d:=d) (up:=up) (i:=i);have zx1:a.getD i 0*d+scC a d i=scC a d i+a.getD i 0*d:=Int.add_comm _ _;generalize zx7:a.getD i 0*d=pp at*;(simp-dsimp only[Gq];refine zqS ?_))))|(refine aj ?_;refine Nxt.mk [2] (⟨i+1,by omega⟩) rfl (by unfold Gq;exact bX) zqO)|(refine aj ?_;refine Nxt.mk [1] (⟨i+1,by omega⟩) rfl (by unfold Gq;exact bX) zqO)|(refine aj ?_;refine Nxt.mk [0] (⟨i+1,by omega⟩) rfl (by unfold Gq;exact bX) zqO)|refine zqN ?_|refine bW hTi.down ?_|refine bW (hlim i (by omega)).down ?_|refine jV ?_|refine Fu ?_|refine Fv ?_|refine Fw ?_|refine jW ?_|(refine jX ?_ ?_<;>intro hc<;>try exact zqM))
 all_goals first
  |((refine Ends.mk2 zqI [] ?_;simp-dsimp(disch:=try exact vD) only[push_cast,simprocAttr,Tryz.f160];try exact zqF);done)
  |skip
end
section
open Go Go.Sy Go.Bp Go.Lm
attribute [local irreducible] AO AL AC OpT ACall Ends DGo aN Thn Blk Nxt
variable {n N M k i m j r q up A B:Nat} {z z' zq zr neg nx ny:Bool} {l a b u vl L R T Q Lx Ly:List Int} {v x y d f g c rv e:Int} {W W2 X Y:IV}
theorem VH(h:B≤A)(h0:0<A)(h1:(lb A).length<2^38):ACall Tryz.prog 198 [.isl z (cI .u32 (lb A)) (lb A).length,.isl z' (cI .u32 (lb B)) (lb B).length] [] 0 (.isl false (cI .u32 (lb (A-B))) (lb (A-B)).length) []:=by
 have hl:0<(lb A).length:=Nat.pos_of_ne_zero fun hc=>by have:=iZ.1 (List.length_eq_zero_iff.1 hc);omega
 have:=aaY (z:=z) (z':=z') (a:=lb A) (b:=lb B) lim_lb lim_lb rfl rfl hl (ko h) (by omega) (by rw[aW,aW];omega)
 rw[aW,aW,show((A:Int)-B).toNat=A-B by omega] at this
 exact this
end
section
open Go Go.Sy Go.Bp Go.Lm
attribute [local irreducible] AO AL AC OpT ACall Ends DGo aN Thn Blk Nxt
variable {n N M k i m j r q up A B V:Nat} {z z' zq zr neg nx ny:Bool} {l a b u vl L R T Q Lx Ly:List Int} {v x y d f g c rv e:Int} {W W2 X Y:IV}
def rR(a:List Int)(V i:Nat):Nat:=(val (a.drop i)%(V:Int)).toNat
theorem o8(hV:0<V):((rR a V i:Nat):Int)=val (a.drop i)%(V:Int):=by
 unfold rR
 exact Int.toNat_of_nonneg (Int.emod_nonneg _ (by omega))
theorem aa0(h:a.length≤i):rR a V i=0:=by unfold rR;rw[List.drop_eq_nil_of_le h,jo,Int.zero_emod];rfl
def rW(a:List Int)(V i:Nat):Nat:=(a.getD i 0+1000000000*((rR a V (i+1):Nat):Int)).toNat
theorem wH(ha:Lim a):((rW a V i:Nat):Int)=a.getD i 0+1000000000*((rR a V (i+1):Nat):Int):=by
 have:=(ha.at i).1
 unfold rW;omega
theorem rR_s(ha:Lim a)(hi:i<a.length)(hV:0<V):rR a V i=rW a V i%V:=by
 have h:=aaV (V:=(V:Int)) ha hi (by omega)
 rw[←o8 hV,←o8 hV,←wH ha,←Int.natCast_emod] at h
 exact Int.ofNat.inj h
theorem rW_q(ha:Lim a)(hi:i<a.length)(hV:0<V):(a.getD i 0+1000000000*(val (a.drop (i+1))%(V:Int)))/(V:Int)=((rW a V i/V:Nat):Int):=by
 rw[←o8 hV,←wH ha,Int.natCast_ediv]
theorem adb(ha:Lim a)(hV:0<V):rW a V i<V*1000000000:=by
 have h:=wH (V:=V) (i:=i) ha
 have h2:=o8 (a:=a) (i:=i+1) hV
 have h3:=Int.emod_lt_of_pos (val (a.drop (i+1))) (show(0:Int)<V by omega)
 have:=(ha.at i).2
 omega
theorem adc(ha:Lim a)(hi:i<a.length)(hV:0<V):(rW a V i:Int)≤val a:=by
 have h:=wH (V:=V) (i:=i) ha
 have h2:=o8 (a:=a) (i:=i+1) hV
 have h3:=(bv (l:=a.drop (i+1)) ha.drop).1
 have h4:=Int.emod_lt_of_pos (val (a.drop (i+1))) (show(0:Int)<V by omega)
 have h5:val (a.drop (i+1))%(V:Int)≤val (a.drop (i+1)):=by
  have e:=Int.mul_ediv_add_emod (val (a.drop (i+1))) V
  have:=Int.mul_nonneg (show(0:Int)≤V by omega) (Int.ediv_nonneg h3 (show(0:Int)≤V by omega))
  omega
 have h6:=fD hi
 have h7:=fU (l:=a) i
 have h8:=iO (k:=min i a.length)
 have h9:=(bv (l:=a.take i) ha.take).1
 have h10:1*val (a.drop i)≤bp (min i a.length)*val (a.drop i):=Int.mul_le_mul_of_nonneg_right (by omega) (bv (l:=a.drop i) ha.drop).1
 omega
def fl(k n:Nat):Bool:=k==n
theorem fl_n:fl n n=true:=by unfold fl;simp
theorem fl_s(h:k<n):fl k n=false:=by unfold fl;simp;omega
def KY(z z':Bool)(a b:List Int)(n m:Nat)(V:Nat)(k:{k:Nat // k≤n}):St:=
 ⟨63,0,[(0,.isl z (cI .u32 a) n),(1,.isl z' (cI .u32 b) m),(6,.sl 0 0 n 1),(7,.isl (fl k.val n) (cI .u32 (lb (rR a V k.val))) (lb (rR a V k.val)).length),(8,.val (.int .i64 ((k.val:Int)-1)))],[(0,some (.cells (cI .u32 (rqv a V n k.val)) 136))]⟩
def rbI(z z':Bool)(a b Q:List Int)(n m:Nat)(V Wn i T:Nat)(p:{p:Nat×Nat // 1≤p.1∧p.1<p.2∧p.2≤T∧V*p.1≤Wn∧Wn<V*p.2}):St:=
 ⟨63,0,[(0,.isl z (cI .u32 a) n),(1,.isl z' (cI .u32 b) m),(6,.sl 0 0 n 1),(7,.isl false (cI .u32 (lb Wn)) (lb Wn).length),(8,.val (.int .i64 i)),(9,.val (.int .u64 p.val.1)),(10,.val (.int .u64 p.val.2))],[(0,some (.cells (cI .u32 Q) 136))]⟩
theorem VI(ha:Lim a)(hn:a.length=n)(hb:Lim b)(hm:b.length=m)(htb:Tr b)(hv:val b=(V:Int))(hV:0<V)(hn2:n<2^27)(hm2:m<2^27):
 ACall Tryz.prog 157 [.isl z (cI .u32 a) n,.isl z' (cI .u32 b) m] [] 0 (.tup [.isl false (cI .u32 (lb (val a/(V:Int)).toNat)) (lb (val a/(V:Int)).toNat).length,.isl (fl 0 n) (cI .u32 (lb (rR a V 0))) (lb (rR a V 0)).length]) []:=by
 have hbl:b=lb V:=by
  have:=OU hb htb
  rw[hv,Int.toNat_natCast] at this;exact this
 have hln:∀x:Nat,(x:Int)≤val a→(lb x).length≤n:=fun x zx8=>by
  have hr:=bv ha
  rw[hn] at hr
  refine Decidable.not_not.1 fun hc=>?_
  have:=Iz (l:=lb x) lim_lb ja (fun e=>by rw[e] at hc;simp at hc)
  rw[aW] at this
  have h2:=zH (j:=n) (k:=(lb x).length-1) (by omega)
  omega
 have hlR:∀i,(lb (rR a V i)).length≤m:=fun i=>by
  have h1:=o8 (a:=a) (i:=i) hV
  have h2:=Int.emod_lt_of_pos (val (a.drop i)) (show(0:Int)<V by omega)
  rw[←hm,hbl];exact ko (by omega)
 have htr:∀i,i<n→PLift (ACall Tryz.prog 158 [.sl 0 0 (1+(lb (rR a V (i+1))).length) 1] [.cells (.val (.int .u32 (a.getD i 0))::cI .u32 (lb (rR a V (i+1)))) 136] 0 (.isl false (cI .u32 (lb (rW a V i))) (lb (rW a V i)).length) []):=fun i hi=>⟨by
  have hl:=hlR (i+1)
  have hcl:=VB (n:=rR a V (i+1)) (ha.at i)
  have:=zN (l:=a.getD i 0::lb (rR a V (i+1))) (n:=1+(lb (rR a V (i+1))).length) hcl.1 (by rw[List.length_cons];omega) (by omega)
  rw[hcl.2] at this
  exact this⟩
 have hWl:∀i,i<n→(lb (rW a V i)).length≤n:=fun i hi=>hln _ (adc ha (by omega) hV)
 have hcm:∀X:Nat,(lb X).length<2^30→PLift (ACall Tryz.prog 197 [.isl false (cI .u32 (lb X)) (lb X).length,.isl z' (cI .u32 b) m] [] 0 (.val (.int .i64 (eF X V))) []):=fun X hX=>⟨by
  have:=uT (z:=false) (z':=z') (a:=lb X) (b:=b) lim_lb hb ja htb (by omega) (by omega)
  rw[hm,show mQ (lb X) b=eF X V by unfold mQ eF;rw[aW,hv]] at this
  exact this⟩
 have htm:∀d:Nat,d<1000000000→PLift (ACall Tryz.prog 160 [.isl z' (cI .u32 b) m,.val (.int .u64 d),.val (.int .i64 0)] [] 0 (.isl false (cI .u32 (lb (V*d))) (lb (V*d)).length) []):=fun d hd=>⟨by
  have:=KX (z:=z') (a:=b) (n:=m) (d:=(d:Int)) (up:=0) hb hm ⟨by omega,by omega⟩ (by omega) (by decide)
  rw[hv,OT,Int.one_mul,←Int.natCast_mul,Int.toNat_natCast] at this
  exact this⟩
 have hcm2:∀X Y:Nat,(lb X).length<2^30→(lb Y).length<2^30→PLift (ACall Tryz.prog 197 [.isl false (cI .u32 (lb X)) (lb X).length,.isl false (cI .u32 (lb Y)) (lb Y).length] [] 0 (.val (.int .i64 (eF X Y))) []):=fun X Y hX hY=>⟨by
  have:=uT (z:=false) (z':=false) (a:=lb X) (b:=lb Y) lim_lb lim_lb ja ja (by omega) (by omega)
  rw[show mQ (lb X) (lb Y)=eF X Y by unfold mQ eF;rw[aW,aW]] at this
  exact this⟩
 have hVd:∀d:Nat,d<1000000000→(lb (V*d)).length<2^30:=fun d hd=>by
  have hr:=bv hb
  rw[hv,hm] at hr
  refine Nat.lt_of_le_of_lt (m:=m+1) (Decidable.not_not.1 fun hc=>?_) (by omega)
  have:=Iz (l:=lb (V*d)) lim_lb ja (fun e=>by rw[e] at hc;simp at hc)
  rw[aW] at this
  have h2:=zH (j:=m+1) (k:=(lb (V*d)).length-1) (by omega)
  rw[uw] at h2
  have h3:V*d≤V*1000000000:=Nat.mul_le_mul (Nat.le_refl _) (by omega)
  omega
 have hq0:=adB (V:=(V:Int)) ha hn (by omega)
 have hqt:=PLift.up (by
  have:=xZ (z:=false) (l:=rqv a V n 0) adA (n:=n) (adw (Nat.zero_le _)) (by omega)
  rw[hq0] at this;exact this)
 have hqset:∀i,i<n→(rqv a V n (i+1)).set i ((rW a V i/V:Nat):Int)=rqv a V n i:=fun i hi=>adx ha hn hi (by omega) (rW_q ha (by omega) hV)
 have hqsame:∀i,i<n→rW a V i<V→rqv a V n i=rqv a V n (i+1):=fun i hi h=>(ady ha hn hi (by omega) (by rw[rW_q ha (by omega) hV,Nat.div_eq_of_lt h];rfl)).symm
 have hql:∀i,i≤n→(rqv a V n i).length=n:=fun i hi=>adw hi
 have hRs:∀i,i<n→rR a V i=rW a V i%V:=fun i hi=>rR_s ha (by omega) hV
 have hWb:=fun(i:Nat)=>adb (i:=i) ha hV
 have hsb:∀X Y:Nat,Y≤X→0<X→(lb X).length<2^30→PLift (ACall Tryz.prog 198 [.isl false (cI .u32 (lb X)) (lb X).length,.isl false (cI .u32 (lb Y)) (lb Y).length] [] 0 (.isl false (cI .u32 (lb (X-Y))) (lb (X-Y)).length) []):=fun X Y h1 h2 h3=>⟨VH h1 h2 (by omega)⟩
 have hrt:rR a V n=0:=aa0 (by omega)
 have zx2:cI .u32 (lb (rR a V n))=[]:=by rw[hrt];rfl
 have zx3:(lb (rR a V n)).length=0:=by rw[hrt];rfl
 have zx4:rqv a V n n=List.replicate n 0:=adz
 have zx5:(rqv a V n 0).take n=rqv a V n 0:=List.take_of_length_le (by rw[hql 0 (Nat.zero_le _)];exact Nat.le_refl _)
 generalize lb (val a/(V:Int)).toNat=QQ at*
 clear hq0 hbl hln hv
 have zx8:=ae;have zx9:=ae;have zx10:=ae;have zx11:=ae;have zx12:=ae;have zx13:=ae;have zx14:=ae;have zx15:=ae;have zx16:=ae;have zx17:=ae;have zx18:=ae
 refine az Tryz.func157 Tryz.ntmps157 rfl ?_
 have zx1:= @gd0;have zx6:= @fl_n;have zx7:= @fl_s;have zx19:= @a1s;have zx20:=aD;repeat' (first|((first|refine dP (r:=16) 0 ?_|refine dO (r:=16) 0 ?_);refine Hy ?_;intro K hK;refine hK _ _ ?_;clear hK K)|(refine ai ?_;refine au [0] ([0].length) (rbI z z' a b Qa n m V Wn i T) (fun p=>p.val.2-p.val.1) (⟨(1,T),hp0⟩) rfl (by unfold rbI;exact gW) ?_;(rintro⟨⟨lo,hi⟩,q1,q2,q3,q4,q5⟩;dsimp only at q1 q2 q3 q4 q5;rcases Nat.lt_or_ge 1 (hi-lo) with hgo|hgo<;>first|(obtain⟨mid,hmd⟩:∃mid,(lo+hi)/2=mid:=⟨_,rfl⟩;have zx11:((lo:Int)+(hi:Int))/2=(mid:Int):=(by omega);have hm1:lo<mid∧mid<hi:=(by omega);have htm1:=htm mid (by omega);have hvl:=hVd mid (by omega);have hcm3:=hcm2 (V*mid) Wn hvl hWn;rcases Nat.lt_or_ge Wn (V*mid) with hc|hc<;>first|(have zx15:eF ((V*mid:Nat):Int) (Wn:Int)=1:=(by unfold eF;rw[if_neg (by omega),if_pos (by omega)]);rw[zx15] at hcm3;(simp-dsimp only[rbI];refine zqS ?_))|(have zx15:eF ((V*mid:Nat):Int) (Wn:Int)≤0:=(by unfold eF;rw[if_neg (by omega:¬(Wn:Int)<((V*mid:Nat):Int))];split<;>decide);generalize eF ((V*mid:Nat):Int) (Wn:Int)=cc at zx15 hcm3;(simp-dsimp only[rbI];refine zqS ?_)))|(have hhi:hi=lo+1:=(by omega);have hqd:Wn/V=lo:=(by rw[Nat.div_eq_of_lt_le (by rw[Nat.mul_comm];exact q4) (by rw[Nat.mul_comm,←hhi];exact q5)]);have zx12:=hseti;rw[hqd] at zx12;have htm2:=htm lo (by omega);have hsb1:=hsb Wn (V*lo) q4 (by omega) hWn;have zx18:Wn-V*lo=rRi:=(by have:=Nat.div_add_mod Wn V;rw[hqd] at this;omega);rw[zx18] at hsb1;(simp-dsimp only[rbI];refine zqS ?_))))|(refine aj ?_;refine Nxt.mk [0] (⟨(mid,hi),by dsimp only;omega,by dsimp only;omega,q3,by dsimp only;omega,q5⟩) rfl (by unfold rbI;exact gW) zqO)|(refine aj ?_;refine Nxt.mk [0] (⟨(lo,mid),q1,by dsimp only;omega,by dsimp only;omega,q4,by dsimp only;omega⟩) rfl (by unfold rbI;exact gW) zqO)|(refine ai ?_;refine au [0] ([0].length) (KY z z' a b n m V) (fun k=>k.val) (⟨n,Nat.le_refl _⟩) rfl (by unfold KY;exact gW) ?_;(rintro⟨k,hk⟩;rcases Nat.eq_zero_or_pos k with hk0|hk0<;>first|(subst hk0;(simp-dsimp only[KY];refine zqS ?_))|(obtain⟨i,rfl⟩:∃i,k=i+1:=⟨k-1,by omega⟩;have hil:i<n:=(by omega);have hai:=ha.at i;have htri:=htr i hil;have hWn':=hWl i hil;have hRl:=hlR (i+1);have hWn:(lb (rW a V i)).length<2^30:=(by omega);have hcm1:=hcm (rW a V i) hWn;have hql1:=hql (i+1) hk;have hwb:=hWb i;have zx14:=hRs i hil;have hseti:=hqset i hil;have hqsm:=hqsame i hil;generalize rW a V i=Wn at*;rcases Nat.lt_or_ge Wn V with zx17|zx17<;>first|(have zx16:eF (Wn:Int) (V:Int)= -1:=(by unfold eF;rw[if_pos (by omega)]);rw[zx16] at hcm1;have zx13:=hqsm zx17;rw[Nat.mod_eq_of_lt zx17] at zx14;(simp-dsimp only[KY];refine zqS ?_))|(have zx16:0≤eF (Wn:Int) (V:Int):=(by unfold eF;rw[if_neg (by omega)];split<;>decide);generalize eF (Wn:Int) (V:Int)=cy at zx16 hcm1;obtain⟨rRi,hrri⟩:∃x,Wn%V=x:=⟨_,rfl⟩;rw[hrri] at zx14;obtain⟨T,hTT⟩:∃T:Nat,1000000000=T:=⟨_,rfl⟩;have hTI:(1000000000:Int)=(T:Int):=(by omega);have hp0:1≤1∧1<T∧T≤T∧V*1≤Wn∧Wn<V*T:=(by rw[←hTT];exact⟨Nat.le_refl _,by decide,Nat.le_refl _,by omega,hwb⟩);generalize hQa:rqv a (V:Int) n (i+1)=Qa at*;(simp-dsimp only[KY];refine zqS ?_)))))|(refine aj ?_;refine Nxt.mk [0] (⟨i,by omega⟩) rfl (by unfold KY;exact gW) zqO)|refine zqN ?_|((first|refine ax rfl (fun K hK=>?_)|refine ak (fun K hK=>?_));(first|refine ah (f:=158) (dst:=some 29) [2] 0 false ?_|refine ah (f:=158) (dst:=some 61) [] 0 false ?_|refine ah (f:=197) (dst:=some 32) [] 0 false ?_|refine ah (f:=197) (dst:=some 46) [] 0 false ?_|refine ah (f:=160) (dst:=some 44) [] 0 false ?_|refine ah (f:=160) (dst:=some 58) [] 0 false ?_|refine ah (f:=198) [] 0 false ?_);refine NR ?_;(first|refine⟨_,_,htri.down,?_⟩|refine⟨_,_,hqt.down,?_⟩|refine⟨_,_,hcm1.down,?_⟩|refine⟨_,_,hcm3.down,?_⟩|refine⟨_,_,htm1.down,?_⟩|refine⟨_,_,htm2.down,?_⟩|refine⟨_,_,hsb1.down,?_⟩);refine Hy ?_;apply hK;clear hK K)|refine Hz ?_|refine Fx ?_|refine Fy ?_|refine Fz ?_|refine HV ?_|(refine HY ?_ ?_<;>intro hc<;>try exact zqM))
 all_goals first
  |((refine Ends.mk2 zqI [] ?_;simp-dsimp(disch:=try exact vD) only[push_cast,simprocAttr,Tryz.f157];try exact zqF);done)
  |skip
theorem I7(h1:(lb A).length<2^27)(h2:(lb B).length<2^27)(h0:0<B):ACall Tryz.prog 157 [.isl z (cI .u32 (lb A)) (lb A).length,.isl z' (cI .u32 (lb B)) (lb B).length] [] 0 (.tup [.isl false (cI .u32 (lb (A/B))) (lb (A/B)).length,.isl (A==0) (cI .u32 (lb (A%B))) (lb (A%B)).length]) []:=by
 have:=VI (z:=z) (z':=z') (a:=lb A) (b:=lb B) (V:=B) lim_lb rfl lim_lb rfl ja aW h0 h1 h2
 have e:rR (lb A) B 0=A%B:=by
  unfold rR
  rw[List.drop_zero,aW,←Int.natCast_emod,Int.toNat_natCast]
 have e2:fl 0 (lb A).length=(A==0):=by
  have:(lb A).length=0↔A=0:=by rw[List.length_eq_zero_iff,iZ]
  unfold fl
  rw[Bool.eq_iff_iff,beq_iff_eq,beq_iff_eq]
  omega
 rw[aW,←Int.natCast_ediv,Int.toNat_natCast,e,e2] at this
 exact this
theorem KZ{qb:Bool}(hq:(nx !=ny)=qb)(hm:¬m=0)
 (hd:ACall Tryz.prog 157 [.isl z (cI .u32 Lx) n,.isl z' (cI .u32 Ly) m] [] 0 (.tup [.isl zq (cI .u32 Q) q,.isl zr (cI .u32 R) r]) [])
 (hr:ACall Tryz.prog 110 [.val (.bool qb),.isl zq (cI .u32 Q) q] [] 0 (.tup [.agg (aa.cells W),.val (.int .i64 0)]) [])
 (hr2:ACall Tryz.prog 110 [.val (.bool nx),.isl zr (cI .u32 R) r] [] 0 (.tup [.agg (aa.cells W2),.val (.int .i64 0)]) []):
 ACall Tryz.prog 113 [.agg [.val (.bool nx),.isl z (cI .u32 Lx) n],.agg [.val (.bool ny),.isl z' (cI .u32 Ly) m]] [] 0 (.tup [.agg (aa.cells W),.agg (aa.cells W2),.val (.int .i64 0)]) []:=by
 subst hq
 have hd:=PLift.up hd
 rcases Bool.eq_false_or_eq_true nx with hnx|hnx<;>rcases Bool.eq_false_or_eq_true ny with hny|hny
 all_goals subst hnx
 all_goals subst hny
 all_goals have hr:=PLift.up hr
 all_goals have hr2:=PLift.up hr2
 all_goals(refine az Tryz.func113 Tryz.ntmps113 rfl ?_)
 all_goals(have zx1:= @hm;have zx2:=aD;have zx3:=aD;repeat' (first|refine zqN ?_|refine eG hd.down ?_|refine eG hr.down ?_|refine eG hr2.down ?_|refine dx ?_|refine dz ?_|(refine dA ?_ ?_<;>intro hc<;>try exact zqM)|refine zqR 6 [⟨0,[],[45],[],[],0⟩,⟨1,[],[44],[5],[],0⟩,⟨2,[0],[45],[],[5],0⟩,⟨3,[0,1,2],[],[],[6],0⟩,⟨4,[0,1,2,3],[],[],[],0⟩] ?_|refine zqD ?_|fail))
 all_goals first
  |((refine Ends.mk2 zqI [] ?_;simp-dsimp(disch:=try exact vD) only[push_cast,simprocAttr,Tryz.f113];try exact zqF);done)
  |skip
theorem sG(h:D300 x)(h2:D300 y)(h0:¬y=0):ACall Tryz.prog 113 [.agg (aa.cells (iV z x)),.agg (aa.cells (iV z' y))] [] 0 (.tup [.agg (aa.cells (iC (x.tdiv y))),.agg (aa.cells (iC (x.tmod y))),.val (.int .i64 0)]) []:=by
 have f1:=h.few;have f2:=h2.few
 have hd:=I7 (z:=z) (z':=z') (A:=x.natAbs) (B:=y.natAbs) (by omega) (by omega) (by omega)
 have l1:=ko (show x.natAbs/y.natAbs≤x.natAbs from Nat.div_le_self _ _)
 have l2:=ko (show x.natAbs%y.natAbs≤x.natAbs from Nat.mod_le _ _)
 have r1:=ol (z:=false) (neg:=decide (x<0) !=decide (y<0)) (l:=lb (x.natAbs/y.natAbs)) (v:=x.tdiv y) lim_lb rfl (by omega) (by rw[aW];exact I4) (Gl h)
 have r2:=ol (z:=(x.natAbs==0)) (neg:=decide (x<0)) (l:=lb (x.natAbs%y.natAbs)) (v:=x.tmod y) lim_lb rfl (by omega) (by rw[aW];exact Bf) (Gm h)
 have hl:(lb y.natAbs).length=0↔y=0:=by rw[List.length_eq_zero_iff,iZ];omega
 exact KZ rfl (fun e=>h0 (hl.1 e)) hd r1 r2
structure abG(G:Nat)(p:Gp):Prop where
 g:Nat.gcd p.X p.Y=G
 lx:(lb p.X).length≤34
 ly:(lb p.Y).length≤34
def PI(G:Nat)(p:{p:Gp // abG G p}):St:=
 ⟨32,0,[(4,.pt 0 0),(5,.isl p.val.z (cI .u32 (lb p.val.X)) (lb p.val.X).length),(6,.isl p.val.z' (cI .u32 (lb p.val.Y)) (lb p.val.Y).length)],[(0,some (.cells [.val (.bool false),.isl true [] 0] 58))]⟩
theorem I8(h:D300 x)(h2:D300 y):ACall Tryz.prog 109 [.agg (aa.cells (iV z x)),.agg (aa.cells (iV z' y))] [] 0 (.agg (aa.cells (iC ((Int.gcd x y:Nat):Int)))) []:=by
 have f1:=h.few;have f2:=h2.few
 have hgd:=zM h h2
 have hok:abG (Int.gcd x y) ⟨x.natAbs,y.natAbs,z,z'⟩:=⟨rfl,f1,f2⟩
 have hres:∀zz,PLift (ACall Tryz.prog 110 [.val (.bool false),.isl zz (cI .u32 (lb (Int.gcd x y))) (lb (Int.gcd x y)).length] [] 0 (.tup [.agg (aa.cells (iC ((Int.gcd x y:Nat):Int))),.val (.int .i64 0)]) []):=fun zz=>⟨ol (z:=zz) (neg:=false) (l:=lb (Int.gcd x y)) (v:=((Int.gcd x y:Nat):Int)) lim_lb rfl (by
  have:=hgd.few
  rw[Int.natAbs_natCast] at this;omega) (by rw[aW];rfl) hgd⟩
 have hdv:∀p:Gp,abG (Int.gcd x y) p→0<(lb p.Y).length→PLift (ACall Tryz.prog 157 [.isl p.z (cI .u32 (lb p.X)) (lb p.X).length,.isl p.z' (cI .u32 (lb p.Y)) (lb p.Y).length] [] 0 (.tup [.isl false (cI .u32 (lb (p.X/p.Y))) (lb (p.X/p.Y)).length,.isl (p.X==0) (cI .u32 (lb (p.X%p.Y))) (lb (p.X%p.Y)).length]) []):=fun p hp hl=>⟨by
  have l1:=hp.lx;have l2:=hp.ly
  exact I7 (z:=p.z) (z':=p.z') (A:=p.X) (B:=p.Y) (by omega) (by omega) (Nat.pos_of_ne_zero fun e=>by rw[e] at hl;simp[Vb] at hl)⟩
 generalize Int.gcd x y=G at*
 unfold iV at*
 rw[bE,bE] at*
 dsimp only at*
 generalize decide (x<0)=nx at*
 generalize decide (y<0)=ny at*
 clear h h2
 have zx1:=ae
 refine az Tryz.func109 Tryz.ntmps109 rfl ?_
 have zx2:=aD;have zx3:=aD;repeat' (first|(refine ai ?_;refine au [2] ([2].length) (PI G) (fun p=>p.val.Y) (⟨⟨_,_,_,_⟩,hok⟩) rfl (by unfold PI;exact eH) ?_;(rintro⟨⟨X,Y,zx,zy⟩,hp⟩;rcases Nat.eq_zero_or_pos (lb Y).length with zx1|zx1<;>first|(have hY0:Y=0:=iZ.1 (List.length_eq_zero_iff.1 zx1);have hXG:X=G:=(by have:=hp.g;dsimp only at this;rw[hY0,Nat.gcd_zero_right] at this;exact this);subst hXG;have hR:=hres zx;(simp-dsimp only[PI];refine zqS ?_))|(have hd:=hdv ⟨X,Y,zx,zy⟩ hp zx1;dsimp only at hd;have hY0:0<Y:=Nat.pos_of_ne_zero (fun e=>by rw[e] at zx1;simp[Vb] at zx1);have hml:X%Y<Y:=Nat.mod_lt X hY0;generalize(X==0)=zq at hd;(simp-dsimp only[PI];refine zqS ?_))))|(refine aj ?_;refine Nxt.mk [0] (⟨⟨Y,X%Y,zy,zq⟩,⟨by have:=hp.g;dsimp only at this⊢;rw[Nat.gcd_comm,←Nat.gcd_rec,Nat.gcd_comm];exact this,hp.ly,Nat.le_trans (ko (Nat.mod_le _ _)) hp.lx⟩⟩) rfl (by unfold PI;exact eH) zqO)|refine zqN ?_|refine eG hd.down ?_|refine eG hR.down ?_|refine dx ?_|refine dz ?_|(refine dA ?_ ?_<;>intro hc<;>try exact zqM)|refine zqR 1 [⟨0,[],[13,14],[],[],0⟩,⟨1,[0],[13,14],[],[],0⟩,⟨2,[],[5,11,12],[],[],0⟩,⟨3,[2],[5,11,12],[],[],0⟩,⟨4,[0,1],[13,14],[],[],0⟩,⟨5,[0,1,2,3,4],[],[],[],0⟩] ?_|refine zqD ?_|fail)
 all_goals first
  |((refine Ends.mk2 zqI [] ?_;simp-dsimp(disch:=try exact vD) only[push_cast,simprocAttr,Tryz.f109];try exact zqF);done)
  |skip
def eqL(a b:List Int)(i:Nat):Prop:=∀j,j<i→a.getD j default=b.getD j default
theorem Xi(h:eqL a b i)(h2:a.getD i default=b.getD i default):eqL a b (i+1):=fun j hj=>by
 by_cases e:j=i
 ·subst e;exact h2
 ·exact h j (by omega)
theorem VJ(h:eqL a b k)(ha:a.length=k)(hb:b.length=k):a=b:=by
 apply List.ext_getElem (by omega)
 intro j h1 h2
 have:=h j (by omega)
 rw[List.getD_eq_getElem?_getD,List.getElem?_eq_getElem h1,List.getD_eq_getElem?_getD,List.getElem?_eq_getElem h2] at this
 exact this
def yR(nx:Bool)(z z':Bool)(a b:List Int)(n:Nat)(i:{i:Nat // i≤n∧eqL a b i}):St:=
 ⟨38,0,[(2,.pt 0 0),(3,.pt 1 0),(5,.val (.int .i64 i.val))],[(0,some (.cells [.val (.bool nx),.isl z (cI .u32 a) n] 58)),(1,some (.cells [.val (.bool nx),.isl z' (cI .u32 b) n] 58))]⟩
theorem K4(ha:a.length=n)(hb:b.length=n)(hn:n<2^47):ACall Tryz.prog 61 [.agg [.val (.bool nx),.isl z (cI .u32 a) n],.agg [.val (.bool nx),.isl z' (cI .u32 b) n]] [] 0 (.val (.bool (decide (a=b)))) []:=by
 have h0:0≤n∧eqL a b 0:=⟨Nat.zero_le _,fun j hj=>absurd hj (by omega)⟩
 have zx1:=ae
 rcases Bool.eq_false_or_eq_true nx with hnx|hnx
 all_goals subst hnx
 all_goals(refine az Tryz.func61 Tryz.ntmps61 rfl ?_)
 all_goals(have zx2:=aD;have zx3:=aD;repeat' (first|(refine ai ?_;refine au [0,1] ([0,1].length) (yR true z z' a b n) (fun i=>n-i.val) (⟨0,h0⟩) rfl (by unfold yR;exact eH) ?_;(rintro⟨i,hi,he⟩;rcases Nat.lt_or_eq_of_le hi with hil|hil<;>first|(subst hil;(simp-dsimp only[yR];refine zqS ?_))|(rcases Decidable.em (a.getD i default=b.getD i default) with zx1|zx1<;>(simp-dsimp only[yR];refine zqS ?_))))|(refine aj ?_;refine Nxt.mk [0,1] (⟨i+1,by omega,Xi he zx1⟩) rfl (by unfold yR;exact eH) zqO)|(refine ai ?_;refine au [0,1] ([0,1].length) (yR false z z' a b n) (fun i=>n-i.val) (⟨0,h0⟩) rfl (by unfold yR;exact eH) ?_;(rintro⟨i,hi,he⟩;rcases Nat.lt_or_eq_of_le hi with hil|hil<;>first|(subst hil;(simp-dsimp only[yR];refine zqS ?_))|(rcases Decidable.em (a.getD i default=b.getD i default) with zx1|zx1<;>(simp-dsimp only[yR];refine zqS ?_))))|(refine aj ?_;refine Nxt.mk [0,1] (⟨i+1,by omega,Xi he zx1⟩) rfl (by unfold yR;exact eH) zqO)|refine zqN ?_|refine dx ?_|refine dz ?_|(refine dA ?_ ?_<;>intro hc<;>try exact zqM)|refine zqR 6 [⟨0,[],[29,32,33,34,35,36],[],[],0⟩,⟨1,[0],[29,32,33,34,35,36],[],[],0⟩,⟨2,[],[27,28,32,33,34,35,36],[],[],0⟩,⟨3,[0,1,2],[32,33,34,35,36],[],[],0⟩,⟨4,[0,1,2,3],[32,33,34,35,36],[],[],0⟩,⟨5,[],[27,28,29,30,31,34],[],[],0⟩,⟨6,[5],[27,28,29,30,31,34],[],[],0⟩,⟨7,[],[27,28,29,30,31,32,33],[],[],0⟩,⟨8,[5,6,7],[27,28,29,30,31],[],[],0⟩,⟨9,[5,6,7,8],[27,28,29,30,31],[],[],0⟩,⟨10,[0,1,2,3,4,5,6,7,8,9],[],[],[],0⟩] ?_|refine zqD ?_|fail))
 all_goals first
  |(have e:a=b:=VJ he ha hb;rw[decide_eq_true e];(refine Ends.mk2 zqI [] ?_;simp-dsimp(disch:=try exact vD) only[push_cast,simprocAttr,Tryz.f61];try exact zqF);done)
  |(have e:¬a=b:=(fun e=>zx1 (by rw[e]));rw[decide_eq_false e];(refine Ends.mk2 zqI [] ?_;simp-dsimp(disch:=try exact vD) only[push_cast,simprocAttr,Tryz.f61];try exact zqF);done)
  |skip
theorem Gr(h:¬nx=ny):ACall Tryz.prog 61 [.agg [.val (.bool nx),.isl z (cI .u32 a) n],.agg [.val (.bool ny),.isl z' (cI .u32 b) m]] [] 0 (.val (.bool false)) []:=by
 rcases Bool.eq_false_or_eq_true nx with hnx|hnx<;>rcases Bool.eq_false_or_eq_true ny with hny|hny
 all_goals subst hnx
 all_goals subst hny
 all_goals first
  |(exact absurd rfl h;done)
  |skip
 all_goals clear h
 all_goals(refine az Tryz.func61 Tryz.ntmps61 rfl ?_)
 all_goals repeat' (first|refine zqN ?_|refine bA ?_|refine bB ?_|(refine bC ?_ ?_<;>intro hc<;>try exact zqM)|refine zqR 6 [⟨0,[],[29,32,33,34,35,36],[],[],0⟩,⟨1,[0],[29,32,33,34,35,36],[],[],0⟩,⟨2,[],[27,28,32,33,34,35,36],[],[],0⟩,⟨3,[0,1,2],[32,33,34,35,36],[],[],0⟩,⟨4,[0,1,2,3],[32,33,34,35,36],[],[],0⟩,⟨5,[],[27,28,29,30,31,34],[],[],0⟩,⟨6,[5],[27,28,29,30,31,34],[],[],0⟩,⟨7,[],[27,28,29,30,31,32,33],[],[],0⟩,⟨8,[5,6,7],[27,28,29,30,31],[],[],0⟩,⟨9,[5,6,7,8],[27,28,29,30,31],[],[],0⟩,⟨10,[0,1,2,3,4,5,6,7,8,9],[],[],[],0⟩] ?_|refine zqD ?_|fail)
 all_goals((refine Ends.mk2 zqI [] ?_;simp-dsimp(disch:=try exact vD) only[push_cast,simprocAttr,Tryz.f61];try exact zqF))
theorem Gt(h:nx=ny)(hl:¬n=m)(hn:n<2^47)(hm:m<2^47):ACall Tryz.prog 61 [.agg [.val (.bool nx),.isl z (cI .u32 a) n],.agg [.val (.bool ny),.isl z' (cI .u32 b) m]] [] 0 (.val (.bool false)) []:=by
 subst h
 rcases Bool.eq_false_or_eq_true nx with hnx|hnx
 all_goals subst hnx
 all_goals(refine az Tryz.func61 Tryz.ntmps61 rfl ?_)
 all_goals(have zx1:= @hl;have zx2:=aD;have zx3:=aD;repeat' (first|refine zqN ?_|refine dx ?_|refine dz ?_|(refine dA ?_ ?_<;>intro hc<;>try exact zqM)|refine zqR 6 [⟨0,[],[29,32,33,34,35,36],[],[],0⟩,⟨1,[0],[29,32,33,34,35,36],[],[],0⟩,⟨2,[],[27,28,32,33,34,35,36],[],[],0⟩,⟨3,[0,1,2],[32,33,34,35,36],[],[],0⟩,⟨4,[0,1,2,3],[32,33,34,35,36],[],[],0⟩,⟨5,[],[27,28,29,30,31,34],[],[],0⟩,⟨6,[5],[27,28,29,30,31,34],[],[],0⟩,⟨7,[],[27,28,29,30,31,32,33],[],[],0⟩,⟨8,[5,6,7],[27,28,29,30,31],[],[],0⟩,⟨9,[5,6,7,8],[27,28,29,30,31],[],[],0⟩,⟨10,[0,1,2,3,4,5,6,7,8,9],[],[],[],0⟩] ?_|refine zqD ?_|fail))
 all_goals((refine Ends.mk2 zqI [] ?_;simp-dsimp(disch:=try exact vD) only[push_cast,simprocAttr,Tryz.f61];try exact zqF))
theorem Gu(h:¬(nx=ny∧n=m))(hn:n<2^47)(hm:m<2^47):ACall Tryz.prog 61 [.agg [.val (.bool nx),.isl z (cI .u32 a) n],.agg [.val (.bool ny),.isl z' (cI .u32 b) m]] [] 0 (.val (.bool false)) []:=by
 by_cases h1:nx=ny
 ·exact Gt h1 (fun e=>h ⟨h1,e⟩) hn hm
 ·exact Gr h1
theorem zO(h1:X.l.length<2^47)(h2:Y.l.length<2^47):ACall Tryz.prog 61 [.agg (aa.cells X),.agg (aa.cells Y)] [] 0 (.val (.bool (decide (X.neg=Y.neg∧X.l=Y.l)))) []:=by
 rw[bE,bE]
 by_cases h:X.neg=Y.neg∧X.l.length=Y.l.length
 ·have:=K4 (nx:=X.neg) (z:=X.z) (z':=Y.z) (a:=X.l) (b:=Y.l) (n:=Y.l.length) h.2 rfl h2
  rw[h.2,←h.1]
  have e:decide (X.neg=X.neg∧X.l=Y.l)=decide (X.l=Y.l):=by simp
  rw[e];exact this
 ·have e:¬(X.neg=Y.neg∧X.l=Y.l):=fun e=>h ⟨e.1,by rw[e.2]⟩
  rw[decide_eq_false e]
  exact Gu h h1 h2
end
section
open Go Go.Sy Go.Bp Go.Lm Go.Rt
attribute [local irreducible] AO AL AC OpT ACall Ends DGo aN Thn Blk Nxt
variable {n N M k i m j:Nat} {z z' neg:Bool} {l:List Int} {a b v x y e s c:Int} {A B A1 B1 G G2 P Q R1 R2 Z1 X1 Y1:IV} {p q:Rat} {X Y W:RV}
def mf(z neg:Bool)(l:List Int)(n:Nat)(i:{i:Nat // i≤n∧∀j,j<i→l.getD j default<1000000000}):St:=
 ⟨39,0,[(1,.pt 0 0),(3,.val (.int .i64 i.val))],[(0,some (.cells [.val (.bool neg),.isl z (cI .u32 l) n] 58))]⟩
theorem Gv(hl:l.length=n)(hn:n<2^47)(h:¬∀j,j<n→l.getD j default<1000000000):ACall Tryz.prog 107 [.agg [.val (.bool neg),.isl z (cI .u32 l) n]] [] 0 (.val (.bool false)) []:=by
 have h0:0≤n∧∀j,j<0→l.getD j default<1000000000:=⟨Nat.zero_le _,fun j hj=>absurd hj (by omega)⟩
 have zx1:=ae
 refine az Tryz.func107 Tryz.ntmps107 rfl ?_
 have zx2:=aD;have zx3:=aD;repeat' (first|(refine ai ?_;refine au [0] ([0].length) (mf z neg l n) (fun i=>n-i.val) (⟨0,h0⟩) rfl (by unfold mf;exact eH) ?_;(rintro⟨i,hi,hok⟩;rcases Nat.lt_or_eq_of_le hi with hil|hil<;>first|(exfalso;subst hil;exact h hok)|(rcases Decidable.em (1000000000≤l.getD i default) with zx1|zx1<;>(simp-dsimp only[mf];refine zqS ?_))))|(refine aj ?_;refine Nxt.mk [0] (⟨i+1,by omega,fun j hj=>by rcases Nat.lt_or_eq_of_le (Nat.le_of_lt_succ hj) with h|h;exact hok j h;rw[h];omega⟩) rfl (by unfold mf;exact eH) zqO)|refine zqN ?_|refine dx ?_|refine dz ?_|(refine dA ?_ ?_<;>intro hc<;>try exact zqM))
 all_goals first
  |((refine Ends.mk2 zqI [] ?_;simp-dsimp(disch:=try exact vD) only[push_cast,simprocAttr,Tryz.f107];try exact zqF);done)
  |skip
theorem agY(h:∀j,j<n→l.getD j default<1000000000)(hl:l.length=n)(h0:n=0):ACall Tryz.prog 107 [.agg [.val (.bool neg),.isl z (cI .u32 l) n]] [] 0 (.val (.bool (!neg))) []:=by
 subst h0
 have hz:0≤0∧∀j,j<0→l.getD j default<1000000000:=⟨Nat.zero_le _,h⟩
 rcases Bool.eq_false_or_eq_true neg with hneg|hneg
 all_goals subst hneg
 all_goals(refine az Tryz.func107 Tryz.ntmps107 rfl ?_)
 all_goals repeat' (first|(refine ai ?_;refine au [0] ([0].length) (mf z true l 0) (fun i=>0) (⟨0,hz⟩) rfl (by unfold mf;exact nU) ?_;(rintro⟨i,hi,hok⟩;have hi0:i=0:=(by omega);subst hi0;(simp-dsimp only[mf];refine zqS ?_)))|(refine ai ?_;refine au [0] ([0].length) (mf z false l 0) (fun i=>0) (⟨0,hz⟩) rfl (by unfold mf;exact nU) ?_;(rintro⟨i,hi,hok⟩;have hi0:i=0:=(by omega);subst hi0;(simp-dsimp only[mf];refine zqS ?_)))|refine zqN ?_|refine bA ?_|refine bB ?_|(refine bC ?_ ?_<;>intro hc<;>try exact zqM))
 all_goals first
  |((refine Ends.mk2 zqI [] ?_;simp-dsimp(disch:=try exact vD) only[push_cast,simprocAttr,Tryz.f107];try exact zqF);done)
  |skip
theorem PR{dd:Nat} {w:Int}(h:∀j,j<n+1→l.getD j default<1000000000)(hl:l.length=n+1)(hn:n<2^47)(hw:l.getD n default=w)(hw0:¬w=0)(hd:ACall Tryz.prog 156 [.isl z (cI .u32 l) (n+1)] [] 0 (.val (.int .i64 (dd:Int))) []):ACall Tryz.prog 107 [.agg [.val (.bool neg),.isl z (cI .u32 l) (n+1)]] [] 0 (.val (.bool (decide ((dd:Int)≤300)))) []:=by
 have hz:0≤n+1∧∀j,j<0→l.getD j default<1000000000:=⟨Nat.zero_le _,fun j hj=>absurd hj (by omega)⟩
 have hd:=PLift.up hd
 have zx1:=ae
 refine az Tryz.func107 Tryz.ntmps107 rfl ?_
 have zx2:= @hw;have zx3:= @hw0;have zx4:= @a1s;have zx5:=aD;have zx6:=aD;repeat' (first|(refine ai ?_;refine au [0] ([0].length) (mf z neg l (n+1)) (fun i=>n+1-i.val) (⟨0,hz⟩) rfl (by unfold mf;exact gG) ?_;(rintro⟨i,hi,hok⟩;rcases Nat.lt_or_eq_of_le hi with hil|hil<;>first|(subst hil;(simp-dsimp only[mf];refine zqS ?_))|(have zx1:¬1000000000≤l.getD i default:=(by have:=h i hil;omega);(simp-dsimp only[mf];refine zqS ?_))))|(refine aj ?_;refine Nxt.mk [0] (⟨i+1,by omega,fun j hj=>h j (by omega)⟩) rfl (by unfold mf;exact gG) zqO)|refine zqN ?_|refine qC hd.down ?_|refine adH ?_|refine l7 ?_|(refine l8 ?_ ?_<;>intro hc<;>try exact zqM))
 all_goals first
  |((refine Ends.mk2 zqI [] ?_;simp-dsimp(disch:=try exact vD) only[push_cast,simprocAttr,Tryz.f107];try exact zqF);done)
  |skip
theorem PS(h:∀j,j<n+1→l.getD j default<1000000000)(hl:l.length=n+1)(hn:n<2^47)(hw:l.getD n default=0):ACall Tryz.prog 107 [.agg [.val (.bool neg),.isl z (cI .u32 l) (n+1)]] [] 0 (.val (.bool false)) []:=by
 have hz:0≤n+1∧∀j,j<0→l.getD j default<1000000000:=⟨Nat.zero_le _,fun j hj=>absurd hj (by omega)⟩
 have zx1:=ae
 refine az Tryz.func107 Tryz.ntmps107 rfl ?_
 have zx2:= @hw;have zx3:= @a1s;repeat' (first|(refine ai ?_;refine au [0] ([0].length) (mf z neg l (n+1)) (fun i=>n+1-i.val) (⟨0,hz⟩) rfl (by unfold mf;exact eH) ?_;(rintro⟨i,hi,hok⟩;rcases Nat.lt_or_eq_of_le hi with hil|hil<;>first|(subst hil;(simp-dsimp only[mf];refine zqS ?_))|(have zx1:¬1000000000≤l.getD i default:=(by have:=h i hil;omega);(simp-dsimp only[mf];refine zqS ?_))))|(refine aj ?_;refine Nxt.mk [0] (⟨i+1,by omega,fun j hj=>h j (by omega)⟩) rfl (by unfold mf;exact eH) zqO)|refine zqN ?_|refine dx ?_|refine dz ?_|(refine dA ?_ ?_<;>intro hc<;>try exact zqM))
 all_goals first
  |((refine Ends.mk2 zqI [] ?_;simp-dsimp(disch:=try exact vD) only[push_cast,simprocAttr,Tryz.f107];try exact zqF);done)
  |skip
theorem VQ(hl:l.length=n):l.any (fun y=>decide (1000000000≤y))=true↔¬∀j,j<n→l.getD j default<1000000000:=by
 rw[List.any_eq_true]
 constructor
 ·rintro⟨y,h1,h2⟩ h
  obtain⟨j,hj,rfl⟩:=List.getElem_of_mem h1
  have:=h j (by omega)
  rw[gd0,iI hj] at this
  have:=of_decide_eq_true h2
  omega
 ·intro h
  refine Decidable.not_not.1 fun hc=>h fun j hj=>Decidable.not_not.1 fun h2=>hc ⟨l.getD j 0,?_,?_⟩
  ·rw[iI (by omega)];exact List.getElem_mem _
  ·exact decide_eq_true (by rw[gd0] at h2;omega)
theorem Gw{X:IV}(hl:X.l.length=n)(hn:n<2^47)(hr:R32 X.l):ACall Tryz.prog 107 [.agg (aa.cells X)] [] 0 (.val (.bool (vB X))) []:=by
 have h0:=Vp (X:=X);have h1:=aaH (X:=X);have h2:=aaI (X:=X);have h3:=Vq (X:=X)
 have ha:=VQ hl
 have hdg:=fun h=>x8 (z:=X.z) hl hn (Ba hr h)
 obtain⟨z,neg,l⟩:=X
 rw[bE]
 dsimp only at*
 rw[hl] at h0 h1 h2 h3⊢
 generalize vB ⟨z,neg,l⟩=r at*
 by_cases hall:∀j,j<n→l.getD j default<1000000000
 ·have hna:¬l.any (fun y=>decide (1000000000≤y))=true:=fun hc=>ha.1 hc hall
  rcases Nat.eq_zero_or_pos n with hz|hz
  ·rw[h0 hz];exact agY hall hl hz
  ·obtain⟨n,rfl⟩:∃m,n=m+1:=⟨_,(Nat.succ_pred_eq_of_pos hz).symm⟩
   rw[Nat.add_sub_cancel] at h1 h2 h3
   by_cases hw:l.getD n default=0
   ·rw[h1 (by omega) (.inl hw)]
    exact PS hall hl (by omega) hw
   ·have hv:=PR (z:=z) (neg:=neg) hall hl (by omega) rfl hw (hdg hna)
    by_cases h34:34<n+1
    ·rw[h1 (by omega) (.inr h34)]
     have e:decide (((dg9 l:Nat):Int)≤300)=false:=decide_eq_false (by
      rw[Du (by omega),hl];omega)
     rw[e] at hv;exact hv
    ·rw[h3 (by omega) (fun hc=>hc.elim hw h34) hna]
     have e:decide (dg9 l≤300)=decide (((dg9 l:Nat):Int)≤300):=decide_eq_decide.2 (by omega)
     rw[e];exact hv
 ·have hb:=Gv (z:=z) (neg:=neg) hl hn hall
  have hany:=ha.2 hall
  have hn0:¬n=0:=fun e=>hall fun j hj=>absurd hj (by omega)
  by_cases hc:l.getD (n-1) 0=0∨34<n
  ·rw[h1 hn0 hc];exact hb
  ·rw[h2 hn0 hc hany];exact hb
theorem sK(h:D300 v):ACall Tryz.prog 107 [.agg (aa.cells (iV z v))] [] 0 (.val (.bool true)) []:=by
 have:=Gw (X:=iV z v) rfl (by show(lb v.natAbs).length<_;have:=h.few;omega) Bb
 rw[IJ h] at this;exact this
theorem Gx(h1:ACall Tryz.prog 107 [.agg (aa.cells A)] [] 0 (.val (.bool true)) [])(h2:ACall Tryz.prog 107 [.agg (aa.cells B)] [] 0 (.val (.bool true)) [])(hs0:0<s)
 (hs:ACall Tryz.prog 108 [.agg (aa.cells B)] [] 0 (.val (.int .i64 s)) []) (hg:ACall Tryz.prog 109 [.agg (aa.cells A),.agg (aa.cells B)] [] 0 (.agg (aa.cells G)) [])
 (h3:ACall Tryz.prog 113 [.agg (aa.cells A),.agg (aa.cells G)] [] 0 (.tup [.agg (aa.cells P),.agg (aa.cells R1),.val (.int .i64 0)]) []) (h4:ACall Tryz.prog 113 [.agg (aa.cells B),.agg (aa.cells G)] [] 0 (.tup [.agg (aa.cells Q),.agg (aa.cells R2),.val (.int .i64 0)]) []):
 ACall Tryz.prog 60 [.agg (aa.cells A),.agg (aa.cells B)] [] 0 (.tup [.agg (aa.cells (⟨P,Q⟩:RV)),.val (.int .i64 0)]) []:=by
 have h1:=PLift.up h1;have h2:=PLift.up h2;have hs:=PLift.up hs;have hg:=PLift.up hg;have h3:=PLift.up h3;have h4:=PLift.up h4
 rw[bE A,bE B]
 refine az Tryz.func60 Tryz.ntmps60 rfl ?_
 repeat' (first|refine zqN ?_|refine aT h1.down ?_|refine aT h2.down ?_|refine aT hs.down ?_|refine aT hg.down ?_|refine aT h3.down ?_|refine aT h4.down ?_|refine bA ?_|refine bB ?_|(refine bC ?_ ?_<;>intro hc<;>try exact zqM)|refine zqR 6 [⟨0,[],[31],[],[],0⟩,⟨1,[0],[31],[],[],0⟩,⟨2,[],[29,30],[],[],0⟩,⟨3,[0,1,2],[],[],[],0⟩,⟨4,[0,1,2,3],[],[],[2],0⟩,⟨5,[0,1,2,3,4],[],[],[2],0⟩] ?_|refine zqD ?_|fail)
 all_goals first
  |((refine Ends.mk2 zqI [] ?_;simp-dsimp(disch:=try exact vD) only[push_cast,simprocAttr,Tryz.f60];try exact zqF);done)
  |skip
theorem yh(h1:ACall Tryz.prog 107 [.agg (aa.cells A)] [] 0 (.val (.bool true)) [])(h2:ACall Tryz.prog 107 [.agg (aa.cells B)] [] 0 (.val (.bool true)) [])(hs0:s<0)
 (hs:ACall Tryz.prog 108 [.agg (aa.cells B)] [] 0 (.val (.int .i64 s)) []) (hn1:ACall Tryz.prog 112 [.agg (aa.cells A)] [] 0 (.agg (aa.cells A1)) []) (hn2:ACall Tryz.prog 112 [.agg (aa.cells B)] [] 0 (.agg (aa.cells B1)) [])
 (hg:ACall Tryz.prog 109 [.agg (aa.cells A1),.agg (aa.cells B1)] [] 0 (.agg (aa.cells G)) [])
 (h3:ACall Tryz.prog 113 [.agg (aa.cells A1),.agg (aa.cells G)] [] 0 (.tup [.agg (aa.cells P),.agg (aa.cells R1),.val (.int .i64 0)]) []) (h4:ACall Tryz.prog 113 [.agg (aa.cells B1),.agg (aa.cells G)] [] 0 (.tup [.agg (aa.cells Q),.agg (aa.cells R2),.val (.int .i64 0)]) []):
 ACall Tryz.prog 60 [.agg (aa.cells A),.agg (aa.cells B)] [] 0 (.tup [.agg (aa.cells (⟨P,Q⟩:RV)),.val (.int .i64 0)]) []:=by
 have h1:=PLift.up h1;have h2:=PLift.up h2;have hs:=PLift.up hs;have hg:=PLift.up hg;have h3:=PLift.up h3;have h4:=PLift.up h4;have hn1:=PLift.up hn1;have hn2:=PLift.up hn2
 rw[bE A,bE B]
 refine az Tryz.func60 Tryz.ntmps60 rfl ?_
 repeat' (first|refine zqN ?_|refine aT h1.down ?_|refine aT h2.down ?_|refine aT hs.down ?_|refine aT hn1.down ?_|refine aT hn2.down ?_|refine aT hg.down ?_|refine aT h3.down ?_|refine aT h4.down ?_|refine bA ?_|refine bB ?_|(refine bC ?_ ?_<;>intro hc<;>try exact zqM)|refine zqR 6 [⟨0,[],[31],[],[],0⟩,⟨1,[0],[31],[],[],0⟩,⟨2,[],[29,30],[],[],0⟩,⟨3,[0,1,2],[],[],[],0⟩,⟨4,[0,1,2,3],[],[],[3],0⟩,⟨5,[0,1,2,3,4],[],[],[4],0⟩] ?_|refine zqD ?_|fail)
 all_goals first
  |((refine Ends.mk2 zqI [] ?_;simp-dsimp(disch:=try exact vD) only[push_cast,simprocAttr,Tryz.f60];try exact zqF);done)
  |skip
theorem Lc(ha:D300 a)(hb:D300 b)(h0:¬b=0):ACall Tryz.prog 60 [.agg (aa.cells (iV z a)),.agg (aa.cells (iV z' b))] [] 0 (.tup [.agg (aa.cells (rC (Rat.divInt a b))),.val (.int .i64 0)]) []:=by
 unfold rC
 by_cases hn:b<0
 ·have ha2:D300 (-a):=by unfold D300;rw[Int.natAbs_neg];exact ha
  have hb2:D300 (-b):=by unfold D300;rw[Int.natAbs_neg];exact hb
  have hgd:=zM ha2 hb2
  have hg0:¬((Int.gcd (-a) (-b):Nat):Int)=0:=by have:=wI (a:= -a) (b:= -b) (by omega);omega
  have hn1:=I6 (z:=z) ha
  have hn2:=I6 (z:=z') hb
  rw[xY] at hn1 hn2
  have hg:=I8 (z:= -a==0) (z':= -b==0) ha2 hb2
  rw[xY] at hg
  have h3:=sG (z:= -a==0) (z':=((Int.gcd (-a) (-b):Nat):Int)==0) ha2 hgd hg0
  have h4:=sG (z:= -b==0) (z':=((Int.gcd (-a) (-b):Nat):Int)==0) hb2 hgd hg0
  have e1:(Rat.divInt a b).num=(-a).tdiv ((Int.gcd (-a) (-b):Nat):Int):=by
   rw[sH hn,Int.gcd_neg,Int.neg_gcd,Int.neg_tdiv,Int.tdiv_neg]
  have e2:((Rat.divInt a b).den:Int)=(-b).tdiv ((Int.gcd (-a) (-b):Nat):Int):=by
   rw[sI hn,Int.gcd_neg,Int.neg_gcd,Int.neg_tdiv,Int.tdiv_neg]
  rw[e1,e2]
  refine yh (s:=sgn b) (sK ha) (sK hb) ?_ DT hn1 hn2 hg h3 h4
  unfold sgn;rw[if_neg h0,if_pos hn];decide
 ·have hp:0<b:=by omega
  have hgd:=zM ha hb
  have hg0:¬((Int.gcd a b:Nat):Int)=0:=by have:=wI (a:=a) h0;omega
  have hg:=I8 (z:=z) (z':=z') ha hb
  rw[xY] at hg
  have h3:=sG (z:=z) (z':=((Int.gcd a b:Nat):Int)==0) ha hgd hg0
  have h4:=sG (z:=z') (z':=((Int.gcd a b:Nat):Int)==0) hb hgd hg0
  rw[x9 hp,yc hp]
  refine Gx (s:=sgn b) (sK ha) (sK hb) ?_ DT hg h3 h4
  unfold sgn;rw[if_neg h0,if_neg hn];decide
theorem PT(h1:ACall Tryz.prog 76 [.val (.int .i64 a)] [] 0 (.agg (aa.cells A)) [])(h2:ACall Tryz.prog 76 [.val (.int .i64 b)] [] 0 (.agg (aa.cells B)) [])(hr:ACall Tryz.prog 60 [.agg (aa.cells A),.agg (aa.cells B)] [] 0 (.tup [.agg (aa.cells X),.val (.int .i64 e)]) []):
 ACall Tryz.prog 32 [.val (.int .i64 a),.val (.int .i64 b)] [] 0 (.tup [.agg (aa.cells X),.val (.int .i64 e)]) []:=by
 have h1:=PLift.up h1;have h2:=PLift.up h2;have hr:=PLift.up hr
 refine az Tryz.func32 Tryz.ntmps32 rfl ?_
 repeat' (first|refine zqN ?_|refine aT h1.down ?_|refine aT h2.down ?_|refine aT hr.down ?_|refine bA ?_|refine bB ?_|(refine bC ?_ ?_<;>intro hc<;>try exact zqM))
 all_goals first
  |((refine Ends.mk2 zqI [] ?_;simp-dsimp(disch:=try exact vD) only[push_cast,simprocAttr,Tryz.f32];try exact zqF);done)
  |skip
theorem aa6(ha:I64 a)(hb:I64 b)(h0:¬b=0):ACall Tryz.prog 32 [.val (.int .i64 a),.val (.int .i64 b)] [] 0 (.tup [.agg (aa.cells (rC (Rat.divInt a b))),.val (.int .i64 0)]) []:=
 PT (sF ha.1 ha.2) (sF hb.1 hb.2) (Lc (z:=a==0) (z':=b==0) (I9 ha) (I9 hb) h0)
end
section
open Go Go.Sy Go.Bp Go.Lm Go.Rt
attribute [local irreducible] AO AL AC OpT ACall Ends DGo aN Thn Blk Nxt
variable {n N M k i m j:Nat} {z z' neg:Bool} {l:List Int} {a b v x y e s c:Int} {A B C A1 B1 G G2 P Q R1 R2 Z1 X1 Y1:IV} {p q:Rat} {X Y W:RV}
theorem Ld{r1 r2:Bool}(h1:ACall Tryz.prog 61 [.agg (aa.cells X.num),.agg (aa.cells Y.num)] [] 0 (.val (.bool r1)) [])(h2:ACall Tryz.prog 61 [.agg (aa.cells X.den),.agg (aa.cells Y.den)] [] 0 (.val (.bool r2)) []):
 ACall Tryz.prog 23 [.agg (aa.cells X),.agg (aa.cells Y)] [] 0 (.val (.bool (r1&&r2))) []:=by
 have h2:=PLift.up h2
 rw[ay X,ay Y]
 cases r1
 all_goals have h1:=PLift.up h1
 all_goals(refine az Tryz.func23 Tryz.ntmps23 rfl ?_)
 all_goals repeat' (first|refine zqN ?_|refine aT h1.down ?_|refine aT h2.down ?_|refine bA ?_|refine bB ?_|(refine bC ?_ ?_<;>intro hc<;>try exact zqM))
 all_goals first
  |((refine Ends.mk2 zqI [] ?_;simp-dsimp(disch:=try exact vD) only[push_cast,simprocAttr,Tryz.f23];try exact zqF);done)
  |skip
def aa7(X Y:RV):Bool:=decide (X.num.neg=Y.num.neg∧X.num.l=Y.num.l)&&decide (X.den.neg=Y.den.neg∧X.den.l=Y.den.l)
structure WG(X:RV):Prop where
 n:X.num.l.length<2^47
 d:X.den.l.length<2^47
theorem VR(hX:WG X)(hY:WG Y):ACall Tryz.prog 23 [.agg (aa.cells X),.agg (aa.cells Y)] [] 0 (.val (.bool (aa7 X Y))) []:=
 Ld (zO hX.n hY.n) (zO hX.d hY.d)
theorem Le:aa7 X X=true:=by unfold aa7;simp
theorem aa8(h:D300 q.num)(h2:D300 q.den):WG (rQ z q):=⟨by have:=h.few;show(lb _).length<_;omega,by have:=h2.few;show(lb _).length<_;omega⟩
theorem PU(h:Sm q):WG (rC q):=by rw[ma];exact aa8 (Bq h).1 (Bq h).2
end
