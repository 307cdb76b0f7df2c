/- Lp12 Lp13 Lp14. No condition. -/
import Derived.Test.YtgmpdplpodemaaaGreatDoorLpG11
set_option linter.all false
set_option maxHeartbeats 4000000
set_option maxRecDepth 20000
namespace Go.Proofs.YtgmpdplpodemaaaGreatDoor
section
open Go Go.Sy Go.Bp Go.Lm
attribute [local irreducible] AO AL AC OpT ACall Ends DGo aN Thn Blk Nxt
variable {n N M k i m j r:Nat} {z z' neg:Bool} {l a b u vl L X X' X1 Qa Qb y yl w R T:List Int} {v x d f g c U V:Int}
def dX(U V:Int)(m k:Nat):List Int:=pd (m+1) (U%(V*bp k))
def dQ(U V:Int)(r k:Nat):List Int:=List.replicate k 0++pd (r-k) (U/(V*bp k))
theorem Gh:(dX U V m k).length=m+1:=og
theorem Pq(h:k≤r):(dQ U V r k).length=r:=by unfold dQ;rw[List.length_append,List.length_replicate,og];omega
theorem Vt(hR:T.length=n+1)(h:j+n+1≤X.length):((sbZ X j n T).drop j).take (n+1)=T:=by
 unfold sbZ
 have e:(X.take j).length=j:=by rw[List.length_take];omega
 rw[List.append_assoc,List.drop_append_of_le_length (by omega),List.drop_eq_nil_of_le (by omega),List.nil_append,List.take_append_of_le_length (by omega),List.take_of_length_le (by omega)]
theorem Vu(hR:T.length=n+1)(h:j+n+1≤X.length):sbZ (sbZ X j n T) j n R=sbZ X j n R:=by
 have e:(X.take j).length=j:=by rw[List.length_take];omega
 have e1:(sbZ X j n T).take j=X.take j:=by
  unfold sbZ
  rw[List.append_assoc,List.take_append_of_le_length (by omega),List.take_of_length_le (by omega)]
 have e2:(sbZ X j n T).drop (j+n+1)=X.drop (j+n+1):=by
  unfold sbZ
  have:(X.take j++T).length=j+n+1:=by rw[List.length_append,e,hR];omega
  rw[List.drop_append_of_le_length (by omega),List.drop_eq_nil_of_le (by omega),List.nil_append]
 show(sbZ X j n T).take j++R++(sbZ X j n T).drop (j+n+1)=_
 rw[e1,e2];rfl
theorem Vv(hX:Lim X)(hT:Lim T):Lim (sbZ X j n T):=(hX.take.app hT).app hX.drop
theorem aaN(hj:j<r)(hV:0<V)(hq0:0≤c)(hq1:c<1000000000)(hq:U/(V*bp j)=U/(V*bp (j+1))*1000000000+c):(dQ U V r (j+1)).set j c=dQ U V r j:=by
 unfold dQ
 rw[xS]
 have e:r-j=(r-(j+1))+1:=by omega
 rw[e]
 show _=List.replicate j 0++(U/(V*bp j)%1000000000::pd (r-(j+1)) (U/(V*bp j)/1000000000))
 rw[hq]
 have e1:(U/(V*bp (j+1))*1000000000+c)%1000000000=c:=by omega
 have e2:(U/(V*bp (j+1))*1000000000+c)/1000000000=U/(V*bp (j+1)):=by omega
 rw[e1,e2]
theorem Ps(hU:0≤U)(hV:0<V)(hVn:V<bp n)(hm:m+1<2^30)(hM:j+n+1≤m+1)(hj:j<r)(hy:Lim yl)(hyl:yl.length=n)(hyv:val yl=V)(hn:2≤n)(htop:500000000≤yl.getD (n-1) 0):
 ∃qd X1,Rd n (m+1) j yl (yl.getD (n-1) 0) (yl.getD (n-2) 0) qd (dX U V m (j+1)) X1 (dX U V m j) (dQ U V r (j+1)) (dQ U V r j):=by
 have hs:=stp hU hV hVn hM (M:=m+1)
 have hg:=hs.guess hV hy hyl hyv hn htop
 have e1:=hs.exact hV hy hyl hyv
 have hwl:=hs.len;have hwL:=hs.lim
 have hq0:=hg.q0;have hq9:=hg.q9
 have hX:Lim (dX U V m (j+1)):=lim_pd
 have hXl:(dX U V m (j+1)).length=m+1:=Gh
 have g2:=hs.at_ n (by omega);have g1:=hs.at_ (n-1) (by omega);have g0:=hs.at_ (n-2) (by omega)
 rw[show j+(n-1)=j+n-1 by omega] at g1
 rw[show j+(n-2)=j+n-2 by omega] at g0
 have hw:((dX U V m (j+1)).drop j).take (n+1)=((pd (m+1) (U%(V*bp (j+1)))).drop j).take (n+1):=rfl
 generalize hww:((pd (m+1) (U%(V*bp (j+1)))).drop j).take (n+1)=w at*
 refine⟨val w/V,sbZ (dX U V m (j+1)) j n (tL w yl (val w/V+1) (n+1)),⟨hX.at _,hX.at _,hX.at _,⟨hq0,hq9⟩,?_,?_,?_,?_,?_,?_,?_,aaN hj hV hq0 hq9 hs.quo⟩⟩
 ·have:=hg.hd.2;rw[g2,g1] at this;exact this
 ·have:=hg.first;rw[g2,g1] at this;exact this
 ·have:=hg.dec;rw[g2,g1,g0] at this;exact this
 ·have:=hg.stop;rw[g2,g1,g0] at this;exact this
 ·have:=uS (f:=val w/V) hX hXl hy hyl hM hm ⟨hq0,hq9⟩ hw
  rw[e1.1,show decide (¬(0:Int)=0)=false from rfl] at this
  rw[show sbZ (dX U V m (j+1)) j n (tL w yl (val w/V) (n+1))=dX U V m j from e1.2] at this
  exact this
 ·intro h9
  have e2:=hs.over hV hVn hy hyl hyv h9
  have:=uS (f:=val w/V+1) hX hXl hy hyl hM hm ⟨by omega,h9⟩ hw
  rw[e2.1,show decide (¬(1:Int)=0)=true from rfl] at this
  exact this
 ·intro h9
  have e2:=hs.over hV hVn hy hyl hyv h9
  have hT:=W9 (i:=n+1) hwL hy (f:=val w/V+1) ⟨by omega,h9⟩
  have hTl:(tL w yl (val w/V+1) (n+1)).length=n+1:=tL_len
  have hjx:j+n+1≤(dX U V m (j+1)).length:=by rw[hXl];exact hM
  have:=Gg (X:=sbZ (dX U V m (j+1)) j n (tL w yl (val w/V+1) (n+1))) (Vv hX hT.1) (by rw[Bc hTl hjx,hXl]) hy hyl hM hm (Vt hTl hjx)
  rw[Vu hTl hjx,show sbZ (dX U V m (j+1)) j n (pL (tL w yl (val w/V+1) (n+1)) yl (n+1))=dX U V m j from e2.2] at this
  exact this
theorem KQ(hn:vl.length=n+1):val vl=val (vl.take n)+bp n*vl.getD n 0:=by
 have:=fU (l:=vl) n
 rw[List.drop_eq_getElem_cons (by omega),List.drop_eq_nil_of_le (by omega),mP,Nat.min_eq_left (by omega),←iI (by omega)] at this
 exact this
theorem DL(hu:Lim u)(hv:Lim vl)(hul:u.length=m)(hvl:vl.length=n)(htv:Tr vl)(hn:2≤n)(hm:n≤m)(hm2:m<2^29)(hc0:0≤c)(hcm:ACall Tryz.prog 192 [.isl z (cI .u32 u) m,.isl z' (cI .u32 vl) n] [] 0 (.val (.int .i64 c)) []):
 ACall Tryz.prog 190 [.isl z (cI .u32 u) m,.isl z' (cI .u32 vl) n] [] 0 (.tup [.isl false (cI .u32 (lb (val u/val vl).toNat)) (lb (val u/val vl).toNat).length,.isl false (cI .u32 (lb (val u%val vl).toNat)) (lb (val u%val vl).toNat).length]) []:=by
 obtain⟨p,rfl⟩:∃p,n=p+2:=⟨n-2,by omega⟩
 have en:p+2-1=p+1:=rfl
 have hvt:=hv.at (p+1)
 have hvn:vl≠[]:=fun h=>by rw[h] at hvl;exact absurd hvl (by simp)
 have hv1:1≤vl.getD (p+1) 0:=by
  rcases htv with h|h
  ·exact absurd h hvn
  ·rw[hvl] at h
   have:¬vl.getD (p+1) 0=0:=h
   omega
 have hsp:=KQ (vl:=vl) (n:=p+1) hvl
 have htk:=bv (l:=vl.take (p+1)) hv.take
 rw[List.length_take,Nat.min_eq_left (by omega)] at htk
 have hur:=bv hu
 rw[hul] at hur
 obtain⟨n1,n2,n3,n4⟩:=Vh hv1 hvt.2
 generalize hd:1000000000/(vl.getD (p+1) 0+1)=d at*
 generalize hvtx:vl.getD (p+1) 0=vt at*
 have hb:=iO (k:=p+1)
 have hbs:bp (p+2)=1000000000*bp (p+1):=uw
 have hV0:0<val vl:=by
  have:bp (p+1)*1≤bp (p+1)*vt:=Int.mul_le_mul_of_nonneg_left hv1 (by omega)
  omega
 have hVb:bp (p+1)≤val vl:=by
  have:bp (p+1)*1≤bp (p+1)*vt:=Int.mul_le_mul_of_nonneg_left hv1 (by omega)
  omega
 have hVd:val vl*d<bp (p+2):=by
  have h1:val vl+1≤bp (p+1)*(vt+1):=by rw[Int.mul_add,Int.mul_one];omega
  have h2:(val vl+1)*d≤bp (p+1)*(vt+1)*d:=Int.mul_le_mul_of_nonneg_right h1 (by omega)
  have h3:bp (p+1)*((vt+1)*d)≤bp (p+1)*1000000000:=Int.mul_le_mul_of_nonneg_left (by rw[Int.mul_comm];exact n4) (by omega)
  rw[Int.mul_assoc] at h2
  rw[Int.add_mul,Int.one_mul] at h2
  omega
 have hVdt:500000000*bp (p+1)≤val vl*d:=by
  have h1:bp (p+1)*vt*d≤val vl*d:=Int.mul_le_mul_of_nonneg_right (by omega) (by omega)
  have h2:bp (p+1)*500000000≤bp (p+1)*(vt*d):=Int.mul_le_mul_of_nonneg_left (by rw[Int.mul_comm];exact n3) (by omega)
  rw[Int.mul_assoc] at h1
  omega
 have hVd0:0<val vl*d:=Int.mul_pos hV0 (by omega)
 obtain⟨y1,y2⟩:=zJ (n:=p+2) hv ⟨by omega,n2⟩ (by omega) hVd
 have hyl:(scL vl d (p+2)).length=p+2:=iJ
 have hUd0:0≤val u*d:=Int.mul_nonneg hur.1 (by omega)
 have hbm:=iO (k:=m)
 have hUd:val u*d<bp (m+1):=by
  have h1:val u*d≤bp m*d:=Int.mul_le_mul_of_nonneg_right (by omega) (by omega)
  have h2:bp m*d≤bp m*999999999:=Int.mul_le_mul_of_nonneg_left (by omega) (by omega)
  rw[uw];omega
 obtain⟨x1,x2⟩:=zJ (n:=m+1) hu ⟨by omega,n2⟩ (by omega) hUd
 have hxl:(scL u d (m+1)).length=m+1:=iJ
 obtain⟨r,hr⟩:∃r,r=m-(p+2)+1:=⟨_,rfl⟩
 have hUV:val u<val vl*bp r:=by
  have h1:bp (p+1)*bp r≤val vl*bp r:=Int.mul_le_mul_of_nonneg_right hVb (by have:=iO (k:=r);omega)
  rw[←FZ,show p+1+r=m by omega] at h1
  omega
 have hUVd:val u*d<val vl*d*bp r:=by
  have h1:=Int.mul_lt_mul_of_pos_right hUV (show 0<d by omega)
  rw[Int.mul_assoc,Int.mul_comm (bp r),←Int.mul_assoc] at h1
  exact h1
 have hXr:scL u d (m+1)=dX (val u*d) (val vl*d) m r:=by
  unfold dX
  rw[Int.emod_eq_of_lt hUd0 hUVd]
  exact WZ x1 hxl x2
 have hxs:=Po (z:=z) (u:=u) (d:=d) (m:=m) (n:=m+1) hu hul (by omega) (by omega) ⟨by omega,n2⟩
 rw[hXr] at hxs
 have hys:=Pp (z:=z') (u:=vl) (d:=d) (m:=p+2) (n:=p+2) hv hvl (by omega) (by omega) ⟨by omega,n2⟩
 have htop:500000000≤(scL vl d (p+2)).getD (p+1) 0:=aaD y1 hyl (by rw[y2];exact hVdt)
 have hdz:∀(A:Int),A*bp 0=A:=fun A=>by rw[OT,Int.mul_one]
 -- the ends
 have hX0:Lim (dX (val u*d) (val vl*d) m 0):=lim_pd
 have hm0:=Int.emod_nonneg (val u*d) (show val vl*d≠0 by omega)
 have hm1:=Int.emod_lt_of_pos (val u*d) hVd0
 have hbn:bp (p+2)≤bp (m+1):=zH (by omega)
 have hXv:val ((dX (val u*d) (val vl*d) m 0).take (p+2))=val u*d%(val vl*d):=by
  unfold dX
  rw[hdz,(AX hm0 (by omega) (by omega)).2,Int.emod_eq_of_lt hm0 (by omega)]
 have hXtl:((dX (val u*d) (val vl*d) m 0).take (p+2)).length=p+2:=by rw[List.length_take,Gh];omega
 have htr:=lG (z:=false) hXtl (by omega)
 have t1:=jr (l:=(dX (val u*d) (val vl*d) m 0).take (p+2)) hX0.take
 have t2:=jv (l:=(dX (val u*d) (val vl*d) m 0).take (p+2)) hX0.take
 rw[hXtl,hXv] at t1 t2
 rw[t1,←t2] at htr
 have hq0:0≤val u*d/(val vl*d):=Int.ediv_nonneg hUd0 (by omega)
 have hq1:val u*d/(val vl*d)<bp r:=Int.ediv_lt_of_lt_mul hVd0 (by rw[Int.mul_comm (bp r)];exact hUVd)
 have hQv:val (dQ (val u*d) (val vl*d) r 0)=val u*d/(val vl*d):=by
  unfold dQ
  rw[List.replicate_zero,List.nil_append,hdz,Nat.sub_zero,F9 hq0 hq1]
 have hQl:(dQ (val u*d) (val vl*d) r 0).length=r:=Pq (Nat.zero_le _)
 have hQL:Lim (dQ (val u*d) (val vl*d) r 0):=Lim.rep.app lim_pd
 have htq:=lG (z:=false) hQl (by omega)
 have t3:=jr (l:=dQ (val u*d) (val vl*d) r 0) hQL
 have t4:=jv (l:=dQ (val u*d) (val vl*d) r 0) hQL
 rw[hQl,hQv] at t3 t4
 rw[t3,←t4] at htq
 obtain⟨s1,s2⟩:=KN (d:=d) (v:=val vl) (c:=val u) (by omega) hV0 hur.1
 have hRl:(lb (val u*d%(val vl*d)).toNat).length≤p+2:=by rw[t2];exact qH
 have hsh:=DD (z:=false) (u:=lb (val u*d%(val vl*d)).toNat) (v:=d) lim_lb rfl (by omega) (by omega) n2
 rw[aW,show(((val u*d%(val vl*d)).toNat:Nat):Int)=val u%val vl*d by rw[Int.toNat_of_nonneg hm0,s2],Int.mul_ediv_cancel _ (show d≠0 by omega)] at hsh
 rw[s1] at htq
 refine DK (X:=dX (val u*d) (val vl*d) m) (Q:=dQ (val u*d) (val vl*d) r) hn hm hm2 hr hul hvl hv (by rw[en,hvtx];exact hv1) (by rw[en,hvtx];exact hd) ⟨n1,n2⟩ hyl rfl rfl ⟨htop,(y1.at _).2⟩ (y1.at _) hc0 hcm hxs hys (fun k hk=>Gh) (fun k hk=>Pq hk) ?_ (fun j hj=>?_) htr hsh htq
 ·unfold dQ;rw[Nat.sub_self];exact(List.append_nil _).symm
 ·exact Ps hUd0 hVd0 hVd (by omega) (by omega) hj y1 hyl y2 hn htop
end
section
open Go Go.Sy Go.Bp Go.Lm
attribute [local irreducible] AO AL AC OpT ACall Ends DGo aN Thn Blk Nxt
variable {n N M k i m j r X Y q:Nat} {z z' zq zr neg nx ny:Bool} {l a b u vl L R T Q Lx Ly:List Int} {v x y d f g c rv e:Int} {W W2:IV}
theorem Px:ACall Tryz.prog 189 [.isl true [] 0] [] 0 (.isl true [] 0) []:=by
 refine az Tryz.func189 Tryz.ntmps189 rfl ?_
 repeat' (first|refine zqN ?_|refine bA ?_|refine l5 ?_|refine nk ?_|refine nA ?_|refine bB ?_|(refine bC ?_ ?_<;>intro hc<;>try exact zqM))
 all_goals(refine Ends.mk2 zqI [] ?_;simp-dsimp(disch:=try exact vD) only[push_cast,simprocAttr,Tryz.f189];try exact zqF)
theorem Py(hn:l.length=n)(hb:n<2^30):ACall Tryz.prog 189 [.isl false (cI .u32 l) n] [] 0 (.isl false (cI .u32 l) n) []:=by
 refine az Tryz.func189 Tryz.ntmps189 rfl ?_
 repeat' (first|refine zqN ?_|refine bA ?_|refine l5 ?_|refine nk ?_|refine nA ?_|refine bB ?_|(refine bC ?_ ?_<;>intro hc<;>try exact zqM))
 all_goals((refine Ends.frz 1 ?_;simp-dsimp(disch:=try exact vD) only[push_cast,simprocAttr,Tryz.f189];(repeat refine aI ?_);intro K hK;refine hK _ _ ?_;clear hK K);refine Ends.mk2 zqI [] ?_;simp-dsimp(disch:=try exact vD) only[push_cast,simprocAttr,Tryz.f189];try exact zqF)
theorem Gi(hn:l.length=n)(hb:n<2^30)(hz:z=true→l=[]):ACall Tryz.prog 189 [.isl z (cI .u32 l) n] [] 0 (.isl z (cI .u32 l) n) []:=by
 cases z with
 |false=>exact Py hn hb
 |true=>
  have e:=hz rfl
  subst e;subst hn;exact Px
theorem agb(hc:c<0)(hcm:ACall Tryz.prog 192 [.isl z (cI .u32 u) m,.isl z' (cI .u32 vl) n] [] 0 (.val (.int .i64 c)) [])(hcl:ACall Tryz.prog 189 [.isl z (cI .u32 u) m] [] 0 (.isl z (cI .u32 u) m) []):
 ACall Tryz.prog 190 [.isl z (cI .u32 u) m,.isl z' (cI .u32 vl) n] [] 0 (.tup [.isl true [] 0,.isl z (cI .u32 u) m]) []:=by
 have hcm:=PLift.up hcm;have hcl:=PLift.up hcl
 refine az Tryz.func190 Tryz.ntmps190 rfl ?_
 repeat' (first|refine zqN ?_|refine aT hcm.down ?_|refine aT hcl.down ?_|refine bA ?_|refine l5 ?_|refine nk ?_|refine nA ?_|refine bB ?_|(refine bC ?_ ?_<;>intro hc<;>try exact zqM)|refine zqR 9 [⟨0,[],[62,63,67,68,69,70,71,72],[],[],0⟩,⟨1,[],[61,67,68,69,70,71,72],[],[],0⟩,⟨2,[1],[61,67,68,69,70,71,72],[],[],0⟩,⟨3,[0,1,2],[67,68,69,70,71,72],[],[],0⟩,⟨4,[0,1,2,3],[67,68,69,70,71,72],[],[],0⟩,⟨5,[0,1,2,3,4],[67,68,69,70,71,72],[],[],0⟩,⟨6,[],[12,61,62,63,64,65,66,68,69],[],[],0⟩,⟨7,[],[12,61,62,63,64,65,66,67],[],[],0⟩,⟨8,[7],[12,61,62,63,64,65,66,67],[],[],0⟩,⟨9,[6,7,8],[12,61,62,63,64,65,66],[],[],0⟩,⟨10,[6,7,8,9],[12,61,62,63,64,65,66],[],[],0⟩,⟨11,[6,7,8,9,10],[12,61,62,63,64,65,66],[],[],0⟩,⟨12,[0,1,2,3,4,5],[67,68,69,70,71,72],[],[],0⟩,⟨13,[0,1,2,3,4,5,6,7,8,9,10,11,12],[],[],[],0⟩] ?_|refine zqR 14 [⟨0,[],[88,89,90,95,96,97,98,99,100,101,102],[],[],0⟩,⟨1,[],[87,89,95,96,97,98,99,100,101,102],[],[],0⟩,⟨2,[],[87,88,95,96,97,98,99,100,101,102],[],[],0⟩,⟨3,[1,2],[87,95,96,97,98,99,100,101,102],[],[],0⟩,⟨4,[0,1,2,3],[95,96,97,98,99,100,101,102],[],[],0⟩,⟨5,[0,1,2,3,4],[95,96,97,98,99,100,101,102],[],[],0⟩,⟨6,[0,1,2,3,4,5],[95,96,97,98,99,100,101,102],[],[],0⟩,⟨7,[0,1,2,3,4,5,6],[95,96,97,98,99,100,101,102],[],[],0⟩,⟨8,[],[87,88,89,90,91,92,93,94,96,97,98,99],[],[],0⟩,⟨9,[],[87,88,89,90,91,92,93,94,95,97],[],[],0⟩,⟨10,[],[87,88,89,90,91,92,93,94,95,96],[],[],0⟩,⟨11,[9,10],[87,88,89,90,91,92,93,94,95],[],[],0⟩,⟨12,[9,10,11],[87,88,89,90,91,92,93,94,95],[],[],0⟩,⟨13,[8,9,10,11,12],[87,88,89,90,91,92,93,94],[],[],0⟩,⟨14,[8,9,10,11,12,13],[87,88,89,90,91,92,93,94],[],[],0⟩,⟨15,[8,9,10,11,12,13,14],[87,88,89,90,91,92,93,94],[],[],0⟩,⟨16,[0,1,2,3,4,5,6,7,8,9,10,11,12,13,14,15],[],[],[],0⟩,⟨17,[0,1,2,3,4,5,6,7,8,9,10,11,12,13,14,15,16],[],[],[],0⟩] ?_|refine zqR 15 [⟨0,[],[105,107,108,109],[],[],0⟩,⟨1,[],[104,107,108,109],[],[],0⟩,⟨2,[0,1],[107,108,109],[],[],0⟩,⟨3,[],[17,104,105,106,108],[],[],0⟩,⟨4,[],[17,104,105,106,107],[],[],0⟩,⟨5,[3,4],[17,104,105,106],[],[],0⟩,⟨6,[0,1,2],[107,108,109],[],[],0⟩,⟨7,[0,1,2,3,4,5,6],[],[],[],0⟩] ?_|refine zqD ?_|fail)
 all_goals first
  |((refine Ends.mk2 zqI [] ?_;simp-dsimp(disch:=try exact vD) only[push_cast,simprocAttr,Tryz.f190];try exact zqF);done)
  |skip
theorem Gj(hc:0≤c)(hvl:vl.length=1)(hv0:vl.getD 0 default=v)(hcm:ACall Tryz.prog 192 [.isl z (cI .u32 u) m,.isl z' (cI .u32 vl) 1] [] 0 (.val (.int .i64 c)) [])
 (hsh:ACall Tryz.prog 209 [.isl z (cI .u32 u) m,.val (.int .u32 v)] [] 0 (.tup [.isl false (cI .u32 T) i,.val (.int .u32 rv)]) []) (htr:ACall Tryz.prog 210 [.sl 0 0 1 1] [.cells (cI .u32 [rv]) 136] 0 (.isl false (cI .u32 R) k) []):
 ACall Tryz.prog 190 [.isl z (cI .u32 u) m,.isl z' (cI .u32 vl) 1] [] 0 (.tup [.isl false (cI .u32 T) i,.isl false (cI .u32 R) k]) []:=by
 have hcm:=PLift.up hcm;have hsh:=PLift.up hsh
 rw[show cI .u32 [rv]=[.val (.int .u32 rv)] from rfl] at htr
 have htr:=PLift.up htr
 refine az Tryz.func190 Tryz.ntmps190 rfl ?_
 have zx1:= @hv0;have zx2:=aD;have zx3:=aD;repeat' (first|refine zqN ?_|((first|refine ax rfl (fun K hK=>?_)|refine ak (fun K hK=>?_)|refine aJ (fun K hK=>?_));(first|refine ah (f:=192) [] 0 false ?_|refine ah (f:=209) [] 0 false ?_|refine ah (f:=210) [0] 0 false ?_);refine Am ?_;(first|refine⟨_,_,hcm.down,?_⟩|refine⟨_,_,hsh.down,?_⟩|refine⟨_,_,htr.down,?_⟩);refine rG ?_;apply hK;clear hK K)|refine dx ?_|refine p8 ?_|refine p9 ?_|refine qa ?_|refine dz ?_|(refine dA ?_ ?_<;>intro hc<;>try exact zqM)|refine zqR 9 [⟨0,[],[62,63,67,68,69,70,71,72],[],[],0⟩,⟨1,[],[61,67,68,69,70,71,72],[],[],0⟩,⟨2,[1],[61,67,68,69,70,71,72],[],[],0⟩,⟨3,[0,1,2],[67,68,69,70,71,72],[],[],0⟩,⟨4,[0,1,2,3],[67,68,69,70,71,72],[],[],0⟩,⟨5,[0,1,2,3,4],[67,68,69,70,71,72],[],[],0⟩,⟨6,[],[12,61,62,63,64,65,66,68,69],[],[],0⟩,⟨7,[],[12,61,62,63,64,65,66,67],[],[],0⟩,⟨8,[7],[12,61,62,63,64,65,66,67],[],[],0⟩,⟨9,[6,7,8],[12,61,62,63,64,65,66],[],[],0⟩,⟨10,[6,7,8,9],[12,61,62,63,64,65,66],[],[],0⟩,⟨11,[6,7,8,9,10],[12,61,62,63,64,65,66],[],[],0⟩,⟨12,[0,1,2,3,4,5],[67,68,69,70,71,72],[],[],0⟩,⟨13,[0,1,2,3,4,5,6,7,8,9,10,11,12],[],[],[],0⟩] ?_|refine zqR 14 [⟨0,[],[88,89,90,95,96,97,98,99,100,101,102],[],[],0⟩,⟨1,[],[87,89,95,96,97,98,99,100,101,102],[],[],0⟩,⟨2,[],[87,88,95,96,97,98,99,100,101,102],[],[],0⟩,⟨3,[1,2],[87,95,96,97,98,99,100,101,102],[],[],0⟩,⟨4,[0,1,2,3],[95,96,97,98,99,100,101,102],[],[],0⟩,⟨5,[0,1,2,3,4],[95,96,97,98,99,100,101,102],[],[],0⟩,⟨6,[0,1,2,3,4,5],[95,96,97,98,99,100,101,102],[],[],0⟩,⟨7,[0,1,2,3,4,5,6],[95,96,97,98,99,100,101,102],[],[],0⟩,⟨8,[],[87,88,89,90,91,92,93,94,96,97,98,99],[],[],0⟩,⟨9,[],[87,88,89,90,91,92,93,94,95,97],[],[],0⟩,⟨10,[],[87,88,89,90,91,92,93,94,95,96],[],[],0⟩,⟨11,[9,10],[87,88,89,90,91,92,93,94,95],[],[],0⟩,⟨12,[9,10,11],[87,88,89,90,91,92,93,94,95],[],[],0⟩,⟨13,[8,9,10,11,12],[87,88,89,90,91,92,93,94],[],[],0⟩,⟨14,[8,9,10,11,12,13],[87,88,89,90,91,92,93,94],[],[],0⟩,⟨15,[8,9,10,11,12,13,14],[87,88,89,90,91,92,93,94],[],[],0⟩,⟨16,[0,1,2,3,4,5,6,7,8,9,10,11,12,13,14,15],[],[],[],0⟩,⟨17,[0,1,2,3,4,5,6,7,8,9,10,11,12,13,14,15,16],[],[],[],0⟩] ?_|refine zqR 15 [⟨0,[],[105,107,108,109],[],[],0⟩,⟨1,[],[104,107,108,109],[],[],0⟩,⟨2,[0,1],[107,108,109],[],[],0⟩,⟨3,[],[17,104,105,106,108],[],[],0⟩,⟨4,[],[17,104,105,106,107],[],[],0⟩,⟨5,[3,4],[17,104,105,106],[],[],0⟩,⟨6,[0,1,2],[107,108,109],[],[],0⟩,⟨7,[0,1,2,3,4,5,6],[],[],[],0⟩] ?_|refine zqD ?_|fail)
 all_goals first
  |((refine Ends.mk2 zqI [] ?_;simp-dsimp(disch:=try exact vD) only[push_cast,simprocAttr,Tryz.f190];try exact zqF);done)
  |skip
theorem Xg(h:l.length=n):(cI .u32 l).take n=cI .u32 l:=List.take_of_length_le (by rw[EW];omega)
theorem Pz(hl:l.length=n)(hn:n<2^47):ACall Tryz.prog 210 [.sl 0 0 n 1] [.cells (cI .u32 l) 136] 0 (.isl false (cI .u32 (l.take (trN l n))) (trN l n)) []:=
 ACall.own (args':=[.isl false (cI .u32 l) n]) (by rw[qA];trivial) (by simp[bQ,Xg hl]) (by simp[bnd,qA]) (lG hl hn)
theorem ko(h:X≤Y):(lb X).length≤(lb Y).length:=by
 refine Decidable.not_not.1 fun hc=>?_
 have:=uy (a:=lb Y) (b:=lb X) lim_lb lim_lb ja (by omega)
 rw[aW,aW] at this;omega
theorem zL(hX:(lb X).length<2^28)(hY2:(lb Y).length<2^28)(hY:0<Y)(hz:z=true→X=0):
 ∃zq zr,(zq=true→X/Y=0)∧(zr=true→X%Y=0)∧ACall Tryz.prog 190 [.isl z (cI .u32 (lb X)) (lb X).length,.isl z' (cI .u32 (lb Y)) (lb Y).length] [] 0 (.tup [.isl zq (cI .u32 (lb (X/Y))) (lb (X/Y)).length,.isl zr (cI .u32 (lb (X%Y))) (lb (X%Y)).length]) []:=by
 by_cases hXY:X<Y
 ·rw[Nat.div_eq_of_lt hXY,Nat.mod_eq_of_lt hXY]
  have hcm:=lH (z:=z) (z':=z') (a:=lb X) (b:=lb Y) lim_lb lim_lb ja ja (by omega) (by omega)
  rw[xW (by rw[aW,aW];omega)] at hcm
  exact⟨true,z,fun _=>rfl,hz,agb (by decide) hcm (Gi rfl (by omega) fun h=>by rw[hz h];rfl)⟩
 ·have hYX:Y≤X:=by omega
  have hlen:=ko hYX
  have hcm:=lH (z:=z) (z':=z') (a:=lb X) (b:=lb Y) lim_lb lim_lb ja ja (by omega) (by omega)
  have hc:0≤mQ (lb X) (lb Y):=by unfold mQ;rw[aW,aW,if_neg (by omega)];split<;>omega
  refine⟨false,false,fun h=>(by cases h),fun h=>(by cases h),?_⟩
  have e1:((X:Int)/Y).toNat=X/Y:=by rw[←Int.natCast_ediv,Int.toNat_natCast]
  have e2:((X:Int)%Y).toNat=X%Y:=by rw[←Int.natCast_emod,Int.toNat_natCast]
  have hY0:(lb Y).length≠0:=fun h=>by have:=iZ.1 (List.length_eq_zero_iff.1 h);omega
  by_cases h1:(lb Y).length=1
  ·obtain⟨w,hw⟩:=List.length_eq_one_iff.1 h1
   have hv:=aW (n:=Y)
   have hlw:=lim_lb (n:=Y)
   rw[hw,mP] at hv
   rw[hw] at hlw
   have hr:=hlw.hd
   subst hv
   have hsh:=DD (z:=z) (u:=lb X) (v:=(Y:Int)) lim_lb rfl (by omega) (by omega) hr.2
   rw[aW,e1] at hsh
   have htr:=Pz (l:=[(X:Int)%Y]) (n:=1) rfl (by decide)
   have hm0:=Int.emod_nonneg (X:Int) (show(Y:Int)≠0 by omega)
   have hm1:=Int.emod_lt_of_pos (X:Int) (show 0<(Y:Int) by omega)
   have hL:Lim [(X:Int)%Y]:=Lim.nil.cons ⟨hm0,by omega⟩
   have t1:=jr hL
   have t2:=jv hL
   rw[mP,e2] at t1 t2
   rw[show [(X:Int)%Y].length=1 from rfl] at t1 t2
   rw[t1,←t2] at htr
   rw[h1] at hcm⊢
   exact Gj hc h1 (by rw[hw];rfl) hcm hsh htr
  ·have:=DL (z:=z) (z':=z') (u:=lb X) (vl:=lb Y) lim_lb lim_lb rfl rfl ja (by omega) hlen (by omega) hc hcm
   rw[aW,aW,e1,e2] at this
   exact this
end
section
open Go Go.Sy Go.Bp Go.Lm
attribute [local irreducible] AO AL AC OpT ACall Ends DGo aN Thn Blk Nxt
variable {n N M k i m j r X Y q:Nat} {z z' zq zr neg nx ny:Bool} {l a b u vl L R T Q Lx Ly:List Int} {v x y d f g c rv e:Int} {W W2:IV}
structure IOk(z:Bool)(v:Int):Prop where
 d:D300 v
 z:z=true→v=0
theorem IOk.of(h:D300 v):IOk (v==0) v:=⟨h,fun h=>by simpa using h⟩
theorem xY:iC v=iV (v==0) v:=rfl
theorem IOk.nz(h:IOk z v):z=true→v.natAbs=0:=fun hz=>by rw[h.z hz];rfl
theorem I4:sg (decide (x<0) !=decide (y<0)) ((x.natAbs/y.natAbs:Nat):Int)=x.tdiv y:=by
 have e:∀a b:Nat,(a:Int).tdiv b=((a/b:Nat):Int):=fun a b=>rfl
 obtain⟨a,ha⟩:∃a,x.natAbs=a:=⟨_,rfl⟩
 obtain⟨b,hb⟩:∃b,y.natAbs=b:=⟨_,rfl⟩
 rw[ha,hb]
 unfold sg
 by_cases hx:x<0<;>by_cases hy:y<0
 ·have:x= -(a:Int):=by omega
  have:y= -(b:Int):=by omega
  subst x;subst y
  rw[decide_eq_true hx,decide_eq_true hy,Int.neg_tdiv,Int.tdiv_neg,Int.neg_neg,e];rfl
 ·have:x= -(a:Int):=by omega
  have:y=(b:Int):=by omega
  subst x;subst y
  rw[decide_eq_true hx,decide_eq_false hy,Int.neg_tdiv,e];rfl
 ·have:x=(a:Int):=by omega
  have:y= -(b:Int):=by omega
  subst x;subst y
  rw[decide_eq_false hx,decide_eq_true hy,Int.tdiv_neg,e];rfl
 ·have:x=(a:Int):=by omega
  have:y=(b:Int):=by omega
  subst x;subst y
  rw[decide_eq_false hx,decide_eq_false hy,e];rfl
theorem Bf:sg (decide (x<0)) ((x.natAbs%y.natAbs:Nat):Int)=x.tmod y:=by
 have e:∀a b:Nat,(a:Int).tmod b=((a%b:Nat):Int):=fun a b=>rfl
 obtain⟨a,ha⟩:∃a,x.natAbs=a:=⟨_,rfl⟩
 obtain⟨b,hb⟩:∃b,y.natAbs=b:=⟨_,rfl⟩
 rw[ha,hb]
 unfold sg
 by_cases hx:x<0<;>by_cases hy:y<0
 ·have:x= -(a:Int):=by omega
  have:y= -(b:Int):=by omega
  subst x;subst y
  rw[decide_eq_true hx,Int.neg_tmod,Int.tmod_neg,e];rfl
 ·have:x= -(a:Int):=by omega
  have:y=(b:Int):=by omega
  subst x;subst y
  rw[decide_eq_true hx,Int.neg_tmod,e];rfl
 ·have:x=(a:Int):=by omega
  have:y= -(b:Int):=by omega
  subst x;subst y
  rw[decide_eq_false hx,Int.tmod_neg,e];rfl
 ·have:x=(a:Int):=by omega
  have:y=(b:Int):=by omega
  subst x;subst y
  rw[decide_eq_false hx,e];rfl
theorem Gl(h:D300 x):D300 (x.tdiv y):=by
 unfold D300 at*
 rw[Int.natAbs_tdiv]
 exact Nat.lt_of_le_of_lt (Nat.div_le_self _ _) h
theorem Gm(h:D300 x):D300 (x.tmod y):=by
 unfold D300 at*
 have e:(x.tmod y).natAbs=x.natAbs%y.natAbs:=by
  rw[←Bf,Be,Int.natAbs_natCast]
 rw[e]
 exact Nat.lt_of_le_of_lt (Nat.mod_le _ _) h
theorem PD{qb:Bool}(hq:(nx !=ny)=qb)(hm:¬m=0)(hck:ACall Tryz.prog 188 [.isl false [.val (.bool nx),.isl z (cI .u32 Lx) n,.val (.bool ny),.isl z' (cI .u32 Ly) m] 2] [] 0 (.val (.int .i64 0)) [])
 (hd:ACall Tryz.prog 190 [.isl z (cI .u32 Lx) n,.isl z' (cI .u32 Ly) m] [] 0 (.tup [.isl zq (cI .u32 Q) q,.isl zr (cI .u32 R) r]) [])
 (hr:ACall Tryz.prog 191 [.val (.bool qb),.isl zq (cI .u32 Q) q] [] 0 (.tup [.agg (aa.cells W),.val (.int .i64 0)]) [])
 (hr2:ACall Tryz.prog 191 [.val (.bool nx),.isl zr (cI .u32 R) r] [] 0 (.tup [.agg (aa.cells W2),.val (.int .i64 0)]) []):
 ACall Tryz.prog 206 [.agg [.val (.bool nx),.isl z (cI .u32 Lx) n],.agg [.val (.bool ny),.isl z' (cI .u32 Ly) m]] [] 0 (.tup [.agg (aa.cells W),.agg (aa.cells W2),.val (.int .i64 0)]) []:=by
 subst hq
 have hck:=PLift.up hck;have hd:=PLift.up hd
 rcases Bool.eq_false_or_eq_true nx with hnx|hnx<;>rcases Bool.eq_false_or_eq_true ny with hny|hny
 all_goals subst hnx
 all_goals subst hny
 all_goals have hr:=PLift.up hr
 all_goals have hr2:=PLift.up hr2
 all_goals(refine az Tryz.func206 Tryz.ntmps206 rfl ?_)
 all_goals(have zx1:= @hm;have zx2:=aD;have zx3:=aD;repeat' (first|refine zqN ?_|((first|refine ax rfl (fun K hK=>?_)|refine ak (fun K hK=>?_)|refine aJ (fun K hK=>?_));(first|refine ah (f:=188) [] 0 true ?_|refine ah (f:=190) [] 0 false ?_|refine ah (f:=191) (dst:=some 44) [] 0 false ?_|refine ah (f:=191) (dst:=some 51) [] 0 false ?_);refine Am ?_;(first|refine⟨_,_,hck.down,?_⟩|refine⟨_,_,hd.down,?_⟩|refine⟨_,_,hr.down,?_⟩|refine⟨_,_,hr2.down,?_⟩);refine rG ?_;apply hK;clear hK K)|refine dx ?_|refine dz ?_|(refine dA ?_ ?_<;>intro hc<;>try exact zqM)|refine zqR 9 [⟨0,[],[55],[],[],0⟩,⟨1,[],[54],[5],[],0⟩,⟨2,[0],[55],[],[5],0⟩,⟨3,[0,1,2],[],[],[6],0⟩,⟨4,[0,1,2,3],[],[],[],0⟩] ?_|refine zqD ?_|fail))
 all_goals first
  |((refine Ends.mk2 zqI [] ?_;simp-dsimp(disch:=try exact vD) only[push_cast,simprocAttr,Tryz.f206];try exact zqF);done)
  |skip
theorem Bg(h:IOk z x)(h2:IOk z' y)(h0:¬y=0):ACall Tryz.prog 206 [.agg (aa.cells (iV z x)),.agg (aa.cells (iV z' y))] [] 0 (.tup [.agg (aa.cells (iC (x.tdiv y))),.agg (aa.cells (iC (x.tmod y))),.val (.int .i64 0)]) []:=by
 have f1:=h.d.few;have f2:=h2.d.few
 obtain⟨zq,zr,g1,g2,hd⟩:=zL (z:=z) (z':=z') (X:=x.natAbs) (Y:=y.natAbs) (by omega) (by omega) (by omega) h.nz
 have l1:=ko (show x.natAbs/y.natAbs≤x.natAbs from Nat.div_le_self _ _)
 have l2:=ko (show x.natAbs%y.natAbs≤x.natAbs from Nat.mod_le _ _)
 have r1:=iB (z:=zq) (neg:=decide (x<0) !=decide (y<0)) (l:=lb (x.natAbs/y.natAbs)) (v:=x.tdiv y) lim_lb rfl (by omega) (fun e=>by rw[g1 e];rfl) (by rw[aW];exact I4)
 have r2:=iB (z:=zr) (neg:=decide (x<0)) (l:=lb (x.natAbs%y.natAbs)) (v:=x.tmod y) lim_lb rfl (by omega) (fun e=>by rw[g2 e];rfl) (by rw[aW];exact Bf)
 unfold rV at r1 r2
 rw[qc (Gl h.d),qf (Gl h.d)] at r1
 rw[qc (Gm h.d),qf (Gm h.d)] at r2
 have hl:(lb y.natAbs).length=0↔y=0:=by rw[List.length_eq_zero_iff,iZ];omega
 exact PD rfl (fun e=>h0 (hl.1 e)) (uD h.d h2.d) hd r1 r2
structure Gp where
 X:Nat
 Y:Nat
 z:Bool
 z':Bool
structure abH(G:Nat)(p:Gp):Prop where
 g:Nat.gcd p.X p.Y=G
 lx:(lb p.X).length≤34
 ly:(lb p.Y).length≤34
 zx:p.z=true→p.X=0
 zy:p.z'=true→p.Y=0
def gcI(G:Nat)(p:{p:Gp // abH G p}):St:=
 ⟨40,0,[(4,.pt 0 0),(7,.isl p.val.z (cI .u32 (lb p.val.X)) (lb p.val.X).length),(8,.isl p.val.z' (cI .u32 (lb p.val.Y)) (lb p.val.Y).length)],[(0,some (.cells [.val (.bool false),.isl true [] 0] 58))]⟩
theorem zM(h:D300 x)(h2:D300 y):D300 ((Int.gcd x y:Nat):Int):=by
 unfold D300 at*
 rw[Int.natAbs_natCast]
 show Nat.gcd x.natAbs y.natAbs<_
 rcases Nat.eq_zero_or_pos x.natAbs with h0|h0
 ·rw[h0,Nat.gcd_zero_left];exact h2
 ·exact Nat.lt_of_le_of_lt (Nat.gcd_le_left _ h0) h
theorem PE(h:IOk z x)(h2:IOk z' y):ACall Tryz.prog 143 [.agg (aa.cells (iV z x)),.agg (aa.cells (iV z' y))] [] 0 (.tup [.agg (aa.cells (iC ((Int.gcd x y:Nat):Int))),.val (.int .i64 0)]) []:=by
 have f1:=h.d.few;have f2:=h2.d.few
 have hck:=PLift.up (uD (z:=z) (z':=z') h.d h2.d)
 have hc1:=PLift.up (Gi (z:=z) (l:=lb x.natAbs) rfl (by omega) fun e=>by rw[h.nz e];rfl)
 have hc2:=PLift.up (Gi (z:=z') (l:=lb y.natAbs) rfl (by omega) fun e=>by rw[h2.nz e];rfl)
 have hgd:=zM h.d h2.d
 have hok:abH (Int.gcd x y) ⟨x.natAbs,y.natAbs,z,z'⟩:=⟨rfl,f1,f2,h.nz,h2.nz⟩
 have hres:∀zz,(zz=true→Int.gcd x y=0)→PLift (ACall Tryz.prog 191 [.val (.bool false),.isl zz (cI .u32 (lb (Int.gcd x y))) (lb (Int.gcd x y)).length] [] 0 (.tup [.agg (aa.cells (iC ((Int.gcd x y:Nat):Int))),.val (.int .i64 0)]) []):=fun zz hz=>⟨by
  have r1:=iB (z:=zz) (neg:=false) (l:=lb (Int.gcd x y)) (v:=((Int.gcd x y:Nat):Int)) lim_lb rfl (by
   have:=hgd.few
   rw[Int.natAbs_natCast] at this;omega) (fun e=>by rw[hz e];rfl) (by rw[aW];rfl)
  unfold rV at r1
  rw[qc hgd,qf hgd] at r1;exact r1⟩
 have hdv:∀p:Gp,abH (Int.gcd x y) p→0<(lb p.Y).length→∃zq zr,(zq=true→p.X/p.Y=0)∧(zr=true→p.X%p.Y=0)∧ACall Tryz.prog 190 [.isl p.z (cI .u32 (lb p.X)) (lb p.X).length,.isl p.z' (cI .u32 (lb p.Y)) (lb p.Y).length] [] 0 (.tup [.isl zq (cI .u32 (lb (p.X/p.Y))) (lb (p.X/p.Y)).length,.isl zr (cI .u32 (lb (p.X%p.Y))) (lb (p.X%p.Y)).length]) []:=fun p hp hl=>by
  have l1:=hp.lx;have l2:=hp.ly
  obtain⟨zq,zr,g1,g2,hd⟩:=zL (z:=p.z) (z':=p.z') (X:=p.X) (Y:=p.Y) (by omega) (by omega) (Nat.pos_of_ne_zero fun e=>by rw[e] at hl;simp[Vb] at hl) hp.zx
  exact⟨zq,zr,g1,g2,hd⟩
 have hdv:=PLift.up hdv
 generalize Int.gcd x y=G at*
 unfold iV at*
 rw[bE,bE] at*
 dsimp only at*
 generalize decide (x<0)=nx at*
 generalize decide (y<0)=ny at*
 obtain⟨Lx,hLx⟩:∃L,L=lb x.natAbs:=⟨_,rfl⟩
 obtain⟨Ly,hLy⟩:∃L,L=lb y.natAbs:=⟨_,rfl⟩
 clear h h2
 have zx1:=ae
 refine az Tryz.func143 Tryz.ntmps143 rfl ?_
 have zx2:=aD;have zx3:=aD;repeat' (first|(refine ai ?_;refine au [2] ([2].length) (gcI G) (fun p=>p.val.Y) (⟨⟨_,_,_,_⟩,hok⟩) rfl (by unfold gcI;exact eH) ?_;(rintro⟨⟨X,Y,zx,zy⟩,hp⟩;rcases Nat.eq_zero_or_pos (lb Y).length with zx1|zx1<;>first|(have hY0:Y=0:=iZ.1 (List.length_eq_zero_iff.1 zx1);have hXG:X=G:=(by have:=hp.g;dsimp only at this;rw[hY0,Nat.gcd_zero_right] at this;exact this);subst hXG;have hR:=hres zx hp.zx;(simp-dsimp only[gcI];refine zqS ?_))|(obtain⟨zq,zr,g1,g2,hd⟩:=hdv.down ⟨X,Y,zx,zy⟩ hp zx1;dsimp only at hd g1 g2;have hd:=PLift.up hd;have hY0:0<Y:=Nat.pos_of_ne_zero (fun e=>by rw[e] at zx1;simp[Vb] at zx1);have hml:X%Y<Y:=Nat.mod_lt X hY0;(simp-dsimp only[gcI];refine zqS ?_))))|(refine aj ?_;refine Nxt.mk [0] (⟨⟨Y,X%Y,zy,zr⟩,⟨by have:=hp.g;dsimp only at this⊢;rw[Nat.gcd_comm,←Nat.gcd_rec,Nat.gcd_comm];exact this,hp.ly,Nat.le_trans (ko (Nat.mod_le _ _)) hp.lx,hp.zy,g2⟩⟩) rfl (by unfold gcI;exact eH) zqO)|refine zqN ?_|((first|refine ax rfl (fun K hK=>?_)|refine ak (fun K hK=>?_)|refine aJ (fun K hK=>?_));(first|refine ah (f:=188) [] 0 true ?_|refine ah (f:=189) (dst:=some 21) [] 0 false ?_|refine ah (f:=189) (dst:=some 24) [] 0 false ?_|refine ah (f:=190) [] 0 false ?_|refine ah (f:=191) [] 0 false ?_);refine Am ?_;(first|refine⟨_,_,hck.down,?_⟩|refine⟨_,_,hc1.down,?_⟩|refine⟨_,_,hc2.down,?_⟩|refine⟨_,_,hd.down,?_⟩|refine⟨_,_,hR.down,?_⟩);refine rG ?_;apply hK;clear hK K)|refine dx ?_|refine dz ?_|(refine dA ?_ ?_<;>intro hc<;>try exact zqM)|refine zqR 4 [⟨0,[],[22,23],[],[],0⟩,⟨1,[0],[22,23],[],[],0⟩,⟨2,[0,1],[22,23],[],[],0⟩,⟨3,[],[19,20,21],[],[],0⟩,⟨4,[3],[19,20,21],[],[],0⟩,⟨5,[0,1,2,3,4],[],[],[],0⟩,⟨6,[0,1,2,3,4,5],[],[],[],0⟩,⟨7,[0,1,2,3,4,5,6],[],[],[],0⟩] ?_|refine zqD ?_|fail)
 all_goals first
  |((refine Ends.mk2 zqI [] ?_;simp-dsimp(disch:=try exact vD) only[push_cast,simprocAttr,Tryz.f143];try exact zqF);done)
  |skip
theorem I5{a1 a2 a3:Int}(hL:Lim [a1,a2,a3])(hv:sg neg (val [a1,a2,a3])=v)(hd:D300 v):ACall Tryz.prog 191 [.val (.bool neg),.sl 0 0 3 1] [.cells [.val (.int .u32 a1),.val (.int .u32 a2),.val (.int .u32 a3)] 136] 0 (.tup [.agg (aa.cells (iC v)),.val (.int .i64 0)]) []:=by
 have r1:=iB (z:=false) (neg:=neg) (l:=[a1,a2,a3]) (n:=3) (v:=v) hL rfl (by decide) (fun e=>by cases e) hv
 unfold rV at r1
 rw[qc hd,qf hd] at r1
 exact ACall.own (args':=[.val (.bool neg),.isl false (cI .u32 [a1,a2,a3]) 3]) (by simp[bnd]) (by simp[bQ];rfl) (by simp[bnd,qA]) r1
theorem uE(h1: -9223372036854775808≤v)(h2:v≤9223372036854775807):ACall Tryz.prog 176 [.val (.int .i64 v)] [] 0 (.agg (aa.cells (iC v))) []:=by
 have hd:D300 v:=by
  have:(9223372036854775808:Nat)<10^300:=by decide+kernel
  unfold D300;omega
 have hL:∀m:Int,0≤m→m≤9223372036854775808→Lim [m%1000000000,m/1000000000%1000000000,m/1000000000/1000000000]∧val [m%1000000000,m/1000000000%1000000000,m/1000000000/1000000000]=m:=fun m h1 h2=>
  ⟨((Lim.nil.cons (by omega)).cons (by omega)).cons (by omega),by simp only[eD,jo];omega⟩
 by_cases hn:v<0
 ·obtain⟨m,hm⟩:∃m,m= -v:=⟨_,rfl⟩
  obtain⟨g1,g2⟩:=hL m (by omega) (by omega)
  have hr:=PLift.up (I5 (neg:=decide (v<0)) g1 (by rw[g2,decide_eq_true hn];show-m=v;omega) hd)
  have w1:IntKind.wrap .u64 v=v+18446744073709551616:=by
   have:IntKind.wrap .u64 v=v%18446744073709551616:=by simp[IntKind.wrap,IntKind.bits,IntKind.signed]
   rw[this];omega
  have w2:IntKind.wrap .u64 (0-(v+18446744073709551616))=m:=by
   have:IntKind.wrap .u64 (0-(v+18446744073709551616))=(0-(v+18446744073709551616))%18446744073709551616:=by simp[IntKind.wrap,IntKind.bits,IntKind.signed]
   rw[this];omega
  have w3:IntKind.wrap .u64 (-(v+18446744073709551616))=m:=by rw[←w2];congr 1;omega
  clear hd g1 g2 hL
  refine az Tryz.func176 Tryz.ntmps176 rfl ?_
  repeat' (first|apply bZ|apply aB|((first|refine ax rfl (fun K hK=>?_)|refine ak (fun K hK=>?_));(first|refine ah (f:=191) [1] 0 false ?_);simp-dsimp(disch:=try exact vD) only[push_cast,simprocAttr,w1,w2,w3];(repeat refine aI ?_);intro G hG;refine hG _ _ ?_;clear hG G;(first|refine⟨_,_,hr.down,?_⟩);simp-dsimp(disch:=try exact vD) only[push_cast,simprocAttr,w1,w2,w3];(repeat refine aI ?_);apply hK;clear hK K)|((first|refine ax rfl (fun K hK=>?_)|refine ak (fun K hK=>?_));(first|apply bM|apply aR|apply bU|apply aO|apply fM|apply fO|apply di|apply dH|apply zm|apply aP|apply dL|apply dE);simp-dsimp(disch:=try exact vD) only[push_cast,simprocAttr,w1,w2,w3];(repeat refine aI ?_);apply hK;clear hK K)|((first|refine aK rfl rfl (fun K1 K2 h1 h2=>?_) rfl|refine aF (fun K1 K2 h1 h2=>?_));simp-dsimp(disch:=try exact vD) only[push_cast,simprocAttr,w1,w2,w3];(first|(refine⟨fun hc=>?_,fun hc=>?_⟩<;>first|(exfalso;omega)|(exfalso;contradiction)|refine h1 ?_|refine h2 ?_)|refine h1 ?_|refine h2 ?_);all_goals clear h1 h2 K1 K2)|apply cu|apply aL|apply bH|apply aX|apply aM|apply bI|apply aY|(refine aQ rfl ?_)|apply aZ|apply bG|apply bF|apply bY)
  all_goals first
   |((refine Ends.mk2 (by first|exact .inr rfl|exact .inl rfl) [] ?_;simp-dsimp(disch:=try exact vD) only[push_cast,simprocAttr,Tryz.f176];try exact zqF);done)
   |skip
 ·obtain⟨g1,g2⟩:=hL v (by omega) (by omega)
  have hr:=PLift.up (I5 (neg:=decide (v<0)) g1 (by rw[g2,decide_eq_false hn];rfl) hd)
  clear hd g1 g2 hL
  refine az Tryz.func176 Tryz.ntmps176 rfl ?_
  repeat' (first|apply bZ|apply aB|((first|refine ax rfl (fun K hK=>?_)|refine ak (fun K hK=>?_));(first|refine ah (f:=191) [1] 0 false ?_);simp-dsimp(disch:=try exact vD) only[push_cast,simprocAttr];(repeat refine aI ?_);intro G hG;refine hG _ _ ?_;clear hG G;(first|refine⟨_,_,hr.down,?_⟩);simp-dsimp(disch:=try exact vD) only[push_cast,simprocAttr];(repeat refine aI ?_);apply hK;clear hK K)|((first|refine ax rfl (fun K hK=>?_)|refine ak (fun K hK=>?_));(first|apply bM|apply aR|apply bU|apply aO|apply fM|apply fO|apply di|apply dH|apply zm|apply aP|apply dL|apply dE);simp-dsimp(disch:=try exact vD) only[push_cast,simprocAttr];(repeat refine aI ?_);apply hK;clear hK K)|((first|refine aK rfl rfl (fun K1 K2 h1 h2=>?_) rfl|refine aF (fun K1 K2 h1 h2=>?_));simp-dsimp(disch:=try exact vD) only[push_cast,simprocAttr];(first|(refine⟨fun hc=>?_,fun hc=>?_⟩<;>first|(exfalso;omega)|(exfalso;contradiction)|refine h1 ?_|refine h2 ?_)|refine h1 ?_|refine h2 ?_);all_goals clear h1 h2 K1 K2)|apply cu|apply aL|apply bH|apply aX|apply aM|apply bI|apply aY|(refine aQ rfl ?_)|apply aZ|apply bG|apply bF|apply bY)
  all_goals first
   |((refine Ends.mk2 (by first|exact .inr rfl|exact .inl rfl) [] ?_;simp-dsimp(disch:=try exact vD) only[push_cast,simprocAttr,Tryz.f176];try exact zqF);done)
   |skip
end
