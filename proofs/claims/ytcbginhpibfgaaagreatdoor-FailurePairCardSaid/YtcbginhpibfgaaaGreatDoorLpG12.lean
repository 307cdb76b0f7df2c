/- Lp12 Lp13. No condition. -/
import Derived.Test.YtcbginhpibfgaaaGreatDoorLp11
import Derived.Test.YtcbginhpibfgaaaGreatDoorLp8
set_option linter.all false
set_option maxHeartbeats 4000000
set_option maxRecDepth 20000
namespace Go.Proofs.YtcbginhpibfgaaaGreatDoor
open Go Go.Sy Go.Bp Go.Lm
attribute [local irreducible] AO AL AC OpT ACall Ends DGo bK Thn Blk Nxt
variable {n N M k i m j r:Nat} {z z' neg:Bool} {l a b u vl L X X' X1 Qa Qb y yl w R T:List Int} {v x d f g c U V:Int}
def dX(U V:Int)(m k:Nat):List Int:=pd (m+1) (U%(V*bp k))
def dQ(U V:Int)(r k:Nat):List Int:=List.replicate k 0++pd (r-k) (U/(V*bp k))
theorem Oy:(dX U V m k).length=m+1:=rz
theorem XK(h:k≤r):(dQ U V r k).length=r:=by unfold dQ;rw[List.length_append,List.length_replicate,rz];omega
theorem ac7(hR:T.length=n+1)(h:j+n+1≤X.length):((sbZ X j n T).drop j).take (n+1)=T:=by
 unfold sbZ
 have e:(X.take j).length=j:=by rw[List.length_take];omega
 rw[List.append_assoc,List.drop_append_of_le_length (by omega),List.drop_eq_nil_of_le (by omega),List.nil_append,List.take_append_of_le_length (by omega),List.take_of_length_le (by omega)]
theorem ac8(hR:T.length=n+1)(h:j+n+1≤X.length):sbZ (sbZ X j n T) j n R=sbZ X j n R:=by
 have e:(X.take j).length=j:=by rw[List.length_take];omega
 have e1:(sbZ X j n T).take j=X.take j:=by
  unfold sbZ
  rw[List.append_assoc,List.take_append_of_le_length (by omega),List.take_of_length_le (by omega)]
 have e2:(sbZ X j n T).drop (j+n+1)=X.drop (j+n+1):=by
  unfold sbZ
  have:(X.take j++T).length=j+n+1:=by rw[List.length_append,e,hR];omega
  rw[List.drop_append_of_le_length (by omega),List.drop_eq_nil_of_le (by omega),List.nil_append]
 show(sbZ X j n T).take j++R++(sbZ X j n T).drop (j+n+1)=_
 rw[e1,e2];rfl
theorem ac9(hX:Lim X)(hT:Lim T):Lim (sbZ X j n T):=(hX.take.app hT).app hX.drop
theorem ait(hj:j<r)(hV:0<V)(hq0:0≤c)(hq1:c<1000000000)(hq:U/(V*bp j)=U/(V*bp (j+1))*1000000000+c):(dQ U V r (j+1)).set j c=dQ U V r j:=by
 unfold dQ
 rw[EO]
 have e:r-j=(r-(j+1))+1:=by omega
 rw[e]
 show _=List.replicate j 0++(U/(V*bp j)%1000000000::pd (r-(j+1)) (U/(V*bp j)/1000000000))
 rw[hq]
 have e1:(U/(V*bp (j+1))*1000000000+c)%1000000000=c:=by omega
 have e2:(U/(V*bp (j+1))*1000000000+c)/1000000000=U/(V*bp (j+1)):=by omega
 rw[e1,e2]
theorem XL(hU:0≤U)(hV:0<V)(hVn:V<bp n)(hm:m+1<2^30)(hM:j+n+1≤m+1)(hj:j<r)(hy:Lim yl)(hyl:yl.length=n)(hyv:val yl=V)(hn:2≤n)(htop:500000000≤yl.getD (n-1) 0):
 ∃qd X1,Rd n (m+1) j yl (yl.getD (n-1) 0) (yl.getD (n-2) 0) qd (dX U V m (j+1)) X1 (dX U V m j) (dQ U V r (j+1)) (dQ U V r j):=by
 have hs:=stp hU hV hVn hM (M:=m+1)
 have hg:=hs.guess hV hy hyl hyv hn htop
 have e1:=hs.exact hV hy hyl hyv
 have hwl:=hs.len;have hwL:=hs.lim
 have hq0:=hg.q0;have hq9:=hg.q9
 have hX:Lim (dX U V m (j+1)):=lim_pd
 have hXl:(dX U V m (j+1)).length=m+1:=Oy
 have g2:=hs.at_ n (by omega);have g1:=hs.at_ (n-1) (by omega);have g0:=hs.at_ (n-2) (by omega)
 rw[show j+(n-1)=j+n-1 by omega] at g1
 rw[show j+(n-2)=j+n-2 by omega] at g0
 have hw:((dX U V m (j+1)).drop j).take (n+1)=((pd (m+1) (U%(V*bp (j+1)))).drop j).take (n+1):=rfl
 generalize hww:((pd (m+1) (U%(V*bp (j+1)))).drop j).take (n+1)=w at*
 refine⟨val w/V,sbZ (dX U V m (j+1)) j n (tL w yl (val w/V+1) (n+1)),⟨hX.at _,hX.at _,hX.at _,⟨hq0,hq9⟩,?_,?_,?_,?_,?_,?_,?_,ait hj hV hq0 hq9 hs.quo⟩⟩
 ·have:=hg.hd.2;rw[g2,g1] at this;exact this
 ·have:=hg.first;rw[g2,g1] at this;exact this
 ·have:=hg.dec;rw[g2,g1,g0] at this;exact this
 ·have:=hg.stop;rw[g2,g1,g0] at this;exact this
 ·have:=Bj (f:=val w/V) hX hXl hy hyl hM hm ⟨hq0,hq9⟩ hw
  rw[e1.1,show decide (¬(0:Int)=0)=false from rfl] at this
  rw[show sbZ (dX U V m (j+1)) j n (tL w yl (val w/V) (n+1))=dX U V m j from e1.2] at this
  exact this
 ·intro h9
  have e2:=hs.over hV hVn hy hyl hyv h9
  have:=Bj (f:=val w/V+1) hX hXl hy hyl hM hm ⟨by omega,h9⟩ hw
  rw[e2.1,show decide (¬(1:Int)=0)=true from rfl] at this
  exact this
 ·intro h9
  have e2:=hs.over hV hVn hy hyl hyv h9
  have hT:=aeP (i:=n+1) hwL hy (f:=val w/V+1) ⟨by omega,h9⟩
  have hTl:(tL w yl (val w/V+1) (n+1)).length=n+1:=tL_len
  have hjx:j+n+1≤(dX U V m (j+1)).length:=by rw[hXl];exact hM
  have:=Ox (X:=sbZ (dX U V m (j+1)) j n (tL w yl (val w/V+1) (n+1))) (ac9 hX hT.1) (by rw[JV hTl hjx,hXl]) hy hyl hM hm (ac7 hTl hjx)
  rw[ac8 hTl hjx,show sbZ (dX U V m (j+1)) j n (pL (tL w yl (val w/V+1) (n+1)) yl (n+1))=dX U V m j from e2.2] at this
  exact this
theorem SQ(hn:vl.length=n+1):val vl=val (vl.take n)+bp n*vl.getD n 0:=by
 have:=fI (l:=vl) n
 rw[List.drop_eq_getElem_cons (by omega),List.drop_eq_nil_of_le (by omega),og,Nat.min_eq_left (by omega),←iK (by omega)] at this
 exact this
theorem Md(hu:Lim u)(hv:Lim vl)(hul:u.length=m)(hvl:vl.length=n)(htv:Tr vl)(hn:2≤n)(hm:n≤m)(hm2:m<2^29)(hc0:0≤c)(hcm:ACall Tryz.prog 135 [.isl z (cI .u32 u) m,.isl z' (cI .u32 vl) n] [] 0 (.val (.int .i64 c)) []):
 ACall Tryz.prog 152 [.isl z (cI .u32 u) m,.isl z' (cI .u32 vl) n] [] 0 (.tup [.isl false (cI .u32 (lb (val u/val vl).toNat)) (lb (val u/val vl).toNat).length,.isl false (cI .u32 (lb (val u%val vl).toNat)) (lb (val u%val vl).toNat).length]) []:=by
 obtain⟨p,rfl⟩:∃p,n=p+2:=⟨n-2,by omega⟩
 have en:p+2-1=p+1:=rfl
 have hvt:=hv.at (p+1)
 have hvn:vl≠[]:=fun h=>by rw[h] at hvl;exact absurd hvl (by simp)
 have hv1:1≤vl.getD (p+1) 0:=by
  rcases htv with h|h
  ·exact absurd h hvn
  ·rw[hvl] at h
   have:¬vl.getD (p+1) 0=0:=h
   omega
 have hsp:=SQ (vl:=vl) (n:=p+1) hvl
 have htk:=bJ (l:=vl.take (p+1)) hv.take
 rw[List.length_take,Nat.min_eq_left (by omega)] at htk
 have hur:=bJ hu
 rw[hul] at hur
 obtain⟨n1,n2,n3,n4⟩:=acV hv1 hvt.2
 generalize hd:1000000000/(vl.getD (p+1) 0+1)=d at*
 generalize hvtx:vl.getD (p+1) 0=vt at*
 have hb:=gZ (k:=p+1)
 have hbs:bp (p+2)=1000000000*bp (p+1):=yC
 have hV0:0<val vl:=by
  have:bp (p+1)*1≤bp (p+1)*vt:=Int.mul_le_mul_of_nonneg_left hv1 (by omega)
  omega
 have hVb:bp (p+1)≤val vl:=by
  have:bp (p+1)*1≤bp (p+1)*vt:=Int.mul_le_mul_of_nonneg_left hv1 (by omega)
  omega
 have hVd:val vl*d<bp (p+2):=by
  have h1:val vl+1≤bp (p+1)*(vt+1):=by rw[Int.mul_add,Int.mul_one];omega
  have h2:(val vl+1)*d≤bp (p+1)*(vt+1)*d:=Int.mul_le_mul_of_nonneg_right h1 (by omega)
  have h3:bp (p+1)*((vt+1)*d)≤bp (p+1)*1000000000:=Int.mul_le_mul_of_nonneg_left (by rw[Int.mul_comm];exact n4) (by omega)
  rw[Int.mul_assoc] at h2
  rw[Int.add_mul,Int.one_mul] at h2
  omega
 have hVdt:500000000*bp (p+1)≤val vl*d:=by
  have h1:bp (p+1)*vt*d≤val vl*d:=Int.mul_le_mul_of_nonneg_right (by omega) (by omega)
  have h2:bp (p+1)*500000000≤bp (p+1)*(vt*d):=Int.mul_le_mul_of_nonneg_left (by rw[Int.mul_comm];exact n3) (by omega)
  rw[Int.mul_assoc] at h1
  omega
 have hVd0:0<val vl*d:=Int.mul_pos hV0 (by omega)
 obtain⟨y1,y2⟩:=IC (n:=p+2) hv ⟨by omega,n2⟩ (by omega) hVd
 have hyl:(scL vl d (p+2)).length=p+2:=iL
 have hUd0:0≤val u*d:=Int.mul_nonneg hur.1 (by omega)
 have hbm:=gZ (k:=m)
 have hUd:val u*d<bp (m+1):=by
  have h1:val u*d≤bp m*d:=Int.mul_le_mul_of_nonneg_right (by omega) (by omega)
  have h2:bp m*d≤bp m*999999999:=Int.mul_le_mul_of_nonneg_left (by omega) (by omega)
  rw[yC];omega
 obtain⟨x1,x2⟩:=IC (n:=m+1) hu ⟨by omega,n2⟩ (by omega) hUd
 have hxl:(scL u d (m+1)).length=m+1:=iL
 obtain⟨r,hr⟩:∃r,r=m-(p+2)+1:=⟨_,rfl⟩
 have hUV:val u<val vl*bp r:=by
  have h1:bp (p+1)*bp r≤val vl*bp r:=Int.mul_le_mul_of_nonneg_right hVb (by have:=gZ (k:=r);omega)
  rw[←Oh,show p+1+r=m by omega] at h1
  omega
 have hUVd:val u*d<val vl*d*bp r:=by
  have h1:=Int.mul_lt_mul_of_pos_right hUV (show 0<d by omega)
  rw[Int.mul_assoc,Int.mul_comm (bp r),←Int.mul_assoc] at h1
  exact h1
 have hXr:scL u d (m+1)=dX (val u*d) (val vl*d) m r:=by
  unfold dX
  rw[Int.emod_eq_of_lt hUd0 hUVd]
  exact aeO x1 hxl x2
 have hxs:=XI (z:=z) (u:=u) (d:=d) (m:=m) (n:=m+1) hu hul (by omega) (by omega) ⟨by omega,n2⟩
 rw[hXr] at hxs
 have hys:=XJ (z:=z') (u:=vl) (d:=d) (m:=p+2) (n:=p+2) hv hvl (by omega) (by omega) ⟨by omega,n2⟩
 have htop:500000000≤(scL vl d (p+2)).getD (p+1) 0:=ail y1 hyl (by rw[y2];exact hVdt)
 have hdz:∀(A:Int),A*bp 0=A:=fun A=>by rw[Xg,Int.mul_one]
 -- the ends
 have hX0:Lim (dX (val u*d) (val vl*d) m 0):=lim_pd
 have hm0:=Int.emod_nonneg (val u*d) (show val vl*d≠0 by omega)
 have hm1:=Int.emod_lt_of_pos (val u*d) hVd0
 have hbn:bp (p+2)≤bp (m+1):=IA (by omega)
 have hXv:val ((dX (val u*d) (val vl*d) m 0).take (p+2))=val u*d%(val vl*d):=by
  unfold dX
  rw[hdz,(JL hm0 (by omega) (by omega)).2,Int.emod_eq_of_lt hm0 (by omega)]
 have hXtl:((dX (val u*d) (val vl*d) m 0).take (p+2)).length=p+2:=by rw[List.length_take,Oy];omega
 have htr:=mD (z:=false) hXtl (by omega)
 have t1:=jK (l:=(dX (val u*d) (val vl*d) m 0).take (p+2)) hX0.take
 have t2:=jL (l:=(dX (val u*d) (val vl*d) m 0).take (p+2)) hX0.take
 rw[hXtl,hXv] at t1 t2
 rw[t1,←t2] at htr
 have hq0:0≤val u*d/(val vl*d):=Int.ediv_nonneg hUd0 (by omega)
 have hq1:val u*d/(val vl*d)<bp r:=Int.ediv_lt_of_lt_mul hVd0 (by rw[Int.mul_comm (bp r)];exact hUVd)
 have hQv:val (dQ (val u*d) (val vl*d) r 0)=val u*d/(val vl*d):=by
  unfold dQ
  rw[List.replicate_zero,List.nil_append,hdz,Nat.sub_zero,Oo hq0 hq1]
 have hQl:(dQ (val u*d) (val vl*d) r 0).length=r:=XK (Nat.zero_le _)
 have hQL:Lim (dQ (val u*d) (val vl*d) r 0):=Lim.rep.app lim_pd
 have htq:=mD (z:=false) hQl (by omega)
 have t3:=jK (l:=dQ (val u*d) (val vl*d) r 0) hQL
 have t4:=jL (l:=dQ (val u*d) (val vl*d) r 0) hQL
 rw[hQl,hQv] at t3 t4
 rw[t3,←t4] at htq
 obtain⟨s1,s2⟩:=SK (d:=d) (v:=val vl) (c:=val u) (by omega) hV0 hur.1
 have hRl:(lb (val u*d%(val vl*d)).toNat).length≤p+2:=by rw[t2];exact vg
 have hsh:=L9 (z:=false) (u:=lb (val u*d%(val vl*d)).toNat) (v:=d) lim_lb rfl (by omega) (by omega) n2
 rw[aU,show(((val u*d%(val vl*d)).toNat:Nat):Int)=val u%val vl*d by rw[Int.toNat_of_nonneg hm0,s2],Int.mul_ediv_cancel _ (show d≠0 by omega)] at hsh
 rw[s1] at htq
 refine Mc (X:=dX (val u*d) (val vl*d) m) (Q:=dQ (val u*d) (val vl*d) r) hn hm hm2 hr hul hvl hv (by rw[en,hvtx];exact hv1) (by rw[en,hvtx];exact hd) ⟨n1,n2⟩ hyl rfl rfl ⟨htop,(y1.at _).2⟩ (y1.at _) hc0 hcm hxs hys (fun k hk=>Oy) (fun k hk=>XK hk) ?_ (fun j hj=>?_) htr hsh htq
 ·unfold dQ;rw[Nat.sub_self];exact(List.append_nil _).symm
 ·exact XL hUd0 hVd0 hVd (by omega) (by omega) hj y1 hyl y2 hn htop
end Go.Proofs.YtcbginhpibfgaaaGreatDoor
namespace Go.Proofs.YtcbginhpibfgaaaGreatDoor
open Go Go.Sy Go.Bp Go.Lm
attribute [local irreducible] AO AL AC OpT ACall Ends DGo bK Thn Blk Nxt
variable {n N M k i m j r X Y q:Nat} {z z' zq zr neg nx ny:Bool} {l a b u vl L R T Q Lx Ly:List Int} {v x y d f g c rv e:Int} {W W2:IV}
theorem XP:ACall Tryz.prog 151 [.isl true [] 0] [] 0 (.isl true [] 0) []:=by
 refine ak Tryz.func151 Tryz.ntmps151 rfl ?_
 repeat' (first|refine zqN ?_|refine aK ?_|refine iy ?_|refine iA ?_|refine iB ?_|refine aL ?_|(refine aM ?_ ?_<;>intro hc<;>try exact zqM))
 all_goals(refine Ends.mk2 zqI [] ?_;simp-dsimp(disch:=try exact vD) only[push_cast,simprocAttr,Tryz.f151];try exact zqF)
theorem XQ(hn:l.length=n)(hb:n<2^30):ACall Tryz.prog 151 [.isl false (cI .u32 l) n] [] 0 (.isl false (cI .u32 l) n) []:=by
 refine ak Tryz.func151 Tryz.ntmps151 rfl ?_
 repeat' (first|refine zqN ?_|refine aK ?_|refine iy ?_|refine iA ?_|refine iB ?_|refine aL ?_|(refine aM ?_ ?_<;>intro hc<;>try exact zqM))
 all_goals((refine Ends.frz 1 ?_;simp-dsimp(disch:=try exact vD) only[push_cast,simprocAttr,Tryz.f151];(repeat refine aI ?_);intro K hK;refine hK _ _ ?_;clear hK K);refine Ends.mk2 zqI [] ?_;simp-dsimp(disch:=try exact vD) only[push_cast,simprocAttr,Tryz.f151];try exact zqF)
theorem Oz(hn:l.length=n)(hb:n<2^30)(hz:z=true→l=[]):ACall Tryz.prog 151 [.isl z (cI .u32 l) n] [] 0 (.isl z (cI .u32 l) n) []:=by
 cases z with
 |false=>exact XQ hn hb
 |true=>
  have e:=hz rfl
  subst e;subst hn;exact XP
theorem SV(hc:c<0)(hcm:ACall Tryz.prog 135 [.isl z (cI .u32 u) m,.isl z' (cI .u32 vl) n] [] 0 (.val (.int .i64 c)) [])(hcl:ACall Tryz.prog 151 [.isl z (cI .u32 u) m] [] 0 (.isl z (cI .u32 u) m) []):
 ACall Tryz.prog 152 [.isl z (cI .u32 u) m,.isl z' (cI .u32 vl) n] [] 0 (.tup [.isl true [] 0,.isl z (cI .u32 u) m]) []:=by
 have hcm:=PLift.up hcm;have hcl:=PLift.up hcl
 refine ak Tryz.func152 Tryz.ntmps152 rfl ?_
 repeat' (first|refine zqN ?_|refine az hcm.down ?_|refine az hcl.down ?_|refine aK ?_|refine iy ?_|refine iA ?_|refine iB ?_|refine aL ?_|(refine aM ?_ ?_<;>intro hc<;>try exact zqM)|refine zqR 9 [⟨0,[],[62,63,67,68,69,70,71,72],[],[],0⟩,⟨1,[],[61,67,68,69,70,71,72],[],[],0⟩,⟨2,[1],[61,67,68,69,70,71,72],[],[],0⟩,⟨3,[0,1,2],[67,68,69,70,71,72],[],[],0⟩,⟨4,[0,1,2,3],[67,68,69,70,71,72],[],[],0⟩,⟨5,[0,1,2,3,4],[67,68,69,70,71,72],[],[],0⟩,⟨6,[],[12,61,62,63,64,65,66,68,69],[],[],0⟩,⟨7,[],[12,61,62,63,64,65,66,67],[],[],0⟩,⟨8,[7],[12,61,62,63,64,65,66,67],[],[],0⟩,⟨9,[6,7,8],[12,61,62,63,64,65,66],[],[],0⟩,⟨10,[6,7,8,9],[12,61,62,63,64,65,66],[],[],0⟩,⟨11,[6,7,8,9,10],[12,61,62,63,64,65,66],[],[],0⟩,⟨12,[0,1,2,3,4,5],[67,68,69,70,71,72],[],[],0⟩,⟨13,[0,1,2,3,4,5,6,7,8,9,10,11,12],[],[],[],0⟩] ?_|refine zqR 14 [⟨0,[],[88,89,90,95,96,97,98,99,100,101,102],[],[],0⟩,⟨1,[],[87,89,95,96,97,98,99,100,101,102],[],[],0⟩,⟨2,[],[87,88,95,96,97,98,99,100,101,102],[],[],0⟩,⟨3,[1,2],[87,95,96,97,98,99,100,101,102],[],[],0⟩,⟨4,[0,1,2,3],[95,96,97,98,99,100,101,102],[],[],0⟩,⟨5,[0,1,2,3,4],[95,96,97,98,99,100,101,102],[],[],0⟩,⟨6,[0,1,2,3,4,5],[95,96,97,98,99,100,101,102],[],[],0⟩,⟨7,[0,1,2,3,4,5,6],[95,96,97,98,99,100,101,102],[],[],0⟩,⟨8,[],[87,88,89,90,91,92,93,94,96,97,98,99],[],[],0⟩,⟨9,[],[87,88,89,90,91,92,93,94,95,97],[],[],0⟩,⟨10,[],[87,88,89,90,91,92,93,94,95,96],[],[],0⟩,⟨11,[9,10],[87,88,89,90,91,92,93,94,95],[],[],0⟩,⟨12,[9,10,11],[87,88,89,90,91,92,93,94,95],[],[],0⟩,⟨13,[8,9,10,11,12],[87,88,89,90,91,92,93,94],[],[],0⟩,⟨14,[8,9,10,11,12,13],[87,88,89,90,91,92,93,94],[],[],0⟩,⟨15,[8,9,10,11,12,13,14],[87,88,89,90,91,92,93,94],[],[],0⟩,⟨16,[0,1,2,3,4,5,6,7,8,9,10,11,12,13,14,15],[],[],[],0⟩,⟨17,[0,1,2,3,4,5,6,7,8,9,10,11,12,13,14,15,16],[],[],[],0⟩] ?_|refine zqR 15 [⟨0,[],[105,107,108,109],[],[],0⟩,⟨1,[],[104,107,108,109],[],[],0⟩,⟨2,[0,1],[107,108,109],[],[],0⟩,⟨3,[],[17,104,105,106,108],[],[],0⟩,⟨4,[],[17,104,105,106,107],[],[],0⟩,⟨5,[3,4],[17,104,105,106],[],[],0⟩,⟨6,[0,1,2],[107,108,109],[],[],0⟩,⟨7,[0,1,2,3,4,5,6],[],[],[],0⟩] ?_|refine zqD ?_|fail)
 all_goals first
  |((refine Ends.mk2 zqI [] ?_;simp-dsimp(disch:=try exact vD) only[push_cast,simprocAttr,Tryz.f152];try exact zqF);done)
  |skip
theorem OA(hc:0≤c)(hvl:vl.length=1)(hv0:vl.getD 0 default=v)(hcm:ACall Tryz.prog 135 [.isl z (cI .u32 u) m,.isl z' (cI .u32 vl) 1] [] 0 (.val (.int .i64 c)) [])
 (hsh:ACall Tryz.prog 161 [.isl z (cI .u32 u) m,.val (.int .u32 v)] [] 0 (.tup [.isl false (cI .u32 T) i,.val (.int .u32 rv)]) []) (htr:ACall Tryz.prog 153 [.sl 0 0 1 1] [.cells (cI .u32 [rv]) 115] 0 (.isl false (cI .u32 R) k) []):
 ACall Tryz.prog 152 [.isl z (cI .u32 u) m,.isl z' (cI .u32 vl) 1] [] 0 (.tup [.isl false (cI .u32 T) i,.isl false (cI .u32 R) k]) []:=by
 have hcm:=PLift.up hcm;have hsh:=PLift.up hsh
 rw[show cI .u32 [rv]=[.val (.int .u32 rv)] from rfl] at htr
 have htr:=PLift.up htr
 refine ak Tryz.func152 Tryz.ntmps152 rfl ?_
 have zx1:= @hv0;have zx2:=aC;have zx3:=aC;repeat' (first|refine zqN ?_|((first|refine ay rfl (fun K hK=>?_)|refine aj (fun K hK=>?_)|refine aA (fun K hK=>?_));(first|refine ah (f:=135) [] 0 false ?_|refine ah (f:=161) [] 0 false ?_|refine ah (f:=153) [0] 0 false ?_);refine l8 ?_;(first|refine⟨_,_,hcm.down,?_⟩|refine⟨_,_,hsh.down,?_⟩|refine⟨_,_,htr.down,?_⟩);refine gQ ?_;apply hK;clear hK K)|refine bM ?_|refine jT ?_|refine jU ?_|refine jV ?_|refine bO ?_|(refine bP ?_ ?_<;>intro hc<;>try exact zqM)|refine zqR 9 [⟨0,[],[62,63,67,68,69,70,71,72],[],[],0⟩,⟨1,[],[61,67,68,69,70,71,72],[],[],0⟩,⟨2,[1],[61,67,68,69,70,71,72],[],[],0⟩,⟨3,[0,1,2],[67,68,69,70,71,72],[],[],0⟩,⟨4,[0,1,2,3],[67,68,69,70,71,72],[],[],0⟩,⟨5,[0,1,2,3,4],[67,68,69,70,71,72],[],[],0⟩,⟨6,[],[12,61,62,63,64,65,66,68,69],[],[],0⟩,⟨7,[],[12,61,62,63,64,65,66,67],[],[],0⟩,⟨8,[7],[12,61,62,63,64,65,66,67],[],[],0⟩,⟨9,[6,7,8],[12,61,62,63,64,65,66],[],[],0⟩,⟨10,[6,7,8,9],[12,61,62,63,64,65,66],[],[],0⟩,⟨11,[6,7,8,9,10],[12,61,62,63,64,65,66],[],[],0⟩,⟨12,[0,1,2,3,4,5],[67,68,69,70,71,72],[],[],0⟩,⟨13,[0,1,2,3,4,5,6,7,8,9,10,11,12],[],[],[],0⟩] ?_|refine zqR 14 [⟨0,[],[88,89,90,95,96,97,98,99,100,101,102],[],[],0⟩,⟨1,[],[87,89,95,96,97,98,99,100,101,102],[],[],0⟩,⟨2,[],[87,88,95,96,97,98,99,100,101,102],[],[],0⟩,⟨3,[1,2],[87,95,96,97,98,99,100,101,102],[],[],0⟩,⟨4,[0,1,2,3],[95,96,97,98,99,100,101,102],[],[],0⟩,⟨5,[0,1,2,3,4],[95,96,97,98,99,100,101,102],[],[],0⟩,⟨6,[0,1,2,3,4,5],[95,96,97,98,99,100,101,102],[],[],0⟩,⟨7,[0,1,2,3,4,5,6],[95,96,97,98,99,100,101,102],[],[],0⟩,⟨8,[],[87,88,89,90,91,92,93,94,96,97,98,99],[],[],0⟩,⟨9,[],[87,88,89,90,91,92,93,94,95,97],[],[],0⟩,⟨10,[],[87,88,89,90,91,92,93,94,95,96],[],[],0⟩,⟨11,[9,10],[87,88,89,90,91,92,93,94,95],[],[],0⟩,⟨12,[9,10,11],[87,88,89,90,91,92,93,94,95],[],[],0⟩,⟨13,[8,9,10,11,12],[87,88,89,90,91,92,93,94],[],[],0⟩,⟨14,[8,9,10,11,12,13],[87,88,89,90,91,92,93,94],[],[],0⟩,⟨15,[8,9,10,11,12,13,14],[87,88,89,90,91,92,93,94],[],[],0⟩,⟨16,[0,1,2,3,4,5,6,7,8,9,10,11,12,13,14,15],[],[],[],0⟩,⟨17,[0,1,2,3,4,5,6,7,8,9,10,11,12,13,14,15,16],[],[],[],0⟩] ?_|refine zqR 15 [⟨0,[],[105,107,108,109],[],[],0⟩,⟨1,[],[104,107,108,109],[],[],0⟩,⟨2,[0,1],[107,108,109],[],[],0⟩,⟨3,[],[17,104,105,106,108],[],[],0⟩,⟨4,[],[17,104,105,106,107],[],[],0⟩,⟨5,[3,4],[17,104,105,106],[],[],0⟩,⟨6,[0,1,2],[107,108,109],[],[],0⟩,⟨7,[0,1,2,3,4,5,6],[],[],[],0⟩] ?_|refine zqD ?_|fail)
 all_goals first
  |((refine Ends.mk2 zqI [] ?_;simp-dsimp(disch:=try exact vD) only[push_cast,simprocAttr,Tryz.f152];try exact zqF);done)
  |skip
theorem aeU(h:l.length=n):(cI .u32 l).take n=cI .u32 l:=List.take_of_length_le (by rw[Nq];omega)
theorem XR(hl:l.length=n)(hn:n<2^47):ACall Tryz.prog 153 [.sl 0 0 n 1] [.cells (cI .u32 l) 115] 0 (.isl false (cI .u32 (l.take (trN l n))) (trN l n)) []:=
 ACall.own (args':=[.isl false (cI .u32 l) n]) (by rw[uV];trivial) (by simp[bT,aeU hl]) (by simp[bnd,uV]) (mD hl hn)
theorem iM(h:X≤Y):(lb X).length≤(lb Y).length:=by
 refine Decidable.not_not.1 fun hc=>?_
 have:=yD (a:=lb Y) (b:=lb X) lim_lb lim_lb ic (by omega)
 rw[aU,aU] at this;omega
theorem II(hX:(lb X).length<2^28)(hY2:(lb Y).length<2^28)(hY:0<Y)(hz:z=true→X=0):
 ∃zq zr,(zq=true→X/Y=0)∧(zr=true→X%Y=0)∧ACall Tryz.prog 152 [.isl z (cI .u32 (lb X)) (lb X).length,.isl z' (cI .u32 (lb Y)) (lb Y).length] [] 0 (.tup [.isl zq (cI .u32 (lb (X/Y))) (lb (X/Y)).length,.isl zr (cI .u32 (lb (X%Y))) (lb (X%Y)).length]) []:=by
 by_cases hXY:X<Y
 ·rw[Nat.div_eq_of_lt hXY,Nat.mod_eq_of_lt hXY]
  have hcm:=mE (z:=z) (z':=z') (a:=lb X) (b:=lb Y) lim_lb lim_lb ic ic (by omega) (by omega)
  rw[ES (by rw[aU,aU];omega)] at hcm
  exact⟨true,z,fun _=>rfl,hz,SV (by decide) hcm (Oz rfl (by omega) fun h=>by rw[hz h];rfl)⟩
 ·have hYX:Y≤X:=by omega
  have hlen:=iM hYX
  have hcm:=mE (z:=z) (z':=z') (a:=lb X) (b:=lb Y) lim_lb lim_lb ic ic (by omega) (by omega)
  have hc:0≤oh (lb X) (lb Y):=by unfold oh;rw[aU,aU,if_neg (by omega)];split<;>omega
  refine⟨false,false,fun h=>(by cases h),fun h=>(by cases h),?_⟩
  have e1:((X:Int)/Y).toNat=X/Y:=by rw[←Int.natCast_ediv,Int.toNat_natCast]
  have e2:((X:Int)%Y).toNat=X%Y:=by rw[←Int.natCast_emod,Int.toNat_natCast]
  have hY0:(lb Y).length≠0:=fun h=>by have:=iE.1 (List.length_eq_zero_iff.1 h);omega
  by_cases h1:(lb Y).length=1
  ·obtain⟨w,hw⟩:=List.length_eq_one_iff.1 h1
   have hv:=aU (n:=Y)
   have hlw:=lim_lb (n:=Y)
   rw[hw,og] at hv
   rw[hw] at hlw
   have hr:=hlw.hd
   subst hv
   have hsh:=L9 (z:=z) (u:=lb X) (v:=(Y:Int)) lim_lb rfl (by omega) (by omega) hr.2
   rw[aU,e1] at hsh
   have htr:=XR (l:=[(X:Int)%Y]) (n:=1) rfl (by decide)
   have hm0:=Int.emod_nonneg (X:Int) (show(Y:Int)≠0 by omega)
   have hm1:=Int.emod_lt_of_pos (X:Int) (show 0<(Y:Int) by omega)
   have hL:Lim [(X:Int)%Y]:=Lim.nil.cons ⟨hm0,by omega⟩
   have t1:=jK hL
   have t2:=jL hL
   rw[og,e2] at t1 t2
   rw[show [(X:Int)%Y].length=1 from rfl] at t1 t2
   rw[t1,←t2] at htr
   rw[h1] at hcm⊢
   exact OA hc h1 (by rw[hw];rfl) hcm hsh htr
  ·have:=Md (z:=z) (z':=z') (u:=lb X) (vl:=lb Y) lim_lb lim_lb rfl rfl ic (by omega) hlen (by omega) hc hcm
   rw[aU,aU,e1,e2] at this
   exact this
