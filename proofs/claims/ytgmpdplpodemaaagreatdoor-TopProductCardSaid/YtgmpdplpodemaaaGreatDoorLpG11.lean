/- Lp11 Lp12 Lp13 Lp14 Lr1. No condition. -/
import Derived.Test.YtgmpdplpodemaaaGreatDoorLpG3b
set_option linter.all false
set_option maxHeartbeats 8000000
set_option maxRecDepth 20000
namespace Go.Proofs.YtgmpdplpodemaaaGreatDoor
section
open Go Go.Sy Go.Bp Go.Lm
attribute [local irreducible] AO AL AC OpT ACall Ends DGo aK Thn Blk Nxt
variable {n N M k i m j r:Nat} {z z' neg:Bool} {l a b u vl L X X' X1 Qa Qb y yl w R T:List Int} {v x d f g c rr top second qd hd x0 x1 x2 vt:Int}
theorem Zv(h1:500000000<=top/\top<1000000000)(h0:0<=hd)(h:hd<=top*1000000000+999999999):0<=hd/top/\hd/top<=1000000001/\0<=hd%top/\hd%top<1000000000/\hd=hd/top*top+hd%top:=by
 have e:=Int.mul_ediv_add_emod hd top
 have r0:=Int.emod_nonneg hd (show top≠0 by omega)
 have r1:=Int.emod_lt_of_pos hd (show 0<top by omega)
 refine⟨Int.ediv_nonneg h0 omgz,?_,r0,omgz,by rw[Int.mul_comm];omega⟩
 refine Int.lt_add_one_iff.1 (Int.ediv_lt_of_lt_mul omgz ?_)
 rw[Int.mul_comm];omega
structure Rd(n M j:Nat)(yl:List Int)(top second qd:Int)(X X1 X' Qa Qb:List Int):Prop where
 h2:0<=X.getD (j+n) 0/\X.getD (j+n) 0<1000000000
 h1:0<=X.getD (j+n-1) 0/\X.getD (j+n-1) 0<1000000000
 h0:0<=X.getD (j+n-2) 0/\X.getD (j+n-2) 0<1000000000
 q0:0<=qd/\qd<1000000000
 hd:X.getD (j+n) 0*1000000000+X.getD (j+n-1) 0<=top*1000000000+999999999
 first:qd<=(X.getD (j+n) 0*1000000000+X.getD (j+n-1) 0)/top
 dec:∀g r,qd<=g->0<=r->X.getD (j+n) 0*1000000000+X.getD (j+n-1) 0=g*top+r->r*1000000000+X.getD (j+n-2) 0<g*second->qd<=g-1
 stop:∀g r,qd<=g->g<1000000000->0<=r->X.getD (j+n) 0*1000000000+X.getD (j+n-1) 0=g*top+r->(g*second<=r*1000000000+X.getD (j+n-2) 0\/1000000000<=r)->g<=qd+1
 s1:ACall Tryz.prog 212 [.sl 0 j (n+1) 1,.isl false (cI .u32 yl) n,.val (.int .u64 qd)] [.cells (cI .u32 X) 136] 1 (.val (.bool false)) [.cells (cI .u32 X') 136]
 s2:qd+1<1000000000->ACall Tryz.prog 212 [.sl 0 j (n+1) 1,.isl false (cI .u32 yl) n,.val (.int .u64 (qd+1))] [.cells (cI .u32 X) 136] 1 (.val (.bool true)) [.cells (cI .u32 X1) 136]
 s3:qd+1<1000000000->ACall Tryz.prog 213 [.sl 0 j (n+1) 1,.isl false (cI .u32 yl) n] [.cells (cI .u32 X1) 136] 1 (.tup []) [.cells (cI .u32 X') 136]
 qs:Qa.set j qd=Qb
theorem agI(htop:500000000<=top/\top<1000000000)(q0:0<=qd/\qd<1000000000)(hh:hd<=top*1000000000+999999999)
 (dec:∀g r,qd<=g->0<=r->hd=g*top+r->r*1000000000+x0<g*second->qd<=g-1)
 (stop:∀g r,qd<=g->g<1000000000->0<=r->hd=g*top+r->(g*second<=r*1000000000+x0\/1000000000<=r)->g<=qd+1)
 (h1:qd<=g) (h2:0<=rr/\rr<1000000000) (h3:hd=g*top+rr):
 (g=qd/\¬1000000000<=g/\¬rr*1000000000+x0<g*second)\/(g=qd+1/\¬1000000000<=g/\¬rr*1000000000+x0<g*second)
 \/(1000000000<=g/\¬1000000000<=rr+top/\qd<=g-1/\hd=(g-1)*top+(rr+top))\/(¬1000000000<=g/\rr*1000000000+x0<g*second/\¬1000000000<=rr+top/\qd<=g-1/\hd=(g-1)*top+(rr+top))
 \/(1000000000<=g/\1000000000<=rr+top/\g=qd+1)\/(1000000000<=g/\1000000000<=rr+top/\g=qd+2/\qd+1<1000000000)
 \/(¬1000000000<=g/\rr*1000000000+x0<g*second/\1000000000<=rr+top/\g=qd+1)\/(¬1000000000<=g/\rr*1000000000+x0<g*second/\1000000000<=rr+top/\g=qd+2/\qd+1<1000000000):=by
 have e3:hd=(g-1)*top+(rr+top):=by rw[Int.sub_mul,Int.one_mul];omega
 by_cases c1:1000000000<=g
 ·have hq:qd<=g-1:=by omega
  by_cases c3:1000000000<=rr+top
  ·have hlt:g-1<1000000000:=by
    refine Decidable.not_not.1 λhc=>?_
    have:1000000000*top<=(g-1)*top:=Int.mul_le_mul_of_nonneg_right omgz omgz
    omega
   have:=stop (g-1) (rr+top) hq hlt omgz e3 (.inr c3)
   omega
  ·exact .inr (.inr (.inl ⟨c1,c3,hq,e3⟩))
 ·by_cases c2:rr*1000000000+x0<g*second
  ·have hq:=dec g rr h1 h2.1 h3 c2
   by_cases c3:1000000000<=rr+top
   ·have:=stop (g-1) (rr+top) hq omgz omgz e3 (.inr c3)
    omega
   ·exact .inr (.inr (.inr (.inl ⟨c1,c2,c3,hq,e3⟩)))
  ·have:=stop g rr h1 omgz h2.1 h3 (.inl omgz)
   omega
theorem agJ(h1:0<=g/\g<=1000000001)(h2:0<=second/\second<1000000000):0<=g*second/\g*second<=1000000000999999999:=by
 refine⟨Int.mul_nonneg h1.1 h2.1,?_⟩
 have:=Int.mul_le_mul_of_nonneg_left (show second<=999999999 by omega) h1.1
 omega
theorem a2s(x:Int):x+2-1=x+1:=by omega
def dvI(yl:List Int)(n m r:Nat)(d top second:Int)(X Q:Nat->List Int)(k:{k:Nat // k<=r}):St:=
 ⟨175,0,[(6,.val (.int .i64 n)),(9,.val (.int .u64 d)),(10,.sl 0 0 (m+1) 1),(11,.isl false (cI .u32 yl) n),(12,.val (.int .u64 top)),(13,.val (.int .u64 second)),(14,.sl 1 0 r 1),(15,.val (.int .i64 ((k.val:Int)-1)))],[(0,some (.cells (cI .u32 (X k.val)) 136)),(1,some (.cells (cI .u32 (Q k.val)) 136))]⟩
def dvJ(yl:List Int)(n m r j:Nat)(d top second hd:Int)(qd:Int)(X Qa:List Int)(p:{p:Int×Int // qd<=p.1/\p.1<=1000000001/\(0<=p.2/\p.2<1000000000)/\hd=p.1*top+p.2}):St:=
 ⟨175,0,[(6,.val (.int .i64 n)),(9,.val (.int .u64 d)),(10,.sl 0 0 (m+1) 1),(11,.isl false (cI .u32 yl) n),(12,.val (.int .u64 top)),(13,.val (.int .u64 second)),(14,.sl 1 0 r 1),(15,.val (.int .i64 j)),(17,.val (.int .u64 p.val.1)),(18,.val (.int .u64 p.val.2))],[(0,some (.cells (cI .u32 X) 136)),(1,some (.cells (cI .u32 Qa) 136))]⟩
theorem F9{X Q:Nat->List Int} {v1:Int}(hn:2<=n)(hm:n<=m)(hm2:m<2^29)(hr:r=m-n+1)(hul:u.length=m)(hvl:vl.length=n)(hv:Lim vl)(hvt:1<=vl.getD (n-1) 0)
 (hd0:1000000000/(vl.getD (n-1) 0+1)=d) (hd1:1<=d/\d<1000000000) (hyl:yl.length=n) (htop:yl.getD (n-1) 0=top) (hsec:yl.getD (n-2) 0=second) (ht1:500000000<=top/\top<1000000000) (hs1:0<=second/\second<1000000000)
 (hc0:0<=c) (hcm:ACall Tryz.prog 192 [.isl z (cI .u32 u) m,.isl z' (cI .u32 vl) n] [] 0 (.val (.int .i64 c)) [])
 (hxs:ACall Tryz.prog 211 [.isl z (cI .u32 u) m,.val (.int .u64 d),.val (.int .i64 ((m:Int)+1))] [] 0 (.sl 0 0 (m+1) 1) [.cells (cI .u32 (X r)) 136])
 (hys:ACall Tryz.prog 211 [.isl z' (cI .u32 vl) n,.val (.int .u64 d),.val (.int .i64 n)] [] 0 (.isl false (cI .u32 yl) n) [])
 (hX:∀k,k<=r->(X k).length=m+1) (hQ:∀k,k<=r->(Q k).length=r) (hQr:List.replicate r 0=Q r)
 (hRd:∀j,j<r->∃qd X1,Rd n (m+1) j yl top second qd (X (j+1)) X1 (X j) (Q (j+1)) (Q j))
 (htr:ACall Tryz.prog 210 [.isl false (cI .u32 ((X 0).take n)) n] [] 0 (.isl false (cI .u32 R) k) []) (hsh:ACall Tryz.prog 209 [.isl false (cI .u32 R) k,.val (.int .u32 d)] [] 0 (.tup [.isl false (cI .u32 T) i,.val (.int .u32 v1)]) [])
 (htq:ACall Tryz.prog 210 [.isl false (cI .u32 (Q 0)) r] [] 0 (.isl false (cI .u32 L) M) []):
 ACall Tryz.prog 190 [.isl z (cI .u32 u) m,.isl z' (cI .u32 vl) n] [] 0 (.tup [.isl false (cI .u32 L) M,.isl false (cI .u32 T) i]) []:=by
 have hcm:=PLift.up hcm;have hxs:=PLift.up hxs;have hys:=PLift.up hys;have htr:=PLift.up htr;have hsh:=PLift.up hsh;have htq:=PLift.up htq
 have tQ:(Q 0).take r=Q 0:=List.take_of_length_le (by rw[hQ 0 (Nat.zero_le _)];exact Nat.le_refl _)
 have tX:(X 0).take (m+1)=X 0:=List.take_of_length_le (by rw[hX 0 (Nat.zero_le _)];exact Nat.le_refl _)
 have hvr:=hv.at (n-1)
 have hvz:¬vl.getD (n-1) 0+1=0:=by omega
 have htz:¬top=0:=by omega
 have hn1:((n:Int)=1)=False:=eq_false omgz
 have i1:((n:Int)-1).toNat=n-1:=by omega
 have i2:((n:Int)-2).toNat=n-2:=by omega
 have er:(m:Int)-n+1=r:=by omega
 have er1:(m:Int)-n=r-1:=by omega
 generalize hvt2:vl.getD (n-1) 0=vt at*
 have hc1:=ae;have hc2:=ae;have hc3:=ae;have hx2:=ae;have hx1:=ae;have hx0:=ae;have hG:=ae;have hH:=ae;have hp:=ae;have j1:=ae;have j2:=ae;have j3:=ae;have j4:=ae;have hset:=ae;have hlX:=ae;have hlQ:=ae
 refine az Tryz.func190 Tryz.ntmps190 rfl ?_
 repeat' (first|((first|refine bT (r:=24) 0 ?_|refine bS (r:=24) 0 ?_);simp-dsimp(disch:=try exact vD) only[push_cast,simprocAttr,gd0,hvz,htz,hn1,i1,i2,er,er1,hvt2,hd0,htop,hsec,hQr,tQ,tX,a1s,a2s,hc1,hc2,hc3,hx2,hx1,hx0,hG,hH,hp,j1,j2,j3,j4,hset,hlX,hlQ];(repeat refine aI ?_);intro K hK;refine hK _ _ ?_;clear hK K)|((first|refine bT (r:=25) 1 ?_|refine bS (r:=25) 1 ?_);simp-dsimp(disch:=try exact vD) only[push_cast,simprocAttr,gd0,hvz,htz,hn1,i1,i2,er,er1,hvt2,hd0,htop,hsec,hQr,tQ,tX,a1s,a2s,hc1,hc2,hc3,hx2,hx1,hx0,hG,hH,hp,j1,j2,j3,j4,hset,hlX,hlQ];(repeat refine aI ?_);intro K hK;refine hK _ _ ?_;clear hK K)|(refine ah ?_;refine ak [0,1] ([0,1].length) (dvJ yl n m r j d top second (x2*1000000000+x1) qd Xa Qa) (λp=>p.val.1.toNat) (⟨(g0,r0),g1,g2,g3,g4⟩) rfl (by unfold dvJ;(try simp only[List.cons_append,List.nil_append]);refine Sub.mk2 ?_;(simp-dsimp(disch:=try exact vD) only[push_cast,simprocAttr,gd0,hvz,htz,hn1,i1,i2,er,er1,hvt2,hd0,htop,hsec,hQr,tQ,tX,a1s,a2s,hc1,hc2,hc3,hx2,hx1,hx0,hG,hH,hp,j1,j2,j3,j4,hset,hlX,hlQ]);(repeat refine aI ?_);first|done|exact vI) ?_;(rintro⟨⟨g,rr⟩,f1,f2,f3,f4⟩;dsimp only at f1 f2 f3 f4;have hgs:=agJ (g:=g) (second:=second) ⟨omgz,f2⟩ hs1;rcases agI ht1 q0 hdl dec stop f1 f3 f4 with⟨e,hc1,hc2⟩|⟨e,hc1,hc2⟩|⟨hc1,hc3,hq,f5⟩|⟨hc1,hc2,hc3,hq,f5⟩|⟨hc1,hc3,e⟩|⟨hc1,hc3,e,hc4⟩|⟨hc1,hc2,hc3,e⟩|⟨hc1,hc2,hc3,e,hc4⟩<;>((try subst e);(try(generalize hp:_*second=pp at*));(simp-dsimp(disch:=try exact vD) only[push_cast,simprocAttr,dvJ]))))|(refine aj ?_;refine Nxt.mk [0,1] (⟨(g-1,rr+top),hq,by dsimp only;omega,by dsimp only;omega,f5⟩) rfl (by unfold dvJ;(try simp only[List.cons_append,List.nil_append]);refine Sub.mk2 ?_;(simp-dsimp(disch:=try exact vD) only[push_cast,simprocAttr,gd0,hvz,htz,hn1,i1,i2,er,er1,hvt2,hd0,htop,hsec,hQr,tQ,tX,a1s,a2s,hc1,hc2,hc3,hx2,hx1,hx0,hG,hH,hp,j1,j2,j3,j4,hset,hlX,hlQ]);(repeat refine aI ?_);first|done|exact vI) (by first|omega|(dsimp only;omega)|(simp;done)|(simp;omega)))|(refine ah ?_;refine ak [0,1] ([0,1].length) (dvI yl n m r d top second X Q) (λk=>k.val) (⟨r,Nat.le_refl _⟩) rfl (by unfold dvI;(try simp only[List.cons_append,List.nil_append]);refine Sub.mk2 ?_;(simp-dsimp(disch:=try exact vD) only[push_cast,simprocAttr,gd0,hvz,htz,hn1,i1,i2,er,er1,hvt2,hd0,htop,hsec,hQr,tQ,tX,a1s,a2s,hc1,hc2,hc3,hx2,hx1,hx0,hG,hH,hp,j1,j2,j3,j4,hset,hlX,hlQ]);(repeat refine aI ?_);first|done|exact vI) ?_;(rintro⟨k,hk⟩;rcases Nat.eq_zero_or_pos k with hk0|hk0<;>first|(subst hk0;(simp-dsimp(disch:=try exact vD) only[push_cast,simprocAttr,dvI]))|(dsimp only[dvI];obtain⟨j,rfl⟩:∃j',k=j'+1:=⟨k-1,omgz⟩;obtain⟨qd,X1,⟨w2,w1,w0,q0,hdl,first,dec,stop,s1,s2,s3,hset⟩⟩:=hRd j omgz;have s1:=PLift.up s1;have s2:=PLift.up s2;have s3:=PLift.up s3;have hlX:=hX (j+1) hk;have hlQ:=hQ (j+1) hk;have j1:((j:Int)+n).toNat=j+n:=omgz;have j2:((j:Int)+n-1).toNat=j+n-1:=omgz;have j3:((j:Int)+n-2).toNat=j+n-2:=omgz;have j4:j+n+1-j=n+1:=omgz;generalize hx2:(X (j+1)).getD (j+n) 0=x2 at*;generalize hx1:(X (j+1)).getD (j+n-1) 0=x1 at*;generalize hx0:(X (j+1)).getD (j+n-2) 0=x0 at*;have gf:=Zv ht1 (show 0<=x2*1000000000+x1 by omega) hdl;generalize hG:(x2*1000000000+x1)/top=g0 at*;generalize hH:(x2*1000000000+x1)%top=r0 at*;obtain⟨g0',g2,g3a,g3b,g4⟩:=gf;have g3:=And.intro g3a g3b;have g1:=first;generalize hXa:X (j+1)=Xa at*;generalize hQa:Q (j+1)=Qa at*;(simp-dsimp(disch:=try exact vD) only[push_cast,simprocAttr,]))))|(refine aj ?_;refine Nxt.mk [0,1] (⟨j,omgz⟩) rfl (by unfold dvI;(try simp only[List.cons_append,List.nil_append]);refine Sub.mk2 ?_;(simp-dsimp(disch:=try exact vD) only[push_cast,simprocAttr,gd0,hvz,htz,hn1,i1,i2,er,er1,hvt2,hd0,htop,hsec,hQr,tQ,tX,a1s,a2s,hc1,hc2,hc3,hx2,hx1,hx0,hG,hH,hp,j1,j2,j3,j4,hset,hlX,hlQ]);(repeat refine aI ?_);first|done|exact vI) (by first|omega|(dsimp only;omega)|(simp;done)|(simp;omega)))|apply dU|apply aJ|((first|refine ay rfl (λK hK=>?_)|refine au (λK hK=>?_)|refine aD (λK hK=>?_));(first|refine ai (f:=192) [] 0 false ?_|refine ai (f:=211) (dst:=some 56) [] 0 false ?_|refine ai (f:=211) (dst:=some 60) [] 0 false ?_|refine ai (f:=210) (dst:=some 166) [] 0 false ?_|refine ai (f:=210) (dst:=some 173) [] 0 false ?_|refine ai (f:=209) (dst:=some 169) [] 0 false ?_|refine ai (f:=213) [0] 1 false ?_);simp-dsimp(disch:=try exact vD) only[push_cast,simprocAttr,gd0,hvz,htz,hn1,i1,i2,er,er1,hvt2,hd0,htop,hsec,hQr,tQ,tX,a1s,a2s,hc1,hc2,hc3,hx2,hx1,hx0,hG,hH,hp,j1,j2,j3,j4,hset,hlX,hlQ];(repeat refine aI ?_);intro G hG;refine hG _ _ ?_;clear hG G;(first|refine⟨_,_,hcm.down,?_⟩|refine⟨_,_,hxs.down,?_⟩|refine⟨_,_,hys.down,?_⟩|refine⟨_,_,htr.down,?_⟩|refine⟨_,_,htq.down,?_⟩|refine⟨_,_,hsh.down,?_⟩|refine⟨_,_,(s3.down omgz),?_⟩);simp-dsimp(disch:=try exact vD) only[push_cast,simprocAttr,gd0,hvz,htz,hn1,i1,i2,er,er1,hvt2,hd0,htop,hsec,hQr,tQ,tX,a1s,a2s,hc1,hc2,hc3,hx2,hx1,hx0,hG,hH,hp,j1,j2,j3,j4,hset,hlX,hlQ];(repeat refine aI ?_);apply hK;clear hK K)|((first|refine ay rfl (λK hK=>?_)|refine au (λK hK=>?_)|refine aD (λK hK=>?_));(first|(refine ai (f:=212) [0] 1 false ?_;simp-dsimp(disch:=try exact vD) only[push_cast,simprocAttr,gd0,hvz,htz,hn1,i1,i2,er,er1,hvt2,hd0,htop,hsec,hQr,tQ,tX,a1s,a2s,hc1,hc2,hc3,hx2,hx1,hx0,hG,hH,hp,j1,j2,j3,j4,hset,hlX,hlQ];(repeat refine aI ?_);intro G hG;refine hG _ _ ?_;clear hG G;refine⟨_,_,s1.down,?_⟩;simp-dsimp(disch:=try exact vD) only[push_cast,simprocAttr,gd0,hvz,htz,hn1,i1,i2,er,er1,hvt2,hd0,htop,hsec,hQr,tQ,tX,a1s,a2s,hc1,hc2,hc3,hx2,hx1,hx0,hG,hH,hp,j1,j2,j3,j4,hset,hlX,hlQ];(repeat refine aI ?_);apply hK;clear hK K)|(refine ai (f:=212) [0] 1 false ?_;simp-dsimp(disch:=try exact vD) only[push_cast,simprocAttr,gd0,hvz,htz,hn1,i1,i2,er,er1,hvt2,hd0,htop,hsec,hQr,tQ,tX,a1s,a2s,hc1,hc2,hc3,hx2,hx1,hx0,hG,hH,hp,j1,j2,j3,j4,hset,hlX,hlQ];(repeat refine aI ?_);intro G hG;refine hG _ _ ?_;clear hG G;refine⟨_,_,(s2.down omgz),?_⟩;simp-dsimp(disch:=try exact vD) only[push_cast,simprocAttr,gd0,hvz,htz,hn1,i1,i2,er,er1,hvt2,hd0,htop,hsec,hQr,tQ,tX,a1s,a2s,hc1,hc2,hc3,hx2,hx1,hx0,hG,hH,hp,j1,j2,j3,j4,hset,hlX,hlQ];(repeat refine aI ?_);apply hK;clear hK K)))|((first|refine ay rfl (λK hK=>?_)|refine au (λK hK=>?_)|refine aD (λK hK=>?_));(first|apply cZ|apply aX|apply dz|apply aR|apply bE|apply bO|apply iI|apply dh|apply gU|apply eY|apply dO|apply aV|apply gy|apply dM|apply ik|apply jL|apply dC|apply bQ|apply bF|apply eH);simp-dsimp(disch:=try exact vD) only[push_cast,simprocAttr,gd0,hvz,htz,hn1,i1,i2,er,er1,hvt2,hd0,htop,hsec,hQr,tQ,tX,a1s,a2s,hc1,hc2,hc3,hx2,hx1,hx0,hG,hH,hp,j1,j2,j3,j4,hset,hlX,hlQ];(repeat refine aI ?_);apply hK;clear hK K)|((first|refine ay rfl (λK hK=>?_)|refine au (λK hK=>?_)|refine aD (λK hK=>?_));(first|apply lF);simp-dsimp(disch:=try exact vD) only[push_cast,simprocAttr,gd0,hvz,htz,hn1,i1,i2,er,er1,hvt2,hd0,htop,hsec,hQr,tQ,tX,a1s,a2s,hc1,hc2,hc3,hx2,hx1,hx0,hG,hH,hp,j1,j2,j3,j4,hset,hlX,hlQ];(repeat refine aI ?_);apply hK;clear hK K)|((first|refine ay rfl (λK hK=>?_)|refine au (λK hK=>?_)|refine aD (λK hK=>?_));(first|apply il);simp-dsimp(disch:=try exact vD) only[push_cast,simprocAttr,gd0,hvz,htz,hn1,i1,i2,er,er1,hvt2,hd0,htop,hsec,hQr,tQ,tX,a1s,a2s,hc1,hc2,hc3,hx2,hx1,hx0,hG,hH,hp,j1,j2,j3,j4,hset,hlX,hlQ];(repeat refine aI ?_);apply hK;clear hK K)|((first|refine ay rfl (λK hK=>?_)|refine au (λK hK=>?_)|refine aD (λK hK=>?_));(first|apply jM);simp-dsimp(disch:=try exact vD) only[push_cast,simprocAttr,gd0,hvz,htz,hn1,i1,i2,er,er1,hvt2,hd0,htop,hsec,hQr,tQ,tX,a1s,a2s,hc1,hc2,hc3,hx2,hx1,hx0,hG,hH,hp,j1,j2,j3,j4,hset,hlX,hlQ];(repeat refine aI ?_);apply hK;clear hK K)|((first|refine aN rfl rfl (λK1 K2 h1 h2=>?_) rfl|refine aL (λK1 K2 h1 h2=>?_)|refine bX rfl rfl (λK1 K2 h1 h2=>?_));simp-dsimp(disch:=try exact vD) only[push_cast,simprocAttr,gd0,hvz,htz,hn1,i1,i2,er,er1,hvt2,hd0,htop,hsec,hQr,tQ,tX,a1s,a2s,hc1,hc2,hc3,hx2,hx1,hx0,hG,hH,hp,j1,j2,j3,j4,hset,hlX,hlQ];(first|(refine⟨λhc=>?_,λhc=>?_⟩<;>first|(exfalso;omega)|(exfalso;contradiction)|refine h1 ?_|refine h2 ?_)|refine h1 ?_|refine h2 ?_);all_goals clear h1 h2 K1 K2)|refine zqR [] ?_|((first|refine jl (by kernel_rfl) (λK hK=>?_)|refine l8 (by kernel_rfl) (λK hK=>?_));simp only[↓Go.Sy.gL,↓Go.Sy.gM,↓Go.Sy.iN,↓Go.Sy.gN,↓Go.Sy.iO,↓Go.Sy.fO,↓Go.Sy.gQ,push_cast,Nat.reduceLeDiff,Nat.reduceSub,Nat.reduceBEq,Nat.reduceEqDiff,Nat.reduceAdd,Nat.reduceLT,↓reduceIte,reduceCtorEq];refine hK _ _ _ ?_;clear hK K)|apply rP|apply dV|apply aT|apply cu|apply bG|apply aU|apply cK|apply bH|(refine bu rfl ?_)|apply bI|apply bZ|apply bY|apply dS)
 all_goals exact aB []
end
set_option maxHeartbeats 4000000
section
open Go Go.Sy Go.Bp Go.Lm
attribute [local irreducible] AO AL AC OpT ACall Ends DGo aK Thn Blk Nxt
variable {n N M k i m j r:Nat} {z z' neg:Bool} {l a b u vl L X X' X1 Qa Qb y yl w R T:List Int} {v x d f g c U V:Int}
def dX(U V:Int)(m k:Nat):List Int:=pd (m+1) (U%(V*bp k))
def dQ(U V:Int)(r k:Nat):List Int:=List.replicate k 0++pd (r-k) (U/(V*bp k))
theorem Jk:(dX U V m k).length=m+1:=qa
theorem Tv(h:k<=r):(dQ U V r k).length=r:=by unfold dQ;rw[List.length_append,List.length_replicate,qa];omega
theorem Zw(hR:T.length=n+1)(h:j+n+1<=X.length):((sbZ X j n T).drop j).take (n+1)=T:=by
 unfold sbZ
 have e:(X.take j).length=j:=by rw[List.length_take];omega
 rw[List.append_assoc,List.drop_append_of_le_length omgz,List.drop_eq_nil_of_le omgz,List.nil_append,List.take_append_of_le_length omgz,List.take_of_length_le omgz]
theorem Zx(hR:T.length=n+1)(h:j+n+1<=X.length):sbZ (sbZ X j n T) j n R=sbZ X j n R:=by
 have e:(X.take j).length=j:=by rw[List.length_take];omega
 have e1:(sbZ X j n T).take j=X.take j:=by
  unfold sbZ
  rw[List.append_assoc,List.take_append_of_le_length omgz,List.take_of_length_le omgz]
 have e2:(sbZ X j n T).drop (j+n+1)=X.drop (j+n+1):=by
  unfold sbZ
  have:(X.take j++T).length=j+n+1:=by rw[List.length_append,e,hR];omega
  rw[List.drop_append_of_le_length omgz,List.drop_eq_nil_of_le omgz,List.nil_append]
 show(sbZ X j n T).take j++R++(sbZ X j n T).drop (j+n+1)=_
 rw[e1,e2];rfl
theorem Zy(hX:Lim X)(hT:Lim T):Lim (sbZ X j n T):=(hX.take.app hT).app hX.drop
theorem agK(hj:j<r)(hV:0<V)(hq0:0<=c)(hq1:c<1000000000)(hq:U/(V*bp j)=U/(V*bp (j+1))*1000000000+c):(dQ U V r (j+1)).set j c=dQ U V r j:=by
 unfold dQ
 rw[zS]
 have e:r-j=(r-(j+1))+1:=by omega
 rw[e]
 show _=List.replicate j 0++(U/(V*bp j)%1000000000::pd (r-(j+1)) (U/(V*bp j)/1000000000))
 rw[hq]
 have e1:(U/(V*bp (j+1))*1000000000+c)%1000000000=c:=by omega
 have e2:(U/(V*bp (j+1))*1000000000+c)/1000000000=U/(V*bp (j+1)):=by omega
 rw[e1,e2]
theorem Tw(hU:0<=U)(hV:0<V)(hVn:V<bp n)(hm:m+1<2^30)(hM:j+n+1<=m+1)(hj:j<r)(hy:Lim yl)(hyl:yl.length=n)(hyv:val yl=V)(hn:2<=n)(htop:500000000<=yl.getD (n-1) 0):
 ∃qd X1,Rd n (m+1) j yl (yl.getD (n-1) 0) (yl.getD (n-2) 0) qd (dX U V m (j+1)) X1 (dX U V m j) (dQ U V r (j+1)) (dQ U V r j):=by
 have hs:=stp hU hV hVn hM (M:=m+1)
 have hg:=hs.guess hV hy hyl hyv hn htop
 have e1:=hs.exact hV hy hyl hyv
 have hwl:=hs.len;have hwL:=hs.lim
 have hq0:=hg.q0;have hq9:=hg.q9
 have hX:Lim (dX U V m (j+1)):=lim_pd
 have hXl:(dX U V m (j+1)).length=m+1:=Jk
 have g2:=hs.at_ n omgz;have g1:=hs.at_ (n-1) omgz;have g0:=hs.at_ (n-2) omgz
 rw[show j+(n-1)=j+n-1 by omega] at g1
 rw[show j+(n-2)=j+n-2 by omega] at g0
 have hw:((dX U V m (j+1)).drop j).take (n+1)=((pd (m+1) (U%(V*bp (j+1)))).drop j).take (n+1):=rfl
 generalize hww:((pd (m+1) (U%(V*bp (j+1)))).drop j).take (n+1)=w at*
 refine⟨val w/V,sbZ (dX U V m (j+1)) j n (tL w yl (val w/V+1) (n+1)),⟨hX.at _,hX.at _,hX.at _,⟨hq0,hq9⟩,?_,?_,?_,?_,?_,?_,?_,agK hj hV hq0 hq9 hs.quo⟩⟩
 ·have:=hg.hd.2;rw[g2,g1] at this;exact this
 ·have:=hg.first;rw[g2,g1] at this;exact this
 ·have:=hg.dec;rw[g2,g1,g0] at this;exact this
 ·have:=hg.stop;rw[g2,g1,g0] at this;exact this
 ·have:=wU (f:=val w/V) hX hXl hy hyl hM hm ⟨hq0,hq9⟩ hw
  rw[e1.1,show decide (¬(0:Int)=0)=false from rfl] at this
  rw[show sbZ (dX U V m (j+1)) j n (tL w yl (val w/V) (n+1))=dX U V m j from e1.2] at this
  exact this
 ·intro h9
  have e2:=hs.over hV hVn hy hyl hyv h9
  have:=wU (f:=val w/V+1) hX hXl hy hyl hM hm ⟨omgz,h9⟩ hw
  rw[e2.1,show decide (¬(1:Int)=0)=true from rfl] at this
  exact this
 ·intro h9
  have e2:=hs.over hV hVn hy hyl hyv h9
  have hT:=acL (i:=n+1) hwL hy (f:=val w/V+1) ⟨omgz,h9⟩
  have hTl:(tL w yl (val w/V+1) (n+1)).length=n+1:=tL_len
  have hjx:j+n+1<=(dX U V m (j+1)).length:=by rw[hXl];exact hM
  have:=Jj (X:=sbZ (dX U V m (j+1)) j n (tL w yl (val w/V+1) (n+1))) (Zy hX hT.1) (by rw[Du hTl hjx,hXl]) hy hyl hM hm (Zw hTl hjx)
  rw[Zx hTl hjx,show sbZ (dX U V m (j+1)) j n (pL (tL w yl (val w/V+1) (n+1)) yl (n+1))=dX U V m j from e2.2] at this
  exact this
theorem NJ(hn:vl.length=n+1):val vl=val (vl.take n)+bp n*vl.getD n 0:=by
 have:=gu (l:=vl) n
 rw[List.drop_eq_getElem_cons omgz,List.drop_eq_nil_of_le omgz,oH,Nat.min_eq_left omgz,<-ja omgz] at this
 exact this
theorem Ga(hu:Lim u)(hv:Lim vl)(hul:u.length=m)(hvl:vl.length=n)(htv:Tr vl)(hn:2<=n)(hm:n<=m)(hm2:m<2^29)(hc0:0<=c)(hcm:ACall Tryz.prog 192 [.isl z (cI .u32 u) m,.isl z' (cI .u32 vl) n] [] 0 (.val (.int .i64 c)) []):
 ACall Tryz.prog 190 [.isl z (cI .u32 u) m,.isl z' (cI .u32 vl) n] [] 0 (.tup [.isl false (cI .u32 (lb (val u/val vl).toNat)) (lb (val u/val vl).toNat).length,.isl false (cI .u32 (lb (val u%val vl).toNat)) (lb (val u%val vl).toNat).length]) []:=by
 obtain⟨p,rfl⟩:∃p,n=p+2:=⟨n-2,omgz⟩
 have en:p+2-1=p+1:=rfl
 have hvt:=hv.at (p+1)
 have hvn:vl≠[]:=λh=>by rw[h] at hvl;exact absurd hvl (by simp)
 have hv1:1<=vl.getD (p+1) 0:=by
  rcases htv with h|h
  ·exact absurd h hvn
  ·rw[hvl] at h
   have:¬vl.getD (p+1) 0=0:=h
   omega
 have hsp:=NJ (vl:=vl) (n:=p+1) hvl
 have htk:=bA (l:=vl.take (p+1)) hv.take
 rw[List.length_take,Nat.min_eq_left omgz] at htk
 have hur:=bA hu
 rw[hul] at hur
 obtain⟨n1,n2,n3,n4⟩:=Zj hv1 hvt.2
 generalize hd:1000000000/(vl.getD (p+1) 0+1)=d at*
 generalize hvtx:vl.getD (p+1) 0=vt at*
 have hb:=iH (k:=p+1)
 have hbs:bp (p+2)=1000000000*bp (p+1):=vZ
 have hV0:0<val vl:=by
  have:bp (p+1)*1<=bp (p+1)*vt:=Int.mul_le_mul_of_nonneg_left hv1 omgz
  omega
 have hVb:bp (p+1)<=val vl:=by
  have:bp (p+1)*1<=bp (p+1)*vt:=Int.mul_le_mul_of_nonneg_left hv1 omgz
  omega
 have hVd:val vl*d<bp (p+2):=by
  have h1:val vl+1<=bp (p+1)*(vt+1):=by rw[Int.mul_add,Int.mul_one];omega
  have h2:(val vl+1)*d<=bp (p+1)*(vt+1)*d:=Int.mul_le_mul_of_nonneg_right h1 omgz
  have h3:bp (p+1)*((vt+1)*d)<=bp (p+1)*1000000000:=Int.mul_le_mul_of_nonneg_left (by rw[Int.mul_comm];exact n4) omgz
  rw[Int.mul_assoc] at h2
  rw[Int.add_mul,Int.one_mul] at h2
  omega
 have hVdt:500000000*bp (p+1)<=val vl*d:=by
  have h1:bp (p+1)*vt*d<=val vl*d:=Int.mul_le_mul_of_nonneg_right omgz omgz
  have h2:bp (p+1)*500000000<=bp (p+1)*(vt*d):=Int.mul_le_mul_of_nonneg_left (by rw[Int.mul_comm];exact n3) omgz
  rw[Int.mul_assoc] at h1
  omega
 have hVd0:0<val vl*d:=Int.mul_pos hV0 omgz
 obtain⟨y1,y2⟩:=BU (n:=p+2) hv ⟨omgz,n2⟩ omgz hVd
 have hyl:(scL vl d (p+2)).length=p+2:=jc
 have hUd0:0<=val u*d:=Int.mul_nonneg hur.1 omgz
 have hbm:=iH (k:=m)
 have hUd:val u*d<bp (m+1):=by
  have h1:val u*d<=bp m*d:=Int.mul_le_mul_of_nonneg_right omgz omgz
  have h2:bp m*d<=bp m*999999999:=Int.mul_le_mul_of_nonneg_left omgz omgz
  rw[vZ];omega
 obtain⟨x1,x2⟩:=BU (n:=m+1) hu ⟨omgz,n2⟩ omgz hUd
 have hxl:(scL u d (m+1)).length=m+1:=jc
 obtain⟨r,hr⟩:∃r,r=m-(p+2)+1:=⟨_,rfl⟩
 have hUV:val u<val vl*bp r:=by
  have h1:bp (p+1)*bp r<=val vl*bp r:=Int.mul_le_mul_of_nonneg_right hVb (by have:=iH (k:=r);omega)
  rw[<-I7,show p+1+r=m by omega] at h1
  omega
 have hUVd:val u*d<val vl*d*bp r:=by
  have h1:=Int.mul_lt_mul_of_pos_right hUV (show 0<d by omega)
  rw[Int.mul_assoc,Int.mul_comm (bp r),<-Int.mul_assoc] at h1
  exact h1
 have hXr:scL u d (m+1)=dX (val u*d) (val vl*d) m r:=by
  unfold dX
  rw[Int.emod_eq_of_lt hUd0 hUVd]
  exact acK x1 hxl x2
 have hxs:=Tt (z:=z) (u:=u) (d:=d) (m:=m) (n:=m+1) hu hul omgz omgz ⟨omgz,n2⟩
 rw[hXr] at hxs
 have hys:=Tu (z:=z') (u:=vl) (d:=d) (m:=p+2) (n:=p+2) hv hvl omgz omgz ⟨omgz,n2⟩
 have htop:500000000<=(scL vl d (p+2)).getD (p+1) 0:=agA y1 hyl (by rw[y2];exact hVdt)
 have hdz:∀(A:Int),A*bp 0=A:=λA=>by rw[SF,Int.mul_one]
 -- the ends
 have hX0:Lim (dX (val u*d) (val vl*d) m 0):=lim_pd
 have hm0:=Int.emod_nonneg (val u*d) (show val vl*d≠0 by omega)
 have hm1:=Int.emod_lt_of_pos (val u*d) hVd0
 have hbn:bp (p+2)<=bp (m+1):=BR omgz
 have hXv:val ((dX (val u*d) (val vl*d) m 0).take (p+2))=val u*d%(val vl*d):=by
  unfold dX
  rw[hdz,(Dj hm0 omgz omgz).2,Int.emod_eq_of_lt hm0 omgz]
 have hXtl:((dX (val u*d) (val vl*d) m 0).take (p+2)).length=p+2:=by rw[List.length_take,Jk];omega
 have htr:=nA (z:=false) hXtl omgz
 have t1:=jQ (l:=(dX (val u*d) (val vl*d) m 0).take (p+2)) hX0.take
 have t2:=jR (l:=(dX (val u*d) (val vl*d) m 0).take (p+2)) hX0.take
 rw[hXtl,hXv] at t1 t2
 rw[t1,<-t2] at htr
 have hq0:0<=val u*d/(val vl*d):=Int.ediv_nonneg hUd0 omgz
 have hq1:val u*d/(val vl*d)<bp r:=Int.ediv_lt_of_lt_mul hVd0 (by rw[Int.mul_comm (bp r)];exact hUVd)
 have hQv:val (dQ (val u*d) (val vl*d) r 0)=val u*d/(val vl*d):=by
  unfold dQ
  rw[List.replicate_zero,List.nil_append,hdz,Nat.sub_zero,Jd hq0 hq1]
 have hQl:(dQ (val u*d) (val vl*d) r 0).length=r:=Tv (Nat.zero_le _)
 have hQL:Lim (dQ (val u*d) (val vl*d) r 0):=Lim.rep.app lim_pd
 have htq:=nA (z:=false) hQl omgz
 have t3:=jQ (l:=dQ (val u*d) (val vl*d) r 0) hQL
 have t4:=jR (l:=dQ (val u*d) (val vl*d) r 0) hQL
 rw[hQl,hQv] at t3 t4
 rw[t3,<-t4] at htq
 obtain⟨s1,s2⟩:=NG (d:=d) (v:=val vl) (c:=val u) omgz hV0 hur.1
 have hRl:(lb (val u*d%(val vl*d)).toNat).length<=p+2:=by rw[t2];exact sV
 have hsh:=F6 (z:=false) (u:=lb (val u*d%(val vl*d)).toNat) (v:=d) lim_lb rfl omgz omgz n2
 rw[aS,show(((val u*d%(val vl*d)).toNat:Nat):Int)=val u%val vl*d by rw[Int.toNat_of_nonneg hm0,s2],Int.mul_ediv_cancel _ (show d≠0 by omega)] at hsh
 rw[s1] at htq
 refine F9 (X:=dX (val u*d) (val vl*d) m) (Q:=dQ (val u*d) (val vl*d) r) hn hm hm2 hr hul hvl hv (by rw[en,hvtx];exact hv1) (by rw[en,hvtx];exact hd) ⟨n1,n2⟩ hyl rfl rfl ⟨htop,(y1.at _).2⟩ (y1.at _) hc0 hcm hxs hys (λk hk=>Jk) (λk hk=>Tv hk) ?_ (λj hj=>?_) htr hsh htq
 ·unfold dQ;rw[Nat.sub_self];exact(List.append_nil _).symm
 ·exact Tw hUd0 hVd0 hVd omgz omgz hj y1 hyl y2 hn htop
end
section
open Go Go.Sy Go.Bp Go.Lm
attribute [local irreducible] AO AL AC OpT ACall Ends DGo aK Thn Blk Nxt
variable {n N M k i m j r X Y q:Nat} {z z' zq zr neg nx ny:Bool} {l a b u vl L R T Q Lx Ly:List Int} {v x y d f g c rv e:Int} {W W2:IV}
theorem TA:ACall Tryz.prog 189 [.isl true [] 0] [] 0 (.isl true [] 0) []:=by
 refine az Tryz.func189 Tryz.ntmps189 rfl ?_
 repeat' (first|refine zqN ?_|refine aY ?_|refine mf ?_|refine mW ?_|refine mY ?_|refine aZ ?_|(refine bf ?_ ?_<;>intro hc<;>try exact zqM))
 all_goals exact aB []
theorem TD(hn:l.length=n)(hb:n<2^30):ACall Tryz.prog 189 [.isl false (cI .u32 l) n] [] 0 (.isl false (cI .u32 l) n) []:=by
 refine az Tryz.func189 Tryz.ntmps189 rfl ?_
 repeat' (first|refine zqN ?_|refine aY ?_|refine mf ?_|refine mW ?_|refine mY ?_|refine aZ ?_|(refine bf ?_ ?_<;>intro hc<;>try exact zqM))
 all_goals((refine Ends.frz 1 ?_;simp-dsimp(disch:=try exact vD) only[push_cast,simprocAttr,Tryz.f189];(repeat refine aI ?_);intro K hK;refine hK _ _ ?_;clear hK K);refine Ends.mk2 zqI [] ?_;simp-dsimp(disch:=try exact vD) only[push_cast,simprocAttr,Tryz.f189];try exact zqF)
theorem Jl(hn:l.length=n)(hb:n<2^30)(hz:z=true->l=[]):ACall Tryz.prog 189 [.isl z (cI .u32 l) n] [] 0 (.isl z (cI .u32 l) n) []:=by
 cases z with
 |false=>exact TD hn hb
 |true=>
  have e:=hz rfl
  subst e;subst hn;exact TA
theorem NM(hc:c<0)(hcm:ACall Tryz.prog 192 [.isl z (cI .u32 u) m,.isl z' (cI .u32 vl) n] [] 0 (.val (.int .i64 c)) [])(hcl:ACall Tryz.prog 189 [.isl z (cI .u32 u) m] [] 0 (.isl z (cI .u32 u) m) []):
 ACall Tryz.prog 190 [.isl z (cI .u32 u) m,.isl z' (cI .u32 vl) n] [] 0 (.tup [.isl true [] 0,.isl z (cI .u32 u) m]) []:=by
 have hcm:=PLift.up hcm;have hcl:=PLift.up hcl
 refine az Tryz.func190 Tryz.ntmps190 rfl ?_
 repeat' (first|refine zqN ?_|refine aM hcm.down ?_|refine aM hcl.down ?_|refine aY ?_|refine mf ?_|refine mW ?_|refine mY ?_|refine aZ ?_|(refine bf ?_ ?_<;>intro hc<;>try exact zqM)|refine zqR [] ?_|refine zqD ?_|fail)
 all_goals exact aB []
theorem Jm(hc:0<=c)(hvl:vl.length=1)(hv0:vl.getD 0 default=v)(hcm:ACall Tryz.prog 192 [.isl z (cI .u32 u) m,.isl z' (cI .u32 vl) 1] [] 0 (.val (.int .i64 c)) [])
 (hsh:ACall Tryz.prog 209 [.isl z (cI .u32 u) m,.val (.int .u32 v)] [] 0 (.tup [.isl false (cI .u32 T) i,.val (.int .u32 rv)]) []) (htr:ACall Tryz.prog 210 [.sl 0 0 1 1] [.cells (cI .u32 [rv]) 136] 0 (.isl false (cI .u32 R) k) []):
 ACall Tryz.prog 190 [.isl z (cI .u32 u) m,.isl z' (cI .u32 vl) 1] [] 0 (.tup [.isl false (cI .u32 T) i,.isl false (cI .u32 R) k]) []:=by
 have hcm:=PLift.up hcm;have hsh:=PLift.up hsh
 rw[show cI .u32 [rv]=[.val (.int .u32 rv)] from rfl] at htr
 have htr:=PLift.up htr
 refine az Tryz.func190 Tryz.ntmps190 rfl ?_
 have zx1:= @hv0;have zx2:=aA;have zx3:=aA;repeat' (first|refine zqN ?_|((first|refine ay rfl (λK hK=>?_)|refine au (λK hK=>?_)|refine aD (λK hK=>?_));(first|refine ai (f:=192) [] 0 false ?_|refine ai (f:=209) [] 0 false ?_|refine ai (f:=210) [0] 0 false ?_);refine zu ?_;(first|refine⟨_,_,hcm.down,?_⟩|refine⟨_,_,hsh.down,?_⟩|refine⟨_,_,htr.down,?_⟩);refine rG ?_;apply hK;clear hK K)|refine dm ?_|refine oV ?_|refine oW ?_|refine oZ ?_|refine dn ?_|(refine dw ?_ ?_<;>intro hc<;>try exact zqM)|refine zqR [] ?_|refine zqD ?_|fail)
 all_goals exact aB []
theorem acQ(h:l.length=n):(cI .u32 l).take n=cI .u32 l:=List.take_of_length_le (by rw[H5];omega)
theorem TE(hl:l.length=n)(hn:n<2^47):ACall Tryz.prog 210 [.sl 0 0 n 1] [.cells (cI .u32 l) 136] 0 (.isl false (cI .u32 (l.take (trN l n))) (trN l n)) []:=
 ACall.own (args':=[.isl false (cI .u32 l) n]) (by rw[sH];trivial) (by simp[bP,acQ hl]) (by simp[bnd,sH]) (nA hl hn)
theorem jT(h:X<=Y):(lb X).length<=(lb Y).length:=by
 refine Decidable.not_not.1 λhc=>?_
 have:=wh (a:=lb Y) (b:=lb X) lim_lb lim_lb jC omgz
 rw[aS,aS] at this;omega
theorem BZ(hX:(lb X).length<2^28)(hY2:(lb Y).length<2^28)(hY:0<Y)(hz:z=true->X=0):
 ∃zq zr,(zq=true->X/Y=0)/\(zr=true->X%Y=0)/\ACall Tryz.prog 190 [.isl z (cI .u32 (lb X)) (lb X).length,.isl z' (cI .u32 (lb Y)) (lb Y).length] [] 0 (.tup [.isl zq (cI .u32 (lb (X/Y))) (lb (X/Y)).length,.isl zr (cI .u32 (lb (X%Y))) (lb (X%Y)).length]) []:=by
 by_cases hXY:X<Y
 ·rw[Nat.div_eq_of_lt hXY,Nat.mod_eq_of_lt hXY]
  have hcm:=nC (z:=z) (z':=z') (a:=lb X) (b:=lb Y) lim_lb lim_lb jC jC omgz omgz
  rw[zV (by rw[aS,aS];omega)] at hcm
  exact⟨true,z,λ_=>rfl,hz,NM (by decide) hcm (Jl rfl omgz λh=>by rw[hz h];rfl)⟩
 ·have hYX:Y<=X:=by omega
  have hlen:=jT hYX
  have hcm:=nC (z:=z) (z':=z') (a:=lb X) (b:=lb Y) lim_lb lim_lb jC jC omgz omgz
  have hc:0<=oI (lb X) (lb Y):=by unfold oI;rw[aS,aS,if_neg omgz];split<;>omega
  refine⟨false,false,λh=>(by cases h),λh=>(by cases h),?_⟩
  have e1:((X:Int)/Y).toNat=X/Y:=by rw[<-Int.natCast_ediv,Int.toNat_natCast]
  have e2:((X:Int)%Y).toNat=X%Y:=by rw[<-Int.natCast_emod,Int.toNat_natCast]
  have hY0:(lb Y).length≠0:=λh=>by have:=iR.1 (List.length_eq_zero_iff.1 h);omega
  by_cases h1:(lb Y).length=1
  ·obtain⟨w,hw⟩:=List.length_eq_one_iff.1 h1
   have hv:=aS (n:=Y)
   have hlw:=lim_lb (n:=Y)
   rw[hw,oH] at hv
   rw[hw] at hlw
   have hr:=hlw.hd
   subst hv
   have hsh:=F6 (z:=z) (u:=lb X) (v:=(Y:Int)) lim_lb rfl omgz omgz hr.2
   rw[aS,e1] at hsh
   have htr:=TE (l:=[(X:Int)%Y]) (n:=1) rfl (by decide)
   have hm0:=Int.emod_nonneg (X:Int) (show(Y:Int)≠0 by omega)
   have hm1:=Int.emod_lt_of_pos (X:Int) (show 0<(Y:Int) by omega)
   have hL:Lim [(X:Int)%Y]:=Lim.nil.cons ⟨hm0,omgz⟩
   have t1:=jQ hL
   have t2:=jR hL
   rw[oH,e2] at t1 t2
   rw[show [(X:Int)%Y].length=1 from rfl] at t1 t2
   rw[t1,<-t2] at htr
   rw[h1] at hcm⊢
   exact Jm hc h1 (by rw[hw];rfl) hcm hsh htr
  ·have:=Ga (z:=z) (z':=z') (u:=lb X) (vl:=lb Y) lim_lb lim_lb rfl rfl jC omgz hlen omgz hc hcm
   rw[aS,aS,e1,e2] at this
   exact this
end
section
open Go Go.Sy Go.Bp Go.Lm
attribute [local irreducible] AO AL AC OpT ACall Ends DGo aK Thn Blk Nxt
variable {n N M k i m j r X Y q:Nat} {z z' zq zr neg nx ny:Bool} {l a b u vl L R T Q Lx Ly:List Int} {v x y d f g c rv e:Int} {W W2:IV}
structure IOk(z:Bool)(v:Int):Prop where
 d:D300 v
 z:z=true->v=0
theorem IOk.of(h:D300 v):IOk (v==0) v:=⟨h,λh=>by simpa using h⟩
theorem wV:iC v=iV (v==0) v:=rfl
theorem IOk.nz(h:IOk z v):z=true->v.natAbs=0:=λhz=>by rw[h.z hz];rfl
theorem Li:sg (decide (x<0) !=decide (y<0)) ((x.natAbs/y.natAbs:Nat):Int)=x.tdiv y:=by
 have e:∀a b:Nat,(a:Int).tdiv b=((a/b:Nat):Int):=λa b=>rfl
 obtain⟨a,ha⟩:∃a,x.natAbs=a:=⟨_,rfl⟩
 obtain⟨b,hb⟩:∃b,y.natAbs=b:=⟨_,rfl⟩
 rw[ha,hb]
 unfold sg
 by_cases hx:x<0<;>by_cases hy:y<0
 ·have:x= -(a:Int):=by omega
  have:y= -(b:Int):=by omega
  subst x;subst y
  rw[decide_eq_true hx,decide_eq_true hy,Int.neg_tdiv,Int.tdiv_neg,Int.neg_neg,e];rfl
 ·have:x= -(a:Int):=by omega
  have:y=(b:Int):=by omega
  subst x;subst y
  rw[decide_eq_true hx,decide_eq_false hy,Int.neg_tdiv,e];rfl
 ·have:x=(a:Int):=by omega
  have:y= -(b:Int):=by omega
  subst x;subst y
  rw[decide_eq_false hx,decide_eq_true hy,Int.tdiv_neg,e];rfl
 ·have:x=(a:Int):=by omega
  have:y=(b:Int):=by omega
  subst x;subst y
  rw[decide_eq_false hx,decide_eq_false hy,e];rfl
theorem Dw:sg (decide (x<0)) ((x.natAbs%y.natAbs:Nat):Int)=x.tmod y:=by
 have e:∀a b:Nat,(a:Int).tmod b=((a%b:Nat):Int):=λa b=>rfl
 obtain⟨a,ha⟩:∃a,x.natAbs=a:=⟨_,rfl⟩
 obtain⟨b,hb⟩:∃b,y.natAbs=b:=⟨_,rfl⟩
 rw[ha,hb]
 unfold sg
 by_cases hx:x<0<;>by_cases hy:y<0
 ·have:x= -(a:Int):=by omega
  have:y= -(b:Int):=by omega
  subst x;subst y
  rw[decide_eq_true hx,Int.neg_tmod,Int.tmod_neg,e];rfl
 ·have:x= -(a:Int):=by omega
  have:y=(b:Int):=by omega
  subst x;subst y
  rw[decide_eq_true hx,Int.neg_tmod,e];rfl
 ·have:x=(a:Int):=by omega
  have:y= -(b:Int):=by omega
  subst x;subst y
  rw[decide_eq_false hx,Int.tmod_neg,e];rfl
 ·have:x=(a:Int):=by omega
  have:y=(b:Int):=by omega
  subst x;subst y
  rw[decide_eq_false hx,e];rfl
theorem Jo(h:D300 x):D300 (x.tdiv y):=by
 unfold D300 at*
 rw[Int.natAbs_tdiv]
 exact Nat.lt_of_le_of_lt (Nat.div_le_self _ _) h
theorem Jp(h:D300 x):D300 (x.tmod y):=by
 unfold D300 at*
 have e:(x.tmod y).natAbs=x.natAbs%y.natAbs:=by
  rw[<-Dw,Dv,Int.natAbs_natCast]
 rw[e]
 exact Nat.lt_of_le_of_lt (Nat.mod_le _ _) h
theorem TF{qb:Bool}(hq:(nx !=ny)=qb)(hm:¬m=0)(hck:ACall Tryz.prog 188 [.isl false [.val (.bool nx),.isl z (cI .u32 Lx) n,.val (.bool ny),.isl z' (cI .u32 Ly) m] 2] [] 0 (.val (.int .i64 0)) [])
 (hd:ACall Tryz.prog 190 [.isl z (cI .u32 Lx) n,.isl z' (cI .u32 Ly) m] [] 0 (.tup [.isl zq (cI .u32 Q) q,.isl zr (cI .u32 R) r]) [])
 (hr:ACall Tryz.prog 191 [.val (.bool qb),.isl zq (cI .u32 Q) q] [] 0 (.tup [.agg (aa.cells W),.val (.int .i64 0)]) [])
 (hr2:ACall Tryz.prog 191 [.val (.bool nx),.isl zr (cI .u32 R) r] [] 0 (.tup [.agg (aa.cells W2),.val (.int .i64 0)]) []):
 ACall Tryz.prog 206 [.agg [.val (.bool nx),.isl z (cI .u32 Lx) n],.agg [.val (.bool ny),.isl z' (cI .u32 Ly) m]] [] 0 (.tup [.agg (aa.cells W),.agg (aa.cells W2),.val (.int .i64 0)]) []:=by
 subst hq
 have hck:=PLift.up hck;have hd:=PLift.up hd
 rcases Bool.eq_false_or_eq_true nx with hnx|hnx<;>rcases Bool.eq_false_or_eq_true ny with hny|hny
 all_goals subst hnx
 all_goals subst hny
 all_goals have hr:=PLift.up hr
 all_goals have hr2:=PLift.up hr2
 all_goals(refine az Tryz.func206 Tryz.ntmps206 rfl ?_)
 all_goals(have zx1:= @hm;have zx2:=aA;have zx3:=aA;repeat' (first|refine zqN ?_|((first|refine ay rfl (λK hK=>?_)|refine au (λK hK=>?_)|refine aD (λK hK=>?_));(first|refine ai (f:=188) [] 0 true ?_|refine ai (f:=190) [] 0 false ?_|refine ai (f:=191) (dst:=some 44) [] 0 false ?_|refine ai (f:=191) (dst:=some 51) [] 0 false ?_);refine zu ?_;(first|refine⟨_,_,hck.down,?_⟩|refine⟨_,_,hd.down,?_⟩|refine⟨_,_,hr.down,?_⟩|refine⟨_,_,hr2.down,?_⟩);refine rG ?_;apply hK;clear hK K)|refine dm ?_|refine dn ?_|(refine dw ?_ ?_<;>intro hc<;>try exact zqM)|refine zqR [(9,2,[5],0),(9,3,[6],0)] ?_|refine zqD ?_|fail))
 all_goals exact aB []
theorem Dx(h:IOk z x)(h2:IOk z' y)(h0:¬y=0):ACall Tryz.prog 206 [.agg (aa.cells (iV z x)),.agg (aa.cells (iV z' y))] [] 0 (.tup [.agg (aa.cells (iC (x.tdiv y))),.agg (aa.cells (iC (x.tmod y))),.val (.int .i64 0)]) []:=by
 have f1:=h.d.few;have f2:=h2.d.few
 obtain⟨zq,zr,g1,g2,hd⟩:=BZ (z:=z) (z':=z') (X:=x.natAbs) (Y:=y.natAbs) omgz omgz omgz h.nz
 have l1:=jT (show x.natAbs/y.natAbs<=x.natAbs from Nat.div_le_self _ _)
 have l2:=jT (show x.natAbs%y.natAbs<=x.natAbs from Nat.mod_le _ _)
 have r1:=iU (z:=zq) (neg:=decide (x<0) !=decide (y<0)) (l:=lb (x.natAbs/y.natAbs)) (v:=x.tdiv y) lim_lb rfl omgz (λe=>by rw[g1 e];rfl) (by rw[aS];exact Li)
 have r2:=iU (z:=zr) (neg:=decide (x<0)) (l:=lb (x.natAbs%y.natAbs)) (v:=x.tmod y) lim_lb rfl omgz (λe=>by rw[g2 e];rfl) (by rw[aS];exact Dw)
 unfold rV at r1 r2
 rw[qf (Jo h.d),qg (Jo h.d)] at r1
 rw[qf (Jp h.d),qg (Jp h.d)] at r2
 have hl:(lb y.natAbs).length=0↔y=0:=by rw[List.length_eq_zero_iff,iR];omega
 exact TF rfl (λe=>h0 (hl.1 e)) (ww h.d h2.d) hd r1 r2
structure Gp where
 X:Nat
 Y:Nat
 z:Bool
 z':Bool
structure ah2(G:Nat)(p:Gp):Prop where
 g:Nat.gcd p.X p.Y=G
 lx:(lb p.X).length<=34
 ly:(lb p.Y).length<=34
 zx:p.z=true->p.X=0
 zy:p.z'=true->p.Y=0
def gcI(G:Nat)(p:{p:Gp // ah2 G p}):St:=
 ⟨40,0,[(4,.pt 0 0),(7,.isl p.val.z (cI .u32 (lb p.val.X)) (lb p.val.X).length),(8,.isl p.val.z' (cI .u32 (lb p.val.Y)) (lb p.val.Y).length)],[(0,some (.cells [.val (.bool false),.isl true [] 0] 58))]⟩
theorem zY(h:D300 x)(h2:D300 y):D300 ((Int.gcd x y:Nat):Int):=by
 unfold D300 at*
 rw[Int.natAbs_natCast]
 show Nat.gcd x.natAbs y.natAbs<_
 rcases Nat.eq_zero_or_pos x.natAbs with h0|h0
 ·rw[h0,Nat.gcd_zero_left];exact h2
 ·exact Nat.lt_of_le_of_lt (Nat.gcd_le_left _ h0) h
theorem TG(h:IOk z x)(h2:IOk z' y):ACall Tryz.prog 143 [.agg (aa.cells (iV z x)),.agg (aa.cells (iV z' y))] [] 0 (.tup [.agg (aa.cells (iC ((Int.gcd x y:Nat):Int))),.val (.int .i64 0)]) []:=by
 have f1:=h.d.few;have f2:=h2.d.few
 have hck:=PLift.up (ww (z:=z) (z':=z') h.d h2.d)
 have hc1:=PLift.up (Jl (z:=z) (l:=lb x.natAbs) rfl omgz λe=>by rw[h.nz e];rfl)
 have hc2:=PLift.up (Jl (z:=z') (l:=lb y.natAbs) rfl omgz λe=>by rw[h2.nz e];rfl)
 have hgd:=zY h.d h2.d
 have hok:ah2 (Int.gcd x y) ⟨x.natAbs,y.natAbs,z,z'⟩:=⟨rfl,f1,f2,h.nz,h2.nz⟩
 have hres:∀zz,(zz=true->Int.gcd x y=0)->PLift (ACall Tryz.prog 191 [.val (.bool false),.isl zz (cI .u32 (lb (Int.gcd x y))) (lb (Int.gcd x y)).length] [] 0 (.tup [.agg (aa.cells (iC ((Int.gcd x y:Nat):Int))),.val (.int .i64 0)]) []):=λzz hz=>⟨by
  have r1:=iU (z:=zz) (neg:=false) (l:=lb (Int.gcd x y)) (v:=((Int.gcd x y:Nat):Int)) lim_lb rfl (by
   have:=hgd.few
   rw[Int.natAbs_natCast] at this;omega) (λe=>by rw[hz e];rfl) (by rw[aS];rfl)
  unfold rV at r1
  rw[qf hgd,qg hgd] at r1;exact r1⟩
 have hdv:∀p:Gp,ah2 (Int.gcd x y) p->0<(lb p.Y).length->∃zq zr,(zq=true->p.X/p.Y=0)/\(zr=true->p.X%p.Y=0)/\ACall Tryz.prog 190 [.isl p.z (cI .u32 (lb p.X)) (lb p.X).length,.isl p.z' (cI .u32 (lb p.Y)) (lb p.Y).length] [] 0 (.tup [.isl zq (cI .u32 (lb (p.X/p.Y))) (lb (p.X/p.Y)).length,.isl zr (cI .u32 (lb (p.X%p.Y))) (lb (p.X%p.Y)).length]) []:=λp hp hl=>by
  have l1:=hp.lx;have l2:=hp.ly
  obtain⟨zq,zr,g1,g2,hd⟩:=BZ (z:=p.z) (z':=p.z') (X:=p.X) (Y:=p.Y) omgz omgz (Nat.pos_of_ne_zero λe=>by rw[e] at hl;simp[Zd] at hl) hp.zx
  exact⟨zq,zr,g1,g2,hd⟩
 have hdv:=PLift.up hdv
 generalize Int.gcd x y=G at*
 unfold iV at*
 rw[bJ,bJ] at*
 dsimp only at*
 generalize decide (x<0)=nx at*
 generalize decide (y<0)=ny at*
 obtain⟨Lx,hLx⟩:∃L,L=lb x.natAbs:=⟨_,rfl⟩
 obtain⟨Ly,hLy⟩:∃L,L=lb y.natAbs:=⟨_,rfl⟩
 clear h h2
 have zx1:=ae
 refine az Tryz.func143 Tryz.ntmps143 rfl ?_
 have zx2:=aA;have zx3:=aA;repeat' (first|(refine ah ?_;refine ak [2] ([2].length) (gcI G) (λp=>p.val.Y) (⟨⟨_,_,_,_⟩,hok⟩) rfl (by unfold gcI;exact ed) ?_;(rintro⟨⟨X,Y,zx,zy⟩,hp⟩;rcases Nat.eq_zero_or_pos (lb Y).length with zx1|zx1<;>first|(have hY0:Y=0:=iR.1 (List.length_eq_zero_iff.1 zx1);have hXG:X=G:=(by have:=hp.g;dsimp only at this;rw[hY0,Nat.gcd_zero_right] at this;exact this);subst hXG;have hR:=hres zx hp.zx;(simp-dsimp only[gcI];refine zqS ?_))|(obtain⟨zq,zr,g1,g2,hd⟩:=hdv.down ⟨X,Y,zx,zy⟩ hp zx1;dsimp only at hd g1 g2;have hd:=PLift.up hd;have hY0:0<Y:=Nat.pos_of_ne_zero (λe=>by rw[e] at zx1;simp[Zd] at zx1);have hml:X%Y<Y:=Nat.mod_lt X hY0;(simp-dsimp only[gcI];refine zqS ?_))))|(refine aj ?_;refine Nxt.mk [0] (⟨⟨Y,X%Y,zy,zr⟩,⟨by have:=hp.g;dsimp only at this⊢;rw[Nat.gcd_comm,<-Nat.gcd_rec,Nat.gcd_comm];exact this,hp.ly,Nat.le_trans (jT (Nat.mod_le _ _)) hp.lx,hp.zy,g2⟩⟩) rfl (by unfold gcI;exact ed) zqO)|refine zqN ?_|((first|refine ay rfl (λK hK=>?_)|refine au (λK hK=>?_)|refine aD (λK hK=>?_));(first|refine ai (f:=188) [] 0 true ?_|refine ai (f:=189) (dst:=some 21) [] 0 false ?_|refine ai (f:=189) (dst:=some 24) [] 0 false ?_|refine ai (f:=190) [] 0 false ?_|refine ai (f:=191) [] 0 false ?_);refine zu ?_;(first|refine⟨_,_,hck.down,?_⟩|refine⟨_,_,hc1.down,?_⟩|refine⟨_,_,hc2.down,?_⟩|refine⟨_,_,hd.down,?_⟩|refine⟨_,_,hR.down,?_⟩);refine rG ?_;apply hK;clear hK K)|refine dm ?_|refine dn ?_|(refine dw ?_ ?_<;>intro hc<;>try exact zqM)|refine zqR [] ?_|refine zqD ?_|fail)
 all_goals exact aB []
theorem Lj{a1 a2 a3:Int}(hL:Lim [a1,a2,a3])(hv:sg neg (val [a1,a2,a3])=v)(hd:D300 v):ACall Tryz.prog 191 [.val (.bool neg),.sl 0 0 3 1] [.cells [.val (.int .u32 a1),.val (.int .u32 a2),.val (.int .u32 a3)] 136] 0 (.tup [.agg (aa.cells (iC v)),.val (.int .i64 0)]) []:=by
 have r1:=iU (z:=false) (neg:=neg) (l:=[a1,a2,a3]) (n:=3) (v:=v) hL rfl (by decide) (λe=>by cases e) hv
 unfold rV at r1
 rw[qf hd,qg hd] at r1
 exact ACall.own (args':=[.val (.bool neg),.isl false (cI .u32 [a1,a2,a3]) 3]) (by simp[bnd]) (by simp[bP];rfl) (by simp[bnd,sH]) r1
theorem wy(h1: -9223372036854775808<=v)(h2:v<=9223372036854775807):ACall Tryz.prog 176 [.val (.int .i64 v)] [] 0 (.agg (aa.cells (iC v))) []:=by
 have hd:D300 v:=by
  have:(9223372036854775808:Nat)<10^300:=by decide+kernel
  unfold D300;omega
 have hL:∀m:Int,0<=m->m<=9223372036854775808->Lim [m%1000000000,m/1000000000%1000000000,m/1000000000/1000000000]/\val [m%1000000000,m/1000000000%1000000000,m/1000000000/1000000000]=m:=λm h1 h2=>
  ⟨((Lim.nil.cons omgz).cons omgz).cons omgz,by simp only[fD,jO];omega⟩
 by_cases hn:v<0
 ·obtain⟨m,hm⟩:∃m,m= -v:=⟨_,rfl⟩
  obtain⟨g1,g2⟩:=hL m omgz omgz
  have hr:=PLift.up (Lj (neg:=decide (v<0)) g1 (by rw[g2,decide_eq_true hn];show-m=v;omega) hd)
  have w1:IntKind.wrap .u64 v=v+18446744073709551616:=by
   have:IntKind.wrap .u64 v=v%18446744073709551616:=by simp[IntKind.wrap,IntKind.bits,IntKind.signed]
   rw[this];omega
  have w2:IntKind.wrap .u64 (0-(v+18446744073709551616))=m:=by
   have:IntKind.wrap .u64 (0-(v+18446744073709551616))=(0-(v+18446744073709551616))%18446744073709551616:=by simp[IntKind.wrap,IntKind.bits,IntKind.signed]
   rw[this];omega
  have w3:IntKind.wrap .u64 (-(v+18446744073709551616))=m:=by rw[<-w2];congr 1;omega
  clear hd g1 g2 hL
  refine az Tryz.func176 Tryz.ntmps176 rfl ?_
  repeat' (first|apply dU|apply aJ|((first|refine ay rfl (λK hK=>?_)|refine au (λK hK=>?_));(first|refine ai (f:=191) [1] 0 false ?_);simp-dsimp(disch:=try exact vD) only[push_cast,simprocAttr,w1,w2,w3];(repeat refine aI ?_);intro G hG;refine hG _ _ ?_;clear hG G;(first|refine⟨_,_,hr.down,?_⟩);simp-dsimp(disch:=try exact vD) only[push_cast,simprocAttr,w1,w2,w3];(repeat refine aI ?_);apply hK;clear hK K)|((first|refine ay rfl (λK hK=>?_)|refine au (λK hK=>?_));(first|apply cZ|apply aX|apply dz|apply aR|apply gZ|apply ic|apply eY|apply eT|apply dO|apply aV|apply dM|apply eH);simp-dsimp(disch:=try exact vD) only[push_cast,simprocAttr,w1,w2,w3];(repeat refine aI ?_);apply hK;clear hK K)|((first|refine aN rfl rfl (λK1 K2 h1 h2=>?_) rfl|refine aL (λK1 K2 h1 h2=>?_));simp-dsimp(disch:=try exact vD) only[push_cast,simprocAttr,w1,w2,w3];(first|(refine⟨λhc=>?_,λhc=>?_⟩<;>first|(exfalso;omega)|(exfalso;contradiction)|refine h1 ?_|refine h2 ?_)|refine h1 ?_|refine h2 ?_);all_goals clear h1 h2 K1 K2)|apply dV|apply aT|apply cu|apply bG|apply aU|apply cK|apply bH|(refine bu rfl ?_)|apply bI|apply bZ|apply bY|apply dS)
  all_goals exact aB []
 ·obtain⟨g1,g2⟩:=hL v omgz omgz
  have hr:=PLift.up (Lj (neg:=decide (v<0)) g1 (by rw[g2,decide_eq_false hn];rfl) hd)
  clear hd g1 g2 hL
  refine az Tryz.func176 Tryz.ntmps176 rfl ?_
  repeat' (first|apply dU|apply aJ|((first|refine ay rfl (λK hK=>?_)|refine au (λK hK=>?_));(first|refine ai (f:=191) [1] 0 false ?_);simp-dsimp(disch:=try exact vD) only[push_cast,simprocAttr];(repeat refine aI ?_);intro G hG;refine hG _ _ ?_;clear hG G;(first|refine⟨_,_,hr.down,?_⟩);simp-dsimp(disch:=try exact vD) only[push_cast,simprocAttr];(repeat refine aI ?_);apply hK;clear hK K)|((first|refine ay rfl (λK hK=>?_)|refine au (λK hK=>?_));(first|apply cZ|apply aX|apply dz|apply aR|apply gZ|apply ic|apply eY|apply eT|apply dO|apply aV|apply dM|apply eH);simp-dsimp(disch:=try exact vD) only[push_cast,simprocAttr];(repeat refine aI ?_);apply hK;clear hK K)|((first|refine aN rfl rfl (λK1 K2 h1 h2=>?_) rfl|refine aL (λK1 K2 h1 h2=>?_));simp-dsimp(disch:=try exact vD) only[push_cast,simprocAttr];(first|(refine⟨λhc=>?_,λhc=>?_⟩<;>first|(exfalso;omega)|(exfalso;contradiction)|refine h1 ?_|refine h2 ?_)|refine h1 ?_|refine h2 ?_);all_goals clear h1 h2 K1 K2)|apply dV|apply aT|apply cu|apply bG|apply aU|apply cK|apply bH|(refine bu rfl ?_)|apply bI|apply bZ|apply bY|apply dS)
  all_goals exact aB []
end
section
open Go Go.Sy Go.Bp Go.Lm
attribute [local irreducible] AO AL AC OpT ACall Ends DGo aK Thn Blk Nxt
variable {n N M k i m j r q:Nat} {z z' zq zr neg nx ny:Bool} {l a b u vl L R T Q Lx Ly:List Int} {v x y d f g c rv e:Int} {W W2 X Y:IV}
theorem zZ(hl:l.length=n)(hn:n<2^47):ACall Tryz.prog 158 [.isl z (cI .u32 l) n] [] 0 (.isl z (cI .u32 (l.take (trN l n))) (trN l n)) []:=by
 have zx2:cI .u32 (l.take n)=cI .u32 l:=by rw[<-hl,List.take_length]
 have zx1:=ae;have hle:=sV (l:=l) (j:=n)
 refine az Tryz.func158 Tryz.ntmps158 rfl ?_
 have zx3:= @SY;have zx4:= @acO;have zx5:= @a1s;have zx6:=aA;repeat' (first|(refine ah ?_;refine ak [] ([].length) (trI z l n) (λj=>j.val) (⟨n,Nat.le_refl _,rfl⟩) rfl (by unfold trI;exact dK) ?_;(rintro⟨j,hj,ht⟩;rcases Nat.eq_zero_or_pos j with h0|h0<;>first|(subst h0;(simp-dsimp only[trI];refine zqS ?_))|(obtain⟨j,rfl⟩:∃j',j=j'+1:=⟨j-1,omgz⟩;have hjl:j<l.length:=omgz;rcases Decidable.em (l.getD j default=0) with zx1|zx1<;>(simp-dsimp only[trI];refine zqS ?_))))|(refine aj ?_;refine Nxt.mk [] (⟨j,omgz,by rw[<-FK zx1];exact ht⟩) rfl (by unfold trI;exact dK) zqO)|refine zqN ?_|refine kI ?_|refine uy ?_|refine uz ?_|refine uA ?_|refine kJ ?_|(refine kK ?_ ?_<;>intro hc<;>try exact zqM))
 all_goals first
  |(rw[acH] at ht;rw[<-ht];exact aB [];done)
  |(rw[FM zx1] at ht;rw[<-ht];exact aB [];done)
  |skip
theorem NN(hl:l.length=n)(hn:n<2^47):ACall Tryz.prog 158 [.sl 0 0 n 1] [.cells (cI .u32 l) 136] 0 (.isl false (cI .u32 (l.take (trN l n))) (trN l n)) []:=
 ACall.own (args':=[.isl false (cI .u32 l) n]) (by rw[sH];trivial) (by simp[bP,acQ hl]) (by simp[bnd,sH]) (zZ hl hn)
theorem uO(hi:Lim l)(hl:l.length=n)(hn:n<2^47):ACall Tryz.prog 158 [.isl z (cI .u32 l) n] [] 0 (.isl z (cI .u32 (lb (val l).toNat)) (lb (val l).toNat).length) []:=by
 have h:=zZ (z:=z) hl hn
 have e:=jQ hi;have e2:=jR hi
 rw[hl] at e e2
 rw[e,<-e2] at h;exact h
theorem Ca(hi:Lim l)(hl:l.length=n)(hn:n<2^47):ACall Tryz.prog 158 [.sl 0 0 n 1] [.cells (cI .u32 l) 136] 0 (.isl false (cI .u32 (lb (val l).toNat)) (lb (val l).toNat).length) []:=by
 have h:=NN hl hn
 have e:=jQ hi;have e2:=jR hi
 rw[hl] at e e2
 rw[e,<-e2] at h;exact h
def rdI(T:Nat)(p:{p:Nat×Nat // p.1+dgs p.2=T/\p.2<1000000000}):St:=
 ⟨25,0,[(3,.val (.int .i64 p.val.1)),(4,.val (.int .u32 p.val.2))],[]⟩
theorem NP(hl:l.length=0):ACall Tryz.prog 156 [.isl z (cI .u32 l) 0] [] 0 (.val (.int .i64 (dg9 l))) []:=by
 rw[SV hl]
 refine az Tryz.func156 Tryz.ntmps156 rfl ?_
 repeat' (first|refine zqN ?_|refine aY ?_|refine aZ ?_|(refine bf ?_ ?_<;>intro hc<;>try exact zqM))
 all_goals exact aB []
theorem NQ(hl:l.length=n+1)(hn:n<2^47)(hi:Lim l):ACall Tryz.prog 156 [.isl z (cI .u32 l) (n+1)] [] 0 (.val (.int .i64 (dg9 l))) []:=by
 have hr:=hi.at n
 rw[FW omgz,hl,Nat.add_sub_cancel]
 obtain⟨w,hw2⟩:∃w:Nat,l.getD n 0=w:=Int.eq_ofNat_of_zero_le hr.1
 rw[hw2] at hr⊢
 have zx1:l.getD n default=w:=hw2
 rw[Int.toNat_natCast]
 obtain⟨T,hT⟩:∃T,9*n+dgs w=T:=⟨_,rfl⟩
 rw[hT]
 have h0:9*n+dgs w=T/\w<1000000000:=⟨hT,omgz⟩
 have hT50:T<2^52:=by have:=acN (u:=w) omgz;omega
 have zx3:((9*n:Nat):Int)=9*(n:Int):=by omega
 refine az Tryz.func156 Tryz.ntmps156 rfl ?_
 have zx2:= @a1s;repeat' (first|(refine ah ?_;refine ak [] ([].length) (rdI T) (λp=>p.val.2) (⟨(9*n,w),h0⟩) rfl (by unfold rdI;exact ed) ?_;(rintro⟨⟨p,u⟩,h1,h2⟩;dsimp only at h1 h2;rcases Nat.eq_zero_or_pos u with hu|hu<;>first|(subst hu;(simp-dsimp only[rdI];refine zqS ?_))|(have hds:=ajH hu;(simp-dsimp only[rdI];refine zqS ?_))))|(refine aj ?_;refine Nxt.mk [] (⟨(p+1,u/10),by dsimp only;omega,by dsimp only;omega⟩) rfl (by unfold rdI;exact ed) zqO)|refine zqN ?_|refine dm ?_|refine dn ?_|(refine dw ?_ ?_<;>intro hc<;>try exact zqM))
 all_goals first
  |(rw[acM] at h1;have e:p=T:=omgz;subst e;exact aB [];done)
  |skip
theorem z8(hl:l.length=n)(hn:n<2^47)(hi:Lim l):ACall Tryz.prog 156 [.isl z (cI .u32 l) n] [] 0 (.val (.int .i64 (dg9 l))) []:=by
 subst hl
 rcases Nat.eq_zero_or_pos l.length with h0|h0
 ·rw[h0];exact NP h0
 ·obtain⟨q,hq⟩:∃q,l.length=q+1:=⟨_,(Nat.succ_pred_eq_of_pos h0).symm⟩
  rw[hq] at hn⊢
  exact NQ hq omgz hi
theorem ZK{L:List Int} {dd:Nat}(hl:l.length=n)(hn:n<2^30)(ht:ACall Tryz.prog 158 [.sl 0 0 n 1] [.cells (cI .u32 l) 136] 0 (.isl false (cI .u32 L) L.length) [])(hd:ACall Tryz.prog 156 [.isl false (cI .u32 L) L.length] [] 0 (.val (.int .i64 (dd:Int))) [])
 (hg:¬dd<=300):ACall Tryz.prog 110 [.val (.bool neg),.isl z (cI .u32 l) n] [] 0 (.tup [.agg [.val (.bool false),.isl true [] 0],.val (.int .i64 3)]) []:=by
 have ht:=PLift.up ht;have hd:=PLift.up hd
 refine az Tryz.func110 Tryz.ntmps110 rfl ?_
 repeat' (first|refine zqN ?_|((first|refine ay rfl (λK hK=>?_)|refine au (λK hK=>?_));(first|refine ai (f:=158) [2] 0 false ?_|refine ai (f:=156) [] 0 false ?_);refine mg ?_;(first|refine⟨_,_,ht.down,?_⟩|refine⟨_,_,hd.down,?_⟩);refine jo ?_;apply hK;clear hK K)|refine aY ?_|refine mf ?_|refine mW ?_|refine mY ?_|refine aZ ?_|(refine bf ?_ ?_<;>intro hc<;>try exact zqM))
 all_goals exact fu [] @fF
theorem ZL{L:List Int} {dd:Nat}(hl:l.length=n)(hn:n<2^30)(ht:ACall Tryz.prog 158 [.sl 0 0 n 1] [.cells (cI .u32 l) 136] 0 (.isl false (cI .u32 L) L.length) [])(hd:ACall Tryz.prog 156 [.isl false (cI .u32 L) L.length] [] 0 (.val (.int .i64 (dd:Int))) [])
 (hg:dd<=300) (h0:L=[]):ACall Tryz.prog 110 [.val (.bool neg),.isl z (cI .u32 l) n] [] 0 (.tup [.agg [.val (.bool false),.isl true [] 0],.val (.int .i64 0)]) []:=by
 subst h0
 rw[fF,List.length_nil] at ht hd
 have ht:=PLift.up ht;have hd:=PLift.up hd
 refine az Tryz.func110 Tryz.ntmps110 rfl ?_
 repeat' (first|refine zqN ?_|((first|refine ay rfl (λK hK=>?_)|refine au (λK hK=>?_));(first|refine ai (f:=158) [2] 0 false ?_|refine ai (f:=156) [] 0 false ?_);refine mg ?_;(first|refine⟨_,_,ht.down,?_⟩|refine⟨_,_,hd.down,?_⟩);refine jo ?_;apply hK;clear hK K)|refine aY ?_|refine mf ?_|refine mW ?_|refine mY ?_|refine aZ ?_|(refine bf ?_ ?_<;>intro hc<;>try exact zqM))
 all_goals exact fu [] @fF
theorem ZM{L:List Int} {dd:Nat}(hl:l.length=n)(hn:n<2^30)(ht:ACall Tryz.prog 158 [.sl 0 0 n 1] [.cells (cI .u32 l) 136] 0 (.isl false (cI .u32 L) L.length) [])(hd:ACall Tryz.prog 156 [.isl false (cI .u32 L) L.length] [] 0 (.val (.int .i64 (dd:Int))) [])
 (hg:dd<=300) (h0:0<L.length):ACall Tryz.prog 110 [.val (.bool neg),.isl z (cI .u32 l) n] [] 0 (.tup [.agg [.val (.bool neg),.isl false (cI .u32 L) L.length],.val (.int .i64 0)]) []:=by
 have ht:=PLift.up ht;have hd:=PLift.up hd
 refine az Tryz.func110 Tryz.ntmps110 rfl ?_
 repeat' (first|refine zqN ?_|((first|refine ay rfl (λK hK=>?_)|refine au (λK hK=>?_));(first|refine ai (f:=158) [2] 0 false ?_|refine ai (f:=156) [] 0 false ?_);refine mg ?_;(first|refine⟨_,_,ht.down,?_⟩|refine⟨_,_,hd.down,?_⟩);refine jo ?_;apply hK;clear hK K)|refine aY ?_|refine mf ?_|refine mW ?_|refine mY ?_|refine aZ ?_|(refine bf ?_ ?_<;>intro hc<;>try exact zqM))
 all_goals exact aB []
theorem Cb(hi:Lim l)(hl:l.length=n)(hn:n<2^30)(hv:sg neg (val l)=v):ACall Tryz.prog 110 [.val (.bool neg),.isl z (cI .u32 l) n] [] 0 (rV v) []:=by
 have hv0:=(bA hi).1
 have ht:=Ca hi hl omgz
 have hlen:(lb (val l).toNat).length<=n:=by rw[jR hi,hl];exact sV
 have hd:=z8 (z:=false) (l:=lb (val l).toNat) rfl omgz lim_lb
 have hab:v.natAbs=(val l).toNat:=by rw[<-hv,Dv];omega
 have hdd:=zU (n:=(val l).toNat) (m:=300)
 unfold rV rI rE
 by_cases h:v.natAbs<10^300
 ·rw[if_pos h,if_pos h]
  rw[hab] at h
  have hg:=hdd.2 h
  by_cases h0:v=0
  ·have e:iC v=⟨true,false,[]⟩:=by rw[h0];rfl
   rw[e,bJ]
   refine ZL hl hn ht hd hg ?_
   rw[<-hab,h0];rfl
  ·have hne:0<(lb (val l).toNat).length:=Nat.pos_of_ne_zero λhc=>h0 (by
    have:=iR.1 (List.length_eq_zero_iff.1 hc);omega)
   have e:iC v=⟨false,neg,lb (val l).toNat⟩:=by
    unfold iC iV
    rw[hab]
    have e1:(v==0)=false:=by simpa using h0
    have e2:decide (v<0)=neg:=by
     rw[<-hv]
     unfold sg
     cases neg with
     |true=>rw[if_pos rfl];exact decide_eq_true omgz
     |false=>rw[if_neg (by simp)];exact decide_eq_false omgz
    rw[e1,e2]
   rw[e,bJ]
   exact ZM hl hn ht hd hg hne
 ·rw[if_neg h,if_neg h]
  exact ZK hl hn ht hd λhc=>h (by rw[hab];exact hdd.1 hc)
theorem qh(hi:Lim l)(hl:l.length=n)(hn:n<2^30)(hv:sg neg (val l)=v)(hd:D300 v):ACall Tryz.prog 110 [.val (.bool neg),.isl z (cI .u32 l) n] [] 0 (.tup [.agg (aa.cells (iC v)),.val (.int .i64 0)]) []:=by
 have:=Cb (z:=z) hi hl hn hv
 unfold rV at this
 rw[qf hd,qg hd] at this;exact this
theorem Gb{a1 a2 a3:Int}(hL:Lim [a1,a2,a3])(hv:sg neg (val [a1,a2,a3])=v)(hd:D300 v):ACall Tryz.prog 110 [.val (.bool neg),.sl 0 0 3 1] [.cells [.val (.int .u32 a1),.val (.int .u32 a2),.val (.int .u32 a3)] 136] 0 (.tup [.agg (aa.cells (iC v)),.val (.int .i64 0)]) []:=
 ACall.own (args':=[.val (.bool neg),.isl false (cI .u32 [a1,a2,a3]) 3]) (by simp[bnd]) (by simp[bP];rfl) (by simp[bnd,sH]) (qh (z:=false) (neg:=neg) (l:=[a1,a2,a3]) (n:=3) (v:=v) hL rfl (by decide) hv hd)
theorem rf(h1: -9223372036854775808<=v)(h2:v<=9223372036854775807):ACall Tryz.prog 76 [.val (.int .i64 v)] [] 0 (.agg (aa.cells (iC v))) []:=by
 have hd:D300 v:=by
  have:(9223372036854775808:Nat)<10^300:=by decide+kernel
  unfold D300;omega
 have hL:∀m:Int,0<=m->m<=9223372036854775808->Lim [m%1000000000,m/1000000000%1000000000,m/1000000000/1000000000]/\val [m%1000000000,m/1000000000%1000000000,m/1000000000/1000000000]=m:=λm h1 h2=>
  ⟨((Lim.nil.cons omgz).cons omgz).cons omgz,by simp only[fD,jO];omega⟩
 by_cases hn:v<0
 ·obtain⟨m,hm⟩:∃m,m= -v:=⟨_,rfl⟩
  obtain⟨g1,g2⟩:=hL m omgz omgz
  have hr:=PLift.up (Gb (neg:=decide (v<0)) g1 (by rw[g2,decide_eq_true hn];show-m=v;omega) hd)
  have w1:IntKind.wrap .u64 v=v+18446744073709551616:=by
   have:IntKind.wrap .u64 v=v%18446744073709551616:=by simp[IntKind.wrap,IntKind.bits,IntKind.signed]
   rw[this];omega
  have w2:IntKind.wrap .u64 (0-(v+18446744073709551616))=m:=by
   have:IntKind.wrap .u64 (0-(v+18446744073709551616))=(0-(v+18446744073709551616))%18446744073709551616:=by simp[IntKind.wrap,IntKind.bits,IntKind.signed]
   rw[this];omega
  have w3:IntKind.wrap .u64 (-(v+18446744073709551616))=m:=by rw[<-w2];congr 1;omega
  clear hd g1 g2 hL
  refine az Tryz.func76 Tryz.ntmps76 rfl ?_
  repeat' (first|apply dU|apply aJ|((first|refine ay rfl (λK hK=>?_)|refine au (λK hK=>?_));(first|refine ai (f:=110) [1] 0 false ?_);simp-dsimp(disch:=try exact vD) only[push_cast,simprocAttr,w1,w2,w3];(repeat refine aI ?_);intro G hG;refine hG _ _ ?_;clear hG G;(first|refine⟨_,_,hr.down,?_⟩);simp-dsimp(disch:=try exact vD) only[push_cast,simprocAttr,w1,w2,w3];(repeat refine aI ?_);apply hK;clear hK K)|((first|refine ay rfl (λK hK=>?_)|refine au (λK hK=>?_));(first|apply cZ|apply aX|apply dz|apply aR|apply gZ|apply ic|apply eY|apply eT|apply dO|apply aV|apply dM|apply eH);simp-dsimp(disch:=try exact vD) only[push_cast,simprocAttr,w1,w2,w3];(repeat refine aI ?_);apply hK;clear hK K)|((first|refine aN rfl rfl (λK1 K2 h1 h2=>?_) rfl|refine aL (λK1 K2 h1 h2=>?_));simp-dsimp(disch:=try exact vD) only[push_cast,simprocAttr,w1,w2,w3];(first|(refine⟨λhc=>?_,λhc=>?_⟩<;>first|(exfalso;omega)|(exfalso;contradiction)|refine h1 ?_|refine h2 ?_)|refine h1 ?_|refine h2 ?_);all_goals clear h1 h2 K1 K2)|apply dV|apply aT|apply cu|apply bG|apply aU|apply cK|apply bH|(refine bu rfl ?_)|apply bI|apply bZ|apply bY|apply dS)
  all_goals exact aB []
 ·obtain⟨g1,g2⟩:=hL v omgz omgz
  have hr:=PLift.up (Gb (neg:=decide (v<0)) g1 (by rw[g2,decide_eq_false hn];rfl) hd)
  clear hd g1 g2 hL
  refine az Tryz.func76 Tryz.ntmps76 rfl ?_
  repeat' (first|apply dU|apply aJ|((first|refine ay rfl (λK hK=>?_)|refine au (λK hK=>?_));(first|refine ai (f:=110) [1] 0 false ?_);simp-dsimp(disch:=try exact vD) only[push_cast,simprocAttr];(repeat refine aI ?_);intro G hG;refine hG _ _ ?_;clear hG G;(first|refine⟨_,_,hr.down,?_⟩);simp-dsimp(disch:=try exact vD) only[push_cast,simprocAttr];(repeat refine aI ?_);apply hK;clear hK K)|((first|refine ay rfl (λK hK=>?_)|refine au (λK hK=>?_));(first|apply cZ|apply aX|apply dz|apply aR|apply gZ|apply ic|apply eY|apply eT|apply dO|apply aV|apply dM|apply eH);simp-dsimp(disch:=try exact vD) only[push_cast,simprocAttr];(repeat refine aI ?_);apply hK;clear hK K)|((first|refine aN rfl rfl (λK1 K2 h1 h2=>?_) rfl|refine aL (λK1 K2 h1 h2=>?_));simp-dsimp(disch:=try exact vD) only[push_cast,simprocAttr];(first|(refine⟨λhc=>?_,λhc=>?_⟩<;>first|(exfalso;omega)|(exfalso;contradiction)|refine h1 ?_|refine h2 ?_)|refine h1 ?_|refine h2 ?_);all_goals clear h1 h2 K1 K2)|apply dV|apply aT|apply cu|apply bG|apply aU|apply cK|apply bH|(refine bu rfl ?_)|apply bI|apply bZ|apply bY|apply dS)
  all_goals exact aB []
theorem agU{b2:Bool}(hb:X.neg= !b2)(hr:ACall Tryz.prog 110 [.val (.bool b2),.isl X.z (cI .u32 X.l) X.l.length] [] 0 (.tup [.agg (aa.cells W),.val (.int .i64 e)]) []):ACall Tryz.prog 112 [.agg (aa.cells X)] [] 0 (.agg (aa.cells W)) []:=by
 have hr:=PLift.up hr
 rw[bJ X,hb]
 cases b2
 all_goals(refine az Tryz.func112 Tryz.ntmps112 rfl ?_)
 all_goals repeat' (first|refine zqN ?_|refine aM hr.down ?_|refine aY ?_|refine aZ ?_|(refine bf ?_ ?_<;>intro hc<;>try exact zqM))
 all_goals exact aB []
theorem Lr(h:D300 v):ACall Tryz.prog 112 [.agg (aa.cells (iV z v))] [] 0 (.agg (aa.cells (iC (-v)))) []:=by
 have hf:=h.few
 refine agU (b2:= !decide (v<0)) (e:=0) (by show decide (v<0)=_;rw[Bool.not_not]) (qh (l:=lb v.natAbs) lim_lb rfl (by show(lb v.natAbs).length<_;omega) ?_ (by unfold D300;rw[Int.natAbs_neg];exact h))
 rw[aS];unfold sg
 by_cases hv:v<0
 ·rw[decide_eq_true hv];show(if false=true then _ else _)=_;rw[if_neg (by simp)];omega
 ·rw[decide_eq_false hv];show(if true=true then _ else _)=_;rw[if_pos rfl];omega
theorem Aa:ACall Tryz.prog 108 [.agg (aa.cells (iV z v))] [] 0 (.val (.int .i64 (sgn v))) []:=by
 have hl:(lb v.natAbs).length=0↔v=0:=by rw[List.length_eq_zero_iff,iR];omega
 unfold iV
 obtain⟨L,hL⟩:∃L,lb v.natAbs=L:=⟨_,rfl⟩
 rw[hL] at hl⊢
 have hn:=ae;have zx1:=ae
 rcases Int.lt_trichotomy v 0 with h|h|h
 ·have e:sgn v= -1:=by unfold sgn;rw[if_neg omgz,if_pos h]
  have hn:decide (v<0)=true:=decide_eq_true h
  have zx1:¬L.length=0:=λh2=>by have:=hl.1 h2;omega
  rw[e,hn]
  refine az Tryz.func108 Tryz.ntmps108 rfl ?_
  have zx2:=aA;have zx3:=aA;repeat' (first|refine zqN ?_|refine dm ?_|refine dn ?_|(refine dw ?_ ?_<;>intro hc<;>try exact zqM))
  all_goals exact aB []
 ·have e:sgn v=0:=by unfold sgn;rw[if_pos h]
  have zx1:L.length=0:=hl.2 h
  rw[e]
  refine az Tryz.func108 Tryz.ntmps108 rfl ?_
  have zx2:=aA;have zx3:=aA;repeat' (first|refine zqN ?_|refine dm ?_|refine dn ?_|(refine dw ?_ ?_<;>intro hc<;>try exact zqM))
  all_goals exact aB []
 ·have e:sgn v=1:=by unfold sgn;rw[if_neg omgz,if_neg omgz]
  have hn:decide (v<0)=false:=decide_eq_false omgz
  have zx1:¬L.length=0:=λh2=>by have:=hl.1 h2;omega
  rw[e,hn]
  refine az Tryz.func108 Tryz.ntmps108 rfl ?_
  have zx2:=aA;have zx3:=aA;repeat' (first|refine zqN ?_|refine dm ?_|refine dn ?_|(refine dw ?_ ?_<;>intro hc<;>try exact zqM))
  all_goals exact aB []
theorem Dy(ha:Lim a)(hb:Lim b)(hta:Tr a)(htb:Tr b)(hl:a.length=n)(hm:b.length=m)(hn:n<2^47)(hn2:m<2^47)(hne:¬n=m):ACall Tryz.prog 197 [.isl z (cI .u32 a) n,.isl z' (cI .u32 b) m] [] 0 (.val (.int .i64 (oI a b))) []:=by
 have zx1:((n:Int)=m)=False:=eq_false omgz
 rcases Nat.lt_or_ge n m with h|h
 ·rw[zV (wh ha hb htb omgz)]
  refine az Tryz.func197 Tryz.ntmps197 rfl ?_
  have zx2:=aA;have zx3:=aA;repeat' (first|refine zqN ?_|refine dm ?_|refine dn ?_|(refine dw ?_ ?_<;>intro hc<;>try exact zqM)|refine zqR [] ?_|refine zqD ?_|fail)
  all_goals exact aB []
 ·rw[Dn (wh hb ha hta omgz)]
  refine az Tryz.func197 Tryz.ntmps197 rfl ?_
  have zx2:=aA;have zx3:=aA;repeat' (first|refine zqN ?_|refine dm ?_|refine dn ?_|(refine dw ?_ ?_<;>intro hc<;>try exact zqM)|refine zqR [] ?_|refine zqD ?_|fail)
  all_goals exact aB []
theorem Be(ha:Lim a)(hb:Lim b)(hl:a.length=n)(hm:b.length=n)(hn:n<2^47):ACall Tryz.prog 197 [.isl z (cI .u32 a) n,.isl z' (cI .u32 b) n] [] 0 (.val (.int .i64 (oI a b))) []:=by
 have h0:n<=n/\a.drop n=b.drop n:=⟨Nat.le_refl _,by rw[List.drop_eq_nil_of_le omgz,List.drop_eq_nil_of_le omgz]⟩
 have zx1:=ae;have zx2:=ae
 refine az Tryz.func197 Tryz.ntmps197 rfl ?_
 have zx3:= @a1s;repeat' (first|(refine ah ?_;refine ak [] ([].length) (cpI z z' a b n) (λk=>k.val) (⟨n,h0⟩) rfl (by unfold cpI;exact ed) ?_;(rintro⟨k,hk,hd⟩;rcases Nat.eq_zero_or_pos k with hk0|hk0<;>first|(subst hk0;(simp-dsimp only[cpI];refine zqS ?_))|(obtain⟨k,rfl⟩:∃k',k=k'+1:=⟨k-1,omgz⟩;have hka:k<a.length:=omgz;have hkb:k<b.length:=omgz;rcases Decidable.em (a.getD k default<b.getD k default) with zx1|zx1<;>rcases Decidable.em (b.getD k default<a.getD k default) with zx2|zx2<;>(simp-dsimp only[cpI];refine zqS ?_))))|(refine aj ?_;refine Nxt.mk [] (⟨k,omgz,K5 hka hkb hd omgz⟩) rfl (by unfold cpI;exact ed) zqO)|refine zqN ?_|refine dm ?_|refine dn ?_|(refine dw ?_ ?_<;>intro hc<;>try exact zqM)|refine zqR [] ?_|refine zqD ?_|fail)
 all_goals first
  |(rw[S9 (by simpa using hd)];exact aB [];done)
  |(rw[zV (cmp_lt ha hb (hl.trans hm.symm) hka hd zx1)];exact aB [];done)
  |(rw[Dn (cmp_lt hb ha (hm.trans hl.symm) hkb hd.symm zx2)];exact aB [];done)
  |skip
theorem wW(ha:Lim a)(hb:Lim b)(hta:Tr a)(htb:Tr b)(hl:a.length<2^47)(hm:b.length<2^47):ACall Tryz.prog 197 [.isl z (cI .u32 a) a.length,.isl z' (cI .u32 b) b.length] [] 0 (.val (.int .i64 (oI a b))) []:=by
 by_cases h:a.length=b.length
 ·have:=Be (z:=z) (z':=z') ha hb rfl h.symm hl
  rw[h] at this⊢;exact this
 ·exact Dy ha hb hta htb rfl rfl hl hm h
theorem uP(ha:Lim a)(hl:a.length=n)(hn:n<2^47)(hi:i<2^50):ACall Tryz.prog 199 [.isl z (cI .u32 a) n,.val (.int .i64 i)] [] 0 (.val (.int .u64 (a.getD i 0))) []:=by
 have hr:=ha.at i
 rcases Nat.lt_or_ge i n with h|h
 ·refine az Tryz.func199 Tryz.ntmps199 rfl ?_
  repeat' (first|apply dU|apply aJ|((first|refine ay rfl (λK hK=>?_)|refine au (λK hK=>?_));(first|apply cZ|apply aX|apply dz|apply aR|apply bE|apply bO|apply iI|apply dh|apply dM|apply eH);simp-dsimp(disch:=try exact vD) only[push_cast,simprocAttr,gd0];(repeat refine aI ?_);apply hK;clear hK K)|((first|refine aN rfl rfl (λK1 K2 h1 h2=>?_) rfl|refine aL (λK1 K2 h1 h2=>?_));simp-dsimp(disch:=try exact vD) only[push_cast,simprocAttr,gd0];(first|(refine⟨λhc=>?_,λhc=>?_⟩<;>first|(exfalso;omega)|(exfalso;contradiction)|refine h1 ?_|refine h2 ?_)|refine h1 ?_|refine h2 ?_);all_goals clear h1 h2 K1 K2)|apply dV|apply aT|apply cu|apply bG|apply aU|apply cK|apply bH|(refine bu rfl ?_)|apply bI|apply bZ|apply bY|apply dS)
  all_goals exact aB []
 ·rw[eu omgz]
  refine az Tryz.func199 Tryz.ntmps199 rfl ?_
  repeat' (first|apply dU|apply aJ|((first|refine ay rfl (λK hK=>?_)|refine au (λK hK=>?_));(first|apply cZ|apply aX|apply dz|apply aR|apply bE|apply bO|apply iI|apply dh|apply dM|apply eH);simp-dsimp(disch:=try exact vD) only[push_cast,simprocAttr];(repeat refine aI ?_);apply hK;clear hK K)|((first|refine aN rfl rfl (λK1 K2 h1 h2=>?_) rfl|refine aL (λK1 K2 h1 h2=>?_));simp-dsimp(disch:=try exact vD) only[push_cast,simprocAttr];(first|(refine⟨λhc=>?_,λhc=>?_⟩<;>first|(exfalso;omega)|(exfalso;contradiction)|refine h1 ?_|refine h2 ?_)|refine h1 ?_|refine h2 ?_);all_goals clear h1 h2 K1 K2)|apply dV|apply aT|apply cu|apply bG|apply aU|apply cK|apply bH|(refine bu rfl ?_)|apply bI|apply bZ|apply bY|apply dS)
  all_goals exact aB []
end
