/- Lp11 Lp8. No condition. -/
import Derived.Test.YtgmpdplpodemaaaGreatDoorLpG5
set_option linter.all false
set_option maxHeartbeats 8000000
set_option maxRecDepth 20000
namespace Go.Proofs.YtgmpdplpodemaaaGreatDoor
open Go Go.Sy Go.Bp Go.Lm
attribute [local irreducible] AO AL AC OpT ACall Ends DGo aN Thn Blk Nxt
variable {n N M k i m j r:Nat} {z z' neg:Bool} {l a b u vl L X X' X1 Qa Qb y yl w R T:List Int} {v x d f g c rr top second qd hd x0 x1 x2 vt:Int}
theorem Vs(h1:500000000≤top∧top<1000000000)(h0:0≤hd)(h:hd≤top*1000000000+999999999):0≤hd/top∧hd/top≤1000000001∧0≤hd%top∧hd%top<1000000000∧hd=hd/top*top+hd%top:=by
 have e:=Int.mul_ediv_add_emod hd top
 have r0:=Int.emod_nonneg hd (show top≠0 by omega)
 have r1:=Int.emod_lt_of_pos hd (show 0<top by omega)
 refine⟨Int.ediv_nonneg h0 (by omega),?_,r0,by omega,by rw[Int.mul_comm];omega⟩
 refine Int.lt_add_one_iff.1 (Int.ediv_lt_of_lt_mul (by omega) ?_)
 rw[Int.mul_comm];omega
structure Rd(n M j:Nat)(yl:List Int)(top second qd:Int)(X X1 X' Qa Qb:List Int):Prop where
 h2:0≤X.getD (j+n) 0∧X.getD (j+n) 0<1000000000
 h1:0≤X.getD (j+n-1) 0∧X.getD (j+n-1) 0<1000000000
 h0:0≤X.getD (j+n-2) 0∧X.getD (j+n-2) 0<1000000000
 q0:0≤qd∧qd<1000000000
 hd:X.getD (j+n) 0*1000000000+X.getD (j+n-1) 0≤top*1000000000+999999999
 first:qd≤(X.getD (j+n) 0*1000000000+X.getD (j+n-1) 0)/top
 dec:∀g r,qd≤g→0≤r→X.getD (j+n) 0*1000000000+X.getD (j+n-1) 0=g*top+r→r*1000000000+X.getD (j+n-2) 0<g*second→qd≤g-1
 stop:∀g r,qd≤g→g<1000000000→0≤r→X.getD (j+n) 0*1000000000+X.getD (j+n-1) 0=g*top+r→(g*second≤r*1000000000+X.getD (j+n-2) 0∨1000000000≤r)→g≤qd+1
 s1:ACall Tryz.prog 212 [.sl 0 j (n+1) 1,.isl false (cI .u32 yl) n,.val (.int .u64 qd)] [.cells (cI .u32 X) 136] 1 (.val (.bool false)) [.cells (cI .u32 X') 136]
 s2:qd+1<1000000000→ACall Tryz.prog 212 [.sl 0 j (n+1) 1,.isl false (cI .u32 yl) n,.val (.int .u64 (qd+1))] [.cells (cI .u32 X) 136] 1 (.val (.bool true)) [.cells (cI .u32 X1) 136]
 s3:qd+1<1000000000→ACall Tryz.prog 213 [.sl 0 j (n+1) 1,.isl false (cI .u32 yl) n] [.cells (cI .u32 X1) 136] 1 (.tup []) [.cells (cI .u32 X') 136]
 qs:Qa.set j qd=Qb
theorem aaL(htop:500000000≤top∧top<1000000000)(q0:0≤qd∧qd<1000000000)(hh:hd≤top*1000000000+999999999)
 (dec:∀g r,qd≤g→0≤r→hd=g*top+r→r*1000000000+x0<g*second→qd≤g-1)
 (stop:∀g r,qd≤g→g<1000000000→0≤r→hd=g*top+r→(g*second≤r*1000000000+x0∨1000000000≤r)→g≤qd+1)
 (h1:qd≤g) (h2:0≤rr∧rr<1000000000) (h3:hd=g*top+rr):
 (g=qd∧¬1000000000≤g∧¬rr*1000000000+x0<g*second)∨(g=qd+1∧¬1000000000≤g∧¬rr*1000000000+x0<g*second)
 ∨(1000000000≤g∧¬1000000000≤rr+top∧qd≤g-1∧hd=(g-1)*top+(rr+top))∨(¬1000000000≤g∧rr*1000000000+x0<g*second∧¬1000000000≤rr+top∧qd≤g-1∧hd=(g-1)*top+(rr+top))
 ∨(1000000000≤g∧1000000000≤rr+top∧g=qd+1)∨(1000000000≤g∧1000000000≤rr+top∧g=qd+2∧qd+1<1000000000)
 ∨(¬1000000000≤g∧rr*1000000000+x0<g*second∧1000000000≤rr+top∧g=qd+1)∨(¬1000000000≤g∧rr*1000000000+x0<g*second∧1000000000≤rr+top∧g=qd+2∧qd+1<1000000000):=by
 have e3:hd=(g-1)*top+(rr+top):=by rw[Int.sub_mul,Int.one_mul];omega
 by_cases c1:1000000000≤g
 ·have hq:qd≤g-1:=by omega
  by_cases c3:1000000000≤rr+top
  ·have hlt:g-1<1000000000:=by
    refine Decidable.not_not.1 fun hc=>?_
    have:1000000000*top≤(g-1)*top:=Int.mul_le_mul_of_nonneg_right (by omega) (by omega)
    omega
   have:=stop (g-1) (rr+top) hq hlt (by omega) e3 (.inr c3)
   omega
  ·exact .inr (.inr (.inl ⟨c1,c3,hq,e3⟩))
 ·by_cases c2:rr*1000000000+x0<g*second
  ·have hq:=dec g rr h1 h2.1 h3 c2
   by_cases c3:1000000000≤rr+top
   ·have:=stop (g-1) (rr+top) hq (by omega) (by omega) e3 (.inr c3)
    omega
   ·exact .inr (.inr (.inr (.inl ⟨c1,c2,c3,hq,e3⟩)))
  ·have:=stop g rr h1 (by omega) h2.1 h3 (.inl (by omega))
   omega
theorem aaM(h1:0≤g∧g≤1000000001)(h2:0≤second∧second<1000000000):0≤g*second∧g*second≤1000000000999999999:=by
 refine⟨Int.mul_nonneg h1.1 h2.1,?_⟩
 have:=Int.mul_le_mul_of_nonneg_left (show second≤999999999 by omega) h1.1
 omega
theorem a2s(x:Int):x+2-1=x+1:=by omega
def dvI(yl:List Int)(n m r:Nat)(d top second:Int)(X Q:Nat→List Int)(k:{k:Nat // k≤r}):St:=
 ⟨175,0,[(6,.val (.int .i64 n)),(9,.val (.int .u64 d)),(10,.sl 0 0 (m+1) 1),(11,.isl false (cI .u32 yl) n),(12,.val (.int .u64 top)),(13,.val (.int .u64 second)),(14,.sl 1 0 r 1),(15,.val (.int .i64 ((k.val:Int)-1)))],[(0,some (.cells (cI .u32 (X k.val)) 136)),(1,some (.cells (cI .u32 (Q k.val)) 136))]⟩
def dvJ(yl:List Int)(n m r j:Nat)(d top second hd:Int)(qd:Int)(X Qa:List Int)(p:{p:Int×Int // qd≤p.1∧p.1≤1000000001∧(0≤p.2∧p.2<1000000000)∧hd=p.1*top+p.2}):St:=
 ⟨175,0,[(6,.val (.int .i64 n)),(9,.val (.int .u64 d)),(10,.sl 0 0 (m+1) 1),(11,.isl false (cI .u32 yl) n),(12,.val (.int .u64 top)),(13,.val (.int .u64 second)),(14,.sl 1 0 r 1),(15,.val (.int .i64 j)),(17,.val (.int .u64 p.val.1)),(18,.val (.int .u64 p.val.2))],[(0,some (.cells (cI .u32 X) 136)),(1,some (.cells (cI .u32 Qa) 136))]⟩
theorem DK{X Q:Nat→List Int} {v1:Int}(hn:2≤n)(hm:n≤m)(hm2:m<2^29)(hr:r=m-n+1)(hul:u.length=m)(hvl:vl.length=n)(hv:Lim vl)(hvt:1≤vl.getD (n-1) 0)
 (hd0:1000000000/(vl.getD (n-1) 0+1)=d) (hd1:1≤d∧d<1000000000) (hyl:yl.length=n) (htop:yl.getD (n-1) 0=top) (hsec:yl.getD (n-2) 0=second) (ht1:500000000≤top∧top<1000000000) (hs1:0≤second∧second<1000000000)
 (hc0:0≤c) (hcm:ACall Tryz.prog 192 [.isl z (cI .u32 u) m,.isl z' (cI .u32 vl) n] [] 0 (.val (.int .i64 c)) [])
 (hxs:ACall Tryz.prog 211 [.isl z (cI .u32 u) m,.val (.int .u64 d),.val (.int .i64 ((m:Int)+1))] [] 0 (.sl 0 0 (m+1) 1) [.cells (cI .u32 (X r)) 136])
 (hys:ACall Tryz.prog 211 [.isl z' (cI .u32 vl) n,.val (.int .u64 d),.val (.int .i64 n)] [] 0 (.isl false (cI .u32 yl) n) [])
 (hX:∀k,k≤r→(X k).length=m+1) (hQ:∀k,k≤r→(Q k).length=r) (hQr:List.replicate r 0=Q r)
 (hRd:∀j,j<r→∃qd X1,Rd n (m+1) j yl top second qd (X (j+1)) X1 (X j) (Q (j+1)) (Q j))
 (htr:ACall Tryz.prog 210 [.isl false (cI .u32 ((X 0).take n)) n] [] 0 (.isl false (cI .u32 R) k) []) (hsh:ACall Tryz.prog 209 [.isl false (cI .u32 R) k,.val (.int .u32 d)] [] 0 (.tup [.isl false (cI .u32 T) i,.val (.int .u32 v1)]) [])
 (htq:ACall Tryz.prog 210 [.isl false (cI .u32 (Q 0)) r] [] 0 (.isl false (cI .u32 L) M) []):
 ACall Tryz.prog 190 [.isl z (cI .u32 u) m,.isl z' (cI .u32 vl) n] [] 0 (.tup [.isl false (cI .u32 L) M,.isl false (cI .u32 T) i]) []:=by
 have hcm:=PLift.up hcm;have hxs:=PLift.up hxs;have hys:=PLift.up hys;have htr:=PLift.up htr;have hsh:=PLift.up hsh;have htq:=PLift.up htq
 have tQ:(Q 0).take r=Q 0:=List.take_of_length_le (by rw[hQ 0 (Nat.zero_le _)];exact Nat.le_refl _)
 have tX:(X 0).take (m+1)=X 0:=List.take_of_length_le (by rw[hX 0 (Nat.zero_le _)];exact Nat.le_refl _)
 have hvr:=hv.at (n-1)
 have hvz:¬vl.getD (n-1) 0+1=0:=by omega
 have htz:¬top=0:=by omega
 have hn1:((n:Int)=1)=False:=eq_false (by omega)
 have i1:((n:Int)-1).toNat=n-1:=by omega
 have i2:((n:Int)-2).toNat=n-2:=by omega
 have er:(m:Int)-n+1=r:=by omega
 have er1:(m:Int)-n=r-1:=by omega
 generalize hvt2:vl.getD (n-1) 0=vt at*
 have hc1:=ae;have hc2:=ae;have hc3:=ae;have hx2:=ae;have hx1:=ae;have hx0:=ae;have hG:=ae;have hH:=ae;have hp:=ae;have j1:=ae;have j2:=ae;have j3:=ae;have j4:=ae;have hset:=ae;have hlX:=ae;have hlQ:=ae
 refine az Tryz.func190 Tryz.ntmps190 rfl ?_
 repeat' (first|((first|refine dP (r:=24) 0 ?_|refine dO (r:=24) 0 ?_);simp-dsimp(disch:=try exact vD) only[push_cast,simprocAttr,gd0,hvz,htz,hn1,i1,i2,er,er1,hvt2,hd0,htop,hsec,hQr,tQ,tX,a1s,a2s,hc1,hc2,hc3,hx2,hx1,hx0,hG,hH,hp,j1,j2,j3,j4,hset,hlX,hlQ];(repeat refine aI ?_);intro K hK;refine hK _ _ ?_;clear hK K)|((first|refine dP (r:=25) 1 ?_|refine dO (r:=25) 1 ?_);simp-dsimp(disch:=try exact vD) only[push_cast,simprocAttr,gd0,hvz,htz,hn1,i1,i2,er,er1,hvt2,hd0,htop,hsec,hQr,tQ,tX,a1s,a2s,hc1,hc2,hc3,hx2,hx1,hx0,hG,hH,hp,j1,j2,j3,j4,hset,hlX,hlQ];(repeat refine aI ?_);intro K hK;refine hK _ _ ?_;clear hK K)|(refine ai ?_;refine au [0,1] ([0,1].length) (dvJ yl n m r j d top second (x2*1000000000+x1) qd Xa Qa) (fun p=>p.val.1.toNat) (⟨(g0,r0),g1,g2,g3,g4⟩) rfl (by unfold dvJ;(try simp only[List.cons_append,List.nil_append]);refine Sub.mk2 ?_;(simp-dsimp(disch:=try exact vD) only[push_cast,simprocAttr,gd0,hvz,htz,hn1,i1,i2,er,er1,hvt2,hd0,htop,hsec,hQr,tQ,tX,a1s,a2s,hc1,hc2,hc3,hx2,hx1,hx0,hG,hH,hp,j1,j2,j3,j4,hset,hlX,hlQ]);(repeat refine aI ?_);first|done|exact vI) ?_;(rintro⟨⟨g,rr⟩,f1,f2,f3,f4⟩;dsimp only at f1 f2 f3 f4;have hgs:=aaM (g:=g) (second:=second) ⟨by omega,f2⟩ hs1;rcases aaL ht1 q0 hdl dec stop f1 f3 f4 with⟨e,hc1,hc2⟩|⟨e,hc1,hc2⟩|⟨hc1,hc3,hq,f5⟩|⟨hc1,hc2,hc3,hq,f5⟩|⟨hc1,hc3,e⟩|⟨hc1,hc3,e,hc4⟩|⟨hc1,hc2,hc3,e⟩|⟨hc1,hc2,hc3,e,hc4⟩<;>((try subst e);(try(generalize hp:_*second=pp at*));(simp-dsimp(disch:=try exact vD) only[push_cast,simprocAttr,dvJ]))))|(refine aj ?_;refine Nxt.mk [0,1] (⟨(g-1,rr+top),hq,by dsimp only;omega,by dsimp only;omega,f5⟩) rfl (by unfold dvJ;(try simp only[List.cons_append,List.nil_append]);refine Sub.mk2 ?_;(simp-dsimp(disch:=try exact vD) only[push_cast,simprocAttr,gd0,hvz,htz,hn1,i1,i2,er,er1,hvt2,hd0,htop,hsec,hQr,tQ,tX,a1s,a2s,hc1,hc2,hc3,hx2,hx1,hx0,hG,hH,hp,j1,j2,j3,j4,hset,hlX,hlQ]);(repeat refine aI ?_);first|done|exact vI) (by first|omega|(dsimp only;omega)|(simp;done)|(simp;omega)))|(refine ai ?_;refine au [0,1] ([0,1].length) (dvI yl n m r d top second X Q) (fun k=>k.val) (⟨r,Nat.le_refl _⟩) rfl (by unfold dvI;(try simp only[List.cons_append,List.nil_append]);refine Sub.mk2 ?_;(simp-dsimp(disch:=try exact vD) only[push_cast,simprocAttr,gd0,hvz,htz,hn1,i1,i2,er,er1,hvt2,hd0,htop,hsec,hQr,tQ,tX,a1s,a2s,hc1,hc2,hc3,hx2,hx1,hx0,hG,hH,hp,j1,j2,j3,j4,hset,hlX,hlQ]);(repeat refine aI ?_);first|done|exact vI) ?_;(rintro⟨k,hk⟩;rcases Nat.eq_zero_or_pos k with hk0|hk0<;>first|(subst hk0;(simp-dsimp(disch:=try exact vD) only[push_cast,simprocAttr,dvI]))|(dsimp only[dvI];obtain⟨j,rfl⟩:∃j',k=j'+1:=⟨k-1,by omega⟩;obtain⟨qd,X1,⟨w2,w1,w0,q0,hdl,first,dec,stop,s1,s2,s3,hset⟩⟩:=hRd j (by omega);have s1:=PLift.up s1;have s2:=PLift.up s2;have s3:=PLift.up s3;have hlX:=hX (j+1) hk;have hlQ:=hQ (j+1) hk;have j1:((j:Int)+n).toNat=j+n:=(by omega);have j2:((j:Int)+n-1).toNat=j+n-1:=(by omega);have j3:((j:Int)+n-2).toNat=j+n-2:=(by omega);have j4:j+n+1-j=n+1:=(by omega);generalize hx2:(X (j+1)).getD (j+n) 0=x2 at*;generalize hx1:(X (j+1)).getD (j+n-1) 0=x1 at*;generalize hx0:(X (j+1)).getD (j+n-2) 0=x0 at*;have gf:=Vs ht1 (show 0≤x2*1000000000+x1 by omega) hdl;generalize hG:(x2*1000000000+x1)/top=g0 at*;generalize hH:(x2*1000000000+x1)%top=r0 at*;obtain⟨g0',g2,g3a,g3b,g4⟩:=gf;have g3:=And.intro g3a g3b;have g1:=first;generalize hXa:X (j+1)=Xa at*;generalize hQa:Q (j+1)=Qa at*;(simp-dsimp(disch:=try exact vD) only[push_cast,simprocAttr,]))))|(refine aj ?_;refine Nxt.mk [0,1] (⟨j,by omega⟩) rfl (by unfold dvI;(try simp only[List.cons_append,List.nil_append]);refine Sub.mk2 ?_;(simp-dsimp(disch:=try exact vD) only[push_cast,simprocAttr,gd0,hvz,htz,hn1,i1,i2,er,er1,hvt2,hd0,htop,hsec,hQr,tQ,tX,a1s,a2s,hc1,hc2,hc3,hx2,hx1,hx0,hG,hH,hp,j1,j2,j3,j4,hset,hlX,hlQ]);(repeat refine aI ?_);first|done|exact vI) (by first|omega|(dsimp only;omega)|(simp;done)|(simp;omega)))|apply bZ|apply aB|((first|refine ax rfl (fun K hK=>?_)|refine ak (fun K hK=>?_)|refine aJ (fun K hK=>?_));(first|refine ah (f:=192) [] 0 false ?_|refine ah (f:=211) (dst:=some 56) [] 0 false ?_|refine ah (f:=211) (dst:=some 60) [] 0 false ?_|refine ah (f:=210) (dst:=some 166) [] 0 false ?_|refine ah (f:=210) (dst:=some 173) [] 0 false ?_|refine ah (f:=209) (dst:=some 169) [] 0 false ?_|refine ah (f:=213) [0] 1 false ?_);simp-dsimp(disch:=try exact vD) only[push_cast,simprocAttr,gd0,hvz,htz,hn1,i1,i2,er,er1,hvt2,hd0,htop,hsec,hQr,tQ,tX,a1s,a2s,hc1,hc2,hc3,hx2,hx1,hx0,hG,hH,hp,j1,j2,j3,j4,hset,hlX,hlQ];(repeat refine aI ?_);intro G hG;refine hG _ _ ?_;clear hG G;(first|refine⟨_,_,hcm.down,?_⟩|refine⟨_,_,hxs.down,?_⟩|refine⟨_,_,hys.down,?_⟩|refine⟨_,_,htr.down,?_⟩|refine⟨_,_,htq.down,?_⟩|refine⟨_,_,hsh.down,?_⟩|refine⟨_,_,(s3.down (by omega)),?_⟩);simp-dsimp(disch:=try exact vD) only[push_cast,simprocAttr,gd0,hvz,htz,hn1,i1,i2,er,er1,hvt2,hd0,htop,hsec,hQr,tQ,tX,a1s,a2s,hc1,hc2,hc3,hx2,hx1,hx0,hG,hH,hp,j1,j2,j3,j4,hset,hlX,hlQ];(repeat refine aI ?_);apply hK;clear hK K)|((first|refine ax rfl (fun K hK=>?_)|refine ak (fun K hK=>?_)|refine aJ (fun K hK=>?_));(first|(refine ah (f:=212) [0] 1 false ?_;simp-dsimp(disch:=try exact vD) only[push_cast,simprocAttr,gd0,hvz,htz,hn1,i1,i2,er,er1,hvt2,hd0,htop,hsec,hQr,tQ,tX,a1s,a2s,hc1,hc2,hc3,hx2,hx1,hx0,hG,hH,hp,j1,j2,j3,j4,hset,hlX,hlQ];(repeat refine aI ?_);intro G hG;refine hG _ _ ?_;clear hG G;refine⟨_,_,s1.down,?_⟩;simp-dsimp(disch:=try exact vD) only[push_cast,simprocAttr,gd0,hvz,htz,hn1,i1,i2,er,er1,hvt2,hd0,htop,hsec,hQr,tQ,tX,a1s,a2s,hc1,hc2,hc3,hx2,hx1,hx0,hG,hH,hp,j1,j2,j3,j4,hset,hlX,hlQ];(repeat refine aI ?_);apply hK;clear hK K)|(refine ah (f:=212) [0] 1 false ?_;simp-dsimp(disch:=try exact vD) only[push_cast,simprocAttr,gd0,hvz,htz,hn1,i1,i2,er,er1,hvt2,hd0,htop,hsec,hQr,tQ,tX,a1s,a2s,hc1,hc2,hc3,hx2,hx1,hx0,hG,hH,hp,j1,j2,j3,j4,hset,hlX,hlQ];(repeat refine aI ?_);intro G hG;refine hG _ _ ?_;clear hG G;refine⟨_,_,(s2.down (by omega)),?_⟩;simp-dsimp(disch:=try exact vD) only[push_cast,simprocAttr,gd0,hvz,htz,hn1,i1,i2,er,er1,hvt2,hd0,htop,hsec,hQr,tQ,tX,a1s,a2s,hc1,hc2,hc3,hx2,hx1,hx0,hG,hH,hp,j1,j2,j3,j4,hset,hlX,hlQ];(repeat refine aI ?_);apply hK;clear hK K)))|((first|refine ax rfl (fun K hK=>?_)|refine ak (fun K hK=>?_)|refine aJ (fun K hK=>?_));(first|apply bM|apply aR|apply bU|apply aO|apply bi|apply bJ|apply fP|apply bO|apply fw|apply di|apply zm|apply aP|apply gz|apply dL|apply il|apply jO|apply bR|apply bu|apply aU|apply dE);simp-dsimp(disch:=try exact vD) only[push_cast,simprocAttr,gd0,hvz,htz,hn1,i1,i2,er,er1,hvt2,hd0,htop,hsec,hQr,tQ,tX,a1s,a2s,hc1,hc2,hc3,hx2,hx1,hx0,hG,hH,hp,j1,j2,j3,j4,hset,hlX,hlQ];(repeat refine aI ?_);apply hK;clear hK K)|((first|refine ax rfl (fun K hK=>?_)|refine ak (fun K hK=>?_)|refine aJ (fun K hK=>?_));(first|apply lD);simp-dsimp(disch:=try exact vD) only[push_cast,simprocAttr,gd0,hvz,htz,hn1,i1,i2,er,er1,hvt2,hd0,htop,hsec,hQr,tQ,tX,a1s,a2s,hc1,hc2,hc3,hx2,hx1,hx0,hG,hH,hp,j1,j2,j3,j4,hset,hlX,hlQ];(repeat refine aI ?_);apply hK;clear hK K)|((first|refine ax rfl (fun K hK=>?_)|refine ak (fun K hK=>?_)|refine aJ (fun K hK=>?_));(first|apply iq);simp-dsimp(disch:=try exact vD) only[push_cast,simprocAttr,gd0,hvz,htz,hn1,i1,i2,er,er1,hvt2,hd0,htop,hsec,hQr,tQ,tX,a1s,a2s,hc1,hc2,hc3,hx2,hx1,hx0,hG,hH,hp,j1,j2,j3,j4,hset,hlX,hlQ];(repeat refine aI ?_);apply hK;clear hK K)|((first|refine ax rfl (fun K hK=>?_)|refine ak (fun K hK=>?_)|refine aJ (fun K hK=>?_));(first|apply jP);simp-dsimp(disch:=try exact vD) only[push_cast,simprocAttr,gd0,hvz,htz,hn1,i1,i2,er,er1,hvt2,hd0,htop,hsec,hQr,tQ,tX,a1s,a2s,hc1,hc2,hc3,hx2,hx1,hx0,hG,hH,hp,j1,j2,j3,j4,hset,hlX,hlQ];(repeat refine aI ?_);apply hK;clear hK K)|((first|refine aK rfl rfl (fun K1 K2 h1 h2=>?_) rfl|refine aF (fun K1 K2 h1 h2=>?_)|refine cO rfl rfl (fun K1 K2 h1 h2=>?_));simp-dsimp(disch:=try exact vD) only[push_cast,simprocAttr,gd0,hvz,htz,hn1,i1,i2,er,er1,hvt2,hd0,htop,hsec,hQr,tQ,tX,a1s,a2s,hc1,hc2,hc3,hx2,hx1,hx0,hG,hH,hp,j1,j2,j3,j4,hset,hlX,hlQ];(first|(refine⟨fun hc=>?_,fun hc=>?_⟩<;>first|(exfalso;omega)|(exfalso;contradiction)|refine h1 ?_|refine h2 ?_)|refine h1 ?_|refine h2 ?_);all_goals clear h1 h2 K1 K2)|(refine dw (id:=9) (by kernel_rfl) [⟨0,[],[62,63,67,68,69,70,71,72],[],[],0⟩,⟨1,[],[61,67,68,69,70,71,72],[],[],0⟩,⟨2,[1],[61,67,68,69,70,71,72],[],[],0⟩,⟨3,[0,1,2],[67,68,69,70,71,72],[],[],0⟩,⟨4,[0,1,2,3],[67,68,69,70,71,72],[],[],0⟩,⟨5,[0,1,2,3,4],[67,68,69,70,71,72],[],[],0⟩,⟨6,[],[12,61,62,63,64,65,66,68,69],[],[],0⟩,⟨7,[],[12,61,62,63,64,65,66,67],[],[],0⟩,⟨8,[7],[12,61,62,63,64,65,66,67],[],[],0⟩,⟨9,[6,7,8],[12,61,62,63,64,65,66],[],[],0⟩,⟨10,[6,7,8,9],[12,61,62,63,64,65,66],[],[],0⟩,⟨11,[6,7,8,9,10],[12,61,62,63,64,65,66],[],[],0⟩,⟨12,[0,1,2,3,4,5],[67,68,69,70,71,72],[],[],0⟩,⟨13,[0,1,2,3,4,5,6,7,8,9,10,11,12],[],[],[],0⟩] (by kernel_rfl) (by kernel_rfl) (by kernel_rfl) ?_)|(refine dw (id:=14) (by kernel_rfl) [⟨0,[],[88,89,90,95,96,97,98,99,100,101,102],[],[],0⟩,⟨1,[],[87,89,95,96,97,98,99,100,101,102],[],[],0⟩,⟨2,[],[87,88,95,96,97,98,99,100,101,102],[],[],0⟩,⟨3,[1,2],[87,95,96,97,98,99,100,101,102],[],[],0⟩,⟨4,[0,1,2,3],[95,96,97,98,99,100,101,102],[],[],0⟩,⟨5,[0,1,2,3,4],[95,96,97,98,99,100,101,102],[],[],0⟩,⟨6,[0,1,2,3,4,5],[95,96,97,98,99,100,101,102],[],[],0⟩,⟨7,[0,1,2,3,4,5,6],[95,96,97,98,99,100,101,102],[],[],0⟩,⟨8,[],[87,88,89,90,91,92,93,94,96,97,98,99],[],[],0⟩,⟨9,[],[87,88,89,90,91,92,93,94,95,97],[],[],0⟩,⟨10,[],[87,88,89,90,91,92,93,94,95,96],[],[],0⟩,⟨11,[9,10],[87,88,89,90,91,92,93,94,95],[],[],0⟩,⟨12,[9,10,11],[87,88,89,90,91,92,93,94,95],[],[],0⟩,⟨13,[8,9,10,11,12],[87,88,89,90,91,92,93,94],[],[],0⟩,⟨14,[8,9,10,11,12,13],[87,88,89,90,91,92,93,94],[],[],0⟩,⟨15,[8,9,10,11,12,13,14],[87,88,89,90,91,92,93,94],[],[],0⟩,⟨16,[0,1,2,3,4,5,6,7,8,9,10,11,12,13,14,15],[],[],[],0⟩,⟨17,[0,1,2,3,4,5,6,7,8,9,10,11,12,13,14,15,16],[],[],[],0⟩] (by kernel_rfl) (by kernel_rfl) (by kernel_rfl) ?_)|(refine dw (id:=15) (by kernel_rfl) [⟨0,[],[105,107,108,109],[],[],0⟩,⟨1,[],[104,107,108,109],[],[],0⟩,⟨2,[0,1],[107,108,109],[],[],0⟩,⟨3,[],[17,104,105,106,108],[],[],0⟩,⟨4,[],[17,104,105,106,107],[],[],0⟩,⟨5,[3,4],[17,104,105,106],[],[],0⟩,⟨6,[0,1,2],[107,108,109],[],[],0⟩,⟨7,[0,1,2,3,4,5,6],[],[],[],0⟩] (by kernel_rfl) (by kernel_rfl) (by kernel_rfl) ?_)|((first|refine iP (by kernel_rfl) (fun K hK=>?_)|refine kI (by kernel_rfl) (fun K hK=>?_));simp only[↓Go.Sy.fH,↓Go.Sy.fI,↓Go.Sy.ig,↓Go.Sy.fJ,↓Go.Sy.ik,↓Go.Sy.eT,↓Go.Sy.fK,push_cast,Nat.reduceLeDiff,Nat.reduceSub,Nat.reduceBEq,Nat.reduceEqDiff,Nat.reduceAdd,Nat.reduceLT,↓reduceIte,reduceCtorEq];refine hK _ _ _ ?_;clear hK K)|apply pY|apply cu|apply aL|apply bH|apply aX|apply aM|apply bI|apply aY|(refine aQ rfl ?_)|apply aZ|apply bG|apply bF|apply bY)
 all_goals first
  |((refine Ends.mk2 (by first|exact .inr rfl|exact .inl rfl) [] ?_;simp-dsimp(disch:=try exact vD) only[push_cast,simprocAttr,Tryz.f190];try exact zqF);done)
  |skip
end Go.Proofs.YtgmpdplpodemaaaGreatDoor
set_option maxHeartbeats 4000000
namespace Go.Proofs.YtgmpdplpodemaaaGreatDoor
open Go Go.Sy Go.Bp Go.Lm
attribute [local irreducible] AO AL AC OpT ACall Ends DGo aN Thn Blk Nxt
variable {n N M k i m j:Nat} {z z' neg nx ny:Bool} {l a b P Lx Ly:List Int} {v x y e:Int} {W:IV}
def rI(v:Int):IV:=if v.natAbs<10^300 then iC v else iC 0
def rE(v:Int):Int:=if v.natAbs<10^300 then 0 else 3
abbrev rV(v:Int):AV:= .tup [.agg (aa.cells (rI v)),.val (.int .i64 (rE v))]
theorem qc(h:D300 v):rI v=iC v:=if_pos h
theorem qf(h:D300 v):rE v=0:=if_pos h
theorem Be:(sg neg v).natAbs=v.natAbs:=by unfold sg;split<;>omega
theorem iB(hi:Lim l)(hl:l.length=n)(hn:n<2^47)(hz:z=true→l=[])(hv:sg neg (val l)=v):ACall Tryz.prog 191 [.val (.bool neg),.isl z (cI .u32 l) n] [] 0 (rV v) []:=by
 subst hv
 by_cases h:D300 (val l)
 ·have h2:D300 (sg neg (val l)):=by unfold D300;rw[Be];exact h
  unfold rV
  rw[qc h2,qf h2]
  exact KP hi hl hn hz h
 ·have h2:¬(sg neg (val l)).natAbs<10^300:=by rw[Be];exact h
  unfold rV rI rE
  rw[if_neg h2,if_neg h2]
  exact Gd hi hl hn h
theorem Vx(ha:Lim a)(hb:Lim b)(h1:a.length<2^39)(h2:b.length<2^39):∃P,Lim P∧val P=val a+val b∧P.length<2^47∧ACall Tryz.prog 216 [.isl z (cI .u32 a) a.length,.isl z' (cI .u32 b) b.length] [] 0 (.isl false (cI .u32 P) P.length) []:=by
 rcases Nat.lt_or_ge a.length b.length with h|h
 ·obtain⟨p1,p2⟩:=IB hb ha (by omega)
  refine⟨nY b a,p1,by rw[p2];omega,by rw[oZ];omega,?_⟩
  rw[oZ]
  exact aaP hb ha rfl rfl h (by omega)
 ·obtain⟨p1,p2⟩:=IB ha hb h
  refine⟨nY a b,p1,p2,by rw[oZ];omega,?_⟩
  rw[oZ]
  exact aaO ha hb rfl rfl h (by omega)
theorem KR(hne:nx=ny)(hp:ACall Tryz.prog 216 [.isl z (cI .u32 Lx) n,.isl z' (cI .u32 Ly) m] [] 0 (.isl false (cI .u32 P) k) [])(hr:ACall Tryz.prog 191 [.val (.bool nx),.isl false (cI .u32 P) k] [] 0 (.tup [.agg (aa.cells W),.val (.int .i64 e)]) []):
 ACall Tryz.prog 204 [.agg [.val (.bool nx),.isl z (cI .u32 Lx) n],.agg [.val (.bool ny),.isl z' (cI .u32 Ly) m]] [] 0 (.tup [.agg (aa.cells W),.val (.int .i64 e)]) []:=by
 subst hne
 have hp:=PLift.up hp;have hr:=PLift.up hr
 rcases Bool.eq_false_or_eq_true nx with hnx|hnx
 all_goals subst hnx
 all_goals(refine az Tryz.func204 Tryz.ntmps204 rfl ?_)
 all_goals repeat' (first|refine zqN ?_|refine aT hp.down ?_|refine aT hr.down ?_|refine bA ?_|refine bB ?_|(refine bC ?_ ?_<;>intro hc<;>try exact zqM)|refine zqR 2 [⟨0,[],[14,15,16,17,18],[],[],0⟩,⟨1,[0],[14,15,16,17,18],[],[],0⟩,⟨2,[],[12,13,16,17],[],[],0⟩,⟨3,[2],[12,13,16,17],[],[],0⟩,⟨4,[],[12,13,14,15],[],[],0⟩,⟨5,[4],[12,13,14,15],[],[],0⟩,⟨6,[2,3,4,5],[12,13],[],[],0⟩,⟨7,[0,1,2,3,4,5,6],[],[],[],0⟩,⟨8,[0,1,2,3,4,5,6,7],[21],[],[],0⟩,⟨9,[0,1,2,3,4,5,6,7],[20],[],[],0⟩,⟨10,[0,1,2,3,4,5,6,7,8,9],[],[],[2],0⟩,⟨11,[0,1,2,3,4,5,6,7,8,9,10],[],[],[],0⟩] ?_|refine zqR 4 [⟨0,[],[31,32,33,34,35],[],[],0⟩,⟨1,[0],[31,32,33,34,35],[],[],0⟩,⟨2,[],[29,30,33,34],[],[],0⟩,⟨3,[2],[29,30,33,34],[],[],0⟩,⟨4,[],[29,30,31,32],[],[],0⟩,⟨5,[4],[29,30,31,32],[],[],0⟩,⟨6,[2,3,4,5],[29,30],[],[],0⟩,⟨7,[0,1,2,3,4,5,6],[],[],[],0⟩,⟨8,[0,1,2,3,4,5,6,7],[38],[],[],0⟩,⟨9,[0,1,2,3,4,5,6,7],[37],[],[],0⟩,⟨10,[0,1,2,3,4,5,6,7,8,9],[],[],[2],0⟩,⟨11,[0,1,2,3,4,5,6,7,8,9,10],[],[],[],0⟩] ?_|refine zqR 5 [⟨0,[],[41,42,43,44,45],[],[],0⟩,⟨1,[0],[41,42,43,44,45],[],[],0⟩,⟨2,[],[39,40,43,44],[],[],0⟩,⟨3,[2],[39,40,43,44],[],[],0⟩,⟨4,[],[39,40,41,42],[],[],0⟩,⟨5,[4],[39,40,41,42],[],[],0⟩,⟨6,[2,3,4,5],[39,40],[],[],0⟩,⟨7,[0,1,2,3,4,5,6],[],[],[],0⟩,⟨8,[0,1,2,3,4,5,6,7],[48],[],[],0⟩,⟨9,[0,1,2,3,4,5,6,7],[47],[],[],0⟩,⟨10,[0,1,2,3,4,5,6,7,8,9],[],[],[2],0⟩,⟨11,[0,1,2,3,4,5,6,7,8,9,10],[],[],[],0⟩] ?_|refine zqD ?_|fail)
 all_goals first
  |((refine Ends.mk2 zqI [] ?_;simp-dsimp(disch:=try exact vD) only[push_cast,simprocAttr,Tryz.f204];try exact zqF);done)
  |skip
theorem Vy{c:Int}(hne:¬nx=ny)(hc0:0≤c)(hcm:ACall Tryz.prog 192 [.isl z (cI .u32 Lx) n,.isl z' (cI .u32 Ly) m] [] 0 (.val (.int .i64 c)) [])(hp:ACall Tryz.prog 217 [.isl z (cI .u32 Lx) n,.isl z' (cI .u32 Ly) m] [] 0 (.isl false (cI .u32 P) k) [])(hr:ACall Tryz.prog 191 [.val (.bool nx),.isl false (cI .u32 P) k] [] 0 (.tup [.agg (aa.cells W),.val (.int .i64 e)]) []):
 ACall Tryz.prog 204 [.agg [.val (.bool nx),.isl z (cI .u32 Lx) n],.agg [.val (.bool ny),.isl z' (cI .u32 Ly) m]] [] 0 (.tup [.agg (aa.cells W),.val (.int .i64 e)]) []:=by
 have hp:=PLift.up hp;have hr:=PLift.up hr;have hcm:=PLift.up hcm
 rcases Bool.eq_false_or_eq_true nx with hnx|hnx<;>rcases Bool.eq_false_or_eq_true ny with hny|hny
 all_goals subst hnx
 all_goals subst hny
 all_goals first
  |(exact absurd rfl hne;done)
  |skip
 all_goals(refine az Tryz.func204 Tryz.ntmps204 rfl ?_)
 all_goals repeat' (first|refine zqN ?_|refine aT hcm.down ?_|refine aT hp.down ?_|refine aT hr.down ?_|refine bA ?_|refine bB ?_|(refine bC ?_ ?_<;>intro hc<;>try exact zqM)|refine zqR 2 [⟨0,[],[14,15,16,17,18],[],[],0⟩,⟨1,[0],[14,15,16,17,18],[],[],0⟩,⟨2,[],[12,13,16,17],[],[],0⟩,⟨3,[2],[12,13,16,17],[],[],0⟩,⟨4,[],[12,13,14,15],[],[],0⟩,⟨5,[4],[12,13,14,15],[],[],0⟩,⟨6,[2,3,4,5],[12,13],[],[],0⟩,⟨7,[0,1,2,3,4,5,6],[],[],[],0⟩,⟨8,[0,1,2,3,4,5,6,7],[21],[],[],0⟩,⟨9,[0,1,2,3,4,5,6,7],[20],[],[],0⟩,⟨10,[0,1,2,3,4,5,6,7,8,9],[],[],[2],0⟩,⟨11,[0,1,2,3,4,5,6,7,8,9,10],[],[],[],0⟩] ?_|refine zqR 4 [⟨0,[],[31,32,33,34,35],[],[],0⟩,⟨1,[0],[31,32,33,34,35],[],[],0⟩,⟨2,[],[29,30,33,34],[],[],0⟩,⟨3,[2],[29,30,33,34],[],[],0⟩,⟨4,[],[29,30,31,32],[],[],0⟩,⟨5,[4],[29,30,31,32],[],[],0⟩,⟨6,[2,3,4,5],[29,30],[],[],0⟩,⟨7,[0,1,2,3,4,5,6],[],[],[],0⟩,⟨8,[0,1,2,3,4,5,6,7],[38],[],[],0⟩,⟨9,[0,1,2,3,4,5,6,7],[37],[],[],0⟩,⟨10,[0,1,2,3,4,5,6,7,8,9],[],[],[2],0⟩,⟨11,[0,1,2,3,4,5,6,7,8,9,10],[],[],[],0⟩] ?_|refine zqR 5 [⟨0,[],[41,42,43,44,45],[],[],0⟩,⟨1,[0],[41,42,43,44,45],[],[],0⟩,⟨2,[],[39,40,43,44],[],[],0⟩,⟨3,[2],[39,40,43,44],[],[],0⟩,⟨4,[],[39,40,41,42],[],[],0⟩,⟨5,[4],[39,40,41,42],[],[],0⟩,⟨6,[2,3,4,5],[39,40],[],[],0⟩,⟨7,[0,1,2,3,4,5,6],[],[],[],0⟩,⟨8,[0,1,2,3,4,5,6,7],[48],[],[],0⟩,⟨9,[0,1,2,3,4,5,6,7],[47],[],[],0⟩,⟨10,[0,1,2,3,4,5,6,7,8,9],[],[],[2],0⟩,⟨11,[0,1,2,3,4,5,6,7,8,9,10],[],[],[],0⟩] ?_|refine zqD ?_|fail)
 all_goals first
  |((refine Ends.mk2 zqI [] ?_;simp-dsimp(disch:=try exact vD) only[push_cast,simprocAttr,Tryz.f204];try exact zqF);done)
  |skip
theorem Vz{c:Int}(hne:¬nx=ny)(hc0:¬0≤c)(hcm:ACall Tryz.prog 192 [.isl z (cI .u32 Lx) n,.isl z' (cI .u32 Ly) m] [] 0 (.val (.int .i64 c)) [])(hp:ACall Tryz.prog 217 [.isl z' (cI .u32 Ly) m,.isl z (cI .u32 Lx) n] [] 0 (.isl false (cI .u32 P) k) [])(hr:ACall Tryz.prog 191 [.val (.bool ny),.isl false (cI .u32 P) k] [] 0 (.tup [.agg (aa.cells W),.val (.int .i64 e)]) []):
 ACall Tryz.prog 204 [.agg [.val (.bool nx),.isl z (cI .u32 Lx) n],.agg [.val (.bool ny),.isl z' (cI .u32 Ly) m]] [] 0 (.tup [.agg (aa.cells W),.val (.int .i64 e)]) []:=by
 have hp:=PLift.up hp;have hr:=PLift.up hr;have hcm:=PLift.up hcm
 rcases Bool.eq_false_or_eq_true nx with hnx|hnx<;>rcases Bool.eq_false_or_eq_true ny with hny|hny
 all_goals subst hnx
 all_goals subst hny
 all_goals first
  |(exact absurd rfl hne;done)
  |skip
 all_goals(refine az Tryz.func204 Tryz.ntmps204 rfl ?_)
 all_goals repeat' (first|refine zqN ?_|refine aT hcm.down ?_|refine aT hp.down ?_|refine aT hr.down ?_|refine bA ?_|refine bB ?_|(refine bC ?_ ?_<;>intro hc<;>try exact zqM)|refine zqR 2 [⟨0,[],[14,15,16,17,18],[],[],0⟩,⟨1,[0],[14,15,16,17,18],[],[],0⟩,⟨2,[],[12,13,16,17],[],[],0⟩,⟨3,[2],[12,13,16,17],[],[],0⟩,⟨4,[],[12,13,14,15],[],[],0⟩,⟨5,[4],[12,13,14,15],[],[],0⟩,⟨6,[2,3,4,5],[12,13],[],[],0⟩,⟨7,[0,1,2,3,4,5,6],[],[],[],0⟩,⟨8,[0,1,2,3,4,5,6,7],[21],[],[],0⟩,⟨9,[0,1,2,3,4,5,6,7],[20],[],[],0⟩,⟨10,[0,1,2,3,4,5,6,7,8,9],[],[],[2],0⟩,⟨11,[0,1,2,3,4,5,6,7,8,9,10],[],[],[],0⟩] ?_|refine zqR 4 [⟨0,[],[31,32,33,34,35],[],[],0⟩,⟨1,[0],[31,32,33,34,35],[],[],0⟩,⟨2,[],[29,30,33,34],[],[],0⟩,⟨3,[2],[29,30,33,34],[],[],0⟩,⟨4,[],[29,30,31,32],[],[],0⟩,⟨5,[4],[29,30,31,32],[],[],0⟩,⟨6,[2,3,4,5],[29,30],[],[],0⟩,⟨7,[0,1,2,3,4,5,6],[],[],[],0⟩,⟨8,[0,1,2,3,4,5,6,7],[38],[],[],0⟩,⟨9,[0,1,2,3,4,5,6,7],[37],[],[],0⟩,⟨10,[0,1,2,3,4,5,6,7,8,9],[],[],[2],0⟩,⟨11,[0,1,2,3,4,5,6,7,8,9,10],[],[],[],0⟩] ?_|refine zqR 5 [⟨0,[],[41,42,43,44,45],[],[],0⟩,⟨1,[0],[41,42,43,44,45],[],[],0⟩,⟨2,[],[39,40,43,44],[],[],0⟩,⟨3,[2],[39,40,43,44],[],[],0⟩,⟨4,[],[39,40,41,42],[],[],0⟩,⟨5,[4],[39,40,41,42],[],[],0⟩,⟨6,[2,3,4,5],[39,40],[],[],0⟩,⟨7,[0,1,2,3,4,5,6],[],[],[],0⟩,⟨8,[0,1,2,3,4,5,6,7],[48],[],[],0⟩,⟨9,[0,1,2,3,4,5,6,7],[47],[],[],0⟩,⟨10,[0,1,2,3,4,5,6,7,8,9],[],[],[2],0⟩,⟨11,[0,1,2,3,4,5,6,7,8,9,10],[],[],[],0⟩] ?_|refine zqD ?_|fail)
 all_goals first
  |((refine Ends.mk2 zqI [] ?_;simp-dsimp(disch:=try exact vD) only[push_cast,simprocAttr,Tryz.f204];try exact zqF);done)
  |skip
theorem IZ(h:D300 x)(h2:D300 y):ACall Tryz.prog 204 [.agg (aa.cells (iV z x)),.agg (aa.cells (iV z' y))] [] 0 (rV (x+y)) []:=by
 have f1:=h.few;have f2:=h2.few
 by_cases hne:decide (x<0)=decide (y<0)
 ·obtain⟨P,p1,p2,p3,p4⟩:=Vx (z:=z) (z':=z') (a:=lb x.natAbs) (b:=lb y.natAbs) lim_lb lim_lb (by omega) (by omega)
  rw[aW,aW] at p2
  refine KR hne p4 (iB p1 rfl (by omega) (fun h=>nomatch h) ?_)
  rw[p2];unfold sg
  show(if decide (x<0)=true then _ else _)=_
  by_cases hx:x<0
  ·rw[decide_eq_true hx] at hne
   have:=of_decide_eq_true hne.symm
   rw[decide_eq_true hx,if_pos rfl];omega
  ·rw[decide_eq_false hx] at hne
   have:=of_decide_eq_false hne.symm
   rw[decide_eq_false hx,if_neg (by simp)];omega
 ·have hcm:=lH (z:=z) (z':=z') (a:=lb x.natAbs) (b:=lb y.natAbs) lim_lb lim_lb ja ja (by omega) (by omega)
  rw[DC] at hcm
  have hxy:(x<0∧¬y<0)∨(¬x<0∧y<0):=by
   by_cases hx:x<0<;>by_cases hy:y<0
   ·rw[decide_eq_true hx,decide_eq_true hy] at hne;exact absurd rfl hne
   ·exact .inl ⟨hx,hy⟩
   ·exact .inr ⟨hx,hy⟩
   ·rw[decide_eq_false hx,decide_eq_false hy] at hne;exact absurd rfl hne
  have hlen:∀{p q:Nat},p≤q→(lb p).length≤(lb q).length:=fun{p q} hpq=>by
   refine Decidable.not_not.1 fun hc=>?_
   have:=uy (a:=lb q) (b:=lb p) lim_lb lim_lb ja (by omega)
   rw[aW,aW] at this;omega
  by_cases hge:y.natAbs≤x.natAbs
  ·have hm:=IY (z:=z) (z':=z') (a:=lb x.natAbs) (b:=lb y.natAbs) lim_lb lim_lb rfl rfl (hlen hge) (by omega) (by rw[aW,aW];omega)
   rw[aW,aW] at hm
   refine Vy hne (by unfold eF;repeat' split<;>try omega) hcm hm (iB lim_lb rfl (Nat.lt_of_le_of_lt (hlen (show _≤x.natAbs by omega)) (by omega)) (fun h=>nomatch h) ?_)
   rw[aW];unfold sg
   show(if decide (x<0)=true then _ else _)=_
   rcases hxy with⟨hx,hy⟩|⟨hx,hy⟩
   ·rw[decide_eq_true hx,if_pos rfl];omega
   ·rw[decide_eq_false hx,if_neg (by simp)];omega
  ·have hm:=IY (z:=z') (z':=z) (a:=lb y.natAbs) (b:=lb x.natAbs) lim_lb lim_lb rfl rfl (hlen (by omega)) (by omega) (by rw[aW,aW];omega)
   rw[aW,aW] at hm
   refine Vz hne (by unfold eF;repeat' split<;>try omega) hcm hm (iB lim_lb rfl (Nat.lt_of_le_of_lt (hlen (show _≤y.natAbs by omega)) (by omega)) (fun h=>nomatch h) ?_)
   rw[aW];unfold sg
   show(if decide (y<0)=true then _ else _)=_
   rcases hxy with⟨hx,hy⟩|⟨hx,hy⟩
   ·rw[decide_eq_false hy,if_neg (by simp)];omega
   ·rw[decide_eq_true hy,if_pos rfl];omega
theorem Pt(hck:ACall Tryz.prog 188 [.isl false [.val (.bool nx),.isl z (cI .u32 Lx) n,.val (.bool ny),.isl z' (cI .u32 Ly) m] 2] [] 0 (.val (.int .i64 0)) [])
 (hr:ACall Tryz.prog 204 [.agg [.val (.bool nx),.isl z (cI .u32 Lx) n],.agg [.val (.bool ny),.isl z' (cI .u32 Ly) m]] [] 0 (.tup [.agg (aa.cells W),.val (.int .i64 e)]) []):
 ACall Tryz.prog 214 [.agg [.val (.bool nx),.isl z (cI .u32 Lx) n],.agg [.val (.bool ny),.isl z' (cI .u32 Ly) m]] [] 0 (.tup [.agg (aa.cells W),.val (.int .i64 e)]) []:=by
 have hck:=PLift.up hck;have hr:=PLift.up hr
 refine az Tryz.func214 Tryz.ntmps214 rfl ?_
 repeat' (first|refine zqN ?_|((first|refine ax rfl (fun K hK=>?_)|refine ak (fun K hK=>?_));(first|refine ah (f:=188) [] 0 true ?_|refine ah (f:=204) [] 0 false ?_);refine nG ?_;(first|refine⟨_,_,hck.down,?_⟩|refine⟨_,_,hr.down,?_⟩);refine j5 ?_;apply hK;clear hK K)|refine bA ?_|refine bB ?_|(refine bC ?_ ?_<;>intro hc<;>try exact zqM))
 all_goals first
  |((refine Ends.mk2 zqI [] ?_;simp-dsimp(disch:=try exact vD) only[push_cast,simprocAttr,Tryz.f214];try exact zqF);done)
  |skip
theorem aaQ(h:D300 x)(h2:D300 y):ACall Tryz.prog 214 [.agg (aa.cells (iV z x)),.agg (aa.cells (iV z' y))] [] 0 (rV (x+y)) []:=Pt (uD h h2) (IZ h h2)
theorem Pv(hck:ACall Tryz.prog 188 [.isl false [.val (.bool nx),.isl z (cI .u32 Lx) n,.val (.bool ny),.isl z' (cI .u32 Ly) m] 2] [] 0 (.val (.int .i64 0)) [])
 (hr:ACall Tryz.prog 204 [.agg [.val (.bool nx),.isl z (cI .u32 Lx) n],.agg [.val (.bool (!ny&&decide (0<m))),.isl z' (cI .u32 Ly) m]] [] 0 (.tup [.agg (aa.cells W),.val (.int .i64 e)]) []):
 ACall Tryz.prog 179 [.agg [.val (.bool nx),.isl z (cI .u32 Lx) n],.agg [.val (.bool ny),.isl z' (cI .u32 Ly) m]] [] 0 (.tup [.agg (aa.cells W),.val (.int .i64 e)]) []:=by
 have hck:=PLift.up hck
 rcases Bool.eq_false_or_eq_true ny with hny|hny<;>rcases Nat.eq_zero_or_pos m with hm|hm
 all_goals subst hny
 all_goals first
  |(subst hm)
  |(rw[decide_eq_true hm] at hr;(try rw[show(!false&&true)=decide ((0:Int)<(m:Int)) from(decide_eq_true (by omega)).symm] at hr))
 all_goals have hr:=PLift.up hr
 all_goals(refine az Tryz.func179 Tryz.ntmps179 rfl ?_)
 all_goals repeat' (first|refine zqN ?_|((first|refine ax rfl (fun K hK=>?_)|refine ak (fun K hK=>?_));(first|refine ah (f:=188) [] 0 true ?_|refine ah (f:=204) [] 0 false ?_);refine nG ?_;(first|refine⟨_,_,hck.down,?_⟩|refine⟨_,_,hr.down,?_⟩);refine j5 ?_;apply hK;clear hK K)|refine bA ?_|refine bB ?_|(refine bC ?_ ?_<;>intro hc<;>try exact zqM))
 all_goals first
  |((refine Ends.mk2 zqI [] ?_;simp-dsimp(disch:=try exact vD) only[push_cast,simprocAttr,Tryz.f179];try exact zqF);done)
  |skip
theorem I1(h:D300 x)(h2:D300 y):ACall Tryz.prog 179 [.agg (aa.cells (iV z x)),.agg (aa.cells (iV z' y))] [] 0 (rV (x-y)) []:=by
 have h3:D300 (-y):=by unfold D300;rw[Int.natAbs_neg];exact h2
 have hr:=IZ (z:=z) (z':=z') h h3
 rw[←Int.sub_eq_add_neg] at hr
 refine Pv (uD h h2) ?_
 have e1:(!decide (y<0)&&decide (0<(lb y.natAbs).length))=decide (-y<0):=by
  have hl:(lb y.natAbs).length=0↔y=0:=by rw[List.length_eq_zero_iff,iZ];omega
  rw[Bool.eq_iff_iff]
  simp only[Bool.and_eq_true,Bool.not_eq_true',decide_eq_false_iff_not,decide_eq_true_eq]
  omega
 unfold iV at hr
 rw[Int.natAbs_neg,←e1] at hr
 exact hr
theorem Pw{q:Bool}(hq:(nx !=ny)=q)(hck:ACall Tryz.prog 188 [.isl false [.val (.bool nx),.isl z (cI .u32 Lx) n,.val (.bool ny),.isl z' (cI .u32 Ly) m] 2] [] 0 (.val (.int .i64 0)) [])
 (hp:ACall Tryz.prog 205 [.isl z (cI .u32 Lx) n,.isl z' (cI .u32 Ly) m] [] 0 (.isl false (cI .u32 P) k) []) (hr:ACall Tryz.prog 191 [.val (.bool q),.isl false (cI .u32 P) k] [] 0 (.tup [.agg (aa.cells W),.val (.int .i64 e)]) []):
 ACall Tryz.prog 181 [.agg [.val (.bool nx),.isl z (cI .u32 Lx) n],.agg [.val (.bool ny),.isl z' (cI .u32 Ly) m]] [] 0 (.tup [.agg (aa.cells W),.val (.int .i64 e)]) []:=by
 subst hq
 have hck:=PLift.up hck;have hp:=PLift.up hp
 rcases Bool.eq_false_or_eq_true nx with hnx|hnx<;>rcases Bool.eq_false_or_eq_true ny with hny|hny
 all_goals subst hnx
 all_goals subst hny
 all_goals have hr:=PLift.up hr
 all_goals(refine az Tryz.func181 Tryz.ntmps181 rfl ?_)
 all_goals repeat' (first|refine zqN ?_|((first|refine ax rfl (fun K hK=>?_)|refine ak (fun K hK=>?_)|refine aJ (fun K hK=>?_));(first|refine ah (f:=188) [] 0 true ?_|refine ah (f:=205) [] 0 false ?_|refine ah (f:=191) [] 0 false ?_);refine nG ?_;(first|refine⟨_,_,hck.down,?_⟩|refine⟨_,_,hp.down,?_⟩|refine⟨_,_,hr.down,?_⟩);refine j5 ?_;apply hK;clear hK K)|refine bA ?_|refine bB ?_|(refine bC ?_ ?_<;>intro hc<;>try exact zqM)|refine zqR 4 [⟨0,[],[17,18,20,21,22,23,24],[],[],0⟩,⟨1,[0],[17,18,20,21,22,23,24],[],[],0⟩,⟨2,[],[15,16,20,21,22,23,24],[],[],0⟩,⟨3,[2],[15,16,20,21,22,23,24],[],[],0⟩,⟨4,[0,1,2,3],[20,21,22,23,24],[],[],0⟩,⟨5,[],[15,16,17,18,19,22,23],[],[],0⟩,⟨6,[5],[15,16,17,18,19,22,23],[],[],0⟩,⟨7,[],[15,16,17,18,19,20,21],[],[],0⟩,⟨8,[7],[15,16,17,18,19,20,21],[],[],0⟩,⟨9,[5,6,7,8],[15,16,17,18,19],[],[],0⟩,⟨10,[0,1,2,3,4,5,6,7,8,9],[],[],[],0⟩,⟨11,[0,1,2,3,4,5,6,7,8,9,10],[27],[],[],0⟩,⟨12,[0,1,2,3,4,5,6,7,8,9,10],[26],[],[],0⟩,⟨13,[0,1,2,3,4,5,6,7,8,9,10,11,12],[],[],[2],0⟩,⟨14,[0,1,2,3,4,5,6,7,8,9,10,11,12,13],[],[],[],0⟩] ?_|refine zqD ?_|fail)
 all_goals first
  |((refine Ends.mk2 zqI [] ?_;simp-dsimp(disch:=try exact vD) only[push_cast,simprocAttr,Tryz.f181];try exact zqF);done)
  |skip
theorem aaR(h:D300 x)(h2:D300 y):ACall Tryz.prog 181 [.agg (aa.cells (iV z x)),.agg (aa.cells (iV z' y))] [] 0 (rV (x*y)) []:=by
 have f1:=h.few;have f2:=h2.few
 have ht:=Vw (z:=z) (z':=z') (a:=lb x.natAbs) (b:=lb y.natAbs) lim_lb lim_lb rfl rfl (by omega) (by omega)
 rw[aW,aW] at ht
 have hlen:(lb ((x.natAbs:Int)*y.natAbs).toNat).length<2^47:=by
  have e:((x.natAbs:Int)*y.natAbs).toNat=x.natAbs*y.natAbs:=by rw[←Int.natCast_mul,Int.toNat_natCast]
  rw[e]
  have:x.natAbs*y.natAbs<10^600:=Dy (s:=300) (t:=300) (u:=600) h h2 rfl
  have:=Gc this
  omega
 refine Pw rfl (uD h h2) ht (iB lim_lb rfl hlen (fun h=>nomatch h) ?_)
 have hnn:0≤(x.natAbs:Int)*y.natAbs:=Int.mul_nonneg (by omega) (by omega)
 rw[aW,Int.toNat_of_nonneg hnn]
 unfold sg
 show(if(decide (x<0) !=decide (y<0))=true then _ else _)=_
 have ea:∀t:Int,(t.natAbs:Int)=if t<0 then-t else t:=fun t=>by split<;>omega
 rw[ea x,ea y]
 by_cases hx:x<0<;>by_cases hy:y<0
 ·rw[decide_eq_true hx,decide_eq_true hy,if_pos hx,if_pos hy,if_neg (by simp),Int.neg_mul_neg]
 ·rw[decide_eq_true hx,decide_eq_false hy,if_pos hx,if_neg hy,if_pos (by rfl),Int.neg_mul,Int.neg_neg]
 ·rw[decide_eq_false hx,decide_eq_true hy,if_neg hx,if_pos hy,if_pos (by rfl),Int.mul_neg,Int.neg_neg]
 ·rw[decide_eq_false hx,decide_eq_false hy,if_neg hx,if_neg hy,if_neg (by simp)]
