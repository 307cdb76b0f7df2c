/- In10 In12 In8. No condition. -/
import Derived.Test.YtgmpdplpodemaaaGreatDoorInG6
set_option linter.all false
set_option maxHeartbeats 4000000
set_option maxRecDepth 20000
namespace Go.Proofs.YtgmpdplpodemaaaGreatDoor
section
open Go Go.Sy Go.Bp Go.Dg
attribute [local irreducible] AO AL AC OpT ACall Ends DGo aN Thn Blk Nxt
variable {n N k i m a b s v o r:Nat} {t:Ct} {x y:Ex} {L:List Ch} {p q:Nat→Bool} {z:Bool} {A:List Int} {c:Ch}
def aeM(A:List Int)(c:Ch):Nat→List Int
 |0=>A
 |1=>adE A c.f
 |_+2=>adE (adE A c.f) c.l
def aiA(c:Ch):List Int:=[c.f,c.l]
theorem afh:aeM A c 0=A:=rfl
structure FmOk(L:List Ch)(n r:Nat):Prop where
 len:L.length=n
 pos:0<n
 few:n≤8191
 root:r<n
 ok:∀i,i<n→ah0 (L.getD i default) i
 par:∀i,i<n→(adK (List.replicate n 0) L).getD i default=if i=r then 0 else 1
theorem aeD{B:Int}(h:∀j,0≤A.getD j default∧A.getD j default≤B)(k:Int):∀j,0≤(adE A k).getD j default∧(adE A k).getD j default≤B+1:=fun j=>by
 have h1:=h j;have h2:=h k.toNat
 unfold adE
 rw[List.getD_eq_getElem?_getD,List.getElem?_set]
 by_cases e:k.toNat=j
 ·rw[if_pos e]
  split
  ·show 0≤A.getD k.toNat default+1∧A.getD k.toNat default+1≤B+1
   omega
  ·show 0≤(0:Int)∧(0:Int)≤B+1
   omega
 ·rw[if_neg e,←List.getD_eq_getElem?_getD];omega
theorem ag1{B:Int}(h:∀j,0≤A.getD j default∧A.getD j default≤B):∀j,0≤(afr A c).getD j default∧(afr A c).getD j default≤B+2:=fun j=>by
 unfold afr
 split
 ·have:=h j;omega
 ·have:=aeD (aeD h c.f) c.l j;omega
theorem ag2:∀(L:List Ch) (A:List Int) (B:Int),(∀j,0≤A.getD j default∧A.getD j default≤B)→∀j,0≤(adK A L).getD j default∧(adK A L).getD j default≤B+2*L.length:=by
 intro L
 induction L with
 |nil=>intro A B h j;have:=h j;simp only[adK,List.length_nil];omega
 |cons c L ih=>
  intro A B h j
  have:=ih (afr A c) (B+2) (ag1 h) j
  simp only[adK,List.length_cons];omega
theorem ahK:∀j,0≤(List.replicate n (0:Int)).getD j default∧(List.replicate n (0:Int)).getD j default≤0:=fun j=>by
 rw[List.getD_eq_getElem?_getD,List.getElem?_replicate]
 split<;>exact⟨Int.le_refl _,Int.le_refl _⟩
def fmP(L:List Ch)(n i:Nat):List Int:=adK (List.replicate n 0) (L.take i)
theorem afX:fmP L n 0=List.replicate n 0:=rfl
theorem aiB(h:i<L.length):fmP L n (i+1)=afr (fmP L n i) (L.getD i default):=by
 unfold fmP
 rw[List.take_add_one,aeU]
 simp[List.getD_eq_getElem?_getD,h,adK]
theorem ahL:(fmP L n i).length=n:=by unfold fmP;rw[aeV,List.length_replicate]
theorem ahM:∀j,0≤(fmP L n i).getD j default∧(fmP L n i).getD j default≤2*L.length:=fun j=>by
 have:=ag2 (L.take i) (List.replicate n 0) 0 ahK j
 have h2:(L.take i).length≤L.length:=by rw[List.length_take];exact Nat.min_le_right _ _
 unfold fmP;omega
theorem ahN(h:L.length=n):fmP L n n=adK (List.replicate n 0) L:=by unfold fmP;rw[←h,List.take_length]
def foI(z:Bool)(L:List Ch)(n r:Nat)(i:{i:Nat // i≤n}):St:=
 ⟨111,0,[(1,.pt 0 0),(3,.val (.int .i64 n)),(4,.sl 1 0 n 1),(34,.isl z (cR L) n),(35,.val (.int .i64 n)),(36,.val (.int .i64 i.val))],[(0,some (.cells [.isl z (cR L) n,.val (.int .i64 r)] 73)),(1,some (.cells (cI .i64 (fmP L n i.val)) 3))]⟩
def foQ(z:Bool)(L:List Ch)(n r i:Nat)(c:Ch)(A:List Int)(q:{q:Nat // q≤2}):St:=
 ⟨111,0,[(1,.pt 0 0),(3,.val (.int .i64 n)),(4,.sl 1 0 n 1),(5,.val (.int .i64 i)),(34,.isl z (cR L) n),(35,.val (.int .i64 n)),(36,.val (.int .i64 i)),(71,.sl 2 0 2 1),(72,.val (.int .i64 2)),(73,.val (.int .i64 q.val))],
   [(0,some (.cells [.isl z (cR L) n,.val (.int .i64 r)] 73)),(1,some (.cells (cI .i64 (aeM A c q.val)) 3)),(2,some (.cells (cI .i64 [c.f,c.l]) 3))]⟩
def foK(z:Bool)(L:List Ch)(n r:Nat)(A:List Int)(k:{k:Nat // k≤n}):St:=
 ⟨111,0,[(1,.pt 0 0),(92,.sl 1 0 n 1),(93,.val (.int .i64 n)),(94,.val (.int .i64 k.val))],[(0,some (.cells [.isl z (cR L) n,.val (.int .i64 r)] 73)),(1,some (.cells (cI .i64 A) 3))]⟩
theorem ag3:(aeM A c k).length=A.length:=by
 match k with
 |0=>rfl
 |1=>exact bump_len
 |_+2=>exact bump_len.trans bump_len
theorem ag4{B:Int}(h:∀j,0≤A.getD j default∧A.getD j default≤B):∀j,0≤(aeM A c k).getD j default∧(aeM A c k).getD j default≤B+2:=fun j=>by
 have h1:=h j;have h2:=aeD h c.f;have h3:=aeD h2 c.l j;have h2:=h2 j
 match k with
 |0=>exact⟨h1.1,by show A.getD j default≤B+2;omega⟩
 |1=>exact⟨h2.1,by show(adE A c.f).getD j default≤B+2;omega⟩
 |_+2=>exact⟨h3.1,by show(adE (adE A c.f) c.l).getD j default≤B+2;omega⟩
theorem agd(h:FmOk L n r):ACall Tryz.prog 69 [.agg [.isl z (cR L) n,.val (.int .i64 r)]] [] 0 (.val (.bool true)) []:=by
 have zx1:=h.len;have hpos:=h.pos;have hfew:=h.few;have hroot:=h.root
 have hnd:=fun(i:Nat) (hi:i<n)=>(h.ok i hi).ok
 have hpa:=fun(i:Nat) (hi:i<n)=>h.par i hi
 rw[←ahN zx1] at hpa
 have hfs:=fun(i:Nat) (hi:i<n)=>aiB (L:=L) (n:=n) (i:=i) (by omega)
 have hfl:=fun(i:Nat)=>ahL (L:=L) (n:=n) (i:=i)
 have hfr:=fun(i:Nat)=>ahM (L:=L) (n:=n) (i:=i)
 rw[zx1] at hfr
 clear h
 have zx2:=ae;have zx3:=ae;have zx4:=ae;have zx5:=ae;have zx6:=ae;have zx7:=ae;have zx8:=ae;have zx9:=ae;have zx10:=ae
 refine az Tryz.func69 Tryz.ntmps69 rfl ?_
 have zx11:= @afX;have zx12:= @SN;have zx13:= @afh;have zx14:= @adG;have zx15:=aD;have zx16:=aD;repeat' (first|(refine ai ?_;refine au [0,1,3] ([0,1,3].length) (foQ z L n r i c (fmP L n i)) (fun q=>2-q.val) (⟨0,by omega⟩) rfl (by unfold foQ;exact nC) ?_;(rintro⟨q,hq⟩;have zx10:=ag3 (A:=fmP L n i) (c:=c) (k:=q);rw[hfl i] at zx10;rcases Nat.lt_or_eq_of_le hq with hq2|hq2<;>first|(subst hq2;(simp-dsimp only[foQ];refine zqS ?_))|(have hrg:=ag4 (c:=c) (k:=q) (hfr i) ((aiA c).getD q default).toNat;rcases(by omega:q=0∨q=1) with e|e<;>subst e<;>first|(have zx5:(fmP L n i).set c.f.toNat ((fmP L n i).getD c.f.toNat default+1)=aeM (fmP L n i) c 1:=rfl;have hrg:0≤(fmP L n i).getD c.f.toNat default∧(fmP L n i).getD c.f.toNat default≤_:=hrg;(simp-dsimp only[foQ];refine zqS ?_))|(have zx5:(aeM (fmP L n i) c 1).set c.l.toNat ((aeM (fmP L n i) c 1).getD c.l.toNat default+1)=aeM (fmP L n i) c 2:=rfl;have hrg:0≤(aeM (fmP L n i) c 1).getD c.l.toNat default∧(aeM (fmP L n i) c 1).getD c.l.toNat default≤_:=hrg;(simp-dsimp only[foQ];refine zqS ?_)))))|(refine aj ?_;refine Nxt.mk [0,1,2] (⟨1,by omega⟩) rfl (by unfold foQ;(try simp only[List.cons_append,List.nil_append]);refine Sub.mk2 ?_;(simp-dsimp(disch:=try exact vD) only[push_cast,simprocAttr,zx1,zx2,zx3,zx4,zx5,zx6,zx7,zx8,zx9,zx10,afX,SN,afh,adG,zx5]);(repeat refine aI ?_);first|done|exact vI) zqO)|(refine aj ?_;refine Nxt.mk [0,1,2] (⟨2,by omega⟩) rfl (by unfold foQ;(try simp only[List.cons_append,List.nil_append]);refine Sub.mk2 ?_;(simp-dsimp(disch:=try exact vD) only[push_cast,simprocAttr,zx1,zx2,zx3,zx4,zx5,zx6,zx7,zx8,zx9,zx10,afX,SN,afh,adG,zx5]);(repeat refine aI ?_);first|done|exact vI) zqO)|(refine ai ?_;refine au [0,1] ([0,1].length) (foI z L n r) (fun i=>n-i.val) (⟨0,by omega⟩) rfl (by unfold foI;exact nC) ?_;(rintro⟨i,hi⟩;have hll:=hfl i;rcases Nat.lt_or_eq_of_le hi with hil|hil<;>first|(have eQ:=hil.symm;subst eQ;(simp-dsimp only[foI];refine zqS ?_))|(have hok:=hnd i hil;have zx4:=hfs i hil;generalize zx3:L.getD i default=c at hok zx4;rcases hok with⟨zx2,zx6,zx7⟩|⟨zx2,zx6,zx7⟩<;>first|(rcases zx2 with zx2|zx2<;>first|(have zx4:=zx4.trans (if_pos (by omega));(simp-dsimp only[foI];refine zqS ?_)))|(have zx4:fmP L n (i+1)=aeM (fmP L n i) c 2:=zx4.trans (if_neg (by omega));(simp-dsimp only[foI];refine zqS ?_)))))|(refine aj ?_;refine Nxt.mk [0,1] (⟨i+1,by omega⟩) rfl (by unfold foI;(try simp only[List.cons_append,List.nil_append]);refine Sub.mk2 ?_;(simp-dsimp(disch:=try exact vD) only[push_cast,simprocAttr,zx1,zx2,zx3,zx4,zx5,zx6,zx7,zx8,zx9,zx10,afX,SN,afh,adG,zx4]);(repeat refine aI ?_);first|done|exact vI) zqO)|(refine ai ?_;refine au [0,1] ([0,1].length) (foK z L n r (fmP L n n)) (fun k=>n-k.val) (⟨0,by omega⟩) rfl (by unfold foK;exact nC) ?_;(rintro⟨k,hk⟩;have hll:=hfl n;rcases Nat.lt_or_eq_of_le hk with hkl|hkl<;>first|(have eQ:=hkl.symm;subst eQ;(simp-dsimp only[foK];refine zqS ?_))|(have zx8:=hpa k hkl;rcases Decidable.em (k=r) with zx9|zx9<;>first|(have zx8:(fmP L n n).getD r default=0:=(by rw[←zx9];exact zx8.trans (if_pos zx9));(simp-dsimp only[foK];refine zqS ?_))|(have zx8:=zx8.trans (if_neg zx9);have zx9:¬(k:Int)=r:=(by omega);(simp-dsimp only[foK];refine zqS ?_)))))|(refine aj ?_;refine Nxt.mk [0,1] (⟨k+1,by omega⟩) rfl (by unfold foK;exact nC) zqO)|refine zqN ?_|refine NM ?_|refine NP ?_|(refine NQ ?_ ?_<;>intro hc<;>try exact zqM))
 all_goals first
  |((refine Ends.mk2 zqI [] ?_;simp-dsimp(disch:=try exact vD) only[push_cast,simprocAttr,Tryz.f69];try exact zqF);done)
  |skip
def ckA(z:Bool)(L:List Ch)(n r:Nat)(x y:Ex)(b0:Nat)(c:AV):List AV:=[.ipt [.isl z (cR L) n,.val (.int .i64 r)] 0,.ipt (aa.cells x) 0,.ipt (aa.cells y) 0,.ipt [.val (.int .u16 (U b0))] 0,c]
def ckO(z:Bool)(L:List Ch)(n r:Nat)(x y:Ex)(b0:Nat):List aC:=[.cells [.fn 70 (ckA z L n r x y b0 (.pt 0 0))] 128]
section
variable {b0:Nat} {d e:Nat} {X Y:Bool}
theorem ck_a(hk:k<n)(hn:L.length=n)(hb:n≤100000)(hc:L.getD k default=⟨-1,0,0⟩)(h1:ACall Tryz.prog 71 [.agg (aa.cells x),.val (.int .u16 (U (dJ 4095 b)))] [] 0 (.val (.bool false)) []):
 ACall Tryz.prog 70 (.val (.int .i64 k):: .val (.int .u16 (U a)):: .val (.int .u16 (U b))::ckA z L n r x y b0 (.pt 0 0)) (ckO z L n r x y b0) 1 (.val (.bool true)) (ckO z L n r x y b0):=by
 have h1:=PLift.up h1
 have zx1:uN 4095=4095:=rfl
 unfold ckO ckA
 refine az Tryz.func70 Tryz.ntmps70 rfl ?_
 have zx2:= @hc;have zx3:= @hn;have zx4:= @adG;have zx5:=aD;have zx6:=aD;repeat' (first|refine zqN ?_|refine qC h1.down ?_|refine adH ?_|refine l7 ?_|(refine l8 ?_ ?_<;>intro hc<;>try exact zqM))
 all_goals(refine Ends.mk2 zqI [0] ?_;simp-dsimp(disch:=try exact vD) only[push_cast,simprocAttr,Tryz.f70];try exact zqF)
theorem ck_b(hk:k<n)(hn:L.length=n)(hb:n≤100000)(hc:L.getD k default=⟨-2,0,0⟩)(h1:ACall Tryz.prog 71 [.agg (aa.cells y),.val (.int .u16 (U (dJ 4095 a)))] [] 0 (.val (.bool false)) []):
 ACall Tryz.prog 70 (.val (.int .i64 k):: .val (.int .u16 (U a)):: .val (.int .u16 (U b))::ckA z L n r x y b0 (.pt 0 0)) (ckO z L n r x y b0) 1 (.val (.bool true)) (ckO z L n r x y b0):=by
 have h1:=PLift.up h1
 have zx1:uN 4095=4095:=rfl
 unfold ckO ckA
 refine az Tryz.func70 Tryz.ntmps70 rfl ?_
 have zx2:= @hc;have zx3:= @hn;have zx4:= @adG;have zx5:=aD;have zx6:=aD;repeat' (first|refine zqN ?_|refine qC h1.down ?_|refine adH ?_|refine l7 ?_|(refine l8 ?_ ?_<;>intro hc<;>try exact zqM))
 all_goals(refine Ends.mk2 zqI [0] ?_;simp-dsimp(disch:=try exact vD) only[push_cast,simprocAttr,Tryz.f70];try exact zqF)
theorem ck_n(hk:k<n)(hn:L.length=n)(hb:n≤100000)(hc:L.getD k default=⟨i,d,e⟩)(hi:i<12)(hs:bP (2^i) (sor (sor b0 a) b)%65536=0)
 (h1:ACall Tryz.prog 70 (.val (.int .i64 d):: .val (.int .u16 (U (sor a (2^i)))):: .val (.int .u16 (U b))::ckA z L n r x y b0 (.pt 0 0)) (ckO z L n r x y b0) 1 (.val (.bool true)) (ckO z L n r x y b0))
 (h2:ACall Tryz.prog 70 (.val (.int .i64 e):: .val (.int .u16 (U a)):: .val (.int .u16 (U (sor b (2^i))))::ckA z L n r x y b0 (.pt 0 0)) (ckO z L n r x y b0) 1 (.val (.bool true)) (ckO z L n r x y b0)):
 ACall Tryz.prog 70 (.val (.int .i64 k):: .val (.int .u16 (U a)):: .val (.int .u16 (U b))::ckA z L n r x y b0 (.pt 0 0)) (ckO z L n r x y b0) 1 (.val (.bool true)) (ckO z L n r x y b0):=by
 have h1:=PLift.up h1;have h2:=PLift.up h2
 have zx1:uN 4095=4095:=rfl
 have zx4:¬(i:Int)= -1:=by omega
 have zx5:¬(i:Int)= -2:=by omega
 unfold ckO ckA at*
 refine az Tryz.func70 Tryz.ntmps70 rfl ?_
 have zx2:= @hc;have zx3:= @hn;have zx6:= @hs;have zx7:= @adG;have zx8:=aD;have zx9:=aD;repeat' (first|refine zqN ?_|((first|refine ax rfl (fun K hK=>?_)|refine ak (fun K hK=>?_));(first|refine jG (f:=70) (dst:=some 54) [0] 1 false ?_|refine jG (f:=70) (dst:=some 64) [0] 1 false ?_);refine NK ?_;(first|refine⟨_,_,h1.down,?_⟩|refine⟨_,_,h2.down,?_⟩);refine qD ?_;apply hK;clear hK K)|refine rJ ?_|refine rT ?_|(refine rU ?_ ?_<;>intro hc<;>try exact zqM))
 all_goals(refine Ends.mk2 zqI [0] ?_;simp-dsimp(disch:=try exact vD) only[push_cast,simprocAttr,Tryz.f70];try exact zqF)
theorem aih(hx:MOk x)(hy:MOk y)(hn:L.length=n)(hb:n≤100000):∀(t:Ct) (k a b:Nat),AtT L k t→Crt (kL x) (kL y) b0 a b t→
 ACall Tryz.prog 70 (.val (.int .i64 k):: .val (.int .u16 (U a)):: .val (.int .u16 (U b))::ckA z L n r x y b0 (.pt 0 0)) (ckO z L n r x y b0) 1 (.val (.bool true)) (ckO z L n r x y b0):=by
 intro t
 induction t with
 |a=>
  intro k a b h1 h2
  have s1:=aeO (s:=dJ 4095 b) hx afW
  have h2:kL x (dJ 4095 b)=false:=h2
  rw[h2] at s1
  exact ck_a (by have:=h1.2;omega) hn hb h1.1 s1
 |b=>
  intro k a b h1 h2
  have s1:=aeO (s:=dJ 4095 a) hy afW
  have h2:kL y (dJ 4095 a)=false:=h2
  rw[h2] at s1
  exact ck_b (by have:=h1.2;omega) hn hb h1.1 s1
 |n i l r i1 i2=>
  intro k a b h1 h2
  obtain⟨d,e,hc,hk,hd,he⟩:=h1
  obtain⟨h12,hs,c1,c2⟩:=h2
  exact ck_n (by omega) hn hb hc h12 hs (i1 _ _ _ hd c1) (i2 _ _ _ he c2)
theorem age(ht:ACall Tryz.prog 64 [.agg (aa.cells x),.agg (aa.cells y)] [] 0 (.val (.int .i64 0)) [])(hf:ACall Tryz.prog 69 [.agg [.isl z (cR L) n,.val (.int .i64 r)]] [] 0 (.val (.bool true)) [])
 (hc:ACall Tryz.prog 70 (.val (.int .i64 r):: .val (.int .u16 0):: .val (.int .u16 0)::ckA z L n r x y b0 (.pt 0 0)) (ckO z L n r x y b0) 1 (.val (.bool true)) (ckO z L n r x y b0)):
 ACall Tryz.prog 28 [.agg (aa.cells x),.agg (aa.cells y),.val (.int .u16 (U b0)),.agg [.isl z (cR L) n,.val (.int .i64 r)]] [] 0 (.val (.bool true)) []:=by
 have ht:=PLift.up ht;have hf:=PLift.up hf;have hc:=PLift.up hc
 unfold ckO ckA at*
 refine az Tryz.func28 Tryz.ntmps28 rfl ?_
 repeat' (first|((first|refine dP (r:=4) 0 ?_|refine dO (r:=4) 0 ?_);refine j5 ?_;intro K hK;refine hK _ _ ?_;clear hK K)|((first|refine dP (r:=4) 1 ?_|refine dO (r:=4) 1 ?_);refine j5 ?_;intro K hK;refine hK _ _ ?_;clear hK K)|((first|refine dP (r:=4) 2 ?_|refine dO (r:=4) 2 ?_);refine j5 ?_;intro K hK;refine hK _ _ ?_;clear hK K)|((first|refine dP (r:=4) 3 ?_|refine dO (r:=4) 3 ?_);refine j5 ?_;intro K hK;refine hK _ _ ?_;clear hK K)|refine zqN ?_|((first|refine ax rfl (fun K hK=>?_)|refine ak (fun K hK=>?_));(first|refine ah (f:=64) [] 0 false ?_|refine ah (f:=69) [] 0 false ?_|refine jG (f:=70) [4] 1 false ?_);refine nG ?_;(first|refine⟨_,_,ht.down,?_⟩|refine⟨_,_,hf.down,?_⟩|refine⟨_,_,hc.down,?_⟩);refine j5 ?_;apply hK;clear hK K)|refine bA ?_|refine bB ?_|(refine bC ?_ ?_<;>intro hc<;>try exact zqM))
 all_goals(refine Ends.mk2 zqI [] ?_;simp-dsimp(disch:=try exact vD) only[push_cast,simprocAttr,Tryz.f28];try exact zqF)
theorem agf(h:LbT t)(hs:szT t≤8191):FmOk (flT 0 t) (szT t) (szT t-1):=by
 have hp:=aaU t
 refine⟨PH t 0,hp,hs,by omega,fun i hi=>?_,fun i hi=>?_⟩
 ·have:=aia t 0 h i hi
  rw[Nat.zero_add] at this;exact this
 ·have:=parT t 0 (List.replicate (szT t) 0) (by simp) (fun j _ hj=>by rw[List.getD_eq_getElem?_getD,List.getElem?_replicate];split<;>rfl) i
  rw[this,Nat.zero_add]
  by_cases e:i=szT t-1
  ·rw[if_neg (by omega),if_pos e,List.getD_eq_getElem?_getD,List.getElem?_replicate,if_pos (by omega)];rfl
  ·rw[if_pos (by omega),if_neg e]
theorem agh(hx:MOk x)(hy:MOk y)(h1:LbT t)(h2:Crt (kL x) (kL y) b0 0 0 t)(hs:szT t≤8191):
 ACall Tryz.prog 28 [.agg (aa.cells x),.agg (aa.cells y),.val (.int .u16 (U b0)),.agg [.isl false (cR (flT 0 t)) (szT t),.val (.int .i64 ((szT t-1:Nat):Int))]] [] 0 (.val (.bool true)) []:=by
 refine age (afD hx hy) (agd (agf h1 hs)) ?_
 have hat:AtT (flT 0 t) (szT t-1) t:=by
  have:=atT (N:=flT 0 t) t [] [] (by simp)
  simpa using this
 exact aih hx hy (PH t 0) (by omega) t _ 0 0 hat h2
end
end
section
open Go Go.Sy Go.Bp Go.Dg
attribute [local irreducible] AO AL AC OpT ACall Ends DGo aN Thn Blk Nxt
variable {n N k i m a b s v o r S T:Nat} {t:Ct} {x y:Ex} {L M:List Ch} {p q:Nat→Bool} {z:Bool}
theorem aeK(hok:XOk x)(hN:x.nodes.length=N):ACall Tryz.prog 66 [.agg (aa.cells x)] [] 0 (.val (.int .u16 (U (svS x N)))) []:=by
 have hfew:=hok.few
 have hnd:=fun(j:Nat) (h:j<x.nodes.length)=>(hok.node j h).srv
 rw[hN] at hfew hnd
 have zx2:=ae;have zx3:=ae
 refine az Tryz.func66 Tryz.ntmps66 rfl ?_
 have zx1:= @hN;have zx4:= @afJ;have zx5:=aD;have zx6:=aD;repeat' (first|(refine ai ?_;refine au [0] ([0].length) (svI x N) (fun j=>N-j.val) (⟨0,by omega⟩) rfl (by unfold svI;exact gG) ?_;(rintro⟨j,hj⟩;rcases Nat.lt_or_eq_of_le hj with hjl|hjl<;>first|(have ej:N=j:=hjl.symm;subst ej;(simp-dsimp only[svI];refine zqS ?_))|(have hs1:=hnd j hjl;by_cases zx3:(x.nodes.getD j default).kind=1<;>first|(have zx2:=agE (x:=x) zx3;(simp-dsimp only[svI];refine zqS ?_))|(have zx2:=agF (x:=x) (j:=j) zx3;(simp-dsimp only[svI];refine zqS ?_)))))|(refine aj ?_;refine Nxt.mk [0] (⟨j+1,by omega⟩) rfl (by unfold svI;(try simp only[List.cons_append,List.nil_append]);refine Sub.mk2 ?_;(simp-dsimp(disch:=try exact vD) only[push_cast,simprocAttr,hN,zx2,zx3,afJ,zx2]);(repeat refine aI ?_);first|done|exact vI) zqO)|refine zqN ?_|refine adH ?_|refine l7 ?_|(refine l8 ?_ ?_<;>intro hc<;>try exact zqM))
 all_goals first
  |((refine Ends.mk2 zqI [] ?_;simp-dsimp(disch:=try exact vD) only[push_cast,simprocAttr,Tryz.f66];try exact zqF);done)
  |skip
theorem ahO(ht:ACall Tryz.prog 64 [.agg (aa.cells x),.agg (aa.cells y)] [] 0 (.val (.int .i64 0)) [])(h1:ACall Tryz.prog 66 [.agg (aa.cells x)] [] 0 (.val (.int .u16 (U S))) [])(h2:ACall Tryz.prog 66 [.agg (aa.cells y)] [] 0 (.val (.int .u16 (U T))) [])
 (hp:ACall Tryz.prog 65 [.pt 0 0,.val (.int .u16 0),.val (.int .u16 0),.val (.int .u16 (U (dJ (sor S T) b)))] (pvO x y []) 1 (.tup [.val (.int .i64 k),.val (.bool true)]) (pvO x y M)) (hM:M.length=n) (h0:0<n) (hn:n≤100000):
 ACall Tryz.prog 26 [.agg (aa.cells x),.agg (aa.cells y),.val (.int .u16 (U b))] [] 0 (.tup [.agg [.isl false (cR M) n,.val (.int .i64 k)],.val (.int .i64 0)]) []:=by
 rw[adS rfl,adF (by omega),hM] at hp
 have ht:=PLift.up ht;have h1:=PLift.up h1;have h2:=PLift.up h2;have hp:=PLift.up hp
 rw[VA] at*
 rw[VA] at*
 unfold pvC at*
 refine az Tryz.func26 Tryz.ntmps26 rfl ?_
 repeat' (first|refine zqN ?_|((first|refine ax rfl (fun K hK=>?_)|refine ak (fun K hK=>?_)|refine aJ (fun K hK=>?_));(first|refine ah (f:=64) [] 0 false ?_|refine ah (f:=66) (dst:=some 26) [] 0 false ?_|refine ah (f:=66) (dst:=some 28) [] 0 false ?_|refine ah (f:=65) [3] 1 false ?_);refine nG ?_;(first|refine⟨_,_,ht.down,?_⟩|refine⟨_,_,h1.down,?_⟩|refine⟨_,_,h2.down,?_⟩|refine⟨_,_,hp.down,?_⟩);refine j5 ?_;apply hK;clear hK K)|refine bA ?_|refine bB ?_|(refine bC ?_ ?_<;>intro hc<;>try exact zqM)|refine zqR 5 [⟨0,[],[25,26,27,28,29,30,31],[],[],0⟩,⟨1,[],[24,27,30],[],[],0⟩,⟨2,[1],[24,27,30],[],[],0⟩,⟨3,[],[24,25,26,30],[],[],0⟩,⟨4,[1,2,3],[24,30],[],[],0⟩,⟨5,[1,2,3,4],[24,30],[],[],0⟩,⟨6,[],[24,25,26,27,28,29],[],[],0⟩,⟨7,[1,2,3,4,5,6],[24],[],[],0⟩,⟨8,[0,1,2,3,4,5,6,7],[],[],[6],1⟩,⟨9,[0,1,2,3,4,5,6,7,8],[],[],[],0⟩,⟨10,[0,1,2,3,4,5,6,7,8,9],[34],[],[],0⟩,⟨11,[0,1,2,3,4,5,6,7,8,9],[10,33],[],[],0⟩,⟨12,[0,1,2,3,4,5,6,7,8,9,10],[34],[],[],0⟩,⟨13,[0,1,2,3,4,5,6,7,8,9,10,11,12],[],[],[],0⟩] ?_|refine zqD ?_|fail)
 all_goals first
  |(((refine Ends.frz 4 ?_;simp-dsimp(disch:=try exact vD) only[push_cast,simprocAttr,Tryz.f26];(repeat refine aI ?_);intro K hK;refine hK _ _ ?_;clear hK K);refine Ends.mk2 zqI [] ?_;simp-dsimp(disch:=try exact vD) only[push_cast,simprocAttr,Tryz.f26];try exact zqF);done)
  |skip
theorem ahP(ht:ACall Tryz.prog 64 [.agg (aa.cells x),.agg (aa.cells y)] [] 0 (.val (.int .i64 0)) [])(h1:ACall Tryz.prog 66 [.agg (aa.cells x)] [] 0 (.val (.int .u16 (U S))) [])(h2:ACall Tryz.prog 66 [.agg (aa.cells y)] [] 0 (.val (.int .u16 (U T))) [])
 (hp:ACall Tryz.prog 65 [.pt 0 0,.val (.int .u16 0),.val (.int .u16 0),.val (.int .u16 (U (dJ (sor S T) b)))] (pvO x y []) 1 (.tup [.val (.int .i64 k),.val (.bool false)]) (pvO x y M)):
 ACall Tryz.prog 26 [.agg (aa.cells x),.agg (aa.cells y),.val (.int .u16 (U b))] [] 0 (.tup [.agg [.isl true [] 0,.val (.int .i64 0)],.val (.int .i64 12)]) []:=by
 rw[adS (L:=[]) rfl] at hp
 have ht:=PLift.up ht;have h1:=PLift.up h1;have h2:=PLift.up h2
 rcases Nat.eq_zero_or_pos M.length with h0|h0
 ·rw[adS h0] at hp
  have hp:=PLift.up hp
  rw[VA] at*
  rw[VA] at*
  unfold pvC at*
  refine az Tryz.func26 Tryz.ntmps26 rfl ?_
  repeat' (first|refine zqN ?_|((first|refine ax rfl (fun K hK=>?_)|refine ak (fun K hK=>?_)|refine aJ (fun K hK=>?_));(first|refine ah (f:=64) [] 0 false ?_|refine ah (f:=66) (dst:=some 26) [] 0 false ?_|refine ah (f:=66) (dst:=some 28) [] 0 false ?_|refine ah (f:=65) [3] 1 false ?_);refine nG ?_;(first|refine⟨_,_,ht.down,?_⟩|refine⟨_,_,h1.down,?_⟩|refine⟨_,_,h2.down,?_⟩|refine⟨_,_,hp.down,?_⟩);refine j5 ?_;apply hK;clear hK K)|refine bA ?_|refine bB ?_|(refine bC ?_ ?_<;>intro hc<;>try exact zqM)|refine zqR 5 [⟨0,[],[25,26,27,28,29,30,31],[],[],0⟩,⟨1,[],[24,27,30],[],[],0⟩,⟨2,[1],[24,27,30],[],[],0⟩,⟨3,[],[24,25,26,30],[],[],0⟩,⟨4,[1,2,3],[24,30],[],[],0⟩,⟨5,[1,2,3,4],[24,30],[],[],0⟩,⟨6,[],[24,25,26,27,28,29],[],[],0⟩,⟨7,[1,2,3,4,5,6],[24],[],[],0⟩,⟨8,[0,1,2,3,4,5,6,7],[],[],[6],0⟩,⟨9,[0,1,2,3,4,5,6,7,8],[],[],[],0⟩,⟨10,[0,1,2,3,4,5,6,7,8,9],[34],[],[],0⟩,⟨11,[0,1,2,3,4,5,6,7,8,9],[10,33],[],[],0⟩,⟨12,[0,1,2,3,4,5,6,7,8,9,10],[34],[],[],0⟩,⟨13,[0,1,2,3,4,5,6,7,8,9,10,11,12],[],[],[],0⟩] ?_|refine zqD ?_|fail)
  all_goals first
   |((refine Ends.mk2 zqI [] ?_;simp-dsimp(disch:=try exact vD) only[push_cast,simprocAttr,Tryz.f26];try exact zqF);done)
   |skip
 ·rw[adF h0] at hp
  have hp:=PLift.up hp
  generalize M.length=n at*
  rw[VA] at*
  rw[VA] at*
  unfold pvC at*
  refine az Tryz.func26 Tryz.ntmps26 rfl ?_
  repeat' (first|refine zqN ?_|((first|refine ax rfl (fun K hK=>?_)|refine ak (fun K hK=>?_)|refine aJ (fun K hK=>?_));(first|refine ah (f:=64) [] 0 false ?_|refine ah (f:=66) (dst:=some 26) [] 0 false ?_|refine ah (f:=66) (dst:=some 28) [] 0 false ?_|refine ah (f:=65) [3] 1 false ?_);refine nG ?_;(first|refine⟨_,_,ht.down,?_⟩|refine⟨_,_,h1.down,?_⟩|refine⟨_,_,h2.down,?_⟩|refine⟨_,_,hp.down,?_⟩);refine j5 ?_;apply hK;clear hK K)|refine bA ?_|refine bB ?_|(refine bC ?_ ?_<;>intro hc<;>try exact zqM)|refine zqR 5 [⟨0,[],[25,26,27,28,29,30,31],[],[],0⟩,⟨1,[],[24,27,30],[],[],0⟩,⟨2,[1],[24,27,30],[],[],0⟩,⟨3,[],[24,25,26,30],[],[],0⟩,⟨4,[1,2,3],[24,30],[],[],0⟩,⟨5,[1,2,3,4],[24,30],[],[],0⟩,⟨6,[],[24,25,26,27,28,29],[],[],0⟩,⟨7,[1,2,3,4,5,6],[24],[],[],0⟩,⟨8,[0,1,2,3,4,5,6,7],[],[],[6],1⟩,⟨9,[0,1,2,3,4,5,6,7,8],[],[],[],0⟩,⟨10,[0,1,2,3,4,5,6,7,8,9],[34],[],[],0⟩,⟨11,[0,1,2,3,4,5,6,7,8,9],[10,33],[],[],0⟩,⟨12,[0,1,2,3,4,5,6,7,8,9,10],[34],[],[],0⟩,⟨13,[0,1,2,3,4,5,6,7,8,9,10,11,12],[],[],[],0⟩] ?_|refine zqD ?_|fail)
  all_goals first
   |((refine Ends.mk2 zqI [] ?_;simp-dsimp(disch:=try exact vD) only[push_cast,simprocAttr,Tryz.f26];try exact zqF);done)
   |skip
theorem ag5(hx:MOk x)(hy:MOk y)(hS:svS x x.nodes.length=S)(hT:svS y y.nodes.length=T):
 (∀t,prT (kL x) (kL y) 7 0 0 (dS S T b)=some t→ACall Tryz.prog 26 [.agg (aa.cells x),.agg (aa.cells y),.val (.int .u16 (U b))] [] 0 (.tup [.agg [.isl false (cR (flT 0 t)) (szT t),.val (.int .i64 ((szT t-1:Nat):Int))],.val (.int .i64 0)]) [])
 ∧(prT (kL x) (kL y) 7 0 0 (dS S T b)=none→ACall Tryz.prog 26 [.agg (aa.cells x),.agg (aa.cells y),.val (.int .u16 (U b))] [] 0 (.tup [.agg [.isl true [] 0,.val (.int .i64 0)],.val (.int .i64 12)]) []):=by
 have h1:=aeK hx.ok rfl;have h2:=aeK hy.ok rfl
 rw[hS] at h1;rw[hT] at h2
 have s1:=hx.s6;have s2:=hy.s6
 rw[hS] at s1;rw[hT] at s2
 have hl:=agM (b:=b) s1 s2
 have hp:=aig hx hy 7 0 0 (dS S T b) [] hl (afT _ hl) (by decide)
 rw[ah2] at hp
 constructor
 ·intro t ht
  have hsz:=afc _ _ _ _ _ ht
  rw[ae2 ht,ae3 ht,aeT ht] at hp
  have hpos:=aaU t
  simp only[List.length_nil,Nat.zero_add,List.nil_append] at hp
  exact ahO (M:=flT 0 t) (afD hx hy) h1 h2 hp (PH t 0) hpos (by omega)
 ·intro ht
  rw[ae4 ht] at hp
  exact ahP (afD hx hy) h1 h2 hp
end
section
open Go Go.Sy Go.Bp Go.Dg
attribute [local irreducible] AO AL AC OpT ACall Ends DGo aN Thn Blk Nxt
variable {n N k i m a b s v o:Nat} {x y:Ex} {t:Nd} {p:Pc} {l:List Pc} {z:Bool}
def suI(t:Nd)(k:{k:Nat // k≤t.k.length}):St:=
 ⟨18,0,[(1,.pt 0 0),(3,.val (.int .i64 (wtS t k.val))),(4,.val (.int .i64 k.val))],[(0,some (.cells (aa.cells t) 95))]⟩
theorem afE(hn:NOk t i)(hk:t.k.length≤1000):ACall Tryz.prog 62 [.agg (aa.cells t)] [] 0 (.val (.int .i64 (wtS t t.k.length))) []:=by
 have zx1:=ae
 refine az Tryz.func62 Tryz.ntmps62 rfl ?_
 have zx2:= @ahY;have zx3:=aD;repeat' (first|(refine ai ?_;refine au [0] ([0].length) (suI t) (fun k=>t.k.length-k.val) (⟨0,by omega⟩) rfl (by unfold suI;exact eH) ?_;(rintro⟨k,hk2⟩;have hr:=afQ hn k hk2;rcases Nat.lt_or_eq_of_le hk2 with hkl|hkl<;>first|(subst hkl;(simp-dsimp only[suI];refine zqS ?_))|(have hwr:=afa hn hkl;have zx1:wtS t k+wt t k=wtS t (k+1):=rfl;(simp-dsimp only[suI];refine zqS ?_))))|(refine aj ?_;refine Nxt.mk [0] (⟨k+1,by omega⟩) rfl (by unfold suI;(try simp only[List.cons_append,List.nil_append]);refine Sub.mk2 ?_;(simp-dsimp(disch:=try exact vD) only[push_cast,simprocAttr,zx1,ahY,zx1]);(repeat refine aI ?_);first|done|exact vI) zqO)|refine zqN ?_|refine eG (af7 hn (q:=k) (by omega) hk) ?_|refine dx ?_|refine dz ?_|(refine dA ?_ ?_<;>intro hc<;>try exact zqM))
 all_goals(refine Ends.mk2 zqI [] ?_;simp-dsimp(disch:=try exact vD) only[push_cast,simprocAttr,Tryz.f62];try exact zqF)
def maI(z:Bool)(l:List Pc)(N:Nat)(i:{i:Nat // i≤nM l}):St:=
 ⟨110,0,[(1,.pt 0 0),(2,.pt 1 0),(3,.pt 2 0),(4,.val (.int .i64 i.val))],[(0,some (.cells [.isl z (cR l) N] 68)),(1,some (.cells [.isl true [] 0,.val (.int .i64 0)] 50)),(2,some (.cells [gL i.val 3 5,.val (.int .i64 0)] 50))]++gM i.val 3 (cR (ze l i.val)) 95⟩
def whv(h:Bool)(k:Nat):Nat:=cond h k 0
theorem ae7:whv true k=k:=rfl
theorem ae8:whv false k=0:=rfl
def maK(z:Bool)(l:List Pc)(N i:Nat)(p:Pc)(k:{k:Nat // k≤kdM p}):St:=
 ⟨110,0,[(1,.pt 0 0),(2,.pt 1 0),(3,.pt 2 0),(4,.val (.int .i64 i)),(5,.pt 4 0),(6,.pt 5 0),(7,.val (.int .i64 k.val))],
   [(0,some (.cells [.isl z (cR l) N] 68)),(1,some (.cells [.isl true [] 0,.val (.int .i64 0)] 50)),(2,some (.cells [.sl 3 0 i 5,.val (.int .i64 0)] 50)),(3,some (.cells (cR (ze l i)) 95)),(4,some (.cells (aa.cells p) 117)),
    (5,some (.cells [.val (.int .i64 2),.val (.int .i64 0),.val (.int .i64 0),gL (whv p.hv k.val) 7 1,gL k.val 6 1] 95))]++gM k.val 6 (cI .i64 (adI p i k.val)) 3++gM (whv p.hv k.val) 7 (cI .i64 (adN p (whv p.hv k.val))) 3⟩
theorem aii:nM l≤9∧nM l≤l.length∧(nM l=l.length∨nM l=9):=by unfold nM;omega
theorem afi:kdM p≤5∧kdM p≤p.k.length∧(kdM p=p.k.length∨kdM p=5):=by unfold kdM;omega
theorem aij(h:l.length=0):afe l=⟨false,[⟨1,0,0,true,[],true,[]⟩],0⟩:=if_pos h
theorem aik(h:¬l.length=0):afe l=⟨false,ze l (nM l),((nM l:Nat):Int)-1⟩:=if_neg h
theorem ag6(h:i=0∨p.kind%3=0):aew p i=⟨1,p.server%6,0,true,[],true,[]⟩:=if_pos h
theorem agi(hp:l.getD i default=p)(h:p.kind%3=0):cR (ze l i)++[.val (.int .i64 1),.val (.int .i64 (p.server%6)),.val (.int .i64 0),.isl true [] 0,.isl true [] 0]=cR (ze l (i+1)):=by
 rw[←aeA,hp,ag6 (.inr h)];exact aeS
theorem afF(hp:l.getD i default=p)(h:i=0):[AV.val (.int .i64 1),.val (.int .i64 (p.server%6)),.val (.int .i64 0),.isl true [] 0,.isl true [] 0]=cR (ze l (i+1)):=by
 rw[←aeA,hp,ag6 (.inl h),ahx h];rfl
theorem ag7:adI p i k++[p.k.getD k default%(i:Int)]=adI p i (k+1):=agR
theorem agj(h:k=0):[AV.val (.int .i64 (p.k.getD k default%(i:Int)))]=cI .i64 (adI p i (k+1)):=by rw[←agR,agT h];rfl
theorem ag8:adN p k++[1+p.k.getD k default/16%4]=adN p (k+1):=agS
theorem agk(h:k=0):[AV.val (.int .i64 (1+p.k.getD k default/16%4))]=cI .i64 (adN p (k+1)):=by rw[←agS,agU h];rfl
theorem ag9(h:kdM p=0):aaT p i=⟨2,0,0,true,[],true,[]⟩:=by
 unfold aaT;rw[h,agT rfl,agU rfl];cases p.hv<;>rfl
theorem aha(h:0<kdM p)(hv:p.hv=false):aaT p i=⟨2,0,0,true,[],false,adI p i (kdM p)⟩:=by
 unfold aaT;rw[hv,zB h];rfl
theorem ahb(h:0<kdM p)(hv:p.hv=true):aaT p i=⟨2,0,0,false,adN p (kdM p),false,adI p i (kdM p)⟩:=by
 unfold aaT;rw[hv,zB h];rfl
theorem afG(h0:¬i=0)(h:¬p.kind%3=0):aew p i={aaT p i with need:=p.need%(wtS (aaT p i) (kdM p)+2)}:=if_neg (fun e=>e.elim h0 h)
theorem aeG:(aaT p i).k.length=kdM p:=kidL_len
theorem aiC(hp:adT p)(hi:0<i)(h:kdM p=0):ACall Tryz.prog 62 [.agg [.val (.int .i64 2),.val (.int .i64 0),.val (.int .i64 0),.isl true [] 0,.isl true [] 0]] [] 0 (.val (.int .i64 (wtS (aaT p i) (kdM p)))) []:=by
 have:=afE (aeB hp hi) (by rw[aeG,h];omega)
 rw[aeG] at this
 conv at this=>arg 3;rw[ag9 h]
 exact this
theorem aiD(hp:adT p)(hi:0<i)(h:0<kdM p)(hv:p.hv=false):ACall Tryz.prog 62 [.agg [.val (.int .i64 2),.val (.int .i64 0),.val (.int .i64 0),.isl true [] 0,.isl false (cI .i64 (adI p i (kdM p))) (kdM p)]] [] 0 (.val (.int .i64 (wtS (aaT p i) (kdM p)))) []:=by
 have:=afE (aeB hp hi) (by rw[aeG];have:=afi (p:=p);omega)
 rw[aeG] at this
 conv at this=>arg 3;rw[aha h hv,aeR]
 rw[kidL_len] at this
 exact this
theorem aiE(hp:adT p)(hi:0<i)(h:0<kdM p)(hv:p.hv=true):ACall Tryz.prog 62 [.agg [.val (.int .i64 2),.val (.int .i64 0),.val (.int .i64 0),.isl false (cI .i64 (adN p (kdM p))) (kdM p),.isl false (cI .i64 (adI p i (kdM p))) (kdM p)]] [] 0 (.val (.int .i64 (wtS (aaT p i) (kdM p)))) []:=by
 have:=afE (aeB hp hi) (by rw[aeG];have:=afi (p:=p);omega)
 rw[aeG] at this
 conv at this=>arg 3;rw[ahb h hv,aeR]
 rw[kidL_len,wgtL_len] at this
 exact this
theorem aiF(hp:l.getD i default=p)(h0:¬i=0)(h3:¬p.kind%3=0)(h:kdM p=0):cR (ze l i)++[.val (.int .i64 2),.val (.int .i64 0),.val (.int .i64 (p.need%(wtS (aaT p i) (kdM p)+2))),.isl true [] 0,.isl true [] 0]=cR (ze l (i+1)):=by
 rw[←aeA,hp,afG h0 h3]
 generalize wtS (aaT p i) (kdM p)=w
 rw[ag9 h];exact aeS
theorem aiG(hp:l.getD i default=p)(h0:¬i=0)(h3:¬p.kind%3=0)(h:0<kdM p)(hv:p.hv=false):cR (ze l i)++[.val (.int .i64 2),.val (.int .i64 0),.val (.int .i64 (p.need%(wtS (aaT p i) (kdM p)+2))),.isl true [] 0,.isl false (cI .i64 (adI p i (kdM p))) (kdM p)]=cR (ze l (i+1)):=by
 rw[←aeA,hp,afG h0 h3]
 generalize wtS (aaT p i) (kdM p)=w
 rw[aha h hv];exact af3 kidL_len.symm
theorem aiH(hp:l.getD i default=p)(h0:¬i=0)(h3:¬p.kind%3=0)(h:0<kdM p)(hv:p.hv=true):cR (ze l i)++[.val (.int .i64 2),.val (.int .i64 0),.val (.int .i64 (p.need%(wtS (aaT p i) (kdM p)+2))),.isl false (cI .i64 (adN p (kdM p))) (kdM p),.isl false (cI .i64 (adI p i (kdM p))) (kdM p)]=cR (ze l (i+1)):=by
 rw[←aeA,hp,afG h0 h3]
 generalize wtS (aaT p i) (kdM p)=w
 rw[ahb h hv];exact afI wgtL_len.symm kidL_len.symm
theorem ahQ(h:l.length=0):AV.agg (aa.cells (afe l))= .agg [.isl false [.val (.int .i64 1),.val (.int .i64 0),.val (.int .i64 0),.isl true [] 0,.isl true [] 0] 1,.val (.int .i64 0)]:=by rw[aij h];rfl
theorem ail(h:¬l.length=0):AV.agg (aa.cells (afe l))= .agg [.isl false (cR (ze l (nM l))) (nM l),.val (.int .i64 (((nM l:Nat):Int)-1))]:=by
 rw[aik h,VA]
 show AV.agg [.isl false (cR (ze l (nM l))) (ze l (nM l)).length,.val (.int .i64 (((nM l:Nat):Int)-1))]=_
 rw[aaS]
theorem aeH:(adI p i k).take k=adI p i k:=List.take_of_length_le (by rw[kidL_len];exact Nat.le_refl _)
theorem aeI:(adN p k).take k=adN p k:=List.take_of_length_le (by rw[wgtL_len];exact Nat.le_refl _)
theorem ahc:(ze l k).take k=ze l k:=List.take_of_length_le (by rw[aaS];exact Nat.le_refl _)
theorem ae9(hl:l.length=N)(hN:N<2^45)(hp:∀j,adT (l.getD j default)):ACall Tryz.prog 24 [.agg [.isl z (cR l) N]] [] 0 (.agg (aa.cells (afe l))) []:=by
 have hm:=aii (l:=l)
 rw[hl] at hm
 have zx2:=ae;have zx3:=ae;have zx4:=ae;have hst0:=ae;have zx5:=ae;have zx6:=ae;have zx7:=ae;have hg1:=ae;have hg2:=ae
 refine az Tryz.func24 Tryz.ntmps24 rfl ?_
 have zx1:= @hl;have zx8:= @adL;have zx9:= @aaS;have zx10:= @kidL_len;have zx11:= @wgtL_len;have zx12:= @ae7;have zx13:= @ae8;have zx14:= @aeH;have zx15:= @aeI;have zx16:=aD;repeat' (first|((first|refine dP (r:=15) 6 ?_|refine dO (r:=15) 6 ?_);refine acy ?_;intro K hK;refine hK _ _ ?_;clear hK K)|((first|refine dP (r:=15) 7 ?_|refine dO (r:=15) 7 ?_);refine acy ?_;intro K hK;refine hK _ _ ?_;clear hK K)|(refine ai ?_;refine au [0,1,2,3,4,5,98,99] ([0,1,2,3,4,5,98,99].length) (maK z l N i p) (fun k=>kdM p-k.val) (⟨0,by omega⟩) rfl (by unfold maK;exact nC) ?_;(rintro⟨k,hk⟩;have hkm:=afi (p:=p);rcases Nat.lt_or_eq_of_le hk with hkl|hkl<;>rcases Nat.eq_zero_or_pos k with hk0|hk0<;>first|(subst hkl;have hsr:=afs hpk h0;rcases Nat.lt_or_ge 5 p.k.length with h5|h5<;>first|(have hsum:=PLift.up (aiC (i:=i) hpk h0 hk0);have zx4:=aiF (i:=i) zx2 (by omega) zx3 hk0;(simp-dsimp only[maK];refine zqS ?_))|(have hsum:=PLift.up (aiD (i:=i) hpk h0 hk0 zx5);have zx4:=aiG (i:=i) zx2 (by omega) zx3 hk0 zx5;(simp-dsimp only[maK];refine zqS ?_))|(have hsum:=PLift.up (aiE (i:=i) hpk h0 hk0 zx5);have zx4:=aiH (i:=i) zx2 (by omega) zx3 hk0 zx5;(simp-dsimp only[maK];refine zqS ?_)))|(have hka:=hpk.k k;have hg1:=agj (p:=p) (i:=i) hk0;have hg2:=agk (p:=p) hk0;(simp-dsimp only[maK];refine zqS ?_))|(have hka:=hpk.k k;have zx6:=ag7 (p:=p) (i:=i) (k:=k);have zx7:=ag8 (p:=p) (k:=k);(simp-dsimp only[maK];refine zqS ?_))))|(refine aj ?_;refine Nxt.mk [0,1,2,3,4,5,9,11] (⟨k+1,by omega⟩) rfl (by unfold maK;(try simp only[List.cons_append,List.nil_append]);refine Sub.mk2 ?_;(simp-dsimp(disch:=try exact vD) only[push_cast,simprocAttr,hl,zx2,zx3,zx4,zx5,zx6,zx7,adL,aaS,kidL_len,wgtL_len,ae7,ae8,aeH,aeI,hg1,hg2]);(repeat refine aI ?_);first|done|exact vI) zqO)|(refine aj ?_;refine Nxt.mk [0,1,2,3,4,5,9,98] (⟨k+1,by omega⟩) rfl (by unfold maK;(try simp only[List.cons_append,List.nil_append]);refine Sub.mk2 ?_;(simp-dsimp(disch:=try exact vD) only[push_cast,simprocAttr,hl,zx2,zx3,zx4,zx5,zx6,zx7,adL,aaS,kidL_len,wgtL_len,ae7,ae8,aeH,aeI,hg1,hg2]);(repeat refine aI ?_);first|done|exact vI) zqO)|(refine ai ?_;refine au [0,1,2,9] ([0,1,2,9].length) (maI z l N) (fun i=>nM l-i.val) (⟨0,by omega⟩) rfl (by unfold maI;exact nC) ?_;(rintro⟨i,hi⟩;rcases Nat.lt_or_eq_of_le hi with hil|hil<;>first|(subst hil;rcases Nat.eq_zero_or_pos (nM l) with h0|h0<;>rcases Nat.lt_or_ge 9 N with h9|h9<;>(simp-dsimp only[maI];refine zqS ?_))|(have hpk:=hp i;generalize zx2:l.getD i default=p at hpk;have hp1:=hpk.kind;have hp2:=hpk.server;have hp3:=hpk.need;rcases Nat.eq_zero_or_pos i with h0|h0<;>first|(have hst0:=afF zx2 h0;(simp-dsimp only[maI];refine zqS ?_))|(rcases Decidable.em (p.kind%3=0) with zx3|zx3<;>first|(have zx4:=agi zx2 zx3;(simp-dsimp only[maI];refine zqS ?_))|(rcases Bool.eq_false_or_eq_true p.hv with zx5|zx5<;>(simp-dsimp only[maI];refine zqS ?_))))))|(refine aj ?_;refine Nxt.mk [0,1,2,6] (⟨i+1,by omega⟩) rfl (by unfold maI;(try simp only[List.cons_append,List.nil_append]);refine Sub.mk2 ?_;(simp-dsimp(disch:=try exact vD) only[push_cast,simprocAttr,hl,zx2,zx3,zx4,zx5,zx6,zx7,adL,aaS,kidL_len,wgtL_len,ae7,ae8,aeH,aeI,hst0]);(repeat refine aI ?_);first|done|exact vI) zqO)|(refine aj ?_;refine Nxt.mk [0,1,2,6] (⟨i+1,by omega⟩) rfl (by unfold maI;(try simp only[List.cons_append,List.nil_append]);refine Sub.mk2 ?_;(simp-dsimp(disch:=try exact vD) only[push_cast,simprocAttr,hl,zx2,zx3,zx4,zx5,zx6,zx7,adL,aaS,kidL_len,wgtL_len,ae7,ae8,aeH,aeI,zx4]);(repeat refine aI ?_);first|done|exact vI) zqO)|(refine aj ?_;refine Nxt.mk [0,1,2,9] (⟨i+1,by omega⟩) rfl (by unfold maI;(try simp only[List.cons_append,List.nil_append]);refine Sub.mk2 ?_;(simp-dsimp(disch:=try exact vD) only[push_cast,simprocAttr,hl,zx2,zx3,zx4,zx5,zx6,zx7,adL,aaS,kidL_len,wgtL_len,ae7,ae8,aeH,aeI,zx4]);(repeat refine aI ?_);first|done|exact vI) zqO)|refine zqN ?_|refine NN hsum.down ?_|refine NM ?_|refine ZM ?_|refine ZN ?_|refine ZO ?_|refine NP ?_|(refine NQ ?_ ?_<;>intro hc<;>try exact zqM)|refine zqR 12 [⟨0,[],[56,57,58,59,60,61,62,63,64],[],[],0⟩,⟨1,[0],[56,57,58,59,60,61,62,63,64],[],[],0⟩,⟨2,[],[54,55,58,62],[],[],0⟩,⟨3,[2],[54,55,58,62],[],[],0⟩,⟨4,[],[54,55,56,57,62],[],[],0⟩,⟨5,[2,3,4],[54,55,62],[],[],0⟩,⟨6,[2,3,4,5],[54,55,62],[],[],0⟩,⟨7,[2,3,4,5,6],[54,55,62],[],[],0⟩,⟨8,[],[54,55,56,57,58,59,60,61],[],[],0⟩,⟨9,[2,3,4,5,6,7,8],[54,55],[],[],0⟩,⟨10,[2,3,4,5,6,7,8,9],[54,55],[],[],1⟩,⟨11,[0,1,2,3,4,5,6,7,8,9,10],[],[],[2],1⟩,⟨12,[0,1,2,3,4,5,6,7,8,9,10,11],[],[],[],0⟩,⟨13,[0,1,2,3,4,5,6,7,8,9,10,11,12],[],[],[2],0⟩] ?_|refine zqR 14 [⟨0,[],[71,72,73,74,75,76,77,78,79,80],[],[],0⟩,⟨1,[0],[71,72,73,74,75,76,77,78,79,80],[],[],0⟩,⟨2,[],[69,70,73],[],[],0⟩,⟨3,[2],[69,70,73],[],[],0⟩,⟨4,[],[69,70,71,72],[],[],0⟩,⟨5,[2,3,4],[69,70],[],[],0⟩,⟨6,[2,3,4,5],[69,70],[],[],0⟩,⟨7,[2,3,4,5,6],[69,70],[],[],0⟩,⟨8,[2,3,4,5,6,7],[69,70],[],[],0⟩,⟨9,[2,3,4,5,6,7,8],[69,70],[],[],0⟩,⟨10,[2,3,4,5,6,7,8,9],[69,70],[],[],0⟩,⟨11,[2,3,4,5,6,7,8,9,10],[69,70],[],[],1⟩,⟨12,[0,1,2,3,4,5,6,7,8,9,10,11],[],[],[2],1⟩,⟨13,[0,1,2,3,4,5,6,7,8,9,10,11,12],[],[],[],0⟩,⟨14,[0,1,2,3,4,5,6,7,8,9,10,11,12,13],[],[],[2],0⟩] ?_|refine zqR 15 [⟨0,[],[86,87,88],[],[],0⟩,⟨1,[0],[86,87,88],[],[],0⟩,⟨2,[0,1],[86,87,88],[],[],0⟩,⟨3,[],[83,84,85],[],[],0⟩,⟨4,[3],[83,84,85],[],[],0⟩,⟨5,[3,4],[83,84,85],[],[],0⟩,⟨6,[0,1,2,3,4,5],[],[],[],0⟩,⟨7,[0,1,2,3,4,5,6],[],[],[],0⟩,⟨8,[0,1,2,3,4,5,6,7],[],[],[2],0⟩] ?_|refine zqD ?_|fail)
 all_goals first
  |(rw[ahQ (by omega)];((refine Ends.frz 4 ?_;simp-dsimp(disch:=try exact vD) only[push_cast,simprocAttr,Tryz.f24];(repeat refine aI ?_);intro K hK;refine hK _ _ ?_;clear hK K);refine Ends.mk2 zqI [] ?_;simp-dsimp(disch:=try exact vD) only[push_cast,simprocAttr,Tryz.f24];try exact zqF);done)
  |(rw[ail (by omega)];((refine Ends.frz 3 ?_;simp-dsimp(disch:=try exact vD) only[push_cast,simprocAttr,Tryz.f24,aaS,ahc];(repeat refine aI ?_);intro K hK;refine hK _ _ ?_;clear hK K);refine Ends.mk2 zqI [] ?_;simp-dsimp(disch:=try exact vD) only[push_cast,simprocAttr,Tryz.f24,aaS,ahc];try exact zqF);done)
  |skip
end
