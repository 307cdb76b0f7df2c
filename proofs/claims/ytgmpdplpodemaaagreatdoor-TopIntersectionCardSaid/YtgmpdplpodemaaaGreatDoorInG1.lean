/- In1 In2 In5 In3. No condition. -/
import Derived.Test.YtgmpdplpodemaaaGreatDoorTmG1
set_option linter.all false
set_option maxHeartbeats 4000000
set_option maxRecDepth 20000
namespace Go.Proofs.YtgmpdplpodemaaaGreatDoor
section
open Go Go.Sy Go.Bp
attribute [local irreducible] AO AL AC OpT ACall Ends DGo aN Thn Blk Nxt
variable {n m i j k a b x y N:Nat} {z z':Bool} {f g:List Nat} {e:Int}
def vio(x b y:Nat):Bool:=decide (dJ (bP x y) b%65536=0)
def adQ(g:List Nat)(b x:Nat):Bool:=g.any (vio x b)
theorem aeJ:ACall Tryz.prog 63 [.val (.int .u16 (U x)),.val (.int .u16 (U y)),.val (.int .u16 (U b))] [] 0 (.val (.bool (vio x b y))) []:=by
 unfold vio
 refine az Tryz.func63 Tryz.ntmps63 rfl ?_
 repeat' (first|refine zqN ?_|refine bA ?_|refine bB ?_|(refine bC ?_ ?_<;>intro hc<;>try exact zqM))
 all_goals(refine Ends.mk2 zqI [] ?_;simp-dsimp(disch:=try exact vD) only[push_cast,simprocAttr,Tryz.f63];try exact zqF)
theorem aeZ(hj:j<g.length){p:Nat→Bool}(h:p (g.getD j default)=true):g.any p=true:=by
 rw[List.any_eq_true]
 refine⟨g.getD j default,?_,h⟩
 rw[List.getD_eq_getElem?_getD,List.getElem?_eq_getElem hj];exact List.getElem_mem hj
theorem ae0{p:Nat→Bool}(h:∀j,j<g.length→p (g.getD j default)=false):g.any p=false:=by
 rw[List.any_eq_false]
 intro x hx
 obtain⟨j,hj,rfl⟩:=List.mem_iff_getElem.1 hx
 have:=h j hj
 rw[List.getD_eq_getElem?_getD,List.getElem?_eq_getElem hj] at this
 simpa using this
def faI(z:Bool)(f:List Nat)(n:Nat)(z':Bool)(g:List Nat)(m b:Nat)(i:{i:Nat // i≤n∧∀k,k<i→adQ g b (f.getD k default)=false}):St:=
 ⟨29,0,[(1,.isl z' (cX g) m),(2,.val (.int .u16 (U b))),(11,.isl z (cX f) n),(12,.val (.int .i64 n)),(13,.val (.int .i64 i.val))],[]⟩
def faJ(z:Bool)(f:List Nat)(n:Nat)(z':Bool)(g:List Nat)(m b i:Nat)(j:{j:Nat // j≤m∧∀k,k<j→vio (f.getD i default) b (g.getD k default)=false}):St:=
 ⟨29,0,[(1,.isl z' (cX g) m),(2,.val (.int .u16 (U b))),(8,.val (.int .u16 (U (f.getD i default)))),(11,.isl z (cX f) n),(12,.val (.int .i64 n)),(13,.val (.int .i64 i)),(17,.isl z' (cX g) m),(18,.val (.int .i64 m)),(19,.val (.int .i64 j.val))],[]⟩
theorem adR(hl:f.length=n)(hg:g.length=m)(hn:n≤10000)(hm:m≤10000):ACall Tryz.prog 25 [.isl z (cX f) n,.isl z' (cX g) m,.val (.int .u16 (U b))] [] 0 (.val (.bool (!f.any (adQ g b)))) []:=by
 have zx1:=ae
 refine az Tryz.func25 Tryz.ntmps25 rfl ?_
 have zx2:= @bg;have zx3:=aD;repeat' (first|(refine ai ?_;refine au [] ([].length) (faJ z f n z' g m b i) (fun j=>m-j.val) (⟨0,by omega,fun k hk=>absurd hk (by omega)⟩) rfl (by unfold faJ;exact eH) ?_;(rintro⟨j,hj,hjb⟩;rcases Nat.lt_or_eq_of_le hj with hjl|hjl<;>first|(have eQ:=hjl.symm;subst eQ;have hix:adQ g b (f.getD i default)=false:=ae0 (by rw[hg];exact hjb);(simp-dsimp only[faJ];refine zqS ?_))|(rcases Bool.eq_false_or_eq_true (vio (f.getD i default) b (g.getD j default)) with zx1|zx1<;>(simp-dsimp only[faJ];refine zqS ?_))))|(refine aj ?_;refine Nxt.mk [] (⟨j+1,by omega,fun k hk=>by rcases Nat.lt_or_eq_of_le (Nat.le_of_lt_succ hk) with h|h;exact hjb k h;rw[h];exact zx1⟩) rfl (by unfold faJ;exact eH) zqO)|(refine ai ?_;refine au [] ([].length) (faI z f n z' g m b) (fun i=>n-i.val) (⟨0,by omega,fun k hk=>absurd hk (by omega)⟩) rfl (by unfold faI;exact eH) ?_;(rintro⟨i,hi,hib⟩;rcases Nat.lt_or_eq_of_le hi with hil|hil<;>first|(have eQ:=hil.symm;subst eQ;(simp-dsimp only[faI];refine zqS ?_))|(simp-dsimp only[faI];refine zqS ?_)))|(refine aj ?_;refine Nxt.mk [] (⟨i+1,by omega,fun k hk=>by rcases Nat.lt_or_eq_of_le (Nat.le_of_lt_succ hk) with h|h;exact hib k h;rw[h];exact hix⟩) rfl (by unfold faI;exact eH) zqO)|refine zqN ?_|refine eG aeJ ?_|refine dx ?_|refine dz ?_|(refine dA ?_ ?_<;>intro hc<;>try exact zqM))
 all_goals first
  |(have er:f.any (adQ g b)=true:=aeZ (by omega) (aeZ (g:=g) (by omega) zx1);(refine Ends.mk2 zqI [] ?_;simp-dsimp(disch:=try exact vD) only[push_cast,simprocAttr,Tryz.f25,er];try exact zqF);done)
  |(have er:f.any (adQ g b)=false:=ae0 (by rw[hl];exact hib);(refine Ends.mk2 zqI [] ?_;simp-dsimp(disch:=try exact vD) only[push_cast,simprocAttr,Tryz.f25,er];try exact zqF);done)
  |skip
theorem agG:ACall Tryz.prog 68 [.val (.int .u16 a)] [] 0 (.val (.int .i64 0)) []:=by
 refine az Tryz.func68 Tryz.ntmps68 rfl ?_
 repeat' (first|refine zqN ?_|refine bA ?_|refine bB ?_|(refine bC ?_ ?_<;>intro hc<;>try exact zqM))
 all_goals(refine Ends.mk2 zqI [] ?_;simp-dsimp(disch:=try exact vD) only[push_cast,simprocAttr,Tryz.f68];try exact zqF)
end
section
open Go Go.Sy Go.Bp
attribute [local irreducible] AO AL AC OpT ACall Ends DGo aN Thn Blk Nxt
variable {n m i j k b x y N:Nat} {z z':Bool} {f g:List Nat} {a:Bool×Nat×Nat}
def pcJ(g:List Nat)(b x:Nat)(a:Bool×Nat×Nat):Nat→Bool×Nat×Nat
 |0=>a
 |j+1=>if(pcJ g b x a j).1=false∧vio x b (g.getD j default)=true then(true,x,g.getD j default) else pcJ g b x a j
def pcI(f g:List Nat)(b:Nat):Nat→Bool×Nat×Nat
 |0=>(false,0,0)
 |i+1=>pcJ g b (f.getD i default) (pcI f g b i) g.length
theorem aiv(h:(pcJ g b x a j).1=false)(hv:vio x b (g.getD j default)=true):pcJ g b x a (j+1)=(true,x,g.getD j default):=if_pos ⟨h,hv⟩
theorem aiw(hv:vio x b (g.getD j default)=false):pcJ g b x a (j+1)=pcJ g b x a j:=if_neg (fun h=>by rw[hv] at h;cases h.2)
theorem aix(h:(pcJ g b x a j).1=true):pcJ g b x a (j+1)=pcJ g b x a j:=if_neg (fun h2=>by rw[h] at h2;cases h2.1)
theorem ah6(ha:a.1=true→vio a.2.1 b a.2.2=true∧a.2.1∈f∧a.2.2∈g)(hx:x∈f):∀j,j≤g.length→(pcJ g b x a j).1=true→vio (pcJ g b x a j).2.1 b (pcJ g b x a j).2.2=true∧(pcJ g b x a j).2.1∈f∧(pcJ g b x a j).2.2∈g:=by
 intro j
 induction j with
 |zero=>intro _;exact ha
 |succ j ih=>
  intro hj
  unfold pcJ
  split
  ·rename_i h
   intro _
   refine⟨h.2,hx,?_⟩
   rw[List.getD_eq_getElem?_getD,List.getElem?_eq_getElem (by omega)];exact List.getElem_mem _
  ·exact ih (by omega)
theorem ah7:∀i,i≤f.length→(pcI f g b i).1=true→vio (pcI f g b i).2.1 b (pcI f g b i).2.2=true∧(pcI f g b i).2.1∈f∧(pcI f g b i).2.2∈g:=by
 intro i
 induction i with
 |zero=>intro _ h;cases h
 |succ i ih=>
  intro hi
  exact ah6 (ih (by omega)) (by rw[List.getD_eq_getElem?_getD,List.getElem?_eq_getElem (by omega)];exact List.getElem_mem _) _ (Nat.le_refl _)
theorem ah8:∀j,(pcJ g b x a j).1=false↔a.1=false∧∀k,k<j→vio x b (g.getD k default)=false:=by
 intro j
 induction j with
 |zero=>exact⟨fun h=>⟨h,fun k hk=>absurd hk (by omega)⟩,fun h=>h.1⟩
 |succ j ih=>
  unfold pcJ
  split
  ·rename_i h
   constructor
   ·intro hc;cases hc
   ·intro hc;have:=hc.2 j (by omega);rw[h.2] at this;cases this
  ·rename_i h
   rw[ih]
   constructor
   ·intro hc
    refine⟨hc.1,fun k hk=>?_⟩
    by_cases e:k=j
    ·subst e
     cases hv:vio x b (g.getD k default)
     ·rfl
     ·exact absurd ⟨ih.2 hc,hv⟩ h
    ·exact hc.2 k (by omega)
   ·exact fun hc=>⟨hc.1,fun k hk=>hc.2 k (by omega)⟩
theorem agH:∀i,(pcI f g b i).1=false↔∀k,k<i→adQ g b (f.getD k default)=false:=by
 intro i
 induction i with
 |zero=>exact⟨fun _ k hk=>absurd hk (by omega),fun _=>rfl⟩
 |succ i ih=>
  rw[pcI,ah8,ih]
  constructor
  ·intro hc k hk
   by_cases e:k=i
   ·subst e;exact ae0 hc.2
   ·exact hc.1 k (by omega)
  ·intro hc
   refine⟨fun k hk=>hc k (by omega),fun k hk=>?_⟩
   have:=hc i (by omega)
   cases hv:vio (f.getD i default) b (g.getD k default)
   ·rfl
   ·rw[show adQ g b (f.getD i default)=true from aeZ hk hv] at this;cases this
end
section
open Go Go.Sy Go.Bp
attribute [local irreducible] AO AL AC OpT ACall Ends DGo aN Thn Blk Nxt
structure Ch where
 s:Int
 f:Int
 l:Int
deriving Inhabited
instance:aa Ch 3:=⟨fun c=>[.val (.int .i64 c.s),.val (.int .i64 c.f),.val (.int .i64 c.l)],fun _=>rfl,fun _=>rfl,fun _=>rfl⟩
theorem adG(c:Ch):aa.cells c=[.val (.int .i64 c.s),.val (.int .i64 c.f),.val (.int .i64 c.l)]:=rfl
theorem afK{l:List Ch} {a b c:Int}:cR l++[.val (.int .i64 a),.val (.int .i64 b),.val (.int .i64 c)]=cR (l++[⟨a,b,c⟩]):=Nl (a:=(⟨a,b,c⟩:Ch))
theorem ah9{a b c:Int}:[AV.val (.int .i64 a),.val (.int .i64 b),.val (.int .i64 c)]=cR [(⟨a,b,c⟩:Ch)]:=rfl
inductive Ct where
 |a
 |b
 |n (i:Nat) (l r:Ct)
def szT:Ct→Nat
 | .a=>1
 | .b=>1
 | .n _ l r=>szT l+szT r+1
def flT(o:Nat):Ct→List Ch
 | .a=>[⟨-1,0,0⟩]
 | .b=>[⟨-2,0,0⟩]
 | .n i l r=>flT o l++flT (o+szT l) r++[⟨i,((o+szT l-1:Nat):Int),((o+szT l+szT r-1:Nat):Int)⟩]
theorem aaU:∀t,0<szT t:=fun t=>by cases t<;>simp[szT]
theorem PH:∀(t:Ct) (o:Nat),(flT o t).length=szT t:=by
 intro t
 induction t with
 |a=>intro o;rfl
 |b=>intro o;rfl
 |n i l r h1 h2=>intro o;simp only[flT,szT,List.length_append,h1,h2,List.length_singleton]
section
variable {p q:Nat→Bool} {k a b s v o:Nat} {L N:List Ch} {t l r:Ct}
def bL(s:Nat):Nat:=2^low s
def prT(p q:Nat→Bool):Nat→Nat→Nat→Nat→Option Ct
 |0,_,_,_=>none
 |k+1,a,b,s=>if p (dJ 4095 b)=false then some .a else if q (dJ 4095 a)=false then some .b else if s%65536=0 then none else
  match prT p q k (sor a (bL s)) b (dJ s (bL s)) with
  |none=>none
  |some l=>match prT p q k a (sor b (bL s)) (dJ s (bL s)) with
   |none=>none
   |some r=>some (.n (low s) l r)
def prJ(p q:Nat→Bool):Nat→Nat→Nat→Nat→List Ch→List Ch
 |0,_,_,_,L=>L
 |k+1,a,b,s,L=>match prT p q k (sor a (bL s)) b (dJ s (bL s)) with
  |none=>if s%65536=0 then L else prJ p q k (sor a (bL s)) b (dJ s (bL s)) L
  |some l=>if s%65536=0 then L else prJ p q k a (sor b (bL s)) (dJ s (bL s)) (L++flT L.length l)
def prN(p q:Nat→Bool)(k a b s:Nat)(L:List Ch):List Ch:=
 match prT p q k a b s with
 |some t=>L++flT L.length t
 |none=>prJ p q k a b s L
def prK(p q:Nat→Bool)(k a b s:Nat)(L:List Ch):Nat:=
 match prT p q k a b s with
 |some t=>L.length+szT t-1
 |none=>0
def prB(p q:Nat→Bool)(k a b s:Nat):Bool:=(prT p q k a b s).isSome
theorem afL(h:p (dJ 4095 b)=false):prT p q (k+1) a b s=some .a:=by rw[prT,if_pos h]
theorem afM(h1:p (dJ 4095 b)=true)(h:q (dJ 4095 a)=false):prT p q (k+1) a b s=some .b:=by rw[prT,if_neg (by rw[h1];decide),if_pos h]
theorem afN(h1:p (dJ 4095 b)=true)(h2:q (dJ 4095 a)=true)(h:s%65536=0):prT p q (k+1) a b s=none:=by rw[prT,if_neg (by rw[h1];decide),if_neg (by rw[h2];decide),if_pos h]
theorem afO(h1:p (dJ 4095 b)=true)(h2:q (dJ 4095 a)=true)(h:¬s%65536=0):prT p q (k+1) a b s=match prT p q k (sor a (bL s)) b (dJ s (bL s)) with
 |none=>none
 |some l=>match prT p q k a (sor b (bL s)) (dJ s (bL s)) with
  |none=>none
  |some r=>some (.n (low s) l r):=by rw[prT,if_neg (by rw[h1];decide),if_neg (by rw[h2];decide),if_neg h]
theorem ahV(h:s%65536=0):prJ p q (k+1) a b s L=L:=by rw[prJ];split<;>rw[if_pos h]
theorem ahW(h:¬s%65536=0)(h1:prT p q k (sor a (bL s)) b (dJ s (bL s))=none):prJ p q (k+1) a b s L=prJ p q k (sor a (bL s)) b (dJ s (bL s)) L:=by rw[prJ,h1];exact if_neg h
theorem ahX(h:¬s%65536=0)(h1:prT p q k (sor a (bL s)) b (dJ s (bL s))=some l):prJ p q (k+1) a b s L=prJ p q k a (sor b (bL s)) (dJ s (bL s)) (L++flT L.length l):=by rw[prJ,h1];exact if_neg h
theorem aeT(h:prT p q k a b s=some t):prN p q k a b s L=L++flT L.length t:=by unfold prN;rw[h]
theorem ae1(h:prT p q k a b s=none):prN p q k a b s L=prJ p q k a b s L:=by unfold prN;rw[h]
theorem ae2(h:prT p q k a b s=some t):prK p q k a b s L=L.length+szT t-1:=by unfold prK;rw[h]
theorem afq(h:prT p q k a b s=none):prK p q k a b s L=0:=by unfold prK;rw[h]
theorem ae3(h:prT p q k a b s=some t):prB p q k a b s=true:=by unfold prB;rw[h];rfl
theorem ae4(h:prT p q k a b s=none):prB p q k a b s=false:=by unfold prB;rw[h];rfl
theorem afc:∀k a b s t,prT p q k a b s=some t→szT t+1≤2^k:=by
 intro k
 induction k with
 |zero=>intro a b s t h;cases h
 |succ k ih=>
  intro a b s t h
  have hp:0<2^k:=Nat.two_pow_pos k
  rw[Nat.pow_succ]
  cases h1:p (dJ 4095 b) with
  |false=>rw[afL h1] at h;cases h;simp only[szT];omega
  |true=>
   cases h2:q (dJ 4095 a) with
   |false=>rw[afM h1 h2] at h;cases h;simp only[szT];omega
   |true=>
    by_cases h3:s%65536=0
    ·rw[afN h1 h2 h3] at h;cases h
    ·rw[afO h1 h2 h3] at h
     cases e1:prT p q k (sor a (bL s)) b (dJ s (bL s)) with
     |none=>rw[e1] at h;cases h
     |some l=>
      rw[e1] at h
      cases e2:prT p q k a (sor b (bL s)) (dJ s (bL s)) with
      |none=>rw[e2] at h;cases h
      |some r=>
       rw[e2] at h;cases h
       have:=ih _ _ _ _ e1;have:=ih _ _ _ _ e2
       simp only[szT];omega
theorem aht:∀k a b s L,L.length≤(prJ p q k a b s L).length∧(prJ p q k a b s L).length+1≤L.length+2^k:=by
 intro k
 induction k with
 |zero=>intro a b s L;exact⟨Nat.le_refl _,Nat.le_refl _⟩
 |succ k ih=>
  intro a b s L
  have hp:0<2^k:=Nat.two_pow_pos k
  rw[Nat.pow_succ]
  by_cases h3:s%65536=0
  ·rw[ahV h3];omega
  ·cases e1:prT p q k (sor a (bL s)) b (dJ s (bL s)) with
   |none=>
    rw[ahW h3 e1]
    have:=ih (sor a (bL s)) b (dJ s (bL s)) L
    omega
   |some l=>
    rw[ahX h3 e1]
    have:=ih a (sor b (bL s)) (dJ s (bL s)) (L++flT L.length l)
    rw[List.length_append,PH] at this
    have:=afc _ _ _ _ _ e1
    omega
theorem afP:L.length≤(prN p q k a b s L).length∧(prN p q k a b s L).length+1≤L.length+2^k:=by
 cases h:prT p q k a b s with
 |none=>rw[ae1 h];exact aht ..
 |some t=>
  rw[aeT h,List.length_append,PH]
  have:=afc _ _ _ _ _ h
  omega
def AtT(N:List Ch):Nat→Ct→Prop
 |k,.a=>N.getD k default=⟨-1,0,0⟩∧k<N.length
 |k,.b=>N.getD k default=⟨-2,0,0⟩∧k<N.length
 |k,.n i l r=>∃c d:Nat,N.getD k default=⟨i,c,d⟩∧k<N.length∧AtT N c l∧AtT N d r
theorem afz{A B C:List Ch} {c:Ch}(h:N=A++(B++[c])++C):N.getD (A.length+B.length) default=c∧A.length+B.length<N.length:=by
 subst h
 constructor
 ·rw[List.getD_eq_getElem?_getD,List.append_assoc,List.getElem?_append_right (by omega),List.append_assoc,List.getElem?_append_right (by omega),show A.length+B.length-A.length-B.length=0 by omega];rfl
 ·simp only[List.length_append,List.length_singleton];omega
theorem atT:∀(t:Ct) (A C:List Ch),N=A++flT A.length t++C→AtT N (A.length+szT t-1) t:=by
 intro t
 induction t with
 |a=>intro A C h;exact afz (B:=[]) h
 |b=>intro A C h;exact afz (B:=[]) h
 |n i l r h1 h2=>
  intro A C h
  have hl:=aaU l;have hr:=aaU r
  rw[flT] at h
  have h3:=afz h
  rw[List.length_append,PH,PH] at h3
  have e:A.length+szT (.n i l r)-1=A.length+(szT l+szT r):=by simp only[szT];omega
  rw[e]
  refine⟨_,_,h3.1,h3.2,?_,?_⟩
  ·exact h1 A (flT (A.length+szT l) r++[⟨i,((A.length+szT l-1:Nat):Int),((A.length+szT l+szT r-1:Nat):Int)⟩]++C) (by rw[h];simp only[List.append_assoc])
  ·have:=h2 (A++flT A.length l) ([⟨i,((A.length+szT l-1:Nat):Int),((A.length+szT l+szT r-1:Nat):Int)⟩]++C) (by rw[h,List.length_append,PH];simp only[List.append_assoc])
   rw[List.length_append,PH] at this
   exact this
structure ah0(c:Ch)(i:Nat):Prop where
 ok:(c.s= -1∨c.s= -2)∧c.f=0∧c.l=0∨(0≤c.s∧c.s<12)∧(0≤c.f∧c.f<i)∧(0≤c.l∧c.l<i)
def LbT:Ct→Prop
 | .a=>True
 | .b=>True
 | .n i l r=>i<12∧LbT l∧LbT r
theorem ae5{A B:List Ch} {j:Nat}:(A++B).getD j default=if j<A.length then A.getD j default else B.getD (j-A.length) default:=by
 by_cases h:j<A.length
 ·rw[if_pos h,List.getD_eq_getElem?_getD,List.getElem?_append_left h,←List.getD_eq_getElem?_getD]
 ·rw[if_neg h,List.getD_eq_getElem?_getD,List.getElem?_append_right (by omega),←List.getD_eq_getElem?_getD]
theorem aia:∀(t:Ct) (o:Nat),LbT t→∀j,j<szT t→ah0 ((flT o t).getD j default) (o+j):=by
 intro t
 induction t with
 |a=>intro o _ j hj;have:j=0:=by simp only[szT] at hj;omega
     subst this;exact⟨.inl ⟨.inl rfl,rfl,rfl⟩⟩
 |b=>intro o _ j hj;have:j=0:=by simp only[szT] at hj;omega
     subst this;exact⟨.inl ⟨.inr rfl,rfl,rfl⟩⟩
 |n i l r h1 h2=>
  intro o ht j hj
  have hl:=aaU l;have hr:=aaU r
  simp only[szT] at hj
  rw[flT,ae5,List.length_append,PH,PH]
  by_cases c1:j<szT l+szT r
  ·rw[if_pos c1,ae5,PH]
   by_cases c2:j<szT l
   ·rw[if_pos c2];exact h1 o ht.2.1 j c2
   ·rw[if_neg c2]
    have:=h2 (o+szT l) ht.2.2 (j-szT l) (by omega)
    rw[show o+szT l+(j-szT l)=o+j by omega] at this
    exact this
  ·have e:j=szT l+szT r:=by omega
   subst e
   rw[if_neg c1,Nat.sub_self]
   have:=ht.1
   exact⟨.inr ⟨⟨by show(0:Int)≤(i:Int);omega,by show(i:Int)<12;omega⟩,⟨by show(0:Int)≤((o+szT l-1:Nat):Int);omega,by show((o+szT l-1:Nat):Int)<((o+(szT l+szT r):Nat):Int);omega⟩,⟨by show(0:Int)≤((o+szT l+szT r-1:Nat):Int);omega,by show((o+szT l+szT r-1:Nat):Int)<((o+(szT l+szT r):Nat):Int);omega⟩⟩⟩
def adE(A:List Int)(k:Int):List Int:=A.set k.toNat (A.getD k.toNat default+1)
def afr(A:List Int)(c:Ch):List Int:=if c.s<0 then A else adE (adE A c.f) c.l
def adK(A:List Int):List Ch→List Int
 |[]=>A
 |c::cs=>adK (afr A c) cs
theorem aeU:∀(c d:List Ch) (A:List Int),adK A (c++d)=adK (adK A c) d:=by
 intro c
 induction c with
 |nil=>intro d A;rfl
 |cons x c ih=>intro d A;exact ih d _
theorem bump_len{A:List Int} {k:Int}:(adE A k).length=A.length:=by unfold adE;simp
theorem agI{A:List Int} {c:Ch}:(afr A c).length=A.length:=by unfold afr;split<;>simp[bump_len]
theorem aeV:∀(c:List Ch) (A:List Int),(adK A c).length=A.length:=by
 intro c
 induction c with
 |nil=>intro A;rfl
 |cons x c ih=>intro A;rw[adK,ih,agI]
theorem afd{A:List Int} {k j:Nat}(hk:k<A.length):(adE A (k:Int)).getD j default=if j=k then A.getD k default+1 else A.getD j default:=by
 unfold adE
 rw[Int.toNat_natCast,List.getD_eq_getElem?_getD,List.getElem?_set]
 by_cases h:k=j
 ·subst h;rw[if_pos rfl,if_pos hk,if_pos rfl];rfl
 ·rw[if_neg h,if_neg (fun e=>h e.symm),←List.getD_eq_getElem?_getD]
theorem parT:∀(t:Ct) (o:Nat) (A:List Int),o+szT t≤A.length→(∀j,o≤j→j<o+szT t→A.getD j default=0)→
 ∀j,(adK A (flT o t)).getD j default=if o≤j∧j+1<o+szT t then 1 else A.getD j default:=by
 intro t
 induction t with
 |a=>intro o A _ _ j;rw[if_neg (by simp only[szT];omega)];rfl
 |b=>intro o A _ _ j;rw[if_neg (by simp only[szT];omega)];rfl
 |n i l r h1 h2=>
  intro o A hA hz j
  have hl:=aaU l;have hr:=aaU r
  have hsz:szT (.n i l r)=szT l+szT r+1:=rfl
  rw[hsz] at hA hz⊢
  rw[flT,aeU,aeU]
  have e1:=h1 o A (by omega) (fun j a b=>hz j a (by omega))
  have l1:=aeV (flT o l) A
  generalize adK A (flT o l)=B at*
  have e2:=h2 (o+szT l) B (by omega) (fun j a b=>by rw[e1,if_neg (by omega)];exact hz j (by omega) (by omega))
  have l2:=aeV (flT (o+szT l) r) B
  generalize adK B (flT (o+szT l) r)=D at*
  have e3:adK D [(⟨i,((o+szT l-1:Nat):Int),((o+szT l+szT r-1:Nat):Int)⟩:Ch)]=adE (adE D ((o+szT l-1:Nat):Int)) ((o+szT l+szT r-1:Nat):Int):=by
   rw[adK,adK]
   exact if_neg (by show¬(i:Int)<0;omega)
  rw[e3,afd (by rw[bump_len];omega),afd (by omega),afd (by omega),e2,e2,e2,e1,e1,e1]
  have z1:=hz (o+szT l-1) (by omega) (by omega)
  have z2:=hz (o+szT l+szT r-1) (by omega) (by omega)
  by_cases c0:o≤j∧j+1<o+(szT l+szT r+1)
  ·rw[if_pos c0]
   by_cases c1:j=o+szT l+szT r-1
   ·rw[if_pos c1,if_neg (by omega),if_neg (by omega),if_neg (by omega),z2];rfl
   ·rw[if_neg c1]
    by_cases c2:j=o+szT l-1
    ·rw[if_pos c2,if_neg (by omega),if_neg (by omega),z1];rfl
    ·rw[if_neg c2]
     by_cases c3:o+szT l≤j∧j+1<o+szT l+szT r
     ·rw[if_pos c3]
     ·rw[if_neg c3,if_pos (by omega)]
  ·rw[if_neg c0,if_neg (by omega),if_neg (by omega),if_neg (by omega),if_neg (by omega)]
end
end
section
open Go Go.Sy Go.Bp
attribute [local irreducible] AO AL AC OpT ACall Ends DGo aN Thn Blk Nxt
variable {n m i j k b x y N:Nat} {z z':Bool} {f g:List Nat} {a:Bool×Nat×Nat}
def seI(z:Bool)(f:List Nat)(n:Nat)(z':Bool)(g:List Nat)(m b:Nat)(i:{i:Nat // i≤n}):St:=
 ⟨71,0,[(1,.isl z' (cX g) m),(2,.val (.int .u16 (U b))),(3,.fn 68 []),(13,.val (.int .u16 (U (pcI f g b i.val).2.1))),(14,.val (.int .u16 (U (pcI f g b i.val).2.2))),(15,.val (.bool (pcI f g b i.val).1)),(30,.isl z (cX f) n),(31,.val (.int .i64 n)),(32,.val (.int .i64 i.val))],[]⟩
def seJ(z:Bool)(f:List Nat)(n:Nat)(z':Bool)(g:List Nat)(m b:Nat)(i x:Nat)(a:Bool×Nat×Nat)(j:{j:Nat // j≤m}):St:=
 ⟨71,0,[(1,.isl z' (cX g) m),(2,.val (.int .u16 (U b))),(3,.fn 68 []),(13,.val (.int .u16 (U (pcJ g b x a j.val).2.1))),(14,.val (.int .u16 (U (pcJ g b x a j.val).2.2))),(15,.val (.bool (pcJ g b x a j.val).1)),(17,.val (.int .u16 (U x))),(30,.isl z (cX f) n),(31,.val (.int .i64 n)),(32,.val (.int .i64 i)),(36,.isl z' (cX g) m),(37,.val (.int .i64 m)),(38,.val (.int .i64 j.val))],[]⟩
def prR(f g:List Nat)(b n:Nat):AV:=if(pcI f g b n).1=true then .tup [.val (.int .u16 (U (pcI f g b n).2.1)),.val (.int .u16 (U (pcI f g b n).2.2)),.val (.int .i64 0)] else .tup [.val (.int .u16 0),.val (.int .u16 0),.val (.int .i64 13)]
theorem agl(hl:f.length=n)(hg:g.length=m)(hn:n≤10000)(hm:m≤10000)(h1:ACall Tryz.prog 33 [.isl z (cX f) n] [] 0 (.val (.int .i64 0)) [])(h2:ACall Tryz.prog 33 [.isl z' (cX g) m] [] 0 (.val (.int .i64 0)) []):
 ACall Tryz.prog 67 [.isl z (cX f) n,.isl z' (cX g) m,.val (.int .u16 (U b)),.fn 68 []] [] 0 (prR f g b n) []:=by
 have v1:=PLift.up h1;have v2:=PLift.up h2
 have p0:pcI f g b 0=(false,0,0):=rfl
 have p1:∀i,pcI f g b (i+1)=pcJ g b (f.getD i default) (pcI f g b i) m:=fun i=>by rw[←hg];rfl
 have q0:∀x a,pcJ g b x a 0=a:=fun _ _=>rfl
 have u0:U 0=0:=rfl
 have hvv:=ae;have hff:=ae;have hst:=ae
 refine az Tryz.func67 Tryz.ntmps67 rfl ?_
 repeat' (first|(refine ai ?_;refine au [] ([].length) (seJ z f n z' g m b i (f.getD i default) (pcI f g b i)) (fun j=>m-j.val) (⟨0,by omega⟩) rfl (by unfold seJ;(try simp only[List.cons_append,List.nil_append]);refine Sub.mk2 ?_;(simp-dsimp(disch:=try exact vD) only[push_cast,simprocAttr,hvv,hff,p0,q0,u0,bg]);(repeat refine aI ?_);first|done|exact vI) ?_;(rintro⟨j,hj⟩;rcases Nat.lt_or_eq_of_le hj with hjl|hjl<;>first|(have eQ:=hjl.symm;subst eQ;have hst:=(p1 i).symm;(simp-dsimp(disch:=try exact vD) only[push_cast,simprocAttr,seJ]))|(rcases Bool.eq_false_or_eq_true (vio (f.getD i default) b (g.getD j default)) with hvv|hvv<;>rcases Bool.eq_false_or_eq_true (pcJ g b (f.getD i default) (pcI f g b i) j).1 with hff|hff<;>first|(have hst:=aiv hff hvv;(simp-dsimp(disch:=try exact vD) only[push_cast,simprocAttr,seJ]))|(have hst:=aiw (a:=pcI f g b i) hvv;(simp-dsimp(disch:=try exact vD) only[push_cast,simprocAttr,seJ]))|(have hst:=aix hff;(simp-dsimp(disch:=try exact vD) only[push_cast,simprocAttr,seJ])))))|(refine aj ?_;refine Nxt.mk [] (⟨j+1,by omega⟩) rfl (by unfold seJ;(try simp only[List.cons_append,List.nil_append]);refine Sub.mk2 ?_;(simp-dsimp(disch:=try exact vD) only[push_cast,simprocAttr,hvv,hff,p0,q0,u0,bg,hst]);(repeat refine aI ?_);first|done|exact vI) (by first|omega|(dsimp only;omega)|(simp;done)|(simp;omega)))|(refine ai ?_;refine au [] ([].length) (seI z f n z' g m b) (fun i=>n-i.val) (⟨0,by omega⟩) rfl (by unfold seI;(try simp only[List.cons_append,List.nil_append]);refine Sub.mk2 ?_;(simp-dsimp(disch:=try exact vD) only[push_cast,simprocAttr,hvv,hff,p0,q0,u0,bg]);(repeat refine aI ?_);first|done|exact vI) ?_;(rintro⟨i,hi⟩;rcases Nat.lt_or_eq_of_le hi with hil|hil<;>first|(have eQ:=hil.symm;subst eQ;rcases Bool.eq_false_or_eq_true (pcI f g b n).1 with hff|hff<;>(simp-dsimp(disch:=try exact vD) only[push_cast,simprocAttr,seI]))|(simp-dsimp(disch:=try exact vD) only[push_cast,simprocAttr,seI])))|(refine aj ?_;refine Nxt.mk [] (⟨i+1,by omega⟩) rfl (by unfold seI;(try simp only[List.cons_append,List.nil_append]);refine Sub.mk2 ?_;(simp-dsimp(disch:=try exact vD) only[push_cast,simprocAttr,hvv,hff,p0,q0,u0,bg,p1]);(repeat refine aI ?_);first|done|exact vI) (by first|omega|(dsimp only;omega)|(simp;done)|(simp;omega)))|apply bZ|apply aB|((first|refine ax rfl (fun K hK=>?_)|refine ak (fun K hK=>?_));(first|refine ah (f:=33) (dst:=some 21) [] 0 false ?_|refine ah (f:=33) (dst:=some 26) [] 0 false ?_|refine ah (f:=63) [] 0 false ?_|refine jG (f:=68) [] 0 false ?_);simp-dsimp(disch:=try exact vD) only[push_cast,simprocAttr,hvv,hff,p0,q0,u0,bg];(repeat refine aI ?_);intro G hG;refine hG _ _ ?_;clear hG G;(first|refine⟨_,_,v1.down,?_⟩|refine⟨_,_,v2.down,?_⟩|refine⟨_,_,aeJ,?_⟩|refine⟨_,_,agG,?_⟩);simp-dsimp(disch:=try exact vD) only[push_cast,simprocAttr,hvv,hff,p0,q0,u0,bg];(repeat refine aI ?_);apply hK;clear hK K)|((first|refine ax rfl (fun K hK=>?_)|refine ak (fun K hK=>?_));(first|apply bM|apply aR|apply bU|apply aO|apply bi|apply bJ|apply fP|apply bO|apply fw|apply fM|apply fO|apply bR|apply bu|apply aU|apply dE);simp-dsimp(disch:=try exact vD) only[push_cast,simprocAttr,hvv,hff,p0,q0,u0,bg];(repeat refine aI ?_);apply hK;clear hK K)|((first|refine aK rfl rfl (fun K1 K2 h1 h2=>?_) rfl|refine aF (fun K1 K2 h1 h2=>?_));simp-dsimp(disch:=try exact vD) only[push_cast,simprocAttr,hvv,hff,p0,q0,u0,bg];(first|(refine⟨fun hc=>?_,fun hc=>?_⟩<;>first|(exfalso;omega)|(exfalso;contradiction)|refine h1 ?_|refine h2 ?_)|refine h1 ?_|refine h2 ?_);all_goals clear h1 h2 K1 K2)|apply cu|apply aL|apply bH|apply aX|apply aM|apply bI|apply aY|(refine aQ rfl ?_)|apply aZ|apply bG|apply bF|apply bY)
 all_goals first
  |(unfold prR;(refine Ends.mk2 (by first|exact .inr rfl|exact .inl rfl) [] ?_;simp-dsimp(disch:=try exact vD) only[push_cast,simprocAttr,Tryz.f67,hff];try exact zqF);done)
  |skip
end
