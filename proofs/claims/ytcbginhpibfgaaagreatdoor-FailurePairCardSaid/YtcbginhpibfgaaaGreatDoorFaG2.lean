/- Fa2 Fa3. No condition. -/
import Derived.Test.YtcbginhpibfgaaaGreatDoorDiG7
import Derived.Test.YtcbginhpibfgaaaGreatDoorFa1
set_option linter.all false
set_option maxHeartbeats 4000000
set_option maxRecDepth 20000
namespace Go.Proofs.YtcbginhpibfgaaaGreatDoor
open Go Go.Sy Go.Bp Go.Lm Go.Rt
attribute [local irreducible] AO AL AC OpT ACall Ends DGo bK Thn Blk Nxt
variable {n N M k i m j r T:Nat} {z z' neg:Bool} {xs ys:List RV} {X:RV} {e:Int}
theorem Yo:ACall Tryz.prog 20 [.isl true [] 0] [] 0 (.isl true [] 0) []:=by
 refine ak Tryz.func20 Tryz.ntmps20 rfl ?_
 repeat' (first|refine zqN ?_|refine aK ?_|refine iy ?_|refine iA ?_|refine iB ?_|refine aL ?_|(refine aM ?_ ?_<;>intro hc<;>try exact zqM))
 all_goals(refine Ends.mk2 zqI [] ?_;simp-dsimp(disch:=try exact vD) only[push_cast,simprocAttr,Tryz.f20];try exact zqF)
theorem Fg(hn:xs.length=n)(hb:n≤100000):ACall Tryz.prog 20 [.isl false (cR xs) n] [] 0 (.sl 0 0 n 4) [.cells (cR xs) 37]:=by
 refine ak Tryz.func20 Tryz.ntmps20 rfl ?_
 repeat' (first|refine zqN ?_|refine aK ?_|refine iy ?_|refine iA ?_|refine iB ?_|refine aL ?_|(refine aM ?_ ?_<;>intro hc<;>try exact zqM))
 all_goals(refine Ends.mk2 zqI [1] ?_;simp-dsimp(disch:=try exact vD) only[push_cast,simprocAttr,Tryz.f20];try exact zqF)
theorem TF(hn:xs.length=n)(hb:n≤100000):ACall Tryz.prog 20 [.isl false (cR xs) n] [] 0 (.isl false (cR xs) n) []:=by
 refine ak Tryz.func20 Tryz.ntmps20 rfl ?_
 repeat' (first|refine zqN ?_|refine aK ?_|refine iy ?_|refine iA ?_|refine iB ?_|refine aL ?_|(refine aM ?_ ?_<;>intro hc<;>try exact zqM))
 all_goals((refine Ends.frz 1 ?_;simp-dsimp(disch:=try exact vD) only[push_cast,simprocAttr,Tryz.f20];(repeat refine aI ?_);intro K hK;refine hK _ _ ?_;clear hK K);refine Ends.mk2 zqI [] ?_;simp-dsimp(disch:=try exact vD) only[push_cast,simprocAttr,Tryz.f20];try exact zqF)
theorem lY(hn:xs.length=n)(hb:n≤100000)(hz:z=true→xs=[]):ACall Tryz.prog 20 [.isl z (cR xs) n] [] 0 (.isl z (cR xs) n) []:=by
 cases z with
 |false=>exact TF hn hb
 |true=>
  have e:=hz rfl
  subst e;subst hn;exact Yo
structure RL where
 z:Bool
 l:List RV
instance:Inhabited RL:=⟨⟨true,[]⟩⟩
instance:sF RL:=⟨fun a=> .isl a.z (cR a.l) a.l.length,fun _=>rfl,fun _=>rfl⟩
theorem c_RL(a:RL):sF.c a= .isl a.z (cR a.l) a.l.length:=rfl
variable {ss:List RL}
def mH(ss:List RL):Nat→List RV
 |0=>[]
 |j+1=>mH ss j++(ss.getD j default).l
def ku(ss:List RL)(j:Nat):Nat:=(mH ss j).length
theorem QN:mH ss (j+1)=mH ss j++(ss.getD j default).l:=rfl
theorem adB(h:ku ss j=0):mH ss j=[]:=List.eq_nil_of_length_eq_zero h
theorem yN:(mH ss j).length=ku ss j:=rfl
theorem Yp:ku ss 0=0:=rfl
theorem vw:ku ss (j+1)=ku ss j+(ss.getD j default).l.length:=by simp[ku,QN]
theorem IP(h:j≤n):ku ss j≤ku ss n:=by
 induction n with
 |zero=>rw[show j=0 by omega];exact Nat.le_refl _
 |succ n ih=>
  rcases Nat.lt_or_eq_of_le h with h1|h1
  ·have:=ih (by omega);rw[vw];omega
  ·rw[h1];exact Nat.le_refl _
theorem Ml:(cR (mH ss j)).take (ku ss j*4)=cR (mH ss j):=List.take_of_length_le (by rw[lM];exact Nat.le_refl _)
def ShR(ss:List RL):Prop:=∀j,j<ss.length→(ss.getD j default).l.length≤100
theorem QO(h:ShR ss)(hj:j≤ss.length):ku ss j≤100*j:=by
 induction j with
 |zero=>exact Nat.le_refl _
 |succ j ih=>have:=ih (by omega);have:=h j (by omega);rw[vw];omega
def uJ(ss:List RL)(T j:Nat):List RV:=mH ss j++List.replicate (T-ku ss j) rZ
theorem adC:List.replicate T rZ=uJ ss T 0:=by simp[uJ,mH,ku]
theorem IQ(h:ku ss j≤T):(uJ ss T j).length=T:=by simp[uJ,yN];omega
theorem adD(h:ku ss (j+1)≤T):spl (cR (uJ ss T j)) (ku ss j*4) (cR (ss.getD j default).l)=cR (uJ ss T (j+1)):=by
 have e:=vw (ss:=ss) (j:=j)
 have e1:(mH ss j).length=ku ss j:=rfl
 unfold spl
 rw[lM,←Nat.add_mul,JA,wu,En,En]
 congr 1
 unfold uJ
 rw[List.take_append,e1,List.take_of_length_le (by rw[e1];exact Nat.le_refl _),Nat.sub_self,List.take_zero,List.append_nil,List.drop_append,e1,List.drop_eq_nil_of_le (by rw[e1];omega),List.nil_append,List.drop_replicate,QN,List.append_assoc]
 congr 3
 omega
theorem IR(h:ku ss j=T):uJ ss T j=mH ss j:=by simp[uJ,h]
theorem zr4:eT [Value.bool false,.slice none 0 0,.bool false,.slice none 0 0] T=cR (List.replicate T rZ):=agT rfl
theorem adE:ACall Tryz.prog 141 [.isl true [] 0,.val (.int .i64 0)] [] 0 (.isl true [] 0) []:=by
 refine ak Tryz.func141 Tryz.ntmps141 rfl ?_
 repeat' (first|refine zqN ?_|(refine VE _ _ rfl ?_;refine gD ?_;intro K hK;refine⟨hK _ _ ?_,fun c hc1 hc2=>hK _ _ ?_⟩;all_goals clear hK K)|refine aK ?_|refine iy ?_|refine iA ?_|refine iB ?_|refine aL ?_|(refine aM ?_ ?_<;>intro hc<;>try exact zqM))
 all_goals(refine Ends.mk2 zqI [] ?_;simp-dsimp(disch:=try exact vD) only[push_cast,simprocAttr,Tryz.f141];try exact zqF)
theorem adF(h:0<T)(h2:T≤100000):ACall Tryz.prog 141 [.isl true [] 0,.val (.int .i64 T)] [] 0 (.sl 0 0 0 4) [.cells (cR (List.replicate T rZ)) 37]:=by
 refine ak Tryz.func141 Tryz.ntmps141 rfl ?_
 repeat' (first|refine zqN ?_|(refine VE _ _ rfl ?_;refine gD ?_;intro K hK;refine⟨hK _ _ ?_,fun c hc1 hc2=>hK _ _ ?_⟩;all_goals clear hK K)|refine aK ?_|refine iy ?_|refine iA ?_|refine iB ?_|refine aL ?_|(refine aM ?_ ?_<;>intro hc<;>try exact zqM))
 all_goals first
  |((refine Ends.mk2 zqI [0] ?_;simp-dsimp(disch:=try exact vD) only[push_cast,simprocAttr,Tryz.f141,zr4];try exact zqF);done)
  |skip
def GK(z:Bool)(ss:List RL)(n:Nat)(j:{j:Nat // j≤n}):St:=
 ⟨36,0,[(0,.isl z (cX ss) n),(3,.val (.int .i64 (ku ss j.val))),(9,.isl z (cX ss) n),(10,.val (.int .i64 n)),(11,.val (.int .i64 j.val))],[]⟩
def Yq(z:Bool)(ss:List RL)(n T:Nat)(j:{j:Nat // j≤n}):St:=
 ⟨36,0,[(6,.sl 0 0 (ku ss j.val) 4),(25,.isl z (cX ss) n),(26,.val (.int .i64 n)),(27,.val (.int .i64 j.val))],[(0,some (.cells (cR (uJ ss T j.val)) 37))]⟩
def Yr(z:Bool)(ss:List RL)(n:Nat)(j:{j:Nat // j≤n}):St:=
 ⟨36,0,[(6,.isl true [] 0),(25,.isl z (cX ss) n),(26,.val (.int .i64 n)),(27,.val (.int .i64 j.val))],[]⟩
theorem TG(hl:ss.length=n)(hs:ShR ss)(hn:n≤1000)(hT:0<ku ss n):ACall Tryz.prog 109 [.isl z (cX ss) n] [] 0 (.isl false (cR (mH ss n)) (ku ss n)) []:=by
 have hle:=fun(j:Nat) (h:j≤n)=>QO hs (j:=j) (by omega)
 have hmo:=fun(j:Nat) (h:j≤n)=>IP (ss:=ss) h
 have hst:=fun(j:Nat)=>vw (ss:=ss) (j:=j)
 have hT2:=hle n (Nat.le_refl _)
 refine ak Tryz.func109 Tryz.ntmps109 rfl ?_
 have zx1:= @c_RL;have zx2:= @yN;have zx3:= @Yp;have zx4:= @vw;have zx5:= @IQ;have zx6:= @adD;have zx7:=fun{q0}=>adC (ss:=ss) (T:=q0);have zx8:=aC;have zx9:=aC;repeat' (first|(refine ai ?_;refine au [] ([].length) (GK z ss n) (fun j=>n-j.val) (⟨0,by omega⟩) rfl (by unfold GK;exact kK) ?_;(rintro⟨j,hj⟩;have hj1:=hle j hj;rcases Nat.lt_or_eq_of_le hj with hjl|hjl<;>first|(have ej:n=j:=hjl.symm;subst ej;(simp-dsimp only[GK];refine zqS ?_))|(have hj2:=hle (j+1) hjl;have hj3:=hst j;(simp-dsimp only[GK];refine zqS ?_))))|(refine ax ?_;refine Nxt.mk [] (⟨j+1,by omega⟩) rfl (by unfold GK;exact kK) zqO)|(refine ai ?_;refine au [0] ([0].length) (Yq z ss n (ku ss n)) (fun j=>n-j.val) (⟨0,by omega⟩) rfl (by unfold Yq;exact kK) ?_;(rintro⟨j,hj⟩;have hj1:=hle j hj;have hj4:=hmo j hj;have hj5:=IQ (ss:=ss) hj4;rcases Nat.lt_or_eq_of_le hj with hjl|hjl<;>first|(have ej:n=j:=hjl.symm;subst ej;(simp-dsimp only[Yq];refine zqS ?_))|(have hj2:=hle (j+1) hjl;have hj3:=hst j;have hj6:=hmo (j+1) hjl;(simp-dsimp only[Yq];refine zqS ?_))))|(refine ax ?_;refine Nxt.mk [0] (⟨j+1,by omega⟩) rfl (by unfold Yq;exact kK) zqO)|refine zqN ?_|refine NQ (adF (T:=ku ss n) hT (by omega)) ?_|refine uz ?_|refine Ic ?_|refine Ie ?_|refine Ig ?_|refine uA ?_|(refine uB ?_ ?_<;>intro hc<;>try exact zqM))
 all_goals first
  |(((refine Ends.frz 0 ?_;simp-dsimp(disch:=try exact vD) only[push_cast,simprocAttr,Tryz.f109,IR,Ml];(repeat refine aI ?_);intro K hK;refine hK _ _ ?_;clear hK K);refine Ends.mk2 zqI [] ?_;simp-dsimp(disch:=try exact vD) only[push_cast,simprocAttr,Tryz.f109,IR,Ml];try exact zqF);done)
  |skip
theorem TH(hl:ss.length=n)(hs:ShR ss)(hn:n≤1000)(hT:ku ss n=0):ACall Tryz.prog 109 [.isl z (cX ss) n] [] 0 (.isl true [] 0) []:=by
 have hle:=fun(j:Nat) (h:j≤n)=>QO hs (j:=j) (by omega)
 have hmo:=fun(j:Nat) (h:j≤n)=>IP (ss:=ss) h
 have hst:=fun(j:Nat)=>vw (ss:=ss) (j:=j)
 have hT2:=hle n (Nat.le_refl _)
 have zx6:=ae
 refine ak Tryz.func109 Tryz.ntmps109 rfl ?_
 have zx1:= @c_RL;have zx2:= @yN;have zx3:= @Yp;have zx4:= @vw;have zx5:= @hT;have zx7:= @List.length_nil.{0};have zx8:= @nX;have zx9:=aC;repeat' (first|(refine ai ?_;refine au [] ([].length) (GK z ss n) (fun j=>n-j.val) (⟨0,by omega⟩) rfl (by unfold GK;exact kK) ?_;(rintro⟨j,hj⟩;have hj1:=hle j hj;rcases Nat.lt_or_eq_of_le hj with hjl|hjl<;>first|(have ej:n=j:=hjl.symm;subst ej;(simp-dsimp only[GK];refine zqS ?_))|(have hj2:=hle (j+1) hjl;have hj3:=hst j;(simp-dsimp only[GK];refine zqS ?_))))|(refine ax ?_;refine Nxt.mk [] (⟨j+1,by omega⟩) rfl (by unfold GK;exact kK) zqO)|(refine ai ?_;refine au [] ([].length) (Yr z ss n) (fun j=>n-j.val) (⟨0,by omega⟩) rfl (by unfold Yr;exact kK) ?_;(rintro⟨j,hj⟩;have hj1:=hle j hj;rcases Nat.lt_or_eq_of_le hj with hjl|hjl<;>first|(have ej:n=j:=hjl.symm;subst ej;(simp-dsimp only[Yr];refine zqS ?_))|(have hj6:=hmo (j+1) hjl;have hj3:=hst j;have zx6:(ss.getD j default).l=[]:=List.eq_nil_of_length_eq_zero (by omega);(simp-dsimp only[Yr];refine zqS ?_))))|(refine ax ?_;refine Nxt.mk [] (⟨j+1,by omega⟩) rfl (by unfold Yr;exact kK) zqO)|refine zqN ?_|refine NQ adE ?_|refine uz ?_|refine Ic ?_|refine Ie ?_|refine Ig ?_|refine uA ?_|(refine uB ?_ ?_<;>intro hc<;>try exact zqM))
 all_goals first
  |((refine Ends.mk2 zqI [] ?_;simp-dsimp(disch:=try exact vD) only[push_cast,simprocAttr,Tryz.f109];try exact zqF);done)
  |skip
theorem Ke{n:Nat}(h:0<n):(n==0)=false:=by simp;omega
theorem Fh(hl:ss.length=n)(hs:ShR ss)(hn:n≤1000):ACall Tryz.prog 109 [.isl z (cX ss) n] [] 0 (.isl (ku ss n==0) (cR (mH ss n)) (ku ss n)) []:=by
 rcases Nat.eq_zero_or_pos (ku ss n) with h|h
 ·have:=TH (z:=z) hl hs hn h
  rw[h,adB h];exact this
 ·have:=TG (z:=z) hl hs hn h
  rw[Ke h];exact this
theorem adG(hx:xs.length≤100):ACall Tryz.prog 109 [.isl false [.isl z (cR xs) xs.length] 1] [] 0 (.isl (xs.length==0) (cR xs) xs.length) []:=by
 have:=Fh (z:=false) (ss:=[⟨z,xs⟩]) (n:=1) rfl (fun j hj=>by
  have:j=0:=by simp at hj;omega
  subst this;exact hx) (by decide)
 exact this
theorem adH(hx:xs.length≤100)(hy:ys.length≤100):ACall Tryz.prog 109 [.isl false [.isl z (cR xs) xs.length,.isl z' (cR ys) ys.length] 2] [] 0 (.isl ((xs++ys).length==0) (cR (xs++ys)) (xs++ys).length) []:=by
 have:=Fh (z:=false) (ss:=[⟨z,xs⟩,⟨z',ys⟩]) (n:=2) rfl (fun j hj=>by
  have:j=0∨j=1:=by simp at hj;omega
  rcases this with rfl|rfl
  ·exact hx
  ·exact hy) (by decide)
 exact this
noncomputable def psE:List RV→Int
 |[]=>0
 |x::l=>if pE x=0 then psE l else pE x
theorem Yt(h:∀i,i<xs.length→pE (xs.getD i default)=0):psE xs=0:=by
 induction xs with
 |nil=>rfl
 |cons x l ih=>
  have hx:pE x=0:=h 0 (by simp)
  unfold psE
  rw[if_pos hx]
  exact ih fun i hi=>h (i+1) (by simpa using hi)
theorem Yu(hj:j<xs.length)(h:∀i,i<j→pE (xs.getD i default)=0)(hne:¬pE (xs.getD j default)=0):psE xs=pE (xs.getD j default):=by
 induction xs generalizing j with
 |nil=>simp at hj
 |cons x l ih=>
  unfold psE
  cases j with
  |zero=>
   have hx:¬pE x=0:=hne
   rw[if_neg hx];rfl
  |succ j=>
   have hx:pE x=0:=h 0 (by omega)
   rw[if_pos hx]
   exact ih (by simpa using hj) (fun i hi=>h (i+1) (by omega)) hne
theorem adI:psE (xs++ys)=if psE xs=0 then psE ys else psE xs:=by
 induction xs with
 |nil=>show psE ys=if(0:Int)=0 then _ else _;rw[if_pos rfl]
 |cons x l ih=>
  show(if pE x=0 then psE (l++ys) else pE x)=_
  by_cases hx:pE x=0
  ·rw[if_pos hx,ih]
   have:psE (x::l)=psE l:=if_pos hx
   rw[this]
  ·rw[if_neg hx]
   have:psE (x::l)=pE x:=if_neg hx
   rw[this,if_neg hx]
theorem Mm:(∀i,i<xs.length→pE (xs.getD i default)=0)∨∃j,j<xs.length∧(∀i,i<j→pE (xs.getD i default)=0)∧¬pE (xs.getD j default)=0:=by
 induction xs with
 |nil=>exact .inl fun i hi=>by simp at hi
 |cons x l ih=>
  by_cases hx:pE x=0
  ·rcases ih with h|⟨j,h1,h2,h3⟩
   ·refine .inl fun i hi=>?_
    cases i with
    |zero=>exact hx
    |succ i=>exact h i (by simpa using hi)
   ·refine .inr ⟨j+1,by simpa using h1,fun i hi=>?_,h3⟩
    cases i with
    |zero=>exact hx
    |succ i=>exact h2 i (by omega)
  ·exact .inr ⟨0,by simp,fun i hi=>by omega,hx⟩
def pbI(z:Bool)(xs:List RV)(n:Nat)(T:Nat)(j:{j:Nat // j≤T}):St:=
 ⟨19,0,[(7,.isl z (cR xs) n),(8,.val (.int .i64 n)),(9,.val (.int .i64 j.val))],[]⟩
theorem adJ{AS:List AV} {K:Nat}(hl:xs.length=n)(hn:n≤1000)(hX:∀i,i<n→RIn (xs.getD i default))(hc:ACall Tryz.prog 109 [.isl false AS K] [] 0 (.isl z (cR xs) n) [])(h0:∀i,i<n→pE (xs.getD i default)=0):ACall Tryz.prog 74 [.isl false AS K] [] 0 (.val (.int .i64 0)) []:=by
 have hc':=PLift.up hc
 have hp:=fun(i:Nat) (hi:i<n)=>PLift.up (by have:=wX (hX i hi);rw[h0 i hi] at this;exact this)
 clear hc h0 hX
 refine ak Tryz.func74 Tryz.ntmps74 rfl ?_
 repeat' (first|(refine ai ?_;refine au [] ([].length) (pbI z xs n n) (fun j=>n-j.val) (⟨0,Nat.zero_le _⟩) rfl (by unfold pbI;exact mO) ?_;(rintro⟨j,hj⟩;rcases Nat.lt_or_eq_of_le hj with hjl|hjl<;>first|(subst hjl;(simp-dsimp only[pbI];refine zqS ?_))|(simp-dsimp only[pbI];refine zqS ?_)))|(refine ax ?_;refine Nxt.mk [] (⟨j+1,by omega⟩) rfl (by unfold pbI;exact mO) zqO)|refine zqN ?_|refine az hc'.down ?_|refine az (hp j hjl).down ?_|refine aK ?_|refine aL ?_|(refine aM ?_ ?_<;>intro hc<;>try exact zqM))
 all_goals first
  |((refine Ends.mk2 zqI [] ?_;simp-dsimp(disch:=try exact vD) only[push_cast,simprocAttr,Tryz.f74];try exact zqF);done)
  |skip
theorem adK{AS:List AV} {K T:Nat}(hl:xs.length=n)(hn:n≤1000)(hT:T<n)(hX:∀i,i<n→RIn (xs.getD i default))(hc:ACall Tryz.prog 109 [.isl false AS K] [] 0 (.isl z (cR xs) n) [])(h0:∀i,i<T→pE (xs.getD i default)=0)(he:pE (xs.getD T default)=e)(hne:¬e=0):ACall Tryz.prog 74 [.isl false AS K] [] 0 (.val (.int .i64 e)) []:=by
 have hc':=PLift.up hc
 have hp:=fun(i:Nat) (hi:i<T)=>PLift.up (by have:=wX (hX i (by omega));rw[h0 i hi] at this;exact this)
 have hp2:=PLift.up (by have:=wX (hX T hT);rw[he] at this;exact this)
 clear hc h0 hX he
 refine ak Tryz.func74 Tryz.ntmps74 rfl ?_
 have zx1:= @hne;have zx2:=aC;have zx3:=aC;repeat' (first|(refine ai ?_;refine au [] ([].length) (pbI z xs n T) (fun j=>n-j.val) (⟨0,Nat.zero_le _⟩) rfl (by unfold pbI;exact eQ) ?_;(rintro⟨j,hj⟩;rcases Nat.lt_or_eq_of_le hj with hjl|hjl<;>first|(subst hjl;have hpj:=hp2;(simp-dsimp only[pbI];refine zqS ?_))|(have hpj:=hp j hjl;(simp-dsimp only[pbI];refine zqS ?_))))|(refine ax ?_;refine Nxt.mk [] (⟨j+1,by omega⟩) rfl (by unfold pbI;exact eQ) zqO)|refine zqN ?_|refine bE hc'.down ?_|refine bE hpj.down ?_|refine bM ?_|refine bO ?_|(refine bP ?_ ?_<;>intro hc<;>try exact zqM))
 all_goals first
  |((refine Ends.mk2 zqI [] ?_;simp-dsimp(disch:=try exact vD) only[push_cast,simprocAttr,Tryz.f74];try exact zqF);done)
  |skip
theorem QR{AS:List AV} {K:Nat}(hl:xs.length=n)(hn:n≤1000)(hX:∀i,i<n→RIn (xs.getD i default))(hc:ACall Tryz.prog 109 [.isl false AS K] [] 0 (.isl z (cR xs) n) []):ACall Tryz.prog 74 [.isl false AS K] [] 0 (.val (.int .i64 (psE xs))) []:=by
 rcases Mm (xs:=xs) with h|⟨j,h1,h2,h3⟩
 ·rw[Yt h]
  exact adJ hl hn hX hc (by rw[←hl];exact h)
 ·rw[Yu h1 h2 h3]
  exact adK hl hn (by omega) hX hc h2 rfl h3
theorem yO(hn:xs.length≤100)(hX:∀i,i<xs.length→RIn (xs.getD i default)):ACall Tryz.prog 74 [.isl false [.isl z (cR xs) xs.length] 1] [] 0 (.val (.int .i64 (psE xs))) []:=
 QR rfl (by omega) hX (adG hn)
theorem Yv(hi:i<(xs++ys).length):(xs++ys).getD i default=if i<xs.length then xs.getD i default else ys.getD (i-xs.length) default:=by
 by_cases h:i<xs.length
 ·rw[if_pos h,List.getD_eq_getElem?_getD,List.getElem?_append_left h,←List.getD_eq_getElem?_getD]
 ·rw[if_neg h,List.getD_eq_getElem?_getD,List.getElem?_append_right (by omega),←List.getD_eq_getElem?_getD]
theorem TI(hn:xs.length≤100)(hm:ys.length≤100)(hX:∀i,i<xs.length→RIn (xs.getD i default))(hY:∀i,i<ys.length→RIn (ys.getD i default)):ACall Tryz.prog 74 [.isl false [.isl z (cR xs) xs.length,.isl z' (cR ys) ys.length] 2] [] 0 (.val (.int .i64 (if psE xs=0 then psE ys else psE xs))) []:=by
 rw[←adI]
 refine QR rfl (by rw[List.length_append];omega) (fun i hi=>?_) (adH hn hm)
 rw[Yv hi]
 rw[List.length_append] at hi
 split
 ·exact hX i (by assumption)
 ·exact hY _ (by omega)
end Go.Proofs.YtcbginhpibfgaaaGreatDoor
namespace Go.Proofs.YtcbginhpibfgaaaGreatDoor
open Go Go.Sy Go.Lm Go.Rt Go.Dg
attribute [local irreducible] AO AL AC OpT ACall Ends DGo bK Thn Blk Nxt
variable {n N np k i m j r q lo hi:Nat} {z zp:Bool} {ps:List RV} {F:List Fo} {p:Nat→Rat} {K K1 K2 K3:List Nat} {W L H M1 M2 M3:RV} {rt:Int}
def knR(p:Nat→Rat)(F:List Fo)(K:List Nat):List (List Int×AV):=K.map fun(x:Nat)=>([(x:Int)],.agg (aa.cells (rC (nvN p F x))))
theorem YH{g:AV→AV}(hg:∀X:RV,g (.agg (aa.cells X))= .agg (aa.cells X)):((knR p F K).map fun x=>(x.1,g x.2))=knR p F K:=by
 unfold knR
 rw[List.map_map]
 exact List.map_congr_left fun x _=>by show(_,g _)=_;rw[hg]
theorem adT{τ:Nat→Nat}:((knR p F K).map fun x=>(x.1,ren τ x.2))=knR p F K:=YH fun X=>by rw[ren,VT]
theorem adU{st:St} {σ:List Nat} {fz:Bool} {j:Nat}:((knR p F K).map fun x=>(x.1,toA st σ fz (j+1+1) x.2))=knR p F K:=YH fun X=>by rw[toA,VU (by omega)]
theorem adV{j:Nat}:(∀x∈knR p F K,bnd j x.2)=True:=eq_true fun x hx=>by
 obtain⟨y,_,rfl⟩:=List.mem_map.1 hx
 show bnd j (.agg (aa.cells _))
 simp only[bnd,VV]
theorem adW:knR p F []=[]:=rfl
theorem Fp(h:¬r∈K):cK (knR p F K) [(r:Int)]=none:=by
 induction K with
 |nil=>rfl
 |cons x K ih=>
  show cK (([(x:Int)],_)::knR p F K) _=none
  simp only[cK]
  rw[if_neg (fun e=>h (by simp at e;have:x=r:=by omega
                          rw[this];simp))]
  exact ih fun hc=>h (by simp[hc])
theorem IW(h:r∈K):cK (knR p F K) [(r:Int)]=some (.agg (aa.cells (rC (nvN p F r)))):=by
 induction K with
 |nil=>cases h
 |cons x K ih=>
  show cK (([(x:Int)],_)::knR p F K) _=_
  simp only[cK]
  by_cases e:x=r
  ·rw[if_pos (by rw[e]),e]
  ·rw[if_neg (fun hc=>e (by simp at hc;omega))]
   exact ih (by rcases List.mem_cons.1 h with h|h;exact absurd h.symm e;exact h)
theorem YI(h:¬r∈K):mM (knR p F K) [(r:Int)] (.agg (aa.cells (rC (nvN p F r))))=knR p F (K++[r]):=by
 rw[kU _ _ _ (Fp h)];unfold knR;rw[List.map_append];rfl
attribute [push_cast] adT adU adV
def om(F:List Fo):Nat→Nat→List Nat→List Nat
 |0,_,K=>K
 |k+1,r,K=>if r<2∨r∈K then K else om F k (F.getD (r-2) default).hi (om F k (F.getD (r-2) default).lo K)++[r]
theorem QU(hg:Go.Dg.Good n F):∀(k r:Nat) (K:List Nat),r<F.length+2→∀x∈om F k r K,x∈K∨x≤r:=by
 intro k
 induction k with
 |zero=>intro r K _ x hx;exact .inl hx
 |succ k ih=>
  intro r K hr x hx
  unfold om at hx
  split at hx
  ·exact .inl hx
  ·rename_i hc
   have ho:=hg.ok (r-2) (by omega)
   have h1:=ho.lo;have h3:=ho.hi
   rcases List.mem_append.1 hx with hx|hx
   ·rcases ih _ _ (by omega) x hx with h|h
    ·rcases ih _ _ (by omega) x h with h|h
     ·exact .inl h
     ·exact .inr (by omega)
    ·exact .inr (by omega)
   ·rw[List.mem_singleton.1 hx];exact .inr (Nat.le_refl _)
abbrev Bw(n:Nat)(z:Bool)(F:List Fo)(N:Nat)(rt:Int)(zp:Bool)(ps:List RV)(np:Nat):List AV:=[.pt 0 0,.ipt [.val (.int .i64 n),.isl z (cR F) N,.val (.int .i64 rt)] 0,.pt 1 0,.ipt [.isl zp (cR ps) np] 0,.pt 2 0]
abbrev oD(n:Nat)(z:Bool)(F:List Fo)(N:Nat)(rt:Int)(zp:Bool)(ps:List RV)(np:Nat)(M:List (List Int×AV)):List aD:=[.cells [.mp 3] 110,.cells [.pt 4 0] 79,.cells [.fn 81 (Bw n z F N rt zp ps np)] 111,.map false 1 M,bD]
theorem YJ{M:List (List Int×AV)} {p:Nat→Rat} {F0:List Fo}(hM:M=knR p F0 K)(hr:r<2)(hn:ACall Tryz.prog 53 [.val (.int .i64 (1-(r:Int)))] [] 0 (.agg (aa.cells W)) []):ACall Tryz.prog 81 (.val (.int .i64 r)::Bw n z F N rt zp ps np) (oD n z F N rt zp ps np M) 5 (.agg (aa.cells W)) (oD n z F N rt zp ps np M):=by
 subst hM
 have hn:=PLift.up hn
 unfold Bw oD
 refine ak Tryz.func81 Tryz.ntmps81 rfl ?_
 repeat' (first|refine zqN ?_|refine az hn.down ?_|refine aK ?_|refine aL ?_|(refine aM ?_ ?_<;>intro hc<;>try exact zqM)|refine zqR 7 [⟨0,[],[11,33,34,35,36,37,38,39,40,41],[2],[],0⟩,⟨1,[],[11,32,34,35,38,39,40,41],[2],[],0⟩,⟨2,[],[11,32,33,38,39,40,41],[2],[],0⟩,⟨3,[2],[11,32,33,38,39,40,41],[2],[],0⟩,⟨4,[1,2,3],[11,32,38,39,40,41],[2],[],0⟩,⟨5,[1,2,3,4],[11,32,38,39,40,41],[2],[],0⟩,⟨6,[],[11,32,33,34,35,36,37,39,40],[],[],0⟩,⟨7,[],[11,32,33,34,35,36,37,38],[],[],0⟩,⟨8,[7],[11,32,33,34,35,36,37,38],[],[],0⟩,⟨9,[6,7,8],[11,32,33,34,35,36,37],[],[2],0⟩,⟨10,[0,1,2,3,4,5,6,7,8,9],[11],[],[],0⟩,⟨11,[],[32,33,34,35,36,37,38,39,40,41,42],[2],[],1⟩,⟨12,[0,1,2,3,4,5,6,7,8,9,10,11],[],[],[2],0⟩] ?_|refine zqR 8 [⟨0,[],[12,44,45,46,47,48,49,50,51,52,53,54],[2],[],0⟩,⟨1,[],[12,43,45,46,47,48,49,51,52,53],[],[],0⟩,⟨2,[],[12,43,44,46,47,51,52,53],[],[],0⟩,⟨3,[],[12,43,44,45,51,52,53],[],[],0⟩,⟨4,[3],[12,43,44,45,51,52,53],[],[],0⟩,⟨5,[2,3,4],[12,43,44,51,52,53],[],[],0⟩,⟨6,[2,3,4,5],[12,43,44,51,52,53],[],[],0⟩,⟨7,[1,2,3,4,5,6],[12,43,51,52,53],[],[],0⟩,⟨8,[],[12,43,44,45,46,47,48,49,50,52,53],[],[],0⟩,⟨9,[],[12,43,44,45,46,47,48,49,50,51],[],[],0⟩,⟨10,[9],[12,43,44,45,46,47,48,49,50,51],[],[],0⟩,⟨11,[1,2,3,4,5,6,7,8,9,10],[12,43],[],[2],0⟩,⟨12,[0,1,2,3,4,5,6,7,8,9,10,11],[12],[],[],0⟩,⟨13,[],[43,44,45,46,47,48,49,50,51,52,53,54,55],[2],[],1⟩,⟨14,[0,1,2,3,4,5,6,7,8,9,10,11,12,13],[],[],[2],0⟩] ?_|refine zqR 9 [⟨0,[],[57,58,59,60,61],[],[],0⟩,⟨1,[],[56,58,59,60,61],[],[],0⟩,⟨2,[],[56,57,59,60],[],[],0⟩,⟨3,[],[56,57,58,60],[],[],0⟩,⟨4,[],[56,57,58,59],[],[],0⟩,⟨5,[2,3,4],[56,57],[],[],0⟩,⟨6,[0,1,2,3,4,5],[],[],[2],0⟩] ?_|refine zqD ?_|fail)
 all_goals first
  |((refine Ends.mk2 zqI [0,1,2,3,4] ?_;simp-dsimp(disch:=try exact vD) only[push_cast,simprocAttr,Tryz.f81];try exact zqF);done)
  |skip
theorem adX(ha:cK (knR p F K) [(j:Int)+1+1]=some (.agg (aa.cells W))):ACall Tryz.prog 81 (.val (.int .i64 ((j:Int)+1+1))::Bw n z F N rt zp ps np) (oD n z F N rt zp ps np (knR p F K)) 5 (.agg (aa.cells W)) (oD n z F N rt zp ps np (knR p F K)):=by
 have zx1:¬(j:Int)+1+1<2:=by omega
 unfold Bw oD
 refine ak Tryz.func81 Tryz.ntmps81 rfl ?_
 have zx2:= @ha;have zx3:=aC;repeat' (first|refine zqN ?_|refine bM ?_|refine bO ?_|(refine bP ?_ ?_<;>intro hc<;>try exact zqM)|refine zqR 7 [⟨0,[],[11,33,34,35,36,37,38,39,40,41],[2],[],0⟩,⟨1,[],[11,32,34,35,38,39,40,41],[2],[],0⟩,⟨2,[],[11,32,33,38,39,40,41],[2],[],0⟩,⟨3,[2],[11,32,33,38,39,40,41],[2],[],0⟩,⟨4,[1,2,3],[11,32,38,39,40,41],[2],[],0⟩,⟨5,[1,2,3,4],[11,32,38,39,40,41],[2],[],0⟩,⟨6,[],[11,32,33,34,35,36,37,39,40],[],[],0⟩,⟨7,[],[11,32,33,34,35,36,37,38],[],[],0⟩,⟨8,[7],[11,32,33,34,35,36,37,38],[],[],0⟩,⟨9,[6,7,8],[11,32,33,34,35,36,37],[],[2],0⟩,⟨10,[0,1,2,3,4,5,6,7,8,9],[11],[],[],0⟩,⟨11,[],[32,33,34,35,36,37,38,39,40,41,42],[2],[],1⟩,⟨12,[0,1,2,3,4,5,6,7,8,9,10,11],[],[],[2],0⟩] ?_|refine zqR 8 [⟨0,[],[12,44,45,46,47,48,49,50,51,52,53,54],[2],[],0⟩,⟨1,[],[12,43,45,46,47,48,49,51,52,53],[],[],0⟩,⟨2,[],[12,43,44,46,47,51,52,53],[],[],0⟩,⟨3,[],[12,43,44,45,51,52,53],[],[],0⟩,⟨4,[3],[12,43,44,45,51,52,53],[],[],0⟩,⟨5,[2,3,4],[12,43,44,51,52,53],[],[],0⟩,⟨6,[2,3,4,5],[12,43,44,51,52,53],[],[],0⟩,⟨7,[1,2,3,4,5,6],[12,43,51,52,53],[],[],0⟩,⟨8,[],[12,43,44,45,46,47,48,49,50,52,53],[],[],0⟩,⟨9,[],[12,43,44,45,46,47,48,49,50,51],[],[],0⟩,⟨10,[9],[12,43,44,45,46,47,48,49,50,51],[],[],0⟩,⟨11,[1,2,3,4,5,6,7,8,9,10],[12,43],[],[2],0⟩,⟨12,[0,1,2,3,4,5,6,7,8,9,10,11],[12],[],[],0⟩,⟨13,[],[43,44,45,46,47,48,49,50,51,52,53,54,55],[2],[],1⟩,⟨14,[0,1,2,3,4,5,6,7,8,9,10,11,12,13],[],[],[2],0⟩] ?_|refine zqR 9 [⟨0,[],[57,58,59,60,61],[],[],0⟩,⟨1,[],[56,58,59,60,61],[],[],0⟩,⟨2,[],[56,57,59,60],[],[],0⟩,⟨3,[],[56,57,58,60],[],[],0⟩,⟨4,[],[56,57,58,59],[],[],0⟩,⟨5,[2,3,4],[56,57],[],[],0⟩,⟨6,[0,1,2,3,4,5],[],[],[2],0⟩] ?_|refine zqD ?_|fail)
 all_goals first
  |((refine Ends.mk2 zqI [0,1,2,3,4] ?_;simp-dsimp(disch:=try exact vD) only[push_cast,simprocAttr,Tryz.f81,ha];try exact zqF);done)
  |skip
theorem adY{P:RV}(hN:F.length=N)(hN2:N<2^40)(hj:j<N)(hps:ps.length=np)(hnp:np≤1000)(hv:(F.getD j default).v<np)(hP:ps.getD (F.getD j default).v default=P)
 (ha:cK (knR p F K) [(j:Int)+1+1]=none) (hput:mM (knR p F K2) [(j:Int)+1+1] (.agg (aa.cells W))=knR p F K3) (ha3:cK (knR p F K3) [(j:Int)+1+1]=some (.agg (aa.cells W)))
 (h1:ACall Tryz.prog 81 (.val (.int .i64 (F.getD j default).lo)::Bw n z F N rt zp ps np) (oD n z F N rt zp ps np (knR p F K)) 5 (.agg (aa.cells L)) (oD n z F N rt zp ps np (knR p F K1)))
 (h2:ACall Tryz.prog 81 (.val (.int .i64 (F.getD j default).hi)::Bw n z F N rt zp ps np) (oD n z F N rt zp ps np (knR p F K1)) 5 (.agg (aa.cells H)) (oD n z F N rt zp ps np (knR p F K2)))
 (m1:ACall Tryz.prog 66 [.pt 0 0,.agg (aa.cells P),.agg (aa.cells L)] [bD] 1 (.agg (aa.cells M1)) [bD])
 (nt:ACall Tryz.prog 65 [.pt 0 0,.agg (aa.cells P)] [bD] 1 (.agg (aa.cells M2)) [bD])
 (m2:ACall Tryz.prog 66 [.pt 0 0,.agg (aa.cells M2),.agg (aa.cells H)] [bD] 1 (.agg (aa.cells M3)) [bD])
 (ad:ACall Tryz.prog 67 [.pt 0 0,.agg (aa.cells M1),.agg (aa.cells M3)] [bD] 1 (.agg (aa.cells W)) [bD]):
 ACall Tryz.prog 81 (.val (.int .i64 ((j:Int)+1+1))::Bw n z F N rt zp ps np) (oD n z F N rt zp ps np (knR p F K)) 5 (.agg (aa.cells W)) (oD n z F N rt zp ps np (knR p F K3)):=by
 have zx1:¬(j:Int)+1+1<2:=by omega
 rw[aB W] at hput
 subst hP
 have v1:=PLift.up h1;have v2:=PLift.up h2;have m1:=PLift.up m1;have nt:=PLift.up nt;have m2:=PLift.up m2;have ad:=PLift.up ad
 clear h1 h2
 unfold Bw oD bD at*
 refine ak Tryz.func81 Tryz.ntmps81 rfl ?_
 have zx2:= @ha;have zx3:= @hput;have zx4:= @ha3;have zx5:= @uG;have zx6:= @WO;have zx7:= @cz;have zx8:=aC;have zx9:=aC;repeat' (first|refine zqN ?_|((first|refine ay rfl (fun K hK=>?_)|refine aj (fun K hK=>?_)|refine gM [0,1,2,4] (fun K hK=>?_));refine bq (f:=81) (dst:=some 41) [0,1,2,3,4] 5 false ?_;refine JC ?_;refine⟨_,_,v1.down,?_⟩;refine qV ?_;apply hK;clear hK K)|((first|refine ay rfl (fun K hK=>?_)|refine aj (fun K hK=>?_)|refine gM [0,1,2,4] (fun K hK=>?_));refine bq (f:=81) (dst:=some 54) [0,1,2,3,4] 5 false ?_;refine JC ?_;refine⟨_,_,v2.down,?_⟩;refine qV ?_;apply hK;clear hK K)|((first|refine ay rfl (fun K hK=>?_)|refine aj (fun K hK=>?_)|refine aA (fun K hK=>?_));(first|refine ah (f:=66) (dst:=some 42) [4] 1 false ?_|refine ah (f:=66) (dst:=some 55) [4] 1 false ?_|refine ah (f:=65) [4] 1 false ?_|refine ah (f:=67) [4] 1 false ?_);refine JC ?_;(first|refine⟨_,_,m1.down,?_⟩|refine⟨_,_,m2.down,?_⟩|refine⟨_,_,nt.down,?_⟩|refine⟨_,_,ad.down,?_⟩);refine qV ?_;apply hK;clear hK K)|refine uz ?_|refine uA ?_|(refine uB ?_ ?_<;>intro hc<;>try exact zqM)|refine zqR 7 [⟨0,[],[11,33,34,35,36,37,38,39,40,41],[6],[],0⟩,⟨1,[],[11,32,34,35,38,39,40,41],[6],[],0⟩,⟨2,[],[11,32,33,38,39,40,41],[6],[],0⟩,⟨3,[2],[11,32,33,38,39,40,41],[6],[],0⟩,⟨4,[1,2,3],[11,32,38,39,40,41],[6],[],0⟩,⟨5,[1,2,3,4],[11,32,38,39,40,41],[6],[],0⟩,⟨6,[],[11,32,33,34,35,36,37,39,40],[],[],0⟩,⟨7,[],[11,32,33,34,35,36,37,38],[],[],0⟩,⟨8,[7],[11,32,33,34,35,36,37,38],[],[],0⟩,⟨9,[6,7,8],[11,32,33,34,35,36,37],[],[6],0⟩,⟨10,[0,1,2,3,4,5,6,7,8,9],[11],[],[7],0⟩,⟨11,[],[32,33,34,35,36,37,38,39,40,41,42],[6,7],[],1⟩,⟨12,[0,1,2,3,4,5,6,7,8,9,10,11],[],[],[2],0⟩] ?_|refine zqR 8 [⟨0,[],[12,44,45,46,47,48,49,50,51,52,53,54],[6,7],[],0⟩,⟨1,[],[12,43,45,46,47,48,49,51,52,53],[],[],0⟩,⟨2,[],[12,43,44,46,47,51,52,53],[],[],0⟩,⟨3,[],[12,43,44,45,51,52,53],[],[],0⟩,⟨4,[3],[12,43,44,45,51,52,53],[],[],0⟩,⟨5,[2,3,4],[12,43,44,51,52,53],[],[],0⟩,⟨6,[2,3,4,5],[12,43,44,51,52,53],[],[],0⟩,⟨7,[1,2,3,4,5,6],[12,43,51,52,53],[],[7],0⟩,⟨8,[],[12,43,44,45,46,47,48,49,50,52,53],[7],[],0⟩,⟨9,[],[12,43,44,45,46,47,48,49,50,51],[7],[],0⟩,⟨10,[9],[12,43,44,45,46,47,48,49,50,51],[7],[],0⟩,⟨11,[1,2,3,4,5,6,7,8,9,10],[12,43],[],[6],0⟩,⟨12,[0,1,2,3,4,5,6,7,8,9,10,11],[12],[],[7],0⟩,⟨13,[],[43,44,45,46,47,48,49,50,51,52,53,54,55],[6,7],[],1⟩,⟨14,[0,1,2,3,4,5,6,7,8,9,10,11,12,13],[],[],[2],0⟩] ?_|refine zqR 9 [⟨0,[],[57,58,59,60,61],[7],[],0⟩,⟨1,[],[56,58,59,60,61],[7],[],0⟩,⟨2,[],[56,57,59,60],[],[],0⟩,⟨3,[],[56,57,58,60],[],[],0⟩,⟨4,[],[56,57,58,59],[],[],0⟩,⟨5,[2,3,4],[56,57],[],[7],0⟩,⟨6,[0,1,2,3,4,5],[],[],[2],0⟩] ?_|refine zqD ?_|fail)
 all_goals first
  |((refine Ends.mk2 zqI [0,1,2,3,4] ?_;simp-dsimp(disch:=try exact vD) only[push_cast,simprocAttr,Tryz.f81,ha,hput,ha3];try exact zqF);done)
  |skip
