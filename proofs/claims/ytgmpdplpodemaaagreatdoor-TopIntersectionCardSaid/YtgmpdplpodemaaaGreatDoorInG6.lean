/- In6 In7 In9. No condition. -/
import Derived.Test.YtgmpdplpodemaaaGreatDoorInG1
set_option linter.all false
set_option maxHeartbeats 4000000
set_option maxRecDepth 20000
namespace Go.Proofs.YtgmpdplpodemaaaGreatDoor
section
open Go Go.Sy Go.Bp Go.Dg
attribute [local irreducible] AO AL AC OpT ACall Ends DGo aN Thn Blk Nxt
variable {p q:Nat→Bool} {k a b s v o i m S b0:Nat} {f g:List Nat} {t l r:Ct} {x:Ex}
theorem ahu{h g:Int→Bool} {ns:List Nd}(hg:∀t∈ns,t.kind=1→h t.server=g t.server):∀acc,adD h acc ns=adD g acc ns:=by
 induction ns with
 |nil=>intro acc;rfl
 |cons t ns ih=>
  intro acc
  have e:evN h acc t=evN g acc t:=by
   unfold evN
   by_cases hk:t.kind=1
   ·rw[hg t (by simp) hk]
   ·simp[hk]
  simp only[adD,e]
  exact ih (fun u hu=>hg u (by simp[hu])) _
structure XF(x:Ex)(S:Nat)(f:List Nat):Prop where
 ok:XOk x
 sv:svS x x.nodes.length=S
 s6:S<64
 fam:mB (kL x) (dW S) (dW S).length=f
theorem XF.on(h:XF x S f)(q:Nat):kL x (bP q S)=kL x q:=by
 show hold (aeF (bP q S%65536)) x=hold (aeF (q%65536)) x
 unfold hold
 rw[ahu (fun t ht hk=>?_)]
 obtain⟨j,hj,rfl⟩:=List.getElem_of_mem ht
 have hs:=(h.ok.node j hj).srv
 have e:x.nodes.getD j default=x.nodes[j]:=by rw[List.getD_eq_getElem?_getD,List.getElem?_eq_getElem hj];rfl
 rw[e] at hs
 obtain⟨i,hi⟩:=Int.eq_ofNat_of_zero_le hs.1
 rw[hi,agy,agy]
 have hb:S.testBit i=true:=by
  rw[←h.sv]
  exact(agK fun k hk=>((h.ok.node k hk).srv).1).2 ⟨j,hj,by rw[e];exact hk,by rw[e];exact hi⟩
 have h16:i<16:=by omega
 have:=iy (x:=q) (y:=S) (i:=i)
 unfold bit at this
 rw[this,oW h16 (s:=S),hb,Bool.and_true]
theorem XF.min(h:XF x S f):sW 6 (kL x) f:=by
 rw[←h.fam]
 exact aai (by omega) h.s6 fun t _=>h.on t
theorem XF.mono(h:XF x S f):Z5 6 (kL x):=fun t i ht hi hh=>by
 refine af6 h.ok (fun k hk=>?_) hh
 unfold aeF at hk⊢
 have h2:=Ay (n:=6) hi ht
 rw[Nat.mod_eq_of_lt (by omega)] at hk⊢
 rw[Az,hk];rfl
theorem XF.has6(h:XF x S f)(hq:v<64):eO f v=kL x v:=(OA (by omega) h.min).1 h.mono v hq
theorem XF.sub(h:XF x S f)(hm:m∈f):m<64∧dJ m S%65536=0:=by
 rw[←h.fam,xQ h.s6 _ (Nat.le_refl _)] at hm
 exact(jm h.s6).1 (List.mem_of_mem_take (List.mem_filter.1 hm).1)
theorem XF.has(h:XF x S f)(q:Nat):kL x q=eO f q:=by
 have hl:bP q S<64:=Nat.lt_of_le_of_lt Nat.and_le_right h.s6
 rw[←h.on q,←h.has6 hl,Bool.eq_iff_iff,jl,jl]
 constructor
 ·rintro⟨m,h1,h2⟩
  exact⟨m,h1,dR.2 fun i hi=>by have:=dR.1 h2 i hi;rw[iy,Bool.and_eq_true] at this;exact this.1⟩
 ·rintro⟨m,h1,h2⟩
  exact⟨m,h1,dR.2 fun i hi=>by rw[iy,dR.1 h2 i hi,dR.1 (h.sub h1).2 i hi];rfl⟩
theorem XF.fe(h:XF x S f):pR f=0:=Oy (by omega) h.min
theorem XF.len(h:XF x S f):f.length≤64:=by
 have:=(j6 S h.s6).1
 rw[←h.fam,xQ h.s6 _ (Nat.le_refl _),List.take_length]
 exact Nat.le_trans (List.length_filter_le _ _) this
theorem afA:∀s,s<64→¬s%65536=0→low s<6∧bit s (low s)=true∧dJ s (bL s)<64∧aA (dJ s (bL s)) 16<aA s 16:=by decide+kernel
theorem agL(h:low s<16):bit (bL s) i=decide (i=low s):=aho h
theorem afR:bit (dJ 4095 b) i=(decide (i<12)&& !bit b i):=by
 rw[xO]
 show(bit (Oa 12) i&&_)=_
 rw[CY (by omega)]
def Av(m b:Nat):Prop:=∀i,bit m i=true→bit b i=false
theorem aeN(hf:∀m∈f,m<64):eO f (dJ 4095 b)=true↔∃m∈f,Av m b:=by
 rw[jl]
 constructor
 ·rintro⟨m,h1,h2⟩
  exact⟨m,h1,fun i hi=>by have:=dR.1 h2 i hi;rw[afR,Bool.and_eq_true,Bool.not_eq_true'] at this;exact this.2⟩
 ·rintro⟨m,h1,h2⟩
  refine⟨m,h1,dR.2 fun i hi=>?_⟩
  have h12:i<12:=by
   have hm:=hf m h1
   have h16:=FK hi
   rw[jM h16] at hi
   refine Decidable.not_not.1 fun hc=>?_
   have:2^12≤2^i:=Nat.pow_le_pow_right (by omega) (by omega)
   rw[Nat.testBit_lt_two_pow (by omega)] at hi;cases hi
  rw[afR,h2 i hi,decide_eq_true h12];rfl
def Lft(f g:List Nat)(a b s:Nat):Prop:=∃X∈f,∃Y∈g,Av X b∧Av Y a∧∀i,bit s i=true→¬(bit X i=true∧bit Y i=true)
structure PQ(p q:Nat→Bool)(f g:List Nat):Prop where
 p:∀s,p s=eO f s
 q:∀s,q s=eO g s
 f:∀m∈f,m<64
 g:∀m∈g,m<64
theorem ahv(h:PQ p q f g):∀k a b s,s<64→aA s 16<k→(prT p q k a b s=none↔Lft f g a b s):=by
 intro k
 induction k with
 |zero=>intro a b s _ hk;omega
 |succ k ih=>
  intro a b s hs hk
  cases h1:p (dJ 4095 b) with
  |false=>
   rw[afL h1]
   refine⟨fun h=>(by cases h),fun⟨X,hX,_,_,hA,_⟩=>?_⟩
   rw[h.p,(aeN h.f).2 ⟨X,hX,hA⟩] at h1;cases h1
  |true=>
   cases h2:q (dJ 4095 a) with
   |false=>
    rw[afM h1 h2]
    refine⟨fun h=>(by cases h),fun⟨_,_,Y,hY,_,hA,_⟩=>?_⟩
    rw[h.q,(aeN h.g).2 ⟨Y,hY,hA⟩] at h2;cases h2
   |true=>
    by_cases h3:s%65536=0
    ·rw[afN h1 h2 h3]
     refine⟨fun _=>?_,fun _=>rfl⟩
     rw[h.p] at h1;rw[h.q] at h2
     obtain⟨X,hX,hA⟩:=(aeN h.f).1 h1
     obtain⟨Y,hY,hB⟩:=(aeN h.g).1 h2
     exact⟨X,hX,Y,hY,hA,hB,fun i hi=>by rw[Od.1 h3 i (FK hi)] at hi;cases hi⟩
    ·obtain⟨l6,lb,d6,dm⟩:=afA s hs h3
     have hbl:=fun i=>agL (s:=s) (i:=i) (by omega)
     have i1:=ih (sor a (bL s)) b (dJ s (bL s)) d6 (by omega)
     have i2:=ih a (sor b (bL s)) (dJ s (bL s)) d6 (by omega)
     rw[afO h1 h2 h3]
     have key:Lft f g a b s↔Lft f g (sor a (bL s)) b (dJ s (bL s))∨Lft f g a (sor b (bL s)) (dJ s (bL s)):=by
      constructor
      ·rintro⟨X,hX,Y,hY,hA,hB,hn⟩
       cases hy:bit Y (low s) with
       |false=>
        refine .inl ⟨X,hX,Y,hY,hA,fun i hi=>?_,fun i hi=>hn i ?_⟩
        ·rw[UC,hB i hi,hbl]
         by_cases e:i=low s
         ·subst e;rw[hy] at hi;cases hi
         ·rw[decide_eq_false e];rfl
        ·rw[xO,Bool.and_eq_true] at hi;exact hi.1
       |true=>
        refine .inr ⟨X,hX,Y,hY,fun i hi=>?_,hB,fun i hi=>hn i ?_⟩
        ·rw[UC,hA i hi,hbl]
         by_cases e:i=low s
         ·subst e;exact absurd ⟨hi,hy⟩ (hn _ lb)
         ·rw[decide_eq_false e];rfl
        ·rw[xO,Bool.and_eq_true] at hi;exact hi.1
      ·rintro(⟨X,hX,Y,hY,hA,hB,hn⟩|⟨X,hX,Y,hY,hA,hB,hn⟩)
       ·refine⟨X,hX,Y,hY,hA,fun i hi=>?_,fun i hi hc=>?_⟩
        ·have:=hB i hi
         rw[UC,Bool.or_eq_false_iff] at this;exact this.1
        ·by_cases e:i=low s
         ·have:=hB i hc.2
          rw[UC,hbl,decide_eq_true e,Bool.or_true] at this;cases this
         ·exact hn i (by rw[xO,hi,hbl,decide_eq_false e];rfl) hc
       ·refine⟨X,hX,Y,hY,fun i hi=>?_,hB,fun i hi hc=>?_⟩
        ·have:=hA i hi
         rw[UC,Bool.or_eq_false_iff] at this;exact this.1
        ·by_cases e:i=low s
         ·have:=hA i hc.1
          rw[UC,hbl,decide_eq_true e,Bool.or_true] at this;cases this
         ·exact hn i (by rw[xO,hi,hbl,decide_eq_false e];rfl) hc
     rw[key,←i1,←i2]
     cases e1:prT p q k (sor a (bL s)) b (dJ s (bL s)) with
     |none=>exact⟨fun _=> .inl rfl,fun _=>rfl⟩
     |some l=>
      cases e2:prT p q k a (sor b (bL s)) (dJ s (bL s)) with
      |none=>exact⟨fun _=> .inr rfl,fun _=>rfl⟩
      |some r=>exact⟨fun h=>(by cases h),fun h=>(by rcases h with h|h<;>cases h)⟩
def Crt(p q:Nat→Bool)(b0:Nat):Nat→Nat→Ct→Prop
 |a,b,.a=>p (dJ 4095 b)=false
 |a,b,.b=>q (dJ 4095 a)=false
 |a,b,.n i l r=>i<12∧bP (2^i) (sor (sor b0 a) b)%65536=0∧Crt p q b0 (sor a (2^i)) b l∧Crt p q b0 a (sor b (2^i)) r
theorem ahw:∀k a b s t,s<64→prT p q k a b s=some t→(∀i,bit s i=true→bit b0 i=false∧bit a i=false∧bit b i=false)→Crt p q b0 a b t∧LbT t:=by
 intro k
 induction k with
 |zero=>intro a b s t _ h;cases h
 |succ k ih=>
  intro a b s t hs h hd
  cases h1:p (dJ 4095 b) with
  |false=>rw[afL h1] at h;cases h;exact⟨h1,trivial⟩
  |true=>
   cases h2:q (dJ 4095 a) with
   |false=>rw[afM h1 h2] at h;cases h;exact⟨h2,trivial⟩
   |true=>
    by_cases h3:s%65536=0
    ·rw[afN h1 h2 h3] at h;cases h
    ·rw[afO h1 h2 h3] at h
     obtain⟨l6,lb,d6,dm⟩:=afA s hs h3
     have hbl:=fun i=>agL (s:=s) (i:=i) (by omega)
     cases e1:prT p q k (sor a (bL s)) b (dJ s (bL s)) with
     |none=>rw[e1] at h;cases h
     |some l=>
      rw[e1] at h
      cases e2:prT p q k a (sor b (bL s)) (dJ s (bL s)) with
      |none=>rw[e2] at h;cases h
      |some r=>
       rw[e2] at h;cases h
       have c1:=ih _ _ _ _ d6 e1 fun i hi=>by
        rw[xO,hbl,Bool.and_eq_true,Bool.not_eq_true',decide_eq_false_iff_not] at hi
        obtain⟨x1,x2,x3⟩:=hd i hi.1
        refine⟨x1,?_,x3⟩
        rw[UC,x2,hbl,decide_eq_false hi.2];rfl
       have c2:=ih _ _ _ _ d6 e2 fun i hi=>by
        rw[xO,hbl,Bool.and_eq_true,Bool.not_eq_true',decide_eq_false_iff_not] at hi
        obtain⟨x1,x2,x3⟩:=hd i hi.1
        refine⟨x1,x2,?_⟩
        rw[UC,x3,hbl,decide_eq_false hi.2];rfl
       refine⟨⟨by omega,?_,c1.1,c2.1⟩,⟨by omega,c1.2,c2.2⟩⟩
       refine Od.2 fun i hi=>?_
       rw[iy,UC,UC]
       by_cases e:i=low s
       ·subst e
        obtain⟨x1,x2,x3⟩:=hd _ lb
        rw[x1,x2,x3,Bool.or_false,Bool.or_false,Bool.and_false]
       ·have:=hbl i
        unfold bL at this
        rw[this,decide_eq_false e];rfl
def dS(S T b:Nat):Nat:=dJ (sor S T) b
theorem agM(hS:S<64)(hT:v<64):dS S v b<64:=by
 have:sor S v<2^6:=Nat.or_lt_two_pow hS hT
 exact Nat.lt_of_le_of_lt Nat.and_le_left this
theorem afS{x b y:Nat}:vio x b y=true↔∀i,bit x i=true→bit y i=true→bit b i=true:=by
 unfold vio
 rw[decide_eq_true_eq,dR]
 constructor
 ·intro h i h1 h2;exact h i (by rw[iy,h1,h2];rfl)
 ·intro h i h1;rw[iy,Bool.and_eq_true] at h1;exact h i h1.1 h1.2
theorem afT:∀s,s<64→aA s 16<7:=by decide+kernel
theorem agN(h:PQ p q f g)(hS:S<64)(hv:v<64)(hf:∀m∈f,dJ m S%65536=0):prT p q 7 0 0 (dS S v b)=none↔f.any (adQ g b)=true:=by
 have hl:=agM (b:=b) hS hv
 rw[ahv h 7 0 0 _ hl (afT _ hl),List.any_eq_true]
 constructor
 ·rintro⟨X,hX,Y,hY,_,_,hn⟩
  refine⟨X,hX,List.any_eq_true.2 ⟨Y,hY,afS.2 fun i h1 h2=>?_⟩⟩
  cases hb:bit b i with
  |true=>rfl
  |false=>exact absurd ⟨h1,h2⟩ (hn i (by unfold dS;rw[xO,UC,hb,dR.1 (hf X hX) i h1];rfl))
 ·rintro⟨X,hX,hY⟩
  obtain⟨Y,hY,hv⟩:=List.any_eq_true.1 hY
  refine⟨X,hX,Y,hY,fun i _=>zA,fun i _=>zA,fun i hi hc=>?_⟩
  have:=afS.1 hv i hc.1 hc.2
  unfold dS at hi
  rw[xO,this] at hi
  simp at hi
theorem agO(hS:S<64)(hv:v<64)(h:prT p q 7 0 0 (dS S v b)=some t):Crt p q b 0 0 t∧LbT t:=
 ahw 7 0 0 _ t (agM hS hv) h fun i hi=>by
  unfold dS at hi
  rw[xO,Bool.and_eq_true,Bool.not_eq_true'] at hi
  exact⟨hi.2,zA,zA⟩
end
section
open Go Go.Sy Go.Bp Go.Dg
attribute [local irreducible] AO AL AC OpT ACall Ends DGo aN Thn Blk Nxt
structure Pc where
 kind:Int
 server:Int
 need:Int
 hv:Bool
 kz:Bool
 k:List Int
instance:Inhabited Pc:=⟨⟨0,0,0,false,true,[]⟩⟩
instance:aa Pc 5:=⟨fun p=>[.val (.int .u8 p.kind),.val (.int .u8 p.server),.val (.int .u8 p.need),.val (.bool p.hv),.isl p.kz (cI .u8 p.k) p.k.length],fun _=>rfl,fun _=>rfl,fun _=>rfl⟩
theorem adL(p:Pc):aa.cells p=[.val (.int .u8 p.kind),.val (.int .u8 p.server),.val (.int .u8 p.need),.val (.bool p.hv),.isl p.kz (cI .u8 p.k) p.k.length]:=rfl
structure adT(p:Pc):Prop where
 kind:0≤p.kind∧p.kind≤255
 server:0≤p.server∧p.server≤255
 need:0≤p.need∧p.need≤255
 k:∀j,0≤p.k.getD j default∧p.k.getD j default≤255
 len:p.k.length<2^47
variable {p:Pc} {x:Ex} {l:List Pc} {i j m n:Nat} {z:Bool}
def agP(p:Pc)(i j:Nat):Int:=p.k.getD j default%(i:Int)
def agQ(p:Pc)(j:Nat):Int:=1+p.k.getD j default/16%4
def adI(p:Pc)(i j:Nat):List Int:=(List.range j).map (agP p i)
def adN(p:Pc)(j:Nat):List Int:=(List.range j).map (agQ p)
theorem agR:adI p i j++[agP p i j]=adI p i (j+1):=by unfold adI;rw[List.range_succ,List.map_append];rfl
theorem agS:adN p j++[agQ p j]=adN p (j+1):=by unfold adN;rw[List.range_succ,List.map_append];rfl
theorem agT(h:j=0):adI p i j=[]:=by subst h;rfl
theorem agU(h:j=0):adN p j=[]:=by subst h;rfl
theorem kidL_len:(adI p i j).length=j:=by unfold adI;simp
theorem wgtL_len:(adN p j).length=j:=by unfold adN;simp
def kdM(p:Pc):Nat:=min p.k.length 5
def aaT(p:Pc)(i:Nat):Nd:=⟨2,0,0,!p.hv||kdM p==0,if p.hv then adN p (kdM p) else [],kdM p==0,adI p i (kdM p)⟩
def aew(p:Pc)(i:Nat):Nd:=
 if i=0∨p.kind%3=0 then⟨1,p.server%6,0,true,[],true,[]⟩ else{aaT p i with need:=p.need%(wtS (aaT p i) (kdM p)+2)}
def ze(l:List Pc)(j:Nat):List Nd:=(List.range j).map fun i=>aew (l.getD i default) i
def nM(l:List Pc):Nat:=min l.length 9
def afe(l:List Pc):Ex:=if l.length=0 then⟨false,[⟨1,0,0,true,[],true,[]⟩],0⟩ else⟨false,ze l (nM l),((nM l:Nat):Int)-1⟩
theorem aeA:ze l j++[aew (l.getD j default) j]=ze l (j+1):=by unfold ze;rw[List.range_succ,List.map_append];rfl
theorem ahx(h:j=0):ze l j=[]:=by subst h;rfl
theorem aaS:(ze l j).length=j:=by unfold ze;simp
theorem agV(h:i<j):(ze l j).getD i default=aew (l.getD i default) i:=by
 unfold ze
 rw[List.getD_eq_getElem?_getD,List.getElem?_map,List.getElem?_range h];rfl
theorem ahy(hp:adT p)(hi:0<i):0≤agP p i j∧agP p i j<i:=by
 unfold agP
 exact⟨Int.emod_nonneg _ (by omega),Int.emod_lt_of_pos _ (by omega)⟩
theorem ahz(hp:adT p):1≤agQ p j∧agQ p j≤4:=by
 unfold agQ
 omega
theorem aeB(hp:adT p)(hi:0<i):NOk (aaT p i) i:=by
 refine⟨.inr rfl,⟨by show(0:Int)≤0;omega,by show(0:Int)<12;omega⟩,fun h=>(by cases h),fun _=>rfl,⟨by show(0:Int)≤0;omega,by show(0:Int)≤100000;omega⟩,fun w hw=>?_,fun hw=>?_,fun k hk=>?_⟩
 ·unfold aaT at hw
  dsimp only at hw
  split at hw
  ·unfold adN at hw
   obtain⟨j,_,rfl⟩:=List.mem_map.1 hw
   have:=ahz (j:=j) hp;omega
  ·cases hw
 ·unfold aaT at hw⊢
  dsimp only at hw⊢
  split
  ·rw[wgtL_len,kidL_len]
  ·rename_i h;rw[if_neg h] at hw;exact absurd rfl hw
 ·unfold aaT at hk
  dsimp only at hk
  unfold adI at hk
  obtain⟨j,_,rfl⟩:=List.mem_map.1 hk
  exact ahy hp hi
theorem afs(hp:adT p)(hi:0<i):0≤wtS (aaT p i) (kdM p)∧wtS (aaT p i) (kdM p)≤5000:=by
 have:=afQ (aeB hp hi) (kdM p) (by show kdM p≤(adI p i (kdM p)).length;rw[kidL_len];exact Nat.le_refl _)
 have h5:kdM p≤5:=Nat.min_le_right _ _
 omega
theorem afU(hp:adT p):NOk (aew p i) i:=by
 unfold aew
 split
 ·refine⟨.inl rfl,⟨by show 0≤p.server%6;omega,by show p.server%6<12;omega⟩,fun _=>⟨rfl,rfl,rfl⟩,fun h=>(by cases h),⟨by show(0:Int)≤0;omega,by show(0:Int)≤100000;omega⟩,fun w hw=>(by cases hw),fun hw=>absurd rfl hw,fun k hk=>(by cases hk)⟩
 ·rename_i h
  have hi:0<i:=by omega
  have ht:=aeB hp hi
  have hs:=afs hp hi
  have hn:=hp.need
  have e1:0≤p.need%(wtS (aaT p i) (kdM p)+2):=Int.emod_nonneg _ (by omega)
  have e2:p.need%(wtS (aaT p i) (kdM p)+2)<wtS (aaT p i) (kdM p)+2:=Int.emod_lt_of_pos _ (by omega)
  exact⟨ht.kind,ht.srv,fun h=>(by cases h),ht.zero,⟨e1,by show p.need%(wtS (aaT p i) (kdM p)+2)≤100000;omega⟩,ht.ws,ht.wl,ht.ks⟩
theorem agW(hp:adT p)(hk:(aew p i).kind=1):0≤(aew p i).server∧(aew p i).server<6:=by
 unfold aew at hk⊢
 split at hk
 ·rename_i h;rw[if_pos h]
  exact⟨by show 0≤p.server%6;omega,by show p.server%6<6;omega⟩
 ·cases hk
theorem agX:(aew p i).k.length≤5∧(aew p i).w.length≤5:=by
 have h5:kdM p≤5:=Nat.min_le_right _ _
 unfold aew
 split
 ·exact⟨by show 0≤5;omega,by show 0≤5;omega⟩
 ·refine⟨by show(adI p i (kdM p)).length≤5;rw[kidL_len];exact h5,?_⟩
  show(if p.hv then adN p (kdM p) else []).length≤5
  split
  ·rw[wgtL_len];exact h5
  ·exact Nat.zero_le _
structure MOk(x:Ex):Prop where
 ok:XOk x
 va:PG x=0
 sh:afp x
 ks:KS x
 s6:svS x x.nodes.length<64
 few:x.nodes.length≤9
 len:∀j,j<x.nodes.length→0≤(x.nodes.getD j default).server∧((x.nodes.getD j default).kind=1→(x.nodes.getD j default).server<6)
theorem aiz(hk:∀j,j<x.nodes.length→0≤(x.nodes.getD j default).server∧((x.nodes.getD j default).kind=1→(x.nodes.getD j default).server<6)):svS x x.nodes.length<64:=by
 refine Nat.lt_pow_two_of_testBit (n:=6) _ fun i hi=>?_
 rw[Bool.eq_false_iff]
 intro hc
 obtain⟨k,h1,h2,h3⟩:=(agK fun k h=>(hk k h).1).1 hc
 have:=(hk k h1).2 h2
 omega
theorem afV(hl:∀j,adT (l.getD j default)):MOk (afe l):=by
 unfold afe
 split
 ·have hn:∀j,j<1→j=0:=fun j h=>by omega
  have hk:XOk ⟨false,[⟨1,0,0,true,[],true,[]⟩],0⟩:=aeE (by decide)
  exact⟨hk,by decide,⟨by show 1<2^42;decide,fun j hj=>by rw[hn j hj];exact⟨by show 0<2^47;decide,by show 0<2^47;decide⟩⟩,fun j hj=>(by rw[hn j hj];exact Nat.zero_le _),by decide,by show 1≤9;decide,fun j hj=>by rw[hn j hj];exact⟨by decide,fun _=>by decide⟩⟩
 ·rename_i h0
  have h9:nM l≤9:=Nat.min_le_right _ _
  have hp:0<nM l:=by unfold nM;omega
  generalize nM l=n at*
  have hn:∀j,j<n→(ze l n).getD j default=aew (l.getD j default) j:=fun j hj=>agV hj
  have hlen:(ze l n).length=n:=aaS
  have hsv:∀j,j<(ze l n).length→0≤((ze l n).getD j default).server∧(((ze l n).getD j default).kind=1→((ze l n).getD j default).server<6):=fun j hj=>by
   rw[hn j (by omega)]
   exact⟨(afU (hl j)).srv.1,fun h=>(agW (hl j) h).2⟩
  have hx:XOk ⟨false,ze l n,(n:Int)-1⟩:=⟨by show 0<(ze l n).length;omega,by show(ze l n).length≤60;omega,fun j hj=>by
   show NOk ((ze l n).getD j default) j
   rw[hn j (by have:j<(ze l n).length:=hj;omega)];exact afU (hl j),by show 0≤(n:Int)-1∧(n:Int)-1<((ze l n).length:Nat);omega⟩
  refine⟨hx,ae6 hx,⟨by show(ze l n).length<2^42;omega,fun j hj=>?_⟩,fun j hj=>?_,aiz hsv,by show(ze l n).length≤9;omega,hsv⟩
  ·have hj:j<(ze l n).length:=hj
   have:=agX (p:=l.getD j default) (i:=j)
   show((ze l n).getD j default).w.length<_∧((ze l n).getD j default).k.length<_
   rw[hn j (by omega)];omega
  ·have hj:j<(ze l n).length:=hj
   have:=agX (p:=l.getD j default) (i:=j)
   show((ze l n).getD j default).k.length≤1000
   rw[hn j (by omega)];omega
theorem MOk.xf{x:Ex}(h:MOk x):XF x (svS x x.nodes.length) (mB (kL x) (dW (svS x x.nodes.length)) (dW (svS x x.nodes.length)).length):=⟨h.ok,rfl,h.s6,rfl⟩
end
section
open Go Go.Sy Go.Bp Go.Dg
attribute [local irreducible] AO AL AC OpT ACall Ends DGo aN Thn Blk Nxt
variable {n N k i m a b s v o:Nat} {x y:Ex} {L:List Ch} {p q:Nat→Bool}
theorem afW:dJ 4095 b%65536<4096:=by
 have:dJ 4095 b≤4095:=Nat.and_le_left
 omega
theorem aeO(h:MOk x)(hs:s%65536<4096):ACall Tryz.prog 71 [.agg (aa.cells x),.val (.int .u16 (U s))] [] 0 (.val (.bool (kL x s))) []:=by
 have he:=PLift.up (ahs (s:=s) h.va h.sh h.ks hs)
 have e:hold (aeF (s%65536)) x=kL x s:=rfl
 rw[e] at he
 generalize kL x s=v at he⊢
 refine az Tryz.func71 Tryz.ntmps71 rfl ?_
 repeat' (first|refine zqN ?_|refine aT he.down ?_|refine bA ?_|refine bB ?_|(refine bC ?_ ?_<;>intro hc<;>try exact zqM))
 all_goals(refine Ends.mk2 zqI [] ?_;simp-dsimp(disch:=try exact vD) only[push_cast,simprocAttr,Tryz.f71];try exact zqF)
theorem afD(hx:MOk x)(hy:MOk y):ACall Tryz.prog 64 [.agg (aa.cells x),.agg (aa.cells y)] [] 0 (.val (.int .i64 0)) []:=by
 have h1:=PLift.up (aez hx.sh);have h2:=PLift.up (aez hy.sh)
 rw[hx.va] at h1;rw[hy.va] at h2
 refine az Tryz.func64 Tryz.ntmps64 rfl ?_
 repeat' (first|refine zqN ?_|((first|refine ax rfl (fun K hK=>?_)|refine ak (fun K hK=>?_));(first|(refine ah (f:=47) [] 0 false ?_;refine nG ?_;refine⟨_,_,h1.down,?_⟩;refine j5 ?_;apply hK;clear hK K)|(refine ah (f:=47) [] 0 false ?_;refine nG ?_;refine⟨_,_,h2.down,?_⟩;refine j5 ?_;apply hK;clear hK K)))|refine bA ?_|refine bB ?_|(refine bC ?_ ?_<;>intro hc<;>try exact zqM))
 all_goals(refine Ends.mk2 zqI [] ?_;simp-dsimp(disch:=try exact vD) only[push_cast,simprocAttr,Tryz.f64];try exact zqF)
def pvC(x y:Ex)(s:AV):List AV:=[.isl x.nz (cR x.nodes) x.nodes.length,.val (.int .i64 x.root),.isl y.nz (cR y.nodes) y.nodes.length,.val (.int .i64 y.root),s]
theorem ahZ{a b c:Int}:ACall Tryz.prog 115 [.pt 0 0,.agg [.val (.int .i64 a),.val (.int .i64 b),.val (.int .i64 c)]] [.cells (pvC x y (.isl true [] 0)) 123] 1 (.val (.int .i64 0)) [.cells (pvC x y (.sl 1 0 1 3)) 123,.cells (cR [(⟨a,b,c⟩:Ch)]) 130]:=by
 unfold pvC
 refine az Tryz.func115 Tryz.ntmps115 rfl ?_
 repeat' (first|refine zqN ?_|refine bA ?_|refine l5 ?_|refine nk ?_|refine nA ?_|refine bB ?_|(refine bC ?_ ?_<;>intro hc<;>try exact zqM)|refine zqR 1 [⟨0,[],[6,7,8,9,10,11,12],[2],[],0⟩,⟨1,[],[5,10,11],[],[],0⟩,⟨2,[1],[5,10,11],[],[],0⟩,⟨3,[1,2],[5,10,11],[],[],0⟩,⟨4,[1,2,3],[5,10,11],[],[],0⟩,⟨5,[],[5,6,7,8,9],[],[],0⟩,⟨6,[5],[5,6,7,8,9],[],[],1⟩,⟨7,[1,2,3,4,5,6],[5],[],[2],1⟩,⟨8,[0,1,2,3,4,5,6,7],[],[],[],0⟩,⟨9,[0,1,2,3,4,5,6,7,8],[],[],[],0⟩,⟨10,[0,1,2,3,4,5,6,7,8,9],[],[],[2],0⟩] ?_|refine zqD ?_|fail)
 all_goals(refine Ends.mk2 zqI [0,3] ?_;simp-dsimp(disch:=try exact vD) only[push_cast,simprocAttr,Tryz.f115,ah9];try exact zqF)
theorem ag0{a b c:Int}(hn:L.length=n)(h0:0<n)(hb:n≤100000):ACall Tryz.prog 115 [.pt 0 0,.agg [.val (.int .i64 a),.val (.int .i64 b),.val (.int .i64 c)]] [.cells (pvC x y (.sl 1 0 n 3)) 123,.cells (cR L) 130] 1 (.val (.int .i64 n)) [.cells (pvC x y (.sl 1 0 (n+1) 3)) 123,.cells (cR (L++[(⟨a,b,c⟩:Ch)])) 130]:=by
 unfold pvC
 refine az Tryz.func115 Tryz.ntmps115 rfl ?_
 have zx1:= @afK;have zx2:=aD;have zx3:=aD;repeat' (first|refine zqN ?_|refine dx ?_|refine p8 ?_|refine p9 ?_|refine qa ?_|refine dz ?_|(refine dA ?_ ?_<;>intro hc<;>try exact zqM)|refine zqR 1 [⟨0,[],[6,7,8,9,10,11,12],[2],[],0⟩,⟨1,[],[5,10,11],[],[],0⟩,⟨2,[1],[5,10,11],[],[],0⟩,⟨3,[1,2],[5,10,11],[],[],0⟩,⟨4,[1,2,3],[5,10,11],[],[],0⟩,⟨5,[],[5,6,7,8,9],[],[],0⟩,⟨6,[5],[5,6,7,8,9],[],[],1⟩,⟨7,[1,2,3,4,5,6],[5],[],[2],1⟩,⟨8,[0,1,2,3,4,5,6,7],[],[],[],0⟩,⟨9,[0,1,2,3,4,5,6,7,8],[],[],[],0⟩,⟨10,[0,1,2,3,4,5,6,7,8,9],[],[],[2],0⟩] ?_|refine zqD ?_|fail)
 all_goals(refine Ends.mk2 zqI [0,4] ?_;simp-dsimp(disch:=try exact vD) only[push_cast,simprocAttr,Tryz.f115,afK,Int.add_sub_cancel];try exact zqF)
def pvO(x y:Ex)(L:List Ch):List aC:=if L.length=0 then [.cells (pvC x y (.isl true [] 0)) 123] else [.cells (pvC x y (.sl 1 0 L.length 3)) 123,.cells (cR L) 130]
theorem adS(h:L.length=0):pvO x y L=[.cells (pvC x y (.isl true [] 0)) 123]:=if_pos h
theorem adF(h:0<L.length):pvO x y L=[.cells (pvC x y (.sl 1 0 L.length 3)) 123,.cells (cR L) 130]:=if_neg (by omega)
section
variable {c d e:Bool} {k1 k2:Nat} {K M T:List Ch}
theorem pv_a(h1:ACall Tryz.prog 71 [.agg (aa.cells x),.val (.int .u16 (U (dJ 4095 b)))] [] 0 (.val (.bool false)) [])(hb:L.length≤1000):
 ACall Tryz.prog 65 [.pt 0 0,.val (.int .u16 (U a)),.val (.int .u16 (U b)),.val (.int .u16 (U s))] (pvO x y L) 1 (.tup [.val (.int .i64 L.length),.val (.bool true)]) (pvO x y (L++[(⟨-1,0,0⟩:Ch)])):=by
 have h1:=PLift.up h1
 have zx1:uN 4095=4095:=rfl
 rw[VA] at h1
 have hL:(L++[(⟨-1,0,0⟩:Ch)]).length=L.length+1:=List.length_append
 rw[adF (L:=L++_) (by omega),hL]
 rcases Nat.eq_zero_or_pos L.length with h0|h0
 ·rw[adS h0,h0]
  have e:=List.length_eq_zero_iff.1 h0
  subst e
  have hA:=PLift.up (ahZ (x:=x) (y:=y) (a:= -1) (b:=0) (c:=0))
  unfold pvC at*
  refine az Tryz.func65 Tryz.ntmps65 rfl ?_
  have zx2:=aD;have zx3:=aD;repeat' (first|refine zqN ?_|((first|refine ax rfl (fun K hK=>?_)|refine ak (fun K hK=>?_));(first|refine ah (f:=71) [] 0 false ?_|refine ah (f:=115) [0] 1 false ?_);refine Am ?_;(first|refine⟨_,_,h1.down,?_⟩|refine⟨_,_,hA.down,?_⟩);refine rG ?_;apply hK;clear hK K)|refine dx ?_|refine dz ?_|(refine dA ?_ ?_<;>intro hc<;>try exact zqM))
  all_goals(refine Ends.mk2 zqI [0,1] ?_;simp-dsimp(disch:=try exact vD) only[push_cast,simprocAttr,Tryz.f65];try exact zqF)
 ·rw[adF h0]
  have hA:=PLift.up (ag0 (x:=x) (y:=y) (L:=L) (a:= -1) (b:=0) (c:=0) rfl h0 (by omega))
  unfold pvC at*
  generalize L.length=n at*
  refine az Tryz.func65 Tryz.ntmps65 rfl ?_
  have zx2:=aD;have zx3:=aD;repeat' (first|refine zqN ?_|((first|refine ax rfl (fun K hK=>?_)|refine ak (fun K hK=>?_));(first|refine ah (f:=71) [] 0 false ?_|refine ah (f:=115) [0,1] 1 false ?_);refine Am ?_;(first|refine⟨_,_,h1.down,?_⟩|refine⟨_,_,hA.down,?_⟩);refine rG ?_;apply hK;clear hK K)|refine dx ?_|refine dz ?_|(refine dA ?_ ?_<;>intro hc<;>try exact zqM))
  all_goals(refine Ends.mk2 zqI [0,2] ?_;simp-dsimp(disch:=try exact vD) only[push_cast,simprocAttr,Tryz.f65];try exact zqF)
theorem pv_b(h1:ACall Tryz.prog 71 [.agg (aa.cells x),.val (.int .u16 (U (dJ 4095 b)))] [] 0 (.val (.bool true)) [])(h2:ACall Tryz.prog 71 [.agg (aa.cells y),.val (.int .u16 (U (dJ 4095 a)))] [] 0 (.val (.bool false)) [])(hb:L.length≤1000):
 ACall Tryz.prog 65 [.pt 0 0,.val (.int .u16 (U a)),.val (.int .u16 (U b)),.val (.int .u16 (U s))] (pvO x y L) 1 (.tup [.val (.int .i64 L.length),.val (.bool true)]) (pvO x y (L++[(⟨-2,0,0⟩:Ch)])):=by
 have h1:=PLift.up h1;have h2:=PLift.up h2
 have zx1:uN 4095=4095:=rfl
 rw[VA] at h1 h2
 have hL:(L++[(⟨-2,0,0⟩:Ch)]).length=L.length+1:=List.length_append
 rw[adF (L:=L++_) (by omega),hL]
 rcases Nat.eq_zero_or_pos L.length with h0|h0
 ·rw[adS h0,h0]
  have e:=List.length_eq_zero_iff.1 h0
  subst e
  have hA:=PLift.up (ahZ (x:=x) (y:=y) (a:= -2) (b:=0) (c:=0))
  unfold pvC at*
  refine az Tryz.func65 Tryz.ntmps65 rfl ?_
  have zx2:=aD;have zx3:=aD;repeat' (first|refine zqN ?_|((first|refine ax rfl (fun K hK=>?_)|refine ak (fun K hK=>?_));(first|refine ah (f:=115) [0] 1 false ?_);refine Am ?_;(first|refine⟨_,_,hA.down,?_⟩);refine rG ?_;apply hK;clear hK K)|((first|refine ax rfl (fun K hK=>?_)|refine ak (fun K hK=>?_));(first|(refine ah (f:=71) [] 0 false ?_;refine Am ?_;refine⟨_,_,h1.down,?_⟩;refine rG ?_;apply hK;clear hK K)|(refine ah (f:=71) [] 0 false ?_;refine Am ?_;refine⟨_,_,h2.down,?_⟩;refine rG ?_;apply hK;clear hK K)))|refine dx ?_|refine dz ?_|(refine dA ?_ ?_<;>intro hc<;>try exact zqM))
  all_goals(refine Ends.mk2 zqI [0,1] ?_;simp-dsimp(disch:=try exact vD) only[push_cast,simprocAttr,Tryz.f65];try exact zqF)
 ·rw[adF h0]
  have hA:=PLift.up (ag0 (x:=x) (y:=y) (L:=L) (a:= -2) (b:=0) (c:=0) rfl h0 (by omega))
  unfold pvC at*
  generalize L.length=n at*
  refine az Tryz.func65 Tryz.ntmps65 rfl ?_
  have zx2:=aD;have zx3:=aD;repeat' (first|refine zqN ?_|((first|refine ax rfl (fun K hK=>?_)|refine ak (fun K hK=>?_));(first|refine ah (f:=115) [0,1] 1 false ?_);refine Am ?_;(first|refine⟨_,_,hA.down,?_⟩);refine rG ?_;apply hK;clear hK K)|((first|refine ax rfl (fun K hK=>?_)|refine ak (fun K hK=>?_));(first|(refine ah (f:=71) [] 0 false ?_;refine Am ?_;refine⟨_,_,h1.down,?_⟩;refine rG ?_;apply hK;clear hK K)|(refine ah (f:=71) [] 0 false ?_;refine Am ?_;refine⟨_,_,h2.down,?_⟩;refine rG ?_;apply hK;clear hK K)))|refine dx ?_|refine dz ?_|(refine dA ?_ ?_<;>intro hc<;>try exact zqM))
  all_goals(refine Ends.mk2 zqI [0,2] ?_;simp-dsimp(disch:=try exact vD) only[push_cast,simprocAttr,Tryz.f65];try exact zqF)
theorem pv_0(h1:ACall Tryz.prog 71 [.agg (aa.cells x),.val (.int .u16 (U (dJ 4095 b)))] [] 0 (.val (.bool true)) [])(h2:ACall Tryz.prog 71 [.agg (aa.cells y),.val (.int .u16 (U (dJ 4095 a)))] [] 0 (.val (.bool true)) [])(hs:s%65536=0):
 ACall Tryz.prog 65 [.pt 0 0,.val (.int .u16 (U a)),.val (.int .u16 (U b)),.val (.int .u16 (U s))] (pvO x y L) 1 (.tup [.val (.int .i64 0),.val (.bool false)]) (pvO x y L):=by
 have h1:=PLift.up h1;have h2:=PLift.up h2
 have zx1:uN 4095=4095:=rfl
 rw[VA] at h1 h2
 rcases Nat.eq_zero_or_pos L.length with h0|h0
 ·rw[adS h0]
  unfold pvC at*
  refine az Tryz.func65 Tryz.ntmps65 rfl ?_
  have zx2:= @hs;have zx3:=aD;repeat' (first|refine zqN ?_|((first|refine ax rfl (fun K hK=>?_)|refine ak (fun K hK=>?_));(first|(refine ah (f:=71) [] 0 false ?_;refine Am ?_;refine⟨_,_,h1.down,?_⟩;refine rG ?_;apply hK;clear hK K)|(refine ah (f:=71) [] 0 false ?_;refine Am ?_;refine⟨_,_,h2.down,?_⟩;refine rG ?_;apply hK;clear hK K)))|refine dx ?_|refine dz ?_|(refine dA ?_ ?_<;>intro hc<;>try exact zqM))
  all_goals(refine Ends.mk2 zqI [0] ?_;simp-dsimp(disch:=try exact vD) only[push_cast,simprocAttr,Tryz.f65];try exact zqF)
 ·rw[adF h0]
  unfold pvC at*
  generalize L.length=n at*
  refine az Tryz.func65 Tryz.ntmps65 rfl ?_
  have zx2:= @hs;have zx3:=aD;repeat' (first|refine zqN ?_|((first|refine ax rfl (fun K hK=>?_)|refine ak (fun K hK=>?_));(first|(refine ah (f:=71) [] 0 false ?_;refine Am ?_;refine⟨_,_,h1.down,?_⟩;refine rG ?_;apply hK;clear hK K)|(refine ah (f:=71) [] 0 false ?_;refine Am ?_;refine⟨_,_,h2.down,?_⟩;refine rG ?_;apply hK;clear hK K)))|refine dx ?_|refine dz ?_|(refine dA ?_ ?_<;>intro hc<;>try exact zqM))
  all_goals(refine Ends.mk2 zqI [0,1] ?_;simp-dsimp(disch:=try exact vD) only[push_cast,simprocAttr,Tryz.f65];try exact zqF)
theorem pv_1(h1:ACall Tryz.prog 71 [.agg (aa.cells x),.val (.int .u16 (U (dJ 4095 b)))] [] 0 (.val (.bool true)) [])(h2:ACall Tryz.prog 71 [.agg (aa.cells y),.val (.int .u16 (U (dJ 4095 a)))] [] 0 (.val (.bool true)) [])(hs:¬s%65536=0)
 (h3:ACall Tryz.prog 65 [.pt 0 0,.val (.int .u16 (U (sor a (2^low s)))),.val (.int .u16 (U b)),.val (.int .u16 (U (dJ s (2^low s))))] (pvO x y L) 1 (.tup [.val (.int .i64 k1),.val (.bool false)]) (pvO x y M)) (hLM:L.length≤M.length):
 ACall Tryz.prog 65 [.pt 0 0,.val (.int .u16 (U a)),.val (.int .u16 (U b)),.val (.int .u16 (U s))] (pvO x y L) 1 (.tup [.val (.int .i64 0),.val (.bool false)]) (pvO x y M):=by
 have h1:=PLift.up h1;have h2:=PLift.up h2
 have zx1:uN 4095=4095:=rfl
 rw[VA] at h1 h2
 have hz:=PLift.up (acO hs)
 have hl:=(r9 hs).2
 have hU:¬U s=0:=by rw[U_0];exact hs
 rcases Nat.eq_zero_or_pos L.length with h0|h0<;>rcases Nat.eq_zero_or_pos M.length with h4|h4
 ·rw[adS h0,adS h4] at*
  have h3:=PLift.up h3
  unfold pvC at*
  generalize low s=w at*
  refine az Tryz.func65 Tryz.ntmps65 rfl ?_
  have zx2:= @hs;have zx3:=aD;repeat' (first|refine zqN ?_|((first|refine ax rfl (fun K hK=>?_)|refine ak (fun K hK=>?_));(first|refine ah (f:=85) [] 0 false ?_|refine ah (f:=65) [0] 1 false ?_);refine Am ?_;(first|refine⟨_,_,hz.down,?_⟩|refine⟨_,_,h3.down,?_⟩);refine rG ?_;apply hK;clear hK K)|((first|refine ax rfl (fun K hK=>?_)|refine ak (fun K hK=>?_));(first|(refine ah (f:=71) [] 0 false ?_;refine Am ?_;refine⟨_,_,h1.down,?_⟩;refine rG ?_;apply hK;clear hK K)|(refine ah (f:=71) [] 0 false ?_;refine Am ?_;refine⟨_,_,h2.down,?_⟩;refine rG ?_;apply hK;clear hK K)))|refine dx ?_|refine dz ?_|(refine dA ?_ ?_<;>intro hc<;>try exact zqM))
  all_goals(refine Ends.mk2 zqI [0] ?_;simp-dsimp(disch:=try exact vD) only[push_cast,simprocAttr,Tryz.f65];try exact zqF)
 ·rw[adS h0,adF h4] at*
  have h3:=PLift.up h3
  unfold pvC at*
  generalize low s=w at*
  generalize M.length=m at*
  refine az Tryz.func65 Tryz.ntmps65 rfl ?_
  have zx2:= @hs;have zx3:=aD;repeat' (first|refine zqN ?_|((first|refine ax rfl (fun K hK=>?_)|refine ak (fun K hK=>?_));(first|refine ah (f:=85) [] 0 false ?_|refine ah (f:=65) [0] 1 false ?_);refine Am ?_;(first|refine⟨_,_,hz.down,?_⟩|refine⟨_,_,h3.down,?_⟩);refine rG ?_;apply hK;clear hK K)|((first|refine ax rfl (fun K hK=>?_)|refine ak (fun K hK=>?_));(first|(refine ah (f:=71) [] 0 false ?_;refine Am ?_;refine⟨_,_,h1.down,?_⟩;refine rG ?_;apply hK;clear hK K)|(refine ah (f:=71) [] 0 false ?_;refine Am ?_;refine⟨_,_,h2.down,?_⟩;refine rG ?_;apply hK;clear hK K)))|refine dx ?_|refine dz ?_|(refine dA ?_ ?_<;>intro hc<;>try exact zqM))
  all_goals(refine Ends.mk2 zqI [0,1] ?_;simp-dsimp(disch:=try exact vD) only[push_cast,simprocAttr,Tryz.f65];try exact zqF)
 ·omega
 ·rw[adF h0,adF h4] at*
  have h3:=PLift.up h3
  unfold pvC at*
  generalize low s=w at*
  generalize M.length=m at*
  generalize L.length=n at*
  refine az Tryz.func65 Tryz.ntmps65 rfl ?_
  have zx2:= @hs;have zx3:=aD;repeat' (first|refine zqN ?_|((first|refine ax rfl (fun K hK=>?_)|refine ak (fun K hK=>?_));(first|refine ah (f:=85) [] 0 false ?_|refine ah (f:=65) [0,1] 1 false ?_);refine Am ?_;(first|refine⟨_,_,hz.down,?_⟩|refine⟨_,_,h3.down,?_⟩);refine rG ?_;apply hK;clear hK K)|((first|refine ax rfl (fun K hK=>?_)|refine ak (fun K hK=>?_));(first|(refine ah (f:=71) [] 0 false ?_;refine Am ?_;refine⟨_,_,h1.down,?_⟩;refine rG ?_;apply hK;clear hK K)|(refine ah (f:=71) [] 0 false ?_;refine Am ?_;refine⟨_,_,h2.down,?_⟩;refine rG ?_;apply hK;clear hK K)))|refine dx ?_|refine dz ?_|(refine dA ?_ ?_<;>intro hc<;>try exact zqM))
  all_goals(refine Ends.mk2 zqI [0,2] ?_;simp-dsimp(disch:=try exact vD) only[push_cast,simprocAttr,Tryz.f65];try exact zqF)
theorem pv_2(h1:ACall Tryz.prog 71 [.agg (aa.cells x),.val (.int .u16 (U (dJ 4095 b)))] [] 0 (.val (.bool true)) [])(h2:ACall Tryz.prog 71 [.agg (aa.cells y),.val (.int .u16 (U (dJ 4095 a)))] [] 0 (.val (.bool true)) [])(hs:¬s%65536=0)
 (h3:ACall Tryz.prog 65 [.pt 0 0,.val (.int .u16 (U (sor a (2^low s)))),.val (.int .u16 (U b)),.val (.int .u16 (U (dJ s (2^low s))))] (pvO x y L) 1 (.tup [.val (.int .i64 k1),.val (.bool true)]) (pvO x y K)) (hK:0<K.length)
 (h4:ACall Tryz.prog 65 [.pt 0 0,.val (.int .u16 (U a)),.val (.int .u16 (U (sor b (2^low s)))),.val (.int .u16 (U (dJ s (2^low s))))] (pvO x y K) 1 (.tup [.val (.int .i64 k2),.val (.bool false)]) (pvO x y M)) (hM:0<M.length):
 ACall Tryz.prog 65 [.pt 0 0,.val (.int .u16 (U a)),.val (.int .u16 (U b)),.val (.int .u16 (U s))] (pvO x y L) 1 (.tup [.val (.int .i64 0),.val (.bool false)]) (pvO x y M):=by
 have h1:=PLift.up h1;have h2:=PLift.up h2
 have zx1:uN 4095=4095:=rfl
 rw[VA] at h1 h2
 have hz:=PLift.up (acO hs)
 have hl:=(r9 hs).2
 rw[adF hK,adF hM] at*
 rcases Nat.eq_zero_or_pos L.length with h0|h0
 ·rw[adS h0] at*
  have h3:=PLift.up h3;have h4:=PLift.up h4
  unfold pvC at*
  generalize low s=w at*
  generalize M.length=m at*
  generalize K.length=n at*
  refine az Tryz.func65 Tryz.ntmps65 rfl ?_
  have zx2:= @hs;have zx3:=aD;repeat' (first|refine zqN ?_|refine eG hz.down ?_|((first|refine ax rfl (fun K hK=>?_)|refine ak (fun K hK=>?_));(first|(refine ah (f:=71) [] 0 false ?_;refine Am ?_;refine⟨_,_,h1.down,?_⟩;refine rG ?_;apply hK;clear hK K)|(refine ah (f:=71) [] 0 false ?_;refine Am ?_;refine⟨_,_,h2.down,?_⟩;refine rG ?_;apply hK;clear hK K)|(refine ah (f:=65) [0] 1 false ?_;refine Am ?_;refine⟨_,_,h3.down,?_⟩;refine rG ?_;apply hK;clear hK K)|(refine ah (f:=65) [0,1] 1 false ?_;refine Am ?_;refine⟨_,_,h4.down,?_⟩;refine rG ?_;apply hK;clear hK K)))|refine dx ?_|refine dz ?_|(refine dA ?_ ?_<;>intro hc<;>try exact zqM))
  all_goals(refine Ends.mk2 zqI [0,2] ?_;simp-dsimp(disch:=try exact vD) only[push_cast,simprocAttr,Tryz.f65];try exact zqF)
 ·rw[adF h0] at*
  have h3:=PLift.up h3;have h4:=PLift.up h4
  unfold pvC at*
  generalize low s=w at*
  generalize M.length=m at*
  generalize K.length=n at*
  generalize L.length=o at*
  refine az Tryz.func65 Tryz.ntmps65 rfl ?_
  have zx2:= @hs;have zx3:=aD;repeat' (first|refine zqN ?_|refine eG hz.down ?_|((first|refine ax rfl (fun K hK=>?_)|refine ak (fun K hK=>?_));(first|(refine ah (f:=71) [] 0 false ?_;refine Am ?_;refine⟨_,_,h1.down,?_⟩;refine rG ?_;apply hK;clear hK K)|(refine ah (f:=71) [] 0 false ?_;refine Am ?_;refine⟨_,_,h2.down,?_⟩;refine rG ?_;apply hK;clear hK K)|(refine ah (f:=65) [0,1] 1 false ?_;refine Am ?_;refine⟨_,_,h3.down,?_⟩;refine rG ?_;apply hK;clear hK K)|(refine ah (f:=65) [0,2] 1 false ?_;refine Am ?_;refine⟨_,_,h4.down,?_⟩;refine rG ?_;apply hK;clear hK K)))|refine dx ?_|refine dz ?_|(refine dA ?_ ?_<;>intro hc<;>try exact zqM))
  all_goals(refine Ends.mk2 zqI [0,3] ?_;simp-dsimp(disch:=try exact vD) only[push_cast,simprocAttr,Tryz.f65];try exact zqF)
theorem pv_3(h1:ACall Tryz.prog 71 [.agg (aa.cells x),.val (.int .u16 (U (dJ 4095 b)))] [] 0 (.val (.bool true)) [])(h2:ACall Tryz.prog 71 [.agg (aa.cells y),.val (.int .u16 (U (dJ 4095 a)))] [] 0 (.val (.bool true)) [])(hs:¬s%65536=0)
 (h3:ACall Tryz.prog 65 [.pt 0 0,.val (.int .u16 (U (sor a (2^low s)))),.val (.int .u16 (U b)),.val (.int .u16 (U (dJ s (2^low s))))] (pvO x y L) 1 (.tup [.val (.int .i64 k1),.val (.bool true)]) (pvO x y K)) (hK:0<K.length)
 (h4:ACall Tryz.prog 65 [.pt 0 0,.val (.int .u16 (U a)),.val (.int .u16 (U (sor b (2^low s)))),.val (.int .u16 (U (dJ s (2^low s))))] (pvO x y K) 1 (.tup [.val (.int .i64 k2),.val (.bool true)]) (pvO x y M)) (hM:0<M.length) (hb:M.length≤1000):
 ACall Tryz.prog 65 [.pt 0 0,.val (.int .u16 (U a)),.val (.int .u16 (U b)),.val (.int .u16 (U s))] (pvO x y L) 1 (.tup [.val (.int .i64 M.length),.val (.bool true)]) (pvO x y (M++[(⟨low s,k1,k2⟩:Ch)])):=by
 have h1:=PLift.up h1;have h2:=PLift.up h2
 have zx1:uN 4095=4095:=rfl
 rw[VA] at h1 h2
 have hz:=PLift.up (acO hs)
 have hl:=(r9 hs).2
 have hL:(M++[(⟨low s,k1,k2⟩:Ch)]).length=M.length+1:=List.length_append
 have hA:=PLift.up (ag0 (x:=x) (y:=y) (L:=M) (a:=low s) (b:=k1) (c:=k2) rfl hM (by omega))
 rw[adF (L:=M++_) (by omega),hL]
 rw[adF hK,adF hM] at*
 rcases Nat.eq_zero_or_pos L.length with h0|h0
 ·rw[adS h0] at*
  have h3:=PLift.up h3;have h4:=PLift.up h4
  unfold pvC at*
  generalize low s=w at*
  generalize M.length=m at*
  generalize K.length=n at*
  refine az Tryz.func65 Tryz.ntmps65 rfl ?_
  have zx2:= @hs;have zx3:=aD;repeat' (first|refine zqN ?_|((first|refine ax rfl (fun K hK=>?_)|refine ak (fun K hK=>?_));(first|refine ah (f:=85) [] 0 false ?_|refine ah (f:=115) [0,2] 1 false ?_);refine Am ?_;(first|refine⟨_,_,hz.down,?_⟩|refine⟨_,_,hA.down,?_⟩);refine rG ?_;apply hK;clear hK K)|((first|refine ax rfl (fun K hK=>?_)|refine ak (fun K hK=>?_));(first|(refine ah (f:=71) [] 0 false ?_;refine Am ?_;refine⟨_,_,h1.down,?_⟩;refine rG ?_;apply hK;clear hK K)|(refine ah (f:=71) [] 0 false ?_;refine Am ?_;refine⟨_,_,h2.down,?_⟩;refine rG ?_;apply hK;clear hK K)|(refine ah (f:=65) [0] 1 false ?_;refine Am ?_;refine⟨_,_,h3.down,?_⟩;refine rG ?_;apply hK;clear hK K)|(refine ah (f:=65) [0,1] 1 false ?_;refine Am ?_;refine⟨_,_,h4.down,?_⟩;refine rG ?_;apply hK;clear hK K)))|refine dx ?_|refine dz ?_|(refine dA ?_ ?_<;>intro hc<;>try exact zqM))
  all_goals(refine Ends.mk2 zqI [0,3] ?_;simp-dsimp(disch:=try exact vD) only[push_cast,simprocAttr,Tryz.f65];try exact zqF)
 ·rw[adF h0] at*
  have h3:=PLift.up h3;have h4:=PLift.up h4
  unfold pvC at*
  generalize low s=w at*
  generalize M.length=m at*
  generalize K.length=n at*
  generalize L.length=o at*
  refine az Tryz.func65 Tryz.ntmps65 rfl ?_
  have zx2:= @hs;have zx3:=aD;repeat' (first|refine zqN ?_|((first|refine ax rfl (fun K hK=>?_)|refine ak (fun K hK=>?_));(first|refine ah (f:=85) [] 0 false ?_|refine ah (f:=115) [0,3] 1 false ?_);refine Am ?_;(first|refine⟨_,_,hz.down,?_⟩|refine⟨_,_,hA.down,?_⟩);refine rG ?_;apply hK;clear hK K)|((first|refine ax rfl (fun K hK=>?_)|refine ak (fun K hK=>?_));(first|(refine ah (f:=71) [] 0 false ?_;refine Am ?_;refine⟨_,_,h1.down,?_⟩;refine rG ?_;apply hK;clear hK K)|(refine ah (f:=71) [] 0 false ?_;refine Am ?_;refine⟨_,_,h2.down,?_⟩;refine rG ?_;apply hK;clear hK K)|(refine ah (f:=65) [0,1] 1 false ?_;refine Am ?_;refine⟨_,_,h3.down,?_⟩;refine rG ?_;apply hK;clear hK K)|(refine ah (f:=65) [0,2] 1 false ?_;refine Am ?_;refine⟨_,_,h4.down,?_⟩;refine rG ?_;apply hK;clear hK K)))|refine dx ?_|refine dz ?_|(refine dA ?_ ?_<;>intro hc<;>try exact zqM))
  all_goals(refine Ends.mk2 zqI [0,4] ?_;simp-dsimp(disch:=try exact vD) only[push_cast,simprocAttr,Tryz.f65];try exact zqF)
end
theorem aig(hx:MOk x)(hy:MOk y):∀k a b s L,s<64→aA s 16<k→L.length+2^k≤1000→
 ACall Tryz.prog 65 [.pt 0 0,.val (.int .u16 (U a)),.val (.int .u16 (U b)),.val (.int .u16 (U s))] (pvO x y L) 1 (.tup [.val (.int .i64 (prK (kL x) (kL y) k a b s L)),.val (.bool (prB (kL x) (kL y) k a b s))]) (pvO x y (prN (kL x) (kL y) k a b s L)):=by
 intro k
 induction k with
 |zero=>intro a b s L _ hk _;omega
 |succ k ih=>
  intro a b s L hs hk hb
  have s1:=aeO (s:=dJ 4095 b) hx afW
  have s2:=aeO (s:=dJ 4095 a) hy afW
  have hp:0<2^k:=Nat.two_pow_pos k
  rw[Nat.pow_succ] at hb
  cases h1:kL x (dJ 4095 b) with
  |false=>
   rw[h1] at s1
   have e:=afL (q:=kL y) (k:=k) (a:=a) (s:=s) h1
   rw[ae2 e,ae3 e,aeT e]
   exact pv_a s1 (by omega)
  |true=>
   rw[h1] at s1
   cases h2:kL y (dJ 4095 a) with
   |false=>
    rw[h2] at s2
    have e:=afM (k:=k) (s:=s) h1 h2
    rw[ae2 e,ae3 e,aeT e]
    exact pv_b s1 s2 (by omega)
   |true=>
    rw[h2] at s2
    by_cases h3:s%65536=0
    ·have e:=afN (k:=k) h1 h2 h3
     rw[afq e,ae4 e,ae1 e,ahV h3]
     exact pv_0 s1 s2 h3
    ·obtain⟨l6,lb,d6,dm⟩:=afA s hs h3
     have i1:=ih (sor a (bL s)) b (dJ s (bL s)) L d6 (by omega) (by omega)
     have n1:=afP (p:=kL x) (q:=kL y) (k:=k) (a:=sor a (bL s)) (b:=b) (s:=dJ s (bL s)) (L:=L)
     have es:=afO (k:=k) h1 h2 h3
     cases e1:prT (kL x) (kL y) k (sor a (bL s)) b (dJ s (bL s)) with
     |none=>
      have e:prT (kL x) (kL y) (k+1) a b s=none:=by rw[es,e1]
      rw[afq e,ae4 e,ae1 e,ahW h3 e1]
      rw[afq e1,ae4 e1] at i1
      rw[ae1 e1] at i1 n1
      exact pv_1 s1 s2 h3 i1 n1.1
     |some l=>
      rw[ae2 e1,ae3 e1] at i1
      rw[aeT e1] at i1 n1
      have hl:=aaU l
      have hK:0<(L++flT L.length l).length:=by rw[List.length_append,PH];omega
      have n2:=afP (p:=kL x) (q:=kL y) (k:=k) (a:=a) (b:=sor b (bL s)) (s:=dJ s (bL s)) (L:=L++flT L.length l)
      have i2:=ih a (sor b (bL s)) (dJ s (bL s)) (L++flT L.length l) d6 (by omega) (by omega)
      cases e2:prT (kL x) (kL y) k a (sor b (bL s)) (dJ s (bL s)) with
      |none=>
       have e:prT (kL x) (kL y) (k+1) a b s=none:=by rw[es,e1];dsimp only;rw[e2]
       rw[afq e,ae4 e,ae1 e,ahX h3 e1]
       rw[afq e2,ae4 e2] at i2
       rw[ae1 e2] at i2 n2
       exact pv_2 s1 s2 h3 i1 hK i2 (by omega)
      |some r=>
       have e:prT (kL x) (kL y) (k+1) a b s=some (.n (low s) l r):=by rw[es,e1];dsimp only;rw[e2]
       rw[ae2 e,ae3 e,aeT e]
       rw[ae2 e2,ae3 e2] at i2
       rw[aeT e2] at i2 n2
       have hr:=aaU r
       have hlen:(L++flT L.length l++flT (L++flT L.length l).length r).length=L.length+szT l+szT r:=by rw[List.length_append,List.length_append,PH,PH]
       have:=pv_3 s1 s2 h3 i1 hK i2 (by omega) (by omega)
       have f1:L.length+szT (.n (low s) l r)-1=(L++flT L.length l++flT (L++flT L.length l).length r).length:=by rw[hlen];simp only[szT];omega
       have f2:L++flT L.length (.n (low s) l r)=(L++flT L.length l++flT (L++flT L.length l).length r)++[(⟨low s,((L.length+szT l-1:Nat):Int),(((L++flT L.length l).length+szT r-1:Nat):Int)⟩:Ch)]:=by
        rw[flT,List.length_append,PH];simp only[List.append_assoc]
       rw[f1,f2]
       exact this
end
