/- Sym31 Sym40. No condition. -/
import Derived.Test.YtgmpdplpodemaaaGreatDoorSymG20
import Derived.LaidMore
set_option linter.all false
namespace Go.Sy
open Go Go.RowKit
variable {P:Program}
theorem Nc{st:St} {nid:Nat} {dst:Option Nat} {ty:TypeId} {pos:String} {af:Array Edge} {g:Option (Nat×Bool)} {x0 x:Operand} {tys:Array TypeId} {id j:Nat} {H:jG} {v:Value}(h0:st.op x0= .yl id)(h1:st.ob id=some (.tr H j))(h2:st.op x= .val v)(h3:H.P=P)(h4:H.go j=true)(h5:H.xs j=some v):
 OpT P ⟨dst,.call ⟨.value x0,#[x],tys⟩,ty,pos,af,g⟩ nid 0 st ⟨.val (.bool (H.go (j+1))),[(id,some (.tr H (j+1)))]⟩:=by
 intro c ρ D J a w hs _ r K Q hK
 subst h3
 have e0:=hs.op x0;rw[h0] at e0
 have e1:=hs.op x;rw[h2] at e1
 have e1:=aG e1
 generalize hv0:a.eval x0=v0 at e0
 obtain⟨s,rec,q1,q2,q3,q4⟩:=hs.nl h1
 cases e0 with
 |yl b s' _ hρ=>
  rw[q1] at hρ;cases hρ
  obtain⟨k1,k2,k3⟩:=hs.hid.on _ _ _ h1
  have hX:∀b,Xm c J st.ob ρ w b->b<w.heap.size/\¬H.B b/\b≠H.l:=λb hb=>⟨hb.1,λhB=>by
   have:=k2 b hB
   rcases hb.2.1 with h|h
   ·exact this.2 h
   ·omega,λe=>by subst e;exact hb.2.2.2 _ _ _ h1 q1⟩
  obtain⟨fn,tmps,as,body,hy,hround⟩:=H.yield k1 h4 h5 hX r
  have hrun:(execOp a.eval ⟨dst,.call ⟨.value x0,#[x],tys⟩,ty,pos,af,g⟩).run H.P w= .ok (.round H.l fn tmps as body) w:=by
   simp[execOp,resolve,hv0,Deferred.ofValue,invoke,e1,hy]
  refine GY hrun (hround.mono ?_)
  rintro e w' ⟨rfl,g1,g2,g3,g4,⟨r',g5⟩,g6,g7⟩
  have lt:∀{id' o b s},st.ob id'=some o->ρ id'=some (b,s)->b<w.heap.size:=λho hr=>by
   obtain⟨b1,s1,p1,p2,_⟩:=hs.obj _ _ ho
   rw[hr] at p1;cases p1;exact p2.lt
  have old:∀{id' o},(st.app none ⟨.val (.bool (H.go (j+1))),[(id,some (.tr H (j+1)))]⟩).ob id'=some o->(id'=id/\o= .tr H (j+1))\/(id'≠id/\st.ob id'=some o):=λ{id' o} ho=>by
   rw[St.ob_app] at ho
   by_cases e:id'=id
   ·subst e;simp[Eff.keys,aQ] at ho;exact .inl ⟨rfl,ho.symm⟩
   ·rw[if_neg (by simp[Eff.keys,e])] at ho;exact .inr ⟨e,ho⟩
  refine⟨_,rfl,hK _ w' ρ J ⟨g1,g2,g3,g4,λb hb hne hnx=>?_,λ_ _ h=>h,λ_ _ h=> .inl h,λ_ h=>h,λ_ h=> .inl h,.val _,λid' o ho=>?_,λi i' o1 o2 b s1 s2 h1 h2 _ _=>?_,λ_=>⟨λi i' H1 H2 j1 j2 p1 p2=>?_,λi H1 j1 p1=>?_⟩⟩⟩
  ·refine g6 b hb (hnx ⟨_,List.mem_cons_self,_,_,rfl⟩) (λe=>?_)
   subst e;exact hne id _ s (by simp[Eff.keys]) h1 q1
  ·simp only[aQ] at ho
   split at ho
   ·rename_i e;subst e
    simp only[Option.some.injEq] at ho;subst ho
    exact⟨H.l,s,q1,⟨rfl,r',g5⟩,q3,.inr ⟨_,_,s,by simp[Eff.keys],h1,q1⟩⟩
   ·cases ho
  ·simp only[aQ] at h1 h2
   split at h1
   ·split at h2
    ·omega
    ·cases h2
   ·cases h1
  ·have key:∀{i H1 j1},(st.app none ⟨.val (.bool (H.go (j+1))),[(id,some (.tr H (j+1)))]⟩).ob i=some (.tr H1 j1)->i=id:=λ{i H1 j1} p=>by
    rcases old p with⟨e,_⟩|⟨_,e⟩
    ·exact e
    ·exact hs.hid.one _ _ _ _ _ _ e h1
   rw[key p1,key p2]
  ·have e:i=id/\H1=H/\j1=j+1:=by
    rcases old p1 with⟨e,e'⟩|⟨ne,e⟩
    ·cases e';exact⟨e,rfl,rfl⟩
    ·exact absurd (hs.hid.one _ _ _ _ _ _ e h1) ne
   obtain⟨rfl,rfl,rfl⟩:=e
   refine⟨H1.keep g7 (Nat.le_refl _) rfl rfl rfl (λ_ _=>rfl) (λb hb=>?_) (λb hb=>⟨hb.1,λhB=>?_,λe=>?_⟩),k2,k3⟩
   ·have hob:∀{id' o s'},(st.app none ⟨.val (.bool (H1.go (j+1))),[(i,some (.tr H1 (j+1)))]⟩).ob id'=some o->ρ id'=some (b,s')->(∃o',st.ob id'=some o'):=λ{id' o s'} ho _=>by
     rcases old ho with⟨e,_⟩|⟨_,e⟩
     ·exact⟨_,e▸h1⟩
     ·exact⟨_,e⟩
    rcases hb with hb|hb
    ·exact⟨Nat.lt_of_lt_of_le hb.1 g1,hb.2.1,hb.2.2.1,λid' o s' ho hr=>by obtain⟨o',ho'⟩:=hob ho hr;exact hb.2.2.2 _ _ _ ho' hr⟩
    ·refine⟨hb.2,.inr (Nat.le_trans hs.kept.size hb.1),λhj=>?_,λid' o s' ho hr=>?_⟩
     ·have:=hs.jlt b hj;omega
     ·obtain⟨o',ho'⟩:=hob ho hr;have:=lt ho' hr;omega
   ·have:=k2 b hB
    rcases hb.2.1 with h|h
    ·exact this.2 h
    ·omega
   ·subst e;exact hb.2.2.2 _ _ _ p1 q1
def Xu:AV->Option Nat
 | .yl id=>some id
 |_=>none
theorem Xv{x:AV} {id:Nat}(h:Xu x=some id):x= .yl id:=by cases x<;>simp[Xu] at h;subst h;rfl
def Xw:Option aC->Option (jG×Nat)
 |some (.tr H j)=>some (H,j)
 |_=>none
theorem Xx{o:Option aC} {p:jG×Nat}(h:Xw o=some p):o=some (.tr p.1 p.2):=by
 unfold Xw at h
 split at h
 ·cases h;rfl
 ·cases h
theorem e_yl{id:Nat}:Xu (.yl id)=some id:=rfl
theorem afe{H:jG} {j:Nat}:Xw (some (.tr H j))=some (H,j):=rfl
theorem Xy{st:St} {nid:Nat} {dst:Option Nat} {ty:TypeId} {pos:String} {af:Array Edge} {g:Option (Nat×Bool)} {K:Nat->Eff->Prop} {x0 x:Operand} {tys:Array TypeId}
 (h:aH (Xu (st.op x0)) λid=>aH (Xw (st.ob id)) λp=>∃v,st.op x= .val v/\p.1.P=P/\p.1.go p.2=true/\p.1.xs p.2=some v/\K 0 ⟨.val (.bool (p.1.go (p.2+1))),[(id,some (.tr p.1 (p.2+1)))]⟩):
 AO P ⟨dst,.call ⟨.value x0,#[x],tys⟩,ty,pos,af,g⟩ nid st K:=by
 obtain⟨id,h1,⟨H,j⟩,h2,v,h3,h4,h5,h6,h7⟩:=h
 exact⟨_,_,Nc (Xv h1) (Xx h2) h3 h4 h5 h6,h7⟩
attribute [push_cast] e_yl afe aC.tr.injEq
def CQ(w:World)(J X:Nat->Prop)(T:jG->Prop)(pn:Rho)(l:Nat):Ctx:=⟨w,J,λb=>X b/\¬J b,pn,some l,T⟩
theorem Sim.rebase{c:Ctx} {ρ pn:Rho} {D J J' X':Nat->Prop} {st:St} {a:Act} {w w':World} {l mR:Nat}(hs:Sim c ρ D J st a w)(hd:a.defers=[])(hsz:w.heap.size<=w'.heap.size)(ho:w'.os=w.os)(ht:w'.tape=w.tape)(hu:w'.output=w.output)
 (hJ:∀b,J b->J' b/\w'.heap[b]? =w.heap[b]?) (hJlt:∀b,J' b->b<w'.heap.size) (hO:∀id o b s,st.ob id=some o->ρ id=some (b,s)->w'.heap[b]? =w.heap[b]? /\X' b/\¬J' b)
 (hX:∀b,Xm c J st.ob ρ w b->w'.heap[b]? =w.heap[b]? /\X' b/\¬J' b) (hX':∀b,X' b->b<w'.heap.size/\b≠l) (hB:∀H,c.tr H->∀b,H.B b->w'.heap[b]? =w.heap[b]? /\¬X' b)
 (hl:∃r,w'.heap[l]? =some (.loop r)) (hp:∀j,j<mR->∃p,pn j=some p/\ρ j=some p):Sim (CQ w' J' X' c.tr pn l) ρ D J' ⟨st.n,mR,st.env,st.objs⟩ a w':=by
 have hm:∀b,J b->b<w.heap.size->J' b/\w'.heap[b]? =w.heap[b]? :=λb hb _=>hJ b hb
 refine⟨?_,hs.tmps,λt=>(hs.env t).mono hm hsz (λ_ _ h=>h),λid o hid=>?_,hs.inj,hs.dom,λb hb=> .inl hb,hJlt,λb hb=>(hX' b hb.1).1,hp,⟨Nat.le_refl _,rfl,rfl,rfl,λ_ _ _=>rfl⟩,?_,hs.laid.mono hm hsz⟩
 ·rw[hd];refine Marks.nil λl' e=>?_
  simp only[CQ,Option.some.injEq] at e;subst e
  exact⟨λh=>(hX' _ h.1).2 rfl,hl⟩
 ·obtain⟨b,s,h1,h2,h3,h4⟩:=hs.obj id o hid
  obtain⟨k1,k2,k3⟩:=hO id o b s hid h1
  exact⟨b,s,h1,h2.mono hm hsz (λ_ _ h=>h) k1,.inl ⟨k2,k3⟩,k3⟩
 ·refine⟨hs.hid.one,λid H j hid=>?_⟩
  obtain⟨h1,h2,h3⟩:=hs.hid.on id H j hid
  obtain⟨s,r,q1,q2,q3,q4⟩:=hs.nl hid
  refine⟨H.keep h1 hsz ho ht hu (λb hb=>?_) (λb hb=>?_) (λb hb=>⟨hb.1,λhb'=>?_,λe=>?_⟩),λb hb=>⟨?_,λh=>(hB H h3 b hb).2 h.1⟩,h3⟩
  ·rcases hb with hb|hb|hb
   ·exact(hX b hb).1
   ·exact(hB H h3 b hb).1
   ·subst hb;exact(hO _ _ _ _ hid q1).1
  ·obtain⟨_,k2,k3⟩:=hX b hb
   exact⟨Nat.lt_of_lt_of_le hb.1 hsz,.inl ⟨k2,k3⟩,k3,hb.2.2.2⟩
  ·rcases hb.2.1 with h|h
   ·exact(hB H h3 b hb').2 h.1
   ·have:=hb.1;have h:w'.heap.size<=b:=h;omega
  ·subst e;exact hb.2.2.2 _ _ _ hid q1
  ·have:=(h2 b hb).1;have:=hs.kept.size;exact Nat.lt_of_lt_of_le omgz hsz
theorem Sim.reenv{c:Ctx} {ρ:Rho} {D J:Nat->Prop} {n m:Nat} {env env':List (Nat×AV)} {objs:List (Nat×Option aC)} {a a':Act} {w:World}(hs:Sim c ρ D J ⟨n,m,env,objs⟩ a w)(hd:a'.defers=a.defers)(hz:a'.tmps.size=n)
 (he:∀t,Rep w J ρ (a'.tmps.getD t undef) ((aQ env' t).getD .any)):Sim c ρ D J ⟨n,m,env',objs⟩ a' w:=
 ⟨by rw[hd];exact hs.defers,hz,he,hs.obj,hs.inj,hs.dom,hs.jok,hs.jlt,hs.ilt,hs.pin,hs.kept,hs.hid,hs.laid⟩
structure RLoop where
 n:Nat
 mR:Nat
 env:List (Nat×AV)
 O:Nat->List (Nat×Option aC)
 OS:Nat->List (Nat×Option aC)
 L:Nat
 LS:Nat
 go:Nat->Bool
 xs:Nat->Option Value
 eS:Exit
 p:Nat
 assign:Code
 body:Code
def RQ(R:RLoop)(j:Nat):Exit->Nat->St->Prop:=λe _ s=>
 (e= .normal/\R.go (j+1)=true/\∃σ:List Nat,σ.length=R.L/\Sub σ ⟨R.n,R.mR,[],R.O (j+1)⟩ s)\/
 (e=R.eS/\R.go (j+1)=false/\∃σ:List Nat,σ.length=R.LS/\Sub σ ⟨R.n,R.mR,[],R.OS (j+1)⟩ s)
theorem oz{R:RLoop} {j nid:Nat} {s:St}(σ:List Nat)(h:R.go (j+1)=true/\σ.length=R.L)(hs:Sub σ ⟨R.n,R.mR,[],R.O (j+1)⟩ s):RQ R j .normal nid s:= .inl ⟨rfl,h.1,σ,h.2,hs⟩
theorem Xz{R:RLoop} {j nid:Nat} {e:Exit} {s:St}(σ:List Nat)(h:e=R.eS/\R.go (j+1)=false/\σ.length=R.LS)(hs:Sub σ ⟨R.n,R.mR,[],R.OS (j+1)⟩ s):RQ R j e nid s:= .inr ⟨h.1,h.2.1,σ,h.2.2,hs⟩
def Mid(P:Program)(R:RLoop)(j:Nat)(nid:Nat)(s:St):Prop:=s.m=R.mR/\AC P R.body (RQ R j) nid s
def BD:Exit->Code
 | .ret=> .ret
 | .exit i=> .exit i
 |_=> .skip
structure xu(P:Program) extends RLoop where
 tmps:Array Value
 fn:FuncId
 dB:Nat
 T:jG->Prop
 J:Nat->Prop
 B:Nat->Prop
 pn:Rho
 W1:World
 l:Nat
 hJB:∀b,J b->B b
 hBl:¬B l
 hBlt:∀b,B b->b<W1.heap.size
 hT:∀H,T H->∀b,H.B b->B b
 hsz:tmps.size=n
 hp:p<n
 hbe:∀q∈env,bnd mR q.2
 hE:eS= .ret\/∃i,eS= .exit i
 round:∀j x,go j=true->xs j=some x->AC P assign (Thn (Mid P toRLoop j) (λ_ _ _=>False)) L ⟨n,mR,(p,.val x)::env,O j⟩
namespace xu
def rcd(R:xu P)(s:LoopState)(pe:Option Code):Loop:={state:=s,pending:=pe,fn:=R.fn,tmps:=R.tmps,params:= #[R.p],assign:=R.assign,body:=R.body,defers:=R.dB}
def cur(R:xu P)(j:Nat):Loop:=if R.go j=true then R.rcd .ready none else R.rcd .done (some (BD R.eS))
def G(R:xu P)(j:Nat)(X:Nat->Prop)(W:World):Prop:=∃(ρ:Rho) (J:Nat->Prop),
 Sim (CQ W J X R.T R.pn R.l) ρ (· <if R.go j=true then R.L else R.LS) J ⟨R.n,R.mR,R.env,if R.go j=true then R.O j else R.OS j⟩ ⟨R.tmps,[]⟩ W/\
 (∀b,J b->R.J b\/X b)/\W.heap[R.l]? =some (.loop (R.cur j))/\(R.W1.heap.size<=W.heap.size/\W.os=R.W1.os/\W.tape=R.W1.tape/\W.output=R.W1.output)/\∀b,R.B b->W.heap[b]? =R.W1.heap[b]?
theorem keep(R:xu P){j:Nat} {X X':Nat->Prop} {w w':World}(h:R.G j X w)(hsz:w.heap.size<=w'.heap.size)(ho:w'.os=w.os)(ht:w'.tape=w.tape)(hu:w'.output=w.output)(hsame:∀b,X b\/R.B b\/b=R.l->w'.heap[b]? =w.heap[b]?)
 (mono:∀b,X b->X' b) (hX':∀b,X' b->b<w'.heap.size/\¬R.B b/\b≠R.l):R.G j X' w':=by
 obtain⟨ρ,J,h1,h2,h3,⟨h4,h5,h6,h7⟩,h8⟩:=h
 have hJs:∀b,J b->w'.heap[b]? =w.heap[b]? :=λb hb=>hsame b ((h2 b hb).elim (λh=> .inr (.inl (R.hJB b h))) .inl)
 refine⟨ρ,J,?_,λb hb=>(h2 b hb).imp id (mono b),(hsame _ (.inr (.inr rfl))).trans h3,⟨Nat.le_trans h4 hsz,ho.trans h5,ht.trans h6,hu.trans h7⟩,λb hb=>(hsame b (.inr (.inl hb))).trans (h8 b hb)⟩
 refine h1.rebase (J':=J) (X':=X') (l:=R.l) (mR:=R.mR) rfl hsz ho ht hu (λb hb=>⟨hb,hJs b hb⟩) (λb hb=>Nat.lt_of_lt_of_le (h1.jlt b hb) hsz) (λid o b s k1 k2=>?_) (λb hb=>?_) (λb hb=>⟨(hX' b hb).1,(hX' b hb).2.2⟩) (λH hH b hb=>?_) ⟨_,(hsame _ (.inr (.inr rfl))).trans h3⟩ (λj hj=>h1.pin j hj)
 ·obtain⟨b',s',g1,g2,g3,g4⟩:=h1.obj id o k1
  rw[k2] at g1;cases g1
  rcases g3 with g3|g3
  ·exact⟨hsame b (.inl g3.1),mono b g3.1,g4⟩
  ·have:=g2.lt;have g3:w.heap.size<=b:=g3;omega
 ·rcases hb.2.1 with g|g
  ·exact⟨hsame b (.inl g.1),mono b g.1,g.2⟩
  ·have:=hb.1;have g:w.heap.size<=b:=g;omega
 ·have:=R.hT H hH b hb
  exact⟨hsame b (.inr (.inl this)),λh=>(hX' b h).2.1 this⟩
theorem Qu(x:AV):ren (λi=>i) x=x:=by
 induction x using ren.induct with
 |_=>first|(simp_all[ren];done)|(simp_all[ren];rename_i ih;exact(List.map_congr_left (g:=λx=>x) ih).trans (by simp))
theorem yield(R:xu P){j:Nat} {x:Value} {X:Nat->Prop} {w:World}(h:R.G j X w)(hgo:R.go j=true)(hx:R.xs j=some x)(hX:∀b,X b->b<w.heap.size/\¬R.B b/\b≠R.l)(r:Option Nat):YieldAt (fen r) 0 P R.l #[x] w λe w'=>
 e= .returned (.bool (R.go (j+1)))/\w.heap.size<=w'.heap.size/\w'.os=w.os/\w'.tape=w.tape/\w'.output=w.output/\(∃r,w'.heap[R.l]? =some (.loop r))/\
 (∀b,b<w.heap.size->¬X b->b≠R.l->w'.heap[b]? =w.heap[b]?)/\R.G (j+1) (λb=>X b\/(w.heap.size<=b/\b<w'.heap.size)) w':=by
 obtain⟨ρ,J,h1,h2,h3,⟨h4,h5,h6,h7⟩,h8⟩:=h
 simp only[hgo,if_true] at h1
 have h3:w.heap[R.l]? =some (.loop (R.rcd .ready none)):=by simpa[cur,hgo] using h3
 have hlw:R.l<w.heap.size:=(Array.getElem?_eq_some_iff.1 h3).1
 have hy:(Instr.yield R.l #[x]).run P w= .ok (.round R.l R.fn (R.tmps.setIfInBounds R.p x) R.assign R.body) w:=by
  have:=run_yield (P:=P) (args:= #[x]) h3 rfl
  simpa[rcd] using this
 refine⟨R.fn,_,R.assign,R.body,hy,roundIn_of_wpIn trivial ?_⟩
 have hs1:Sim (CQ w J X R.T R.pn R.l) ρ (· <R.L) J ⟨R.n,R.mR,(R.p,.val x)::R.env,R.O j⟩ ⟨R.tmps.setIfInBounds R.p x,[]⟩ w:=by
  refine h1.reenv rfl (by simp[R.hsz]) (λt=>?_)
  simp only[aQ]
  by_cases e:t=R.p
  ·subst e
   have:R.p<R.tmps.size:=by rw[R.hsz];exact R.hp
   rw[if_pos rfl]
   have e2:(R.tmps.setIfInBounds R.p x).getD R.p undef=x:=by simp[Array.getD,this]
   rw[e2];exact .val _
  ·rw[if_neg e]
   have e2:(R.tmps.setIfInBounds R.p x).getD t undef=R.tmps.getD t undef:=by
    simp[Array.getD_eq_getD_getElem?,Array.getElem?_setIfInBounds,Ne.symm e]
   rw[e2];exact h1.env t
 refine wpIn_mono (R.round j x hgo hx (CQ w J X R.T R.pn R.l) ρ J _ w hs1) ?_
 rintro e a1 w1 ⟨n1,s1,ρ1,J1,hs2,hq⟩
 cases e with
 |normal=>
  obtain⟨hm,hbody⟩:=hq
  have z1:w.heap.size<=w1.heap.size:=hs2.kept.size
  have hI1:¬(X R.l/\¬J R.l):=λh=>(hX _ h.1).2.2 rfl
  have k1:∀b,b<w.heap.size->¬(X b/\¬J b)->w1.heap[b]? =w.heap[b]? :=λb hb hn=>hs2.kept.block b hb hn
  have hl1:w1.heap[R.l]? =some (.loop (R.rcd .ready none)):=(k1 R.l hlw hI1).trans h3
  refine⟨_,run_beginRound hl1 rfl,?_⟩
  generalize hw2:w1.putObj R.l (.loop {R.rcd .ready none with state:= .busy})=w2
  have z2:w2.heap.size=w1.heap.size:=by rw[<-hw2];simp
  have b2:∀b,b≠R.l->w2.heap[b]? =w1.heap[b]? :=λb hb=>by rw[<-hw2];exact World.putObj_heap_other hb
  have l2:w2.heap[R.l]? =some (.loop {R.rcd .ready none with state:= .busy}):=by rw[<-hw2];exact World.putObj_heap_same omgz
  have o2:w2.os=w1.os/\w2.tape=w1.tape/\w2.output=w1.output:=by rw[<-hw2];exact⟨rfl,rfl,rfl⟩
  clear hw2
  let X2:Nat->Prop:=λb=>(X b\/(w.heap.size<=b/\b<w1.heap.size))/\¬J b
  have hJl:∀b,J b->b≠R.l:=λb hb e=>by
   subst e
   rcases h2 _ hb with h|h
   ·exact R.hBl (R.hJB _ h)
   ·exact(hX _ h).2.2 rfl
  have own1:∀b,((X b/\¬J b)\/w.heap.size<=b)->b<w1.heap.size->X2 b/\b≠R.l:=λb hb hlt=>by
   rcases hb with hb|hb
   ·exact⟨⟨.inl hb.1,hb.2⟩,(hX b hb.1).2.2⟩
   ·exact⟨⟨.inr ⟨hb,hlt⟩,λh=>by have:=h1.jlt b h;omega⟩,omgz⟩
  have J1c:∀b,J1 b->J b\/X2 b:=λb hb=>by
   rcases hs2.jok b hb with h|h|h
   ·exact .inl h
   ·exact .inr (own1 b (.inl h) (hs2.jlt b hb)).1
   ·exact .inr (own1 b (.inr h) (hs2.jlt b hb)).1
  have X2l:∀b,X2 b->b≠R.l:=λb hb=>by
   rcases hb.1 with h|h
   ·exact(hX b h).2.2
   ·omega
  have J1l:∀b,J1 b->b≠R.l:=λb hb=>(J1c b hb).elim (hJl b) (X2l b)
  have hBX2:∀b,R.B b->¬X2 b:=λb hB hb=>by
   rcases hb.1 with h|h
   ·exact(hX b h).2.1 hB
   ·have:=R.hBlt b hB;omega
  have hBl:∀b,R.B b->b≠R.l:=λb hB e=>R.hBl (e▸hB)
  have hs3:Sim (CQ w2 J1 X2 R.T R.pn R.l) ρ1 (· <n1) J1 s1 a1 w2:=by
   have:=hs2.rebase (w':=w2) (J':=J1) (X':=X2) (l:=R.l) (pn:=R.pn) (mR:=R.mR) (hs2.defers.2 R.l rfl).1 omgz o2.1 o2.2.1 o2.2.2 (λb hb=>⟨hb,b2 b (J1l b hb)⟩) (λb hb=>by have:=hs2.jlt b hb;omega)
    (λid o b s q1 q2=>by
      obtain⟨b',s',g1,g2,g3,g4⟩:=hs2.obj id o q1
      rw[q2] at g1;cases g1
      have:=own1 b g3 g2.lt
      exact⟨b2 b this.2,this.1,g4⟩)
    (λb hb=>by have:=own1 b hb.2.1 hb.1;exact⟨b2 b this.2,this.1,hb.2.2.1⟩)
    (λb hb=>⟨by rcases hb.1 with h|h;have:=(hX b h).1;omega;omega,X2l b hb⟩)
    (λH hH b hb=>⟨b2 b (hBl b (R.hT H hH b hb)),hBX2 b (R.hT H hH b hb)⟩) ⟨_,l2⟩ (λi hi=>hs2.pin i (by rw[hm];exact hi))
   rw[<-hm] at this
   exact this
  refine wpIn_mono (hbody (CQ w2 J1 X2 R.T R.pn R.l) ρ1 J1 a1 w2 hs3) ?_
  rintro e a3 w3 ⟨n3,s3,ρ3,J3,hs4,hq⟩
  have z3:w2.heap.size<=w3.heap.size:=hs4.kept.size
  have k3:∀b,b<w2.heap.size->¬(X2 b/\¬J1 b)->w3.heap[b]? =w2.heap[b]? :=λb hb hn=>hs4.kept.block b hb hn
  have hl3:w3.heap[R.l]? =some (.loop {R.rcd .ready none with state:= .busy}):=(k3 R.l omgz (λh=>X2l _ h.1 rfl)).trans l2
  let C:World->Prop:=λw4=>w.heap.size<=w4.heap.size/\w4.os=w.os/\w4.tape=w.tape/\w4.output=w.output/\(∃r,w4.heap[R.l]? =some (.loop r))/\(∀b,b<w.heap.size->¬X b->b≠R.l->w4.heap[b]? =w.heap[b]?)/\
      R.G (j+1) (λb=>X b\/(w.heap.size<=b/\b<w4.heap.size)) w4
  have fin:∀(w4:World),w4=w3.putObj R.l (.loop (R.cur (j+1)))->∀σ:List Nat,σ.length=(if R.go (j+1)=true then R.L else R.LS)->Sub σ ⟨R.n,R.mR,[],if R.go (j+1)=true then R.O (j+1) else R.OS (j+1)⟩ s3->C w4:=by
   intro w4 hw4 σ hσ hsub
   have z4:w4.heap.size=w3.heap.size:=by rw[hw4];simp
   have b4:∀b,b≠R.l->w4.heap[b]? =w3.heap[b]? :=λb hb=>by rw[hw4];exact World.putObj_heap_other hb
   have l4:w4.heap[R.l]? =some (.loop (R.cur (j+1))):=by rw[hw4];exact World.putObj_heap_same omgz
   have o4:w4.os=w3.os/\w4.tape=w3.tape/\w4.output=w3.output:=by rw[hw4];exact⟨rfl,rfl,rfl⟩
   clear hw4
   have frame:∀b,b<w.heap.size->¬(X b/\¬J b)->b≠R.l->w4.heap[b]? =w.heap[b]? :=λb hb hn hl=>
    (b4 b hl).trans ((k3 b omgz (λh=>by
      rcases h.1.1 with h'|h'
      ·exact hn ⟨h',h.1.2⟩
      ·omega)).trans ((b2 b hl).trans (k1 b hb hn)))
   have os4:w4.os=w.os:=o4.1.trans (hs4.kept.os.trans (o2.1.trans hs2.kept.os))
   have tp4:w4.tape=w.tape:=o4.2.1.trans (hs4.kept.tape.trans (o2.2.1.trans hs2.kept.tape))
   have ou4:w4.output=w.output:=o4.2.2.trans (hs4.kept.output.trans (o2.2.2.trans hs2.kept.output))
   refine⟨omgz,os4,tp4,ou4,⟨_,l4⟩,λb hb hn hl=>frame b hb (λh=>hn h.1) hl,?_⟩
   have own3:∀b,((X2 b/\¬J1 b)\/w2.heap.size<=b)->b<w3.heap.size->(X b\/(w.heap.size<=b/\b<w4.heap.size))/\¬J b/\b≠R.l:=λb hb hlt=>by
    rcases hb with hb|hb
    ·refine⟨?_,hb.1.2,X2l b hb.1⟩
     rcases hb.1.1 with h|h
     ·exact .inl h
     ·exact .inr omgz
    ·exact⟨.inr omgz,λh=>by have:=h1.jlt b h;omega,omgz⟩
   have J3c:∀b,J3 b->(J b\/(X b\/(w.heap.size<=b/\b<w4.heap.size)))/\b≠R.l:=λb hb=>by
    rcases hs4.jok b hb with h|h|h
    ·refine⟨?_,J1l b h⟩
     rcases J1c b h with h'|h'
     ·exact .inl h'
     ·rcases h'.1 with h''|h''
      ·exact .inr (.inl h'')
      ·exact .inr (.inr omgz)
    ·have:=own3 b (.inl h) (hs4.jlt b hb);exact⟨.inr this.1,this.2.2⟩
    ·have:=own3 b (.inr h) (hs4.jlt b hb);exact⟨.inr this.1,this.2.2⟩
   have hs5:=hsub.sim hs4
   have hs6:=hs5.rebase (w':=w4) (J':=λb=>J b\/J3 b) (X':=λb=>X b\/(w.heap.size<=b/\b<w4.heap.size)) (l:=R.l) (pn:=R.pn) (mR:=R.mR) (hs5.defers.2 R.l rfl).1 omgz o4.1 o4.2.1 o4.2.2 (λb hb=>⟨.inr hb,b4 b (J3c b hb).2⟩)
    (λb hb=>by rcases hb with h|h;have:=h1.jlt b h;omega;have:=hs4.jlt b h;omega)
    (λid o b s q1 q2=>by
      obtain⟨b',s',g1,g2,g3,g4⟩:=hs5.obj id o q1
      rw[q2] at g1;cases g1
      have:=own3 b g3 g2.lt
      exact⟨b4 b this.2.2,this.1,λh=>h.elim this.2.1 g4⟩)
    (λb hb=>by have:=own3 b hb.2.1 hb.1;exact⟨b4 b this.2.2,this.1,λh=>h.elim this.2.1 hb.2.2.1⟩)
    (λb hb=>by
      rcases hb with h|h
      ·have:=hX b h;exact⟨omgz,this.2.2⟩
      ·exact⟨h.2,omgz⟩)
    (λH hH b hb=>by
      have hB:=R.hT H hH b hb
      refine⟨b4 b (hBl b hB),λh=>?_⟩
      rcases h with h|h
      ·exact(hX b h).2.1 hB
      ·have:=R.hBlt b hB;omega) ⟨_,l4⟩ (λi hi=>hs5.pin i hi)
   have hpin:=hs6.pin
   have hs7:=hs6.reenv (env':=R.env) (a':=⟨R.tmps,[]⟩) (hs5.defers.2 R.l rfl).1.symm R.hsz (λt=>by
    have e1:Rep w J ρ (R.tmps.getD t undef) ((aQ R.env t).getD .any):=h1.env t
    have e2:=e1.mono (w':=w4) (J':=λb=>J b\/J3 b) (ρ':=ρ) (λb hb hlt=>⟨.inl hb,frame b hlt (λh=>h.2 hb) (hJl b hb)⟩) omgz (λ_ _ h=>h)
    refine e2.unren (τ:=λi=>i) (n:=R.mR) (λid hid=>?_) (Qu _).symm ?_
    ·obtain⟨q,q1,q2⟩:=hpin id hid
     obtain⟨q',q3,q4⟩:=h1.pin id hid
     have q1:R.pn id=some q:=q1
     have q3:R.pn id=some q':=q3
     rw[q1] at q3;cases q3
     exact q2.trans q4.symm
    ·cases hl:aQ R.env t with
     |none=>simp[bnd]
     |some v=>exact R.hbe _ (kT hl))
   refine⟨_,λb=>J b\/J3 b,by rw[<-hσ];exact hs7,λb hb=>?_,l4,⟨omgz,os4.trans h5,tp4.trans h6,ou4.trans h7⟩,λb hb=>?_⟩
   ·rcases hb with h|h
    ·exact(h2 b h).imp id .inl
    ·rcases(J3c b h).1 with h|h
     ·exact(h2 b h).imp id .inl
     ·exact .inr h
   ·have:=R.hBlt b hb
    exact(frame b omgz (λh=>(hX b h.1).2.1 hb) (hBl b hb)).trans (h8 b hb)
  have stop:∀e',e'=R.eS->R.go (j+1)=false->(∃σ:List Nat,σ.length=R.LS/\Sub σ ⟨R.n,R.mR,[],R.OS (j+1)⟩ s3)->∀w4,w4=w3.putObj R.l (.loop (R.rcd .done (some (BD e'))))->C w4:=λe' he hg hσ w4 hw=>by
   obtain⟨σ,s1,s2⟩:=hσ
   refine fin w4 (by rw[hw];simp[cur,hg,he]) σ (by simp[hg,s1]) ?_
   simp only[hg,Bool.false_eq_true,if_false];exact s2
  rcases hq with⟨rfl,hg,σ,s1,s2⟩|⟨rfl,hg,hσ⟩
  ·have hr:=run_endRound (P:=P) none hl3
   refine⟨_,_,hr,by simp[hg],?_⟩
   refine fin _ (by simp[cur,hg,rcd]) σ (by simp[hg,s1]) ?_
   simp only[hg,if_true];exact s2
  ·rcases R.hE with he|⟨i,he⟩
   ·rw[he] at stop⊢
    have hr:=run_endRound (P:=P) (some .ret) hl3
    refine⟨_,_,hr,by simp[hg],?_⟩
    exact stop _ rfl hg hσ _ (by simp[BD,rcd])
   ·rw[he] at stop⊢
    have hr:=run_endRound (P:=P) (some (.exit i)) hl3
    refine⟨_,_,hr,by simp[hg],?_⟩
    exact stop _ rfl hg hσ _ (by simp[BD,rcd])
 |_=>exact hq.elim
end xu
theorem Sim.retr{c:Ctx} {ρ:Rho} {D J:Nat->Prop} {st:St} {a:Act} {w:World}(hs:Sim c ρ D J st a w){T:jG->Prop}(hT:∀id H j,st.ob id=some (.tr H j)->T H):Sim {c with tr:=T} ρ D J st {a with defers:=[]} w:=
 ⟨⟨⟨[],rfl,.nil,λ_ h=>(by cases h)⟩,λl hl=>⟨rfl,(hs.defers.2 l hl).2⟩⟩,hs.tmps,hs.env,hs.obj,hs.inj,hs.dom,hs.jok,hs.jlt,hs.ilt,hs.pin,⟨hs.kept.size,hs.kept.os,hs.kept.tape,hs.kept.output,hs.kept.block⟩,
   ⟨hs.hid.one,λid H j h=>⟨(hs.hid.on id H j h).1,(hs.hid.on id H j h).2.1,hT id H j h⟩⟩,hs.laid⟩
theorem E9{Q:Exit->Nat->St->Prop} {nid:Nat} {st:St} {g:Operand} {f:FuncId} {caps:List AV}(R:RLoop)(σ0:List Nat)(N:Nat)(hg:st.op g= .fn f caps)(hcl:∀x∈caps,bnd 0 x)(hpl:ol P f=true)
 (hc:∀H:jG,H.P=P->H.xs=R.xs->H.go=R.go->∃r,ACall P f (.yl 0::caps) [.tr H 0] 1 r [.tr H N])
 (h0:Sub σ0 ⟨R.n,st.m,R.env,R.O 0⟩ st) (hL:σ0.length=R.L) (hgo:R.go 0=true) (hm:st.m<=R.mR) (hob:∀j,j<R.mR->((⟨R.n,st.m,R.env,R.O 0⟩:St).ob j).isSome=true) (hbe:∀q∈R.env,bnd R.mR q.2) (hp:R.p<R.n) (hE:R.eS= .ret\/∃i,R.eS= .exit i)
 (round:∀j x,R.go j=true->R.xs j=some x->AC P R.assign (Thn (Mid P R j) (λ_ _ _=>False)) R.L ⟨R.n,R.mR,(R.p,.val x)::R.env,R.O j⟩)
 (done:R.go N=true->Q .normal R.L ⟨R.n,st.m,R.env,R.O N⟩) (stop:R.go N=false->Q R.eS R.LS ⟨R.n,st.m,R.env,R.OS N⟩):AC P (.rangeFunc g #[R.p] R.assign R.body) Q nid st:=by
 intro c ρ J a w hs
 have hs0:=h0.sim hs
 generalize hρ0:(λi=>if i<σ0.length then ρ (σ0.getD i 0) else none)=ρ0 at hs0
 rw[hL] at hs0
 clear hρ0
 refine wpIn_rangeFunc ?_
 intro fn _
 obtain⟨l,mk,W1,dB,hent,hrec,hlw,hW,hWs,ho1,ht1,hu1,hmk⟩:∃l mk W1 dB,(Instr.enterLoop fn a.tmps #[R.p] R.assign R.body (fen c.rd).round).run P w= .ok (l,mk) W1/\W1.heap[l]? =some (.loop {state:= .ready,pending:=none,fn:=fn,tmps:=a.tmps,params:= #[R.p],assign:=R.assign,body:=R.body,defers:=dB})/\
  w.heap.size<=l/\(∀b,b<w.heap.size->W1.heap[b]? =w.heap[b]?)/\w.heap.size<=W1.heap.size/\W1.os=w.os/\W1.tape=w.tape/\W1.output=w.output/\
  (mk=[]\/(c.rd=none/\∃D,mk=[Mi D]/\w.heap.size<=D/\D≠l/\W1.heap[D]? =some (.deferred (some [])))):=by
  have al:∀(w:World) (o:Obj) b,b<w.heap.size->(w.alloc o).heap[b]? =w.heap[b]? :=λw o b hb=>by
   show(w.heap.push o)[b]? =_
   rw[Array.getElem?_push,if_neg omgz]
  have sz:∀(w:World) (o:Obj),(w.alloc o).heap.size=w.heap.size+1:=λw o=>by show(w.heap.push o).size=_;simp
  cases hr:c.rd with
  |none=>
   refine⟨_,_,_,w.heap.size,run_enterLoop_outer fn a.tmps #[R.p] R.assign R.body,?_,omgz,λb hb=>?_,?_,rfl,rfl,rfl,.inr ⟨rfl,w.heap.size,rfl,Nat.le_refl _,omgz,?_⟩⟩
   ·have:=World.alloc_heap_new (w.alloc (.deferred (some []))) (.loop {state:= .ready,pending:=none,fn:=fn,tmps:=a.tmps,params:= #[R.p],assign:=R.assign,body:=R.body,defers:=w.heap.size})
    rw[sz] at this;exact this
   ·rw[al _ _ _ (by rw[sz];omega),al _ _ _ hb]
   ·rw[sz,sz];omega
   ·rw[al _ _ _ (by rw[sz];omega)];exact World.alloc_heap_new w _
  |some l0=>
   obtain⟨_,q1,r0,q2⟩:=hs.defers.2 l0 hr
   have q3:w.heap[l0]? =some (.loop r0):=(hs.kept.block l0 (Array.getElem?_eq_some_iff.1 q2).1 q1).trans q2
   refine⟨_,_,_,r0.defers,run_enterLoop_inner q3 fn a.tmps #[R.p] R.assign R.body,World.alloc_heap_new w _,omgz,λb hb=>al _ _ _ hb,?_,rfl,rfl,rfl,.inl rfl⟩
   rw[sz];omega
 have hlW:l<W1.heap.size:=(Array.getElem?_eq_some_iff.1 hrec).1
 let X0:Nat->Prop:=λb=>b<w.heap.size/\(c.I b\/c.w0.heap.size<=b)/\¬J b
 let B:Nat->Prop:=λb=>b<W1.heap.size/\¬X0 b/\b≠l
 let T:jG->Prop:=λH=>∃id k,(⟨R.n,st.m,R.env,R.O 0⟩:St).ob id=some (.tr H k)
 have k0:=hs.kept.size
 have hTs:∀H,T H->(∀b,H.B b->b<c.w0.heap.size/\¬c.I b)/\c.tr H:=λH ⟨id,k,h⟩=>⟨(hs0.hid.on _ _ _ h).2.1,(hs0.hid.on _ _ _ h).2.2⟩
 have hTB:∀H,T H->∀b,H.B b->B b:=λH hH b hb=>by
  have:=(hTs H hH).1 b hb
  exact⟨omgz,λhx=>hx.2.1.elim this.2 (λh=>by omega),omgz⟩
 have hJB:∀b,J b->B b:=λb hb=>by have:=hs.jlt b hb;exact⟨omgz,λhx=>hx.2.2 hb,omgz⟩
 have hz:a.tmps.size=R.n:=hs0.tmps
 let RR:xu P:={toRLoop:=R,tmps:=a.tmps,fn:=fn,dB:=dB,T:=T,J:=J,B:=B,pn:=ρ0,W1:=W1,l:=l,hJB:=hJB,hBl:=λh=>h.2.2 rfl,hBlt:=λb h=>h.1,hT:=hTB,hsz:=hz,hp:=hp,hbe:=hbe,hE:=hE,round:=round}
 let HH:jG:={P:=P,l:=l,xs:=R.xs,go:=R.go,B:=B,G:=RR.G,keep:=λh h1 h2 h3 h4 h5 h6 h7=>RR.keep h h1 h2 h3 h4 h5 h6 h7,yield:=λh h1 h2 h3 r=>RR.yield h h1 h2 h3 r}
 obtain⟨r,hcall⟩:=hc HH rfl rfl rfl
 have hgv:=hs.op g;rw[hg] at hgv
 generalize hv:a.eval g=v at hgv
 cases hgv with
 |fn _ lb _ hsz hcap=>
  let I:Nat->Prop:=λb=>X0 b\/b=l
  let ρc:Rho:=λj=>if j=0 then some (l,0) else none
  have hρc:∀{j p},ρc j=some p->j=0/\p=(l,0):=λ{j p} h=>by
   by_cases e:j=0
   ·have:ρc j=some (l,0):=if_pos e
    rw[this] at h;cases h;exact⟨e,rfl⟩
   ·have:ρc j=none:=if_neg e
    rw[this] at h;cases h
  have hone:∀{j H k} {N:Nat},[aC.tr HH N][j]? =some (.tr H k)->j=0/\H=HH/\k=N:=λ{j H k N} h=>by
   cases j with
   |zero=>simp at h;exact⟨rfl,h.1.symm,h.2.symm⟩
   |succ j=>simp at h
  have hIc:∀b,I b->b≠l->(c.I b\/c.w0.heap.size<=b)/\¬J b/\b<w.heap.size:=λb hb hn=>hb.elim (λh=>⟨h.2.1,h.2.2,h.1⟩) (λh=>absurd h hn)
  refine⟨l,mk,W1,{target:= .fn (.func f) lb,args:= #[.func (.yield l) #[] #[]]},W1,f,#[.func (.yield l) #[] #[]]++lb,W1,hent,?_,λ_ _=>trivial,?_,λh=>by simp[fen,Fence.wide] at h,o9.2 ?_⟩
  ·simp only[resolve,hv]
   simp[go_sem]
  ·simp[invoke,yS hpl]
  ·refine(hcall W1 J I ρc _ (by simp[hsz];omega) (λj hj=>?_) (λb hb=>?_) (λb hb=>?_) (λj hj=>?_) (λj p h=>by have:=(hρc h).1;subst this;simp) (λi j b s s' h1 h2=>by rw[(hρc h1).1,(hρc h2).1]) ⟨λi i' H H' k k' h1 h2=>by rw[(hone h1).1,(hone h2).1],λj H k h=>?_⟩ (hs.laid.mono (λb hb hlt=>⟨hb,hW b hlt⟩) hWs)).mono ?_
   ·cases j with
    |zero=>simp only[List.getElem_cons_zero];have:(#[Value.func (.yield l) #[] #[]]++lb).getD 0 undef= .func (.yield l) #[] #[]:=by simp only[Array.getD_eq_getD_getElem?];rw[Array.getElem?_append_left (by simp)];simp
           rw[this];exact .yl l 0 0 (if_pos rfl)
    |succ j=>
     simp only[List.getElem_cons_succ]
     have hj':j<caps.length:=by simpa using hj
     have e1:(#[Value.func (.yield l) #[] #[]]++lb).getD (j+1) undef=lb.getD j undef:=by
      simp only[Array.getD_eq_getD_getElem?]
      rw[Array.getElem?_append_right (by simp)];simp
     rw[e1]
     exact((hcap j hj').closed (hcl _ (List.getElem_mem hj'))).mono (λb hb hlt=>⟨hb,hW b hlt⟩) hWs (λ_ _ h=>h)
   ·have:=hs.jlt b hb
    exact⟨omgz,λhi=>by by_cases e:b=l;omega;exact(hIc b hi e).2.1 hb⟩
   ·by_cases e:b=l
    ·omega
    ·have:=(hIc b hb e).2.2;omega
   ·have:j=0:=by simpa using hj
    subst this
    exact⟨l,0,if_pos rfl,.inr rfl,rfl,_,hrec⟩
   ·obtain⟨rfl,rfl,rfl⟩:=hone h
    have xc:∀b,X0 b->Xm ⟨W1,J,I,ρc,none,λH=>H∈trs [.tr HH 0]⟩ J (λj=>[aC.tr HH 0][j]?) ρc W1 b:=λb hb=>⟨by have:=hb.1;omega,.inl (.inl hb),hb.2.2,λid o s _ hr=>by
     have:=(hρc hr).2;simp only[Prod.mk.injEq] at this;have:=hb.1;omega⟩
    have cx:∀b,Xm ⟨W1,J,I,ρc,none,λH=>H∈trs [.tr HH 0]⟩ J (λj=>[aC.tr HH 0][j]?) ρc W1 b->X0 b/\b≠l:=λb hb=>by
     have e:b≠l:=λe=>by subst e;exact hb.2.2.2 0 _ 0 rfl (if_pos rfl)
     rcases hb.2.1 with h|h
     ·rcases h with h|h
      ·exact⟨h,e⟩
      ·exact absurd h e
     ·have:=hb.1;have h:W1.heap.size<=b:=h;omega
    refine⟨⟨ρ0,J,?_,λb hb=> .inl hb,?_,⟨Nat.le_refl _,rfl,rfl,rfl⟩,λb hb=>rfl⟩,λb hb=>⟨hb.1,λhi=>hi.elim hb.2.1 hb.2.2⟩,by simp[trs]⟩
    ·have h1:=(hs0.retr (T:=T) (λid H j h=>⟨id,j,h⟩)).rebase (w':=W1) (J':=J) (X':=Xm ⟨W1,J,I,ρc,none,λH=>H∈trs [.tr HH 0]⟩ J (λj=>[aC.tr HH 0][j]?) ρc W1) (l:=l) (pn:=ρ0) (mR:=R.mR) rfl hWs ho1 ht1 hu1
      (λb hb=>⟨hb,hW b (hs.jlt b hb)⟩) (λb hb=>by have:=hs.jlt b hb;omega) (λid o b s q1 q2=>by
        obtain⟨b',s',g1,g2,g3,g4⟩:=hs0.obj id o q1
        rw[q2] at g1;cases g1
        exact⟨hW b g2.lt,xc b ⟨g2.lt,g3,g4⟩,g4⟩) (λb hb=>⟨hW b hb.1,xc b ⟨hb.1,hb.2.1,hb.2.2.1⟩,hb.2.2.1⟩) (λb hb=>⟨hb.1,(cx b hb).2⟩)
      (λH hH b hb=>by
        have:=(hTs H hH).1 b hb
        exact⟨hW b omgz,λhx=>(hTB H hH b hb).2.1 (cx b hx).1⟩) ⟨_,hrec⟩ (λi hi=>by
        obtain⟨o,ho⟩:=Option.isSome_iff_exists.1 (hob i hi)
        obtain⟨b,s,g1,_⟩:=hs0.obj i o ho
        exact⟨_,g1,g1⟩)
     have e1:(R.go 0=true)=True:=by simp[hgo]
     show Sim _ ρ0 (· <if R.go 0=true then R.L else R.LS) J ⟨R.n,R.mR,R.env,if R.go 0=true then R.O 0 else R.OS 0⟩ _ W1
     simp only[hgo,if_true]
     exact h1
    ·show W1.heap[l]? =some (.loop (RR.cur 0))
     have:RR.cur 0=RR.rcd .ready none:=by show(if R.go 0=true then _ else _)=_;rw[if_pos hgo]
     rw[this];exact hrec
   ·rintro e W2 ⟨v,ρ',Jc,rfl,_,hJc,hkept,_,_,hobj',_,hhid'⟩
    obtain⟨ρ2,J2,g1,g2,g3,⟨g4,g5,g6,g7⟩,g8⟩:=(hhid'.on 0 HH N rfl).1
    generalize hXc:Xm ⟨W1,J,I,ρc,none,λH=>H∈trs [.tr HH 0]⟩ Jc (λj=>[aC.tr HH N][j]?) ρ' W2=Xc at g1 g2
    have hX:∀b,Xc b->b<W2.heap.size/\b≠l/\(c.I b\/c.w0.heap.size<=b)/\¬J b/\(X0 b\/W1.heap.size<=b):=λb hb=>by
     rw[<-hXc] at hb
     obtain⟨b1,s1,p1,⟨p2,_⟩,_⟩:=hobj' 0 (by simp)
     have p2:b1=l:=p2
     rw[p2] at p1
     have e:b≠l:=λe=>by subst e;exact hb.2.2.2 0 _ _ rfl p1
     refine⟨hb.1,e,?_⟩
     rcases hb.2.1 with h|h
     ·have:=hIc b h e;exact⟨this.1,this.2.1,.inl (h.resolve_right e)⟩
     ·have h:W1.heap.size<=b:=h
      exact⟨.inr omgz,λhj=>by have:=hs.jlt b hj;omega,.inr h⟩
    clear hXc
    have hB:∀b,B b->W2.heap[b]? =W1.heap[b]? :=g8
    have hWW:W1.heap.size<=W2.heap.size:=g4
    generalize hW3:W2.putObj l (.loop {RR.cur N with state:= .exhausted})=W3
    have z3:W3.heap.size=W2.heap.size:=by rw[<-hW3];simp
    have b3:∀b,b≠l->W3.heap[b]? =W2.heap[b]? :=λb hb=>by rw[<-hW3];exact World.putObj_heap_other hb
    have o3:W3.os=W2.os/\W3.tape=W2.tape/\W3.output=W2.output:=by rw[<-hW3];exact⟨rfl,rfl,rfl⟩
    let Jf:Nat->Prop:=λb=>J b\/J2 b\/Mi b∈mk
    have hmkD:∀b,Mi b∈mk->w.heap.size<=b/\b≠l/\b<W1.heap.size/\W1.heap[b]? =some (.deferred (some [])):=λb hb=>by
     rcases hmk with h|⟨_,D,h,d1,d2,d3⟩
     ·rw[h] at hb;cases hb
     ·rw[h] at hb
      have:b=D:=by simpa[Mi] using hb
      subst this
      exact⟨d1,d2,(Array.getElem?_eq_some_iff.1 d3).1,d3⟩
    have nJf:∀b,Xc b->¬J2 b->¬Jf b:=λb hb hn h=>by
     obtain⟨_,x2,_,x4,x5⟩:=hX b hb
     rcases h with h|h|h
     ·exact x4 h
     ·exact hn h
     ·have:=hmkD b h
      rcases x5 with x5|x5
      ·have:=x5.1;omega
      ·omega
    have fsim:∀(L':Nat) (O':List (Nat×Option aC)),Sim (CQ W2 J2 Xc T ρ0 l) ρ2 (· <L') J2 ⟨R.n,R.mR,R.env,O'⟩ ⟨a.tmps,[]⟩ W2->Sim c ρ2 (· <L') Jf ⟨R.n,st.m,R.env,O'⟩ {a with defers:=mk++a.defers} W3:=by
     intro L' O' g
     have hJ2:∀b,J2 b->b≠l/\(J b\/Xc b):=λb hb=>by
      rcases g2 b hb with h|h
      ·have:=hs.jlt b h;exact⟨omgz,.inl h⟩
      ·exact⟨(hX b h).2.1,.inr h⟩
     have hmono:∀b,J2 b->b<W2.heap.size->Jf b/\W3.heap[b]? =W2.heap[b]? :=λb hb _=>⟨.inr (.inl hb),b3 b (hJ2 b hb).1⟩
     have hold:∀b,B b->b<w.heap.size->W3.heap[b]? =w.heap[b]? :=λb hb hlt=>(b3 b hb.2.2).trans ((hB b hb).trans (hW b hlt))
     have own:∀{id o},(⟨R.n,R.mR,R.env,O'⟩:St).ob id=some o->∃b s,ρ2 id=some (b,s)/\ObjRep W2 J2 ρ2 b s o/\Xc b/\¬J2 b:=λ{id o} h=>by
      obtain⟨b,s,q1,q2,q3,q4⟩:=g.obj id o h
      refine⟨b,s,q1,q2,?_,q4⟩
      rcases q3 with q3|q3
      ·exact q3.1
      ·have:=q2.lt;have q3:W2.heap.size<=b:=q3;omega
     have lift:∀b,Xm (CQ W2 J2 Xc T ρ0 l) J2 (⟨R.n,R.mR,R.env,O'⟩:St).ob ρ2 W2 b->Xc b/\¬J2 b:=λb hb=>by
      rcases hb.2.1 with h|h
      ·exact h
      ·have:=hb.1;have h:W2.heap.size<=b:=h;omega
     refine⟨?_,hz,λt=>(g.env t).mono hmono omgz (λ_ _ h=>h),λid o h=>?_,g.inj,g.dom,λb hb=>?_,λb hb=>?_,hs.ilt,λj hj=>?_,⟨omgz,?_,?_,?_,λb hb hI=>?_⟩,⟨g.hid.one,λid H j h=>?_⟩,hs.laid.mono (λb hb hlt=>⟨.inl hb,hold b (hJB b hb) hlt⟩) omgz⟩
     ·obtain⟨⟨ll,e1,e2,e3⟩,e4⟩:=hs.defers
      have hD:∀D∈ll,W3.heap[D]? =some (.deferred (some []))/\Jf D/\c.w0.heap.size<=D:=λD hD=>by
       obtain⟨q1,q2,q3⟩:=e3 D hD
       exact⟨(hold D (hJB D q2) (hs.jlt D q2)).trans q1,.inl q2,q3⟩
      rcases hmk with h|⟨hr,D,h,d1,d2,d3⟩
      ·exact⟨⟨ll,by rw[h];exact e1,e2,hD⟩,λl hl=>by rw[h];exact e4 l hl⟩
      ·refine⟨⟨D::ll,by rw[h,List.map_cons,<-e1];rfl,List.nodup_cons.2 ⟨λhm=>?_,e2⟩,λD' hD'=>?_⟩,λl hl=>by rw[hr] at hl;cases hl⟩
       ·have:=hs.jlt D (e3 D hm).2.1;omega
       ·rcases List.mem_cons.1 hD' with e|hD'
        ·subst e
         have d4:=(Array.getElem?_eq_some_iff.1 d3).1
         refine⟨(b3 D' d2).trans ((hB D' ⟨d4,λhx=>by have:=hx.1;omega,d2⟩).trans d3),.inr (.inr (by rw[h];exact List.mem_cons_self)),omgz⟩
        ·exact hD D' hD'
     ·obtain⟨b,s,q1,q2,q3,q4⟩:=own h
      exact⟨b,s,q1,q2.mono hmono omgz (λ_ _ h=>h) (b3 b (hX b q3).2.1),(hX b q3).2.2.1,nJf b q3 q4⟩
     ·rcases hb with h|h|h
      ·exact hs.jok b h
      ·rcases(hJ2 b h).2 with h|h
       ·exact hs.jok b h
       ·exact .inr (hX b h).2.2.1
      ·have:=hmkD b h;exact .inr (.inr omgz)
     ·rcases hb with h|h|h
      ·have:=hs.jlt b h;omega
      ·have:=g.jlt b h;omega
      ·have:=hmkD b h;omega
     ·obtain⟨p1,q1,q2⟩:=hs0.pin j hj
      obtain⟨p2,q3,q4⟩:=g.pin j (Nat.lt_of_lt_of_le hj hm)
      have q3:ρ0 j=some p2:=q3
      rw[q2] at q3;cases q3
      exact⟨_,q1,q4⟩
     ·exact o3.1.trans (g5.trans (ho1.trans hs.kept.os))
     ·exact o3.2.1.trans (g6.trans (ht1.trans hs.kept.tape))
     ·exact o3.2.2.trans (g7.trans (hu1.trans hs.kept.output))
     ·exact(hold b ⟨omgz,λhx=>hx.2.1.elim hI (λh=>by omega),omgz⟩ omgz).trans (hs.kept.block b hb hI)
     ·obtain⟨q1,_,q3⟩:=g.hid.on id H j h
      have hst:=hTs H q3
      obtain⟨b0,s0,p1,⟨p2,_⟩,p3,p4⟩:=own h
      subst p2
      refine⟨H.keep q1 omgz o3.1 o3.2.1 o3.2.2 (λb hb=>b3 b ?_) (λb hb=>?_) (λb hb=>⟨hb.1,λhB'=>?_,λe=>?_⟩),hst⟩
      ·rcases hb with hb|hb|hb
       ·exact(hX b (lift b hb).1).2.1
       ·exact(hTB H q3 b hb).2.2
       ·subst hb;exact(hX _ p3).2.1
      ·have:=lift b hb
       exact⟨by have:=hb.1;omega,(hX b this.1).2.2.1,nJf b this.1 this.2,hb.2.2.2⟩
      ·have:=hst.1 b hB'
       rcases hb.2.1 with h|h
       ·exact this.2 h
       ·omega
      ·subst e;exact hb.2.2.2 _ _ _ h p1
    have hend:=run_endLoop (P:=P) g3 (by show(RR.cur N).state≠ .busy;unfold xu.cur;split<;>simp[xu.rcd])
    rw[hW3] at hend
    by_cases hN:R.go N=true
    ·have e1:(RR.cur N).pending=none:=by unfold xu.cur;rw[if_pos hN];rfl
     rw[e1] at hend
     refine⟨none,W3,hend,R.L,_,ρ2,Jf,fsim R.L (R.O N) ?_,done hN⟩
     have g1:Sim _ ρ2 (· <if R.go N=true then R.L else R.LS) J2 ⟨R.n,R.mR,R.env,if R.go N=true then R.O N else R.OS N⟩ _ W2:=g1
     simp only[hN,if_true] at g1
     exact g1
    ·have hN:R.go N=false:=by simpa using hN
     have e1:(RR.cur N).pending=some (BD R.eS):=by unfold xu.cur;rw[if_neg (by show¬R.go N=true;simp[hN])];rfl
     rw[e1] at hend
     have g1:Sim _ ρ2 (· <if R.go N=true then R.L else R.LS) J2 ⟨R.n,R.mR,R.env,if R.go N=true then R.O N else R.OS N⟩ _ W2:=g1
     simp only[hN,Bool.false_eq_true,if_false] at g1
     have fin:Vp c Q R.eS {a with defers:=mk++a.defers} W3:=⟨R.LS,_,ρ2,Jf,fsim R.LS (R.OS N) g1,stop hN⟩
     refine⟨some (BD R.eS),W3,hend,?_⟩
     rcases hE with he|⟨i,he⟩
     ·rw[he] at fin⊢;exact wpIn_ret fin
     ·rw[he] at fin⊢;exact wpIn_exit fin
end Go.Sy
namespace Go.Sy
abbrev Ip{P:Program} {f:FuncId} {a:List AV} {o o':List aC} {m:Nat} {r:AV}(_:PLift (ACall P f a o m r o')):FuncId:=f
theorem jo{p q:Prop}(k:q)(h:PLift q->p:=by(intro zz;simp-dsimp(disch:=try exact vD) only[push_cast,simprocAttr];(repeat refine aI ?_);exact zz.down)):p:=h ⟨k⟩
theorem aY{p q:Prop}(k:q)(h:PLift q->p:=by(intro zz;(first|refine ay rfl (λK hK=>?_)|refine au (λK hK=>?_)|refine aD (λK hK=>?_));(first|apply cZ|apply aX|apply dz|apply aR|apply bD|apply bE|apply bO|apply fM|apply iI|apply dh|apply gU|apply gZ|apply ic|apply eY|apply iD|apply eT|apply dO|apply kN|apply gH|apply aV|apply gy|apply dM|apply ik|apply jL|apply jm|apply iG|apply iQ|apply wR|apply wQ|apply iP|apply dC|apply bQ|apply bF|apply eH|apply dH|apply fI);simp-dsimp(disch:=try exact vD) only[push_cast,simprocAttr];(repeat refine aI ?_);(first|refine hK _ _ _ ?_|refine hK _ _ ?_);exact zz.down)):p:=h ⟨k⟩
theorem mf{p q:Prop}(k:q)(h:PLift q->p:=by(intro zz;(first|refine ay rfl (λK hK=>?_)|refine au (λK hK=>?_)|refine aD (λK hK=>?_));(first|apply mV|apply kV|apply gz|apply lF|apply gB);simp-dsimp(disch:=try exact vD) only[push_cast,simprocAttr];(repeat refine aI ?_);(first|refine hK _ _ _ ?_|refine hK _ _ ?_);exact zz.down)):p:=h ⟨k⟩
theorem mW{p q:Prop}(k:q)(h:PLift q->p:=by(intro zz;(first|refine ay rfl (λK hK=>?_)|refine au (λK hK=>?_)|refine aD (λK hK=>?_));(first|apply d9|apply il);simp-dsimp(disch:=try exact vD) only[push_cast,simprocAttr];(repeat refine aI ?_);(first|refine hK _ _ _ ?_|refine hK _ _ ?_);exact zz.down)):p:=h ⟨k⟩
theorem mY{p q:Prop}(k:q)(h:PLift q->p:=by(intro zz;(first|refine ay rfl (λK hK=>?_)|refine au (λK hK=>?_)|refine aD (λK hK=>?_));(first|apply dZ|apply jM);simp-dsimp(disch:=try exact vD) only[push_cast,simprocAttr];(repeat refine aI ?_);(first|refine hK _ _ _ ?_|refine hK _ _ ?_);exact zz.down)):p:=h ⟨k⟩
theorem aM{p q cT:Prop}(c:cT)(k:q)(h:PLift cT->PLift q->p:=by(intro cc zz;(first|refine ay rfl (λK hK=>?_)|refine au (λK hK=>?_)|refine aD (λK hK=>?_));refine ai (f:=Ip cc) [] 0 false ?_;simp-dsimp(disch:=try exact vD) only[push_cast,simprocAttr];(repeat refine aI ?_);intro G hG;refine hG _ _ ?_;clear hG G;refine⟨_,_,cc.down,?_⟩;simp-dsimp(disch:=try exact vD) only[push_cast,simprocAttr];(repeat refine aI ?_);(first|refine hK _ _ _ ?_|refine hK _ _ ?_);exact zz.down)):p:=h ⟨c⟩ ⟨k⟩
theorem mg{p q:Prop}(k:q)(h:PLift q->p:=by(intro zz;simp-dsimp(disch:=try exact vD) only[push_cast,simprocAttr];(repeat refine aI ?_);intro G hG;refine hG _ _ ?_;exact zz.down)):p:=h ⟨k⟩
theorem aZ{p q:Prop}(k:q)(h:PLift q->p:=by(intro zz;(first|refine aN rfl rfl (λK1 K2 h1 h2=>?_) rfl|refine aL (λK1 K2 h1 h2=>?_)|refine bX rfl rfl (λK1 K2 h1 h2=>?_));simp-dsimp(disch:=try exact vD) only[push_cast,simprocAttr];(first|refine h1 ?_|refine h2 ?_);exact zz.down)):p:=h ⟨k⟩
theorem bf{p q r:Prop}(k1:q)(k2:r)(h:PLift q->PLift r->p:=by(intro z1 z2;(first|refine aN rfl rfl (λK1 K2 h1 h2=>?_) rfl|refine aL (λK1 K2 h1 h2=>?_)|refine bX rfl rfl (λK1 K2 h1 h2=>?_));simp-dsimp(disch:=try exact vD) only[push_cast,simprocAttr];refine⟨λhc=>?_,λhc=>?_⟩;(refine h1 ?_;revert hc;exact z1.down);(refine h2 ?_;revert hc;exact z2.down))):p:=h ⟨k1⟩ ⟨k2⟩
theorem jZ{p:Prop}(h:p:=by((try simp only[List.cons_append,List.nil_append]);refine Sub.mk2 ?_;(simp-dsimp(disch:=try exact vD) only[push_cast,simprocAttr]);(repeat refine aI ?_);(first|done|(first|exact vI|fail)))):p:=h
theorem rG{p q:Prop}(k:q)(h:PLift q->p:=by(intro zz;simp-dsimp(disch:=try exact vD) only[push_cast,simprocAttr,zx1,zx2,zx3];(repeat refine aI ?_);exact zz.down)):p:=h ⟨k⟩
theorem dm{p q:Prop}(k:q)(h:PLift q->p:=by(intro zz;(first|refine ay rfl (λK hK=>?_)|refine au (λK hK=>?_)|refine aD (λK hK=>?_));(first|apply cZ|apply aX|apply dz|apply aR|apply bD|apply bE|apply bO|apply fM|apply iI|apply dh|apply gU|apply gZ|apply ic|apply eY|apply iD|apply eT|apply dO|apply kN|apply gH|apply aV|apply gy|apply dM|apply ik|apply jL|apply jm|apply iG|apply iQ|apply wR|apply wQ|apply iP|apply dC|apply bQ|apply bF|apply eH|apply dH|apply fI);simp-dsimp(disch:=try exact vD) only[push_cast,simprocAttr,zx1,zx2,zx3];(repeat refine aI ?_);(first|refine hK _ _ _ ?_|refine hK _ _ ?_);exact zz.down)):p:=h ⟨k⟩
theorem oV{p q:Prop}(k:q)(h:PLift q->p:=by(intro zz;(first|refine ay rfl (λK hK=>?_)|refine au (λK hK=>?_)|refine aD (λK hK=>?_));(first|apply mV|apply kV|apply gz|apply lF|apply gB);simp-dsimp(disch:=try exact vD) only[push_cast,simprocAttr,zx1,zx2,zx3];(repeat refine aI ?_);(first|refine hK _ _ _ ?_|refine hK _ _ ?_);exact zz.down)):p:=h ⟨k⟩
theorem oW{p q:Prop}(k:q)(h:PLift q->p:=by(intro zz;(first|refine ay rfl (λK hK=>?_)|refine au (λK hK=>?_)|refine aD (λK hK=>?_));(first|apply d9|apply il);simp-dsimp(disch:=try exact vD) only[push_cast,simprocAttr,zx1,zx2,zx3];(repeat refine aI ?_);(first|refine hK _ _ _ ?_|refine hK _ _ ?_);exact zz.down)):p:=h ⟨k⟩
theorem oZ{p q:Prop}(k:q)(h:PLift q->p:=by(intro zz;(first|refine ay rfl (λK hK=>?_)|refine au (λK hK=>?_)|refine aD (λK hK=>?_));(first|apply dZ|apply jM);simp-dsimp(disch:=try exact vD) only[push_cast,simprocAttr,zx1,zx2,zx3];(repeat refine aI ?_);(first|refine hK _ _ _ ?_|refine hK _ _ ?_);exact zz.down)):p:=h ⟨k⟩
theorem eG{p q cT:Prop}(c:cT)(k:q)(h:PLift cT->PLift q->p:=by(intro cc zz;(first|refine ay rfl (λK hK=>?_)|refine au (λK hK=>?_)|refine aD (λK hK=>?_));refine ai (f:=Ip cc) [] 0 false ?_;simp-dsimp(disch:=try exact vD) only[push_cast,simprocAttr,zx1,zx2,zx3];(repeat refine aI ?_);intro G hG;refine hG _ _ ?_;clear hG G;refine⟨_,_,cc.down,?_⟩;simp-dsimp(disch:=try exact vD) only[push_cast,simprocAttr,zx1,zx2,zx3];(repeat refine aI ?_);(first|refine hK _ _ _ ?_|refine hK _ _ ?_);exact zz.down)):p:=h ⟨c⟩ ⟨k⟩
theorem zu{p q:Prop}(k:q)(h:PLift q->p:=by(intro zz;simp-dsimp(disch:=try exact vD) only[push_cast,simprocAttr,zx1,zx2,zx3];(repeat refine aI ?_);intro G hG;refine hG _ _ ?_;exact zz.down)):p:=h ⟨k⟩
theorem dn{p q:Prop}(k:q)(h:PLift q->p:=by(intro zz;(first|refine aN rfl rfl (λK1 K2 h1 h2=>?_) rfl|refine aL (λK1 K2 h1 h2=>?_)|refine bX rfl rfl (λK1 K2 h1 h2=>?_));simp-dsimp(disch:=try exact vD) only[push_cast,simprocAttr,zx1,zx2,zx3];(first|refine h1 ?_|refine h2 ?_);exact zz.down)):p:=h ⟨k⟩
theorem dw{p q r:Prop}(k1:q)(k2:r)(h:PLift q->PLift r->p:=by(intro z1 z2;(first|refine aN rfl rfl (λK1 K2 h1 h2=>?_) rfl|refine aL (λK1 K2 h1 h2=>?_)|refine bX rfl rfl (λK1 K2 h1 h2=>?_));simp-dsimp(disch:=try exact vD) only[push_cast,simprocAttr,zx1,zx2,zx3];refine⟨λhc=>?_,λhc=>?_⟩;(refine h1 ?_;revert hc;exact z1.down);(refine h2 ?_;revert hc;exact z2.down))):p:=h ⟨k1⟩ ⟨k2⟩
theorem ed{p:Prop}(h:p:=by((try simp only[List.cons_append,List.nil_append]);refine Sub.mk2 ?_;(simp-dsimp(disch:=try exact vD) only[push_cast,simprocAttr,zx1,zx2,zx3]);(repeat refine aI ?_);(first|done|(first|exact vI|fail)))):p:=h
theorem nP{p q:Prop}(k:q)(h:PLift q->p:=by(intro zz;simp-dsimp(disch:=try exact vD) only[push_cast,simprocAttr,zx1,zx2,zx3,zx4,zx5,zx6];(repeat refine aI ?_);exact zz.down)):p:=h ⟨k⟩
theorem kI{p q:Prop}(k:q)(h:PLift q->p:=by(intro zz;(first|refine ay rfl (λK hK=>?_)|refine au (λK hK=>?_)|refine aD (λK hK=>?_));(first|apply cZ|apply aX|apply dz|apply aR|apply bD|apply bE|apply bO|apply fM|apply iI|apply dh|apply gU|apply gZ|apply ic|apply eY|apply iD|apply eT|apply dO|apply kN|apply gH|apply aV|apply gy|apply dM|apply ik|apply jL|apply jm|apply iG|apply iQ|apply wR|apply wQ|apply iP|apply dC|apply bQ|apply bF|apply eH|apply dH|apply fI);simp-dsimp(disch:=try exact vD) only[push_cast,simprocAttr,zx1,zx2,zx3,zx4,zx5,zx6];(repeat refine aI ?_);(first|refine hK _ _ _ ?_|refine hK _ _ ?_);exact zz.down)):p:=h ⟨k⟩
theorem uy{p q:Prop}(k:q)(h:PLift q->p:=by(intro zz;(first|refine ay rfl (λK hK=>?_)|refine au (λK hK=>?_)|refine aD (λK hK=>?_));(first|apply mV|apply kV|apply gz|apply lF|apply gB);simp-dsimp(disch:=try exact vD) only[push_cast,simprocAttr,zx1,zx2,zx3,zx4,zx5,zx6];(repeat refine aI ?_);(first|refine hK _ _ _ ?_|refine hK _ _ ?_);exact zz.down)):p:=h ⟨k⟩
theorem uz{p q:Prop}(k:q)(h:PLift q->p:=by(intro zz;(first|refine ay rfl (λK hK=>?_)|refine au (λK hK=>?_)|refine aD (λK hK=>?_));(first|apply d9|apply il);simp-dsimp(disch:=try exact vD) only[push_cast,simprocAttr,zx1,zx2,zx3,zx4,zx5,zx6];(repeat refine aI ?_);(first|refine hK _ _ _ ?_|refine hK _ _ ?_);exact zz.down)):p:=h ⟨k⟩
theorem uA{p q:Prop}(k:q)(h:PLift q->p:=by(intro zz;(first|refine ay rfl (λK hK=>?_)|refine au (λK hK=>?_)|refine aD (λK hK=>?_));(first|apply dZ|apply jM);simp-dsimp(disch:=try exact vD) only[push_cast,simprocAttr,zx1,zx2,zx3,zx4,zx5,zx6];(repeat refine aI ?_);(first|refine hK _ _ _ ?_|refine hK _ _ ?_);exact zz.down)):p:=h ⟨k⟩
theorem o7{p q cT:Prop}(c:cT)(k:q)(h:PLift cT->PLift q->p:=by(intro cc zz;(first|refine ay rfl (λK hK=>?_)|refine au (λK hK=>?_)|refine aD (λK hK=>?_));refine ai (f:=Ip cc) [] 0 false ?_;simp-dsimp(disch:=try exact vD) only[push_cast,simprocAttr,zx1,zx2,zx3,zx4,zx5,zx6];(repeat refine aI ?_);intro G hG;refine hG _ _ ?_;clear hG G;refine⟨_,_,cc.down,?_⟩;simp-dsimp(disch:=try exact vD) only[push_cast,simprocAttr,zx1,zx2,zx3,zx4,zx5,zx6];(repeat refine aI ?_);(first|refine hK _ _ _ ?_|refine hK _ _ ?_);exact zz.down)):p:=h ⟨c⟩ ⟨k⟩
theorem vT{p q:Prop}(k:q)(h:PLift q->p:=by(intro zz;simp-dsimp(disch:=try exact vD) only[push_cast,simprocAttr,zx1,zx2,zx3,zx4,zx5,zx6];(repeat refine aI ?_);intro G hG;refine hG _ _ ?_;exact zz.down)):p:=h ⟨k⟩
theorem kJ{p q:Prop}(k:q)(h:PLift q->p:=by(intro zz;(first|refine aN rfl rfl (λK1 K2 h1 h2=>?_) rfl|refine aL (λK1 K2 h1 h2=>?_)|refine bX rfl rfl (λK1 K2 h1 h2=>?_));simp-dsimp(disch:=try exact vD) only[push_cast,simprocAttr,zx1,zx2,zx3,zx4,zx5,zx6];(first|refine h1 ?_|refine h2 ?_);exact zz.down)):p:=h ⟨k⟩
theorem kK{p q r:Prop}(k1:q)(k2:r)(h:PLift q->PLift r->p:=by(intro z1 z2;(first|refine aN rfl rfl (λK1 K2 h1 h2=>?_) rfl|refine aL (λK1 K2 h1 h2=>?_)|refine bX rfl rfl (λK1 K2 h1 h2=>?_));simp-dsimp(disch:=try exact vD) only[push_cast,simprocAttr,zx1,zx2,zx3,zx4,zx5,zx6];refine⟨λhc=>?_,λhc=>?_⟩;(refine h1 ?_;revert hc;exact z1.down);(refine h2 ?_;revert hc;exact z2.down))):p:=h ⟨k1⟩ ⟨k2⟩
theorem dK{p:Prop}(h:p:=by((try simp only[List.cons_append,List.nil_append]);refine Sub.mk2 ?_;(simp-dsimp(disch:=try exact vD) only[push_cast,simprocAttr,zx1,zx2,zx3,zx4,zx5,zx6]);(repeat refine aI ?_);(first|done|(first|exact vI|fail)))):p:=h
theorem sJ{p q:Prop}(k:q)(h:PLift q->p:=by(intro zz;simp-dsimp(disch:=try exact vD) only[push_cast,simprocAttr,zx1,zx2,zx3,zx4,zx5,zx6,zx7,zx8,zx9];(repeat refine aI ?_);exact zz.down)):p:=h ⟨k⟩
theorem mh{p q:Prop}(k:q)(h:PLift q->p:=by(intro zz;(first|refine ay rfl (λK hK=>?_)|refine au (λK hK=>?_)|refine aD (λK hK=>?_));(first|apply cZ|apply aX|apply dz|apply aR|apply bD|apply bE|apply bO|apply fM|apply iI|apply dh|apply gU|apply gZ|apply ic|apply eY|apply iD|apply eT|apply dO|apply kN|apply gH|apply aV|apply gy|apply dM|apply ik|apply jL|apply jm|apply iG|apply iQ|apply wR|apply wQ|apply iP|apply dC|apply bQ|apply bF|apply eH|apply dH|apply fI);simp-dsimp(disch:=try exact vD) only[push_cast,simprocAttr,zx1,zx2,zx3,zx4,zx5,zx6,zx7,zx8,zx9];(repeat refine aI ?_);(first|refine hK _ _ _ ?_|refine hK _ _ ?_);exact zz.down)):p:=h ⟨k⟩
theorem kg{p q:Prop}(k:q)(h:PLift q->p:=by(intro zz;(first|refine ay rfl (λK hK=>?_)|refine au (λK hK=>?_)|refine aD (λK hK=>?_));(first|apply mV|apply kV|apply gz|apply lF|apply gB);simp-dsimp(disch:=try exact vD) only[push_cast,simprocAttr,zx1,zx2,zx3,zx4,zx5,zx6,zx7,zx8,zx9];(repeat refine aI ?_);(first|refine hK _ _ _ ?_|refine hK _ _ ?_);exact zz.down)):p:=h ⟨k⟩
theorem ko{p q:Prop}(k:q)(h:PLift q->p:=by(intro zz;(first|refine ay rfl (λK hK=>?_)|refine au (λK hK=>?_)|refine aD (λK hK=>?_));(first|apply d9|apply il);simp-dsimp(disch:=try exact vD) only[push_cast,simprocAttr,zx1,zx2,zx3,zx4,zx5,zx6,zx7,zx8,zx9];(repeat refine aI ?_);(first|refine hK _ _ _ ?_|refine hK _ _ ?_);exact zz.down)):p:=h ⟨k⟩
theorem kr{p q:Prop}(k:q)(h:PLift q->p:=by(intro zz;(first|refine ay rfl (λK hK=>?_)|refine au (λK hK=>?_)|refine aD (λK hK=>?_));(first|apply dZ|apply jM);simp-dsimp(disch:=try exact vD) only[push_cast,simprocAttr,zx1,zx2,zx3,zx4,zx5,zx6,zx7,zx8,zx9];(repeat refine aI ?_);(first|refine hK _ _ _ ?_|refine hK _ _ ?_);exact zz.down)):p:=h ⟨k⟩
theorem fC{p q cT:Prop}(c:cT)(k:q)(h:PLift cT->PLift q->p:=by(intro cc zz;(first|refine ay rfl (λK hK=>?_)|refine au (λK hK=>?_)|refine aD (λK hK=>?_));refine ai (f:=Ip cc) [] 0 false ?_;simp-dsimp(disch:=try exact vD) only[push_cast,simprocAttr,zx1,zx2,zx3,zx4,zx5,zx6,zx7,zx8,zx9];(repeat refine aI ?_);intro G hG;refine hG _ _ ?_;clear hG G;refine⟨_,_,cc.down,?_⟩;simp-dsimp(disch:=try exact vD) only[push_cast,simprocAttr,zx1,zx2,zx3,zx4,zx5,zx6,zx7,zx8,zx9];(repeat refine aI ?_);(first|refine hK _ _ _ ?_|refine hK _ _ ?_);exact zz.down)):p:=h ⟨c⟩ ⟨k⟩
theorem Qw{p q:Prop}(k:q)(h:PLift q->p:=by(intro zz;simp-dsimp(disch:=try exact vD) only[push_cast,simprocAttr,zx1,zx2,zx3,zx4,zx5,zx6,zx7,zx8,zx9];(repeat refine aI ?_);intro G hG;refine hG _ _ ?_;exact zz.down)):p:=h ⟨k⟩
theorem mo{p q:Prop}(k:q)(h:PLift q->p:=by(intro zz;(first|refine aN rfl rfl (λK1 K2 h1 h2=>?_) rfl|refine aL (λK1 K2 h1 h2=>?_)|refine bX rfl rfl (λK1 K2 h1 h2=>?_));simp-dsimp(disch:=try exact vD) only[push_cast,simprocAttr,zx1,zx2,zx3,zx4,zx5,zx6,zx7,zx8,zx9];(first|refine h1 ?_|refine h2 ?_);exact zz.down)):p:=h ⟨k⟩
theorem mq{p q r:Prop}(k1:q)(k2:r)(h:PLift q->PLift r->p:=by(intro z1 z2;(first|refine aN rfl rfl (λK1 K2 h1 h2=>?_) rfl|refine aL (λK1 K2 h1 h2=>?_)|refine bX rfl rfl (λK1 K2 h1 h2=>?_));simp-dsimp(disch:=try exact vD) only[push_cast,simprocAttr,zx1,zx2,zx3,zx4,zx5,zx6,zx7,zx8,zx9];refine⟨λhc=>?_,λhc=>?_⟩;(refine h1 ?_;revert hc;exact z1.down);(refine h2 ?_;revert hc;exact z2.down))):p:=h ⟨k1⟩ ⟨k2⟩
theorem aO{p:Prop}(h:p:=by((try simp only[List.cons_append,List.nil_append]);refine Sub.mk2 ?_;(simp-dsimp(disch:=try exact vD) only[push_cast,simprocAttr,zx1,zx2,zx3,zx4,zx5,zx6,zx7,zx8,zx9]);(repeat refine aI ?_);(first|done|(first|exact vI|fail)))):p:=h
theorem o5{p q:Prop}(k:q)(h:PLift q->p:=by(intro zz;simp-dsimp(disch:=try exact vD) only[push_cast,simprocAttr,zx1,zx2,zx3,zx4,zx5,zx6,zx7,zx8,zx9,zx10,zx11,zx12];(repeat refine aI ?_);exact zz.down)):p:=h ⟨k⟩
theorem nQ{p q:Prop}(k:q)(h:PLift q->p:=by(intro zz;(first|refine ay rfl (λK hK=>?_)|refine au (λK hK=>?_)|refine aD (λK hK=>?_));(first|apply cZ|apply aX|apply dz|apply aR|apply bD|apply bE|apply bO|apply fM|apply iI|apply dh|apply gU|apply gZ|apply ic|apply eY|apply iD|apply eT|apply dO|apply kN|apply gH|apply aV|apply gy|apply dM|apply ik|apply jL|apply jm|apply iG|apply iQ|apply wR|apply wQ|apply iP|apply dC|apply bQ|apply bF|apply eH|apply dH|apply fI);simp-dsimp(disch:=try exact vD) only[push_cast,simprocAttr,zx1,zx2,zx3,zx4,zx5,zx6,zx7,zx8,zx9,zx10,zx11,zx12];(repeat refine aI ?_);(first|refine hK _ _ _ ?_|refine hK _ _ ?_);exact zz.down)):p:=h ⟨k⟩
theorem sK{p q:Prop}(k:q)(h:PLift q->p:=by(intro zz;(first|refine ay rfl (λK hK=>?_)|refine au (λK hK=>?_)|refine aD (λK hK=>?_));(first|apply mV|apply kV|apply gz|apply lF|apply gB);simp-dsimp(disch:=try exact vD) only[push_cast,simprocAttr,zx1,zx2,zx3,zx4,zx5,zx6,zx7,zx8,zx9,zx10,zx11,zx12];(repeat refine aI ?_);(first|refine hK _ _ _ ?_|refine hK _ _ ?_);exact zz.down)):p:=h ⟨k⟩
theorem sM{p q:Prop}(k:q)(h:PLift q->p:=by(intro zz;(first|refine ay rfl (λK hK=>?_)|refine au (λK hK=>?_)|refine aD (λK hK=>?_));(first|apply d9|apply il);simp-dsimp(disch:=try exact vD) only[push_cast,simprocAttr,zx1,zx2,zx3,zx4,zx5,zx6,zx7,zx8,zx9,zx10,zx11,zx12];(repeat refine aI ?_);(first|refine hK _ _ _ ?_|refine hK _ _ ?_);exact zz.down)):p:=h ⟨k⟩
theorem sO{p q:Prop}(k:q)(h:PLift q->p:=by(intro zz;(first|refine ay rfl (λK hK=>?_)|refine au (λK hK=>?_)|refine aD (λK hK=>?_));(first|apply dZ|apply jM);simp-dsimp(disch:=try exact vD) only[push_cast,simprocAttr,zx1,zx2,zx3,zx4,zx5,zx6,zx7,zx8,zx9,zx10,zx11,zx12];(repeat refine aI ?_);(first|refine hK _ _ _ ?_|refine hK _ _ ?_);exact zz.down)):p:=h ⟨k⟩
theorem jq{p q cT:Prop}(c:cT)(k:q)(h:PLift cT->PLift q->p:=by(intro cc zz;(first|refine ay rfl (λK hK=>?_)|refine au (λK hK=>?_)|refine aD (λK hK=>?_));refine ai (f:=Ip cc) [] 0 false ?_;simp-dsimp(disch:=try exact vD) only[push_cast,simprocAttr,zx1,zx2,zx3,zx4,zx5,zx6,zx7,zx8,zx9,zx10,zx11,zx12];(repeat refine aI ?_);intro G hG;refine hG _ _ ?_;clear hG G;refine⟨_,_,cc.down,?_⟩;simp-dsimp(disch:=try exact vD) only[push_cast,simprocAttr,zx1,zx2,zx3,zx4,zx5,zx6,zx7,zx8,zx9,zx10,zx11,zx12];(repeat refine aI ?_);(first|refine hK _ _ _ ?_|refine hK _ _ ?_);exact zz.down)):p:=h ⟨c⟩ ⟨k⟩
theorem Fe{p q:Prop}(k:q)(h:PLift q->p:=by(intro zz;simp-dsimp(disch:=try exact vD) only[push_cast,simprocAttr,zx1,zx2,zx3,zx4,zx5,zx6,zx7,zx8,zx9,zx10,zx11,zx12];(repeat refine aI ?_);intro G hG;refine hG _ _ ?_;exact zz.down)):p:=h ⟨k⟩
theorem nR{p q:Prop}(k:q)(h:PLift q->p:=by(intro zz;(first|refine aN rfl rfl (λK1 K2 h1 h2=>?_) rfl|refine aL (λK1 K2 h1 h2=>?_)|refine bX rfl rfl (λK1 K2 h1 h2=>?_));simp-dsimp(disch:=try exact vD) only[push_cast,simprocAttr,zx1,zx2,zx3,zx4,zx5,zx6,zx7,zx8,zx9,zx10,zx11,zx12];(first|refine h1 ?_|refine h2 ?_);exact zz.down)):p:=h ⟨k⟩
theorem nS{p q r:Prop}(k1:q)(k2:r)(h:PLift q->PLift r->p:=by(intro z1 z2;(first|refine aN rfl rfl (λK1 K2 h1 h2=>?_) rfl|refine aL (λK1 K2 h1 h2=>?_)|refine bX rfl rfl (λK1 K2 h1 h2=>?_));simp-dsimp(disch:=try exact vD) only[push_cast,simprocAttr,zx1,zx2,zx3,zx4,zx5,zx6,zx7,zx8,zx9,zx10,zx11,zx12];refine⟨λhc=>?_,λhc=>?_⟩;(refine h1 ?_;revert hc;exact z1.down);(refine h2 ?_;revert hc;exact z2.down))):p:=h ⟨k1⟩ ⟨k2⟩
theorem cO{p:Prop}(h:p:=by((try simp only[List.cons_append,List.nil_append]);refine Sub.mk2 ?_;(simp-dsimp(disch:=try exact vD) only[push_cast,simprocAttr,zx1,zx2,zx3,zx4,zx5,zx6,zx7,zx8,zx9,zx10,zx11,zx12]);(repeat refine aI ?_);(first|done|(first|exact vI|fail)))):p:=h
theorem ab5{p q:Prop}(k:q)(h:PLift q->p:=by(intro zz;simp-dsimp(disch:=try exact vD) only[push_cast,simprocAttr,zx1,zx2,zx3,zx4,zx5,zx6,zx7,zx8,zx9,zx10,zx11,zx12,zx13,zx14,zx15,zx16];(repeat refine aI ?_);exact zz.down)):p:=h ⟨k⟩
theorem Qx{p q:Prop}(k:q)(h:PLift q->p:=by(intro zz;(first|refine ay rfl (λK hK=>?_)|refine au (λK hK=>?_)|refine aD (λK hK=>?_));(first|apply cZ|apply aX|apply dz|apply aR|apply bD|apply bE|apply bO|apply fM|apply iI|apply dh|apply gU|apply gZ|apply ic|apply eY|apply iD|apply eT|apply dO|apply kN|apply gH|apply aV|apply gy|apply dM|apply ik|apply jL|apply jm|apply iG|apply iQ|apply wR|apply wQ|apply iP|apply dC|apply bQ|apply bF|apply eH|apply dH|apply fI);simp-dsimp(disch:=try exact vD) only[push_cast,simprocAttr,zx1,zx2,zx3,zx4,zx5,zx6,zx7,zx8,zx9,zx10,zx11,zx12,zx13,zx14,zx15,zx16];(repeat refine aI ?_);(first|refine hK _ _ _ ?_|refine hK _ _ ?_);exact zz.down)):p:=h ⟨k⟩
theorem afg{p q:Prop}(k:q)(h:PLift q->p:=by(intro zz;(first|refine ay rfl (λK hK=>?_)|refine au (λK hK=>?_)|refine aD (λK hK=>?_));(first|apply mV|apply kV|apply gz|apply lF|apply gB);simp-dsimp(disch:=try exact vD) only[push_cast,simprocAttr,zx1,zx2,zx3,zx4,zx5,zx6,zx7,zx8,zx9,zx10,zx11,zx12,zx13,zx14,zx15,zx16];(repeat refine aI ?_);(first|refine hK _ _ _ ?_|refine hK _ _ ?_);exact zz.down)):p:=h ⟨k⟩
theorem afh{p q:Prop}(k:q)(h:PLift q->p:=by(intro zz;(first|refine ay rfl (λK hK=>?_)|refine au (λK hK=>?_)|refine aD (λK hK=>?_));(first|apply d9|apply il);simp-dsimp(disch:=try exact vD) only[push_cast,simprocAttr,zx1,zx2,zx3,zx4,zx5,zx6,zx7,zx8,zx9,zx10,zx11,zx12,zx13,zx14,zx15,zx16];(repeat refine aI ?_);(first|refine hK _ _ _ ?_|refine hK _ _ ?_);exact zz.down)):p:=h ⟨k⟩
theorem afi{p q:Prop}(k:q)(h:PLift q->p:=by(intro zz;(first|refine ay rfl (λK hK=>?_)|refine au (λK hK=>?_)|refine aD (λK hK=>?_));(first|apply dZ|apply jM);simp-dsimp(disch:=try exact vD) only[push_cast,simprocAttr,zx1,zx2,zx3,zx4,zx5,zx6,zx7,zx8,zx9,zx10,zx11,zx12,zx13,zx14,zx15,zx16];(repeat refine aI ?_);(first|refine hK _ _ _ ?_|refine hK _ _ ?_);exact zz.down)):p:=h ⟨k⟩
theorem Qy{p q cT:Prop}(c:cT)(k:q)(h:PLift cT->PLift q->p:=by(intro cc zz;(first|refine ay rfl (λK hK=>?_)|refine au (λK hK=>?_)|refine aD (λK hK=>?_));refine ai (f:=Ip cc) [] 0 false ?_;simp-dsimp(disch:=try exact vD) only[push_cast,simprocAttr,zx1,zx2,zx3,zx4,zx5,zx6,zx7,zx8,zx9,zx10,zx11,zx12,zx13,zx14,zx15,zx16];(repeat refine aI ?_);intro G hG;refine hG _ _ ?_;clear hG G;refine⟨_,_,cc.down,?_⟩;simp-dsimp(disch:=try exact vD) only[push_cast,simprocAttr,zx1,zx2,zx3,zx4,zx5,zx6,zx7,zx8,zx9,zx10,zx11,zx12,zx13,zx14,zx15,zx16];(repeat refine aI ?_);(first|refine hK _ _ _ ?_|refine hK _ _ ?_);exact zz.down)):p:=h ⟨c⟩ ⟨k⟩
theorem Qz{p q:Prop}(k:q)(h:PLift q->p:=by(intro zz;(first|refine aN rfl rfl (λK1 K2 h1 h2=>?_) rfl|refine aL (λK1 K2 h1 h2=>?_)|refine bX rfl rfl (λK1 K2 h1 h2=>?_));simp-dsimp(disch:=try exact vD) only[push_cast,simprocAttr,zx1,zx2,zx3,zx4,zx5,zx6,zx7,zx8,zx9,zx10,zx11,zx12,zx13,zx14,zx15,zx16];(first|refine h1 ?_|refine h2 ?_);exact zz.down)):p:=h ⟨k⟩
theorem QA{p q r:Prop}(k1:q)(k2:r)(h:PLift q->PLift r->p:=by(intro z1 z2;(first|refine aN rfl rfl (λK1 K2 h1 h2=>?_) rfl|refine aL (λK1 K2 h1 h2=>?_)|refine bX rfl rfl (λK1 K2 h1 h2=>?_));simp-dsimp(disch:=try exact vD) only[push_cast,simprocAttr,zx1,zx2,zx3,zx4,zx5,zx6,zx7,zx8,zx9,zx10,zx11,zx12,zx13,zx14,zx15,zx16];refine⟨λhc=>?_,λhc=>?_⟩;(refine h1 ?_;revert hc;exact z1.down);(refine h2 ?_;revert hc;exact z2.down))):p:=h ⟨k1⟩ ⟨k2⟩
theorem wS{p:Prop}(h:p:=by((try simp only[List.cons_append,List.nil_append]);refine Sub.mk2 ?_;(simp-dsimp(disch:=try exact vD) only[push_cast,simprocAttr,zx1,zx2,zx3,zx4,zx5,zx6,zx7,zx8,zx9,zx10,zx11,zx12,zx13,zx14,zx15,zx16]);(repeat refine aI ?_);(first|done|(first|exact vI|fail)))):p:=h
theorem Kj{p q:Prop}(k:q)(h:PLift q->p:=by(intro zz;simp-dsimp(disch:=try exact vD) only[push_cast,simprocAttr,zx1,zx2,zx3,zx4,zx5,zx6,zx7,zx8,zx9,zx10,zx11,zx12,zx13,zx14,zx15,zx16,zx17,zx18,zx19,zx20];(repeat refine aI ?_);exact zz.down)):p:=h ⟨k⟩
theorem QB{p q:Prop}(k:q)(h:PLift q->p:=by(intro zz;(first|refine ay rfl (λK hK=>?_)|refine au (λK hK=>?_)|refine aD (λK hK=>?_));(first|apply cZ|apply aX|apply dz|apply aR|apply bD|apply bE|apply bO|apply fM|apply iI|apply dh|apply gU|apply gZ|apply ic|apply eY|apply iD|apply eT|apply dO|apply kN|apply gH|apply aV|apply gy|apply dM|apply ik|apply jL|apply jm|apply iG|apply iQ|apply wR|apply wQ|apply iP|apply dC|apply bQ|apply bF|apply eH|apply dH|apply fI);simp-dsimp(disch:=try exact vD) only[push_cast,simprocAttr,zx1,zx2,zx3,zx4,zx5,zx6,zx7,zx8,zx9,zx10,zx11,zx12,zx13,zx14,zx15,zx16,zx17,zx18,zx19,zx20];(repeat refine aI ?_);(first|refine hK _ _ _ ?_|refine hK _ _ ?_);exact zz.down)):p:=h ⟨k⟩
theorem QC{p q:Prop}(k:q)(h:PLift q->p:=by(intro zz;(first|refine ay rfl (λK hK=>?_)|refine au (λK hK=>?_)|refine aD (λK hK=>?_));(first|apply mV|apply kV|apply gz|apply lF|apply gB);simp-dsimp(disch:=try exact vD) only[push_cast,simprocAttr,zx1,zx2,zx3,zx4,zx5,zx6,zx7,zx8,zx9,zx10,zx11,zx12,zx13,zx14,zx15,zx16,zx17,zx18,zx19,zx20];(repeat refine aI ?_);(first|refine hK _ _ _ ?_|refine hK _ _ ?_);exact zz.down)):p:=h ⟨k⟩
theorem QD{p q:Prop}(k:q)(h:PLift q->p:=by(intro zz;(first|refine ay rfl (λK hK=>?_)|refine au (λK hK=>?_)|refine aD (λK hK=>?_));(first|apply d9|apply il);simp-dsimp(disch:=try exact vD) only[push_cast,simprocAttr,zx1,zx2,zx3,zx4,zx5,zx6,zx7,zx8,zx9,zx10,zx11,zx12,zx13,zx14,zx15,zx16,zx17,zx18,zx19,zx20];(repeat refine aI ?_);(first|refine hK _ _ _ ?_|refine hK _ _ ?_);exact zz.down)):p:=h ⟨k⟩
theorem QE{p q:Prop}(k:q)(h:PLift q->p:=by(intro zz;(first|refine ay rfl (λK hK=>?_)|refine au (λK hK=>?_)|refine aD (λK hK=>?_));(first|apply dZ|apply jM);simp-dsimp(disch:=try exact vD) only[push_cast,simprocAttr,zx1,zx2,zx3,zx4,zx5,zx6,zx7,zx8,zx9,zx10,zx11,zx12,zx13,zx14,zx15,zx16,zx17,zx18,zx19,zx20];(repeat refine aI ?_);(first|refine hK _ _ _ ?_|refine hK _ _ ?_);exact zz.down)):p:=h ⟨k⟩
theorem aiR{p q cT:Prop}(c:cT)(k:q)(h:PLift cT->PLift q->p:=by(intro cc zz;(first|refine ay rfl (λK hK=>?_)|refine au (λK hK=>?_)|refine aD (λK hK=>?_));refine ai (f:=Ip cc) [] 0 false ?_;simp-dsimp(disch:=try exact vD) only[push_cast,simprocAttr,zx1,zx2,zx3,zx4,zx5,zx6,zx7,zx8,zx9,zx10,zx11,zx12,zx13,zx14,zx15,zx16,zx17,zx18,zx19,zx20];(repeat refine aI ?_);intro G hG;refine hG _ _ ?_;clear hG G;refine⟨_,_,cc.down,?_⟩;simp-dsimp(disch:=try exact vD) only[push_cast,simprocAttr,zx1,zx2,zx3,zx4,zx5,zx6,zx7,zx8,zx9,zx10,zx11,zx12,zx13,zx14,zx15,zx16,zx17,zx18,zx19,zx20];(repeat refine aI ?_);(first|refine hK _ _ _ ?_|refine hK _ _ ?_);exact zz.down)):p:=h ⟨c⟩ ⟨k⟩
theorem QF{p q:Prop}(k:q)(h:PLift q->p:=by(intro zz;simp-dsimp(disch:=try exact vD) only[push_cast,simprocAttr,zx1,zx2,zx3,zx4,zx5,zx6,zx7,zx8,zx9,zx10,zx11,zx12,zx13,zx14,zx15,zx16,zx17,zx18,zx19,zx20];(repeat refine aI ?_);intro G hG;refine hG _ _ ?_;exact zz.down)):p:=h ⟨k⟩
theorem QG{p q:Prop}(k:q)(h:PLift q->p:=by(intro zz;(first|refine aN rfl rfl (λK1 K2 h1 h2=>?_) rfl|refine aL (λK1 K2 h1 h2=>?_)|refine bX rfl rfl (λK1 K2 h1 h2=>?_));simp-dsimp(disch:=try exact vD) only[push_cast,simprocAttr,zx1,zx2,zx3,zx4,zx5,zx6,zx7,zx8,zx9,zx10,zx11,zx12,zx13,zx14,zx15,zx16,zx17,zx18,zx19,zx20];(first|refine h1 ?_|refine h2 ?_);exact zz.down)):p:=h ⟨k⟩
theorem QH{p q r:Prop}(k1:q)(k2:r)(h:PLift q->PLift r->p:=by(intro z1 z2;(first|refine aN rfl rfl (λK1 K2 h1 h2=>?_) rfl|refine aL (λK1 K2 h1 h2=>?_)|refine bX rfl rfl (λK1 K2 h1 h2=>?_));simp-dsimp(disch:=try exact vD) only[push_cast,simprocAttr,zx1,zx2,zx3,zx4,zx5,zx6,zx7,zx8,zx9,zx10,zx11,zx12,zx13,zx14,zx15,zx16,zx17,zx18,zx19,zx20];refine⟨λhc=>?_,λhc=>?_⟩;(refine h1 ?_;revert hc;exact z1.down);(refine h2 ?_;revert hc;exact z2.down))):p:=h ⟨k1⟩ ⟨k2⟩
theorem mr{p:Prop}(h:p:=by((try simp only[List.cons_append,List.nil_append]);refine Sub.mk2 ?_;(simp-dsimp(disch:=try exact vD) only[push_cast,simprocAttr,zx1,zx2,zx3,zx4,zx5,zx6,zx7,zx8,zx9,zx10,zx11,zx12,zx13,zx14,zx15,zx16,zx17,zx18,zx19,zx20]);(repeat refine aI ?_);(first|done|(first|exact vI|fail)))):p:=h
theorem zw{p q:Prop}(k:q)(h:PLift q->p:=by(intro zz;simp-dsimp(disch:=try exact vD) only[push_cast,simprocAttr,zx1,zx2,zx3,zx4,zx5,zx6,zx7,zx8,zx9,zx10,zx11,zx12,zx13,zx14,zx15,zx16,zx17,zx18,zx19,zx20,zx21,zx22,zx23,zx24];(repeat refine aI ?_);exact zz.down)):p:=h ⟨k⟩
theorem ab6{p q:Prop}(k:q)(h:PLift q->p:=by(intro zz;(first|refine ay rfl (λK hK=>?_)|refine au (λK hK=>?_)|refine aD (λK hK=>?_));(first|apply cZ|apply aX|apply dz|apply aR|apply bD|apply bE|apply bO|apply fM|apply iI|apply dh|apply gU|apply gZ|apply ic|apply eY|apply iD|apply eT|apply dO|apply kN|apply gH|apply aV|apply gy|apply dM|apply ik|apply jL|apply jm|apply iG|apply iQ|apply wR|apply wQ|apply iP|apply dC|apply bQ|apply bF|apply eH|apply dH|apply fI);simp-dsimp(disch:=try exact vD) only[push_cast,simprocAttr,zx1,zx2,zx3,zx4,zx5,zx6,zx7,zx8,zx9,zx10,zx11,zx12,zx13,zx14,zx15,zx16,zx17,zx18,zx19,zx20,zx21,zx22,zx23,zx24];(repeat refine aI ?_);(first|refine hK _ _ _ ?_|refine hK _ _ ?_);exact zz.down)):p:=h ⟨k⟩
theorem afj{p q:Prop}(k:q)(h:PLift q->p:=by(intro zz;(first|refine ay rfl (λK hK=>?_)|refine au (λK hK=>?_)|refine aD (λK hK=>?_));(first|apply mV|apply kV|apply gz|apply lF|apply gB);simp-dsimp(disch:=try exact vD) only[push_cast,simprocAttr,zx1,zx2,zx3,zx4,zx5,zx6,zx7,zx8,zx9,zx10,zx11,zx12,zx13,zx14,zx15,zx16,zx17,zx18,zx19,zx20,zx21,zx22,zx23,zx24];(repeat refine aI ?_);(first|refine hK _ _ _ ?_|refine hK _ _ ?_);exact zz.down)):p:=h ⟨k⟩
theorem afk{p q:Prop}(k:q)(h:PLift q->p:=by(intro zz;(first|refine ay rfl (λK hK=>?_)|refine au (λK hK=>?_)|refine aD (λK hK=>?_));(first|apply d9|apply il);simp-dsimp(disch:=try exact vD) only[push_cast,simprocAttr,zx1,zx2,zx3,zx4,zx5,zx6,zx7,zx8,zx9,zx10,zx11,zx12,zx13,zx14,zx15,zx16,zx17,zx18,zx19,zx20,zx21,zx22,zx23,zx24];(repeat refine aI ?_);(first|refine hK _ _ _ ?_|refine hK _ _ ?_);exact zz.down)):p:=h ⟨k⟩
theorem afl{p q:Prop}(k:q)(h:PLift q->p:=by(intro zz;(first|refine ay rfl (λK hK=>?_)|refine au (λK hK=>?_)|refine aD (λK hK=>?_));(first|apply dZ|apply jM);simp-dsimp(disch:=try exact vD) only[push_cast,simprocAttr,zx1,zx2,zx3,zx4,zx5,zx6,zx7,zx8,zx9,zx10,zx11,zx12,zx13,zx14,zx15,zx16,zx17,zx18,zx19,zx20,zx21,zx22,zx23,zx24];(repeat refine aI ?_);(first|refine hK _ _ _ ?_|refine hK _ _ ?_);exact zz.down)):p:=h ⟨k⟩
theorem Kk{p q:Prop}(k:q)(h:PLift q->p:=by(intro zz;simp-dsimp(disch:=try exact vD) only[push_cast,simprocAttr,zx1,zx2,zx3,zx4,zx5,zx6,zx7,zx8,zx9,zx10,zx11,zx12,zx13,zx14,zx15,zx16,zx17,zx18,zx19,zx20,zx21,zx22,zx23,zx24];(repeat refine aI ?_);intro G hG;refine hG _ _ ?_;exact zz.down)):p:=h ⟨k⟩
theorem ab7{p q:Prop}(k:q)(h:PLift q->p:=by(intro zz;(first|refine aN rfl rfl (λK1 K2 h1 h2=>?_) rfl|refine aL (λK1 K2 h1 h2=>?_)|refine bX rfl rfl (λK1 K2 h1 h2=>?_));simp-dsimp(disch:=try exact vD) only[push_cast,simprocAttr,zx1,zx2,zx3,zx4,zx5,zx6,zx7,zx8,zx9,zx10,zx11,zx12,zx13,zx14,zx15,zx16,zx17,zx18,zx19,zx20,zx21,zx22,zx23,zx24];(first|refine h1 ?_|refine h2 ?_);exact zz.down)):p:=h ⟨k⟩
theorem ab8{p q r:Prop}(k1:q)(k2:r)(h:PLift q->PLift r->p:=by(intro z1 z2;(first|refine aN rfl rfl (λK1 K2 h1 h2=>?_) rfl|refine aL (λK1 K2 h1 h2=>?_)|refine bX rfl rfl (λK1 K2 h1 h2=>?_));simp-dsimp(disch:=try exact vD) only[push_cast,simprocAttr,zx1,zx2,zx3,zx4,zx5,zx6,zx7,zx8,zx9,zx10,zx11,zx12,zx13,zx14,zx15,zx16,zx17,zx18,zx19,zx20,zx21,zx22,zx23,zx24];refine⟨λhc=>?_,λhc=>?_⟩;(refine h1 ?_;revert hc;exact z1.down);(refine h2 ?_;revert hc;exact z2.down))):p:=h ⟨k1⟩ ⟨k2⟩
theorem rT{p:Prop}(h:p:=by((try simp only[List.cons_append,List.nil_append]);refine Sub.mk2 ?_;(simp-dsimp(disch:=try exact vD) only[push_cast,simprocAttr,zx1,zx2,zx3,zx4,zx5,zx6,zx7,zx8,zx9,zx10,zx11,zx12,zx13,zx14,zx15,zx16,zx17,zx18,zx19,zx20,zx21,zx22,zx23,zx24]);(repeat refine aI ?_);(first|done|(first|exact vI|fail)))):p:=h
theorem zqO{p:Prop}(h:p:=by(first|omega|(dsimp only;omega)|(simp;done)|(simp;omega))):p:=h
theorem zqN{p q:Prop}(k:q)(h:PLift q->p:=by(intro zz;(first|refine dU ?_|refine aJ ?_|refine dV ?_|refine aT ?_|refine cu ?_|refine bG ?_|refine aU ?_|refine cK ?_|refine bH ?_|refine bu rfl ?_|refine bI ?_|refine bZ ?_|refine bY ?_|refine dS ?_);exact zz.down)):p:=h ⟨k⟩
theorem zqD{p q:Prop}(k:q)(h:PLift q->p:=by(intro zz;(first|apply rP|((first|refine jl (by kernel_rfl) (λK hK=>?_)|refine l8 (by kernel_rfl) (λK hK=>?_));simp only[↓Go.Sy.gL,↓Go.Sy.gM,↓Go.Sy.iN,↓Go.Sy.gN,↓Go.Sy.iO,↓Go.Sy.fO,↓Go.Sy.gQ,push_cast,Nat.reduceLeDiff,Nat.reduceSub,Nat.reduceBEq,Nat.reduceEqDiff,Nat.reduceAdd,Nat.reduceLT,↓reduceIte,reduceCtorEq];refine hK _ _ _ ?_));exact zz.down)):p:=h ⟨k⟩
theorem zqS{p q:Prop}(k:q)(h:PLift q->p:=by(intro zz;simp-dsimp(disch:=try exact vD) only[push_cast,simprocAttr];exact zz.down)):p:=h ⟨k⟩
theorem zqI{p:Prop}(h:p:=by(first|exact .inr rfl|exact .inl rfl)):p:=h
def zqdm:Nat:=0
theorem aA:zqdm=0:=rfl
theorem zqM{p:Prop}(h:p:=by(exfalso;first|omega|contradiction)):p:=h
theorem zqF{p:Prop}(h:p:=by((repeat refine aI ?_);first|done|exact vI)):p:=h
def zqfc{α:Type}(n:Nat)(k:Nat->α):α:=match n with
 |0=>k 0
 |m+1=>k (m+1)
def QI(m j:Nat):Bool:=Nat.beq (Nat.land (Nat.shiftRight m j) 1) 1
def zqam(acc:List Nat)(n:Nat):List Edge->Nat->Nat
 |[],m=>m
 |e::t,m=>zqam acc n t (bif Region.binds .any e then Nat.lor (Nat.lor m (Nat.shiftLeft 1 e.on)) (acc.getD (n-1-e.on) 0) else m)
def afm:List Oper->Nat->List Nat->List Nat
 |[],_,acc=>acc.reverse
 |o::t,n,acc=>zqfc (zqam acc n o.after.toList 0) λm=>afm t (n+1) (m::acc)
def XA(id i:Nat):List (Nat×Nat×List Nat×Nat)->List Nat×Nat
 |[]=>([],0)
 |(r,j,m,k)::t=>bif Nat.beq r id&&Nat.beq j i then(m,k) else XA id i t
def afn(m:Nat):Nat->Nat->List Nat
 |0,_=>[]
 |k+1,j=>bif QI m j then j::afn m k (j+1) else afn m k (j+1)
def afo(c:Nat):List Nat->List Nat
 |[]=>[c]
 |d::l=>bif Nat.ble d c then(bif Nat.beq c d then d::l else d::afo c l) else c::d::l
def XB(i mi:Nat):List Oper->List Nat->Nat->List Nat
 |o::l,mj::ms,j=>bif Nat.beq i j||QI mi j||QI mj i then XB i mi l ms (j+1) else(match o.dst with|some d=>afo d (XB i mi l ms (j+1))|none=>XB i mi l ms (j+1))
 |_,_,_=>[]
def afp(id i mi:Nat)(sp:List (Nat×Nat×List Nat×Nat)):List Nat->Nat->List Nat
 |mj::ms,j=>bif Nat.beq i j||QI mi j||QI mj i then afp id i mi sp ms (j+1) else(XA id j sp).1.foldr afo (afp id i mi sp ms (j+1))
 |_,_=>[]
def zqrr(id:Nat)(sp:List (Nat×Nat×List Nat×Nat))(l:List Oper)(ms:List Nat):List Nat->Nat->List Sd
 |[],_=>[]
 |m::t,i=>⟨i,afn m i 0,XB i m l ms 0,(match afp id i m sp ms 0 with|f=>bif f.contains 2 then [2] else f),(XA id i sp).1,(XA id i sp).2⟩::zqrr id sp l ms t (i+1)
def zqss(id:Nat)(sp:List (Nat×Nat×List Nat×Nat))(l:List Oper):List Sd:=zqrr id sp l (afm l 0 []) (afm l 0 []) 0
theorem zqR{P:Program} {Q:Exit->Nat->St->Prop} {nid n m:Nat} {env:List (Nat×AV)} {objs:List (Nat×Option aC)} {l:List Oper} {id:Nat} {sds:List Sd}(sp:List (Nat×Nat×List Nat×Nat))(h:DGo P l.toArray nid ⟨n,m,env,objs⟩ (λits=>Q .normal (dL nid its) (bi (λ_=>true) 0 its ⟨n,m,env,objs⟩)) [] (l.zip sds))(he:zqss id sp l=sds:=by((conv=>lhs;reduce);first|done|exact rfl))(hm:P.follows .mixedOrders=true:=by kernel_rfl)(hl:sds.length=l.length:=by kernel_rfl)(hB:yV (l.zip sds) n=true:=by kernel_rfl)(hlt:ui nid objs=true:=by kernel_rfl):AC P (.region id l.toArray true) Q nid ⟨n,m,env,objs⟩:=VP hm sds hl hB hlt h
theorem aB{P:Program} {fn:Func} {objs0:List aC} {m:Nat} {r:AV} {objs':List aC} {e:Exit} {n:Nat} {env:List (Nat×AV)} {objs:List (Nat×Option aC)} {rs:List ResultVar}(σ:List Nat)(hr:fn.results.toList=rs:=by((conv=>lhs;whnf);first|done|exact rfl))(he:e= .normal\/e= .ret:=by(first|exact .inr rfl|exact .inl rfl))(h:σ.length=objs'.length/\σ.Nodup/\σ.take m=List.range m/\bnd σ.length r/\kE σ ⟨n,m,env,objs⟩ ((idx 0 objs').map λp=>(p.1,some p.2))/\dY P ⟨n,m,env,objs⟩ rs=some (ren (σ.getD · 0) r):=by(simp-dsimp(disch:=try exact vD) only[push_cast,simprocAttr];first|done|exact zqF)):Ends P fn objs0 m r objs' e ⟨n,m,env,objs⟩:=Ends.mk2 he σ (by rw[hr];exact h)
theorem fu{P:Program} {fn:Func} {objs0:List aC} {m:Nat} {r:AV} {objs':List aC} {e:Exit} {n:Nat} {env:List (Nat×AV)} {objs:List (Nat×Option aC)} {rs:List ResultVar} {F0:Prop}(σ:List Nat)(f0:F0)(hr:fn.results.toList=rs:=by((conv=>lhs;whnf);first|done|exact rfl))(he:e= .normal\/e= .ret:=by(first|exact .inr rfl|exact .inl rfl))(h:PLift F0->(σ.length=objs'.length/\σ.Nodup/\σ.take m=List.range m/\bnd σ.length r/\kE σ ⟨n,m,env,objs⟩ ((idx 0 objs').map λp=>(p.1,some p.2))/\dY P ⟨n,m,env,objs⟩ rs=some (ren (σ.getD · 0) r)):=by(intro z0;simp-dsimp(disch:=try exact vD) only[push_cast,simprocAttr,z0.down];first|done|exact zqF)):Ends P fn objs0 m r objs' e ⟨n,m,env,objs⟩:=Ends.mk2 he σ (by rw[hr];exact h ⟨f0⟩)
theorem CR{P:Program} {fn:Func} {objs0:List aC} {m:Nat} {r:AV} {objs':List aC} {e:Exit} {n:Nat} {env:List (Nat×AV)} {objs:List (Nat×Option aC)} {rs:List ResultVar} {F0 F1:Prop}(σ:List Nat)(f0:F0)(f1:F1)(hr:fn.results.toList=rs:=by((conv=>lhs;whnf);first|done|exact rfl))(he:e= .normal\/e= .ret:=by(first|exact .inr rfl|exact .inl rfl))(h:PLift F0->PLift F1->(σ.length=objs'.length/\σ.Nodup/\σ.take m=List.range m/\bnd σ.length r/\kE σ ⟨n,m,env,objs⟩ ((idx 0 objs').map λp=>(p.1,some p.2))/\dY P ⟨n,m,env,objs⟩ rs=some (ren (σ.getD · 0) r)):=by(intro z0 z1;simp-dsimp(disch:=try exact vD) only[push_cast,simprocAttr,z0.down,z1.down];first|done|exact zqF)):Ends P fn objs0 m r objs' e ⟨n,m,env,objs⟩:=Ends.mk2 he σ (by rw[hr];exact h ⟨f0⟩ ⟨f1⟩)
theorem zqX3{P:Program} {fn:Func} {objs0:List aC} {m:Nat} {r:AV} {objs':List aC} {e:Exit} {n:Nat} {env:List (Nat×AV)} {objs:List (Nat×Option aC)} {rs:List ResultVar} {F0 F1 F2:Prop}(σ:List Nat)(f0:F0)(f1:F1)(f2:F2)(hr:fn.results.toList=rs:=by((conv=>lhs;whnf);first|done|exact rfl))(he:e= .normal\/e= .ret:=by(first|exact .inr rfl|exact .inl rfl))(h:PLift F0->PLift F1->PLift F2->(σ.length=objs'.length/\σ.Nodup/\σ.take m=List.range m/\bnd σ.length r/\kE σ ⟨n,m,env,objs⟩ ((idx 0 objs').map λp=>(p.1,some p.2))/\dY P ⟨n,m,env,objs⟩ rs=some (ren (σ.getD · 0) r)):=by(intro z0 z1 z2;simp-dsimp(disch:=try exact vD) only[push_cast,simprocAttr,z0.down,z1.down,z2.down];first|done|exact zqF)):Ends P fn objs0 m r objs' e ⟨n,m,env,objs⟩:=Ends.mk2 he σ (by rw[hr];exact h ⟨f0⟩ ⟨f1⟩ ⟨f2⟩)
theorem afq{P:Program} {fn:Func} {objs0:List aC} {m:Nat} {r:AV} {objs':List aC} {e:Exit} {n:Nat} {env:List (Nat×AV)} {objs:List (Nat×Option aC)} {rs:List ResultVar} {F0 F1 F2 F3:Prop}(σ:List Nat)(f0:F0)(f1:F1)(f2:F2)(f3:F3)(hr:fn.results.toList=rs:=by((conv=>lhs;whnf);first|done|exact rfl))(he:e= .normal\/e= .ret:=by(first|exact .inr rfl|exact .inl rfl))(h:PLift F0->PLift F1->PLift F2->PLift F3->(σ.length=objs'.length/\σ.Nodup/\σ.take m=List.range m/\bnd σ.length r/\kE σ ⟨n,m,env,objs⟩ ((idx 0 objs').map λp=>(p.1,some p.2))/\dY P ⟨n,m,env,objs⟩ rs=some (ren (σ.getD · 0) r)):=by(intro z0 z1 z2 z3;simp-dsimp(disch:=try exact vD) only[push_cast,simprocAttr,z0.down,z1.down,z2.down,z3.down];first|done|exact zqF)):Ends P fn objs0 m r objs' e ⟨n,m,env,objs⟩:=Ends.mk2 he σ (by rw[hr];exact h ⟨f0⟩ ⟨f1⟩ ⟨f2⟩ ⟨f3⟩)
theorem az{P:Program} {f:FuncId} {fn:Func} {code:Code} {args:List AV} {objs:List aC} {m N:Nat} {r:AV} {objs':List aC} {q:Prop}(hf:P.funcs[f]? =some fn)(hN:fn.ntmps=N)(hb:fn.body=some code)(k:q)(h:PLift q->AC P code (λe _ st=>Ends P fn objs m r objs' e st) objs.length (oU N m args objs):=by(intro zz;simp only[oU,idx,List.length,List.map_cons,List.map_nil,List.append_nil,List.cons_append,List.nil_append,Nat.reduceAdd,Nat.zero_add,List.length_cons,List.length_nil];exact zz.down))(hn:args.length<=N:=by simp)(hm:m<=objs.length:=by simp):ACall P f args objs m r objs':=by subst hN;exact ACall.enter hf hb hn hm (h ⟨k⟩)
