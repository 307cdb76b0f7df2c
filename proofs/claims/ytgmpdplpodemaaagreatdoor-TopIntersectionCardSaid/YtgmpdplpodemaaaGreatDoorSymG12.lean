/- Sym12 Sym13 Sym14. No condition. -/
import Derived.Test.YtgmpdplpodemaaaGreatDoorSymG9
import Derived.Orders
set_option linter.all false
namespace Go.Sy
section
structure Sd where
 i:Nat
 anc:List Nat
 ud:List Nat
 f:List Nat
 md:List Nat
 k:Nat
structure DI where
 o:Oper
 s:Sd
 e:Eff
def bf(M:Nat→Bool):Nat→List DI→St→St
 |_,[],st=>st
 |j,x::l,st=>bf M (j+1) l (if M j then st.app x.o.dst x.e else st)
structure Eqv(a b:St):Prop where
 n:a.n=b.n
 m:a.m=b.m
 ev:∀t,a.ev t=b.ev t
 ob:∀t,a.ob t=b.ob t
theorem Eqv.refl(a:St):Eqv a a:=⟨rfl,rfl,fun _=>rfl,fun _=>rfl⟩
theorem Eqv.trans{a b c:St}(h:Eqv a b)(k:Eqv b c):Eqv a c:=⟨h.n.trans k.n,h.m.trans k.m,fun t=>(h.ev t).trans (k.ev t),fun t=>(h.ob t).trans (k.ob t)⟩
theorem Eqv.symm{a b:St}(h:Eqv a b):Eqv b a:=⟨h.n.symm,h.m.symm,fun t=>(h.ev t).symm,fun t=>(h.ob t).symm⟩
theorem St.app_n(st:St)(d:Option Nat)(e:Eff):(st.app d e).n=st.n:=by unfold St.app St.put;split<;>rfl
theorem St.app_m(st:St)(d:Option Nat)(e:Eff):(st.app d e).m=st.m:=by unfold St.app St.put;split<;>rfl
theorem St.ev_app(st:St)(d:Option Nat)(e:Eff)(t:Nat):(st.app d e).ev t=if d=some t then e.v else st.ev t:=by
 cases d with
 |none=>simp[St.app,St.put,St.ev]
 |some d=>
  simp only[St.app,St.put,St.ev,aS,Option.some.injEq]
  by_cases h:t=d
  ·subst h;simp
  ·rw[if_neg h,if_neg (Ne.symm h)]
theorem Eqv.app{a b:St}(h:Eqv a b)(d:Option Nat)(e:Eff):Eqv (a.app d e) (b.app d e):=
 ⟨by rw[St.app_n,St.app_n,h.n],by rw[St.app_m,St.app_m,h.m],fun t=>by rw[St.ev_app,St.ev_app,h.ev],fun t=>by rw[St.ob_app,St.ob_app,h.ob]⟩
theorem Eqv.fold{M:Nat→Bool}(l:List DI):∀(j:Nat) {a b:St},Eqv a b→Eqv (bf M j l a) (bf M j l b):=by
 induction l with
 |nil=>intro j a b h;exact h
 |cons x l ih=>
  intro j a b h
  simp only[bf]
  refine ih _ ?_
  split
  ·exact h.app _ _
  ·exact h
theorem Mi{st:St} {d d':Option Nat} {e e':Eff}(h1:∀t,d=some t→d'≠some t)(h2:∀i,i∈e.keys→i ∉ e'.keys):Eqv ((st.app d e).app d' e') ((st.app d' e').app d e):=by
 refine⟨by simp[St.app_n],by simp[St.app_m],fun t=>?_,fun t=>?_⟩
 ·simp only[St.ev_app]
  by_cases a:d=some t
  ·have b:¬d'=some t:=h1 t a
   rw[if_neg b,if_pos a,if_pos a]
  ·by_cases b:d'=some t
   ·rw[if_pos b,if_neg a,if_pos b]
   ·rw[if_neg b,if_neg a,if_neg a,if_neg b]
 ·simp only[St.ob_app]
  by_cases a:t∈e.keys
  ·rw[if_pos a,if_neg (h2 t a),if_pos a]
  ·by_cases b:t∈e'.keys
   ·rw[if_pos b,if_neg a,if_pos b]
   ·rw[if_neg b,if_neg a,if_neg a,if_neg b]
theorem Sim.eqv{c:Ctx} {ρ:Rho} {D J:Nat→Prop} {a b:St} {x:Act} {w:World}(h:Eqv a b)(hs:Sim c ρ D J a x w):Sim c ρ D J b x w:=
 ⟨hs.defers,by rw[hs.tmps,h.n],fun t=>by rw[←h.ev];exact hs.env t,fun id o ho=>hs.obj id o (by rw[h.ob];exact ho),
   fun id id' o o' b s s' h1 h2=>hs.inj id id' o o' b s s' (by rw[h.ob];exact h1) (by rw[h.ob];exact h2),hs.dom,hs.jok,hs.jlt,hs.ilt,by rw[←h.m];exact hs.pin,hs.kept,by rw[show b.ob=a.ob from funext fun id=>(h.ob id).symm];exact hs.hid,hs.laid⟩
theorem Mj{M:Nat→Bool}(l:List DI):∀(j:Nat) (st:St) (d:Option Nat) (e:Eff),
 (∀i x,l[i]? =some x→M (j+i)=true→(∀t,d=some t→x.o.dst≠some t)∧∀k,k∈e.keys→k ∉ x.e.keys)→Eqv (bf M j l (st.app d e)) ((bf M j l st).app d e):=by
 induction l with
 |nil=>intro j st d e _;exact Eqv.refl _
 |cons x l ih=>
  intro j st d e h
  simp only[bf]
  have hrest:∀i y,l[i]? =some y→M (j+1+i)=true→(∀t,d=some t→y.o.dst≠some t)∧∀k,k∈e.keys→k ∉ y.e.keys:=fun i y hi hm=>
   h (i+1) y (by simpa using hi) (by rw[show j+(i+1)=j+1+i by omega];exact hm)
  by_cases hM:M j=true
  ·simp only[hM,if_true]
   obtain⟨h1,h2⟩:=h 0 x rfl (by simpa using hM)
   exact(Eqv.fold l _ (Mi h1 h2)).trans (ih _ _ _ _ hrest)
  ·simp only[hM,if_false,Bool.false_eq_true]
   exact ih _ _ _ _ hrest
theorem Mk{M M':Nat→Bool} {i:Nat}(hM:M i=false)(hM':M' i=true)(ho:∀j,j≠i→M' j=M j)(l:List DI):∀(j p:Nat) (st:St) (x:DI),j+p=i→l[p]? =some x→
 (∀q y,l[q]? =some y→p<q→M (j+q)=true→(∀t,x.o.dst=some t→y.o.dst≠some t)∧∀k,k∈x.e.keys→k ∉ y.e.keys)→
 Eqv (bf M' j l st) ((bf M j l st).app x.o.dst x.e):=by
 induction l with
 |nil=>intro j p st x _ h;simp at h
 |cons y l ih=>
  intro j p st x hjp hx h
  simp only[bf]
  cases p with
  |zero=>
   have hj:j=i:=by omega
   subst hj
   simp only[List.getElem?_cons_zero,Option.some.injEq] at hx
   subst hx
   rw[hM,hM']
   simp only[if_true,Bool.false_eq_true,if_false]
   have e1:∀(l:List DI) (k:Nat) (s:St),j<k→bf M' k l s=bf M k l s:=by
    intro l
    induction l with
    |nil=>intro k s _;rfl
    |cons z l ih2=>intro k s hk;simp only[bf,ho k (by omega)];exact ih2 _ _ (by omega)
   rw[e1 l (j+1) _ (by omega)]
   exact Mj l (j+1) st _ _ (fun q z hz hm=>h (q+1) z (by simpa using hz) (by omega) (by rw[show j+(q+1)=j+1+q by omega];exact hm))
  |succ p=>
   have hj:j≠i:=by omega
   rw[ho j hj]
   exact ih (j+1) p _ x (by omega) (by simpa using hx) (fun q z hz hlt hm=>h (q+1) z (by simpa using hz) (by omega) (by rw[show j+(q+1)=j+1+q by omega];exact hm))
def nL(ud:List Nat)(env:List (Nat×AV)):List (Nat×AV):=ud.map (fun t=>(t,.any))++env
def qy(nid:Nat):List (Nat×Option aC)→List (Nat×Option aC)
 |[]=>[]
 |(i,o)::l=>if i<nid then(i,o)::qy nid l else qy nid l
def Ml(f nid0:Nat)(objs:List (Nat×Option aC)):List (Nat×Option aC):=if f=2 then [] else if f=1 then qy nid0 objs else if 3≤f then(f-3,none)::objs else objs
def lq:List Nat→Nat→List (Nat×Option aC)→List (Nat×Option aC)
 |[],_,objs=>objs
 |a::f,nid0,objs=>Ml a nid0 (lq f nid0 objs)
theorem Cr(nid0:Nat)(objs:List (Nat×Option aC)):lq [] nid0 objs=objs:=rfl
theorem Ac(a:Nat)(f:List Nat)(nid0:Nat)(objs:List (Nat×Option aC)):lq (a::f) nid0 objs=Ml a nid0 (lq f nid0 objs):=rfl
def red(nid0:Nat)(st0:St)(done:List DI)(s:Sd):St:=
 ⟨st0.n,st0.m,nL s.ud (bf (fun j=>s.anc.contains j) 0 done st0).env,lq s.f nid0 (bf (fun j=>s.anc.contains j) 0 done st0).objs⟩
theorem Cs(nid:Nat)(l:List (Nat×Option aC))(t:Nat):aS (qy nid l) t=if t<nid then aS l t else none:=by
 induction l with
 |nil=>simp[qy,aS]
 |cons x l ih=>
  obtain⟨i,o⟩:=x
  simp only[qy]
  split
  ·simp only[aS,ih]
   split
   ·rename_i h1 h2;subst h2;rw[if_pos h1]
   ·rfl
  ·rw[ih];simp only[aS]
   split
   ·rename_i h1 h2
    by_cases h3:t=i
    ·omega
    ·rw[if_neg h3]
   ·rfl
theorem JM(ud:List Nat)(env:List (Nat×AV))(t:Nat):(aS (nL ud env) t).getD .any=if t∈ud then .any else(aS env t).getD .any:=by
 induction ud with
 |nil=>simp[nL]
 |cons u ud ih=>
  simp only[nL,List.map_cons,List.cons_append,aS]
  by_cases h:t=u
  ·subst h;simp
  ·rw[if_neg h]
   simp only[nL] at ih
   rw[ih];simp[h]
def tO(l:List (Oper×Sd))(i:Nat):List Nat:=((l[i]?).map (·.2.anc)).getD []
def afm(l:List (Oper×Sd))(i:Nat):Option Nat:=(l[i]?).bind (·.1.dst)
def dMd(l:List (Oper×Sd))(i:Nat):List Nat:=((l[i]?).map (·.2.md)).getD []
def Hg(l:List (Oper×Sd))(i j:Nat):Bool:=i !=j&& !(tO l i).contains j&& !(tO l j).contains i
def Mm(ud:List Nat):Option Nat→Bool
 |some d=>ud.contains d
 |none=>true
def EH(l:List (Oper×Sd))(n i:Nat):Bool:=
 match l[i]? with
 |none=>true
 |some (o,s)=>
  (o.after.all fun e=> !Region.binds .any e||decide (e.on<i))&&
  (s.anc.all fun j=>decide (j<i)&&((tO l j).all fun a=>s.anc.contains a)&&o.after.any fun e=>Region.binds .any e&&(e.on==j||(tO l e.on).contains j))&&
  jU n o.dst&&
  (List.range l.length).all fun j=>
    (i==j||o.dst.isNone||o.dst !=afm l j)&&
    (!Hg l i j||
      (Mm s.ud (afm l j)&&(s.md.isEmpty||(dMd l j).all fun c=>Nat.ble 3 c&&s.md.all fun c'=>Nat.ble 3 c'&&c' !=c)&&
        (s.f.contains 2||(dMd l j).all fun c=>s.f.contains c)))
def xn(l:List (Oper×Sd))(n:Nat):Bool:=(List.range l.length).all (EH l n)
def EI:Option aC→Bool
 |none=>true
 |some (.cells _ _)=>true
 |some (.map _ _ _)=>true
 |some (.full _ _)=>true
 |some (.tr _ _)=>false
def lU(nid k nid0:Nat)(md:List Nat)(objs:List (Nat×Option aC)):List (Nat×Option aC)→Prop
 |[]=>True
 |(i,o)::l=>EI o=true∧((nid≤i∧i<nid+k)∨((aS objs i).join.isSome=true∧(2∈md∨1∈md∧nid0≤i∨3+i∈md)))∧lU nid k nid0 md objs l
theorem EJ{nid k nid0:Nat} {md:List Nat} {objs:List (Nat×Option aC)} {u:List (Nat×Option aC)}(h:lU nid k nid0 md objs u):∀i∈u.map (·.1),(nid≤i∧i<nid+k)∨((aS objs i).join.isSome=true∧(2∈md∨1∈md∧nid0≤i∨3+i∈md)):=by
 induction u with
 |nil=>intro i hi;cases hi
 |cons x u ih=>
  obtain⟨j,o⟩:=x
  intro i hi
  simp only[List.map_cons,List.mem_cons] at hi
  rcases hi with rfl|hi
  ·exact h.2.1
  ·exact ih h.2.2 i hi
def dC(nid0:Nat)(done:List DI):Nat:=nid0+(done.map (·.s.k)).sum
def inN:List Nat→Nat→Bool
 |[],_=>false
 |a::l,i=>a==i||inN l i
def jD(κ:List Nat):List (Nat×Option aC)→List (Nat×Option aC)
 |[]=>[]
 |(i,o)::l=>if inN κ i=true then jD κ l else(i,o)::jD κ l
def mE(objs:List (Nat×Option aC))(κ:List Nat):List (Nat×Option aC)→Prop
 |[]=>True
 |(i,o)::l=>EI o=true∧(inN κ i=false∨(aS objs i).join=o∧o.isSome=true)∧mE objs κ l
theorem oH:∀u:List (Nat×Option aC),jD [] u=u
 |[]=>rfl
 |(i,o)::l=>by simp[jD,inN,oH l]
theorem xq{nid k nid0:Nat} {md:List Nat} {objs:List (Nat×Option aC)}:∀{u:List (Nat×Option aC)},lU nid k nid0 md objs u→mE objs [] u
 |[],_=>trivial
 |(i,o)::l,h=>⟨h.1,.inl rfl,xq h.2.2⟩
theorem JN{objs:List (Nat×Option aC)} {κ:List Nat} {u:List (Nat×Option aC)}(h:mE objs κ u):¬tu u:=by
 induction u with
 |nil=>exact kC
 |cons x u ih=>
  obtain⟨j,o⟩:=x
  cases o with
  |none=>exact kD (ih h.2.2)
  |some o=>exact oz (by have:=h.1;cases o<;>first|rfl|cases this) (ih h.2.2)
theorem tV{κ:List Nat} {i:Nat}(hi:inN κ i=false):∀u:List (Nat×Option aC),aS (jD κ u) i=aS u i
 |[]=>rfl
 |(j,o)::l=>by
  simp only[jD]
  split
  ·rename_i h
   have:¬i=j:=fun e=>by subst e;rw[hi] at h;cases h
   rw[tV hi l];simp only[aS];rw[if_neg this]
  ·simp only[aS];rw[tV hi l]
theorem mF{κ:List Nat} {i:Nat}(hi:inN κ i=true):∀u:List (Nat×Option aC),aS (jD κ u) i=none
 |[]=>rfl
 |(j,o)::l=>by
  simp only[jD]
  split
  ·exact mF hi l
  ·rename_i h
   have:¬i=j:=fun e=>by subst e;exact h hi
   simp only[aS];rw[if_neg this];exact mF hi l
theorem uO{objs:List (Nat×Option aC)} {κ:List Nat} {i:Nat} {o:Option aC}(hi:inN κ i=true):∀{u:List (Nat×Option aC)},mE objs κ u→aS u i=some o→(aS objs i).join=o∧o.isSome=true
 |[],_,h=>by cases h
 |(j,o')::l,hd,h=>by
  simp only[aS] at h
  split at h
  ·rename_i e
   subst e
   cases h
   rcases hd.2.1 with h|h
   ·rw[hi] at h;cases h
   ·exact h
  ·exact uO hi hd.2.2 h
def OpB(P:Program)(o:Oper)(nid k:Nat)(st:St)(e:Eff):Prop:=∃κ eR,OpT P o nid k st eR∧e=⟨eR.v,jD κ eR.upd⟩∧mE st.objs κ eR.upd
theorem OpB.of{P:Program} {o:Oper} {nid k:Nat} {st:St} {e:Eff}(hd:mE st.objs [] e.upd)(h:OpT P o nid k st e):OpB P o nid k st e:=
 ⟨[],e,h,by rw[oH],hd⟩
theorem Eqv.filt{st:St} {κ:List Nat} {e:Eff}(d:Option Nat)(h:∀i o,inN κ i=true→aS e.upd i=some o→st.ob i=o∧o.isSome=true):Eqv (st.app d e) (st.app d ⟨e.v,jD κ e.upd⟩):=by
 refine⟨by rw[St.app_n,St.app_n],by rw[St.app_m,St.app_m],fun t=>by rw[St.ev_app,St.ev_app],fun t=>?_⟩
 have h0:∀u,(st.app d ⟨e.v,u⟩).ob t=((aS u t).or (aS st.objs t)).join:=fun u=>by
  have:(st.put d e.v).objs=st.objs:=by unfold St.put;split<;>rfl
  show(aS (u++st.objs) t).join=_
  rw[uJ]
 have h1:=h0 e.upd
 have h2:=h0 (jD κ e.upd)
 rw[h2]
 refine h1.trans ?_
 cases hi:inN κ t with
 |false=>rw[tV hi]
 |true=>
  rw[mF hi]
  cases hl:aS e.upd t with
  |none=>rfl
  |some o=>
   have:=(h t o hi hl).1
   show o=(aS st.objs t).join
   exact this.symm
def za(P:Program)(ops:Array Oper)(nid0:Nat)(st0:St)(done:List DI)(o:Oper)(s:Sd)(e:Eff):Prop:=
 lU (dC nid0 done) s.k nid0 s.md (red nid0 st0 done s).objs e.upd∧
 match o.guard with
 |none=>OpB P o (dC nid0 done) s.k (red nid0 st0 done s) e
 |some (j,b)=>∃t,pV ops j=some t∧t<st0.n∧((∃b',(red nid0 st0 done s).ev t= .val (.bool b')∧((b'=b∧OpB P o (dC nid0 done) s.k (red nid0 st0 done s) e)∨(b'≠b∧e=⟨noV,[]⟩)))∨((red nid0 st0 done s).ev t=noV∧e=⟨noV,[]⟩))
def DGo(P:Program)(ops:Array Oper)(nid0:Nat)(st0:St)(fin:List DI→Prop):List DI→List (Oper×Sd)→Prop
 |done,[]=>fin done
 |done,(o,s)::rest=>∃e,za P ops nid0 st0 done o s e∧DGo P ops nid0 st0 fin (done++[⟨o,s,e⟩]) rest
theorem RU{P:Program} {ops:Array Oper} {nid0:Nat} {st0:St} {fin:List DI→Prop}(rest:List (Oper×Sd)):∀(done:List DI),DGo P ops nid0 st0 fin done rest→
 ∃more:List DI,fin (done++more)∧more.map (fun x=>(x.o,x.s))=rest∧∀i x,more[i]? =some x→za P ops nid0 st0 (done++more.take i) x.o x.s x.e:=by
 induction rest with
 |nil=>intro done h;exact⟨[],by simpa[DGo] using h,rfl,fun i x hx=>by simp at hx⟩
 |cons p rest ih=>
  obtain⟨o,s⟩:=p
  intro done h
  obtain⟨e,h1,h2⟩:=h
  obtain⟨more,k1,k2,k3⟩:=ih _ h2
  refine⟨⟨o,s,e⟩::more,by simpa using k1,by simp[k2],fun i x hx=>?_⟩
  cases i with
  |zero=>simp at hx;subst hx;simpa using h1
  |succ i=>have:=k3 i x (by simpa using hx);simpa using this
theorem Mo(M:Nat→Bool)(l:List DI):∀(j:Nat) (st:St),(bf M j l st).n=st.n∧(bf M j l st).m=st.m:=by
 induction l with
 |nil=>intro j st;exact⟨rfl,rfl⟩
 |cons x l ih=>intro j st;simp only[bf];obtain⟨h1,h2⟩:=ih (j+1) (if M j then st.app x.o.dst x.e else st);rw[h1,h2];split<;>simp[St.app_n,St.app_m]
theorem EK{M M':Nat→Bool}(l:List DI):∀(j:Nat) (st:St),(∀i,i<l.length→M (j+i)=M' (j+i))→bf M j l st=bf M' j l st:=by
 induction l with
 |nil=>intro j st _;rfl
 |cons x l ih=>
  intro j st h
  simp only[bf]
  rw[show M j=M' j from by simpa using h 0 (by simp)]
  exact ih _ _ (fun i hi=>by have:=h (i+1) (by simpa using hi);rwa [show j+(i+1)=j+1+i by omega] at this)
theorem mG{M:Nat→Bool} {t:Nat}(l:List DI):∀(j:Nat) (st:St),(∀i x,l[i]? =some x→M (j+i)=true→x.o.dst≠some t)→(bf M j l st).ev t=st.ev t:=by
 induction l with
 |nil=>intro j st _;rfl
 |cons x l ih=>
  intro j st h
  simp only[bf]
  rw[ih _ _ (fun i y hi hm=>h (i+1) y (by simpa using hi) (by rw[show j+(i+1)=j+1+i by omega];exact hm))]
  split
  ·rename_i hM;rw[St.ev_app,if_neg (h 0 x rfl (by simpa using hM))]
  ·rfl
theorem qX{M:Nat→Bool} {t:Nat}(l:List DI):∀(j p:Nat) (st:St) (x:DI),l[p]? =some x→M (j+p)=true→x.o.dst=some t→(∀i y,l[i]? =some y→i≠p→y.o.dst≠some t)→(bf M j l st).ev t=x.e.v:=by
 induction l with
 |nil=>intro j p st x h;simp at h
 |cons y l ih=>
  intro j p st x hx hM hd h
  simp only[bf]
  cases p with
  |zero=>
   simp only[List.getElem?_cons_zero,Option.some.injEq] at hx;subst hx
   rw[mG l _ _ (fun i z hi _=>h (i+1) z (by simpa using hi) (by omega))]
   rw[if_pos (by simpa using hM),St.ev_app,if_pos hd]
  |succ p=>
   exact ih (j+1) p _ x (by simpa using hx) (by rw[show j+1+p=j+(p+1) by omega];exact hM) hd (fun i z hi hne=>h (i+1) z (by simpa using hi) (by omega))
theorem Ad{M M':Nat→Bool} {id:Nat}(l:List DI):∀(j:Nat) (a b:St),a.ob id=b.ob id→(∀i x,l[i]? =some x→M' (j+i)=true→M (j+i)=true)→(∀i x,l[i]? =some x→M (j+i)=true→M' (j+i)=false→id ∉ x.e.keys)→(bf M j l a).ob id=(bf M' j l b).ob id:=by
 induction l with
 |nil=>intro j a b h _ _;exact h
 |cons x l ih=>
  intro j a b h h1 h2
  simp only[bf]
  refine ih (j+1) _ _ ?_ (fun i y hi hm=>by have:=h1 (i+1) y (by simpa using hi);rw[show j+(i+1)=j+1+i by omega] at this;exact this hm) (fun i y hi hm hm'=>by
   have:=h2 (i+1) y (by simpa using hi);rw[show j+(i+1)=j+1+i by omega] at this;exact this hm hm')
  cases hM':M' j with
  |true=>
   have hM:=h1 0 x rfl (by simpa using hM')
   simp only[Nat.add_zero] at hM
   simp only[hM,if_true,St.ob_app];rw[h]
  |false=>
   cases hM:M j with
   |true=>simp only[if_true,Bool.false_eq_true,if_false,St.ob_app];rw[if_neg (h2 0 x rfl (by simpa using hM) (by simpa using hM'))];exact h
   |false=>simpa using h
theorem Ae{M:Nat→Bool} {id:Nat} {o:aC}(l:List DI):∀(j:Nat) (st:St),(bf M j l st).ob id=some o→st.ob id=some o∨∃i x,l[i]? =some x∧M (j+i)=true∧id∈x.e.keys:=by
 induction l with
 |nil=>intro j st h;exact .inl h
 |cons x l ih=>
  intro j st h
  simp only[bf] at h
  rcases ih _ _ h with h|⟨i,y,h1,h2,h3⟩
  ·split at h
   ·rename_i hM
    by_cases hk:id∈x.e.keys
    ·exact .inr ⟨0,x,rfl,by simpa using hM,hk⟩
    ·rw[St.ob_app,if_neg hk] at h;exact .inl h
   ·exact .inl h
  ·exact .inr ⟨i+1,y,by simpa using h1,by rw[show j+(i+1)=j+1+i by omega];exact h2,h3⟩
theorem xu(nid0:Nat)(its:List DI){i j:Nat}(hij:i<j){x:DI}(hx:its[i]? =some x):dC nid0 (its.take i)+x.s.k≤dC nid0 (its.take j):=by
 unfold dC
 have hlt:=(List.getElem?_eq_some_iff.1 hx).1
 have h1:its.take j=its.take i++(x::(its.take j).drop (i+1)):=by
  have e:(its.take j).take i=its.take i:=by rw[List.take_take,Nat.min_eq_left (by omega)]
  have hxj:(its.take j)[i]? =some x:=by rw[List.getElem?_take_of_lt hij];exact hx
  obtain⟨hl,he⟩:=List.getElem?_eq_some_iff.1 hxj
  conv=>lhs;rw[←List.take_append_drop i (its.take j)]
  rw[e,List.drop_eq_getElem_cons hl,he]
 rw[h1]
 simp only[List.map_append,List.map_cons,List.sum_append,List.sum_cons]
 omega
structure qK(nid0:Nat)(st0:St)(its:List DI):Prop where
 down:∀(i:Nat) (x:DI),its[i]? =some x→∀e∈x.o.after,Region.binds .any e=true→e.on<i
 anc:∀(i:Nat) (x:DI),its[i]? =some x→∀j∈x.s.anc,j<i∧(∃e∈x.o.after,Region.binds .any e=true∧(e.on=j∨∃y:DI,its[e.on]? =some y∧j∈y.s.anc))∧∀y:DI,its[j]? =some y→∀a∈y.s.anc,a∈x.s.anc
 dst:∀(i:Nat) (x:DI),its[i]? =some x→∀d,x.o.dst=some d→d<st0.n
 uniq:∀(i j:Nat) (x y:DI),its[i]? =some x→its[j]? =some y→i≠j→∀t,x.o.dst=some t→y.o.dst≠some t
 un:∀(i j:Nat) (x y:DI),its[i]? =some x→its[j]? =some y→i≠j→j ∉ x.s.anc→i ∉ y.s.anc→(∀d,y.o.dst=some d→d∈x.s.ud)∧(x.s.md=[]∨∀c∈y.s.md,3≤c∧∀c'∈x.s.md,3≤c'∧c'≠c)∧(2∈x.s.f∨∀c∈y.s.md,c∈x.s.f)
 base:∀id o,st0.ob id=some o→id<nid0
 keys:∀(i:Nat) (x:DI),its[i]? =some x→∀id∈x.e.keys,(dC nid0 (its.take i)≤id∧id<dC nid0 (its.take i)+x.s.k)∨((∃o,(red nid0 st0 (its.take i) x.s).ob id=some o)∧(2∈x.s.md∨1∈x.s.md∧nid0≤id∨3+id∈x.s.md))
section
variable {nid0:Nat} {st0:St} {its:List DI}
theorem RX{a id:Nat} {objs:List (Nat×Option aC)} {o:aC}(h:(aS (Ml a nid0 objs) id).join=some o):a≠2∧(a=1→id<nid0)∧a≠3+id∧(aS objs id).join=some o:=by
 unfold Ml at h
 split at h
 ·simp[aS] at h
 ·rename_i h2
  split at h
  ·rename_i h1
   rw[Cs] at h
   split at h
   ·rename_i hlt;exact⟨h2,fun _=>hlt,by omega,h⟩
   ·simp at h
  ·rename_i h1
   split at h
   ·rename_i h3
    simp only[aS] at h
    split at h
    ·simp at h
    ·rename_i h4;exact⟨h2,fun hh=>absurd hh h1,by omega,h⟩
   ·rename_i h3;exact⟨h2,fun hh=>absurd hh h1,by omega,h⟩
theorem EL{id:Nat} {o:aC}(f:List Nat)(objs:List (Nat×Option aC))(h:(aS (lq f nid0 objs) id).join=some o):2 ∉ f∧(1∈f→id<nid0)∧3+id ∉ f∧(aS objs id).join=some o:=by
 induction f with
 |nil=>exact⟨by simp,by simp,by simp,h⟩
 |cons a f ih=>
  obtain⟨h1,h2,h3,h4⟩:=RX h
  obtain⟨g1,g2,g3,g4⟩:=ih h4
  refine⟨?_,?_,?_,g4⟩
  ·intro hc;rcases List.mem_cons.1 hc with hc|hc
   ·exact h1 hc.symm
   ·exact g1 hc
  ·intro hc;rcases List.mem_cons.1 hc with hc|hc
   ·exact h2 hc.symm
   ·exact g2 hc
  ·intro hc;rcases List.mem_cons.1 hc with hc|hc
   ·exact h3 hc.symm
   ·exact g3 hc
theorem Mq{i:Nat} {s:Sd} {id:Nat} {o:aC}(h:(red nid0 st0 (its.take i) s).ob id=some o):2 ∉ s.f∧(1∈s.f→id<nid0)∧(bf (fun j=>s.anc.contains j) 0 (its.take i) st0).ob id=some o∧3+id ∉ s.f:=by
 obtain⟨h1,h2,h3,h4⟩:=EL s.f _ h
 exact⟨h1,h2,h4,h3⟩
theorem qK.new(F:qK nid0 st0 its):∀(i:Nat) (x:DI),its[i]? =some x→∀id o,(red nid0 st0 (its.take i) x.s).ob id=some o→id<nid0∨∃(b:Nat) (y:DI),b∈x.s.anc∧its[b]? =some y∧dC nid0 (its.take b)≤id∧id<dC nid0 (its.take b)+y.s.k:=by
 intro i
 induction i using Nat.strongRecOn with
 |_ i ih=>
  intro x hx id o ho
  obtain⟨_,_,ho,_⟩:=Mq ho
  rcases Ae _ _ _ ho with h|⟨b,y,h1,h2,h3⟩
  ·exact .inl (F.base _ _ h)
  ·simp only[Nat.zero_add,List.contains_iff_mem] at h2
   have hb:=(F.anc i x hx b h2).1
   have hy:its[b]? =some y:=by rw[List.getElem?_take_of_lt hb] at h1;exact h1
   rcases F.keys b y hy id h3 with hk|⟨⟨o',hk⟩,_⟩
   ·exact .inr ⟨b,y,h2,hy,hk⟩
   ·rcases ih b hb y hy id o' hk with hlt|⟨b',y',g1,g2,g3⟩
    ·exact .inl hlt
    ·exact .inr ⟨b',y',(F.anc i x hx b h2).2.2 y hy b' g1,g2,g3⟩
theorem qY{i j:Nat} {x y:DI}(hx:its[i]? =some x)(hy:its[j]? =some y){id:Nat}(h1:dC nid0 (its.take i)≤id∧id<dC nid0 (its.take i)+x.s.k)(h2:dC nid0 (its.take j)≤id∧id<dC nid0 (its.take j)+y.s.k):i=j:=by
 rcases Nat.lt_trichotomy i j with h|h|h
 ·have:=xu nid0 its h hx;omega
 ·exact h
 ·have:=xu nid0 its h hy;omega
theorem qK.sees(F:qK nid0 st0 its){M:Nat→Bool}(hcl:∀(j:Nat) (y:DI),its[j]? =some y→M j=true→∀a∈y.s.anc,M a=true){i:Nat} {x:DI}(hx:its[i]? =some x)(hi:M i=false)(ha:∀a∈x.s.anc,M a=true):
 (∀t,(red nid0 st0 (its.take i) x.s).ev t= .any∨(red nid0 st0 (its.take i) x.s).ev t=(bf M 0 its st0).ev t)∧
 (∀id o,(red nid0 st0 (its.take i) x.s).ob id=some o→(bf M 0 its st0).ob id=some o):=by
 have hext:bf (fun j=>x.s.anc.contains j) 0 its st0=bf (fun j=>x.s.anc.contains j) 0 (its.take i) st0:=by
  have key:∀(l1 l2:List DI) (j:Nat) (st:St),(∀q,q<l2.length→x.s.anc.contains (j+l1.length+q)=false)→bf (fun j=>x.s.anc.contains j) j (l1++l2) st=bf (fun j=>x.s.anc.contains j) j l1 st:=by
   intro l1
   induction l1 with
   |nil=>
    intro l2
    induction l2 with
    |nil=>intro j st _;rfl
    |cons z l2 ih2=>
     intro j st h
     have h0:=h 0 (by simp)
     simp only[List.length_nil,Nat.add_zero] at h0
     simp only[List.nil_append,bf,h0,Bool.false_eq_true,if_false]
     have:=ih2 (j+1) st (fun q hq=>by have:=h (q+1) (by simpa using hq);simpa[Nat.add_assoc,Nat.add_comm 1 q] using this)
     simpa[bf] using this
   |cons z l1 ih=>intro l2 j st h;simp only[List.cons_append,bf];exact ih l2 (j+1) _ (fun q hq=>by have:=h q hq;simpa[Nat.add_assoc,Nat.add_comm 1] using this)
  conv=>lhs;rw[←List.take_append_drop i its]
  refine key _ _ 0 st0 (fun q _=>?_)
  have hil:=(List.getElem?_eq_some_iff.1 hx).1
  simp only[Nat.zero_add,List.length_take,Nat.min_eq_left (Nat.le_of_lt hil)]
  refine Bool.eq_false_iff.2 (fun hc=>?_)
  have:=(F.anc i x hx _ (by simpa using hc)).1
  omega
 have hun:∀(q:Nat) (y:DI),its[q]? =some y→M q=true→q ∉ x.s.anc→i≠q∧i ∉ y.s.anc:=by
  intro q y hq hM hna
  refine⟨fun e=>?_,fun hd=>?_⟩
  ·subst e;rw[hi] at hM;cases hM
  ·have:=hcl q y hq hM i hd;rw[hi] at this;cases this
 refine⟨fun t=>?_,fun id o ho=>?_⟩
 ·unfold red
  simp only[St.ev]
  rw[JM]
  by_cases htu:t∈x.s.ud
  ·rw[if_pos htu];exact .inl rfl
  ·rw[if_neg htu]
   right
   change (bf (fun j=>x.s.anc.contains j) 0 (its.take i) st0).ev t=(bf M 0 its st0).ev t
   rw[←hext]
   by_cases hw:∃(p:Nat) (y:DI),its[p]? =some y∧p∈x.s.anc∧y.o.dst=some t
   ·obtain⟨p,y,h1,h2,h3⟩:=hw
    rw[qX its 0 p st0 y h1 (by simpa using h2) h3 (fun q z hq hne=>by
     intro hz;exact F.uniq p q y z h1 hq (Ne.symm hne) t h3 hz)]
    rw[qX its 0 p st0 y h1 (by simpa using ha p h2) h3 (fun q z hq hne=>by
     intro hz;exact F.uniq p q y z h1 hq (Ne.symm hne) t h3 hz)]
   ·rw[mG its 0 st0 (fun q z hq hM hz=>hw ⟨q,z,hq,by simpa using hM,hz⟩)]
    rw[mG its 0 st0 (fun q z hq hM hz=>by
     simp only[Nat.zero_add] at hM
     by_cases hqa:q∈x.s.anc
     ·exact hw ⟨q,z,hq,hqa,hz⟩
     ·obtain⟨h1,h2⟩:=hun q z hq hM hqa
      exact htu ((F.un i q x z hx hq h1 hqa h2).1 t hz))]
 ·obtain⟨hf2,hf1,hob,hf3⟩:=Mq ho
  rw[←hext] at hob
  rw[←hob]
  refine Ad its 0 st0 st0 rfl (fun q y hq hA=>?_) (fun q y hq hM hA hk=>?_)
  ·simp only[Nat.zero_add,List.contains_iff_mem] at hA⊢;exact ha q hA
  ·simp only[Nat.zero_add] at hM hA
   have hqa:q ∉ x.s.anc:=by simpa using hA
   obtain⟨h1,h2⟩:=hun q y hq hM hqa
   obtain⟨_,_,h3⟩:=F.un i q x y hx hq h1 hqa h2
   rcases F.keys q y hq id hk with hk|⟨⟨o',hk⟩,hmd⟩
   ·have hge:nid0≤id:=by have:nid0≤dC nid0 (its.take q):=by unfold dC;omega
                         omega
    rcases F.new i x hx id o ho with hlt|⟨b,z,g1,g2,g3⟩
    ·omega
    ·have:=qY hq g2 hk g3
     exact hqa (this▸g1)
   ·rcases h3 with h3|h3
    ·exact hf2 h3
    ·rcases hmd with hmd|⟨hmd,hge⟩|hmd
     ·exact hf2 (h3 _ hmd)
     ·have:=hf1 (h3 _ hmd);omega
     ·exact hf3 (h3 _ hmd)
theorem Sim.drew{c:Ctx} {ρ:Rho} {D J:Nat→Prop} {st:St} {a:Act} {w:World}(h:Sim c ρ D J st a w)(k:Nat):Sim c ρ D J st a {w with drawn:=k}:=by
 have hr:∀{v x} {ρ:Rho},Rep w J ρ v x→Rep {w with drawn:=k} J ρ v x:=fun h=>by
  refine h.mono (w:=w) (w':={w with drawn:=k}) (J:=J) (J':=J) ?_ (Nat.le_refl _) (fun _ _ h=>h)
  exact fun b hb _=>⟨hb,rfl⟩
 refine⟨h.defers,h.tmps,fun t=>hr (h.env t),fun id o ho=>?_,h.inj,h.dom,h.jok,h.jlt,h.ilt,h.pin,⟨h.kept.size,h.kept.os,h.kept.tape,h.kept.output,h.kept.block⟩,h.hid.step (fun i=>i) (fun _ _ _ h=>h) (fun _ _ _ _ _ _ _ _ e=>e) (Nat.le_refl _) rfl rfl rfl (fun _ _=>rfl) (fun _ _ _=>rfl) (fun _ _ _ _=>rfl) (fun b hb=>hb) (fun id H j hi hx=>by
  obtain⟨s,r,g,_⟩:=h.nl hi;exact hx.2.2.2 _ _ _ hi g),h.laid.mono (fun _ h _=>⟨h,rfl⟩) (Nat.le_refl _)⟩
 obtain⟨b,s,h1,h2,h3⟩:=h.obj id o ho
 refine⟨b,s,h1,?_,h3⟩
 refine h2.mono (w:=w) (w':={w with drawn:=k}) (J:=J) (J':=J) ?_ (Nat.le_refl _) (fun _ _ h=>h) rfl
 exact fun b hb _=>⟨hb,rfl⟩
def pW(nid0:Nat)(its:List DI)(M:Nat→Bool)(id:Nat):Prop:=id<nid0∨∃(j:Nat) (y:DI),its[j]? =some y∧M j=true∧dC nid0 (its.take j)≤id∧id<dC nid0 (its.take j)+y.s.k
variable {P:Program} {Q:Exit→Nat→St→Prop}
theorem JO{ops:Array Oper}(hops:ops=(its.map (·.o)).toArray)(F:qK nid0 st0 its)(hD:∀(i:Nat) (x:DI),its[i]? =some x→za P ops nid0 st0 (its.take i) x.o x.s x.e)
 {M:Nat→Bool} (hcl:∀(j:Nat) (y:DI),its[j]? =some y→M j=true→∀a∈y.s.anc,M a=true) {i:Nat} {x:DI} (hx:its[i]? =some x) (hi:M i=false) (ha:∀a∈x.s.anc,M a=true)
 {M':Nat→Bool} (hM':M' i=true) (hoth:∀j,j≠i→M' j=M j) {c:Ctx} {ρ:Rho} {J:Nat→Prop} {a:Act} {w:World} (hs:Sim c ρ (pW nid0 its M) J (bf M 0 its st0) a w) {K:Act→World→Prop} {R:Exit→Act→World→Prop}
 (hK:∀a' w' ρ' J',Sim c ρ' (pW nid0 its M') J' (bf M' 0 its st0) a' w'→K a' w'):wpOpIn (fen c.rd) 0 P ops R i K a w:=by
 obtain⟨hse,hso⟩:=F.sees hcl hx hi ha
 have hn:=Mo M its 0 st0
 have hrn:(red nid0 st0 (its.take i) x.s).n=st0.n∧(red nid0 st0 (its.take i) x.s).m=st0.m:=⟨rfl,rfl⟩
 -- what the operation sees, as a relation
 have hred:Sim c ρ (pW nid0 its M) J (red nid0 st0 (its.take i) x.s) a w:=by
  refine⟨hs.defers,by rw[hs.tmps,hn.1];exact hrn.1.symm,fun t=>?_,fun id o ho=>hs.obj id o (hso id o ho),fun id id' o o' b s s' h1 h2=>hs.inj id id' o o' b s s' (hso _ _ h1) (hso _ _ h2),hs.dom,hs.jok,hs.jlt,hs.ilt,by have:=hs.pin;rw[hn.2] at this;exact this,hs.kept,hs.hid_of (fun i=>i) (fun id o h=>⟨o,hso id o h,fun _ _ e=>e,rfl⟩) (fun _ _ _ _ _ _ _ _ e=>e) (fun _ h=> .inl h),hs.laid⟩
  rcases hse t with h|h
  ·rw[h];exact .any _
  ·rw[h];exact hs.env t
 have hopi:ops[i]? =some x.o:=by rw[hops];simp[hx]
 have hdst:∀d,x.o.dst=some d→d<(bf M 0 its st0).n:=fun d hd=>by rw[hn.1];exact F.dst i x hx d hd
 have hset:Eqv (bf M' 0 its st0) ((bf M 0 its st0).app x.o.dst x.e):=by
  refine Mk hi hM' hoth its 0 i st0 x (by omega) hx (fun q y hq hlt hM=>?_)
  simp only[Nat.zero_add] at hM
  have hne:i≠q:=by omega
  refine⟨fun t ht=>F.uniq i q x y hx hq hne t ht,fun k hk hk'=>?_⟩
  have hqa:q ∉ x.s.anc:=fun hh=>by have:=(F.anc i x hx q hh).1;omega
  have hiq:i ∉ y.s.anc:=fun hh=>by have:=hcl q y hq hM i hh;rw[hi] at this;cases this
  obtain⟨_,h2,_⟩:=F.un i q x y hx hq hne hqa hiq
  rcases F.keys i x hx k hk with g1|⟨⟨o1,g1⟩,m1⟩
  ·rcases F.keys q y hq k hk' with g2|⟨⟨o2,g2⟩,m2⟩
   ·exact hne (qY hx hq g1 g2)
   ·have hge:nid0≤k:=by
     have:nid0≤dC nid0 (its.take i):=by unfold dC;omega
     omega
    rcases F.new q y hq k o2 g2 with hlt'|⟨b,z,e1,e2,e3⟩
    ·omega
    ·have:=qY hx e2 g1 e3;exact hiq (this▸e1)
  ·rcases F.keys q y hq k hk' with g2|⟨⟨o2,g2⟩,m2⟩
   ·have hge:nid0≤k:=by
     have:nid0≤dC nid0 (its.take q):=by unfold dC;omega
     omega
    rcases F.new i x hx k o1 g1 with hlt'|⟨b,z,e1,e2,e3⟩
    ·omega
    ·have:=qY hq e2 g2 e3;exact hqa (this▸e1)
   ·rcases h2 with h2|h2
    ·rw[h2] at m1;simp at m1
    ·have n1:∃c∈x.s.md,c=2∨c=1∨c=3+k:=by
      rcases m1 with m1|⟨m1,_⟩|m1
      ·exact⟨_,m1,.inl rfl⟩
      ·exact⟨_,m1,.inr (.inl rfl)⟩
      ·exact⟨_,m1,.inr (.inr rfl)⟩
     have n2:∃c∈y.s.md,c=2∨c=1∨c=3+k:=by
      rcases m2 with m2|⟨m2,_⟩|m2
      ·exact⟨_,m2,.inl rfl⟩
      ·exact⟨_,m2,.inr (.inl rfl)⟩
      ·exact⟨_,m2,.inr (.inr rfl)⟩
     obtain⟨c1,a1,b1⟩:=n1
     obtain⟨c2,a2,b2⟩:=n2
     have e1:=h2 c2 a2
     have e2:=e1.2 c1 a1
     omega
 have hDmono:∀id,pW nid0 its M id→pW nid0 its M' id:=by
  rintro id (h|⟨j,y,h1,h2,h3⟩)
  ·exact .inl h
  ·exact .inr ⟨j,y,h1,by rw[hoth j (fun e=>by subst e;rw[hi] at h2;cases h2)];exact h2,h3⟩
 have hfresh:∀id,dC nid0 (its.take i)≤id→id<dC nid0 (its.take i)+x.s.k→¬pW nid0 its M id:=by
  intro id h1 h2 hcon
  rcases hcon with hcon|⟨j,y,g1,g2,g3⟩
  ·have:nid0≤dC nid0 (its.take i):=by unfold dC;omega
   omega
  ·have:=qY hx g1 ⟨h1,h2⟩ g3
   subst this;rw[hi] at g2;cases g2
 have run:OpB P x.o (dC nid0 (its.take i)) x.s.k (red nid0 st0 (its.take i) x.s) x.e→x.o.wpIn (fen c.rd) 0 P a w K R:=fun hopB=>by
  obtain⟨κ,eR,hop,heR,hdr⟩:=hopB
  have hntr:¬tu eR.upd:=JN hdr
  refine hop.at_ hred hfresh (fun v w' ρ' J' p=>hK _ _ ρ' J' ?_)
  have p':LG c (dC nid0 (its.take i)) x.s.k (bf M 0 its st0) eR ρ ρ' J J' w w' v:=
   ⟨p.size,p.os,p.tape,p.output,fun b hb hne _=>p.same b hb (fun id o s hk ho=>hne id o s hk (hso id o ho)) (fun h=>absurd h hntr),p.ρmono,p.ρnew,p.Jmono,fun b hb=>(p.Jnew b hb).imp id (fun h=>h.imp (fun h=>⟨h.1.imp (fun h=>h) (fun h=>absurd h.1 hntr),h.2⟩) (fun⟨id0,o0,s0,k1,k2,k3⟩=>⟨id0,o0,s0,k1,hso _ _ k2,k3⟩)),p.val,fun id o ho=>by
     obtain⟨b,s,h1,h2,h3,h4⟩:=p.obj id o ho
     exact⟨b,s,h1,h2,h3,h4.imp (fun h=>h.imp (fun h=>h) (fun h=>absurd h.1 hntr)) (fun⟨id0,o0,s0,k1,k2,k3⟩=>⟨id0,o0,s0,k1,hso _ _ k2,k3⟩)⟩,p.inj,fun h=>absurd h hntr⟩
  have hflt:Eqv ((bf M 0 its st0).app x.o.dst eR) ((bf M 0 its st0).app x.o.dst x.e):=by
   rw[heR]
   refine Eqv.filt _ fun id o hin hl=>?_
   obtain⟨h1,h2⟩:=uO hin hdr hl
   cases o with
   |none=>cases h2
   |some o=>exact⟨hso id o h1,rfl⟩
  refine Sim.eqv (hflt.trans hset.symm) (hs.app p' hdst (fun id hid=>?_))
  rcases hid with hid|hid
  ·exact hDmono id hid
  ·exact .inr ⟨i,x,hx,hM',hid⟩
 have hstep:=(hD i x hx).2
 unfold wpOpIn
 simp only[hopi]
 cases hg:x.o.guard with
 |none=>
  rw[hg] at hstep
  rw[if_pos (by simp[Region.wanted,hg])]
  exact run hstep
 |some jb=>
  obtain⟨j,b⟩:=jb
  rw[hg] at hstep
  obtain⟨t,h1,h2,h34⟩:=hstep
  have skip:x.e=⟨noV,[]⟩→K (a.put x.o.dst undef) w:=fun he=>by
   refine hK _ _ ρ J ?_
   have hsk:Sim c ρ (pW nid0 its M) J ((bf M 0 its st0).put x.o.dst noV) (a.put x.o.dst undef) w:=hs.skip _ (by
    cases hd:x.o.dst with
    |none=>rfl
    |some d=>simpa[jU] using hdst d hd)
   have e1:(bf M 0 its st0).app x.o.dst x.e=(bf M 0 its st0).put x.o.dst noV:=by rw[he];cases x.o.dst<;>rfl
   rw[e1] at hset
   have hsk':=Sim.eqv hset.symm hsk
   exact⟨hsk'.defers,hsk'.tmps,hsk'.env,hsk'.obj,hsk'.inj,fun id p hp=>hDmono id (hsk'.dom id p hp),hsk'.jok,hsk'.jlt,hsk'.ilt,hsk'.pin,hsk'.kept,hsk'.hid,hsk'.laid⟩
  rcases h34 with⟨b',h3,h4⟩|⟨h3,he⟩
  ·have hy:yielded ops a.tmps j=some b':=qx hred h1 h3 (by rw[hrn.1];exact h2)
   rcases h4 with⟨rfl,hop⟩|⟨hne,he⟩
   ·rw[if_pos (by simp[Region.wanted,hg,hy])]
    exact run hop
   ·rw[if_neg (by simp[Region.wanted,hg,hy];exact hne)]
    exact⟨fun _ _=>trivial,skip he⟩
  ·have hy:yielded ops a.tmps j=none:=Cg hred h1 h3 (by rw[hrn.1];exact h2)
   rw[if_neg (by simp[Region.wanted,hg,hy])]
   exact⟨fun _ _=>trivial,skip he⟩
theorem Mr{ops:Array Oper}(hops:ops=(its.map (·.o)).toArray)(F:qK nid0 st0 its)(hD:∀(i:Nat) (x:DI),its[i]? =some x→za P ops nid0 st0 (its.take i) x.o x.s x.e){c:Ctx} {R:Exit→Act→World→Prop}
 (hfin:∀a w ρ J,Sim c ρ (pW nid0 its fun _=>true) J (bf (fun _=>true) 0 its st0) a w→R .normal a w):
 ∀(fuel:Nat) (listed:Array Bool) (a:Act) (w:World) (ρ:Rho) (J:Nat→Prop),listed.size=its.length→(List.range its.length).countP (fun j=> !listed.getD j false)≤fuel→
  (∀(j:Nat) (y:DI),its[j]? =some y→listed.getD j false=true→∀a∈y.s.anc,listed.getD a false=true)→Sim c ρ (pW nid0 its fun j=>listed.getD j false) J (bf (fun j=>listed.getD j false) 0 its st0) a w→wpAnyIn (fen c.rd) 0 P .any ops R fuel listed a w:=by
 intro fuel
 have hdone:∀(listed:Array Bool),listed.size=its.length→(∀j,j<its.length→listed.getD j false=true)→∀a w ρ J,Sim c ρ (pW nid0 its fun j=>listed.getD j false) J (bf (fun j=>listed.getD j false) 0 its st0) a w→R .normal a w:=by
  intro listed hl hall a w ρ J hs
  refine hfin a w ρ J ?_
  have e1:bf (fun j=>listed.getD j false) 0 its st0=bf (fun _=>true) 0 its st0:=EK its 0 st0 (fun i hi=>by simpa using hall i hi)
  rw[e1] at hs
  refine⟨hs.defers,hs.tmps,hs.env,hs.obj,hs.inj,fun id p hp=>?_,hs.jok,hs.jlt,hs.ilt,hs.pin,hs.kept,hs.hid,hs.laid⟩
  rcases hs.dom id p hp with h|⟨j,y,h1,h2,h3⟩
  ·exact .inl h
  ·exact .inr ⟨j,y,h1,rfl,h3⟩
 have hready:∀(listed:Array Bool),listed.size=its.length→Region.ready .any ops listed=[]→∀j,j<its.length→listed.getD j false=true:=by
  intro listed hl hr j
  induction j using Nat.strongRecOn with
  |_ j ih=>
   intro hj
   refine Classical.byContradiction fun hn=>?_
   have hx:=List.getElem?_eq_getElem hj
   have hm:j∈Region.ready .any ops listed:=by
    rw[mem_ready]
    refine⟨?_,its[j].o,by rw[hops];simp[hj],fun e he hb=>?_⟩
    ·have:listed.getD j false=false:=by simpa using hn
     have hlt:j<listed.size:=by omega
     simpa[Array.getD,hlt] using this
    ·have:=F.down j _ hx e he hb
     exact ih e.on this (by omega)
   rw[hr] at hm;cases hm
 induction fuel with
 |zero=>
  intro listed a w ρ J hl hcnt hcl hs
  have hall:∀j,j<its.length→listed.getD j false=true:=by
   intro j hj
   have h0:(List.range its.length).countP (fun j=> !listed.getD j false)=0:=by omega
   rw[List.countP_eq_zero] at h0
   have:=h0 j (List.mem_range.2 hj)
   simpa using this
  refine⟨?_,hdone listed hl hall a w ρ J hs⟩
  cases hr:Region.ready .any ops listed with
  |nil=>rfl
  |cons i l=>
   have hm:i∈Region.ready .any ops listed:=by rw[hr];exact List.mem_cons_self
   obtain⟨h1,o,h2,_⟩:=mem_ready.1 hm
   have hi:i<its.length:=by have:=(Array.getElem?_eq_some_iff.1 h2).1;rw[hops] at this;simpa using this
   have:=hall i hi
   have hlt:i<listed.size:=by omega
   simp[Array.getD,hlt] at h1 this
   rw[h1] at this;cases this
 |succ fuel ih=>
  intro listed a w ρ J hl hcnt hcl hs
  refine⟨fun hr=>hdone listed hl (hready listed hl hr) a w ρ J hs,fun i hm=>?_⟩
  obtain⟨h1,o,h2,h3⟩:=mem_ready.1 hm
  have hi:i<its.length:=by have:=(Array.getElem?_eq_some_iff.1 h2).1;rw[hops] at this;simpa using this
  have hx:=List.getElem?_eq_getElem hi
  have hilt:i<listed.size:=by omega
  have hio:o=its[i].o:=by rw[hops] at h2;simpa[hi] using h2.symm
  have hfi:listed.getD i false=false:=by simp[Array.getD,hilt] at h1⊢;exact h1
  have hset1:(listed.setIfInBounds i true).getD i false=true:=by simp[Array.getD,hilt]
  have hsetne:∀j,j≠i→(listed.setIfInBounds i true).getD j false=listed.getD j false:=fun j hj=>getD_set_ne false (Ne.symm hj)
  have hanc:∀a∈its[i].s.anc,listed.getD a false=true:=by
   intro q hq
   obtain⟨_,⟨e,he,hb,hor⟩,_⟩:=F.anc i _ hx q hq
   have hon:=h3 e (by rw[hio];exact he) hb
   rcases hor with hor|⟨y,hy,hqy⟩
   ·rw[←hor];exact hon
   ·exact hcl e.on y hy hon q hqy
  refine JO hops F hD hcl hx hfi hanc (M':=fun j=>(listed.setIfInBounds i true).getD j false) hset1 hsetne hs (fun a' w' ρ' J' hs'=>?_)
  refine ih _ a' w' ρ' J' (by simpa using hl) ?_ ?_ hs'
  · -- one fewer is left
   have key:∀(l:List Nat),l.Nodup→i∈l→l.countP (fun j=> !(listed.setIfInBounds i true).getD j false)+1≤l.countP (fun j=> !listed.getD j false):=by
    intro l
    induction l with
    |nil=>intro _ h;cases h
    |cons q l ihl=>
     intro hnd hm
     rw[List.nodup_cons] at hnd
     simp only[List.countP_cons]
     by_cases hq:q=i
     ·subst hq
      have hrest:l.countP (fun j=> !(listed.setIfInBounds q true).getD j false)=l.countP (fun j=> !listed.getD j false):=
       List.countP_congr (fun j hj=>by rw[hsetne j (fun e=>hnd.1 (e▸hj))])
      rw[hrest]
      simp only[hset1,hfi];simp
     ·have hm':i∈l:=by rcases List.mem_cons.1 hm with h|h;exact absurd h.symm hq;exact h
      have:=ihl hnd.2 hm'
      rw[hsetne q hq];omega
   have:=key (List.range its.length) List.nodup_range (List.mem_range.2 hi)
   omega
  ·intro j y hj hlj q hq
   by_cases hji:j=i
   ·subst hji
    rw[hx] at hj;cases hj
    have:=hanc q hq
    by_cases hqi:q=j
    ·subst hqi;exact hset1
    ·rw[hsetne q hqi];exact this
   ·rw[hsetne j hji] at hlj
    have:=hcl j y hj hlj q hq
    by_cases hqi:q=i
    ·subst hqi;exact hset1
    ·rw[hsetne q hqi];exact this
end
end
section
theorem JP{l:List (Oper×Sd)} {n:Nat}(h:xn l n=true){i:Nat}(hi:i<l.length):EH l n i=true:=by
 unfold xn at h
 exact List.all_eq_true.1 h i (List.mem_range.2 hi)
theorem Ms{nid0:Nat} {st0:St} {its:List DI} {l:List (Oper×Sd)}(hl:its.map (fun x=>(x.o,x.s))=l)(hB:xn l st0.n=true)(hbase:∀id o,st0.ob id=some o→id<nid0){P:Program} {ops:Array Oper}
 (hD:∀(i:Nat) (x:DI),its[i]? =some x→za P ops nid0 st0 (its.take i) x.o x.s x.e):qK nid0 st0 its:=by
 have hget:∀{i:Nat} {x:DI},its[i]? =some x→l[i]? =some (x.o,x.s):=fun{i x} h=>by rw[←hl];simp[h]
 have hback:∀{i:Nat} {o:Oper} {s:Sd},l[i]? =some (o,s)→∃x,its[i]? =some x∧x.o=o∧x.s=s:=fun{i o s} h=>by
  rw[←hl,List.getElem?_map] at h
  cases hi:its[i]? with
  |none=>simp[hi] at h
  |some x=>simp[hi] at h;exact⟨x,rfl,h.1,h.2⟩
 have hlen:its.length=l.length:=by rw[←hl];simp
 have hat:∀{i:Nat} {x:DI},its[i]? =some x→(x.o.after.all fun e=> !Region.binds .any e||decide (e.on<i))=true∧
  (x.s.anc.all fun j=>decide (j<i)&&((tO l j).all fun a=>x.s.anc.contains a)&&x.o.after.any fun e=>Region.binds .any e&&(e.on==j||(tO l e.on).contains j))=true∧
  jU st0.n x.o.dst=true∧
  ∀j,j<l.length→(i==j||x.o.dst.isNone||x.o.dst !=afm l j)=true∧(!Hg l i j||
   (Mm x.s.ud (afm l j)&&(x.s.md.isEmpty||(dMd l j).all fun c=>Nat.ble 3 c&&x.s.md.all fun c'=>Nat.ble 3 c'&&c' !=c)&&
     (x.s.f.contains 2||(dMd l j).all fun c=>x.s.f.contains c)))=true:=by
  intro i x hx
  have hi:i<l.length:=by rw[←hlen];exact(List.getElem?_eq_some_iff.1 hx).1
  have:=JP hB hi
  unfold EH at this
  rw[hget hx] at this
  simp only[Bool.and_eq_true] at this
  obtain⟨⟨⟨h1,h2⟩,h3⟩,h4⟩:=this
  refine⟨h1,?_,h3,fun j hj=>?_⟩
  ·rw[List.all_eq_true] at h2⊢
   intro q hq
   have:=h2 q hq
   simpa only[Bool.and_eq_true] using this
  ·have:=List.all_eq_true.1 h4 j (List.mem_range.2 hj)
   simpa only[Bool.and_eq_true] using this
 refine⟨?_,?_,?_,?_,?_,hbase,?_⟩
 ·intro i x hx e he hb
  have:=(hat hx).1
  rw[Array.all_eq_true_iff_forall_mem] at this
  have:=this e he
  simp[hb] at this;exact this
 ·intro i x hx j hj
  have:=List.all_eq_true.1 (hat hx).2.1 j hj
  simp only[Bool.and_eq_true,decide_eq_true_eq] at this
  obtain⟨⟨h1,h2⟩,h3⟩:=this
  refine⟨h1,?_,fun y hy a ha=>?_⟩
  ·rw[Array.any_eq_true'] at h3
   obtain⟨e,he,hor⟩:=h3
   simp only[Bool.and_eq_true,Bool.or_eq_true,beq_iff_eq] at hor
   refine⟨e,he,hor.1,hor.2.imp id (fun hc=>?_)⟩
   unfold tO at hc
   cases hle:l[e.on]? with
   |none=>simp[hle] at hc
   |some p=>
    obtain⟨y,hy,ho,hs⟩:=hback (o:=p.1) (s:=p.2) (by rw[hle])
    refine⟨y,hy,?_⟩
    rw[hs];simpa[hle] using hc
  ·have e1:tO l j=y.s.anc:=by unfold tO;rw[hget hy];rfl
   rw[e1] at h2
   simpa using List.all_eq_true.1 h2 a ha
 ·intro i x hx d hd
  have:=(hat hx).2.2.1
  rw[hd] at this
  simpa[jU] using this
 ·intro i j x y hx hy hne t hxt hyt
  have hj:j<l.length:=by rw[←hlen];exact(List.getElem?_eq_some_iff.1 hy).1
  have:=((hat hx).2.2.2 j hj).1
  have e1:afm l j=y.o.dst:=by unfold afm;rw[hget hy];rfl
  rw[e1,hxt,hyt] at this
  simp[hne] at this
 ·intro i j x y hx hy hne h1 h2
  have hj:j<l.length:=by rw[←hlen];exact(List.getElem?_eq_some_iff.1 hy).1
  have:=((hat hx).2.2.2 j hj).2
  have e1:afm l j=y.o.dst:=by unfold afm;rw[hget hy];rfl
  have e2:dMd l j=y.s.md:=by unfold dMd;rw[hget hy];rfl
  have e3:tO l j=y.s.anc:=by unfold tO;rw[hget hy];rfl
  have e4:tO l i=x.s.anc:=by unfold tO;rw[hget hx];rfl
  have hu:Hg l i j=true:=by
   unfold Hg;rw[e3,e4]
   simp[hne,h1,h2]
  rw[hu,e1,e2] at this
  simp only[Bool.not_true,Bool.false_or,Bool.and_eq_true,Bool.or_eq_true,beq_iff_eq,Nat.ble_eq,bne_iff_ne,or_assoc,and_assoc,List.contains_iff_mem,List.isEmpty_iff,List.all_eq_true] at this
  obtain⟨k1,k2,k3⟩:=this
  refine⟨fun d hd=>?_,k2,?_⟩
  ·rw[hd] at k1;simpa[Mm] using k1
  ·exact k3
 ·intro i x hx id hid
  rcases EJ (hD i x hx).1 id hid with h|⟨h1,h2⟩
  ·exact .inl h
  ·refine .inr ⟨?_,h2⟩
   exact Option.isSome_iff_exists.1 h1
section
variable {P:Program} {Q:Exit→Nat→St→Prop} {nid:Nat}
def qZ(nid:Nat):List (Nat×Option aC)→Bool
 |[]=>true
 |(i,_)::l=>decide (i<nid)&&qZ nid l
theorem Cu{nid:Nat} {l:List (Nat×Option aC)}(h:qZ nid l=true):∀p∈l,p.1<nid:=by
 induction l with
 |nil=>intro p hp;cases hp
 |cons x l ih=>
  obtain⟨i,o⟩:=x
  simp only[qZ,Bool.and_eq_true,decide_eq_true_eq] at h
  intro p hp
  rcases List.mem_cons.1 hp with rfl|hp
  ·exact h.1
  ·exact ih h.2 p hp
theorem dw{id n m:Nat} {env:List (Nat×AV)} {objs:List (Nat×Option aC)} {l:List Oper}(hm:P.follows .mixedOrders=true)(sds:List Sd)(hl:sds.length=l.length)(hB:xn (l.zip sds) n=true)(hlt:qZ nid objs=true)
 (h:DGo P l.toArray nid ⟨n,m,env,objs⟩ (fun its=>Q .normal (dC nid its) (bf (fun _=>true) 0 its ⟨n,m,env,objs⟩)) [] (l.zip sds)):AC P (.region id l.toArray true) Q nid ⟨n,m,env,objs⟩:=fun c ρ J a w hs=>by
 obtain⟨its,h1,h2,h3⟩:=RU _ _ h
 simp only[List.nil_append] at h1 h3
 have hbase:∀id o,(⟨n,m,env,objs⟩:St).ob id=some o→id<nid:=by
  intro id o ho
  unfold St.ob at ho
  cases hk:aS objs id with
  |none=>simp[hk] at ho
  |some x=>exact Cu hlt _ (adC hk)
 have F:=Ms h2 (st0:=⟨n,m,env,objs⟩) hB hbase h3
 have hops:l.toArray=(its.map (·.o)).toArray:=by
  have:its.map (·.o)=l:=by
   have e1:its.map (·.o)=(its.map fun x=>(x.o,x.s)).map (·.1):=by simp
   rw[e1,h2,List.map_fst_zip (by omega)]
  rw[this]
 have hlen:its.length=l.length:=by
  have:=congrArg List.length h2
  simp at this;omega
 refine wpIn_region_any hm ?_
 have hs':=hs.drew (w.drawn+1)
 have hsz:(Array.replicate l.toArray.size false).size=its.length:=by simp[hlen]
 have hf:∀j,(Array.replicate l.toArray.size false).getD j false=false:=by
  intro j;simp only[Array.getD];split<;>simp
 refine Mr hops F h3 (c:=c) (R:=Rk c Q) (fun a w ρ J hs=>⟨_,_,ρ,J,?_,h1⟩) l.toArray.size (Array.replicate l.toArray.size false) a _ ρ J hsz ?_ ?_ ?_
 ·refine⟨hs.defers,hs.tmps,hs.env,hs.obj,hs.inj,fun id p hp=>?_,hs.jok,hs.jlt,hs.ilt,hs.pin,hs.kept,hs.hid,hs.laid⟩
  rcases hs.dom id p hp with hd|⟨j,y,g1,_,g2⟩
  ·show id<dC nid its
   unfold dC;omega
  ·show id<dC nid its
   have hj:=(List.getElem?_eq_some_iff.1 g1).1
   have:=xu nid its hj g1
   rw[List.take_length] at this
   omega
 ·have:(List.range its.length).countP (fun j=> !(Array.replicate l.toArray.size false).getD j false)≤(List.range its.length).length:=List.countP_le_length
  rw[List.length_range] at this
  have e2:l.toArray.size=its.length:=by simp[hlen]
  omega
 ·intro j y _ hj;rw[hf j] at hj;cases hj
 ·have e1:bf (fun j=>(Array.replicate l.toArray.size false).getD j false) 0 its ⟨n,m,env,objs⟩=⟨n,m,env,objs⟩:=by
   have key:∀(l':List DI) (j:Nat) (st:St),bf (fun j=>(Array.replicate l.toArray.size false).getD j false) j l' st=st:=by
    intro l'
    induction l' with
    |nil=>intro j st;rfl
    |cons x l' ih=>intro j st;simp only[bf,hf j,Bool.false_eq_true,if_false];exact ih _ _
   exact key _ _ _
  rw[e1]
  exact⟨hs'.defers,hs'.tmps,hs'.env,hs'.obj,hs'.inj,fun id p hp=> .inl (hs'.dom id p hp),hs'.jok,hs'.jlt,hs'.ilt,hs'.pin,hs'.kept,hs'.hid,hs'.laid⟩
def DOp(P:Program)(ops:Array Oper)(nid0:Nat)(st0:St)(fin:List DI→Prop)(done:List DI)(o:Oper)(s:Sd)(rest:List (Oper×Sd))(nid:Nat)(env:List (Nat×AV))(objs:List (Nat×Option aC)):Prop:=
 match o.guard with
 |none=>∃e,lU nid s.k nid0 s.md objs e.upd∧OpB P o nid s.k ⟨st0.n,st0.m,env,objs⟩ e∧DGo P ops nid0 st0 fin (done++[⟨o,s,e⟩]) rest
 |some (j,b)=>∃t,pV ops j=some t∧t<st0.n∧((∃b',(aS env t).getD .any= .val (.bool b')∧
   ((b'=b∧∃e,lU nid s.k nid0 s.md objs e.upd∧OpB P o nid s.k ⟨st0.n,st0.m,env,objs⟩ e∧DGo P ops nid0 st0 fin (done++[⟨o,s,e⟩]) rest)∨(b'≠b∧DGo P ops nid0 st0 fin (done++[⟨o,s,⟨noV,[]⟩⟩]) rest)))∨
   ((aS env t).getD .any=noV∧DGo P ops nid0 st0 fin (done++[⟨o,s,⟨noV,[]⟩⟩]) rest))
theorem RY{ops:Array Oper} {nid0:Nat} {st0:St} {fin:List DI→Prop} {done:List DI} {o:Oper} {s:Sd} {rest:List (Oper×Sd)}
 (h:∀K:Nat→List (Nat×AV)→List (Nat×Option aC)→Prop,(∀nid env objs,DOp P ops nid0 st0 fin done o s rest nid env objs→K nid env objs)→
   K (dC nid0 done) (nL s.ud (bf (fun j=>s.anc.contains j) 0 done st0).env) (lq s.f nid0 (bf (fun j=>s.anc.contains j) 0 done st0).objs)):DGo P ops nid0 st0 fin done ((o,s)::rest):=by
 have:=h _ (fun _ _ _ h=>h)
 unfold DOp at this
 unfold DGo za
 cases hg:o.guard with
 |none=>
  rw[hg] at this
  obtain⟨e,h1,h2,h3⟩:=this
  exact⟨e,⟨h1,h2⟩,h3⟩
 |some jb=>
  obtain⟨j,b⟩:=jb
  rw[hg] at this
  obtain⟨t,h1,h2,h34⟩:=this
  rcases h34 with⟨b',h3,h4⟩|⟨h3,h5⟩
  ·rcases h4 with⟨h4,e,h5,h6,h7⟩|⟨h4,h5⟩
   ·exact⟨e,⟨h5,t,h1,h2,.inl ⟨b',h3,.inl ⟨h4,h6⟩⟩⟩,h7⟩
   ·exact⟨⟨noV,[]⟩,⟨trivial,t,h1,h2,.inl ⟨b',h3,.inr ⟨h4,rfl⟩⟩⟩,h5⟩
  ·exact⟨⟨noV,[]⟩,⟨trivial,t,h1,h2,.inr ⟨h3,rfl⟩⟩,h5⟩
def Cv:Nat→List DI→Bool
 |_,[]=>true
 |j,x::l=>Nat.beq x.s.i j&&Cv (j+1) l
def dsn(M:Nat→Bool)(l:List DI)(st:St):St:=l.foldl (fun st x=>if M x.s.i then st.app x.o.dst x.e else st) st
theorem zb(M:Nat→Bool)(l:List DI):∀(j:Nat) (st:St),Cv j l=true→bf M j l st=dsn M l st:=by
 induction l with
 |nil=>intro j st _;rfl
 |cons x l ih=>
  intro j st h
  simp only[Cv,Bool.and_eq_true] at h
  have e:x.s.i=j:=Nat.eq_of_beq_eq_true h.1
  simp only[bf,dsn,List.foldl_cons,e]
  exact ih (j+1) _ h.2
def xw(M:Nat→Bool)(l:List DI)(n m:Nat)(env:List (Nat×AV))(objs:List (Nat×Option aC)):List (Nat×AV):=(dsn M l ⟨n,m,env,objs⟩).env
def Cw(M:Nat→Bool)(l:List DI)(n m:Nat)(env:List (Nat×AV))(objs:List (Nat×Option aC)):List (Nat×Option aC):=(dsn M l ⟨n,m,env,objs⟩).objs
section
variable {M:Nat→Bool} {l:List DI} {n m:Nat} {env:List (Nat×AV)} {objs:List (Nat×Option aC)} {d:Nat} {dst:Option Nat} {op:Op} {ty:TypeId} {pos:String} {af:Array Edge} {g:Option (Nat×Bool)} {i k:Nat} {f md anc ud:List Nat} {v:AV} {u:List (Nat×Option aC)}
theorem ig:xw M [] n m env objs=env:=rfl
theorem ik:Cw M [] n m env objs=objs:=rfl
theorem fH:xw M (l++[⟨⟨some d,op,ty,pos,af,g⟩,⟨i,anc,ud,f,md,k⟩,⟨v,u⟩⟩]) n m env objs=if M i=true then(d,v)::xw M l n m env objs else xw M l n m env objs:=by
 unfold xw dsn;rw[List.foldl_append];simp only[List.foldl_cons,List.foldl_nil];split<;>rfl
theorem fI:xw M (l++[⟨⟨none,op,ty,pos,af,g⟩,⟨i,anc,ud,f,md,k⟩,⟨v,u⟩⟩]) n m env objs=xw M l n m env objs:=by
 unfold xw dsn;rw[List.foldl_append];simp only[List.foldl_cons,List.foldl_nil];split<;>rfl
theorem fJ:Cw M (l++[⟨⟨dst,op,ty,pos,af,g⟩,⟨i,anc,ud,f,md,k⟩,⟨v,u⟩⟩]) n m env objs=if M i=true then u++Cw M l n m env objs else Cw M l n m env objs:=by
 unfold Cw dsn;rw[List.foldl_append];simp only[List.foldl_cons,List.foldl_nil];split
 ·cases dst<;>rfl
 ·rfl
theorem fK{nid0:Nat}:dC nid0 []=nid0:=rfl
theorem eT{nid0:Nat} {o:Oper} {e:Eff}:dC nid0 (l++[⟨o,⟨i,anc,ud,f,md,k⟩,e⟩])=dC nid0 l+k:=by
 unfold dC;simp;omega
end
theorem iP{ops:Array Oper} {nid0 n m:Nat} {env0:List (Nat×AV)} {objs0:List (Nat×Option aC)} {fin:List DI→Prop} {done:List DI} {o:Oper} {i k:Nat} {f md anc ud:List Nat} {rest:List (Oper×Sd)}(hi:Cv 0 done=true)
 (h:∀K:Nat→List (Nat×AV)→List (Nat×Option aC)→Prop,(∀nid env objs,DOp P ops nid0 ⟨n,m,env0,objs0⟩ fin done o ⟨i,anc,ud,f,md,k⟩ rest nid env objs→K nid env objs)→
   K (dC nid0 done) (nL ud (xw (fun j=>anc.contains j) done n m env0 objs0)) (lq f nid0 (Cw (fun j=>anc.contains j) done n m env0 objs0))):DGo P ops nid0 ⟨n,m,env0,objs0⟩ fin done ((o,⟨i,anc,ud,f,md,k⟩)::rest):=by
 refine RY (fun K hK=>?_)
 rw[zb _ _ _ _ hi]
 exact h K hK
def aN(P:Program)(ops:Array Oper)(nid0 n m:Nat)(env0:List (Nat×AV))(objs0:List (Nat×Option aC))(fin:List DI→Prop)(done:List DI)(o:Oper)(s:Sd)(rest:List (Oper×Sd))(nid:Nat)(env:List (Nat×AV))(objs:List (Nat×Option aC)):Prop:=
 ∀K:AV→List (Nat×Option aC)→Prop,(∀v u,DGo P ops nid0 ⟨n,m,env0,objs0⟩ fin (done++[⟨o,s,⟨v,u⟩⟩]) rest→K v u)→∃κ,AO P o nid ⟨n,m,env,objs⟩ (fun k e=>k=s.k∧mE objs κ e.upd∧lU nid s.k nid0 s.md objs (jD κ e.upd)∧K e.v (jD κ e.upd))
theorem aJ{ops:Array Oper} {nid0 n m:Nat} {env0:List (Nat×AV)} {objs0:List (Nat×Option aC)} {fin:List DI→Prop} {done:List DI} {o:Oper} {i k:Nat} {f md anc ud:List Nat} {rest:List (Oper×Sd)} {nid:Nat} {env:List (Nat×AV)} {objs:List (Nat×Option aC)}
 (h:∀K:AV→List (Nat×Option aC)→Prop,(∀v u,DGo P ops nid0 ⟨n,m,env0,objs0⟩ fin (done++[⟨o,⟨i,anc,ud,f,md,k⟩,⟨v,u⟩⟩]) rest→K v u)→AO P o nid ⟨n,m,env,objs⟩ (fun k' e=>k'=k∧lU nid k nid0 md objs e.upd∧K e.v e.upd)):
 aN P ops nid0 n m env0 objs0 fin done o ⟨i,anc,ud,f,md,k⟩ rest nid env objs:=fun K hK=>by
 obtain⟨k',e,h1,h2,h3,h4⟩:=h K hK
 exact⟨[],k',e,h1,h2,xq h3,by rw[oH];exact h3,by rw[oH];exact h4⟩
theorem RZ(κ:List Nat){ops:Array Oper} {nid0 n m:Nat} {env0:List (Nat×AV)} {objs0:List (Nat×Option aC)} {fin:List DI→Prop} {done:List DI} {o:Oper} {i k:Nat} {f md anc ud:List Nat} {rest:List (Oper×Sd)} {nid:Nat} {env:List (Nat×AV)} {objs:List (Nat×Option aC)}
 (h:∀K:AV→List (Nat×Option aC)→Prop,(∀v u,DGo P ops nid0 ⟨n,m,env0,objs0⟩ fin (done++[⟨o,⟨i,anc,ud,f,md,k⟩,⟨v,u⟩⟩]) rest→K v u)→AO P o nid ⟨n,m,env,objs⟩ (fun k' e=>k'=k∧mE objs κ e.upd∧lU nid k nid0 md objs (jD κ e.upd)∧K e.v (jD κ e.upd))):
 aN P ops nid0 n m env0 objs0 fin done o ⟨i,anc,ud,f,md,k⟩ rest nid env objs:=fun K hK=>⟨κ,h K hK⟩
theorem pY{ops:Array Oper} {nid0 n m:Nat} {env0:List (Nat×AV)} {objs0:List (Nat×Option aC)} {fin:List DI→Prop} {done:List DI} {dst:Option Nat} {op:Op} {ty:TypeId} {pos:String} {af:Array Edge} {s:Sd} {rest:List (Oper×Sd)} {nid:Nat} {env:List (Nat×AV)} {objs:List (Nat×Option aC)}
 (h:aN P ops nid0 n m env0 objs0 fin done ⟨dst,op,ty,pos,af,none⟩ s rest nid env objs):DOp P ops nid0 ⟨n,m,env0,objs0⟩ fin done ⟨dst,op,ty,pos,af,none⟩ s rest nid env objs:=by
 obtain⟨κ,k,e,h1,h2,h3,h4,h5⟩:=h (fun v u=>DGo P ops nid0 ⟨n,m,env0,objs0⟩ fin (done++[⟨⟨dst,op,ty,pos,af,none⟩,s,⟨v,u⟩⟩]) rest) (fun _ _ h=>h)
 subst h2
 exact⟨⟨e.v,jD κ e.upd⟩,h4,⟨κ,e,h1,rfl,h3⟩,h5⟩
theorem cO{ops:Array Oper} {nid0 n m j t:Nat} {b:Bool} {env0:List (Nat×AV)} {objs0:List (Nat×Option aC)} {fin:List DI→Prop} {done:List DI} {dst:Option Nat} {op:Op} {ty:TypeId} {pos:String} {af:Array Edge} {s:Sd} {rest:List (Oper×Sd)} {nid:Nat} {env:List (Nat×AV)} {objs:List (Nat×Option aC)}
 (ht:pV ops j=some t) (hn:jU n (some t)=true)
 (h:∀K1 K2:Prop,(aN P ops nid0 n m env0 objs0 fin done ⟨dst,op,ty,pos,af,some (j,b)⟩ s rest nid env objs→K1)→
   (DGo P ops nid0 ⟨n,m,env0,objs0⟩ fin (done++[⟨⟨dst,op,ty,pos,af,some (j,b)⟩,s,⟨noV,[]⟩⟩]) rest→K2)→
   gAV b ((aS env t).getD .any) K1 K2):DOp P ops nid0 ⟨n,m,env0,objs0⟩ fin done ⟨dst,op,ty,pos,af,some (j,b)⟩ s rest nid env objs:=by
 have hn':t<n:=by simpa[jU] using hn
 refine⟨t,ht,hn',?_⟩
 rcases h _ _ (fun h=>h) (fun h=>h) with⟨b',hb,h1,h2⟩|⟨hb,h2⟩
 ·refine .inl ⟨b',hb,?_⟩
  by_cases e:b'=b
  ·obtain⟨κ,k,e',h3,h4,h7,h5,h6⟩:=h1 e (fun v u=>DGo P ops nid0 ⟨n,m,env0,objs0⟩ fin (done++[⟨⟨dst,op,ty,pos,af,some (j,b)⟩,s,⟨v,u⟩⟩]) rest) (fun _ _ h=>h)
   subst h4
   exact .inl ⟨e,⟨e'.v,jD κ e'.upd⟩,h5,⟨κ,e',h3,rfl,h7⟩,h6⟩
  ·have e':b'= !b:=by
    clear h h1 h2 hb
    revert e;cases b<;>cases b'<;>simp
   exact .inr ⟨e,h2 e'⟩
 ·exact .inr ⟨hb,h2⟩
theorem kI{ops:Array Oper} {nid0 n m:Nat} {env0:List (Nat×AV)} {objs0:List (Nat×Option aC)} {done:List DI}(hi:Cv 0 done=true)
 (h:∀K:Nat→List (Nat×AV)→List (Nat×Option aC)→Prop,(∀nid env objs,Q .normal nid ⟨n,m,env,objs⟩→K nid env objs)→
   K (dC nid0 done) (xw (fun _=>true) done n m env0 objs0) (Cw (fun _=>true) done n m env0 objs0)):
 DGo P ops nid0 ⟨n,m,env0,objs0⟩ (fun its=>Q .normal (dC nid0 its) (bf (fun _=>true) 0 its ⟨n,m,env0,objs0⟩)) done []:=by
 have:=h (fun nid env objs=>Q .normal nid ⟨n,m,env,objs⟩) (fun _ _ _ h=>h)
 unfold xw Cw at this
 rw[←zb _ _ _ _ hi] at this
 have hn:=Mo (fun _=>true) done 0 ⟨n,m,env0,objs0⟩
 show Q .normal (dC nid0 done) (bf (fun _=>true) 0 done ⟨n,m,env0,objs0⟩)
 have e:bf (fun _=>true) 0 done ⟨n,m,env0,objs0⟩=⟨n,m,(bf (fun _=>true) 0 done ⟨n,m,env0,objs0⟩).env,(bf (fun _=>true) 0 done ⟨n,m,env0,objs0⟩).objs⟩:=by
  generalize bf (fun _=>true) 0 done ⟨n,m,env0,objs0⟩=s at hn
  obtain⟨a,b,c,d⟩:=s
  simp only at hn
  rw[hn.1,hn.2]
 rw[e];exact this
end
end
section
theorem R4{n:Nat} {v:Value}:bnd n (.val v)=True:=by simp[bnd]
theorem R5{n:Nat} {z:Bool} {cs:List AV} {k:Nat}:bnd n (.isl z cs k)=True:=by simp[bnd]
theorem R6{n:Nat} {cs:List AV} {k:Nat}:bnd n (.ipt cs k)=True:=by simp[bnd]
theorem R7{n:Nat}:bnd n .any=True:=by simp[bnd]
theorem XA{n id off len es:Nat}:bnd n (.sl id off len es)=(id<n):=by simp[bnd]
theorem XB{n id off:Nat}:bnd n (.pt id off)=(id<n):=by simp[bnd]
theorem XC{n id:Nat}:bnd n (.mp id)=(id<n):=by simp[bnd]
theorem XD{n id:Nat}:bnd n (.yl id)=(id<n):=by simp[bnd]
theorem R8{n j:Nat} {H:iU}:Aa n (.tr H j)=True:=rfl
theorem R9{n:Nat} {cs:List AV}:bnd n (.agg cs)=∀x∈cs,bnd n x:=by simp[bnd]
theorem Sa{n:Nat} {cs:List AV}:bnd n (.tup cs)=∀x∈cs,bnd n x:=by simp[bnd]
theorem XE{n f:Nat} {cs:List AV}:bnd n (.fn f cs)=∀x∈cs,bnd n x:=by simp[bnd]
theorem EM{n:Nat} {cs:List AV} {e:TypeId}:Aa n (.cells cs e)=∀x∈cs,bnd n x:=rfl
theorem Cx{n k:Nat} {ag:Bool} {l:List (List Int×AV)}:Aa n (.map ag k l)=∀x∈l,bnd n x.2:=rfl
theorem EN{k:Nat} {ag:Bool} {l:List (List Int×AV)}:kH (.map ag k l)=∀x∈l,noImm x.2:=rfl
theorem JQ{v:Value}:noImm (.val v)=True:=by simp[noImm]
theorem JR{z:Bool} {cs:List AV} {k:Nat}:noImm (.isl z cs k)=(cs=[]):=by simp[noImm]
theorem JS{cs:List AV} {k:Nat}:noImm (.ipt cs k)=(cs=[]):=by simp[noImm]
theorem JU:noImm .any=True:=by simp[noImm]
theorem Mt{id off len es:Nat}:noImm (.sl id off len es)=True:=by simp[noImm]
theorem Mv{id off:Nat}:noImm (.pt id off)=True:=by simp[noImm]
theorem Mw{id:Nat}:noImm (.mp id)=True:=by simp[noImm]
theorem Mx{id:Nat}:noImm (.yl id)=True:=by simp[noImm]
theorem JV{j:Nat} {H:iU}:kH (.tr H j)=True:=rfl
theorem JW{cs:List AV}:noImm (.agg cs)=∀x∈cs,noImm x:=by simp[noImm]
theorem JX{cs:List AV}:noImm (.tup cs)=∀x∈cs,noImm x:=by simp[noImm]
theorem MB{f:Nat} {cs:List AV}:noImm (.fn f cs)=∀x∈cs,noImm x:=by simp[noImm]
theorem Af{cs:List AV} {e:TypeId}:kH (.cells cs e)=∀x∈cs,noImm x:=rfl
section
variable {P:Program} {st:St} {a b c d e:ResultVar}
theorem EO:eX P st [a]=eP P st a:=by
 simp only[eX,List.mapM_cons,List.mapM_nil]
 cases eP P st a<;>rfl
theorem EP:eX P st [a,b]=(eP P st a).bind fun x=>(eP P st b).bind fun y=>some (.tup [x,y]):=by
 simp only[eX,List.mapM_cons,List.mapM_nil]
 cases eP P st a<;>cases eP P st b<;>rfl
theorem EQ:eX P st [a,b,c]=(eP P st a).bind fun x=>(eP P st b).bind fun y=>(eP P st c).bind fun z=>some (.tup [x,y,z]):=by
 simp only[eX,List.mapM_cons,List.mapM_nil]
 cases eP P st a<;>cases eP P st b<;>cases eP P st c<;>rfl
theorem ER:eX P st [a,b,c,d]=(eP P st a).bind fun x=>(eP P st b).bind fun y=>(eP P st c).bind fun z=>(eP P st d).bind fun u=>some (.tup [x,y,z,u]):=by
 simp only[eX,List.mapM_cons,List.mapM_nil]
 cases eP P st a<;>cases eP P st b<;>cases eP P st c<;>cases eP P st d<;>rfl
theorem ES:eX P st []=some (.tup []):=rfl
end
def Sb(st:St)(σ:List Nat)(fz:Bool):Option aC→aC
 |some o=>toO st σ fz o
 |none=> .cells [] 0
def aeW(st:St)(σ:List Nat)(fz:Bool)(id:Nat):aC:=Sb st σ fz (aS st.objs id).join
def Cy(st:St):List Nat→Prop
 |[]=>True
 |s::ss=>(aS st.objs s).join.isSome=true∧Cy st ss
theorem tY{st:St} {σ0:List Nat} {fz:Bool}:∀{ss:List Nat},Cy st ss→∀j (h:j<(ss.map (aeW st σ0 fz)).length),∃o,st.ob (ss.getD j 0)=some o∧(ss.map (aeW st σ0 fz))[j]=toO st σ0 fz o
 |[],_,j,h=>by simp at h
 |s::ss,h,j,hj=>by
  cases j with
  |zero=>
   obtain⟨o,ho⟩:=Option.isSome_iff_exists.1 h.1
   refine⟨o,ho,?_⟩
   simp[aeW,ho,Sb]
  |succ j=>exact tY (σ0:=σ0) (fz:=fz) h.2 j (by simpa using hj)
section
variable {P:Program} {dst:Option Nat} {ty:TypeId} {pos:String} {af:Array Edge} {g:Option (Nat×Bool)} {nid:Nat} {K:Nat→Eff→Prop}
def MC(P:Program)(f:FuncId)(σ:List Nat)(m:Nat)(fz:Bool)(nid:Nat)(K:Nat→Eff→Prop)(as:List AV)(os:List aC):Prop:=
 ∃r cobjs',ACall P f as os m r cobjs'∧m≤cobjs'.length∧(fz=true→noImm r∧∀o∈cobjs',kH o)∧trs cobjs'=trs os∧K (cobjs'.length-m) ⟨ren (dZ σ m nid) r,dN σ m nid cobjs'⟩
theorem ah{f:FuncId} {xs:Array Operand} {tys:Array TypeId} {st:St} [hp:gV P f](σ:List Nat)(m:Nat)(fz:Bool)
 (h:Cy st σ∧m≤σ.length∧σ.Nodup∧(∀i∈σ,i<nid)∧
   ∀G:List AV→List aC→Prop,(∀as os,MC P f σ m fz nid K as os→G as os)→G (xs.toList.map fun x=>toA st σ fz 8 (st.op x)) (σ.map (aeW st σ fz))):
 AO P ⟨dst,.call ⟨.value (.func f),xs,tys⟩,ty,pos,af,g⟩ nid st K:=by
 obtain⟨h2,h3,h4,h5,h6⟩:=h
 obtain⟨r,cobjs',hc,hm,hfz,htr,hK⟩:=h6 _ (fun _ _ h=>h)
 exact Xz hc σ fz ⟨by simpa using h3,hm,by simp,h4,h5⟩ (tY h2) rfl (fun hf=>⟨(hfz hf).1,fun j hj=>(hfz hf).2 _ (List.getElem_mem hj)⟩) htr hK
end
section
variable {P:Program} {Q:Exit→Nat→St→Prop} {nid:Nat}
theorem ME{code:Code} {n m:Nat} {env:List (Nat×AV)} {objs:List (Nat×Option aC)}(id:Nat)
 (h:∃cs e,(aS objs id).join=some (.cells cs e)∧(∀x∈cs,bnd 0 x)∧∀K:List (Nat×AV)→List (Nat×Option aC)→Prop,(∀env' objs',AC P code Q nid ⟨n,m,env',objs'⟩→K env' objs')→
   K (env.map fun p=>(p.1,bQ id cs p.2)) ((id,none)::objs.map fun p=>(p.1,p.2.map (vU id cs)))):AC P code Q nid ⟨n,m,env,objs⟩:=fun c ρ J a w hs=>by
 obtain⟨cs,e,h1,h2,h3⟩:=h
 obtain⟨J',hs'⟩:=Frz.one (st:=⟨n,m,env,objs⟩) h1 h2 c ρ _ J a w hs
 exact h3 (fun env' objs'=>AC P code Q nid ⟨n,m,env',objs'⟩) (fun _ _ h=>h) c ρ J' a w hs'
theorem Ends.frz{fn:Func} {objs0:List aC} {m0:Nat} {r:AV} {objs':List aC} {e:Exit} {n m:Nat} {env:List (Nat×AV)} {objs:List (Nat×Option aC)}(id:Nat)
 (h:∃cs e',(aS objs id).join=some (.cells cs e')∧(∀x∈cs,bnd 0 x)∧∀K:List (Nat×AV)→List (Nat×Option aC)→Prop,(∀env' objs'',Ends P fn objs0 m0 r objs' e ⟨n,m,env',objs''⟩→K env' objs'')→
   K (env.map fun p=>(p.1,bQ id cs p.2)) ((id,none)::objs.map fun p=>(p.1,p.2.map (vU id cs)))):Ends P fn objs0 m0 r objs' e ⟨n,m,env,objs⟩:=by
 obtain⟨cs,e',h1,h2,h3⟩:=h
 obtain⟨he,st',σ,hf,h⟩:=h3 (fun env' objs''=>Ends P fn objs0 m0 r objs' e ⟨n,m,env',objs''⟩) (fun _ _ h=>h)
 exact⟨he,st',σ,(Frz.one (st:=⟨n,m,env,objs⟩) h1 h2).trans hf,h⟩
theorem Ends.mk2{fn:Func} {objs0:List aC} {m:Nat} {r:AV} {objs':List aC} {e:Exit} {n:Nat} {env:List (Nat×AV)} {objs:List (Nat×Option aC)}(he:e= .normal∨e= .ret)(σ:List Nat)
 (h:σ.length=objs'.length∧σ.Nodup∧σ.take m=List.range m∧bnd σ.length r∧nK σ ⟨n,m,env,objs⟩ ((idx 0 objs').map fun p=>(p.1,some p.2))∧eX P ⟨n,m,env,objs⟩ fn.results.toList=some (ren (σ.getD · 0) r)):Ends P fn objs0 m r objs' e ⟨n,m,env,objs⟩:=
 Ends.mk' he σ h.1 h.2.2.2.2.1 h.2.1 h.2.2.1 h.2.2.2.2.2 h.2.2.2.1
end
end
