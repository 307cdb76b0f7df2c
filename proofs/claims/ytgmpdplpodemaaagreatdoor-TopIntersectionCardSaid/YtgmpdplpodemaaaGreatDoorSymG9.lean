/- Sym9 Sym10 Sym11. No condition. -/
import Derived.Test.YtgmpdplpodemaaaGreatDoorSymG4
set_option linter.all false
namespace Go.Sy
section
def idx{α:Type}:Nat→List α→List (Nat×α)
 |_,[]=>[]
 |k,x::l=>(k,x)::idx (k+1) l
theorem qV{α:Type}(l:List α):∀(k t:Nat),aS (idx k l) t=if k≤t then l[t-k]? else none:=by
 induction l with
 |nil=>intro k t;simp[idx,aS]
 |cons x l ih=>
  intro k t
  simp only[idx,aS,ih]
  by_cases h:t=k
  ·subst h;simp
  ·rw[if_neg h]
   by_cases h2:k+1≤t
   ·rw[if_pos h2,if_pos (by omega),show t-k=(t-(k+1))+1 by omega];simp
   ·rw[if_neg h2,if_neg (by omega)]
theorem Hd{α:Type} {l:List α} {k:Nat} {p:Nat×α}(h:p∈idx k l):k≤p.1∧l[p.1-k]? =some p.2:=by
 induction l generalizing k with
 |nil=>simp[idx] at h
 |cons x l ih=>
  simp only[idx,List.mem_cons] at h
  rcases h with rfl|h
  ·simp
  ·obtain⟨h1,h2⟩:=ih h
   exact⟨by omega,by rw[show p.1-k=(p.1-(k+1))+1 by omega];simpa using h2⟩
def ni(n m:Nat)(args:List AV)(objs:List aC):St:=⟨n,m,idx 0 args,(idx 0 objs).map fun p=>(p.1,some p.2)⟩
theorem LV{α β:Type}(f:α→β)(l:List (Nat×α))(t:Nat):aS (l.map fun p=>(p.1,f p.2)) t=(aS l t).map f:=by
 induction l with
 |nil=>rfl
 |cons x l ih=>simp only[List.map_cons,aS,ih];split<;>rfl
theorem LX(n m:Nat)(args:List AV)(objs:List aC)(t:Nat):(ni n m args objs).ev t=(args[t]?).getD .any:=by
 simp[ni,St.ev,qV]
theorem nJ(n m:Nat)(args:List AV)(objs:List aC)(t:Nat):(ni n m args objs).ob t=objs[t]? :=by
 simp only[ni,St.ob,LV,qV]
 cases h:objs[t]? <;>simp[h]
theorem Rep.closed{w:World} {J:Nat→Prop} {ρ ρ':Rho} {v:Value} {x:AV}(h:Rep w J ρ v x)(hn:bnd 0 x):Rep w J ρ' v x:=by
 induction h generalizing ρ' with
 |val v=>exact .val v
 |any v=>exact .any v
 |inil=>exact .inil
 |iemp a cap=>exact .iemp a cap
 |isl b off len cap cells u hb hc h0 h1 h2 ih=>exact .isl b off len cap cells u hb hc h0 h1 h2
 |ipt b off k cells u hb h0 h1 h2 ih=>exact .ipt b off k cells u hb h0 h1 h2
 |sl b s id off len es cap h hc hs=>simp[bnd] at hn
 |pt b s id off h=>simp[bnd] at hn
 |mp b s id h=>simp[bnd] at hn
 |yl b s id h=>simp[bnd] at hn
 |agg vs cs hs h ih=>simp only[bnd] at hn;exact .agg vs cs hs (fun j hj=>ih j hj (hn _ (List.getElem_mem hj)))
 |tup vs cs hs h ih=>simp only[bnd] at hn;exact .tup vs cs hs (fun j hj=>ih j hj (hn _ (List.getElem_mem hj)))
 |fn f vs cs hs h ih=>simp only[bnd] at hn;exact .fn f vs cs hs (fun j hj=>ih j hj (hn _ (List.getElem_mem hj)))
def bQ(id:Nat)(cs:List AV):AV→AV
 | .sl i off len es=>if i=id then .isl false ((cs.drop off).take (len*es)) len else .sl i off len es
 | .pt i off=>if i=id then .ipt cs off else .pt i off
 | .agg l=> .agg (l.map (bQ id cs))
 | .tup l=> .tup (l.map (bQ id cs))
 | .fn f l=> .fn f (l.map (bQ id cs))
 | .val v=> .val v
 | .isl z l n=> .isl z l n
 | .ipt l k=> .ipt l k
 | .mp i=> .mp i
 | .yl i=> .yl i
 | .any=> .any
def vU(id:Nat)(cs:List AV):aC→aC
 | .cells l e=> .cells (l.map (bQ id cs)) e
 | .map ag n l=> .map ag n (l.map fun x=>(x.1,bQ id cs x.2))
 | .full l e=> .full (l.map (bQ id cs)) e
 | .tr H j=> .tr H j
def St.frz(id:Nat)(cs:List AV)(st:St):St:=⟨st.n,st.m,st.env.map (fun p=>(p.1,bQ id cs p.2)),(id,none)::st.objs.map fun p=>(p.1,p.2.map (vU id cs))⟩
def Frz(st st':St):Prop:=∀(c:Ctx) (ρ:Rho) (D J:Nat→Prop) (a:Act) (w:World),Sim c ρ D J st a w→∃J',Sim c ρ D J' st' a w
theorem Frz.refl(st:St):Frz st st:=fun _ _ _ J _ _ h=>⟨J,h⟩
theorem Frz.trans{st1 st2 st3:St}(h1:Frz st1 st2)(h2:Frz st2 st3):Frz st1 st3:=fun c ρ D J a w h=>by
 obtain⟨J',h'⟩:=h1 c ρ D J a w h
 exact h2 c ρ D J' a w h'
theorem Ci{β:Type}(f:β→β)(l:List (Nat×β))(t:Nat):aS (l.map fun p=>(p.1,f p.2)) t=(aS l t).map f:=by
 induction l with
 |nil=>rfl
 |cons x l ih=>simp only[List.map_cons,aS,ih];split<;>rfl
theorem Rep.frz{w:World} {J J':Nat→Prop} {ρ:Rho} {id b s:Nat} {cs:List AV} {u:Nat→Value}(hJ:∀b,J b→J' b)(hb:J' b)(hid:ρ id=some (b,s))(hlt:b<w.heap.size)(h0:∀j,j<cs.length→(u j).oneCell'=true)
 (h1:∀j,j<cs.length→w.cell? ⟨b,j,none⟩=some (u j)) (h2:∀j (h:j<cs.length),Rep w J' (fun _=>none) (u j) cs[j]) {v:Value} {x:AV} (h:Rep w J ρ v x):Rep w J' ρ v (bQ id cs x):=by
 have mono:∀{ρ:Rho} {v:Value} {x:AV},Rep w J ρ v x→Rep w J' ρ v x:=fun h=>h.mono (fun b hb _=>⟨hJ b hb,rfl⟩) (Nat.le_refl _) (fun _ _ h=>h)
 induction h with
 |val v=>unfold bQ;exact .val v
 |any v=>unfold bQ;exact .any v
 |inil=>unfold bQ;exact .inil
 |iemp a cap=>unfold bQ;exact .iemp a cap
 |isl b off len cap cells u hb hc k0 k1 k2 ih=>unfold bQ;exact mono (.isl b off len cap cells u hb hc k0 k1 k2)
 |ipt b off k cells u hb k0 k1 k2 ih=>unfold bQ;exact mono (.ipt b off k cells u hb k0 k1 k2)
 |sl b' s' id' off len es cap h hc hs=>
  unfold bQ
  split
  ·rename_i e;subst e
   rw[hid] at h;cases h
   refine .isl b off len cap _ (fun i=>u (off+i)) (fun _=>⟨hb,hlt⟩) hc (fun i hi=>?_) (fun i hi=>?_) (fun i hi=>?_)
   ·simp at hi;exact h0 _ (by omega)
   ·simp at hi;exact h1 _ (by omega)
   ·simp at hi
    have:=h2 (off+i) (by omega)
    simpa using this
  ·exact .sl b' s' id' off len es cap h hc hs
 |pt b' s' id' off h=>
  unfold bQ
  split
  ·rename_i e;subst e
   rw[hid] at h;cases h
   have:=Rep.ipt (w:=w) (J:=J') (ρ:=by assumption) b 0 off cs u (fun _=>⟨hb,hlt⟩) h0 (fun j hj=>by simpa using h1 j hj) h2
   simpa using this
  ·exact .pt b' s' id' off h
 |mp b s id h=>unfold bQ;exact .mp b s id h
 |yl b s id h=>unfold bQ;exact .yl b s id h
 |agg vs cs hs _ ih=>unfold bQ;exact .agg vs _ (by simpa using hs) (fun j hj=>by simpa using ih j (by simpa using hj) hid)
 |tup vs cs hs _ ih=>unfold bQ;exact .tup vs _ (by simpa using hs) (fun j hj=>by simpa using ih j (by simpa using hj) hid)
 |fn f vs cs hs _ ih=>unfold bQ;exact .fn f vs _ (by simpa using hs) (fun j hj=>by simpa using ih j (by simpa using hj) hid)
theorem Frz.one{st:St} {id:Nat} {cs:List AV} {e:TypeId}(ho:st.ob id=some (.cells cs e))(hc:∀x∈cs,bnd 0 x):Frz st (st.frz id cs):=by
 intro c ρ D J a w hs
 obtain⟨b,s,k1,k2,k3,k4⟩:=hs.obj _ _ ho
 obtain⟨u,hu⟩:=gJ k2
 let J':Nat→Prop:=fun b'=>J b'∨b'=b
 have hJ:∀b,J b→J' b:=fun _ h=> .inl h
 have mono:∀{ρ:Rho} {v:Value} {x:AV},Rep w J ρ v x→Rep w J' ρ v x:=fun h=>h.mono (fun b hb _=>⟨hJ b hb,rfl⟩) (Nat.le_refl _) (fun _ _ h=>h)
 have rep:∀{v:Value} {x:AV},Rep w J ρ v x→Rep w J' ρ v (bQ id cs x):=fun h=>
  Rep.frz (u:=u) hJ (.inr rfl) k1 k2.lt (fun j hj=>(hu j hj).2.1) (fun j hj=>(hu j hj).1) (fun j hj=>mono ((hu j hj).2.2.closed (hc _ (List.getElem_mem hj)))) h
 have hob:∀id',(st.frz id cs).ob id'=if id'=id then none else(st.ob id').map (vU id cs):=fun id'=>by
  show(aS ((id,none)::st.objs.map fun p=>(p.1,p.2.map (vU id cs))) id').join=_
  simp only[aS]
  by_cases e:id'=id
  ·simp[e]
  ·rw[if_neg e,if_neg e,Ci (f:=Option.map (vU id cs))]
   unfold St.ob
   cases aS st.objs id' with
   |none=>rfl
   |some o=>cases o<;>rfl
 refine⟨J',hs.defers.same (fun D d1 d2=>⟨rfl,.inl d1⟩),hs.tmps,fun t=>?_,fun id' o hi=>?_,fun i1 i2 o1 o2 b s s' g1 g2 g3 g4=>?_,hs.dom,fun b' hb'=>?_,fun b' hb'=>?_,hs.ilt,hs.pin,hs.kept,
  hs.hid_of (fun i=>i) (fun id' o hi=>?_) (fun _ _ _ _ _ _ _ _ e=>e) (fun b' hb'=>?_),hs.laid.mono (fun b h _=>⟨.inl h,rfl⟩) (Nat.le_refl _)⟩
 ·have:=rep (hs.env t)
  have e:(st.frz id cs).ev t=bQ id cs (st.ev t):=by
   show(aS (st.env.map fun p=>(p.1,bQ id cs p.2)) t).getD .any=_
   rw[Ci]
   unfold St.ev
   cases aS st.env t with
   |none=>simp[bQ]
   |some v=>rfl
  rw[e];exact this
 ·rw[hob] at hi
  split at hi
  ·cases hi
  ·rename_i hne
   cases hk:st.ob id' with
   |none=>rw[hk] at hi;cases hi
   |some o0=>
    rw[hk] at hi;cases hi
    obtain⟨b',s',g1,g2,g3,g4⟩:=hs.obj _ _ hk
    refine⟨b',s',g1,?_,g3,?_⟩
    ·cases o0 with
     |cells l e=>
      obtain⟨c,q1,q2,q3,q4,q5⟩:=g2
      exact⟨c,q1,q2,by simpa using q3,fun j hj=>⟨(q4 j (by simpa using hj)).1,by simpa using rep (q4 j (by simpa using hj)).2⟩,q5⟩
     |map ag kn l=>
      obtain⟨ms,cl,q1,q2,q3⟩:=g2
      exact⟨ms,cl,q1,by simpa using q2,fun j hj=>⟨by simpa using(q3 j (by simpa using hj)).1,by simpa using rep (q3 j (by simpa using hj)).2⟩⟩
     |full l e=>
      obtain⟨c,q1,q2,q3,q4,q5⟩:=g2
      exact⟨c,q1,q2,by simpa using q3,fun j hj=>⟨(q4 j (by simpa using hj)).1,by simpa using rep (q4 j (by simpa using hj)).2⟩,q5⟩
     |tr H j=>exact g2
    ·rintro(h|h)
     ·exact g4 h
     ·subst h;exact hne (hs.inj _ _ _ _ _ _ _ hk ho g1 k1)
 ·rw[hob] at g1 g2
  split at g1
  ·cases g1
  ·split at g2
   ·cases g2
   ·cases h1:st.ob i1 with
    |none=>rw[h1] at g1;cases g1
    |some x1=>cases h2:st.ob i2 with
     |none=>rw[h2] at g2;cases g2
     |some x2=>exact hs.inj _ _ _ _ _ _ _ h1 h2 g3 g4
 ·rcases hb' with h|h
  ·exact hs.jok _ h
  ·subst h;exact .inr k3
 ·rcases hb' with h|h
  ·exact hs.jlt _ h
  ·subst h;exact k2.lt
 ·rw[hob] at hi
  split at hi
  ·cases hi
  ·cases hk:st.ob id' with
   |none=>rw[hk] at hi;cases hi
   |some o0=>
    rw[hk] at hi;cases hi
    refine⟨o0,rfl,fun H j e=>?_,rfl⟩
    cases o0<;>simp[vU] at e⊢
    exact e
 ·rcases hb' with h|h
  ·exact .inl h
  ·subst h;exact .inr ⟨id,_,s,ho,k1⟩
def Ends(P:Program)(fn:Func)(objs:List aC)(m:Nat)(r:AV)(objs':List aC)(e:Exit)(st:St):Prop:=
 (e= .normal∨e= .ret)∧∃(st':St) (σ:List Nat),Frz st st'∧Sub σ ⟨st'.n,st'.m,[],(idx 0 objs').map fun p=>(p.1,some p.2)⟩ st'∧σ.length=objs'.length∧st'.m=m∧
   eX P st' fn.results.toList=some (ren (σ.getD · 0) r)∧bnd σ.length r
section
variable {P:Program}
def IsC(w:World)(b:Nat):Prop:=∃o:Obj,w.heap[b]? =some o∧o.isCells=true
theorem Rep.cut{w:World} {J:Nat→Prop} {ρ:Rho} {v:Value} {x:AV}(h:Rep w J ρ v x):Rep w (fun b=>J b∧IsC w b) ρ v x:=by
 have key:∀{cells:List AV} {b off:Nat} {u:Nat→Value},(cells≠[]→J b∧b<w.heap.size)→(∀j,j<cells.length→w.cell? ⟨b,off+j,none⟩=some (u j))→cells≠[]→(J b∧IsC w b)∧b<w.heap.size:=by
  intro cells b off u hb h1 hne
  refine⟨⟨(hb hne).1,?_⟩,(hb hne).2⟩
  have:=h1 0 (List.length_pos_iff.2 hne)
  exact cells_of_cell this
 induction h with
 |val v=>exact .val v
 |any v=>exact .any v
 |inil=>exact .inil
 |iemp a cap=>exact .iemp a cap
 |isl b off len cap cells u hb hc h0 h1 h2 ih=>exact .isl b off len cap cells u (key hb h1) hc h0 h1 ih
 |ipt b off k cells u hb h0 h1 h2 ih=>exact .ipt b off k cells u (key hb h1) h0 h1 ih
 |sl b s id off len es cap h hc hs=>exact .sl b s id off len es cap h hc hs
 |pt b s id off h=>exact .pt b s id off h
 |mp b s id h=>exact .mp b s id h
 |yl b s id h=>exact .yl b s id h
 |agg vs cs hs h ih=>exact .agg vs cs hs ih
 |tup vs cs hs h ih=>exact .tup vs cs hs ih
 |fn f vs cs hs h ih=>exact .fn f vs cs hs ih
theorem ObjRep.imp{w:World} {J J':Nat→Prop} {ρ:Rho} {b s:Nat} {o:aC}(k:∀{v x},Rep w J ρ v x→Rep w J' ρ v x)(h:ObjRep w J ρ b s o):ObjRep w J' ρ b s o:=by
 cases o with
 |cells cs e=>obtain⟨c,h1,h2,h3,h4,h5⟩:=h;exact⟨c,h1,h2,h3,fun j hj=>⟨(h4 j hj).1,k (h4 j hj).2⟩,h5⟩
 |map ag n l=>obtain⟨ms,cl,h1,h2,h3⟩:=h;exact⟨ms,cl,h1,h2,fun j hj=>⟨(h3 j hj).1,k (h3 j hj).2⟩⟩
 |full cs e=>obtain⟨c,h1,h2,h3,h4,h5⟩:=h;exact⟨c,h1,h2,h3,fun j hj=>⟨(h4 j hj).1,k (h4 j hj).2⟩,h5⟩
 |tr H j=>exact h
theorem He{w:World} {b:Nat} {x:Option (List Deferred)}(h:IsC w b)(k:w.heap[b]? =some (.deferred x)):False:=by
 obtain⟨o,h1,h2⟩:=h;rw[h1] at k;cases k;cases h2
theorem Sim.shut{c:Ctx} {ρ:Rho} {D J:Nat→Prop} {st:St} {a:Act} {w:World} {x:Deferred} {ds:List Deferred}(hs:Sim c ρ D J st a w)(hd:a.defers=x::ds):
 ∃d,x=JA d∧w.heap[d]? =some (.deferred (some []))∧∃J',Sim c ρ D J' st {a with defers:=ds} (w.putObj d (.deferred none)):=by
 obtain⟨⟨l,h1,h2,h3⟩,h4⟩:=hs.defers
 rw[hd] at h1
 cases l with
 |nil=>cases h1
 |cons d l=>
  obtain⟨e1,e2⟩:=List.cons.inj h1
  obtain⟨k1,k2,k3⟩:=h3 d List.mem_cons_self
  obtain⟨n1,n2⟩:=List.nodup_cons.1 h2
  have hg:w.grownBy (w.putObj d (.deferred none)) (some d):=grownBy_putObj' w d _
  have hg':=hg
  let J':Nat→Prop:=fun b=>J b∧b≠d
  have cut:∀{v x},Rep w J ρ v x→Rep w J' ρ v x:=fun h=>h.cut.mono (J':=J') (fun b hb _=>⟨⟨hb.1,fun e=>by subst e;exact He hb.2 k1⟩,rfl⟩) (Nat.le_refl _) (fun _ _ h=>h)
  have hJ:∀b,J' b→b<w.heap.size→J' b∧(w.putObj d (.deferred none)).heap[b]? =w.heap[b]? :=fun b hb _=>⟨hb,World.putObj_heap_other hb.2⟩
  refine⟨d,e1,k1,J',⟨⟨l,e2,n2,fun D hD=>?_⟩,fun l hl=>absurd (hd.symm.trans (h4 l hl).1) (by simp)⟩,hs.tmps,fun t=>(cut (hs.env t)).mono hJ hg.size (fun _ _ h=>h),fun id o ho=>?_,hs.inj,hs.dom,fun b hb=>hs.jok b hb.1,fun b hb=>Nat.lt_of_lt_of_le (hs.jlt b hb.1) hg.size,hs.ilt,hs.pin,
   ⟨Nat.le_trans hs.kept.size hg.size,hs.kept.os,hs.kept.tape,hs.kept.output,fun b hb hI=>?_⟩,?_,fun g kd zs hg=>?_⟩
  ·obtain⟨q1,q2,q3⟩:=h3 D (List.mem_cons_of_mem _ hD)
   have hne:D≠d:=fun e=>by subst e;exact n1 hD
   exact⟨(World.putObj_heap_other hne).trans q1,⟨q2,hne⟩,q3⟩
  ·obtain⟨b,s,q1,q2,q3,q4⟩:=hs.obj id o ho
   exact⟨b,s,q1,(q2.imp cut).mono hJ hg.size (fun _ _ h=>h) (World.putObj_heap_other (fun e=>by subst e;exact q2.not_def k1)),q3,fun h=>q4 h.1⟩
  ·exact(World.putObj_heap_other (fun e=>by subst e;omega)).trans (hs.kept.block b hb hI)
  ·refine hs.hid.step (fun i=>i) (fun id H j h=>h) (fun _ _ _ _ _ _ _ _ e=>e) hg.size rfl rfl rfl (fun b hb=>World.putObj_heap_other (fun e=>by subst e;exact hb.2.2.1 k2)) (fun b hb _=>World.putObj_heap_other (fun e=>by subst e;omega))
    (fun id H j h=>World.putObj_heap_other (fun e=>?_)) (fun b hb=>⟨Nat.lt_of_lt_of_le hb.1 hg.size,hb.2.1,fun hj=>hb.2.2.1 hj.1,hb.2.2.2⟩) (fun id H j h hx=>?_)
   ·obtain⟨s,r,g1,g2,g3,_⟩:=hs.nl h
    exact g3 (e▸k2)
   ·obtain⟨s,r,g1,_⟩:=hs.nl h
    exact hx.2.2.2 _ _ _ h g1
  ·obtain⟨q1,q2,q3⟩:=hs.laid g kd zs hg
   have hne:zs≠[]→g≠d:=fun hz e=>by
    subst e
    exact He (cells_of_cell (q3 0 (List.length_pos_iff.2 hz))) k1
   have hz:zs≠[]:=Rh hg
   refine⟨⟨q1,hne hz⟩,Nat.lt_of_lt_of_le q2 hg'.size,fun i hi=>?_⟩
   rw[World.cell?_of_block (w:=w) (a:=⟨g,i,none⟩) (World.putObj_heap_other (hne hz))];exact q3 i hi
theorem Sim.leave{F:Fence} {n:Nat} {fn:Func} {R:Ending→World→Prop} {c:Ctx} {ρ:Rho} {D:Nat→Prop} {st:St}:∀(ds:List Deferred) (a:Act) (w:World) (J:Nat→Prop),a.defers=ds→Sim c ρ D J st a w→
 (∀a' w' J,a'.tmps=a.tmps→Sim c ρ D J st a' w'→∃v,(results fn a'.tmps).run P w'= .ok v w'∧R (.returned v) w')→LeavesInM F n P fn a.tmps R ds .returning w:=by
 intro ds
 induction ds with
 |nil=>exact fun a w J _ hs k=>k a w J rfl hs
 |cons x ds ih=>
  intro a w J hd hs k
  obtain⟨d,rfl,h1,J',h2⟩:=hs.shut hd
  exact⟨by simp,.inl ⟨d,_,rfl,run_takeDeferred h1,ih {a with defers:=ds} _ J' rfl h2 k⟩⟩
theorem ACall.enter{f:FuncId} {fn:Func} {code:Code} {args:List AV} {objs:List aC} {m:Nat} {r:AV} {objs':List aC}(hf:P.funcs[f]? =some fn)(hb:fn.body=some code)(hn:args.length≤fn.ntmps)(hm:m≤objs.length)
 (h:AC P code (fun e _ st=>Ends P fn objs m r objs' e st) objs.length (ni fn.ntmps m args objs)):ACall P f args objs m r objs':=by
 intro w A I ρ vs hvs hargs hA hI hobj hdom hinj hhid hlaid
 refine(nI (r:=none) (n:=0)).1 (callsIn_of_wp_marks hf hb trivial ?_ rfl)
 let c:Ctx:=⟨w,A,I,ρ,none,fun H=>H∈trs objs⟩
 have hsim:Sim c ρ (· <objs.length) A (ni fn.ntmps m args objs) {tmps:=vs++Array.replicate (fn.ntmps-vs.size) undef,defers:=[]} w:=by
  refine⟨Marks.nil (fun l h=>(by cases h)),?_,?_,?_,?_,fun id p hp=>hdom id p hp,fun b hb=> .inl hb,fun b hb=>(hA b hb).1,hI,?_,⟨Nat.le_refl _,rfl,rfl,rfl,fun _ _ _=>rfl⟩,?_,hlaid⟩
  ·show(vs++Array.replicate (fn.ntmps-vs.size) undef).size=fn.ntmps
   simp;omega
  ·intro t
   rw[LX]
   by_cases ht:t<args.length
   ·rw[List.getElem?_eq_getElem ht]
    have:(vs++Array.replicate (fn.ntmps-vs.size) undef).getD t undef=vs.getD t undef:=by
     have htv:t<vs.size:=by omega
     simp[Array.getD_eq_getD_getElem?,Array.getElem?_append,htv]
    show Rep w A ρ ((vs++Array.replicate (fn.ntmps-vs.size) undef).getD t undef) args[t]
    rw[this];exact hargs t ht
   ·rw[List.getElem?_eq_none (by omega)];exact .any _
  ·intro id o ho
   rw[nJ] at ho
   obtain⟨hlt,rfl⟩:=List.getElem?_eq_some_iff.1 ho
   obtain⟨b,s,h1,h2,h3⟩:=hobj id hlt
   exact⟨b,s,h1,h3,.inl h2,fun hj=>(hA b hj).2 h2⟩
  ·intro id id' o o' b s s' _ _ h1 h2;exact hinj id id' b s s' h1 h2
  ·intro j hj
   have hj:j<m:=hj
   obtain⟨b,s,h1,_⟩:=hobj j (by omega)
   exact⟨_,h1,h1⟩
  ·rw[show(ni fn.ntmps m args objs).ob=fun j=>objs[j]? from funext (nJ _ _ _ _)];exact hhid
 refine wpIn_mono (h c ρ A _ w hsim) ?_
 rintro e a' w' ⟨nid,st0,ρ',J0,hs0,he,st,σ,hfrz,hsub,hl,ht,hr,hbn⟩
 obtain⟨J',hs⟩:=hfrz _ _ _ _ _ _ hs0
 have hres:bodyPostM (fen none) 0 P fn (fun e w'=>∃v ρ' J',e= .returned v∧Rep w' J' ρ' v r∧(∀b,J' b→b<w'.heap.size∧(A b∨I b∨w.heap.size≤b))∧abJ ⟨w,A,I,ρ,none,fun H=>H∈trs objs⟩ w'∧
  (∀j,j<m→ρ' j=ρ j)∧(∀j p,ρ' j=some p→j<objs'.length)∧
  (∀j (h:j<objs'.length),∃b s,ρ' j=some (b,s)∧ObjRep w' J' ρ' b s objs'[j]∧(I b∨w.heap.size≤b)∧¬J' b)∧
  (∀i j b s s',ρ' i=some (b,s)→ρ' j=some (b,s')→i=j)∧Hid ⟨w,A,I,ρ,none,fun H=>H∈trs objs⟩ J' (fun j=>objs'[j]?) ρ' w') .ret a' w':=by
  refine Sim.leave (R:=_) a'.defers a' w' J' rfl hs (fun a' w' J' _ hs=>?_)
  obtain⟨v,hrun,hrep⟩:=afl hs hr
  have hs0:=hsub.sim hs
  refine⟨v,hrun,v,(fun i=>if i<σ.length then ρ' (σ.getD i 0) else none),J',rfl,hrep.unren (n:=σ.length) (fun id hid=>if_pos hid) rfl hbn,fun b hb=>⟨hs.jlt b hb,hs.jok b hb⟩,?_,?_,?_,?_,?_,?_⟩
  ·exact⟨hs.kept.size,hs.kept.os,hs.kept.tape,hs.kept.output,hs.kept.block⟩
  ·intro j hj
   obtain⟨p,h1,h2⟩:=hs0.pin j (by show j<st.m;omega)
   exact h2.trans h1.symm
  ·intro j p hp;rw[←hl];exact hs0.dom j p hp
  ·intro j hj
   have ho:(⟨st.n,st.m,[],(idx 0 objs').map fun p=>(p.1,some p.2)⟩:St).ob j=some objs'[j]:=by
    have:=nJ st.n st.m [] objs' j
    simp only[ni,idx] at this
    rw[this,List.getElem?_eq_getElem hj]
   obtain⟨b,s,h1,h2,h3,h4⟩:=hs0.obj j _ ho
   exact⟨b,s,h1,h2,h3,h4⟩
  ·intro i j b s s' h1 h2
   have hi:=hs0.dom i _ h1;have hj:=hs0.dom j _ h2
   have hob:∀k,k<σ.length→∃o,(⟨st.n,st.m,[],(idx 0 objs').map fun p=>(p.1,some p.2)⟩:St).ob k=some o:=by
    intro k hk
    have:=nJ st.n st.m [] objs' k
    simp only[ni,idx] at this
    rw[this,List.getElem?_eq_getElem (by omega)];exact⟨_,rfl⟩
   obtain⟨o,ho⟩:=hob i hi
   obtain⟨o',ho'⟩:=hob j hj
   exact hs0.inj i j o o' b s s' ho ho' h1 h2
  ·have:=hs0.hid
   rw[show(⟨st.n,st.m,[],(idx 0 objs').map fun p=>(p.1,some p.2)⟩:St).ob=fun j=>objs'[j]? from funext (nJ st.n st.m [] objs')] at this
   exact this
 rcases he with rfl|rfl
 ·exact hres
 ·exact hres
theorem Rep.ren{w:World} {J:Nat→Prop} {ρ ρ':Rho} {τ:Nat→Nat}(hρ:∀id p,ρ id=some p→ρ' (τ id)=some p){v:Value} {x:AV}(h:Rep w J ρ v x):Rep w J ρ' v (Sy.ren τ x):=by
 induction h generalizing ρ' τ with
 |val v=>simp only[Sy.ren];exact .val v
 |any v=>simp only[Sy.ren];exact .any v
 |inil=>simp only[Sy.ren];exact .inil
 |iemp a cap=>simp only[Sy.ren];exact .iemp a cap
 |isl b off len cap cells u hb hc h0 h1 h2 ih=>simp only[Sy.ren];exact .isl b off len cap cells u hb hc h0 h1 h2
 |ipt b off k cells u hb h0 h1 h2 ih=>simp only[Sy.ren];exact .ipt b off k cells u hb h0 h1 h2
 |sl b s id off len es cap h hc hs=>simp only[Sy.ren];exact .sl b s _ off len es cap (hρ _ _ h) hc hs
 |pt b s id off h=>simp only[Sy.ren];exact .pt b s _ off (hρ _ _ h)
 |mp b s id h=>simp only[Sy.ren];exact .mp b s _ (hρ _ _ h)
 |yl b s id h=>simp only[Sy.ren];exact .yl b s _ (hρ _ _ h)
 |agg vs cs hs h ih=>
  simp only[Sy.ren]
  exact .agg vs _ (by simpa using hs) (fun j hj=>by simpa using ih j (by simpa using hj) hρ)
 |tup vs cs hs h ih=>
  simp only[Sy.ren]
  exact .tup vs _ (by simpa using hs) (fun j hj=>by simpa using ih j (by simpa using hj) hρ)
 |fn f vs cs hs h ih=>
  simp only[Sy.ren]
  exact .fn f vs _ (by simpa using hs) (fun j hj=>by simpa using ih j (by simpa using hj) hρ)
theorem ObjRep.ren{w:World} {J:Nat→Prop} {ρ ρ':Rho} {τ:Nat→Nat}(hρ:∀id p,ρ id=some p→ρ' (τ id)=some p){b s:Nat} {o:aC}(h:ObjRep w J ρ b s o):ObjRep w J ρ' b s (pM τ o):=by
 cases o with
 |cells cs e=>
  obtain⟨c,hc,h1,h2,h3,h4⟩:=h
  exact⟨c,hc,h1,by simpa using h2,fun j hj=>by
   have:=h3 j (by simpa using hj)
   exact⟨this.1,by simpa using this.2.ren hρ⟩,h4⟩
 |map ag kn l=>
  obtain⟨ms,k,hc,h1,h2⟩:=h
  exact⟨ms,k,hc,by simpa using h1,fun j hj=>by
   have:=h2 j (by simpa using hj)
   exact⟨by simpa using this.1,by simpa using this.2.ren hρ⟩⟩
 |full cs e=>
  obtain⟨c,hc,h1,h2,h3,h4⟩:=h
  exact⟨c,hc,h1,by simpa using h2,fun j hj=>by
   have:=h3 j (by simpa using hj)
   exact⟨this.1,by simpa using this.2.ren hρ⟩,h4⟩
 |tr H j=>exact h
def noImm:AV→Prop
 | .isl _ cs _=>cs=[]
 | .ipt cs _=>cs=[]
 | .agg cs=>∀x∈cs,noImm x
 | .tup cs=>∀x∈cs,noImm x
 | .fn _ cs=>∀x∈cs,noImm x
 |_=>True
def kH:aC→Prop
 | .cells cs _=>∀x∈cs,noImm x
 | .map _ _ l=>∀x∈l,noImm x.2
 | .full cs _=>∀x∈cs,noImm x
 | .tr _ _=>True
theorem Rep.noImm{w:World} {J J':Nat→Prop} {ρ:Rho} {v:Value} {x:AV}(h:Rep w J ρ v x)(hn:Sy.noImm x):Rep w J' ρ v x:=by
 induction h with
 |val v=>exact .val v
 |any v=>exact .any v
 |inil=>exact .inil
 |iemp a cap=>exact .iemp a cap
 |isl b off len cap cells u hb hc h0 h1 h2 ih=>
  have:cells=[]:=by simpa[Sy.noImm] using hn
  subst this
  exact .isl b off len cap [] u (fun h=>absurd rfl h) hc (fun j hj=>by simp at hj) (fun j hj=>by simp at hj) (fun j hj=>by simp at hj)
 |ipt b off k cells u hb h0 h1 h2 ih=>
  have:cells=[]:=by simpa[Sy.noImm] using hn
  subst this
  exact .ipt b off k [] u (fun h=>absurd rfl h) (fun j hj=>by simp at hj) (fun j hj=>by simp at hj) (fun j hj=>by simp at hj)
 |sl b s id off len es cap h hc hs=>exact .sl b s _ off len es cap h hc hs
 |pt b s id off h=>exact .pt b s _ off h
 |mp b s id h=>exact .mp b s _ h
 |yl b s id h=>exact .yl b s _ h
 |agg vs cs hs h ih=>simp only[Sy.noImm] at hn;exact .agg vs cs hs (fun j hj=>ih j hj (hn _ (List.getElem_mem hj)))
 |tup vs cs hs h ih=>simp only[Sy.noImm] at hn;exact .tup vs cs hs (fun j hj=>ih j hj (hn _ (List.getElem_mem hj)))
 |fn f vs cs hs h ih=>simp only[Sy.noImm] at hn;exact .fn f vs cs hs (fun j hj=>ih j hj (hn _ (List.getElem_mem hj)))
theorem ObjRep.noImm{w:World} {J J':Nat→Prop} {ρ:Rho} {b s:Nat} {o:aC}(h:ObjRep w J ρ b s o)(hn:kH o):ObjRep w J' ρ b s o:=by
 cases o with
 |cells cs e=>
  obtain⟨c,hc,h1,h2,h3,h4⟩:=h
  exact⟨c,hc,h1,h2,fun j hj=>⟨(h3 j hj).1,(h3 j hj).2.noImm (hn _ (List.getElem_mem hj))⟩,h4⟩
 |map ag kn l=>
  obtain⟨ms,k,hc,h1,h2⟩:=h
  exact⟨ms,k,hc,h1,fun j hj=>⟨(h2 j hj).1,(h2 j hj).2.noImm (hn _ (List.getElem_mem hj))⟩⟩
 |full cs e=>
  obtain⟨c,hc,h1,h2,h3,h4⟩:=h
  exact⟨c,hc,h1,h2,fun j hj=>⟨(h3 j hj).1,(h3 j hj).2.noImm (hn _ (List.getElem_mem hj))⟩,h4⟩
 |tr H j=>exact h
def pO:List Nat→Nat→Nat
 |[],_=>0
 |a::l,i=>if i=a then 0 else pO l i+1
def kX:List Nat→Nat→Bool
 |[],_=>false
 |a::l,i=>if i=a then true else kX l i
theorem Cj:∀{σ:List Nat} {i:Nat},kX σ i=true→pO σ i<σ.length∧σ.getD (pO σ i) 0=i
 |[],_,h=>by simp[kX] at h
 |a::l,i,h=>by
  simp only[pO]
  by_cases e:i=a
  ·simp[e]
  ·simp only[kX,if_neg e] at h
   obtain⟨h1,h2⟩:=Cj h
   rw[if_neg e]
   exact⟨by simpa using h1,by simpa[List.getD_eq_getElem?_getD] using h2⟩
theorem xg:∀{σ:List Nat} {i:Nat},kX σ i=false→i ∉ σ
 |[],_,_=>by simp
 |a::l,i,h=>by
  simp only[kX] at h
  split at h
  ·cases h
  ·rename_i e;simp only[List.mem_cons,not_or];exact⟨e,xg h⟩
def dfz(st:St)(σ:List Nat):Nat→AV→AV
 |0,_=> .any
 |k+1,.sl id off len es=>if kX σ id=true then .any else match(aS st.objs id).join with
  |some (.cells cs _)=> .isl false (((cs.drop off).take (len*es)).map (dfz st σ k)) len
  |_=> .any
 |k+1,.pt id off=>if kX σ id=true then .any else match(aS st.objs id).join with
  |some (.cells cs _)=> .ipt (cs.map (dfz st σ k)) off
  |_=> .any
 |_+1,.mp _=> .any
 |_+1,.yl _=> .any
 |k+1,.agg l=> .agg (l.map (dfz st σ k))
 |k+1,.tup l=> .tup (l.map (dfz st σ k))
 |k+1,.fn f l=> .fn f (l.map (dfz st σ k))
 |_+1,.val v=> .val v
 |_+1,.isl z l n=> .isl z l n
 |_+1,.ipt l n=> .ipt l n
 |_+1,.any=> .any
def toA(st:St)(σ:List Nat)(fz:Bool):Nat→AV→AV
 |0,_=> .any
 |k+1,.sl id off len es=>if kX σ id=true then .sl (pO σ id) off len es else if fz=true then dfz st σ k (.sl id off len es) else .any
 |k+1,.pt id off=>if kX σ id=true then .pt (pO σ id) off else if fz=true then dfz st σ k (.pt id off) else .any
 |_+1,.mp id=>if kX σ id=true then .mp (pO σ id) else .any
 |_+1,.yl id=>if kX σ id=true then .yl (pO σ id) else .any
 |k+1,.agg l=> .agg (l.map (toA st σ fz k))
 |k+1,.tup l=> .tup (l.map (toA st σ fz k))
 |k+1,.fn f l=> .fn f (l.map (toA st σ fz k))
 |_+1,.val v=> .val v
 |_+1,.isl z l n=> .isl z l n
 |_+1,.ipt l n=> .ipt l n
 |_+1,.any=> .any
def toO(st:St)(σ:List Nat)(fz:Bool):aC→aC
 | .cells cs e=> .cells (cs.map (toA st σ fz 8)) e
 | .map ag n l=> .map ag n (l.map fun x=>(x.1,toA st σ fz 8 x.2))
 | .full cs e=> .full (cs.map (toA st σ fz 8)) e
 | .tr H j=> .tr H j
section
variable {c:Ctx} {ρ ρc:Rho} {D J A:Nat→Prop} {st:St} {a:Act} {w:World} {σ:List Nat} {fz:Bool}
theorem Hf(hs:Sim c ρ D J st a w)(hJ:∀b,J b→b<w.heap.size→A b)(hA:∀id o b s,st.ob id=some o→ρ id=some (b,s)→id ∉ σ→b<w.heap.size→A b):
 ∀(k:Nat) (v:Value) (x:AV),Rep w J ρ v x→Rep w A (fun _=>none) v (dfz st σ k x):=by
 intro k
 induction k with
 |zero=>intro v x _;unfold dfz;exact .any _
 |succ k ih=>
  intro v x h
  have mono:∀{ρ:Rho} {v:Value} {x:AV},Rep w J ρ v x→Rep w A ρ v x:=fun h=>h.mono (fun b hb hlt=>⟨hJ b hb hlt,rfl⟩) (Nat.le_refl _) (fun _ _ h=>h)
  cases h with
  |val v=>unfold dfz;exact .val v
  |any v=>unfold dfz;exact .any v
  |inil=>unfold dfz;exact .inil
  |iemp a cap=>unfold dfz;exact .iemp a cap
  |isl b off len cap cells u hb hc h0 h1 h2=>unfold dfz;exact mono (.isl b off len cap cells u hb hc h0 h1 h2)
  |ipt b off k cells u hb h0 h1 h2=>unfold dfz;exact mono (.ipt b off k cells u hb h0 h1 h2)
  |mp=>unfold dfz;exact .any _
  |yl=>unfold dfz;exact .any _
  |agg vs cs hs' h=>unfold dfz;exact .agg vs _ (by simpa using hs') (fun j hj=>by have:=ih _ _ (h j (by simpa using hj));simpa using this)
  |tup vs cs hs' h=>unfold dfz;exact .tup vs _ (by simpa using hs') (fun j hj=>by have:=ih _ _ (h j (by simpa using hj));simpa using this)
  |fn f vs cs hs' h=>unfold dfz;exact .fn f vs _ (by simpa using hs') (fun j hj=>by have:=ih _ _ (h j (by simpa using hj));simpa using this)
  |sl b s id off len es cap h hc hsz=>
   unfold dfz
   split
   ·exact .any _
   ·rename_i hn
    split
    ·rename_i cs e ho
     have ho':st.ob id=some (.cells cs e):=ho
     obtain⟨b',s',k1,k2,_⟩:=hs.obj _ _ ho'
     rw[h] at k1;cases k1
     obtain⟨u,hu⟩:=gJ k2
     have hid:id ∉ σ:=xg (by simpa using hn)
     refine .isl b off len cap _ (fun i=>u (off+i)) (fun _=>⟨hA _ _ _ _ ho' h hid k2.lt,k2.lt⟩) hc (fun i hi=>?_) (fun i hi=>?_) (fun i hi=>?_)
     ·simp at hi;exact(hu (off+i) (by omega)).2.1
     ·simp at hi;exact(hu (off+i) (by omega)).1
     ·simp at hi
      have:=ih _ _ (hu (off+i) (by omega)).2.2
      simpa using this
    ·exact .any _
  |pt b s id off h=>
   unfold dfz
   split
   ·exact .any _
   ·rename_i hn
    split
    ·rename_i cs e ho
     have ho':st.ob id=some (.cells cs e):=ho
     obtain⟨b',s',k1,k2,_⟩:=hs.obj _ _ ho'
     rw[h] at k1;cases k1
     obtain⟨u,hu⟩:=gJ k2
     have hid:id ∉ σ:=xg (by simpa using hn)
     have:=Rep.ipt (w:=w) (J:=A) (ρ:=fun _=>none) b 0 off (cs.map (dfz st σ k)) u (fun _=>⟨hA _ _ _ _ ho' h hid k2.lt,k2.lt⟩) (fun i hi=>?_) (fun i hi=>?_) (fun i hi=>?_)
     ·simpa using this
     ·simp at hi;exact(hu i hi).2.1
     ·simp at hi;simpa using(hu i hi).1
     ·simp at hi
      have:=ih _ _ (hu i hi).2.2
      simpa using this
    ·exact .any _
theorem wh(hs:Sim c ρ D J st a w)(hρ:∀id,kX σ id=true→ρc (pO σ id)=ρ id)(hJ:∀b,J b→b<w.heap.size→A b)(hA:fz=true→∀id o b s,st.ob id=some o→ρ id=some (b,s)→id ∉ σ→b<w.heap.size→A b):
 ∀(k:Nat) (v:Value) (x:AV),Rep w J ρ v x→Rep w A ρc v (toA st σ fz k x):=by
 intro k
 induction k with
 |zero=>intro v x _;unfold toA;exact .any _
 |succ k ih=>
  intro v x h
  have mono:∀{v:Value} {x:AV},Rep w J (fun _=>none) v x→Rep w A ρc v x:=fun h=>(h.up (ρ:=ρc)).mono (fun b hb hlt=>⟨hJ b hb hlt,rfl⟩) (Nat.le_refl _) (fun _ _ h=>h)
  cases h with
  |val v=>unfold toA;exact .val v
  |any v=>unfold toA;exact .any v
  |inil=>unfold toA;exact .inil
  |iemp a cap=>unfold toA;exact .iemp a cap
  |isl b off len cap cells u hb hc h0 h1 h2=>unfold toA;exact mono (.isl b off len cap cells u hb hc h0 h1 h2)
  |ipt b off k cells u hb h0 h1 h2=>unfold toA;exact mono (.ipt b off k cells u hb h0 h1 h2)
  |mp b s id h=>
   unfold toA
   split
   ·rename_i hn;exact .mp b s _ ((hρ id hn).trans h)
   ·exact .any _
  |yl b s id h=>
   unfold toA
   split
   ·rename_i hn;exact .yl b s _ ((hρ id hn).trans h)
   ·exact .any _
  |agg vs cs hs' h=>unfold toA;exact .agg vs _ (by simpa using hs') (fun j hj=>by have:=ih _ _ (h j (by simpa using hj));simpa using this)
  |tup vs cs hs' h=>unfold toA;exact .tup vs _ (by simpa using hs') (fun j hj=>by have:=ih _ _ (h j (by simpa using hj));simpa using this)
  |fn f vs cs hs' h=>unfold toA;exact .fn f vs _ (by simpa using hs') (fun j hj=>by have:=ih _ _ (h j (by simpa using hj));simpa using this)
  |sl b s id off len es cap h hc hsz=>
   unfold toA
   split
   ·rename_i hn;exact .sl b s _ off len es cap ((hρ id hn).trans h) hc hsz
   ·split
    ·rename_i hf;exact(Hf hs hJ (hA hf) k _ _ (.sl b s id off len es cap h hc hsz)).up
    ·exact .any _
  |pt b s id off h=>
   unfold toA
   split
   ·rename_i hn;exact .pt b s _ off ((hρ id hn).trans h)
   ·split
    ·rename_i hf;exact(Hf hs hJ (hA hf) k _ _ (.pt b s id off h)).up
    ·exact .any _
theorem Rp(hs:Sim c ρ D J st a w)(hρ:∀id,kX σ id=true→ρc (pO σ id)=ρ id)(hJ:∀b,J b→b<w.heap.size→A b)(hA:fz=true→∀id o b s,st.ob id=some o→ρ id=some (b,s)→id ∉ σ→b<w.heap.size→A b)
 {b s:Nat} {o:aC} (h:ObjRep w J ρ b s o):ObjRep w A ρc b s (toO st σ fz o):=by
 cases o with
 |cells cs e=>
  obtain⟨c,hc,h1,h2,h3,h4⟩:=h
  exact⟨c,hc,h1,by simpa using h2,fun j hj=>by
   have:=h3 j (by simpa using hj)
   exact⟨this.1,by simpa using wh hs hρ hJ hA 8 _ _ this.2⟩,h4⟩
 |map ag kn l=>
  obtain⟨ms,k,hc,h1,h2⟩:=h
  exact⟨ms,k,hc,by simpa using h1,fun j hj=>by
   have:=h2 j (by simpa using hj)
   exact⟨by simpa using this.1,by simpa using wh hs hρ hJ hA 8 _ _ this.2⟩⟩
 |full cs e=>
  obtain⟨c,hc,h1,h2,h3,h4⟩:=h
  exact⟨c,hc,h1,by simpa using h2,fun j hj=>by
   have:=h3 j (by simpa using hj)
   exact⟨this.1,by simpa using wh hs hρ hJ hA 8 _ _ this.2⟩,h4⟩
 |tr H j=>exact h
end
def dZ(σ:List Nat)(m nid:Nat)(j:Nat):Nat:=if j<m then σ.getD j 0 else nid+(j-m)
def dN(σ:List Nat)(m nid:Nat)(objs':List aC):List (Nat×Option aC):=
 (idx 0 objs').map (fun p=>(dZ σ m nid p.1,some (pM (dZ σ m nid) p.2)))++(σ.drop m).map fun i=>(i,none)
def mD(P:Program)(f:FuncId):Bool:=match P.funcs[f]? with
 |some fn=>fn.name != "runtime.NumGoroutine" &&fn.body.isSome
 |none=>false
theorem xh{f:FuncId}(h:mD P f=true)(vs:Array Value)(w:World):(callFunc f vs).run P w= .ok (.enter f vs) w:=by
 unfold mD at h
 split at h
 ·rename_i fn hf
  simp only[Bool.and_eq_true,bne_iff_ne,ne_eq] at h
  have h2:fn.body.isNone=false:=by cases hb:fn.body<;>simp[hb] at h⊢
  have h3:fn.body≠none:=by intro e;simp[e] at h2
  simp[callFunc,hf,h.1,h3]
 ·cases h
theorem y7{o:Oper} {nid:Nat} {st:St} {f:FuncId} {xvs:List AV}
 {cargs:List AV} {cobjs:List aC} {m:Nat} {r:AV} {cobjs':List aC} (hc:ACall P f cargs cobjs m r cobjs') (σ:List Nat) (fz:Bool) (hm:m≤cobjs.length) (hm':m≤cobjs'.length)
 (hexec:∀(c:Ctx) (ρ:Rho) (D J:Nat→Prop) (a:Act) (w:World),Sim c ρ D J st a w→∃vs:Array Value,(execOp a.eval o).run P w= .ok (.enter f vs) w∧vs.size=xvs.length∧∀j (h:j<xvs.length),Rep w J ρ (vs.getD j undef) xvs[j])
 (hσ:σ.length=cobjs.length) (hnd:σ.Nodup) (hlt:∀i∈σ,i<nid)
 (hob:∀j (h:j<cobjs.length),∃o,st.ob (σ.getD j 0)=some o∧cobjs[j]=toO st σ fz o)
 (hargs:cargs=xvs.map (toA st σ fz 8))
 (hfz:fz=true→noImm r∧∀j (h:j<cobjs'.length),kH cobjs'[j]) (htr:trs cobjs'=trs cobjs):
 OpT P o nid (cobjs'.length-m) st ⟨ren (dZ σ m nid) r,dN σ m nid cobjs'⟩:=by
 intro c ρ D J a w hs hD _ K Q hK
 obtain⟨vs,hrun,hvl,hvr⟩:=hexec c ρ D J a w hs
 -- the callee's view
 let ρc:Rho:=fun j=>if j<σ.length then ρ (σ.getD j 0) else none
 let T:Prop:=∃H,H∈trs cobjs
 let X:Nat→Prop:=Xm c J st.ob ρ w
 let I:Nat→Prop:=fun b=>(∃j s,j<σ.length∧ρ (σ.getD j 0)=some (b,s))∨(T∧X b)
 let A:Nat→Prop:=fun b=>(J b∨(fz=true∧∃id o s,st.ob id=some o∧ρ id=some (b,s)∧id ∉ σ))∧b<w.heap.size
 have hmem:∀j,j<σ.length→σ.getD j 0∈σ:=fun j hj=>by simp[List.getD_eq_getElem?_getD,hj]
 have hown:∀j,j<σ.length→∃o b s,st.ob (σ.getD j 0)=some o∧ρ (σ.getD j 0)=some (b,s)∧ObjRep w J ρ b s o∧¬J b:=fun j hj=>by
  obtain⟨o,h1,_⟩:=hob j (by omega)
  obtain⟨b,s,k1,k2,_,k3⟩:=hs.obj _ _ h1
  exact⟨_,b,s,h1,k1,k2,k3⟩
 have hτ:∀id,id<σ.length→ρc id=ρ (σ.getD id 0):=fun id hid=>if_pos hid
 have hτ':∀id,kX σ id=true→ρc (pO σ id)=ρ id:=fun id hn=>by
  obtain⟨h1,h2⟩:=Cj hn
  rw[hτ _ h1,h2]
 have hJA:∀b,J b→b<w.heap.size→A b:=fun b hb hlt=>⟨.inl hb,hlt⟩
 have hOA:fz=true→∀id o b s,st.ob id=some o→ρ id=some (b,s)→id ∉ σ→b<w.heap.size→A b:=fun hf id o b s h1 h2 h3 h4=>⟨.inr ⟨hf,id,o,s,h1,h2,h3⟩,h4⟩
 have hlen:xvs.length=cargs.length:=by rw[hargs];simp
 have hargv:∀j (h:j<cargs.length),Rep w A ρc (vs.getD j undef) cargs[j]:=by
  intro j hj
  subst hargs
  have:=wh (fz:=fz) hs hτ' hJA hOA 8 _ _ (hvr j (by simpa using hj))
  simpa using this
 -- the call
 have hA:∀b,A b→b<w.heap.size∧¬I b:=by
  rintro b ⟨h1,h2⟩
  refine⟨h2,?_⟩
  rintro(⟨j,s,hj,hr⟩|⟨_,hx⟩)
  ·obtain⟨o,b',s',k1,k2,k3,k4⟩:=hown j hj
   rw[hr] at k2;cases k2
   rcases h1 with h1|⟨_,id,o2,s2,q1,q2,q3⟩
   ·exact k4 h1
   ·have:=hs.inj _ _ _ _ b s s2 k1 q1 hr q2
    exact q3 (this▸hmem j hj)
  ·rcases h1 with h1|⟨_,id,o2,s2,q1,q2,q3⟩
   ·exact hx.2.2.1 h1
   ·exact hx.2.2.2 _ _ _ q1 q2
 have hI:∀b,I b→b<w.heap.size:=by
  rintro b (⟨j,s,hj,hr⟩|⟨_,hx⟩)
  ·obtain⟨o,b',s',k1,k2,k3,k4⟩:=hown j hj
   rw[hr] at k2;cases k2;exact k3.lt
  ·exact hx.1
 have hIc:∀b,I b→(c.I b∨c.w0.heap.size≤b)∧¬J b:=by
  rintro b (⟨j,s,hj,hr⟩|⟨_,hx⟩)
  ·obtain⟨o,h1,_⟩:=hob j (by omega)
   obtain⟨b',s',k1,_,k2,k3⟩:=hs.obj _ _ h1
   rw[hr] at k1;cases k1;exact⟨k2,k3⟩
  ·exact⟨hx.2.1,hx.2.2.1⟩
 have hρc:∀{j p},ρc j=some p→j<σ.length:=fun{j p} h=>by
  refine Classical.byContradiction fun hn=>?_
  have:ρc j=none:=if_neg hn
  rw[this] at h;cases h
 have htr0:∀{j H k},cobjs[j]? =some (.tr H k)→j<σ.length∧st.ob (σ.getD j 0)=some (.tr H k)∧T:=fun{j H k} h=>by
  obtain⟨h1,h2⟩:=List.getElem?_eq_some_iff.1 h
  obtain⟨o,h3,h4⟩:=hob j h1
  refine⟨by omega,?_,H,adJ.2 ⟨k,h2▸List.getElem_mem h1⟩⟩
  rw[h3]
  rw[h2] at h4
  cases o<;>simp[toO] at h4⊢
  exact⟨h4.1.symm,h4.2.symm⟩
 have hσinj:∀{i j},i<σ.length→j<σ.length→σ.getD i 0=σ.getD j 0→i=j:=fun{i j} hi hj this=>by
  simp only[List.getD_eq_getElem?_getD,List.getElem?_eq_getElem hi,List.getElem?_eq_getElem hj,Option.getD_some] at this
  exact(List.getElem_inj hnd).1 this
 have hentry:Hid ⟨w,A,I,ρc,none,fun H=>H∈trs cobjs⟩ A (fun j=>cobjs[j]?) ρc w:=by
  refine⟨fun i j H H' k k' h1 h2=>?_,fun j H k h=>?_⟩
  ·obtain⟨g1,g2,_⟩:=htr0 h1;obtain⟨g3,g4,_⟩:=htr0 h2
   exact hσinj g1 g3 (hs.hid.one _ _ _ _ _ _ g2 g4)
  ·obtain⟨g1,g2,g3⟩:=htr0 h
   obtain⟨k1,k2,_⟩:=hs.hid.on _ _ _ g2
   obtain⟨s,r,q1,q2,q3,q4⟩:=hs.nl g2
   have hB:∀b,H.B b→¬I b:=fun b hb hi=>by
    have:=k2 b hb
    rcases(hIc b hi).1 with h|h
    ·exact this.2 h
    ·omega
   refine⟨H.keep k1 (Nat.le_refl _) rfl rfl rfl (fun _ _=>rfl) (fun b hb=>⟨hb.1,.inl (.inr ⟨g3,hb⟩),fun ha=>(hA b ha).2 (.inr ⟨g3,hb⟩),fun i o s' hi hr=>?_⟩) (fun b hb=>⟨hb.1,fun hB'=>?_,fun e=>?_⟩),fun b hb=>⟨Nat.lt_of_lt_of_le (k2 b hb).1 hs.kept.size,hB b hb⟩,adJ.2 ⟨k,List.mem_of_getElem? h⟩⟩
   ·have hi':=hρc hr
    obtain⟨o,b',s',q1,q2,_⟩:=hown i hi'
    rw[hτ i hi'] at hr
    exact hb.2.2.2 _ _ _ q1 hr
   ·rcases hb.2.1 with h|h
    ·exact hB b hB' h
    ·have:=hb.1;have h:w.heap.size≤b:=h;omega
   ·subst e;exact hb.2.2.2 j _ s h ((hτ j g1).trans q1)
 have hcall:=hc w A I ρc vs (by rw[hvl];exact hlen) hargv hA hI (fun j hj=>by
  obtain⟨o,h1,h2⟩:=hob j hj
  obtain⟨b,s,k1,k2,_,k3⟩:=hs.obj _ _ h1
  exact⟨b,s,(hτ j (by omega)).trans k1,.inl ⟨j,s,by omega,k1⟩,h2▸Rp (fz:=fz) hs hτ' hJA hOA k2⟩) (fun j p hj=>by
  refine Classical.byContradiction fun hn=>?_
  have:ρc j=none:=if_neg (by omega)
  rw[this] at hj;cases hj) (fun i j b s s' h1 h2=>by
  have hi:i<σ.length:=by
   refine Classical.byContradiction fun hn=>?_
   have:ρc i=none:=if_neg hn
   rw[this] at h1;cases h1
  have hj:j<σ.length:=by
   refine Classical.byContradiction fun hn=>?_
   have:ρc j=none:=if_neg hn
   rw[this] at h2;cases h2
  rw[hτ i hi] at h1;rw[hτ j hj] at h2
  obtain⟨o,b1,s1,k1,_⟩:=hown i hi
  obtain⟨o',b2,s2,k2,_⟩:=hown j hj
  have:=hs.inj _ _ _ _ b s s' k1 k2 h1 h2
  simp only[List.getD_eq_getElem?_getD,List.getElem?_eq_getElem hi,List.getElem?_eq_getElem hj,Option.getD_some] at this
  exact(List.getElem_inj hnd).1 this) hentry (hs.laid.mono (fun b hb hlt=>⟨hJA b hb hlt,rfl⟩) (Nat.le_refl _))
 refine Et hrun (Calls.mono hcall ?_)
 rintro e w' ⟨v,ρ',J',rfl,hv,hJ',hkept,hpin,hdom',hobj',hinj',hhid'⟩
 refine⟨v,rfl,?_⟩
 -- back at the caller
 let ρn:Rho:=fun i=>if nid≤i∧i<nid+(cobjs'.length-m) then ρ' (i-nid+m) else ρ i
 let Jn:Nat→Prop:=fun b=>J b∨(J' b∧(I b∨w.heap.size≤b))
 have hfresh:∀i p,ρ i=some p→¬(nid≤i∧i<nid+(cobjs'.length-m)):=fun i p hi hcon=>hD i hcon.1 hcon.2 (hs.dom i p hi)
 have hρmono:∀i p,ρ i=some p→ρn i=some p:=fun i p hi=>by
  show(if nid≤i∧i<nid+(cobjs'.length-m) then ρ' (i-nid+m) else ρ i)=some p
  rw[if_neg (hfresh i p hi)];exact hi
 have hout:∀j p,ρ' j=some p→ρn (dZ σ m nid j)=some p:=by
  intro j p hj
  have hjl:=hdom' j p hj
  unfold dZ
  by_cases h1:j<m
  ·rw[if_pos h1]
   have:=hpin j h1
   rw[hj,hτ j (by omega)] at this
   exact hρmono _ _ this.symm
  ·rw[if_neg h1]
   show(if nid≤nid+(j-m)∧nid+(j-m)<nid+(cobjs'.length-m) then ρ' (nid+(j-m)-nid+m) else ρ (nid+(j-m)))=some p
   rw[if_pos (by omega),show nid+(j-m)-nid+m=j by omega];exact hj
 have hsame:∀b,b<w.heap.size→¬I b→w'.heap[b]? =w.heap[b]? :=fun b hb hn=>hkept.block b hb hn
 have conv:∀{v x},Rep w' J' ρ' v x→(fz=true→noImm x)→Rep w' Jn ρn v (ren (dZ σ m nid) x):=by
  intro v x h hn
  refine Rep.ren hout ?_
  cases hfz':fz with
  |true=>exact h.noImm (hn hfz')
  |false=>
   refine h.mono (J:=J') (J':=Jn) (fun b hb _=>⟨?_,rfl⟩) (Nat.le_refl _) (fun _ _ h=>h)
   rcases(hJ' b hb).2 with h1|h1
   ·rcases h1.1 with h1|⟨h1,_⟩
    ·exact .inl h1
    ·rw[hfz'] at h1;cases h1
   ·exact .inr ⟨hb,h1⟩
 have convO:∀{b s o},ObjRep w' J' ρ' b s o→(fz=true→kH o)→ObjRep w' Jn ρn b s (pM (dZ σ m nid) o):=by
  intro b s o h hn
  refine ObjRep.ren hout ?_
  cases hfz':fz with
  |true=>exact h.noImm (hn hfz')
  |false=>
   refine h.mono (J:=J') (J':=Jn) (fun b hb _=>⟨?_,rfl⟩) (Nat.le_refl _) (fun _ _ h=>h) rfl
   rcases(hJ' b hb).2 with h1|h1
   ·rcases h1.1 with h1|⟨h1,_⟩
    ·exact .inl h1
    ·rw[hfz'] at h1;cases h1
   ·exact .inr ⟨hb,h1⟩
 have hkeys:∀i∈σ,i∈(dN σ m nid cobjs').map (·.1):=by
  intro i hi
  obtain⟨j,hj,rfl⟩:=List.getElem_of_mem hi
  simp only[dN,List.map_append,List.mem_append,List.map_map]
  by_cases h1:j<m
  ·left
   refine List.mem_map.2 ⟨(j,cobjs'[j]'(by omega)),?_,by simp[dZ,h1,List.getD_eq_getElem?_getD,hj]⟩
   refine adC ?_
   rw[qV];simp
  ·right
   refine List.mem_map.2 ⟨σ[j],?_,rfl⟩
   rw[List.mem_iff_getElem]
   exact⟨j-m,by simp;omega,by simp;congr 1;omega⟩
 have hlook:∀id o,aS (dN σ m nid cobjs') id=some (some o)→∃j,∃(h:j<cobjs'.length),id=dZ σ m nid j∧o=pM (dZ σ m nid) cobjs'[j]:=by
  intro id o ho
  have:=adC ho
  simp only[dN,List.mem_append,List.mem_map] at this
  rcases this with⟨p,hp,he⟩|⟨p,hp,he⟩
  ·obtain⟨_,h2⟩:=Hd hp
   simp only[Nat.sub_zero] at h2
   obtain⟨hlt,h3⟩:=List.getElem?_eq_some_iff.1 h2
   simp only[Prod.mk.injEq,Option.some.injEq] at he
   exact⟨p.1,hlt,he.1.symm,by rw[h3];exact he.2.symm⟩
  ·simp at he
 have htrIn:T→tu (dN σ m nid cobjs'):=by
  rintro⟨H,hH⟩
  rw[←htr] at hH
  obtain⟨k,hk⟩:=adJ.1 hH
  obtain⟨j,hj,e⟩:=List.getElem_of_mem hk
  refine⟨(dZ σ m nid j,some (pM (dZ σ m nid) cobjs'[j])),?_,H,k,by rw[e];rfl⟩
  simp only[dN,List.mem_append]
  refine .inl (List.mem_map.2 ⟨(j,cobjs'[j]),adC ?_,rfl⟩)
  rw[qV];simp
 have htr':∀{id H k},aS (dN σ m nid cobjs') id=some (some (.tr H k))→∃j,∃(h:j<cobjs'.length),id=dZ σ m nid j∧cobjs'[j]= .tr H k:=fun{id H k} h=>by
  obtain⟨j,hj,h1,h2⟩:=hlook id _ h
  refine⟨j,hj,h1,?_⟩
  revert h2
  cases cobjs'[j]<;>simp[pM]
  intro a b;exact⟨a.symm,b.symm⟩
 have hT':tu (dN σ m nid cobjs')→T:=by
  rintro⟨p,hp,H,k,e⟩
  simp only[dN,List.mem_append,List.mem_map] at hp
  rcases hp with⟨q,hq,he⟩|⟨q,hq,he⟩
  ·obtain⟨_,h2⟩:=Hd hq
   simp only[Nat.sub_zero] at h2
   obtain⟨hlt,h3⟩:=List.getElem?_eq_some_iff.1 h2
   have h4:q.2= .tr H k:=by
    rw[←he] at e
    revert e
    cases q.2<;>simp[pM]
   refine⟨H,?_⟩
   rw[←htr]
   exact adJ.2 ⟨k,h4▸h3▸List.getElem_mem hlt⟩
  ·rw[←he] at e;cases e
 have hkmem:∀{id},id∈(dN σ m nid cobjs').map (·.1)→∀{o},(aS (dN σ m nid cobjs') id).join=some o→aS (dN σ m nid cobjs') id=some (some o):=fun{id} _ {o} h=>by
  cases hl:aS (dN σ m nid cobjs') id with|none=>simp[hl] at h|some x=>rw[hl] at h;simpa using h
 refine hK v w' ρn Jn ⟨hkept.size,hkept.os,hkept.tape,hkept.output,?_,hρmono,?_,fun b hb=> .inl hb,?_,conv hv (fun h=>(hfz h).1),?_,?_,?_⟩
 ·intro b hb hne hnx
  refine hsame b hb ?_
  rintro(⟨j,s,hj,hr⟩|⟨hT,hx⟩)
  ·obtain⟨o,b',s',k1,k2,_⟩:=hown j hj
   exact hne (σ.getD j 0) o s (hkeys _ (hmem j hj)) k1 hr
  ·exact hnx (htrIn hT) hx
 ·intro i p hi
  by_cases hr:nid≤i∧i<nid+(cobjs'.length-m)
  ·exact .inr hr
  ·refine .inl ?_
   have:ρn i=ρ i:=if_neg hr
   rw[this] at hi;exact hi
 ·intro b hb
  rcases hb with hb|⟨h1,(⟨j,s,hj,hr⟩|⟨hT,hx⟩)|h2⟩
  ·exact .inl hb
  ·obtain⟨o,b',s',k1,k2,_⟩:=hown j hj
   exact .inr (.inr ⟨σ.getD j 0,o,s,hkeys _ (hmem j hj),k1,hr⟩)
  ·exact .inr (.inl ⟨.inr ⟨htrIn hT,hx⟩,(hJ' b h1).1⟩)
  ·exact .inr (.inl ⟨.inl h2,(hJ' b h1).1⟩)
 ·intro id o ho
  obtain⟨j,hj,rfl,rfl⟩:=hlook id o ho
  obtain⟨b,s,k1,k2,k3,k4⟩:=hobj' j hj
  refine⟨b,s,hout _ _ k1,convO k2 (fun h=>(hfz h).2 j hj),?_,?_⟩
  ·rintro(h1|⟨h1,_⟩)
   ·rcases k3 with k3|k3
    ·exact(hIc b k3).2 h1
    ·have:=hs.jlt b h1;omega
   ·exact k4 h1
  ·rcases k3 with(⟨i,s2,hi,hr⟩|⟨hT,hx⟩)|k3
   ·obtain⟨o,b',s',q1,q2,_⟩:=hown i hi
    exact .inr ⟨σ.getD i 0,o,s2,hkeys _ (hmem i hi),q1,hr⟩
   ·exact .inl (.inr ⟨htrIn hT,hx⟩)
   ·exact .inl (.inl k3)
 ·intro id id' o o' b s s' h1 h2 h3 h4
  obtain⟨j,hj,rfl,rfl⟩:=hlook id o h1
  obtain⟨j',hj',rfl,rfl⟩:=hlook id' o' h2
  obtain⟨b1,s1,k1,_⟩:=hobj' j hj
  obtain⟨b2,s2,k2,_⟩:=hobj' j' hj'
  have e1:=hout _ _ k1;rw[h3] at e1;cases e1
  have e2:=hout _ _ k2;rw[h4] at e2;cases e2
  rw[hinj' j j' b _ _ k1 k2]
 ·intro hup
  have hT:=hT' hup
  obtain⟨H0,hH0⟩:=hT
  -- the caller's only one is handed over
  have hone:∀{id H k},st.ob id=some (.tr H k)→id∈(dN σ m nid cobjs').map (·.1):=fun{id H k} h=>by
   obtain⟨k0,hk0⟩:=adJ.1 hH0
   obtain⟨j,hj,e⟩:=List.getElem_of_mem hk0
   obtain⟨g1,g2,_⟩:=htr0 (j:=j) (H:=H0) (k:=k0) (by rw[List.getElem?_eq_getElem hj,e])
   rw[hs.hid.one _ _ _ _ _ _ h g2]
   exact hkeys _ (hmem j g1)
  have hin:∀{id H k},(st.app none ⟨ren (dZ σ m nid) r,dN σ m nid cobjs'⟩).ob id=some (.tr H k)→∃j,∃(h:j<cobjs'.length),id=dZ σ m nid j∧cobjs'[j]= .tr H k:=fun{id H k} h=>by
   rw[St.ob_app] at h
   split at h
   ·rename_i hk;exact htr' (hkmem hk h)
   ·rename_i hk;exact absurd (hone h) hk
  refine⟨fun id id' H H' k k' h1 h2=>?_,fun id H k h=>?_⟩
  ·obtain⟨j,hj,rfl,e1⟩:=hin h1
   obtain⟨j',hj',rfl,e2⟩:=hin h2
   rw[hhid'.one j j' H H' k k' (by rw[List.getElem?_eq_getElem hj,e1]) (by rw[List.getElem?_eq_getElem hj',e2])]
  ·obtain⟨j,hj,rfl,e1⟩:=hin h
   obtain⟨k1,_⟩:=hhid'.on j H k (by rw[List.getElem?_eq_getElem hj,e1])
   have hB:(∀b,H.B b→b<c.w0.heap.size∧¬c.I b)∧c.tr H:=by
    have:H∈trs cobjs:=by rw[←htr];exact adJ.2 ⟨k,e1▸List.getElem_mem hj⟩
    obtain⟨k0,hk0⟩:=adJ.1 this
    obtain⟨i,hi,e⟩:=List.getElem_of_mem hk0
    obtain⟨g1,g2,_⟩:=htr0 (j:=i) (H:=H) (k:=k0) (by rw[List.getElem?_eq_getElem hi,e])
    exact(hs.hid.on _ _ _ g2).2
   refine⟨H.keep k1 (Nat.le_refl _) rfl rfl rfl (fun _ _=>rfl) (fun b hb=>?_) (fun b hb=>⟨hb.1,fun hB'=>?_,fun e=>?_⟩),hB⟩
   ·obtain⟨g1,g2,g3,g4⟩:=hb
    refine⟨g1,?_,?_,fun id o s ho hr=>?_⟩
    ·rcases g2 with g2|g2
     ·exact(hIc b g2).1
     ·have:=hs.kept.size;exact .inr (Nat.le_trans this g2)
    ·rintro(h1|⟨h1,_⟩)
     ·rcases g2 with g2|g2
      ·exact(hIc b g2).2 h1
      ·have:=hs.jlt b h1;have g2:w.heap.size≤b:=g2;omega
     ·exact g3 h1
    ·rw[St.ob_app] at ho
     split at ho
     ·rename_i hk
      obtain⟨i,hi,rfl,rfl⟩:=hlook id o (hkmem hk ho)
      obtain⟨b1,s1,q1,_⟩:=hobj' i hi
      have e1:=hout _ _ q1;rw[hr] at e1;cases e1
      exact g4 i _ _ (List.getElem?_eq_getElem hi) q1
     ·rename_i hk
      obtain⟨b1,s1,q1,q2,_⟩:=hs.obj id o ho
      have e1:=hρmono _ _ q1;rw[hr] at e1;cases e1
      rcases g2 with(⟨i,s2,hi,hr2⟩|⟨_,hx⟩)|g2
      ·obtain⟨o2,b',s',p1,p2,_⟩:=hown i hi
       exact hk (by rw[hs.inj _ _ _ _ _ _ _ ho p1 q1 hr2];exact hkeys _ (hmem i hi))
      ·exact hx.2.2.2 _ _ _ ho q1
      ·have:=q2.lt;have g2:w.heap.size≤b:=g2;omega
   ·have:=hB.1 b hB'
    rcases hb.2.1 with h|h
    ·exact this.2 h
    ·omega
   ·obtain⟨b1,s1,q1,⟨q2,_⟩,_⟩:=e1▸hobj' j hj
    subst q2;subst e
    exact hb.2.2.2 _ _ _ h (hout _ _ q1)
theorem LY{dst:Option Nat} {ty:TypeId} {pos:String} {af:Array Edge} {g:Option (Nat×Bool)} {nid:Nat} {st:St} {f:FuncId} {xs:Array Operand} {tys:Array TypeId}
 {cargs:List AV} {cobjs:List aC} {m:Nat} {r:AV} {cobjs':List aC} (hc:ACall P f cargs cobjs m r cobjs') (σ:List Nat) (fz:Bool) (hp:mD P f=true) (hm:m≤cobjs.length) (hm':m≤cobjs'.length)
 (hσ:σ.length=cobjs.length) (hnd:σ.Nodup) (hlt:∀i∈σ,i<nid)
 (hob:∀j (h:j<cobjs.length),∃o,st.ob (σ.getD j 0)=some o∧cobjs[j]=toO st σ fz o)
 (hargs:cargs=xs.toList.map fun x=>toA st σ fz 8 (st.op x))
 (hfz:fz=true→noImm r∧∀j (h:j<cobjs'.length),kH cobjs'[j]) (htr:trs cobjs'=trs cobjs):
 OpT P ⟨dst,.call ⟨.value (.func f),xs,tys⟩,ty,pos,af,g⟩ nid (cobjs'.length-m) st ⟨ren (dZ σ m nid) r,dN σ m nid cobjs'⟩:=by
 refine y7 (xvs:=xs.toList.map fun x=>st.op x) hc σ fz hm hm' (fun c ρ D J a w hs=>⟨xs.map a.eval,?_,by simp,fun j hj=>?_⟩) hσ hnd hlt hob (by rw[hargs,List.map_map];rfl) hfz htr
 ·simp[execOp,resolve,Act.eval,Deferred.ofValue,invoke,xh hp]
 ·have hj':j<xs.size:=by simpa using hj
  have:=hs.op xs[j]
  simpa[Array.getD,hj'] using this
end
end
section
class vY(P:Program)(t:TypeId)(b:outParam Bool):Prop where out:iX P t=some b
class fF(P:Program)(t:TypeId)(n:outParam Nat):Prop where out:siz P t=some n
class tq(P:Program)(t:TypeId)(n:outParam Nat):Prop where out:byt P t=some n
class jB(P:Program)(t:TypeId)(zs:outParam (List Value)):Prop where out:iM P t=some zs
class dK(P:Program)(t:TypeId)(e:outParam TypeId):Prop where out:iL P t=some e
class yG(P:Program)(t:TypeId)(n:outParam Nat)(e:outParam TypeId):Prop where out:wV P t=some (n,e)
class BS(P:Program)(t f:Nat)(off:outParam Nat)(ft:outParam TypeId):Prop where out:oC P t f=some (off,ft)
class lM(P:Program)(t:TypeId)(k:outParam IntKind):Prop where out:lT P t=some k
class iW(P:Program)(t:TypeId)(l:outParam (List (Nat×Nat))):Prop where out:qR P t=some l
class BR(P:Program)(t:TypeId):Prop where out:qo P t=true
class gV(P:Program)(f:FuncId):Prop where out:mD P f=true
def AO(P:Program)(o:Oper)(nid:Nat)(st:St)(K:Nat→Eff→Prop):Prop:=∃k e,OpT P o nid k st e∧K k e
section
variable {P:Program} {Q:Exit→Nat→St→Prop} {nid:Nat} {st:St} {ops:Array Oper} {rest:List Oper} {dst:Option Nat} {op:Op} {ty:TypeId} {pos:String} {af:Array Edge} {g:Option (Nat×Bool)} {K:Nat→Eff→Prop}
theorem ax{n m d:Nat} {env:List (Nat×AV)} {objs:List (Nat×Option aC)}(hd:jU n (some d)=true)
 (h:∀K:Nat→AV→List (Nat×Option aC)→Prop,(∀nid' v objs',AL P ops Q rest nid' ⟨n,m,(d,v)::env,objs'⟩→K nid' v objs')→
   AO P ⟨some d,op,ty,pos,af,none⟩ nid ⟨n,m,env,objs⟩ (fun k e=>K (nid+k) e.v (e.upd++objs))):
 AL P ops Q (⟨some d,op,ty,pos,af,none⟩::rest) nid ⟨n,m,env,objs⟩:=by
 obtain⟨k,e,h1,h2⟩:=h (fun nid' v objs'=>AL P ops Q rest nid' ⟨n,m,(d,v)::env,objs'⟩) (fun _ _ _ h=>h)
 exact WH h1 hd h2
theorem ak{n m:Nat} {env:List (Nat×AV)} {objs:List (Nat×Option aC)}
 (h:∀K:Nat→AV→List (Nat×Option aC)→Prop,(∀nid' v objs',AL P ops Q rest nid' ⟨n,m,env,objs'⟩→K nid' v objs')→
   AO P ⟨none,op,ty,pos,af,none⟩ nid ⟨n,m,env,objs⟩ (fun k e=>K (nid+k) e.v (e.upd++objs))):
 AL P ops Q (⟨none,op,ty,pos,af,none⟩::rest) nid ⟨n,m,env,objs⟩:=by
 obtain⟨k,e,h1,h2⟩:=h (fun nid' v objs'=>AL P ops Q rest nid' ⟨n,m,env,objs'⟩) (fun _ _ _ h=>h)
 exact WH h1 rfl h2
theorem aK{n m d j t:Nat} {env:List (Nat×AV)} {objs:List (Nat×Option aC)} {b:Bool}(ht:pV ops j=some t)(hn:jU n (some t)=true)
 (h:∀K1 K2:Prop,(AL P ops Q (⟨some d,op,ty,pos,af,none⟩::rest) nid ⟨n,m,env,objs⟩→K1)→(AL P ops Q rest nid ⟨n,m,(d,noV)::env,objs⟩→K2)→
   gAV b (St.ev ⟨n,m,env,objs⟩ t) K1 K2) (hd:jU n (some d)=true):
 AL P ops Q (⟨some d,op,ty,pos,af,some (j,b)⟩::rest) nid ⟨n,m,env,objs⟩:=by
 have hn':t<n:=by simpa[jU] using hn
 rcases h _ _ (fun h=>h) (fun h=>h) with⟨b',hb,h1,h2⟩|⟨hb,h2⟩
 ·by_cases e:b'=b
  ·subst e
   intro c ρ J a w hs
   have:=h1 rfl c ρ J a w hs
   unfold wpListIn at this⊢
   rw[if_pos (by simp[Region.wanted])] at this
   rw[if_pos (by simp[Region.wanted,qx hs ht hb hn'])]
   exact this
  ·have e':b'= !b:=by cases b<;>cases b'<;>simp_all
   subst e'
   exact Rn ht hb hn' hd (h2 rfl)
 ·exact LU ht hb hn' hd h2
theorem aF{o:Operand} {x y:Code}(h:∀K1 K2:Prop,(AC P x Q nid st→K1)→(AC P y Q nid st→K2)→∃b,st.op o= .val (.bool b)∧(b=true→K1)∧(b=false→K2)):AC P (.cond o x y) Q nid st:=
 Rl (h _ _ (fun h=>h) (fun h=>h))
def xk(σ:List Nat)(st:St):List (Nat×AV)→Prop
 |[]=>True
 |(t,v)::l=>(v= .any∨st.ev t=ren (σ.getD · 0) v)∧bnd σ.length v∧xk σ st l
def nK(σ:List Nat)(st:St):List (Nat×Option aC)→Prop
 |[]=>True
 |(_,none)::l=>nK σ st l
 |(i,some o)::l=>i<σ.length∧st.ob (σ.getD i 0)=some (pM (σ.getD · 0) o)∧Aa σ.length o∧nK σ st l
theorem xm{σ:List Nat} {l:List (Nat×AV)}(h:xk σ st l):∀p∈l,(p.2= .any∨st.ev p.1=ren (σ.getD · 0) p.2)∧bnd σ.length p.2:=by
 induction l with
 |nil=>intro p hp;cases hp
 |cons x l ih=>
  obtain⟨t,v⟩:=x
  obtain⟨h1,h2,h3⟩:=h
  intro p hp
  rcases List.mem_cons.1 hp with rfl|hp
  ·exact⟨h1,h2⟩
  ·exact ih h3 p hp
theorem EC{σ:List Nat} {l:List (Nat×Option aC)}(h:nK σ st l):∀p∈l,∀o,p.2=some o→p.1<σ.length∧st.ob (σ.getD p.1 0)=some (pM (σ.getD · 0) o)∧Aa σ.length o:=by
 induction l with
 |nil=>intro p hp;cases hp
 |cons x l ih=>
  obtain⟨t,v⟩:=x
  intro p hp o ho
  cases v with
  |none=>
   rcases List.mem_cons.1 hp with rfl|hp
   ·cases ho
   ·exact ih h p hp o ho
  |some v=>
   obtain⟨h1,h2,h3,h4⟩:=h
   rcases List.mem_cons.1 hp with rfl|hp
   ·cases ho;exact⟨h1,h2,h3⟩
   ·exact ih h4 p hp o ho
theorem Sub.mk'{σ:List Nat} {n m:Nat} {env env':List (Nat×AV)} {objs objs':List (Nat×Option aC)}(h1:xk σ ⟨n,m,env,objs⟩ env')(h2:nK σ ⟨n,m,env,objs⟩ objs')(h3:σ.Nodup)(h4:σ.take m=List.range m):
 Sub σ ⟨n,m,env',objs'⟩ ⟨n,m,env,objs⟩:=
 ⟨rfl,fun p hp=>(xm h1 p hp).1,fun p hp=>(xm h1 p hp).2,fun p hp o ho=>EC h2 p hp o ho,h3,rfl,h4⟩
theorem Ends.mk'{fn:Func} {objs0:List aC} {m:Nat} {r:AV} {objs':List aC} {e:Exit} {n:Nat} {env:List (Nat×AV)} {objs:List (Nat×Option aC)}(he:e= .normal∨e= .ret)(σ:List Nat)
 (h1:σ.length=objs'.length) (h2:nK σ ⟨n,m,env,objs⟩ ((idx 0 objs').map fun p=>(p.1,some p.2))) (h3:σ.Nodup) (h4:σ.take m=List.range m)
 (h5:eX P ⟨n,m,env,objs⟩ fn.results.toList=some (ren (σ.getD · 0) r)) (h6:bnd σ.length r):Ends P fn objs0 m r objs' e ⟨n,m,env,objs⟩:=
 ⟨he,_,σ,Frz.refl _,Sub.mk' trivial h2 h3 h4,h1,rfl,h5,h6⟩
theorem bM(x:Operand)(h:K 0 ⟨st.op x,[]⟩):AO P ⟨dst,.move x,ty,pos,af,g⟩ nid st K:=⟨_,_,LP x,h⟩
theorem aR(x:Operand)(h:K 0 ⟨st.op x,[]⟩):AO P ⟨dst,.assign x,ty,pos,af,g⟩ nid st K:=⟨_,_,Ez x,h⟩
theorem Xu(x y z:Operand)(h:∃b,st.op x= .val (.bool b)∧K 0 ⟨je b (st.op y) (st.op z),[]⟩):AO P ⟨dst,.pick x y z,ty,pos,af,g⟩ nid st K:=by
 obtain⟨b,h1,h2⟩:=h;exact⟨_,_,LQ x y z b h1,h2⟩
def dh:Value→Value→Bool
 | .nilIface,.nilIface=>false
 | .agg _,.agg _=>false
 |_,_=>true
theorem yL(bo:BinOp)(t:TypeId)(x y:Operand)(u v:Value)(h:dh u v=true)(w:World):(eqGuard bo t x y u v).run P w= .ok () w:=by
 unfold eqGuard
 cases bo<;>first|rfl|(simp only[Bool.not_true,Bool.false_eq_true,if_false];split<;>first|(simp[dh] at h;done)|rfl)
def bT(P:Program)(bo:BinOp)(t:TypeId)(x y:AV):Option AV:=match x,y with
 | .val u,.val v=>if dh u v then(jd P bo t u v).map ofV else none
 |_,_=>none
section
variable {t:TypeId} {k:IntKind} {a b:Int}
theorem Rq:bT P .add t (.val (.int k a)) (.val (.int k b))=some (.val (.int k (k.wrap (a+b)))):=by simp[bT,dh,jd,ofV]
theorem Rs:bT P .sub t (.val (.int k a)) (.val (.int k b))=some (.val (.int k (k.wrap (a-b)))):=by simp[bT,dh,jd,ofV]
theorem Ru:bT P .mul t (.val (.int k a)) (.val (.int k b))=some (.val (.int k (k.wrap (a*b)))):=by simp[bT,dh,jd,ofV]
theorem Rv:bT P .quo t (.val (.int k a)) (.val (.int k b))=if b=0 then none else some (.val (.int k (k.wrap (a.tdiv b)))):=by by_cases h:b=0<;>simp[bT,dh,jd,ofV,h]
theorem Rx:bT P .rem t (.val (.int k a)) (.val (.int k b))=if b=0 then none else some (.val (.int k (a.tmod b))):=by by_cases h:b=0<;>simp[bT,dh,jd,ofV,h]
theorem Ry:bT P .and t (.val (.int k a)) (.val (.int k b))=some (.val (.int k (k.wrap (BitVec.ofInt k.bits a&&&BitVec.ofInt k.bits b).toNat))):=by simp[bT,dh,jd,ofV]
theorem Xv:bT P .or t (.val (.int k a)) (.val (.int k b))=some (.val (.int k (k.wrap (BitVec.ofInt k.bits a|||BitVec.ofInt k.bits b).toNat))):=by simp[bT,dh,jd,ofV]
theorem Rz:bT P .xor t (.val (.int k a)) (.val (.int k b))=some (.val (.int k (k.wrap (BitVec.ofInt k.bits a ^^^ BitVec.ofInt k.bits b).toNat))):=by simp[bT,dh,jd,ofV]
theorem ED:bT P .andNot t (.val (.int k a)) (.val (.int k b))=some (.val (.int k (k.wrap (BitVec.ofInt k.bits a&&& ~~~ BitVec.ofInt k.bits b).toNat))):=by simp[bT,dh,jd,ofV]
theorem RA{j:IntKind}:bT P .shl t (.val (.int k a)) (.val (.int j b))=if b<0 then none else some (.val (.int k (k.wrap (a*2^(min b.toNat k.bits))))):=by by_cases h:b<0<;>simp[bT,dh,jd,ofV,h]
theorem RB{j:IntKind}:bT P .shr t (.val (.int k a)) (.val (.int j b))=if b<0 then none else some (.val (.int k (a.fdiv (2^(min b.toNat k.bits))))):=by by_cases h:b<0<;>simp[bT,dh,jd,ofV,h]
theorem RD:bT P .eql t (.val (.int k a)) (.val (.int k b))=some (.val (.bool (decide (a=b)))):=by simp[bT,dh,jd,ofV]
theorem RF:bT P .neq t (.val (.int k a)) (.val (.int k b))=some (.val (.bool (decide (a≠b)))):=by simp[bT,dh,jd,ofV]
theorem RG:bT P .lss t (.val (.int k a)) (.val (.int k b))=some (.val (.bool (decide (a<b)))):=by simp[bT,dh,jd,ofV]
theorem RH:bT P .leq t (.val (.int k a)) (.val (.int k b))=some (.val (.bool (decide (a≤b)))):=by simp[bT,dh,jd,ofV]
theorem RI:bT P .gtr t (.val (.int k a)) (.val (.int k b))=some (.val (.bool (decide (b<a)))):=by simp[bT,dh,jd,ofV]
theorem RJ:bT P .geq t (.val (.int k a)) (.val (.int k b))=some (.val (.bool (decide (b≤a)))):=by simp[bT,dh,jd,ofV]
theorem LZ{x y:ByteArray}:bT P .eql t (.val (.string x)) (.val (.string y))=some (.val (.bool (decide (x=y)))):=by simp[bT,dh,jd,ofV]
theorem L6{x y:ByteArray}:bT P .neq t (.val (.string x)) (.val (.string y))=some (.val (.bool (decide (x≠y)))):=by simp[bT,dh,jd,ofV]
theorem L8{x y:ByteArray}:bT P .add t (.val (.string x)) (.val (.string y))=if((x.size+y.size:Nat):Int)≤9223372036854775807 then some (.val (.string (x++y))) else none:=by
 simp only[bT,dh,jd,if_true];split<;>simp[ofV]
end
class Q5(P:Program)(t:TypeId):Prop where out:oD P t=true
theorem L9{t:TypeId} [h:Q5 P t]{x y:Bool}:bT P .eql t (.val (.bool x)) (.val (.bool y))=some (.val (.bool (x==y))):=by simp[bT,dh,jd,ofV,h.out]
theorem Ma{t:TypeId} [h:Q5 P t]{x y:Bool}:bT P .neq t (.val (.bool x)) (.val (.bool y))=some (.val (.bool (x !=y))):=by simp[bT,dh,jd,ofV,h.out]
class Q6(P:Program)(t:TypeId):Prop where out:tF P t=true
theorem Mc{t:TypeId} [h:Q6 P t]{y:Option Addr}:bT P .eql t (.val (.pointer none)) (.val (.pointer y))=some (.val (.bool y.isNone)):=by simp[bT,dh,jd,ofV,h.out]
theorem Md{t:TypeId} [h:Q6 P t]{y:Option Addr}:bT P .neq t (.val (.pointer none)) (.val (.pointer y))=some (.val (.bool !y.isNone)):=by simp[bT,dh,jd,ofV,h.out]
theorem abK(bo:BinOp)(t:TypeId)(x y:Operand)(t':TypeId)(h:∃r,bT P bo t (st.op x) (st.op y)=some r∧K 0 ⟨r,[]⟩):AO P ⟨dst,.binOp bo t x y t',ty,pos,af,g⟩ nid st K:=by
 obtain⟨r,h1,h2⟩:=h
 unfold bT at h1
 split at h1
 ·rename_i u v hu hv
  split at h1
  ·rename_i hp
   cases hb:jd P bo t u v with
   |none=>simp[hb] at h1
   |some q=>simp[hb] at h1;subst h1;exact⟨_,_,JB bo t x y t' u v q hu hv hb (yL bo t x y u v hp),h2⟩
  ·cases h1
 ·cases h1
theorem Xw{t e:TypeId} [h:dK P t e]{z:Bool} {cs:List AV} {n:Nat}:pK P t (.isl z cs n) (.isl true [] 0)=some z:=by unfold pK;rw[aV h.out];rfl
theorem abL{t e:TypeId} [h:dK P t e]{id off n es:Nat}:pK P t (.sl id off n es) (.isl true [] 0)=some false:=by unfold pK;rw[aV h.out];rfl
theorem abM{t:TypeId} [h:Q6 P t]{id off:Nat}:pK P t (.pt id off) (.val (.pointer none))=some false:=by obtain⟨e,hu⟩:=qp h.out;unfold pK;rw[hu]
theorem Xx{t:TypeId} [h:Q6 P t]{cs:List AV} {off:Nat}:pK P t (.ipt cs off) (.val (.pointer none))=some false:=by obtain⟨e,hu⟩:=qp h.out;unfold pK;rw[hu]
theorem RN(t:TypeId)(x y:Operand)(t':TypeId)(h:∃b,pK P t (st.op x) (st.op y)=some b∧K 0 ⟨.val (.bool b),[]⟩):AO P ⟨dst,.binOp .eql t x y t',ty,pos,af,g⟩ nid st K:=by
 obtain⟨b,h1,h2⟩:=h;exact⟨_,_,JC t x y t' b h1,h2⟩
theorem Me(t:TypeId)(x y:Operand)(t':TypeId)(h:∃b,pK P t (st.op x) (st.op y)=some b∧K 0 ⟨.val (.bool !b),[]⟩):AO P ⟨dst,.binOp .neq t x y t',ty,pos,af,g⟩ nid st K:=by
 obtain⟨b,h1,h2⟩:=h;exact⟨_,_,EA t x y t' b h1,h2⟩
theorem abN(t:TypeId)(x:Operand)(h:∃b,st.op x= .val (.bool b)∧K 0 ⟨.val (.bool !b),[]⟩):AO P ⟨dst,.unOp .not t x,ty,pos,af,g⟩ nid st K:=by
 obtain⟨b,h1,h2⟩:=h;exact⟨_,_,zW t x b h1,h2⟩
theorem abO(t:TypeId)(x:Operand)(h:∃k n,st.op x= .val (.int k n)∧K 0 ⟨.val (.int k (k.wrap (0-n))),[]⟩):AO P ⟨dst,.unOp .neg t x,ty,pos,af,g⟩ nid st K:=by
 obtain⟨k,n,h1,h2⟩:=h;exact⟨_,_,zX t x k n h1,h2⟩
theorem JJ{ks k:IntKind}(s t:TypeId)(x:Operand) [hs:lM P s ks] [ht:lM P t k](h:∃k' n,st.op x= .val (.int k' n)∧K 0 ⟨.val (.int k (k.wrap n)),[]⟩):AO P ⟨dst,.convert s t x,ty,pos,af,g⟩ nid st K:=by
 obtain⟨k',n,h1,h2⟩:=h;exact⟨_,_,vS s t x k k' n ks hs.out ht.out h1,h2⟩
theorem fu(x:Operand)(h:(st.op x).notNil=true∧K 0 ⟨st.op x,[]⟩):AO P ⟨dst,.nilCheck x,ty,pos,af,g⟩ nid st K:=⟨_,_,zY x h.1,h.2⟩
def uL(n:Nat):AV→Option AV
 | .pt id off=>some (.pt id (off+n))
 | .ipt cs off=>some (.ipt cs (off+n))
 |_=>none
theorem Ck{fo n:Nat} {ft:TypeId}(s:TypeId)(x:Operand)(f:Nat) [hf:BS P s f fo ft] [hz:fF P ft (n+1)](h:∃y,uL fo (st.op x)=some y∧K 0 ⟨y,[]⟩):AO P ⟨dst,.fieldAddr s x f,ty,pos,af,g⟩ nid st K:=by
 obtain⟨y,h1,h2⟩:=h
 unfold uL at h1
 split at h1
 ·rename_i id off hx;cases h1;exact⟨_,_,tH s x f id off fo n ft hx hf.out hz.out,h2⟩
 ·rename_i cs off hx;cases h1;exact⟨_,_,qN s x f cs off fo n ft hx hf.out hz.out,h2⟩
 ·cases h1
def Cm(i es:Nat):AV→Option (AV×Nat)
 | .sl id off len _=>some (.pt id (off+i*es),len)
 | .isl _ cs len=>some (.ipt cs (i*es),len)
 |_=>none
theorem Cn{e:TypeId} {es:Nat}(t:TypeId)(x ix:Operand) [he:dK P t e] [hz:fF P e es](h:∃k i y len,st.op ix= .val (.int k i)∧Cm i.toNat es (st.op x)=some (y,len)∧(0≤i∧i<len)∧K 0 ⟨y,[]⟩):AO P ⟨dst,.indexAddr t x ix,ty,pos,af,g⟩ nid st K:=by
 obtain⟨k,i,y,len,h1,h2,h3,h4⟩:=h
 unfold Cm at h2
 split at h2
 ·rename_i id off l es' hx
  cases h2
  by_cases hes:es'=es
  ·subst hes;exact⟨_,_,tJ t x ix id off _ es' k i e hx h1 he.out hz.out h3,h4⟩
  ·exact⟨_,_,qO t x ix id off _ es es' k i e hx h1 he.out hz.out h3,h4⟩
 ·rename_i z cs l hx
  cases h2
  exact⟨_,_,qP t x ix z cs _ es k i e hx h1 he.out hz.out h3,h4⟩
 ·cases h2
theorem EE{e:TypeId} {n es:Nat}(t:TypeId)(x ix:Operand) [he:yG P t n e] [hz:fF P e es](h:∃k i y,st.op ix= .val (.int k i)∧uL (i.toNat*es) (st.op x)=some y∧(0≤i∧i<n)∧K 0 ⟨y,[]⟩):AO P ⟨dst,.indexAddr t x ix,ty,pos,af,g⟩ nid st K:=by
 obtain⟨k,i,y,h1,h2,h3,h4⟩:=h
 unfold uL at h2
 split at h2
 ·rename_i id off hx;cases h2;exact⟨_,_,qQ t x ix id off n es k i e hx h1 he.out hz.out h3,h4⟩
 ·rename_i cs off hx;cases h2;exact⟨_,_,qw t x ix cs off n es k i e hx h1 he.out hz.out h3,h4⟩
 ·cases h2
def qW(off:Nat):Option aC→Option (List AV×Nat)
 |some (.cells cs _)=>some (cs,off)
 |_=>none
def lh(st:St):AV→Option (List AV×Nat)
 | .pt id off=>qW off (st.ob id)
 | .ipt cs off=>some (cs,off)
 |_=>none
theorem Xy(t:TypeId)(x:Operand) [ha:vY P t false](h:∃cs off y,lh st (st.op x)=some (cs,off)∧cs[off]? =some y∧K 0 ⟨y,[]⟩):AO P ⟨dst,.load t x,ty,pos,af,g⟩ nid st K:=by
 obtain⟨cs,off,y,h1,h2,h3⟩:=h
 unfold lh at h1
 split at h1
 ·rename_i id o hx
  unfold qW at h1
  split at h1
  ·rename_i cs' e ho;cases h1;exact⟨_,_,BZ t x id _ _ e y hx ho ha.out h2,h3⟩
  ·cases h1
 ·rename_i cs' o hx;cases h1;exact⟨_,_,zZ t x _ _ y hx ha.out h2,h3⟩
 ·cases h1
theorem JK{n:Nat}(t:TypeId)(x:Operand) [ha:vY P t true] [hz:fF P t n](h:∃cs off,lh st (st.op x)=some (cs,off)∧off+n≤cs.length∧K 0 ⟨.agg ((cs.drop off).take n),[]⟩):AO P ⟨dst,.load t x,ty,pos,af,g⟩ nid st K:=by
 obtain⟨cs,off,h1,h2,h3⟩:=h
 unfold lh at h1
 split at h1
 ·rename_i id o hx
  unfold qW at h1
  split at h1
  ·rename_i cs' e ho;cases h1;exact⟨_,_,vT t x id _ n _ e hx ho ha.out hz.out h2,h3⟩
  ·cases h1
 ·rename_i cs' o hx;cases h1;exact⟨_,_,tN t x _ n _ hx ha.out hz.out h2,h3⟩
 ·cases h1
theorem JL(x:Operand)(i:Nat)(h:∃cs y,st.op x= .tup cs∧cs[i]? =some y∧K 0 ⟨y,[]⟩):AO P ⟨dst,.extract x i,ty,pos,af,g⟩ nid st K:=by
 obtain⟨cs,y,h1,h2,h3⟩:=h;exact⟨_,_,Ca x i cs y h1 h2,h3⟩
theorem Mf(t:TypeId)(x:Operand) [ht:BR P t](h:∃s,st.op x= .val (.string s)∧K 0 ⟨.val (.int .i64 s.size),[]⟩):AO P ⟨dst,.call ⟨.builtin .len,#[x],#[t]⟩,ty,pos,af,g⟩ nid st K:=by
 obtain⟨s,h1,h2⟩:=h;exact⟨_,_,Ha t x s.size (by rw[h1];rfl) (by rw[h1];unfold vZ;rw[gZ ht.out]),h2⟩
def y8:AV→Option Nat
 | .isl _ _ n=>some n
 | .sl _ _ n _=>some n
 |_=>none
theorem abP{e:TypeId}(t:TypeId)(x:Operand) [ht:dK P t e](h:∃n,y8 (st.op x)=some n∧K 0 ⟨.val (.int .i64 n),[]⟩):AO P ⟨dst,.call ⟨.builtin .len,#[x],#[t]⟩,ty,pos,af,g⟩ nid st K:=by
 obtain⟨n,h1,h2⟩:=h
 have hu:=aV ht.out
 refine⟨_,_,Ha t x n ?_ ?_,h2⟩
 ·revert h1;unfold y8 Cb;split<;>simp_all
 ·revert h1;unfold y8 vZ;rw[hu];split<;>simp_all
end
end
section
section
variable {P:Program} {Q:Exit→Nat→St→Prop} {nid:Nat} {st:St} {dst:Option Nat} {ty:TypeId} {pos:String} {af:Array Edge} {g:Option (Nat×Bool)} {K:Nat→Eff→Prop}
theorem dH{zs:List Value}(e:TypeId) [hz:jB P e zs](h:zs.all Value.oneCell'=true∧K 1 ⟨.pt nid 0,[(nid,some (.cells (zs.map ofV) e))]⟩):AO P ⟨dst,.alloc e,ty,pos,af,g⟩ nid st K:=
 ⟨_,_,JD e zs hz.out h.1,h.2⟩
theorem abQ(e:TypeId)(x:Operand)(h:∃cs,(st.op x).parts=some cs∧cs.all AV.scalar=true∧K 1 ⟨.pt nid 0,[(nid,some (.cells cs e))]⟩):AO P ⟨dst,.box e x,ty,pos,af,g⟩ nid st K:=by
 obtain⟨cs,h1,h2,h3⟩:=h;exact⟨_,_,Rj e x cs h1 h2,h3⟩
def uM(cs:List AV)(off:Nat)(vs:List AV):List AV:=match vs with
 |[v]=>cs.set off v
 |vs=>spl cs off vs
theorem y9(cs:List AV)(off:Nat)(vs:List AV)(h:off+vs.length≤cs.length):uM cs off vs=spl cs off vs:=by
 unfold uM
 split
 ·rw[Ri];simp at h;omega
 ·rfl
theorem RO{n:Nat}(t:TypeId)(x y:Operand) [hz:fF P t n](h:∃id off cs e vs,st.op x= .pt id off∧st.ob id=some (.cells cs e)∧(st.op y).parts=some vs∧vs.all AV.scalar=true∧vs.length=n∧off+n≤cs.length∧
 K 0 ⟨.any,[(id,some (.cells (uM cs off vs) e))]⟩):AO P ⟨dst,.store t x y,ty,pos,af,g⟩ nid st K:=by
 obtain⟨id,off,cs,e,vs,h1,h2,h3,h4,h5,h6,h7⟩:=h
 rw[y9 _ _ _ (by omega)] at h7
 exact⟨_,_,JE t x y id off n cs vs e h1 h2 h3 h4 hz.out h5 h6,h7⟩
theorem RP{zs:List Value} {pl:List (Nat×Nat)}(t:TypeId)(ps:Array (Nat×Operand)) [hz:jB P t zs] [hp:iW P t pl]
 (h:∃out,jE (pl[·]?) (zs.map ofV) (ps.toList.map fun p=>(p.1,st.op p.2))=some out∧K 0 ⟨.agg out,[]⟩):AO P ⟨dst,.build t ps,ty,pos,af,g⟩ nid st K:=by
 obtain⟨out,h1,h2⟩:=h;exact⟨_,_,JF t ps zs pl out hz.out hp.out h1,h2⟩
theorem Ab{e:TypeId} {es:Nat} {zs:List Value}(t:TypeId)(len:Nat)(ps:Array (Nat×Operand)) [he:dK P t e] [hs:fF P e es] [hz:jB P e zs]
 (h:∃out,jE (fun i=>some (i*es,es)) (dU zs len) (ps.toList.map fun p=>(p.1,st.op p.2))=some out∧zs.length=es∧zs.all Value.oneCell'=true∧len*es≤16777216∧out.all AV.scalar=true∧out.length=len*es∧
   K 1 ⟨.sl nid 0 len es,[(nid,some (.cells out e))]⟩):AO P ⟨dst,.buildSlice t len ps,ty,pos,af,g⟩ nid st K:=by
 obtain⟨out,h1,h2,h3,h4,h5,h6,h7⟩:=h;exact⟨_,_,wX t len ps e es zs out he.out hs.out hz.out h2 h3 h4 h1 h5 h6,h7⟩
theorem Co{e:TypeId} {es by':Nat} {zs:List Value}(t:TypeId)(l c:Operand) [he:dK P t e] [hs:fF P e es] [hb:tq P e by'] [hz:jB P e zs]
 (h:∃kl kc n,st.op l= .val (.int kl n)∧st.op c= .val (.int kc n)∧zs.length=es∧zs.all Value.oneCell'=true∧0≤n∧n≤9223372036854775807∧(by':Int)*n≤281474976710656∧
   K 1 ⟨.sl nid 0 n.toNat es,[(nid,some (.cells (dU zs n.toNat) e))]⟩):AO P ⟨dst,.makeSlice t l c,ty,pos,af,g⟩ nid st K:=by
 obtain⟨kl,kc,n,h1,h2,h3,h4,h5,h6,h7,h8⟩:=h
 exact⟨_,_,yH t l c e es by' zs kl kc n he.out hs.out hz.out h3 h4 hb.out h1 h2 h5 h6 h7,h8⟩
theorem EF(t:TypeId)(x:Operand)(lo hi:Option Operand) [ht:BR P t](h:∃s l u,st.op x= .val (.string s)∧bq st 0 lo=some l∧bq st s.size hi=some u∧(0≤l∧l≤u∧u≤s.size)∧K 0 ⟨.val (.string (s.extract l.toNat u.toNat)),[]⟩):
 AO P ⟨dst,.slice t x lo hi none,ty,pos,af,g⟩ nid st K:=by
 obtain⟨s,l,u,h1,h2,h3,⟨h4,h5,h6⟩,h7⟩:=h;exact⟨_,_,yI t x lo hi s l u ht.out h1 h2 h3 h4 h5 h6,h7⟩
theorem Mg{e:TypeId} {es:Nat}(t:TypeId)(x:Operand)(lo hi:Option Operand) [ht:dK P t e] [hs:fF P e es](h:∃z cs len l u,st.op x= .isl z cs len∧bq st 0 lo=some l∧bq st len hi=some u∧(0≤l∧l≤u∧u≤len)∧
 K 0 ⟨.isl z ((cs.drop (l.toNat*es)).take ((u.toNat-l.toNat)*es)) (u.toNat-l.toNat),[]⟩):AO P ⟨dst,.slice t x lo hi none,ty,pos,af,g⟩ nid st K:=by
 obtain⟨z,cs,len,l,u,h1,h2,h3,⟨h4,h5,h6⟩,h7⟩:=h;exact⟨_,_,yJ t e x lo hi z cs len es l u ht.out hs.out h1 h2 h3 h4 h5 h6,h7⟩
theorem RS{e:TypeId} {es:Nat}(t:TypeId)(x:Operand)(lo hi:Option Operand) [ht:dK P t e] [hs:fF P e es](h:∃id off len es' l u,st.op x= .sl id off len es'∧es'=es∧bq st 0 lo=some l∧bq st len hi=some u∧(0≤l∧l≤u∧u≤len)∧
 (l<len∨l=0)∧K 0 ⟨.sl id (off+l.toNat*es) (u.toNat-l.toNat) es,[]⟩):AO P ⟨dst,.slice t x lo hi none,ty,pos,af,g⟩ nid st K:=by
 obtain⟨id,off,len,es',l,u,h1,rfl,h2,h3,⟨h4,h5,h6⟩,h7,h8⟩:=h;exact⟨_,_,z8 t e x lo hi id off len es' l u ht.out hs.out h1 h2 h3 h4 h5 h6 h7,h8⟩
theorem EG{e:TypeId} {es:Nat}(t:TypeId)(x:Operand)(lo hi:Option Operand) [ht:dK P t e] [hs:fF P e es](h:∃id off len es' l u,st.op x= .sl id off len es'∧es'=es∧bq st 0 lo=some l∧bq st len hi=some u∧(0≤l∧l=u∧u≤len)∧
 K 0 ⟨.isl false [] 0,[]⟩):AO P ⟨dst,.slice t x lo hi none,ty,pos,af,g⟩ nid st K:=by
 obtain⟨id,off,len,es',l,u,h1,rfl,h2,h3,⟨h4,h5,h6⟩,h7⟩:=h;exact⟨_,_,yK t e x lo hi id off len es' l u ht.out hs.out h1 h2 h3 h4 h5 h6,h7⟩
theorem Cq{e:TypeId} {es by':Nat} {zs:List Value}(t:TypeId)(x y:Operand) [he:dK P t e] [hs:fF P e es] [hb:tq P e by'] [hz:jB P e zs]
 (h:∃cells m,st.op x= .isl true [] 0∧gy st (st.op y)=some (cells,m)∧zs.length=es∧zs.all Value.oneCell'=true∧cells.length=m*es∧0<m∧m*by'≤140737488355328∧m≤9223372036854775807∧K 1 ⟨.sl nid 0 m es,[(nid,some (.cells cells e))]⟩):
 AO P ⟨dst,.call ⟨.builtin .append,#[x,y],#[t,t]⟩,ty,pos,af,g⟩ nid st K:=by
 obtain⟨cells,m,h1,h2,h3,hz1,h4,h5,h6,h7,h8⟩:=h
 exact⟨_,_,wY t x y e es by' m zs cells he.out hs.out hz.out h3 hz1 hb.out h1 h2 h4 h5 h6 h7,h8⟩
theorem Mh{e:TypeId} {es by':Nat} {zs:List Value}(t:TypeId)(x y:Operand) [he:dK P t e] [hs:fF P e es] [hb:tq P e by'] [hz:jB P e zs]
 (h:∃id n cs cells m,st.op x= .sl id 0 n es∧st.ob id=some (.cells cs e)∧gy st (st.op y)=some (cells,m)∧zs.length=es∧zs.all Value.oneCell'=true∧cs.length=n*es∧cells.length=m*es∧(n+m)*by'≤140737488355328∧n+m≤9223372036854775807∧
   K 1 ⟨.sl nid 0 (n+m) es,[(nid,some (.cells (cs++cells) e)),(id,none)]⟩):
 AO P ⟨dst,.call ⟨.builtin .append,#[x,y],#[t,t]⟩,ty,pos,af,g⟩ nid st K:=by
 obtain⟨id,n,cs,cells,m,h1,h2,h3,h4,hz1,h5,h6,h7,h8,h9⟩:=h
 exact⟨_,_,wZ t x y e id n es by' m zs cs cells he.out hs.out hz.out h4 hz1 hb.out h1 h2 h5 h3 h6 h7 h8,h9⟩
theorem Xz{f:FuncId} {xs:Array Operand} {tys:Array TypeId} {cargs:List AV} {cobjs:List aC} {m:Nat} {r:AV} {cobjs':List aC} [hp:gV P f](hc:ACall P f cargs cobjs m r cobjs')(σ:List Nat)(fz:Bool)
 (hm:m≤cobjs.length∧m≤cobjs'.length∧σ.length=cobjs.length∧σ.Nodup∧(∀i∈σ,i<nid))
 (hob:∀j (h:j<cobjs.length),∃o,st.ob (σ.getD j 0)=some o∧cobjs[j]=toO st σ fz o)
 (hargs:cargs=xs.toList.map fun x=>toA st σ fz 8 (st.op x))
 (hfz:fz=true→noImm r∧∀j (h:j<cobjs'.length),kH cobjs'[j]) (htr:trs cobjs'=trs cobjs)
 (h:K (cobjs'.length-m) ⟨ren (dZ σ m nid) r,dN σ m nid cobjs'⟩):AO P ⟨dst,.call ⟨.value (.func f),xs,tys⟩,ty,pos,af,g⟩ nid st K:=
 ⟨_,_,LY hc σ fz hp.out hm.1 hm.2.1 hm.2.2.1 hm.2.2.2.1 hm.2.2.2.2 hob hargs hfz htr,h⟩
end
end
