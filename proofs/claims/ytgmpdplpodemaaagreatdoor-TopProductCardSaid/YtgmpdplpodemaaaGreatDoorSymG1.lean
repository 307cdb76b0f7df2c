/- Sym1 Sym2 Sym3 Sym4 Sym5. No condition. -/
import Derived.Test.YtgmpdplpodemaaaGreatDoorOmG0
import Derived.WalkKit
import Derived.Sort.LoopGhostIn
import Derived.OrdersIn
import Derived.RangeFuncNested
import Derived.RangeFuncLeaves
import Derived.WalkSpells
import Derived.WalkLawsBesides
set_option linter.all false
namespace Go.Sy
section
def fen(r:Option Nat):Fence:={Fence.wide with round:=r}
structure jG where
 P:Program
 l:Nat
 xs:Nat->Option Value
 go:Nat->Bool
 B:Nat->Prop
 G:Nat->(Nat->Prop)->World->Prop
 keep:∀{j:Nat} {X X':Nat->Prop} {w w':World},G j X w->w.heap.size<=w'.heap.size->w'.os=w.os->w'.tape=w.tape->w'.output=w.output->(∀b,X b\/B b\/b=l->w'.heap[b]? =w.heap[b]?)->
  (∀b,X b->X' b)->(∀b,X' b->b<w'.heap.size/\¬B b/\b≠l)->G j X' w'
 yield:∀{j:Nat} {x:Value} {X:Nat->Prop} {w:World},G j X w->go j=true->xs j=some x->(∀b,X b->b<w.heap.size/\¬B b/\b≠l)->∀(r:Option Nat),YieldAt (fen r) 0 P l #[x] w λe w'=>
  e= .returned (.bool (go (j+1)))/\w.heap.size<=w'.heap.size/\w'.os=w.os/\w'.tape=w.tape/\w'.output=w.output/\(∃r,w'.heap[l]? =some (.loop r))/\
  (∀b,b<w.heap.size->¬X b->b≠l->w'.heap[b]? =w.heap[b]?)/\G (j+1) (λb=>X b\/(w.heap.size<=b/\b<w'.heap.size)) w'
inductive AV where
 |val (v:Value)
 |isl (z:Bool) (cells:List AV) (len:Nat)
 |ipt (cells:List AV) (off:Nat)
 |sl (id off len es:Nat)
 |pt (id off:Nat)
 |mp (id:Nat)
 |agg (cs:List AV)
 |tup (cs:List AV)
 |fn (f:FuncId) (cs:List AV)
 |yl (id:Nat)
 |any
abbrev Rho:=Nat->Option (Nat×Nat)
inductive Rep (w:World) (J:Nat->Prop):Rho->Value->AV->Prop
 |val {ρ:Rho} (v:Value):Rep w J ρ v (.val v)
 |any {ρ:Rho} (v:Value):Rep w J ρ v .any
 |inil {ρ:Rho}:Rep w J ρ (.slice none 0 0) (.isl true [] 0)
 |iemp {ρ:Rho} (a:Addr) (cap:Nat):Rep w J ρ (.slice (some a) 0 cap) (.isl false [] 0)
 |isl {ρ:Rho} (b off len cap:Nat) (cells:List AV) (u:Nat->Value) (hb:cells≠[]->J b/\b<w.heap.size) (hc:len<=cap)
   (h0:∀j,j<cells.length->(u j).oneCell'=true)
   (h1:∀j,j<cells.length->w.cell? ⟨b,off+j,none⟩=some (u j)) (h2:∀j (h:j<cells.length),Rep w J (λ_=>none) (u j) cells[j]):
   Rep w J ρ (.slice (some ⟨b,off,none⟩) len cap) (.isl false cells len)
 |ipt {ρ:Rho} (b off k:Nat) (cells:List AV) (u:Nat->Value) (hb:cells≠[]->J b/\b<w.heap.size)
   (h0:∀j,j<cells.length->(u j).oneCell'=true)
   (h1:∀j,j<cells.length->w.cell? ⟨b,off+j,none⟩=some (u j)) (h2:∀j (h:j<cells.length),Rep w J (λ_=>none) (u j) cells[j]):
   Rep w J ρ (.pointer (some ⟨b,off+k,none⟩)) (.ipt cells k)
 |sl {ρ:Rho} (b s id off len es cap:Nat) (h:ρ id=some (b,s)) (hc:len<=cap) (hs:off+cap*es=s):Rep w J ρ (.slice (some ⟨b,off,none⟩) len cap) (.sl id off len es)
 |pt {ρ:Rho} (b s id off:Nat) (h:ρ id=some (b,s)):Rep w J ρ (.pointer (some ⟨b,off,none⟩)) (.pt id off)
 |mp {ρ:Rho} (b s id:Nat) (h:ρ id=some (b,s)):Rep w J ρ (.map (some b)) (.mp id)
 |yl {ρ:Rho} (b s id:Nat) (h:ρ id=some (b,s)):Rep w J ρ (.func (.yield b) #[] #[]) (.yl id)
 |agg {ρ:Rho} (vs:Array Value) (cs:List AV) (hs:vs.size=cs.length) (h:∀j (h:j<cs.length),Rep w J ρ (vs.getD j undef) cs[j]):Rep w J ρ (.agg vs) (.agg cs)
 |tup {ρ:Rho} (vs:Array Value) (cs:List AV) (hs:vs.size=cs.length) (h:∀j (h:j<cs.length),Rep w J ρ (vs.getD j undef) cs[j]):Rep w J ρ (.tuple vs) (.tup cs)
 |fn {ρ:Rho} (f:FuncId) (vs:Array Value) (cs:List AV) (hs:vs.size=cs.length) (h:∀j (h:j<cs.length),Rep w J ρ (vs.getD j undef) cs[j]):Rep w J ρ (.func (.func f) #[] vs) (.fn f cs)
def AV.scalar:AV->Bool
 | .val v=>v.oneCell'
 | .agg _| .tup _| .any=>false
 |_=>true
theorem Rep.oneCell{w:World} {J:Nat->Prop} {ρ:Rho} {v:Value} {x:AV}(h:Rep w J ρ v x)(hx:x.scalar=true):v.oneCell'=true:=by
 cases h<;>first|rfl|exact hx|cases hx
theorem Rep.mono{w w':World} {J J':Nat->Prop}(hJ:∀b,J b->b<w.heap.size->J' b/\w'.heap[b]? =w.heap[b]?)(hs:w.heap.size<=w'.heap.size)
 {ρ ρ':Rho} (hρ:∀id p,ρ id=some p->ρ' id=some p) {v:Value} {x:AV} (h:Rep w J ρ v x):Rep w' J' ρ' v x:=by
 induction h generalizing ρ' with
 |val v=>exact .val v
 |any v=>exact .any v
 |inil=>exact .inil
 |iemp a cap=>exact .iemp a cap
 |isl b off len cap cells u hb hc h0 h1 h2 ih=>
  refine .isl b off len cap cells u (λhne=>?_) hc h0 (λj hj=>?_) (λj hj=>ih j hj (λ_ _ h=>by cases h))
  ·obtain⟨a,c⟩:=hb hne;exact⟨(hJ b a c).1,omgz⟩
  ·have hne:cells≠[]:=by intro e;subst e;simp at hj
   obtain⟨a,c⟩:=hb hne
   rw[World.cell?_of_block (w:=w) (a:=⟨b,off+j,none⟩) (hJ b a c).2];exact h1 j hj
 |ipt b off k cells u hb h0 h1 h2 ih=>
  refine .ipt b off k cells u (λhne=>?_) h0 (λj hj=>?_) (λj hj=>ih j hj (λ_ _ h=>by cases h))
  ·obtain⟨a,c⟩:=hb hne;exact⟨(hJ b a c).1,omgz⟩
  ·have hne:cells≠[]:=by intro e;subst e;simp at hj
   obtain⟨a,c⟩:=hb hne
   rw[World.cell?_of_block (w:=w) (a:=⟨b,off+j,none⟩) (hJ b a c).2];exact h1 j hj
 |sl b s id off len es cap h hc hs=>exact .sl b s id off len es cap (hρ _ _ h) hc hs
 |pt b s id off h=>exact .pt b s id off (hρ _ _ h)
 |mp b s id h=>exact .mp b s id (hρ _ _ h)
 |yl b s id h=>exact .yl b s id (hρ _ _ h)
 |agg vs cs hs h ih=>exact .agg vs cs hs (λj hj=>ih j hj hρ)
 |tup vs cs hs h ih=>exact .tup vs cs hs (λj hj=>ih j hj hρ)
 |fn f vs cs hs h ih=>exact .fn f vs cs hs (λj hj=>ih j hj hρ)
theorem Rep.up{w:World} {J:Nat->Prop} {ρ:Rho} {v:Value} {x:AV}(h:Rep w J (λ_=>none) v x):Rep w J ρ v x:=by
 refine h.mono (J:=J) (J':=J) ?_ (Nat.le_refl _) ?_
 ·exact λb hb _=>⟨hb,rfl⟩
 ·exact λ_ _ h=>by cases h
def keyV(ag:Bool)(ks:List Int):Value:=if ag then .agg (ks.map λn=>Value.int .i64 n).toArray else .int .i64 (ks.headD 0)
inductive aC where
 |cells (cs:List AV) (elem:TypeId)
 |map (ag:Bool) (n:Nat) (l:List (List Int×AV))
 |full (cs:List AV) (elem:TypeId)
 |tr (H:jG) (j:Nat)
def aC.isTr:aC->Bool
 | .tr _ _=>true
 |_=>false
def trs:List aC->List jG
 |[]=>[]
 | .tr H _::l=>H::trs l
 |_::l=>trs l
theorem mO{l:List aC} {H:jG}:H∈trs l↔∃k,aC.tr H k∈l:=by
 induction l with
 |nil=>simp[trs]
 |cons o l ih=>cases o<;>simp[trs,ih,exists_or]
def ObjRep(w:World)(J:Nat->Prop)(ρ:Rho)(b s:Nat):aC->Prop
 | .cells cs e=>∃c,w.heap[b]? =some (.cells c e (0,0))/\c.size=s/\cs.length<=s/\(∀j (h:j<cs.length),(c.getD j undef).oneCell'=true/\Rep w J ρ (c.getD j undef) cs[j])/\c.all Value.oneCell'=true
 | .map ag n l=>∃(ms:Array MapEntry) (clock:Nat),w.heap[b]? =some (.map ms clock)/\(ms.size=l.length/\clock=l.length)/\
     ∀j (h:j<l.length),((ms.getD j default).key=keyV ag l[j].1/\l[j].1.length=n/\(ms.getD j default).born=j)/\Rep w J ρ ((ms.getD j default).val) l[j].2
 | .full cs e=>∃c,w.heap[b]? =some (.cells c e (0,0))/\c.size=s/\cs.length=s/\(∀j (h:j<cs.length),(c.getD j undef).oneCell'=true/\Rep w J ρ (c.getD j undef) cs[j])/\c.all Value.oneCell'=true
 | .tr H _=>b=H.l/\∃r,w.heap[b]? =some (.loop r)
theorem ObjRep.lt{w:World} {J:Nat->Prop} {ρ:Rho} {b s:Nat} {o:aC}(h:ObjRep w J ρ b s o):b<w.heap.size:=by
 cases o with
 |cells cs e=>obtain⟨c,hc,_⟩:=h;exact(Array.getElem?_eq_some_iff.1 hc).1
 |map ag n l=>obtain⟨ms,k,hc,_⟩:=h;exact(Array.getElem?_eq_some_iff.1 hc).1
 |full cs e=>obtain⟨c,hc,_⟩:=h;exact(Array.getElem?_eq_some_iff.1 hc).1
 |tr H j=>obtain⟨_,r,hc⟩:=h;exact(Array.getElem?_eq_some_iff.1 hc).1
theorem ObjRep.mono{w w':World} {J J':Nat->Prop} {ρ ρ':Rho}(hJ:∀b,J b->b<w.heap.size->J' b/\w'.heap[b]? =w.heap[b]?)(hs:w.heap.size<=w'.heap.size)
 (hρ:∀id p,ρ id=some p->ρ' id=some p) {b s:Nat} {o:aC} (hb:w'.heap[b]? =w.heap[b]?) (h:ObjRep w J ρ b s o):ObjRep w' J' ρ' b s o:=by
 cases o with
 |cells cs e=>
  obtain⟨c,hc,h1,h2,h3,h4⟩:=h
  exact⟨c,hb.trans hc,h1,h2,λj hj=>⟨(h3 j hj).1,(h3 j hj).2.mono hJ hs hρ⟩,h4⟩
 |map ag n l=>
  obtain⟨ms,k,hc,h1,h2⟩:=h
  exact⟨ms,k,hb.trans hc,h1,λj hj=>⟨(h2 j hj).1,(h2 j hj).2.mono hJ hs hρ⟩⟩
 |full cs e=>
  obtain⟨c,hc,h1,h2,h3,h4⟩:=h
  exact⟨c,hb.trans hc,h1,h2,λj hj=>⟨(h3 j hj).1,(h3 j hj).2.mono hJ hs hρ⟩,h4⟩
 |tr H j=>obtain⟨h1,r,hc⟩:=h;exact⟨h1,r,hb.trans hc⟩
def aQ{α:Type}:List (Nat×α)->Nat->Option α
 |[],_=>none
 |(k,v)::l,t=>if t=k then some v else aQ l t
theorem wI{α:Type}(l m:List (Nat×α))(t:Nat):aQ (l++m) t=(aQ l t).or (aQ m t):=by
 induction l with
 |nil=>simp[aQ]
 |cons x l ih=>obtain⟨k,v⟩:=x;simp only[List.cons_append,aQ];split<;>simp[ih]
theorem Bq{α:Type} {l:List (Nat×α)} {t:Nat}:aQ l t=none↔t ∉ l.map (·.1):=by
 induction l with
 |nil=>simp[aQ]
 |cons x l ih=>obtain⟨k,v⟩:=x;simp only[aQ,List.map_cons,List.mem_cons];split<;>simp_all
theorem kT{α:Type} {l:List (Nat×α)} {t:Nat} {v:α}(h:aQ l t=some v):(t,v)∈l:=by
 induction l with
 |nil=>simp[aQ] at h
 |cons x l ih=>
  obtain⟨k,u⟩:=x
  simp only[aQ] at h
  split at h
  ·rename_i e;subst e;cases h;exact List.mem_cons_self
  ·exact List.mem_cons_of_mem _ (ih h)
structure St where
 n:Nat
 m:Nat
 env:List (Nat×AV)
 objs:List (Nat×Option aC)
def St.ev(st:St)(t:Nat):AV:=(aQ st.env t).getD .any
def St.ob(st:St)(id:Nat):Option aC:=(aQ st.objs id).join
def ofV:Value->AV
 | .slice none 0 0=> .isl true [] 0
 |v=> .val v
theorem Vh(k:IntKind)(n:Int):ofV (.int k n)= .val (.int k n):=rfl
theorem OE(b:Bool):ofV (.bool b)= .val (.bool b):=rfl
theorem Vi(s:ByteArray):ofV (.string s)= .val (.string s):=rfl
theorem Vj(a:Option Addr):ofV (.pointer a)= .val (.pointer a):=rfl
theorem Vk:ofV (.slice none 0 0)= .isl true [] 0:=rfl
theorem Vl(a:Option Nat):ofV (.map a)= .val (.map a):=rfl
def yJ:List Int:=[0,1,28,2,29,14,24,3,30,22,20,15,25,17,4,8,31,27,13,23,21,19,16,7,26,12,18,6,11,5,10,9]
def tabP:List Int:=[1,10,100,1000,10000,100000,1000000,10000000,100000000,1000000000,10000000000,100000000000,1000000000000,10000000000000,100000000000000,1000000000000000,10000000000000000,100000000000000000,1000000000000000000,10000000000000000000]
def OG:Nat->Option (IntKind×List Int):=λg=>if g=0 then some (.u8,yJ) else if g=1 then some (.u64,tabP) else none
theorem Vm{g:Nat} {k:IntKind} {zs:List Int}(h:OG g=some (k,zs)):zs≠[]:=by
 unfold OG at h
 repeat' (first|(split at h)|(cases h;exact List.cons_ne_nil _ _)|(cases h;done))
def GV(g:Nat):AV:=match OG g with
 |some (k,zs)=> .ipt (zs.map λz=> .val (.int k z)) 0
 |none=> .val (.pointer (some ⟨g,0,none⟩))
def Laid(J:Nat->Prop)(w:World):Prop:=∀g k zs,OG g=some (k,zs)->J g/\g<w.heap.size/\∀i (h:i<zs.length),w.cell? ⟨g,i,none⟩=some (.int k zs[i])
theorem Laid.mono{J J':Nat->Prop} {w w':World}(h:Laid J w)(hJ:∀b,J b->b<w.heap.size->J' b/\w'.heap[b]? =w.heap[b]?)(hs:w.heap.size<=w'.heap.size):Laid J' w':=λg k zs hg=>by
 obtain⟨h1,h2,h3⟩:=h g k zs hg
 obtain⟨k1,k2⟩:=hJ g h1 h2
 exact⟨k1,omgz,λi hi=>by rw[World.cell?_of_block (w:=w) (a:=⟨g,i,none⟩) k2];exact h3 i hi⟩
theorem Laid.rep{J:Nat->Prop} {w:World} {ρ:Rho}(h:Laid J w)(g:Nat):Rep w J ρ (.pointer (some ⟨g,0,none⟩)) (GV g):=by
 unfold GV
 split
 ·rename_i kd zs hg
  obtain⟨h1,h2,h3⟩:=h g kd zs hg
  have:=Rep.ipt (w:=w) (J:=J) (ρ:=ρ) g 0 0 (zs.map λz=>AV.val (.int kd z)) (λi=> .int kd (zs.getD i 0)) (λ_=>⟨h1,h2⟩) (λj hj=>rfl) (λj hj=>by
   have hj':j<zs.length:=by simpa using hj
   simpa[hj'] using h3 j hj') (λj hj=>by
   have hj':j<zs.length:=by simpa using hj
   have:(zs.map λz=>AV.val (.int kd z))[j]= .val (.int kd (zs.getD j 0)):=by simp[hj']
   rw[this];exact .val _)
  simpa using this
 ·exact .val _
def St.op(st:St):Operand->AV
 | .tmp t=>st.ev t
 | .const v=>ofV v
 | .global g=>GV g
 | .func f=> .fn f []
theorem og{w:World} {J:Nat->Prop} {ρ:Rho}(v:Value):Rep w J ρ v (ofV v):=by
 unfold ofV
 split
 ·exact .inil
 ·exact .val _
structure Eff where
 v:AV
 upd:List (Nat×Option aC)
def Eff.keys(e:Eff):List Nat:=e.upd.map (·.1)
def St.put(st:St)(dst:Option Nat)(v:AV):St:=match dst with
 |some d=>{st with env:=(d,v)::st.env}
 |none=>st
def St.app(st:St)(dst:Option Nat)(e:Eff):St:={st.put dst e.v with objs:=e.upd++st.objs}
theorem St.ob_app(st:St)(dst:Option Nat)(e:Eff)(id:Nat):(st.app dst e).ob id=if id∈e.keys then(aQ e.upd id).join else st.ob id:=by
 have h0:(st.put dst e.v).objs=st.objs:=by unfold St.put;split<;>rfl
 simp only[St.ob,St.app,wI]
 cases h:aQ e.upd id with
 |none=>rw[if_neg (by simpa[Eff.keys] using Bq.1 h)];simp
 |some x=>
  have:id∈e.keys:=by
   refine Classical.byContradiction λhn=>?_
   have:=(Bq (l:=e.upd) (t:=id)).2 hn
   rw[this] at h;cases h
  rw[if_pos this];simp
structure Ctx where
 w0:World
 A:Nat->Prop
 I:Nat->Prop
 pin:Rho
 rd:Option Nat
 tr:jG->Prop
structure ah5(c:Ctx)(w:World):Prop where
 size:c.w0.heap.size<=w.heap.size
 os:w.os=c.w0.os
 tape:w.tape=c.w0.tape
 output:w.output=c.w0.output
 block:∀b,b<c.w0.heap.size->¬c.I b->w.heap[b]? =c.w0.heap[b]?
def Mi(D:Nat):Deferred:={target:= .collected D,args:= #[]}
def Marks(c:Ctx)(J:Nat->Prop)(w:World)(ds:List Deferred):Prop:=
 (∃l:List Nat,ds=l.map Mi/\l.Nodup/\∀D∈l,w.heap[D]? =some (.deferred (some []))/\J D/\c.w0.heap.size<=D)/\∀l,c.rd=some l->ds=[]/\¬c.I l/\∃r,c.w0.heap[l]? =some (.loop r)
theorem ObjRep.not_def{w:World} {J:Nat->Prop} {ρ:Rho} {b s:Nat} {o:aC} {x:Option (List Deferred)}(h:ObjRep w J ρ b s o)(k:w.heap[b]? =some (.deferred x)):False:=by
 cases o with
 |cells cs e=>obtain⟨c,hc,_⟩:=h;rw[hc] at k;cases k
 |map ag n l=>obtain⟨c,_,hc,_⟩:=h;rw[hc] at k;cases k
 |full cs e=>obtain⟨c,hc,_⟩:=h;rw[hc] at k;cases k
 |tr H j=>obtain⟨_,r,hc⟩:=h;rw[hc] at k;cases k
theorem Marks.nil{c:Ctx} {J:Nat->Prop} {w:World}(h:∀l,c.rd=some l->¬c.I l/\∃r,c.w0.heap[l]? =some (.loop r)):Marks c J w []:=⟨⟨[],rfl,.nil,λ_ h=>(by cases h)⟩,λl hl=>⟨rfl,h l hl⟩⟩
theorem Marks.same{c:Ctx} {J J':Nat->Prop} {w w':World} {ds:List Deferred}(h:Marks c J w ds)(k:∀D,J D->D<w.heap.size->w'.heap[D]? =w.heap[D]? /\J' D):Marks c J' w' ds:=by
 obtain⟨⟨l,h1,h2,h3⟩,h4⟩:=h
 refine⟨⟨l,h1,h2,λD hD=>?_⟩,h4⟩
 obtain⟨k1,k2,k3⟩:=h3 D hD
 have:=k D k2 (Array.getElem?_eq_some_iff.1 k1).1
 exact⟨this.1.trans k1,this.2,k3⟩
def Xm(c:Ctx)(J:Nat->Prop)(ob:Nat->Option aC)(ρ:Rho)(w:World)(b:Nat):Prop:=
 b<w.heap.size/\(c.I b\/c.w0.heap.size<=b)/\¬J b/\∀id o s,ob id=some o->ρ id≠some (b,s)
structure Hid(c:Ctx)(J:Nat->Prop)(ob:Nat->Option aC)(ρ:Rho)(w:World):Prop where
 one:∀id id' H H' j j',ob id=some (.tr H j)->ob id'=some (.tr H' j')->id=id'
 on:∀id H j,ob id=some (.tr H j)->H.G j (Xm c J ob ρ w) w/\(∀b,H.B b->b<c.w0.heap.size/\¬c.I b)/\c.tr H
theorem Hid.none{c:Ctx} {J:Nat->Prop} {ob:Nat->Option aC} {ρ:Rho} {w:World}(h:∀id H j,ob id≠some (.tr H j)):Hid c J ob ρ w:=
 ⟨λid _ H _ j _ k _=>absurd k (h id H j),λid H j k=>absurd k (h id H j)⟩
theorem Hid.step{c:Ctx} {J J':Nat->Prop} {ob ob':Nat->Option aC} {ρ ρ':Rho} {w w':World}(h:Hid c J ob ρ w)(τ:Nat->Nat)(sub:∀id H j,ob' id=some (.tr H j)->ob (τ id)=some (.tr H j))
 (inj:∀id id' H H' j j',ob' id=some (.tr H j)->ob' id'=some (.tr H' j')->τ id=τ id'->id=id') (hsz:w.heap.size<=w'.heap.size) (ho:w'.os=w.os) (ht:w'.tape=w.tape) (hu:w'.output=w.output)
 (sX:∀b,Xm c J ob ρ w b->w'.heap[b]? =w.heap[b]?) (sB:∀b,b<c.w0.heap.size->¬c.I b->w'.heap[b]? =w.heap[b]?) (sL:∀id H j,ob' id=some (.tr H j)->w'.heap[H.l]? =w.heap[H.l]?)
 (mono:∀b,Xm c J ob ρ w b->Xm c J' ob' ρ' w' b) (nl:∀id H j,ob' id=some (.tr H j)->¬Xm c J' ob' ρ' w' H.l):Hid c J' ob' ρ' w':=by
 refine⟨λid id' H H' j j' h1 h2=>inj id id' H H' j j' h1 h2 (h.one _ _ _ _ _ _ (sub _ _ _ h1) (sub _ _ _ h2)),λid H j hid=>?_⟩
 obtain⟨h1,h2,h3⟩:=h.on _ _ _ (sub _ _ _ hid)
 refine⟨H.keep h1 hsz ho ht hu (λb hb=>?_) mono (λb hb=>⟨hb.1,λhB=>?_,λe=>nl _ _ _ hid (e▸hb)⟩),h2,h3⟩
 ·rcases hb with hb|hb|hb
  ·exact sX b hb
  ·exact sB b (h2 b hb).1 (h2 b hb).2
  ·subst hb;exact sL _ _ _ hid
 ·have:=h2 b hB
  rcases hb.2.1 with h|h
  ·exact this.2 h
  ·omega
structure Sim(c:Ctx)(ρ:Rho)(D J:Nat->Prop)(st:St)(a:Act)(w:World):Prop where
 defers:Marks c J w a.defers
 tmps:a.tmps.size=st.n
 env:∀t,Rep w J ρ (a.tmps.getD t undef) (st.ev t)
 obj:∀id o,st.ob id=some o->∃b s,ρ id=some (b,s)/\ObjRep w J ρ b s o/\(c.I b\/c.w0.heap.size<=b)/\¬J b
 inj:∀id id' o o' b s s',st.ob id=some o->st.ob id'=some o'->ρ id=some (b,s)->ρ id'=some (b,s')->id=id'
 dom:∀id p,ρ id=some p->D id
 jok:∀b,J b->c.A b\/c.I b\/c.w0.heap.size<=b
 jlt:∀b,J b->b<w.heap.size
 ilt:∀b,c.I b->b<c.w0.heap.size
 pin:∀j,j<st.m->∃p,c.pin j=some p/\ρ j=some p
 kept:ah5 c w
 hid:Hid c J st.ob ρ w
 laid:Laid J w
theorem Sim.nl{c:Ctx} {ρ:Rho} {D J:Nat->Prop} {st:St} {a:Act} {w:World}(hs:Sim c ρ D J st a w){id:Nat} {H:jG} {j:Nat}(h:st.ob id=some (.tr H j)):∃s r,ρ id=some (H.l,s)/\w.heap[H.l]? =some (.loop r)/\¬J H.l/\(c.I H.l\/c.w0.heap.size<=H.l):=by
 obtain⟨b,s,h1,⟨rfl,r,h2⟩,h3,h4⟩:=hs.obj _ _ h
 exact⟨s,r,h1,h2,h4,h3⟩
theorem Sim.hid_of{c:Ctx} {ρ ρ':Rho} {D J J':Nat->Prop} {st st':St} {a:Act} {w:World}(hs:Sim c ρ D J st a w)(τ:Nat->Nat)(sub:∀id o,st'.ob id=some o->∃o0,st.ob (τ id)=some o0/\(∀H j,o= .tr H j->o0= .tr H j)/\ρ' id=ρ (τ id))
 (inj:∀id id' H H' j j',st'.ob id=some (.tr H j)->st'.ob id'=some (.tr H' j')->τ id=τ id'->id=id') (hJ:∀b,J' b->J b\/∃id o s,st.ob id=some o/\ρ id=some (b,s)):Hid c J' st'.ob ρ' w:=by
 refine hs.hid.step τ (λid H j h=>?_) inj (Nat.le_refl _) rfl rfl rfl (λ_ _=>rfl) (λ_ _ _=>rfl) (λ_ _ _ _=>rfl) (λb hb=>⟨hb.1,hb.2.1,λhj=>?_,λid o s h1 h2=>?_⟩) (λid H j h hx=>?_)
 ·obtain⟨o0,h1,h2,_⟩:=sub _ _ h
  rw[h1,h2 H j rfl]
 ·rcases hJ b hj with h|⟨id,o,s,h1,h2⟩
  ·exact hb.2.2.1 h
  ·exact hb.2.2.2 id o s h1 h2
 ·obtain⟨o0,k1,_,k2⟩:=sub _ _ h1
  exact hb.2.2.2 _ _ _ k1 (k2▸h2)
 ·obtain⟨o0,k1,k3,k2⟩:=sub _ _ h
  have:=k3 H j rfl;subst this
  obtain⟨s,r,g1,_⟩:=hs.nl k1
  exact hx.2.2.2 _ _ _ h (k2.trans g1)
def vE(upd:List (Nat×Option aC)):Prop:=∃p∈upd,∃H j,p.2=some (.tr H j)
theorem lX:¬vE []:=λ⟨_,h,_⟩=>by cases h
theorem qG{i:Nat} {o:aC} {l:List (Nat×Option aC)}(ho:o.isTr=false)(h:¬vE l):¬vE ((i,some o)::l):=by
 rintro⟨p,hp,H,j,e⟩
 rcases List.mem_cons.1 hp with rfl|hp
 ·simp only[Option.some.injEq] at e;subst e;cases ho
 ·exact h ⟨p,hp,H,j,e⟩
theorem lY{i:Nat} {l:List (Nat×Option aC)}(h:¬vE l):¬vE ((i,none)::l):=by
 rintro⟨p,hp,H,j,e⟩
 rcases List.mem_cons.1 hp with rfl|hp
 ·cases e
 ·exact h ⟨p,hp,H,j,e⟩
def Fr(c:Ctx)(J:Nat->Prop)(st:St)(ρ:Rho)(w:World)(e:Eff)(b:Nat):Prop:=w.heap.size<=b\/(vE e.upd/\Xm c J st.ob ρ w b)
structure OD(c:Ctx)(nid k:Nat)(st:St)(e:Eff)(ρ ρ':Rho)(J J':Nat->Prop)(w w':World)(v:Value):Prop where
 size:w.heap.size<=w'.heap.size
 os:w'.os=w.os
 tape:w'.tape=w.tape
 output:w'.output=w.output
 same:∀b,b<w.heap.size->(∀id o s,id∈e.keys->st.ob id=some o->ρ id≠some (b,s))->(vE e.upd->¬Xm c J st.ob ρ w b)->w'.heap[b]? =w.heap[b]?
 ρmono:∀id p,ρ id=some p->ρ' id=some p
 ρnew:∀id p,ρ' id=some p->ρ id=some p\/(nid<=id/\id<nid+k)
 Jmono:∀b,J b->J' b
 Jnew:∀b,J' b->J b\/(Fr c J st ρ w e b/\b<w'.heap.size)\/∃id o s,id∈e.keys/\st.ob id=some o/\ρ id=some (b,s)
 val:Rep w' J' ρ' v e.v
 obj:∀id o,aQ e.upd id=some (some o)->∃b s,ρ' id=some (b,s)/\ObjRep w' J' ρ' b s o/\¬J' b/\
  (Fr c J st ρ w e b\/∃id0 o0 s0,id0∈e.keys/\st.ob id0=some o0/\ρ id0=some (b,s0))
 inj:∀id id' o o' b s s',aQ e.upd id=some (some o)->aQ e.upd id'=some (some o')->ρ' id=some (b,s)->ρ' id'=some (b,s')->id=id'
 hid:vE e.upd->Hid c J' (st.app none e).ob ρ' w'
def OpT(P:Program)(o:Oper)(nid k:Nat)(st:St)(e:Eff):Prop:=
 ∀(c:Ctx) (ρ:Rho) (D J:Nat->Prop) (a:Act) (w:World),Sim c ρ D J st a w->(∀i,nid<=i->i<nid+k->¬D i)->
  ∀(r:Option Nat) (K:Act->World->Prop) (Q:Exit->Act->World->Prop),(∀v w' ρ' J',OD c nid k st e ρ ρ' J J' w w' v->K (a.put o.dst v) w')->o.wpIn (fen r) 0 P a w K Q
theorem tu{P:Program} {o:Oper} {a:Act} {w w':World} {y:Next}(h:(execOp a.eval o).run P w= .ok y w')(hy:∀d,y≠ .defer d):∀cl,o.op≠ .defer cl:=by
 intro cl ho
 unfold execOp at h
 rw[ho] at h
 simp only[Sem.run_bind] at h
 cases hx:(resolve a.eval cl o.type).run P w with
 |ok d w1=>
  rw[hx] at h
  simp only[Result.andThen,Sem.run_pure,Result.ok.injEq] at h
  exact hy d h.1.symm
 |halt u w1=>rw[hx] at h;simp[Result.andThen] at h
theorem lZ{P:Program} {o:Oper} {a:Act} {w w':World} {v:Value} {r:Option Nat} {n:Nat} {K:Act->World->Prop} {Q:Exit->Act->World->Prop}(h:(execOp a.eval o).run P w= .ok (.value v) w')(hK:K (a.put o.dst v) w'):o.wpIn (fen r) n P a w K Q:=by
 refine⟨λ_ _=>trivial,?_⟩
 rw[Oper.semAt_eq _ _ _ (tu h (λd=>by simp)),h]
 exact hK
theorem Co{P:Program} {o:Oper} {a:Act} {w w':World} {r:Option Nat} {n:Nat} {K:Act->World->Prop} {Q:Exit->Act->World->Prop}(h:(execOp a.eval o).run P w= .ok .skip w')(hK:K (a.put o.dst undef) w'):o.wpIn (fen r) n P a w K Q:=by
 refine⟨λ_ _=>trivial,?_⟩
 rw[Oper.semAt_eq _ _ _ (tu h (λd=>by simp)),h]
 exact hK
theorem o9{r:Option Nat} {n:Nat} {P:Program} {f:FuncId} {args:Array Value} {w:World} {R:Ending->World->Prop}:CallsIn (fen r) n P f args w R↔Calls P f args w R:=
 ⟨λh=>callsIn_wide.1 h,λh=>callsIn_wide.2 h⟩
theorem GX{P:Program} {o:Oper} {a:Act} {w w':World} {f:FuncId} {vs:Array Value} {r:Option Nat} {n:Nat} {K:Act->World->Prop} {Q:Exit->Act->World->Prop}(h:(execOp a.eval o).run P w= .ok (.enter f vs) w')
 (hK:Calls P f vs w' λe w''=>∃v,e= .returned v/\K (a.put o.dst v) w''):o.wpIn (fen r) n P a w K Q:=by
 refine⟨λ_ _=>trivial,?_⟩
 rw[Oper.semAt_eq _ _ _ (tu h (λd=>by simp)),h]
 refine⟨λe=>by simp[fen,Fence.wide] at e,o9.2 (hK.mono ?_)⟩
 rintro e w'' ⟨v,rfl,hv⟩
 exact hv
theorem GY{P:Program} {o:Oper} {a:Act} {w w':World} {l:Nat} {f:FuncId} {tmps:Array Value} {as body:Code} {r:Option Nat} {n:Nat} {K:Act->World->Prop} {Q:Exit->Act->World->Prop}(h:(execOp a.eval o).run P w= .ok (.round l f tmps as body) w')
 (hK:RoundIn (fen r) (n-1) P l f tmps as body w' λe w''=>∃v,e= .returned v/\K (a.put o.dst v) w''):o.wpIn (fen r) n P a w K Q:=by
 refine⟨λ_ _=>trivial,?_⟩
 rw[Oper.semAt_eq _ _ _ (tu h (λd=>by simp)),h]
 refine⟨λe=>by simp[fen,Fence.wide] at e,hK.mono ?_⟩
 rintro e w'' ⟨v,rfl,hv⟩
 exact hv
theorem Sim.old_ne{c:Ctx} {ρ:Rho} {D J:Nat->Prop} {st:St} {a:Act} {w:World}(h:Sim c ρ D J st a w){b:Nat}(hb:J b):
 ∀id o s,st.ob id=some o->ρ id≠some (b,s):=by
 intro id o s ho hr
 obtain⟨b',s',hr',_,_,hn⟩:=h.obj id o ho
 rw[hr] at hr';cases hr';exact hn hb
theorem Sim.app{c:Ctx} {ρ ρ':Rho} {D J J':Nat->Prop} {st:St} {a:Act} {w w':World} {v:Value} {nid k:Nat} {e:Eff} {dst:Option Nat} {D':Nat->Prop}
 (h:Sim c ρ D J st a w) (p:OD c nid k st e ρ ρ' J J' w w' v) (hd:∀d,dst=some d->d<st.n) (hD:∀i,D i\/(nid<=i/\i<nid+k)->D' i):
 Sim c ρ' D' J' (st.app dst e) (a.put dst v) w':=by
 have hJ:∀b,J b->b<w.heap.size->J' b/\w'.heap[b]? =w.heap[b]? :=λb hb hlt=>⟨p.Jmono b hb,p.same b hlt (λid o s _ ho=>h.old_ne hb id o s ho) (λ_ hx=>hx.2.2.1 hb)⟩
 have hmono:∀{v x},Rep w J ρ v x->Rep w' J' ρ' v x:=λhr=>hr.mono hJ p.size p.ρmono
 have hn:(st.app dst e).n=st.n:=by unfold St.app St.put;split<;>rfl
 -- the block of an object that is not touched
 have hun:∀{id o b s},st.ob id=some o->ρ id=some (b,s)->id ∉ e.keys->b<w.heap.size->w'.heap[b]? =w.heap[b]? :=λ{id o b s} ho h1 hk hlt=>
  p.same b hlt (λid' o' s' hk' ho' hr'=>hk (by rw[h.inj id id' o o' b s s' ho ho' h1 hr'];exact hk')) (λ_ hx=>hx.2.2.2 _ _ _ ho h1)
 have hkept:∀b,b<c.w0.heap.size->¬c.I b->w'.heap[b]? =w.heap[b]? :=λb hb hI=>p.same b (Nat.lt_of_lt_of_le hb h.kept.size) (λid o s _ ho hr=>by
  obtain⟨b',s',hr',_,hor,_⟩:=h.obj id o ho
  rw[hr] at hr';cases hr'
  rcases hor with hor|hor
  ·exact hI hor
  ·omega) (λ_ hx=>by
  rcases hx.2.1 with h|h
  ·exact hI h
  ·omega)
 have key:∀{id:Nat} {o:aC},id∈e.keys->(aQ e.upd id).join=some o->aQ e.upd id=some (some o):=by
  intro id o _ h;cases hl:aQ e.upd id with|none=>simp[hl] at h|some x=>rw[hl] at h;simpa using h
 refine⟨?_,?_,?_,?_,?_,?_,?_,?_,?_,?_,?_,?_,h.laid.mono hJ p.size⟩
 ·have hds:(a.put dst v).defers=a.defers:=by unfold Act.put;split<;>rfl
  rw[hds]
  exact h.defers.same λD k1 k2=>⟨(hJ D k1 k2).2,(hJ D k1 k2).1⟩
 ·rw[hn];unfold Act.put;split
  ·simpa using h.tmps
  ·exact h.tmps
 ·intro t
  cases dst with
  |none=>exact hmono (h.env t)
  |some d=>
   have hdn:=hd d rfl
   rw[<-h.tmps] at hdn
   simp only[Act.put,St.app,St.put,St.ev,aQ]
   by_cases ht:t=d
   ·subst ht
    rw[if_pos rfl]
    have:(a.tmps.setIfInBounds t v).getD t undef=v:=by simp[Array.getD,hdn]
    rw[this];exact p.val
   ·rw[if_neg ht]
    have:(a.tmps.setIfInBounds d v).getD t undef=a.tmps.getD t undef:=by
     simp[Array.getD_eq_getD_getElem?,Array.getElem?_setIfInBounds,Ne.symm ht]
    rw[this];exact hmono (h.env t)
 ·intro id o ho
  rw[St.ob_app] at ho
  split at ho
  ·rename_i hk
   obtain⟨b,s,h1,h2,h3,h4⟩:=p.obj id o (key hk ho)
   refine⟨b,s,h1,h2,?_,h3⟩
   rcases h4 with(h4|⟨_,h4⟩)|⟨id0,o0,s0,_,h5,h6⟩
   ·exact .inr (by have:=h.kept.size;omega)
   ·exact h4.2.1
   ·obtain⟨b',s',h7,_,h8,_⟩:=h.obj id0 o0 h5
    rw[h6] at h7;cases h7;exact h8
  ·rename_i hk
   obtain⟨b,s,h1,h2,h3,h4⟩:=h.obj id o ho
   refine⟨b,s,p.ρmono _ _ h1,h2.mono hJ p.size p.ρmono (hun ho h1 hk h2.lt),h3,λhj=>?_⟩
   rcases p.Jnew b hj with hj|⟨hj|⟨_,hj⟩,_⟩|⟨id0,o0,s0,g1,g2,g3⟩
   ·exact h4 hj
   ·have:=h2.lt;omega
   ·exact hj.2.2.2 _ _ _ ho h1
   ·exact hk (by rw[h.inj id id0 o o0 b s s0 ho g2 h1 g3];exact g1)
 ·intro id id' o o' b s s' ho ho' hr hr'
  rw[St.ob_app] at ho ho'
  -- a new one and an old one never share a block
  have mix:∀{id id':Nat} {o o':aC} {b s s':Nat},id∈e.keys->aQ e.upd id=some (some o)->¬id'∈e.keys->st.ob id'=some o'->ρ' id=some (b,s)->ρ' id'=some (b,s')->False:=by
   intro id id' o o' b s s' hk hl hk' ho' hr hr'
   obtain⟨b1,s1,h1,_,_,h4⟩:=p.obj id o hl
   rw[hr] at h1;cases h1
   obtain⟨b2,s2,h5,h6,_,_⟩:=h.obj id' o' ho'
   have:=p.ρmono _ _ h5
   rw[hr'] at this;cases this
   rcases h4 with(h4|⟨_,h4⟩)|⟨id0,o0,s0,hk0,h7,h8⟩
   ·have:=h6.lt;omega
   ·exact h4.2.2.2 _ _ _ ho' h5
   ·exact hk' (by rw[h.inj id' id0 o' o0 b _ s0 ho' h7 h5 h8];exact hk0)
  split at ho<;>split at ho'
  ·rename_i k1 k2;exact p.inj id id' o o' b s s' (key k1 ho) (key k2 ho') hr hr'
  ·rename_i k1 k2;exact(mix k1 (key k1 ho) k2 ho' hr hr').elim
  ·rename_i k1 k2;exact(mix k2 (key k2 ho') k1 ho hr' hr).elim
  ·obtain⟨b1,s1,h1,_⟩:=h.obj id o ho
   obtain⟨b2,s2,h2,_⟩:=h.obj id' o' ho'
   have e1:=p.ρmono _ _ h1;rw[hr] at e1;cases e1
   have e2:=p.ρmono _ _ h2;rw[hr'] at e2;cases e2
   exact h.inj id id' o o' b _ _ ho ho' h1 h2
 ·intro id q hq
  rcases p.ρnew id q hq with hq|hq
  ·exact hD id (.inl (h.dom id q hq))
  ·exact hD id (.inr hq)
 ·intro b hb
  rcases p.Jnew b hb with hb'|⟨hb'|⟨_,hb'⟩,_⟩|⟨id0,o0,s0,g1,g2,g3⟩
  ·exact h.jok b hb'
  ·have hk:=h.kept.size
   exact .inr (.inr omgz)
  ·exact .inr hb'.2.1
  ·obtain⟨b1,s1,k1,_,k3,_⟩:=h.obj id0 o0 g2
   rw[g3] at k1;cases k1;exact .inr k3
 ·intro b hb
  rcases p.Jnew b hb with hb'|hb'|⟨id0,o0,s0,g1,g2,g3⟩
  ·have:=h.jlt b hb';have:=p.size;omega
  ·exact hb'.2
  ·obtain⟨b1,s1,k1,k2,_⟩:=h.obj id0 o0 g2
   rw[g3] at k1;cases k1;have:=k2.lt;have:=p.size;omega
 ·exact h.ilt
 ·intro j hj
  have em:(st.app dst e).m=st.m:=by unfold St.app St.put;split<;>rfl
  rw[em] at hj
  obtain⟨q,h1,h2⟩:=h.pin j hj
  exact⟨q,h1,p.ρmono _ _ h2⟩
 ·have hk:=h.kept
  exact⟨Nat.le_trans hk.size p.size,p.os.trans hk.os,p.tape.trans hk.tape,p.output.trans hk.output,λb hb hI=>(hkept b hb hI).trans (hk.block b hb hI)⟩
 ·refine Classical.byCases (λht:vE e.upd=>p.hid ht) λht=>?_
  have hold:∀{id H j},(st.app dst e).ob id=some (.tr H j)->id ∉ e.keys/\st.ob id=some (.tr H j):=λ{id H j} ho=>by
   rw[St.ob_app] at ho
   split at ho
   ·rename_i hk;exact absurd ⟨_,kT (key hk ho),H,j,rfl⟩ ht
   ·rename_i hk;exact⟨hk,ho⟩
  refine h.hid.step id (λid H j ho=>(hold ho).2) (λ_ _ _ _ _ _ _ _ e=>e) p.size p.os p.tape p.output (λb hb=>p.same b hb.1 (λid o s _ ho=>hb.2.2.2 id o s ho) (λh=>absurd h ht)) hkept
   (λid H j ho=>?_) (λb hb=>⟨Nat.lt_of_lt_of_le hb.1 p.size,hb.2.1,λhj=>?_,λid o s ho hr=>?_⟩) (λid H j ho hx=>?_)
  ·obtain⟨h1,h2⟩:=hold ho
   obtain⟨s,r,h3,h4,_⟩:=h.nl h2
   exact hun h2 h3 h1 (Array.getElem?_eq_some_iff.1 h4).1
  ·rcases p.Jnew b hj with hj|⟨hj|⟨hj,_⟩,_⟩|⟨id0,o0,s0,g1,g2,g3⟩
   ·exact hb.2.2.1 hj
   ·have:=hb.1;omega
   ·exact ht hj
   ·exact hb.2.2.2 _ _ _ g2 g3
  ·rw[St.ob_app] at ho
   split at ho
   ·rename_i hk
    obtain⟨b1,s1,h1,_,_,h4⟩:=p.obj id o (key hk ho)
    rw[hr] at h1;cases h1
    rcases h4 with(h4|⟨h4,_⟩)|⟨id0,o0,s0,_,h5,h6⟩
    ·have:=hb.1;omega
    ·exact ht h4
    ·exact hb.2.2.2 _ _ _ h5 h6
   ·obtain⟨b1,s1,h1,_⟩:=h.obj id o ho
    have e1:=p.ρmono _ _ h1;rw[hr] at e1;cases e1
    exact hb.2.2.2 _ _ _ ho h1
  ·obtain⟨h1,h2⟩:=hold ho
   obtain⟨s,r,h3,_⟩:=h.nl h2
   exact hx.2.2.2 _ _ _ ho (p.ρmono _ _ h3)
end
section
def siz(P:Program)(t:TypeId):Option Nat:=(P.info? t).map (·.size)
def byt(P:Program)(t:TypeId):Option Nat:=(P.info? t).map (·.bytes)
def jy(P:Program)(t:TypeId):Option Bool:=(P.underlying t).map λ| .struct _| .array _ _=>true|_=>false
def qH(P:Program)(t i:Nat):Option (Nat×TypeId):=match P.underlying t with
 |some (.struct fs)=>(fs[i]?).map λf=>(f.offset,f.type)
 |_=>none
def jf(P:Program)(t:TypeId):Option TypeId:=match P.underlying t with|some (.slice e)=>some e|_=>none
def yK(P:Program)(t:TypeId):Option (Nat×TypeId):=match P.underlying t with|some (.array n e)=>some (n,e)|_=>none
def nJ(P:Program)(t:TypeId):Option IntKind:=match P.underlying t with|some (.int k)=>some k|_=>none
def qI(P:Program)(t:TypeId):Bool:=match P.underlying t with|some .bool=>true|_=>false
def vF(P:Program)(t:TypeId):Bool:=match P.underlying t with|some (.pointer _)=>true|_=>false
def si(P:Program)(t:TypeId):Bool:=match P.underlying t with|some .string=>true|_=>false
section
variable {P:Program} {w:World} {t:TypeId}
theorem dx{n:Nat}(h:siz P t=some n):(sizeOf t).run P w= .ok n w:=by
 unfold siz at h
 cases hi:P.info? t with
 |none=>simp[hi] at h
 |some i=>simp[hi] at h;simp[sizeOf,typeInfo,hi,h]
theorem fq{b:Bool}(h:jy P t=some b):(isAgg t).run P w= .ok b w:=by
 unfold jy at h
 cases hi:P.underlying t with
 |none=>simp[hi] at h
 |some d=>
  simp[hi] at h
  unfold isAgg
  rw[Sem.run_bind,run_underlying hi]
  cases d<;>simp_all
theorem wJ{i off:Nat} {ft:TypeId}(h:qH P t i=some (off,ft)):∃fs f,P.underlying t=some (.struct fs)/\fs[i]? =some f/\f.offset=off/\f.type=ft:=by
 unfold qH at h
 split at h
 ·rename_i fs hu
  cases hf:fs[i]? with
  |none=>simp[hf] at h
  |some f=>simp[hf] at h;exact⟨fs,f,hu,hf,h.1,h.2⟩
 ·cases h
theorem bg{e:TypeId}(h:jf P t=some e):P.underlying t=some (.slice e):=by
 unfold jf at h;split at h
 ·rename_i u hu;cases h;exact hu
 ·cases h
theorem lT{n:Nat} {e:TypeId}(h:yK P t=some (n,e)):P.underlying t=some (.array n e):=by
 unfold yK at h;split at h
 ·rename_i u hu;cases h;assumption
 ·cases h
theorem gG{k:IntKind}(h:nJ P t=some k):P.underlying t=some (.int k):=by
 unfold nJ at h;split at h
 ·rename_i u hu;cases h;assumption
 ·cases h
theorem Et(h:qI P t=true):P.underlying t=some .bool:=by
 unfold qI at h;split at h
 ·assumption
 ·cases h
theorem sj(h:vF P t=true):∃e,P.underlying t=some (.pointer e):=by
 unfold vF at h;split at h
 ·exact⟨_,by assumption⟩
 ·cases h
theorem iL(h:si P t=true):P.underlying t=some .string:=by
 unfold si at h;split at h
 ·assumption
 ·cases h
end
theorem Sim.op{c:Ctx} {ρ:Rho} {D J:Nat->Prop} {st:St} {a:Act} {w:World}(h:Sim c ρ D J st a w)(x:Operand):Rep w J ρ (a.eval x) (st.op x):=by
 cases x with
 |tmp t=>exact h.env t
 |const v=>exact og v
 |global g=>exact h.laid.rep g
 |func f=>exact .fn f #[] [] rfl (λj hj=>by simp at hj)
theorem OpT.pure{P:Program} {o:Oper} {nid:Nat} {st:St} {x:AV}
 (h:∀(c:Ctx) (ρ:Rho) (D J:Nat->Prop) (a:Act) (w:World),Sim c ρ D J st a w->∃v,(execOp a.eval o).run P w= .ok (.value v) w/\Rep w J ρ v x):OpT P o nid 0 st ⟨x,[]⟩:=by
 intro c ρ D J a w hs _ _ K Q hK
 obtain⟨v,hr,hv⟩:=h c ρ D J a w hs
 refine lZ hr ?_
 exact hK v w ρ J ⟨Nat.le_refl _,rfl,rfl,rfl,λ_ _ _ _=>rfl,λ_ _ h=>h,λ_ _ h=> .inl h,λ_ h=>h,λ_ h=> .inl h,hv,λid o h=>by simp[aQ] at h,λid id' o o' b s s' h=>by simp[aQ] at h,λh=>absurd h lX⟩
theorem aG{w:World} {J:Nat->Prop} {ρ:Rho} {v u:Value}(h:Rep w J ρ v (.val u)):v=u:=by cases h;rfl
def jH(P:Program)(op:BinOp)(t:TypeId)(x y:Value):Option Value:=
 match op,x,y with
 | .shl,.int k a,.int _ b=>if b<0 then none else some (.int k (k.wrap (a*2^(min b.toNat k.bits))))
 | .shr,.int k a,.int _ b=>if b<0 then none else some (.int k (a.fdiv (2^(min b.toNat k.bits))))
 | .add,.int k a,.int k' b=>if k=k' then some (.int k (k.wrap (a+b))) else none
 | .sub,.int k a,.int k' b=>if k=k' then some (.int k (k.wrap (a-b))) else none
 | .mul,.int k a,.int k' b=>if k=k' then some (.int k (k.wrap (a*b))) else none
 | .quo,.int k a,.int k' b=>if k=k'/\b≠0 then some (.int k (k.wrap (a.tdiv b))) else none
 | .rem,.int k a,.int k' b=>if k=k'/\b≠0 then some (.int k (a.tmod b)) else none
 | .and,.int k a,.int k' b=>if k=k' then some (.int k (k.wrap (BitVec.ofInt k.bits a&&&BitVec.ofInt k.bits b).toNat)) else none
 | .or,.int k a,.int k' b=>if k=k' then some (.int k (k.wrap (BitVec.ofInt k.bits a|||BitVec.ofInt k.bits b).toNat)) else none
 | .xor,.int k a,.int k' b=>if k=k' then some (.int k (k.wrap (BitVec.ofInt k.bits a ^^^ BitVec.ofInt k.bits b).toNat)) else none
 | .andNot,.int k a,.int k' b=>if k=k' then some (.int k (k.wrap (BitVec.ofInt k.bits a&&& ~~~ BitVec.ofInt k.bits b).toNat)) else none
 | .eql,.int k a,.int k' b=>if k=k' then some (.bool (decide (a=b))) else none
 | .neq,.int k a,.int k' b=>if k=k' then some (.bool (decide (a≠b))) else none
 | .lss,.int k a,.int k' b=>if k=k' then some (.bool (decide (a<b))) else none
 | .leq,.int k a,.int k' b=>if k=k' then some (.bool (decide (a<=b))) else none
 | .gtr,.int k a,.int k' b=>if k=k' then some (.bool (decide (b<a))) else none
 | .geq,.int k a,.int k' b=>if k=k' then some (.bool (decide (b<=a))) else none
 | .eql,.bool a,.bool b=>if qI P t then some (.bool (a==b)) else none
 | .neq,.bool a,.bool b=>if qI P t then some (.bool (a !=b)) else none
 | .eql,.string a,.string b=>some (.bool (decide (a=b)))
 | .neq,.string a,.string b=>some (.bool (decide (a≠b)))
 | .add,.string a,.string b=>if((a.size+b.size:Nat):Int)<=9223372036854775807 then some (.string (a++b)) else none
 | .eql,.pointer none,.pointer b=>if vF P t then some (.bool b.isNone) else none
 | .neq,.pointer none,.pointer b=>if vF P t then some (.bool !b.isNone) else none
 |_,_,_=>none
theorem GZ(a b:ByteArray):(a.toList==b.toList)=decide (a=b):=by
 have h:a.toList=b.toList↔a=b:=by
  constructor
  ·intro h
   have h1:=congrArg List.toArray h
   have e:∀x:ByteArray,x.toList.toArray=x.data:=λx=>by rw[ByteArray.toList_eq]
   rw[e,e] at h1
   cases a;cases b;simp at h1;simp[h1]
  ·intro h;rw[h]
 rw[Bool.eq_iff_iff]
 simp[h]
theorem G5{P:Program} {t:TypeId}(h:qI P t=true)(a b:Bool)(w:World):(Op.equal t (.bool a) (.bool b)).run P w= .ok (a==b) w:=by
 have hu:=Et h
 show(Op.equalIn (9999+1) t _ _).run P w=_
 rw[Op.equalIn]
 simp[run_underlying hu]
theorem Cq{P:Program} {t:TypeId}(h:vF P t=true)(b:Option Addr)(w:World):(Op.equal t (.pointer none) (.pointer b)).run P w= .ok b.isNone w:=by
 obtain⟨e,hu⟩:=sj h
 show(Op.equalIn (9999+1) t _ _).run P w=_
 rw[Op.equalIn]
 simp[run_underlying hu]
theorem OH{P:Program} {op:BinOp} {t:TypeId} {x y v:Value}(h:jH P op t x y=some v)(w:World):(binOp op t x y).run P w= .ok v w:=by
 unfold jH at h
 split at h<;>(try(split at h))<;>first
  |(cases h;done)
  |(cases h
    simp only[binOp]
    first
     |(simp_all[Op.shift,Op.intArith,Op.intDiv,Op.intBits,Op.intCmp,Op.stringOp,GZ,bne];done)
     |(rename_i hb;simp[G5 hb,bne];done)
     |(rename_i hb;simp[Cq hb];done)
     |(rename_i hb;simp only[Op.shift,if_neg hb];rfl)
     |(rename_i hk;subst hk;simp only[Op.intCmp,ne_eq,not_true,if_false,Sem.run_pure];congr 2;try(rw[Bool.eq_iff_iff];simp)))
end
section
def rA(P:Program)(t:TypeId)(x y:AV):Option Bool:=
 match P.underlying t,x,y with
 |some (.slice _),.isl z _ _,.isl true [] 0=>some z
 |some (.slice _),.sl ..,.isl true [] 0=>some false
 |some (.pointer _),.pt ..,.val (.pointer none)=>some false
 |some (.pointer _),.ipt ..,.val (.pointer none)=>some false
 |_,_,_=>none
theorem Eu{P:Program} {t:TypeId} {x y:AV} {b:Bool}(h:rA P t x y=some b){w:World} {J:Nat->Prop} {ρ:Rho} {u v:Value}
 (hu:Rep w J ρ u x) (hv:Rep w J ρ v y):(Op.equal t u v).run P w= .ok b w/\(∃a n c,u= .slice a n c)\/(Op.equal t u v).run P w= .ok b w/\∃a,u= .pointer a:=by
 show(Op.equalIn (9999+1) t _ _).run P w=_/\_\/(Op.equalIn (9999+1) t _ _).run P w=_/\_
 unfold rA at h
 split at h
 ·rename_i hty
  refine .inl ?_
  cases hv;cases h
  rw[Op.equalIn]
  cases hu<;>simp[run_underlying hty]
 ·rename_i hty
  refine .inl ?_
  cases hv;cases h
  rw[Op.equalIn]
  cases hu;simp[run_underlying hty]
 ·rename_i hty
  refine .inr ?_
  cases hv;cases h
  rw[Op.equalIn]
  cases hu;simp[run_underlying hty]
 ·rename_i hty
  refine .inr ?_
  cases hv;cases h
  rw[Op.equalIn]
  cases hu;simp[run_underlying hty]
 ·cases h
def jI(t:Bool):AV->AV->AV
 | .val (.bool u),.val (.bool v)=> .val (.bool (if t then u else v))
 |x,y=>if t then x else y
theorem OI{w:World} {J:Nat->Prop} {ρ:Rho} {t:Bool} {x y:AV} {u v:Value}(hx:Rep w J ρ u x)(hy:Rep w J ρ v y):Rep w J ρ (if t then u else v) (jI t x y):=by
 cases t
 ·have:jI false x y=y:=by unfold jI;split<;>simp
  rw[this];exact hy
 ·have:jI true x y=x:=by unfold jI;split<;>simp
  rw[this];exact hx
section
variable {P:Program} {dst:Option Nat} {ty:TypeId} {pos:String} {af:Array Edge} {g:Option (Nat×Bool)} {nid:Nat} {st:St}
theorem OJ(x:Operand):OpT P ⟨dst,.move x,ty,pos,af,g⟩ nid 0 st ⟨st.op x,[]⟩:= .pure λc ρ D J a w h=>⟨_,rfl,h.op x⟩
theorem G6(x:Operand):OpT P ⟨dst,.assign x,ty,pos,af,g⟩ nid 0 st ⟨st.op x,[]⟩:= .pure λc ρ D J a w h=>⟨_,rfl,h.op x⟩
theorem OL(x y z:Operand)(b:Bool)(hx:st.op x= .val (.bool b)):OpT P ⟨dst,.pick x y z,ty,pos,af,g⟩ nid 0 st ⟨jI b (st.op y) (st.op z),[]⟩:= .pure λc ρ D J a w h=>by
 have h1:=h.op x
 rw[hx] at h1
 have e:=aG h1
 exact⟨if b then a.eval y else a.eval z,by simp[execOp,e,asBool],OI (h.op y) (h.op z)⟩
theorem Mj(op:BinOp)(t:TypeId)(x y:Operand)(t':TypeId)(u v r:Value)(hx:st.op x= .val u)(hy:st.op y= .val v)(hr:jH P op t u v=some r)
 (hg:∀w:World,(eqGuard op t x y u v).run P w= .ok () w):
 OpT P ⟨dst,.binOp op t x y t',ty,pos,af,g⟩ nid 0 st ⟨ofV r,[]⟩:= .pure λc ρ D J a w h=>by
 have h1:=h.op x;have h2:=h.op y
 rw[hx] at h1;rw[hy] at h2
 have e1:=aG h1;have e2:=aG h2
 exact⟨r,by simp[execOp,e1,e2,hg w,OH hr w],og r⟩
theorem Mk(t:TypeId)(x y:Operand)(t':TypeId)(b:Bool)(h:rA P t (st.op x) (st.op y)=some b):OpT P ⟨dst,.binOp .eql t x y t',ty,pos,af,g⟩ nid 0 st ⟨.val (.bool b),[]⟩:= .pure λc ρ D J a w hs=>by
 refine⟨.bool b,?_,.val _⟩
 rcases Eu h (hs.op x) (hs.op y) with⟨hr,a1,n1,c1,e1⟩|⟨hr,a1,e1⟩
 ·rw[e1] at hr;simp[execOp,e1,eqGuard,binOp,hr]
 ·rw[e1] at hr;simp[execOp,e1,eqGuard,binOp,hr]
theorem G7(t:TypeId)(x y:Operand)(t':TypeId)(b:Bool)(h:rA P t (st.op x) (st.op y)=some b):OpT P ⟨dst,.binOp .neq t x y t',ty,pos,af,g⟩ nid 0 st ⟨.val (.bool !b),[]⟩:= .pure λc ρ D J a w hs=>by
 refine⟨.bool !b,?_,.val _⟩
 rcases Eu h (hs.op x) (hs.op y) with⟨hr,a1,n1,c1,e1⟩|⟨hr,a1,e1⟩
 ·rw[e1] at hr;simp[execOp,e1,eqGuard,binOp,hr]
 ·rw[e1] at hr;simp[execOp,e1,eqGuard,binOp,hr]
theorem Cr(t:TypeId)(x:Operand)(b:Bool)(hx:st.op x= .val (.bool b)):OpT P ⟨dst,.unOp .not t x,ty,pos,af,g⟩ nid 0 st ⟨.val (.bool !b),[]⟩:= .pure λc ρ D J a w h=>by
 have h1:=h.op x
 rw[hx] at h1
 have e:=aG h1
 exact⟨.bool !b,by simp[execOp,e,Op.unary],.val _⟩
theorem Cs(t:TypeId)(x:Operand)(k:IntKind)(n:Int)(hx:st.op x= .val (.int k n)):OpT P ⟨dst,.unOp .neg t x,ty,pos,af,g⟩ nid 0 st ⟨.val (.int k (k.wrap (0-n))),[]⟩:= .pure λc ρ D J a w h=>by
 have h1:=h.op x
 rw[hx] at h1
 have e:=aG h1
 exact⟨_,by simp[execOp,e,Op.unary,Op.intArith];rfl,by first|exact .val _|(simp;exact .val _)⟩
theorem wY(s t:TypeId)(x:Operand)(k k':IntKind)(n:Int)(ks:IntKind)(hs:nJ P s=some ks)(hk:nJ P t=some k)(hx:st.op x= .val (.int k' n)):
 OpT P ⟨dst,.convert s t x,ty,pos,af,g⟩ nid 0 st ⟨.val (.int k (k.wrap n)),[]⟩:= .pure λc ρ D J a w h=>by
 have h1:=h.op x
 rw[hx] at h1
 have e:=aG h1
 exact⟨.int k (k.wrap n),by simp[execOp,e,convert,run_underlying (gG hk),run_underlying (gG hs),Conv.intToInt],.val _⟩
def AV.notNil:AV->Bool
 | .pt .. | .ipt .. | .fn .. | .mp _=>true
 |_=>false
theorem Ct(x:Operand)(hx:(st.op x).notNil=true):OpT P ⟨dst,.nilCheck x,ty,pos,af,g⟩ nid 0 st ⟨st.op x,[]⟩:= .pure λc ρ D J a w h=>by
 have h1:=h.op x
 refine⟨a.eval x,?_,h1⟩
 generalize st.op x=y at h1 hx
 generalize hv:a.eval x=v at h1
 cases h1<;>simp_all[execOp,AV.notNil]
theorem vG(s:TypeId)(x:Operand)(f:Nat)(id off fo n:Nat)(ft:TypeId)(hx:st.op x= .pt id off)(hf:qH P s f=some (fo,ft))(hz:siz P ft=some (n+1)):
 OpT P ⟨dst,.fieldAddr s x f,ty,pos,af,g⟩ nid 0 st ⟨.pt id (off+fo),[]⟩:= .pure λc ρ D J a w h=>by
 have h1:=h.op x
 rw[hx] at h1
 obtain⟨fs,fd,hu,hfs,rfl,rfl⟩:=wJ hf
 generalize hv:a.eval x=v at h1
 cases h1 with
 |pt b s' _ _ hr=>exact⟨.pointer (some ⟨b,off+fd.offset,none⟩),by simp[execOp,hv,Instr.fieldAt,run_underlying hu,hfs,Instr.sureAddr,fieldPlace,dx hz,Addr.add_lit],.pt b s' id _ hr⟩
theorem tF(s:TypeId)(x:Operand)(f:Nat)(cells:List AV)(off fo n:Nat)(ft:TypeId)(hx:st.op x= .ipt cells off)(hf:qH P s f=some (fo,ft))(hz:siz P ft=some (n+1)):
 OpT P ⟨dst,.fieldAddr s x f,ty,pos,af,g⟩ nid 0 st ⟨.ipt cells (off+fo),[]⟩:= .pure λc ρ D J a w h=>by
 have h1:=h.op x
 rw[hx] at h1
 obtain⟨fs,fd,hu,hfs,rfl,rfl⟩:=wJ hf
 generalize hv:a.eval x=v at h1
 cases h1 with
 |ipt b o _ _ u hb h0 h1 h2=>exact⟨.pointer (some ⟨b,o+(off+fd.offset),none⟩),by simp[execOp,hv,Instr.fieldAt,run_underlying hu,hfs,Instr.sureAddr,fieldPlace,dx hz,Addr.add_lit,Nat.add_assoc],.ipt b o _ cells u hb h0 h1 h2⟩
theorem vH(t:TypeId)(x ix:Operand)(id off len es:Nat)(k:IntKind)(i:Int)(e:TypeId)(hx:st.op x= .sl id off len es)(hi:st.op ix= .val (.int k i))
 (he:jf P t=some e) (hz:siz P e=some es) (hr:0<=i/\i<len):
 OpT P ⟨dst,.indexAddr t x ix,ty,pos,af,g⟩ nid 0 st ⟨.pt id (off+i.toNat*es),[]⟩:= .pure λc ρ D J a w h=>by
 have h1:=h.op x;have h2:=h.op ix
 rw[hx] at h1;rw[hi] at h2
 have e2:=aG h2
 have hu:=bg he
 generalize hv:a.eval x=v at h1
 cases h1 with
 |sl b s _ _ _ _ cap hρ hc hs=>exact⟨.pointer (some ⟨b,off+i.toNat*es,none⟩),by simp[execOp,hv,e2,Instr.indexAt,asIntOf,run_underlying hu,hr,dx hz,Addr.add_lit],.pt b s id _ hρ⟩
theorem tH(t:TypeId)(x ix:Operand)(id off len es es':Nat)(k:IntKind)(i:Int)(e:TypeId)(hx:st.op x= .sl id off len es')(hi:st.op ix= .val (.int k i))
 (he:jf P t=some e) (hz:siz P e=some es) (hr:0<=i/\i<len):
 OpT P ⟨dst,.indexAddr t x ix,ty,pos,af,g⟩ nid 0 st ⟨.pt id (off+i.toNat*es),[]⟩:= .pure λc ρ D J a w h=>by
 have h1:=h.op x;have h2:=h.op ix
 rw[hx] at h1;rw[hi] at h2
 have e2:=aG h2
 have hu:=bg he
 generalize hv:a.eval x=v at h1
 cases h1 with
 |sl b s _ _ _ _ cap hρ hc hs=>exact⟨.pointer (some ⟨b,off+i.toNat*es,none⟩),by simp[execOp,hv,e2,Instr.indexAt,asIntOf,run_underlying hu,hr,dx hz,Addr.add_lit],.pt b s id _ hρ⟩
theorem tJ(t:TypeId)(x ix:Operand)(z:Bool)(cells:List AV)(len es:Nat)(k:IntKind)(i:Int)(e:TypeId)(hx:st.op x= .isl z cells len)(hi:st.op ix= .val (.int k i))
 (he:jf P t=some e) (hz:siz P e=some es) (hr:0<=i/\i<len):
 OpT P ⟨dst,.indexAddr t x ix,ty,pos,af,g⟩ nid 0 st ⟨.ipt cells (i.toNat*es),[]⟩:= .pure λc ρ D J a w h=>by
 have h1:=h.op x;have h2:=h.op ix
 rw[hx] at h1;rw[hi] at h2
 have e2:=aG h2
 have hu:=bg he
 generalize hv:a.eval x=v at h1
 cases h1 with
 |inil=>exfalso;simp at hr;omega
 |iemp=>exfalso;simp at hr;omega
 |isl b off _ cap _ u hb hc h0 h1 h2=>exact⟨.pointer (some ⟨b,off+i.toNat*es,none⟩),by simp[execOp,hv,e2,Instr.indexAt,asIntOf,run_underlying hu,hr,dx hz,Addr.add_lit],.ipt b off _ cells u hb h0 h1 h2⟩
theorem tN(t:TypeId)(x ix:Operand)(id off n es:Nat)(k:IntKind)(i:Int)(e:TypeId)(hx:st.op x= .pt id off)(hi:st.op ix= .val (.int k i))
 (he:yK P t=some (n,e)) (hz:siz P e=some es) (hr:0<=i/\i<n):
 OpT P ⟨dst,.indexAddr t x ix,ty,pos,af,g⟩ nid 0 st ⟨.pt id (off+i.toNat*es),[]⟩:= .pure λc ρ D J a w h=>by
 have h1:=h.op x;have h2:=h.op ix
 rw[hx] at h1;rw[hi] at h2
 have e2:=aG h2
 have hu:=lT he
 generalize hv:a.eval x=v at h1
 cases h1 with
 |pt b s _ _ hρ=>exact⟨.pointer (some ⟨b,off+i.toNat*es,none⟩),by simp[execOp,hv,e2,Instr.indexAt,asIntOf,run_underlying hu,hr,dx hz,Addr.add_lit,Instr.sureAddr],.pt b s id _ hρ⟩
theorem sD(t:TypeId)(x ix:Operand)(cells:List AV)(off n es:Nat)(k:IntKind)(i:Int)(e:TypeId)(hx:st.op x= .ipt cells off)(hi:st.op ix= .val (.int k i))
 (he:yK P t=some (n,e)) (hz:siz P e=some es) (hr:0<=i/\i<n):
 OpT P ⟨dst,.indexAddr t x ix,ty,pos,af,g⟩ nid 0 st ⟨.ipt cells (off+i.toNat*es),[]⟩:= .pure λc ρ D J a w h=>by
 have h1:=h.op x;have h2:=h.op ix
 rw[hx] at h1;rw[hi] at h2
 have e2:=aG h2
 have hu:=lT he
 generalize hv:a.eval x=v at h1
 cases h1 with
 |ipt b o _ _ u hb h0 h1 h2=>exact⟨.pointer (some ⟨b,o+(off+i.toNat*es),none⟩),by simp[execOp,hv,e2,Instr.indexAt,asIntOf,run_underlying hu,hr,dx hz,Addr.add_lit,Instr.sureAddr,Nat.add_assoc],.ipt b o _ cells u hb h0 h1 h2⟩
theorem iA{w:World} {J:Nat->Prop} {ρ:Rho} {b s:Nat} {cs:List AV} {e:TypeId}(h:ObjRep w J ρ b s (.cells cs e)):∃u:Nat->Value,∀j (hj:j<cs.length),
 w.cell? ⟨b,j,none⟩=some (u j)/\(u j).oneCell'=true/\Rep w J ρ (u j) cs[j]:=by
 obtain⟨c,hc,hs,hl,hr,_⟩:=h
 refine⟨λj=>c.getD j undef,λj hj=>⟨?_,(hr j hj).1,(hr j hj).2⟩⟩
 rw[cell_of_row w b j c e (0,0) hc]
 have:j<c.size:=by omega
 simp[Array.getD,this]
theorem jJ{w:World} {J:Nat->Prop} {ρ:Rho} {b off n:Nat} {cs:List AV}(u:Nat->Value)(h:∀j (hj:j<cs.length),w.cell? ⟨b,off+j,none⟩=some (u j)/\Rep w J ρ (u j) cs[j])(hn:cs.length=n):
 ∃vs:Array Value,(loadCells ⟨b,off,none⟩ n).run P w= .ok vs w/\Rep w J ρ (.agg vs) (.agg cs):=by
 have h1:=run_loadCells (P:=P) w ⟨b,off,none⟩ n u (λj hj=>by rw[Addr.add_lit];exact(h j omgz).1)
 refine⟨_,h1,.agg _ _ (by simp[hn]) (λj hj=>?_)⟩
 have:((List.range n).map u).toArray.getD j undef=u j:=by simp[Array.getD,hn▸hj]
 rw[this];exact(h j hj).2
theorem Ew(t:TypeId)(x:Operand)(id off:Nat)(cs:List AV)(e:TypeId)(y:AV)(hx:st.op x= .pt id off)(ho:st.ob id=some (.cells cs e))(ha:jy P t=some false)(hy:cs[off]? =some y):
 OpT P ⟨dst,.load t x,ty,pos,af,g⟩ nid 0 st ⟨y,[]⟩:= .pure λc ρ D J a w h=>by
 have h1:=h.op x
 rw[hx] at h1
 obtain⟨b,s,hρ,hob,_⟩:=h.obj id _ ho
 obtain⟨u,hu⟩:=iA hob
 generalize hv:a.eval x=v at h1
 cases h1 with
 |pt b' s' _ _ hρ'=>
  rw[hρ] at hρ';cases hρ'
  obtain⟨hlt,rfl⟩:=List.getElem?_eq_some_iff.1 hy
  exact⟨u off,by simp[execOp,hv,Instr.loadAt,Instr.sureAddr,loadVar,fq ha,(hu off hlt).1],(hu off hlt).2.2⟩
theorem Cu(t:TypeId)(x:Operand)(cells:List AV)(off:Nat)(y:AV)(hx:st.op x= .ipt cells off)(ha:jy P t=some false)(hy:cells[off]? =some y):
 OpT P ⟨dst,.load t x,ty,pos,af,g⟩ nid 0 st ⟨y,[]⟩:= .pure λc ρ D J a w h=>by
 have h1:=h.op x
 rw[hx] at h1
 generalize hv:a.eval x=v at h1
 cases h1 with
 |ipt b o _ _ u hb h0 h1 h2=>
  obtain⟨hlt,rfl⟩:=List.getElem?_eq_some_iff.1 hy
  exact⟨u off,by simp[execOp,hv,Instr.loadAt,Instr.sureAddr,loadVar,fq ha,h1 off hlt],(h2 off hlt).up⟩
theorem wZ(t:TypeId)(x:Operand)(id off n:Nat)(cs:List AV)(e:TypeId)(hx:st.op x= .pt id off)(ho:st.ob id=some (.cells cs e))(ha:jy P t=some true)(hz:siz P t=some n)(hy:off+n<=cs.length):
 OpT P ⟨dst,.load t x,ty,pos,af,g⟩ nid 0 st ⟨.agg ((cs.drop off).take n),[]⟩:= .pure λc ρ D J a w h=>by
 have h1:=h.op x
 rw[hx] at h1
 obtain⟨b,s,hρ,hob,_⟩:=h.obj id _ ho
 obtain⟨u,hu⟩:=iA hob
 generalize hv:a.eval x=v at h1
 cases h1 with
 |pt b' s' _ _ hρ'=>
  rw[hρ] at hρ';cases hρ'
  obtain⟨vs,hr,hrep⟩:=jJ (P:=P) (w:=w) (J:=J) (ρ:=ρ) (b:=b) (off:=off) (n:=n) (cs:=(cs.drop off).take n) (λj=>u (off+j)) (λj hj=>by
   simp at hj
   have:=hu (off+j) omgz
   exact⟨this.1,by simpa using this.2.2⟩) (by simp;omega)
  exact⟨.agg vs,by simp[execOp,hv,Instr.loadAt,Instr.sureAddr,loadVar,fq ha,dx hz,hr],hrep⟩
theorem vJ(t:TypeId)(x:Operand)(off n:Nat)(cs:List AV)(hx:st.op x= .ipt cs off)(ha:jy P t=some true)(hz:siz P t=some n)(hy:off+n<=cs.length):
 OpT P ⟨dst,.load t x,ty,pos,af,g⟩ nid 0 st ⟨.agg ((cs.drop off).take n),[]⟩:= .pure λc ρ D J a w h=>by
 have h1:=h.op x
 rw[hx] at h1
 generalize hv:a.eval x=v at h1
 cases h1 with
 |ipt b o _ _ u hb h0 h1 h2=>
  obtain⟨vs,hr,hrep⟩:=jJ (P:=P) (w:=w) (J:=J) (ρ:=ρ) (b:=b) (off:=o+off) (n:=n) (cs:=(cs.drop off).take n) (λj=>u (off+j)) (λj hj=>by
   simp at hj
   exact⟨by rw[Nat.add_assoc];exact h1 (off+j) omgz,by simpa using(h2 (off+j) omgz).up⟩) (by simp;omega)
  exact⟨.agg vs,by simp[execOp,hv,Instr.loadAt,Instr.sureAddr,loadVar,fq ha,dx hz,hr],hrep⟩
theorem Ey(x:Operand)(i:Nat)(cs:List AV)(y:AV)(hx:st.op x= .tup cs)(hy:cs[i]? =some y):OpT P ⟨dst,.extract x i,ty,pos,af,g⟩ nid 0 st ⟨y,[]⟩:= .pure λc ρ D J a w h=>by
 have h1:=h.op x
 rw[hx] at h1
 generalize hv:a.eval x=v at h1
 cases h1 with
 |tup vs _ hs h1=>
  obtain⟨hlt,rfl⟩:=List.getElem?_eq_some_iff.1 hy
  have hlt':i<vs.size:=by omega
  exact⟨vs.getD i undef,by simp[execOp,hv,Instr.extract,hlt',Array.getD],h1 _ hlt⟩
def Ez:AV->Option Nat
 | .isl _ _ n=>some n
 | .sl _ _ n _=>some n
 | .val (.string s)=>some s.size
 |_=>none
def xy(P:Program)(t:TypeId)(x:AV):Bool:=match P.underlying t,x with
 |some .string,.val _=>true
 |some (.slice _),.isl .. =>true
 |some (.slice _),.sl .. =>true
 |_,_=>false
theorem JY(t:TypeId)(x:Operand)(n:Nat)(hn:Ez (st.op x)=some n)(ht:xy P t (st.op x)=true):
 OpT P ⟨dst,.call ⟨.builtin .len,#[x],#[t]⟩,ty,pos,af,g⟩ nid 0 st ⟨.val (.int .i64 n),[]⟩:= .pure λc ρ D J a w h=>by
 have h1:=h.op x
 refine⟨.int .i64 n,?_,.val _⟩
 generalize st.op x=y at h1 hn ht
 generalize hv:a.eval x=v at h1
 unfold xy at ht
 split at ht
 ·rename_i hu
  cases h1
  unfold Ez at hn
  split at hn<;>simp_all[execOp,resolve,invoke,builtin,Builtin.len_,run_underlying hu,goInt]
 ·rename_i hu
  cases h1<;>simp[Ez] at hn<;>subst hn<;>simp[execOp,resolve,invoke,builtin,hv,Builtin.len_,run_underlying hu,goInt]
 ·rename_i hu
  cases h1;simp[Ez] at hn;subst hn;simp[execOp,resolve,invoke,builtin,hv,Builtin.len_,run_underlying hu,goInt]
 ·cases ht
end
end
section
structure iF(w w':World)(o:Obj):Prop where
 heap:w'.heap=w.heap.push o
 os:w'.os=w.os
 tape:w'.tape=w.tape
 output:w'.output=w.output
theorem iF.alloc(w:World)(o:Obj):iF w (w.alloc o) o:=⟨rfl,rfl,rfl,rfl⟩
theorem iF.drew(w:World)(o:Obj):iF w (w.drew.alloc o) o:=⟨rfl,rfl,rfl,rfl⟩
theorem iF.old{w w':World} {o:Obj}(h:iF w w' o){b:Nat}(hb:b<w.heap.size):w'.heap[b]? =w.heap[b]? :=by
 rw[h.heap,Array.getElem?_push,if_neg omgz]
theorem iF.size{w w':World} {o:Obj}(h:iF w w' o):w'.heap.size=w.heap.size+1:=by rw[h.heap,Array.size_push]
theorem iF.new{w w':World} {o:Obj}(h:iF w w' o):w'.heap[w.heap.size]? =some o:=by rw[h.heap];simp
def Rho.add(ρ:Rho)(id b s:Nat):Rho:=λi=>if i=id then some (b,s) else ρ i
theorem Rho.add_mono{ρ:Rho} {id b s:Nat}(h:ρ id=none):∀i p,ρ i=some p->(ρ.add id b s) i=some p:=by
 intro i p hi;unfold Rho.add;split
 ·rename_i e;subst e;rw[h] at hi;cases hi
 ·exact hi
theorem Rep.grew{w w':World} {J:Nat->Prop} {ρ ρ':Rho} {o:Obj}(g:iF w w' o)(hρ:∀i p,ρ i=some p->ρ' i=some p){v:Value} {x:AV}(h:Rep w J ρ v x):Rep w' J ρ' v x:=by
 refine h.mono (J:=J) (J':=J) ?_ (by rw[g.size];omega) hρ
 exact λb hb hlt=>⟨hb,g.old hlt⟩
section
variable {P:Program} {dst:Option Nat} {ty:TypeId} {pos:String} {af:Array Edge} {g:Option (Nat×Bool)} {nid:Nat} {st:St}
theorem OpT.alloc{o:Oper} {x:AV} {ob:aC}
 (h:∀(c:Ctx) (ρ:Rho) (D J:Nat->Prop) (a:Act) (w:World),Sim c ρ D J st a w->∃v w' obj s,(execOp a.eval o).run P w= .ok (.value v) w'/\iF w w' obj/\
   ∀ρ':Rho,ρ' nid=some (w.heap.size,s)->(∀i p,ρ i=some p->ρ' i=some p)->Rep w' J ρ' v x/\ObjRep w' J ρ' w.heap.size s ob)
 (ht:ob.isTr=false:=by rfl):OpT P o nid 1 st ⟨x,[(nid,some ob)]⟩:=by
 intro c ρ D J a w hs hD _ K Q hK
 obtain⟨v,w',obj,s,hr,hg,hrep⟩:=h c ρ D J a w hs
 have hn:ρ nid=none:=by
  cases hp:ρ nid with
  |none=>rfl
  |some p=>exact absurd (hs.dom nid p hp) (hD nid (Nat.le_refl _) omgz)
 have hmono:=Rho.add_mono (b:=w.heap.size) (s:=s) hn
 have hnew:(ρ.add nid w.heap.size s) nid=some (w.heap.size,s):=by simp[Rho.add]
 obtain⟨h1,h2⟩:=hrep _ hnew hmono
 refine lZ hr ?_
 refine hK v w' (ρ.add nid w.heap.size s) J ⟨by rw[hg.size];omega,hg.os,hg.tape,hg.output,λb hb _ _=>hg.old hb,hmono,?_,λ_ h=>h,λ_ h=> .inl h,h1,?_,?_,λh=>absurd h (qG ht lX)⟩
 ·intro i p hi
  unfold Rho.add at hi
  split at hi
  ·rename_i e;exact .inr omgz
  ·exact .inl hi
 ·intro id o' ho
  simp only[aQ] at ho
  split at ho
  ·rename_i e;subst e;cases ho
   exact⟨w.heap.size,s,hnew,h2,λhj=>by have:=hs.jlt _ hj;omega,.inl (.inl (Nat.le_refl _))⟩
  ·cases ho
 ·intro id id' o1 o2 b s1 s2 h1 h2 _ _
  simp only[aQ] at h1 h2
  split at h1
  ·split at h2
   ·omega
   ·cases h2
  ·cases h1
theorem OpT.modify{o:Oper} {x:AV} {id:Nat} {o0 o1:aC}(ho:st.ob id=some o0)
 (h:∀(c:Ctx) (ρ:Rho) (D J:Nat->Prop) (a:Act) (w:World) (b s:Nat),Sim c ρ D J st a w->ρ id=some (b,s)->ObjRep w J ρ b s o0->¬J b->
   ∃nx w' v,(execOp a.eval o).run P w= .ok nx w'/\(nx= .value v\/nx= .skip/\v=undef)/\w'.heap.size=w.heap.size/\w'.os=w.os/\w'.tape=w.tape/\w'.output=w.output/\
    (∀k,k≠b->w'.heap[k]? =w.heap[k]?)/\((∀u y,Rep w J ρ u y->Rep w' J ρ u y)->Rep w' J ρ v x/\ObjRep w' J ρ b s o1))
 (ht:o1.isTr=false:=by rfl):OpT P o nid 0 st ⟨x,[(id,some o1)]⟩:=by
 intro c ρ D J a w hs hD _ K Q hK
 obtain⟨b,s,hρ,hob,_,hnJ⟩:=hs.obj id o0 ho
 obtain⟨nx,w',v,hr,hnx,hsz,hos,htp,hout,hoth,hrep⟩:=h c ρ D J a w b s hs hρ hob hnJ
 obtain⟨h1,h2⟩:=hrep (λu y hu=>hu.mono (J:=J) (J':=J) (λk hk _=>⟨hk,hoth k (λe=>hnJ (e▸hk))⟩) omgz (λ_ _ h=>h))
 have hpost:OD c nid 0 st ⟨x,[(id,some o1)]⟩ ρ ρ J J w w' v:=by
  refine⟨omgz,hos,htp,hout,?_,λ_ _ h=>h,λ_ _ h=> .inl h,λ_ h=>h,λ_ h=> .inl h,h1,?_,?_,λh=>absurd h (qG ht lX)⟩
  ·intro k hk hne _
   exact hoth k (λe=>hne id o0 s (by simp[Eff.keys]) ho (e▸hρ))
  ·intro i o' hi
   simp only[aQ] at hi
   split at hi
   ·rename_i e;subst e;cases hi
    exact⟨b,s,hρ,h2,hnJ,.inr ⟨i,o0,s,by simp[Eff.keys],ho,hρ⟩⟩
   ·cases hi
  ·intro i i' o1 o2 b s1 s2 h1 h2 _ _
   simp only[aQ] at h1 h2
   split at h1
   ·split at h2
    ·omega
    ·cases h2
   ·cases h1
 rcases hnx with rfl|⟨rfl,rfl⟩
 ·exact lZ hr (hK v w' ρ J hpost)
 ·exact Co hr (hK undef w' ρ J hpost)
theorem OpT.regrow{o:Oper} {x:AV} {id:Nat} {o0 o1:aC}(ho:st.ob id=some o0)
 (h:∀(c:Ctx) (ρ:Rho) (D J:Nat->Prop) (a:Act) (w:World) (b s:Nat),Sim c ρ D J st a w->ρ id=some (b,s)->ObjRep w J ρ b s o0->¬J b->
   ∃w' v b' s',(execOp a.eval o).run P w= .ok (.value v) w'/\w.heap.size<=w'.heap.size/\w'.os=w.os/\w'.tape=w.tape/\w'.output=w.output/\(b'=b\/b'=w.heap.size)/\
    (∀k,k<w.heap.size->k≠b->w'.heap[k]? =w.heap[k]?)/\
    ∀ρ':Rho,ρ' nid=some (b',s')->(∀i p,ρ i=some p->ρ' i=some p)->(∀u y,Rep w J ρ u y->Rep w' J ρ' u y)->Rep w' J ρ' v x/\ObjRep w' J ρ' b' s' o1)
 (ht:o1.isTr=false:=by rfl):OpT P o nid 1 st ⟨x,[(nid,some o1),(id,none)]⟩:=by
 intro c ρ D J a w hs hD _ K Q hK
 obtain⟨b,s,hρ,hob,_,hnJ⟩:=hs.obj id o0 ho
 obtain⟨w',v,b',s',hr,hsz,hos,htp,hout,hbb,hoth,hrep⟩:=h c ρ D J a w b s hs hρ hob hnJ
 have hn:ρ nid=none:=by
  cases hp:ρ nid with
  |none=>rfl
  |some p=>exact absurd (hs.dom nid p hp) (hD nid (Nat.le_refl _) omgz)
 have hmono:=Rho.add_mono (b:=b') (s:=s') hn
 have hnew:(ρ.add nid b' s') nid=some (b',s'):=by simp[Rho.add]
 obtain⟨h1,h2⟩:=hrep _ hnew hmono (λu y hu=>hu.mono (J:=J) (J':=J) (λk hk hlt=>⟨hk,hoth k hlt (λe=>hnJ (e▸hk))⟩) hsz hmono)
 refine lZ hr ?_
 refine hK v w' (ρ.add nid b' s') J ⟨hsz,hos,htp,hout,?_,hmono,?_,λ_ h=>h,λ_ h=> .inl h,h1,?_,?_,λh=>absurd h (qG ht (lY lX))⟩
 ·intro k hk hne _
  exact hoth k hk (λe=>hne id o0 s (by simp[Eff.keys]) ho (e▸hρ))
 ·intro i p hi
  unfold Rho.add at hi
  split at hi
  ·rename_i e;exact .inr omgz
  ·exact .inl hi
 ·intro i o' hi
  simp only[aQ] at hi
  split at hi
  ·rename_i e;subst e;cases hi
   refine⟨b',s',hnew,h2,?_,?_⟩
   ·rcases hbb with rfl|rfl
    ·exact hnJ
    ·intro hj;have:=hs.jlt _ hj;omega
   ·rcases hbb with rfl|rfl
    ·exact .inr ⟨id,o0,s,by simp[Eff.keys],ho,hρ⟩
    ·exact .inl (.inl (Nat.le_refl _))
  ·split at hi
   ·cases hi
   ·cases hi
 ·intro i i' o1 o2 b s1 s2 h1 h2 _ _
  simp only[aQ] at h1 h2
  split at h1
  ·split at h2
   ·omega
   ·split at h2<;>cases h2
  ·split at h1<;>cases h1
def AV.parts:AV->Option (List AV)
 | .agg cs=>some cs
 | .tup _| .any=>none
 | .val v=>if v.oneCell' then some [.val v] else none
 |x=>some [x]
theorem qJ{w:World} {J:Nat->Prop} {ρ:Rho} {v:Value} {x:AV} {cs:List AV}(h:Rep w J ρ v x)(hc:x.parts=some cs)(hs:cs.all AV.scalar=true):
 v.cells.size=cs.length/\∀j (hj:j<cs.length),(v.cells.getD j undef).oneCell'=true/\Rep w J ρ (v.cells.getD j undef) cs[j]:=by
 have one:∀{v:Value} {x:AV},Rep w J ρ v x->x.scalar=true->v.cells= #[v]->cs=[x]->v.cells.size=cs.length/\∀j (hj:j<cs.length),(v.cells.getD j undef).oneCell'=true/\Rep w J ρ (v.cells.getD j undef) cs[j]:=by
  intro v x h hx hv hcs
  subst hcs
  rw[hv]
  refine⟨rfl,λj hj=>?_⟩
  have:j=0:=by simpa using hj
  subst this
  exact⟨h.oneCell hx,h⟩
 cases h with
 |agg vs _ h1 h2=>
  simp only[AV.parts,Option.some.injEq] at hc
  subst hc
  refine⟨h1,λj hj=>⟨(h2 j hj).oneCell ?_,h2 j hj⟩⟩
  exact List.all_eq_true.1 hs _ (List.getElem_mem hj)
 |val v=>
  simp only[AV.parts] at hc
  split at hc
  ·rename_i hv
   simp only[Option.some.injEq] at hc
   exact one (.val v) hv (by cases v<;>first|rfl|cases hv) hc.symm
  ·cases hc
 |any v=>cases hc
 |tup=>cases hc
 |inil=>simp only[AV.parts,Option.some.injEq] at hc;exact one .inil rfl rfl hc.symm
 |iemp a cap=>simp only[AV.parts,Option.some.injEq] at hc;exact one (.iemp a cap) rfl rfl hc.symm
 |isl b off len cap cells u hb hcc h0 h1 h2=>simp only[AV.parts,Option.some.injEq] at hc;exact one (.isl b off len cap cells u hb hcc h0 h1 h2) rfl rfl hc.symm
 |ipt b off k cells u hb h0 h1 h2=>simp only[AV.parts,Option.some.injEq] at hc;exact one (.ipt b off k cells u hb h0 h1 h2) rfl rfl hc.symm
 |sl b s id off len es cap h hcc hs'=>simp only[AV.parts,Option.some.injEq] at hc;exact one (.sl b s id off len es cap h hcc hs') rfl rfl hc.symm
 |pt b s id off h=>simp only[AV.parts,Option.some.injEq] at hc;exact one (.pt b s id off h) rfl rfl hc.symm
 |mp b s id h=>simp only[AV.parts,Option.some.injEq] at hc;exact one (.mp b s id h) rfl rfl hc.symm
 |yl b s id h=>simp only[AV.parts,Option.some.injEq] at hc;exact one (.yl b s id h) rfl rfl hc.symm
 |fn f vs cs' h1 h2=>simp only[AV.parts,Option.some.injEq] at hc;exact one (.fn f vs cs' h1 h2) rfl rfl hc.symm
def CRep(w:World)(J:Nat->Prop)(ρ:Rho)(c:Array Value)(cs:List AV):Prop:=cs.length<=c.size/\(∀j (h:j<cs.length),(c.getD j undef).oneCell'=true/\Rep w J ρ (c.getD j undef) cs[j])/\c.all Value.oneCell'=true
def spl{α:Type}(cs:List α)(off:Nat)(vs:List α):List α:=cs.take off++(vs++cs.drop (off+vs.length))
theorem Vn{α:Type}(cs:List α)(off:Nat)(v:α)(h:off<cs.length):spl cs off [v]=cs.set off v:=by
 unfold spl;rw[List.set_eq_take_append_cons_drop,if_pos h];rfl
theorem CRep.splice{w:World} {J:Nat->Prop} {ρ:Rho} {c:Array Value} {cs avs:List AV} {vs:List Value} {off:Nat}(h:CRep w J ρ c cs)(hl:vs.length=avs.length)
 (hv:∀j (hj:j<avs.length),(vs.getD j undef).oneCell'=true/\Rep w J ρ (vs.getD j undef) avs[j]) (ho:off<=cs.length) (hs:off+vs.length<=c.size):
 CRep w J ρ (c.toList.take off++vs++c.toList.drop (off+vs.length)).toArray (spl cs off avs)/\(c.toList.take off++vs++c.toList.drop (off+vs.length)).toArray.size=c.size:=by
 have hsz:(c.toList.take off++vs++c.toList.drop (off+vs.length)).toArray.size=c.size:=by simp;omega
 have h1:=h.1
 have hall:(c.toList.take off++vs++c.toList.drop (off+vs.length)).toArray.all Value.oneCell'=true:=by
  have hc:=h.2.2
  rw[Array.all_eq_true_iff_forall_mem] at hc⊢
  intro u hu
  simp only[List.mem_toArray,List.mem_append] at hu
  rcases hu with(hu|hu)|hu
  ·exact hc u (by simpa using List.mem_of_mem_take hu)
  ·obtain⟨j,hj,rfl⟩:=List.getElem_of_mem hu
   have:=(hv j omgz).1
   simpa[List.getD_eq_getElem?_getD,hj] using this
  ·exact hc u (by simpa using List.mem_of_mem_drop hu)
 refine⟨⟨by rw[hsz];simp[spl];omega,λj hj=>?_,hall⟩,hsz⟩
 have hj':j<off+(avs.length+(cs.length-(off+avs.length))):=by
  simp[spl] at hj;omega
 have hto:off<=c.toList.length:=by simp;omega
 have eA:(c.toList.take off++vs++c.toList.drop (off+vs.length)).toArray.getD j undef=if j<off then c.getD j undef else if j<off+vs.length then vs.getD (j-off) undef else c.getD j undef:=by
  simp only[Array.getD_eq_getD_getElem?,List.getElem?_toArray,List.append_assoc]
  by_cases h1:j<off
  ·rw[if_pos h1,List.getElem?_append_left (by simp;omega),List.getElem?_take_of_lt h1];simp
  ·rw[if_neg h1,List.getElem?_append_right (by simp;omega)]
   simp only[List.length_take,Nat.min_eq_left hto]
   by_cases h2:j<off+vs.length
   ·rw[if_pos h2,List.getElem?_append_left omgz];simp[List.getD_eq_getElem?_getD]
   ·rw[if_neg h2,List.getElem?_append_right omgz,List.getElem?_drop]
    rw[show off+vs.length+(j-off-vs.length)=j by omega];simp
 have eB:∀y,(spl cs off avs)[j]? =some y->(if j<off then cs[j]? else if j<off+avs.length then avs[j-off]? else cs[j]?)=some y:=by
  intro y
  unfold spl
  by_cases h1:j<off
  ·rw[if_pos h1,List.getElem?_append_left (by simp;omega),List.getElem?_take_of_lt h1];exact id
  ·rw[if_neg h1,List.getElem?_append_right (by simp;omega)]
   simp only[List.length_take,Nat.min_eq_left ho]
   by_cases h2:j<off+avs.length
   ·rw[if_pos h2,List.getElem?_append_left omgz];exact id
   ·rw[if_neg h2,List.getElem?_append_right omgz,List.getElem?_drop]
    rw[show off+avs.length+(j-off-avs.length)=j by omega];exact id
 rw[eA]
 have hB:=eB _ (List.getElem?_eq_getElem hj)
 generalize(spl cs off avs)[j]=y at hB
 by_cases h1:j<off
 ·rw[if_pos h1] at hB⊢
  obtain⟨hlt,rfl⟩:=List.getElem?_eq_some_iff.1 hB
  exact h.2.1 j hlt
 ·rw[if_neg h1] at hB⊢
  rw[<-hl] at hB
  by_cases h2:j<off+vs.length
  ·rw[if_pos h2] at hB⊢
   obtain⟨hlt,rfl⟩:=List.getElem?_eq_some_iff.1 hB
   exact hv _ hlt
  ·rw[if_neg h2] at hB⊢
   obtain⟨hlt,rfl⟩:=List.getElem?_eq_some_iff.1 hB
   exact h.2.1 j hlt
theorem CRep.imp{w w':World} {J:Nat->Prop} {ρ ρ':Rho} {c:Array Value} {cs:List AV}(h:CRep w J ρ c cs)(hi:∀u y,Rep w J ρ u y->Rep w' J ρ' u y):CRep w' J ρ' c cs:=
 ⟨h.1,λj hj=>⟨(h.2.1 j hj).1,hi _ _ (h.2.1 j hj).2⟩,h.2.2⟩
def jg(P:Program)(t:TypeId):Option (List Value):=((P.info? t).bind (·.zero)).map (·.cells.toList)
theorem oh{w:World} {t:TypeId} {zs:List Value}(h:jg P t=some zs):∃z,(zeroValue t).run P w= .ok z w/\z.cells=zs.toArray:=by
 unfold jg at h
 cases hi:P.info? t with
 |none=>simp[hi] at h
 |some i=>
  cases hz:i.zero with
  |none=>simp[hi,hz] at h
  |some z=>
   simp[hi,hz] at h
   exact⟨z,by simp[zeroValue,typeInfo,hi,hz],by rw[<-h]⟩
theorem Br{w:World} {J:Nat->Prop} {ρ:Rho}(vs:List Value)(h:vs.all Value.oneCell'=true):CRep w J ρ vs.toArray (vs.map ofV):=by
 refine⟨by simp,λj hj=>?_,by simpa using h⟩
 have hj':j<vs.length:=by simpa using hj
 have e:vs.toArray.getD j undef=vs[j]:=by simp[Array.getD,hj']
 rw[e]
 exact⟨List.all_eq_true.1 h _ (List.getElem_mem hj'),by simpa using og vs[j]⟩
theorem l5{w:World}(e:TypeId)(c:Array Value):(newRow e c).run P w= .ok ⟨w.heap.size,0,none⟩ (w.alloc (.cells c e)):=by
 rfl
theorem Ml(e:TypeId)(zs:List Value)(hz:jg P e=some zs)(h1:zs.all Value.oneCell'=true):
 OpT P ⟨dst,.alloc e,ty,pos,af,g⟩ nid 1 st ⟨.pt nid 0,[(nid,some (.cells (zs.map ofV) e))]⟩:= .alloc λc ρ D J a w h=>by
 obtain⟨z,hr,hc⟩:=oh (w:=w) hz
 refine⟨.pointer (some ⟨w.heap.size,0,none⟩),w.alloc (.cells zs.toArray e),.cells zs.toArray e,zs.length,?_,iF.alloc w _,λρ' h1' h2'=>⟨.pt _ _ nid 0 h1',zs.toArray,(iF.alloc w _).new,rfl,(Br (J:=J) (ρ:=ρ') zs h1)⟩⟩
 simp[execOp,Instr.alloc,hr,newVar,hc,l5]
theorem Vo(e:TypeId)(x:Operand)(cs:List AV)(hx:(st.op x).parts=some cs)(hs:cs.all AV.scalar=true):
 OpT P ⟨dst,.box e x,ty,pos,af,g⟩ nid 1 st ⟨.pt nid 0,[(nid,some (.cells cs e))]⟩:= .alloc λc ρ D J a w h=>by
 obtain⟨h1,h2⟩:=qJ (h.op x) hx hs
 refine⟨.pointer (some ⟨w.heap.size,0,none⟩),w.alloc (.cells (a.eval x).cells e),.cells (a.eval x).cells e,cs.length,?_,iF.alloc w _,λρ' h1' h2'=>⟨.pt _ _ nid 0 h1',(a.eval x).cells,(iF.alloc w _).new,h1,Nat.le_refl _,λj hj=>⟨(h2 j hj).1,(h2 j hj).2.grew (iF.alloc w _) h2'⟩,?all⟩⟩
 ·simp[execOp,Instr.box,newVar,l5]
 ·rw[Array.all_eq_true_iff_forall_mem]
  intro u hu
  obtain⟨j,hj,rfl⟩:=Array.getElem_of_mem hu
  have:=(h2 j omgz).1
  simpa[Array.getD,hj] using this
theorem Mm(t:TypeId)(x y:Operand)(id off n:Nat)(cs vs:List AV)(e:TypeId)(hx:st.op x= .pt id off)(ho:st.ob id=some (.cells cs e))(hy:(st.op y).parts=some vs)(hs:vs.all AV.scalar=true)
 (hz:siz P t=some n) (hn:vs.length=n) (hlt:off+n<=cs.length):
 OpT P ⟨dst,.store t x y,ty,pos,af,g⟩ nid 0 st ⟨.any,[(id,some (.cells (spl cs off vs) e))]⟩:=OpT.modify ho λc ρ D J a w b s h hρ hob hJ=>by
 obtain⟨arr,ha,hsz,hcr⟩:=hob
 obtain⟨h1,h2⟩:=qJ (h.op y) hy hs
 have hxv:=h.op x
 rw[hx] at hxv
 generalize hv:a.eval x=v at hxv
 cases hxv with
 |pt b' s' _ _ hρ'=>
  rw[hρ] at hρ';cases hρ'
  have hcr':CRep w J ρ arr cs:=⟨by have:=hcr.1;omega,hcr.2⟩
  have hcells:∀v∈(a.eval y).cells.toList,v.oneCell'=true:=by
   intro u hu
   obtain⟨j,hj,rfl⟩:=List.getElem_of_mem hu
   have hj':j<vs.length:=by rw[<-h1];simpa using hj
   have:=(h2 j hj').1
   simpa[Array.getD,h1,hj'] using this
  have hlen:(a.eval y).cells.toList.length=vs.length:=by simpa using h1
  have hst:=run_storeCells_at P b off e (a.eval y).cells.toList 0 arr w ha (by have:=hcr.1;omega) hcells
  simp only[Nat.add_zero] at hst
  have hsp:=hcr'.splice (avs:=vs) (vs:=(a.eval y).cells.toList) (off:=off) hlen (λj hj=>by
   have:=h2 j hj
   rwa [show(a.eval y).cells.toList.getD j undef=(a.eval y).cells.getD j undef by simp[List.getD_eq_getElem?_getD,Array.getD_eq_getD_getElem?]]) omgz (by have:=hcr.1;omega)
  refine⟨.skip,w.setRow b (arr.toList.take off++(a.eval y).cells.toList++arr.toList.drop (off+(a.eval y).cells.toList.length)).toArray,undef,?_,.inr ⟨rfl,rfl⟩,?_,?_,?_,?_,?_,λhi=>⟨.any _,_,setRow_heap w b arr _ e _ ha,?_,?_,?_⟩⟩
  ·simp only[execOp,hv,Instr.storeAt,Instr.sureAddr,storeVar,Sem.run_bind,Sem.run_pure,Result.andThen_ok,dx hz,h1,hn,ne_eq,not_true,if_false]
   rw[hst];rfl
  ·simp
  ·rfl
  ·rfl
  ·rfl
  ·intro k hk;exact setRow_other w b k _ hk
  ·rw[hsp.2];exact hsz
  ·have:=(hsp.1.imp hi).1;rw[hsp.2,hsz] at this;exact this
  ·exact(hsp.1.imp hi).2
end
end
section
def tO(P:Program)(t:TypeId):Option (List (Nat×Nat)):=match P.underlying t with
 |some (.struct fs)=>fs.toList.mapM λf=>(siz P f.type).map λn=>(f.offset,n)
 |_=>none
def VRep(w:World)(J:Nat->Prop)(ρ:Rho)(c:Array Value)(cs:List AV):Prop:=c.size=cs.length/\∀j (h:j<cs.length),Rep w J ρ (c.getD j undef) cs[j]
theorem VRep.set{w:World} {J:Nat->Prop} {ρ:Rho} {c:Array Value} {cs:List AV}(h:VRep w J ρ c cs)(i:Nat){v:Value} {x:AV}(hv:Rep w J ρ v x):VRep w J ρ (c.setIfInBounds i v) (cs.set i x):=by
 refine⟨by simpa using h.1,λj hj=>?_⟩
 have hj':j<cs.length:=by simpa using hj
 have hjc:j<c.size:=by rw[h.1];exact hj'
 have:=h.2 j hj'
 rw[List.getElem_set]
 by_cases e:i=j
 ·subst e;simpa[Array.getD_eq_getD_getElem?,Array.getElem?_setIfInBounds,hjc] using hv
 ·rw[if_neg e];simpa[Array.getD_eq_getD_getElem?,Array.getElem?_setIfInBounds,e] using this
def lD(cs:List AV)(off:Nat):List AV->List AV
 |[]=>cs
 |v::vs=>lD (cs.set off v) (off+1) vs
def kC(place:Nat->Option (Nat×Nat))(cells:List AV):List (Nat×AV)->Option (List AV)
 |[]=>some cells
 |(i,x)::rest=>
  match place i,x.parts with
  |some (off,size),some vs=>if vs.length=size/\off+size<=cells.length/\vs.all AV.scalar=true then kC place (lD cells off vs) rest else none
  |_,_=>none
theorem EA{w:World} {J:Nat->Prop} {ρ:Rho}(vs:List AV):∀(us:List Value) (k off:Nat) (c:Array Value) (cs:List AV),VRep w J ρ c cs->us.length=vs.length->(∀j (hj:j<vs.length),Rep w J ρ (us.getD j undef) vs[j])->
 VRep w J ρ ((us.zipIdx k).foldl (λcs (x:Value×Nat)=>cs.setIfInBounds (off+x.2) x.1) c) (lD cs (off+k) vs):=by
 induction vs with
 |nil=>intro us k off c cs h hl _;cases us with|nil=>exact h|cons=>simp at hl
 |cons v vs ih=>
  intro us k off c cs h hl hr
  cases us with
  |nil=>simp at hl
  |cons u us=>
   simp only[List.zipIdx_cons,List.foldl_cons,lD]
   have:=ih us (k+1) off (c.setIfInBounds (off+k) u) (cs.set (off+k) v) (h.set _ (by have:=hr 0 (by simp);simpa using this)) (by simpa using hl) (λj hj=>by have:=hr (j+1) (by simpa using hj);simpa using this)
   rw[<-Nat.add_assoc] at this
   exact this
theorem yL{w:World} {J:Nat->Prop} {ρ:Rho}(place:Nat->Option (Nat×Nat))(ps:List (Nat×AV)):∀(qs:List (Nat×Value)) (c:Array Value) (cs out:List AV),VRep w J ρ c cs->kC place cs ps=some out->
 qs.map (·.1)=ps.map (·.1)->(∀j (hj:j<ps.length),Rep w J ρ ((qs.map (·.2)).getD j undef) ps[j].2)->∃c',Instr.fill place c qs=some c'/\VRep w J ρ c' out:=by
 induction ps with
 |nil=>intro qs c cs out h ho hk _;cases qs with
  |nil=>simp only[kC,Option.some.injEq] at ho;subst ho;exact⟨c,rfl,h⟩
  |cons=>simp at hk
 |cons p ps ih=>
  intro qs c cs out h ho hk hr
  cases qs with
  |nil=>simp at hk
  |cons q qs=>
   obtain⟨i,x⟩:=p
   obtain⟨i',v⟩:=q
   simp only[List.map_cons,List.cons.injEq] at hk
   obtain⟨rfl,hk⟩:=hk
   simp only[kC] at ho
   split at ho
   ·rename_i off size vs hp hx
    split at ho
    ·rename_i hc
     obtain⟨h1,h2,h3⟩:=hc
     have hv:Rep w J ρ v x:=by have:=hr 0 (by simp);simpa using this
     obtain⟨hs,hp'⟩:=qJ hv hx h3
     have hsz:v.cells.size=size:=by omega
     have hle:¬(off+v.cells.size>c.size):=by rw[hsz,h.1];omega
     have hrep:=EA (w:=w) (J:=J) (ρ:=ρ) vs v.cells.toList 0 off c cs h (by simpa using hs) (λj hj=>by
      have:=(hp' j hj).2
      rwa [show v.cells.toList.getD j undef=v.cells.getD j undef by simp[List.getD_eq_getElem?_getD,Array.getD_eq_getD_getElem?]])
     have hfold:v.cells.zipIdx.foldl (λcs (x:Value×Nat)=>cs.setIfInBounds (off+x.2) x.1) c=(v.cells.toList.zipIdx 0).foldl (λcs (x:Value×Nat)=>cs.setIfInBounds (off+x.2) x.1) c:=by
      rw[<-Array.foldl_toList,Array.toList_zipIdx]
     rw[<-hfold] at hrep
     obtain⟨c',hf,hv'⟩:=ih qs _ _ out hrep ho hk (λj hj=>by have:=hr (j+1) (by simpa using hj);simpa using this)
     refine⟨c',?_,hv'⟩
     simp only[Instr.fill,hp]
     rw[if_neg (by simp[hsz];rw[<-hsz];omega)]
     exact hf
    ·cases ho
   ·cases ho
section
variable {P:Program} {dst:Option Nat} {ty:TypeId} {pos:String} {af:Array Edge} {g:Option (Nat×Bool)} {nid:Nat} {st:St}
theorem G8{w:World} {t:TypeId} {l:List (Nat×Nat)}(h:tO P t=some l):∃fs,P.underlying t=some (.struct fs)/\((fs.mapM λf=>do pure (f.offset,<-sizeOf f.type):Sem (Array (Nat×Nat)))).run P w= .ok l.toArray w:=by
 unfold tO at h
 split at h
 ·rename_i fs hu
  refine⟨fs,hu,?_⟩
  rw[Array.mapM_eq_mapM_toList]
  generalize fs.toList=L at h
  have key:∀(L:List Field) (l:List (Nat×Nat)),L.mapM (λf=>(siz P f.type).map λn=>(f.offset,n))=some l->(L.mapM (λf=>Functor.map (Prod.mk f.offset) (sizeOf f.type):Field->Sem (Nat×Nat))).run P w= .ok l w:=by
   intro L
   induction L with
   |nil=>intro l h;simp at h;subst h;rfl
   |cons f L ih=>
    intro l h
    simp only[List.mapM_cons,Option.bind_eq_bind,Option.bind_eq_some_iff] at h
    obtain⟨p,hp,q,hq,he⟩:=h
    cases hs:siz P f.type with
    |none=>simp[hs] at hp
    |some n=>
     simp[hs] at hp
     simp at he
     subst hp;subst he
     simp[List.mapM_cons,dx hs,ih q hq]
  simp[key L l h]
 ·cases h
theorem Mo(t:TypeId)(ps:Array (Nat×Operand))(zs:List Value)(pl:List (Nat×Nat))(out:List AV)(hz:jg P t=some zs)(hp:tO P t=some pl)
 (hf:kC (pl[·]?) (zs.map ofV) (ps.toList.map λp=>(p.1,st.op p.2))=some out):OpT P ⟨dst,.build t ps,ty,pos,af,g⟩ nid 0 st ⟨.agg out,[]⟩:= .pure λc ρ D J a w h=>by
 obtain⟨z,hr,hc⟩:=oh (w:=w) hz
 obtain⟨fs,hu,hpl⟩:=G8 (w:=w) hp
 have h0:VRep w J ρ z.cells (zs.map ofV):=by
  rw[hc]
  refine⟨by simp,λj hj=>?_⟩
  have hj':j<zs.length:=by simpa using hj
  simpa[Array.getD,hj'] using og zs[j]
 obtain⟨c',hfill,hv⟩:=yL (w:=w) (J:=J) (ρ:=ρ) (pl[·]?) (ps.toList.map λp=>(p.1,st.op p.2)) (ps.toList.map λp=>(p.1,a.eval p.2)) z.cells _ out h0 hf (by simp) (λj hj=>by
  have hj':j<ps.toList.length:=by simpa using hj
  have:=h.op ps.toList[j].2
  simpa[List.getD_eq_getElem?_getD,List.getElem?_map,List.getElem?_eq_getElem hj'] using this)
 refine⟨.agg c',?_,.agg _ _ hv.1 hv.2⟩
 simp only[execOp,Instr.build,Sem.run_bind,hr,Result.andThen_ok,run_underlying hu,hpl]
 have e1:(Array.map (λx=>(x.1,a.eval x.2)) ps).toList=List.map (λp=>(p.1,a.eval p.2)) ps.toList:=by simp
 have e2:(λx:Nat=>pl.toArray[x]?)=(λx:Nat=>pl[x]?):=by funext x;simp
 simp[e1,e2,hfill]
def eO(zs:List Value)(n:Nat):List AV:=(List.replicate n (zs.map ofV)).flatten
theorem gX(zs:List Value)(n:Nat):(eO zs n).length=n*zs.length:=by simp[eO]
theorem EB{α:Type}(l:List α)(n:Nat):∀j,j<n*l.length->((List.replicate n l).flatten)[j]? =l[j%l.length]? :=by
 induction n with
 |zero=>intro j hj;simp at hj
 |succ n ih=>
  intro j hj
  rw[List.replicate_succ,List.flatten_cons]
  by_cases h:j<l.length
  ·rw[List.getElem?_append_left h,Nat.mod_eq_of_lt h]
  ·rw[List.getElem?_append_right omgz,ih (j-l.length) (by rw[Nat.add_mul,Nat.one_mul] at hj;omega)]
   rw[Nat.mod_eq_sub_mod (a:=j) omgz]
theorem qK{w:World} {J:Nat->Prop} {ρ:Rho} {z:Array Value} {zs:List Value}(hz:z=zs.toArray)(h1:zs.all Value.oneCell'=true)(n:Nat):CRep w J ρ (madeCells z (n*zs.length)) (eO zs n):=by
 subst hz
 have hall:(madeCells zs.toArray (n*zs.length)).all Value.oneCell'=true:=by
  rw[Array.all_eq_true_iff_forall_mem]
  intro u hu
  obtain⟨j,hj,rfl⟩:=Array.getElem_of_mem hu
  rw[size_madeCells] at hj
  have hpos:0<zs.length:=by
   rcases Nat.eq_zero_or_pos zs.length with h|h
   ·rw[h] at hj;simp at hj
   ·exact h
  have hm:j%zs.length<zs.length:=Nat.mod_lt _ hpos
  have:=List.all_eq_true.1 h1 _ (List.getElem_mem hm)
  simpa[madeCells,hm] using this
 refine⟨by rw[gX,size_madeCells];exact Nat.le_refl _,λj hj=>?_,hall⟩
 rw[gX] at hj
 have hpos:0<zs.length:=by
  rcases Nat.eq_zero_or_pos zs.length with h|h
  ·rw[h] at hj;simp at hj
  ·exact h
 have hm:j%zs.length<zs.length:=Nat.mod_lt _ hpos
 have e:(madeCells zs.toArray (n*zs.length)).getD j undef=zs[j%zs.length]:=by
  simp[madeCells,Array.getD_eq_getD_getElem?,hj,hm]
 have e2:(eO zs n)[j]? =some (ofV zs[j%zs.length]):=by
  unfold eO
  rw[EB _ _ _ (by simpa using hj)]
  simp[hm]
 rw[e]
 refine⟨List.all_eq_true.1 h1 _ (List.getElem_mem hm),?_⟩
 obtain⟨_,e3⟩:=List.getElem?_eq_some_iff.1 e2
 rw[e3]
 exact og _
theorem kU{e:TypeId} {es:Nat} {zs:List Value}(h1:siz P e=some es)(h2:jg P e=some zs):∃i z,P.info? e=some i/\i.size=es/\i.zero=some z/\z.cells=zs.toArray:=by
 unfold siz at h1;unfold jg at h2
 cases hi:P.info? e with
 |none=>simp[hi] at h1
 |some i=>
  simp[hi] at h1 h2
  obtain⟨z,hz,rfl⟩:=h2
  exact⟨i,z,rfl,h1,hz,by simp⟩
theorem AR(t:TypeId)(l c':Operand)(e:TypeId)(es by':Nat)(zs:List Value)(kl kc:IntKind)(n:Int)(he:jf P t=some e)(hs:siz P e=some es)(hzs:jg P e=some zs)(hzl:zs.length=es)(h1:zs.all Value.oneCell'=true)
 (hb:byt P e=some by') (hl:st.op l= .val (.int kl n)) (hc:st.op c'= .val (.int kc n)) (h0:0<=n) (hn:n<=9223372036854775807) (hbytes:(by':Int)*n<=281474976710656):
 OpT P ⟨dst,.makeSlice t l c',ty,pos,af,g⟩ nid 1 st ⟨.sl nid 0 n.toNat es,[(nid,some (.cells (eO zs n.toNat) e))]⟩:= .alloc λc ρ D J a w h=>by
 have e1:=h.op l;have e2:=h.op c'
 rw[hl] at e1;rw[hc] at e2
 have e1:=aG e1;have e2:=aG e2
 obtain⟨i,z,hi,his,hz,hzc⟩:=kU hs hzs
 have hb':i.bytes=by':=by unfold byt at hb;simpa[hi] using hb
 have hr:=run_make (P:=P) w t e i z (bg he) hi hz kl kc n n h0 (Int.le_refl _) (by rw[hb'];exact hbytes) hn
 have hcr:=λρ':Rho=>qK (w:=w.alloc (.cells (madeCells z.cells (n.toNat*i.size)) e)) (J:=J) (ρ:=ρ') hzc h1 n.toNat
 refine⟨.slice (some ⟨w.heap.size,0,none⟩) n.toNat n.toNat,_,_,n.toNat*es,?_,iF.alloc w (.cells (madeCells z.cells (n.toNat*i.size)) e),λρ' h1' h2'=>⟨.sl _ _ nid 0 n.toNat es n.toNat h1' (Nat.le_refl _) omgz,madeCells z.cells (n.toNat*i.size),(iF.alloc w _).new,?_,?_,?_⟩⟩
 ·simp[execOp,e1,e2,hr]
 ·rw[size_madeCells,his]
 ·have:=(hcr ρ').1;rw[size_madeCells,hzl] at this;exact this
 ·rw[his,<-hzl]
  have:=(hcr ρ').2
  rw[his,<-hzl] at this
  exact this
theorem yM(t:TypeId)(len:Nat)(ps:Array (Nat×Operand))(e:TypeId)(es:Nat)(zs:List Value)(out:List AV)(he:jf P t=some e)(hs:siz P e=some es)(hzs:jg P e=some zs)(hzl:zs.length=es)(h1:zs.all Value.oneCell'=true)
 (hsmall:len*es<=16777216) (hf:kC (λi=>some (i*es,es)) (eO zs len) (ps.toList.map λp=>(p.1,st.op p.2))=some out) (hout:out.all AV.scalar=true) (hol:out.length=len*es):
 OpT P ⟨dst,.buildSlice t len ps,ty,pos,af,g⟩ nid 1 st ⟨.sl nid 0 len es,[(nid,some (.cells out e))]⟩:= .alloc λc ρ D J a w h=>by
 obtain⟨i,z,hi,his,hz,hzc⟩:=kU hs hzs
 have hcr:=qK (w:=w) (J:=J) (ρ:=ρ) hzc h1 len
 have h0:VRep w J ρ (madeCells z.cells (len*es)) (eO zs len):=⟨by rw[size_madeCells,gX,hzl],λj hj=>by have:=(hcr.2.1 j hj).2;rwa [hzl] at this⟩
 obtain⟨c',hfill,hv⟩:=yL (w:=w) (J:=J) (ρ:=ρ) _ (ps.toList.map λp=>(p.1,st.op p.2)) (ps.toList.map λp=>(p.1,a.eval p.2)) _ _ out h0 hf (by simp) (λj hj=>by
  have hj':j<ps.toList.length:=by simpa using hj
  have:=h.op ps.toList[j].2
  simpa[List.getD_eq_getElem?_getD,List.getElem?_map,List.getElem?_eq_getElem hj'] using this)
 refine⟨.slice (some ⟨w.heap.size,0,none⟩) len len,w.alloc (.cells c' e),.cells c' e,len*es,?_,iF.alloc w _,λρ' h1' h2'=>⟨.sl _ _ nid 0 len es len h1' (Nat.le_refl _) omgz,c',(iF.alloc w _).new,by rw[hv.1,hol],by rw[hol];exact Nat.le_refl _,λj hj=>?_,?all⟩⟩
 ·have hsm:¬(len*es>2^24):=by omega
  have e1:(Array.map (λx=>(x.1,a.eval x.2)) ps).toList=List.map (λp=>(p.1,a.eval p.2)) ps.toList:=by simp
  have hzv:(zeroValue e).run P w= .ok z w:=by simp[zeroValue,typeInfo,hi,hz]
  simp only[execOp,Instr.buildSlice,Sem.run_bind,run_underlying (bg he),Result.andThen_ok,dx hs,if_neg hsm,Sem.run_pure,e1]
  by_cases h00:len*es=0
  ·have hm:(Array.range (len*es)).map (λx=>(#[]:Array Value)[x%(#[]:Array Value).size]!)=madeCells z.cells (len*es):=by
    unfold madeCells;rw[h00];simp
   rw[if_pos h00]
   simp only[Sem.run_bind,Sem.run_pure,Result.andThen_ok,hm,hfill,l5]
  ·rw[if_neg h00]
   have hm:(Array.range (len*es)).map (λx=>z.cells[x%z.cells.size]!)=madeCells z.cells (len*es):=rfl
   simp only[Sem.run_bind,hzv,Sem.run_pure,Result.andThen_ok,hm,hfill,l5]
 ·have:=hv.2 j hj
  have hsc:=List.all_eq_true.1 hout _ (List.getElem_mem hj)
  exact⟨this.oneCell hsc,this.grew (iF.alloc w _) h2'⟩
 ·rw[Array.all_eq_true_iff_forall_mem]
  intro u hu
  obtain⟨j,hj,rfl⟩:=Array.getElem_of_mem hu
  have hj':j<out.length:=by rw[<-hv.1];exact hj
  have:=hv.2 j hj'
  have hsc:=List.all_eq_true.1 hout _ (List.getElem_mem hj')
  have:=this.oneCell hsc
  simpa[Array.getD,hj] using this
end
end
