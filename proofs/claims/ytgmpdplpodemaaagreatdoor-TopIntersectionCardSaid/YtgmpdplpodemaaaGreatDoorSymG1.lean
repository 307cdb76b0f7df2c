/- Sym1 Sym2 Sym3. No condition. -/
import Derived.WalkKit
import Derived.Sort.LoopGhostIn
import Derived.OrdersIn
import Derived.RangeFuncNested
import Derived.RangeFuncLeaves
import Derived.WalkSpells
import Derived.WalkLawsBesides
set_option linter.all false
namespace Go.Sy
section
def fen(r:Option Nat):Fence:={Fence.wide with round:=r}
structure iU where
 P:Program
 l:Nat
 xs:Nat→Option Value
 go:Nat→Bool
 B:Nat→Prop
 G:Nat→(Nat→Prop)→World→Prop
 keep:∀{j:Nat} {X X':Nat→Prop} {w w':World},G j X w→w.heap.size≤w'.heap.size→w'.os=w.os→w'.tape=w.tape→w'.output=w.output→(∀b,X b∨B b∨b=l→w'.heap[b]? =w.heap[b]?)→
  (∀b,X b→X' b)→(∀b,X' b→b<w'.heap.size∧¬B b∧b≠l)→G j X' w'
 yield:∀{j:Nat} {x:Value} {X:Nat→Prop} {w:World},G j X w→go j=true→xs j=some x→(∀b,X b→b<w.heap.size∧¬B b∧b≠l)→∀(r:Option Nat),YieldAt (fen r) 0 P l #[x] w fun e w'=>
  e= .returned (.bool (go (j+1)))∧w.heap.size≤w'.heap.size∧w'.os=w.os∧w'.tape=w.tape∧w'.output=w.output∧(∃r,w'.heap[l]? =some (.loop r))∧
  (∀b,b<w.heap.size→¬X b→b≠l→w'.heap[b]? =w.heap[b]?)∧G (j+1) (fun b=>X b∨(w.heap.size≤b∧b<w'.heap.size)) w'
inductive AV where
 |val (v:Value)
 |isl (z:Bool) (cells:List AV) (len:Nat)
 |ipt (cells:List AV) (off:Nat)
 |sl (id off len es:Nat)
 |pt (id off:Nat)
 |mp (id:Nat)
 |agg (cs:List AV)
 |tup (cs:List AV)
 |fn (f:FuncId) (cs:List AV)
 |yl (id:Nat)
 |any
abbrev Rho:=Nat→Option (Nat×Nat)
inductive Rep (w:World) (J:Nat→Prop):Rho→Value→AV→Prop
 |val {ρ:Rho} (v:Value):Rep w J ρ v (.val v)
 |any {ρ:Rho} (v:Value):Rep w J ρ v .any
 |inil {ρ:Rho}:Rep w J ρ (.slice none 0 0) (.isl true [] 0)
 |iemp {ρ:Rho} (a:Addr) (cap:Nat):Rep w J ρ (.slice (some a) 0 cap) (.isl false [] 0)
 |isl {ρ:Rho} (b off len cap:Nat) (cells:List AV) (u:Nat→Value) (hb:cells≠[]→J b∧b<w.heap.size) (hc:len≤cap)
   (h0:∀j,j<cells.length→(u j).oneCell'=true)
   (h1:∀j,j<cells.length→w.cell? ⟨b,off+j,none⟩=some (u j)) (h2:∀j (h:j<cells.length),Rep w J (fun _=>none) (u j) cells[j]):
   Rep w J ρ (.slice (some ⟨b,off,none⟩) len cap) (.isl false cells len)
 |ipt {ρ:Rho} (b off k:Nat) (cells:List AV) (u:Nat→Value) (hb:cells≠[]→J b∧b<w.heap.size)
   (h0:∀j,j<cells.length→(u j).oneCell'=true)
   (h1:∀j,j<cells.length→w.cell? ⟨b,off+j,none⟩=some (u j)) (h2:∀j (h:j<cells.length),Rep w J (fun _=>none) (u j) cells[j]):
   Rep w J ρ (.pointer (some ⟨b,off+k,none⟩)) (.ipt cells k)
 |sl {ρ:Rho} (b s id off len es cap:Nat) (h:ρ id=some (b,s)) (hc:len≤cap) (hs:off+cap*es=s):Rep w J ρ (.slice (some ⟨b,off,none⟩) len cap) (.sl id off len es)
 |pt {ρ:Rho} (b s id off:Nat) (h:ρ id=some (b,s)):Rep w J ρ (.pointer (some ⟨b,off,none⟩)) (.pt id off)
 |mp {ρ:Rho} (b s id:Nat) (h:ρ id=some (b,s)):Rep w J ρ (.map (some b)) (.mp id)
 |yl {ρ:Rho} (b s id:Nat) (h:ρ id=some (b,s)):Rep w J ρ (.func (.yield b) #[] #[]) (.yl id)
 |agg {ρ:Rho} (vs:Array Value) (cs:List AV) (hs:vs.size=cs.length) (h:∀j (h:j<cs.length),Rep w J ρ (vs.getD j undef) cs[j]):Rep w J ρ (.agg vs) (.agg cs)
 |tup {ρ:Rho} (vs:Array Value) (cs:List AV) (hs:vs.size=cs.length) (h:∀j (h:j<cs.length),Rep w J ρ (vs.getD j undef) cs[j]):Rep w J ρ (.tuple vs) (.tup cs)
 |fn {ρ:Rho} (f:FuncId) (vs:Array Value) (cs:List AV) (hs:vs.size=cs.length) (h:∀j (h:j<cs.length),Rep w J ρ (vs.getD j undef) cs[j]):Rep w J ρ (.func (.func f) #[] vs) (.fn f cs)
def AV.scalar:AV→Bool
 | .val v=>v.oneCell'
 | .agg _| .tup _| .any=>false
 |_=>true
theorem Rep.oneCell{w:World} {J:Nat→Prop} {ρ:Rho} {v:Value} {x:AV}(h:Rep w J ρ v x)(hx:x.scalar=true):v.oneCell'=true:=by
 cases h<;>first|rfl|exact hx|cases hx
theorem Rep.mono{w w':World} {J J':Nat→Prop}(hJ:∀b,J b→b<w.heap.size→J' b∧w'.heap[b]? =w.heap[b]?)(hs:w.heap.size≤w'.heap.size)
 {ρ ρ':Rho} (hρ:∀id p,ρ id=some p→ρ' id=some p) {v:Value} {x:AV} (h:Rep w J ρ v x):Rep w' J' ρ' v x:=by
 induction h generalizing ρ' with
 |val v=>exact .val v
 |any v=>exact .any v
 |inil=>exact .inil
 |iemp a cap=>exact .iemp a cap
 |isl b off len cap cells u hb hc h0 h1 h2 ih=>
  refine .isl b off len cap cells u (fun hne=>?_) hc h0 (fun j hj=>?_) (fun j hj=>ih j hj (fun _ _ h=>by cases h))
  ·obtain⟨a,c⟩:=hb hne;exact⟨(hJ b a c).1,by omega⟩
  ·have hne:cells≠[]:=by intro e;subst e;simp at hj
   obtain⟨a,c⟩:=hb hne
   rw[World.cell?_of_block (w:=w) (a:=⟨b,off+j,none⟩) (hJ b a c).2];exact h1 j hj
 |ipt b off k cells u hb h0 h1 h2 ih=>
  refine .ipt b off k cells u (fun hne=>?_) h0 (fun j hj=>?_) (fun j hj=>ih j hj (fun _ _ h=>by cases h))
  ·obtain⟨a,c⟩:=hb hne;exact⟨(hJ b a c).1,by omega⟩
  ·have hne:cells≠[]:=by intro e;subst e;simp at hj
   obtain⟨a,c⟩:=hb hne
   rw[World.cell?_of_block (w:=w) (a:=⟨b,off+j,none⟩) (hJ b a c).2];exact h1 j hj
 |sl b s id off len es cap h hc hs=>exact .sl b s id off len es cap (hρ _ _ h) hc hs
 |pt b s id off h=>exact .pt b s id off (hρ _ _ h)
 |mp b s id h=>exact .mp b s id (hρ _ _ h)
 |yl b s id h=>exact .yl b s id (hρ _ _ h)
 |agg vs cs hs h ih=>exact .agg vs cs hs (fun j hj=>ih j hj hρ)
 |tup vs cs hs h ih=>exact .tup vs cs hs (fun j hj=>ih j hj hρ)
 |fn f vs cs hs h ih=>exact .fn f vs cs hs (fun j hj=>ih j hj hρ)
theorem Rep.up{w:World} {J:Nat→Prop} {ρ:Rho} {v:Value} {x:AV}(h:Rep w J (fun _=>none) v x):Rep w J ρ v x:=by
 refine h.mono (J:=J) (J':=J) ?_ (Nat.le_refl _) ?_
 ·exact fun b hb _=>⟨hb,rfl⟩
 ·exact fun _ _ h=>by cases h
def keyV(ag:Bool)(ks:List Int):Value:=if ag then .agg (ks.map fun n=>Value.int .i64 n).toArray else .int .i64 (ks.headD 0)
inductive aC where
 |cells (cs:List AV) (elem:TypeId)
 |map (ag:Bool) (n:Nat) (l:List (List Int×AV))
 |full (cs:List AV) (elem:TypeId)
 |tr (H:iU) (j:Nat)
def aC.isTr:aC→Bool
 | .tr _ _=>true
 |_=>false
def trs:List aC→List iU
 |[]=>[]
 | .tr H _::l=>H::trs l
 |_::l=>trs l
theorem adJ{l:List aC} {H:iU}:H∈trs l↔∃k,aC.tr H k∈l:=by
 induction l with
 |nil=>simp[trs]
 |cons o l ih=>cases o<;>simp[trs,ih,exists_or]
def ObjRep(w:World)(J:Nat→Prop)(ρ:Rho)(b s:Nat):aC→Prop
 | .cells cs e=>∃c,w.heap[b]? =some (.cells c e (0,0))∧c.size=s∧cs.length≤s∧(∀j (h:j<cs.length),(c.getD j undef).oneCell'=true∧Rep w J ρ (c.getD j undef) cs[j])∧c.all Value.oneCell'=true
 | .map ag n l=>∃(ms:Array MapEntry) (clock:Nat),w.heap[b]? =some (.map ms clock)∧(ms.size=l.length∧clock=l.length)∧
     ∀j (h:j<l.length),((ms.getD j default).key=keyV ag l[j].1∧l[j].1.length=n∧(ms.getD j default).born=j)∧Rep w J ρ ((ms.getD j default).val) l[j].2
 | .full cs e=>∃c,w.heap[b]? =some (.cells c e (0,0))∧c.size=s∧cs.length=s∧(∀j (h:j<cs.length),(c.getD j undef).oneCell'=true∧Rep w J ρ (c.getD j undef) cs[j])∧c.all Value.oneCell'=true
 | .tr H _=>b=H.l∧∃r,w.heap[b]? =some (.loop r)
theorem ObjRep.lt{w:World} {J:Nat→Prop} {ρ:Rho} {b s:Nat} {o:aC}(h:ObjRep w J ρ b s o):b<w.heap.size:=by
 cases o with
 |cells cs e=>obtain⟨c,hc,_⟩:=h;exact(Array.getElem?_eq_some_iff.1 hc).1
 |map ag n l=>obtain⟨ms,k,hc,_⟩:=h;exact(Array.getElem?_eq_some_iff.1 hc).1
 |full cs e=>obtain⟨c,hc,_⟩:=h;exact(Array.getElem?_eq_some_iff.1 hc).1
 |tr H j=>obtain⟨_,r,hc⟩:=h;exact(Array.getElem?_eq_some_iff.1 hc).1
theorem ObjRep.mono{w w':World} {J J':Nat→Prop} {ρ ρ':Rho}(hJ:∀b,J b→b<w.heap.size→J' b∧w'.heap[b]? =w.heap[b]?)(hs:w.heap.size≤w'.heap.size)
 (hρ:∀id p,ρ id=some p→ρ' id=some p) {b s:Nat} {o:aC} (hb:w'.heap[b]? =w.heap[b]?) (h:ObjRep w J ρ b s o):ObjRep w' J' ρ' b s o:=by
 cases o with
 |cells cs e=>
  obtain⟨c,hc,h1,h2,h3,h4⟩:=h
  exact⟨c,hb.trans hc,h1,h2,fun j hj=>⟨(h3 j hj).1,(h3 j hj).2.mono hJ hs hρ⟩,h4⟩
 |map ag n l=>
  obtain⟨ms,k,hc,h1,h2⟩:=h
  exact⟨ms,k,hb.trans hc,h1,fun j hj=>⟨(h2 j hj).1,(h2 j hj).2.mono hJ hs hρ⟩⟩
 |full cs e=>
  obtain⟨c,hc,h1,h2,h3,h4⟩:=h
  exact⟨c,hb.trans hc,h1,h2,fun j hj=>⟨(h3 j hj).1,(h3 j hj).2.mono hJ hs hρ⟩,h4⟩
 |tr H j=>obtain⟨h1,r,hc⟩:=h;exact⟨h1,r,hb.trans hc⟩
def aS{α:Type}:List (Nat×α)→Nat→Option α
 |[],_=>none
 |(k,v)::l,t=>if t=k then some v else aS l t
theorem uJ{α:Type}(l m:List (Nat×α))(t:Nat):aS (l++m) t=(aS l t).or (aS m t):=by
 induction l with
 |nil=>simp[aS]
 |cons x l ih=>obtain⟨k,v⟩:=x;simp only[List.cons_append,aS];split<;>simp[ih]
theorem yZ{α:Type} {l:List (Nat×α)} {t:Nat}:aS l t=none↔t ∉ l.map (·.1):=by
 induction l with
 |nil=>simp[aS]
 |cons x l ih=>obtain⟨k,v⟩:=x;simp only[aS,List.map_cons,List.mem_cons];split<;>simp_all
theorem adC{α:Type} {l:List (Nat×α)} {t:Nat} {v:α}(h:aS l t=some v):(t,v)∈l:=by
 induction l with
 |nil=>simp[aS] at h
 |cons x l ih=>
  obtain⟨k,u⟩:=x
  simp only[aS] at h
  split at h
  ·rename_i e;subst e;cases h;exact List.mem_cons_self
  ·exact List.mem_cons_of_mem _ (ih h)
structure St where
 n:Nat
 m:Nat
 env:List (Nat×AV)
 objs:List (Nat×Option aC)
def St.ev(st:St)(t:Nat):AV:=(aS st.env t).getD .any
def St.ob(st:St)(id:Nat):Option aC:=(aS st.objs id).join
def ofV:Value→AV
 | .slice none 0 0=> .isl true [] 0
 |v=> .val v
theorem Ra(k:IntKind)(n:Int):ofV (.int k n)= .val (.int k n):=rfl
theorem LH(b:Bool):ofV (.bool b)= .val (.bool b):=rfl
theorem Rb(s:ByteArray):ofV (.string s)= .val (.string s):=rfl
theorem Rc(a:Option Addr):ofV (.pointer a)= .val (.pointer a):=rfl
theorem Re:ofV (.slice none 0 0)= .isl true [] 0:=rfl
theorem Rf(a:Option Nat):ofV (.map a)= .val (.map a):=rfl
def wU:List Int:=[0,1,28,2,29,14,24,3,30,22,20,15,25,17,4,8,31,27,13,23,21,19,16,7,26,12,18,6,11,5,10,9]
def tabP:List Int:=[1,10,100,1000,10000,100000,1000000,10000000,100000000,1000000000,10000000000,100000000000,1000000000000,10000000000000,100000000000000,1000000000000000,10000000000000000,100000000000000000,1000000000000000000,10000000000000000000]
def LJ:Nat→Option (IntKind×List Int):=fun g=>if g=0 then some (.u8,wU) else if g=1 then some (.u64,tabP) else none
theorem Rh{g:Nat} {k:IntKind} {zs:List Int}(h:LJ g=some (k,zs)):zs≠[]:=by
 unfold LJ at h
 repeat' (first|(split at h)|(cases h;exact List.cons_ne_nil _ _)|(cases h;done))
def Es(g:Nat):AV:=match LJ g with
 |some (k,zs)=> .ipt (zs.map fun z=> .val (.int k z)) 0
 |none=> .val (.pointer (some ⟨g,0,none⟩))
def Laid(J:Nat→Prop)(w:World):Prop:=∀g k zs,LJ g=some (k,zs)→J g∧g<w.heap.size∧∀i (h:i<zs.length),w.cell? ⟨g,i,none⟩=some (.int k zs[i])
theorem Laid.mono{J J':Nat→Prop} {w w':World}(h:Laid J w)(hJ:∀b,J b→b<w.heap.size→J' b∧w'.heap[b]? =w.heap[b]?)(hs:w.heap.size≤w'.heap.size):Laid J' w':=fun g k zs hg=>by
 obtain⟨h1,h2,h3⟩:=h g k zs hg
 obtain⟨k1,k2⟩:=hJ g h1 h2
 exact⟨k1,by omega,fun i hi=>by rw[World.cell?_of_block (w:=w) (a:=⟨g,i,none⟩) k2];exact h3 i hi⟩
theorem Laid.rep{J:Nat→Prop} {w:World} {ρ:Rho}(h:Laid J w)(g:Nat):Rep w J ρ (.pointer (some ⟨g,0,none⟩)) (Es g):=by
 unfold Es
 split
 ·rename_i kd zs hg
  obtain⟨h1,h2,h3⟩:=h g kd zs hg
  have:=Rep.ipt (w:=w) (J:=J) (ρ:=ρ) g 0 0 (zs.map fun z=>AV.val (.int kd z)) (fun i=> .int kd (zs.getD i 0)) (fun _=>⟨h1,h2⟩) (fun j hj=>rfl) (fun j hj=>by
   have hj':j<zs.length:=by simpa using hj
   simpa[hj'] using h3 j hj') (fun j hj=>by
   have hj':j<zs.length:=by simpa using hj
   have:(zs.map fun z=>AV.val (.int kd z))[j]= .val (.int kd (zs.getD j 0)):=by simp[hj']
   rw[this];exact .val _)
  simpa using this
 ·exact .val _
def St.op(st:St):Operand→AV
 | .tmp t=>st.ev t
 | .const v=>ofV v
 | .global g=>Es g
 | .func f=> .fn f []
theorem mq{w:World} {J:Nat→Prop} {ρ:Rho}(v:Value):Rep w J ρ v (ofV v):=by
 unfold ofV
 split
 ·exact .inil
 ·exact .val _
structure Eff where
 v:AV
 upd:List (Nat×Option aC)
def Eff.keys(e:Eff):List Nat:=e.upd.map (·.1)
def St.put(st:St)(dst:Option Nat)(v:AV):St:=match dst with
 |some d=>{st with env:=(d,v)::st.env}
 |none=>st
def St.app(st:St)(dst:Option Nat)(e:Eff):St:={st.put dst e.v with objs:=e.upd++st.objs}
theorem St.ob_app(st:St)(dst:Option Nat)(e:Eff)(id:Nat):(st.app dst e).ob id=if id∈e.keys then(aS e.upd id).join else st.ob id:=by
 have h0:(st.put dst e.v).objs=st.objs:=by unfold St.put;split<;>rfl
 simp only[St.ob,St.app,uJ]
 cases h:aS e.upd id with
 |none=>rw[if_neg (by simpa[Eff.keys] using yZ.1 h)];simp
 |some x=>
  have:id∈e.keys:=by
   refine Classical.byContradiction fun hn=>?_
   have:=(yZ (l:=e.upd) (t:=id)).2 hn
   rw[this] at h;cases h
  rw[if_pos this];simp
structure Ctx where
 w0:World
 A:Nat→Prop
 I:Nat→Prop
 pin:Rho
 rd:Option Nat
 tr:iU→Prop
structure abJ(c:Ctx)(w:World):Prop where
 size:c.w0.heap.size≤w.heap.size
 os:w.os=c.w0.os
 tape:w.tape=c.w0.tape
 output:w.output=c.w0.output
 block:∀b,b<c.w0.heap.size→¬c.I b→w.heap[b]? =c.w0.heap[b]?
def JA(D:Nat):Deferred:={target:= .collected D,args:= #[]}
def Marks(c:Ctx)(J:Nat→Prop)(w:World)(ds:List Deferred):Prop:=
 (∃l:List Nat,ds=l.map JA∧l.Nodup∧∀D∈l,w.heap[D]? =some (.deferred (some []))∧J D∧c.w0.heap.size≤D)∧∀l,c.rd=some l→ds=[]∧¬c.I l∧∃r,c.w0.heap[l]? =some (.loop r)
theorem ObjRep.not_def{w:World} {J:Nat→Prop} {ρ:Rho} {b s:Nat} {o:aC} {x:Option (List Deferred)}(h:ObjRep w J ρ b s o)(k:w.heap[b]? =some (.deferred x)):False:=by
 cases o with
 |cells cs e=>obtain⟨c,hc,_⟩:=h;rw[hc] at k;cases k
 |map ag n l=>obtain⟨c,_,hc,_⟩:=h;rw[hc] at k;cases k
 |full cs e=>obtain⟨c,hc,_⟩:=h;rw[hc] at k;cases k
 |tr H j=>obtain⟨_,r,hc⟩:=h;rw[hc] at k;cases k
theorem Marks.nil{c:Ctx} {J:Nat→Prop} {w:World}(h:∀l,c.rd=some l→¬c.I l∧∃r,c.w0.heap[l]? =some (.loop r)):Marks c J w []:=⟨⟨[],rfl,.nil,fun _ h=>(by cases h)⟩,fun l hl=>⟨rfl,h l hl⟩⟩
theorem Marks.same{c:Ctx} {J J':Nat→Prop} {w w':World} {ds:List Deferred}(h:Marks c J w ds)(k:∀D,J D→D<w.heap.size→w'.heap[D]? =w.heap[D]? ∧J' D):Marks c J' w' ds:=by
 obtain⟨⟨l,h1,h2,h3⟩,h4⟩:=h
 refine⟨⟨l,h1,h2,fun D hD=>?_⟩,h4⟩
 obtain⟨k1,k2,k3⟩:=h3 D hD
 have:=k D k2 (Array.getElem?_eq_some_iff.1 k1).1
 exact⟨this.1.trans k1,this.2,k3⟩
def Xm(c:Ctx)(J:Nat→Prop)(ob:Nat→Option aC)(ρ:Rho)(w:World)(b:Nat):Prop:=
 b<w.heap.size∧(c.I b∨c.w0.heap.size≤b)∧¬J b∧∀id o s,ob id=some o→ρ id≠some (b,s)
structure Hid(c:Ctx)(J:Nat→Prop)(ob:Nat→Option aC)(ρ:Rho)(w:World):Prop where
 one:∀id id' H H' j j',ob id=some (.tr H j)→ob id'=some (.tr H' j')→id=id'
 on:∀id H j,ob id=some (.tr H j)→H.G j (Xm c J ob ρ w) w∧(∀b,H.B b→b<c.w0.heap.size∧¬c.I b)∧c.tr H
theorem Hid.none{c:Ctx} {J:Nat→Prop} {ob:Nat→Option aC} {ρ:Rho} {w:World}(h:∀id H j,ob id≠some (.tr H j)):Hid c J ob ρ w:=
 ⟨fun id _ H _ j _ k _=>absurd k (h id H j),fun id H j k=>absurd k (h id H j)⟩
theorem Hid.step{c:Ctx} {J J':Nat→Prop} {ob ob':Nat→Option aC} {ρ ρ':Rho} {w w':World}(h:Hid c J ob ρ w)(τ:Nat→Nat)(sub:∀id H j,ob' id=some (.tr H j)→ob (τ id)=some (.tr H j))
 (inj:∀id id' H H' j j',ob' id=some (.tr H j)→ob' id'=some (.tr H' j')→τ id=τ id'→id=id') (hsz:w.heap.size≤w'.heap.size) (ho:w'.os=w.os) (ht:w'.tape=w.tape) (hu:w'.output=w.output)
 (sX:∀b,Xm c J ob ρ w b→w'.heap[b]? =w.heap[b]?) (sB:∀b,b<c.w0.heap.size→¬c.I b→w'.heap[b]? =w.heap[b]?) (sL:∀id H j,ob' id=some (.tr H j)→w'.heap[H.l]? =w.heap[H.l]?)
 (mono:∀b,Xm c J ob ρ w b→Xm c J' ob' ρ' w' b) (nl:∀id H j,ob' id=some (.tr H j)→¬Xm c J' ob' ρ' w' H.l):Hid c J' ob' ρ' w':=by
 refine⟨fun id id' H H' j j' h1 h2=>inj id id' H H' j j' h1 h2 (h.one _ _ _ _ _ _ (sub _ _ _ h1) (sub _ _ _ h2)),fun id H j hid=>?_⟩
 obtain⟨h1,h2,h3⟩:=h.on _ _ _ (sub _ _ _ hid)
 refine⟨H.keep h1 hsz ho ht hu (fun b hb=>?_) mono (fun b hb=>⟨hb.1,fun hB=>?_,fun e=>nl _ _ _ hid (e▸hb)⟩),h2,h3⟩
 ·rcases hb with hb|hb|hb
  ·exact sX b hb
  ·exact sB b (h2 b hb).1 (h2 b hb).2
  ·subst hb;exact sL _ _ _ hid
 ·have:=h2 b hB
  rcases hb.2.1 with h|h
  ·exact this.2 h
  ·omega
structure Sim(c:Ctx)(ρ:Rho)(D J:Nat→Prop)(st:St)(a:Act)(w:World):Prop where
 defers:Marks c J w a.defers
 tmps:a.tmps.size=st.n
 env:∀t,Rep w J ρ (a.tmps.getD t undef) (st.ev t)
 obj:∀id o,st.ob id=some o→∃b s,ρ id=some (b,s)∧ObjRep w J ρ b s o∧(c.I b∨c.w0.heap.size≤b)∧¬J b
 inj:∀id id' o o' b s s',st.ob id=some o→st.ob id'=some o'→ρ id=some (b,s)→ρ id'=some (b,s')→id=id'
 dom:∀id p,ρ id=some p→D id
 jok:∀b,J b→c.A b∨c.I b∨c.w0.heap.size≤b
 jlt:∀b,J b→b<w.heap.size
 ilt:∀b,c.I b→b<c.w0.heap.size
 pin:∀j,j<st.m→∃p,c.pin j=some p∧ρ j=some p
 kept:abJ c w
 hid:Hid c J st.ob ρ w
 laid:Laid J w
theorem Sim.nl{c:Ctx} {ρ:Rho} {D J:Nat→Prop} {st:St} {a:Act} {w:World}(hs:Sim c ρ D J st a w){id:Nat} {H:iU} {j:Nat}(h:st.ob id=some (.tr H j)):∃s r,ρ id=some (H.l,s)∧w.heap[H.l]? =some (.loop r)∧¬J H.l∧(c.I H.l∨c.w0.heap.size≤H.l):=by
 obtain⟨b,s,h1,⟨rfl,r,h2⟩,h3,h4⟩:=hs.obj _ _ h
 exact⟨s,r,h1,h2,h4,h3⟩
theorem Sim.hid_of{c:Ctx} {ρ ρ':Rho} {D J J':Nat→Prop} {st st':St} {a:Act} {w:World}(hs:Sim c ρ D J st a w)(τ:Nat→Nat)(sub:∀id o,st'.ob id=some o→∃o0,st.ob (τ id)=some o0∧(∀H j,o= .tr H j→o0= .tr H j)∧ρ' id=ρ (τ id))
 (inj:∀id id' H H' j j',st'.ob id=some (.tr H j)→st'.ob id'=some (.tr H' j')→τ id=τ id'→id=id') (hJ:∀b,J' b→J b∨∃id o s,st.ob id=some o∧ρ id=some (b,s)):Hid c J' st'.ob ρ' w:=by
 refine hs.hid.step τ (fun id H j h=>?_) inj (Nat.le_refl _) rfl rfl rfl (fun _ _=>rfl) (fun _ _ _=>rfl) (fun _ _ _ _=>rfl) (fun b hb=>⟨hb.1,hb.2.1,fun hj=>?_,fun id o s h1 h2=>?_⟩) (fun id H j h hx=>?_)
 ·obtain⟨o0,h1,h2,_⟩:=sub _ _ h
  rw[h1,h2 H j rfl]
 ·rcases hJ b hj with h|⟨id,o,s,h1,h2⟩
  ·exact hb.2.2.1 h
  ·exact hb.2.2.2 id o s h1 h2
 ·obtain⟨o0,k1,_,k2⟩:=sub _ _ h1
  exact hb.2.2.2 _ _ _ k1 (k2▸h2)
 ·obtain⟨o0,k1,k3,k2⟩:=sub _ _ h
  have:=k3 H j rfl;subst this
  obtain⟨s,r,g1,_⟩:=hs.nl k1
  exact hx.2.2.2 _ _ _ h (k2.trans g1)
def tu(upd:List (Nat×Option aC)):Prop:=∃p∈upd,∃H j,p.2=some (.tr H j)
theorem kC:¬tu []:=fun⟨_,h,_⟩=>by cases h
theorem oz{i:Nat} {o:aC} {l:List (Nat×Option aC)}(ho:o.isTr=false)(h:¬tu l):¬tu ((i,some o)::l):=by
 rintro⟨p,hp,H,j,e⟩
 rcases List.mem_cons.1 hp with rfl|hp
 ·simp only[Option.some.injEq] at e;subst e;cases ho
 ·exact h ⟨p,hp,H,j,e⟩
theorem kD{i:Nat} {l:List (Nat×Option aC)}(h:¬tu l):¬tu ((i,none)::l):=by
 rintro⟨p,hp,H,j,e⟩
 rcases List.mem_cons.1 hp with rfl|hp
 ·cases e
 ·exact h ⟨p,hp,H,j,e⟩
def Fr(c:Ctx)(J:Nat→Prop)(st:St)(ρ:Rho)(w:World)(e:Eff)(b:Nat):Prop:=w.heap.size≤b∨(tu e.upd∧Xm c J st.ob ρ w b)
structure LG(c:Ctx)(nid k:Nat)(st:St)(e:Eff)(ρ ρ':Rho)(J J':Nat→Prop)(w w':World)(v:Value):Prop where
 size:w.heap.size≤w'.heap.size
 os:w'.os=w.os
 tape:w'.tape=w.tape
 output:w'.output=w.output
 same:∀b,b<w.heap.size→(∀id o s,id∈e.keys→st.ob id=some o→ρ id≠some (b,s))→(tu e.upd→¬Xm c J st.ob ρ w b)→w'.heap[b]? =w.heap[b]?
 ρmono:∀id p,ρ id=some p→ρ' id=some p
 ρnew:∀id p,ρ' id=some p→ρ id=some p∨(nid≤id∧id<nid+k)
 Jmono:∀b,J b→J' b
 Jnew:∀b,J' b→J b∨(Fr c J st ρ w e b∧b<w'.heap.size)∨∃id o s,id∈e.keys∧st.ob id=some o∧ρ id=some (b,s)
 val:Rep w' J' ρ' v e.v
 obj:∀id o,aS e.upd id=some (some o)→∃b s,ρ' id=some (b,s)∧ObjRep w' J' ρ' b s o∧¬J' b∧
  (Fr c J st ρ w e b∨∃id0 o0 s0,id0∈e.keys∧st.ob id0=some o0∧ρ id0=some (b,s0))
 inj:∀id id' o o' b s s',aS e.upd id=some (some o)→aS e.upd id'=some (some o')→ρ' id=some (b,s)→ρ' id'=some (b,s')→id=id'
 hid:tu e.upd→Hid c J' (st.app none e).ob ρ' w'
def OpT(P:Program)(o:Oper)(nid k:Nat)(st:St)(e:Eff):Prop:=
 ∀(c:Ctx) (ρ:Rho) (D J:Nat→Prop) (a:Act) (w:World),Sim c ρ D J st a w→(∀i,nid≤i→i<nid+k→¬D i)→
  ∀(r:Option Nat) (K:Act→World→Prop) (Q:Exit→Act→World→Prop),(∀v w' ρ' J',LG c nid k st e ρ ρ' J J' w w' v→K (a.put o.dst v) w')→o.wpIn (fen r) 0 P a w K Q
theorem qM{P:Program} {o:Oper} {a:Act} {w w':World} {y:Next}(h:(execOp a.eval o).run P w= .ok y w')(hy:∀d,y≠ .defer d):∀cl,o.op≠ .defer cl:=by
 intro cl ho
 unfold execOp at h
 rw[ho] at h
 simp only[Sem.run_bind] at h
 cases hx:(resolve a.eval cl o.type).run P w with
 |ok d w1=>
  rw[hx] at h
  simp only[Result.andThen,Sem.run_pure,Result.ok.injEq] at h
  exact hy d h.1.symm
 |halt u w1=>rw[hx] at h;simp[Result.andThen] at h
theorem kE{P:Program} {o:Oper} {a:Act} {w w':World} {v:Value} {r:Option Nat} {n:Nat} {K:Act→World→Prop} {Q:Exit→Act→World→Prop}(h:(execOp a.eval o).run P w= .ok (.value v) w')(hK:K (a.put o.dst v) w'):o.wpIn (fen r) n P a w K Q:=by
 refine⟨fun _ _=>trivial,?_⟩
 rw[Oper.semAt_eq _ _ _ (qM h (fun d=>by simp)),h]
 exact hK
theorem zU{P:Program} {o:Oper} {a:Act} {w w':World} {r:Option Nat} {n:Nat} {K:Act→World→Prop} {Q:Exit→Act→World→Prop}(h:(execOp a.eval o).run P w= .ok .skip w')(hK:K (a.put o.dst undef) w'):o.wpIn (fen r) n P a w K Q:=by
 refine⟨fun _ _=>trivial,?_⟩
 rw[Oper.semAt_eq _ _ _ (qM h (fun d=>by simp)),h]
 exact hK
theorem nI{r:Option Nat} {n:Nat} {P:Program} {f:FuncId} {args:Array Value} {w:World} {R:Ending→World→Prop}:CallsIn (fen r) n P f args w R↔Calls P f args w R:=
 ⟨fun h=>callsIn_wide.1 h,fun h=>callsIn_wide.2 h⟩
theorem Et{P:Program} {o:Oper} {a:Act} {w w':World} {f:FuncId} {vs:Array Value} {r:Option Nat} {n:Nat} {K:Act→World→Prop} {Q:Exit→Act→World→Prop}(h:(execOp a.eval o).run P w= .ok (.enter f vs) w')
 (hK:Calls P f vs w' fun e w''=>∃v,e= .returned v∧K (a.put o.dst v) w''):o.wpIn (fen r) n P a w K Q:=by
 refine⟨fun _ _=>trivial,?_⟩
 rw[Oper.semAt_eq _ _ _ (qM h (fun d=>by simp)),h]
 refine⟨fun e=>by simp[fen,Fence.wide] at e,nI.2 (hK.mono ?_)⟩
 rintro e w'' ⟨v,rfl,hv⟩
 exact hv
theorem Eu{P:Program} {o:Oper} {a:Act} {w w':World} {l:Nat} {f:FuncId} {tmps:Array Value} {as body:Code} {r:Option Nat} {n:Nat} {K:Act→World→Prop} {Q:Exit→Act→World→Prop}(h:(execOp a.eval o).run P w= .ok (.round l f tmps as body) w')
 (hK:RoundIn (fen r) (n-1) P l f tmps as body w' fun e w''=>∃v,e= .returned v∧K (a.put o.dst v) w''):o.wpIn (fen r) n P a w K Q:=by
 refine⟨fun _ _=>trivial,?_⟩
 rw[Oper.semAt_eq _ _ _ (qM h (fun d=>by simp)),h]
 refine⟨fun e=>by simp[fen,Fence.wide] at e,hK.mono ?_⟩
 rintro e w'' ⟨v,rfl,hv⟩
 exact hv
theorem Sim.old_ne{c:Ctx} {ρ:Rho} {D J:Nat→Prop} {st:St} {a:Act} {w:World}(h:Sim c ρ D J st a w){b:Nat}(hb:J b):
 ∀id o s,st.ob id=some o→ρ id≠some (b,s):=by
 intro id o s ho hr
 obtain⟨b',s',hr',_,_,hn⟩:=h.obj id o ho
 rw[hr] at hr';cases hr';exact hn hb
theorem Sim.app{c:Ctx} {ρ ρ':Rho} {D J J':Nat→Prop} {st:St} {a:Act} {w w':World} {v:Value} {nid k:Nat} {e:Eff} {dst:Option Nat} {D':Nat→Prop}
 (h:Sim c ρ D J st a w) (p:LG c nid k st e ρ ρ' J J' w w' v) (hd:∀d,dst=some d→d<st.n) (hD:∀i,D i∨(nid≤i∧i<nid+k)→D' i):
 Sim c ρ' D' J' (st.app dst e) (a.put dst v) w':=by
 have hJ:∀b,J b→b<w.heap.size→J' b∧w'.heap[b]? =w.heap[b]? :=fun b hb hlt=>⟨p.Jmono b hb,p.same b hlt (fun id o s _ ho=>h.old_ne hb id o s ho) (fun _ hx=>hx.2.2.1 hb)⟩
 have hmono:∀{v x},Rep w J ρ v x→Rep w' J' ρ' v x:=fun hr=>hr.mono hJ p.size p.ρmono
 have hn:(st.app dst e).n=st.n:=by unfold St.app St.put;split<;>rfl
 -- the block of an object that is not touched
 have hun:∀{id o b s},st.ob id=some o→ρ id=some (b,s)→id ∉ e.keys→b<w.heap.size→w'.heap[b]? =w.heap[b]? :=fun{id o b s} ho h1 hk hlt=>
  p.same b hlt (fun id' o' s' hk' ho' hr'=>hk (by rw[h.inj id id' o o' b s s' ho ho' h1 hr'];exact hk')) (fun _ hx=>hx.2.2.2 _ _ _ ho h1)
 have hkept:∀b,b<c.w0.heap.size→¬c.I b→w'.heap[b]? =w.heap[b]? :=fun b hb hI=>p.same b (Nat.lt_of_lt_of_le hb h.kept.size) (fun id o s _ ho hr=>by
  obtain⟨b',s',hr',_,hor,_⟩:=h.obj id o ho
  rw[hr] at hr';cases hr'
  rcases hor with hor|hor
  ·exact hI hor
  ·omega) (fun _ hx=>by
  rcases hx.2.1 with h|h
  ·exact hI h
  ·omega)
 have key:∀{id:Nat} {o:aC},id∈e.keys→(aS e.upd id).join=some o→aS e.upd id=some (some o):=by
  intro id o _ h;cases hl:aS e.upd id with|none=>simp[hl] at h|some x=>rw[hl] at h;simpa using h
 refine⟨?_,?_,?_,?_,?_,?_,?_,?_,?_,?_,?_,?_,h.laid.mono hJ p.size⟩
 ·have hds:(a.put dst v).defers=a.defers:=by unfold Act.put;split<;>rfl
  rw[hds]
  exact h.defers.same fun D k1 k2=>⟨(hJ D k1 k2).2,(hJ D k1 k2).1⟩
 ·rw[hn];unfold Act.put;split
  ·simpa using h.tmps
  ·exact h.tmps
 ·intro t
  cases dst with
  |none=>exact hmono (h.env t)
  |some d=>
   have hdn:=hd d rfl
   rw[←h.tmps] at hdn
   simp only[Act.put,St.app,St.put,St.ev,aS]
   by_cases ht:t=d
   ·subst ht
    rw[if_pos rfl]
    have:(a.tmps.setIfInBounds t v).getD t undef=v:=by simp[Array.getD,hdn]
    rw[this];exact p.val
   ·rw[if_neg ht]
    have:(a.tmps.setIfInBounds d v).getD t undef=a.tmps.getD t undef:=by
     simp[Array.getD_eq_getD_getElem?,Array.getElem?_setIfInBounds,Ne.symm ht]
    rw[this];exact hmono (h.env t)
 ·intro id o ho
  rw[St.ob_app] at ho
  split at ho
  ·rename_i hk
   obtain⟨b,s,h1,h2,h3,h4⟩:=p.obj id o (key hk ho)
   refine⟨b,s,h1,h2,?_,h3⟩
   rcases h4 with(h4|⟨_,h4⟩)|⟨id0,o0,s0,_,h5,h6⟩
   ·exact .inr (by have:=h.kept.size;omega)
   ·exact h4.2.1
   ·obtain⟨b',s',h7,_,h8,_⟩:=h.obj id0 o0 h5
    rw[h6] at h7;cases h7;exact h8
  ·rename_i hk
   obtain⟨b,s,h1,h2,h3,h4⟩:=h.obj id o ho
   refine⟨b,s,p.ρmono _ _ h1,h2.mono hJ p.size p.ρmono (hun ho h1 hk h2.lt),h3,fun hj=>?_⟩
   rcases p.Jnew b hj with hj|⟨hj|⟨_,hj⟩,_⟩|⟨id0,o0,s0,g1,g2,g3⟩
   ·exact h4 hj
   ·have:=h2.lt;omega
   ·exact hj.2.2.2 _ _ _ ho h1
   ·exact hk (by rw[h.inj id id0 o o0 b s s0 ho g2 h1 g3];exact g1)
 ·intro id id' o o' b s s' ho ho' hr hr'
  rw[St.ob_app] at ho ho'
  -- a new one and an old one never share a block
  have mix:∀{id id':Nat} {o o':aC} {b s s':Nat},id∈e.keys→aS e.upd id=some (some o)→¬id'∈e.keys→st.ob id'=some o'→ρ' id=some (b,s)→ρ' id'=some (b,s')→False:=by
   intro id id' o o' b s s' hk hl hk' ho' hr hr'
   obtain⟨b1,s1,h1,_,_,h4⟩:=p.obj id o hl
   rw[hr] at h1;cases h1
   obtain⟨b2,s2,h5,h6,_,_⟩:=h.obj id' o' ho'
   have:=p.ρmono _ _ h5
   rw[hr'] at this;cases this
   rcases h4 with(h4|⟨_,h4⟩)|⟨id0,o0,s0,hk0,h7,h8⟩
   ·have:=h6.lt;omega
   ·exact h4.2.2.2 _ _ _ ho' h5
   ·exact hk' (by rw[h.inj id' id0 o' o0 b _ s0 ho' h7 h5 h8];exact hk0)
  split at ho<;>split at ho'
  ·rename_i k1 k2;exact p.inj id id' o o' b s s' (key k1 ho) (key k2 ho') hr hr'
  ·rename_i k1 k2;exact(mix k1 (key k1 ho) k2 ho' hr hr').elim
  ·rename_i k1 k2;exact(mix k2 (key k2 ho') k1 ho hr' hr).elim
  ·obtain⟨b1,s1,h1,_⟩:=h.obj id o ho
   obtain⟨b2,s2,h2,_⟩:=h.obj id' o' ho'
   have e1:=p.ρmono _ _ h1;rw[hr] at e1;cases e1
   have e2:=p.ρmono _ _ h2;rw[hr'] at e2;cases e2
   exact h.inj id id' o o' b _ _ ho ho' h1 h2
 ·intro id q hq
  rcases p.ρnew id q hq with hq|hq
  ·exact hD id (.inl (h.dom id q hq))
  ·exact hD id (.inr hq)
 ·intro b hb
  rcases p.Jnew b hb with hb'|⟨hb'|⟨_,hb'⟩,_⟩|⟨id0,o0,s0,g1,g2,g3⟩
  ·exact h.jok b hb'
  ·have hk:=h.kept.size
   exact .inr (.inr (by omega))
  ·exact .inr hb'.2.1
  ·obtain⟨b1,s1,k1,_,k3,_⟩:=h.obj id0 o0 g2
   rw[g3] at k1;cases k1;exact .inr k3
 ·intro b hb
  rcases p.Jnew b hb with hb'|hb'|⟨id0,o0,s0,g1,g2,g3⟩
  ·have:=h.jlt b hb';have:=p.size;omega
  ·exact hb'.2
  ·obtain⟨b1,s1,k1,k2,_⟩:=h.obj id0 o0 g2
   rw[g3] at k1;cases k1;have:=k2.lt;have:=p.size;omega
 ·exact h.ilt
 ·intro j hj
  have em:(st.app dst e).m=st.m:=by unfold St.app St.put;split<;>rfl
  rw[em] at hj
  obtain⟨q,h1,h2⟩:=h.pin j hj
  exact⟨q,h1,p.ρmono _ _ h2⟩
 ·have hk:=h.kept
  exact⟨Nat.le_trans hk.size p.size,p.os.trans hk.os,p.tape.trans hk.tape,p.output.trans hk.output,fun b hb hI=>(hkept b hb hI).trans (hk.block b hb hI)⟩
 ·refine Classical.byCases (fun ht:tu e.upd=>p.hid ht) fun ht=>?_
  have hold:∀{id H j},(st.app dst e).ob id=some (.tr H j)→id ∉ e.keys∧st.ob id=some (.tr H j):=fun{id H j} ho=>by
   rw[St.ob_app] at ho
   split at ho
   ·rename_i hk;exact absurd ⟨_,adC (key hk ho),H,j,rfl⟩ ht
   ·rename_i hk;exact⟨hk,ho⟩
  refine h.hid.step id (fun id H j ho=>(hold ho).2) (fun _ _ _ _ _ _ _ _ e=>e) p.size p.os p.tape p.output (fun b hb=>p.same b hb.1 (fun id o s _ ho=>hb.2.2.2 id o s ho) (fun h=>absurd h ht)) hkept
   (fun id H j ho=>?_) (fun b hb=>⟨Nat.lt_of_lt_of_le hb.1 p.size,hb.2.1,fun hj=>?_,fun id o s ho hr=>?_⟩) (fun id H j ho hx=>?_)
  ·obtain⟨h1,h2⟩:=hold ho
   obtain⟨s,r,h3,h4,_⟩:=h.nl h2
   exact hun h2 h3 h1 (Array.getElem?_eq_some_iff.1 h4).1
  ·rcases p.Jnew b hj with hj|⟨hj|⟨hj,_⟩,_⟩|⟨id0,o0,s0,g1,g2,g3⟩
   ·exact hb.2.2.1 hj
   ·have:=hb.1;omega
   ·exact ht hj
   ·exact hb.2.2.2 _ _ _ g2 g3
  ·rw[St.ob_app] at ho
   split at ho
   ·rename_i hk
    obtain⟨b1,s1,h1,_,_,h4⟩:=p.obj id o (key hk ho)
    rw[hr] at h1;cases h1
    rcases h4 with(h4|⟨h4,_⟩)|⟨id0,o0,s0,_,h5,h6⟩
    ·have:=hb.1;omega
    ·exact ht h4
    ·exact hb.2.2.2 _ _ _ h5 h6
   ·obtain⟨b1,s1,h1,_⟩:=h.obj id o ho
    have e1:=p.ρmono _ _ h1;rw[hr] at e1;cases e1
    exact hb.2.2.2 _ _ _ ho h1
  ·obtain⟨h1,h2⟩:=hold ho
   obtain⟨s,r,h3,_⟩:=h.nl h2
   exact hx.2.2.2 _ _ _ ho (p.ρmono _ _ h3)
end
section
def siz(P:Program)(t:TypeId):Option Nat:=(P.info? t).map (·.size)
def byt(P:Program)(t:TypeId):Option Nat:=(P.info? t).map (·.bytes)
def iX(P:Program)(t:TypeId):Option Bool:=(P.underlying t).map fun| .struct _| .array _ _=>true|_=>false
def oC(P:Program)(t i:Nat):Option (Nat×TypeId):=match P.underlying t with
 |some (.struct fs)=>(fs[i]?).map fun f=>(f.offset,f.type)
 |_=>none
def iL(P:Program)(t:TypeId):Option TypeId:=match P.underlying t with|some (.slice e)=>some e|_=>none
def wV(P:Program)(t:TypeId):Option (Nat×TypeId):=match P.underlying t with|some (.array n e)=>some (n,e)|_=>none
def lT(P:Program)(t:TypeId):Option IntKind:=match P.underlying t with|some (.int k)=>some k|_=>none
def oD(P:Program)(t:TypeId):Bool:=match P.underlying t with|some .bool=>true|_=>false
def tF(P:Program)(t:TypeId):Bool:=match P.underlying t with|some (.pointer _)=>true|_=>false
def qo(P:Program)(t:TypeId):Bool:=match P.underlying t with|some .string=>true|_=>false
section
variable {P:Program} {w:World} {t:TypeId}
theorem cK{n:Nat}(h:siz P t=some n):(sizeOf t).run P w= .ok n w:=by
 unfold siz at h
 cases hi:P.info? t with
 |none=>simp[hi] at h
 |some i=>simp[hi] at h;simp[sizeOf,typeInfo,hi,h]
theorem d9{b:Bool}(h:iX P t=some b):(isAgg t).run P w= .ok b w:=by
 unfold iX at h
 cases hi:P.underlying t with
 |none=>simp[hi] at h
 |some d=>
  simp[hi] at h
  unfold isAgg
  rw[Sem.run_bind,run_underlying hi]
  cases d<;>simp_all
theorem uK{i off:Nat} {ft:TypeId}(h:oC P t i=some (off,ft)):∃fs f,P.underlying t=some (.struct fs)∧fs[i]? =some f∧f.offset=off∧f.type=ft:=by
 unfold oC at h
 split at h
 ·rename_i fs hu
  cases hf:fs[i]? with
  |none=>simp[hf] at h
  |some f=>simp[hf] at h;exact⟨fs,f,hu,hf,h.1,h.2⟩
 ·cases h
theorem aV{e:TypeId}(h:iL P t=some e):P.underlying t=some (.slice e):=by
 unfold iL at h;split at h
 ·rename_i u hu;cases h;exact hu
 ·cases h
theorem kw{n:Nat} {e:TypeId}(h:wV P t=some (n,e)):P.underlying t=some (.array n e):=by
 unfold wV at h;split at h
 ·rename_i u hu;cases h;assumption
 ·cases h
theorem fq{k:IntKind}(h:lT P t=some k):P.underlying t=some (.int k):=by
 unfold lT at h;split at h
 ·rename_i u hu;cases h;assumption
 ·cases h
theorem BV(h:oD P t=true):P.underlying t=some .bool:=by
 unfold oD at h;split at h
 ·assumption
 ·cases h
theorem qp(h:tF P t=true):∃e,P.underlying t=some (.pointer e):=by
 unfold tF at h;split at h
 ·exact⟨_,by assumption⟩
 ·cases h
theorem gZ(h:qo P t=true):P.underlying t=some .string:=by
 unfold qo at h;split at h
 ·assumption
 ·cases h
end
theorem Sim.op{c:Ctx} {ρ:Rho} {D J:Nat→Prop} {st:St} {a:Act} {w:World}(h:Sim c ρ D J st a w)(x:Operand):Rep w J ρ (a.eval x) (st.op x):=by
 cases x with
 |tmp t=>exact h.env t
 |const v=>exact mq v
 |global g=>exact h.laid.rep g
 |func f=>exact .fn f #[] [] rfl (fun j hj=>by simp at hj)
theorem OpT.pure{P:Program} {o:Oper} {nid:Nat} {st:St} {x:AV}
 (h:∀(c:Ctx) (ρ:Rho) (D J:Nat→Prop) (a:Act) (w:World),Sim c ρ D J st a w→∃v,(execOp a.eval o).run P w= .ok (.value v) w∧Rep w J ρ v x):OpT P o nid 0 st ⟨x,[]⟩:=by
 intro c ρ D J a w hs _ _ K Q hK
 obtain⟨v,hr,hv⟩:=h c ρ D J a w hs
 refine kE hr ?_
 exact hK v w ρ J ⟨Nat.le_refl _,rfl,rfl,rfl,fun _ _ _ _=>rfl,fun _ _ h=>h,fun _ _ h=> .inl h,fun _ h=>h,fun _ h=> .inl h,hv,fun id o h=>by simp[aS] at h,fun id id' o o' b s s' h=>by simp[aS] at h,fun h=>absurd h kC⟩
theorem aG{w:World} {J:Nat→Prop} {ρ:Rho} {v u:Value}(h:Rep w J ρ v (.val u)):v=u:=by cases h;rfl
def jd(P:Program)(op:BinOp)(t:TypeId)(x y:Value):Option Value:=
 match op,x,y with
 | .shl,.int k a,.int _ b=>if b<0 then none else some (.int k (k.wrap (a*2^(min b.toNat k.bits))))
 | .shr,.int k a,.int _ b=>if b<0 then none else some (.int k (a.fdiv (2^(min b.toNat k.bits))))
 | .add,.int k a,.int k' b=>if k=k' then some (.int k (k.wrap (a+b))) else none
 | .sub,.int k a,.int k' b=>if k=k' then some (.int k (k.wrap (a-b))) else none
 | .mul,.int k a,.int k' b=>if k=k' then some (.int k (k.wrap (a*b))) else none
 | .quo,.int k a,.int k' b=>if k=k'∧b≠0 then some (.int k (k.wrap (a.tdiv b))) else none
 | .rem,.int k a,.int k' b=>if k=k'∧b≠0 then some (.int k (a.tmod b)) else none
 | .and,.int k a,.int k' b=>if k=k' then some (.int k (k.wrap (BitVec.ofInt k.bits a&&&BitVec.ofInt k.bits b).toNat)) else none
 | .or,.int k a,.int k' b=>if k=k' then some (.int k (k.wrap (BitVec.ofInt k.bits a|||BitVec.ofInt k.bits b).toNat)) else none
 | .xor,.int k a,.int k' b=>if k=k' then some (.int k (k.wrap (BitVec.ofInt k.bits a ^^^ BitVec.ofInt k.bits b).toNat)) else none
 | .andNot,.int k a,.int k' b=>if k=k' then some (.int k (k.wrap (BitVec.ofInt k.bits a&&& ~~~ BitVec.ofInt k.bits b).toNat)) else none
 | .eql,.int k a,.int k' b=>if k=k' then some (.bool (decide (a=b))) else none
 | .neq,.int k a,.int k' b=>if k=k' then some (.bool (decide (a≠b))) else none
 | .lss,.int k a,.int k' b=>if k=k' then some (.bool (decide (a<b))) else none
 | .leq,.int k a,.int k' b=>if k=k' then some (.bool (decide (a≤b))) else none
 | .gtr,.int k a,.int k' b=>if k=k' then some (.bool (decide (b<a))) else none
 | .geq,.int k a,.int k' b=>if k=k' then some (.bool (decide (b≤a))) else none
 | .eql,.bool a,.bool b=>if oD P t then some (.bool (a==b)) else none
 | .neq,.bool a,.bool b=>if oD P t then some (.bool (a !=b)) else none
 | .eql,.string a,.string b=>some (.bool (decide (a=b)))
 | .neq,.string a,.string b=>some (.bool (decide (a≠b)))
 | .add,.string a,.string b=>if((a.size+b.size:Nat):Int)≤9223372036854775807 then some (.string (a++b)) else none
 | .eql,.pointer none,.pointer b=>if tF P t then some (.bool b.isNone) else none
 | .neq,.pointer none,.pointer b=>if tF P t then some (.bool !b.isNone) else none
 |_,_,_=>none
theorem Ew(a b:ByteArray):(a.toList==b.toList)=decide (a=b):=by
 have h:a.toList=b.toList↔a=b:=by
  constructor
  ·intro h
   have h1:=congrArg List.toArray h
   have e:∀x:ByteArray,x.toList.toArray=x.data:=fun x=>by rw[ByteArray.toList_eq]
   rw[e,e] at h1
   cases a;cases b;simp at h1;simp[h1]
  ·intro h;rw[h]
 rw[Bool.eq_iff_iff]
 simp[h]
theorem Ey{P:Program} {t:TypeId}(h:oD P t=true)(a b:Bool)(w:World):(Op.equal t (.bool a) (.bool b)).run P w= .ok (a==b) w:=by
 have hu:=BV h
 show(Op.equalIn (9999+1) t _ _).run P w=_
 rw[Op.equalIn]
 simp[run_underlying hu]
theorem zV{P:Program} {t:TypeId}(h:tF P t=true)(b:Option Addr)(w:World):(Op.equal t (.pointer none) (.pointer b)).run P w= .ok b.isNone w:=by
 obtain⟨e,hu⟩:=qp h
 show(Op.equalIn (9999+1) t _ _).run P w=_
 rw[Op.equalIn]
 simp[run_underlying hu]
theorem LK{P:Program} {op:BinOp} {t:TypeId} {x y v:Value}(h:jd P op t x y=some v)(w:World):(binOp op t x y).run P w= .ok v w:=by
 unfold jd at h
 split at h<;>(try(split at h))<;>first
  |(cases h;done)
  |(cases h
    simp only[binOp]
    first
     |(simp_all[Op.shift,Op.intArith,Op.intDiv,Op.intBits,Op.intCmp,Op.stringOp,Ew,bne];done)
     |(rename_i hb;simp[Ey hb,bne];done)
     |(rename_i hb;simp[zV hb];done)
     |(rename_i hb;simp only[Op.shift,if_neg hb];rfl)
     |(rename_i hk;subst hk;simp only[Op.intCmp,ne_eq,not_true,if_false,Sem.run_pure];congr 2;try(rw[Bool.eq_iff_iff];simp)))
end
section
def pK(P:Program)(t:TypeId)(x y:AV):Option Bool:=
 match P.underlying t,x,y with
 |some (.slice _),.isl z _ _,.isl true [] 0=>some z
 |some (.slice _),.sl ..,.isl true [] 0=>some false
 |some (.pointer _),.pt ..,.val (.pointer none)=>some false
 |some (.pointer _),.ipt ..,.val (.pointer none)=>some false
 |_,_,_=>none
theorem BX{P:Program} {t:TypeId} {x y:AV} {b:Bool}(h:pK P t x y=some b){w:World} {J:Nat→Prop} {ρ:Rho} {u v:Value}
 (hu:Rep w J ρ u x) (hv:Rep w J ρ v y):(Op.equal t u v).run P w= .ok b w∧(∃a n c,u= .slice a n c)∨(Op.equal t u v).run P w= .ok b w∧∃a,u= .pointer a:=by
 show(Op.equalIn (9999+1) t _ _).run P w=_∧_∨(Op.equalIn (9999+1) t _ _).run P w=_∧_
 unfold pK at h
 split at h
 ·rename_i hty
  refine .inl ?_
  cases hv;cases h
  rw[Op.equalIn]
  cases hu<;>simp[run_underlying hty]
 ·rename_i hty
  refine .inl ?_
  cases hv;cases h
  rw[Op.equalIn]
  cases hu;simp[run_underlying hty]
 ·rename_i hty
  refine .inr ?_
  cases hv;cases h
  rw[Op.equalIn]
  cases hu;simp[run_underlying hty]
 ·rename_i hty
  refine .inr ?_
  cases hv;cases h
  rw[Op.equalIn]
  cases hu;simp[run_underlying hty]
 ·cases h
def je(t:Bool):AV→AV→AV
 | .val (.bool u),.val (.bool v)=> .val (.bool (if t then u else v))
 |x,y=>if t then x else y
theorem LM{w:World} {J:Nat→Prop} {ρ:Rho} {t:Bool} {x y:AV} {u v:Value}(hx:Rep w J ρ u x)(hy:Rep w J ρ v y):Rep w J ρ (if t then u else v) (je t x y):=by
 cases t
 ·have:je false x y=y:=by unfold je;split<;>simp
  rw[this];exact hy
 ·have:je true x y=x:=by unfold je;split<;>simp
  rw[this];exact hx
section
variable {P:Program} {dst:Option Nat} {ty:TypeId} {pos:String} {af:Array Edge} {g:Option (Nat×Bool)} {nid:Nat} {st:St}
theorem LP(x:Operand):OpT P ⟨dst,.move x,ty,pos,af,g⟩ nid 0 st ⟨st.op x,[]⟩:= .pure fun c ρ D J a w h=>⟨_,rfl,h.op x⟩
theorem Ez(x:Operand):OpT P ⟨dst,.assign x,ty,pos,af,g⟩ nid 0 st ⟨st.op x,[]⟩:= .pure fun c ρ D J a w h=>⟨_,rfl,h.op x⟩
theorem LQ(x y z:Operand)(b:Bool)(hx:st.op x= .val (.bool b)):OpT P ⟨dst,.pick x y z,ty,pos,af,g⟩ nid 0 st ⟨je b (st.op y) (st.op z),[]⟩:= .pure fun c ρ D J a w h=>by
 have h1:=h.op x
 rw[hx] at h1
 have e:=aG h1
 exact⟨if b then a.eval y else a.eval z,by simp[execOp,e,asBool],LM (h.op y) (h.op z)⟩
theorem JB(op:BinOp)(t:TypeId)(x y:Operand)(t':TypeId)(u v r:Value)(hx:st.op x= .val u)(hy:st.op y= .val v)(hr:jd P op t u v=some r)
 (hg:∀w:World,(eqGuard op t x y u v).run P w= .ok () w):
 OpT P ⟨dst,.binOp op t x y t',ty,pos,af,g⟩ nid 0 st ⟨ofV r,[]⟩:= .pure fun c ρ D J a w h=>by
 have h1:=h.op x;have h2:=h.op y
 rw[hx] at h1;rw[hy] at h2
 have e1:=aG h1;have e2:=aG h2
 exact⟨r,by simp[execOp,e1,e2,hg w,LK hr w],mq r⟩
theorem JC(t:TypeId)(x y:Operand)(t':TypeId)(b:Bool)(h:pK P t (st.op x) (st.op y)=some b):OpT P ⟨dst,.binOp .eql t x y t',ty,pos,af,g⟩ nid 0 st ⟨.val (.bool b),[]⟩:= .pure fun c ρ D J a w hs=>by
 refine⟨.bool b,?_,.val _⟩
 rcases BX h (hs.op x) (hs.op y) with⟨hr,a1,n1,c1,e1⟩|⟨hr,a1,e1⟩
 ·rw[e1] at hr;simp[execOp,e1,eqGuard,binOp,hr]
 ·rw[e1] at hr;simp[execOp,e1,eqGuard,binOp,hr]
theorem EA(t:TypeId)(x y:Operand)(t':TypeId)(b:Bool)(h:pK P t (st.op x) (st.op y)=some b):OpT P ⟨dst,.binOp .neq t x y t',ty,pos,af,g⟩ nid 0 st ⟨.val (.bool !b),[]⟩:= .pure fun c ρ D J a w hs=>by
 refine⟨.bool !b,?_,.val _⟩
 rcases BX h (hs.op x) (hs.op y) with⟨hr,a1,n1,c1,e1⟩|⟨hr,a1,e1⟩
 ·rw[e1] at hr;simp[execOp,e1,eqGuard,binOp,hr]
 ·rw[e1] at hr;simp[execOp,e1,eqGuard,binOp,hr]
theorem zW(t:TypeId)(x:Operand)(b:Bool)(hx:st.op x= .val (.bool b)):OpT P ⟨dst,.unOp .not t x,ty,pos,af,g⟩ nid 0 st ⟨.val (.bool !b),[]⟩:= .pure fun c ρ D J a w h=>by
 have h1:=h.op x
 rw[hx] at h1
 have e:=aG h1
 exact⟨.bool !b,by simp[execOp,e,Op.unary],.val _⟩
theorem zX(t:TypeId)(x:Operand)(k:IntKind)(n:Int)(hx:st.op x= .val (.int k n)):OpT P ⟨dst,.unOp .neg t x,ty,pos,af,g⟩ nid 0 st ⟨.val (.int k (k.wrap (0-n))),[]⟩:= .pure fun c ρ D J a w h=>by
 have h1:=h.op x
 rw[hx] at h1
 have e:=aG h1
 exact⟨_,by simp[execOp,e,Op.unary,Op.intArith];rfl,by first|exact .val _|(simp;exact .val _)⟩
theorem vS(s t:TypeId)(x:Operand)(k k':IntKind)(n:Int)(ks:IntKind)(hs:lT P s=some ks)(hk:lT P t=some k)(hx:st.op x= .val (.int k' n)):
 OpT P ⟨dst,.convert s t x,ty,pos,af,g⟩ nid 0 st ⟨.val (.int k (k.wrap n)),[]⟩:= .pure fun c ρ D J a w h=>by
 have h1:=h.op x
 rw[hx] at h1
 have e:=aG h1
 exact⟨.int k (k.wrap n),by simp[execOp,e,convert,run_underlying (fq hk),run_underlying (fq hs),Conv.intToInt],.val _⟩
def AV.notNil:AV→Bool
 | .pt .. | .ipt .. | .fn .. | .mp _=>true
 |_=>false
theorem zY(x:Operand)(hx:(st.op x).notNil=true):OpT P ⟨dst,.nilCheck x,ty,pos,af,g⟩ nid 0 st ⟨st.op x,[]⟩:= .pure fun c ρ D J a w h=>by
 have h1:=h.op x
 refine⟨a.eval x,?_,h1⟩
 generalize st.op x=y at h1 hx
 generalize hv:a.eval x=v at h1
 cases h1<;>simp_all[execOp,AV.notNil]
theorem tH(s:TypeId)(x:Operand)(f:Nat)(id off fo n:Nat)(ft:TypeId)(hx:st.op x= .pt id off)(hf:oC P s f=some (fo,ft))(hz:siz P ft=some (n+1)):
 OpT P ⟨dst,.fieldAddr s x f,ty,pos,af,g⟩ nid 0 st ⟨.pt id (off+fo),[]⟩:= .pure fun c ρ D J a w h=>by
 have h1:=h.op x
 rw[hx] at h1
 obtain⟨fs,fd,hu,hfs,rfl,rfl⟩:=uK hf
 generalize hv:a.eval x=v at h1
 cases h1 with
 |pt b s' _ _ hr=>exact⟨.pointer (some ⟨b,off+fd.offset,none⟩),by simp[execOp,hv,Instr.fieldAt,run_underlying hu,hfs,Instr.sureAddr,fieldPlace,cK hz,Addr.add_lit],.pt b s' id _ hr⟩
theorem qN(s:TypeId)(x:Operand)(f:Nat)(cells:List AV)(off fo n:Nat)(ft:TypeId)(hx:st.op x= .ipt cells off)(hf:oC P s f=some (fo,ft))(hz:siz P ft=some (n+1)):
 OpT P ⟨dst,.fieldAddr s x f,ty,pos,af,g⟩ nid 0 st ⟨.ipt cells (off+fo),[]⟩:= .pure fun c ρ D J a w h=>by
 have h1:=h.op x
 rw[hx] at h1
 obtain⟨fs,fd,hu,hfs,rfl,rfl⟩:=uK hf
 generalize hv:a.eval x=v at h1
 cases h1 with
 |ipt b o _ _ u hb h0 h1 h2=>exact⟨.pointer (some ⟨b,o+(off+fd.offset),none⟩),by simp[execOp,hv,Instr.fieldAt,run_underlying hu,hfs,Instr.sureAddr,fieldPlace,cK hz,Addr.add_lit,Nat.add_assoc],.ipt b o _ cells u hb h0 h1 h2⟩
theorem tJ(t:TypeId)(x ix:Operand)(id off len es:Nat)(k:IntKind)(i:Int)(e:TypeId)(hx:st.op x= .sl id off len es)(hi:st.op ix= .val (.int k i))
 (he:iL P t=some e) (hz:siz P e=some es) (hr:0≤i∧i<len):
 OpT P ⟨dst,.indexAddr t x ix,ty,pos,af,g⟩ nid 0 st ⟨.pt id (off+i.toNat*es),[]⟩:= .pure fun c ρ D J a w h=>by
 have h1:=h.op x;have h2:=h.op ix
 rw[hx] at h1;rw[hi] at h2
 have e2:=aG h2
 have hu:=aV he
 generalize hv:a.eval x=v at h1
 cases h1 with
 |sl b s _ _ _ _ cap hρ hc hs=>exact⟨.pointer (some ⟨b,off+i.toNat*es,none⟩),by simp[execOp,hv,e2,Instr.indexAt,asIntOf,run_underlying hu,hr,cK hz,Addr.add_lit],.pt b s id _ hρ⟩
theorem qO(t:TypeId)(x ix:Operand)(id off len es es':Nat)(k:IntKind)(i:Int)(e:TypeId)(hx:st.op x= .sl id off len es')(hi:st.op ix= .val (.int k i))
 (he:iL P t=some e) (hz:siz P e=some es) (hr:0≤i∧i<len):
 OpT P ⟨dst,.indexAddr t x ix,ty,pos,af,g⟩ nid 0 st ⟨.pt id (off+i.toNat*es),[]⟩:= .pure fun c ρ D J a w h=>by
 have h1:=h.op x;have h2:=h.op ix
 rw[hx] at h1;rw[hi] at h2
 have e2:=aG h2
 have hu:=aV he
 generalize hv:a.eval x=v at h1
 cases h1 with
 |sl b s _ _ _ _ cap hρ hc hs=>exact⟨.pointer (some ⟨b,off+i.toNat*es,none⟩),by simp[execOp,hv,e2,Instr.indexAt,asIntOf,run_underlying hu,hr,cK hz,Addr.add_lit],.pt b s id _ hρ⟩
theorem qP(t:TypeId)(x ix:Operand)(z:Bool)(cells:List AV)(len es:Nat)(k:IntKind)(i:Int)(e:TypeId)(hx:st.op x= .isl z cells len)(hi:st.op ix= .val (.int k i))
 (he:iL P t=some e) (hz:siz P e=some es) (hr:0≤i∧i<len):
 OpT P ⟨dst,.indexAddr t x ix,ty,pos,af,g⟩ nid 0 st ⟨.ipt cells (i.toNat*es),[]⟩:= .pure fun c ρ D J a w h=>by
 have h1:=h.op x;have h2:=h.op ix
 rw[hx] at h1;rw[hi] at h2
 have e2:=aG h2
 have hu:=aV he
 generalize hv:a.eval x=v at h1
 cases h1 with
 |inil=>exfalso;simp at hr;omega
 |iemp=>exfalso;simp at hr;omega
 |isl b off _ cap _ u hb hc h0 h1 h2=>exact⟨.pointer (some ⟨b,off+i.toNat*es,none⟩),by simp[execOp,hv,e2,Instr.indexAt,asIntOf,run_underlying hu,hr,cK hz,Addr.add_lit],.ipt b off _ cells u hb h0 h1 h2⟩
theorem qQ(t:TypeId)(x ix:Operand)(id off n es:Nat)(k:IntKind)(i:Int)(e:TypeId)(hx:st.op x= .pt id off)(hi:st.op ix= .val (.int k i))
 (he:wV P t=some (n,e)) (hz:siz P e=some es) (hr:0≤i∧i<n):
 OpT P ⟨dst,.indexAddr t x ix,ty,pos,af,g⟩ nid 0 st ⟨.pt id (off+i.toNat*es),[]⟩:= .pure fun c ρ D J a w h=>by
 have h1:=h.op x;have h2:=h.op ix
 rw[hx] at h1;rw[hi] at h2
 have e2:=aG h2
 have hu:=kw he
 generalize hv:a.eval x=v at h1
 cases h1 with
 |pt b s _ _ hρ=>exact⟨.pointer (some ⟨b,off+i.toNat*es,none⟩),by simp[execOp,hv,e2,Instr.indexAt,asIntOf,run_underlying hu,hr,cK hz,Addr.add_lit,Instr.sureAddr],.pt b s id _ hρ⟩
theorem qw(t:TypeId)(x ix:Operand)(cells:List AV)(off n es:Nat)(k:IntKind)(i:Int)(e:TypeId)(hx:st.op x= .ipt cells off)(hi:st.op ix= .val (.int k i))
 (he:wV P t=some (n,e)) (hz:siz P e=some es) (hr:0≤i∧i<n):
 OpT P ⟨dst,.indexAddr t x ix,ty,pos,af,g⟩ nid 0 st ⟨.ipt cells (off+i.toNat*es),[]⟩:= .pure fun c ρ D J a w h=>by
 have h1:=h.op x;have h2:=h.op ix
 rw[hx] at h1;rw[hi] at h2
 have e2:=aG h2
 have hu:=kw he
 generalize hv:a.eval x=v at h1
 cases h1 with
 |ipt b o _ _ u hb h0 h1 h2=>exact⟨.pointer (some ⟨b,o+(off+i.toNat*es),none⟩),by simp[execOp,hv,e2,Instr.indexAt,asIntOf,run_underlying hu,hr,cK hz,Addr.add_lit,Instr.sureAddr,Nat.add_assoc],.ipt b o _ cells u hb h0 h1 h2⟩
theorem gJ{w:World} {J:Nat→Prop} {ρ:Rho} {b s:Nat} {cs:List AV} {e:TypeId}(h:ObjRep w J ρ b s (.cells cs e)):∃u:Nat→Value,∀j (hj:j<cs.length),
 w.cell? ⟨b,j,none⟩=some (u j)∧(u j).oneCell'=true∧Rep w J ρ (u j) cs[j]:=by
 obtain⟨c,hc,hs,hl,hr,_⟩:=h
 refine⟨fun j=>c.getD j undef,fun j hj=>⟨?_,(hr j hj).1,(hr j hj).2⟩⟩
 rw[cell_of_row w b j c e (0,0) hc]
 have:j<c.size:=by omega
 simp[Array.getD,this]
theorem jf{w:World} {J:Nat→Prop} {ρ:Rho} {b off n:Nat} {cs:List AV}(u:Nat→Value)(h:∀j (hj:j<cs.length),w.cell? ⟨b,off+j,none⟩=some (u j)∧Rep w J ρ (u j) cs[j])(hn:cs.length=n):
 ∃vs:Array Value,(loadCells ⟨b,off,none⟩ n).run P w= .ok vs w∧Rep w J ρ (.agg vs) (.agg cs):=by
 have h1:=run_loadCells (P:=P) w ⟨b,off,none⟩ n u (fun j hj=>by rw[Addr.add_lit];exact(h j (by omega)).1)
 refine⟨_,h1,.agg _ _ (by simp[hn]) (fun j hj=>?_)⟩
 have:((List.range n).map u).toArray.getD j undef=u j:=by simp[Array.getD,hn▸hj]
 rw[this];exact(h j hj).2
theorem BZ(t:TypeId)(x:Operand)(id off:Nat)(cs:List AV)(e:TypeId)(y:AV)(hx:st.op x= .pt id off)(ho:st.ob id=some (.cells cs e))(ha:iX P t=some false)(hy:cs[off]? =some y):
 OpT P ⟨dst,.load t x,ty,pos,af,g⟩ nid 0 st ⟨y,[]⟩:= .pure fun c ρ D J a w h=>by
 have h1:=h.op x
 rw[hx] at h1
 obtain⟨b,s,hρ,hob,_⟩:=h.obj id _ ho
 obtain⟨u,hu⟩:=gJ hob
 generalize hv:a.eval x=v at h1
 cases h1 with
 |pt b' s' _ _ hρ'=>
  rw[hρ] at hρ';cases hρ'
  obtain⟨hlt,rfl⟩:=List.getElem?_eq_some_iff.1 hy
  exact⟨u off,by simp[execOp,hv,Instr.loadAt,Instr.sureAddr,loadVar,d9 ha,(hu off hlt).1],(hu off hlt).2.2⟩
theorem zZ(t:TypeId)(x:Operand)(cells:List AV)(off:Nat)(y:AV)(hx:st.op x= .ipt cells off)(ha:iX P t=some false)(hy:cells[off]? =some y):
 OpT P ⟨dst,.load t x,ty,pos,af,g⟩ nid 0 st ⟨y,[]⟩:= .pure fun c ρ D J a w h=>by
 have h1:=h.op x
 rw[hx] at h1
 generalize hv:a.eval x=v at h1
 cases h1 with
 |ipt b o _ _ u hb h0 h1 h2=>
  obtain⟨hlt,rfl⟩:=List.getElem?_eq_some_iff.1 hy
  exact⟨u off,by simp[execOp,hv,Instr.loadAt,Instr.sureAddr,loadVar,d9 ha,h1 off hlt],(h2 off hlt).up⟩
theorem vT(t:TypeId)(x:Operand)(id off n:Nat)(cs:List AV)(e:TypeId)(hx:st.op x= .pt id off)(ho:st.ob id=some (.cells cs e))(ha:iX P t=some true)(hz:siz P t=some n)(hy:off+n≤cs.length):
 OpT P ⟨dst,.load t x,ty,pos,af,g⟩ nid 0 st ⟨.agg ((cs.drop off).take n),[]⟩:= .pure fun c ρ D J a w h=>by
 have h1:=h.op x
 rw[hx] at h1
 obtain⟨b,s,hρ,hob,_⟩:=h.obj id _ ho
 obtain⟨u,hu⟩:=gJ hob
 generalize hv:a.eval x=v at h1
 cases h1 with
 |pt b' s' _ _ hρ'=>
  rw[hρ] at hρ';cases hρ'
  obtain⟨vs,hr,hrep⟩:=jf (P:=P) (w:=w) (J:=J) (ρ:=ρ) (b:=b) (off:=off) (n:=n) (cs:=(cs.drop off).take n) (fun j=>u (off+j)) (fun j hj=>by
   simp at hj
   have:=hu (off+j) (by omega)
   exact⟨this.1,by simpa using this.2.2⟩) (by simp;omega)
  exact⟨.agg vs,by simp[execOp,hv,Instr.loadAt,Instr.sureAddr,loadVar,d9 ha,cK hz,hr],hrep⟩
theorem tN(t:TypeId)(x:Operand)(off n:Nat)(cs:List AV)(hx:st.op x= .ipt cs off)(ha:iX P t=some true)(hz:siz P t=some n)(hy:off+n≤cs.length):
 OpT P ⟨dst,.load t x,ty,pos,af,g⟩ nid 0 st ⟨.agg ((cs.drop off).take n),[]⟩:= .pure fun c ρ D J a w h=>by
 have h1:=h.op x
 rw[hx] at h1
 generalize hv:a.eval x=v at h1
 cases h1 with
 |ipt b o _ _ u hb h0 h1 h2=>
  obtain⟨vs,hr,hrep⟩:=jf (P:=P) (w:=w) (J:=J) (ρ:=ρ) (b:=b) (off:=o+off) (n:=n) (cs:=(cs.drop off).take n) (fun j=>u (off+j)) (fun j hj=>by
   simp at hj
   exact⟨by rw[Nat.add_assoc];exact h1 (off+j) (by omega),by simpa using(h2 (off+j) (by omega)).up⟩) (by simp;omega)
  exact⟨.agg vs,by simp[execOp,hv,Instr.loadAt,Instr.sureAddr,loadVar,d9 ha,cK hz,hr],hrep⟩
theorem Ca(x:Operand)(i:Nat)(cs:List AV)(y:AV)(hx:st.op x= .tup cs)(hy:cs[i]? =some y):OpT P ⟨dst,.extract x i,ty,pos,af,g⟩ nid 0 st ⟨y,[]⟩:= .pure fun c ρ D J a w h=>by
 have h1:=h.op x
 rw[hx] at h1
 generalize hv:a.eval x=v at h1
 cases h1 with
 |tup vs _ hs h1=>
  obtain⟨hlt,rfl⟩:=List.getElem?_eq_some_iff.1 hy
  have hlt':i<vs.size:=by omega
  exact⟨vs.getD i undef,by simp[execOp,hv,Instr.extract,hlt',Array.getD],h1 _ hlt⟩
def Cb:AV→Option Nat
 | .isl _ _ n=>some n
 | .sl _ _ n _=>some n
 | .val (.string s)=>some s.size
 |_=>none
def vZ(P:Program)(t:TypeId)(x:AV):Bool:=match P.underlying t,x with
 |some .string,.val _=>true
 |some (.slice _),.isl .. =>true
 |some (.slice _),.sl .. =>true
 |_,_=>false
theorem Ha(t:TypeId)(x:Operand)(n:Nat)(hn:Cb (st.op x)=some n)(ht:vZ P t (st.op x)=true):
 OpT P ⟨dst,.call ⟨.builtin .len,#[x],#[t]⟩,ty,pos,af,g⟩ nid 0 st ⟨.val (.int .i64 n),[]⟩:= .pure fun c ρ D J a w h=>by
 have h1:=h.op x
 refine⟨.int .i64 n,?_,.val _⟩
 generalize st.op x=y at h1 hn ht
 generalize hv:a.eval x=v at h1
 unfold vZ at ht
 split at ht
 ·rename_i hu
  cases h1
  unfold Cb at hn
  split at hn<;>simp_all[execOp,resolve,invoke,builtin,Builtin.len_,run_underlying hu,goInt]
 ·rename_i hu
  cases h1<;>simp[Cb] at hn<;>subst hn<;>simp[execOp,resolve,invoke,builtin,hv,Builtin.len_,run_underlying hu,goInt]
 ·rename_i hu
  cases h1;simp[Cb] at hn;subst hn;simp[execOp,resolve,invoke,builtin,hv,Builtin.len_,run_underlying hu,goInt]
 ·cases ht
end
end
