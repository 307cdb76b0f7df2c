/- Sym10 Sym11 Sym12 Sym13 Sym14. No condition. -/
import Derived.Test.YtgmpdplpodemaaaGreatDoorSymG6
import Derived.Orders
set_option linter.all false
namespace Go.Sy
section
class xw(P:Program)(t:TypeId)(b:outParam Bool):Prop where out:jy P t=some b
class gJ(P:Program)(t:TypeId)(n:outParam Nat):Prop where out:siz P t=some n
class vC(P:Program)(t:TypeId)(n:outParam Nat):Prop where out:byt P t=some n
class jY(P:Program)(t:TypeId)(zs:outParam (List Value)):Prop where out:jg P t=some zs
class dW(P:Program)(t:TypeId)(e:outParam TypeId):Prop where out:jf P t=some e
class vz(P:Program)(t:TypeId)(n:outParam Nat)(e:outParam TypeId):Prop where out:yK P t=some (n,e)
class Ep(P:Program)(t f:Nat)(off:outParam Nat)(ft:outParam TypeId):Prop where out:qH P t f=some (off,ft)
class nI(P:Program)(t:TypeId)(k:outParam IntKind):Prop where out:nJ P t=some k
class iK(P:Program)(t:TypeId)(l:outParam (List (Nat×Nat))):Prop where out:tO P t=some l
class Eo(P:Program)(t:TypeId):Prop where out:si P t=true
class eU(P:Program)(f:FuncId):Prop where out:ol P f=true
def AO(P:Program)(o:Oper)(nid:Nat)(st:St)(K:Nat->Eff->Prop):Prop:=∃k e,OpT P o nid k st e/\K k e
section
variable {P:Program} {Q:Exit->Nat->St->Prop} {nid:Nat} {st:St} {ops:Array Oper} {rest:List Oper} {dst:Option Nat} {op:Op} {ty:TypeId} {pos:String} {af:Array Edge} {g:Option (Nat×Bool)} {K:Nat->Eff->Prop}
theorem ay{n m d:Nat} {env:List (Nat×AV)} {objs:List (Nat×Option aC)}(hd:lu n (some d)=true)
 (h:∀K:Nat->AV->List (Nat×Option aC)->Prop,(∀nid' v objs',AL P ops Q rest nid' ⟨n,m,(d,v)::env,objs'⟩->K nid' v objs')->
   AO P ⟨some d,op,ty,pos,af,none⟩ nid ⟨n,m,env,objs⟩ (λk e=>K (nid+k) e.v (e.upd++objs))):
 AL P ops Q (⟨some d,op,ty,pos,af,none⟩::rest) nid ⟨n,m,env,objs⟩:=by
 obtain⟨k,e,h1,h2⟩:=h (λnid' v objs'=>AL P ops Q rest nid' ⟨n,m,(d,v)::env,objs'⟩) (λ_ _ _ h=>h)
 exact ab1 h1 hd h2
theorem au{n m:Nat} {env:List (Nat×AV)} {objs:List (Nat×Option aC)}
 (h:∀K:Nat->AV->List (Nat×Option aC)->Prop,(∀nid' v objs',AL P ops Q rest nid' ⟨n,m,env,objs'⟩->K nid' v objs')->
   AO P ⟨none,op,ty,pos,af,none⟩ nid ⟨n,m,env,objs⟩ (λk e=>K (nid+k) e.v (e.upd++objs))):
 AL P ops Q (⟨none,op,ty,pos,af,none⟩::rest) nid ⟨n,m,env,objs⟩:=by
 obtain⟨k,e,h1,h2⟩:=h (λnid' v objs'=>AL P ops Q rest nid' ⟨n,m,env,objs'⟩) (λ_ _ _ h=>h)
 exact ab1 h1 rfl h2
theorem aN{n m d j t:Nat} {env:List (Nat×AV)} {objs:List (Nat×Option aC)} {b:Bool}(ht:rM ops j=some t)(hn:lu n (some t)=true)
 (h:∀K1 K2:Prop,(AL P ops Q (⟨some d,op,ty,pos,af,none⟩::rest) nid ⟨n,m,env,objs⟩->K1)->(AL P ops Q rest nid ⟨n,m,(d,noV)::env,objs⟩->K2)->
   gAV b (St.ev ⟨n,m,env,objs⟩ t) K1 K2) (hd:lu n (some d)=true):
 AL P ops Q (⟨some d,op,ty,pos,af,some (j,b)⟩::rest) nid ⟨n,m,env,objs⟩:=by
 have hn':t<n:=by simpa[lu] using hn
 rcases h _ _ (λh=>h) (λh=>h) with⟨b',hb,h1,h2⟩|⟨hb,h2⟩
 ·by_cases e:b'=b
  ·subst e
   intro c ρ J a w hs
   have:=h1 rfl c ρ J a w hs
   unfold wpListIn at this⊢
   rw[if_pos (by simp[Region.wanted])] at this
   rw[if_pos (by simp[Region.wanted,sF hs ht hb hn'])]
   exact this
  ·have e':b'= !b:=by cases b<;>cases b'<;>simp_all
   subst e'
   exact Vs ht hb hn' hd (h2 rfl)
 ·exact OM ht hb hn' hd h2
theorem aL{o:Operand} {x y:Code}(h:∀K1 K2:Prop,(AC P x Q nid st->K1)->(AC P y Q nid st->K2)->∃b,st.op o= .val (.bool b)/\(b=true->K1)/\(b=false->K2)):AC P (.cond o x y) Q nid st:=
 Vq (h _ _ (λh=>h) (λh=>h))
def yT(σ:List Nat)(st:St):List (Nat×AV)->Prop
 |[]=>True
 |(t,v)::l=>(v= .any\/st.ev t=ren (σ.getD · 0) v)/\bnd σ.length v/\yT σ st l
def kE(σ:List Nat)(st:St):List (Nat×Option aC)->Prop
 |[]=>True
 |(_,none)::l=>kE σ st l
 |(i,some o)::l=>i<σ.length/\st.ob (σ.getD i 0)=some (rD (σ.getD · 0) o)/\Cw σ.length o/\kE σ st l
theorem yU{σ:List Nat} {l:List (Nat×AV)}(h:yT σ st l):∀p∈l,(p.2= .any\/st.ev p.1=ren (σ.getD · 0) p.2)/\bnd σ.length p.2:=by
 induction l with
 |nil=>intro p hp;cases hp
 |cons x l ih=>
  obtain⟨t,v⟩:=x
  obtain⟨h1,h2,h3⟩:=h
  intro p hp
  rcases List.mem_cons.1 hp with rfl|hp
  ·exact⟨h1,h2⟩
  ·exact ih h3 p hp
theorem G9{σ:List Nat} {l:List (Nat×Option aC)}(h:kE σ st l):∀p∈l,∀o,p.2=some o->p.1<σ.length/\st.ob (σ.getD p.1 0)=some (rD (σ.getD · 0) o)/\Cw σ.length o:=by
 induction l with
 |nil=>intro p hp;cases hp
 |cons x l ih=>
  obtain⟨t,v⟩:=x
  intro p hp o ho
  cases v with
  |none=>
   rcases List.mem_cons.1 hp with rfl|hp
   ·cases ho
   ·exact ih h p hp o ho
  |some v=>
   obtain⟨h1,h2,h3,h4⟩:=h
   rcases List.mem_cons.1 hp with rfl|hp
   ·cases ho;exact⟨h1,h2,h3⟩
   ·exact ih h4 p hp o ho
theorem Sub.mk'{σ:List Nat} {n m:Nat} {env env':List (Nat×AV)} {objs objs':List (Nat×Option aC)}(h1:yT σ ⟨n,m,env,objs⟩ env')(h2:kE σ ⟨n,m,env,objs⟩ objs')(h3:σ.Nodup)(h4:σ.take m=List.range m):
 Sub σ ⟨n,m,env',objs'⟩ ⟨n,m,env,objs⟩:=
 ⟨rfl,λp hp=>(yU h1 p hp).1,λp hp=>(yU h1 p hp).2,λp hp o ho=>G9 h2 p hp o ho,h3,rfl,h4⟩
theorem Ends.mk'{fn:Func} {objs0:List aC} {m:Nat} {r:AV} {objs':List aC} {e:Exit} {n:Nat} {env:List (Nat×AV)} {objs:List (Nat×Option aC)}(he:e= .normal\/e= .ret)(σ:List Nat)
 (h1:σ.length=objs'.length) (h2:kE σ ⟨n,m,env,objs⟩ ((idx 0 objs').map λp=>(p.1,some p.2))) (h3:σ.Nodup) (h4:σ.take m=List.range m)
 (h5:dY P ⟨n,m,env,objs⟩ fn.results.toList=some (ren (σ.getD · 0) r)) (h6:bnd σ.length r):Ends P fn objs0 m r objs' e ⟨n,m,env,objs⟩:=
 ⟨he,_,σ,Frz.refl _,Sub.mk' trivial h2 h3 h4,h1,rfl,h5,h6⟩
theorem cZ(x:Operand)(h:K 0 ⟨st.op x,[]⟩):AO P ⟨dst,.move x,ty,pos,af,g⟩ nid st K:=⟨_,_,OJ x,h⟩
theorem aX(x:Operand)(h:K 0 ⟨st.op x,[]⟩):AO P ⟨dst,.assign x,ty,pos,af,g⟩ nid st K:=⟨_,_,G6 x,h⟩
theorem ac7(x y z:Operand)(h:∃b,st.op x= .val (.bool b)/\K 0 ⟨jI b (st.op y) (st.op z),[]⟩):AO P ⟨dst,.pick x y z,ty,pos,af,g⟩ nid st K:=by
 obtain⟨b,h1,h2⟩:=h;exact⟨_,_,OL x y z b h1,h2⟩
def dA:Value->Value->Bool
 | .nilIface,.nilIface=>false
 | .agg _,.agg _=>false
 |_,_=>true
theorem AZ(bo:BinOp)(t:TypeId)(x y:Operand)(u v:Value)(h:dA u v=true)(w:World):(eqGuard bo t x y u v).run P w= .ok () w:=by
 unfold eqGuard
 cases bo<;>first|rfl|(simp only[Bool.not_true,Bool.false_eq_true,if_false];split<;>first|(simp[dA] at h;done)|rfl)
def bW(P:Program)(bo:BinOp)(t:TypeId)(x y:AV):Option AV:=match x,y with
 | .val u,.val v=>if dA u v then(jH P bo t u v).map ofV else none
 |_,_=>none
section
variable {t:TypeId} {k:IntKind} {a b:Int}
theorem Vu:bW P .add t (.val (.int k a)) (.val (.int k b))=some (.val (.int k (k.wrap (a+b)))):=by simp[bW,dA,jH,ofV]
theorem Vv:bW P .sub t (.val (.int k a)) (.val (.int k b))=some (.val (.int k (k.wrap (a-b)))):=by simp[bW,dA,jH,ofV]
theorem Vw:bW P .mul t (.val (.int k a)) (.val (.int k b))=some (.val (.int k (k.wrap (a*b)))):=by simp[bW,dA,jH,ofV]
theorem Vx:bW P .quo t (.val (.int k a)) (.val (.int k b))=if b=0 then none else some (.val (.int k (k.wrap (a.tdiv b)))):=by by_cases h:b=0<;>simp[bW,dA,jH,ofV,h]
theorem Vy:bW P .rem t (.val (.int k a)) (.val (.int k b))=if b=0 then none else some (.val (.int k (a.tmod b))):=by by_cases h:b=0<;>simp[bW,dA,jH,ofV,h]
theorem Vz:bW P .and t (.val (.int k a)) (.val (.int k b))=some (.val (.int k (k.wrap (BitVec.ofInt k.bits a&&&BitVec.ofInt k.bits b).toNat))):=by simp[bW,dA,jH,ofV]
theorem ac8:bW P .or t (.val (.int k a)) (.val (.int k b))=some (.val (.int k (k.wrap (BitVec.ofInt k.bits a|||BitVec.ofInt k.bits b).toNat))):=by simp[bW,dA,jH,ofV]
theorem VA:bW P .xor t (.val (.int k a)) (.val (.int k b))=some (.val (.int k (k.wrap (BitVec.ofInt k.bits a ^^^ BitVec.ofInt k.bits b).toNat))):=by simp[bW,dA,jH,ofV]
theorem Ha:bW P .andNot t (.val (.int k a)) (.val (.int k b))=some (.val (.int k (k.wrap (BitVec.ofInt k.bits a&&& ~~~ BitVec.ofInt k.bits b).toNat))):=by simp[bW,dA,jH,ofV]
theorem VB{j:IntKind}:bW P .shl t (.val (.int k a)) (.val (.int j b))=if b<0 then none else some (.val (.int k (k.wrap (a*2^(min b.toNat k.bits))))):=by by_cases h:b<0<;>simp[bW,dA,jH,ofV,h]
theorem VC{j:IntKind}:bW P .shr t (.val (.int k a)) (.val (.int j b))=if b<0 then none else some (.val (.int k (a.fdiv (2^(min b.toNat k.bits))))):=by by_cases h:b<0<;>simp[bW,dA,jH,ofV,h]
theorem VD:bW P .eql t (.val (.int k a)) (.val (.int k b))=some (.val (.bool (decide (a=b)))):=by simp[bW,dA,jH,ofV]
theorem VE:bW P .neq t (.val (.int k a)) (.val (.int k b))=some (.val (.bool (decide (a≠b)))):=by simp[bW,dA,jH,ofV]
theorem VF:bW P .lss t (.val (.int k a)) (.val (.int k b))=some (.val (.bool (decide (a<b)))):=by simp[bW,dA,jH,ofV]
theorem VG:bW P .leq t (.val (.int k a)) (.val (.int k b))=some (.val (.bool (decide (a<=b)))):=by simp[bW,dA,jH,ofV]
theorem VH:bW P .gtr t (.val (.int k a)) (.val (.int k b))=some (.val (.bool (decide (b<a)))):=by simp[bW,dA,jH,ofV]
theorem VI:bW P .geq t (.val (.int k a)) (.val (.int k b))=some (.val (.bool (decide (b<=a)))):=by simp[bW,dA,jH,ofV]
theorem OT{x y:ByteArray}:bW P .eql t (.val (.string x)) (.val (.string y))=some (.val (.bool (decide (x=y)))):=by simp[bW,dA,jH,ofV]
theorem OU{x y:ByteArray}:bW P .neq t (.val (.string x)) (.val (.string y))=some (.val (.bool (decide (x≠y)))):=by simp[bW,dA,jH,ofV]
theorem OW{x y:ByteArray}:bW P .add t (.val (.string x)) (.val (.string y))=if((x.size+y.size:Nat):Int)<=9223372036854775807 then some (.val (.string (x++y))) else none:=by
 simp only[bW,dA,jH,if_true];split<;>simp[ofV]
end
class Vb(P:Program)(t:TypeId):Prop where out:qI P t=true
theorem OX{t:TypeId} [h:Vb P t]{x y:Bool}:bW P .eql t (.val (.bool x)) (.val (.bool y))=some (.val (.bool (x==y))):=by simp[bW,dA,jH,ofV,h.out]
theorem OY{t:TypeId} [h:Vb P t]{x y:Bool}:bW P .neq t (.val (.bool x)) (.val (.bool y))=some (.val (.bool (x !=y))):=by simp[bW,dA,jH,ofV,h.out]
class Vd(P:Program)(t:TypeId):Prop where out:vF P t=true
theorem OZ{t:TypeId} [h:Vd P t]{y:Option Addr}:bW P .eql t (.val (.pointer none)) (.val (.pointer y))=some (.val (.bool y.isNone)):=by simp[bW,dA,jH,ofV,h.out]
theorem O0{t:TypeId} [h:Vd P t]{y:Option Addr}:bW P .neq t (.val (.pointer none)) (.val (.pointer y))=some (.val (.bool !y.isNone)):=by simp[bW,dA,jH,ofV,h.out]
theorem ah6(bo:BinOp)(t:TypeId)(x y:Operand)(t':TypeId)(h:∃r,bW P bo t (st.op x) (st.op y)=some r/\K 0 ⟨r,[]⟩):AO P ⟨dst,.binOp bo t x y t',ty,pos,af,g⟩ nid st K:=by
 obtain⟨r,h1,h2⟩:=h
 unfold bW at h1
 split at h1
 ·rename_i u v hu hv
  split at h1
  ·rename_i hp
   cases hb:jH P bo t u v with
   |none=>simp[hb] at h1
   |some q=>simp[hb] at h1;subst h1;exact⟨_,_,Mj bo t x y t' u v q hu hv hb (AZ bo t x y u v hp),h2⟩
  ·cases h1
 ·cases h1
theorem ac9{t e:TypeId} [h:dW P t e]{z:Bool} {cs:List AV} {n:Nat}:rA P t (.isl z cs n) (.isl true [] 0)=some z:=by unfold rA;rw[bg h.out];rfl
theorem ah7{t e:TypeId} [h:dW P t e]{id off n es:Nat}:rA P t (.sl id off n es) (.isl true [] 0)=some false:=by unfold rA;rw[bg h.out];rfl
theorem ah8{t:TypeId} [h:Vd P t]{id off:Nat}:rA P t (.pt id off) (.val (.pointer none))=some false:=by obtain⟨e,hu⟩:=sj h.out;unfold rA;rw[hu]
theorem ada{t:TypeId} [h:Vd P t]{cs:List AV} {off:Nat}:rA P t (.ipt cs off) (.val (.pointer none))=some false:=by obtain⟨e,hu⟩:=sj h.out;unfold rA;rw[hu]
theorem VJ(t:TypeId)(x y:Operand)(t':TypeId)(h:∃b,rA P t (st.op x) (st.op y)=some b/\K 0 ⟨.val (.bool b),[]⟩):AO P ⟨dst,.binOp .eql t x y t',ty,pos,af,g⟩ nid st K:=by
 obtain⟨b,h1,h2⟩:=h;exact⟨_,_,Mk t x y t' b h1,h2⟩
theorem O1(t:TypeId)(x y:Operand)(t':TypeId)(h:∃b,rA P t (st.op x) (st.op y)=some b/\K 0 ⟨.val (.bool !b),[]⟩):AO P ⟨dst,.binOp .neq t x y t',ty,pos,af,g⟩ nid st K:=by
 obtain⟨b,h1,h2⟩:=h;exact⟨_,_,G7 t x y t' b h1,h2⟩
theorem ah9(t:TypeId)(x:Operand)(h:∃b,st.op x= .val (.bool b)/\K 0 ⟨.val (.bool !b),[]⟩):AO P ⟨dst,.unOp .not t x,ty,pos,af,g⟩ nid st K:=by
 obtain⟨b,h1,h2⟩:=h;exact⟨_,_,Cr t x b h1,h2⟩
theorem aia(t:TypeId)(x:Operand)(h:∃k n,st.op x= .val (.int k n)/\K 0 ⟨.val (.int k (k.wrap (0-n))),[]⟩):AO P ⟨dst,.unOp .neg t x,ty,pos,af,g⟩ nid st K:=by
 obtain⟨k,n,h1,h2⟩:=h;exact⟨_,_,Cs t x k n h1,h2⟩
theorem Mt{ks k:IntKind}(s t:TypeId)(x:Operand) [hs:nI P s ks] [ht:nI P t k](h:∃k' n,st.op x= .val (.int k' n)/\K 0 ⟨.val (.int k (k.wrap n)),[]⟩):AO P ⟨dst,.convert s t x,ty,pos,af,g⟩ nid st K:=by
 obtain⟨k',n,h1,h2⟩:=h;exact⟨_,_,wY s t x k k' n ks hs.out ht.out h1,h2⟩
theorem fM(x:Operand)(h:(st.op x).notNil=true/\K 0 ⟨st.op x,[]⟩):AO P ⟨dst,.nilCheck x,ty,pos,af,g⟩ nid st K:=⟨_,_,Ct x h.1,h.2⟩
def wK(n:Nat):AV->Option AV
 | .pt id off=>some (.pt id (off+n))
 | .ipt cs off=>some (.ipt cs (off+n))
 |_=>none
theorem EH{fo n:Nat} {ft:TypeId}(s:TypeId)(x:Operand)(f:Nat) [hf:Ep P s f fo ft] [hz:gJ P ft (n+1)](h:∃y,wK fo (st.op x)=some y/\K 0 ⟨y,[]⟩):AO P ⟨dst,.fieldAddr s x f,ty,pos,af,g⟩ nid st K:=by
 obtain⟨y,h1,h2⟩:=h
 unfold wK at h1
 split at h1
 ·rename_i id off hx;cases h1;exact⟨_,_,vG s x f id off fo n ft hx hf.out hz.out,h2⟩
 ·rename_i cs off hx;cases h1;exact⟨_,_,tF s x f cs off fo n ft hx hf.out hz.out,h2⟩
 ·cases h1
def EI(i es:Nat):AV->Option (AV×Nat)
 | .sl id off len _=>some (.pt id (off+i*es),len)
 | .isl _ cs len=>some (.ipt cs (i*es),len)
 |_=>none
theorem EJ{e:TypeId} {es:Nat}(t:TypeId)(x ix:Operand) [he:dW P t e] [hz:gJ P e es](h:∃k i y len,st.op ix= .val (.int k i)/\EI i.toNat es (st.op x)=some (y,len)/\(0<=i/\i<len)/\K 0 ⟨y,[]⟩):AO P ⟨dst,.indexAddr t x ix,ty,pos,af,g⟩ nid st K:=by
 obtain⟨k,i,y,len,h1,h2,h3,h4⟩:=h
 unfold EI at h2
 split at h2
 ·rename_i id off l es' hx
  cases h2
  by_cases hes:es'=es
  ·subst hes;exact⟨_,_,vH t x ix id off _ es' k i e hx h1 he.out hz.out h3,h4⟩
  ·exact⟨_,_,tH t x ix id off _ es es' k i e hx h1 he.out hz.out h3,h4⟩
 ·rename_i z cs l hx
  cases h2
  exact⟨_,_,tJ t x ix z cs _ es k i e hx h1 he.out hz.out h3,h4⟩
 ·cases h2
theorem Hd{e:TypeId} {n es:Nat}(t:TypeId)(x ix:Operand) [he:vz P t n e] [hz:gJ P e es](h:∃k i y,st.op ix= .val (.int k i)/\wK (i.toNat*es) (st.op x)=some y/\(0<=i/\i<n)/\K 0 ⟨y,[]⟩):AO P ⟨dst,.indexAddr t x ix,ty,pos,af,g⟩ nid st K:=by
 obtain⟨k,i,y,h1,h2,h3,h4⟩:=h
 unfold wK at h2
 split at h2
 ·rename_i id off hx;cases h2;exact⟨_,_,tN t x ix id off n es k i e hx h1 he.out hz.out h3,h4⟩
 ·rename_i cs off hx;cases h2;exact⟨_,_,sD t x ix cs off n es k i e hx h1 he.out hz.out h3,h4⟩
 ·cases h2
def tZ(off:Nat):Option aC->Option (List AV×Nat)
 |some (.cells cs _)=>some (cs,off)
 |_=>none
def mP(st:St):AV->Option (List AV×Nat)
 | .pt id off=>tZ off (st.ob id)
 | .ipt cs off=>some (cs,off)
 |_=>none
theorem adb(t:TypeId)(x:Operand) [ha:xw P t false](h:∃cs off y,mP st (st.op x)=some (cs,off)/\cs[off]? =some y/\K 0 ⟨y,[]⟩):AO P ⟨dst,.load t x,ty,pos,af,g⟩ nid st K:=by
 obtain⟨cs,off,y,h1,h2,h3⟩:=h
 unfold mP at h1
 split at h1
 ·rename_i id o hx
  unfold tZ at h1
  split at h1
  ·rename_i cs' e ho;cases h1;exact⟨_,_,Ew t x id _ _ e y hx ho ha.out h2,h3⟩
  ·cases h1
 ·rename_i cs' o hx;cases h1;exact⟨_,_,Cu t x _ _ y hx ha.out h2,h3⟩
 ·cases h1
theorem Mv{n:Nat}(t:TypeId)(x:Operand) [ha:xw P t true] [hz:gJ P t n](h:∃cs off,mP st (st.op x)=some (cs,off)/\off+n<=cs.length/\K 0 ⟨.agg ((cs.drop off).take n),[]⟩):AO P ⟨dst,.load t x,ty,pos,af,g⟩ nid st K:=by
 obtain⟨cs,off,h1,h2,h3⟩:=h
 unfold mP at h1
 split at h1
 ·rename_i id o hx
  unfold tZ at h1
  split at h1
  ·rename_i cs' e ho;cases h1;exact⟨_,_,wZ t x id _ n _ e hx ho ha.out hz.out h2,h3⟩
  ·cases h1
 ·rename_i cs' o hx;cases h1;exact⟨_,_,vJ t x _ n _ hx ha.out hz.out h2,h3⟩
 ·cases h1
theorem Mw(x:Operand)(i:Nat)(h:∃cs y,st.op x= .tup cs/\cs[i]? =some y/\K 0 ⟨y,[]⟩):AO P ⟨dst,.extract x i,ty,pos,af,g⟩ nid st K:=by
 obtain⟨cs,y,h1,h2,h3⟩:=h;exact⟨_,_,Ey x i cs y h1 h2,h3⟩
theorem O3(t:TypeId)(x:Operand) [ht:Eo P t](h:∃s,st.op x= .val (.string s)/\K 0 ⟨.val (.int .i64 s.size),[]⟩):AO P ⟨dst,.call ⟨.builtin .len,#[x],#[t]⟩,ty,pos,af,g⟩ nid st K:=by
 obtain⟨s,h1,h2⟩:=h;exact⟨_,_,JY t x s.size (by rw[h1];rfl) (by rw[h1];unfold xy;rw[iL ht.out]),h2⟩
def Bu:AV->Option Nat
 | .isl _ _ n=>some n
 | .sl _ _ n _=>some n
 |_=>none
theorem aib{e:TypeId}(t:TypeId)(x:Operand) [ht:dW P t e](h:∃n,Bu (st.op x)=some n/\K 0 ⟨.val (.int .i64 n),[]⟩):AO P ⟨dst,.call ⟨.builtin .len,#[x],#[t]⟩,ty,pos,af,g⟩ nid st K:=by
 obtain⟨n,h1,h2⟩:=h
 have hu:=bg ht.out
 refine⟨_,_,JY t x n ?_ ?_,h2⟩
 ·revert h1;unfold Bu Ez;split<;>simp_all
 ·revert h1;unfold Bu xy;rw[hu];split<;>simp_all
end
end
section
section
variable {P:Program} {Q:Exit->Nat->St->Prop} {nid:Nat} {st:St} {dst:Option Nat} {ty:TypeId} {pos:String} {af:Array Edge} {g:Option (Nat×Bool)} {K:Nat->Eff->Prop}
theorem eT{zs:List Value}(e:TypeId) [hz:jY P e zs](h:zs.all Value.oneCell'=true/\K 1 ⟨.pt nid 0,[(nid,some (.cells (zs.map ofV) e))]⟩):AO P ⟨dst,.alloc e,ty,pos,af,g⟩ nid st K:=
 ⟨_,_,Ml e zs hz.out h.1,h.2⟩
theorem aic(e:TypeId)(x:Operand)(h:∃cs,(st.op x).parts=some cs/\cs.all AV.scalar=true/\K 1 ⟨.pt nid 0,[(nid,some (.cells cs e))]⟩):AO P ⟨dst,.box e x,ty,pos,af,g⟩ nid st K:=by
 obtain⟨cs,h1,h2,h3⟩:=h;exact⟨_,_,Vo e x cs h1 h2,h3⟩
def wL(cs:List AV)(off:Nat)(vs:List AV):List AV:=match vs with
 |[v]=>cs.set off v
 |vs=>spl cs off vs
theorem Bv(cs:List AV)(off:Nat)(vs:List AV)(h:off+vs.length<=cs.length):wL cs off vs=spl cs off vs:=by
 unfold wL
 split
 ·rw[Vn];simp at h;omega
 ·rfl
theorem VK{n:Nat}(t:TypeId)(x y:Operand) [hz:gJ P t n](h:∃id off cs e vs,st.op x= .pt id off/\st.ob id=some (.cells cs e)/\(st.op y).parts=some vs/\vs.all AV.scalar=true/\vs.length=n/\off+n<=cs.length/\
 K 0 ⟨.any,[(id,some (.cells (wL cs off vs) e))]⟩):AO P ⟨dst,.store t x y,ty,pos,af,g⟩ nid st K:=by
 obtain⟨id,off,cs,e,vs,h1,h2,h3,h4,h5,h6,h7⟩:=h
 rw[Bv _ _ _ omgz] at h7
 exact⟨_,_,Mm t x y id off n cs vs e h1 h2 h3 h4 hz.out h5 h6,h7⟩
theorem VL{zs:List Value} {pl:List (Nat×Nat)}(t:TypeId)(ps:Array (Nat×Operand)) [hz:jY P t zs] [hp:iK P t pl]
 (h:∃out,kC (pl[·]?) (zs.map ofV) (ps.toList.map λp=>(p.1,st.op p.2))=some out/\K 0 ⟨.agg out,[]⟩):AO P ⟨dst,.build t ps,ty,pos,af,g⟩ nid st K:=by
 obtain⟨out,h1,h2⟩:=h;exact⟨_,_,Mo t ps zs pl out hz.out hp.out h1,h2⟩
theorem Cx{e:TypeId} {es:Nat} {zs:List Value}(t:TypeId)(len:Nat)(ps:Array (Nat×Operand)) [he:dW P t e] [hs:gJ P e es] [hz:jY P e zs]
 (h:∃out,kC (λi=>some (i*es,es)) (eO zs len) (ps.toList.map λp=>(p.1,st.op p.2))=some out/\zs.length=es/\zs.all Value.oneCell'=true/\len*es<=16777216/\out.all AV.scalar=true/\out.length=len*es/\
   K 1 ⟨.sl nid 0 len es,[(nid,some (.cells out e))]⟩):AO P ⟨dst,.buildSlice t len ps,ty,pos,af,g⟩ nid st K:=by
 obtain⟨out,h1,h2,h3,h4,h5,h6,h7⟩:=h;exact⟨_,_,yM t len ps e es zs out he.out hs.out hz.out h2 h3 h4 h1 h5 h6,h7⟩
theorem EK{e:TypeId} {es by':Nat} {zs:List Value}(t:TypeId)(l c:Operand) [he:dW P t e] [hs:gJ P e es] [hb:vC P e by'] [hz:jY P e zs]
 (h:∃kl kc n,st.op l= .val (.int kl n)/\st.op c= .val (.int kc n)/\zs.length=es/\zs.all Value.oneCell'=true/\0<=n/\n<=9223372036854775807/\(by':Int)*n<=281474976710656/\
   K 1 ⟨.sl nid 0 n.toNat es,[(nid,some (.cells (eO zs n.toNat) e))]⟩):AO P ⟨dst,.makeSlice t l c,ty,pos,af,g⟩ nid st K:=by
 obtain⟨kl,kc,n,h1,h2,h3,h4,h5,h6,h7,h8⟩:=h
 exact⟨_,_,AR t l c e es by' zs kl kc n he.out hs.out hz.out h3 h4 hb.out h1 h2 h5 h6 h7,h8⟩
theorem He(t:TypeId)(x:Operand)(lo hi:Option Operand) [ht:Eo P t](h:∃s l u,st.op x= .val (.string s)/\bv st 0 lo=some l/\bv st s.size hi=some u/\(0<=l/\l<=u/\u<=s.size)/\K 0 ⟨.val (.string (s.extract l.toNat u.toNat)),[]⟩):
 AO P ⟨dst,.slice t x lo hi none,ty,pos,af,g⟩ nid st K:=by
 obtain⟨s,l,u,h1,h2,h3,⟨h4,h5,h6⟩,h7⟩:=h;exact⟨_,_,AU t x lo hi s l u ht.out h1 h2 h3 h4 h5 h6,h7⟩
theorem O4{e:TypeId} {es:Nat}(t:TypeId)(x:Operand)(lo hi:Option Operand) [ht:dW P t e] [hs:gJ P e es](h:∃z cs len l u,st.op x= .isl z cs len/\bv st 0 lo=some l/\bv st len hi=some u/\(0<=l/\l<=u/\u<=len)/\
 K 0 ⟨.isl z ((cs.drop (l.toNat*es)).take ((u.toNat-l.toNat)*es)) (u.toNat-l.toNat),[]⟩):AO P ⟨dst,.slice t x lo hi none,ty,pos,af,g⟩ nid st K:=by
 obtain⟨z,cs,len,l,u,h1,h2,h3,⟨h4,h5,h6⟩,h7⟩:=h;exact⟨_,_,AX t e x lo hi z cs len es l u ht.out hs.out h1 h2 h3 h4 h5 h6,h7⟩
theorem VM{e:TypeId} {es:Nat}(t:TypeId)(x:Operand)(lo hi:Option Operand) [ht:dW P t e] [hs:gJ P e es](h:∃id off len es' l u,st.op x= .sl id off len es'/\es'=es/\bv st 0 lo=some l/\bv st len hi=some u/\(0<=l/\l<=u/\u<=len)/\
 (l<len\/l=0)/\K 0 ⟨.sl id (off+l.toNat*es) (u.toNat-l.toNat) es,[]⟩):AO P ⟨dst,.slice t x lo hi none,ty,pos,af,g⟩ nid st K:=by
 obtain⟨id,off,len,es',l,u,h1,rfl,h2,h3,⟨h4,h5,h6⟩,h7,h8⟩:=h;exact⟨_,_,Cv t e x lo hi id off len es' l u ht.out hs.out h1 h2 h3 h4 h5 h6 h7,h8⟩
theorem Hf{e:TypeId} {es:Nat}(t:TypeId)(x:Operand)(lo hi:Option Operand) [ht:dW P t e] [hs:gJ P e es](h:∃id off len es' l u,st.op x= .sl id off len es'/\es'=es/\bv st 0 lo=some l/\bv st len hi=some u/\(0<=l/\l=u/\u<=len)/\
 K 0 ⟨.isl false [] 0,[]⟩):AO P ⟨dst,.slice t x lo hi none,ty,pos,af,g⟩ nid st K:=by
 obtain⟨id,off,len,es',l,u,h1,rfl,h2,h3,⟨h4,h5,h6⟩,h7⟩:=h;exact⟨_,_,AY t e x lo hi id off len es' l u ht.out hs.out h1 h2 h3 h4 h5 h6,h7⟩
theorem EL{e:TypeId} {es by':Nat} {zs:List Value}(t:TypeId)(x y:Operand) [he:dW P t e] [hs:gJ P e es] [hb:vC P e by'] [hz:jY P e zs]
 (h:∃cells m,st.op x= .isl true [] 0/\gY st (st.op y)=some (cells,m)/\zs.length=es/\zs.all Value.oneCell'=true/\cells.length=m*es/\0<m/\m*by'<=140737488355328/\m<=9223372036854775807/\K 1 ⟨.sl nid 0 m es,[(nid,some (.cells cells e))]⟩):
 AO P ⟨dst,.call ⟨.builtin .append,#[x,y],#[t,t]⟩,ty,pos,af,g⟩ nid st K:=by
 obtain⟨cells,m,h1,h2,h3,hz1,h4,h5,h6,h7,h8⟩:=h
 exact⟨_,_,yN t x y e es by' m zs cells he.out hs.out hz.out h3 hz1 hb.out h1 h2 h4 h5 h6 h7,h8⟩
theorem O5{e:TypeId} {es by':Nat} {zs:List Value}(t:TypeId)(x y:Operand) [he:dW P t e] [hs:gJ P e es] [hb:vC P e by'] [hz:jY P e zs]
 (h:∃id n cs cells m,st.op x= .sl id 0 n es/\st.ob id=some (.cells cs e)/\gY st (st.op y)=some (cells,m)/\zs.length=es/\zs.all Value.oneCell'=true/\cs.length=n*es/\cells.length=m*es/\(n+m)*by'<=140737488355328/\n+m<=9223372036854775807/\
   K 1 ⟨.sl nid 0 (n+m) es,[(nid,some (.cells (cs++cells) e)),(id,none)]⟩):
 AO P ⟨dst,.call ⟨.builtin .append,#[x,y],#[t,t]⟩,ty,pos,af,g⟩ nid st K:=by
 obtain⟨id,n,cs,cells,m,h1,h2,h3,h4,hz1,h5,h6,h7,h8,h9⟩:=h
 exact⟨_,_,yO t x y e id n es by' m zs cs cells he.out hs.out hz.out h4 hz1 hb.out h1 h2 h5 h3 h6 h7 h8,h9⟩
theorem adc{f:FuncId} {xs:Array Operand} {tys:Array TypeId} {cargs:List AV} {cobjs:List aC} {m:Nat} {r:AV} {cobjs':List aC} [hp:eU P f](hc:ACall P f cargs cobjs m r cobjs')(σ:List Nat)(fz:Bool)
 (hm:m<=cobjs.length/\m<=cobjs'.length/\σ.length=cobjs.length/\σ.Nodup/\(∀i∈σ,i<nid))
 (hob:∀j (h:j<cobjs.length),∃o,st.ob (σ.getD j 0)=some o/\cobjs[j]=toO st σ fz o)
 (hargs:cargs=xs.toList.map λx=>toA st σ fz 8 (st.op x))
 (hfz:fz=true->noImm r/\∀j (h:j<cobjs'.length),l7 cobjs'[j]) (htr:trs cobjs'=trs cobjs)
 (h:K (cobjs'.length-m) ⟨ren (eX σ m nid) r,eP σ m nid cobjs'⟩):AO P ⟨dst,.call ⟨.value (.func f),xs,tys⟩,ty,pos,af,g⟩ nid st K:=
 ⟨_,_,OQ hc σ fz hp.out hm.1 hm.2.1 hm.2.2.1 hm.2.2.2.1 hm.2.2.2.2 hob hargs hfz htr,h⟩
end
end
section
structure Sd where
 i:Nat
 anc:List Nat
 ud:List Nat
 f:List Nat
 md:List Nat
 k:Nat
structure DI where
 o:Oper
 s:Sd
 e:Eff
def bi(M:Nat->Bool):Nat->List DI->St->St
 |_,[],st=>st
 |j,x::l,st=>bi M (j+1) l (if M j then st.app x.o.dst x.e else st)
structure Eqv(a b:St):Prop where
 n:a.n=b.n
 m:a.m=b.m
 ev:∀t,a.ev t=b.ev t
 ob:∀t,a.ob t=b.ob t
theorem Eqv.refl(a:St):Eqv a a:=⟨rfl,rfl,λ_=>rfl,λ_=>rfl⟩
theorem Eqv.trans{a b c:St}(h:Eqv a b)(k:Eqv b c):Eqv a c:=⟨h.n.trans k.n,h.m.trans k.m,λt=>(h.ev t).trans (k.ev t),λt=>(h.ob t).trans (k.ob t)⟩
theorem Eqv.symm{a b:St}(h:Eqv a b):Eqv b a:=⟨h.n.symm,h.m.symm,λt=>(h.ev t).symm,λt=>(h.ob t).symm⟩
theorem St.app_n(st:St)(d:Option Nat)(e:Eff):(st.app d e).n=st.n:=by unfold St.app St.put;split<;>rfl
theorem St.app_m(st:St)(d:Option Nat)(e:Eff):(st.app d e).m=st.m:=by unfold St.app St.put;split<;>rfl
theorem St.ev_app(st:St)(d:Option Nat)(e:Eff)(t:Nat):(st.app d e).ev t=if d=some t then e.v else st.ev t:=by
 cases d with
 |none=>simp[St.app,St.put,St.ev]
 |some d=>
  simp only[St.app,St.put,St.ev,aQ,Option.some.injEq]
  by_cases h:t=d
  ·subst h;simp
  ·rw[if_neg h,if_neg (Ne.symm h)]
theorem Eqv.app{a b:St}(h:Eqv a b)(d:Option Nat)(e:Eff):Eqv (a.app d e) (b.app d e):=
 ⟨by rw[St.app_n,St.app_n,h.n],by rw[St.app_m,St.app_m,h.m],λt=>by rw[St.ev_app,St.ev_app,h.ev],λt=>by rw[St.ob_app,St.ob_app,h.ob]⟩
theorem Eqv.fold{M:Nat->Bool}(l:List DI):∀(j:Nat) {a b:St},Eqv a b->Eqv (bi M j l a) (bi M j l b):=by
 induction l with
 |nil=>intro j a b h;exact h
 |cons x l ih=>
  intro j a b h
  simp only[bi]
  refine ih _ ?_
  split
  ·exact h.app _ _
  ·exact h
theorem O6{st:St} {d d':Option Nat} {e e':Eff}(h1:∀t,d=some t->d'≠some t)(h2:∀i,i∈e.keys->i ∉ e'.keys):Eqv ((st.app d e).app d' e') ((st.app d' e').app d e):=by
 refine⟨by simp[St.app_n],by simp[St.app_m],λt=>?_,λt=>?_⟩
 ·simp only[St.ev_app]
  by_cases a:d=some t
  ·have b:¬d'=some t:=h1 t a
   rw[if_neg b,if_pos a,if_pos a]
  ·by_cases b:d'=some t
   ·rw[if_pos b,if_neg a,if_pos b]
   ·rw[if_neg b,if_neg a,if_neg a,if_neg b]
 ·simp only[St.ob_app]
  by_cases a:t∈e.keys
  ·rw[if_pos a,if_neg (h2 t a),if_pos a]
  ·by_cases b:t∈e'.keys
   ·rw[if_pos b,if_neg a,if_pos b]
   ·rw[if_neg b,if_neg a,if_neg a,if_neg b]
theorem Sim.eqv{c:Ctx} {ρ:Rho} {D J:Nat->Prop} {a b:St} {x:Act} {w:World}(h:Eqv a b)(hs:Sim c ρ D J a x w):Sim c ρ D J b x w:=
 ⟨hs.defers,by rw[hs.tmps,h.n],λt=>by rw[<-h.ev];exact hs.env t,λid o ho=>hs.obj id o (by rw[h.ob];exact ho),
   λid id' o o' b s s' h1 h2=>hs.inj id id' o o' b s s' (by rw[h.ob];exact h1) (by rw[h.ob];exact h2),hs.dom,hs.jok,hs.jlt,hs.ilt,by rw[<-h.m];exact hs.pin,hs.kept,by rw[show b.ob=a.ob from funext λid=>(h.ob id).symm];exact hs.hid,hs.laid⟩
theorem O7{M:Nat->Bool}(l:List DI):∀(j:Nat) (st:St) (d:Option Nat) (e:Eff),
 (∀i x,l[i]? =some x->M (j+i)=true->(∀t,d=some t->x.o.dst≠some t)/\∀k,k∈e.keys->k ∉ x.e.keys)->Eqv (bi M j l (st.app d e)) ((bi M j l st).app d e):=by
 induction l with
 |nil=>intro j st d e _;exact Eqv.refl _
 |cons x l ih=>
  intro j st d e h
  simp only[bi]
  have hrest:∀i y,l[i]? =some y->M (j+1+i)=true->(∀t,d=some t->y.o.dst≠some t)/\∀k,k∈e.keys->k ∉ y.e.keys:=λi y hi hm=>
   h (i+1) y (by simpa using hi) (by rw[show j+(i+1)=j+1+i by omega];exact hm)
  by_cases hM:M j=true
  ·simp only[hM,if_true]
   obtain⟨h1,h2⟩:=h 0 x rfl (by simpa using hM)
   exact(Eqv.fold l _ (O6 h1 h2)).trans (ih _ _ _ _ hrest)
  ·simp only[hM,if_false,Bool.false_eq_true]
   exact ih _ _ _ _ hrest
theorem O8{M M':Nat->Bool} {i:Nat}(hM:M i=false)(hM':M' i=true)(ho:∀j,j≠i->M' j=M j)(l:List DI):∀(j p:Nat) (st:St) (x:DI),j+p=i->l[p]? =some x->
 (∀q y,l[q]? =some y->p<q->M (j+q)=true->(∀t,x.o.dst=some t->y.o.dst≠some t)/\∀k,k∈x.e.keys->k ∉ y.e.keys)->
 Eqv (bi M' j l st) ((bi M j l st).app x.o.dst x.e):=by
 induction l with
 |nil=>intro j p st x _ h;simp at h
 |cons y l ih=>
  intro j p st x hjp hx h
  simp only[bi]
  cases p with
  |zero=>
   have hj:j=i:=by omega
   subst hj
   simp only[List.getElem?_cons_zero,Option.some.injEq] at hx
   subst hx
   rw[hM,hM']
   simp only[if_true,Bool.false_eq_true,if_false]
   have e1:∀(l:List DI) (k:Nat) (s:St),j<k->bi M' k l s=bi M k l s:=by
    intro l
    induction l with
    |nil=>intro k s _;rfl
    |cons z l ih2=>intro k s hk;simp only[bi,ho k omgz];exact ih2 _ _ omgz
   rw[e1 l (j+1) _ omgz]
   exact O7 l (j+1) st _ _ (λq z hz hm=>h (q+1) z (by simpa using hz) omgz (by rw[show j+(q+1)=j+1+q by omega];exact hm))
  |succ p=>
   have hj:j≠i:=by omega
   rw[ho j hj]
   exact ih (j+1) p _ x omgz (by simpa using hx) (λq z hz hlt hm=>h (q+1) z (by simpa using hz) omgz (by rw[show j+(q+1)=j+1+q by omega];exact hm))
def pq(ud:List Nat)(env:List (Nat×AV)):List (Nat×AV):=ud.map (λt=>(t,.any))++env
def sG(nid:Nat):List (Nat×Option aC)->List (Nat×Option aC)
 |[]=>[]
 |(i,o)::l=>if i<nid then(i,o)::sG nid l else sG nid l
def O9(f nid0:Nat)(objs:List (Nat×Option aC)):List (Nat×Option aC):=if f=2 then [] else if f=1 then sG nid0 objs else if 3<=f then(f-3,none)::objs else objs
def mQ:List Nat->Nat->List (Nat×Option aC)->List (Nat×Option aC)
 |[],_,objs=>objs
 |a::f,nid0,objs=>O9 a nid0 (mQ f nid0 objs)
theorem EM(nid0:Nat)(objs:List (Nat×Option aC)):mQ [] nid0 objs=objs:=rfl
theorem Cy(a:Nat)(f:List Nat)(nid0:Nat)(objs:List (Nat×Option aC)):mQ (a::f) nid0 objs=O9 a nid0 (mQ f nid0 objs):=rfl
def red(nid0:Nat)(st0:St)(done:List DI)(s:Sd):St:=
 ⟨st0.n,st0.m,pq s.ud (bi (λj=>s.anc.contains j) 0 done st0).env,mQ s.f nid0 (bi (λj=>s.anc.contains j) 0 done st0).objs⟩
theorem EN(nid:Nat)(l:List (Nat×Option aC))(t:Nat):aQ (sG nid l) t=if t<nid then aQ l t else none:=by
 induction l with
 |nil=>simp[sG,aQ]
 |cons x l ih=>
  obtain⟨i,o⟩:=x
  simp only[sG]
  split
  ·simp only[aQ,ih]
   split
   ·rename_i h1 h2;subst h2;rw[if_pos h1]
   ·rfl
  ·rw[ih];simp only[aQ]
   split
   ·rename_i h1 h2
    by_cases h3:t=i
    ·omega
    ·rw[if_neg h3]
   ·rfl
theorem Mx(ud:List Nat)(env:List (Nat×AV))(t:Nat):(aQ (pq ud env) t).getD .any=if t∈ud then .any else(aQ env t).getD .any:=by
 induction ud with
 |nil=>simp[pq]
 |cons u ud ih=>
  simp only[pq,List.map_cons,List.cons_append,aQ]
  by_cases h:t=u
  ·subst h;simp
  ·rw[if_neg h]
   simp only[pq] at ih
   rw[ih];simp[h]
def vK(l:List (Oper×Sd))(i:Nat):List Nat:=((l[i]?).map (·.2.anc)).getD []
def EO(l:List (Oper×Sd))(i:Nat):Option Nat:=(l[i]?).bind (·.1.dst)
def dMd(l:List (Oper×Sd))(i:Nat):List Nat:=((l[i]?).map (·.2.md)).getD []
def J6(l:List (Oper×Sd))(i j:Nat):Bool:=i !=j&& !(vK l i).contains j&& !(vK l j).contains i
def Pb(ud:List Nat):Option Nat->Bool
 |some d=>ud.contains d
 |none=>true
def Hg(l:List (Oper×Sd))(n i:Nat):Bool:=
 match l[i]? with
 |none=>true
 |some (o,s)=>
  (o.after.all λe=> !Region.binds .any e||decide (e.on<i))&&
  (s.anc.all λj=>decide (j<i)&&((vK l j).all λa=>s.anc.contains a)&&o.after.any λe=>Region.binds .any e&&(e.on==j||(vK l e.on).contains j))&&
  lu n o.dst&&
  (List.range l.length).all λj=>
    (i==j||o.dst.isNone||o.dst !=EO l j)&&
    (!J6 l i j||
      (Pb s.ud (EO l j)&&(s.md.isEmpty||(dMd l j).all λc=>Nat.ble 3 c&&s.md.all λc'=>Nat.ble 3 c'&&c' !=c)&&
        (s.f.contains 2||(dMd l j).all λc=>s.f.contains c)))
def yV(l:List (Oper×Sd))(n:Nat):Bool:=(List.range l.length).all (Hg l n)
def Hl:Option aC->Bool
 |none=>true
 |some (.cells _ _)=>true
 |some (.map _ _ _)=>true
 |some (.full _ _)=>true
 |some (.tr _ _)=>false
def nK(nid k nid0:Nat)(md:List Nat)(objs:List (Nat×Option aC)):List (Nat×Option aC)->Prop
 |[]=>True
 |(i,o)::l=>Hl o=true/\((nid<=i/\i<nid+k)\/((aQ objs i).join.isSome=true/\(2∈md\/1∈md/\nid0<=i\/3+i∈md)))/\nK nid k nid0 md objs l
theorem Hm{nid k nid0:Nat} {md:List Nat} {objs:List (Nat×Option aC)} {u:List (Nat×Option aC)}(h:nK nid k nid0 md objs u):∀i∈u.map (·.1),(nid<=i/\i<nid+k)\/((aQ objs i).join.isSome=true/\(2∈md\/1∈md/\nid0<=i\/3+i∈md)):=by
 induction u with
 |nil=>intro i hi;cases hi
 |cons x u ih=>
  obtain⟨j,o⟩:=x
  intro i hi
  simp only[List.map_cons,List.mem_cons] at hi
  rcases hi with rfl|hi
  ·exact h.2.1
  ·exact ih h.2.2 i hi
def dL(nid0:Nat)(done:List DI):Nat:=nid0+(done.map (·.s.k)).sum
def inN:List Nat->Nat->Bool
 |[],_=>false
 |a::l,i=>a==i||inN l i
def j6(κ:List Nat):List (Nat×Option aC)->List (Nat×Option aC)
 |[]=>[]
 |(i,o)::l=>if inN κ i=true then j6 κ l else(i,o)::j6 κ l
def om(objs:List (Nat×Option aC))(κ:List Nat):List (Nat×Option aC)->Prop
 |[]=>True
 |(i,o)::l=>Hl o=true/\(inN κ i=false\/(aQ objs i).join=o/\o.isSome=true)/\om objs κ l
theorem qM:∀u:List (Nat×Option aC),j6 [] u=u
 |[]=>rfl
 |(i,o)::l=>by simp[j6,inN,qM l]
theorem yY{nid k nid0:Nat} {md:List Nat} {objs:List (Nat×Option aC)}:∀{u:List (Nat×Option aC)},nK nid k nid0 md objs u->om objs [] u
 |[],_=>trivial
 |(i,o)::l,h=>⟨h.1,.inl rfl,yY h.2.2⟩
theorem MB{objs:List (Nat×Option aC)} {κ:List Nat} {u:List (Nat×Option aC)}(h:om objs κ u):¬vE u:=by
 induction u with
 |nil=>exact lX
 |cons x u ih=>
  obtain⟨j,o⟩:=x
  cases o with
  |none=>exact lY (ih h.2.2)
  |some o=>exact qG (by have:=h.1;cases o<;>first|rfl|cases this) (ih h.2.2)
theorem vL{κ:List Nat} {i:Nat}(hi:inN κ i=false):∀u:List (Nat×Option aC),aQ (j6 κ u) i=aQ u i
 |[]=>rfl
 |(j,o)::l=>by
  simp only[j6]
  split
  ·rename_i h
   have:¬i=j:=λe=>by subst e;rw[hi] at h;cases h
   rw[vL hi l];simp only[aQ];rw[if_neg this]
  ·simp only[aQ];rw[vL hi l]
theorem oo{κ:List Nat} {i:Nat}(hi:inN κ i=true):∀u:List (Nat×Option aC),aQ (j6 κ u) i=none
 |[]=>rfl
 |(j,o)::l=>by
  simp only[j6]
  split
  ·exact oo hi l
  ·rename_i h
   have:¬i=j:=λe=>by subst e;exact h hi
   simp only[aQ];rw[if_neg this];exact oo hi l
theorem wM{objs:List (Nat×Option aC)} {κ:List Nat} {i:Nat} {o:Option aC}(hi:inN κ i=true):∀{u:List (Nat×Option aC)},om objs κ u->aQ u i=some o->(aQ objs i).join=o/\o.isSome=true
 |[],_,h=>by cases h
 |(j,o')::l,hd,h=>by
  simp only[aQ] at h
  split at h
  ·rename_i e
   subst e
   cases h
   rcases hd.2.1 with h|h
   ·rw[hi] at h;cases h
   ·exact h
  ·exact wM hi hd.2.2 h
def OpB(P:Program)(o:Oper)(nid k:Nat)(st:St)(e:Eff):Prop:=∃κ eR,OpT P o nid k st eR/\e=⟨eR.v,j6 κ eR.upd⟩/\om st.objs κ eR.upd
theorem OpB.of{P:Program} {o:Oper} {nid k:Nat} {st:St} {e:Eff}(hd:om st.objs [] e.upd)(h:OpT P o nid k st e):OpB P o nid k st e:=
 ⟨[],e,h,by rw[qM],hd⟩
theorem Eqv.filt{st:St} {κ:List Nat} {e:Eff}(d:Option Nat)(h:∀i o,inN κ i=true->aQ e.upd i=some o->st.ob i=o/\o.isSome=true):Eqv (st.app d e) (st.app d ⟨e.v,j6 κ e.upd⟩):=by
 refine⟨by rw[St.app_n,St.app_n],by rw[St.app_m,St.app_m],λt=>by rw[St.ev_app,St.ev_app],λt=>?_⟩
 have h0:∀u,(st.app d ⟨e.v,u⟩).ob t=((aQ u t).or (aQ st.objs t)).join:=λu=>by
  have:(st.put d e.v).objs=st.objs:=by unfold St.put;split<;>rfl
  show(aQ (u++st.objs) t).join=_
  rw[wI]
 have h1:=h0 e.upd
 have h2:=h0 (j6 κ e.upd)
 rw[h2]
 refine h1.trans ?_
 cases hi:inN κ t with
 |false=>rw[vL hi]
 |true=>
  rw[oo hi]
  cases hl:aQ e.upd t with
  |none=>rfl
  |some o=>
   have:=(h t o hi hl).1
   show o=(aQ st.objs t).join
   exact this.symm
def Bw(P:Program)(ops:Array Oper)(nid0:Nat)(st0:St)(done:List DI)(o:Oper)(s:Sd)(e:Eff):Prop:=
 nK (dL nid0 done) s.k nid0 s.md (red nid0 st0 done s).objs e.upd/\
 match o.guard with
 |none=>OpB P o (dL nid0 done) s.k (red nid0 st0 done s) e
 |some (j,b)=>∃t,rM ops j=some t/\t<st0.n/\((∃b',(red nid0 st0 done s).ev t= .val (.bool b')/\((b'=b/\OpB P o (dL nid0 done) s.k (red nid0 st0 done s) e)\/(b'≠b/\e=⟨noV,[]⟩)))\/((red nid0 st0 done s).ev t=noV/\e=⟨noV,[]⟩))
def DGo(P:Program)(ops:Array Oper)(nid0:Nat)(st0:St)(fin:List DI->Prop):List DI->List (Oper×Sd)->Prop
 |done,[]=>fin done
 |done,(o,s)::rest=>∃e,Bw P ops nid0 st0 done o s e/\DGo P ops nid0 st0 fin (done++[⟨o,s,e⟩]) rest
theorem VN{P:Program} {ops:Array Oper} {nid0:Nat} {st0:St} {fin:List DI->Prop}(rest:List (Oper×Sd)):∀(done:List DI),DGo P ops nid0 st0 fin done rest->
 ∃more:List DI,fin (done++more)/\more.map (λx=>(x.o,x.s))=rest/\∀i x,more[i]? =some x->Bw P ops nid0 st0 (done++more.take i) x.o x.s x.e:=by
 induction rest with
 |nil=>intro done h;exact⟨[],by simpa[DGo] using h,rfl,λi x hx=>by simp at hx⟩
 |cons p rest ih=>
  obtain⟨o,s⟩:=p
  intro done h
  obtain⟨e,h1,h2⟩:=h
  obtain⟨more,k1,k2,k3⟩:=ih _ h2
  refine⟨⟨o,s,e⟩::more,by simpa using k1,by simp[k2],λi x hx=>?_⟩
  cases i with
  |zero=>simp at hx;subst hx;simpa using h1
  |succ i=>have:=k3 i x (by simpa using hx);simpa using this
theorem Pd(M:Nat->Bool)(l:List DI):∀(j:Nat) (st:St),(bi M j l st).n=st.n/\(bi M j l st).m=st.m:=by
 induction l with
 |nil=>intro j st;exact⟨rfl,rfl⟩
 |cons x l ih=>intro j st;simp only[bi];obtain⟨h1,h2⟩:=ih (j+1) (if M j then st.app x.o.dst x.e else st);rw[h1,h2];split<;>simp[St.app_n,St.app_m]
theorem Ho{M M':Nat->Bool}(l:List DI):∀(j:Nat) (st:St),(∀i,i<l.length->M (j+i)=M' (j+i))->bi M j l st=bi M' j l st:=by
 induction l with
 |nil=>intro j st _;rfl
 |cons x l ih=>
  intro j st h
  simp only[bi]
  rw[show M j=M' j from by simpa using h 0 (by simp)]
  exact ih _ _ (λi hi=>by have:=h (i+1) (by simpa using hi);rwa [show j+(i+1)=j+1+i by omega] at this)
theorem oq{M:Nat->Bool} {t:Nat}(l:List DI):∀(j:Nat) (st:St),(∀i x,l[i]? =some x->M (j+i)=true->x.o.dst≠some t)->(bi M j l st).ev t=st.ev t:=by
 induction l with
 |nil=>intro j st _;rfl
 |cons x l ih=>
  intro j st h
  simp only[bi]
  rw[ih _ _ (λi y hi hm=>h (i+1) y (by simpa using hi) (by rw[show j+(i+1)=j+1+i by omega];exact hm))]
  split
  ·rename_i hM;rw[St.ev_app,if_neg (h 0 x rfl (by simpa using hM))]
  ·rfl
theorem uf{M:Nat->Bool} {t:Nat}(l:List DI):∀(j p:Nat) (st:St) (x:DI),l[p]? =some x->M (j+p)=true->x.o.dst=some t->(∀i y,l[i]? =some y->i≠p->y.o.dst≠some t)->(bi M j l st).ev t=x.e.v:=by
 induction l with
 |nil=>intro j p st x h;simp at h
 |cons y l ih=>
  intro j p st x hx hM hd h
  simp only[bi]
  cases p with
  |zero=>
   simp only[List.getElem?_cons_zero,Option.some.injEq] at hx;subst hx
   rw[oq l _ _ (λi z hi _=>h (i+1) z (by simpa using hi) omgz)]
   rw[if_pos (by simpa using hM),St.ev_app,if_pos hd]
  |succ p=>
   exact ih (j+1) p _ x (by simpa using hx) (by rw[show j+1+p=j+(p+1) by omega];exact hM) hd (λi z hi hne=>h (i+1) z (by simpa using hi) omgz)
theorem Cz{M M':Nat->Bool} {id:Nat}(l:List DI):∀(j:Nat) (a b:St),a.ob id=b.ob id->(∀i x,l[i]? =some x->M' (j+i)=true->M (j+i)=true)->(∀i x,l[i]? =some x->M (j+i)=true->M' (j+i)=false->id ∉ x.e.keys)->(bi M j l a).ob id=(bi M' j l b).ob id:=by
 induction l with
 |nil=>intro j a b h _ _;exact h
 |cons x l ih=>
  intro j a b h h1 h2
  simp only[bi]
  refine ih (j+1) _ _ ?_ (λi y hi hm=>by have:=h1 (i+1) y (by simpa using hi);rw[show j+(i+1)=j+1+i by omega] at this;exact this hm) (λi y hi hm hm'=>by
   have:=h2 (i+1) y (by simpa using hi);rw[show j+(i+1)=j+1+i by omega] at this;exact this hm hm')
  cases hM':M' j with
  |true=>
   have hM:=h1 0 x rfl (by simpa using hM')
   simp only[Nat.add_zero] at hM
   simp only[hM,if_true,St.ob_app];rw[h]
  |false=>
   cases hM:M j with
   |true=>simp only[if_true,Bool.false_eq_true,if_false,St.ob_app];rw[if_neg (h2 0 x rfl (by simpa using hM) (by simpa using hM'))];exact h
   |false=>simpa using h
theorem CE{M:Nat->Bool} {id:Nat} {o:aC}(l:List DI):∀(j:Nat) (st:St),(bi M j l st).ob id=some o->st.ob id=some o\/∃i x,l[i]? =some x/\M (j+i)=true/\id∈x.e.keys:=by
 induction l with
 |nil=>intro j st h;exact .inl h
 |cons x l ih=>
  intro j st h
  simp only[bi] at h
  rcases ih _ _ h with h|⟨i,y,h1,h2,h3⟩
  ·split at h
   ·rename_i hM
    by_cases hk:id∈x.e.keys
    ·exact .inr ⟨0,x,rfl,by simpa using hM,hk⟩
    ·rw[St.ob_app,if_neg hk] at h;exact .inl h
   ·exact .inl h
  ·exact .inr ⟨i+1,y,by simpa using h1,by rw[show j+(i+1)=j+1+i by omega];exact h2,h3⟩
theorem yZ(nid0:Nat)(its:List DI){i j:Nat}(hij:i<j){x:DI}(hx:its[i]? =some x):dL nid0 (its.take i)+x.s.k<=dL nid0 (its.take j):=by
 unfold dL
 have hlt:=(List.getElem?_eq_some_iff.1 hx).1
 have h1:its.take j=its.take i++(x::(its.take j).drop (i+1)):=by
  have e:(its.take j).take i=its.take i:=by rw[List.take_take,Nat.min_eq_left omgz]
  have hxj:(its.take j)[i]? =some x:=by rw[List.getElem?_take_of_lt hij];exact hx
  obtain⟨hl,he⟩:=List.getElem?_eq_some_iff.1 hxj
  conv=>lhs;rw[<-List.take_append_drop i (its.take j)]
  rw[e,List.drop_eq_getElem_cons hl,he]
 rw[h1]
 simp only[List.map_append,List.map_cons,List.sum_append,List.sum_cons]
 omega
structure tq(nid0:Nat)(st0:St)(its:List DI):Prop where
 down:∀(i:Nat) (x:DI),its[i]? =some x->∀e∈x.o.after,Region.binds .any e=true->e.on<i
 anc:∀(i:Nat) (x:DI),its[i]? =some x->∀j∈x.s.anc,j<i/\(∃e∈x.o.after,Region.binds .any e=true/\(e.on=j\/∃y:DI,its[e.on]? =some y/\j∈y.s.anc))/\∀y:DI,its[j]? =some y->∀a∈y.s.anc,a∈x.s.anc
 dst:∀(i:Nat) (x:DI),its[i]? =some x->∀d,x.o.dst=some d->d<st0.n
 uniq:∀(i j:Nat) (x y:DI),its[i]? =some x->its[j]? =some y->i≠j->∀t,x.o.dst=some t->y.o.dst≠some t
 un:∀(i j:Nat) (x y:DI),its[i]? =some x->its[j]? =some y->i≠j->j ∉ x.s.anc->i ∉ y.s.anc->(∀d,y.o.dst=some d->d∈x.s.ud)/\(x.s.md=[]\/∀c∈y.s.md,3<=c/\∀c'∈x.s.md,3<=c'/\c'≠c)/\(2∈x.s.f\/∀c∈y.s.md,c∈x.s.f)
 base:∀id o,st0.ob id=some o->id<nid0
 keys:∀(i:Nat) (x:DI),its[i]? =some x->∀id∈x.e.keys,(dL nid0 (its.take i)<=id/\id<dL nid0 (its.take i)+x.s.k)\/((∃o,(red nid0 st0 (its.take i) x.s).ob id=some o)/\(2∈x.s.md\/1∈x.s.md/\nid0<=id\/3+id∈x.s.md))
section
variable {nid0:Nat} {st0:St} {its:List DI}
theorem VO{a id:Nat} {objs:List (Nat×Option aC)} {o:aC}(h:(aQ (O9 a nid0 objs) id).join=some o):a≠2/\(a=1->id<nid0)/\a≠3+id/\(aQ objs id).join=some o:=by
 unfold O9 at h
 split at h
 ·simp[aQ] at h
 ·rename_i h2
  split at h
  ·rename_i h1
   rw[EN] at h
   split at h
   ·rename_i hlt;exact⟨h2,λ_=>hlt,omgz,h⟩
   ·simp at h
  ·rename_i h1
   split at h
   ·rename_i h3
    simp only[aQ] at h
    split at h
    ·simp at h
    ·rename_i h4;exact⟨h2,λhh=>absurd hh h1,omgz,h⟩
   ·rename_i h3;exact⟨h2,λhh=>absurd hh h1,omgz,h⟩
theorem Hq{id:Nat} {o:aC}(f:List Nat)(objs:List (Nat×Option aC))(h:(aQ (mQ f nid0 objs) id).join=some o):2 ∉ f/\(1∈f->id<nid0)/\3+id ∉ f/\(aQ objs id).join=some o:=by
 induction f with
 |nil=>exact⟨by simp,by simp,by simp,h⟩
 |cons a f ih=>
  obtain⟨h1,h2,h3,h4⟩:=VO h
  obtain⟨g1,g2,g3,g4⟩:=ih h4
  refine⟨?_,?_,?_,g4⟩
  ·intro hc;rcases List.mem_cons.1 hc with hc|hc
   ·exact h1 hc.symm
   ·exact g1 hc
  ·intro hc;rcases List.mem_cons.1 hc with hc|hc
   ·exact h2 hc.symm
   ·exact g2 hc
  ·intro hc;rcases List.mem_cons.1 hc with hc|hc
   ·exact h3 hc.symm
   ·exact g3 hc
theorem Pe{i:Nat} {s:Sd} {id:Nat} {o:aC}(h:(red nid0 st0 (its.take i) s).ob id=some o):2 ∉ s.f/\(1∈s.f->id<nid0)/\(bi (λj=>s.anc.contains j) 0 (its.take i) st0).ob id=some o/\3+id ∉ s.f:=by
 obtain⟨h1,h2,h3,h4⟩:=Hq s.f _ h
 exact⟨h1,h2,h4,h3⟩
theorem tq.new(F:tq nid0 st0 its):∀(i:Nat) (x:DI),its[i]? =some x->∀id o,(red nid0 st0 (its.take i) x.s).ob id=some o->id<nid0\/∃(b:Nat) (y:DI),b∈x.s.anc/\its[b]? =some y/\dL nid0 (its.take b)<=id/\id<dL nid0 (its.take b)+y.s.k:=by
 intro i
 induction i using Nat.strongRecOn with
 |_ i ih=>
  intro x hx id o ho
  obtain⟨_,_,ho,_⟩:=Pe ho
  rcases CE _ _ _ ho with h|⟨b,y,h1,h2,h3⟩
  ·exact .inl (F.base _ _ h)
  ·simp only[Nat.zero_add,List.contains_iff_mem] at h2
   have hb:=(F.anc i x hx b h2).1
   have hy:its[b]? =some y:=by rw[List.getElem?_take_of_lt hb] at h1;exact h1
   rcases F.keys b y hy id h3 with hk|⟨⟨o',hk⟩,_⟩
   ·exact .inr ⟨b,y,h2,hy,hk⟩
   ·rcases ih b hb y hy id o' hk with hlt|⟨b',y',g1,g2,g3⟩
    ·exact .inl hlt
    ·exact .inr ⟨b',y',(F.anc i x hx b h2).2.2 y hy b' g1,g2,g3⟩
theorem ug{i j:Nat} {x y:DI}(hx:its[i]? =some x)(hy:its[j]? =some y){id:Nat}(h1:dL nid0 (its.take i)<=id/\id<dL nid0 (its.take i)+x.s.k)(h2:dL nid0 (its.take j)<=id/\id<dL nid0 (its.take j)+y.s.k):i=j:=by
 rcases Nat.lt_trichotomy i j with h|h|h
 ·have:=yZ nid0 its h hx;omega
 ·exact h
 ·have:=yZ nid0 its h hy;omega
theorem tq.sees(F:tq nid0 st0 its){M:Nat->Bool}(hcl:∀(j:Nat) (y:DI),its[j]? =some y->M j=true->∀a∈y.s.anc,M a=true){i:Nat} {x:DI}(hx:its[i]? =some x)(hi:M i=false)(ha:∀a∈x.s.anc,M a=true):
 (∀t,(red nid0 st0 (its.take i) x.s).ev t= .any\/(red nid0 st0 (its.take i) x.s).ev t=(bi M 0 its st0).ev t)/\
 (∀id o,(red nid0 st0 (its.take i) x.s).ob id=some o->(bi M 0 its st0).ob id=some o):=by
 have hext:bi (λj=>x.s.anc.contains j) 0 its st0=bi (λj=>x.s.anc.contains j) 0 (its.take i) st0:=by
  have key:∀(l1 l2:List DI) (j:Nat) (st:St),(∀q,q<l2.length->x.s.anc.contains (j+l1.length+q)=false)->bi (λj=>x.s.anc.contains j) j (l1++l2) st=bi (λj=>x.s.anc.contains j) j l1 st:=by
   intro l1
   induction l1 with
   |nil=>
    intro l2
    induction l2 with
    |nil=>intro j st _;rfl
    |cons z l2 ih2=>
     intro j st h
     have h0:=h 0 (by simp)
     simp only[List.length_nil,Nat.add_zero] at h0
     simp only[List.nil_append,bi,h0,Bool.false_eq_true,if_false]
     have:=ih2 (j+1) st (λq hq=>by have:=h (q+1) (by simpa using hq);simpa[Nat.add_assoc,Nat.add_comm 1 q] using this)
     simpa[bi] using this
   |cons z l1 ih=>intro l2 j st h;simp only[List.cons_append,bi];exact ih l2 (j+1) _ (λq hq=>by have:=h q hq;simpa[Nat.add_assoc,Nat.add_comm 1] using this)
  conv=>lhs;rw[<-List.take_append_drop i its]
  refine key _ _ 0 st0 (λq _=>?_)
  have hil:=(List.getElem?_eq_some_iff.1 hx).1
  simp only[Nat.zero_add,List.length_take,Nat.min_eq_left (Nat.le_of_lt hil)]
  refine Bool.eq_false_iff.2 (λhc=>?_)
  have:=(F.anc i x hx _ (by simpa using hc)).1
  omega
 have hun:∀(q:Nat) (y:DI),its[q]? =some y->M q=true->q ∉ x.s.anc->i≠q/\i ∉ y.s.anc:=by
  intro q y hq hM hna
  refine⟨λe=>?_,λhd=>?_⟩
  ·subst e;rw[hi] at hM;cases hM
  ·have:=hcl q y hq hM i hd;rw[hi] at this;cases this
 refine⟨λt=>?_,λid o ho=>?_⟩
 ·unfold red
  simp only[St.ev]
  rw[Mx]
  by_cases htu:t∈x.s.ud
  ·rw[if_pos htu];exact .inl rfl
  ·rw[if_neg htu]
   right
   change (bi (λj=>x.s.anc.contains j) 0 (its.take i) st0).ev t=(bi M 0 its st0).ev t
   rw[<-hext]
   by_cases hw:∃(p:Nat) (y:DI),its[p]? =some y/\p∈x.s.anc/\y.o.dst=some t
   ·obtain⟨p,y,h1,h2,h3⟩:=hw
    rw[uf its 0 p st0 y h1 (by simpa using h2) h3 (λq z hq hne=>by
     intro hz;exact F.uniq p q y z h1 hq (Ne.symm hne) t h3 hz)]
    rw[uf its 0 p st0 y h1 (by simpa using ha p h2) h3 (λq z hq hne=>by
     intro hz;exact F.uniq p q y z h1 hq (Ne.symm hne) t h3 hz)]
   ·rw[oq its 0 st0 (λq z hq hM hz=>hw ⟨q,z,hq,by simpa using hM,hz⟩)]
    rw[oq its 0 st0 (λq z hq hM hz=>by
     simp only[Nat.zero_add] at hM
     by_cases hqa:q∈x.s.anc
     ·exact hw ⟨q,z,hq,hqa,hz⟩
     ·obtain⟨h1,h2⟩:=hun q z hq hM hqa
      exact htu ((F.un i q x z hx hq h1 hqa h2).1 t hz))]
 ·obtain⟨hf2,hf1,hob,hf3⟩:=Pe ho
  rw[<-hext] at hob
  rw[<-hob]
  refine Cz its 0 st0 st0 rfl (λq y hq hA=>?_) (λq y hq hM hA hk=>?_)
  ·simp only[Nat.zero_add,List.contains_iff_mem] at hA⊢;exact ha q hA
  ·simp only[Nat.zero_add] at hM hA
   have hqa:q ∉ x.s.anc:=by simpa using hA
   obtain⟨h1,h2⟩:=hun q y hq hM hqa
   obtain⟨_,_,h3⟩:=F.un i q x y hx hq h1 hqa h2
   rcases F.keys q y hq id hk with hk|⟨⟨o',hk⟩,hmd⟩
   ·have hge:nid0<=id:=by have:nid0<=dL nid0 (its.take q):=by unfold dL;omega
                          omega
    rcases F.new i x hx id o ho with hlt|⟨b,z,g1,g2,g3⟩
    ·omega
    ·have:=ug hq g2 hk g3
     exact hqa (this▸g1)
   ·rcases h3 with h3|h3
    ·exact hf2 h3
    ·rcases hmd with hmd|⟨hmd,hge⟩|hmd
     ·exact hf2 (h3 _ hmd)
     ·have:=hf1 (h3 _ hmd);omega
     ·exact hf3 (h3 _ hmd)
theorem Sim.drew{c:Ctx} {ρ:Rho} {D J:Nat->Prop} {st:St} {a:Act} {w:World}(h:Sim c ρ D J st a w)(k:Nat):Sim c ρ D J st a {w with drawn:=k}:=by
 have hr:∀{v x} {ρ:Rho},Rep w J ρ v x->Rep {w with drawn:=k} J ρ v x:=λh=>by
  refine h.mono (w:=w) (w':={w with drawn:=k}) (J:=J) (J':=J) ?_ (Nat.le_refl _) (λ_ _ h=>h)
  exact λb hb _=>⟨hb,rfl⟩
 refine⟨h.defers,h.tmps,λt=>hr (h.env t),λid o ho=>?_,h.inj,h.dom,h.jok,h.jlt,h.ilt,h.pin,⟨h.kept.size,h.kept.os,h.kept.tape,h.kept.output,h.kept.block⟩,h.hid.step (λi=>i) (λ_ _ _ h=>h) (λ_ _ _ _ _ _ _ _ e=>e) (Nat.le_refl _) rfl rfl rfl (λ_ _=>rfl) (λ_ _ _=>rfl) (λ_ _ _ _=>rfl) (λb hb=>hb) (λid H j hi hx=>by
  obtain⟨s,r,g,_⟩:=h.nl hi;exact hx.2.2.2 _ _ _ hi g),h.laid.mono (λ_ h _=>⟨h,rfl⟩) (Nat.le_refl _)⟩
 obtain⟨b,s,h1,h2,h3⟩:=h.obj id o ho
 refine⟨b,s,h1,?_,h3⟩
 refine h2.mono (w:=w) (w':={w with drawn:=k}) (J:=J) (J':=J) ?_ (Nat.le_refl _) (λ_ _ h=>h) rfl
 exact λb hb _=>⟨hb,rfl⟩
def rO(nid0:Nat)(its:List DI)(M:Nat->Bool)(id:Nat):Prop:=id<nid0\/∃(j:Nat) (y:DI),its[j]? =some y/\M j=true/\dL nid0 (its.take j)<=id/\id<dL nid0 (its.take j)+y.s.k
variable {P:Program} {Q:Exit->Nat->St->Prop}
theorem MC{ops:Array Oper}(hops:ops=(its.map (·.o)).toArray)(F:tq nid0 st0 its)(hD:∀(i:Nat) (x:DI),its[i]? =some x->Bw P ops nid0 st0 (its.take i) x.o x.s x.e)
 {M:Nat->Bool} (hcl:∀(j:Nat) (y:DI),its[j]? =some y->M j=true->∀a∈y.s.anc,M a=true) {i:Nat} {x:DI} (hx:its[i]? =some x) (hi:M i=false) (ha:∀a∈x.s.anc,M a=true)
 {M':Nat->Bool} (hM':M' i=true) (hoth:∀j,j≠i->M' j=M j) {c:Ctx} {ρ:Rho} {J:Nat->Prop} {a:Act} {w:World} (hs:Sim c ρ (rO nid0 its M) J (bi M 0 its st0) a w) {K:Act->World->Prop} {R:Exit->Act->World->Prop}
 (hK:∀a' w' ρ' J',Sim c ρ' (rO nid0 its M') J' (bi M' 0 its st0) a' w'->K a' w'):wpOpIn (fen c.rd) 0 P ops R i K a w:=by
 obtain⟨hse,hso⟩:=F.sees hcl hx hi ha
 have hn:=Pd M its 0 st0
 have hrn:(red nid0 st0 (its.take i) x.s).n=st0.n/\(red nid0 st0 (its.take i) x.s).m=st0.m:=⟨rfl,rfl⟩
 -- what the operation sees, as a relation
 have hred:Sim c ρ (rO nid0 its M) J (red nid0 st0 (its.take i) x.s) a w:=by
  refine⟨hs.defers,by rw[hs.tmps,hn.1];exact hrn.1.symm,λt=>?_,λid o ho=>hs.obj id o (hso id o ho),λid id' o o' b s s' h1 h2=>hs.inj id id' o o' b s s' (hso _ _ h1) (hso _ _ h2),hs.dom,hs.jok,hs.jlt,hs.ilt,by have:=hs.pin;rw[hn.2] at this;exact this,hs.kept,hs.hid_of (λi=>i) (λid o h=>⟨o,hso id o h,λ_ _ e=>e,rfl⟩) (λ_ _ _ _ _ _ _ _ e=>e) (λ_ h=> .inl h),hs.laid⟩
  rcases hse t with h|h
  ·rw[h];exact .any _
  ·rw[h];exact hs.env t
 have hopi:ops[i]? =some x.o:=by rw[hops];simp[hx]
 have hdst:∀d,x.o.dst=some d->d<(bi M 0 its st0).n:=λd hd=>by rw[hn.1];exact F.dst i x hx d hd
 have hset:Eqv (bi M' 0 its st0) ((bi M 0 its st0).app x.o.dst x.e):=by
  refine O8 hi hM' hoth its 0 i st0 x omgz hx (λq y hq hlt hM=>?_)
  simp only[Nat.zero_add] at hM
  have hne:i≠q:=by omega
  refine⟨λt ht=>F.uniq i q x y hx hq hne t ht,λk hk hk'=>?_⟩
  have hqa:q ∉ x.s.anc:=λhh=>by have:=(F.anc i x hx q hh).1;omega
  have hiq:i ∉ y.s.anc:=λhh=>by have:=hcl q y hq hM i hh;rw[hi] at this;cases this
  obtain⟨_,h2,_⟩:=F.un i q x y hx hq hne hqa hiq
  rcases F.keys i x hx k hk with g1|⟨⟨o1,g1⟩,m1⟩
  ·rcases F.keys q y hq k hk' with g2|⟨⟨o2,g2⟩,m2⟩
   ·exact hne (ug hx hq g1 g2)
   ·have hge:nid0<=k:=by
     have:nid0<=dL nid0 (its.take i):=by unfold dL;omega
     omega
    rcases F.new q y hq k o2 g2 with hlt'|⟨b,z,e1,e2,e3⟩
    ·omega
    ·have:=ug hx e2 g1 e3;exact hiq (this▸e1)
  ·rcases F.keys q y hq k hk' with g2|⟨⟨o2,g2⟩,m2⟩
   ·have hge:nid0<=k:=by
     have:nid0<=dL nid0 (its.take q):=by unfold dL;omega
     omega
    rcases F.new i x hx k o1 g1 with hlt'|⟨b,z,e1,e2,e3⟩
    ·omega
    ·have:=ug hq e2 g2 e3;exact hqa (this▸e1)
   ·rcases h2 with h2|h2
    ·rw[h2] at m1;simp at m1
    ·have n1:∃c∈x.s.md,c=2\/c=1\/c=3+k:=by
      rcases m1 with m1|⟨m1,_⟩|m1
      ·exact⟨_,m1,.inl rfl⟩
      ·exact⟨_,m1,.inr (.inl rfl)⟩
      ·exact⟨_,m1,.inr (.inr rfl)⟩
     have n2:∃c∈y.s.md,c=2\/c=1\/c=3+k:=by
      rcases m2 with m2|⟨m2,_⟩|m2
      ·exact⟨_,m2,.inl rfl⟩
      ·exact⟨_,m2,.inr (.inl rfl)⟩
      ·exact⟨_,m2,.inr (.inr rfl)⟩
     obtain⟨c1,a1,b1⟩:=n1
     obtain⟨c2,a2,b2⟩:=n2
     have e1:=h2 c2 a2
     have e2:=e1.2 c1 a1
     omega
 have hDmono:∀id,rO nid0 its M id->rO nid0 its M' id:=by
  rintro id (h|⟨j,y,h1,h2,h3⟩)
  ·exact .inl h
  ·exact .inr ⟨j,y,h1,by rw[hoth j (λe=>by subst e;rw[hi] at h2;cases h2)];exact h2,h3⟩
 have hfresh:∀id,dL nid0 (its.take i)<=id->id<dL nid0 (its.take i)+x.s.k->¬rO nid0 its M id:=by
  intro id h1 h2 hcon
  rcases hcon with hcon|⟨j,y,g1,g2,g3⟩
  ·have:nid0<=dL nid0 (its.take i):=by unfold dL;omega
   omega
  ·have:=ug hx g1 ⟨h1,h2⟩ g3
   subst this;rw[hi] at g2;cases g2
 have run:OpB P x.o (dL nid0 (its.take i)) x.s.k (red nid0 st0 (its.take i) x.s) x.e->x.o.wpIn (fen c.rd) 0 P a w K R:=λhopB=>by
  obtain⟨κ,eR,hop,heR,hdr⟩:=hopB
  have hntr:¬vE eR.upd:=MB hdr
  refine hop.at_ hred hfresh (λv w' ρ' J' p=>hK _ _ ρ' J' ?_)
  have p':OD c (dL nid0 (its.take i)) x.s.k (bi M 0 its st0) eR ρ ρ' J J' w w' v:=
   ⟨p.size,p.os,p.tape,p.output,λb hb hne _=>p.same b hb (λid o s hk ho=>hne id o s hk (hso id o ho)) (λh=>absurd h hntr),p.ρmono,p.ρnew,p.Jmono,λb hb=>(p.Jnew b hb).imp id (λh=>h.imp (λh=>⟨h.1.imp (λh=>h) (λh=>absurd h.1 hntr),h.2⟩) (λ⟨id0,o0,s0,k1,k2,k3⟩=>⟨id0,o0,s0,k1,hso _ _ k2,k3⟩)),p.val,λid o ho=>by
     obtain⟨b,s,h1,h2,h3,h4⟩:=p.obj id o ho
     exact⟨b,s,h1,h2,h3,h4.imp (λh=>h.imp (λh=>h) (λh=>absurd h.1 hntr)) (λ⟨id0,o0,s0,k1,k2,k3⟩=>⟨id0,o0,s0,k1,hso _ _ k2,k3⟩)⟩,p.inj,λh=>absurd h hntr⟩
  have hflt:Eqv ((bi M 0 its st0).app x.o.dst eR) ((bi M 0 its st0).app x.o.dst x.e):=by
   rw[heR]
   refine Eqv.filt _ λid o hin hl=>?_
   obtain⟨h1,h2⟩:=wM hin hdr hl
   cases o with
   |none=>cases h2
   |some o=>exact⟨hso id o h1,rfl⟩
  refine Sim.eqv (hflt.trans hset.symm) (hs.app p' hdst (λid hid=>?_))
  rcases hid with hid|hid
  ·exact hDmono id hid
  ·exact .inr ⟨i,x,hx,hM',hid⟩
 have hstep:=(hD i x hx).2
 unfold wpOpIn
 simp only[hopi]
 cases hg:x.o.guard with
 |none=>
  rw[hg] at hstep
  rw[if_pos (by simp[Region.wanted,hg])]
  exact run hstep
 |some jb=>
  obtain⟨j,b⟩:=jb
  rw[hg] at hstep
  obtain⟨t,h1,h2,h34⟩:=hstep
  have skip:x.e=⟨noV,[]⟩->K (a.put x.o.dst undef) w:=λhe=>by
   refine hK _ _ ρ J ?_
   have hsk:Sim c ρ (rO nid0 its M) J ((bi M 0 its st0).put x.o.dst noV) (a.put x.o.dst undef) w:=hs.skip _ (by
    cases hd:x.o.dst with
    |none=>rfl
    |some d=>simpa[lu] using hdst d hd)
   have e1:(bi M 0 its st0).app x.o.dst x.e=(bi M 0 its st0).put x.o.dst noV:=by rw[he];cases x.o.dst<;>rfl
   rw[e1] at hset
   have hsk':=Sim.eqv hset.symm hsk
   exact⟨hsk'.defers,hsk'.tmps,hsk'.env,hsk'.obj,hsk'.inj,λid p hp=>hDmono id (hsk'.dom id p hp),hsk'.jok,hsk'.jlt,hsk'.ilt,hsk'.pin,hsk'.kept,hsk'.hid,hsk'.laid⟩
  rcases h34 with⟨b',h3,h4⟩|⟨h3,he⟩
  ·have hy:yielded ops a.tmps j=some b':=sF hred h1 h3 (by rw[hrn.1];exact h2)
   rcases h4 with⟨rfl,hop⟩|⟨hne,he⟩
   ·rw[if_pos (by simp[Region.wanted,hg,hy])]
    exact run hop
   ·rw[if_neg (by simp[Region.wanted,hg,hy];exact hne)]
    exact⟨λ_ _=>trivial,skip he⟩
  ·have hy:yielded ops a.tmps j=none:=ED hred h1 h3 (by rw[hrn.1];exact h2)
   rw[if_neg (by simp[Region.wanted,hg,hy])]
   exact⟨λ_ _=>trivial,skip he⟩
theorem Pf{ops:Array Oper}(hops:ops=(its.map (·.o)).toArray)(F:tq nid0 st0 its)(hD:∀(i:Nat) (x:DI),its[i]? =some x->Bw P ops nid0 st0 (its.take i) x.o x.s x.e){c:Ctx} {R:Exit->Act->World->Prop}
 (hfin:∀a w ρ J,Sim c ρ (rO nid0 its λ_=>true) J (bi (λ_=>true) 0 its st0) a w->R .normal a w):
 ∀(fuel:Nat) (listed:Array Bool) (a:Act) (w:World) (ρ:Rho) (J:Nat->Prop),listed.size=its.length->(List.range its.length).countP (λj=> !listed.getD j false)<=fuel->
  (∀(j:Nat) (y:DI),its[j]? =some y->listed.getD j false=true->∀a∈y.s.anc,listed.getD a false=true)->Sim c ρ (rO nid0 its λj=>listed.getD j false) J (bi (λj=>listed.getD j false) 0 its st0) a w->wpAnyIn (fen c.rd) 0 P .any ops R fuel listed a w:=by
 intro fuel
 have hdone:∀(listed:Array Bool),listed.size=its.length->(∀j,j<its.length->listed.getD j false=true)->∀a w ρ J,Sim c ρ (rO nid0 its λj=>listed.getD j false) J (bi (λj=>listed.getD j false) 0 its st0) a w->R .normal a w:=by
  intro listed hl hall a w ρ J hs
  refine hfin a w ρ J ?_
  have e1:bi (λj=>listed.getD j false) 0 its st0=bi (λ_=>true) 0 its st0:=Ho its 0 st0 (λi hi=>by simpa using hall i hi)
  rw[e1] at hs
  refine⟨hs.defers,hs.tmps,hs.env,hs.obj,hs.inj,λid p hp=>?_,hs.jok,hs.jlt,hs.ilt,hs.pin,hs.kept,hs.hid,hs.laid⟩
  rcases hs.dom id p hp with h|⟨j,y,h1,h2,h3⟩
  ·exact .inl h
  ·exact .inr ⟨j,y,h1,rfl,h3⟩
 have hready:∀(listed:Array Bool),listed.size=its.length->Region.ready .any ops listed=[]->∀j,j<its.length->listed.getD j false=true:=by
  intro listed hl hr j
  induction j using Nat.strongRecOn with
  |_ j ih=>
   intro hj
   refine Classical.byContradiction λhn=>?_
   have hx:=List.getElem?_eq_getElem hj
   have hm:j∈Region.ready .any ops listed:=by
    rw[mem_ready]
    refine⟨?_,its[j].o,by rw[hops];simp[hj],λe he hb=>?_⟩
    ·have:listed.getD j false=false:=by simpa using hn
     have hlt:j<listed.size:=by omega
     simpa[Array.getD,hlt] using this
    ·have:=F.down j _ hx e he hb
     exact ih e.on this omgz
   rw[hr] at hm;cases hm
 induction fuel with
 |zero=>
  intro listed a w ρ J hl hcnt hcl hs
  have hall:∀j,j<its.length->listed.getD j false=true:=by
   intro j hj
   have h0:(List.range its.length).countP (λj=> !listed.getD j false)=0:=by omega
   rw[List.countP_eq_zero] at h0
   have:=h0 j (List.mem_range.2 hj)
   simpa using this
  refine⟨?_,hdone listed hl hall a w ρ J hs⟩
  cases hr:Region.ready .any ops listed with
  |nil=>rfl
  |cons i l=>
   have hm:i∈Region.ready .any ops listed:=by rw[hr];exact List.mem_cons_self
   obtain⟨h1,o,h2,_⟩:=mem_ready.1 hm
   have hi:i<its.length:=by have:=(Array.getElem?_eq_some_iff.1 h2).1;rw[hops] at this;simpa using this
   have:=hall i hi
   have hlt:i<listed.size:=by omega
   simp[Array.getD,hlt] at h1 this
   rw[h1] at this;cases this
 |succ fuel ih=>
  intro listed a w ρ J hl hcnt hcl hs
  refine⟨λhr=>hdone listed hl (hready listed hl hr) a w ρ J hs,λi hm=>?_⟩
  obtain⟨h1,o,h2,h3⟩:=mem_ready.1 hm
  have hi:i<its.length:=by have:=(Array.getElem?_eq_some_iff.1 h2).1;rw[hops] at this;simpa using this
  have hx:=List.getElem?_eq_getElem hi
  have hilt:i<listed.size:=by omega
  have hio:o=its[i].o:=by rw[hops] at h2;simpa[hi] using h2.symm
  have hfi:listed.getD i false=false:=by simp[Array.getD,hilt] at h1⊢;exact h1
  have hset1:(listed.setIfInBounds i true).getD i false=true:=by simp[Array.getD,hilt]
  have hsetne:∀j,j≠i->(listed.setIfInBounds i true).getD j false=listed.getD j false:=λj hj=>getD_set_ne false (Ne.symm hj)
  have hanc:∀a∈its[i].s.anc,listed.getD a false=true:=by
   intro q hq
   obtain⟨_,⟨e,he,hb,hor⟩,_⟩:=F.anc i _ hx q hq
   have hon:=h3 e (by rw[hio];exact he) hb
   rcases hor with hor|⟨y,hy,hqy⟩
   ·rw[<-hor];exact hon
   ·exact hcl e.on y hy hon q hqy
  refine MC hops F hD hcl hx hfi hanc (M':=λj=>(listed.setIfInBounds i true).getD j false) hset1 hsetne hs (λa' w' ρ' J' hs'=>?_)
  refine ih _ a' w' ρ' J' (by simpa using hl) ?_ ?_ hs'
  · -- one fewer is left
   have key:∀(l:List Nat),l.Nodup->i∈l->l.countP (λj=> !(listed.setIfInBounds i true).getD j false)+1<=l.countP (λj=> !listed.getD j false):=by
    intro l
    induction l with
    |nil=>intro _ h;cases h
    |cons q l ihl=>
     intro hnd hm
     rw[List.nodup_cons] at hnd
     simp only[List.countP_cons]
     by_cases hq:q=i
     ·subst hq
      have hrest:l.countP (λj=> !(listed.setIfInBounds q true).getD j false)=l.countP (λj=> !listed.getD j false):=
       List.countP_congr (λj hj=>by rw[hsetne j (λe=>hnd.1 (e▸hj))])
      rw[hrest]
      simp only[hset1,hfi];simp
     ·have hm':i∈l:=by rcases List.mem_cons.1 hm with h|h;exact absurd h.symm hq;exact h
      have:=ihl hnd.2 hm'
      rw[hsetne q hq];omega
   have:=key (List.range its.length) List.nodup_range (List.mem_range.2 hi)
   omega
  ·intro j y hj hlj q hq
   by_cases hji:j=i
   ·subst hji
    rw[hx] at hj;cases hj
    have:=hanc q hq
    by_cases hqi:q=j
    ·subst hqi;exact hset1
    ·rw[hsetne q hqi];exact this
   ·rw[hsetne j hji] at hlj
    have:=hcl j y hj hlj q hq
    by_cases hqi:q=i
    ·subst hqi;exact hset1
    ·rw[hsetne q hqi];exact this
end
end
section
theorem ME{l:List (Oper×Sd)} {n:Nat}(h:yV l n=true){i:Nat}(hi:i<l.length):Hg l n i=true:=by
 unfold yV at h
 exact List.all_eq_true.1 h i (List.mem_range.2 hi)
theorem Pg{nid0:Nat} {st0:St} {its:List DI} {l:List (Oper×Sd)}(hl:its.map (λx=>(x.o,x.s))=l)(hB:yV l st0.n=true)(hbase:∀id o,st0.ob id=some o->id<nid0){P:Program} {ops:Array Oper}
 (hD:∀(i:Nat) (x:DI),its[i]? =some x->Bw P ops nid0 st0 (its.take i) x.o x.s x.e):tq nid0 st0 its:=by
 have hget:∀{i:Nat} {x:DI},its[i]? =some x->l[i]? =some (x.o,x.s):=λ{i x} h=>by rw[<-hl];simp[h]
 have hback:∀{i:Nat} {o:Oper} {s:Sd},l[i]? =some (o,s)->∃x,its[i]? =some x/\x.o=o/\x.s=s:=λ{i o s} h=>by
  rw[<-hl,List.getElem?_map] at h
  cases hi:its[i]? with
  |none=>simp[hi] at h
  |some x=>simp[hi] at h;exact⟨x,rfl,h.1,h.2⟩
 have hlen:its.length=l.length:=by rw[<-hl];simp
 have hat:∀{i:Nat} {x:DI},its[i]? =some x->(x.o.after.all λe=> !Region.binds .any e||decide (e.on<i))=true/\
  (x.s.anc.all λj=>decide (j<i)&&((vK l j).all λa=>x.s.anc.contains a)&&x.o.after.any λe=>Region.binds .any e&&(e.on==j||(vK l e.on).contains j))=true/\
  lu st0.n x.o.dst=true/\
  ∀j,j<l.length->(i==j||x.o.dst.isNone||x.o.dst !=EO l j)=true/\(!J6 l i j||
   (Pb x.s.ud (EO l j)&&(x.s.md.isEmpty||(dMd l j).all λc=>Nat.ble 3 c&&x.s.md.all λc'=>Nat.ble 3 c'&&c' !=c)&&
     (x.s.f.contains 2||(dMd l j).all λc=>x.s.f.contains c)))=true:=by
  intro i x hx
  have hi:i<l.length:=by rw[<-hlen];exact(List.getElem?_eq_some_iff.1 hx).1
  have:=ME hB hi
  unfold Hg at this
  rw[hget hx] at this
  simp only[Bool.and_eq_true] at this
  obtain⟨⟨⟨h1,h2⟩,h3⟩,h4⟩:=this
  refine⟨h1,?_,h3,λj hj=>?_⟩
  ·rw[List.all_eq_true] at h2⊢
   intro q hq
   have:=h2 q hq
   simpa only[Bool.and_eq_true] using this
  ·have:=List.all_eq_true.1 h4 j (List.mem_range.2 hj)
   simpa only[Bool.and_eq_true] using this
 refine⟨?_,?_,?_,?_,?_,hbase,?_⟩
 ·intro i x hx e he hb
  have:=(hat hx).1
  rw[Array.all_eq_true_iff_forall_mem] at this
  have:=this e he
  simp[hb] at this;exact this
 ·intro i x hx j hj
  have:=List.all_eq_true.1 (hat hx).2.1 j hj
  simp only[Bool.and_eq_true,decide_eq_true_eq] at this
  obtain⟨⟨h1,h2⟩,h3⟩:=this
  refine⟨h1,?_,λy hy a ha=>?_⟩
  ·rw[Array.any_eq_true'] at h3
   obtain⟨e,he,hor⟩:=h3
   simp only[Bool.and_eq_true,Bool.or_eq_true,beq_iff_eq] at hor
   refine⟨e,he,hor.1,hor.2.imp id (λhc=>?_)⟩
   unfold vK at hc
   cases hle:l[e.on]? with
   |none=>simp[hle] at hc
   |some p=>
    obtain⟨y,hy,ho,hs⟩:=hback (o:=p.1) (s:=p.2) (by rw[hle])
    refine⟨y,hy,?_⟩
    rw[hs];simpa[hle] using hc
  ·have e1:vK l j=y.s.anc:=by unfold vK;rw[hget hy];rfl
   rw[e1] at h2
   simpa using List.all_eq_true.1 h2 a ha
 ·intro i x hx d hd
  have:=(hat hx).2.2.1
  rw[hd] at this
  simpa[lu] using this
 ·intro i j x y hx hy hne t hxt hyt
  have hj:j<l.length:=by rw[<-hlen];exact(List.getElem?_eq_some_iff.1 hy).1
  have:=((hat hx).2.2.2 j hj).1
  have e1:EO l j=y.o.dst:=by unfold EO;rw[hget hy];rfl
  rw[e1,hxt,hyt] at this
  simp[hne] at this
 ·intro i j x y hx hy hne h1 h2
  have hj:j<l.length:=by rw[<-hlen];exact(List.getElem?_eq_some_iff.1 hy).1
  have:=((hat hx).2.2.2 j hj).2
  have e1:EO l j=y.o.dst:=by unfold EO;rw[hget hy];rfl
  have e2:dMd l j=y.s.md:=by unfold dMd;rw[hget hy];rfl
  have e3:vK l j=y.s.anc:=by unfold vK;rw[hget hy];rfl
  have e4:vK l i=x.s.anc:=by unfold vK;rw[hget hx];rfl
  have hu:J6 l i j=true:=by
   unfold J6;rw[e3,e4]
   simp[hne,h1,h2]
  rw[hu,e1,e2] at this
  simp only[Bool.not_true,Bool.false_or,Bool.and_eq_true,Bool.or_eq_true,beq_iff_eq,Nat.ble_eq,bne_iff_ne,or_assoc,and_assoc,List.contains_iff_mem,List.isEmpty_iff,List.all_eq_true] at this
  obtain⟨k1,k2,k3⟩:=this
  refine⟨λd hd=>?_,k2,?_⟩
  ·rw[hd] at k1;simpa[Pb] using k1
  ·exact k3
 ·intro i x hx id hid
  rcases Hm (hD i x hx).1 id hid with h|⟨h1,h2⟩
  ·exact .inl h
  ·refine .inr ⟨?_,h2⟩
   exact Option.isSome_iff_exists.1 h1
section
variable {P:Program} {Q:Exit->Nat->St->Prop} {nid:Nat}
def ui(nid:Nat):List (Nat×Option aC)->Bool
 |[]=>true
 |(i,_)::l=>decide (i<nid)&&ui nid l
theorem EP{nid:Nat} {l:List (Nat×Option aC)}(h:ui nid l=true):∀p∈l,p.1<nid:=by
 induction l with
 |nil=>intro p hp;cases hp
 |cons x l ih=>
  obtain⟨i,o⟩:=x
  simp only[ui,Bool.and_eq_true,decide_eq_true_eq] at h
  intro p hp
  rcases List.mem_cons.1 hp with rfl|hp
  ·exact h.1
  ·exact ih h.2 p hp
theorem VP{id n m:Nat} {env:List (Nat×AV)} {objs:List (Nat×Option aC)} {l:List Oper}(hm:P.follows .mixedOrders=true)(sds:List Sd)(hl:sds.length=l.length)(hB:yV (l.zip sds) n=true)(hlt:ui nid objs=true)
 (h:DGo P l.toArray nid ⟨n,m,env,objs⟩ (λits=>Q .normal (dL nid its) (bi (λ_=>true) 0 its ⟨n,m,env,objs⟩)) [] (l.zip sds)):AC P (.region id l.toArray true) Q nid ⟨n,m,env,objs⟩:=λc ρ J a w hs=>by
 obtain⟨its,h1,h2,h3⟩:=VN _ _ h
 simp only[List.nil_append] at h1 h3
 have hbase:∀id o,(⟨n,m,env,objs⟩:St).ob id=some o->id<nid:=by
  intro id o ho
  unfold St.ob at ho
  cases hk:aQ objs id with
  |none=>simp[hk] at ho
  |some x=>exact EP hlt _ (kT hk)
 have F:=Pg h2 (st0:=⟨n,m,env,objs⟩) hB hbase h3
 have hops:l.toArray=(its.map (·.o)).toArray:=by
  have:its.map (·.o)=l:=by
   have e1:its.map (·.o)=(its.map λx=>(x.o,x.s)).map (·.1):=by simp
   rw[e1,h2,List.map_fst_zip omgz]
  rw[this]
 have hlen:its.length=l.length:=by
  have:=congrArg List.length h2
  simp at this;omega
 refine wpIn_region_any hm ?_
 have hs':=hs.drew (w.drawn+1)
 have hsz:(Array.replicate l.toArray.size false).size=its.length:=by simp[hlen]
 have hf:∀j,(Array.replicate l.toArray.size false).getD j false=false:=by
  intro j;simp only[Array.getD];split<;>simp
 refine Pf hops F h3 (c:=c) (R:=Vp c Q) (λa w ρ J hs=>⟨_,_,ρ,J,?_,h1⟩) l.toArray.size (Array.replicate l.toArray.size false) a _ ρ J hsz ?_ ?_ ?_
 ·refine⟨hs.defers,hs.tmps,hs.env,hs.obj,hs.inj,λid p hp=>?_,hs.jok,hs.jlt,hs.ilt,hs.pin,hs.kept,hs.hid,hs.laid⟩
  rcases hs.dom id p hp with hd|⟨j,y,g1,_,g2⟩
  ·show id<dL nid its
   unfold dL;omega
  ·show id<dL nid its
   have hj:=(List.getElem?_eq_some_iff.1 g1).1
   have:=yZ nid its hj g1
   rw[List.take_length] at this
   omega
 ·have:(List.range its.length).countP (λj=> !(Array.replicate l.toArray.size false).getD j false)<=(List.range its.length).length:=List.countP_le_length
  rw[List.length_range] at this
  have e2:l.toArray.size=its.length:=by simp[hlen]
  omega
 ·intro j y _ hj;rw[hf j] at hj;cases hj
 ·have e1:bi (λj=>(Array.replicate l.toArray.size false).getD j false) 0 its ⟨n,m,env,objs⟩=⟨n,m,env,objs⟩:=by
   have key:∀(l':List DI) (j:Nat) (st:St),bi (λj=>(Array.replicate l.toArray.size false).getD j false) j l' st=st:=by
    intro l'
    induction l' with
    |nil=>intro j st;rfl
    |cons x l' ih=>intro j st;simp only[bi,hf j,Bool.false_eq_true,if_false];exact ih _ _
   exact key _ _ _
  rw[e1]
  exact⟨hs'.defers,hs'.tmps,hs'.env,hs'.obj,hs'.inj,λid p hp=> .inl (hs'.dom id p hp),hs'.jok,hs'.jlt,hs'.ilt,hs'.pin,hs'.kept,hs'.hid,hs'.laid⟩
def DOp(P:Program)(ops:Array Oper)(nid0:Nat)(st0:St)(fin:List DI->Prop)(done:List DI)(o:Oper)(s:Sd)(rest:List (Oper×Sd))(nid:Nat)(env:List (Nat×AV))(objs:List (Nat×Option aC)):Prop:=
 match o.guard with
 |none=>∃e,nK nid s.k nid0 s.md objs e.upd/\OpB P o nid s.k ⟨st0.n,st0.m,env,objs⟩ e/\DGo P ops nid0 st0 fin (done++[⟨o,s,e⟩]) rest
 |some (j,b)=>∃t,rM ops j=some t/\t<st0.n/\((∃b',(aQ env t).getD .any= .val (.bool b')/\
   ((b'=b/\∃e,nK nid s.k nid0 s.md objs e.upd/\OpB P o nid s.k ⟨st0.n,st0.m,env,objs⟩ e/\DGo P ops nid0 st0 fin (done++[⟨o,s,e⟩]) rest)\/(b'≠b/\DGo P ops nid0 st0 fin (done++[⟨o,s,⟨noV,[]⟩⟩]) rest)))\/
   ((aQ env t).getD .any=noV/\DGo P ops nid0 st0 fin (done++[⟨o,s,⟨noV,[]⟩⟩]) rest))
theorem VQ{ops:Array Oper} {nid0:Nat} {st0:St} {fin:List DI->Prop} {done:List DI} {o:Oper} {s:Sd} {rest:List (Oper×Sd)}
 (h:∀K:Nat->List (Nat×AV)->List (Nat×Option aC)->Prop,(∀nid env objs,DOp P ops nid0 st0 fin done o s rest nid env objs->K nid env objs)->
   K (dL nid0 done) (pq s.ud (bi (λj=>s.anc.contains j) 0 done st0).env) (mQ s.f nid0 (bi (λj=>s.anc.contains j) 0 done st0).objs)):DGo P ops nid0 st0 fin done ((o,s)::rest):=by
 have:=h _ (λ_ _ _ h=>h)
 unfold DOp at this
 unfold DGo Bw
 cases hg:o.guard with
 |none=>
  rw[hg] at this
  obtain⟨e,h1,h2,h3⟩:=this
  exact⟨e,⟨h1,h2⟩,h3⟩
 |some jb=>
  obtain⟨j,b⟩:=jb
  rw[hg] at this
  obtain⟨t,h1,h2,h34⟩:=this
  rcases h34 with⟨b',h3,h4⟩|⟨h3,h5⟩
  ·rcases h4 with⟨h4,e,h5,h6,h7⟩|⟨h4,h5⟩
   ·exact⟨e,⟨h5,t,h1,h2,.inl ⟨b',h3,.inl ⟨h4,h6⟩⟩⟩,h7⟩
   ·exact⟨⟨noV,[]⟩,⟨trivial,t,h1,h2,.inl ⟨b',h3,.inr ⟨h4,rfl⟩⟩⟩,h5⟩
  ·exact⟨⟨noV,[]⟩,⟨trivial,t,h1,h2,.inr ⟨h3,rfl⟩⟩,h5⟩
def EQ:Nat->List DI->Bool
 |_,[]=>true
 |j,x::l=>Nat.beq x.s.i j&&EQ (j+1) l
def dsn(M:Nat->Bool)(l:List DI)(st:St):St:=l.foldl (λst x=>if M x.s.i then st.app x.o.dst x.e else st) st
theorem Bz(M:Nat->Bool)(l:List DI):∀(j:Nat) (st:St),EQ j l=true->bi M j l st=dsn M l st:=by
 induction l with
 |nil=>intro j st _;rfl
 |cons x l ih=>
  intro j st h
  simp only[EQ,Bool.and_eq_true] at h
  have e:x.s.i=j:=Nat.eq_of_beq_eq_true h.1
  simp only[bi,dsn,List.foldl_cons,e]
  exact ih (j+1) _ h.2
def y5(M:Nat->Bool)(l:List DI)(n m:Nat)(env:List (Nat×AV))(objs:List (Nat×Option aC)):List (Nat×AV):=(dsn M l ⟨n,m,env,objs⟩).env
def ER(M:Nat->Bool)(l:List DI)(n m:Nat)(env:List (Nat×AV))(objs:List (Nat×Option aC)):List (Nat×Option aC):=(dsn M l ⟨n,m,env,objs⟩).objs
section
variable {M:Nat->Bool} {l:List DI} {n m:Nat} {env:List (Nat×AV)} {objs:List (Nat×Option aC)} {d:Nat} {dst:Option Nat} {op:Op} {ty:TypeId} {pos:String} {af:Array Edge} {g:Option (Nat×Bool)} {i k:Nat} {f md anc ud:List Nat} {v:AV} {u:List (Nat×Option aC)}
theorem iN:y5 M [] n m env objs=env:=rfl
theorem iO:ER M [] n m env objs=objs:=rfl
theorem gL:y5 M (l++[⟨⟨some d,op,ty,pos,af,g⟩,⟨i,anc,ud,f,md,k⟩,⟨v,u⟩⟩]) n m env objs=if M i=true then(d,v)::y5 M l n m env objs else y5 M l n m env objs:=by
 unfold y5 dsn;rw[List.foldl_append];simp only[List.foldl_cons,List.foldl_nil];split<;>rfl
theorem gM:y5 M (l++[⟨⟨none,op,ty,pos,af,g⟩,⟨i,anc,ud,f,md,k⟩,⟨v,u⟩⟩]) n m env objs=y5 M l n m env objs:=by
 unfold y5 dsn;rw[List.foldl_append];simp only[List.foldl_cons,List.foldl_nil];split<;>rfl
theorem gN:ER M (l++[⟨⟨dst,op,ty,pos,af,g⟩,⟨i,anc,ud,f,md,k⟩,⟨v,u⟩⟩]) n m env objs=if M i=true then u++ER M l n m env objs else ER M l n m env objs:=by
 unfold ER dsn;rw[List.foldl_append];simp only[List.foldl_cons,List.foldl_nil];split
 ·cases dst<;>rfl
 ·rfl
theorem gQ{nid0:Nat}:dL nid0 []=nid0:=rfl
theorem fO{nid0:Nat} {o:Oper} {e:Eff}:dL nid0 (l++[⟨o,⟨i,anc,ud,f,md,k⟩,e⟩])=dL nid0 l+k:=by
 unfold dL;simp;omega
end
theorem jl{ops:Array Oper} {nid0 n m:Nat} {env0:List (Nat×AV)} {objs0:List (Nat×Option aC)} {fin:List DI->Prop} {done:List DI} {o:Oper} {i k:Nat} {f md anc ud:List Nat} {rest:List (Oper×Sd)}(hi:EQ 0 done=true)
 (h:∀K:Nat->List (Nat×AV)->List (Nat×Option aC)->Prop,(∀nid env objs,DOp P ops nid0 ⟨n,m,env0,objs0⟩ fin done o ⟨i,anc,ud,f,md,k⟩ rest nid env objs->K nid env objs)->
   K (dL nid0 done) (pq ud (y5 (λj=>anc.contains j) done n m env0 objs0)) (mQ f nid0 (ER (λj=>anc.contains j) done n m env0 objs0))):DGo P ops nid0 ⟨n,m,env0,objs0⟩ fin done ((o,⟨i,anc,ud,f,md,k⟩)::rest):=by
 refine VQ (λK hK=>?_)
 rw[Bz _ _ _ _ hi]
 exact h K hK
def aK(P:Program)(ops:Array Oper)(nid0 n m:Nat)(env0:List (Nat×AV))(objs0:List (Nat×Option aC))(fin:List DI->Prop)(done:List DI)(o:Oper)(s:Sd)(rest:List (Oper×Sd))(nid:Nat)(env:List (Nat×AV))(objs:List (Nat×Option aC)):Prop:=
 ∀K:AV->List (Nat×Option aC)->Prop,(∀v u,DGo P ops nid0 ⟨n,m,env0,objs0⟩ fin (done++[⟨o,s,⟨v,u⟩⟩]) rest->K v u)->∃κ,AO P o nid ⟨n,m,env,objs⟩ (λk e=>k=s.k/\om objs κ e.upd/\nK nid s.k nid0 s.md objs (j6 κ e.upd)/\K e.v (j6 κ e.upd))
theorem aD{ops:Array Oper} {nid0 n m:Nat} {env0:List (Nat×AV)} {objs0:List (Nat×Option aC)} {fin:List DI->Prop} {done:List DI} {o:Oper} {i k:Nat} {f md anc ud:List Nat} {rest:List (Oper×Sd)} {nid:Nat} {env:List (Nat×AV)} {objs:List (Nat×Option aC)}
 (h:∀K:AV->List (Nat×Option aC)->Prop,(∀v u,DGo P ops nid0 ⟨n,m,env0,objs0⟩ fin (done++[⟨o,⟨i,anc,ud,f,md,k⟩,⟨v,u⟩⟩]) rest->K v u)->AO P o nid ⟨n,m,env,objs⟩ (λk' e=>k'=k/\nK nid k nid0 md objs e.upd/\K e.v e.upd)):
 aK P ops nid0 n m env0 objs0 fin done o ⟨i,anc,ud,f,md,k⟩ rest nid env objs:=λK hK=>by
 obtain⟨k',e,h1,h2,h3,h4⟩:=h K hK
 exact⟨[],k',e,h1,h2,yY h3,by rw[qM];exact h3,by rw[qM];exact h4⟩
theorem J7(κ:List Nat){ops:Array Oper} {nid0 n m:Nat} {env0:List (Nat×AV)} {objs0:List (Nat×Option aC)} {fin:List DI->Prop} {done:List DI} {o:Oper} {i k:Nat} {f md anc ud:List Nat} {rest:List (Oper×Sd)} {nid:Nat} {env:List (Nat×AV)} {objs:List (Nat×Option aC)}
 (h:∀K:AV->List (Nat×Option aC)->Prop,(∀v u,DGo P ops nid0 ⟨n,m,env0,objs0⟩ fin (done++[⟨o,⟨i,anc,ud,f,md,k⟩,⟨v,u⟩⟩]) rest->K v u)->AO P o nid ⟨n,m,env,objs⟩ (λk' e=>k'=k/\om objs κ e.upd/\nK nid k nid0 md objs (j6 κ e.upd)/\K e.v (j6 κ e.upd))):
 aK P ops nid0 n m env0 objs0 fin done o ⟨i,anc,ud,f,md,k⟩ rest nid env objs:=λK hK=>⟨κ,h K hK⟩
theorem rP{ops:Array Oper} {nid0 n m:Nat} {env0:List (Nat×AV)} {objs0:List (Nat×Option aC)} {fin:List DI->Prop} {done:List DI} {dst:Option Nat} {op:Op} {ty:TypeId} {pos:String} {af:Array Edge} {s:Sd} {rest:List (Oper×Sd)} {nid:Nat} {env:List (Nat×AV)} {objs:List (Nat×Option aC)}
 (h:aK P ops nid0 n m env0 objs0 fin done ⟨dst,op,ty,pos,af,none⟩ s rest nid env objs):DOp P ops nid0 ⟨n,m,env0,objs0⟩ fin done ⟨dst,op,ty,pos,af,none⟩ s rest nid env objs:=by
 obtain⟨κ,k,e,h1,h2,h3,h4,h5⟩:=h (λv u=>DGo P ops nid0 ⟨n,m,env0,objs0⟩ fin (done++[⟨⟨dst,op,ty,pos,af,none⟩,s,⟨v,u⟩⟩]) rest) (λ_ _ h=>h)
 subst h2
 exact⟨⟨e.v,j6 κ e.upd⟩,h4,⟨κ,e,h1,rfl,h3⟩,h5⟩
theorem bX{ops:Array Oper} {nid0 n m j t:Nat} {b:Bool} {env0:List (Nat×AV)} {objs0:List (Nat×Option aC)} {fin:List DI->Prop} {done:List DI} {dst:Option Nat} {op:Op} {ty:TypeId} {pos:String} {af:Array Edge} {s:Sd} {rest:List (Oper×Sd)} {nid:Nat} {env:List (Nat×AV)} {objs:List (Nat×Option aC)}
 (ht:rM ops j=some t) (hn:lu n (some t)=true)
 (h:∀K1 K2:Prop,(aK P ops nid0 n m env0 objs0 fin done ⟨dst,op,ty,pos,af,some (j,b)⟩ s rest nid env objs->K1)->
   (DGo P ops nid0 ⟨n,m,env0,objs0⟩ fin (done++[⟨⟨dst,op,ty,pos,af,some (j,b)⟩,s,⟨noV,[]⟩⟩]) rest->K2)->
   gAV b ((aQ env t).getD .any) K1 K2):DOp P ops nid0 ⟨n,m,env0,objs0⟩ fin done ⟨dst,op,ty,pos,af,some (j,b)⟩ s rest nid env objs:=by
 have hn':t<n:=by simpa[lu] using hn
 refine⟨t,ht,hn',?_⟩
 rcases h _ _ (λh=>h) (λh=>h) with⟨b',hb,h1,h2⟩|⟨hb,h2⟩
 ·refine .inl ⟨b',hb,?_⟩
  by_cases e:b'=b
  ·obtain⟨κ,k,e',h3,h4,h7,h5,h6⟩:=h1 e (λv u=>DGo P ops nid0 ⟨n,m,env0,objs0⟩ fin (done++[⟨⟨dst,op,ty,pos,af,some (j,b)⟩,s,⟨v,u⟩⟩]) rest) (λ_ _ h=>h)
   subst h4
   exact .inl ⟨e,⟨e'.v,j6 κ e'.upd⟩,h5,⟨κ,e',h3,rfl,h7⟩,h6⟩
  ·have e':b'= !b:=by
    clear h h1 h2 hb
    revert e;cases b<;>cases b'<;>simp
   exact .inr ⟨e,h2 e'⟩
 ·exact .inr ⟨hb,h2⟩
theorem l8{ops:Array Oper} {nid0 n m:Nat} {env0:List (Nat×AV)} {objs0:List (Nat×Option aC)} {done:List DI}(hi:EQ 0 done=true)
 (h:∀K:Nat->List (Nat×AV)->List (Nat×Option aC)->Prop,(∀nid env objs,Q .normal nid ⟨n,m,env,objs⟩->K nid env objs)->
   K (dL nid0 done) (y5 (λ_=>true) done n m env0 objs0) (ER (λ_=>true) done n m env0 objs0)):
 DGo P ops nid0 ⟨n,m,env0,objs0⟩ (λits=>Q .normal (dL nid0 its) (bi (λ_=>true) 0 its ⟨n,m,env0,objs0⟩)) done []:=by
 have:=h (λnid env objs=>Q .normal nid ⟨n,m,env,objs⟩) (λ_ _ _ h=>h)
 unfold y5 ER at this
 rw[<-Bz _ _ _ _ hi] at this
 have hn:=Pd (λ_=>true) done 0 ⟨n,m,env0,objs0⟩
 show Q .normal (dL nid0 done) (bi (λ_=>true) 0 done ⟨n,m,env0,objs0⟩)
 have e:bi (λ_=>true) 0 done ⟨n,m,env0,objs0⟩=⟨n,m,(bi (λ_=>true) 0 done ⟨n,m,env0,objs0⟩).env,(bi (λ_=>true) 0 done ⟨n,m,env0,objs0⟩).objs⟩:=by
  generalize bi (λ_=>true) 0 done ⟨n,m,env0,objs0⟩=s at hn
  obtain⟨a,b,c,d⟩:=s
  simp only at hn
  rw[hn.1,hn.2]
 rw[e];exact this
end
end
section
theorem VR{n:Nat} {v:Value}:bnd n (.val v)=True:=by simp[bnd]
theorem VS{n:Nat} {z:Bool} {cs:List AV} {k:Nat}:bnd n (.isl z cs k)=True:=by simp[bnd]
theorem VT{n:Nat} {cs:List AV} {k:Nat}:bnd n (.ipt cs k)=True:=by simp[bnd]
theorem VU{n:Nat}:bnd n .any=True:=by simp[bnd]
theorem ade{n id off len es:Nat}:bnd n (.sl id off len es)=(id<n):=by simp[bnd]
theorem adf{n id off:Nat}:bnd n (.pt id off)=(id<n):=by simp[bnd]
theorem adg{n id:Nat}:bnd n (.mp id)=(id<n):=by simp[bnd]
theorem adh{n id:Nat}:bnd n (.yl id)=(id<n):=by simp[bnd]
theorem VV{n j:Nat} {H:jG}:Cw n (.tr H j)=True:=rfl
theorem VW{n:Nat} {cs:List AV}:bnd n (.agg cs)=∀x∈cs,bnd n x:=by simp[bnd]
theorem VX{n:Nat} {cs:List AV}:bnd n (.tup cs)=∀x∈cs,bnd n x:=by simp[bnd]
theorem adi{n f:Nat} {cs:List AV}:bnd n (.fn f cs)=∀x∈cs,bnd n x:=by simp[bnd]
theorem Hr{n:Nat} {cs:List AV} {e:TypeId}:Cw n (.cells cs e)=∀x∈cs,bnd n x:=rfl
theorem ES{n k:Nat} {ag:Bool} {l:List (List Int×AV)}:Cw n (.map ag k l)=∀x∈l,bnd n x.2:=rfl
theorem Ht{k:Nat} {ag:Bool} {l:List (List Int×AV)}:l7 (.map ag k l)=∀x∈l,noImm x.2:=rfl
theorem MF{v:Value}:noImm (.val v)=True:=by simp[noImm]
theorem MG{z:Bool} {cs:List AV} {k:Nat}:noImm (.isl z cs k)=(cs=[]):=by simp[noImm]
theorem MH{cs:List AV} {k:Nat}:noImm (.ipt cs k)=(cs=[]):=by simp[noImm]
theorem MI:noImm .any=True:=by simp[noImm]
theorem Pi{id off len es:Nat}:noImm (.sl id off len es)=True:=by simp[noImm]
theorem Pj{id off:Nat}:noImm (.pt id off)=True:=by simp[noImm]
theorem Pk{id:Nat}:noImm (.mp id)=True:=by simp[noImm]
theorem Pm{id:Nat}:noImm (.yl id)=True:=by simp[noImm]
theorem MJ{j:Nat} {H:jG}:l7 (.tr H j)=True:=rfl
theorem MK{cs:List AV}:noImm (.agg cs)=∀x∈cs,noImm x:=by simp[noImm]
theorem ML{cs:List AV}:noImm (.tup cs)=∀x∈cs,noImm x:=by simp[noImm]
theorem Po{f:Nat} {cs:List AV}:noImm (.fn f cs)=∀x∈cs,noImm x:=by simp[noImm]
theorem CF{cs:List AV} {e:TypeId}:l7 (.cells cs e)=∀x∈cs,noImm x:=rfl
section
variable {P:Program} {st:St} {a b c d e:ResultVar}
theorem Hu:dY P st [a]=fK P st a:=by
 simp only[dY,List.mapM_cons,List.mapM_nil]
 cases fK P st a<;>rfl
theorem Hw:dY P st [a,b]=(fK P st a).bind λx=>(fK P st b).bind λy=>some (.tup [x,y]):=by
 simp only[dY,List.mapM_cons,List.mapM_nil]
 cases fK P st a<;>cases fK P st b<;>rfl
theorem Hy:dY P st [a,b,c]=(fK P st a).bind λx=>(fK P st b).bind λy=>(fK P st c).bind λz=>some (.tup [x,y,z]):=by
 simp only[dY,List.mapM_cons,List.mapM_nil]
 cases fK P st a<;>cases fK P st b<;>cases fK P st c<;>rfl
theorem Hz:dY P st [a,b,c,d]=(fK P st a).bind λx=>(fK P st b).bind λy=>(fK P st c).bind λz=>(fK P st d).bind λu=>some (.tup [x,y,z,u]):=by
 simp only[dY,List.mapM_cons,List.mapM_nil]
 cases fK P st a<;>cases fK P st b<;>cases fK P st c<;>cases fK P st d<;>rfl
theorem HV:dY P st []=some (.tup []):=rfl
end
def VY(st:St)(σ:List Nat)(fz:Bool):Option aC->aC
 |some o=>toO st σ fz o
 |none=> .cells [] 0
def BA(st:St)(σ:List Nat)(fz:Bool)(id:Nat):aC:=VY st σ fz (aQ st.objs id).join
def ET(st:St):List Nat->Prop
 |[]=>True
 |s::ss=>(aQ st.objs s).join.isSome=true/\ET st ss
theorem vM{st:St} {σ0:List Nat} {fz:Bool}:∀{ss:List Nat},ET st ss->∀j (h:j<(ss.map (BA st σ0 fz)).length),∃o,st.ob (ss.getD j 0)=some o/\(ss.map (BA st σ0 fz))[j]=toO st σ0 fz o
 |[],_,j,h=>by simp at h
 |s::ss,h,j,hj=>by
  cases j with
  |zero=>
   obtain⟨o,ho⟩:=Option.isSome_iff_exists.1 h.1
   refine⟨o,ho,?_⟩
   simp[BA,ho,VY]
  |succ j=>exact vM (σ0:=σ0) (fz:=fz) h.2 j (by simpa using hj)
section
variable {P:Program} {dst:Option Nat} {ty:TypeId} {pos:String} {af:Array Edge} {g:Option (Nat×Bool)} {nid:Nat} {K:Nat->Eff->Prop}
def Pp(P:Program)(f:FuncId)(σ:List Nat)(m:Nat)(fz:Bool)(nid:Nat)(K:Nat->Eff->Prop)(as:List AV)(os:List aC):Prop:=
 ∃r cobjs',ACall P f as os m r cobjs'/\m<=cobjs'.length/\(fz=true->noImm r/\∀o∈cobjs',l7 o)/\trs cobjs'=trs os/\K (cobjs'.length-m) ⟨ren (eX σ m nid) r,eP σ m nid cobjs'⟩
theorem ai{f:FuncId} {xs:Array Operand} {tys:Array TypeId} {st:St} [hp:eU P f](σ:List Nat)(m:Nat)(fz:Bool)
 (h:ET st σ/\m<=σ.length/\σ.Nodup/\(∀i∈σ,i<nid)/\
   ∀G:List AV->List aC->Prop,(∀as os,Pp P f σ m fz nid K as os->G as os)->G (xs.toList.map λx=>toA st σ fz 8 (st.op x)) (σ.map (BA st σ fz))):
 AO P ⟨dst,.call ⟨.value (.func f),xs,tys⟩,ty,pos,af,g⟩ nid st K:=by
 obtain⟨h2,h3,h4,h5,h6⟩:=h
 obtain⟨r,cobjs',hc,hm,hfz,htr,hK⟩:=h6 _ (λ_ _ h=>h)
 exact adc hc σ fz ⟨by simpa using h3,hm,by simp,h4,h5⟩ (vM h2) rfl (λhf=>⟨(hfz hf).1,λj hj=>(hfz hf).2 _ (List.getElem_mem hj)⟩) htr hK
end
section
variable {P:Program} {Q:Exit->Nat->St->Prop} {nid:Nat}
theorem Pq{code:Code} {n m:Nat} {env:List (Nat×AV)} {objs:List (Nat×Option aC)}(id:Nat)
 (h:∃cs e,(aQ objs id).join=some (.cells cs e)/\(∀x∈cs,bnd 0 x)/\∀K:List (Nat×AV)->List (Nat×Option aC)->Prop,(∀env' objs',AC P code Q nid ⟨n,m,env',objs'⟩->K env' objs')->
   K (env.map λp=>(p.1,bP id cs p.2)) ((id,none)::objs.map λp=>(p.1,p.2.map (w9 id cs)))):AC P code Q nid ⟨n,m,env,objs⟩:=λc ρ J a w hs=>by
 obtain⟨cs,e,h1,h2,h3⟩:=h
 obtain⟨J',hs'⟩:=Frz.one (st:=⟨n,m,env,objs⟩) h1 h2 c ρ _ J a w hs
 exact h3 (λenv' objs'=>AC P code Q nid ⟨n,m,env',objs'⟩) (λ_ _ h=>h) c ρ J' a w hs'
theorem Ends.frz{fn:Func} {objs0:List aC} {m0:Nat} {r:AV} {objs':List aC} {e:Exit} {n m:Nat} {env:List (Nat×AV)} {objs:List (Nat×Option aC)}(id:Nat)
 (h:∃cs e',(aQ objs id).join=some (.cells cs e')/\(∀x∈cs,bnd 0 x)/\∀K:List (Nat×AV)->List (Nat×Option aC)->Prop,(∀env' objs'',Ends P fn objs0 m0 r objs' e ⟨n,m,env',objs''⟩->K env' objs'')->
   K (env.map λp=>(p.1,bP id cs p.2)) ((id,none)::objs.map λp=>(p.1,p.2.map (w9 id cs)))):Ends P fn objs0 m0 r objs' e ⟨n,m,env,objs⟩:=by
 obtain⟨cs,e',h1,h2,h3⟩:=h
 obtain⟨he,st',σ,hf,h⟩:=h3 (λenv' objs''=>Ends P fn objs0 m0 r objs' e ⟨n,m,env',objs''⟩) (λ_ _ h=>h)
 exact⟨he,st',σ,(Frz.one (st:=⟨n,m,env,objs⟩) h1 h2).trans hf,h⟩
theorem Ends.mk2{fn:Func} {objs0:List aC} {m:Nat} {r:AV} {objs':List aC} {e:Exit} {n:Nat} {env:List (Nat×AV)} {objs:List (Nat×Option aC)}(he:e= .normal\/e= .ret)(σ:List Nat)
 (h:σ.length=objs'.length/\σ.Nodup/\σ.take m=List.range m/\bnd σ.length r/\kE σ ⟨n,m,env,objs⟩ ((idx 0 objs').map λp=>(p.1,some p.2))/\dY P ⟨n,m,env,objs⟩ fn.results.toList=some (ren (σ.getD · 0) r)):Ends P fn objs0 m r objs' e ⟨n,m,env,objs⟩:=
 Ends.mk' he σ h.1 h.2.2.2.2.1 h.2.1 h.2.2.1 h.2.2.2.2.2 h.2.2.2.1
end
end
