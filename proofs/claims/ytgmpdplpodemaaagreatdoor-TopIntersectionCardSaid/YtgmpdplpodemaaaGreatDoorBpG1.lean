/- Bp1 Bp3 Bp5 Bp8 Bp10 Bp12 Bp13 Bp14 Bp15 Bp17 Bp18 Bp16 Bp19 Bp23 Bp20 Bp25. No condition. -/
import Derived.Test.YtgmpdplpodemaaaGreatDoorSymG36
import Derived.Lib.TrailingZeros
set_option linter.all false
namespace Go.Bp
section
structure Nd where
 kind:Int
 server:Int
 need:Int
 wz:Bool
 w:List Int
 kz:Bool
 k:List Int
deriving DecidableEq
instance:Inhabited Nd:=⟨⟨0,0,0,true,[],true,[]⟩⟩
structure Ex where
 nz:Bool
 nodes:List Nd
 root:Int
deriving DecidableEq
instance:Inhabited Ex:=⟨⟨true,[],0⟩⟩
def srv(i:Int):Ex:=⟨false,[⟨1,i,0,true,[],true,[]⟩],0⟩
def sh(b:Int)(n:Nd):Nd:={n with k:=n.k.map (· +b)}
def wt(n:Nd)(k:Nat):Int:=if n.w.length=0 then 1 else n.w.getD k 0
def aex(n:Nd)(l:List Bool)(k:Nat):List Int→Int
 |[]=>0
 |x::xs=>(if l.getD x.toNat false then wt n k else 0)+aex n l (k+1) xs
def evN(h:Int→Bool)(l:List Bool)(n:Nd):Bool:=(decide (n.kind=1)&&h n.server)||(decide (n.kind=2)&&decide (n.need≤aex n l 0 n.k))
def adD(h:Int→Bool)(acc:List Bool):List Nd→List Bool
 |[]=>acc
 |n::ns=>adD h (acc++[evN h acc n]) ns
def hold(h:Int→Bool)(x:Ex):Bool:=(adD h [] x.nodes).getD x.root.toNat false
theorem agp(h:Int→Bool)(acc:List Bool)(ns:List Nd):(adD h acc ns).length=acc.length+ns.length:=by
 induction ns generalizing acc with
 |nil=>simp[adD]
 |cons n ns ih=>rw[adD,ih];simp;omega
theorem aeP(h:Int→Bool)(acc:List Bool)(ns ms:List Nd):adD h acc (ns++ms)=adD h (adD h acc ns) ms:=by
 induction ns generalizing acc with
 |nil=>rfl
 |cons n ns ih=>simp only[List.cons_append,adD,ih]
theorem agq(h:Int→Bool)(acc:List Bool)(ns:List Nd):∃l,adD h acc ns=acc++l:=by
 induction ns generalizing acc with
 |nil=>exact⟨[],by simp[adD]⟩
 |cons n ns ih=>
  obtain⟨l,hl⟩:=ih (acc++[evN h acc n])
  exact⟨evN h acc n::l,by rw[adD,hl];simp⟩
structure mo(x:Ex):Prop where
 ne:x.nodes≠[]
 root:x.root=(x.nodes.length:Int)-1
 kids:∀n∈x.nodes,∀y∈n.k,0≤y
end
set_option maxRecDepth 20000
section
def adM(w:Int):Bool:=decide (w<1)||decide (1000<w)
def unk(i:Nat)(k:Int):Bool:=decide (k<0)||decide ((i:Int)≤k)
def zt(n:Nd)(i:Nat):Int:=
 if(n.kind≠1∧n.kind≠2)∨(n.kind=1∧(n.need≠0∨n.w≠[]∨n.k≠[]))∨(n.kind=2∧n.server≠0) then 1
 else if n.server<0∨12≤n.server∨n.need<0∨100000<n.need then 7
 else if n.w.any adM=true then 7
 else if n.w≠[]∧n.w.length≠n.k.length then 6
 else if n.k.any (unk i)=true then 4 else 0
def zo(i:Nat):List Nd→Int
 |[]=>0
 |n::ns=>if zt n i=0 then zo (i+1) ns else zt n i
def PG(x:Ex):Int:=
 if x.nodes.length=0 then 9 else if 60<x.nodes.length then 3 else if zo 0 x.nodes≠0 then zo 0 x.nodes else if x.root<0∨(x.nodes.length:Int)≤x.root then 4 else 0
theorem aeQ(i:Nat)(a b:List Nd)(h:zo i a=0):zo i (a++b)=zo (i+a.length) b:=by
 induction a generalizing i with
 |nil=>simp
 |cons n ns ih=>
  simp only[zo] at h
  by_cases h0:zt n i=0
  ·rw[if_pos h0] at h
   simp only[List.cons_append,zo,if_pos h0,List.length_cons]
   rw[ih (i+1) h];congr 1;omega
  ·rw[if_neg h0] at h;exact absurd h h0
theorem af0{a:List Nd} {j:Nat}(hj:j<a.length)(h:zo 0 (a.take j)=0):zo 0 a=if zt (a.getD j default) j=0 then zo (j+1) (a.drop (j+1)) else zt (a.getD j default) j:=by
 have e:a=a.take j++a.getD j default::a.drop (j+1):=by
  have:a.drop j=a.getD j default::a.drop (j+1):=by rw[List.drop_eq_getElem_cons hj];simp[List.getD_eq_getElem?_getD,hj]
  rw[←this,List.take_append_drop]
 conv=>lhs;rw[e]
 rw[aeQ 0 _ _ h,Nat.zero_add,List.length_take,Nat.min_eq_left (by omega)];rfl
theorem aft{a:List Nd} {j:Nat}(hj:j<a.length)(h:zo 0 (a.take j)=0)(hn:zt (a.getD j default) j≠0):zo 0 a=zt (a.getD j default) j:=by
 rw[af0 hj h,if_neg hn]
theorem afn{a:List Nd} {j:Nat}(hj:j<a.length)(h:zo 0 (a.take j)=0)(hn:zt (a.getD j default) j=0):zo 0 (a.take (j+1))=0:=by
 have e:a.take (j+1)=a.take j++[a.getD j default]:=by rw[List.take_add_one];simp[List.getD_eq_getElem?_getD,hj]
 rw[e,aeQ 0 _ _ h,Nat.zero_add,List.length_take,Nat.min_eq_left (by omega)]
 simp only[zo,if_pos hn]
theorem afu{a:List Nd}(h:zo 0 a=0){j:Nat}(hj:j<a.length):zt (a.getD j default) j=0:=by
 have main:∀(a:List Nd) (i j:Nat),zo i a=0→j<a.length→zt (a.getD j default) (i+j)=0:=by
  intro a
  induction a with
  |nil=>intro i j _ hj;simp at hj
  |cons n ns ih=>
   intro i j h hj
   simp only[zo] at h
   by_cases h0:zt n i=0
   ·rw[if_pos h0] at h
    cases j with
    |zero=>simpa using h0
    |succ j=>
     have:=ih (i+1) j h (by simpa using hj)
     rw[show i+1+j=i+(j+1) by omega] at this
     simpa using this
   ·rw[if_neg h0] at h;exact absurd h h0
 have:=main a 0 j h hj
 rwa [Nat.zero_add] at this
structure NOk(n:Nd)(i:Nat):Prop where
 kind:n.kind=1∨n.kind=2
 srv:0≤n.server∧n.server<12
 leaf:n.kind=1→n.need=0∧n.w=[]∧n.k=[]
 zero:n.kind=2→n.server=0
 need:0≤n.need∧n.need≤100000
 ws:∀w∈n.w,1≤w∧w≤1000
 wl:n.w≠[]→n.w.length=n.k.length
 ks:∀k∈n.k,0≤k∧k<i
theorem agr{n:Nd} {i:Nat}(h:zt n i=0):NOk n i:=by
 unfold zt at h
 split at h
 ·cases h
 ·rename_i h1
  split at h
  ·cases h
  ·rename_i h2
   split at h
   ·cases h
   ·rename_i h3
    split at h
    ·cases h
    ·rename_i h4
     split at h
     ·cases h
     ·rename_i h5
      refine⟨?_,by omega,fun hk=>?_,fun hk=>?_,by omega,fun w hw=>?_,fun hw=>?_,fun k hk=>?_⟩
      ·refine Classical.byContradiction fun hn=>h1 (.inl ?_);omega
      ·refine Classical.byContradiction fun hn=>h1 (.inr (.inl ⟨hk,?_⟩))
       by_cases a:n.need=0
       ·by_cases b:n.w=[]
        ·by_cases c:n.k=[]
         ·exact absurd ⟨a,b,c⟩ hn
         ·exact .inr (.inr c)
        ·exact .inr (.inl b)
       ·exact .inl a
      ·refine Classical.byContradiction fun hn=>h1 (.inr (.inr ⟨hk,hn⟩))
      ·have:adM w=false:=by
        rw[Bool.eq_false_iff];intro hb;exact h3 (List.any_eq_true.2 ⟨w,hw,hb⟩)
       simp[adM] at this;omega
      ·refine Classical.byContradiction fun hn=>h4 ⟨hw,hn⟩
      ·have:unk i k=false:=by
        rw[Bool.eq_false_iff];intro hb;exact h5 (List.any_eq_true.2 ⟨k,hk,hb⟩)
       simp[unk] at this;omega
structure XOk(x:Ex):Prop where
 pos:0<x.nodes.length
 few:x.nodes.length≤60
 node:∀j,j<x.nodes.length→NOk (x.nodes.getD j default) j
 root:0≤x.root∧x.root<x.nodes.length
theorem aeE{x:Ex}(h:PG x=0):XOk x:=by
 unfold PG at h
 split at h
 ·cases h
 ·split at h
  ·cases h
  ·split at h
   ·rename_i h3;exact absurd h h3
   ·rename_i h3
    split at h
    ·cases h
    ·refine⟨by omega,by omega,fun j hj=>agr (afu (Decidable.not_not.1 h3) hj),by omega⟩
end
section
def ix{α:Type}(p:α→Bool)(l:List α):Int:=match l.findIdx? p with
 |some i=>i
 |none=> -1
section
variable {α:Type} [Inhabited α]{p:α→Bool} {l:List α} {j:Nat}
theorem um(hj:j<l.length)(h:∀i,i<j→p (l.getD i default)=false)(hp:p (l.getD j default)=true):ix p l=j:=by
 have:l.findIdx? p=some j:=by
  rw[List.findIdx?_eq_some_iff_getElem]
  refine⟨hj,by simpa[List.getD_eq_getElem?_getD,hj] using hp,fun i hi=>?_⟩
  have:=h i hi
  have hil:i<l.length:=by omega
  simpa[List.getD_eq_getElem?_getD,hil] using this
 unfold ix;rw[this]
theorem oV(h:∀i,i<l.length→p (l.getD i default)=false):ix p l= -1:=by
 have:l.findIdx? p=none:=by
  rw[List.findIdx?_eq_none_iff]
  intro x hx
  obtain⟨i,hi,rfl⟩:=List.getElem_of_mem hx
  have:=h i hi
  simpa[List.getD_eq_getElem?_getD,hi] using this
 unfold ix;rw[this]
theorem nV(h:∀i,i<j→p (l.getD i default)=false)(hp:p (l.getD j default)=false):∀i,i<j+1→p (l.getD i default)=false:=fun i hi=>by
 by_cases e:i=j
 ·subst e;exact hp
 ·exact h i (by omega)
theorem lV:decide (0≤ix p l)=l.any p:=by
 unfold ix
 cases h:l.findIdx? p with
 |none=>
  rw[List.findIdx?_eq_none_iff] at h
  have:l.any p=false:=by rw[List.any_eq_false];intro x hx;simp[h x hx]
  rw[this];rfl
 |some i=>
  rw[List.findIdx?_eq_some_iff_getElem] at h
  obtain⟨hi,hp,_⟩:=h
  have:l.any p=true:=List.any_eq_true.2 ⟨_,List.getElem_mem hi,hp⟩
  rw[this];simp
end
def aet(n:Nd):Prop:=(n.kind≠1∧n.kind≠2)∨(n.kind=1∧(n.need≠0∨0<n.w.length∨0<n.k.length))∨(n.kind=2∧n.server≠0)
def aeu(n:Nd):Prop:=n.server<0∨12≤n.server∨n.need<0∨100000<n.need
theorem aev{α:Type} {l:List α}:l≠[]↔0<l.length:=by cases l<;>simp
theorem ahi{n:Nd} {i:Nat}(h:aet n):zt n i=1:=by
 unfold zt;rw[if_pos]
 unfold aet at h;rw[aev,aev];exact h
theorem adP{n:Nd} {i:Nat}(h:¬aet n):zt n i=if n.server<0∨12≤n.server∨n.need<0∨100000<n.need then 7 else if n.w.any adM=true then 7 else if n.w≠[]∧n.w.length≠n.k.length then 6 else if n.k.any (unk i)=true then 4 else 0:=by
 unfold zt;rw[if_neg]
 unfold aet at h;rw[aev,aev];exact h
theorem ahj{n:Nd} {i:Nat}(h:¬aet n)(h2:aeu n):zt n i=7:=by unfold aeu at h2;rw[adP h,if_pos h2]
theorem ahk{n:Nd} {i:Nat}(h:¬aet n)(h2:¬aeu n)(h3:n.w.any adM=true):zt n i=7:=by unfold aeu at h2;rw[adP h,if_neg h2,if_pos h3]
theorem ahl{n:Nd} {i:Nat}(h:¬aet n)(h2:¬aeu n)(h3:n.w.any adM=false)(h4:0<n.w.length∧n.w.length≠n.k.length):zt n i=6:=by
 unfold aeu at h2;rw[adP h,if_neg h2,if_neg (by simp[h3]),if_pos (by rw[aev];exact h4)]
theorem ahm{n:Nd} {i:Nat}(h:¬aet n)(h2:¬aeu n)(h3:n.w.any adM=false)(h4:¬(0<n.w.length∧n.w.length≠n.k.length))(h5:n.k.any (unk i)=true):zt n i=4:=by
 unfold aeu at h2;rw[adP h,if_neg h2,if_neg (by simp[h3]),if_neg (by rw[aev];exact h4),if_pos h5]
theorem ahn{n:Nd} {i:Nat}(h:¬aet n)(h2:¬aeu n)(h3:n.w.any adM=false)(h4:¬(0<n.w.length∧n.w.length≠n.k.length))(h5:n.k.any (unk i)=false):zt n i=0:=by
 unfold aeu at h2;rw[adP h,if_neg h2,if_neg (by simp[h3]),if_neg (by rw[aev];exact h4),if_neg (by simp[h5])]
theorem ags{x:Ex}(h:x.nodes.length=0):PG x=9:=by unfold PG;rw[if_pos h]
theorem agt{x:Ex}(h:60<x.nodes.length):PG x=3:=by unfold PG;rw[if_neg (by omega),if_pos h]
theorem agu{x:Ex} {j:Nat}(h1:x.nodes.length≤60)(hj:j<x.nodes.length)(h:zo 0 (x.nodes.take j)=0)(hn:¬zt (x.nodes.getD j default) j=0):PG x=zt (x.nodes.getD j default) j:=by
 have e:=aft hj h hn
 unfold PG;rw[if_neg (by omega),if_neg (by omega),if_pos (by rw[e];exact hn),e]
theorem agv{x:Ex}(h0:0<x.nodes.length)(h1:x.nodes.length≤60)(h:zo 0 x.nodes=0)(hr:x.root<0∨(x.nodes.length:Int)≤x.root):PG x=4:=by
 unfold PG;rw[if_neg (by omega),if_neg (by omega),if_neg (by simp[h]),if_pos hr]
theorem agw{x:Ex}(h0:0<x.nodes.length)(h1:x.nodes.length≤60)(h:zo 0 x.nodes=0)(hr:¬(x.root<0∨(x.nodes.length:Int)≤x.root)):PG x=0:=by
 unfold PG;rw[if_neg (by omega),if_neg (by omega),if_neg (by simp[h]),if_neg hr]
end
section
variable {ws:List Nat} {i j m b n:Nat}
def off(ws:List Nat)(j:Nat):Nat:=(ws.take j).sum
end
section
variable {h:Int→Bool} {x:Ex} {t:Nd} {i j q n N:Nat} {A:List Bool} {s:Nat}
def KS(x:Ex):Prop:=∀j,j<x.nodes.length→(x.nodes.getD j default).k.length≤1000
structure afH(h:Int→Bool)(x:Ex)(i:Nat)(A:List Bool):Prop where
 len:A.length=x.nodes.length
 tk:A.take i=adD h [] (x.nodes.take i)
theorem afH.zero:afH h x 0 (List.replicate x.nodes.length false):=⟨by simp,by simp[adD]⟩
theorem afH.step(hA:afH h x i A)(hi:i<x.nodes.length){v:Bool}(hv:v=evN h (A.take i) (x.nodes.getD i default)):afH h x (i+1) (A.set i v):=by
 refine⟨by simp[hA.len],?_⟩
 have e3:x.nodes.take (i+1)=x.nodes.take i++[x.nodes.getD i default]:=by rw[List.take_add_one];simp[List.getD_eq_getElem?_getD,hi]
 have e4:(A.set i v).take (i+1)=A.take i++[v]:=by
  rw[List.take_add_one,List.take_set,List.set_eq_of_length_le (by simp;omega)]
  simp[hA.len,hi]
 rw[e3,aeP,←hA.tk,e4,hv];rfl
theorem afH.root(hA:afH h x x.nodes.length A):A.getD x.root.toNat default=hold h x:=by
 have:=hA.tk
 rw[List.take_length,List.take_of_length_le (by rw[hA.len];exact Nat.le_refl _)] at this
 unfold hold;rw[←this];rfl
def aey(t:Nd)(A:List Bool)(q:Nat):Int:=aex t A 0 (t.k.take q)
theorem af1(k:Nat)(ks:List Int)(y:Int):aex t A k (ks++[y])=aex t A k ks+(if A.getD y.toNat false then wt t (k+ks.length) else 0):=by
 induction ks generalizing k with
 |nil=>simp[aex]
 |cons a ks ih=>simp only[List.cons_append,aex,ih,List.length_cons,show k+1+ks.length=k+(ks.length+1) by omega];omega
theorem agx:aey t A 0=0:=rfl
theorem afv(hq:q<t.k.length):aey t A (q+1)=aey t A q+(if A.getD (t.k.getD q default).toNat false then wt t q else 0):=by
 unfold aey
 have e:t.k.take (q+1)=t.k.take q++[t.k.getD q default]:=by rw[List.take_add_one];simp[List.getD_eq_getElem?_getD,hq]
 rw[e,af1]
 have:0+(t.k.take q).length=q:=by simp;omega
 rw[this]
theorem ah3(hq:q<t.k.length)(hb:A.getD (t.k.getD q default).toNat default=true):aey t A (q+1)=aey t A q+wt t q:=by
 rw[afv hq,if_pos (show A.getD (t.k.getD q default).toNat false=true from hb)]
theorem ah4(hq:q<t.k.length)(hb:¬A.getD (t.k.getD q default).toNat default=true):aey t A (q+1)=aey t A q:=by
 rw[afv hq,if_neg (show¬A.getD (t.k.getD q default).toNat false=true from hb),Int.add_zero]
theorem afa(hn:NOk t i)(hq:q<t.k.length):1≤wt t q∧wt t q≤1000:=by
 unfold wt
 split
 ·omega
 ·rename_i hw
  have h1:=hn.wl (fun e=>hw (by rw[e];rfl))
  have:t.w.getD q 0∈t.w:=by rw[List.getD_eq_getElem?_getD,List.getElem?_eq_getElem (by omega),Option.getD_some];exact List.getElem_mem _
  exact hn.ws _ this
theorem afo(hn:NOk t i)(hq:q≤t.k.length):0≤aey t A q∧aey t A q≤1000*q:=by
 induction q with
 |zero=>simp[agx]
 |succ q ih=>
  have:=ih (by omega)
  have:=afa hn (q:=q) (by omega)
  rw[afv (by omega)];split<;>omega
theorem af2(k:Nat)(ks:List Int)(hk:∀y∈ks,0≤y∧y<i):aex t (A.take i) k ks=aex t A k ks:=by
 induction ks generalizing k with
 |nil=>rfl
 |cons a ks ih=>
  have ha:=hk a (by simp)
  have e:(A.take i).getD a.toNat false=A.getD a.toNat false:=by simp[List.getD_eq_getElem?_getD,List.getElem?_take,show a.toNat<i by omega]
  simp only[aex,e,ih _ (fun y hy=>hk y (by simp[hy]))]
theorem ev_1(hn:NOk t i)(hk:t.kind=1):evN h (A.take i) t=h t.server:=by simp[evN,hk]
theorem ev_2(hn:NOk t i)(hk:¬t.kind=1):evN h (A.take i) t=decide (t.need≤aey t A t.k.length):=by
 have h2:t.kind=2:=by rcases hn.kind with h|h;exact absurd h hk;exact h
 unfold evN aey
 rw[List.take_length,af2 0 t.k hn.ks];simp[h2]
def aeF(s:Nat)(i:Int):Bool:=s.testBit i.toNat
theorem agy:aeF s (i:Nat)=s.testBit i:=by simp[aeF]
def mem(s:Nat):Nat→List Int
 |0=>[]
 |j+1=>if s.testBit j then mem s j++[(j:Int)] else mem s j
def aA(s j:Nat):Nat:=(mem s j).length
theorem H6(hb:s.testBit j=true):mem s (j+1)=mem s j++[(j:Int)]:=by rw[mem,if_pos hb]
theorem H7(hb:s.testBit j=false):mem s (j+1)=mem s j:=by rw[mem,if_neg (by rw[hb];simp)]
theorem FH:aA s 0=0:=rfl
theorem FI(hb:s.testBit j=true):aA s (j+1)=aA s j+1:=by unfold aA;rw[H6 hb];simp
theorem FJ(hb:s.testBit j=false):aA s (j+1)=aA s j:=by unfold aA;rw[H7 hb]
theorem mK:(mem s j).length=aA s j:=rfl
theorem H8(h0:aA s j=0):mem s j=[]:=List.eq_nil_of_length_eq_zero h0
theorem lF:aA s j≤j:=by
 induction j with
 |zero=>exact Nat.le_refl _
 |succ j ih=>
  cases hb:s.testBit j with
  |true=>rw[FI hb];omega
  |false=>rw[FJ hb];omega
theorem Ap:(mem s j).take (aA s j)=mem s j:=List.take_of_length_le (Nat.le_refl _)
end
section
open Go.Sy
variable {s i j k n p:Nat}
def low(s:Nat):Nat:=Lib.ctz 16 (s%65536)
def nH(s k:Nat):Nat:=s%65536/2^k*2^k
theorem Z0:nH s 0=s%65536:=by simp[nH]
theorem Aq:nH s k<65536:=Nat.lt_of_le_of_lt (Nat.div_mul_le_self _ _) (Nat.mod_lt _ (by decide))
theorem nW:(nH s k).testBit i=(decide (k≤i)&&(s%65536).testBit i):=by
 unfold nH
 rw[Nat.testBit_mul_two_pow,Nat.testBit_div_two_pow]
 by_cases h:k≤i
 ·simp[h]
 ·simp[h]
theorem oW(h:i<16):(s%65536).testBit i=s.testBit i:=by
 rw[show(65536:Nat)=2^16 by rfl,Nat.testBit_mod_two_pow];simp[h]
theorem Ar(h:16≤i):(s%65536).testBit i=false:=by
 rw[show(65536:Nat)=2^16 by rfl,Nat.testBit_mod_two_pow];simp;omega
theorem H9(hk:k≤p)(h:∀i,k≤i→i<p→s.testBit i=false):mem s p=mem s k:=by
 induction p with
 |zero=>have:k=0:=by omega
        subst this;rfl
 |succ p ih=>
  by_cases e:k=p+1
  ·subst e;rfl
  ·rw[H7 (h p (by omega) (by omega))]
   exact ih (by omega) (fun i h1 h2=>h i h1 (by omega))
structure NextM(s k:Nat)(p:Nat):Prop where
 ge:k≤p
 lt:p<16
 mem:mem s (p+1)=mem s k++[(p:Int)]
 len:aA s (p+1)=aA s k+1
 cut:U (bP (nH s k) (nH s k+65535))=U (nH s (p+1))
theorem N8(h:¬nH s k%65536=0):NextM s k (low (nH s k)):=by
 have hlt:=Aq (s:=s) (k:=k)
 generalize hr:nH s k=r at*
 rw[Nat.mod_eq_of_lt hlt] at h
 obtain⟨m,hm,hp⟩:=Lib.ctzFrom_spec 16 r (by omega) (by simpa using hlt)
 have e:low r=Lib.ctzFrom 16 r:=by unfold low;rw[Nat.mod_eq_of_lt hlt];simp[Lib.ctz,h]
 rw[e]
 generalize Lib.ctzFrom 16 r=p at*
 have hb:∀i,r.testBit i=(decide (p≤i)&&(2*m+1).testBit (i-p)):=fun i=>by
  rw[hm,Nat.mul_comm,Nat.testBit_mul_two_pow]
 have hbp:r.testBit p=true:=by rw[hb];simp
 have hk:k≤p∧(s%65536).testBit p=true:=by
  rw[←hr,nW] at hbp;simpa using hbp
 have hgap:∀i,k≤i→i<p→s.testBit i=false:=fun i h1 h2=>by
  have h3:r.testBit i=false:=by rw[hb];simp;omega
  rw[←hr,nW] at h3
  rw[←oW (by omega)]
  simpa[h1] using h3
 have hsp:s.testBit p=true:=by rw[←oW hp];exact hk.2
 have hmem:mem s (p+1)=mem s k++[(p:Int)]:=by rw[H6 hsp,H9 hk.1 hgap]
 refine⟨hk.1,hp,hmem,by unfold aA;rw[hmem];simp,?_⟩
 unfold U
 congr 1
 have e1:(r+65535)%65536=r-1:=by omega
 unfold bP
 rw[jL,hr,e1,Nat.mod_eq_of_lt hlt,Nat.mod_eq_of_lt Aq]
 refine Nat.eq_of_testBit_eq (fun i=>?_)
 have e2:r-1=2^(p+1)*m+(2^p-1):=by
  have h2:0<2^p:=Nat.two_pow_pos p
  rw[hm,Nat.pow_succ,Nat.mul_add,Nat.mul_one,←Nat.mul_assoc];omega
 have h2:2^p-1<2^(p+1):=by have h2:0<2^p:=Nat.two_pow_pos p;rw[Nat.pow_succ];omega
 rw[Nat.testBit_and,e2,Nat.testBit_two_pow_mul_add _ h2,nW]
 have hs:r.testBit i=(decide (k≤i)&&(s%65536).testBit i):=by rw[←hr,nW]
 by_cases c:p+1≤i
 ·have hk':decide (k≤i)=true:=by simp;omega
  rw[hk',Bool.true_and] at hs
  have hx:r.testBit i=m.testBit (i-(p+1)):=by
   rw[hb]
   have:i-p=(i-(p+1))+1:=by omega
   rw[this,Nat.testBit_succ,show(2*m+1)/2=m by omega]
   simp;omega
  rw[if_neg (by omega),←hs,hx]
  simp[c]
 ·rw[if_pos (by omega),Nat.testBit_two_pow_sub_one]
  have:decide (p+1≤i)=false:=by simpa using c
  rw[this,Bool.false_and]
  by_cases c2:i<p
  ·have:r.testBit i=false:=by rw[hb];simp;omega
   rw[this];simp
  ·simp[c2]
theorem N9(h:nH s k%65536=0)(hk:k≤16):mem s 16=mem s k∧aA s 16=aA s k:=by
 have e:mem s 16=mem s k:=by
  refine H9 hk (fun i h1 h2=>?_)
  have h3:(nH s k).testBit i=false:=by
   rw[Nat.mod_eq_of_lt Aq] at h;rw[h];simp
  rw[nW] at h3
  rw[←oW h2]
  simpa[h1] using h3
 exact⟨e,by unfold aA;rw[e]⟩
end
section
variable {h:Int→Bool} {x:Ex} {t:Nd} {i j q n N:Nat} {A:List Bool} {s:Nat}
structure afk(h:Int→Bool)(x:Ex)(i:Nat)(A:List Bool):Prop where
 len:A.length=60
 tk:A.take i=adD h [] (x.nodes.take i)
theorem afk.zero:afk h x 0 (List.replicate 60 false):=⟨by simp,by simp[adD]⟩
theorem afk.step(hA:afk h x i A)(hi:i<x.nodes.length)(h60:i<60){v:Bool}(hv:v=evN h (A.take i) (x.nodes.getD i default)):afk h x (i+1) (A.set i v):=by
 refine⟨by simp[hA.len],?_⟩
 have e3:x.nodes.take (i+1)=x.nodes.take i++[x.nodes.getD i default]:=by rw[List.take_add_one];simp[List.getD_eq_getElem?_getD,hi]
 have e4:(A.set i v).take (i+1)=A.take i++[v]:=by
  rw[List.take_add_one,List.take_set,List.set_eq_of_length_le (by simp;omega)]
  simp[hA.len,h60]
 rw[e3,aeP,←hA.tk,e4,hv];rfl
theorem afk.root{r:Nat}(hA:afk h x (r+1) A)(hr:x.root=(r:Nat))(hl:r<x.nodes.length):A.getD r default=hold h x:=by
 have h1:=hA.tk
 have e:adD h [] x.nodes=adD h (adD h [] (x.nodes.take (r+1))) (x.nodes.drop (r+1)):=by rw[←aeP,List.take_append_drop]
 obtain⟨l,hl2⟩:=agq h (adD h [] (x.nodes.take (r+1))) (x.nodes.drop (r+1))
 unfold hold
 rw[e,hl2,←h1,hr,Int.toNat_natCast]
 have hn:(A.take (r+1)).length=r+1:=by rw[h1,agp,List.length_take];simp;omega
 have hlA:r<A.length:=by rw[List.length_take] at hn;omega
 simp only[List.getD_eq_getElem?_getD]
 rw[List.getElem?_append_left (by omega),List.getElem?_take_of_lt (by omega),List.getElem?_eq_getElem hlA]
 rfl
end
section
open Go.Sy
variable {l:List Ex} {s q i j k n:Nat}
def Oa(n:Nat):Nat:=2^n-1
def Au(s n:Nat):List Nat:=(List.range n).filter fun i=>s.testBit i
theorem WQ:mem s n=(Au s n).map fun(i:Nat)=>(i:Int):=by
 induction n with
 |zero=>rfl
 |succ n ih=>
  unfold Au at*
  rw[List.range_succ,List.filter_append,List.map_append,←ih]
  cases h:s.testBit n with
  |true=>rw[H6 h];simp[h]
  |false=>rw[H7 h];simp[h]
theorem Ob:aA s n=(Au s n).length:=by unfold aA;rw[WQ];simp
theorem Oc:i∈Au s n↔i<n∧s.testBit i=true:=by simp[Au]
end
section
open Go.Sy
variable {s q x y i j k n:Nat}
theorem afb(h:16≤i):bit x i=false:=Ar h
theorem FK(h:bit x i=true):i<16:=by
 refine Classical.byContradiction fun hn=>?_
 rw[afb (by omega)] at h;cases h
theorem UB:bit (x%65536) i=bit x i:=by unfold bit;rw[Nat.mod_mod]
theorem iy:bit (bP x y) i=(bit x i&&bit y i):=by unfold bit bP;rw[jL,Nat.testBit_and]
theorem UC:bit (sor x y) i=(bit x i||bit y i):=by unfold bit sor;rw[xM,Nat.testBit_or]
theorem xO:bit (dJ x y) i=(bit x i&& !bit y i):=by
 have h:=Nz (x:=x%65536) (y:=y) (j:=i) (Nat.mod_lt _ (by decide))
 by_cases hi:i<16
 ·have e:dJ x y%65536=TL (x%65536) y:=by
   unfold dJ TL
   rw[jL];congr 1;omega
  unfold bit
  rw[e,h,oW hi (s:=y)]
 ·rw[afb (by omega),afb (x:=x) (by omega)];rfl
theorem aho(hk:k<16):bit (2^k) i=decide (i=k):=by
 have h:2^k<65536:=by rw[show(65536:Nat)=2^16 by rfl];exact Nat.pow_lt_pow_right (by decide) hk
 unfold bit
 rw[Nat.mod_eq_of_lt h,Nat.testBit_two_pow]
 simp only[decide_eq_decide];exact⟨fun h=>h.symm,fun h=>h.symm⟩
theorem CY(hn:n≤16):bit (Oa n) i=decide (i<n):=by
 have h:2^n≤65536:=by rw[show(65536:Nat)=2^16 by rfl];exact Nat.pow_le_pow_right (by decide) hn
 have h2:0<2^n:=Nat.two_pow_pos n
 unfold bit Oa
 rw[Nat.mod_eq_of_lt (by omega),Nat.testBit_two_pow_sub_one]
theorem zA:bit 0 i=false:=by simp[bit]
theorem mM:x%65536=y%65536↔∀i,i<16→bit x i=bit y i:=by
 refine⟨fun h i _=>by unfold bit;rw[h],fun h=>Nat.eq_of_testBit_eq fun i=>?_⟩
 by_cases hi:i<16
 ·exact h i hi
 ·rw[Ar (by omega),Ar (by omega)]
theorem Od:x%65536=0↔∀i,i<16→bit x i=false:=by
 have:=mM (x:=x) (y:=0)
 simp only[zA,Nat.zero_mod] at this
 exact this
theorem dR:dJ x y%65536=0↔∀i,bit x i=true→bit y i=true:=by
 rw[Od]
 refine⟨fun h i hx=>?_,fun h i _=>?_⟩
 ·have:=h i (FK hx)
  rw[xO,hx] at this
  simpa using this
 ·rw[xO]
  cases hx:bit x i with
  |false=>rfl
  |true=>rw[h i hx];rfl
theorem UD(h:∀i,bit s i=true→i<n):s%65536<2^n:=by
 refine Nat.lt_of_not_le fun hge=>?_
 obtain⟨k,hk1,hk2⟩:=Nat.exists_ge_and_testBit_of_ge_two_pow hge
 have:=h k hk2
 omega
end
section
open Go.Sy
variable {s q x y i j k n m:Nat} {go:Nat→Bool}
def fd(go:Nat→Bool)(j:Nat):Nat→Nat×Bool
 |0=>(j,true)
 |n+1=>if go (j+1)=true then fd go (j+1) n else(j+1,false)
theorem AA(h:go (j+1)=true):fd go j (n+1)=fd go (j+1) n:=by simp[fd,h]
theorem Kv(h:go (j+1)=false):fd go j (n+1)=(j+1,false):=by simp[fd,h]
theorem acM(h0:go j=true)(h:(fd go j n).2=true):go (fd go j n).1=true∧(fd go j n).1=j+n:=by
 induction n generalizing j with
 |zero=>exact⟨h0,rfl⟩
 |succ n ih=>
  by_cases hg:go (j+1)=true
  ·rw[AA hg] at h⊢
   have:=ih hg h
   exact⟨this.1,by rw[this.2];omega⟩
  ·rw[Kv (by simpa using hg)] at h;cases h
theorem Z6(h:(fd go j n).2=true):fd go j (n+m)=fd go (j+n) m:=by
 induction n generalizing j with
 |zero=>rw[Nat.zero_add];rfl
 |succ n ih=>
  by_cases hg:go (j+1)=true
  ·rw[AA hg] at h
   rw[show n+1+m=n+m+1 by omega,AA hg,ih h,show j+1+n=j+(n+1) by omega]
  ·rw[Kv (by simpa using hg)] at h;cases h
theorem Oe(h:(fd go j n).2=false):fd go j (n+m)=fd go j n:=by
 induction n generalizing j with
 |zero=>cases h
 |succ n ih=>
  by_cases hg:go (j+1)=true
  ·rw[AA hg] at h⊢
   rw[show n+1+m=n+m+1 by omega,AA hg,ih h]
  ·have hg:go (j+1)=false:=by simpa using hg
   rw[Kv hg,show n+1+m=n+m+1 by omega,Kv hg]
def gq(m k:Nat):List Nat:=(List.range (2^m)).filter fun n=>decide ((aA n 16)=k)
def UE(n:Nat):Nat:=bP n (FE n)
def upV(n:Nat):Nat:=n+UE n
def FL(n:Nat):Nat:=sor (upV n) (UA (pQ n (upV n)) (UE n)%4294967296/2^2)
def FM(m k:Nat):Bool:=
 let l:=gq m k
 decide (0<l.length)&&decide (l.length≤64)&&decide (l.getD 0 0=2^k-1)&&(List.range l.length).all fun j=>
  let n:=l.getD j 0
  decide (n<2^m)&&(if n=0 then decide (j+1=l.length) else decide (UE n%4294967296≠0)&&(if j+1<l.length then decide (FL n%4294967296=l.getD (j+1) 0) else !decide (FL n%4294967296<2^m)))
theorem Ia:∀m,m<7→∀k,k<m+1→FM m k=true:=by decide+kernel
structure Xl(m k j n:Nat):Prop where
 lt:n<2^m
 zero:n=0→j+1=(gq m k).length
 low:n≠0→UE n%4294967296≠0
 next:n≠0→j+1<(gq m k).length→FL n%4294967296=(gq m k).getD (j+1) 0
 last:n≠0→¬j+1<(gq m k).length→¬FL n%4294967296<2^m
theorem UF(hm:m<7)(hk:k≤m)(hj:j<(gq m k).length):Xl m k j ((gq m k).getD j 0):=by
 have h:=Ia m hm k (by omega)
 unfold FM at h
 simp only[Bool.and_eq_true,decide_eq_true_eq,List.all_eq_true,List.mem_range] at h
 obtain⟨_,h⟩:=h
 obtain⟨h1,h2⟩:=h j hj
 refine⟨h1,fun e=>?_,fun e=>?_,fun e e2=>?_,fun e e2=>?_⟩
 ·rw[if_pos e] at h2;simpa using h2
 ·rw[if_neg e] at h2;simp only[Bool.and_eq_true,decide_eq_true_eq] at h2;exact h2.1
 ·rw[if_neg e] at h2;simp only[Bool.and_eq_true,decide_eq_true_eq] at h2;rw[if_pos e2] at h2;simpa using h2.2
 ·rw[if_neg e] at h2;simp only[Bool.and_eq_true,decide_eq_true_eq] at h2;rw[if_neg e2] at h2;simpa using h2.2
theorem FN(hm:m<7)(hk:k≤m):0<(gq m k).length∧(gq m k).length≤64∧(gq m k).getD 0 0=2^k-1:=by
 have h:=Ia m hm k (by omega)
 unfold FM at h
 simp only[Bool.and_eq_true,decide_eq_true_eq] at h
 exact⟨h.1.1.1,h.1.1.2,h.1.2⟩
def zC(ms:List Nat)(n:Nat):Nat→Nat
 |0=>0
 |i+1=>if Ku n i=true then sor (zC ms n i) (2^ms.getD i 0) else zC ms n i
def pick(s n:Nat):Nat:=zC (Au s 16) n (aA s 16)
def chs(s k:Nat):List Nat:=(gq (aA s 16) k).map (pick s)
def rY(s:Nat):Nat→List Nat
 |0=>[]
 |k+1=>rY s k++chs s k
def dW(s:Nat):List Nat:=rY s (aA s 16+1)
end
section
open Go.Sy
variable {n i j k m s N:Nat} {go:Nat→Bool}
def sbL(s k:Nat):Nat:=(rY s k).length
theorem xP:sbL s (k+1)=sbL s k+(gq (aA s 16) k).length:=by unfold sbL;simp[rY,chs]
theorem WS:sbL s 0=0:=rfl
theorem zD:∃r,rY s (k+n)=rY s k++r:=by
 induction n with
 |zero=>exact⟨[],by simp⟩
 |succ n ih=>
  obtain⟨r,hr⟩:=ih
  exact⟨r++chs s (k+n),by show rY s (k+n)++chs s (k+n)=_;rw[hr,List.append_assoc]⟩
theorem FO(h:k≤m):sbL s k≤sbL s m:=by
 obtain⟨r,hr⟩:=zD (s:=s) (k:=k) (n:=m-k)
 rw[show k+(m-k)=m by omega] at hr
 unfold sbL;rw[hr,List.length_append];omega
theorem UG(hk:k≤aA s 16)(hi:i<(gq (aA s 16) k).length):(dW s).getD (sbL s k+i) 0=pick s ((gq (aA s 16) k).getD i 0):=by
 obtain⟨r,hr⟩:=zD (s:=s) (k:=k+1) (n:=aA s 16-k)
 rw[show k+1+(aA s 16-k)=aA s 16+1 by omega] at hr
 unfold dW sbL;rw[hr,show rY s (k+1)=rY s k++chs s k from rfl,List.append_assoc]
 have hc:i<(chs s k).length:=by unfold chs;simpa using hi
 simp only[List.getD_eq_getElem?_getD]
 rw[List.getElem?_append_right (by omega),Nat.add_sub_cancel_left,List.getElem?_append_left hc]
 unfold chs;simp[List.getElem?_eq_getElem hi]
structure SG(s:Nat)(go:Nat→Bool)(k:Nat):Prop where
 hle:k≤aA s 16+1
 hgo:go (sbL s k)=true
 hfd:fd go 0 (dW s).length=fd go (sbL s k) ((dW s).length-sbL s k)
theorem SG.zero(h:go 0=true):SG s go 0:=⟨by omega,h,by rw[WS];rfl⟩
theorem wy:(dW s).length=sbL s (aA s 16+1):=rfl
theorem SG.t(h:SG s go k)(hk:k≤aA s 16)(hb:(fd go (sbL s k) (gq (aA s 16) k).length).2=true):SG s go (k+1)∧(fd go (sbL s k) (gq (aA s 16) k).length).1=sbL s (k+1):=by
 have h1:=acM h.hgo hb
 have hl:=FO (s:=s) (k:=k+1) (m:=aA s 16+1) (by omega)
 rw[←wy] at hl
 have hs:=xP (s:=s) (k:=k)
 rw[←hs] at h1
 refine⟨⟨by omega,by rw[←h1.2];exact h1.1,?_⟩,h1.2⟩
 rw[h.hfd,show(dW s).length-sbL s k=(gq (aA s 16) k).length+((dW s).length-sbL s (k+1)) by omega,Z6 hb,←hs]
theorem SG.f(h:SG s go k)(hk:k≤aA s 16)(hb:(fd go (sbL s k) (gq (aA s 16) k).length).2=false):fd go 0 (dW s).length=fd go (sbL s k) (gq (aA s 16) k).length:=by
 have hl:=FO (s:=s) (k:=k+1) (m:=aA s 16+1) (by omega)
 rw[←wy] at hl
 have hs:=xP (s:=s) (k:=k)
 rw[h.hfd,show(dW s).length-sbL s k=(gq (aA s 16) k).length+((dW s).length-sbL s (k+1)) by omega,Oe hb]
theorem SG.e(h:SG s go k)(hk:k=aA s 16+1):(fd go 0 (dW s).length).1=sbL s k:=by
 rw[h.hfd,wy,hk,Nat.sub_self];rfl
end
section
open Go.Sy
variable {l:List Ex} {s q x y i j k n L:Nat} {h g:Int→Bool} {t:Nd}
def LeB(a b:List Bool):Prop:=a.length=b.length∧∀j,a.getD j false=true→b.getD j false=true
theorem air(hw:∀w∈t.w,1≤w)(k:Nat):0≤wt t k:=by
 unfold wt
 split
 ·omega
 ·by_cases hk:k<t.w.length
  ·have:=hw (t.w.getD k 0) (by rw[List.getD_eq_getElem?_getD,List.getElem?_eq_getElem hk,Option.getD_some];exact List.getElem_mem hk)
   omega
  ·simp[List.getD_eq_getElem?_getD,List.getElem?_eq_none (Nat.le_of_not_lt hk)]
theorem af4{a b:List Bool}(hw:∀w∈t.w,1≤w)(hab:LeB a b)(ks:List Int)(k:Nat):aex t a k ks≤aex t b k ks:=by
 induction ks generalizing k with
 |nil=>simp[aex]
 |cons c ks ih=>
  simp only[aex]
  have h1:=ih (k+1)
  have h2:=air hw k
  by_cases ha:a.getD c.toNat false=true
  ·rw[if_pos ha,if_pos (hab.2 _ ha)];omega
  ·rw[if_neg ha];split<;>omega
theorem agA{a b:List Bool}(hw:∀w∈t.w,1≤w)(hab:LeB a b)(hg:∀i,h i=true→g i=true)(he:evN h a t=true):evN g b t=true:=by
 unfold evN at*
 simp only[Bool.or_eq_true,Bool.and_eq_true,decide_eq_true_eq] at*
 rcases he with⟨h1,h2⟩|⟨h1,h2⟩
 ·exact .inl ⟨h1,hg _ h2⟩
 ·exact .inr ⟨h1,by have:=af4 hw hab t.k 0;omega⟩
theorem af5(ns:List Nd)(hw:∀t∈ns,∀w∈t.w,1≤w)(hg:∀i,h i=true→g i=true):∀{a b:List Bool},LeB a b→LeB (adD h a ns) (adD g b ns):=by
 induction ns with
 |nil=>exact fun hab=>hab
 |cons t ns ih=>
  intro a b hab
  simp only[adD]
  refine ih (fun u hu=>hw u (List.mem_cons_of_mem _ hu)) ⟨by simp[hab.1],fun j hj=>?_⟩
  have hl:=hab.1
  by_cases h1:j<a.length
  ·rw[List.getD_eq_getElem?_getD,List.getElem?_append_left h1,←List.getD_eq_getElem?_getD] at hj
   rw[List.getD_eq_getElem?_getD,List.getElem?_append_left (by omega),←List.getD_eq_getElem?_getD]
   exact hab.2 j hj
  ·by_cases h2:j=a.length
   ·subst h2
    have e1:(a++[evN h a t]).getD a.length false=evN h a t:=by simp[List.getD_eq_getElem?_getD]
    have e2:(b++[evN g b t]).getD a.length false=evN g b t:=by rw[hl];simp[List.getD_eq_getElem?_getD]
    rw[e1] at hj;rw[e2]
    exact agA (hw t List.mem_cons_self) hab hg hj
   ·have:(a++[evN h a t]).getD j false=false:=by
     rw[List.getD_eq_getElem?_getD,List.getElem?_eq_none (by simp;omega)];rfl
    rw[this] at hj;cases hj
theorem af6{x:Ex}(hx:XOk x)(hg:∀i,h i=true→g i=true)(hh:hold h x=true):hold g x=true:=by
 refine(af5 x.nodes (fun t ht w hw=>?_) hg (a:=[]) (b:=[]) ⟨rfl,fun _ h=>h⟩).2 _ hh
 obtain⟨i,hi,rfl⟩:=List.getElem_of_mem ht
 have:=hx.node i hi
 rw[List.getD_eq_getElem?_getD,List.getElem?_eq_getElem hi,Option.getD_some] at this
 exact(this.ws w hw).1
end
section
open Go.Sy
variable {n i j k m s q d x N L:Nat} {p:Nat→Bool} {xs:List Nat}
def eO(acc:List Nat)(q:Nat):Bool:=acc.any fun m=>decide (dJ m q%65536=0)
end
section
variable {h hs:Int→Bool} {mk:Nd→List Int→Nd} {sub:List Nd→Nd→Option (List Nd)} {nodes out o e:List Nd} {Pn:Nd→Prop} {V A B:List Bool} {i j n:Nat}
theorem agJ{t:Nd}(h:NOk t i):zt t i=0:=by
 unfold zt
 rw[if_neg,if_neg,if_neg,if_neg,if_neg]
 ·rw[List.any_eq_true];rintro⟨k,hk,hu⟩
  have:=h.ks k hk
  simp[unk] at hu;omega
 ·rintro⟨h1,h2⟩;exact h2 (h.wl h1)
 ·rw[List.any_eq_true];rintro⟨w,hw,hu⟩
  have:=h.ws w hw
  simp[adM] at hu;omega
 ·have:=h.srv;have:=h.need;omega
 ·rintro(h1|h1|h1)
  ·rcases h.kind with h2|h2
   ·exact h1.1 h2
   ·exact h1.2 h2
  ·have:=h.leaf h1.1
   rcases h1.2 with h2|h2|h2
   ·exact h2 this.1
   ·exact h2 this.2.1
   ·exact h2 this.2.2
  ·exact h1.2 (h.zero h1.1)
theorem aga{a:List Nd}(h:∀j,j<a.length→NOk (a.getD j default) j):zo 0 a=0:=by
 have key:∀j,j≤a.length→zo 0 (a.take j)=0:=by
  intro j
  induction j with
  |zero=>intro _;simp[zo]
  |succ j ih=>intro hj;exact afn (by omega) (ih (by omega)) (agJ (h j (by omega)))
 have:=key a.length (Nat.le_refl _)
 rwa [List.take_length] at this
theorem ae6{x:Ex}(h:XOk x):PG x=0:=by
 have h1:=h.pos;have h2:=h.few;have h3:=h.root
 unfold PG
 rw[if_neg (by omega),if_neg (by omega),if_neg (by rw[aga h.node];simp),if_neg (by omega)]
end
section
open Go.Sy
variable {n i j k:Nat} {D D':Nat→Nat→Bool} {qs:List Nat}
def jxG(p:Nat→Bool):Nat→Nat→Option Nat
 |_,0=>none
 |j,n+1=>if p j=true then some j else jxG p (j+1) n
def jx(p:Nat→Bool)(n:Nat):Option Nat:=jxG p 0 n
theorem QT{p:Nat→Bool}(h:jxG p k n=some j):k≤j∧j<k+n∧p j=true∧∀i,k≤i→i<j→p i=false:=by
 induction n generalizing k with
 |zero=>cases h
 |succ n ih=>
  unfold jxG at h
  split at h
  ·cases h;exact⟨Nat.le_refl _,by omega,‹_›,fun i h1 h2=>by omega⟩
  ·rename_i hn
   obtain⟨h1,h2,h3,h4⟩:=ih h
   refine⟨by omega,by omega,h3,fun i hi hi2=>?_⟩
   by_cases e:i=k
   ·subst e;simpa using hn
   ·exact h4 i (by omega) hi2
theorem WB{p:Nat→Bool}(h:jx p n=some j):j<n∧p j=true∧∀i,i<j→p i=false:=by
 have:=QT h;exact⟨by omega,this.2.2.1,fun i hi=>this.2.2.2 i (Nat.zero_le _) hi⟩
theorem adq{p:Nat→Bool}(h:jx p n=none):∀i,i<n→p i=false:=fun i hi=>by
 cases e:p i with
 |false=>rfl
 |true=>
  exfalso
  have key:∀(m k:Nat),jxG p k m=none→∀i,k≤i→i<k+m→p i=false:=by
   intro m
   induction m with
   |zero=>intro k _ i h1 h2;omega
   |succ m ih=>
    intro k hk i h1 h2
    unfold jxG at hk
    split at hk
    ·cases hk
    ·rename_i hn
     by_cases e:i=k
     ·subst e;simpa using hn
     ·exact ih (k+1) hk i (by omega) (by omega)
  rw[key n 0 h i (by omega) (by omega)] at e;cases e
end
section
open Go.Sy
variable {n i j:Nat} {F:Nat→Bool}
def goF(F:Nat→Bool):Nat→Bool
 |0=>true
 |j+1=>goF F j&& !F j
theorem Jw(h:∀i,i<j→F i=false):goF F j=true:=by
 induction j with
 |zero=>rfl
 |succ j ih=>show(goF F j&& !F j)=true;rw[ih (fun i hi=>h i (by omega)),h j (by omega)];rfl
theorem G8(h:goF F j=true):∀i,i<j→F i=false:=by
 induction j with
 |zero=>intro i hi;omega
 |succ j ih=>
  intro i hi
  have h:(goF F j&& !F j)=true:=h
  rw[Bool.and_eq_true] at h
  by_cases e:i=j
  ·subst e;simpa using h.2
  ·exact ih h.1 i (by omega)
theorem fdF{k:Nat}(hg:goF F k=true):fd (goF F) k n=match jxG F k n with|some j=>(j+1,false)|none=>(k+n,true):=by
 induction n generalizing k with
 |zero=>rfl
 |succ n ih=>
  unfold jxG
  cases hF:F k with
  |true=>
   rw[Kv (by show(goF F k&& !F k)=false;rw[hg,hF];rfl)];simp
  |false=>
   have hg2:goF F (k+1)=true:=by show(goF F k&& !F k)=true;rw[hg,hF];rfl
   rw[AA hg2,ih hg2]
   simp only[Bool.false_eq_true,if_false]
   cases jxG F (k+1) n with
   |none=>simp;omega
   |some j=>rfl
end
