/- Bp1 Bp2 Bp3 Bp4 Bp5 Bp6 Bp7 Bp8 Bp9 Bp10 Bp12 Bp13 Bp14 Bp17 Bp18 Bp19. No condition. -/
import Derived.Test.YtcbginhpibfgaaaGreatDoorSymG36
import Derived.Lib.TrailingZeros
set_option linter.all false
namespace Go.Bp
section
structure Nd where
 kind:Int
 server:Int
 need:Int
 wz:Bool
 w:List Int
 kz:Bool
 k:List Int
deriving DecidableEq
instance:Inhabited Nd:=⟨⟨0,0,0,true,[],true,[]⟩⟩
structure Ex where
 nz:Bool
 nodes:List Nd
 root:Int
deriving DecidableEq
instance:Inhabited Ex:=⟨⟨true,[],0⟩⟩
def srv(i:Int):Ex:=⟨false,[⟨1,i,0,true,[],true,[]⟩],0⟩
def sh(b:Int)(n:Nd):Nd:={n with k:=n.k.map (· +b)}
def wt(n:Nd)(k:Nat):Int:=if n.w.length=0 then 1 else n.w.getD k 0
def gotA(n:Nd)(l:List Bool)(k:Nat):List Int→Int
 |[]=>0
 |x::xs=>(if l.getD x.toNat false then wt n k else 0)+gotA n l (k+1) xs
def evN(h:Int→Bool)(l:List Bool)(n:Nd):Bool:=(decide (n.kind=1)&&h n.server)||(decide (n.kind=2)&&decide (n.need≤gotA n l 0 n.k))
def nA(h:Int→Bool)(acc:List Bool):List Nd→List Bool
 |[]=>acc
 |n::ns=>nA h (acc++[evN h acc n]) ns
def hold(h:Int→Bool)(x:Ex):Bool:=(nA h [] x.nodes).getD x.root.toNat false
theorem Wh(h:Int→Bool)(acc:List Bool)(ns:List Nd):(nA h acc ns).length=acc.length+ns.length:=by
 induction ns generalizing acc with
 |nil=>simp[nA]
 |cons n ns ih=>rw[nA,ih];simp;omega
theorem Ew(h:Int→Bool)(acc:List Bool)(ns ms:List Nd):nA h acc (ns++ms)=nA h (nA h acc ns) ms:=by
 induction ns generalizing acc with
 |nil=>rfl
 |cons n ns ih=>simp only[List.cons_append,nA,ih]
theorem Wi(h:Int→Bool)(acc:List Bool)(ns:List Nd):∃l,nA h acc ns=acc++l:=by
 induction ns generalizing acc with
 |nil=>exact⟨[],by simp[nA]⟩
 |cons n ns ih=>
  obtain⟨l,hl⟩:=ih (acc++[evN h acc n])
  exact⟨evN h acc n::l,by rw[nA,hl];simp⟩
structure Good(x:Ex):Prop where
 ne:x.nodes≠[]
 root:x.root=(x.nodes.length:Int)-1
 kids:∀n∈x.nodes,∀y∈n.k,0≤y
def cnt(l:List Bool):Nat:=(l.filter id).length
end
section
def upTo(a:Int)(n:Nat):List Int:=(List.range n).map fun(i:Nat)=>a+i
def full(h:Int→Bool)(a:Int)(n:Nat):Bool:=((upTo a n).map h).all id
def some'(h:Int→Bool)(a:Int)(n:Nat):Bool:=((upTo a n).map h).any id
def q3(a b c:Bool):Bool:=decide ((2:Int)≤(cnt [a,b,c]:Nat))
end
set_option maxRecDepth 20000
section
structure NOk(n:Nd)(i:Nat):Prop where
 kind:n.kind=1∨n.kind=2
 srv:0≤n.server∧n.server<12
 leaf:n.kind=1→n.need=0∧n.w=[]∧n.k=[]
 zero:n.kind=2→n.server=0
 need:0≤n.need∧n.need≤100000
 ws:∀w∈n.w,1≤w∧w≤1000
 wl:n.w≠[]→n.w.length=n.k.length
 ks:∀k∈n.k,0≤k∧k<i
structure XOk(x:Ex):Prop where
 pos:0<x.nodes.length
 few:x.nodes.length≤60
 node:∀j,j<x.nodes.length→NOk (x.nodes.getD j default) j
 root:0≤x.root∧x.root<x.nodes.length
def core(n:Nd):Int×Int×Int×List Int×List Int:=(n.kind,n.server,n.need,n.w,n.k)
def P6(g:Nat→List Nd→List Nd)(mk:Nd→List Int→Nd)(n:Nd):List Int→List Nd→List Int→List Nd
 |[],out,ks=>out++[mk n ks]
 |k::kk,out,ks=>P6 g mk n kk (g k.toNat out) (ks++[((g k.toNat out).length:Int)-1])
def kH(mk:Nd→List Int→Nd)(sub:List Nd→Nd→Option (List Nd))(nodes:List Nd):Nat→Nat→List Nd→List Nd
 |0,_,out=>out
 |f+1,i,out=>match sub out (nodes.getD i default) with
  |some out'=>out'
  |none=>P6 (kH mk sub nodes f) mk (nodes.getD i default) (nodes.getD i default).k out []
end
section
structure NF(c:Nat)(n:Nd):Prop where
 wz:n.wz=true→n.w=[]
 kzz:n.kz=n.k.isEmpty
 wl:n.w.length≤1000
 kl:n.k.length≤1000
 ky:∀y∈n.k,0≤y∧y<c
structure XF(b:Nat)(x:Ex):Prop where
 ne:x.nodes≠[]
 root:x.root=(x.nodes.length:Int)-1
 few:x.nodes.length≤b
 nd:∀n∈x.nodes,NF x.nodes.length n
theorem XF.mono{b c:Nat} {x:Ex}(h:XF b x)(hb:b≤c):XF c x:=⟨h.ne,h.root,Nat.le_trans h.few hb,h.nd⟩
theorem XF.good{b:Nat} {x:Ex}(h:XF b x):Good x:=⟨h.ne,h.root,fun n hn y hy=>((h.nd n hn).ky y hy).1⟩
theorem NF.sh{c d:Nat} {n:Nd}(h:NF c n):NF (d+c) (sh d n):=⟨h.wz,by rw[show(Bp.sh d n).kz=n.kz from rfl,h.kzz];show _=(n.k.map _).isEmpty;cases n.k<;>rfl,h.wl,by
 show(n.k.map _).length≤1000
 rw[List.length_map];exact h.kl,fun y hy=>by
 obtain⟨u,hu,rfl⟩:=List.mem_map.1 hy
 have:=h.ky u hu
 show 0≤u+(d:Int)∧u+(d:Int)<_
 omega⟩
theorem NF.mono{c d:Nat} {n:Nd}(h:NF c n)(hc:c≤d):NF d n:=⟨h.wz,h.kzz,h.wl,h.kl,fun y hy=>by have:=h.ky y hy;omega⟩
end
section
def ix{α:Type}(p:α→Bool)(l:List α):Int:=match l.findIdx? p with
 |some i=>i
 |none=> -1
section
variable {α:Type} [Inhabited α]{p:α→Bool} {l:List α} {j:Nat}
theorem ahI(hj:j<l.length)(h:∀i,i<j→p (l.getD i default)=false)(hp:p (l.getD j default)=true):ix p l=j:=by
 have:l.findIdx? p=some j:=by
  rw[List.findIdx?_eq_some_iff_getElem]
  refine⟨hj,by simpa[List.getD_eq_getElem?_getD,hj] using hp,fun i hi=>?_⟩
  have:=h i hi
  have hil:i<l.length:=by omega
  simpa[List.getD_eq_getElem?_getD,hil] using this
 unfold ix;rw[this]
theorem ab1(h:∀i,i<l.length→p (l.getD i default)=false):ix p l= -1:=by
 have:l.findIdx? p=none:=by
  rw[List.findIdx?_eq_none_iff]
  intro x hx
  obtain⟨i,hi,rfl⟩:=List.getElem_of_mem hx
  have:=h i hi
  simpa[List.getD_eq_getElem?_getD,hi] using this
 unfold ix;rw[this]
theorem Wj(h:∀i,i<j→p (l.getD i default)=false)(hp:p (l.getD j default)=false):∀i,i<j+1→p (l.getD i default)=false:=fun i hi=>by
 by_cases e:i=j
 ·subst e;exact hp
 ·exact h i (by omega)
theorem Wl:decide (0≤ix p l)=l.any p:=by
 unfold ix
 cases h:l.findIdx? p with
 |none=>
  rw[List.findIdx?_eq_none_iff] at h
  have:l.any p=false:=by rw[List.any_eq_false];intro x hx;simp[h x hx]
  rw[this];rfl
 |some i=>
  rw[List.findIdx?_eq_some_iff_getElem] at h
  obtain⟨hi,hp,_⟩:=h
  have:l.any p=true:=List.any_eq_true.2 ⟨_,List.getElem_mem hi,hp⟩
  rw[this];simp
end
end
section
def gS(g:Nat→List Nd→List Nd):List Int→List Nd×List Int→List Nd×List Int
 |[],s=>s
 |k::kk,s=>gS g kk (g k.toNat s.1,s.2++[((g k.toNat s.1).length:Int)-1])
theorem Wm(g:Nat→List Nd→List Nd)(mk:Nd→List Int→Nd)(n:Nd)(ks:List Int)(out:List Nd)(a:List Int):P6 g mk n ks out a=(gS g ks (out,a)).1++[mk n (gS g ks (out,a)).2]:=by
 induction ks generalizing out a with
 |nil=>rfl
 |cons k kk ih=>simp only[P6,gS,ih]
theorem Ik{l:List Int} {q:Nat}(h:q<l.length):l.take (q+1)=l.take q++[l.getD q default]:=by
 rw[List.take_add_one];simp[List.getD_eq_getElem?_getD,h]
theorem ab2(mk:Nd→List Int→Nd)(sub:List Nd→Nd→Option (List Nd))(nodes:List Nd)(f i:Nat)(out:List Nd)(h:sub out (nodes.getD i default)=none):
 kH mk sub nodes (f+1) i out=(gS (kH mk sub nodes f) (nodes.getD i default).k (out,[])).1++[mk (nodes.getD i default) (gS (kH mk sub nodes f) (nodes.getD i default).k (out,[])).2]:=by
 rw[kH,h,Wm]
theorem Sl(mk:Nd→List Int→Nd)(sub:List Nd→Nd→Option (List Nd))(nodes:List Nd)(f i:Nat)(out o:List Nd)(h:sub out (nodes.getD i default)=some o):kH mk sub nodes (f+1) i out=o:=by
 rw[kH,h]
def qW(c:Int)(acc:List Int)(s:Int):List Int→Int
 |[]=>s
 |y::ys=>qW c acc (min c (s+acc.getD y.toNat 0)) ys
def szN(c:Int)(of:Int→Int)(acc:List Int)(n:Nd):Int:=qW c acc (if n.kind=1 then of n.server else 1) n.k
def szA(c:Int)(of:Int→Int)(acc:List Int):List Nd→List Int
 |[]=>acc
 |n::ns=>szA c of (acc++[szN c of acc n]) ns
theorem NV(c:Int)(acc:List Int)(s:Int)(ks:List Int)(k:Int):qW c acc s (ks++[k])=min c (qW c acc s ks+acc.getD k.toNat 0):=by
 induction ks generalizing s with
 |nil=>rfl
 |cons y ks ih=>simp only[List.cons_append,qW,ih]
theorem ab3{c:Int} {acc:List Int} {s:Int} {ks:List Int} {q:Nat}(h:q<ks.length):qW c acc s (ks.take (q+1))=min c (qW c acc s (ks.take q)+acc.getD (ks.getD q default).toNat 0):=by
 rw[Ik h,NV]
theorem Wo(c:Int)(of:Int→Int)(acc:List Int)(ns:List Nd)(n:Nd):szA c of acc (ns++[n])=szA c of acc ns++[szN c of (szA c of acc ns) n]:=by
 induction ns generalizing acc with
 |nil=>rfl
 |cons m ns ih=>simp only[List.cons_append,szA,ih]
theorem aeG{c:Int} {of:Int→Int} {ns:List Nd} {q:Nat}(h:q<ns.length):szA c of [] (ns.take (q+1))=szA c of [] (ns.take q)++[szN c of (szA c of [] (ns.take q)) (ns.getD q default)]:=by
 have e:ns.take (q+1)=ns.take q++[ns.getD q default]:=by rw[List.take_add_one];simp[List.getD_eq_getElem?_getD,h]
 rw[e,Wo]
theorem ab4(c:Int)(of:Int→Int)(acc:List Int)(ns:List Nd):(szA c of acc ns).length=acc.length+ns.length:=by
 induction ns generalizing acc with
 |nil=>simp[szA]
 |cons n ns ih=>rw[szA,ih];simp;omega
def size(c:Int)(of:Int→Int)(x:Ex):Int:=(szA c of [] (x.nodes.take (x.root.toNat+1))).getD x.root.toNat 0
def s0(of:Int→Int)(n:Nd):Int:=if n.kind=1 then of n.server else 1
structure InO(N:Nat)(c:Int)(of:Int→Int)(ns:List Nd)(i:Nat)(A:List Int):Prop where
 len:A.length=N
 tk:A.take i=szA c of [] (ns.take i)
structure InI(N:Nat)(c:Int)(of:Int→Int)(ns:List Nd)(i q:Nat)(A:List Int):Prop where
 len:A.length=N
 tk:A.take i=szA c of [] (ns.take i)
 at':A.getD i default=qW c (szA c of [] (ns.take i)) (s0 of (ns.getD i default)) ((ns.getD i default).k.take q)
theorem GD{l:List Int} {i:Nat} {v:Int}:(l.set i v).take i=l.take i:=by
 rw[List.take_set,List.set_eq_of_length_le (by simp;omega)]
theorem GG{l:List Int} {i:Nat} {v d:Int}(h:i<l.length):(l.set i v).getD i d=v:=by simp[List.getD_eq_getElem?_getD,h]
variable {N:Nat} {c:Int} {of:Int→Int} {ns:List Nd} {i q:Nat} {A:List Int}
theorem InI.tk_at(h:InI N c of ns i q A){k:Nat}(hk:k<i):A.getD k default=(szA c of [] (ns.take i)).getD k 0:=by
 rw[←h.tk];simp[List.getD_eq_getElem?_getD,List.getElem?_take,hk]
theorem InI.step(h:InI N c of ns i q A)(hi:i<N)(hq:q<(ns.getD i default).k.length)(hk:((ns.getD i default).k.getD q default).toNat<i){v:Int}(hv:v=min c (A.getD i default+A.getD ((ns.getD i default).k.getD q default).toNat default)):InI N c of ns i (q+1) (A.set i v):=by
 refine⟨by simp[h.len],by rw[GD];exact h.tk,?_⟩
 rw[GG (by rw[h.len];exact hi),hv,ab3 hq,h.at',h.tk_at hk]
theorem InI.done(h:InI N c of ns i q A)(hi:i<ns.length)(hN:i<N)(hq:q=(ns.getD i default).k.length):InO N c of ns (i+1) A:=by
 refine⟨h.len,?_⟩
 rw[aeG hi,←h.tk]
 have e:A.take (i+1)=A.take i++[A.getD i default]:=Ik (by rw[h.len];exact hN)
 rw[e,h.at',hq,List.take_length,h.tk];rfl
theorem InO.at'(h:InO N c of ns i A){k:Nat}(hk:k<i):A.getD k default=(szA c of [] (ns.take i)).getD k 0:=by
 rw[←h.tk];simp[List.getD_eq_getElem?_getD,List.getElem?_take,hk]
end
section
variable {mk:Nd→List Int→Nd} {sub:List Nd→Nd→Option (List Nd)} {nodes:List Nd} {c:Int} {of:Int→Int} {f i:Nat} {out:List Nd}
def Tab(mk:Nd→List Int→Nd)(sub:List Nd→Nd→Option (List Nd))(nodes:List Nd)(c:Int)(S:List Int)(i:Nat):Prop:=
 ∀j,j<i→∀f,j<f→∀out:List Nd,1≤((kH mk sub nodes f j out).length:Int)-out.length∧S.getD j 0=min c (((kH mk sub nodes f j out).length:Int)-out.length)
theorem ahJ{S:List Int}(hc:1≤c)(hT:Tab mk sub nodes c S i)(hf:i≤f)(ks:List Int)(hk:∀k∈ks,0≤k∧k<i)(s:List Nd×List Int)(v:Int)(d:Int)(hd:1≤d)(hv:v=min c d):
 qW c S v ks=min c (d+(((gS (kH mk sub nodes f) ks s).1.length:Int)-s.1.length)):=by
 induction ks generalizing s v d with
 |nil=>simp only[qW,gS];omega
 |cons k ks ih=>
  have h:=hk k (by simp)
  obtain⟨h1,h2⟩:=hT k.toNat (by omega) f (by omega) s.1
  simp only[qW,gS]
  rw[ih (fun y hy=>hk y (by simp[hy])) (kH mk sub nodes f k.toNat s.1,s.2++[((kH mk sub nodes f k.toNat s.1).length:Int)-1]) _ (d+(((kH mk sub nodes f k.toNat s.1).length:Int)-s.1.length)) (by omega) (by rw[h2,hv];omega)]
  dsimp only
  congr 1;omega
structure aff(sub:List Nd→Nd→Option (List Nd))(of:Int→Int)(c:Int)(n:Nd):Prop where
 some':∀out o,sub out n=some o→n.kind=1∧1≤((o.length:Int)-out.length)∧of n.server=min c ((o.length:Int)-out.length)
 none':∀out,sub out n=none→n.kind=1→of n.server=1
theorem Tab.step{S:List Int}(hc:1≤c)(hT:Tab mk sub nodes c S i)(hs:aff sub of c (nodes.getD i default))(hk:∀k∈(nodes.getD i default).k,0≤k∧k<i)(hleaf:(nodes.getD i default).kind=1→(nodes.getD i default).k=[])
 (hS:S.length=i):Tab mk sub nodes c (S++[szN c of S (nodes.getD i default)]) (i+1):=by
 intro j hj f hf out
 rcases Nat.lt_or_eq_of_le (Nat.le_of_lt_succ hj) with h|h
 ·have:=hT j h f hf out
  rw[List.getD_eq_getElem?_getD,List.getElem?_append_left (by omega),←List.getD_eq_getElem?_getD];exact this
 ·subst h
  rw[List.getD_eq_getElem?_getD,List.getElem?_append_right (by omega),hS,Nat.sub_self]
  show _∧szN c of S (nodes.getD j default)=_
  obtain⟨f,rfl⟩:∃p,f=p+1:=⟨f-1,by omega⟩
  cases hsu:sub out (nodes.getD j default) with
  |some o=>
   rw[Sl _ _ _ _ _ _ _ hsu]
   obtain⟨h1,h2,h3⟩:=hs.some' _ _ hsu
   refine⟨h2,?_⟩
   unfold szN
   rw[hleaf h1,if_pos h1];exact h3
  |none=>
   rw[ab2 _ _ _ _ _ _ hsu,List.length_append]
   have e0:(if(nodes.getD j default).kind=1 then of (nodes.getD j default).server else 1)=1:=by
    split
    ·rename_i h1;exact hs.none' _ hsu h1
    ·rfl
   have h1:=ahJ (mk:=mk) (sub:=sub) (nodes:=nodes) (f:=f) hc hT (by omega) (nodes.getD j default).k hk (out,[]) 1 1 (by omega) (by omega)
   unfold szN
   rw[e0,h1]
   dsimp only
   have hle:out.length≤(gS (kH mk sub nodes f) (nodes.getD j default).k (out,[])).1.length:=by
    have main:∀(ks:List Int) (s:List Nd×List Int),(∀k∈ks,0≤k∧k<j)→s.1.length≤(gS (kH mk sub nodes f) ks s).1.length:=by
     intro ks
     induction ks with
     |nil=>intro s _;exact Nat.le_refl _
     |cons k ks ih=>
      intro s hks
      have hk0:=hks k (by simp)
      have h3:=(hT k.toNat (by omega) f (by omega) s.1).1
      have h4:=ih (kH mk sub nodes f k.toNat s.1,s.2++[((kH mk sub nodes f k.toNat s.1).length:Int)-1]) (fun y hy=>hks y (by simp[hy]))
      simp only[gS];dsimp only at h4;omega
    exact main _ (out,[]) hk
   simp only[List.length_singleton];omega
theorem Tab.all(hc:1≤c)(hs:∀j,j<nodes.length→aff sub of c (nodes.getD j default))(hk:∀j,j<nodes.length→∀k∈(nodes.getD j default).k,0≤k∧k<j)
 (hleaf:∀j,j<nodes.length→(nodes.getD j default).kind=1→(nodes.getD j default).k=[]):∀i,i≤nodes.length→Tab mk sub nodes c (szA c of [] (nodes.take i)) i:=by
 intro i
 induction i with
 |zero=>intro _ j hj;omega
 |succ i ih=>
  intro hi
  rw[aeG (by omega)]
  exact(ih (by omega)).step hc (hs i (by omega)) (hk i (by omega)) (hleaf i (by omega)) (by rw[ab4,List.length_take];simp;omega)
theorem XOk.ks{x:Ex}(h:XOk x):∀j,j<x.nodes.length→∀k∈(x.nodes.getD j default).k,0≤k∧k<j:=fun j hj k hk=>(h.node j hj).ks k hk
theorem XOk.leaf{x:Ex}(h:XOk x):∀j,j<x.nodes.length→(x.nodes.getD j default).kind=1→(x.nodes.getD j default).k=[]:=fun j hj hk=>((h.node j hj).leaf hk).2.2
end
section
variable {ws:List Nat} {i j m b n:Nat}
def off(ws:List Nat)(j:Nat):Nat:=(ws.take j).sum
end
section
variable {x:Ex} {l:List Ex} {t:Nd} {i j n:Nat} {a b:Int}
def mv(b:Int)(n:Nd):Nd:=if n.kind=1 then{n with server:=n.server+b} else n
def Sim(a b:List Nd):Prop:=a.map core=b.map core
theorem Sim.len{a b:List Nd}(h:Sim a b):a.length=b.length:=by have:=congrArg List.length h;simpa using this
end
section
variable {h:Int→Bool} {x:Ex} {t:Nd} {i j q n N:Nat} {A:List Bool} {s:Nat}
structure PH(h:Int→Bool)(x:Ex)(i:Nat)(A:List Bool):Prop where
 len:A.length=x.nodes.length
 tk:A.take i=nA h [] (x.nodes.take i)
theorem PH.zero:PH h x 0 (List.replicate x.nodes.length false):=⟨by simp,by simp[nA]⟩
theorem PH.step(hA:PH h x i A)(hi:i<x.nodes.length){v:Bool}(hv:v=evN h (A.take i) (x.nodes.getD i default)):PH h x (i+1) (A.set i v):=by
 refine⟨by simp[hA.len],?_⟩
 have e3:x.nodes.take (i+1)=x.nodes.take i++[x.nodes.getD i default]:=by rw[List.take_add_one];simp[List.getD_eq_getElem?_getD,hi]
 have e4:(A.set i v).take (i+1)=A.take i++[v]:=by
  rw[List.take_add_one,List.take_set,List.set_eq_of_length_le (by simp;omega)]
  simp[hA.len,hi]
 rw[e3,Ew,←hA.tk,e4,hv];rfl
theorem PH.root(hA:PH h x x.nodes.length A):A.getD x.root.toNat default=hold h x:=by
 have:=hA.tk
 rw[List.take_length,List.take_of_length_le (by rw[hA.len];exact Nat.le_refl _)] at this
 unfold hold;rw[←this];rfl
def mem(s:Nat):Nat→List Int
 |0=>[]
 |j+1=>if s.testBit j then mem s j++[(j:Int)] else mem s j
def l9(s j:Nat):Nat:=(mem s j).length
end
section
open Go.Sy
variable {s i j k n p:Nat}
def low(s:Nat):Nat:=Lib.ctz 16 (s%65536)
end
section
variable {h:Int→Bool} {x:Ex} {t:Nd} {i j q n N:Nat} {A:List Bool} {s:Nat}
structure PD(h:Int→Bool)(x:Ex)(i:Nat)(A:List Bool):Prop where
 len:A.length=60
 tk:A.take i=nA h [] (x.nodes.take i)
theorem PD.zero:PD h x 0 (List.replicate 60 false):=⟨by simp,by simp[nA]⟩
theorem PD.step(hA:PD h x i A)(hi:i<x.nodes.length)(h60:i<60){v:Bool}(hv:v=evN h (A.take i) (x.nodes.getD i default)):PD h x (i+1) (A.set i v):=by
 refine⟨by simp[hA.len],?_⟩
 have e3:x.nodes.take (i+1)=x.nodes.take i++[x.nodes.getD i default]:=by rw[List.take_add_one];simp[List.getD_eq_getElem?_getD,hi]
 have e4:(A.set i v).take (i+1)=A.take i++[v]:=by
  rw[List.take_add_one,List.take_set,List.set_eq_of_length_le (by simp;omega)]
  simp[hA.len,h60]
 rw[e3,Ew,←hA.tk,e4,hv];rfl
theorem PD.root{r:Nat}(hA:PD h x (r+1) A)(hr:x.root=(r:Nat))(hl:r<x.nodes.length):A.getD r default=hold h x:=by
 have h1:=hA.tk
 have e:nA h [] x.nodes=nA h (nA h [] (x.nodes.take (r+1))) (x.nodes.drop (r+1)):=by rw[←Ew,List.take_append_drop]
 obtain⟨l,hl2⟩:=Wi h (nA h [] (x.nodes.take (r+1))) (x.nodes.drop (r+1))
 unfold hold
 rw[e,hl2,←h1,hr,Int.toNat_natCast]
 have hn:(A.take (r+1)).length=r+1:=by rw[h1,Wh,List.length_take];simp;omega
 have hlA:r<A.length:=by rw[List.length_take] at hn;omega
 simp only[List.getD_eq_getElem?_getD]
 rw[List.getElem?_append_left (by omega),List.getElem?_take_of_lt (by omega),List.getElem?_eq_getElem hlA]
 rfl
end
section
open Go.Sy
variable {l:List Ex} {s q i j k n:Nat}
def memN(s n:Nat):List Nat:=(List.range n).filter fun i=>s.testBit i
end
section
open Go.Sy
variable {s q x y i j k n m:Nat} {go:Nat→Bool}
def fd(go:Nat→Bool)(j:Nat):Nat→Nat×Bool
 |0=>(j,true)
 |n+1=>if go (j+1)=true then fd go (j+1) n else(j+1,false)
theorem WT(h:go (j+1)=true):fd go j (n+1)=fd go (j+1) n:=by simp[fd,h]
theorem acB(h:go (j+1)=false):fd go j (n+1)=(j+1,false):=by simp[fd,h]
theorem akN(h0:go j=true)(h:(fd go j n).2=true):go (fd go j n).1=true∧(fd go j n).1=j+n:=by
 induction n generalizing j with
 |zero=>exact⟨h0,rfl⟩
 |succ n ih=>
  by_cases hg:go (j+1)=true
  ·rw[WT hg] at h⊢
   have:=ih hg h
   exact⟨this.1,by rw[this.2];omega⟩
  ·rw[acB (by simpa using hg)] at h;cases h
theorem ahY(h:(fd go j n).2=true):fd go j (n+m)=fd go (j+n) m:=by
 induction n generalizing j with
 |zero=>rw[Nat.zero_add];rfl
 |succ n ih=>
  by_cases hg:go (j+1)=true
  ·rw[WT hg] at h
   rw[show n+1+m=n+m+1 by omega,WT hg,ih h,show j+1+n=j+(n+1) by omega]
  ·rw[acB (by simpa using hg)] at h;cases h
theorem WU(h:(fd go j n).2=false):fd go j (n+m)=fd go j n:=by
 induction n generalizing j with
 |zero=>cases h
 |succ n ih=>
  by_cases hg:go (j+1)=true
  ·rw[WT hg] at h⊢
   rw[show n+1+m=n+m+1 by omega,WT hg,ih h]
  ·have hg:go (j+1)=false:=by simpa using hg
   rw[acB hg,show n+1+m=n+m+1 by omega,acB hg]
def EI(m k:Nat):List Nat:=(List.range (2^m)).filter fun n=>decide ((l9 n 16)=k)
def WV(ms:List Nat)(n:Nat):Nat→Nat
 |0=>0
 |i+1=>if ahG n i=true then sor (WV ms n i) (2^ms.getD i 0) else WV ms n i
def pick(s n:Nat):Nat:=WV (memN s 16) n (l9 s 16)
def chs(s k:Nat):List Nat:=(EI (l9 s 16) k).map (pick s)
def EJ(s:Nat):Nat→List Nat
 |0=>[]
 |k+1=>EJ s k++chs s k
def EK(s:Nat):List Nat:=EJ s (l9 s 16+1)
end
section
open Go.Sy
variable {n i j k m s N:Nat} {go:Nat→Bool}
def sbL(s k:Nat):Nat:=(EJ s k).length
theorem LB:sbL s (k+1)=sbL s k+(EI (l9 s 16) k).length:=by unfold sbL;simp[EJ,chs]
theorem akO:sbL s 0=0:=rfl
theorem SB:∃r,EJ s (k+n)=EJ s k++r:=by
 induction n with
 |zero=>exact⟨[],by simp⟩
 |succ n ih=>
  obtain⟨r,hr⟩:=ih
  exact⟨r++chs s (k+n),by show EJ s (k+n)++chs s (k+n)=_;rw[hr,List.append_assoc]⟩
theorem WW(h:k≤m):sbL s k≤sbL s m:=by
 obtain⟨r,hr⟩:=SB (s:=s) (k:=k) (n:=m-k)
 rw[show k+(m-k)=m by omega] at hr
 unfold sbL;rw[hr,List.length_append];omega
structure SG(s:Nat)(go:Nat→Bool)(k:Nat):Prop where
 hle:k≤l9 s 16+1
 hgo:go (sbL s k)=true
 hfd:fd go 0 (EK s).length=fd go (sbL s k) ((EK s).length-sbL s k)
theorem SG.zero(h:go 0=true):SG s go 0:=⟨by omega,h,by rw[akO];rfl⟩
theorem JG:(EK s).length=sbL s (l9 s 16+1):=rfl
theorem SG.t(h:SG s go k)(hk:k≤l9 s 16)(hb:(fd go (sbL s k) (EI (l9 s 16) k).length).2=true):SG s go (k+1)∧(fd go (sbL s k) (EI (l9 s 16) k).length).1=sbL s (k+1):=by
 have h1:=akN h.hgo hb
 have hl:=WW (s:=s) (k:=k+1) (m:=l9 s 16+1) (by omega)
 rw[←JG] at hl
 have hs:=LB (s:=s) (k:=k)
 rw[←hs] at h1
 refine⟨⟨by omega,by rw[←h1.2];exact h1.1,?_⟩,h1.2⟩
 rw[h.hfd,show(EK s).length-sbL s k=(EI (l9 s 16) k).length+((EK s).length-sbL s (k+1)) by omega,ahY hb,←hs]
theorem SG.f(h:SG s go k)(hk:k≤l9 s 16)(hb:(fd go (sbL s k) (EI (l9 s 16) k).length).2=false):fd go 0 (EK s).length=fd go (sbL s k) (EI (l9 s 16) k).length:=by
 have hl:=WW (s:=s) (k:=k+1) (m:=l9 s 16+1) (by omega)
 rw[←JG] at hl
 have hs:=LB (s:=s) (k:=k)
 rw[h.hfd,show(EK s).length-sbL s k=(EI (l9 s 16) k).length+((EK s).length-sbL s (k+1)) by omega,WU hb]
theorem SG.e(h:SG s go k)(hk:k=l9 s 16+1):(fd go 0 (EK s).length).1=sbL s k:=by
 rw[h.hfd,JG,hk,Nat.sub_self];rfl
end
section
open Go.Sy
variable {n i j k m s q d x N L:Nat} {p:Nat→Bool} {xs:List Nat}
def ahZ(acc:List Nat)(q:Nat):Bool:=acc.any fun m=>decide (yw m q%65536=0)
end
