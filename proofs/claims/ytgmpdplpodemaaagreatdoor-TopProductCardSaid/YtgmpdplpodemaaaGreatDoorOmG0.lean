/- Om0 Bp1 Bp2 Bp3 Bp5 Bp6 Bp7 Bp8 Bp9 Bp10 Bp13 Bp11 Lm1 Lm2 Lm3 Lm4 Lm5 Lm6 Rt1 Rt2 Sx1 Sx4. No condition. -/
set_option linter.all false
namespace Go
theorem omgz{p:Prop}(h:p:=by omega):p:=h
end Go
namespace Go.Bp
structure Nd where
 kind:Int
 server:Int
 need:Int
 wz:Bool
 w:List Int
 kz:Bool
 k:List Int
deriving DecidableEq
instance:Inhabited Nd:=⟨⟨0,0,0,true,[],true,[]⟩⟩
structure Ex where
 nz:Bool
 nodes:List Nd
 root:Int
deriving DecidableEq
instance:Inhabited Ex:=⟨⟨true,[],0⟩⟩
def srv(i:Int):Ex:=⟨false,[⟨1,i,0,true,[],true,[]⟩],0⟩
def sh(b:Int)(n:Nd):Nd:={n with k:=n.k.map (· +b)}
def wt(n:Nd)(k:Nat):Int:=if n.w.length=0 then 1 else n.w.getD k 0
def xe(n:Nd)(l:List Bool)(k:Nat):List Int->Int
 |[]=>0
 |x::xs=>(if l.getD x.toNat false then wt n k else 0)+xe n l (k+1) xs
def evN(h:Int->Bool)(l:List Bool)(n:Nd):Bool:=(decide (n.kind=1)&&h n.server)||(decide (n.kind=2)&&decide (n.need<=xe n l 0 n.k))
def fZ(h:Int->Bool)(acc:List Bool):List Nd->List Bool
 |[]=>acc
 |n::ns=>fZ h (acc++[evN h acc n]) ns
def hold(h:Int->Bool)(x:Ex):Bool:=(fZ h [] x.nodes).getD x.root.toNat false
theorem zG(h:Int->Bool)(acc:List Bool)(ns:List Nd):(fZ h acc ns).length=acc.length+ns.length:=by
 induction ns generalizing acc with
 |nil=>simp[fZ]
 |cons n ns ih=>rw[fZ,ih];simp;omega
theorem nT(h:Int->Bool)(acc:List Bool)(ns ms:List Nd):fZ h acc (ns++ms)=fZ h (fZ h acc ns) ms:=by
 induction ns generalizing acc with
 |nil=>rfl
 |cons n ns ih=>simp only[List.cons_append,fZ,ih]
theorem QT(h:Int->Bool)(acc:List Bool)(ns:List Nd):∃l,fZ h acc ns=acc++l:=by
 induction ns generalizing acc with
 |nil=>exact⟨[],by simp[fZ]⟩
 |cons n ns ih=>
  obtain⟨l,hl⟩:=ih (acc++[evN h acc n])
  exact⟨evN h acc n::l,by rw[fZ,hl];simp⟩
structure nN(x:Ex):Prop where
 ne:x.nodes≠[]
 root:x.root=(x.nodes.length:Int)-1
 kids:∀n∈x.nodes,∀y∈n.k,0<=y
def cnt(l:List Bool):Nat:=(l.filter id).length
theorem Fh(n:Nd)(hw:n.w=[])(l:List Bool)(k:Nat)(ks:List Int):xe n l k ks=(cnt (ks.map λy=>l.getD y.toNat false):Nat):=by
 induction ks generalizing k with
 |nil=>rfl
 |cons x xs ih=>
  simp only[xe,ih,List.map_cons]
  have:wt n k=1:=by unfold wt;rw[hw];rfl
  rw[this]
  unfold cnt
  cases l.getD x.toNat false
  ·rw[if_neg (by simp),List.filter_cons_of_neg (by simp)];omega
  ·rw[if_pos rfl,List.filter_cons_of_pos rfl,List.length_cons];omega
end Go.Bp
namespace Go.Bp
theorem cnt_le(l:List Bool):cnt l<=l.length:=List.length_filter_le _ _
theorem cnt_all(l:List Bool):decide (((l.length:Nat):Int)<=(cnt l:Nat))=l.all id:=by
 induction l with
 |nil=>rfl
 |cons b l ih=>
  have:=cnt_le l
  cases b
  ·have e:cnt (false::l)=cnt l:=by simp[cnt]
   rw[e];simp;omega
  ·have e:cnt (true::l)=cnt l+1:=by simp[cnt]
   rw[e,List.all_cons];simp only[id,Bool.true_and];rw[<-ih,List.length_cons]
   apply decide_eq_decide.2;omega
theorem cnt_any(l:List Bool):decide ((1:Int)<=(cnt l:Nat))=l.any id:=by
 induction l with
 |nil=>rfl
 |cons b l ih=>
  cases b
  ·have e:cnt (false::l)=cnt l:=by simp[cnt]
   rw[e,ih];simp
  ·have e:cnt (true::l)=cnt l+1:=by simp[cnt]
   rw[e];simp;omega
def q3(a b c:Bool):Bool:=decide ((2:Int)<=(cnt [a,b,c]:Nat))
end Go.Bp
set_option maxRecDepth 20000
namespace Go.Bp
def pQ(w:Int):Bool:=decide (w<1)||decide (1000<w)
def unk(i:Nat)(k:Int):Bool:=decide (k<0)||decide ((i:Int)<=k)
def fJ(n:Nd)(i:Nat):Int:=
 if(n.kind≠1/\n.kind≠2)\/(n.kind=1/\(n.need≠0\/n.w≠[]\/n.k≠[]))\/(n.kind=2/\n.server≠0) then 1
 else if n.server<0\/12<=n.server\/n.need<0\/100000<n.need then 7
 else if n.w.any pQ=true then 7
 else if n.w≠[]/\n.w.length≠n.k.length then 6
 else if n.k.any (unk i)=true then 4 else 0
def fP(i:Nat):List Nd->Int
 |[]=>0
 |n::ns=>if fJ n i=0 then fP (i+1) ns else fJ n i
def bB(x:Ex):Int:=
 if x.nodes.length=0 then 9 else if 60<x.nodes.length then 3 else if fP 0 x.nodes≠0 then fP 0 x.nodes else if x.root<0\/(x.nodes.length:Int)<=x.root then 4 else 0
theorem zH(i:Nat)(a b:List Nd)(h:fP i a=0):fP i (a++b)=fP (i+a.length) b:=by
 induction a generalizing i with
 |nil=>simp
 |cons n ns ih=>
  simp only[fP] at h
  by_cases h0:fJ n i=0
  ·rw[if_pos h0] at h
   simp only[List.cons_append,fP,if_pos h0,List.length_cons]
   rw[ih (i+1) h];congr 1;omega
  ·rw[if_neg h0] at h;exact absurd h h0
theorem Ni{a:List Nd} {j:Nat}(hj:j<a.length)(h:fP 0 (a.take j)=0):fP 0 a=if fJ (a.getD j default) j=0 then fP (j+1) (a.drop (j+1)) else fJ (a.getD j default) j:=by
 have e:a=a.take j++a.getD j default::a.drop (j+1):=by
  have:a.drop j=a.getD j default::a.drop (j+1):=by rw[List.drop_eq_getElem_cons hj];simp[List.getD_eq_getElem?_getD,hj]
  rw[<-this,List.take_append_drop]
 conv=>lhs;rw[e]
 rw[zH 0 _ _ h,Nat.zero_add,List.length_take,Nat.min_eq_left omgz];rfl
theorem Iw{a:List Nd} {j:Nat}(hj:j<a.length)(h:fP 0 (a.take j)=0)(hn:fJ (a.getD j default) j≠0):fP 0 a=fJ (a.getD j default) j:=by
 rw[Ni hj h,if_neg hn]
theorem QU{a:List Nd} {j:Nat}(hj:j<a.length)(h:fP 0 (a.take j)=0)(hn:fJ (a.getD j default) j=0):fP 0 (a.take (j+1))=0:=by
 have e:a.take (j+1)=a.take j++[a.getD j default]:=by rw[List.take_add_one];simp[List.getD_eq_getElem?_getD,hj]
 rw[e,zH 0 _ _ h,Nat.zero_add,List.length_take,Nat.min_eq_left omgz]
 simp only[fP,if_pos hn]
theorem Iy{a:List Nd}(h:fP 0 a=0){j:Nat}(hj:j<a.length):fJ (a.getD j default) j=0:=by
 have main:∀(a:List Nd) (i j:Nat),fP i a=0->j<a.length->fJ (a.getD j default) (i+j)=0:=by
  intro a
  induction a with
  |nil=>intro i j _ hj;simp at hj
  |cons n ns ih=>
   intro i j h hj
   simp only[fP] at h
   by_cases h0:fJ n i=0
   ·rw[if_pos h0] at h
    cases j with
    |zero=>simpa using h0
    |succ j=>
     have:=ih (i+1) j h (by simpa using hj)
     rw[show i+1+j=i+(j+1) by omega] at this
     simpa using this
   ·rw[if_neg h0] at h;exact absurd h h0
 have:=main a 0 j h hj
 rwa [Nat.zero_add] at this
structure NOk(n:Nd)(i:Nat):Prop where
 kind:n.kind=1\/n.kind=2
 srv:0<=n.server/\n.server<12
 leaf:n.kind=1->n.need=0/\n.w=[]/\n.k=[]
 zero:n.kind=2->n.server=0
 need:0<=n.need/\n.need<=100000
 ws:∀w∈n.w,1<=w/\w<=1000
 wl:n.w≠[]->n.w.length=n.k.length
 ks:∀k∈n.k,0<=k/\k<i
theorem QV{n:Nd} {i:Nat}(h:fJ n i=0):NOk n i:=by
 unfold fJ at h
 split at h
 ·cases h
 ·rename_i h1
  split at h
  ·cases h
  ·rename_i h2
   split at h
   ·cases h
   ·rename_i h3
    split at h
    ·cases h
    ·rename_i h4
     split at h
     ·cases h
     ·rename_i h5
      refine⟨?_,omgz,λhk=>?_,λhk=>?_,omgz,λw hw=>?_,λhw=>?_,λk hk=>?_⟩
      ·refine Classical.byContradiction λhn=>h1 (.inl ?_);omega
      ·refine Classical.byContradiction λhn=>h1 (.inr (.inl ⟨hk,?_⟩))
       by_cases a:n.need=0
       ·by_cases b:n.w=[]
        ·by_cases c:n.k=[]
         ·exact absurd ⟨a,b,c⟩ hn
         ·exact .inr (.inr c)
        ·exact .inr (.inl b)
       ·exact .inl a
      ·refine Classical.byContradiction λhn=>h1 (.inr (.inr ⟨hk,hn⟩))
      ·have:pQ w=false:=by
        rw[Bool.eq_false_iff];intro hb;exact h3 (List.any_eq_true.2 ⟨w,hw,hb⟩)
       simp[pQ] at this;omega
      ·refine Classical.byContradiction λhn=>h4 ⟨hw,hn⟩
      ·have:unk i k=false:=by
        rw[Bool.eq_false_iff];intro hb;exact h5 (List.any_eq_true.2 ⟨k,hk,hb⟩)
       simp[unk] at this;omega
structure XOk(x:Ex):Prop where
 pos:0<x.nodes.length
 few:x.nodes.length<=60
 node:∀j,j<x.nodes.length->NOk (x.nodes.getD j default) j
 root:0<=x.root/\x.root<x.nodes.length
theorem kL{x:Ex}(h:bB x=0):XOk x:=by
 unfold bB at h
 split at h
 ·cases h
 ·split at h
  ·cases h
  ·split at h
   ·rename_i h3;exact absurd h h3
   ·rename_i h3
    split at h
    ·cases h
    ·refine⟨omgz,omgz,λj hj=>QV (Iy (Decidable.not_not.1 h3) hj),omgz⟩
def core(n:Nd):Int×Int×Int×List Int×List Int:=(n.kind,n.server,n.need,n.w,n.k)
def Kn(g:Nat->List Nd->List Nd)(mk:Nd->List Int->Nd)(n:Nd):List Int->List Nd->List Int->List Nd
 |[],out,ks=>out++[mk n ks]
 |k::kk,out,ks=>Kn g mk n kk (g k.toNat out) (ks++[((g k.toNat out).length:Int)-1])
def fQ(mk:Nd->List Int->Nd)(sub:List Nd->Nd->Option (List Nd))(nodes:List Nd):Nat->Nat->List Nd->List Nd
 |0,_,out=>out
 |f+1,i,out=>match sub out (nodes.getD i default) with
  |some out'=>out'
  |none=>Kn (fQ mk sub nodes f) mk (nodes.getD i default) (nodes.getD i default).k out []
end Go.Bp
namespace Go.Bp
def ix{α:Type}(p:α->Bool)(l:List α):Int:=match l.findIdx? p with
 |some i=>i
 |none=> -1
section
variable {α:Type} [Inhabited α]{p:α->Bool} {l:List α} {j:Nat}
theorem oD(hj:j<l.length)(h:∀i,i<j->p (l.getD i default)=false)(hp:p (l.getD j default)=true):ix p l=j:=by
 have:l.findIdx? p=some j:=by
  rw[List.findIdx?_eq_some_iff_getElem]
  refine⟨hj,by simpa[List.getD_eq_getElem?_getD,hj] using hp,λi hi=>?_⟩
  have:=h i hi
  have hil:i<l.length:=by omega
  simpa[List.getD_eq_getElem?_getD,hil] using this
 unfold ix;rw[this]
theorem lG(h:∀i,i<l.length->p (l.getD i default)=false):ix p l= -1:=by
 have:l.findIdx? p=none:=by
  rw[List.findIdx?_eq_none_iff]
  intro x hx
  obtain⟨i,hi,rfl⟩:=List.getElem_of_mem hx
  have:=h i hi
  simpa[List.getD_eq_getElem?_getD,hi] using this
 unfold ix;rw[this]
theorem kW(h:∀i,i<j->p (l.getD i default)=false)(hp:p (l.getD j default)=false):∀i,i<j+1->p (l.getD i default)=false:=λi hi=>by
 by_cases e:i=j
 ·subst e;exact hp
 ·exact h i omgz
theorem jh:decide (0<=ix p l)=l.any p:=by
 unfold ix
 cases h:l.findIdx? p with
 |none=>
  rw[List.findIdx?_eq_none_iff] at h
  have:l.any p=false:=by rw[List.any_eq_false];intro x hx;simp[h x hx]
  rw[this];rfl
 |some i=>
  rw[List.findIdx?_eq_some_iff_getElem] at h
  obtain⟨hi,hp,_⟩:=h
  have:l.any p=true:=List.any_eq_true.2 ⟨_,List.getElem_mem hi,hp⟩
  rw[this];simp
end
def sQ(n:Nd):Prop:=(n.kind≠1/\n.kind≠2)\/(n.kind=1/\(n.need≠0\/0<n.w.length\/0<n.k.length))\/(n.kind=2/\n.server≠0)
def sS(n:Nd):Prop:=n.server<0\/12<=n.server\/n.need<0\/100000<n.need
theorem sU{α:Type} {l:List α}:l≠[]↔0<l.length:=by cases l<;>simp
theorem X4{n:Nd} {i:Nat}(h:sQ n):fJ n i=1:=by
 unfold fJ;rw[if_pos]
 unfold sQ at h;rw[sU,sU];exact h
theorem pR{n:Nd} {i:Nat}(h:¬sQ n):fJ n i=if n.server<0\/12<=n.server\/n.need<0\/100000<n.need then 7 else if n.w.any pQ=true then 7 else if n.w≠[]/\n.w.length≠n.k.length then 6 else if n.k.any (unk i)=true then 4 else 0:=by
 unfold fJ;rw[if_neg]
 unfold sQ at h;rw[sU,sU];exact h
theorem X5{n:Nd} {i:Nat}(h:¬sQ n)(h2:sS n):fJ n i=7:=by unfold sS at h2;rw[pR h,if_pos h2]
theorem X6{n:Nd} {i:Nat}(h:¬sQ n)(h2:¬sS n)(h3:n.w.any pQ=true):fJ n i=7:=by unfold sS at h2;rw[pR h,if_neg h2,if_pos h3]
theorem X7{n:Nd} {i:Nat}(h:¬sQ n)(h2:¬sS n)(h3:n.w.any pQ=false)(h4:0<n.w.length/\n.w.length≠n.k.length):fJ n i=6:=by
 unfold sS at h2;rw[pR h,if_neg h2,if_neg (by simp[h3]),if_pos (by rw[sU];exact h4)]
theorem X8{n:Nd} {i:Nat}(h:¬sQ n)(h2:¬sS n)(h3:n.w.any pQ=false)(h4:¬(0<n.w.length/\n.w.length≠n.k.length))(h5:n.k.any (unk i)=true):fJ n i=4:=by
 unfold sS at h2;rw[pR h,if_neg h2,if_neg (by simp[h3]),if_neg (by rw[sU];exact h4),if_pos h5]
theorem X9{n:Nd} {i:Nat}(h:¬sQ n)(h2:¬sS n)(h3:n.w.any pQ=false)(h4:¬(0<n.w.length/\n.w.length≠n.k.length))(h5:n.k.any (unk i)=false):fJ n i=0:=by
 unfold sS at h2;rw[pR h,if_neg h2,if_neg (by simp[h3]),if_neg (by rw[sU];exact h4),if_neg (by simp[h5])]
theorem QW{x:Ex}(h:x.nodes.length=0):bB x=9:=by unfold bB;rw[if_pos h]
theorem QX{x:Ex}(h:60<x.nodes.length):bB x=3:=by unfold bB;rw[if_neg omgz,if_pos h]
theorem QY{x:Ex} {j:Nat}(h1:x.nodes.length<=60)(hj:j<x.nodes.length)(h:fP 0 (x.nodes.take j)=0)(hn:¬fJ (x.nodes.getD j default) j=0):bB x=fJ (x.nodes.getD j default) j:=by
 have e:=Iw hj h hn
 unfold bB;rw[if_neg omgz,if_neg omgz,if_pos (by rw[e];exact hn),e]
theorem QZ{x:Ex}(h0:0<x.nodes.length)(h1:x.nodes.length<=60)(h:fP 0 x.nodes=0)(hr:x.root<0\/(x.nodes.length:Int)<=x.root):bB x=4:=by
 unfold bB;rw[if_neg omgz,if_neg omgz,if_neg (by simp[h]),if_pos hr]
theorem Q0{x:Ex}(h0:0<x.nodes.length)(h1:x.nodes.length<=60)(h:fP 0 x.nodes=0)(hr:¬(x.root<0\/(x.nodes.length:Int)<=x.root)):bB x=0:=by
 unfold bB;rw[if_neg omgz,if_neg omgz,if_neg (by simp[h]),if_neg hr]
end Go.Bp
namespace Go.Bp
def gS(g:Nat->List Nd->List Nd):List Int->List Nd×List Int->List Nd×List Int
 |[],s=>s
 |k::kk,s=>gS g kk (g k.toNat s.1,s.2++[((g k.toNat s.1).length:Int)-1])
theorem Q3(g:Nat->List Nd->List Nd)(mk:Nd->List Int->Nd)(n:Nd)(ks:List Int)(out:List Nd)(a:List Int):Kn g mk n ks out a=(gS g ks (out,a)).1++[mk n (gS g ks (out,a)).2]:=by
 induction ks generalizing out a with
 |nil=>rfl
 |cons k kk ih=>simp only[Kn,gS,ih]
theorem Ko(g:Nat->List Nd->List Nd)(ks:List Int)(k:Int)(s:List Nd×List Int):gS g (ks++[k]) s=(g k.toNat (gS g ks s).1,(gS g ks s).2++[((g k.toNat (gS g ks s).1).length:Int)-1]):=by
 induction ks generalizing s with
 |nil=>rfl
 |cons y ks ih=>simp only[List.cons_append,gS,ih]
theorem qV{l:List Int} {q:Nat}(h:q<l.length):l.take (q+1)=l.take q++[l.getD q default]:=by
 rw[List.take_add_one];simp[List.getD_eq_getElem?_getD,h]
theorem Kq{g:Nat->List Nd->List Nd}(hg:∀i o,o.length<=(g i o).length)(ks:List Int)(s:List Nd×List Int):s.1.length<=(gS g ks s).1.length:=by
 induction ks generalizing s with
 |nil=>exact Nat.le_refl _
 |cons k kk ih=>exact Nat.le_trans (hg k.toNat s.1) (ih (g k.toNat s.1,s.2++[((g k.toNat s.1).length:Int)-1]))
theorem afA(g:Nat->List Nd->List Nd)(a b:List Int)(s:List Nd×List Int):gS g (a++b) s=gS g b (gS g a s):=by
 induction a generalizing s with
 |nil=>rfl
 |cons y ks ih=>simp only[List.cons_append,gS,ih]
theorem Iz{g:Nat->List Nd->List Nd}(hg:∀i o,o.length<=(g i o).length)(ks:List Int)(q:Nat)(s:List Nd×List Int):(gS g (ks.take q) s).1.length<=(gS g ks s).1.length:=by
 have h:gS g ks s=gS g (ks.drop q) (gS g (ks.take q) s):=by rw[<-afA,List.take_append_drop]
 rw[h];exact Kq hg _ _
theorem Ya(g:Nat->List Nd->List Nd)(ks:List Int)(s:List Nd×List Int):(gS g ks s).2.length=s.2.length+ks.length:=by
 induction ks generalizing s with
 |nil=>simp[gS]
 |cons k kk ih=>simp only[gS,ih];simp;omega
theorem oF(mk:Nd->List Int->Nd)(sub:List Nd->Nd->Option (List Nd))(nodes:List Nd)(f i:Nat)(out:List Nd)(h:sub out (nodes.getD i default)=none):
 fQ mk sub nodes (f+1) i out=(gS (fQ mk sub nodes f) (nodes.getD i default).k (out,[])).1++[mk (nodes.getD i default) (gS (fQ mk sub nodes f) (nodes.getD i default).k (out,[])).2]:=by
 rw[fQ,h,Q3]
theorem nU(mk:Nd->List Int->Nd)(sub:List Nd->Nd->Option (List Nd))(nodes:List Nd)(f i:Nat)(out o:List Nd)(h:sub out (nodes.getD i default)=some o):fQ mk sub nodes (f+1) i out=o:=by
 rw[fQ,h]
theorem zI(mk:Nd->List Int->Nd)(sub:List Nd->Nd->Option (List Nd))(nodes:List Nd)(hs:∀o n o',sub o n=some o'->o.length<=o'.length)(f i:Nat)(out:List Nd):out.length<=(fQ mk sub nodes f i out).length:=by
 induction f generalizing i out with
 |zero=>exact Nat.le_refl _
 |succ f ih=>
  cases h:sub out (nodes.getD i default) with
  |some o=>rw[nU _ _ _ _ _ _ _ h];exact hs _ _ _ h
  |none=>
   rw[oF _ _ _ _ _ _ h,List.length_append]
   have:=Kq (g:=fQ mk sub nodes f) (λi o=>ih i o) (nodes.getD i default).k (out,[])
   dsimp only at this;omega
theorem BG(mk:Nd->List Int->Nd)(sub:List Nd->Nd->Option (List Nd))(nodes:List Nd)(hs:∀o n o',sub o n=some o'->0<o'.length)(f i:Nat)(out:List Nd):0<(fQ mk sub nodes (f+1) i out).length:=by
 cases h:sub out (nodes.getD i default) with
 |some o=>rw[nU _ _ _ _ _ _ _ h];exact hs _ _ _ h
 |none=>rw[oF _ _ _ _ _ _ h,List.length_append];simp
def IA:List Nd->Nd->Option (List Nd):=λ_ _=>none
def o6(mk:Nd->List Int->Nd)(x:Ex)(out:List Nd):List Nd:=fQ mk IA x.nodes (x.root.toNat+1) x.root.toNat out
def mD(mk:Nd->List Int->Nd)(l:List Ex)(out:List Nd)(n:Nd):Option (List Nd):=if n.kind=1/\n.server<l.length then some (o6 mk (l.getD n.server.toNat default) out) else none
def pU(mk:Nd->List Int->Nd)(x:Ex)(l:List Ex):List Nd:=fQ mk (mD mk l) x.nodes (x.root.toNat+1) x.root.toNat []
theorem Yb:∀o n o',IA o n=some o'->o.length<=o'.length:=λ_ _ _ h=>by cases h
theorem Q4:∀o n o',IA o n=some o'->0<o'.length:=λ_ _ _ h=>by cases h
theorem Nj{mk:Nd->List Int->Nd} {l:List Ex} {out:List Nd} {n:Nd}(h:n.kind=1)(h2:n.server<l.length):mD mk l out n=some (o6 mk (l.getD n.server.toNat default) out):=by unfold mD;rw[if_pos ⟨h,h2⟩]
theorem nV{mk:Nd->List Int->Nd} {l:List Ex} {out:List Nd} {n:Nd}(h:¬(n.kind=1/\n.server<l.length)):mD mk l out n=none:=by unfold mD;rw[if_neg h]
theorem Yc{mk:Nd->List Int->Nd} {l:List Ex}:∀o n o',mD mk l o n=some o'->o.length<=o'.length:=λo n o' h=>by
 unfold mD at h;split at h
 ·rw[<-Option.some.inj h];exact zI _ _ _ Yb _ _ _
 ·cases h
theorem Q5{mk:Nd->List Int->Nd} {l:List Ex}:∀o n o',mD mk l o n=some o'->0<o'.length:=λo n o' h=>by
 unfold mD at h;split at h
 ·rw[<-Option.some.inj h];exact BG _ _ _ Q4 _ _ _
 ·cases h
theorem Q6{mk:Nd->List Int->Nd} {n:Nd} {out:List Nd}(h:0<=n.server):mD mk [] out n=none:=nV (by simp;omega)
def mZ(c:Int)(acc:List Int)(s:Int):List Int->Int
 |[]=>s
 |y::ys=>mZ c acc (min c (s+acc.getD y.toNat 0)) ys
def szN(c:Int)(of:Int->Int)(acc:List Int)(n:Nd):Int:=mZ c acc (if n.kind=1 then of n.server else 1) n.k
def szA(c:Int)(of:Int->Int)(acc:List Int):List Nd->List Int
 |[]=>acc
 |n::ns=>szA c of (acc++[szN c of acc n]) ns
theorem IB(c:Int)(acc:List Int)(s:Int)(ks:List Int)(k:Int):mZ c acc s (ks++[k])=min c (mZ c acc s ks+acc.getD k.toNat 0):=by
 induction ks generalizing s with
 |nil=>rfl
 |cons y ks ih=>simp only[List.cons_append,mZ,ih]
theorem Yd{c:Int} {acc:List Int} {s:Int} {ks:List Int} {q:Nat}(h:q<ks.length):mZ c acc s (ks.take (q+1))=min c (mZ c acc s (ks.take q)+acc.getD (ks.getD q default).toNat 0):=by
 rw[qV h,IB]
theorem Q7(c:Int)(of:Int->Int)(acc:List Int)(ns:List Nd)(n:Nd):szA c of acc (ns++[n])=szA c of acc ns++[szN c of (szA c of acc ns) n]:=by
 induction ns generalizing acc with
 |nil=>rfl
 |cons m ns ih=>simp only[List.cons_append,szA,ih]
theorem acd{c:Int} {of:Int->Int} {ns:List Nd} {q:Nat}(h:q<ns.length):szA c of [] (ns.take (q+1))=szA c of [] (ns.take q)++[szN c of (szA c of [] (ns.take q)) (ns.getD q default)]:=by
 have e:ns.take (q+1)=ns.take q++[ns.getD q default]:=by rw[List.take_add_one];simp[List.getD_eq_getElem?_getD,h]
 rw[e,Q7]
theorem xG(c:Int)(of:Int->Int)(acc:List Int)(ns:List Nd):(szA c of acc ns).length=acc.length+ns.length:=by
 induction ns generalizing acc with
 |nil=>simp[szA]
 |cons n ns ih=>rw[szA,ih];simp;omega
def size(c:Int)(of:Int->Int)(x:Ex):Int:=(szA c of [] (x.nodes.take (x.root.toNat+1))).getD x.root.toNat 0
theorem pV{c:Int} {acc:List Int}(hc:1<=c)(ha:∀y∈acc,0<=y){s:Int}(hs:0<=s/\s<=c)(ks:List Int):s<=mZ c acc s ks/\mZ c acc s ks<=c:=by
 induction ks generalizing s with
 |nil=>exact⟨Int.le_refl _,hs.2⟩
 |cons k ks ih=>
  have h0:0<=acc.getD k.toNat 0:=by
   rw[List.getD_eq_getElem?_getD]
   rcases Nat.lt_or_ge k.toNat acc.length with h|h
   ·rw[List.getElem?_eq_getElem h];exact ha _ (List.getElem_mem h)
   ·rw[List.getElem?_eq_none h];exact Int.le_refl _
  have:=ih (s:=min c (s+acc.getD k.toNat 0)) ⟨omgz,omgz⟩
  simp only[mZ];omega
theorem Nk{c:Int} {of:Int->Int} {acc:List Int} {n:Nd}(hc:1<=c)(ha:∀y∈acc,0<=y)(ho:n.kind=1->1<=of n.server/\of n.server<=c):1<=szN c of acc n/\szN c of acc n<=c:=by
 unfold szN
 by_cases h:n.kind=1
 ·rw[if_pos h]
  have:=pV hc ha (s:=of n.server) (by have:=ho h;omega) n.k
  have:=ho h;omega
 ·rw[if_neg h]
  have:=pV hc ha (s:=1) omgz n.k
  omega
theorem BH{c:Int} {of:Int->Int}(hc:1<=c)(ns:List Nd)(ho:∀n∈ns,n.kind=1->1<=of n.server/\of n.server<=c)(acc:List Int)(ha:∀y∈acc,1<=y/\y<=c):∀y∈szA c of acc ns,1<=y/\y<=c:=by
 induction ns generalizing acc with
 |nil=>exact ha
 |cons n ns ih=>
  refine ih (λm hm=>ho m (by simp[hm])) _ (λy hy=>?_)
  rcases List.mem_append.1 hy with hy|hy
  ·exact ha y hy
  ·rw[List.mem_singleton.1 hy]
   exact Nk hc (λy hy=>by have:=ha y hy;omega) (ho n (by simp))
def s0(of:Int->Int)(n:Nd):Int:=if n.kind=1 then of n.server else 1
structure InO(N:Nat)(c:Int)(of:Int->Int)(ns:List Nd)(i:Nat)(A:List Int):Prop where
 len:A.length=N
 tk:A.take i=szA c of [] (ns.take i)
structure InI(N:Nat)(c:Int)(of:Int->Int)(ns:List Nd)(i q:Nat)(A:List Int):Prop where
 len:A.length=N
 tk:A.take i=szA c of [] (ns.take i)
 at':A.getD i default=mZ c (szA c of [] (ns.take i)) (s0 of (ns.getD i default)) ((ns.getD i default).k.take q)
theorem rU{l:List Int} {i:Nat} {v:Int}:(l.set i v).take i=l.take i:=by
 rw[List.take_set,List.set_eq_of_length_le (by simp;omega)]
theorem rX{l:List Int} {i:Nat} {v d:Int}(h:i<l.length):(l.set i v).getD i d=v:=by simp[List.getD_eq_getElem?_getD,h]
variable {N:Nat} {c:Int} {of:Int->Int} {ns:List Nd} {i q:Nat} {A:List Int}
theorem InO.start(h:InO N c of ns i A)(hi:i<N){v:Int}(hv:v=s0 of (ns.getD i default)):InI N c of ns i 0 (A.set i v):=
 ⟨by simp[h.len],by rw[rU];exact h.tk,by rw[rX (by rw[h.len];exact hi),hv];rfl⟩
theorem InI.tk_at(h:InI N c of ns i q A){k:Nat}(hk:k<i):A.getD k default=(szA c of [] (ns.take i)).getD k 0:=by
 rw[<-h.tk];simp[List.getD_eq_getElem?_getD,List.getElem?_take,hk]
theorem InI.step(h:InI N c of ns i q A)(hi:i<N)(hq:q<(ns.getD i default).k.length)(hk:((ns.getD i default).k.getD q default).toNat<i){v:Int}(hv:v=min c (A.getD i default+A.getD ((ns.getD i default).k.getD q default).toNat default)):InI N c of ns i (q+1) (A.set i v):=by
 refine⟨by simp[h.len],by rw[rU];exact h.tk,?_⟩
 rw[rX (by rw[h.len];exact hi),hv,Yd hq,h.at',h.tk_at hk]
theorem InI.done(h:InI N c of ns i q A)(hi:i<ns.length)(hN:i<N)(hq:q=(ns.getD i default).k.length):InO N c of ns (i+1) A:=by
 refine⟨h.len,?_⟩
 rw[acd hi,<-h.tk]
 have e:A.take (i+1)=A.take i++[A.getD i default]:=qV (by rw[h.len];exact hN)
 rw[e,h.at',hq,List.take_length,h.tk];rfl
theorem InI.rng(h:InI N c of ns i q A)(hc:1<=c)(ho:∀n∈ns,n.kind=1->1<=of n.server/\of n.server<=c)(hi:i<ns.length):(1<=A.getD i default/\A.getD i default<=c)/\∀k,k<i->1<=A.getD k default/\A.getD k default<=c:=by
 have hr:=BH (c:=c) (of:=of) hc (ns.take i) (λn hn=>ho n (List.mem_of_mem_take hn)) [] (by simp)
 refine⟨?_,λk hk=>?_⟩
 ·rw[h.at']
  have hm:ns.getD i default∈ns:=by rw[List.getD_eq_getElem?_getD,List.getElem?_eq_getElem hi,Option.getD_some];exact List.getElem_mem hi
  have h0:1<=s0 of (ns.getD i default)/\s0 of (ns.getD i default)<=c:=by
   unfold s0;split
   ·rename_i h1;exact ho _ hm h1
   ·omega
  have:=pV hc (λy hy=>by have:=hr y hy;omega) (s:=s0 of (ns.getD i default)) omgz ((ns.getD i default).k.take q)
  omega
 ·rw[h.tk_at hk]
  have hl:(szA c of [] (ns.take i)).length=i:=by rw[xG];simp;omega
  rw[List.getD_eq_getElem?_getD,List.getElem?_eq_getElem omgz,Option.getD_some]
  exact hr _ (List.getElem_mem _)
theorem InO.at'(h:InO N c of ns i A){k:Nat}(hk:k<i):A.getD k default=(szA c of [] (ns.take i)).getD k 0:=by
 rw[<-h.tk];simp[List.getD_eq_getElem?_getD,List.getElem?_take,hk]
end Go.Bp
namespace Go.Bp
variable {mk:Nd->List Int->Nd} {sub:List Nd->Nd->Option (List Nd)} {nodes:List Nd} {c:Int} {of:Int->Int} {f i:Nat} {out:List Nd}
def Tab(mk:Nd->List Int->Nd)(sub:List Nd->Nd->Option (List Nd))(nodes:List Nd)(c:Int)(S:List Int)(i:Nat):Prop:=
 ∀j,j<i->∀f,j<f->∀out:List Nd,1<=((fQ mk sub nodes f j out).length:Int)-out.length/\S.getD j 0=min c (((fQ mk sub nodes f j out).length:Int)-out.length)
theorem afB{S:List Int}(hc:1<=c)(hT:Tab mk sub nodes c S i)(hf:i<=f)(ks:List Int)(hk:∀k∈ks,0<=k/\k<i)(s:List Nd×List Int)(v:Int)(d:Int)(hd:1<=d)(hv:v=min c d):
 mZ c S v ks=min c (d+(((gS (fQ mk sub nodes f) ks s).1.length:Int)-s.1.length)):=by
 induction ks generalizing s v d with
 |nil=>simp only[mZ,gS];omega
 |cons k ks ih=>
  have h:=hk k (by simp)
  obtain⟨h1,h2⟩:=hT k.toNat omgz f omgz s.1
  simp only[mZ,gS]
  rw[ih (λy hy=>hk y (by simp[hy])) (fQ mk sub nodes f k.toNat s.1,s.2++[((fQ mk sub nodes f k.toNat s.1).length:Int)-1]) _ (d+(((fQ mk sub nodes f k.toNat s.1).length:Int)-s.1.length)) omgz (by rw[h2,hv];omega)]
  dsimp only
  congr 1;omega
structure GU(sub:List Nd->Nd->Option (List Nd))(of:Int->Int)(c:Int)(n:Nd):Prop where
 some':∀out o,sub out n=some o->n.kind=1/\1<=((o.length:Int)-out.length)/\of n.server=min c ((o.length:Int)-out.length)
 none':∀out,sub out n=none->n.kind=1->of n.server=1
theorem Tab.step{S:List Int}(hc:1<=c)(hT:Tab mk sub nodes c S i)(hs:GU sub of c (nodes.getD i default))(hk:∀k∈(nodes.getD i default).k,0<=k/\k<i)(hleaf:(nodes.getD i default).kind=1->(nodes.getD i default).k=[])
 (hS:S.length=i):Tab mk sub nodes c (S++[szN c of S (nodes.getD i default)]) (i+1):=by
 intro j hj f hf out
 rcases Nat.lt_or_eq_of_le (Nat.le_of_lt_succ hj) with h|h
 ·have:=hT j h f hf out
  rw[List.getD_eq_getElem?_getD,List.getElem?_append_left omgz,<-List.getD_eq_getElem?_getD];exact this
 ·subst h
  rw[List.getD_eq_getElem?_getD,List.getElem?_append_right omgz,hS,Nat.sub_self]
  show _/\szN c of S (nodes.getD j default)=_
  obtain⟨f,rfl⟩:∃p,f=p+1:=⟨f-1,omgz⟩
  cases hsu:sub out (nodes.getD j default) with
  |some o=>
   rw[nU _ _ _ _ _ _ _ hsu]
   obtain⟨h1,h2,h3⟩:=hs.some' _ _ hsu
   refine⟨h2,?_⟩
   unfold szN
   rw[hleaf h1,if_pos h1];exact h3
  |none=>
   rw[oF _ _ _ _ _ _ hsu,List.length_append]
   have e0:(if(nodes.getD j default).kind=1 then of (nodes.getD j default).server else 1)=1:=by
    split
    ·rename_i h1;exact hs.none' _ hsu h1
    ·rfl
   have h1:=afB (mk:=mk) (sub:=sub) (nodes:=nodes) (f:=f) hc hT omgz (nodes.getD j default).k hk (out,[]) 1 1 omgz omgz
   unfold szN
   rw[e0,h1]
   dsimp only
   have hle:out.length<=(gS (fQ mk sub nodes f) (nodes.getD j default).k (out,[])).1.length:=by
    have main:∀(ks:List Int) (s:List Nd×List Int),(∀k∈ks,0<=k/\k<j)->s.1.length<=(gS (fQ mk sub nodes f) ks s).1.length:=by
     intro ks
     induction ks with
     |nil=>intro s _;exact Nat.le_refl _
     |cons k ks ih=>
      intro s hks
      have hk0:=hks k (by simp)
      have h3:=(hT k.toNat omgz f omgz s.1).1
      have h4:=ih (fQ mk sub nodes f k.toNat s.1,s.2++[((fQ mk sub nodes f k.toNat s.1).length:Int)-1]) (λy hy=>hks y (by simp[hy]))
      simp only[gS];dsimp only at h4;omega
    exact main _ (out,[]) hk
   simp only[List.length_singleton];omega
theorem Tab.all(hc:1<=c)(hs:∀j,j<nodes.length->GU sub of c (nodes.getD j default))(hk:∀j,j<nodes.length->∀k∈(nodes.getD j default).k,0<=k/\k<j)
 (hleaf:∀j,j<nodes.length->(nodes.getD j default).kind=1->(nodes.getD j default).k=[]):∀i,i<=nodes.length->Tab mk sub nodes c (szA c of [] (nodes.take i)) i:=by
 intro i
 induction i with
 |zero=>intro _ j hj;omega
 |succ i ih=>
  intro hi
  rw[acd omgz]
  exact(ih omgz).step hc (hs i omgz) (hk i omgz) (hleaf i omgz) (by rw[xG,List.length_take];simp;omega)
theorem XOk.ks{x:Ex}(h:XOk x):∀j,j<x.nodes.length->∀k∈(x.nodes.getD j default).k,0<=k/\k<j:=λj hj k hk=>(h.node j hj).ks k hk
theorem XOk.leaf{x:Ex}(h:XOk x):∀j,j<x.nodes.length->(x.nodes.getD j default).kind=1->(x.nodes.getD j default).k=[]:=λj hj hk=>((h.node j hj).leaf hk).2.2
theorem Q8{x:Ex}(h:XOk x):(szA c of [] x.nodes).getD x.root.toNat 0=size c of x:=by
 unfold size
 have main:∀(a b:List Nd) (acc:List Int) (r:Nat),r<acc.length+a.length->(szA c of acc (a++b)).getD r 0=(szA c of acc a).getD r 0:=by
  intro a b acc r hr
  have app:∀(a b:List Nd) (acc:List Int),szA c of acc (a++b)=szA c of (szA c of acc a) b:=by
   intro a b
   induction a with
   |nil=>intro acc;rfl
   |cons n a ih=>intro acc;simp only[List.cons_append,szA,ih]
  rw[app]
  have pre:∀(b:List Nd) (acc:List Int),∃l,szA c of acc b=acc++l:=by
   intro b
   induction b with
   |nil=>intro acc;exact⟨[],by simp[szA]⟩
   |cons n b ih=>intro acc;obtain⟨l,hl⟩:=ih (acc++[szN c of acc n]);exact⟨szN c of acc n::l,by rw[szA,hl];simp⟩
  obtain⟨l,hl⟩:=pre b (szA c of acc a)
  rw[hl,List.getD_eq_getElem?_getD,List.getElem?_append_left (by rw[xG];omega),List.getD_eq_getElem?_getD]
 have e:=main (x.nodes.take (x.root.toNat+1)) (x.nodes.drop (x.root.toNat+1)) [] x.root.toNat (by have:=h.root;simp;omega)
 rw[List.take_append_drop] at e
 exact e
theorem BI{x:Ex}(h:XOk x)(hc:1<=c)(hs:∀j,j<x.nodes.length->GU sub of c (x.nodes.getD j default))(out:List Nd):
 1<=((fQ mk sub x.nodes (x.root.toNat+1) x.root.toNat out).length:Int)-out.length/\size c of x=min c (((fQ mk sub x.nodes (x.root.toNat+1) x.root.toNat out).length:Int)-out.length):=by
 have hT:=Tab.all (mk:=mk) hc hs h.ks h.leaf x.nodes.length (Nat.le_refl _)
 rw[List.take_length] at hT
 have:=hT x.root.toNat (by have:=h.root;omega) (x.root.toNat+1) omgz out
 rw[Q8 h] at this
 exact this
end Go.Bp
namespace Go.Bp
variable {ws:List Nat} {i j m b n:Nat}
def off(ws:List Nat)(j:Nat):Nat:=(ws.take j).sum
end Go.Bp
namespace Go.Bp
variable {x:Ex} {l:List Ex} {t:Nd} {i j n:Nat} {a b:Int}
def mv(b:Int)(n:Nd):Nd:=if n.kind=1 then{n with server:=n.server+b} else n
def mvX(b:Int)(x:Ex):Ex:=⟨false,x.nodes.map (mv b),x.root⟩
def mvN(b:Int)(x:Ex)(i:Nat):List Nd:=(x.nodes.take i).map (mv b)++x.nodes.drop i
theorem ai5:mvN b x 0=x.nodes:=by simp[mvN]
theorem uC(h:i<=x.nodes.length):(mvN b x i).length=x.nodes.length:=by simp[mvN];omega
theorem Ye:mvN b x x.nodes.length=(mvX b x).nodes:=by simp[mvN,mvX]
theorem IC(h:i<x.nodes.length):(mvN b x i).getD i default=x.nodes.getD i default:=by
 unfold mvN
 rw[List.getD_eq_getElem?_getD,List.getElem?_append_right (by simp;omega)]
 simp[List.getD_eq_getElem?_getD,Nat.min_eq_left (Nat.le_of_lt h)]
theorem ace(h:i<x.nodes.length):mvN b x (i+1)=(mvN b x i).set i (mv b (x.nodes.getD i default)):=by
 unfold mvN
 have e1:((x.nodes.take i).map (mv b)).length=i:=by simp;omega
 have e2:x.nodes.drop i=x.nodes.getD i default::x.nodes.drop (i+1):=by
  rw[List.drop_eq_getElem_cons h];simp[List.getD_eq_getElem?_getD,h]
 have e3:x.nodes.take (i+1)=x.nodes.take i++[x.nodes.getD i default]:=by rw[List.take_add_one];simp[List.getD_eq_getElem?_getD,h]
 rw[e2,List.set_append_right _ _ omgz,e1,Nat.sub_self,List.set_cons_zero,e3,List.map_append,List.append_assoc];rfl
theorem acf(h:i<x.nodes.length)(hk:¬(x.nodes.getD i default).kind=1):mvN b x (i+1)=mvN b x i:=by
 rw[ace h]
 have e:mv b (x.nodes.getD i default)=(mvN b x i).getD i default:=by rw[IC h];unfold mv;rw[if_neg hk]
 rw[e]
 have hl:i<(mvN b x i).length:=by rw[uC (Nat.le_of_lt h)];exact h
 rw[List.getD_eq_getElem?_getD,List.getElem?_eq_getElem hl,Option.getD_some,List.set_getElem_self]
theorem uD:(mvX b x).nodes.length=x.nodes.length:=by simp[mvX]
theorem mv_1(h:t.kind=1):mv b t=⟨t.kind,t.server+b,t.need,t.wz,t.w,t.kz,t.k⟩:=by unfold mv;rw[if_pos h]
def szF(acc:Int):List Nd->Int
 |[]=>acc
 |n::ns=>szF (if n.kind=1 then max acc (n.server+1) else acc) ns
def szJ(x:Ex)(i:Nat):Int:=szF 0 (x.nodes.take i)
def szE(x:Ex):Int:=szF 0 x.nodes
theorem Q9(acc:Int)(ns:List Nd)(n:Nd):szF acc (ns++[n])=if n.kind=1 then max (szF acc ns) (n.server+1) else szF acc ns:=by
 induction ns generalizing acc with
 |nil=>rfl
 |cons m ns ih=>simp only[List.cons_append,szF,ih]
theorem ai6:szJ x 0=0:=rfl
theorem Kr:szJ x x.nodes.length=szE x:=by simp[szJ,szE]
theorem Ra(h:i<x.nodes.length):szJ x (i+1)=if(x.nodes.getD i default).kind=1 then max (szJ x i) ((x.nodes.getD i default).server+1) else szJ x i:=by
 unfold szJ
 have e3:x.nodes.take (i+1)=x.nodes.take i++[x.nodes.getD i default]:=by rw[List.take_add_one];simp[List.getD_eq_getElem?_getD,h]
 rw[e3,Q9]
theorem acg(h:i<x.nodes.length)(ht:x.nodes.getD i default=t)(hk:t.kind=1):szJ x (i+1)=max (szJ x i) (t.server+1):=by rw[Ra h,ht,if_pos hk]
theorem ach(h:i<x.nodes.length)(ht:x.nodes.getD i default=t)(hk:¬t.kind=1):szJ x (i+1)=szJ x i:=by rw[Ra h,ht,if_neg hk]
theorem CS(hx:XOk x)(h:i<=x.nodes.length):0<=szJ x i/\szJ x i<=12:=by
 induction i with
 |zero=>simp[szJ,szF]
 |succ i ih=>
  have:=ih omgz
  have:=(hx.node i omgz).srv
  rw[Ra omgz];split<;>omega
theorem Kt(hx:XOk x):0<=szE x/\szE x<=12:=by rw[<-Kr];exact CS hx (Nat.le_refl _)
def rJ(L:Nat)(n:Nd):Bool:=decide (n.kind=1)&&decide ((L:Int)<=n.server)
theorem afC(L:Nat)(ns:List Nd)(acc:Int):(L:Int)<szF acc ns↔(L:Int)<acc\/ns.any (rJ L)=true:=by
 induction ns generalizing acc with
 |nil=>simp[szF]
 |cons n ns ih=>
  rw[szF,ih,List.any_cons,Bool.or_eq_true]
  by_cases h:n.kind=1
  ·rw[if_pos h]
   have e:rJ L n=decide ((L:Int)<=n.server):=by simp[rJ,h]
   rw[e,decide_eq_true_eq,<-or_assoc]
   constructor
   ·rintro(h|h)
    ·left;omega
    ·right;exact h
   ·rintro(h|h)
    ·left;omega
    ·right;exact h
  ·rw[if_neg h]
   have e:rJ L n=false:=by simp[rJ,h]
   rw[e];simp
theorem afD(L:Nat):(L:Int)<szE x↔x.nodes.any (rJ L)=true:=by
 unfold szE;rw[afC];simp;omega
def jA(l:List Ex):Nat->Int
 |0=>0
 |j+1=>jA l j+szE (l.getD j default)
def uE(l:List Ex):Nat->List Ex
 |0=>[]
 |j+1=>uE l j++[mvX (jA l j) (l.getD j default)]
theorem Yf:jA l 0=0:=rfl
theorem Ku:jA l (j+1)=jA l j+szE (l.getD j default):=rfl
theorem Nl(h:∀i,i<j->0<=szE (l.getD i default)/\szE (l.getD i default)<=12):0<=jA l j/\jA l j<=12*j:=by
 induction j with
 |zero=>simp[jA]
 |succ j ih=>
  have:=ih (λi hi=>h i omgz)
  have:=h j omgz
  rw[Ku];omega
theorem Rb(h:j=0):uE l j=[]:=by subst h;rfl
theorem IE:uE l (j+1)=uE l j++[mvX (jA l j) (l.getD j default)]:=rfl
theorem zJ:(uE l j).length=j:=by
 induction j with
 |zero=>rfl
 |succ j ih=>rw[IE];simp[ih]
theorem Rc{y:Ex}(h:y∈uE l j):∃i,i<j/\y=mvX (jA l i) (l.getD i default):=by
 induction j with
 |zero=>simp[uE] at h
 |succ j ih=>
  rw[IE] at h
  rcases List.mem_append.1 h with h|h
  ·obtain⟨i,hi,e⟩:=ih h;exact⟨i,omgz,e⟩
  ·exact⟨j,omgz,List.mem_singleton.1 h⟩
def Sim(a b:List Nd):Prop:=a.map core=b.map core
theorem Sim.len{a b:List Nd}(h:Sim a b):a.length=b.length:=by have:=congrArg List.length h;simpa using this
end Go.Bp
namespace Go.Bp
variable {h:Int->Bool} {x:Ex} {t:Nd} {i j q n N:Nat} {A:List Bool} {s:Nat}
def KS(x:Ex):Prop:=∀j,j<x.nodes.length->(x.nodes.getD j default).k.length<=1000
structure JX(h:Int->Bool)(x:Ex)(i:Nat)(A:List Bool):Prop where
 len:A.length=x.nodes.length
 tk:A.take i=fZ h [] (x.nodes.take i)
theorem JX.zero:JX h x 0 (List.replicate x.nodes.length false):=⟨by simp,by simp[fZ]⟩
theorem JX.step(hA:JX h x i A)(hi:i<x.nodes.length){v:Bool}(hv:v=evN h (A.take i) (x.nodes.getD i default)):JX h x (i+1) (A.set i v):=by
 refine⟨by simp[hA.len],?_⟩
 have e3:x.nodes.take (i+1)=x.nodes.take i++[x.nodes.getD i default]:=by rw[List.take_add_one];simp[List.getD_eq_getElem?_getD,hi]
 have e4:(A.set i v).take (i+1)=A.take i++[v]:=by
  rw[List.take_add_one,List.take_set,List.set_eq_of_length_le (by simp;omega)]
  simp[hA.len,hi]
 rw[e3,nT,<-hA.tk,e4,hv];rfl
theorem JX.root(hA:JX h x x.nodes.length A):A.getD x.root.toNat default=hold h x:=by
 have:=hA.tk
 rw[List.take_length,List.take_of_length_le (by rw[hA.len];exact Nat.le_refl _)] at this
 unfold hold;rw[<-this];rfl
def uF(t:Nd)(A:List Bool)(q:Nat):Int:=xe t A 0 (t.k.take q)
theorem Nn(k:Nat)(ks:List Int)(y:Int):xe t A k (ks++[y])=xe t A k ks+(if A.getD y.toNat false then wt t (k+ks.length) else 0):=by
 induction ks generalizing k with
 |nil=>simp[xe]
 |cons a ks ih=>simp only[List.cons_append,xe,ih,List.length_cons,show k+1+ks.length=k+(ks.length+1) by omega];omega
theorem Re:uF t A 0=0:=rfl
theorem IG(hq:q<t.k.length):uF t A (q+1)=uF t A q+(if A.getD (t.k.getD q default).toNat false then wt t q else 0):=by
 unfold uF
 have e:t.k.take (q+1)=t.k.take q++[t.k.getD q default]:=by rw[List.take_add_one];simp[List.getD_eq_getElem?_getD,hq]
 rw[e,Nn]
 have:0+(t.k.take q).length=q:=by simp;omega
 rw[this]
theorem afE(hq:q<t.k.length)(hb:A.getD (t.k.getD q default).toNat default=true):uF t A (q+1)=uF t A q+wt t q:=by
 rw[IG hq,if_pos (show A.getD (t.k.getD q default).toNat false=true from hb)]
theorem afF(hq:q<t.k.length)(hb:¬A.getD (t.k.getD q default).toNat default=true):uF t A (q+1)=uF t A q:=by
 rw[IG hq,if_neg (show¬A.getD (t.k.getD q default).toNat false=true from hb),Int.add_zero]
theorem Rf(hn:NOk t i)(hq:q<t.k.length):1<=wt t q/\wt t q<=1000:=by
 unfold wt
 split
 ·omega
 ·rename_i hw
  have h1:=hn.wl (λe=>hw (by rw[e];rfl))
  have:t.w.getD q 0∈t.w:=by rw[List.getD_eq_getElem?_getD,List.getElem?_eq_getElem omgz,Option.getD_some];exact List.getElem_mem _
  exact hn.ws _ this
theorem Fj(hn:NOk t i)(hq:q<=t.k.length):0<=uF t A q/\uF t A q<=1000*q:=by
 induction q with
 |zero=>simp[Re]
 |succ q ih=>
  have:=ih omgz
  have:=Rf hn (q:=q) omgz
  rw[IG omgz];split<;>omega
theorem Np(k:Nat)(ks:List Int)(hk:∀y∈ks,0<=y/\y<i):xe t (A.take i) k ks=xe t A k ks:=by
 induction ks generalizing k with
 |nil=>rfl
 |cons a ks ih=>
  have ha:=hk a (by simp)
  have e:(A.take i).getD a.toNat false=A.getD a.toNat false:=by simp[List.getD_eq_getElem?_getD,List.getElem?_take,show a.toNat<i by omega]
  simp only[xe,e,ih _ (λy hy=>hk y (by simp[hy]))]
theorem ev_1(hn:NOk t i)(hk:t.kind=1):evN h (A.take i) t=h t.server:=by simp[evN,hk]
theorem ev_2(hn:NOk t i)(hk:¬t.kind=1):evN h (A.take i) t=decide (t.need<=uF t A t.k.length):=by
 have h2:t.kind=2:=by rcases hn.kind with h|h;exact absurd h hk;exact h
 unfold evN uF
 rw[List.take_length,Np 0 t.k hn.ks];simp[h2]
def Bc(s:Nat)(i:Int):Bool:=s.testBit i.toNat
def mem(s:Nat):Nat->List Int
 |0=>[]
 |j+1=>if s.testBit j then mem s j++[(j:Int)] else mem s j
def aF(s j:Nat):Nat:=(mem s j).length
theorem Kv(hb:s.testBit j=true):mem s (j+1)=mem s j++[(j:Int)]:=by rw[mem,if_pos hb]
theorem Kw(hb:s.testBit j=false):mem s (j+1)=mem s j:=by rw[mem,if_neg (by rw[hb];simp)]
theorem II:aF s 0=0:=rfl
theorem IJ(hb:s.testBit j=true):aF s (j+1)=aF s j+1:=by unfold aF;rw[Kv hb];simp
theorem IK(hb:s.testBit j=false):aF s (j+1)=aF s j:=by unfold aF;rw[Kw hb]
theorem dI:(mem s j).length=aF s j:=rfl
theorem aci(h0:aF s j=0):mem s j=[]:=List.eq_nil_of_length_eq_zero h0
theorem ni:aF s j<=j:=by
 induction j with
 |zero=>exact Nat.le_refl _
 |succ j ih=>
  cases hb:s.testBit j with
  |true=>rw[IJ hb];omega
  |false=>rw[IK hb];omega
theorem Rh:(mem s j).take (aF s j)=mem s j:=List.take_of_length_le (Nat.le_refl _)
end Go.Bp
namespace Go.Bp
variable {h:Int->Bool} {x:Ex} {t:Nd} {i j q n N:Nat} {A:List Bool} {s:Nat}
structure Er(h:Int->Bool)(x:Ex)(i:Nat)(A:List Bool):Prop where
 len:A.length=60
 tk:A.take i=fZ h [] (x.nodes.take i)
theorem Er.zero:Er h x 0 (List.replicate 60 false):=⟨by simp,by simp[fZ]⟩
theorem Er.step(hA:Er h x i A)(hi:i<x.nodes.length)(h60:i<60){v:Bool}(hv:v=evN h (A.take i) (x.nodes.getD i default)):Er h x (i+1) (A.set i v):=by
 refine⟨by simp[hA.len],?_⟩
 have e3:x.nodes.take (i+1)=x.nodes.take i++[x.nodes.getD i default]:=by rw[List.take_add_one];simp[List.getD_eq_getElem?_getD,hi]
 have e4:(A.set i v).take (i+1)=A.take i++[v]:=by
  rw[List.take_add_one,List.take_set,List.set_eq_of_length_le (by simp;omega)]
  simp[hA.len,h60]
 rw[e3,nT,<-hA.tk,e4,hv];rfl
theorem Er.root{r:Nat}(hA:Er h x (r+1) A)(hr:x.root=(r:Nat))(hl:r<x.nodes.length):A.getD r default=hold h x:=by
 have h1:=hA.tk
 have e:fZ h [] x.nodes=fZ h (fZ h [] (x.nodes.take (r+1))) (x.nodes.drop (r+1)):=by rw[<-nT,List.take_append_drop]
 obtain⟨l,hl2⟩:=QT h (fZ h [] (x.nodes.take (r+1))) (x.nodes.drop (r+1))
 unfold hold
 rw[e,hl2,<-h1,hr,Int.toNat_natCast]
 have hn:(A.take (r+1)).length=r+1:=by rw[h1,zG,List.length_take];simp;omega
 have hlA:r<A.length:=by rw[List.length_take] at hn;omega
 simp only[List.getD_eq_getElem?_getD]
 rw[List.getElem?_append_left omgz,List.getElem?_take_of_lt omgz,List.getElem?_eq_getElem hlA]
 rfl
end Go.Bp
namespace Go.Bp
variable {x:Ex} {kids:List Ex} {need:Int} {w:List Int} {wz:Bool} {acc L:List Nd} {i j n c:Nat}
def AllOk(L:List Nd):Prop:=∀i,i<L.length->NOk (L.getD i default) i
theorem NOk.sh'{t:Nd}(h:NOk t j):NOk (sh n t) (n+j):=by
 refine⟨h.kind,h.srv,λhk=>?_,h.zero,h.need,h.ws,λhw=>?_,λk hk=>?_⟩
 ·have:=h.leaf hk
  refine⟨this.1,this.2.1,?_⟩
  show t.k.map _=[]
  rw[this.2.2];rfl
 ·have:=h.wl hw
  show t.w.length=(t.k.map _).length
  rw[this,List.length_map]
 ·obtain⟨u,hu,rfl⟩:=List.mem_map.1 hk
  have:=h.ks u hu
  omega
theorem AllOk.app(h1:AllOk acc)(h2:AllOk L):AllOk (acc++L.map (sh acc.length)):=by
 intro i hi
 rw[List.length_append,List.length_map] at hi
 rcases Nat.lt_or_ge i acc.length with h|h
 ·rw[List.getD_eq_getElem?_getD,List.getElem?_append_left h,<-List.getD_eq_getElem?_getD];exact h1 i h
 ·have hj:i-acc.length<L.length:=by omega
  have:=(h2 (i-acc.length) hj).sh' (n:=acc.length)
  rw[show acc.length+(i-acc.length)=i by omega] at this
  rw[List.getD_eq_getElem?_getD,List.getElem?_append_right h]
  rw[List.getD_eq_getElem?_getD,List.getElem?_eq_getElem hj,Option.getD_some] at this
  simp[hj];exact this
end Go.Bp
namespace Go.Lm
variable {l m a b:List Int} {x y c v:Int} {i j k n:Nat}
def val:List Int->Int
 |[]=>0
 |x::l=>x+1000000000*val l
def Lim(l:List Int):Prop:=∀x∈l,0<=x/\x<1000000000
def bp(k:Nat):Int:=((1000000000^k:Nat):Int)
theorem SF:bp 0=1:=rfl
theorem vZ:bp (k+1)=1000000000*bp k:=by unfold bp;rw[Nat.pow_succ,Nat.mul_comm];exact Int.natCast_mul _ _
theorem iH:0<bp k:=by unfold bp;exact Int.natCast_pos.2 (Nat.pow_pos (by decide))
theorem I7:bp (j+k)=bp j*bp k:=by unfold bp;rw[Nat.pow_add];exact Int.natCast_mul _ _
theorem BR(h:j<=k):bp j<=bp k:=by unfold bp;exact Int.ofNat_le.2 (Nat.pow_le_pow_right (by decide) h)
theorem jO:val []=0:=rfl
theorem fD:val (x::l)=x+1000000000*val l:=rfl
theorem uM:val (l++m)=val l+bp l.length*val m:=by
 induction l with
 |nil=>simp[val,SF]
 |cons x l ih=>
  rw[List.cons_append,fD,fD,ih,List.length_cons,vZ,Int.mul_add,Int.mul_assoc];omega
theorem oH:val [x]=x:=by simp[val]
theorem jP:val (l++[x])=val l+bp l.length*x:=by rw[uM,oH]
theorem Lim.nil:Lim []:=λx h=>nomatch h
theorem Lim.cons(h:Lim l)(hx:0<=x/\x<1000000000):Lim (x::l):=λy hy=>by
 rcases List.mem_cons.1 hy with rfl|hy
 ·exact hx
 ·exact h y hy
theorem Lim.hd(h:Lim (x::l)):0<=x/\x<1000000000:=h x (by simp)
theorem Lim.tl(h:Lim (x::l)):Lim l:=λy hy=>h y (by simp[hy])
theorem Lim.app(h:Lim l)(h2:Lim m):Lim (l++m):=λy hy=>by
 rcases List.mem_append.1 hy with hy|hy
 ·exact h y hy
 ·exact h2 y hy
theorem Lim.snoc(h:Lim l)(hx:0<=x/\x<1000000000):Lim (l++[x]):=h.app (Lim.nil.cons hx)
theorem Lim.take(h:Lim l):Lim (l.take k):=λy hy=>h y (List.mem_of_mem_take hy)
theorem Lim.drop(h:Lim l):Lim (l.drop k):=λy hy=>h y (List.mem_of_mem_drop hy)
theorem ja(h:i<l.length):l.getD i 0=l[i]:=by rw[List.getD_eq_getElem?_getD,List.getElem?_eq_getElem h];rfl
theorem eu(h:l.length<=i):l.getD i 0=0:=by rw[List.getD_eq_getElem?_getD,List.getElem?_eq_none h];rfl
theorem Lim.at(h:Lim l)(i:Nat):0<=l.getD i 0/\l.getD i 0<1000000000:=by
 by_cases hi:i<l.length
 ·rw[ja hi];exact h _ (List.getElem_mem hi)
 ·rw[eu omgz];omega
theorem bA(h:Lim l):0<=val l/\val l<bp l.length:=by
 induction l with
 |nil=>exact⟨Int.le_refl _,by decide⟩
 |cons x l ih=>
  have:=ih h.tl
  have:=h.hd
  rw[fD,List.length_cons,vZ];omega
theorem take_s(h:i<l.length):l.take (i+1)=l.take i++[l.getD i 0]:=by
 rw[List.take_add_one,List.getElem?_eq_getElem h,ja h];rfl
theorem fU:val (l.take (i+1))=val (l.take i)+bp i*l.getD i 0:=by
 by_cases h:i<l.length
 ·rw[take_s h,jP,List.length_take,Nat.min_eq_left omgz]
 ·rw[eu omgz,List.take_of_length_le omgz,List.take_of_length_le omgz];omega
theorem kM:val (l.take 0)=0:=rfl
theorem bV(h:l.length<=i):val (l.take i)=val l:=by rw[List.take_of_length_le h]
theorem gu(k:Nat):val l=val (l.take k)+bp (min k l.length)*val (l.drop k):=by
 conv=>lhs;rw[<-List.take_append_drop k l]
 rw[uM,List.length_take]
theorem gI(h:i<l.length):val (l.drop i)=l.getD i 0+1000000000*val (l.drop (i+1)):=by
 rw[List.drop_eq_getElem_cons h,fD,ja h]
theorem KT:val (List.replicate k 0)=0:=by
 induction k with
 |zero=>rfl
 |succ k ih=>rw[List.replicate_succ,fD,ih];rfl
theorem Lim.rep:Lim (List.replicate k 0):=λx hx=>by rw[List.eq_of_mem_replicate hx];omega
def lbF:Nat->Nat->List Int
 |0,_=>[]
 |f+1,n=>if n=0 then [] else((n%1000000000:Nat):Int)::lbF f (n/1000000000)
def lb(n:Nat):List Int:=lbF n n
theorem KU:∀(f n:Nat),n<=f->val (lbF f n)=n:=by
 intro f
 induction f with
 |zero=>intro n h;have:n=0:=by omega
        subst this;rfl
 |succ f ih=>
  intro n h
  unfold lbF
  by_cases h0:n=0
  ·rw[if_pos h0,h0];rfl
  ·rw[if_neg h0,fD,ih _ omgz];omega
theorem aS:val (lb n)=n:=KU n n (Nat.le_refl _)
theorem Zc:∀(f n:Nat),Lim (lbF f n):=by
 intro f
 induction f with
 |zero=>intro n;exact Lim.nil
 |succ f ih=>
  intro n
  unfold lbF
  split
  ·exact Lim.nil
  ·exact(ih _).cons omgz
theorem lim_lb:Lim (lb n):=Zc n n
def Tr(l:List Int):Prop:=l=[]\/¬l.getD (l.length-1) 0=0
theorem agm:∀(f n:Nat),n<=f->Tr (lbF f n):=by
 intro f
 induction f with
 |zero=>intro n _;exact .inl rfl
 |succ f ih=>
  intro n h
  unfold lbF
  by_cases h0:n=0
  ·rw[if_pos h0];exact .inl rfl
  ·rw[if_neg h0]
   right
   rcases ih (n/1000000000) omgz with h1|h1
   ·rw[h1]
    have hv:=KU f (n/1000000000) omgz
    rw[h1,jO] at hv
    show¬((n%1000000000:Nat):Int)=0
    omega
   ·have hl:0<(lbF f (n/1000000000)).length:=List.length_pos_iff.2 λe=>by rw[e] at h1;exact h1 rfl
    have e:((((n%1000000000:Nat):Int)::lbF f (n/1000000000)).getD ((((n%1000000000:Nat):Int)::lbF f (n/1000000000)).length-1) 0)=(lbF f (n/1000000000)).getD ((lbF f (n/1000000000)).length-1) 0:=by
     rw[List.length_cons,Nat.add_sub_cancel]
     obtain⟨q,hq⟩:∃q,(lbF f (n/1000000000)).length=q+1:=⟨_,(Nat.succ_pred_eq_of_pos hl).symm⟩
     rw[hq];rfl
    rw[e];exact h1
theorem jC:Tr (lb n):=agm n n (Nat.le_refl _)
theorem Tr.tl(h:Tr (x::l)):Tr l:=by
 rcases h with h|h
 ·cases h
 ·cases l with
  |nil=>exact .inl rfl
  |cons y l=>exact .inr h
theorem agn:∀{l m:List Int},Lim l->Lim m->Tr l->Tr m->val l=val m->l=m:=by
 have z:∀{l:List Int},Lim l->Tr l->val l=0->l=[]:=by
  intro l
  induction l with
  |nil=>intro _ _ _;rfl
  |cons x l ih=>
   intro hl ht hv
   rw[fD] at hv
   have:=hl.hd
   have:=bA hl.tl
   have e:=ih hl.tl ht.tl omgz
   subst e
   rcases ht with h|h
   ·cases h
   ·exact absurd (show x=0 by rw[jO] at hv;omega) h
 intro l
 induction l with
 |nil=>intro m _ h2 _ h4 hv;exact(z h2 h4 hv.symm).symm
 |cons x l ih=>
  intro m h1 h2 h3 h4 hv
  cases m with
  |nil=>exact absurd (z h1 h3 hv) (by simp)
  |cons y m=>
   rw[fD,fD] at hv
   have:=h1.hd;have:=h2.hd
   have:=bA h1.tl;have:=bA h2.tl
   have e:x=y:=by omega
   subst e
   congr 1
   exact ih h1.tl h2.tl h3.tl h4.tl omgz
theorem SH(h:Lim l)(ht:Tr l):l=lb (val l).toNat:=by
 refine agn h lim_lb ht jC ?_
 have:=bA h
 rw[aS];omega
theorem Zd:lb 0=[]:=rfl
theorem iR:lb n=[]↔n=0:=by
 constructor
 ·intro h
  have:=aS (n:=n)
  rw[h,jO] at this;omega
 ·intro h;subst h;rfl
theorem KV(h:Lim l)(ht:Tr l)(h0:l≠[]):bp (l.length-1)<=val l:=by
 have hl:=List.length_pos_iff.2 h0
 rcases ht with ht|ht
 ·exact absurd ht h0
 ·have e:=gu (l:=l) (l.length-1)
  have e2:l.drop (l.length-1)=[l.getD (l.length-1) 0]:=by
   rw[List.drop_eq_getElem_cons omgz,ja omgz,List.drop_eq_nil_of_le omgz]
  rw[e2,oH,Nat.min_eq_left omgz] at e
  have:=(bA (l:=l.take (l.length-1)) h.take).1
  have:=h.at (l.length-1)
  have hp:=iH (k:=l.length-1)
  have:bp (l.length-1)*1<=bp (l.length-1)*l.getD (l.length-1) 0:=Int.mul_le_mul_of_nonneg_left omgz omgz
  omega
def trN(l:List Int):Nat->Nat
 |0=>0
 |j+1=>if l.getD j 0=0 then trN l j else j+1
theorem acH:trN l 0=0:=rfl
theorem FK(h:l.getD j 0=0):trN l (j+1)=trN l j:=if_pos h
theorem FM(h:¬l.getD j 0=0):trN l (j+1)=j+1:=if_neg h
theorem sV:trN l j<=j:=by
 induction j with
 |zero=>exact Nat.le_refl _
 |succ j ih=>
  by_cases h:l.getD j 0=0
  ·rw[FK h];omega
  ·rw[FM h];exact Nat.le_refl _
theorem KW:val (l.take (trN l j))=val (l.take j):=by
 induction j with
 |zero=>rfl
 |succ j ih=>
  by_cases h:l.getD j 0=0
  ·rw[FK h,ih,fU,h];omega
  ·rw[FM h]
theorem I8(hj:j<=l.length):Tr (l.take (trN l j)):=by
 induction j with
 |zero=>exact .inl rfl
 |succ j ih=>
  by_cases h:l.getD j 0=0
  ·rw[FK h];exact ih omgz
  ·rw[FM h]
   right
   rw[List.length_take,Nat.min_eq_left hj,Nat.add_sub_cancel,List.getD_eq_getElem?_getD,List.getElem?_take_of_lt omgz,<-List.getD_eq_getElem?_getD]
   exact h
theorem jQ(h:Lim l):l.take (trN l l.length)=lb (val l).toNat:=by
 have h1:=KW (l:=l) (j:=l.length)
 have h2:=I8 (l:=l) (Nat.le_refl _)
 rw[List.take_length] at h1
 have:=SH (l:=l.take (trN l l.length)) h.take h2
 rw[h1] at this;exact this
theorem jR(h:Lim l):(lb (val l).toNat).length=trN l l.length:=by
 rw[<-jQ h,List.length_take,Nat.min_eq_left sV]
theorem wh(ha:Lim a)(hb:Lim b)(ht:Tr b)(h:a.length<b.length):val a<val b:=by
 have h1:=(bA ha).2
 have h2:=KV hb ht (λe=>by rw[e] at h;simp at h)
 have:=BR (j:=a.length) (k:=b.length-1) omgz
 omega
theorem cmp_lt(ha:Lim a)(hb:Lim b)(hl:a.length=b.length)(hi:i<a.length)(he:a.drop (i+1)=b.drop (i+1))(h:a.getD i 0<b.getD i 0):val a<val b:=by
 have e1:=gu (l:=a) i
 have e2:=gu (l:=b) i
 rw[Nat.min_eq_left omgz,gI hi] at e1
 rw[Nat.min_eq_left omgz,gI omgz,<-he] at e2
 have r1:=bA (l:=a.take i) ha.take
 have r2:=bA (l:=b.take i) hb.take
 rw[List.length_take,Nat.min_eq_left omgz] at r1
 have hp:=iH (k:=i)
 generalize val (a.drop (i+1))=w at*
 have:bp i*(a.getD i 0+1000000000*w+1)<=bp i*(b.getD i 0+1000000000*w):=Int.mul_le_mul_of_nonneg_left omgz omgz
 rw[Int.mul_add,Int.mul_one] at this
 omega
end Go.Lm
namespace Go.Lm
variable {l m a b T:List Int} {x y c v s:Int} {i j k n:Nat}
def pC(a b:List Int):Nat->Int
 |0=>0
 |i+1=>if 1000000000<=a.getD i 0+pC a b i+b.getD i 0 then 1 else 0
def pX(a b:List Int)(i:Nat):Int:=if 1000000000<=a.getD i 0+pC a b i+b.getD i 0 then a.getD i 0+pC a b i+b.getD i 0-1000000000 else a.getD i 0+pC a b i+b.getD i 0
def pL(a b:List Int):Nat->List Int
 |0=>[]
 |i+1=>pL a b i++[pX a b i]
theorem Ze:pC a b 0=0:=rfl
theorem FN(h:1000000000<=a.getD i 0+pC a b i+b.getD i 0):pC a b (i+1)=1:=if_pos h
theorem Dh(h:¬1000000000<=a.getD i 0+pC a b i+b.getD i 0):pC a b (i+1)=0:=if_neg h
theorem agp(h:i=0):pL a b i=[]:=by subst h;rfl
theorem I9(h:1000000000<=a.getD i 0+pC a b i+b.getD i 0):pL a b (i+1)=pL a b i++[a.getD i 0+pC a b i+b.getD i 0-1000000000]:=by
 show pL a b i++[pX a b i]=_
 unfold pX;rw[if_pos h]
theorem Ja(h:¬1000000000<=a.getD i 0+pC a b i+b.getD i 0):pL a b (i+1)=pL a b i++[a.getD i 0+pC a b i+b.getD i 0]:=by
 show pL a b i++[pX a b i]=_
 unfold pX;rw[if_neg h]
theorem pL_len:(pL a b i).length=i:=by
 induction i with
 |zero=>rfl
 |succ i ih=>show(pL a b i++[pX a b i]).length=_;rw[List.length_append,ih];rfl
theorem nL:0<=pC a b i/\pC a b i<=1:=by
 cases i with
 |zero=>exact⟨Int.le_refl _,(by decide:(0:Int)<=1)⟩
 |succ i=>unfold pC;split<;>omega
theorem SI(ha:Lim a)(hb:Lim b):Lim (pL a b i)/\val (pL a b i)+bp i*pC a b i=val (a.take i)+val (b.take i):=by
 induction i with
 |zero=>exact⟨Lim.nil,rfl⟩
 |succ i ih=>
  obtain⟨h1,h2⟩:=ih
  have ra:=ha.at i;have rb:=hb.at i
  have rc:=nL (a:=a) (b:=b) (i:=i)
  have e:bp (i+1)=bp i*1000000000:=by rw[vZ,Int.mul_comm]
  rw[fU,fU,e]
  by_cases h:1000000000<=a.getD i 0+pC a b i+b.getD i 0
  ·rw[I9 h,FN h,jP,pL_len]
   refine⟨h1.snoc omgz,?_⟩
   rw[Int.mul_sub,Int.mul_add,Int.mul_add,Int.mul_one];omega
  ·rw[Ja h,Dh h,jP,pL_len]
   refine⟨h1.snoc omgz,?_⟩
   rw[Int.mul_add,Int.mul_add,Int.mul_zero];omega
def pY(a b:List Int):List Int:=pL a b a.length++[pC a b a.length]
theorem KX(ha:Lim a)(hb:Lim b)(h:b.length<=a.length):Lim (pY a b)/\val (pY a b)=val a+val b:=by
 obtain⟨h1,h2⟩:=SI (i:=a.length) ha hb
 have rc:=nL (a:=a) (b:=b) (i:=a.length)
 refine⟨h1.snoc omgz,?_⟩
 unfold pY
 rw[jP,pL_len,h2,bV (Nat.le_refl _),bV h]
theorem qX:(pY a b).length=a.length+1:=by unfold pY;rw[List.length_append,pL_len];rfl
def mC(a b:List Int):Nat->Int
 |0=>0
 |i+1=>if a.getD i 0<mC a b i+b.getD i 0 then 1 else 0
def mX(a b:List Int)(i:Nat):Int:=if a.getD i 0<mC a b i+b.getD i 0 then a.getD i 0+1000000000-(mC a b i+b.getD i 0) else a.getD i 0-(mC a b i+b.getD i 0)
def mL(a b:List Int):Nat->List Int
 |0=>[]
 |i+1=>mL a b i++[mX a b i]
theorem mC_0:mC a b 0=0:=rfl
theorem Zf(h:a.getD i 0<mC a b i+b.getD i 0):mC a b (i+1)=1:=if_pos h
theorem Zg(h:¬a.getD i 0<mC a b i+b.getD i 0):mC a b (i+1)=0:=if_neg h
theorem mL_z(h:i=0):mL a b i=[]:=by subst h;rfl
theorem agq(h:a.getD i 0<mC a b i+b.getD i 0):mL a b (i+1)=mL a b i++[a.getD i 0+1000000000-(mC a b i+b.getD i 0)]:=by
 show mL a b i++[mX a b i]=_
 unfold mX;rw[if_pos h]
theorem agr(h:¬a.getD i 0<mC a b i+b.getD i 0):mL a b (i+1)=mL a b i++[a.getD i 0-(mC a b i+b.getD i 0)]:=by
 show mL a b i++[mX a b i]=_
 unfold mX;rw[if_neg h]
theorem p8:(mL a b i).length=i:=by
 induction i with
 |zero=>rfl
 |succ i ih=>show(mL a b i++[mX a b i]).length=_;rw[List.length_append,ih];rfl
theorem wm:0<=mC a b i/\mC a b i<=1:=by
 cases i with
 |zero=>exact⟨Int.le_refl _,(by decide:(0:Int)<=1)⟩
 |succ i=>unfold mC;split<;>omega
theorem ajE(ha:Lim a)(hb:Lim b):Lim (mL a b i)/\val (mL a b i)=val (a.take i)-val (b.take i)+bp i*mC a b i:=by
 induction i with
 |zero=>exact⟨Lim.nil,rfl⟩
 |succ i ih=>
  obtain⟨h1,h2⟩:=ih
  have ra:=ha.at i;have rb:=hb.at i
  have rc:=wm (a:=a) (b:=b) (i:=i)
  have e:bp (i+1)=bp i*1000000000:=by rw[vZ,Int.mul_comm]
  rw[fU,fU,e]
  by_cases h:a.getD i 0<mC a b i+b.getD i 0
  ·rw[agq h,Zf h,jP,p8]
   refine⟨h1.snoc omgz,?_⟩
   rw[Int.mul_sub,Int.mul_add,Int.mul_add,Int.mul_one];omega
  ·rw[agr h,Zg h,jP,p8]
   refine⟨h1.snoc omgz,?_⟩
   rw[Int.mul_sub,Int.mul_add,Int.mul_zero];omega
theorem FO(ha:Lim a)(hb:Lim b)(h:b.length<=a.length)(hv:val b<=val a):Lim (mL a b a.length)/\val (mL a b a.length)=val a-val b:=by
 obtain⟨h1,h2⟩:=ajE (i:=a.length) ha hb
 rw[bV (Nat.le_refl _),bV h] at h2
 refine⟨h1,?_⟩
 have r1:=bA h1
 rw[p8] at r1
 have rc:=wm (a:=a) (b:=b) (i:=a.length)
 have r2:=(bA hb).1
 have hc:mC a b a.length=0\/mC a b a.length=1:=by omega
 rcases hc with hc|hc
 ·rw[h2,hc];omega
 ·rw[hc,Int.mul_one] at h2;omega
theorem FP(hi:i<l.length):(l.set i x).getD j 0=if j=i then x else l.getD j 0:=by
 rw[List.getD_eq_getElem?_getD,List.getElem?_set]
 by_cases e:i=j
 ·subst e;rw[if_pos rfl,if_pos hi,if_pos rfl];rfl
 ·rw[if_neg e,if_neg (λh=>e h.symm),List.getD_eq_getElem?_getD]
theorem KY:∀{l:List Int} {i:Nat},i<l.length->val (l.set i x)=val l+bp i*(x-l.getD i 0):=by
 intro l
 induction l with
 |nil=>intro i h;simp at h
 |cons y l ih=>
  intro i h
  cases i with
  |zero=>show x+_=y+_+bp 0*(x-y);rw[SF];omega
  |succ i=>
   have:=ih (i:=i) (by simpa using h)
   show y+1000000000*val (l.set i x)=y+1000000000*val l+bp (i+1)*(x-l.getD i 0)
   rw[this,vZ,Int.mul_add,Int.mul_assoc];omega
theorem Lim.set(h:Lim l)(hx:0<=x/\x<1000000000):Lim (l.set i x):=λy hy=>by
 rcases List.mem_or_eq_of_mem_set hy with hy|hy
 ·exact h y hy
 ·rw[hy];exact hx
theorem lH(hx:0<=x/\x<1000000000)(hy:0<=y/\y<1000000000):0<=x*y/\x*y<=999999998000000001:=by
 constructor
 ·exact Int.mul_nonneg hx.1 hy.1
 ·have h1:x*y<=999999999*y:=Int.mul_le_mul_of_nonneg_right omgz hy.1
  omega
def tK(x:Int)(b:List Int)(i:Nat)(T:List Int):Nat->List Int×Int
 |0=>(T,0)
 |k+1=>((tK x b i T k).1.set (i+k) (((tK x b i T k).1.getD (i+k) 0+x*b.getD k 0+(tK x b i T k).2)%1000000000),((tK x b i T k).1.getD (i+k) 0+x*b.getD k 0+(tK x b i T k).2)/1000000000)
theorem tK_0:tK x b i T 0=(T,0):=rfl
theorem ags:tK x b i T (k+1)=((tK x b i T k).1.set (i+k) (((tK x b i T k).1.getD (i+k) 0+x*b.getD k 0+(tK x b i T k).2)%1000000000),((tK x b i T k).1.getD (i+k) 0+x*b.getD k 0+(tK x b i T k).2)/1000000000):=rfl
theorem zR:(tK x b i T k).1.length=T.length:=by
 induction k with
 |zero=>rfl
 |succ k ih=>rw[ags];show(List.set _ _ _).length=_;rw[List.length_set,ih]
theorem acI(hT:Lim T)(hb:Lim b)(hx:0<=x/\x<1000000000):i+k<=T.length->Lim (tK x b i T k).1/\0<=(tK x b i T k).2/\(tK x b i T k).2<1000000000/\val (tK x b i T k).1+bp (i+k)*(tK x b i T k).2=val T+bp i*(x*val (b.take k))/\∀j,i+k<=j->(tK x b i T k).1.getD j 0=T.getD j 0:=by
 induction k with
 |zero=>intro _;refine⟨hT,Int.le_refl _,by show(0:Int)<_;decide,?_,λj _=>rfl⟩
        show val T+_*0=val T+bp i*(x*0);simp
 |succ k ih=>
  intro hk
  obtain⟨h1,h2,h3,h4,h5⟩:=ih omgz
  have hl:i+k<(tK x b i T k).1.length:=by rw[zR];omega
  rw[ags]
  generalize tK x b i T k=p at*
  obtain⟨P,c⟩:=p
  dsimp only at*
  have ra:=h1.at (i+k)
  have rb:=hb.at k
  have rm:=lH hx rb
  have e:bp (i+(k+1))=bp (i+k)*1000000000:=by rw[<-Nat.add_assoc,vZ,Int.mul_comm]
  generalize hs:P.getD (i+k) 0+x*b.getD k 0+c=s at*
  refine⟨h1.set omgz,omgz,omgz,?_,λj hj=>?_⟩
  ·rw[KY hl,e,fU,Int.mul_add x,Int.mul_add,<-Int.add_assoc,<-h4]
   have e1:bp (i+k)*(s%1000000000-P.getD (i+k) 0)+bp (i+k)*1000000000*(s/1000000000)=bp (i+k)*(s-P.getD (i+k) 0):=by
    rw[Int.mul_assoc,<-Int.mul_add];congr 1;omega
   have e2:s-P.getD (i+k) 0=x*b.getD k 0+c:=by omega
   have e3:bp i*(x*(bp k*b.getD k 0))=bp (i+k)*(x*b.getD k 0):=by
    rw[I7,Int.mul_assoc];congr 1;rw[Int.mul_left_comm]
   rw[e2,Int.mul_add] at e1
   rw[e3];omega
  ·rw[FP hl,if_neg omgz];exact h5 j omgz
def tT(a b:List Int):Nat->List Int
 |0=>List.replicate (a.length+b.length) 0
 |i+1=>(tK (a.getD i 0) b i (tT a b i) b.length).1.set (i+b.length) (tK (a.getD i 0) b i (tT a b i) b.length).2
theorem agt:tT a b 0=List.replicate (a.length+b.length) 0:=rfl
theorem agu:tT a b (i+1)=(tK (a.getD i 0) b i (tT a b i) b.length).1.set (i+b.length) (tK (a.getD i 0) b i (tT a b i) b.length).2:=rfl
theorem Jb:(tT a b i).length=a.length+b.length:=by
 induction i with
 |zero=>exact List.length_replicate
 |succ i ih=>rw[agu,List.length_set,zR,ih]
theorem acJ(ha:Lim a)(hb:Lim b):i<=a.length->Lim (tT a b i)/\val (tT a b i)=val (a.take i)*val b/\∀j,i+b.length<=j->(tT a b i).getD j 0=0:=by
 induction i with
 |zero=>
  intro _
  refine⟨Lim.rep,?_,λj _=>?_⟩
  ·rw[agt,KT,kM,Int.zero_mul]
  ·rw[agt,List.getD_eq_getElem?_getD,List.getElem?_replicate];split<;>rfl
 |succ i ih=>
  intro hi
  obtain⟨h1,h2,h3⟩:=ih omgz
  have hl:i+b.length<(tT a b i).length:=by rw[Jb];omega
  obtain⟨g1,g2,g3,g4,g5⟩:=acI (i:=i) (k:=b.length) h1 hb (ha.at i) omgz
  have hl2:i+b.length<(tK (a.getD i 0) b i (tT a b i) b.length).1.length:=by rw[zR];exact hl
  have h0:=h3 (i+b.length) omgz
  have h0:=(g5 (i+b.length) omgz).trans h0
  rw[agu]
  refine⟨g1.set ⟨g2,g3⟩,?_,λj hj=>?_⟩
  ·rw[KY hl2,h0,Int.sub_zero,g4,h2,fU,bV (Nat.le_refl _),Int.add_mul,Int.mul_assoc]
  ·rw[FP hl2,if_neg omgz,g5 j omgz];exact h3 j omgz
theorem SK(ha:Lim a)(hb:Lim b):Lim (tT a b a.length)/\val (tT a b a.length)=val a*val b:=by
 obtain⟨h1,h2,_⟩:=acJ (i:=a.length) ha hb (Nat.le_refl _)
 rw[bV (Nat.le_refl _)] at h2
 exact⟨h1,h2⟩
end Go.Lm
namespace Go.Lm
variable {l m a b T u w yl P S:List Int} {x y c v s d f g r q V W:Int} {i j k n M:Nat}
def jF(v:Int):List Int->List Int×Int
 |[]=>([],0)
 |x::l=>(((jF v l).2*1000000000+x)/v::(jF v l).1,((jF v l).2*1000000000+x)%v)
theorem FQ:jF v []=([],0):=rfl
theorem qY:jF v (x::l)=(((jF v l).2*1000000000+x)/v::(jF v l).1,((jF v l).2*1000000000+x)%v):=rfl
theorem FR:(jF v l).1.length=l.length:=by
 induction l with
 |nil=>rfl
 |cons x l ih=>rw[qY,List.length_cons,List.length_cons,ih]
theorem KZ(h0:0<v)(hl:Lim l):Lim (jF v l).1/\val (jF v l).1=val l/v/\(jF v l).2=val l%v/\0<=(jF v l).2/\(jF v l).2<v:=by
 induction l with
 |nil=>exact⟨Lim.nil,(Int.zero_ediv v).symm,(Int.zero_emod v).symm,Int.le_refl _,h0⟩
 |cons x l ih=>
  obtain⟨h1,h2,h3,h4,h5⟩:=ih hl.tl
  have hx:=hl.hd
  have hv:=(bA hl.tl).1
  rw[qY]
  dsimp only
  have hr:(jF v l).2*1000000000+x<v*1000000000:=by omega
  have e:x+1000000000*val l=((jF v l).2*1000000000+x)+val l/v*1000000000*v:=by
   have:=Int.mul_ediv_add_emod (val l) v
   rw[h3]
   have e2:val l/v*1000000000*v=1000000000*(v*(val l/v)):=by rw[Int.mul_assoc,Int.mul_comm (val l/v),Int.mul_assoc,Int.mul_comm v]
   rw[e2];omega
  refine⟨h1.cons ⟨Int.ediv_nonneg omgz omgz,?_⟩,?_,?_,Int.emod_nonneg _ omgz,Int.emod_lt_of_pos _ h0⟩
  ·exact Int.ediv_lt_of_lt_mul h0 (by rw[Int.mul_comm 1000000000 v];exact hr)
  ·rw[fD,fD,h2,e,Int.add_mul_ediv_right _ _ omgz];omega
  ·rw[fD,e,Int.add_mul_emod_self_right]
theorem K4{L:List Int}(hL:L.length=i)(hi:i<n):(L++List.replicate (n-i) 0).set i x=(L++[x])++List.replicate (n-(i+1)) 0:=by
 rw[List.set_append_right _ _ omgz,hL,Nat.sub_self,show n-i=n-(i+1)+1 by omega,List.replicate_succ,List.append_assoc];rfl
theorem zS{L:List Int}:(List.replicate (i+1) 0++L).set i x=List.replicate i 0++x::L:=by
 rw[List.replicate_succ',List.append_assoc,List.set_append_right _ _ (by simp),List.length_replicate,Nat.sub_self];rfl
def scC(u:List Int)(d:Int):Nat->Int
 |0=>0
 |i+1=>(scC u d i+u.getD i 0*d)/1000000000
def scL(u:List Int)(d:Int):Nat->List Int
 |0=>[]
 |i+1=>scL u d i++[(scC u d i+u.getD i 0*d)%1000000000]
theorem FT:scC u d 0=0:=rfl
theorem BS:scC u d (i+1)=(scC u d i+u.getD i 0*d)/1000000000:=rfl
theorem ajF:scL u d 0=[]:=rfl
theorem FU:scL u d (i+1)=scL u d i++[(scC u d i+u.getD i 0*d)%1000000000]:=rfl
theorem jc:(scL u d i).length=i:=by
 induction i with
 |zero=>rfl
 |succ i ih=>rw[FU,List.length_append,ih];rfl
theorem qZ(hu:Lim u)(hd:0<=d/\d<1000000000):0<=scC u d i/\scC u d i<1000000000:=by
 induction i with
 |zero=>rw[FT];omega
 |succ i ih=>
  have:=lH (hu.at i) hd
  rw[BS];omega
theorem SL(hu:Lim u)(hd:0<=d/\d<1000000000):Lim (scL u d i)/\val (scL u d i)+bp i*scC u d i=val (u.take i)*d:=by
 induction i with
 |zero=>exact⟨Lim.nil,by rw[ajF,FT,jO,kM];simp⟩
 |succ i ih=>
  obtain⟨h1,h2⟩:=ih
  have rc:=qZ (i:=i) hu hd
  rw[FU,BS,jP,jc,fU,Int.add_mul,<-h2,vZ,Int.mul_comm 1000000000 (bp i),Int.mul_assoc]
  generalize u.getD i 0=z
  refine⟨h1.snoc omgz,?_⟩
  rw[Int.add_assoc,<-Int.mul_add,show(scC u d i+z*d)%1000000000+1000000000*((scC u d i+z*d)/1000000000)=scC u d i+z*d by omega,Int.mul_add,Int.mul_assoc,Int.add_assoc]
theorem BU(hu:Lim u)(hd:0<=d/\d<1000000000)(hn:u.length<=n)(hb:val u*d<bp n):Lim (scL u d n)/\val (scL u d n)=val u*d:=by
 obtain⟨h1,h2⟩:=SL (i:=n) hu hd
 rw[bV hn] at h2
 refine⟨h1,?_⟩
 have r1:=bA h1
 rw[jc] at r1
 have rc:=qZ (i:=n) hu hd
 have hp:=iH (k:=n)
 by_cases h0:scC u d n=0
 ·rw[h0,Int.mul_zero] at h2;omega
 ·have:bp n*1<=bp n*scC u d n:=Int.mul_le_mul_of_nonneg_left omgz omgz
  omega
def pd:Nat->Int->List Int
 |0,_=>[]
 |k+1,v=>v%1000000000::pd k (v/1000000000)
theorem qa:∀{k:Nat} {v:Int},(pd k v).length=k:=by
 intro k
 induction k with
 |zero=>intro v;rfl
 |succ k ih=>intro v;show(pd k _).length+1=_;rw[ih]
theorem lim_pd:∀{k:Nat} {v:Int},Lim (pd k v):=by
 intro k
 induction k with
 |zero=>intro v;exact Lim.nil
 |succ k ih=>intro v;exact ih.cons omgz
theorem Jd:∀{k:Nat} {v:Int},0<=v->v<bp k->val (pd k v)=v:=by
 intro k
 induction k with
 |zero=>intro v h0 h;rw[SF] at h;show(0:Int)=v;omega
 |succ k ih=>
  intro v h0 h
  rw[vZ] at h
  show v%1000000000+1000000000*val (pd k (v/1000000000))=v
  rw[ih omgz omgz];omega
theorem ajG:∀{l:List Int},Lim l->l=pd l.length (val l):=by
 intro l
 induction l with
 |nil=>intro _;rfl
 |cons x l ih=>
  intro h
  have hx:=h.hd
  rw[List.length_cons,fD]
  show x::l=(x+1000000000*val l)%1000000000::pd l.length ((x+1000000000*val l)/1000000000)
  rw[show(x+1000000000*val l)%1000000000=x by omega,show(x+1000000000*val l)/1000000000=val l by omega,<-ih h.tl]
theorem acK(h:Lim l)(hl:l.length=k)(hv:val l=v):l=pd k v:=by subst hl;subst hv;exact ajG h
def tC(y:List Int)(f:Int):Nat->Int
 |0=>0
 |i+1=>(tC y f i+y.getD i 0*f)/1000000000
def tB(w y:List Int)(f:Int):Nat->Int
 |0=>0
 |i+1=>if w.getD i 0-(tC y f i+y.getD i 0*f)%1000000000-tB w y f i<0 then 1 else 0
def tL(w y:List Int)(f:Int):Nat->List Int
 |0=>[]
 |i+1=>tL w y f i++[if w.getD i 0-(tC y f i+y.getD i 0*f)%1000000000-tB w y f i<0 then w.getD i 0-(tC y f i+y.getD i 0*f)%1000000000-tB w y f i+1000000000 else w.getD i 0-(tC y f i+y.getD i 0*f)%1000000000-tB w y f i]
theorem agv:tC yl f 0=0:=rfl
theorem Zh:tC yl f (i+1)=(tC yl f i+yl.getD i 0*f)/1000000000:=rfl
theorem tB_0:tB w yl f 0=0:=rfl
theorem agw(h:w.getD i 0-(tC yl f i+yl.getD i 0*f)%1000000000-tB w yl f i<0):tB w yl f (i+1)=1:=if_pos h
theorem agx(h:¬w.getD i 0-(tC yl f i+yl.getD i 0*f)%1000000000-tB w yl f i<0):tB w yl f (i+1)=0:=if_neg h
theorem tL_0:tL w yl f 0=[]:=rfl
theorem agy(h:w.getD i 0-(tC yl f i+yl.getD i 0*f)%1000000000-tB w yl f i<0):tL w yl f (i+1)=tL w yl f i++[w.getD i 0-(tC yl f i+yl.getD i 0*f)%1000000000-tB w yl f i+1000000000]:=by
 conv=>lhs;unfold tL
 rw[if_pos h]
theorem agz(h:¬w.getD i 0-(tC yl f i+yl.getD i 0*f)%1000000000-tB w yl f i<0):tL w yl f (i+1)=tL w yl f i++[w.getD i 0-(tC yl f i+yl.getD i 0*f)%1000000000-tB w yl f i]:=by
 conv=>lhs;unfold tL
 rw[if_neg h]
theorem tL_len:(tL w yl f i).length=i:=by
 induction i with
 |zero=>rfl
 |succ i ih=>
  show(tL w yl f i++[_]).length=_
  rw[List.length_append,ih];rfl
theorem Di:0<=tB w yl f i/\tB w yl f i<=1:=by
 cases i with
 |zero=>exact⟨Int.le_refl _,(by decide:(0:Int)<=1)⟩
 |succ i=>unfold tB;split<;>omega
theorem Je(hy:Lim yl)(hf:0<=f/\f<1000000000):0<=tC yl f i/\tC yl f i<1000000000:=by
 induction i with
 |zero=>rw[agv];omega
 |succ i ih=>
  have:=lH (hy.at i) hf
  rw[Zh];omega
theorem acL(hw:Lim w)(hy:Lim yl)(hf:0<=f/\f<1000000000):Lim (tL w yl f i)/\val (tL w yl f i)=val (w.take i)-val (yl.take i)*f+bp i*(tC yl f i+tB w yl f i):=by
 induction i with
 |zero=>exact⟨Lim.nil,by rw[tL_0,agv,tB_0,jO,kM,kM];simp⟩
 |succ i ih=>
  obtain⟨h1,h2⟩:=ih
  have rw1:=hw.at i
  have rc:=Je (i:=i) hy hf
  have rb:=Di (w:=w) (yl:=yl) (f:=f) (i:=i)
  rw[fU,fU,Zh,vZ,Int.mul_comm 1000000000 (bp i),Int.mul_assoc]
  by_cases h:w.getD i 0-(tC yl f i+yl.getD i 0*f)%1000000000-tB w yl f i<0
  ·rw[agy h,agw h,jP,tL_len,h2,Int.add_mul,Int.mul_assoc (bp i)]
   generalize yl.getD i 0*f=z at*
   refine⟨h1.snoc omgz,?_⟩
   rw[show w.getD i 0-(tC yl f i+z)%1000000000-tB w yl f i+1000000000=w.getD i 0-z-(tC yl f i+tB w yl f i)+1000000000*((tC yl f i+z)/1000000000+1) by omega,Int.mul_add (bp i) (w.getD i 0-z-_),Int.mul_sub,Int.mul_sub]
   omega
  ·rw[agz h,agx h,jP,tL_len,h2,Int.add_mul,Int.mul_assoc (bp i)]
   generalize yl.getD i 0*f=z at*
   refine⟨h1.snoc omgz,?_⟩
   rw[show w.getD i 0-(tC yl f i+z)%1000000000-tB w yl f i=w.getD i 0-z-(tC yl f i+tB w yl f i)+1000000000*((tC yl f i+z)/1000000000+0) by omega,Int.mul_add (bp i) (w.getD i 0-z-_),Int.mul_sub,Int.mul_sub]
   omega
theorem SN(hw:Lim w)(hy:Lim yl)(hf:0<=f/\f<1000000000)(hl:w.length=yl.length+1):Lim (tL w yl f w.length)/\val (tL w yl f w.length)=val w-val yl*f+bp w.length*tB w yl f w.length:=by
 obtain⟨h1,h2⟩:=acL (i:=w.length) hw hy hf
 rw[bV (Nat.le_refl _),bV omgz] at h2
 have hc:tC yl f w.length=0:=by
  have rc:=Je (i:=yl.length) hy hf
  rw[hl,Zh,eu (Nat.le_refl _)];omega
 rw[hc,Int.zero_add] at h2
 exact⟨h1,h2⟩
theorem SQ{p top second head x2 low vlow:Int}(hp:0<p)(hV:V=(top*1000000000+second)*p+vlow)(hvl:0<=vlow/\vlow<p)(hW:W=(head*1000000000+x2)*p+low)(hlo:0<=low/\low<p)(htop:500000000<=top/\top<1000000000)(hs:0<=second/\second<1000000000)(hg:0<=g/\g<1000000000)(h:g*(top*1000000000+second)<=head*1000000000+x2):g<=W/V+1:=by
 have hV0:0<V:=by
  have:1*p<=(top*1000000000+second)*p:=Int.mul_le_mul_of_nonneg_right omgz omgz
  omega
 have h1:g*(top*1000000000+second)*p<=(head*1000000000+x2)*p:=Int.mul_le_mul_of_nonneg_right h omgz
 have h2:g*vlow<=1000000000*p:=Int.le_trans (Int.mul_le_mul_of_nonneg_right (show g<=1000000000 by omega) hvl.1) (Int.mul_le_mul_of_nonneg_left omgz (by decide))
 have h3:1000000000*p<=(top*1000000000+second)*p:=Int.mul_le_mul_of_nonneg_right omgz omgz
 have e:g*V=g*(top*1000000000+second)*p+g*vlow:=by rw[hV,Int.mul_add,Int.mul_assoc]
 have hgV:(g-1)*V<=W:=by rw[Int.sub_mul,Int.one_mul];omega
 have:=Int.le_ediv_of_mul_le hV0 hgV
 omega
theorem BV{p top second head x2 low vlow:Int}(hp:0<p)(hV:V=(top*1000000000+second)*p+vlow)(hvl:0<=vlow/\vlow<p)(hW:W=(head*1000000000+x2)*p+low)(hlo:0<=low/\low<p)(hV0:0<V)(hg:0<=g)(h:head*1000000000+x2<g*(top*1000000000+second)):W/V<g:=by
 have h1:(head*1000000000+x2+1)*p<=g*(top*1000000000+second)*p:=Int.mul_le_mul_of_nonneg_right omgz omgz
 have h2:0<=g*vlow:=Int.mul_nonneg hg hvl.1
 have e:g*V=g*(top*1000000000+second)*p+g*vlow:=by rw[hV,Int.mul_add,Int.mul_assoc]
 rw[Int.add_mul,Int.one_mul] at h1
 exact Int.ediv_lt_of_lt_mul hV0 omgz
theorem Zi{p top second head x2 low vlow:Int}(hp:0<p)(hV:V=(top*1000000000+second)*p+vlow)(hvl:0<=vlow/\vlow<p)(hW:W=(head*1000000000+x2)*p+low)(hlo:0<=low/\low<p)(hV0:0<V)(ht:0<top)(hs:0<=second)(hx2:0<=x2/\x2<1000000000)(hh:0<=head):W/V<=head/top:=by
 refine Int.lt_add_one_iff.1 (BV (g:=head/top+1) hp hV hvl hW hlo hV0 (by have:=Int.ediv_nonneg hh (show 0<=top by omega);omega) ?_)
 have h1:head<(head/top+1)*top:=Int.lt_ediv_add_one_mul_self head ht
 have h3:0<=head/top:=Int.ediv_nonneg hh omgz
 have h2:0<=(head/top+1)*second:=Int.mul_nonneg omgz hs
 rw[Int.mul_add,<-Int.mul_assoc];omega
end Go.Lm
namespace Go.Lm
variable {l a b T u w yl P S X:List Int} {x y c v s d f g r q V W U R:Int} {i j k n m M:Nat}
theorem Zj(h1:1<=v)(h2:v<1000000000):1<=1000000000/(v+1)/\1000000000/(v+1)<1000000000/\500000000<=1000000000/(v+1)*v/\1000000000/(v+1)*(v+1)<=1000000000:=by
 have hd:=Int.mul_ediv_add_emod 1000000000 (v+1)
 have hm0:=Int.emod_nonneg 1000000000 (show v+1≠0 by omega)
 have hm1:=Int.emod_lt_of_pos 1000000000 (show 0<v+1 by omega)
 generalize 1000000000/(v+1)=d at*
 generalize(1000000000:Int)%(v+1)=e at*
 rw[Int.mul_comm] at hd
 have hd1:1<=d:=by
  refine Decidable.not_not.1 λhc=>?_
  have:d*(v+1)<=0*(v+1):=Int.mul_le_mul_of_nonneg_right omgz omgz
  omega
 have hx:d*(v+1)=d*v+d:=by rw[Int.mul_add,Int.mul_one]
 have h2':d*2<=d*(v+1):=Int.mul_le_mul_of_nonneg_left omgz omgz
 refine⟨hd1,omgz,?_,omgz⟩
 by_cases hb:500000000<=v
 ·have:1*v<=d*v:=Int.mul_le_mul_of_nonneg_right hd1 omgz
  omega
 ·refine Decidable.not_not.1 λhc=>?_
  have hlow:500000000-v+1<=d:=by omega
  have h3:(500000000-v+1)*v<=d*v:=Int.mul_le_mul_of_nonneg_right hlow omgz
  have h4:0<=(v-1)*(500000000-v):=Int.mul_nonneg omgz omgz
  have e1:(v-1)*(500000000-v)=(500000000-v+1)*v-500000000:=by
   rw[Int.sub_mul,Int.add_mul,Int.sub_mul,Int.mul_sub,Int.one_mul,Int.one_mul,Int.mul_comm v 500000000];omega
  omega
theorem agA(h:Lim l)(hn:l.length=n+1)(hv:500000000*bp n<=val l):500000000<=l.getD n 0:=by
 have e:=gu (l:=l) n
 have e2:l.drop n=[l.getD n 0]:=by
  rw[List.drop_eq_getElem_cons omgz,ja omgz,List.drop_eq_nil_of_le omgz]
 rw[e2,oH,Nat.min_eq_left omgz] at e
 have r:=(bA (l:=l.take n) h.take).2
 rw[List.length_take,Nat.min_eq_left omgz] at r
 refine Decidable.not_not.1 λhc=>?_
 have:bp n*(l.getD n 0+1)<=bp n*500000000:=Int.mul_le_mul_of_nonneg_left omgz (by have:=iH (k:=n);omega)
 rw[Int.mul_add,Int.mul_one,Int.mul_comm (bp n) 500000000] at this
 omega
theorem SS(h:Lim l)(hn:l.length=k+2):∃low,0<=low/\low<bp k/\val l=(l.getD (k+1) 0*1000000000+l.getD k 0)*bp k+low:=by
 have e:=gu (l:=l) k
 have r:=bA (l:=l.take k) h.take
 rw[List.length_take,Nat.min_eq_left omgz] at r
 rw[Nat.min_eq_left omgz,gI omgz,gI omgz,List.drop_eq_nil_of_le omgz,jO,Int.mul_zero,Int.add_zero] at e
 refine⟨_,r.1,r.2,?_⟩
 rw[e,Int.mul_comm (bp k),Int.mul_comm 1000000000];rw[Int.add_comm (l.getD k 0)];omega
theorem Jg(h:Lim l)(hn:l.length=k+3):∃low,0<=low/\low<bp k/\val l=((l.getD (k+2) 0*1000000000+l.getD (k+1) 0)*1000000000+l.getD k 0)*bp k+low:=by
 have e:=gu (l:=l) k
 have r:=bA (l:=l.take k) h.take
 rw[List.length_take,Nat.min_eq_left omgz] at r
 rw[Nat.min_eq_left omgz,gI omgz,gI omgz,gI omgz,List.drop_eq_nil_of_le omgz,jO,Int.mul_zero,Int.add_zero] at e
 refine⟨_,r.1,r.2,?_⟩
 rw[e,Int.mul_comm (bp k)]
 rw[show l.getD k 0+1000000000*(l.getD (k+1) 0+1000000000*l.getD (k+1+1) 0)=(l.getD (k+2) 0*1000000000+l.getD (k+1) 0)*1000000000+l.getD k 0 by
  show _=_;rw[show k+1+1=k+2 from rfl];omega]
 omega
theorem Dj(h0:0<=v)(h:v<bp M)(hj:j<=M):val ((pd M v).drop j)=v/bp j/\val ((pd M v).take j)=v%bp j:=by
 have e:=gu (l:=pd M v) j
 rw[Jd h0 h,qa,Nat.min_eq_left hj] at e
 have r:=bA (l:=(pd M v).take j) lim_pd.take
 rw[List.length_take,qa,Nat.min_eq_left hj] at r
 have hp:=iH (k:=j)
 generalize val ((pd M v).drop j)=D at*
 generalize val ((pd M v).take j)=T at*
 constructor
 ·rw[e,Int.add_mul_ediv_left _ _ omgz,Int.ediv_eq_zero_of_lt r.1 r.2,Int.zero_add]
 ·rw[e,Int.add_mul_emod_self_left,Int.emod_eq_of_lt r.1 r.2]
theorem Zk(h0:0<=v)(h:v<bp j)(hj:j<=M)(hM:v<bp M):val ((pd M v).drop j)=0:=by
 rw[(Dj h0 hM hj).1];exact Int.ediv_eq_zero_of_lt h0 h
structure Stp(U V:Int)(M n j:Nat)(w:List Int):Prop where
 len:w.length=n+1
 lim:Lim w
 val:val w=U%(V*bp (j+1))/bp j
 lt:Go.Lm.val w<V*1000000000
 cat:∀w',w'.length=n+1->Lim w'->Go.Lm.val w'=Go.Lm.val w-Go.Lm.val w/V*V->(pd M (U%(V*bp (j+1)))).take j++w'++(pd M (U%(V*bp (j+1)))).drop (j+n+1)=pd M (U%(V*bp j))
 quo:U/(V*bp j)=U/(V*bp (j+1))*1000000000+Go.Lm.val w/V
 at_:∀i,i<n+1->w.getD i 0=(pd M (U%(V*bp (j+1)))).getD (j+i) 0
theorem stp(hU:0<=U)(hV:0<V)(hVn:V<bp n)(hM:j+n+1<=M):Stp U V M n j (((pd M (U%(V*bp (j+1)))).drop j).take (n+1)):=by
 have hb:=iH (k:=j)
 have hb1:=iH (k:=j+1)
 have hVb:0<V*bp (j+1):=Int.mul_pos hV hb1
 have hVj:0<V*bp j:=Int.mul_pos hV hb
 have e1:V*bp (j+1)=V*bp j*1000000000:=by rw[vZ,Int.mul_comm 1000000000,Int.mul_assoc]
 obtain⟨R,hR⟩:∃R,U%(V*bp (j+1))=R:=⟨_,rfl⟩
 have hR0:0<=R:=by rw[<-hR];exact Int.emod_nonneg _ omgz
 have hR1:R<V*bp (j+1):=by rw[<-hR];exact Int.emod_lt_of_pos _ hVb
 have hVb2:V*bp (j+1)<=bp (j+n+1):=by
  have e2:bp (j+n+1)=bp n*bp (j+1):=by rw[show j+n+1=n+(j+1) by omega];exact I7
  rw[e2]
  exact Int.mul_le_mul_of_nonneg_right omgz omgz
 have hbM:bp (j+n+1)<=bp M:=BR hM
 have hRM:R<bp M:=by omega
 rw[hR]
 obtain⟨hd,ht⟩:=Dj hR0 hRM (j:=j) omgz
 have hl:((pd M R).drop j).length=M-j:=by rw[List.length_drop,qa]
 have hz:val ((pd M R).drop (j+n+1))=0:=Zk hR0 omgz omgz hRM
 have hsp:=gu (l:=(pd M R).drop j) (n+1)
 rw[List.drop_drop,show j+(n+1)=j+n+1 by omega,hz,Int.mul_zero,Int.add_zero,hd] at hsp
 have hlim:Lim (((pd M R).drop j).take (n+1)):=lim_pd.drop.take
 have hlen:(((pd M R).drop j).take (n+1)).length=n+1:=by rw[List.length_take,hl];omega
 generalize hw:((pd M R).drop j).take (n+1)=w at*
 have hWlt:val w<V*1000000000:=by
  rw[<-hsp]
  exact Int.ediv_lt_of_lt_mul hb (by rw[e1] at hR1;rw[Int.mul_assoc,Int.mul_comm 1000000000,<-Int.mul_assoc];exact hR1)
 have hRe:R=R%bp j+bp j*val w:=by rw[<-hsp];have:=Int.emod_add_mul_ediv R (bp j);omega
 have hr0:=Int.emod_nonneg R (show bp j≠0 by omega)
 have hr1:=Int.emod_lt_of_pos R hb
 have hw0:=(bA hlim).1
 have hq:=Int.mul_ediv_add_emod (val w) V
 have hm0:=Int.emod_nonneg (val w) (show V≠0 by omega)
 have hm1:=Int.emod_lt_of_pos (val w) hV
 -- R = (W / V) * (V * bp j) + R'
 have hR':R=R%bp j+bp j*(val w%V)+val w/V*(V*bp j):=by
  have:bp j*val w=bp j*(val w%V)+val w/V*(V*bp j):=by
   conv=>lhs;rw[<-hq]
   rw[Int.mul_add,Int.add_comm,<-Int.mul_assoc (val w/V),Int.mul_comm (val w/V) V,Int.mul_comm (bp j) (V*_)]
  omega
 have hlow0:0<=R%bp j+bp j*(val w%V):=by have:=Int.mul_nonneg (show 0<=bp j by omega) hm0;omega
 have hlow1:R%bp j+bp j*(val w%V)<V*bp j:=by
  have:bp j*(val w%V+1)<=bp j*V:=Int.mul_le_mul_of_nonneg_left omgz omgz
  rw[Int.mul_add,Int.mul_one,Int.mul_comm (bp j) V] at this;omega
 have hmod:U%(V*bp j)=R%bp j+bp j*(val w%V):=by
  have h1:U%(V*bp j)=R%(V*bp j):=by rw[<-hR,e1,Int.emod_emod_of_dvd _ (Int.dvd_mul_right _ _)]
  rw[h1]
  conv=>lhs;rw[hR']
  rw[Int.add_mul_emod_self_right,Int.emod_eq_of_lt hlow0 hlow1]
 refine⟨hlen,hlim,by rw[hR];exact hsp.symm,hWlt,λw' h1 h2 h3=>?_,?_,λi hi=>?_⟩
 ·rw[hR]
  refine acK ((lim_pd.take.app h2).app lim_pd.drop) ?_ ?_
  ·rw[List.length_append,List.length_append,List.length_take,List.length_drop,qa,h1];omega
  ·rw[uM,uM,hz,Int.mul_zero,Int.add_zero,ht,List.length_take,qa,Nat.min_eq_left omgz,hmod,h3]
   rw[show val w-val w/V*V=val w%V by rw[Int.mul_comm (val w/V)];omega]
 ·have hU2:=Int.mul_ediv_add_emod U (V*bp (j+1))
  rw[hR] at hU2
  have e3:U=R%bp j+bp j*(val w%V)+(U/(V*bp (j+1))*1000000000+val w/V)*(V*bp j):=by
   rw[Int.add_mul]
   conv=>lhs;rw[<-hU2]
   rw[e1,Int.mul_comm (V*bp j*1000000000),Int.mul_comm (V*bp j) 1000000000,<-Int.mul_assoc]
   omega
  conv=>lhs;rw[e3]
  rw[Int.add_mul_ediv_right _ _ omgz,Int.ediv_eq_zero_of_lt hlow0 hlow1,Int.zero_add]
 ·rw[hR,<-hw,List.getD_eq_getElem?_getD,List.getElem?_take_of_lt hi,List.getElem?_drop,<-List.getD_eq_getElem?_getD]
theorem Stp.exact(h:Stp U V M n j w)(hV:0<V)(hy:Lim yl)(hyl:yl.length=n)(hyv:Go.Lm.val yl=V):
 tB w yl (Go.Lm.val w/V) (n+1)=0/\(pd M (U%(V*bp (j+1)))).take j++tL w yl (Go.Lm.val w/V) (n+1)++(pd M (U%(V*bp (j+1)))).drop (j+n+1)=pd M (U%(V*bp j)):=by
 have hw0:=(bA h.lim).1
 have hq0:0<=Go.Lm.val w/V:=Int.ediv_nonneg hw0 omgz
 have hq1:Go.Lm.val w/V<1000000000:=Int.ediv_lt_of_lt_mul hV (by have:=h.lt;rw[Int.mul_comm];exact this)
 obtain⟨s1,s2⟩:=SN h.lim hy ⟨hq0,hq1⟩ (by rw[h.len,hyl])
 rw[h.len] at s1 s2
 have hq:=Int.mul_ediv_add_emod (Go.Lm.val w) V
 have hm0:=Int.emod_nonneg (Go.Lm.val w) (show V≠0 by omega)
 have rb:=Di (w:=w) (yl:=yl) (f:=Go.Lm.val w/V) (i:=n+1)
 have r1:=bA s1
 rw[tL_len] at r1
 rw[hyv] at s2
 have hp:=iH (k:=n+1)
 have hb:tB w yl (Go.Lm.val w/V) (n+1)=0:=by
  refine Decidable.not_not.1 λhc=>?_
  have e:tB w yl (Go.Lm.val w/V) (n+1)=1:=by omega
  rw[e,Int.mul_one] at s2;omega
 refine⟨hb,h.cat _ tL_len s1 ?_⟩
 rw[s2,hb,Int.mul_zero,Int.add_zero,Int.mul_comm V]
theorem Stp.over(h:Stp U V M n j w)(hV:0<V)(hVn:V<bp n)(hy:Lim yl)(hyl:yl.length=n)(hyv:Go.Lm.val yl=V)(hg:Go.Lm.val w/V+1<1000000000):
 tB w yl (Go.Lm.val w/V+1) (n+1)=1/\(pd M (U%(V*bp (j+1)))).take j++pL (tL w yl (Go.Lm.val w/V+1) (n+1)) yl (n+1)++(pd M (U%(V*bp (j+1)))).drop (j+n+1)=pd M (U%(V*bp j)):=by
 have hw0:=(bA h.lim).1
 have hq0:0<=Go.Lm.val w/V:=Int.ediv_nonneg hw0 omgz
 obtain⟨s1,s2⟩:=SN h.lim hy (f:=Go.Lm.val w/V+1) ⟨omgz,hg⟩ (by rw[h.len,hyl])
 rw[h.len] at s1 s2
 have hq:=Int.mul_ediv_add_emod (Go.Lm.val w) V
 have hm0:=Int.emod_nonneg (Go.Lm.val w) (show V≠0 by omega)
 have hm1:=Int.emod_lt_of_pos (Go.Lm.val w) hV
 have rb:=Di (w:=w) (yl:=yl) (f:=Go.Lm.val w/V+1) (i:=n+1)
 have r1:=bA s1
 rw[tL_len] at r1
 rw[hyv,Int.mul_add,Int.mul_one] at s2
 have hp:=iH (k:=n+1)
 have hn1:bp n<=bp (n+1):=BR omgz
 have hb:tB w yl (Go.Lm.val w/V+1) (n+1)=1:=by
  refine Decidable.not_not.1 λhc=>?_
  have e:tB w yl (Go.Lm.val w/V+1) (n+1)=0:=by omega
  rw[e,Int.mul_zero] at s2;omega
 rw[hb,Int.mul_one] at s2
 generalize hT:tL w yl (Go.Lm.val w/V+1) (n+1)=T at*
 have hTl:T.length=n+1:=by rw[<-hT];exact tL_len
 obtain⟨p1,p2⟩:=SI (i:=n+1) s1 hy
 rw[bV omgz,bV omgz,hyv] at p2
 have r2:=bA p1
 rw[pL_len] at r2
 have rc:=nL (a:=T) (b:=yl) (i:=n+1)
 have hc:pC T yl (n+1)=1:=by
  refine Decidable.not_not.1 λhc=>?_
  have e:pC T yl (n+1)=0:=by omega
  rw[e,Int.mul_zero] at p2;omega
 rw[hc,Int.mul_one] at p2
 refine⟨hb,h.cat _ pL_len p1 ?_⟩
 rw[Int.mul_comm (Go.Lm.val w/V)];omega
structure Gs(V:Int)(n:Nat)(w yl:List Int):Prop where
 q0:0<=val w/V
 q9:val w/V<1000000000
 hd:0<=w.getD n 0*1000000000+w.getD (n-1) 0/\w.getD n 0*1000000000+w.getD (n-1) 0<=yl.getD (n-1) 0*1000000000+999999999
 first:val w/V<=(w.getD n 0*1000000000+w.getD (n-1) 0)/yl.getD (n-1) 0
 dec:∀g r,val w/V<=g->0<=r->w.getD n 0*1000000000+w.getD (n-1) 0=g*yl.getD (n-1) 0+r->r*1000000000+w.getD (n-2) 0<g*yl.getD (n-2) 0->val w/V<=g-1
 stop:∀g r,val w/V<=g->g<1000000000->0<=r->w.getD n 0*1000000000+w.getD (n-1) 0=g*yl.getD (n-1) 0+r->(g*yl.getD (n-2) 0<=r*1000000000+w.getD (n-2) 0\/1000000000<=r)->g<=val w/V+1
theorem Stp.guess(h:Stp U V M n j w)(hV:0<V)(hy:Lim yl)(hyl:yl.length=n)(hyv:Go.Lm.val yl=V)(hn:2<=n)(htop:500000000<=yl.getD (n-1) 0):Gs V n w yl:=by
 obtain⟨k,rfl⟩:∃k,n=k+2:=⟨n-2,omgz⟩
 have e1:k+2-1=k+1:=rfl
 have e2:k+2-2=k:=rfl
 rw[e1] at htop
 have hw0:=(bA h.lim).1
 obtain⟨lv,l1,l2,hVs⟩:=SS hy hyl
 obtain⟨lw,g1,g2,hWs⟩:=Jg h.lim h.len
 rw[hyv] at hVs
 have hp:=iH (k:=k)
 have ht:=hy.at (k+1);have hs:=hy.at k
 have hx2:=h.lim.at k;have hx1:=h.lim.at (k+1);have hxh:=h.lim.at (k+2)
 have hq0:0<=Go.Lm.val w/V:=Int.ediv_nonneg hw0 omgz
 have hq1:Go.Lm.val w/V<1000000000:=Int.ediv_lt_of_lt_mul hV (by have:=h.lt;rw[Int.mul_comm];exact this)
 have hlt:=h.lt
 -- the window's first limb is not greater than the divisor's
 have hxt:w.getD (k+2) 0<=yl.getD (k+1) 0:=by
  refine Decidable.not_not.1 λhc=>?_
  have h1:((yl.getD (k+1) 0+1)*1000000000)*1000000000*bp k<=((w.getD (k+2) 0*1000000000+w.getD (k+1) 0)*1000000000+w.getD k 0)*bp k:=Int.mul_le_mul_of_nonneg_right omgz omgz
  have h2:V*1000000000<=(yl.getD (k+1) 0*1000000000+1000000000)*bp k*1000000000:=by
   refine Int.mul_le_mul_of_nonneg_right ?_ (by decide)
   have h3:(yl.getD (k+1) 0*1000000000+yl.getD k 0+1)*bp k<=(yl.getD (k+1) 0*1000000000+1000000000)*bp k:=Int.mul_le_mul_of_nonneg_right omgz omgz
   rw[Int.add_mul _ 1,Int.one_mul] at h3
   omega
  have h4:(yl.getD (k+1) 0*1000000000+1000000000)*bp k*1000000000=((yl.getD (k+1) 0+1)*1000000000)*1000000000*bp k:=by
   rw[Int.mul_assoc,Int.mul_comm (bp k),<-Int.mul_assoc,show(yl.getD (k+1) 0*1000000000+1000000000)=(yl.getD (k+1) 0+1)*1000000000 by omega]
  omega
 have ea:∀g r:Int,w.getD (k+2) 0*1000000000+w.getD (k+1) 0=g*yl.getD (k+1) 0+r->g*(yl.getD (k+1) 0*1000000000+yl.getD k 0)=(w.getD (k+2) 0*1000000000+w.getD (k+1) 0)*1000000000-r*1000000000+g*yl.getD k 0:=λg r he=>by
  rw[he,Int.mul_add,<-Int.mul_assoc,Int.add_mul];omega
 refine⟨hq0,hq1,⟨by rw[e1];omega,by rw[e1];omega⟩,?_,λg r hg hr he ht2=>?_,λg r hg hg2 hr he ht2=>?_⟩
 ·rw[e1]
  exact Zi hp hVs ⟨l1,l2⟩ hWs ⟨g1,g2⟩ hV omgz hs.1 hx2 omgz
 ·rw[e1] at he;rw[e2] at ht2
  have:=BV (g:=g) hp hVs ⟨l1,l2⟩ hWs ⟨g1,g2⟩ hV omgz (by rw[ea g r he];omega)
  omega
 ·rw[e1] at he;rw[e2] at ht2
  refine SQ hp hVs ⟨l1,l2⟩ hWs ⟨g1,g2⟩ ⟨htop,ht.2⟩ hs ⟨omgz,hg2⟩ ?_
  rw[ea g r he]
  rcases ht2 with ht2|ht2
  ·omega
  ·have:=lH (x:=g) (y:=yl.getD k 0) ⟨omgz,hg2⟩ hs
   omega
theorem NG(hd:0<d)(hv:0<v)(hu:0<=c):c*d/(v*d)=c/v/\c*d%(v*d)=c%v*d:=by
 constructor
 ·exact Int.mul_ediv_mul_of_pos_left _ _ hd
 ·rw[Int.mul_comm c,Int.mul_comm v,Int.mul_emod_mul_of_pos _ _ hd,Int.mul_comm]
end Go.Lm
namespace Go.Lm
variable {l a b:List Int} {x y c v t:Int} {i j k n m u:Nat}
def Dk:Nat->Nat->Nat
 |0,_=>0
 |f+1,u=>if u=0 then 0 else Dk f (u/10)+1
def dgs(u:Nat):Nat:=Dk u u
theorem FV:∀(f u:Nat),u<=f->u<10^Dk f u/\(0<u->0<Dk f u/\10^(Dk f u-1)<=u):=by
 intro f
 induction f with
 |zero=>intro u h;have:u=0:=by omega
        subst this;exact⟨by decide,λh=>absurd h omgz⟩
 |succ f ih=>
  intro u h
  unfold Dk
  by_cases h0:u=0
  ·rw[if_pos h0];exact⟨by rw[h0];decide,λh=>absurd h omgz⟩
  ·rw[if_neg h0]
   obtain⟨h1,h2⟩:=ih (u/10) omgz
   refine⟨by rw[Nat.pow_succ];omega,λ_=>⟨omgz,?_⟩⟩
   rw[Nat.add_sub_cancel]
   by_cases h3:u/10=0
   ·rw[h3]
    have e:Dk f 0=0:=by cases f<;>simp[Dk]
    rw[e];omega
   ·obtain⟨h4,h5⟩:=h2 omgz
    obtain⟨q,hq⟩:∃q,Dk f (u/10)=q+1:=⟨_,(Nat.succ_pred_eq_of_pos h4).symm⟩
    rw[hq] at h5⊢
    rw[Nat.add_sub_cancel] at h5
    rw[Nat.pow_succ];omega
theorem Dl:u<10^dgs u:=(FV u u (Nat.le_refl _)).1
theorem zT(h:0<u):0<dgs u/\10^(dgs u-1)<=u:=(FV u u (Nat.le_refl _)).2 h
theorem iT(h1:10^k<=u)(h2:u<10^(k+1)):dgs u=k+1:=by
 have h0:0<u:=Nat.lt_of_lt_of_le (Nat.pow_pos (by decide)) h1
 have a1:=Dl (u:=u)
 obtain⟨a2,a3⟩:=zT h0
 have c1:k<dgs u:=(Nat.pow_lt_pow_iff_right (show 1<10 by decide)).1 (Nat.lt_of_le_of_lt h1 a1)
 have c2:dgs u-1<k+1:=(Nat.pow_lt_pow_iff_right (show 1<10 by decide)).1 (Nat.lt_of_le_of_lt a3 h2)
 omega
theorem acM:dgs 0=0:=rfl
theorem ajH(h:0<u):dgs u=dgs (u/10)+1:=by
 by_cases h3:u/10=0
 ·rw[h3,acM]
  exact iT (k:=0) omgz omgz
 ·obtain⟨h4,h5⟩:=zT (u:=u/10) omgz
  have h6:=Dl (u:=u/10)
  obtain⟨q,hq⟩:∃q,dgs (u/10)=q+1:=⟨_,(Nat.succ_pred_eq_of_pos h4).symm⟩
  rw[hq] at h5 h6⊢
  rw[Nat.add_sub_cancel] at h5
  exact iT (by rw[Nat.pow_succ];omega) (by rw[Nat.pow_succ];omega)
theorem acN(h:u<1000000000):dgs u<=9:=by
 rcases Nat.eq_zero_or_pos u with h0|h0
 ·subst h0;decide
 ·obtain⟨_,h2⟩:=zT h0
  refine Decidable.not_not.1 λhc=>?_
  have:10^9<=10^(dgs u-1):=Nat.pow_le_pow_right (by decide) omgz
  omega
def dg9(l:List Int):Nat:=if l.length=0 then 0 else 9*(l.length-1)+dgs (l.getD (l.length-1) 0).toNat
theorem SV(h:l.length=0):dg9 l=0:=if_pos h
theorem FW(h:¬l.length=0):dg9 l=9*(l.length-1)+dgs (l.getD (l.length-1) 0).toNat:=if_neg h
theorem ajI:bp k=((10^(9*k):Nat):Int):=by unfold bp;rw[Nat.pow_mul]
theorem SX(hl:Lim l)(ht:Tr l):dg9 l<=m↔val l<((10^m:Nat):Int):=by
 by_cases h0:l.length=0
 ·rw[SV h0,List.length_eq_zero_iff.1 h0,jO]
  exact⟨λ_=>Int.natCast_pos.2 (Nat.pow_pos (by decide)),λ_=>Nat.zero_le _⟩
 ·rw[FW h0]
  rcases ht with ht|ht
  ·rw[ht] at h0;exact absurd rfl h0
  ·have hr:=hl.at (l.length-1)
   obtain⟨n,hn⟩:∃n,l.length=n+1:=⟨_,(Nat.succ_pred_eq_of_pos omgz).symm⟩
   rw[hn,Nat.add_sub_cancel] at hr ht⊢
   have e:=gu (l:=l) n
   have e2:l.drop n=[l.getD n 0]:=by
    rw[List.drop_eq_getElem_cons omgz,ja omgz,List.drop_eq_nil_of_le omgz]
   rw[e2,oH,Nat.min_eq_left omgz] at e
   have r:=bA (l:=l.take n) hl.take
   rw[List.length_take,Nat.min_eq_left omgz] at r
   obtain⟨u,hu⟩:∃u:Nat,l.getD n 0=u:=Int.eq_ofNat_of_zero_le hr.1
   rw[hu] at e ht⊢
   rw[Int.toNat_natCast]
   have d1:=Dl (u:=u)
   obtain⟨d2,d3⟩:=zT (u:=u) omgz
   generalize dgs u=k at*
   have hb:=iH (k:=n)
   have up:val l<bp n*((10^k:Nat):Int):=by
    have:bp n*((u:Int)+1)<=bp n*((10^k:Nat):Int):=Int.mul_le_mul_of_nonneg_left omgz omgz
    rw[Int.mul_add,Int.mul_one] at this;omega
   have lo:bp n*((10^(k-1):Nat):Int)<=val l:=by
    have:bp n*((10^(k-1):Nat):Int)<=bp n*(u:Int):=Int.mul_le_mul_of_nonneg_left omgz omgz
    omega
   rw[ajI,<-Int.natCast_mul,<-Nat.pow_add] at up lo
   constructor
   ·intro h
    have:((10^(9*n+k):Nat):Int)<=((10^m:Nat):Int):=Int.ofNat_le.2 (Nat.pow_le_pow_right (by decide) h)
    omega
   ·intro h
    refine Decidable.not_not.1 λhc=>?_
    have:((10^m:Nat):Int)<=((10^(9*n+(k-1)):Nat):Int):=Int.ofNat_le.2 (Nat.pow_le_pow_right (by decide) omgz)
    omega
theorem zU:dg9 (lb n)<=m↔n<10^m:=by
 rw[SX lim_lb jC,aS];exact Int.ofNat_lt
theorem Dm(h:n<10^m):(lb n).length<=m/9+1:=by
 have:=zU.2 h
 by_cases h0:(lb n).length=0
 ·omega
 ·rw[FW h0] at this;omega
end Go.Lm
namespace Go.Lm
variable {l m a b u T:List Int} {x y c v d f g r q V W U R:Int} {i j k n M:Nat}
theorem acR(hV:0<V)(hW:0<=W)(hx:0<=x/\x<1000000000):
 (x+1000000000*W)/V=(x+1000000000*(W%V))/V+1000000000*(W/V)/\(x+1000000000*W)%V=(x+1000000000*(W%V))%V
 /\0<=x+1000000000*(W%V)/\0<=(x+1000000000*(W%V))/V/\(x+1000000000*(W%V))/V<1000000000:=by
 have h:=Int.mul_ediv_add_emod W V
 have h0:=Int.emod_nonneg W (show V≠0 by omega)
 have h1:=Int.emod_lt_of_pos W hV
 have e:x+1000000000*W=(x+1000000000*(W%V))+1000000000*(W/V)*V:=by
  have:1000000000*(W/V)*V=1000000000*(V*(W/V)):=by rw[Int.mul_assoc,Int.mul_comm (W/V)]
  rw[this];omega
 refine⟨?_,?_,omgz,Int.ediv_nonneg omgz omgz,Int.ediv_lt_of_lt_mul hV (by rw[Int.mul_comm];omega)⟩
 ·conv=>lhs;rw[e]
  rw[Int.add_mul_ediv_right _ _ omgz]
 ·conv=>lhs;rw[e]
  rw[Int.add_mul_emod_self_right]
def rqv(a:List Int)(V:Int)(m i:Nat):List Int:=List.replicate i 0++pd (m-i) (val (a.drop i)/V)
theorem Ll(h:i<=M):(rqv a V M i).length=M:=by unfold rqv;rw[List.length_append,List.length_replicate,qa];omega
theorem ZE:rqv a V M M=List.replicate M 0:=by unfold rqv;rw[Nat.sub_self];exact List.append_nil _
theorem ZF:Lim (rqv a V M i):=Lim.rep.app lim_pd
theorem Lp(ha:Lim a)(hl:a.length=M)(hi:i<M)(hV:0<V)(hc:(a.getD i 0+1000000000*(val (a.drop (i+1))%V))/V=c):(rqv a V M (i+1)).set i c=rqv a V M i:=by
 subst hc
 have hd:=acR hV (bA (l:=a.drop (i+1)) ha.drop).1 (ha.at i)
 unfold rqv
 rw[zS,show M-i=(M-(i+1))+1 by omega,gI (i:=i) (show i<a.length by omega),hd.1]
 show _=List.replicate i 0++(_%1000000000::pd (M-(i+1)) (_/1000000000))
 congr 2
 ·omega
 ·congr 1;omega
theorem TH(ha:Lim a)(hl:a.length=M)(hi:i<M)(hV:0<V)(hc:(a.getD i 0+1000000000*(val (a.drop (i+1))%V))/V=0):rqv a V M (i+1)=rqv a V M i:=by
 rw[<-Lp ha hl hi hV hc]
 unfold rqv
 rw[List.replicate_succ',List.append_assoc,List.set_append_right _ _ (by simp),List.length_replicate,Nat.sub_self];rfl
theorem ZG(ha:Lim a)(hl:a.length=M)(hV:0<V):val (rqv a V M 0)=val a/V:=by
 have hr:=bA ha
 unfold rqv
 rw[List.replicate_zero,List.nil_append,List.drop_zero,Nat.sub_zero]
 refine Jd (Int.ediv_nonneg hr.1 omgz) ?_
 rw[<-hl]
 have:val a/V<=val a:=Int.ediv_le_self _ hr.1
 omega
theorem agP(ha:Lim a)(hi:i<a.length)(hV:0<V):val (a.drop i)%V=(a.getD i 0+1000000000*(val (a.drop (i+1))%V))%V:=by
 rw[gI hi,(acR hV (bA (l:=a.drop (i+1)) ha.drop).1 (ha.at i)).2.1]
theorem ZH(hx:0<=x/\x<1000000000):Lim (x::lb n)/\val (x::lb n)=x+1000000000*n:=⟨lim_lb.cons hx,by rw[fD,aS]⟩
theorem agQ(ha:Lim a)(hb:Lim b):(a.getD i 0+b.getD i 0+pC a b i)%1000000000=pX a b i/\(a.getD i 0+b.getD i 0+pC a b i)/1000000000=pC a b (i+1):=by
 have ra:=ha.at i;have rb:=hb.at i
 have rc:=nL (a:=a) (b:=b) (i:=i)
 unfold pX
 by_cases h:1000000000<=a.getD i 0+pC a b i+b.getD i 0
 ·rw[FN h,if_pos h];omega
 ·rw[Dh h,if_neg h];omega
theorem pL_s:pL a b (i+1)=pL a b i++[pX a b i]:=rfl
theorem agR(ha:Lim a)(hb:Lim b)(h1:a.length<=i)(h2:b.length<=i)(hc:pC a b i=0):Lim (pL a b i)/\val (pL a b i)=val a+val b:=by
 obtain⟨p1,p2⟩:=SI (i:=i) ha hb
 rw[bV h1,bV h2,hc] at p2
 exact⟨p1,omgz⟩
theorem agS(ha:Lim a)(hb:Lim b)(h1:a.length<=i)(h2:b.length<=i):pC a b (i+1)=0:=by
 have rc:=nL (a:=a) (b:=b) (i:=i)
 refine Dh ?_
 rw[eu h1,eu h2];omega
theorem agT(ha:Lim a)(hb:Lim b):(a.getD i 0+1000000000-b.getD i 0-mC a b i)%1000000000=mX a b i/\1-(a.getD i 0+1000000000-b.getD i 0-mC a b i)/1000000000=mC a b (i+1)/\0<=a.getD i 0+1000000000-b.getD i 0-mC a b i:=by
 have ra:=ha.at i;have rb:=hb.at i
 have rc:=wm (a:=a) (b:=b) (i:=i)
 unfold mX
 by_cases h:a.getD i 0<mC a b i+b.getD i 0
 ·rw[Zf h,if_pos h];omega
 ·rw[Zg h,if_neg h];omega
theorem mL_s:mL a b (i+1)=mL a b i++[mX a b i]:=rfl
theorem ZI(hu:Lim u)(hd:0<=d/\d<1000000000)(h1:u.length<=i)(hc:scC u d i=0):Lim (List.replicate k 0++scL u d i)/\val (List.replicate k 0++scL u d i)=bp k*(val u*d):=by
 obtain⟨p1,p2⟩:=SL (i:=i) hu hd
 rw[bV h1,hc] at p2
 refine⟨Lim.rep.app p1,?_⟩
 rw[uM,KT,List.length_replicate]
 have:val (scL u d i)=val u*d:=by omega
 rw[this];omega
theorem ZJ(hu:Lim u)(hd:0<=d/\d<1000000000)(h1:u.length<=i):scC u d (i+1)=0:=by
 have:=qZ (i:=i) hu hd
 rw[BS,eu h1];omega
end Go.Lm
namespace Go.Rt
variable {a b c d x y:Int} {p q r:Rat} {D E K L n m:Nat}
theorem xS(h:b≠0):0<Int.gcd a b:=Nat.pos_of_ne_zero λe=>h (Int.gcd_eq_zero_iff.1 e).2
theorem Ab(h:0<b):(Rat.divInt a b).num=a.tdiv (Int.gcd a b):=by
 rw[Rat.num_divInt,Int.tdiv_eq_ediv_of_dvd (Int.gcd_dvd_left a b),Int.gcd_comm,Int.sign_eq_one_of_pos h,Int.one_mul]
theorem Ac(h:0<b):((Rat.divInt a b).den:Int)=b.tdiv (Int.gcd a b):=by
 rw[Rat.den_divInt,if_neg omgz,Int.tdiv_eq_ediv_of_dvd (Int.gcd_dvd_right a b),Int.gcd_comm,Int.natCast_ediv,Int.natAbs_of_nonneg omgz]
theorem uR(h:b<0):(Rat.divInt a b).num=a.tdiv (-(Int.gcd a b:Int)):=by
 rw[Rat.num_divInt,Int.tdiv_neg,Int.tdiv_eq_ediv_of_dvd (Int.gcd_dvd_left a b),Int.gcd_comm,Int.sign_eq_neg_one_of_neg h,Int.neg_mul,Int.one_mul,Int.neg_ediv_of_dvd (Int.gcd_dvd_left a b)]
theorem uS(h:b<0):((Rat.divInt a b).den:Int)=b.tdiv (-(Int.gcd a b:Int)):=by
 rw[Rat.den_divInt,if_neg omgz,Int.tdiv_neg,Int.tdiv_eq_ediv_of_dvd (Int.gcd_dvd_right a b),Int.gcd_comm]
 obtain⟨k,hk⟩:=Int.gcd_dvd_right a b
 have hg:=xS (a:=a) (show b≠0 by omega)
 generalize Int.gcd a b=g at*
 subst hk
 rw[Int.mul_ediv_cancel_left _ omgz,Int.natAbs_mul,Int.natAbs_natCast,Nat.mul_div_cancel_left _ hg]
 have:k<0:=by
  refine Decidable.not_not.1 λhc=>?_
  have:=Int.mul_nonneg (show(0:Int)<=g by omega) (show 0<=k by omega)
  omega
 omega
theorem ag3:p+q=Rat.divInt (p.num*q.den+q.num*p.den) (p.den*q.den):=by
 rw[Rat.add_def',<-Int.natCast_mul,Rat.divInt_ofNat]
theorem ag4:p-q=Rat.divInt (p.num*q.den-q.num*p.den) (p.den*q.den):=by
 rw[Rat.sub_def',<-Int.natCast_mul,Rat.divInt_ofNat]
theorem TM:p*q=Rat.divInt (p.num*q.num) (p.den*q.den):=by
 rw[Rat.mul_def',<-Int.natCast_mul,Rat.divInt_ofNat]
theorem lI:0<q.den:=Nat.pos_of_ne_zero q.den_nz
theorem DD:p<q↔p.num*q.den<q.num*p.den:=Rat.lt_iff p q
theorem TN(h0:0<b)(hg:Int.gcd a b=1):(Rat.divInt a b).num=a/\((Rat.divInt a b).den:Int)=b:=by
 rw[Ab h0,Ac h0,hg]
 exact⟨Int.tdiv_one a,Int.tdiv_one b⟩
theorem NV:Int.gcd q.num q.den=1:=by
 have:=q.reduced
 unfold Nat.Coprime at this
 exact this
def Bd(D K:Nat)(q:Rat):Prop:=∃n:Int,q*D=n/\n.natAbs<=K*D
theorem Bd.add(h:Bd D K p)(h2:Bd D L q):Bd D (K+L) (p+q):=by
 obtain⟨n,e,b⟩:=h;obtain⟨m,e2,b2⟩:=h2
 refine⟨n+m,by rw[Rat.add_mul,e,e2,Rat.intCast_add],?_⟩
 rw[Nat.add_mul];omega
theorem Bd.sub(h:Bd D K p)(h2:Bd D L q):Bd D (K+L) (p-q):=by
 obtain⟨n,e,b⟩:=h;obtain⟨m,e2,b2⟩:=h2
 refine⟨n-m,by rw[Rat.sub_eq_add_neg,Rat.add_mul,Rat.neg_mul,e,e2,Rat.intCast_sub,Rat.sub_eq_add_neg],?_⟩
 rw[Nat.add_mul];omega
theorem Bd.mul(h:Bd D K p)(h2:Bd E L q):Bd (D*E) (K*L) (p*q):=by
 obtain⟨n,e,b⟩:=h;obtain⟨m,e2,b2⟩:=h2
 refine⟨n*m,?_,?_⟩
 ·rw[Rat.intCast_mul,<-e,<-e2,Rat.natCast_mul];grind
 ·rw[Int.natAbs_mul,show K*L*(D*E)=(K*D)*(L*E) by grind]
  exact Nat.mul_le_mul b b2
theorem Bd.mono(h:Bd D K q)(hd:D∣E)(hk:K<=L):Bd E L q:=by
 obtain⟨n,e,b⟩:=h
 obtain⟨k,rfl⟩:=hd
 refine⟨n*k,?_,?_⟩
 ·rw[Rat.intCast_mul,<-e,Rat.natCast_mul,Rat.mul_assoc];rfl
 ·rw[Int.natAbs_mul,Int.natAbs_natCast,<-Nat.mul_assoc]
  exact Nat.mul_le_mul (Nat.le_trans b (Nat.mul_le_mul hk (Nat.le_refl _))) (Nat.le_refl _)
theorem Bd.int(n:Int):Bd 1 n.natAbs (n:Rat):=⟨n,by rw[show((1:Nat):Rat)=1 from rfl,Rat.mul_one],by rw[Nat.mul_one];exact Nat.le_refl _⟩
def Sm(q:Rat):Prop:=q.num.natAbs<10^140/\q.den<10^140
end Go.Rt
namespace Go.Rt
variable {p p' q:Nat->Rat} {g h:Nat->Rat} {n m k i j s t:Nat} {tab:Nat->Bool} {x y c:Rat}
def Ev(p:Nat->Rat)(g:Nat->Rat):Nat->Nat->Nat->Rat
 |0,i,s=>g s
 |k+1,i,s=>p i*Ev p g k (i+1) s+(1-p i)*Ev p g k (i+1) (s+2^i)
def ind(tab:Nat->Bool)(t:Nat):Rat:=if tab t=true then 1 else 0
def Pr(p:Nat->Rat)(n:Nat)(tab:Nat->Bool):Rat:=Ev p (ind tab) n 0 0
end Go.Rt
namespace Go.Sx
open Go.Rt
structure Tab where
 rows:List (List Rat)
 basis:List Nat
def smB(q:Rat):Bool:=decide (q.num.natAbs<10^140)&&decide (q.den<10^140)
theorem gp{q:Rat}(h:smB q=true):Sm q:=by
 unfold smB at h
 rw[Bool.and_eq_true,decide_eq_true_eq,decide_eq_true_eq] at h
 exact h
def at2(R:List (List Rat))(i k:Nat):Rat:=(R.getD i []).getD k 0
def mI(l:List Rat):Nat->Nat
 |0=>0
 |w+1=>let e:=mI l w;if e<w then e else if l.getD w 0<0 then w else w+1
def bK(T:Tab)(m k w:Nat):Nat->Nat
 |0=>m
 |i+1=>
  let b:=bK T m k w i
  if at2 T.rows i k<=0 then b
  else if b=m then i
  else
   let q:=at2 T.rows i w/at2 T.rows i k
   let l:=at2 T.rows b w/at2 T.rows b k
   if l<q\/l=q/\T.basis.getD b 0<T.basis.getD i 0 then b else i
def Ag(p:Rat)(l:List Rat):List Rat:=l.map (· /p)
def Gt(f:Rat)(a l:List Rat):List Rat:=l.zipWith (λy x=>y-f*x) a
def ji(T:Tab)(i k:Nat):Tab:=
 let a:=Ag (at2 T.rows i k) (T.rows.getD i [])
 ⟨(T.rows.zipIdx).map (λp=>if p.2=i then a else if p.1.getD k 0=0 then p.1 else Gt (p.1.getD k 0) a p.1),T.basis.set i k⟩
def smT(T:Tab):Bool:=T.rows.all λl=>l.all smB
def smP(T:Tab)(i k:Nat):Bool:=
 let a:=Ag (at2 T.rows i k) (T.rows.getD i [])
 T.rows.all λl=>a.all λx=>smB (l.getD k 0*x)
def one1(m i:Nat):List Rat:=(List.range m).map λk=>if k=i then 1 else 0
def aW(A:List (List Rat))(B C:List Rat):Tab:=
 ⟨(A.zipIdx).map (λp=>p.1++one1 B.length p.2++[B.getD p.2 0])++[C.map (λc=> -c)++List.replicate (B.length+1) 0],(List.range B.length).map (C.length+ ·)⟩
end Go.Sx
namespace Go.Sx
open Go.Rt
variable {l:List Rat} {i j k m n s w S:Nat} {T T0:Tab}
theorem wG:mI l w<=w:=by
 induction w with
 |zero=>exact Nat.le_refl _
 |succ w ih=>
  unfold mI
  dsimp only
  split
  ·omega
  ·split<;>omega
theorem Om:∀i,i<mI l w->¬l.getD i 0<0:=by
 induction w with
 |zero=>intro i hi;exact absurd hi (by unfold mI;omega)
 |succ w ih=>
  intro i
  have hle:=wG (l:=l) (w:=w)
  unfold mI
  dsimp only
  split
  ·exact ih i
  ·have he:mI l w=w:=by omega
   rw[he] at ih
   split
   ·exact ih i
   ·intro hi
    by_cases e:i=w
    ·subst e;assumption
    ·exact ih i omgz
theorem Oo(h:mI l w<w):l.getD (mI l w) 0<0:=by
 induction w with
 |zero=>omega
 |succ w ih=>
  have hle:=wG (l:=l) (w:=w)
  revert h
  unfold mI
  dsimp only
  split
  ·intro _;rename_i h _;exact ih h
  ·split
   ·intro _;assumption
   ·intro h;omega
theorem mJ:bK T m k w (i+1)=if at2 T.rows i k<=0 then bK T m k w i else if bK T m k w i=m then i else if at2 T.rows (bK T m k w i) w/at2 T.rows (bK T m k w i) k<at2 T.rows i w/at2 T.rows i k\/at2 T.rows (bK T m k w i) w/at2 T.rows (bK T m k w i) k=at2 T.rows i w/at2 T.rows i k/\T.basis.getD (bK T m k w i) 0<T.basis.getD i 0 then bK T m k w i else i:=rfl
theorem Oq:bK T m k w i=m\/(bK T m k w i<i/\0<at2 T.rows (bK T m k w i) k):=by
 induction i with
 |zero=>exact .inl rfl
 |succ i ih=>
  rw[mJ]
  split
  ·rcases ih with h|h
   ·exact .inl h
   ·exact .inr ⟨omgz,h.2⟩
  ·rename_i hp
   split
   ·exact .inr ⟨omgz,Rat.not_le.1 hp⟩
   ·split
    ·rcases ih with h|h
     ·exact .inl h
     ·exact .inr ⟨omgz,h.2⟩
    ·exact .inr ⟨omgz,Rat.not_le.1 hp⟩
def kkF(m n:Nat)(T:Tab):Nat:=mI (T.rows.getD m []) (n+m)
def iiF(m n:Nat)(T:Tab):Nat:=bK T m (kkF m n T) (n+m) m
def TT(m n:Nat)(T0:Tab):Nat->Tab
 |0=>T0
 |s+1=>ji (TT m n T0 s) (iiF m n (TT m n T0 s)) (kkF m n (TT m n T0 s))
def LK(m n:Nat)(T:Tab):Bool:=decide (T.rows.length=m+1)&&(T.rows.all (λl=>decide (l.length=n+m+1))&&(decide (T.basis.length=m)&&(T.basis.all (λv=>decide (v<n+m))&&smT T)))
def Uk(m n:Nat)(T:Tab):Bool:=
 LK m n T&&(decide (kkF m n T<n+m)&&(decide (iiF m n T<m)&&(decide (¬at2 T.rows (iiF m n T) (kkF m n T)=0)&&(smP T (iiF m n T) (kkF m n T)&&(List.range m).all (λr=>smB (at2 T.rows r (n+m)/at2 T.rows r (kkF m n T)))))))
def nH(m n:Nat)(T0:Tab)(S:Nat):Bool:=(List.range S).all (λs=>Uk m n (TT m n T0 s))&&(LK m n (TT m n T0 S)&&decide (kkF m n (TT m n T0 S)=n+m))
structure GT(m n:Nat)(T:Tab):Prop where
 rl:T.rows.length=m+1
 rw:∀r,r<=m->(T.rows.getD r []).length=n+m+1
 bl:T.basis.length=m
 bw:∀i,i<m->T.basis.getD i 0<n+m
 sm:smT T=true
theorem GT.of(h:LK m n T=true):GT m n T:=by
 unfold LK at h
 simp only[Bool.and_eq_true,decide_eq_true_eq,List.all_eq_true] at h
 obtain⟨h1,h2,h3,h4,h5⟩:=h
 refine⟨h1,λr hr=>h2 _ ?_,h3,λi hi=>h4 _ ?_,h5⟩
 ·rw[List.getD_eq_getElem?_getD,List.getElem?_eq_getElem omgz];exact List.getElem_mem _
 ·rw[List.getD_eq_getElem?_getD,List.getElem?_eq_getElem omgz];exact List.getElem_mem _
structure GS(m n:Nat)(T:Tab):Prop extends GT m n T where
 k:kkF m n T<n+m
 i:iiF m n T<m
 p0:¬at2 T.rows (iiF m n T) (kkF m n T)=0
 sp:smP T (iiF m n T) (kkF m n T)=true
 sq:∀r,r<m->Sm (at2 T.rows r (n+m)/at2 T.rows r (kkF m n T))
theorem GS.of(h:Uk m n T=true):GS m n T:=by
 unfold Uk at h
 simp only[Bool.and_eq_true,decide_eq_true_eq,List.all_eq_true,List.mem_range] at h
 obtain⟨h1,h2,h3,h4,h5,h6⟩:=h
 exact⟨GT.of h1,h2,h3,h4,h5,λr hr=>gp (h6 r hr)⟩
theorem DU(h:nH m n T0 S=true):∀s,s<S->GS m n (TT m n T0 s):=by
 unfold nH at h
 simp only[Bool.and_eq_true,decide_eq_true_eq,List.all_eq_true,List.mem_range] at h
 exact λs hs=>GS.of (h.1 s hs)
theorem ry(h:nH m n T0 S=true):∀s,s<=S->GT m n (TT m n T0 s):=by
 intro s hs
 rcases Nat.lt_or_eq_of_le hs with h1|h1
 ·exact(DU h s h1).toGT
 ·subst h1
  unfold nH at h
  simp only[Bool.and_eq_true,decide_eq_true_eq,List.all_eq_true,List.mem_range] at h
  exact GT.of h.2.1
theorem LM(h:nH m n T0 S=true):kkF m n (TT m n T0 S)=n+m:=by
 unfold nH at h
 simp only[Bool.and_eq_true,decide_eq_true_eq,List.all_eq_true,List.mem_range] at h
 exact h.2.2
