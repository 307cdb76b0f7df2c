/- Sym17 Args Di5 Di20 Di21 DiagArgs Rt3 Fb4 Fb5 Fa8 Fc5 Di22 Di23 LawD0 LawE0 FailArgs LawEE FacFailureAlone. No condition. -/
import Derived.Test.YtcbginhpibfgaaaGreatDoorFacAll
import Derived.Test.YtcbginhpibfgaaaGreatDoorFDoor
import Derived.Test.YtcbginhpibfgaaaGreatDoorFcG1
import Derived.Test.YtcbginhpibfgaaaGreatDoorLawD1
import Derived.Test.YtcbginhpibfgaaaGreatDoorCards
import Derived.SevenTiedAt
set_option linter.all false
namespace Go.Sy
open Go.ChangeShapes Go.WideShapes Go.ChangeAt Go.RowKit
section
variable {H:Type} {enc:TypeId×Value→H} {P:Program} {W W':World}
theorem kT(K:Kids P (· <P.types.size))(hz:∀t e,t<P.types.size→P.underlying t=some (.slice e)→0<P.cellsOf e){r:Reach} {b:Nat} {m:Nat} {t:TypeId} {v:Value} {d:DataW H} {ps:List MemPlace} {held:Bool}(ht:t<P.types.size)(hp:mK P m t=true)
 (hs:(match P.underlying t with|some (.struct _)=>false|_=>true)=true) (hval:Value.okWide P W r b t v) (h:DataW.Trod enc P W 0 (fun _=>true) held t v d ps) (hw:∀k∈d.weights P t,k≤reachBytes):
 ∃x,dO P m t [x]∧Rep W (fun b=>b<W.heap.size) (fun _=>none) v x:=by
 obtain⟨fuel,hf⟩:=h
 obtain⟨asq,h1,h2⟩:=yh K hz m t _ _ fuel ht hp hf hw
 have hc:v.cells.toList=[v]:=by
  cases m with
  |zero=>simp[mK] at hp
  |succ m=>
   unfold mK at hp
   unfold Value.okWide at hval
   split at hp
   all_goals(try(rename_i hu;rw[hu] at hval hs))
   all_goals first
    |(cases hp;done)
    |(cases hs;done)
    |(simp only[Cell.okWide,Cell.ok] at hval
      rw[hu] at hval
      cases v<;>first|rfl|(simp at hval))
    |(rename_i hu;rw[hu] at hval hs;simp only[Cell.okWide,Cell.ok] at hval;rw[hu] at hval;cases v<;>first|rfl|(simp at hval))
 rw[hc] at h2
 obtain⟨g1,g2⟩:=h2
 cases asq with
 |nil=>simp at g1
 |cons x asq=>
  have:asq=[]:=List.length_eq_zero_iff.1 (by simpa using g1)
  subst this
  exact⟨x,h1,(g2 0 x rfl).2⟩
end
end Go.Sy
namespace Go.Proofs.YtcbginhpibfgaaaGreatDoor
open Go Go.Sy
theorem ahx{α:Type} {R:α→Prop}(xs:List (List AV))(l:List α)(hl:l.length=xs.length)(h:∀(i:Nat) (x:List AV) (a:α),xs[i]? =some x→l[i]? =some a→R a):∀a∈l,R a:=by
 intro a ha
 obtain⟨i,hi⟩:=List.mem_iff_getElem?.1 ha
 obtain⟨x,hx⟩:∃x,xs[i]? =some x:=⟨_,List.getElem?_eq_getElem (by rw[←hl];exact(List.getElem?_eq_some_iff.1 hi).1)⟩
 exact h i x a hx hi
theorem wC{m:Int}(h:(Lit.int .u8 m).wf=true):0≤m∧m≤255:=by
 simp only[Lit.wf,Bool.and_eq_true,decide_eq_true_eq,IntKind.min,IntKind.max] at h
 simpa[IntKind.bits,IntKind.signed] using h
theorem ahy{m:Int}(h:(Lit.int .u16 m).wf=true):0≤m∧m≤65535:=by
 simp only[Lit.wf,Bool.and_eq_true,decide_eq_true_eq,IntKind.min,IntKind.max] at h
 simpa[IntKind.bits,IntKind.signed] using h
theorem Ii{m:Nat} {t:TypeId} {av:List AV}(hu:Tryz.prog.underlying t=some .bool)(h:dO Tryz.prog m t av):∃b,av=[.val (.bool b)]:=by
 cases m with
 |zero=>cases h
 |succ m=>unfold dO at h;rw[hu] at h;exact h
theorem mo{α β:Type}(g:α→β)(l:List α):l.flatMap (fun i=>[g i])=l.map g:=by
 induction l with
 |nil=>rfl
 |cons a l ih=>rw[List.flatMap_cons,ih];rfl
theorem lN{α:Type} {g:α→List AV} {Q:α→Prop} {m bn:Nat} {t e:TypeId} {av:List AV}(hu:Tryz.prog.underlying t=some (.slice e))(h:dO Tryz.prog m t av)(hb:Tryz.prog.bytesOf e=bn)(h8:1≤bn)
 (hx:∀n x,dO Tryz.prog n e x→∃a,x=g a∧Q a):∃(z:Bool) (l:List α),av=[.isl z (l.flatMap g) l.length]∧(∀a∈l,Q a)∧l.length<2^47∧(z=true→l=[]):=by
 obtain⟨n,rfl|⟨xs,rfl,h1,h2⟩⟩:=u6 hu h
 ·exact⟨true,[],rfl,by simp,Nat.two_pow_pos 47,fun _=>rfl⟩
 ·obtain⟨l,k1,k2⟩:=JD (R:=fun x a=>x=g a∧Q a) xs (fun x hx'=>hx n x (h1 x hx').2)
  refine⟨false,l,?_,ahx xs l k1 (fun i x a hx ha=>(k2 i x a hx ha).2),?_,fun h=>by cases h⟩
  ·rw[Dm (g:=g) xs l k1 (fun i x a hx ha=>(k2 i x a hx ha).1),k1]
  ·have h3:xs.length*1≤reachBytes:=Nat.le_trans (Nat.mul_le_mul_left _ (hb▸h8)) h2
   rw[k1];unfold reachBytes at h3;omega
end Go.Proofs.YtcbginhpibfgaaaGreatDoor
set_option maxHeartbeats 4000000
set_option maxRecDepth 20000
namespace Go.Proofs.YtcbginhpibfgaaaGreatDoor
open Go Go.Sy Go.Dg
attribute [local irreducible] AO AL AC OpT ACall Ends DGo bK Thn Blk Nxt
variable {N N' N1 N2 T:Nat} {F F1 F2 G:List Fo} {L L':List Fk} {v lo hi n k k1 k2 k' i m s t a b r:Nat} {p q p' q':Int} {z z':Bool} {x y:Fk}
theorem Bc(hn:n≤16):IntKind.wrap .i64 (1*2^min n (IntKind.bits .i64))=((2^n:Nat):Int):=by
 have hp:2^n≤2^16:=Nat.pow_le_pow_right (by omega) hn
 rw[show min n (IntKind.bits .i64)=n from Nat.min_eq_left (by show n≤64;omega),Int.one_mul]
 have e:(2:Int)^n=((2^n:Nat):Int):=by norm_cast
 rw[e]
 generalize 2^n=T at hp
 exact K8 (by omega)
end Go.Proofs.YtcbginhpibfgaaaGreatDoor
namespace Go.Proofs.YtcbginhpibfgaaaGreatDoor
open Go Go.Sy Go.Bp Go.Dg
attribute [local irreducible] AO AL AC OpT ACall Ends DGo bK Thn Blk Nxt
variable {n N M T k i m r a b j w u v s q x y d:Nat} {z:Bool} {xs:List Nat} {e:Int} {p:Nat→Bool}
theorem Bh:ACall Tryz.prog 41 [.val (.int .u16 (U s)),.val (.int .u16 (U q))] [] 0 (.val (.bool (decide (yw s q%65536=0)))) []:=by
 refine ak Tryz.func41 Tryz.ntmps41 rfl ?_
 repeat' (first|refine zqN ?_|refine aK ?_|refine aL ?_|(refine aM ?_ ?_<;>intro hc<;>try exact zqM))
 all_goals(refine Ends.mk2 zqI [] ?_;simp-dsimp(disch:=try exact vD) only[push_cast,simprocAttr,Tryz.f41];try exact zqF)
abbrev zDO:aD:= .cells [.val (.int .i64 0),.isl true [] 0,.val (.int .i64 0)] 29
end Go.Proofs.YtcbginhpibfgaaaGreatDoor
namespace Go.Proofs.YtcbginhpibfgaaaGreatDoor
open Go Go.Sy Go.Bp Go.Dg
attribute [local irreducible] AO AL AC OpT ACall Ends DGo bK Thn Blk Nxt
variable {n N M T L k i m r a b j w u v s q x y d:Nat} {z zl zr up:Bool} {xs qs B:List Nat} {l:List Int}
abbrev drC(N:Nat)(z:Bool)(B:List Nat)(L:Nat)(up:Bool):List AV:=[.val (.int .u8 N),.isl z (cI .u8 (NI B)) L,.val (.bool up)]
structure MQ(N:Nat)(B:List Nat)(L:Nat):Prop where
 n:N<256
 len:B.length=L
 lt:L<2^47
 b:∀i,B.getD i 0<256
end Go.Proofs.YtcbginhpibfgaaaGreatDoor
namespace Go.Proofs.YtcbginhpibfgaaaGreatDoor
open Go Go.Sy Go.Bp Go.Dg
theorem Xe{m:Nat} {av:List AV}(h:dO Tryz.prog m 22 av):∃(z:Bool) (l:List Nat),av=[.isl z (cI .u8 (NI l)) l.length]∧(∀x∈l,x<256)∧l.length<2^47:=by
 obtain⟨z,l,e,ho,hl,_⟩:=lN (g:=fun(x:Nat)=>[AV.val (.int .u8 (x:Int))]) (Q:=fun x=>x<256) (bn:=1) Tryz.underlying22 h (by kernel_rfl) (by decide) (fun n x hx=>by
  obtain⟨k,rfl,hk⟩:=gT Tryz.underlying5 hx
  have hk:=wC hk
  obtain⟨n0,rfl⟩:=Int.eq_ofNat_of_zero_le hk.1
  exact⟨n0,rfl,by omega⟩)
 rw[show l.flatMap (fun(x:Nat)=>[AV.val (.int .u8 (x:Int))])=cI .u8 (NI l) from(mo _ l).trans (by unfold cI NI;rw[List.map_map];rfl)] at e
 exact⟨z,l,e,ho,hl⟩
theorem Iz{m:Nat} {av:List AV}(h:dO Tryz.prog m 62 av):∃(z:Bool) (l:List Nat),av=[.isl z (cX l) l.length]∧(∀x∈l,x<65536)∧l.length<2^47∧(z=true→l=[]):=by
 obtain⟨z,l,e,ho,hl,hz⟩:=lN (g:=fun(x:Nat)=>[AV.val (.int .u16 (U x))]) (Q:=fun x=>x<65536) (bn:=2) Tryz.underlying62 h (by kernel_rfl) (by decide) (fun n x hx=>by
  obtain⟨k,rfl,hk⟩:=gT Tryz.underlying67 hx
  have hk:=ahy hk
  obtain⟨n0,rfl⟩:=Int.eq_ofNat_of_zero_le hk.1
  exact⟨n0,by rw[Lp (by omega)],by omega⟩)
 rw[show l.flatMap (fun(x:Nat)=>[AV.val (.int .u16 (U x))])=cX l from mo _ l] at e
 exact⟨z,l,e,ho,hl,hz⟩
theorem lW{m:Nat} {av:List AV}(h:dO Tryz.prog m 24 av):∃(N:Nat) (z:Bool) (B:List Nat) (up:Bool),av=drC N z B B.length up∧MQ N B B.length:=by
 obtain⟨_,xs,rfl,hl,hx⟩:=jm Tryz.underlying24 h
 match xs,hl with
 |[a0,a1,a2],_=>
  obtain⟨b0,rfl,h0⟩:=gT Tryz.underlying5 (hx 0 _ a0 rfl rfl)
  obtain⟨z,l,rfl,ho,hl⟩:=Xe (hx 1 _ a1 rfl rfl)
  obtain⟨b2,rfl⟩:=Ii Tryz.underlying4 (hx 2 _ a2 rfl rfl)
  have h0:=wC h0
  obtain⟨n0,rfl⟩:=Int.eq_ofNat_of_zero_le h0.1
  refine⟨n0,z,l,b2,rfl,⟨by omega,rfl,hl,fun i=>?_⟩⟩
  by_cases hi:i<l.length
  ·rw[List.getD_eq_getElem?_getD,List.getElem?_eq_getElem hi];exact ho _ (List.getElem_mem hi)
  ·rw[List.getD_eq_getElem?_getD,List.getElem?_eq_none (by omega)];decide
end Go.Proofs.YtcbginhpibfgaaaGreatDoor
namespace Go.Rt
variable {p p' q site:Nat→Rat} {g h:Nat→Rat} {n m k i j s t f:Nat} {tab:Nat→Bool} {x y c:Rat} {S:Nat→Nat→Bool}
theorem Yz{F:(Nat→Rat)→Rat}(h:∀j,k≤j→j<k+f→site j=0):vv S site F f k p=F p:=by
 induction f generalizing k p with
 |zero=>rfl
 |succ f ih=>
  show site k*vv S site F f (k+1) _+(1-site k)*vv S site F f (k+1) _=_
  rw[h k (Nat.le_refl _) (by omega),ih fun j h1 h2=>h j (by omega) (by omega),ih fun j h1 h2=>h j (by omega) (by omega)];grind
end Go.Rt
namespace Go.Proofs.YtcbginhpibfgaaaGreatDoor
open Go Go.Sy Go.Lm Go.Rt Go.Dg
attribute [local irreducible] AO AL AC OpT ACall Ends DGo bK Thn Blk Nxt
variable {n N k i m j r a b:Nat} {z z' zp:Bool} {ps xs:List RV} {X Y W ONE:RV} {v c e:Int} {p:Nat→Rat}
def chQ(x:Chc):Rat:=Rat.divInt ((x.a%(x.b%12+2):Nat):Int) ((x.b%12+1:Nat):Int)
theorem ad8{q1 q2:Int}(ha:a<256)(hb:b<256)(e1:((b:Int)%12)+1=q2∨1+((b:Int)%12)=q2)(e2:(a:Int)%(q2+1)=q1)(hq:1≤q2∧q2≤12)(h:ACall Tryz.prog 57 [.val (.int .i64 q1),.val (.int .i64 q2)] [] 0 (.tup [.agg (aa.cells X),.val (.int .i64 0)]) []):ACall Tryz.prog 29 [.agg [.val (.int .u8 a),.val (.int .u8 b)]] [] 0 (.agg (aa.cells X)) []:=by
 have h:=PLift.up h
 have zx1:1+((b:Int)%12)=q2:=by omega
 have zx4:¬q2+1=0:=by omega
 have hr:0≤q1∧q1<300:=by rw[←e2];exact⟨Int.emod_nonneg _ zx4,by have:=Int.emod_lt_of_pos (a:Int) (show 0<q2+1 by omega);omega⟩
 have zx3:Int.tmod (a:Int) (q2+1)=q1:=by rw[Int.tmod_eq_emod_of_nonneg (by omega)];exact e2
 clear e1
 refine ak Tryz.func29 Tryz.ntmps29 rfl ?_
 have zx2:= @e2;have zx5:=aC;have zx6:=aC;repeat' (first|refine zqN ?_|refine gG h.down ?_|refine kE ?_|refine kF ?_|(refine kG ?_ ?_<;>intro hc<;>try exact zqM))
 all_goals first
  |((refine Ends.mk2 zqI [] ?_;simp-dsimp(disch:=try exact vD) only[push_cast,simprocAttr,Tryz.f29];try exact zqF);done)
  |skip
theorem ME(ha:a<256)(hb:b<256):ACall Tryz.prog 29 [.agg [.val (.int .u8 a),.val (.int .u8 b)]] [] 0 (.agg (aa.cells (rC (chQ ⟨a,b⟩)))) []:=by
 have hm:a%(b%12+2)<b%12+2:=Nat.mod_lt _ (by omega)
 have h:=OM (a:=((a%(b%12+2):Nat):Int)) (b:=((b%12+1:Nat):Int)) ⟨by omega,by omega⟩ ⟨by omega,by omega⟩ (by omega)
 refine ad8 ha hb (.inl (by omega)) ?_ (by omega) h
 rw[show(((b%12+1:Nat):Int)+1)=((b%12+2:Nat):Int) by omega,Int.natCast_emod]
theorem YZ(x:Chc):0≤chQ x∧chQ x≤1∧(chQ x).den≤12:=by
 have hm:x.a%(x.b%12+2)<x.b%12+2:=Nat.mod_lt _ (by omega)
 unfold chQ
 generalize x.a%(x.b%12+2)=u at*
 have hb:x.b%12<12:=Nat.mod_lt _ (by decide)
 generalize x.b%12=w at*
 have h1:∀w,w<12→∀u,u<w+2→0≤Rat.divInt ((u:Nat):Int) ((w+1:Nat):Int)∧Rat.divInt ((u:Nat):Int) ((w+1:Nat):Int)≤1∧(Rat.divInt ((u:Nat):Int) ((w+1:Nat):Int)).den≤12:=by decide+kernel
 exact h1 w hb u hm
def lsL(l:List Chc):Nat→List RV
 |0=>[]
 |i+1=>lsL l i++[rC (chQ (l.getD i default))]
theorem ae6{l:List Chc}(h:i=0):lsL l i=[]:=by subst h;rfl
theorem ae7{l:List Chc}:lsL l (i+1)=lsL l i++[rC (chQ (l.getD i default))]:=rfl
theorem iZ{l:List Chc}:(lsL l i).length=i:=by
 induction i with
 |zero=>rfl
 |succ i ih=>rw[ae7,List.length_append,ih];rfl
theorem Fs{l:List Chc}(h:j<i):(lsL l i).getD j default=rC (chQ (l.getD j default)):=by
 induction i with
 |zero=>omega
 |succ i ih=>
  rw[ae7]
  rcases Nat.lt_or_eq_of_le (Nat.le_of_lt_succ h) with h1|h1
  ·rw[List.getD_eq_getElem?_getD,List.getElem?_append_left (by rw[iZ];omega),←List.getD_eq_getElem?_getD]
   exact ih h1
  ·rw[List.getD_eq_getElem?_getD,List.getElem?_append_right (by rw[iZ];omega),iZ,h1,Nat.sub_self];rfl
theorem aja:cR ps++[.val (.bool X.num.neg),.isl X.num.z (cI .u32 X.num.l) X.num.l.length,.val (.bool X.den.neg),.isl X.den.z (cI .u32 X.den.l) X.den.l.length]=cR (ps++[X]):=PY (a:=X) (l:=ps)
theorem Q0(h:ps.length=n):(cR ps).take (n*4)=cR ps:=List.take_of_length_le (by rw[lM,h];exact Nat.le_refl _)
def lsI(z:Bool)(l:List Chc)(k n:Nat)(i:{i:Nat // i≤n}):St:=
 ⟨28,0,[(0,.isl z (cR l) k),(1,.val (.int .i64 n)),(5,kC i.val 0 4),(6,.val (.int .i64 i.val))],kD i.val 0 (cR (lsL l i.val)) 37⟩
theorem ad9{l:List Chc}(hl:l.length=k)(hk:k<2^47)(hn:n≤1000)(hm:∀i,i<n→ACall Tryz.prog 29 [.agg [.val (.int .u8 (l.getD i default).a),.val (.int .u8 (l.getD i default).b)]] [] 0 (.agg (aa.cells (rC (chQ (l.getD i default))))) []):
 ACall Tryz.prog 14 [.isl z (cR l) k,.val (.int .i64 n)] [] 0 (.isl (n==0) (cR (lsL l n)) n) []:=by
 have hm:=PLift.up hm
 have hlen:=fun(i:Nat)=>iZ (l:=l) (i:=i)
 have htk:=Q0 (ps:=lsL l n) iZ
 have hgd:∀i,k≤i→l.getD i default=⟨1,1⟩:=fun i hi=>by rw[List.getD_eq_getElem?_getD,List.getElem?_eq_none (by omega)];rfl
 have hs:∀i,cR (lsL l i)++[.val (.bool (rC (chQ (l.getD i default))).num.neg),.isl (rC (chQ (l.getD i default))).num.z (cI .u32 (rC (chQ (l.getD i default))).num.l) (rC (chQ (l.getD i default))).num.l.length,.val (.bool (rC (chQ (l.getD i default))).den.neg),.isl (rC (chQ (l.getD i default))).den.z (cI .u32 (rC (chQ (l.getD i default))).den.l) (rC (chQ (l.getD i default))).den.l.length]=cR (lsL l (i+1)):=fun i=>aja
 have h0:∀i,i=0→[.val (.bool (rC (chQ (l.getD i default))).num.neg),.isl (rC (chQ (l.getD i default))).num.z (cI .u32 (rC (chQ (l.getD i default))).num.l) (rC (chQ (l.getD i default))).num.l.length,.val (.bool (rC (chQ (l.getD i default))).den.neg),.isl (rC (chQ (l.getD i default))).den.z (cI .u32 (rC (chQ (l.getD i default))).den.l) (rC (chQ (l.getD i default))).den.l.length]=cR (lsL l (i+1)):=fun i hi=>by
  subst hi
  exact(List.nil_append _).symm.trans (hs 0)
 have hx:=ae;have hsn:=ae;have hc1:=ae
 rcases Nat.eq_zero_or_pos n with hn0|hn0
 ·subst hn0
  refine ak Tryz.func14 Tryz.ntmps14 rfl ?_
  repeat' (first|(refine ai ?_;refine au [9] ([9].length) (lsI z l k 0) (fun i=>0) (⟨0,Nat.zero_le _⟩) rfl (by unfold lsI;(try simp only[List.cons_append,List.nil_append]);refine Sub.mk2 ?_;(simp-dsimp(disch:=try exact vD) only[push_cast,simprocAttr]);(repeat refine aI ?_);first|done|exact vI) ?_;(rintro⟨i,hi⟩;have hi0:i=0:=(by omega);subst hi0;(simp-dsimp(disch:=try exact vD) only[push_cast,simprocAttr,lsI,ae6])))|apply dG|apply aF|((first|refine ay rfl (fun K hK=>?_)|refine aj (fun K hK=>?_));(first|apply cO|apply aZ|apply df|apply aT|apply bf|apply bu|apply fK|apply bZ|apply fu|apply eG|apply iX|apply eZ|apply aX|apply dY|apply dM);simp-dsimp(disch:=try exact vD) only[push_cast,simprocAttr];(repeat refine aI ?_);apply hK;clear hK K)|((first|refine ay rfl (fun K hK=>?_)|refine aj (fun K hK=>?_));(first|apply gz);simp-dsimp(disch:=try exact vD) only[push_cast,simprocAttr];(repeat refine aI ?_);apply hK;clear hK K)|((first|refine ay rfl (fun K hK=>?_)|refine aj (fun K hK=>?_));(first|apply eO);simp-dsimp(disch:=try exact vD) only[push_cast,simprocAttr];(repeat refine aI ?_);apply hK;clear hK K)|((first|refine ay rfl (fun K hK=>?_)|refine aj (fun K hK=>?_));(first|apply eH);simp-dsimp(disch:=try exact vD) only[push_cast,simprocAttr];(repeat refine aI ?_);apply hK;clear hK K)|((first|refine aQ rfl rfl (fun K1 K2 h1 h2=>?_) rfl|refine aJ (fun K1 K2 h1 h2=>?_));simp-dsimp(disch:=try exact vD) only[push_cast,simprocAttr];(first|(refine⟨fun hc=>?_,fun hc=>?_⟩<;>first|(exfalso;omega)|(exfalso;contradiction)|refine h1 ?_|refine h2 ?_)|refine h1 ?_|refine h2 ?_);all_goals clear h1 h2 K1 K2)|apply dH|apply aR|apply bX|apply bz|apply aS|apply bY|apply bA|(refine aY rfl ?_)|apply bB|apply bW|apply bV|apply dF)
  all_goals first
   |((refine Ends.mk2 (by first|exact .inr rfl|exact .inl rfl) [] ?_;simp-dsimp(disch:=try exact vD) only[push_cast,simprocAttr,Tryz.f14,ae6,nX];try exact zqF);done)
   |skip
 ·have hnz:(n==0)=false:=Ke hn0
  rw[hnz]
  refine ak Tryz.func14 Tryz.ntmps14 rfl ?_
  repeat' (first|(refine ai ?_;refine au [9] ([9].length) (lsI z l k n) (fun i=>n-i.val) (⟨0,Nat.zero_le _⟩) rfl (by unfold lsI;(try simp only[List.cons_append,List.nil_append]);refine Sub.mk2 ?_;(simp-dsimp(disch:=try exact vD) only[push_cast,simprocAttr,hx,hc1,htk,hlen]);(repeat refine aI ?_);first|done|exact vI) ?_;(rintro⟨i,hi⟩;rcases Nat.lt_or_eq_of_le hi with hil|hil<;>first|(subst hil;(simp-dsimp(disch:=try exact vD) only[push_cast,simprocAttr,lsI]))|(have hmi:=hm.down i hil;have hli:=hlen i;have hs1:=hs i;have h01:=h0 i;generalize hW:rC (chQ (l.getD i default))=W at*;rcases Nat.lt_or_ge i k with hik|hik<;>rcases Nat.eq_zero_or_pos i with hi0|hi0<;>first|(rw[hgd i hik] at hmi;have hmi:=PLift.up hmi;have hsn:=h01 hi0;(simp-dsimp(disch:=try exact vD) only[push_cast,simprocAttr,lsI]))|(rw[hgd i hik] at hmi;have hmi:=PLift.up hmi;have hsn:=hs1;(simp-dsimp(disch:=try exact vD) only[push_cast,simprocAttr,lsI]))|(have hmi:=PLift.up hmi;have hsn:=h01 hi0;(simp-dsimp(disch:=try exact vD) only[push_cast,simprocAttr,lsI]))|(have hmi:=PLift.up hmi;have hsn:=hs1;(simp-dsimp(disch:=try exact vD) only[push_cast,simprocAttr,lsI])))))|(refine ax ?_;refine Nxt.mk [3] (⟨i+1,by omega⟩) rfl (by unfold lsI;(try simp only[List.cons_append,List.nil_append]);refine Sub.mk2 ?_;(simp-dsimp(disch:=try exact vD) only[push_cast,simprocAttr,hx,hc1,htk,hlen,hsn]);(repeat refine aI ?_);first|done|exact vI) (by first|omega|(dsimp only;omega)|(simp;done)|(simp;omega)))|(refine ax ?_;refine Nxt.mk [2] (⟨i+1,by omega⟩) rfl (by unfold lsI;(try simp only[List.cons_append,List.nil_append]);refine Sub.mk2 ?_;(simp-dsimp(disch:=try exact vD) only[push_cast,simprocAttr,hx,hc1,htk,hlen,hsn]);(repeat refine aI ?_);first|done|exact vI) (by first|omega|(dsimp only;omega)|(simp;done)|(simp;omega)))|(refine ax ?_;refine Nxt.mk [1] (⟨i+1,by omega⟩) rfl (by unfold lsI;(try simp only[List.cons_append,List.nil_append]);refine Sub.mk2 ?_;(simp-dsimp(disch:=try exact vD) only[push_cast,simprocAttr,hx,hc1,htk,hlen,hsn]);(repeat refine aI ?_);first|done|exact vI) (by first|omega|(dsimp only;omega)|(simp;done)|(simp;omega)))|(refine ax ?_;refine Nxt.mk [0] (⟨i+1,by omega⟩) rfl (by unfold lsI;(try simp only[List.cons_append,List.nil_append]);refine Sub.mk2 ?_;(simp-dsimp(disch:=try exact vD) only[push_cast,simprocAttr,hx,hc1,htk,hlen,hsn]);(repeat refine aI ?_);first|done|exact vI) (by first|omega|(dsimp only;omega)|(simp;done)|(simp;omega)))|apply dG|apply aF|((first|refine ay rfl (fun K hK=>?_)|refine aj (fun K hK=>?_));(first|refine ah (f:=29) [] 0 false ?_);simp-dsimp(disch:=try exact vD) only[push_cast,simprocAttr,hx,hc1,htk,hlen];(repeat refine aI ?_);intro G hG;refine hG _ _ ?_;clear hG G;(first|refine⟨_,_,hmi.down,?_⟩);simp-dsimp(disch:=try exact vD) only[push_cast,simprocAttr,hx,hc1,htk,hlen];(repeat refine aI ?_);apply hK;clear hK K)|((first|refine ay rfl (fun K hK=>?_)|refine aj (fun K hK=>?_));(first|apply cO|apply aZ|apply df|apply aT|apply bf|apply bu|apply fK|apply bZ|apply fu|apply eG|apply iX|apply eZ|apply aX|apply dY|apply dM);simp-dsimp(disch:=try exact vD) only[push_cast,simprocAttr,hx,hc1,htk,hlen];(repeat refine aI ?_);apply hK;clear hK K)|((first|refine ay rfl (fun K hK=>?_)|refine aj (fun K hK=>?_));(first|apply gz);simp-dsimp(disch:=try exact vD) only[push_cast,simprocAttr,hx,hc1,htk,hlen];(repeat refine aI ?_);apply hK;clear hK K)|((first|refine ay rfl (fun K hK=>?_)|refine aj (fun K hK=>?_));(first|apply eO);simp-dsimp(disch:=try exact vD) only[push_cast,simprocAttr,hx,hc1,htk,hlen];(repeat refine aI ?_);apply hK;clear hK K)|((first|refine ay rfl (fun K hK=>?_)|refine aj (fun K hK=>?_));(first|apply eH);simp-dsimp(disch:=try exact vD) only[push_cast,simprocAttr,hx,hc1,htk,hlen];(repeat refine aI ?_);apply hK;clear hK K)|((first|refine aQ rfl rfl (fun K1 K2 h1 h2=>?_) rfl|refine aJ (fun K1 K2 h1 h2=>?_));simp-dsimp(disch:=try exact vD) only[push_cast,simprocAttr,hx,hc1,htk,hlen];(first|(refine⟨fun hc=>?_,fun hc=>?_⟩<;>first|(exfalso;omega)|(exfalso;contradiction)|refine h1 ?_|refine h2 ?_)|refine h1 ?_|refine h2 ?_);all_goals clear h1 h2 K1 K2)|apply dH|apply aR|apply bX|apply bz|apply aS|apply bY|apply bA|(refine aY rfl ?_)|apply bB|apply bW|apply bV|apply dF)
  all_goals first
   |(((refine Ends.frz 0 ?_;simp-dsimp(disch:=try exact vD) only[push_cast,simprocAttr,Tryz.f14,htk];(repeat refine aI ?_);intro K hK;refine hK _ _ ?_;clear hK K);refine Ends.mk2 (by first|exact .inr rfl|exact .inl rfl) [] ?_;simp-dsimp(disch:=try exact vD) only[push_cast,simprocAttr,Tryz.f14,htk];try exact zqF);done)
   |skip
end Go.Proofs.YtcbginhpibfgaaaGreatDoor
namespace Go.Proofs.YtcbginhpibfgaaaGreatDoor
open Go Go.Sy Go.Lm Go.Rt Go.Dg
attribute [local irreducible] AO AL AC OpT ACall Ends DGo bK Thn Blk Nxt
variable {n N k i m j r a b:Nat} {z z' zp:Bool} {ps xs:List RV} {L:List Fk} {X Y W ONE:RV} {D:Nat→RV} {B:Nat→Bool} {v c e rt nn:Int} {p:Nat→Rat}
def lsD(D:Nat→RV):Nat→List RV
 |0=>[]
 |i+1=>lsD D i++[D i]
theorem Q3(h:i=0):lsD D i=[]:=by subst h;rfl
theorem ae8:lsD D (i+1)=lsD D i++[D i]:=rfl
theorem ja:(lsD D i).length=i:=by
 induction i with
 |zero=>rfl
 |succ i ih=>rw[ae8,List.length_append,ih];rfl
theorem Pi(h:j<i):(lsD D i).getD j default=D j:=by
 induction i with
 |zero=>omega
 |succ i ih=>
  rw[ae8]
  rcases Nat.lt_or_eq_of_le (Nat.le_of_lt_succ h) with h1|h1
  ·rw[List.getD_eq_getElem?_getD,List.getElem?_append_left (by rw[ja];omega),←List.getD_eq_getElem?_getD]
   exact ih h1
  ·rw[List.getD_eq_getElem?_getD,List.getElem?_append_right (by rw[ja];omega),ja,h1,Nat.sub_self];rfl
end Go.Proofs.YtcbginhpibfgaaaGreatDoor
namespace Go.Proofs.YtcbginhpibfgaaaGreatDoor
open Go Go.Sy Go.Lm Go.Rt Go.Dg
attribute [local irreducible] AO AL AC OpT ACall Ends DGo bK Thn Blk Nxt
variable {n N k i m j r:Nat} {z zp:Bool} {ss:List Nat} {T:Nat}
theorem Y7(ss:List Nat)(n:Nat):∃e,ApE ss n e:=by
 have:∀k,k≤ss.length→(∀j,j<k→ap1 ss n j∧ap2 ss j)∨∃e,ApE ss n e:=by
  intro k
  induction k with
  |zero=>exact fun _=> .inl fun j hj=>absurd hj (by omega)
  |succ k ih=>
   intro hk
   rcases ih (by omega) with h|h
   ·by_cases h1:ap1 ss n k
    ·by_cases h2:ap2 ss k
     ·refine .inl fun j hj=>?_
      rcases Nat.lt_or_eq_of_le (Nat.le_of_lt_succ hj) with h3|h3
      ·exact h j h3
      ·rw[h3];exact⟨h1,h2⟩
     ·exact .inr ⟨5,.ex k (by omega) h h1 h2⟩
    ·exact .inr ⟨7,.rg k (by omega) h h1⟩
   ·exact .inr h
 rcases this ss.length (Nat.le_refl _) with h|h
 ·exact⟨0,.ok h⟩
 ·exact h
end Go.Proofs.YtcbginhpibfgaaaGreatDoor
namespace Go.Proofs.YtcbginhpibfgaaaGreatDoor
open Go Go.Sy Go.Lm Go.Rt Go.Dg
attribute [local irreducible] AO AL AC OpT ACall Ends DGo bK Thn Blk Nxt
variable {n m k i j:Nat} {z z':Bool} {l xs:List Int} {ss:List Nat} {X:RV} {a b:Int}
theorem alP:ACall Tryz.prog 34 [.isl true [] 0] [] 0 (.isl true [] 0) []:=by
 refine ak Tryz.func34 Tryz.ntmps34 rfl ?_
 repeat' (first|refine zqN ?_|refine aK ?_|refine iy ?_|refine iA ?_|refine iB ?_|refine aL ?_|(refine aM ?_ ?_<;>intro hc<;>try exact zqM))
 all_goals(refine Ends.mk2 zqI [] ?_;simp-dsimp(disch:=try exact vD) only[push_cast,simprocAttr,Tryz.f34];try exact zqF)
theorem ajr(hn:ss.length=n)(hb:n≤100000):ACall Tryz.prog 34 [.isl false (cX ss) n] [] 0 (.isl false (cX ss) n) []:=by
 refine ak Tryz.func34 Tryz.ntmps34 rfl ?_
 repeat' (first|refine zqN ?_|refine aK ?_|refine iy ?_|refine iA ?_|refine iB ?_|refine aL ?_|(refine aM ?_ ?_<;>intro hc<;>try exact zqM))
 all_goals((refine Ends.frz 1 ?_;simp-dsimp(disch:=try exact vD) only[push_cast,simprocAttr,Tryz.f34];(repeat refine aI ?_);intro K hK;refine hK _ _ ?_;clear hK K);refine Ends.mk2 zqI [] ?_;simp-dsimp(disch:=try exact vD) only[push_cast,simprocAttr,Tryz.f34];try exact zqF)
theorem Zy(hn:ss.length=n)(hb:n≤100000)(hz:z=true→ss=[]):ACall Tryz.prog 34 [.isl z (cX ss) n] [] 0 (.isl z (cX ss) n) []:=by
 cases z with
 |false=>exact ajr hn hb
 |true=>
  have e:=hz rfl
  subst e;subst hn;exact alP
end Go.Proofs.YtcbginhpibfgaaaGreatDoor
namespace Go.Proofs.YtcbginhpibfgaaaGreatDoor
open Go Go.Sy Go.Bp Go.Dg
attribute [local irreducible] AO AL AC OpT ACall Ends DGo bK Thn Blk Nxt
variable {n N M L T k i m r a b j w u v s q x y d:Nat} {z up:Bool} {B:List Nat} {e:Int} {p:Nat→Bool}
def bsI(y s:Nat):Bool:=decide (IntKind.u8.wrap (((BitVec.ofInt IntKind.u8.bits ((y:Int).fdiv (2^((s:Int)%8).toNat))&&&BitVec.ofInt IntKind.u8.bits 1).toNat:Nat):Int)=1)
def mdB(B:List Nat)(L s:Nat):Bool:=if L=0 then false else bsI (B.getD (s/8%L) 0) s
theorem afa:mdB B 0 s=false:=if_pos rfl
theorem afb(h:0<L):mdB B L s=bsI (B.getD (s/8%L) 0) s:=if_neg (by omega)
def isx(l:List Bool)(s x:Nat):Bool:=(List.range x).any fun y=>l.getD y default&&decide (yw y s%65536=0)
def mkT(p:Nat→Bool)(up:Bool):Nat→List Bool
 |0=>[]
 |s+1=>mkT p up s++[p s||(up&&isx (mkT p up s) s s)]
theorem uo:∀s,(mkT p up s).length=s
 |0=>rfl
 |s+1=>by rw[mkT,List.length_append,uo s];rfl
theorem alV{l:List Bool}:isx l s (x+1)=(isx l s x||(l.getD x default&&decide (yw x s%65536=0))):=by
 unfold isx;rw[List.range_succ,List.any_append];simp
theorem Zz:(cB (mkT p up T)).take T=cB (mkT p up T):=List.take_of_length_le (by rw[cB_len,uo];exact Nat.le_refl _)
def mdA(z:Bool)(N:Nat)(B:List Nat)(L:Nat)(up:Bool)(n T:Nat)(s:{s:Nat // s≤T}):St:=⟨69,0,[(1,.pt 0 0),(2,.pt 1 0),(3,.val (.int .i64 n)),(4,kC s.val 2 1),(5,.val (.int .i64 s.val))],[(0,some (.cells (drC N z B L up) 24)),(1,some zDO)]++kD s.val 2 (cB (mkT (mdB B L) up s.val)) 4⟩
def mdF(z:Bool)(N:Nat)(B:List Nat)(L:Nat)(n s:Nat)(b0:Bool)(x:{x:Nat // x=0}):St:=⟨69,0,[(1,.pt 0 0),(2,.pt 1 0),(3,.val (.int .i64 n)),(4,kC s 2 1),(5,.val (.int .i64 s)),(6,.val (.bool b0)),(7,.val (.int .i64 x.val))],[(0,some (.cells (drC N z B L false) 24)),(1,some zDO)]++kD s 2 (cB (mkT (mdB B L) false s)) 4⟩
def mdG(z:Bool)(N:Nat)(B:List Nat)(L:Nat)(n s:Nat)(b0:Bool)(x:{x:Nat // x≤s}):St:=⟨69,0,[(1,.pt 0 0),(2,.pt 1 0),(3,.val (.int .i64 n)),(4,kC s 2 1),(5,.val (.int .i64 s)),(6,.val (.bool (b0||isx (mkT (mdB B L) true s) s x.val))),(7,.val (.int .i64 x.val))],[(0,some (.cells (drC N z B L true) 24)),(1,some zDO)]++kD s 2 (cB (mkT (mdB B L) true s)) 4⟩
theorem ajw(hN:N<256)(hL:B.length=L)(hL2:L<2^47)(hn:N%7=n)(hT:2^n=T)(hb:∀i,B.getD i 0<256):ACall Tryz.prog 13 [.agg (drC N z B L false)] [] 0 (dgV ((kM n (mkT (mdB B L) false T)).1.length==0) n (kM n (mkT (mdB B L) false T)).1 (kM n (mkT (mdB B L) false T)).2) []:=by
 have hx:=ae;have hq:=ae;have hg:=ae;have hb0:=ae;have hbs:=ae;have hL00:=ae;have hv:=ae;have ht:=ae;have hw:=ae;have hst:=ae;have hsn:=ae;have hlT:=ae;have hmin:=ae;have hs0:=ae
 have hn6:n≤6:=by omega
 have hT64:T≤64:=by rw[←hT];exact(Nat.pow_le_pow_right (by omega) hn6:2^n≤2^6)
 have hTp:0<T:=by rw[←hT];exact Nat.two_pow_pos n
 have hsh:=Bc (n:=n) (by omega)
 have hfr:=PLift.up (lV (n:=n) (tb:=mkT (mdB B L) false T) (M:=T) (by omega) (uo _) hT.symm)
 have htk:=Zz (p:=mdB B L) (up:=false) (T:=T)
 have hwi:=fun(x s:Nat) (hx:x<65536) (h:s<65536)=>PLift.up (by
  have:=Bh (s:=x) (q:=s)
  rw[Lp hx,Lp h] at this;exact this)
 rw[hT] at hsh
 unfold dgV at*
 generalize((kM n (mkT (mdB B L) false T)).1.length==0)=zb at hfr⊢
 generalize kM n (mkT (mdB B L) false T)=R at hfr⊢
 unfold drC
 refine ak Tryz.func13 Tryz.ntmps13 rfl ?_
 repeat' (first|((first|refine bI (r:=12) 2 ?_|refine bH (r:=12) 2 ?_);simp-dsimp(disch:=try exact vD) only[push_cast,simprocAttr,htk,hsh,hmin,hs0,hq,hg,hb0,hbs,hL00,hv,ht,hw,hst,hlT,drC];(repeat refine aI ?_);intro K hK;refine hK _ _ ?_;clear hK K)|(refine ai ?_;refine au [0,1,2] ([0,1,2].length) (mdF z N B L n s (mdB B L s)) (fun _=>0) (⟨0,rfl⟩) rfl (by unfold mdF;(try simp only[List.cons_append,List.nil_append]);refine Sub.mk2 ?_;(simp-dsimp(disch:=try exact vD) only[push_cast,simprocAttr,htk,hsh,hmin,hs0,hq,hg,hb0,hbs,hL00,hv,ht,hw,hst,hlT,drC]);(repeat refine aI ?_);first|done|exact vI) ?_;(rintro⟨x,rfl⟩;have hsn:mkT (mdB B L) false s++[mdB B L s]=mkT (mdB B L) false (s+1):=(by rw[mkT,Bool.false_and,Bool.or_false]);rw[hb0] at hsn;first|(have s00:s=0:=s0;subst s00;have hsn:=congrArg cB hsn;have hsn:[AV.val (.bool _)]=cB (mkT (mdB B L) false 1):=hsn;(simp-dsimp(disch:=try exact vD) only[push_cast,simprocAttr,mdF]))|(have hs0:((0:Int)<(s:Int))=True:=eq_true (by omega);(simp-dsimp(disch:=try exact vD) only[push_cast,simprocAttr,mdF]))))|(refine ai ?_;refine au [0,1,9] ([0,1,9].length) (mdA z N B L false n T) (fun s=>T-s.val) (⟨0,by omega⟩) rfl (by unfold mdA;(try simp only[List.cons_append,List.nil_append]);refine Sub.mk2 ?_;(simp-dsimp(disch:=try exact vD) only[push_cast,simprocAttr,htk,hsh,hmin,hs0,hq,hg,hb0,hbs,hL00,hv,ht,hw,hst,hlT,drC]);(repeat refine aI ?_);first|done|exact vI) ?_;(rintro⟨s,hs⟩;rcases Nat.lt_or_eq_of_le hs with hsl|hsl<;>first|(have es:T=s:=hsl.symm;subst es;(simp-dsimp(disch:=try exact vD) only[push_cast,simprocAttr,mdA]))|(have hlT:=uo (p:=mdB B L) (up:=false) s;rcases Nat.eq_zero_or_pos s with s0|s0<;>rcases Nat.eq_zero_or_pos L with h0|h0<;>first|(have hb0:mdB B L s=false:=(by rw[h0];exact afa);have hL00:(0<(L:Int))=False:=eq_false (by omega);(simp-dsimp(disch:=try exact vD) only[push_cast,simprocAttr,mdA]))|(have hb0:=afb (B:=B) (s:=s) h0;have hmin:min ((s:Int)%8).toNat IntKind.u8.bits=((s:Int)%8).toNat:=Nat.min_eq_left (by show _≤8;omega);have hqL:s/8%L<L:=Nat.mod_lt _ h0;have hq:((s:Int)/8%(L:Int))=((s/8%L:Nat):Int):=(by norm_cast);obtain⟨q,hqe⟩:∃q,s/8%L=q:=⟨_,rfl⟩;rw[hqe] at hq hqL hb0;have hg:=Bi (l:=B) (j:=q) (by omega);have hlB:(NI B).length=L:=(by rw[dS,hL]);obtain⟨y,hye⟩:∃y,B.getD q 0=y:=⟨_,rfl⟩;have hy:=hb q;rw[hye] at hg hy hb0;rcases Bool.eq_false_or_eq_true (bsI y s) with h8|h8<;>rw[h8] at hb0<;>first|(have hbs:=eq_true (of_decide_eq_true h8);(simp-dsimp(disch:=try exact vD) only[push_cast,simprocAttr,mdA]))|(have hbs:=eq_false (of_decide_eq_false h8);(simp-dsimp(disch:=try exact vD) only[push_cast,simprocAttr,mdA]))))))|(refine ax ?_;refine Nxt.mk [0,1,4] (⟨1,by omega⟩) rfl (by unfold mdA;(try simp only[List.cons_append,List.nil_append]);refine Sub.mk2 ?_;(simp-dsimp(disch:=try exact vD) only[push_cast,simprocAttr,htk,hsh,hmin,hs0,hq,hg,hb0,hbs,hL00,hv,ht,hw,hst,hlT,drC,hsn]);(repeat refine aI ?_);first|done|exact vI) (by first|omega|(dsimp only;omega)|(simp;done)|(simp;omega)))|(refine ax ?_;refine Nxt.mk [0,1,2] (⟨s+1,by omega⟩) rfl (by unfold mdA;(try simp only[List.cons_append,List.nil_append]);refine Sub.mk2 ?_;(simp-dsimp(disch:=try exact vD) only[push_cast,simprocAttr,htk,hsh,hmin,hs0,hq,hg,hb0,hbs,hL00,hv,ht,hw,hst,hlT,drC,hsn]);(repeat refine aI ?_);first|done|exact vI) (by first|omega|(dsimp only;omega)|(simp;done)|(simp;omega)))|(refine ax ?_;refine Nxt.mk [0,1,3] (⟨s+1,by omega⟩) rfl (by unfold mdA;(try simp only[List.cons_append,List.nil_append]);refine Sub.mk2 ?_;(simp-dsimp(disch:=try exact vD) only[push_cast,simprocAttr,htk,hsh,hmin,hs0,hq,hg,hb0,hbs,hL00,hv,ht,hw,hst,hlT,drC,hsn]);(repeat refine aI ?_);first|done|exact vI) (by first|omega|(dsimp only;omega)|(simp;done)|(simp;omega)))|(refine ax ?_;refine Nxt.mk [0,1,4] (⟨s+1,by omega⟩) rfl (by unfold mdA;(try simp only[List.cons_append,List.nil_append]);refine Sub.mk2 ?_;(simp-dsimp(disch:=try exact vD) only[push_cast,simprocAttr,htk,hsh,hmin,hs0,hq,hg,hb0,hbs,hL00,hv,ht,hw,hst,hlT,drC,hsn]);(repeat refine aI ?_);first|done|exact vI) (by first|omega|(dsimp only;omega)|(simp;done)|(simp;omega)))|apply dG|apply aF|((first|refine ay rfl (fun K hK=>?_)|refine aj (fun K hK=>?_)|refine aA (fun K hK=>?_));(first|refine ah (f:=42) [] 0 false ?_|refine ah (f:=41) [] 0 false ?_);simp-dsimp(disch:=try exact vD) only[push_cast,simprocAttr,htk,hsh,hmin,hs0,hq,hg,hb0,hbs,hL00,hv,ht,hw,hst,hlT,drC];(repeat refine aI ?_);intro G hG;refine hG _ _ ?_;clear hG G;(first|refine⟨_,_,hfr.down,?_⟩|refine⟨_,_,(hwi x s (by omega) (by omega)).down,?_⟩);simp-dsimp(disch:=try exact vD) only[push_cast,simprocAttr,htk,hsh,hmin,hs0,hq,hg,hb0,hbs,hL00,hv,ht,hw,hst,hlT,drC];(repeat refine aI ?_);apply hK;clear hK K)|((first|refine ay rfl (fun K hK=>?_)|refine aj (fun K hK=>?_)|refine aA (fun K hK=>?_));(first|apply cO|apply aZ|apply df|apply aT|apply aW|apply bf|apply bu|apply fK|apply bZ|apply fA|apply gm|apply fu|apply eG|apply aX|apply dK|apply dP|apply dm|apply bU|apply dY|apply dM);simp-dsimp(disch:=try exact vD) only[push_cast,simprocAttr,htk,hsh,hmin,hs0,hq,hg,hb0,hbs,hL00,hv,ht,hw,hst,hlT,drC];(repeat refine aI ?_);apply hK;clear hK K)|((first|refine ay rfl (fun K hK=>?_)|refine aj (fun K hK=>?_)|refine aA (fun K hK=>?_));(first|apply gz);simp-dsimp(disch:=try exact vD) only[push_cast,simprocAttr,htk,hsh,hmin,hs0,hq,hg,hb0,hbs,hL00,hv,ht,hw,hst,hlT,drC];(repeat refine aI ?_);apply hK;clear hK K)|((first|refine ay rfl (fun K hK=>?_)|refine aj (fun K hK=>?_)|refine aA (fun K hK=>?_));(first|apply eO);simp-dsimp(disch:=try exact vD) only[push_cast,simprocAttr,htk,hsh,hmin,hs0,hq,hg,hb0,hbs,hL00,hv,ht,hw,hst,hlT,drC];(repeat refine aI ?_);apply hK;clear hK K)|((first|refine ay rfl (fun K hK=>?_)|refine aj (fun K hK=>?_)|refine aA (fun K hK=>?_));(first|apply eH);simp-dsimp(disch:=try exact vD) only[push_cast,simprocAttr,htk,hsh,hmin,hs0,hq,hg,hb0,hbs,hL00,hv,ht,hw,hst,hlT,drC];(repeat refine aI ?_);apply hK;clear hK K)|((first|refine aQ rfl rfl (fun K1 K2 h1 h2=>?_) rfl|refine aJ (fun K1 K2 h1 h2=>?_)|refine bL rfl rfl (fun K1 K2 h1 h2=>?_));simp-dsimp(disch:=try exact vD) only[push_cast,simprocAttr,htk,hsh,hmin,hs0,hq,hg,hb0,hbs,hL00,hv,ht,hw,hst,hlT,drC];(first|(refine⟨fun hc=>?_,fun hc=>?_⟩<;>first|(exfalso;omega)|(exfalso;contradiction)|refine h1 ?_|refine h2 ?_)|refine h1 ?_|refine h2 ?_);all_goals clear h1 h2 K1 K2)|(refine aV (id:=6) (by kernel_rfl) [⟨0,[],[],[],[],0⟩,⟨1,[0],[],[],[],0⟩,⟨2,[0,1],[],[],[],0⟩,⟨3,[0,1,2],[],[],[],0⟩,⟨4,[0,1,2,3],[],[],[],0⟩,⟨5,[0,1,2,3,4],[25,26,27,28,29,30,33,34],[],[],0⟩,⟨6,[0,1,2,3,4,5],[25,26,27,28,29,30,33,34],[],[],0⟩,⟨7,[0,1,2,3,4],[23,24,27,28,29,33,34],[],[],0⟩,⟨8,[0,1,2,3,4,7],[23,24,27,28,29,33,34],[],[],0⟩,⟨9,[0,1,2,3,4],[23,24,25,26,33,34],[],[],0⟩,⟨10,[0,1,2,3,4,9],[23,24,25,26,33,34],[],[],0⟩,⟨11,[0,1,2,3,4,9,10],[23,24,25,26,33,34],[],[],0⟩,⟨12,[0,1,2,3,4,7,8,9,10,11],[23,24,33,34],[],[],0⟩,⟨13,[0,1,2,3,4,5,6,7,8,9,10,11,12],[33,34],[],[],0⟩,⟨14,[0,1,2,3,4,5,6,7,8,9,10,11,12,13],[33,34],[],[],0⟩,⟨15,[0,1,2,3,4],[23,24,25,26,27,28,29,30,31,32],[],[],0⟩,⟨16,[0,1,2,3,4,15],[23,24,25,26,27,28,29,30,31,32],[],[],0⟩,⟨17,[0,1,2,3,4,5,6,7,8,9,10,11,12,13,14,15,16],[],[],[],0⟩,⟨18,[0,1,2,3,4,5,6,7,8,9,10,11,12,13,14,15,16,17],[],[],[],0⟩,⟨19,[0,1,2,3,4,5,6,7,8,9,10,11,12,13,14,15,16,17,18],[],[],[],0⟩,⟨20,[0,1,2,3,4,5,6,7,8,9,10,11,12,13,14,15,16,17,18,19],[],[],[],0⟩,⟨21,[0,1,2,3,4,5,6,7,8,9,10,11,12,13,14,15,16,17,18,19,20],[],[],[],0⟩] (by kernel_rfl) (by kernel_rfl) (by kernel_rfl) ?_)|((first|refine dW (by kernel_rfl) (fun K hK=>?_)|refine gy (by kernel_rfl) (fun K hK=>?_));simp only[↓Go.Sy.dz,↓Go.Sy.dA,↓Go.Sy.dU,↓Go.Sy.dD,↓Go.Sy.dV,↓Go.Sy.cZ,↓Go.Sy.dE,push_cast,Nat.reduceLeDiff,Nat.reduceSub,Nat.reduceBEq,Nat.reduceEqDiff,Nat.reduceAdd,Nat.reduceLT,↓reduceIte,reduceCtorEq];refine hK _ _ _ ?_;clear hK K)|apply jl|apply dH|apply aR|apply bX|apply bz|apply aS|apply bY|apply bA|(refine aY rfl ?_)|apply bB|apply bW|apply bV|apply dF)
 all_goals first
  |((refine Ends.mk2 (by first|exact .inr rfl|exact .inl rfl) [] ?_;simp-dsimp(disch:=try exact vD) only[push_cast,simprocAttr,Tryz.f13];try exact zqF);done)
  |skip
end Go.Proofs.YtcbginhpibfgaaaGreatDoor
namespace Go.Proofs.YtcbginhpibfgaaaGreatDoor
open Go Go.Sy Go.Bp Go.Dg
attribute [local irreducible] AO AL AC OpT ACall Ends DGo bK Thn Blk Nxt
variable {n N M L T k i m r a b j w u v s q x y d:Nat} {z up:Bool} {B:List Nat} {e:Int} {p:Nat→Bool}
theorem l6{l:List Bool}:isx l s 0=false:=rfl
theorem ajx(hN:N<256)(hL:B.length=L)(hL2:L<2^47)(hn:N%7=n)(hT:2^n=T)(hb:∀i,B.getD i 0<256):ACall Tryz.prog 13 [.agg (drC N z B L true)] [] 0 (dgV ((kM n (mkT (mdB B L) true T)).1.length==0) n (kM n (mkT (mdB B L) true T)).1 (kM n (mkT (mdB B L) true T)).2) []:=by
 have hx:=ae;have hq:=ae;have hg:=ae;have hb0:=ae;have hbs:=ae;have hL00:=ae;have hv:=ae;have ht:=ae;have hw:=ae;have hst:=ae;have hsn:=ae;have hlT:=ae;have hmin:=ae;have hs0:=ae
 have hn6:n≤6:=by omega
 have hT64:T≤64:=by rw[←hT];exact(Nat.pow_le_pow_right (by omega) hn6:2^n≤2^6)
 have hTp:0<T:=by rw[←hT];exact Nat.two_pow_pos n
 have hsh:=Bc (n:=n) (by omega)
 have hfr:=PLift.up (lV (n:=n) (tb:=mkT (mdB B L) true T) (M:=T) (by omega) (uo _) hT.symm)
 have htk:=Zz (p:=mdB B L) (up:=true) (T:=T)
 have hwi:=fun(x s:Nat) (hx:x<65536) (h:s<65536)=>PLift.up (by
  have:=Bh (s:=x) (q:=s)
  rw[Lp hx,Lp h] at this;exact this)
 rw[hT] at hsh
 unfold dgV at*
 generalize((kM n (mkT (mdB B L) true T)).1.length==0)=zb at hfr⊢
 generalize kM n (mkT (mdB B L) true T)=R at hfr⊢
 unfold drC
 refine ak Tryz.func13 Tryz.ntmps13 rfl ?_
 repeat' (first|((first|refine bI (r:=12) 2 ?_|refine bH (r:=12) 2 ?_);simp-dsimp(disch:=try exact vD) only[push_cast,simprocAttr,Bool.true_or,Bool.false_or,Bool.or_false,l6,htk,hsh,hmin,hs0,hq,hg,hb0,hbs,hL00,hv,ht,hw,hst,hlT,drC];(repeat refine aI ?_);intro K hK;refine hK _ _ ?_;clear hK K)|(refine ai ?_;refine au [0,1,2] ([0,1,2].length) (mdG z N B L n s (mdB B L s)) (fun x=>s-x.val) (⟨0,by omega⟩) rfl (by unfold mdG;(try simp only[List.cons_append,List.nil_append]);refine Sub.mk2 ?_;(simp-dsimp(disch:=try exact vD) only[push_cast,simprocAttr,Bool.true_or,Bool.false_or,Bool.or_false,l6,htk,hsh,hmin,hs0,hq,hg,hb0,hbs,hL00,hv,ht,hw,hst,hlT,drC]);(repeat refine aI ?_);first|done|exact vI) ?_;(rintro⟨x,hx⟩;have hst:=alV (l:=mkT (mdB B L) true s) (s:=s) (x:=x);have hsn:mkT (mdB B L) true s++[or (mdB B L s) (isx (mkT (mdB B L) true s) s s)]=mkT (mdB B L) true (s+1):=(by rw[mkT,Bool.true_and]);rw[hb0] at hsn;rcases Nat.lt_or_eq_of_le hx with hxl|hxl<;>first|(have ex:s=x:=hxl.symm;subst ex;rcases Bool.eq_false_or_eq_true (isx (mkT (mdB B L) true s) s s) with hv|hv<;>rw[hv] at hsn<;>(try simp only[Bool.true_or,Bool.false_or,Bool.or_false,Bool.or_true] at hsn)<;>first|(have s00:s=0:=s0;subst s00;have hsn:=congrArg cB hsn;have hsn:[AV.val (.bool _)]=cB (mkT (mdB B L) true 1):=hsn;(simp-dsimp(disch:=try exact vD) only[push_cast,simprocAttr,mdG]))|(simp-dsimp(disch:=try exact vD) only[push_cast,simprocAttr,mdG]))|(rcases Bool.eq_false_or_eq_true (isx (mkT (mdB B L) true s) s x) with hv|hv<;>rw[hv] at hst<;>first|(rw[Bool.true_or] at hst;(simp-dsimp(disch:=try exact vD) only[push_cast,simprocAttr,mdG]))|(rw[Bool.false_or] at hst;rcases Bool.eq_false_or_eq_true ((mkT (mdB B L) true s).getD x default) with ht|ht<;>rw[ht] at hst<;>first|(rw[Bool.false_and] at hst;(simp-dsimp(disch:=try exact vD) only[push_cast,simprocAttr,mdG]))|(rw[Bool.true_and] at hst;rcases Decidable.em (yw x s%65536=0) with hw|hw<;>first|(rw[decide_eq_true hw] at hst;(simp-dsimp(disch:=try exact vD) only[push_cast,simprocAttr,mdG]))|(rw[decide_eq_false hw] at hst;(simp-dsimp(disch:=try exact vD) only[push_cast,simprocAttr,mdG])))))))|(refine ax ?_;refine Nxt.mk [0,1,2] (⟨x+1,by omega⟩) rfl (by unfold mdG;(try simp only[List.cons_append,List.nil_append]);refine Sub.mk2 ?_;(simp-dsimp(disch:=try exact vD) only[push_cast,simprocAttr,Bool.true_or,Bool.false_or,Bool.or_false,l6,htk,hsh,hmin,hs0,hq,hg,hb0,hbs,hL00,hv,ht,hw,hst,hlT,drC]);(repeat refine aI ?_);first|done|exact vI) (by first|omega|(dsimp only;omega)|(simp;done)|(simp;omega)))|(refine ai ?_;refine au [0,1,9] ([0,1,9].length) (mdA z N B L true n T) (fun s=>T-s.val) (⟨0,by omega⟩) rfl (by unfold mdA;(try simp only[List.cons_append,List.nil_append]);refine Sub.mk2 ?_;(simp-dsimp(disch:=try exact vD) only[push_cast,simprocAttr,Bool.true_or,Bool.false_or,Bool.or_false,l6,htk,hsh,hmin,hs0,hq,hg,hb0,hbs,hL00,hv,ht,hw,hst,hlT,drC]);(repeat refine aI ?_);first|done|exact vI) ?_;(rintro⟨s,hs⟩;rcases Nat.lt_or_eq_of_le hs with hsl|hsl<;>first|(have es:T=s:=hsl.symm;subst es;(simp-dsimp(disch:=try exact vD) only[push_cast,simprocAttr,mdA]))|(have hlT:=uo (p:=mdB B L) (up:=true) s;rcases Nat.eq_zero_or_pos s with s0|s0<;>rcases Nat.eq_zero_or_pos L with h0|h0<;>first|(have hb0:mdB B L s=false:=(by rw[h0];exact afa);have hL00:(0<(L:Int))=False:=eq_false (by omega);(simp-dsimp(disch:=try exact vD) only[push_cast,simprocAttr,mdA]))|(have hb0:=afb (B:=B) (s:=s) h0;have hmin:min ((s:Int)%8).toNat IntKind.u8.bits=((s:Int)%8).toNat:=Nat.min_eq_left (by show _≤8;omega);have hqL:s/8%L<L:=Nat.mod_lt _ h0;have hq:((s:Int)/8%(L:Int))=((s/8%L:Nat):Int):=(by norm_cast);obtain⟨q,hqe⟩:∃q,s/8%L=q:=⟨_,rfl⟩;rw[hqe] at hq hqL hb0;have hg:=Bi (l:=B) (j:=q) (by omega);have hlB:(NI B).length=L:=(by rw[dS,hL]);obtain⟨y,hye⟩:∃y,B.getD q 0=y:=⟨_,rfl⟩;have hy:=hb q;rw[hye] at hg hy hb0;rcases Bool.eq_false_or_eq_true (bsI y s) with h8|h8<;>rw[h8] at hb0<;>first|(have hbs:=eq_true (of_decide_eq_true h8);(simp-dsimp(disch:=try exact vD) only[push_cast,simprocAttr,mdA]))|(have hbs:=eq_false (of_decide_eq_false h8);(simp-dsimp(disch:=try exact vD) only[push_cast,simprocAttr,mdA]))))))|(refine ax ?_;refine Nxt.mk [0,1,4] (⟨1,by omega⟩) rfl (by unfold mdA;(try simp only[List.cons_append,List.nil_append]);refine Sub.mk2 ?_;(simp-dsimp(disch:=try exact vD) only[push_cast,simprocAttr,Bool.true_or,Bool.false_or,Bool.or_false,l6,htk,hsh,hmin,hs0,hq,hg,hb0,hbs,hL00,hv,ht,hw,hst,hlT,drC,hsn]);(repeat refine aI ?_);first|done|exact vI) (by first|omega|(dsimp only;omega)|(simp;done)|(simp;omega)))|(refine ax ?_;refine Nxt.mk [0,1,2] (⟨s+1,by omega⟩) rfl (by unfold mdA;(try simp only[List.cons_append,List.nil_append]);refine Sub.mk2 ?_;(simp-dsimp(disch:=try exact vD) only[push_cast,simprocAttr,Bool.true_or,Bool.false_or,Bool.or_false,l6,htk,hsh,hmin,hs0,hq,hg,hb0,hbs,hL00,hv,ht,hw,hst,hlT,drC,hsn]);(repeat refine aI ?_);first|done|exact vI) (by first|omega|(dsimp only;omega)|(simp;done)|(simp;omega)))|(refine ax ?_;refine Nxt.mk [0,1,3] (⟨s+1,by omega⟩) rfl (by unfold mdA;(try simp only[List.cons_append,List.nil_append]);refine Sub.mk2 ?_;(simp-dsimp(disch:=try exact vD) only[push_cast,simprocAttr,Bool.true_or,Bool.false_or,Bool.or_false,l6,htk,hsh,hmin,hs0,hq,hg,hb0,hbs,hL00,hv,ht,hw,hst,hlT,drC,hsn]);(repeat refine aI ?_);first|done|exact vI) (by first|omega|(dsimp only;omega)|(simp;done)|(simp;omega)))|(refine ax ?_;refine Nxt.mk [0,1,4] (⟨s+1,by omega⟩) rfl (by unfold mdA;(try simp only[List.cons_append,List.nil_append]);refine Sub.mk2 ?_;(simp-dsimp(disch:=try exact vD) only[push_cast,simprocAttr,Bool.true_or,Bool.false_or,Bool.or_false,l6,htk,hsh,hmin,hs0,hq,hg,hb0,hbs,hL00,hv,ht,hw,hst,hlT,drC,hsn]);(repeat refine aI ?_);first|done|exact vI) (by first|omega|(dsimp only;omega)|(simp;done)|(simp;omega)))|apply dG|apply aF|((first|refine ay rfl (fun K hK=>?_)|refine aj (fun K hK=>?_)|refine aA (fun K hK=>?_));(first|refine ah (f:=42) [] 0 false ?_|refine ah (f:=41) [] 0 false ?_);simp-dsimp(disch:=try exact vD) only[push_cast,simprocAttr,Bool.true_or,Bool.false_or,Bool.or_false,l6,htk,hsh,hmin,hs0,hq,hg,hb0,hbs,hL00,hv,ht,hw,hst,hlT,drC];(repeat refine aI ?_);intro G hG;refine hG _ _ ?_;clear hG G;(first|refine⟨_,_,hfr.down,?_⟩|refine⟨_,_,(hwi x s (by omega) (by omega)).down,?_⟩);simp-dsimp(disch:=try exact vD) only[push_cast,simprocAttr,Bool.true_or,Bool.false_or,Bool.or_false,l6,htk,hsh,hmin,hs0,hq,hg,hb0,hbs,hL00,hv,ht,hw,hst,hlT,drC];(repeat refine aI ?_);apply hK;clear hK K)|((first|refine ay rfl (fun K hK=>?_)|refine aj (fun K hK=>?_)|refine aA (fun K hK=>?_));(first|apply cO|apply aZ|apply df|apply aT|apply aW|apply bf|apply bu|apply fK|apply bZ|apply fA|apply gm|apply fu|apply eG|apply aX|apply dK|apply dP|apply dm|apply bU|apply dY|apply dM);simp-dsimp(disch:=try exact vD) only[push_cast,simprocAttr,Bool.true_or,Bool.false_or,Bool.or_false,l6,htk,hsh,hmin,hs0,hq,hg,hb0,hbs,hL00,hv,ht,hw,hst,hlT,drC];(repeat refine aI ?_);apply hK;clear hK K)|((first|refine ay rfl (fun K hK=>?_)|refine aj (fun K hK=>?_)|refine aA (fun K hK=>?_));(first|apply gz);simp-dsimp(disch:=try exact vD) only[push_cast,simprocAttr,Bool.true_or,Bool.false_or,Bool.or_false,l6,htk,hsh,hmin,hs0,hq,hg,hb0,hbs,hL00,hv,ht,hw,hst,hlT,drC];(repeat refine aI ?_);apply hK;clear hK K)|((first|refine ay rfl (fun K hK=>?_)|refine aj (fun K hK=>?_)|refine aA (fun K hK=>?_));(first|apply eO);simp-dsimp(disch:=try exact vD) only[push_cast,simprocAttr,Bool.true_or,Bool.false_or,Bool.or_false,l6,htk,hsh,hmin,hs0,hq,hg,hb0,hbs,hL00,hv,ht,hw,hst,hlT,drC];(repeat refine aI ?_);apply hK;clear hK K)|((first|refine ay rfl (fun K hK=>?_)|refine aj (fun K hK=>?_)|refine aA (fun K hK=>?_));(first|apply eH);simp-dsimp(disch:=try exact vD) only[push_cast,simprocAttr,Bool.true_or,Bool.false_or,Bool.or_false,l6,htk,hsh,hmin,hs0,hq,hg,hb0,hbs,hL00,hv,ht,hw,hst,hlT,drC];(repeat refine aI ?_);apply hK;clear hK K)|((first|refine aQ rfl rfl (fun K1 K2 h1 h2=>?_) rfl|refine aJ (fun K1 K2 h1 h2=>?_)|refine bL rfl rfl (fun K1 K2 h1 h2=>?_));simp-dsimp(disch:=try exact vD) only[push_cast,simprocAttr,Bool.true_or,Bool.false_or,Bool.or_false,l6,htk,hsh,hmin,hs0,hq,hg,hb0,hbs,hL00,hv,ht,hw,hst,hlT,drC];(first|(refine⟨fun hc=>?_,fun hc=>?_⟩<;>first|(exfalso;omega)|(exfalso;contradiction)|refine h1 ?_|refine h2 ?_)|refine h1 ?_|refine h2 ?_);all_goals clear h1 h2 K1 K2)|(refine aV (id:=6) (by kernel_rfl) [⟨0,[],[],[],[],0⟩,⟨1,[0],[],[],[],0⟩,⟨2,[0,1],[],[],[],0⟩,⟨3,[0,1,2],[],[],[],0⟩,⟨4,[0,1,2,3],[],[],[],0⟩,⟨5,[0,1,2,3,4],[25,26,27,28,29,30,33,34],[],[],0⟩,⟨6,[0,1,2,3,4,5],[25,26,27,28,29,30,33,34],[],[],0⟩,⟨7,[0,1,2,3,4],[23,24,27,28,29,33,34],[],[],0⟩,⟨8,[0,1,2,3,4,7],[23,24,27,28,29,33,34],[],[],0⟩,⟨9,[0,1,2,3,4],[23,24,25,26,33,34],[],[],0⟩,⟨10,[0,1,2,3,4,9],[23,24,25,26,33,34],[],[],0⟩,⟨11,[0,1,2,3,4,9,10],[23,24,25,26,33,34],[],[],0⟩,⟨12,[0,1,2,3,4,7,8,9,10,11],[23,24,33,34],[],[],0⟩,⟨13,[0,1,2,3,4,5,6,7,8,9,10,11,12],[33,34],[],[],0⟩,⟨14,[0,1,2,3,4,5,6,7,8,9,10,11,12,13],[33,34],[],[],0⟩,⟨15,[0,1,2,3,4],[23,24,25,26,27,28,29,30,31,32],[],[],0⟩,⟨16,[0,1,2,3,4,15],[23,24,25,26,27,28,29,30,31,32],[],[],0⟩,⟨17,[0,1,2,3,4,5,6,7,8,9,10,11,12,13,14,15,16],[],[],[],0⟩,⟨18,[0,1,2,3,4,5,6,7,8,9,10,11,12,13,14,15,16,17],[],[],[],0⟩,⟨19,[0,1,2,3,4,5,6,7,8,9,10,11,12,13,14,15,16,17,18],[],[],[],0⟩,⟨20,[0,1,2,3,4,5,6,7,8,9,10,11,12,13,14,15,16,17,18,19],[],[],[],0⟩,⟨21,[0,1,2,3,4,5,6,7,8,9,10,11,12,13,14,15,16,17,18,19,20],[],[],[],0⟩] (by kernel_rfl) (by kernel_rfl) (by kernel_rfl) ?_)|((first|refine dW (by kernel_rfl) (fun K hK=>?_)|refine gy (by kernel_rfl) (fun K hK=>?_));simp only[↓Go.Sy.dz,↓Go.Sy.dA,↓Go.Sy.dU,↓Go.Sy.dD,↓Go.Sy.dV,↓Go.Sy.cZ,↓Go.Sy.dE,push_cast,Nat.reduceLeDiff,Nat.reduceSub,Nat.reduceBEq,Nat.reduceEqDiff,Nat.reduceAdd,Nat.reduceLT,↓reduceIte,reduceCtorEq];refine hK _ _ _ ?_;clear hK K)|apply jl|apply dH|apply aR|apply bX|apply bz|apply aS|apply bY|apply bA|(refine aY rfl ?_)|apply bB|apply bW|apply bV|apply dF)
 all_goals first
  |((refine Ends.mk2 (by first|exact .inr rfl|exact .inl rfl) [] ?_;simp-dsimp(disch:=try exact vD) only[push_cast,simprocAttr,Tryz.f13];try exact zqF);done)
  |skip
end Go.Proofs.YtcbginhpibfgaaaGreatDoor
namespace Go.Proofs.YtcbginhpibfgaaaGreatDoor
open Go Go.Sy Go.Bp Go.Dg
attribute [local irreducible] AO AL AC OpT ACall Ends DGo bK Thn Blk Nxt
variable {n N M T L k i m r a b j w u v s q x y d:Nat} {z z' up up':Bool} {B B':List Nat} {F:List Fo} {p f g:Nat→Bool}
theorem ZA(h:MQ N B L):∃F r,DOk (N%7) F r∧ACall Tryz.prog 13 [.agg (drC N z B L up)] [] 0 (.agg [.val (.int .i64 (N%7:Nat)),.isl (F.length==0) (cR F) F.length,.val (.int .i64 r)]) []:=by
 cases up with
 |false=>exact⟨_,_,nD (by omega),ajw h.n h.len h.lt rfl rfl h.b⟩
 |true=>exact⟨_,_,nD (by omega),ajx h.n h.len h.lt rfl rfl h.b⟩
end Go.Proofs.YtcbginhpibfgaaaGreatDoor
namespace Go.Proofs.YtcbginhpibfgaaaGreatDoor
open Go Go.Sy Go.Lm Go.Rt Go.Dg
attribute [local irreducible] AO AL AC OpT ACall Ends DGo bK Thn Blk Nxt
variable {n N M L k i m r:Nat} {z zl:Bool} {up:Bool} {B:List Nat} {l:List Chc} {F:List Fo}
structure MO(l:List Chc)(k:Nat):Prop where
 len:l.length=k
 lt:k<2^47
 b:∀i,(l.getD i default).a<256∧(l.getD i default).b<256
def chP(l:List Chc)(i:Nat):Rat:=chQ (l.getD i default)
theorem mV:0≤chP l i∧chP l i≤1∧(chP l i).den≤1000000:=by
 have h:=YZ (l.getD i default)
 exact⟨h.1,h.2.1,Nat.le_trans h.2.2 (by decide)⟩
theorem yR:Gd (lsL l n) (chP l) (fun i=>(chP l i).den) n:=Gd.rc iZ (fun i hi=>Fs hi) fun i _=>mV
theorem uq(h:MO l k)(hn:n≤1000):ACall Tryz.prog 14 [.isl zl (cR l) k,.val (.int .i64 n)] [] 0 (.isl (n==0) (cR (lsL l n)) n) []:=
 ad9 h.len h.lt hn fun i _=>ME (h.b i).1 (h.b i).2
theorem xh(h:MQ N B L):∃n F r M,n≤6∧DOk n F r∧F.length=M∧ACall Tryz.prog 13 [.agg (drC N z B L up)] [] 0 (dI (M==0) n (F.map fk) M r) []:=by
 obtain⟨F,r,hD,hM⟩:=ZA (z:=z) (up:=up) h
 refine⟨N%7,F,r,F.length,by omega,hD,rfl,?_⟩
 unfold dI;rw[gV];exact hM
end Go.Proofs.YtcbginhpibfgaaaGreatDoor
namespace Go.Proofs.YtcbginhpibfgaaaGreatDoor
open Go Go.Sy Go.Bp Go.Dg Go.Lm
theorem Bq{m:Nat} {av:List AV}(h:dO Tryz.prog m 52 av):∃x:Chc,av=aa.cells x∧x.a<256∧x.b<256:=by
 obtain⟨_,xs,rfl,hl,hx⟩:=jm Tryz.underlying52 h
 match xs,hl with
 |[a0,a1],_=>
  obtain⟨b0,rfl,h0⟩:=gT Tryz.underlying5 (hx 0 _ a0 rfl rfl)
  obtain⟨b1,rfl,h1⟩:=gT Tryz.underlying5 (hx 1 _ a1 rfl rfl)
  have h0:=wC h0
  have h1:=wC h1
  obtain⟨n0,rfl⟩:=Int.eq_ofNat_of_zero_le h0.1
  obtain⟨n1,rfl⟩:=Int.eq_ofNat_of_zero_le h1.1
  exact⟨⟨n0,n1⟩,rfl,(by omega:n0<256),(by omega:n1<256)⟩
theorem iO{m:Nat} {av:List AV}(h:dO Tryz.prog m 25 av):∃(z:Bool) (l:List Chc),av=[.isl z (cR l) l.length]∧MO l l.length:=by
 obtain⟨z,l,e,ho,hl,_⟩:=lN (g:=fun(x:Chc)=>aa.cells x) (Q:=fun x=>x.a<256∧x.b<256) (bn:=2) Tryz.underlying25 h (by kernel_rfl) (by decide) (fun n x hx=>Bq hx)
 refine⟨z,l,e,rfl,hl,fun i=>?_⟩
 by_cases hi:i<l.length
 ·rw[List.getD_eq_getElem?_getD,List.getElem?_eq_getElem hi];exact ho _ (List.getElem_mem hi)
 ·rw[List.getD_eq_getElem?_getD,List.getElem?_eq_none (by omega)];exact⟨by decide,by decide⟩
end Go.Proofs.YtcbginhpibfgaaaGreatDoor
namespace Go.Proofs.YtcbginhpibfgaaaGreatDoor
open Go Go.Sy Go.Lm Go.Rt Go.Dg
attribute [local irreducible] AO AL AC OpT ACall Ends DGo bK Thn Blk Nxt
variable {N M k i m a b:Nat} {z zp:Bool} {L:List Fk} {X W:RV} {r e:Int} {n:Int} {F:List Fo} {A:List Int} {tab:Nat→Bool}
theorem afd{X:RV}(i:Nat):cR (lsD (fun _=>X) i)++[.val (.bool X.num.neg),.isl X.num.z (cI .u32 X.num.l) X.num.l.length,.val (.bool X.den.neg),.isl X.den.z (cI .u32 X.den.l) X.den.l.length]=cR (lsD (fun _=>X) (i+1)):=aja
end Go.Proofs.YtcbginhpibfgaaaGreatDoor
set_option maxRecDepth 100000
namespace Go.Proofs.YtcbginhpibfgaaaGreatDoor
open Go
theorem BH:Rows.failureAloneRow.wf (OpenSpec.ofChange Rows.failureAloneSpec)=true:=by kernel_rfl
theorem BI:Tryz.f9.params.all (Tryz.prog.readableRec ·)=true:=by kernel_rfl
theorem BJ:namedTie Tryz.prog Rows.failureAloneRow.named Rows.failureAloneSpec.vars=true:=by kernel_rfl
theorem BK:(Rows.failureAloneRow.stops==[])=true:=by kernel_rfl
theorem BL:(Rows.failureAloneRow.knobs==[])=true:=by kernel_rfl
theorem BM:(Rows.failureAloneRow.inPlace==Tryz.prog.inPlace 9)=true:=by kernel_rfl
theorem zT:(Rows.failureAloneRow.unfollowed==Tryz.prog.unfollowed 9)=true:=by kernel_rfl
theorem zU:(Rows.failureAloneRow.recurses==Tryz.prog.recurses 9)=true:=by kernel_rfl
theorem zV:(Rows.failureAloneRow.named==Tryz.prog.varsNamed 9)=true:=by kernel_rfl
theorem zW:(Rows.failureAloneRow.maps==(Tryz.f9.params.toList++Rows.failureAloneSpec.plain.varTypes Tryz.prog).any (Tryz.prog.mapsRec ·))=true:=by kernel_rfl
theorem zX:(Rows.failureAloneRow.ifaces==(Tryz.f9.params.toList++Rows.failureAloneSpec.plain.varTypes Tryz.prog).any (Tryz.prog.ifacesRec ·))=true:=by kernel_rfl
theorem zY:(Rows.failureAloneRow.mapsOut==Tryz.prog.mapsAmong Tryz.f9.resultTypes.toList)=true:=by kernel_rfl
theorem zZ:(Rows.failureAloneRow.loops==(Tryz.f9.params.toList++Rows.failureAloneSpec.plain.varTypes Tryz.prog).any (Tryz.prog.loopsFrom ·))=true:=by kernel_rfl
theorem z8:(Rows.failureAloneRow.wideKeys==(Tryz.f9.params.toList++Rows.failureAloneSpec.plain.varTypes Tryz.prog++Tryz.f9.resultTypes.toList).any (Tryz.prog.wideKeysFrom ·))=true:=by kernel_rfl
theorem Aa:Rows.failureAloneSpec.vars.all (Tryz.prog.varReadable ·)=true:=by kernel_rfl
theorem Ab:Tryz.f9.resultTypes.all (fun t=>Tryz.prog.readableRec t&&decide (t<Tryz.prog.types.size))=true:=by kernel_rfl
theorem Ac:(Rows.failureAloneRow.ifacesOut==Tryz.f9.resultTypes.toList.any (Tryz.prog.ifacesRec ·))=true:=by kernel_rfl
theorem Ad:(Rows.failureAloneRow.loopsOut==Tryz.f9.resultTypes.toList.any (Tryz.prog.loopsFrom ·))=true:=by kernel_rfl
theorem Ae:(Rows.failureAloneRow.plainKeys==Tryz.prog.plainKeys)=true:=by kernel_rfl
theorem Af:Rows.failureAloneRow.shortTexts.isNone=true:=by kernel_rfl
theorem Ag:(Rows.failureAloneRow.lifted==Tryz.prog.liftsFinal)=true:=by kernel_rfl
theorem Ah:(Tryz.prog.make==some Rows.failureAloneRow.make)=true:=by kernel_rfl
theorem Ai:(Rows.failureAloneRow.kinds==(if Rows.failureAloneRow.domain.isEmpty then [] else Tryz.f9.params.toList.map fun t=>match Tryz.prog.underlying t with|some (.int k)=>some k|_=>none))=true:=by kernel_rfl
theorem Aj:(Rows.failureAloneRow.pinned==Rows.failureAloneRow.pinnedBy)=true:=by kernel_rfl
theorem Ak:(Rows.failureAloneRow.veiled==(Tryz.f9.params.toList++Rows.failureAloneSpec.plain.varTypes Tryz.prog++Tryz.f9.resultTypes.toList).any (Tryz.prog.veiledRec ·))=true:=by kernel_rfl
theorem Al:Rows.failureAloneRow.veiledFits Tryz.prog Tryz.f9.params.toList (Tryz.f9.params.toList++Rows.failureAloneSpec.plain.varTypes Tryz.prog++Tryz.f9.resultTypes.toList)=true:=by kernel_rfl
theorem Am:joinedFacts Tryz.prog 9 Tryz.f9 Rows.failureAloneSpec Rows.failureAloneRow=true:=by
 simp only[joinedFacts,Bool.and_eq_true]
 exact⟨⟨⟨⟨⟨⟨⟨⟨⟨⟨⟨⟨⟨⟨⟨⟨⟨⟨⟨⟨⟨⟨⟨⟨⟨⟨⟨⟨⟨⟨⟨BH,nI⟩,nJ⟩,BI⟩,BJ⟩,BK⟩,nK⟩,BL⟩,nL⟩,BM⟩,zT⟩,zU⟩,zV⟩,zW⟩,zX⟩,zY⟩,zZ⟩,z8⟩,Aa⟩,Ab⟩,Ac⟩,Ad⟩,Ae⟩,Af⟩,kN⟩,kQ⟩,Ag⟩,Ah⟩,Ai⟩,Aj⟩,Ak⟩,Al⟩
theorem failureAlone_nam:Tryz.pinned.checked.prog.funcNamed Rows.failureAloneRow.func=some 9:=by kernel_rfl
theorem Ao:Tryz.f9.isInstance Tryz.pinned.checked.prog Rows.failureAloneRow.origin Rows.failureAloneRow.targs:=of_decide_eq_true (by kernel_rfl)
theorem Ap:Tryz.f9.isWrapper Tryz.pinned.checked.prog Rows.failureAloneRow.wrapper Rows.failureAloneRow.mainSum:=by unfold Func.isWrapper;first|(rw[if_pos (by decide+kernel)];kernel_rfl)|(rw[if_neg (by decide+kernel)];exact⟨rfl,rfl⟩)
theorem Aq:Rows.failureAloneRow.wfByText (OpenSpec.ofChange Rows.failureAloneSpec)=true:=by kernel_rfl
theorem Ar:Tryz.pinned.checked.prog.mainIs=some (true, "6c6ed28039965d1e05ce70114d4f84b00907715979fcf266077e3121104a4804".toList):=by kernel_rfl
theorem Au:false=Tryz.pinned.checked.prog.looks []:=by kernel_rfl
theorem Av:([24,62,25].all fun u=> !Tryz.prog.wantsStandIn u)=true:=by kernel_rfl
theorem Aw:false=Rows.failureAloneRow.goesBy Tryz.pinned.checked.prog:=by kernel_rfl
