/- Sym17 Ty Args Dg2 Di1 Di2 Di3 Dg3 Dg6 Di4 Di5 Di7 Di20 Dk1 Di8. No condition. -/
import Derived.Test.YtcbginhpibfgaaaGreatDoorArgs
import Derived.Test.YtcbginhpibfgaaaGreatDoorDiG14
set_option linter.all false
set_option maxHeartbeats 4000000
set_option maxRecDepth 20000
namespace Go.Sy
open Go.ChangeShapes Go.WideShapes Go.ChangeAt Go.RowKit
section
variable {H:Type} {enc:TypeId×Value→H} {P:Program} {W W':World}
theorem kT(K:Kids P (· <P.types.size))(hz:∀t e,t<P.types.size→P.underlying t=some (.slice e)→0<P.cellsOf e){r:Reach} {b:Nat} {m:Nat} {t:TypeId} {v:Value} {d:DataW H} {ps:List MemPlace} {held:Bool}(ht:t<P.types.size)(hp:mK P m t=true)
 (hs:(match P.underlying t with|some (.struct _)=>false|_=>true)=true) (hval:Value.okWide P W r b t v) (h:DataW.Trod enc P W 0 (fun _=>true) held t v d ps) (hw:∀k∈d.weights P t,k≤reachBytes):
 ∃x,dO P m t [x]∧Rep W (fun b=>b<W.heap.size) (fun _=>none) v x:=by
 obtain⟨fuel,hf⟩:=h
 obtain⟨asq,h1,h2⟩:=yh K hz m t _ _ fuel ht hp hf hw
 have hc:v.cells.toList=[v]:=by
  cases m with
  |zero=>simp[mK] at hp
  |succ m=>
   unfold mK at hp
   unfold Value.okWide at hval
   split at hp
   all_goals(try(rename_i hu;rw[hu] at hval hs))
   all_goals first
    |(cases hp;done)
    |(cases hs;done)
    |(simp only[Cell.okWide,Cell.ok] at hval
      rw[hu] at hval
      cases v<;>first|rfl|(simp at hval))
    |(rename_i hu;rw[hu] at hval hs;simp only[Cell.okWide,Cell.ok] at hval;rw[hu] at hval;cases v<;>first|rfl|(simp at hval))
 rw[hc] at h2
 obtain⟨g1,g2⟩:=h2
 cases asq with
 |nil=>simp at g1
 |cons x asq=>
  have:asq=[]:=List.length_eq_zero_iff.1 (by simpa using g1)
  subst this
  exact⟨x,h1,(g2 0 x rfl).2⟩
end
end Go.Sy
namespace Go.Proofs.YtcbginhpibfgaaaGreatDoor
section
open Go Go.Sy
instance:TTb 183 1 8 false [(.nilFunc)]:=kTb
instance:TTb 192 32 32 true [(.int .u8 0),(.int .u8 0),(.int .u8 0),(.int .u8 0),(.int .u8 0),(.int .u8 0),(.int .u8 0),(.int .u8 0),(.int .u8 0),(.int .u8 0),(.int .u8 0),(.int .u8 0),(.int .u8 0),(.int .u8 0),(.int .u8 0),(.int .u8 0),(.int .u8 0),(.int .u8 0),(.int .u8 0),(.int .u8 0),(.int .u8 0),(.int .u8 0),(.int .u8 0),(.int .u8 0),(.int .u8 0),(.int .u8 0),(.int .u8 0),(.int .u8 0),(.int .u8 0),(.int .u8 0),(.int .u8 0),(.int .u8 0)]:=kTb
instance:Di Tryz.prog 192 32 5:=⟨by kernel_rfl⟩
end
section
open Go Go.Sy
theorem ahx{α:Type} {R:α→Prop}(xs:List (List AV))(l:List α)(hl:l.length=xs.length)(h:∀(i:Nat) (x:List AV) (a:α),xs[i]? =some x→l[i]? =some a→R a):∀a∈l,R a:=by
 intro a ha
 obtain⟨i,hi⟩:=List.mem_iff_getElem?.1 ha
 obtain⟨x,hx⟩:∃x,xs[i]? =some x:=⟨_,List.getElem?_eq_getElem (by rw[←hl];exact(List.getElem?_eq_some_iff.1 hi).1)⟩
 exact h i x a hx hi
theorem NU{m:Int}(h:(Lit.int .i64 m).wf=true): -9223372036854775808≤m∧m≤9223372036854775807:=by
 simp only[Lit.wf,Bool.and_eq_true,decide_eq_true_eq,IntKind.min,IntKind.max] at h
 simpa[IntKind.bits,IntKind.signed] using h
theorem Ii{m:Nat} {t:TypeId} {av:List AV}(hu:Tryz.prog.underlying t=some .bool)(h:dO Tryz.prog m t av):∃b,av=[.val (.bool b)]:=by
 cases m with
 |zero=>cases h
 |succ m=>unfold dO at h;rw[hu] at h;exact h
theorem mo{α β:Type}(g:α→β)(l:List α):l.flatMap (fun i=>[g i])=l.map g:=by
 induction l with
 |nil=>rfl
 |cons a l ih=>rw[List.flatMap_cons,ih];rfl
theorem lN{α:Type} {g:α→List AV} {Q:α→Prop} {m bn:Nat} {t e:TypeId} {av:List AV}(hu:Tryz.prog.underlying t=some (.slice e))(h:dO Tryz.prog m t av)(hb:Tryz.prog.bytesOf e=bn)(h8:1≤bn)
 (hx:∀n x,dO Tryz.prog n e x→∃a,x=g a∧Q a):∃(z:Bool) (l:List α),av=[.isl z (l.flatMap g) l.length]∧(∀a∈l,Q a)∧l.length<2^47∧(z=true→l=[]):=by
 obtain⟨n,rfl|⟨xs,rfl,h1,h2⟩⟩:=u6 hu h
 ·exact⟨true,[],rfl,by simp,Nat.two_pow_pos 47,fun _=>rfl⟩
 ·obtain⟨l,k1,k2⟩:=JD (R:=fun x a=>x=g a∧Q a) xs (fun x hx'=>hx n x (h1 x hx').2)
  refine⟨false,l,?_,ahx xs l k1 (fun i x a hx ha=>(k2 i x a hx ha).2),?_,fun h=>by cases h⟩
  ·rw[Dm (g:=g) xs l k1 (fun i x a hx ha=>(k2 i x a hx ha).1),k1]
  ·have h3:xs.length*1≤reachBytes:=Nat.le_trans (Nat.mul_le_mul_left _ (hb▸h8)) h2
   rw[k1];unfold reachBytes at h3;omega
end
end Go.Proofs.YtcbginhpibfgaaaGreatDoor
namespace Go.Dg
variable {F G D e A B:List Fo} {f:Fo} {n m i j k s t r u v w nx n1 l:Nat} {tab φ φ0 φ1:Nat→Bool}
theorem Sn{tab':Nat→Bool}:∀(m i s:Nat) (F:List Fo),i+m=n→s<2^i→(∀t,Ext n i s t→tab t=tab' t)→gen tab m i s F=gen tab' m i s F:=by
 intro m
 induction m with
 |zero=>
  intro i s F hi hs h
  rw[Ey,Ey,h s (wH hs (by omega))]
 |succ m ih=>
  intro i s F hi hs h
  have e1:=ih (i+1) s F (by omega) (u7 hs) (fun t ht=>h t ht.of_low)
  have e2:=ih (i+1) (s|||2^i) (gen tab' m (i+1) s F).1 (by omega) (kI hs) (fun t ht=>h t (ht.of_high hs))
  simp only[gen,e1,e2]
theorem EC{tab':Nat→Bool}(h:∀t,t<2^n→tab t=tab' t):fC n tab=fC n tab':=Sn n 0 0 [] (by omega) (by decide) (fun t ht=>h t ht.1)
theorem Wu(hg:Good n F)(h:Hit n φ l F w):BF n φ l F F w:=fun tab m i s hi hs hl ht=>
 q8 hg m i s w hi hs ⟨h.lt,by have:=h.srv;omega,fun t he=>by rw[h.val t he.1,ht t he]⟩
theorem ab8(hg:Good n F)(hv:v<n)(h0:BF n φ0 (v+1) F G r)(h1:BF n φ1 (v+1) G D u)
 (e0:∀t,t<2^n→t.testBit v=false→φ t=φ0 t) (e1:∀t,t<2^n→t.testBit v=true→φ t=φ1 t):
 BF n φ v F (mkF D v r u).1 (mkF D v r u).2:=by
 intro tab m
 induction m with
 |zero=>intro i s hi hs hl;omega
 |succ m ih=>
  intro i s hi hs hl ht
  by_cases e:i=v
  ·subst e
   have g1:=h0 tab m (i+1) s (by omega) (u7 hs) (Nat.le_refl _) (fun t hx=>by rw[ht t hx.of_low,e0 t hx.1 (hx.b0 hs)])
   have g2:=h1 tab m (i+1) (s|||2^i) (by omega) (kI hs) (Nat.le_refl _) (fun t hx=>by rw[ht t (hx.of_high hs),e1 t hx.1 hx.b1])
   rw[wF g1 g2]
  ·have g1:=ih (i+1) s (by omega) (u7 hs) (by omega) (fun t hx=>ht t hx.of_low)
   have hG:BF n φ v F (mkF D v r u).1 (mkF D v r u).2→True:=fun _=>trivial
   have k1:=yx (tab:=tab) m (i+1) s F hg (by omega) (u7 hs)
   -- what the second half would grow is what the first half has grown
   have g2:=ih (i+1) (s|||2^i) (by omega) (kI hs) (by omega) (fun t hx=>ht t (hx.of_high hs))
   have k2:=yx (tab:=tab) m (i+1) (s|||2^i) F hg (by omega) (kI hs)
   rw[g1] at k1
   rw[g2] at k2
   have g3:=q8 (tab:=tab) k2.good m (i+1) (s|||2^i) _ (by omega) (kI hs) k2.rep
   rw[wF g1 g3,qX]
theorem ahL(h:BF n φ 0 [] F w):fC n φ=(F,w):=h φ n 0 0 (by omega) (by decide) (Nat.le_refl _) (fun _ _=>rfl)
theorem ab9(hg:Good n F){b:Bool}(h:∀t,t<2^n→φ t=b):BF n φ n F F (if b=true then 1 else 0):=
 Wu hg ⟨by split<;>omega,by unfold aP;rw[if_pos (by split<;>omega)];exact Nat.le_refl _,fun t ht=>by
  rw[h t ht,mq (by split<;>omega)];cases b<;>rfl⟩
end Go.Dg
namespace Go.Proofs.YtcbginhpibfgaaaGreatDoor
section
open Go Go.Sy
attribute [local irreducible] AO AL AC OpT ACall Ends DGo bK Thn Blk Nxt
section
open Go Go.Sy Go.Dg
variable {F G:List Fo} {v lo hi n k:Nat} {b:Bool}
def atM(F:List Fo):List (List Int×AV):=(List.range F.length).map fun(k:Nat)=>([((F.getD k default).v:Int),((F.getD k default).lo:Int),((F.getD k default).hi:Int)],.val (.int .i64 ((k:Int)+2)))
theorem ED:atM (F++[⟨v,lo,hi⟩])=atM F++[([(v:Int),(lo:Int),(hi:Int)],.val (.int .i64 ((F.length:Int)+2)))]:=by
 unfold atM
 rw[List.length_append,List.length_singleton,List.range_succ,List.map_append]
 congr 1
 ·refine List.map_congr_left fun k hk=>?_
  rw[qZ (List.mem_range.1 hk)]
 ·rw[List.map_singleton,wG]
theorem Sq{a b:List (List Int×AV)} {x:List Int}(h:cK a x=none):cK (a++b) x=cK b x:=by
 induction a with
 |nil=>rfl
 |cons p a ih=>
  obtain⟨y,w⟩:=p
  rw[List.cons_append]
  simp only[cK] at h⊢
  split at h
  ·cases h
  ·rename_i hc;rw[if_neg hc];exact ih h
theorem NZ{a b:List (List Int×AV)} {x:List Int} {w:AV}(h:cK a x=some w):cK (a++b) x=some w:=by
 induction a with
 |nil=>cases h
 |cons p a ih=>
  obtain⟨y,w'⟩:=p
  rw[List.cons_append]
  simp only[cK] at h⊢
  split at h
  ·rename_i hc;rw[if_pos hc];exact h
  ·rename_i hc;rw[if_neg hc];exact ih h
theorem Im:cK (atM F) [(v:Int),(lo:Int),(hi:Int)]=if(⟨v,lo,hi⟩:Fo)∈F then some (.val (.int .i64 ((F.idxOf ⟨v,lo,hi⟩:Int)+2))) else none:=by
 have key:∀(m:Nat),m≤F.length→cK (atM (F.take m)) [(v:Int),(lo:Int),(hi:Int)]=if(⟨v,lo,hi⟩:Fo)∈F.take m then some (.val (.int .i64 (((F.take m).idxOf ⟨v,lo,hi⟩:Int)+2))) else none:=by
  intro m
  induction m with
  |zero=>intro _;simp[atM,cK]
  |succ m ih=>
   intro hm
   have ih:=ih (by omega)
   rw[take_s (by omega)]
   generalize hf:F.getD m default=f
   obtain⟨fv,fl,fh⟩:=f
   have hml:(F.take m).length=m:=by simp;omega
   by_cases h:(⟨v,lo,hi⟩:Fo)∈F.take m
   ·rw[if_pos h] at ih
    rw[if_pos (List.mem_append_left _ h),ED,NZ ih,List.idxOf_append,if_pos h]
   ·rw[if_neg h] at ih
    rw[ED,Sq ih]
    by_cases e:(⟨v,lo,hi⟩:Fo)=⟨fv,fl,fh⟩
    ·rw[if_pos (List.mem_append_right _ (by rw[e];simp)),List.idxOf_append,if_neg h,e]
     cases e
     simp[cK,hml]
    ·rw[if_neg (fun hx=>by
      rcases List.mem_append.1 hx with hx|hx
      ·exact h hx
      ·exact e (List.mem_singleton.1 hx))]
     simp only[cK]
     rw[if_neg (fun hx=>e ?_)]
     simp only[List.cons.injEq,and_true] at hx
     simp only[Fo.mk.injEq]
     omega
 have:=key F.length (Nat.le_refl _)
 rwa [List.take_length] at this
theorem Ww(h:(⟨v,lo,hi⟩:Fo)∈F):cK (atM F) [(v:Int),(lo:Int),(hi:Int)]=some (.val (.int .i64 ((F.idxOf ⟨v,lo,hi⟩:Int)+2))):=by rw[Im,if_pos h]
theorem Io(h:¬(⟨v,lo,hi⟩:Fo)∈F):cK (atM F) [(v:Int),(lo:Int),(hi:Int)]=none:=by rw[Im,if_neg h]
theorem aca(h:¬(⟨v,lo,hi⟩:Fo)∈F):mM (atM F) [(v:Int),(lo:Int),(hi:Int)] (.val (.int .i64 ((F.length:Int)+2)))=atM (F++[⟨v,lo,hi⟩]):=by rw[kU _ _ _ (Io h),ED]
theorem atM_pv:PV (atM F):=fun x hx=>by
 obtain⟨k,_,rfl⟩:=List.mem_map.1 hx
 exact⟨_,rfl⟩
theorem acb{τ:Nat→Nat}:((atM F).map fun x=>(x.1,ren τ x.2))=atM F:=atM_pv.id fun v=>by simp[ren]
theorem acd{st:St} {σ:List Nat} {fz:Bool} {j:Nat}:((atM F).map fun x=>(x.1,toA st σ fz (j+1) x.2))=atM F:=atM_pv.id fun v=>by simp[toA]
theorem ace{j:Nat}:(∀x∈atM F,bnd j x.2)=True:=atM_pv.all fun v=>by simp[bnd]
theorem Sr:(∀x∈atM F,noImm x.2)=True:=atM_pv.all fun v=>by simp[noImm]
attribute [push_cast] acb acd ace Sr
theorem P7:ACall Tryz.prog 111 [] [] 0 (.pt 0 0) [.cells [.isl true [] 0,.mp 1] 168,.map true 3 []]:=by
 refine ak Tryz.func111 Tryz.ntmps111 rfl ?_
 repeat' (first|refine zqN ?_|refine aK ?_|refine aL ?_|(refine aM ?_ ?_<;>intro hc<;>try exact zqM))
 all_goals((refine Ends.mk2 zqI [1,0] ?_;simp-dsimp(disch:=try exact vD) only[push_cast,simprocAttr,Tryz.f111];try exact zqF))
theorem P8:ACall Tryz.prog 113 [.val (.bool b)] [] 0 (.val (.int .i64 (if b=true then 1 else 0))) []:=by
 cases b
 all_goals(refine ak Tryz.func113 Tryz.ntmps113 rfl ?_)
 all_goals repeat' (first|refine zqN ?_|refine aK ?_|refine aL ?_|(refine aM ?_ ?_<;>intro hc<;>try exact zqM))
 all_goals((refine Ends.mk2 zqI [] ?_;simp-dsimp(disch:=try exact vD) only[push_cast,simprocAttr,Tryz.f113];try exact zqF))
theorem acf:mM [] [(v:Int),(lo:Int),(hi:Int)] (.val (.int .i64 2))=atM [⟨v,lo,hi⟩]:=by
 rw[kU _ _ _ rfl,List.nil_append];rfl
theorem ahM:[AV.val (.int .i64 (v:Int)),AV.val (.int .i64 (lo:Int)),AV.val (.int .i64 (hi:Int))]=cR [(⟨v,lo,hi⟩:Fo)]:=by rw[kV,nX,List.append_nil];rfl
abbrev bS(F:List Fo)(n:Nat):List aD:=[.cells [.sl 2 0 n 3,.mp 1] 168,.map true 3 (atM F),.cells (cR F) 114]
theorem Wy(h:¬lo=hi):ACall Tryz.prog 116 [.pt 0 0,.val (.int .i64 v),.val (.int .i64 lo),.val (.int .i64 hi)] b0 2 (.val (.int .i64 2)) (bS [⟨v,lo,hi⟩] 1):=by
 unfold b0 bS
 refine ak Tryz.func116 Tryz.ntmps116 rfl ?_
 have zx1:= @h;have zx2:=aC;have zx3:=aC;repeat' (first|refine zqN ?_|refine bM ?_|refine jT ?_|refine jU ?_|refine jV ?_|refine bO ?_|(refine bP ?_ ?_<;>intro hc<;>try exact zqM)|refine zqR 4 [⟨0,[],[26],[],[],0⟩,⟨1,[0],[26],[],[],0⟩,⟨2,[0,1],[26],[],[],0⟩,⟨3,[0,1,2],[26],[],[],0⟩,⟨4,[],[22,23,24,25],[],[],0⟩,⟨5,[0,1,2,3,4],[],[],[],0⟩,⟨6,[0,1,2,3,4,5],[],[],[],0⟩,⟨7,[0,1,2,3,4,5,6],[29],[],[],0⟩,⟨8,[0,1,2,3,4,5,6],[10,28],[],[],0⟩,⟨9,[0,1,2,3,4,5,6,7],[29],[],[],0⟩,⟨10,[0,1,2,3,4,5,6,7,8,9],[],[],[],0⟩] ?_|refine zqR 7 [⟨0,[],[33,34,35,36,37,38,39],[2],[],0⟩,⟨1,[],[32,37,38],[],[],0⟩,⟨2,[1],[32,37,38],[],[],0⟩,⟨3,[1,2],[32,37,38],[],[],0⟩,⟨4,[1,2,3],[32,37,38],[],[],0⟩,⟨5,[],[32,33,34,35,36],[],[],0⟩,⟨6,[5],[32,33,34,35,36],[],[],1⟩,⟨7,[1,2,3,4,5,6],[32],[],[2],1⟩,⟨8,[0,1,2,3,4,5,6,7],[],[],[],0⟩,⟨9,[0,1,2,3,4,5,6,7,8],[],[],[],0⟩,⟨10,[0,1,2,3,4,5,6,7,8,9],[],[],[2],0⟩] ?_|refine zqR 9 [⟨0,[],[52,53],[],[],0⟩,⟨1,[0],[52,53],[],[],0⟩,⟨2,[0,1],[52,53],[],[],0⟩,⟨3,[0,1,2],[52,53],[],[],0⟩,⟨4,[],[48,49,50,51,53],[],[],0⟩,⟨5,[],[48,49,50,51,52],[],[],0⟩,⟨6,[0,1,2,3,4,5],[],[],[2],0⟩] ?_|refine zqD ?_|fail)
 all_goals first
  |((refine Ends.mk2 zqI [0,1,4] ?_;simp-dsimp(disch:=try exact vD) only[push_cast,simprocAttr,Tryz.f116,acf,ahM];try exact zqF);done)
  |skip
theorem Bb:ACall Tryz.prog 116 [.pt 0 0,.val (.int .i64 v),.val (.int .i64 lo),.val (.int .i64 lo)] b0 2 (.val (.int .i64 lo)) b0:=by
 unfold b0
 refine ak Tryz.func116 Tryz.ntmps116 rfl ?_
 repeat' (first|refine zqN ?_|refine aK ?_|refine iy ?_|refine iA ?_|refine iB ?_|refine aL ?_|(refine aM ?_ ?_<;>intro hc<;>try exact zqM)|refine zqR 4 [⟨0,[],[26],[],[],0⟩,⟨1,[0],[26],[],[],0⟩,⟨2,[0,1],[26],[],[],0⟩,⟨3,[0,1,2],[26],[],[],0⟩,⟨4,[],[22,23,24,25],[],[],0⟩,⟨5,[0,1,2,3,4],[],[],[],0⟩,⟨6,[0,1,2,3,4,5],[],[],[],0⟩,⟨7,[0,1,2,3,4,5,6],[29],[],[],0⟩,⟨8,[0,1,2,3,4,5,6],[10,28],[],[],0⟩,⟨9,[0,1,2,3,4,5,6,7],[29],[],[],0⟩,⟨10,[0,1,2,3,4,5,6,7,8,9],[],[],[],0⟩] ?_|refine zqR 7 [⟨0,[],[33,34,35,36,37,38,39],[2],[],0⟩,⟨1,[],[32,37,38],[],[],0⟩,⟨2,[1],[32,37,38],[],[],0⟩,⟨3,[1,2],[32,37,38],[],[],0⟩,⟨4,[1,2,3],[32,37,38],[],[],0⟩,⟨5,[],[32,33,34,35,36],[],[],0⟩,⟨6,[5],[32,33,34,35,36],[],[],1⟩,⟨7,[1,2,3,4,5,6],[32],[],[2],1⟩,⟨8,[0,1,2,3,4,5,6,7],[],[],[],0⟩,⟨9,[0,1,2,3,4,5,6,7,8],[],[],[],0⟩,⟨10,[0,1,2,3,4,5,6,7,8,9],[],[],[2],0⟩] ?_|refine zqR 9 [⟨0,[],[52,53],[],[],0⟩,⟨1,[0],[52,53],[],[],0⟩,⟨2,[0,1],[52,53],[],[],0⟩,⟨3,[0,1,2],[52,53],[],[],0⟩,⟨4,[],[48,49,50,51,53],[],[],0⟩,⟨5,[],[48,49,50,51,52],[],[],0⟩,⟨6,[0,1,2,3,4,5],[],[],[2],0⟩] ?_|refine zqD ?_|fail)
 all_goals first
  |((refine Ends.mk2 zqI [0,1] ?_;simp-dsimp(disch:=try exact vD) only[push_cast,simprocAttr,Tryz.f116];try exact zqF);done)
  |skip
theorem acg:ACall Tryz.prog 116 [.pt 0 0,.val (.int .i64 v),.val (.int .i64 lo),.val (.int .i64 lo)] (bS F n) 2 (.val (.int .i64 lo)) (bS F n):=by
 unfold bS
 refine ak Tryz.func116 Tryz.ntmps116 rfl ?_
 repeat' (first|refine zqN ?_|refine aK ?_|refine iy ?_|refine iA ?_|refine iB ?_|refine aL ?_|(refine aM ?_ ?_<;>intro hc<;>try exact zqM)|refine zqR 4 [⟨0,[],[26],[],[],0⟩,⟨1,[0],[26],[],[],0⟩,⟨2,[0,1],[26],[],[],0⟩,⟨3,[0,1,2],[26],[],[],0⟩,⟨4,[],[22,23,24,25],[],[],0⟩,⟨5,[0,1,2,3,4],[],[],[],0⟩,⟨6,[0,1,2,3,4,5],[],[],[],0⟩,⟨7,[0,1,2,3,4,5,6],[29],[],[],0⟩,⟨8,[0,1,2,3,4,5,6],[10,28],[],[],0⟩,⟨9,[0,1,2,3,4,5,6,7],[29],[],[],0⟩,⟨10,[0,1,2,3,4,5,6,7,8,9],[],[],[],0⟩] ?_|refine zqR 7 [⟨0,[],[33,34,35,36,37,38,39],[2],[],0⟩,⟨1,[],[32,37,38],[],[],0⟩,⟨2,[1],[32,37,38],[],[],0⟩,⟨3,[1,2],[32,37,38],[],[],0⟩,⟨4,[1,2,3],[32,37,38],[],[],0⟩,⟨5,[],[32,33,34,35,36],[],[],0⟩,⟨6,[5],[32,33,34,35,36],[],[],1⟩,⟨7,[1,2,3,4,5,6],[32],[],[2],1⟩,⟨8,[0,1,2,3,4,5,6,7],[],[],[],0⟩,⟨9,[0,1,2,3,4,5,6,7,8],[],[],[],0⟩,⟨10,[0,1,2,3,4,5,6,7,8,9],[],[],[2],0⟩] ?_|refine zqR 9 [⟨0,[],[52,53],[],[],0⟩,⟨1,[0],[52,53],[],[],0⟩,⟨2,[0,1],[52,53],[],[],0⟩,⟨3,[0,1,2],[52,53],[],[],0⟩,⟨4,[],[48,49,50,51,53],[],[],0⟩,⟨5,[],[48,49,50,51,52],[],[],0⟩,⟨6,[0,1,2,3,4,5],[],[],[2],0⟩] ?_|refine zqD ?_|fail)
 all_goals first
  |((refine Ends.mk2 zqI [0,1,2] ?_;simp-dsimp(disch:=try exact vD) only[push_cast,simprocAttr,Tryz.f116];try exact zqF);done)
  |skip
theorem Wz(h:¬lo=hi)(hm:(⟨v,lo,hi⟩:Fo)∈F):ACall Tryz.prog 116 [.pt 0 0,.val (.int .i64 v),.val (.int .i64 lo),.val (.int .i64 hi)] (bS F n) 2 (.val (.int .i64 ((F.idxOf ⟨v,lo,hi⟩:Int)+2))) (bS F n):=by
 have zx2:=Ww hm
 unfold bS
 refine ak Tryz.func116 Tryz.ntmps116 rfl ?_
 have zx1:= @h;have zx3:=aC;repeat' (first|refine zqN ?_|refine bM ?_|refine jT ?_|refine jU ?_|refine jV ?_|refine bO ?_|(refine bP ?_ ?_<;>intro hc<;>try exact zqM)|refine zqR 4 [⟨0,[],[26],[],[],0⟩,⟨1,[0],[26],[],[],0⟩,⟨2,[0,1],[26],[],[],0⟩,⟨3,[0,1,2],[26],[],[],0⟩,⟨4,[],[22,23,24,25],[],[],0⟩,⟨5,[0,1,2,3,4],[],[],[],0⟩,⟨6,[0,1,2,3,4,5],[],[],[],0⟩,⟨7,[0,1,2,3,4,5,6],[29],[],[],0⟩,⟨8,[0,1,2,3,4,5,6],[10,28],[],[],0⟩,⟨9,[0,1,2,3,4,5,6,7],[29],[],[],0⟩,⟨10,[0,1,2,3,4,5,6,7,8,9],[],[],[],0⟩] ?_|refine zqR 7 [⟨0,[],[33,34,35,36,37,38,39],[2],[],0⟩,⟨1,[],[32,37,38],[],[],0⟩,⟨2,[1],[32,37,38],[],[],0⟩,⟨3,[1,2],[32,37,38],[],[],0⟩,⟨4,[1,2,3],[32,37,38],[],[],0⟩,⟨5,[],[32,33,34,35,36],[],[],0⟩,⟨6,[5],[32,33,34,35,36],[],[],1⟩,⟨7,[1,2,3,4,5,6],[32],[],[2],1⟩,⟨8,[0,1,2,3,4,5,6,7],[],[],[],0⟩,⟨9,[0,1,2,3,4,5,6,7,8],[],[],[],0⟩,⟨10,[0,1,2,3,4,5,6,7,8,9],[],[],[2],0⟩] ?_|refine zqR 9 [⟨0,[],[52,53],[],[],0⟩,⟨1,[0],[52,53],[],[],0⟩,⟨2,[0,1],[52,53],[],[],0⟩,⟨3,[0,1,2],[52,53],[],[],0⟩,⟨4,[],[48,49,50,51,53],[],[],0⟩,⟨5,[],[48,49,50,51,52],[],[],0⟩,⟨6,[0,1,2,3,4,5],[],[],[2],0⟩] ?_|refine zqD ?_|fail)
 all_goals first
  |((refine Ends.mk2 zqI [0,1,2] ?_;simp-dsimp(disch:=try exact vD) only[push_cast,simprocAttr,Tryz.f116,zx2];try exact zqF);done)
  |skip
theorem WA(h:¬lo=hi)(hm:¬(⟨v,lo,hi⟩:Fo)∈F)(hn:F.length=n)(hp:0<n)(hlt:n<2^40):ACall Tryz.prog 116 [.pt 0 0,.val (.int .i64 v),.val (.int .i64 lo),.val (.int .i64 hi)] (bS F n) 2 (.val (.int .i64 ((n:Int)+2))) (bS (F++[⟨v,lo,hi⟩]) (n+1)):=by
 have zx2:=Io hm
 have hpo:=aca hm
 rw[hn] at hpo
 unfold bS
 refine ak Tryz.func116 Tryz.ntmps116 rfl ?_
 have zx1:= @h;have zx3:=aC;repeat' (first|refine zqN ?_|refine bM ?_|refine jT ?_|refine jU ?_|refine jV ?_|refine bO ?_|(refine bP ?_ ?_<;>intro hc<;>try exact zqM)|refine zqR 4 [⟨0,[],[26],[],[],0⟩,⟨1,[0],[26],[],[],0⟩,⟨2,[0,1],[26],[],[],0⟩,⟨3,[0,1,2],[26],[],[],0⟩,⟨4,[],[22,23,24,25],[],[],0⟩,⟨5,[0,1,2,3,4],[],[],[],0⟩,⟨6,[0,1,2,3,4,5],[],[],[],0⟩,⟨7,[0,1,2,3,4,5,6],[29],[],[],0⟩,⟨8,[0,1,2,3,4,5,6],[10,28],[],[],0⟩,⟨9,[0,1,2,3,4,5,6,7],[29],[],[],0⟩,⟨10,[0,1,2,3,4,5,6,7,8,9],[],[],[],0⟩] ?_|refine zqR 7 [⟨0,[],[33,34,35,36,37,38,39],[2],[],0⟩,⟨1,[],[32,37,38],[],[],0⟩,⟨2,[1],[32,37,38],[],[],0⟩,⟨3,[1,2],[32,37,38],[],[],0⟩,⟨4,[1,2,3],[32,37,38],[],[],0⟩,⟨5,[],[32,33,34,35,36],[],[],0⟩,⟨6,[5],[32,33,34,35,36],[],[],1⟩,⟨7,[1,2,3,4,5,6],[32],[],[2],1⟩,⟨8,[0,1,2,3,4,5,6,7],[],[],[],0⟩,⟨9,[0,1,2,3,4,5,6,7,8],[],[],[],0⟩,⟨10,[0,1,2,3,4,5,6,7,8,9],[],[],[2],0⟩] ?_|refine zqR 9 [⟨0,[],[52,53],[],[],0⟩,⟨1,[0],[52,53],[],[],0⟩,⟨2,[0,1],[52,53],[],[],0⟩,⟨3,[0,1,2],[52,53],[],[],0⟩,⟨4,[],[48,49,50,51,53],[],[],0⟩,⟨5,[],[48,49,50,51,52],[],[],0⟩,⟨6,[0,1,2,3,4,5],[],[],[2],0⟩] ?_|refine zqD ?_|fail)
 all_goals first
  |((refine Ends.mk2 zqI [0,1,5] ?_;simp-dsimp(disch:=try exact vD) only[push_cast,simprocAttr,Tryz.f116,zx2,Wx,hpo,P9];try exact zqF);done)
  |skip
end
section
open Go Go.Sy Go.Dg
variable {F F1 F2 G:List Fo} {v lo hi n k k1 k2 k' i m s a b r:Nat} {A:FuncId} [mW Tryz.prog A]{c1:List AV} {tab:Nat→Bool}
abbrev gA(n:Nat)(A:FuncId)(c1:List AV)(i s:Nat):List AV:=[.val (.int .i64 i),.val (.int .u16 (U s)),.ipt [.val (.int .i64 n)] 0,.ipt [.fn A [.ipt c1 0]] 0,.pt 0 0,.pt 1 0]
def bF(F:List Fo):List aD:=if F=[] then b0 else bS F F.length
theorem N7(h:¬F=[]):bF F=bS F F.length:=if_neg h
theorem WB(h:¬F=[]):¬(mkF F v lo hi).1=[]:=by
 unfold mkF
 split
 ·exact h
 ·split
  ·exact h
  ·simp
theorem ach(hl:F.length<2^40):ACall Tryz.prog 116 [.pt 0 0,.val (.int .i64 v),.val (.int .i64 lo),.val (.int .i64 hi)] (bF F) 2 (.val (.int .i64 ((mkF F v lo hi).2:Nat))) (bF (mkF F v lo hi).1):=by
 by_cases e:lo=hi
 ·subst e
  rw[qX]
  by_cases hF:F=[]
  ·subst hF;exact Bb
  ·rw[N7 hF];exact acg
 ·by_cases hF:F=[]
  ·subst hF
   rw[tu e (by simp)]
   exact Wy e
  ·have hp:0<F.length:=List.length_pos_iff.2 hF
   by_cases hm:(⟨v,lo,hi⟩:Fo)∈F
   ·rw[Ez e hm,N7 hF]
    have:=Wz (n:=F.length) e hm
    dsimp only
    rw[Int.natCast_add];exact this
   ·rw[tu e hm]
    have:=WA e hm rfl hp hl
    dsimp only
    rw[N7 hF,N7 (by simp),List.length_append,List.length_singleton,Int.natCast_add];exact this
end
section
open Go Go.Sy Go.Dg
variable {F F1 F2 G:List Fo} {v lo hi n k k1 k2 k' i m s a b r:Nat} {A:FuncId} [mW Tryz.prog A]{c1:List AV} {tab:Nat→Bool} {z:Bool}
theorem ahN:ACall Tryz.prog 117 [.pt 0 0,.val (.int .i64 n),.val (.int .i64 r)] b0 2 (.agg [.val (.int .i64 n),.isl true [] 0,.val (.int .i64 r)]) b0:=by
 unfold b0
 refine ak Tryz.func117 Tryz.ntmps117 rfl ?_
 repeat' (first|refine zqN ?_|refine aK ?_|refine aL ?_|(refine aM ?_ ?_<;>intro hc<;>try exact zqM))
 all_goals((refine Ends.mk2 zqI [0,1] ?_;simp-dsimp(disch:=try exact vD) only[push_cast,simprocAttr,Tryz.f117];try exact zqF))
theorem ahO:ACall Tryz.prog 117 [.pt 0 0,.val (.int .i64 n),.val (.int .i64 r)] (bS F k) 3 (.agg [.val (.int .i64 n),.sl 2 0 k 3,.val (.int .i64 r)]) (bS F k):=by
 unfold bS
 refine ak Tryz.func117 Tryz.ntmps117 rfl ?_
 repeat' (first|refine zqN ?_|refine aK ?_|refine aL ?_|(refine aM ?_ ?_<;>intro hc<;>try exact zqM))
 all_goals((refine Ends.mk2 zqI [0,1,2] ?_;simp-dsimp(disch:=try exact vD) only[push_cast,simprocAttr,Tryz.f117];try exact zqF))
end
end
end Go.Proofs.YtcbginhpibfgaaaGreatDoor
namespace Go.Dg
variable {F G D e A B:List Fo} {f:Fo} {n m i j k s t r u v w nx n1 l:Nat} {tab φ φ0 φ1:Nat→Bool}
variable {X:Type} [DecidableEq X]{Y:Ur X} {x:X}
def mgr(Y:Ur X):Nat→X→List Fo×List (X×Nat)→(List Fo×List (X×Nat))×Nat
 |0,_,S=>(S,0)
 |k+1,x,S=>match Y.term x with
  |some c=>(S,c)
  |none=>match iD S.2 x with
   |some w=>(S,w)
   |none=>(((mkF (mgr Y k (Y.k1 x) (mgr Y k (Y.k0 x) S).1).1.1 (Y.lev x) (mgr Y k (Y.k0 x) S).2 (mgr Y k (Y.k1 x) (mgr Y k (Y.k0 x) S).1).2).1,
     (mgr Y k (Y.k1 x) (mgr Y k (Y.k0 x) S).1).1.2++[(x,(mkF (mgr Y k (Y.k1 x) (mgr Y k (Y.k0 x) S).1).1.1 (Y.lev x) (mgr Y k (Y.k0 x) S).2 (mgr Y k (Y.k1 x) (mgr Y k (Y.k0 x) S).1).2).2)]),
     (mkF (mgr Y k (Y.k1 x) (mgr Y k (Y.k0 x) S).1).1.1 (Y.lev x) (mgr Y k (Y.k0 x) S).2 (mgr Y k (Y.k1 x) (mgr Y k (Y.k0 x) S).1).2).2)
theorem wI{S:List Fo×List (X×Nat)} {c:Nat}(h:Y.term x=some c):mgr Y (k+1) x S=(S,c):=by simp[mgr,h]
theorem Dr{S:List Fo×List (X×Nat)}(h:Y.term x=none)(h2:iD S.2 x=some w):mgr Y (k+1) x S=(S,w):=by simp[mgr,h,h2]
theorem Dt{S S1 S2:List Fo×List (X×Nat)} {a b:Nat}(h:Y.term x=none)(h2:iD S.2 x=none)(h3:mgr Y k (Y.k0 x) S=(S1,a))(h4:mgr Y k (Y.k1 x) S1=(S2,b)):
 mgr Y (k+1) x S=(((mkF S2.1 (Y.lev x) a b).1,S2.2++[(x,(mkF S2.1 (Y.lev x) a b).2)]),(mkF S2.1 (Y.lev x) a b).2):=by
 simp[mgr,h,h2,h3,h4]
theorem N8{Ok:X→Prop}(hY:uQ Y n Ok):∀(k:Nat) (x:X) (F:List Fo) (K:List (X×Nat)),Ok x→Y.rk x<k→Good n F→Kok Y n F K→
 BF n (Y.φ x) (Y.lev x) F (mgr Y k x (F,K)).1.1 (mgr Y k x (F,K)).2∧Kok Y n (mgr Y k x (F,K)).1.1 (mgr Y k x (F,K)).1.2:=by
 intro k
 induction k with
 |zero=>intro x F K _ h;omega
 |succ k ih=>
  intro x F K hx hk hg hK
  cases ht:Y.term x with
  |some c=>
   rw[wI ht]
   obtain⟨h1,h2,h3⟩:=hY.t1 x c hx ht
   refine⟨?_,hK⟩
   have hb:=ab9 (b:=decide (c=1)) hg h3
   have ec:(if decide (c=1)=true then 1 else 0)=c:=by
    have:c=0∨c=1:=by omega
    rcases this with rfl|rfl<;>rfl
   rw[ec] at hb
   exact hb.mono h2
  |none=>
   cases hl:iD K x with
   |some w=>
    rw[Dr ht hl]
    exact⟨Wu hg (hK _ (look_mem hl)),hK⟩
   |none=>
    obtain⟨o0,r0,l0⟩:=hY.o0 x hx ht
    obtain⟨o1,r1,l1⟩:=hY.o1 x hx ht
    have i0:=ih (Y.k0 x) F K o0 (by omega) hg hK
    generalize e0:mgr Y k (Y.k0 x) (F,K)=R0 at i0
    obtain⟨⟨F1,K1⟩,a⟩:=R0
    dsimp only at i0
    obtain⟨g1,⟨x1,p1⟩,_⟩:=i0.1.hit hg (hY.le o0)
    have i1:=ih (Y.k1 x) F1 K1 o1 (by omega) g1 i0.2
    generalize e1:mgr Y k (Y.k1 x) (F1,K1)=R1 at i1
    obtain⟨⟨F2,K2⟩,b⟩:=R1
    dsimp only at i1
    obtain⟨g2,⟨x2,p2⟩,_⟩:=i1.1.hit g1 (hY.le o1)
    rw[Dt ht hl e0 e1]
    have hv:=hY.lv x hx ht
    have hb:=ab8 hg hv (i0.1.mono l0) (i1.1.mono l1) (hY.f0 x hx ht) (hY.f1 x hx ht)
    refine⟨hb,?_⟩
    obtain⟨g3,_,h3⟩:=hb.hit hg (Nat.le_of_lt hv)
    dsimp only
    have hpre:∃e,(mkF F2 (Y.lev x) a b).1=F2++e:=by
     unfold mkF
     split
     ·exact⟨[],by simp⟩
     ·split
      ·exact⟨[],by simp⟩
      ·exact⟨_,rfl⟩
    intro p hp
    rcases List.mem_append.1 hp with h|h
    ·obtain⟨e,he⟩:=hpre
     rw[he];exact(i1.2 p h).pre g2
    ·rw[List.mem_singleton.1 h];exact h3
theorem aci{Ok:X→Prop}(hY:uQ Y n Ok)(hx:Ok x)(hk:Y.rk x<k):fC n (Y.φ x)=((mgr Y k x ([],[])).1.1,(mgr Y k x ([],[])).2):=
 ahL ((N8 hY k x [] [] hx hk Good.nil (fun p hp=>by cases hp)).1.mono (Nat.zero_le _))
def kX(A:List Fo)(n r by':Nat):Nat:=if aP n A r≠by'∨r<2 then r else(A.getD (r-2) default).lo
def kY(A:List Fo)(n r by':Nat):Nat:=if aP n A r≠by'∨r<2 then r else(A.getD (r-2) default).hi
def by2(A B:List Fo)(n:Nat)(x:Nat×Nat):Nat:=min (aP n A x.1) (aP n B x.2)
def fV(op:Bool→Bool→Bool)(A B:List Fo)(n:Nat):Ur (Nat×Nat):=
 ⟨fun x=>if x.1<2∧x.2<2 then some (if op (decide (x.1=1)) (decide (x.2=1))=true then 1 else 0) else none,by2 A B n,
  fun x=>(kX A n x.1 (by2 A B n x),kX B n x.2 (by2 A B n x)),fun x=>(kY A n x.1 (by2 A B n x),kY B n x.2 (by2 A B n x)),fun x=>x.1+x.2,
  fun x t=>op (aG A t x.1) (aG B t x.2)⟩
theorem WC(hA:Good n A)(hr:r<A.length+2)(h2:¬r<2):aP n A r<n:=by
 unfold aP
 rw[if_neg h2]
 exact(hA.ok _ (by omega)).v
structure ZO(A:List Fo)(n r b:Nat):Prop where
 lt0:kX A n r b<A.length+2∧kX A n r b≤r∧b<aP n A (kX A n r b)
 lt1:kY A n r b<A.length+2∧kY A n r b≤r∧b<aP n A (kY A n r b)
 ev:aP n A r=b→kX A n r b<r∧kY A n r b<r
 v0:∀t,t.testBit b=false→aG A t r=aG A t (kX A n r b)
 v1:∀t,t.testBit b=true→aG A t r=aG A t (kY A n r b)
theorem WE(hA:Good n A)(hr:r<A.length+2){b:Nat}(hb:b≤aP n A r)(hbn:b<n):ZO A n r b:=by
 by_cases h:aP n A r≠b∨r<2
 ·have e0:kX A n r b=r:=by unfold kX;rw[if_pos h]
  have e1:kY A n r b=r:=by unfold kY;rw[if_pos h]
  have hs:b<aP n A r:=by
   rcases h with h|h
   ·omega
   ·unfold aP;rw[if_pos h];exact hbn
  exact⟨by rw[e0];exact⟨hr,Nat.le_refl _,hs⟩,by rw[e1];exact⟨hr,Nat.le_refl _,hs⟩,fun h=>by omega,fun t _=>by rw[e0],fun t _=>by rw[e1]⟩
 ·have h1:aP n A r=b:=by
   rcases Nat.lt_or_ge r 2 with h2|h2
   ·exact absurd (.inr h2) h
   ·exact Decidable.not_not.1 fun h3=>h (.inl h3)
  have h2:¬r<2:=fun h2=>h (.inr h2)
  have e0:kX A n r b=(A.getD (r-2) default).lo:=by unfold kX;rw[if_neg h]
  have e1:kY A n r b=(A.getD (r-2) default).hi:=by unfold kY;rw[if_neg h]
  have ho:=hA.ok (r-2) (by omega)
  have hv:(A.getD (r-2) default).v=b:=by unfold aP at h1;rw[if_neg h2] at h1;exact h1
  have hl:=ho.lo;have hh:=ho.hi;have hsl:=ho.sl;have hsh:=ho.sh
  rw[hv] at hsl hsh
  exact⟨by rw[e0];exact⟨by omega,by omega,hsl⟩,by rw[e1];exact⟨by omega,by omega,hsh⟩,fun _=>⟨by omega,by omega⟩,
   fun t ht=>by rw[jG hA h2 hr,hv,ht,e0];simp,fun t ht=>by rw[jG hA h2 hr,hv,ht,e1];simp⟩
theorem Ip{op:Bool→Bool→Bool}(hA:Good n A)(hB:Good n B):uQ (fV op A B n) n (fun x=>x.1<A.length+2∧x.2<B.length+2):=by
 have hge:∀x,(fV op A B n).term x=none→¬(x.1<2∧x.2<2):=fun x h hc=>by simp[fV,hc] at h
 have hlv:∀x,x.1<A.length+2∧x.2<B.length+2→(fV op A B n).term x=none→by2 A B n x<n:=fun x hx h=>by
  have h2:=hge x h
  unfold by2
  rcases Nat.lt_or_ge x.1 2 with h1|h1
  ·have:=WC hB hx.2 (by omega);omega
  ·have:=WC hA hx.1 (by omega);omega
 have hka:∀x,x.1<A.length+2∧x.2<B.length+2→(fV op A B n).term x=none→ZO A n x.1 (by2 A B n x):=fun x hx h=>WE hA hx.1 (by unfold by2;omega) (hlv x hx h)
 have hkb:∀x,x.1<A.length+2∧x.2<B.length+2→(fV op A B n).term x=none→ZO B n x.2 (by2 A B n x):=fun x hx h=>WE hB hx.2 (by unfold by2;omega) (hlv x hx h)
 refine⟨fun x c hx h=>?_,fun x hx h=>hlv x hx h,fun x hx h=>?_,fun x hx h=>?_,fun x hx h t ht hb=>?_,fun x hx h t ht hb=>?_⟩
 ·by_cases h2:x.1<2∧x.2<2
  ·have hc:(if op (decide (x.1=1)) (decide (x.2=1))=true then 1 else 0)=c:=by simpa[fV,h2] using h
   refine⟨by rw[←hc];split<;>omega,by show by2 A B n x≤n;unfold by2;have:=srv_le hA hx.1;omega,fun t ht=>?_⟩
   show op (aG A t x.1) (aG B t x.2)=_
   rw[mq h2.1,mq h2.2,←hc]
   cases op (decide (x.1=1)) (decide (x.2=1))<;>rfl
  ·simp[fV,h2] at h
 ·have ha:=hka x hx h;have hb:=hkb x hx h
  refine⟨⟨ha.lt0.1,hb.lt0.1⟩,?_,?_⟩
  ·show kX A n x.1 (by2 A B n x)+kX B n x.2 (by2 A B n x)<x.1+x.2
   have h1:=ha.lt0.2.1;have h2:=hb.lt0.2.1
   have:aP n A x.1=by2 A B n x∨aP n B x.2=by2 A B n x:=by unfold by2;omega
   rcases this with e|e
   ·have:=(ha.ev e).1;omega
   ·have:=(hb.ev e).1;omega
  ·show by2 A B n x<min (aP n A (kX A n x.1 (by2 A B n x))) (aP n B (kX B n x.2 (by2 A B n x)))
   have h1:=ha.lt0.2.2;have h2:=hb.lt0.2.2;omega
 ·have ha:=hka x hx h;have hb:=hkb x hx h
  refine⟨⟨ha.lt1.1,hb.lt1.1⟩,?_,?_⟩
  ·show kY A n x.1 (by2 A B n x)+kY B n x.2 (by2 A B n x)<x.1+x.2
   have h1:=ha.lt1.2.1;have h2:=hb.lt1.2.1
   have:aP n A x.1=by2 A B n x∨aP n B x.2=by2 A B n x:=by unfold by2;omega
   rcases this with e|e
   ·have:=(ha.ev e).2;omega
   ·have:=(hb.ev e).2;omega
  ·show by2 A B n x<min (aP n A (kY A n x.1 (by2 A B n x))) (aP n B (kY B n x.2 (by2 A B n x)))
   have h1:=ha.lt1.2.2;have h2:=hb.lt1.2.2;omega
 ·show op (aG A t x.1) (aG B t x.2)=op (aG A t (kX A n x.1 (by2 A B n x))) (aG B t (kX B n x.2 (by2 A B n x)))
  rw[(hka x hx h).v0 t hb,(hkb x hx h).v0 t hb]
 ·show op (aG A t x.1) (aG B t x.2)=op (aG A t (kY A n x.1 (by2 A B n x))) (aG B t (kY B n x.2 (by2 A B n x)))
  rw[(hka x hx h).v1 t hb,(hkb x hx h).v1 t hb]
end Go.Dg
namespace Go.Dg
variable {F G D e A B:List Fo} {f:Fo} {n m i j k s t r u v w nx n1 l:Nat} {tab φ φ0 φ1:Nat→Bool}
theorem Qc(h:F.length≤k):(F.getD k default).lo=0∧(F.getD k default).hi=0:=by
 rw[List.getD_eq_getElem?_getD,List.getElem?_eq_none h];exact⟨rfl,rfl⟩
theorem EE(hb:Bnd F):∀(k m r:Nat),r≤k→r≤m→qY F t k r=qY F t m r:=by
 intro k
 induction k with
 |zero=>intro m r hk hm;rw[iY (by omega),iY (by omega)]
 |succ k ih=>
  intro m r hk hm
  by_cases h2:r<2
  ·rw[iY h2,iY h2]
  ·cases m with
   |zero=>omega
   |succ m=>
    have hl:(F.getD (r-2) default).lo<r∧(F.getD (r-2) default).hi<r:=by
     by_cases hr:r-2<F.length
     ·have:=hb (r-2) hr;omega
     ·have:=Qc (F:=F) (k:=r-2) (by omega);omega
    simp only[qY,if_neg h2]
    rw[ih m _ (by omega) (by omega),ih m _ (by omega) (by omega)]
theorem Lr(hb:Bnd F)(h2:¬r<2)(hr:r<F.length+2):aG F t r=if t.testBit (F.getD (r-2) default).v=true then aG F t (F.getD (r-2) default).hi else aG F t (F.getD (r-2) default).lo:=by
 have ho:=hb (r-2) (by omega)
 unfold aG
 obtain⟨k,rfl⟩:∃k,r=k+1:=⟨r-1,by omega⟩
 rw[qY,if_neg h2,EE hb k _ _ (by omega) (Nat.le_refl _),EE hb k _ _ (by omega) (Nat.le_refl _)]
theorem Ls(hb:Bnd F)(hr:F.length+2≤r):aG F t r=false:=by
 unfold aG
 obtain⟨k,rfl⟩:∃k,r=k+1:=⟨r-1,by omega⟩
 have:=Qc (F:=F) (k:=k+1-2) (by omega)
 rw[qY,if_neg (by omega),this.1,this.2,iY (by decide)]
 split<;>rfl
def lT(F:List Fo)(r m:Nat):List Bool:=(List.range m).map fun t=>aG F t r
theorem gU:(lT F r m).length=m:=by simp[lT]
theorem ahQ:lT F r (m+1)=lT F r m++[aG F m r]:=by simp[lT,List.range_succ]
theorem ack(h:t<m):(lT F r m).getD t false=aG F t r:=by
 unfold lT
 rw[List.getD_eq_getElem?_getD,List.getElem?_map,List.getElem?_range h];rfl
theorem yA(h:m=2^n):kM n (lT F r m)=fC n fun t=>aG F t r:=EC fun t ht=>ack (by omega)
end Go.Dg
namespace Go.Proofs.YtcbginhpibfgaaaGreatDoor
section
open Go Go.Sy
attribute [local irreducible] AO AL AC OpT ACall Ends DGo bK Thn Blk Nxt
section
open Go Go.Sy Go.Dg
variable {N N':Nat} {F F1 F2 G:List Fo} {L L':List Fk} {v lo hi n k k1 k2 k' i m s t a b r:Nat} {p q p' q':Int} {z z':Bool} {x y:Fk}
theorem lU(x:Fk):aa.cells x=[.val (.int .i64 x.v),.val (.int .i64 x.lo),.val (.int .i64 x.hi)]:=rfl
def rgV(z:Bool)(n:Int)(L:List Fk)(r:Int):AV:= .agg [.val (.int .i64 n),.isl z (cR L) L.length,.val (.int .i64 r)]
theorem mP:dgV z n F r=rgV z n (F.map fk) r:=by unfold dgV rgV;rw[gV,List.length_map]
def acm(i:Nat)(L L':List Fk):Prop:=∀j,j<i→L.getD j default=L'.getD j default
def WG(z z':Bool)(p q:Int)(L L':List Fk)(N:Nat)(i:{i:Nat // i≤N∧acm i L L'}):St:=
 ⟨45,0,[(2,.pt 0 0),(3,.pt 1 0),(5,.val (.int .i64 i.val))],[(0,some (.cells [.val (.int .i64 p),.isl z (cR L) N,.val (.int .i64 q)] 29)),(1,some (.cells [.val (.int .i64 p),.isl z' (cR L') N,.val (.int .i64 q)] 29))]⟩
theorem ahR(h:acm i L L')(h2:L.getD i default=L'.getD i default):acm (i+1) L L':=fun j hj=>by
 by_cases e:j=i
 ·subst e;exact h2
 ·exact h j (by omega)
theorem WH(h:acm k L L')(hL:L.length=k)(hL':L'.length=k):L=L':=by
 apply List.ext_getElem (by omega)
 intro j h1 h2
 have:=h j (by omega)
 rw[List.getD_eq_getElem?_getD,List.getElem?_eq_getElem h1,List.getD_eq_getElem?_getD,List.getElem?_eq_getElem h2] at this
 exact this
theorem ahS:eqI [x.v,x.lo,x.hi] [y.v,y.lo,y.hi]=decide (x=y):=by
 rw[Eg]
 congr 1
 cases x;cases y;simp
theorem WI{N:Nat}(hL:L.length=N)(hL':L'.length=N)(hN:N<2^50):ACall Tryz.prog 82 [.agg [.val (.int .i64 p),.isl z (cR L) N,.val (.int .i64 q)],.agg [.val (.int .i64 p),.isl z' (cR L') N,.val (.int .i64 q)]] [] 0 (.val (.bool (decide (L=L')))) []:=by
 have zx1:=ae
 refine ak Tryz.func82 Tryz.ntmps82 rfl ?_
 have zx2:= @ahS;have zx3:= @lU;repeat' (first|(refine ai ?_;refine au [0,1] ([0,1].length) (WG z z' p q L L' N) (fun i=>N-i.val) (⟨0,by omega,fun j hj=>absurd hj (by omega)⟩) rfl (by unfold WG;exact eQ) ?_;(rintro⟨i,hi,he⟩;rcases Nat.lt_or_eq_of_le hi with hil|hil<;>first|(have ei:N=i:=hil.symm;subst ei;(simp-dsimp only[WG];refine zqS ?_))|(rcases Decidable.em (L.getD i default=L'.getD i default) with zx1|zx1<;>(simp-dsimp only[WG];refine zqS ?_))))|(refine ax ?_;refine Nxt.mk [0,1] (⟨i+1,by omega,ahR he zx1⟩) rfl (by unfold WG;exact eQ) zqO)|refine zqN ?_|refine bM ?_|refine bO ?_|(refine bP ?_ ?_<;>intro hc<;>try exact zqM)|refine zqR 6 [⟨0,[],[36,39,40,41,42,43],[],[],0⟩,⟨1,[0],[36,39,40,41,42,43],[],[],0⟩,⟨2,[],[34,35,39,40,41,42,43],[],[],0⟩,⟨3,[0,1,2],[39,40,41,42,43],[],[],0⟩,⟨4,[0,1,2,3],[39,40,41,42,43],[],[],0⟩,⟨5,[],[34,35,36,37,38,41],[],[],0⟩,⟨6,[5],[34,35,36,37,38,41],[],[],0⟩,⟨7,[],[34,35,36,37,38,39,40],[],[],0⟩,⟨8,[5,6,7],[34,35,36,37,38],[],[],0⟩,⟨9,[5,6,7,8],[34,35,36,37,38],[],[],0⟩,⟨10,[0,1,2,3,4,5,6,7,8,9],[],[],[],0⟩] ?_|refine zqD ?_|fail)
 all_goals first
  |(have e:L=L':=WH he hL hL';rw[decide_eq_true e];(refine Ends.mk2 zqI [] ?_;simp-dsimp(disch:=try exact vD) only[push_cast,simprocAttr,Tryz.f82];try exact zqF);done)
  |(have e:¬L=L':=(fun e=>zx1 (by rw[e]));rw[decide_eq_false e];(refine Ends.mk2 zqI [] ?_;simp-dsimp(disch:=try exact vD) only[push_cast,simprocAttr,Tryz.f82];try exact zqF);done)
  |skip
theorem Su{N N':Nat}(h:¬(p=p'∧q=q'∧N=N')):ACall Tryz.prog 82 [.agg [.val (.int .i64 p),.isl z (cR L) N,.val (.int .i64 q)],.agg [.val (.int .i64 p'),.isl z' (cR L') N',.val (.int .i64 q')]] [] 0 (.val (.bool false)) []:=by
 have zx1:=ae;have zx2:=ae;have zx3:=ae
 rcases Decidable.em (p=p') with zx1|zx1<;>rcases Decidable.em (q=q') with zx2|zx2<;>rcases Decidable.em (N=N') with zx3|zx3
 all_goals try(exact absurd (And.intro zx1 (And.intro zx2 zx3)) h)
 all_goals clear h
 all_goals(refine ak Tryz.func82 Tryz.ntmps82 rfl ?_)
 all_goals repeat' (first|refine zqN ?_|refine bM ?_|refine bO ?_|(refine bP ?_ ?_<;>intro hc<;>try exact zqM)|refine zqR 6 [⟨0,[],[36,39,40,41,42,43],[],[],0⟩,⟨1,[0],[36,39,40,41,42,43],[],[],0⟩,⟨2,[],[34,35,39,40,41,42,43],[],[],0⟩,⟨3,[0,1,2],[39,40,41,42,43],[],[],0⟩,⟨4,[0,1,2,3],[39,40,41,42,43],[],[],0⟩,⟨5,[],[34,35,36,37,38,41],[],[],0⟩,⟨6,[5],[34,35,36,37,38,41],[],[],0⟩,⟨7,[],[34,35,36,37,38,39,40],[],[],0⟩,⟨8,[5,6,7],[34,35,36,37,38],[],[],0⟩,⟨9,[5,6,7,8],[34,35,36,37,38],[],[],0⟩,⟨10,[0,1,2,3,4,5,6,7,8,9],[],[],[],0⟩] ?_|refine zqD ?_|fail)
 all_goals((refine Ends.mk2 zqI [] ?_;simp-dsimp(disch:=try exact vD) only[push_cast,simprocAttr,Tryz.f82];try exact zqF))
theorem EF(hL:L.length<2^50):ACall Tryz.prog 82 [rgV z p L q,rgV z' p' L' q'] [] 0 (.val (.bool (decide (p=p'∧q=q'∧L=L')))) []:=by
 unfold rgV
 by_cases h:p=p'∧q=q'∧L.length=L'.length
 ·obtain⟨rfl,rfl,h⟩:=h
  have:=WI (p:=p) (q:=q) (z:=z) (z':=z') (L:=L) (L':=L') (N:=L'.length) h rfl (by omega)
  rw[h]
  simpa using this
 ·have e:¬(p=p'∧q=q'∧L=L'):=fun e=>h ⟨e.1,e.2.1,by rw[e.2.2]⟩
  rw[decide_eq_false e]
  exact Su h
theorem N9(hL:L.length<2^50):ACall Tryz.prog 82 [rgV z p L q,rgV z' p L q] [] 0 (.val (.bool true)) []:=by
 have:=EF (z:=z) (z':=z') (p:=p) (p':=p) (q:=q) (q':=q) (L:=L) (L':=L) hL
 simpa using this
theorem acn(hn:n<16):ACall Tryz.prog 142 [.val (.int .u16 (U s)),.val (.int .i64 n)] [] 0 (.val (.bool (bit s n))) []:=by
 refine ak Tryz.func142 Tryz.ntmps142 rfl ?_
 repeat' (first|refine zqN ?_|refine aK ?_|refine aL ?_|(refine aM ?_ ?_<;>intro hc<;>try exact zqM))
 all_goals(refine Ends.mk2 zqI [] ?_;simp-dsimp(disch:=try exact vD) only[push_cast,simprocAttr,Tryz.f142];try exact zqF)
theorem WJ(h:s<65536):bit s n=s.testBit n:=by unfold bit;rw[Nat.mod_eq_of_lt h]
theorem ne12(x:Nat):((x:Int)+1+1=1)=False:=eq_false (by omega)
def vlI(z:Bool)(p q:Int)(F:List Fo)(N t:Nat)(v:Bool)(r:{r:Nat // aG F t r=v∧r<2^50}):St:=
 ⟨34,0,[(1,.val (.int .i64 r.val)),(2,.val (.int .u16 (U t))),(3,.pt 0 0)],[(0,some (.cells [.val (.int .i64 p),.isl z (cR F) N,.val (.int .i64 q)] 29))]⟩
theorem Lt(hb:Bnd F)(h16:∀k,k<F.length→(F.getD k default).v<16)(hN:F.length=N)(hN2:N<2^40)(hr:r<2^50)(ht:t<65536):ACall Tryz.prog 110 [.agg [.val (.int .i64 p),.isl z (cR F) N,.val (.int .i64 q)],.val (.int .i64 r),.val (.int .u16 (U t))] [] 0 (.val (.bool (aG F t r))) []:=by
 have zx1:=ae;have zx2:=ae
 generalize hv:aG F t r=v
 refine ak Tryz.func110 Tryz.ntmps110 rfl ?_
 have zx3:= @cz;have zx4:= @uG;have zx5:= @ne12;have zx6:=aC;repeat' (first|(refine ai ?_;refine au [0] ([0].length) (vlI z p q F N t v) (fun r=>r.val) (⟨r,hv,hr⟩) rfl (by unfold vlI;exact gY) ?_;(rintro⟨r1,hv1,hr1⟩;rcases Nat.lt_or_ge r1 2 with h2|h2<;>first|(have hh:2≤r1:=h2;obtain⟨k,rfl⟩:∃k,r1=k+2:=⟨r1-2,by omega⟩;have hbk:k<N→(F.getD k default).lo<k+2∧(F.getD k default).hi<k+2:=(fun h=>hb k (by omega));rcases Nat.lt_or_ge k N with h3|h3<;>rcases Bool.eq_false_or_eq_true (bit t (F.getD k default).v) with zx2|zx2<;>(try(replace hbk:=hbk h3))<;>(simp-dsimp only[vlI];refine zqS ?_))|(simp-dsimp only[vlI];refine zqS ?_)))|(refine ax ?_;refine Nxt.mk [0] (⟨(F.getD k default).hi,by rw[←hv1,Lr (r:=k+2) hb (by omega) (by omega),Nat.add_sub_cancel,←WJ ht,zx2];rfl,by omega⟩) rfl (by unfold vlI;exact gY) zqO)|(refine ax ?_;refine Nxt.mk [0] (⟨(F.getD k default).lo,by rw[←hv1,Lr (r:=k+2) hb (by omega) (by omega),Nat.add_sub_cancel,←WJ ht,zx2];rfl,by omega⟩) rfl (by unfold vlI;exact gY) zqO)|refine zqN ?_|refine gG (acn (s:=t) (n:=(F.getD k default).v) (h16 k (by omega))) ?_|refine kE ?_|refine kF ?_|(refine kG ?_ ?_<;>intro hc<;>try exact zqM))
 all_goals first
  |(have e:v=decide ((r1:Int)=1):=(by rw[←hv1,mq (by omega)];exact decide_eq_decide.2 ⟨fun h=>by omega,fun h=>by omega⟩);rw[e];(refine Ends.mk2 zqI [] ?_;simp-dsimp(disch:=try exact vD) only[push_cast,simprocAttr,Tryz.f110];try exact zqF);done)
  |(have e:v=false:=(by rw[←hv1];exact Ls hb (by omega));rw[e];(refine Ends.mk2 zqI [] ?_;simp-dsimp(disch:=try exact vD) only[push_cast,simprocAttr,Tryz.f110,ne12];try exact zqF);done)
  |skip
end
section
open Go Go.Sy Go.Dg
variable {N N' N1 N2 T:Nat} {F F1 F2 G:List Fo} {L L':List Fk} {v lo hi n k k1 k2 k' i m s t a b r:Nat} {p q p' q':Int} {z z':Bool} {x y:Fk}
theorem mr:cB (lT F r s)++[AV.val (.bool (aG F s r))]=cB (lT F r (s+1)):=by rw[ahQ];simp[cB]
theorem WN:(cB (lT F r s)).take s=cB (lT F r s):=List.take_of_length_le (by rw[cB_len,gU];exact Nat.le_refl _)
theorem Bc(hn:n≤16):IntKind.wrap .i64 (1*2^min n (IntKind.bits .i64))=((2^n:Nat):Int):=by
 have hp:2^n≤2^16:=Nat.pow_le_pow_right (by omega) hn
 rw[show min n (IntKind.bits .i64)=n from Nat.min_eq_left (by show n≤64;omega),Int.one_mul]
 have e:(2:Int)^n=((2^n:Nat):Int):=by norm_cast
 rw[e]
 generalize 2^n=T at hp
 exact K8 (by omega)
def rtI(z:Bool)(n:Nat)(F:List Fo)(N r T:Nat)(s:{s:Nat // s≤T}):St:=
 ⟨22,0,[(1,.pt 0 0),(3,kC s.val 1 1),(4,.val (.int .i64 s.val))],[(0,some (.cells [.val (.int .i64 n),.isl z (cR F) N,.val (.int .i64 r)] 29))]++kD s.val 1 (cB (lT F r s.val)) 4⟩
theorem yB(hn:n≤16)(hb:Bnd F)(h16:∀k,k<F.length→(F.getD k default).v<16)(hN:F.length=N)(hN2:N<2^40)(hr:r<2^50)(hT:2^n=T):ACall Tryz.prog 78 [.agg [.val (.int .i64 n),.isl z (cR F) N,.val (.int .i64 r)]] [] 0 (.isl false (cB (lT F r T)) T) []:=by
 have hp:2^n≤2^16:=Nat.pow_le_pow_right (by omega) hn
 have hpp:=Nat.two_pow_pos n
 have zx2:=Bc hn
 rw[hT] at hp hpp zx2
 have hv:=fun(t:Nat) (h:t<65536)=>PLift.up (by
  have:=Lt (z:=z) (p:=n) (q:=r) (t:=t) hb h16 hN hN2 hr h
  rw[Lp h] at this;exact this)
 have htk:=fun s=>WN (F:=F) (r:=r) (s:=s)
 have hx:=ae;have zx1:=ae
 refine ak Tryz.func78 Tryz.ntmps78 rfl ?_
 have zx3:= @mr;have zx4:= @gU;have zx5:=aC;have zx6:=aC;repeat' (first|(refine ai ?_;refine au [0,9] ([0,9].length) (rtI z n F N r T) (fun s=>T-s.val) (⟨0,by omega⟩) rfl (by unfold rtI;exact gY) ?_;(rintro⟨s,hs⟩;rcases Nat.lt_or_eq_of_le hs with hsl|hsl<;>first|(have es:T=s:=hsl.symm;subst es;(simp-dsimp only[rtI];refine zqS ?_))|(rcases Nat.eq_zero_or_pos s with h0|h0<;>first|(have hx:[AV.val (.bool (aG F s r))]=cB (lT F r (s+1)):=(by subst h0;rfl);(simp-dsimp only[rtI];refine zqS ?_))|(simp-dsimp only[rtI];refine zqS ?_))))|(refine ax ?_;refine Nxt.mk [0,2] (⟨s+1,by omega⟩) rfl (by unfold rtI;(try simp only[List.cons_append,List.nil_append]);refine Sub.mk2 ?_;(simp-dsimp(disch:=try exact vD) only[push_cast,simprocAttr,zx1,zx2,mr,gU,hx]);(repeat refine aI ?_);first|done|exact vI) zqO)|(refine ax ?_;refine Nxt.mk [0,3] (⟨s+1,by omega⟩) rfl (by unfold rtI;(try simp only[List.cons_append,List.nil_append]);refine Sub.mk2 ?_;(simp-dsimp(disch:=try exact vD) only[push_cast,simprocAttr,zx1,zx2,mr,gU,hx]);(repeat refine aI ?_);first|done|exact vI) zqO)|(refine ax ?_;refine Nxt.mk [0,1] (⟨s+1,by omega⟩) rfl (by unfold rtI;(try simp only[List.cons_append,List.nil_append]);refine Sub.mk2 ?_;(simp-dsimp(disch:=try exact vD) only[push_cast,simprocAttr,zx1,zx2,mr,gU,hx]);(repeat refine aI ?_);first|done|exact vI) zqO)|refine zqN ?_|refine gG (hv s (by omega)).down ?_|refine kE ?_|refine AX ?_|refine AY ?_|refine AZ ?_|refine kF ?_|(refine kG ?_ ?_<;>intro hc<;>try exact zqM))
 all_goals first
  |(((refine Ends.frz 1 ?_;simp-dsimp(disch:=try exact vD) only[push_cast,simprocAttr,Tryz.f78,htk];(repeat refine aI ?_);intro K hK;refine hK _ _ ?_;clear hK K);refine Ends.mk2 zqI [] ?_;simp-dsimp(disch:=try exact vD) only[push_cast,simprocAttr,Tryz.f78,htk];try exact zqF);done)
  |skip
end
section
open Go Go.Sy Go.Dg
variable {N N' N1 N2 T M:Nat} {F F1 F2 G:List Fo} {L L':List Fk} {v lo hi n k k1 k2 k' i m s t a b r nx n1 n2:Nat} {p q p' q':Int} {z z':Bool} {x y:Fk} {b1 b2:Bool}
theorem DOk.v16(h:DOk n F r):∀k,k<F.length→(F.getD k default).v<16:=fun k hk=>by have:=(h.good.ok k hk).v;have:=h.n12;omega
end
section
open Go Go.Sy Go.Bp Go.Dg
variable {n N M T k i m r a b j w u v s q x y d:Nat} {z:Bool} {xs:List Nat} {e:Int} {p:Nat→Bool}
def fD(p:Nat→Bool)(T:Nat):List Bool:=(List.range T).map p
theorem bR:(fD p T).length=T:=by simp[fD]
theorem Qd(h:s<T):(fD p T).getD s false=p s:=by simp[fD,List.getD_eq_getElem?_getD,List.getElem?_range h]
end
section
open Go Go.Sy Go.Dg
variable {A B F F1 F2 G:List Fo} {K K1 K2 K3:List ((Nat×Nat)×Nat)} {n na nb N M k k1 k2 k' i m r a b j w u v x1 by1 ul uh vl vh su sv op t:Nat} {q q':Int} {z z':Bool} {ba bb:Bool}
theorem SC(h:¬aP n A r=by1∨r<2)(hN:A.length=N)(hN2:N<2^40)(hr:r<N+2):ACall Tryz.prog 115 [.agg [.val (.int .i64 n),.isl z (cR A) N,.val (.int .i64 q)],.val (.int .i64 r),.val (.int .i64 by1)] [] 0 (.tup [.val (.int .i64 r),.val (.int .i64 r)]) []:=by
 have hs:=PLift.up (nC (z:=z) (n:=n) (q:=q) hN hN2 hr)
 generalize aP n A r=s at h hs
 have hx:=ae
 by_cases hx:s=by1
 ·have h2:r<2:=by omega
  have zx1:(s:Int)=by1:=by omega
  refine ak Tryz.func115 Tryz.ntmps115 rfl ?_
  have zx2:=aC;have zx3:=aC;repeat' (first|refine zqN ?_|refine bE hs.down ?_|refine bM ?_|refine bO ?_|(refine bP ?_ ?_<;>intro hc<;>try exact zqM)|refine zqR 4 [⟨0,[],[28,29],[],[],0⟩,⟨1,[0],[28,29],[],[],0⟩,⟨2,[],[6,26,27],[],[],0⟩,⟨3,[2],[6,26,27],[],[],0⟩,⟨4,[0,1],[28,29],[],[],0⟩,⟨5,[0,1,2,3,4],[],[],[],0⟩] ?_|refine zqD ?_|fail)
  all_goals((refine Ends.mk2 zqI [] ?_;simp-dsimp(disch:=try exact vD) only[push_cast,simprocAttr,Tryz.f115];try exact zqF))
 ·have zx1:¬(s:Int)=by1:=by omega
  refine ak Tryz.func115 Tryz.ntmps115 rfl ?_
  have zx2:=aC;have zx3:=aC;repeat' (first|refine zqN ?_|refine bE hs.down ?_|refine bM ?_|refine bO ?_|(refine bP ?_ ?_<;>intro hc<;>try exact zqM)|refine zqR 4 [⟨0,[],[28,29],[],[],0⟩,⟨1,[0],[28,29],[],[],0⟩,⟨2,[],[6,26,27],[],[],0⟩,⟨3,[2],[6,26,27],[],[],0⟩,⟨4,[0,1],[28,29],[],[],0⟩,⟨5,[0,1,2,3,4],[],[],[],0⟩] ?_|refine zqD ?_|fail)
  all_goals((refine Ends.mk2 zqI [] ?_;simp-dsimp(disch:=try exact vD) only[push_cast,simprocAttr,Tryz.f115];try exact zqF))
theorem acE(h:aP n A (j+2)=by1)(hN:A.length=N)(hN2:N<2^40)(hj:j<N):ACall Tryz.prog 115 [.agg [.val (.int .i64 n),.isl z (cR A) N,.val (.int .i64 q)],.val (.int .i64 ((j:Int)+1+1)),.val (.int .i64 by1)] [] 0 (.tup [.val (.int .i64 (A.getD j default).lo),.val (.int .i64 (A.getD j default).hi)]) []:=by
 have hs:=PLift.up (Iq (z:=z) (n:=n) (q:=q) hN hN2 hj)
 have hv:(A.getD j default).v=by1:=by rw[←h];unfold aP;rw[if_neg (by omega),Nat.add_sub_cancel]
 rw[hv] at hs
 have zx1:¬(j:Int)+1+1<2:=by omega
 refine ak Tryz.func115 Tryz.ntmps115 rfl ?_
 have zx2:= @uG;have zx3:= @cz;repeat' (first|refine zqN ?_|refine bE hs.down ?_|refine bM ?_|refine bO ?_|(refine bP ?_ ?_<;>intro hc<;>try exact zqM)|refine zqR 4 [⟨0,[],[28,29],[],[],0⟩,⟨1,[0],[28,29],[],[],0⟩,⟨2,[],[6,26,27],[],[],0⟩,⟨3,[2],[6,26,27],[],[],0⟩,⟨4,[0,1],[28,29],[],[],0⟩,⟨5,[0,1,2,3,4],[],[],[],0⟩] ?_|refine zqD ?_|fail)
 all_goals((refine Ends.mk2 zqI [] ?_;simp-dsimp(disch:=try exact vD) only[push_cast,simprocAttr,Tryz.f115];try exact zqF))
theorem Qe(hN:A.length=N)(hN2:N<2^40)(hr:r<N+2):ACall Tryz.prog 115 [.agg [.val (.int .i64 n),.isl z (cR A) N,.val (.int .i64 q)],.val (.int .i64 r),.val (.int .i64 by1)] [] 0 (.tup [.val (.int .i64 (kX A n r by1:Nat)),.val (.int .i64 (kY A n r by1:Nat))]) []:=by
 unfold kX kY
 by_cases h:aP n A r≠by1∨r<2
 ·rw[if_pos h,if_pos h];exact SC h hN hN2 hr
 ·rw[if_neg h,if_neg h]
  have h2:¬r<2:=fun e=>h (.inr e)
  have h3:aP n A r=by1:=Decidable.not_not.1 fun e=>h (.inl e)
  obtain⟨j,rfl⟩:∃j,r=j+2:=⟨r-2,by omega⟩
  have e:((j+2:Nat):Int)=(j:Int)+1+1:=by omega
  rw[e,Nat.add_sub_cancel];exact acE h3 hN hN2 (by omega)
def kP(x:Nat×Nat):List Int:=[(x.1:Int),(x.2:Int)]
theorem Ob(a b:Nat×Nat)(h:kP a=kP b):a=b:=by
 obtain⟨a1,a2⟩:=a;obtain⟨b1,b2⟩:=b
 simp[kP] at h;simp only[Prod.mk.injEq];omega
abbrev apD(z:Bool)(n:Nat)(A:List Fo)(N:Nat)(q:Int):AV:= .agg [.val (.int .i64 n),.isl z (cR A) N,.val (.int .i64 q)]
abbrev dC(z:Bool)(n:Nat)(A:List Fo)(N:Nat)(q:Int):List AV:=[.val (.int .i64 n),.isl z (cR A) N,.val (.int .i64 q)]
end
section
open Go Go.Sy Go.Dg
section
variable {X:Type} [DecidableEq X]{key:X→List Int} {K:List (X×Nat)} {x:X} {w:Nat}
def knM(key:X→List Int)(K:List (X×Nat)):List (List Int×AV):=K.map fun p=>(key p.1,.val (.int .i64 (p.2:Int)))
theorem knM_pv:PV (knM key K):=fun x hx=>by
 obtain⟨p,_,rfl⟩:=List.mem_map.1 hx
 exact⟨_,rfl⟩
theorem acJ{τ:Nat→Nat}:((knM key K).map fun x=>(x.1,ren τ x.2))=knM key K:=knM_pv.id fun v=>by simp[ren]
theorem acK{st:St} {σ:List Nat} {fz:Bool} {j:Nat}:((knM key K).map fun x=>(x.1,toA st σ fz (j+1) x.2))=knM key K:=knM_pv.id fun v=>by simp[toA]
theorem acL{j:Nat}:(∀x∈knM key K,bnd j x.2)=True:=knM_pv.all fun v=>by simp[bnd]
theorem SF:(∀x∈knM key K,noImm x.2)=True:=knM_pv.all fun v=>by simp[noImm]
theorem Qg:knM key []=[]:=rfl
theorem Iw(hi:∀a b,key a=key b→a=b):cK (knM key K) (key x)=(iD K x).map fun w=> .val (.int .i64 (w:Int)):=by
 unfold iD
 induction K with
 |nil=>rfl
 |cons p K ih=>
  obtain⟨y,w⟩:=p
  have e:knM key ((y,w)::K)=(key y,.val (.int .i64 (w:Int)))::knM key K:=rfl
  rw[e]
  simp only[cK]
  by_cases h:y=x
  ·subst h;simp
  ·rw[if_neg (fun hc=>h (hi _ _ hc)),ih,List.find?_cons_of_neg (by simpa using h)]
theorem LF(hi:∀a b,key a=key b→a=b)(h:iD K x=none):cK (knM key K) (key x)=none:=by rw[Iw hi,h];rfl
theorem W9(hi:∀a b,key a=key b→a=b)(h:iD K x=some w):cK (knM key K) (key x)=some (.val (.int .i64 (w:Int))):=by rw[Iw hi,h];rfl
theorem acM(hi:∀a b,key a=key b→a=b)(h:iD K x=none):mM (knM key K) (key x) (.val (.int .i64 (w:Int)))=knM key (K++[(x,w)]):=by
 rw[kU _ _ _ (LF hi h)];unfold knM;rw[List.map_append];rfl
end
attribute [push_cast] acJ acK acL SF
section
variable {X:Type} [DecidableEq X]{Y:Ur X} {x:X} {n k:Nat}
theorem Od{K:List (X×Nat)}(h:iD K x=none):∀p∈K,¬p.1=x:=by
 unfold iD at h
 rw[Option.map_eq_none_iff,List.find?_eq_none] at h
 intro p hp;simpa using h p hp
theorem LG{Ok:X→Prop}(hY:uQ Y n Ok):∀(k:Nat) (x:X) (S:List Fo×List (X×Nat)),Ok x→∀p∈(mgr Y k x S).1.2,p∈S.2∨Y.rk p.1≤Y.rk x:=by
 intro k
 induction k with
 |zero=>intro x S _ p hp;exact .inl hp
 |succ k ih=>
  intro x S hx p hp
  cases ht:Y.term x with
  |some c=>rw[wI ht] at hp;exact .inl hp
  |none=>
   cases hl:iD S.2 x with
   |some w=>rw[Dr ht hl] at hp;exact .inl hp
   |none=>
    obtain⟨o0,r0,l0⟩:=hY.o0 x hx ht
    obtain⟨o1,r1,l1⟩:=hY.o1 x hx ht
    have i0:=ih (Y.k0 x) S o0
    generalize e0:mgr Y k (Y.k0 x) S=R0 at i0
    obtain⟨S1,a⟩:=R0
    have i1:=ih (Y.k1 x) S1 o1
    generalize e1:mgr Y k (Y.k1 x) S1=R1 at i1
    obtain⟨S2,b⟩:=R1
    rw[Dt ht hl e0 e1] at hp
    dsimp only at hp i0 i1
    rcases List.mem_append.1 hp with h|h
    ·rcases i1 p h with h|h
     ·rcases i0 p h with h|h
      ·exact .inl h
      ·exact .inr (by omega)
     ·exact .inr (by omega)
    ·rw[List.mem_singleton.1 h];exact .inr (Nat.le_refl _)
theorem Xb{Ok:X→Prop} {S S1 S2:List Fo×List (X×Nat)} {a b:Nat}(hY:uQ Y n Ok)(hx:Ok x)(ht:Y.term x=none)(hl:iD S.2 x=none)(e0:mgr Y k (Y.k0 x) S=(S1,a))(e1:mgr Y k (Y.k1 x) S1=(S2,b)):iD S2.2 x=none:=by
 obtain⟨o0,r0,l0⟩:=hY.o0 x hx ht
 obtain⟨o1,r1,l1⟩:=hY.o1 x hx ht
 refine look_none fun p hp e=>?_
 have h1:=LG hY k (Y.k1 x) S1 o1 p (by rw[e1];exact hp)
 rcases h1 with h1|h1
 ·have h0:=LG hY k (Y.k0 x) S o0 p (by rw[e0];exact h1)
  rcases h0 with h0|h0
  ·exact Od hl p h0 e
  ·rw[e] at h0;omega
 ·rw[e] at h1;omega
theorem Xc:∀(k:Nat) (x:X) (S:List Fo×List (X×Nat)),S.1≠[]→(mgr Y k x S).1.1≠[]:=by
 intro k
 induction k with
 |zero=>intro x S h;exact h
 |succ k ih=>
  intro x S h
  cases ht:Y.term x with
  |some c=>rw[wI ht];exact h
  |none=>
   cases hl:iD S.2 x with
   |some w=>rw[Dr ht hl];exact h
   |none=>
    have i0:=ih (Y.k0 x) S h
    generalize e0:mgr Y k (Y.k0 x) S=R0 at i0
    obtain⟨S1,a⟩:=R0
    have i1:=ih (Y.k1 x) S1 i0
    generalize e1:mgr Y k (Y.k1 x) S1=R1 at i1
    obtain⟨S2,b⟩:=R1
    rw[Dt ht hl e0 e1]
    exact WB i1
theorem acN{Ok:X→Prop}(hY:uQ Y n Ok)(k:Nat)(x:X)(S:List Fo×List (X×Nat))(hx:Ok x)(hk:Y.rk x<k)(hg:Go.Dg.Good n S.1)(hK:Kok Y n S.1 S.2):Go.Dg.Good n (mgr Y k x S).1.1∧Kok Y n (mgr Y k x S).1.1 (mgr Y k x S).1.2:=by
 obtain⟨F,K⟩:=S
 have h:=N8 hY k x F K hx hk hg hK
 exact⟨(h.1.hit hg (hY.le hx)).1,h.2⟩
theorem Iy{Ok:X→Prop} {F:List Fo} {K:List (X×Nat)}(hY:uQ Y n Ok)(hx:Ok x)(hk:Y.rk x<k)(hg:Go.Dg.Good n F)(hK:Kok Y n F K):(mgr Y k x (F,K)).1.1.length+1≤F.length+2^(n-Y.lev x):=by
 have h:=(N8 hY k x F K hx hk hg hK).1
 have hl:=hY.le hx
 have e:=h (Y.φ x) (n-Y.lev x) (Y.lev x) 0 (by omega) (Nat.two_pow_pos _) (Nat.le_refl _) (fun _ _=>rfl)
 have:=Dq (tab:=Y.φ x) (n-Y.lev x) (Y.lev x) 0 F
 rw[e] at this;exact this
theorem SH{Ok:X→Prop}(hY:uQ Y n Ok)(P:X→List Fo×List (X×Nat)→List Fo×List (X×Nat)→Nat→Prop)
 (ht:∀x c S,Ok x→Y.term x=some c→P x S S c)
 (hh:∀x w S,Ok x→Y.term x=none→iD S.2 x=some w→P x S S w)
 (hn:∀x S S1 S2 a b,Ok x→Y.term x=none→iD S.2 x=none→iD S2.2 x=none→S2.1.length<2^20→(S.1≠[]→S1.1≠[])→(S1.1≠[]→S2.1≠[])→P (Y.k0 x) S S1 a→P (Y.k1 x) S1 S2 b→
   P x S ((mkF S2.1 (Y.lev x) a b).1,S2.2++[(x,(mkF S2.1 (Y.lev x) a b).2)]) (mkF S2.1 (Y.lev x) a b).2):
 ∀(k:Nat) (x:X) (F:List Fo) (K:List (X×Nat)),Ok x→Y.rk x<k→Go.Dg.Good n F→Kok Y n F K→F.length+2^(n-Y.lev x)<2^20→P x (F,K) (mgr Y k x (F,K)).1 (mgr Y k x (F,K)).2:=by
 intro k
 induction k with
 |zero=>intro x F K _ h;omega
 |succ k ih=>
  intro x F K hx hk hg hK hl
  cases htm:Y.term x with
  |some c=>rw[wI htm];exact ht x c _ hx htm
  |none=>
   cases hlk:iD K x with
   |some w=>rw[Dr htm hlk];exact hh x w (F,K) hx htm hlk
   |none=>
    obtain⟨o0,r0,l0⟩:=hY.o0 x hx htm
    obtain⟨o1,r1,l1⟩:=hY.o1 x hx htm
    have hv:=hY.lv x hx htm
    have p0:2^(n-Y.lev (Y.k0 x))≤2^(n-Y.lev x-1):=Nat.pow_le_pow_right (by omega) (by omega)
    have p1:2^(n-Y.lev (Y.k1 x))≤2^(n-Y.lev x-1):=Nat.pow_le_pow_right (by omega) (by omega)
    have pp:=Nat.two_pow_pos (n-Y.lev x-1)
    have pp0:=Nat.two_pow_pos (n-Y.lev (Y.k0 x))
    have pp1:=Nat.two_pow_pos (n-Y.lev (Y.k1 x))
    have p2:2^(n-Y.lev x)=2^(n-Y.lev x-1)+2^(n-Y.lev x-1):=by
     obtain⟨m,hm⟩:∃m,n-Y.lev x=m+1:=⟨n-Y.lev x-1,by omega⟩
     rw[hm,Nat.pow_succ,Nat.add_sub_cancel];omega
    have b0:=Iy hY o0 (show Y.rk (Y.k0 x)<k by omega) hg hK
    have m0:=acN hY k (Y.k0 x) (F,K) o0 (by omega) hg hK
    have n0:=Xc (Y:=Y) k (Y.k0 x) (F,K)
    have i0:=ih (Y.k0 x) F K o0 (by omega) hg hK (by omega)
    generalize e0:mgr Y k (Y.k0 x) (F,K)=R0 at i0 b0 m0 n0
    obtain⟨⟨F1,K1⟩,a⟩:=R0
    dsimp only at i0 b0 m0 n0
    have b1:=Iy hY o1 (show Y.rk (Y.k1 x)<k by omega) m0.1 m0.2
    have n1:=Xc (Y:=Y) k (Y.k1 x) (F1,K1)
    have i1:=ih (Y.k1 x) F1 K1 o1 (by omega) m0.1 m0.2 (by omega)
    generalize e1:mgr Y k (Y.k1 x) (F1,K1)=R1 at i1 b1 n1
    obtain⟨⟨F2,K2⟩,b⟩:=R1
    dsimp only at i1 b1 n1
    have hlk2:=Xb hY hx htm hlk e0 e1
    rw[Dt htm hlk e0 e1]
    exact hn x (F,K) (F1,K1) (F2,K2) a b hx htm hlk hlk2 (by dsimp only;omega) n0 n1 i0 i1
end
variable {A F F1 F2 G:List Fo} {K K1 K2 K3:List (Nat×Nat)} {n N k k1 k2 k' i m r a b j w:Nat} {q:Int} {z:Bool}
end
end
