/- Rr3. No condition. -/
import Derived.Test.YtgmpdplpodemaaaGreatDoorSxG1
import Derived.Test.YtgmpdplpodemaaaGreatDoorRn3
import Derived.Test.YtgmpdplpodemaaaGreatDoorBg3
set_option linter.all false
set_option maxHeartbeats 4000000
set_option maxRecDepth 20000
namespace Go.Proofs.YtgmpdplpodemaaaGreatDoor
open Go Go.Sy Go.Bp Go.Lm Go.Rt Go.Sx
attribute [local irreducible] AO AL AC OpT ACall Ends DGo aN Thn Blk Nxt
variable {n N k i j m r s w W S:Nat} {cz:Bool} {l x:List Rat} {p q f:Rat} {T T0:Tab} {A:List (List Rat)} {B C:List Rat}
theorem BO(g:GT 3 n T):QG n (n+4) (fun _=>rwT T) (fun _=>biT T) s=tbV 3 n (rsT 3 T) (biT T):=by
 have h0:(rwT T 0).length=n+4:=jA g (by omega);have h1:(rwT T 1).length=n+4:=jA g (by omega);have h2:(rwT T 2).length=n+4:=jA g (by omega);have h3:(rwT T 3).length=n+4:=jA g (by omega)
 show([.val (.int .i64 3),.val (.int .i64 n),.isl false [.isl false (cR (rwT T 0)) (n+4),.isl false (cR (rwT T 1)) (n+4),.isl false (cR (rwT T 2)) (n+4),.isl false (cR (rwT T 3)) (n+4)] 4,.isl false (cI .i64 (biT T)) 3,.val (.int .i64 0)]:List AV)=[.val (.int .i64 (3:Nat)),.val (.int .i64 n),.isl false [.isl (false:Bool) (cR (rwT T 0)) (rwT T 0).length,.isl (false:Bool) (cR (rwT T 1)) (rwT T 1).length,.isl (false:Bool) (cR (rwT T 2)) (rwT T 2).length,.isl (false:Bool) (cR (rwT T 3)) (rwT T 3).length] (3+1),.isl false (cI .i64 (biT T)) 3,.val (.int .i64 0)]
 rw[h0,h1,h2,h3];rfl
theorem QK(hn:n≤400)(h:ql 3 n T0 S=true):ACall Tryz.prog 129 [.pt 0 0] (Eh n (n+4) T0) 7 (.tup [.val (.int .i64 (-1)),.val (.int .i64 0)]) (Eh n (n+4) (TT 3 n T0 S)):=by
 have gt:=Bw h
 have gs:=Jd h
 have ge:=V4 h
 exact LA (n:=n) (W:=n+4) (S:=S) (Ro:=fun s=>rwT (TT 3 n T0 s)) (bs:=fun s=>biT (TT 3 n T0 s)) (kk:=fun s=>kkF 3 n (TT 3 n T0 s)) (ii:=fun s=>iiF 3 n (TT 3 n T0 s)) (by omega)
  (fun s r hs hr=>jA (gt s hs) hr) (fun s hs=>BM (gt s hs))
  (fun s hs=>by
    have:=QE (by omega) hn (gs s hs).toGT
    rw[if_neg (by have:=(gs s hs).k;omega),←BO (s:=s) (gs s hs).toGT] at this
    exact this)
  (by
    have:=QE (by omega) hn (gt S (Nat.le_refl _))
    rw[if_pos ge,←BO (s:=S) (gt S (Nat.le_refl _))] at this
    exact this)
  (fun s hs=>by
    have:=abA (by omega) hn (gs s hs)
    rw[←BO (s:=s) (gs s hs).toGT] at this
    exact this)
  (fun s hs=>by
    have g:=gs s hs
    exact GV (n:=n) (W:=n+4) (T:=TT 3 n T0 s) (i:=iiF 3 n (TT 3 n T0 s)) (k:=kkF 3 n (TT 3 n T0 s)) g.i (by omega) (by have:=g.k;omega) g.rl (fun r hr=>g.rw r (by omega)) g.bl g.p0 g.sm (gt (s+1) hs).sm g.sp)
theorem QL(hA:A.length=3)(hi:i<3):iK (mxA A) (rC 1) (rC 0) i k=rm (A.getD i []++(List.range k).map (fun q=>if q=i then(1:Rat) else 0)):=by
 induction k with
 |zero=>rw[iK,sO (by omega)];simp
 |succ k ih=>
  rw[iK,ih,List.range_succ,List.map_append,←List.append_assoc,BA (b:=List.map _ [k])]
  congr 1
  show _=[rC (if k=i then 1 else 0)]
  split<;>rfl
theorem yE(hi:i<3)(hA:A.length=3)(hB:B.length=3):jC (mxA A) (rm B) (rC 1) (rC 0) i=rwT (ed A B C) i:=by
 unfold rwT
 rw[jC,QL hA hi,Wh (by omega),BA (b:=[B.getD i 0]),abj,hB,jK (by omega)];rfl
theorem QM(h:k≤C.length):yB (fun j=>rC (-(C.getD j 0))) k=rm ((C.take k).map (fun c=> -c)):=by
 induction k with
 |zero=>simp[yB,rm]
 |succ k ih=>
  rw[yB,ih (by omega),List.take_add_one,List.getElem?_eq_getElem (by omega),List.map_append,BA]
  congr 1
  rw[List.getD_eq_getElem?_getD,List.getElem?_eq_getElem (by omega)];rfl
theorem QN(hn:C.length=n):vW (fun j=>rC (-(C.getD j 0))) n (rC 0) k=rm (C.map (fun c=> -c)++List.replicate k 0):=by
 induction k with
 |zero=>rw[vW,QM (by omega),List.take_of_length_le (by omega)];simp
 |succ k ih=>rw[vW,ih,List.replicate_succ',←List.append_assoc,BA (b:=[0])];rfl
theorem G5(hn:1≤n)(hn2:n≤400)(hA:A.length=3)(hB:B.length=3)(hC:C.length=n)(hl:∀i,i<3→(A.getD i []).length=n)(hs:∀j,j<n→Sm (C.getD j 0)):
 ACall Tryz.prog 128 [.agg [.isl false (cX (mxA A)) 3,.isl cz (cR (rm B)) 3,.isl false (cR (rm C)) n]] [] 0 (.pt 0 0) (Eh n (n+4) (ed A B C)):=by
 have h:=El (n:=n) (cz:=cz) (A:=mxA A) (B:=rm B) (C:=rm C) (ONE:=rC 1) (ZERO:=rC 0) (NE:=fun j=>rC (-(C.getD j 0))) hn hn2 (by rw[wJ];exact hA) (by rw[eu];exact hB) (by rw[eu];exact hC)
  (fun i hi=>by rw[sO (by omega)]) (fun i hi=>by rw[sO (by omega)];show(rm _).length=n;rw[eu];exact hl i hi)
  (fun i hi=>by rw[sO (by omega)];exact PW (by rw[eu];exact hl i hi) (by omega)) VS DU
  (fun j hj=>by rw[jK (by omega)];exact VT (hs j hj))
 have eb:biT (ed A B C)=(List.range 3).map fun k=>((n+k:Nat):Int):=by unfold biT ed;dsimp only;rw[hB,hC,List.map_map];rfl
 have el:vW (fun j=>rC (-(C.getD j 0))) n (rC 0) 4=rwT (ed A B C) 3:=by
  have h2:=Qe (A:=A) (B:=B) (C:=C)
  rw[hA,hB] at h2
  unfold rwT
  rw[h2,QN hC]
 have e0:jC (mxA A) (rm B) (rC 1) (rC 0) 0=rwT (ed A B C) 0:=yE (by omega) hA hB
 have e1:jC (mxA A) (rm B) (rC 1) (rC 0) 1=rwT (ed A B C) 1:=yE (by omega) hA hB
 have e2:jC (mxA A) (rm B) (rC 1) (rC 0) 2=rwT (ed A B C) 2:=yE (by omega) hA hB
 rw[e0,e1,e2,el] at h
 show ACall Tryz.prog 128 _ [] 0 (.pt 0 0) [.cells [.val (.int .i64 3),.val (.int .i64 n),.sl 1 0 4 1,.sl 2 0 3 1,.val (.int .i64 0)] 197,.cells [.sl 3 0 (n+4) 4,.sl 4 0 (n+4) 4,.sl 5 0 (n+4) 4,.sl 6 0 (n+4) 4] 103,.cells (cI .i64 (biT (ed A B C))) 3,.cells (cR (rwT (ed A B C) 0)) 60,.cells (cR (rwT (ed A B C) 1)) 60,.cells (cR (rwT (ed A B C) 2)) 60,.cells (cR (rwT (ed A B C) 3)) 60]
 rw[eb]
 exact h
theorem Wy:j≤w→xzL (rC 0) w j=List.replicate j (rC 0)++List.replicate (w-j) rZ:=by
 induction j with
 |zero=>intro _;simp[xzL]
 |succ j ih=>
  intro h
  rw[xzL,ih (by omega)]
  obtain⟨d,hd⟩:∃d,w-j=d+1:=⟨w-j-1,by omega⟩
  rw[hd,show w-(j+1)=d by omega,List.replicate_succ,List.replicate_succ' (n:=j),List.set_append_right _ _ (by simp),List.length_replicate,Nat.sub_self,List.set_cons_zero,List.append_assoc];rfl
theorem Wz:xbL (rC 0) w (fun i=>T.basis.getD i 0) (fun i=>rC (at2 T.rows i w)) i=rm (xvF T w i):=by
 induction i with
 |zero=>rw[xbL,xvF,Wy (Nat.le_refl w),Nat.sub_self,Qd];simp
 |succ i ih=>rw[xbL,xvF,abm,ih]
theorem G6(hn:1≤n)(hn2:n≤400)(hA:A.length=3)(hB:B.length=3)(hC:C.length=n)(hl:∀i,i<3→(A.getD i []).length=n)(hs:∀j,j<n→Sm (C.getD j 0))(h:ql 3 n (ed A B C) S=true)
 (hv:ACall Tryz.prog 127 [.agg [.isl false (cX (mxA A)) 3,.isl cz (cR (rm B)) 3,.isl false (cR (rm C)) n]] [] 0 (.val (.int .i64 0)) []):
 ACall Tryz.prog 94 [.agg [.isl false (cX (mxA A)) 3,.isl cz (cR (rm B)) 3,.isl false (cR (rm C)) n]] [] 0 (.tup [.agg (r4 (rC (BB 3 n (TT 3 n (ed A B C) S)))++[.isl false (cR (rm (BC 3 n (TT 3 n (ed A B C) S)))) n,.isl false (cR (rm (BD 3 n (TT 3 n (ed A B C) S)))) 3]),.val (.int .i64 0)]) []:=by
 have g:=Bw h S (Nat.le_refl _)
 generalize hT:TT 3 n (ed A B C) S=T at g⊢
 have hr:=QK hn2 h
 rw[hT] at hr
 have:=Ei (n:=n) (w:=n+3) (W:=n+4) (CA:=cX (mxA A)) (CB:=cR (rm B)) (CC:=cR (rm C)) (b0:=biT (ed A B C)) (Q:=rwT (ed A B C)) (b:=biT T) (R0:=rwT T 0) (R1:=rwT T 1) (R2:=rwT T 2) (R3:=rwT T 3) (v:=fun i=>T.basis.getD i 0) (z:=fun i=>rC (at2 T.rows i (n+3))) hn hn2 rfl rfl (BM g) (jA g (by omega)) (jA g (by omega)) (jA g (by omega)) (jA g (by omega)) (fun i hi=>⟨wM g hi,g.bw i hi⟩) (mZ g (by omega) (by omega)) (mZ g (by omega) (by omega)) (mZ g (by omega) (by omega))
  hv (G5 hn hn2 hA hB hC hl hs) hr DU
 rw[Wz,mZ g (Nat.le_refl _) (by omega)] at this
 unfold BB BC BD
 rw[Je,Je,We]
 exact this
