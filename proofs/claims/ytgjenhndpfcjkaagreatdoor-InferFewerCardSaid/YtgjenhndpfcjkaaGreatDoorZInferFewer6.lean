/-
  Part 6 of 9 of the proof of InferFewer: what it leans on. No conditions.
-/
import Derived.Test.YtgjenhndpfcjkaaGreatDoorZInferFewer5
set_option maxRecDepth 100000
set_option maxHeartbeats 4000000
namespace Go.Proofs.YtgjenhndpfcjkaaGreatDoor
end Go.Proofs.YtgjenhndpfcjkaaGreatDoor
namespace Go.Fw
open Go.Proofs.YtgjenhndpfcjkaaGreatDoor Go.Proofs Go.RowKit Tryz
theorem o2c(x:G1a)(M:List Nat)(w0:World)(ts:List Value)(hT:M0a M w0 ts x):
 O0a prog 61 #[.agg ts.toArray] w0 fun v w'=>(∃b,v=.bool b∧(b=true→True))∧Below w0.heap.size w0 w':=by
 obtain⟨Aa,na,ca,Am,nm,cm,As,ns,cn,Al,nl,cl,rfl,-,u1,_,e0,S0,_⟩:=M0a.open_ hT;have S:=St.refl w0;refine a0a func61 Z ntmps61 Z ?_;refine wO0 Z U (q0a S Z ?_);intro g1 w1 S1 X1 G1;refine lC0 Z U (wL (fun μk D ε w=>D=[]∧∃k:Nat,(k+μk=(x.steps.length))∧St [] w0 w [(some g1,58,[.string x.name,.int .i64 x.points,.slice Aa na ca,.slice Am nm cm,.slice As ns cn,.slice Al nl cl,.bool x.asleep])]∧Sl ε [(1,.pointer (some ⟨g1,0,none⟩)),(3,.int .i64 k)]) (μ:=(x.steps.length)) ⟨Z,0,by omega,S1,Z⟩ ?_);rintro μk D ε w ⟨rfl,k,hk,S,eZ⟩;refine wK eZ (wB S.k [.o 0] Z ⟨Z,U⟩ (fun i1=>?_) fun i1=>?_)
 ·obtain⟨s,X0,x1,_,R0,i0,_,_,v0,F0⟩:=RdS.get (e0) (k) (by omega);obtain⟨_,_,_,_,_,_,rfl,⟨_,_⟩,u0,_⟩:=v1a.open_ F0;refine lO (S.k.a v0) [.o 0,.x X0 x1,.f 0 3] Z ⟨Z,⟨i0,by omega⟩,Z,U⟩ (f0a S W9a Z Z (v5a s.guard M _ _ _ (RdE.keep (S.keep0 M) _ _ u0)) (fun j1 F1 b0 T0=>?_) (fun j1 F1 b0 T0=>?_))
  ·obtain⟨_,Y0,y1,_,N0,j0,_,_,x0,G0⟩:=RdS.get (e0) (k) (by omega);obtain rfl:=Option.some.inj (R0.symm.trans N0);obtain⟨_,_,_,_,_,_,rfl,⟨_,_⟩,_⟩:=v1a.open_ G0;refine lB (b0.k.a x0) [.o 0,.x Y0 y1,.f 0 7] Z ⟨Z,⟨j0,by omega⟩,Z,U⟩ (fun m1=>?_) fun m1=>?_
   ·exact lT Z U Z ⟨⟨_,Z,fun _=>trivial⟩,b0.fin⟩
   refine lC0 Z U (wL (fun μj D ε w=>D=[]∧∃j:Nat,(j+μj=(s.set.length))∧St [] w0 w [(some g1,58,[.string x.name,.int .i64 x.points,.slice Aa na ca,.slice Am nm cm,.slice As ns cn,.slice Al nl cl,.bool x.asleep])]∧Sl ε [(1,.pointer (some ⟨g1,0,none⟩)),(3,.int .i64 k),(4,.int .i64 j)]) (μ:=(s.set.length)) ⟨Z,0,by omega,b0,Z⟩ ?_);rintro μj D ε w ⟨rfl,j,_,S,eZ⟩;refine wK eZ ?_;obtain⟨_,Z0,z1,_,O0,m0,_,_,y0,H0⟩:=RdS.get (e0) (k) (by omega);obtain rfl:=Option.some.inj (R0.symm.trans O0);obtain⟨_,_,_,_,_,_,rfl,⟨_,_⟩,_⟩:=v1a.open_ H0;refine wB (S.k.a y0) [.o 0,.x Z0 z1,.f 0 7] Z ⟨Z,⟨m0,by omega⟩,Z,U⟩ (fun n1=>?_) fun n1=>?_
   ·obtain⟨_,a1,A1,_,P0,n0,_,_,z0,I0⟩:=RdS.get (e0) (k) (by omega);obtain rfl:=Option.some.inj (R0.symm.trans P0);obtain⟨_,_,_,_,_,_,rfl,⟨_,_⟩,_,a0,_⟩:=v1a.open_ I0;obtain⟨a,b1,B1,_,_,o0,_,_,A0,J0⟩:=RdS.get (a0) (j) (by omega);obtain⟨_,_,_,rfl,_,s0⟩:=I0a.open_ J0;refine lO ((S.k.a A0).a z0) [.o 0,.x a1 A1,.f 0 7,.x b1 B1,.f 1 1] Z ⟨Z,⟨o0,by omega⟩,Z,⟨n0,by omega⟩,Z,U⟩ (f0a S W9a Z Z (v5a a.to M _ _ _ (RdE.keep (S.keep0 M) _ _ s0)) (fun o1 H1 f0 U0=>?_) (fun o1 H1 f0 U0=>?_))
    ·refine lP0 Z ⟨by omega,U⟩ ⟨μj-1,by omega,Z,(j+1),(by omega),f0,Z⟩
    exact lT Z U Z ⟨⟨_,Z,fun _=>trivial⟩,f0.fin⟩
   refine lP0 Z ⟨by omega,U⟩ ⟨μk-1,by omega,Z,(k+1),(by omega),S,Z⟩
  exact lT Z U Z ⟨⟨_,Z,fun _=>trivial⟩,b0.fin⟩
 refine lC0 Z U (wL (fun μk D ε w=>D=[]∧∃k:Nat,(k+μk=(x.asserts.length))∧St [] w0 w [(some g1,58,[.string x.name,.int .i64 x.points,.slice Aa na ca,.slice Am nm cm,.slice As ns cn,.slice Al nl cl,.bool x.asleep])]∧Sl ε [(1,.pointer (some ⟨g1,0,none⟩)),(5,.int .i64 k)]) (μ:=(x.asserts.length)) ⟨Z,0,by omega,S,Z⟩ ?_);rintro μk D ε w ⟨rfl,k,hk,S,eZ⟩;refine wK eZ (wB S.k [.o 0] Z ⟨Z,U⟩ (fun p1=>?_) fun p1=>?_)
 ·obtain⟨e,c1,C1,_,_,p0,_,E0,B0,d0⟩:=RdS.get (u1) (k) (by omega);obtain⟨_,_,_,rfl,_⟩:=RdE.cells d0;refine lO (S.k.a B0) [.o 0,.x c1 C1,.v 0] Z ⟨⟨Z,E0⟩,⟨p0,by omega⟩,Z,U⟩ (f0a S W9a Z Z (v5a e M _ _ _ (RdE.keep (S.keep0 M) _ _ d0)) (fun q1 I1 g0 V0=>?_) (fun q1 I1 g0 V0=>?_))
  ·refine lP0 Z ⟨by omega,U⟩ ⟨μk-1,by omega,Z,(k+1),(by omega),g0,Z⟩
  exact lT Z U Z ⟨⟨_,Z,fun _=>trivial⟩,g0.fin⟩
 refine lC0 Z U (wL (fun μk D ε w=>D=[]∧∃k:Nat,(k+μk=(x.loops.length))∧St [] w0 w [(some g1,58,[.string x.name,.int .i64 x.points,.slice Aa na ca,.slice Am nm cm,.slice As ns cn,.slice Al nl cl,.bool x.asleep])]∧Sl ε [(1,.pointer (some ⟨g1,0,none⟩)),(6,.int .i64 k)]) (μ:=(x.loops.length)) ⟨Z,0,by omega,S,Z⟩ ?_);rintro μk D ε w ⟨rfl,k,hk,S,eZ⟩;refine wK eZ (wB S.k [.o 0] Z ⟨Z,U⟩ (fun r1=>?_) fun r1=>?_)
 ·obtain⟨o,d1,D1,_,v1,q0,_,_,C0,K0⟩:=RdS.get (S0) (k) (by omega);obtain⟨_,_,_,_,_,_,rfl,_,_,t0,_⟩:=Y4a.open_ K0;refine lO (S.k.a C0) [.o 0,.x d1 D1,.f 0 2] Z ⟨Z,⟨q0,by omega⟩,Z,U⟩ (f0a S W9a Z Z (v5a o.variant M _ _ _ (RdE.keep (S.keep0 M) _ _ t0)) (fun s1 J1 c0 W0=>?_) (fun s1 J1 c0 W0=>?_))
  ·obtain⟨_,f1,E1,_,Q0,r0,_,_,D0,L0⟩:=RdS.get (S0) (k) (by omega);obtain rfl:=Option.some.inj (v1.symm.trans Q0);obtain⟨_,_,_,_,_,_,rfl,_⟩:=Y4a.open_ L0;refine lB (c0.k.a D0) [.o 0,.x f1 E1,.f 0 1] Z ⟨Z,⟨r0,by omega⟩,Z,U⟩ (fun t1=>?_) fun t1=>?_
   ·exact lT Z U Z ⟨⟨_,Z,fun _=>trivial⟩,c0.fin⟩
   refine lP0 Z ⟨by omega,U⟩ ⟨μk-1,by omega,Z,(k+1),(by omega),c0,Z⟩
  exact lT Z U Z ⟨⟨_,Z,fun _=>trivial⟩,c0.fin⟩
 exact lT Z U Z ⟨⟨_,Z,fun _=>trivial⟩,S.fin⟩
theorem u4c(p:i0a)(M:List Nat)(w0:World)(cs:List Value)(hP:X0a M w0 p cs):
 O0a prog 27 #[.agg cs.toArray] w0 fun v w'=>(∃b,v=.bool b∧(b=true→True))∧Below w0.heap.size w0 w':=by
 obtain⟨Ac,nc,cc,Am,nm,cm,Al,nl,cl,At,nt,ct,rfl,_,D0,o1,p1,_⟩:=hP.open_;have S:=St.refl w0;refine a0a func27 Z ntmps27 Z ?_;refine wO0 Z U (q0a S Z ?_);intro g1 w1 S1 X1 G1;refine lB S1.k [.o 0] Z ⟨Z,U⟩ (fun X0=>?_) fun X0=>?_
 ·exact lT Z U Z ⟨⟨_,Z,fun _=>trivial⟩,S1.fin⟩
 refine lB S1.k [.o 0] Z ⟨Z,U⟩ (fun Y0=>?_) fun Y0=>?_
 ·exact lT Z U Z ⟨⟨_,Z,fun _=>trivial⟩,S1.fin⟩
 refine lB S1.k [.o 0] Z ⟨Z,U⟩ (fun Z0=>?_) fun Z0=>?_
 ·exact lT Z U Z ⟨⟨_,Z,fun _=>trivial⟩,S1.fin⟩
 refine lB S1.k [.o 0] Z ⟨Z,U⟩ (fun a1=>?_) fun a1=>?_
 ·exact lT Z U Z ⟨⟨_,Z,fun _=>trivial⟩,S1.fin⟩
 refine lC0 Z U (wL (fun μk D ε w=>D=[]∧∃k:Nat,∃n:Int,(k+μk=(p.threads.length))∧(0≤n∧n≤24)∧St [] w0 w [(some g1,27,[.slice Ac nc cc,.slice Am nm cm,.slice Al nl cl,.slice At nt ct])]∧Sl ε [(1,.pointer (some ⟨g1,0,none⟩)),(3,.int .i64 n),(4,.int .i64 k)]) (μ:=(p.threads.length)) ⟨Z,0,0,by omega,by omega,S1,Z⟩ ?_);rintro μk D ε w ⟨rfl,k,n,hk,_,S,eZ⟩;refine wK eZ (wB S.k [.o 0] Z ⟨Z,U⟩ (fun b1=>?_) fun b1=>?_)
 ·obtain⟨th,U0,q1,_,_,z0,_,I0,F0,o0⟩:=RdS.get (p1) (k) (by omega);obtain⟨_,_,_,_,_,_,_,_,_,_,_,_,rfl,_⟩:=M0a.open_ o0;refine lO (S.k.a F0) [.o 0,.x U0 q1,.v 0] Z ⟨⟨Z,I0⟩,⟨z0,by omega⟩,Z,U⟩ (h0a S e7a Z Z ?_);intro g5 w5 S5 X5 G5;refine b0a (kk:=0) (vs:=[_,_,_,_,_,_,_]) S5 Y6a Z Z Z Z Z Z Z ?_;intro u1 a0 R0;dsimp only[d0a,List.set] at a0;refine lB a0.k [.o 0] Z ⟨by omega,Z,U⟩ (fun c1=>?_) fun c1=>?_
  ·exact lT Z U Z ⟨⟨_,Z,fun _=>trivial⟩,a0.fin⟩
  refine lB a0.k [.o 0] Z ⟨Z,U⟩ (fun d1=>?_) fun d1=>?_
  ·exact lT Z U Z ⟨⟨_,Z,fun _=>trivial⟩,a0.fin⟩
  refine lB a0.k [.o 0] Z ⟨Z,U⟩ (fun f1=>?_) fun f1=>?_
  ·exact lT Z U Z ⟨⟨_,Z,fun _=>trivial⟩,a0.fin⟩
  refine lB a0.k [.o 0] Z ⟨Z,U⟩ (fun i1=>?_) fun i1=>?_
  ·exact lT Z U Z ⟨⟨_,Z,fun _=>trivial⟩,a0.fin⟩
  refine lO a0.k [.w 0] Z ⟨⟨Z,Z⟩,U⟩ (f0b a0 u0d Z Z (o2c th M _ _ (M0a.keep (a0.keep0 M) _ _ o0)) (fun y1 t1 r0 Q0=>?_) (fun t1 r0 Q0=>?_))
  ·refine lP0 Z ⟨by omega,U⟩ ⟨μk-1,by omega,Z,(k+1),(_),(by omega),(by omega),r0.tail,Z⟩
  exact lT Z U Z ⟨⟨_,Z,fun _=>trivial⟩,r0.fin⟩
 refine lC0 Z U (wL (fun μk D ε w=>D=[]∧∃k:Nat,(k+μk=(p.modules.length))∧St [] w0 w [(some g1,27,[.slice Ac nc cc,.slice Am nm cm,.slice Al nl cl,.slice At nt ct])]∧Sl ε [(1,.pointer (some ⟨g1,0,none⟩)),(6,.int .i64 k)]) (μ:=(p.modules.length)) ⟨Z,0,by omega,S,Z⟩ ?_);rintro μk D ε w ⟨rfl,k,hk,S,eZ⟩;refine wK eZ (wB S.k [.o 0] Z ⟨Z,U⟩ (fun j1=>?_) fun j1=>?_)
 ·obtain⟨mo,V0,r1,_,q0,A0,_,_,G0,J0⟩:=RdS.get (D0) (k) (by omega);obtain⟨_,_,_,_,_,_,_,_,_,rfl,E0,_⟩:=G0a.open_ J0;refine lO (S.k.a G0) [.o 0,.x V0 r1,.f 0 2] Z ⟨Z,⟨A0,by omega⟩,Z,U⟩ (f0a S W9a Z Z (v5a mo.rely M _ _ _ (RdE.keep (S.keep0 M) _ _ E0)) (fun m1 v1 c0 S0=>?_) (fun m1 v1 c0 S0=>?_))
  ·obtain⟨_,W0,s1,_,L0,B0,_,_,H0,K0⟩:=RdS.get (D0) (k) (by omega);obtain rfl:=Option.some.inj (q0.symm.trans L0);obtain⟨_,_,_,_,_,_,_,_,_,rfl,_,C0,_⟩:=G0a.open_ K0;refine lO (c0.k.a H0) [.o 0,.x W0 s1,.f 0 6] Z ⟨Z,⟨B0,by omega⟩,Z,U⟩ (f0a c0 W9a Z Z (v5a mo.guar M _ _ _ (RdE.keep (c0.keep0 M) _ _ C0)) (fun n1 x1 d0 T0=>?_) (fun n1 x1 d0 T0=>?_))
   ·obtain⟨_,t0,N0,_,p0,e0,_,_,i0,m0⟩:=RdS.get (D0) (k) (by omega);obtain rfl:=Option.some.inj (q0.symm.trans p0);obtain⟨_,_,_,_,_,_,_,_,_,rfl,_⟩:=G0a.open_ m0;refine lB (d0.k.a i0) [.o 0,.x t0 N0,.f 0 10] Z ⟨Z,⟨e0,by omega⟩,Z,U⟩ (fun v0=>?_) fun v0=>?_
    ·exact lT Z U Z ⟨⟨_,Z,fun _=>trivial⟩,d0.fin⟩
    refine lP0 Z ⟨by omega,U⟩ ⟨μk-1,by omega,Z,(k+1),(by omega),d0,Z⟩
   exact lT Z U Z ⟨⟨_,Z,fun _=>trivial⟩,d0.fin⟩
  exact lT Z U Z ⟨⟨_,Z,fun _=>trivial⟩,c0.fin⟩
 refine lC0 Z U (wL (fun μk D ε w=>D=[]∧∃k:Nat,(k+μk=(p.locks.length))∧St [] w0 w [(some g1,27,[.slice Ac nc cc,.slice Am nm cm,.slice Al nl cl,.slice At nt ct])]∧Sl ε [(1,.pointer (some ⟨g1,0,none⟩)),(7,.int .i64 k)]) (μ:=(p.locks.length)) ⟨Z,0,by omega,S,Z⟩ ?_);rintro μk D ε w ⟨rfl,k,hk,S,eZ⟩;refine wK eZ (wB S.k [.o 0] Z ⟨Z,U⟩ (fun x0=>?_) fun x0=>?_)
 ·obtain⟨lk,u0,O0,_,_,f0,_,_,j0,n0⟩:=RdS.get (o1) (k) (by omega);obtain⟨_,_,_,rfl,_,_,g0⟩:=H4a.open_ n0;refine lO (S.k.a j0) [.o 0,.x u0 O0,.f 0 1] Z ⟨Z,⟨f0,by omega⟩,Z,U⟩ (f0a S W9a Z Z (v5a lk.inv M _ _ _ (RdE.keep (S.keep0 M) _ _ g0)) (fun y0 P0 b0 s0=>?_) (fun y0 P0 b0 s0=>?_))
  ·refine lP0 Z ⟨by omega,U⟩ ⟨μk-1,by omega,Z,(k+1),(by omega),b0,Z⟩
  exact lT Z U Z ⟨⟨_,Z,fun _=>trivial⟩,b0.fin⟩
 exact lT Z U Z ⟨⟨_,Z,fun _=>trivial⟩,S.fin⟩
theorem t9c{a b:Int}(hb:0<b):∃k:Nat,a % b=k∧(k:Int)<b:=by
 have h0:=Int.emod_nonneg a (show b≠0 by omega);have h1:=Int.emod_lt_of_pos a hb;obtain⟨k,hk⟩:=Int.eq_ofNat_of_zero_le h0;exact⟨k,hk,by omega⟩
def F0c(p:i0a)(t k j:Nat)(bs:List Bool):Prop:=bs.length=p.modules.length∧∀m:Nat,m<p.modules.length→(bs.getD m false=true↔x3b p t k j (m:Int))
theorem F0c.zero{p:i0a}{t:Nat}:F0c p t 0 0 (List.replicate p.modules.length false):=by
 refine⟨by simp,fun m hm=>?_⟩;rw[List.getD_eq_getElem?_getD,List.getElem?_replicate,if_pos hm];exact⟨fun h=>(by cases h),fun h=>absurd h x3b.zero⟩
theorem F0c.step{p:i0a}{t k j:Nat}{bs:List Bool}{th:G1a}{s:h1a}(h:F0c p t k j bs)(ht:p.threads[k]?=some th)(hs:th.steps[j]?=some s)(hm:0≤s.module_∧s.module_<p.modules.length):F0c p t k (j+1) (bs.set s.module_.toNat true):=by
 refine⟨by rw[List.length_set];exact h.1,fun m a0=>?_⟩;rw[x3b.step ht hs,←h.2 m a0];by_cases he:s.module_.toNat=m
 ·rw[List.getD_eq_getElem?_getD,he,List.getElem?_set_self (by rw[h.1];exact a0)];exact⟨fun _=>.inr (by omega),fun _=>rfl⟩
 ·rw[List.getD_eq_getElem?_getD,List.getElem?_set_ne he,←List.getD_eq_getElem?_getD];exact⟨.inl,fun hh=>hh.elim id fun hh=>absurd hh (by omega)⟩
theorem F0c.next{p:i0a}{t k:Nat}{bs:List Bool}{th:G1a}(h:F0c p t k th.steps.length bs)(ht:p.threads[k]?=some th)(hk:k≠t):F0c p t (k+1) 0 bs :=
 ⟨h.1,fun m hm=>(h.2 m hm).trans (x3b.next ht hk).symm⟩
theorem F0c.skip{p:i0a}{t k:Nat}{bs:List Bool}(h:F0c p t k 0 bs)(hk:k=t):F0c p t (k+1) 0 bs :=
 ⟨h.1,fun m hm=>(h.2 m hm).trans (x3b.skip hk).symm⟩
section
variable {P:Program} {r:Option Nat} {N:Nat} {D:List Deferred} {e:Env} {w:World} {ops:Array Oper} {rest:List Oper} {K:List Deferred→Env→World→Prop}
variable {d:Nat} {t:TypeId} {p:String} {af:Array Edge} {x y:Operand} {xt yt:TypeId} {a b:Int}
theorem J3c(w:World)(h0:0≤a∧a<9223372036854775808)(h1:0<b):(Op.intDiv .quo .i64 a b).run P w=.ok (.int .i64 (a / b)) w:=by
 have hb:b≠0:=by omega
 have ht:a.tdiv b=a / b:=Int.tdiv_eq_ediv_of_nonneg h0.1;have hd:0≤a / b∧a / b≤a:=⟨Int.ediv_nonneg h0.1 (by omega),Int.ediv_le_self _ h0.1⟩;have hw:IntKind.i64.wrap (a / b)=a / b:=U4a (h0:=hd.1) _;simp[Op.intDiv,hb,ht,hw]
theorem B3d(hx:ev e x=.int .i64 a)(hy:ev e y=.int .i64 b)(h0:0≤a∧a<9223372036854775808)(h1:0<b)(hd:Nat.ble (d+1) N=true)(h:WL P r N ops rest K D (upd e d (.int .i64 (a / b))) w):
 WL P r N ops (⟨some d,.binOp .quo xt x y yt,t,p,af,none⟩::rest) K D e w :=
 W0a Z Z hd (by simp[execOp,hx,hy,eqGuard,binOp,J3c w h0 h1]) h
end
theorem A2c(n:Nat)(hn:n≤20)(w:World):O0a prog 21 #[.int .i64 n] w fun v w'=>v=.int .i64 ((2 ^ n:Nat):Int)∧Below w.heap.size w w' :=
 (f7b n hn w).mono fun _ _ h=>⟨by rw[h.1,D2a],h.2⟩
def moreW(p:i0a)(t:Nat)(l:List Int)(k:Nat):Int:=h9a (((List.range k).filter fun(c:Nat)=>!decide ((c:Int)∈l)&&(decide ((c:Int)∈(onE p t).sup 3)||decide ((c:Int)∈(onE p t).sup 2))).map fun(c:Nat)=>wAt p.cells (c:Int))
theorem U8a{p:i0a}{e:E}(hv:e.valid p.cells true=true)(hw:e.w=1)(o n:List Int):(e.evl o n=1↔e.val o n=1)∧(e.evl o n≠0↔e.val o n=1):=by
 have h1:=(d3a hv).1;have he:e.evl o n=e.val o n:=by unfold E.evl;rw[if_pos h1]
 have hr:=m2a (d3a hv).2.1 o n;rw[hw] at hr;have h2:o2a (1:Int).toNat=2:=by decide
 rw[he];constructor<;>omega
theorem o5c{op unit:Int}(hu:unit=0∨unit=1){l:List E}(h:x2a op unit l≠zE):(x2a op unit l).w=1:=by
 rcases E6a (op:=op) hu l with h1|h1
 ·exact absurd h1 h
 ·exact h1.2
theorem I0c(p:i0a)(M:List Nat)(w0:World)(cs:List Value)(hP:X0a M w0 p cs)(hM:∀g∈M,g<w0.heap.size)(hN:c5a p):
 O0a prog 26 #[.agg cs.toArray] w0 fun v w'=>(∃b,v=.bool b∧(b=true→L1a p))∧Below w0.heap.size w0 w':=by
 obtain⟨_,_,_,_,_,_,_,_,_,_,_,_,rfl,-⟩:=hP.open_;have S:=St.refl w0;refine a0a func26 Z ntmps26 Z ?_;refine wO0 Z U (q0a S Z ?_);intro g1 w1 S1 X1 G1;refine lO S1.k [.w 0] Z ⟨⟨Z,Z⟩,U⟩ (p0a S1 c0d Z Z (L8b p M _ _ (hP.keep (S1.keep0 M)) (fun g hg=>Nat.lt_of_lt_of_le (hM g hg) S1.size) hN) ?_);rintro v8 w8 ⟨_,_,_,rfl,hv⟩ S8 X8;refine lB0 Z U (fun a0=>?_) fun a0=>?_
 ·exact lT Z U Z ⟨⟨_,Z,fun _=>hv a0⟩,S8.fin⟩
 exact lT Z U Z ⟨⟨_,Z,fun h=>by cases h⟩,S8.fin⟩
def shW(c:z1a):Int:=if c.thread=-1 then c.w else 0
def d5a(p:i0a)(k:Nat):Int:=h9a ((p.cells.take k).map shW)
theorem m0b{p:i0a}{k:Nat}{c:z1a}(h:p.cells[k]?=some c):d5a p (k+1)=d5a p k+shW c:=by
 unfold d5a;rw[t0a h,List.map_append,Q6a];simp[h9a]
theorem b6c{p:i0a}(hp:L1a p){c:z1a}(h:c∈p.cells):0≤shW c∧shW c≤8:=by
 have:=(hp.cells c h).w;unfold shW;split<;>omega
theorem z1b{p:i0a}(hp:L1a p):∀k:Nat,0≤d5a p k∧d5a p k≤8*k:=fun k=>by
 induction k with
 | zero=>simp[d5a,h9a]
 | succ k ih =>
   cases h:p.cells[k]? with
   | none =>
     have:d5a p (k+1)=d5a p k:=by
      rw[List.getElem?_eq_none_iff] at h;unfold d5a;rw[List.take_of_length_le (by omega),List.take_of_length_le (by omega)]
     omega
   | some c =>
     have:=b6c hp (List.mem_of_getElem? h);rw[m0b h];omega
theorem U4b(p:i0a)(M:List Nat)(w0:World)(cs:List Value)(hI:InP p M w0 cs):
 O0a prog 22 #[.agg cs.toArray] w0 fun v w'=>v=.int .i64 (d5a p p.cells.length)∧Below w0.heap.size w0 w':=by
 obtain⟨Ac,nc,cc,Am,nm,cm,Al,nl,cl,At,nt,ct,rfl,hC,_⟩:=hI.rd.open_;have hp:=hI.ok;have n1:=hp.ncells;have S:=St.refl w0;refine a0a func22 Z ntmps22 Z ?_;refine wO0 Z U (q0a S Z ?_);intro g1 w1 S1 X1 G1;refine lC0 Z U (wL (fun μk D ε w=>D=[]∧∃k:Nat,∃b:Int,(k+μk=(p.cells.length))∧(b=d5a p k)∧St [] w0 w [(some g1,27,[.slice Ac nc cc,.slice Am nm cm,.slice Al nl cl,.slice At nt ct])]∧Sl ε [(1,.pointer (some ⟨g1,0,none⟩)),(3,.int .i64 b),(4,.int .i64 k)]) (μ:=(p.cells.length)) ⟨Z,0,0,by omega,by simp[d5a,h9a],S1,Z⟩ ?_);rintro μk D ε w ⟨rfl,k,b,_,hb,S,eZ⟩;refine wK eZ (wB S.k [.o 0] Z ⟨Z,U⟩ (fun h9=>?_) fun h9=>?_)
 ·obtain⟨c,n0,p0,_,m0,c0,_,_,e0,g0⟩:=RdS.get (hC) (k) (by omega);obtain⟨rfl,_⟩:=t2a.open_ g0;have r0:=z1b hp k;have a0:=m0b m0;have s0:=(hp.cells c (e0a m0)).w;refine lB (S.k.a e0) [.o 0,.x n0 p0,.f 0 3] Z ⟨Z,⟨c0,by omega⟩,Z,U⟩ (fun b0=>?_) fun b0=>?_
  ·obtain⟨_,o0,q0,_,j0,d0,_,_,f0,i0⟩:=RdS.get (hC) (k) (by omega);obtain rfl:=Option.some.inj (m0.symm.trans j0);obtain⟨rfl,_⟩:=t2a.open_ i0;refine lP (S.k.a f0) [.o 0,.x o0 q0,.f 0 1] Z ⟨by omega,by omega,Z,⟨d0,by omega⟩,Z,U⟩ ?_;refine⟨μk-1,by omega,Z,(k+1),(_),(by omega),?_,S,Z⟩;rw[a0,hb];unfold shW;rw[if_pos b0]
  refine lP0 Z ⟨by omega,U⟩ ⟨μk-1,by omega,Z,(k+1),(_),(by omega),?_,S,Z⟩;rw[a0,hb];unfold shW;(rw[if_neg b0];omega)
 refine lR0 Z U (w0a Z ?_);exact⟨by rw[hb,show k=p.cells.length by omega],S.fin⟩
theorem k1b(p:i0a)(n:Nat)(M:List Nat)(w0:World)(cs:List Value)(hI:InP p M w0 cs)(hn:n≤1000000:=by omega):
 O0a prog 23 #[.agg cs.toArray,.int .i64 n] w0 fun v w'=>(∃l,RdI M w' v l)∧Below w0.heap.size w0 w':=by
 obtain⟨Ac,nc,cc,Am,nm,cm,Al,nl,cl,At,nt,ct,rfl,hC,_⟩:=hI.rd.open_;have hp:=hI.ok;have hM:=hI.lt;have n1:=hp.ncells;have S:=St.refl w0;refine a0a func23 Z ntmps23 Z ?_;refine wO0 Z U (q0a S Z ?_);intro g2 w2 S2 X2 G2;refine lO S2.k [.o 0] Z ⟨Z,U⟩ (s8b (n:=nc) (c:=nc) S2 Y0a Z Z Z Z ?_);intro a0 F0 p0 A0 z0;refine lC0 Z U ?_;refine wL (fun μk D ε w=>D=[]∧∃k:Nat,∃sg:List Int,∃r:Nat,(k+μk=(p.cells.length))∧(sg.length=nc)∧(∀x∈sg,i64 x)∧(r≤1000000)∧St [] w0 w [(some a0,3,sg.map (Value.int .i64)),(some g2,27,[.slice Ac nc cc,.slice Am nm cm,.slice Al nl cl,.slice At nt ct])]∧Sl ε [(1,.int .i64 r),(2,.pointer (some ⟨g2,0,none⟩)),(5,.slice (some ⟨a0,0,none⟩) nc nc),(6,.int .i64 k)]) (μ:=(p.cells.length)) ⟨Z,0,List.replicate nc 0,n,by omega,by simp,(by intro x hx;rw[(List.mem_replicate.1 hx).2];unfold i64;omega),hn,(by rw[List.map_replicate];exact p0),Z⟩ ?_;rintro μk D ε w ⟨rfl,k,sg,r,_,j0,i0,hr,S,eZ⟩;refine wK eZ (wB S.k [.o 1] Z ⟨Z,U⟩ (fun t0=>?_) fun t0=>?_)
 ·obtain⟨c,r0,x0,_,o0,b0,_,_,d0,f0⟩:=RdS.get (hC) (k) (by omega);obtain⟨rfl,_⟩:=t2a.open_ f0;have C0:=(hp.cells c (e0a o0)).w;refine lB (S.k.a d0) [.o 1,.x r0 x0,.f 0 3] Z ⟨Z,⟨b0,by omega⟩,Z,U⟩ (fun u0=>?_) fun u0=>?_
  ·obtain⟨_,s0,y0,_,m0,c0,_,_,e0,g0⟩:=RdS.get (hC) (k) (by omega);obtain rfl:=Option.some.inj (o0.symm.trans m0);obtain⟨rfl,_⟩:=t2a.open_ g0;refine lO (S.k.a e0) [.o 1,.x s0 y0,.f 0 1] Z ⟨Z,⟨c0,by omega⟩,Z,U⟩ (U0a S O7b Z Z ((q2b c.w _).mono (fun v w' h=>⟨h.1.trans (by rw[D2a]),h.2⟩)) ?_);intro G0 n0 B0;have v0:0<2 ^ c.w.toNat:=Nat.two_pow_pos _;have E0:2 ^ c.w.toNat≤2 ^ 8:=Nat.pow_le_pow_right (by omega) (by omega);refine lO0 Z U (o2d Z Z Z ?_);rw[show((r:Int) % ((2 ^ c.w.toNat:Nat):Int))=((r % 2 ^ c.w.toNat:Nat):Int) by simp];refine lO n0.k [.i] Z ⟨by omega,U⟩ ?_;have D0:r % 2 ^ c.w.toNat<2 ^ c.w.toNat:=Nat.mod_lt _ v0;refine T0a (hy:=Z) (kk:=0) (v:=.int .i64 ((r % 2 ^ c.w.toNat:Nat):Int)) n0 R2c Z Z Z (by rw[List.length_map];omega) ?_;intro w7 q0 X7;have S7:St [] w0 w7 [(some a0,3,(sg.set k ((r % 2 ^ c.w.toNat:Nat):Int)).map (Value.int .i64)),(some g2,27,[.slice Ac nc cc,.slice Am nm cm,.slice Al nl cl,.slice At nt ct])]:=by
    have h:=q0;dsimp only[List.set] at h;rw[show 0+(k:Int).toNat*1=k by omega,←List.map_set] at h;exact h
   refine lO0 Z U (B3d Z Z (by omega) (by omega) Z ?_);rw[show((r:Int) / ((2 ^ c.w.toNat:Nat):Int))=((r / 2 ^ c.w.toNat:Nat):Int) from rfl];refine lP0 Z ⟨by omega,U⟩ ⟨μk-1,by omega,Z,(k+1),(_),(_),(by omega),?_,?_,?_,S7,Z⟩;rw[List.length_set];exact j0
   ·intro x hx;rcases List.mem_or_eq_of_mem_set hx with h|rfl;exact i0 x h;unfold i64;omega
   ·exact Nat.le_trans (Nat.div_le_self _ _) hr
  refine lP0 Z ⟨by omega,U⟩ ⟨μk-1,by omega,Z,(k+1),(_),(_),(by omega),?_,?_,?_,S,Z⟩;exact j0
  ·exact i0
  ·exact hr
 refine lR0 Z U (w0a Z ?_);exact⟨⟨sg,X3a (hM:=(p3a S (k:=0) Z hM)) S (k:=0) Z j0.symm i0⟩,S.fin⟩
theorem v0c(p:i0a)(M:List Nat)(w0:World)(cs:List Value)(hP:X0a M w0 p cs)(hK:f2a M w0)(hM:∀g∈M,g<w0.heap.size)(hN:c5a p):
 O0a prog 16 #[.agg cs.toArray] w0 fun v w'=>(∃b,v=.bool b∧(b=true→L1a p∧d5a p p.cells.length≤5))∧Below w0.heap.size w0 w':=by
 obtain⟨_,_,_,_,_,_,_,_,_,_,_,_,rfl,-⟩:=hP.open_;have S:=St.refl w0;refine a0a func16 Z ntmps16 Z ?_;refine wO0 Z U (q0a S Z ?_);intro g1 w1 S1 X1 G1;refine lO S1.k [.w 0] Z ⟨⟨Z,Z⟩,U⟩ (f0b S1 U1d Z Z (u4c p M _ _ (hP.keep (S1.keep0 M))) (fun h4 w4 S4 X4=>?_) (fun w4 S4 X4=>?_))
 ·refine lO S4.k [.w 0] Z ⟨⟨Z,Z⟩,U⟩ (f0b S4 x5c Z Z (I0c p M _ _ (hP.keep (S4.keep0 M)) (fun g hg=>Nat.lt_of_lt_of_le (hM g hg) S4.size) hN) (fun h7 w7 S7 X7=>?_) (fun w7 S7 X7=>?_))
  ·refine lO S7.k [.w 0] Z ⟨⟨Z,Z⟩,U⟩ (U0a S7 Y5c Z Z (U4b p M _ _ ⟨hP.keep (S7.keep0 M),h7,hK.keep (S7.keep0 M),fun g hg=>Nat.lt_of_lt_of_le (hM g hg) S7.size⟩) ?_);intro d0 a0 c0;refine lB0 Z U (fun b0=>?_) fun b0=>?_
   ·exact lT Z U Z ⟨⟨_,Z,fun _=>⟨h7,by omega⟩⟩,a0.fin⟩
   exact lT Z U Z ⟨⟨_,Z,fun h=>by cases h⟩,a0.fin⟩
  exact lT Z U Z ⟨⟨_,Z,fun h=>by cases h⟩,S7.fin⟩
 exact lT Z U Z ⟨⟨_,Z,fun h=>by cases h⟩,S4.fin⟩
def orV(p:i0a)(l:List Int)(o n:List Int):Int:=if l.any (fun x=>decide ((p2a p x).evl o n=1)) then 1 else 0
theorem O0c(p:i0a)(l:List Int)(o n:List Int):orV p l o n=0∨orV p l o n=1:=by unfold orV;split<;>simp
theorem X5b{p:i0a}{l:List Int}{o n:List Int}:orV p l o n=1↔∃x∈l,(p2a p x).evl o n=1:=by
 unfold orV
 split
 ·rename_i h;obtain⟨x,hx,h⟩:=List.any_eq_true.1 h;exact⟨fun _=>⟨x,hx,of_decide_eq_true h⟩,fun _=>rfl⟩
 ·rename_i h;refine⟨fun h0=>absurd h0 (by decide),fun⟨x,hx,h1⟩=>absurd (List.any_eq_true.2 ⟨x,hx,decide_eq_true h1⟩) h⟩
theorem f2d{p:i0a}{e:E}(hv:e.valid p.cells true=true)(hw:e.w=1)(o n:List Int):e.evl o n=0∨e.evl o n=1:=by
 have h1:=U8a hv hw o n;by_cases h:e.evl o n=0
 ·exact .inl h
 ·exact .inr (h1.1.2 (h1.2.1 h))
theorem e7c{p:i0a}{m:Int}:(p2a p m).op≠0→p2a p m≠zE:=fun h e=>h (by rw[e];rfl)
structure q2c (p:i0a) (s:List Int) (e:E):Prop where
 valid:e.valid p.cells true=true
 w:e.w=1
 evl:∀o n,e.evl o n=orV p s o n
theorem W9b{p:i0a}(hp:L1a p){m:Nat}{s:List Int}(hs:D5a p m s)(h:(w2a p s).2=0):q2c p s (w2a p s).1∧∀x∈s,p2a p x≠zE:=by
 have b0:∀x∈s,0≤x∧x<p.modules.length:=fun x hx=>X7b hp ((hs.2 x).1 hx);unfold w2a at h ⊢;by_cases ha:s.all (fun x=>decide ((p2a p x).op≠0))=true
 ·rw[if_pos ha] at h ⊢;have hz:∀x∈s,p2a p x≠zE:=fun x hx=>e7c (of_decide_eq_true (List.all_eq_true.1 ha x hx));by_cases hf:(x2a 6 0 (s.map (p2a p))).op=0
  ·rw[if_pos hf] at h;cases h
  rw[if_neg hf] at h ⊢;by_cases hq:(j9b (x2a 6 0 (s.map (p2a p)))).op=0
  ·rw[if_pos hq] at h;cases h
  rw[if_neg hq] at h ⊢;refine⟨?_,hz⟩;have e0:x2a 6 0 (s.map (p2a p))≠zE:=fun e=>hf (by rw[e];rfl);have hw:(x2a 6 0 (s.map (p2a p))).wf=true∧(x2a 6 0 (s.map (p2a p))).w=1:=by
   rcases E6a (op:=6) (unit:=0) (.inl Z) (s.map (p2a p)) with h1|h1
   ·exact absurd h1 e0
   ·exact h1
  have ho:(x2a 6 0 (s.map (p2a p))).over p.cells true=true:=D1b (.inr Z) fun e he=>by
   obtain⟨x,hx,rfl⟩:=List.mem_map.1 he;exact e5b hp (b0 x hx)
  obtain⟨a0,c0⟩:=D7c hw.1;have hv:(j9b (x2a 6 0 (s.map (p2a p)))).valid p.cells true=true:=by
   unfold E.valid;rw[Bool.and_eq_true];exact⟨c0,a0.over _ _ ho⟩
  have d0:(j9b (x2a 6 0 (s.map (p2a p)))).w=1:=a0.w.trans hw.2;refine⟨hv,d0,fun o n=>?_⟩;have h1:=(U8a hv d0 o n).1;have h2:(j9b (x2a 6 0 (s.map (p2a p)))).evl o n=1↔orV p s o n=1:=by
   rw[h1,a0.val,i2d e0,X5b];constructor
   ·rintro⟨e,he,h3⟩;obtain⟨x,hx,rfl⟩:=List.mem_map.1 he;exact⟨x,hx,(U8a (W1b hp (b0 x hx) (hz x hx)) (o5c (.inr Z) (hz x hx)) o n).1.2 h3⟩
   ·rintro⟨x,hx,h3⟩;exact⟨_,List.mem_map.2 ⟨x,hx,Z⟩,(U8a (W1b hp (b0 x hx) (hz x hx)) (o5c (.inr Z) (hz x hx)) o n).1.1 h3⟩
  rcases f2d hv d0 o n with h3|h3<;>rcases O0c p s o n with h4|h4
  ·rw[h3,h4]
  ·rw[h2.2 h4] at h3;cases h3
  ·rw[h2.1 h3] at h4;cases h4
  ·rw[h3,h4]
 ·rw[if_neg ha] at h;cases h
theorem V3b(p:i0a)(s:List Int):(w2a p s).2=0∨(w2a p s).2=2:=by
 unfold w2a
 split
 ·split
  ·exact .inr Z
  ·split
   ·exact .inr Z
   ·exact .inl Z
 ·exact .inr Z
def u6c(p q:i0a):Prop:=∃k last:Nat,p.threads.length=last+1∧1≤last∧k≤p.cells.length∧q=⟨p.cells.take k,p.modules,p.locks,p.threads.take last⟩∧∀(j:Nat) (c:z1a),k≤j→p.cells[j]?=some c→c.thread=last
theorem w0c{α:Type}{l:List α}{k i:Nat}{d:α}(h:i<k):(l.take k).getD i d=l.getD i d:=by
 rw[List.getD_eq_getElem?_getD,List.getD_eq_getElem?_getD,List.getElem?_take,if_pos h]
theorem g0d{p q:i0a}(h:u6c p q):ofL q (-1)=ofL p (-1):=by
 obtain⟨k,a0,_,_,h3,rfl,h4⟩:=h;have hk:(p.cells.take k).length=k:=by rw[List.length_take];omega
 unfold ofL m0c;rw[show(⟨p.cells.take k,p.modules,p.locks,p.threads.take a0⟩:i0a).cells.length=k from hk];have hs:∀n:Nat,k≤n→n≤p.cells.length→((List.range n).filter fun(c:Nat)=>decide (m1a p.cells c=-1))=(List.range k).filter fun(c:Nat)=>decide (m1a p.cells c=-1):=by
  intro n
  induction n with
  | zero=>intro h0 _;rw[show k=0 by omega]
  | succ n ih =>
    intro h0 hn;by_cases c0:k=n+1
    ·rw[c0]
    ·rw[List.range_succ,List.filter_append,ih (by omega) (by omega)];have hx:p.cells[n]?=some p.cells[n]:=List.getElem?_eq_getElem (by omega);have e0:=h4 n _ (by omega) hx;have:m1a p.cells (n:Int)=p.cells[n].thread:=by
      unfold m1a;rw[List.getD_eq_getElem?_getD,show((n:Nat):Int).toNat=n by omega,hx];rfl
     have d0:m1a p.cells (n:Int)≠-1:=by rw[this,e0];omega
     simp[d0]
 rw[hs p.cells.length h3 (Nat.le_refl _)]
 congr 1
 refine List.filter_congr fun c hc=>?_;have b0:=List.mem_range.1 hc;have:m1a (p.cells.take k) (c:Int)=m1a p.cells (c:Int):=by
  unfold m1a;rw[show((c:Nat):Int).toNat=c by omega,w0c b0]
 rw[this]
theorem v3d{p q:i0a}(h:u6c p q){c:Int}(hc:0≤c∧c<q.cells.length):wAt q.cells c=wAt p.cells c:=by
 obtain⟨k,_,_,_,_,rfl,_⟩:=h;have hk:(p.cells.take k).length=k:=by rw[List.length_take];omega
 have h5:c<k:=by have:=hc.2;simp only[hk] at this;exact this
 unfold wAt;rw[if_pos hc.1,if_pos hc.1,List.getElem?_take,if_pos (by omega)]
theorem A3c{p q:i0a}(h:u6c p q)(m:Int):p2a q m=p2a p m:=by
 have ho:=g0d h;have hw:=fun {c:Int}=>v3d h (c:=c);have hm:q.modules=p.modules:=by obtain⟨k,c0,h1,h2,h3,rfl,h4⟩:=h;rfl
 have b0:Y4c q m.toNat=Y4c p m.toNat:=by unfold Y4c;rw[hm]
 unfold p2a A8b;rw[b0,ho]
 congr 2
 refine List.map_congr_left fun c hc=>?_;have a0:=(List.mem_filter.1 hc).1;rw[←ho] at a0;have h2:=s2b.1 a0;unfold a1b;rw[hw ⟨h2.1,h2.2.1⟩]
theorem F4c{p q:i0a}(h:u6c p q){x:Int×Int}(hx:V5a q q.threads.length x):V5a p p.threads.length x:=by
 obtain⟨_,a0,_,_,_,rfl,_⟩:=h;obtain⟨t,ht,u,th,uh,s,n,a1,a2,a3,a4,a5,a6,rfl⟩:=hx;have hl:(p.threads.take a0).length=a0:=by rw[List.length_take];omega
 have b1:t<a0:=by simpa[hl] using ht
 have b2:u<a0:=by simpa[hl] using a1
 have c1:p.threads[t]?=some th:=by
  have:(p.threads.take a0)[t]?=some th:=a3
  rwa [List.getElem?_take,if_pos b1] at this
 have c2:p.threads[u]?=some uh:=by
  have:(p.threads.take a0)[u]?=some uh:=a4
  rwa [List.getElem?_take,if_pos b2] at this
 exact⟨t,by omega,u,th,uh,s,n,by omega,a2,c1,c2,a5,a6,Z⟩
theorem e4c{p q:i0a}(h:u6c p q){m:Nat}{s s':List Int}(hs:D5a p m s)(b0:D5a q m s'){e e':E}(he:q2c p s e)(a0:q2c q s' e')(o n:List Int):e'.evl o n≤e.evl o n:=by
 rw[he.evl,a0.evl];rcases O0c q s' o n with h1|h1
 ·rw[h1];rcases O0c p s o n with h2|h2<;>rw[h2]<;>decide
 ·obtain⟨x,hx,h2⟩:=X5b.1 h1;have h3:orV p s o n=1:=X5b.2 ⟨x,(hs.2 x).2 (F4c h ((b0.2 x).1 hx)),by rw[←A3c h];exact h2⟩;rw[h1,h3];decide
theorem n0c{p q:i0a}(h:u6c p q)(hn:c5a p):c5a q:=by
 obtain⟨_,_,_,_,_,rfl,_⟩:=h;exact⟨fun c hc=>hn.cells c (List.mem_of_mem_take hc),hn.mods,fun t ht=>hn.threads t (List.mem_of_mem_take ht)⟩
theorem E9b(p:i0a)(M:List Nat)(w0:World)(cs:List Value)(hI:InP p M w0 cs):
 O0a prog 25 #[.agg cs.toArray] w0 fun v w'=>(∃(b:Bool) (A1 A2 A3 A4:Option Addr) (n1 c1 n2 c2 n3 c3 n4 c4:Nat),v=.tuple #[.agg #[.slice A1 n1 c1,.slice A2 n2 c2,.slice A3 n3 c3,.slice A4 n4 c4],.bool b]∧(b=true→∃q,u6c p q∧X0a M w' q [.slice A1 n1 c1,.slice A2 n2 c2,.slice A3 n3 c3,.slice A4 n4 c4]))∧Below w0.heap.size w0 w':=by
 obtain⟨Ac,nc,cc,Am,nm,cm,Al,nl,cl,At,nt,ct,rfl,hC,D1,C1,p0,_⟩:=hI.rd.open_;have hp:=hI.ok;have hM:=hI.lt;have n1:=hp.ncells;have n4:=hp.nthreads;have E1:=p0.at.2.1;have S:=(St.refl w0).nilEnt 82;refine a0a func25 Z ntmps25 Z ?_;refine wO0 Z U (q0a S Z ?_);intro g1 w1 S1 X1 G1;refine h0a S1 G7a Z Z ?_;intro g2 w2 S2 X2 G2;refine lB S2.k [.o 1] Z ⟨by omega,Z,U⟩ (fun t1=>?_) fun t1=>?_
 ·refine lO S2.k [.w 1] Z ⟨⟨Z,Z⟩,U⟩ (b0a (kk:=0) (vs:=[_,_,_,_]) S2 s6a Z Z Z Z Z Z Z ?_);intro K1 f0 i1;dsimp only[d0a,List.set] at f0;exact lR0 Z U (a2a (v:=.bool false) Z G3a Z (f0.cells 0 Z) Z Z ⟨⟨false,_,_,_,_,_,_,_,_,_,_,_,_,Z,fun h=>by cases h⟩,f0.nil.fin⟩)
 refine lO S2.k [.w 1] Z ⟨⟨Z,Z⟩,U⟩ (h0a S2 G7a Z Z ?_);intro g5 w5 S5 X5 G5;refine b0a (kk:=0) (vs:=[_,_,_,_]) S5 s6a Z Z Z Z Z Z Z ?_;intro M1 g0 j1;dsimp only[d0a,List.set] at g0;refine lO g0.k [.o 2] Z ⟨Z,U⟩ (c2c (k:=nt-1) v8a.slT Z (congrArg (Value.int .i64) (show(nt:Int)-1=((nt-1:Nat):Int) by omega)) (by omega) Z ?_);refine lO0 Z U (T0a (kk:=0) g0 M1d Z Z Z (by exact Nat.le_of_ble_eq_true Z) ?_);intro N1 q0 m1;refine lC0 Z U (wL (fun μt D ε w=>D=[]∧∃t:Nat,(t+μt=((nt-1)))∧St [] w0 w [(some g5,27,[.slice Ac nc cc,.slice Am nm cm,.slice Al nl cl,.slice At (nt-1) ct]),(some g2,27,[.slice none 0 0,.slice none 0 0,.slice none 0 0,.slice none 0 0]),(some g1,27,[.slice Ac nc cc,.slice Am nm cm,.slice Al nl cl,.slice At nt ct]),(none,82,[])]∧Sl ε [(1,.pointer (some ⟨g1,0,none⟩)),(2,.pointer (some ⟨g2,0,none⟩)),(4,.int .i64 ((nt:Int)-1)),(5,.pointer (some ⟨g5,0,none⟩)),(6,.int .i64 t)]) (μ:=((nt-1))) ⟨Z,0,by omega,q0,Z⟩ ?_);rintro μt D ε w ⟨rfl,t,_,S,eZ⟩;refine wK eZ (wB0 Z U (fun u1=>?_) fun u1=>?_)
 ·obtain⟨th,o0⟩:∃th,p.threads[t]?=some th:=⟨_,List.getElem?_eq_getElem (by omega)⟩;refine lC0 Z U (wL (fun μi D ε w=>D=[]∧∃i:Nat,(i+μi=(th.steps.length))∧St [] w0 w [(some g5,27,[.slice Ac nc cc,.slice Am nm cm,.slice Al nl cl,.slice At (nt-1) ct]),(some g2,27,[.slice none 0 0,.slice none 0 0,.slice none 0 0,.slice none 0 0]),(some g1,27,[.slice Ac nc cc,.slice Am nm cm,.slice Al nl cl,.slice At nt ct]),(none,82,[])]∧Sl ε [(1,.pointer (some ⟨g1,0,none⟩)),(2,.pointer (some ⟨g2,0,none⟩)),(4,.int .i64 ((nt:Int)-1)),(5,.pointer (some ⟨g5,0,none⟩)),(6,.int .i64 t),(7,.int .i64 i)]) (μ:=(th.steps.length)) ⟨Z,0,by omega,S,Z⟩ ?_);rintro μi D ε w ⟨rfl,i,hi,S,eZ⟩;refine wK eZ ?_;obtain⟨_,o1,F1,_,H0,r0,_,_,v0,D0⟩:=RdS.get (p0) (t) (by omega);obtain rfl:=Option.some.inj (o0.symm.trans H0);obtain⟨_,_,_,_,_,_,_,_,_,_,_,_,rfl,_⟩:=M0a.open_ D0;refine wB (S.k.a v0) [.o 2,.x o1 F1,.f 0 4] Z ⟨Z,⟨r0,by omega⟩,Z,U⟩ (fun v1=>?_) fun v1=>?_
  ·obtain⟨_,p1,H1,_,I0,s0,_,_,x0,E0⟩:=RdS.get (p0) (t) (by omega);obtain rfl:=Option.some.inj (o0.symm.trans I0);obtain⟨_,_,_,_,_,_,_,_,_,_,_,_,rfl,_,_,_,n0,_⟩:=M0a.open_ E0;obtain⟨_,q1,I1,_,_,t0,_,_,y0,F0⟩:=RdS.get (n0) (i) (by omega);obtain⟨_,_,_,_,_,_,rfl,⟨_,_⟩,_⟩:=v1a.open_ F0;refine lB ((S.k.a y0).a x0) [.o 2,.x p1 H1,.f 0 4,.x q1 I1,.f 1 9] Z ⟨Z,⟨t0,by omega⟩,Z,⟨s0,by omega⟩,Z,U⟩ (fun x1=>?_) fun x1=>?_
   ·refine lO S.k [.w 2] Z ⟨⟨Z,Z⟩,U⟩ (b0a (kk:=1) (vs:=[_,_,_,_]) S s6a Z Z Z Z Z Z Z ?_);intro X0 d0 P0;dsimp only[d0a,List.set] at d0;exact lR0 Z U (a2a (v:=.bool false) Z G3a Z (d0.cells 1 Z) Z Z ⟨⟨false,_,_,_,_,_,_,_,_,_,_,_,_,Z,fun h=>by cases h⟩,d0.nil.fin⟩)
   refine lP0 Z ⟨by omega,U⟩ ⟨μi-1,by omega,Z,(i+1),(by omega),S,Z⟩
  refine lP0 Z ⟨by omega,U⟩ ⟨μt-1,by omega,Z,(t+1),(by omega),S,Z⟩
 refine lO0 Z U (T0a (kk:=0) S G0d Z Z Z (by exact Nat.le_of_ble_eq_true Z) ?_);intro Y0 j0 Q0;refine lC0 Z U (wL (fun μi D ε w=>D=[]∧∃i:Nat,∃k:Nat,∃G:Option Nat,∃cs2:List Value,∃Av:Option Addr,∃cv:Nat,(i+μi=(p.cells.length))∧(w1a (fun _ _=>t2a) 6 [] w0 G cs2 (.slice Av k cv) (p.cells.take k))∧(k≤i)∧(∀(j:Nat) (c:z1a),k≤j→j<i→p.cells[j]?=some c→c.thread=(nt:Int)-1)∧St [] w0 w [(some g5,27,[.slice Av k cv,.slice Am nm cm,.slice Al nl cl,.slice At (nt-1) ct]),(some g2,27,[.slice none 0 0,.slice none 0 0,.slice none 0 0,.slice none 0 0]),(some g1,27,[.slice Ac nc cc,.slice Am nm cm,.slice Al nl cl,.slice At nt ct]),(G,82,cs2)]∧Sl ε [(1,.pointer (some ⟨g1,0,none⟩)),(2,.pointer (some ⟨g2,0,none⟩)),(4,.int .i64 ((nt:Int)-1)),(5,.pointer (some ⟨g5,0,none⟩)),(8,.int .i64 i)]) (μ:=(p.cells.length)) ⟨Z,0,0,none,[],none,0,by omega,w1a.nil,by omega,(fun j c _ h=>absurd h (by omega)),j0,Z⟩ ?_);rintro μi D ε w ⟨rfl,i,k,G,cs2,Av,cv,hi,i0,_,V0,S,eZ⟩;refine wK eZ (wB S.k [.o 2] Z ⟨Z,U⟩ (fun y1=>?_) fun y1=>?_)
 ·obtain⟨c,r1,J1,_,W0,u0,_,B0,z0,G0⟩:=RdS.get (hC) (i) (by omega);obtain⟨rfl,J0,K0,L0,N0⟩:=t2a.open_ G0;refine lO (S.k.a z0) [.o 2,.x r1 J1,.v 0] Z ⟨⟨Z,B0⟩,⟨u0,by omega⟩,Z,U⟩ (h0a S G3c Z Z ?_);intro g9 w9 S9 X9 G9;refine b0a (kk:=0) (vs:=[_,_,_,_,_,_]) S9 k3c Z Z Z Z Z Z Z ?_;intro Z0 b0 R0;dsimp only[d0a,List.set] at b0;refine lB b0.k [.o 0] Z ⟨Z,U⟩ (fun z1=>?_) fun z1=>?_
  ·refine lP0 Z ⟨by omega,U⟩ ⟨μi-1,by omega,Z,(i+1),(_),(_),(_),(_),(_),(by omega),?_,?_,?_,b0.tail,Z⟩;exact i0
   ·omega
   ·intro j c' h1 h2 h3;by_cases hj:j=i
    ·subst hj;rw[W0] at h3;cases h3;omega
    ·exact V0 j c' h1 (by omega) h3
  refine lB b0.k [.o 1] Z ⟨Z,U⟩ (fun B1=>?_) fun B1=>?_
  ·refine lO b0.k [.w 3] Z ⟨⟨Z,Z⟩,U⟩ (b0a (kk:=2) (vs:=[_,_,_,_]) b0 s6a Z Z Z Z Z Z Z ?_);intro a1 e0 S0;dsimp only[d0a,List.set] at e0;exact lR0 Z U (a2a (v:=.bool false) Z G3a Z (e0.cells 2 Z) Z Z ⟨⟨false,_,_,_,_,_,_,_,_,_,_,_,_,Z,fun h=>by cases h⟩,e0.nil.fin⟩)
  refine lO b0.k [.o 1,.w 0] Z ⟨⟨Z,by rfl⟩,Z,U⟩ (y0a b0 z3a (vs:=[.agg _]) (cs:=[_,_,_,_,_,_]) Z Z Z Z Z Z ?_);intro U1 W1 O0 R1 P1;have A0:k=i:=by omega
  refine E1a r9a (k:=5) (M2:=[]) (e1:=c) O0 z3a Z i0 Z Z (O0.cells 0 Z) ⟨Z,J0,K0,L0,N0⟩ (by rw[List.length_take];omega) Z ?_;intro V1 Q1 s1 Y1 f1 c0 T1 O1;obtain⟨_,_,rfl⟩:=w1a.form c0;have C0:(p.cells.take k++[c]).length=k+1:=by rw[List.length_append,List.length_take];simp;omega
  rw[C0] at c0 ⊢;refine lO0 Z U (T0a (kk:=2) f1 G0d Z Z Z (by exact Nat.le_of_ble_eq_true Z) ?_);intro b1 m0 T0;refine lP0 Z ⟨by omega,U⟩ ⟨μi-1,by omega,Z,(i+1),(_),(_),(_),(_),(_),(by omega),?_,?_,?_,m0.tail.tail,Z⟩;subst A0;rw[t0a W0];exact c0
  ·omega
  ·intro j c' h1 h2 h3;exfalso;omega
 refine lO S.k [.w 0] Z ⟨⟨Z,Z⟩,U⟩ (b0a (kk:=1) (vs:=[_,_,_,_]) S s6a Z Z Z Z Z Z Z ?_);intro d1 a0 U0;dsimp only[d0a,List.set] at a0;refine lR0 Z U ?_;refine a2a (v:=.bool true) Z G3a Z (a0.cells 1 Z) Z Z ⟨⟨true,_,_,_,_,_,_,_,_,_,_,_,_,Z,fun _=>⟨⟨p.cells.take k,p.modules,p.locks,p.threads.take (nt-1)⟩,⟨k,nt-1,by omega,by omega,by omega,Z,fun j c h1 h2=>(V0 j c h1 (by have:=t4a h2;omega) h2).trans (by omega)⟩,?_⟩⟩,a0.nil.fin⟩;exact⟨_,_,_,_,Z,w1a.rd r9a i0 a0 (k:=3) Z (fun g hg hh=>by subst hg;exact p3a a0 (k:=3) Z hM hh) (by rw[List.length_take];omega),RdS.keepW D1 (a0.keep0 M) (G0a.keep (a0.keep0 M)),RdS.keepW C1 (a0.keep0 M) (H4a.keep (a0.keep0 M)),RdS.take (RdS.keepW p0 (a0.keep0 M) (M0a.keep (a0.keep0 M))) (nt-1) (by omega)⟩
theorem G2b(p:i0a)(mo:Int)(V1:0≤mo∧mo≤255)(w0:World)(cs:List Value)(hP:X0a [] w0 p cs)(U0:c5a p)(hK:f2a [] w0)(hN:D7a [] w0):
 O0a prog 5 #[.agg cs.toArray,.int .u8 mo] w0 fun v w'=>v=.bool true∧Below w0.heap.size w0 w':=by
 obtain⟨Ac,nc,cc,Am,nm,cm,Al,nl,cl,At,nt,ct,rfl,_⟩:=hP.open_;have S:=St.refl w0;refine a0a func5 Z ntmps5 Z ?_;refine wO0 Z U (q0a S Z ?_);intro g2 w2 S2 X2 G2;refine lO0 Z U (U0a S2 Q0d Z Z (J0c _ (hK.keep (S2.keep0 [])) (hN.keep (S2.keep0 []))) ?_);intro f2 s0 P1;refine lO s0.k [.w 0] Z ⟨⟨Z,Z⟩,U⟩ (f0b s0 u1d Z Z (v0c p [] _ _ (hP.keep (s0.keep0 [])) (hK.keep (s0.keep0 [])) (by simp) U0) (fun Q0 H1 f0 p1=>?_) (fun H1 f0 p1=>?_))
 ·refine lB f0.k [.o 0] Z ⟨Z,U⟩ (fun r1=>?_) fun r1=>?_
  ·exact lT Z U Z ⟨Z,f0.fin⟩
  have hI:InP p [] w0 [.slice Ac nc cc,.slice Am nm cm,.slice Al nl cl,.slice At nt ct]:=⟨hP,Q0.1,hK,by simp⟩;have hp:=hI.ok;have W1:=hp.nmodules;have z1:=z1b hp p.cells.length;have U1:=Q0.2;obtain⟨d0,C0⟩:=Int.eq_ofNat_of_zero_le z1.1;refine lO f0.k [.w 0] Z ⟨⟨Z,Z⟩,U⟩ (p0a f0 j0d Z Z (E9b p [] _ _ (hI.keep (f0.keep0 []))) ?_);rintro Y1 f1 ⟨b,A1,A2,A3,A4,n1,c1,n2,c2,n3,c3,n4,c4,rfl,hq⟩ t0 Q1;have KQ:=z0a.refl [] f1;refine lOn 2 t0.k [] Z U ?_;cases B0:b
  ·refine Z4b Z Z Z ?_;refine h0a t0 G7a Z Z ?_;intro g6 w6 S6 X6 G6;have e0:=Nat.le_trans KQ.size G6;replace KQ:=KQ.trans X6;refine b0a (kk:=0) (vs:=[_,_,_,_]) S6 s6a Z Z Z Z Z Z Z ?_;intro E0 a0 g0;dsimp only[d0a,List.set] at a0;replace KQ:=KQ.fresh g0 (by first|exact e0);exact lT Z U Z ⟨Z,a0.fin⟩
  refine Z4b Z Z Z ?_;refine h0a t0 G7a Z Z ?_;intro g6 w6 S6 X6 G6;have e0:=Nat.le_trans KQ.size G6;replace KQ:=KQ.trans X6;refine b0a (kk:=0) (vs:=[_,_,_,_]) S6 s6a Z Z Z Z Z Z Z ?_;intro E0 a0 g0;dsimp only[d0a,List.set] at a0;replace KQ:=KQ.fresh g0 (by first|exact e0);refine lO a0.k [.w 0] Z ⟨⟨Z,Z⟩,U⟩ ?_;obtain⟨q,D0,hQ⟩:=hq B0;have D1:q.modules=p.modules:=by obtain⟨k,G1,-,-,-,rfl,-⟩:=D0;rfl
  refine f0b a0 x5c Z Z (I0c q [] _ _ (X0a.keep KQ hQ) (by simp) (n0c D0 U0)) (fun t1 I1 m0 N0=>?_) (fun I1 m0 N0=>?_)
  ·replace KQ:=KQ.trans N0;have T0:InP q [] f1 [.slice A1 n1 c1,.slice A2 n2 c2,.slice A3 n3 c3,.slice A4 n4 c4]:=⟨hQ,t1,hK.keep (t0.keep0 []),by simp⟩;refine lO0 Z U (P2c Tryz.underlying5 Tryz.underlying3 Z Z ?_);rw[T2a (by unfold i64;omega)];refine lO m0.k [.o 1] Z ⟨Z,U⟩ (o2d Z Z Z ?_);obtain⟨m,hm,_⟩:=t9c (a:=mo) (b:=(nm:Int)) (by omega);rw[hm];refine lO m0.k [.w 0] Z ⟨⟨Z,Z⟩,U⟩ ?_;refine p0a m0 s5b Z Z (K5a q m (by rw[D1];omega) [] _ _ (T0.keep KQ)) ?_;rintro v51 F0 ⟨s1,_,V0,rfl,b1⟩ i1 R1;obtain⟨I0,X0,Z0,rfl,-⟩:=b1.open_;have K1:=z0a.refl [] F0;refine lO0 Z U (h0a i1 r1a Z Z ?_);intro g9 w9 S9 X9 G9;have v0:=Nat.le_trans K1.size G9;replace K1:=K1.trans X9;refine b0a (kk:=0) (vs:=[_,_,_,_]) S9 v0a Z Z Z Z Z Z Z ?_;intro J1 c0 z0;dsimp only[d0a,List.set] at c0;replace K1:=K1.fresh z0 (by exact v0);refine lO c0.k [.w 2] Z ⟨⟨Z,Z⟩,U⟩ (p0a c0 s5b Z Z (K5a p m (by omega) [] _ _ (hI.keep (c0.keep0 []))) ?_);rintro Z1 G0 ⟨s2,_,W0,rfl,d1⟩ j1 q1;replace K1:=K1.trans q1;obtain⟨J0,Y0,a1,rfl,-⟩:=d1.open_;have K2:=z0a.refl [] G0;refine lO0 Z U (h0a j1 r1a Z Z ?_);intro u0 e2 g1 L0 K0;have i0:=Nat.le_trans K1.size K0;have j0:=Nat.le_trans K2.size K0;replace K1:=K1.trans L0;replace K2:=K2.trans L0;refine b0a (kk:=0) (vs:=[_,_,_,_]) g1 v0a Z Z Z Z Z Z Z ?_;intro M1 b0 o0;dsimp only[d0a,List.set] at b0;replace K1:=K1.fresh o0 (by exact i0);replace K2:=K2.fresh o0 (by exact j0);refine lB0 Z U (fun R0=>?_) fun R0=>?_
   ·exact lT Z U Z ⟨Z,b0.fin⟩
   refine lB0 Z U (fun S0=>?_) fun S0=>?_
   ·exact lT Z U Z ⟨Z,b0.fin⟩
   have B1:(w2a q s1).2=0:=(V3b q s1).resolve_right R0;have C1:(w2a p s2).2=0:=(V3b p s2).resolve_right S0;obtain⟨E1,-⟩:=W9b T0.ok V0 B1;obtain⟨F1,-⟩:=W9b hp W0 C1;refine lB0 Z U (fun u1=>by exfalso;omega) fun u1=>?_;refine lB0 Z U (fun v1=>by exfalso;omega) fun v1=>?_;refine lO b0.k [.w 3] Z ⟨⟨Z,Z⟩,U⟩ (U0a b0 Y5c Z Z ((U4b p [] _ _ (hI.keep (b0.keep0 []))).mono (fun v w' h=>⟨h.1.trans (by rw[C0]),h.2⟩)) ?_);intro h2 m1 O0;replace K1:=K1.trans O0;replace K2:=K2.trans O0;refine U0a m1 O7b Z Z (A2c d0 (by omega) _) ?_;intro i2 o1 P0;replace K1:=K1.trans P0;replace K2:=K2.trans P0;have T1:(2:Nat) ^ d0≤2 ^ 5:=Nat.pow_le_pow_right (by omega) (by omega);refine lC0 Z U (wL (fun μa D ε w=>D=[]∧∃a:Nat,(a+μa=((2 ^ d0)))∧(z0a [] F0 w)∧(z0a [] G0 w)∧St [] w0 w [(some u0,38,[.int .i64 (w2a p s2).1.op,.int .i64 (w2a p s2).1.w,.int .i64 (w2a p s2).1.n,.slice J0 Y0 a1]),(some g9,38,[.int .i64 (w2a q s1).1.op,.int .i64 (w2a q s1).1.w,.int .i64 (w2a q s1).1.n,.slice I0 X0 Z0]),(some g6,27,[.slice A1 n1 c1,.slice A2 n2 c2,.slice A3 n3 c3,.slice A4 n4 c4]),(some g2,27,[.slice Ac nc cc,.slice Am nm cm,.slice Al nl cl,.slice At nt ct])]∧Sl ε [(2,.pointer (some ⟨g2,0,none⟩)),(5,.bool true),(9,.pointer (some ⟨g9,0,none⟩)),(11,.pointer (some ⟨u0,0,none⟩)),(13,.int .i64 ((2 ^ d0:Nat):Int)),(14,.int .i64 a)]) (μ:=((2 ^ d0))) ⟨Z,0,by omega,K1,K2,o1,Z⟩ ?_);rintro μa D ε w ⟨rfl,a,_,K1,K2,S,eZ⟩;refine wK eZ (wB0 Z U (fun x1=>?_) fun x1=>?_)
   ·refine lC0 Z U (wL (fun H0 D ε w=>D=[]∧∃b2:Nat,(b2+H0=((2 ^ d0)))∧(z0a [] F0 w)∧(z0a [] G0 w)∧St [] w0 w [(some u0,38,[.int .i64 (w2a p s2).1.op,.int .i64 (w2a p s2).1.w,.int .i64 (w2a p s2).1.n,.slice J0 Y0 a1]),(some g9,38,[.int .i64 (w2a q s1).1.op,.int .i64 (w2a q s1).1.w,.int .i64 (w2a q s1).1.n,.slice I0 X0 Z0]),(some g6,27,[.slice A1 n1 c1,.slice A2 n2 c2,.slice A3 n3 c3,.slice A4 n4 c4]),(some g2,27,[.slice Ac nc cc,.slice Am nm cm,.slice Al nl cl,.slice At nt ct])]∧Sl ε [(2,.pointer (some ⟨g2,0,none⟩)),(5,.bool true),(9,.pointer (some ⟨g9,0,none⟩)),(11,.pointer (some ⟨u0,0,none⟩)),(13,.int .i64 ((2 ^ d0:Nat):Int)),(14,.int .i64 a),(15,.int .i64 b2)]) (μ:=((2 ^ d0))) ⟨Z,0,by omega,K1,K2,S,Z⟩ ?_);rintro H0 D ε w ⟨rfl,b2,_,K1,K2,S,eZ⟩;refine wK eZ (wB0 Z U (fun y1=>?_) fun y1=>?_)
    ·refine lC0 Z U (H0a c0a [0,1,3,4] [2] [5,6,7] Z (Cl _ _ _ _) (Cl.start S) ?_);refine qN S.q [.w 3,.w 3] Z ⟨⟨Z,Z⟩,⟨Z,Z⟩,U⟩ (Q3a ?_);refine e4a (fun v w=>∃l,RdI [] w v l) Z Z Z4c Z (fun v w w' ⟨l,h⟩ k=>⟨l,h.keep k.of_nil⟩) (fun w1 S1 X1=>k1b p a [] _ _ (hI.keep (S1.keep0 []))) ?_;refine M1a ?_;rintro N1 ⟨n0,p0⟩;rintro a2 ⟨la,hA⟩;dsimp only[x3a];replace K1:=K1.trans p0;replace K2:=K2.trans p0;obtain⟨_,_,_,rfl⟩:=hA.form;refine p0a n0 Z4c Z Z (k1b p b2 [] _ _ (hI.keep (n0.keep0 []))) ?_;rintro d2 j2 ⟨lb,hB⟩ x0 A0;replace K1:=K1.trans A0;replace K2:=K2.trans A0;replace hA:=hA.keep (A0.of_nil);obtain⟨_,_,_,rfl⟩:=hB.form;refine lC0 Z U (H0a c0a [0,1,2,3,4,5,6,7,8] [] [] Z (Cl _ _ _ _) (Cl.start x0) ?_);refine qO x0.q [.w 1] Z ⟨⟨Z,Z⟩,U⟩ (X1a Q3b Z Z (fun w1 S1 X1=>t0b (w2a q s1).1 [] _ _ _ _ la lb (RdE.keep (K1.trans X1) _ _ b1) (hK.keep (S1.keep0 [])) (hA.keep X1.of_nil) (hB.keep X1.of_nil)) ?_);refine qO x0.q [.w 0] Z ⟨⟨Z,Z⟩,U⟩ (X1a Q3b Z Z (fun w1 S1 X1=>t0b (w2a p s2).1 [] _ _ _ _ la lb (RdE.keep (K2.trans X1) _ _ d1) (hK.keep (S1.keep0 [])) (hA.keep X1.of_nil) (hB.keep X1.of_nil)) ?_);refine qB0 Z U (fun r0=>by exact absurd r0 (Int.not_lt.2 (e4c D0 W0 V0 F1 E1 la lb))) (fun r0=>?_);refine qD Z U ?_;rintro O1 ⟨y0,q0⟩;replace K1:=K1.trans q0;replace K2:=K2.trans q0;refine lP0 Z ⟨by omega,U⟩ ⟨H0-1,by omega,Z,(b2+1),(by omega),(K1),(K2),y0,Z⟩
    refine lP0 Z ⟨by omega,U⟩ ⟨μa-1,by omega,Z,(a+1),(by omega),(K1),(K2),S,Z⟩
   exact lT Z U Z ⟨Z,S.fin⟩
  exact lT Z U Z ⟨Z,m0.fin⟩
 exact lT Z U Z ⟨Z,f0.fin⟩
end Go.Fw
