/-
  Part 6 of 9 of the proof of InferInterference: what it leans on. No conditions.
-/
import Derived.Test.YtgjenhndpfcjkaaGreatDoorZInferInterference5
set_option maxRecDepth 100000
set_option maxHeartbeats 4000000
namespace Go.Proofs.YtgjenhndpfcjkaaGreatDoor
end Go.Proofs.YtgjenhndpfcjkaaGreatDoor
namespace Go.Fw
open Go.Proofs.YtgjenhndpfcjkaaGreatDoor Go.Proofs Go.RowKit Tryz
theorem H2c(x:I1a)(M:List Nat)(w0:World)(ts:List Value)(hT:N0a M w0 ts x):
 O0a prog 61 #[.agg ts.toArray] w0 fun v w'=>(∃b,v=.bool b∧(b=true→True))∧Below w0.heap.size w0 w':=by
 obtain⟨Aa,na,ca,Am,nm,cm,As,ns,cn,Al,nl,cl,rfl,-,u1,_,e0,S0,_⟩:=N0a.open_ hT;have S:=St.refl w0;refine a0a func61 Z ntmps61 Z ?_;refine wO0 Z U (q0a S Z ?_);intro g1 w1 S1 X1 G1;refine lC0 Z U (wL (fun μk D ε w=>D=[]∧∃k:Nat,(k+μk=(x.steps.length))∧St [] w0 w [(some g1,58,[.string x.name,.int .i64 x.points,.slice Aa na ca,.slice Am nm cm,.slice As ns cn,.slice Al nl cl,.bool x.asleep])]∧Sl ε [(1,.pointer (some ⟨g1,0,none⟩)),(3,.int .i64 k)]) (μ:=(x.steps.length)) ⟨Z,0,by omega,S1,Z⟩ ?_);rintro μk D ε w ⟨rfl,k,hk,S,eZ⟩;refine wK eZ (wB S.k [.o 0] Z ⟨Z,U⟩ (fun i1=>?_) fun i1=>?_)
 ·obtain⟨s,X0,x1,_,R0,i0,_,_,v0,F0⟩:=RdS.get (e0) (k) (by omega);obtain⟨_,_,_,_,_,_,rfl,⟨_,_⟩,u0,_⟩:=v1a.open_ F0;refine lO (S.k.a v0) [.o 0,.x X0 x1,.f 0 3] Z ⟨Z,⟨i0,by omega⟩,Z,U⟩ (f0a S y0b Z Z (q5a s.guard M _ _ _ (RdE.keep (S.keep0 M) _ _ u0)) (fun j1 F1 b0 T0=>?_) (fun j1 F1 b0 T0=>?_))
  ·obtain⟨_,Y0,y1,_,N0,j0,_,_,x0,G0⟩:=RdS.get (e0) (k) (by omega);obtain rfl:=Option.some.inj (R0.symm.trans N0);obtain⟨_,_,_,_,_,_,rfl,⟨_,_⟩,_⟩:=v1a.open_ G0;refine lB (b0.k.a x0) [.o 0,.x Y0 y1,.f 0 7] Z ⟨Z,⟨j0,by omega⟩,Z,U⟩ (fun m1=>?_) fun m1=>?_
   ·exact lT Z U Z ⟨⟨_,Z,fun _=>trivial⟩,b0.fin⟩
   refine lC0 Z U (wL (fun μj D ε w=>D=[]∧∃j:Nat,(j+μj=(s.set.length))∧St [] w0 w [(some g1,58,[.string x.name,.int .i64 x.points,.slice Aa na ca,.slice Am nm cm,.slice As ns cn,.slice Al nl cl,.bool x.asleep])]∧Sl ε [(1,.pointer (some ⟨g1,0,none⟩)),(3,.int .i64 k),(4,.int .i64 j)]) (μ:=(s.set.length)) ⟨Z,0,by omega,b0,Z⟩ ?_);rintro μj D ε w ⟨rfl,j,_,S,eZ⟩;refine wK eZ ?_;obtain⟨_,Z0,z1,_,O0,m0,_,_,y0,H0⟩:=RdS.get (e0) (k) (by omega);obtain rfl:=Option.some.inj (R0.symm.trans O0);obtain⟨_,_,_,_,_,_,rfl,⟨_,_⟩,_⟩:=v1a.open_ H0;refine wB (S.k.a y0) [.o 0,.x Z0 z1,.f 0 7] Z ⟨Z,⟨m0,by omega⟩,Z,U⟩ (fun n1=>?_) fun n1=>?_
   ·obtain⟨_,a1,A1,_,P0,n0,_,_,z0,I0⟩:=RdS.get (e0) (k) (by omega);obtain rfl:=Option.some.inj (R0.symm.trans P0);obtain⟨_,_,_,_,_,_,rfl,⟨_,_⟩,_,a0,_⟩:=v1a.open_ I0;obtain⟨a,b1,B1,_,_,o0,_,_,A0,J0⟩:=RdS.get (a0) (j) (by omega);obtain⟨_,_,_,rfl,_,s0⟩:=J0a.open_ J0;refine lO ((S.k.a A0).a z0) [.o 0,.x a1 A1,.f 0 7,.x b1 B1,.f 1 1] Z ⟨Z,⟨o0,by omega⟩,Z,⟨n0,by omega⟩,Z,U⟩ (f0a S y0b Z Z (q5a a.to M _ _ _ (RdE.keep (S.keep0 M) _ _ s0)) (fun o1 H1 f0 U0=>?_) (fun o1 H1 f0 U0=>?_))
    ·refine lP0 Z ⟨by omega,U⟩ ⟨μj-1,by omega,Z,(j+1),(by omega),f0,Z⟩
    exact lT Z U Z ⟨⟨_,Z,fun _=>trivial⟩,f0.fin⟩
   refine lP0 Z ⟨by omega,U⟩ ⟨μk-1,by omega,Z,(k+1),(by omega),S,Z⟩
  exact lT Z U Z ⟨⟨_,Z,fun _=>trivial⟩,b0.fin⟩
 refine lC0 Z U (wL (fun μk D ε w=>D=[]∧∃k:Nat,(k+μk=(x.asserts.length))∧St [] w0 w [(some g1,58,[.string x.name,.int .i64 x.points,.slice Aa na ca,.slice Am nm cm,.slice As ns cn,.slice Al nl cl,.bool x.asleep])]∧Sl ε [(1,.pointer (some ⟨g1,0,none⟩)),(5,.int .i64 k)]) (μ:=(x.asserts.length)) ⟨Z,0,by omega,S,Z⟩ ?_);rintro μk D ε w ⟨rfl,k,hk,S,eZ⟩;refine wK eZ (wB S.k [.o 0] Z ⟨Z,U⟩ (fun p1=>?_) fun p1=>?_)
 ·obtain⟨e,c1,C1,_,_,p0,_,E0,B0,d0⟩:=RdS.get (u1) (k) (by omega);obtain⟨_,_,_,rfl,_⟩:=RdE.cells d0;refine lO (S.k.a B0) [.o 0,.x c1 C1,.v 0] Z ⟨⟨Z,E0⟩,⟨p0,by omega⟩,Z,U⟩ (f0a S y0b Z Z (q5a e M _ _ _ (RdE.keep (S.keep0 M) _ _ d0)) (fun q1 I1 g0 V0=>?_) (fun q1 I1 g0 V0=>?_))
  ·refine lP0 Z ⟨by omega,U⟩ ⟨μk-1,by omega,Z,(k+1),(by omega),g0,Z⟩
  exact lT Z U Z ⟨⟨_,Z,fun _=>trivial⟩,g0.fin⟩
 refine lC0 Z U (wL (fun μk D ε w=>D=[]∧∃k:Nat,(k+μk=(x.loops.length))∧St [] w0 w [(some g1,58,[.string x.name,.int .i64 x.points,.slice Aa na ca,.slice Am nm cm,.slice As ns cn,.slice Al nl cl,.bool x.asleep])]∧Sl ε [(1,.pointer (some ⟨g1,0,none⟩)),(6,.int .i64 k)]) (μ:=(x.loops.length)) ⟨Z,0,by omega,S,Z⟩ ?_);rintro μk D ε w ⟨rfl,k,hk,S,eZ⟩;refine wK eZ (wB S.k [.o 0] Z ⟨Z,U⟩ (fun r1=>?_) fun r1=>?_)
 ·obtain⟨o,d1,D1,_,v1,q0,_,_,C0,K0⟩:=RdS.get (S0) (k) (by omega);obtain⟨_,_,_,_,_,_,rfl,_,_,t0,_⟩:=R4a.open_ K0;refine lO (S.k.a C0) [.o 0,.x d1 D1,.f 0 2] Z ⟨Z,⟨q0,by omega⟩,Z,U⟩ (f0a S y0b Z Z (q5a o.variant M _ _ _ (RdE.keep (S.keep0 M) _ _ t0)) (fun s1 J1 c0 W0=>?_) (fun s1 J1 c0 W0=>?_))
  ·obtain⟨_,f1,E1,_,Q0,r0,_,_,D0,L0⟩:=RdS.get (S0) (k) (by omega);obtain rfl:=Option.some.inj (v1.symm.trans Q0);obtain⟨_,_,_,_,_,_,rfl,_⟩:=R4a.open_ L0;refine lB (c0.k.a D0) [.o 0,.x f1 E1,.f 0 1] Z ⟨Z,⟨r0,by omega⟩,Z,U⟩ (fun t1=>?_) fun t1=>?_
   ·exact lT Z U Z ⟨⟨_,Z,fun _=>trivial⟩,c0.fin⟩
   refine lP0 Z ⟨by omega,U⟩ ⟨μk-1,by omega,Z,(k+1),(by omega),c0,Z⟩
  exact lT Z U Z ⟨⟨_,Z,fun _=>trivial⟩,c0.fin⟩
 exact lT Z U Z ⟨⟨_,Z,fun _=>trivial⟩,S.fin⟩
theorem f4c(p:i0a)(M:List Nat)(w0:World)(cs:List Value)(hP:Y0a M w0 p cs):
 O0a prog 27 #[.agg cs.toArray] w0 fun v w'=>(∃b,v=.bool b∧(b=true→True))∧Below w0.heap.size w0 w':=by
 obtain⟨Ac,nc,cc,Am,nm,cm,Al,nl,cl,At,nt,ct,rfl,_,D0,o1,p1,_⟩:=hP.open_;have S:=St.refl w0;refine a0a func27 Z ntmps27 Z ?_;refine wO0 Z U (q0a S Z ?_);intro g1 w1 S1 X1 G1;refine lB S1.k [.o 0] Z ⟨Z,U⟩ (fun X0=>?_) fun X0=>?_
 ·exact lT Z U Z ⟨⟨_,Z,fun _=>trivial⟩,S1.fin⟩
 refine lB S1.k [.o 0] Z ⟨Z,U⟩ (fun Y0=>?_) fun Y0=>?_
 ·exact lT Z U Z ⟨⟨_,Z,fun _=>trivial⟩,S1.fin⟩
 refine lB S1.k [.o 0] Z ⟨Z,U⟩ (fun Z0=>?_) fun Z0=>?_
 ·exact lT Z U Z ⟨⟨_,Z,fun _=>trivial⟩,S1.fin⟩
 refine lB S1.k [.o 0] Z ⟨Z,U⟩ (fun a1=>?_) fun a1=>?_
 ·exact lT Z U Z ⟨⟨_,Z,fun _=>trivial⟩,S1.fin⟩
 refine lC0 Z U (wL (fun μk D ε w=>D=[]∧∃k:Nat,∃n:Int,(k+μk=(p.threads.length))∧(0≤n∧n≤24)∧St [] w0 w [(some g1,27,[.slice Ac nc cc,.slice Am nm cm,.slice Al nl cl,.slice At nt ct])]∧Sl ε [(1,.pointer (some ⟨g1,0,none⟩)),(3,.int .i64 n),(4,.int .i64 k)]) (μ:=(p.threads.length)) ⟨Z,0,0,by omega,by omega,S1,Z⟩ ?_);rintro μk D ε w ⟨rfl,k,n,hk,_,S,eZ⟩;refine wK eZ (wB S.k [.o 0] Z ⟨Z,U⟩ (fun b1=>?_) fun b1=>?_)
 ·obtain⟨th,U0,q1,_,_,z0,_,I0,F0,o0⟩:=RdS.get (p1) (k) (by omega);obtain⟨_,_,_,_,_,_,_,_,_,_,_,_,rfl,_⟩:=N0a.open_ o0;refine lO (S.k.a F0) [.o 0,.x U0 q1,.v 0] Z ⟨⟨Z,I0⟩,⟨z0,by omega⟩,Z,U⟩ (h0a S G7a Z Z ?_);intro g5 w5 S5 X5 G5;refine b0a (kk:=0) (vs:=[_,_,_,_,_,_,_]) S5 s7a Z Z Z Z Z Z Z ?_;intro u1 a0 R0;dsimp only[e0a,List.set] at a0;refine lB a0.k [.o 0] Z ⟨by omega,Z,U⟩ (fun c1=>?_) fun c1=>?_
  ·exact lT Z U Z ⟨⟨_,Z,fun _=>trivial⟩,a0.fin⟩
  refine lB a0.k [.o 0] Z ⟨Z,U⟩ (fun d1=>?_) fun d1=>?_
  ·exact lT Z U Z ⟨⟨_,Z,fun _=>trivial⟩,a0.fin⟩
  refine lB a0.k [.o 0] Z ⟨Z,U⟩ (fun f1=>?_) fun f1=>?_
  ·exact lT Z U Z ⟨⟨_,Z,fun _=>trivial⟩,a0.fin⟩
  refine lB a0.k [.o 0] Z ⟨Z,U⟩ (fun i1=>?_) fun i1=>?_
  ·exact lT Z U Z ⟨⟨_,Z,fun _=>trivial⟩,a0.fin⟩
  refine lO a0.k [.w 0] Z ⟨⟨Z,Z⟩,U⟩ (W2b a0 a2d Z Z (H2c th M _ _ (N0a.keep (a0.keep0 M) _ _ o0)) (fun y1 t1 r0 Q0=>?_) (fun t1 r0 Q0=>?_))
  ·refine lP0 Z ⟨by omega,U⟩ ⟨μk-1,by omega,Z,(k+1),(_),(by omega),(by omega),r0.tail,Z⟩
  exact lT Z U Z ⟨⟨_,Z,fun _=>trivial⟩,r0.fin⟩
 refine lC0 Z U (wL (fun μk D ε w=>D=[]∧∃k:Nat,(k+μk=(p.modules.length))∧St [] w0 w [(some g1,27,[.slice Ac nc cc,.slice Am nm cm,.slice Al nl cl,.slice At nt ct])]∧Sl ε [(1,.pointer (some ⟨g1,0,none⟩)),(6,.int .i64 k)]) (μ:=(p.modules.length)) ⟨Z,0,by omega,S,Z⟩ ?_);rintro μk D ε w ⟨rfl,k,hk,S,eZ⟩;refine wK eZ (wB S.k [.o 0] Z ⟨Z,U⟩ (fun j1=>?_) fun j1=>?_)
 ·obtain⟨mo,V0,r1,_,q0,A0,_,_,G0,J0⟩:=RdS.get (D0) (k) (by omega);obtain⟨_,_,_,_,_,_,_,_,_,rfl,E0,_⟩:=G0a.open_ J0;refine lO (S.k.a G0) [.o 0,.x V0 r1,.f 0 2] Z ⟨Z,⟨A0,by omega⟩,Z,U⟩ (f0a S y0b Z Z (q5a mo.rely M _ _ _ (RdE.keep (S.keep0 M) _ _ E0)) (fun m1 v1 c0 S0=>?_) (fun m1 v1 c0 S0=>?_))
  ·obtain⟨_,W0,s1,_,L0,B0,_,_,H0,K0⟩:=RdS.get (D0) (k) (by omega);obtain rfl:=Option.some.inj (q0.symm.trans L0);obtain⟨_,_,_,_,_,_,_,_,_,rfl,_,C0,_⟩:=G0a.open_ K0;refine lO (c0.k.a H0) [.o 0,.x W0 s1,.f 0 6] Z ⟨Z,⟨B0,by omega⟩,Z,U⟩ (f0a c0 y0b Z Z (q5a mo.guar M _ _ _ (RdE.keep (c0.keep0 M) _ _ C0)) (fun n1 x1 d0 T0=>?_) (fun n1 x1 d0 T0=>?_))
   ·obtain⟨_,t0,N0,_,p0,e0,_,_,i0,m0⟩:=RdS.get (D0) (k) (by omega);obtain rfl:=Option.some.inj (q0.symm.trans p0);obtain⟨_,_,_,_,_,_,_,_,_,rfl,_⟩:=G0a.open_ m0;refine lB (d0.k.a i0) [.o 0,.x t0 N0,.f 0 10] Z ⟨Z,⟨e0,by omega⟩,Z,U⟩ (fun v0=>?_) fun v0=>?_
    ·exact lT Z U Z ⟨⟨_,Z,fun _=>trivial⟩,d0.fin⟩
    refine lP0 Z ⟨by omega,U⟩ ⟨μk-1,by omega,Z,(k+1),(by omega),d0,Z⟩
   exact lT Z U Z ⟨⟨_,Z,fun _=>trivial⟩,d0.fin⟩
  exact lT Z U Z ⟨⟨_,Z,fun _=>trivial⟩,c0.fin⟩
 refine lC0 Z U (wL (fun μk D ε w=>D=[]∧∃k:Nat,(k+μk=(p.locks.length))∧St [] w0 w [(some g1,27,[.slice Ac nc cc,.slice Am nm cm,.slice Al nl cl,.slice At nt ct])]∧Sl ε [(1,.pointer (some ⟨g1,0,none⟩)),(7,.int .i64 k)]) (μ:=(p.locks.length)) ⟨Z,0,by omega,S,Z⟩ ?_);rintro μk D ε w ⟨rfl,k,hk,S,eZ⟩;refine wK eZ (wB S.k [.o 0] Z ⟨Z,U⟩ (fun x0=>?_) fun x0=>?_)
 ·obtain⟨lk,u0,O0,_,_,f0,_,_,j0,n0⟩:=RdS.get (o1) (k) (by omega);obtain⟨_,_,_,rfl,_,_,g0⟩:=W4a.open_ n0;refine lO (S.k.a j0) [.o 0,.x u0 O0,.f 0 1] Z ⟨Z,⟨f0,by omega⟩,Z,U⟩ (f0a S y0b Z Z (q5a lk.inv M _ _ _ (RdE.keep (S.keep0 M) _ _ g0)) (fun y0 P0 b0 s0=>?_) (fun y0 P0 b0 s0=>?_))
  ·refine lP0 Z ⟨by omega,U⟩ ⟨μk-1,by omega,Z,(k+1),(by omega),b0,Z⟩
  exact lT Z U Z ⟨⟨_,Z,fun _=>trivial⟩,b0.fin⟩
 exact lT Z U Z ⟨⟨_,Z,fun _=>trivial⟩,S.fin⟩
theorem X8c{a b:Int}(hb:0<b):∃k:Nat,a % b=k∧(k:Int)<b:=by
 have h0:=Int.emod_nonneg a (show b≠0 by omega);have h1:=Int.emod_lt_of_pos a hb;obtain⟨k,hk⟩:=Int.eq_ofNat_of_zero_le h0;exact⟨k,hk,by omega⟩
def D2c(p:i0a)(t k j:Nat)(bs:List Bool):Prop:=bs.length=p.modules.length∧∀m:Nat,m<p.modules.length→(bs.getD m false=true↔f3b p t k j (m:Int))
theorem D2c.zero{p:i0a}{t:Nat}:D2c p t 0 0 (List.replicate p.modules.length false):=by
 refine⟨by simp,fun m hm=>?_⟩;rw[List.getD_eq_getElem?_getD,List.getElem?_replicate,if_pos hm];exact⟨fun h=>(by cases h),fun h=>absurd h f3b.zero⟩
theorem D2c.step{p:i0a}{t k j:Nat}{bs:List Bool}{th:I1a}{s:h1a}(h:D2c p t k j bs)(ht:p.threads[k]?=some th)(hs:th.steps[j]?=some s)(hm:0≤s.module_∧s.module_<p.modules.length):D2c p t k (j+1) (bs.set s.module_.toNat true):=by
 refine⟨by rw[List.length_set];exact h.1,fun m a0=>?_⟩;rw[f3b.step ht hs,←h.2 m a0];by_cases he:s.module_.toNat=m
 ·rw[List.getD_eq_getElem?_getD,he,List.getElem?_set_self (by rw[h.1];exact a0)];exact⟨fun _=>.inr (by omega),fun _=>rfl⟩
 ·rw[List.getD_eq_getElem?_getD,List.getElem?_set_ne he,←List.getD_eq_getElem?_getD];exact⟨.inl,fun hh=>hh.elim id fun hh=>absurd hh (by omega)⟩
theorem D2c.next{p:i0a}{t k:Nat}{bs:List Bool}{th:I1a}(h:D2c p t k th.steps.length bs)(ht:p.threads[k]?=some th)(hk:k≠t):D2c p t (k+1) 0 bs :=
 ⟨h.1,fun m hm=>(h.2 m hm).trans (f3b.next ht hk).symm⟩
theorem D2c.skip{p:i0a}{t k:Nat}{bs:List Bool}(h:D2c p t k 0 bs)(hk:k=t):D2c p t (k+1) 0 bs :=
 ⟨h.1,fun m hm=>(h.2 m hm).trans (f3b.skip hk).symm⟩
section
variable {P:Program} {r:Option Nat} {N:Nat} {D:List Deferred} {e:Env} {w:World} {ops:Array Oper} {rest:List Oper} {K:List Deferred→Env→World→Prop}
variable {d:Nat} {t:TypeId} {p:String} {af:Array Edge} {x y:Operand} {xt yt:TypeId} {a b:Int}
theorem r4c(w:World)(h0:0≤a∧a<9223372036854775808)(h1:0<b):(Op.intDiv .quo .i64 a b).run P w=.ok (.int .i64 (a / b)) w:=by
 have hb:b≠0:=by omega
 have ht:a.tdiv b=a / b:=Int.tdiv_eq_ediv_of_nonneg h0.1;have hd:0≤a / b∧a / b≤a:=⟨Int.ediv_nonneg h0.1 (by omega),Int.ediv_le_self _ h0.1⟩;have hw:IntKind.i64.wrap (a / b)=a / b:=T4a (h0:=hd.1) _;simp[Op.intDiv,hb,ht,hw]
theorem t3d(hx:ev e x=.int .i64 a)(hy:ev e y=.int .i64 b)(h0:0≤a∧a<9223372036854775808)(h1:0<b)(hd:Nat.ble (d+1) N=true)(h:WL P r N ops rest K D (upd e d (.int .i64 (a / b))) w):
 WL P r N ops (⟨some d,.binOp .quo xt x y yt,t,p,af,none⟩::rest) K D e w :=
 W0a Z Z hd (by simp[execOp,hx,hy,eqGuard,binOp,r4c w h0 h1]) h
end
theorem q0c(n:Nat)(hn:n≤20)(w:World):O0a prog 21 #[.int .i64 n] w fun v w'=>v=.int .i64 ((2 ^ n:Nat):Int)∧Below w.heap.size w w' :=
 (E7b n hn w).mono fun _ _ h=>⟨by rw[h.1,E2a],h.2⟩
def moreW(p:i0a)(t:Nat)(l:List Int)(k:Nat):Int:=q9a (((List.range k).filter fun(c:Nat)=>!decide ((c:Int)∈l)&&(decide ((c:Int)∈(onE p t).sup 3)||decide ((c:Int)∈(onE p t).sup 2))).map fun(c:Nat)=>wAt p.cells (c:Int))
theorem x9a{p:i0a}{e:E}(hv:e.valid p.cells true=true)(hw:e.w=1)(o n:List Int):(e.evl o n=1↔e.val o n=1)∧(e.evl o n≠0↔e.val o n=1):=by
 have h1:=(d3a hv).1;have he:e.evl o n=e.val o n:=by unfold E.evl;rw[if_pos h1]
 have hr:=k2a (d3a hv).2.1 o n;rw[hw] at hr;have h2:o2a (1:Int).toNat=2:=by decide
 rw[he];constructor<;>omega
theorem O1c{op unit:Int}(hu:unit=0∨unit=1){l:List E}(h:u2a op unit l≠zE):(u2a op unit l).w=1:=by
 rcases V6a (op:=op) hu l with h1|h1
 ·exact absurd h1 h
 ·exact h1.2
theorem g6c(p:i0a)(M:List Nat)(w0:World)(cs:List Value)(hP:Y0a M w0 p cs)(hM:∀g∈M,g<w0.heap.size)(hN:C5a p):
 O0a prog 26 #[.agg cs.toArray] w0 fun v w'=>(∃b,v=.bool b∧(b=true→E1a p))∧Below w0.heap.size w0 w':=by
 obtain⟨_,_,_,_,_,_,_,_,_,_,_,_,rfl,-⟩:=hP.open_;have S:=St.refl w0;refine a0a func26 Z ntmps26 Z ?_;refine wO0 Z U (q0a S Z ?_);intro g1 w1 S1 X1 G1;refine lO S1.k [.w 0] Z ⟨⟨Z,Z⟩,U⟩ (p0a S1 V0d Z Z (D8b p M _ _ (hP.keep (S1.keep0 M)) (fun g hg=>Nat.lt_of_lt_of_le (hM g hg) S1.size) hN) ?_);rintro v8 w8 ⟨_,_,_,rfl,hv⟩ S8 X8;refine lB0 Z U (fun a0=>?_) fun a0=>?_
 ·exact lT Z U Z ⟨⟨_,Z,fun _=>hv a0⟩,S8.fin⟩
 exact lT Z U Z ⟨⟨_,Z,fun h=>by cases h⟩,S8.fin⟩
def shW(c:C1a):Int:=if c.thread=-1 then c.w else 0
def b5a(p:i0a)(k:Nat):Int:=q9a ((p.cells.take k).map shW)
theorem B0b{p:i0a}{k:Nat}{c:C1a}(h:p.cells[k]?=some c):b5a p (k+1)=b5a p k+shW c:=by
 unfold b5a;rw[t0a h,List.map_append,n7a];simp[q9a]
theorem m9c{p:i0a}(hp:E1a p){c:C1a}(h:c∈p.cells):0≤shW c∧shW c≤8:=by
 have:=(hp.cells c h).w;unfold shW;split<;>omega
theorem O1b{p:i0a}(hp:E1a p):∀k:Nat,0≤b5a p k∧b5a p k≤8*k:=fun k=>by
 induction k with
 | zero=>simp[b5a,q9a]
 | succ k ih =>
   cases h:p.cells[k]? with
   | none =>
     have:b5a p (k+1)=b5a p k:=by
      rw[List.getElem?_eq_none_iff] at h;unfold b5a;rw[List.take_of_length_le (by omega),List.take_of_length_le (by omega)]
     omega
   | some c =>
     have:=m9c hp (List.mem_of_getElem? h);rw[B0b h];omega
theorem S3b(p:i0a)(M:List Nat)(w0:World)(cs:List Value)(hI:InP p M w0 cs):
 O0a prog 22 #[.agg cs.toArray] w0 fun v w'=>v=.int .i64 (b5a p p.cells.length)∧Below w0.heap.size w0 w':=by
 obtain⟨Ac,nc,cc,Am,nm,cm,Al,nl,cl,At,nt,ct,rfl,hC,_⟩:=hI.rd.open_;have hp:=hI.ok;have n1:=hp.ncells;have S:=St.refl w0;refine a0a func22 Z ntmps22 Z ?_;refine wO0 Z U (q0a S Z ?_);intro g1 w1 S1 X1 G1;refine lC0 Z U (wL (fun μk D ε w=>D=[]∧∃k:Nat,∃b:Int,(k+μk=(p.cells.length))∧(b=b5a p k)∧St [] w0 w [(some g1,27,[.slice Ac nc cc,.slice Am nm cm,.slice Al nl cl,.slice At nt ct])]∧Sl ε [(1,.pointer (some ⟨g1,0,none⟩)),(3,.int .i64 b),(4,.int .i64 k)]) (μ:=(p.cells.length)) ⟨Z,0,0,by omega,by simp[b5a,q9a],S1,Z⟩ ?_);rintro μk D ε w ⟨rfl,k,b,_,hb,S,eZ⟩;refine wK eZ (wB S.k [.o 0] Z ⟨Z,U⟩ (fun h9=>?_) fun h9=>?_)
 ·obtain⟨c,n0,p0,_,m0,c0,_,_,e0,g0⟩:=RdS.get (hC) (k) (by omega);obtain⟨rfl,_⟩:=y2a.open_ g0;have r0:=O1b hp k;have a0:=B0b m0;have s0:=(hp.cells c (d0a m0)).w;refine lB (S.k.a e0) [.o 0,.x n0 p0,.f 0 3] Z ⟨Z,⟨c0,by omega⟩,Z,U⟩ (fun b0=>?_) fun b0=>?_
  ·obtain⟨_,o0,q0,_,j0,d0,_,_,f0,i0⟩:=RdS.get (hC) (k) (by omega);obtain rfl:=Option.some.inj (m0.symm.trans j0);obtain⟨rfl,_⟩:=y2a.open_ i0;refine lP (S.k.a f0) [.o 0,.x o0 q0,.f 0 1] Z ⟨by omega,by omega,Z,⟨d0,by omega⟩,Z,U⟩ ?_;refine⟨μk-1,by omega,Z,(k+1),(_),(by omega),?_,S,Z⟩;rw[a0,hb];unfold shW;rw[if_pos b0]
  refine lP0 Z ⟨by omega,U⟩ ⟨μk-1,by omega,Z,(k+1),(_),(by omega),?_,S,Z⟩;rw[a0,hb];unfold shW;(rw[if_neg b0];omega)
 refine lR0 Z U (w0a Z ?_);exact⟨by rw[hb,show k=p.cells.length by omega],S.fin⟩
theorem i2b(p:i0a)(n:Nat)(M:List Nat)(w0:World)(cs:List Value)(hI:InP p M w0 cs)(hn:n≤1000000:=by omega):
 O0a prog 23 #[.agg cs.toArray,.int .i64 n] w0 fun v w'=>(∃l,RdI M w' v l)∧Below w0.heap.size w0 w':=by
 obtain⟨Ac,nc,cc,Am,nm,cm,Al,nl,cl,At,nt,ct,rfl,hC,_⟩:=hI.rd.open_;have hp:=hI.ok;have hM:=hI.lt;have n1:=hp.ncells;have S:=St.refl w0;refine a0a func23 Z ntmps23 Z ?_;refine wO0 Z U (q0a S Z ?_);intro g2 w2 S2 X2 G2;refine lO S2.k [.o 0] Z ⟨Z,U⟩ (L7b (n:=nc) (c:=nc) S2 X0a Z Z Z Z ?_);intro a0 F0 p0 A0 z0;refine lC0 Z U ?_;refine wL (fun μk D ε w=>D=[]∧∃k:Nat,∃sg:List Int,∃r:Nat,(k+μk=(p.cells.length))∧(sg.length=nc)∧(∀x∈sg,i64 x)∧(r≤1000000)∧St [] w0 w [(some a0,3,sg.map (Value.int .i64)),(some g2,27,[.slice Ac nc cc,.slice Am nm cm,.slice Al nl cl,.slice At nt ct])]∧Sl ε [(1,.int .i64 r),(2,.pointer (some ⟨g2,0,none⟩)),(5,.slice (some ⟨a0,0,none⟩) nc nc),(6,.int .i64 k)]) (μ:=(p.cells.length)) ⟨Z,0,List.replicate nc 0,n,by omega,by simp,(by intro x hx;rw[(List.mem_replicate.1 hx).2];unfold i64;omega),hn,(by rw[List.map_replicate];exact p0),Z⟩ ?_;rintro μk D ε w ⟨rfl,k,sg,r,_,j0,i0,hr,S,eZ⟩;refine wK eZ (wB S.k [.o 1] Z ⟨Z,U⟩ (fun t0=>?_) fun t0=>?_)
 ·obtain⟨c,r0,x0,_,o0,b0,_,_,d0,f0⟩:=RdS.get (hC) (k) (by omega);obtain⟨rfl,_⟩:=y2a.open_ f0;have C0:=(hp.cells c (d0a o0)).w;refine lB (S.k.a d0) [.o 1,.x r0 x0,.f 0 3] Z ⟨Z,⟨b0,by omega⟩,Z,U⟩ (fun u0=>?_) fun u0=>?_
  ·obtain⟨_,s0,y0,_,m0,c0,_,_,e0,g0⟩:=RdS.get (hC) (k) (by omega);obtain rfl:=Option.some.inj (o0.symm.trans m0);obtain⟨rfl,_⟩:=y2a.open_ g0;refine lO (S.k.a e0) [.o 1,.x s0 y0,.f 0 1] Z ⟨Z,⟨c0,by omega⟩,Z,U⟩ (S0a S h8b Z Z ((M2b c.w _).mono (fun v w' h=>⟨h.1.trans (by rw[E2a]),h.2⟩)) ?_);intro G0 n0 B0;have v0:0<2 ^ c.w.toNat:=Nat.two_pow_pos _;have E0:2 ^ c.w.toNat≤2 ^ 8:=Nat.pow_le_pow_right (by omega) (by omega);refine lO0 Z U (z1d Z Z Z ?_);rw[show((r:Int) % ((2 ^ c.w.toNat:Nat):Int))=((r % 2 ^ c.w.toNat:Nat):Int) by simp];refine lO n0.k [.i] Z ⟨by omega,U⟩ ?_;have D0:r % 2 ^ c.w.toNat<2 ^ c.w.toNat:=Nat.mod_lt _ v0;refine V0a (hy:=Z) (kk:=0) (v:=.int .i64 ((r % 2 ^ c.w.toNat:Nat):Int)) n0 R2c Z Z Z (by rw[List.length_map];omega) ?_;intro w7 q0 X7;have S7:St [] w0 w7 [(some a0,3,(sg.set k ((r % 2 ^ c.w.toNat:Nat):Int)).map (Value.int .i64)),(some g2,27,[.slice Ac nc cc,.slice Am nm cm,.slice Al nl cl,.slice At nt ct])]:=by
    have h:=q0;dsimp only[List.set] at h;rw[show 0+(k:Int).toNat*1=k by omega,←List.map_set] at h;exact h
   refine lO0 Z U (t3d Z Z (by omega) (by omega) Z ?_);rw[show((r:Int) / ((2 ^ c.w.toNat:Nat):Int))=((r / 2 ^ c.w.toNat:Nat):Int) from rfl];refine lP0 Z ⟨by omega,U⟩ ⟨μk-1,by omega,Z,(k+1),(_),(_),(by omega),?_,?_,?_,S7,Z⟩;rw[List.length_set];exact j0
   ·intro x hx;rcases List.mem_or_eq_of_mem_set hx with h|rfl;exact i0 x h;unfold i64;omega
   ·exact Nat.le_trans (Nat.div_le_self _ _) hr
  refine lP0 Z ⟨by omega,U⟩ ⟨μk-1,by omega,Z,(k+1),(_),(_),(by omega),?_,?_,?_,S,Z⟩;exact j0
  ·exact i0
  ·exact hr
 refine lR0 Z U (w0a Z ?_);exact⟨⟨sg,U3a (hM:=(C3a S (k:=0) Z hM)) S (k:=0) Z j0.symm i0⟩,S.fin⟩
theorem g1c(p:i0a)(M:List Nat)(w0:World)(cs:List Value)(hP:Y0a M w0 p cs)(hK:g2a M w0)(hM:∀g∈M,g<w0.heap.size)(hN:C5a p):
 O0a prog 16 #[.agg cs.toArray] w0 fun v w'=>(∃b,v=.bool b∧(b=true→E1a p∧b5a p p.cells.length≤5))∧Below w0.heap.size w0 w':=by
 obtain⟨_,_,_,_,_,_,_,_,_,_,_,_,rfl,-⟩:=hP.open_;have S:=St.refl w0;refine a0a func16 Z ntmps16 Z ?_;refine wO0 Z U (q0a S Z ?_);intro g1 w1 S1 X1 G1;refine lO S1.k [.w 0] Z ⟨⟨Z,Z⟩,U⟩ (W2b S1 d0d Z Z (f4c p M _ _ (hP.keep (S1.keep0 M))) (fun h4 w4 S4 X4=>?_) (fun w4 S4 X4=>?_))
 ·refine lO S4.k [.w 0] Z ⟨⟨Z,Z⟩,U⟩ (W2b S4 B1d Z Z (g6c p M _ _ (hP.keep (S4.keep0 M)) (fun g hg=>Nat.lt_of_lt_of_le (hM g hg) S4.size) hN) (fun h7 w7 S7 X7=>?_) (fun w7 S7 X7=>?_))
  ·refine lO S7.k [.w 0] Z ⟨⟨Z,Z⟩,U⟩ (S0a S7 f5c Z Z (S3b p M _ _ ⟨hP.keep (S7.keep0 M),h7,hK.keep (S7.keep0 M),fun g hg=>Nat.lt_of_lt_of_le (hM g hg) S7.size⟩) ?_);intro d0 a0 c0;refine lB0 Z U (fun b0=>?_) fun b0=>?_
   ·exact lT Z U Z ⟨⟨_,Z,fun _=>⟨h7,by omega⟩⟩,a0.fin⟩
   exact lT Z U Z ⟨⟨_,Z,fun h=>by cases h⟩,a0.fin⟩
  exact lT Z U Z ⟨⟨_,Z,fun h=>by cases h⟩,S7.fin⟩
 exact lT Z U Z ⟨⟨_,Z,fun h=>by cases h⟩,S4.fin⟩
def orV(p:i0a)(l:List Int)(o n:List Int):Int:=if l.any (fun x=>decide ((V1a p x).evl o n=1)) then 1 else 0
theorem U4b(p:i0a)(l:List Int)(o n:List Int):orV p l o n=0∨orV p l o n=1:=by unfold orV;split<;>simp
theorem K0b{p:i0a}{l:List Int}{o n:List Int}:orV p l o n=1↔∃x∈l,(V1a p x).evl o n=1:=by
 unfold orV
 split
 ·rename_i h;obtain⟨x,hx,h⟩:=List.any_eq_true.1 h;exact⟨fun _=>⟨x,hx,of_decide_eq_true h⟩,fun _=>rfl⟩
 ·rename_i h;refine⟨fun h0=>absurd h0 (by decide),fun⟨x,hx,h1⟩=>absurd (List.any_eq_true.2 ⟨x,hx,decide_eq_true h1⟩) h⟩
theorem A5c{p:i0a}{e:E}(hv:e.valid p.cells true=true)(hw:e.w=1)(o n:List Int):e.evl o n=0∨e.evl o n=1:=by
 have h1:=x9a hv hw o n;by_cases h:e.evl o n=0
 ·exact .inl h
 ·exact .inr (h1.1.2 (h1.2.1 h))
theorem P9c{p:i0a}{m:Int}:(V1a p m).op≠0→V1a p m≠zE:=fun h e=>h (by rw[e];rfl)
structure O5c (p:i0a) (s:List Int) (e:E):Prop where
 valid:e.valid p.cells true=true
 w:e.w=1
 evl:∀o n,e.evl o n=orV p s o n
theorem s9c{p:i0a}(hp:E1a p){m:Nat}{s:List Int}(hs:a6a p m s)(h:(A2a p s).2=0):O5c p s (A2a p s).1∧∀x∈s,V1a p x≠zE:=by
 have b0:∀x∈s,0≤x∧x<p.modules.length:=fun x hx=>q6a hp ((hs.2 x).1 hx);unfold A2a at h ⊢;by_cases ha:s.all (fun x=>decide ((V1a p x).op≠0))=true
 ·rw[if_pos ha] at h ⊢;have hz:∀x∈s,V1a p x≠zE:=fun x hx=>P9c (of_decide_eq_true (List.all_eq_true.1 ha x hx));by_cases hf:(u2a 6 0 (s.map (V1a p))).op=0
  ·rw[if_pos hf] at h;cases h
  rw[if_neg hf] at h ⊢;by_cases hq:(r9b (u2a 6 0 (s.map (V1a p)))).op=0
  ·rw[if_pos hq] at h;cases h
  rw[if_neg hq] at h ⊢;refine⟨?_,hz⟩;have e0:u2a 6 0 (s.map (V1a p))≠zE:=fun e=>hf (by rw[e];rfl);have hw:(u2a 6 0 (s.map (V1a p))).wf=true∧(u2a 6 0 (s.map (V1a p))).w=1:=by
   rcases V6a (op:=6) (unit:=0) (.inl Z) (s.map (V1a p)) with h1|h1
   ·exact absurd h1 e0
   ·exact h1
  have ho:(u2a 6 0 (s.map (V1a p))).over p.cells true=true:=R1b (.inr Z) fun e he=>by
   obtain⟨x,hx,rfl⟩:=List.mem_map.1 he;exact p4b hp (b0 x hx)
  obtain⟨a0,c0⟩:=E7c hw.1;have hv:(r9b (u2a 6 0 (s.map (V1a p)))).valid p.cells true=true:=by
   unfold E.valid;rw[Bool.and_eq_true];exact⟨c0,a0.over _ _ ho⟩
  have d0:(r9b (u2a 6 0 (s.map (V1a p)))).w=1:=a0.w.trans hw.2;refine⟨hv,d0,fun o n=>?_⟩;have h1:=(x9a hv d0 o n).1;have h2:(r9b (u2a 6 0 (s.map (V1a p)))).evl o n=1↔orV p s o n=1:=by
   rw[h1,a0.val,O0d e0,K0b];constructor
   ·rintro⟨e,he,h3⟩;obtain⟨x,hx,rfl⟩:=List.mem_map.1 he;exact⟨x,hx,(x9a (p8a hp (b0 x hx) (hz x hx)) (O1c (.inr Z) (hz x hx)) o n).1.2 h3⟩
   ·rintro⟨x,hx,h3⟩;exact⟨_,List.mem_map.2 ⟨x,hx,Z⟩,(x9a (p8a hp (b0 x hx) (hz x hx)) (O1c (.inr Z) (hz x hx)) o n).1.1 h3⟩
  rcases A5c hv d0 o n with h3|h3<;>rcases U4b p s o n with h4|h4
  ·rw[h3,h4]
  ·rw[h2.2 h4] at h3;cases h3
  ·rw[h2.1 h3] at h4;cases h4
  ·rw[h3,h4]
 ·rw[if_neg ha] at h;cases h
theorem N2c(p:i0a)(s:List Int):(A2a p s).2=0∨(A2a p s).2=2:=by
 unfold A2a
 split
 ·split
  ·exact .inr Z
  ·split
   ·exact .inr Z
   ·exact .inl Z
 ·exact .inr Z
def J8b(l:List (Int×Int))(m:Int):List Int:=(l.filter fun x=>decide (x.2=m)).map Prod.fst
theorem y2b(l:List (Int×Int))(m:Int):(J8b l m).length≤l.length:=by
 unfold J8b;rw[List.length_map];exact List.length_filter_le _ _
theorem N3b{l:List (Int×Int)}{k:Nat}{x:Int×Int}(h:l[k]?=some x)(m:Int):J8b (l.take (k+1)) m=J8b (l.take k) m++(if x.2=m then[x.1] else[]):=by
 rw[t0a h];unfold J8b;rw[List.filter_append,List.map_append]
 congr 1
 by_cases e:x.2=m<;>simp[e]
theorem O4b{p:i0a}{m:Nat}{l:List (Int×Int)}(hm:∀x,x∈l↔F5a p p.threads.length x){s:List Int}(hs:a6a p m s):∀x,x∈J8b l m↔x∈s:=fun x=>by
 rw[hs.2 x,←hm];unfold J8b;rw[List.mem_map];constructor
 ·rintro⟨_,hy,rfl⟩;obtain⟨h1,h2⟩:=List.mem_filter.1 hy;rw[←of_decide_eq_true h2];exact h1
 ·intro h;exact⟨(x,m),List.mem_filter.2 ⟨h,decide_eq_true Z⟩,Z⟩
theorem w2c{p:i0a}{a b:List Int}(h:∀x,x∈a↔x∈b)(o n:List Int):orV p a o n=orV p b o n:=by
 have h1:orV p a o n=1↔orV p b o n=1:=by rw[K0b,K0b];exact⟨fun⟨x,hx,h2⟩=>⟨x,(h x).1 hx,h2⟩,fun⟨x,hx,h2⟩=>⟨x,(h x).2 hx,h2⟩⟩
 rcases U4b p a o n with h3|h3<;>rcases U4b p b o n with h4|h4
 ·rw[h3,h4]
 ·rw[h1.2 h4] at h3;cases h3
 ·rw[h1.1 h3] at h4;cases h4
 ·rw[h3,h4]
theorem S4c(p:i0a)(a:List Int)(x:Int)(o n:List Int)(hx:(V1a p x).evl o n=0∨(V1a p x).evl o n=1):bor (orV p a o n) ((V1a p x).evl o n)=orV p (a++[x]) o n:=by
 have h:orV p (a++[x]) o n=1↔orV p a o n=1∨(V1a p x).evl o n=1:=by
  rw[K0b,K0b];constructor
  ·rintro⟨y,hy,h⟩;rcases List.mem_append.1 hy with h1|h1
   ·exact .inl ⟨y,h1,h⟩
   ·rw[List.mem_singleton] at h1;subst h1;exact .inr h
  ·rintro(⟨y,hy,h⟩|h)
   ·exact⟨y,List.mem_append_left _ hy,h⟩
   ·exact⟨x,by simp,h⟩
 rcases U4b p a o n with h1|h1<;>rcases hx with h2|h2<;>rcases U4b p (a++[x]) o n with h3|h3<;>rw[h1,h2,h3] at h<;>rw[h1,h2,h3]<;>first|decide|(exfalso;revert h;decide)
theorem n9c{p:i0a}(hp:E1a p){m:Nat}{s b:List Int}(hs:a6a p m s)(hz:∀x∈s,V1a p x≠zE)(hb:∀x,x∈b↔x∈s){y:Int}(hy:y∈b)(o n:List Int):(V1a p y).evl o n=0∨(V1a p y).evl o n=1:=by
 have h1:=(hb y).1 hy;have h2:=q6a hp ((hs.2 y).1 h1);exact A5c (p8a hp h2 (hz y h1)) (O1c (.inr Z) (hz y h1)) o n
theorem F9b{p:i0a}{s b:List Int}{e:E}(h:O5c p s e)(hb:∀x,x∈b↔x∈s){u:Nat}{so:Int}{o n:List Int}(a0:so=orV p (b.take u) o n)(hu:b.length≤u):e.evl o n=so:=by
 rw[h.evl,a0,List.take_of_length_le hu];exact w2c (fun x=>(hb x).symm) o n
theorem j2c{p:i0a}(hp:E1a p)(x:Int×Int)(h:F5a p p.threads.length x):0≤x.2∧x.2<p.modules.length:=by
 obtain⟨_,_,_,_,_,_,n,_,_,_,h4,_,h6,rfl⟩:=h;have:=(hp.thread h4).modules n h6;unfold O1a at this;exact this
theorem J1c{p:i0a}(hp:E1a p){l:List (Int×Int)}(hu:l.Pairwise lt2)(hm:∀x,x∈l↔F5a p p.threads.length x):l.length≤100:=by
 have n6:=hp.nmodules;have hb:∀x∈l,(0≤x.1∧x.1<6)∧0≤x.2∧x.2<6:=fun x hx=>by
  have h1:=q6a hp ((hm x).1 hx);have h3:=j2c hp x ((hm x).1 hx);omega
 have key:∀(l:List (Int×Int)) (m:Int),l.Pairwise lt2→(∀x∈l,((0≤x.1∧x.1<6)∧0≤x.2∧x.2<6)∧m≤x.1*6+x.2)→m≤36→(l.length:Int)≤36-m:=by
  intro l
  induction l with
  | nil=>intro m _ _ hm;simp;omega
  | cons x l ih =>
    intro m h1 h2 _;rw[List.pairwise_cons] at h1;have h3:=h2 x (by simp);have h4:=ih (x.1*6+x.2+1) h1.2 (fun y hy=>⟨(h2 y (List.mem_cons_of_mem _ hy)).1,by
     have h5:=h1.1 y hy;have h6:=(h2 y (List.mem_cons_of_mem _ hy)).1;unfold lt2 at h5;omega⟩) (by omega)
    simp only[List.length_cons];omega
 have:=key l 0 hu (fun x hx=>⟨hb x hx,by have:=hb x hx;omega⟩) (by omega);omega
theorem y6a(p:i0a)(mo:Int)(I2:0≤mo∧mo≤255)(w0:World)(cs:List Value)(hP:Y0a [] w0 p cs)(d2:C5a p)(hK:g2a [] w0)(hN:r7a [] w0):
 O0a prog 4 #[.agg cs.toArray,.int .u8 mo] w0 fun v w'=>v=.bool true∧Below w0.heap.size w0 w':=by
 obtain⟨Ac,nc,cc,Am,nm,cm,Al,nl,cl,At,nt,ct,rfl,hC,_,_,_,_,_,_,_,_,_,_,bt⟩:=hP.open_;have S:=(St.refl w0).nilEnt 38;refine a0a func4 Z ntmps4 Z ?_;refine wO0 Z U (q0a S Z ?_);intro g2 w2 S2 X2 G2;refine lO0 Z U (S0a S2 Y0d Z Z (W0c _ (hK.keep (S2.keep0 [])) (hN.keep (S2.keep0 []))) ?_);intro Q2 D0 A2;refine lO D0.k [.w 0] Z ⟨⟨Z,Z⟩,U⟩ (W2b D0 h2d Z Z (g1c p [] _ _ (hP.keep (D0.keep0 [])) (hK.keep (D0.keep0 [])) (by simp) d2) (fun u1 s2 g0 H1=>?_) (fun s2 g0 H1=>?_))
 ·refine lB g0.k [.o 0] Z ⟨Z,U⟩ (fun T1=>?_) fun T1=>?_
  ·refine lR0 Z U (w0a Z ?_)
   first
    | exact⟨Z,g0.nil.fin⟩
  have hI:InP p [] w0 [.slice Ac nc cc,.slice Am nm cm,.slice Al nl cl,.slice At nt ct]:=⟨hP,u1.1,hK,by simp⟩;have hp:=hI.ok;have J2:=hp.nmodules;have e2:=O1b hp p.cells.length;have E2:=u1.2;obtain⟨bt,b1⟩:=Int.eq_ofNat_of_zero_le e2.1;refine lO0 Z U (V9b Tryz.underlying5 Tryz.underlying3 Z Z ?_);rw[S2a (by unfold i64;omega)];refine lO g0.k [.o 0] Z ⟨Z,U⟩ (z1d Z Z Z ?_);obtain⟨m,hm,_⟩:=X8c (a:=mo) (b:=(nm:Int)) (by omega);rw[hm];refine lO g0.k [.w 0] Z ⟨⟨Z,Z⟩,U⟩ (p0a g0 y7b Z Z (L7a p m (by omega) [] _ _ (hI.keep (g0.keep0 []))) ?_);rintro v39 q0 ⟨s,_,hs,rfl,n1⟩ E1 B2;obtain⟨C0,I0,J0,rfl,-⟩:=n1.open_;have KR:=x0a.refl [] q0;have H2:∀x∈s,0≤x∧x<p.modules.length:=fun x hx=>q6a hp ((hs.2 x).1 hx);refine lO0 Z U (h0a E1 r1a Z Z ?_);intro g7 w7 S7 X7 G7;have L0:=Nat.le_trans KR.size G7;replace KR:=KR.trans X7;refine b0a (kk:=0) (vs:=[_,_,_,_]) S7 v0a Z Z Z Z Z Z Z ?_;intro t2 c0 T0;dsimp only[e0a,List.set] at c0;replace KR:=KR.fresh T0 (by first|exact L0);refine lB0 Z U (fun v1=>?_) fun v1=>?_
  ·refine lR0 Z U (w0a Z ?_)
   first
    | exact⟨Z,c0.nil.fin⟩
  refine lO c0.k [.w 1] Z ⟨⟨Z,Z⟩,U⟩ (p0a c0 I9b Z Z (E8a p [] _ _ (hI.keep (c0.keep0 []))) ?_);rintro v46 K0 ⟨l,hL,h2,G0,-⟩ E0 I1;replace KR:=KR.trans I1;obtain⟨Li,ni,ci,rfl⟩:=hL.form;have K2:=hL.len.1;have KL:=x0a.refl [] K0;have f2:=J1c hp h2 G0;have S0:q0.heap.size≤K0.heap.size:=KR.size;have f1:(A2a p s).2=0:=(N2c p s).resolve_right v1;obtain⟨x1,j2⟩:=s9c hp hs f1;refine lB0 Z U (fun U1=>by exfalso;omega) fun U1=>?_;refine lO E0.k [.w 0,.o 1] Z ⟨Z,⟨Z,Z⟩,U⟩ (S0a E0 f9a Z Z (M5a (g3a (A2a p s).1 [] _ _ _ p.cells true (RdE.keep KR _ _ n1) (hC.keep (E0.keep0 [])) (hK.keep (E0.keep0 []))) x1.valid) ?_);intro R2 p1 r1;replace KR:=KR.trans r1;replace KL:=KL.trans r1;refine lB0 Z U (fun V1=>by exfalso;omega) fun V1=>?_;refine lOn 8 p1.k [] Z U (C0a (hv:=Z) (v:=.slice _ _ _) Z ?_);refine lC0 Z U (wL (fun μi D ε w=>D=[]∧∃i:Nat,∃G:Option Nat,∃cs2:List Value,∃v:Value,(i+μi=(l.length))∧(f1b [] w G cs2 v ((J8b (l.take i) m).map (V1a p)))∧(∀g∈G.toList,K0.heap.size≤g)∧(x0a [] K0 w)∧(x0a [] q0 w)∧St [] w0 w [(some g7,38,[.int .i64 (A2a p s).1.op,.int .i64 (A2a p s).1.w,.int .i64 (A2a p s).1.n,.slice C0 I0 J0]),(some g2,27,[.slice Ac nc cc,.slice Am nm cm,.slice Al nl cl,.slice At nt ct]),(G,38,cs2)]∧Sl ε [(2,.pointer (some ⟨g2,0,none⟩)),(5,.bool true),(6,.int .i64 m),(7,.pointer (some ⟨g7,0,none⟩)),(9,.slice Li ni ci),(10,v),(11,.int .i64 i)]) (μ:=(l.length)) ⟨Z,0,none,[],.slice none 0 0,by omega,f1b.nil,by simp,KL,KR,p1,Z⟩ ?_);rintro μi D ε w ⟨rfl,i,G,cs2,v,_,o0,A0,KL,KR,S,eZ⟩;refine wK eZ ?_;have KQ:=x0a.refl (G.toList++[]) w;refine wB0 Z U (fun W1=>?_) fun W1=>?_
  ·obtain⟨x,K1,m2,N1,H0,Y0,_,_,c1,g1⟩:=RdS.get (hL.keep KL) (i) (by omega);obtain⟨Q1,_⟩:=g1;obtain rfl:N1=[Value.int .i64 x.1,.int .i64 x.2]:=Q1;refine lO S.k [.x K1 m2] Z ⟨⟨Y0,by omega⟩,U⟩ (f3a M8a Z Z Z ?_);refine I0a B0a Z (by exact c1 _ _ Z) Z ?_;refine lB0 Z U (fun X0=>?_) fun X0=>?_
   ·have a2:=RdS.keep (RdS.more hL (by omega) (fun g (hg:g∈G.toList)=>.inr (A0 g hg))) KL.of_nil;obtain⟨_,M1,n2,O1,i1,_,Z0,_,d1,R1,_⟩:=RdS.get a2 i (by omega);obtain rfl:=Option.some.inj (H0.symm.trans i1);obtain rfl:O1=[Value.int .i64 x.1,.int .i64 x.2]:=R1;have L2:=q6a hp ((G0 x).1 (d0a H0));obtain⟨md,j1⟩:∃md,p.modules[x.1.toNat]?=some md:=⟨_,List.getElem?_eq_getElem (by omega)⟩;refine lC0 Z U (D5c c0a (fun i=>[0,1,2,3,4,5,6,10].contains i) [0,1,2,3,4,5,6,7,8,9,10] (clE S 2 G.toList) ?_);have a0:=S.drew;have d0:x0a [] w w.drew:=r2a _ _;generalize w.drew=v2 at a0 d0 ⊢;have b0:x0a (G.toList) _ _:=d0.of_nil;replace KL:=KL.trans d0;replace KR:=KR.trans d0;replace KQ:=KQ.trans d0.of_nil;refine r6a ⟨St.er (a0) 2,b0⟩ Z Z Z ?_;refine D1a Z ?_;refine m0a ?_;refine r6a ⟨St.er (a0) 2,b0⟩ Z Z Z ?_;refine w1a J4a Z (fun w1 hw=>hw.1.cells 1 Z) Z Z ?_;refine m0a ?_;refine r6a ⟨St.er (a0) 2,b0⟩ Z Z Z ?_;refine D1a (hv:=Z) (v:=.slice _ _ _) Z ?_;refine m0a ?_;refine r6a ⟨St.er (a0) 2,b0⟩ Z Z Z ?_;refine D1a (hv:=Z) (v:=.int .i64 _) Z ?_;refine m0a ?_;refine r6a ⟨St.er (a0) 2,b0⟩ Z Z Z ?_;refine s0a w7a.slT Z (by assumption) Z Z ?_;refine m0a ?_;refine r6a ⟨St.er (a0) 2,b0⟩ Z Z Z ?_;refine Q1a M8a Z Z Z ?_;refine m0a ?_;refine r6a ⟨St.er (a0) 2,b0⟩ Z Z Z ?_;refine n0a B0a Z (fun w1 hw=>hw.2.cell (a:=⟨M1,n2+i*2+0,none⟩) Z0 (d1 0 _ Z)) Z ?_;refine m0a ?_;refine g9b ⟨St.er (a0) 2,b0⟩ Z Z Z Z ?_;refine p0a a0 w5c Z Z ((show((x.1.toNat:Nat):Int)=x.1 by omega)▸J1b p x.1.toNat md j1 (G.toList++[]) _ _ (hI.newL (a0.keep0 _) (fun y hy=>u3a a0 y (t5a 2 Z (fun z hz=>by cases hz) y hy)) (fun y hy=>o4a (M:=[]) a0 (by simp) y (t5a 2 Z (fun z hz=>by cases hz) y hy)))) ?_;rintro N2 u2 ⟨_,rfl,C1⟩ q1 F0;have i0:=b0.trans (F0.mono (by simp));replace KL:=KL.trans F0;replace KR:=KR.trans F0;replace KQ:=KQ.trans (F0.of_nil);obtain⟨_,_,_,rfl,-⟩:=C1.open_;have KE:=x0a.refl (G.toList++[]) u2;refine A0a ⟨Z,?_⟩;refine g9b ⟨St.er (q1) 2,i0⟩ Z Z Z Z ?_;refine z0a q1 P0a (vs:=[.agg _]) (cs:=[_,_,_,_]) Z Z Z Z Z Z ?_;intro C2 T2 Q0 t0 y2;have j0:=i0.trans (t0.mono (by simp));replace KL:=KL.trans t0;replace KR:=KR.trans t0;replace KQ:=KQ.trans (t0.of_nil);replace KE:=KE.trans (t0.of_nil);refine A0a ⟨Z,?_⟩;refine g9b ⟨St.er (Q0.tail) 2,j0⟩ Z Z Z Z ?_;have p0:=o0.keep KQ;refine G1a o3a (k:=3) (M2:=[]) (e1:=V1a p x.1) Q0 P0a Z p0 Z Z (Q0.cells 0 Z) (RdE.keep KE _ _ C1) (by rw[List.length_map];have:=y2b (l.take i) m;rw[List.length_take] at this;omega) Z ?_;intro O2 z2 P1 U2 R0 f0 U0 D1;have u0:=j0.trans U0;have J1:=KL.size;replace KL:=KL.freshL U0 (fun g hg=>.inl (A0 g hg));replace KR:=KR.freshL U0 (fun g hg=>.inl (Nat.le_trans S0 (A0 g hg)));refine A0a ⟨Z,?_⟩;refine r6a ⟨St.er (R0.tail) 2,u0⟩ Z Z Z ?_;refine A4a (by conv=>lhs;whnf) Z ?_;refine m0a ?_;refine M3b ⟨St.er (R0.tail) 2,u0⟩ ?_;refine fP0 Z ⟨by omega,U⟩ ⟨μi-1,by omega,Z,(i+1),(_),(_),(_),(by omega),?_,?_,(KL),(KR),R0.tail,Z⟩;rw[N3b H0,if_pos X0,List.map_append];exact f0
    ·intro g hg;rcases D1 g hg with h|h;exact A0 g h;exact Nat.le_trans J1 h
   refine lP0 Z ⟨by omega,U⟩ ⟨μi-1,by omega,Z,(i+1),(_),(_),(_),(by omega),?_,?_,(KL),(KR),S,Z⟩;rw[N3b H0,if_neg X0,List.append_nil];exact f1b.keep o0 KQ
   ·exact A0
  refine lCn 6 S.k [] Z U ?_;obtain⟨wq,z1⟩:∃x:World,x=w:=⟨_,Z⟩;have a1:RdS [] wq 4 (fun cs e=>RdE [] wq e cs) v ((J8b l m).map (V1a p)):=by
   rw[z1];have hr:x1a RX 4 [] w G cs2 v ((J8b (l.take i) m).map (V1a p)):=o0;rw[List.take_of_length_le (by omega)] at hr;exact x1a.rd o3a hr S (k:=2) Z (fun g hg=>by simp) (by rw[List.length_map];have:=y2b l m;omega)
  have KS:x0a [] wq w:=z1▸x0a.refl _ _;obtain⟨Av,nv,cv,rfl⟩:=a1.form;have i2:=a1.len.1;rw[List.length_map] at i2;have F2:=y2b l m;refine wO S.k [.w 1] Z ⟨⟨Z,Z⟩,U⟩ (S0a S f5c Z Z ((S3b p [] _ _ (hI.keep (S.keep0 []))).mono (fun v w' h=>⟨h.1.trans (by rw[b1]),h.2⟩)) ?_);intro V2 F1 s1;replace KR:=KR.trans s1;replace KS:=KS.trans s1;refine S0a F1 h8b Z Z (q0c bt (by omega) _) ?_;intro W2 G1 t1;replace KR:=KR.trans t1;replace KS:=KS.trans t1;have D2:(2:Nat) ^ bt≤2 ^ 5:=Nat.pow_le_pow_right (by omega) (by omega);refine lC0 Z U (wL (fun μa D ε w=>D=[]∧∃a:Nat,(a+μa=((2 ^ bt)))∧(x0a [] wq w)∧(x0a [] q0 w)∧St [] w0 w [(some g7,38,[.int .i64 (A2a p s).1.op,.int .i64 (A2a p s).1.w,.int .i64 (A2a p s).1.n,.slice C0 I0 J0]),(some g2,27,[.slice Ac nc cc,.slice Am nm cm,.slice Al nl cl,.slice At nt ct]),(G,38,cs2)]∧Sl ε [(2,.pointer (some ⟨g2,0,none⟩)),(5,.bool true),(7,.pointer (some ⟨g7,0,none⟩)),(10,.slice Av nv cv),(12,.int .i64 ((2 ^ bt:Nat):Int)),(13,.int .i64 a)]) (μ:=((2 ^ bt))) ⟨Z,0,by omega,KS,KR,G1,Z⟩ ?_);rintro μa D ε w ⟨rfl,a,_,KS,KR,S,eZ⟩;refine wK eZ (wB0 Z U (fun Y1=>?_) fun Y1=>?_)
  ·refine lC0 Z U (wL (fun o1 D ε w=>D=[]∧∃b2:Nat,(b2+o1=((2 ^ bt)))∧(x0a [] wq w)∧(x0a [] q0 w)∧St [] w0 w [(some g7,38,[.int .i64 (A2a p s).1.op,.int .i64 (A2a p s).1.w,.int .i64 (A2a p s).1.n,.slice C0 I0 J0]),(some g2,27,[.slice Ac nc cc,.slice Am nm cm,.slice Al nl cl,.slice At nt ct]),(G,38,cs2)]∧Sl ε [(2,.pointer (some ⟨g2,0,none⟩)),(5,.bool true),(7,.pointer (some ⟨g7,0,none⟩)),(10,.slice Av nv cv),(12,.int .i64 ((2 ^ bt:Nat):Int)),(13,.int .i64 a),(14,.int .i64 b2)]) (μ:=((2 ^ bt))) ⟨Z,0,by omega,KS,KR,S,Z⟩ ?_);rintro o1 D ε w ⟨rfl,b2,_,KS,KR,S,eZ⟩;refine wK eZ (wB0 Z U (fun Z1=>?_) fun Z1=>?_)
   ·refine lC0 Z U (H0a c0a [0,1,3,4] [2] [5,6,7] Z (Cl _ _ _ _) (Cl.start S) ?_);refine qN S.q [.w 1,.w 1] Z ⟨⟨Z,Z⟩,⟨Z,Z⟩,U⟩ (K3a ?_);refine b4a (fun v w=>∃l,RdI [] w v l) Z Z U4c Z (fun v w w' ⟨l,h⟩ k=>⟨l,h.keep k.of_nil⟩) (fun w1 S1 X1=>i2b p a [] _ _ (hI.keep (S1.keep0 []))) ?_;refine N1a ?_;rintro x2 ⟨r0,v0⟩;rintro P2 ⟨la,hA⟩;dsimp only[z3a];replace KS:=KS.trans v0;replace KR:=KR.trans v0;obtain⟨Aa,na,ca,rfl⟩:=hA.form;refine p0a r0 U4c Z Z (i2b p b2 [] _ _ (hI.keep (r0.keep0 []))) ?_;rintro o2 p2 ⟨lb,hB⟩ N0 n0;replace KS:=KS.trans n0;replace KR:=KR.trans n0;replace hA:=hA.keep (n0.of_nil);obtain⟨Ab,nb,cb,rfl⟩:=hB.form;refine lC0 Z U (wL (fun μu D ε w=>D=[]∧∃u:Nat,∃so:Int,(u+μu=((J8b l m).length))∧(so=orV p ((J8b l m).take u) la lb)∧(x0a [] wq w)∧(x0a [] q0 w)∧(RdI [] w (.slice Aa na ca) la)∧(RdI [] w (.slice Ab nb cb) lb)∧St [] w0 w [(some g7,38,[.int .i64 (A2a p s).1.op,.int .i64 (A2a p s).1.w,.int .i64 (A2a p s).1.n,.slice C0 I0 J0]),(some g2,27,[.slice Ac nc cc,.slice Am nm cm,.slice Al nl cl,.slice At nt ct]),(G,38,cs2)]∧Sl ε [(2,.pointer (some ⟨g2,0,none⟩)),(5,.bool true),(7,.pointer (some ⟨g7,0,none⟩)),(10,.slice Av nv cv),(12,.int .i64 ((2 ^ bt:Nat):Int)),(13,.int .i64 a),(14,.int .i64 b2),(15,.slice Aa na ca),(16,.slice Ab nb cb),(17,.int .i64 so),(18,.int .i64 u)]) (μ:=((J8b l m).length)) ⟨Z,0,0,by omega,by simp[orV],KS,KR,hA,hB,N0,Z⟩ ?_);rintro μu D ε w ⟨rfl,u,so,_,y1,KS,KR,hA,hB,S,eZ⟩;refine wK eZ (wB0 Z U (fun W0=>?_) fun W0=>?_)
    ·obtain⟨e,V0,m1,_,A1,y0,_,B0,z0,m0⟩:=RdS.get (RdS.keepW a1 KS (fun _ _=>RdE.keep KS _ _)) (u) ((by rw[List.length_map];omega));obtain⟨_,_,_,rfl,_⟩:=RdE.cells m0;rw[List.getElem?_map,Option.map_eq_some_iff] at A1;obtain⟨y,B1,rfl⟩:=A1;refine lO (S.k.b z0) [.x V0 m1,.v 0] Z ⟨⟨Z,B0⟩,⟨y0,by omega⟩,U⟩ (S0a S x4b Z Z (m0b (V1a p y) [] _ _ _ _ la lb m0 (hK.keep (S.keep0 [])) hA hB) ?_);intro q2 O0 e0;replace KS:=KS.trans e0;replace KR:=KR.trans e0;replace hA:=hA.keep (e0.of_nil);replace hB:=hB.keep (e0.of_nil);refine lP0 Z ⟨by omega,U⟩ ⟨μu-1,by omega,Z,(u+1),(_),(by omega),?_,(KS),(KR),(hA),(hB),O0,Z⟩;rw[t0a B1,y1];exact S4c p _ y la lb (n9c hp hs j2 (O4b G0 hs) (d0a B1) la lb)
    refine lO S.k [.w 0] Z ⟨⟨Z,Z⟩,U⟩ (S0a S x4b Z Z (m0b (A2a p s).1 [] _ _ _ _ la lb (RdE.keep KR _ _ n1) (hK.keep (S.keep0 [])) hA hB) ?_);intro r2 P0 s0;replace KS:=KS.trans s0;replace KR:=KR.trans s0;refine lB0 Z U (fun x0=>by exact absurd (F9b x1 (O4b G0 hs) y1 (by omega)) x0) (fun x0=>?_);refine lP0 Z ⟨by omega,U⟩ ⟨o1-1,by omega,Z,(b2+1),(by omega),(KS),(KR),P0,Z⟩
   refine lP0 Z ⟨by omega,U⟩ ⟨μa-1,by omega,Z,(a+1),(by omega),(KS),(KR),S,Z⟩
  refine lR0 Z U (w0a Z ?_)
  first
   | exact⟨Z,S.nil.fin⟩
 refine lR0 Z U (w0a Z ?_)
 first
  | exact⟨Z,g0.nil.fin⟩
end Go.Fw
