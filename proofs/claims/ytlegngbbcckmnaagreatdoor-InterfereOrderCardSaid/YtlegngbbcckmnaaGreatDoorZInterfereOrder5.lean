/-
  Part 5 of 8 of the proof of InterfereOrder: what it leans on. No conditions.
-/
import Derived.Test.YtlegngbbcckmnaaGreatDoorZInterfereOrder4
set_option maxRecDepth 100000
set_option maxHeartbeats 4000000
namespace Go.Proofs.YtlegngbbcckmnaaGreatDoor
end Go.Proofs.YtlegngbbcckmnaaGreatDoor
namespace Go.Fw
open Go.Proofs.YtlegngbbcckmnaaGreatDoor Go.Proofs Go.RowKit Tryz
theorem r5a.over{wb w w1 w2:World}{v:Value}{l:List Int}{g:Nat}(h:r5a wb w v l)(Kx:u0a [] w w1)(Ks:u0a [g] w1 w2)(hg:g<wb.heap.size∨w.heap.size≤g)(_hl:l.length≤1000):RdI [] w2 v l:=by
 rcases hg with hg|hg
 ·exact(((h [g] (by simp;exact hg)).keep Kx.of_nil).keep Ks).less (by simp)
 ·exact((((h [] (by simp)).more (by omega) (fun x hx=>by rw[List.mem_singleton.1 hx];exact .inr hg)).keep Kx.of_nil).keep Ks).less (by simp)
theorem K7b.over{wb w w1 w2:World}{v:Value}{l:List (Int×Int)}{g:Nat}(h:K7b wb w v l)(Kx:u0a [] w w1)(Ks:u0a [g] w1 w2)(hg:g<wb.heap.size∨w.heap.size≤g)(_hl:l.length≤10000):j9a [] w2 v l:=by
 rcases hg with hg|hg
 ·exact(((h [g] (by simp;exact hg)).keep Kx.of_nil).keep Ks).less (by simp)
 ·exact((((h [] (by simp)).more (by omega) (fun x hx=>by rw[List.mem_singleton.1 hx];exact .inr hg)).keep Kx.of_nil).keep Ks).less (by simp)
noncomputable def allC(p:o0a)(t:Nat)(l:List Int):List Int:=F3b (l++(onE p t).sup 3) ((onE p t).sup 2)
def m6b(p:o0a)(t:Nat)(l:List Int)(x y:Nat):Prop:=∃a b,ofR (onE p t) (allC p t l) (wdL p.cells (allC p t l)) (2 ^ (b2a (wdL p.cells (allC p t l))).toNat) a b∧x=nuZ l (wdL p.cells l) (stZ (allC p t l) (wdL p.cells (allC p t l)) a k2a)∧y=nuZ l (wdL p.cells l) (stZ (allC p t l) (wdL p.cells (allC p t l)) b k2a)
theorem O2c{p:o0a}{t:Nat}{l:List Int}{a0:Nat}(b0:b2a (wdL p.cells (allC p t l))=a0)(h6:a0≤6){m:List Nat}(hm:G4a m (ofR (onE p t) (allC p t l) (wdL p.cells (allC p t l)) (2 ^ a0)))(x y:Nat):
 ((x:Int),(y:Int))∈ddP ((D0b m 64).map (prj (allC p t l) (wdL p.cells (allC p t l)) l (wdL p.cells l)))↔m6b p t l x y:=by
 rw[L9a,List.mem_map];unfold m6b;rw[b0,Int.toNat_natCast];constructor
 ·rintro⟨q,hq,he⟩;obtain⟨a,b,-,-,h3,rfl⟩:=(hm.mem q).1 hq;unfold prj at he;simp only[Prod.mk.injEq,Int.toNat_natCast,Int.natCast_inj] at he;exact⟨a,b,h3,he.1.symm,he.2.symm⟩
 ·rintro⟨a,b,h3,rfl,rfl⟩;refine⟨((a:Int),(b:Int)),(hm.mem _).2 ⟨a,b,?_,?_,h3,Z⟩,?_⟩
  ·exact Nat.lt_of_lt_of_le h3.1 (Nat.pow_le_pow_right (n:=2) (j:=6) (by omega) h6)
  ·exact Nat.lt_of_lt_of_le h3.2.1 (Nat.pow_le_pow_right (n:=2) (j:=6) (by omega) h6)
  ·unfold prj;simp only[Int.toNat_natCast]
theorem U7b.congr{w0 w:World}{v:Value}{C W:List Int}{R R':Nat→Nat→Prop}{n:Nat}(h:U7b w0 w v C W R n)(hr:∀x y,R x y↔R' x y):U7b w0 w v C W R' n:=by
 obtain⟨a,b,c,l,h1,h2,h3,h4,h5,h6,h7⟩:=h.get;refine⟨a,b,c,l,h1,h2,h3,h4,h5,h6,fun p=>(h7 p).trans ?_⟩;constructor
 ·rintro⟨x,y,h,rfl⟩;exact⟨x,y,h.mono fun a b=>(hr a b).1,Z⟩
 ·rintro⟨x,y,h,rfl⟩;exact⟨x,y,h.mono fun a b=>(hr a b).2,Z⟩
theorem J1c(l:List Int):(r3a l).length=l.length:=by simp[r3a]
theorem o9a(p:o0a)(t:Nat)(l:List Int)(hr:T1a l)(hlc:∀c∈l,0≤c∧c<p.cells.length)(M:List Nat)(w0:World)(cs:List Value)(vl:Value)(hI:InP p M w0 cs)(hL:RdI M w0 vl l)(hon:onE p t≠zE)(p2:(onE p t).valid p.cells true=true)
 (C0:Nat) (hb:b2a (wdL p.cells l)=C0) (x0:Nat) (i2:b2a (wdL p.cells (allC p t l))=x0) (T0:x0≤6) (N1:∀c∈allC p t l,0≤c∧c<p.cells.length) (ht:t<p.threads.length:=by decide) (hb6:C0≤6:=by omega) :
 E0a prog 22 #[.agg cs.toArray,.int .i64 t,vl] w0 fun v w'=>(∃u,v=.tuple #[u,.int .i64 0]∧U7b w0 w' u l (wdL p.cells l) (m6b p t l) (2 ^ C0))∧Below w0.heap.size w0 w':=by
 obtain⟨Ac,nc,cc,Am,nm,cm,Al,nl,cl,At,nt,ct,rfl,hC,_⟩:=hI.rd.open_;obtain⟨A,n,c,rfl⟩:=hL.form;have hM:=hI.lt;have hp:=hI.ok;have t1:∀c∈p.cells,1≤c.w∧c.w≤8:=fun c hc=>by have:=(hp.cells c hc).w;omega
 have y0:=hp.ncells;have ho:=r6a hr hlc y0 t1;have r1:=o4a (l++(onE p t).sup 3) ((onE p t).sup 2);have q2:T1a (allC p t l):=r1.1;have z3:=r6a q2 N1 y0 t1;have s5:=ho.clen;have k4:=z3.clen;have x5:=S7a (onE p t) 3;have w5:=S7a (onE p t) 2;have M4:=(x1a p2).1;have v5:=Z0d M4;have U2:(onE p t).w=1:=by
  rcases h5a (op:=5) (unit:=1) (.inr Z) (h6a p t::(ofL p t).map (F3a p)) with h|h
  ·exact absurd h hon
  ·exact h.2
 have Q2:∀q∈[l,(onE p t).sup 3,(onE p t).sup 2],q.length≤1000:=fun q hq=>by
  simp only[List.mem_cons,List.not_mem_nil,or_false] at hq;rcases hq with rfl|rfl|rfl<;>omega
 have R1:[l,(onE p t).sup 3,(onE p t).sup 2].flatten=(l++(onE p t).sup 3)++(onE p t).sup 2:=by simp
 have v3:∀x∈allC p t l,i64 x:=fun x hx=>by have:=N1 x hx;unfold i64;omega
 have W0:(allC p t l).length≤140737488355328:=by omega
 have S:=(St.refl w0).nilEnt 72;refine x9a func22 Z ntmps22 Z (wI ?_);refine wO0 Z U (p0a S Z ?_);intro g3 w3 S3 X3 G3;refine h0a S3 g6a Z Z ?_;intro g6 w6 S6 X6 G6;refine lB0 Z U (fun h4=>by exfalso;omega) fun h4=>?_;refine lB S6.k [.o 1] Z ⟨Z,U⟩ (fun j4=>by exfalso;omega) fun j4=>?_;refine lO S6.k [.w 1] Z ⟨⟨Z,Z⟩,U⟩ (g0a S6 Y7b Z Z (W5a p M _ _ (hI.keep (S6.keep0 M))) ?_);intro F3 f1 f5;refine lO f1.k [.o 1] Z ⟨Z,U⟩ ?_;have i5:w0.heap.size≤F3.heap.size:=f1.size;have K1:∀g∈[g6],g<F3.heap.size:=fun g hg=>by rw[List.mem_singleton.1 hg];exact f1.lt 0 Z
 refine j0a f1 u0d Z Z (L5b p.cells l M _ _ _ (hC.keep (f1.keep0 M)) (hL.keep (f1.keep0 M)) hr hlc y0 t1 (by omega) (hI.msk.keep (f1.keep0 M))) ?_;rintro B5 Y2 ⟨a,b,_,_,rfl,ha,x3,hd⟩ Q3 g5;obtain⟨A1,n1,c1,rfl⟩:=ha.form;obtain⟨A2,n2,c2,rfl⟩:=x3.form;obtain⟨A3,n3,c3,rfl⟩:=hd.form;have KQ:=u0a.refl [g6] Y2;refine lO0 Z U (h0a Q3 g6a Z Z ?_);intro g8 w8 S8 X8 G8;have t2:=Nat.le_trans KQ.size G8;replace KQ:=KQ.trans (X8.of_nil);refine c0a (kk:=0) (vs:=[_,_,_]) S8 f6a Z Z Z Z Z Z Z ?_;intro U4 P0 y2;dsimp only[f0a,List.set] at P0;replace KQ:=KQ.fresh2 y2 (by exact .inl t2);refine lB0 Z U (fun m4=>by exfalso;omega) fun m4=>?_;refine lO P0.k [.w 2] Z ⟨⟨Z,Z⟩,U⟩ (j0a P0 w9b Z Z (D6c (ht:=ht) p t M _ _ (hI.keep (P0.keep0 M))) ?_);rintro v45 H3 ⟨_,rfl,Y1⟩ R3 W3;replace KQ:=KQ.trans (W3.of_nil);obtain⟨a3,D3,E3,rfl,_⟩:=Y1.cells;have KE:=u0a.refl M H3;refine h0a R3 R1a Z Z ?_;intro s3 J5 P3 j3 b3;have y1:=Nat.le_trans KQ.size b3;have x1:=Nat.le_trans KE.size b3;replace KQ:=KQ.trans (j3.of_nil);replace KE:=KE.trans (j3.of_nil);refine c0a (kk:=0) (vs:=[_,_,_,_]) P3 i1a Z Z Z Z Z Z Z ?_;intro Z2 v0 G1;dsimp only[f0a,List.set] at v0;replace KQ:=KQ.fresh2 G1 (by exact .inl y1);replace KE:=KE.fresh2 G1 (by exact .inl x1);refine lB v0.k [.o 0] Z ⟨Z,U⟩ (fun o4=>by exfalso;omega) fun o4=>?_;refine lB0 Z U (fun p4=>by exfalso;omega) fun p4=>?_;refine lO v0.k [.w 0] Z ⟨⟨Z,Z⟩,U⟩ ?_;have a4:∀g∈M,g<Z2.heap.size:=fun g hg=>Nat.lt_of_lt_of_le (hM g hg) v0.size;refine j0a v0 t7b Z Z (w4a (onE p t) M _ _ (RdE.keep KE _ _ Y1) (hI.msk.keep (v0.keep0 M)) a4) ?_;rintro C5 V4 ⟨_,_,rfl,M1,O1⟩ T3 o3;replace KQ:=KQ.trans (o3.of_nil);replace KE:=KE.trans (o3.of_nil);obtain⟨A4,n4,c4,rfl⟩:=M1.form;obtain⟨A5,n5,c5,rfl⟩:=O1.form;have KS:=u0a.refl M V4;refine lO0 Z U (k0a T3 T9a (vs:=[.slice _ _ _,.slice _ _ _,.slice _ _ _]) (cs:=[_,_,_]) Z Z Z Z Z Z ?_);intro F2 L5 s1 z2 Z4;replace KQ:=KQ.trans (z2.of_nil);replace KE:=KE.trans (z2.of_nil);replace KS:=KS.trans (z2.of_nil);have j5:=KE.size;have b4:=KQ.size;refine j0a s1 i5c Z Z (T4b M _ F2 [l,(onE p t).sup 3,(onE p t).sup 2] Q2 (by simp) (L3d (s1.cell 0 Z Z) (s1.cell 0 Z Z) (s1.cell 0 Z Z) (hL.keep (s1.keep0 M)) (M1.keep KS) (O1.keep KS))) ?_;rintro D5 M5 ⟨z0,E2,q1,o1⟩ U3 p3;have D1:=U3.pushO s1 o1;rw[R1] at q1;have j2:∀g∈z0.toList,H3.heap.size≤g∨g∈M:=fun g hg=>.inl (by have:=(o1 g (by cases z0<;>simp at hg ⊢;exact hg.symm)).1;omega);have o2:∀g∈z0.toList,Y2.heap.size≤g∨g∈[g6]:=fun g hg=>.inl (by have:=(o1 g (by cases z0<;>simp at hg ⊢;exact hg.symm)).1;omega);replace KE:=KE.trans p3.of_nil;replace KQ:=KQ.trans p3.of_nil;obtain⟨_,_,_,rfl⟩:=q1.form;refine lO0 Z U ?_;refine J1a S0c Z Z (k3c _ z0 _ E2 _ _ q1 (fun g hg=>by subst hg;exact D1.blk 0 Z) (by simp;omega)) ?_;rintro E5 Z1 ⟨J1,r2,H2,V1⟩;have b2:=D1.changedO 0 Z r2 H2;dsimp only[List.set] at b2;replace KE:=KE.freshL r2.keepO j2;replace KQ:=KQ.freshL r2.keepO o2;refine lCn 2 b2.k [] Z U (wX (fun D ε w=>D=[]∧∃J0:Nat,∃D0:List Value,∃B1:Option Addr,∃m1:Nat,∃d1:Nat,∃B2:Option Addr,∃m2:Nat,∃d2:Nat,∃B3:Option Addr,∃m3:Nat,∃d3:Nat,∃m:List Nat,(G4a m (ofR (onE p t) (allC p t l) (wdL p.cells (allC p t l)) (2 ^ x0)))∧(RdI [] w (.slice B1 m1 d1) (allC p t l))∧(RdI [] w (.slice B2 m2 d2) (wdL p.cells (allC p t l)))∧(j9a [] w (.slice B3 m3 d3) (D0b m 64))∧(u0a [g6] Y2 w)∧St [] w0 w [(some J0,41,[.slice B1 m1 d1,.slice B2 m2 d2,.slice B3 m3 d3]),(z0,3,D0),(some F2,28,[.slice A n c,.slice A4 n4 c4,.slice A5 n5 c5]),(some s3,37,[.int .i64 (onE p t).op,.int .i64 (onE p t).w,.int .i64 (onE p t).n,.slice a3 D3 E3]),(some g8,41,[.slice A1 n1 c1,.slice A2 n2 c2,.slice A3 n3 c3]),(some g6,41,[.slice none 0 0,.slice none 0 0,.slice none 0 0]),(some g3,27,[.slice Ac nc cc,.slice Am nm cm,.slice Al nl cl,.slice At nt ct]),(none,72,[])]∧Sl ε [(6,.pointer (some ⟨g6,0,none⟩)),(8,.pointer (some ⟨g8,0,none⟩)),(9,.int .i64 0),(14,.pointer (some ⟨J0,0,none⟩))]) ?_ ?_)
 ·have y5:(r3a ((l++(onE p t).sup 3)++(onE p t).sup 2)).length≤1000000:=by rw[J1c];simp;omega
  obtain⟨wt,N4⟩:∃x,x=Z1:=⟨_,Z⟩;have KT:u0a [] wt Z1:=N4▸u0a.refl _ _;refine C2c b0a (fun i=>[0,1,2,4,6,7,8,11].contains i) (.op 0 (.op 1 (.op 2 (.op 4 (.two (.op 3 (.two (.op 5 (.op 6 (.op 7 (.op 8 (.op 9 (.op 10 (.op 11 .nil))))))) (.op 9 (.op 5 (.op 6 (.op 7 (.op 8 (.op 10 (.op 11 .nil))))))))) (.op 9 (.op 3 (.op 5 (.op 6 (.op 7 (.op 8 (.op 10 (.op 11 .nil))))))))))))) (clE b2 0 z0.toList) ?_;have g0:=b2.drew;have I1:u0a [] Z1 Z1.drew:=r4a _ _;generalize Z1.drew=X4 at g0 I1 ⊢;have o0:u0a (z0.toList) _ _:=I1.of_nil;refine P1a ⟨St.er (g0) 0,o0⟩ Z Z Z ?_;refine U0a G1c Z Z ?_;refine n0a ?_;refine P1a ⟨St.er (g0) 0,o0⟩ Z Z Z ?_;refine i0a y8a Z (fun w1 hw=>by exact hw.1.cell 4 Z Z) Z ?_;refine n0a ?_;refine P1a ⟨St.er (g0) 0,o0⟩ Z Z Z ?_;refine m1a Z ?_;refine n0a ?_;refine P1a ⟨St.er (g0) 0,o0⟩ Z Z Z ?_;refine M2a G0a Z (fun w1 hw=>hw.1.cells 1 Z) Z Z ?_;refine n0a ?_;refine o9b ?_ ?_
  ·refine p5a ⟨St.er (g0) 0,o0⟩ Z Z Z ?_;refine J1a z5c Z Z (o0b _ z0 _ J1 _ _ V1 (fun g hg=>by subst hg;exact g0.blk 0 Z)) ?_;rintro v70 a2 ⟨D0,u1,j1,E0⟩;have j0:=o0.trans u1.keepO;have n0:=g0.changedO 0 Z u1 j1;dsimp only[List.set] at n0;have g2:RdI [] a2 v70 (allC p t l):=by
    exact E0.rdI n0 (k:=0) Z (by simp) v3 W0
   obtain⟨J3,R4,e4,rfl⟩:=E0.form;refine X0a ⟨Z,?_⟩;refine o9b ?_ ?_
   ·refine p5a ⟨St.er (n0) 0,j0⟩ Z Z Z ?_;have r3:∀g∈M,g<a2.heap.size:=fun g hg=>Nat.lt_of_lt_of_le (hM g hg) n0.size;refine j0a n0 e2c Z Z (f5b p.cells (allC p t l) (onE p t) [] _ _ _ _ ((hC.keep (n0.keep0 M)).less (by simp)) (g2.keep (by exact u0a.refl _ _)) (RdE.less (by simp) _ _ (RdE.keep (KE.freshL j0 j2) _ _ Y1)) q2 N1 y0 t1 x0 i2 T0 ⟨List.not_mem_nil,(hI.msk.keep (n0.keep0 M)).2⟩ p2 U2 (fun x hx=>(r1.2 x).2 (.inl (List.mem_append_right _ hx))) (fun x hx=>(r1.2 x).2 (.inr hx))) ?_;rintro v72 I3 ⟨a8,b8,c8,m,rfl,X0,Y0,Z0,hm⟩ p0 H1;obtain⟨B1,m1,d1,rfl⟩:=X0.form;obtain⟨B2,m2,d2,rfl⟩:=Y0.form;obtain⟨B3,m3,d3,rfl⟩:=Z0.form;have c0:=j0.trans H1.of_nil;refine X0a ⟨Z,?_⟩;refine P1a ⟨St.er (p0) 0,c0⟩ Z Z Z ?_;refine m1a Z ?_;refine n0a ?_;refine P1a ⟨St.er (p0) 0,c0⟩ Z Z Z ?_;refine y3a Z Z Z ?_;refine n0a ?_;refine P1a ⟨St.er (p0) 0,c0⟩ Z Z Z ?_;refine y3a Z Z Z ?_;refine n0a ?_;refine p5a ⟨St.er (p0) 0,c0⟩ Z Z Z ?_;refine h0a p0 g6a Z Z ?_;intro J0 W2 r0 Q0 U0;have d0:=c0.trans (Q0.mono (by simp));refine X0a ⟨Z,?_⟩;refine p5a ⟨St.er (r0.tail) 0,d0⟩ Z Z Z ?_;refine c0a (kk:=0) (vs:=[_,_,_]) r0 f6a Z Z Z Z Z Z Z ?_;intro H0 a0 b0;dsimp only[f0a,List.set] at a0;have f0:=d0.fresh2 b0 (.inl (by exact Nat.le_trans c0.size U0));refine X0a ⟨Z,?_⟩;refine P1a ⟨St.er (a0.tail) 0,f0⟩ Z Z Z ?_;refine u4a (v:=.int .i64 _) Z Z ?_;refine n0a ?_;refine R0b ⟨St.er (a0.tail) 0,f0⟩ ?_;refine fP0 Z U ⟨Z,(J0),(_),(_),(_),(_),(_),(_),(_),(_),(_),(_),(m),(hm),?_,?_,?_,(KQ.freshL f0 o2),a0,Z⟩
    ·exact X0.over (by exact Q0) b0 (by exact .inr U0) (by omega)
    ·exact Y0.over (by exact Q0) b0 (by exact .inr U0) (by rw[List.length_map];omega)
    ·exact Z0.over (by exact Q0) b0 (by exact .inr U0) (by have:=Q3a m 64;omega)
   refine p5a ⟨St.er (n0) 0,j0⟩ Z Z Z ?_;refine h0a n0 g6a Z Z ?_;intro J0 W2 r0 Q0 U0;have d0:=j0.trans (Q0.mono (by simp));refine X0a ⟨Z,?_⟩;refine p5a ⟨St.er (r0.tail) 0,d0⟩ Z Z Z ?_;have r3:∀g∈M,g<W2.heap.size:=fun g hg=>Nat.lt_of_lt_of_le (hM g hg) r0.size;refine j0a r0 e2c Z Z (f5b p.cells (allC p t l) (onE p t) [] _ _ _ _ ((hC.keep (r0.keep0 M)).less (by simp)) (g2.keep (by exact Q0)) (RdE.less (by simp) _ _ (RdE.keep (KE.freshL d0 j2) _ _ Y1)) q2 N1 y0 t1 x0 i2 T0 ⟨List.not_mem_nil,(hI.msk.keep (r0.keep0 M)).2⟩ p2 U2 (fun x hx=>(r1.2 x).2 (.inl (List.mem_append_right _ hx))) (fun x hx=>(r1.2 x).2 (.inr hx))) ?_;rintro v72 I3 ⟨a8,b8,c8,m,rfl,X0,Y0,Z0,hm⟩ p0 H1;obtain⟨B1,m1,d1,rfl⟩:=X0.form;obtain⟨B2,m2,d2,rfl⟩:=Y0.form;obtain⟨B3,m3,d3,rfl⟩:=Z0.form;have c0:=d0.trans H1.of_nil;refine X0a ⟨Z,?_⟩;refine P1a ⟨St.er (p0.tail) 0,c0⟩ Z Z Z ?_;refine m1a Z ?_;refine n0a ?_;refine P1a ⟨St.er (p0.tail) 0,c0⟩ Z Z Z ?_;refine y3a Z Z Z ?_;refine n0a ?_;refine P1a ⟨St.er (p0.tail) 0,c0⟩ Z Z Z ?_;refine y3a Z Z Z ?_;refine n0a ?_;refine p5a ⟨St.er (p0.tail) 0,c0⟩ Z Z Z ?_;refine c0a (kk:=0) (vs:=[_,_,_]) p0 f6a Z Z Z Z Z Z Z ?_;intro H0 a0 b0;dsimp only[f0a,List.set] at a0;have f0:=c0.fresh2 b0 (.inl (by exact Nat.le_trans j0.size U0));refine X0a ⟨Z,?_⟩;refine P1a ⟨St.er (a0.tail) 0,f0⟩ Z Z Z ?_;refine u4a (v:=.int .i64 _) Z Z ?_;refine n0a ?_;refine R0b ⟨St.er (a0.tail) 0,f0⟩ ?_;refine fP0 Z U ⟨Z,(J0),(_),(_),(_),(_),(_),(_),(_),(_),(_),(_),(m),(hm),?_,?_,?_,(KQ.freshL f0 o2),a0,Z⟩
   ·exact X0.over (by exact u0a.refl _ _) b0 (by exact .inl (r0.lt 0 Z)) (by omega)
   ·exact Y0.over (by exact u0a.refl _ _) b0 (by exact .inl (r0.lt 0 Z)) (by rw[List.length_map];omega)
   ·exact Z0.over (by exact u0a.refl _ _) b0 (by exact .inl (r0.lt 0 Z)) (by have:=Q3a m 64;omega)
  refine p5a ⟨St.er (g0) 0,o0⟩ Z Z Z ?_;refine h0a g0 g6a Z Z ?_;intro J0 W2 r0 Q0 U0;have d0:=o0.trans (Q0.mono (by simp));refine X0a ⟨Z,?_⟩;refine p5a ⟨St.er (r0.tail) 0,d0⟩ Z Z Z ?_;refine J1a z5c Z Z (o0b _ z0 _ J1 _ _ V1 (fun g hg=>by subst hg;exact r0.blk 1 Z)) ?_;rintro v70 a2 ⟨D0,u1,j1,E0⟩;have j0:=d0.trans u1.keepO;have n0:=r0.changedO 1 Z u1 j1;dsimp only[List.set] at n0;have g2:RdI [] a2 v70 (allC p t l):=by
   exact E0.rdI n0 (k:=1) Z (by simp) v3 W0
  obtain⟨J3,R4,e4,rfl⟩:=E0.form;refine X0a ⟨Z,?_⟩;refine p5a ⟨St.er (n0.tail) 0,j0⟩ Z Z Z ?_;have r3:∀g∈M,g<a2.heap.size:=fun g hg=>Nat.lt_of_lt_of_le (hM g hg) n0.size;refine j0a n0 e2c Z Z (f5b p.cells (allC p t l) (onE p t) [] _ _ _ _ ((hC.keep (n0.keep0 M)).less (by simp)) (g2.keep (by exact u0a.refl _ _)) (RdE.less (by simp) _ _ (RdE.keep (KE.freshL j0 j2) _ _ Y1)) q2 N1 y0 t1 x0 i2 T0 ⟨List.not_mem_nil,(hI.msk.keep (n0.keep0 M)).2⟩ p2 U2 (fun x hx=>(r1.2 x).2 (.inl (List.mem_append_right _ hx))) (fun x hx=>(r1.2 x).2 (.inr hx))) ?_;rintro v72 I3 ⟨a8,b8,c8,m,rfl,X0,Y0,Z0,hm⟩ p0 H1;obtain⟨B1,m1,d1,rfl⟩:=X0.form;obtain⟨B2,m2,d2,rfl⟩:=Y0.form;obtain⟨B3,m3,d3,rfl⟩:=Z0.form;have c0:=j0.trans H1.of_nil;refine X0a ⟨Z,?_⟩;refine P1a ⟨St.er (p0.tail) 0,c0⟩ Z Z Z ?_;refine m1a Z ?_;refine n0a ?_;refine P1a ⟨St.er (p0.tail) 0,c0⟩ Z Z Z ?_;refine y3a Z Z Z ?_;refine n0a ?_;refine P1a ⟨St.er (p0.tail) 0,c0⟩ Z Z Z ?_;refine y3a Z Z Z ?_;refine n0a ?_;refine p5a ⟨St.er (p0.tail) 0,c0⟩ Z Z Z ?_;refine c0a (kk:=0) (vs:=[_,_,_]) p0 f6a Z Z Z Z Z Z Z ?_;intro H0 a0 b0;dsimp only[f0a,List.set] at a0;have f0:=c0.fresh2 b0 (.inl (by exact Nat.le_trans o0.size U0));refine X0a ⟨Z,?_⟩;refine P1a ⟨St.er (a0.tail) 0,f0⟩ Z Z Z ?_;refine u4a (v:=.int .i64 _) Z Z ?_;refine n0a ?_;refine R0b ⟨St.er (a0.tail) 0,f0⟩ ?_;refine fP0 Z U ⟨Z,(J0),(_),(_),(_),(_),(_),(_),(_),(_),(_),(_),(m),(hm),?_,?_,?_,(KQ.freshL f0 o2),a0,Z⟩
  ·exact X0.over (by exact u0a.refl _ _) b0 (by exact .inl (n0.lt 0 Z)) (by omega)
  ·exact Y0.over (by exact u0a.refl _ _) b0 (by exact .inl (n0.lt 0 Z)) (by rw[List.length_map];omega)
  ·exact Z0.over (by exact u0a.refl _ _) b0 (by exact .inl (n0.lt 0 Z)) (by have:=Q3a m 64;omega)
 rintro D ε w ⟨rfl,J0,D0,B1,m1,d1,B2,m2,d2,B3,m3,d3,m,hm,w4,L4,D4,KQ,S,eZ⟩;refine wK eZ ?_;obtain⟨wc,KC,J2,V2,O2,R2,T2⟩:∃wc,u0a [] wc w∧RdI [] wc (.slice B1 m1 d1) (allC p t l)∧RdI [] wc (.slice B2 m2 d2) (wdL p.cells (allC p t l))∧j9a [] wc (.slice B3 m3 d3) (D0b m 64)∧RdI [g6] wc (.slice A1 n1 c1) l∧RdI [g6] wc (.slice A2 n2 c2) (wdL p.cells l):=⟨w,u0a.refl _ _,w4,L4,D4,(ha [g6] K1).keep KQ,(x3 [g6] K1).keep KQ⟩;refine wB0 Z U (fun q4=>by exfalso;omega) fun q4=>?_;have N3:=KC.size;refine lO0 Z U (h0a S a3d Z Z ?_);intro m0 T4 v2 V3 M3;replace KC:=KC.trans V3;have O3:wc.heap.size≤m0:=Nat.le_trans (by exact N3) M3;refine lO v2.k [.w 1,.o 5,.o 5] Z ⟨Z,Z,⟨Z,Z⟩,U⟩ (H0a k7b (vs:=[(0,.slice _ _ _),(1,.slice _ _ _)]) (cs:=[_,_,_]) Z Z Z Z ?_);have d5:m0<T4.heap.size:=v2.lt 0 Z;have e5:=KC.size;refine j0a v2 r2d Z Z (J8b _ _ _ _ _ _ _ _ _ _ _ _ _ _ _ _ _ _ _) ?_;rintro F5 O0 ⟨ga,gb,rfl,_,_,P1,Q1⟩ E1 Y3;replace KC:=KC.trans Y3;refine lC0 Z U (wJ ?_);refine r9a (vs:=fun y=>#[y,_,_]) z9c Z (fun _=>rfl) (fun rc wi S2 C3 I4 K2 H4 t4 u4 z4 hl hB z5=>?_);obtain⟨lp,E4⟩:∃lp,lp=O0.heap.size+1:=⟨_,Z⟩;have u3:=D9a (NC.nil (w:=O0)) z4 hl hB;rw[←E4] at hl u3 ⊢;have Si:=E1.later hB;have Ki:u0a [] O0 wi:=u0a.of_below hB;have Zw:=E1.size;have O4:=E1.lt 0 Z;have S4:w0.heap.size≤m0:=by simpa using E1.new 0 Z
 have P4:=P1.lt;have Q4:=Q1.lt;simp only at P4 Q4;have p1:∀x∈[(O0.heap.size,Obj.deferred (some []))],x.1≠lp:=fun x hx=>by
  rcases List.mem_cons.1 hx with rfl|hx
  ·show O0.heap.size≠lp;omega
  ·cases hx
 have L2:ga∉[lp,m0]:=fun hh=>by
  simp only[List.mem_cons,List.not_mem_nil,or_false] at hh;omega
 have N2:gb∉[lp,m0]:=fun hh=>by
  simp only[List.mem_cons,List.not_mem_nil,or_false] at hh;omega
 have f2:∀g∈[lp,m0],g∈([]:List Nat)∨wc.heap.size≤g:=fun g hg=>by
  simp only[List.mem_cons,List.not_mem_nil,or_false] at hg;right;have h1:=KC.size;rcases hg with rfl|rfl
  ·omega
  ·exact O3
 have u2:u0a [lp,m0] wc wi:=(KC.trans Ki).of_nil;have t3:∀g∈g6::[lp,m0],g∈[g6]∨wc.heap.size≤g:=fun g hg=>by
  rcases List.mem_cons.1 hg with rfl|h
  ·exact .inl (by simp)
  ·exact .inr ((f2 g h).elim (fun h=>by cases h) id)
 have U1:RdI (g6::[lp,m0]) wi (.slice A1 n1 c1) l:=(R2.more (by omega) t3).keep (KC.trans Ki).of_nil;have X1:RdI (g6::[lp,m0]) wi (.slice A2 n2 c2) (wdL p.cells l):=(T2.more (by omega) t3).keep (KC.trans Ki).of_nil;have F4:RdI [lp,m0] wi (.slice A1 n1 c1) l:=U1.less (fun g hg=>List.mem_cons_of_mem _ hg);have J4:RdI [lp,m0] wi (.slice A2 n2 c2) (wdL p.cells l):=X1.less (fun g hg=>List.mem_cons_of_mem _ hg);have v4:RdI [lp,m0] wi (.slice B1 m1 d1) (allC p t l):=(J2.more (by omega) f2).keep u2;have K4:RdI [lp,m0] wi (.slice B2 m2 d2) (wdL p.cells (allC p t l)):=(V2.more (by omega) f2).keep u2;have C4:j9a [lp,m0] wi (.slice B3 m3 d3) (D0b m 64):=(O2.more (by omega) f2).keep u2;refine E0a.mono (G5b (allC p t l) (wdL p.cells (allC p t l)) l (wdL p.cells l) (D0b m 64) C0 lp ga gb _ _ [lp,m0] wi (fun Ps k w=>NC w [(lp,.loop rc),(O0.heap.size,.deferred (some []))]∧(∃G cs v,Q1a A8a 2 [] w0 G cs v k∧(∀x∈G.toList,wi.heap.size≤x∧x∉Ps)∧(∀x∈k,i64 x.1∧i64 x.2)∧St [] w0 w [(some m0,32,[v]),(some J0,41,[.slice B1 m1 d1,.slice B2 m2 d2,.slice B3 m3 d3]),(z0,3,D0),(some F2,28,[.slice A n c,.slice A4 n4 c4,.slice A5 n5 c5]),(some s3,37,[.int .i64 (onE p t).op,.int .i64 (onE p t).w,.int .i64 (onE p t).n,.slice a3 D3 E3]),(some g8,41,[.slice A1 n1 c1,.slice A2 n2 c2,.slice A3 n3 c3]),(some g6,41,[.slice none 0 0,.slice none 0 0,.slice none 0 0]),(some g3,27,[.slice Ac nc cc,.slice Am nm cm,.slice Al nl cl,.slice At nt ct]),(G,72,cs)])∧u0a [lp,m0] wi w∧(∀g∈Ps,wi.heap.size≤g∧g<w.heap.size)) _ _ _ _ _ _ (W0a Ki P1) (W0a Ki Q1) L2 N2 F4 J4 v4 K4 C4 ho z3 hb hb6 (by omega) ⟨none,0,0,Z⟩ (fun x hx=>by obtain⟨a,b,h1,h2,-,rfl⟩:=h3b.1 hx;simp only;omega) (Q3a m 64) ⟨?_,?_,fun Ps k w h=>h.2.2.1,fun Ps k w a hJ u5 t5=>?_⟩) ?_
 ·intro Ps w G2 N0;exact⟨u3.keep (u0a.of_below G2),⟨none,[],.slice none 0 0,Q1a.nil,by simp,by simp,Si.later G2⟩,u0a.of_below G2,N0⟩
 ·rintro Ps k w w' ⟨u0,⟨G,cs,v,h1,h2,i4,S3⟩,K3,N0⟩ e2;exact⟨u0.keep (u0a.of_below e2),⟨G,cs,v,h1,h2,i4,S3.later e2⟩,K3.trans (u0a.of_below e2),fun g hg=>⟨(N0 g hg).1,Nat.lt_of_lt_of_le (N0 g hg).2 e2.size⟩⟩
 ·obtain⟨u0,⟨G,cs,v,F0,T1,P2,S3⟩,K3,N0⟩:=hJ;obtain⟨Av,nv,cv,rfl⟩:=F0.form;have Kr:=u0a.refl ([lp,m0]++G.toList) w;refine I8c (u0 (lp,.loop rc) (by simp)).1 S2 I4 K2 H4 t4 u4 Z ?_;refine wI ?_;refine wO0 Z U (h0a S3 X8b Z Z ?_);intro q5 K5 h3 x2 e3;have v1:=Nat.le_trans K3.size e3;have z1:=Nat.le_trans Kr.size e3;replace K3:=K3.trans (x2.of_nil);replace Kr:=Kr.trans (x2.of_nil);replace u0:=u0.keep x2;refine c0a (kk:=0) (vs:=[_,_]) h3 y5b Z Z Z Z Z Z Z ?_;intro I0 V0 A0;dsimp only[f0a,List.set] at V0;replace K3:=K3.fresh2 A0 (by exact .inl v1);replace Kr:=Kr.fresh2 A0 (by exact .inl z1);replace u0:=by exact u0.keepS A0 (h3.blk 0 Z)
  refine lF0 Z U ?_;refine⟨(u0 (lp,.loop rc) (by simp)).1,?_⟩;have Sb:=V0.putObj (.loop { rc with state:=.busy }) u0 (List.mem_cons_self) (.inl (by omega));have L0:=u0.put (o':=.loop { rc with state:=.busy }) p1 (by simp);have Kb:=K3.fresh2 (O2a I0 lp (.loop { rc with state:=.busy })) (.inr (by simp));have Kbr:=Kr.fresh2 (O2a I0 lp (.loop { rc with state:=.busy })) (.inr (by simp));generalize I0.putObj lp (.loop { rc with state:=.busy })=wb at Sb L0 Kb Kbr ⊢;refine wI ?_;refine wO0 Z U (B0a B5a Z (by exact Sb.cell 1 Z Z) Z ?_);refine lO Sb.k [.w 0] Z ⟨⟨Z,by rfl⟩,U⟩ (k0a Sb u3a (vs:=[.agg _]) (cs:=[_,_]) Z Z Z Z Z Z ?_);intro r5 N5 w2 C2 a5;replace Kb:=Kb.trans (C2.of_nil);replace Kbr:=Kbr.trans (C2.of_nil);replace L0:=L0.keep C2;have d4:=Kb.size;have h5:=Kbr.size;refine u1a W8a (k:=10) (M2:=[]) (e1:=a) w2 u3a Z F0 Z Z (w2.cells 0 Z) ⟨Z,by unfold i64;omega,by unfold i64;omega⟩ (by omega) Z ?_;intro G5 b5 g4 O5 i3 G0 D2 L3;replace Kb:=Kb.freshL D2 (fun g hg=>.inl (T1 g hg).1);replace Kbr:=Kbr.trans (D2.mono (fun g hg=>List.mem_append_right _ hg));replace L0:=L0.keepL D2 (D1b w2 10 Z);obtain⟨_,_,_,rfl⟩:=G0.form;refine c1a (kk:=2) i3 w1d Z Z Z (by exact Nat.le_of_ble_eq_true Z) ?_;intro a1 C1 B0;replace Kb:=Kb.fresh2 B0 (by exact .inr (by simp));replace Kbr:=Kbr.fresh2 B0 (by exact .inr (by simp));replace L0:=by exact L0.keepS B0 (i3.blk 2 Z)
  refine lF0 Z U ?_;refine⟨{ rc with state:=.busy },(L0 (lp,_) (by simp)).1,Z,?_⟩;have r4:=L0.put (o':=.loop rc) p1 (by simp);have Sn:=C1.tail.tail.putObj (.loop rc) L0 (List.mem_cons_self) (.inl (by omega));have Kn:=Kb.fresh2 (O2a a1 lp (.loop rc)) (.inr (by simp));have f3:=Kbr.fresh2 (O2a a1 lp (.loop rc)) (.inr (by simp));rw[R7b S2 C3];refine⟨⟨r4,⟨_,_,_,G0,fun x hx=>?_,fun x hx=>?_,Sn⟩,Kn,fun g hg=>⟨(N0 g hg).1,Nat.lt_of_lt_of_le (N0 g hg).2 f3.size⟩⟩,fun g hg=>f3.same g (N0 g hg).2 (fun hh=>?_)⟩
  ·rcases L3 x hx with h|h
   ·exact T1 x h
   ·exact⟨Nat.le_trans d4 h,fun hh=>by have:=(N0 x hh).2;omega⟩
  ·rcases List.mem_append.1 hx with h|h
   ·exact P2 x h
   ·rw[List.mem_singleton.1 h];unfold i64;omega
  ·rcases List.mem_append.1 hh with h|h
   ·simp only[List.mem_cons,List.not_mem_nil,or_false] at h;have h1:=(N0 g hg).1;rcases h with rfl|rfl<;>omega
   ·exact(T1 g h).2 hg
 rintro v w3 ⟨Ps,u0,⟨G,f4,_,F0,T1,P2,S3⟩,K3,-⟩;obtain⟨Av,nv,cv,rfl⟩:=F0.form;refine⟨rc,(u0 (lp,.loop rc) (by simp)).1,by rw[S2];simp,.inl ⟨C3,?_⟩⟩;have Sa:=S3.putObj (.loop { rc with state:=.exhausted }) u0 (List.mem_cons_self) (.inl (by omega));have K0:=(u0.put (o':=.loop { rc with state:=.exhausted }) p1 (by simp)).tail;have Ka:=K3.fresh2 (O2a w3 lp (.loop { rc with state:=.exhausted })) (.inr (by simp));generalize w3.putObj lp (.loop { rc with state:=.exhausted })=wa at Sa K0 Ka ⊢;have B4:∀g∈G.toList,wi.heap.size≤g∨g∈[lp,m0]:=fun g hg=>.inl (T1 g hg).1;have s4:((D0b m 64).map (prj (allC p t l) (wdL p.cells (allC p t l)) l (wdL p.cells l))).length≤4096:=by rw[List.length_map];exact Q3a m 64
 have p5:g6<O0.heap.size:=E1.lt 6 Z;refine fC0 Z U (C2c b0a (fun i=>[0,1,2,3,4,6,8,9,11].contains i) (.op 0 (.op 1 (.op 2 (.op 3 (.op 4 (.op 5 (.op 6 (.op 7 (.op 8 (.op 9 (.op 10 (.op 11 .nil)))))))))))) (Y3d Sa 8 6 (g6::G.toList)) ?_);have i0:=Sa.drew;have i1:u0a [] wa wa.drew:=r4a _ _;generalize wa.drew=Y4 at i0 i1 ⊢;have t0:u0a (g6::G.toList) _ _:=i1.of_nil;replace K0:=K0.keep i1;refine P1a ⟨St.er (St.er (i0) 8) 6,t0⟩ Z Z Z ?_;refine U0a h2c Z Z ?_;refine n0a ?_;refine P1a ⟨St.er (St.er (i0) 8) 6,t0⟩ Z Z Z ?_;refine i0a w5a Z (fun w1 hw=>by exact hw.1.cell 5 Z Z) Z ?_;refine n0a ?_;refine P1a ⟨St.er (St.er (i0) 8) 6,t0⟩ Z Z Z ?_;refine U0a m9b Z Z ?_;refine n0a ?_;refine P1a ⟨St.er (St.er (i0) 8) 6,t0⟩ Z Z Z ?_;refine i0a w5a Z (fun w1 hw=>by exact hw.1.cell 5 Z Z) Z ?_;refine n0a ?_;refine P1a ⟨St.er (St.er (i0) 8) 6,t0⟩ Z Z Z ?_;refine i0a B5a Z (fun w1 hw=>by exact hw.1.cell 0 Z Z) Z ?_;refine n0a ?_;refine p5a ⟨St.er (St.er (i0) 8) 6,t0⟩ Z Z Z ?_;refine J1a k9b Z Z (S3b _ G f4 _ _ F0 (fun g hg=>by subst hg;exact i0.blk 8 Z) (by omega)) ?_;rintro H5 W4 ⟨_,s2,I2,⟨_,_,_,rfl⟩,y4⟩;have R0:=t0.trans (s2.keepO.mono (fun g hg=>List.mem_cons_of_mem _ hg));have g1:=i0.changedO 8 Z s2 I2;dsimp only[List.set] at g1;replace K0:=K0.keepL s2.keepO (D1b i0 8 Z);refine X0a ⟨Z,?_⟩;refine P1a ⟨St.er (St.er (g1) 8) 6,R0⟩ Z Z Z ?_;refine G2a M5c (vs:=[(0,.slice _ _ _),(1,.slice _ _ _),(2,.slice _ _ _)]) (cs:=[_,_,_]) Z Z Z Z ?_;refine n0a ?_;refine p5a ⟨St.er (St.er (g1) 8) 6,R0⟩ Z Z Z ?_;have o5:=g1.size;have b1:u0a (g6::[lp,m0]) wi W4:=(Ka.mono (fun g hg=>List.mem_cons_of_mem _ hg)).freshL R0 (fun g hg=>by
  rcases List.mem_cons.1 hg with rfl|h
  ·exact .inr List.mem_cons_self
  ·exact(B4 g h).imp id (List.mem_cons_of_mem _))
 refine j0a g1 j1d Z Z (y6b [] _ _ _ _ l (wdL p.cells l) _ C0 ((U1.keep b1).less (by simp)) ((X1.keep b1).less (by simp)) (y4 [] (by simp) P2) ho hb hb6 (fun x hx=>by obtain⟨a,-,rfl⟩:=List.mem_map.1 (L9a.1 hx);exact P1c ho.wid hb a) (y0c _)) ?_;rintro I5 P5 ⟨_,rfl,W1⟩ F1 q3;obtain⟨_,e1,_,_,_,_,_,_,_,rfl⟩:=W1.set3;have S0:=R0.trans q3.of_nil;replace K0:=K0.keep q3;refine X0a ⟨Z,?_⟩;refine P1a ⟨St.er (St.er (F1) 8) 6,S0⟩ Z Z Z ?_;refine y3a Z Z Z ?_;refine n0a ?_;refine P1a ⟨St.er (St.er (F1) 8) 6,S0⟩ Z Z Z ?_;refine y3a Z Z Z ?_;refine n0a ?_;refine p5a ⟨St.er (St.er (F1) 8) 6,S0⟩ Z Z Z ?_;refine c0a (kk:=6) (vs:=[_,_,_]) F1 f6a Z Z Z Z Z Z Z ?_;intro X2 e0 s0;dsimp only[f0a,List.set] at e0;have q0:=S0.trans (s0.mono (by simp));replace K0:=by exact K0.keepS s0 (F1.blk 6 Z)
 refine X0a ⟨Z,?_⟩;refine P1a ⟨St.er (St.er (e0) 8) 6,q0⟩ Z Z Z ?_;refine u4a (v:=.int .i64 _) Z Z ?_;refine n0a ?_;refine R0b ⟨St.er (St.er (e0) 8) 6,q0⟩ ?_;refine fR0 Z U ?_;have Zk:=b1.size;have m5:=g1.lt 6 Z;have Z3:=g1.size;have x4:=W1.congr (R':=m6b p t l) (fun x y=>O2c i2 T0 hm x y);have G4:g6∉[O0.heap.size]:=by rw[List.mem_singleton];omega
 exact t8b (n:=3) Z A4a Z Z Z [O0.heap.size] Z (by simp) K0 (e0.cells 6 Z) G4 (fun w' y3=>⟨⟨_,Z,x4.later (G:=[g6,O0.heap.size]) ((s0.mono (by simp)).trans ((u0a.of_belowM y3).mono (by simp))) (fun g hg=>by simp only[List.mem_cons,List.not_mem_nil,or_false] at hg;rcases hg with rfl|rfl<;>omega) Z3⟩,(D0a.step e0.below y3 (by simp;omega)).nil⟩)
section
variable {P:Program} {r:Option Nat} {N:Nat} {ops:Array Oper} {rest:List Oper} {C:World→Prop} {KQ:Env→Prop} {K:List Deferred→Env→World→Prop} {D:List Deferred} {e:Env} {w:World} {d:Nat} {t:TypeId} {p:String} {af:Array Edge} {x y:Operand} {yt:TypeId}
theorem Eq2.neq{ty:TypeId}(hE:Eq2 P ty)(w:World)(a b:Int×Int):(binOp .neq ty (.agg (pc a).toArray) (.agg (pc b).toArray)).run P w=.ok (.bool (!decide (a=b))) w:=by
 have:=hE.2 w a.1 a.2 b.1 b.2;have hd:decide (a=b)=decide (a.1=b.1∧a.2=b.2):=decide_eq_decide.2 Prod.ext_iff;rw[hd];show(binOp .neq ty (.agg #[.int .i64 a.1,.int .i64 a.2]) (.agg #[.int .i64 b.1,.int .i64 b.2])).run P w=_;rw[run_eql_struct] at this;rw[run_neq_struct]
 revert this
 generalize (Op.equalIn 10000 ty _ _).run P w=a0;intro this;cases a0 with
 | ok z w'=>simp only[Result.andThen_ok] at this ⊢;cases this;rfl
 | halt z w'=>simp[Result.andThen] at this
theorem Eq2.guard{ty:TypeId}(hE:Eq2 P ty)(w:World)(op:BinOp)(x y:Operand)(a b:Int×Int):(eqGuard op ty x y (.agg (pc a).toArray) (.agg (pc b).toArray)).run P w=.ok () w:=run_eqGuard_agg w _ _ _ _ _ _ hE.1
theorem Eq2.eql{ty:TypeId}(hE:Eq2 P ty)(w:World)(a b:Int×Int):(binOp .eql ty (.agg (pc a).toArray) (.agg (pc b).toArray)).run P w=.ok (.bool (decide (a=b))) w:=by
 have hd:decide (a=b)=decide (a.1=b.1∧a.2=b.2):=decide_eq_decide.2 Prod.ext_iff;rw[hd];exact hE.2 w a.1 a.2 b.1 b.2
theorem p5c{ty:TypeId}{a b:Int×Int}(hE:Eq2 P ty)(hx:ev e x=.agg (pc a).toArray)(hy:ev e y=.agg (pc b).toArray)(hd:Nat.ble (d+1) N=true)
 (h1:a≠b→QL P N ops C rest KQ (upd e d (.bool true))) (h2:a=b→QL P N ops C rest KQ (upd e d (.bool false))):QL P N ops C (⟨some d,.binOp .neq ty x y yt,t,p,af,none⟩::rest) KQ e:=by
 by_cases hh:a=b
 ·exact D2a Z Z hd (fun w _=>by simp only[execOp,hx,hy,Sem.run_bind,hE.guard,Result.andThen_ok,hE.neq,Sem.run_pure,decide_eq_true hh];rfl) (h2 hh)
 ·exact D2a Z Z hd (fun w _=>by simp only[execOp,hx,hy,Sem.run_bind,hE.guard,Result.andThen_ok,hE.neq,Sem.run_pure,decide_eq_false hh];rfl) (h1 hh)
end
theorem m9a(M:List Nat)(w0:World)(v:Value)(l:List Int)(a:Int)(hR:RdI M w0 v l):
 E0a prog 43 #[v,.int .i64 a] w0 fun v w'=>v=.bool (decide (a∈l))∧Below w0.heap.size w0 w':=by
 obtain⟨A,n,c,rfl⟩:=hR.form;obtain⟨_,-,_⟩:=hR.len;have S:=St.refl w0;refine a0a func43 Z ntmps43 Z ?_;refine wC0 Z U (wL (fun μk D ε w=>D=[]∧∃k:Nat,(k+μk=(l.length))∧(a∉l.take k)∧St [] w0 w []∧Sl ε [(0,.slice A n c),(1,.int .i64 a),(5,.int .i64 k)]) (μ:=(l.length)) ⟨Z,0,by omega,by simp,S,Z⟩ ?_);rintro μk D ε w ⟨rfl,k,_,ha,S,eZ⟩;refine wK eZ (wB0 Z U (fun h9=>?_) fun h9=>?_)
 ·obtain⟨x,f0,g0,_,e0,b0,_,_,c0,d0⟩:=RdS.get (hR) (k) (by omega);obtain⟨rfl,_⟩:=id d0;refine lB (S.k.a c0) [.x f0 g0,.f 0 0] Z ⟨Z,⟨b0,by omega⟩,U⟩ (fun a0=>?_) fun a0=>?_
  ·refine lR0 Z U (s0a Z ?_);exact⟨by rw[decide_eq_true (a0▸d0a e0:a∈l)],S.fin⟩
  refine lP0 Z ⟨by omega,U⟩ ⟨μk-1,by omega,Z,(k+1),(by omega),?_,S,Z⟩;rw[F0a e0];intro hh;rcases List.mem_append.1 hh with h|h
  ·exact ha h
  ·rw[List.mem_singleton.1 h] at a0;exact a0 Z
 refine lR0 Z U (s0a Z ?_);exact⟨by rw[decide_eq_false (by rw[List.take_of_length_le (by omega)] at ha;exact ha)],S.fin⟩
theorem Q2a(M:List Nat)(w0:World)(v u:Value)(a b:List (Int×Int))(hA:j9a M w0 v a)(hB:j9a M w0 u b):
 E0a prog 12 #[v,u] w0 fun v w'=>v=.bool (decide (a=b))∧Below w0.heap.size w0 w':=by
 obtain⟨A,n,c,rfl⟩:=hA.form;obtain⟨hn,-,_⟩:=hA.len;obtain⟨A',n',c',rfl⟩:=hB.form;obtain⟨_,-,_⟩:=hB.len;have S:=St.refl w0;refine a0a func12 Z ntmps12 Z ?_;refine wB0 Z U (fun x0=>?_) fun x0=>?_
 ·refine lR0 Z U (s0a Z ?_);exact⟨by rw[decide_eq_false (fun h=>by rw[h] at hn;omega)],S.fin⟩
 have C0:b.length=a.length:=by omega
 refine lC0 Z U (wL (fun μk D ε w=>D=[]∧∃k:Nat,(k+μk=(a.length))∧(a.take k=b.take k)∧St [] w0 w []∧Sl ε [(0,.slice A n c),(1,.slice A' n' c'),(5,.int .i64 k)]) (μ:=(a.length)) ⟨Z,0,by omega,by simp,S,Z⟩ ?_);rintro μk D ε w ⟨rfl,k,_,he,S,eZ⟩;refine wK eZ (wB0 Z U (fun y0=>?_) fun y0=>?_)
 ·refine lC0 Z U (y0a b0a [0,1,2,3,4,5,6,7,8] [] [] Z (Cl _ _ _ _) (Cl.start S) ?_);obtain⟨x,q0,z0,s0,n0,c0,_,g0,e0,j0⟩:=RdS.get (hA) (k) (by omega);obtain⟨u0,_⟩:=j0;obtain rfl:s0=pc x:=u0;obtain⟨y,r0,A0,t0,o0,d0,_,i0,f0,m0⟩:=RdS.get (hB) (k) (by omega);obtain⟨v0,_⟩:=m0;obtain rfl:t0=pc y:=v0;refine qOn 8 ((S.q.a f0).a e0) [.x q0 z0,.v 0,.x r0 A0,.v 1] Z ⟨⟨Z,i0⟩,⟨d0,by omega⟩,⟨Z,g0⟩,⟨c0,by omega⟩,U⟩ (p5c (a:=x) (b:=y) S1b Z Z Z (fun b0=>?_) fun b0=>?_)
  ·refine qD Z U ?_;rintro B0 ⟨a0,p0⟩;refine lR0 Z U (s0a Z ?_);exact⟨by rw[decide_eq_false (fun h=>b0 (Option.some.inj (n0.symm.trans (by rw[h];exact o0))))],a0.fin⟩
  refine qD Z U ?_;rintro B0 ⟨a0,p0⟩;refine lP0 Z ⟨by omega,U⟩ ⟨μk-1,by omega,Z,(k+1),(by omega),?_,a0,Z⟩;rw[F0a n0,F0a o0,he,b0]
 refine lR0 Z U (s0a Z ?_);exact⟨by rw[decide_eq_true (by rw[List.take_of_length_le (by omega),List.take_of_length_le (by omega)] at he;exact he)],S.fin⟩
theorem T6b(n wd:Int)(w0:World):E0a prog 93 #[.int .i64 n,.int .i64 wd] w0 fun v w'=>v=.agg #[.int .i64 3,.int .i64 wd,.int .i64 n,.slice none 0 0]∧Below w0.heap.size w0 w':=by
 have S:=St.refl w0;refine a0a func93 Z ntmps93 Z ?_;refine wO0 Z U (h0a S R1a Z Z ?_);intro g4 w4 S4 X4 G4;refine lO0 Z U (H0a W1a (vs:=[(0,.int .i64 _),(1,.int .i64 _),(2,.int .i64 _)]) (cs:=[_,_,_,_]) Z Z Z Z ?_)
 first|refine c0a (kk:=0) (vs:=[_,_,_,_]) S4 i1a Z Z Z Z Z Z Z ?_
 intro c0 a0 b0;dsimp only[f0a,List.set] at a0;exact lR0 Z U (w0a Z G0a Z (a0.cells 0 Z) Z ⟨Z,a0.fin⟩)
theorem t3b(n wd:Int)(w0:World):E0a prog 94 #[.int .i64 n,.int .i64 wd] w0 fun v w'=>v=.agg #[.int .i64 2,.int .i64 wd,.int .i64 n,.slice none 0 0]∧Below w0.heap.size w0 w':=by
 have S:=St.refl w0;refine a0a func94 Z ntmps94 Z ?_;refine wO0 Z U (h0a S R1a Z Z ?_);intro g4 w4 S4 X4 G4;refine lO0 Z U (H0a W1a (vs:=[(0,.int .i64 _),(1,.int .i64 _),(2,.int .i64 _)]) (cs:=[_,_,_,_]) Z Z Z Z ?_)
 first|refine c0a (kk:=0) (vs:=[_,_,_,_]) S4 i1a Z Z Z Z Z Z Z ?_
 intro c0 a0 b0;dsimp only[f0a,List.set] at a0;exact lR0 Z U (w0a Z G0a Z (a0.cells 0 Z) Z ⟨Z,a0.fin⟩)
theorem i1b(n wd:Int)(w0:World):E0a prog 39 #[.int .i64 n,.int .i64 wd] w0 fun v w'=>v=.agg #[.int .i64 1,.int .i64 wd,.int .i64 n,.slice none 0 0]∧Below w0.heap.size w0 w':=by
 have S:=St.refl w0;refine a0a func39 Z ntmps39 Z ?_;refine wO0 Z U (h0a S R1a Z Z ?_);intro g4 w4 S4 X4 G4;refine lO0 Z U (H0a W1a (vs:=[(0,.int .i64 _),(1,.int .i64 _),(2,.int .i64 _)]) (cs:=[_,_,_,_]) Z Z Z Z ?_)
 first|refine c0a (kk:=0) (vs:=[_,_,_,_]) S4 i1a Z Z Z Z Z Z Z ?_
 intro c0 a0 b0;dsimp only[f0a,List.set] at a0;exact lR0 Z U (w0a Z G0a Z (a0.cells 0 Z) Z ⟨Z,a0.fin⟩)
theorem X7b(op wd:Int)(ho:i64 op)(hw:i64 wd)(a b:E)(ca cb:List Value)(M:List Nat)(w0:World)(hM:∀g∈M,g<w0.heap.size)(ha:RdE M w0 a ca)(hb:RdE M w0 b cb):
 E0a prog 92 #[.int .i64 op,.int .i64 wd,.agg ca.toArray,.agg cb.toArray] w0 fun v w'=>(∃cs:List Value,v=.agg cs.toArray∧RdE M w' ⟨op,wd,0,[a,b]⟩ cs)∧Below w0.heap.size w0 w':=by
 have S:=St.refl w0;obtain⟨_,_,_,rfl,-⟩:=ha.open_;obtain⟨_,_,_,rfl,-⟩:=hb.open_;refine a0a func92 Z ntmps92 Z ?_;refine wO0 Z U (p0a S Z ?_);intro g6 w6 S6 X6 G6;refine p0a S6 Z ?_;intro g7 w7 S7 X7 G7;refine h0a S7 R1a Z Z ?_;intro g8 w8 S8 X8 G8;refine lO S8.k [.w 2,.w 1] Z ⟨⟨Z,by rfl⟩,⟨Z,by rfl⟩,U⟩ (k0a S8 O0a (vs:=[.agg _,.agg _]) (cs:=[_,_,_,_,_,_,_,_]) Z Z Z Z Z Z ?_);intro g0 i0 b0 f0 e0;refine H0a W1a (vs:=[(0,.int .i64 _),(1,.int .i64 _),(3,.slice _ _ _)]) (cs:=[_,_,_,_]) Z Z Z Z ?_;refine c0a (kk:=1) (vs:=[_,_,_,_]) b0 i1a Z Z Z Z Z Z Z ?_;intro d0 a0 c0;dsimp only[f0a,List.set] at a0;refine lR0 Z U (w0a Z G0a Z (a0.cells 1 Z) Z ⟨⟨_,Z,t2b ho hw (fun hm=>?_) (a0.cells 0 Z) (RdE.keep (a0.keep0 M) _ _ ha) (RdE.keep (a0.keep0 M) _ _ hb)⟩,a0.fin⟩);have h1:=hM _ hm;have h2:=a0.new 0 Z;simp at h2;omega
theorem n6a(p:o0a)(k:Nat)(M:List Nat)(w0:World)(cs:List Value)(hI:InP p M w0 cs)(hk:k<p.cells.length:=by omega):
 E0a prog 56 #[.agg cs.toArray,.int .i64 k] w0 fun v w'=>(∃cs:List Value,v=.agg cs.toArray∧RdE M w' (F3a p k) cs)∧Below w0.heap.size w0 w':=by
 obtain⟨_,_,_,_,_,_,_,_,_,_,_,_,rfl,hC,_⟩:=hI.rd.open_;have hM:=hI.lt;have s0:=hI.ok.ncells;have S:=St.refl w0;refine a0a func56 Z ntmps56 Z ?_;refine wO0 Z U (p0a S Z ?_);intro g2 w2 S2 X2 G2;refine h0a S2 R1a Z Z ?_;intro g4 w4 S4 X4 G4;refine lC0 Z U (y0a b0a [0,1,2,3,4,5,6,7,8,9,10,11,12,13,14,15] [] [16,17] Z (Cl _ _ _ _) (Cl.start S4) ?_);obtain⟨y,b9,p9,_,i0,q0,_,_,r0,t0⟩:=RdS.get (hC) (k) (by omega);obtain⟨rfl,_⟩:=r2a.open_ t0;have u0:wAt p.cells k=y.w:=W4a (by rw[Int.toNat_natCast];exact i0);have A0:=(hI.ok.cells y (d0a i0)).w;refine qO (S4.q.a r0) [.o 1,.x b9 p9,.f 0 1] Z ⟨Z,⟨q0,by omega⟩,Z,U⟩ (t1a I5c Z Z (fun w1 S1 X1=>T6b k y.w _) ?_);obtain⟨_,p0,v0,_,g0,d0,_,_,e0,f0⟩:=RdS.get (hC) (k) (by omega);obtain rfl:=Option.some.inj (i0.symm.trans g0);obtain⟨rfl,_⟩:=r2a.open_ f0;refine qO (S4.q.a e0) [.o 1,.x p0 v0,.f 0 1] Z ⟨Z,⟨d0,by omega⟩,Z,U⟩ (t1a Q5c Z Z (fun w1 S1 X1=>t3b k y.w _) ?_);refine qD Z U ?_;rintro y0 ⟨c0,_⟩;have o0:∀g∈g4::M,g<y0.heap.size:=fun g hg=>by
  rcases List.mem_cons.1 hg with rfl|hg
  ·exact c0.lt 0 Z
  ·exact Nat.lt_of_lt_of_le (hM g hg) c0.size
 have ik:i64 (k:Int):=by unfold i64;omega
 have iw:i64 y.w:=by unfold i64;omega
 refine j0a c0 C9b Z Z (X7b 11 1 (by unfold i64;omega) (by unfold i64;omega) ⟨3,y.w,k,[]⟩ ⟨2,y.w,k,[]⟩ [_,_,_,_] [_,_,_,_] (g4::M) _ o0 (f1a (by unfold i64;omega) iw ik) (f1a (by unfold i64;omega) iw ik)) ?_;rintro B0 x0 ⟨_,rfl,j0⟩ n0 z0;obtain⟨_,_,_,rfl,-⟩:=j0.open_;have KE:=u0a.refl (g4::M) x0;refine c0a (kk:=0) (vs:=[_,_,_,_]) n0 i1a Z Z Z Z Z Z Z ?_;intro m0 a0 b0;dsimp only[f0a,List.set] at a0;replace KE:=KE.fresh2 b0 (by first  | exact .inr (by simp));refine lR0 Z U ?_;exact w0a Z G0a Z (a0.cells 0 Z) Z ⟨⟨_,Z,by unfold F3a;rw[u0];exact RdE.less (fun g hg=>List.mem_cons_of_mem _ hg) _ _ (RdE.keep KE _ _ j0)⟩,a0.fin⟩
def bV(bs:List Bool):List Value:=bs.map Value.bool
theorem m1d(bs:List Bool)(i:Nat):(bV bs).set i (.bool true)=bV (bs.set i true):=by simp[bV,List.map_set]
theorem y1d(bs:List Bool):(bV bs).length=bs.length:=by simp[bV]
theorem G1d{w:World}{g t:Nat}{bs:List Bool}{M:List Nat}(hb:m0a w (g,t,bV bs))(hg:g∉M)(hl:bs.length≤1000):RdB M w (.slice (some ⟨g,0,none⟩) bs.length bs.length) bs:=by
 refine⟨_,_,_,Z,Z,Nat.le_refl _,by unfold maxLen;omega,by omega,fun _=>⟨g,0,Z,hg,fun i x hi=>⟨[.bool x],Z,fun j v hj=>?_,Z⟩⟩⟩;cases j with
 | succ j=>simp at hj
 | zero =>
   simp at hj;subst hj;exact hb.cell (by unfold bV;rw[List.getElem?_map,show 0+i*1+0=i by omega,hi];rfl)
def F4b(p:o0a)(t k j:Nat)(bs:List Bool):Prop:=bs.length=p.modules.length∧∀m:Nat,m<p.modules.length→(bs.getD m false=true↔z7a p t k j (m:Int))
theorem F4b.zero{p:o0a}{t:Nat}:F4b p t 0 0 (List.replicate p.modules.length false):=by
 refine⟨by simp,fun m hm=>?_⟩;rw[List.getD_eq_getElem?_getD,List.getElem?_replicate,if_pos hm];exact⟨fun h=>(by cases h),fun h=>absurd h z7a.zero⟩
theorem F4b.step{p:o0a}{t k j:Nat}{bs:List Bool}{th:k1a}{s:y2a}(h:F4b p t k j bs)(ht:p.threads[k]?=some th)(hs:th.steps[j]?=some s)(hm:0≤s.module_∧s.module_<p.modules.length):F4b p t k (j+1) (bs.set s.module_.toNat true):=by
 refine⟨by rw[List.length_set];exact h.1,fun m a0=>?_⟩;rw[z7a.step ht hs,←h.2 m a0];by_cases he:s.module_.toNat=m
 ·rw[List.getD_eq_getElem?_getD,he,List.getElem?_set_self (by rw[h.1];exact a0)];exact⟨fun _=>.inr (by omega),fun _=>rfl⟩
 ·rw[List.getD_eq_getElem?_getD,List.getElem?_set_ne he,←List.getD_eq_getElem?_getD];exact⟨.inl,fun hh=>hh.elim id fun hh=>absurd hh (by omega)⟩
theorem F4b.next{p:o0a}{t k:Nat}{bs:List Bool}{th:k1a}(h:F4b p t k th.steps.length bs)(ht:p.threads[k]?=some th)(hk:k≠t):F4b p t (k+1) 0 bs :=
 ⟨h.1,fun m hm=>(h.2 m hm).trans (z7a.next ht hk).symm⟩
theorem F4b.skip{p:o0a}{t k:Nat}{bs:List Bool}(h:F4b p t k 0 bs)(hk:k=t):F4b p t (k+1) 0 bs :=
 ⟨h.1,fun m hm=>(h.2 m hm).trans (z7a.skip hk).symm⟩
theorem F4b.oth{p:o0a}{t:Nat}{bs:List Bool}(hp:o1a p)(h:F4b p t p.threads.length 0 bs):s1a p t=G3a bs:=by
 unfold s1a G3a M1a;rw[h.1]
 congr 1
 apply List.filter_congr;intro m hm;rw[Bool.eq_iff_iff,h.2 m (List.mem_range.1 hm),←V9a hp];unfold s1a;simp only[List.mem_map,List.mem_filter,List.mem_range];constructor
 ·intro hh;exact⟨m,⟨List.mem_range.1 hm,hh⟩,Z⟩
 ·rintro⟨a,⟨_,ha⟩,he⟩;have:a=m:=by exact Int.ofNat_inj.1 he
  subst this;exact ha
theorem U8b(p:o0a)(t:Nat)(M:List Nat)(w0:World)(cs:List Value)(hI:InP p M w0 cs)(ht:t<1000):
 E0a prog 42 #[.agg cs.toArray,.int .i64 t,.bool false] w0 fun v w'=>(∃bs,F4b p t p.threads.length 0 bs∧∀M,(∀g∈M,g<w0.heap.size)→RdB M w' v bs)∧Below w0.heap.size w0 w':=by
 obtain⟨Ac,nc,cc,Am,nm,cm,Al,nl,cl,At,nt,ct,rfl,_,_,_,x0,_,z0,_⟩:=hI.rd.open_;have hM:=hI.lt;have hp:=hI.ok;have n2:=hp.nthreads;have n3:=hp.nmodules;have S:=St.refl w0;refine a0a func42 Z ntmps42 Z ?_;refine wO0 Z U (p0a S Z ?_);intro g3 w3 S3 X3 G3;refine lO S3.k [.o 0] Z ⟨Z,U⟩ (K8a (n:=nm) (c:=nm) S3 p6a Z Z Z Z ?_);intro e0 Q0 C0 O0 N0;have u0:List.replicate nm (Value.bool false)=bV (List.replicate p.modules.length false):=by rw[bV,List.map_replicate,←z0]
 have c0:=C0;rw[u0] at c0;refine lC0 Z U (wL (fun μk D ε w=>D=[]∧∃k:Nat,∃bs:List Bool,(k+μk=(p.threads.length))∧(F4b p t k 0 bs)∧St [] w0 w [(some e0,4,bV bs),(some g3,27,[.slice Ac nc cc,.slice Am nm cm,.slice Al nl cl,.slice At nt ct])]∧Sl ε [(1,.int .i64 t),(2,.bool false),(3,.pointer (some ⟨g3,0,none⟩)),(7,.slice (some ⟨e0,0,none⟩) nm nm),(8,.int .i64 k)]) (μ:=(p.threads.length)) ⟨Z,0,List.replicate p.modules.length false,by omega,F4b.zero,c0,Z⟩ ?_);rintro μk D ε w ⟨rfl,k,bs,_,hS,S,eZ⟩;refine wK eZ (wB S.k [.o 1] Z ⟨Z,U⟩ (fun G0=>?_) fun G0=>?_)
 ·obtain⟨th,a0⟩:∃th,p.threads[k]?=some th:=⟨p.threads[k]'(by omega),List.getElem?_eq_getElem _⟩;have P0:=(hp.thread a0).nsteps;refine lC0 Z U (wL (fun μ D ε w=>D=[]∧∃j:Nat,∃bs:List Bool,(F4b p t k j bs)∧(j+μ=1000)∧(j≤th.steps.length)∧(k=t→j=0)∧St [] w0 w [(some e0,4,bV bs),(some g3,27,[.slice Ac nc cc,.slice Am nm cm,.slice Al nl cl,.slice At nt ct])]∧Sl ε [(1,.int .i64 t),(2,.bool false),(3,.pointer (some ⟨g3,0,none⟩)),(7,.slice (some ⟨e0,0,none⟩) nm nm),(8,.int .i64 k),(9,.int .i64 j)]) (μ:=1000) ⟨Z,0,bs,hS,Z,Nat.zero_le _,(fun _=>rfl),S,Z⟩ ?_);rintro μ D ε w ⟨rfl,j,bs,hS,_,_,y0,S,eZ⟩;refine wK eZ ?_;obtain⟨_,D0,J0,_,s0,f0,_,_,j0,p0⟩:=RdS.get (x0) (k) (by omega);obtain rfl:=Option.some.inj (a0.symm.trans s0);obtain⟨_,_,_,_,_,_,_,_,_,_,_,_,rfl,_⟩:=T0a.open_ p0;refine wB (S.k.a j0) [.o 1,.x D0 J0,.f 0 4] Z ⟨Z,⟨f0,by omega⟩,Z,U⟩ (fun H0=>?_) fun H0=>?_
  ·refine lB0 Z U (fun I0=>?_) fun I0=>?_
   ·refine lP0 Z ⟨by omega,U⟩ ⟨μk-1,by omega,Z,(k+1),(_),(by omega),?_,S,Z⟩;by_cases h:k=t
    ·obtain rfl:j=0:=y0 h;exact hS.skip h
    ·obtain rfl:j=th.steps.length:=by omega
     exact hS.next a0 h
   obtain⟨_,E0,K0,_,t0,g0,_,_,m0,q0⟩:=RdS.get (x0) (k) (by omega);obtain rfl:=Option.some.inj (a0.symm.trans t0);obtain⟨_,_,_,_,_,_,_,_,_,_,_,_,rfl,_,_,_,d0,_⟩:=T0a.open_ q0;obtain⟨s,F0,L0,_,A0,i0,_,_,n0,r0⟩:=RdS.get (d0) (j) (by omega);obtain⟨_,_,_,_,_,_,rfl,⟨_,_⟩,_⟩:=Y1a.open_ r0;have o0:0≤s.module_∧s.module_<p.modules.length:=((hp.thread a0).steps s (d0a A0)).mod;refine lO ((S.k.a n0).a m0) [.o 1,.x E0 K0,.f 0 4,.x F0 L0,.f 1 10,.i] Z ⟨by omega,Z,⟨i0,by omega⟩,Z,⟨g0,by omega⟩,Z,U⟩ ?_;refine c1a (hy:=Z) (kk:=0) (v:=.bool true) S J9b Z Z Z (by rw[y1d,hS.1];omega) ?_;intro B0 b0 v0;rw[show 0+s.module_.toNat*1=s.module_.toNat by omega,m1d] at b0;dsimp only[List.set] at b0;refine lP0 Z ⟨by omega,U⟩ ⟨μ-1,by omega,Z,(j+1),(_),(hS.step a0 A0 o0),(by omega),((by omega)),((fun h=>by omega)),b0,Z⟩
  refine lP0 Z ⟨by omega,U⟩ ⟨μk-1,by omega,Z,(k+1),(_),(by omega),?_,S,Z⟩;by_cases h:k=t
  ·obtain rfl:j=0:=y0 h;exact hS.skip h
  ·obtain rfl:j=th.steps.length:=by omega
   exact hS.next a0 h
 refine lR0 Z U (s0a Z ?_);have hl:=hS.1;exact⟨⟨bs,(show k=p.threads.length by omega)▸hS,fun M hM=>by
  have:=G1d (M:=M) (S.blk 0 Z) (fun hm=>by have h1:=hM _ hm;have h2:=S.new 0 Z;simp at h2;omega) (by omega);rw[hl,←z0] at this;exact this⟩,S.fin⟩
theorem e6b{p:o0a}{t:Int}{f:List Int}{k:Nat}{c:a1a}(h:p.cells[k]?=some c):h9b f (m3b p t (k+1))=if c.thread=t∧(k:Int)∉f then h9b f (m3b p t k)++[(k:Int)] else h9b f (m3b p t k):=by
 rw[q4a h];by_cases h1:c.thread=t
 ·rw[if_pos h1];unfold h9b;rw[List.filter_append];by_cases h2:(k:Int)∈f<;>simp[h1,h2]
 ·rw[if_neg h1,if_neg (fun h=>h1 h.1)]
theorem E1c(p:o0a)(m:Nat)(md:j1a)(a0:p.modules[m]?=some md)(M:List Nat)(w0:World)(cs:List Value)(hI:InP p M w0 cs):
 E0a prog 17 #[.agg cs.toArray,.int .i64 m] w0 fun v w'=>(∃cs:List Value,v=.agg cs.toArray∧RdE M w' (b3a p m) cs)∧Below w0.heap.size w0 w':=by
 obtain⟨Ac,nc,cc,Am,nm,cm,Al,nl,cl,At,nt,ct,rfl,hC,H0,_⟩:=hI.rd.open_;have hM:=hI.lt;have hp:=hI.ok;have n1:=hp.ncells;have n3:=hp.nmodules;have r1:=q0b a0;have s1:=hp.modules md (d0a a0);have y0:(C2b p md).length≤100000:=by
  have:=o7a md.frame (ofL p (-1));have:=Z2a p (-1) p.cells.length;unfold C2b ofL at *;simp;omega
 have S:=St.refl w0;refine a0a func17 Z ntmps17 Z ?_;refine wO0 Z U (p0a S Z ?_);intro g2 w2 S2 X2 G2;refine h0a S2 R1a Z Z ?_;intro g4 w4 S4 X4 G4;refine lO S4.k [.w 1] Z ⟨⟨Z,Z⟩,U⟩ (g0a S4 Q7b Z Z (r0b p M _ _ (hI.keep (S4.keep0 M))) ?_);intro w8 S8 X8;refine lB0 Z U (fun V0=>by exfalso;omega) fun V0=>?_;refine lB S8.k [.o 1] Z ⟨Z,U⟩ (fun W0=>by exfalso;omega) fun W0=>?_;obtain⟨_,Q0,a1,_,C0,o0,_,_,u0,z0⟩:=RdS.get (H0) (m) (by omega);obtain rfl:=Option.some.inj (a0.symm.trans C0);obtain⟨_,_,_,_,_,_,_,_,_,rfl,_,s0,_⟩:=M0a.open_ z0;refine lO (S8.k.a u0) [.o 1,.x Q0 a1,.f 0 6] Z ⟨Z,⟨o0,by omega⟩,Z,U⟩ ?_;have d1:=RdE.keep (S8.keep0 _) _ _ (RdE.more (E3a S8 (k:=0) Z) _ _ s0);refine k0a S8 O0a (vs:=[.agg _]) (cs:=[_,_,_,_]) Z Z Z Z Z Z ?_;intro U0 w1 J0 O0 I0;refine C0a Z ?_;have e0:=f9a (d1.addNew O0 I0);refine lC0 Z U (wL (fun μk D ε w=>D=[]∧∃k:Nat,∃G:Option Nat,∃cs2:List Value,∃v:Value,(k+μk=(p.cells.length))∧(k1b (g4::M) w G cs2 v (md.guar::(h9b md.frame (m3b p (-1) k)).map (F3a p)))∧St [] w0 w [(G,37,cs2),(some g4,37,[.int .i64 0,.int .i64 0,.int .i64 0,.slice none 0 0]),(some g2,27,[.slice Ac nc cc,.slice Am nm cm,.slice Al nl cl,.slice At nt ct])]∧Sl ε [(1,.int .i64 m),(2,.pointer (some ⟨g2,0,none⟩)),(4,.pointer (some ⟨g4,0,none⟩)),(5,v),(6,.int .i64 k)]) (μ:=(p.cells.length)) ⟨Z,0,some U0,_,_,by omega,e0,J0,Z⟩ ?_);rintro μk D ε w ⟨rfl,k,G,cs2,v,_,c0,S,eZ⟩;refine wK eZ ?_;have KQ:=u0a.refl (G.toList++g4::M) w;refine wB S.k [.o 2] Z ⟨Z,U⟩ (fun X0=>?_) fun X0=>?_
 ·obtain⟨y,R0,b1,_,E0,p0,_,_,v0,A0⟩:=RdS.get (hC) (k) (by omega);obtain⟨rfl,_⟩:=r2a.open_ A0;refine lB (S.k.a v0) [.o 2,.x R0 b1,.f 0 3] Z ⟨Z,⟨p0,by omega⟩,Z,U⟩ (fun Y0=>?_) fun Y0=>?_
  ·obtain⟨_,S0,c1,_,D0,q0,_,_,x0,B0⟩:=RdS.get (H0) (m) (by omega);obtain rfl:=Option.some.inj (a0.symm.trans D0);obtain⟨_,_,_,_,_,_,_,_,_,rfl,_,_,r0,_⟩:=M0a.open_ B0;refine lO (S.k.a x0) [.o 2,.x S0 c1,.f 0 10] Z ⟨Z,⟨q0,by omega⟩,Z,U⟩ (v0a S m7b Z Z (m9a M _ _ md.frame k (r0.keep (S.keep0 M))) (fun Z0 f1 b0 m0=>?_) (fun Z0 f1 b0 m0=>?_))
   ·replace KQ:=KQ.trans (m0.of_nil);refine lP0 Z ⟨by omega,U⟩ ⟨μk-1,by omega,Z,(k+1),(_),(_),(_),(by omega),?_,b0,Z⟩;rw[e6b E0];have h9:(k:Int)∈md.frame:=of_decide_eq_true (by assumption);rw[if_neg (fun h=>h.2 h9)];exact c0.keep KQ
   replace KQ:=KQ.trans (m0.of_nil);refine lOn 6 b0.k [] Z U (I0a Z ?_);refine lO b0.k [.w 2] Z ⟨⟨Z,Z⟩,U⟩ (j0a b0 d5c Z Z (n6a p k (G.toList++g4::M) _ _ ⟨(hI.rd.more (fun x hx=>e4a b0 x (n3b 0 Z (k3b 1 Z) x hx))).keep (b0.keep0 _),hp,(hI.msk.more (fun x hx=>e4a b0 x (n3b 0 Z (k3b 1 Z) x hx))).keep (b0.keep0 _),fun x hx=>j7a b0 hM x (n3b 0 Z (k3b 1 Z) x hx)⟩) ?_);rintro t1 x1 ⟨_,rfl,i0⟩ K0 P0;replace KQ:=KQ.trans (P0.of_nil);obtain⟨_,_,_,rfl,-⟩:=i0.open_;refine k0a K0 O0a (vs:=[.agg _]) (cs:=[_,_,_,_]) Z Z Z Z Z Z ?_;intro q1 y1 F0 G0 j1;replace i0:=RdE.keep (G0.of_nil) _ _ i0;replace KQ:=KQ.trans (G0.of_nil);have g0:=c0.keep KQ;refine u1a j3a (k:=1) (M2:=g4::M) (e1:=F3a p k) F0 O0a Z g0 Z Z (F0.cells 0 Z) i0 (by have:=o7a md.frame (m3b p (-1) k);have:=Z2a p (-1) k;simp;omega) Z ?_;intro u1 m1 T0 z1 L0 f0 o1 i1;refine C0a Z ?_;refine lP0 Z ⟨by omega,U⟩ ⟨μk-1,by omega,Z,(k+1),(_),(_),(_),(by omega),?_,L0.tail,Z⟩;rw[e6b E0];have h9:y.thread=-1∧(k:Int)∉md.frame:=⟨by omega,of_decide_eq_false (by assumption)⟩;rw[if_pos h9,List.map_append];exact f0
  refine lP0 Z ⟨by omega,U⟩ ⟨μk-1,by omega,Z,(k+1),(_),(_),(_),(by omega),?_,S,Z⟩;rw[e6b E0];have h9:¬(y.thread=-1∧(k:Int)∉md.frame):=fun h=>by have:=h.1;omega
  rw[if_neg h9];exact c0.keep KQ
 refine lOn 7 S.k [] Z U (I0a Z ?_);have t0:RdL (g4::M) w v (C2b p md):=by
  have hr:=c0;rw[show k=p.cells.length by omega] at hr;exact hr.rdL S (k:=0) Z (fun g hg hh=>by
   subst hg;rcases List.mem_cons.1 hh with hh|hh
   ·exact S.ne 0 1 Z Z (by omega) hh
   ·exact J5a S (k:=0) Z hM hh) (by have:=o7a md.frame (ofL p (-1));have:=Z2a p (-1) p.cells.length;unfold ofL at *;simp;omega)
 refine j0a S f6c Z Z (O9b (C2b p md) y0 (g4::M) _ _ t0 (m7a S 1 Z hM)) ?_;rintro v1 A1 ⟨_,rfl,j0⟩ N0 p1;obtain⟨_,_,_,rfl,-⟩:=j0.open_;refine c0a (kk:=1) (vs:=[_,_,_,_]) N0 i1a Z Z Z Z Z Z Z ?_;intro g1 d0 n0;dsimp only[f0a,List.set] at d0;replace j0:=RdE.keep (n0.mono (by simp)) _ _ j0;refine lR0 Z U (w0a Z G0a Z (d0.cells 1 Z) Z ⟨⟨_,Z,?_⟩,d0.fin⟩);unfold b3a J3c;rw[show((m:Int).toNat)=m by simp,getD_some a0];exact RdE.less (fun x hx=>List.mem_cons_of_mem _ hx) _ _ j0
theorem n7a(bs:List Bool)(k:Nat)(f:Int→E):(M1a bs (k+1)).map f=(M1a bs k).map f++(if bs.getD k false=true then[f k] else[]):=by
 rw[U2a,List.map_append]
 split<;>rfl
theorem e9c(p:o0a)(t:Nat)(ht:t<p.threads.length)(M:List Nat)(w0:World)(cs:List Value)(hI:InP p M w0 cs):
 E0a prog 19 #[.agg cs.toArray,.int .i64 t] w0 fun v w'=>(∃cs:List Value,v=.agg cs.toArray∧RdE M w' (onE p t) cs)∧Below w0.heap.size w0 w':=by
 obtain⟨Ac,nc,cc,Am,nm,cm,Al,nl,cl,At,nt,ct,rfl,hC,_⟩:=hI.rd.open_;have hM:=hI.lt;have hp:=hI.ok;have n1:=hp.ncells;have n2:=hp.nthreads;have n3:=hp.nmodules;have S:=(St.refl w0).nilEnt 37;refine a0a func19 Z ntmps19 Z ?_;refine wO0 Z U (p0a S Z ?_);intro g2 w2 S2 X2 G2;refine h0a S2 R1a Z Z ?_;intro g4 w4 S4 X4 G4;refine lO S4.k [.w 1] Z ⟨⟨Z,Z⟩,U⟩ (g0a S4 Q7b Z Z (r0b p M _ _ (hI.keep (S4.keep0 M))) ?_);intro z1 j0 F1;refine lB0 Z U (fun r1=>by exfalso;omega) fun r1=>?_;refine lB j0.k [.o 1] Z ⟨Z,U⟩ (fun s1=>by exfalso;omega) fun s1=>?_;refine lOn 8 j0.k [] Z U (C0a Z ?_);refine lO j0.k [.w 1] Z ⟨⟨Z,Z⟩,U⟩ ?_;have f1:∀g∈g4::M,g<z1.heap.size:=m7a j0 0 Z hM;refine j0a j0 e2d Z Z (U8b p t M _ _ (hI.keep (j0.keep0 M)) (by omega)) ?_;rintro O1 I0 ⟨bs,hS,C0⟩ T0 G1;have B0:=C0 (g4::M) f1;obtain⟨Ab,nb,cb,rfl⟩:=B0.form;obtain⟨_,-,_⟩:=B0.len;have N1:=hS.1;have F0:=hS.oth hp;have KB:=u0a.refl (g4::M) I0;refine lC0 Z U (wL (fun μk D ε w=>D=[]∧∃k:Nat,∃G:Option Nat,∃cs2:List Value,∃v:Value,(k+μk=(bs.length))∧(k1b (g4::M) w G cs2 v ((M1a bs k).map (b3a p)))∧(∀g∈G.toList,I0.heap.size≤g∨g∈g4::M)∧(u0a (g4::M) I0 w)∧St [] w0 w [(some g4,37,[.int .i64 0,.int .i64 0,.int .i64 0,.slice none 0 0]),(some g2,27,[.slice Ac nc cc,.slice Am nm cm,.slice Al nl cl,.slice At nt ct]),(G,37,cs2)]∧Sl ε [(1,.int .i64 t),(2,.pointer (some ⟨g2,0,none⟩)),(4,.pointer (some ⟨g4,0,none⟩)),(5,v),(6,.slice Ab nb cb),(7,.int .i64 k)]) (μ:=(bs.length)) ⟨Z,0,none,[],.slice none 0 0,by omega,k1b.nil,by simp,KB,T0,Z⟩ ?_);rintro μk D ε w ⟨rfl,k,G,cs2,v,_,d0,E0,KB,S,eZ⟩;refine wK eZ ?_;have KQ:=u0a.refl (G.toList++g4::M) w;refine wB0 Z U (fun t1=>?_) fun t1=>?_
 ·obtain⟨z,i1,x1,m1,w1,x0,_,_,o0,c0⟩:=RdS.get ((B0.keep KB)) (k) (by omega);obtain c0:=c0;obtain rfl:m1=[Value.bool z]:=c0;have hz:bs.getD k false=z:=by rw[List.getD_eq_getElem?_getD,w1];rfl
  refine lO S.k [.x i1 x1] Z ⟨⟨x0,by omega⟩,U⟩ ?_;cases n0:z
  ·refine B0a I2a Z (by exact(o0 0 _ Z).trans (congrArg (fun b=>some (Value.bool b)) n0)) Z ?_;refine lP0 Z ⟨by omega,U⟩ ⟨μk-1,by omega,Z,(k+1),(_),(_),(_),(by omega),?_,?_,(KB),S,Z⟩
   ·rw[n7a,hz];rw[if_neg (by simp[*]),List.append_nil];exact d0.keep KQ
   ·exact E0
  refine B0a I2a Z (by exact(o0 0 _ Z).trans (congrArg (fun b=>some (Value.bool b)) n0)) Z ?_;refine lOn 4 S.k [] Z U (I0a Z ?_);refine lO S.k [.w 1] Z ⟨⟨Z,Z⟩,U⟩ ?_;obtain⟨md,H0⟩:∃md,p.modules[k]?=some md:=⟨p.modules[k]'(by omega),List.getElem?_eq_getElem _⟩;refine j0a S G0d Z Z (E1c p k md H0 (G.toList++g4::M) _ _ ⟨(hI.rd.more (fun x hx=>e4a S x (n3b 2 Z (k3b 0 Z) x hx))).keep (S.keep0 _),hp,(hI.msk.more (fun x hx=>e4a S x (n3b 2 Z (k3b 0 Z) x hx))).keep (S.keep0 _),fun x hx=>j7a S hM x (n3b 2 Z (k3b 0 Z) x hx)⟩) ?_;rintro P1 V1 ⟨_,rfl,r0⟩ U0 L0;replace KB:=KB.trans (L0.of_nil);replace KQ:=KQ.trans (L0.of_nil);obtain⟨_,_,_,rfl,-⟩:=r0.open_;refine k0a U0 O0a (vs:=[.agg _]) (cs:=[_,_,_,_]) Z Z Z Z Z Z ?_;intro K1 W1 J0 u0 B1;replace r0:=RdE.keep (u0.of_nil) _ _ r0;replace KB:=KB.trans (u0.of_nil);replace KQ:=KQ.trans (u0.of_nil);have p0:=d0.keep KQ;refine u1a j3a (k:=3) (M2:=g4::M) (e1:=b3a p k) J0 O0a Z p0 Z Z (J0.cells 0 Z) r0 (by have:=a2a bs k;simp;omega) Z ?_;intro Q1 C1 o1 X1 V0 e0 b1 R0;have g1:=KB.size;replace KB:=KB.freshL b1 E0;refine C0a Z ?_;refine lP0 Z ⟨by omega,U⟩ ⟨μk-1,by omega,Z,(k+1),(_),(_),(_),(by omega),?_,?_,(KB),V0.tail,Z⟩
  ·rw[n7a,hz];rw[if_pos (by assumption)];exact e0
  ·intro g hg;rcases R0 g hg with h|h;exact E0 g h;exact .inl (Nat.le_trans g1 h)
 refine lOn 7 S.k [] Z U (I0a Z ?_);have z0:RdL (g4::M) w v ((s1a p t).map (b3a p)):=by
  have hr:=d0;rw[show k=bs.length by omega,show M1a bs bs.length=s1a p t from F0.symm] at hr;exact hr.rdL S (k:=2) Z (fun g hg hh=>by
   subst hg;rcases List.mem_cons.1 hh with hh|hh
   ·exact S.ne 0 2 Z Z (by omega) hh.symm
   ·exact J5a S (k:=2) Z hM hh) (by have:=G6a p t;simp;omega)
 refine j0a S z1d Z Z (q1d ((s1a p t).map (b3a p)) (by have:=G6a p t;simp;omega) (g4::M) _ _ z0 (m7a S 0 Z hM)) ?_;rintro v45 Y1 ⟨_,rfl,P0⟩ W0 H1;obtain⟨_,_,_,rfl,-⟩:=P0.open_;refine k0a W0 O0a (vs:=[.agg _]) (cs:=[_,_,_,_]) Z Z Z Z Z Z ?_;intro q1 Z1 X0 c1 S0;refine C0a Z ?_;have f0:=f9a (P0.addNew c1 S0);refine lC0 Z U (wL (fun μj D ε w=>D=[]∧∃j:Nat,∃G2:Option Nat,∃v0:List Value,∃v2:Value,(j+μj=(p.cells.length))∧(k1b (g4::M) w G2 v0 v2 (h6a p t::(m3b p t j).map (F3a p)))∧St [] w0 w [(G2,37,v0),(some g4,37,[.int .i64 0,.int .i64 0,.int .i64 0,.slice none 0 0]),(some g2,27,[.slice Ac nc cc,.slice Am nm cm,.slice Al nl cl,.slice At nt ct]),(G,37,cs2)]∧Sl ε [(1,.int .i64 t),(2,.pointer (some ⟨g2,0,none⟩)),(4,.pointer (some ⟨g4,0,none⟩)),(8,v2),(9,.int .i64 j)]) (μ:=(p.cells.length)) ⟨Z,0,some q1,_,_,by omega,f0,X0,Z⟩ ?_);rintro μj D ε w ⟨rfl,j,G2,v0,v2,_,b0,S,eZ⟩;refine wK eZ ?_;have i0:=u0a.refl (G2.toList++g4::M) w;refine wB S.k [.o 2] Z ⟨Z,U⟩ (fun u1=>?_) fun u1=>?_
 ·obtain⟨y,j1,y1,_,O0,y0,_,_,D0,G0⟩:=RdS.get (hC) (j) (by omega);obtain⟨rfl,_⟩:=r2a.open_ G0;refine lB (S.k.a D0) [.o 2,.x j1 y1,.f 0 3] Z ⟨Z,⟨y0,by omega⟩,Z,U⟩ (fun v1=>?_) fun v1=>?_
  ·refine lOn 4 S.k [] Z U (I0a Z ?_);refine lO S.k [.w 2] Z ⟨⟨Z,Z⟩,U⟩ (j0a S d5c Z Z (n6a p j (G2.toList++g4::M) _ _ ⟨(hI.rd.more (fun x hx=>e4a S x (n3b 0 Z (k3b 1 Z) x hx))).keep (S.keep0 _),hp,(hI.msk.more (fun x hx=>e4a S x (n3b 0 Z (k3b 1 Z) x hx))).keep (S.keep0 _),fun x hx=>j7a S hM x (n3b 0 Z (k3b 1 Z) x hx)⟩) ?_);rintro R1 a2 ⟨_,rfl,s0⟩ Y0 d1;replace i0:=i0.trans (d1.of_nil);obtain⟨_,_,_,rfl,-⟩:=s0.open_;refine k0a Y0 O0a (vs:=[.agg _]) (cs:=[_,_,_,_]) Z Z Z Z Z Z ?_;intro M1 b2 K0 N0 D1;replace s0:=RdE.keep (N0.of_nil) _ _ s0;replace i0:=i0.trans (N0.of_nil);have q0:=b0.keep i0;refine u1a j3a (k:=1) (M2:=g4::M) (e1:=F3a p j) K0 O0a Z q0 Z Z (K0.cells 0 Z) s0 (by have:=Z2a p t j;simp;omega) Z ?_;intro T1 E1 p1 d2 Z0 g0 I1 A1;refine C0a Z ?_;refine lP0 Z ⟨by omega,U⟩ ⟨μj-1,by omega,Z,(j+1),(_),(_),(_),(by omega),?_,Z0.tail,Z⟩;rw[q4a O0];have h9:y.thread=t:=by omega
   rw[if_pos h9,List.map_append];exact g0
  refine lP0 Z ⟨by omega,U⟩ ⟨μj-1,by omega,Z,(j+1),(_),(_),(_),(by omega),?_,S,Z⟩;rw[q4a O0];have h9:¬(y.thread=t):=fun h=>by omega
  rw[if_neg h9];exact b0.keep i0
 refine lOn 7 S.k [] Z U (I0a Z ?_);have A0:RdL (g4::M) w v2 (h6a p t::(ofL p t).map (F3a p)):=by
  have hr:=b0;rw[show j=p.cells.length by omega] at hr;exact hr.rdL S (k:=0) Z (fun g hg hh=>by
   subst hg;rcases List.mem_cons.1 hh with hh|hh
   ·exact S.ne 0 1 Z Z (by omega) hh
   ·exact J5a S (k:=0) Z hM hh) (by have:=Z2a p t p.cells.length;simp;omega)
 refine j0a S f6c Z Z (O9b (h6a p t::(ofL p t).map (F3a p)) (by have:=Z2a p t p.cells.length;unfold ofL;simp;omega) (g4::M) _ _ A0 (m7a S 1 Z hM)) ?_;rintro U1 e2 ⟨_,rfl,t0⟩ a1 J1;obtain⟨_,_,_,rfl,-⟩:=t0.open_;refine c0a (kk:=1) (vs:=[_,_,_,_]) a1 i1a Z Z Z Z Z Z Z ?_;intro Q0 a0 m0;dsimp only[f0a,List.set] at a0;replace t0:=RdE.keep (m0.mono (by simp)) _ _ t0;exact lR0 Z U (w0a Z G0a Z (a0.cells 1 Z) Z ⟨⟨_,Z,RdE.less (fun x hx=>List.mem_cons_of_mem _ hx) _ _ t0⟩,a0.fin⟩)
theorem m2b(M:List Nat)(w0:World)(v:Value)(l:List Int)(hR:RdI M w0 v l)(hw:∀x∈l,1≤x∧x≤8)(hl:l.length≤32):E0a prog 38 #[v] w0 fun v w'=>v=.int .i64 (b2a l)∧Below w0.heap.size w0 w':=by
 obtain⟨A,n,c,rfl⟩:=hR.form;obtain⟨_,_⟩:=hR.len;have j0:=k3a hw;have S:=St.refl w0;refine a0a func38 Z ntmps38 Z ?_;refine wC0 Z U (wL (fun μk D ε w=>D=[]∧∃k:Nat,∃s:Int,(k+μk=(l.length))∧(s=b2a (l.take k))∧St [] w0 w []∧Sl ε [(0,.slice A n c),(3,.int .i64 s),(4,.int .i64 k)]) (μ:=(l.length)) ⟨Z,0,0,by omega,Z,S,Z⟩ ?_);rintro μk D ε w ⟨rfl,k,s,_,hs,S,eZ⟩;refine wK eZ (wB0 Z U (fun h8=>?_) fun h8=>?_)
 ·obtain⟨x,d0,i0,_,g0,a0,_,_,b0,c0⟩:=RdS.get (hR) (k) (by omega);obtain⟨rfl,_⟩:=id c0;have f0:=L4a g0;have m0:=m2a hw k;have e0:=m2a hw (k+1);refine lP (S.k.a b0) [.x d0 i0,.f 0 0] Z ⟨by omega,by omega,Z,⟨a0,by omega⟩,U⟩ ?_;refine⟨μk-1,by omega,Z,(k+1),(s+x),(by omega),(by rw[f0,hs]),S,Z⟩
 refine lR0 Z U (s0a Z ?_);exact⟨by rw[hs,List.take_of_length_le (by omega)],S.fin⟩
theorem h4b(M:List Nat)(w0:World)(v u:Value)(C W:List Int)(p0:Int)(hC:RdI M w0 v C)(hW:RdI M w0 u W)(h:P9a C W)(hs:b2a W≤p0:=by omega):E0a prog 90 #[v,u,.int .i64 p0] w0 fun v w'=>v=.int .i64 (b2a W)∧Below w0.heap.size w0 w':=by
 obtain⟨A,n,c,rfl⟩:=hC.form;obtain⟨_,_⟩:=hC.len;obtain⟨A',n',c',rfl⟩:=hW.form;obtain⟨_,_⟩:=hW.len;have z1:=h.len;have M1:=h.clen;have N1:=k3a h.wid;have S:=St.refl w0;refine a0a func90 Z ntmps90 Z ?_;refine wB0 Z U (fun q1=>by exfalso;omega) fun q1=>?_;refine lB0 Z U (fun r1=>by exfalso;omega) fun r1=>?_;refine lC0 Z U (wL (fun μk D ε w=>D=[]∧∃k:Nat,∃s:Int,(k+μk=(C.length))∧(s=b2a (W.take k))∧St [] w0 w []∧Sl ε [(0,.slice A n c),(1,.slice A' n' c'),(2,.int .i64 p0),(7,.int .i64 s),(8,.int .i64 k)]) (μ:=(C.length)) ⟨Z,0,0,by omega,Z,S,Z⟩ ?_);rintro μk D ε w ⟨rfl,k,s,_,R0,S,eZ⟩;refine wK eZ (wB0 Z U (fun s1=>?_) fun s1=>?_)
 ·refine lC0 Z U (y0a b0a [0,1,2,3,4,5,6,7,8,9,10,11,12,13,14,15,16,17,18,19,20,21,22,23,24,25,26,27,28,29,30,31,32,33,34,35,36,37,38,39,40,41] [] [] Z (Cl _ _ _ _) (Cl.start S) ?_);obtain⟨x,f1,D1,_,s0,z0,_,_,G0,N0⟩:=RdS.get (hC) (k) (by omega);obtain⟨rfl,_⟩:=id N0;have K1:=h.cell x (d0a s0);refine qB (S.q.a G0) [.x f1 D1,.f 0 0] Z ⟨Z,⟨z0,by omega⟩,U⟩ (fun t1=>by exfalso;omega) fun t1=>?_;obtain⟨_,g1,E1,_,U0,A0,_,_,H0,O0⟩:=RdS.get (hC) (k) (by omega);obtain rfl:=Option.some.inj (s0.symm.trans U0);obtain⟨rfl,_⟩:=id O0;refine qB (S.q.a H0) [.x g1 E1,.f 0 0] Z ⟨Z,⟨A0,by omega⟩,U⟩ (fun u1=>by exfalso;omega) fun u1=>?_;refine qB0 Z U (fun v1=>?_) fun v1=>?_
  ·obtain⟨_,i1,F1,_,V0,B0,_,_,I0,P0⟩:=RdS.get (hC) (k) (by omega);obtain rfl:=Option.some.inj (s0.symm.trans V0);obtain⟨rfl,_⟩:=id P0;obtain⟨_,j1,G1,_,W0,C0,_,_,r0,Q0⟩:=RdS.get (hC) (k-1) (by omega);obtain⟨rfl,_⟩:=id Q0;have p1:((k:Int)-1).toNat=k-1:=by omega
   rw[←p1] at r0;have C1:=i7a h.inc W0 s0;refine qB ((S.q.a r0).a I0) [.x i1 F1,.f 0 0,.x j1 G1,.f 1 0] Z ⟨Z,⟨C0,by omega⟩,by omega,Z,⟨B0,by omega⟩,U⟩ (fun w1=>by exfalso;omega) fun w1=>?_;obtain⟨y,t0,a1,m1,a0,b0,D0,J0,e0,i0⟩:=RdS.get (hW) (k) (by omega);obtain⟨rfl,X0⟩:=id i0;have x1:=h.wid y (d0a a0);refine qB (S.q.a e0) [.x t0 a1,.f 0 0] Z ⟨Z,⟨b0,by omega⟩,U⟩ (fun x0=>by exfalso;omega) fun x0=>?_;obtain⟨I1,u0,b1,n1,n0,c0,E0,K0,f0,j0⟩:=RdS.get (hW) (k) (by omega);obtain rfl:=Option.some.inj (a0.symm.trans n0);obtain⟨rfl,Y0⟩:=id j0;refine qB (S.q.a f0) [.x u0 b1,.f 0 0] Z ⟨Z,⟨c0,by omega⟩,U⟩ (fun y0=>by exfalso;omega) fun y0=>?_;refine qD Z U ?_;rintro H1 ⟨q0,d1⟩;obtain⟨J1,v0,c1,o1,o0,d0,F0,L0,g0,m0⟩:=RdS.get (hW) (k) (by omega);obtain rfl:=Option.some.inj (a0.symm.trans o0);obtain⟨rfl,Z0⟩:=id m0;have T0:=L4a a0;have A1:=m2a h.wid k;have S0:=m2a h.wid (k+1);refine lP (q0.k.a g0) [.x v0 c1,.f 0 0] Z ⟨by omega,by omega,Z,⟨d0,by omega⟩,U⟩ ?_;refine⟨μk-1,by omega,Z,(k+1),(s+y),(by omega),(by rw[T0,R0]),q0,Z⟩
  obtain⟨y,t0,a1,m1,a0,b0,D0,J0,e0,i0⟩:=RdS.get (hW) (k) (by omega);obtain⟨rfl,X0⟩:=id i0;have x1:=h.wid y (d0a a0);refine qB (S.q.a e0) [.x t0 a1,.f 0 0] Z ⟨Z,⟨b0,by omega⟩,U⟩ (fun x0=>by exfalso;omega) fun x0=>?_;obtain⟨I1,u0,b1,n1,n0,c0,E0,K0,f0,j0⟩:=RdS.get (hW) (k) (by omega);obtain rfl:=Option.some.inj (a0.symm.trans n0);obtain⟨rfl,Y0⟩:=id j0;refine qB (S.q.a f0) [.x u0 b1,.f 0 0] Z ⟨Z,⟨c0,by omega⟩,U⟩ (fun y0=>by exfalso;omega) fun y0=>?_;refine qD Z U ?_;rintro H1 ⟨q0,d1⟩;obtain⟨J1,v0,c1,o1,o0,d0,F0,L0,g0,m0⟩:=RdS.get (hW) (k) (by omega);obtain rfl:=Option.some.inj (a0.symm.trans o0);obtain⟨rfl,Z0⟩:=id m0;have T0:=L4a a0;have A1:=m2a h.wid k;have S0:=m2a h.wid (k+1);refine lP (q0.k.a g0) [.x v0 c1,.f 0 0] Z ⟨by omega,by omega,Z,⟨d0,by omega⟩,U⟩ ?_;refine⟨μk-1,by omega,Z,(k+1),(s+y),(by omega),(by rw[T0,R0]),q0,Z⟩
 have B1:s=b2a W:=by rw[R0,List.take_of_length_le (by omega)]
 refine lB0 Z U (fun y1=>by exfalso;omega) fun y1=>?_;refine lR0 Z U (s0a Z ?_);exact⟨by rw[B1],S.fin⟩
theorem S5b(M:List Nat)(w0:World)(v:Value)(l:List Int)(b:Int)(hR:RdI M w0 v l)(hr:T1a l)(hb:∀x∈l,0≤x∧x<b):E0a prog 134 #[v,.int .i64 b] w0 fun v w'=>v=.bool true∧Below w0.heap.size w0 w':=by
 obtain⟨A,n,c,rfl⟩:=hR.form;obtain⟨_,_⟩:=hR.len;have S:=St.refl w0;refine a0a func134 Z ntmps134 Z ?_;refine wC0 Z U (wL (fun μk D ε w=>D=[]∧∃k:Nat,(k+μk=(l.length))∧St [] w0 w []∧Sl ε [(0,.slice A n c),(1,.int .i64 b),(5,.int .i64 k)]) (μ:=(l.length)) ⟨Z,0,by omega,S,Z⟩ ?_);rintro μk D ε w ⟨rfl,k,_,S,eZ⟩;refine wK eZ (wB0 Z U (fun h9=>?_) fun h9=>?_)
 ·refine lC0 Z U (y0a b0a [0,1,2,3,4,5,6,7,8,9,10,11,12,13,14,15,16,17,18,19,20,21,22,23,24,25,26,27,28] [] [] Z (Cl _ _ _ _) (Cl.start S) ?_);obtain⟨x,v0,G0,_,b0,d0,_,_,i0,n0⟩:=RdS.get (hR) (k) (by omega);obtain⟨rfl,_⟩:=id n0;have L0:=hb x (d0a b0);refine qB (S.q.a i0) [.x v0 G0,.f 0 0] Z ⟨Z,⟨d0,by omega⟩,U⟩ (fun B0=>by exfalso;omega) fun B0=>?_;obtain⟨_,x0,H0,_,r0,e0,_,_,j0,o0⟩:=RdS.get (hR) (k) (by omega);obtain rfl:=Option.some.inj (b0.symm.trans r0);obtain⟨rfl,_⟩:=id o0;refine qB (S.q.a j0) [.x x0 H0,.f 0 0] Z ⟨Z,⟨e0,by omega⟩,U⟩ (fun C0=>by exfalso;omega) fun C0=>?_;refine qB0 Z U (fun D0=>?_) fun D0=>?_
  ·obtain⟨_,y0,I0,_,s0,f0,_,_,m0,p0⟩:=RdS.get (hR) (k) (by omega);obtain rfl:=Option.some.inj (b0.symm.trans s0);obtain⟨rfl,_⟩:=id p0;obtain⟨_,z0,J0,_,t0,g0,_,_,a0,q0⟩:=RdS.get (hR) (k-1) (by omega);obtain⟨rfl,_⟩:=id q0;have A0:((k:Int)-1).toNat=k-1:=by omega
   rw[←A0] at a0;have F0:=i7a hr t0 b0;refine qB ((S.q.a a0).a m0) [.x y0 I0,.f 0 0,.x z0 J0,.f 1 0] Z ⟨Z,⟨g0,by omega⟩,by omega,Z,⟨f0,by omega⟩,U⟩ (fun E0=>by exfalso;omega) fun E0=>?_;refine qD Z U ?_;rintro K0 ⟨c0,u0⟩;refine lP0 Z ⟨by omega,U⟩ ⟨μk-1,by omega,Z,(k+1),(by omega),c0,Z⟩
  refine qD Z U ?_;rintro K0 ⟨c0,u0⟩;refine lP0 Z ⟨by omega,U⟩ ⟨μk-1,by omega,Z,(k+1),(by omega),c0,Z⟩
 exact lT Z U Z ⟨Z,S.fin⟩
theorem t9a(n:Nat)(w:World)(hn:n≤20:=by omega):E0a prog 37 #[.int .i64 n] w fun v w'=>v=.int .i64 ((2 ^ n:Nat):Int)∧Below w.heap.size w w' :=
 (u7b n hn w).mono fun _ _ h=>⟨by rw[h.1,p9a],h.2⟩
section
variable {P:Program} {r:Option Nat} {N:Nat} {D:List Deferred} {e:Env} {w:World} {ops:Array Oper} {rest:List Oper} {K:List Deferred→Env→World→Prop} {d:Nat} {t:TypeId} {p:String} {af:Array Edge} {x y:Operand} {a b:Int} {kd:IntKind} {ts:Array TypeId}
theorem h2d(hx:ev e x=.int kd a)(hy:ev e y=.int kd b)(hd:Nat.ble (d+1) N=true)(h:WL P r N ops rest K D (upd e d (.int kd (min a b))) w):
 WL P r N ops (⟨some d,.call { callee:=.builtin .min,args:=#[x,y],argTypes:=ts },t,p,af,none⟩::rest) K D e w:=by
 have h1:(if b<a then b else a)=min a b:=by rw[Int.min_def];split<;>split<;>omega
 exact P0a Z Z hd (by simp[execOp,resolve,invoke,builtin,run_min_int2,hx,hy,h1]) h
end
theorem W5b(p:List a1a)(C:List Int)(M:List Nat)(w0:World)(vc vl:Value)(hP:Z8b M w0 vc p)(hC:RdI M w0 vl C)(hr:T1a C)(hc:∀c∈C,0≤c∧c<p.length)(hp:p.length≤32)(hw:∀c∈p,1≤c.w∧c.w≤8):
 E0a prog 73 #[vc,vl] w0 fun v w'=>(∃u,v=.tuple #[u,.bool true]∧r5a w0 w' u (wdL p C))∧Below w0.heap.size w0 w':=by
 obtain⟨Ap,np,cp,rfl⟩:=hP.form;obtain⟨_,-,_⟩:=hP.len;obtain⟨A,n,c,rfl⟩:=hC.form;obtain⟨_,-,_⟩:=hC.len;have ho:=r6a hr hc hp hw;have S0:=ho.clen;have T0:=k3a ho.wid;have U0:(wdL p C).length=C.length:=ho.len;have C0:∀x∈wdL p C,i64 x:=fun x hx=>by have:=ho.wid x hx;unfold i64;omega
 have S:=St.refl w0;refine a0a func73 Z ntmps73 Z ?_;refine wO0 Z U (h2d Z Z Z ?_);rw[show min (np:Int) 32=np by omega];refine g0a S q7c Z Z (S5b M _ _ C np (hC.keep (S.keep0 M)) hr (fun x hx=>by have:=hc x hx;omega)) ?_;intro W0 r0 N0;refine lO0 Z U (R6a r0 Y0a Z ?_);intro p0 X0 s0 O0 J0;refine C0a Z ?_;refine lC0 Z U (wL (fun μk D ε w=>D=[]∧∃k:Nat,∃G:Option Nat,∃c0:List Value,∃v:Value,(k+μk=(C.length))∧(Q1a (fun _ _=>M2c) 1 [] w0 G c0 v (wdL p (C.take k)))∧St [] w0 w [(G,3,c0)]∧Sl ε [(0,.slice Ap np cp),(1,.slice A n c),(6,v),(7,.int .i64 k)]) (μ:=(C.length)) ⟨Z,0,some p0,[],.slice (some ⟨p0,0,none⟩) 0 0,by omega,Q1a.new,s0,Z⟩ ?_);rintro μk D ε w ⟨rfl,k,G,c0,v,_,a0,S,eZ⟩;refine wK eZ (wB0 Z U (fun A0=>?_) fun A0=>?_)
 ·refine lOn 8 S.k [] Z U (I0a Z ?_);obtain⟨x,x0,G0,_,q0,d0,_,_,f0,i0⟩:=RdS.get (hC) (k) (by omega);obtain⟨rfl,_⟩:=id i0;have E0:=hc x (d0a q0);obtain⟨_,y0,H0,_,F0,e0,_,_,g0,j0⟩:=RdS.get (hP) (x.toNat) (by omega);obtain⟨rfl,n0,_⟩:=r2a.open_ j0;have D0:=W4a (h0:=E0.1) F0;refine lO ((S.k.a g0).a f0) [.x x0 G0,.f 0 0,.x y0 H0,.f 1 1] Z ⟨Z,⟨e0,by omega⟩,Z,⟨d0,by omega⟩,U⟩ (k0a S Y0a (vs:=[.int .i64 _]) (cs:=[_]) Z Z Z Z Z Z ?_);intro R0 Y0 o0 P0 K0;refine u1a b5a (k:=1) (M2:=[]) (e1:=wAt p x) o0 Y0a Z a0 Z Z (o0.cells 0 Z) (by rw[D0];exact⟨Z,n0⟩) (by rw[List.length_map,List.length_take];omega) Z ?_;intro V0 L0 z0 Z0 t0 b0 Q0 I0;refine C0a Z ?_;refine lP0 Z ⟨by omega,U⟩ ?_;refine⟨μk-1,by omega,Z,(k+1),(_),(_),(_),(by omega),((by rw[F0a q0,wdL,List.map_append];exact b0)),t0.tail,Z⟩
 have a0:=(show C.take k=C by rw[List.take_of_length_le (by omega)])▸a0;have m0:r5a w0 w v (wdL p C):=fun M hM=>(Q1a.newRow (k:=0) a0 S Z).rd hM C0 S.fin (by omega);obtain⟨_,_,_,rfl⟩:=m0.form;refine lOn 7 S.k [] Z U (I0a Z ?_);refine lOn 1 S.k [] Z U (I0a Z ?_);refine g0a S P5c Z Z (h4b [] _ _ _ C _ 256 ((hC.keep (S.keep0 M)).less (by simp)) (m0 [] (by simp)) ho) ?_;intro a1 u0 v0;refine lB0 Z U (fun B0=>?_) (fun B0=>by exfalso;omega);refine C0a Z ?_;exact lT2 Z U Z ⟨⟨_,Z,m0.keep v0⟩,u0.fin⟩
theorem x8b(M:List Nat)(w0:World)(v u i:Value)(C W:List Int)(l:List (Int×Int))(a0:Nat)(hC:RdI M w0 v C)(hW:RdI M w0 u W)(hL:j9a M w0 i l)(h:P9a C W)(hb:b2a W=a0)(hb6:a0≤6)(hl:∀x∈l,0≤x.1∧x.1<(2 ^ a0:Nat)∧0≤x.2∧x.2<(2 ^ a0:Nat))(f1:l.Pairwise lt2):
 E0a prog 35 #[.agg #[v,u,i]] w0 fun v w'=>v=.bool true∧Below w0.heap.size w0 w':=by
 obtain⟨A,n,c,rfl⟩:=hC.form;obtain⟨A',n',c',rfl⟩:=hW.form;obtain⟨Al,nl,cl,rfl⟩:=hL.form;obtain⟨_,-,_⟩:=hL.len;have r1:=h.clen;have d1:=h.len;have S:=St.refl w0;refine a0a func35 Z ntmps35 Z ?_;refine wO0 Z U (p0a S Z ?_);intro g1 w1 S1 X1 G1;refine lO S1.k [.o 0,.o 0] Z ⟨Z,Z,U⟩ (g0a S1 P5c Z Z ((h4b M _ _ _ C W 6 (hC.keep (S1.keep0 M)) (hW.keep (S1.keep0 M)) h).mono (fun v w' h=>⟨h.1.trans (by rw[hb]),h.2⟩)) ?_);intro t1 A0 p1;refine lB0 Z U (fun T0=>by exfalso;omega) fun T0=>?_;refine lO0 Z U (g0a A0 I4b Z Z (t9a a0 _) ?_);intro u1 B0 q1;refine lC0 Z U (wL (fun μk D ε w=>D=[]∧∃k:Nat,(k+μk=(l.length))∧St [] w0 w [(some g1,41,[.slice A n c,.slice A' n' c',.slice Al nl cl])]∧Sl ε [(1,.pointer (some ⟨g1,0,none⟩)),(4,.int .i64 ((2 ^ a0:Nat):Int)),(5,.int .i64 k)]) (μ:=(l.length)) ⟨Z,0,by omega,B0,Z⟩ ?_);rintro μk D ε w ⟨rfl,k,_,S,eZ⟩;refine wK eZ (wB S.k [.o 0] Z ⟨Z,U⟩ (fun U0=>?_) fun U0=>?_)
 ·obtain⟨x,D0,i1,H0,y0,g0,_,o0,n0,p0⟩:=RdS.get (hL) (k) (by omega);obtain⟨L0,_⟩:=p0;obtain rfl:H0=[Value.int .i64 x.1,.int .i64 x.2]:=L0;have hx:=hl x (d0a y0);refine lO (S.k.a n0) [.o 0,.x D0 i1,.v 0] Z ⟨⟨Z,o0⟩,⟨g0,by omega⟩,Z,U⟩ (h0a S X8b Z Z ?_);intro g6 w6 S6 X6 G6;refine c0a (kk:=0) (vs:=[_,_]) S6 y5b Z Z Z Z Z Z Z ?_;intro o1 b0 C0;dsimp only[f0a,List.set] at b0;refine lC0 Z U (y0a b0a [0,1,2,3,4,5,6,7,8,9,10,11,12,13,14,15,16,17,18,19,20,21,22,23,24,25,26,27,28,29,30,31,32,33,34,35,36,37,38,39,40,41,42,43,44,45,46,47,48,49,50,51,52,53,54,55,56,57,58,59] [] [] Z (Cl _ _ _ _) (Cl.start b0) ?_);refine r0a H1a Z Z Z ?_;refine i0a x0a Z (fun w1 hw=>by exact hw.1.cell 0 Z Z) Z ?_;refine qB0 Z U (fun V0=>by exfalso;omega) fun V0=>?_;refine qO0 Z U (r0a H1a Z Z Z ?_);refine qO0 Z U (i0a x0a Z (fun w1 hw=>by exact hw.1.cell 0 Z Z) Z ?_);refine qB0 Z U (fun W0=>by exfalso;omega) fun W0=>?_;refine qO0 Z U (r0a H1a Z Z Z ?_);refine qO0 Z U (i0a x0a Z (fun w1 hw=>by exact hw.1.cell 0 Z Z) Z ?_);refine qB0 Z U (fun X0=>by exfalso;omega) fun X0=>?_;refine qO0 Z U (r0a H1a Z Z Z ?_);refine qO0 Z U (i0a x0a Z (fun w1 hw=>by exact hw.1.cell 0 Z Z) Z ?_);refine qB0 Z U (fun Y0=>by exfalso;omega) fun Y0=>?_;refine qB0 Z U (fun Z0=>?_) fun Z0=>?_
  ·refine qO0 Z U (r0a H1a Z Z Z ?_);refine qO0 Z U (i0a x0a Z (fun w1 hw=>by exact hw.1.cell 0 Z Z) Z ?_);obtain⟨y,E0,j1,I0,v0,i0,_,_,d0,q0⟩:=RdS.get (hL) (k-1) (by omega);obtain⟨N0,_⟩:=q0;obtain rfl:I0=[Value.int .i64 y.1,.int .i64 y.2]:=N0;have Q0:((k:Int)-1).toNat=k-1:=by omega
   rw[←Q0] at d0;have s1:=a7b f1 v0 y0;refine qO b0.q [.o 1,.x E0 j1] Z ⟨⟨i0,by omega⟩,by omega,Z,U⟩ (r0a H1a Z Z Z ?_);refine qO0 Z U (i0a x0a Z (fun w1 hw=>by exact hw.1.old (d0 _ _ Z)) Z ?_);refine qB0 Z U (fun a1=>by exfalso;omega) fun a1=>?_;refine qO0 Z U (r0a H1a Z Z Z ?_);refine qO0 Z U (i0a x0a Z (fun w1 hw=>by exact hw.1.cell 0 Z Z) Z ?_);obtain⟨_,F0,m1,J0,t0,j0,_,_,e0,r0⟩:=RdS.get (hL) (k-1) (by omega);obtain rfl:=Option.some.inj (v0.symm.trans t0);obtain⟨O0,_⟩:=r0;obtain rfl:J0=[Value.int .i64 y.1,.int .i64 y.2]:=O0;have R0:((k:Int)-1).toNat=k-1:=by omega
   rw[←R0] at e0;refine qO b0.q [.o 1,.x F0 m1] Z ⟨⟨j0,by omega⟩,by omega,Z,U⟩ (r0a H1a Z Z Z ?_);refine qO0 Z U (i0a x0a Z (fun w1 hw=>by exact hw.1.old (e0 _ _ Z)) Z ?_);refine qB0 Z U (fun b1=>?_) fun b1=>?_
   ·refine qO0 Z U (r0a H1a Z Z Z ?_);refine qO0 Z U (i0a x0a Z (fun w1 hw=>by exact hw.1.cell 0 Z Z) Z ?_);obtain⟨_,G0,n1,K0,u0,m0,_,_,f0,s0⟩:=RdS.get (hL) (k-1) (by omega);obtain rfl:=Option.some.inj (v0.symm.trans u0);obtain⟨P0,_⟩:=s0;obtain rfl:K0=[Value.int .i64 y.1,.int .i64 y.2]:=P0;have S0:((k:Int)-1).toNat=k-1:=by omega
    rw[←S0] at f0;refine qO b0.q [.o 1,.x G0 n1] Z ⟨⟨m0,by omega⟩,by omega,Z,U⟩ (r0a H1a Z Z Z ?_);refine qO0 Z U (i0a x0a Z (fun w1 hw=>by exact hw.1.old (f0 _ _ Z)) Z ?_);refine qB0 Z U (fun c1=>by exfalso;omega) fun c1=>?_;refine qD Z U ?_;rintro z0 ⟨c0,x0⟩;refine lP0 Z ⟨by omega,U⟩ ⟨μk-1,by omega,Z,(k+1),(by omega),c0.tail,Z⟩
   refine qD Z U ?_;rintro z0 ⟨c0,x0⟩;refine lP0 Z ⟨by omega,U⟩ ⟨μk-1,by omega,Z,(k+1),(by omega),c0.tail,Z⟩
  refine qD Z U ?_;rintro z0 ⟨c0,x0⟩;refine lP0 Z ⟨by omega,U⟩ ⟨μk-1,by omega,Z,(k+1),(by omega),c0.tail,Z⟩
 exact lT Z U Z ⟨Z,S.fin⟩
def InD(a b:List (Int×Int))(i k:Nat):Prop:=∀x∈a.drop i,x∈b.drop k
theorem InD.skip{a b:List (Int×Int)}{i k:Nat}{x y:Int×Int}(ha:a.Pairwise lt2)(hb:b.Pairwise lt2)(h:InD a b i k)(hx:a[i]?=some x)(hy:b[k]?=some y)(d0:y≠x):InD a b i (k+1):=by
 obtain⟨h1,rfl⟩:=List.getElem?_eq_some_iff.1 hx;obtain⟨h2,rfl⟩:=List.getElem?_eq_some_iff.1 hy;have hd:=List.drop_eq_getElem_cons h2;have c0:=List.drop_eq_getElem_cons h1;have f0:a[i]∈b.drop (k+1):=by
  have:=h a[i] (c0▸List.mem_cons_self);rw[hd] at this;rcases List.mem_cons.1 this with h3|h3
  ·exact absurd h3.symm d0
  ·exact h3
 have b0:=hb.sublist (List.drop_sublist k b);rw[hd,List.pairwise_cons] at b0;have g0:=b0.1 _ f0;intro z hz;have e0:=h z hz;rw[hd] at e0;rcases List.mem_cons.1 e0 with h3|h3
 ·exfalso;subst h3;have a0:=ha.sublist (List.drop_sublist i a);rw[c0] at hz a0;rw[List.pairwise_cons] at a0;rcases List.mem_cons.1 hz with h4|h4
  ·exact d0 h4
  ·have:=a0.1 _ h4;unfold lt2 at *;omega
 ·exact h3
theorem InD.next{a b:List (Int×Int)}{i k:Nat}(h:InD a b i k):InD a b (i+1) k:=fun x hx=>h x (by
 rw[←List.drop_drop] at hx;exact List.mem_of_mem_drop hx)
theorem InD.end_{a b:List (Int×Int)}{i k:Nat}(h:InD a b i k)(hi:i<a.length)(hk:b.length≤k):False:=by
 have:=h a[i] ((List.drop_eq_getElem_cons hi).symm▸List.mem_cons_self);rw[List.drop_eq_nil_of_le hk] at this;cases this
theorem b7c(M:List Nat)(w0:World)(v u i v' u' i':Value)(a b:List (Int×Int))(hs:∃A n c B m d A' n' c' B' m' d',v=.slice A n c∧u=.slice B m d∧v'=.slice A' n' c'∧u'=.slice B' m' d')(hA:j9a M w0 i a)(hB:j9a M w0 i' b)(ha:a.Pairwise lt2)(hb:b.Pairwise lt2)(z0:∀x∈a,x∈b):
 E0a prog 40 #[.agg #[v,u,i],.agg #[v',u',i']] w0 fun v w'=>v=.bool true∧Below w0.heap.size w0 w':=by
 obtain⟨A1,n1,c1,A2,n2,c2,A3,n3,c3,A4,n4,c4,rfl,rfl,rfl,rfl⟩:=hs;obtain⟨A,n,c,rfl⟩:=hA.form;obtain⟨_,-,_⟩:=hA.len;obtain⟨B,m,d,rfl⟩:=hB.form;obtain⟨_,-,_⟩:=hB.len;have S:=St.refl w0;refine a0a func40 Z ntmps40 Z ?_;refine wO0 Z U (p0a S Z ?_);intro g2 w2 S2 X2 G2;refine p0a S2 Z ?_;intro g3 w3 S3 X3 G3;refine lC0 Z U (wL (fun μq D ε w=>D=[]∧∃q:Nat,∃k:Nat,(q+μq=(a.length))∧(InD a b q k)∧(k≤b.length)∧St [] w0 w [(some g3,41,[.slice A3 n3 c3,.slice A4 n4 c4,.slice B m d]),(some g2,41,[.slice A1 n1 c1,.slice A2 n2 c2,.slice A n c])]∧Sl ε [(2,.pointer (some ⟨g2,0,none⟩)),(3,.pointer (some ⟨g3,0,none⟩)),(5,.int .i64 k),(6,.int .i64 q)]) (μ:=(a.length)) ⟨Z,0,0,by omega,z0,by omega,S3,Z⟩ ?_);rintro μq D ε w ⟨rfl,q,k,_,hI,_,S,eZ⟩;refine wK eZ (wB S.k [.o 1] Z ⟨Z,U⟩ (fun x0=>?_) fun x0=>?_)
 ·refine lC0 Z U (wL (fun μ D ε w=>D=[]∧∃k:Nat,(InD a b q k)∧(k+μ=b.length+1)∧(k≤b.length)∧St [] w0 w [(some g3,41,[.slice A3 n3 c3,.slice A4 n4 c4,.slice B m d]),(some g2,41,[.slice A1 n1 c1,.slice A2 n2 c2,.slice A n c])]∧Sl ε [(2,.pointer (some ⟨g2,0,none⟩)),(3,.pointer (some ⟨g3,0,none⟩)),(5,.int .i64 k),(6,.int .i64 q)]) (μ:=b.length+1-k) ⟨Z,k,hI,by omega,by omega,S,Z⟩ ?_);rintro μ D ε w ⟨rfl,k,hI,_,_,S,eZ⟩;refine wK eZ (wC0 Z U ?_);refine y0a b0a [0,1,2,3,4,5,6,7,8,9,10,11,12,13,14,15,16,17] [] [] Z (Cl _ _ _ _) (Cl.start S) ?_;refine qB S.q [.o 0] Z ⟨Z,U⟩ (fun y0=>?_) fun y0=>?_
  ·obtain⟨y,q0,C0,s0,B0,c0,_,g0,e0,j0⟩:=RdS.get (hB) (k) (by omega);obtain⟨u0,_⟩:=j0;obtain rfl:s0=pc y:=u0;obtain⟨x,r0,D0,t0,A0,d0,_,i0,f0,m0⟩:=RdS.get (hA) (q) (by omega);obtain⟨v0,_⟩:=m0;obtain rfl:t0=pc x:=v0;refine qOn 11 ((S.q.a f0).a e0) [.o 0,.x q0 C0,.v 0,.o 1,.x r0 D0,.v 1] Z ⟨⟨Z,i0⟩,⟨d0,by omega⟩,Z,⟨Z,g0⟩,⟨c0,by omega⟩,Z,U⟩ (I1a Z Z ?_);refine p5c (a:=y) (b:=x) S1b Z Z Z (fun o0=>?_) fun o0=>?_
   ·refine qD Z U ?_;rintro p0 ⟨a0,n0⟩;refine lP0 Z ⟨by omega,U⟩ ⟨μ-1,by omega,Z,(k+1),(hI.skip ha hb A0 B0 o0),(by omega),(by omega),a0,Z⟩
   refine qD Z U ?_;rintro p0 ⟨a0,n0⟩;refine lB a0.k [.o 0] Z ⟨Z,U⟩ (fun b0=>by exfalso;rcases Nat.lt_or_ge k b.length with h9|h9;omega;exact hI.end_ (by omega) h9) (fun b0=>?_);refine lP0 Z ⟨by omega,U⟩ ⟨μq-1,by omega,Z,(q+1),(_),(by omega),(hI.next),(by omega),a0,Z⟩
  refine qD Z U ?_;rintro p0 ⟨a0,n0⟩;refine lB a0.k [.o 0] Z ⟨Z,U⟩ (fun b0=>by exfalso;rcases Nat.lt_or_ge k b.length with h9|h9;omega;exact hI.end_ (by omega) h9) (fun b0=>?_);refine lP0 Z ⟨by omega,U⟩ ⟨μq-1,by omega,Z,(q+1),(_),(by omega),(hI.next),(by omega),a0,Z⟩
 exact lT Z U Z ⟨Z,S.fin⟩
def Y4b(o n:List Int)(e:E):Prop:=e.val o n=0∨e.val o n=1
theorem c4b{e:E}(h:B3a e=true)(o n:List Int):Y4b o n e:=by
 obtain⟨hw,hf⟩:=u6a h;have:=U4b (k5a hf) o n;rw[hw] at this;have h2:A3a (1:Int).toNat=2:=by decide
 unfold Y4b;omega
theorem k8c{a b:E}{o n:List Int}(ha:Y4b o n a)(hb:Y4b o n b):Y4b o n (jnE 5 a b)∧((jnE 5 a b).val o n=1↔a.val o n=1∧b.val o n=1):=by
 have he:(jnE 5 a b).val o n=n9a (n9a (a.val o n) (b.val o n)) 1:=by rw[E.val_def];rfl
 unfold Y4b at *;rw[he];rcases ha with ha|ha<;>rcases hb with hb|hb<;>rw[ha,hb]<;>decide
theorem v7c{a b:E}{o n:List Int}(ha:Y4b o n a)(hb:Y4b o n b):Y4b o n (jnE 6 a b)∧((jnE 6 a b).val o n=1↔a.val o n=1∨b.val o n=1):=by
 have he:(jnE 6 a b).val o n=n9a (bor (a.val o n) (b.val o n)) 1:=by rw[E.val_def];rfl
 unfold Y4b at *;rw[he];rcases ha with ha|ha<;>rcases hb with hb|hb<;>rw[ha,hb]<;>decide
theorem s3b{o n:List Int}:∀(es:List E) (acc:E),Y4b o n acc→(∀e∈es,Y4b o n e)→((es.foldl (jnE 5) acc).val o n=1↔acc.val o n=1∧∀e∈es,e.val o n=1)
 | [],acc,_,_=>by simp
 | e::es,acc,ha,h=>by
   have h1:=k8c ha (h e (by simp));rw[List.foldl_cons,s3b es _ h1.1 fun x hx=>h x (List.mem_cons_of_mem _ hx),h1.2];simp[and_assoc]
theorem K4b{o n:List Int}:∀(es:List E) (acc:E),Y4b o n acc→(∀e∈es,Y4b o n e)→((es.foldl (jnE 6) acc).val o n=1↔acc.val o n=1∨∃e∈es,e.val o n=1)
 | [],acc,_,_=>by simp
 | e::es,acc,ha,h=>by
   have h1:=v7c ha (h e (by simp));rw[List.foldl_cons,K4b es _ h1.1 fun x hx=>h x (List.mem_cons_of_mem _ hx),h1.2];simp[or_assoc]
theorem Q5a(w n:Int)(o q:List Int):(⟨1,w,n,[]⟩:E).val o q=n:=by rw[E.val_def];rfl
theorem Z1b{e:E}(h:e.op=1)(o n:List Int):e.val o n=e.n:=by rw[E.val_def,if_pos h]
theorem N9a{op unit:Int}{l:List E}(h:F2a op unit l≠zE):∀e∈l,B3a e=true:=fun e he=>by
 cases hc:B3a e with
 | true=>rfl
 | false=>exact absurd (M4a he hc) h
theorem j5a{l:List E}{e:E}:e∈r1a l↔e∈l∧e.op≠1:=by unfold r1a;simp
theorem i1c{l:List E}(h:F2a 5 1 l≠zE)(o n:List Int):(F2a 5 1 l).val o n=1↔∀e∈l,e.val o n=1:=by
 have hc:=N9a h;cases hd:l.any (fun e=>isC e (1-1)) with
 | true =>
   rw[e7a hc hd,Q5a];obtain⟨e,he,h1⟩:=List.any_eq_true.1 hd;unfold isC at h1;have h2:=of_decide_eq_true h1;refine⟨fun h=>by omega,fun hh=>?_⟩;have:=hh e he;rw[Z1b h2.1] at this;omega
 | false =>
   have hj:=z2a (op:=5) hc hd;have hw:(g3a 5 1 (r1a l)).wf=true:=by
    cases hw:(g3a 5 1 (r1a l)).wf with
    | true=>rfl
    | false=>rw[hw] at hj;exact absurd hj h
   rw[hj,if_pos hw];have key:(g3a 5 1 (r1a l)).val o n=1↔∀e∈r1a l,e.val o n=1:=by
    have hb:∀e∈r1a l,Y4b o n e:=fun e he=>c4b (hc e (j5a.1 he).1) o n;cases hk:r1a l with
    | nil=>simp[g3a,Q5a]
    | cons e es =>
      rw[hk] at hb;rw[show g3a 5 1 (e::es)=es.foldl (jnE 5) e from rfl,s3b es e (hb e (by simp)) fun x hx=>hb x (List.mem_cons_of_mem _ hx)];simp
   rw[key];refine⟨fun hh e he=>?_,fun hh e he=>hh e (j5a.1 he).1⟩;by_cases ho:e.op=1
   ·rw[Z1b ho];rcases y2b (hc e he) ho with h1|h1
    ·have:l.any (fun e=>isC e (1-1))=true:=List.any_eq_true.2 ⟨e,he,by unfold isC;exact decide_eq_true ⟨ho,by omega⟩⟩;rw[hd] at this;cases this
    ·exact h1
   ·exact hh e (j5a.2 ⟨he,ho⟩)
theorem U1d{l:List E}(h:F2a 6 0 l≠zE)(o n:List Int):(F2a 6 0 l).val o n=1↔∃e∈l,e.val o n=1:=by
 have hc:=N9a h;cases hd:l.any (fun e=>isC e (1-0)) with
 | true =>
   rw[e7a hc hd,Q5a];obtain⟨e,he,h1⟩:=List.any_eq_true.1 hd;unfold isC at h1;have h2:=of_decide_eq_true h1;exact⟨fun _=>⟨e,he,by rw[Z1b h2.1];omega⟩,fun _=>by omega⟩
 | false =>
   have hj:=z2a (op:=6) hc hd;have hw:(g3a 6 0 (r1a l)).wf=true:=by
    cases hw:(g3a 6 0 (r1a l)).wf with
    | true=>rfl
    | false=>rw[hw] at hj;exact absurd hj h
   rw[hj,if_pos hw];have key:(g3a 6 0 (r1a l)).val o n=1↔∃e∈r1a l,e.val o n=1:=by
    have hb:∀e∈r1a l,Y4b o n e:=fun e he=>c4b (hc e (j5a.1 he).1) o n;cases hk:r1a l with
    | nil=>simp[g3a,Q5a]
    | cons e es =>
      rw[hk] at hb;rw[show g3a 6 0 (e::es)=es.foldl (jnE 6) e from rfl,K4b es e (hb e (by simp)) fun x hx=>hb x (List.mem_cons_of_mem _ hx)];simp
   rw[key];refine⟨fun⟨e,he,hh⟩=>⟨e,(j5a.1 he).1,hh⟩,fun⟨e,he,hh⟩=>⟨e,j5a.2 ⟨he,fun ho=>?_⟩,hh⟩⟩;rw[Z1b ho] at hh;have:l.any (fun e=>isC e (1-0))=true:=List.any_eq_true.2 ⟨e,he,by unfold isC;exact decide_eq_true ⟨ho,by omega⟩⟩;rw[hd] at this;cases this
theorem K8c{op:Int}(b0:op=5∨op=6){cells:List a1a}{a0:Bool}{a b:E}(ha:a.over cells a0=true)(hb:b.over cells a0=true):(jnE op a b).over cells a0=true:=by
 rw[E.over_def,Bool.and_eq_true];refine⟨decide_eq_true ⟨fun h=>?_,fun h=>?_⟩,(E.overs_iff _ _ _).2 fun k hk=>?_⟩
 ·simp only[jnE] at h;omega
 ·simp only[jnE] at h;omega
 ·simp only[jnE,List.mem_cons,List.not_mem_nil,or_false] at hk;rcases hk with rfl|rfl
  ·exact ha
  ·exact hb
theorem o4b{op:Int}(b0:op=5∨op=6){cells:List a1a}{a0:Bool}:∀(es:List E) (acc:E),acc.over cells a0=true→(∀e∈es,e.over cells a0=true)→(es.foldl (jnE op) acc).over cells a0=true
 | [],_,h,_=>h
 | e::es,acc,h,hl=>o4b b0 es _ (K8c b0 h (hl e (by simp))) fun x hx=>hl x (List.mem_cons_of_mem _ hx)
theorem T0b(w n:Int)(cells:List a1a)(a0:Bool):(⟨1,w,n,[]⟩:E).over cells a0=true:=by
 rw[E.over_def,Bool.and_eq_true];exact⟨decide_eq_true ⟨fun h=>by simp only at h;omega,fun h=>by simp only at h;omega⟩,Z⟩
theorem g2c(cells:List a1a)(a0:Bool):zE.over cells a0=true:=by
 rw[E.over_def,Bool.and_eq_true];exact⟨decide_eq_true ⟨fun h=>by simp only[zE] at h;omega,fun h=>by simp only[zE] at h;omega⟩,Z⟩
theorem b8a{op unit:Int}(c0:op=5∨op=6){cells:List a1a}{a0:Bool}{l:List E}(h:∀e∈l,e.over cells a0=true):(F2a op unit l).over cells a0=true:=by
 unfold F2a
 split
 ·split
  ·exact T0b _ _ _ _
  ·split
   ·have hk:∀e∈r1a l,e.over cells a0=true:=fun e he=>h e (j5a.1 he).1;cases b0:r1a l with
    | nil=>exact T0b _ _ _ _
    | cons e es=>rw[b0] at hk;exact o4b c0 es e (hk e (by simp)) fun x hx=>hk x (List.mem_cons_of_mem _ hx)
   ·exact g2c _ _
 ·exact g2c _ _
theorem k4b{p:o0a}{c:Int}(hc:0≤c∧c<p.cells.length):(F3a p c).over p.cells true=true:=by
 rw[E.over_def,Bool.and_eq_true];refine⟨decide_eq_true ⟨fun _=>rfl,fun h=>by simp only[F3a] at h;omega⟩,(E.overs_iff _ _ _).2 fun k hk=>?_⟩;simp only[F3a,List.mem_cons,List.not_mem_nil,or_false] at hk;rcases hk with rfl|rfl<;>rw[E.over_def,Bool.and_eq_true]
 ·exact⟨decide_eq_true ⟨fun _=>rfl,fun _=>⟨hc.2,Z⟩⟩,Z⟩
 ·exact⟨decide_eq_true ⟨fun _=>rfl,fun _=>⟨hc.2,Z⟩⟩,Z⟩
theorem I2c{p:o0a}{m:Int}(h:0≤m∧m<p.modules.length):∃md,p.modules[m.toNat]?=some md∧J3c p m.toNat=md:=by
 have h1:m.toNat<p.modules.length:=by omega
 refine⟨p.modules[m.toNat],List.getElem?_eq_getElem h1,?_⟩;unfold J3c;rw[List.getD_eq_getElem?_getD,List.getElem?_eq_getElem h1];rfl
theorem C0c{p:o0a}(hp:o1a p){m:Int}(h:0≤m∧m<p.modules.length):(b3a p m).over p.cells true=true:=by
 obtain⟨md,hm,he⟩:=I2c h;unfold b3a C2b;rw[he];refine b8a (.inl Z) fun e hx=>?_;rcases List.mem_cons.1 hx with rfl|hx
 ·exact(x1a (hp.modules md (List.mem_of_getElem? hm)).guar.1).2.2
 ·obtain⟨_,hc,rfl⟩:=List.mem_map.1 hx;have:=i4a.1 (List.mem_filter.1 hc).1;exact k4b ⟨this.1,this.2.1⟩
theorem S6c{p:o0a}(hp:o1a p)(t:Nat):(onE p t).over p.cells true=true:=by
 refine b8a (.inl Z) fun e hx=>?_;rcases List.mem_cons.1 hx with rfl|hx
 ·refine b8a (.inr Z) fun e hx=>?_;obtain⟨_,hm,rfl⟩:=List.mem_map.1 hx;exact C0c hp (V7a hm)
 ·obtain⟨_,hc,rfl⟩:=List.mem_map.1 hx;have:=i4a.1 hc;exact k4b ⟨this.1,this.2.1⟩
theorem i5a{p:o0a}(hp:o1a p){t:Nat}(h:onE p t≠zE):(onE p t).valid p.cells true=true:=by
 rcases h5a (op:=5) (unit:=1) (.inr Z) (h6a p t::(ofL p t).map (F3a p)) with h1|h1
 ·exact absurd h1 h
 ·unfold E.valid;rw[Bool.and_eq_true];exact⟨h1.1,S6c hp t⟩
def s4c(p:o0a)(o n:List Int)(c:Int):Prop:=o.getD c.toNat 0 % A3a (wAt p.cells c).toNat=n.getD c.toNat 0 % A3a (wAt p.cells c).toNat
theorem c9a{p:o0a}{c:Int}(hw:1≤wAt p.cells c∧wAt p.cells c≤8)(o n:List Int):(F3a p c).val o n=1↔s4c p o n c:=by
 have he:(F3a p c).val o n=n9a (if n9a (o.getD c.toNat 0) (A3a (wAt p.cells c).toNat-1)=n9a (n.getD c.toNat 0) (A3a (wAt p.cells c).toNat-1) then 1 else 0) 1:=by
  rw[E.val_def];rfl
 rw[he,q3a _ _ (by omega),q3a _ _ (by omega)];unfold s4c
 split
 ·rename_i h;exact⟨fun _=>h,fun _=>by decide⟩
 ·rename_i h;exact⟨fun hh=>absurd hh (by decide),fun hh=>absurd hh h⟩
theorem f7a{p:o0a}(hp:o1a p){c:Int}(hc:0≤c∧c<p.cells.length):1≤wAt p.cells c∧wAt p.cells c≤8:=r2c hc fun c h=>(hp.cells c h).w
theorem i7b{p:o0a}(hp:o1a p){m:Int}(h:b3a p m≠zE)(o n:List Int):(b3a p m).val o n=1↔(J3c p m.toNat).guar.val o n=1∧∀c:Int,0≤c→c<p.cells.length→z1a p.cells c=-1→c∉(J3c p m.toNat).frame→s4c p o n c:=by
 unfold b3a at h ⊢;rw[i1c h];unfold C2b;rw[List.forall_mem_cons];refine and_congr_right fun _=>⟨fun hh c h0 h1 h2 h3=>?_,fun hh e he=>?_⟩
 ·exact(c9a (f7a hp ⟨h0,h1⟩) o n).1 (hh _ (List.mem_map.2 ⟨c,List.mem_filter.2 ⟨i4a.2 ⟨h0,h1,h2⟩,by simpa using h3⟩,Z⟩))
 ·obtain⟨c,hc,rfl⟩:=List.mem_map.1 he;obtain⟨h1,h2⟩:=List.mem_filter.1 hc;obtain⟨h3,h4,h5⟩:=i4a.1 h1;exact(c9a (f7a hp ⟨h3,h4⟩) o n).2 (hh c h3 h4 h5 (by simpa using h2))
theorem p2b{p:o0a}{t:Nat}(h:onE p t≠zE):h6a p t≠zE∧∀m∈s1a p t,b3a p m≠zE :=
 ⟨fun h1=>h (N1b h1),fun _ hm h1=>h (N1b (A3b hm h1))⟩
theorem b6c{p:o0a}(hp:o1a p){t:Nat}(h:onE p t≠zE)(o n:List Int):(onE p t).val o n=1↔(∃m∈s1a p t,(b3a p m).val o n=1)∧∀c:Int,0≤c→c<p.cells.length→z1a p.cells c=t→s4c p o n c:=by
 have hs:=(p2b h).1;unfold onE at h ⊢;rw[i1c h,List.forall_mem_cons];refine and_congr ?_ ⟨fun hh c h0 h1 h2=>?_,fun hh e he=>?_⟩
 ·unfold h6a at hs ⊢;rw[U1d hs];constructor
  ·rintro⟨e,he,h1⟩;obtain⟨m,hm,rfl⟩:=List.mem_map.1 he;exact⟨m,hm,h1⟩
  ·rintro⟨m,hm,h1⟩;exact⟨_,List.mem_map.2 ⟨m,hm,Z⟩,h1⟩
 ·exact(c9a (f7a hp ⟨h0,h1⟩) o n).1 (hh _ (List.mem_map.2 ⟨c,i4a.2 ⟨h0,h1,h2⟩,Z⟩))
 ·obtain⟨c,hc,rfl⟩:=List.mem_map.1 he;obtain⟨h3,h4,h5⟩:=i4a.1 hc;exact(c9a (f7a hp ⟨h3,h4⟩) o n).2 (hh c h3 h4 h5)
theorem C3c{cells:List a1a}{g0 f0 b0 a0:List Int}:∀(e:E) (e0:Int),e.good e0=true→e.over cells true=true→(∀x:Int,e.occ 3 x=true→g0.getD x.toNat 0 % A3a (wAt cells x).toNat=b0.getD x.toNat 0 % A3a (wAt cells x).toNat)→(∀x:Int,e.occ 2 x=true→f0.getD x.toNat 0 % A3a (wAt cells x).toNat=a0.getD x.toNat 0 % A3a (wAt cells x).toNat)→e.val g0 f0=e.val b0 a0:=by
 intro e
 induction e using E.induct with
 | _ e ih =>
   intro e0 hg ho h3 h2;obtain⟨j0,i0⟩:=B2a hg;rw[E.over_def] at ho;simp only[Bool.and_eq_true,decide_eq_true_eq] at ho;have hk:e.kids.map (E.val g0 f0)=e.kids.map (E.val b0 a0):=by
    apply List.map_congr_left;intro k hk;refine ih k hk (e0-1) (i0 k hk) ((E.overs_iff _ _ _).1 ho.2 k hk) (fun x hx=>h3 x ?_) (fun x hx=>h2 x ?_)
    ·rw[E.occ_def,(E.occs_iff _ _ _).2 ⟨k,hk,hx⟩];simp
    ·rw[E.occ_def,(E.occs_iff _ _ _).2 ⟨k,hk,hx⟩];simp
   rw[E.val_def,E.val_def,hk];have c0:e.w.toNat≤62:=by have:=P3a j0;omega
   by_cases o2:e.op=2
   ·have d0:=(ho.1.2 (by omega)).2;have:=h2 e.n (by rw[E.occ_def];simp[o2]);rw[d0] at this;have n1:¬e.op=1:=by omega
    rw[if_neg n1,if_neg n1,if_pos o2,if_pos o2,q3a _ _ c0,q3a _ _ c0,this]
   ·by_cases o3:e.op=3
    ·have d0:=(ho.1.2 (by omega)).2;have:=h3 e.n (by rw[E.occ_def];simp[o3]);rw[d0] at this;have n1:¬e.op=1:=by omega
     rw[if_neg n1,if_neg n1,if_neg o2,if_neg o2,if_pos o3,if_pos o3,q3a _ _ c0,q3a _ _ c0,this]
    ·rw[if_neg o2,if_neg o3,if_neg o2,if_neg o3]
def f6b(p:List a1a)(s:List Int)(c:Int):Nat:=(s.getD c.toNat 0).toNat % 2 ^ (wAt p c).toNat
theorem Y1b(p:List a1a)(c:Int)(C s:List Int):nuZ (c::C) (wdL p (c::C)) s=f6b p s c+2 ^ (wAt p c).toNat*nuZ C (wdL p C) s:=Z
theorem H7b(p:List a1a)(c:Int)(C:List Int)(n:Nat)(s:List Int):stZ (c::C) (wdL p (c::C)) n s=stZ C (wdL p C) (n / 2 ^ (wAt p c).toNat) (s.set c.toNat ((n % 2 ^ (wAt p c).toNat:Nat):Int)):=Z
theorem S6b{p:List a1a}:∀{C s s':List Int},(∀c∈C,f6b p s c=f6b p s' c)→nuZ C (wdL p C) s=nuZ C (wdL p C) s'
 | [],_,_,_=>rfl
 | c::C,s,s',h=>by rw[Y1b,Y1b,h c (by simp),S6b fun x hx=>h x (List.mem_cons_of_mem _ hx)]
theorem D4b{p:List a1a}:∀{C:List Int} {n:Nat} {s:List Int} {i:Nat},(∀c∈C,c.toNat≠i)→(stZ C (wdL p C) n s).getD i 0=s.getD i 0
 | [],_,_,_,_=>rfl
 | c::C,n,s,i,h=>by
   rw[H7b,D4b fun x hx=>h x (List.mem_cons_of_mem _ hx),List.getD_eq_getElem?_getD,List.getElem?_set_ne (h c (by simp)),List.getD_eq_getElem?_getD]
def n3a(C:List Int)(n:Nat):Prop:=C.Pairwise (·<·)∧∀c∈C,0≤c∧c<n
theorem n3a.tail{c:Int}{C:List Int}{n:Nat}(h:n3a (c::C) n):n3a C n:=⟨(List.pairwise_cons.1 h.1).2,fun x hx=>h.2 x (List.mem_cons_of_mem _ hx)⟩
theorem n3a.ne{c:Int}{C:List Int}{n:Nat}(h:n3a (c::C) n):∀x∈C,x.toNat≠c.toNat:=fun x hx=>by
 have h1:=(List.pairwise_cons.1 h.1).1 x hx;have h2:=h.2 c (by simp);omega
theorem K0c{p:List a1a}:∀{C m s:List Int},n3a C s.length→∀c∈C,(stZ C (wdL p C) (nuZ C (wdL p C) m) s).getD c.toNat 0=(f6b p m c:Int)
 | [],_,_,_,c,hc=>by cases hc
 | d::C,m,s,h,c,hc=>by
   have a0:f6b p m d<2 ^ (wAt p d).toNat:=Nat.mod_lt _ (Nat.two_pow_pos _);rw[H7b,Y1b,Nat.add_mul_mod_self_left,Nat.mod_eq_of_lt a0,Nat.add_mul_div_left _ _ (Nat.two_pow_pos _),Nat.div_eq_of_lt a0,Nat.zero_add];rcases List.mem_cons.1 hc with rfl|hc
   ·rw[D4b h.ne,List.getD_eq_getElem?_getD,List.getElem?_set_self (by have:=h.2 c (by simp);omega)];rfl
   ·exact K0c (s:=s.set _ _) (by rw[List.length_set];exact h.tail) c hc
theorem A5b{p:List a1a}{C m s:List Int}(h:n3a C s.length){c:Int}(hc:c∈C):f6b p (stZ C (wdL p C) (nuZ C (wdL p C) m) s) c=f6b p m c:=by
 unfold f6b at *;rw[K0c h c hc,Int.toNat_natCast];unfold f6b;rw[Nat.mod_mod]
theorem e0c{p:List a1a}{C D m s:List Int}(h:n3a D s.length)(hs:∀c∈C,c∈D):nuZ C (wdL p C) (stZ D (wdL p D) (nuZ D (wdL p D) m) s)=nuZ C (wdL p C) m:=S6b fun c hc=>A5b h (hs c hc)
theorem Q1c(n:Nat):A3a n=((2 ^ n:Nat):Int):=by
 induction n with
 | zero=>rfl
 | succ n ih=>rw[A3a,ih,Nat.pow_succ];omega
theorem Z8a{p:List a1a}{s:List Int}{c:Int}(h:0≤s.getD c.toNat 0):s.getD c.toNat 0 % A3a (wAt p c).toNat=(f6b p s c:Int):=by
 unfold f6b;rw[Q1c];generalize s.getD c.toNat 0=x at h;obtain⟨_,rfl⟩:=Int.eq_ofNat_of_zero_le h;rw[Int.toNat_natCast];rfl
def z9b(s:List Int):Prop:=∀i:Nat,0≤s.getD i 0
theorem j9c{s:List Int}(h:∀x∈s,0≤x):z9b s:=fun i=>by
 rw[List.getD_eq_getElem?_getD];cases he:s[i]? with
 | none=>simp
 | some x=>exact h x (List.mem_of_getElem? he)
theorem c6b{p:List a1a}{C s:List Int}{n:Nat}(h:∀x∈s,0≤x∧x<256)(hw:∀c∈C,1≤wAt p c∧wAt p c≤8):z9b (stZ C (wdL p C) n s):=j9c fun x hx=>(w2b C (wdL p C) n s (fun y hy=>by obtain⟨c,hc,rfl⟩:=List.mem_map.1 hy;exact hw c hc) h x hx).1
theorem v6c{p:o0a}{e:E}(hv:e.valid p.cells true=true){o n o' n':List Int}(ho:z9b o)(hn:z9b n)(b0:z9b o')(a0:z9b n')(h3:∀x,e.occ 3 x=true→f6b p.cells o x=f6b p.cells o' x)(h2:∀x,e.occ 2 x=true→f6b p.cells n x=f6b p.cells n' x):e.val o n=e.val o' n':=by
 obtain⟨_,hg,c0⟩:=x1a hv;refine C3c (cells:=p.cells) e 40 hg c0 (fun x hx=>?_) fun x hx=>?_
 ·rw[Z8a (ho _),Z8a (b0 _),h3 x hx]
 ·rw[Z8a (hn _),Z8a (a0 _),h2 x hx]
theorem G0c(x:k1a)(M:List Nat)(w0:World)(ts:List Value)(hT:T0a M w0 ts x):
 E0a prog 50 #[.agg ts.toArray] w0 fun v w'=>(∃b,v=.bool b∧(b=true→True))∧Below w0.heap.size w0 w':=by
 obtain⟨Aa,na,ca,Am,nm,cm,As,ns,cn,Al,nl,cl,rfl,-,u1,_,e0,S0,_⟩:=T0a.open_ hT;have S:=St.refl w0;refine a0a func50 Z ntmps50 Z ?_;refine wO0 Z U (p0a S Z ?_);intro g1 w1 S1 X1 G1;refine lC0 Z U (wL (fun μk D ε w=>D=[]∧∃k:Nat,(k+μk=(x.steps.length))∧St [] w0 w [(some g1,64,[.string x.name,.int .i64 x.points,.slice Aa na ca,.slice Am nm cm,.slice As ns cn,.slice Al nl cl,.bool x.asleep])]∧Sl ε [(1,.pointer (some ⟨g1,0,none⟩)),(3,.int .i64 k)]) (μ:=(x.steps.length)) ⟨Z,0,by omega,S1,Z⟩ ?_);rintro μk D ε w ⟨rfl,k,hk,S,eZ⟩;refine wK eZ (wB S.k [.o 0] Z ⟨Z,U⟩ (fun i1=>?_) fun i1=>?_)
 ·obtain⟨s,X0,x1,_,R0,i0,_,_,v0,F0⟩:=RdS.get (e0) (k) (by omega);obtain⟨_,_,_,_,_,_,rfl,⟨_,_⟩,u0,_⟩:=Y1a.open_ F0;refine lO (S.k.a v0) [.o 0,.x X0 x1,.f 0 3] Z ⟨Z,⟨i0,by omega⟩,Z,U⟩ (v0a S Z9a Z Z (e5a s.guard M _ _ _ (RdE.keep (S.keep0 M) _ _ u0)) (fun j1 F1 b0 T0=>?_) (fun j1 F1 b0 T0=>?_))
  ·obtain⟨_,Y0,y1,_,N0,j0,_,_,x0,G0⟩:=RdS.get (e0) (k) (by omega);obtain rfl:=Option.some.inj (R0.symm.trans N0);obtain⟨_,_,_,_,_,_,rfl,⟨_,_⟩,_⟩:=Y1a.open_ G0;refine lB (b0.k.a x0) [.o 0,.x Y0 y1,.f 0 7] Z ⟨Z,⟨j0,by omega⟩,Z,U⟩ (fun m1=>?_) fun m1=>?_
   ·exact lT Z U Z ⟨⟨_,Z,fun _=>trivial⟩,b0.fin⟩
   refine lC0 Z U (wL (fun μj D ε w=>D=[]∧∃j:Nat,(j+μj=(s.set.length))∧St [] w0 w [(some g1,64,[.string x.name,.int .i64 x.points,.slice Aa na ca,.slice Am nm cm,.slice As ns cn,.slice Al nl cl,.bool x.asleep])]∧Sl ε [(1,.pointer (some ⟨g1,0,none⟩)),(3,.int .i64 k),(4,.int .i64 j)]) (μ:=(s.set.length)) ⟨Z,0,by omega,b0,Z⟩ ?_);rintro μj D ε w ⟨rfl,j,_,S,eZ⟩;refine wK eZ ?_;obtain⟨_,Z0,z1,_,O0,m0,_,_,y0,H0⟩:=RdS.get (e0) (k) (by omega);obtain rfl:=Option.some.inj (R0.symm.trans O0);obtain⟨_,_,_,_,_,_,rfl,⟨_,_⟩,_⟩:=Y1a.open_ H0;refine wB (S.k.a y0) [.o 0,.x Z0 z1,.f 0 7] Z ⟨Z,⟨m0,by omega⟩,Z,U⟩ (fun n1=>?_) fun n1=>?_
   ·obtain⟨_,a1,A1,_,P0,n0,_,_,z0,I0⟩:=RdS.get (e0) (k) (by omega);obtain rfl:=Option.some.inj (R0.symm.trans P0);obtain⟨_,_,_,_,_,_,rfl,⟨_,_⟩,_,a0,_⟩:=Y1a.open_ I0;obtain⟨a,b1,B1,_,_,o0,_,_,A0,J0⟩:=RdS.get (a0) (j) (by omega);obtain⟨_,_,_,rfl,_,s0⟩:=Q0a.open_ J0;refine lO ((S.k.a A0).a z0) [.o 0,.x a1 A1,.f 0 7,.x b1 B1,.f 1 1] Z ⟨Z,⟨o0,by omega⟩,Z,⟨n0,by omega⟩,Z,U⟩ (v0a S Z9a Z Z (e5a a.to M _ _ _ (RdE.keep (S.keep0 M) _ _ s0)) (fun o1 H1 f0 U0=>?_) (fun o1 H1 f0 U0=>?_))
    ·refine lP0 Z ⟨by omega,U⟩ ⟨μj-1,by omega,Z,(j+1),(by omega),f0,Z⟩
    exact lT Z U Z ⟨⟨_,Z,fun _=>trivial⟩,f0.fin⟩
   refine lP0 Z ⟨by omega,U⟩ ⟨μk-1,by omega,Z,(k+1),(by omega),S,Z⟩
  exact lT Z U Z ⟨⟨_,Z,fun _=>trivial⟩,b0.fin⟩
 refine lC0 Z U (wL (fun μk D ε w=>D=[]∧∃k:Nat,(k+μk=(x.asserts.length))∧St [] w0 w [(some g1,64,[.string x.name,.int .i64 x.points,.slice Aa na ca,.slice Am nm cm,.slice As ns cn,.slice Al nl cl,.bool x.asleep])]∧Sl ε [(1,.pointer (some ⟨g1,0,none⟩)),(5,.int .i64 k)]) (μ:=(x.asserts.length)) ⟨Z,0,by omega,S,Z⟩ ?_);rintro μk D ε w ⟨rfl,k,hk,S,eZ⟩;refine wK eZ (wB S.k [.o 0] Z ⟨Z,U⟩ (fun p1=>?_) fun p1=>?_)
 ·obtain⟨e,c1,C1,_,_,p0,_,E0,B0,d0⟩:=RdS.get (u1) (k) (by omega);obtain⟨_,_,_,rfl,_⟩:=RdE.cells d0;refine lO (S.k.a B0) [.o 0,.x c1 C1,.v 0] Z ⟨⟨Z,E0⟩,⟨p0,by omega⟩,Z,U⟩ (v0a S Z9a Z Z (e5a e M _ _ _ (RdE.keep (S.keep0 M) _ _ d0)) (fun q1 I1 g0 V0=>?_) (fun q1 I1 g0 V0=>?_))
  ·refine lP0 Z ⟨by omega,U⟩ ⟨μk-1,by omega,Z,(k+1),(by omega),g0,Z⟩
  exact lT Z U Z ⟨⟨_,Z,fun _=>trivial⟩,g0.fin⟩
 refine lC0 Z U (wL (fun μk D ε w=>D=[]∧∃k:Nat,(k+μk=(x.loops.length))∧St [] w0 w [(some g1,64,[.string x.name,.int .i64 x.points,.slice Aa na ca,.slice Am nm cm,.slice As ns cn,.slice Al nl cl,.bool x.asleep])]∧Sl ε [(1,.pointer (some ⟨g1,0,none⟩)),(6,.int .i64 k)]) (μ:=(x.loops.length)) ⟨Z,0,by omega,S,Z⟩ ?_);rintro μk D ε w ⟨rfl,k,hk,S,eZ⟩;refine wK eZ (wB S.k [.o 0] Z ⟨Z,U⟩ (fun r1=>?_) fun r1=>?_)
 ·obtain⟨o,d1,D1,_,v1,q0,_,_,C0,K0⟩:=RdS.get (S0) (k) (by omega);obtain⟨_,_,_,_,_,_,rfl,_,_,t0,_⟩:=Z4a.open_ K0;refine lO (S.k.a C0) [.o 0,.x d1 D1,.f 0 2] Z ⟨Z,⟨q0,by omega⟩,Z,U⟩ (v0a S Z9a Z Z (e5a o.variant M _ _ _ (RdE.keep (S.keep0 M) _ _ t0)) (fun s1 J1 c0 W0=>?_) (fun s1 J1 c0 W0=>?_))
  ·obtain⟨_,f1,E1,_,Q0,r0,_,_,D0,L0⟩:=RdS.get (S0) (k) (by omega);obtain rfl:=Option.some.inj (v1.symm.trans Q0);obtain⟨_,_,_,_,_,_,rfl,_⟩:=Z4a.open_ L0;refine lB (c0.k.a D0) [.o 0,.x f1 E1,.f 0 1] Z ⟨Z,⟨r0,by omega⟩,Z,U⟩ (fun t1=>?_) fun t1=>?_
   ·exact lT Z U Z ⟨⟨_,Z,fun _=>trivial⟩,c0.fin⟩
   refine lP0 Z ⟨by omega,U⟩ ⟨μk-1,by omega,Z,(k+1),(by omega),c0,Z⟩
  exact lT Z U Z ⟨⟨_,Z,fun _=>trivial⟩,c0.fin⟩
 exact lT Z U Z ⟨⟨_,Z,fun _=>trivial⟩,S.fin⟩
theorem j4c(p:o0a)(M:List Nat)(w0:World)(cs:List Value)(hP:R0a M w0 p cs):
 E0a prog 11 #[.agg cs.toArray] w0 fun v w'=>(∃b,v=.bool b∧(b=true→True))∧Below w0.heap.size w0 w':=by
 obtain⟨Ac,nc,cc,Am,nm,cm,Al,nl,cl,At,nt,ct,rfl,_,D0,o1,p1,_⟩:=hP.open_;have S:=St.refl w0;refine a0a func11 Z ntmps11 Z ?_;refine wO0 Z U (p0a S Z ?_);intro g1 w1 S1 X1 G1;refine lB S1.k [.o 0] Z ⟨Z,U⟩ (fun X0=>?_) fun X0=>?_
 ·exact lT Z U Z ⟨⟨_,Z,fun _=>trivial⟩,S1.fin⟩
 refine lB S1.k [.o 0] Z ⟨Z,U⟩ (fun Y0=>?_) fun Y0=>?_
 ·exact lT Z U Z ⟨⟨_,Z,fun _=>trivial⟩,S1.fin⟩
 refine lB S1.k [.o 0] Z ⟨Z,U⟩ (fun Z0=>?_) fun Z0=>?_
 ·exact lT Z U Z ⟨⟨_,Z,fun _=>trivial⟩,S1.fin⟩
 refine lB S1.k [.o 0] Z ⟨Z,U⟩ (fun a1=>?_) fun a1=>?_
 ·exact lT Z U Z ⟨⟨_,Z,fun _=>trivial⟩,S1.fin⟩
 refine lC0 Z U (wL (fun μk D ε w=>D=[]∧∃k:Nat,∃n:Int,(k+μk=(p.threads.length))∧(0≤n∧n≤24)∧St [] w0 w [(some g1,27,[.slice Ac nc cc,.slice Am nm cm,.slice Al nl cl,.slice At nt ct])]∧Sl ε [(1,.pointer (some ⟨g1,0,none⟩)),(3,.int .i64 n),(4,.int .i64 k)]) (μ:=(p.threads.length)) ⟨Z,0,0,by omega,by omega,S1,Z⟩ ?_);rintro μk D ε w ⟨rfl,k,n,hk,_,S,eZ⟩;refine wK eZ (wB S.k [.o 0] Z ⟨Z,U⟩ (fun b1=>?_) fun b1=>?_)
 ·obtain⟨th,U0,q1,_,_,z0,_,I0,F0,o0⟩:=RdS.get (p1) (k) (by omega);obtain⟨_,_,_,_,_,_,_,_,_,_,_,_,rfl,_⟩:=T0a.open_ o0;refine lO (S.k.a F0) [.o 0,.x U0 q1,.v 0] Z ⟨⟨Z,I0⟩,⟨z0,by omega⟩,Z,U⟩ (h0a S B0b Z Z ?_);intro g5 w5 S5 X5 G5;refine c0a (kk:=0) (vs:=[_,_,_,_,_,_,_]) S5 x0b Z Z Z Z Z Z Z ?_;intro u1 a0 R0;dsimp only[f0a,List.set] at a0;refine lB a0.k [.o 0] Z ⟨by omega,Z,U⟩ (fun c1=>?_) fun c1=>?_
  ·exact lT Z U Z ⟨⟨_,Z,fun _=>trivial⟩,a0.fin⟩
  refine lB a0.k [.o 0] Z ⟨Z,U⟩ (fun d1=>?_) fun d1=>?_
  ·exact lT Z U Z ⟨⟨_,Z,fun _=>trivial⟩,a0.fin⟩
  refine lB a0.k [.o 0] Z ⟨Z,U⟩ (fun f1=>?_) fun f1=>?_
  ·exact lT Z U Z ⟨⟨_,Z,fun _=>trivial⟩,a0.fin⟩
  refine lB a0.k [.o 0] Z ⟨Z,U⟩ (fun i1=>?_) fun i1=>?_
  ·exact lT Z U Z ⟨⟨_,Z,fun _=>trivial⟩,a0.fin⟩
  refine lO a0.k [.w 0] Z ⟨⟨Z,Z⟩,U⟩ (t6a a0 z0d Z Z (G0c th M _ _ (T0a.keep (a0.keep0 M) _ _ o0)) (fun y1 t1 r0 Q0=>?_) (fun t1 r0 Q0=>?_))
  ·refine lP0 Z ⟨by omega,U⟩ ⟨μk-1,by omega,Z,(k+1),(_),(by omega),(by omega),r0.tail,Z⟩
  exact lT Z U Z ⟨⟨_,Z,fun _=>trivial⟩,r0.fin⟩
 refine lC0 Z U (wL (fun μk D ε w=>D=[]∧∃k:Nat,(k+μk=(p.modules.length))∧St [] w0 w [(some g1,27,[.slice Ac nc cc,.slice Am nm cm,.slice Al nl cl,.slice At nt ct])]∧Sl ε [(1,.pointer (some ⟨g1,0,none⟩)),(6,.int .i64 k)]) (μ:=(p.modules.length)) ⟨Z,0,by omega,S,Z⟩ ?_);rintro μk D ε w ⟨rfl,k,hk,S,eZ⟩;refine wK eZ (wB S.k [.o 0] Z ⟨Z,U⟩ (fun j1=>?_) fun j1=>?_)
 ·obtain⟨mo,V0,r1,_,q0,A0,_,_,G0,J0⟩:=RdS.get (D0) (k) (by omega);obtain⟨_,_,_,_,_,_,_,_,_,rfl,E0,_⟩:=M0a.open_ J0;refine lO (S.k.a G0) [.o 0,.x V0 r1,.f 0 2] Z ⟨Z,⟨A0,by omega⟩,Z,U⟩ (v0a S Z9a Z Z (e5a mo.rely M _ _ _ (RdE.keep (S.keep0 M) _ _ E0)) (fun m1 v1 c0 S0=>?_) (fun m1 v1 c0 S0=>?_))
  ·obtain⟨_,W0,s1,_,L0,B0,_,_,H0,K0⟩:=RdS.get (D0) (k) (by omega);obtain rfl:=Option.some.inj (q0.symm.trans L0);obtain⟨_,_,_,_,_,_,_,_,_,rfl,_,C0,_⟩:=M0a.open_ K0;refine lO (c0.k.a H0) [.o 0,.x W0 s1,.f 0 6] Z ⟨Z,⟨B0,by omega⟩,Z,U⟩ (v0a c0 Z9a Z Z (e5a mo.guar M _ _ _ (RdE.keep (c0.keep0 M) _ _ C0)) (fun n1 x1 d0 T0=>?_) (fun n1 x1 d0 T0=>?_))
   ·obtain⟨_,t0,N0,_,p0,e0,_,_,i0,m0⟩:=RdS.get (D0) (k) (by omega);obtain rfl:=Option.some.inj (q0.symm.trans p0);obtain⟨_,_,_,_,_,_,_,_,_,rfl,_⟩:=M0a.open_ m0;refine lB (d0.k.a i0) [.o 0,.x t0 N0,.f 0 10] Z ⟨Z,⟨e0,by omega⟩,Z,U⟩ (fun v0=>?_) fun v0=>?_
    ·exact lT Z U Z ⟨⟨_,Z,fun _=>trivial⟩,d0.fin⟩
    refine lP0 Z ⟨by omega,U⟩ ⟨μk-1,by omega,Z,(k+1),(by omega),d0,Z⟩
   exact lT Z U Z ⟨⟨_,Z,fun _=>trivial⟩,d0.fin⟩
  exact lT Z U Z ⟨⟨_,Z,fun _=>trivial⟩,c0.fin⟩
 refine lC0 Z U (wL (fun μk D ε w=>D=[]∧∃k:Nat,(k+μk=(p.locks.length))∧St [] w0 w [(some g1,27,[.slice Ac nc cc,.slice Am nm cm,.slice Al nl cl,.slice At nt ct])]∧Sl ε [(1,.pointer (some ⟨g1,0,none⟩)),(7,.int .i64 k)]) (μ:=(p.locks.length)) ⟨Z,0,by omega,S,Z⟩ ?_);rintro μk D ε w ⟨rfl,k,hk,S,eZ⟩;refine wK eZ (wB S.k [.o 0] Z ⟨Z,U⟩ (fun x0=>?_) fun x0=>?_)
 ·obtain⟨lk,u0,O0,_,_,f0,_,_,j0,n0⟩:=RdS.get (o1) (k) (by omega);obtain⟨_,_,_,rfl,_,_,g0⟩:=z4a.open_ n0;refine lO (S.k.a j0) [.o 0,.x u0 O0,.f 0 1] Z ⟨Z,⟨f0,by omega⟩,Z,U⟩ (v0a S Z9a Z Z (e5a lk.inv M _ _ _ (RdE.keep (S.keep0 M) _ _ g0)) (fun y0 P0 b0 s0=>?_) (fun y0 P0 b0 s0=>?_))
  ·refine lP0 Z ⟨by omega,U⟩ ⟨μk-1,by omega,Z,(k+1),(by omega),b0,Z⟩
  exact lT Z U Z ⟨⟨_,Z,fun _=>trivial⟩,b0.fin⟩
 exact lT Z U Z ⟨⟨_,Z,fun _=>trivial⟩,S.fin⟩
theorem I9b{a b:Int}(hb:0<b:=by omega):∃k:Nat,a % b=k∧(k:Int)<b:=by
 have h0:=Int.emod_nonneg a (show b≠0 by omega);have h1:=Int.emod_lt_of_pos a hb;obtain⟨k,hk⟩:=Int.eq_ofNat_of_zero_le h0;exact⟨k,hk,by omega⟩
theorem i2d{n:Nat}(h:n<2 ^ 32):IntKind.u32.wrap (n:Int)=(n:Int):=by
 have h3:((2 ^ 32:Nat):Int)=2 ^ 32:=by simp
 have h2:(n:Int) % (2 ^ 32)=n:=Int.emod_eq_of_lt (by omega) (by rw[←h3];exact Int.ofNat_lt.2 h);simp only[IntKind.wrap,IntKind.signed,IntKind.bits,Bool.false_and,Bool.false_eq_true,if_false];exact h2
theorem Q9b(n:Nat):BitVec.ofInt 32 (n:Int)=BitVec.ofNat 32 n:=by
 apply BitVec.eq_of_toNat_eq;simp
theorem Y2b{a b:Nat}(ha:a<2 ^ 32)(hb:b<2 ^ 32):Op.intBits .and .u32 (a:Int) (b:Int)=pure (.int .u32 ((a &&& b:Nat):Int)):=by
 have h:a &&& b<2 ^ 32:=Nat.and_lt_two_pow _ hb;show pure (Value.int .u32 (IntKind.u32.wrap ((BitVec.ofInt 32 (a:Int) &&& BitVec.ofInt 32 (b:Int)).toNat:Int)))=_;rw[Q9b,Q9b,BitVec.toNat_and,BitVec.toNat_ofNat,BitVec.toNat_ofNat,Nat.mod_eq_of_lt ha,Nat.mod_eq_of_lt hb,i2d h]
theorem O2d{a n:Nat}{kd:IntKind}(hn:n≤31):Op.shift .shr .u32 (a:Int) kd (n:Int)=pure (.int .u32 ((a >>> n:Nat):Int)):=by
 have h3:min n IntKind.u32.bits=n:=by simp[IntKind.bits];omega
 have h6:¬((n:Int)<0):=by omega
 have h7:(a:Int).fdiv (2 ^ n)=((a >>> n:Nat):Int):=by
  rw[Int.fdiv_eq_ediv_of_nonneg _ (Int.le_of_lt (Int.pow_pos (by omega))),Nat.shiftRight_eq_div_pow];simp
 simp only[Op.shift,h6,if_false,Int.toNat_natCast,h3,h7]
section
variable {P:Program} {r:Option Nat} {N:Nat} {D:List Deferred} {e:Env} {w:World} {ops:Array Oper} {rest:List Oper} {K:List Deferred→Env→World→Prop}
variable {d:Nat} {t:TypeId} {p:String} {af:Array Edge} {x y:Operand} {xt yt:TypeId} {n m:Nat} {kd:IntKind}
theorem C9c(hx:ev e x=.int .u32 (m:Int))(hy:ev e y=.int kd (n:Int))(hn:n≤31)(hd:Nat.ble (d+1) N=true)(h:WL P r N ops rest K D (upd e d (.int .u32 ((m >>> n:Nat):Int))) w):
 WL P r N ops (⟨some d,.binOp .shr xt x y yt,t,p,af,none⟩::rest) K D e w :=
 P0a Z Z hd (by simp only[execOp,hx,hy,eqGuard_shr,binOp_shr,O2d hn,Sem.run_bind,Sem.run_pure,Result.andThen_ok]) h
theorem w8c(hx:ev e x=.int .u32 (n:Int))(hy:ev e y=.int .u32 (m:Int))(hn:n<2 ^ 32)(hm:m<2 ^ 32)(hd:Nat.ble (d+1) N=true)(h:WL P r N ops rest K D (upd e d (.int .u32 ((n &&& m:Nat):Int))) w):
 WL P r N ops (⟨some d,.binOp .and xt x y yt,t,p,af,none⟩::rest) K D e w :=
 P0a Z Z hd (by simp[execOp,hx,hy,eqGuard_and,binOp_and,Y2b hn hm]) h
end
def E8b(m k:Nat):List Int:=((List.range k).filter m.testBit).map Int.ofNat
theorem i4b(m k:Nat):E8b m (k+1)=if m.testBit k=true then E8b m k++[(k:Int)] else E8b m k:=by
 unfold E8b;rw[List.range_succ,List.filter_append,List.map_append];by_cases h:m.testBit k=true
 ·rw[if_pos h,List.filter_cons_of_pos h];rfl
 ·rw[if_neg h,List.filter_cons_of_neg (by simpa using h)];simp
theorem E4c{m k:Nat}{c:Int}:c∈E8b m k↔∃i:Nat,c=i∧i<k∧m.testBit i=true:=by
 unfold E8b;simp only[List.mem_map,List.mem_filter,List.mem_range];constructor
 ·rintro⟨i,⟨h1,h2⟩,rfl⟩;exact⟨i,Z,h1,h2⟩
 ·rintro⟨i,rfl,h1,h2⟩;exact⟨i,⟨h1,h2⟩,Z⟩
theorem W7c(m k:Nat):(E8b m k).Pairwise (·<·):=by
 unfold E8b;rw[List.pairwise_map];exact((List.pairwise_lt_range (n:=k)).sublist List.filter_sublist).imp fun h=>Int.ofNat_lt.2 h
theorem R1b(m k:Nat):(E8b m k).length≤k:=by
 unfold E8b;rw[List.length_map];have:=List.length_filter_le m.testBit (List.range k);simpa using this
theorem H8a(p:o0a)(M:List Nat)(w0:World)(cs:List Value)(hP:R0a M w0 p cs)(hM:∀g∈M,g<w0.heap.size)(hN:T8a p):
 E0a prog 20 #[.agg cs.toArray] w0 fun v w'=>(∃b,v=.bool b∧(b=true→o1a p))∧Below w0.heap.size w0 w':=by
 obtain⟨_,_,_,_,_,_,_,_,_,_,_,_,rfl,-⟩:=hP.open_;have S:=St.refl w0;refine a0a func20 Z ntmps20 Z ?_;refine wO0 Z U (p0a S Z ?_);intro g1 w1 S1 X1 G1;refine lO S1.k [.w 0] Z ⟨⟨Z,Z⟩,U⟩ (j0a S1 Z5c Z Z (F8b p M _ _ (hP.keep (S1.keep0 M)) (fun g hg=>Nat.lt_of_lt_of_le (hM g hg) S1.size) hN) ?_);rintro v8 w8 ⟨_,_,_,rfl,hv⟩ S8 X8;refine lB0 Z U (fun a0=>?_) fun a0=>?_
 ·exact lT Z U Z ⟨⟨_,Z,fun _=>hv a0⟩,S8.fin⟩
 exact lT Z U Z ⟨⟨_,Z,fun h=>by cases h⟩,S8.fin⟩
theorem H1c(p:o0a)(M:List Nat)(w0:World)(cs:List Value)(hP:R0a M w0 p cs)(hM:∀g∈M,g<w0.heap.size)(hN:T8a p):
 E0a prog 25 #[.agg cs.toArray] w0 fun v w'=>(∃b,v=.bool b∧(b=true→o1a p))∧Below w0.heap.size w0 w':=by
 obtain⟨_,_,_,_,_,_,_,_,_,_,_,_,rfl,-⟩:=hP.open_;have S:=St.refl w0;refine a0a func25 Z ntmps25 Z ?_;refine wO0 Z U (p0a S Z ?_);intro g1 w1 S1 X1 G1;refine lO S1.k [.w 0] Z ⟨⟨Z,Z⟩,U⟩ (t6a S1 d1d Z Z (j4c p M _ _ (hP.keep (S1.keep0 M))) (fun h4 w4 S4 X4=>?_) (fun w4 S4 X4=>?_))
 ·refine lO S4.k [.w 0] Z ⟨⟨Z,Z⟩,U⟩ (t6a S4 Q7b Z Z (H8a p M _ _ (hP.keep (S4.keep0 M)) (fun g hg=>Nat.lt_of_lt_of_le (hM g hg) S4.size) hN) (fun h7 w7 S7 X7=>?_) (fun w7 S7 X7=>?_))
  ·exact lT Z U Z ⟨⟨_,Z,fun _=>h7⟩,S7.fin⟩
  exact lT Z U Z ⟨⟨_,Z,fun h=>by cases h⟩,S7.fin⟩
 exact lT Z U Z ⟨⟨_,Z,fun h=>by cases h⟩,S4.fin⟩
theorem z1b(p:o0a)(a0:Nat)(p0:a0<2 ^ 32)(M:List Nat)(w0:World)(cs:List Value)(hP:R0a M w0 p cs)(hn:p.cells.length≤32):
 E0a prog 30 #[.agg cs.toArray,.int .u32 a0] w0 fun v w'=>r5a w0 w' v (E8b a0 p.cells.length)∧Below w0.heap.size w0 w':=by
 obtain⟨Ac,nc,cc,Am,nm,cm,Al,nl,cl,At,nt,ct,rfl,_⟩:=hP.open_;have S:=(St.refl w0).nilEnt 3;refine a0a func30 Z ntmps30 Z ?_;refine wO0 Z U (p0a S Z ?_);intro g2 w2 S2 X2 G2;refine lC0 Z U (wL (fun μk D ε w=>D=[]∧∃k:Nat,∃G:Option Nat,∃d0:List Value,∃v:Value,(k+μk=(p.cells.length))∧(Q1a (fun _ _=>M2c) 1 [] w0 G d0 v (E8b a0 k))∧St [] w0 w [(some g2,27,[.slice Ac nc cc,.slice Am nm cm,.slice Al nl cl,.slice At nt ct]),(G,3,d0)]∧Sl ε [(1,.int .u32 a0),(2,.pointer (some ⟨g2,0,none⟩)),(5,v),(6,.int .i64 k)]) (μ:=(p.cells.length)) ⟨Z,0,none,[],.slice none 0 0,by omega,Q1a.nil,S2,Z⟩ ?_);rintro μk D ε w ⟨rfl,k,G,d0,v,_,b0,S,eZ⟩;refine wK eZ (wB S.k [.o 0] Z ⟨Z,U⟩ (fun n0=>?_) fun n0=>?_)
 ·refine lB0 Z U (fun o0=>?_) fun o0=>?_
  ·refine lO0 Z U (g2b Tryz.underlying3 Tryz.underlying137 Z Z ?_);rw[C4c (by omega)];refine C9c Z Z (by omega) Z ?_;have g0:a0 >>> k<2 ^ 32:=by rw[Nat.shiftRight_eq_div_pow];exact Nat.lt_of_le_of_lt (Nat.div_le_self _ _) p0
   refine w8c (m:=1) Z Z g0 (by omega) Z ?_;refine g3c Z Z Z (fun e0=>?_) fun e0=>?_
   ·refine lOn 4 S.k [] Z U (I0a Z ?_);refine lO0 Z U (k0a S Y0a (vs:=[.int .i64 _]) (cs:=[_]) Z Z Z Z Z Z ?_);intro v0 y0 i0 t0 r0;refine u1a b5a (k:=2) (M2:=[]) (e1:=(k:Int)) i0 Y0a Z b0 Z Z (i0.cells 0 Z) ⟨Z,by unfold i64;omega⟩ (by have:=R1b a0 k;omega) Z ?_;intro x0 s0 m0 z0 j0 c0 u0 q0;refine C0a Z ?_;refine lP0 Z ⟨by omega,U⟩ ⟨μk-1,by omega,Z,(k+1),(_),(_),(_),(by omega),?_,j0.tail,Z⟩;rw[i4b];rw[if_pos ((C7a a0 k).1 e0)];exact c0
   refine lP0 Z ⟨by omega,U⟩ ⟨μk-1,by omega,Z,(k+1),(_),(_),(_),(by omega),?_,S,Z⟩;rw[i4b];rw[if_neg fun h=>e0 ((C7a a0 k).2 h)];exact b0
  refine lOn 8 S.k [] Z U (I0a Z ?_);refine C0a Z ?_;refine lR0 Z U (s0a Z ?_)
  first
   | (obtain rfl:k=p.cells.length:=by omega
      exact⟨fun M' f0=>Q1a.rd b5a (M:=M') b0 S (k:=1) Z (fun g hg hh=>by subst hg;have z:=S.new 1 Z;have z2:=f0 g hh;simp at z;omega) (by have:=R1b a0 p.cells.length;omega),S.fin⟩)
 refine lOn 11 S.k [] Z U (I0a Z ?_);refine C0a Z ?_;refine lR0 Z U (s0a Z ?_)
 first
  | (obtain rfl:k=p.cells.length:=by omega
     exact⟨fun M' f0=>Q1a.rd b5a (M:=M') b0 S (k:=1) Z (fun g hg hh=>by subst hg;have z:=S.new 1 Z;have z2:=f0 g hh;simp at z;omega) (by have:=R1b a0 p.cells.length;omega),S.fin⟩)
def moreW(p:o0a)(t:Nat)(l:List Int)(k:Nat):Int:=b2a (((List.range k).filter fun(c:Nat)=>!decide ((c:Int)∈l)&&(decide ((c:Int)∈(onE p t).sup 3)||decide ((c:Int)∈(onE p t).sup 2))).map fun(c:Nat)=>wAt p.cells (c:Int))
theorem R4a(p:o0a)(t:Nat)(l:List Int)(k:Nat):moreW p t l (k+1)=if(k:Int)∉l∧((k:Int)∈(onE p t).sup 3∨(k:Int)∈(onE p t).sup 2) then moreW p t l k+wAt p.cells k else moreW p t l k:=by
 unfold moreW;rw[List.range_succ,List.filter_append,List.map_append,c5a];by_cases h:(k:Int)∉l∧((k:Int)∈(onE p t).sup 3∨(k:Int)∈(onE p t).sup 2)
 ·rw[if_pos h,List.filter_cons_of_pos (by simpa using h)];simp[b2a]
 ·rw[if_neg h,List.filter_cons_of_neg (by simpa using h)];simp[b2a]
theorem w7a{p:o0a}(hp:o1a p)(t:Nat)(l:List Int):∀k,k≤p.cells.length→0≤moreW p t l k∧moreW p t l k≤8*k
 | 0,_=>by simp[moreW,b2a]
 | k+1,h=>by
   have ih:=w7a hp t l k (by omega);have hw:=r2c (p:=p.cells) (c:=(k:Int)) (by omega) fun c hc=>(hp.cells c hc).w;rw[R4a]
   split<;>omega
def K9b(p:o0a)(t:Nat)(l:List Int):Prop:=onE p t≠zE∧b2a (wdL p.cells l)+moreW p t l p.cells.length≤6
theorem b1b(p:o0a)(t:Nat)(ht:t<p.threads.length)(l:List Int)(hr:T1a l)(hlc:∀c∈l,0≤c∧c<p.cells.length)(M:List Nat)(w0:World)(cs:List Value)(vl:Value)(hI:InP p M w0 cs)(hL:RdI M w0 vl l):
 E0a prog 31 #[.agg cs.toArray,.int .i64 t,vl] w0 fun v w'=>(∃b,v=.bool b∧(b=true→K9b p t l))∧Below w0.heap.size w0 w':=by
 obtain⟨Ac,nc,cc,Am,nm,cm,Al,nl,cl,At,nt,ct,rfl,hC,_⟩:=hI.rd.open_;obtain⟨Ar,nr,cr,rfl⟩:=hL.form;obtain⟨_,-,_⟩:=hL.len;have hM:=hI.lt;have hp:=hI.ok;have q0:∀c∈p.cells,1≤c.w∧c.w≤8:=fun c hc=>(hp.cells c hc).w;have j0:=hp.ncells;have ho:=r6a hr hlc j0 q0;have v1:=ho.clen;have w1:=k3a (l:=wdL p.cells l) ho.wid;have x1:(wdL p.cells l).length=l.length:=by simp
 have S:=St.refl w0;refine a0a func31 Z ntmps31 Z ?_;refine wO0 Z U (p0a S Z ?_);intro g3 w3 S3 X3 G3;refine lB0 Z U (fun c1=>?_) fun c1=>?_
 ·exact lT Z U Z ⟨⟨_,Z,fun h=>by cases h⟩,S3.fin⟩
 refine lB S3.k [.o 0] Z ⟨Z,U⟩ (fun d1=>?_) fun d1=>?_
 ·exact lT Z U Z ⟨⟨_,Z,fun h=>by cases h⟩,S3.fin⟩
 refine lB0 Z U (fun f1=>?_) fun f1=>?_
 ·exact lT Z U Z ⟨⟨_,Z,fun h=>by cases h⟩,S3.fin⟩
 refine lO S3.k [.w 0] Z ⟨⟨Z,Z⟩,U⟩ (j0a S3 k2d Z Z (e9c p t ht M _ _ (hI.keep (S3.keep0 M))) ?_);rintro y1 o1 ⟨_,rfl,K0⟩ T0 u1;obtain⟨R0,j1,n1,rfl,_⟩:=K0.cells;have KE:=u0a.refl M o1;refine h0a T0 R1a Z Z ?_;intro g7 w7 S7 X7 G7;have r0:=Nat.le_trans KE.size G7;replace KE:=KE.trans (X7.of_nil);refine c0a (kk:=0) (vs:=[_,_,_,_]) S7 i1a Z Z Z Z Z Z Z ?_;intro p1 a0 u0;dsimp only[f0a,List.set] at a0;replace KE:=KE.fresh2 u0 (by exact .inl r0);refine lB a0.k [.o 0] Z ⟨Z,U⟩ (fun L0=>?_) fun L0=>?_
 ·exact lT Z U Z ⟨⟨_,Z,fun h=>by cases h⟩,a0.fin⟩
 refine lO a0.k [.w 0] Z ⟨⟨Z,Z⟩,U⟩ ?_;refine g0a a0 N4b Z Z (f3b (onE p t) M _ _ 61 (RdE.keep KE _ _ K0) (by unfold i64;omega)) ?_;intro B1 e0 W0;replace KE:=KE.trans (W0.of_nil);refine lB0 Z U (fun g1=>?_) fun g1=>?_
 ·exact lT Z U Z ⟨⟨_,Z,fun h=>by cases h⟩,e0.fin⟩
 refine lO e0.k [.o 1] Z ⟨Z,U⟩ (j0a e0 h1d Z Z (W5b p.cells l M _ _ _ (hC.keep (e0.keep0 M)) (hL.keep (e0.keep0 M)) hr hlc j0 q0) ?_);rintro z1 P0 ⟨_,rfl,f0⟩ s0 X0;replace KE:=KE.trans (X0.of_nil);obtain⟨S0,m1,a1,rfl⟩:=f0.form;have KW:=u0a.refl [] P0;have D0:RdI [] P0 (.slice S0 m1 a1) (wdL p.cells l):=f0 [] (by simp);refine lO s0.k [.w 0] Z ⟨⟨Z,Z⟩,U⟩ (j0a s0 o0c Z Z (I5a (onE p t) M _ _ (RdE.keep KE _ _ K0) (fun g hg=>Nat.lt_of_lt_of_le (hM g hg) s0.size)) ?_);rintro A1 Q0 ⟨_,_,rfl,g0,i0⟩ U0 Y0;replace KW:=KW.trans Y0;obtain⟨A4,n4,c4,rfl⟩:=g0.form;obtain⟨A5,n5,c5,rfl⟩:=i0.form;have KS:=u0a.refl M Q0;refine lO0 Z U (g0a U0 m0c Z Z (m2b [] _ _ (wdL p.cells l) (D0.keep KW) ho.wid (by omega)) ?_);intro C1 V0 Z0;replace KS:=KS.trans (Z0.of_nil);refine lC0 Z U (wL (fun μk D ε w=>D=[]∧∃k:Nat,∃n:Int,(k+μk=(p.cells.length))∧(n=b2a (wdL p.cells l)+moreW p t l k)∧(u0a M Q0 w)∧St [] w0 w [(some g7,37,[.int .i64 (onE p t).op,.int .i64 (onE p t).w,.int .i64 (onE p t).n,.slice R0 j1 n1]),(some g3,27,[.slice Ac nc cc,.slice Am nm cm,.slice Al nl cl,.slice At nt ct])]∧Sl ε [(2,.slice Ar nr cr),(3,.pointer (some ⟨g3,0,none⟩)),(9,.bool true),(10,.slice A4 n4 c4),(11,.slice A5 n5 c5),(12,.int .i64 n),(13,.int .i64 k)]) (μ:=(p.cells.length)) ⟨Z,0,_,by omega,(by simp[moreW,b2a]),KS,V0,Z⟩ ?_);rintro μk D ε w ⟨rfl,k,n,_,O0,KS,S,eZ⟩;refine wK eZ (wB S.k [.o 1] Z ⟨Z,U⟩ (fun i1=>?_) fun i1=>?_)
 ·refine lO0 Z U (v0a S m7b Z Z (m9a M _ _ l k (hL.keep (S.keep0 M))) (fun p0 r1 t0 v0=>?_) (fun p0 r1 t0 v0=>?_))
  ·replace KS:=KS.trans (v0.of_nil);refine lP0 Z ⟨by omega,U⟩ ⟨μk-1,by omega,Z,(k+1),(_),(by omega),?_,(KS),t0,Z⟩;rw[R4a];have z:=of_decide_eq_true p0;rw[if_neg fun h=>h.1 z];exact O0
  replace KS:=KS.trans (v0.of_nil);refine lO0 Z U (v0a t0 m7b Z Z (m9a M _ _ ((onE p t).sup 3) k (g0.keep KS)) (fun A0 s1 n0 x0=>?_) (fun A0 s1 n0 x0=>?_))
  ·replace KS:=KS.trans (x0.of_nil);obtain⟨c,z0,J0,b1,m0,b0,C0,E0,c0,d0⟩:=RdS.get (hC) (k) (by omega);obtain⟨rfl,F0,G0,H0,I0⟩:=r2a.open_ d0;have q1:=w7a hp t l k (by omega);have q2:=H3d m0;have q3:=q0 c (d0a m0);refine lP (n0.k.a c0) [.o 1,.x z0 J0,.f 0 1] Z ⟨by omega,by omega,Z,⟨b0,by omega⟩,Z,U⟩ ?_;refine⟨μk-1,by omega,Z,(k+1),(_),(by omega),?_,(KS),n0,Z⟩;rw[R4a];have z:=of_decide_eq_false p0;have z2:=of_decide_eq_true A0;rw[if_pos ⟨z,.inl z2⟩,q2];omega
  replace KS:=KS.trans (x0.of_nil);refine lO0 Z U (v0a n0 m7b Z Z (m9a M _ _ ((onE p t).sup 2) k (i0.keep KS)) (fun B0 t1 o0 y0=>?_) (fun B0 t1 o0 y0=>?_))
  ·replace KS:=KS.trans (y0.of_nil);obtain⟨c,z0,J0,b1,m0,b0,C0,E0,c0,d0⟩:=RdS.get (hC) (k) (by omega);obtain⟨rfl,F0,G0,H0,I0⟩:=r2a.open_ d0;have q1:=w7a hp t l k (by omega);have q2:=H3d m0;have q3:=q0 c (d0a m0);refine lP (o0.k.a c0) [.o 1,.x z0 J0,.f 0 1] Z ⟨by omega,by omega,Z,⟨b0,by omega⟩,Z,U⟩ ?_;refine⟨μk-1,by omega,Z,(k+1),(_),(by omega),?_,(KS),o0,Z⟩;rw[R4a];have z:=of_decide_eq_false p0;have z2:=of_decide_eq_true B0;rw[if_pos ⟨z,.inr z2⟩,q2];omega
  replace KS:=KS.trans (y0.of_nil);refine lP0 Z ⟨by omega,U⟩ ⟨μk-1,by omega,Z,(k+1),(_),(by omega),?_,(KS),o0,Z⟩;rw[R4a];have z2:=of_decide_eq_false A0;have z3:=of_decide_eq_false B0;rw[if_neg fun h=>h.2.elim z2 z3];exact O0
 refine lB0 Z U (fun N0=>?_) fun N0=>?_
 ·refine lR0 Z U (s0a Z ?_);have z:n≤6:=N0;obtain rfl:k=p.cells.length:=by omega
  exact⟨⟨_,Z,fun _=>⟨fun h=>L0 (by rw[h];rfl),by omega⟩⟩,S.fin⟩
 exact lT Z U Z ⟨⟨_,Z,fun h=>by cases h⟩,S.fin⟩
theorem u2b{p:o0a}{e:E}(hv:e.valid p.cells true=true)(hw:e.w=1)(o n:List Int):(e.evl o n=1↔e.val o n=1)∧(e.evl o n≠0↔e.val o n=1):=by
 have h1:=(x1a hv).1;have he:e.evl o n=e.val o n:=by unfold E.evl;rw[if_pos h1]
 have hr:=U4b (x1a hv).2.1 o n;rw[hw] at hr;have h2:A3a (1:Int).toNat=2:=by decide
 rw[he];constructor<;>omega
theorem D2c{op unit:Int}(hu:unit=0∨unit=1){l:List E}(h:F2a op unit l≠zE):(F2a op unit l).w=1:=by
 rcases h5a (op:=op) hu l with h1|h1
 ·exact absurd h1 h
 ·exact h1.2
def M2b(p:List a1a)(P:Nat→Bool)(n:Nat):Int:=b2a (((List.range n).filter P).map fun(c:Nat)=>wAt p (c:Int))
theorem J7a(p:List a1a)(P:Nat→Bool)(n:Nat):M2b p P (n+1)=M2b p P n+if P n=true then wAt p n else 0:=by
 unfold M2b;rw[List.range_succ,List.filter_append,List.map_append,c5a];by_cases h:P n=true
 ·rw[if_pos h,List.filter_cons_of_pos h];simp[b2a]
 ·rw[if_neg h,List.filter_cons_of_neg h];simp[b2a]
theorem W9a{p:List a1a}{P Q R:Nat→Bool}:∀n,(∀k,k<n→(P k=true↔Q k=true∨R k=true)∧¬(Q k=true∧R k=true))→M2b p P n=M2b p Q n+M2b p R n
 | 0,_=>by simp[M2b,b2a]
 | n+1,h=>by
   rw[J7a,J7a,J7a,W9a n fun k hk=>h k (by omega)];have h1:=h n (by omega);by_cases hq:Q n=true
   ·rw[if_pos hq,if_pos (h1.1.2 (.inl hq)),if_neg fun hr=>h1.2 ⟨hq,hr⟩];omega
   ·by_cases hr:R n=true
    ·rw[if_neg hq,if_pos (h1.1.2 (.inr hr)),if_pos hr];omega
    ·rw[if_neg hq,if_neg fun hP=>(h1.1.1 hP).elim hq hr,if_neg hr];omega
theorem d0c{p:List a1a}{C:List Int}{n:Nat}(h:n3a C n):b2a (wdL p C)=M2b p (fun k=>decide ((k:Int)∈C)) n:=by
 have e:C=((List.range n).filter fun(k:Nat)=>decide ((k:Int)∈C)).map Int.ofNat:=by
  refine U4a _ _ h.1 ?_ fun x=>?_
  ·rw[List.pairwise_map];exact((List.pairwise_lt_range (n:=n)).sublist List.filter_sublist).imp fun h=>Int.ofNat_lt.2 h
  ·simp only[List.mem_map,List.mem_filter,List.mem_range,decide_eq_true_eq];constructor
   ·intro hx;have h1:=h.2 x hx;obtain⟨k,rfl⟩:=Int.eq_ofNat_of_zero_le h1.1;exact⟨k,⟨by omega,hx⟩,Z⟩
   ·rintro⟨k,⟨-,hk⟩,rfl⟩;exact hk
 unfold M2b
 conv=>lhs;rw[e]
 show b2a ((_:List Int).map (wAt p))=_
 rw[List.map_map];rfl
theorem L5c{p:o0a}{e:E}(hv:e.valid p.cells true=true){op:Int}(a0:op=2∨op=3){x:Int}(hx:x∈e.sup op):0≤x∧x<p.cells.length:=by
 obtain⟨h1,hg,b0⟩:=x1a hv;have:=h4a a0 e 40 hg b0 x ((j8a h1 a0 x).1 hx).2.2;omega
section
variable {p:o0a} (hp:o1a p) {t:Nat} {l:List Int} (hr:T1a l) (hlc:∀c∈l,0≤c∧c<p.cells.length)
theorem c0b{x:Int}:x∈allC p t l↔x∈l∨x∈(onE p t).sup 3∨x∈(onE p t).sup 2:=by
 have h:=(o4a (l++(onE p t).sup 3) ((onE p t).sup 2)).2 x;rw[List.mem_append,or_assoc] at h;exact h
include hp hlc in
theorem u3b(hon:onE p t≠zE):n3a (allC p t l) p.cells.length:=by
 have h:=(o4a (l++(onE p t).sup 3) ((onE p t).sup 2)).1;refine⟨h,fun c hc=>?_⟩;have hv:=i5a hp hon;rcases c0b.1 hc with h1|h1|h1
 ·exact hlc c h1
 ·exact L5c hv (.inr rfl) h1
 ·exact L5c hv (.inl rfl) h1
include hp hr hlc in
theorem d7c(hon:onE p t≠zE):b2a (wdL p.cells (allC p t l))=b2a (wdL p.cells l)+moreW p t l p.cells.length:=by
 rw[d0c (u3b hp hlc hon),d0c (C:=l) ⟨hr,hlc⟩];refine W9a _ fun k _=>?_;simp only[decide_eq_true_eq,Bool.and_eq_true,Bool.or_eq_true,Bool.not_eq_true',decide_eq_false_iff_not];rw[c0b];constructor
 ·constructor
  ·rintro(h|h)
   ·exact .inl h
   ·by_cases hl:(k:Int)∈l
    ·exact .inl hl
    ·exact .inr ⟨hl,h⟩
  ·rintro(h|h)
   ·exact .inl h
   ·exact .inr h.2
 ·rintro⟨h1,h2⟩;exact h2.1 h1
include hp in
theorem H0c{C:List Int}{n:Nat}(hn:n≤p.cells.length)(h:n3a C n):∀c∈C,1≤wAt p.cells c∧wAt p.cells c≤8:=fun c hc=>f7a hp (by have:=h.2 c hc;omega)
include hp in
theorem u3d{C:List Int}{n:Nat}(hn:n≤p.cells.length)(h:n3a C n):∀x∈wdL p.cells C,1≤x∧x≤8:=fun x hx=>by
 obtain⟨c,hc,rfl⟩:=List.mem_map.1 hx;exact H0c hp hn h c hc
def i9b(p:o0a)(l:List Int):Nat:=(b2a (wdL p.cells l)).toNat
include hp hr hlc in
theorem x1b(h:K9b p t l):b2a (wdL p.cells l)=i9b p l∧i9b p l≤6∧b2a (wdL p.cells (allC p t l))=i9b p (allC p t l)∧i9b p (allC p t l)≤6:=by
 have h1:=k3a (u3d hp (Nat.le_refl _) (C:=l) ⟨hr,hlc⟩);have h2:=k3a (u3d hp (Nat.le_refl _) (u3b (t:=t) hp hlc h.1));have h3:=d7c hp hr hlc h.1;have h4:=h.2;have h5:=w7a hp t l p.cells.length (Nat.le_refl _);unfold i9b;omega
include hp hlc in
theorem o3c(hon:onE p t≠zE){o n:List Int}(ho:z9b o)(hn:z9b n)(hv:(onE p t).evl o n=1):m6b p t l (nuZ l (wdL p.cells l) o) (nuZ l (wdL p.cells l) n):=by
 have hA:=u3b (l:=l) hp hlc hon;have hn32:=hp.ncells;have hA2:n3a (allC p t l) k2a.length:=⟨hA.1,fun c hc=>by have:=hA.2 c hc;rw[k4a];omega⟩;have hw:=u3d hp (Nat.le_refl _) hA;have hw2:=H0c hp (Nat.le_refl _) hA;have hov:=i5a hp hon;have hp1:∀m,z9b (stZ (allC p t l) (wdL p.cells (allC p t l)) (nuZ (allC p t l) (wdL p.cells (allC p t l)) m) k2a):=fun m=>c6b z3a hw2;have hs:∀c∈l,c∈allC p t l:=fun c hc=>c0b.2 (.inl hc);refine⟨nuZ (allC p t l) (wdL p.cells (allC p t l)) o,nuZ (allC p t l) (wdL p.cells (allC p t l)) n,⟨H3b _ _ _ hw,H3b _ _ _ hw,?_⟩,(e0c hA2 hs).symm,(e0c hA2 hs).symm⟩;rw[(u2b hov (D2c (.inr rfl) hon) _ _).1] at hv ⊢;rw[←hv];have hwf:=(x1a hov).1;have h32:∀(op:Int),op=2∨op=3→∀x,(onE p t).occ op x=true→x∈(onE p t).sup op:=fun op hop x hx=>by
  have:=h4a hop (onE p t) 40 (x1a hov).2.1 (x1a hov).2.2 x hx;exact(j8a hwf hop x).2 ⟨this.1,this.2.1,hx⟩
 exact v6c hov (hp1 o) (hp1 n) ho hn (fun x hx=>A5b hA2 (c0b.2 (.inr (.inl (h32 3 (.inr rfl) x hx))))) fun x hx=>A5b hA2 (c0b.2 (.inr (.inr (h32 2 (.inl rfl) x hx))))
end
theorem H6b(p:o0a)(t:Nat)(ht:t<p.threads.length)(l:List Int)(hr:T1a l)(hlc:∀c∈l,0≤c∧c<p.cells.length)(hl:K9b p t l)(M:List Nat)(w0:World)(cs:List Value)(vl:Value)(hI:InP p M w0 cs)(hL:RdI M w0 vl l):
 E0a prog 22 #[.agg cs.toArray,.int .i64 t,vl] w0 fun v w'=>(∃u,v=.tuple #[u,.int .i64 0]∧U7b w0 w' u l (wdL p.cells l) (m6b p t l) (2 ^ i9b p l))∧Below w0.heap.size w0 w':=by
 obtain⟨h1,h2,h3,h4⟩:=x1b hI.ok hr hlc hl;exact o9a (ht:=ht) (hb6:=h2) p t l hr hlc M w0 cs vl hI hL hl.1 (i5a hI.ok hl.1) _ h1 _ h3 h4 (u3b hI.ok hlc hl.1).2
section
variable {p:o0a} (hp:o1a p) {t:Nat} {l:List Int} (hr:T1a l) (hlc:∀c∈l,0≤c∧c<p.cells.length) (hon:onE p t≠zE)
structure T2d (p:o0a) (t:Nat) (l:List Int) (x y:Nat) (o n:List Int):Prop where
 po:z9b o
 pn:z9b n
 val:(onE p t).val o n=1
 evl:(onE p t).evl o n=1
 x:x=nuZ l (wdL p.cells l) o
 y:y=nuZ l (wdL p.cells l) n
include hp hlc hon in
theorem N1c{x y:Nat}(h:m6b p t l x y):∃o n,T2d p t l x y o n:=by
 obtain⟨_,_,⟨-,-,hv⟩,rfl,rfl⟩:=h;have hw2:=H0c hp (Nat.le_refl _) (u3b (l:=l) hp hlc hon);refine⟨_,_,c6b z3a hw2,c6b z3a hw2,?_,hv,rfl,rfl⟩;exact(u2b (i5a hp hon) (D2c (.inr rfl) hon) _ _).1.1 hv
end
def C3d:E:=⟨1,1,1,[]⟩
def g0d(p:o0a)(m:j1a):j1a:=⟨m.name,m.owner,m.rely,C3d,ofL p (-1)⟩
def X4b(p:o0a)(m:Nat)(md:j1a):o0a:=⟨p.cells,p.modules.set m (g0d p md),p.locks,p.threads⟩
theorem S8c{p:o0a}{m:Nat}{md:j1a}(hm:m<p.modules.length)(k:Nat):J3c (X4b p m md) k=if k=m then g0d p md else J3c p k:=by
 show(p.modules.set m (g0d p md)).getD k _=_
 rw[List.getD_eq_getElem?_getD];by_cases h:k=m
 ·subst h;rw[List.getElem?_set_self hm,if_pos rfl];rfl
 ·rw[List.getElem?_set_ne (fun hh=>h hh.symm),if_neg h];rfl
theorem e7c{p:o0a}{m:Nat}{md:j1a}(t:Nat):s1a (X4b p m md) t=s1a p t:=by
 show((List.range (p.modules.set m (g0d p md)).length).filter (F2d p t)).map Int.ofNat=_
 rw[List.length_set];rfl
theorem b0d{p:o0a}{m:Nat}{md:j1a}(hp:o1a p)(hq:o1a (X4b p m md))(hm:m<p.modules.length){t:Nat}{l:List Int}(hlc:∀c∈l,0≤c∧c<p.cells.length)(hon:onE p t≠zE)(a0:onE (X4b p m md) t≠zE){x y:Nat}(h:m6b p t l x y):m6b (X4b p m md) t l x y:=by
 obtain⟨o,n,hz⟩:=N1c hp hlc hon h;rw[hz.x,hz.y];obtain⟨⟨k,hk,hv⟩,h2⟩:=(b6c hp hon o n).1 hz.val;obtain⟨hg,hf⟩:=(i7b hp ((p2b hon).2 k hk) o n).1 hv;have b0:k∈s1a (X4b p m md) t:=by rw[e7c];exact hk
 have key:(onE (X4b p m md) t).val o n=1:=by
  refine(b6c hq a0 o n).2 ⟨⟨k,b0,(i7b hq ((p2b a0).2 k b0) o n).2 ?_⟩,h2⟩;rw[S8c hm];by_cases he:k.toNat=m
  ·rw[if_pos he];exact⟨Q5a _ _ _ _,fun c h0 h1 h3 h4=>absurd (i4a.2 ⟨h0,h1,h3⟩) h4⟩
  ·rw[if_neg he];exact⟨hg,hf⟩
 exact o3c hq hlc a0 hz.po hz.pn ((u2b (i5a hq a0) (D2c (.inr Z) a0) _ _).1.2 key)
def O9c(n:Nat)(f:Nat→Nat→Bool):List (List Bool):=(List.range n).map fun x=>(List.range n).map (f x)
theorem k9a{n:Nat}{f:Nat→Nat→Bool}{x:Nat}(h:x<n:=by omega):(O9c n f)[x]?=some ((List.range n).map (f x)):=by
 unfold O9c;rw[List.getElem?_map,List.getElem?_range h];rfl
theorem W2b{n:Nat}{g:Nat→Bool}{y:Nat}(h:y<n:=by omega):((List.range n).map g)[y]?=some (g y):=by
 rw[List.getElem?_map,List.getElem?_range h];rfl
theorem St.pushR{M:List Nat}{w0 w:World}{a b:Ent}{a0:List Ent}(S:St M w0 w (a::b::a0)):St M w0 w ([b]++(a0++[a])) :=
 S.perm ((List.Perm.swap b a a0).trans ((List.perm_append_comm (l₁:=[a]) (l₂:=a0)).cons b))
def R0c(n:Nat)(g:Nat→Bool):List Value:=bV ((List.range n).map g)
theorem G4c(n:Nat)(g:Nat→Bool):(R0c n g).length=n:=by simp[R0c,bV]
theorem B2c(n:Nat):List.replicate n (Value.bool false)=R0c n fun _=>false:=by
 unfold R0c bV;rw[List.map_map];refine List.ext_getElem? fun i=>?_;rw[List.getElem?_map,List.getElem?_replicate];by_cases h:i<n
 ·rw[if_pos h,List.getElem?_range h];rfl
 ·rw[if_neg h,List.getElem?_eq_none (by simp;omega)];rfl
theorem b3c{n y:Nat}{g:Nat→Bool}:(R0c n g).set y (.bool true)=R0c n fun z=>g z||decide (z=y):=by
 unfold R0c bV;refine List.ext_getElem? fun i=>?_;rw[List.getElem?_set];by_cases h:i<n
 ·by_cases hy:y=i
  ·subst hy;simp[h]
  ·simp[h,hy];cases g i<;>simp;exact fun hh=>hy hh.symm
 ·simp[h];omega
def e9b(tB n:Nat)(rows:List Ent)(vs:List Value)(f:Nat→Nat→Bool)(k:Nat):Prop:=rows.length=k∧vs.length=n∧∀x,x<k→∃g,rows[x]?=some (some g,tB,R0c n (f x))∧vs[x]?=some (.slice (some ⟨g,0,none⟩) n n)
theorem e9b.nil{tB n:Nat}{z:Value}:e9b tB n [] (List.replicate n z) (fun _ _=>false) 0:=⟨Z,by simp,fun x h=>absurd h (by omega)⟩
theorem e9b.push{tB n k g:Nat}{a0:List Ent}{vs:List Value}(h:e9b tB n a0 vs (fun _ _=>false) k)(hk:k<n):e9b tB n (a0++[(some g,tB,List.replicate n (.bool false))]) (vs.set k (.slice (some ⟨g,0,none⟩) n n)) (fun _ _=>false) (k+1):=by
 obtain⟨h1,h2,h3⟩:=h;refine⟨by simp[h1],by simp[h2],fun x hx=>?_⟩;by_cases he:x=k
 ·subst he;exact⟨g,by rw[List.getElem?_append_right (by omega),h1];simp[B2c],by rw[List.getElem?_set_self (by omega)]⟩
 ·obtain⟨g',h4,h5⟩:=h3 x (by omega);exact⟨g',by rw[List.getElem?_append_left (by omega)];exact h4,by rw[List.getElem?_set_ne (fun hh=>he hh.symm)];exact h5⟩
theorem e9b.put{tB n k x y g:Nat}{a0:List Ent}{vs:List Value}{f f':Nat→Nat→Bool}(h:e9b tB n a0 vs f k)(hx:x<k)(hr:vs[x]?=some (.slice (some ⟨g,0,none⟩) n n))(hf:∀a b,f' a b=(f a b||decide (a=x∧b=y))):e9b tB n (a0.set x (some g,tB,(R0c n (f x)).set y (.bool true))) vs f' k:=by
 obtain⟨h1,h2,h3⟩:=h;refine⟨by simp[h1],h2,fun a ha=>?_⟩;by_cases he:a=x
 ·subst he;refine⟨g,?_,hr⟩;rw[List.getElem?_set_self (by omega),b3c];rw[show f' a=fun z=>f a z||decide (z=y) from funext fun z=>by rw[hf a z];simp]
 ·obtain⟨g',h4,h5⟩:=h3 a ha;refine⟨g',?_,h5⟩;rw[List.getElem?_set_ne (fun hh=>he hh.symm),h4,show f' a=f a from funext fun z=>by rw[hf a z];simp[he]]
def J6b(tS tB:Nat)(w0 w:World)(v:Value)(n:Nat)(f:Nat→Nat→Bool):Prop:=∃g vs rows,v=.slice (some ⟨g,0,none⟩) n n∧St [] w0 w ([(some g,tS,vs)]++rows)∧e9b tB n rows vs f n
abbrev v3d(M:List Nat)(w:World)(v:Value)(n:Nat)(f:Nat→Nat→Bool):Prop:=RdS M w 1 (fun cs r=>∃u,cs=[u]∧RdB M w u r) v (O9c n f)
theorem J6b.rd{tS tB:Nat}{w0 w:World}{v:Value}{n:Nat}{f:Nat→Nat→Bool}(h:J6b tS tB w0 w v n f)(hn:n≤1000){M:List Nat}(hM:∀g∈M,g<w0.heap.size):v3d M w v n f:=by
 obtain⟨g,_,_,rfl,S,_,_,h3⟩:=h;have hl:(O9c n f).length=n:=by simp[O9c]
 have:=S.rd1 (k:=0) (M:=M) (R:=fun cs r=>∃u,cs=[u]∧RdB M w u r) Z (fun hm=>by have h4:=hM _ hm;have h5:=S.new 0 Z;simp at h5;omega) (n:=n) (l:=O9c n f) hl.symm (by omega) fun i x hi=>by
  have a0:=(List.getElem?_eq_some_iff.1 hi).1;rw[hl] at a0;rw[k9a (h:=a0)] at hi;cases hi;obtain⟨g',h4,h5⟩:=h3 i a0;refine⟨_,h5,_,Z,?_⟩;have hb:=S.blk (i+1) (t:=tB) (g:=g') (cs:=R0c n (f i)) (by rw[List.getElem?_append_right (by simp)];exact h4);have b0:=S.new (i+1) (t:=tB) (g:=g') (cs:=R0c n (f i)) (by rw[List.getElem?_append_right (by simp)];exact h4);have:=G1d (M:=M) hb (fun hm=>by have h4:=hM _ hm;simp at b0;omega) (by simp;omega);rw[List.length_map,List.length_range] at this;exact this
 exact this
theorem y8b(M:List Nat)(w0:World)(v:Value)(C W:List Int)(a0:Nat)(hW:RdI M w0 v W)(h:P9a C W)(hb:b2a W=a0)(hb6:a0≤6):
 E0a prog 77 #[v] w0 fun v w'=>J6b 86 4 w0 w' v (2 ^ a0) (fun _ _=>false)∧Below w0.heap.size w0 w':=by
 obtain⟨_,n,c,rfl⟩:=hW.form;have i0:2 ^ a0≤64:=by have:=Nat.pow_le_pow_right (n:=2) (by omega) hb6;omega
 obtain⟨nn,e0⟩:∃nn,nn=2 ^ a0:=⟨_,Z⟩;rw[←e0] at i0 ⊢;have S:=St.refl w0;refine a0a func77 Z ntmps77 Z ?_;refine wO0 Z U ?_;refine g0a S m0c Z Z ((m2b M _ _ W (hW.keep (S.keep0 M)) h.wid (by have:=h.clen;have:=h.len;omega)).mono (fun v w' h=>⟨h.1.trans (by rw[hb]),h.2⟩)) ?_;intro w7 S7 X7;refine g0a S7 I4b Z Z ((t9a a0 _).mono (fun v w' h=>(⟨h.1.trans (by rw[e0]),h.2⟩:v=Value.int .i64 ((nn:Nat):Int)∧Below _ _ w'))) ?_;intro w8 S8 X8;refine lO0 Z U (K8a (n:=nn) (c:=nn) S8 r9b Z Z Z Z ?_);intro c0 q0 f0 n0 j0;refine lC0 Z U (wL (fun μk D ε w=>D=[]∧∃k:Nat,∃vs:List Value,∃b0:List Ent,(k+μk=(nn))∧(e9b 4 nn b0 vs (fun _ _=>false) k)∧St [] w0 w ([(some c0,86,vs)]++b0)∧Sl ε [(3,.int .i64 nn),(4,.slice (some ⟨c0,0,none⟩) nn nn),(5,.int .i64 k)]) (μ:=(nn)) ⟨Z,0,_,[],by omega,e9b.nil,f0,Z⟩ ?_);rintro μk D ε w ⟨rfl,k,vs,b0,_,hT,S,eZ⟩;refine wK eZ (wB0 Z U (fun g0=>?_) fun g0=>?_)
 ·refine lO0 Z U (K8a (n:=nn) (c:=nn) S p6a Z Z Z Z ?_);intro g19 r0 d0 o0 m0;refine lO d0.k [.i] Z ⟨by omega,U⟩ ?_;have p0:=hT.2.1;refine c1a (hy:=Z) (kk:=1) d0 q3d Z Z Z (by omega) ?_;intro w6 S6 X6;rw[show 0+(k:Int).toNat*1=k by omega] at S6;refine lP0 Z ⟨by omega,U⟩ ⟨μk-1,by omega,Z,(k+1),(_),(_),(by omega),(hT.push (by omega)),S6.pushR,Z⟩
 refine lR0 Z U (s0a Z ?_);exact⟨⟨c0,vs,b0,Z,S,(show k=nn by omega)▸hT⟩,S.fin⟩
theorem h8b(M:List Nat)(w0:World)(v u i:Value)(C W:List Int)(l:List (Int×Int))(a0:Nat)(hv:∃A m c,v=.slice A m c)(hW:RdI M w0 u W)(hL:j9a M w0 i l)(h:P9a C W)(hb:b2a W=a0)(hb6:a0≤6)(hl:∀x∈l,0≤x.1∧x.1<(2 ^ a0:Nat)∧0≤x.2∧x.2<(2 ^ a0:Nat)):
 E0a prog 91 #[.agg #[v,u,i]] w0 fun v w'=>J6b 86 4 w0 w' v (2 ^ a0) (fun(x y:Nat)=>decide (((x:Int),(y:Int))∈l))∧Below w0.heap.size w0 w':=by
 obtain⟨A,n,c,rfl⟩:=hv;obtain⟨A',n',c',rfl⟩:=hW.form;obtain⟨Al,nl,cl,rfl⟩:=hL.form;obtain⟨_,-,_⟩:=hL.len;obtain⟨nn,t0⟩:∃nn,nn=2 ^ a0:=⟨_,Z⟩;have S:=St.refl w0;refine a0a func91 Z ntmps91 Z ?_;refine wO0 Z U (p0a S Z ?_);intro g1 w1 S1 X1 G1;refine lO S1.k [.o 0] Z ⟨Z,U⟩ (j0a S1 N1d Z Z (y8b M _ _ C W a0 (hW.keep (S1.keep0 M)) h hb hb6) ?_);rintro v7 w7 n0 S7 X7;obtain⟨g7,vs,d0,rfl,S2,i0⟩:=n0;have u0:=S1.joinR S2;rw[←t0] at i0 hl ⊢;have c0:(fun(_ _:Nat)=>false)=fun(x y:Nat)=>decide (((x:Int),(y:Int))∈l.take 0):=by funext x y;simp
 rw[c0] at i0;refine lC0 Z U (wL (fun μk D ε w=>D=[]∧∃k:Nat,∃b0:List Ent,(k+μk=(l.length))∧(e9b 4 nn b0 vs (fun(x y:Nat)=>decide (((x:Int),(y:Int))∈l.take k)) nn)∧St [] w0 w ([(some g7,86,vs),(some g1,41,[.slice A n c,.slice A' n' c',.slice Al nl cl])]++b0)∧Sl ε [(1,.pointer (some ⟨g1,0,none⟩)),(3,.slice (some ⟨g7,0,none⟩) nn nn),(4,.int .i64 k)]) (μ:=(l.length)) ⟨Z,0,d0,by omega,i0,u0,Z⟩ ?_);rintro μk D ε w ⟨rfl,k,b0,_,hT,S,eZ⟩;refine wK eZ (wO0 Z U ?_);refine B0a B5a Z (by exact S.cell 1 Z Z) Z ?_;refine lB0 Z U (fun D0=>?_) fun D0=>?_
 ·obtain⟨x,e0⟩:∃x,l[k]?=some x:=⟨l[k]'(by omega),List.getElem?_eq_getElem _⟩;have hx:=hl x (d0a e0);obtain⟨_,E0,s0⟩:=hT.2.2 x.1.toNat (by omega);have H0:=hT.2.1;refine lC0 Z U (y0a b0a [0,1,2,3,4,5,6,7,8,9,10,11,12,13,14,15] [] [16] Z (Cl _ _ _ _) (Cl.start S) ?_);refine qO0 Z U (i0a B5a Z (fun w1 hw=>by exact hw.1.cell 1 Z Z) Z ?_);obtain⟨_,x0,F0,z0,q0,f0,_,_,j0,o0⟩:=RdS.get (hL) (k) (by omega);obtain rfl:=Option.some.inj (e0.symm.trans q0);obtain⟨B0,_⟩:=o0;obtain rfl:z0=pc x:=B0;refine qO S.q [.x x0 F0] Z ⟨⟨f0,by omega⟩,U⟩ (r0a H1a Z Z Z ?_);refine i0a x0a Z (fun w1 hw=>by exact hw.1.old (j0 _ _ Z)) Z ?_;refine qO S.q [.i] Z ⟨by omega,U⟩ ?_;refine i0a W5c Z (fun w1 hw=>by exact hw.1.cell 0 Z (by rw[show 0+x.1.toNat*1=x.1.toNat by omega];exact s0)) Z ?_;refine qO0 Z U (i0a B5a Z (fun w1 hw=>by exact hw.1.cell 1 Z Z) Z ?_);obtain⟨_,y0,G0,A0,r0,g0,_,_,m0,p0⟩:=RdS.get (hL) (k) (by omega);obtain rfl:=Option.some.inj (e0.symm.trans r0);obtain⟨C0,_⟩:=p0;obtain rfl:A0=pc x:=C0;refine qO S.q [.x y0 G0] Z ⟨⟨g0,by omega⟩,U⟩ (r0a H1a Z Z Z ?_);refine i0a x0a Z (fun w1 hw=>by exact hw.1.old (m0 _ _ Z)) Z ?_;refine z0a p6a.slT Z (by rfl) Z Z ?_;refine qD Z U ?_;rintro I0 ⟨v0,_⟩;refine c1a (hy:=Z) (kk:=2+x.1.toNat) v0 J9b Z Z (by rw[z3d [_,_] b0 _ 2 rfl];exact E0) (by rw[G4c];omega) ?_;intro w5 S5 X5;rw[T3d [_,_] b0 _ 2 Z,show 0+x.2.toNat*1=x.2.toNat by omega] at S5;refine lP0 Z ⟨by omega,U⟩ ⟨μk-1,by omega,Z,(k+1),(_),(by omega),?_,S5,Z⟩;refine hT.put (x:=x.1.toNat) (y:=x.2.toNat) (by omega) s0 fun a b=>?_;rw[F0a e0,Bool.eq_iff_iff,Bool.or_eq_true,decide_eq_true_eq,decide_eq_true_eq,decide_eq_true_eq,List.mem_append,List.mem_singleton,Prod.ext_iff];refine or_congr_right ⟨fun hh=>?_,fun hh=>?_⟩
  ·simp only at hh;omega
  ·simp only;omega
 refine lR0 Z U (s0a Z ?_);obtain rfl:k=l.length:=by omega
 rw[List.take_length] at hT;refine⟨⟨g7,vs,b0,Z,?_,t0▸hT⟩,S.fin⟩;exact S.sublist (List.Sublist.cons_cons _ (List.sublist_cons_self _ _))
def O3a:E:=⟨1,1,1,[]⟩
def f2d:E:=⟨13,1,0,[⟨3,1,0,[]⟩,⟨2,1,0,[]⟩]⟩
def z2c(nm:ByteArray)(k:Int):k1a:=⟨nm,2,[O3a,O3a],[k,k],[⟨3,0,1,O3a,[⟨k,O3a⟩],false,0,k⟩],[],false⟩
def N1a:o0a:=⟨[⟨⟨#[65,46,120]⟩,1,0,-1,false,0⟩,⟨⟨#[66,46,121]⟩,1,0,-1,false,1⟩],[⟨⟨#[65]⟩,⟨#[111]⟩,zE,f2d,[0]⟩,⟨⟨#[66]⟩,⟨#[111]⟩,zE,O3a,[1]⟩],[],[z2c ⟨#[97]⟩ 0,z2c ⟨#[98]⟩ 1]⟩
theorem j6c:o1a N1a:=H4c (by kernel_rfl)
def F6a:E:=⟨5,1,0,[f2d,⟨11,1,0,[⟨3,1,1,[]⟩,⟨2,1,1,[]⟩]⟩]⟩
theorem y4a:b3a N1a 0=F6a:=by kernel_rfl
theorem j4b:onE N1a 1=F6a:=by kernel_rfl
theorem o5c:onE N1a 0=⟨11,1,0,[⟨3,1,0,[]⟩,⟨2,1,0,[]⟩]⟩:=by kernel_rfl
theorem d7b:F6a.txt=[97,110,100,40,108,101,40,111,48,58,49,44,99,48,58,49,41,44,101,113,40,111,49,58,49,44,99,49,58,49,41,41]:=by kernel_rfl
theorem q5c:F6a.txB=true:=by kernel_rfl
theorem p1d:F6a.wf=true:=by kernel_rfl
theorem P6a:∀(a b:List (Int×Int)),a.Pairwise lt2→b.Pairwise lt2→(∀x,x∈a↔x∈b)→a=b
 | [],[],_,_,_=>rfl
 | [],y::b,_,_,h=>by have:=(h y).2 (by simp);cases this
 | x::a,[],_,_,h=>by have:=(h x).1 (by simp);cases this
 | x::a,y::b,ha,hb,h=>by
   rw[List.pairwise_cons] at ha hb;have a0:∀p:Int×Int,¬lt2 p p:=fun p hp=>by unfold lt2 at hp;omega
   have b0:∀p q:Int×Int,lt2 p q→lt2 q p→False:=fun p q h1 h2=>by unfold lt2 at h1 h2;omega
   have c0:x=y:=by
    rcases List.mem_cons.1 ((h x).1 (by simp)) with h1|h1
    ·exact h1
    ·rcases List.mem_cons.1 ((h y).2 (by simp)) with h2|h2
     ·exact h2.symm
     ·exact(b0 _ _ (hb.1 x h1) (ha.1 y h2)).elim
   subst c0
   congr 1
   refine P6a a b ha.2 hb.2 fun z=>⟨fun hz=>?_,fun hz=>?_⟩
   ·rcases List.mem_cons.1 ((h z).1 (List.mem_cons_of_mem _ hz)) with h1|h1
    ·subst h1;exact(a0 _ (ha.1 z hz)).elim
    ·exact h1
   ·rcases List.mem_cons.1 ((h z).2 (List.mem_cons_of_mem _ hz)) with h1|h1
    ·subst h1;exact(a0 _ (hb.1 z hz)).elim
    ·exact h1
theorem E6a:allC N1a 1 [0]=[0,1]:=by
 have h:=o4a ([0]++(onE N1a 1).sup 3) ((onE N1a 1).sup 2);have e3:(onE N1a 1).sup 3=[0,1]:=by kernel_rfl
 have e2:(onE N1a 1).sup 2=[0,1]:=by kernel_rfl
 refine U4a _ _ h.1 (by decide) fun x=>(h.2 x).trans ?_;rw[e3,e2];simp
theorem T2b:allC N1a 0 [0]=[0]:=by
 have h:=o4a ([0]++(onE N1a 0).sup 3) ((onE N1a 0).sup 2);have e3:(onE N1a 0).sup 3=[0]:=by kernel_rfl
 have e2:(onE N1a 0).sup 2=[0]:=by kernel_rfl
 refine U4a _ _ h.1 (by decide) fun x=>(h.2 x).trans ?_;rw[e3,e2];simp
theorem Clo.inv{R Q:Nat→Nat→Prop}{n x y:Nat}(h:Clo R n x y)(hr:∀x,Q x x)(ht:∀x y z,Q x y→R y z→Q x z):Q x y:=by
 induction h with
 | refl h=>exact hr _
 | tail h h2 h3 ih=>exact ht _ _ _ ih h2
theorem q8c:∀a,a<4→∀b,b<4→F6a.evl (stZ [0,1] [1,1] a k2a) (stZ [0,1] [1,1] b k2a)=1→nuZ [0] [1] (stZ [0,1] [1,1] a k2a)≤nuZ [0] [1] (stZ [0,1] [1,1] b k2a):=by decide +kernel
theorem J2b:F6a.evl (stZ [0,1] [1,1] 0 k2a) (stZ [0,1] [1,1] 1 k2a)=1∧nuZ [0] [1] (stZ [0,1] [1,1] 0 k2a)=0∧nuZ [0] [1] (stZ [0,1] [1,1] 1 k2a)=1:=by decide +kernel
theorem c7c:∀a,a<2→∀b,b<2→(⟨11,1,0,[⟨3,1,0,[]⟩,⟨2,1,0,[]⟩]⟩:E).evl (stZ [0] [1] a k2a) (stZ [0] [1] b k2a)=1→nuZ [0] [1] (stZ [0] [1] a k2a)=nuZ [0] [1] (stZ [0] [1] b k2a):=by decide +kernel
theorem Q2b(x y:Nat):Clo (m6b N1a 1 [0]) 2 x y↔x≤y∧y<2:=by
 have hb:∀x y,m6b N1a 1 [0] x y→x≤y:=fun x y h=>by
  obtain⟨a,b,⟨ha,hb,hv⟩,rfl,rfl⟩:=h;rw[E6a,j4b] at hv;rw[E6a] at ha hb ⊢;exact q8c a ha b hb hv
 constructor
 ·intro h;exact⟨h.inv (Q:=fun a b=>a≤b) (fun _=>Nat.le_refl _) (fun _ _ _ h1 h2=>Nat.le_trans h1 (hb _ _ h2)),h.lt.2⟩
 ·rintro⟨h1,h2⟩;rcases(show(x=0∧y=0)∨(x=0∧y=1)∨(x=1∧y=1) by omega) with⟨rfl,rfl⟩|⟨rfl,rfl⟩|⟨rfl,rfl⟩
  ·exact .refl (by omega)
  ·refine .tail (.refl (by omega)) ⟨0,1,?_,?_,?_⟩ (by omega)
   ·rw[E6a,j4b];exact⟨by decide,by decide,J2b.1⟩
   ·rw[E6a];exact J2b.2.1.symm
   ·rw[E6a];exact J2b.2.2.symm
  ·exact .refl (by omega)
theorem T5b(x y:Nat):Clo (m6b N1a 0 [0]) 2 x y↔x=y∧y<2:=by
 have hb:∀x y,m6b N1a 0 [0] x y→x=y:=fun x y h=>by
  obtain⟨a,b,⟨ha,hb,hv⟩,rfl,rfl⟩:=h;rw[T2b,o5c] at hv;rw[T2b] at ha hb ⊢;exact c7c a ha b hb hv
 constructor
 ·intro h;exact⟨h.inv (Q:=fun a b=>a=b) (fun _=>rfl) (fun _ _ _ h1 h2=>h1.trans (hb _ _ h2)),h.lt.2⟩
 ·rintro⟨rfl,h2⟩;exact .refl h2
theorem T0d{l:List (Int×Int)}(hu:l.Pairwise lt2)(h:∀p,p∈l↔∃x y,Clo (m6b N1a 1 [0]) (2 ^ 1) x y∧p=((x:Int),(y:Int))):l=[(0,0),(0,1),(1,1)]:=by
 refine P6a _ _ hu (by simp[lt2]) fun p=>(h p).trans ?_;constructor
 ·rintro⟨x,y,hc,rfl⟩;have:=(Q2b x y).1 hc;rcases(show(x=0∧y=0)∨(x=0∧y=1)∨(x=1∧y=1) by omega) with⟨rfl,rfl⟩|⟨rfl,rfl⟩|⟨rfl,rfl⟩<;>simp
 ·intro hp;simp only[List.mem_cons,List.not_mem_nil,or_false] at hp;rcases hp with rfl|rfl|rfl
  ·exact⟨0,0,(Q2b 0 0).2 (by omega),Z⟩
  ·exact⟨0,1,(Q2b 0 1).2 (by omega),Z⟩
  ·exact⟨1,1,(Q2b 1 1).2 (by omega),Z⟩
theorem v2d{l:List (Int×Int)}(hu:l.Pairwise lt2)(h:∀p,p∈l↔∃x y,Clo (m6b N1a 0 [0]) (2 ^ 1) x y∧p=((x:Int),(y:Int))):l=[(0,0),(1,1)]:=by
 refine P6a _ _ hu (by simp[lt2]) fun p=>(h p).trans ?_;constructor
 ·rintro⟨x,y,hc,rfl⟩;have:=(T5b x y).1 hc;rcases(show(x=0∧y=0)∨(x=1∧y=1) by omega) with⟨rfl,rfl⟩|⟨rfl,rfl⟩<;>simp
 ·intro hp;simp only[List.mem_cons,List.not_mem_nil,or_false] at hp;rcases hp with rfl|rfl
  ·exact⟨0,0,(T5b 0 0).2 (by omega),Z⟩
  ·exact⟨1,1,(T5b 1 1).2 (by omega),Z⟩
theorem G6b{l:List (Int×Int)}(hu:l.Pairwise lt2)(h:∀x,x∈l↔Q8a N1a 2 x):l=[(0,1),(1,0)]:=by
 refine P6a _ _ hu (by simp[lt2]) fun p=>(h p).trans ?_;constructor
 ·rintro⟨t,_,u,_,_,_,_,hu,_,h1,h2,h3,h4,rfl⟩;have a0:u<2:=hu;rcases(show(t=0∧u=1)∨(t=1∧u=0) by omega) with⟨rfl,rfl⟩|⟨rfl,rfl⟩<;>cases h1<;>cases h2<;>simp[z2c] at h3 h4<;>subst h3<;>subst h4<;>simp
 ·intro hp;simp only[List.mem_cons,List.not_mem_nil,or_false] at hp;rcases hp with rfl|rfl
  ·exact⟨0,by omega,1,_,_,_,1,by decide,by omega,Z,Z,List.mem_cons_self,by simp[z2c],Z⟩
  ·exact⟨1,by omega,0,_,_,_,0,by decide,by omega,Z,Z,List.mem_cons_self,by simp[z2c],Z⟩
theorem G7a{B g t n:Nat}{w:World}{vb:Value}{bs:List Value}(h:w.ownsRow B t 1 vb n bs):∀x∈g::vb.ownBlock.toList,x=g∨B≤x:=fun x hx=>by
 rcases List.mem_cons.1 hx with h1|h1
 ·exact .inl h1
 ·cases hv:vb.ownBlock with
  | none=>rw[hv] at h1;simp at h1
  | some y =>
    rw[hv] at h1;simp at h1;subst h1;exact .inr (O6a h hv).1
theorem f5a{B t n:Nat}{w:World}{vb:Value}{bs:List Value}{a l:List UInt8}(h:w.ownsRow B t 1 vb (n+a.length+(i6a l).size) (bs++Lib.byteCells a++Lib.strCells (i6a l))):w.ownsRow B t 1 vb (n+(a++l).length) (bs++Lib.byteCells (a++l)):=by
 rw[J2a,Nat.add_assoc,←List.length_append] at h;have e:bs++Lib.byteCells a++Lib.strCells (i6a l)=bs++Lib.byteCells (a++l):=by
  rw[List.append_assoc]
  congr 1
  show Lib.byteCells a++Lib.byteCells l=_
  simp[Lib.byteCells]
 rw[e] at h;exact h
theorem P8c{B t n:Nat}{w:World}{vb:Value}{bs:List Value}{a l:List UInt8}(h:w.ownsRow B t 1 vb (n+a.length+l.length) (bs++Lib.byteCells a++Lib.byteCells l)):w.ownsRow B t 1 vb (n+(a++l).length) (bs++Lib.byteCells (a++l)) :=
 f5a (by rw[J2a];exact h)
theorem y1b{B t n:Nat}{w:World}{vb:Value}{bs:List Value}(h:w.ownsRow B t 1 vb n bs):w.ownsRow B t 1 vb (n+([]:List UInt8).length) (bs++Lib.byteCells []):=by
 have e:bs++Lib.byteCells []=bs:=by simp[Lib.byteCells]
 rw[e];exact h
theorem v4c:∀(e:E) (B g gw:Nat) (w0:World) (b o:Nat) (pv vb:Value) (n:Nat) (bs:List Value),g<B→gw<B→gw≠g→B≤w0.heap.size→RB B g w0 e b o→NB B g w0 →
 w0.cell? ⟨gw,0,none⟩=some (.func (.func 95) #[] #[.pointer (some ⟨g,0,none⟩),.pointer (some ⟨gw,0,none⟩)])→(pv=.pointer none∨pv=.pointer (some ⟨g,0,none⟩)) →
 m0a w0 (g,145,[pv,vb])→w0.ownsRow B 5 1 vb n bs→e.txB=true→n+e.txt.length≤900000 →
 E0a prog 95 #[.pointer (some ⟨b,o,none⟩),.pointer (some ⟨g,0,none⟩),.pointer (some ⟨gw,0,none⟩)] w0 fun _ w' =>
  (∃i1,m0a w' (g,145,[.pointer (some ⟨g,0,none⟩),i1])∧w'.ownsRow B 5 1 i1 (n+e.txt.length) (bs++Lib.byteCells e.txt))∧BX B g w0 w':=by
 intro e
 induction e using E.induct with
 | _ e ih =>
 intro B g gw w0 b o pv vb n bs y0 A1 B1 hB hE hN a1 J0 U0 r0 K0 n0;obtain⟨j0,_,_,_,c0,c1,c2,_,nk,_,c3,hn,_,_,_,-,-⟩:=(hE (MB B g w0) u1d).open_;have f1:gw∉MB B g w0:=fun h=>by rcases q7a.1 h with h|h<;>omega
 have Y0:=hN (MB B g w0) u1d;have S:St (MB B g w0) w0 w0 [(some g,145,[pv,vb])]:=(St.reflM _ w0).push U0 (.inr (q7a.2 (.inl Z))) (by simp);have V0:=fun k hk=>hE.kid c3 hn k hk;by_cases s0:e.op=1∨e.op=2∨e.op=3;refine a0a func95 Z ntmps95 Z ?_;refine wO0 Z U (B0a x0a Z (by exact S.oldM j0 c0) Z ?_);refine lB0 Z U (fun O0=>?_) fun O0=>?_
 ·obtain⟨t0,u0,v0,x0⟩:=E.txB_leaf s0 K0;have KC:=u0a.refl [] w0;have l1:=L1b e.op;have l2:=a6a t0 u0;have l3:=a6a v0 x0;have o0:=E.txt_leaf s0;rw[o0] at n0;simp only[List.length_append,List.length_cons,List.length_nil] at n0;refine lC0 Z U (y0a b0a [0,1,2,3,4,5,6,7,8,9,10,11,12,13,14,15,16,17] [] [18] Z (Cl _ _ _ _) (Cl.start S) ?_);refine qO0 Z U (i0a x0a Z (fun w1 hw=>by exact hw.1.oldM j0 c0) Z ?_);refine t1a b1c Z Z (fun w1 S1 X1=>H9a e.op _) ?_;refine qO0 Z U (i0a x0a Z (fun w1 hw=>by exact hw.1.oldM j0 c2) Z ?_);refine t1a Z0b Z Z (fun w1 S1 X1=>Y5a e.n t0 u0 _) ?_;refine u7a Z Z (by omega) Z ?_;refine u7a (b:=[58]) Z Z (by simp;omega) Z ?_;refine qO0 Z U (i0a x0a Z (fun w1 hw=>by exact hw.1.oldM j0 c1) Z ?_);refine t1a Z0b Z Z (fun w1 S1 X1=>Y5a e.w v0 x0 _) ?_;refine u7a Z Z (by simp;omega) Z ?_;refine qD Z U ?_;rintro m1 ⟨i0,C0⟩;replace KC:=KC.trans C0;have d0:=G1a (y1b r0) KC;refine J1a K0b Z Z (n2a B g y0 pv vb J0 _ _ (i6a (P0c e.op++o8b e.n++[58]++o8b e.w)) _ (Nat.le_trans hB i0.size) (i0.blk 0 Z) d0 (by rw[J2a];simp;omega)) ?_;rintro g1 j1 ⟨⟨q0,b0,a0⟩,A0⟩;have B0:=St.wrote i0 (BX.ofB A0 (G7a d0) (Nat.le_trans hB i0.size)) b0;refine lR0 Z U (C1a Z ?_);rw[o0];exact⟨⟨q0,b0,by simpa using f5a a0⟩,B0.bx hB⟩
 refine lB0 Z U (fun P0=>?_) fun P0=>?_
 ·obtain⟨t0,u0,v0,x0⟩:=E.txB_leaf s0 K0;have KC:=u0a.refl [] w0;have l1:=L1b e.op;have l2:=a6a t0 u0;have l3:=a6a v0 x0;have o0:=E.txt_leaf s0;rw[o0] at n0;simp only[List.length_append,List.length_cons,List.length_nil] at n0;refine lC0 Z U (y0a b0a [0,1,2,3,4,5,6,7,8,9,10,11,12,13,14,15,16,17] [] [18] Z (Cl _ _ _ _) (Cl.start S) ?_);refine qO0 Z U (i0a x0a Z (fun w1 hw=>by exact hw.1.oldM j0 c0) Z ?_);refine t1a b1c Z Z (fun w1 S1 X1=>H9a e.op _) ?_;refine qO0 Z U (i0a x0a Z (fun w1 hw=>by exact hw.1.oldM j0 c2) Z ?_);refine t1a Z0b Z Z (fun w1 S1 X1=>Y5a e.n t0 u0 _) ?_;refine u7a Z Z (by omega) Z ?_;refine u7a (b:=[58]) Z Z (by simp;omega) Z ?_;refine qO0 Z U (i0a x0a Z (fun w1 hw=>by exact hw.1.oldM j0 c1) Z ?_);refine t1a Z0b Z Z (fun w1 S1 X1=>Y5a e.w v0 x0 _) ?_;refine u7a Z Z (by simp;omega) Z ?_;refine qD Z U ?_;rintro m1 ⟨i0,C0⟩;replace KC:=KC.trans C0;have d0:=G1a (y1b r0) KC;refine J1a K0b Z Z (n2a B g y0 pv vb J0 _ _ (i6a (P0c e.op++o8b e.n++[58]++o8b e.w)) _ (Nat.le_trans hB i0.size) (i0.blk 0 Z) d0 (by rw[J2a];simp;omega)) ?_;rintro g1 j1 ⟨⟨q0,b0,a0⟩,A0⟩;have B0:=St.wrote i0 (BX.ofB A0 (G7a d0) (Nat.le_trans hB i0.size)) b0;refine lR0 Z U (C1a Z ?_);rw[o0];exact⟨⟨q0,b0,by simpa using f5a a0⟩,B0.bx hB⟩
 refine lB0 Z U (fun Q0=>?_) (fun Q0=>by exfalso;omega);obtain⟨t0,u0,v0,x0⟩:=E.txB_leaf s0 K0;have KC:=u0a.refl [] w0;have l1:=L1b e.op;have l2:=a6a t0 u0;have l3:=a6a v0 x0;have o0:=E.txt_leaf s0;rw[o0] at n0;simp only[List.length_append,List.length_cons,List.length_nil] at n0;refine lC0 Z U (y0a b0a [0,1,2,3,4,5,6,7,8,9,10,11,12,13,14,15,16,17] [] [18] Z (Cl _ _ _ _) (Cl.start S) ?_);refine qO0 Z U (i0a x0a Z (fun w1 hw=>by exact hw.1.oldM j0 c0) Z ?_);refine t1a b1c Z Z (fun w1 S1 X1=>H9a e.op _) ?_;refine qO0 Z U (i0a x0a Z (fun w1 hw=>by exact hw.1.oldM j0 c2) Z ?_);refine t1a Z0b Z Z (fun w1 S1 X1=>Y5a e.n t0 u0 _) ?_;refine u7a Z Z (by omega) Z ?_;refine u7a (b:=[58]) Z Z (by simp;omega) Z ?_;refine qO0 Z U (i0a x0a Z (fun w1 hw=>by exact hw.1.oldM j0 c1) Z ?_);refine t1a Z0b Z Z (fun w1 S1 X1=>Y5a e.w v0 x0 _) ?_;refine u7a Z Z (by simp;omega) Z ?_;refine qD Z U ?_;rintro m1 ⟨i0,C0⟩;replace KC:=KC.trans C0;have d0:=G1a (y1b r0) KC;refine J1a K0b Z Z (n2a B g y0 pv vb J0 _ _ (i6a (P0c e.op++o8b e.n++[58]++o8b e.w)) _ (Nat.le_trans hB i0.size) (i0.blk 0 Z) d0 (by rw[J2a];simp;omega)) ?_;rintro g1 j1 ⟨⟨q0,b0,a0⟩,A0⟩;have B0:=St.wrote i0 (BX.ofB A0 (G7a d0) (Nat.le_trans hB i0.size)) b0;refine lR0 Z U (C1a Z ?_);rw[o0];exact⟨⟨q0,b0,by simpa using f5a a0⟩,B0.bx hB⟩;refine a0a func95 Z ntmps95 Z ?_;refine wO0 Z U (B0a x0a Z (by exact S.oldM j0 c0) Z ?_);refine lB0 Z U (fun O0=>by exfalso;omega) fun O0=>?_;refine lB0 Z U (fun P0=>by exfalso;omega) fun P0=>?_;refine lB0 Z U (fun Q0=>by exfalso;omega) fun Q0=>?_;obtain⟨_,x1⟩:=E.txB_node s0 K0;have o0:=E.txt_node s0;obtain⟨nm,b1⟩:∃x,x=P0b.getD (e.op-4).toNat []:=⟨_,Z⟩;rw[←b1] at o0;have v1:(e.op-4).toNat<P0b.length:=by show _<11;omega
 have y1:P0b[(e.op-4).toNat]?=some nm:=by rw[b1,List.getD_eq_getElem?_getD,List.getElem?_eq_getElem v1];rfl
 have cN:=Y0.2 _ _ y1;have H1:e.txt.length=nm.length+(E.txts e.kids 40).length+1:=by rw[o0];simp;omega
 refine lO0 Z U (B0a x0a Z (by exact S.oldM j0 c0) Z ?_);refine lO0 Z ⟨by omega,U⟩ (O1a o7c Z Z Z ?_);refine B0a v0d Z (S.oldM Y0.1 (by simpa using cN)) Z ?_;have E0:=y1b r0;refine J1a K0b Z Z (n2a B g y0 pv vb J0 _ _ (i6a nm) _ (Nat.le_trans hB S.size) (S.blk 0 Z) E0 (by rw[J2a];simp;omega)) ?_;rintro I1 D1 ⟨⟨q0,R0,e0⟩,n1⟩;have X0:=St.wrote S (BX.ofB n1 (G7a E0) (Nat.le_trans hB S.size)) R0;have e0:=f5a e0;have KD:=u0a.refl [] D1;refine lO0 Z U (B0a F1a Z (by exact X0.oldM j0 c3) Z ?_);refine lC0 Z U (wL (fun μk D ε w=>D=[]∧∃k:Nat,∃I0:Value,(k+μk=(e.kids.length))∧(w.ownsRow B 5 1 I0 (n+(nm++E.txts (e.kids.take k) 40).length) (bs++Lib.byteCells (nm++E.txts (e.kids.take k) 40)))∧St (MB B g w0) w0 w [(some g,145,[.pointer (some ⟨g,0,none⟩),I0])]∧Sl ε [(0,.pointer (some ⟨b,o,none⟩)),(1,.pointer (some ⟨g,0,none⟩)),(2,.pointer (some ⟨gw,0,none⟩)),(4,.string (i6a (if k=0 then[40] else[44]))),(45,.int .i64 nk),(46,.int .i64 k)]) (μ:=(e.kids.length)) ⟨Z,0,_,by omega,(by simpa[E.txts] using G1a e0 KD),X0,Z⟩ ?_);rintro μk D ε w ⟨rfl,k,I0,hk,p0,S,eZ⟩;refine wK eZ ?_;have KL:=u0a.refl [] w;refine wB0 Z U (fun u1=>?_) fun u1=>?_
 ·refine lO0 Z U ?_;obtain⟨x,H0⟩:∃x,e.kids[k]?=some x:=⟨e.kids[k]'(by omega),List.getElem?_eq_getElem _⟩;have z1:=E.txts_pre e.kids 40 (k+1);rw[E.txts_take 40 H0,List.length_append,List.length_cons] at z1;have d1:(if k=0 then[(40:UInt8)] else[44]).length=1:=by split<;>rfl
  have F0:=G1a p0 KL;refine J1a K0b Z Z (n2a B g y0 _ I0 (.inr Z) _ _ (i6a (if k=0 then[40] else[44])) _ (Nat.le_trans hB S.size) (S.blk 0 Z) F0 (by rw[J2a,d1,List.length_append];omega)) ?_;rintro v50 E1 ⟨⟨q0,S0,f0⟩,o1⟩;have r1:=St.wrote S (BX.ofB o1 (G7a F0) (Nat.le_trans hB S.size)) S0;have f0:=f5a f0;have L0:=u0a.refl [] E1;obtain⟨bk,ok,_,Z0⟩:=V0 k (by omega);have C1:e.kids[k]'(by omega)=x:=by have:=List.getElem?_eq_getElem (l:=e.kids) (i:=k) (by omega);rw[H0] at this;exact(Option.some.inj this).symm
  rw[C1] at Z0;refine lC0 Z U (y0a b0a [0,1,2,3,4,5,6] [] [7] Z (Cl _ _ _ _) (Cl.start r1) ?_);refine i0a o1c Z (fun w1 hw=>by exact hw.1.oldM f1 a1) Z ?_;refine qO0 Z U (i0a F1a Z (fun w1 hw=>by exact hw.1.oldM j0 c3) Z ?_);refine qO0 Z U (z0a O0a.slT Z (by assumption) Z Z ?_);refine qD Z U ?_;rintro G1 ⟨m0,N0⟩;replace L0:=L0.trans N0;have W0:=G1a f0 L0;refine A6a R5c Z Z Z (ih x (List.mem_of_getElem? H0) B g gw _ bk (ok+k*4) _ q0 _ _ y0 A1 B1 (Nat.le_trans hB m0.size) (Z0.keep m0.keepM) (hN.keep m0.keepM) (m0.oldM f1 a1) (.inr Z) (m0.blk 0 Z) W0 (x1 x (List.mem_of_getElem? H0)) (by rw[List.length_append,List.length_append,d1];omega)) ?_;rintro J1 F1 ⟨⟨_,T0,z0⟩,p1⟩;have s1:=St.wrote m0 p1 T0;have KQ:=u0a.refl [] F1;refine lP0 Z ⟨by omega,U⟩ ⟨μk-1,by omega,Z,(k+1),(_),(by omega),?_,s1,Z⟩;rw[E.txts_take 40 H0];have z:=G1a z0 KQ;have e1:nm++(E.txts (e.kids.take k) 40++((if k=0 then 40 else 44)::x.txt))=nm++E.txts (e.kids.take k) 40++(if k=0 then[40] else[44])++x.txt:=by split<;>simp
  rw[e1];exact P8c z
 refine lO0 Z U ?_;obtain rfl:k=e.kids.length:=by omega
 rw[List.take_length] at p0;have G0:=G1a p0 KL;refine J1a K0b Z Z (n2a B g y0 _ I0 (.inr Z) _ _ (i6a [41]) _ (Nat.le_trans hB S.size) (S.blk 0 Z) G0 (by rw[J2a,List.length_append];simp;omega)) ?_;rintro K1 M1 ⟨⟨q0,D0,g0⟩,q1⟩;have t1:=St.wrote S (BX.ofB q1 (G7a G0) (Nat.le_trans hB S.size)) D0;have g0:=f5a g0;refine lF0 Z U (C1a Z ?_);rw[o0];exact⟨⟨q0,D0,g0⟩,t1.bx hB⟩
theorem K1b{w:World}{B C e n:Nat}{v:Value}{xs:List Value}(h:w.ownsRow B e 1 v n xs)(hc:C≤B):w.ownsRow C e 1 v n xs:=by
 obtain⟨h1,h2⟩:=h;refine⟨h1,h2.imp id ?_⟩;rintro⟨g,a0,b0,q1,q2,q3⟩;exact⟨g,a0,b0,q1,Nat.le_trans hc q2,q3⟩
theorem A7b(e:E)(w0:World)(cs:List Value)(hR:RdE [] w0 e cs)(hK:i2a [] w0)(hN:v7a [] w0)(y0:e.wf=true)(x0:e.txB=true)(u0:e.txt.length≤800000):
 E0a prog 49 #[.agg cs.toArray] w0 fun v w'=>v=.string (i6a e.txt)∧Below w0.heap.size w0 w':=by
 obtain⟨_,_,_,rfl,-⟩:=hR.open_;have S:=St.refl w0;refine a0a func49 Z ntmps49 Z ?_;refine wO0 Z U (p0a S Z ?_);intro g1 w1 S1 X1 G1;refine lO S1.k [.w 0] Z ⟨⟨Z,Z⟩,U⟩ (g0a S1 c1b Z Z (Y2a (x2a e [] _ _ (RdE.keep (S1.keep0 []) _ _ hR) (hK.keep (S1.keep0 []))) y0) ?_);intro w6 S6 X6;refine lO0 Z U (h0a S6 X1d Z Z ?_);intro g3 w3 S3 X3 G3;refine lO0 Z U (h0a S3 H0d Z Z ?_);intro g4 w4 S4 X4 G4;refine lO0 Z U (w1a Z Z ?_);refine c1a (kk:=0) S4 L0d Z Z Z (by exact Nat.le_of_ble_eq_true Z) ?_;intro b0 a0 p0;refine lO a0.k [.o 0] Z ⟨Z,U⟩ ?_;have f0:∀M:List Nat,(∀x∈M,x=g3∨b0.heap.size≤x)→∀g∈M,g∈([]:List Nat)∨w0.heap.size≤g:=fun M hM g hg=>.inr (by
  rcases hM g hg with rfl|h
  ·simpa using a0.new 1 Z
  ·have:=a0.size;omega)
 have s0:RB b0.heap.size g3 b0 e g1 0:=fun M hM=>⟨fun hh=>by
  rcases hM g1 hh with h|h
  ·exact a0.ne 1 2 Z Z (by decide) h.symm
  ·have:=a0.lt 2 Z;omega,_,a0.cells 2 Z,RdE.keep (a0.keep0 M) _ _ (RdE.more (f0 M hM) _ _ hR)⟩
 have r0:NB b0.heap.size g3 b0:=fun M hM=>(hN.more (f0 M hM)).keep (a0.keep0 M);have g0:b0.ownsRow b0.heap.size 5 1 (.slice none 0 0) 0 []:=⟨Z,.inl ⟨Z,Z⟩⟩;refine A6a R5c Z Z Z (v4c e b0.heap.size g3 g4 b0 g1 0 (.pointer none) (.slice none 0 0) 0 [] (a0.lt 1 Z) (a0.lt 0 Z) (a0.ne 0 1 Z Z (by decide)) (Nat.le_refl _) s0 r0 (a0.cell 0 Z Z) (.inl Z) (a0.blk 1 Z) g0 x0 (by omega)) ?_;have t0:=a0.size;rintro z0 i0 ⟨⟨vb,m0,c0⟩,e0⟩;have o0:D0a [g3] b0 i0:=⟨e0.os,e0.tape,e0.output,e0.size,fun k h1 h2=>e0.block k h1 fun h=>h2 (by rw[h];simp)⟩;have d0:=a0.changed1 1 Z o0 m0;dsimp only[List.set] at d0;refine lO0 Z U ?_;have q0:Lib.IsBuilder 145 5 w0.heap.size g3 (Lib.byteCells e.txt) i0:=by
  have n0:i0.heap[g3]?=some (.cells #[.pointer (some ⟨g3,0,none⟩),vb] 145 (0,0)):=d0.blk 1 Z;have v0:vb.ownBlock≠some g3:=Lib.ownBlock_ne c0 n0 (by decide);have hz:=K1b c0 t0;rw[Nat.zero_add,List.nil_append] at hz;exact .inr ⟨by simpa using d0.new 1 Z,vb,n0,by rw[Lib.byteCells_length];exact hz,v0⟩
 refine J1a (R:=fun v w'=>v=.string (i6a e.txt)∧Below w0.heap.size i0 w') c1d Z Z (Calls.mono (Tryz.Builder_String_any w0.heap.size g3 e.txt i0 q0 d0.size) (fun e w' h=>⟨_,h.1,Z,h.2⟩)) ?_;rintro A0 B0 ⟨rfl,j0⟩;exact lT Z U Z ⟨Z,d0.fin.trans j0⟩
theorem B4b(w0:World):
 E0a prog 48 #[] w0 fun v w'=>(∃cs:List Value,v=.agg cs.toArray∧R0a [] w' N1a cs)∧Below w0.heap.size w0 w':=by
 have S:=St.refl w0;have i0:i64 0:=by unfold i64;omega
 have i1:i64 1:=by unfold i64;omega
 have i2:i64 2:=by unfold i64;omega
 have i3:i64 3:=by unfold i64;omega
 have im:i64 (-1):=by unfold i64;omega
 have y1:i64 13:=by unfold i64;omega
 refine a0a func48 Z ntmps48 Z ?_;refine wO0 Z U (h0a S N4c Z Z ?_);intro g0 w0 S0 X0 G0;refine lO0 Z U (g0a S0 W3b Z Z (i1b _ _ _) ?_);intro w6 S6 X6;refine h0a S6 R1a Z Z ?_;intro g1 w1 S1 X1 G1;refine c0a (kk:=0) (vs:=[_,_,_,_]) S1 i1a Z Z Z Z Z Z Z ?_;intro A1 r0 U0;dsimp only[f0a,List.set] at r0;refine lO0 Z U (H0a u5c (vs:=[(0,.string _),(1,.int .i64 _),(3,.int .i64 _)]) (cs:=[_,_,_,_,_,_]) Z Z Z Z ?_);refine H0a u5c (vs:=[(0,.string _),(1,.int .i64 _),(3,.int .i64 _),(5,.int .i64 _)]) (cs:=[_,_,_,_,_,_]) Z Z Z Z ?_;refine k0a r0 u5a (vs:=[.agg _,.agg _]) (cs:=[_,_,_,_,_,_,_,_,_,_,_,_]) Z Z Z Z Z Z ?_;intro g9 w9 S9 X9 G9;refine lO0 Z U (g0a S9 I5c Z Z (T6b _ _ _) ?_);intro Y1 F0 Q1;refine g0a F0 Q5c Z Z (t3b _ _ _) ?_;intro Z1 x0 R1;refine j0a x0 C9b Z Z (X7b 13 1 y1 i1 ⟨3,1,0,[]⟩ ⟨2,1,0,[]⟩ [_,_,_,_] [_,_,_,_] [g0] _ (fun g hg=>by rw[List.mem_singleton.1 hg];exact x0.lt 2 Z) (f1a i3 i1 i0) (f1a i2 i1 i0)) ?_;rintro W1 z1 ⟨_,rfl,C0⟩ H0 T1;have b0:=u0a.refl [] z1;obtain⟨_,_,_,rfl,-⟩:=C0.open_;refine h0a H0 R1a Z Z ?_;intro g3 w3 S3 X3 G3;have o0:=Nat.le_trans b0.size G3;replace b0:=b0.trans X3;refine c0a (kk:=0) (vs:=[_,_,_,_]) S3 i1a Z Z Z Z Z Z Z ?_;intro B1 n0 v0;dsimp only[f0a,List.set] at n0;replace b0:=b0.fresh v0 (by first|exact o0);refine lO n0.k [.w 2,.w 2] Z ⟨⟨Z,by rfl⟩,⟨Z,by rfl⟩,U⟩ (k0a n0 O0a (vs:=[.agg _,.agg _]) (cs:=[_,_,_,_,_,_,_,_]) Z Z Z Z Z Z ?_);intro n1 a2 I0 R0 C1;replace b0:=b0.trans R0;refine k0a I0 Y0a (vs:=[.int .i64 _,.int .i64 _]) (cs:=[_,_]) Z Z Z Z Z Z ?_;intro o1 b2 y0 T0 D1;replace b0:=b0.trans T0;refine lO y0.k [.w 4,.w 4] Z ⟨⟨Z,by rfl⟩,⟨Z,by rfl⟩,U⟩ (H0a p1c (vs:=[(0,.int .i64 _),(1,.agg _)]) (cs:=[_,_,_,_,_]) Z Z Z Z ?_);refine k0a y0 L8a (vs:=[.agg _]) (cs:=[_,_,_,_,_]) Z Z Z Z Z Z ?_;intro p1 d2 J0 V0 E1;replace b0:=b0.trans V0;refine H0a y5c (vs:=[(0,.int .i64 _),(1,.int .i64 _),(2,.int .i64 _),(3,.agg _),(4,.slice _ _ _)]) (cs:=[_,_,_,_,_,_,_,_,_,_,_]) Z Z Z Z ?_;refine k0a J0 O1c (vs:=[.agg _]) (cs:=[_,_,_,_,_,_,_,_,_,_,_]) Z Z Z Z Z Z ?_;intro q1 e2 K0 W0 F1;replace b0:=b0.trans W0;refine H0a c6c (vs:=[(0,.string _),(1,.int .i64 _),(2,.slice _ _ _),(3,.slice _ _ _),(4,.slice _ _ _)]) (cs:=[_,_,_,_,_,_,_]) Z Z Z Z ?_;refine h0a K0 B0b Z Z ?_;intro g4 w4 S4 X4 G4;have p0:=Nat.le_trans b0.size G4;replace b0:=b0.trans X4;refine c0a (kk:=0) (vs:=[_,_,_,_,_,_,_]) S4 x0b Z Z Z Z Z Z Z ?_;intro D0 e0 s0;dsimp only[f0a,List.set] at e0;replace b0:=b0.fresh s0 (by exact p0);refine lO e0.k [.w 7,.w 7] Z ⟨⟨Z,by rfl⟩,⟨Z,by rfl⟩,U⟩ (k0a e0 O0a (vs:=[.agg _,.agg _]) (cs:=[_,_,_,_,_,_,_,_]) Z Z Z Z Z Z ?_);intro r1 f2 L0 Y0 H1;replace b0:=b0.trans Y0;refine k0a L0 Y0a (vs:=[.int .i64 _,.int .i64 _]) (cs:=[_,_]) Z Z Z Z Z Z ?_;intro s1 g2 z0 Z0 I1;replace b0:=b0.trans Z0;refine lO z0.k [.w 9,.w 9] Z ⟨⟨Z,by rfl⟩,⟨Z,by rfl⟩,U⟩ (H0a p1c (vs:=[(0,.int .i64 _),(1,.agg _)]) (cs:=[_,_,_,_,_]) Z Z Z Z ?_);refine k0a z0 L8a (vs:=[.agg _]) (cs:=[_,_,_,_,_]) Z Z Z Z Z Z ?_;intro t1 h2 N0 a1 J1;replace b0:=b0.trans a1;refine H0a y5c (vs:=[(0,.int .i64 _),(1,.int .i64 _),(2,.int .i64 _),(3,.agg _),(4,.slice _ _ _),(7,.int .i64 _)]) (cs:=[_,_,_,_,_,_,_,_,_,_,_]) Z Z Z Z ?_;refine k0a N0 O1c (vs:=[.agg _]) (cs:=[_,_,_,_,_,_,_,_,_,_,_]) Z Z Z Z Z Z ?_;intro u1 j2 O0 b1 K1;replace b0:=b0.trans b1;refine H0a c6c (vs:=[(0,.string _),(1,.int .i64 _),(2,.slice _ _ _),(3,.slice _ _ _),(4,.slice _ _ _)]) (cs:=[_,_,_,_,_,_,_]) Z Z Z Z ?_;refine h0a O0 B0b Z Z ?_;intro g5 w5 S5 X5 G5;have q0:=Nat.le_trans b0.size G5;replace b0:=b0.trans X5;refine c0a (kk:=0) (vs:=[_,_,_,_,_,_,_]) S5 x0b Z Z Z Z Z Z Z ?_;intro E0 j0 t0;dsimp only[f0a,List.set] at j0;replace b0:=b0.fresh t0 (by exact q0);have d0:=RdE.keep b0.of_nil _ _ C0;refine lO j0.k [.w 10] Z ⟨⟨Z,by rfl⟩,U⟩ (k0a j0 Y0a (vs:=[.int .i64 _]) (cs:=[_]) Z Z Z Z Z Z ?_);intro v1 m2 A0 c1 M1;replace d0:=RdE.keep (c1.of_nil) _ _ d0;refine H0a U5c (vs:=[(0,.string _),(1,.string _),(3,.agg _),(4,.slice _ _ _)]) (cs:=[_,_,_,_,_,_,_,_,_,_,_]) Z Z Z Z ?_;refine lO A0.k [.w 13] Z ⟨⟨Z,by rfl⟩,U⟩ (k0a A0 Y0a (vs:=[.int .i64 _]) (cs:=[_]) Z Z Z Z Z Z ?_);intro x1 n2 P0 d1 N1;replace d0:=RdE.keep (d1.of_nil) _ _ d0;refine H0a U5c (vs:=[(0,.string _),(1,.string _),(3,.agg _),(4,.slice _ _ _)]) (cs:=[_,_,_,_,_,_,_,_,_,_,_]) Z Z Z Z ?_;refine k0a P0 D8a (vs:=[.agg _,.agg _]) (cs:=[_,_,_,_,_,_,_,_,_,_,_,_,_,_,_,_,_,_,_,_,_,_]) Z Z Z Z Z Z ?_;intro U1 o2 B0 j1 O1;replace d0:=RdE.keep (j1.of_nil) _ _ d0;refine lO B0.k [.w 8,.w 3] Z ⟨⟨Z,by rfl⟩,⟨Z,by rfl⟩,U⟩ (k0a B0 Y4c (vs:=[.agg _,.agg _]) (cs:=[_,_,_,_,_,_,_,_,_,_,_,_,_,_]) Z Z Z Z Z Z ?_);intro V1 p2 Q0 m1 P1;replace d0:=RdE.keep (m1.of_nil) _ _ d0;refine H0a Y0d (vs:=[(0,.slice _ _ _),(1,.slice _ _ _),(3,.slice _ _ _)]) (cs:=[_,_,_,_]) Z Z Z Z ?_;refine c0a (kk:=17) (vs:=[_,_,_,_]) Q0 T2c Z Z Z Z Z Z Z ?_;intro a0 m0 u0;dsimp only[f0a,List.set] at m0;replace d0:=RdE.keep (u0.mono (by simp)) _ _ d0;refine lR0 Z U ?_;have SF:=m0;replace d0:=RdE.less (M':=[]) (by simp) _ _ d0;have c0:RdE [] a0 O3a [.int .i64 1,.int .i64 1,.int .i64 1,.slice none 0 0]:=f1a i1 i1 i1;have hz:RdE [] a0 zE [.int .i64 0,.int .i64 0,.int .i64 0,.slice none 0 0]:=f1a i0 i0 i0;have f0:RdI [] a0 (.slice (some ⟨v1,0,none⟩) 1 1) [0]:=V2a SF (k:=3) Z Z (by simp[i0]);have f1:RdI [] a0 (.slice (some ⟨x1,0,none⟩) 1 1) [1]:=V2a SF (k:=2) Z Z (by simp[i1]);have ma:RdI [] a0 (.slice (some ⟨o1,0,none⟩) 2 2) [0,0]:=V2a SF (k:=12) Z Z (by simp[i0]);have mb:RdI [] a0 (.slice (some ⟨s1,0,none⟩) 2 2) [1,1]:=V2a SF (k:=7) Z Z (by simp[i1]);have sa:N8c [] a0 (.slice (some ⟨p1,0,none⟩) 1 1) [⟨0,O3a⟩]:=L3c (SF.cells 11 Z) Z ⟨_,Z,i0,c0⟩;have sb:N8c [] a0 (.slice (some ⟨t1,0,none⟩) 1 1) [⟨1,O3a⟩]:=L3c (SF.cells 6 Z) Z ⟨_,Z,i1,c0⟩;have aa:c0d [] a0 (.slice (some ⟨n1,0,none⟩) 2 2) [O3a,O3a]:=U1b (c:=[_,_,_,_]) (c2:=[_,_,_,_]) (SF.cells 13 Z) Z Z c0 c0;have ab:c0d [] a0 (.slice (some ⟨r1,0,none⟩) 2 2) [O3a,O3a]:=U1b (c:=[_,_,_,_]) (c2:=[_,_,_,_]) (SF.cells 8 Z) Z Z c0 c0;have ta:v1d [] a0 (.slice (some ⟨q1,0,none⟩) 1 1) [⟨3,0,1,O3a,[⟨0,O3a⟩],false,0,0⟩]:=L3c (SF.cells 10 Z) Z ⟨_,_,_,_,_,Z,i3,i0,i1,i0,i0,c0,sa⟩;have tb:v1d [] a0 (.slice (some ⟨u1,0,none⟩) 1 1) [⟨3,0,1,O3a,[⟨1,O3a⟩],false,0,1⟩]:=L3c (SF.cells 5 Z) Z ⟨_,_,_,_,_,Z,i3,i0,i1,i0,i1,c0,sb⟩;refine w0a Z I3a Z (SF.cells 17 Z) Z ⟨⟨_,Z,_,_,_,_,Z,?_,?_,c5b,?_⟩,SF.fin⟩
 ·exact U1b (c:=[_,_,_,_,_,_]) (c2:=[_,_,_,_,_,_]) (SF.cells 15 Z) Z Z ⟨Z,i1,i0,im,i0⟩ ⟨Z,i1,i0,im,i1⟩
 ·exact U1b (c:=[_,_,_,_,_,_,_,_,_,_,_]) (c2:=[_,_,_,_,_,_,_,_,_,_,_]) (SF.cells 1 Z) Z Z ⟨_,_,_,_,_,_,_,_,_,Z,hz,d0,f0⟩ ⟨_,_,_,_,_,_,_,_,_,Z,hz,c0,f1⟩
 ·exact U1b (c:=[_,_,_,_,_,_,_]) (c2:=[_,_,_,_,_,_,_]) (SF.cells 0 Z) Z Z ⟨_,_,_,_,Z,i2,aa,ma,ta,c5b⟩ ⟨_,_,_,_,Z,i2,ab,mb,tb,c5b⟩
theorem W2c:∀l,l=[0]∨l=[0,1]→wdL N1a.cells l=l.map fun _=>1:=fun l h=>by rcases h with rfl|rfl<;>rfl
theorem E9b(w0:World)(hK:i2a [] w0)(hN:v7a [] w0):
 E0a prog 10 #[] w0 fun v w'=>v=.bool true∧Below w0.heap.size w0 w':=by
 have S:=St.refl w0;have i0:i64 0:=by unfold i64;omega
 have i1:i64 1:=by unfold i64;omega
 have r1:onE N1a 1≠zE:=by rw[j4b];intro h;exact absurd (congrArg E.op h) (by decide)
 have q1:onE N1a 0≠zE:=by rw[o5c];intro h;exact absurd (congrArg E.op h) (by decide)
 have K1:∀c∈[(0:Int)],0≤c∧c<N1a.cells.length:=by simp[N1a]
 have r2:∀c∈[(0:Int),1],0≤c∧c<N1a.cells.length:=by simp[N1a]
 refine a0a func10 Z ntmps10 Z ?_;refine wO0 Z U (j0a S n2d Z Z (B4b _) ?_);rintro v6 w6 ⟨_,rfl,r6⟩ S6 X6;obtain⟨_,_,_,_,_,_,_,_,_,_,_,_,rfl,-⟩:=r6.open_;have K6:=u0a.refl [] w6;have y0:InP N1a [] w6 _:=⟨r6,j6c,hK.keep (S6.keep0 []),by simp⟩;refine h0a S6 N4c Z Z ?_;intro g1 w1 S1 X1 G1;have u1:=Nat.le_trans K6.size G1;replace K6:=K6.trans X1
 first|refine c0a (kk:=0) (vs:=[_,_,_,_]) S1 T2c Z Z Z Z Z Z Z ?_
 intro H2 Q0 y1;dsimp only[f0a,List.set] at Q0;replace K6:=K6.fresh y1 (by first|exact u1);refine lO Q0.k [.w 0] Z ⟨⟨Z,Z⟩,U⟩ (k0a Q0 Y0a (vs:=[.int .i64 _]) (cs:=[_]) Z Z Z Z Z Z ?_);intro g9 w9 S9 X9 G9;replace K6:=K6.trans X9;refine j0a S9 W6b Z Z (o9a N1a 1 [0] (by simp[T1a]) K1 [] _ _ _ (y0.keep K6) (show RdI [] _ (.slice (some ⟨g9,0,none⟩) 1 1) [0] from V2a S9 (k:=0) Z Z (by simp[i0])) r1 (i5a j6c r1) 1 (by rw[W2c _ (.inl rfl)];rfl) 2 (by rw[E6a,W2c _ (.inr rfl)];rfl) (by omega) (by rw[E6a];exact r2)) ?_;rintro Z2 E2 ⟨_,rfl,F1⟩ d2 f2;replace K6:=K6.trans f2;obtain⟨_,_,_,_,rfl,B1,D1,I1,O1,-,M1⟩:=F1.get;obtain rfl:=T0d O1 M1;obtain⟨_,_,_,rfl⟩:=B1.form;obtain⟨_,_,c2,rfl⟩:=D1.form;have Y0:=I1 [] (by simp);obtain⟨_,_,c3,rfl⟩:=Y0.form;have b0:=u0a.refl [] E2;refine lO0 Z U (h0a d2 g6a Z Z ?_);intro g2 w2 S2 X2 G2;have v1:=Nat.le_trans K6.size G2;have f1:=Nat.le_trans b0.size G2;replace K6:=K6.trans X2;replace b0:=b0.trans X2;refine c0a (kk:=0) (vs:=[_,_,_]) S2 f6a Z Z Z Z Z Z Z ?_;intro O2 S0 p1;dsimp only[f0a,List.set] at S0;replace K6:=K6.fresh p1 (by exact v1);replace b0:=b0.fresh p1 (by exact f1);refine lO S0.k [.w 2] Z ⟨⟨Z,Z⟩,U⟩ (k0a S0 Y0a (vs:=[.int .i64 _]) (cs:=[_]) Z Z Z Z Z Z ?_);intro n2 b3 Q1 R1 Y2;replace K6:=K6.trans R1;replace b0:=b0.trans R1;refine j0a Q1 W6b Z Z (o9a N1a 0 [0] (by simp[T1a]) K1 [] _ _ _ (y0.keep K6) (show RdI [] _ (.slice (some ⟨n2,0,none⟩) 1 1) [0] from V2a Q1 (k:=0) Z Z (by simp[i0])) q1 (i5a j6c q1) 1 (by rw[W2c _ (.inl rfl)];rfl) 1 (by rw[T2b,W2c _ (.inl rfl)];rfl) (by omega) (by rw[T2b];exact K1)) ?_;rintro a3 F2 ⟨_,rfl,H1⟩ e2 T1;replace K6:=K6.trans T1;replace b0:=b0.trans T1;obtain⟨_,_,_,_,rfl,C1,E1,J1,P1,-,N1⟩:=H1.get;obtain rfl:=v2d P1 N1;obtain⟨_,_,_,rfl⟩:=C1.form;obtain⟨_,_,_,rfl⟩:=E1.form;have Z0:=J1 [] (by simp);obtain⟨_,_,_,rfl⟩:=Z0.form;have c0:=u0a.refl [] F2;refine lO0 Z U (h0a e2 g6a Z Z ?_);intro g4 w4 S4 X4 G4;have x1:=Nat.le_trans K6.size G4;have j1:=Nat.le_trans b0.size G4;have m1:=Nat.le_trans c0.size G4;replace K6:=K6.trans X4;replace b0:=b0.trans X4;replace c0:=c0.trans X4;refine c0a (kk:=0) (vs:=[_,_,_]) S4 f6a Z Z Z Z Z Z Z ?_;intro b1 T0 W0;dsimp only[f0a,List.set] at T0;replace K6:=K6.fresh W0 (by exact x1);replace b0:=b0.fresh W0 (by exact j1);replace c0:=c0.fresh W0 (by exact m1);refine lC0 Z U (C2c b0a (fun i=>[0,2,3,6,7,10,11,12,13,15,18,19,20,21,22,23,24,25,26,27,28,29,30,31,32,35,36,37,38,39,40,43,44].contains i) (.op 0 (.op 2 (.op 3 (.two (.op 1 (.op 4 (.op 5 (.op 6 (.op 7 (.op 8 (.op 9 (.op 10 (.op 11 (.op 12 (.op 13 (.op 15 (.op 14 (.op 16 (.op 17 (.op 18 (.op 19 (.op 20 (.op 21 (.op 22 (.op 23 (.op 24 (.op 25 (.op 26 (.op 27 (.op 28 (.op 29 (.op 30 (.op 31 (.op 32 (.op 33 (.op 34 (.op 35 (.op 36 (.op 37 (.op 38 (.op 39 (.op 40 (.op 41 (.op 42 (.op 43 (.op 44 .nil)))))))))))))))))))))))))))))))))))))))))) (.op 4 (.op 1 (.op 5 (.op 6 (.op 7 (.op 8 (.op 9 (.op 10 (.op 11 (.op 12 (.op 13 (.op 15 (.op 14 (.op 16 (.op 17 (.op 18 (.op 19 (.op 20 (.op 21 (.op 22 (.op 23 (.op 24 (.op 25 (.op 26 (.op 27 (.op 28 (.op 29 (.op 30 (.op 31 (.op 32 (.op 33 (.op 34 (.op 35 (.op 36 (.op 37 (.op 38 (.op 39 (.op 40 (.op 41 (.op 42 (.op 43 (.op 44 .nil)))))))))))))))))))))))))))))))))))))))))))))) (A3d T0) ?_);have O0:=T0.drew;have A0:u0a [] b1 b1.drew:=r4a _ _;generalize b1.drew=d3 at O0 A0 ⊢;replace K6:=K6.trans A0;replace b0:=b0.trans A0;replace c0:=c0.trans A0;refine P1a ⟨O0,A0⟩ Z Z Z ?_;refine M2a I3a Z (fun w1 hw=>hw.1.cells 4 Z) Z Z ?_;refine n0a ?_;refine P1a ⟨O0,A0⟩ Z Z Z ?_;refine G2a c4a (vs:=[(0,.int .i64 _),(1,.int .i64 _)]) (cs:=[_,_]) Z Z Z Z ?_;refine n0a ?_;refine P1a ⟨O0,A0⟩ Z Z Z ?_;refine G2a c4a (vs:=[(0,.int .i64 _),(1,.int .i64 _)]) (cs:=[_,_]) Z Z Z Z ?_;refine n0a ?_;refine o9b ?_ ?_
 ·refine p5a ⟨O0,A0⟩ Z Z Z ?_;refine j0a O0 J5c Z Z (w1b N1a [] _ _ (y0.keep K6)) ?_;rintro v20 I2 ⟨s2,j0,a1,X0,-⟩ c1 K0;have p0:=A0.trans K0;replace K6:=K6.trans K0;replace b0:=b0.trans K0;replace c0:=c0.trans K0;obtain rfl:=G6b a1 X0;obtain⟨U1,t2,h2,rfl⟩:=j0.form;refine X0a ⟨Z,?_⟩;refine p5a ⟨c1,p0⟩ Z Z Z ?_;refine k0a c1 u3a (vs:=[.agg _,.agg _]) (cs:=[_,_,_,_]) Z Z Z Z Z Z ?_;intro o2 J2 d1 B0 Z1;have q0:=p0.trans B0;replace K6:=K6.trans B0;replace b0:=b0.trans B0;replace c0:=c0.trans B0;replace j0:=j0.keep (B0.of_nil);refine X0a ⟨Z,?_⟩;refine p5a ⟨d1.tail,q0⟩ Z Z Z ?_;refine g0a d1 t1b Z Z (Y2a (Q2a [] _ _ _ _ [(0,1),(1,0)] j0 (U1b (c:=[_,_]) (c2:=[_,_]) (d1.cells 0 Z) Z Z ⟨Z,i0,i1⟩ ⟨Z,i1,i0⟩)) (decide_eq_true Z)) ?_;intro K2 I0 C0;have g0:=q0.trans C0;replace K6:=K6.trans C0;replace b0:=b0.trans C0;replace c0:=c0.trans C0;replace j0:=j0.keep (C0.of_nil);refine X0a ⟨Z,?_⟩;refine P1a ⟨I0.tail,g0⟩ Z Z Z ?_;refine m1a (hv:=Z) (v:=.bool _) Z ?_;refine n0a ?_;refine P1a ⟨I0.tail,g0⟩ Z Z Z ?_;refine I1a Z Z ?_;refine M2a I3a Z (fun w1 hw=>hw.1.cells 4 Z) Z Z ?_;refine n0a ?_;refine p5a ⟨I0.tail,g0⟩ Z Z Z ?_;refine w3a Z Z Z ?_;refine j0a I0 R6b Z Z (d6a N1a 0 _ Z [] _ _ (y0.keep K6)) ?_;rintro B2 L2 ⟨i2,rfl,s1⟩ R0 D0;have r0:=g0.trans D0;replace K6:=K6.trans D0;replace b0:=b0.trans D0;replace c0:=c0.trans D0;replace j0:=j0.keep (D0.of_nil);obtain⟨V1,u2,y2,rfl,-⟩:=s1.cells;refine X0a ⟨Z,?_⟩;refine p5a ⟨R0.tail,r0⟩ Z Z Z ?_;refine w3a Z Z Z ?_;refine g0a R0 F5c Z Z (A7b (b3a N1a 0) _ _ s1 ((y0.keep K6).msk) (hN.keep (R0.keep0 [])) (by rw[y4a];exact p1d) (by rw[y4a];exact q5c) (by rw[y4a,d7b];decide)) ?_;intro N2 x0 E0;have e0:=r0.trans E0;replace K6:=K6.trans E0;replace b0:=b0.trans E0;replace c0:=c0.trans E0;replace j0:=j0.keep (E0.of_nil);refine X0a ⟨Z,?_⟩;refine P1a ⟨x0.tail,e0⟩ Z Z Z ?_;refine I1a Z Z ?_;refine H4b Z Z Z (fun _=>?_) (fun h=>absurd (by rw[y4a,d7b];rfl) h);refine n0a ?_;refine P1a ⟨x0.tail,e0⟩ Z Z Z ?_;refine S4a Z (v:=.bool _) Z Z ?_;refine n0a ?_;refine P1a ⟨x0.tail,e0⟩ Z Z Z ?_;refine m1a (hv:=Z) (v:=.bool _) Z ?_;refine n0a ?_;refine P1a ⟨x0.tail,e0⟩ Z Z Z ?_;refine I1a Z Z ?_;refine M2a I3a Z (fun w1 hw=>hw.1.cells 4 Z) Z Z ?_;refine n0a ?_;refine P1a ⟨x0.tail,e0⟩ Z Z Z ?_;refine I1a Z Z ?_;refine M2a I3a Z (fun w1 hw=>hw.1.cells 4 Z) Z Z ?_;refine n0a ?_;refine p5a ⟨x0.tail,e0⟩ Z Z Z ?_;refine w3a Z Z Z ?_;refine j0a x0 w9b Z Z (D6c N1a 1 [] _ _ (y0.keep K6)) ?_;rintro C2 P2 ⟨j2,rfl,n0⟩ n1 F0;have s0:=e0.trans F0;replace K6:=K6.trans F0;replace b0:=b0.trans F0;replace c0:=c0.trans F0;replace j0:=j0.keep (F0.of_nil);obtain⟨W1,v2,z2,rfl,-⟩:=n0.cells;refine X0a ⟨Z,?_⟩;refine p5a ⟨n1.tail,s0⟩ Z Z Z ?_;refine w3a Z Z Z ?_;refine j0a n1 R6b Z Z (d6a N1a 0 _ Z [] _ _ (y0.keep K6)) ?_;rintro D2 Q2 ⟨m2,rfl,t1⟩ o1 z0;have t0:=s0.trans z0;replace n0:=RdE.keep (z0.of_nil) _ _ n0;replace K6:=K6.trans z0;replace b0:=b0.trans z0;replace c0:=c0.trans z0;replace j0:=j0.keep (z0.of_nil);obtain⟨Y1,x2,A2,rfl,-⟩:=t1.cells;refine X0a ⟨Z,?_⟩;refine p5a ⟨o1.tail,t0⟩ Z Z Z ?_;refine w3a Z Z Z ?_;refine g0a o1 N6b Z Z (Y2a (p0b (onE N1a 1) (b3a N1a 0) [] _ _ _ n0 t1) (W9c (j4b.trans y4a.symm))) ?_;intro R2 f0 G0;have a0:=t0.trans G0;replace n0:=RdE.keep (G0.of_nil) _ _ n0;replace K6:=K6.trans G0;replace b0:=b0.trans G0;replace c0:=c0.trans G0;replace j0:=j0.keep (G0.of_nil);refine X0a ⟨Z,?_⟩;refine P1a ⟨f0.tail,a0⟩ Z Z Z ?_;refine S4a Z (v:=.bool _) Z Z ?_;refine n0a ?_;refine P1a ⟨f0.tail,a0⟩ Z Z Z ?_;refine m1a (hv:=Z) (v:=.bool _) Z ?_;refine n0a ?_;refine P1a ⟨f0.tail,a0⟩ Z Z Z ?_;refine I1a Z Z ?_;refine m1a (hv:=Z) (v:=.int .i64 _) Z ?_;refine n0a ?_;refine P1a ⟨f0.tail,a0⟩ Z Z Z ?_;refine I1a Z Z ?_;refine k1c Z Z Z (fun z1=>?_) fun z1=>?_
  ·refine n0a ?_;refine P1a ⟨f0.tail,a0⟩ Z Z Z ?_;refine S4a Z (v:=.bool _) Z Z ?_;refine n0a ?_;refine P1a ⟨f0.tail,a0⟩ Z Z Z ?_;refine m1a (hv:=Z) (v:=.bool _) Z ?_;refine n0a ?_;refine P1a ⟨f0.tail,a0⟩ Z Z Z ?_;refine I1a Z Z ?_;refine m1a (hv:=Z) (v:=.int .i64 _) Z ?_;refine n0a ?_;refine P1a ⟨f0.tail,a0⟩ Z Z Z ?_;refine I1a Z Z ?_;refine k1c Z Z Z (fun A1=>?_) fun A1=>?_
   ·refine n0a ?_;refine P1a ⟨f0.tail,a0⟩ Z Z Z ?_;refine S4a Z (v:=.bool _) Z Z ?_;refine n0a ?_;refine P1a ⟨f0.tail,a0⟩ Z Z Z ?_;refine m1a (hv:=Z) (v:=.bool _) Z ?_;refine n0a ?_;refine P1a ⟨f0.tail,a0⟩ Z Z Z ?_;refine I1a Z Z ?_;refine U0a C9a Z Z ?_;refine n0a ?_;refine P1a ⟨f0.tail,a0⟩ Z Z Z ?_;refine I1a Z Z ?_;refine i0a B5a Z (fun w1 hw=>by exact hw.1.cell 2 Z Z) Z ?_;refine n0a ?_;refine P1a ⟨f0.tail,a0⟩ Z Z Z ?_;refine I1a Z Z ?_;refine G2a c4a (vs:=[(0,.int .i64 _),(1,.int .i64 _)]) (cs:=[_,_]) Z Z Z Z ?_;refine n0a ?_;refine P1a ⟨f0.tail,a0⟩ Z Z Z ?_;refine I1a Z Z ?_;refine G2a c4a (vs:=[(0,.int .i64 _),(1,.int .i64 _)]) (cs:=[_,_]) Z Z Z Z ?_;refine n0a ?_;refine P1a ⟨f0.tail,a0⟩ Z Z Z ?_;refine I1a Z Z ?_;refine G2a c4a (vs:=[(0,.int .i64 _),(1,.int .i64 _)]) (cs:=[_,_]) Z Z Z Z ?_;refine n0a ?_;refine p5a ⟨f0.tail,a0⟩ Z Z Z ?_;refine w3a Z Z Z ?_;refine k0a f0 u3a (vs:=[.agg _,.agg _,.agg _]) (cs:=[_,_,_,_,_,_]) Z Z Z Z Z Z ?_;intro p2 T2 U0 H0 a2;have u0:=a0.trans H0;replace n0:=RdE.keep (H0.of_nil) _ _ n0;replace K6:=K6.trans H0;replace b0:=b0.trans H0;replace c0:=c0.trans H0;replace j0:=j0.keep (H0.of_nil);refine X0a ⟨Z,?_⟩;refine p5a ⟨U0.tail.tail,u0⟩ Z Z Z ?_;refine w3a Z Z Z ?_;refine g0a U0 t1b Z Z (Y2a (Q2a [] _ _ _ _ [(0,0),(0,1),(1,1)] (Y0.keep b0) (F1d (c:=[_,_]) (c2:=[_,_]) (c3:=[_,_]) (U0.cells 0 Z) Z Z Z ⟨Z,i0,i0⟩ ⟨Z,i0,i1⟩ ⟨Z,i1,i1⟩)) (decide_eq_true Z)) ?_;intro U2 o0 L0;have d0:=u0.trans L0;replace n0:=RdE.keep (L0.of_nil) _ _ n0;replace K6:=K6.trans L0;replace b0:=b0.trans L0;replace c0:=c0.trans L0;replace j0:=j0.keep (L0.of_nil);refine X0a ⟨Z,?_⟩;refine P1a ⟨o0.tail.tail,d0⟩ Z Z Z ?_;refine S4a Z (v:=.bool _) Z Z ?_;refine n0a ?_;refine P1a ⟨o0.tail.tail,d0⟩ Z Z Z ?_;refine m1a (hv:=Z) (v:=.bool _) Z ?_;refine n0a ?_;refine P1a ⟨o0.tail.tail,d0⟩ Z Z Z ?_;refine I1a Z Z ?_;refine U0a C9a Z Z ?_;refine n0a ?_;refine P1a ⟨o0.tail.tail,d0⟩ Z Z Z ?_;refine I1a Z Z ?_;refine i0a B5a Z (fun w1 hw=>by exact hw.1.cell 0 Z Z) Z ?_;refine n0a ?_;refine P1a ⟨o0.tail.tail,d0⟩ Z Z Z ?_;refine I1a Z Z ?_;refine G2a c4a (vs:=[(0,.int .i64 _),(1,.int .i64 _)]) (cs:=[_,_]) Z Z Z Z ?_;refine n0a ?_;refine P1a ⟨o0.tail.tail,d0⟩ Z Z Z ?_;refine I1a Z Z ?_;refine G2a c4a (vs:=[(0,.int .i64 _),(1,.int .i64 _)]) (cs:=[_,_]) Z Z Z Z ?_;refine n0a ?_;refine p5a ⟨o0.tail.tail,d0⟩ Z Z Z ?_;refine w3a Z Z Z ?_;refine k0a o0 u3a (vs:=[.agg _,.agg _]) (cs:=[_,_,_,_]) Z Z Z Z Z Z ?_;intro q2 V2 V0 N0 b2;have v0:=d0.trans N0;replace n0:=RdE.keep (N0.of_nil) _ _ n0;replace K6:=K6.trans N0;replace b0:=b0.trans N0;replace c0:=c0.trans N0;replace j0:=j0.keep (N0.of_nil);refine X0a ⟨Z,?_⟩;refine p5a ⟨V0.tail.tail.tail,v0⟩ Z Z Z ?_;refine w3a Z Z Z ?_;refine g0a V0 t1b Z Z (Y2a (Q2a [] _ _ _ _ [(0,0),(1,1)] (Z0.keep c0) (U1b (c:=[_,_]) (c2:=[_,_]) (V0.cells 0 Z) Z Z ⟨Z,i0,i0⟩ ⟨Z,i1,i1⟩)) (decide_eq_true Z)) ?_;intro W2 J0 P0;have m0:=v0.trans P0;replace n0:=RdE.keep (P0.of_nil) _ _ n0;replace K6:=K6.trans P0;replace b0:=b0.trans P0;replace c0:=c0.trans P0;replace j0:=j0.keep (P0.of_nil);refine X0a ⟨Z,?_⟩;refine P1a ⟨J0.tail.tail.tail,m0⟩ Z Z Z ?_;refine S4a Z (v:=.bool _) Z Z ?_;refine n0a ?_;refine P1a ⟨J0.tail.tail.tail,m0⟩ Z Z Z ?_;refine u4a (v:=.bool _) Z Z ?_;refine n0a ?_;refine R0b ⟨J0.tail.tail.tail,m0⟩ ?_;refine fR0 Z U (s0a Z ?_);exact⟨Z,J0.fin⟩
   exfalso;omega
  exfalso;omega
 refine p5a ⟨O0,A0⟩ Z Z Z ?_;refine k0a O0 u3a (vs:=[.agg _,.agg _]) (cs:=[_,_,_,_]) Z Z Z Z Z Z ?_;intro o2 J2 d1 B0 Z1;have q0:=A0.trans B0;replace K6:=K6.trans B0;replace b0:=b0.trans B0;replace c0:=c0.trans B0;refine X0a ⟨Z,?_⟩;refine p5a ⟨d1.tail,q0⟩ Z Z Z ?_;refine j0a d1 J5c Z Z (w1b N1a [] _ _ (y0.keep K6)) ?_;rintro v20 I2 ⟨s2,j0,a1,X0,-⟩ c1 K0;have p0:=q0.trans K0;replace K6:=K6.trans K0;replace b0:=b0.trans K0;replace c0:=c0.trans K0;obtain rfl:=G6b a1 X0;obtain⟨U1,t2,h2,rfl⟩:=j0.form;refine X0a ⟨Z,?_⟩;refine p5a ⟨c1.tail,p0⟩ Z Z Z ?_;refine g0a c1 t1b Z Z (Y2a (Q2a [] _ _ _ _ [(0,1),(1,0)] j0 (U1b (c:=[_,_]) (c2:=[_,_]) (c1.cells 0 Z) Z Z ⟨Z,i0,i1⟩ ⟨Z,i1,i0⟩)) (decide_eq_true Z)) ?_;intro K2 I0 C0;have g0:=p0.trans C0;replace K6:=K6.trans C0;replace b0:=b0.trans C0;replace c0:=c0.trans C0;refine X0a ⟨Z,?_⟩;refine P1a ⟨I0.tail,g0⟩ Z Z Z ?_;refine m1a (hv:=Z) (v:=.bool _) Z ?_;refine n0a ?_;refine P1a ⟨I0.tail,g0⟩ Z Z Z ?_;refine I1a Z Z ?_;refine M2a I3a Z (fun w1 hw=>hw.1.cells 4 Z) Z Z ?_;refine n0a ?_;refine p5a ⟨I0.tail,g0⟩ Z Z Z ?_;refine w3a Z Z Z ?_;refine j0a I0 R6b Z Z (d6a N1a 0 _ Z [] _ _ (y0.keep K6)) ?_;rintro B2 L2 ⟨i2,rfl,s1⟩ R0 D0;have r0:=g0.trans D0;replace K6:=K6.trans D0;replace b0:=b0.trans D0;replace c0:=c0.trans D0;obtain⟨V1,u2,y2,rfl,-⟩:=s1.cells;refine X0a ⟨Z,?_⟩;refine p5a ⟨R0.tail,r0⟩ Z Z Z ?_;refine w3a Z Z Z ?_;refine g0a R0 F5c Z Z (A7b (b3a N1a 0) _ _ s1 ((y0.keep K6).msk) (hN.keep (R0.keep0 [])) (by rw[y4a];exact p1d) (by rw[y4a];exact q5c) (by rw[y4a,d7b];decide)) ?_;intro N2 x0 E0;have e0:=r0.trans E0;replace K6:=K6.trans E0;replace b0:=b0.trans E0;replace c0:=c0.trans E0;refine X0a ⟨Z,?_⟩;refine P1a ⟨x0.tail,e0⟩ Z Z Z ?_;refine I1a Z Z ?_;refine H4b Z Z Z (fun _=>?_) (fun h=>absurd (by rw[y4a,d7b];rfl) h);refine n0a ?_;refine P1a ⟨x0.tail,e0⟩ Z Z Z ?_;refine S4a Z (v:=.bool _) Z Z ?_;refine n0a ?_;refine P1a ⟨x0.tail,e0⟩ Z Z Z ?_;refine m1a (hv:=Z) (v:=.bool _) Z ?_;refine n0a ?_;refine P1a ⟨x0.tail,e0⟩ Z Z Z ?_;refine I1a Z Z ?_;refine M2a I3a Z (fun w1 hw=>hw.1.cells 4 Z) Z Z ?_;refine n0a ?_;refine P1a ⟨x0.tail,e0⟩ Z Z Z ?_;refine I1a Z Z ?_;refine M2a I3a Z (fun w1 hw=>hw.1.cells 4 Z) Z Z ?_;refine n0a ?_;refine p5a ⟨x0.tail,e0⟩ Z Z Z ?_;refine w3a Z Z Z ?_;refine j0a x0 w9b Z Z (D6c N1a 1 [] _ _ (y0.keep K6)) ?_;rintro C2 P2 ⟨j2,rfl,n0⟩ n1 F0;have s0:=e0.trans F0;replace K6:=K6.trans F0;replace b0:=b0.trans F0;replace c0:=c0.trans F0;obtain⟨W1,v2,z2,rfl,-⟩:=n0.cells;refine X0a ⟨Z,?_⟩;refine p5a ⟨n1.tail,s0⟩ Z Z Z ?_;refine w3a Z Z Z ?_;refine j0a n1 R6b Z Z (d6a N1a 0 _ Z [] _ _ (y0.keep K6)) ?_;rintro D2 Q2 ⟨m2,rfl,t1⟩ o1 z0;have t0:=s0.trans z0;replace n0:=RdE.keep (z0.of_nil) _ _ n0;replace b0:=b0.trans z0;replace c0:=c0.trans z0;obtain⟨Y1,x2,A2,rfl,-⟩:=t1.cells;refine X0a ⟨Z,?_⟩;refine p5a ⟨o1.tail,t0⟩ Z Z Z ?_;refine w3a Z Z Z ?_;refine g0a o1 N6b Z Z (Y2a (p0b (onE N1a 1) (b3a N1a 0) [] _ _ _ n0 t1) (W9c (j4b.trans y4a.symm))) ?_;intro R2 f0 G0;have a0:=t0.trans G0;replace b0:=b0.trans G0;replace c0:=c0.trans G0;refine X0a ⟨Z,?_⟩;refine P1a ⟨f0.tail,a0⟩ Z Z Z ?_;refine S4a Z (v:=.bool _) Z Z ?_;refine n0a ?_;refine P1a ⟨f0.tail,a0⟩ Z Z Z ?_;refine m1a (hv:=Z) (v:=.bool _) Z ?_;refine n0a ?_;refine P1a ⟨f0.tail,a0⟩ Z Z Z ?_;refine I1a Z Z ?_;refine m1a (hv:=Z) (v:=.int .i64 _) Z ?_;refine n0a ?_;refine P1a ⟨f0.tail,a0⟩ Z Z Z ?_;refine I1a Z Z ?_;refine k1c Z Z Z (fun z1=>?_) fun z1=>?_
 ·refine n0a ?_;refine P1a ⟨f0.tail,a0⟩ Z Z Z ?_;refine S4a Z (v:=.bool _) Z Z ?_;refine n0a ?_;refine P1a ⟨f0.tail,a0⟩ Z Z Z ?_;refine m1a (hv:=Z) (v:=.bool _) Z ?_;refine n0a ?_;refine P1a ⟨f0.tail,a0⟩ Z Z Z ?_;refine I1a Z Z ?_;refine m1a (hv:=Z) (v:=.int .i64 _) Z ?_;refine n0a ?_;refine P1a ⟨f0.tail,a0⟩ Z Z Z ?_;refine I1a Z Z ?_;refine k1c Z Z Z (fun A1=>?_) fun A1=>?_
  ·refine n0a ?_;refine P1a ⟨f0.tail,a0⟩ Z Z Z ?_;refine S4a Z (v:=.bool _) Z Z ?_;refine n0a ?_;refine P1a ⟨f0.tail,a0⟩ Z Z Z ?_;refine m1a (hv:=Z) (v:=.bool _) Z ?_;refine n0a ?_;refine P1a ⟨f0.tail,a0⟩ Z Z Z ?_;refine I1a Z Z ?_;refine U0a C9a Z Z ?_;refine n0a ?_;refine P1a ⟨f0.tail,a0⟩ Z Z Z ?_;refine I1a Z Z ?_;refine i0a B5a Z (fun w1 hw=>by exact hw.1.cell 2 Z Z) Z ?_;refine n0a ?_;refine P1a ⟨f0.tail,a0⟩ Z Z Z ?_;refine I1a Z Z ?_;refine G2a c4a (vs:=[(0,.int .i64 _),(1,.int .i64 _)]) (cs:=[_,_]) Z Z Z Z ?_;refine n0a ?_;refine P1a ⟨f0.tail,a0⟩ Z Z Z ?_;refine I1a Z Z ?_;refine G2a c4a (vs:=[(0,.int .i64 _),(1,.int .i64 _)]) (cs:=[_,_]) Z Z Z Z ?_;refine n0a ?_;refine P1a ⟨f0.tail,a0⟩ Z Z Z ?_;refine I1a Z Z ?_;refine G2a c4a (vs:=[(0,.int .i64 _),(1,.int .i64 _)]) (cs:=[_,_]) Z Z Z Z ?_;refine n0a ?_;refine p5a ⟨f0.tail,a0⟩ Z Z Z ?_;refine w3a Z Z Z ?_;refine k0a f0 u3a (vs:=[.agg _,.agg _,.agg _]) (cs:=[_,_,_,_,_,_]) Z Z Z Z Z Z ?_;intro p2 T2 U0 H0 a2;have u0:=a0.trans H0;replace b0:=b0.trans H0;replace c0:=c0.trans H0;refine X0a ⟨Z,?_⟩;refine p5a ⟨U0.tail.tail,u0⟩ Z Z Z ?_;refine w3a Z Z Z ?_;refine g0a U0 t1b Z Z (Y2a (Q2a [] _ _ _ _ [(0,0),(0,1),(1,1)] (Y0.keep b0) (F1d (c:=[_,_]) (c2:=[_,_]) (c3:=[_,_]) (U0.cells 0 Z) Z Z Z ⟨Z,i0,i0⟩ ⟨Z,i0,i1⟩ ⟨Z,i1,i1⟩)) (decide_eq_true Z)) ?_;intro U2 o0 L0;have d0:=u0.trans L0;replace c0:=c0.trans L0;refine X0a ⟨Z,?_⟩;refine P1a ⟨o0.tail.tail,d0⟩ Z Z Z ?_;refine S4a Z (v:=.bool _) Z Z ?_;refine n0a ?_;refine P1a ⟨o0.tail.tail,d0⟩ Z Z Z ?_;refine m1a (hv:=Z) (v:=.bool _) Z ?_;refine n0a ?_;refine P1a ⟨o0.tail.tail,d0⟩ Z Z Z ?_;refine I1a Z Z ?_;refine U0a C9a Z Z ?_;refine n0a ?_;refine P1a ⟨o0.tail.tail,d0⟩ Z Z Z ?_;refine I1a Z Z ?_;refine i0a B5a Z (fun w1 hw=>by exact hw.1.cell 0 Z Z) Z ?_;refine n0a ?_;refine P1a ⟨o0.tail.tail,d0⟩ Z Z Z ?_;refine I1a Z Z ?_;refine G2a c4a (vs:=[(0,.int .i64 _),(1,.int .i64 _)]) (cs:=[_,_]) Z Z Z Z ?_;refine n0a ?_;refine P1a ⟨o0.tail.tail,d0⟩ Z Z Z ?_;refine I1a Z Z ?_;refine G2a c4a (vs:=[(0,.int .i64 _),(1,.int .i64 _)]) (cs:=[_,_]) Z Z Z Z ?_;refine n0a ?_;refine p5a ⟨o0.tail.tail,d0⟩ Z Z Z ?_;refine w3a Z Z Z ?_;refine k0a o0 u3a (vs:=[.agg _,.agg _]) (cs:=[_,_,_,_]) Z Z Z Z Z Z ?_;intro q2 V2 V0 N0 b2;have v0:=d0.trans N0;replace c0:=c0.trans N0;refine X0a ⟨Z,?_⟩;refine p5a ⟨V0.tail.tail.tail,v0⟩ Z Z Z ?_;refine w3a Z Z Z ?_;refine g0a V0 t1b Z Z (Y2a (Q2a [] _ _ _ _ [(0,0),(1,1)] (Z0.keep c0) (U1b (c:=[_,_]) (c2:=[_,_]) (V0.cells 0 Z) Z Z ⟨Z,i0,i0⟩ ⟨Z,i1,i1⟩)) (decide_eq_true Z)) ?_;intro W2 J0 P0;have m0:=v0.trans P0;refine X0a ⟨Z,?_⟩;refine P1a ⟨J0.tail.tail.tail,m0⟩ Z Z Z ?_;refine S4a Z (v:=.bool _) Z Z ?_;refine n0a ?_;refine P1a ⟨J0.tail.tail.tail,m0⟩ Z Z Z ?_;refine u4a (v:=.bool _) Z Z ?_;refine n0a ?_;refine R0b ⟨J0.tail.tail.tail,m0⟩ ?_;refine fR0 Z U (s0a Z ?_);exact⟨Z,J0.fin⟩
  exfalso;omega
 exfalso;omega
theorem j0b(w0:World)(v u i:Value)(C W:List Int)(l:List (Int×Int))(a0:Nat)(hv:∃A m c,v=.slice A m c)(hW:RdI [] w0 u W)(hL:j9a [] w0 i l)(h:P9a C W)(hb:b2a W=a0)(hb6:a0≤6)(hl:∀x∈l,0≤x.1∧x.1<(2 ^ a0:Nat)∧0≤x.2∧x.2<(2 ^ a0:Nat))(m1:∀x:Nat,x<2 ^ a0→((x:Int),(x:Int))∈l)(V1:∀x y z:Nat,((x:Int),(y:Int))∈l→((y:Int),(z:Int))∈l→((x:Int),(z:Int))∈l):
 E0a prog 36 #[.agg #[v,u,i],.int .i64 (2 ^ a0:Nat)] w0 fun v w'=>v=.bool true∧Below w0.heap.size w0 w':=by
 obtain⟨A,n,c,rfl⟩:=hv;obtain⟨A',n',c',rfl⟩:=hW.form;obtain⟨Al,nl,cl,rfl⟩:=hL.form;obtain⟨_,-,_⟩:=hL.len;have T1:2 ^ a0≤64:=by have:=Nat.pow_le_pow_right (n:=2) (by omega) hb6;omega
 have v0:=fun w1 (h1:RdI [] w1 (.slice A' n' c') W) (h2:j9a [] w1 (.slice Al nl cl) l)=>h8b [] w1 (.slice A n c) _ _ C W l a0 ⟨_,_,_,Z⟩ h1 h2 h hb hb6 hl;obtain⟨nn,U1⟩:∃nn,nn=2 ^ a0:=⟨_,Z⟩;rw[←U1] at T1 hl m1 v0 ⊢;obtain⟨F,hF⟩:∃F,F=fun(x y:Nat)=>decide (((x:Int),(y:Int))∈l):=⟨_,Z⟩;rw[←hF] at v0;have S:=St.refl w0;refine a0a func36 Z ntmps36 Z ?_;refine wO0 Z U (p0a S Z ?_);intro g2 w2 S2 X2 G2;refine lO S2.k [.w 0] Z ⟨⟨Z,Z⟩,U⟩ (j0a S2 E0d Z Z (v0 _ (hW.keep (S2.keep0 [])) (hL.keep (S2.keep0 []))) ?_);rintro q2 D0 P0 r1 o2;have b0:=P0.rd (by omega) (M:=[]) (by simp);obtain⟨E0,C0,F0,rfl⟩:=b0.form;obtain⟨V0,-,_⟩:=b0.len;have j1:C0=nn:=by rw[V0];simp[O9c]
 have p1:=u0a.refl [] D0;refine lC0 Z U (wL (fun μx D ε w=>D=[]∧∃x:Nat,(x+μx=(nn))∧(u0a [] D0 w)∧St [] w0 w [(some g2,41,[.slice A n c,.slice A' n' c',.slice Al nl cl])]∧Sl ε [(1,.int .i64 nn),(2,.pointer (some ⟨g2,0,none⟩)),(5,.slice E0 C0 F0),(6,.int .i64 x)]) (μ:=(nn)) ⟨Z,0,by omega,p1,r1,Z⟩ ?_);rintro μx D ε w ⟨rfl,x,hx,KM,S,eZ⟩;refine wK eZ (wB0 Z U (fun P1=>?_) fun P1=>?_)
 ·obtain⟨r,s1,W1,B1,d1,G0,_,_,p0,f0⟩:=RdS.get (b0) (x) (by omega);obtain⟨j2,J1,x0⟩:=f0;replace p0:=p0.keep KM List.not_mem_nil;obtain rfl:B1=[j2]:=J1;obtain⟨_,_,_,rfl⟩:=x0.form;have f0:=k9a (f:=F) (x:=x) (n:=nn);rw[d1] at f0;cases f0;have S0:((List.range nn).map (F x)).length=nn:=by simp
  obtain⟨W0,-,_⟩:=x0.len;rw[S0] at W0;obtain⟨z,t1,X1,C1,o1,H0,_,_,c0,s0⟩:=RdS.get (x0) (x) (by omega);obtain s0:=s0;replace c0:=c0.keep KM List.not_mem_nil;obtain rfl:C1=[Value.bool z]:=s0;have g1:z=true:=by rw[W2b] at o1;rw[←Option.some.inj o1,hF];exact decide_eq_true (m1 x (by omega))
  refine lO (S.k.b p0) [.x s1 W1,.f 0 0,.x t1 X1] Z ⟨⟨H0,by omega⟩,Z,⟨G0,by omega⟩,U⟩ ?_;cases m0:z
  ·refine B0a I2a Z (by exact(c0 0 _ Z).trans (congrArg (fun b=>some (Value.bool b)) m0)) Z ?_;refine lR0 Z U (s0a Z ?_);exact absurd (g1.symm.trans m0) (by decide);done
  refine B0a I2a Z (by exact(c0 0 _ Z).trans (congrArg (fun b=>some (Value.bool b)) m0)) Z ?_;refine lP0 Z ⟨by omega,U⟩ ⟨μx-1,by omega,Z,(x+1),(by omega),(KM),S,Z⟩
 refine lC0 Z U (wL (fun μi D ε w=>D=[]∧∃i:Nat,(i+μi=(l.length))∧(u0a [] D0 w)∧St [] w0 w [(some g2,41,[.slice A n c,.slice A' n' c',.slice Al nl cl])]∧Sl ε [(1,.int .i64 nn),(2,.pointer (some ⟨g2,0,none⟩)),(5,.slice E0 C0 F0),(7,.int .i64 i)]) (μ:=(l.length)) ⟨Z,0,by omega,KM,S,Z⟩ ?_);rintro μi D ε w ⟨rfl,i,_,q1,S,eZ⟩;refine wK eZ (wB S.k [.o 0] Z ⟨Z,U⟩ (fun Q1=>?_) fun Q1=>?_)
 ·refine lC0 Z U (wL (fun μz D ε w=>D=[]∧∃z:Nat,(z+μz=(nn))∧(u0a [] D0 w)∧St [] w0 w [(some g2,41,[.slice A n c,.slice A' n' c',.slice Al nl cl])]∧Sl ε [(1,.int .i64 nn),(2,.pointer (some ⟨g2,0,none⟩)),(5,.slice E0 C0 F0),(7,.int .i64 i),(8,.int .i64 z)]) (μ:=(nn)) ⟨Z,0,by omega,q1,S,Z⟩ ?_);rintro μz D ε w ⟨rfl,z,_,j0,S,eZ⟩;refine wK eZ (wB0 Z U (fun R1=>?_) fun R1=>?_)
  ·obtain⟨x,B0⟩:∃x,l[i]?=some x:=⟨l[i]'(by omega),List.getElem?_eq_getElem _⟩;have hx:=hl x (d0a B0);obtain⟨_,u1,Y1,D1,b1,I0,_,_,Q0,Z0⟩:=RdS.get (hL) (i) (by omega);obtain rfl:=Option.some.inj (B0.symm.trans b1);obtain⟨K1,_⟩:=Z0;obtain rfl:D1=pc x:=K1;refine lO S.k [.o 0,.x u1 Y1] Z ⟨⟨I0,by omega⟩,Z,U⟩ (O1a H1a Z Z Z ?_);refine B0a x0a Z (by exact S.old (Q0 _ _ Z)) Z ?_;obtain⟨r,v1,Z1,E1,d1,J0,_,_,q0,g0⟩:=RdS.get (b0) (x.2.toNat) (by omega);obtain⟨m2,M1,y0⟩:=g0;replace q0:=q0.keep j0 List.not_mem_nil;obtain rfl:E1=[m2]:=M1;obtain⟨_,_,_,rfl⟩:=y0.form;have g0:=k9a (f:=F) (x:=x.2.toNat) (n:=nn);rw[d1] at g0;cases g0;have T0:((List.range nn).map (F x.2.toNat)).length=nn:=by simp
   obtain⟨X0,-,_⟩:=y0.len;rw[T0] at X0;obtain⟨b,x1,a2,F1,n1,K0,_,_,d0,t0⟩:=RdS.get (y0) (z) (by omega);obtain t0:=t0;replace d0:=d0.keep j0 List.not_mem_nil;obtain rfl:F1=[Value.bool b]:=t0;rw[W2b] at n1;refine lO (S.k.b q0) [.x v1 Z1,.f 0 0,.x x1 a2] Z ⟨⟨K0,by omega⟩,Z,⟨J0,by omega⟩,U⟩ ?_;cases n0:b
   ·refine B0a I2a Z (by exact(d0 0 _ Z).trans (congrArg (fun b=>some (Value.bool b)) n0)) Z ?_;refine lP0 Z ⟨by omega,U⟩ ⟨μz-1,by omega,Z,(z+1),(by omega),(j0),S,Z⟩
   refine B0a I2a Z (by exact(d0 0 _ Z).trans (congrArg (fun b=>some (Value.bool b)) n0)) Z ?_;obtain⟨_,y1,d2,G1,c1,L0,_,_,R0,a1⟩:=RdS.get (hL) (i) (by omega);obtain rfl:=Option.some.inj (B0.symm.trans c1);obtain⟨N1,_⟩:=a1;obtain rfl:G1=pc x:=N1;refine lO S.k [.o 0,.x y1 d2] Z ⟨⟨L0,by omega⟩,Z,U⟩ (O1a H1a Z Z Z ?_);refine lO0 Z U (B0a x0a Z (by exact S.old (R0 _ _ Z)) Z ?_);obtain⟨_,z1,f2,H1,f1,N0,_,_,r0,i0⟩:=RdS.get (b0) (x.1.toNat) (by omega);obtain⟨n2,O1,z0⟩:=i0;replace r0:=r0.keep j0 List.not_mem_nil;obtain rfl:H1=[n2]:=O1;obtain⟨_,_,_,rfl⟩:=z0.form;have i0:=k9a (f:=F) (x:=x.1.toNat) (n:=nn);rw[f1] at i0;cases i0;have U0:((List.range nn).map (F x.1.toNat)).length=nn:=by simp
   obtain⟨Y0,-,_⟩:=z0.len;rw[U0] at Y0;refine lOn 3 (S.k.b r0) [.x z1 f2,.f 0 0] Z ⟨Z,⟨N0,by omega⟩,U⟩ ?_;obtain⟨b2,A1,i2,I1,A0,O0,_,_,e0,u0⟩:=RdS.get (z0) (z) (by omega);obtain u0:=u0;replace e0:=e0.keep j0 List.not_mem_nil;obtain rfl:I1=[Value.bool b2]:=u0;rw[W2b] at A0;have i1:b2=true:=by
    have e1:=Option.some.inj n1;rw[n0,hF] at e1;have e2:=of_decide_eq_true e1;rw[←Option.some.inj A0,hF];refine decide_eq_true (V1 _ x.2.toNat z ?_ e2);have p2:=d0a B0
    rwa [show(((x.1.toNat:Nat):Int),((x.2.toNat:Nat):Int))=x from Prod.ext (by simp only;omega) (by simp only;omega)]
   refine lO S.k [.x A1 i2] Z ⟨⟨O0,by omega⟩,U⟩ ?_;cases o0:b2
   ·refine B0a I2a Z (by exact(e0 0 _ Z).trans (congrArg (fun b=>some (Value.bool b)) o0)) Z ?_;refine lR0 Z U (s0a Z ?_);exact absurd (i1.symm.trans o0) (by decide);done
   refine B0a I2a Z (by exact(e0 0 _ Z).trans (congrArg (fun b=>some (Value.bool b)) o0)) Z ?_;refine lP0 Z ⟨by omega,U⟩ ⟨μz-1,by omega,Z,(z+1),(by omega),(j0),S,Z⟩
  refine lP0 Z ⟨by omega,U⟩ ⟨μi-1,by omega,Z,(i+1),(by omega),(j0),S,Z⟩
 exact lT Z U Z ⟨Z,S.fin⟩
section
variable {α:Type}
theorem I2b.cell{size:Nat}{w0:World}{G:Option Nat}{cs:List Value}{v u:Value}{css:List (List Value)}{c:List Value}{i j o:Nat}(h:I2b size w0 G cs v css)(hi:css[i]?=some c)(hj:c[j]?=some u)(ho:o=i*size+j):cs[o]?=some u:=by
 subst ho;obtain⟨xs,_,q2,⟨_,hr⟩,q4⟩:=h;obtain⟨y,h5,h6⟩:=q4 i c hi;obtain rfl:=h6.1;have hf:=G8b xs i y q2 h5 j u hj;rcases hr with⟨rfl,rfl,h0⟩|⟨g,a0,rfl,rfl,r1,r2,r3,r4⟩
 ·have:=(List.getElem?_eq_some_iff.1 hi).1;omega
 ·rw[←r4,List.getElem?_take] at hf
  split at hf
  ·exact hf
  ·cases hf
theorem I2b.room{size:Nat}{w0:World}{G:Option Nat}{cs:List Value}{v:Value}{css:List (List Value)}{k:Nat}(h:I2b size w0 G cs v css)(hk:k<css.length):(k+1)*size≤cs.length:=by
 rcases h.cap with h|h
 ·exact Nat.le_trans (Nat.mul_le_mul_right _ hk) h
 ·subst h;simp at hk
end
abbrev g9b:List Value:=[.int .i64 1,.int .i64 1,.int .i64 1,.slice none 0 0]
theorem D3c:∀u∈g9b,u.oneCell'=true:=by
 intro u hu;simp at hu;rcases hu with rfl|rfl<;>rfl
theorem P3c{M:List Nat}{w:World}:RdE M w C3d g9b:=f1a (by unfold i64;omega) (by unfold i64;omega) (by unfold i64;omega)
section
variable {M:List Nat} {w w':World} {c:List Value} {p:o0a}
theorem S1c{m:j1a}(h:M0a M w c m):c.length=11∧∀u∈c,u.oneCell'=true:=by
 obtain⟨_,_,_,_,_,_,_,_,_,rfl,-⟩:=h.open_;exact⟨Z,by intro u hu;simp at hu;rcases hu with rfl|rfl|rfl|rfl|rfl|rfl|rfl|rfl|rfl|rfl|rfl<;>rfl⟩
theorem z6c{m:j1a}{v:Value}(h:M0a M w c m)(hf:RdI M w v (ofL p (-1))):M0a M w (f0a (f0a c 6 g9b) 10 [v]) (g0d p m):=by
 obtain⟨g0,g1,g2,g3,_,_,_,_,_,rfl,h1,_⟩:=h;exact⟨g0,g1,g2,g3,_,_,_,_,v,Z,h1,P3c,hf⟩
theorem L1c{c:List Value}{j:Nat}{u v:Value}:f0a (f0a c j [u]) j [v]=f0a c j [v]:=by simp[f0a]
theorem Z3c{c:List Value}{j:Nat}{u:Value}(h:j<c.length):(f0a c j [u])[j]?=some u:=by simp[f0a,h]
theorem I0c{m:Nat}{md:j1a}(h:T8a p)(hm:p.modules[m]?=some md):T8a (X4b p m md):=by
 refine⟨h.cells,fun x hx=>?_,h.threads⟩;rcases List.mem_or_eq_of_mem_set hx with h1|rfl
 ·exact h.mods x h1
 ·exact h.mods md (List.mem_of_getElem? hm)
end
theorem u8a(p:o0a)(tn S0 mm:Int)(n4:0≤tn∧tn≤255)(P3:0≤S0∧S0≤4294967295)(j4:0≤mm∧mm≤255)(w0:World)(cs:List Value)(hP:R0a [] w0 p cs)(V2:T8a p)(hK:i2a [] w0)(hN:v7a [] w0):
 E0a prog 6 #[.agg cs.toArray,.int .u8 tn,.int .u32 S0,.int .u8 mm] w0 fun v w'=>v=.bool true∧Below w0.heap.size w0 w':=by
 obtain⟨mk,rfl⟩:=Int.eq_ofNat_of_zero_le P3.1;have D2:mk<2 ^ 32:=by omega
 obtain⟨Ac,nc,cc,Am,nm,cm,Al,nl,cl,At,nt,ct,rfl,hC,K3,I3,L3,_⟩:=hP.open_;obtain⟨p0,_,a2,a3⟩:=RdS.raw (size:=11) K3 (fun _ _ h=>S1c h);have S:=St.refl w0;refine a0a func6 Z ntmps6 Z ?_;refine wO0 Z U (p0a S Z ?_);intro g4 w4 S4 X4 G4;refine lO0 Z U (g0a S4 b2d Z Z (E9b _ (hK.keep (S4.keep0 [])) (hN.keep (S4.keep0 []))) ?_);intro t4 b2 e4;refine lO b2.k [.w 0] Z ⟨⟨Z,Z⟩,U⟩ (t6a b2 R1d Z Z (H1c p [] _ _ (hP.keep (b2.keep0 [])) (by simp) V2) (fun E3 V0 r0 w3=>?_) (fun V0 r0 w3=>?_))
 ·refine lB r0.k [.o 0] Z ⟨Z,U⟩ (fun F3=>?_) fun F3=>?_
  ·exact lT Z U Z ⟨Z,r0.fin⟩
  refine lB r0.k [.o 0] Z ⟨Z,U⟩ (fun G3=>?_) fun G3=>?_
  ·exact lT Z U Z ⟨Z,r0.fin⟩
  have hI:InP p [] w0 [.slice Ac nc cc,.slice Am nm cm,.slice Al nl cl,.slice At nt ct]:=⟨hP,E3,hK,by simp⟩;have hp:=hI.ok;have F1:=hp.ncells;have k4:=hp.nthreads;have m4:=hp.nmodules;refine lO0 Z U (g2b Tryz.underlying5 Tryz.underlying3 Z Z ?_);rw[n5a (by unfold i64;omega)];refine lO r0.k [.o 0] Z ⟨Z,U⟩ (A1d Z Z Z ?_);obtain⟨t,ht,_⟩:=I9b (a:=tn) (b:=(nt:Int));rw[ht];have Q1:t<p.threads.length:=by omega
  refine lO r0.k [.w 0] Z ⟨⟨Z,Z⟩,U⟩ (j0a r0 K1d Z Z (z1b p mk D2 [] _ _ (hP.keep (r0.keep0 [])) F1) ?_);rintro o4 Y3 P0 d2 f4;obtain⟨l,hl⟩:∃l,l=E8b mk p.cells.length:=⟨_,Z⟩;rw[←hl] at P0;obtain⟨g3,R3,C3,rfl⟩:=P0.form;have O0:=P0 [] (by simp);have KS:=u0a.refl [] Y3;have U0:T1a l:=hl▸W7c mk p.cells.length;have hlc:∀c∈l,0≤c∧c<p.cells.length:=fun c hc=>by rw[hl] at hc;obtain⟨i,rfl,h1,-⟩:=E4c.1 hc;omega
  refine lO d2.k [.w 0] Z ⟨⟨Z,Z⟩,U⟩ (t6a d2 G5c Z Z (b1b p t Q1 l U0 hlc [] _ _ _ (hI.keep (d2.keep0 [])) (O0.keep KS)) (fun t2 Z3 a1 R2=>?_) (fun Z3 a1 R2=>?_))
  ·replace KS:=KS.trans R2;have hon:=(t2).1;have N3:∀c∈p.cells,1≤c.w∧c.w≤8:=fun c hc=>(hp.cells c hc).w;have H1:=r6a U0 hlc F1 N3;obtain⟨x2,X2,-,-⟩:=x1b hp U0 hlc t2;refine lO a1.k [.w 0] Z ⟨⟨Z,Z⟩,U⟩ (j0a a1 W6b Z Z (H6b p t Q1 l U0 hlc t2 [] _ _ _ (hI.keep (a1.keep0 [])) (O0.keep KS)) ?_);rintro v55 O1 ⟨_,rfl,y2⟩ r3 x3;replace KS:=KS.trans x3;have p1:=O0.keep KS;obtain⟨_,_,_,F0,rfl,x1,z0,B2,J1,_,g0⟩:=y2.get;obtain⟨A1,n1,c1,rfl⟩:=x1.form;obtain⟨A2,n2,c2,rfl⟩:=z0.form;have q0:=B2 [] (by simp);obtain⟨A3,n3,c3,rfl⟩:=q0.form;obtain⟨_,-,_⟩:=q0.len;have a0:=u0a.refl [] O1;refine lO0 Z U (h0a r3 g6a Z Z ?_);intro S2 q4 o3 s3 i3;have G0:=Nat.le_trans a0.size i3;replace a0:=a0.trans s3;refine c0a (kk:=0) (vs:=[_,_,_]) o3 f6a Z Z Z Z Z Z Z ?_;intro a4 y0 m2;dsimp only[f0a,List.set] at y0;replace a0:=a0.fresh m2 (by exact G0);refine lC0 Z U (y0a b0a [0,1,2,3,4,5,6,7,8,9,10,11,12,13,14,15] [] [] Z (Cl _ _ _ _) (Cl.start y0) ?_);refine qB0 Z U (fun H3=>by exfalso;omega) fun H3=>?_;refine qO y0.q [.w 0] Z ⟨⟨Z,Z⟩,U⟩ ?_;have z1:∀x∈F0,0≤x.1∧x.1<(2 ^ i9b p l:Nat)∧0≤x.2∧x.2<(2 ^ i9b p l:Nat):=fun x hx=>by
    obtain⟨y,z,z2,rfl⟩:=(g0 x).1 hx;have:=z2.lt;simp only;omega
   refine t1a d2d Z Z (fun w1 S1 X1=>x8b [] _ _ _ _ l (wdL p.cells l) F0 (i9b p l) ((x1 [] (by simp)).keep (a0.trans X1)) ((z0 [] (by simp)).keep (a0.trans X1)) (q0.keep (a0.trans X1)) H1 x2 X2 z1 J1) ?_;refine qO y0.q [.w 0,.o 0] Z ⟨Z,⟨Z,Z⟩,U⟩ ?_;refine t1a m0c Z Z (fun w1 S1 X1=>(m2b [] _ _ (wdL p.cells l) ((z0 [] (by simp)).keep (a0.trans X1)) H1.wid (by have:=H1.clen;have:=H1.len;omega)).mono (fun v w' h=>(⟨h.1.trans (by rw[x2]),h.2⟩:v=Value.int .i64 ((i9b p l:Nat):Int)∧Below _ _ w'))) ?_;refine qO0 Z U (t1a I4b Z Z (fun w1 S1 X1=>t9a (i9b p l) _) ?_);refine qO0 Z U ?_;have Q3:∀x y z:Nat,((x:Int),(y:Int))∈F0→((y:Int),(z:Int))∈F0→((x:Int),(z:Int))∈F0:=fun x y z h1 h2=>(g0 _).2 (by
    obtain⟨_,_,q1,e1⟩:=(g0 _).1 h1;obtain⟨_,_,q2,e2⟩:=(g0 _).1 h2;simp only[Prod.mk.injEq,Int.ofNat_inj] at e1 e2;obtain⟨rfl,rfl⟩:=e1;obtain⟨rfl,rfl⟩:=e2;exact⟨_,_,q1.trans q2,Z⟩)
   refine t1a w0d Z Z (fun w1 S1 X1=>j0b _ _ _ _ l (wdL p.cells l) F0 (i9b p l) ⟨_,_,_,Z⟩ ((z0 [] (by simp)).keep (a0.trans X1)) (q0.keep (a0.trans X1)) H1 x2 X2 z1 (fun x hx=>(g0 _).2 ⟨x,x,.refl hx,Z⟩) Q3) ?_;refine qD Z U ?_;rintro x4 ⟨P2,B3⟩;replace a0:=a0.trans B3;refine lO P2.k [.w 1] Z ⟨⟨Z,Z⟩,U⟩ (h0a P2 N4c Z Z ?_);intro T2 V3 T0 i2 m3;have i0:=Nat.le_trans a0.size m3;replace a0:=a0.trans i2;refine c0a (kk:=0) (vs:=[_,_,_,_]) T0 T2c Z Z Z Z Z Z Z ?_;intro d3 A0 b1;dsimp only[f0a,List.set] at A0;replace a0:=a0.fresh b1 (by exact i0);refine lO0 Z U (R6a A0 D8a Z ?_);intro h4 u4 f2 y3 d4;have y4:=a0.size;replace a0:=a0.trans y3;refine lO f2.k [.o 3] Z ⟨Z,U⟩ ?_;have z4:=a0.size;refine c1c (E2c 11) (M2:=[]) (k:=0) f2 D8a (by decide) Z Q1a.new Z Z (RdS.keep a2 (f2.keep0 [])) (by simp;omega) Z ?_;intro p4 GM i1 v4 O2 D0 z3 h3;dsimp only[List.set] at O2;have v2:∀g∈GM.toList,O1.heap.size≤g:=fun g hg=>by
    rcases h3 g hg with h|h
    ·simp at h;omega
    ·omega
   replace a0:=a0.freshL z3 (fun g hg=>.inl (by simp at hg;omega));obtain⟨AM,cM,rfl⟩:=D0.form;rw[List.nil_append] at D0 ⊢;rw[show p0.length=nm by omega] at D0 ⊢;replace D0:I2b 11 w0 GM i1 (.slice AM nm cM) p0:=D0;refine lO0 Z U ?_
   first|refine c1a (kk:=1) O2 W2d Z Z Z (by exact Nat.le_of_ble_eq_true Z) ?_
   intro e3 j0 g1;replace a0:=a0.fresh g1 (by exact i0);refine lO0 Z U (g2b Tryz.underlying5 Tryz.underlying3 Z Z ?_);rw[n5a (by unfold i64;omega)];refine lO j0.k [.o 3] Z ⟨Z,U⟩ (A1d Z Z Z ?_);obtain⟨m,hm,_⟩:=I9b (a:=mm) (b:=(nm:Int));rw[hm];have E2:m<p.modules.length:=by omega
   obtain⟨md,b3⟩:∃md,p.modules[m]?=some md:=⟨p.modules[m],List.getElem?_eq_getElem E2⟩;obtain⟨g,s0,_⟩:=D0.at (by omega);obtain⟨c,hc,Y2⟩:=a3 m md b3;have Z2:=D0.room (k:=m) (by omega);refine lC0 Z U (y0a b0a [0,1,2,3,4,5] [] [6] Z (Cl _ _ _ _) (Cl.start j0) ?_);refine qO j0.q [.o 1] Z ⟨Z,U⟩ (t1a W3b Z Z (fun w1 S1 X1=>i1b 1 1 _) ?_);refine z0a D8a.slT Z (by assumption) Z Z ?_;refine qD Z U ?_;rintro b4 ⟨g2,o2⟩;replace a0:=a0.trans o2;refine c0a (kk:=0) (vs:=g9b) g2 i1a Z Z Z Z Z (by rw[←s0];rfl) (by rw[Nat.ble_eq];omega) ?_;intro V3 T0 i2;rw[←s0] at T0;dsimp only[List.set] at T0;replace a0:=a0.freshL i2 (fun x hx=>.inl (v2 x (by rw[s0];simpa using hx)));have r1:=D0.put hc (us:=g9b) (j:=6) (o:=0+(m:Int).toNat*11+6) (by omega) (by decide) D3c;have C2:=(S1c Y2).1;have i4:(f0a c 6 g9b).length=11:=by rw[V3a];exact C2
   have M3:(p0.set m (f0a c 6 g9b))[m]?=some (f0a c 6 g9b):=by rw[List.getElem?_set_self (by omega)]
   have F2:=r1.room (k:=m) (by rw[List.length_set];omega);refine lO T0.k [.o 1] Z ⟨Z,U⟩ (N0a D8a.slT Z (by assumption) Z Z ?_);refine lO0 Z U ?_;refine c1a (hy:=Z) (kk:=0) T0 z3c Z Z (by rw[←s0];rfl) (by omega) ?_;intro r4 Y1 t3;rw[←s0] at Y1;dsimp only[List.set] at Y1;replace a0:=a0.freshL t3 (fun x hx=>.inl (v2 x (by rw[s0];simpa using hx)));have s1:=r1.put M3 (us:=[.slice none 0 0]) (j:=10) (o:=0+(m:Int).toNat*11+10) (by omega) (by decide) (by simp[Value.oneCell']);rw[List.set_set] at s1;refine lC0 Z U (wL (fun μj D ε w=>D=[]∧∃j:Nat,∃i1:List Value,∃GF:Option Nat,∃P1:List Value,(j+μj=(p.cells.length))∧(∃vF,I2b 11 w0 GM i1 (.slice AM nm cM) (p0.set m (f0a (f0a c 6 g9b) 10 [vF]))∧Q1a R7c 1 [] w0 GF P1 vF (m3b p (-1) j))∧(∀g∈GF.toList,O1.heap.size≤g)∧(u0a [] O1 w)∧St [] w0 w ([(GM,81,i1),(some T2,27,[.slice Ac nc cc,.slice AM nm cM,.slice Al nl cl,.slice At nt ct]),(some S2,41,[.slice A1 n1 c1,.slice A2 n2 c2,.slice A3 n3 c3]),(some g4,27,[.slice Ac nc cc,.slice Am nm cm,.slice Al nl cl,.slice At nt ct])]++[(GF,3,P1)])∧Sl ε [(4,.pointer (some ⟨g4,0,none⟩)),(9,.bool true),(10,.int .i64 t),(11,.slice g3 R3 C3),(12,.pointer (some ⟨S2,0,none⟩)),(14,.pointer (some ⟨T2,0,none⟩)),(15,.int .i64 m),(16,.int .i64 j)]) (μ:=(p.cells.length)) ⟨Z,0,_,none,[],by omega,⟨_,s1,Q1a.nil⟩,by simp,a0,(Y1.nils (R:=[(none,3,[])]) (by simp)),Z⟩ ?_);rintro μj D ε w ⟨rfl,j,i1,GF,P1,_,J3,u2,KF,S,eZ⟩;refine wK eZ ?_;obtain⟨vF,u1,w2⟩:=J3;have G2:=u1.room (k:=m) (by rw[List.length_set];omega);have Q0:(p0.set m (f0a (f0a c 6 g9b) 10 [vF]))[m]?=some (f0a (f0a c 6 g9b) 10 [vF]):=by rw[List.getElem?_set_self (by omega)]
   refine wO0 Z U (B0a y8a Z (by exact S.cell 3 Z Z) Z ?_);refine lB0 Z U (fun r2=>?_) fun r2=>?_
   ·refine lO0 Z U (B0a y8a Z (by exact S.cell 3 Z Z) Z ?_);obtain⟨_,p2,I2,_,K1,o1,_,_,B1,G1⟩:=RdS.get (hC) (j) (by omega);obtain⟨rfl,_⟩:=r2a.open_ G1;refine lB (S.k.a B1) [.x p2 I2,.f 0 3] Z ⟨Z,⟨o1,by omega⟩,U⟩ (fun N0=>?_) fun N0=>?_
    ·refine lC0 Z U (V5c b0a (fun i=>[0,1,2,3,4,5,6,7,8,9,12,13].contains i) [0,1,2,3,4,5,6,7,8,9,10,11,12,13] 14 (clF (A:=[_,_,_,_]) (R:=[(GF,3,P1)]) S GF.toList) _ Z ?_);have b0:=S.drew;have L0:u0a [] w w.drew:=r4a _ _;generalize w.drew=c4 at b0 L0 ⊢;have c0:u0a (GF.toList) _ _:=L0.of_nil;replace KF:=KF.trans L0.of_nil;refine s4a ⟨(St.front (A:=[_,_,_,_]) b0),c0⟩ Z Z Z ?_;refine U0a B5b Z Z ?_;refine n0a ?_;refine s4a ⟨(St.front (A:=[_,_,_,_]) b0),c0⟩ Z Z Z ?_;refine i0a P6b Z (fun w1 hw=>by exact hw.1.cell 1 Z Z) Z ?_;refine n0a ?_;refine s4a ⟨(St.front (A:=[_,_,_,_]) b0),c0⟩ Z Z Z ?_;refine m1a (hv:=Z) (v:=.int .i64 _) Z ?_;refine n0a ?_;refine s4a ⟨(St.front (A:=[_,_,_,_]) b0),c0⟩ Z Z Z ?_;refine U0a B5b Z Z ?_;refine n0a ?_;refine s4a ⟨(St.front (A:=[_,_,_,_]) b0),c0⟩ Z Z Z ?_;refine i0a P6b Z (fun w1 hw=>by exact hw.1.cell 1 Z Z) Z ?_;refine n0a ?_;refine s4a ⟨(St.front (A:=[_,_,_,_]) b0),c0⟩ Z Z Z ?_;refine m1a (hv:=Z) (v:=.int .i64 _) Z ?_;refine n0a ?_;refine s4a ⟨(St.front (A:=[_,_,_,_]) b0),c0⟩ Z Z Z ?_;refine z0a D8a.slT Z (by assumption) Z Z ?_;refine n0a ?_;refine s4a ⟨(St.front (A:=[_,_,_,_]) b0),c0⟩ Z Z Z ?_;refine U0a q6b Z Z ?_;refine n0a ?_;refine s4a ⟨(St.front (A:=[_,_,_,_]) b0),c0⟩ Z Z Z ?_;refine i0a w5a Z (fun w1 hw=>by exact hw.1.cell 0 (by rw[←s0];rfl) (u1.cell (c:=f0a (f0a c 6 g9b) 10 [vF]) (j:=10) Q0 (Z3c (by omega)) (by omega))) Z ?_;refine n0a ?_;refine s4a ⟨(St.front (A:=[_,_,_,_]) b0),c0⟩ Z Z Z ?_;refine m1a (hv:=Z) (v:=.int .i64 _) Z ?_;refine n0a ?_;refine A2d ⟨(St.front (A:=[_,_,_,_]) b0),c0⟩ Z Z Z Z ?_;refine k0a b0 Y0a (vs:=[.int .i64 _]) (cs:=[_]) Z Z Z Z Z Z ?_;intro D3 U3 I0 d1 j3;have n0:=c0.trans (d1.mono (by simp));replace KF:=KF.trans (d1.of_nil);refine X0a ⟨Z,?_⟩;refine A2d ⟨(St.front (A:=[_,_,_,_,_]) I0).tail,n0⟩ Z Z Z Z ?_;have ls:=Z2a p (-1) j;refine u1a b5a (k:=5) (M2:=[]) (e1:=(j:Int)) I0 Y0a Z w2 Z Z (I0.cells 0 Z) ⟨Z,by unfold i64;omega⟩ (by omega) Z ?_;intro S3 t0 o0 N1 Y0 C0 f1 T1;have V1:St [] w0 N1 ([_,_,_,_,_]++[(t0,3,o0)]):=Y0;have d0:St [] w0 N1 ([_,_,_,_]++[(t0,3,o0)]):=V1.tail;have m0:=n0.trans f1;have zF:=KF.size;have W0:∀x∈t0.toList,O1.heap.size≤x:=fun x hx=>(T1 x hx).elim (u2 x) (fun h=>by omega);replace KF:=KF.freshL f1 (fun x hx=>.inl (u2 x hx));obtain⟨R1,H2,rfl⟩:=C0.form;refine X0a ⟨Z,?_⟩;refine s4a ⟨(St.front (A:=[_,_,_,_]) d0),m0⟩ Z Z Z ?_;refine z0a D8a.slT Z (by assumption) Z Z ?_;refine n0a ?_;refine s4a ⟨(St.front (A:=[_,_,_,_]) d0),m0⟩ Z Z Z ?_;refine U0a q6b Z Z ?_;refine n0a ?_;refine f1c ⟨(St.front (A:=[_,_,_,_]) d0),m0⟩ ?_;refine c1a (hy:=Z) (kk:=0) d0 z3c Z Z (by rw[←s0];rfl) (by omega) ?_;intro X3 Z0 v3;rw[←s0] at Z0;have q3:St [] w0 X3 ([(GM,81,_),_,_,_]++[(t0,3,o0)]):=Z0;replace KF:=KF.freshL v3 (fun x hx=>.inl (v2 x (by rw[s0];simpa using hx)));have t1:=u1.put Q0 (us:=[.slice R1 (m3b p (-1) j++[(j:Int)]).length H2]) (j:=10) (o:=0+(m:Int).toNat*11+10) (by omega) (Nat.le_refl 11) (by simp[Value.oneCell']);rw[List.set_set,L1c] at t1;refine X0a ⟨Z,?_⟩;refine fP0 Z ⟨by omega,U⟩ ⟨μj-1,by omega,Z,(j+1),(_),(_),(_),(by omega),?_,?_,?_,q3,Z⟩
     ·exact⟨_,t1,by rw[q4a K1,if_pos N0];exact C0⟩
     ·exact W0
     ·exact KF
    refine lP0 Z ⟨by omega,U⟩ ⟨μj-1,by omega,Z,(j+1),(_),(_),(_),(by omega),?_,?_,?_,S,Z⟩
    ·exact⟨_,u1,by rw[q4a K1,if_neg N0];exact w2⟩
    ·exact u2
    ·exact KF
   refine lCn 7 S.k [] Z U ?_;obtain rfl:j=p.cells.length:=by omega
   have hv:RdI [] w vF (ofL p (-1)):=Q1a.rd (M:=[]) b5a (w:=w) w2 S (k:=4) Z (fun x hx hq=>by cases hq) (by have:=Z2a p (-1) p.cells.length;unfold ofL;omega);obtain⟨V0,R0⟩:∃x,x=w:=⟨_,Z⟩;have W2:R0a [] V0 (X4b p m md) [.slice Ac nc cc,.slice AM nm cM,.slice Al nl cl,.slice At nt ct]:=by
    rw[R0];refine⟨_,_,_,_,Z,hC.keep (S.keep0 []),?_,RdS.keepW I3 (S.keep0 []) (z4a.keep (S.keep0 [])),RdS.keepW L3 (S.keep0 []) (T0a.keep (S.keep0 []))⟩;refine I2b.rd (M:=[]) (w:=w) (R:=M0a [] w) u1 S (k:=0) Z (fun g _=>by simp) (by simp[X4b];omega) (by simp[X4b];omega) (fun i x hi=>?_);rw[show(X4b p m md).modules=p.modules.set m (g0d p md) from rfl] at hi;by_cases he:i=m
    ·subst he;rw[List.getElem?_set_self E2] at hi;cases hi;exact⟨_,Q0,z6c (M0a.keep (S.keep0 []) _ _ Y2) hv⟩
    ·rw[List.getElem?_set_ne (fun hh=>he hh.symm)] at hi;obtain⟨c',h1,h2⟩:=a3 i x hi;exact⟨c',by rw[List.getElem?_set_ne (fun hh=>he hh.symm)];exact h1,M0a.keep (S.keep0 []) _ _ h2⟩
   have H0:u0a [] V0 w:=R0▸u0a.refl _ _;have U1:i2a [] V0:=R0▸hK.keep (S.keep0 []);refine wO0 Z U (q2a I3a Z (S.cells 1 Z) Z Z ?_);refine t6a S Q7b Z Z (H8a (X4b p m md) [] _ _ (W2.keep H0) (by simp) (I0c V2 b3)) (fun j1 J2 v0 J0=>?_) (fun J2 v0 J0=>?_)
   ·replace H0:=H0.trans J0;replace KF:=KF.trans (J0.of_nil);refine lO0 Z U (q2a I3a Z (v0.cells 1 Z) Z Z ?_);refine lO0 Z U ?_;have U2:InP (X4b p m md) [] V0 [.slice Ac nc cc,.slice AM nm cM,.slice Al nl cl,.slice At nt ct]:=⟨W2,j1,U1,by simp⟩;refine t6a v0 G5c Z Z (b1b (X4b p m md) t Q1 l U0 hlc [] _ _ _ (U2.keep H0) (p1.keep KF)) (fun m1 K2 x0 K0=>?_) (fun K2 x0 K0=>?_)
    ·replace H0:=H0.trans K0;replace KF:=KF.trans (K0.of_nil);refine lO0 Z U (q2a I3a Z (x0.cells 1 Z) Z Z ?_);refine lO0 Z U (j0a x0 W6b Z Z (H6b (X4b p m md) t Q1 l U0 hlc m1 [] _ _ _ (U2.keep H0) (p1.keep KF)) ?_);rintro T3 L2 ⟨_,rfl,C1⟩ W1 j2;replace KF:=KF.trans (j2.of_nil);obtain⟨_,_,_,M1,rfl,v1,y1,D1,I1,_,E1⟩:=C1.get;obtain⟨_,_,e1,rfl⟩:=v1.form;obtain⟨_,_,e2,rfl⟩:=y1.form;have E0:=D1 [] (by simp);obtain⟨_,_,_,rfl⟩:=E0.form;have f0:=u0a.refl [] L2;refine lO0 Z U (h0a W1 g6a Z Z ?_);intro g17 s4 p3 Q2 N2;have X0:=Nat.le_trans KF.size N2;have u0:=Nat.le_trans f0.size N2;replace f0:=f0.trans Q2;replace KF:=KF.trans (Q2.of_nil);refine c0a (kk:=0) (vs:=[_,_,_]) p3 f6a Z Z Z Z Z Z Z ?_;intro f3 e0 B0;dsimp only[f0a,List.set] at e0;replace f0:=f0.fresh B0 (by exact u0);replace KF:=KF.fresh2 B0 (by exact .inl X0);refine lB0 Z U (fun s2=>?_) (fun s2=>by exfalso;omega);refine lO0 Z U (q2a A4a Z (e0.cells 3 Z) Z Z ?_);refine lO e0.k [.w 0] Z ⟨⟨Z,Z⟩,U⟩ ?_;have O3:∀x∈F0,x∈M1:=fun x hx=>(E1 x).2 (by
      obtain⟨y,z,z2,rfl⟩:=(g0 x).1 hx;exact⟨y,z,z2.mono (fun a b=>b0d hp j1 E2 hlc hon m1.1),Z⟩)
     refine g0a e0 f1d Z Z (b7c [] _ _ _ _ _ _ _ F0 M1 ⟨_,_,_,_,_,_,_,_,_,_,_,_,Z,Z,Z,Z⟩ (q0.keep KF) (E0.keep f0) J1 I1 O3) ?_;intro W3 Z1 u3;exact lT Z U Z ⟨Z,Z1.fin⟩
    exact lT Z U Z ⟨Z,x0.fin⟩
   exact lT Z U Z ⟨Z,v0.fin⟩
  exact lT Z U Z ⟨Z,a1.fin⟩
 exact lT Z U Z ⟨Z,r0.fin⟩
end Go.Fw
