/-
  Part 5 of 8 of the proof of InterfereFrames: what it leans on. No conditions.
-/
import Derived.Test.YtlegngbbcckmnaaGreatDoorZInterfereFrames4
set_option maxRecDepth 100000
set_option maxHeartbeats 4000000
namespace Go.Proofs.YtlegngbbcckmnaaGreatDoor
end Go.Proofs.YtlegngbbcckmnaaGreatDoor
namespace Go.Fw
open Go.Proofs.YtlegngbbcckmnaaGreatDoor Go.Proofs Go.RowKit Tryz
theorem m5a.over{wb w w1 w2:World}{v:Value}{l:List Int}{g:Nat}(h:m5a wb w v l)(Kx:v0a [] w w1)(Ks:v0a [g] w1 w2)(hg:g<wb.heap.size∨w.heap.size≤g)(_a0:l.length≤1000):RdI [] w2 v l:=by
 rcases hg with hg|hg
 ·exact(((h [g] (by simp;exact hg)).keep Kx.of_nil).keep Ks).less (by simp)
 ·exact((((h [] (by simp)).more (by omega) (fun x hx=>by rw[List.mem_singleton.1 hx];exact .inr hg)).keep Kx.of_nil).keep Ks).less (by simp)
theorem z6b.over{wb w w1 w2:World}{v:Value}{l:List (Int×Int)}{g:Nat}(h:z6b wb w v l)(Kx:v0a [] w w1)(Ks:v0a [g] w1 w2)(hg:g<wb.heap.size∨w.heap.size≤g)(_a0:l.length≤10000):o1b [] w2 v l:=by
 rcases hg with hg|hg
 ·exact(((h [g] (by simp;exact hg)).keep Kx.of_nil).keep Ks).less (by simp)
 ·exact((((h [] (by simp)).more (by omega) (fun x hx=>by rw[List.mem_singleton.1 hx];exact .inr hg)).keep Kx.of_nil).keep Ks).less (by simp)
noncomputable def allC(p:n0a)(t:Nat)(l:List Int):List Int:=e4b (l++(onE p t).sup 3) ((onE p t).sup 2)
def R6b(p:n0a)(t:Nat)(l:List Int)(x y:Nat):Prop:=∃a b,ofR (onE p t) (allC p t l) (wdL p.cells (allC p t l)) (2 ^ (X1a (wdL p.cells (allC p t l))).toNat) a b∧x=nuZ l (wdL p.cells l) (stZ (allC p t l) (wdL p.cells (allC p t l)) a M1a)∧y=nuZ l (wdL p.cells l) (stZ (allC p t l) (wdL p.cells (allC p t l)) b M1a)
theorem f3c{p:n0a}{t:Nat}{l:List Int}{a0:Nat}(b0:X1a (wdL p.cells (allC p t l))=a0)(h6:a0≤6){m:List Nat}(hm:x4a m (ofR (onE p t) (allC p t l) (wdL p.cells (allC p t l)) (2 ^ a0)))(x y:Nat):
 ((x:Int),(y:Int))∈ddP ((w0b m 64).map (prj (allC p t l) (wdL p.cells (allC p t l)) l (wdL p.cells l)))↔R6b p t l x y:=by
 rw[j0b,List.mem_map];unfold R6b;rw[b0,Int.toNat_natCast];constructor
 ·rintro⟨q,hq,he⟩;obtain⟨a,b,-,-,h3,rfl⟩:=(hm.mem q).1 hq;unfold prj at he;simp only[Prod.mk.injEq,Int.toNat_natCast,Int.natCast_inj] at he;exact⟨a,b,h3,he.1.symm,he.2.symm⟩
 ·rintro⟨a,b,h3,rfl,rfl⟩;refine⟨((a:Int),(b:Int)),(hm.mem _).2 ⟨a,b,?_,?_,h3,Z⟩,?_⟩
  ·exact Nat.lt_of_lt_of_le h3.1 (Nat.pow_le_pow_right (n:=2) (j:=6) (by omega) h6)
  ·exact Nat.lt_of_lt_of_le h3.2.1 (Nat.pow_le_pow_right (n:=2) (j:=6) (by omega) h6)
  ·unfold prj;simp only[Int.toNat_natCast]
theorem I7b.congr{w0 w:World}{v:Value}{C W:List Int}{R R':Nat→Nat→Prop}{n:Nat}(h:I7b w0 w v C W R n)(hr:∀x y,R x y↔R' x y):I7b w0 w v C W R' n:=by
 obtain⟨a,b,c,l,h1,h2,h3,h4,h5,h6,h7⟩:=h.get;refine⟨a,b,c,l,h1,h2,h3,h4,h5,h6,fun p=>(h7 p).trans ?_⟩;constructor
 ·rintro⟨x,y,h,rfl⟩;exact⟨x,y,h.mono fun a b=>(hr a b).1,Z⟩
 ·rintro⟨x,y,h,rfl⟩;exact⟨x,y,h.mono fun a b=>(hr a b).2,Z⟩
theorem Z9b(l:List Int):(t3a l).length=l.length:=by simp[t3a]
theorem U9a(p:n0a)(t:Nat)(l:List Int)(hr:N1a l)(hlc:∀c∈l,0≤c∧c<p.cells.length)(M:List Nat)(w0:World)(cs:List Value)(vl:Value)(hI:InP p M w0 cs)(hL:RdI M w0 vl l)(hon:onE p t≠zE)(p2:(onE p t).valid p.cells true=true)
 (C0:Nat) (hb:X1a (wdL p.cells l)=C0) (x0:Nat) (i2:X1a (wdL p.cells (allC p t l))=x0) (T0:x0≤6) (N1:∀c∈allC p t l,0≤c∧c<p.cells.length) (ht:t<p.threads.length:=by decide) (hb6:C0≤6:=by omega) :
 C0a prog 22 #[.agg cs.toArray,.int .i64 t,vl] w0 fun v w'=>(∃u,v=.tuple #[u,.int .i64 0]∧I7b w0 w' u l (wdL p.cells l) (R6b p t l) (2 ^ C0))∧Below w0.heap.size w0 w':=by
 obtain⟨Ac,nc,cc,Am,nm,cm,Al,nl,cl,At,nt,ct,rfl,hC,_⟩:=hI.rd.open_;obtain⟨A,n,c,rfl⟩:=hL.form;have hM:=hI.lt;have hp:=hI.ok;have t1:∀c∈p.cells,1≤c.w∧c.w≤8:=fun c hc=>by have:=(hp.cells c hc).w;omega
 have y0:=hp.ncells;have ho:=j6a hr hlc y0 t1;have r1:=b4a (l++(onE p t).sup 3) ((onE p t).sup 2);have q2:N1a (allC p t l):=r1.1;have z3:=j6a q2 N1 y0 t1;have s5:=ho.clen;have k4:=z3.clen;have x5:=S7a (onE p t) 3;have w5:=S7a (onE p t) 2;have M4:=(h2a p2).1;have v5:=n1d M4;have U2:(onE p t).w=1:=by
  rcases c5a (op:=5) (unit:=1) (.inr Z) (g6a p t::(ofL p t).map (I3a p)) with h|h
  ·exact absurd h hon
  ·exact h.2
 have Q2:∀q∈[l,(onE p t).sup 3,(onE p t).sup 2],q.length≤1000:=fun q hq=>by
  simp only[List.mem_cons,List.not_mem_nil,or_false] at hq;rcases hq with rfl|rfl|rfl<;>omega
 have R1:[l,(onE p t).sup 3,(onE p t).sup 2].flatten=(l++(onE p t).sup 3)++(onE p t).sup 2:=by simp
 have v3:∀x∈allC p t l,i64 x:=fun x hx=>by have:=N1 x hx;unfold i64;omega
 have W0:(allC p t l).length≤140737488355328:=by omega
 have S:=(St.refl w0).nilEnt 72;refine O9a func22 Z ntmps22 Z (wI ?_);refine wO0 Z U (q0a S Z ?_);intro g3 w3 S3 X3 G3;refine g0a S3 I6a Z Z ?_;intro g6 w6 S6 X6 G6;refine lB0 Z U (fun h4=>by exfalso;omega) fun h4=>?_;refine lB S6.k [.o 1] Z ⟨Z,U⟩ (fun j4=>by exfalso;omega) fun j4=>?_;refine lO S6.k [.w 1] Z ⟨⟨Z,Z⟩,U⟩ (f0a S6 S6b Z Z (T5a p M _ _ (hI.keep (S6.keep0 M))) ?_);intro F3 f1 f5;refine lO f1.k [.o 1] Z ⟨Z,U⟩ ?_;have i5:w0.heap.size≤F3.heap.size:=f1.size;have K1:∀g∈[g6],g<F3.heap.size:=fun g hg=>by rw[List.mem_singleton.1 hg];exact f1.lt 0 Z
 refine j0a f1 Y0d Z Z (a5b p.cells l M _ _ _ (hC.keep (f1.keep0 M)) (hL.keep (f1.keep0 M)) hr hlc y0 t1 (by omega) (hI.msk.keep (f1.keep0 M))) ?_;rintro B5 Y2 ⟨a,b,_,_,rfl,ha,x3,hd⟩ Q3 g5;obtain⟨A1,n1,c1,rfl⟩:=ha.form;obtain⟨A2,n2,c2,rfl⟩:=x3.form;obtain⟨A3,n3,c3,rfl⟩:=hd.form;have KQ:=v0a.refl [g6] Y2;refine lO0 Z U (g0a Q3 I6a Z Z ?_);intro g8 w8 S8 X8 G8;have t2:=Nat.le_trans KQ.size G8;replace KQ:=KQ.trans (X8.of_nil);refine c0a (kk:=0) (vs:=[_,_,_]) S8 D6a Z Z Z Z Z Z Z ?_;intro U4 P0 y2;dsimp only[h0a,List.set] at P0;replace KQ:=KQ.fresh2 y2 (by exact .inl t2);refine lB0 Z U (fun m4=>by exfalso;omega) fun m4=>?_;refine lO P0.k [.w 2] Z ⟨⟨Z,Z⟩,U⟩ (j0a P0 V9b Z Z (z8c (ht:=ht) p t M _ _ (hI.keep (P0.keep0 M))) ?_);rintro v45 H3 ⟨_,rfl,Y1⟩ R3 W3;replace KQ:=KQ.trans (W3.of_nil);obtain⟨a3,D3,E3,rfl,_⟩:=Y1.cells;have KE:=v0a.refl M H3;refine g0a R3 P1a Z Z ?_;intro s3 J5 P3 j3 b3;have y1:=Nat.le_trans KQ.size b3;have x1:=Nat.le_trans KE.size b3;replace KQ:=KQ.trans (j3.of_nil);replace KE:=KE.trans (j3.of_nil);refine c0a (kk:=0) (vs:=[_,_,_,_]) P3 g1a Z Z Z Z Z Z Z ?_;intro Z2 v0 G1;dsimp only[h0a,List.set] at v0;replace KQ:=KQ.fresh2 G1 (by exact .inl y1);replace KE:=KE.fresh2 G1 (by exact .inl x1);refine lB v0.k [.o 0] Z ⟨Z,U⟩ (fun o4=>by exfalso;omega) fun o4=>?_;refine lB0 Z U (fun p4=>by exfalso;omega) fun p4=>?_;refine lO v0.k [.w 0] Z ⟨⟨Z,Z⟩,U⟩ ?_;have a4:∀g∈M,g<Z2.heap.size:=fun g hg=>Nat.lt_of_lt_of_le (hM g hg) v0.size;refine j0a v0 f7b Z Z (n4a (onE p t) M _ _ (RdE.keep KE _ _ Y1) (hI.msk.keep (v0.keep0 M)) a4) ?_;rintro C5 V4 ⟨_,_,rfl,M1,O1⟩ T3 o3;replace KQ:=KQ.trans (o3.of_nil);replace KE:=KE.trans (o3.of_nil);obtain⟨A4,n4,c4,rfl⟩:=M1.form;obtain⟨A5,n5,c5,rfl⟩:=O1.form;have KS:=v0a.refl M V4;refine lO0 Z U (k0a T3 d0b (vs:=[.slice _ _ _,.slice _ _ _,.slice _ _ _]) (cs:=[_,_,_]) Z Z Z Z Z Z ?_);intro F2 L5 s1 z2 Z4;replace KQ:=KQ.trans (z2.of_nil);replace KE:=KE.trans (z2.of_nil);replace KS:=KS.trans (z2.of_nil);have j5:=KE.size;have b4:=KQ.size;refine j0a s1 k5c Z Z (A3b M _ F2 [l,(onE p t).sup 3,(onE p t).sup 2] Q2 (by simp) (q3d (s1.cell 0 Z Z) (s1.cell 0 Z Z) (s1.cell 0 Z Z) (hL.keep (s1.keep0 M)) (M1.keep KS) (O1.keep KS))) ?_;rintro D5 M5 ⟨z0,E2,q1,o1⟩ U3 p3;have D1:=U3.pushO s1 o1;rw[R1] at q1;have j2:∀g∈z0.toList,H3.heap.size≤g∨g∈M:=fun g hg=>.inl (by have:=(o1 g (by cases z0<;>simp at hg ⊢;exact hg.symm)).1;omega);have o2:∀g∈z0.toList,Y2.heap.size≤g∨g∈[g6]:=fun g hg=>.inl (by have:=(o1 g (by cases z0<;>simp at hg ⊢;exact hg.symm)).1;omega);replace KE:=KE.trans p3.of_nil;replace KQ:=KQ.trans p3.of_nil;obtain⟨_,_,_,rfl⟩:=q1.form;refine lO0 Z U ?_;refine G1a m0c Z Z (E3c _ z0 _ E2 _ _ q1 (fun g hg=>by subst hg;exact D1.blk 0 Z) (by simp;omega)) ?_;rintro E5 Z1 ⟨J1,r2,H2,V1⟩;have b2:=D1.changedO 0 Z r2 H2;dsimp only[List.set] at b2;replace KE:=KE.freshL r2.keepO j2;replace KQ:=KQ.freshL r2.keepO o2;refine lCn 2 b2.k [] Z U (wX (fun D ε w=>D=[]∧∃J0:Nat,∃D0:List Value,∃B1:Option Addr,∃m1:Nat,∃d1:Nat,∃B2:Option Addr,∃m2:Nat,∃d2:Nat,∃B3:Option Addr,∃m3:Nat,∃d3:Nat,∃m:List Nat,(x4a m (ofR (onE p t) (allC p t l) (wdL p.cells (allC p t l)) (2 ^ x0)))∧(RdI [] w (.slice B1 m1 d1) (allC p t l))∧(RdI [] w (.slice B2 m2 d2) (wdL p.cells (allC p t l)))∧(o1b [] w (.slice B3 m3 d3) (w0b m 64))∧(v0a [g6] Y2 w)∧St [] w0 w [(some J0,41,[.slice B1 m1 d1,.slice B2 m2 d2,.slice B3 m3 d3]),(z0,3,D0),(some F2,28,[.slice A n c,.slice A4 n4 c4,.slice A5 n5 c5]),(some s3,37,[.int .i64 (onE p t).op,.int .i64 (onE p t).w,.int .i64 (onE p t).n,.slice a3 D3 E3]),(some g8,41,[.slice A1 n1 c1,.slice A2 n2 c2,.slice A3 n3 c3]),(some g6,41,[.slice none 0 0,.slice none 0 0,.slice none 0 0]),(some g3,27,[.slice Ac nc cc,.slice Am nm cm,.slice Al nl cl,.slice At nt ct]),(none,72,[])]∧Sl ε [(6,.pointer (some ⟨g6,0,none⟩)),(8,.pointer (some ⟨g8,0,none⟩)),(9,.int .i64 0),(14,.pointer (some ⟨J0,0,none⟩))]) ?_ ?_)
 ·have y5:(t3a ((l++(onE p t).sup 3)++(onE p t).sup 2)).length≤1000000:=by rw[Z9b];simp;omega
  obtain⟨wt,N4⟩:∃x,x=Z1:=⟨_,Z⟩;have KT:v0a [] wt Z1:=N4▸v0a.refl _ _;refine k0c b0a (fun i=>[0,1,2,4,6,7,8,11].contains i) (.op 0 (.op 1 (.op 2 (.op 4 (.two (.op 3 (.two (.op 5 (.op 6 (.op 7 (.op 8 (.op 9 (.op 10 (.op 11 .nil))))))) (.op 9 (.op 5 (.op 6 (.op 7 (.op 8 (.op 10 (.op 11 .nil))))))))) (.op 9 (.op 3 (.op 5 (.op 6 (.op 7 (.op 8 (.op 10 (.op 11 .nil))))))))))))) (clE b2 0 z0.toList) ?_;have g0:=b2.drew;have I1:v0a [] Z1 Z1.drew:=M4a _ _;generalize Z1.drew=X4 at g0 I1 ⊢;have o0:v0a (z0.toList) _ _:=I1.of_nil;refine O1a ⟨St.er (g0) 0,o0⟩ Z Z Z ?_;refine i1a r1c Z Z ?_;refine o0a ?_;refine O1a ⟨St.er (g0) 0,o0⟩ Z Z Z ?_;refine i0a n1b Z (fun w1 hw=>by exact hw.1.cell 4 Z Z) Z ?_;refine o0a ?_;refine O1a ⟨St.er (g0) 0,o0⟩ Z Z Z ?_;refine s1a Z ?_;refine o0a ?_;refine O1a ⟨St.er (g0) 0,o0⟩ Z Z Z ?_;refine N2a G0a Z (fun w1 hw=>hw.1.cells 1 Z) Z Z ?_;refine o0a ?_;refine s1c ?_ ?_
  ·refine j5a ⟨St.er (g0) 0,o0⟩ Z Z Z ?_;refine G1a q5c Z Z (G9a _ z0 _ J1 _ _ V1 (fun g hg=>by subst hg;exact g0.blk 0 Z)) ?_;rintro v70 a2 ⟨D0,u1,j1,E0⟩;have j0:=o0.trans u1.keepO;have n0:=g0.changedO 0 Z u1 j1;dsimp only[List.set] at n0;have g2:RdI [] a2 v70 (allC p t l):=by
    exact E0.rdI n0 (k:=0) Z (by simp) v3 W0
   obtain⟨J3,R4,e4,rfl⟩:=E0.form;refine Z0a ⟨Z,?_⟩;refine s1c ?_ ?_
   ·refine j5a ⟨St.er (n0) 0,j0⟩ Z Z Z ?_;have r3:∀g∈M,g<a2.heap.size:=fun g hg=>Nat.lt_of_lt_of_le (hM g hg) n0.size;refine j0a n0 g2c Z Z (W4b p.cells (allC p t l) (onE p t) [] _ _ _ _ ((hC.keep (n0.keep0 M)).less (by simp)) (g2.keep (by exact v0a.refl _ _)) (RdE.less (by simp) _ _ (RdE.keep (KE.freshL j0 j2) _ _ Y1)) q2 N1 y0 t1 x0 i2 T0 ⟨List.not_mem_nil,(hI.msk.keep (n0.keep0 M)).2⟩ p2 U2 (fun x hx=>(r1.2 x).2 (.inl (List.mem_append_right _ hx))) (fun x hx=>(r1.2 x).2 (.inr hx))) ?_;rintro v72 I3 ⟨a8,b8,c8,m,rfl,X0,Y0,Z0,hm⟩ p0 H1;obtain⟨B1,m1,d1,rfl⟩:=X0.form;obtain⟨B2,m2,d2,rfl⟩:=Y0.form;obtain⟨B3,m3,d3,rfl⟩:=Z0.form;have c0:=j0.trans H1.of_nil;refine Z0a ⟨Z,?_⟩;refine O1a ⟨St.er (p0) 0,c0⟩ Z Z Z ?_;refine s1a Z ?_;refine o0a ?_;refine O1a ⟨St.er (p0) 0,c0⟩ Z Z Z ?_;refine u3a Z Z Z ?_;refine o0a ?_;refine O1a ⟨St.er (p0) 0,c0⟩ Z Z Z ?_;refine u3a Z Z Z ?_;refine o0a ?_;refine j5a ⟨St.er (p0) 0,c0⟩ Z Z Z ?_;refine g0a p0 I6a Z Z ?_;intro J0 W2 r0 Q0 U0;have d0:=c0.trans (Q0.mono (by simp));refine Z0a ⟨Z,?_⟩;refine j5a ⟨St.er (r0.tail) 0,d0⟩ Z Z Z ?_;refine c0a (kk:=0) (vs:=[_,_,_]) r0 D6a Z Z Z Z Z Z Z ?_;intro H0 a0 b0;dsimp only[h0a,List.set] at a0;have f0:=d0.fresh2 b0 (.inl (by exact Nat.le_trans c0.size U0));refine Z0a ⟨Z,?_⟩;refine O1a ⟨St.er (a0.tail) 0,f0⟩ Z Z Z ?_;refine m4a (v:=.int .i64 _) Z Z ?_;refine o0a ?_;refine U0b ⟨St.er (a0.tail) 0,f0⟩ ?_;refine fP0 Z U ⟨Z,(J0),(_),(_),(_),(_),(_),(_),(_),(_),(_),(_),(m),(hm),?_,?_,?_,(KQ.freshL f0 o2),a0,Z⟩
    ·exact X0.over (by exact Q0) b0 (by exact .inr U0) (by omega)
    ·exact Y0.over (by exact Q0) b0 (by exact .inr U0) (by rw[List.length_map];omega)
    ·exact Z0.over (by exact Q0) b0 (by exact .inr U0) (by have:=O3a m 64;omega)
   refine j5a ⟨St.er (n0) 0,j0⟩ Z Z Z ?_;refine g0a n0 I6a Z Z ?_;intro J0 W2 r0 Q0 U0;have d0:=j0.trans (Q0.mono (by simp));refine Z0a ⟨Z,?_⟩;refine j5a ⟨St.er (r0.tail) 0,d0⟩ Z Z Z ?_;have r3:∀g∈M,g<W2.heap.size:=fun g hg=>Nat.lt_of_lt_of_le (hM g hg) r0.size;refine j0a r0 g2c Z Z (W4b p.cells (allC p t l) (onE p t) [] _ _ _ _ ((hC.keep (r0.keep0 M)).less (by simp)) (g2.keep (by exact Q0)) (RdE.less (by simp) _ _ (RdE.keep (KE.freshL d0 j2) _ _ Y1)) q2 N1 y0 t1 x0 i2 T0 ⟨List.not_mem_nil,(hI.msk.keep (r0.keep0 M)).2⟩ p2 U2 (fun x hx=>(r1.2 x).2 (.inl (List.mem_append_right _ hx))) (fun x hx=>(r1.2 x).2 (.inr hx))) ?_;rintro v72 I3 ⟨a8,b8,c8,m,rfl,X0,Y0,Z0,hm⟩ p0 H1;obtain⟨B1,m1,d1,rfl⟩:=X0.form;obtain⟨B2,m2,d2,rfl⟩:=Y0.form;obtain⟨B3,m3,d3,rfl⟩:=Z0.form;have c0:=d0.trans H1.of_nil;refine Z0a ⟨Z,?_⟩;refine O1a ⟨St.er (p0.tail) 0,c0⟩ Z Z Z ?_;refine s1a Z ?_;refine o0a ?_;refine O1a ⟨St.er (p0.tail) 0,c0⟩ Z Z Z ?_;refine u3a Z Z Z ?_;refine o0a ?_;refine O1a ⟨St.er (p0.tail) 0,c0⟩ Z Z Z ?_;refine u3a Z Z Z ?_;refine o0a ?_;refine j5a ⟨St.er (p0.tail) 0,c0⟩ Z Z Z ?_;refine c0a (kk:=0) (vs:=[_,_,_]) p0 D6a Z Z Z Z Z Z Z ?_;intro H0 a0 b0;dsimp only[h0a,List.set] at a0;have f0:=c0.fresh2 b0 (.inl (by exact Nat.le_trans j0.size U0));refine Z0a ⟨Z,?_⟩;refine O1a ⟨St.er (a0.tail) 0,f0⟩ Z Z Z ?_;refine m4a (v:=.int .i64 _) Z Z ?_;refine o0a ?_;refine U0b ⟨St.er (a0.tail) 0,f0⟩ ?_;refine fP0 Z U ⟨Z,(J0),(_),(_),(_),(_),(_),(_),(_),(_),(_),(_),(m),(hm),?_,?_,?_,(KQ.freshL f0 o2),a0,Z⟩
   ·exact X0.over (by exact v0a.refl _ _) b0 (by exact .inl (r0.lt 0 Z)) (by omega)
   ·exact Y0.over (by exact v0a.refl _ _) b0 (by exact .inl (r0.lt 0 Z)) (by rw[List.length_map];omega)
   ·exact Z0.over (by exact v0a.refl _ _) b0 (by exact .inl (r0.lt 0 Z)) (by have:=O3a m 64;omega)
  refine j5a ⟨St.er (g0) 0,o0⟩ Z Z Z ?_;refine g0a g0 I6a Z Z ?_;intro J0 W2 r0 Q0 U0;have d0:=o0.trans (Q0.mono (by simp));refine Z0a ⟨Z,?_⟩;refine j5a ⟨St.er (r0.tail) 0,d0⟩ Z Z Z ?_;refine G1a q5c Z Z (G9a _ z0 _ J1 _ _ V1 (fun g hg=>by subst hg;exact r0.blk 1 Z)) ?_;rintro v70 a2 ⟨D0,u1,j1,E0⟩;have j0:=d0.trans u1.keepO;have n0:=r0.changedO 1 Z u1 j1;dsimp only[List.set] at n0;have g2:RdI [] a2 v70 (allC p t l):=by
   exact E0.rdI n0 (k:=1) Z (by simp) v3 W0
  obtain⟨J3,R4,e4,rfl⟩:=E0.form;refine Z0a ⟨Z,?_⟩;refine j5a ⟨St.er (n0.tail) 0,j0⟩ Z Z Z ?_;have r3:∀g∈M,g<a2.heap.size:=fun g hg=>Nat.lt_of_lt_of_le (hM g hg) n0.size;refine j0a n0 g2c Z Z (W4b p.cells (allC p t l) (onE p t) [] _ _ _ _ ((hC.keep (n0.keep0 M)).less (by simp)) (g2.keep (by exact v0a.refl _ _)) (RdE.less (by simp) _ _ (RdE.keep (KE.freshL j0 j2) _ _ Y1)) q2 N1 y0 t1 x0 i2 T0 ⟨List.not_mem_nil,(hI.msk.keep (n0.keep0 M)).2⟩ p2 U2 (fun x hx=>(r1.2 x).2 (.inl (List.mem_append_right _ hx))) (fun x hx=>(r1.2 x).2 (.inr hx))) ?_;rintro v72 I3 ⟨a8,b8,c8,m,rfl,X0,Y0,Z0,hm⟩ p0 H1;obtain⟨B1,m1,d1,rfl⟩:=X0.form;obtain⟨B2,m2,d2,rfl⟩:=Y0.form;obtain⟨B3,m3,d3,rfl⟩:=Z0.form;have c0:=j0.trans H1.of_nil;refine Z0a ⟨Z,?_⟩;refine O1a ⟨St.er (p0.tail) 0,c0⟩ Z Z Z ?_;refine s1a Z ?_;refine o0a ?_;refine O1a ⟨St.er (p0.tail) 0,c0⟩ Z Z Z ?_;refine u3a Z Z Z ?_;refine o0a ?_;refine O1a ⟨St.er (p0.tail) 0,c0⟩ Z Z Z ?_;refine u3a Z Z Z ?_;refine o0a ?_;refine j5a ⟨St.er (p0.tail) 0,c0⟩ Z Z Z ?_;refine c0a (kk:=0) (vs:=[_,_,_]) p0 D6a Z Z Z Z Z Z Z ?_;intro H0 a0 b0;dsimp only[h0a,List.set] at a0;have f0:=c0.fresh2 b0 (.inl (by exact Nat.le_trans o0.size U0));refine Z0a ⟨Z,?_⟩;refine O1a ⟨St.er (a0.tail) 0,f0⟩ Z Z Z ?_;refine m4a (v:=.int .i64 _) Z Z ?_;refine o0a ?_;refine U0b ⟨St.er (a0.tail) 0,f0⟩ ?_;refine fP0 Z U ⟨Z,(J0),(_),(_),(_),(_),(_),(_),(_),(_),(_),(_),(m),(hm),?_,?_,?_,(KQ.freshL f0 o2),a0,Z⟩
  ·exact X0.over (by exact v0a.refl _ _) b0 (by exact .inl (n0.lt 0 Z)) (by omega)
  ·exact Y0.over (by exact v0a.refl _ _) b0 (by exact .inl (n0.lt 0 Z)) (by rw[List.length_map];omega)
  ·exact Z0.over (by exact v0a.refl _ _) b0 (by exact .inl (n0.lt 0 Z)) (by have:=O3a m 64;omega)
 rintro D ε w ⟨rfl,J0,D0,B1,m1,d1,B2,m2,d2,B3,m3,d3,m,hm,w4,L4,D4,KQ,S,eZ⟩;refine wK eZ ?_;obtain⟨wc,KC,J2,V2,O2,R2,T2⟩:∃wc,v0a [] wc w∧RdI [] wc (.slice B1 m1 d1) (allC p t l)∧RdI [] wc (.slice B2 m2 d2) (wdL p.cells (allC p t l))∧o1b [] wc (.slice B3 m3 d3) (w0b m 64)∧RdI [g6] wc (.slice A1 n1 c1) l∧RdI [g6] wc (.slice A2 n2 c2) (wdL p.cells l):=⟨w,v0a.refl _ _,w4,L4,D4,(ha [g6] K1).keep KQ,(x3 [g6] K1).keep KQ⟩;refine wB0 Z U (fun q4=>by exfalso;omega) fun q4=>?_;have N3:=KC.size;refine lO0 Z U (g0a S w2d Z Z ?_);intro m0 T4 v2 V3 M3;replace KC:=KC.trans V3;have O3:wc.heap.size≤m0:=Nat.le_trans (by exact N3) M3;refine lO v2.k [.w 1,.o 5,.o 5] Z ⟨Z,Z,⟨Z,Z⟩,U⟩ (F0a A4b (vs:=[(0,.slice _ _ _),(1,.slice _ _ _)]) (cs:=[_,_,_]) Z Z Z Z ?_);have d5:m0<T4.heap.size:=v2.lt 0 Z;have e5:=KC.size;refine j0a v2 K9c Z Z (P7b _ _ _ _ _ _ _ _ _ _ _ _ _ _ _ _ _ _ _) ?_;rintro F5 O0 ⟨ga,gb,rfl,_,_,P1,Q1⟩ E1 Y3;replace KC:=KC.trans Y3;refine lC0 Z U (wJ ?_);refine o0b (vs:=fun y=>#[y,_,_]) V6c Z (fun _=>rfl) (fun rc wi S2 C3 I4 K2 H4 t4 u4 z4 hl hB z5=>?_);obtain⟨lp,E4⟩:∃lp,lp=O0.heap.size+1:=⟨_,Z⟩;have u3:=C9a (NC.nil (w:=O0)) z4 hl hB;rw[←E4] at hl u3 ⊢;have Si:=E1.later hB;have Ki:v0a [] O0 wi:=v0a.of_below hB;have Zw:=E1.size;have O4:=E1.lt 0 Z;have S4:w0.heap.size≤m0:=by simpa using E1.new 0 Z
 have P4:=P1.lt;have Q4:=Q1.lt;simp only at P4 Q4;have p1:∀x∈[(O0.heap.size,Obj.deferred (some []))],x.1≠lp:=fun x hx=>by
  rcases List.mem_cons.1 hx with rfl|hx
  ·show O0.heap.size≠lp;omega
  ·cases hx
 have L2:ga∉[lp,m0]:=fun hh=>by
  simp only[List.mem_cons,List.not_mem_nil,or_false] at hh;omega
 have N2:gb∉[lp,m0]:=fun hh=>by
  simp only[List.mem_cons,List.not_mem_nil,or_false] at hh;omega
 have f2:∀g∈[lp,m0],g∈([]:List Nat)∨wc.heap.size≤g:=fun g hg=>by
  simp only[List.mem_cons,List.not_mem_nil,or_false] at hg;right;have h1:=KC.size;rcases hg with rfl|rfl
  ·omega
  ·exact O3
 have u2:v0a [lp,m0] wc wi:=(KC.trans Ki).of_nil;have t3:∀g∈g6::[lp,m0],g∈[g6]∨wc.heap.size≤g:=fun g hg=>by
  rcases List.mem_cons.1 hg with rfl|h
  ·exact .inl (by simp)
  ·exact .inr ((f2 g h).elim (fun h=>by cases h) id)
 have U1:RdI (g6::[lp,m0]) wi (.slice A1 n1 c1) l:=(R2.more (by omega) t3).keep (KC.trans Ki).of_nil;have X1:RdI (g6::[lp,m0]) wi (.slice A2 n2 c2) (wdL p.cells l):=(T2.more (by omega) t3).keep (KC.trans Ki).of_nil;have F4:RdI [lp,m0] wi (.slice A1 n1 c1) l:=U1.less (fun g hg=>List.mem_cons_of_mem _ hg);have J4:RdI [lp,m0] wi (.slice A2 n2 c2) (wdL p.cells l):=X1.less (fun g hg=>List.mem_cons_of_mem _ hg);have v4:RdI [lp,m0] wi (.slice B1 m1 d1) (allC p t l):=(J2.more (by omega) f2).keep u2;have K4:RdI [lp,m0] wi (.slice B2 m2 d2) (wdL p.cells (allC p t l)):=(V2.more (by omega) f2).keep u2;have C4:o1b [lp,m0] wi (.slice B3 m3 d3) (w0b m 64):=(O2.more (by omega) f2).keep u2;refine C0a.mono (T5b (allC p t l) (wdL p.cells (allC p t l)) l (wdL p.cells l) (w0b m 64) C0 lp ga gb _ _ [lp,m0] wi (fun Ps k w=>NC w [(lp,.loop rc),(O0.heap.size,.deferred (some []))]∧(∃G cs v,S1a N8a 2 [] w0 G cs v k∧(∀x∈G.toList,wi.heap.size≤x∧x∉Ps)∧(∀x∈k,i64 x.1∧i64 x.2)∧St [] w0 w [(some m0,32,[v]),(some J0,41,[.slice B1 m1 d1,.slice B2 m2 d2,.slice B3 m3 d3]),(z0,3,D0),(some F2,28,[.slice A n c,.slice A4 n4 c4,.slice A5 n5 c5]),(some s3,37,[.int .i64 (onE p t).op,.int .i64 (onE p t).w,.int .i64 (onE p t).n,.slice a3 D3 E3]),(some g8,41,[.slice A1 n1 c1,.slice A2 n2 c2,.slice A3 n3 c3]),(some g6,41,[.slice none 0 0,.slice none 0 0,.slice none 0 0]),(some g3,27,[.slice Ac nc cc,.slice Am nm cm,.slice Al nl cl,.slice At nt ct]),(G,72,cs)])∧v0a [lp,m0] wi w∧(∀g∈Ps,wi.heap.size≤g∧g<w.heap.size)) _ _ _ _ _ _ (V0a Ki P1) (V0a Ki Q1) L2 N2 F4 J4 v4 K4 C4 ho z3 hb hb6 (by omega) ⟨none,0,0,Z⟩ (fun x hx=>by obtain⟨a,b,h1,h2,-,rfl⟩:=J2b.1 hx;simp only;omega) (O3a m 64) ⟨?_,?_,fun Ps k w h=>h.2.2.1,fun Ps k w a hJ u5 t5=>?_⟩) ?_
 ·intro Ps w G2 N0;exact⟨u3.keep (v0a.of_below G2),⟨none,[],.slice none 0 0,S1a.nil,by simp,by simp,Si.later G2⟩,v0a.of_below G2,N0⟩
 ·rintro Ps k w w' ⟨u0,⟨G,cs,v,h1,h2,i4,S3⟩,K3,N0⟩ e2;exact⟨u0.keep (v0a.of_below e2),⟨G,cs,v,h1,h2,i4,S3.later e2⟩,K3.trans (v0a.of_below e2),fun g hg=>⟨(N0 g hg).1,Nat.lt_of_lt_of_le (N0 g hg).2 e2.size⟩⟩
 ·obtain⟨u0,⟨G,cs,v,F0,T1,P2,S3⟩,K3,N0⟩:=hJ;obtain⟨Av,nv,cv,rfl⟩:=F0.form;have Kr:=v0a.refl ([lp,m0]++G.toList) w;refine p9c (u0 (lp,.loop rc) (by simp)).1 S2 I4 K2 H4 t4 u4 Z ?_;refine wI ?_;refine wO0 Z U (g0a S3 m8b Z Z ?_);intro q5 K5 h3 x2 e3;have v1:=Nat.le_trans K3.size e3;have z1:=Nat.le_trans Kr.size e3;replace K3:=K3.trans (x2.of_nil);replace Kr:=Kr.trans (x2.of_nil);replace u0:=u0.keep x2;refine c0a (kk:=0) (vs:=[_,_]) h3 T4b Z Z Z Z Z Z Z ?_;intro I0 V0 A0;dsimp only[h0a,List.set] at V0;replace K3:=K3.fresh2 A0 (by exact .inl v1);replace Kr:=Kr.fresh2 A0 (by exact .inl z1);replace u0:=by exact u0.keepS A0 (h3.blk 0 Z)
  refine lF0 Z U ?_;refine⟨(u0 (lp,.loop rc) (by simp)).1,?_⟩;have Sb:=V0.putObj (.loop { rc with state:=.busy }) u0 (List.mem_cons_self) (.inl (by omega));have L0:=u0.put (o':=.loop { rc with state:=.busy }) p1 (by simp);have Kb:=K3.fresh2 (L2a I0 lp (.loop { rc with state:=.busy })) (.inr (by simp));have Kbr:=Kr.fresh2 (L2a I0 lp (.loop { rc with state:=.busy })) (.inr (by simp));generalize I0.putObj lp (.loop { rc with state:=.busy })=wb at Sb L0 Kb Kbr ⊢;refine wI ?_;refine wO0 Z U (H0a z8a Z (by exact Sb.cell 1 Z Z) Z ?_);refine lO Sb.k [.w 0] Z ⟨⟨Z,by rfl⟩,U⟩ (k0a Sb v3a (vs:=[.agg _]) (cs:=[_,_]) Z Z Z Z Z Z ?_);intro r5 N5 w2 C2 a5;replace Kb:=Kb.trans (C2.of_nil);replace Kbr:=Kbr.trans (C2.of_nil);replace L0:=L0.keep C2;have d4:=Kb.size;have h5:=Kbr.size;refine v1a c9a (k:=10) (M2:=[]) (e1:=a) w2 v3a Z F0 Z Z (w2.cells 0 Z) ⟨Z,by unfold i64;omega,by unfold i64;omega⟩ (by omega) Z ?_;intro G5 b5 g4 O5 i3 G0 D2 L3;replace Kb:=Kb.freshL D2 (fun g hg=>.inl (T1 g hg).1);replace Kbr:=Kbr.trans (D2.mono (fun g hg=>List.mem_append_right _ hg));replace L0:=L0.keepL D2 (G2b w2 10 Z);obtain⟨_,_,_,rfl⟩:=G0.form;refine h1a (kk:=2) i3 F0d Z Z Z (by exact Nat.le_of_ble_eq_true Z) ?_;intro a1 C1 B0;replace Kb:=Kb.fresh2 B0 (by exact .inr (by simp));replace Kbr:=Kbr.fresh2 B0 (by exact .inr (by simp));replace L0:=by exact L0.keepS B0 (i3.blk 2 Z)
  refine lF0 Z U ?_;refine⟨{ rc with state:=.busy },(L0 (lp,_) (by simp)).1,Z,?_⟩;have r4:=L0.put (o':=.loop rc) p1 (by simp);have Sn:=C1.tail.tail.putObj (.loop rc) L0 (List.mem_cons_self) (.inl (by omega));have Kn:=Kb.fresh2 (L2a a1 lp (.loop rc)) (.inr (by simp));have f3:=Kbr.fresh2 (L2a a1 lp (.loop rc)) (.inr (by simp));rw[e7b S2 C3];refine⟨⟨r4,⟨_,_,_,G0,fun x hx=>?_,fun x hx=>?_,Sn⟩,Kn,fun g hg=>⟨(N0 g hg).1,Nat.lt_of_lt_of_le (N0 g hg).2 f3.size⟩⟩,fun g hg=>f3.same g (N0 g hg).2 (fun hh=>?_)⟩
  ·rcases L3 x hx with h|h
   ·exact T1 x h
   ·exact⟨Nat.le_trans d4 h,fun hh=>by have:=(N0 x hh).2;omega⟩
  ·rcases List.mem_append.1 hx with h|h
   ·exact P2 x h
   ·rw[List.mem_singleton.1 h];unfold i64;omega
  ·rcases List.mem_append.1 hh with h|h
   ·simp only[List.mem_cons,List.not_mem_nil,or_false] at h;have h1:=(N0 g hg).1;rcases h with rfl|rfl<;>omega
   ·exact(T1 g h).2 hg
 rintro v w3 ⟨Ps,u0,⟨G,f4,_,F0,T1,P2,S3⟩,K3,-⟩;obtain⟨Av,nv,cv,rfl⟩:=F0.form;refine⟨rc,(u0 (lp,.loop rc) (by simp)).1,by rw[S2];simp,.inl ⟨C3,?_⟩⟩;have Sa:=S3.putObj (.loop { rc with state:=.exhausted }) u0 (List.mem_cons_self) (.inl (by omega));have K0:=(u0.put (o':=.loop { rc with state:=.exhausted }) p1 (by simp)).tail;have Ka:=K3.fresh2 (L2a w3 lp (.loop { rc with state:=.exhausted })) (.inr (by simp));generalize w3.putObj lp (.loop { rc with state:=.exhausted })=wa at Sa K0 Ka ⊢;have B4:∀g∈G.toList,wi.heap.size≤g∨g∈[lp,m0]:=fun g hg=>.inl (T1 g hg).1;have s4:((w0b m 64).map (prj (allC p t l) (wdL p.cells (allC p t l)) l (wdL p.cells l))).length≤4096:=by rw[List.length_map];exact O3a m 64
 have p5:g6<O0.heap.size:=E1.lt 6 Z;refine fC0 Z U (k0c b0a (fun i=>[0,1,2,3,4,6,8,9,11].contains i) (.op 0 (.op 1 (.op 2 (.op 3 (.op 4 (.op 5 (.op 6 (.op 7 (.op 8 (.op 9 (.op 10 (.op 11 .nil)))))))))))) (x3d Sa 8 6 (g6::G.toList)) ?_);have i0:=Sa.drew;have i1:v0a [] wa wa.drew:=M4a _ _;generalize wa.drew=Y4 at i0 i1 ⊢;have t0:v0a (g6::G.toList) _ _:=i1.of_nil;replace K0:=K0.keep i1;refine O1a ⟨St.er (St.er (i0) 8) 6,t0⟩ Z Z Z ?_;refine i1a L1c Z Z ?_;refine o0a ?_;refine O1a ⟨St.er (St.er (i0) 8) 6,t0⟩ Z Z Z ?_;refine i0a i6a Z (fun w1 hw=>by exact hw.1.cell 5 Z Z) Z ?_;refine o0a ?_;refine O1a ⟨St.er (St.er (i0) 8) 6,t0⟩ Z Z Z ?_;refine i1a J1c Z Z ?_;refine o0a ?_;refine O1a ⟨St.er (St.er (i0) 8) 6,t0⟩ Z Z Z ?_;refine i0a i6a Z (fun w1 hw=>by exact hw.1.cell 5 Z Z) Z ?_;refine o0a ?_;refine O1a ⟨St.er (St.er (i0) 8) 6,t0⟩ Z Z Z ?_;refine i0a z8a Z (fun w1 hw=>by exact hw.1.cell 0 Z Z) Z ?_;refine o0a ?_;refine j5a ⟨St.er (St.er (i0) 8) 6,t0⟩ Z Z Z ?_;refine G1a a0c Z Z (a4b _ G f4 _ _ F0 (fun g hg=>by subst hg;exact i0.blk 8 Z) (by omega)) ?_;rintro H5 W4 ⟨_,s2,I2,⟨_,_,_,rfl⟩,y4⟩;have R0:=t0.trans (s2.keepO.mono (fun g hg=>List.mem_cons_of_mem _ hg));have g1:=i0.changedO 8 Z s2 I2;dsimp only[List.set] at g1;replace K0:=K0.keepL s2.keepO (G2b i0 8 Z);refine Z0a ⟨Z,?_⟩;refine O1a ⟨St.er (St.er (g1) 8) 6,R0⟩ Z Z Z ?_;refine E2a R4c (vs:=[(0,.slice _ _ _),(1,.slice _ _ _),(2,.slice _ _ _)]) (cs:=[_,_,_]) Z Z Z Z ?_;refine o0a ?_;refine j5a ⟨St.er (St.er (g1) 8) 6,R0⟩ Z Z Z ?_;have o5:=g1.size;have b1:v0a (g6::[lp,m0]) wi W4:=(Ka.mono (fun g hg=>List.mem_cons_of_mem _ hg)).freshL R0 (fun g hg=>by
  rcases List.mem_cons.1 hg with rfl|h
  ·exact .inr List.mem_cons_self
  ·exact(B4 g h).imp id (List.mem_cons_of_mem _))
 refine j0a g1 K0d Z Z (Y4b [] _ _ _ _ l (wdL p.cells l) _ C0 ((U1.keep b1).less (by simp)) ((X1.keep b1).less (by simp)) (y4 [] (by simp) P2) ho hb hb6 (fun x hx=>by obtain⟨a,-,rfl⟩:=List.mem_map.1 (j0b.1 hx);exact o2c ho.wid hb a) (T8b _)) ?_;rintro I5 P5 ⟨_,rfl,W1⟩ F1 q3;obtain⟨_,e1,_,_,_,_,_,_,_,rfl⟩:=W1.set3;have S0:=R0.trans q3.of_nil;replace K0:=K0.keep q3;refine Z0a ⟨Z,?_⟩;refine O1a ⟨St.er (St.er (F1) 8) 6,S0⟩ Z Z Z ?_;refine u3a Z Z Z ?_;refine o0a ?_;refine O1a ⟨St.er (St.er (F1) 8) 6,S0⟩ Z Z Z ?_;refine u3a Z Z Z ?_;refine o0a ?_;refine j5a ⟨St.er (St.er (F1) 8) 6,S0⟩ Z Z Z ?_;refine c0a (kk:=6) (vs:=[_,_,_]) F1 D6a Z Z Z Z Z Z Z ?_;intro X2 e0 s0;dsimp only[h0a,List.set] at e0;have q0:=S0.trans (s0.mono (by simp));replace K0:=by exact K0.keepS s0 (F1.blk 6 Z)
 refine Z0a ⟨Z,?_⟩;refine O1a ⟨St.er (St.er (e0) 8) 6,q0⟩ Z Z Z ?_;refine m4a (v:=.int .i64 _) Z Z ?_;refine o0a ?_;refine U0b ⟨St.er (St.er (e0) 8) 6,q0⟩ ?_;refine fR0 Z U ?_;have Zk:=b1.size;have m5:=g1.lt 6 Z;have Z3:=g1.size;have x4:=W1.congr (R':=R6b p t l) (fun x y=>f3c i2 T0 hm x y);have G4:g6∉[O0.heap.size]:=by rw[List.mem_singleton];omega
 exact G8b (n:=3) Z e5a Z Z Z [O0.heap.size] Z (by simp) K0 (e0.cells 6 Z) G4 (fun w' y3=>⟨⟨_,Z,x4.later (G:=[g6,O0.heap.size]) ((s0.mono (by simp)).trans ((v0a.of_belowM y3).mono (by simp))) (fun g hg=>by simp only[List.mem_cons,List.not_mem_nil,or_false] at hg;rcases hg with rfl|rfl<;>omega) Z3⟩,(B0a.step e0.below y3 (by simp;omega)).nil⟩)
def L4b(o n:List Int)(e:E):Prop:=e.val o n=0∨e.val o n=1
theorem n3b{e:E}(h:A3a e=true)(o n:List Int):L4b o n e:=by
 obtain⟨hw,hf⟩:=A6a h;have:=X3b (Z4a hf) o n;rw[hw] at this;have h2:T3a (1:Int).toNat=2:=by decide
 unfold L4b;omega
theorem i9c{a b:E}{o n:List Int}(ha:L4b o n a)(hb:L4b o n b):L4b o n (jnE 5 a b)∧((jnE 5 a b).val o n=1↔a.val o n=1∧b.val o n=1):=by
 have he:(jnE 5 a b).val o n=x8a (x8a (a.val o n) (b.val o n)) 1:=by rw[E.val_def];rfl
 unfold L4b at *;rw[he];rcases ha with ha|ha<;>rcases hb with hb|hb<;>rw[ha,hb]<;>decide
theorem n7c{a b:E}{o n:List Int}(ha:L4b o n a)(hb:L4b o n b):L4b o n (jnE 6 a b)∧((jnE 6 a b).val o n=1↔a.val o n=1∨b.val o n=1):=by
 have he:(jnE 6 a b).val o n=x8a (bor (a.val o n) (b.val o n)) 1:=by rw[E.val_def];rfl
 unfold L4b at *;rw[he];rcases ha with ha|ha<;>rcases hb with hb|hb<;>rw[ha,hb]<;>decide
theorem U3b{o n:List Int}:∀(es:List E) (acc:E),L4b o n acc→(∀e∈es,L4b o n e)→((es.foldl (jnE 5) acc).val o n=1↔acc.val o n=1∧∀e∈es,e.val o n=1)
 | [],acc,_,_=>by simp
 | e::es,acc,ha,h=>by
   have h1:=i9c ha (h e (by simp));rw[List.foldl_cons,U3b es _ h1.1 fun x hx=>h x (List.mem_cons_of_mem _ hx),h1.2];simp[and_assoc]
theorem e3b{o n:List Int}:∀(es:List E) (acc:E),L4b o n acc→(∀e∈es,L4b o n e)→((es.foldl (jnE 6) acc).val o n=1↔acc.val o n=1∨∃e∈es,e.val o n=1)
 | [],acc,_,_=>by simp
 | e::es,acc,ha,h=>by
   have h1:=n7c ha (h e (by simp));rw[List.foldl_cons,e3b es _ h1.1 fun x hx=>h x (List.mem_cons_of_mem _ hx),h1.2];simp[or_assoc]
theorem Y6a(w n:Int)(o q:List Int):(⟨1,w,n,[]⟩:E).val o q=n:=by rw[E.val_def];rfl
theorem N2b{e:E}(h:e.op=1)(o n:List Int):e.val o n=e.n:=by rw[E.val_def,if_pos h]
theorem k9a{op unit:Int}{l:List E}(h:G2a op unit l≠zE):∀e∈l,A3a e=true:=fun e he=>by
 cases hc:A3a e with
 | true=>rfl
 | false=>exact absurd (G4a he hc) h
theorem g5a{l:List E}{e:E}:e∈o1a l↔e∈l∧e.op≠1:=by unfold o1a;simp
theorem T0c{l:List E}(h:G2a 5 1 l≠zE)(o n:List Int):(G2a 5 1 l).val o n=1↔∀e∈l,e.val o n=1:=by
 have hc:=k9a h;cases hd:l.any (fun e=>isC e (1-1)) with
 | true =>
   rw[c7a hc hd,Y6a];obtain⟨e,he,h1⟩:=List.any_eq_true.1 hd;unfold isC at h1;have h2:=of_decide_eq_true h1;refine⟨fun h=>by omega,fun hh=>?_⟩;have:=hh e he;rw[N2b h2.1] at this;omega
 | false =>
   have hj:=x2a (op:=5) hc hd;have hw:(i3a 5 1 (o1a l)).wf=true:=by
    cases hw:(i3a 5 1 (o1a l)).wf with
    | true=>rfl
    | false=>rw[hw] at hj;exact absurd hj h
   rw[hj,if_pos hw];have key:(i3a 5 1 (o1a l)).val o n=1↔∀e∈o1a l,e.val o n=1:=by
    have hb:∀e∈o1a l,L4b o n e:=fun e he=>n3b (hc e (g5a.1 he).1) o n;cases hk:o1a l with
    | nil=>simp[i3a,Y6a]
    | cons e es =>
      rw[hk] at hb;rw[show i3a 5 1 (e::es)=es.foldl (jnE 5) e from rfl,U3b es e (hb e (by simp)) fun x hx=>hb x (List.mem_cons_of_mem _ hx)];simp
   rw[key];refine⟨fun hh e he=>?_,fun hh e he=>hh e (g5a.1 he).1⟩;by_cases ho:e.op=1
   ·rw[N2b ho];rcases f2b (hc e he) ho with h1|h1
    ·have:l.any (fun e=>isC e (1-1))=true:=List.any_eq_true.2 ⟨e,he,by unfold isC;exact decide_eq_true ⟨ho,by omega⟩⟩;rw[hd] at this;cases this
    ·exact h1
   ·exact hh e (g5a.2 ⟨he,ho⟩)
theorem U0d{l:List E}(h:G2a 6 0 l≠zE)(o n:List Int):(G2a 6 0 l).val o n=1↔∃e∈l,e.val o n=1:=by
 have hc:=k9a h;cases hd:l.any (fun e=>isC e (1-0)) with
 | true =>
   rw[c7a hc hd,Y6a];obtain⟨e,he,h1⟩:=List.any_eq_true.1 hd;unfold isC at h1;have h2:=of_decide_eq_true h1;exact⟨fun _=>⟨e,he,by rw[N2b h2.1];omega⟩,fun _=>by omega⟩
 | false =>
   have hj:=x2a (op:=6) hc hd;have hw:(i3a 6 0 (o1a l)).wf=true:=by
    cases hw:(i3a 6 0 (o1a l)).wf with
    | true=>rfl
    | false=>rw[hw] at hj;exact absurd hj h
   rw[hj,if_pos hw];have key:(i3a 6 0 (o1a l)).val o n=1↔∃e∈o1a l,e.val o n=1:=by
    have hb:∀e∈o1a l,L4b o n e:=fun e he=>n3b (hc e (g5a.1 he).1) o n;cases hk:o1a l with
    | nil=>simp[i3a,Y6a]
    | cons e es =>
      rw[hk] at hb;rw[show i3a 6 0 (e::es)=es.foldl (jnE 6) e from rfl,e3b es e (hb e (by simp)) fun x hx=>hb x (List.mem_cons_of_mem _ hx)];simp
   rw[key];refine⟨fun⟨e,he,hh⟩=>⟨e,(g5a.1 he).1,hh⟩,fun⟨e,he,hh⟩=>⟨e,g5a.2 ⟨he,fun ho=>?_⟩,hh⟩⟩;rw[N2b ho] at hh;have:l.any (fun e=>isC e (1-0))=true:=List.any_eq_true.2 ⟨e,he,by unfold isC;exact decide_eq_true ⟨ho,by omega⟩⟩;rw[hd] at this;cases this
theorem O6c{op:Int}(b0:op=5∨op=6){cells:List d1a}{a0:Bool}{a b:E}(ha:a.over cells a0=true)(hb:b.over cells a0=true):(jnE op a b).over cells a0=true:=by
 rw[E.over_def,Bool.and_eq_true];refine⟨decide_eq_true ⟨fun h=>?_,fun h=>?_⟩,(E.overs_iff _ _ _).2 fun k hk=>?_⟩
 ·simp only[jnE] at h;omega
 ·simp only[jnE] at h;omega
 ·simp only[jnE,List.mem_cons,List.not_mem_nil,or_false] at hk;rcases hk with rfl|rfl
  ·exact ha
  ·exact hb
theorem k3b{op:Int}(b0:op=5∨op=6){cells:List d1a}{a0:Bool}:∀(es:List E) (acc:E),acc.over cells a0=true→(∀e∈es,e.over cells a0=true)→(es.foldl (jnE op) acc).over cells a0=true
 | [],_,h,_=>h
 | e::es,acc,h,hl=>k3b b0 es _ (O6c b0 h (hl e (by simp))) fun x hx=>hl x (List.mem_cons_of_mem _ hx)
theorem t1b(w n:Int)(cells:List d1a)(a0:Bool):(⟨1,w,n,[]⟩:E).over cells a0=true:=by
 rw[E.over_def,Bool.and_eq_true];exact⟨decide_eq_true ⟨fun h=>by simp only at h;omega,fun h=>by simp only at h;omega⟩,Z⟩
theorem n1c(cells:List d1a)(a0:Bool):zE.over cells a0=true:=by
 rw[E.over_def,Bool.and_eq_true];exact⟨decide_eq_true ⟨fun h=>by simp only[zE] at h;omega,fun h=>by simp only[zE] at h;omega⟩,Z⟩
theorem p8a{op unit:Int}(c0:op=5∨op=6){cells:List d1a}{a0:Bool}{l:List E}(h:∀e∈l,e.over cells a0=true):(G2a op unit l).over cells a0=true:=by
 unfold G2a
 split
 ·split
  ·exact t1b _ _ _ _
  ·split
   ·have hk:∀e∈o1a l,e.over cells a0=true:=fun e he=>h e (g5a.1 he).1;cases b0:o1a l with
    | nil=>exact t1b _ _ _ _
    | cons e es=>rw[b0] at hk;exact k3b c0 es e (hk e (by simp)) fun x hx=>hk x (List.mem_cons_of_mem _ hx)
   ·exact n1c _ _
 ·exact n1c _ _
theorem C4b{p:n0a}{c:Int}(hc:0≤c∧c<p.cells.length):(I3a p c).over p.cells true=true:=by
 rw[E.over_def,Bool.and_eq_true];refine⟨decide_eq_true ⟨fun _=>rfl,fun h=>by simp only[I3a] at h;omega⟩,(E.overs_iff _ _ _).2 fun k hk=>?_⟩;simp only[I3a,List.mem_cons,List.not_mem_nil,or_false] at hk;rcases hk with rfl|rfl<;>rw[E.over_def,Bool.and_eq_true]
 ·exact⟨decide_eq_true ⟨fun _=>rfl,fun _=>⟨hc.2,Z⟩⟩,Z⟩
 ·exact⟨decide_eq_true ⟨fun _=>rfl,fun _=>⟨hc.2,Z⟩⟩,Z⟩
theorem T9b{p:n0a}{m:Int}(h:0≤m∧m<p.modules.length):∃md,p.modules[m.toNat]?=some md∧Q8b p m.toNat=md:=by
 have h1:m.toNat<p.modules.length:=by omega
 refine⟨p.modules[m.toNat],List.getElem?_eq_getElem h1,?_⟩;unfold Q8b;rw[List.getD_eq_getElem?_getD,List.getElem?_eq_getElem h1];rfl
theorem h9b{p:n0a}(hp:q1a p){m:Int}(h:0≤m∧m<p.modules.length):(T2a p m).over p.cells true=true:=by
 obtain⟨md,hm,he⟩:=T9b h;unfold T2a U1b;rw[he];refine p8a (.inl Z) fun e hx=>?_;rcases List.mem_cons.1 hx with rfl|hx
 ·exact(h2a (hp.modules md (List.mem_of_getElem? hm)).guar.1).2.2
 ·obtain⟨_,hc,rfl⟩:=List.mem_map.1 hx;have:=u4a.1 (List.mem_filter.1 hc).1;exact C4b ⟨this.1,this.2.1⟩
theorem T5c{p:n0a}(hp:q1a p)(t:Nat):(onE p t).over p.cells true=true:=by
 refine p8a (.inl Z) fun e hx=>?_;rcases List.mem_cons.1 hx with rfl|hx
 ·refine p8a (.inr Z) fun e hx=>?_;obtain⟨_,hm,rfl⟩:=List.mem_map.1 hx;exact h9b hp (c6a hm)
 ·obtain⟨_,hc,rfl⟩:=List.mem_map.1 hx;have:=u4a.1 hc;exact C4b ⟨this.1,this.2.1⟩
theorem F7a{p:n0a}(hp:q1a p){t:Nat}(h:onE p t≠zE):(onE p t).valid p.cells true=true:=by
 rcases c5a (op:=5) (unit:=1) (.inr Z) (g6a p t::(ofL p t).map (I3a p)) with h1|h1
 ·exact absurd h1 h
 ·unfold E.valid;rw[Bool.and_eq_true];exact⟨h1.1,T5c hp t⟩
def f8b(p:n0a)(o n:List Int)(c:Int):Prop:=o.getD c.toNat 0 % T3a (wAt p.cells c).toNat=n.getD c.toNat 0 % T3a (wAt p.cells c).toNat
theorem e9a{p:n0a}{c:Int}(hw:1≤wAt p.cells c∧wAt p.cells c≤8)(o n:List Int):(I3a p c).val o n=1↔f8b p o n c:=by
 have he:(I3a p c).val o n=x8a (if x8a (o.getD c.toNat 0) (T3a (wAt p.cells c).toNat-1)=x8a (n.getD c.toNat 0) (T3a (wAt p.cells c).toNat-1) then 1 else 0) 1:=by
  rw[E.val_def];rfl
 rw[he,n7a _ _,n7a _ _];unfold f8b
 split
 ·rename_i h;exact⟨fun _=>h,fun _=>by decide⟩
 ·rename_i h;exact⟨fun hh=>absurd hh (by decide),fun hh=>absurd hh h⟩
theorem m7a{p:n0a}(hp:q1a p){c:Int}(hc:0≤c∧c<p.cells.length):1≤wAt p.cells c∧wAt p.cells c≤8:=A0c hc fun c h=>(hp.cells c h).w
theorem x2c{p:n0a}(hp:q1a p){m:Int}(h:T2a p m≠zE)(o n:List Int):(T2a p m).val o n=1↔(Q8b p m.toNat).guar.val o n=1∧∀c:Int,0≤c→c<p.cells.length→k1a p.cells c=-1→c∉(Q8b p m.toNat).frame→f8b p o n c:=by
 unfold T2a at h ⊢;rw[T0c h];unfold U1b;rw[List.forall_mem_cons];refine and_congr_right fun _=>⟨fun hh c h0 h1 h2 h3=>?_,fun hh e he=>?_⟩
 ·exact(e9a (m7a hp ⟨h0,h1⟩) o n).1 (hh _ (List.mem_map.2 ⟨c,List.mem_filter.2 ⟨u4a.2 ⟨h0,h1,h2⟩,by simpa using h3⟩,Z⟩))
 ·obtain⟨c,hc,rfl⟩:=List.mem_map.1 he;obtain⟨h1,h2⟩:=List.mem_filter.1 hc;obtain⟨h3,h4,h5⟩:=u4a.1 h1;exact(e9a (m7a hp ⟨h3,h4⟩) o n).2 (hh c h3 h4 h5 (by simpa using h2))
theorem N6b{p:n0a}{t:Nat}(h:onE p t≠zE):g6a p t≠zE∧∀m∈w1a p t,T2a p m≠zE :=
 ⟨fun h1=>h (A1b h1),fun _ hm h1=>h (A1b (Y3b hm h1))⟩
theorem y1d{p:n0a}(hp:q1a p){t:Nat}(h:onE p t≠zE)(o n:List Int):(onE p t).val o n=1↔(∃m∈w1a p t,(T2a p m).val o n=1)∧∀c:Int,0≤c→c<p.cells.length→k1a p.cells c=t→f8b p o n c:=by
 have hs:=(N6b h).1;unfold onE at h ⊢;rw[T0c h,List.forall_mem_cons];refine and_congr ?_ ⟨fun hh c h0 h1 h2=>?_,fun hh e he=>?_⟩
 ·unfold g6a at hs ⊢;rw[U0d hs];constructor
  ·rintro⟨e,he,h1⟩;obtain⟨m,hm,rfl⟩:=List.mem_map.1 he;exact⟨m,hm,h1⟩
  ·rintro⟨m,hm,h1⟩;exact⟨_,List.mem_map.2 ⟨m,hm,Z⟩,h1⟩
 ·exact(e9a (m7a hp ⟨h0,h1⟩) o n).1 (hh _ (List.mem_map.2 ⟨c,u4a.2 ⟨h0,h1,h2⟩,Z⟩))
 ·obtain⟨c,hc,rfl⟩:=List.mem_map.1 he;obtain⟨h3,h4,h5⟩:=u4a.1 hc;exact(e9a (m7a hp ⟨h3,h4⟩) o n).2 (hh c h3 h4 h5)
def L3a:E:=⟨1,1,1,[]⟩
def V0d:E:=⟨13,1,0,[⟨3,1,0,[]⟩,⟨2,1,0,[]⟩]⟩
def e2c(nm:ByteArray)(k:Int):j1a:=⟨nm,2,[L3a,L3a],[k,k],[⟨3,0,1,L3a,[⟨k,L3a⟩],false,0,k⟩],[],false⟩
def K1a:n0a:=⟨[⟨⟨#[65,46,120]⟩,1,0,-1,false,0⟩,⟨⟨#[66,46,121]⟩,1,0,-1,false,1⟩],[⟨⟨#[65]⟩,⟨#[111]⟩,zE,V0d,[0]⟩,⟨⟨#[66]⟩,⟨#[111]⟩,zE,L3a,[1]⟩],[],[e2c ⟨#[97]⟩ 0,e2c ⟨#[98]⟩ 1]⟩
theorem z6c:q1a K1a:=s3c (by kernel_rfl)
def B6a:E:=⟨5,1,0,[V0d,⟨11,1,0,[⟨3,1,1,[]⟩,⟨2,1,1,[]⟩]⟩]⟩
theorem t4a:T2a K1a 0=B6a:=by kernel_rfl
theorem c4b:onE K1a 1=B6a:=by kernel_rfl
theorem y4c:onE K1a 0=⟨11,1,0,[⟨3,1,0,[]⟩,⟨2,1,0,[]⟩]⟩:=by kernel_rfl
theorem A7b:B6a.txt=[97,110,100,40,108,101,40,111,48,58,49,44,99,48,58,49,41,44,101,113,40,111,49,58,49,44,99,49,58,49,41,41]:=by kernel_rfl
theorem F4c:B6a.txB=true:=by kernel_rfl
theorem J9c:B6a.wf=true:=by kernel_rfl
theorem B7a:∀(a b:List (Int×Int)),a.Pairwise lt2→b.Pairwise lt2→(∀x,x∈a↔x∈b)→a=b
 | [],[],_,_,_=>rfl
 | [],y::b,_,_,h=>by have:=(h y).2 (by simp);cases this
 | x::a,[],_,_,h=>by have:=(h x).1 (by simp);cases this
 | x::a,y::b,ha,hb,h=>by
   rw[List.pairwise_cons] at ha hb;have a0:∀p:Int×Int,¬lt2 p p:=fun p hp=>by unfold lt2 at hp;omega
   have b0:∀p q:Int×Int,lt2 p q→lt2 q p→False:=fun p q h1 h2=>by unfold lt2 at h1 h2;omega
   have c0:x=y:=by
    rcases List.mem_cons.1 ((h x).1 (by simp)) with h1|h1
    ·exact h1
    ·rcases List.mem_cons.1 ((h y).2 (by simp)) with h2|h2
     ·exact h2.symm
     ·exact(b0 _ _ (hb.1 x h1) (ha.1 y h2)).elim
   subst c0
   congr 1
   refine B7a a b ha.2 hb.2 fun z=>⟨fun hz=>?_,fun hz=>?_⟩
   ·rcases List.mem_cons.1 ((h z).1 (List.mem_cons_of_mem _ hz)) with h1|h1
    ·subst h1;exact(a0 _ (ha.1 z hz)).elim
    ·exact h1
   ·rcases List.mem_cons.1 ((h z).2 (List.mem_cons_of_mem _ hz)) with h1|h1
    ·subst h1;exact(a0 _ (hb.1 z hz)).elim
    ·exact h1
theorem C6a:allC K1a 1 [0]=[0,1]:=by
 have h:=b4a ([0]++(onE K1a 1).sup 3) ((onE K1a 1).sup 2);have e3:(onE K1a 1).sup 3=[0,1]:=by kernel_rfl
 have e2:(onE K1a 1).sup 2=[0,1]:=by kernel_rfl
 refine V4a _ _ h.1 (by decide) fun x=>(h.2 x).trans ?_;rw[e3,e2];simp
theorem O1b:allC K1a 0 [0]=[0]:=by
 have h:=b4a ([0]++(onE K1a 0).sup 3) ((onE K1a 0).sup 2);have e3:(onE K1a 0).sup 3=[0]:=by kernel_rfl
 have e2:(onE K1a 0).sup 2=[0]:=by kernel_rfl
 refine V4a _ _ h.1 (by decide) fun x=>(h.2 x).trans ?_;rw[e3,e2];simp
theorem Clo.inv{R Q:Nat→Nat→Prop}{n x y:Nat}(h:Clo R n x y)(hr:∀x,Q x x)(ht:∀x y z,Q x y→R y z→Q x z):Q x y:=by
 induction h with
 | refl h=>exact hr _
 | tail h h2 h3 ih=>exact ht _ _ _ ih h2
theorem U8c:∀a,a<4→∀b,b<4→B6a.evl (stZ [0,1] [1,1] a M1a) (stZ [0,1] [1,1] b M1a)=1→nuZ [0] [1] (stZ [0,1] [1,1] a M1a)≤nuZ [0] [1] (stZ [0,1] [1,1] b M1a):=by decide +kernel
theorem J1b:B6a.evl (stZ [0,1] [1,1] 0 M1a) (stZ [0,1] [1,1] 1 M1a)=1∧nuZ [0] [1] (stZ [0,1] [1,1] 0 M1a)=0∧nuZ [0] [1] (stZ [0,1] [1,1] 1 M1a)=1:=by decide +kernel
theorem Y7c:∀a,a<2→∀b,b<2→(⟨11,1,0,[⟨3,1,0,[]⟩,⟨2,1,0,[]⟩]⟩:E).evl (stZ [0] [1] a M1a) (stZ [0] [1] b M1a)=1→nuZ [0] [1] (stZ [0] [1] a M1a)=nuZ [0] [1] (stZ [0] [1] b M1a):=by decide +kernel
theorem G1b(x y:Nat):Clo (R6b K1a 1 [0]) 2 x y↔x≤y∧y<2:=by
 have hb:∀x y,R6b K1a 1 [0] x y→x≤y:=fun x y h=>by
  obtain⟨a,b,⟨ha,hb,hv⟩,rfl,rfl⟩:=h;rw[C6a,c4b] at hv;rw[C6a] at ha hb ⊢;exact U8c a ha b hb hv
 constructor
 ·intro h;exact⟨h.inv (Q:=fun a b=>a≤b) (fun _=>Nat.le_refl _) (fun _ _ _ h1 h2=>Nat.le_trans h1 (hb _ _ h2)),h.lt.2⟩
 ·rintro⟨h1,h2⟩;rcases(show(x=0∧y=0)∨(x=0∧y=1)∨(x=1∧y=1) by omega) with⟨rfl,rfl⟩|⟨rfl,rfl⟩|⟨rfl,rfl⟩
  ·exact .refl (by omega)
  ·refine .tail (.refl (by omega)) ⟨0,1,?_,?_,?_⟩ (by omega)
   ·rw[C6a,c4b];exact⟨by decide,by decide,J1b.1⟩
   ·rw[C6a];exact J1b.2.1.symm
   ·rw[C6a];exact J1b.2.2.symm
  ·exact .refl (by omega)
theorem Q4b(x y:Nat):Clo (R6b K1a 0 [0]) 2 x y↔x=y∧y<2:=by
 have hb:∀x y,R6b K1a 0 [0] x y→x=y:=fun x y h=>by
  obtain⟨a,b,⟨ha,hb,hv⟩,rfl,rfl⟩:=h;rw[O1b,y4c] at hv;rw[O1b] at ha hb ⊢;exact Y7c a ha b hb hv
 constructor
 ·intro h;exact⟨h.inv (Q:=fun a b=>a=b) (fun _=>rfl) (fun _ _ _ h1 h2=>h1.trans (hb _ _ h2)),h.lt.2⟩
 ·rintro⟨rfl,h2⟩;exact .refl h2
theorem O9c{l:List (Int×Int)}(hu:l.Pairwise lt2)(h:∀p,p∈l↔∃x y,Clo (R6b K1a 1 [0]) (2 ^ 1) x y∧p=((x:Int),(y:Int))):l=[(0,0),(0,1),(1,1)]:=by
 refine B7a _ _ hu (by simp[lt2]) fun p=>(h p).trans ?_;constructor
 ·rintro⟨x,y,hc,rfl⟩;have:=(G1b x y).1 hc;rcases(show(x=0∧y=0)∨(x=0∧y=1)∨(x=1∧y=1) by omega) with⟨rfl,rfl⟩|⟨rfl,rfl⟩|⟨rfl,rfl⟩<;>simp
 ·intro hp;simp only[List.mem_cons,List.not_mem_nil,or_false] at hp;rcases hp with rfl|rfl|rfl
  ·exact⟨0,0,(G1b 0 0).2 (by omega),Z⟩
  ·exact⟨0,1,(G1b 0 1).2 (by omega),Z⟩
  ·exact⟨1,1,(G1b 1 1).2 (by omega),Z⟩
theorem t0d{l:List (Int×Int)}(hu:l.Pairwise lt2)(h:∀p,p∈l↔∃x y,Clo (R6b K1a 0 [0]) (2 ^ 1) x y∧p=((x:Int),(y:Int))):l=[(0,0),(1,1)]:=by
 refine B7a _ _ hu (by simp[lt2]) fun p=>(h p).trans ?_;constructor
 ·rintro⟨x,y,hc,rfl⟩;have:=(Q4b x y).1 hc;rcases(show(x=0∧y=0)∨(x=1∧y=1) by omega) with⟨rfl,rfl⟩|⟨rfl,rfl⟩<;>simp
 ·intro hp;simp only[List.mem_cons,List.not_mem_nil,or_false] at hp;rcases hp with rfl|rfl
  ·exact⟨0,0,(Q4b 0 0).2 (by omega),Z⟩
  ·exact⟨1,1,(Q4b 1 1).2 (by omega),Z⟩
theorem q7b{l:List (Int×Int)}(hu:l.Pairwise lt2)(h:∀x,x∈l↔P8a K1a 2 x):l=[(0,1),(1,0)]:=by
 refine B7a _ _ hu (by simp[lt2]) fun p=>(h p).trans ?_;constructor
 ·rintro⟨t,_,u,_,_,_,_,hu,_,h1,h2,h3,h4,rfl⟩;have a0:u<2:=hu;rcases(show(t=0∧u=1)∨(t=1∧u=0) by omega) with⟨rfl,rfl⟩|⟨rfl,rfl⟩<;>cases h1<;>cases h2<;>simp[e2c] at h3 h4<;>subst h3<;>subst h4<;>simp
 ·intro hp;simp only[List.mem_cons,List.not_mem_nil,or_false] at hp;rcases hp with rfl|rfl
  ·exact⟨0,by omega,1,_,_,_,1,by decide,by omega,Z,Z,List.mem_cons_self,by simp[e2c],Z⟩
  ·exact⟨1,by omega,0,_,_,_,0,by decide,by omega,Z,Z,List.mem_cons_self,by simp[e2c],Z⟩
theorem s8a{B g t n:Nat}{w:World}{vb:Value}{bs:List Value}(h:w.ownsRow B t 1 vb n bs):∀x∈g::vb.ownBlock.toList,x=g∨B≤x:=fun x hx=>by
 rcases List.mem_cons.1 hx with h1|h1
 ·exact .inl h1
 ·cases hv:vb.ownBlock with
  | none=>rw[hv] at h1;simp at h1
  | some y =>
    rw[hv] at h1;simp at h1;subst h1;exact .inr (e7a h hv).1
theorem a5a{B t n:Nat}{w:World}{vb:Value}{bs:List Value}{a l:List UInt8}(h:w.ownsRow B t 1 vb (n+a.length+(e6a l).size) (bs++Lib.byteCells a++Lib.strCells (e6a l))):w.ownsRow B t 1 vb (n+(a++l).length) (bs++Lib.byteCells (a++l)):=by
 rw[I2a,Nat.add_assoc,←List.length_append] at h;have e:bs++Lib.byteCells a++Lib.strCells (e6a l)=bs++Lib.byteCells (a++l):=by
  rw[List.append_assoc]
  congr 1
  show Lib.byteCells a++Lib.byteCells l=_
  simp[Lib.byteCells]
 rw[e] at h;exact h
theorem Z7c{B t n:Nat}{w:World}{vb:Value}{bs:List Value}{a l:List UInt8}(h:w.ownsRow B t 1 vb (n+a.length+l.length) (bs++Lib.byteCells a++Lib.byteCells l)):w.ownsRow B t 1 vb (n+(a++l).length) (bs++Lib.byteCells (a++l)) :=
 a5a (by rw[I2a];exact h)
theorem H2b{B t n:Nat}{w:World}{vb:Value}{bs:List Value}(h:w.ownsRow B t 1 vb n bs):w.ownsRow B t 1 vb (n+([]:List UInt8).length) (bs++Lib.byteCells []):=by
 have e:bs++Lib.byteCells []=bs:=by simp[Lib.byteCells]
 rw[e];exact h
theorem M2c:∀(e:E) (B g gw:Nat) (w0:World) (b o:Nat) (pv vb:Value) (n:Nat) (bs:List Value),g<B→gw<B→gw≠g→B≤w0.heap.size→RB B g w0 e b o→NB B g w0 →
 w0.cell? ⟨gw,0,none⟩=some (.func (.func 95) #[] #[.pointer (some ⟨g,0,none⟩),.pointer (some ⟨gw,0,none⟩)])→(pv=.pointer none∨pv=.pointer (some ⟨g,0,none⟩)) →
 m0a w0 (g,145,[pv,vb])→w0.ownsRow B 5 1 vb n bs→e.txB=true→n+e.txt.length≤900000 →
 C0a prog 95 #[.pointer (some ⟨b,o,none⟩),.pointer (some ⟨g,0,none⟩),.pointer (some ⟨gw,0,none⟩)] w0 fun _ w' =>
  (∃i1,m0a w' (g,145,[.pointer (some ⟨g,0,none⟩),i1])∧w'.ownsRow B 5 1 i1 (n+e.txt.length) (bs++Lib.byteCells e.txt))∧BX B g w0 w':=by
 intro e
 induction e using E.induct with
 | _ e ih =>
 intro B g gw w0 b o pv vb n bs y0 A1 B1 hB hE hN a1 J0 U0 r0 K0 n0;obtain⟨j0,_,_,_,c0,c1,c2,_,nk,_,c3,hn,_,_,_,-,-⟩:=(hE (MB B g w0) P1d).open_;have f1:gw∉MB B g w0:=fun h=>by rcases K7a.1 h with h|h<;>omega
 have Y0:=hN (MB B g w0) P1d;have S:St (MB B g w0) w0 w0 [(some g,145,[pv,vb])]:=(St.reflM _ w0).push U0 (.inr (K7a.2 (.inl Z))) (by simp);have V0:=fun k hk=>hE.kid c3 hn k hk;by_cases s0:e.op=1∨e.op=2∨e.op=3;refine a0a func95 Z ntmps95 Z ?_;refine wO0 Z U (H0a y0a Z (by exact S.oldM j0 c0) Z ?_);refine lB0 Z U (fun O0=>?_) fun O0=>?_
 ·obtain⟨t0,u0,v0,x0⟩:=E.txB_leaf s0 K0;have KC:=v0a.refl [] w0;have l1:=e2b e.op;have l2:=a6a t0 u0;have l3:=a6a v0 x0;have o0:=E.txt_leaf s0;rw[o0] at n0;simp only[List.length_append,List.length_cons,List.length_nil] at n0;refine lC0 Z U (x0a b0a [0,1,2,3,4,5,6,7,8,9,10,11,12,13,14,15,16,17] [] [18] Z (Cl _ _ _ _) (Cl.start S) ?_);refine qO0 Z U (i0a y0a Z (fun w1 hw=>by exact hw.1.oldM j0 c0) Z ?_);refine E1a Y1c Z Z (fun w1 S1 X1=>o9a e.op _) ?_;refine qO0 Z U (i0a y0a Z (fun w1 hw=>by exact hw.1.oldM j0 c2) Z ?_);refine E1a u1b Z Z (fun w1 S1 X1=>W5a e.n t0 u0 _) ?_;refine G7a Z Z (by omega) Z ?_;refine G7a (b:=[58]) Z Z (by simp;omega) Z ?_;refine qO0 Z U (i0a y0a Z (fun w1 hw=>by exact hw.1.oldM j0 c1) Z ?_);refine E1a u1b Z Z (fun w1 S1 X1=>W5a e.w v0 x0 _) ?_;refine G7a Z Z (by simp;omega) Z ?_;refine qD Z U ?_;rintro m1 ⟨i0,C0⟩;replace KC:=KC.trans C0;have d0:=D1a (H2b r0) KC;refine G1a b1b Z Z (o2a B g y0 pv vb J0 _ _ (e6a (R8b e.op++q8b e.n++[58]++q8b e.w)) _ (Nat.le_trans hB i0.size) (i0.blk 0 Z) d0 (by rw[I2a];simp;omega)) ?_;rintro g1 j1 ⟨⟨q0,b0,a0⟩,A0⟩;have B0:=St.wrote i0 (BX.ofB A0 (s8a d0) (Nat.le_trans hB i0.size)) b0;refine lR0 Z U (z1a Z ?_);rw[o0];exact⟨⟨q0,b0,by simpa using a5a a0⟩,B0.bx hB⟩
 refine lB0 Z U (fun P0=>?_) fun P0=>?_
 ·obtain⟨t0,u0,v0,x0⟩:=E.txB_leaf s0 K0;have KC:=v0a.refl [] w0;have l1:=e2b e.op;have l2:=a6a t0 u0;have l3:=a6a v0 x0;have o0:=E.txt_leaf s0;rw[o0] at n0;simp only[List.length_append,List.length_cons,List.length_nil] at n0;refine lC0 Z U (x0a b0a [0,1,2,3,4,5,6,7,8,9,10,11,12,13,14,15,16,17] [] [18] Z (Cl _ _ _ _) (Cl.start S) ?_);refine qO0 Z U (i0a y0a Z (fun w1 hw=>by exact hw.1.oldM j0 c0) Z ?_);refine E1a Y1c Z Z (fun w1 S1 X1=>o9a e.op _) ?_;refine qO0 Z U (i0a y0a Z (fun w1 hw=>by exact hw.1.oldM j0 c2) Z ?_);refine E1a u1b Z Z (fun w1 S1 X1=>W5a e.n t0 u0 _) ?_;refine G7a Z Z (by omega) Z ?_;refine G7a (b:=[58]) Z Z (by simp;omega) Z ?_;refine qO0 Z U (i0a y0a Z (fun w1 hw=>by exact hw.1.oldM j0 c1) Z ?_);refine E1a u1b Z Z (fun w1 S1 X1=>W5a e.w v0 x0 _) ?_;refine G7a Z Z (by simp;omega) Z ?_;refine qD Z U ?_;rintro m1 ⟨i0,C0⟩;replace KC:=KC.trans C0;have d0:=D1a (H2b r0) KC;refine G1a b1b Z Z (o2a B g y0 pv vb J0 _ _ (e6a (R8b e.op++q8b e.n++[58]++q8b e.w)) _ (Nat.le_trans hB i0.size) (i0.blk 0 Z) d0 (by rw[I2a];simp;omega)) ?_;rintro g1 j1 ⟨⟨q0,b0,a0⟩,A0⟩;have B0:=St.wrote i0 (BX.ofB A0 (s8a d0) (Nat.le_trans hB i0.size)) b0;refine lR0 Z U (z1a Z ?_);rw[o0];exact⟨⟨q0,b0,by simpa using a5a a0⟩,B0.bx hB⟩
 refine lB0 Z U (fun Q0=>?_) (fun Q0=>by exfalso;omega);obtain⟨t0,u0,v0,x0⟩:=E.txB_leaf s0 K0;have KC:=v0a.refl [] w0;have l1:=e2b e.op;have l2:=a6a t0 u0;have l3:=a6a v0 x0;have o0:=E.txt_leaf s0;rw[o0] at n0;simp only[List.length_append,List.length_cons,List.length_nil] at n0;refine lC0 Z U (x0a b0a [0,1,2,3,4,5,6,7,8,9,10,11,12,13,14,15,16,17] [] [18] Z (Cl _ _ _ _) (Cl.start S) ?_);refine qO0 Z U (i0a y0a Z (fun w1 hw=>by exact hw.1.oldM j0 c0) Z ?_);refine E1a Y1c Z Z (fun w1 S1 X1=>o9a e.op _) ?_;refine qO0 Z U (i0a y0a Z (fun w1 hw=>by exact hw.1.oldM j0 c2) Z ?_);refine E1a u1b Z Z (fun w1 S1 X1=>W5a e.n t0 u0 _) ?_;refine G7a Z Z (by omega) Z ?_;refine G7a (b:=[58]) Z Z (by simp;omega) Z ?_;refine qO0 Z U (i0a y0a Z (fun w1 hw=>by exact hw.1.oldM j0 c1) Z ?_);refine E1a u1b Z Z (fun w1 S1 X1=>W5a e.w v0 x0 _) ?_;refine G7a Z Z (by simp;omega) Z ?_;refine qD Z U ?_;rintro m1 ⟨i0,C0⟩;replace KC:=KC.trans C0;have d0:=D1a (H2b r0) KC;refine G1a b1b Z Z (o2a B g y0 pv vb J0 _ _ (e6a (R8b e.op++q8b e.n++[58]++q8b e.w)) _ (Nat.le_trans hB i0.size) (i0.blk 0 Z) d0 (by rw[I2a];simp;omega)) ?_;rintro g1 j1 ⟨⟨q0,b0,a0⟩,A0⟩;have B0:=St.wrote i0 (BX.ofB A0 (s8a d0) (Nat.le_trans hB i0.size)) b0;refine lR0 Z U (z1a Z ?_);rw[o0];exact⟨⟨q0,b0,by simpa using a5a a0⟩,B0.bx hB⟩;refine a0a func95 Z ntmps95 Z ?_;refine wO0 Z U (H0a y0a Z (by exact S.oldM j0 c0) Z ?_);refine lB0 Z U (fun O0=>by exfalso;omega) fun O0=>?_;refine lB0 Z U (fun P0=>by exfalso;omega) fun P0=>?_;refine lB0 Z U (fun Q0=>by exfalso;omega) fun Q0=>?_;obtain⟨_,x1⟩:=E.txB_node s0 K0;have o0:=E.txt_node s0;obtain⟨nm,b1⟩:∃x,x=r1b.getD (e.op-4).toNat []:=⟨_,Z⟩;rw[←b1] at o0;have v1:(e.op-4).toNat<r1b.length:=by show _<11;omega
 have y1:r1b[(e.op-4).toNat]?=some nm:=by rw[b1,List.getD_eq_getElem?_getD,List.getElem?_eq_getElem v1];rfl
 have cN:=Y0.2 _ _ y1;have H1:e.txt.length=nm.length+(E.txts e.kids 40).length+1:=by rw[o0];simp;omega
 refine lO0 Z U (H0a y0a Z (by exact S.oldM j0 c0) Z ?_);refine lO0 Z ⟨by omega,U⟩ (n2a j9c Z Z Z ?_);refine H0a g0d Z (S.oldM Y0.1 (by simpa using cN)) Z ?_;have E0:=H2b r0;refine G1a b1b Z Z (o2a B g y0 pv vb J0 _ _ (e6a nm) _ (Nat.le_trans hB S.size) (S.blk 0 Z) E0 (by rw[I2a];simp;omega)) ?_;rintro I1 D1 ⟨⟨q0,R0,e0⟩,n1⟩;have X0:=St.wrote S (BX.ofB n1 (s8a E0) (Nat.le_trans hB S.size)) R0;have e0:=a5a e0;have KD:=v0a.refl [] D1;refine lO0 Z U (H0a C1a Z (by exact X0.oldM j0 c3) Z ?_);refine lC0 Z U (wL (fun μk D ε w=>D=[]∧∃k:Nat,∃I0:Value,(k+μk=(e.kids.length))∧(w.ownsRow B 5 1 I0 (n+(nm++E.txts (e.kids.take k) 40).length) (bs++Lib.byteCells (nm++E.txts (e.kids.take k) 40)))∧St (MB B g w0) w0 w [(some g,145,[.pointer (some ⟨g,0,none⟩),I0])]∧Sl ε [(0,.pointer (some ⟨b,o,none⟩)),(1,.pointer (some ⟨g,0,none⟩)),(2,.pointer (some ⟨gw,0,none⟩)),(4,.string (e6a (if k=0 then[40] else[44]))),(45,.int .i64 nk),(46,.int .i64 k)]) (μ:=(e.kids.length)) ⟨Z,0,_,by omega,(by simpa[E.txts] using D1a e0 KD),X0,Z⟩ ?_);rintro μk D ε w ⟨rfl,k,I0,hk,p0,S,eZ⟩;refine wK eZ ?_;have KL:=v0a.refl [] w;refine wB0 Z U (fun u1=>?_) fun u1=>?_
 ·refine lO0 Z U ?_;obtain⟨x,H0⟩:∃x,e.kids[k]?=some x:=⟨e.kids[k]'(by omega),List.getElem?_eq_getElem _⟩;have z1:=E.txts_pre e.kids 40 (k+1);rw[E.txts_take 40 H0,List.length_append,List.length_cons] at z1;have d1:(if k=0 then[(40:UInt8)] else[44]).length=1:=by split<;>rfl
  have F0:=D1a p0 KL;refine G1a b1b Z Z (o2a B g y0 _ I0 (.inr Z) _ _ (e6a (if k=0 then[40] else[44])) _ (Nat.le_trans hB S.size) (S.blk 0 Z) F0 (by rw[I2a,d1,List.length_append];omega)) ?_;rintro v50 E1 ⟨⟨q0,S0,f0⟩,o1⟩;have r1:=St.wrote S (BX.ofB o1 (s8a F0) (Nat.le_trans hB S.size)) S0;have f0:=a5a f0;have L0:=v0a.refl [] E1;obtain⟨bk,ok,_,Z0⟩:=V0 k (by omega);have C1:e.kids[k]'(by omega)=x:=by have:=List.getElem?_eq_getElem (l:=e.kids) (i:=k) (by omega);rw[H0] at this;exact(Option.some.inj this).symm
  rw[C1] at Z0;refine lC0 Z U (x0a b0a [0,1,2,3,4,5,6] [] [7] Z (Cl _ _ _ _) (Cl.start r1) ?_);refine i0a i1c Z (fun w1 hw=>by exact hw.1.oldM f1 a1) Z ?_;refine qO0 Z U (i0a C1a Z (fun w1 hw=>by exact hw.1.oldM j0 c3) Z ?_);refine qO0 Z U (D0a N0a.slT Z (by assumption) Z Z ?_);refine qD Z U ?_;rintro G1 ⟨m0,N0⟩;replace L0:=L0.trans N0;have W0:=D1a f0 L0;refine L6a s5c Z Z Z (ih x (List.mem_of_getElem? H0) B g gw _ bk (ok+k*4) _ q0 _ _ y0 A1 B1 (Nat.le_trans hB m0.size) (Z0.keep m0.keepM) (hN.keep m0.keepM) (m0.oldM f1 a1) (.inr Z) (m0.blk 0 Z) W0 (x1 x (List.mem_of_getElem? H0)) (by rw[List.length_append,List.length_append,d1];omega)) ?_;rintro J1 F1 ⟨⟨_,T0,z0⟩,p1⟩;have s1:=St.wrote m0 p1 T0;have KQ:=v0a.refl [] F1;refine lP0 Z ⟨by omega,U⟩ ⟨μk-1,by omega,Z,(k+1),(_),(by omega),?_,s1,Z⟩;rw[E.txts_take 40 H0];have z:=D1a z0 KQ;have e1:nm++(E.txts (e.kids.take k) 40++((if k=0 then 40 else 44)::x.txt))=nm++E.txts (e.kids.take k) 40++(if k=0 then[40] else[44])++x.txt:=by split<;>simp
  rw[e1];exact Z7c z
 refine lO0 Z U ?_;obtain rfl:k=e.kids.length:=by omega
 rw[List.take_length] at p0;have G0:=D1a p0 KL;refine G1a b1b Z Z (o2a B g y0 _ I0 (.inr Z) _ _ (e6a [41]) _ (Nat.le_trans hB S.size) (S.blk 0 Z) G0 (by rw[I2a,List.length_append];simp;omega)) ?_;rintro K1 M1 ⟨⟨q0,D0,g0⟩,q1⟩;have t1:=St.wrote S (BX.ofB q1 (s8a G0) (Nat.le_trans hB S.size)) D0;have g0:=a5a g0;refine lF0 Z U (z1a Z ?_);rw[o0];exact⟨⟨q0,D0,g0⟩,t1.bx hB⟩
theorem I2b{w:World}{B C e n:Nat}{v:Value}{xs:List Value}(h:w.ownsRow B e 1 v n xs)(hc:C≤B):w.ownsRow C e 1 v n xs:=by
 obtain⟨h1,h2⟩:=h;refine⟨h1,h2.imp id ?_⟩;rintro⟨g,a0,b0,q1,q2,q3⟩;exact⟨g,a0,b0,q1,Nat.le_trans hc q2,q3⟩
theorem B6b(e:E)(w0:World)(cs:List Value)(hR:RdE [] w0 e cs)(hK:k2a [] w0)(hN:J7a [] w0)(y0:e.wf=true)(x0:e.txB=true)(u0:e.txt.length≤800000):
 C0a prog 49 #[.agg cs.toArray] w0 fun v w'=>v=.string (e6a e.txt)∧Below w0.heap.size w0 w':=by
 obtain⟨_,_,_,rfl,-⟩:=hR.open_;have S:=St.refl w0;refine a0a func49 Z ntmps49 Z ?_;refine wO0 Z U (q0a S Z ?_);intro g1 w1 S1 X1 G1;refine lO S1.k [.w 0] Z ⟨⟨Z,Z⟩,U⟩ (f0a S1 C0b Z Z (H2a (y2a e [] _ _ (RdE.keep (S1.keep0 []) _ _ hR) (hK.keep (S1.keep0 []))) y0) ?_);intro w6 S6 X6;refine lO0 Z U (g0a S6 G1d Z Z ?_);intro g3 w3 S3 X3 G3;refine lO0 Z U (g0a S3 T1d Z Z ?_);intro g4 w4 S4 X4 G4;refine lO0 Z U (t1a Z Z ?_);refine h1a (kk:=0) S4 u1d Z Z Z (by exact Nat.le_of_ble_eq_true Z) ?_;intro b0 a0 p0;refine lO a0.k [.o 0] Z ⟨Z,U⟩ ?_;have f0:∀M:List Nat,(∀x∈M,x=g3∨b0.heap.size≤x)→∀g∈M,g∈([]:List Nat)∨w0.heap.size≤g:=fun M hM g hg=>.inr (by
  rcases hM g hg with rfl|h
  ·simpa using a0.new 1 Z
  ·have:=a0.size;omega)
 have s0:RB b0.heap.size g3 b0 e g1 0:=fun M hM=>⟨fun hh=>by
  rcases hM g1 hh with h|h
  ·exact a0.ne 1 2 Z Z (by decide) h.symm
  ·have:=a0.lt 2 Z;omega,_,a0.cells 2 Z,RdE.keep (a0.keep0 M) _ _ (RdE.more (f0 M hM) _ _ hR)⟩
 have r0:NB b0.heap.size g3 b0:=fun M hM=>(hN.more (f0 M hM)).keep (a0.keep0 M);have g0:b0.ownsRow b0.heap.size 5 1 (.slice none 0 0) 0 []:=⟨Z,.inl ⟨Z,Z⟩⟩;refine L6a s5c Z Z Z (M2c e b0.heap.size g3 g4 b0 g1 0 (.pointer none) (.slice none 0 0) 0 [] (a0.lt 1 Z) (a0.lt 0 Z) (a0.ne 0 1 Z Z (by decide)) (Nat.le_refl _) s0 r0 (a0.cell 0 Z Z) (.inl Z) (a0.blk 1 Z) g0 x0 (by omega)) ?_;have t0:=a0.size;rintro z0 i0 ⟨⟨vb,m0,c0⟩,e0⟩;have o0:B0a [g3] b0 i0:=⟨e0.os,e0.tape,e0.output,e0.size,fun k h1 h2=>e0.block k h1 fun h=>h2 (by rw[h];simp)⟩;have d0:=a0.changed1 1 Z o0 m0;dsimp only[List.set] at d0;refine lO0 Z U ?_;have q0:Lib.IsBuilder 145 5 w0.heap.size g3 (Lib.byteCells e.txt) i0:=by
  have n0:i0.heap[g3]?=some (.cells #[.pointer (some ⟨g3,0,none⟩),vb] 145 (0,0)):=d0.blk 1 Z;have v0:vb.ownBlock≠some g3:=Lib.ownBlock_ne c0 n0 (by decide);have hz:=I2b c0 t0;rw[Nat.zero_add,List.nil_append] at hz;exact .inr ⟨by simpa using d0.new 1 Z,vb,n0,by rw[Lib.byteCells_length];exact hz,v0⟩
 refine G1a (R:=fun v w'=>v=.string (e6a e.txt)∧Below w0.heap.size i0 w') R0d Z Z (Calls.mono (Tryz.Builder_String_any w0.heap.size g3 e.txt i0 q0 d0.size) (fun e w' h=>⟨_,h.1,Z,h.2⟩)) ?_;rintro A0 B0 ⟨rfl,j0⟩;exact lT Z U Z ⟨Z,d0.fin.trans j0⟩
section
variable {P:Program} {r:Option Nat} {N:Nat} {ops:Array Oper} {rest:List Oper} {C:World→Prop} {KQ:Env→Prop} {K:List Deferred→Env→World→Prop} {D:List Deferred} {e:Env} {w:World} {d:Nat} {t:TypeId} {p:String} {af:Array Edge} {x y:Operand} {yt:TypeId}
theorem Eq2.neq{ty:TypeId}(hE:Eq2 P ty)(w:World)(a b:Int×Int):(binOp .neq ty (.agg (pc a).toArray) (.agg (pc b).toArray)).run P w=.ok (.bool (!decide (a=b))) w:=by
 have:=hE.2 w a.1 a.2 b.1 b.2;have hd:decide (a=b)=decide (a.1=b.1∧a.2=b.2):=decide_eq_decide.2 Prod.ext_iff;rw[hd];show(binOp .neq ty (.agg #[.int .i64 a.1,.int .i64 a.2]) (.agg #[.int .i64 b.1,.int .i64 b.2])).run P w=_;rw[run_eql_struct] at this;rw[run_neq_struct]
 revert this
 generalize (Op.equalIn 10000 ty _ _).run P w=a0;intro this;cases a0 with
 | ok z w'=>simp only[Result.andThen_ok] at this ⊢;cases this;rfl
 | halt z w'=>simp[Result.andThen] at this
theorem Eq2.guard{ty:TypeId}(hE:Eq2 P ty)(w:World)(op:BinOp)(x y:Operand)(a b:Int×Int):(eqGuard op ty x y (.agg (pc a).toArray) (.agg (pc b).toArray)).run P w=.ok () w:=run_eqGuard_agg w _ _ _ _ _ _ hE.1
theorem Eq2.eql{ty:TypeId}(hE:Eq2 P ty)(w:World)(a b:Int×Int):(binOp .eql ty (.agg (pc a).toArray) (.agg (pc b).toArray)).run P w=.ok (.bool (decide (a=b))) w:=by
 have hd:decide (a=b)=decide (a.1=b.1∧a.2=b.2):=decide_eq_decide.2 Prod.ext_iff;rw[hd];exact hE.2 w a.1 a.2 b.1 b.2
theorem e0d{ty:TypeId}{a b:Int×Int}(hE:Eq2 P ty)(hx:ev e x=.agg (pc a).toArray)(hy:ev e y=.agg (pc b).toArray)(hd:Nat.ble (d+1) N=true)
 (h1:a≠b→QL P N ops C rest KQ (upd e d (.bool true))) (h2:a=b→QL P N ops C rest KQ (upd e d (.bool false))):QL P N ops C (⟨some d,.binOp .neq ty x y yt,t,p,af,none⟩::rest) KQ e:=by
 by_cases hh:a=b
 ·exact t2a Z Z hd (fun w _=>by simp only[execOp,hx,hy,Sem.run_bind,hE.guard,Result.andThen_ok,hE.neq,Sem.run_pure,decide_eq_true hh];rfl) (h2 hh)
 ·exact t2a Z Z hd (fun w _=>by simp only[execOp,hx,hy,Sem.run_bind,hE.guard,Result.andThen_ok,hE.neq,Sem.run_pure,decide_eq_false hh];rfl) (h1 hh)
end
theorem f7a(M:List Nat)(w0:World)(v:Value)(l:List Int)(a:Int)(hR:RdI M w0 v l):
 C0a prog 43 #[v,.int .i64 a] w0 fun v w'=>v=.bool (decide (a∈l))∧Below w0.heap.size w0 w':=by
 obtain⟨A,n,c,rfl⟩:=hR.form;obtain⟨_,-,_⟩:=hR.len;have S:=St.refl w0;refine a0a func43 Z ntmps43 Z ?_;refine wC0 Z U (wL (fun μk D ε w=>D=[]∧∃k:Nat,(k+μk=(l.length))∧(a∉l.take k)∧St [] w0 w []∧Sl ε [(0,.slice A n c),(1,.int .i64 a),(5,.int .i64 k)]) (μ:=(l.length)) ⟨Z,0,by omega,by simp,S,Z⟩ ?_);rintro μk D ε w ⟨rfl,k,_,ha,S,eZ⟩;refine wK eZ (wB0 Z U (fun h9=>?_) fun h9=>?_)
 ·obtain⟨x,f0,g0,_,e0,b0,_,_,c0,d0⟩:=RdS.get (hR) (k) (by omega);obtain⟨rfl,_⟩:=id d0;refine lB (S.k.a c0) [.x f0 g0,.f 0 0] Z ⟨Z,⟨b0,by omega⟩,U⟩ (fun a0=>?_) fun a0=>?_
  ·refine lR0 Z U (s0a Z ?_);exact⟨by rw[decide_eq_true (a0▸d0a e0:a∈l)],S.fin⟩
  refine lP0 Z ⟨by omega,U⟩ ⟨μk-1,by omega,Z,(k+1),(by omega),?_,S,Z⟩;rw[E0a e0];intro hh;rcases List.mem_append.1 hh with h|h
  ·exact ha h
  ·rw[List.mem_singleton.1 h] at a0;exact a0 Z
 refine lR0 Z U (s0a Z ?_);exact⟨by rw[decide_eq_false (by rw[List.take_of_length_le (by omega)] at ha;exact ha)],S.fin⟩
theorem P2a(M:List Nat)(w0:World)(v u:Value)(a b:List (Int×Int))(hA:o1b M w0 v a)(hB:o1b M w0 u b):
 C0a prog 12 #[v,u] w0 fun v w'=>v=.bool (decide (a=b))∧Below w0.heap.size w0 w':=by
 obtain⟨A,n,c,rfl⟩:=hA.form;obtain⟨hn,-,_⟩:=hA.len;obtain⟨A',n',c',rfl⟩:=hB.form;obtain⟨_,-,_⟩:=hB.len;have S:=St.refl w0;refine a0a func12 Z ntmps12 Z ?_;refine wB0 Z U (fun x0=>?_) fun x0=>?_
 ·refine lR0 Z U (s0a Z ?_);exact⟨by rw[decide_eq_false (fun h=>by rw[h] at hn;omega)],S.fin⟩
 have C0:b.length=a.length:=by omega
 refine lC0 Z U (wL (fun μk D ε w=>D=[]∧∃k:Nat,(k+μk=(a.length))∧(a.take k=b.take k)∧St [] w0 w []∧Sl ε [(0,.slice A n c),(1,.slice A' n' c'),(5,.int .i64 k)]) (μ:=(a.length)) ⟨Z,0,by omega,by simp,S,Z⟩ ?_);rintro μk D ε w ⟨rfl,k,_,he,S,eZ⟩;refine wK eZ (wB0 Z U (fun y0=>?_) fun y0=>?_)
 ·refine lC0 Z U (x0a b0a [0,1,2,3,4,5,6,7,8] [] [] Z (Cl _ _ _ _) (Cl.start S) ?_);obtain⟨x,q0,z0,s0,n0,c0,_,g0,e0,j0⟩:=RdS.get (hA) (k) (by omega);obtain⟨u0,_⟩:=j0;obtain rfl:s0=pc x:=u0;obtain⟨y,r0,A0,t0,o0,d0,_,i0,f0,m0⟩:=RdS.get (hB) (k) (by omega);obtain⟨v0,_⟩:=m0;obtain rfl:t0=pc y:=v0;refine qOn 8 ((S.q.a f0).a e0) [.x q0 z0,.v 0,.x r0 A0,.v 1] Z ⟨⟨Z,i0⟩,⟨d0,by omega⟩,⟨Z,g0⟩,⟨c0,by omega⟩,U⟩ (e0d (a:=x) (b:=y) M7b Z Z Z (fun b0=>?_) fun b0=>?_)
  ·refine qD Z U ?_;rintro B0 ⟨a0,p0⟩;refine lR0 Z U (s0a Z ?_);exact⟨by rw[decide_eq_false (fun h=>b0 (Option.some.inj (n0.symm.trans (by rw[h];exact o0))))],a0.fin⟩
  refine qD Z U ?_;rintro B0 ⟨a0,p0⟩;refine lP0 Z ⟨by omega,U⟩ ⟨μk-1,by omega,Z,(k+1),(by omega),?_,a0,Z⟩;rw[E0a n0,E0a o0,he,b0]
 refine lR0 Z U (s0a Z ?_);exact⟨by rw[decide_eq_true (by rw[List.take_of_length_le (by omega),List.take_of_length_le (by omega)] at he;exact he)],S.fin⟩
theorem y7b(n wd:Int)(w0:World):C0a prog 93 #[.int .i64 n,.int .i64 wd] w0 fun v w'=>v=.agg #[.int .i64 3,.int .i64 wd,.int .i64 n,.slice none 0 0]∧Below w0.heap.size w0 w':=by
 have S:=St.refl w0;refine a0a func93 Z ntmps93 Z ?_;refine wO0 Z U (g0a S P1a Z Z ?_);intro g4 w4 S4 X4 G4;refine lO0 Z U (F0a U1a (vs:=[(0,.int .i64 _),(1,.int .i64 _),(2,.int .i64 _)]) (cs:=[_,_,_,_]) Z Z Z Z ?_)
 first|refine c0a (kk:=0) (vs:=[_,_,_,_]) S4 g1a Z Z Z Z Z Z Z ?_
 intro c0 a0 b0;dsimp only[h0a,List.set] at a0;exact lR0 Z U (w0a Z G0a Z (a0.cells 0 Z) Z ⟨Z,a0.fin⟩)
theorem D3b(n wd:Int)(w0:World):C0a prog 94 #[.int .i64 n,.int .i64 wd] w0 fun v w'=>v=.agg #[.int .i64 2,.int .i64 wd,.int .i64 n,.slice none 0 0]∧Below w0.heap.size w0 w':=by
 have S:=St.refl w0;refine a0a func94 Z ntmps94 Z ?_;refine wO0 Z U (g0a S P1a Z Z ?_);intro g4 w4 S4 X4 G4;refine lO0 Z U (F0a U1a (vs:=[(0,.int .i64 _),(1,.int .i64 _),(2,.int .i64 _)]) (cs:=[_,_,_,_]) Z Z Z Z ?_)
 first|refine c0a (kk:=0) (vs:=[_,_,_,_]) S4 g1a Z Z Z Z Z Z Z ?_
 intro c0 a0 b0;dsimp only[h0a,List.set] at a0;exact lR0 Z U (w0a Z G0a Z (a0.cells 0 Z) Z ⟨Z,a0.fin⟩)
theorem v8b(n wd:Int)(w0:World):C0a prog 39 #[.int .i64 n,.int .i64 wd] w0 fun v w'=>v=.agg #[.int .i64 1,.int .i64 wd,.int .i64 n,.slice none 0 0]∧Below w0.heap.size w0 w':=by
 have S:=St.refl w0;refine a0a func39 Z ntmps39 Z ?_;refine wO0 Z U (g0a S P1a Z Z ?_);intro g4 w4 S4 X4 G4;refine lO0 Z U (F0a U1a (vs:=[(0,.int .i64 _),(1,.int .i64 _),(2,.int .i64 _)]) (cs:=[_,_,_,_]) Z Z Z Z ?_)
 first|refine c0a (kk:=0) (vs:=[_,_,_,_]) S4 g1a Z Z Z Z Z Z Z ?_
 intro c0 a0 b0;dsimp only[h0a,List.set] at a0;exact lR0 Z U (w0a Z G0a Z (a0.cells 0 Z) Z ⟨Z,a0.fin⟩)
theorem p7b(op wd:Int)(ho:i64 op)(hw:i64 wd)(a b:E)(ca cb:List Value)(M:List Nat)(w0:World)(hM:∀g∈M,g<w0.heap.size)(ha:RdE M w0 a ca)(hb:RdE M w0 b cb):
 C0a prog 92 #[.int .i64 op,.int .i64 wd,.agg ca.toArray,.agg cb.toArray] w0 fun v w'=>(∃cs:List Value,v=.agg cs.toArray∧RdE M w' ⟨op,wd,0,[a,b]⟩ cs)∧Below w0.heap.size w0 w':=by
 have S:=St.refl w0;obtain⟨_,_,_,rfl,-⟩:=ha.open_;obtain⟨_,_,_,rfl,-⟩:=hb.open_;refine a0a func92 Z ntmps92 Z ?_;refine wO0 Z U (q0a S Z ?_);intro g6 w6 S6 X6 G6;refine q0a S6 Z ?_;intro g7 w7 S7 X7 G7;refine g0a S7 P1a Z Z ?_;intro g8 w8 S8 X8 G8;refine lO S8.k [.w 2,.w 1] Z ⟨⟨Z,by rfl⟩,⟨Z,by rfl⟩,U⟩ (k0a S8 N0a (vs:=[.agg _,.agg _]) (cs:=[_,_,_,_,_,_,_,_]) Z Z Z Z Z Z ?_);intro g0 i0 b0 f0 e0;refine F0a U1a (vs:=[(0,.int .i64 _),(1,.int .i64 _),(3,.slice _ _ _)]) (cs:=[_,_,_,_]) Z Z Z Z ?_;refine c0a (kk:=1) (vs:=[_,_,_,_]) b0 g1a Z Z Z Z Z Z Z ?_;intro d0 a0 c0;dsimp only[h0a,List.set] at a0;refine lR0 Z U (w0a Z G0a Z (a0.cells 1 Z) Z ⟨⟨_,Z,b2b ho hw (fun hm=>?_) (a0.cells 0 Z) (RdE.keep (a0.keep0 M) _ _ ha) (RdE.keep (a0.keep0 M) _ _ hb)⟩,a0.fin⟩);have h1:=hM _ hm;have h2:=a0.new 0 Z;simp at h2;omega
theorem k6a(p:n0a)(k:Nat)(M:List Nat)(w0:World)(cs:List Value)(hI:InP p M w0 cs)(hk:k<p.cells.length:=by omega):
 C0a prog 56 #[.agg cs.toArray,.int .i64 k] w0 fun v w'=>(∃cs:List Value,v=.agg cs.toArray∧RdE M w' (I3a p k) cs)∧Below w0.heap.size w0 w':=by
 obtain⟨_,_,_,_,_,_,_,_,_,_,_,_,rfl,hC,_⟩:=hI.rd.open_;have hM:=hI.lt;have s0:=hI.ok.ncells;have S:=St.refl w0;refine a0a func56 Z ntmps56 Z ?_;refine wO0 Z U (q0a S Z ?_);intro g2 w2 S2 X2 G2;refine g0a S2 P1a Z Z ?_;intro g4 w4 S4 X4 G4;refine lC0 Z U (x0a b0a [0,1,2,3,4,5,6,7,8,9,10,11,12,13,14,15] [] [16,17] Z (Cl _ _ _ _) (Cl.start S4) ?_);obtain⟨y,b9,p9,_,i0,q0,_,_,r0,t0⟩:=RdS.get (hC) (k) (by omega);obtain⟨rfl,_⟩:=s2a.open_ t0;have u0:wAt p.cells k=y.w:=K4a (by rw[Int.toNat_natCast];exact i0);have A0:=(hI.ok.cells y (d0a i0)).w;refine qO (S4.q.a r0) [.o 1,.x b9 p9,.f 0 1] Z ⟨Z,⟨q0,by omega⟩,Z,U⟩ (E1a y5c Z Z (fun w1 S1 X1=>y7b k y.w _) ?_);obtain⟨_,p0,v0,_,g0,d0,_,_,e0,f0⟩:=RdS.get (hC) (k) (by omega);obtain rfl:=Option.some.inj (i0.symm.trans g0);obtain⟨rfl,_⟩:=s2a.open_ f0;refine qO (S4.q.a e0) [.o 1,.x p0 v0,.f 0 1] Z ⟨Z,⟨d0,by omega⟩,Z,U⟩ (E1a f5c Z Z (fun w1 S1 X1=>D3b k y.w _) ?_);refine qD Z U ?_;rintro y0 ⟨c0,_⟩;have o0:∀g∈g4::M,g<y0.heap.size:=fun g hg=>by
  rcases List.mem_cons.1 hg with rfl|hg
  ·exact c0.lt 0 Z
  ·exact Nat.lt_of_lt_of_le (hM g hg) c0.size
 have ik:i64 (k:Int):=by unfold i64;omega
 have iw:i64 y.w:=by unfold i64;omega
 refine j0a c0 X1c Z Z (p7b 11 1 (by unfold i64;omega) (by unfold i64;omega) ⟨3,y.w,k,[]⟩ ⟨2,y.w,k,[]⟩ [_,_,_,_] [_,_,_,_] (g4::M) _ o0 (e1a (by unfold i64;omega) iw ik) (e1a (by unfold i64;omega) iw ik)) ?_;rintro B0 x0 ⟨_,rfl,j0⟩ n0 z0;obtain⟨_,_,_,rfl,-⟩:=j0.open_;have KE:=v0a.refl (g4::M) x0;refine c0a (kk:=0) (vs:=[_,_,_,_]) n0 g1a Z Z Z Z Z Z Z ?_;intro m0 a0 b0;dsimp only[h0a,List.set] at a0;replace KE:=KE.fresh2 b0 (by first  | exact .inr (by simp));refine lR0 Z U ?_;exact w0a Z G0a Z (a0.cells 0 Z) Z ⟨⟨_,Z,by unfold I3a;rw[u0];exact RdE.less (fun g hg=>List.mem_cons_of_mem _ hg) _ _ (RdE.keep KE _ _ j0)⟩,a0.fin⟩
theorem k4b(w0:World):
 C0a prog 48 #[] w0 fun v w'=>(∃cs:List Value,v=.agg cs.toArray∧T0a [] w' K1a cs)∧Below w0.heap.size w0 w':=by
 have S:=St.refl w0;have i0:i64 0:=by unfold i64;omega
 have i1:i64 1:=by unfold i64;omega
 have i2:i64 2:=by unfold i64;omega
 have i3:i64 3:=by unfold i64;omega
 have im:i64 (-1):=by unfold i64;omega
 have y1:i64 13:=by unfold i64;omega
 refine a0a func48 Z ntmps48 Z ?_;refine wO0 Z U (g0a S f6c Z Z ?_);intro g0 w0 S0 X0 G0;refine lO0 Z U (f0a S0 G7b Z Z (v8b _ _ _) ?_);intro w6 S6 X6;refine g0a S6 P1a Z Z ?_;intro g1 w1 S1 X1 G1;refine c0a (kk:=0) (vs:=[_,_,_,_]) S1 g1a Z Z Z Z Z Z Z ?_;intro A1 r0 U0;dsimp only[h0a,List.set] at r0;refine lO0 Z U (F0a K4c (vs:=[(0,.string _),(1,.int .i64 _),(3,.int .i64 _)]) (cs:=[_,_,_,_,_,_]) Z Z Z Z ?_);refine F0a K4c (vs:=[(0,.string _),(1,.int .i64 _),(3,.int .i64 _),(5,.int .i64 _)]) (cs:=[_,_,_,_,_,_]) Z Z Z Z ?_;refine k0a r0 w5a (vs:=[.agg _,.agg _]) (cs:=[_,_,_,_,_,_,_,_,_,_,_,_]) Z Z Z Z Z Z ?_;intro g9 w9 S9 X9 G9;refine lO0 Z U (f0a S9 y5c Z Z (y7b _ _ _) ?_);intro Y1 F0 Q1;refine f0a F0 f5c Z Z (D3b _ _ _) ?_;intro Z1 x0 R1;refine j0a x0 X1c Z Z (p7b 13 1 y1 i1 ⟨3,1,0,[]⟩ ⟨2,1,0,[]⟩ [_,_,_,_] [_,_,_,_] [g0] _ (fun g hg=>by rw[List.mem_singleton.1 hg];exact x0.lt 2 Z) (e1a i3 i1 i0) (e1a i2 i1 i0)) ?_;rintro W1 z1 ⟨_,rfl,C0⟩ H0 T1;have b0:=v0a.refl [] z1;obtain⟨_,_,_,rfl,-⟩:=C0.open_;refine g0a H0 P1a Z Z ?_;intro g3 w3 S3 X3 G3;have o0:=Nat.le_trans b0.size G3;replace b0:=b0.trans X3;refine c0a (kk:=0) (vs:=[_,_,_,_]) S3 g1a Z Z Z Z Z Z Z ?_;intro B1 n0 v0;dsimp only[h0a,List.set] at n0;replace b0:=b0.fresh v0 (by first|exact o0);refine lO n0.k [.w 2,.w 2] Z ⟨⟨Z,by rfl⟩,⟨Z,by rfl⟩,U⟩ (k0a n0 N0a (vs:=[.agg _,.agg _]) (cs:=[_,_,_,_,_,_,_,_]) Z Z Z Z Z Z ?_);intro n1 a2 I0 R0 C1;replace b0:=b0.trans R0;refine k0a I0 Q0a (vs:=[.int .i64 _,.int .i64 _]) (cs:=[_,_]) Z Z Z Z Z Z ?_;intro o1 b2 y0 T0 D1;replace b0:=b0.trans T0;refine lO y0.k [.w 4,.w 4] Z ⟨⟨Z,by rfl⟩,⟨Z,by rfl⟩,U⟩ (F0a X0c (vs:=[(0,.int .i64 _),(1,.agg _)]) (cs:=[_,_,_,_,_]) Z Z Z Z ?_);refine k0a y0 L8a (vs:=[.agg _]) (cs:=[_,_,_,_,_]) Z Z Z Z Z Z ?_;intro p1 d2 J0 V0 E1;replace b0:=b0.trans V0;refine F0a S4c (vs:=[(0,.int .i64 _),(1,.int .i64 _),(2,.int .i64 _),(3,.agg _),(4,.slice _ _ _)]) (cs:=[_,_,_,_,_,_,_,_,_,_,_]) Z Z Z Z ?_;refine k0a J0 U0c (vs:=[.agg _]) (cs:=[_,_,_,_,_,_,_,_,_,_,_]) Z Z Z Z Z Z ?_;intro q1 e2 K0 W0 F1;replace b0:=b0.trans W0;refine F0a G4c (vs:=[(0,.string _),(1,.int .i64 _),(2,.slice _ _ _),(3,.slice _ _ _),(4,.slice _ _ _)]) (cs:=[_,_,_,_,_,_,_]) Z Z Z Z ?_;refine g0a K0 u0b Z Z ?_;intro g4 w4 S4 X4 G4;have p0:=Nat.le_trans b0.size G4;replace b0:=b0.trans X4;refine c0a (kk:=0) (vs:=[_,_,_,_,_,_,_]) S4 t0b Z Z Z Z Z Z Z ?_;intro D0 e0 s0;dsimp only[h0a,List.set] at e0;replace b0:=b0.fresh s0 (by exact p0);refine lO e0.k [.w 7,.w 7] Z ⟨⟨Z,by rfl⟩,⟨Z,by rfl⟩,U⟩ (k0a e0 N0a (vs:=[.agg _,.agg _]) (cs:=[_,_,_,_,_,_,_,_]) Z Z Z Z Z Z ?_);intro r1 f2 L0 Y0 H1;replace b0:=b0.trans Y0;refine k0a L0 Q0a (vs:=[.int .i64 _,.int .i64 _]) (cs:=[_,_]) Z Z Z Z Z Z ?_;intro s1 g2 z0 Z0 I1;replace b0:=b0.trans Z0;refine lO z0.k [.w 9,.w 9] Z ⟨⟨Z,by rfl⟩,⟨Z,by rfl⟩,U⟩ (F0a X0c (vs:=[(0,.int .i64 _),(1,.agg _)]) (cs:=[_,_,_,_,_]) Z Z Z Z ?_);refine k0a z0 L8a (vs:=[.agg _]) (cs:=[_,_,_,_,_]) Z Z Z Z Z Z ?_;intro t1 h2 N0 a1 J1;replace b0:=b0.trans a1;refine F0a S4c (vs:=[(0,.int .i64 _),(1,.int .i64 _),(2,.int .i64 _),(3,.agg _),(4,.slice _ _ _),(7,.int .i64 _)]) (cs:=[_,_,_,_,_,_,_,_,_,_,_]) Z Z Z Z ?_;refine k0a N0 U0c (vs:=[.agg _]) (cs:=[_,_,_,_,_,_,_,_,_,_,_]) Z Z Z Z Z Z ?_;intro u1 j2 O0 b1 K1;replace b0:=b0.trans b1;refine F0a G4c (vs:=[(0,.string _),(1,.int .i64 _),(2,.slice _ _ _),(3,.slice _ _ _),(4,.slice _ _ _)]) (cs:=[_,_,_,_,_,_,_]) Z Z Z Z ?_;refine g0a O0 u0b Z Z ?_;intro g5 w5 S5 X5 G5;have q0:=Nat.le_trans b0.size G5;replace b0:=b0.trans X5;refine c0a (kk:=0) (vs:=[_,_,_,_,_,_,_]) S5 t0b Z Z Z Z Z Z Z ?_;intro E0 j0 t0;dsimp only[h0a,List.set] at j0;replace b0:=b0.fresh t0 (by exact q0);have d0:=RdE.keep b0.of_nil _ _ C0;refine lO j0.k [.w 10] Z ⟨⟨Z,by rfl⟩,U⟩ (k0a j0 Q0a (vs:=[.int .i64 _]) (cs:=[_]) Z Z Z Z Z Z ?_);intro v1 m2 A0 c1 M1;replace d0:=RdE.keep (c1.of_nil) _ _ d0;refine F0a C5c (vs:=[(0,.string _),(1,.string _),(3,.agg _),(4,.slice _ _ _)]) (cs:=[_,_,_,_,_,_,_,_,_,_,_]) Z Z Z Z ?_;refine lO A0.k [.w 13] Z ⟨⟨Z,by rfl⟩,U⟩ (k0a A0 Q0a (vs:=[.int .i64 _]) (cs:=[_]) Z Z Z Z Z Z ?_);intro x1 n2 P0 d1 N1;replace d0:=RdE.keep (d1.of_nil) _ _ d0;refine F0a C5c (vs:=[(0,.string _),(1,.string _),(3,.agg _),(4,.slice _ _ _)]) (cs:=[_,_,_,_,_,_,_,_,_,_,_]) Z Z Z Z ?_;refine k0a P0 G5c (vs:=[.agg _,.agg _]) (cs:=[_,_,_,_,_,_,_,_,_,_,_,_,_,_,_,_,_,_,_,_,_,_]) Z Z Z Z Z Z ?_;intro U1 o2 B0 j1 O1;replace d0:=RdE.keep (j1.of_nil) _ _ d0;refine lO B0.k [.w 8,.w 3] Z ⟨⟨Z,by rfl⟩,⟨Z,by rfl⟩,U⟩ (k0a B0 t5c (vs:=[.agg _,.agg _]) (cs:=[_,_,_,_,_,_,_,_,_,_,_,_,_,_]) Z Z Z Z Z Z ?_);intro V1 p2 Q0 m1 P1;replace d0:=RdE.keep (m1.of_nil) _ _ d0;refine F0a t1d (vs:=[(0,.slice _ _ _),(1,.slice _ _ _),(3,.slice _ _ _)]) (cs:=[_,_,_,_]) Z Z Z Z ?_;refine c0a (kk:=17) (vs:=[_,_,_,_]) Q0 o7c Z Z Z Z Z Z Z ?_;intro a0 m0 u0;dsimp only[h0a,List.set] at m0;replace d0:=RdE.keep (u0.mono (by simp)) _ _ d0;refine lR0 Z U ?_;have SF:=m0;replace d0:=RdE.less (M':=[]) (by simp) _ _ d0;have c0:RdE [] a0 L3a [.int .i64 1,.int .i64 1,.int .i64 1,.slice none 0 0]:=e1a i1 i1 i1;have hz:RdE [] a0 zE [.int .i64 0,.int .i64 0,.int .i64 0,.slice none 0 0]:=e1a i0 i0 i0;have f0:RdI [] a0 (.slice (some ⟨v1,0,none⟩) 1 1) [0]:=W2a SF (k:=3) Z Z (by simp[i0]);have f1:RdI [] a0 (.slice (some ⟨x1,0,none⟩) 1 1) [1]:=W2a SF (k:=2) Z Z (by simp[i1]);have ma:RdI [] a0 (.slice (some ⟨o1,0,none⟩) 2 2) [0,0]:=W2a SF (k:=12) Z Z (by simp[i0]);have mb:RdI [] a0 (.slice (some ⟨s1,0,none⟩) 2 2) [1,1]:=W2a SF (k:=7) Z Z (by simp[i1]);have sa:j8c [] a0 (.slice (some ⟨p1,0,none⟩) 1 1) [⟨0,L3a⟩]:=i4c (SF.cells 11 Z) Z ⟨_,Z,i0,c0⟩;have sb:j8c [] a0 (.slice (some ⟨t1,0,none⟩) 1 1) [⟨1,L3a⟩]:=i4c (SF.cells 6 Z) Z ⟨_,Z,i1,c0⟩;have aa:F9c [] a0 (.slice (some ⟨n1,0,none⟩) 2 2) [L3a,L3a]:=K2b (c:=[_,_,_,_]) (c2:=[_,_,_,_]) (SF.cells 13 Z) Z Z c0 c0;have ab:F9c [] a0 (.slice (some ⟨r1,0,none⟩) 2 2) [L3a,L3a]:=K2b (c:=[_,_,_,_]) (c2:=[_,_,_,_]) (SF.cells 8 Z) Z Z c0 c0;have ta:g1d [] a0 (.slice (some ⟨q1,0,none⟩) 1 1) [⟨3,0,1,L3a,[⟨0,L3a⟩],false,0,0⟩]:=i4c (SF.cells 10 Z) Z ⟨_,_,_,_,_,Z,i3,i0,i1,i0,i0,c0,sa⟩;have tb:g1d [] a0 (.slice (some ⟨u1,0,none⟩) 1 1) [⟨3,0,1,L3a,[⟨1,L3a⟩],false,0,1⟩]:=i4c (SF.cells 5 Z) Z ⟨_,_,_,_,_,Z,i3,i0,i1,i0,i1,c0,sb⟩;refine w0a Z d5a Z (SF.cells 17 Z) Z ⟨⟨_,Z,_,_,_,_,Z,?_,?_,f5b,?_⟩,SF.fin⟩
 ·exact K2b (c:=[_,_,_,_,_,_]) (c2:=[_,_,_,_,_,_]) (SF.cells 15 Z) Z Z ⟨Z,i1,i0,im,i0⟩ ⟨Z,i1,i0,im,i1⟩
 ·exact K2b (c:=[_,_,_,_,_,_,_,_,_,_,_]) (c2:=[_,_,_,_,_,_,_,_,_,_,_]) (SF.cells 1 Z) Z Z ⟨_,_,_,_,_,_,_,_,_,Z,hz,d0,f0⟩ ⟨_,_,_,_,_,_,_,_,_,Z,hz,c0,f1⟩
 ·exact K2b (c:=[_,_,_,_,_,_,_]) (c2:=[_,_,_,_,_,_,_]) (SF.cells 0 Z) Z Z ⟨_,_,_,_,Z,i2,aa,ma,ta,f5b⟩ ⟨_,_,_,_,Z,i2,ab,mb,tb,f5b⟩
theorem r4c:∀l,l=[0]∨l=[0,1]→wdL K1a.cells l=l.map fun _=>1:=fun l h=>by rcases h with rfl|rfl<;>rfl
theorem y1c(w0:World)(hK:k2a [] w0)(hN:J7a [] w0):
 C0a prog 10 #[] w0 fun v w'=>v=.bool true∧Below w0.heap.size w0 w':=by
 have S:=St.refl w0;have i0:i64 0:=by unfold i64;omega
 have i1:i64 1:=by unfold i64;omega
 have r1:onE K1a 1≠zE:=by rw[c4b];intro h;exact absurd (congrArg E.op h) (by decide)
 have q1:onE K1a 0≠zE:=by rw[y4c];intro h;exact absurd (congrArg E.op h) (by decide)
 have K1:∀c∈[(0:Int)],0≤c∧c<K1a.cells.length:=by simp[K1a]
 have r2:∀c∈[(0:Int),1],0≤c∧c<K1a.cells.length:=by simp[K1a]
 refine a0a func10 Z ntmps10 Z ?_;refine wO0 Z U (j0a S A1d Z Z (k4b _) ?_);rintro v6 w6 ⟨_,rfl,r6⟩ S6 X6;obtain⟨_,_,_,_,_,_,_,_,_,_,_,_,rfl,-⟩:=r6.open_;have K6:=v0a.refl [] w6;have y0:InP K1a [] w6 _:=⟨r6,z6c,hK.keep (S6.keep0 []),by simp⟩;refine g0a S6 f6c Z Z ?_;intro g1 w1 S1 X1 G1;have u1:=Nat.le_trans K6.size G1;replace K6:=K6.trans X1
 first|refine c0a (kk:=0) (vs:=[_,_,_,_]) S1 o7c Z Z Z Z Z Z Z ?_
 intro H2 Q0 y1;dsimp only[h0a,List.set] at Q0;replace K6:=K6.fresh y1 (by first|exact u1);refine lO Q0.k [.w 0] Z ⟨⟨Z,Z⟩,U⟩ (k0a Q0 Q0a (vs:=[.int .i64 _]) (cs:=[_]) Z Z Z Z Z Z ?_);intro g9 w9 S9 X9 G9;replace K6:=K6.trans X9;refine j0a S9 j2c Z Z (U9a K1a 1 [0] (by simp[N1a]) K1 [] _ _ _ (y0.keep K6) (show RdI [] _ (.slice (some ⟨g9,0,none⟩) 1 1) [0] from W2a S9 (k:=0) Z Z (by simp[i0])) r1 (F7a z6c r1) 1 (by rw[r4c _ (.inl rfl)];rfl) 2 (by rw[C6a,r4c _ (.inr rfl)];rfl) (by omega) (by rw[C6a];exact r2)) ?_;rintro Z2 E2 ⟨_,rfl,F1⟩ d2 f2;replace K6:=K6.trans f2;obtain⟨_,_,_,_,rfl,B1,D1,I1,O1,-,M1⟩:=F1.get;obtain rfl:=O9c O1 M1;obtain⟨_,_,_,rfl⟩:=B1.form;obtain⟨_,_,c2,rfl⟩:=D1.form;have Y0:=I1 [] (by simp);obtain⟨_,_,c3,rfl⟩:=Y0.form;have b0:=v0a.refl [] E2;refine lO0 Z U (g0a d2 I6a Z Z ?_);intro g2 w2 S2 X2 G2;have v1:=Nat.le_trans K6.size G2;have f1:=Nat.le_trans b0.size G2;replace K6:=K6.trans X2;replace b0:=b0.trans X2;refine c0a (kk:=0) (vs:=[_,_,_]) S2 D6a Z Z Z Z Z Z Z ?_;intro O2 S0 p1;dsimp only[h0a,List.set] at S0;replace K6:=K6.fresh p1 (by exact v1);replace b0:=b0.fresh p1 (by exact f1);refine lO S0.k [.w 2] Z ⟨⟨Z,Z⟩,U⟩ (k0a S0 Q0a (vs:=[.int .i64 _]) (cs:=[_]) Z Z Z Z Z Z ?_);intro n2 b3 Q1 R1 Y2;replace K6:=K6.trans R1;replace b0:=b0.trans R1;refine j0a Q1 j2c Z Z (U9a K1a 0 [0] (by simp[N1a]) K1 [] _ _ _ (y0.keep K6) (show RdI [] _ (.slice (some ⟨n2,0,none⟩) 1 1) [0] from W2a Q1 (k:=0) Z Z (by simp[i0])) q1 (F7a z6c q1) 1 (by rw[r4c _ (.inl rfl)];rfl) 1 (by rw[O1b,r4c _ (.inl rfl)];rfl) (by omega) (by rw[O1b];exact K1)) ?_;rintro a3 F2 ⟨_,rfl,H1⟩ e2 T1;replace K6:=K6.trans T1;replace b0:=b0.trans T1;obtain⟨_,_,_,_,rfl,C1,E1,J1,P1,-,N1⟩:=H1.get;obtain rfl:=t0d P1 N1;obtain⟨_,_,_,rfl⟩:=C1.form;obtain⟨_,_,_,rfl⟩:=E1.form;have Z0:=J1 [] (by simp);obtain⟨_,_,_,rfl⟩:=Z0.form;have c0:=v0a.refl [] F2;refine lO0 Z U (g0a e2 I6a Z Z ?_);intro g4 w4 S4 X4 G4;have x1:=Nat.le_trans K6.size G4;have j1:=Nat.le_trans b0.size G4;have m1:=Nat.le_trans c0.size G4;replace K6:=K6.trans X4;replace b0:=b0.trans X4;replace c0:=c0.trans X4;refine c0a (kk:=0) (vs:=[_,_,_]) S4 D6a Z Z Z Z Z Z Z ?_;intro b1 T0 W0;dsimp only[h0a,List.set] at T0;replace K6:=K6.fresh W0 (by exact x1);replace b0:=b0.fresh W0 (by exact j1);replace c0:=c0.fresh W0 (by exact m1);refine lC0 Z U (k0c b0a (fun i=>[0,2,3,6,7,10,11,12,13,15,18,19,20,21,22,23,24,25,26,27,28,29,30,31,32,35,36,37,38,39,40,43,44].contains i) (.op 0 (.op 2 (.op 3 (.two (.op 1 (.op 4 (.op 5 (.op 6 (.op 7 (.op 8 (.op 9 (.op 10 (.op 11 (.op 12 (.op 13 (.op 15 (.op 14 (.op 16 (.op 17 (.op 18 (.op 19 (.op 20 (.op 21 (.op 22 (.op 23 (.op 24 (.op 25 (.op 26 (.op 27 (.op 28 (.op 29 (.op 30 (.op 31 (.op 32 (.op 33 (.op 34 (.op 35 (.op 36 (.op 37 (.op 38 (.op 39 (.op 40 (.op 41 (.op 42 (.op 43 (.op 44 .nil)))))))))))))))))))))))))))))))))))))))))) (.op 4 (.op 1 (.op 5 (.op 6 (.op 7 (.op 8 (.op 9 (.op 10 (.op 11 (.op 12 (.op 13 (.op 15 (.op 14 (.op 16 (.op 17 (.op 18 (.op 19 (.op 20 (.op 21 (.op 22 (.op 23 (.op 24 (.op 25 (.op 26 (.op 27 (.op 28 (.op 29 (.op 30 (.op 31 (.op 32 (.op 33 (.op 34 (.op 35 (.op 36 (.op 37 (.op 38 (.op 39 (.op 40 (.op 41 (.op 42 (.op 43 (.op 44 .nil)))))))))))))))))))))))))))))))))))))))))))))) (f3d T0) ?_);have O0:=T0.drew;have A0:v0a [] b1 b1.drew:=M4a _ _;generalize b1.drew=d3 at O0 A0 ⊢;replace K6:=K6.trans A0;replace b0:=b0.trans A0;replace c0:=c0.trans A0;refine O1a ⟨O0,A0⟩ Z Z Z ?_;refine N2a d5a Z (fun w1 hw=>hw.1.cells 4 Z) Z Z ?_;refine o0a ?_;refine O1a ⟨O0,A0⟩ Z Z Z ?_;refine E2a f4a (vs:=[(0,.int .i64 _),(1,.int .i64 _)]) (cs:=[_,_]) Z Z Z Z ?_;refine o0a ?_;refine O1a ⟨O0,A0⟩ Z Z Z ?_;refine E2a f4a (vs:=[(0,.int .i64 _),(1,.int .i64 _)]) (cs:=[_,_]) Z Z Z Z ?_;refine o0a ?_;refine s1c ?_ ?_
 ·refine j5a ⟨O0,A0⟩ Z Z Z ?_;refine j0a O0 M4c Z Z (I0b K1a [] _ _ (y0.keep K6)) ?_;rintro v20 I2 ⟨s2,j0,a1,X0,-⟩ c1 K0;have p0:=A0.trans K0;replace K6:=K6.trans K0;replace b0:=b0.trans K0;replace c0:=c0.trans K0;obtain rfl:=q7b a1 X0;obtain⟨U1,t2,h2,rfl⟩:=j0.form;refine Z0a ⟨Z,?_⟩;refine j5a ⟨c1,p0⟩ Z Z Z ?_;refine k0a c1 v3a (vs:=[.agg _,.agg _]) (cs:=[_,_,_,_]) Z Z Z Z Z Z ?_;intro o2 J2 d1 B0 Z1;have q0:=p0.trans B0;replace K6:=K6.trans B0;replace b0:=b0.trans B0;replace c0:=c0.trans B0;replace j0:=j0.keep (B0.of_nil);refine Z0a ⟨Z,?_⟩;refine j5a ⟨d1.tail,q0⟩ Z Z Z ?_;refine f0a d1 m1b Z Z (H2a (P2a [] _ _ _ _ [(0,1),(1,0)] j0 (K2b (c:=[_,_]) (c2:=[_,_]) (d1.cells 0 Z) Z Z ⟨Z,i0,i1⟩ ⟨Z,i1,i0⟩)) (decide_eq_true Z)) ?_;intro K2 I0 C0;have g0:=q0.trans C0;replace K6:=K6.trans C0;replace b0:=b0.trans C0;replace c0:=c0.trans C0;replace j0:=j0.keep (C0.of_nil);refine Z0a ⟨Z,?_⟩;refine O1a ⟨I0.tail,g0⟩ Z Z Z ?_;refine s1a (hv:=Z) (v:=.bool _) Z ?_;refine o0a ?_;refine O1a ⟨I0.tail,g0⟩ Z Z Z ?_;refine F1a Z Z ?_;refine N2a d5a Z (fun w1 hw=>hw.1.cells 4 Z) Z Z ?_;refine o0a ?_;refine j5a ⟨I0.tail,g0⟩ Z Z Z ?_;refine m3a Z Z Z ?_;refine j0a I0 d7b Z Z (Q5a K1a 0 _ Z [] _ _ (y0.keep K6)) ?_;rintro B2 L2 ⟨i2,rfl,s1⟩ R0 D0;have r0:=g0.trans D0;replace K6:=K6.trans D0;replace b0:=b0.trans D0;replace c0:=c0.trans D0;replace j0:=j0.keep (D0.of_nil);obtain⟨V1,u2,y2,rfl,-⟩:=s1.cells;refine Z0a ⟨Z,?_⟩;refine j5a ⟨R0.tail,r0⟩ Z Z Z ?_;refine m3a Z Z Z ?_;refine f0a R0 X4c Z Z (B6b (T2a K1a 0) _ _ s1 ((y0.keep K6).msk) (hN.keep (R0.keep0 [])) (by rw[t4a];exact J9c) (by rw[t4a];exact F4c) (by rw[t4a,A7b];decide)) ?_;intro N2 x0 E0;have e0:=r0.trans E0;replace K6:=K6.trans E0;replace b0:=b0.trans E0;replace c0:=c0.trans E0;replace j0:=j0.keep (E0.of_nil);refine Z0a ⟨Z,?_⟩;refine O1a ⟨x0.tail,e0⟩ Z Z Z ?_;refine F1a Z Z ?_;refine z3b Z Z Z (fun _=>?_) (fun h=>absurd (by rw[t4a,A7b];rfl) h);refine o0a ?_;refine O1a ⟨x0.tail,e0⟩ Z Z Z ?_;refine L4a Z (v:=.bool _) Z Z ?_;refine o0a ?_;refine O1a ⟨x0.tail,e0⟩ Z Z Z ?_;refine s1a (hv:=Z) (v:=.bool _) Z ?_;refine o0a ?_;refine O1a ⟨x0.tail,e0⟩ Z Z Z ?_;refine F1a Z Z ?_;refine N2a d5a Z (fun w1 hw=>hw.1.cells 4 Z) Z Z ?_;refine o0a ?_;refine O1a ⟨x0.tail,e0⟩ Z Z Z ?_;refine F1a Z Z ?_;refine N2a d5a Z (fun w1 hw=>hw.1.cells 4 Z) Z Z ?_;refine o0a ?_;refine j5a ⟨x0.tail,e0⟩ Z Z Z ?_;refine m3a Z Z Z ?_;refine j0a x0 V9b Z Z (z8c K1a 1 [] _ _ (y0.keep K6)) ?_;rintro C2 P2 ⟨j2,rfl,n0⟩ n1 F0;have s0:=e0.trans F0;replace K6:=K6.trans F0;replace b0:=b0.trans F0;replace c0:=c0.trans F0;replace j0:=j0.keep (F0.of_nil);obtain⟨W1,v2,z2,rfl,-⟩:=n0.cells;refine Z0a ⟨Z,?_⟩;refine j5a ⟨n1.tail,s0⟩ Z Z Z ?_;refine m3a Z Z Z ?_;refine j0a n1 d7b Z Z (Q5a K1a 0 _ Z [] _ _ (y0.keep K6)) ?_;rintro D2 Q2 ⟨m2,rfl,t1⟩ o1 z0;have t0:=s0.trans z0;replace n0:=RdE.keep (z0.of_nil) _ _ n0;replace K6:=K6.trans z0;replace b0:=b0.trans z0;replace c0:=c0.trans z0;replace j0:=j0.keep (z0.of_nil);obtain⟨Y1,x2,A2,rfl,-⟩:=t1.cells;refine Z0a ⟨Z,?_⟩;refine j5a ⟨o1.tail,t0⟩ Z Z Z ?_;refine m3a Z Z Z ?_;refine f0a o1 r6b Z Z (H2a (p0b (onE K1a 1) (T2a K1a 0) [] _ _ _ n0 t1) (k9c (c4b.trans t4a.symm))) ?_;intro R2 f0 G0;have a0:=t0.trans G0;replace n0:=RdE.keep (G0.of_nil) _ _ n0;replace K6:=K6.trans G0;replace b0:=b0.trans G0;replace c0:=c0.trans G0;replace j0:=j0.keep (G0.of_nil);refine Z0a ⟨Z,?_⟩;refine O1a ⟨f0.tail,a0⟩ Z Z Z ?_;refine L4a Z (v:=.bool _) Z Z ?_;refine o0a ?_;refine O1a ⟨f0.tail,a0⟩ Z Z Z ?_;refine s1a (hv:=Z) (v:=.bool _) Z ?_;refine o0a ?_;refine O1a ⟨f0.tail,a0⟩ Z Z Z ?_;refine F1a Z Z ?_;refine s1a (hv:=Z) (v:=.int .i64 _) Z ?_;refine o0a ?_;refine O1a ⟨f0.tail,a0⟩ Z Z Z ?_;refine F1a Z Z ?_;refine E1c Z Z Z (fun z1=>?_) fun z1=>?_
  ·refine o0a ?_;refine O1a ⟨f0.tail,a0⟩ Z Z Z ?_;refine L4a Z (v:=.bool _) Z Z ?_;refine o0a ?_;refine O1a ⟨f0.tail,a0⟩ Z Z Z ?_;refine s1a (hv:=Z) (v:=.bool _) Z ?_;refine o0a ?_;refine O1a ⟨f0.tail,a0⟩ Z Z Z ?_;refine F1a Z Z ?_;refine s1a (hv:=Z) (v:=.int .i64 _) Z ?_;refine o0a ?_;refine O1a ⟨f0.tail,a0⟩ Z Z Z ?_;refine F1a Z Z ?_;refine E1c Z Z Z (fun A1=>?_) fun A1=>?_
   ·refine o0a ?_;refine O1a ⟨f0.tail,a0⟩ Z Z Z ?_;refine L4a Z (v:=.bool _) Z Z ?_;refine o0a ?_;refine O1a ⟨f0.tail,a0⟩ Z Z Z ?_;refine s1a (hv:=Z) (v:=.bool _) Z ?_;refine o0a ?_;refine O1a ⟨f0.tail,a0⟩ Z Z Z ?_;refine F1a Z Z ?_;refine i1a A9a Z Z ?_;refine o0a ?_;refine O1a ⟨f0.tail,a0⟩ Z Z Z ?_;refine F1a Z Z ?_;refine i0a z8a Z (fun w1 hw=>by exact hw.1.cell 2 Z Z) Z ?_;refine o0a ?_;refine O1a ⟨f0.tail,a0⟩ Z Z Z ?_;refine F1a Z Z ?_;refine E2a f4a (vs:=[(0,.int .i64 _),(1,.int .i64 _)]) (cs:=[_,_]) Z Z Z Z ?_;refine o0a ?_;refine O1a ⟨f0.tail,a0⟩ Z Z Z ?_;refine F1a Z Z ?_;refine E2a f4a (vs:=[(0,.int .i64 _),(1,.int .i64 _)]) (cs:=[_,_]) Z Z Z Z ?_;refine o0a ?_;refine O1a ⟨f0.tail,a0⟩ Z Z Z ?_;refine F1a Z Z ?_;refine E2a f4a (vs:=[(0,.int .i64 _),(1,.int .i64 _)]) (cs:=[_,_]) Z Z Z Z ?_;refine o0a ?_;refine j5a ⟨f0.tail,a0⟩ Z Z Z ?_;refine m3a Z Z Z ?_;refine k0a f0 v3a (vs:=[.agg _,.agg _,.agg _]) (cs:=[_,_,_,_,_,_]) Z Z Z Z Z Z ?_;intro p2 T2 U0 H0 a2;have u0:=a0.trans H0;replace n0:=RdE.keep (H0.of_nil) _ _ n0;replace K6:=K6.trans H0;replace b0:=b0.trans H0;replace c0:=c0.trans H0;replace j0:=j0.keep (H0.of_nil);refine Z0a ⟨Z,?_⟩;refine j5a ⟨U0.tail.tail,u0⟩ Z Z Z ?_;refine m3a Z Z Z ?_;refine f0a U0 m1b Z Z (H2a (P2a [] _ _ _ _ [(0,0),(0,1),(1,1)] (Y0.keep b0) (W0d (c:=[_,_]) (c2:=[_,_]) (c3:=[_,_]) (U0.cells 0 Z) Z Z Z ⟨Z,i0,i0⟩ ⟨Z,i0,i1⟩ ⟨Z,i1,i1⟩)) (decide_eq_true Z)) ?_;intro U2 o0 L0;have d0:=u0.trans L0;replace n0:=RdE.keep (L0.of_nil) _ _ n0;replace K6:=K6.trans L0;replace b0:=b0.trans L0;replace c0:=c0.trans L0;replace j0:=j0.keep (L0.of_nil);refine Z0a ⟨Z,?_⟩;refine O1a ⟨o0.tail.tail,d0⟩ Z Z Z ?_;refine L4a Z (v:=.bool _) Z Z ?_;refine o0a ?_;refine O1a ⟨o0.tail.tail,d0⟩ Z Z Z ?_;refine s1a (hv:=Z) (v:=.bool _) Z ?_;refine o0a ?_;refine O1a ⟨o0.tail.tail,d0⟩ Z Z Z ?_;refine F1a Z Z ?_;refine i1a A9a Z Z ?_;refine o0a ?_;refine O1a ⟨o0.tail.tail,d0⟩ Z Z Z ?_;refine F1a Z Z ?_;refine i0a z8a Z (fun w1 hw=>by exact hw.1.cell 0 Z Z) Z ?_;refine o0a ?_;refine O1a ⟨o0.tail.tail,d0⟩ Z Z Z ?_;refine F1a Z Z ?_;refine E2a f4a (vs:=[(0,.int .i64 _),(1,.int .i64 _)]) (cs:=[_,_]) Z Z Z Z ?_;refine o0a ?_;refine O1a ⟨o0.tail.tail,d0⟩ Z Z Z ?_;refine F1a Z Z ?_;refine E2a f4a (vs:=[(0,.int .i64 _),(1,.int .i64 _)]) (cs:=[_,_]) Z Z Z Z ?_;refine o0a ?_;refine j5a ⟨o0.tail.tail,d0⟩ Z Z Z ?_;refine m3a Z Z Z ?_;refine k0a o0 v3a (vs:=[.agg _,.agg _]) (cs:=[_,_,_,_]) Z Z Z Z Z Z ?_;intro q2 V2 V0 N0 b2;have v0:=d0.trans N0;replace n0:=RdE.keep (N0.of_nil) _ _ n0;replace K6:=K6.trans N0;replace b0:=b0.trans N0;replace c0:=c0.trans N0;replace j0:=j0.keep (N0.of_nil);refine Z0a ⟨Z,?_⟩;refine j5a ⟨V0.tail.tail.tail,v0⟩ Z Z Z ?_;refine m3a Z Z Z ?_;refine f0a V0 m1b Z Z (H2a (P2a [] _ _ _ _ [(0,0),(1,1)] (Z0.keep c0) (K2b (c:=[_,_]) (c2:=[_,_]) (V0.cells 0 Z) Z Z ⟨Z,i0,i0⟩ ⟨Z,i1,i1⟩)) (decide_eq_true Z)) ?_;intro W2 J0 P0;have m0:=v0.trans P0;replace n0:=RdE.keep (P0.of_nil) _ _ n0;replace K6:=K6.trans P0;replace b0:=b0.trans P0;replace c0:=c0.trans P0;replace j0:=j0.keep (P0.of_nil);refine Z0a ⟨Z,?_⟩;refine O1a ⟨J0.tail.tail.tail,m0⟩ Z Z Z ?_;refine L4a Z (v:=.bool _) Z Z ?_;refine o0a ?_;refine O1a ⟨J0.tail.tail.tail,m0⟩ Z Z Z ?_;refine m4a (v:=.bool _) Z Z ?_;refine o0a ?_;refine U0b ⟨J0.tail.tail.tail,m0⟩ ?_;refine fR0 Z U (s0a Z ?_);exact⟨Z,J0.fin⟩
   exfalso;omega
  exfalso;omega
 refine j5a ⟨O0,A0⟩ Z Z Z ?_;refine k0a O0 v3a (vs:=[.agg _,.agg _]) (cs:=[_,_,_,_]) Z Z Z Z Z Z ?_;intro o2 J2 d1 B0 Z1;have q0:=A0.trans B0;replace K6:=K6.trans B0;replace b0:=b0.trans B0;replace c0:=c0.trans B0;refine Z0a ⟨Z,?_⟩;refine j5a ⟨d1.tail,q0⟩ Z Z Z ?_;refine j0a d1 M4c Z Z (I0b K1a [] _ _ (y0.keep K6)) ?_;rintro v20 I2 ⟨s2,j0,a1,X0,-⟩ c1 K0;have p0:=q0.trans K0;replace K6:=K6.trans K0;replace b0:=b0.trans K0;replace c0:=c0.trans K0;obtain rfl:=q7b a1 X0;obtain⟨U1,t2,h2,rfl⟩:=j0.form;refine Z0a ⟨Z,?_⟩;refine j5a ⟨c1.tail,p0⟩ Z Z Z ?_;refine f0a c1 m1b Z Z (H2a (P2a [] _ _ _ _ [(0,1),(1,0)] j0 (K2b (c:=[_,_]) (c2:=[_,_]) (c1.cells 0 Z) Z Z ⟨Z,i0,i1⟩ ⟨Z,i1,i0⟩)) (decide_eq_true Z)) ?_;intro K2 I0 C0;have g0:=p0.trans C0;replace K6:=K6.trans C0;replace b0:=b0.trans C0;replace c0:=c0.trans C0;refine Z0a ⟨Z,?_⟩;refine O1a ⟨I0.tail,g0⟩ Z Z Z ?_;refine s1a (hv:=Z) (v:=.bool _) Z ?_;refine o0a ?_;refine O1a ⟨I0.tail,g0⟩ Z Z Z ?_;refine F1a Z Z ?_;refine N2a d5a Z (fun w1 hw=>hw.1.cells 4 Z) Z Z ?_;refine o0a ?_;refine j5a ⟨I0.tail,g0⟩ Z Z Z ?_;refine m3a Z Z Z ?_;refine j0a I0 d7b Z Z (Q5a K1a 0 _ Z [] _ _ (y0.keep K6)) ?_;rintro B2 L2 ⟨i2,rfl,s1⟩ R0 D0;have r0:=g0.trans D0;replace K6:=K6.trans D0;replace b0:=b0.trans D0;replace c0:=c0.trans D0;obtain⟨V1,u2,y2,rfl,-⟩:=s1.cells;refine Z0a ⟨Z,?_⟩;refine j5a ⟨R0.tail,r0⟩ Z Z Z ?_;refine m3a Z Z Z ?_;refine f0a R0 X4c Z Z (B6b (T2a K1a 0) _ _ s1 ((y0.keep K6).msk) (hN.keep (R0.keep0 [])) (by rw[t4a];exact J9c) (by rw[t4a];exact F4c) (by rw[t4a,A7b];decide)) ?_;intro N2 x0 E0;have e0:=r0.trans E0;replace K6:=K6.trans E0;replace b0:=b0.trans E0;replace c0:=c0.trans E0;refine Z0a ⟨Z,?_⟩;refine O1a ⟨x0.tail,e0⟩ Z Z Z ?_;refine F1a Z Z ?_;refine z3b Z Z Z (fun _=>?_) (fun h=>absurd (by rw[t4a,A7b];rfl) h);refine o0a ?_;refine O1a ⟨x0.tail,e0⟩ Z Z Z ?_;refine L4a Z (v:=.bool _) Z Z ?_;refine o0a ?_;refine O1a ⟨x0.tail,e0⟩ Z Z Z ?_;refine s1a (hv:=Z) (v:=.bool _) Z ?_;refine o0a ?_;refine O1a ⟨x0.tail,e0⟩ Z Z Z ?_;refine F1a Z Z ?_;refine N2a d5a Z (fun w1 hw=>hw.1.cells 4 Z) Z Z ?_;refine o0a ?_;refine O1a ⟨x0.tail,e0⟩ Z Z Z ?_;refine F1a Z Z ?_;refine N2a d5a Z (fun w1 hw=>hw.1.cells 4 Z) Z Z ?_;refine o0a ?_;refine j5a ⟨x0.tail,e0⟩ Z Z Z ?_;refine m3a Z Z Z ?_;refine j0a x0 V9b Z Z (z8c K1a 1 [] _ _ (y0.keep K6)) ?_;rintro C2 P2 ⟨j2,rfl,n0⟩ n1 F0;have s0:=e0.trans F0;replace K6:=K6.trans F0;replace b0:=b0.trans F0;replace c0:=c0.trans F0;obtain⟨W1,v2,z2,rfl,-⟩:=n0.cells;refine Z0a ⟨Z,?_⟩;refine j5a ⟨n1.tail,s0⟩ Z Z Z ?_;refine m3a Z Z Z ?_;refine j0a n1 d7b Z Z (Q5a K1a 0 _ Z [] _ _ (y0.keep K6)) ?_;rintro D2 Q2 ⟨m2,rfl,t1⟩ o1 z0;have t0:=s0.trans z0;replace n0:=RdE.keep (z0.of_nil) _ _ n0;replace b0:=b0.trans z0;replace c0:=c0.trans z0;obtain⟨Y1,x2,A2,rfl,-⟩:=t1.cells;refine Z0a ⟨Z,?_⟩;refine j5a ⟨o1.tail,t0⟩ Z Z Z ?_;refine m3a Z Z Z ?_;refine f0a o1 r6b Z Z (H2a (p0b (onE K1a 1) (T2a K1a 0) [] _ _ _ n0 t1) (k9c (c4b.trans t4a.symm))) ?_;intro R2 f0 G0;have a0:=t0.trans G0;replace b0:=b0.trans G0;replace c0:=c0.trans G0;refine Z0a ⟨Z,?_⟩;refine O1a ⟨f0.tail,a0⟩ Z Z Z ?_;refine L4a Z (v:=.bool _) Z Z ?_;refine o0a ?_;refine O1a ⟨f0.tail,a0⟩ Z Z Z ?_;refine s1a (hv:=Z) (v:=.bool _) Z ?_;refine o0a ?_;refine O1a ⟨f0.tail,a0⟩ Z Z Z ?_;refine F1a Z Z ?_;refine s1a (hv:=Z) (v:=.int .i64 _) Z ?_;refine o0a ?_;refine O1a ⟨f0.tail,a0⟩ Z Z Z ?_;refine F1a Z Z ?_;refine E1c Z Z Z (fun z1=>?_) fun z1=>?_
 ·refine o0a ?_;refine O1a ⟨f0.tail,a0⟩ Z Z Z ?_;refine L4a Z (v:=.bool _) Z Z ?_;refine o0a ?_;refine O1a ⟨f0.tail,a0⟩ Z Z Z ?_;refine s1a (hv:=Z) (v:=.bool _) Z ?_;refine o0a ?_;refine O1a ⟨f0.tail,a0⟩ Z Z Z ?_;refine F1a Z Z ?_;refine s1a (hv:=Z) (v:=.int .i64 _) Z ?_;refine o0a ?_;refine O1a ⟨f0.tail,a0⟩ Z Z Z ?_;refine F1a Z Z ?_;refine E1c Z Z Z (fun A1=>?_) fun A1=>?_
  ·refine o0a ?_;refine O1a ⟨f0.tail,a0⟩ Z Z Z ?_;refine L4a Z (v:=.bool _) Z Z ?_;refine o0a ?_;refine O1a ⟨f0.tail,a0⟩ Z Z Z ?_;refine s1a (hv:=Z) (v:=.bool _) Z ?_;refine o0a ?_;refine O1a ⟨f0.tail,a0⟩ Z Z Z ?_;refine F1a Z Z ?_;refine i1a A9a Z Z ?_;refine o0a ?_;refine O1a ⟨f0.tail,a0⟩ Z Z Z ?_;refine F1a Z Z ?_;refine i0a z8a Z (fun w1 hw=>by exact hw.1.cell 2 Z Z) Z ?_;refine o0a ?_;refine O1a ⟨f0.tail,a0⟩ Z Z Z ?_;refine F1a Z Z ?_;refine E2a f4a (vs:=[(0,.int .i64 _),(1,.int .i64 _)]) (cs:=[_,_]) Z Z Z Z ?_;refine o0a ?_;refine O1a ⟨f0.tail,a0⟩ Z Z Z ?_;refine F1a Z Z ?_;refine E2a f4a (vs:=[(0,.int .i64 _),(1,.int .i64 _)]) (cs:=[_,_]) Z Z Z Z ?_;refine o0a ?_;refine O1a ⟨f0.tail,a0⟩ Z Z Z ?_;refine F1a Z Z ?_;refine E2a f4a (vs:=[(0,.int .i64 _),(1,.int .i64 _)]) (cs:=[_,_]) Z Z Z Z ?_;refine o0a ?_;refine j5a ⟨f0.tail,a0⟩ Z Z Z ?_;refine m3a Z Z Z ?_;refine k0a f0 v3a (vs:=[.agg _,.agg _,.agg _]) (cs:=[_,_,_,_,_,_]) Z Z Z Z Z Z ?_;intro p2 T2 U0 H0 a2;have u0:=a0.trans H0;replace b0:=b0.trans H0;replace c0:=c0.trans H0;refine Z0a ⟨Z,?_⟩;refine j5a ⟨U0.tail.tail,u0⟩ Z Z Z ?_;refine m3a Z Z Z ?_;refine f0a U0 m1b Z Z (H2a (P2a [] _ _ _ _ [(0,0),(0,1),(1,1)] (Y0.keep b0) (W0d (c:=[_,_]) (c2:=[_,_]) (c3:=[_,_]) (U0.cells 0 Z) Z Z Z ⟨Z,i0,i0⟩ ⟨Z,i0,i1⟩ ⟨Z,i1,i1⟩)) (decide_eq_true Z)) ?_;intro U2 o0 L0;have d0:=u0.trans L0;replace c0:=c0.trans L0;refine Z0a ⟨Z,?_⟩;refine O1a ⟨o0.tail.tail,d0⟩ Z Z Z ?_;refine L4a Z (v:=.bool _) Z Z ?_;refine o0a ?_;refine O1a ⟨o0.tail.tail,d0⟩ Z Z Z ?_;refine s1a (hv:=Z) (v:=.bool _) Z ?_;refine o0a ?_;refine O1a ⟨o0.tail.tail,d0⟩ Z Z Z ?_;refine F1a Z Z ?_;refine i1a A9a Z Z ?_;refine o0a ?_;refine O1a ⟨o0.tail.tail,d0⟩ Z Z Z ?_;refine F1a Z Z ?_;refine i0a z8a Z (fun w1 hw=>by exact hw.1.cell 0 Z Z) Z ?_;refine o0a ?_;refine O1a ⟨o0.tail.tail,d0⟩ Z Z Z ?_;refine F1a Z Z ?_;refine E2a f4a (vs:=[(0,.int .i64 _),(1,.int .i64 _)]) (cs:=[_,_]) Z Z Z Z ?_;refine o0a ?_;refine O1a ⟨o0.tail.tail,d0⟩ Z Z Z ?_;refine F1a Z Z ?_;refine E2a f4a (vs:=[(0,.int .i64 _),(1,.int .i64 _)]) (cs:=[_,_]) Z Z Z Z ?_;refine o0a ?_;refine j5a ⟨o0.tail.tail,d0⟩ Z Z Z ?_;refine m3a Z Z Z ?_;refine k0a o0 v3a (vs:=[.agg _,.agg _]) (cs:=[_,_,_,_]) Z Z Z Z Z Z ?_;intro q2 V2 V0 N0 b2;have v0:=d0.trans N0;replace c0:=c0.trans N0;refine Z0a ⟨Z,?_⟩;refine j5a ⟨V0.tail.tail.tail,v0⟩ Z Z Z ?_;refine m3a Z Z Z ?_;refine f0a V0 m1b Z Z (H2a (P2a [] _ _ _ _ [(0,0),(1,1)] (Z0.keep c0) (K2b (c:=[_,_]) (c2:=[_,_]) (V0.cells 0 Z) Z Z ⟨Z,i0,i0⟩ ⟨Z,i1,i1⟩)) (decide_eq_true Z)) ?_;intro W2 J0 P0;have m0:=v0.trans P0;refine Z0a ⟨Z,?_⟩;refine O1a ⟨J0.tail.tail.tail,m0⟩ Z Z Z ?_;refine L4a Z (v:=.bool _) Z Z ?_;refine o0a ?_;refine O1a ⟨J0.tail.tail.tail,m0⟩ Z Z Z ?_;refine m4a (v:=.bool _) Z Z ?_;refine o0a ?_;refine U0b ⟨J0.tail.tail.tail,m0⟩ ?_;refine fR0 Z U (s0a Z ?_);exact⟨Z,J0.fin⟩
  exfalso;omega
 exfalso;omega
def B6c(p:List d1a)(s:List Int)(c:Int):Nat:=(s.getD c.toNat 0).toNat % 2 ^ (wAt p c).toNat
theorem d4c(p:List d1a)(c:Int)(C s:List Int):nuZ (c::C) (wdL p (c::C)) s=B6c p s c+2 ^ (wAt p c).toNat*nuZ C (wdL p C) s:=Z
theorem K7b(p:List d1a)(c:Int)(C:List Int)(n:Nat)(s:List Int):stZ (c::C) (wdL p (c::C)) n s=stZ C (wdL p C) (n / 2 ^ (wAt p c).toNat) (s.set c.toNat ((n % 2 ^ (wAt p c).toNat:Nat):Int)):=Z
theorem B3b{p:List d1a}:∀{C:List Int} {n:Nat} {s:List Int} {i:Nat},(∀c∈C,c.toNat≠i)→(stZ C (wdL p C) n s).getD i 0=s.getD i 0
 | [],_,_,_,_=>rfl
 | c::C,n,s,i,h=>by
   rw[K7b,B3b fun x hx=>h x (List.mem_cons_of_mem _ hx),List.getD_eq_getElem?_getD,List.getElem?_set_ne (h c (by simp)),List.getD_eq_getElem?_getD]
def B3a(C:List Int)(n:Nat):Prop:=C.Pairwise (·<·)∧∀c∈C,0≤c∧c<n
theorem B3a.tail{c:Int}{C:List Int}{n:Nat}(h:B3a (c::C) n):B3a C n:=⟨(List.pairwise_cons.1 h.1).2,fun x hx=>h.2 x (List.mem_cons_of_mem _ hx)⟩
theorem B3a.ne{c:Int}{C:List Int}{n:Nat}(h:B3a (c::C) n):∀x∈C,x.toNat≠c.toNat:=fun x hx=>by
 have h1:=(List.pairwise_cons.1 h.1).1 x hx;have h2:=h.2 c (by simp);omega
theorem d5b{p:List d1a}:∀{C m s:List Int},B3a C s.length→∀c∈C,(stZ C (wdL p C) (nuZ C (wdL p C) m) s).getD c.toNat 0=(B6c p m c:Int)
 | [],_,_,_,c,hc=>by cases hc
 | d::C,m,s,h,c,hc=>by
   have a0:B6c p m d<2 ^ (wAt p d).toNat:=Nat.mod_lt _ (Nat.two_pow_pos _);rw[K7b,d4c,Nat.add_mul_mod_self_left,Nat.mod_eq_of_lt a0,Nat.add_mul_div_left _ _ (Nat.two_pow_pos _),Nat.div_eq_of_lt a0,Nat.zero_add];rcases List.mem_cons.1 hc with rfl|hc
   ·rw[B3b h.ne,List.getD_eq_getElem?_getD,List.getElem?_set_self (by have:=h.2 c (by simp);omega)];rfl
   ·exact d5b (s:=s.set _ _) (by rw[List.length_set];exact h.tail) c hc
theorem c1c(n:Nat):T3a n=((2 ^ n:Nat):Int):=by
 induction n with
 | zero=>rfl
 | succ n ih=>rw[T3a,ih,Nat.pow_succ];omega
theorem J7b{p:List d1a}{s:List Int}{c:Int}(h:0≤s.getD c.toNat 0):s.getD c.toNat 0 % T3a (wAt p c).toNat=(B6c p s c:Int):=by
 unfold B6c;rw[c1c];generalize s.getD c.toNat 0=x at h;obtain⟨_,rfl⟩:=Int.eq_ofNat_of_zero_le h;rw[Int.toNat_natCast];rfl
def B9c(s:List Int):Prop:=∀i:Nat,0≤s.getD i 0
theorem V5c{s:List Int}(h:∀x∈s,0≤x):B9c s:=fun i=>by
 rw[List.getD_eq_getElem?_getD];cases he:s[i]? with
 | none=>simp
 | some x=>exact h x (List.mem_of_getElem? he)
theorem I9b{p:List d1a}{C s:List Int}{n:Nat}(h:∀x∈s,0≤x∧x<256)(hw:∀c∈C,1≤wAt p c∧wAt p c≤8):B9c (stZ C (wdL p C) n s):=V5c fun x hx=>(N9a C (wdL p C) n s (fun y hy=>by obtain⟨c,hc,rfl⟩:=List.mem_map.1 hy;exact hw c hc) h x hx).1
theorem B0c(x:j1a)(M:List Nat)(w0:World)(ts:List Value)(hT:X0a M w0 ts x):
 C0a prog 50 #[.agg ts.toArray] w0 fun v w'=>(∃b,v=.bool b∧(b=true→True))∧Below w0.heap.size w0 w':=by
 obtain⟨Aa,na,ca,Am,nm,cm,As,ns,cn,Al,nl,cl,rfl,-,u1,_,e0,S0,_⟩:=X0a.open_ hT;have S:=St.refl w0;refine a0a func50 Z ntmps50 Z ?_;refine wO0 Z U (q0a S Z ?_);intro g1 w1 S1 X1 G1;refine lC0 Z U (wL (fun μk D ε w=>D=[]∧∃k:Nat,(k+μk=(x.steps.length))∧St [] w0 w [(some g1,64,[.string x.name,.int .i64 x.points,.slice Aa na ca,.slice Am nm cm,.slice As ns cn,.slice Al nl cl,.bool x.asleep])]∧Sl ε [(1,.pointer (some ⟨g1,0,none⟩)),(3,.int .i64 k)]) (μ:=(x.steps.length)) ⟨Z,0,by omega,S1,Z⟩ ?_);rintro μk D ε w ⟨rfl,k,hk,S,eZ⟩;refine wK eZ (wB S.k [.o 0] Z ⟨Z,U⟩ (fun i1=>?_) fun i1=>?_)
 ·obtain⟨s,X0,x1,_,R0,i0,_,_,v0,F0⟩:=RdS.get (e0) (k) (by omega);obtain⟨_,_,_,_,_,_,rfl,⟨_,_⟩,u0,_⟩:=Y1a.open_ F0;refine lO (S.k.a v0) [.o 0,.x X0 x1,.f 0 3] Z ⟨Z,⟨i0,by omega⟩,Z,U⟩ (u0a S w9a Z Z (b5a s.guard M _ _ _ (RdE.keep (S.keep0 M) _ _ u0)) (fun j1 F1 b0 T0=>?_) (fun j1 F1 b0 T0=>?_))
  ·obtain⟨_,Y0,y1,_,N0,j0,_,_,x0,G0⟩:=RdS.get (e0) (k) (by omega);obtain rfl:=Option.some.inj (R0.symm.trans N0);obtain⟨_,_,_,_,_,_,rfl,⟨_,_⟩,_⟩:=Y1a.open_ G0;refine lB (b0.k.a x0) [.o 0,.x Y0 y1,.f 0 7] Z ⟨Z,⟨j0,by omega⟩,Z,U⟩ (fun m1=>?_) fun m1=>?_
   ·exact lT Z U Z ⟨⟨_,Z,fun _=>trivial⟩,b0.fin⟩
   refine lC0 Z U (wL (fun μj D ε w=>D=[]∧∃j:Nat,(j+μj=(s.set.length))∧St [] w0 w [(some g1,64,[.string x.name,.int .i64 x.points,.slice Aa na ca,.slice Am nm cm,.slice As ns cn,.slice Al nl cl,.bool x.asleep])]∧Sl ε [(1,.pointer (some ⟨g1,0,none⟩)),(3,.int .i64 k),(4,.int .i64 j)]) (μ:=(s.set.length)) ⟨Z,0,by omega,b0,Z⟩ ?_);rintro μj D ε w ⟨rfl,j,_,S,eZ⟩;refine wK eZ ?_;obtain⟨_,Z0,z1,_,O0,m0,_,_,y0,H0⟩:=RdS.get (e0) (k) (by omega);obtain rfl:=Option.some.inj (R0.symm.trans O0);obtain⟨_,_,_,_,_,_,rfl,⟨_,_⟩,_⟩:=Y1a.open_ H0;refine wB (S.k.a y0) [.o 0,.x Z0 z1,.f 0 7] Z ⟨Z,⟨m0,by omega⟩,Z,U⟩ (fun n1=>?_) fun n1=>?_
   ·obtain⟨_,a1,A1,_,P0,n0,_,_,z0,I0⟩:=RdS.get (e0) (k) (by omega);obtain rfl:=Option.some.inj (R0.symm.trans P0);obtain⟨_,_,_,_,_,_,rfl,⟨_,_⟩,_,a0,_⟩:=Y1a.open_ I0;obtain⟨a,b1,B1,_,_,o0,_,_,A0,J0⟩:=RdS.get (a0) (j) (by omega);obtain⟨_,_,_,rfl,_,s0⟩:=P0a.open_ J0;refine lO ((S.k.a A0).a z0) [.o 0,.x a1 A1,.f 0 7,.x b1 B1,.f 1 1] Z ⟨Z,⟨o0,by omega⟩,Z,⟨n0,by omega⟩,Z,U⟩ (u0a S w9a Z Z (b5a a.to M _ _ _ (RdE.keep (S.keep0 M) _ _ s0)) (fun o1 H1 f0 U0=>?_) (fun o1 H1 f0 U0=>?_))
    ·refine lP0 Z ⟨by omega,U⟩ ⟨μj-1,by omega,Z,(j+1),(by omega),f0,Z⟩
    exact lT Z U Z ⟨⟨_,Z,fun _=>trivial⟩,f0.fin⟩
   refine lP0 Z ⟨by omega,U⟩ ⟨μk-1,by omega,Z,(k+1),(by omega),S,Z⟩
  exact lT Z U Z ⟨⟨_,Z,fun _=>trivial⟩,b0.fin⟩
 refine lC0 Z U (wL (fun μk D ε w=>D=[]∧∃k:Nat,(k+μk=(x.asserts.length))∧St [] w0 w [(some g1,64,[.string x.name,.int .i64 x.points,.slice Aa na ca,.slice Am nm cm,.slice As ns cn,.slice Al nl cl,.bool x.asleep])]∧Sl ε [(1,.pointer (some ⟨g1,0,none⟩)),(5,.int .i64 k)]) (μ:=(x.asserts.length)) ⟨Z,0,by omega,S,Z⟩ ?_);rintro μk D ε w ⟨rfl,k,hk,S,eZ⟩;refine wK eZ (wB S.k [.o 0] Z ⟨Z,U⟩ (fun p1=>?_) fun p1=>?_)
 ·obtain⟨e,c1,C1,_,_,p0,_,E0,B0,d0⟩:=RdS.get (u1) (k) (by omega);obtain⟨_,_,_,rfl,_⟩:=RdE.cells d0;refine lO (S.k.a B0) [.o 0,.x c1 C1,.v 0] Z ⟨⟨Z,E0⟩,⟨p0,by omega⟩,Z,U⟩ (u0a S w9a Z Z (b5a e M _ _ _ (RdE.keep (S.keep0 M) _ _ d0)) (fun q1 I1 g0 V0=>?_) (fun q1 I1 g0 V0=>?_))
  ·refine lP0 Z ⟨by omega,U⟩ ⟨μk-1,by omega,Z,(k+1),(by omega),g0,Z⟩
  exact lT Z U Z ⟨⟨_,Z,fun _=>trivial⟩,g0.fin⟩
 refine lC0 Z U (wL (fun μk D ε w=>D=[]∧∃k:Nat,(k+μk=(x.loops.length))∧St [] w0 w [(some g1,64,[.string x.name,.int .i64 x.points,.slice Aa na ca,.slice Am nm cm,.slice As ns cn,.slice Al nl cl,.bool x.asleep])]∧Sl ε [(1,.pointer (some ⟨g1,0,none⟩)),(6,.int .i64 k)]) (μ:=(x.loops.length)) ⟨Z,0,by omega,S,Z⟩ ?_);rintro μk D ε w ⟨rfl,k,hk,S,eZ⟩;refine wK eZ (wB S.k [.o 0] Z ⟨Z,U⟩ (fun r1=>?_) fun r1=>?_)
 ·obtain⟨o,d1,D1,_,v1,q0,_,_,C0,K0⟩:=RdS.get (S0) (k) (by omega);obtain⟨_,_,_,_,_,_,rfl,_,_,t0,_⟩:=P4a.open_ K0;refine lO (S.k.a C0) [.o 0,.x d1 D1,.f 0 2] Z ⟨Z,⟨q0,by omega⟩,Z,U⟩ (u0a S w9a Z Z (b5a o.variant M _ _ _ (RdE.keep (S.keep0 M) _ _ t0)) (fun s1 J1 c0 W0=>?_) (fun s1 J1 c0 W0=>?_))
  ·obtain⟨_,f1,E1,_,Q0,r0,_,_,D0,L0⟩:=RdS.get (S0) (k) (by omega);obtain rfl:=Option.some.inj (v1.symm.trans Q0);obtain⟨_,_,_,_,_,_,rfl,_⟩:=P4a.open_ L0;refine lB (c0.k.a D0) [.o 0,.x f1 E1,.f 0 1] Z ⟨Z,⟨r0,by omega⟩,Z,U⟩ (fun t1=>?_) fun t1=>?_
   ·exact lT Z U Z ⟨⟨_,Z,fun _=>trivial⟩,c0.fin⟩
   refine lP0 Z ⟨by omega,U⟩ ⟨μk-1,by omega,Z,(k+1),(by omega),c0,Z⟩
  exact lT Z U Z ⟨⟨_,Z,fun _=>trivial⟩,c0.fin⟩
 exact lT Z U Z ⟨⟨_,Z,fun _=>trivial⟩,S.fin⟩
theorem A3c(p:n0a)(M:List Nat)(w0:World)(cs:List Value)(hP:T0a M w0 p cs):
 C0a prog 11 #[.agg cs.toArray] w0 fun v w'=>(∃b,v=.bool b∧(b=true→True))∧Below w0.heap.size w0 w':=by
 obtain⟨Ac,nc,cc,Am,nm,cm,Al,nl,cl,At,nt,ct,rfl,_,D0,o1,p1,_⟩:=hP.open_;have S:=St.refl w0;refine a0a func11 Z ntmps11 Z ?_;refine wO0 Z U (q0a S Z ?_);intro g1 w1 S1 X1 G1;refine lB S1.k [.o 0] Z ⟨Z,U⟩ (fun X0=>?_) fun X0=>?_
 ·exact lT Z U Z ⟨⟨_,Z,fun _=>trivial⟩,S1.fin⟩
 refine lB S1.k [.o 0] Z ⟨Z,U⟩ (fun Y0=>?_) fun Y0=>?_
 ·exact lT Z U Z ⟨⟨_,Z,fun _=>trivial⟩,S1.fin⟩
 refine lB S1.k [.o 0] Z ⟨Z,U⟩ (fun Z0=>?_) fun Z0=>?_
 ·exact lT Z U Z ⟨⟨_,Z,fun _=>trivial⟩,S1.fin⟩
 refine lB S1.k [.o 0] Z ⟨Z,U⟩ (fun a1=>?_) fun a1=>?_
 ·exact lT Z U Z ⟨⟨_,Z,fun _=>trivial⟩,S1.fin⟩
 refine lC0 Z U (wL (fun μk D ε w=>D=[]∧∃k:Nat,∃n:Int,(k+μk=(p.threads.length))∧(0≤n∧n≤24)∧St [] w0 w [(some g1,27,[.slice Ac nc cc,.slice Am nm cm,.slice Al nl cl,.slice At nt ct])]∧Sl ε [(1,.pointer (some ⟨g1,0,none⟩)),(3,.int .i64 n),(4,.int .i64 k)]) (μ:=(p.threads.length)) ⟨Z,0,0,by omega,by omega,S1,Z⟩ ?_);rintro μk D ε w ⟨rfl,k,n,hk,_,S,eZ⟩;refine wK eZ (wB S.k [.o 0] Z ⟨Z,U⟩ (fun b1=>?_) fun b1=>?_)
 ·obtain⟨th,U0,q1,_,_,z0,_,I0,F0,o0⟩:=RdS.get (p1) (k) (by omega);obtain⟨_,_,_,_,_,_,_,_,_,_,_,_,rfl,_⟩:=X0a.open_ o0;refine lO (S.k.a F0) [.o 0,.x U0 q1,.v 0] Z ⟨⟨Z,I0⟩,⟨z0,by omega⟩,Z,U⟩ (g0a S u0b Z Z ?_);intro g5 w5 S5 X5 G5;refine c0a (kk:=0) (vs:=[_,_,_,_,_,_,_]) S5 t0b Z Z Z Z Z Z Z ?_;intro u1 a0 R0;dsimp only[h0a,List.set] at a0;refine lB a0.k [.o 0] Z ⟨by omega,Z,U⟩ (fun c1=>?_) fun c1=>?_
  ·exact lT Z U Z ⟨⟨_,Z,fun _=>trivial⟩,a0.fin⟩
  refine lB a0.k [.o 0] Z ⟨Z,U⟩ (fun d1=>?_) fun d1=>?_
  ·exact lT Z U Z ⟨⟨_,Z,fun _=>trivial⟩,a0.fin⟩
  refine lB a0.k [.o 0] Z ⟨Z,U⟩ (fun f1=>?_) fun f1=>?_
  ·exact lT Z U Z ⟨⟨_,Z,fun _=>trivial⟩,a0.fin⟩
  refine lB a0.k [.o 0] Z ⟨Z,U⟩ (fun i1=>?_) fun i1=>?_
  ·exact lT Z U Z ⟨⟨_,Z,fun _=>trivial⟩,a0.fin⟩
  refine lO a0.k [.w 0] Z ⟨⟨Z,Z⟩,U⟩ (q0b a0 O0d Z Z (B0c th M _ _ (X0a.keep (a0.keep0 M) _ _ o0)) (fun y1 t1 r0 Q0=>?_) (fun t1 r0 Q0=>?_))
  ·refine lP0 Z ⟨by omega,U⟩ ⟨μk-1,by omega,Z,(k+1),(_),(by omega),(by omega),r0.tail,Z⟩
  exact lT Z U Z ⟨⟨_,Z,fun _=>trivial⟩,r0.fin⟩
 refine lC0 Z U (wL (fun μk D ε w=>D=[]∧∃k:Nat,(k+μk=(p.modules.length))∧St [] w0 w [(some g1,27,[.slice Ac nc cc,.slice Am nm cm,.slice Al nl cl,.slice At nt ct])]∧Sl ε [(1,.pointer (some ⟨g1,0,none⟩)),(6,.int .i64 k)]) (μ:=(p.modules.length)) ⟨Z,0,by omega,S,Z⟩ ?_);rintro μk D ε w ⟨rfl,k,hk,S,eZ⟩;refine wK eZ (wB S.k [.o 0] Z ⟨Z,U⟩ (fun j1=>?_) fun j1=>?_)
 ·obtain⟨mo,V0,r1,_,q0,A0,_,_,G0,J0⟩:=RdS.get (D0) (k) (by omega);obtain⟨_,_,_,_,_,_,_,_,_,rfl,E0,_⟩:=S0a.open_ J0;refine lO (S.k.a G0) [.o 0,.x V0 r1,.f 0 2] Z ⟨Z,⟨A0,by omega⟩,Z,U⟩ (u0a S w9a Z Z (b5a mo.rely M _ _ _ (RdE.keep (S.keep0 M) _ _ E0)) (fun m1 v1 c0 S0=>?_) (fun m1 v1 c0 S0=>?_))
  ·obtain⟨_,W0,s1,_,L0,B0,_,_,H0,K0⟩:=RdS.get (D0) (k) (by omega);obtain rfl:=Option.some.inj (q0.symm.trans L0);obtain⟨_,_,_,_,_,_,_,_,_,rfl,_,C0,_⟩:=S0a.open_ K0;refine lO (c0.k.a H0) [.o 0,.x W0 s1,.f 0 6] Z ⟨Z,⟨B0,by omega⟩,Z,U⟩ (u0a c0 w9a Z Z (b5a mo.guar M _ _ _ (RdE.keep (c0.keep0 M) _ _ C0)) (fun n1 x1 d0 T0=>?_) (fun n1 x1 d0 T0=>?_))
   ·obtain⟨_,t0,N0,_,p0,e0,_,_,i0,m0⟩:=RdS.get (D0) (k) (by omega);obtain rfl:=Option.some.inj (q0.symm.trans p0);obtain⟨_,_,_,_,_,_,_,_,_,rfl,_⟩:=S0a.open_ m0;refine lB (d0.k.a i0) [.o 0,.x t0 N0,.f 0 10] Z ⟨Z,⟨e0,by omega⟩,Z,U⟩ (fun v0=>?_) fun v0=>?_
    ·exact lT Z U Z ⟨⟨_,Z,fun _=>trivial⟩,d0.fin⟩
    refine lP0 Z ⟨by omega,U⟩ ⟨μk-1,by omega,Z,(k+1),(by omega),d0,Z⟩
   exact lT Z U Z ⟨⟨_,Z,fun _=>trivial⟩,d0.fin⟩
  exact lT Z U Z ⟨⟨_,Z,fun _=>trivial⟩,c0.fin⟩
 refine lC0 Z U (wL (fun μk D ε w=>D=[]∧∃k:Nat,(k+μk=(p.locks.length))∧St [] w0 w [(some g1,27,[.slice Ac nc cc,.slice Am nm cm,.slice Al nl cl,.slice At nt ct])]∧Sl ε [(1,.pointer (some ⟨g1,0,none⟩)),(7,.int .i64 k)]) (μ:=(p.locks.length)) ⟨Z,0,by omega,S,Z⟩ ?_);rintro μk D ε w ⟨rfl,k,hk,S,eZ⟩;refine wK eZ (wB S.k [.o 0] Z ⟨Z,U⟩ (fun x0=>?_) fun x0=>?_)
 ·obtain⟨lk,u0,O0,_,_,f0,_,_,j0,n0⟩:=RdS.get (o1) (k) (by omega);obtain⟨_,_,_,rfl,_,_,g0⟩:=N4a.open_ n0;refine lO (S.k.a j0) [.o 0,.x u0 O0,.f 0 1] Z ⟨Z,⟨f0,by omega⟩,Z,U⟩ (u0a S w9a Z Z (b5a lk.inv M _ _ _ (RdE.keep (S.keep0 M) _ _ g0)) (fun y0 P0 b0 s0=>?_) (fun y0 P0 b0 s0=>?_))
  ·refine lP0 Z ⟨by omega,U⟩ ⟨μk-1,by omega,Z,(k+1),(by omega),b0,Z⟩
  exact lT Z U Z ⟨⟨_,Z,fun _=>trivial⟩,b0.fin⟩
 exact lT Z U Z ⟨⟨_,Z,fun _=>trivial⟩,S.fin⟩
theorem K7c{a b:Int}(hb:0<b):∃k:Nat,a % b=k∧(k:Int)<b:=by
 have h0:=Int.emod_nonneg a (show b≠0 by omega);have h1:=Int.emod_lt_of_pos a hb;obtain⟨k,hk⟩:=Int.eq_ofNat_of_zero_le h0;exact⟨k,hk,by omega⟩
def bV(bs:List Bool):List Value:=bs.map Value.bool
theorem N1d(bs:List Bool)(i:Nat):(bV bs).set i (.bool true)=bV (bs.set i true):=by simp[bV,List.map_set]
theorem S0d(bs:List Bool):(bV bs).length=bs.length:=by simp[bV]
theorem K2d{w:World}{g t:Nat}{bs:List Bool}{M:List Nat}(hb:m0a w (g,t,bV bs))(hg:g∉M)(hl:bs.length≤1000):RdB M w (.slice (some ⟨g,0,none⟩) bs.length bs.length) bs:=by
 refine⟨_,_,_,Z,Z,Nat.le_refl _,by unfold maxLen;omega,by omega,fun _=>⟨g,0,Z,hg,fun i x hi=>⟨[.bool x],Z,fun j v hj=>?_,Z⟩⟩⟩;cases j with
 | succ j=>simp at hj
 | zero =>
   simp at hj;subst hj;exact hb.cell (by unfold bV;rw[List.getElem?_map,show 0+i*1+0=i by omega,hi];rfl)
def Y2b(p:n0a)(t k j:Nat)(bs:List Bool):Prop:=bs.length=p.modules.length∧∀m:Nat,m<p.modules.length→(bs.getD m false=true↔Q7a p t k j (m:Int))
theorem Y2b.zero{p:n0a}{t:Nat}:Y2b p t 0 0 (List.replicate p.modules.length false):=by
 refine⟨by simp,fun m hm=>?_⟩;rw[List.getD_eq_getElem?_getD,List.getElem?_replicate,if_pos hm];exact⟨fun h=>(by cases h),fun h=>absurd h Q7a.zero⟩
theorem Y2b.step{p:n0a}{t k j:Nat}{bs:List Bool}{th:j1a}{s:B2a}(h:Y2b p t k j bs)(ht:p.threads[k]?=some th)(hs:th.steps[j]?=some s)(hm:0≤s.module_∧s.module_<p.modules.length):Y2b p t k (j+1) (bs.set s.module_.toNat true):=by
 refine⟨by rw[List.length_set];exact h.1,fun m a0=>?_⟩;rw[Q7a.step ht hs,←h.2 m a0];by_cases he:s.module_.toNat=m
 ·rw[List.getD_eq_getElem?_getD,he,List.getElem?_set_self (by rw[h.1];exact a0)];exact⟨fun _=>.inr (by omega),fun _=>rfl⟩
 ·rw[List.getD_eq_getElem?_getD,List.getElem?_set_ne he,←List.getD_eq_getElem?_getD];exact⟨.inl,fun hh=>hh.elim id fun hh=>absurd hh (by omega)⟩
theorem Y2b.next{p:n0a}{t k:Nat}{bs:List Bool}{th:j1a}(h:Y2b p t k th.steps.length bs)(ht:p.threads[k]?=some th)(hk:k≠t):Y2b p t (k+1) 0 bs :=
 ⟨h.1,fun m hm=>(h.2 m hm).trans (Q7a.next ht hk).symm⟩
theorem Y2b.skip{p:n0a}{t k:Nat}{bs:List Bool}(h:Y2b p t k 0 bs)(hk:k=t):Y2b p t (k+1) 0 bs :=
 ⟨h.1,fun m hm=>(h.2 m hm).trans (Q7a.skip hk).symm⟩
theorem Y2b.oth{p:n0a}{t:Nat}{bs:List Bool}(hp:q1a p)(h:Y2b p t p.threads.length 0 bs):w1a p t=J3a bs:=by
 unfold w1a J3a I1a;rw[h.1]
 congr 1
 apply List.filter_congr;intro m hm;rw[Bool.eq_iff_iff,h.2 m (List.mem_range.1 hm),←q6a hp];unfold w1a;simp only[List.mem_map,List.mem_filter,List.mem_range];constructor
 ·intro hh;exact⟨m,⟨List.mem_range.1 hm,hh⟩,Z⟩
 ·rintro⟨a,⟨_,ha⟩,he⟩;have:a=m:=by exact Int.ofNat_inj.1 he
  subst this;exact ha
theorem E0b(p:n0a)(t:Nat)(M:List Nat)(w0:World)(cs:List Value)(hI:InP p M w0 cs)(ht:t<1000:=by omega):
 C0a prog 42 #[.agg cs.toArray,.int .i64 t,.bool false] w0 fun v w'=>(∃bs,Y2b p t p.threads.length 0 bs∧∀M,(∀g∈M,g<w0.heap.size)→RdB M w' v bs)∧Below w0.heap.size w0 w':=by
 obtain⟨Ac,nc,cc,Am,nm,cm,Al,nl,cl,At,nt,ct,rfl,_,_,_,x0,_,z0,_⟩:=hI.rd.open_;have hM:=hI.lt;have hp:=hI.ok;have n2:=hp.nthreads;have n3:=hp.nmodules;have S:=St.refl w0;refine a0a func42 Z ntmps42 Z ?_;refine wO0 Z U (q0a S Z ?_);intro g3 w3 S3 X3 G3;refine lO S3.k [.o 0] Z ⟨Z,U⟩ (H0b (n:=nm) (c:=nm) S3 A8a Z Z Z Z ?_);intro e0 Q0 C0 O0 N0;have u0:List.replicate nm (Value.bool false)=bV (List.replicate p.modules.length false):=by rw[bV,List.map_replicate,←z0]
 have c0:=C0;rw[u0] at c0;refine lC0 Z U (wL (fun μk D ε w=>D=[]∧∃k:Nat,∃bs:List Bool,(k+μk=(p.threads.length))∧(Y2b p t k 0 bs)∧St [] w0 w [(some e0,4,bV bs),(some g3,27,[.slice Ac nc cc,.slice Am nm cm,.slice Al nl cl,.slice At nt ct])]∧Sl ε [(1,.int .i64 t),(2,.bool false),(3,.pointer (some ⟨g3,0,none⟩)),(7,.slice (some ⟨e0,0,none⟩) nm nm),(8,.int .i64 k)]) (μ:=(p.threads.length)) ⟨Z,0,List.replicate p.modules.length false,by omega,Y2b.zero,c0,Z⟩ ?_);rintro μk D ε w ⟨rfl,k,bs,_,hS,S,eZ⟩;refine wK eZ (wB S.k [.o 1] Z ⟨Z,U⟩ (fun G0=>?_) fun G0=>?_)
 ·obtain⟨th,a0⟩:∃th,p.threads[k]?=some th:=⟨p.threads[k]'(by omega),List.getElem?_eq_getElem _⟩;have P0:=(hp.thread a0).nsteps;refine lC0 Z U (wL (fun μ D ε w=>D=[]∧∃j:Nat,∃bs:List Bool,(Y2b p t k j bs)∧(j+μ=1000)∧(j≤th.steps.length)∧(k=t→j=0)∧St [] w0 w [(some e0,4,bV bs),(some g3,27,[.slice Ac nc cc,.slice Am nm cm,.slice Al nl cl,.slice At nt ct])]∧Sl ε [(1,.int .i64 t),(2,.bool false),(3,.pointer (some ⟨g3,0,none⟩)),(7,.slice (some ⟨e0,0,none⟩) nm nm),(8,.int .i64 k),(9,.int .i64 j)]) (μ:=1000) ⟨Z,0,bs,hS,Z,Nat.zero_le _,(fun _=>rfl),S,Z⟩ ?_);rintro μ D ε w ⟨rfl,j,bs,hS,_,_,y0,S,eZ⟩;refine wK eZ ?_;obtain⟨_,D0,J0,_,s0,f0,_,_,j0,p0⟩:=RdS.get (x0) (k) (by omega);obtain rfl:=Option.some.inj (a0.symm.trans s0);obtain⟨_,_,_,_,_,_,_,_,_,_,_,_,rfl,_⟩:=X0a.open_ p0;refine wB (S.k.a j0) [.o 1,.x D0 J0,.f 0 4] Z ⟨Z,⟨f0,by omega⟩,Z,U⟩ (fun H0=>?_) fun H0=>?_
  ·refine lB0 Z U (fun I0=>?_) fun I0=>?_
   ·refine lP0 Z ⟨by omega,U⟩ ⟨μk-1,by omega,Z,(k+1),(_),(by omega),?_,S,Z⟩;by_cases h:k=t
    ·obtain rfl:j=0:=y0 h;exact hS.skip h
    ·obtain rfl:j=th.steps.length:=by omega
     exact hS.next a0 h
   obtain⟨_,E0,K0,_,t0,g0,_,_,m0,q0⟩:=RdS.get (x0) (k) (by omega);obtain rfl:=Option.some.inj (a0.symm.trans t0);obtain⟨_,_,_,_,_,_,_,_,_,_,_,_,rfl,_,_,_,d0,_⟩:=X0a.open_ q0;obtain⟨s,F0,L0,_,A0,i0,_,_,n0,r0⟩:=RdS.get (d0) (j) (by omega);obtain⟨_,_,_,_,_,_,rfl,⟨_,_⟩,_⟩:=Y1a.open_ r0;have o0:0≤s.module_∧s.module_<p.modules.length:=((hp.thread a0).steps s (d0a A0)).mod;refine lO ((S.k.a n0).a m0) [.o 1,.x E0 K0,.f 0 4,.x F0 L0,.f 1 10,.i] Z ⟨by omega,Z,⟨i0,by omega⟩,Z,⟨g0,by omega⟩,Z,U⟩ ?_;refine h1a (hy:=Z) (kk:=0) (v:=.bool true) S r2c Z Z Z (by rw[S0d,hS.1];omega) ?_;intro B0 b0 v0;rw[show 0+s.module_.toNat*1=s.module_.toNat by omega,N1d] at b0;dsimp only[List.set] at b0;refine lP0 Z ⟨by omega,U⟩ ⟨μ-1,by omega,Z,(j+1),(_),(hS.step a0 A0 o0),(by omega),((by omega)),((fun h=>by omega)),b0,Z⟩
  refine lP0 Z ⟨by omega,U⟩ ⟨μk-1,by omega,Z,(k+1),(_),(by omega),?_,S,Z⟩;by_cases h:k=t
  ·obtain rfl:j=0:=y0 h;exact hS.skip h
  ·obtain rfl:j=th.steps.length:=by omega
   exact hS.next a0 h
 refine lR0 Z U (s0a Z ?_);have hl:=hS.1;exact⟨⟨bs,(show k=p.threads.length by omega)▸hS,fun M hM=>by
  have:=K2d (M:=M) (S.blk 0 Z) (fun hm=>by have h1:=hM _ hm;have h2:=S.new 0 Z;simp at h2;omega) (by omega);rw[hl,←z0] at this;exact this⟩,S.fin⟩
theorem u5b{p:n0a}{t:Int}{f:List Int}{k:Nat}{c:d1a}(h:p.cells[k]?=some c):P8b f (K4b p t (k+1))=if c.thread=t∧(k:Int)∉f then P8b f (K4b p t k)++[(k:Int)] else P8b f (K4b p t k):=by
 rw[v5a h];by_cases h1:c.thread=t
 ·rw[if_pos h1];unfold P8b;rw[List.filter_append];by_cases h2:(k:Int)∈f<;>simp[h1,h2]
 ·rw[if_neg h1,if_neg (fun h=>h1 h.1)]
theorem k2c(p:n0a)(m:Nat)(md:j2a)(a0:p.modules[m]?=some md)(M:List Nat)(w0:World)(cs:List Value)(hI:InP p M w0 cs):
 C0a prog 17 #[.agg cs.toArray,.int .i64 m] w0 fun v w'=>(∃cs:List Value,v=.agg cs.toArray∧RdE M w' (T2a p m) cs)∧Below w0.heap.size w0 w':=by
 obtain⟨Ac,nc,cc,Am,nm,cm,Al,nl,cl,At,nt,ct,rfl,hC,H0,_⟩:=hI.rd.open_;have hM:=hI.lt;have hp:=hI.ok;have n1:=hp.ncells;have n3:=hp.nmodules;have r1:=x9a a0;have s1:=hp.modules md (d0a a0);have y0:(U1b p md).length≤100000:=by
  have:=d7a md.frame (ofL p (-1));have:=P3a p (-1) p.cells.length;unfold U1b ofL at *;simp;omega
 have S:=St.refl w0;refine a0a func17 Z ntmps17 Z ?_;refine wO0 Z U (q0a S Z ?_);intro g2 w2 S2 X2 G2;refine g0a S2 P1a Z Z ?_;intro g4 w4 S4 X4 G4;refine lO S4.k [.w 1] Z ⟨⟨Z,Z⟩,U⟩ (f0a S4 T1c Z Z (f0b p M _ _ (hI.keep (S4.keep0 M))) ?_);intro w8 S8 X8;refine lB0 Z U (fun V0=>by exfalso;omega) fun V0=>?_;refine lB S8.k [.o 1] Z ⟨Z,U⟩ (fun W0=>by exfalso;omega) fun W0=>?_;obtain⟨_,Q0,a1,_,C0,o0,_,_,u0,z0⟩:=RdS.get (H0) (m) (by omega);obtain rfl:=Option.some.inj (a0.symm.trans C0);obtain⟨_,_,_,_,_,_,_,_,_,rfl,_,s0,_⟩:=S0a.open_ z0;refine lO (S8.k.a u0) [.o 1,.x Q0 a1,.f 0 6] Z ⟨Z,⟨o0,by omega⟩,Z,U⟩ ?_;have d1:=RdE.keep (S8.keep0 _) _ _ (RdE.more (G3a S8 (k:=0) Z) _ _ s0);refine k0a S8 N0a (vs:=[.agg _]) (cs:=[_,_,_,_]) Z Z Z Z Z Z ?_;intro U0 w1 J0 O0 I0;refine A0a Z ?_;have e0:=U8a (d1.addNew O0 I0);refine lC0 Z U (wL (fun μk D ε w=>D=[]∧∃k:Nat,∃G:Option Nat,∃cs2:List Value,∃v:Value,(k+μk=(p.cells.length))∧(k1b (g4::M) w G cs2 v (md.guar::(P8b md.frame (K4b p (-1) k)).map (I3a p)))∧St [] w0 w [(G,37,cs2),(some g4,37,[.int .i64 0,.int .i64 0,.int .i64 0,.slice none 0 0]),(some g2,27,[.slice Ac nc cc,.slice Am nm cm,.slice Al nl cl,.slice At nt ct])]∧Sl ε [(1,.int .i64 m),(2,.pointer (some ⟨g2,0,none⟩)),(4,.pointer (some ⟨g4,0,none⟩)),(5,v),(6,.int .i64 k)]) (μ:=(p.cells.length)) ⟨Z,0,some U0,_,_,by omega,e0,J0,Z⟩ ?_);rintro μk D ε w ⟨rfl,k,G,cs2,v,_,c0,S,eZ⟩;refine wK eZ ?_;have KQ:=v0a.refl (G.toList++g4::M) w;refine wB S.k [.o 2] Z ⟨Z,U⟩ (fun X0=>?_) fun X0=>?_
 ·obtain⟨y,R0,b1,_,E0,p0,_,_,v0,A0⟩:=RdS.get (hC) (k) (by omega);obtain⟨rfl,_⟩:=s2a.open_ A0;refine lB (S.k.a v0) [.o 2,.x R0 b1,.f 0 3] Z ⟨Z,⟨p0,by omega⟩,Z,U⟩ (fun Y0=>?_) fun Y0=>?_
  ·obtain⟨_,S0,c1,_,D0,q0,_,_,x0,B0⟩:=RdS.get (H0) (m) (by omega);obtain rfl:=Option.some.inj (a0.symm.trans D0);obtain⟨_,_,_,_,_,_,_,_,_,rfl,_,_,r0,_⟩:=S0a.open_ B0;refine lO (S.k.a x0) [.o 2,.x S0 c1,.f 0 10] Z ⟨Z,⟨q0,by omega⟩,Z,U⟩ (u0a S d3b Z Z (f7a M _ _ md.frame k (r0.keep (S.keep0 M))) (fun Z0 f1 b0 m0=>?_) (fun Z0 f1 b0 m0=>?_))
   ·replace KQ:=KQ.trans (m0.of_nil);refine lP0 Z ⟨by omega,U⟩ ⟨μk-1,by omega,Z,(k+1),(_),(_),(_),(by omega),?_,b0,Z⟩;rw[u5b E0];have h9:(k:Int)∈md.frame:=of_decide_eq_true (by assumption);rw[if_neg (fun h=>h.2 h9)];exact c0.keep KQ
   replace KQ:=KQ.trans (m0.of_nil);refine lOn 6 b0.k [] Z U (I0a Z ?_);refine lO b0.k [.w 2] Z ⟨⟨Z,Z⟩,U⟩ (j0a b0 O4c Z Z (k6a p k (G.toList++g4::M) _ _ ⟨(hI.rd.more (fun x hx=>j4a b0 x (Z2b 0 Z (b3b 1 Z) x hx))).keep (b0.keep0 _),hp,(hI.msk.more (fun x hx=>j4a b0 x (Z2b 0 Z (b3b 1 Z) x hx))).keep (b0.keep0 _),fun x hx=>I7a b0 hM x (Z2b 0 Z (b3b 1 Z) x hx)⟩) ?_);rintro t1 x1 ⟨_,rfl,i0⟩ K0 P0;replace KQ:=KQ.trans (P0.of_nil);obtain⟨_,_,_,rfl,-⟩:=i0.open_;refine k0a K0 N0a (vs:=[.agg _]) (cs:=[_,_,_,_]) Z Z Z Z Z Z ?_;intro q1 y1 F0 G0 j1;replace i0:=RdE.keep (G0.of_nil) _ _ i0;replace KQ:=KQ.trans (G0.of_nil);have g0:=c0.keep KQ;refine v1a h3a (k:=1) (M2:=g4::M) (e1:=I3a p k) F0 N0a Z g0 Z Z (F0.cells 0 Z) i0 (by have:=d7a md.frame (K4b p (-1) k);have:=P3a p (-1) k;simp;omega) Z ?_;intro u1 m1 T0 z1 L0 f0 o1 i1;refine A0a Z ?_;refine lP0 Z ⟨by omega,U⟩ ⟨μk-1,by omega,Z,(k+1),(_),(_),(_),(by omega),?_,L0.tail,Z⟩;rw[u5b E0];have h9:y.thread=-1∧(k:Int)∉md.frame:=⟨by omega,of_decide_eq_false (by assumption)⟩;rw[if_pos h9,List.map_append];exact f0
  refine lP0 Z ⟨by omega,U⟩ ⟨μk-1,by omega,Z,(k+1),(_),(_),(_),(by omega),?_,S,Z⟩;rw[u5b E0];have h9:¬(y.thread=-1∧(k:Int)∉md.frame):=fun h=>by have:=h.1;omega
  rw[if_neg h9];exact c0.keep KQ
 refine lOn 7 S.k [] Z U (I0a Z ?_);have t0:RdL (g4::M) w v (U1b p md):=by
  have hr:=c0;rw[show k=p.cells.length by omega] at hr;exact hr.rdL S (k:=0) Z (fun g hg hh=>by
   subst hg;rcases List.mem_cons.1 hh with hh|hh
   ·exact S.ne 0 1 Z Z (by omega) hh
   ·exact x5a S (k:=0) Z hM hh) (by have:=d7a md.frame (ofL p (-1));have:=P3a p (-1) p.cells.length;unfold ofL at *;simp;omega)
 refine j0a S b5c Z Z (c2c (U1b p md) y0 (g4::M) _ _ t0 (v7a S 1 Z hM)) ?_;rintro v1 A1 ⟨_,rfl,j0⟩ N0 p1;obtain⟨_,_,_,rfl,-⟩:=j0.open_;refine c0a (kk:=1) (vs:=[_,_,_,_]) N0 g1a Z Z Z Z Z Z Z ?_;intro g1 d0 n0;dsimp only[h0a,List.set] at d0;replace j0:=RdE.keep (n0.mono (by simp)) _ _ j0;refine lR0 Z U (w0a Z G0a Z (d0.cells 1 Z) Z ⟨⟨_,Z,?_⟩,d0.fin⟩);unfold T2a Q8b;rw[show((m:Int).toNat)=m by simp,getD_some a0];exact RdE.less (fun x hx=>List.mem_cons_of_mem _ hx) _ _ j0
theorem A7a(bs:List Bool)(k:Nat)(f:Int→E):(I1a bs (k+1)).map f=(I1a bs k).map f++(if bs.getD k false=true then[f k] else[]):=by
 rw[Y2a,List.map_append]
 split<;>rfl
theorem v8c(p:n0a)(t:Nat)(ht:t<p.threads.length)(M:List Nat)(w0:World)(cs:List Value)(hI:InP p M w0 cs):
 C0a prog 19 #[.agg cs.toArray,.int .i64 t] w0 fun v w'=>(∃cs:List Value,v=.agg cs.toArray∧RdE M w' (onE p t) cs)∧Below w0.heap.size w0 w':=by
 obtain⟨Ac,nc,cc,Am,nm,cm,Al,nl,cl,At,nt,ct,rfl,hC,_⟩:=hI.rd.open_;have hM:=hI.lt;have hp:=hI.ok;have n1:=hp.ncells;have n2:=hp.nthreads;have n3:=hp.nmodules;have S:=(St.refl w0).nilEnt 37;refine a0a func19 Z ntmps19 Z ?_;refine wO0 Z U (q0a S Z ?_);intro g2 w2 S2 X2 G2;refine g0a S2 P1a Z Z ?_;intro g4 w4 S4 X4 G4;refine lO S4.k [.w 1] Z ⟨⟨Z,Z⟩,U⟩ (f0a S4 T1c Z Z (f0b p M _ _ (hI.keep (S4.keep0 M))) ?_);intro z1 j0 F1;refine lB0 Z U (fun r1=>by exfalso;omega) fun r1=>?_;refine lB j0.k [.o 1] Z ⟨Z,U⟩ (fun s1=>by exfalso;omega) fun s1=>?_;refine lOn 8 j0.k [] Z U (A0a Z ?_);refine lO j0.k [.w 1] Z ⟨⟨Z,Z⟩,U⟩ ?_;have f1:∀g∈g4::M,g<z1.heap.size:=v7a j0 0 Z hM;refine j0a j0 C4c Z Z (E0b p t M _ _ (hI.keep (j0.keep0 M))) ?_;rintro O1 I0 ⟨bs,hS,C0⟩ T0 G1;have B0:=C0 (g4::M) f1;obtain⟨Ab,nb,cb,rfl⟩:=B0.form;obtain⟨_,-,_⟩:=B0.len;have N1:=hS.1;have F0:=hS.oth hp;have KB:=v0a.refl (g4::M) I0;refine lC0 Z U (wL (fun μk D ε w=>D=[]∧∃k:Nat,∃G:Option Nat,∃cs2:List Value,∃v:Value,(k+μk=(bs.length))∧(k1b (g4::M) w G cs2 v ((I1a bs k).map (T2a p)))∧(∀g∈G.toList,I0.heap.size≤g∨g∈g4::M)∧(v0a (g4::M) I0 w)∧St [] w0 w [(some g4,37,[.int .i64 0,.int .i64 0,.int .i64 0,.slice none 0 0]),(some g2,27,[.slice Ac nc cc,.slice Am nm cm,.slice Al nl cl,.slice At nt ct]),(G,37,cs2)]∧Sl ε [(1,.int .i64 t),(2,.pointer (some ⟨g2,0,none⟩)),(4,.pointer (some ⟨g4,0,none⟩)),(5,v),(6,.slice Ab nb cb),(7,.int .i64 k)]) (μ:=(bs.length)) ⟨Z,0,none,[],.slice none 0 0,by omega,k1b.nil,by simp,KB,T0,Z⟩ ?_);rintro μk D ε w ⟨rfl,k,G,cs2,v,_,d0,E0,KB,S,eZ⟩;refine wK eZ ?_;have KQ:=v0a.refl (G.toList++g4::M) w;refine wB0 Z U (fun t1=>?_) fun t1=>?_
 ·obtain⟨z,i1,x1,m1,w1,x0,_,_,o0,c0⟩:=RdS.get ((B0.keep KB)) (k) (by omega);obtain c0:=c0;obtain rfl:m1=[Value.bool z]:=c0;have hz:bs.getD k false=z:=by rw[List.getD_eq_getElem?_getD,w1];rfl
  refine lO S.k [.x i1 x1] Z ⟨⟨x0,by omega⟩,U⟩ ?_;cases n0:z
  ·refine H0a a3a Z (by exact(o0 0 _ Z).trans (congrArg (fun b=>some (Value.bool b)) n0)) Z ?_;refine lP0 Z ⟨by omega,U⟩ ⟨μk-1,by omega,Z,(k+1),(_),(_),(_),(by omega),?_,?_,(KB),S,Z⟩
   ·rw[A7a,hz];rw[if_neg (by simp[*]),List.append_nil];exact d0.keep KQ
   ·exact E0
  refine H0a a3a Z (by exact(o0 0 _ Z).trans (congrArg (fun b=>some (Value.bool b)) n0)) Z ?_;refine lOn 4 S.k [] Z U (I0a Z ?_);refine lO S.k [.w 1] Z ⟨⟨Z,Z⟩,U⟩ ?_;obtain⟨md,H0⟩:∃md,p.modules[k]?=some md:=⟨p.modules[k]'(by omega),List.getElem?_eq_getElem _⟩;refine j0a S p0d Z Z (k2c p k md H0 (G.toList++g4::M) _ _ ⟨(hI.rd.more (fun x hx=>j4a S x (Z2b 2 Z (b3b 0 Z) x hx))).keep (S.keep0 _),hp,(hI.msk.more (fun x hx=>j4a S x (Z2b 2 Z (b3b 0 Z) x hx))).keep (S.keep0 _),fun x hx=>I7a S hM x (Z2b 2 Z (b3b 0 Z) x hx)⟩) ?_;rintro P1 V1 ⟨_,rfl,r0⟩ U0 L0;replace KB:=KB.trans (L0.of_nil);replace KQ:=KQ.trans (L0.of_nil);obtain⟨_,_,_,rfl,-⟩:=r0.open_;refine k0a U0 N0a (vs:=[.agg _]) (cs:=[_,_,_,_]) Z Z Z Z Z Z ?_;intro K1 W1 J0 u0 B1;replace r0:=RdE.keep (u0.of_nil) _ _ r0;replace KB:=KB.trans (u0.of_nil);replace KQ:=KQ.trans (u0.of_nil);have p0:=d0.keep KQ;refine v1a h3a (k:=3) (M2:=g4::M) (e1:=T2a p k) J0 N0a Z p0 Z Z (J0.cells 0 Z) r0 (by have:=Z1a bs k;simp;omega) Z ?_;intro Q1 C1 o1 X1 V0 e0 b1 R0;have g1:=KB.size;replace KB:=KB.freshL b1 E0;refine A0a Z ?_;refine lP0 Z ⟨by omega,U⟩ ⟨μk-1,by omega,Z,(k+1),(_),(_),(_),(by omega),?_,?_,(KB),V0.tail,Z⟩
  ·rw[A7a,hz];rw[if_pos (by assumption)];exact e0
  ·intro g hg;rcases R0 g hg with h|h;exact E0 g h;exact .inl (Nat.le_trans g1 h)
 refine lOn 7 S.k [] Z U (I0a Z ?_);have z0:RdL (g4::M) w v ((w1a p t).map (T2a p)):=by
  have hr:=d0;rw[show k=bs.length by omega,show I1a bs bs.length=w1a p t from F0.symm] at hr;exact hr.rdL S (k:=2) Z (fun g hg hh=>by
   subst hg;rcases List.mem_cons.1 hh with hh|hh
   ·exact S.ne 0 2 Z Z (by omega) hh.symm
   ·exact x5a S (k:=2) Z hM hh) (by have:=v6a p t;simp;omega)
 refine j0a S o1d Z Z (J1d ((w1a p t).map (T2a p)) (by have:=v6a p t;simp;omega) (g4::M) _ _ z0 (v7a S 0 Z hM)) ?_;rintro v45 Y1 ⟨_,rfl,P0⟩ W0 H1;obtain⟨_,_,_,rfl,-⟩:=P0.open_;refine k0a W0 N0a (vs:=[.agg _]) (cs:=[_,_,_,_]) Z Z Z Z Z Z ?_;intro q1 Z1 X0 c1 S0;refine A0a Z ?_;have f0:=U8a (P0.addNew c1 S0);refine lC0 Z U (wL (fun μj D ε w=>D=[]∧∃j:Nat,∃G2:Option Nat,∃v0:List Value,∃v2:Value,(j+μj=(p.cells.length))∧(k1b (g4::M) w G2 v0 v2 (g6a p t::(K4b p t j).map (I3a p)))∧St [] w0 w [(G2,37,v0),(some g4,37,[.int .i64 0,.int .i64 0,.int .i64 0,.slice none 0 0]),(some g2,27,[.slice Ac nc cc,.slice Am nm cm,.slice Al nl cl,.slice At nt ct]),(G,37,cs2)]∧Sl ε [(1,.int .i64 t),(2,.pointer (some ⟨g2,0,none⟩)),(4,.pointer (some ⟨g4,0,none⟩)),(8,v2),(9,.int .i64 j)]) (μ:=(p.cells.length)) ⟨Z,0,some q1,_,_,by omega,f0,X0,Z⟩ ?_);rintro μj D ε w ⟨rfl,j,G2,v0,v2,_,b0,S,eZ⟩;refine wK eZ ?_;have i0:=v0a.refl (G2.toList++g4::M) w;refine wB S.k [.o 2] Z ⟨Z,U⟩ (fun u1=>?_) fun u1=>?_
 ·obtain⟨y,j1,y1,_,O0,y0,_,_,D0,G0⟩:=RdS.get (hC) (j) (by omega);obtain⟨rfl,_⟩:=s2a.open_ G0;refine lB (S.k.a D0) [.o 2,.x j1 y1,.f 0 3] Z ⟨Z,⟨y0,by omega⟩,Z,U⟩ (fun v1=>?_) fun v1=>?_
  ·refine lOn 4 S.k [] Z U (I0a Z ?_);refine lO S.k [.w 2] Z ⟨⟨Z,Z⟩,U⟩ (j0a S O4c Z Z (k6a p j (G2.toList++g4::M) _ _ ⟨(hI.rd.more (fun x hx=>j4a S x (Z2b 0 Z (b3b 1 Z) x hx))).keep (S.keep0 _),hp,(hI.msk.more (fun x hx=>j4a S x (Z2b 0 Z (b3b 1 Z) x hx))).keep (S.keep0 _),fun x hx=>I7a S hM x (Z2b 0 Z (b3b 1 Z) x hx)⟩) ?_);rintro R1 a2 ⟨_,rfl,s0⟩ Y0 d1;replace i0:=i0.trans (d1.of_nil);obtain⟨_,_,_,rfl,-⟩:=s0.open_;refine k0a Y0 N0a (vs:=[.agg _]) (cs:=[_,_,_,_]) Z Z Z Z Z Z ?_;intro M1 b2 K0 N0 D1;replace s0:=RdE.keep (N0.of_nil) _ _ s0;replace i0:=i0.trans (N0.of_nil);have q0:=b0.keep i0;refine v1a h3a (k:=1) (M2:=g4::M) (e1:=I3a p j) K0 N0a Z q0 Z Z (K0.cells 0 Z) s0 (by have:=P3a p t j;simp;omega) Z ?_;intro T1 E1 p1 d2 Z0 g0 I1 A1;refine A0a Z ?_;refine lP0 Z ⟨by omega,U⟩ ⟨μj-1,by omega,Z,(j+1),(_),(_),(_),(by omega),?_,Z0.tail,Z⟩;rw[v5a O0];have h9:y.thread=t:=by omega
   rw[if_pos h9,List.map_append];exact g0
  refine lP0 Z ⟨by omega,U⟩ ⟨μj-1,by omega,Z,(j+1),(_),(_),(_),(by omega),?_,S,Z⟩;rw[v5a O0];have h9:¬(y.thread=t):=fun h=>by omega
  rw[if_neg h9];exact b0.keep i0
 refine lOn 7 S.k [] Z U (I0a Z ?_);have A0:RdL (g4::M) w v2 (g6a p t::(ofL p t).map (I3a p)):=by
  have hr:=b0;rw[show j=p.cells.length by omega] at hr;exact hr.rdL S (k:=0) Z (fun g hg hh=>by
   subst hg;rcases List.mem_cons.1 hh with hh|hh
   ·exact S.ne 0 1 Z Z (by omega) hh
   ·exact x5a S (k:=0) Z hM hh) (by have:=P3a p t p.cells.length;simp;omega)
 refine j0a S b5c Z Z (c2c (g6a p t::(ofL p t).map (I3a p)) (by have:=P3a p t p.cells.length;unfold ofL;simp;omega) (g4::M) _ _ A0 (v7a S 1 Z hM)) ?_;rintro U1 e2 ⟨_,rfl,t0⟩ a1 J1;obtain⟨_,_,_,rfl,-⟩:=t0.open_;refine c0a (kk:=1) (vs:=[_,_,_,_]) a1 g1a Z Z Z Z Z Z Z ?_;intro Q0 a0 m0;dsimp only[h0a,List.set] at a0;replace t0:=RdE.keep (m0.mono (by simp)) _ _ t0;exact lR0 Z U (w0a Z G0a Z (a0.cells 1 Z) Z ⟨⟨_,Z,RdE.less (fun x hx=>List.mem_cons_of_mem _ hx) _ _ t0⟩,a0.fin⟩)
theorem M6b(M:List Nat)(w0:World)(v:Value)(l:List Int)(hR:RdI M w0 v l)(hw:∀x∈l,1≤x∧x≤8)(hl:l.length≤32):C0a prog 38 #[v] w0 fun v w'=>v=.int .i64 (X1a l)∧Below w0.heap.size w0 w':=by
 obtain⟨A,n,c,rfl⟩:=hR.form;obtain⟨_,_⟩:=hR.len;have j0:=V2a hw;have S:=St.refl w0;refine a0a func38 Z ntmps38 Z ?_;refine wC0 Z U (wL (fun μk D ε w=>D=[]∧∃k:Nat,∃s:Int,(k+μk=(l.length))∧(s=X1a (l.take k))∧St [] w0 w []∧Sl ε [(0,.slice A n c),(3,.int .i64 s),(4,.int .i64 k)]) (μ:=(l.length)) ⟨Z,0,0,by omega,Z,S,Z⟩ ?_);rintro μk D ε w ⟨rfl,k,s,_,hs,S,eZ⟩;refine wK eZ (wB0 Z U (fun h8=>?_) fun h8=>?_)
 ·obtain⟨x,d0,i0,_,g0,a0,_,_,b0,c0⟩:=RdS.get (hR) (k) (by omega);obtain⟨rfl,_⟩:=id c0;have f0:=A4a g0;have m0:=i2a hw k;have e0:=i2a hw (k+1);refine lP (S.k.a b0) [.x d0 i0,.f 0 0] Z ⟨by omega,by omega,Z,⟨a0,by omega⟩,U⟩ ?_;refine⟨μk-1,by omega,Z,(k+1),(s+x),(by omega),(by rw[f0,hs]),S,Z⟩
 refine lR0 Z U (s0a Z ?_);exact⟨by rw[hs,List.take_of_length_le (by omega)],S.fin⟩
theorem n9a(M:List Nat)(w0:World)(v u:Value)(C W:List Int)(p0:Int)(hC:RdI M w0 v C)(hW:RdI M w0 u W)(h:v0b C W)(hs:X1a W≤p0:=by omega):C0a prog 90 #[v,u,.int .i64 p0] w0 fun v w'=>v=.int .i64 (X1a W)∧Below w0.heap.size w0 w':=by
 obtain⟨A,n,c,rfl⟩:=hC.form;obtain⟨_,_⟩:=hC.len;obtain⟨A',n',c',rfl⟩:=hW.form;obtain⟨_,_⟩:=hW.len;have z1:=h.len;have M1:=h.clen;have N1:=V2a h.wid;have S:=St.refl w0;refine a0a func90 Z ntmps90 Z ?_;refine wB0 Z U (fun q1=>by exfalso;omega) fun q1=>?_;refine lB0 Z U (fun r1=>by exfalso;omega) fun r1=>?_;refine lC0 Z U (wL (fun μk D ε w=>D=[]∧∃k:Nat,∃s:Int,(k+μk=(C.length))∧(s=X1a (W.take k))∧St [] w0 w []∧Sl ε [(0,.slice A n c),(1,.slice A' n' c'),(2,.int .i64 p0),(7,.int .i64 s),(8,.int .i64 k)]) (μ:=(C.length)) ⟨Z,0,0,by omega,Z,S,Z⟩ ?_);rintro μk D ε w ⟨rfl,k,s,_,R0,S,eZ⟩;refine wK eZ (wB0 Z U (fun s1=>?_) fun s1=>?_)
 ·refine lC0 Z U (x0a b0a [0,1,2,3,4,5,6,7,8,9,10,11,12,13,14,15,16,17,18,19,20,21,22,23,24,25,26,27,28,29,30,31,32,33,34,35,36,37,38,39,40,41] [] [] Z (Cl _ _ _ _) (Cl.start S) ?_);obtain⟨x,f1,D1,_,s0,z0,_,_,G0,N0⟩:=RdS.get (hC) (k) (by omega);obtain⟨rfl,_⟩:=id N0;have K1:=h.cell x (d0a s0);refine qB (S.q.a G0) [.x f1 D1,.f 0 0] Z ⟨Z,⟨z0,by omega⟩,U⟩ (fun t1=>by exfalso;omega) fun t1=>?_;obtain⟨_,g1,E1,_,U0,A0,_,_,H0,O0⟩:=RdS.get (hC) (k) (by omega);obtain rfl:=Option.some.inj (s0.symm.trans U0);obtain⟨rfl,_⟩:=id O0;refine qB (S.q.a H0) [.x g1 E1,.f 0 0] Z ⟨Z,⟨A0,by omega⟩,U⟩ (fun u1=>by exfalso;omega) fun u1=>?_;refine qB0 Z U (fun v1=>?_) fun v1=>?_
  ·obtain⟨_,i1,F1,_,V0,B0,_,_,I0,P0⟩:=RdS.get (hC) (k) (by omega);obtain rfl:=Option.some.inj (s0.symm.trans V0);obtain⟨rfl,_⟩:=id P0;obtain⟨_,j1,G1,_,W0,C0,_,_,r0,Q0⟩:=RdS.get (hC) (k-1) (by omega);obtain⟨rfl,_⟩:=id Q0;have p1:((k:Int)-1).toNat=k-1:=by omega
   rw[←p1] at r0;have C1:=s7a h.inc W0 s0;refine qB ((S.q.a r0).a I0) [.x i1 F1,.f 0 0,.x j1 G1,.f 1 0] Z ⟨Z,⟨C0,by omega⟩,by omega,Z,⟨B0,by omega⟩,U⟩ (fun w1=>by exfalso;omega) fun w1=>?_;obtain⟨y,t0,a1,m1,a0,b0,D0,J0,e0,i0⟩:=RdS.get (hW) (k) (by omega);obtain⟨rfl,X0⟩:=id i0;have x1:=h.wid y (d0a a0);refine qB (S.q.a e0) [.x t0 a1,.f 0 0] Z ⟨Z,⟨b0,by omega⟩,U⟩ (fun x0=>by exfalso;omega) fun x0=>?_;obtain⟨I1,u0,b1,n1,n0,c0,E0,K0,f0,j0⟩:=RdS.get (hW) (k) (by omega);obtain rfl:=Option.some.inj (a0.symm.trans n0);obtain⟨rfl,Y0⟩:=id j0;refine qB (S.q.a f0) [.x u0 b1,.f 0 0] Z ⟨Z,⟨c0,by omega⟩,U⟩ (fun y0=>by exfalso;omega) fun y0=>?_;refine qD Z U ?_;rintro H1 ⟨q0,d1⟩;obtain⟨J1,v0,c1,o1,o0,d0,F0,L0,g0,m0⟩:=RdS.get (hW) (k) (by omega);obtain rfl:=Option.some.inj (a0.symm.trans o0);obtain⟨rfl,Z0⟩:=id m0;have T0:=A4a a0;have A1:=i2a h.wid k;have S0:=i2a h.wid (k+1);refine lP (q0.k.a g0) [.x v0 c1,.f 0 0] Z ⟨by omega,by omega,Z,⟨d0,by omega⟩,U⟩ ?_;refine⟨μk-1,by omega,Z,(k+1),(s+y),(by omega),(by rw[T0,R0]),q0,Z⟩
  obtain⟨y,t0,a1,m1,a0,b0,D0,J0,e0,i0⟩:=RdS.get (hW) (k) (by omega);obtain⟨rfl,X0⟩:=id i0;have x1:=h.wid y (d0a a0);refine qB (S.q.a e0) [.x t0 a1,.f 0 0] Z ⟨Z,⟨b0,by omega⟩,U⟩ (fun x0=>by exfalso;omega) fun x0=>?_;obtain⟨I1,u0,b1,n1,n0,c0,E0,K0,f0,j0⟩:=RdS.get (hW) (k) (by omega);obtain rfl:=Option.some.inj (a0.symm.trans n0);obtain⟨rfl,Y0⟩:=id j0;refine qB (S.q.a f0) [.x u0 b1,.f 0 0] Z ⟨Z,⟨c0,by omega⟩,U⟩ (fun y0=>by exfalso;omega) fun y0=>?_;refine qD Z U ?_;rintro H1 ⟨q0,d1⟩;obtain⟨J1,v0,c1,o1,o0,d0,F0,L0,g0,m0⟩:=RdS.get (hW) (k) (by omega);obtain rfl:=Option.some.inj (a0.symm.trans o0);obtain⟨rfl,Z0⟩:=id m0;have T0:=A4a a0;have A1:=i2a h.wid k;have S0:=i2a h.wid (k+1);refine lP (q0.k.a g0) [.x v0 c1,.f 0 0] Z ⟨by omega,by omega,Z,⟨d0,by omega⟩,U⟩ ?_;refine⟨μk-1,by omega,Z,(k+1),(s+y),(by omega),(by rw[T0,R0]),q0,Z⟩
 have B1:s=X1a W:=by rw[R0,List.take_of_length_le (by omega)]
 refine lB0 Z U (fun y1=>by exfalso;omega) fun y1=>?_;refine lR0 Z U (s0a Z ?_);exact⟨by rw[B1],S.fin⟩
theorem o6b(M:List Nat)(w0:World)(v:Value)(l:List Int)(b:Int)(hR:RdI M w0 v l)(hr:N1a l)(hb:∀x∈l,0≤x∧x<b):C0a prog 134 #[v,.int .i64 b] w0 fun v w'=>v=.bool true∧Below w0.heap.size w0 w':=by
 obtain⟨A,n,c,rfl⟩:=hR.form;obtain⟨_,_⟩:=hR.len;have S:=St.refl w0;refine a0a func134 Z ntmps134 Z ?_;refine wC0 Z U (wL (fun μk D ε w=>D=[]∧∃k:Nat,(k+μk=(l.length))∧St [] w0 w []∧Sl ε [(0,.slice A n c),(1,.int .i64 b),(5,.int .i64 k)]) (μ:=(l.length)) ⟨Z,0,by omega,S,Z⟩ ?_);rintro μk D ε w ⟨rfl,k,_,S,eZ⟩;refine wK eZ (wB0 Z U (fun h9=>?_) fun h9=>?_)
 ·refine lC0 Z U (x0a b0a [0,1,2,3,4,5,6,7,8,9,10,11,12,13,14,15,16,17,18,19,20,21,22,23,24,25,26,27,28] [] [] Z (Cl _ _ _ _) (Cl.start S) ?_);obtain⟨x,v0,G0,_,b0,d0,_,_,i0,n0⟩:=RdS.get (hR) (k) (by omega);obtain⟨rfl,_⟩:=id n0;have L0:=hb x (d0a b0);refine qB (S.q.a i0) [.x v0 G0,.f 0 0] Z ⟨Z,⟨d0,by omega⟩,U⟩ (fun B0=>by exfalso;omega) fun B0=>?_;obtain⟨_,x0,H0,_,r0,e0,_,_,j0,o0⟩:=RdS.get (hR) (k) (by omega);obtain rfl:=Option.some.inj (b0.symm.trans r0);obtain⟨rfl,_⟩:=id o0;refine qB (S.q.a j0) [.x x0 H0,.f 0 0] Z ⟨Z,⟨e0,by omega⟩,U⟩ (fun C0=>by exfalso;omega) fun C0=>?_;refine qB0 Z U (fun D0=>?_) fun D0=>?_
  ·obtain⟨_,y0,I0,_,s0,f0,_,_,m0,p0⟩:=RdS.get (hR) (k) (by omega);obtain rfl:=Option.some.inj (b0.symm.trans s0);obtain⟨rfl,_⟩:=id p0;obtain⟨_,z0,J0,_,t0,g0,_,_,a0,q0⟩:=RdS.get (hR) (k-1) (by omega);obtain⟨rfl,_⟩:=id q0;have A0:((k:Int)-1).toNat=k-1:=by omega
   rw[←A0] at a0;have F0:=s7a hr t0 b0;refine qB ((S.q.a a0).a m0) [.x y0 I0,.f 0 0,.x z0 J0,.f 1 0] Z ⟨Z,⟨g0,by omega⟩,by omega,Z,⟨f0,by omega⟩,U⟩ (fun E0=>by exfalso;omega) fun E0=>?_;refine qD Z U ?_;rintro K0 ⟨c0,u0⟩;refine lP0 Z ⟨by omega,U⟩ ⟨μk-1,by omega,Z,(k+1),(by omega),c0,Z⟩
  refine qD Z U ?_;rintro K0 ⟨c0,u0⟩;refine lP0 Z ⟨by omega,U⟩ ⟨μk-1,by omega,Z,(k+1),(by omega),c0,Z⟩
 exact lT Z U Z ⟨Z,S.fin⟩
section
variable {P:Program} {r:Option Nat} {N:Nat} {D:List Deferred} {e:Env} {w:World} {ops:Array Oper} {rest:List Oper} {K:List Deferred→Env→World→Prop}
variable {d:Nat} {t:TypeId} {p:String} {af:Array Edge} {x y:Operand} {xt yt:TypeId} {a b:Int}
theorem Z3c(w:World)(h0:0≤a∧a<9223372036854775808)(h1:0<b):(Op.intDiv .quo .i64 a b).run P w=.ok (.int .i64 (a / b)) w:=by
 have hb:b≠0:=by omega
 have ht:a.tdiv b=a / b:=Int.tdiv_eq_ediv_of_nonneg h0.1;have hd:0≤a / b∧a / b≤a:=⟨Int.ediv_nonneg h0.1 (by omega),Int.ediv_le_self _ h0.1⟩;have hw:IntKind.i64.wrap (a / b)=a / b:=Y5a _ hd.1;simp[Op.intDiv,hb,ht,hw]
theorem Q2d(hx:ev e x=.int .i64 a)(hy:ev e y=.int .i64 b)(h0:0≤a∧a<9223372036854775808)(h1:0<b)(hd:Nat.ble (d+1) N=true)(h:WL P r N ops rest K D (upd e d (.int .i64 (a / b))) w):
 WL P r N ops (⟨some d,.binOp .quo xt x y yt,t,p,af,none⟩::rest) K D e w :=
 M0a Z Z hd (by simp[execOp,hx,hy,eqGuard,binOp,Z3c w h0 h1]) h
end
theorem z9a(n:Nat)(w:World)(hn:n≤20:=by omega):C0a prog 37 #[.int .i64 n] w fun v w'=>v=.int .i64 ((2 ^ n:Nat):Int)∧Below w.heap.size w w' :=
 (y6b n hn w).mono fun _ _ h=>⟨by rw[h.1,g9a],h.2⟩
theorem n0d{n:Nat}(h:n<2 ^ 32):IntKind.u32.wrap (n:Int)=(n:Int):=by
 have h3:((2 ^ 32:Nat):Int)=2 ^ 32:=by simp
 have h2:(n:Int) % (2 ^ 32)=n:=Int.emod_eq_of_lt (by omega) (by rw[←h3];exact Int.ofNat_lt.2 h);simp only[IntKind.wrap,IntKind.signed,IntKind.bits,Bool.false_and,Bool.false_eq_true,if_false];exact h2
theorem S0c(n:Nat):BitVec.ofInt 32 (n:Int)=BitVec.ofNat 32 n:=by
 apply BitVec.eq_of_toNat_eq;simp
theorem M2b{a b:Nat}(ha:a<2 ^ 32)(hb:b<2 ^ 32):Op.intBits .and .u32 (a:Int) (b:Int)=pure (.int .u32 ((a &&& b:Nat):Int)):=by
 have h:a &&& b<2 ^ 32:=Nat.and_lt_two_pow _ hb;show pure (Value.int .u32 (IntKind.u32.wrap ((BitVec.ofInt 32 (a:Int) &&& BitVec.ofInt 32 (b:Int)).toNat:Int)))=_;rw[S0c,S0c,BitVec.toNat_and,BitVec.toNat_ofNat,BitVec.toNat_ofNat,Nat.mod_eq_of_lt ha,Nat.mod_eq_of_lt hb,n0d h]
theorem I2d{a n:Nat}{kd:IntKind}(hn:n≤31):Op.shift .shr .u32 (a:Int) kd (n:Int)=pure (.int .u32 ((a >>> n:Nat):Int)):=by
 have h3:min n IntKind.u32.bits=n:=by simp[IntKind.bits];omega
 have h6:¬((n:Int)<0):=by omega
 have h7:(a:Int).fdiv (2 ^ n)=((a >>> n:Nat):Int):=by
  rw[Int.fdiv_eq_ediv_of_nonneg _ (Int.le_of_lt (Int.pow_pos (by omega))),Nat.shiftRight_eq_div_pow];simp
 simp only[Op.shift,h6,if_false,Int.toNat_natCast,h3,h7]
section
variable {P:Program} {r:Option Nat} {N:Nat} {D:List Deferred} {e:Env} {w:World} {ops:Array Oper} {rest:List Oper} {K:List Deferred→Env→World→Prop}
variable {d:Nat} {t:TypeId} {p:String} {af:Array Edge} {x y:Operand} {xt yt:TypeId} {n m:Nat} {kd:IntKind}
theorem a6c(hx:ev e x=.int .u32 (m:Int))(hy:ev e y=.int kd (n:Int))(hn:n≤31)(hd:Nat.ble (d+1) N=true)(h:WL P r N ops rest K D (upd e d (.int .u32 ((m >>> n:Nat):Int))) w):
 WL P r N ops (⟨some d,.binOp .shr xt x y yt,t,p,af,none⟩::rest) K D e w :=
 M0a Z Z hd (by simp only[execOp,hx,hy,eqGuard_shr,binOp_shr,I2d hn,Sem.run_bind,Sem.run_pure,Result.andThen_ok]) h
theorem x6c(hx:ev e x=.int .u32 (n:Int))(hy:ev e y=.int .u32 (m:Int))(hn:n<2 ^ 32)(hm:m<2 ^ 32)(hd:Nat.ble (d+1) N=true)(h:WL P r N ops rest K D (upd e d (.int .u32 ((n &&& m:Nat):Int))) w):
 WL P r N ops (⟨some d,.binOp .and xt x y yt,t,p,af,none⟩::rest) K D e w :=
 M0a Z Z hd (by simp[execOp,hx,hy,eqGuard_and,binOp_and,M2b hn hm]) h
end
def g8b(m k:Nat):List Int:=((List.range k).filter m.testBit).map Int.ofNat
theorem j3b(m k:Nat):g8b m (k+1)=if m.testBit k=true then g8b m k++[(k:Int)] else g8b m k:=by
 unfold g8b;rw[List.range_succ,List.filter_append,List.map_append];by_cases h:m.testBit k=true
 ·rw[if_pos h,List.filter_cons_of_pos h];rfl
 ·rw[if_neg h,List.filter_cons_of_neg (by simpa using h)];simp
theorem R2c{m k:Nat}{c:Int}:c∈g8b m k↔∃i:Nat,c=i∧i<k∧m.testBit i=true:=by
 unfold g8b;simp only[List.mem_map,List.mem_filter,List.mem_range];constructor
 ·rintro⟨i,⟨h1,h2⟩,rfl⟩;exact⟨i,Z,h1,h2⟩
 ·rintro⟨i,rfl,h1,h2⟩;exact⟨i,⟨h1,h2⟩,Z⟩
theorem o6c(m k:Nat):(g8b m k).Pairwise (·<·):=by
 unfold g8b;rw[List.pairwise_map];exact((List.pairwise_lt_range (n:=k)).sublist List.filter_sublist).imp fun h=>Int.ofNat_lt.2 h
theorem z1b(m k:Nat):(g8b m k).length≤k:=by
 unfold g8b;rw[List.length_map];have:=List.length_filter_le m.testBit (List.range k);simpa using this
theorem c3b(p:n0a)(M:List Nat)(w0:World)(cs:List Value)(hP:T0a M w0 p cs)(hM:∀g∈M,g<w0.heap.size)(hN:x0b p):
 C0a prog 20 #[.agg cs.toArray] w0 fun v w'=>(∃b,v=.bool b∧(b=true→q1a p))∧Below w0.heap.size w0 w':=by
 obtain⟨_,_,_,_,_,_,_,_,_,_,_,_,rfl,-⟩:=hP.open_;have S:=St.refl w0;refine a0a func20 Z ntmps20 Z ?_;refine wO0 Z U (q0a S Z ?_);intro g1 w1 S1 X1 G1;refine lO S1.k [.w 0] Z ⟨⟨Z,Z⟩,U⟩ (j0a S1 I4c Z Z (T7b p M _ _ (hP.keep (S1.keep0 M)) (fun g hg=>Nat.lt_of_lt_of_le (hM g hg) S1.size) hN) ?_);rintro v8 w8 ⟨_,_,_,rfl,hv⟩ S8 X8;refine lB0 Z U (fun a0=>?_) fun a0=>?_
 ·exact lT Z U Z ⟨⟨_,Z,fun _=>hv a0⟩,S8.fin⟩
 exact lT Z U Z ⟨⟨_,Z,fun h=>by cases h⟩,S8.fin⟩
theorem d2c(p:n0a)(M:List Nat)(w0:World)(cs:List Value)(hP:T0a M w0 p cs)(hM:∀g∈M,g<w0.heap.size)(hN:x0b p):
 C0a prog 25 #[.agg cs.toArray] w0 fun v w'=>(∃b,v=.bool b∧(b=true→q1a p))∧Below w0.heap.size w0 w':=by
 obtain⟨_,_,_,_,_,_,_,_,_,_,_,_,rfl,-⟩:=hP.open_;have S:=St.refl w0;refine a0a func25 Z ntmps25 Z ?_;refine wO0 Z U (q0a S Z ?_);intro g1 w1 S1 X1 G1;refine lO S1.k [.w 0] Z ⟨⟨Z,Z⟩,U⟩ (q0b S1 N0d Z Z (A3c p M _ _ (hP.keep (S1.keep0 M))) (fun h4 w4 S4 X4=>?_) (fun w4 S4 X4=>?_))
 ·refine lO S4.k [.w 0] Z ⟨⟨Z,Z⟩,U⟩ (q0b S4 T1c Z Z (c3b p M _ _ (hP.keep (S4.keep0 M)) (fun g hg=>Nat.lt_of_lt_of_le (hM g hg) S4.size) hN) (fun h7 w7 S7 X7=>?_) (fun w7 S7 X7=>?_))
  ·exact lT Z U Z ⟨⟨_,Z,fun _=>h7⟩,S7.fin⟩
  exact lT Z U Z ⟨⟨_,Z,fun h=>by cases h⟩,S7.fin⟩
 exact lT Z U Z ⟨⟨_,Z,fun h=>by cases h⟩,S4.fin⟩
theorem P2b(p:n0a)(a0:Nat)(p0:a0<2 ^ 32)(M:List Nat)(w0:World)(cs:List Value)(hP:T0a M w0 p cs)(hn:p.cells.length≤32):
 C0a prog 30 #[.agg cs.toArray,.int .u32 a0] w0 fun v w'=>m5a w0 w' v (g8b a0 p.cells.length)∧Below w0.heap.size w0 w':=by
 obtain⟨Ac,nc,cc,Am,nm,cm,Al,nl,cl,At,nt,ct,rfl,_⟩:=hP.open_;have S:=(St.refl w0).nilEnt 3;refine a0a func30 Z ntmps30 Z ?_;refine wO0 Z U (q0a S Z ?_);intro g2 w2 S2 X2 G2;refine lC0 Z U (wL (fun μk D ε w=>D=[]∧∃k:Nat,∃G:Option Nat,∃d0:List Value,∃v:Value,(k+μk=(p.cells.length))∧(S1a (fun _ _=>s2c) 1 [] w0 G d0 v (g8b a0 k))∧St [] w0 w [(some g2,27,[.slice Ac nc cc,.slice Am nm cm,.slice Al nl cl,.slice At nt ct]),(G,3,d0)]∧Sl ε [(1,.int .u32 a0),(2,.pointer (some ⟨g2,0,none⟩)),(5,v),(6,.int .i64 k)]) (μ:=(p.cells.length)) ⟨Z,0,none,[],.slice none 0 0,by omega,S1a.nil,S2,Z⟩ ?_);rintro μk D ε w ⟨rfl,k,G,d0,v,_,b0,S,eZ⟩;refine wK eZ (wB S.k [.o 0] Z ⟨Z,U⟩ (fun n0=>?_) fun n0=>?_)
 ·refine lB0 Z U (fun o0=>?_) fun o0=>?_
  ·refine lO0 Z U (g5b Tryz.underlying3 Tryz.underlying137 Z Z ?_);rw[z2c (by omega)];refine a6c Z Z (by omega) Z ?_;have g0:a0 >>> k<2 ^ 32:=by rw[Nat.shiftRight_eq_div_pow];exact Nat.lt_of_le_of_lt (Nat.div_le_self _ _) p0
   refine x6c (m:=1) Z Z g0 (by omega) Z ?_;refine u3c Z Z Z (fun e0=>?_) fun e0=>?_
   ·refine lOn 4 S.k [] Z U (I0a Z ?_);refine lO0 Z U (k0a S Q0a (vs:=[.int .i64 _]) (cs:=[_]) Z Z Z Z Z Z ?_);intro v0 y0 i0 t0 r0;refine v1a C5a (k:=2) (M2:=[]) (e1:=(k:Int)) i0 Q0a Z b0 Z Z (i0.cells 0 Z) ⟨Z,by unfold i64;omega⟩ (by have:=z1b a0 k;omega) Z ?_;intro x0 s0 m0 z0 j0 c0 u0 q0;refine A0a Z ?_;refine lP0 Z ⟨by omega,U⟩ ⟨μk-1,by omega,Z,(k+1),(_),(_),(_),(by omega),?_,j0.tail,Z⟩;rw[j3b];rw[if_pos ((v8a a0 k).1 e0)];exact c0
   refine lP0 Z ⟨by omega,U⟩ ⟨μk-1,by omega,Z,(k+1),(_),(_),(_),(by omega),?_,S,Z⟩;rw[j3b];rw[if_neg fun h=>e0 ((v8a a0 k).2 h)];exact b0
  refine lOn 8 S.k [] Z U (I0a Z ?_);refine A0a Z ?_;refine lR0 Z U (s0a Z ?_)
  first
   | (obtain rfl:k=p.cells.length:=by omega
      exact⟨fun M' f0=>S1a.rd C5a (M:=M') b0 S (k:=1) Z (fun g hg hh=>by subst hg;have z:=S.new 1 Z;have z2:=f0 g hh;simp at z;omega) (by have:=z1b a0 p.cells.length;omega),S.fin⟩)
 refine lOn 11 S.k [] Z U (I0a Z ?_);refine A0a Z ?_;refine lR0 Z U (s0a Z ?_)
 first
  | (obtain rfl:k=p.cells.length:=by omega
     exact⟨fun M' f0=>S1a.rd C5a (M:=M') b0 S (k:=1) Z (fun g hg hh=>by subst hg;have z:=S.new 1 Z;have z2:=f0 g hh;simp at z;omega) (by have:=z1b a0 p.cells.length;omega),S.fin⟩)
theorem e1b(C W s:List Int)(n:Nat)(M:List Nat)(w0:World)(v u i vb:Value)(hC:RdI M w0 v C)(hW:RdI M w0 u W)(h:v0b C W)(hn:n<2 ^ (X1a W).toNat)(hb:RdI M w0 vb s)(O0:s.length=32)(d1:∀x∈s,0≤x∧x<256)(hs:X1a W≤12:=by omega):C0a prog 44 #[.agg #[v,u,i],.int .i64 n,vb] w0 fun v w'=>m5a w0 w' v (stZ C W n s)∧Below w0.heap.size w0 w':=by
 obtain⟨A,nc,c,rfl⟩:=hC.form;obtain⟨_,-,_⟩:=hC.len;obtain⟨A',nw,c',rfl⟩:=hW.form;obtain⟨_,-,_⟩:=hW.len;obtain⟨_,_,_,rfl⟩:=hb.form;obtain⟨_,-,_⟩:=hb.len;have a1:=h.len;have w1:=V2a h.wid;obtain⟨c0,a0⟩:∃b:Nat,X1a W=(b:Int):=⟨(X1a W).toNat,by omega⟩;have x1:2 ^ c0≤4096:=Nat.pow_le_pow_right (n:=2) (j:=12) (by omega) (by omega);rw[a0,Int.toNat_natCast] at hn;have L0:=I1b n c0;rw[Nat.mod_eq_of_lt hn] at L0;have S:=St.refl w0;refine a0a func44 Z ntmps44 Z ?_;refine wO0 Z U (q0a S Z ?_);intro g3 w3 S3 X3 G3;refine lO0 Z U (x7a S3 Q0a Z ?_);intro U0 A1 J0 p1 o1;refine lO0 Z U ?_;refine N1c C5a (k:=0) (M2:=[]) J0 Q0a (by decide) Z (S1a.new (g:=U0)) Z Z ((hb.less (M':=[]) (by simp)).keep (J0.keep0 [])) (by simp;omega) Z ?_;intro z1 Gm q0 B1 f0 I0 q1 n1;rw[List.nil_append] at I0;have e0:=I0.toV;obtain⟨i0,G0,p0,rfl⟩:=e0.form;refine lO f0.k [.o 1,.o 1] Z ⟨Z,Z,U⟩ (f0a f0 b2c Z Z (n9a (hs:=hs) M _ _ _ C W 12 (hC.keep (f0.keep0 M)) (hW.keep (f0.keep0 M)) h) ?_);intro C1 j0 r1;refine lB0 Z U (fun V0=>by exfalso;omega) fun V0=>?_;refine lO j0.k [.o 1] Z ⟨Z,U⟩ ?_;refine f0a j0 h5c Z Z ((M6b M _ _ W (hW.keep (j0.keep0 M)) h.wid (by have:=h.clen;omega)).mono (fun v w' h=>⟨h.1.trans (by rw[a0]),h.2⟩)) ?_;intro D1 Q0 s1;refine f0a Q0 t4b Z Z (z9a c0 _) ?_;intro E1 K0 t1;refine lOn 1 K0.k [] Z ⟨by omega,U⟩ (t2d Z Z Z ?_);rw[L0];refine A0a (hv:=Z) (v:=.int .i64 _) Z ?_;refine lC0 Z U (wL (fun μk D ε w=>D=[]∧∃k:Nat,∃mi:Int,∃st:List Int,∃g0:List Value,(k+μk=(C.length))∧(h4a Gm 1 32 g0 (.slice i0 G0 p0) (st.map (Value.int .i64)))∧(st.length=32)∧(∃m:Nat,mi=(m:Int)∧m<4096∧stZ (C.drop k) (W.drop k) m st=stZ C W n s)∧St [] w0 w [(Gm,3,g0),(some g3,89,[.slice A nc c,.slice A' nw c',i])]∧Sl ε [(1,.int .i64 mi),(3,.pointer (some ⟨g3,0,none⟩)),(7,.slice i0 G0 p0),(8,.int .i64 k)]) (μ:=(C.length)) ⟨Z,0,(n:Int),s,q0,by omega,O0▸e0,O0,⟨n,Z,by omega,Z⟩,K0,Z⟩ ?_);rintro μk D ε w ⟨rfl,k,mi,st,g0,_,N0,D0,he,S,eZ⟩;refine wK eZ ?_;obtain⟨m,rfl,hm,he⟩:=he;refine wB S.k [.o 1] Z ⟨Z,U⟩ (fun W0=>?_) fun W0=>?_
 ·obtain⟨y,R0,g1,_,P0,r0,_,_,u0,A0⟩:=RdS.get (hW) (k) (by omega);obtain⟨rfl,_⟩:=id A0;have X0:=h.wid y (d0a P0);obtain⟨y,rfl⟩:=Int.eq_ofNat_of_zero_le (show 0≤y by omega);have y1:=Y9a X0;refine lO (S.k.a u0) [.o 1,.x R0 g1,.f 0 0] Z ⟨Z,⟨r0,by omega⟩,Z,U⟩ (f0a S t4b Z Z (z9a y _) ?_);intro F1 m0 u1;obtain⟨gm,pad,rfl,f1,rfl,b1⟩:=N0.pad (by omega);cases f1;obtain⟨x,S0,i1,_,F0,s0,_,_,v0,B0⟩:=RdS.get (hC) (k) (by omega);obtain⟨rfl,_⟩:=id B0;have v1:=h.cell x (d0a F0);have Z0:=I6b F0 P0 m st;have d0:(m:Int) % ((2 ^ y:Nat):Int)=((m % 2 ^ y:Nat):Int):=(Int.natCast_emod _ _).symm;have y0:(m:Int) / ((2 ^ y:Nat):Int)=((m / 2 ^ y:Nat):Int):=(Int.natCast_ediv _ _).symm;refine lB (m0.k.a v0) [.o 1,.x S0 i1,.f 0 0] Z ⟨Z,⟨s0,by omega⟩,Z,U⟩ (fun Y0=>?_) (fun Y0=>by exfalso;omega);refine lC0 Z U (x0a b0a [0,1,2,3,4,5,6,7,8,9] [] [10] Z (Cl _ _ _ _) (Cl.start m0) ?_);obtain⟨_,T0,j1,_,E0,t0,_,_,x0,C0⟩:=RdS.get (hC) (k) (by omega);obtain rfl:=Option.some.inj (F0.symm.trans E0);obtain⟨rfl,_⟩:=id C0;refine qO (m0.q.a x0) [.o 1,.x T0 j1,.f 0 0] Z ⟨Z,⟨t0,by omega⟩,Z,U⟩ (e2d Z Z (by omega) (by omega) Z ?_);refine D0a Q0a.slT Z (by rfl) Z Z ?_;refine qD Z U ?_;rintro m1 ⟨n0,_⟩;refine h1a (kk:=0) n0 F1d Z Z Z (by(simp;omega)) ?_;intro H0 b0 o0;refine lO0 Z U (Q2d Z Z (by omega) (by omega) Z ?_);refine lP0 Z ⟨by omega,U⟩ ⟨μk-1,by omega,Z,(k+1),(_),(st.set x.toNat ((m:Int) % ((2 ^ y:Nat):Int))),(_),(by omega),?_,?_,?_,b0,Z⟩
  ·have z:=h4a.ofPad (g:=gm) (l:=st.set x.toNat ((m % 2 ^ y:Nat):Int)) (pad:=pad) (by simpa using b1);rw[←d1c] at z;rw[d0];simpa[D0] using z
  ·simp[D0]
  ·rw[d0];exact⟨m / 2 ^ y,y0,Nat.lt_of_le_of_lt (Nat.div_le_self _ _) hm,by rw[←he,Z0];rfl⟩
 refine lR0 Z U (s0a Z ?_);have z0:st=stZ C W n s:=by rw[←he,show C.drop k=[] from List.drop_eq_nil_of_le (by omega)];rfl
 have c1:U3a 3 w0 w (.slice i0 G0 p0) (stZ C W n s):=⟨Gm,g0,by rw[←z0,D0];exact N0,fun g hg=>by subst hg;exact⟨by simpa using S.new 0 Z,S.blk 0 Z⟩⟩;exact⟨fun M hM=>c1.rd hM (fun x hx=>by have:=N9a C W n s h.wid d1 x hx;unfold i64;omega) S.fin (by rw[m8a];omega),S.fin⟩
section
variable {P:Program} {r:Option Nat} {N:Nat} {D:List Deferred} {e:Env} {w:World} {ops:Array Oper} {rest:List Oper} {K:List Deferred→Env→World→Prop} {d:Nat} {t:TypeId} {p:String} {af:Array Edge} {x y:Operand} {a b:Int} {kd:IntKind} {ts:Array TypeId}
theorem w1d(hx:ev e x=.int kd a)(hy:ev e y=.int kd b)(hd:Nat.ble (d+1) N=true)(h:WL P r N ops rest K D (upd e d (.int kd (min a b))) w):
 WL P r N ops (⟨some d,.call { callee:=.builtin .min,args:=#[x,y],argTypes:=ts },t,p,af,none⟩::rest) K D e w:=by
 have h1:(if b<a then b else a)=min a b:=by rw[Int.min_def];split<;>split<;>omega
 exact M0a Z Z hd (by simp[execOp,resolve,invoke,builtin,run_min_int2,hx,hy,h1]) h
end
theorem A5b(p:List d1a)(C:List Int)(M:List Nat)(w0:World)(vc vl:Value)(hP:L8b M w0 vc p)(hC:RdI M w0 vl C)(hr:N1a C)(hc:∀c∈C,0≤c∧c<p.length)(hp:p.length≤32)(hw:∀c∈p,1≤c.w∧c.w≤8):
 C0a prog 73 #[vc,vl] w0 fun v w'=>(∃u,v=.tuple #[u,.bool true]∧m5a w0 w' u (wdL p C))∧Below w0.heap.size w0 w':=by
 obtain⟨Ap,np,cp,rfl⟩:=hP.form;obtain⟨_,-,_⟩:=hP.len;obtain⟨A,n,c,rfl⟩:=hC.form;obtain⟨_,-,_⟩:=hC.len;have ho:=j6a hr hc hp hw;have S0:=ho.clen;have T0:=V2a ho.wid;have U0:(wdL p C).length=C.length:=ho.len;have C0:∀x∈wdL p C,i64 x:=fun x hx=>by have:=ho.wid x hx;unfold i64;omega
 have S:=St.refl w0;refine a0a func73 Z ntmps73 Z ?_;refine wO0 Z U (w1d Z Z Z ?_);rw[show min (np:Int) 32=np by omega];refine f0a S h7c Z Z (o6b M _ _ C np (hC.keep (S.keep0 M)) hr (fun x hx=>by have:=hc x hx;omega)) ?_;intro W0 r0 N0;refine lO0 Z U (x7a r0 Q0a Z ?_);intro p0 X0 s0 O0 J0;refine A0a Z ?_;refine lC0 Z U (wL (fun μk D ε w=>D=[]∧∃k:Nat,∃G:Option Nat,∃c0:List Value,∃v:Value,(k+μk=(C.length))∧(S1a (fun _ _=>s2c) 1 [] w0 G c0 v (wdL p (C.take k)))∧St [] w0 w [(G,3,c0)]∧Sl ε [(0,.slice Ap np cp),(1,.slice A n c),(6,v),(7,.int .i64 k)]) (μ:=(C.length)) ⟨Z,0,some p0,[],.slice (some ⟨p0,0,none⟩) 0 0,by omega,S1a.new,s0,Z⟩ ?_);rintro μk D ε w ⟨rfl,k,G,c0,v,_,a0,S,eZ⟩;refine wK eZ (wB0 Z U (fun A0=>?_) fun A0=>?_)
 ·refine lOn 8 S.k [] Z U (I0a Z ?_);obtain⟨x,x0,G0,_,q0,d0,_,_,f0,i0⟩:=RdS.get (hC) (k) (by omega);obtain⟨rfl,_⟩:=id i0;have E0:=hc x (d0a q0);obtain⟨_,y0,H0,_,F0,e0,_,_,g0,j0⟩:=RdS.get (hP) (x.toNat) (by omega);obtain⟨rfl,n0,_⟩:=s2a.open_ j0;have D0:=K4a (h0:=E0.1) F0;refine lO ((S.k.a g0).a f0) [.x x0 G0,.f 0 0,.x y0 H0,.f 1 1] Z ⟨Z,⟨e0,by omega⟩,Z,⟨d0,by omega⟩,U⟩ (k0a S Q0a (vs:=[.int .i64 _]) (cs:=[_]) Z Z Z Z Z Z ?_);intro R0 Y0 o0 P0 K0;refine v1a C5a (k:=1) (M2:=[]) (e1:=wAt p x) o0 Q0a Z a0 Z Z (o0.cells 0 Z) (by rw[D0];exact⟨Z,n0⟩) (by rw[List.length_map,List.length_take];omega) Z ?_;intro V0 L0 z0 Z0 t0 b0 Q0 I0;refine A0a Z ?_;refine lP0 Z ⟨by omega,U⟩ ?_;refine⟨μk-1,by omega,Z,(k+1),(_),(_),(_),(by omega),((by rw[E0a q0,wdL,List.map_append];exact b0)),t0.tail,Z⟩
 have a0:=(show C.take k=C by rw[List.take_of_length_le (by omega)])▸a0;have m0:m5a w0 w v (wdL p C):=fun M hM=>(S1a.newRow (k:=0) a0 S Z).rd hM C0 S.fin (by omega);obtain⟨_,_,_,rfl⟩:=m0.form;refine lOn 7 S.k [] Z U (I0a Z ?_);refine lOn 1 S.k [] Z U (I0a Z ?_);refine f0a S b2c Z Z (n9a [] _ _ _ C _ 256 ((hC.keep (S.keep0 M)).less (by simp)) (m0 [] (by simp)) ho) ?_;intro a1 u0 v0;refine lB0 Z U (fun B0=>?_) (fun B0=>by exfalso;omega);refine A0a Z ?_;exact lT2 Z U Z ⟨⟨_,Z,m0.keep v0⟩,u0.fin⟩
def moreW(p:n0a)(t:Nat)(l:List Int)(k:Nat):Int:=X1a (((List.range k).filter fun(c:Nat)=>!decide ((c:Int)∈l)&&(decide ((c:Int)∈(onE p t).sup 3)||decide ((c:Int)∈(onE p t).sup 2))).map fun(c:Nat)=>wAt p.cells (c:Int))
theorem O4a(p:n0a)(t:Nat)(l:List Int)(k:Nat):moreW p t l (k+1)=if(k:Int)∉l∧((k:Int)∈(onE p t).sup 3∨(k:Int)∈(onE p t).sup 2) then moreW p t l k+wAt p.cells k else moreW p t l k:=by
 unfold moreW;rw[List.range_succ,List.filter_append,List.map_append,W4a];by_cases h:(k:Int)∉l∧((k:Int)∈(onE p t).sup 3∨(k:Int)∈(onE p t).sup 2)
 ·rw[if_pos h,List.filter_cons_of_pos (by simpa using h)];simp[X1a]
 ·rw[if_neg h,List.filter_cons_of_neg (by simpa using h)];simp[X1a]
theorem a7a{p:n0a}(hp:q1a p)(t:Nat)(l:List Int):∀k,k≤p.cells.length→0≤moreW p t l k∧moreW p t l k≤8*k
 | 0,_=>by simp[moreW,X1a]
 | k+1,h=>by
   have ih:=a7a hp t l k (by omega);have hw:=A0c (p:=p.cells) (c:=(k:Int)) (by omega) fun c hc=>(hp.cells c hc).w;rw[O4a]
   split<;>omega
def A1c(p:n0a)(t:Nat)(l:List Int):Prop:=onE p t≠zE∧X1a (wdL p.cells l)+moreW p t l p.cells.length≤6
theorem I8b(p:n0a)(t:Nat)(ht:t<p.threads.length)(l:List Int)(hr:N1a l)(hlc:∀c∈l,0≤c∧c<p.cells.length)(M:List Nat)(w0:World)(cs:List Value)(vl:Value)(hI:InP p M w0 cs)(hL:RdI M w0 vl l):
 C0a prog 31 #[.agg cs.toArray,.int .i64 t,vl] w0 fun v w'=>(∃b,v=.bool b∧(b=true→A1c p t l))∧Below w0.heap.size w0 w':=by
 obtain⟨Ac,nc,cc,Am,nm,cm,Al,nl,cl,At,nt,ct,rfl,hC,_⟩:=hI.rd.open_;obtain⟨Ar,nr,cr,rfl⟩:=hL.form;obtain⟨_,-,_⟩:=hL.len;have hM:=hI.lt;have hp:=hI.ok;have q0:∀c∈p.cells,1≤c.w∧c.w≤8:=fun c hc=>(hp.cells c hc).w;have j0:=hp.ncells;have ho:=j6a hr hlc j0 q0;have v1:=ho.clen;have w1:=V2a (l:=wdL p.cells l) ho.wid;have x1:(wdL p.cells l).length=l.length:=by simp
 have S:=St.refl w0;refine a0a func31 Z ntmps31 Z ?_;refine wO0 Z U (q0a S Z ?_);intro g3 w3 S3 X3 G3;refine lB0 Z U (fun c1=>?_) fun c1=>?_
 ·exact lT Z U Z ⟨⟨_,Z,fun h=>by cases h⟩,S3.fin⟩
 refine lB S3.k [.o 0] Z ⟨Z,U⟩ (fun d1=>?_) fun d1=>?_
 ·exact lT Z U Z ⟨⟨_,Z,fun h=>by cases h⟩,S3.fin⟩
 refine lB0 Z U (fun f1=>?_) fun f1=>?_
 ·exact lT Z U Z ⟨⟨_,Z,fun h=>by cases h⟩,S3.fin⟩
 refine lO S3.k [.w 0] Z ⟨⟨Z,Z⟩,U⟩ (j0a S3 H9c Z Z (v8c p t ht M _ _ (hI.keep (S3.keep0 M))) ?_);rintro y1 o1 ⟨_,rfl,K0⟩ T0 u1;obtain⟨R0,j1,n1,rfl,_⟩:=K0.cells;have KE:=v0a.refl M o1;refine g0a T0 P1a Z Z ?_;intro g7 w7 S7 X7 G7;have r0:=Nat.le_trans KE.size G7;replace KE:=KE.trans (X7.of_nil);refine c0a (kk:=0) (vs:=[_,_,_,_]) S7 g1a Z Z Z Z Z Z Z ?_;intro p1 a0 u0;dsimp only[h0a,List.set] at a0;replace KE:=KE.fresh2 u0 (by exact .inl r0);refine lB a0.k [.o 0] Z ⟨Z,U⟩ (fun L0=>?_) fun L0=>?_
 ·exact lT Z U Z ⟨⟨_,Z,fun h=>by cases h⟩,a0.fin⟩
 refine lO a0.k [.w 0] Z ⟨⟨Z,Z⟩,U⟩ ?_;refine f0a a0 i3b Z Z (W1b (onE p t) M _ _ 61 (RdE.keep KE _ _ K0) (by unfold i64;omega)) ?_;intro B1 e0 W0;replace KE:=KE.trans (W0.of_nil);refine lB0 Z U (fun g1=>?_) fun g1=>?_
 ·exact lT Z U Z ⟨⟨_,Z,fun h=>by cases h⟩,e0.fin⟩
 refine lO e0.k [.o 1] Z ⟨Z,U⟩ (j0a e0 Q1d Z Z (A5b p.cells l M _ _ _ (hC.keep (e0.keep0 M)) (hL.keep (e0.keep0 M)) hr hlc j0 q0) ?_);rintro z1 P0 ⟨_,rfl,f0⟩ s0 X0;replace KE:=KE.trans (X0.of_nil);obtain⟨S0,m1,a1,rfl⟩:=f0.form;have KW:=v0a.refl [] P0;have D0:RdI [] P0 (.slice S0 m1 a1) (wdL p.cells l):=f0 [] (by simp);refine lO s0.k [.w 0] Z ⟨⟨Z,Z⟩,U⟩ (j0a s0 i0c Z Z (M5a (onE p t) M _ _ (RdE.keep KE _ _ K0) (fun g hg=>Nat.lt_of_lt_of_le (hM g hg) s0.size)) ?_);rintro A1 Q0 ⟨_,_,rfl,g0,i0⟩ U0 Y0;replace KW:=KW.trans Y0;obtain⟨A4,n4,c4,rfl⟩:=g0.form;obtain⟨A5,n5,c5,rfl⟩:=i0.form;have KS:=v0a.refl M Q0;refine lO0 Z U (f0a U0 h5c Z Z (M6b [] _ _ (wdL p.cells l) (D0.keep KW) ho.wid (by omega)) ?_);intro C1 V0 Z0;replace KS:=KS.trans (Z0.of_nil);refine lC0 Z U (wL (fun μk D ε w=>D=[]∧∃k:Nat,∃n:Int,(k+μk=(p.cells.length))∧(n=X1a (wdL p.cells l)+moreW p t l k)∧(v0a M Q0 w)∧St [] w0 w [(some g7,37,[.int .i64 (onE p t).op,.int .i64 (onE p t).w,.int .i64 (onE p t).n,.slice R0 j1 n1]),(some g3,27,[.slice Ac nc cc,.slice Am nm cm,.slice Al nl cl,.slice At nt ct])]∧Sl ε [(2,.slice Ar nr cr),(3,.pointer (some ⟨g3,0,none⟩)),(9,.bool true),(10,.slice A4 n4 c4),(11,.slice A5 n5 c5),(12,.int .i64 n),(13,.int .i64 k)]) (μ:=(p.cells.length)) ⟨Z,0,_,by omega,(by simp[moreW,X1a]),KS,V0,Z⟩ ?_);rintro μk D ε w ⟨rfl,k,n,_,O0,KS,S,eZ⟩;refine wK eZ (wB S.k [.o 1] Z ⟨Z,U⟩ (fun i1=>?_) fun i1=>?_)
 ·refine lO0 Z U (u0a S d3b Z Z (f7a M _ _ l k (hL.keep (S.keep0 M))) (fun p0 r1 t0 v0=>?_) (fun p0 r1 t0 v0=>?_))
  ·replace KS:=KS.trans (v0.of_nil);refine lP0 Z ⟨by omega,U⟩ ⟨μk-1,by omega,Z,(k+1),(_),(by omega),?_,(KS),t0,Z⟩;rw[O4a];have z:=of_decide_eq_true p0;rw[if_neg fun h=>h.1 z];exact O0
  replace KS:=KS.trans (v0.of_nil);refine lO0 Z U (u0a t0 d3b Z Z (f7a M _ _ ((onE p t).sup 3) k (g0.keep KS)) (fun A0 s1 n0 x0=>?_) (fun A0 s1 n0 x0=>?_))
  ·replace KS:=KS.trans (x0.of_nil);obtain⟨c,z0,J0,b1,m0,b0,C0,E0,c0,d0⟩:=RdS.get (hC) (k) (by omega);obtain⟨rfl,F0,G0,H0,I0⟩:=s2a.open_ d0;have q1:=a7a hp t l k (by omega);have q2:=e3d m0;have q3:=q0 c (d0a m0);refine lP (n0.k.a c0) [.o 1,.x z0 J0,.f 0 1] Z ⟨by omega,by omega,Z,⟨b0,by omega⟩,Z,U⟩ ?_;refine⟨μk-1,by omega,Z,(k+1),(_),(by omega),?_,(KS),n0,Z⟩;rw[O4a];have z:=of_decide_eq_false p0;have z2:=of_decide_eq_true A0;rw[if_pos ⟨z,.inl z2⟩,q2];omega
  replace KS:=KS.trans (x0.of_nil);refine lO0 Z U (u0a n0 d3b Z Z (f7a M _ _ ((onE p t).sup 2) k (i0.keep KS)) (fun B0 t1 o0 y0=>?_) (fun B0 t1 o0 y0=>?_))
  ·replace KS:=KS.trans (y0.of_nil);obtain⟨c,z0,J0,b1,m0,b0,C0,E0,c0,d0⟩:=RdS.get (hC) (k) (by omega);obtain⟨rfl,F0,G0,H0,I0⟩:=s2a.open_ d0;have q1:=a7a hp t l k (by omega);have q2:=e3d m0;have q3:=q0 c (d0a m0);refine lP (o0.k.a c0) [.o 1,.x z0 J0,.f 0 1] Z ⟨by omega,by omega,Z,⟨b0,by omega⟩,Z,U⟩ ?_;refine⟨μk-1,by omega,Z,(k+1),(_),(by omega),?_,(KS),o0,Z⟩;rw[O4a];have z:=of_decide_eq_false p0;have z2:=of_decide_eq_true B0;rw[if_pos ⟨z,.inr z2⟩,q2];omega
  replace KS:=KS.trans (y0.of_nil);refine lP0 Z ⟨by omega,U⟩ ⟨μk-1,by omega,Z,(k+1),(_),(by omega),?_,(KS),o0,Z⟩;rw[O4a];have z2:=of_decide_eq_false A0;have z3:=of_decide_eq_false B0;rw[if_neg fun h=>h.2.elim z2 z3];exact O0
 refine lB0 Z U (fun N0=>?_) fun N0=>?_
 ·refine lR0 Z U (s0a Z ?_);have z:n≤6:=N0;obtain rfl:k=p.cells.length:=by omega
  exact⟨⟨_,Z,fun _=>⟨fun h=>L0 (by rw[h];rfl),by omega⟩⟩,S.fin⟩
 exact lT Z U Z ⟨⟨_,Z,fun h=>by cases h⟩,S.fin⟩
def g2d(p:n0a)(c:q2a)(t:Nat)(x:U2a):Bool:=decide (x.thread≠t)&&decide ((T2a p ((Z9a p x.thread.toNat).getD x.step.toNat ⟨0,0,0,zE,[],false,0,0⟩).module_).evl c.mem (doC p 0 c x).mem=1)
theorem D3c{p:n0a}{e:E}(hv:e.valid p.cells true=true)(hw:e.w=1)(o n:List Int):(e.evl o n=1↔e.val o n=1)∧(e.evl o n≠0↔e.val o n=1):=by
 have h1:=(h2a hv).1;have he:e.evl o n=e.val o n:=by unfold E.evl;rw[if_pos h1]
 have hr:=X3b (h2a hv).2.1 o n;rw[hw] at hr;have h2:T3a (1:Int).toNat=2:=by decide
 rw[he];constructor<;>omega
theorem c0d{op unit:Int}(hu:unit=0∨unit=1){l:List E}(h:G2a op unit l≠zE):(G2a op unit l).w=1:=by
 rcases c5a (op:=op) hu l with h1|h1
 ·exact absurd h1 h
 ·exact h1.2
def j2b(p:List d1a)(P:Nat→Bool)(n:Nat):Int:=X1a (((List.range n).filter P).map fun(c:Nat)=>wAt p (c:Int))
theorem R7a(p:List d1a)(P:Nat→Bool)(n:Nat):j2b p P (n+1)=j2b p P n+if P n=true then wAt p n else 0:=by
 unfold j2b;rw[List.range_succ,List.filter_append,List.map_append,W4a];by_cases h:P n=true
 ·rw[if_pos h,List.filter_cons_of_pos h];simp[X1a]
 ·rw[if_neg h,List.filter_cons_of_neg h];simp[X1a]
theorem L9a{p:List d1a}{P Q R:Nat→Bool}:∀n,(∀k,k<n→(P k=true↔Q k=true∨R k=true)∧¬(Q k=true∧R k=true))→j2b p P n=j2b p Q n+j2b p R n
 | 0,_=>by simp[j2b,X1a]
 | n+1,h=>by
   rw[R7a,R7a,R7a,L9a n fun k hk=>h k (by omega)];have h1:=h n (by omega);by_cases hq:Q n=true
   ·rw[if_pos hq,if_pos (h1.1.2 (.inl hq)),if_neg fun hr=>h1.2 ⟨hq,hr⟩];omega
   ·by_cases hr:R n=true
    ·rw[if_neg hq,if_pos (h1.1.2 (.inr hr)),if_pos hr];omega
    ·rw[if_neg hq,if_neg fun hP=>(h1.1.1 hP).elim hq hr,if_neg hr];omega
theorem n2c{p:List d1a}{C:List Int}{n:Nat}(h:B3a C n):X1a (wdL p C)=j2b p (fun k=>decide ((k:Int)∈C)) n:=by
 have e:C=((List.range n).filter fun(k:Nat)=>decide ((k:Int)∈C)).map Int.ofNat:=by
  refine V4a _ _ h.1 ?_ fun x=>?_
  ·rw[List.pairwise_map];exact((List.pairwise_lt_range (n:=n)).sublist List.filter_sublist).imp fun h=>Int.ofNat_lt.2 h
  ·simp only[List.mem_map,List.mem_filter,List.mem_range,decide_eq_true_eq];constructor
   ·intro hx;have h1:=h.2 x hx;obtain⟨k,rfl⟩:=Int.eq_ofNat_of_zero_le h1.1;exact⟨k,⟨by omega,hx⟩,Z⟩
   ·rintro⟨k,⟨-,hk⟩,rfl⟩;exact hk
 unfold j2b
 conv=>lhs;rw[e]
 show X1a ((_:List Int).map (wAt p))=_
 rw[List.map_map];rfl
theorem E4c{p:n0a}{e:E}(hv:e.valid p.cells true=true){op:Int}(a0:op=2∨op=3){x:Int}(hx:x∈e.sup op):0≤x∧x<p.cells.length:=by
 obtain⟨h1,hg,b0⟩:=h2a hv;have:=Q4a a0 e 40 hg b0 x ((u9a h1 a0 x).1 hx).2.2;omega
section
variable {p:n0a} (hp:q1a p) {t:Nat} {l:List Int} (hr:N1a l) (hlc:∀c∈l,0≤c∧c<p.cells.length)
theorem w9b{x:Int}:x∈allC p t l↔x∈l∨x∈(onE p t).sup 3∨x∈(onE p t).sup 2:=by
 have h:=(b4a (l++(onE p t).sup 3) ((onE p t).sup 2)).2 x;rw[List.mem_append,or_assoc] at h;exact h
include hp hlc in
theorem F6b(hon:onE p t≠zE):B3a (allC p t l) p.cells.length:=by
 have h:=(b4a (l++(onE p t).sup 3) ((onE p t).sup 2)).1;refine⟨h,fun c hc=>?_⟩;have hv:=F7a hp hon;rcases w9b.1 hc with h1|h1|h1
 ·exact hlc c h1
 ·exact E4c hv (.inr rfl) h1
 ·exact E4c hv (.inl rfl) h1
include hp hr hlc in
theorem d8c(hon:onE p t≠zE):X1a (wdL p.cells (allC p t l))=X1a (wdL p.cells l)+moreW p t l p.cells.length:=by
 rw[n2c (F6b hp hlc hon),n2c (C:=l) ⟨hr,hlc⟩];refine L9a _ fun k _=>?_;simp only[decide_eq_true_eq,Bool.and_eq_true,Bool.or_eq_true,Bool.not_eq_true',decide_eq_false_iff_not];rw[w9b];constructor
 ·constructor
  ·rintro(h|h)
   ·exact .inl h
   ·by_cases hl:(k:Int)∈l
    ·exact .inl hl
    ·exact .inr ⟨hl,h⟩
  ·rintro(h|h)
   ·exact .inl h
   ·exact .inr h.2
 ·rintro⟨h1,h2⟩;exact h2.1 h1
include hp in
theorem V4c{C:List Int}{n:Nat}(hn:n≤p.cells.length)(h:B3a C n):∀c∈C,1≤wAt p.cells c∧wAt p.cells c≤8:=fun c hc=>m7a hp (by have:=h.2 c hc;omega)
include hp in
theorem h3d{C:List Int}{n:Nat}(hn:n≤p.cells.length)(h:B3a C n):∀x∈wdL p.cells C,1≤x∧x≤8:=fun x hx=>by
 obtain⟨c,hc,rfl⟩:=List.mem_map.1 hx;exact V4c hp hn h c hc
def d3c(p:n0a)(l:List Int):Nat:=(X1a (wdL p.cells l)).toNat
include hp hr hlc in
theorem P0b(h:A1c p t l):X1a (wdL p.cells l)=d3c p l∧d3c p l≤6∧X1a (wdL p.cells (allC p t l))=d3c p (allC p t l)∧d3c p (allC p t l)≤6:=by
 have h1:=V2a (h3d hp (Nat.le_refl _) (C:=l) ⟨hr,hlc⟩);have h2:=V2a (h3d hp (Nat.le_refl _) (F6b (t:=t) hp hlc h.1));have h3:=d8c hp hr hlc h.1;have h4:=h.2;have h5:=a7a hp t l p.cells.length (Nat.le_refl _);unfold d3c;omega
end
theorem G2c(p:n0a)(t:Nat)(ht:t<p.threads.length)(l:List Int)(hr:N1a l)(hlc:∀c∈l,0≤c∧c<p.cells.length)(hl:A1c p t l)(M:List Nat)(w0:World)(cs:List Value)(vl:Value)(hI:InP p M w0 cs)(hL:RdI M w0 vl l):
 C0a prog 22 #[.agg cs.toArray,.int .i64 t,vl] w0 fun v w'=>(∃u,v=.tuple #[u,.int .i64 0]∧I7b w0 w' u l (wdL p.cells l) (R6b p t l) (2 ^ d3c p l))∧Below w0.heap.size w0 w':=by
 obtain⟨h1,h2,h3,h4⟩:=P0b hI.ok hr hlc hl;exact U9a (ht:=ht) (hb6:=h2) p t l hr hlc M w0 cs vl hI hL hl.1 (F7a hI.ok hl.1) _ h1 _ h3 h4 (F6b hI.ok hlc hl.1).2
section
variable {p:n0a} (hp:q1a p) {t:Nat} {l:List Int} (hr:N1a l) (hlc:∀c∈l,0≤c∧c<p.cells.length) (hon:onE p t≠zE)
include hp in
theorem j3d{C:List Int}(h:B3a C p.cells.length):B3a C M1a.length:=⟨h.1,fun c hc=>by have:=h.2 c hc;have:=hp.ncells;rw[w2a];omega⟩
structure U2d (p:n0a) (t:Nat) (l:List Int) (x y:Nat) (o n:List Int):Prop where
 po:B9c o
 pn:B9c n
 val:(onE p t).val o n=1
 evl:(onE p t).evl o n=1
 x:x=nuZ l (wdL p.cells l) o
 y:y=nuZ l (wdL p.cells l) n
include hp hlc hon in
theorem H0c{x y:Nat}(h:R6b p t l x y):∃o n,U2d p t l x y o n:=by
 obtain⟨_,_,⟨-,-,hv⟩,rfl,rfl⟩:=h;have hw2:=V4c hp (Nat.le_refl _) (F6b (l:=l) hp hlc hon);refine⟨_,_,I9b Z2a hw2,I9b Z2a hw2,?_,hv,rfl,rfl⟩;exact(D3c (F7a hp hon) (c0d (.inr rfl) hon) _ _).1.1 hv
theorem Q6b{p:n0a}{o n:List Int}(ho:B9c o)(hn:B9c n){c:Int}(h:f8b p o n c):B6c p.cells o c=B6c p.cells n c:=by
 unfold f8b at h;rw[J7b (ho _),J7b (hn _)] at h;exact Int.ofNat.inj h
def g0c(p:n0a)(t:Nat)(c:Int):Prop:=k1a p.cells c=t∨(k1a p.cells c=-1∧∀m∈w1a p t,c∉(Q8b p m.toNat).frame)
include hp hlc hon in
theorem s9b{c:Int}(hc:c∈l)(hf:g0c p t c)(hrl:N1a l){N x y:Nat}(h:Clo (R6b p t l) N x y):(stZ l (wdL p.cells l) x M1a).getD c.toNat 0=(stZ l (wdL p.cells l) y M1a).getD c.toNat 0:=by
 have hl32:=j3d hp (C:=l) ⟨hrl,hlc⟩;have key:∀x y,R6b p t l x y→(stZ l (wdL p.cells l) x M1a).getD c.toNat 0=(stZ l (wdL p.cells l) y M1a).getD c.toNat 0:=fun x y h=>by
  obtain⟨o,n,hz⟩:=H0c hp hlc hon h;rw[hz.x,hz.y,d5b hl32 c hc,d5b hl32 c hc];have hci:=hlc c hc;obtain⟨h1,h2⟩:=(y1d hp hon o n).1 hz.val
  congr 1
  rcases hf with hf|⟨hf,hm⟩
  ·exact Q6b hz.po hz.pn (h2 c hci.1 hci.2 hf)
  ·obtain⟨m,hmo,hv⟩:=h1;exact Q6b hz.po hz.pn (((x2c hp ((N6b hon).2 m hmo) o n).1 hv).2 c hci.1 hci.2 hf (hm m hmo))
 induction h with
 | refl _=>rfl
 | tail _ h2 _ ih=>exact ih.trans (key _ _ h2)
end
theorem S7b(M:List Nat)(w0:World)(v u i:Value)(C W:List Int)(l:List (Int×Int))(a0:Nat)(hC:RdI M w0 v C)(hW:RdI M w0 u W)(hL:o1b M w0 i l)(h:v0b C W)(hb:X1a W=a0)(hb6:a0≤6)(hl:∀x∈l,0≤x.1∧x.1<(2 ^ a0:Nat)∧0≤x.2∧x.2<(2 ^ a0:Nat))(f1:l.Pairwise lt2):
 C0a prog 35 #[.agg #[v,u,i]] w0 fun v w'=>v=.bool true∧Below w0.heap.size w0 w':=by
 obtain⟨A,n,c,rfl⟩:=hC.form;obtain⟨A',n',c',rfl⟩:=hW.form;obtain⟨Al,nl,cl,rfl⟩:=hL.form;obtain⟨_,-,_⟩:=hL.len;have r1:=h.clen;have d1:=h.len;have S:=St.refl w0;refine a0a func35 Z ntmps35 Z ?_;refine wO0 Z U (q0a S Z ?_);intro g1 w1 S1 X1 G1;refine lO S1.k [.o 0,.o 0] Z ⟨Z,Z,U⟩ (f0a S1 b2c Z Z ((n9a M _ _ _ C W 6 (hC.keep (S1.keep0 M)) (hW.keep (S1.keep0 M)) h).mono (fun v w' h=>⟨h.1.trans (by rw[hb]),h.2⟩)) ?_);intro t1 A0 p1;refine lB0 Z U (fun T0=>by exfalso;omega) fun T0=>?_;refine lO0 Z U (f0a A0 t4b Z Z (z9a a0 _) ?_);intro u1 B0 q1;refine lC0 Z U (wL (fun μk D ε w=>D=[]∧∃k:Nat,(k+μk=(l.length))∧St [] w0 w [(some g1,41,[.slice A n c,.slice A' n' c',.slice Al nl cl])]∧Sl ε [(1,.pointer (some ⟨g1,0,none⟩)),(4,.int .i64 ((2 ^ a0:Nat):Int)),(5,.int .i64 k)]) (μ:=(l.length)) ⟨Z,0,by omega,B0,Z⟩ ?_);rintro μk D ε w ⟨rfl,k,_,S,eZ⟩;refine wK eZ (wB S.k [.o 0] Z ⟨Z,U⟩ (fun U0=>?_) fun U0=>?_)
 ·obtain⟨x,D0,i1,H0,y0,g0,_,o0,n0,p0⟩:=RdS.get (hL) (k) (by omega);obtain⟨L0,_⟩:=p0;obtain rfl:H0=[Value.int .i64 x.1,.int .i64 x.2]:=L0;have hx:=hl x (d0a y0);refine lO (S.k.a n0) [.o 0,.x D0 i1,.v 0] Z ⟨⟨Z,o0⟩,⟨g0,by omega⟩,Z,U⟩ (g0a S m8b Z Z ?_);intro g6 w6 S6 X6 G6;refine c0a (kk:=0) (vs:=[_,_]) S6 T4b Z Z Z Z Z Z Z ?_;intro o1 b0 C0;dsimp only[h0a,List.set] at b0;refine lC0 Z U (x0a b0a [0,1,2,3,4,5,6,7,8,9,10,11,12,13,14,15,16,17,18,19,20,21,22,23,24,25,26,27,28,29,30,31,32,33,34,35,36,37,38,39,40,41,42,43,44,45,46,47,48,49,50,51,52,53,54,55,56,57,58,59] [] [] Z (Cl _ _ _ _) (Cl.start b0) ?_);refine r0a L1a Z Z Z ?_;refine i0a y0a Z (fun w1 hw=>by exact hw.1.cell 0 Z Z) Z ?_;refine qB0 Z U (fun V0=>by exfalso;omega) fun V0=>?_;refine qO0 Z U (r0a L1a Z Z Z ?_);refine qO0 Z U (i0a y0a Z (fun w1 hw=>by exact hw.1.cell 0 Z Z) Z ?_);refine qB0 Z U (fun W0=>by exfalso;omega) fun W0=>?_;refine qO0 Z U (r0a L1a Z Z Z ?_);refine qO0 Z U (i0a y0a Z (fun w1 hw=>by exact hw.1.cell 0 Z Z) Z ?_);refine qB0 Z U (fun X0=>by exfalso;omega) fun X0=>?_;refine qO0 Z U (r0a L1a Z Z Z ?_);refine qO0 Z U (i0a y0a Z (fun w1 hw=>by exact hw.1.cell 0 Z Z) Z ?_);refine qB0 Z U (fun Y0=>by exfalso;omega) fun Y0=>?_;refine qB0 Z U (fun Z0=>?_) fun Z0=>?_
  ·refine qO0 Z U (r0a L1a Z Z Z ?_);refine qO0 Z U (i0a y0a Z (fun w1 hw=>by exact hw.1.cell 0 Z Z) Z ?_);obtain⟨y,E0,j1,I0,v0,i0,_,_,d0,q0⟩:=RdS.get (hL) (k-1) (by omega);obtain⟨N0,_⟩:=q0;obtain rfl:I0=[Value.int .i64 y.1,.int .i64 y.2]:=N0;have Q0:((k:Int)-1).toNat=k-1:=by omega
   rw[←Q0] at d0;have s1:=E7b f1 v0 y0;refine qO b0.q [.o 1,.x E0 j1] Z ⟨⟨i0,by omega⟩,by omega,Z,U⟩ (r0a L1a Z Z Z ?_);refine qO0 Z U (i0a y0a Z (fun w1 hw=>by exact hw.1.old (d0 _ _ Z)) Z ?_);refine qB0 Z U (fun a1=>by exfalso;omega) fun a1=>?_;refine qO0 Z U (r0a L1a Z Z Z ?_);refine qO0 Z U (i0a y0a Z (fun w1 hw=>by exact hw.1.cell 0 Z Z) Z ?_);obtain⟨_,F0,m1,J0,t0,j0,_,_,e0,r0⟩:=RdS.get (hL) (k-1) (by omega);obtain rfl:=Option.some.inj (v0.symm.trans t0);obtain⟨O0,_⟩:=r0;obtain rfl:J0=[Value.int .i64 y.1,.int .i64 y.2]:=O0;have R0:((k:Int)-1).toNat=k-1:=by omega
   rw[←R0] at e0;refine qO b0.q [.o 1,.x F0 m1] Z ⟨⟨j0,by omega⟩,by omega,Z,U⟩ (r0a L1a Z Z Z ?_);refine qO0 Z U (i0a y0a Z (fun w1 hw=>by exact hw.1.old (e0 _ _ Z)) Z ?_);refine qB0 Z U (fun b1=>?_) fun b1=>?_
   ·refine qO0 Z U (r0a L1a Z Z Z ?_);refine qO0 Z U (i0a y0a Z (fun w1 hw=>by exact hw.1.cell 0 Z Z) Z ?_);obtain⟨_,G0,n1,K0,u0,m0,_,_,f0,s0⟩:=RdS.get (hL) (k-1) (by omega);obtain rfl:=Option.some.inj (v0.symm.trans u0);obtain⟨P0,_⟩:=s0;obtain rfl:K0=[Value.int .i64 y.1,.int .i64 y.2]:=P0;have S0:((k:Int)-1).toNat=k-1:=by omega
    rw[←S0] at f0;refine qO b0.q [.o 1,.x G0 n1] Z ⟨⟨m0,by omega⟩,by omega,Z,U⟩ (r0a L1a Z Z Z ?_);refine qO0 Z U (i0a y0a Z (fun w1 hw=>by exact hw.1.old (f0 _ _ Z)) Z ?_);refine qB0 Z U (fun c1=>by exfalso;omega) fun c1=>?_;refine qD Z U ?_;rintro z0 ⟨c0,x0⟩;refine lP0 Z ⟨by omega,U⟩ ⟨μk-1,by omega,Z,(k+1),(by omega),c0.tail,Z⟩
   refine qD Z U ?_;rintro z0 ⟨c0,x0⟩;refine lP0 Z ⟨by omega,U⟩ ⟨μk-1,by omega,Z,(k+1),(by omega),c0.tail,Z⟩
  refine qD Z U ?_;rintro z0 ⟨c0,x0⟩;refine lP0 Z ⟨by omega,U⟩ ⟨μk-1,by omega,Z,(k+1),(by omega),c0.tail,Z⟩
 exact lT Z U Z ⟨Z,S.fin⟩
def D5b(p:n0a)(t:Nat)(bs:List Bool)(c:Int)(m:Nat):Prop:=k1a p.cells c=t∨(k1a p.cells c=-1∧∀k:Nat,k<m→bs.getD k false=true→c∉(Q8b p k).frame)
theorem a1c{p:n0a}{t:Nat}{bs:List Bool}{c:Int}{m:Nat}(h:D5b p t bs c m)(h2:bs.getD m false=true→c∉(Q8b p m).frame):D5b p t bs c (m+1):=by
 rcases h with h|⟨h,h3⟩
 ·exact .inl h
 ·refine .inr ⟨h,fun k hk=>?_⟩;by_cases a0:k=m
  ·subst a0;exact h2
  ·exact h3 k (by omega)
theorem T8c{p:n0a}{t:Nat}{bs:List Bool}{c:Int}{m n:Nat}(h:D5b p t bs c m)(h2:k1a p.cells c≠-1):D5b p t bs c n:=by
 rcases h with h|⟨h,-⟩
 ·exact .inl h
 ·exact absurd h h2
theorem t9b{p:n0a}(hp:q1a p){t:Nat}{bs:List Bool}{c:Int}(hS:Y2b p t p.threads.length 0 bs)(h:D5b p t bs c p.modules.length):g0c p t c:=by
 rcases h with h|⟨h,h2⟩
 ·exact .inl h
 ·refine .inr ⟨h,fun m hm=>?_⟩;have h3:=c6a hm;obtain⟨k,rfl⟩:=Int.eq_ofNat_of_zero_le h3.1;exact h2 k (by omega) ((hS.2 k (by omega)).2 ((q6a hp).1 hm))
theorem q0c(M:List Nat)(w0:World)(v u:Value)(a b:List Int)(hA:RdI M w0 v a)(hB:RdI M w0 u b):
 C0a prog 41 #[v,u] w0 fun v w'=>v=.bool (decide (a=b))∧Below w0.heap.size w0 w':=by
 obtain⟨A,n,c,rfl⟩:=hA.form;obtain⟨hn,-,_⟩:=hA.len;obtain⟨A',n',c',rfl⟩:=hB.form;obtain⟨_,-,_⟩:=hB.len;have S:=St.refl w0;refine a0a func41 Z ntmps41 Z ?_;refine wB0 Z U (fun q0=>?_) fun q0=>?_
 ·refine lR0 Z U (s0a Z ?_);exact⟨by rw[decide_eq_false (fun h=>by rw[h] at hn;omega)],S.fin⟩
 refine lC0 Z U (wL (fun μk D ε w=>D=[]∧∃k:Nat,(k+μk=(a.length))∧(a.take k=b.take k)∧St [] w0 w []∧Sl ε [(0,.slice A n c),(1,.slice A' n' c'),(5,.int .i64 k)]) (μ:=(a.length)) ⟨Z,0,by omega,by simp,S,Z⟩ ?_);rintro μk D ε w ⟨rfl,k,_,he,S,eZ⟩;refine wK eZ (wB0 Z U (fun r0=>?_) fun r0=>?_)
 ·refine lC0 Z U (x0a b0a [0,1,2,3,4,5,6,7,8] [] [] Z (Cl _ _ _ _) (Cl.start S) ?_);obtain⟨x,o0,s0,_,j0,c0,_,_,e0,g0⟩:=RdS.get (hA) (k) (by omega);obtain⟨rfl,_⟩:=id g0;obtain⟨_,p0,t0,_,m0,d0,_,_,f0,i0⟩:=RdS.get (hB) (k) (by omega);obtain⟨rfl,_⟩:=id i0;refine qB ((S.q.a f0).a e0) [.x o0 s0,.f 0 0,.x p0 t0,.f 1 0] Z ⟨Z,⟨d0,by omega⟩,Z,⟨c0,by omega⟩,U⟩ (fun b0=>?_) fun b0=>?_
  ·refine qD Z U ?_;rintro u0 ⟨a0,n0⟩;refine lR0 Z U (s0a Z ?_);exact⟨by rw[decide_eq_false (fun h=>b0 (Option.some.inj (j0.symm.trans (by rw[h];exact m0))))],a0.fin⟩
  refine qD Z U ?_;rintro u0 ⟨a0,n0⟩;refine lP0 Z ⟨by omega,U⟩ ⟨μk-1,by omega,Z,(k+1),(by omega),?_,a0,Z⟩;rw[E0a j0,E0a m0,he,b0]
 refine lR0 Z U (s0a Z ?_);exact⟨by rw[decide_eq_true (by rw[List.take_of_length_le (by omega),List.take_of_length_le (by omega)] at he;exact he)],S.fin⟩
theorem k7a(p:n0a)(tn F0:Int)(V4:0≤tn∧tn≤255)(x4:0≤F0∧F0≤4294967295)(w0:World)(cs:List Value)(hP:T0a [] w0 p cs)(p4:x0b p)(hK:k2a [] w0)(hN:J7a [] w0):
 C0a prog 7 #[.agg cs.toArray,.int .u8 tn,.int .u32 F0] w0 fun v w'=>v=.bool true∧Below w0.heap.size w0 w':=by
 obtain⟨mk,rfl⟩:=Int.eq_ofNat_of_zero_le x4.1;have f3:mk<2 ^ 32:=by omega
 obtain⟨Ac,nc,cc,Am,nm,cm,Al,nl,cl,At,nt,ct,rfl,hC,o4,_⟩:=hP.open_;have S:=St.refl w0;refine a0a func7 Z ntmps7 Z ?_;refine wO0 Z U (q0a S Z ?_);intro g3 w3 S3 X3 G3;refine lO0 Z U (f0a S3 M1d Z Z (y1c _ (hK.keep (S3.keep0 [])) (hN.keep (S3.keep0 []))) ?_);intro Z4 q2 Q4;refine lO q2.k [.w 0] Z ⟨⟨Z,Z⟩,U⟩ (q0b q2 i0d Z Z (d2c p [] _ _ (hP.keep (q2.keep0 [])) (by simp) p4) (fun j4 F4 t0 d4=>?_) (fun F4 t0 d4=>?_))
 ·refine lB t0.k [.o 0] Z ⟨Z,U⟩ (fun k4=>?_) fun k4=>?_
  ·exact lT Z U Z ⟨Z,t0.fin⟩
  have hI:InP p [] w0 [.slice Ac nc cc,.slice Am nm cm,.slice Al nl cl,.slice At nt ct]:=⟨hP,j4,hK,by simp⟩;have hp:=hI.ok;have I1:=hp.ncells;have T4:=hp.nthreads;have U4:=hp.nmodules;refine lO0 Z U (g5b Tryz.underlying5 Tryz.underlying3 Z Z ?_);rw[q5a (by unfold i64;omega)];refine lO t0.k [.o 0] Z ⟨Z,U⟩ (p2d Z Z (by omega) (by omega) Z ?_);obtain⟨t,ht,_⟩:=K7c (a:=tn) (b:=(nt:Int)) (by omega);rw[ht];have T3:t<p.threads.length:=by omega
  refine lO t0.k [.w 0] Z ⟨⟨Z,Z⟩,U⟩ (j0a t0 M0d Z Z (P2b p mk f3 [] _ _ (hP.keep (t0.keep0 [])) I1) ?_);rintro W4 G4 C0 r2 R4;obtain⟨l,hl⟩:∃l,l=g8b mk p.cells.length:=⟨_,Z⟩;rw[←hl] at C0;obtain⟨I0,d2,U0,rfl⟩:=C0.form;have j0:=C0 [] (by simp);obtain⟨_,-,_⟩:=j0.len;have KS:=v0a.refl [] G4;have T1:N1a l:=hl▸o6c mk p.cells.length;have hlc:∀c∈l,0≤c∧c<p.cells.length:=fun c hc=>by rw[hl] at hc;obtain⟨i,rfl,h1,-⟩:=R2c.1 hc;omega
  refine lO r2.k [.w 0] Z ⟨⟨Z,Z⟩,U⟩ (q0b r2 x1d Z Z (I8b p t T3 l T1 hlc [] _ _ _ (hI.keep (r2.keep0 [])) (j0.keep KS)) (fun S2 I4 P0 K3=>?_) (fun I4 P0 K3=>?_))
  ·replace KS:=KS.trans K3;have hon:=(S2).1;have t4:∀c∈p.cells,1≤c.w∧c.w≤8:=fun c hc=>(hp.cells c hc).w;have j3:=j6a T1 hlc I1 t4;obtain⟨r4,s4,-,-⟩:=P0b hp T1 hlc S2;refine lO P0.k [.w 0] Z ⟨⟨Z,Z⟩,U⟩ (j0a P0 j2c Z Z (G2c p t T3 l T1 hlc S2 [] _ _ _ (hI.keep (P0.keep0 [])) (j0.keep KS)) ?_);rintro v51 J4 ⟨_,rfl,Y2⟩ c4 e4;replace KS:=KS.trans e4;obtain⟨_,_,_,b2,rfl,q0,D0,b3,m3,_,G1⟩:=Y2.get;obtain⟨A1,n1,c1,rfl⟩:=q0.form;obtain⟨A2,n2,c2,rfl⟩:=D0.form;have r0:=b3 [] (by simp);obtain⟨A3,n3,c3,rfl⟩:=r0.form;obtain⟨_,-,_⟩:=r0.len;have a0:=v0a.refl [] J4;refine lO0 Z U (g0a c4 I6a Z Z ?_);intro u0 X4 a4 J3 D3;have L0:=Nat.le_trans KS.size D3;have x0:=Nat.le_trans a0.size D3;replace KS:=KS.trans J3;replace a0:=a0.trans J3;refine c0a (kk:=0) (vs:=[_,_,_]) a4 D6a Z Z Z Z Z Z Z ?_;intro L4 A0 S0;dsimp only[h0a,List.set] at A0;replace KS:=KS.fresh S0 (by exact L0);replace a0:=a0.fresh S0 (by exact x0);refine lB0 Z U (fun m4=>by exfalso;omega) fun m4=>?_;refine lO A0.k [.w 0] Z ⟨⟨Z,Z⟩,U⟩ ?_;have V2:∀x∈b2,0≤x.1∧x.1<(2 ^ d3c p l:Nat)∧0≤x.2∧x.2<(2 ^ d3c p l:Nat):=fun x hx=>by
    obtain⟨y,z,i2,rfl⟩:=(G1 x).1 hx;have:=i2.lt;simp only;omega
   refine f0a A0 E1d Z Z (S7b [] _ _ _ _ l (wdL p.cells l) b2 (d3c p l) ((q0 [] (by simp)).keep a0) ((D0 [] (by simp)).keep a0) (r0.keep a0) j3 r4 s4 V2 m3) ?_;intro a5 F3 L3;replace KS:=KS.trans L3;replace a0:=a0.trans L3;refine lO F3.k [.o 0] Z ⟨Z,U⟩ (f0a F3 Q9c Z Z (H2a (q0c [] _ _ _ l l ((q0 [] (by simp)).keep a0) (j0.keep KS)) (decide_eq_true Z)) ?_);intro b5 s2 M3;replace KS:=KS.trans M3;replace a0:=a0.trans M3;refine lO s2.k [.w 1] Z ⟨⟨Z,Z⟩,U⟩ (j0a s2 C4c Z Z (E0b p t [] _ _ (hI.keep (s2.keep0 []))) ?_);rintro v70 K4 ⟨bs,hS,X2⟩ I3 N3;replace KS:=KS.trans N3;replace a0:=a0.trans N3;have W2:=X2 [] (by simp);obtain⟨Ab,nb,cb,rfl⟩:=W2.form;obtain⟨_,-,_⟩:=W2.len;have q4:=hS.1;have KB:=v0a.refl [] K4;refine lO I3.k [.o 0,.o 0] Z ⟨Z,Z,U⟩ (F0a A4b (vs:=[(0,.slice _ _ _),(1,.slice _ _ _)]) (cs:=[_,_,_]) Z Z Z Z ?_);refine g0a I3 a8a Z Z ?_;intro v0 Y4 b4 u2 m2;have N0:=Nat.le_trans KS.size m2;have y0:=Nat.le_trans a0.size m2;have J0:=Nat.le_trans KB.size m2;replace KS:=KS.trans u2;replace a0:=a0.trans u2;replace KB:=KB.trans u2;refine c0a (kk:=0) (vs:=[_,_,_]) b4 o8a Z Z Z Z Z Z Z ?_;intro Y3 s0 i0;dsimp only[h0a,List.set] at s0;replace KS:=KS.fresh i0 (by exact N0);replace a0:=a0.fresh i0 (by exact y0);replace KB:=KB.fresh i0 (by exact J0);refine lC0 Z U (wL (fun μi D ε w=>D=[]∧∃i:Nat,(i+μi=(l.length))∧(RdI [] w (.slice I0 d2 U0) l)∧(RdI [] w (.slice A1 n1 c1) l)∧(RdI [] w (.slice A2 n2 c2) (wdL p.cells l))∧(o1b [] w (.slice A3 n3 c3) b2)∧(RdB [] w (.slice Ab nb cb) bs)∧St [] w0 w [(some v0,89,[.slice A1 n1 c1,.slice A2 n2 c2,.slice none 0 0]),(some u0,41,[.slice A1 n1 c1,.slice A2 n2 c2,.slice A3 n3 c3]),(some g3,27,[.slice Ac nc cc,.slice Am nm cm,.slice Al nl cl,.slice At nt ct])]∧Sl ε [(3,.pointer (some ⟨g3,0,none⟩)),(7,.bool true),(8,.int .i64 t),(9,.slice I0 d2 U0),(10,.pointer (some ⟨u0,0,none⟩)),(12,.slice Ab nb cb),(13,.pointer (some ⟨v0,0,none⟩)),(14,.int .i64 i)]) (μ:=(l.length)) ⟨Z,0,by omega,j0.keep KS,(q0 [] (by simp)).keep a0,(D0 [] (by simp)).keep a0,r0.keep a0,W2.keep KB,s0,Z⟩ ?_);rintro μi D ε w ⟨rfl,i,_,H0,H1,H2,H3,H4,S,eZ⟩;refine wK eZ ?_;obtain⟨wl,U3⟩:∃x,x=w:=⟨_,Z⟩;have KL:v0a [] wl w:=U3▸v0a.refl _ _;rw[←U3] at H0 H1 H2 H3 H4;refine wB0 Z U (fun n4=>?_) fun n4=>?_
   ·refine lC0 Z U (x0a b0a [0,1,2,3,4,5,6,7] [8] [9] Z (Cl _ _ _ _) (Cl.start S) ?_);obtain⟨c,f4,z4,_,Z1,T2,_,_,Z2,h3⟩:=RdS.get ((H0.keep KL)) (i) (by omega);obtain⟨rfl,_⟩:=id h3;have S4:=hlc c (d0a Z1);obtain⟨c0,g4,A4,_,a2,U2,_,e3,a3,i3⟩:=RdS.get (hC) (c.toNat) (by omega);obtain⟨rfl,_⟩:=s2a.open_ i3;have E0:=Y0a a2;refine qN ((S.q.a a3).b Z2) [.o 2,.x f4 z4,.f 0 0,.x g4 A4,.v 1] Z ⟨⟨Z,e3⟩,⟨U2,by omega⟩,Z,⟨T2,by omega⟩,Z,U⟩ (F4a ?_);refine N9b Z Z n3c Z ?_;refine W1a ?_;rintro M4 ⟨B0,w2⟩;intro V0 d3 E3 r3;dsimp only[E3a];have K0:=Nat.le_trans KL.size E3;replace KL:=KL.trans w2;clear r3;replace B0:=B0.push_new S d3 E3;refine c0a (kk:=0) (vs:=[_,_,_,_,_,_]) B0 U3c Z Z Z Z Z Z Z ?_;intro Z3 b0 R0;dsimp only[h0a,List.set] at b0;replace KL:=KL.fresh R0 (by exact K0);refine lCn 2 b0.k [] Z U (wX (fun D ε w=>D=[]∧∃fx:Bool,(fx=true→D5b p t bs c 0)∧(v0a [] wl w)∧St [] w0 w [(some V0,83,[.string c0.name,.int .i64 c0.w,.int .i64 c0.init,.int .i64 c0.thread,.bool c0.ghost,.int .i64 c0.module_]),(some v0,89,[.slice A1 n1 c1,.slice A2 n2 c2,.slice none 0 0]),(some u0,41,[.slice A1 n1 c1,.slice A2 n2 c2,.slice A3 n3 c3]),(some g3,27,[.slice Ac nc cc,.slice Am nm cm,.slice Al nl cl,.slice At nt ct])]∧Sl ε [(3,.pointer (some ⟨g3,0,none⟩)),(7,.bool true),(8,.int .i64 t),(9,.slice I0 d2 U0),(10,.pointer (some ⟨u0,0,none⟩)),(12,.slice Ab nb cb),(13,.pointer (some ⟨v0,0,none⟩)),(14,.int .i64 i),(15,.pointer (some ⟨V0,0,none⟩)),(16,.bool fx)]) ?_ ?_)
    ·refine wB b0.k [.o 0] Z ⟨Z,U⟩ (fun O3=>?_) fun O3=>?_
     ·refine lP0 Z U ⟨Z,(_),?_,(KL),b0,Z⟩;exact fun _=>.inr ⟨E0.trans O3,fun k hk=>absurd hk (by omega)⟩
     refine lB b0.k [.o 0] Z ⟨Z,U⟩ (fun P3=>?_) fun P3=>?_
     ·refine lP0 Z U ⟨Z,(_),?_,(KL),b0,Z⟩;exact fun _=>.inl (E0.trans P3)
     refine lP0 Z U ⟨Z,(_),?_,(KL),b0,Z⟩;intro h;cases h;done
    rintro D ε w ⟨rfl,fx,v4,KM,S,eZ⟩;refine wK eZ (wC0 Z U ?_);refine wL (fun μm D ε w=>D=[]∧∃m:Nat,∃fy:Bool,(m+μm=(bs.length))∧(fy=true→D5b p t bs c m)∧(v0a [] wl w)∧St [] w0 w [(some V0,83,[.string c0.name,.int .i64 c0.w,.int .i64 c0.init,.int .i64 c0.thread,.bool c0.ghost,.int .i64 c0.module_]),(some v0,89,[.slice A1 n1 c1,.slice A2 n2 c2,.slice none 0 0]),(some u0,41,[.slice A1 n1 c1,.slice A2 n2 c2,.slice A3 n3 c3]),(some g3,27,[.slice Ac nc cc,.slice Am nm cm,.slice Al nl cl,.slice At nt ct])]∧Sl ε [(3,.pointer (some ⟨g3,0,none⟩)),(7,.bool true),(8,.int .i64 t),(9,.slice I0 d2 U0),(10,.pointer (some ⟨u0,0,none⟩)),(12,.slice Ab nb cb),(13,.pointer (some ⟨v0,0,none⟩)),(14,.int .i64 i),(15,.pointer (some ⟨V0,0,none⟩)),(16,.bool fy),(17,.int .i64 m)]) (μ:=(bs.length)) ⟨Z,0,fx,by omega,v4,KM,S,Z⟩ ?_;rintro μm D ε w ⟨rfl,m,fy,_,j2,KM,S,eZ⟩;refine wK eZ (wB0 Z U (fun Q2=>?_) fun Q2=>?_)
    ·refine lC0 Z U (x0a b0a [0,1,2,3,4,5,6,7,8,9,10,11,12,13,14,15,16,17,18,19,20,21] [] [] Z (Cl _ _ _ _) (Cl.start S) ?_);obtain⟨z,z2,s3,K2,y4,b1,r1,_,f0,n0⟩:=RdS.get ((H4.keep KM)) (m) (by omega);obtain n0:=n0;obtain rfl:K2=[Value.bool z]:=n0;have hz:bs.getD m false=z:=by rw[List.getD_eq_getElem?_getD,y4];rfl
     refine qO S.q [.x z2 s3] Z ⟨⟨b1,by omega⟩,U⟩ ?_;rcases(Bool.eq_false_or_eq_true (z)).symm with m0|m0
     ·refine i0a a3a Z (fun w1 hw=>by exact(hw.2.cell List.not_mem_nil (f0 0 _ Z)).trans (congrArg (fun b=>some (Value.bool b)) m0)) Z ?_;refine qD Z U ?_;rintro G0 ⟨e0,d0⟩;replace f0:=f0.keep (d0.of_nil) r1;replace KM:=KM.trans d0;refine lP0 Z ⟨by omega,U⟩ ⟨μm-1,by omega,Z,(m+1),(_),(by omega),?_,(KM),e0,Z⟩;have z1:bs.getD m false=false:=by rw[hz];assumption
      exact fun h=>a1c (j2 h) (fun h2=>by rw[z1] at h2;cases h2)
     refine i0a a3a Z (fun w1 hw=>by exact(hw.2.cell List.not_mem_nil (f0 0 _ Z)).trans (congrArg (fun b=>some (Value.bool b)) m0)) Z ?_;refine qB S.q [.o 0] Z ⟨Z,U⟩ (fun W0=>?_) fun W0=>?_
     ·obtain⟨md,B2,t3,_,o3,d1,_,_,t1,J1⟩:=RdS.get (o4) (m) (by omega);obtain⟨_,_,_,_,_,_,_,_,_,rfl,_,_,q1,_⟩:=S0a.open_ J1;have w4:Q8b p m=md:=by unfold Q8b;rw[getD_some o3]
      obtain⟨_,C2,u3,_,U1,f1,_,_,u1,K1⟩:=RdS.get ((H0.keep KM)) (i) (by omega);obtain rfl:=Option.some.inj (Z1.symm.trans U1);obtain⟨rfl,_⟩:=id K1;refine qO ((S.q.b u1).a t1) [.o 3,.x B2 t3,.f 0 10,.x C2 u3,.f 1 0] Z ⟨Z,⟨f1,by omega⟩,Z,⟨d1,by omega⟩,Z,U⟩ (v2a d3b Z Z (fun w1 S1 X1=>f7a [] _ _ md.frame c (q1.keep (S1.keep0 []))) (fun X0=>?_) fun X0=>?_)
      ·refine qD Z U ?_;rintro G0 ⟨e0,d0⟩;replace KM:=KM.trans d0;refine lP0 Z ⟨by omega,U⟩ ⟨μm-1,by omega,Z,(m+1),(_),(by omega),?_,(KM),e0,Z⟩;intro h;cases h;done
      refine qD Z U ?_;rintro G0 ⟨e0,d0⟩;replace KM:=KM.trans d0;refine lP0 Z ⟨by omega,U⟩ ⟨μm-1,by omega,Z,(m+1),(_),(by omega),?_,(KM),e0,Z⟩;have z1:=of_decide_eq_false X0;exact fun h=>a1c (j2 h) (fun _=>by rw[w4];exact z1)
     refine qD Z U ?_;rintro G0 ⟨e0,d0⟩;replace KM:=KM.trans d0;refine lP0 Z ⟨by omega,U⟩ ⟨μm-1,by omega,Z,(m+1),(_),(by omega),?_,(KM),e0,Z⟩;have z1:=W0;exact fun h=>T8c (j2 h) (fun hh=>z1 (E0.symm.trans hh))
    obtain rfl:m=bs.length:=by omega
    refine lC0 Z U (wL (fun μj D ε w=>D=[]∧∃j:Nat,(j+μj=(b2.length))∧(v0a [] wl w)∧St [] w0 w [(some V0,83,[.string c0.name,.int .i64 c0.w,.int .i64 c0.init,.int .i64 c0.thread,.bool c0.ghost,.int .i64 c0.module_]),(some v0,89,[.slice A1 n1 c1,.slice A2 n2 c2,.slice none 0 0]),(some u0,41,[.slice A1 n1 c1,.slice A2 n2 c2,.slice A3 n3 c3]),(some g3,27,[.slice Ac nc cc,.slice Am nm cm,.slice Al nl cl,.slice At nt ct])]∧Sl ε [(3,.pointer (some ⟨g3,0,none⟩)),(7,.bool true),(8,.int .i64 t),(9,.slice I0 d2 U0),(10,.pointer (some ⟨u0,0,none⟩)),(12,.slice Ab nb cb),(13,.pointer (some ⟨v0,0,none⟩)),(14,.int .i64 i),(16,.bool fy),(18,.int .i64 j)]) (μ:=(b2.length)) ⟨Z,0,by omega,KM,S,Z⟩ ?_);rintro μj D ε w ⟨rfl,j,_,KQ,S,eZ⟩;refine wK eZ (wB S.k [.o 2] Z ⟨Z,U⟩ (fun R2=>?_) fun R2=>?_)
    ·refine lOn 1 S.k [] Z U (m3a Z Z Z ?_);cases s1:fy
     ·refine I0a (hv:=Z) (v:=.bool _) Z ?_;refine lP0 Z ⟨by omega,U⟩ ⟨μi-1,by omega,Z,(i+1),(by omega),(H0.keep (by exact KQ)),(H1.keep (by exact KQ)),(H2.keep (by exact KQ)),(H3.keep (by exact KQ)),(H4.keep (by exact KQ)),S.tail,Z⟩
     refine I0a (hv:=Z) (v:=.bool _) Z ?_;have u4:g0c p t c:=t9b hp hS (q4▸j2 s1);refine lC0 Z U (x0a b0a [0,1,2,3,4,5,6] [7] [8,9] Z (Cl _ _ _ _) (Cl.start S) ?_);obtain⟨x,D2,v3,L2,V3,g1,_,_,v1,M1⟩:=RdS.get ((H3.keep KQ)) (j) (by omega);obtain⟨O2,_⟩:=M1;obtain rfl:L2=pc x:=O2;obtain⟨y,z,i2,rfl⟩:=(G1 x).1 (d0a V3);have W3:=i2.lt;refine qO S.q [.w 1,.o 2,.x D2 v3] Z ⟨⟨g1,by omega⟩,Z,⟨Z,Z⟩,U⟩ (r0a L1a Z Z Z ?_);refine i0a y0a Z (fun w1 hw=>by exact hw.2.cell List.not_mem_nil (v1 _ _ Z)) Z ?_;refine qN0 Z U (F4a ?_);refine Z6b (n:=32) (c:=32) Z Z Q0a Z Z Z ?_;refine W1a ?_;rintro N4 ⟨o0,x2⟩;intro h4 E1 o2 e2;dsimp only[E3a];replace KQ:=KQ.trans x2;clear e2;replace o0:=o0.push_new S E1 o2;refine j0a o0 P4c Z Z (e1b l (wdL p.cells l) M1a y [] _ _ _ _ _ (H1.keep KQ) (H2.keep KQ) j3 W3.1 (O7a (o0.blk 0 Z) (by simp)) w2a Z2a) ?_;rintro B4 D4 Y0 z0 v2;replace KQ:=KQ.trans v2;obtain⟨_,_,_,rfl⟩:=Y0.form;have g0:=Y0 [] (by simp);refine lC0 Z U (x0a b0a [0,1,2,3,4,5,6] [7] [8,9] Z (Cl _ _ _ _) (Cl.start z0) ?_);obtain⟨_,E2,x3,N2,V1,i1,_,_,x1,N1⟩:=RdS.get ((H3.keep KQ)) (j) (by omega);obtain rfl:=Option.some.inj (V3.symm.trans V1);obtain⟨P2,_⟩:=N1;obtain rfl:N2=pc ((y:Int),(z:Int)):=P2;refine qO z0.q [.w 2,.o 3,.x E2 x3] Z ⟨⟨i1,by omega⟩,Z,⟨Z,Z⟩,U⟩ (r0a L1a Z Z Z ?_);refine i0a y0a Z (fun w1 hw=>by exact hw.2.cell List.not_mem_nil (x1 _ _ Z)) Z ?_;refine qN0 Z U (F4a ?_);refine Z6b (n:=32) (c:=32) Z Z Q0a Z Z Z ?_;refine W1a ?_;rintro O4 ⟨p0,T0⟩;intro i4 F1 p2 f2;dsimp only[E3a];replace KQ:=KQ.trans T0;replace g0:=g0.keep (T0.of_nil);clear f2;replace p0:=p0.push_new z0 F1 p2;refine j0a p0 P4c Z Z (e1b l (wdL p.cells l) M1a z [] _ _ _ _ _ (H1.keep KQ) (H2.keep KQ) j3 W3.2 (O7a (p0.blk 0 Z) (by simp)) w2a Z2a) ?_;rintro C4 E4 Z0 O0 Q0;replace KQ:=KQ.trans Q0;replace g0:=g0.keep (Q0.of_nil);obtain⟨_,_,_,rfl⟩:=Z0.form;have g2:=Z0 [] (by simp);have Q3:(stZ l (wdL p.cells l) y M1a).length=32:=by rw[m8a,w2a]
     have R3:(stZ l (wdL p.cells l) z M1a).length=32:=by rw[m8a,w2a]
     obtain⟨_,-,-⟩:=g0.len;obtain⟨_,-,-⟩:=g2.len;refine lC0 Z U (x0a b0a [0,1,2,3,4,5,6,7,8,9,10,11,12,13,14] [] [] Z (Cl _ _ _ _) (Cl.start O0) ?_);obtain⟨_,F2,y3,_,W1,j1,_,_,y1,O1⟩:=RdS.get ((H0.keep KQ)) (i) (by omega);obtain rfl:=Option.some.inj (Z1.symm.trans W1);obtain⟨rfl,_⟩:=id O1;obtain⟨_,G2,z3,_,p3,m1,_,_,B1,P1⟩:=RdS.get (g0) (c.toNat) (by omega);obtain⟨rfl,_⟩:=id P1;obtain⟨_,I2,B3,_,Y1,o1,_,_,C1,Q1⟩:=RdS.get ((H0.keep KQ)) (i) (by omega);obtain rfl:=Option.some.inj (Z1.symm.trans Y1);obtain⟨rfl,_⟩:=id Q1;obtain⟨_,J2,C3,_,q3,p1,_,_,D1,R1⟩:=RdS.get (g2) (c.toNat) (by omega);obtain⟨rfl,_⟩:=id R1;refine qB ((((O0.q.b D1).b C1).b B1).b y1) [.x F2 y3,.f 0 0,.x G2 z3,.f 1 0,.x I2 B3,.f 2 0,.x J2 C3,.f 3 0] Z ⟨Z,⟨p1,by omega⟩,Z,⟨o1,by omega⟩,Z,⟨m1,by omega⟩,Z,⟨j1,by omega⟩,U⟩ (fun a1=>by exact absurd (by have e1:=s9b hp hlc hon (d0a Z1) u4 T1 i2;rw[getD_some p3,getD_some q3] at e1;exact e1) a1) (fun a1=>?_);refine qD Z U ?_;rintro P4 ⟨t2,y2⟩;replace KQ:=KQ.trans y2;refine lP0 Z ⟨by omega,U⟩ ⟨μj-1,by omega,Z,(j+1),(by omega),(KQ),t2.tail.tail,Z⟩
    refine lP0 Z ⟨by omega,U⟩ ⟨μi-1,by omega,Z,(i+1),(by omega),(H0.keep (by exact KQ)),(H1.keep (by exact KQ)),(H2.keep (by exact KQ)),(H3.keep (by exact KQ)),(H4.keep (by exact KQ)),S.tail,Z⟩
   exact lT Z U Z ⟨Z,S.fin⟩
  exact lT Z U Z ⟨Z,P0.fin⟩
 exact lT Z U Z ⟨Z,t0.fin⟩
end Go.Fw
