/-
  Part 5 of 8 of the proof of InterfereRestriction: what it leans on. No conditions.
-/
import Derived.Test.YtlegngbbcckmnaaGreatDoorZInterfereRestriction4
set_option maxRecDepth 100000
set_option maxHeartbeats 4000000
namespace Go.Proofs.YtlegngbbcckmnaaGreatDoor
end Go.Proofs.YtlegngbbcckmnaaGreatDoor
namespace Go.Fw
open Go.Proofs.YtlegngbbcckmnaaGreatDoor Go.Proofs Go.RowKit Tryz
theorem D5a.over{wb w w1 w2:World}{v:Value}{l:List Int}{g:Nat}(h:D5a wb w v l)(Kx:w0a [] w w1)(Ks:w0a [g] w1 w2)(hg:g<wb.heap.size∨w.heap.size≤g)(_a0:l.length≤1000):RdI [] w2 v l:=by
 rcases hg with hg|hg
 ·exact(((h [g] (by simp;exact hg)).keep Kx.of_nil).keep Ks).less (by simp)
 ·exact((((h [] (by simp)).more (by omega) (fun x hx=>by rw[List.mem_singleton.1 hx];exact .inr hg)).keep Kx.of_nil).keep Ks).less (by simp)
theorem P7b.over{wb w w1 w2:World}{v:Value}{l:List (Int×Int)}{g:Nat}(h:P7b wb w v l)(Kx:w0a [] w w1)(Ks:w0a [g] w1 w2)(hg:g<wb.heap.size∨w.heap.size≤g)(_a0:l.length≤10000):u0b [] w2 v l:=by
 rcases hg with hg|hg
 ·exact(((h [g] (by simp;exact hg)).keep Kx.of_nil).keep Ks).less (by simp)
 ·exact((((h [] (by simp)).more (by omega) (fun x hx=>by rw[List.mem_singleton.1 hx];exact .inr hg)).keep Kx.of_nil).keep Ks).less (by simp)
noncomputable def allC(p:o0a)(t:Nat)(l:List Int):List Int:=A4b (l++(onE p t).sup 3) ((onE p t).sup 2)
def M4b(p:o0a)(t:Nat)(l:List Int)(x y:Nat):Prop:=∃a b,ofR (onE p t) (allC p t l) (wdL p.cells (allC p t l)) (2 ^ (U1a (wdL p.cells (allC p t l))).toNat) a b∧x=nuZ l (wdL p.cells l) (stZ (allC p t l) (wdL p.cells (allC p t l)) a H1a)∧y=nuZ l (wdL p.cells l) (stZ (allC p t l) (wdL p.cells (allC p t l)) b H1a)
theorem N2c{p:o0a}{t:Nat}{l:List Int}{a0:Nat}(b0:U1a (wdL p.cells (allC p t l))=a0)(h6:a0≤6){m:List Nat}(hm:C4a m (ofR (onE p t) (allC p t l) (wdL p.cells (allC p t l)) (2 ^ a0)))(x y:Nat):
 ((x:Int),(y:Int))∈ddP ((v0b m 64).map (prj (allC p t l) (wdL p.cells (allC p t l)) l (wdL p.cells l)))↔M4b p t l x y:=by
 rw[D9a,List.mem_map];unfold M4b;rw[b0,Int.toNat_natCast];constructor
 ·rintro⟨q,hq,he⟩;obtain⟨a,b,-,-,h3,rfl⟩:=(hm.mem q).1 hq;unfold prj at he;simp only[Prod.mk.injEq,Int.toNat_natCast,Int.natCast_inj] at he;exact⟨a,b,h3,he.1.symm,he.2.symm⟩
 ·rintro⟨a,b,h3,rfl,rfl⟩;refine⟨((a:Int),(b:Int)),(hm.mem _).2 ⟨a,b,?_,?_,h3,Z⟩,?_⟩
  ·exact Nat.lt_of_lt_of_le h3.1 (Nat.pow_le_pow_right (n:=2) (j:=6) (by omega) h6)
  ·exact Nat.lt_of_lt_of_le h3.2.1 (Nat.pow_le_pow_right (n:=2) (j:=6) (by omega) h6)
  ·unfold prj;simp only[Int.toNat_natCast]
theorem H7b.congr{w0 w:World}{v:Value}{C W:List Int}{R R':Nat→Nat→Prop}{n:Nat}(h:H7b w0 w v C W R n)(hr:∀x y,R x y↔R' x y):H7b w0 w v C W R' n:=by
 obtain⟨a,b,c,l,h1,h2,h3,h4,h5,h6,h7⟩:=h.get;refine⟨a,b,c,l,h1,h2,h3,h4,h5,h6,fun p=>(h7 p).trans ?_⟩;constructor
 ·rintro⟨x,y,h,rfl⟩;exact⟨x,y,h.mono fun a b=>(hr a b).1,Z⟩
 ·rintro⟨x,y,h,rfl⟩;exact⟨x,y,h.mono fun a b=>(hr a b).2,Z⟩
theorem b0c(l:List Int):(u3a l).length=l.length:=by simp[u3a]
theorem x9a(p:o0a)(t:Nat)(l:List Int)(hr:C1a l)(hlc:∀c∈l,0≤c∧c<p.cells.length)(M:List Nat)(w0:World)(cs:List Value)(vl:Value)(hI:InP p M w0 cs)(hL:RdI M w0 vl l)(hon:onE p t≠zE)(p2:(onE p t).valid p.cells true=true)
 (C0:Nat) (hb:U1a (wdL p.cells l)=C0) (x0:Nat) (i2:U1a (wdL p.cells (allC p t l))=x0) (T0:x0≤6) (N1:∀c∈allC p t l,0≤c∧c<p.cells.length) (ht:t<p.threads.length:=by decide) (hb6:C0≤6:=by omega) :
 C0a prog 22 #[.agg cs.toArray,.int .i64 t,vl] w0 fun v w'=>(∃u,v=.tuple #[u,.int .i64 0]∧H7b w0 w' u l (wdL p.cells l) (M4b p t l) (2 ^ C0))∧Below w0.heap.size w0 w':=by
 obtain⟨Ac,nc,cc,Am,nm,cm,Al,nl,cl,At,nt,ct,rfl,hC,_⟩:=hI.rd.open_;obtain⟨A,n,c,rfl⟩:=hL.form;have hM:=hI.lt;have hp:=hI.ok;have t1:∀c∈p.cells,1≤c.w∧c.w≤8:=fun c hc=>by have:=(hp.cells c hc).w;omega
 have y0:=hp.ncells;have ho:=Y5a hr hlc y0 t1;have r1:=W3a (l++(onE p t).sup 3) ((onE p t).sup 2);have q2:C1a (allC p t l):=r1.1;have z3:=Y5a q2 N1 y0 t1;have s5:=ho.clen;have k4:=z3.clen;have x5:=j8a (onE p t) 3;have w5:=j8a (onE p t) 2;have M4:=(s1a p2).1;have v5:=z0d M4;have U2:(onE p t).w=1:=by
  rcases x5a (op:=5) (unit:=1) (.inr Z) (g7a p t::(ofL p t).map (j4a p)) with h|h
  ·exact absurd h hon
  ·exact h.2
 have Q2:∀q∈[l,(onE p t).sup 3,(onE p t).sup 2],q.length≤1000:=fun q hq=>by
  simp only[List.mem_cons,List.not_mem_nil,or_false] at hq;rcases hq with rfl|rfl|rfl<;>omega
 have R1:[l,(onE p t).sup 3,(onE p t).sup 2].flatten=(l++(onE p t).sup 3)++(onE p t).sup 2:=by simp
 have v3:∀x∈allC p t l,i64 x:=fun x hx=>by have:=N1 x hx;unfold i64;omega
 have W0:(allC p t l).length≤140737488355328:=by omega
 have S:=(St.refl w0).nilEnt 72;refine j9a func22 Z ntmps22 Z (wI ?_);refine wO0 Z U (p0a S Z ?_);intro g3 w3 S3 X3 G3;refine g0a S3 y6a Z Z ?_;intro g6 w6 S6 X6 G6;refine lB0 Z U (fun h4=>by exfalso;omega) fun h4=>?_;refine lB S6.k [.o 1] Z ⟨Z,U⟩ (fun j4=>by exfalso;omega) fun j4=>?_;refine lO S6.k [.w 1] Z ⟨⟨Z,Z⟩,U⟩ (f0a S6 s7b Z Z (r6a p M _ _ (hI.keep (S6.keep0 M))) ?_);intro F3 f1 f5;refine lO f1.k [.o 1] Z ⟨Z,U⟩ ?_;have i5:w0.heap.size≤F3.heap.size:=f1.size;have K1:∀g∈[g6],g<F3.heap.size:=fun g hg=>by rw[List.mem_singleton.1 hg];exact f1.lt 0 Z
 refine j0a f1 F9c Z Z (e5b p.cells l M _ _ _ (hC.keep (f1.keep0 M)) (hL.keep (f1.keep0 M)) hr hlc y0 t1 (by omega) (hI.msk.keep (f1.keep0 M))) ?_;rintro B5 Y2 ⟨a,b,_,_,rfl,ha,x3,hd⟩ Q3 g5;obtain⟨A1,n1,c1,rfl⟩:=ha.form;obtain⟨A2,n2,c2,rfl⟩:=x3.form;obtain⟨A3,n3,c3,rfl⟩:=hd.form;have KQ:=w0a.refl [g6] Y2;refine lO0 Z U (g0a Q3 y6a Z Z ?_);intro g8 w8 S8 X8 G8;have t2:=Nat.le_trans KQ.size G8;replace KQ:=KQ.trans (X8.of_nil);refine c0a (kk:=0) (vs:=[_,_,_]) S8 B6a Z Z Z Z Z Z Z ?_;intro U4 P0 y2;dsimp only[h0a,List.set] at P0;replace KQ:=KQ.fresh2 y2 (by exact .inl t2);refine lB0 Z U (fun m4=>by exfalso;omega) fun m4=>?_;refine lO P0.k [.w 2] Z ⟨⟨Z,Z⟩,U⟩ (j0a P0 d2c Z Z (C7c (ht:=ht) p t M _ _ (hI.keep (P0.keep0 M))) ?_);rintro v45 H3 ⟨_,rfl,Y1⟩ R3 W3;replace KQ:=KQ.trans (W3.of_nil);obtain⟨a3,D3,E3,rfl,_⟩:=Y1.cells;have KE:=w0a.refl M H3;refine g0a R3 R1a Z Z ?_;intro s3 J5 P3 j3 b3;have y1:=Nat.le_trans KQ.size b3;have x1:=Nat.le_trans KE.size b3;replace KQ:=KQ.trans (j3.of_nil);replace KE:=KE.trans (j3.of_nil);refine c0a (kk:=0) (vs:=[_,_,_,_]) P3 g1a Z Z Z Z Z Z Z ?_;intro Z2 v0 G1;dsimp only[h0a,List.set] at v0;replace KQ:=KQ.fresh2 G1 (by exact .inl y1);replace KE:=KE.fresh2 G1 (by exact .inl x1);refine lB v0.k [.o 0] Z ⟨Z,U⟩ (fun o4=>by exfalso;omega) fun o4=>?_;refine lB0 Z U (fun p4=>by exfalso;omega) fun p4=>?_;refine lO v0.k [.w 0] Z ⟨⟨Z,Z⟩,U⟩ ?_;have a4:∀g∈M,g<Z2.heap.size:=fun g hg=>Nat.lt_of_lt_of_le (hM g hg) v0.size;refine j0a v0 h7b Z Z (u4a (onE p t) M _ _ (RdE.keep KE _ _ Y1) (hI.msk.keep (v0.keep0 M)) a4) ?_;rintro C5 V4 ⟨_,_,rfl,M1,O1⟩ T3 o3;replace KQ:=KQ.trans (o3.of_nil);replace KE:=KE.trans (o3.of_nil);obtain⟨A4,n4,c4,rfl⟩:=M1.form;obtain⟨A5,n5,c5,rfl⟩:=O1.form;have KS:=w0a.refl M V4;refine lO0 Z U (k0a T3 K9a (vs:=[.slice _ _ _,.slice _ _ _,.slice _ _ _]) (cs:=[_,_,_]) Z Z Z Z Z Z ?_);intro F2 L5 s1 z2 Z4;replace KQ:=KQ.trans (z2.of_nil);replace KE:=KE.trans (z2.of_nil);replace KS:=KS.trans (z2.of_nil);have j5:=KE.size;have b4:=KQ.size;refine j0a s1 C4c Z Z (o4b M _ F2 [l,(onE p t).sup 3,(onE p t).sup 2] Q2 (by simp) (c3d (s1.cell 0 Z Z) (s1.cell 0 Z Z) (s1.cell 0 Z Z) (hL.keep (s1.keep0 M)) (M1.keep KS) (O1.keep KS))) ?_;rintro D5 M5 ⟨z0,E2,q1,o1⟩ U3 p3;have D1:=U3.pushO s1 o1;rw[R1] at q1;have j2:∀g∈z0.toList,H3.heap.size≤g∨g∈M:=fun g hg=>.inl (by have:=(o1 g (by cases z0<;>simp at hg ⊢;exact hg.symm)).1;omega);have o2:∀g∈z0.toList,Y2.heap.size≤g∨g∈[g6]:=fun g hg=>.inl (by have:=(o1 g (by cases z0<;>simp at hg ⊢;exact hg.symm)).1;omega);replace KE:=KE.trans p3.of_nil;replace KQ:=KQ.trans p3.of_nil;obtain⟨_,_,_,rfl⟩:=q1.form;refine lO0 Z U ?_;refine F1a g1c Z Z (E3c _ z0 _ E2 _ _ q1 (fun g hg=>by subst hg;exact D1.blk 0 Z) (by simp;omega)) ?_;rintro E5 Z1 ⟨J1,r2,H2,V1⟩;have b2:=D1.changedO 0 Z r2 H2;dsimp only[List.set] at b2;replace KE:=KE.freshL r2.keepO j2;replace KQ:=KQ.freshL r2.keepO o2;refine lCn 2 b2.k [] Z U (wX (fun D ε w=>D=[]∧∃J0:Nat,∃D0:List Value,∃B1:Option Addr,∃m1:Nat,∃d1:Nat,∃B2:Option Addr,∃m2:Nat,∃d2:Nat,∃B3:Option Addr,∃m3:Nat,∃d3:Nat,∃m:List Nat,(C4a m (ofR (onE p t) (allC p t l) (wdL p.cells (allC p t l)) (2 ^ x0)))∧(RdI [] w (.slice B1 m1 d1) (allC p t l))∧(RdI [] w (.slice B2 m2 d2) (wdL p.cells (allC p t l)))∧(u0b [] w (.slice B3 m3 d3) (v0b m 64))∧(w0a [g6] Y2 w)∧St [] w0 w [(some J0,41,[.slice B1 m1 d1,.slice B2 m2 d2,.slice B3 m3 d3]),(z0,3,D0),(some F2,28,[.slice A n c,.slice A4 n4 c4,.slice A5 n5 c5]),(some s3,37,[.int .i64 (onE p t).op,.int .i64 (onE p t).w,.int .i64 (onE p t).n,.slice a3 D3 E3]),(some g8,41,[.slice A1 n1 c1,.slice A2 n2 c2,.slice A3 n3 c3]),(some g6,41,[.slice none 0 0,.slice none 0 0,.slice none 0 0]),(some g3,27,[.slice Ac nc cc,.slice Am nm cm,.slice Al nl cl,.slice At nt ct]),(none,72,[])]∧Sl ε [(6,.pointer (some ⟨g6,0,none⟩)),(8,.pointer (some ⟨g8,0,none⟩)),(9,.int .i64 0),(14,.pointer (some ⟨J0,0,none⟩))]) ?_ ?_)
 ·have y5:(u3a ((l++(onE p t).sup 3)++(onE p t).sup 2)).length≤1000000:=by rw[b0c];simp;omega
  obtain⟨wt,N4⟩:∃x,x=Z1:=⟨_,Z⟩;have KT:w0a [] wt Z1:=N4▸w0a.refl _ _;refine E9b b0a (fun i=>[0,1,2,4,6,7,8,11].contains i) (.op 0 (.op 1 (.op 2 (.op 4 (.two (.op 3 (.two (.op 5 (.op 6 (.op 7 (.op 8 (.op 9 (.op 10 (.op 11 .nil))))))) (.op 9 (.op 5 (.op 6 (.op 7 (.op 8 (.op 10 (.op 11 .nil))))))))) (.op 9 (.op 3 (.op 5 (.op 6 (.op 7 (.op 8 (.op 10 (.op 11 .nil))))))))))))) (clE b2 0 z0.toList) ?_;have g0:=b2.drew;have I1:w0a [] Z1 Z1.drew:=F4a _ _;generalize Z1.drew=X4 at g0 I1 ⊢;have o0:w0a (z0.toList) _ _:=I1.of_nil;refine Q1a ⟨St.er (g0) 0,o0⟩ Z Z Z ?_;refine i1a T1c Z Z ?_;refine n0a ?_;refine Q1a ⟨St.er (g0) 0,o0⟩ Z Z Z ?_;refine i0a s1b Z (fun w1 hw=>by exact hw.1.cell 4 Z Z) Z ?_;refine n0a ?_;refine Q1a ⟨St.er (g0) 0,o0⟩ Z Z Z ?_;refine m1a Z ?_;refine n0a ?_;refine Q1a ⟨St.er (g0) 0,o0⟩ Z Z Z ?_;refine y2a F0a Z (fun w1 hw=>hw.1.cells 1 Z) Z Z ?_;refine n0a ?_;refine w1c ?_ ?_
  ·refine C5a ⟨St.er (g0) 0,o0⟩ Z Z Z ?_;refine F1a s5c Z Z (q9a _ z0 _ J1 _ _ V1 (fun g hg=>by subst hg;exact g0.blk 0 Z)) ?_;rintro v70 a2 ⟨D0,u1,j1,E0⟩;have j0:=o0.trans u1.keepO;have n0:=g0.changedO 0 Z u1 j1;dsimp only[List.set] at n0;have g2:RdI [] a2 v70 (allC p t l):=by
    exact E0.rdI n0 (k:=0) Z (by simp) v3 W0
   obtain⟨J3,R4,e4,rfl⟩:=E0.form;refine W0a ⟨Z,?_⟩;refine w1c ?_ ?_
   ·refine C5a ⟨St.er (n0) 0,j0⟩ Z Z Z ?_;have r3:∀g∈M,g<a2.heap.size:=fun g hg=>Nat.lt_of_lt_of_le (hM g hg) n0.size;refine j0a n0 f1c Z Z (A5b p.cells (allC p t l) (onE p t) [] _ _ _ _ ((hC.keep (n0.keep0 M)).less (by simp)) (g2.keep (by exact w0a.refl _ _)) (RdE.less (by simp) _ _ (RdE.keep (KE.freshL j0 j2) _ _ Y1)) q2 N1 y0 t1 x0 i2 T0 ⟨List.not_mem_nil,(hI.msk.keep (n0.keep0 M)).2⟩ p2 U2 (fun x hx=>(r1.2 x).2 (.inl (List.mem_append_right _ hx))) (fun x hx=>(r1.2 x).2 (.inr hx))) ?_;rintro v72 I3 ⟨a8,b8,c8,m,rfl,X0,Y0,Z0,hm⟩ p0 H1;obtain⟨B1,m1,d1,rfl⟩:=X0.form;obtain⟨B2,m2,d2,rfl⟩:=Y0.form;obtain⟨B3,m3,d3,rfl⟩:=Z0.form;have c0:=j0.trans H1.of_nil;refine W0a ⟨Z,?_⟩;refine Q1a ⟨St.er (p0) 0,c0⟩ Z Z Z ?_;refine m1a Z ?_;refine n0a ?_;refine Q1a ⟨St.er (p0) 0,c0⟩ Z Z Z ?_;refine q3a Z Z Z ?_;refine n0a ?_;refine Q1a ⟨St.er (p0) 0,c0⟩ Z Z Z ?_;refine q3a Z Z Z ?_;refine n0a ?_;refine C5a ⟨St.er (p0) 0,c0⟩ Z Z Z ?_;refine g0a p0 y6a Z Z ?_;intro J0 W2 r0 Q0 U0;have d0:=c0.trans (Q0.mono (by simp));refine W0a ⟨Z,?_⟩;refine C5a ⟨St.er (r0.tail) 0,d0⟩ Z Z Z ?_;refine c0a (kk:=0) (vs:=[_,_,_]) r0 B6a Z Z Z Z Z Z Z ?_;intro H0 a0 b0;dsimp only[h0a,List.set] at a0;have f0:=d0.fresh2 b0 (.inl (by exact Nat.le_trans c0.size U0));refine W0a ⟨Z,?_⟩;refine Q1a ⟨St.er (a0.tail) 0,f0⟩ Z Z Z ?_;refine t4a (v:=.int .i64 _) Z Z ?_;refine n0a ?_;refine M0b ⟨St.er (a0.tail) 0,f0⟩ ?_;refine fP0 Z U ⟨Z,(J0),(_),(_),(_),(_),(_),(_),(_),(_),(_),(_),(m),(hm),?_,?_,?_,(KQ.freshL f0 o2),a0,Z⟩
    ·exact X0.over (by exact Q0) b0 (by exact .inr U0) (by omega)
    ·exact Y0.over (by exact Q0) b0 (by exact .inr U0) (by rw[List.length_map];omega)
    ·exact Z0.over (by exact Q0) b0 (by exact .inr U0) (by have:=N3a m 64;omega)
   refine C5a ⟨St.er (n0) 0,j0⟩ Z Z Z ?_;refine g0a n0 y6a Z Z ?_;intro J0 W2 r0 Q0 U0;have d0:=j0.trans (Q0.mono (by simp));refine W0a ⟨Z,?_⟩;refine C5a ⟨St.er (r0.tail) 0,d0⟩ Z Z Z ?_;have r3:∀g∈M,g<W2.heap.size:=fun g hg=>Nat.lt_of_lt_of_le (hM g hg) r0.size;refine j0a r0 f1c Z Z (A5b p.cells (allC p t l) (onE p t) [] _ _ _ _ ((hC.keep (r0.keep0 M)).less (by simp)) (g2.keep (by exact Q0)) (RdE.less (by simp) _ _ (RdE.keep (KE.freshL d0 j2) _ _ Y1)) q2 N1 y0 t1 x0 i2 T0 ⟨List.not_mem_nil,(hI.msk.keep (r0.keep0 M)).2⟩ p2 U2 (fun x hx=>(r1.2 x).2 (.inl (List.mem_append_right _ hx))) (fun x hx=>(r1.2 x).2 (.inr hx))) ?_;rintro v72 I3 ⟨a8,b8,c8,m,rfl,X0,Y0,Z0,hm⟩ p0 H1;obtain⟨B1,m1,d1,rfl⟩:=X0.form;obtain⟨B2,m2,d2,rfl⟩:=Y0.form;obtain⟨B3,m3,d3,rfl⟩:=Z0.form;have c0:=d0.trans H1.of_nil;refine W0a ⟨Z,?_⟩;refine Q1a ⟨St.er (p0.tail) 0,c0⟩ Z Z Z ?_;refine m1a Z ?_;refine n0a ?_;refine Q1a ⟨St.er (p0.tail) 0,c0⟩ Z Z Z ?_;refine q3a Z Z Z ?_;refine n0a ?_;refine Q1a ⟨St.er (p0.tail) 0,c0⟩ Z Z Z ?_;refine q3a Z Z Z ?_;refine n0a ?_;refine C5a ⟨St.er (p0.tail) 0,c0⟩ Z Z Z ?_;refine c0a (kk:=0) (vs:=[_,_,_]) p0 B6a Z Z Z Z Z Z Z ?_;intro H0 a0 b0;dsimp only[h0a,List.set] at a0;have f0:=c0.fresh2 b0 (.inl (by exact Nat.le_trans j0.size U0));refine W0a ⟨Z,?_⟩;refine Q1a ⟨St.er (a0.tail) 0,f0⟩ Z Z Z ?_;refine t4a (v:=.int .i64 _) Z Z ?_;refine n0a ?_;refine M0b ⟨St.er (a0.tail) 0,f0⟩ ?_;refine fP0 Z U ⟨Z,(J0),(_),(_),(_),(_),(_),(_),(_),(_),(_),(_),(m),(hm),?_,?_,?_,(KQ.freshL f0 o2),a0,Z⟩
   ·exact X0.over (by exact w0a.refl _ _) b0 (by exact .inl (r0.lt 0 Z)) (by omega)
   ·exact Y0.over (by exact w0a.refl _ _) b0 (by exact .inl (r0.lt 0 Z)) (by rw[List.length_map];omega)
   ·exact Z0.over (by exact w0a.refl _ _) b0 (by exact .inl (r0.lt 0 Z)) (by have:=N3a m 64;omega)
  refine C5a ⟨St.er (g0) 0,o0⟩ Z Z Z ?_;refine g0a g0 y6a Z Z ?_;intro J0 W2 r0 Q0 U0;have d0:=o0.trans (Q0.mono (by simp));refine W0a ⟨Z,?_⟩;refine C5a ⟨St.er (r0.tail) 0,d0⟩ Z Z Z ?_;refine F1a s5c Z Z (q9a _ z0 _ J1 _ _ V1 (fun g hg=>by subst hg;exact r0.blk 1 Z)) ?_;rintro v70 a2 ⟨D0,u1,j1,E0⟩;have j0:=d0.trans u1.keepO;have n0:=r0.changedO 1 Z u1 j1;dsimp only[List.set] at n0;have g2:RdI [] a2 v70 (allC p t l):=by
   exact E0.rdI n0 (k:=1) Z (by simp) v3 W0
  obtain⟨J3,R4,e4,rfl⟩:=E0.form;refine W0a ⟨Z,?_⟩;refine C5a ⟨St.er (n0.tail) 0,j0⟩ Z Z Z ?_;have r3:∀g∈M,g<a2.heap.size:=fun g hg=>Nat.lt_of_lt_of_le (hM g hg) n0.size;refine j0a n0 f1c Z Z (A5b p.cells (allC p t l) (onE p t) [] _ _ _ _ ((hC.keep (n0.keep0 M)).less (by simp)) (g2.keep (by exact w0a.refl _ _)) (RdE.less (by simp) _ _ (RdE.keep (KE.freshL j0 j2) _ _ Y1)) q2 N1 y0 t1 x0 i2 T0 ⟨List.not_mem_nil,(hI.msk.keep (n0.keep0 M)).2⟩ p2 U2 (fun x hx=>(r1.2 x).2 (.inl (List.mem_append_right _ hx))) (fun x hx=>(r1.2 x).2 (.inr hx))) ?_;rintro v72 I3 ⟨a8,b8,c8,m,rfl,X0,Y0,Z0,hm⟩ p0 H1;obtain⟨B1,m1,d1,rfl⟩:=X0.form;obtain⟨B2,m2,d2,rfl⟩:=Y0.form;obtain⟨B3,m3,d3,rfl⟩:=Z0.form;have c0:=j0.trans H1.of_nil;refine W0a ⟨Z,?_⟩;refine Q1a ⟨St.er (p0.tail) 0,c0⟩ Z Z Z ?_;refine m1a Z ?_;refine n0a ?_;refine Q1a ⟨St.er (p0.tail) 0,c0⟩ Z Z Z ?_;refine q3a Z Z Z ?_;refine n0a ?_;refine Q1a ⟨St.er (p0.tail) 0,c0⟩ Z Z Z ?_;refine q3a Z Z Z ?_;refine n0a ?_;refine C5a ⟨St.er (p0.tail) 0,c0⟩ Z Z Z ?_;refine c0a (kk:=0) (vs:=[_,_,_]) p0 B6a Z Z Z Z Z Z Z ?_;intro H0 a0 b0;dsimp only[h0a,List.set] at a0;have f0:=c0.fresh2 b0 (.inl (by exact Nat.le_trans o0.size U0));refine W0a ⟨Z,?_⟩;refine Q1a ⟨St.er (a0.tail) 0,f0⟩ Z Z Z ?_;refine t4a (v:=.int .i64 _) Z Z ?_;refine n0a ?_;refine M0b ⟨St.er (a0.tail) 0,f0⟩ ?_;refine fP0 Z U ⟨Z,(J0),(_),(_),(_),(_),(_),(_),(_),(_),(_),(_),(m),(hm),?_,?_,?_,(KQ.freshL f0 o2),a0,Z⟩
  ·exact X0.over (by exact w0a.refl _ _) b0 (by exact .inl (n0.lt 0 Z)) (by omega)
  ·exact Y0.over (by exact w0a.refl _ _) b0 (by exact .inl (n0.lt 0 Z)) (by rw[List.length_map];omega)
  ·exact Z0.over (by exact w0a.refl _ _) b0 (by exact .inl (n0.lt 0 Z)) (by have:=N3a m 64;omega)
 rintro D ε w ⟨rfl,J0,D0,B1,m1,d1,B2,m2,d2,B3,m3,d3,m,hm,w4,L4,D4,KQ,S,eZ⟩;refine wK eZ ?_;obtain⟨wc,KC,J2,V2,O2,R2,T2⟩:∃wc,w0a [] wc w∧RdI [] wc (.slice B1 m1 d1) (allC p t l)∧RdI [] wc (.slice B2 m2 d2) (wdL p.cells (allC p t l))∧u0b [] wc (.slice B3 m3 d3) (v0b m 64)∧RdI [g6] wc (.slice A1 n1 c1) l∧RdI [g6] wc (.slice A2 n2 c2) (wdL p.cells l):=⟨w,w0a.refl _ _,w4,L4,D4,(ha [g6] K1).keep KQ,(x3 [g6] K1).keep KQ⟩;refine wB0 Z U (fun q4=>by exfalso;omega) fun q4=>?_;have N3:=KC.size;refine lO0 Z U (g0a S B2d Z Z ?_);intro m0 T4 v2 V3 M3;replace KC:=KC.trans V3;have O3:wc.heap.size≤m0:=Nat.le_trans (by exact N3) M3;refine lO v2.k [.w 1,.o 5,.o 5] Z ⟨Z,Z,⟨Z,Z⟩,U⟩ (E0a v1b (vs:=[(0,.slice _ _ _),(1,.slice _ _ _)]) (cs:=[_,_,_]) Z Z Z Z ?_);have d5:m0<T4.heap.size:=v2.lt 0 Z;have e5:=KC.size;refine j0a v2 F0d Z Z (z8b _ _ _ _ _ _ _ _ _ _ _ _ _ _ _ _ _ _ _) ?_;rintro F5 O0 ⟨ga,gb,rfl,_,_,P1,Q1⟩ E1 Y3;replace KC:=KC.trans Y3;refine lC0 Z U (wJ ?_);refine e0b (vs:=fun y=>#[y,_,_]) d9c Z (fun _=>rfl) (fun rc wi S2 C3 I4 K2 H4 t4 u4 z4 hl hB z5=>?_);obtain⟨lp,E4⟩:∃lp,lp=O0.heap.size+1:=⟨_,Z⟩;have u3:=y9a (NC.nil (w:=O0)) z4 hl hB;rw[←E4] at hl u3 ⊢;have Si:=E1.later hB;have Ki:w0a [] O0 wi:=w0a.of_below hB;have Zw:=E1.size;have O4:=E1.lt 0 Z;have S4:w0.heap.size≤m0:=by simpa using E1.new 0 Z
 have P4:=P1.lt;have Q4:=Q1.lt;simp only at P4 Q4;have p1:∀x∈[(O0.heap.size,Obj.deferred (some []))],x.1≠lp:=fun x hx=>by
  rcases List.mem_cons.1 hx with rfl|hx
  ·show O0.heap.size≠lp;omega
  ·cases hx
 have L2:ga∉[lp,m0]:=fun hh=>by
  simp only[List.mem_cons,List.not_mem_nil,or_false] at hh;omega
 have N2:gb∉[lp,m0]:=fun hh=>by
  simp only[List.mem_cons,List.not_mem_nil,or_false] at hh;omega
 have f2:∀g∈[lp,m0],g∈([]:List Nat)∨wc.heap.size≤g:=fun g hg=>by
  simp only[List.mem_cons,List.not_mem_nil,or_false] at hg;right;have h1:=KC.size;rcases hg with rfl|rfl
  ·omega
  ·exact O3
 have u2:w0a [lp,m0] wc wi:=(KC.trans Ki).of_nil;have t3:∀g∈g6::[lp,m0],g∈[g6]∨wc.heap.size≤g:=fun g hg=>by
  rcases List.mem_cons.1 hg with rfl|h
  ·exact .inl (by simp)
  ·exact .inr ((f2 g h).elim (fun h=>by cases h) id)
 have U1:RdI (g6::[lp,m0]) wi (.slice A1 n1 c1) l:=(R2.more (by omega) t3).keep (KC.trans Ki).of_nil;have X1:RdI (g6::[lp,m0]) wi (.slice A2 n2 c2) (wdL p.cells l):=(T2.more (by omega) t3).keep (KC.trans Ki).of_nil;have F4:RdI [lp,m0] wi (.slice A1 n1 c1) l:=U1.less (fun g hg=>List.mem_cons_of_mem _ hg);have J4:RdI [lp,m0] wi (.slice A2 n2 c2) (wdL p.cells l):=X1.less (fun g hg=>List.mem_cons_of_mem _ hg);have v4:RdI [lp,m0] wi (.slice B1 m1 d1) (allC p t l):=(J2.more (by omega) f2).keep u2;have K4:RdI [lp,m0] wi (.slice B2 m2 d2) (wdL p.cells (allC p t l)):=(V2.more (by omega) f2).keep u2;have C4:u0b [lp,m0] wi (.slice B3 m3 d3) (v0b m 64):=(O2.more (by omega) f2).keep u2;refine C0a.mono (D5b (allC p t l) (wdL p.cells (allC p t l)) l (wdL p.cells l) (v0b m 64) C0 lp ga gb _ _ [lp,m0] wi (fun Ps k w=>NC w [(lp,.loop rc),(O0.heap.size,.deferred (some []))]∧(∃G cs v,V1a M8a 2 [] w0 G cs v k∧(∀x∈G.toList,wi.heap.size≤x∧x∉Ps)∧(∀x∈k,i64 x.1∧i64 x.2)∧St [] w0 w [(some m0,32,[v]),(some J0,41,[.slice B1 m1 d1,.slice B2 m2 d2,.slice B3 m3 d3]),(z0,3,D0),(some F2,28,[.slice A n c,.slice A4 n4 c4,.slice A5 n5 c5]),(some s3,37,[.int .i64 (onE p t).op,.int .i64 (onE p t).w,.int .i64 (onE p t).n,.slice a3 D3 E3]),(some g8,41,[.slice A1 n1 c1,.slice A2 n2 c2,.slice A3 n3 c3]),(some g6,41,[.slice none 0 0,.slice none 0 0,.slice none 0 0]),(some g3,27,[.slice Ac nc cc,.slice Am nm cm,.slice Al nl cl,.slice At nt ct]),(G,72,cs)])∧w0a [lp,m0] wi w∧(∀g∈Ps,wi.heap.size≤g∧g<w.heap.size)) _ _ _ _ _ _ (T0a Ki P1) (T0a Ki Q1) L2 N2 F4 J4 v4 K4 C4 ho z3 hb hb6 (by omega) ⟨none,0,0,Z⟩ (fun x hx=>by obtain⟨a,b,h1,h2,-,rfl⟩:=k2b.1 hx;simp only;omega) (N3a m 64) ⟨?_,?_,fun Ps k w h=>h.2.2.1,fun Ps k w a hJ u5 t5=>?_⟩) ?_
 ·intro Ps w G2 N0;exact⟨u3.keep (w0a.of_below G2),⟨none,[],.slice none 0 0,V1a.nil,by simp,by simp,Si.later G2⟩,w0a.of_below G2,N0⟩
 ·rintro Ps k w w' ⟨u0,⟨G,cs,v,h1,h2,i4,S3⟩,K3,N0⟩ e2;exact⟨u0.keep (w0a.of_below e2),⟨G,cs,v,h1,h2,i4,S3.later e2⟩,K3.trans (w0a.of_below e2),fun g hg=>⟨(N0 g hg).1,Nat.lt_of_lt_of_le (N0 g hg).2 e2.size⟩⟩
 ·obtain⟨u0,⟨G,cs,v,F0,T1,P2,S3⟩,K3,N0⟩:=hJ;obtain⟨Av,nv,cv,rfl⟩:=F0.form;have Kr:=w0a.refl ([lp,m0]++G.toList) w;refine p6c (u0 (lp,.loop rc) (by simp)).1 S2 I4 K2 H4 t4 u4 Z ?_;refine wI ?_;refine wO0 Z U (g0a S3 f5b Z Z ?_);intro q5 K5 h3 x2 e3;have v1:=Nat.le_trans K3.size e3;have z1:=Nat.le_trans Kr.size e3;replace K3:=K3.trans (x2.of_nil);replace Kr:=Kr.trans (x2.of_nil);replace u0:=u0.keep x2;refine c0a (kk:=0) (vs:=[_,_]) h3 G4b Z Z Z Z Z Z Z ?_;intro I0 V0 A0;dsimp only[h0a,List.set] at V0;replace K3:=K3.fresh2 A0 (by exact .inl v1);replace Kr:=Kr.fresh2 A0 (by exact .inl z1);replace u0:=by exact u0.keepS A0 (h3.blk 0 Z)
  refine lF0 Z U ?_;refine⟨(u0 (lp,.loop rc) (by simp)).1,?_⟩;have Sb:=V0.putObj (.loop { rc with state:=.busy }) u0 (List.mem_cons_self) (.inl (by omega));have L0:=u0.put (o':=.loop { rc with state:=.busy }) p1 (by simp);have Kb:=K3.fresh2 (O2a I0 lp (.loop { rc with state:=.busy })) (.inr (by simp));have Kbr:=Kr.fresh2 (O2a I0 lp (.loop { rc with state:=.busy })) (.inr (by simp));generalize I0.putObj lp (.loop { rc with state:=.busy })=wb at Sb L0 Kb Kbr ⊢;refine wI ?_;refine wO0 Z U (H0a C8a Z (by exact Sb.cell 1 Z Z) Z ?_);refine lO Sb.k [.w 0] Z ⟨⟨Z,by rfl⟩,U⟩ (k0a Sb p3a (vs:=[.agg _]) (cs:=[_,_]) Z Z Z Z Z Z ?_);intro r5 N5 w2 C2 a5;replace Kb:=Kb.trans (C2.of_nil);replace Kbr:=Kbr.trans (C2.of_nil);replace L0:=L0.keep C2;have d4:=Kb.size;have h5:=Kbr.size;refine w1a W8a (k:=10) (M2:=[]) (e1:=a) w2 p3a Z F0 Z Z (w2.cells 0 Z) ⟨Z,by unfold i64;omega,by unfold i64;omega⟩ (by omega) Z ?_;intro G5 b5 g4 O5 i3 G0 D2 L3;replace Kb:=Kb.freshL D2 (fun g hg=>.inl (T1 g hg).1);replace Kbr:=Kbr.trans (D2.mono (fun g hg=>List.mem_append_right _ hg));replace L0:=L0.keepL D2 (d2b w2 10 Z);obtain⟨_,_,_,rfl⟩:=G0.form;refine h1a (kk:=2) i3 G1d Z Z Z (by exact Nat.le_of_ble_eq_true Z) ?_;intro a1 C1 B0;replace Kb:=Kb.fresh2 B0 (by exact .inr (by simp));replace Kbr:=Kbr.fresh2 B0 (by exact .inr (by simp));replace L0:=by exact L0.keepS B0 (i3.blk 2 Z)
  refine lF0 Z U ?_;refine⟨{ rc with state:=.busy },(L0 (lp,_) (by simp)).1,Z,?_⟩;have r4:=L0.put (o':=.loop rc) p1 (by simp);have Sn:=C1.tail.tail.putObj (.loop rc) L0 (List.mem_cons_self) (.inl (by omega));have Kn:=Kb.fresh2 (O2a a1 lp (.loop rc)) (.inr (by simp));have f3:=Kbr.fresh2 (O2a a1 lp (.loop rc)) (.inr (by simp));rw[w7b S2 C3];refine⟨⟨r4,⟨_,_,_,G0,fun x hx=>?_,fun x hx=>?_,Sn⟩,Kn,fun g hg=>⟨(N0 g hg).1,Nat.lt_of_lt_of_le (N0 g hg).2 f3.size⟩⟩,fun g hg=>f3.same g (N0 g hg).2 (fun hh=>?_)⟩
  ·rcases L3 x hx with h|h
   ·exact T1 x h
   ·exact⟨Nat.le_trans d4 h,fun hh=>by have:=(N0 x hh).2;omega⟩
  ·rcases List.mem_append.1 hx with h|h
   ·exact P2 x h
   ·rw[List.mem_singleton.1 h];unfold i64;omega
  ·rcases List.mem_append.1 hh with h|h
   ·simp only[List.mem_cons,List.not_mem_nil,or_false] at h;have h1:=(N0 g hg).1;rcases h with rfl|rfl<;>omega
   ·exact(T1 g h).2 hg
 rintro v w3 ⟨Ps,u0,⟨G,f4,_,F0,T1,P2,S3⟩,K3,-⟩;obtain⟨Av,nv,cv,rfl⟩:=F0.form;refine⟨rc,(u0 (lp,.loop rc) (by simp)).1,by rw[S2];simp,.inl ⟨C3,?_⟩⟩;have Sa:=S3.putObj (.loop { rc with state:=.exhausted }) u0 (List.mem_cons_self) (.inl (by omega));have K0:=(u0.put (o':=.loop { rc with state:=.exhausted }) p1 (by simp)).tail;have Ka:=K3.fresh2 (O2a w3 lp (.loop { rc with state:=.exhausted })) (.inr (by simp));generalize w3.putObj lp (.loop { rc with state:=.exhausted })=wa at Sa K0 Ka ⊢;have B4:∀g∈G.toList,wi.heap.size≤g∨g∈[lp,m0]:=fun g hg=>.inl (T1 g hg).1;have s4:((v0b m 64).map (prj (allC p t l) (wdL p.cells (allC p t l)) l (wdL p.cells l))).length≤4096:=by rw[List.length_map];exact N3a m 64
 have p5:g6<O0.heap.size:=E1.lt 6 Z;refine fC0 Z U (E9b b0a (fun i=>[0,1,2,3,4,6,8,9,11].contains i) (.op 0 (.op 1 (.op 2 (.op 3 (.op 4 (.op 5 (.op 6 (.op 7 (.op 8 (.op 9 (.op 10 (.op 11 .nil)))))))))))) (n3d Sa 8 6 (g6::G.toList)) ?_);have i0:=Sa.drew;have i1:w0a [] wa wa.drew:=F4a _ _;generalize wa.drew=Y4 at i0 i1 ⊢;have t0:w0a (g6::G.toList) _ _:=i1.of_nil;replace K0:=K0.keep i1;refine Q1a ⟨St.er (St.er (i0) 8) 6,t0⟩ Z Z Z ?_;refine i1a o2c Z Z ?_;refine n0a ?_;refine Q1a ⟨St.er (St.er (i0) 8) 6,t0⟩ Z Z Z ?_;refine i0a G6a Z (fun w1 hw=>by exact hw.1.cell 5 Z Z) Z ?_;refine n0a ?_;refine Q1a ⟨St.er (St.er (i0) 8) 6,t0⟩ Z Z Z ?_;refine i1a S0c Z Z ?_;refine n0a ?_;refine Q1a ⟨St.er (St.er (i0) 8) 6,t0⟩ Z Z Z ?_;refine i0a G6a Z (fun w1 hw=>by exact hw.1.cell 5 Z Z) Z ?_;refine n0a ?_;refine Q1a ⟨St.er (St.er (i0) 8) 6,t0⟩ Z Z Z ?_;refine i0a C8a Z (fun w1 hw=>by exact hw.1.cell 0 Z Z) Z ?_;refine n0a ?_;refine C5a ⟨St.er (St.er (i0) 8) 6,t0⟩ Z Z Z ?_;refine F1a c0c Z Z (r4b _ G f4 _ _ F0 (fun g hg=>by subst hg;exact i0.blk 8 Z) (by omega)) ?_;rintro H5 W4 ⟨_,s2,I2,⟨_,_,_,rfl⟩,y4⟩;have R0:=t0.trans (s2.keepO.mono (fun g hg=>List.mem_cons_of_mem _ hg));have g1:=i0.changedO 8 Z s2 I2;dsimp only[List.set] at g1;replace K0:=K0.keepL s2.keepO (d2b i0 8 Z);refine W0a ⟨Z,?_⟩;refine Q1a ⟨St.er (St.er (g1) 8) 6,R0⟩ Z Z Z ?_;refine x2a r5c (vs:=[(0,.slice _ _ _),(1,.slice _ _ _),(2,.slice _ _ _)]) (cs:=[_,_,_]) Z Z Z Z ?_;refine n0a ?_;refine C5a ⟨St.er (St.er (g1) 8) 6,R0⟩ Z Z Z ?_;have o5:=g1.size;have b1:w0a (g6::[lp,m0]) wi W4:=(Ka.mono (fun g hg=>List.mem_cons_of_mem _ hg)).freshL R0 (fun g hg=>by
  rcases List.mem_cons.1 hg with rfl|h
  ·exact .inr List.mem_cons_self
  ·exact(B4 g h).imp id (List.mem_cons_of_mem _))
 refine j0a g1 n1d Z Z (B5b [] _ _ _ _ l (wdL p.cells l) _ C0 ((U1.keep b1).less (by simp)) ((X1.keep b1).less (by simp)) (y4 [] (by simp) P2) ho hb hb6 (fun x hx=>by obtain⟨a,-,rfl⟩:=List.mem_map.1 (D9a.1 hx);exact R1c ho.wid hb a) (m2c _)) ?_;rintro I5 P5 ⟨_,rfl,W1⟩ F1 q3;obtain⟨_,e1,_,_,_,_,_,_,_,rfl⟩:=W1.set3;have S0:=R0.trans q3.of_nil;replace K0:=K0.keep q3;refine W0a ⟨Z,?_⟩;refine Q1a ⟨St.er (St.er (F1) 8) 6,S0⟩ Z Z Z ?_;refine q3a Z Z Z ?_;refine n0a ?_;refine Q1a ⟨St.er (St.er (F1) 8) 6,S0⟩ Z Z Z ?_;refine q3a Z Z Z ?_;refine n0a ?_;refine C5a ⟨St.er (St.er (F1) 8) 6,S0⟩ Z Z Z ?_;refine c0a (kk:=6) (vs:=[_,_,_]) F1 B6a Z Z Z Z Z Z Z ?_;intro X2 e0 s0;dsimp only[h0a,List.set] at e0;have q0:=S0.trans (s0.mono (by simp));replace K0:=by exact K0.keepS s0 (F1.blk 6 Z)
 refine W0a ⟨Z,?_⟩;refine Q1a ⟨St.er (St.er (e0) 8) 6,q0⟩ Z Z Z ?_;refine t4a (v:=.int .i64 _) Z Z ?_;refine n0a ?_;refine M0b ⟨St.er (St.er (e0) 8) 6,q0⟩ ?_;refine fR0 Z U ?_;have Zk:=b1.size;have m5:=g1.lt 6 Z;have Z3:=g1.size;have x4:=W1.congr (R':=M4b p t l) (fun x y=>N2c i2 T0 hm x y);have G4:g6∉[O0.heap.size]:=by rw[List.mem_singleton];omega
 exact W7b (n:=3) Z Y3a Z Z Z [O0.heap.size] Z (by simp) K0 (e0.cells 6 Z) G4 (fun w' y3=>⟨⟨_,Z,x4.later (G:=[g6,O0.heap.size]) ((s0.mono (by simp)).trans ((w0a.of_belowM y3).mono (by simp))) (fun g hg=>by simp only[List.mem_cons,List.not_mem_nil,or_false] at hg;rcases hg with rfl|rfl<;>omega) Z3⟩,(B0a.step e0.below y3 (by simp;omega)).nil⟩)
theorem q4c{l:List E}{e:E}:e∈N1a l↔e∈l∧e.op≠1:=by unfold N1a;simp
theorem M7c{op:Int}(b0:op=5∨op=6){cells:List Z0a}{a0:Bool}{a b:E}(ha:a.over cells a0=true)(hb:b.over cells a0=true):(jnE op a b).over cells a0=true:=by
 rw[E.over_def,Bool.and_eq_true];refine⟨decide_eq_true ⟨fun h=>?_,fun h=>?_⟩,(E.overs_iff _ _ _).2 fun k hk=>?_⟩
 ·simp only[jnE] at h;omega
 ·simp only[jnE] at h;omega
 ·simp only[jnE,List.mem_cons,List.not_mem_nil,or_false] at hk;rcases hk with rfl|rfl
  ·exact ha
  ·exact hb
theorem K3b{op:Int}(b0:op=5∨op=6){cells:List Z0a}{a0:Bool}:∀(es:List E) (acc:E),acc.over cells a0=true→(∀e∈es,e.over cells a0=true)→(es.foldl (jnE op) acc).over cells a0=true
 | [],_,h,_=>h
 | e::es,acc,h,hl=>K3b b0 es _ (M7c b0 h (hl e (by simp))) fun x hx=>hl x (List.mem_cons_of_mem _ hx)
theorem z1b(w n:Int)(cells:List Z0a)(a0:Bool):(⟨1,w,n,[]⟩:E).over cells a0=true:=by
 rw[E.over_def,Bool.and_eq_true];exact⟨decide_eq_true ⟨fun h=>by simp only at h;omega,fun h=>by simp only at h;omega⟩,Z⟩
theorem a9b(cells:List Z0a)(a0:Bool):zE.over cells a0=true:=by
 rw[E.over_def,Bool.and_eq_true];exact⟨decide_eq_true ⟨fun h=>by simp only[zE] at h;omega,fun h=>by simp only[zE] at h;omega⟩,Z⟩
theorem Y7a{op unit:Int}(c0:op=5∨op=6){cells:List Z0a}{a0:Bool}{l:List E}(h:∀e∈l,e.over cells a0=true):(c3a op unit l).over cells a0=true:=by
 unfold c3a
 split
 ·split
  ·exact z1b _ _ _ _
  ·split
   ·have hk:∀e∈N1a l,e.over cells a0=true:=fun e he=>h e (q4c.1 he).1;cases b0:N1a l with
    | nil=>exact z1b _ _ _ _
    | cons e es=>rw[b0] at hk;exact K3b c0 es e (hk e (by simp)) fun x hx=>hk x (List.mem_cons_of_mem _ hx)
   ·exact a9b _ _
 ·exact a9b _ _
theorem w3b{p:o0a}{c:Int}(hc:0≤c∧c<p.cells.length):(j4a p c).over p.cells true=true:=by
 rw[E.over_def,Bool.and_eq_true];refine⟨decide_eq_true ⟨fun _=>rfl,fun h=>by simp only[j4a] at h;omega⟩,(E.overs_iff _ _ _).2 fun k hk=>?_⟩;simp only[j4a,List.mem_cons,List.not_mem_nil,or_false] at hk;rcases hk with rfl|rfl<;>rw[E.over_def,Bool.and_eq_true]
 ·exact⟨decide_eq_true ⟨fun _=>rfl,fun _=>⟨hc.2,Z⟩⟩,Z⟩
 ·exact⟨decide_eq_true ⟨fun _=>rfl,fun _=>⟨hc.2,Z⟩⟩,Z⟩
theorem r1c{p:o0a}{m:Int}(h:0≤m∧m<p.modules.length):∃md,p.modules[m.toNat]?=some md∧s0d p m.toNat=md:=by
 have h1:m.toNat<p.modules.length:=by omega
 refine⟨p.modules[m.toNat],List.getElem?_eq_getElem h1,?_⟩;unfold s0d;rw[List.getD_eq_getElem?_getD,List.getElem?_eq_getElem h1];rfl
theorem Z0c{p:o0a}(hp:p1a p){m:Int}(h:0≤m∧m<p.modules.length):(B3a p m).over p.cells true=true:=by
 obtain⟨md,hm,he⟩:=r1c h;unfold B3a y3b;rw[he];refine Y7a (.inl Z) fun e hx=>?_;rcases List.mem_cons.1 hx with rfl|hx
 ·exact(s1a (hp.modules md (List.mem_of_getElem? hm)).guar.1).2.2
 ·obtain⟨_,hc,rfl⟩:=List.mem_map.1 hx;have:=d8a.1 (List.mem_filter.1 hc).1;exact w3b ⟨this.1,this.2.1⟩
theorem U6c{p:o0a}(hp:p1a p)(t:Nat):(onE p t).over p.cells true=true:=by
 refine Y7a (.inl Z) fun e hx=>?_;rcases List.mem_cons.1 hx with rfl|hx
 ·refine Y7a (.inr Z) fun e hx=>?_;obtain⟨_,hm,rfl⟩:=List.mem_map.1 hx;exact Z0c hp (V7a hm)
 ·obtain⟨_,hc,rfl⟩:=List.mem_map.1 hx;have:=d8a.1 hc;exact w3b ⟨this.1,this.2.1⟩
theorem s6a{p:o0a}(hp:p1a p){t:Nat}(h:onE p t≠zE):(onE p t).valid p.cells true=true:=by
 rcases x5a (op:=5) (unit:=1) (.inr Z) (g7a p t::(ofL p t).map (j4a p)) with h1|h1
 ·exact absurd h1 h
 ·unfold E.valid;rw[Bool.and_eq_true];exact⟨h1.1,U6c hp t⟩
theorem O6b{p:o0a}(hp:p1a p){c:Int}(hc:0≤c∧c<p.cells.length):1≤wAt p.cells c∧wAt p.cells c≤8:=N0c hc fun c h=>(hp.cells c h).w
theorem J3c{cells:List Z0a}{g0 f0 b0 a0:List Int}:∀(e:E) (e0:Int),e.good e0=true→e.over cells true=true→(∀x:Int,e.occ 3 x=true→g0.getD x.toNat 0 % m4a (wAt cells x).toNat=b0.getD x.toNat 0 % m4a (wAt cells x).toNat)→(∀x:Int,e.occ 2 x=true→f0.getD x.toNat 0 % m4a (wAt cells x).toNat=a0.getD x.toNat 0 % m4a (wAt cells x).toNat)→e.val g0 f0=e.val b0 a0:=by
 intro e
 induction e using E.induct with
 | _ e ih =>
   intro e0 hg ho h3 h2;obtain⟨j0,i0⟩:=B2a hg;rw[E.over_def] at ho;simp only[Bool.and_eq_true,decide_eq_true_eq] at ho;have hk:e.kids.map (E.val g0 f0)=e.kids.map (E.val b0 a0):=by
    apply List.map_congr_left;intro k hk;refine ih k hk (e0-1) (i0 k hk) ((E.overs_iff _ _ _).1 ho.2 k hk) (fun x hx=>h3 x ?_) (fun x hx=>h2 x ?_)
    ·rw[E.occ_def,(E.occs_iff _ _ _).2 ⟨k,hk,hx⟩];simp
    ·rw[E.occ_def,(E.occs_iff _ _ _).2 ⟨k,hk,hx⟩];simp
   rw[E.val_def,E.val_def,hk];have c0:e.w.toNat≤62:=by have:=L3a j0;omega
   by_cases o2:e.op=2
   ·have d0:=(ho.1.2 (by omega)).2;have:=h2 e.n (by rw[E.occ_def];simp[o2]);rw[d0] at this;have n1:¬e.op=1:=by omega
    rw[if_neg n1,if_neg n1,if_pos o2,if_pos o2,U4a _ _ c0,U4a _ _ c0,this]
   ·by_cases o3:e.op=3
    ·have d0:=(ho.1.2 (by omega)).2;have:=h3 e.n (by rw[E.occ_def];simp[o3]);rw[d0] at this;have n1:¬e.op=1:=by omega
     rw[if_neg n1,if_neg n1,if_neg o2,if_neg o2,if_pos o3,if_pos o3,U4a _ _ c0,U4a _ _ c0,this]
    ·rw[if_neg o2,if_neg o3,if_neg o2,if_neg o3]
def I3a:E:=⟨1,1,1,[]⟩
def u1d:E:=⟨13,1,0,[⟨3,1,0,[]⟩,⟨2,1,0,[]⟩]⟩
def e9b(nm:ByteArray)(k:Int):j1a:=⟨nm,2,[I3a,I3a],[k,k],[⟨3,0,1,I3a,[⟨k,I3a⟩],false,0,k⟩],[],false⟩
def M1a:o0a:=⟨[⟨⟨#[65,46,120]⟩,1,0,-1,false,0⟩,⟨⟨#[66,46,121]⟩,1,0,-1,false,1⟩],[⟨⟨#[65]⟩,⟨#[111]⟩,zE,u1d,[0]⟩,⟨⟨#[66]⟩,⟨#[111]⟩,zE,I3a,[1]⟩],[],[e9b ⟨#[97]⟩ 0,e9b ⟨#[98]⟩ 1]⟩
theorem T7c:p1a M1a:=v3c (by kernel_rfl)
def L6a:E:=⟨5,1,0,[u1d,⟨11,1,0,[⟨3,1,1,[]⟩,⟨2,1,1,[]⟩]⟩]⟩
theorem x4a:B3a M1a 0=L6a:=by kernel_rfl
theorem j3b:onE M1a 1=L6a:=by kernel_rfl
theorem t5c:onE M1a 0=⟨11,1,0,[⟨3,1,0,[]⟩,⟨2,1,0,[]⟩]⟩:=by kernel_rfl
theorem L6b:L6a.txt=[97,110,100,40,108,101,40,111,48,58,49,44,99,48,58,49,41,44,101,113,40,111,49,58,49,44,99,49,58,49,41,41]:=by kernel_rfl
theorem Z4c:L6a.txB=true:=by kernel_rfl
theorem T0d:L6a.wf=true:=by kernel_rfl
theorem s7a:∀(a b:List (Int×Int)),a.Pairwise lt2→b.Pairwise lt2→(∀x,x∈a↔x∈b)→a=b
 | [],[],_,_,_=>rfl
 | [],y::b,_,_,h=>by have:=(h y).2 (by simp);cases this
 | x::a,[],_,_,h=>by have:=(h x).1 (by simp);cases this
 | x::a,y::b,ha,hb,h=>by
   rw[List.pairwise_cons] at ha hb;have a0:∀p:Int×Int,¬lt2 p p:=fun p hp=>by unfold lt2 at hp;omega
   have b0:∀p q:Int×Int,lt2 p q→lt2 q p→False:=fun p q h1 h2=>by unfold lt2 at h1 h2;omega
   have c0:x=y:=by
    rcases List.mem_cons.1 ((h x).1 (by simp)) with h1|h1
    ·exact h1
    ·rcases List.mem_cons.1 ((h y).2 (by simp)) with h2|h2
     ·exact h2.symm
     ·exact(b0 _ _ (hb.1 x h1) (ha.1 y h2)).elim
   subst c0
   congr 1
   refine s7a a b ha.2 hb.2 fun z=>⟨fun hz=>?_,fun hz=>?_⟩
   ·rcases List.mem_cons.1 ((h z).1 (List.mem_cons_of_mem _ hz)) with h1|h1
    ·subst h1;exact(a0 _ (ha.1 z hz)).elim
    ·exact h1
   ·rcases List.mem_cons.1 ((h z).2 (List.mem_cons_of_mem _ hz)) with h1|h1
    ·subst h1;exact(a0 _ (hb.1 z hz)).elim
    ·exact h1
theorem J6a:allC M1a 1 [0]=[0,1]:=by
 have h:=W3a ([0]++(onE M1a 1).sup 3) ((onE M1a 1).sup 2);have e3:(onE M1a 1).sup 3=[0,1]:=by kernel_rfl
 have e2:(onE M1a 1).sup 2=[0,1]:=by kernel_rfl
 refine M4a _ _ h.1 (by decide) fun x=>(h.2 x).trans ?_;rw[e3,e2];simp
theorem U2b:allC M1a 0 [0]=[0]:=by
 have h:=W3a ([0]++(onE M1a 0).sup 3) ((onE M1a 0).sup 2);have e3:(onE M1a 0).sup 3=[0]:=by kernel_rfl
 have e2:(onE M1a 0).sup 2=[0]:=by kernel_rfl
 refine M4a _ _ h.1 (by decide) fun x=>(h.2 x).trans ?_;rw[e3,e2];simp
theorem Clo.inv{R Q:Nat→Nat→Prop}{n x y:Nat}(h:Clo R n x y)(hr:∀x,Q x x)(ht:∀x y z,Q x y→R y z→Q x z):Q x y:=by
 induction h with
 | refl h=>exact hr _
 | tail h h2 h3 ih=>exact ht _ _ _ ih h2
theorem b6c:∀a,a<4→∀b,b<4→L6a.evl (stZ [0,1] [1,1] a H1a) (stZ [0,1] [1,1] b H1a)=1→nuZ [0] [1] (stZ [0,1] [1,1] a H1a)≤nuZ [0] [1] (stZ [0,1] [1,1] b H1a):=by decide +kernel
theorem H2b:L6a.evl (stZ [0,1] [1,1] 0 H1a) (stZ [0,1] [1,1] 1 H1a)=1∧nuZ [0] [1] (stZ [0,1] [1,1] 0 H1a)=0∧nuZ [0] [1] (stZ [0,1] [1,1] 1 H1a)=1:=by decide +kernel
theorem f8c:∀a,a<2→∀b,b<2→(⟨11,1,0,[⟨3,1,0,[]⟩,⟨2,1,0,[]⟩]⟩:E).evl (stZ [0] [1] a H1a) (stZ [0] [1] b H1a)=1→nuZ [0] [1] (stZ [0] [1] a H1a)=nuZ [0] [1] (stZ [0] [1] b H1a):=by decide +kernel
theorem J2b(x y:Nat):Clo (M4b M1a 1 [0]) 2 x y↔x≤y∧y<2:=by
 have hb:∀x y,M4b M1a 1 [0] x y→x≤y:=fun x y h=>by
  obtain⟨a,b,⟨ha,hb,hv⟩,rfl,rfl⟩:=h;rw[J6a,j3b] at hv;rw[J6a] at ha hb ⊢;exact b6c a ha b hb hv
 constructor
 ·intro h;exact⟨h.inv (Q:=fun a b=>a≤b) (fun _=>Nat.le_refl _) (fun _ _ _ h1 h2=>Nat.le_trans h1 (hb _ _ h2)),h.lt.2⟩
 ·rintro⟨h1,h2⟩;rcases(show(x=0∧y=0)∨(x=0∧y=1)∨(x=1∧y=1) by omega) with⟨rfl,rfl⟩|⟨rfl,rfl⟩|⟨rfl,rfl⟩
  ·exact .refl (by omega)
  ·refine .tail (.refl (by omega)) ⟨0,1,?_,?_,?_⟩ (by omega)
   ·rw[J6a,j3b];exact⟨by decide,by decide,H2b.1⟩
   ·rw[J6a];exact H2b.2.1.symm
   ·rw[J6a];exact H2b.2.2.symm
  ·exact .refl (by omega)
theorem o5b(x y:Nat):Clo (M4b M1a 0 [0]) 2 x y↔x=y∧y<2:=by
 have hb:∀x y,M4b M1a 0 [0] x y→x=y:=fun x y h=>by
  obtain⟨a,b,⟨ha,hb,hv⟩,rfl,rfl⟩:=h;rw[U2b,t5c] at hv;rw[U2b] at ha hb ⊢;exact f8c a ha b hb hv
 constructor
 ·intro h;exact⟨h.inv (Q:=fun a b=>a=b) (fun _=>rfl) (fun _ _ _ h1 h2=>h1.trans (hb _ _ h2)),h.lt.2⟩
 ·rintro⟨rfl,h2⟩;exact .refl h2
theorem L9c{l:List (Int×Int)}(hu:l.Pairwise lt2)(h:∀p,p∈l↔∃x y,Clo (M4b M1a 1 [0]) (2 ^ 1) x y∧p=((x:Int),(y:Int))):l=[(0,0),(0,1),(1,1)]:=by
 refine s7a _ _ hu (by simp[lt2]) fun p=>(h p).trans ?_;constructor
 ·rintro⟨x,y,hc,rfl⟩;have:=(J2b x y).1 hc;rcases(show(x=0∧y=0)∨(x=0∧y=1)∨(x=1∧y=1) by omega) with⟨rfl,rfl⟩|⟨rfl,rfl⟩|⟨rfl,rfl⟩<;>simp
 ·intro hp;simp only[List.mem_cons,List.not_mem_nil,or_false] at hp;rcases hp with rfl|rfl|rfl
  ·exact⟨0,0,(J2b 0 0).2 (by omega),Z⟩
  ·exact⟨0,1,(J2b 0 1).2 (by omega),Z⟩
  ·exact⟨1,1,(J2b 1 1).2 (by omega),Z⟩
theorem S0d{l:List (Int×Int)}(hu:l.Pairwise lt2)(h:∀p,p∈l↔∃x y,Clo (M4b M1a 0 [0]) (2 ^ 1) x y∧p=((x:Int),(y:Int))):l=[(0,0),(1,1)]:=by
 refine s7a _ _ hu (by simp[lt2]) fun p=>(h p).trans ?_;constructor
 ·rintro⟨x,y,hc,rfl⟩;have:=(o5b x y).1 hc;rcases(show(x=0∧y=0)∨(x=1∧y=1) by omega) with⟨rfl,rfl⟩|⟨rfl,rfl⟩<;>simp
 ·intro hp;simp only[List.mem_cons,List.not_mem_nil,or_false] at hp;rcases hp with rfl|rfl
  ·exact⟨0,0,(o5b 0 0).2 (by omega),Z⟩
  ·exact⟨1,1,(o5b 1 1).2 (by omega),Z⟩
theorem v7b{l:List (Int×Int)}(hu:l.Pairwise lt2)(h:∀x,x∈l↔S8a M1a 2 x):l=[(0,1),(1,0)]:=by
 refine s7a _ _ hu (by simp[lt2]) fun p=>(h p).trans ?_;constructor
 ·rintro⟨t,_,u,_,_,_,_,hu,_,h1,h2,h3,h4,rfl⟩;have a0:u<2:=hu;rcases(show(t=0∧u=1)∨(t=1∧u=0) by omega) with⟨rfl,rfl⟩|⟨rfl,rfl⟩<;>cases h1<;>cases h2<;>simp[e9b] at h3 h4<;>subst h3<;>subst h4<;>simp
 ·intro hp;simp only[List.mem_cons,List.not_mem_nil,or_false] at hp;rcases hp with rfl|rfl
  ·exact⟨0,by omega,1,_,_,_,1,by decide,by omega,Z,Z,List.mem_cons_self,by simp[e9b],Z⟩
  ·exact⟨1,by omega,0,_,_,_,0,by decide,by omega,Z,Z,List.mem_cons_self,by simp[e9b],Z⟩
theorem x8a{B g t n:Nat}{w:World}{vb:Value}{bs:List Value}(h:w.ownsRow B t 1 vb n bs):∀x∈g::vb.ownBlock.toList,x=g∨B≤x:=fun x hx=>by
 rcases List.mem_cons.1 hx with h1|h1
 ·exact .inl h1
 ·cases hv:vb.ownBlock with
  | none=>rw[hv] at h1;simp at h1
  | some y =>
    rw[hv] at h1;simp at h1;subst h1;exact .inr (z7a h hv).1
theorem o5a{B t n:Nat}{w:World}{vb:Value}{bs:List Value}{a l:List UInt8}(h:w.ownsRow B t 1 vb (n+a.length+(z6a l).size) (bs++Lib.byteCells a++Lib.strCells (z6a l))):w.ownsRow B t 1 vb (n+(a++l).length) (bs++Lib.byteCells (a++l)):=by
 rw[K2a,Nat.add_assoc,←List.length_append] at h;have e:bs++Lib.byteCells a++Lib.strCells (z6a l)=bs++Lib.byteCells (a++l):=by
  rw[List.append_assoc]
  congr 1
  show Lib.byteCells a++Lib.byteCells l=_
  simp[Lib.byteCells]
 rw[e] at h;exact h
theorem n9c{B t n:Nat}{w:World}{vb:Value}{bs:List Value}{a l:List UInt8}(h:w.ownsRow B t 1 vb (n+a.length+l.length) (bs++Lib.byteCells a++Lib.byteCells l)):w.ownsRow B t 1 vb (n+(a++l).length) (bs++Lib.byteCells (a++l)) :=
 o5a (by rw[K2a];exact h)
theorem N2b{B t n:Nat}{w:World}{vb:Value}{bs:List Value}(h:w.ownsRow B t 1 vb n bs):w.ownsRow B t 1 vb (n+([]:List UInt8).length) (bs++Lib.byteCells []):=by
 have e:bs++Lib.byteCells []=bs:=by simp[Lib.byteCells]
 rw[e];exact h
theorem U2c:∀(e:E) (B g gw:Nat) (w0:World) (b o:Nat) (pv vb:Value) (n:Nat) (bs:List Value),g<B→gw<B→gw≠g→B≤w0.heap.size→RB B g w0 e b o→NB B g w0 →
 w0.cell? ⟨gw,0,none⟩=some (.func (.func 95) #[] #[.pointer (some ⟨g,0,none⟩),.pointer (some ⟨gw,0,none⟩)])→(pv=.pointer none∨pv=.pointer (some ⟨g,0,none⟩)) →
 m0a w0 (g,145,[pv,vb])→w0.ownsRow B 5 1 vb n bs→e.txB=true→n+e.txt.length≤900000 →
 C0a prog 95 #[.pointer (some ⟨b,o,none⟩),.pointer (some ⟨g,0,none⟩),.pointer (some ⟨gw,0,none⟩)] w0 fun _ w' =>
  (∃i1,m0a w' (g,145,[.pointer (some ⟨g,0,none⟩),i1])∧w'.ownsRow B 5 1 i1 (n+e.txt.length) (bs++Lib.byteCells e.txt))∧BX B g w0 w':=by
 intro e
 induction e using E.induct with
 | _ e ih =>
 intro B g gw w0 b o pv vb n bs y0 A1 B1 hB hE hN a1 J0 U0 r0 K0 n0;obtain⟨j0,_,_,_,c0,c1,c2,_,nk,_,c3,hn,_,_,_,-,-⟩:=(hE (MB B g w0) g1d).open_;have f1:gw∉MB B g w0:=fun h=>by rcases K7a.1 h with h|h<;>omega
 have Y0:=hN (MB B g w0) g1d;have S:St (MB B g w0) w0 w0 [(some g,145,[pv,vb])]:=(St.reflM _ w0).push U0 (.inr (K7a.2 (.inl Z))) (by simp);have V0:=fun k hk=>hE.kid c3 hn k hk;by_cases s0:e.op=1∨e.op=2∨e.op=3;refine a0a func95 Z ntmps95 Z ?_;refine wO0 Z U (H0a y0a Z (by exact S.oldM j0 c0) Z ?_);refine lB0 Z U (fun O0=>?_) fun O0=>?_
 ·obtain⟨t0,u0,v0,x0⟩:=E.txB_leaf s0 K0;have KC:=w0a.refl [] w0;have l1:=R1b e.op;have l2:=u6a t0 u0;have l3:=u6a v0 x0;have o0:=E.txt_leaf s0;rw[o0] at n0;simp only[List.length_append,List.length_cons,List.length_nil] at n0;refine lC0 Z U (x0a b0a [0,1,2,3,4,5,6,7,8,9,10,11,12,13,14,15,16,17] [] [18] Z (Cl _ _ _ _) (Cl.start S) ?_);refine qO0 Z U (i0a y0a Z (fun w1 hw=>by exact hw.1.oldM j0 c0) Z ?_);refine t1a J1c Z Z (fun w1 S1 X1=>p9a e.op _) ?_;refine qO0 Z U (i0a y0a Z (fun w1 hw=>by exact hw.1.oldM j0 c2) Z ?_);refine t1a G0b Z Z (fun w1 S1 X1=>n6a e.n t0 u0 _) ?_;refine c7a Z Z (by omega) Z ?_;refine c7a (b:=[58]) Z Z (by simp;omega) Z ?_;refine qO0 Z U (i0a y0a Z (fun w1 hw=>by exact hw.1.oldM j0 c1) Z ?_);refine t1a G0b Z Z (fun w1 S1 X1=>n6a e.w v0 x0 _) ?_;refine c7a Z Z (by simp;omega) Z ?_;refine qD Z U ?_;rintro m1 ⟨i0,C0⟩;replace KC:=KC.trans C0;have d0:=E1a (N2b r0) KC;refine F1a D0b Z Z (q2a B g y0 pv vb J0 _ _ (z6a (H0c e.op++c8b e.n++[58]++c8b e.w)) _ (Nat.le_trans hB i0.size) (i0.blk 0 Z) d0 (by rw[K2a];simp;omega)) ?_;rintro g1 j1 ⟨⟨q0,b0,a0⟩,A0⟩;have B0:=St.wrote i0 (BX.ofB A0 (x8a d0) (Nat.le_trans hB i0.size)) b0;refine lR0 Z U (z1a Z ?_);rw[o0];exact⟨⟨q0,b0,by simpa using o5a a0⟩,B0.bx hB⟩
 refine lB0 Z U (fun P0=>?_) fun P0=>?_
 ·obtain⟨t0,u0,v0,x0⟩:=E.txB_leaf s0 K0;have KC:=w0a.refl [] w0;have l1:=R1b e.op;have l2:=u6a t0 u0;have l3:=u6a v0 x0;have o0:=E.txt_leaf s0;rw[o0] at n0;simp only[List.length_append,List.length_cons,List.length_nil] at n0;refine lC0 Z U (x0a b0a [0,1,2,3,4,5,6,7,8,9,10,11,12,13,14,15,16,17] [] [18] Z (Cl _ _ _ _) (Cl.start S) ?_);refine qO0 Z U (i0a y0a Z (fun w1 hw=>by exact hw.1.oldM j0 c0) Z ?_);refine t1a J1c Z Z (fun w1 S1 X1=>p9a e.op _) ?_;refine qO0 Z U (i0a y0a Z (fun w1 hw=>by exact hw.1.oldM j0 c2) Z ?_);refine t1a G0b Z Z (fun w1 S1 X1=>n6a e.n t0 u0 _) ?_;refine c7a Z Z (by omega) Z ?_;refine c7a (b:=[58]) Z Z (by simp;omega) Z ?_;refine qO0 Z U (i0a y0a Z (fun w1 hw=>by exact hw.1.oldM j0 c1) Z ?_);refine t1a G0b Z Z (fun w1 S1 X1=>n6a e.w v0 x0 _) ?_;refine c7a Z Z (by simp;omega) Z ?_;refine qD Z U ?_;rintro m1 ⟨i0,C0⟩;replace KC:=KC.trans C0;have d0:=E1a (N2b r0) KC;refine F1a D0b Z Z (q2a B g y0 pv vb J0 _ _ (z6a (H0c e.op++c8b e.n++[58]++c8b e.w)) _ (Nat.le_trans hB i0.size) (i0.blk 0 Z) d0 (by rw[K2a];simp;omega)) ?_;rintro g1 j1 ⟨⟨q0,b0,a0⟩,A0⟩;have B0:=St.wrote i0 (BX.ofB A0 (x8a d0) (Nat.le_trans hB i0.size)) b0;refine lR0 Z U (z1a Z ?_);rw[o0];exact⟨⟨q0,b0,by simpa using o5a a0⟩,B0.bx hB⟩
 refine lB0 Z U (fun Q0=>?_) (fun Q0=>by exfalso;omega);obtain⟨t0,u0,v0,x0⟩:=E.txB_leaf s0 K0;have KC:=w0a.refl [] w0;have l1:=R1b e.op;have l2:=u6a t0 u0;have l3:=u6a v0 x0;have o0:=E.txt_leaf s0;rw[o0] at n0;simp only[List.length_append,List.length_cons,List.length_nil] at n0;refine lC0 Z U (x0a b0a [0,1,2,3,4,5,6,7,8,9,10,11,12,13,14,15,16,17] [] [18] Z (Cl _ _ _ _) (Cl.start S) ?_);refine qO0 Z U (i0a y0a Z (fun w1 hw=>by exact hw.1.oldM j0 c0) Z ?_);refine t1a J1c Z Z (fun w1 S1 X1=>p9a e.op _) ?_;refine qO0 Z U (i0a y0a Z (fun w1 hw=>by exact hw.1.oldM j0 c2) Z ?_);refine t1a G0b Z Z (fun w1 S1 X1=>n6a e.n t0 u0 _) ?_;refine c7a Z Z (by omega) Z ?_;refine c7a (b:=[58]) Z Z (by simp;omega) Z ?_;refine qO0 Z U (i0a y0a Z (fun w1 hw=>by exact hw.1.oldM j0 c1) Z ?_);refine t1a G0b Z Z (fun w1 S1 X1=>n6a e.w v0 x0 _) ?_;refine c7a Z Z (by simp;omega) Z ?_;refine qD Z U ?_;rintro m1 ⟨i0,C0⟩;replace KC:=KC.trans C0;have d0:=E1a (N2b r0) KC;refine F1a D0b Z Z (q2a B g y0 pv vb J0 _ _ (z6a (H0c e.op++c8b e.n++[58]++c8b e.w)) _ (Nat.le_trans hB i0.size) (i0.blk 0 Z) d0 (by rw[K2a];simp;omega)) ?_;rintro g1 j1 ⟨⟨q0,b0,a0⟩,A0⟩;have B0:=St.wrote i0 (BX.ofB A0 (x8a d0) (Nat.le_trans hB i0.size)) b0;refine lR0 Z U (z1a Z ?_);rw[o0];exact⟨⟨q0,b0,by simpa using o5a a0⟩,B0.bx hB⟩;refine a0a func95 Z ntmps95 Z ?_;refine wO0 Z U (H0a y0a Z (by exact S.oldM j0 c0) Z ?_);refine lB0 Z U (fun O0=>by exfalso;omega) fun O0=>?_;refine lB0 Z U (fun P0=>by exfalso;omega) fun P0=>?_;refine lB0 Z U (fun Q0=>by exfalso;omega) fun Q0=>?_;obtain⟨_,x1⟩:=E.txB_node s0 K0;have o0:=E.txt_node s0;obtain⟨nm,b1⟩:∃x,x=N0b.getD (e.op-4).toNat []:=⟨_,Z⟩;rw[←b1] at o0;have v1:(e.op-4).toNat<N0b.length:=by show _<11;omega
 have y1:N0b[(e.op-4).toNat]?=some nm:=by rw[b1,List.getD_eq_getElem?_getD,List.getElem?_eq_getElem v1];rfl
 have cN:=Y0.2 _ _ y1;have H1:e.txt.length=nm.length+(E.txts e.kids 40).length+1:=by rw[o0];simp;omega
 refine lO0 Z U (H0a y0a Z (by exact S.oldM j0 c0) Z ?_);refine lO0 Z ⟨by omega,U⟩ (r2a S8c Z Z Z ?_);refine H0a z1d Z (S.oldM Y0.1 (by simpa using cN)) Z ?_;have E0:=N2b r0;refine F1a D0b Z Z (q2a B g y0 pv vb J0 _ _ (z6a nm) _ (Nat.le_trans hB S.size) (S.blk 0 Z) E0 (by rw[K2a];simp;omega)) ?_;rintro I1 D1 ⟨⟨q0,R0,e0⟩,n1⟩;have X0:=St.wrote S (BX.ofB n1 (x8a E0) (Nat.le_trans hB S.size)) R0;have e0:=o5a e0;have KD:=w0a.refl [] D1;refine lO0 Z U (H0a D1a Z (by exact X0.oldM j0 c3) Z ?_);refine lC0 Z U (wL (fun μk D ε w=>D=[]∧∃k:Nat,∃I0:Value,(k+μk=(e.kids.length))∧(w.ownsRow B 5 1 I0 (n+(nm++E.txts (e.kids.take k) 40).length) (bs++Lib.byteCells (nm++E.txts (e.kids.take k) 40)))∧St (MB B g w0) w0 w [(some g,145,[.pointer (some ⟨g,0,none⟩),I0])]∧Sl ε [(0,.pointer (some ⟨b,o,none⟩)),(1,.pointer (some ⟨g,0,none⟩)),(2,.pointer (some ⟨gw,0,none⟩)),(4,.string (z6a (if k=0 then[40] else[44]))),(45,.int .i64 nk),(46,.int .i64 k)]) (μ:=(e.kids.length)) ⟨Z,0,_,by omega,(by simpa[E.txts] using E1a e0 KD),X0,Z⟩ ?_);rintro μk D ε w ⟨rfl,k,I0,hk,p0,S,eZ⟩;refine wK eZ ?_;have KL:=w0a.refl [] w;refine wB0 Z U (fun u1=>?_) fun u1=>?_
 ·refine lO0 Z U ?_;obtain⟨x,H0⟩:∃x,e.kids[k]?=some x:=⟨e.kids[k]'(by omega),List.getElem?_eq_getElem _⟩;have z1:=E.txts_pre e.kids 40 (k+1);rw[E.txts_take 40 H0,List.length_append,List.length_cons] at z1;have d1:(if k=0 then[(40:UInt8)] else[44]).length=1:=by split<;>rfl
  have F0:=E1a p0 KL;refine F1a D0b Z Z (q2a B g y0 _ I0 (.inr Z) _ _ (z6a (if k=0 then[40] else[44])) _ (Nat.le_trans hB S.size) (S.blk 0 Z) F0 (by rw[K2a,d1,List.length_append];omega)) ?_;rintro v50 E1 ⟨⟨q0,S0,f0⟩,o1⟩;have r1:=St.wrote S (BX.ofB o1 (x8a F0) (Nat.le_trans hB S.size)) S0;have f0:=o5a f0;have L0:=w0a.refl [] E1;obtain⟨bk,ok,_,Z0⟩:=V0 k (by omega);have C1:e.kids[k]'(by omega)=x:=by have:=List.getElem?_eq_getElem (l:=e.kids) (i:=k) (by omega);rw[H0] at this;exact(Option.some.inj this).symm
  rw[C1] at Z0;refine lC0 Z U (x0a b0a [0,1,2,3,4,5,6] [] [7] Z (Cl _ _ _ _) (Cl.start r1) ?_);refine i0a A0c Z (fun w1 hw=>by exact hw.1.oldM f1 a1) Z ?_;refine qO0 Z U (i0a D1a Z (fun w1 hw=>by exact hw.1.oldM j0 c3) Z ?_);refine qO0 Z U (D0a N0a.slT Z (by assumption) Z Z ?_);refine qD Z U ?_;rintro G1 ⟨m0,N0⟩;replace L0:=L0.trans N0;have W0:=E1a f0 L0;refine S6a d5c Z Z Z (ih x (List.mem_of_getElem? H0) B g gw _ bk (ok+k*4) _ q0 _ _ y0 A1 B1 (Nat.le_trans hB m0.size) (Z0.keep m0.keepM) (hN.keep m0.keepM) (m0.oldM f1 a1) (.inr Z) (m0.blk 0 Z) W0 (x1 x (List.mem_of_getElem? H0)) (by rw[List.length_append,List.length_append,d1];omega)) ?_;rintro J1 F1 ⟨⟨_,T0,z0⟩,p1⟩;have s1:=St.wrote m0 p1 T0;have KQ:=w0a.refl [] F1;refine lP0 Z ⟨by omega,U⟩ ⟨μk-1,by omega,Z,(k+1),(_),(by omega),?_,s1,Z⟩;rw[E.txts_take 40 H0];have z:=E1a z0 KQ;have e1:nm++(E.txts (e.kids.take k) 40++((if k=0 then 40 else 44)::x.txt))=nm++E.txts (e.kids.take k) 40++(if k=0 then[40] else[44])++x.txt:=by split<;>simp
  rw[e1];exact n9c z
 refine lO0 Z U ?_;obtain rfl:k=e.kids.length:=by omega
 rw[List.take_length] at p0;have G0:=E1a p0 KL;refine F1a D0b Z Z (q2a B g y0 _ I0 (.inr Z) _ _ (z6a [41]) _ (Nat.le_trans hB S.size) (S.blk 0 Z) G0 (by rw[K2a,List.length_append];simp;omega)) ?_;rintro K1 M1 ⟨⟨q0,D0,g0⟩,q1⟩;have t1:=St.wrote S (BX.ofB q1 (x8a G0) (Nat.le_trans hB S.size)) D0;have g0:=o5a g0;refine lF0 Z U (z1a Z ?_);rw[o0];exact⟨⟨q0,D0,g0⟩,t1.bx hB⟩
theorem e2b{w:World}{B C e n:Nat}{v:Value}{xs:List Value}(h:w.ownsRow B e 1 v n xs)(hc:C≤B):w.ownsRow C e 1 v n xs:=by
 obtain⟨h1,h2⟩:=h;refine⟨h1,h2.imp id ?_⟩;rintro⟨g,a0,b0,q1,q2,q3⟩;exact⟨g,a0,b0,q1,Nat.le_trans hc q2,q3⟩
theorem G7b(e:E)(w0:World)(cs:List Value)(hR:RdE [] w0 e cs)(hK:k2a [] w0)(hN:q7a [] w0)(y0:e.wf=true)(x0:e.txB=true)(u0:e.txt.length≤800000):
 C0a prog 49 #[.agg cs.toArray] w0 fun v w'=>v=.string (z6a e.txt)∧Below w0.heap.size w0 w':=by
 obtain⟨_,_,_,rfl,-⟩:=hR.open_;have S:=St.refl w0;refine a0a func49 Z ntmps49 Z ?_;refine wO0 Z U (p0a S Z ?_);intro g1 w1 S1 X1 G1;refine lO S1.k [.w 0] Z ⟨⟨Z,Z⟩,U⟩ (f0a S1 F0b Z Z (I2a (D2a e [] _ _ (RdE.keep (S1.keep0 []) _ _ hR) (hK.keep (S1.keep0 []))) y0) ?_);intro w6 S6 X6;refine lO0 Z U (g0a S6 q0d Z Z ?_);intro g3 w3 S3 X3 G3;refine lO0 Z U (g0a S3 J1d Z Z ?_);intro g4 w4 S4 X4 G4;refine lO0 Z U (r1a Z Z ?_);refine h1a (kk:=0) S4 C0d Z Z Z (by exact Nat.le_of_ble_eq_true Z) ?_;intro b0 a0 p0;refine lO a0.k [.o 0] Z ⟨Z,U⟩ ?_;have f0:∀M:List Nat,(∀x∈M,x=g3∨b0.heap.size≤x)→∀g∈M,g∈([]:List Nat)∨w0.heap.size≤g:=fun M hM g hg=>.inr (by
  rcases hM g hg with rfl|h
  ·simpa using a0.new 1 Z
  ·have:=a0.size;omega)
 have s0:RB b0.heap.size g3 b0 e g1 0:=fun M hM=>⟨fun hh=>by
  rcases hM g1 hh with h|h
  ·exact a0.ne 1 2 Z Z (by decide) h.symm
  ·have:=a0.lt 2 Z;omega,_,a0.cells 2 Z,RdE.keep (a0.keep0 M) _ _ (RdE.more (f0 M hM) _ _ hR)⟩
 have r0:NB b0.heap.size g3 b0:=fun M hM=>(hN.more (f0 M hM)).keep (a0.keep0 M);have g0:b0.ownsRow b0.heap.size 5 1 (.slice none 0 0) 0 []:=⟨Z,.inl ⟨Z,Z⟩⟩;refine S6a d5c Z Z Z (U2c e b0.heap.size g3 g4 b0 g1 0 (.pointer none) (.slice none 0 0) 0 [] (a0.lt 1 Z) (a0.lt 0 Z) (a0.ne 0 1 Z Z (by decide)) (Nat.le_refl _) s0 r0 (a0.cell 0 Z Z) (.inl Z) (a0.blk 1 Z) g0 x0 (by omega)) ?_;have t0:=a0.size;rintro z0 i0 ⟨⟨vb,m0,c0⟩,e0⟩;have o0:B0a [g3] b0 i0:=⟨e0.os,e0.tape,e0.output,e0.size,fun k h1 h2=>e0.block k h1 fun h=>h2 (by rw[h];simp)⟩;have d0:=a0.changed1 1 Z o0 m0;dsimp only[List.set] at d0;refine lO0 Z U ?_;have q0:Lib.IsBuilder 145 5 w0.heap.size g3 (Lib.byteCells e.txt) i0:=by
  have n0:i0.heap[g3]?=some (.cells #[.pointer (some ⟨g3,0,none⟩),vb] 145 (0,0)):=d0.blk 1 Z;have v0:vb.ownBlock≠some g3:=Lib.ownBlock_ne c0 n0 (by decide);have hz:=e2b c0 t0;rw[Nat.zero_add,List.nil_append] at hz;exact .inr ⟨by simpa using d0.new 1 Z,vb,n0,by rw[Lib.byteCells_length];exact hz,v0⟩
 refine F1a (R:=fun v w'=>v=.string (z6a e.txt)∧Below w0.heap.size i0 w') b0d Z Z (Calls.mono (Tryz.Builder_String_any w0.heap.size g3 e.txt i0 q0 d0.size) (fun e w' h=>⟨_,h.1,Z,h.2⟩)) ?_;rintro A0 B0 ⟨rfl,j0⟩;exact lT Z U Z ⟨Z,d0.fin.trans j0⟩
section
variable {P:Program} {r:Option Nat} {N:Nat} {ops:Array Oper} {rest:List Oper} {C:World→Prop} {KQ:Env→Prop} {K:List Deferred→Env→World→Prop} {D:List Deferred} {e:Env} {w:World} {d:Nat} {t:TypeId} {p:String} {af:Array Edge} {x y:Operand} {yt:TypeId}
theorem Eq2.neq{ty:TypeId}(hE:Eq2 P ty)(w:World)(a b:Int×Int):(binOp .neq ty (.agg (pc a).toArray) (.agg (pc b).toArray)).run P w=.ok (.bool (!decide (a=b))) w:=by
 have:=hE.2 w a.1 a.2 b.1 b.2;have hd:decide (a=b)=decide (a.1=b.1∧a.2=b.2):=decide_eq_decide.2 Prod.ext_iff;rw[hd];show(binOp .neq ty (.agg #[.int .i64 a.1,.int .i64 a.2]) (.agg #[.int .i64 b.1,.int .i64 b.2])).run P w=_;rw[run_eql_struct] at this;rw[run_neq_struct]
 revert this
 generalize (Op.equalIn 10000 ty _ _).run P w=a0;intro this;cases a0 with
 | ok z w'=>simp only[Result.andThen_ok] at this ⊢;cases this;rfl
 | halt z w'=>simp[Result.andThen] at this
theorem Eq2.guard{ty:TypeId}(hE:Eq2 P ty)(w:World)(op:BinOp)(x y:Operand)(a b:Int×Int):(eqGuard op ty x y (.agg (pc a).toArray) (.agg (pc b).toArray)).run P w=.ok () w:=run_eqGuard_agg w _ _ _ _ _ _ hE.1
theorem Eq2.eql{ty:TypeId}(hE:Eq2 P ty)(w:World)(a b:Int×Int):(binOp .eql ty (.agg (pc a).toArray) (.agg (pc b).toArray)).run P w=.ok (.bool (decide (a=b))) w:=by
 have hd:decide (a=b)=decide (a.1=b.1∧a.2=b.2):=decide_eq_decide.2 Prod.ext_iff;rw[hd];exact hE.2 w a.1 a.2 b.1 b.2
theorem c0d{ty:TypeId}{a b:Int×Int}(hE:Eq2 P ty)(hx:ev e x=.agg (pc a).toArray)(hy:ev e y=.agg (pc b).toArray)(hd:Nat.ble (d+1) N=true)
 (h1:a≠b→QL P N ops C rest KQ (upd e d (.bool true))) (h2:a=b→QL P N ops C rest KQ (upd e d (.bool false))):QL P N ops C (⟨some d,.binOp .neq ty x y yt,t,p,af,none⟩::rest) KQ e:=by
 by_cases hh:a=b
 ·exact e2a Z Z hd (fun w _=>by simp only[execOp,hx,hy,Sem.run_bind,hE.guard,Result.andThen_ok,hE.neq,Sem.run_pure,decide_eq_true hh];rfl) (h2 hh)
 ·exact e2a Z Z hd (fun w _=>by simp only[execOp,hx,hy,Sem.run_bind,hE.guard,Result.andThen_ok,hE.neq,Sem.run_pure,decide_eq_false hh];rfl) (h1 hh)
theorem Y1d{ty:TypeId}{a b:Int×Int}(hE:Eq2 P ty)(hx:ev e x=.agg (pc a).toArray)(hy:ev e y=.agg (pc b).toArray)(hd:Nat.ble (d+1) N=true)
 (h1:a=b→QL P N ops C rest KQ (upd e d (.bool true))) (h2:a≠b→QL P N ops C rest KQ (upd e d (.bool false))):QL P N ops C (⟨some d,.binOp .eql ty x y yt,t,p,af,none⟩::rest) KQ e:=by
 by_cases hh:a=b
 ·exact e2a Z Z hd (fun w _=>by simp only[execOp,hx,hy,Sem.run_bind,hE.guard,Result.andThen_ok,hE.eql,Sem.run_pure,decide_eq_true hh]) (h1 hh)
 ·exact e2a Z Z hd (fun w _=>by simp only[execOp,hx,hy,Sem.run_bind,hE.guard,Result.andThen_ok,hE.eql,Sem.run_pure,decide_eq_false hh]) (h2 hh)
end
theorem h9a(M:List Nat)(w0:World)(v:Value)(l:List Int)(a:Int)(hR:RdI M w0 v l):
 C0a prog 43 #[v,.int .i64 a] w0 fun v w'=>v=.bool (decide (a∈l))∧Below w0.heap.size w0 w':=by
 obtain⟨A,n,c,rfl⟩:=hR.form;obtain⟨_,-,_⟩:=hR.len;have S:=St.refl w0;refine a0a func43 Z ntmps43 Z ?_;refine wC0 Z U (wL (fun μk D ε w=>D=[]∧∃k:Nat,(k+μk=(l.length))∧(a∉l.take k)∧St [] w0 w []∧Sl ε [(0,.slice A n c),(1,.int .i64 a),(5,.int .i64 k)]) (μ:=(l.length)) ⟨Z,0,by omega,by simp,S,Z⟩ ?_);rintro μk D ε w ⟨rfl,k,_,ha,S,eZ⟩;refine wK eZ (wB0 Z U (fun h9=>?_) fun h9=>?_)
 ·obtain⟨x,f0,g0,_,e0,b0,_,_,c0,d0⟩:=RdS.get (hR) (k) (by omega);obtain⟨rfl,_⟩:=id d0;refine lB (S.k.a c0) [.x f0 g0,.f 0 0] Z ⟨Z,⟨b0,by omega⟩,U⟩ (fun a0=>?_) fun a0=>?_
  ·refine lR0 Z U (s0a Z ?_);exact⟨by rw[decide_eq_true (a0▸d0a e0:a∈l)],S.fin⟩
  refine lP0 Z ⟨by omega,U⟩ ⟨μk-1,by omega,Z,(k+1),(by omega),?_,S,Z⟩;rw[G0a e0];intro hh;rcases List.mem_append.1 hh with h|h
  ·exact ha h
  ·rw[List.mem_singleton.1 h] at a0;exact a0 Z
 refine lR0 Z U (s0a Z ?_);exact⟨by rw[decide_eq_false (by rw[List.take_of_length_le (by omega)] at ha;exact ha)],S.fin⟩
theorem Q2a(M:List Nat)(w0:World)(v u:Value)(a b:List (Int×Int))(hA:u0b M w0 v a)(hB:u0b M w0 u b):
 C0a prog 12 #[v,u] w0 fun v w'=>v=.bool (decide (a=b))∧Below w0.heap.size w0 w':=by
 obtain⟨A,n,c,rfl⟩:=hA.form;obtain⟨hn,-,_⟩:=hA.len;obtain⟨A',n',c',rfl⟩:=hB.form;obtain⟨_,-,_⟩:=hB.len;have S:=St.refl w0;refine a0a func12 Z ntmps12 Z ?_;refine wB0 Z U (fun x0=>?_) fun x0=>?_
 ·refine lR0 Z U (s0a Z ?_);exact⟨by rw[decide_eq_false (fun h=>by rw[h] at hn;omega)],S.fin⟩
 have C0:b.length=a.length:=by omega
 refine lC0 Z U (wL (fun μk D ε w=>D=[]∧∃k:Nat,(k+μk=(a.length))∧(a.take k=b.take k)∧St [] w0 w []∧Sl ε [(0,.slice A n c),(1,.slice A' n' c'),(5,.int .i64 k)]) (μ:=(a.length)) ⟨Z,0,by omega,by simp,S,Z⟩ ?_);rintro μk D ε w ⟨rfl,k,_,he,S,eZ⟩;refine wK eZ (wB0 Z U (fun y0=>?_) fun y0=>?_)
 ·refine lC0 Z U (x0a b0a [0,1,2,3,4,5,6,7,8] [] [] Z (Cl _ _ _ _) (Cl.start S) ?_);obtain⟨x,q0,z0,s0,n0,c0,_,g0,e0,j0⟩:=RdS.get (hA) (k) (by omega);obtain⟨u0,_⟩:=j0;obtain rfl:s0=pc x:=u0;obtain⟨y,r0,A0,t0,o0,d0,_,i0,f0,m0⟩:=RdS.get (hB) (k) (by omega);obtain⟨v0,_⟩:=m0;obtain rfl:t0=pc y:=v0;refine qOn 8 ((S.q.a f0).a e0) [.x q0 z0,.v 0,.x r0 A0,.v 1] Z ⟨⟨Z,i0⟩,⟨d0,by omega⟩,⟨Z,g0⟩,⟨c0,by omega⟩,U⟩ (c0d (a:=x) (b:=y) D1b Z Z Z (fun b0=>?_) fun b0=>?_)
  ·refine qD Z U ?_;rintro B0 ⟨a0,p0⟩;refine lR0 Z U (s0a Z ?_);exact⟨by rw[decide_eq_false (fun h=>b0 (Option.some.inj (n0.symm.trans (by rw[h];exact o0))))],a0.fin⟩
  refine qD Z U ?_;rintro B0 ⟨a0,p0⟩;refine lP0 Z ⟨by omega,U⟩ ⟨μk-1,by omega,Z,(k+1),(by omega),?_,a0,Z⟩;rw[G0a n0,G0a o0,he,b0]
 refine lR0 Z U (s0a Z ?_);exact⟨by rw[decide_eq_true (by rw[List.take_of_length_le (by omega),List.take_of_length_le (by omega)] at he;exact he)],S.fin⟩
theorem q6b(n wd:Int)(w0:World):C0a prog 93 #[.int .i64 n,.int .i64 wd] w0 fun v w'=>v=.agg #[.int .i64 3,.int .i64 wd,.int .i64 n,.slice none 0 0]∧Below w0.heap.size w0 w':=by
 have S:=St.refl w0;refine a0a func93 Z ntmps93 Z ?_;refine wO0 Z U (g0a S R1a Z Z ?_);intro g4 w4 S4 X4 G4;refine lO0 Z U (E0a X1a (vs:=[(0,.int .i64 _),(1,.int .i64 _),(2,.int .i64 _)]) (cs:=[_,_,_,_]) Z Z Z Z ?_)
 first|refine c0a (kk:=0) (vs:=[_,_,_,_]) S4 g1a Z Z Z Z Z Z Z ?_
 intro c0 a0 b0;dsimp only[h0a,List.set] at a0;exact lR0 Z U (v0a Z F0a Z (a0.cells 0 Z) Z ⟨Z,a0.fin⟩)
theorem p4b(n wd:Int)(w0:World):C0a prog 94 #[.int .i64 n,.int .i64 wd] w0 fun v w'=>v=.agg #[.int .i64 2,.int .i64 wd,.int .i64 n,.slice none 0 0]∧Below w0.heap.size w0 w':=by
 have S:=St.refl w0;refine a0a func94 Z ntmps94 Z ?_;refine wO0 Z U (g0a S R1a Z Z ?_);intro g4 w4 S4 X4 G4;refine lO0 Z U (E0a X1a (vs:=[(0,.int .i64 _),(1,.int .i64 _),(2,.int .i64 _)]) (cs:=[_,_,_,_]) Z Z Z Z ?_)
 first|refine c0a (kk:=0) (vs:=[_,_,_,_]) S4 g1a Z Z Z Z Z Z Z ?_
 intro c0 a0 b0;dsimp only[h0a,List.set] at a0;exact lR0 Z U (v0a Z F0a Z (a0.cells 0 Z) Z ⟨Z,a0.fin⟩)
theorem X7b(n wd:Int)(w0:World):C0a prog 39 #[.int .i64 n,.int .i64 wd] w0 fun v w'=>v=.agg #[.int .i64 1,.int .i64 wd,.int .i64 n,.slice none 0 0]∧Below w0.heap.size w0 w':=by
 have S:=St.refl w0;refine a0a func39 Z ntmps39 Z ?_;refine wO0 Z U (g0a S R1a Z Z ?_);intro g4 w4 S4 X4 G4;refine lO0 Z U (E0a X1a (vs:=[(0,.int .i64 _),(1,.int .i64 _),(2,.int .i64 _)]) (cs:=[_,_,_,_]) Z Z Z Z ?_)
 first|refine c0a (kk:=0) (vs:=[_,_,_,_]) S4 g1a Z Z Z Z Z Z Z ?_
 intro c0 a0 b0;dsimp only[h0a,List.set] at a0;exact lR0 Z U (v0a Z F0a Z (a0.cells 0 Z) Z ⟨Z,a0.fin⟩)
theorem p7b(op wd:Int)(ho:i64 op)(hw:i64 wd)(a b:E)(ca cb:List Value)(M:List Nat)(w0:World)(hM:∀g∈M,g<w0.heap.size)(ha:RdE M w0 a ca)(hb:RdE M w0 b cb):
 C0a prog 92 #[.int .i64 op,.int .i64 wd,.agg ca.toArray,.agg cb.toArray] w0 fun v w'=>(∃cs:List Value,v=.agg cs.toArray∧RdE M w' ⟨op,wd,0,[a,b]⟩ cs)∧Below w0.heap.size w0 w':=by
 have S:=St.refl w0;obtain⟨_,_,_,rfl,-⟩:=ha.open_;obtain⟨_,_,_,rfl,-⟩:=hb.open_;refine a0a func92 Z ntmps92 Z ?_;refine wO0 Z U (p0a S Z ?_);intro g6 w6 S6 X6 G6;refine p0a S6 Z ?_;intro g7 w7 S7 X7 G7;refine g0a S7 R1a Z Z ?_;intro g8 w8 S8 X8 G8;refine lO S8.k [.w 2,.w 1] Z ⟨⟨Z,by rfl⟩,⟨Z,by rfl⟩,U⟩ (k0a S8 N0a (vs:=[.agg _,.agg _]) (cs:=[_,_,_,_,_,_,_,_]) Z Z Z Z Z Z ?_);intro g0 i0 b0 f0 e0;refine E0a X1a (vs:=[(0,.int .i64 _),(1,.int .i64 _),(3,.slice _ _ _)]) (cs:=[_,_,_,_]) Z Z Z Z ?_;refine c0a (kk:=1) (vs:=[_,_,_,_]) b0 g1a Z Z Z Z Z Z Z ?_;intro d0 a0 c0;dsimp only[h0a,List.set] at a0;refine lR0 Z U (v0a Z F0a Z (a0.cells 1 Z) Z ⟨⟨_,Z,c2b ho hw (fun hm=>?_) (a0.cells 0 Z) (RdE.keep (a0.keep0 M) _ _ ha) (RdE.keep (a0.keep0 M) _ _ hb)⟩,a0.fin⟩);have h1:=hM _ hm;have h2:=a0.new 0 Z;simp at h2;omega
theorem E6a(p:o0a)(k:Nat)(M:List Nat)(w0:World)(cs:List Value)(hI:InP p M w0 cs)(hk:k<p.cells.length:=by omega):
 C0a prog 56 #[.agg cs.toArray,.int .i64 k] w0 fun v w'=>(∃cs:List Value,v=.agg cs.toArray∧RdE M w' (j4a p k) cs)∧Below w0.heap.size w0 w':=by
 obtain⟨_,_,_,_,_,_,_,_,_,_,_,_,rfl,hC,_⟩:=hI.rd.open_;have hM:=hI.lt;have s0:=hI.ok.ncells;have S:=St.refl w0;refine a0a func56 Z ntmps56 Z ?_;refine wO0 Z U (p0a S Z ?_);intro g2 w2 S2 X2 G2;refine g0a S2 R1a Z Z ?_;intro g4 w4 S4 X4 G4;refine lC0 Z U (x0a b0a [0,1,2,3,4,5,6,7,8,9,10,11,12,13,14,15] [] [16,17] Z (Cl _ _ _ _) (Cl.start S4) ?_);obtain⟨y,b9,p9,_,i0,q0,_,_,r0,t0⟩:=RdS.get (hC) (k) (by omega);obtain⟨rfl,_⟩:=v2a.open_ t0;have u0:wAt p.cells k=y.w:=G4a (by rw[Int.toNat_natCast];exact i0);have A0:=(hI.ok.cells y (d0a i0)).w;refine qO (S4.q.a r0) [.o 1,.x b9 p9,.f 0 1] Z ⟨Z,⟨q0,by omega⟩,Z,U⟩ (t1a z4c Z Z (fun w1 S1 X1=>q6b k y.w _) ?_);obtain⟨_,p0,v0,_,g0,d0,_,_,e0,f0⟩:=RdS.get (hC) (k) (by omega);obtain rfl:=Option.some.inj (i0.symm.trans g0);obtain⟨rfl,_⟩:=v2a.open_ f0;refine qO (S4.q.a e0) [.o 1,.x p0 v0,.f 0 1] Z ⟨Z,⟨d0,by omega⟩,Z,U⟩ (t1a D5c Z Z (fun w1 S1 X1=>p4b k y.w _) ?_);refine qD Z U ?_;rintro y0 ⟨c0,_⟩;have o0:∀g∈g4::M,g<y0.heap.size:=fun g hg=>by
  rcases List.mem_cons.1 hg with rfl|hg
  ·exact c0.lt 0 Z
  ·exact Nat.lt_of_lt_of_le (hM g hg) c0.size
 have ik:i64 (k:Int):=by unfold i64;omega
 have iw:i64 y.w:=by unfold i64;omega
 refine j0a c0 M1c Z Z (p7b 11 1 (by unfold i64;omega) (by unfold i64;omega) ⟨3,y.w,k,[]⟩ ⟨2,y.w,k,[]⟩ [_,_,_,_] [_,_,_,_] (g4::M) _ o0 (e1a (by unfold i64;omega) iw ik) (e1a (by unfold i64;omega) iw ik)) ?_;rintro B0 x0 ⟨_,rfl,j0⟩ n0 z0;obtain⟨_,_,_,rfl,-⟩:=j0.open_;have KE:=w0a.refl (g4::M) x0;refine c0a (kk:=0) (vs:=[_,_,_,_]) n0 g1a Z Z Z Z Z Z Z ?_;intro m0 a0 b0;dsimp only[h0a,List.set] at a0;replace KE:=KE.fresh2 b0 (by first  | exact .inr (by simp));refine lR0 Z U ?_;exact v0a Z F0a Z (a0.cells 0 Z) Z ⟨⟨_,Z,by unfold j4a;rw[u0];exact RdE.less (fun g hg=>List.mem_cons_of_mem _ hg) _ _ (RdE.keep KE _ _ j0)⟩,a0.fin⟩
theorem V3b(w0:World):
 C0a prog 48 #[] w0 fun v w'=>(∃cs:List Value,v=.agg cs.toArray∧S0a [] w' M1a cs)∧Below w0.heap.size w0 w':=by
 have S:=St.refl w0;have i0:i64 0:=by unfold i64;omega
 have i1:i64 1:=by unfold i64;omega
 have i2:i64 2:=by unfold i64;omega
 have i3:i64 3:=by unfold i64;omega
 have im:i64 (-1):=by unfold i64;omega
 have y1:i64 13:=by unfold i64;omega
 refine a0a func48 Z ntmps48 Z ?_;refine wO0 Z U (g0a S N6c Z Z ?_);intro g0 w0 S0 X0 G0;refine lO0 Z U (f0a S0 P6b Z Z (X7b _ _ _) ?_);intro w6 S6 X6;refine g0a S6 R1a Z Z ?_;intro g1 w1 S1 X1 G1;refine c0a (kk:=0) (vs:=[_,_,_,_]) S1 g1a Z Z Z Z Z Z Z ?_;intro A1 r0 U0;dsimp only[h0a,List.set] at r0;refine lO0 Z U (E0a w5c (vs:=[(0,.string _),(1,.int .i64 _),(3,.int .i64 _)]) (cs:=[_,_,_,_,_,_]) Z Z Z Z ?_);refine E0a w5c (vs:=[(0,.string _),(1,.int .i64 _),(3,.int .i64 _),(5,.int .i64 _)]) (cs:=[_,_,_,_,_,_]) Z Z Z Z ?_;refine k0a r0 c6a (vs:=[.agg _,.agg _]) (cs:=[_,_,_,_,_,_,_,_,_,_,_,_]) Z Z Z Z Z Z ?_;intro g9 w9 S9 X9 G9;refine lO0 Z U (f0a S9 z4c Z Z (q6b _ _ _) ?_);intro Y1 F0 Q1;refine f0a F0 D5c Z Z (p4b _ _ _) ?_;intro Z1 x0 R1;refine j0a x0 M1c Z Z (p7b 13 1 y1 i1 ⟨3,1,0,[]⟩ ⟨2,1,0,[]⟩ [_,_,_,_] [_,_,_,_] [g0] _ (fun g hg=>by rw[List.mem_singleton.1 hg];exact x0.lt 2 Z) (e1a i3 i1 i0) (e1a i2 i1 i0)) ?_;rintro W1 z1 ⟨_,rfl,C0⟩ H0 T1;have b0:=w0a.refl [] z1;obtain⟨_,_,_,rfl,-⟩:=C0.open_;refine g0a H0 R1a Z Z ?_;intro g3 w3 S3 X3 G3;have o0:=Nat.le_trans b0.size G3;replace b0:=b0.trans X3;refine c0a (kk:=0) (vs:=[_,_,_,_]) S3 g1a Z Z Z Z Z Z Z ?_;intro B1 n0 v0;dsimp only[h0a,List.set] at n0;replace b0:=b0.fresh v0 (by first|exact o0);refine lO n0.k [.w 2,.w 2] Z ⟨⟨Z,by rfl⟩,⟨Z,by rfl⟩,U⟩ (k0a n0 N0a (vs:=[.agg _,.agg _]) (cs:=[_,_,_,_,_,_,_,_]) Z Z Z Z Z Z ?_);intro n1 a2 I0 R0 C1;replace b0:=b0.trans R0;refine k0a I0 Q0a (vs:=[.int .i64 _,.int .i64 _]) (cs:=[_,_]) Z Z Z Z Z Z ?_;intro o1 b2 y0 T0 D1;replace b0:=b0.trans T0;refine lO y0.k [.w 4,.w 4] Z ⟨⟨Z,by rfl⟩,⟨Z,by rfl⟩,U⟩ (E0a k9b (vs:=[(0,.int .i64 _),(1,.agg _)]) (cs:=[_,_,_,_,_]) Z Z Z Z ?_);refine k0a y0 K8a (vs:=[.agg _]) (cs:=[_,_,_,_,_]) Z Z Z Z Z Z ?_;intro p1 d2 J0 V0 E1;replace b0:=b0.trans V0;refine E0a O4c (vs:=[(0,.int .i64 _),(1,.int .i64 _),(2,.int .i64 _),(3,.agg _),(4,.slice _ _ _)]) (cs:=[_,_,_,_,_,_,_,_,_,_,_]) Z Z Z Z ?_;refine k0a J0 c9b (vs:=[.agg _]) (cs:=[_,_,_,_,_,_,_,_,_,_,_]) Z Z Z Z Z Z ?_;intro q1 e2 K0 W0 F1;replace b0:=b0.trans W0;refine E0a H4c (vs:=[(0,.string _),(1,.int .i64 _),(2,.slice _ _ _),(3,.slice _ _ _),(4,.slice _ _ _)]) (cs:=[_,_,_,_,_,_,_]) Z Z Z Z ?_;refine g0a K0 B0b Z Z ?_;intro g4 w4 S4 X4 G4;have p0:=Nat.le_trans b0.size G4;replace b0:=b0.trans X4;refine c0a (kk:=0) (vs:=[_,_,_,_,_,_,_]) S4 C0b Z Z Z Z Z Z Z ?_;intro D0 e0 s0;dsimp only[h0a,List.set] at e0;replace b0:=b0.fresh s0 (by exact p0);refine lO e0.k [.w 7,.w 7] Z ⟨⟨Z,by rfl⟩,⟨Z,by rfl⟩,U⟩ (k0a e0 N0a (vs:=[.agg _,.agg _]) (cs:=[_,_,_,_,_,_,_,_]) Z Z Z Z Z Z ?_);intro r1 f2 L0 Y0 H1;replace b0:=b0.trans Y0;refine k0a L0 Q0a (vs:=[.int .i64 _,.int .i64 _]) (cs:=[_,_]) Z Z Z Z Z Z ?_;intro s1 g2 z0 Z0 I1;replace b0:=b0.trans Z0;refine lO z0.k [.w 9,.w 9] Z ⟨⟨Z,by rfl⟩,⟨Z,by rfl⟩,U⟩ (E0a k9b (vs:=[(0,.int .i64 _),(1,.agg _)]) (cs:=[_,_,_,_,_]) Z Z Z Z ?_);refine k0a z0 K8a (vs:=[.agg _]) (cs:=[_,_,_,_,_]) Z Z Z Z Z Z ?_;intro t1 h2 N0 a1 J1;replace b0:=b0.trans a1;refine E0a O4c (vs:=[(0,.int .i64 _),(1,.int .i64 _),(2,.int .i64 _),(3,.agg _),(4,.slice _ _ _),(7,.int .i64 _)]) (cs:=[_,_,_,_,_,_,_,_,_,_,_]) Z Z Z Z ?_;refine k0a N0 c9b (vs:=[.agg _]) (cs:=[_,_,_,_,_,_,_,_,_,_,_]) Z Z Z Z Z Z ?_;intro u1 j2 O0 b1 K1;replace b0:=b0.trans b1;refine E0a H4c (vs:=[(0,.string _),(1,.int .i64 _),(2,.slice _ _ _),(3,.slice _ _ _),(4,.slice _ _ _)]) (cs:=[_,_,_,_,_,_,_]) Z Z Z Z ?_;refine g0a O0 B0b Z Z ?_;intro g5 w5 S5 X5 G5;have q0:=Nat.le_trans b0.size G5;replace b0:=b0.trans X5;refine c0a (kk:=0) (vs:=[_,_,_,_,_,_,_]) S5 C0b Z Z Z Z Z Z Z ?_;intro E0 j0 t0;dsimp only[h0a,List.set] at j0;replace b0:=b0.fresh t0 (by exact q0);have d0:=RdE.keep b0.of_nil _ _ C0;refine lO j0.k [.w 10] Z ⟨⟨Z,by rfl⟩,U⟩ (k0a j0 Q0a (vs:=[.int .i64 _]) (cs:=[_]) Z Z Z Z Z Z ?_);intro v1 m2 A0 c1 M1;replace d0:=RdE.keep (c1.of_nil) _ _ d0;refine E0a u4c (vs:=[(0,.string _),(1,.string _),(3,.agg _),(4,.slice _ _ _)]) (cs:=[_,_,_,_,_,_,_,_,_,_,_]) Z Z Z Z ?_;refine lO A0.k [.w 13] Z ⟨⟨Z,by rfl⟩,U⟩ (k0a A0 Q0a (vs:=[.int .i64 _]) (cs:=[_]) Z Z Z Z Z Z ?_);intro x1 n2 P0 d1 N1;replace d0:=RdE.keep (d1.of_nil) _ _ d0;refine E0a u4c (vs:=[(0,.string _),(1,.string _),(3,.agg _),(4,.slice _ _ _)]) (cs:=[_,_,_,_,_,_,_,_,_,_,_]) Z Z Z Z ?_;refine k0a P0 v4c (vs:=[.agg _,.agg _]) (cs:=[_,_,_,_,_,_,_,_,_,_,_,_,_,_,_,_,_,_,_,_,_,_]) Z Z Z Z Z Z ?_;intro U1 o2 B0 j1 O1;replace d0:=RdE.keep (j1.of_nil) _ _ d0;refine lO B0.k [.w 8,.w 3] Z ⟨⟨Z,by rfl⟩,⟨Z,by rfl⟩,U⟩ (k0a B0 A4c (vs:=[.agg _,.agg _]) (cs:=[_,_,_,_,_,_,_,_,_,_,_,_,_,_]) Z Z Z Z Z Z ?_);intro V1 p2 Q0 m1 P1;replace d0:=RdE.keep (m1.of_nil) _ _ d0;refine E0a w0d (vs:=[(0,.slice _ _ _),(1,.slice _ _ _),(3,.slice _ _ _)]) (cs:=[_,_,_,_]) Z Z Z Z ?_;refine c0a (kk:=17) (vs:=[_,_,_,_]) Q0 B8c Z Z Z Z Z Z Z ?_;intro a0 m0 u0;dsimp only[h0a,List.set] at m0;replace d0:=RdE.keep (u0.mono (by simp)) _ _ d0;refine lR0 Z U ?_;have SF:=m0;replace d0:=RdE.less (M':=[]) (by simp) _ _ d0;have c0:RdE [] a0 I3a [.int .i64 1,.int .i64 1,.int .i64 1,.slice none 0 0]:=e1a i1 i1 i1;have hz:RdE [] a0 zE [.int .i64 0,.int .i64 0,.int .i64 0,.slice none 0 0]:=e1a i0 i0 i0;have f0:RdI [] a0 (.slice (some ⟨v1,0,none⟩) 1 1) [0]:=W2a SF (k:=3) Z Z (by simp[i0]);have f1:RdI [] a0 (.slice (some ⟨x1,0,none⟩) 1 1) [1]:=W2a SF (k:=2) Z Z (by simp[i1]);have ma:RdI [] a0 (.slice (some ⟨o1,0,none⟩) 2 2) [0,0]:=W2a SF (k:=12) Z Z (by simp[i0]);have mb:RdI [] a0 (.slice (some ⟨s1,0,none⟩) 2 2) [1,1]:=W2a SF (k:=7) Z Z (by simp[i1]);have sa:h6c [] a0 (.slice (some ⟨p1,0,none⟩) 1 1) [⟨0,I3a⟩]:=a4c (SF.cells 11 Z) Z ⟨_,Z,i0,c0⟩;have sb:h6c [] a0 (.slice (some ⟨t1,0,none⟩) 1 1) [⟨1,I3a⟩]:=a4c (SF.cells 6 Z) Z ⟨_,Z,i1,c0⟩;have aa:y9c [] a0 (.slice (some ⟨n1,0,none⟩) 2 2) [I3a,I3a]:=U1b (c:=[_,_,_,_]) (c2:=[_,_,_,_]) (SF.cells 13 Z) Z Z c0 c0;have ab:y9c [] a0 (.slice (some ⟨r1,0,none⟩) 2 2) [I3a,I3a]:=U1b (c:=[_,_,_,_]) (c2:=[_,_,_,_]) (SF.cells 8 Z) Z Z c0 c0;have ta:u0d [] a0 (.slice (some ⟨q1,0,none⟩) 1 1) [⟨3,0,1,I3a,[⟨0,I3a⟩],false,0,0⟩]:=a4c (SF.cells 10 Z) Z ⟨_,_,_,_,_,Z,i3,i0,i1,i0,i0,c0,sa⟩;have tb:u0d [] a0 (.slice (some ⟨u1,0,none⟩) 1 1) [⟨3,0,1,I3a,[⟨1,I3a⟩],false,0,1⟩]:=a4c (SF.cells 5 Z) Z ⟨_,_,_,_,_,Z,i3,i0,i1,i0,i1,c0,sb⟩;refine v0a Z c5a Z (SF.cells 17 Z) Z ⟨⟨_,Z,_,_,_,_,Z,?_,?_,Y5b,?_⟩,SF.fin⟩
 ·exact U1b (c:=[_,_,_,_,_,_]) (c2:=[_,_,_,_,_,_]) (SF.cells 15 Z) Z Z ⟨Z,i1,i0,im,i0⟩ ⟨Z,i1,i0,im,i1⟩
 ·exact U1b (c:=[_,_,_,_,_,_,_,_,_,_,_]) (c2:=[_,_,_,_,_,_,_,_,_,_,_]) (SF.cells 1 Z) Z Z ⟨_,_,_,_,_,_,_,_,_,Z,hz,d0,f0⟩ ⟨_,_,_,_,_,_,_,_,_,Z,hz,c0,f1⟩
 ·exact U1b (c:=[_,_,_,_,_,_,_]) (c2:=[_,_,_,_,_,_,_]) (SF.cells 0 Z) Z Z ⟨_,_,_,_,Z,i2,aa,ma,ta,Y5b⟩ ⟨_,_,_,_,Z,i2,ab,mb,tb,Y5b⟩
theorem i3c:∀l,l=[0]∨l=[0,1]→wdL M1a.cells l=l.map fun _=>1:=fun l h=>by rcases h with rfl|rfl<;>rfl
theorem j2c(w0:World)(hK:k2a [] w0)(hN:q7a [] w0):
 C0a prog 10 #[] w0 fun v w'=>v=.bool true∧Below w0.heap.size w0 w':=by
 have S:=St.refl w0;have i0:i64 0:=by unfold i64;omega
 have i1:i64 1:=by unfold i64;omega
 have r1:onE M1a 1≠zE:=by rw[j3b];intro h;exact absurd (congrArg E.op h) (by decide)
 have q1:onE M1a 0≠zE:=by rw[t5c];intro h;exact absurd (congrArg E.op h) (by decide)
 have K1:∀c∈[(0:Int)],0≤c∧c<M1a.cells.length:=by simp[M1a]
 have r2:∀c∈[(0:Int),1],0≤c∧c<M1a.cells.length:=by simp[M1a]
 refine a0a func10 Z ntmps10 Z ?_;refine wO0 Z U (j0a S q1d Z Z (V3b _) ?_);rintro v6 w6 ⟨_,rfl,r6⟩ S6 X6;obtain⟨_,_,_,_,_,_,_,_,_,_,_,_,rfl,-⟩:=r6.open_;have K6:=w0a.refl [] w6;have y0:InP M1a [] w6 _:=⟨r6,T7c,hK.keep (S6.keep0 []),by simp⟩;refine g0a S6 N6c Z Z ?_;intro g1 w1 S1 X1 G1;have u1:=Nat.le_trans K6.size G1;replace K6:=K6.trans X1
 first|refine c0a (kk:=0) (vs:=[_,_,_,_]) S1 B8c Z Z Z Z Z Z Z ?_
 intro H2 Q0 y1;dsimp only[h0a,List.set] at Q0;replace K6:=K6.fresh y1 (by first|exact u1);refine lO Q0.k [.w 0] Z ⟨⟨Z,Z⟩,U⟩ (k0a Q0 Q0a (vs:=[.int .i64 _]) (cs:=[_]) Z Z Z Z Z Z ?_);intro g9 w9 S9 X9 G9;replace K6:=K6.trans X9;refine j0a S9 Z6b Z Z (x9a M1a 1 [0] (by simp[C1a]) K1 [] _ _ _ (y0.keep K6) (show RdI [] _ (.slice (some ⟨g9,0,none⟩) 1 1) [0] from W2a S9 (k:=0) Z Z (by simp[i0])) r1 (s6a T7c r1) 1 (by rw[i3c _ (.inl rfl)];rfl) 2 (by rw[J6a,i3c _ (.inr rfl)];rfl) (by omega) (by rw[J6a];exact r2)) ?_;rintro Z2 E2 ⟨_,rfl,F1⟩ d2 f2;replace K6:=K6.trans f2;obtain⟨_,_,_,_,rfl,B1,D1,I1,O1,-,M1⟩:=F1.get;obtain rfl:=L9c O1 M1;obtain⟨_,_,_,rfl⟩:=B1.form;obtain⟨_,_,c2,rfl⟩:=D1.form;have Y0:=I1 [] (by simp);obtain⟨_,_,c3,rfl⟩:=Y0.form;have b0:=w0a.refl [] E2;refine lO0 Z U (g0a d2 y6a Z Z ?_);intro g2 w2 S2 X2 G2;have v1:=Nat.le_trans K6.size G2;have f1:=Nat.le_trans b0.size G2;replace K6:=K6.trans X2;replace b0:=b0.trans X2;refine c0a (kk:=0) (vs:=[_,_,_]) S2 B6a Z Z Z Z Z Z Z ?_;intro O2 S0 p1;dsimp only[h0a,List.set] at S0;replace K6:=K6.fresh p1 (by exact v1);replace b0:=b0.fresh p1 (by exact f1);refine lO S0.k [.w 2] Z ⟨⟨Z,Z⟩,U⟩ (k0a S0 Q0a (vs:=[.int .i64 _]) (cs:=[_]) Z Z Z Z Z Z ?_);intro n2 b3 Q1 R1 Y2;replace K6:=K6.trans R1;replace b0:=b0.trans R1;refine j0a Q1 Z6b Z Z (x9a M1a 0 [0] (by simp[C1a]) K1 [] _ _ _ (y0.keep K6) (show RdI [] _ (.slice (some ⟨n2,0,none⟩) 1 1) [0] from W2a Q1 (k:=0) Z Z (by simp[i0])) q1 (s6a T7c q1) 1 (by rw[i3c _ (.inl rfl)];rfl) 1 (by rw[U2b,i3c _ (.inl rfl)];rfl) (by omega) (by rw[U2b];exact K1)) ?_;rintro a3 F2 ⟨_,rfl,H1⟩ e2 T1;replace K6:=K6.trans T1;replace b0:=b0.trans T1;obtain⟨_,_,_,_,rfl,C1,E1,J1,P1,-,N1⟩:=H1.get;obtain rfl:=S0d P1 N1;obtain⟨_,_,_,rfl⟩:=C1.form;obtain⟨_,_,_,rfl⟩:=E1.form;have Z0:=J1 [] (by simp);obtain⟨_,_,_,rfl⟩:=Z0.form;have c0:=w0a.refl [] F2;refine lO0 Z U (g0a e2 y6a Z Z ?_);intro g4 w4 S4 X4 G4;have x1:=Nat.le_trans K6.size G4;have j1:=Nat.le_trans b0.size G4;have m1:=Nat.le_trans c0.size G4;replace K6:=K6.trans X4;replace b0:=b0.trans X4;replace c0:=c0.trans X4;refine c0a (kk:=0) (vs:=[_,_,_]) S4 B6a Z Z Z Z Z Z Z ?_;intro b1 T0 W0;dsimp only[h0a,List.set] at T0;replace K6:=K6.fresh W0 (by exact x1);replace b0:=b0.fresh W0 (by exact j1);replace c0:=c0.fresh W0 (by exact m1);refine lC0 Z U (E9b b0a (fun i=>[0,2,3,6,7,10,11,12,13,15,18,19,20,21,22,23,24,25,26,27,28,29,30,31,32,35,36,37,38,39,40,43,44].contains i) (.op 0 (.op 2 (.op 3 (.two (.op 1 (.op 4 (.op 5 (.op 6 (.op 7 (.op 8 (.op 9 (.op 10 (.op 11 (.op 12 (.op 13 (.op 15 (.op 14 (.op 16 (.op 17 (.op 18 (.op 19 (.op 20 (.op 21 (.op 22 (.op 23 (.op 24 (.op 25 (.op 26 (.op 27 (.op 28 (.op 29 (.op 30 (.op 31 (.op 32 (.op 33 (.op 34 (.op 35 (.op 36 (.op 37 (.op 38 (.op 39 (.op 40 (.op 41 (.op 42 (.op 43 (.op 44 .nil)))))))))))))))))))))))))))))))))))))))))) (.op 4 (.op 1 (.op 5 (.op 6 (.op 7 (.op 8 (.op 9 (.op 10 (.op 11 (.op 12 (.op 13 (.op 15 (.op 14 (.op 16 (.op 17 (.op 18 (.op 19 (.op 20 (.op 21 (.op 22 (.op 23 (.op 24 (.op 25 (.op 26 (.op 27 (.op 28 (.op 29 (.op 30 (.op 31 (.op 32 (.op 33 (.op 34 (.op 35 (.op 36 (.op 37 (.op 38 (.op 39 (.op 40 (.op 41 (.op 42 (.op 43 (.op 44 .nil)))))))))))))))))))))))))))))))))))))))))))))) (Z2d T0) ?_);have O0:=T0.drew;have A0:w0a [] b1 b1.drew:=F4a _ _;generalize b1.drew=d3 at O0 A0 ⊢;replace K6:=K6.trans A0;replace b0:=b0.trans A0;replace c0:=c0.trans A0;refine Q1a ⟨O0,A0⟩ Z Z Z ?_;refine y2a c5a Z (fun w1 hw=>hw.1.cells 4 Z) Z Z ?_;refine n0a ?_;refine Q1a ⟨O0,A0⟩ Z Z Z ?_;refine x2a H3a (vs:=[(0,.int .i64 _),(1,.int .i64 _)]) (cs:=[_,_]) Z Z Z Z ?_;refine n0a ?_;refine Q1a ⟨O0,A0⟩ Z Z Z ?_;refine x2a H3a (vs:=[(0,.int .i64 _),(1,.int .i64 _)]) (cs:=[_,_]) Z Z Z Z ?_;refine n0a ?_;refine w1c ?_ ?_
 ·refine C5a ⟨O0,A0⟩ Z Z Z ?_;refine j0a O0 F4c Z Z (y1b M1a [] _ _ (y0.keep K6)) ?_;rintro v20 I2 ⟨s2,j0,a1,X0,-⟩ c1 K0;have p0:=A0.trans K0;replace K6:=K6.trans K0;replace b0:=b0.trans K0;replace c0:=c0.trans K0;obtain rfl:=v7b a1 X0;obtain⟨U1,t2,h2,rfl⟩:=j0.form;refine W0a ⟨Z,?_⟩;refine C5a ⟨c1,p0⟩ Z Z Z ?_;refine k0a c1 p3a (vs:=[.agg _,.agg _]) (cs:=[_,_,_,_]) Z Z Z Z Z Z ?_;intro o2 J2 d1 B0 Z1;have q0:=p0.trans B0;replace K6:=K6.trans B0;replace b0:=b0.trans B0;replace c0:=c0.trans B0;replace j0:=j0.keep (B0.of_nil);refine W0a ⟨Z,?_⟩;refine C5a ⟨d1.tail,q0⟩ Z Z Z ?_;refine f0a d1 T0b Z Z (I2a (Q2a [] _ _ _ _ [(0,1),(1,0)] j0 (U1b (c:=[_,_]) (c2:=[_,_]) (d1.cells 0 Z) Z Z ⟨Z,i0,i1⟩ ⟨Z,i1,i0⟩)) (decide_eq_true Z)) ?_;intro K2 I0 C0;have g0:=q0.trans C0;replace K6:=K6.trans C0;replace b0:=b0.trans C0;replace c0:=c0.trans C0;replace j0:=j0.keep (C0.of_nil);refine W0a ⟨Z,?_⟩;refine Q1a ⟨I0.tail,g0⟩ Z Z Z ?_;refine m1a (hv:=Z) (v:=.bool _) Z ?_;refine n0a ?_;refine Q1a ⟨I0.tail,g0⟩ Z Z Z ?_;refine J1a Z Z ?_;refine y2a c5a Z (fun w1 hw=>hw.1.cells 4 Z) Z Z ?_;refine n0a ?_;refine C5a ⟨I0.tail,g0⟩ Z Z Z ?_;refine s3a Z Z Z ?_;refine j0a I0 o7b Z Z (q6a M1a 0 _ Z [] _ _ (y0.keep K6)) ?_;rintro B2 L2 ⟨i2,rfl,s1⟩ R0 D0;have r0:=g0.trans D0;replace K6:=K6.trans D0;replace b0:=b0.trans D0;replace c0:=c0.trans D0;replace j0:=j0.keep (D0.of_nil);obtain⟨V1,u2,y2,rfl,-⟩:=s1.cells;refine W0a ⟨Z,?_⟩;refine C5a ⟨R0.tail,r0⟩ Z Z Z ?_;refine s3a Z Z Z ?_;refine f0a R0 A5c Z Z (G7b (B3a M1a 0) _ _ s1 ((y0.keep K6).msk) (hN.keep (R0.keep0 [])) (by rw[x4a];exact T0d) (by rw[x4a];exact Z4c) (by rw[x4a,L6b];decide)) ?_;intro N2 x0 E0;have e0:=r0.trans E0;replace K6:=K6.trans E0;replace b0:=b0.trans E0;replace c0:=c0.trans E0;replace j0:=j0.keep (E0.of_nil);refine W0a ⟨Z,?_⟩;refine Q1a ⟨x0.tail,e0⟩ Z Z Z ?_;refine J1a Z Z ?_;refine q4b Z Z Z (fun _=>?_) (fun h=>absurd (by rw[x4a,L6b];rfl) h);refine n0a ?_;refine Q1a ⟨x0.tail,e0⟩ Z Z Z ?_;refine D4a Z (v:=.bool _) Z Z ?_;refine n0a ?_;refine Q1a ⟨x0.tail,e0⟩ Z Z Z ?_;refine m1a (hv:=Z) (v:=.bool _) Z ?_;refine n0a ?_;refine Q1a ⟨x0.tail,e0⟩ Z Z Z ?_;refine J1a Z Z ?_;refine y2a c5a Z (fun w1 hw=>hw.1.cells 4 Z) Z Z ?_;refine n0a ?_;refine Q1a ⟨x0.tail,e0⟩ Z Z Z ?_;refine J1a Z Z ?_;refine y2a c5a Z (fun w1 hw=>hw.1.cells 4 Z) Z Z ?_;refine n0a ?_;refine C5a ⟨x0.tail,e0⟩ Z Z Z ?_;refine s3a Z Z Z ?_;refine j0a x0 d2c Z Z (C7c M1a 1 [] _ _ (y0.keep K6)) ?_;rintro C2 P2 ⟨j2,rfl,n0⟩ n1 F0;have s0:=e0.trans F0;replace K6:=K6.trans F0;replace b0:=b0.trans F0;replace c0:=c0.trans F0;replace j0:=j0.keep (F0.of_nil);obtain⟨W1,v2,z2,rfl,-⟩:=n0.cells;refine W0a ⟨Z,?_⟩;refine C5a ⟨n1.tail,s0⟩ Z Z Z ?_;refine s3a Z Z Z ?_;refine j0a n1 o7b Z Z (q6a M1a 0 _ Z [] _ _ (y0.keep K6)) ?_;rintro D2 Q2 ⟨m2,rfl,t1⟩ o1 z0;have t0:=s0.trans z0;replace n0:=RdE.keep (z0.of_nil) _ _ n0;replace K6:=K6.trans z0;replace b0:=b0.trans z0;replace c0:=c0.trans z0;replace j0:=j0.keep (z0.of_nil);obtain⟨Y1,x2,A2,rfl,-⟩:=t1.cells;refine W0a ⟨Z,?_⟩;refine C5a ⟨o1.tail,t0⟩ Z Z Z ?_;refine s3a Z Z Z ?_;refine f0a o1 r6b Z Z (I2a (T9a (onE M1a 1) (B3a M1a 0) [] _ _ _ n0 t1) (H8c (j3b.trans x4a.symm))) ?_;intro R2 f0 G0;have a0:=t0.trans G0;replace n0:=RdE.keep (G0.of_nil) _ _ n0;replace K6:=K6.trans G0;replace b0:=b0.trans G0;replace c0:=c0.trans G0;replace j0:=j0.keep (G0.of_nil);refine W0a ⟨Z,?_⟩;refine Q1a ⟨f0.tail,a0⟩ Z Z Z ?_;refine D4a Z (v:=.bool _) Z Z ?_;refine n0a ?_;refine Q1a ⟨f0.tail,a0⟩ Z Z Z ?_;refine m1a (hv:=Z) (v:=.bool _) Z ?_;refine n0a ?_;refine Q1a ⟨f0.tail,a0⟩ Z Z Z ?_;refine J1a Z Z ?_;refine m1a (hv:=Z) (v:=.int .i64 _) Z ?_;refine n0a ?_;refine Q1a ⟨f0.tail,a0⟩ Z Z Z ?_;refine J1a Z Z ?_;refine D1c Z Z Z (fun z1=>?_) fun z1=>?_
  ·refine n0a ?_;refine Q1a ⟨f0.tail,a0⟩ Z Z Z ?_;refine D4a Z (v:=.bool _) Z Z ?_;refine n0a ?_;refine Q1a ⟨f0.tail,a0⟩ Z Z Z ?_;refine m1a (hv:=Z) (v:=.bool _) Z ?_;refine n0a ?_;refine Q1a ⟨f0.tail,a0⟩ Z Z Z ?_;refine J1a Z Z ?_;refine m1a (hv:=Z) (v:=.int .i64 _) Z ?_;refine n0a ?_;refine Q1a ⟨f0.tail,a0⟩ Z Z Z ?_;refine J1a Z Z ?_;refine D1c Z Z Z (fun A1=>?_) fun A1=>?_
   ·refine n0a ?_;refine Q1a ⟨f0.tail,a0⟩ Z Z Z ?_;refine D4a Z (v:=.bool _) Z Z ?_;refine n0a ?_;refine Q1a ⟨f0.tail,a0⟩ Z Z Z ?_;refine m1a (hv:=Z) (v:=.bool _) Z ?_;refine n0a ?_;refine Q1a ⟨f0.tail,a0⟩ Z Z Z ?_;refine J1a Z Z ?_;refine i1a z9a Z Z ?_;refine n0a ?_;refine Q1a ⟨f0.tail,a0⟩ Z Z Z ?_;refine J1a Z Z ?_;refine i0a C8a Z (fun w1 hw=>by exact hw.1.cell 2 Z Z) Z ?_;refine n0a ?_;refine Q1a ⟨f0.tail,a0⟩ Z Z Z ?_;refine J1a Z Z ?_;refine x2a H3a (vs:=[(0,.int .i64 _),(1,.int .i64 _)]) (cs:=[_,_]) Z Z Z Z ?_;refine n0a ?_;refine Q1a ⟨f0.tail,a0⟩ Z Z Z ?_;refine J1a Z Z ?_;refine x2a H3a (vs:=[(0,.int .i64 _),(1,.int .i64 _)]) (cs:=[_,_]) Z Z Z Z ?_;refine n0a ?_;refine Q1a ⟨f0.tail,a0⟩ Z Z Z ?_;refine J1a Z Z ?_;refine x2a H3a (vs:=[(0,.int .i64 _),(1,.int .i64 _)]) (cs:=[_,_]) Z Z Z Z ?_;refine n0a ?_;refine C5a ⟨f0.tail,a0⟩ Z Z Z ?_;refine s3a Z Z Z ?_;refine k0a f0 p3a (vs:=[.agg _,.agg _,.agg _]) (cs:=[_,_,_,_,_,_]) Z Z Z Z Z Z ?_;intro p2 T2 U0 H0 a2;have u0:=a0.trans H0;replace n0:=RdE.keep (H0.of_nil) _ _ n0;replace K6:=K6.trans H0;replace b0:=b0.trans H0;replace c0:=c0.trans H0;replace j0:=j0.keep (H0.of_nil);refine W0a ⟨Z,?_⟩;refine C5a ⟨U0.tail.tail,u0⟩ Z Z Z ?_;refine s3a Z Z Z ?_;refine f0a U0 T0b Z Z (I2a (Q2a [] _ _ _ _ [(0,0),(0,1),(1,1)] (Y0.keep b0) (D0d (c:=[_,_]) (c2:=[_,_]) (c3:=[_,_]) (U0.cells 0 Z) Z Z Z ⟨Z,i0,i0⟩ ⟨Z,i0,i1⟩ ⟨Z,i1,i1⟩)) (decide_eq_true Z)) ?_;intro U2 o0 L0;have d0:=u0.trans L0;replace n0:=RdE.keep (L0.of_nil) _ _ n0;replace K6:=K6.trans L0;replace b0:=b0.trans L0;replace c0:=c0.trans L0;replace j0:=j0.keep (L0.of_nil);refine W0a ⟨Z,?_⟩;refine Q1a ⟨o0.tail.tail,d0⟩ Z Z Z ?_;refine D4a Z (v:=.bool _) Z Z ?_;refine n0a ?_;refine Q1a ⟨o0.tail.tail,d0⟩ Z Z Z ?_;refine m1a (hv:=Z) (v:=.bool _) Z ?_;refine n0a ?_;refine Q1a ⟨o0.tail.tail,d0⟩ Z Z Z ?_;refine J1a Z Z ?_;refine i1a z9a Z Z ?_;refine n0a ?_;refine Q1a ⟨o0.tail.tail,d0⟩ Z Z Z ?_;refine J1a Z Z ?_;refine i0a C8a Z (fun w1 hw=>by exact hw.1.cell 0 Z Z) Z ?_;refine n0a ?_;refine Q1a ⟨o0.tail.tail,d0⟩ Z Z Z ?_;refine J1a Z Z ?_;refine x2a H3a (vs:=[(0,.int .i64 _),(1,.int .i64 _)]) (cs:=[_,_]) Z Z Z Z ?_;refine n0a ?_;refine Q1a ⟨o0.tail.tail,d0⟩ Z Z Z ?_;refine J1a Z Z ?_;refine x2a H3a (vs:=[(0,.int .i64 _),(1,.int .i64 _)]) (cs:=[_,_]) Z Z Z Z ?_;refine n0a ?_;refine C5a ⟨o0.tail.tail,d0⟩ Z Z Z ?_;refine s3a Z Z Z ?_;refine k0a o0 p3a (vs:=[.agg _,.agg _]) (cs:=[_,_,_,_]) Z Z Z Z Z Z ?_;intro q2 V2 V0 N0 b2;have v0:=d0.trans N0;replace n0:=RdE.keep (N0.of_nil) _ _ n0;replace K6:=K6.trans N0;replace b0:=b0.trans N0;replace c0:=c0.trans N0;replace j0:=j0.keep (N0.of_nil);refine W0a ⟨Z,?_⟩;refine C5a ⟨V0.tail.tail.tail,v0⟩ Z Z Z ?_;refine s3a Z Z Z ?_;refine f0a V0 T0b Z Z (I2a (Q2a [] _ _ _ _ [(0,0),(1,1)] (Z0.keep c0) (U1b (c:=[_,_]) (c2:=[_,_]) (V0.cells 0 Z) Z Z ⟨Z,i0,i0⟩ ⟨Z,i1,i1⟩)) (decide_eq_true Z)) ?_;intro W2 J0 P0;have m0:=v0.trans P0;replace n0:=RdE.keep (P0.of_nil) _ _ n0;replace K6:=K6.trans P0;replace b0:=b0.trans P0;replace c0:=c0.trans P0;replace j0:=j0.keep (P0.of_nil);refine W0a ⟨Z,?_⟩;refine Q1a ⟨J0.tail.tail.tail,m0⟩ Z Z Z ?_;refine D4a Z (v:=.bool _) Z Z ?_;refine n0a ?_;refine Q1a ⟨J0.tail.tail.tail,m0⟩ Z Z Z ?_;refine t4a (v:=.bool _) Z Z ?_;refine n0a ?_;refine M0b ⟨J0.tail.tail.tail,m0⟩ ?_;refine fR0 Z U (s0a Z ?_);exact⟨Z,J0.fin⟩
   exfalso;omega
  exfalso;omega
 refine C5a ⟨O0,A0⟩ Z Z Z ?_;refine k0a O0 p3a (vs:=[.agg _,.agg _]) (cs:=[_,_,_,_]) Z Z Z Z Z Z ?_;intro o2 J2 d1 B0 Z1;have q0:=A0.trans B0;replace K6:=K6.trans B0;replace b0:=b0.trans B0;replace c0:=c0.trans B0;refine W0a ⟨Z,?_⟩;refine C5a ⟨d1.tail,q0⟩ Z Z Z ?_;refine j0a d1 F4c Z Z (y1b M1a [] _ _ (y0.keep K6)) ?_;rintro v20 I2 ⟨s2,j0,a1,X0,-⟩ c1 K0;have p0:=q0.trans K0;replace K6:=K6.trans K0;replace b0:=b0.trans K0;replace c0:=c0.trans K0;obtain rfl:=v7b a1 X0;obtain⟨U1,t2,h2,rfl⟩:=j0.form;refine W0a ⟨Z,?_⟩;refine C5a ⟨c1.tail,p0⟩ Z Z Z ?_;refine f0a c1 T0b Z Z (I2a (Q2a [] _ _ _ _ [(0,1),(1,0)] j0 (U1b (c:=[_,_]) (c2:=[_,_]) (c1.cells 0 Z) Z Z ⟨Z,i0,i1⟩ ⟨Z,i1,i0⟩)) (decide_eq_true Z)) ?_;intro K2 I0 C0;have g0:=p0.trans C0;replace K6:=K6.trans C0;replace b0:=b0.trans C0;replace c0:=c0.trans C0;refine W0a ⟨Z,?_⟩;refine Q1a ⟨I0.tail,g0⟩ Z Z Z ?_;refine m1a (hv:=Z) (v:=.bool _) Z ?_;refine n0a ?_;refine Q1a ⟨I0.tail,g0⟩ Z Z Z ?_;refine J1a Z Z ?_;refine y2a c5a Z (fun w1 hw=>hw.1.cells 4 Z) Z Z ?_;refine n0a ?_;refine C5a ⟨I0.tail,g0⟩ Z Z Z ?_;refine s3a Z Z Z ?_;refine j0a I0 o7b Z Z (q6a M1a 0 _ Z [] _ _ (y0.keep K6)) ?_;rintro B2 L2 ⟨i2,rfl,s1⟩ R0 D0;have r0:=g0.trans D0;replace K6:=K6.trans D0;replace b0:=b0.trans D0;replace c0:=c0.trans D0;obtain⟨V1,u2,y2,rfl,-⟩:=s1.cells;refine W0a ⟨Z,?_⟩;refine C5a ⟨R0.tail,r0⟩ Z Z Z ?_;refine s3a Z Z Z ?_;refine f0a R0 A5c Z Z (G7b (B3a M1a 0) _ _ s1 ((y0.keep K6).msk) (hN.keep (R0.keep0 [])) (by rw[x4a];exact T0d) (by rw[x4a];exact Z4c) (by rw[x4a,L6b];decide)) ?_;intro N2 x0 E0;have e0:=r0.trans E0;replace K6:=K6.trans E0;replace b0:=b0.trans E0;replace c0:=c0.trans E0;refine W0a ⟨Z,?_⟩;refine Q1a ⟨x0.tail,e0⟩ Z Z Z ?_;refine J1a Z Z ?_;refine q4b Z Z Z (fun _=>?_) (fun h=>absurd (by rw[x4a,L6b];rfl) h);refine n0a ?_;refine Q1a ⟨x0.tail,e0⟩ Z Z Z ?_;refine D4a Z (v:=.bool _) Z Z ?_;refine n0a ?_;refine Q1a ⟨x0.tail,e0⟩ Z Z Z ?_;refine m1a (hv:=Z) (v:=.bool _) Z ?_;refine n0a ?_;refine Q1a ⟨x0.tail,e0⟩ Z Z Z ?_;refine J1a Z Z ?_;refine y2a c5a Z (fun w1 hw=>hw.1.cells 4 Z) Z Z ?_;refine n0a ?_;refine Q1a ⟨x0.tail,e0⟩ Z Z Z ?_;refine J1a Z Z ?_;refine y2a c5a Z (fun w1 hw=>hw.1.cells 4 Z) Z Z ?_;refine n0a ?_;refine C5a ⟨x0.tail,e0⟩ Z Z Z ?_;refine s3a Z Z Z ?_;refine j0a x0 d2c Z Z (C7c M1a 1 [] _ _ (y0.keep K6)) ?_;rintro C2 P2 ⟨j2,rfl,n0⟩ n1 F0;have s0:=e0.trans F0;replace K6:=K6.trans F0;replace b0:=b0.trans F0;replace c0:=c0.trans F0;obtain⟨W1,v2,z2,rfl,-⟩:=n0.cells;refine W0a ⟨Z,?_⟩;refine C5a ⟨n1.tail,s0⟩ Z Z Z ?_;refine s3a Z Z Z ?_;refine j0a n1 o7b Z Z (q6a M1a 0 _ Z [] _ _ (y0.keep K6)) ?_;rintro D2 Q2 ⟨m2,rfl,t1⟩ o1 z0;have t0:=s0.trans z0;replace n0:=RdE.keep (z0.of_nil) _ _ n0;replace b0:=b0.trans z0;replace c0:=c0.trans z0;obtain⟨Y1,x2,A2,rfl,-⟩:=t1.cells;refine W0a ⟨Z,?_⟩;refine C5a ⟨o1.tail,t0⟩ Z Z Z ?_;refine s3a Z Z Z ?_;refine f0a o1 r6b Z Z (I2a (T9a (onE M1a 1) (B3a M1a 0) [] _ _ _ n0 t1) (H8c (j3b.trans x4a.symm))) ?_;intro R2 f0 G0;have a0:=t0.trans G0;replace b0:=b0.trans G0;replace c0:=c0.trans G0;refine W0a ⟨Z,?_⟩;refine Q1a ⟨f0.tail,a0⟩ Z Z Z ?_;refine D4a Z (v:=.bool _) Z Z ?_;refine n0a ?_;refine Q1a ⟨f0.tail,a0⟩ Z Z Z ?_;refine m1a (hv:=Z) (v:=.bool _) Z ?_;refine n0a ?_;refine Q1a ⟨f0.tail,a0⟩ Z Z Z ?_;refine J1a Z Z ?_;refine m1a (hv:=Z) (v:=.int .i64 _) Z ?_;refine n0a ?_;refine Q1a ⟨f0.tail,a0⟩ Z Z Z ?_;refine J1a Z Z ?_;refine D1c Z Z Z (fun z1=>?_) fun z1=>?_
 ·refine n0a ?_;refine Q1a ⟨f0.tail,a0⟩ Z Z Z ?_;refine D4a Z (v:=.bool _) Z Z ?_;refine n0a ?_;refine Q1a ⟨f0.tail,a0⟩ Z Z Z ?_;refine m1a (hv:=Z) (v:=.bool _) Z ?_;refine n0a ?_;refine Q1a ⟨f0.tail,a0⟩ Z Z Z ?_;refine J1a Z Z ?_;refine m1a (hv:=Z) (v:=.int .i64 _) Z ?_;refine n0a ?_;refine Q1a ⟨f0.tail,a0⟩ Z Z Z ?_;refine J1a Z Z ?_;refine D1c Z Z Z (fun A1=>?_) fun A1=>?_
  ·refine n0a ?_;refine Q1a ⟨f0.tail,a0⟩ Z Z Z ?_;refine D4a Z (v:=.bool _) Z Z ?_;refine n0a ?_;refine Q1a ⟨f0.tail,a0⟩ Z Z Z ?_;refine m1a (hv:=Z) (v:=.bool _) Z ?_;refine n0a ?_;refine Q1a ⟨f0.tail,a0⟩ Z Z Z ?_;refine J1a Z Z ?_;refine i1a z9a Z Z ?_;refine n0a ?_;refine Q1a ⟨f0.tail,a0⟩ Z Z Z ?_;refine J1a Z Z ?_;refine i0a C8a Z (fun w1 hw=>by exact hw.1.cell 2 Z Z) Z ?_;refine n0a ?_;refine Q1a ⟨f0.tail,a0⟩ Z Z Z ?_;refine J1a Z Z ?_;refine x2a H3a (vs:=[(0,.int .i64 _),(1,.int .i64 _)]) (cs:=[_,_]) Z Z Z Z ?_;refine n0a ?_;refine Q1a ⟨f0.tail,a0⟩ Z Z Z ?_;refine J1a Z Z ?_;refine x2a H3a (vs:=[(0,.int .i64 _),(1,.int .i64 _)]) (cs:=[_,_]) Z Z Z Z ?_;refine n0a ?_;refine Q1a ⟨f0.tail,a0⟩ Z Z Z ?_;refine J1a Z Z ?_;refine x2a H3a (vs:=[(0,.int .i64 _),(1,.int .i64 _)]) (cs:=[_,_]) Z Z Z Z ?_;refine n0a ?_;refine C5a ⟨f0.tail,a0⟩ Z Z Z ?_;refine s3a Z Z Z ?_;refine k0a f0 p3a (vs:=[.agg _,.agg _,.agg _]) (cs:=[_,_,_,_,_,_]) Z Z Z Z Z Z ?_;intro p2 T2 U0 H0 a2;have u0:=a0.trans H0;replace b0:=b0.trans H0;replace c0:=c0.trans H0;refine W0a ⟨Z,?_⟩;refine C5a ⟨U0.tail.tail,u0⟩ Z Z Z ?_;refine s3a Z Z Z ?_;refine f0a U0 T0b Z Z (I2a (Q2a [] _ _ _ _ [(0,0),(0,1),(1,1)] (Y0.keep b0) (D0d (c:=[_,_]) (c2:=[_,_]) (c3:=[_,_]) (U0.cells 0 Z) Z Z Z ⟨Z,i0,i0⟩ ⟨Z,i0,i1⟩ ⟨Z,i1,i1⟩)) (decide_eq_true Z)) ?_;intro U2 o0 L0;have d0:=u0.trans L0;replace c0:=c0.trans L0;refine W0a ⟨Z,?_⟩;refine Q1a ⟨o0.tail.tail,d0⟩ Z Z Z ?_;refine D4a Z (v:=.bool _) Z Z ?_;refine n0a ?_;refine Q1a ⟨o0.tail.tail,d0⟩ Z Z Z ?_;refine m1a (hv:=Z) (v:=.bool _) Z ?_;refine n0a ?_;refine Q1a ⟨o0.tail.tail,d0⟩ Z Z Z ?_;refine J1a Z Z ?_;refine i1a z9a Z Z ?_;refine n0a ?_;refine Q1a ⟨o0.tail.tail,d0⟩ Z Z Z ?_;refine J1a Z Z ?_;refine i0a C8a Z (fun w1 hw=>by exact hw.1.cell 0 Z Z) Z ?_;refine n0a ?_;refine Q1a ⟨o0.tail.tail,d0⟩ Z Z Z ?_;refine J1a Z Z ?_;refine x2a H3a (vs:=[(0,.int .i64 _),(1,.int .i64 _)]) (cs:=[_,_]) Z Z Z Z ?_;refine n0a ?_;refine Q1a ⟨o0.tail.tail,d0⟩ Z Z Z ?_;refine J1a Z Z ?_;refine x2a H3a (vs:=[(0,.int .i64 _),(1,.int .i64 _)]) (cs:=[_,_]) Z Z Z Z ?_;refine n0a ?_;refine C5a ⟨o0.tail.tail,d0⟩ Z Z Z ?_;refine s3a Z Z Z ?_;refine k0a o0 p3a (vs:=[.agg _,.agg _]) (cs:=[_,_,_,_]) Z Z Z Z Z Z ?_;intro q2 V2 V0 N0 b2;have v0:=d0.trans N0;replace c0:=c0.trans N0;refine W0a ⟨Z,?_⟩;refine C5a ⟨V0.tail.tail.tail,v0⟩ Z Z Z ?_;refine s3a Z Z Z ?_;refine f0a V0 T0b Z Z (I2a (Q2a [] _ _ _ _ [(0,0),(1,1)] (Z0.keep c0) (U1b (c:=[_,_]) (c2:=[_,_]) (V0.cells 0 Z) Z Z ⟨Z,i0,i0⟩ ⟨Z,i1,i1⟩)) (decide_eq_true Z)) ?_;intro W2 J0 P0;have m0:=v0.trans P0;refine W0a ⟨Z,?_⟩;refine Q1a ⟨J0.tail.tail.tail,m0⟩ Z Z Z ?_;refine D4a Z (v:=.bool _) Z Z ?_;refine n0a ?_;refine Q1a ⟨J0.tail.tail.tail,m0⟩ Z Z Z ?_;refine t4a (v:=.bool _) Z Z ?_;refine n0a ?_;refine M0b ⟨J0.tail.tail.tail,m0⟩ ?_;refine fR0 Z U (s0a Z ?_);exact⟨Z,J0.fin⟩
  exfalso;omega
 exfalso;omega
def n5b(p:List Z0a)(s:List Int)(c:Int):Nat:=(s.getD c.toNat 0).toNat % 2 ^ (wAt p c).toNat
theorem S1b(p:List Z0a)(c:Int)(C s:List Int):nuZ (c::C) (wdL p (c::C)) s=n5b p s c+2 ^ (wAt p c).toNat*nuZ C (wdL p C) s:=Z
theorem n7b(p:List Z0a)(c:Int)(C:List Int)(n:Nat)(s:List Int):stZ (c::C) (wdL p (c::C)) n s=stZ C (wdL p C) (n / 2 ^ (wAt p c).toNat) (s.set c.toNat ((n % 2 ^ (wAt p c).toNat:Nat):Int)):=Z
theorem w6b{p:List Z0a}:∀{C s s':List Int},(∀c∈C,n5b p s c=n5b p s' c)→nuZ C (wdL p C) s=nuZ C (wdL p C) s'
 | [],_,_,_=>rfl
 | c::C,s,s',h=>by rw[S1b,S1b,h c (by simp),w6b fun x hx=>h x (List.mem_cons_of_mem _ hx)]
theorem j4b{p:List Z0a}:∀{C:List Int} {n:Nat} {s:List Int} {i:Nat},(∀c∈C,c.toNat≠i)→(stZ C (wdL p C) n s).getD i 0=s.getD i 0
 | [],_,_,_,_=>rfl
 | c::C,n,s,i,h=>by
   rw[n7b,j4b fun x hx=>h x (List.mem_cons_of_mem _ hx),List.getD_eq_getElem?_getD,List.getElem?_set_ne (h c (by simp)),List.getD_eq_getElem?_getD]
def N2a(C:List Int)(n:Nat):Prop:=C.Pairwise (·<·)∧∀c∈C,0≤c∧c<n
theorem N2a.tail{c:Int}{C:List Int}{n:Nat}(h:N2a (c::C) n):N2a C n:=⟨(List.pairwise_cons.1 h.1).2,fun x hx=>h.2 x (List.mem_cons_of_mem _ hx)⟩
theorem N2a.ne{c:Int}{C:List Int}{n:Nat}(h:N2a (c::C) n):∀x∈C,x.toNat≠c.toNat:=fun x hx=>by
 have h1:=(List.pairwise_cons.1 h.1).1 x hx;have h2:=h.2 c (by simp);omega
theorem s9b{p:List Z0a}:∀{C m s:List Int},N2a C s.length→∀c∈C,(stZ C (wdL p C) (nuZ C (wdL p C) m) s).getD c.toNat 0=(n5b p m c:Int)
 | [],_,_,_,c,hc=>by cases hc
 | d::C,m,s,h,c,hc=>by
   have a0:n5b p m d<2 ^ (wAt p d).toNat:=Nat.mod_lt _ (Nat.two_pow_pos _);rw[n7b,S1b,Nat.add_mul_mod_self_left,Nat.mod_eq_of_lt a0,Nat.add_mul_div_left _ _ (Nat.two_pow_pos _),Nat.div_eq_of_lt a0,Nat.zero_add];rcases List.mem_cons.1 hc with rfl|hc
   ·rw[j4b h.ne,List.getD_eq_getElem?_getD,List.getElem?_set_self (by have:=h.2 c (by simp);omega)];rfl
   ·exact s9b (s:=s.set _ _) (by rw[List.length_set];exact h.tail) c hc
theorem Y4b{p:List Z0a}{C m s:List Int}(h:N2a C s.length){c:Int}(hc:c∈C):n5b p (stZ C (wdL p C) (nuZ C (wdL p C) m) s) c=n5b p m c:=by
 unfold n5b at *;rw[s9b h c hc,Int.toNat_natCast];unfold n5b;rw[Nat.mod_mod]
theorem T2b{p:List Z0a}{C D m s:List Int}(h:N2a D s.length)(hs:∀c∈C,c∈D):nuZ C (wdL p C) (stZ D (wdL p D) (nuZ D (wdL p D) m) s)=nuZ C (wdL p C) m:=w6b fun c hc=>Y4b h (hs c hc)
theorem p1c(n:Nat):m4a n=((2 ^ n:Nat):Int):=by
 induction n with
 | zero=>rfl
 | succ n ih=>rw[m4a,ih,Nat.pow_succ];omega
theorem f9a{p:List Z0a}{s:List Int}{c:Int}(h:0≤s.getD c.toNat 0):s.getD c.toNat 0 % m4a (wAt p c).toNat=(n5b p s c:Int):=by
 unfold n5b;rw[p1c];generalize s.getD c.toNat 0=x at h;obtain⟨_,rfl⟩:=Int.eq_ofNat_of_zero_le h;rw[Int.toNat_natCast];rfl
def z9b(s:List Int):Prop:=∀i:Nat,0≤s.getD i 0
theorem F8c{s:List Int}(h:∀x∈s,0≤x):z9b s:=fun i=>by
 rw[List.getD_eq_getElem?_getD];cases he:s[i]? with
 | none=>simp
 | some x=>exact h x (List.mem_of_getElem? he)
theorem O4b{p:List Z0a}{C s:List Int}{n:Nat}(h:∀x∈s,0≤x∧x<256)(hw:∀c∈C,1≤wAt p c∧wAt p c≤8):z9b (stZ C (wdL p C) n s):=F8c fun x hx=>(T6a C (wdL p C) n s (fun y hy=>by obtain⟨c,hc,rfl⟩:=List.mem_map.1 hy;exact hw c hc) h x hx).1
theorem Z5c{p:o0a}{e:E}(hv:e.valid p.cells true=true){o n o' n':List Int}(ho:z9b o)(hn:z9b n)(b0:z9b o')(a0:z9b n')(h3:∀x,e.occ 3 x=true→n5b p.cells o x=n5b p.cells o' x)(h2:∀x,e.occ 2 x=true→n5b p.cells n x=n5b p.cells n' x):e.val o n=e.val o' n':=by
 obtain⟨_,hg,c0⟩:=s1a hv;refine J3c (cells:=p.cells) e 40 hg c0 (fun x hx=>?_) fun x hx=>?_
 ·rw[f9a (ho _),f9a (b0 _),h3 x hx]
 ·rw[f9a (hn _),f9a (a0 _),h2 x hx]
theorem y0c(x:j1a)(M:List Nat)(w0:World)(ts:List Value)(hT:X0a M w0 ts x):
 C0a prog 50 #[.agg ts.toArray] w0 fun v w'=>(∃b,v=.bool b∧(b=true→True))∧Below w0.heap.size w0 w':=by
 obtain⟨Aa,na,ca,Am,nm,cm,As,ns,cn,Al,nl,cl,rfl,-,u1,_,e0,S0,_⟩:=X0a.open_ hT;have S:=St.refl w0;refine a0a func50 Z ntmps50 Z ?_;refine wO0 Z U (p0a S Z ?_);intro g1 w1 S1 X1 G1;refine lC0 Z U (wL (fun μk D ε w=>D=[]∧∃k:Nat,(k+μk=(x.steps.length))∧St [] w0 w [(some g1,64,[.string x.name,.int .i64 x.points,.slice Aa na ca,.slice Am nm cm,.slice As ns cn,.slice Al nl cl,.bool x.asleep])]∧Sl ε [(1,.pointer (some ⟨g1,0,none⟩)),(3,.int .i64 k)]) (μ:=(x.steps.length)) ⟨Z,0,by omega,S1,Z⟩ ?_);rintro μk D ε w ⟨rfl,k,hk,S,eZ⟩;refine wK eZ (wB S.k [.o 0] Z ⟨Z,U⟩ (fun i1=>?_) fun i1=>?_)
 ·obtain⟨s,X0,x1,_,R0,i0,_,_,v0,F0⟩:=RdS.get (e0) (k) (by omega);obtain⟨_,_,_,_,_,_,rfl,⟨_,_⟩,u0,_⟩:=Z1a.open_ F0;refine lO (S.k.a v0) [.o 0,.x X0 x1,.f 0 3] Z ⟨Z,⟨i0,by omega⟩,Z,U⟩ (u0a S N9a Z Z (v5a s.guard M _ _ _ (RdE.keep (S.keep0 M) _ _ u0)) (fun j1 F1 b0 T0=>?_) (fun j1 F1 b0 T0=>?_))
  ·obtain⟨_,Y0,y1,_,N0,j0,_,_,x0,G0⟩:=RdS.get (e0) (k) (by omega);obtain rfl:=Option.some.inj (R0.symm.trans N0);obtain⟨_,_,_,_,_,_,rfl,⟨_,_⟩,_⟩:=Z1a.open_ G0;refine lB (b0.k.a x0) [.o 0,.x Y0 y1,.f 0 7] Z ⟨Z,⟨j0,by omega⟩,Z,U⟩ (fun m1=>?_) fun m1=>?_
   ·exact lT Z U Z ⟨⟨_,Z,fun _=>trivial⟩,b0.fin⟩
   refine lC0 Z U (wL (fun μj D ε w=>D=[]∧∃j:Nat,(j+μj=(s.set.length))∧St [] w0 w [(some g1,64,[.string x.name,.int .i64 x.points,.slice Aa na ca,.slice Am nm cm,.slice As ns cn,.slice Al nl cl,.bool x.asleep])]∧Sl ε [(1,.pointer (some ⟨g1,0,none⟩)),(3,.int .i64 k),(4,.int .i64 j)]) (μ:=(s.set.length)) ⟨Z,0,by omega,b0,Z⟩ ?_);rintro μj D ε w ⟨rfl,j,_,S,eZ⟩;refine wK eZ ?_;obtain⟨_,Z0,z1,_,O0,m0,_,_,y0,H0⟩:=RdS.get (e0) (k) (by omega);obtain rfl:=Option.some.inj (R0.symm.trans O0);obtain⟨_,_,_,_,_,_,rfl,⟨_,_⟩,_⟩:=Z1a.open_ H0;refine wB (S.k.a y0) [.o 0,.x Z0 z1,.f 0 7] Z ⟨Z,⟨m0,by omega⟩,Z,U⟩ (fun n1=>?_) fun n1=>?_
   ·obtain⟨_,a1,A1,_,P0,n0,_,_,z0,I0⟩:=RdS.get (e0) (k) (by omega);obtain rfl:=Option.some.inj (R0.symm.trans P0);obtain⟨_,_,_,_,_,_,rfl,⟨_,_⟩,_,a0,_⟩:=Z1a.open_ I0;obtain⟨a,b1,B1,_,_,o0,_,_,A0,J0⟩:=RdS.get (a0) (j) (by omega);obtain⟨_,_,_,rfl,_,s0⟩:=P0a.open_ J0;refine lO ((S.k.a A0).a z0) [.o 0,.x a1 A1,.f 0 7,.x b1 B1,.f 1 1] Z ⟨Z,⟨o0,by omega⟩,Z,⟨n0,by omega⟩,Z,U⟩ (u0a S N9a Z Z (v5a a.to M _ _ _ (RdE.keep (S.keep0 M) _ _ s0)) (fun o1 H1 f0 U0=>?_) (fun o1 H1 f0 U0=>?_))
    ·refine lP0 Z ⟨by omega,U⟩ ⟨μj-1,by omega,Z,(j+1),(by omega),f0,Z⟩
    exact lT Z U Z ⟨⟨_,Z,fun _=>trivial⟩,f0.fin⟩
   refine lP0 Z ⟨by omega,U⟩ ⟨μk-1,by omega,Z,(k+1),(by omega),S,Z⟩
  exact lT Z U Z ⟨⟨_,Z,fun _=>trivial⟩,b0.fin⟩
 refine lC0 Z U (wL (fun μk D ε w=>D=[]∧∃k:Nat,(k+μk=(x.asserts.length))∧St [] w0 w [(some g1,64,[.string x.name,.int .i64 x.points,.slice Aa na ca,.slice Am nm cm,.slice As ns cn,.slice Al nl cl,.bool x.asleep])]∧Sl ε [(1,.pointer (some ⟨g1,0,none⟩)),(5,.int .i64 k)]) (μ:=(x.asserts.length)) ⟨Z,0,by omega,S,Z⟩ ?_);rintro μk D ε w ⟨rfl,k,hk,S,eZ⟩;refine wK eZ (wB S.k [.o 0] Z ⟨Z,U⟩ (fun p1=>?_) fun p1=>?_)
 ·obtain⟨e,c1,C1,_,_,p0,_,E0,B0,d0⟩:=RdS.get (u1) (k) (by omega);obtain⟨_,_,_,rfl,_⟩:=RdE.cells d0;refine lO (S.k.a B0) [.o 0,.x c1 C1,.v 0] Z ⟨⟨Z,E0⟩,⟨p0,by omega⟩,Z,U⟩ (u0a S N9a Z Z (v5a e M _ _ _ (RdE.keep (S.keep0 M) _ _ d0)) (fun q1 I1 g0 V0=>?_) (fun q1 I1 g0 V0=>?_))
  ·refine lP0 Z ⟨by omega,U⟩ ⟨μk-1,by omega,Z,(k+1),(by omega),g0,Z⟩
  exact lT Z U Z ⟨⟨_,Z,fun _=>trivial⟩,g0.fin⟩
 refine lC0 Z U (wL (fun μk D ε w=>D=[]∧∃k:Nat,(k+μk=(x.loops.length))∧St [] w0 w [(some g1,64,[.string x.name,.int .i64 x.points,.slice Aa na ca,.slice Am nm cm,.slice As ns cn,.slice Al nl cl,.bool x.asleep])]∧Sl ε [(1,.pointer (some ⟨g1,0,none⟩)),(6,.int .i64 k)]) (μ:=(x.loops.length)) ⟨Z,0,by omega,S,Z⟩ ?_);rintro μk D ε w ⟨rfl,k,hk,S,eZ⟩;refine wK eZ (wB S.k [.o 0] Z ⟨Z,U⟩ (fun r1=>?_) fun r1=>?_)
 ·obtain⟨o,d1,D1,_,v1,q0,_,_,C0,K0⟩:=RdS.get (S0) (k) (by omega);obtain⟨_,_,_,_,_,_,rfl,_,_,t0,_⟩:=S4a.open_ K0;refine lO (S.k.a C0) [.o 0,.x d1 D1,.f 0 2] Z ⟨Z,⟨q0,by omega⟩,Z,U⟩ (u0a S N9a Z Z (v5a o.variant M _ _ _ (RdE.keep (S.keep0 M) _ _ t0)) (fun s1 J1 c0 W0=>?_) (fun s1 J1 c0 W0=>?_))
  ·obtain⟨_,f1,E1,_,Q0,r0,_,_,D0,L0⟩:=RdS.get (S0) (k) (by omega);obtain rfl:=Option.some.inj (v1.symm.trans Q0);obtain⟨_,_,_,_,_,_,rfl,_⟩:=S4a.open_ L0;refine lB (c0.k.a D0) [.o 0,.x f1 E1,.f 0 1] Z ⟨Z,⟨r0,by omega⟩,Z,U⟩ (fun t1=>?_) fun t1=>?_
   ·exact lT Z U Z ⟨⟨_,Z,fun _=>trivial⟩,c0.fin⟩
   refine lP0 Z ⟨by omega,U⟩ ⟨μk-1,by omega,Z,(k+1),(by omega),c0,Z⟩
  exact lT Z U Z ⟨⟨_,Z,fun _=>trivial⟩,c0.fin⟩
 exact lT Z U Z ⟨⟨_,Z,fun _=>trivial⟩,S.fin⟩
theorem c4c(p:o0a)(M:List Nat)(w0:World)(cs:List Value)(hP:S0a M w0 p cs):
 C0a prog 11 #[.agg cs.toArray] w0 fun v w'=>(∃b,v=.bool b∧(b=true→True))∧Below w0.heap.size w0 w':=by
 obtain⟨Ac,nc,cc,Am,nm,cm,Al,nl,cl,At,nt,ct,rfl,_,D0,o1,p1,_⟩:=hP.open_;have S:=St.refl w0;refine a0a func11 Z ntmps11 Z ?_;refine wO0 Z U (p0a S Z ?_);intro g1 w1 S1 X1 G1;refine lB S1.k [.o 0] Z ⟨Z,U⟩ (fun X0=>?_) fun X0=>?_
 ·exact lT Z U Z ⟨⟨_,Z,fun _=>trivial⟩,S1.fin⟩
 refine lB S1.k [.o 0] Z ⟨Z,U⟩ (fun Y0=>?_) fun Y0=>?_
 ·exact lT Z U Z ⟨⟨_,Z,fun _=>trivial⟩,S1.fin⟩
 refine lB S1.k [.o 0] Z ⟨Z,U⟩ (fun Z0=>?_) fun Z0=>?_
 ·exact lT Z U Z ⟨⟨_,Z,fun _=>trivial⟩,S1.fin⟩
 refine lB S1.k [.o 0] Z ⟨Z,U⟩ (fun a1=>?_) fun a1=>?_
 ·exact lT Z U Z ⟨⟨_,Z,fun _=>trivial⟩,S1.fin⟩
 refine lC0 Z U (wL (fun μk D ε w=>D=[]∧∃k:Nat,∃n:Int,(k+μk=(p.threads.length))∧(0≤n∧n≤24)∧St [] w0 w [(some g1,27,[.slice Ac nc cc,.slice Am nm cm,.slice Al nl cl,.slice At nt ct])]∧Sl ε [(1,.pointer (some ⟨g1,0,none⟩)),(3,.int .i64 n),(4,.int .i64 k)]) (μ:=(p.threads.length)) ⟨Z,0,0,by omega,by omega,S1,Z⟩ ?_);rintro μk D ε w ⟨rfl,k,n,hk,_,S,eZ⟩;refine wK eZ (wB S.k [.o 0] Z ⟨Z,U⟩ (fun b1=>?_) fun b1=>?_)
 ·obtain⟨th,U0,q1,_,_,z0,_,I0,F0,o0⟩:=RdS.get (p1) (k) (by omega);obtain⟨_,_,_,_,_,_,_,_,_,_,_,_,rfl,_⟩:=X0a.open_ o0;refine lO (S.k.a F0) [.o 0,.x U0 q1,.v 0] Z ⟨⟨Z,I0⟩,⟨z0,by omega⟩,Z,U⟩ (g0a S B0b Z Z ?_);intro g5 w5 S5 X5 G5;refine c0a (kk:=0) (vs:=[_,_,_,_,_,_,_]) S5 C0b Z Z Z Z Z Z Z ?_;intro u1 a0 R0;dsimp only[h0a,List.set] at a0;refine lB a0.k [.o 0] Z ⟨by omega,Z,U⟩ (fun c1=>?_) fun c1=>?_
  ·exact lT Z U Z ⟨⟨_,Z,fun _=>trivial⟩,a0.fin⟩
  refine lB a0.k [.o 0] Z ⟨Z,U⟩ (fun d1=>?_) fun d1=>?_
  ·exact lT Z U Z ⟨⟨_,Z,fun _=>trivial⟩,a0.fin⟩
  refine lB a0.k [.o 0] Z ⟨Z,U⟩ (fun f1=>?_) fun f1=>?_
  ·exact lT Z U Z ⟨⟨_,Z,fun _=>trivial⟩,a0.fin⟩
  refine lB a0.k [.o 0] Z ⟨Z,U⟩ (fun i1=>?_) fun i1=>?_
  ·exact lT Z U Z ⟨⟨_,Z,fun _=>trivial⟩,a0.fin⟩
  refine lO a0.k [.w 0] Z ⟨⟨Z,Z⟩,U⟩ (F9a a0 I0d Z Z (y0c th M _ _ (X0a.keep (a0.keep0 M) _ _ o0)) (fun y1 t1 r0 Q0=>?_) (fun t1 r0 Q0=>?_))
  ·refine lP0 Z ⟨by omega,U⟩ ⟨μk-1,by omega,Z,(k+1),(_),(by omega),(by omega),r0.tail,Z⟩
  exact lT Z U Z ⟨⟨_,Z,fun _=>trivial⟩,r0.fin⟩
 refine lC0 Z U (wL (fun μk D ε w=>D=[]∧∃k:Nat,(k+μk=(p.modules.length))∧St [] w0 w [(some g1,27,[.slice Ac nc cc,.slice Am nm cm,.slice Al nl cl,.slice At nt ct])]∧Sl ε [(1,.pointer (some ⟨g1,0,none⟩)),(6,.int .i64 k)]) (μ:=(p.modules.length)) ⟨Z,0,by omega,S,Z⟩ ?_);rintro μk D ε w ⟨rfl,k,hk,S,eZ⟩;refine wK eZ (wB S.k [.o 0] Z ⟨Z,U⟩ (fun j1=>?_) fun j1=>?_)
 ·obtain⟨mo,V0,r1,_,q0,A0,_,_,G0,J0⟩:=RdS.get (D0) (k) (by omega);obtain⟨_,_,_,_,_,_,_,_,_,rfl,E0,_⟩:=Y0a.open_ J0;refine lO (S.k.a G0) [.o 0,.x V0 r1,.f 0 2] Z ⟨Z,⟨A0,by omega⟩,Z,U⟩ (u0a S N9a Z Z (v5a mo.rely M _ _ _ (RdE.keep (S.keep0 M) _ _ E0)) (fun m1 v1 c0 S0=>?_) (fun m1 v1 c0 S0=>?_))
  ·obtain⟨_,W0,s1,_,L0,B0,_,_,H0,K0⟩:=RdS.get (D0) (k) (by omega);obtain rfl:=Option.some.inj (q0.symm.trans L0);obtain⟨_,_,_,_,_,_,_,_,_,rfl,_,C0,_⟩:=Y0a.open_ K0;refine lO (c0.k.a H0) [.o 0,.x W0 s1,.f 0 6] Z ⟨Z,⟨B0,by omega⟩,Z,U⟩ (u0a c0 N9a Z Z (v5a mo.guar M _ _ _ (RdE.keep (c0.keep0 M) _ _ C0)) (fun n1 x1 d0 T0=>?_) (fun n1 x1 d0 T0=>?_))
   ·obtain⟨_,t0,N0,_,p0,e0,_,_,i0,m0⟩:=RdS.get (D0) (k) (by omega);obtain rfl:=Option.some.inj (q0.symm.trans p0);obtain⟨_,_,_,_,_,_,_,_,_,rfl,_⟩:=Y0a.open_ m0;refine lB (d0.k.a i0) [.o 0,.x t0 N0,.f 0 10] Z ⟨Z,⟨e0,by omega⟩,Z,U⟩ (fun v0=>?_) fun v0=>?_
    ·exact lT Z U Z ⟨⟨_,Z,fun _=>trivial⟩,d0.fin⟩
    refine lP0 Z ⟨by omega,U⟩ ⟨μk-1,by omega,Z,(k+1),(by omega),d0,Z⟩
   exact lT Z U Z ⟨⟨_,Z,fun _=>trivial⟩,d0.fin⟩
  exact lT Z U Z ⟨⟨_,Z,fun _=>trivial⟩,c0.fin⟩
 refine lC0 Z U (wL (fun μk D ε w=>D=[]∧∃k:Nat,(k+μk=(p.locks.length))∧St [] w0 w [(some g1,27,[.slice Ac nc cc,.slice Am nm cm,.slice Al nl cl,.slice At nt ct])]∧Sl ε [(1,.pointer (some ⟨g1,0,none⟩)),(7,.int .i64 k)]) (μ:=(p.locks.length)) ⟨Z,0,by omega,S,Z⟩ ?_);rintro μk D ε w ⟨rfl,k,hk,S,eZ⟩;refine wK eZ (wB S.k [.o 0] Z ⟨Z,U⟩ (fun x0=>?_) fun x0=>?_)
 ·obtain⟨lk,u0,O0,_,_,f0,_,_,j0,n0⟩:=RdS.get (o1) (k) (by omega);obtain⟨_,_,_,rfl,_,_,g0⟩:=J4a.open_ n0;refine lO (S.k.a j0) [.o 0,.x u0 O0,.f 0 1] Z ⟨Z,⟨f0,by omega⟩,Z,U⟩ (u0a S N9a Z Z (v5a lk.inv M _ _ _ (RdE.keep (S.keep0 M) _ _ g0)) (fun y0 P0 b0 s0=>?_) (fun y0 P0 b0 s0=>?_))
  ·refine lP0 Z ⟨by omega,U⟩ ⟨μk-1,by omega,Z,(k+1),(by omega),b0,Z⟩
  exact lT Z U Z ⟨⟨_,Z,fun _=>trivial⟩,b0.fin⟩
 exact lT Z U Z ⟨⟨_,Z,fun _=>trivial⟩,S.fin⟩
theorem V7c{a b:Int}(hb:0<b):∃k:Nat,a % b=k∧(k:Int)<b:=by
 have h0:=Int.emod_nonneg a (show b≠0 by omega);have h1:=Int.emod_lt_of_pos a hb;obtain⟨k,hk⟩:=Int.eq_ofNat_of_zero_le h0;exact⟨k,hk,by omega⟩
def bV(bs:List Bool):List Value:=bs.map Value.bool
theorem Q9c(bs:List Bool)(i:Nat):(bV bs).set i (.bool true)=bV (bs.set i true):=by simp[bV,List.map_set]
theorem y1d(bs:List Bool):(bV bs).length=bs.length:=by simp[bV]
theorem I2d{w:World}{g t:Nat}{bs:List Bool}{M:List Nat}(hb:m0a w (g,t,bV bs))(hg:g∉M)(hl:bs.length≤1000):RdB M w (.slice (some ⟨g,0,none⟩) bs.length bs.length) bs:=by
 refine⟨_,_,_,Z,Z,Nat.le_refl _,by unfold maxLen;omega,by omega,fun _=>⟨g,0,Z,hg,fun i x hi=>⟨[.bool x],Z,fun j v hj=>?_,Z⟩⟩⟩;cases j with
 | succ j=>simp at hj
 | zero =>
   simp at hj;subst hj;exact hb.cell (by unfold bV;rw[List.getElem?_map,show 0+i*1+0=i by omega,hi];rfl)
def C3b(p:o0a)(t k j:Nat)(bs:List Bool):Prop:=bs.length=p.modules.length∧∀m:Nat,m<p.modules.length→(bs.getD m false=true↔P7a p t k j (m:Int))
theorem C3b.zero{p:o0a}{t:Nat}:C3b p t 0 0 (List.replicate p.modules.length false):=by
 refine⟨by simp,fun m hm=>?_⟩;rw[List.getD_eq_getElem?_getD,List.getElem?_replicate,if_pos hm];exact⟨fun h=>(by cases h),fun h=>absurd h P7a.zero⟩
theorem C3b.step{p:o0a}{t k j:Nat}{bs:List Bool}{th:j1a}{s:z2a}(h:C3b p t k j bs)(ht:p.threads[k]?=some th)(hs:th.steps[j]?=some s)(hm:0≤s.module_∧s.module_<p.modules.length):C3b p t k (j+1) (bs.set s.module_.toNat true):=by
 refine⟨by rw[List.length_set];exact h.1,fun m a0=>?_⟩;rw[P7a.step ht hs,←h.2 m a0];by_cases he:s.module_.toNat=m
 ·rw[List.getD_eq_getElem?_getD,he,List.getElem?_set_self (by rw[h.1];exact a0)];exact⟨fun _=>.inr (by omega),fun _=>rfl⟩
 ·rw[List.getD_eq_getElem?_getD,List.getElem?_set_ne he,←List.getD_eq_getElem?_getD];exact⟨.inl,fun hh=>hh.elim id fun hh=>absurd hh (by omega)⟩
theorem C3b.next{p:o0a}{t k:Nat}{bs:List Bool}{th:j1a}(h:C3b p t k th.steps.length bs)(ht:p.threads[k]?=some th)(hk:k≠t):C3b p t (k+1) 0 bs :=
 ⟨h.1,fun m hm=>(h.2 m hm).trans (P7a.next ht hk).symm⟩
theorem C3b.skip{p:o0a}{t k:Nat}{bs:List Bool}(h:C3b p t k 0 bs)(hk:k=t):C3b p t (k+1) 0 bs :=
 ⟨h.1,fun m hm=>(h.2 m hm).trans (P7a.skip hk).symm⟩
theorem C3b.oth{p:o0a}{t:Nat}{bs:List Bool}(hp:p1a p)(h:C3b p t p.threads.length 0 bs):I1a p t=E3a bs:=by
 unfold I1a E3a K1a;rw[h.1]
 congr 1
 apply List.filter_congr;intro m hm;rw[Bool.eq_iff_iff,h.2 m (List.mem_range.1 hm),←o9a hp];unfold I1a;simp only[List.mem_map,List.mem_filter,List.mem_range];constructor
 ·intro hh;exact⟨m,⟨List.mem_range.1 hm,hh⟩,Z⟩
 ·rintro⟨a,⟨_,ha⟩,he⟩;have:a=m:=by exact Int.ofNat_inj.1 he
  subst this;exact ha
theorem N8b(p:o0a)(t:Nat)(M:List Nat)(w0:World)(cs:List Value)(hI:InP p M w0 cs)(ht:t<1000):
 C0a prog 42 #[.agg cs.toArray,.int .i64 t,.bool false] w0 fun v w'=>(∃bs,C3b p t p.threads.length 0 bs∧∀M,(∀g∈M,g<w0.heap.size)→RdB M w' v bs)∧Below w0.heap.size w0 w':=by
 obtain⟨Ac,nc,cc,Am,nm,cm,Al,nl,cl,At,nt,ct,rfl,_,_,_,x0,_,z0,_⟩:=hI.rd.open_;have hM:=hI.lt;have hp:=hI.ok;have n2:=hp.nthreads;have n3:=hp.nmodules;have S:=St.refl w0;refine a0a func42 Z ntmps42 Z ?_;refine wO0 Z U (p0a S Z ?_);intro g3 w3 S3 X3 G3;refine lO S3.k [.o 0] Z ⟨Z,U⟩ (t1b (n:=nm) (c:=nm) S3 F8a Z Z Z Z ?_);intro e0 Q0 C0 O0 N0;have u0:List.replicate nm (Value.bool false)=bV (List.replicate p.modules.length false):=by rw[bV,List.map_replicate,←z0]
 have c0:=C0;rw[u0] at c0;refine lC0 Z U (wL (fun μk D ε w=>D=[]∧∃k:Nat,∃bs:List Bool,(k+μk=(p.threads.length))∧(C3b p t k 0 bs)∧St [] w0 w [(some e0,4,bV bs),(some g3,27,[.slice Ac nc cc,.slice Am nm cm,.slice Al nl cl,.slice At nt ct])]∧Sl ε [(1,.int .i64 t),(2,.bool false),(3,.pointer (some ⟨g3,0,none⟩)),(7,.slice (some ⟨e0,0,none⟩) nm nm),(8,.int .i64 k)]) (μ:=(p.threads.length)) ⟨Z,0,List.replicate p.modules.length false,by omega,C3b.zero,c0,Z⟩ ?_);rintro μk D ε w ⟨rfl,k,bs,_,hS,S,eZ⟩;refine wK eZ (wB S.k [.o 1] Z ⟨Z,U⟩ (fun G0=>?_) fun G0=>?_)
 ·obtain⟨th,a0⟩:∃th,p.threads[k]?=some th:=⟨p.threads[k]'(by omega),List.getElem?_eq_getElem _⟩;have P0:=(hp.thread a0).nsteps;refine lC0 Z U (wL (fun μ D ε w=>D=[]∧∃j:Nat,∃bs:List Bool,(C3b p t k j bs)∧(j+μ=1000)∧(j≤th.steps.length)∧(k=t→j=0)∧St [] w0 w [(some e0,4,bV bs),(some g3,27,[.slice Ac nc cc,.slice Am nm cm,.slice Al nl cl,.slice At nt ct])]∧Sl ε [(1,.int .i64 t),(2,.bool false),(3,.pointer (some ⟨g3,0,none⟩)),(7,.slice (some ⟨e0,0,none⟩) nm nm),(8,.int .i64 k),(9,.int .i64 j)]) (μ:=1000) ⟨Z,0,bs,hS,Z,Nat.zero_le _,(fun _=>rfl),S,Z⟩ ?_);rintro μ D ε w ⟨rfl,j,bs,hS,_,_,y0,S,eZ⟩;refine wK eZ ?_;obtain⟨_,D0,J0,_,s0,f0,_,_,j0,p0⟩:=RdS.get (x0) (k) (by omega);obtain rfl:=Option.some.inj (a0.symm.trans s0);obtain⟨_,_,_,_,_,_,_,_,_,_,_,_,rfl,_⟩:=X0a.open_ p0;refine wB (S.k.a j0) [.o 1,.x D0 J0,.f 0 4] Z ⟨Z,⟨f0,by omega⟩,Z,U⟩ (fun H0=>?_) fun H0=>?_
  ·refine lB0 Z U (fun I0=>?_) fun I0=>?_
   ·refine lP0 Z ⟨by omega,U⟩ ⟨μk-1,by omega,Z,(k+1),(_),(by omega),?_,S,Z⟩;by_cases h:k=t
    ·obtain rfl:j=0:=y0 h;exact hS.skip h
    ·obtain rfl:j=th.steps.length:=by omega
     exact hS.next a0 h
   obtain⟨_,E0,K0,_,t0,g0,_,_,m0,q0⟩:=RdS.get (x0) (k) (by omega);obtain rfl:=Option.some.inj (a0.symm.trans t0);obtain⟨_,_,_,_,_,_,_,_,_,_,_,_,rfl,_,_,_,d0,_⟩:=X0a.open_ q0;obtain⟨s,F0,L0,_,A0,i0,_,_,n0,r0⟩:=RdS.get (d0) (j) (by omega);obtain⟨_,_,_,_,_,_,rfl,⟨_,_⟩,_⟩:=Z1a.open_ r0;have o0:0≤s.module_∧s.module_<p.modules.length:=((hp.thread a0).steps s (d0a A0)).mod;refine lO ((S.k.a n0).a m0) [.o 1,.x E0 K0,.f 0 4,.x F0 L0,.f 1 10,.i] Z ⟨by omega,Z,⟨i0,by omega⟩,Z,⟨g0,by omega⟩,Z,U⟩ ?_;refine h1a (hy:=Z) (kk:=0) (v:=.bool true) S r2c Z Z Z (by rw[y1d,hS.1];omega) ?_;intro B0 b0 v0;rw[show 0+s.module_.toNat*1=s.module_.toNat by omega,Q9c] at b0;dsimp only[List.set] at b0;refine lP0 Z ⟨by omega,U⟩ ⟨μ-1,by omega,Z,(j+1),(_),(hS.step a0 A0 o0),(by omega),((by omega)),((fun h=>by omega)),b0,Z⟩
  refine lP0 Z ⟨by omega,U⟩ ⟨μk-1,by omega,Z,(k+1),(_),(by omega),?_,S,Z⟩;by_cases h:k=t
  ·obtain rfl:j=0:=y0 h;exact hS.skip h
  ·obtain rfl:j=th.steps.length:=by omega
   exact hS.next a0 h
 refine lR0 Z U (s0a Z ?_);have hl:=hS.1;exact⟨⟨bs,(show k=p.threads.length by omega)▸hS,fun M hM=>by
  have:=I2d (M:=M) (S.blk 0 Z) (fun hm=>by have h1:=hM _ hm;have h2:=S.new 0 Z;simp at h2;omega) (by omega);rw[hl,←z0] at this;exact this⟩,S.fin⟩
theorem X5b{p:o0a}{t:Int}{f:List Int}{k:Nat}{c:Z0a}(h:p.cells[k]?=some c):T8b f (I4b p t (k+1))=if c.thread=t∧(k:Int)∉f then T8b f (I4b p t k)++[(k:Int)] else T8b f (I4b p t k):=by
 rw[a6a h];by_cases h1:c.thread=t
 ·rw[if_pos h1];unfold T8b;rw[List.filter_append];by_cases h2:(k:Int)∈f<;>simp[h1,h2]
 ·rw[if_neg h1,if_neg (fun h=>h1 h.1)]
theorem B1c(p:o0a)(m:Nat)(md:m2a)(a0:p.modules[m]?=some md)(M:List Nat)(w0:World)(cs:List Value)(hI:InP p M w0 cs):
 C0a prog 17 #[.agg cs.toArray,.int .i64 m] w0 fun v w'=>(∃cs:List Value,v=.agg cs.toArray∧RdE M w' (B3a p m) cs)∧Below w0.heap.size w0 w':=by
 obtain⟨Ac,nc,cc,Am,nm,cm,Al,nl,cl,At,nt,ct,rfl,hC,H0,_⟩:=hI.rd.open_;have hM:=hI.lt;have hp:=hI.ok;have n1:=hp.ncells;have n3:=hp.nmodules;have r1:=n0b a0;have s1:=hp.modules md (d0a a0);have y0:(y3b p md).length≤100000:=by
  have:=O7a md.frame (ofL p (-1));have:=M3a p (-1) p.cells.length;unfold y3b ofL at *;simp;omega
 have S:=St.refl w0;refine a0a func17 Z ntmps17 Z ?_;refine wO0 Z U (p0a S Z ?_);intro g2 w2 S2 X2 G2;refine g0a S2 R1a Z Z ?_;intro g4 w4 S4 X4 G4;refine lO S4.k [.w 1] Z ⟨⟨Z,Z⟩,U⟩ (f0a S4 b2c Z Z (t9a p M _ _ (hI.keep (S4.keep0 M))) ?_);intro w8 S8 X8;refine lB0 Z U (fun V0=>by exfalso;omega) fun V0=>?_;refine lB S8.k [.o 1] Z ⟨Z,U⟩ (fun W0=>by exfalso;omega) fun W0=>?_;obtain⟨_,Q0,a1,_,C0,o0,_,_,u0,z0⟩:=RdS.get (H0) (m) (by omega);obtain rfl:=Option.some.inj (a0.symm.trans C0);obtain⟨_,_,_,_,_,_,_,_,_,rfl,_,s0,_⟩:=Y0a.open_ z0;refine lO (S8.k.a u0) [.o 1,.x Q0 a1,.f 0 6] Z ⟨Z,⟨o0,by omega⟩,Z,U⟩ ?_;have d1:=RdE.keep (S8.keep0 _) _ _ (RdE.more (C3a S8 (k:=0) Z) _ _ s0);refine k0a S8 N0a (vs:=[.agg _]) (cs:=[_,_,_,_]) Z Z Z Z Z Z ?_;intro U0 w1 J0 O0 I0;refine A0a Z ?_;have e0:=b9a (d1.addNew O0 I0);refine lC0 Z U (wL (fun μk D ε w=>D=[]∧∃k:Nat,∃G:Option Nat,∃cs2:List Value,∃v:Value,(k+μk=(p.cells.length))∧(V0b (g4::M) w G cs2 v (md.guar::(T8b md.frame (I4b p (-1) k)).map (j4a p)))∧St [] w0 w [(G,37,cs2),(some g4,37,[.int .i64 0,.int .i64 0,.int .i64 0,.slice none 0 0]),(some g2,27,[.slice Ac nc cc,.slice Am nm cm,.slice Al nl cl,.slice At nt ct])]∧Sl ε [(1,.int .i64 m),(2,.pointer (some ⟨g2,0,none⟩)),(4,.pointer (some ⟨g4,0,none⟩)),(5,v),(6,.int .i64 k)]) (μ:=(p.cells.length)) ⟨Z,0,some U0,_,_,by omega,e0,J0,Z⟩ ?_);rintro μk D ε w ⟨rfl,k,G,cs2,v,_,c0,S,eZ⟩;refine wK eZ ?_;have KQ:=w0a.refl (G.toList++g4::M) w;refine wB S.k [.o 2] Z ⟨Z,U⟩ (fun X0=>?_) fun X0=>?_
 ·obtain⟨y,R0,b1,_,E0,p0,_,_,v0,A0⟩:=RdS.get (hC) (k) (by omega);obtain⟨rfl,_⟩:=v2a.open_ A0;refine lB (S.k.a v0) [.o 2,.x R0 b1,.f 0 3] Z ⟨Z,⟨p0,by omega⟩,Z,U⟩ (fun Y0=>?_) fun Y0=>?_
  ·obtain⟨_,S0,c1,_,D0,q0,_,_,x0,B0⟩:=RdS.get (H0) (m) (by omega);obtain rfl:=Option.some.inj (a0.symm.trans D0);obtain⟨_,_,_,_,_,_,_,_,_,rfl,_,_,r0,_⟩:=Y0a.open_ B0;refine lO (S.k.a x0) [.o 2,.x S0 c1,.f 0 10] Z ⟨Z,⟨q0,by omega⟩,Z,U⟩ (u0a S A7b Z Z (h9a M _ _ md.frame k (r0.keep (S.keep0 M))) (fun Z0 f1 b0 m0=>?_) (fun Z0 f1 b0 m0=>?_))
   ·replace KQ:=KQ.trans (m0.of_nil);refine lP0 Z ⟨by omega,U⟩ ⟨μk-1,by omega,Z,(k+1),(_),(_),(_),(by omega),?_,b0,Z⟩;rw[X5b E0];have h9:(k:Int)∈md.frame:=of_decide_eq_true (by assumption);rw[if_neg (fun h=>h.2 h9)];exact c0.keep KQ
   replace KQ:=KQ.trans (m0.of_nil);refine lOn 6 b0.k [] Z U (I0a Z ?_);refine lO b0.k [.w 2] Z ⟨⟨Z,Z⟩,U⟩ (j0a b0 Q4c Z Z (E6a p k (G.toList++g4::M) _ _ ⟨(hI.rd.more (fun x hx=>f4a b0 x (b3b 0 Z (c3b 1 Z) x hx))).keep (b0.keep0 _),hp,(hI.msk.more (fun x hx=>f4a b0 x (b3b 0 Z (c3b 1 Z) x hx))).keep (b0.keep0 _),fun x hx=>F7a b0 hM x (b3b 0 Z (c3b 1 Z) x hx)⟩) ?_);rintro t1 x1 ⟨_,rfl,i0⟩ K0 P0;replace KQ:=KQ.trans (P0.of_nil);obtain⟨_,_,_,rfl,-⟩:=i0.open_;refine k0a K0 N0a (vs:=[.agg _]) (cs:=[_,_,_,_]) Z Z Z Z Z Z ?_;intro q1 y1 F0 G0 j1;replace i0:=RdE.keep (G0.of_nil) _ _ i0;replace KQ:=KQ.trans (G0.of_nil);have g0:=c0.keep KQ;refine w1a k3a (k:=1) (M2:=g4::M) (e1:=j4a p k) F0 N0a Z g0 Z Z (F0.cells 0 Z) i0 (by have:=O7a md.frame (I4b p (-1) k);have:=M3a p (-1) k;simp;omega) Z ?_;intro u1 m1 T0 z1 L0 f0 o1 i1;refine A0a Z ?_;refine lP0 Z ⟨by omega,U⟩ ⟨μk-1,by omega,Z,(k+1),(_),(_),(_),(by omega),?_,L0.tail,Z⟩;rw[X5b E0];have h9:y.thread=-1∧(k:Int)∉md.frame:=⟨by omega,of_decide_eq_false (by assumption)⟩;rw[if_pos h9,List.map_append];exact f0
  refine lP0 Z ⟨by omega,U⟩ ⟨μk-1,by omega,Z,(k+1),(_),(_),(_),(by omega),?_,S,Z⟩;rw[X5b E0];have h9:¬(y.thread=-1∧(k:Int)∉md.frame):=fun h=>by have:=h.1;omega
  rw[if_neg h9];exact c0.keep KQ
 refine lOn 7 S.k [] Z U (I0a Z ?_);have t0:RdL (g4::M) w v (y3b p md):=by
  have hr:=c0;rw[show k=p.cells.length by omega] at hr;exact hr.rdL S (k:=0) Z (fun g hg hh=>by
   subst hg;rcases List.mem_cons.1 hh with hh|hh
   ·exact S.ne 0 1 Z Z (by omega) hh
   ·exact H5a S (k:=0) Z hM hh) (by have:=O7a md.frame (ofL p (-1));have:=M3a p (-1) p.cells.length;unfold ofL at *;simp;omega)
 refine j0a S T4c Z Z (j9b (y3b p md) y0 (g4::M) _ _ t0 (j7a S 1 Z hM)) ?_;rintro v1 A1 ⟨_,rfl,j0⟩ N0 p1;obtain⟨_,_,_,rfl,-⟩:=j0.open_;refine c0a (kk:=1) (vs:=[_,_,_,_]) N0 g1a Z Z Z Z Z Z Z ?_;intro g1 d0 n0;dsimp only[h0a,List.set] at d0;replace j0:=RdE.keep (n0.mono (by simp)) _ _ j0;refine lR0 Z U (v0a Z F0a Z (d0.cells 1 Z) Z ⟨⟨_,Z,?_⟩,d0.fin⟩);unfold B3a s0d;rw[show((m:Int).toNat)=m by simp,getD_some a0];exact RdE.less (fun x hx=>List.mem_cons_of_mem _ hx) _ _ j0
theorem E7a(bs:List Bool)(k:Nat)(f:Int→E):(K1a bs (k+1)).map f=(K1a bs k).map f++(if bs.getD k false=true then[f k] else[]):=by
 rw[b3a,List.map_append]
 split<;>rfl
theorem j9c(p:o0a)(t:Nat)(ht:t<p.threads.length)(M:List Nat)(w0:World)(cs:List Value)(hI:InP p M w0 cs):
 C0a prog 19 #[.agg cs.toArray,.int .i64 t] w0 fun v w'=>(∃cs:List Value,v=.agg cs.toArray∧RdE M w' (onE p t) cs)∧Below w0.heap.size w0 w':=by
 obtain⟨Ac,nc,cc,Am,nm,cm,Al,nl,cl,At,nt,ct,rfl,hC,_⟩:=hI.rd.open_;have hM:=hI.lt;have hp:=hI.ok;have n1:=hp.ncells;have n2:=hp.nthreads;have n3:=hp.nmodules;have S:=(St.refl w0).nilEnt 37;refine a0a func19 Z ntmps19 Z ?_;refine wO0 Z U (p0a S Z ?_);intro g2 w2 S2 X2 G2;refine g0a S2 R1a Z Z ?_;intro g4 w4 S4 X4 G4;refine lO S4.k [.w 1] Z ⟨⟨Z,Z⟩,U⟩ (f0a S4 b2c Z Z (t9a p M _ _ (hI.keep (S4.keep0 M))) ?_);intro z1 j0 F1;refine lB0 Z U (fun r1=>by exfalso;omega) fun r1=>?_;refine lB j0.k [.o 1] Z ⟨Z,U⟩ (fun s1=>by exfalso;omega) fun s1=>?_;refine lOn 8 j0.k [] Z U (A0a Z ?_);refine lO j0.k [.w 1] Z ⟨⟨Z,Z⟩,U⟩ ?_;have f1:∀g∈g4::M,g<z1.heap.size:=j7a j0 0 Z hM;refine j0a j0 M1d Z Z (N8b p t M _ _ (hI.keep (j0.keep0 M)) (by omega)) ?_;rintro O1 I0 ⟨bs,hS,C0⟩ T0 G1;have B0:=C0 (g4::M) f1;obtain⟨Ab,nb,cb,rfl⟩:=B0.form;obtain⟨_,-,_⟩:=B0.len;have N1:=hS.1;have F0:=hS.oth hp;have KB:=w0a.refl (g4::M) I0;refine lC0 Z U (wL (fun μk D ε w=>D=[]∧∃k:Nat,∃G:Option Nat,∃cs2:List Value,∃v:Value,(k+μk=(bs.length))∧(V0b (g4::M) w G cs2 v ((K1a bs k).map (B3a p)))∧(∀g∈G.toList,I0.heap.size≤g∨g∈g4::M)∧(w0a (g4::M) I0 w)∧St [] w0 w [(some g4,37,[.int .i64 0,.int .i64 0,.int .i64 0,.slice none 0 0]),(some g2,27,[.slice Ac nc cc,.slice Am nm cm,.slice Al nl cl,.slice At nt ct]),(G,37,cs2)]∧Sl ε [(1,.int .i64 t),(2,.pointer (some ⟨g2,0,none⟩)),(4,.pointer (some ⟨g4,0,none⟩)),(5,v),(6,.slice Ab nb cb),(7,.int .i64 k)]) (μ:=(bs.length)) ⟨Z,0,none,[],.slice none 0 0,by omega,V0b.nil,by simp,KB,T0,Z⟩ ?_);rintro μk D ε w ⟨rfl,k,G,cs2,v,_,d0,E0,KB,S,eZ⟩;refine wK eZ ?_;have KQ:=w0a.refl (G.toList++g4::M) w;refine wB0 Z U (fun t1=>?_) fun t1=>?_
 ·obtain⟨z,i1,x1,m1,w1,x0,_,_,o0,c0⟩:=RdS.get ((B0.keep KB)) (k) (by omega);obtain c0:=c0;obtain rfl:m1=[Value.bool z]:=c0;have hz:bs.getD k false=z:=by rw[List.getD_eq_getElem?_getD,w1];rfl
  refine lO S.k [.x i1 x1] Z ⟨⟨x0,by omega⟩,U⟩ ?_;cases n0:z
  ·refine H0a j3a Z (by exact(o0 0 _ Z).trans (congrArg (fun b=>some (Value.bool b)) n0)) Z ?_;refine lP0 Z ⟨by omega,U⟩ ⟨μk-1,by omega,Z,(k+1),(_),(_),(_),(by omega),?_,?_,(KB),S,Z⟩
   ·rw[E7a,hz];rw[if_neg (by simp[*]),List.append_nil];exact d0.keep KQ
   ·exact E0
  refine H0a j3a Z (by exact(o0 0 _ Z).trans (congrArg (fun b=>some (Value.bool b)) n0)) Z ?_;refine lOn 4 S.k [] Z U (I0a Z ?_);refine lO S.k [.w 1] Z ⟨⟨Z,Z⟩,U⟩ ?_;obtain⟨md,H0⟩:∃md,p.modules[k]?=some md:=⟨p.modules[k]'(by omega),List.getElem?_eq_getElem _⟩;refine j0a S B9c Z Z (B1c p k md H0 (G.toList++g4::M) _ _ ⟨(hI.rd.more (fun x hx=>f4a S x (b3b 2 Z (c3b 0 Z) x hx))).keep (S.keep0 _),hp,(hI.msk.more (fun x hx=>f4a S x (b3b 2 Z (c3b 0 Z) x hx))).keep (S.keep0 _),fun x hx=>F7a S hM x (b3b 2 Z (c3b 0 Z) x hx)⟩) ?_;rintro P1 V1 ⟨_,rfl,r0⟩ U0 L0;replace KB:=KB.trans (L0.of_nil);replace KQ:=KQ.trans (L0.of_nil);obtain⟨_,_,_,rfl,-⟩:=r0.open_;refine k0a U0 N0a (vs:=[.agg _]) (cs:=[_,_,_,_]) Z Z Z Z Z Z ?_;intro K1 W1 J0 u0 B1;replace r0:=RdE.keep (u0.of_nil) _ _ r0;replace KB:=KB.trans (u0.of_nil);replace KQ:=KQ.trans (u0.of_nil);have p0:=d0.keep KQ;refine w1a k3a (k:=3) (M2:=g4::M) (e1:=B3a p k) J0 N0a Z p0 Z Z (J0.cells 0 Z) r0 (by have:=c2a bs k;simp;omega) Z ?_;intro Q1 C1 o1 X1 V0 e0 b1 R0;have g1:=KB.size;replace KB:=KB.freshL b1 E0;refine A0a Z ?_;refine lP0 Z ⟨by omega,U⟩ ⟨μk-1,by omega,Z,(k+1),(_),(_),(_),(by omega),?_,?_,(KB),V0.tail,Z⟩
  ·rw[E7a,hz];rw[if_pos (by assumption)];exact e0
  ·intro g hg;rcases R0 g hg with h|h;exact E0 g h;exact .inl (Nat.le_trans g1 h)
 refine lOn 7 S.k [] Z U (I0a Z ?_);have z0:RdL (g4::M) w v ((I1a p t).map (B3a p)):=by
  have hr:=d0;rw[show k=bs.length by omega,show K1a bs bs.length=I1a p t from F0.symm] at hr;exact hr.rdL S (k:=2) Z (fun g hg hh=>by
   subst hg;rcases List.mem_cons.1 hh with hh|hh
   ·exact S.ne 0 2 Z Z (by omega) hh.symm
   ·exact H5a S (k:=2) Z hM hh) (by have:=K6a p t;simp;omega)
 refine j0a S H9c Z Z (p1d ((I1a p t).map (B3a p)) (by have:=K6a p t;simp;omega) (g4::M) _ _ z0 (j7a S 0 Z hM)) ?_;rintro v45 Y1 ⟨_,rfl,P0⟩ W0 H1;obtain⟨_,_,_,rfl,-⟩:=P0.open_;refine k0a W0 N0a (vs:=[.agg _]) (cs:=[_,_,_,_]) Z Z Z Z Z Z ?_;intro q1 Z1 X0 c1 S0;refine A0a Z ?_;have f0:=b9a (P0.addNew c1 S0);refine lC0 Z U (wL (fun μj D ε w=>D=[]∧∃j:Nat,∃G2:Option Nat,∃v0:List Value,∃v2:Value,(j+μj=(p.cells.length))∧(V0b (g4::M) w G2 v0 v2 (g7a p t::(I4b p t j).map (j4a p)))∧St [] w0 w [(G2,37,v0),(some g4,37,[.int .i64 0,.int .i64 0,.int .i64 0,.slice none 0 0]),(some g2,27,[.slice Ac nc cc,.slice Am nm cm,.slice Al nl cl,.slice At nt ct]),(G,37,cs2)]∧Sl ε [(1,.int .i64 t),(2,.pointer (some ⟨g2,0,none⟩)),(4,.pointer (some ⟨g4,0,none⟩)),(8,v2),(9,.int .i64 j)]) (μ:=(p.cells.length)) ⟨Z,0,some q1,_,_,by omega,f0,X0,Z⟩ ?_);rintro μj D ε w ⟨rfl,j,G2,v0,v2,_,b0,S,eZ⟩;refine wK eZ ?_;have i0:=w0a.refl (G2.toList++g4::M) w;refine wB S.k [.o 2] Z ⟨Z,U⟩ (fun u1=>?_) fun u1=>?_
 ·obtain⟨y,j1,y1,_,O0,y0,_,_,D0,G0⟩:=RdS.get (hC) (j) (by omega);obtain⟨rfl,_⟩:=v2a.open_ G0;refine lB (S.k.a D0) [.o 2,.x j1 y1,.f 0 3] Z ⟨Z,⟨y0,by omega⟩,Z,U⟩ (fun v1=>?_) fun v1=>?_
  ·refine lOn 4 S.k [] Z U (I0a Z ?_);refine lO S.k [.w 2] Z ⟨⟨Z,Z⟩,U⟩ (j0a S Q4c Z Z (E6a p j (G2.toList++g4::M) _ _ ⟨(hI.rd.more (fun x hx=>f4a S x (b3b 0 Z (c3b 1 Z) x hx))).keep (S.keep0 _),hp,(hI.msk.more (fun x hx=>f4a S x (b3b 0 Z (c3b 1 Z) x hx))).keep (S.keep0 _),fun x hx=>F7a S hM x (b3b 0 Z (c3b 1 Z) x hx)⟩) ?_);rintro R1 a2 ⟨_,rfl,s0⟩ Y0 d1;replace i0:=i0.trans (d1.of_nil);obtain⟨_,_,_,rfl,-⟩:=s0.open_;refine k0a Y0 N0a (vs:=[.agg _]) (cs:=[_,_,_,_]) Z Z Z Z Z Z ?_;intro M1 b2 K0 N0 D1;replace s0:=RdE.keep (N0.of_nil) _ _ s0;replace i0:=i0.trans (N0.of_nil);have q0:=b0.keep i0;refine w1a k3a (k:=1) (M2:=g4::M) (e1:=j4a p j) K0 N0a Z q0 Z Z (K0.cells 0 Z) s0 (by have:=M3a p t j;simp;omega) Z ?_;intro T1 E1 p1 d2 Z0 g0 I1 A1;refine A0a Z ?_;refine lP0 Z ⟨by omega,U⟩ ⟨μj-1,by omega,Z,(j+1),(_),(_),(_),(by omega),?_,Z0.tail,Z⟩;rw[a6a O0];have h9:y.thread=t:=by omega
   rw[if_pos h9,List.map_append];exact g0
  refine lP0 Z ⟨by omega,U⟩ ⟨μj-1,by omega,Z,(j+1),(_),(_),(_),(by omega),?_,S,Z⟩;rw[a6a O0];have h9:¬(y.thread=t):=fun h=>by omega
  rw[if_neg h9];exact b0.keep i0
 refine lOn 7 S.k [] Z U (I0a Z ?_);have A0:RdL (g4::M) w v2 (g7a p t::(ofL p t).map (j4a p)):=by
  have hr:=b0;rw[show j=p.cells.length by omega] at hr;exact hr.rdL S (k:=0) Z (fun g hg hh=>by
   subst hg;rcases List.mem_cons.1 hh with hh|hh
   ·exact S.ne 0 1 Z Z (by omega) hh
   ·exact H5a S (k:=0) Z hM hh) (by have:=M3a p t p.cells.length;simp;omega)
 refine j0a S T4c Z Z (j9b (g7a p t::(ofL p t).map (j4a p)) (by have:=M3a p t p.cells.length;unfold ofL;simp;omega) (g4::M) _ _ A0 (j7a S 1 Z hM)) ?_;rintro U1 e2 ⟨_,rfl,t0⟩ a1 J1;obtain⟨_,_,_,rfl,-⟩:=t0.open_;refine c0a (kk:=1) (vs:=[_,_,_,_]) a1 g1a Z Z Z Z Z Z Z ?_;intro Q0 a0 m0;dsimp only[h0a,List.set] at a0;replace t0:=RdE.keep (m0.mono (by simp)) _ _ t0;exact lR0 Z U (v0a Z F0a Z (a0.cells 1 Z) Z ⟨⟨_,Z,RdE.less (fun x hx=>List.mem_cons_of_mem _ hx) _ _ t0⟩,a0.fin⟩)
theorem O7b(M:List Nat)(w0:World)(v:Value)(l:List Int)(hR:RdI M w0 v l)(hw:∀x∈l,1≤x∧x≤8)(hl:l.length≤32):C0a prog 38 #[v] w0 fun v w'=>v=.int .i64 (U1a l)∧Below w0.heap.size w0 w':=by
 obtain⟨A,n,c,rfl⟩:=hR.form;obtain⟨_,_⟩:=hR.len;have j0:=P2a hw;have S:=St.refl w0;refine a0a func38 Z ntmps38 Z ?_;refine wC0 Z U (wL (fun μk D ε w=>D=[]∧∃k:Nat,∃s:Int,(k+μk=(l.length))∧(s=U1a (l.take k))∧St [] w0 w []∧Sl ε [(0,.slice A n c),(3,.int .i64 s),(4,.int .i64 k)]) (μ:=(l.length)) ⟨Z,0,0,by omega,Z,S,Z⟩ ?_);rintro μk D ε w ⟨rfl,k,s,_,hs,S,eZ⟩;refine wK eZ (wB0 Z U (fun h8=>?_) fun h8=>?_)
 ·obtain⟨x,d0,i0,_,g0,a0,_,_,b0,c0⟩:=RdS.get (hR) (k) (by omega);obtain⟨rfl,_⟩:=id c0;have f0:=c4a g0;have m0:=P1a hw k;have e0:=P1a hw (k+1);refine lP (S.k.a b0) [.x d0 i0,.f 0 0] Z ⟨by omega,by omega,Z,⟨a0,by omega⟩,U⟩ ?_;refine⟨μk-1,by omega,Z,(k+1),(s+x),(by omega),(by rw[f0,hs]),S,Z⟩
 refine lR0 Z U (s0a Z ?_);exact⟨by rw[hs,List.take_of_length_le (by omega)],S.fin⟩
theorem G7a(M:List Nat)(w0:World)(v u:Value)(C W:List Int)(p0:Int)(hC:RdI M w0 v C)(hW:RdI M w0 u W)(h:I9a C W)(hs:U1a W≤p0):C0a prog 90 #[v,u,.int .i64 p0] w0 fun v w'=>v=.int .i64 (U1a W)∧Below w0.heap.size w0 w':=by
 obtain⟨A,n,c,rfl⟩:=hC.form;obtain⟨_,_⟩:=hC.len;obtain⟨A',n',c',rfl⟩:=hW.form;obtain⟨_,_⟩:=hW.len;have z1:=h.len;have M1:=h.clen;have N1:=P2a h.wid;have S:=St.refl w0;refine a0a func90 Z ntmps90 Z ?_;refine wB0 Z U (fun q1=>by exfalso;omega) fun q1=>?_;refine lB0 Z U (fun r1=>by exfalso;omega) fun r1=>?_;refine lC0 Z U (wL (fun μk D ε w=>D=[]∧∃k:Nat,∃s:Int,(k+μk=(C.length))∧(s=U1a (W.take k))∧St [] w0 w []∧Sl ε [(0,.slice A n c),(1,.slice A' n' c'),(2,.int .i64 p0),(7,.int .i64 s),(8,.int .i64 k)]) (μ:=(C.length)) ⟨Z,0,0,by omega,Z,S,Z⟩ ?_);rintro μk D ε w ⟨rfl,k,s,_,R0,S,eZ⟩;refine wK eZ (wB0 Z U (fun s1=>?_) fun s1=>?_)
 ·refine lC0 Z U (x0a b0a [0,1,2,3,4,5,6,7,8,9,10,11,12,13,14,15,16,17,18,19,20,21,22,23,24,25,26,27,28,29,30,31,32,33,34,35,36,37,38,39,40,41] [] [] Z (Cl _ _ _ _) (Cl.start S) ?_);obtain⟨x,f1,D1,_,s0,z0,_,_,G0,N0⟩:=RdS.get (hC) (k) (by omega);obtain⟨rfl,_⟩:=id N0;have K1:=h.cell x (d0a s0);refine qB (S.q.a G0) [.x f1 D1,.f 0 0] Z ⟨Z,⟨z0,by omega⟩,U⟩ (fun t1=>by exfalso;omega) fun t1=>?_;obtain⟨_,g1,E1,_,U0,A0,_,_,H0,O0⟩:=RdS.get (hC) (k) (by omega);obtain rfl:=Option.some.inj (s0.symm.trans U0);obtain⟨rfl,_⟩:=id O0;refine qB (S.q.a H0) [.x g1 E1,.f 0 0] Z ⟨Z,⟨A0,by omega⟩,U⟩ (fun u1=>by exfalso;omega) fun u1=>?_;refine qB0 Z U (fun v1=>?_) fun v1=>?_
  ·obtain⟨_,i1,F1,_,V0,B0,_,_,I0,P0⟩:=RdS.get (hC) (k) (by omega);obtain rfl:=Option.some.inj (s0.symm.trans V0);obtain⟨rfl,_⟩:=id P0;obtain⟨_,j1,G1,_,W0,C0,_,_,r0,Q0⟩:=RdS.get (hC) (k-1) (by omega);obtain⟨rfl,_⟩:=id Q0;have p1:((k:Int)-1).toNat=k-1:=by omega
   rw[←p1] at r0;have C1:=v7a h.inc W0 s0;refine qB ((S.q.a r0).a I0) [.x i1 F1,.f 0 0,.x j1 G1,.f 1 0] Z ⟨Z,⟨C0,by omega⟩,by omega,Z,⟨B0,by omega⟩,U⟩ (fun w1=>by exfalso;omega) fun w1=>?_;obtain⟨y,t0,a1,m1,a0,b0,D0,J0,e0,i0⟩:=RdS.get (hW) (k) (by omega);obtain⟨rfl,X0⟩:=id i0;have x1:=h.wid y (d0a a0);refine qB (S.q.a e0) [.x t0 a1,.f 0 0] Z ⟨Z,⟨b0,by omega⟩,U⟩ (fun x0=>by exfalso;omega) fun x0=>?_;obtain⟨I1,u0,b1,n1,n0,c0,E0,K0,f0,j0⟩:=RdS.get (hW) (k) (by omega);obtain rfl:=Option.some.inj (a0.symm.trans n0);obtain⟨rfl,Y0⟩:=id j0;refine qB (S.q.a f0) [.x u0 b1,.f 0 0] Z ⟨Z,⟨c0,by omega⟩,U⟩ (fun y0=>by exfalso;omega) fun y0=>?_;refine qD Z U ?_;rintro H1 ⟨q0,d1⟩;obtain⟨J1,v0,c1,o1,o0,d0,F0,L0,g0,m0⟩:=RdS.get (hW) (k) (by omega);obtain rfl:=Option.some.inj (a0.symm.trans o0);obtain⟨rfl,Z0⟩:=id m0;have T0:=c4a a0;have A1:=P1a h.wid k;have S0:=P1a h.wid (k+1);refine lP (q0.k.a g0) [.x v0 c1,.f 0 0] Z ⟨by omega,by omega,Z,⟨d0,by omega⟩,U⟩ ?_;refine⟨μk-1,by omega,Z,(k+1),(s+y),(by omega),(by rw[T0,R0]),q0,Z⟩
  obtain⟨y,t0,a1,m1,a0,b0,D0,J0,e0,i0⟩:=RdS.get (hW) (k) (by omega);obtain⟨rfl,X0⟩:=id i0;have x1:=h.wid y (d0a a0);refine qB (S.q.a e0) [.x t0 a1,.f 0 0] Z ⟨Z,⟨b0,by omega⟩,U⟩ (fun x0=>by exfalso;omega) fun x0=>?_;obtain⟨I1,u0,b1,n1,n0,c0,E0,K0,f0,j0⟩:=RdS.get (hW) (k) (by omega);obtain rfl:=Option.some.inj (a0.symm.trans n0);obtain⟨rfl,Y0⟩:=id j0;refine qB (S.q.a f0) [.x u0 b1,.f 0 0] Z ⟨Z,⟨c0,by omega⟩,U⟩ (fun y0=>by exfalso;omega) fun y0=>?_;refine qD Z U ?_;rintro H1 ⟨q0,d1⟩;obtain⟨J1,v0,c1,o1,o0,d0,F0,L0,g0,m0⟩:=RdS.get (hW) (k) (by omega);obtain rfl:=Option.some.inj (a0.symm.trans o0);obtain⟨rfl,Z0⟩:=id m0;have T0:=c4a a0;have A1:=P1a h.wid k;have S0:=P1a h.wid (k+1);refine lP (q0.k.a g0) [.x v0 c1,.f 0 0] Z ⟨by omega,by omega,Z,⟨d0,by omega⟩,U⟩ ?_;refine⟨μk-1,by omega,Z,(k+1),(s+y),(by omega),(by rw[T0,R0]),q0,Z⟩
 have B1:s=U1a W:=by rw[R0,List.take_of_length_le (by omega)]
 refine lB0 Z U (fun y1=>by exfalso;omega) fun y1=>?_;refine lR0 Z U (s0a Z ?_);exact⟨by rw[B1],S.fin⟩
theorem S5b(M:List Nat)(w0:World)(v:Value)(l:List Int)(b:Int)(hR:RdI M w0 v l)(hr:C1a l)(hb:∀x∈l,0≤x∧x<b):C0a prog 134 #[v,.int .i64 b] w0 fun v w'=>v=.bool true∧Below w0.heap.size w0 w':=by
 obtain⟨A,n,c,rfl⟩:=hR.form;obtain⟨_,_⟩:=hR.len;have S:=St.refl w0;refine a0a func134 Z ntmps134 Z ?_;refine wC0 Z U (wL (fun μk D ε w=>D=[]∧∃k:Nat,(k+μk=(l.length))∧St [] w0 w []∧Sl ε [(0,.slice A n c),(1,.int .i64 b),(5,.int .i64 k)]) (μ:=(l.length)) ⟨Z,0,by omega,S,Z⟩ ?_);rintro μk D ε w ⟨rfl,k,_,S,eZ⟩;refine wK eZ (wB0 Z U (fun h9=>?_) fun h9=>?_)
 ·refine lC0 Z U (x0a b0a [0,1,2,3,4,5,6,7,8,9,10,11,12,13,14,15,16,17,18,19,20,21,22,23,24,25,26,27,28] [] [] Z (Cl _ _ _ _) (Cl.start S) ?_);obtain⟨x,v0,G0,_,b0,d0,_,_,i0,n0⟩:=RdS.get (hR) (k) (by omega);obtain⟨rfl,_⟩:=id n0;have L0:=hb x (d0a b0);refine qB (S.q.a i0) [.x v0 G0,.f 0 0] Z ⟨Z,⟨d0,by omega⟩,U⟩ (fun B0=>by exfalso;omega) fun B0=>?_;obtain⟨_,x0,H0,_,r0,e0,_,_,j0,o0⟩:=RdS.get (hR) (k) (by omega);obtain rfl:=Option.some.inj (b0.symm.trans r0);obtain⟨rfl,_⟩:=id o0;refine qB (S.q.a j0) [.x x0 H0,.f 0 0] Z ⟨Z,⟨e0,by omega⟩,U⟩ (fun C0=>by exfalso;omega) fun C0=>?_;refine qB0 Z U (fun D0=>?_) fun D0=>?_
  ·obtain⟨_,y0,I0,_,s0,f0,_,_,m0,p0⟩:=RdS.get (hR) (k) (by omega);obtain rfl:=Option.some.inj (b0.symm.trans s0);obtain⟨rfl,_⟩:=id p0;obtain⟨_,z0,J0,_,t0,g0,_,_,a0,q0⟩:=RdS.get (hR) (k-1) (by omega);obtain⟨rfl,_⟩:=id q0;have A0:((k:Int)-1).toNat=k-1:=by omega
   rw[←A0] at a0;have F0:=v7a hr t0 b0;refine qB ((S.q.a a0).a m0) [.x y0 I0,.f 0 0,.x z0 J0,.f 1 0] Z ⟨Z,⟨g0,by omega⟩,by omega,Z,⟨f0,by omega⟩,U⟩ (fun E0=>by exfalso;omega) fun E0=>?_;refine qD Z U ?_;rintro K0 ⟨c0,u0⟩;refine lP0 Z ⟨by omega,U⟩ ⟨μk-1,by omega,Z,(k+1),(by omega),c0,Z⟩
  refine qD Z U ?_;rintro K0 ⟨c0,u0⟩;refine lP0 Z ⟨by omega,U⟩ ⟨μk-1,by omega,Z,(k+1),(by omega),c0,Z⟩
 exact lT Z U Z ⟨Z,S.fin⟩
section
variable {P:Program} {r:Option Nat} {N:Nat} {D:List Deferred} {e:Env} {w:World} {ops:Array Oper} {rest:List Oper} {K:List Deferred→Env→World→Prop}
variable {d:Nat} {t:TypeId} {p:String} {af:Array Edge} {x y:Operand} {xt yt:TypeId} {a b:Int}
theorem g4c(w:World)(h0:0≤a∧a<9223372036854775808)(h1:0<b):(Op.intDiv .quo .i64 a b).run P w=.ok (.int .i64 (a / b)) w:=by
 have hb:b≠0:=by omega
 have ht:a.tdiv b=a / b:=Int.tdiv_eq_ediv_of_nonneg h0.1;have hd:0≤a / b∧a / b≤a:=⟨Int.ediv_nonneg h0.1 (by omega),Int.ediv_le_self _ h0.1⟩;have hw:IntKind.i64.wrap (a / b)=a / b:=m6a _ hd.1;simp[Op.intDiv,hb,ht,hw]
theorem J2d(hx:ev e x=.int .i64 a)(hy:ev e y=.int .i64 b)(h0:0≤a∧a<9223372036854775808)(h1:0<b)(hd:Nat.ble (d+1) N=true)(h:WL P r N ops rest K D (upd e d (.int .i64 (a / b))) w):
 WL P r N ops (⟨some d,.binOp .quo xt x y yt,t,p,af,none⟩::rest) K D e w :=
 M0a Z Z hd (by simp[execOp,hx,hy,eqGuard,binOp,g4c w h0 h1]) h
end
theorem U5a(n:Nat)(w:World)(hn:n≤20:=by omega):C0a prog 37 #[.int .i64 n] w fun v w'=>v=.int .i64 ((2 ^ n:Nat):Int)∧Below w.heap.size w w' :=
 (b7b n hn w).mono fun _ _ h=>⟨by rw[h.1,m9a],h.2⟩
theorem K5c(M:List Nat)(w0:World)(v:Value)(s:List Int)(c y:Nat)(hS:RdI M w0 v s)(hc:c<s.length)(hy:y≤8)(i0:∀x∈s,0≤x):C0a prog 142 #[v,.int .i64 c,.int .i64 y] w0 fun v w'=>v=.int .i64 (((s.getD c 0).toNat % 2 ^ y:Nat):Int)∧Below w0.heap.size w0 w':=by
 obtain⟨_,n,_,rfl⟩:=hS.form;obtain⟨_,-,_⟩:=hS.len;have o0:2 ^ y≤256:=Nat.pow_le_pow_right (n:=2) (j:=8) (by omega) (by omega);have n0:0<2 ^ y:=Nat.two_pow_pos _;have S:=St.refl w0;refine a0a func142 Z ntmps142 Z ?_;refine wB0 Z U (fun g0=>by exfalso;omega) fun g0=>?_;refine lC0 Z U (x0a b0a [0,1,2,3,4,5,6,7,8] [] [] Z (Cl _ _ _ _) (Cl.start S) ?_);obtain⟨z,f0,m0,_,d0,a0,_,_,b0,c0⟩:=RdS.get (hS) (c) (by omega);obtain⟨rfl,_⟩:=id c0;refine qO (S.q.a b0) [.x f0 m0,.f 0 0] Z ⟨Z,⟨a0,by omega⟩,U⟩ (t1a h0b Z Z (fun w1 S1 X1=>U5a y _) ?_);refine qD Z ⟨by omega,U⟩ ?_;rintro p0 ⟨e0,_⟩;refine lR0 Z U (s0a Z ?_);have j0:=i0 z (d0a d0);refine⟨?_,e0.fin⟩;rw[getD_some d0];exact congrArg _ (V4b z y j0)
theorem e4c{lo y a v n t:Nat}(hv:v<2 ^ y)(ha:a<2 ^ lo)(ht:a+2 ^ lo*(v+2 ^ y*n)=t):a+2 ^ lo*v<2 ^ (lo+y)∧a+2 ^ lo*v+2 ^ (lo+y)*n=t:=by
 have h5:2 ^ lo*(v+1)≤2 ^ lo*2 ^ y:=Nat.mul_le_mul_left _ hv;rw[Nat.mul_add,Nat.mul_one] at h5;refine⟨by rw[Nat.pow_add];omega,?_⟩;rw[←ht,Nat.pow_add,Nat.mul_add,Nat.mul_assoc];omega
theorem V9a(C W s:List Int)(M:List Nat)(w0:World)(v u i vb:Value)(hC:RdI M w0 v C)(hW:RdI M w0 u W)(h:I9a C W)(hs:U1a W≤12)(hb:RdI M w0 vb s)(H0:∀c∈C,c<s.length)(G0:∀x∈s,0≤x):C0a prog 78 #[.agg #[v,u,i],vb] w0 fun v w'=>v=.int .i64 (nuZ C W s:Nat)∧Below w0.heap.size w0 w':=by
 obtain⟨A,nc,c,rfl⟩:=hC.form;obtain⟨_,-,_⟩:=hC.len;obtain⟨A',nw,c',rfl⟩:=hW.form;obtain⟨_,-,_⟩:=hW.len;obtain⟨Ab,nb,cb,rfl⟩:=hb.form;obtain⟨_,-,_⟩:=hb.len;have E0:=h.len;have S0:=P2a h.wid;have S:=St.refl w0;refine a0a func78 Z ntmps78 Z ?_;refine wO0 Z U (p0a S Z ?_);intro g2 w2 S2 X2 G2;refine lO S2.k [.o 0,.o 0] Z ⟨Z,Z,U⟩ (f0a S2 z7b Z Z (G7a M _ _ _ C W 12 (hC.keep (S2.keep0 M)) (hW.keep (S2.keep0 M)) h hs) ?_);intro W0 t0 Q0;refine lB0 Z U (fun z0=>by exfalso;omega) fun z0=>?_;refine lC0 Z U (wL (fun μk D ε w=>D=[]∧∃k:Nat,∃acc:Int,∃un:Int,∃lo:Nat,(k+μk=(C.length))∧((lo:Int)=U1a (W.take k))∧(∃a:Nat,acc=(a:Int)∧a<2 ^ lo∧a+2 ^ lo*nuZ (C.drop k) (W.drop k) s=nuZ C W s)∧(un=((2 ^ lo:Nat):Int))∧St [] w0 w [(some g2,89,[.slice A nc c,.slice A' nw c',i])]∧Sl ε [(1,.slice Ab nb cb),(2,.pointer (some ⟨g2,0,none⟩)),(5,.int .i64 acc),(6,.int .i64 un),(7,.int .i64 k)]) (μ:=(C.length)) ⟨Z,0,0,1,0,by omega,Z,⟨0,Z,by omega,by simp⟩,Z,t0,Z⟩ ?_);rintro μk D ε w ⟨rfl,k,acc,un,lo,_,_,he,J0,S,eZ⟩;refine wK eZ ?_;obtain⟨a,rfl,ha,ht⟩:=he;subst J0;refine wB S.k [.o 0] Z ⟨Z,U⟩ (fun A0=>?_) fun A0=>?_
 ·refine lC0 Z U (x0a b0a [0,1,2,3,4,5,6,7,8,9,10,11,12,13,14,15,16] [] [] Z (Cl _ _ _ _) (Cl.start S) ?_);obtain⟨x,v0,N0,_,o0,b0,_,_,e0,i0⟩:=RdS.get (hC) (k) (by omega);obtain⟨rfl,_⟩:=id i0;have B0:=h.cell x (d0a o0);obtain⟨x,rfl⟩:=Int.eq_ofNat_of_zero_le B0.1;have L0:x<s.length:=Int.ofNat_lt.1 (H0 _ (d0a o0));obtain⟨y,x0,O0,_,a0,c0,_,_,f0,j0⟩:=RdS.get (hW) (k) (by omega);obtain⟨rfl,_⟩:=id j0;have C0:=h.wid y (d0a a0);obtain⟨y,rfl⟩:=Int.eq_ofNat_of_zero_le (show 0≤y by omega);have T0:=S7a C0;have D0:=y6b o0 a0 s;have I0:=c4a a0;have V0:=P1a h.wid (k+1);have U0:=P1a h.wid k;have q0:lo≤12:=by omega
  have s0:2 ^ lo≤4096:=Nat.pow_le_pow_right (n:=2) (j:=12) (by omega) (by omega);have K0:(s.getD x 0).toNat % 2 ^ y<2 ^ y:=Nat.mod_lt _ (by omega);have F0:2 ^ lo*((s.getD x 0).toNat % 2 ^ y)≤4096*256:=Nat.mul_le_mul s0 (by omega);have r0:2 ^ lo*2 ^ y≤4096*256:=Nat.mul_le_mul s0 (by omega);refine qO ((S.q.a f0).a e0) [.o 0,.x v0 N0,.f 0 0,.o 0,.x x0 O0,.f 1 0] Z ⟨Z,⟨c0,by omega⟩,Z,Z,⟨b0,by omega⟩,Z,U⟩ (t1a p9c Z Z (fun w1 S1 X1=>K5c M _ _ s x y (hb.keep (S1.keep0 M)) L0 (by omega) G0) ?_);refine qD Z ⟨by omega,by omega,U⟩ ?_;rintro Y0 ⟨p0,_⟩;obtain⟨_,y0,P0,_,n0,d0,_,_,g0,m0⟩:=RdS.get (hW) (k) (by omega);obtain rfl:=Option.some.inj (a0.symm.trans n0);obtain⟨rfl,_⟩:=id m0;refine lO (p0.k.a g0) [.o 0,.x y0 P0,.f 0 0] Z ⟨Z,⟨d0,by omega⟩,Z,U⟩ (f0a p0 h0b Z Z (U5a y _) ?_);intro X0 u0 R0;refine lP0 Z ⟨by omega,by omega,U⟩ ?_;refine⟨μk-1,by omega,Z,(k+1),(_),(_),(lo+y),(by omega),(by rw[I0];omega),?_,?_,u0,Z⟩
  ·rw[D0,Int.toNat_natCast] at ht;have hn:=e4c K0 ha ht;exact⟨a+2 ^ lo*((s.getD x 0).toNat % 2 ^ y),by simp,hn.1,hn.2⟩
  ·rw[Nat.pow_add];simp
 refine lR0 Z U (s0a Z ?_);rw[show C.drop k=[] from List.drop_eq_nil_of_le (by omega)] at ht;exact⟨by rw[←ht];simp[nuZ],S.fin⟩
theorem r0d{n:Nat}(h:n<2 ^ 32):IntKind.u32.wrap (n:Int)=(n:Int):=by
 have h3:((2 ^ 32:Nat):Int)=2 ^ 32:=by simp
 have h2:(n:Int) % (2 ^ 32)=n:=Int.emod_eq_of_lt (by omega) (by rw[←h3];exact Int.ofNat_lt.2 h);simp only[IntKind.wrap,IntKind.signed,IntKind.bits,Bool.false_and,Bool.false_eq_true,if_false];exact h2
theorem s1c(n:Nat):BitVec.ofInt 32 (n:Int)=BitVec.ofNat 32 n:=by
 apply BitVec.eq_of_toNat_eq;simp
theorem F1b{a b:Nat}(ha:a<2 ^ 32)(hb:b<2 ^ 32):Op.intBits .and .u32 (a:Int) (b:Int)=pure (.int .u32 ((a &&& b:Nat):Int)):=by
 have h:a &&& b<2 ^ 32:=Nat.and_lt_two_pow _ hb;show pure (Value.int .u32 (IntKind.u32.wrap ((BitVec.ofInt 32 (a:Int) &&& BitVec.ofInt 32 (b:Int)).toNat:Int)))=_;rw[s1c,s1c,BitVec.toNat_and,BitVec.toNat_ofNat,BitVec.toNat_ofNat,Nat.mod_eq_of_lt ha,Nat.mod_eq_of_lt hb,r0d h]
theorem p2d{a n:Nat}{kd:IntKind}(hn:n≤31):Op.shift .shr .u32 (a:Int) kd (n:Int)=pure (.int .u32 ((a >>> n:Nat):Int)):=by
 have h3:min n IntKind.u32.bits=n:=by simp[IntKind.bits];omega
 have h6:¬((n:Int)<0):=by omega
 have h7:(a:Int).fdiv (2 ^ n)=((a >>> n:Nat):Int):=by
  rw[Int.fdiv_eq_ediv_of_nonneg _ (Int.le_of_lt (Int.pow_pos (by omega))),Nat.shiftRight_eq_div_pow];simp
 simp only[Op.shift,h6,if_false,Int.toNat_natCast,h3,h7]
section
variable {P:Program} {r:Option Nat} {N:Nat} {D:List Deferred} {e:Env} {w:World} {ops:Array Oper} {rest:List Oper} {K:List Deferred→Env→World→Prop}
variable {d:Nat} {t:TypeId} {p:String} {af:Array Edge} {x y:Operand} {xt yt:TypeId} {n m:Nat} {kd:IntKind}
theorem H6c(hx:ev e x=.int .u32 (m:Int))(hy:ev e y=.int kd (n:Int))(hn:n≤31)(hd:Nat.ble (d+1) N=true)(h:WL P r N ops rest K D (upd e d (.int .u32 ((m >>> n:Nat):Int))) w):
 WL P r N ops (⟨some d,.binOp .shr xt x y yt,t,p,af,none⟩::rest) K D e w :=
 M0a Z Z hd (by simp only[execOp,hx,hy,eqGuard_shr,binOp_shr,p2d hn,Sem.run_bind,Sem.run_pure,Result.andThen_ok]) h
theorem V0c(hx:ev e x=.int .u32 (n:Int))(hy:ev e y=.int .u32 (m:Int))(hn:n<2 ^ 32)(hm:m<2 ^ 32)(hd:Nat.ble (d+1) N=true)(h:WL P r N ops rest K D (upd e d (.int .u32 ((n &&& m:Nat):Int))) w):
 WL P r N ops (⟨some d,.binOp .and xt x y yt,t,p,af,none⟩::rest) K D e w :=
 M0a Z Z hd (by simp[execOp,hx,hy,eqGuard_and,binOp_and,F1b hn hm]) h
end
def N7b(m k:Nat):List Int:=((List.range k).filter m.testBit).map Int.ofNat
theorem y4b(m k:Nat):N7b m (k+1)=if m.testBit k=true then N7b m k++[(k:Int)] else N7b m k:=by
 unfold N7b;rw[List.range_succ,List.filter_append,List.map_append];by_cases h:m.testBit k=true
 ·rw[if_pos h,List.filter_cons_of_pos h];rfl
 ·rw[if_neg h,List.filter_cons_of_neg (by simpa using h)];simp
theorem g2b{m k:Nat}{c:Int}:c∈N7b m k↔∃i:Nat,c=i∧i<k∧m.testBit i=true:=by
 unfold N7b;simp only[List.mem_map,List.mem_filter,List.mem_range];constructor
 ·rintro⟨i,⟨h1,h2⟩,rfl⟩;exact⟨i,Z,h1,h2⟩
 ·rintro⟨i,rfl,h1,h2⟩;exact⟨i,⟨h1,h2⟩,Z⟩
theorem j1c(m k:Nat):(N7b m k).Pairwise (·<·):=by
 unfold N7b;rw[List.pairwise_map];exact((List.pairwise_lt_range (n:=k)).sublist List.filter_sublist).imp fun h=>Int.ofNat_lt.2 h
theorem t2b(m k:Nat):(N7b m k).length≤k:=by
 unfold N7b;rw[List.length_map];have:=List.length_filter_le m.testBit (List.range k);simpa using this
theorem O3b(p:o0a)(M:List Nat)(w0:World)(cs:List Value)(hP:S0a M w0 p cs)(hM:∀g∈M,g<w0.heap.size)(hN:x0b p):
 C0a prog 20 #[.agg cs.toArray] w0 fun v w'=>(∃b,v=.bool b∧(b=true→p1a p))∧Below w0.heap.size w0 w':=by
 obtain⟨_,_,_,_,_,_,_,_,_,_,_,_,rfl,-⟩:=hP.open_;have S:=St.refl w0;refine a0a func20 Z ntmps20 Z ?_;refine wO0 Z U (p0a S Z ?_);intro g1 w1 S1 X1 G1;refine lO S1.k [.w 0] Z ⟨⟨Z,Z⟩,U⟩ (j0a S1 S4c Z Z (H8b p M _ _ (hP.keep (S1.keep0 M)) (fun g hg=>Nat.lt_of_lt_of_le (hM g hg) S1.size) hN) ?_);rintro v8 w8 ⟨_,_,_,rfl,hv⟩ S8 X8;refine lB0 Z U (fun a0=>?_) fun a0=>?_
 ·exact lT Z U Z ⟨⟨_,Z,fun _=>hv a0⟩,S8.fin⟩
 exact lT Z U Z ⟨⟨_,Z,fun h=>by cases h⟩,S8.fin⟩
theorem X9b(p:o0a)(M:List Nat)(w0:World)(cs:List Value)(hP:S0a M w0 p cs)(hM:∀g∈M,g<w0.heap.size)(hN:x0b p):
 C0a prog 25 #[.agg cs.toArray] w0 fun v w'=>(∃b,v=.bool b∧(b=true→p1a p))∧Below w0.heap.size w0 w':=by
 obtain⟨_,_,_,_,_,_,_,_,_,_,_,_,rfl,-⟩:=hP.open_;have S:=St.refl w0;refine a0a func25 Z ntmps25 Z ?_;refine wO0 Z U (p0a S Z ?_);intro g1 w1 S1 X1 G1;refine lO S1.k [.w 0] Z ⟨⟨Z,Z⟩,U⟩ (F9a S1 E0d Z Z (c4c p M _ _ (hP.keep (S1.keep0 M))) (fun h4 w4 S4 X4=>?_) (fun w4 S4 X4=>?_))
 ·refine lO S4.k [.w 0] Z ⟨⟨Z,Z⟩,U⟩ (F9a S4 b2c Z Z (O3b p M _ _ (hP.keep (S4.keep0 M)) (fun g hg=>Nat.lt_of_lt_of_le (hM g hg) S4.size) hN) (fun h7 w7 S7 X7=>?_) (fun w7 S7 X7=>?_))
  ·exact lT Z U Z ⟨⟨_,Z,fun _=>h7⟩,S7.fin⟩
  exact lT Z U Z ⟨⟨_,Z,fun h=>by cases h⟩,S7.fin⟩
 exact lT Z U Z ⟨⟨_,Z,fun h=>by cases h⟩,S4.fin⟩
theorem p7a(p:o0a)(a0:Nat)(p0:a0<2 ^ 32)(M:List Nat)(w0:World)(cs:List Value)(hP:S0a M w0 p cs)(hn:p.cells.length≤32):
 C0a prog 30 #[.agg cs.toArray,.int .u32 a0] w0 fun v w'=>D5a w0 w' v (N7b a0 p.cells.length)∧Below w0.heap.size w0 w':=by
 obtain⟨Ac,nc,cc,Am,nm,cm,Al,nl,cl,At,nt,ct,rfl,_⟩:=hP.open_;have S:=(St.refl w0).nilEnt 3;refine a0a func30 Z ntmps30 Z ?_;refine wO0 Z U (p0a S Z ?_);intro g2 w2 S2 X2 G2;refine lC0 Z U (wL (fun μk D ε w=>D=[]∧∃k:Nat,∃G:Option Nat,∃d0:List Value,∃v:Value,(k+μk=(p.cells.length))∧(V1a (fun _ _=>s2c) 1 [] w0 G d0 v (N7b a0 k))∧St [] w0 w [(some g2,27,[.slice Ac nc cc,.slice Am nm cm,.slice Al nl cl,.slice At nt ct]),(G,3,d0)]∧Sl ε [(1,.int .u32 a0),(2,.pointer (some ⟨g2,0,none⟩)),(5,v),(6,.int .i64 k)]) (μ:=(p.cells.length)) ⟨Z,0,none,[],.slice none 0 0,by omega,V1a.nil,S2,Z⟩ ?_);rintro μk D ε w ⟨rfl,k,G,d0,v,_,b0,S,eZ⟩;refine wK eZ (wB S.k [.o 0] Z ⟨Z,U⟩ (fun n0=>?_) fun n0=>?_)
 ·refine lB0 Z U (fun o0=>?_) fun o0=>?_
  ·refine lO0 Z U (j5b Tryz.underlying3 Tryz.underlying137 Z Z ?_);rw[e3c (by omega)];refine H6c Z Z (by omega) Z ?_;have g0:a0 >>> k<2 ^ 32:=by rw[Nat.shiftRight_eq_div_pow];exact Nat.lt_of_le_of_lt (Nat.div_le_self _ _) p0
   refine V0c (m:=1) Z Z g0 (by omega) Z ?_;refine Q3c Z Z Z (fun e0=>?_) fun e0=>?_
   ·refine lOn 4 S.k [] Z U (I0a Z ?_);refine lO0 Z U (k0a S Q0a (vs:=[.int .i64 _]) (cs:=[_]) Z Z Z Z Z Z ?_);intro v0 y0 i0 t0 r0;refine w1a V5a (k:=2) (M2:=[]) (e1:=(k:Int)) i0 Q0a Z b0 Z Z (i0.cells 0 Z) ⟨Z,by unfold i64;omega⟩ (by have:=t2b a0 k;omega) Z ?_;intro x0 s0 m0 z0 j0 c0 u0 q0;refine A0a Z ?_;refine lP0 Z ⟨by omega,U⟩ ⟨μk-1,by omega,Z,(k+1),(_),(_),(_),(by omega),?_,j0.tail,Z⟩;rw[y4b];rw[if_pos ((i8a a0 k).1 e0)];exact c0
   refine lP0 Z ⟨by omega,U⟩ ⟨μk-1,by omega,Z,(k+1),(_),(_),(_),(by omega),?_,S,Z⟩;rw[y4b];rw[if_neg fun h=>e0 ((i8a a0 k).2 h)];exact b0
  refine lOn 8 S.k [] Z U (I0a Z ?_);refine A0a Z ?_;refine lR0 Z U (s0a Z ?_)
  first
   | (obtain rfl:k=p.cells.length:=by omega
      exact⟨fun M' f0=>V1a.rd V5a (M:=M') b0 S (k:=1) Z (fun g hg hh=>by subst hg;have z:=S.new 1 Z;have z2:=f0 g hh;simp at z;omega) (by have:=t2b a0 p.cells.length;omega),S.fin⟩)
 refine lOn 11 S.k [] Z U (I0a Z ?_);refine A0a Z ?_;refine lR0 Z U (s0a Z ?_)
 first
  | (obtain rfl:k=p.cells.length:=by omega
     exact⟨fun M' f0=>V1a.rd V5a (M:=M') b0 S (k:=1) Z (fun g hg hh=>by subst hg;have z:=S.new 1 Z;have z2:=f0 g hh;simp at z;omega) (by have:=t2b a0 p.cells.length;omega),S.fin⟩)
theorem R0c(M:List Nat)(w0:World)(v u i vo vn:Value)(C W o n:List Int)(hi:∃A m c,i=.slice A m c)(hC:RdI M w0 v C)(hW:RdI M w0 u W)(h:I9a C W)(hs:U1a W≤12)(hO:RdI M w0 vo o)(hN:RdI M w0 vn n)(j0:∀c∈C,c<o.length)(i0:∀c∈C,c<n.length)(g0:∀x∈o,0≤x)(f0:∀x∈n,0≤x):
 C0a prog 34 #[.agg #[v,u,i],vo,vn] w0 fun v w'=>v=.agg #[.int .i64 (nuZ C W o:Nat),.int .i64 (nuZ C W n:Nat)]∧Below w0.heap.size w0 w':=by
 obtain⟨_,_,_,rfl⟩:=hi;obtain⟨A,_,c,rfl⟩:=hC.form;obtain⟨_,_,_,rfl⟩:=hW.form;obtain⟨_,_,_,rfl⟩:=hO.form;obtain⟨_,_,_,rfl⟩:=hN.form;have S:=St.refl w0;refine a0a func34 Z ntmps34 Z ?_;refine wO0 Z U (p0a S Z ?_);intro g3 w3 S3 X3 G3;refine g0a S3 f5b Z Z ?_;intro g6 w6 S6 X6 G6;refine lO S6.k [.o 1,.o 1] Z ⟨Z,Z,U⟩ (E0a v1b (vs:=[(0,.slice _ _ _),(1,.slice _ _ _)]) (cs:=[_,_,_]) Z Z Z Z ?_);refine g0a S6 w7a Z Z ?_;intro g7 w7 S7 X7 G7;refine c0a (kk:=0) (vs:=[_,_,_]) S7 A7a Z Z Z Z Z Z Z ?_;intro m0 a0 d0;dsimp only[h0a,List.set] at a0;refine lC0 Z U (x0a b0a [0,1,2,3,4,5,6] [] [7] Z (Cl _ _ _ _) (Cl.start a0) ?_);refine qO a0.q [.w 0] Z ⟨⟨Z,Z⟩,U⟩ (t1a U4c Z Z (fun w1 S1 X1=>V9a C W o M _ _ _ _ _ (hC.keep (S1.keep0 M)) (hW.keep (S1.keep0 M)) h hs (hO.keep (S1.keep0 M)) j0 g0) ?_);refine qO a0.q [.w 0] Z ⟨⟨Z,Z⟩,U⟩ (t1a U4c Z Z (fun w1 S1 X1=>V9a C W n M _ _ _ _ _ (hC.keep (S1.keep0 M)) (hW.keep (S1.keep0 M)) h hs (hN.keep (S1.keep0 M)) i0 f0) ?_);refine x2a H3a (vs:=[(0,.int .i64 _),(1,.int .i64 _)]) (cs:=[_,_]) Z Z Z Z ?_;refine qD Z U ?_;rintro o0 ⟨c0,_⟩
 first|refine c0a (kk:=1) (vs:=[_,_]) c0 G4b Z Z Z Z Z Z Z ?_
 intro n0 b0 e0;dsimp only[h0a,List.set] at b0;exact lR0 Z U (v0a (n:=2) Z a7a Z (b0.cells 1 Z) Z ⟨Z,b0.fin⟩)
theorem r8b(M:List Nat)(w0:World)(v u i:Value)(l:List (Int×Int))(x:Int×Int)(hs:∃A m c B n d,v=.slice A m c∧u=.slice B n d)(hL:u0b M w0 i l):
 C0a prog 33 #[.agg #[v,u,i],.agg (pc x).toArray] w0 fun v w'=>v=.bool (decide (x∈l))∧Below w0.heap.size w0 w':=by
 obtain⟨A,m,c,B,n,d,rfl,rfl⟩:=hs;obtain⟨Al,nl,cl,rfl⟩:=hL.form;obtain⟨_,-,_⟩:=hL.len;have S:=St.refl w0;refine a0a func33 Z ntmps33 Z ?_;refine wO0 Z U (p0a S Z ?_);intro g2 w2 S2 X2 G2;refine p0a S2 Z ?_;intro g3 w3 S3 X3 G3;refine lC0 Z U (wL (fun μk D ε w=>D=[]∧∃k:Nat,(k+μk=(l.length))∧(k1a (l) k (fun y=>y≠x))∧St [] w0 w [(some g3,72,[.int .i64 x.1,.int .i64 x.2]),(some g2,41,[.slice A m c,.slice B n d,.slice Al nl cl])]∧Sl ε [(2,.pointer (some ⟨g2,0,none⟩)),(3,.pointer (some ⟨g3,0,none⟩)),(5,.int .i64 k)]) (μ:=(l.length)) ⟨Z,0,by omega,k1a.zero,S3,Z⟩ ?_);rintro μk D ε w ⟨rfl,k,_,ha,S,eZ⟩;refine wK eZ (wB S.k [.o 1] Z ⟨Z,U⟩ (fun o0=>?_) fun o0=>?_)
 ·refine lC0 Z U (x0a b0a [0,1,2,3,4,5,6] [] [] Z (Cl _ _ _ _) (Cl.start S) ?_);obtain⟨y,j0,p0,m0,g0,c0,_,e0,d0,f0⟩:=RdS.get (hL) (k) (by omega);obtain⟨n0,_⟩:=f0;obtain rfl:m0=pc y:=n0;refine qOn 6 (S.q.a d0) [.o 1,.x j0 p0,.v 0,.w 0] Z ⟨⟨Z,Z⟩,⟨Z,e0⟩,⟨c0,by omega⟩,Z,U⟩ (Y1d (a:=y) (b:=x) D1b Z Z Z (fun b0=>?_) fun b0=>?_)
  ·refine qD Z U ?_;rintro q0 ⟨a0,i0⟩;refine lR0 Z U (s0a Z ?_);exact⟨by rw[decide_eq_true (b0▸d0a g0:x∈l)],a0.fin⟩
  refine qD Z U ?_;rintro q0 ⟨a0,i0⟩;refine lP0 Z ⟨by omega,U⟩ ⟨μk-1,by omega,Z,(k+1),(by omega),(ha.succ g0 (b0)),a0,Z⟩
 refine lR0 Z U (s0a Z ?_);exact⟨by rw[decide_eq_false (fun hh=>ha.all (by omega) x hh rfl)],S.fin⟩
theorem b1b(C W s:List Int)(n:Nat)(M:List Nat)(w0:World)(v u i vb:Value)(hC:RdI M w0 v C)(hW:RdI M w0 u W)(h:I9a C W)(hn:n<2 ^ (U1a W).toNat)(hb:RdI M w0 vb s)(O0:s.length=32)(d1:∀x∈s,0≤x∧x<256)(hs:U1a W≤12:=by omega):C0a prog 44 #[.agg #[v,u,i],.int .i64 n,vb] w0 fun v w'=>D5a w0 w' v (stZ C W n s)∧Below w0.heap.size w0 w':=by
 obtain⟨A,nc,c,rfl⟩:=hC.form;obtain⟨_,-,_⟩:=hC.len;obtain⟨A',nw,c',rfl⟩:=hW.form;obtain⟨_,-,_⟩:=hW.len;obtain⟨_,_,_,rfl⟩:=hb.form;obtain⟨_,-,_⟩:=hb.len;have a1:=h.len;have w1:=P2a h.wid;obtain⟨c0,a0⟩:∃b:Nat,U1a W=(b:Int):=⟨(U1a W).toNat,by omega⟩;have x1:2 ^ c0≤4096:=Nat.pow_le_pow_right (n:=2) (j:=12) (by omega) (by omega);rw[a0,Int.toNat_natCast] at hn;have L0:=E1b n c0;rw[Nat.mod_eq_of_lt hn] at L0;have S:=St.refl w0;refine a0a func44 Z ntmps44 Z ?_;refine wO0 Z U (p0a S Z ?_);intro g3 w3 S3 X3 G3;refine lO0 Z U (J7a S3 Q0a Z ?_);intro U0 A1 J0 p1 o1;refine lO0 Z U ?_;refine v0c V5a (k:=0) (M2:=[]) J0 Q0a (by decide) Z (V1a.new (g:=U0)) Z Z ((hb.less (M':=[]) (by simp)).keep (J0.keep0 [])) (by simp;omega) Z ?_;intro z1 Gm q0 B1 f0 I0 q1 n1;rw[List.nil_append] at I0;have e0:=I0.toV;obtain⟨i0,G0,p0,rfl⟩:=e0.form;refine lO f0.k [.o 1,.o 1] Z ⟨Z,Z,U⟩ (f0a f0 z7b Z Z (G7a M _ _ _ C W 12 (hC.keep (f0.keep0 M)) (hW.keep (f0.keep0 M)) h hs) ?_);intro C1 j0 r1;refine lB0 Z U (fun V0=>by exfalso;omega) fun V0=>?_;refine lO j0.k [.o 1] Z ⟨Z,U⟩ ?_;refine f0a j0 N4c Z Z ((O7b M _ _ W (hW.keep (j0.keep0 M)) h.wid (by have:=h.clen;omega)).mono (fun v w' h=>⟨h.1.trans (by rw[a0]),h.2⟩)) ?_;intro D1 Q0 s1;refine f0a Q0 h0b Z Z (U5a c0 _) ?_;intro E1 K0 t1;refine lOn 1 K0.k [] Z ⟨by omega,U⟩ (c2d Z Z Z ?_);rw[L0];refine A0a (hv:=Z) (v:=.int .i64 _) Z ?_;refine lC0 Z U (wL (fun μk D ε w=>D=[]∧∃k:Nat,∃mi:Int,∃st:List Int,∃g0:List Value,(k+μk=(C.length))∧(i4a Gm 1 32 g0 (.slice i0 G0 p0) (st.map (Value.int .i64)))∧(st.length=32)∧(∃m:Nat,mi=(m:Int)∧m<4096∧stZ (C.drop k) (W.drop k) m st=stZ C W n s)∧St [] w0 w [(Gm,3,g0),(some g3,89,[.slice A nc c,.slice A' nw c',i])]∧Sl ε [(1,.int .i64 mi),(3,.pointer (some ⟨g3,0,none⟩)),(7,.slice i0 G0 p0),(8,.int .i64 k)]) (μ:=(C.length)) ⟨Z,0,(n:Int),s,q0,by omega,O0▸e0,O0,⟨n,Z,by omega,Z⟩,K0,Z⟩ ?_);rintro μk D ε w ⟨rfl,k,mi,st,g0,_,N0,D0,he,S,eZ⟩;refine wK eZ ?_;obtain⟨m,rfl,hm,he⟩:=he;refine wB S.k [.o 1] Z ⟨Z,U⟩ (fun W0=>?_) fun W0=>?_
 ·obtain⟨y,R0,g1,_,P0,r0,_,_,u0,A0⟩:=RdS.get (hW) (k) (by omega);obtain⟨rfl,_⟩:=id A0;have X0:=h.wid y (d0a P0);obtain⟨y,rfl⟩:=Int.eq_ofNat_of_zero_le (show 0≤y by omega);have y1:=S7a X0;refine lO (S.k.a u0) [.o 1,.x R0 g1,.f 0 0] Z ⟨Z,⟨r0,by omega⟩,Z,U⟩ (f0a S h0b Z Z (U5a y _) ?_);intro F1 m0 u1;obtain⟨gm,pad,rfl,f1,rfl,b1⟩:=N0.pad (by omega);cases f1;obtain⟨x,S0,i1,_,F0,s0,_,_,v0,B0⟩:=RdS.get (hC) (k) (by omega);obtain⟨rfl,_⟩:=id B0;have v1:=h.cell x (d0a F0);have Z0:=A6b F0 P0 m st;have d0:(m:Int) % ((2 ^ y:Nat):Int)=((m % 2 ^ y:Nat):Int):=(Int.natCast_emod _ _).symm;have y0:(m:Int) / ((2 ^ y:Nat):Int)=((m / 2 ^ y:Nat):Int):=(Int.natCast_ediv _ _).symm;refine lB (m0.k.a v0) [.o 1,.x S0 i1,.f 0 0] Z ⟨Z,⟨s0,by omega⟩,Z,U⟩ (fun Y0=>?_) (fun Y0=>by exfalso;omega);refine lC0 Z U (x0a b0a [0,1,2,3,4,5,6,7,8,9] [] [10] Z (Cl _ _ _ _) (Cl.start m0) ?_);obtain⟨_,T0,j1,_,E0,t0,_,_,x0,C0⟩:=RdS.get (hC) (k) (by omega);obtain rfl:=Option.some.inj (F0.symm.trans E0);obtain⟨rfl,_⟩:=id C0;refine qO (m0.q.a x0) [.o 1,.x T0 j1,.f 0 0] Z ⟨Z,⟨t0,by omega⟩,Z,U⟩ (q2d Z Z (by omega) (by omega) Z ?_);refine D0a Q0a.slT Z (by rfl) Z Z ?_;refine qD Z U ?_;rintro m1 ⟨n0,_⟩;refine h1a (kk:=0) n0 R0d Z Z Z (by(simp;omega)) ?_;intro H0 b0 o0;refine lO0 Z U (J2d Z Z (by omega) (by omega) Z ?_);refine lP0 Z ⟨by omega,U⟩ ⟨μk-1,by omega,Z,(k+1),(_),(st.set x.toNat ((m:Int) % ((2 ^ y:Nat):Int))),(_),(by omega),?_,?_,?_,b0,Z⟩
  ·have z:=i4a.ofPad (g:=gm) (l:=st.set x.toNat ((m % 2 ^ y:Nat):Int)) (pad:=pad) (by simpa using b1);rw[←o9b] at z;rw[d0];simpa[D0] using z
  ·simp[D0]
  ·rw[d0];exact⟨m / 2 ^ y,y0,Nat.lt_of_le_of_lt (Nat.div_le_self _ _) hm,by rw[←he,Z0];rfl⟩
 refine lR0 Z U (s0a Z ?_);have z0:st=stZ C W n s:=by rw[←he,show C.drop k=[] from List.drop_eq_nil_of_le (by omega)];rfl
 have c1:V3a 3 w0 w (.slice i0 G0 p0) (stZ C W n s):=⟨Gm,g0,by rw[←z0,D0];exact N0,fun g hg=>by subst hg;exact⟨by simpa using S.new 0 Z,S.blk 0 Z⟩⟩;exact⟨fun M hM=>c1.rd hM (fun x hx=>by have:=T6a C W n s h.wid d1 x hx;unfold i64;omega) S.fin (by rw[a8a];omega),S.fin⟩
section
variable {P:Program} {r:Option Nat} {N:Nat} {D:List Deferred} {e:Env} {w:World} {ops:Array Oper} {rest:List Oper} {K:List Deferred→Env→World→Prop} {d:Nat} {t:TypeId} {p:String} {af:Array Edge} {x y:Operand} {a b:Int} {kd:IntKind} {ts:Array TypeId}
theorem k0d(hx:ev e x=.int kd a)(hy:ev e y=.int kd b)(hd:Nat.ble (d+1) N=true)(h:WL P r N ops rest K D (upd e d (.int kd (min a b))) w):
 WL P r N ops (⟨some d,.call { callee:=.builtin .min,args:=#[x,y],argTypes:=ts },t,p,af,none⟩::rest) K D e w:=by
 have h1:(if b<a then b else a)=min a b:=by rw[Int.min_def];split<;>split<;>omega
 exact M0a Z Z hd (by simp[execOp,resolve,invoke,builtin,run_min_int2,hx,hy,h1]) h
end
theorem d5b(p:List Z0a)(C:List Int)(M:List Nat)(w0:World)(vc vl:Value)(hP:U7b M w0 vc p)(hC:RdI M w0 vl C)(hr:C1a C)(hc:∀c∈C,0≤c∧c<p.length)(hp:p.length≤32)(hw:∀c∈p,1≤c.w∧c.w≤8):
 C0a prog 73 #[vc,vl] w0 fun v w'=>(∃u,v=.tuple #[u,.bool true]∧D5a w0 w' u (wdL p C))∧Below w0.heap.size w0 w':=by
 obtain⟨Ap,np,cp,rfl⟩:=hP.form;obtain⟨_,-,_⟩:=hP.len;obtain⟨A,n,c,rfl⟩:=hC.form;obtain⟨_,-,_⟩:=hC.len;have ho:=Y5a hr hc hp hw;have S0:=ho.clen;have T0:=P2a ho.wid;have U0:(wdL p C).length=C.length:=ho.len;have C0:∀x∈wdL p C,i64 x:=fun x hx=>by have:=ho.wid x hx;unfold i64;omega
 have S:=St.refl w0;refine a0a func73 Z ntmps73 Z ?_;refine wO0 Z U (k0d Z Z Z ?_);rw[show min (np:Int) 32=np by omega];refine f0a S e7c Z Z (S5b M _ _ C np (hC.keep (S.keep0 M)) hr (fun x hx=>by have:=hc x hx;omega)) ?_;intro W0 r0 N0;refine lO0 Z U (J7a r0 Q0a Z ?_);intro p0 X0 s0 O0 J0;refine A0a Z ?_;refine lC0 Z U (wL (fun μk D ε w=>D=[]∧∃k:Nat,∃G:Option Nat,∃c0:List Value,∃v:Value,(k+μk=(C.length))∧(V1a (fun _ _=>s2c) 1 [] w0 G c0 v (wdL p (C.take k)))∧St [] w0 w [(G,3,c0)]∧Sl ε [(0,.slice Ap np cp),(1,.slice A n c),(6,v),(7,.int .i64 k)]) (μ:=(C.length)) ⟨Z,0,some p0,[],.slice (some ⟨p0,0,none⟩) 0 0,by omega,V1a.new,s0,Z⟩ ?_);rintro μk D ε w ⟨rfl,k,G,c0,v,_,a0,S,eZ⟩;refine wK eZ (wB0 Z U (fun A0=>?_) fun A0=>?_)
 ·refine lOn 8 S.k [] Z U (I0a Z ?_);obtain⟨x,x0,G0,_,q0,d0,_,_,f0,i0⟩:=RdS.get (hC) (k) (by omega);obtain⟨rfl,_⟩:=id i0;have E0:=hc x (d0a q0);obtain⟨_,y0,H0,_,F0,e0,_,_,g0,j0⟩:=RdS.get (hP) (x.toNat) (by omega);obtain⟨rfl,n0,_⟩:=v2a.open_ j0;have D0:=G4a (h0:=E0.1) F0;refine lO ((S.k.a g0).a f0) [.x x0 G0,.f 0 0,.x y0 H0,.f 1 1] Z ⟨Z,⟨e0,by omega⟩,Z,⟨d0,by omega⟩,U⟩ (k0a S Q0a (vs:=[.int .i64 _]) (cs:=[_]) Z Z Z Z Z Z ?_);intro R0 Y0 o0 P0 K0;refine w1a V5a (k:=1) (M2:=[]) (e1:=wAt p x) o0 Q0a Z a0 Z Z (o0.cells 0 Z) (by rw[D0];exact⟨Z,n0⟩) (by rw[List.length_map,List.length_take];omega) Z ?_;intro V0 L0 z0 Z0 t0 b0 Q0 I0;refine A0a Z ?_;refine lP0 Z ⟨by omega,U⟩ ?_;refine⟨μk-1,by omega,Z,(k+1),(_),(_),(_),(by omega),((by rw[G0a q0,wdL,List.map_append];exact b0)),t0.tail,Z⟩
 have a0:=(show C.take k=C by rw[List.take_of_length_le (by omega)])▸a0;have m0:D5a w0 w v (wdL p C):=fun M hM=>(V1a.newRow (k:=0) a0 S Z).rd hM C0 S.fin (by omega);obtain⟨_,_,_,rfl⟩:=m0.form;refine lOn 7 S.k [] Z U (I0a Z ?_);refine lOn 1 S.k [] Z U (I0a Z ?_);refine f0a S z7b Z Z (G7a [] _ _ _ C _ 256 ((hC.keep (S.keep0 M)).less (by simp)) (m0 [] (by simp)) ho (by omega)) ?_;intro a1 u0 v0;refine lB0 Z U (fun B0=>?_) (fun B0=>by exfalso;omega);refine A0a Z ?_;exact lT2 Z U Z ⟨⟨_,Z,m0.keep v0⟩,u0.fin⟩
def moreW(p:o0a)(t:Nat)(l:List Int)(k:Nat):Int:=U1a (((List.range k).filter fun(c:Nat)=>!decide ((c:Int)∈l)&&(decide ((c:Int)∈(onE p t).sup 3)||decide ((c:Int)∈(onE p t).sup 2))).map fun(c:Nat)=>wAt p.cells (c:Int))
theorem Y4a(p:o0a)(t:Nat)(l:List Int)(k:Nat):moreW p t l (k+1)=if(k:Int)∉l∧((k:Int)∈(onE p t).sup 3∨(k:Int)∈(onE p t).sup 2) then moreW p t l k+wAt p.cells k else moreW p t l k:=by
 unfold moreW;rw[List.range_succ,List.filter_append,List.map_append,e5a];by_cases h:(k:Int)∉l∧((k:Int)∈(onE p t).sup 3∨(k:Int)∈(onE p t).sup 2)
 ·rw[if_pos h,List.filter_cons_of_pos (by simpa using h)];simp[U1a]
 ·rw[if_neg h,List.filter_cons_of_neg (by simpa using h)];simp[U1a]
theorem H7a{p:o0a}(hp:p1a p)(t:Nat)(l:List Int):∀k,k≤p.cells.length→0≤moreW p t l k∧moreW p t l k≤8*k
 | 0,_=>by simp[moreW,U1a]
 | k+1,h=>by
   have ih:=H7a hp t l k (by omega);have hw:=N0c (p:=p.cells) (c:=(k:Int)) (by omega) fun c hc=>(hp.cells c hc).w;rw[Y4a]
   split<;>omega
def g3b(p:o0a)(t:Nat)(l:List Int):Prop:=onE p t≠zE∧U1a (wdL p.cells l)+moreW p t l p.cells.length≤6
theorem u8b(p:o0a)(t:Nat)(ht:t<p.threads.length)(l:List Int)(hr:C1a l)(hlc:∀c∈l,0≤c∧c<p.cells.length)(M:List Nat)(w0:World)(cs:List Value)(vl:Value)(hI:InP p M w0 cs)(hL:RdI M w0 vl l):
 C0a prog 31 #[.agg cs.toArray,.int .i64 t,vl] w0 fun v w'=>(∃b,v=.bool b∧(b=true→g3b p t l))∧Below w0.heap.size w0 w':=by
 obtain⟨Ac,nc,cc,Am,nm,cm,Al,nl,cl,At,nt,ct,rfl,hC,_⟩:=hI.rd.open_;obtain⟨Ar,nr,cr,rfl⟩:=hL.form;obtain⟨_,-,_⟩:=hL.len;have hM:=hI.lt;have hp:=hI.ok;have q0:∀c∈p.cells,1≤c.w∧c.w≤8:=fun c hc=>(hp.cells c hc).w;have j0:=hp.ncells;have ho:=Y5a hr hlc j0 q0;have v1:=ho.clen;have w1:=P2a (l:=wdL p.cells l) ho.wid;have x1:(wdL p.cells l).length=l.length:=by simp
 have S:=St.refl w0;refine a0a func31 Z ntmps31 Z ?_;refine wO0 Z U (p0a S Z ?_);intro g3 w3 S3 X3 G3;refine lB0 Z U (fun c1=>?_) fun c1=>?_
 ·exact lT Z U Z ⟨⟨_,Z,fun h=>by cases h⟩,S3.fin⟩
 refine lB S3.k [.o 0] Z ⟨Z,U⟩ (fun d1=>?_) fun d1=>?_
 ·exact lT Z U Z ⟨⟨_,Z,fun h=>by cases h⟩,S3.fin⟩
 refine lB0 Z U (fun f1=>?_) fun f1=>?_
 ·exact lT Z U Z ⟨⟨_,Z,fun h=>by cases h⟩,S3.fin⟩
 refine lO S3.k [.w 0] Z ⟨⟨Z,Z⟩,U⟩ (j0a S3 J0d Z Z (j9c p t ht M _ _ (hI.keep (S3.keep0 M))) ?_);rintro y1 o1 ⟨_,rfl,K0⟩ T0 u1;obtain⟨R0,j1,n1,rfl,_⟩:=K0.cells;have KE:=w0a.refl M o1;refine g0a T0 R1a Z Z ?_;intro g7 w7 S7 X7 G7;have r0:=Nat.le_trans KE.size G7;replace KE:=KE.trans (X7.of_nil);refine c0a (kk:=0) (vs:=[_,_,_,_]) S7 g1a Z Z Z Z Z Z Z ?_;intro p1 a0 u0;dsimp only[h0a,List.set] at a0;replace KE:=KE.fresh2 u0 (by exact .inl r0);refine lB a0.k [.o 0] Z ⟨Z,U⟩ (fun L0=>?_) fun L0=>?_
 ·exact lT Z U Z ⟨⟨_,Z,fun h=>by cases h⟩,a0.fin⟩
 refine lO a0.k [.w 0] Z ⟨⟨Z,Z⟩,U⟩ ?_;refine f0a a0 s3b Z Z (G2b (onE p t) M _ _ 61 (RdE.keep KE _ _ K0) (by unfold i64;omega)) ?_;intro B1 e0 W0;replace KE:=KE.trans (W0.of_nil);refine lB0 Z U (fun g1=>?_) fun g1=>?_
 ·exact lT Z U Z ⟨⟨_,Z,fun h=>by cases h⟩,e0.fin⟩
 refine lO e0.k [.o 1] Z ⟨Z,U⟩ (j0a e0 y0d Z Z (d5b p.cells l M _ _ _ (hC.keep (e0.keep0 M)) (hL.keep (e0.keep0 M)) hr hlc j0 q0) ?_);rintro z1 P0 ⟨_,rfl,f0⟩ s0 X0;replace KE:=KE.trans (X0.of_nil);obtain⟨S0,m1,a1,rfl⟩:=f0.form;have KW:=w0a.refl [] P0;have D0:RdI [] P0 (.slice S0 m1 a1) (wdL p.cells l):=f0 [] (by simp);refine lO s0.k [.w 0] Z ⟨⟨Z,Z⟩,U⟩ (j0a s0 E0c Z Z (S5a (onE p t) M _ _ (RdE.keep KE _ _ K0) (fun g hg=>Nat.lt_of_lt_of_le (hM g hg) s0.size)) ?_);rintro A1 Q0 ⟨_,_,rfl,g0,i0⟩ U0 Y0;replace KW:=KW.trans Y0;obtain⟨A4,n4,c4,rfl⟩:=g0.form;obtain⟨A5,n5,c5,rfl⟩:=i0.form;have KS:=w0a.refl M Q0;refine lO0 Z U (f0a U0 N4c Z Z (O7b [] _ _ (wdL p.cells l) (D0.keep KW) ho.wid (by omega)) ?_);intro C1 V0 Z0;replace KS:=KS.trans (Z0.of_nil);refine lC0 Z U (wL (fun μk D ε w=>D=[]∧∃k:Nat,∃n:Int,(k+μk=(p.cells.length))∧(n=U1a (wdL p.cells l)+moreW p t l k)∧(w0a M Q0 w)∧St [] w0 w [(some g7,37,[.int .i64 (onE p t).op,.int .i64 (onE p t).w,.int .i64 (onE p t).n,.slice R0 j1 n1]),(some g3,27,[.slice Ac nc cc,.slice Am nm cm,.slice Al nl cl,.slice At nt ct])]∧Sl ε [(2,.slice Ar nr cr),(3,.pointer (some ⟨g3,0,none⟩)),(9,.bool true),(10,.slice A4 n4 c4),(11,.slice A5 n5 c5),(12,.int .i64 n),(13,.int .i64 k)]) (μ:=(p.cells.length)) ⟨Z,0,_,by omega,(by simp[moreW,U1a]),KS,V0,Z⟩ ?_);rintro μk D ε w ⟨rfl,k,n,_,O0,KS,S,eZ⟩;refine wK eZ (wB S.k [.o 1] Z ⟨Z,U⟩ (fun i1=>?_) fun i1=>?_)
 ·refine lO0 Z U (u0a S A7b Z Z (h9a M _ _ l k (hL.keep (S.keep0 M))) (fun p0 r1 t0 v0=>?_) (fun p0 r1 t0 v0=>?_))
  ·replace KS:=KS.trans (v0.of_nil);refine lP0 Z ⟨by omega,U⟩ ⟨μk-1,by omega,Z,(k+1),(_),(by omega),?_,(KS),t0,Z⟩;rw[Y4a];have z:=of_decide_eq_true p0;rw[if_neg fun h=>h.1 z];exact O0
  replace KS:=KS.trans (v0.of_nil);refine lO0 Z U (u0a t0 A7b Z Z (h9a M _ _ ((onE p t).sup 3) k (g0.keep KS)) (fun A0 s1 n0 x0=>?_) (fun A0 s1 n0 x0=>?_))
  ·replace KS:=KS.trans (x0.of_nil);obtain⟨c,z0,J0,b1,m0,b0,C0,E0,c0,d0⟩:=RdS.get (hC) (k) (by omega);obtain⟨rfl,F0,G0,H0,I0⟩:=v2a.open_ d0;have q1:=H7a hp t l k (by omega);have q2:=X2d m0;have q3:=q0 c (d0a m0);refine lP (n0.k.a c0) [.o 1,.x z0 J0,.f 0 1] Z ⟨by omega,by omega,Z,⟨b0,by omega⟩,Z,U⟩ ?_;refine⟨μk-1,by omega,Z,(k+1),(_),(by omega),?_,(KS),n0,Z⟩;rw[Y4a];have z:=of_decide_eq_false p0;have z2:=of_decide_eq_true A0;rw[if_pos ⟨z,.inl z2⟩,q2];omega
  replace KS:=KS.trans (x0.of_nil);refine lO0 Z U (u0a n0 A7b Z Z (h9a M _ _ ((onE p t).sup 2) k (i0.keep KS)) (fun B0 t1 o0 y0=>?_) (fun B0 t1 o0 y0=>?_))
  ·replace KS:=KS.trans (y0.of_nil);obtain⟨c,z0,J0,b1,m0,b0,C0,E0,c0,d0⟩:=RdS.get (hC) (k) (by omega);obtain⟨rfl,F0,G0,H0,I0⟩:=v2a.open_ d0;have q1:=H7a hp t l k (by omega);have q2:=X2d m0;have q3:=q0 c (d0a m0);refine lP (o0.k.a c0) [.o 1,.x z0 J0,.f 0 1] Z ⟨by omega,by omega,Z,⟨b0,by omega⟩,Z,U⟩ ?_;refine⟨μk-1,by omega,Z,(k+1),(_),(by omega),?_,(KS),o0,Z⟩;rw[Y4a];have z:=of_decide_eq_false p0;have z2:=of_decide_eq_true B0;rw[if_pos ⟨z,.inr z2⟩,q2];omega
  replace KS:=KS.trans (y0.of_nil);refine lP0 Z ⟨by omega,U⟩ ⟨μk-1,by omega,Z,(k+1),(_),(by omega),?_,(KS),o0,Z⟩;rw[Y4a];have z2:=of_decide_eq_false A0;have z3:=of_decide_eq_false B0;rw[if_neg fun h=>h.2.elim z2 z3];exact O0
 refine lB0 Z U (fun N0=>?_) fun N0=>?_
 ·refine lR0 Z U (s0a Z ?_);have z:n≤6:=N0;obtain rfl:k=p.cells.length:=by omega
  exact⟨⟨_,Z,fun _=>⟨fun h=>L0 (by rw[h];rfl),by omega⟩⟩,S.fin⟩
 exact lT Z U Z ⟨⟨_,Z,fun h=>by cases h⟩,S.fin⟩
def O2d(p:o0a)(c:u2a)(t:Nat)(x:a3a):Bool:=decide (x.thread≠t)&&decide ((B3a p ((j0b p x.thread.toNat).getD x.step.toNat ⟨0,0,0,zE,[],false,0,0⟩).module_).evl c.mem (doC p 0 c x).mem=1)
theorem H6b{p:o0a}{e:E}(hv:e.valid p.cells true=true)(hw:e.w=1)(o n:List Int):(e.evl o n=1↔e.val o n=1)∧(e.evl o n≠0↔e.val o n=1):=by
 have h1:=(s1a hv).1;have he:e.evl o n=e.val o n:=by unfold E.evl;rw[if_pos h1]
 have hr:=b1c (s1a hv).2.1 o n;rw[hw] at hr;have h2:m4a (1:Int).toNat=2:=by decide
 rw[he];constructor<;>omega
theorem p5c{op unit:Int}(hu:unit=0∨unit=1){l:List E}(h:c3a op unit l≠zE):(c3a op unit l).w=1:=by
 rcases x5a (op:=op) hu l with h1|h1
 ·exact absurd h1 h
 ·exact h1.2
def Q8a(p:List Z0a)(P:Nat→Bool)(n:Nat):Int:=U1a (((List.range n).filter P).map fun(c:Nat)=>wAt p (c:Int))
theorem L4a(p:List Z0a)(P:Nat→Bool)(n:Nat):Q8a p P (n+1)=Q8a p P n+if P n=true then wAt p n else 0:=by
 unfold Q8a;rw[List.range_succ,List.filter_append,List.map_append,e5a];by_cases h:P n=true
 ·rw[if_pos h,List.filter_cons_of_pos h];simp[U1a]
 ·rw[if_neg h,List.filter_cons_of_neg h];simp[U1a]
theorem R9a{p:List Z0a}{P Q R:Nat→Bool}:∀n,(∀k,k<n→(P k=true↔Q k=true∨R k=true)∧¬(Q k=true∧R k=true))→Q8a p P n=Q8a p Q n+Q8a p R n
 | 0,_=>by simp[Q8a,U1a]
 | n+1,h=>by
   rw[L4a,L4a,L4a,R9a n fun k hk=>h k (by omega)];have h1:=h n (by omega);by_cases hq:Q n=true
   ·rw[if_pos hq,if_pos (h1.1.2 (.inl hq)),if_neg fun hr=>h1.2 ⟨hq,hr⟩];omega
   ·by_cases hr:R n=true
    ·rw[if_neg hq,if_pos (h1.1.2 (.inr hr)),if_pos hr];omega
    ·rw[if_neg hq,if_neg fun hP=>(h1.1.1 hP).elim hq hr,if_neg hr];omega
theorem v2b{p:List Z0a}{C:List Int}{n:Nat}(h:N2a C n):U1a (wdL p C)=Q8a p (fun k=>decide ((k:Int)∈C)) n:=by
 have e:C=((List.range n).filter fun(k:Nat)=>decide ((k:Int)∈C)).map Int.ofNat:=by
  refine M4a _ _ h.1 ?_ fun x=>?_
  ·rw[List.pairwise_map];exact((List.pairwise_lt_range (n:=n)).sublist List.filter_sublist).imp fun h=>Int.ofNat_lt.2 h
  ·simp only[List.mem_map,List.mem_filter,List.mem_range,decide_eq_true_eq];constructor
   ·intro hx;have h1:=h.2 x hx;obtain⟨k,rfl⟩:=Int.eq_ofNat_of_zero_le h1.1;exact⟨k,⟨by omega,hx⟩,Z⟩
   ·rintro⟨k,⟨-,hk⟩,rfl⟩;exact hk
 unfold Q8a
 conv=>lhs;rw[e]
 show U1a ((_:List Int).map (wAt p))=_
 rw[List.map_map];rfl
theorem X4c{p:o0a}{e:E}(hv:e.valid p.cells true=true){op:Int}(a0:op=2∨op=3){x:Int}(hx:x∈e.sup op):0≤x∧x<p.cells.length:=by
 obtain⟨h1,hg,b0⟩:=s1a hv;have:=T3a a0 e 40 hg b0 x ((e8a h1 a0 x).1 hx).2.2;omega
section
variable {p:o0a} (hp:p1a p) {t:Nat} {l:List Int} (hr:C1a l) (hlc:∀c∈l,0≤c∧c<p.cells.length)
theorem M6a{x:Int}:x∈allC p t l↔x∈l∨x∈(onE p t).sup 3∨x∈(onE p t).sup 2:=by
 have h:=(W3a (l++(onE p t).sup 3) ((onE p t).sup 2)).2 x;rw[List.mem_append,or_assoc] at h;exact h
include hp hlc in
theorem C9a(hon:onE p t≠zE):N2a (allC p t l) p.cells.length:=by
 have h:=(W3a (l++(onE p t).sup 3) ((onE p t).sup 2)).1;refine⟨h,fun c hc=>?_⟩;have hv:=s6a hp hon;rcases M6a.1 hc with h1|h1|h1
 ·exact hlc c h1
 ·exact X4c hv (.inr rfl) h1
 ·exact X4c hv (.inl rfl) h1
include hp hr hlc in
theorem q5b(hon:onE p t≠zE):U1a (wdL p.cells (allC p t l))=U1a (wdL p.cells l)+moreW p t l p.cells.length:=by
 rw[v2b (C9a hp hlc hon),v2b (C:=l) ⟨hr,hlc⟩];refine R9a _ fun k _=>?_;simp only[decide_eq_true_eq,Bool.and_eq_true,Bool.or_eq_true,Bool.not_eq_true',decide_eq_false_iff_not];rw[M6a];constructor
 ·constructor
  ·rintro(h|h)
   ·exact .inl h
   ·by_cases hl:(k:Int)∈l
    ·exact .inl hl
    ·exact .inr ⟨hl,h⟩
  ·rintro(h|h)
   ·exact .inl h
   ·exact .inr h.2
 ·rintro⟨h1,h2⟩;exact h2.1 h1
include hp in
theorem K1c{C:List Int}{n:Nat}(hn:n≤p.cells.length)(h:N2a C n):∀c∈C,1≤wAt p.cells c∧wAt p.cells c≤8:=fun c hc=>O6b hp (by have:=h.2 c hc;omega)
include hp in
theorem O1d{C:List Int}{n:Nat}(hn:n≤p.cells.length)(h:N2a C n):∀x∈wdL p.cells C,1≤x∧x≤8:=fun x hx=>by
 obtain⟨c,hc,rfl⟩:=List.mem_map.1 hx;exact K1c hp hn h c hc
def I9b(p:o0a)(l:List Int):Nat:=(U1a (wdL p.cells l)).toNat
include hp hr hlc in
theorem R7a(h:g3b p t l):U1a (wdL p.cells l)=I9b p l∧I9b p l≤6∧U1a (wdL p.cells (allC p t l))=I9b p (allC p t l)∧I9b p (allC p t l)≤6:=by
 have h1:=P2a (O1d hp (Nat.le_refl _) (C:=l) ⟨hr,hlc⟩);have h2:=P2a (O1d hp (Nat.le_refl _) (C9a (t:=t) hp hlc h.1));have h3:=q5b hp hr hlc h.1;have h4:=h.2;have h5:=H7a hp t l p.cells.length (Nat.le_refl _);unfold I9b;omega
include hp hlc in
theorem N3c(hon:onE p t≠zE){o n:List Int}(ho:z9b o)(hn:z9b n)(hv:(onE p t).evl o n=1):M4b p t l (nuZ l (wdL p.cells l) o) (nuZ l (wdL p.cells l) n):=by
 have hA:=C9a (l:=l) hp hlc hon;have hn32:=hp.ncells;have hA2:N2a (allC p t l) H1a.length:=⟨hA.1,fun c hc=>by have:=hA.2 c hc;rw[o2a];omega⟩;have hw:=O1d hp (Nat.le_refl _) hA;have hw2:=K1c hp (Nat.le_refl _) hA;have hov:=s6a hp hon;have hp1:∀m,z9b (stZ (allC p t l) (wdL p.cells (allC p t l)) (nuZ (allC p t l) (wdL p.cells (allC p t l)) m) H1a):=fun m=>O4b n2a hw2;have hs:∀c∈l,c∈allC p t l:=fun c hc=>M6a.2 (.inl hc);refine⟨nuZ (allC p t l) (wdL p.cells (allC p t l)) o,nuZ (allC p t l) (wdL p.cells (allC p t l)) n,⟨E0b _ _ _ hw,E0b _ _ _ hw,?_⟩,(T2b hA2 hs).symm,(T2b hA2 hs).symm⟩;rw[(H6b hov (p5c (.inr rfl) hon) _ _).1] at hv ⊢;rw[←hv];have hwf:=(s1a hov).1;have h32:∀(op:Int),op=2∨op=3→∀x,(onE p t).occ op x=true→x∈(onE p t).sup op:=fun op hop x hx=>by
  have:=T3a hop (onE p t) 40 (s1a hov).2.1 (s1a hov).2.2 x hx;exact(e8a hwf hop x).2 ⟨this.1,this.2.1,hx⟩
 exact Z5c hov (hp1 o) (hp1 n) ho hn (fun x hx=>Y4b hA2 (M6a.2 (.inr (.inl (h32 3 (.inr rfl) x hx))))) fun x hx=>Y4b hA2 (M6a.2 (.inr (.inr (h32 2 (.inl rfl) x hx))))
end
theorem K7b(p:o0a)(t:Nat)(ht:t<p.threads.length)(l:List Int)(hr:C1a l)(hlc:∀c∈l,0≤c∧c<p.cells.length)(hl:g3b p t l)(M:List Nat)(w0:World)(cs:List Value)(vl:Value)(hI:InP p M w0 cs)(hL:RdI M w0 vl l):
 C0a prog 22 #[.agg cs.toArray,.int .i64 t,vl] w0 fun v w'=>(∃u,v=.tuple #[u,.int .i64 0]∧H7b w0 w' u l (wdL p.cells l) (M4b p t l) (2 ^ I9b p l))∧Below w0.heap.size w0 w':=by
 obtain⟨h1,h2,h3,h4⟩:=R7a hI.ok hr hlc hl;exact x9a (ht:=ht) (hb6:=h2) p t l hr hlc M w0 cs vl hI hL hl.1 (s6a hI.ok hl.1) _ h1 _ h3 h4 (C9a hI.ok hlc hl.1).2
section
variable {p:o0a} (hp:p1a p) {t:Nat} {l:List Int} (hr:C1a l) (hlc:∀c∈l,0≤c∧c<p.cells.length) (hon:onE p t≠zE)
include hp in
theorem m3d{C:List Int}(h:N2a C p.cells.length):N2a C H1a.length:=⟨h.1,fun c hc=>by have:=h.2 c hc;have:=hp.ncells;rw[o2a];omega⟩
structure k2d (p:o0a) (t:Nat) (l:List Int) (x y:Nat) (o n:List Int):Prop where
 po:z9b o
 pn:z9b n
 val:(onE p t).val o n=1
 evl:(onE p t).evl o n=1
 x:x=nuZ l (wdL p.cells l) o
 y:y=nuZ l (wdL p.cells l) n
include hp hlc hon in
theorem J0c{x y:Nat}(h:M4b p t l x y):∃o n,k2d p t l x y o n:=by
 obtain⟨_,_,⟨-,-,hv⟩,rfl,rfl⟩:=h;have hw2:=K1c hp (Nat.le_refl _) (C9a (l:=l) hp hlc hon);refine⟨_,_,O4b n2a hw2,O4b n2a hw2,?_,hv,rfl,rfl⟩;exact(H6b (s6a hp hon) (p5c (.inr rfl) hon) _ _).1.1 hv
include hp hlc hon in
theorem I2c{q:List Int}(hq:∀c∈q,c∈l)(hrl:C1a l){N K x y:Nat}(hK:K=2 ^ I9b p q)(hqr:C1a q)(h:Clo (M4b p t l) N x y):Clo (M4b p t q) K (nuZ q (wdL p.cells q) (stZ l (wdL p.cells l) x H1a)) (nuZ q (wdL p.cells q) (stZ l (wdL p.cells l) y H1a)):=by
 subst hK;have hqc:∀c∈q,0≤c∧c<p.cells.length:=fun c hc=>hlc c (hq c hc);have hl32:=m3d hp (C:=l) ⟨hrl,hlc⟩;have hwq:=O1d hp (Nat.le_refl _) (C:=q) ⟨hqr,hqc⟩;have lt:∀m,nuZ q (wdL p.cells q) m<2 ^ I9b p q:=fun m=>E0b _ _ _ hwq
 induction h with
 | refl _=>exact .refl (lt _)
 | tail _ h2 _ ih =>
   refine .tail ih ?_ (lt _);obtain⟨_,_,hz⟩:=J0c hp hlc hon h2;rw[hz.x,hz.y,T2b hl32 hq,T2b hl32 hq];exact N3c hp hqc hon hz.po hz.pn hz.evl
end
theorem Y0b{p:o0a}(hp:p1a p){P Q:Nat→Bool}(h:∀k,P k=true→Q k=true):∀n,n≤p.cells.length→Q8a p.cells P n≤Q8a p.cells Q n
 | 0,_=>by simp[Q8a,U1a]
 | n+1,hn=>by
   have ih:=Y0b hp h n (by omega);have hw:=O6b hp (c:=(n:Int)) (by omega);rw[L4a,L4a];by_cases hP:P n=true
   ·rw[if_pos hP,if_pos (h n hP)];omega
   ·rw[if_neg hP]
    split<;>omega
theorem Q8b{p:o0a}(hp:p1a p){t:Nat}{l q:List Int}(hr:C1a l)(hlc:∀c∈l,0≤c∧c<p.cells.length)(b0:C1a q)(hq:∀c∈q,c∈l)(h:g3b p t l):g3b p t q:=by
 have a0:∀c∈q,0≤c∧c<p.cells.length:=fun c hc=>hlc c (hq c hc);refine⟨h.1,?_⟩;rw[←q5b hp b0 a0 h.1];refine Int.le_trans ?_ (q5b hp hr hlc h.1▸h.2:U1a (wdL p.cells (allC p t l))≤6);rw[v2b (C9a hp a0 h.1),v2b (C9a hp hlc h.1)];refine Y0b hp (fun k hk=>?_) _ (Nat.le_refl _);have:=M6a.1 (of_decide_eq_true hk);exact decide_eq_true (M6a.2 (this.imp (hq _) id))
theorem F8b(M:List Nat)(w0:World)(v u i:Value)(C W:List Int)(l:List (Int×Int))(a0:Nat)(hC:RdI M w0 v C)(hW:RdI M w0 u W)(hL:u0b M w0 i l)(h:I9a C W)(hb:U1a W=a0)(hb6:a0≤6)(hl:∀x∈l,0≤x.1∧x.1<(2 ^ a0:Nat)∧0≤x.2∧x.2<(2 ^ a0:Nat))(f1:l.Pairwise lt2):
 C0a prog 35 #[.agg #[v,u,i]] w0 fun v w'=>v=.bool true∧Below w0.heap.size w0 w':=by
 obtain⟨A,n,c,rfl⟩:=hC.form;obtain⟨A',n',c',rfl⟩:=hW.form;obtain⟨Al,nl,cl,rfl⟩:=hL.form;obtain⟨_,-,_⟩:=hL.len;have r1:=h.clen;have d1:=h.len;have S:=St.refl w0;refine a0a func35 Z ntmps35 Z ?_;refine wO0 Z U (p0a S Z ?_);intro g1 w1 S1 X1 G1;refine lO S1.k [.o 0,.o 0] Z ⟨Z,Z,U⟩ (f0a S1 z7b Z Z ((G7a M _ _ _ C W 6 (hC.keep (S1.keep0 M)) (hW.keep (S1.keep0 M)) h (by omega)).mono (fun v w' h=>⟨h.1.trans (by rw[hb]),h.2⟩)) ?_);intro t1 A0 p1;refine lB0 Z U (fun T0=>by exfalso;omega) fun T0=>?_;refine lO0 Z U (f0a A0 h0b Z Z (U5a a0 _) ?_);intro u1 B0 q1;refine lC0 Z U (wL (fun μk D ε w=>D=[]∧∃k:Nat,(k+μk=(l.length))∧St [] w0 w [(some g1,41,[.slice A n c,.slice A' n' c',.slice Al nl cl])]∧Sl ε [(1,.pointer (some ⟨g1,0,none⟩)),(4,.int .i64 ((2 ^ a0:Nat):Int)),(5,.int .i64 k)]) (μ:=(l.length)) ⟨Z,0,by omega,B0,Z⟩ ?_);rintro μk D ε w ⟨rfl,k,_,S,eZ⟩;refine wK eZ (wB S.k [.o 0] Z ⟨Z,U⟩ (fun U0=>?_) fun U0=>?_)
 ·obtain⟨x,D0,i1,H0,y0,g0,_,o0,n0,p0⟩:=RdS.get (hL) (k) (by omega);obtain⟨L0,_⟩:=p0;obtain rfl:H0=[Value.int .i64 x.1,.int .i64 x.2]:=L0;have hx:=hl x (d0a y0);refine lO (S.k.a n0) [.o 0,.x D0 i1,.v 0] Z ⟨⟨Z,o0⟩,⟨g0,by omega⟩,Z,U⟩ (g0a S f5b Z Z ?_);intro g6 w6 S6 X6 G6;refine c0a (kk:=0) (vs:=[_,_]) S6 G4b Z Z Z Z Z Z Z ?_;intro o1 b0 C0;dsimp only[h0a,List.set] at b0;refine lC0 Z U (x0a b0a [0,1,2,3,4,5,6,7,8,9,10,11,12,13,14,15,16,17,18,19,20,21,22,23,24,25,26,27,28,29,30,31,32,33,34,35,36,37,38,39,40,41,42,43,44,45,46,47,48,49,50,51,52,53,54,55,56,57,58,59] [] [] Z (Cl _ _ _ _) (Cl.start b0) ?_);refine r0a O1a Z Z Z ?_;refine i0a y0a Z (fun w1 hw=>by exact hw.1.cell 0 Z Z) Z ?_;refine qB0 Z U (fun V0=>by exfalso;omega) fun V0=>?_;refine qO0 Z U (r0a O1a Z Z Z ?_);refine qO0 Z U (i0a y0a Z (fun w1 hw=>by exact hw.1.cell 0 Z Z) Z ?_);refine qB0 Z U (fun W0=>by exfalso;omega) fun W0=>?_;refine qO0 Z U (r0a O1a Z Z Z ?_);refine qO0 Z U (i0a y0a Z (fun w1 hw=>by exact hw.1.cell 0 Z Z) Z ?_);refine qB0 Z U (fun X0=>by exfalso;omega) fun X0=>?_;refine qO0 Z U (r0a O1a Z Z Z ?_);refine qO0 Z U (i0a y0a Z (fun w1 hw=>by exact hw.1.cell 0 Z Z) Z ?_);refine qB0 Z U (fun Y0=>by exfalso;omega) fun Y0=>?_;refine qB0 Z U (fun Z0=>?_) fun Z0=>?_
  ·refine qO0 Z U (r0a O1a Z Z Z ?_);refine qO0 Z U (i0a y0a Z (fun w1 hw=>by exact hw.1.cell 0 Z Z) Z ?_);obtain⟨y,E0,j1,I0,v0,i0,_,_,d0,q0⟩:=RdS.get (hL) (k-1) (by omega);obtain⟨N0,_⟩:=q0;obtain rfl:I0=[Value.int .i64 y.1,.int .i64 y.2]:=N0;have Q0:((k:Int)-1).toNat=k-1:=by omega
   rw[←Q0] at d0;have s1:=M6b f1 v0 y0;refine qO b0.q [.o 1,.x E0 j1] Z ⟨⟨i0,by omega⟩,by omega,Z,U⟩ (r0a O1a Z Z Z ?_);refine qO0 Z U (i0a y0a Z (fun w1 hw=>by exact hw.1.old (d0 _ _ Z)) Z ?_);refine qB0 Z U (fun a1=>by exfalso;omega) fun a1=>?_;refine qO0 Z U (r0a O1a Z Z Z ?_);refine qO0 Z U (i0a y0a Z (fun w1 hw=>by exact hw.1.cell 0 Z Z) Z ?_);obtain⟨_,F0,m1,J0,t0,j0,_,_,e0,r0⟩:=RdS.get (hL) (k-1) (by omega);obtain rfl:=Option.some.inj (v0.symm.trans t0);obtain⟨O0,_⟩:=r0;obtain rfl:J0=[Value.int .i64 y.1,.int .i64 y.2]:=O0;have R0:((k:Int)-1).toNat=k-1:=by omega
   rw[←R0] at e0;refine qO b0.q [.o 1,.x F0 m1] Z ⟨⟨j0,by omega⟩,by omega,Z,U⟩ (r0a O1a Z Z Z ?_);refine qO0 Z U (i0a y0a Z (fun w1 hw=>by exact hw.1.old (e0 _ _ Z)) Z ?_);refine qB0 Z U (fun b1=>?_) fun b1=>?_
   ·refine qO0 Z U (r0a O1a Z Z Z ?_);refine qO0 Z U (i0a y0a Z (fun w1 hw=>by exact hw.1.cell 0 Z Z) Z ?_);obtain⟨_,G0,n1,K0,u0,m0,_,_,f0,s0⟩:=RdS.get (hL) (k-1) (by omega);obtain rfl:=Option.some.inj (v0.symm.trans u0);obtain⟨P0,_⟩:=s0;obtain rfl:K0=[Value.int .i64 y.1,.int .i64 y.2]:=P0;have S0:((k:Int)-1).toNat=k-1:=by omega
    rw[←S0] at f0;refine qO b0.q [.o 1,.x G0 n1] Z ⟨⟨m0,by omega⟩,by omega,Z,U⟩ (r0a O1a Z Z Z ?_);refine qO0 Z U (i0a y0a Z (fun w1 hw=>by exact hw.1.old (f0 _ _ Z)) Z ?_);refine qB0 Z U (fun c1=>by exfalso;omega) fun c1=>?_;refine qD Z U ?_;rintro z0 ⟨c0,x0⟩;refine lP0 Z ⟨by omega,U⟩ ⟨μk-1,by omega,Z,(k+1),(by omega),c0.tail,Z⟩
   refine qD Z U ?_;rintro z0 ⟨c0,x0⟩;refine lP0 Z ⟨by omega,U⟩ ⟨μk-1,by omega,Z,(k+1),(by omega),c0.tail,Z⟩
  refine qD Z U ?_;rintro z0 ⟨c0,x0⟩;refine lP0 Z ⟨by omega,U⟩ ⟨μk-1,by omega,Z,(k+1),(by omega),c0.tail,Z⟩
 exact lT Z U Z ⟨Z,S.fin⟩
theorem z5a(p:o0a)(tn E0 some_:Int)(E3:0≤tn∧tn≤255)(a3:0≤E0∧E0≤4294967295)(d3:0≤some_∧some_≤4294967295)(w0:World)(cs:List Value)(hP:S0a [] w0 p cs)(X2:x0b p)(hK:k2a [] w0)(hN:q7a [] w0):
 C0a prog 9 #[.agg cs.toArray,.int .u8 tn,.int .u32 E0,.int .u32 some_] w0 fun v w'=>v=.bool true∧Below w0.heap.size w0 w':=by
 obtain⟨mk,rfl⟩:=Int.eq_ofNat_of_zero_le a3.1;obtain⟨sm,rfl⟩:=Int.eq_ofNat_of_zero_le d3.1;have Z0:mk<2 ^ 32:=by omega
 have i1:sm<2 ^ 32:=by omega
 have b3:mk &&& sm<2 ^ 32:=Nat.and_lt_two_pow _ i1;obtain⟨Ac,nc,cc,Am,nm,cm,Al,nl,cl,At,nt,ct,rfl,_⟩:=hP.open_;have S:=St.refl w0;refine a0a func9 Z ntmps9 Z ?_;refine wO0 Z U (p0a S Z ?_);intro g4 w4 S4 X4 G4;refine lO0 Z U (f0a S4 f0d Z Z (j2c _ (hK.keep (S4.keep0 [])) (hN.keep (S4.keep0 []))) ?_);intro N3 u1 y3;refine lO u1.k [.w 0] Z ⟨⟨Z,Z⟩,U⟩ (F9a u1 h1d Z Z (X9b p [] _ _ (hP.keep (u1.keep0 [])) (by simp) X2) (fun S2 o3 q0 I2=>?_) (fun o3 q0 I2=>?_))
 ·refine lB q0.k [.o 0] Z ⟨Z,U⟩ (fun T2=>?_) fun T2=>?_
  ·exact lT Z U Z ⟨Z,q0.fin⟩
  have hI:InP p [] w0 [.slice Ac nc cc,.slice Am nm cm,.slice Al nl cl,.slice At nt ct]:=⟨hP,S2,hK,by simp⟩;have hp:=hI.ok;have n0:=hp.ncells;have D3:=hp.nthreads;refine lO0 Z U (j5b Tryz.underlying5 Tryz.underlying3 Z Z ?_);rw[j6a (by unfold i64;omega)];refine lO q0.k [.o 0] Z ⟨Z,U⟩ (M2d Z Z (by omega) (by omega) Z ?_);obtain⟨t,ht,_⟩:=V7c (a:=tn) (b:=(nt:Int)) (by omega);rw[ht];have W1:t<p.threads.length:=by omega
  refine lO q0.k [.w 0] Z ⟨⟨Z,Z⟩,U⟩ (j0a q0 J4c Z Z (p7a p mk Z0 [] _ _ (hP.keep (q0.keep0 [])) n0) ?_);rintro F3 p3 A0 v1 z3;obtain⟨l,hl⟩:∃l,l=N7b mk p.cells.length:=⟨_,Z⟩;rw[←hl] at A0;obtain⟨_,_,_,rfl⟩:=A0.form;have T0:=A0 [] (by simp);have KS:=w0a.refl [] p3;have H0:C1a l:=hl▸j1c mk p.cells.length;have hlc:∀c∈l,0≤c∧c<p.cells.length:=fun c hc=>by rw[hl] at hc;obtain⟨i,rfl,h1,-⟩:=g2b.1 hc;omega
  refine lOn 8 v1.k [.w 0] Z ⟨⟨Z,Z⟩,U⟩ (V0c (n:=mk) (m:=sm) Z Z Z0 i1 Z ?_);refine j0a v1 J4c Z Z (p7a p (mk &&& sm) b3 [] _ _ (hP.keep (v1.keep0 [])) n0) ?_;rintro v45 q3 B0 x1 J2;replace KS:=KS.trans J2;obtain⟨q,hq⟩:∃q,q=N7b (mk &&& sm) p.cells.length:=⟨_,Z⟩;rw[←hq] at B0;obtain⟨_,_,_,rfl⟩:=B0.form;have I1:=B0 [] (by simp);have KT:=w0a.refl [] q3;have f1:C1a q:=hq▸j1c (mk &&& sm) p.cells.length;have T1:∀c∈q,c∈l:=fun c hc=>by
   rw[hq] at hc;rw[hl];obtain⟨i,rfl,h1,h2⟩:=g2b.1 hc;rw[Nat.testBit_and,Bool.and_eq_true] at h2;exact g2b.2 ⟨i,Z,h1,h2.1⟩
  have b1:∀c∈q,0≤c∧c<p.cells.length:=fun c hc=>hlc c (T1 c hc);refine lO x1.k [.w 0] Z ⟨⟨Z,Z⟩,U⟩ (F9a x1 D9c Z Z (u8b p t W1 l H0 hlc [] _ _ _ (hI.keep (x1.keep0 [])) (T0.keep KS)) (fun q1 r3 K0 z1=>?_) (fun r3 K0 z1=>?_))
  ·replace KS:=KS.trans z1;replace KT:=KT.trans z1;have hon:=(q1).1;have s2:∀c∈p.cells,1≤c.w∧c.w≤8:=fun c hc=>(hp.cells c hc).w;have g1:=Y5a H0 hlc n0 s2;have V1:=Y5a f1 b1 n0 s2;obtain⟨Y2,Z2,-,-⟩:=R7a hp H0 hlc q1;have t2:=Q8b hp H0 hlc f1 T1 q1;obtain⟨_,_,-,-⟩:=R7a hp f1 b1 t2;refine lO K0.k [.w 0] Z ⟨⟨Z,Z⟩,U⟩ (j0a K0 Z6b Z Z (K7b p t W1 l H0 hlc q1 [] _ _ _ (hI.keep (K0.keep0 [])) (T0.keep KS)) ?_);rintro G3 s3 ⟨_,rfl,K1⟩ F2 K2;replace KT:=KT.trans K2;obtain⟨_,_,_,o1,rfl,C0,D0,O1,X1,_,Y0⟩:=K1.get;obtain⟨A1,n1,c1,rfl⟩:=C0.form;obtain⟨A2,n2,c2,rfl⟩:=D0.form;have o0:=O1 [] (by simp);obtain⟨A3,n3,c3,rfl⟩:=o0.form;obtain⟨_,-,_⟩:=o0.len;have a0:=w0a.refl [] s3;refine lO0 Z U (g0a F2 y6a Z Z ?_);intro p2 K3 C2 g2 a2;have I0:=Nat.le_trans KT.size a2;have t0:=Nat.le_trans a0.size a2;replace KT:=KT.trans g2;replace a0:=a0.trans g2;refine c0a (kk:=0) (vs:=[_,_,_]) C2 B6a Z Z Z Z Z Z Z ?_;intro u3 i0 P0;dsimp only[h0a,List.set] at i0;replace KT:=KT.fresh P0 (by exact I0);replace a0:=a0.fresh P0 (by exact t0);refine lO i0.k [.w 1] Z ⟨⟨Z,Z⟩,U⟩ (j0a i0 Z6b Z Z (K7b p t W1 q f1 b1 t2 [] _ _ _ (hI.keep (i0.keep0 [])) (I1.keep KT)) ?_);rintro I3 t3 ⟨_,rfl,M1⟩ G2 L2;replace a0:=a0.trans L2;obtain⟨_,_,_,w2,rfl,U0,V0,P1,_,_,R1⟩:=M1.get;obtain⟨B1,m1,e1,rfl⟩:=U0.form;obtain⟨B2,m2,e2,rfl⟩:=V0.form;have a1:=P1 [] (by simp);obtain⟨B3,m3,e3,rfl⟩:=a1.form;have c0:=w0a.refl [] t3;refine lO0 Z U (g0a G2 y6a Z Z ?_);intro q2 L3 D2 i2 b2;have u0:=Nat.le_trans a0.size b2;have x0:=Nat.le_trans c0.size b2;replace a0:=a0.trans i2;replace c0:=c0.trans i2;refine c0a (kk:=0) (vs:=[_,_,_]) D2 B6a Z Z Z Z Z Z Z ?_;intro x2 e0 r0;dsimp only[h0a,List.set] at e0;replace a0:=a0.fresh r0 (by exact u0);replace c0:=c0.fresh r0 (by exact x0);refine lB0 Z U (fun U2=>by exfalso;omega) fun U2=>?_;refine lB0 Z U (fun V2=>by exfalso;omega) fun V2=>?_;refine lO e0.k [.w 1] Z ⟨⟨Z,Z⟩,U⟩ ?_;have J1:∀x∈o1,0≤x.1∧x.1<(2 ^ I9b p l:Nat)∧0≤x.2∧x.2<(2 ^ I9b p l:Nat):=fun x hx=>by
    obtain⟨y,z,r1,rfl⟩:=(Y0 x).1 hx;have:=r1.lt;simp only;omega
   refine f0a e0 P9c Z Z (F8b [] _ _ _ _ l (wdL p.cells l) o1 (I9b p l) ((C0 [] (by simp)).keep a0) ((D0 [] (by simp)).keep a0) (o0.keep a0) g1 Y2 Z2 J1 X1) ?_;intro O3 f2 o2;replace a0:=a0.trans o2;replace c0:=c0.trans o2;refine lO f2.k [.o 1,.o 1] Z ⟨Z,Z,U⟩ (E0a v1b (vs:=[(0,.slice _ _ _),(1,.slice _ _ _)]) (cs:=[_,_,_]) Z Z Z Z ?_);refine g0a f2 w7a Z Z ?_;intro g17 M3 E2 j2 d2;have v0:=Nat.le_trans a0.size d2;have y0:=Nat.le_trans c0.size d2;replace a0:=a0.trans j2;replace c0:=c0.trans j2;refine c0a (kk:=0) (vs:=[_,_,_]) E2 A7a Z Z Z Z Z Z Z ?_;intro y2 p0 s0;dsimp only[h0a,List.set] at p0;replace a0:=a0.fresh s0 (by exact v0);replace c0:=c0.fresh s0 (by exact y0);refine lC0 Z U (wL (fun μi D ε w=>D=[]∧∃i:Nat,(i+μi=(o1.length))∧(RdI [] w (.slice A1 n1 c1) l)∧(RdI [] w (.slice A2 n2 c2) (wdL p.cells l))∧(u0b [] w (.slice A3 n3 c3) o1)∧(RdI [] w (.slice B1 m1 e1) q)∧(RdI [] w (.slice B2 m2 e2) (wdL p.cells q))∧(u0b [] w (.slice B3 m3 e3) w2)∧St [] w0 w [(some g17,89,[.slice A1 n1 c1,.slice A2 n2 c2,.slice none 0 0]),(some q2,41,[.slice B1 m1 e1,.slice B2 m2 e2,.slice B3 m3 e3]),(some p2,41,[.slice A1 n1 c1,.slice A2 n2 c2,.slice A3 n3 c3]),(some g4,27,[.slice Ac nc cc,.slice Am nm cm,.slice Al nl cl,.slice At nt ct])]∧Sl ε [(9,.bool true),(13,.pointer (some ⟨p2,0,none⟩)),(15,.pointer (some ⟨q2,0,none⟩)),(17,.pointer (some ⟨g17,0,none⟩)),(18,.int .i64 i)]) (μ:=(o1.length)) ⟨Z,0,by omega,(C0 [] (by simp)).keep a0,(D0 [] (by simp)).keep a0,o0.keep a0,(U0 [] (by simp)).keep c0,(V0 [] (by simp)).keep c0,a1.keep c0,p0,Z⟩ ?_);rintro μi D ε w ⟨rfl,i,_,H1,H2,H3,H4,H5,H6,S,eZ⟩;refine wK eZ ?_;have KL:=w0a.refl [] w;refine wB S.k [.o 2] Z ⟨Z,U⟩ (fun W2=>?_) fun W2=>?_
   ·refine lC0 Z U (x0a b0a [0,1,2,3,4,5,6] [7] [8,9] Z (Cl _ _ _ _) (Cl.start S) ?_);obtain⟨x,O2,f3,P2,u2,G1,_,_,N1,U1⟩:=RdS.get (H3) (i) (by omega);obtain⟨Q2,_⟩:=U1;obtain rfl:P2=pc x:=Q2;obtain⟨y,z,r1,rfl⟩:=(Y0 x).1 (d0a u2);have v2:=r1.lt;refine qO S.q [.w 0,.o 2,.x O2 f3] Z ⟨⟨G1,by omega⟩,Z,⟨Z,Z⟩,U⟩ (r0a O1a Z Z Z ?_);refine i0a y0a Z (fun w1 hw=>by exact hw.2.cell List.not_mem_nil (N1 _ _ Z)) Z ?_;refine qN0 Z U (d5a ?_);refine u6b (n:=32) (c:=32) Z Z Q0a Z Z Z ?_;refine f2a ?_;rintro v3 ⟨j0,C1⟩;intro C3 Q1 z2 Y1;dsimp only[J3a];replace KL:=KL.trans C1;clear Y1;replace j0:=j0.push_new S Q1 z2;refine j0a j0 P4c Z Z (b1b l (wdL p.cells l) H1a y [] _ _ _ _ _ (H1.keep KL) (H2.keep KL) g1 v2.1 (x7a (j0.blk 0 Z) (by simp)) o2a n2a) ?_;rintro J3 P3 r2 y1 N2;replace KL:=KL.trans N2;obtain⟨_,_,_,rfl⟩:=r2.form;have G0:=r2 [] (by simp);refine lC0 Z U (x0a b0a [0,1,2,3,4,5,6] [7] [8,9] Z (Cl _ _ _ _) (Cl.start y1) ?_);obtain⟨_,D1,Z1,E1,j1,S0,_,_,W0,d1⟩:=RdS.get ((H3.keep KL)) (i) (by omega);obtain rfl:=Option.some.inj (u2.symm.trans j1);obtain⟨F1,_⟩:=d1;obtain rfl:E1=pc ((y:Int),(z:Int)):=F1;refine qO y1.q [.w 1,.o 3,.x D1 Z1] Z ⟨⟨S0,by omega⟩,Z,⟨Z,Z⟩,U⟩ (r0a O1a Z Z Z ?_);refine i0a y0a Z (fun w1 hw=>by exact hw.2.cell List.not_mem_nil (W0 _ _ Z)) Z ?_;refine qN0 Z U (d5a ?_);refine u6b (n:=32) (c:=32) Z Z Q0a Z Z Z ?_;refine f2a ?_;rintro w3 ⟨m0,Q0⟩;intro R2 X0 s1 p1;dsimp only[J3a];replace KL:=KL.trans Q0;replace G0:=G0.keep (Q0.of_nil);clear p1;replace m0:=m0.push_new y1 X0 s1;refine j0a m0 P4c Z Z (b1b l (wdL p.cells l) H1a z [] _ _ _ _ _ (H1.keep KL) (H2.keep KL) g1 v2.2 (x7a (m0.blk 0 Z) (by simp)) o2a n2a) ?_;rintro g3 h3 R0 t1 L0;replace KL:=KL.trans L0;replace G0:=G0.keep (L0.of_nil);obtain⟨_,_,_,rfl⟩:=R0.form;have F0:=R0 [] (by simp);refine lC0 Z U (G9c b0a (fun i=>[0,1,2,3,6].contains i) [0,1,2,3,4,5,6] (Cl _ _ _ _) (Cl.start t1) ?_);rintro x3 ⟨d0,b0⟩;replace KL:=KL.trans b0;replace G0:=G0.keep (b0.of_nil);replace F0:=F0.keep (b0.of_nil);refine A5a ⟨d0,b0⟩ Z Z Z ?_;refine y2a Y3a Z (fun w1 hw=>hw.1.cells 3 Z) Z Z ?_;refine n0a ?_;refine A5a ⟨d0,b0⟩ Z Z Z ?_;refine y2a Y3a Z (fun w1 hw=>hw.1.cells 3 Z) Z Z ?_;refine n0a ?_;refine A5a ⟨d0,b0⟩ Z Z Z ?_;refine m1a (hv:=Z) (v:=.slice _ _ _) Z ?_;refine n0a ?_;refine A5a ⟨d0,b0⟩ Z Z Z ?_;refine m1a (hv:=Z) (v:=.slice _ _ _) Z ?_;refine n0a ?_;refine N1d ⟨d0,b0⟩ Z Z Z Z ?_;refine f0a d0 t1d Z Z (R0c [] _ _ _ _ _ _ q (wdL p.cells q) (stZ l (wdL p.cells l) y H1a) (stZ l (wdL p.cells l) z H1a) ⟨_,_,_,Z⟩ (H4.keep KL) (H5.keep KL) V1 (by omega) G0 F0 (fun c hc=>by have:=b1 c hc;rw[a8a,o2a];omega) (fun c hc=>by have:=b1 c hc;rw[a8a,o2a];omega) (fun x hx=>(T6a _ _ _ _ g1.wid n2a x hx).1) (fun x hx=>(T6a _ _ _ _ g1.wid n2a x hx).1)) ?_;intro i3 J0 N0;have f0:=b0.trans N0;replace KL:=KL.trans N0;refine W0a ⟨Z,?_⟩;refine N1d ⟨J0,f0⟩ Z Z Z Z ?_;refine f0a J0 e0d Z Z (I2a (r8b [] _ _ _ _ w2 ((nuZ q (wdL p.cells q) (stZ l (wdL p.cells l) y H1a):Nat),(nuZ q (wdL p.cells q) (stZ l (wdL p.cells l) z H1a):Nat)) ⟨_,_,_,_,_,_,Z,Z⟩ (H6.keep KL)) (decide_eq_true ((R1 _).2 ⟨_,_,I2c hp hlc hon T1 H0 Z f1 r1,Z⟩))) ?_;intro j3 z0 O0;have g0:=f0.trans O0;replace KL:=KL.trans O0;refine W0a ⟨Z,?_⟩;refine A5a ⟨z0,g0⟩ Z Z Z ?_;refine E2d Z Z ?_;refine n0a ?_;refine T0c ⟨z0,g0⟩ ?_;refine fP0 Z ⟨by omega,U⟩ ⟨μi-1,by omega,Z,(i+1),(by omega),(H1.keep KL),(H2.keep KL),(H3.keep KL),(H4.keep KL),(H5.keep KL),(H6.keep KL),z0.tail.tail,Z⟩
   exact lT Z U Z ⟨Z,S.fin⟩
  exact lT Z U Z ⟨Z,K0.fin⟩
 exact lT Z U Z ⟨Z,q0.fin⟩
end Go.Fw
