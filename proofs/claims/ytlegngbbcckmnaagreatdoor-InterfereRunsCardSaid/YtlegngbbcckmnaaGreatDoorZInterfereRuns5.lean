/-
  Part 5 of 9 of the proof of InterfereRuns: what it leans on. No conditions.
-/
import Derived.Test.YtlegngbbcckmnaaGreatDoorZInterfereRuns4
set_option maxRecDepth 100000
set_option maxHeartbeats 4000000
namespace Go.Proofs.YtlegngbbcckmnaaGreatDoor
end Go.Proofs.YtlegngbbcckmnaaGreatDoor
namespace Go.Fw
open Go.Proofs.YtlegngbbcckmnaaGreatDoor Go.Proofs Go.RowKit Go.Sort Tryz
def RIs(M:List Nat)(w:World)(cs:List Value)(l:List Int):Prop:=∃A n c,cs=[.slice A n c]∧RdI M w (.slice A n c) l
theorem J2b:c7a RIs 1 where
 len h:=by obtain⟨_,_,_,rfl,_⟩:=h;rfl
 one h u hu:=by obtain⟨_,_,_,rfl,_⟩:=h;simp at hu;subst hu;rfl
 keep hk h:=by obtain⟨A,n,c,rfl,h1⟩:=h;exact⟨A,n,c,Z,h1.keep hk⟩
 more hM h:=by obtain⟨A,n,c,rfl,h1⟩:=h;exact⟨A,n,c,Z,h1.more (by decide) hM⟩
def F5c(C W:List Int)(n:Nat):List (List Int):=(List.range n).map fun k=>stZ C W k D2a
theorem r4c(C W:List Int)(n:Nat):F5c C W (n+1)=F5c C W n++[stZ C W n D2a]:=by
 unfold F5c;rw[List.range_succ,List.map_append];rfl
theorem X9a(C W:List Int)(n:Nat):(F5c C W n).length=n:=by simp[F5c]
theorem j4c{C W:List Int}{n k:Nat}{s:List Int}(h:(F5c C W n)[k]?=some s):s=stZ C W k D2a:=by
 unfold F5c at h;rw[List.getElem?_map] at h;have hk:k<n:=by
  rcases Nat.lt_or_ge k n with h1|h1
  ·exact h1
  ·rw[List.getElem?_eq_none (by simpa using h1)] at h;cases h
 rw[List.getElem?_range hk] at h;simpa using h.symm
def ofR(e:E)(C W:List Int)(n:Nat)(x y:Nat):Prop:=x<n∧y<n∧e.evl (stZ C W x D2a) (stZ C W y D2a)=1
theorem P5d{M:List Nat}{w:World}{g:Nat}{A B:Option Addr}{n c m d:Nat}{a b:List Int}(h1:w.cell? ⟨g,0,none⟩=some (.slice A n c))(h2:w.cell? ⟨g,1,none⟩=some (.slice B m d))(ha:RdI M w (.slice A n c) a)(hb:RdI M w (.slice B m d) b):∀(k:Nat) (h:k<[a,b].length),∃A n c,w.cell? ⟨g,0+k*1,none⟩=some (.slice A n c)∧RdI M w (.slice A n c) [a,b][k]:=fun k hk=>by
 rcases(show k=0∨k=1 by simp at hk;omega) with rfl|rfl
 ·exact⟨_,_,_,h1,ha⟩
 ·exact⟨_,_,_,h2,hb⟩
theorem M5d{M:List Nat}{w:World}{g:Nat}{A B D:Option Addr}{n c m d i f:Nat}{a b q:List Int}(h1:w.cell? ⟨g,0,none⟩=some (.slice A n c))(h2:w.cell? ⟨g,1,none⟩=some (.slice B m d))(h3:w.cell? ⟨g,2,none⟩=some (.slice D i f))(ha:RdI M w (.slice A n c) a)(hb:RdI M w (.slice B m d) b)(hq:RdI M w (.slice D i f) q):∀(k:Nat) (h:k<[a,b,q].length),∃A n c,w.cell? ⟨g,0+k*1,none⟩=some (.slice A n c)∧RdI M w (.slice A n c) [a,b,q][k]:=fun k hk=>by
 rcases(show k=0∨k=1∨k=2 by simp at hk;omega) with rfl|rfl|rfl
 ·exact⟨_,_,_,h1,ha⟩
 ·exact⟨_,_,_,h2,hb⟩
 ·exact⟨_,_,_,h3,hq⟩
theorem M6b(p:List k1a)(C:List Int)(e:E)(M:List Nat)(w0:World)(vc vl:Value)(es:List Value)(hP:j0c M w0 vc p)(hC:RdI M w0 vl C)(hE:RdE M w0 e es)(hr:r2a C)(hc:∀c∈C,0≤c∧c<p.length)(hp:p.length≤32)(hw:∀c∈p,1≤c.w∧c.w≤8)(a0:Nat)(hb:x2a (wdL p C)=a0)(hb6:a0≤6)(hK:B2a M w0)(E2:e.valid p true=true)(d3:e.w=1)(H2:∀x∈e.sup 3,x∈C)(G2:∀x∈e.sup 2,x∈C)(hM:∀g∈M,g<w0.heap.size:=by simp):
 C0a prog 69 #[vc,vl,.agg es.toArray] w0 fun v w'=>(∃a b c m,v=.tuple #[.agg #[a,b,c],.int .i64 0]∧V5a w0 w' a C∧V5a w0 w' b (wdL p C)∧h8b w0 w' c (t1b m 64)∧k5a m (ofR e C (wdL p C) (2 ^ a0)))∧Below w0.heap.size w0 w':=by
 obtain⟨_,_,_,rfl⟩:=hP.form;obtain⟨A,n,c,rfl⟩:=hC.form;obtain⟨Ae,ne,ce,rfl,_⟩:=hE.cells;have ho:=X6a hr hc hp hw;have b3:=ho.clen;have F2:=ho.len;have g3:2 ^ a0≤64:=Nat.pow_le_pow_right (n:=2) (j:=6) (by omega) (by omega);have m3:=F8a e 3;have j3:=F8a e 2;have b1:∀l∈[e.sup 3,e.sup 2],l.length≤1000:=fun l hl=>by
  simp only[List.mem_cons,List.not_mem_nil,or_false] at hl;rcases hl with rfl|rfl<;>omega
 have B0:∀x∈[e.sup 3,e.sup 2].flatten,x∈C:=fun x hx=>by
  simp only[List.flatten_cons,List.flatten_nil,List.append_nil,List.mem_append] at hx;exact hx.elim (H2 x) (G2 x)
 have a1:∀x∈[e.sup 3,e.sup 2].flatten,i64 x:=fun x hx=>hC.i64s x (B0 x hx);have Y0:[e.sup 3,e.sup 2].flatten.length≤140737488355328:=by simp;omega
 have S:=(St.refl w0).nilEnt 28;refine a0a func69 Z ntmps69 Z ?_;refine wO0 Z U (o0a S Z ?_);intro g5 w5 S5 X5 G5;refine g0a S5 r7a Z Z ?_;intro g6 w6 S6 X6 G6;refine lO0 Z U ?_;have Z2:w0.heap.size≤w6.heap.size:=S6.size;have d0:∀g∈[g6],g<w6.heap.size:=fun g hg=>by rw[List.mem_singleton.1 hg];exact S6.lt 0 Z
 refine n0a S6 y3c Z Z (I1b p C M _ _ _ (hP.keep (S6.keep0 M)) (hC.keep (S6.keep0 M)) hr hc hp hw (hK.keep (S6.keep0 M))) ?_;rintro o3 q0 ⟨a,b,rfl,ha,F0⟩ Q1 a2;obtain⟨A1,n1,c1,rfl⟩:=ha.form;obtain⟨A2,n2,c2,rfl⟩:=F0.form;have KQ:=t0a.refl [g6] q0;refine lO0 Z U (g0a Q1 S8a Z Z ?_);intro g8 w8 S8 X8 G8;have H0:=Nat.le_trans KQ.size G8;replace KQ:=KQ.trans (X8.of_nil);refine d0a (kk:=0) (vs:=[_,_,_]) S8 J8a Z Z Z Z Z Z Z ?_;intro S2 c0 L0;dsimp only[i0a,List.set] at c0;replace KQ:=KQ.fresh2 L0 (by exact .inl H0);refine lB0 Z U (fun x2=>by exfalso;omega) fun x2=>?_;refine lO c0.k [.w 2] Z ⟨⟨Z,Z⟩,U⟩ (h0a c0 J5a Z Z ((W2a e M _ _ _ p true (RdE.keep (c0.keep0 M) _ _ hE) (hP.keep (c0.keep0 M)) (hK.keep (c0.keep0 M))).mono (fun v w' h=>⟨h.1.trans (by rw[E2]),h.2⟩)) ?_);intro T2 p0 b2;replace KQ:=KQ.trans (b2.of_nil);refine lB p0.k [.o 2] Z ⟨Z,U⟩ (fun y2=>by exfalso;omega) fun y2=>?_;refine lO p0.k [.w 2] Z ⟨⟨Z,Z⟩,U⟩ ?_;have j2:∀g∈M,g<T2.heap.size:=fun g hg=>Nat.lt_of_lt_of_le (hM g hg) p0.size;refine n0a p0 s9b Z Z (Z4a e M _ _ (RdE.keep (p0.keep0 M) _ _ hE) (hK.keep (p0.keep0 M)) j2) ?_;rintro p3 U2 ⟨_,_,rfl,y0,A0⟩ R1 d2;replace KQ:=KQ.trans (d2.of_nil);obtain⟨A3,n3,c3,rfl⟩:=y0.form;obtain⟨A4,n4,c4,rfl⟩:=A0.form;have KS:=t0a.refl M U2;refine lO0 Z U (m0a R1 P0b (vs:=[.slice _ _ _,.slice _ _ _]) (cs:=[_,_]) Z Z Z Z Z Z ?_);intro v0 V2 D0 C1 o1;have r1:=Nat.le_trans KQ.size o1;have x1:=Nat.le_trans KS.size o1;replace KQ:=KQ.trans (C1.of_nil);replace KS:=KS.trans (C1.of_nil);have m2:∀g∈M,g<V2.heap.size:=fun g hg=>Nat.lt_of_lt_of_le (hM g hg) D0.size;refine n0a D0 Q7c Z Z (s8b (hbig:=Y0) (M:=M) (S5b M _ v0 [e.sup 3,e.sup 2] b1 (by simp) (P5d (D0.cell 0 Z Z) (D0.cell 0 Z Z) (y0.keep KS) (A0.keep KS))) m2 a1) ?_;rintro q3 N1 X0 T1 e2;replace KQ:=KQ.trans (e2.of_nil);obtain⟨A5,n5,c5,rfl⟩:=X0.form;obtain⟨_,-,_⟩:=X0.len;have KC:=t0a.refl M N1;refine lC0 Z U (wL (fun μk D ε w=>D=[]∧∃k:Nat,(k+μk=(([e.sup 3,e.sup 2].flatten).length))∧(t0a [g6] q0 w)∧(t0a M N1 w)∧St [] w0 w [(some v0,28,[.slice A3 n3 c3,.slice A4 n4 c4]),(some g8,89,[.slice A1 n1 c1,.slice A2 n2 c2,.slice none 0 0]),(some g6,41,[.slice none 0 0,.slice none 0 0,.slice none 0 0]),(some g5,37,[.int .i64 e.op,.int .i64 e.w,.int .i64 e.n,.slice Ae ne ce]),(none,28,[])]∧Sl ε [(1,.slice A n c),(5,.pointer (some ⟨g5,0,none⟩)),(6,.pointer (some ⟨g6,0,none⟩)),(8,.pointer (some ⟨g8,0,none⟩)),(48,.slice A5 n5 c5),(49,.int .i64 n5),(50,.int .i64 k)]) (μ:=(([e.sup 3,e.sup 2].flatten).length)) ⟨Z,0,by omega,KQ,KC,T1,Z⟩ ?_);rintro μk D ε w ⟨rfl,k,hk,KQ,KC,S,eZ⟩;refine wK eZ (wB0 Z U (fun z2=>?_) fun z2=>?_)
 ·obtain⟨x,p2,O2,_,L2,P0,_,_,U0,d1⟩:=RdS.get ((X0.keep KC)) (k) (by omega);obtain⟨rfl,_⟩:=id d1;have I2:x∈C:=B0 x (e0a L2);refine lO (S.k.b U0) [.x p2 O2,.f 0 0] Z ⟨Z,⟨P0,by omega⟩,U⟩ (h0a S O3c Z Z ((Z8a M _ _ C x (hC.keep (S.keep0 M))).mono (fun v w' h=>⟨h.1.trans (by rw[decide_eq_true I2]),h.2⟩)) ?_);intro s3 U1 D1;replace KQ:=KQ.trans (D1.of_nil);replace KC:=KC.trans (D1.of_nil);refine lP0 Z ⟨by omega,U⟩ ⟨μk-1,by omega,Z,(k+1),(by omega),(KQ),(KC),U1,Z⟩
 refine lO0 Z U (m4a (n:=32) (c:=32) S R0a Z Z Z Z ?_);intro E0 t3 J0 f2 P1;have s1:=Nat.le_trans KQ.size P1;replace KQ:=KQ.trans (f2.of_nil);refine lOn 5 J0.k [] Z U (A0a Z ?_);refine lO J0.k [.o 2] Z ⟨Z,U⟩ (h0a J0 L8a Z Z ((O6a [] _ _ _ (F0.at_ KQ d0) ho.wid).mono (fun v w' h=>⟨h.1.trans (by rw[hb]),h.2⟩)) ?_);intro u3 V1 g2;replace KQ:=KQ.trans (g2.of_nil);refine t2b (n:=a0) Z Z ?_;refine lC0 Z U (wL (fun μk D ε w=>D=[]∧∃k:Nat,∃G:Option Nat,∃u0:List Value,∃v:Value,(k+μk=((2 ^ a0)))∧(V1a RIs 1 [g6] w G u0 v (F5c C (wdL p C) k))∧(∀g∈G.toList,q0.heap.size≤g)∧(t0a [g6] q0 w)∧St [] w0 w [(some E0,3,(List.replicate 32 (.int .i64 0))),(some v0,28,[.slice A3 n3 c3,.slice A4 n4 c4]),(some g8,89,[.slice A1 n1 c1,.slice A2 n2 c2,.slice none 0 0]),(some g6,41,[.slice none 0 0,.slice none 0 0,.slice none 0 0]),(some g5,37,[.int .i64 e.op,.int .i64 e.w,.int .i64 e.n,.slice Ae ne ce]),(G,28,u0)]∧Sl ε [(5,.pointer (some ⟨g5,0,none⟩)),(6,.pointer (some ⟨g6,0,none⟩)),(8,.pointer (some ⟨g8,0,none⟩)),(14,.slice (some ⟨E0,0,none⟩) 32 32),(15,v),(64,.int .i64 ((2 ^ a0:Nat):Int)),(65,.int .i64 k)]) (μ:=((2 ^ a0))) ⟨Z,0,none,[],.slice none 0 0,by omega,V1a.nil,(by simp),KQ,V1,Z⟩ ?_);rintro μk D ε w ⟨rfl,k,G,u0,v,hk,n0,Z0,KQ,S,eZ⟩;refine wK eZ ?_;have KR:=t0a.refl (G.toList++[g6]) w;refine wB0 Z U (fun B2=>?_) fun B2=>?_
 ·refine lOn 15 S.k [] Z U (H0a Z ?_);refine lO S.k [.w 2] Z ⟨⟨Z,Z⟩,U⟩ ?_;have S0:∀g∈G.toList++[g6],g<w.heap.size:=fun g hg=>by
   rcases List.mem_append.1 hg with h|h
   ·obtain⟨t,cs,hh⟩:=j4b S 5 Z g h;exact hh.lt
   ·rw[List.mem_singleton.1 h];exact S.lt 3 Z
  refine n0a S I6b Z Z (R8a C (wdL p C) D2a k [] _ _ _ _ _ (ha.at_ KQ d0) (F0.at_ KQ d0) ho (by omega) (U3b (S.blk 0 Z) List.not_mem_nil) M4a E5a) ?_;rintro v72 W2 J1 W1 E1;replace KQ:=KQ.trans (E1.of_nil);replace KR:=KR.trans (E1.of_nil);obtain⟨_,_,_,rfl⟩:=J1.form;have KT:=t0a.refl (G.toList++[g6]) W2;refine m0a W1 P0b (vs:=[.slice _ _ _]) (cs:=[_]) Z Z Z Z Z Z ?_;intro a3 v3 z1 N0 G0;have t1:=Nat.le_trans KQ.size G0;have v1:=Nat.le_trans KR.size G0;have y1:=Nat.le_trans KT.size G0;replace KQ:=KQ.trans (N0.of_nil);replace KR:=KR.trans (N0.of_nil);replace KT:=KT.trans (N0.of_nil);have C0:=n0.keep J2b KR;have o2:=KQ.size;refine i1a J2b (k:=6) (M2:=[g6]) (e1:=stZ C (wdL p C) k D2a) z1 P0b Z C0 Z Z (z1.cells 0 Z) ⟨_,_,_,Z,(J1 _ S0).keep KT⟩ (by rw[X9a];omega) Z ?_;intro r3 Y2 u2 w3 Y1 o0 i2 O1;replace KQ:=KQ.freshL i2 (fun g hg=>.inl (Z0 g hg));refine A0a Z ?_;refine lP0 Z ⟨by omega,U⟩ ?_;refine⟨μk-1,by omega,Z,(k+1),(_),(_),(_),(by omega),((by rw[r4c];exact o0)),((fun g hg=>by rcases O1 g hg with h|h;exact Z0 g h;exact Nat.le_trans o2 h)),(KQ),Y1.tail,Z⟩
 obtain rfl:k=2 ^ a0:=by omega
 obtain⟨wa,KA,z0⟩:∃wa,t0a [g6] wa w∧RdS [g6] wa 1 (RIs [g6] wa) v (F5c C (wdL p C) (2 ^ a0)):=⟨w,t0a.refl _ _,n0.rd J2b S (k:=5) Z (fun g hg hm=>by have h1:=Z0 g (by rw[hg];simp);have h2:=d0 g hm;have h3:=a2.size;omega) (by rw[X9a];omega)⟩;obtain⟨Aa,ca,K1⟩:=n0.form;rw[X9a] at K1;subst K1;have e3:=X9a C (wdL p C) (2 ^ a0);refine lO0 Z U (G0a (vs:=[]) (cs:=mW j8a) R4d Z Z Z Z ?_);refine o0a (hv:=Z) (cs:=mW j8a) S Z ?_;intro x0 x3 B1 F1 p1;have u1:=Nat.le_trans KQ.size p1;have q1:=Nat.le_trans KA.size p1;replace KQ:=KQ.trans F1.of_nil;replace KA:=KA.trans F1.of_nil;refine lOn 6 B1.k [] Z U (H0a Z ?_);refine lC0 Z U (wL (fun μx D ε w=>D=[]∧∃x:Nat,∃m:List Nat,(x+μx=((2 ^ a0)))∧(k5a m (fun a b=>a<x∧ofR e C (wdL p C) (2 ^ a0) a b))∧(t0a [g6] q0 w)∧(t0a [g6] wa w)∧St [] w0 w [(some x0,173,mW m),(some E0,3,(List.replicate 32 (.int .i64 0))),(some v0,28,[.slice A3 n3 c3,.slice A4 n4 c4]),(some g8,89,[.slice A1 n1 c1,.slice A2 n2 c2,.slice none 0 0]),(some g6,41,[.slice none 0 0,.slice none 0 0,.slice none 0 0]),(some g5,37,[.int .i64 e.op,.int .i64 e.w,.int .i64 e.n,.slice Ae ne ce]),(G,28,u0)]∧Sl ε [(5,.pointer (some ⟨g5,0,none⟩)),(6,.pointer (some ⟨g6,0,none⟩)),(8,.pointer (some ⟨g8,0,none⟩)),(15,.slice Aa (2 ^ a0) ca),(17,.pointer (some ⟨x0,0,none⟩)),(79,.int .i64 ((2 ^ a0:Nat):Int)),(80,.int .i64 x)]) (μ:=((2 ^ a0))) ⟨Z,0,j8a,by omega,k5a.zero.congr (fun a b _ _=>⟨fun h=>h.elim,fun h=>by omega⟩),KQ,KA,B1,Z⟩ ?_);rintro μx D ε w ⟨rfl,x,m,hx,hm,KQ,KA,S,eZ⟩;refine wK eZ (wB0 Z U (fun C2=>?_) fun C2=>?_)
 ·refine lC0 Z U (wL (fun μy D ε w=>D=[]∧∃y:Nat,∃m:List Nat,(y+μy=((2 ^ a0)))∧(k5a m (fun a b=>(a<x∨(a=x∧b<y))∧ofR e C (wdL p C) (2 ^ a0) a b))∧(t0a [g6] q0 w)∧(t0a [g6] wa w)∧St [] w0 w [(some x0,173,mW m),(some E0,3,(List.replicate 32 (.int .i64 0))),(some v0,28,[.slice A3 n3 c3,.slice A4 n4 c4]),(some g8,89,[.slice A1 n1 c1,.slice A2 n2 c2,.slice none 0 0]),(some g6,41,[.slice none 0 0,.slice none 0 0,.slice none 0 0]),(some g5,37,[.int .i64 e.op,.int .i64 e.w,.int .i64 e.n,.slice Ae ne ce]),(G,28,u0)]∧Sl ε [(5,.pointer (some ⟨g5,0,none⟩)),(6,.pointer (some ⟨g6,0,none⟩)),(8,.pointer (some ⟨g8,0,none⟩)),(15,.slice Aa (2 ^ a0) ca),(17,.pointer (some ⟨x0,0,none⟩)),(18,.int .i64 x),(79,.int .i64 ((2 ^ a0:Nat):Int)),(80,.int .i64 x),(84,.int .i64 ((2 ^ a0:Nat):Int)),(85,.int .i64 y)]) (μ:=((2 ^ a0))) ⟨Z,0,m,by omega,hm.congr (fun a b _ _=>⟨fun h=>⟨.inl h.1,h.2⟩,fun h=>⟨by omega,h.2⟩⟩),KQ,KA,S,Z⟩ ?_);rintro μy D ε w ⟨rfl,y,m,_,hm,KQ,KA,S,eZ⟩;refine wK eZ (wB0 Z U (fun D2=>?_) fun D2=>?_)
  ·refine lC0 Z U (x0a b0a [0,1,2,3,4,5,6,7,8,9,10] [] [] Z (Cl _ _ _ _) (Cl.start S) ?_);obtain⟨_,q2,P2,s2,J2,Q0,_,_,V0,f1⟩:=RdS.get ((z0.keep KA)) (x) (by omega);obtain⟨Ax,nx,cx,v2,hX⟩:=f1;obtain rfl:s2=[Value.slice Ax nx cx]:=v2;obtain rfl:=j4c J2;obtain⟨t,r2,Q2,t2,K2,R0,_,_,W0,g1⟩:=RdS.get ((z0.keep KA)) (y) (by omega);obtain⟨Ay,ny,cy,w2,hY⟩:=g1;obtain rfl:t2=[Value.slice Ay ny cy]:=w2;obtain rfl:=j4c K2;refine qO ((S.q.b W0).b V0) [.w 5,.x q2 P2,.f 0 0,.x r2 Q2,.f 1 0] Z ⟨Z,⟨R0,by omega⟩,Z,⟨Q0,by omega⟩,⟨Z,Z⟩,U⟩ (f1a q7c Z Z (fun w1 S1 X1=>P2c e [] _ _ _ _ _ _ (RdE.less (by simp) _ _ (RdE.keep (S1.keep0 M) _ _ hE)) ⟨List.not_mem_nil,(hK.keep (S1.keep0 M)).2⟩ ((hX.keep (KA.trans X1.of_nil)).less (by simp)) ((hY.keep (KA.trans X1.of_nil)).less (by simp))) ?_);refine qB0 Z U (fun O0=>?_) fun O0=>?_
   ·refine qD Z U ?_;rintro m1 ⟨j0,g0⟩;replace KQ:=KQ.trans (g0.of_nil);replace KA:=KA.trans (g0.of_nil);have f3:=(hm.at_ (x:=x) (by omega)).2;have i3:(2:Nat) ^ y<2 ^ 64:=Nat.pow_lt_pow_right (by omega) (by omega);have N2:=hm.cell0 (x:=x) (by omega);refine lC0 Z U (x0a b0a [0,1,2,3,4,5,6,7,8,9] [] [10] Z (Cl _ _ _ _) (Cl.start j0) ?_);refine qO0 Z U (F0a Z3a Z Z Z ?_);refine k0a V4a Z (fun w1 hw=>by exact hw.1.cell 0 Z N2) Z ?_;refine qO0 Z U (v9b (n:=y) Z Z ?_);refine E5c Z Z (by assumption) (by assumption) Z ?_;refine qO0 Z U (F0a Z3a Z Z Z ?_);refine qD Z U ?_;rintro X2 ⟨K0,t0⟩;replace KQ:=KQ.trans (t0.of_nil);replace KA:=KA.trans (t0.of_nil);refine j1a (hy:=Z) (kk:=0) (v:=uV (m.getD x 0 ||| 2 ^ y)) K0 F1b Z Z Z (by rw[H4b,hm.len];simp;omega) ?_;intro j1 b0 f0;rw[M4b,show 0+(x:Int).toNat*1=x by simp] at b0;dsimp only[List.set] at b0;replace KQ:=KQ.fresh2 f0 (.inl (by assumption));replace KA:=KA.fresh2 f0 (.inl (by assumption));refine lP0 Z ⟨by omega,U⟩ ⟨μy-1,by omega,Z,(y+1),(_),(by omega),?_,(KQ),(KA),b0,Z⟩;refine(hm.bit1 (x:=x) (y:=y) (by omega) (by omega)).congr fun a b _ _=>?_;constructor
    ·rintro(h|⟨rfl,rfl⟩)
     ·exact⟨by omega,h.2⟩
     ·exact⟨by omega,by omega,by omega,O0⟩
    ·intro h;by_cases T0:a=x∧b=y
     ·exact .inr T0
     ·exact .inl ⟨by omega,h.2⟩
   refine qD Z U ?_;rintro m1 ⟨j0,g0⟩;replace KQ:=KQ.trans (g0.of_nil);replace KA:=KA.trans (g0.of_nil);refine lP0 Z ⟨by omega,U⟩ ⟨μy-1,by omega,Z,(y+1),(_),(by omega),?_,(KQ),(KA),j0,Z⟩;refine hm.congr fun a b _ _=>?_;constructor
   ·exact fun h=>⟨by omega,h.2⟩
   ·intro h;by_cases T0:a=x∧b=y
    ·obtain⟨rfl,rfl⟩:=T0;exact absurd h.2.2.2 O0
    ·exact⟨by omega,h.2⟩
  refine lP0 Z ⟨by omega,U⟩ ⟨μx-1,by omega,Z,(x+1),(m),(by omega),?_,(KQ),(KA),S,Z⟩;exact hm.congr fun a b _ _=>⟨fun h=>⟨by omega,h.2⟩,fun h=>⟨by have:=h.2.2.1;omega,h.2⟩⟩
 refine lO S.k [.o 3,.o 3] Z ⟨Z,Z,U⟩ ?_;have m0:w0.heap.size≤w.heap.size:=S.size;have i0:∀g∈[g6],g<w.heap.size:=fun g hg=>by rw[List.mem_singleton.1 hg];exact S.lt 4 Z
 refine n0a S B6b Z Z (j6a C (wdL p C) m _ hm [] _ _ _ x0 (ha.at_ KQ d0) (F0.at_ KQ d0) (S.blk 0 Z)) ?_;rintro R2 i1 ⟨_,_,_,rfl,G1,H1,I1⟩ I0 Z1;obtain⟨_,_,_,rfl⟩:=G1.form;obtain⟨_,_,_,rfl⟩:=H1.form;obtain⟨_,_,_,rfl⟩:=I1.form;have r0:=t0a.refl [g6] i1;refine d0a (kk:=4) (vs:=[_,_,_]) I0 y7a Z Z Z Z Z Z Z ?_;intro M1 e0 s0;dsimp only[i0a,List.set] at e0;replace r0:=r0.fresh2 s0 (by exact .inr (by simp));refine lR0 Z U ?_;exact i2a (n:=3) Z D4a Z (e0.cells 4 Z) Z Z ⟨⟨_,_,_,m,Z,G1.later r0 i0 m0,H1.later r0 i0 m0,I1.later r0 i0 m0,hm.congr fun a b _ _=>⟨fun h=>h.2,fun h=>⟨by have:=h.1;omega,h⟩⟩⟩,e0.fin⟩
def slQ(u:Value):Prop:=∃A n c,u=.slice A n c
theorem a5c:∃u,slQ u:=⟨.slice none 0 0,none,0,0,Z⟩
def b5d(l:List Int)(u:Value)(w:World):Prop:=RdI [] w u l
theorem r2c(l:List Int):∀u w w',t0a [] w w'→b5d l u w→b5d l u w':=fun _ _ _ hk h=>RdS.keep h hk
theorem p0a.same{w w':World}{b:Blk}(h:p0a w b)(e:w'.heap[b.1]?=w.heap[b.1]?):p0a w' b:=e.trans h
def prj(Ca Wa C W:List Int)(p:Int×Int):Int×Int:=((nuZ C W (stZ Ca Wa p.1.toNat D2a):Nat),(nuZ C W (stZ Ca Wa p.2.toNat D2a):Nat))
theorem x4c{Ca Wa C W:List Int}(hw:∀x∈W,1≤x∧x≤8){a0:Nat}(hb:x2a W=a0)(p:Int×Int):0≤(prj Ca Wa C W p).1∧(prj Ca Wa C W p).1<(2 ^ a0:Nat)∧0≤(prj Ca Wa C W p).2∧(prj Ca Wa C W p).2<(2 ^ a0:Nat):=by
 have h1:=s0b C W (stZ Ca Wa p.1.toNat D2a) hw;have h2:=s0b C W (stZ Ca Wa p.2.toNat D2a) hw;rw[hb,Int.toNat_natCast] at h1 h2;unfold prj;simp only;omega
theorem A0c(A1 A2 A3 B1 B2 B3:Option Addr)(n1 c1 n2 c2 n3 c3 m1 d1 m2 d2 m3 d3:Nat)(w0:World):C0a prog 71 #[.agg #[.slice A1 n1 c1,.slice A2 n2 c2,.slice A3 n3 c3],.agg #[.slice B1 m1 d1,.slice B2 m2 d2,.slice B3 m3 d3]] w0 fun v w'=>(∃ga gb,v=.func (.func 127) #[] #[.pointer (some ⟨ga,0,none⟩),.pointer (some ⟨gb,0,none⟩)]∧w0.heap.size≤ga∧w0.heap.size≤gb∧p0a w' (ga,41,[.slice A1 n1 c1,.slice A2 n2 c2,.slice A3 n3 c3])∧p0a w' (gb,89,[.slice B1 m1 d1,.slice B2 m2 d2,.slice B3 m3 d3]))∧Below w0.heap.size w0 w':=by
 have S:=St.refl w0;refine a0a func71 Z ntmps71 Z ?_;refine wO0 Z U (o0a S Z ?_);intro g2 w2 S2 X2 G2;refine o0a S2 Z ?_;intro g3 w3 S3 X3 G3;refine lO0 Z U (K1a Z Z ?_);refine lR0 Z U (r0a Z ?_);exact⟨⟨g2,g3,Z,by simpa using S3.new 1 Z,by simpa using S3.new 0 Z,S3.blk 1 Z,S3.blk 0 Z⟩,S3.fin⟩
theorem q2c(Ca Wa C W:List Int)(n:Nat)(gp gw gb tp tw tb gz tz:Nat)(w0:World)(v u i v' u' i':Value)(hp:p0a w0 (gp,tp,[v,u,i]))(hw:p0a w0 (gw,tw,[v',u',i']))(hb:p0a w0 (gb,tb,[.slice (some ⟨gz,0,none⟩) 32 32]))(hz:p0a w0 (gz,tz,List.replicate 32 (.int .i64 0)))
 (hC:RdI [] w0 v C) (hW:RdI [] w0 u W) (e0:RdI [] w0 v' Ca) (f0:RdI [] w0 u' Wa) (ho:v1b C W) (i0:v1b Ca Wa) (p0:x2a Wa≤12) (hi:slQ i) (n0:slQ i') (hn:n<4096:=by omega) (hs:x2a W≤12:=by omega) :
 C0a prog 128 #[.int .i64 n,.pointer (some ⟨gp,0,none⟩),.pointer (some ⟨gw,0,none⟩),.pointer (some ⟨gb,0,none⟩)] w0 fun x w'=>x=.int .i64 (nuZ C W (stZ Ca Wa n D2a):Nat)∧Below w0.heap.size w0 w':=by
 obtain⟨A,nc,c,rfl⟩:=hC.form;obtain⟨A',nw,c',rfl⟩:=hW.form;obtain⟨B,mc,d,rfl⟩:=e0.form;obtain⟨B',mw,d',rfl⟩:=f0.form;obtain⟨I,ni,ci,rfl⟩:=hi;obtain⟨I',j0,d0,rfl⟩:=n0;have S:=St.refl w0;have cp:Cells w0 gp 0 [.slice A nc c,.slice A' nw c',.slice I ni ci]:=fun j v hj=>by rw[Nat.zero_add];exact hp.cell hj
 have cw:Cells w0 gw 0 [.slice B mc d,.slice B' mw d',.slice I' j0 d0]:=fun j v hj=>by rw[Nat.zero_add];exact hw.cell hj
 have cb:w0.cell? ⟨gb,0,none⟩=some (.slice (some ⟨gz,0,none⟩) 32 32):=hb.cell Z;have q0:=U3b (M:=[]) hz List.not_mem_nil;have b0:=fun x hx=>(Q2b Ca Wa n D2a i0.wid E5a x hx).1;have o0:(stZ Ca Wa n D2a).length=32:=by rw[V7b,M4a]
 refine a0a func128 Z ntmps128 Z ?_;refine wC0 Z U (R7b b0a [0,1,2,3,4] 5 (Cl _ _ _ _) (Cl.start S) (fun i=>if i=4 then some (126,#[.agg #[.slice B mc d,.slice B' mw d',.slice I' j0 d0],.int .i64 n,.slice (some ⟨gz,0,none⟩) 32 32],slQ,b5d (stZ Ca Wa n D2a)) else none) ?_ _ Z ?_)
 ·intro i f a Qp Qw hi;by_cases g0:i=4
  ·subst g0;cases hi;exact⟨a5c,r2c _,fun w hC=>(R8a (hn:=hn) Ca Wa D2a n [] w _ _ _ _ (e0.keep hC.2) (f0.keep hC.2) i0 p0 (q0.keep hC.2) M4a E5a).mono (fun u w' hr=>⟨⟨hr.1.form,hr.1 [] (by simp)⟩,hC.later hr.2⟩)⟩
  ·simp only[g0,if_false] at hi;cases hi
 refine G0c Z Z ?_;refine H1a r6a Z (fun w1 hw=>cp.keep (hw.1.keep0 []) List.not_mem_nil) (by rfl) Z ?_;refine c0a ?_;refine G0c Z Z ?_;refine H1a r6a Z (fun w1 hw=>cw.keep (hw.1.keep0 []) List.not_mem_nil) (by rfl) Z ?_;refine c0a ?_;refine G0c Z Z ?_;refine M0a (hv:=Z) (v:=.int .i64 _) Z ?_;refine c0a ?_;refine G0c Z Z ?_;refine k0a j4a Z (fun w1 hw=>by first|exact hw.2.cell (List.not_mem_nil) cb) Z ?_;refine c0a ?_;refine q8b (caps:=#[]) I6b Z Z Z Z Z Z ?_;rintro s0 ⟨_,_,_,rfl⟩;refine w4c ?_;rintro u0 ⟨a0,_⟩ ⟨-,c0⟩;refine k7a ?_;refine h0a a0 W8c Z Z (K6b C W (stZ Ca Wa n D2a) [] _ _ _ _ _ (hC.keep (a0.keep0 [])) (hW.keep (a0.keep0 [])) ho hs c0 o0 b0) ?_;intro t0 m0 r0;refine s0a ⟨Z,?_⟩;refine k7a ?_;refine A0a (hv:=Z) (v:=.int .i64 _) Z ?_;refine s0a ⟨Z,?_⟩;refine Y0c ?_;refine fR0 Z U (r0a Z ?_);exact⟨Z,m0.fin⟩
structure E2d (l:Nat) (Bs:List Nat) (w0:World) (J:List Nat→List (Int×Int)→World→Prop):Prop where
 start:∀Ps w,Below w0.heap.size w0 w→(∀g∈Ps,w0.heap.size≤g∧g<w.heap.size)→J Ps [] w
 own:∀Ps k w w',J Ps k w→Below w.heap.size w w'→J Ps k w'
 keep:∀Ps k w,J Ps k w→t0a Bs w0 w
 each:∀Ps k w a,J Ps k w→k.length+1≤4096→(0≤a.1∧a.1<64∧0≤a.2∧a.2<64)→Yld prog l #[.agg #[.int .i64 a.1,.int .i64 a.2]] w fun u w'=>u=.bool true∧J Ps (k++[a]) w'∧∀g∈Ps,w'.heap[g]?=w.heap[g]?
theorem o7b(Ca Wa C W:List Int)(li:List (Int×Int))(b0 l ga gb ta tb:Nat)(Bs:List Nat)(w0:World)(J:List Nat→List (Int×Int)→World→Prop)(v u i v' u' i':Value)(ha:p0a w0 (ga,ta,[v',u',i']))(hb:p0a w0 (gb,tb,[v,u,i]))(_:ga∉Bs)(a1:gb∉Bs)
 (hC:RdI Bs w0 v C) (hW:RdI Bs w0 u W) (G0:RdI Bs w0 v' Ca) (I0:RdI Bs w0 u' Wa) (hL:h4b Bs w0 i' li) (ho:v1b C W) (L0:v1b Ca Wa) (hs:x2a W=b0) (p1:b0≤6) (O0:x2a Wa≤12) (hi:slQ i) (b1:∀x∈li,0≤x.1∧x.1<4096∧0≤x.2∧x.2<4096) (n1:li.length≤4096) (hJ:E2d l Bs w0 J) :
 C0a prog 127 #[.func (.yield l) #[] #[],.pointer (some ⟨ga,0,none⟩),.pointer (some ⟨gb,0,none⟩)] w0 fun _ w'=>∃Ps,J Ps (li.map (prj Ca Wa C W)) w':=by
 obtain⟨A,nc,c,rfl⟩:=G0.form;obtain⟨A',nw,c',rfl⟩:=I0.form;obtain⟨I',q0,r0,rfl⟩:=hL.form;obtain⟨_,-,_⟩:=hL.len;have o1:2 ^ b0≤64:=Nat.pow_le_pow_right (n:=2) (j:=6) (by omega) (by omega);have S:=St.refl w0;have cA:Cells w0 ga 0 [.slice A nc c,.slice A' nw c',.slice I' q0 r0]:=fun j v hj=>by rw[Nat.zero_add];exact ha.cell hj
 have m1:[Value.slice A nc c,.slice A' nw c',.slice I' q0 r0].length=3:=Z;refine a0a func127 Z ntmps127 Z ?_;refine wO (S.k.a cA) [.f 0 0,.f 0 1] Z ⟨Z,Z,U⟩ (G0a T5b (vs:=[(0,.slice _ _ _),(1,.slice _ _ _)]) (cs:=[_,_,_]) Z Z Z Z ?_);refine g0a S S8a Z Z ?_;intro g4 w4 S4 X4 G4
 first|refine d0a (kk:=0) (vs:=[_,_,_]) S4 J8a Z Z Z Z Z Z Z ?_
 intro d1 i0 R0;dsimp only[i0a,List.set] at i0;refine lO0 Z U (m4a (n:=32) (c:=32) i0 R0a Z Z Z Z ?_);intro c0 r1 Q0 j1 i1;refine g0a Q0 U4d Z Z ?_;intro g5 w5 S5 X5 G5;refine j1a (kk:=0) S5 t3c Z Z Z (by exact Nat.le_of_ble_eq_true Z) ?_;intro f1 a0 S0;refine lO0 Z U (K1a Z Z ?_);refine lCn 4 a0.k [] Z U ?_;have Y0:=hJ.start [g4,c0,g5] _ a0.fin (fun g hg=>by
  simp only[List.mem_cons,List.not_mem_nil,or_false] at hg;rcases hg with rfl|rfl|rfl
  ·exact⟨by simpa using a0.new 2 Z,a0.lt 2 Z⟩
  ·exact⟨by simpa using a0.new 1 Z,a0.lt 1 Z⟩
  ·exact⟨by simpa using a0.new 0 Z,a0.lt 0 Z⟩)
 refine wC (a0.k.a cA) [.f 0 2] Z ⟨Z,U⟩ (wL (fun μ D ε w=>D=[]∧∃k:Nat,(k+μ=li.length)∧(J [g4,c0,g5] ((li.take k).map (prj Ca Wa C W)) w)∧(p0a w (g4,89,[.slice A nc c,.slice A' nw c',.slice none 0 0]))∧(p0a w (c0,3,List.replicate 32 (.int .i64 0)))∧(p0a w (g5,28,[.slice (some ⟨c0,0,none⟩) 32 32]))∧ε 0=.func (.yield l) #[] #[]∧ε 6=.func (.func 128) #[] #[.pointer (some ⟨gb,0,none⟩),.pointer (some ⟨g4,0,none⟩),.pointer (some ⟨g5,0,none⟩)]∧ε 17=.slice I' q0 r0∧ε 18=.int .i64 q0∧ε 19=.int .i64 k) (μ:=li.length) ⟨Z,0,by omega,Y0,a0.blk 2 Z,a0.blk 1 Z,a0.blk 0 Z,Z,Z,Z,Z,Z⟩ ?_);rintro μ D ε w ⟨rfl,k,_,u0,v0,f0,y0,e0,e6,D0,E0,F0⟩;refine q0a 0 e0 (q0a 6 e6 (q0a 17 D0 (q0a 18 E0 (q0a 19 F0 ?_))));clear e0 e6 D0 E0 F0;have g0:=hJ.keep _ _ _ u0;have S:=St.refl w;have K0:=D5b g0 a1 hb;have H0:RdI [] w v C:=(hC.keep g0).less (by simp);have J0:RdI [] w u W:=(hW.keep g0).less (by simp);have m0:RdI [] w _ Ca:=(G0.keep g0).less (by simp);have n0:RdI [] w _ Wa:=(I0.keep g0).less (by simp);have Z0:=hL.keep g0;refine wB0 Z U (fun X0=>?_) fun X0=>?_
 ·obtain⟨x,U0,c1,V0,P0,s0,_,B0,A0,C0⟩:=RdS.get (Z0) (k) (by omega);obtain⟨W0,_⟩:=C0;have hx:=b1 x (e0a P0);obtain⟨a,b,rfl⟩:∃a b:Nat,x=((a:Int),(b:Int)):=⟨x.1.toNat,x.2.toNat,Prod.ext (Int.toNat_of_nonneg hx.1).symm (Int.toNat_of_nonneg hx.2.2.1).symm⟩;obtain rfl:V0=[Value.int .i64 (a:Int),.int .i64 (b:Int)]:=W0;simp only at hx;refine lO (S.k.b A0) [.x U0 c1,.v 0] Z ⟨⟨Z,B0⟩,⟨s0,by omega⟩,U⟩ (g0a S L9b Z Z ?_);intro g8 w8 S8 X8 G8
  first|refine d0a (kk:=0) (vs:=[_,_]) S8 j7b Z Z Z Z Z Z Z ?_
  intro g1 j0 T0;dsimp only[i0a,List.set] at j0;refine lC0 Z U (x0a b0a [0,1,2,3,4,5,6,7,8,9] [] [10,11] Z (Cl _ _ _ _) (Cl.start j0) ?_);refine qO0 Z U (F0a D3a Z Z Z ?_);refine k0a D0a Z (fun w1 hw=>by exact hw.1.cell 0 Z Z) Z ?_;refine C7b (caps:=#[.pointer (some ⟨gb,0,none⟩),.pointer (some ⟨g4,0,none⟩),.pointer (some ⟨g5,0,none⟩)]) n2c Z Z Z (fun w1 hw=>V2b hw ((fun w1 S1 X1=>q2c Ca Wa C W a gb g4 g5 _ _ _ c0 _ _ _ _ _ _ _ _ (e1a (S1.keep0 []) K0) (e1a (S1.keep0 []) v0) (e1a (S1.keep0 []) y0) (e1a (S1.keep0 []) f0) (H0.keep (S1.keep0 [])) (J0.keep (S1.keep0 [])) (m0.keep (S1.keep0 [])) (n0.keep (S1.keep0 [])) ho L0 O0 hi ⟨none,0,0,Z⟩) w1 hw.1 hw.2) fun _ _ h=>h) ?_;refine qO0 Z U (F0a D3a Z Z Z ?_);refine k0a D0a Z (fun w1 hw=>by exact hw.1.cell 0 Z Z) Z ?_;refine C7b (caps:=#[.pointer (some ⟨gb,0,none⟩),.pointer (some ⟨g4,0,none⟩),.pointer (some ⟨g5,0,none⟩)]) n2c Z Z Z (fun w1 hw=>V2b hw ((fun w1 S1 X1=>q2c Ca Wa C W b gb g4 g5 _ _ _ c0 _ _ _ _ _ _ _ _ (e1a (S1.keep0 []) K0) (e1a (S1.keep0 []) v0) (e1a (S1.keep0 []) y0) (e1a (S1.keep0 []) f0) (H0.keep (S1.keep0 [])) (J0.keep (S1.keep0 [])) (m0.keep (S1.keep0 [])) (n0.keep (S1.keep0 [])) ho L0 O0 hi ⟨none,0,0,Z⟩) w1 hw.1 hw.2) fun _ _ h=>h) ?_;refine D1a p4a (vs:=[(0,.int .i64 _),(1,.int .i64 _)]) (cs:=[_,_]) Z Z Z Z ?_;refine qD Z U ?_;rintro t1 ⟨p0,_⟩;have N0:=x4c (Ca:=Ca) (Wa:=Wa) (C:=C) ho.wid hs ((a:Int),(b:Int));refine B3c Z Z Z (hJ.each _ _ _ (prj Ca Wa C W ((a:Int),(b:Int))) (hJ.own _ _ _ _ u0 p0.fin) (by rw[List.length_map,List.length_take];omega) ⟨N0.1,by omega,N0.2.2.1,by omega⟩) ?_;rintro q1 s1 ⟨rfl,t0,d0⟩;have x0:=(e1a (p0.keep0 []) v0).same (d0 g4 (by simp));have o0:=(e1a (p0.keep0 []) f0).same (d0 c0 (by simp));have z0:=(e1a (p0.keep0 []) y0).same (d0 g5 (by simp));refine lP0 Z ⟨by omega,U⟩ ?_;exact⟨μ-1,by omega,Z,k+1,by omega,by rw[B0a P0,List.map_append];exact t0,x0,o0,z0,Z,Z,Z,Z,Z⟩
 refine lF0 Z U (Q1a Z ?_);exact⟨_,(show li.take k=li from List.take_of_length_le (by omega))▸u0⟩
def Y5b(a b:List Int):List Int:=Lib.compact (U3a (a++b))
theorem v5b(d:Array Int):∀m,(∀i j,i≤j→j<m→d[i]! ≤ d[j]!)→(Lib.compactUpTo d m).Pairwise (·<·)∧∀x,x∈Lib.compactUpTo d m↔∃j,j<m∧d[j]! = x:=by
 intro m
 induction m with
 | zero=>intro _;simp[Lib.compactUpTo]
 | succ m ih =>
   intro a0;obtain⟨h1,h2⟩:=ih (fun i j d0 hj=>a0 i j d0 (by omega));rw[Lib.compactUpTo_succ];by_cases hk:Lib.keeps d m=true
   ·rw[if_pos hk];refine⟨List.pairwise_append.2 ⟨h1,by simp,fun x hx y hy=>?_⟩,fun x=>?_⟩
    ·simp at hy;subst hy;obtain⟨j,hj,rfl⟩:=(h2 x).1 hx;have h3:=a0 j (m-1) (by omega) (by omega);have h4:=a0 (m-1) m (by omega) (by omega);have h5:d[m]! ≠ d[m-1]! := by
      simp only[Lib.keeps,decide_eq_true_eq] at hk;rcases hk with h|h
      ·omega
      ·exact h
     omega
    ·simp only[List.mem_append,h2,List.mem_singleton];constructor
     ·rintro(⟨j,hj,rfl⟩|rfl)
      ·exact⟨j,by omega,Z⟩
      ·exact⟨m,by omega,Z⟩
     ·rintro⟨j,hj,rfl⟩;by_cases b0:j=m
      ·subst b0;exact .inr Z
      ·exact .inl ⟨j,by omega,Z⟩
   ·rw[if_neg hk];have c0:¬(m=0∨d[m]! ≠ d[m-1]!):=by simpa[Lib.keeps] using hk
    have h5:d[m]! = d[m-1]! := Classical.byContradiction fun h=>c0 (.inr h);have h6:m≠0:=fun h=>c0 (.inl h);refine⟨by simpa using h1,fun x=>?_⟩;simp only[List.append_nil,h2];constructor
    ·rintro⟨j,hj,rfl⟩;exact⟨j,by omega,Z⟩
    ·rintro⟨j,hj,rfl⟩;by_cases b0:j=m
     ·subst b0;exact⟨j-1,by omega,h5.symm⟩
     ·exact⟨j,by omega,Z⟩
theorem C4a(a b:List Int):(Y5b a b).Pairwise (·<·)∧∀x,x∈Y5b a b↔x∈a∨x∈b:=by
 have hs:(U3a (a++b)).Pairwise (fun x y=>x≤y):=by
  have:=List.pairwise_mergeSort (le:=fun(x y:Int)=>decide (x≤y)) (fun a b c=>by simp;omega) (fun a b=>by simp;omega) (a++b);simpa[U3a] using this
 have hm:∀x,x∈U3a (a++b)↔x∈a∨x∈b:=fun x=>by simp[U3a]
 generalize hz:U3a (a++b)=zs at hs hm;have hu:Y5b a b=Lib.compactUpTo zs.toArray zs.length:=by unfold Y5b Lib.compact;rw[hz]
 have hg:∀i,i<zs.length→zs.toArray[i]! = zs.getD i 0:=fun i hi=>by simp[hi]
 obtain⟨h1,h2⟩:=v5b zs.toArray zs.length (fun i j a0 hj=>by
  rw[hg i (by omega),hg j hj];by_cases he:i=j
  ·subst he;exact Int.le_refl _
  ·have:=List.pairwise_iff_getElem.1 hs i j (by omega) hj (by omega);simpa[show i<zs.length by omega,hj] using this)
 rw[hu];refine⟨h1,fun x=>?_⟩;rw[h2,←hm];constructor
 ·rintro⟨j,hj,rfl⟩;rw[hg j hj];simp[hj]
 ·intro hx;obtain⟨j,hj,rfl⟩:=List.getElem_of_mem hx;exact⟨j,hj,by rw[hg j hj];simp[hj]⟩
theorem St.changedO{M:List Nat}{w0 w w':World}{L:List Ent}{G:Option Nat}{t t':Nat}{cs a0:List Value}(S:St M w0 w L)(i:Nat)(hi:L[i]?=some (G,t,cs))(hb:E0a G.toList w w')(h1:∀g,G=some g→p0a w' (g,t',a0)):St M w0 w' (L.set i (G,t',a0)):=by
 cases G with
 | some g=>exact S.changed1 i hi hb (h1 g Z)
 | none =>
   have hB:Below w.heap.size w w':=hb.nil;exact S.replace i hi (S.later hB).below (fun b b0 _=>hb.block b b0 (by simp)) (fun g hg=>by cases hg)
theorem St.pushO{M:List Nat}{w0 w w1:World}{L:List Ent}{G:Option Nat}{el:Nat}{cs:List Value}(S1:St M w0 w1 L)(Sw:St M w0 w L)(h:∀g,G=some g→w.heap.size≤g∧p0a w1 (g,el,cs)):St M w0 w1 ((G,el,cs)::L):=by
 cases G with
 | none=>exact(S1.nilEnt el).changedO 0 Z (E0a.refl _ _) (fun g hg=>by cases hg)
 | some g=>exact S1.push_new Sw (h g Z).2 (h g Z).1
theorem E0a.keepO{G:List Nat}{w w':World}(h:E0a G w w'):t0a G w w':=⟨h.size,h.block⟩
theorem B5c(w:World)(G:Option Nat)(el:Nat)(cs:List Value)(v:Value)(zs:List Int)(hR:u4a G 1 zs.length cs v (zs.map (Value.int .i64)))(hb:∀g,G=some g→p0a w (g,el,cs))(hz:zs.length≤1000000):
 C0a prog 68 #[v] w fun _ w'=>∃d0,E0a G.toList w w'∧(∀g,G=some g→p0a w' (g,el,d0))∧u4a G 1 (U3a zs).length d0 v ((U3a zs).map (Value.int .i64)):=by
 have b0:(U3a zs).length=zs.length:=by simp[U3a]
 obtain⟨_,⟨rfl,rfl,a0⟩|⟨g,c0,rfl,rfl,_,q2,_,q4⟩⟩:=hR
 ·refine Calls.mono (Tryz.slices_Sort_int_none none 0 w) ?_;rintro e w' ⟨rfl,rfl⟩;exact⟨_,Z,cs,E0a.refl _ _,fun g hg=>(by cases hg),by rw[b0,a0,List.length_eq_zero_iff.1 a0];simp[U3a],.inl ⟨Z,Z,by rw[b0];exact a0⟩⟩
 ·refine(E2c w g el c0 cs zs (hb g Z) (by simpa using q4) hz).mono ?_;rintro _ w' ⟨B,h1⟩;refine⟨_,B,fun g' hg=>(by cases hg;exact h1),by simp,.inr ⟨g,c0,Z,by rw[b0],by omega,q2,?_,?_⟩⟩
  ·rw[List.length_append,List.length_map,List.length_drop,b0];omega
  ·rw[Nat.mul_one];exact List.take_left' (by simp)
theorem T0b(w:World)(G:Option Nat)(el:Nat)(cs:List Value)(v:Value)(zs:List Int)(hR:u4a G 1 zs.length cs v (zs.map (Value.int .i64)))(hb:∀g,G=some g→p0a w (g,el,cs))(hz:zs.length≤1000000:=by omega):
 C0a prog 70 #[v] w fun v' w'=>∃c0,E0a G.toList w w'∧(∀g,G=some g→p0a w' (g,el,c0))∧u4a G 1 (Lib.compact zs).length c0 v' ((Lib.compact zs).map (Value.int .i64)):=by
 have e0:=Lib.compact_length_le zs;obtain⟨_,⟨rfl,rfl,a0⟩|⟨g,b0,rfl,rfl,_,q2,_,q4⟩⟩:=hR
 ·have d0:=List.length_eq_zero_iff.1 a0;subst d0;refine Calls.mono (Tryz.slices_Compact_int_empty none 0 w) ?_;rintro e w' ⟨rfl,rfl⟩;exact⟨_,Z,cs,E0a.refl _ _,fun g hg=>(by cases hg),by simp[Lib.compact,Lib.compactUpTo],.inl ⟨Z,Z,by simp[Lib.compact,Lib.compactUpTo]⟩⟩
 ·refine(z0c w g el b0 cs zs (hb g Z) (by simpa using q4) (by omega) hz (by omega)).mono ?_;rintro _ w' ⟨rfl,B,h1⟩;refine⟨_,B,fun g' hg=>(by cases hg;exact h1),by simp,.inr ⟨g,b0,Z,Z,by omega,q2,?_,?_⟩⟩
  ·rw[List.length_append,List.length_map,List.length_append,List.length_replicate,List.length_drop];omega
  ·rw[Nat.mul_one,List.map_append,List.append_assoc];exact List.take_left' (by simp)
theorem I4b(w:World)(G:Option Nat)(cs:List Value)(v:Value)(l:List (Int×Int))(hR:V1a b9a 2 [] w G cs v l)(hb:∀g,G=some g→p0a w (g,72,cs))(hz:l.length≤1000000):
 C0a prog 53 #[v] w fun v' w'=>∃a0,E0a G.toList w w'∧(∀g,G=some g→p0a w' (g,72,a0))∧slQ v'∧∀M,(∀g,G=some g→g∉M)→(∀x∈l,i64 x.1∧i64 x.2)→h4b M w' v' (ddP l):=by
 have e0:=u2c l;have d0:=hR.toVP;obtain⟨_,⟨rfl,rfl,_⟩|⟨g,b0,rfl,rfl,_,q2,_,q4⟩⟩:=d0
 ·refine(c9a w 0 none).mono ?_;rintro _ w' ⟨rfl,B⟩;refine⟨cs,⟨B.os,B.tape,B.output,B.size,fun k hk _=>B.block k hk⟩,fun g hg=>(by cases hg),⟨none,0,0,Z⟩,fun M _ _=>?_⟩;exact⟨none,0,0,Z,by omega,Nat.le_refl _,by unfold maxLen;omega,by omega,fun h=>absurd h (by omega)⟩
 ·refine(q9a g b0 l cs w (hb g Z) q4 (by omega) hz).mono ?_;rintro _ w' ⟨rfl,B,a0,_,h2,h3⟩;exact⟨a0,B,fun g' hg=>(by cases hg;exact h2),⟨_,_,_,Z⟩,fun M hM c0=>w8b h3 (fun x hx=>c0 x (c1b.1 hx)) q2 h2 (hM g Z)⟩
section
variable {P:Program} {r:Option Nat} {N:Nat} {l:List Oper} {D:List Deferred} {C:World→Prop} {K:List Deferred→Env→World→Prop} {pur:Nat→Bool}
def p9a(e:Env)(d:Option Nat)(v:Value):Env:=match d with|some d=>upd e d v|none=>e
def z1b(N:Nat)(o:Oper):Prop:=∀d,o.dst=some d→d<N
theorem y4a{a:Act}(o:Oper)(v:Value)(h:z1b a.tmps.size o):O0a (a.put o.dst v)=p9a (O0a a) o.dst v:=by
 cases hd:o.dst with
 | none=>rfl
 | some d=>exact U0a v (h d hd)
theorem R3a(a:Act)(o:Oper)(v:Value):(a.put o.dst v).tmps.size=a.tmps.size:=by
 cases o.dst<;>simp[Act.put]
theorem k2a(a:Act)(o:Oper)(v:Value):(a.put o.dst v).defers=a.defers:=by
 cases o.dst<;>simp[Act.put]
theorem z4a{e:Env}{o:Oper}{v:Value}(hN:z1b N o)(hz:∀i,N≤i→e i=undef):∀i,N≤i→p9a e o.dst v i=undef:=by
 cases hd:o.dst with
 | none=>exact hz
 | some d=>exact s1a (hN d hd) hz
theorem u2a{o:Oper}{K1:List Deferred→Env→World→Prop}{e e1:Env}{w:World}(hN:z1b N o)(j0:Op.isSelect o.op=false)(d0:∀c,o.op≠.defer c)(hz:∀i,N≤i→e1 i=undef)
 (b0:∀s∈Oper.looksAt l.toArray o,e s=e1 s) (h:WL P r N l.toArray [o] K1 D e1 w):WL P r N l.toArray [o] (fun D' e' w'=>∃v,e'=p9a e o.dst v∧K1 D' (p9a e1 o.dst v) w') D e w:=by
 unfold WL at *;intro a Q hs hD he hK;obtain⟨a1,i0,g0,e0⟩:=L6a e1 N D hz;have h1:=h a1 (fun ex a' w'=>ex=.normal∧K1 a'.defers (O0a a') w') i0 g0 e0 (fun a' w' _ hk=>⟨Z,hk⟩);have hw:Region.wanted o (yielded l.toArray a.tmps)=Region.wanted o (yielded l.toArray a1.tmps):=by rw[b1a,b1a,he,e0];exact P0a b0
 have c0:∀(v:Value) (w':World),K1 (a1.put o.dst v).defers (O0a (a1.put o.dst v)) w'→Q .normal (a.put o.dst v) w':=by
  intro v w' hk;rw[y4a o v (by rw[i0];exact hN),e0,k2a,g0] at hk;refine hK _ _ (by rw[R3a,hs]) ⟨v,by rw[y4a o v (by rw[hs];exact hN),he],?_⟩;rw[k2a,hD];exact hk
 simp only[wpListIn] at h1 ⊢;rw[hw]
 split
 ·rename_i n0;simp only[n0,if_true] at h1;refine⟨z0a _ _ _,?_⟩;have h4:=h1.2;have m0:Oper.semAt (fc r).round a.eval o=Oper.semAt (fc r).round a1.eval o:=by
   rw[Oper.semAt_eq _ _ _ d0,Oper.semAt_eq _ _ _ d0,m2a,m2a,he,e0];exact r1a j0 b0
  rw[m0]
  revert h4
  generalize (Oper.semAt (fc r).round a1.eval o).run P w=p0;intro h4;cases p0 with
  | ok x w' =>
    cases x with
    | value v=>simp only[Oper.uponIn] at h4 ⊢;exact c0 v w' h4.2
    | skip=>simp only[Oper.uponIn] at h4 ⊢;exact c0 undef w' h4.2
    | defer dd =>
      simp only[Oper.uponIn] at h4 ⊢;have hk:=h4.2;have o0:O0a ({ a1 with defers:=dd::a1.defers }:Act)=e1:=e0;have ee:O0a ({ a with defers:=dd::a.defers }:Act)=e:=he;rw[y4a (a:={ a1 with defers:=dd::a1.defers }) o undef (by rw[show({ a1 with defers:=dd::a1.defers }:Act).tmps.size=N from i0];exact hN),o0,k2a] at hk;refine hK _ _ (by rw[R3a];exact hs) ⟨undef,by rw[y4a (a:={ a with defers:=dd::a.defers }) o undef (by rw[show({ a with defers:=dd::a.defers }:Act).tmps.size=N from hs];exact hN),ee],?_⟩;rw[k2a];show K1 (dd::a.defers) _ _;rw[hD,←g0];exact hk
    | enter f args =>
      simp only[Oper.uponIn] at h4 ⊢;exact⟨h4.1,CallsIn.mono h4.2 (fun en q0 hh=>by
       cases en
       ·exact c0 _ _ hh.2
       ·exact absurd hh.1 (by simp)
       ·obtain⟨a0,w0,hh⟩:=hh;exact absurd hh.1 (by simp))⟩
    | row r0 args=>simp only[Oper.uponIn] at h4 ⊢;exact⟨h4.1,RowsIn.mono h4.2 (fun _ _ hh=>c0 _ _ hh.2)⟩
    | round l' f tmps f0 body =>
      simp only[Oper.uponIn] at h4 ⊢;exact⟨h4.1,RoundIn.mono h4.2 (fun en q0 hh=>by
       cases en
       ·exact c0 _ _ hh.2
       ·exact absurd hh.1 (by simp)
       ·obtain⟨a0,w0,hh⟩:=hh;exact absurd hh.1 (by simp))⟩
    | _=>simp only[Oper.uponIn] at h4
  | halt x w'=>cases x<;>simp only[Oper.uponIn] at h4 ⊢<;>exact absurd h4.1 (by simp)
 ·rename_i n0;simp only[n0] at h1;exact⟨z0a _ _ _,c0 undef w h1.2.2⟩
theorem V8b{o:Oper}{K1:List Deferred→Env→World→Prop}{e:Env}{w:World}(hN:z1b N o)(hz:∀i,N≤i→e i=undef)
 (h:WL P r N l.toArray [o] K1 D e w):∃D' v w',K1 D' (p9a e o.dst v) w':=by
 unfold WL at h;obtain⟨a1,e0,f0,d0⟩:=L6a e N D hz;have h1:=h a1 (fun ex a' w'=>ex=.normal∧K1 a'.defers (O0a a') w') e0 f0 d0 (fun a' w' _ hk=>⟨Z,hk⟩);have b0:∀(v:Value) (w':World),K1 (a1.put o.dst v).defers (O0a (a1.put o.dst v)) w'→∃D' v w',K1 D' (p9a e o.dst v) w':=by
  intro v w' hk;rw[y4a o v (by rw[e0];exact hN),d0] at hk;exact⟨_,v,w',hk⟩
 simp only[wpListIn] at h1
 split at h1
 ·have h4:=h1.2
  revert h4
  generalize (Oper.semAt (fc r).round a1.eval o).run P w=g0;intro h4;cases g0 with
  | ok x w' =>
    cases x with
    | value v=>simp only[Oper.uponIn] at h4;exact b0 v w' h4.2
    | skip=>simp only[Oper.uponIn] at h4;exact b0 undef w' h4.2
    | defer dd =>
      simp only[Oper.uponIn] at h4;have hk:=h4.2;rw[y4a (a:={ a1 with defers:=dd::a1.defers }) o undef (by rw[show({ a1 with defers:=dd::a1.defers }:Act).tmps.size=N from e0];exact hN),show O0a ({ a1 with defers:=dd::a1.defers }:Act)=e from d0] at hk;exact⟨_,_,_,hk⟩
    | enter f args =>
      simp only[Oper.uponIn] at h4;obtain⟨en,w2,_,hR,_⟩:=h4.2.2 [] (room_wide _);cases en
      ·exact b0 _ _ hR.2
      ·exact absurd hR.1 (by simp)
      ·obtain⟨a0,w0,hh⟩:=hR;exact absurd hh.1 (by simp)
    | row i0 args =>
      simp only[Oper.uponIn] at h4;obtain⟨v,w2,hR,_⟩:=h4.2 default [] (room_wide _);exact b0 _ _ hR.2
    | round l' f tmps c0 body =>
      simp only[Oper.uponIn] at h4;obtain⟨en,w2,hR,_⟩:=h4.2.2 default [] (room_wide _);cases en
      ·exact b0 _ _ hR.2
      ·exact absurd hR.1 (by simp)
      ·obtain⟨a0,w0,hh⟩:=hR;exact absurd hh.1 (by simp)
    | _=>simp only[Oper.uponIn] at h4
  | halt x w'=>cases x<;>simp only[Oper.uponIn] at h4<;>exact absurd h4.1 (by simp)
 ·exact b0 undef w h1.2.2
def WN(P:Program)(r:Option Nat)(N:Nat)(l:List Oper)(C:World→Prop)(pur:Nat→Bool)(K:List Deferred→Env→World→Prop)(D:List Deferred):List Nat→Env→World→Prop
 | [],e,w=>C w∧K D e w
 | i::rest,e,w=>C w∧∃o,l[i]?=some o∧z1b N o ∧
  ((pur i=true∧∃d v,o.dst=some d∧PV P l C o e v∧WN P r N l C pur K D rest (upd e d v) w) ∨
   (pur i=false∧WL P r N l.toArray [o] (fun D' e' w'=>D'=D∧WN P r N l C pur K D rest e' w') D e w))
theorem WN.inC{a0:List Nat}{e:Env}{w:World}(h:WN P r N l C pur K D a0 e w):C w:=by cases a0<;>exact h.1
def o4a(l:List Oper)(pur:Nat→Bool)(j i:Nat):Bool :=
 match l[j]?,l[i]? with
 | some p,some q=>(pur i||pur j)&&(match p.dst,q.dst with
   | some c,some d=>!(c==d)&&!(Oper.looksAt l.toArray p).contains d&&!(Oper.looksAt l.toArray q).contains c
   | some c,none=>pur j&&!(Oper.looksAt l.toArray q).contains c
   | none,some d=>pur i&&!(Oper.looksAt l.toArray p).contains d
   | _,_=>false)
 | _,_=>false
structure N5d (l:List Oper) (pur:Nat→Bool) (j i:Nat) (o1 o2:Oper):Prop where
 pur:pur i=true∨pur j=true
 dst:∀c d,o1.dst=some c→o2.dst=some d→c≠d
 p:∀d,o2.dst=some d→d∉Oper.looksAt l.toArray o1
 q:∀c,o1.dst=some c→c∉Oper.looksAt l.toArray o2
theorem I4a{j i:Nat}{p q:Oper}(h:o4a l pur j i=true)(hj:l[j]?=some p)(hi:l[i]?=some q):N5d l pur j i p q:=by
 unfold o4a at h;simp only[hj,hi,Bool.and_eq_true,Bool.or_eq_true] at h;obtain⟨h1,h2⟩:=h;cases hc:p.dst with
 | none =>
   cases hd:q.dst with
   | none=>simp[hc,hd] at h2
   | some d =>
     simp only[hc,hd,Bool.and_eq_true,Bool.not_eq_true',List.contains_eq_mem,decide_eq_false_iff_not] at h2;exact⟨h1,fun c d h=>(by rw[hc] at h;cases h),fun x hx=>(by rw[hd] at hx;cases hx;exact h2.2),fun c h=>(by rw[hc] at h;cases h)⟩
 | some c =>
   cases hd:q.dst with
   | none =>
     simp only[hc,hd,Bool.and_eq_true,Bool.not_eq_true',List.contains_eq_mem,decide_eq_false_iff_not] at h2;exact⟨h1,fun c d _ h=>(by rw[hd] at h;cases h),fun d h=>(by rw[hd] at h;cases h),fun x hx=>(by rw[hc] at hx;cases hx;exact h2.2)⟩
   | some d =>
     simp only[hc,hd,Bool.and_eq_true,Bool.not_eq_true',beq_eq_false_iff_ne,List.contains_eq_mem,decide_eq_false_iff_not] at h2;exact⟨h1,fun x y hx hy=>(by rw[hc] at hx;rw[hd] at hy;cases hx;cases hy;exact h2.1.1),fun x hx=>(by rw[hd] at hx;cases hx;exact h2.1.2),fun x hx=>(by rw[hc] at hx;cases hx;exact h2.2)⟩
theorem x4a{e:Env}{o:Oper}{u:Value}{s:Nat}{X:List Nat}(hc:∀c,o.dst=some c→c∉X)(hs:s∈X):p9a e o.dst u s=e s:=by
 cases hd:o.dst with
 | none=>rfl
 | some c=>exact t1a (hc c hd) hs
theorem V7a(e:Env){p q:Oper}(u v:Value)(h:∀c d,p.dst=some c→q.dst=some d→c≠d):p9a (p9a e p.dst u) q.dst v=p9a (p9a e q.dst v) p.dst u:=by
 cases hc:p.dst with
 | none=>rfl
 | some c =>
   cases hd:q.dst with
   | none=>rfl
   | some d=>exact z2a e u v (h c d hc hd)
theorem WN.first(a0:f3a l=true){i:Nat}{g0:List Nat}:∀(e0:List Nat) (e:Env) (w:World),(∀j∈e0,o4a l pur j i=true)→(∀i,N≤i→e i=undef)→WN P r N l C pur K D (e0++i::g0) e w →
 ∃o,l[i]?=some o∧z1b N o ∧
  ((pur i=true∧∃d v,o.dst=some d∧PV P l C o e v∧WN P r N l C pur K D (e0++g0) (upd e d v) w) ∨
   (pur i=false∧WL P r N l.toArray [o] (fun D' e' w'=>D'=D∧∃v,e'=p9a e o.dst v∧WN P r N l C pur K D (e0++g0) e' w') D e w)):=by
 intro e0
 induction e0 with
 | nil =>
   intro e w _ hz h;obtain⟨hC,o,ho,hN,h⟩:=h;refine⟨o,ho,hN,?_⟩;rcases h with h|⟨hp,h⟩
   ·exact .inl h
   ·refine .inr ⟨hp,?_⟩;have h2:=u2a (e:=e) (e1:=e) hN (w0a a0 ho).1 (w0a a0 ho).2 hz (fun _ _=>rfl) h;unfold WL at *;exact fun a Q hs hD he hK=>h2 a Q hs hD he (fun a' w' m0 ⟨v,h1,h3,h4⟩=>hK a' w' m0 ⟨h3,v,h1,by rw[h1];exact h4⟩)
 | cons q e0 ih =>
   intro e w i0 hz h;obtain⟨hC,p,hp,d0,h⟩:=h;have hq:=i0 q (by simp);have b0:∀j∈e0,o4a l pur j i=true:=fun j hj=>i0 j (by simp[hj]);rcases h with⟨j0,c,u,hc,hu,h⟩|⟨j0,h⟩
   ·obtain⟨o,ho,hN,h2⟩:=ih (upd e c u) w b0 (s1a (d0 c hc) hz) h;have hI:=I4a hq hp ho;refine⟨o,ho,hN,?_⟩;rcases h2 with⟨f0,d,v,hd,hv,h2⟩|⟨f0,h2⟩
    ·refine .inl ⟨f0,d,v,hd,hv.congr (w0a a0 ho).1 (fun s hs=>t1a (hI.q c hc) hs),hC,p,hp,d0,.inl ⟨j0,c,u,hc,hu.congr (w0a a0 hp).1 (fun s hs=>(t1a (hI.p d hd) hs).symm),?_⟩⟩;rw[←z2a _ _ _ (hI.dst c d hc hd)];exact h2
    ·refine .inr ⟨f0,?_⟩;have h3:=u2a (e:=e) (e1:=upd e c u) hN (w0a a0 ho).1 (w0a a0 ho).2 (s1a (d0 c hc) hz) (fun s hs=>(t1a (hI.q c hc) hs).symm) h2;unfold WL at *;refine fun a Q hs hD he hK=>h3 a Q hs hD he (fun a' w' m0 hh=>hK a' w' m0 ?_);obtain⟨v,h1,h4,_,h5,h6⟩:=hh;refine⟨h4,v,h1,?_⟩;rw[h1];refine⟨h6.inC,p,hp,d0,.inl ⟨j0,c,u,hc,hu.congr (w0a a0 hp).1 (fun s hs=>(x4a hI.p hs).symm),?_⟩⟩;have e1:p9a (upd e c u) o.dst v=upd (p9a e o.dst v) c u:=by
      have:=V7a e (p:=p) (q:=o) u v hI.dst;rw[hc] at this;exact this
     rw[←e1];exact h6
   ·have h0:=u2a (e:=e) (e1:=e) d0 (w0a a0 hp).1 (w0a a0 hp).2 hz (fun _ _=>rfl) h;obtain⟨_,u1,w1,_,r0,_,h1⟩:=V8b d0 hz h0;rw[←r0] at h1;obtain⟨o,ho,hN,h2⟩:=ih (p9a e p.dst u1) w1 b0 (z4a d0 hz) h1;have hI:=I4a hq hp ho;have f0:pur i=true:=by
     rcases hI.pur with h|h
     ·exact h
     ·rw[j0] at h;cases h
    rcases h2 with⟨_,d,v0,hd,s0,_⟩|⟨c0,_⟩
    ·have n0:PV P l C o e v0:=s0.congr (w0a a0 ho).1 (fun s hs=>x4a hI.q hs);refine⟨o,ho,hN,.inl ⟨f0,d,v0,hd,n0,hC,p,hp,d0,.inr ⟨j0,?_⟩⟩⟩;have h3:=u2a (e:=upd e d v0) (e1:=e) d0 (w0a a0 hp).1 (w0a a0 hp).2 hz (fun s hs=>t1a (hI.p d hd) hs) h;unfold WL at *;refine fun a Q hs hD he hK=>h3 a Q hs hD he (fun a' w' m0 hh=>hK a' w' m0 ?_);obtain⟨u,hu,o0,h4⟩:=hh;refine⟨o0,?_⟩;obtain⟨o',q0,_,h5⟩:=ih (p9a e p.dst u) w' b0 (z4a d0 hz) h4;obtain rfl:o'=o:=Option.some.inj (q0.symm.trans ho);rcases h5 with⟨_,d',v,p0,hv,h5⟩|⟨c0,_⟩
     ·obtain rfl:d'=d:=Option.some.inj (p0.symm.trans hd);have hv':PV P l C o' e v:=hv.congr (w0a a0 ho).1 (fun s hs=>x4a hI.q hs);obtain rfl:v=v0:=PV.uniq hC hv' n0;have e1:upd (p9a e p.dst u) d' v=p9a (upd e d' v) p.dst u:=by
       have:=V7a e (p:=p) (q:=o') u v hI.dst;rw[hd] at this;exact this
      rw[hu,←e1];exact h5
     ·rw[f0] at c0;cases c0
    ·rw[f0] at c0;cases c0
def v6b(l:List Oper)(pur:Nat→Bool)(x y:Nat):List Nat→List Nat→Bool
 | _,[]=>true
 | acc,i::rest=>(acc.all fun j=>(C3a l i).contains j||o4a l pur j i||(j==x&&i==y))&&v6b l pur x y (acc++[i]) rest
theorem b2b{x y:Nat}:∀(ix acc:List Nat),v6b l pur x y acc ix=true→∀(b0:List Nat) (i:Nat) (a0:List Nat),ix=b0++i::a0→∀j∈acc++b0,j∈C3a l i∨o4a l pur j i=true∨(j=x∧i=y)
 | [],_,_,b0,i,a0,h=>by simp at h
 | k::ix,acc,h,b0,i,a0,he=>by
   simp only[v6b,Bool.and_eq_true] at h;cases b0 with
   | nil =>
     simp at he;obtain⟨rfl,-⟩:=he;intro j hj;rw[List.append_nil] at hj;have:=List.all_eq_true.1 h.1 j hj;simp only[Bool.or_eq_true,List.contains_eq_mem,decide_eq_true_eq,Bool.and_eq_true,beq_iff_eq] at this;rcases this with(h|h)|h
     ·exact .inl h
     ·exact .inr (.inl h)
     ·exact .inr (.inr h)
   | cons q b0 =>
     simp at he;obtain⟨rfl,he⟩:=he;intro j hj;exact b2b ix (acc++[k]) h.2 b0 i a0 he j (by simpa using hj)
def U5a(ix:List Nat)(f:Nat→Bool):List Nat:=ix.filter fun i=>!f i
theorem W9b{ix:List Nat}(c0:ix.Nodup)(f:Nat→Bool){i:Nat}(hi:i∈ix)(hf:f i=false):∃b0 a0 P Q,ix=P++i::Q∧U5a ix f=b0++i::a0∧U5a ix (fun j=>f j||j==i)=b0++a0∧∀j∈b0,j∈P∧f j=false:=by
 obtain⟨P,Q,rfl⟩:=List.append_of_mem hi;rw[List.nodup_append] at c0;obtain⟨_,h2,h3⟩:=c0;rw[List.nodup_cons] at h2;refine⟨P.filter fun j=>!f j,Q.filter fun j=>!f j,P,Q,Z,?_,?_,?_⟩
 ·unfold U5a;rw[List.filter_append,List.filter_cons];simp[hf]
 ·unfold U5a;rw[List.filter_append,List.filter_cons];simp only[beq_self_eq_true,Bool.or_true,Bool.not_true,Bool.false_eq_true,if_false]
  congr 1
  ·apply List.filter_congr;intro j hj;have:(j==i)=false:=by simp;exact fun e=>h3 j hj i (by simp) e
   simp[this]
  ·apply List.filter_congr;intro j hj;have:(j==i)=false:=by simp;exact fun e=>h2.1 (e▸hj)
   simp[this]
 ·intro j hj;rw[List.mem_filter] at hj;exact⟨hj.1,by simpa using hj.2⟩
def b8b:List Nat→Bool
 | []=>true
 | x::l=>!l.contains x&&b8b l
theorem f8a:∀{l:List Nat},b8b l=true→l.Nodup
 | [],_=>List.nodup_nil
 | x::l,h=>by
   simp only[b8b,Bool.and_eq_true,Bool.not_eq_true',List.contains_eq_mem,decide_eq_false_iff_not] at h;exact List.nodup_cons.2 ⟨h.1,f8a h.2⟩
def Y9b(n:Nat)(ix:List Nat):Bool:=b8b ix&&(List.range n).all (fun i=>ix.contains i)&&ix.all (fun i=>decide (i<n))
def O2d(l:List Oper)(pur:Nat→Bool)(a c:Nat)(ixA ixB:List Nat):Bool :=
 f3a l&&((List.range l.length).all fun i=>(X0a l i).all fun j=>decide (j<i))&&Y9b l.length ixA&&Y9b l.length ixB&&v6b l pur a c [] ixA&&v6b l pur c a [] ixB &&
 ((List.range l.length).all fun i=>pur i||i==a||i==c||((C3a l i).contains a&&(C3a l i).contains c))&&!(a==c)&&!pur a&&!pur c
theorem WN.step{ix:List Nat}{x y:Nat}(f0:f3a l=true)(c0:ix.Nodup)(e0:v6b l pur x y [] ix=true){f:Nat→Bool}(a0:∀i,f i=true→∀j∈X0a l i,f j=true){i:Nat}{o:Oper}(hi:i∈ix)(ho:l[i]?=some o)(b0:f i=false)
 (g0:∀j∈X0a l i,f j=true) (j0:i=y→f x=true) {e:Env} {w:World} (hz:∀i,N≤i→e i=undef) (h:WN P r N l C pur K D (U5a ix f) e w) :
 z1b N o∧((pur i=true∧∃d v,o.dst=some d∧PV P l C o e v∧WN P r N l C pur K D (U5a ix (fun j=>f j||j==i)) (upd e d v) w) ∨
  (pur i=false∧WL P r N l.toArray [o] (fun D' e' w'=>D'=D∧∃v,e'=p9a e o.dst v∧WN P r N l C pur K D (U5a ix (fun j=>f j||j==i)) e' w') D e w)):=by
 obtain⟨m0,_,A,B,h1,h2,h3,h4⟩:=W9b c0 f hi b0;rw[h2] at h;have i0:∀j∈C3a l i,f j=true:=e3a a0 _ _ g0;obtain⟨o',d0,hN,h5⟩:=WN.first f0 m0 e w (fun j hj=>by
  obtain⟨h6,h7⟩:=h4 j hj;rcases b2b ix [] e0 A i B h1 j (by simpa using h6) with h|h|⟨h,h'⟩
  ·have:=i0 j h;rw[h7] at this;cases this
  ·exact h
  ·subst h;have:=j0 h';rw[h7] at this;cases this) hz h
 obtain rfl:o'=o:=Option.some.inj (d0.symm.trans ho);rw[h3];exact⟨hN,h5⟩
theorem e5d{id:Nat}{n t:List Deferred→Env→World→Prop}{b:Nat→List Deferred→Env→World→Prop}{e:Env}{w:World}(hm:P.follows .mixedOrders=true)(pur:Nat→Bool)(a c:Nat)(a0 b0:List Nat)
 (E0:O2d l pur a c a0 b0=true) (C:World→Prop) (hA:WN P r N l C pur n D a0 e w.drew) (hB:WN P r N l C pur n D b0 e w.drew):W P r N (.region id l.toArray true) ⟨n,b,t⟩ D e w:=by
 unfold O2d Y9b at E0;simp only[Bool.and_eq_true,Bool.not_eq_true',beq_eq_false_iff_ne] at E0;obtain⟨⟨⟨⟨⟨⟨⟨⟨⟨t0,H0⟩,⟨d0,L0⟩,I0⟩,⟨e0,N0⟩,J0⟩,C0⟩,D0⟩,O0⟩,Q0⟩,_⟩,_⟩:=E0;have d0:=f8a d0;have e0:=f8a e0;have F0:∀i,i<l.length→i∈a0:=fun i hi=>by simpa using List.all_eq_true.1 L0 i (List.mem_range.2 hi)
 have inB:∀i,i<l.length→i∈b0:=fun i hi=>by simpa using List.all_eq_true.1 N0 i (List.mem_range.2 hi)
 have hz:(∀i,N≤i→e i=undef)→W P r N (.region id l.toArray true) ⟨n,b,t⟩ D e w:=by
  intro hz;refine o3c hm H0 (fun f e w=>(∀i,N≤i→e i=undef)∧(∀i,f i=true→∀j∈X0a l i,f j=true) ∧
   ((f a=false∧f c=false∧WN P r N l C pur n D (U5a a0 f) e w∧WN P r N l C pur n D (U5a b0 f) e w)∨(f a=true∧WN P r N l C pur n D (U5a a0 f) e w)∨(f c=true∧WN P r N l C pur n D (U5a b0 f) e w))) ⟨hz,by simp,.inl ⟨Z,Z,?_,?_⟩⟩ ?_ ?_
  ·have:U5a a0 (fun _=>false)=a0:=by unfold U5a;simp
   rw[this];exact hA
  ·have:U5a b0 (fun _=>false)=b0:=by unfold U5a;simp
   rw[this];exact hB
  ·rintro f e w i o ⟨hz,j0,hM⟩ ho B0 u0;have f0:i<l.length:=(List.getElem?_eq_some_iff.1 ho).1;have c0:∀k,(f k||k==i)=true→∀j∈X0a l k,(f j||j==i)=true:=by
    intro k hk j hj;simp only[Bool.or_eq_true,beq_iff_eq] at hk ⊢;rcases hk with hk|rfl
    ·exact .inl (j0 k hk j hj)
    ·exact .inl (u0 j hj)
   have T0:∀j∈C3a l i,f j=true:=e3a j0 _ _ u0;have one:∀(ix:List Nat) (x y:Nat) (J:(Nat→Bool)→Env→World→Prop),ix.Nodup→i∈ix→v6b l pur x y [] ix=true→(i=y→f x=true)→WN P r N l C pur n D (U5a ix f) e w →
    (∀e' w',WN P r N l C pur n D (U5a ix (fun j=>f j||j==i)) e' w'→J (fun j=>f j||j==i) e' w') →
    WL P r N l.toArray [o] (fun D' e' w'=>D'=D∧(∀i,N≤i→e' i=undef)∧(∀k,(f k||k==i)=true→∀j∈X0a l k,(f j||j==i)=true)∧J (fun j=>f j||j==i) e' w') D e w:=by
    intro ix x y J P0 hi R0 U0 hw hJ;obtain⟨hN,h5⟩:=WN.step t0 P0 R0 j0 hi ho B0 u0 U0 hz hw;have v0:=hw.inC;rcases h5 with⟨A0,d,v,hd,hv,h5⟩|⟨A0,h5⟩
    ·rcases hv with⟨i0,hv⟩|⟨i0,rfl⟩
     ·unfold WL;intro a Q hs hD he hK;simp only[wpListIn];have g0:Region.wanted o (yielded l.toArray a.tmps)=true:=by rw[b1a,he];exact i0
      simp only[g0,if_true];refine⟨z0a _ _ _,?_⟩;rw[Oper.semAt_eq _ _ _ (w0a t0 ho).2,m2a,he,hv w v0,Oper.uponIn_value];refine hK _ _ (by rw[R3a,hs]) ⟨by rw[k2a,hD],?_⟩;rw[hd,U0a v (by rw[hs];exact hN d hd),he];exact⟨s1a (hN d hd) hz,c0,hJ _ _ h5⟩
     ·unfold WL;intro a Q hs hD he hK;simp only[wpListIn];have g0:Region.wanted o (yielded l.toArray a.tmps)=false:=by rw[b1a,he];exact i0
      simp only[g0];refine⟨z0a _ _ _,?_⟩;refine hK _ _ (by rw[R3a,hs]) ⟨by rw[k2a,hD],?_⟩;rw[hd,U0a undef (by rw[hs];exact hN d hd),he];exact⟨s1a (hN d hd) hz,c0,hJ _ _ h5⟩
    ·unfold WL at *;refine fun a Q hs hD he hK=>h5 a Q hs hD he (fun a' w' S0 hh=>hK a' w' S0 ?_);obtain⟨G0,v,hv,h6⟩:=hh;exact⟨G0,by rw[hv];exact z4a hN hz,c0,hJ _ _ h6⟩
   rcases hM with⟨p0,y0,n0,x0⟩|⟨p0,n0⟩|⟨y0,x0⟩
   ·by_cases m0:i=a
    ·exact one a0 a c (fun f e w=>(f a=false∧f c=false∧WN P r N l C pur n D (U5a a0 f) e w∧WN P r N l C pur n D (U5a b0 f) e w)∨(f a=true∧WN P r N l C pur n D (U5a a0 f) e w)∨(f c=true∧WN P r N l C pur n D (U5a b0 f) e w)) d0 (F0 i f0) C0 (fun h=>absurd (m0.symm.trans h) Q0) n0 (fun e' w' h=>.inr (.inl ⟨by simp[m0],h⟩))
    by_cases z0:i=c
    ·exact one b0 c a (fun f e w=>(f a=false∧f c=false∧WN P r N l C pur n D (U5a a0 f) e w∧WN P r N l C pur n D (U5a b0 f) e w)∨(f a=true∧WN P r N l C pur n D (U5a a0 f) e w)∨(f c=true∧WN P r N l C pur n D (U5a b0 f) e w)) e0 (inB i f0) D0 (fun h=>absurd h m0) x0 (fun e' w' h=>.inr (.inr ⟨by simp[z0],h⟩))
    have A0:pur i=true:=by
     have:=List.all_eq_true.1 O0 i (List.mem_range.2 f0);simp only[Bool.or_eq_true,beq_iff_eq,m0,z0,or_false,Bool.and_eq_true,List.contains_eq_mem,decide_eq_true_eq] at this;rcases this with h|h
     ·exact h
     ·have:=T0 a h.1;rw[p0] at this;cases this
    obtain⟨hN,h5⟩:=WN.step t0 d0 C0 j0 (F0 i f0) ho B0 u0 (fun h=>absurd h z0) hz n0;obtain⟨-,h6⟩:=WN.step t0 e0 D0 j0 (inB i f0) ho B0 u0 (fun h=>absurd h m0) hz x0;have v0:=n0.inC;rcases h5 with⟨_,d,v,hd,hv,h5⟩|⟨s0,_⟩
    rotate_left
    ·rw[A0] at s0;cases s0
    rcases h6 with⟨_,d',v',K0,hv',h6⟩|⟨s0,_⟩
    rotate_left
    ·rw[A0] at s0;cases s0
    obtain rfl:d'=d:=Option.some.inj (K0.symm.trans hd);obtain rfl:v'=v:=PV.uniq v0 hv' hv;have q0:(f a||a==i)=false:=by simp[p0];exact fun e=>m0 e.symm
    have r0:(f c||c==i)=false:=by simp[y0];exact fun e=>z0 e.symm
    rcases hv with⟨i0,hv⟩|⟨i0,rfl⟩
    ·unfold WL;intro a Q hs hD he hK;simp only[wpListIn];have g0:Region.wanted o (yielded l.toArray a.tmps)=true:=by rw[b1a,he];exact i0
     simp only[g0,if_true];refine⟨z0a _ _ _,?_⟩;rw[Oper.semAt_eq _ _ _ (w0a t0 ho).2,m2a,he,hv w v0,Oper.uponIn_value];refine hK _ _ (by rw[R3a,hs]) ⟨by rw[k2a,hD],?_⟩;rw[hd,U0a v' (by rw[hs];exact hN d' hd),he];exact⟨s1a (hN d' hd) hz,c0,.inl ⟨q0,r0,h5,h6⟩⟩
    ·unfold WL;intro a Q hs hD he hK;simp only[wpListIn];have g0:Region.wanted o (yielded l.toArray a.tmps)=false:=by rw[b1a,he];exact i0
     simp only[g0];refine⟨z0a _ _ _,?_⟩;refine hK _ _ (by rw[R3a,hs]) ⟨by rw[k2a,hD],?_⟩;rw[hd,U0a undef (by rw[hs];exact hN d' hd),he];exact⟨s1a (hN d' hd) hz,c0,.inl ⟨q0,r0,h5,h6⟩⟩
   ·exact one a0 a c (fun f e w=>(f a=false∧f c=false∧WN P r N l C pur n D (U5a a0 f) e w∧WN P r N l C pur n D (U5a b0 f) e w)∨(f a=true∧WN P r N l C pur n D (U5a a0 f) e w)∨(f c=true∧WN P r N l C pur n D (U5a b0 f) e w)) d0 (F0 i f0) C0 (fun _=>p0) n0 (fun e' w' h=>.inr (.inl ⟨by simp[p0],h⟩))
   ·exact one b0 c a (fun f e w=>(f a=false∧f c=false∧WN P r N l C pur n D (U5a a0 f) e w∧WN P r N l C pur n D (U5a b0 f) e w)∨(f a=true∧WN P r N l C pur n D (U5a a0 f) e w)∨(f c=true∧WN P r N l C pur n D (U5a b0 f) e w)) e0 (inB i f0) D0 (fun _=>y0) x0 (fun e' w' h=>.inr (.inr ⟨by simp[y0],h⟩))
  ·rintro f e w ⟨hz,j0,hM⟩ o0;have rA:U5a a0 f=[]:=by
    unfold U5a;rw[List.filter_eq_nil_iff];intro j hj;simp[o0 j (by simpa using List.all_eq_true.1 I0 j hj)]
   have rB:U5a b0 f=[]:=by
    unfold U5a;rw[List.filter_eq_nil_iff];intro j hj;simp[o0 j (by simpa using List.all_eq_true.1 J0 j hj)]
   rw[rA,rB] at hM;rcases hM with⟨_,_,h,_⟩|⟨_,h⟩|⟨_,h⟩
   ·exact h.2
   ·exact h.2
   ·exact h.2
 unfold W at *;intro a hs hd he;refine hz (fun i hi=>?_) a hs hd he;rw[←he];simp only[O0a,Array.getD_eq_getD_getElem?];rw[Array.getElem?_eq_none (by omega)];rfl
variable {e:Env} {w:World}
theorem G7c(hC:C w)(h:K D e w):WN P r N l C pur K D [] e w:=⟨hC,h⟩
theorem M1b{i:Nat}{rest:List Nat}{o:Oper}(hC:C w)(ho:l[i]?=some o)(hp:pur i=true)(hv:v3c o.op=true)(h:QL P N l.toArray C [o] (fun e'=>WN P r N l C pur K D rest e' w) e):WN P r N l C pur K D (i::rest) e w:=by
 unfold QL at h;obtain⟨pa,hl,hq,hk⟩:=h;obtain⟨d,v,h1,h2,h3,h4⟩:=hq 0 o Z;obtain rfl:pa=[(d,v)]:=by
  match pa,hl,h1 with
  | [x],_,h1=>simpa using h1
 refine⟨hC,o,ho,fun d' a0=>by rw[h2] at a0;cases a0;exact h3,.inl ⟨hp,d,v,h2,?_,hk⟩⟩;rcases h4 with⟨h5,h6⟩|h5
 ·refine .inl ⟨h5,fun w hw=>?_⟩;rcases h6 w hw with h7|⟨f,args,h7,_⟩
  ·exact h7
  ·obtain⟨_,hv'⟩:=O5a hv h7;cases hv'
 ·exact .inr h5
theorem X1d{i:Nat}{rest:List Nat}{o:Oper}(hC:C w)(ho:l[i]?=some o)(hp:pur i=false)(hN:(o.dst.all fun d=>Nat.ble (d+1) N)=true)
 (h:WL P r N l.toArray [o] (fun D' e' w'=>D'=D∧WN P r N l C pur K D rest e' w') D e w):WN P r N l C pur K D (i::rest) e w :=
 ⟨hC,o,ho,fun d hd=>by rw[hd] at hN;exact Nat.le_of_ble_eq_true (by simpa using hN),.inr ⟨hp,h⟩⟩
end
inductive o2a where
 | nil
 | op (i:Nat) (t:o2a)
 | two (a b:o2a)
section
variable {P:Program} {r:Option Nat} {N:Nat} {l:List Oper} {C:World→Prop} {pur:Nat→Bool} {K:List Deferred→Env→World→Prop} {D:List Deferred}
def WT(P:Program)(r:Option Nat)(N:Nat)(l:List Oper)(C:World→Prop)(pur:Nat→Bool)(K:List Deferred→Env→World→Prop)(D:List Deferred):o2a→Env→World→Prop
 | .nil,e,w=>C w∧K D e w
 | .op i t,e,w=>C w∧∃o,l[i]?=some o∧z1b N o ∧
  ((pur i=true∧∃d v,o.dst=some d∧PV P l C o e v∧WT P r N l C pur K D t (upd e d v) w) ∨
   (pur i=false∧WL P r N l.toArray [o] (fun D' e' w'=>D'=D∧WT P r N l C pur K D t e' w') D e w))
 | .two a b,e,w=>WT P r N l C pur K D a e w∧WT P r N l C pur K D b e w
theorem WT.inC:∀{t:o2a} {e:Env} {w:World},WT P r N l C pur K D t e w→C w
 | .nil,_,_,h=>h.1
 | .op _ _,_,_,h=>h.1
 | .two _ _,_,_,h=>WT.inC h.1
def o2a.del(i:Nat):o2a→o2a
 | .nil=>.nil
 | .op j t=>if j=i then t else .op j (t.del i)
 | .two a b=>.two (a.del i) (b.del i)
def frA(l:List Oper)(pur:Nat→Bool)(i:Nat):o2a→Bool
 | .nil=>false
 | .op j t=>j==i||(o4a l pur j i&&frA l pur i t)
 | .two a b=>frA l pur i a&&frA l pur i b
def frO(l:List Oper)(pur:Nat→Bool)(i:Nat):o2a→Bool
 | .nil=>false
 | .op j t=>j==i||(pur j&&o4a l pur j i&&frO l pur i t)
 | .two a b=>frO l pur i a||frO l pur i b
def o2a.sel(l:List Oper)(pur:Nat→Bool)(i:Nat):o2a→o2a
 | .nil=>.nil
 | .op j t=>if j=i then t else .op j (t.sel l pur i)
 | .two a b=>bif frO l pur i a then a.sel l pur i else b.sel l pur i
theorem WT.quiet(a0:f3a l=true){i:Nat}(c0:pur i=true):∀(t:o2a) (e:Env) (w:World),frA l pur i t=true→(∀i,N≤i→e i=undef)→WT P r N l C pur K D t e w →
 ∃o d v,l[i]?=some o∧z1b N o∧o.dst=some d∧PV P l C o e v∧WT P r N l C pur K D (t.del i) (upd e d v) w
 | .nil,_,_,hf,_,_=>by simp[frA] at hf
 | .two a b,e,w,hf,hz,h=>by
   simp only[frA,Bool.and_eq_true] at hf;obtain⟨o,d,v,h1,h2,h3,h4,h5⟩:=WT.quiet a0 c0 a e w hf.1 hz h.1;obtain⟨o',d',v',g1,_,g3,g4,g5⟩:=WT.quiet a0 c0 b e w hf.2 hz h.2;obtain rfl:o'=o:=Option.some.inj (g1.symm.trans h1);obtain rfl:d'=d:=Option.some.inj (g3.symm.trans h3);obtain rfl:v'=v:=PV.uniq h.1.inC g4 h4;exact⟨o',d',v',h1,h2,h3,h4,h5,g5⟩
 | .op j t,e,w,hf,hz,h=>by
   obtain⟨hC,p,hp,b0,h⟩:=h;by_cases f0:j=i
   ·subst f0;rcases h with⟨_,d,v,hd,hv,h⟩|⟨i0,_⟩
    ·exact⟨p,d,v,hp,b0,hd,hv,by simpa[o2a.del] using h⟩
    ·rw[c0] at i0;cases i0
   ·have hq:o4a l pur j i=true∧frA l pur i t=true:=by simpa[frA,f0] using hf
    have e0:(o2a.op j t).del i=.op j (t.del i):=by simp[o2a.del,f0]
    rw[e0];rcases h with⟨g0,c,u,hc,hu,h⟩|⟨g0,h⟩
    ·obtain⟨o,d,v,ho,hN,hd,hv,h2⟩:=WT.quiet a0 c0 t (upd e c u) w hq.2 (s1a (b0 c hc) hz) h;have hI:=I4a hq.1 hp ho;refine⟨o,d,v,ho,hN,hd,hv.congr (w0a a0 ho).1 (fun s hs=>t1a (hI.q c hc) hs),hC,p,hp,b0,.inl ⟨g0,c,u,hc,hu.congr (w0a a0 hp).1 (fun s hs=>(t1a (hI.p d hd) hs).symm),?_⟩⟩;rw[←z2a _ _ _ (hI.dst c d hc hd)];exact h2
    ·have h0:=u2a (e:=e) (e1:=e) b0 (w0a a0 hp).1 (w0a a0 hp).2 hz (fun _ _=>rfl) h;obtain⟨_,u1,w1,_,p0,_,h1⟩:=V8b b0 hz h0;rw[←p0] at h1;obtain⟨o,d,v0,ho,hN,hd,q0,h2⟩:=WT.quiet a0 c0 t (p9a e p.dst u1) w1 hq.2 (z4a b0 hz) h1;have hI:=I4a hq.1 hp ho;have d0:PV P l C o e v0:=q0.congr (w0a a0 ho).1 (fun s hs=>x4a hI.q hs);refine⟨o,d,v0,ho,hN,hd,d0,hC,p,hp,b0,.inr ⟨g0,?_⟩⟩;have h3:=u2a (e:=upd e d v0) (e1:=e) b0 (w0a a0 hp).1 (w0a a0 hp).2 hz (fun s hs=>t1a (hI.p d hd) hs) h;unfold WL at *;refine fun a Q hs hD he hK=>h3 a Q hs hD he (fun a' w' o0 hh=>hK a' w' o0 ?_);obtain⟨u,hu,j0,h4⟩:=hh;refine⟨j0,?_⟩;obtain⟨o',d',v,n0,_,m0,hv,h5⟩:=WT.quiet a0 c0 t (p9a e p.dst u) w' hq.2 (z4a b0 hz) h4;obtain rfl:o'=o:=Option.some.inj (n0.symm.trans ho);obtain rfl:d'=d:=Option.some.inj (m0.symm.trans hd);have hv':PV P l C o' e v:=hv.congr (w0a a0 ho).1 (fun s hs=>x4a hI.q hs);obtain rfl:v=v0:=PV.uniq hC hv' d0;have e1:upd (p9a e p.dst u) d' v=p9a (upd e d' v) p.dst u:=by
      have:=V7a e (p:=p) (q:=o') u v hI.dst;rw[hd] at this;exact this
     rw[hu,←e1];exact h5
theorem WT.loud(a0:f3a l=true){i:Nat}(d0:pur i=false):∀(t:o2a) (e:Env) (w:World),frO l pur i t=true→(∀i,N≤i→e i=undef)→WT P r N l C pur K D t e w →
 ∃o,l[i]?=some o∧z1b N o∧WL P r N l.toArray [o] (fun D' e' w'=>D'=D∧∃v,e'=p9a e o.dst v∧WT P r N l C pur K D (t.sel l pur i) e' w') D e w
 | .nil,_,_,hf,_,_=>by simp[frO] at hf
 | .two a b,e,w,hf,hz,h=>by
   simp only[frO,Bool.or_eq_true] at hf;cases ha:frO l pur i a with
   | true =>
     have:=WT.loud a0 d0 a e w ha hz h.1;simpa[o2a.sel,ha] using this
   | false =>
     have:=WT.loud a0 d0 b e w (hf.resolve_left (by rw[ha];simp)) hz h.2;simpa[o2a.sel,ha] using this
 | .op j t,e,w,hf,hz,h=>by
   obtain⟨_,p,hp,c0,h⟩:=h;by_cases f0:j=i
   ·subst f0;rcases h with⟨i0,_⟩|⟨_,h⟩
    ·rw[d0] at i0;cases i0
    ·refine⟨p,hp,c0,?_⟩;have b0:(o2a.op j t).sel l pur j=t:=by simp[o2a.sel]
     rw[b0];have h2:=u2a (e:=e) (e1:=e) c0 (w0a a0 hp).1 (w0a a0 hp).2 hz (fun _ _=>rfl) h;unfold WL at *;exact fun a Q hs hD he hK=>h2 a Q hs hD he (fun a' w' g0 ⟨v,h1,h3,h4⟩=>hK a' w' g0 ⟨h3,v,h1,by rw[h1];exact h4⟩)
   ·have hq:(pur j=true∧o4a l pur j i=true)∧frO l pur i t=true:=by simpa[frO,f0] using hf
    have b0:(o2a.op j t).sel l pur i=.op j (t.sel l pur i):=by simp[o2a.sel,f0]
    rw[b0];rcases h with⟨e0,c,u,hc,hu,h⟩|⟨e0,_⟩
    ·obtain⟨o,ho,hN,h2⟩:=WT.loud a0 d0 t (upd e c u) w hq.2 (s1a (c0 c hc) hz) h;have hI:=I4a hq.1.2 hp ho;refine⟨o,ho,hN,?_⟩;have h3:=u2a (e:=e) (e1:=upd e c u) hN (w0a a0 ho).1 (w0a a0 ho).2 (s1a (c0 c hc) hz) (fun s hs=>(t1a (hI.q c hc) hs).symm) h2;unfold WL at *;refine fun a Q hs hD he hK=>h3 a Q hs hD he (fun a' w' g0 hh=>hK a' w' g0 ?_);obtain⟨v,h1,h4,_,_,h6⟩:=hh;refine⟨h4,v,h1,?_⟩;rw[h1];refine⟨h6.inC,p,hp,c0,.inl ⟨e0,c,u,hc,hu.congr (w0a a0 hp).1 (fun s hs=>(x4a hI.p hs).symm),?_⟩⟩;have e1:p9a (upd e c u) o.dst v=upd (p9a e o.dst v) c u:=by
      have:=V7a e (p:=p) (q:=o) u v hI.dst;rw[hc] at this;exact this
     rw[←e1];exact h6
    ·rw[hq.1.1] at e0;cases e0
def o2a.paths:o2a→List (List Nat)
 | .nil=>[[]]
 | .op i t=>t.paths.map (i::·)
 | .two a b=>a.paths++b.paths
theorem o2a.paths_ne:∀t:o2a,∃π,π∈t.paths
 | .nil=>⟨[],by simp[o2a.paths]⟩
 | .op i t=>by obtain⟨π,h⟩:=t.paths_ne;exact⟨i::π,List.mem_map.2 ⟨π,h,Z⟩⟩
 | .two a b=>by obtain⟨π,h⟩:=a.paths_ne;exact⟨π,List.mem_append_left _ h⟩
theorem o2a.paths_del{i:Nat}:∀(t:o2a) (ρ:List Nat),ρ∈(t.del i).paths→∃π∈t.paths,ρ=π.erase i
 | .nil,ρ,h=>⟨[],by simp[o2a.paths],by simpa[o2a.del,o2a.paths] using h⟩
 | .two a b,ρ,h=>by
   rcases List.mem_append.1 h with h|h
   ·obtain⟨π,h1,h2⟩:=a.paths_del ρ h;exact⟨π,List.mem_append_left _ h1,h2⟩
   ·obtain⟨π,h1,h2⟩:=b.paths_del ρ h;exact⟨π,List.mem_append_right _ h1,h2⟩
 | .op j t,ρ,h=>by
   by_cases hj:j=i
   ·subst hj;simp only[o2a.del,if_pos] at h;exact⟨j::ρ,List.mem_map.2 ⟨ρ,h,Z⟩,by simp⟩
   ·simp only[o2a.del,if_neg hj,o2a.paths] at h;obtain⟨ρ',h2,rfl⟩:=List.mem_map.1 h;obtain⟨π,h1,rfl⟩:=t.paths_del ρ' h2;exact⟨j::π,List.mem_map.2 ⟨π,h1,Z⟩,by rw[List.erase_cons_tail (by simpa using hj)]⟩
theorem o2a.paths_sel{i:Nat}:∀(t:o2a) (ρ:List Nat),ρ∈(t.sel l pur i).paths→∃π∈t.paths,ρ=π.erase i
 | .nil,ρ,h=>⟨[],by simp[o2a.paths],by simpa[o2a.sel,o2a.paths] using h⟩
 | .two a b,ρ,h=>by
   cases ha:frO l pur i a with
   | true =>
     simp only[o2a.sel,ha,cond_true] at h;obtain⟨π,h1,h2⟩:=a.paths_sel ρ h;exact⟨π,List.mem_append_left _ h1,h2⟩
   | false =>
     simp only[o2a.sel,ha,cond_false] at h;obtain⟨π,h1,h2⟩:=b.paths_sel ρ h;exact⟨π,List.mem_append_right _ h1,h2⟩
 | .op j t,ρ,h=>by
   by_cases hj:j=i
   ·subst hj;simp only[o2a.sel,if_pos] at h;exact⟨j::ρ,List.mem_map.2 ⟨ρ,h,Z⟩,by simp⟩
   ·simp only[o2a.sel,if_neg hj,o2a.paths] at h;obtain⟨ρ',h2,rfl⟩:=List.mem_map.1 h;obtain⟨π,h1,rfl⟩:=t.paths_sel ρ' h2;exact⟨j::π,List.mem_map.2 ⟨π,h1,Z⟩,by rw[List.erase_cons_tail (by simpa using hj)]⟩
def I4d(l:List Oper)(pur:Nat→Bool)(j i:Nat):Bool:=(C3a l i).contains j||o4a l pur j i||(!pur j&&!pur i)
def pwT(l:List Oper)(pur:Nat→Bool):List Nat→Bool
 | []=>true
 | j::π=>π.all (I4d l pur j)&&pwT l pur π
theorem v7c:∀{π:List Nat},pwT l pur π=true→π.Pairwise fun j i=>I4d l pur j i=true
 | [],_=>.nil
 | j::π,h=>by
   simp only[pwT,Bool.and_eq_true,List.all_eq_true] at h;exact .cons h.1 (v7c h.2)
def o2a.nxts(pur:Nat→Bool):o2a→List Nat
 | .nil=>[]
 | .op j t=>bif pur j then t.nxts pur else[j]
 | .two a b=>a.nxts pur++b.nxts pur
def W5b(l:List Oper)(pur:Nat→Bool)(acc:List Nat)(t:o2a):Bool:=(List.range l.length).all fun i=>pur i||acc.contains i||(t.nxts pur).contains i||(C3a l i).any fun j=>!pur j&&!acc.contains j
def r4b(l:List Oper)(pur:Nat→Bool):List Nat→o2a→Bool
 | _,.nil=>true
 | acc,.op j t=>bif pur j then r4b l pur acc t else W5b l pur (j::acc) t&&r4b l pur (j::acc) t
 | acc,.two a b=>r4b l pur acc a&&r4b l pur acc b
def V6c(l:List Oper)(pur:Nat→Bool)(t:o2a):Bool :=
 f3a l&&((List.range l.length).all fun i=>(X0a l i).all fun j=>decide (j<i))&&(t.paths.all fun π=>Y9b l.length π&&pwT l pur π)&&W5b l pur [] t&&r4b l pur [] t
theorem n6a{i:Nat}(hi:pur i=true):∀t:o2a,(t.del i).nxts pur=t.nxts pur
 | .nil=>rfl
 | .two a b=>by simp[o2a.del,o2a.nxts,n6a hi a,n6a hi b]
 | .op j t=>by
   by_cases hj:j=i
   ·subst hj;simp[o2a.del,o2a.nxts,hi]
   ·simp only[o2a.del,if_neg hj,o2a.nxts];rw[n6a hi t]
theorem Y7a{i:Nat}(hi:pur i=true):∀(t:o2a) (acc:List Nat),r4b l pur acc t=true→r4b l pur acc (t.del i)=true
 | .nil,_,h=>h
 | .two a b,acc,h=>by
   simp only[o2a.del,r4b,Bool.and_eq_true] at h ⊢;exact⟨Y7a hi a acc h.1,Y7a hi b acc h.2⟩
 | .op j t,acc,h=>by
   by_cases hj:j=i
   ·subst hj;simpa[o2a.del,r4b,hi] using h
   ·simp only[o2a.del,if_neg hj,r4b] at h ⊢;cases hp:pur j with
    | true=>rw[hp] at h;exact Y7a hi t acc h
    | false =>
      rw[hp] at h;simp only[cond_false,Bool.and_eq_true] at h ⊢;exact⟨by have:=h.1;unfold W5b at this ⊢;rw[n6a hi t];exact this,Y7a hi t _ h.2⟩
theorem W9a{i:Nat}(hi:pur i=false):∀(t:o2a) (acc:List Nat),frO l pur i t=true→r4b l pur acc t=true→W5b l pur (i::acc) (t.sel l pur i)=true∧r4b l pur (i::acc) (t.sel l pur i)=true
 | .nil,_,hf,_=>by simp[frO] at hf
 | .two a b,acc,hf,h=>by
   simp only[frO,Bool.or_eq_true] at hf;simp only[r4b,Bool.and_eq_true] at h;cases ha:frO l pur i a with
   | true=>simp only[o2a.sel,ha,cond_true];exact W9a hi a acc ha h.1
   | false=>simp only[o2a.sel,ha,cond_false];exact W9a hi b acc (hf.resolve_left (by rw[ha];simp)) h.2
 | .op j t,acc,hf,h=>by
   by_cases hj:j=i
   ·subst hj;simp only[o2a.sel,if_pos,r4b,hi,cond_false,Bool.and_eq_true] at h ⊢;exact h
   ·have hq:(pur j=true∧o4a l pur j i=true)∧frO l pur i t=true:=by simpa[frO,hj] using hf
    simp only[r4b,hq.1.1,cond_true] at h;have:=W9a hi t acc hq.2 h;simp only[o2a.sel,if_neg hj,r4b,hq.1.1,cond_true];refine⟨?_,this.2⟩;have h1:=this.1;unfold W5b at h1 ⊢;simpa[o2a.nxts,hq.1.1] using h1
theorem w3b{i:Nat}:∀t:o2a,(∀π∈t.paths,i∈π∧∀A B,π=A++i::B→i∉A→∀j∈A,o4a l pur j i=true)→frA l pur i t=true
 | .nil,h=>by have:=(h [] (by simp[o2a.paths])).1;cases this
 | .two a b,h=>by
   simp only[frA,Bool.and_eq_true];exact⟨w3b a fun π hπ=>h π (List.mem_append_left _ hπ),w3b b fun π hπ=>h π (List.mem_append_right _ hπ)⟩
 | .op j t,h=>by
   by_cases hj:j=i
   ·simp[frA,hj]
   ·have a0:∀π∈t.paths,i∈π:=fun π hπ=>by
     have:=(h (j::π) (List.mem_map.2 ⟨π,hπ,Z⟩)).1;rcases List.mem_cons.1 this with h|h
     ·exact absurd h.symm hj
     ·exact h
    have hq:o4a l pur j i=true:=by
     obtain⟨π,hπ⟩:=t.paths_ne;obtain⟨A,B,he,hA⟩:=List.eq_append_cons_of_mem (a0 π hπ);exact(h (j::π) (List.mem_map.2 ⟨π,hπ,Z⟩)).2 (j::A) B (by rw[he];rfl) (by simp[hA];exact fun e=>hj e.symm) j (by simp)
    simp only[frA,Bool.or_eq_true,Bool.and_eq_true];refine .inr ⟨hq,w3b t fun π hπ=>⟨a0 π hπ,fun A B he hA k hk=>?_⟩⟩;exact(h (j::π) (List.mem_map.2 ⟨π,hπ,Z⟩)).2 (j::A) B (by rw[he];rfl) (by simp[hA];exact fun e=>hj e.symm) k (by simp[hk])
theorem y2b{i:Nat}(hi:pur i=false):∀t:o2a,i∈t.nxts pur→(∀π∈t.paths,∀A B,π=A++i::B→∀j∈A,pur j=true→o4a l pur j i=true)→frO l pur i t=true∧∃π∈t.paths,i∈π
 | .nil,hn,_=>by simp[o2a.nxts] at hn
 | .two a b,hn,h=>by
   rcases List.mem_append.1 hn with hn|hn
   ·obtain⟨h1,π,h2,h3⟩:=y2b hi a hn fun π hπ=>h π (List.mem_append_left _ hπ);exact⟨by simp[frO,h1],π,List.mem_append_left _ h2,h3⟩
   ·obtain⟨h1,π,h2,h3⟩:=y2b hi b hn fun π hπ=>h π (List.mem_append_right _ hπ);exact⟨by simp[frO,h1],π,List.mem_append_right _ h2,h3⟩
 | .op j t,hn,h=>by
   cases hp:pur j with
   | false =>
     have:i=j:=by simpa[o2a.nxts,hp] using hn
     subst this;obtain⟨π,hπ⟩:=t.paths_ne;exact⟨by simp[frO],i::π,List.mem_map.2 ⟨π,hπ,Z⟩,by simp⟩
   | true =>
     obtain⟨h1,π,h2,h3⟩:=y2b hi t (by simpa[o2a.nxts,hp] using hn) fun π hπ A B he k hk a0=>h (j::π) (List.mem_map.2 ⟨π,hπ,Z⟩) (j::A) B (by rw[he];rfl) k (by simp[hk]) a0;obtain⟨A,B,he⟩:=List.append_of_mem h3;have hq:=h (j::π) (List.mem_map.2 ⟨π,h2,Z⟩) (j::A) B (by rw[he];rfl) j (by simp) hp;exact⟨by simp[frO,hp,hq,h1],j::π,List.mem_map.2 ⟨π,h2,Z⟩,by simp[h3]⟩
theorem WT.done:∀{t:o2a} {e:Env} {w:World},(∀π∈t.paths,π=[])→WT P r N l C pur K D t e w→K D e w
 | .nil,_,_,_,h=>h.2
 | .op i t,_,_,hp,_=>by
   obtain⟨π,hπ⟩:=t.paths_ne;have:=hp (i::π) (List.mem_map.2 ⟨π,hπ,Z⟩);cases this
 | .two a b,_,_,hp,h=>WT.done (fun π hπ=>hp π (List.mem_append_left _ hπ)) h.1
structure K7c (l:List Oper) (pur:Nat→Bool) (t:o2a) (f:Nat→Bool) (acc:List Nat):Prop where
 nd:∀π∈t.paths,π.Nodup
 full:∀π∈t.paths,∀i,i∈π↔(i<l.length∧f i=false)
 ord:∀π∈t.paths,π.Pairwise fun j i=>I4d l pur j i=true
 here_:W5b l pur acc t=true
 sub:r4b l pur acc t=true
 got:∀i,i∈acc→f i=true
 out:∀i,pur i=false→f i=true→i∈acc
theorem K7c.ahead{t:o2a}{f:Nat→Bool}{acc:List Nat}(h:K7c l pur t f acc)(a0:∀i,f i=true→∀j∈X0a l i,f j=true){i:Nat}(b0:∀j∈X0a l i,f j=true){π:List Nat}(hπ:π∈t.paths){A B:List Nat}(he:π=A++i::B){j:Nat}(hj:j∈A)(hq:pur j=true∨pur i=true):o4a l pur j i=true:=by
 have h1:=h.ord π hπ;rw[he,List.pairwise_append] at h1;have h2:=h1.2.2 j hj i (by simp);have h3:=(h.full π hπ j).1 (by rw[he];simp[hj]);unfold I4d at h2;simp only[Bool.or_eq_true,List.contains_eq_mem,decide_eq_true_eq,Bool.and_eq_true,Bool.not_eq_true'] at h2;rcases h2 with(h2|h2)|h2
 ·have:=e3a a0 _ _ b0 j h2;rw[h3.2] at this;cases this
 ·exact h2
 ·rcases hq with hq|hq
  ·rw[hq] at h2;cases h2.1
  ·rw[hq] at h2;cases h2.2
theorem K7c.erase{t t':o2a}{f:Nat→Bool}{acc a0:List Nat}{i:Nat}(h:K7c l pur t f acc)(hp:∀ρ∈t'.paths,∃π∈t.paths,ρ=π.erase i)(h1:W5b l pur a0 t'=true)(h2:r4b l pur a0 t'=true)(h3:∀j,j∈a0→j∈acc∨j=i)(h4:∀j,j∈acc∨(j=i∧pur i=false)→j∈a0):K7c l pur t' (fun j=>f j||j==i) a0 where
 nd ρ hρ:=by obtain⟨π,hπ,rfl⟩:=hp ρ hρ;exact(h.nd π hπ).erase i
 full ρ hρ j:=by
  obtain⟨π,hπ,rfl⟩:=hp ρ hρ;rw[(h.nd π hπ).mem_erase_iff,h.full π hπ j];simp only[Bool.or_eq_false_iff,beq_eq_false_iff_ne];exact⟨fun z=>⟨z.2.1,z.2.2,z.1⟩,fun z=>⟨z.2.2,z.1,z.2.1⟩⟩
 ord ρ hρ:=by obtain⟨π,hπ,rfl⟩:=hp ρ hρ;exact(h.ord π hπ).sublist List.erase_sublist
 here_:=h1
 sub:=h2
 got j hj:=by
  rcases h3 j hj with z|rfl
  ·simp[h.got j z]
  ·simp
 out j hj hf:=by
  simp only[Bool.or_eq_true,beq_iff_eq] at hf;rcases hf with z|rfl
  ·exact h4 j (.inl (h.out j hj z))
  ·exact h4 j (.inr ⟨Z,hj⟩)
theorem m2b{id:Nat}{n t:List Deferred→Env→World→Prop}{b:Nat→List Deferred→Env→World→Prop}{e:Env}{w:World}(hm:P.follows .mixedOrders=true)(pur:Nat→Bool)(T:o2a)(C:World→Prop)
 (hW:WT P r N l C pur n D T e w.drew) (m0:V6c l pur T=true:=by kernel_rfl):W P r N (.region id l.toArray true) ⟨n,b,t⟩ D e w:=by
 unfold V6c at m0;simp only[Bool.and_eq_true] at m0;obtain⟨⟨⟨⟨n0,u0⟩,y0⟩,v0⟩,B0⟩:=m0;have a0:=fun π (hπ:π∈T.paths)=>List.all_eq_true.1 y0 π hπ;have hz:(∀i,N≤i→e i=undef)→W P r N (.region id l.toArray true) ⟨n,b,t⟩ D e w:=by
  intro hz;refine o3c hm u0 (fun f e w=>(∀i,N≤i→e i=undef)∧(∀i,f i=true→∀j∈X0a l i,f j=true)∧∃t acc,K7c l pur t f acc∧WT P r N l C pur n D t e w) ⟨hz,by simp,T,[],⟨fun π hπ=>?_,fun π hπ i=>?_,fun π hπ=>?_,v0,B0,by simp,by simp⟩,hW⟩ ?_ ?_
  ·have:=a0 π hπ;unfold Y9b at this;simp only[Bool.and_eq_true] at this;exact f8a this.1.1.1
  ·have:=a0 π hπ;unfold Y9b at this;simp only[Bool.and_eq_true] at this;refine⟨fun h=>⟨by simpa using List.all_eq_true.1 this.1.2 i h,Z⟩,fun h=>by simpa using List.all_eq_true.1 this.1.1.2 i (List.mem_range.2 h.1)⟩
  ·have:=a0 π hπ;simp only[Bool.and_eq_true] at this;exact v7c this.2
  ·rintro f e w i o ⟨hz,e0,t,acc,hA,hT⟩ ho q0 g0;have r0:i<l.length:=(List.getElem?_eq_some_iff.1 ho).1;have c0:∀k,(f k||k==i)=true→∀j∈X0a l k,(f j||j==i)=true:=by
    intro k hk j hj;simp only[Bool.or_eq_true,beq_iff_eq] at hk ⊢;rcases hk with hk|rfl
    ·exact .inl (e0 k hk j hj)
    ·exact .inl (g0 j hj)
   cases b0:pur i with
   | true =>
     have f0:frA l pur i t=true:=w3b t fun π hπ=>⟨(hA.full π hπ i).2 ⟨r0,q0⟩,fun A B he _ j hj=>hA.ahead e0 g0 hπ he hj (.inr b0)⟩
     obtain⟨o',d,v,j0,hN,hd,hv,h5⟩:=WT.quiet n0 b0 t e w f0 hz hT;obtain rfl:o'=o:=Option.some.inj (j0.symm.trans ho);have d0:K7c l pur (t.del i) (fun j=>f j||j==i) acc:=hA.erase (o2a.paths_del t) (by have:=hA.here_;unfold W5b at this ⊢;rw[n6a b0 t];exact this) (Y7a b0 t acc hA.sub) (fun j hj=>.inl hj) (fun j hj=>hj.elim (fun z=>z) (fun z=>by rw[b0] at z;cases z.2));have s0:=hT.inC;rcases hv with⟨p0,hv⟩|⟨p0,rfl⟩
     ·unfold WL;intro a Q hs hD he hK;simp only[wpListIn];have o0:Region.wanted o' (yielded l.toArray a.tmps)=true:=by rw[b1a,he];exact p0
      simp only[o0,if_true];refine⟨z0a _ _ _,?_⟩;rw[Oper.semAt_eq _ _ _ (w0a n0 ho).2,m2a,he,hv w s0,Oper.uponIn_value];refine hK _ _ (by rw[R3a,hs]) ⟨by rw[k2a,hD],?_⟩;rw[hd,U0a v (by rw[hs];exact hN d hd),he];exact⟨s1a (hN d hd) hz,c0,_,_,d0,h5⟩
     ·unfold WL;intro a Q hs hD he hK;simp only[wpListIn];have o0:Region.wanted o' (yielded l.toArray a.tmps)=false:=by rw[b1a,he];exact p0
      simp only[o0];refine⟨z0a _ _ _,?_⟩;refine hK _ _ (by rw[R3a,hs]) ⟨by rw[k2a,hD],?_⟩;rw[hd,U0a undef (by rw[hs];exact hN d hd),he];exact⟨s1a (hN d hd) hz,c0,_,_,d0,h5⟩
   | false =>
     have x0:i∈t.nxts pur:=by
      have h1:=List.all_eq_true.1 hA.here_ i (List.mem_range.2 r0);simp only[Bool.or_eq_true,b0,Bool.false_eq_true,false_or,List.contains_eq_mem,decide_eq_true_eq,List.any_eq_true,Bool.and_eq_true,Bool.not_eq_true',decide_eq_false_iff_not] at h1;rcases h1 with(h1|h1)|⟨j,h1,h2,h3⟩
      ·have:=hA.got i h1;rw[q0] at this;cases this
      ·exact h1
      ·exact absurd (hA.out j h2 (e3a e0 _ _ g0 j h1)) h3
     obtain⟨f0,-⟩:=y2b (l:=l) b0 t x0 fun π hπ A B he j hj z0=>hA.ahead e0 g0 hπ he hj (.inl z0);obtain⟨o',j0,hN,h5⟩:=WT.loud n0 b0 t e w f0 hz hT;obtain rfl:o'=o:=Option.some.inj (j0.symm.trans ho);have h6:=W9a b0 t acc f0 hA.sub;have d0:K7c l pur (t.sel l pur i) (fun j=>f j||j==i) (i::acc):=hA.erase (o2a.paths_sel t) h6.1 h6.2 (fun j hj=>by rcases List.mem_cons.1 hj with h|h;exact .inr h;exact .inl h) (fun j hj=>by rcases hj with h|h;simp[h];simp[h.1]);unfold WL at *;refine fun a Q hs hD he hK=>h5 a Q hs hD he (fun a' w' A0 hh=>hK a' w' A0 ?_);obtain⟨t0,v,hv,h7⟩:=hh;exact⟨t0,by rw[hv];exact z4a hN hz,c0,_,_,d0,h7⟩
  ·rintro f e w ⟨_,_,t,acc,hA,hT⟩ i0;refine WT.done (fun π hπ=>?_) hT;rw[List.eq_nil_iff_forall_not_mem];intro i hi;have:=(hA.full π hπ i).1 hi;rw[i0 i this.1] at this;cases this.2
 unfold W at *;intro a hs hd he;refine hz (fun i hi=>?_) a hs hd he;rw[←he];simp only[O0a,Array.getD_eq_getD_getElem?];rw[Array.getElem?_eq_none (by omega)];rfl
variable {e:Env} {w:World}
theorem p3a(hC:C w)(h:K D e w):WT P r N l C pur K D .nil e w:=⟨hC,h⟩
theorem Y4a{a b:o2a}(h1:WT P r N l C pur K D a e w)(h2:WT P r N l C pur K D b e w):WT P r N l C pur K D (.two a b) e w:=⟨h1,h2⟩
theorem q1a{i:Nat}{t:o2a}{o:Oper}(hC:C w)(ho:l[i]?=some o)(hp:pur i=true)(hv:v3c o.op=true)(h:QL P N l.toArray C [o] (fun e'=>WT P r N l C pur K D t e' w) e):WT P r N l C pur K D (.op i t) e w:=by
 unfold QL at h;obtain⟨pa,hl,hq,hk⟩:=h;obtain⟨d,v,h1,h2,h3,h4⟩:=hq 0 o Z;obtain rfl:pa=[(d,v)]:=by
  match pa,hl,h1 with
  | [x],_,h1=>simpa using h1
 refine⟨hC,o,ho,fun d' a0=>by rw[h2] at a0;cases a0;exact h3,.inl ⟨hp,d,v,h2,?_,hk⟩⟩;rcases h4 with⟨h5,h6⟩|h5
 ·refine .inl ⟨h5,fun w hw=>?_⟩;rcases h6 w hw with h7|⟨f,args,h7,_⟩
  ·exact h7
  ·obtain⟨_,hv'⟩:=O5a hv h7;cases hv'
 ·exact .inr h5
theorem g2a{i:Nat}{t:o2a}{o:Oper}(hC:C w)(ho:l[i]?=some o)(hp:pur i=false)(hN:(o.dst.all fun d=>Nat.ble (d+1) N)=true)
 (h:WL P r N l.toArray [o] (fun D' e' w'=>D'=D∧WT P r N l C pur K D t e' w') D e w):WT P r N l C pur K D (.op i t) e w :=
 ⟨hC,o,ho,fun d hd=>by rw[hd] at hN;exact Nat.le_of_ble_eq_true (by simpa using hN),.inr ⟨hp,h⟩⟩
end
abbrev clE{M:List Nat}{w0 w:World}{L:List Ent}(_:St M w0 w L)(k:Nat)(K:List Nat):World→Prop:=fun w1=>St M w0 w1 (L.eraseIdx k)∧t0a K w w1
abbrev X5d{M:List Nat}{w0 w:World}{L:List Ent}(_:St M w0 w L)(k j:Nat)(K:List Nat):World→Prop:=fun w1=>St M w0 w1 ((L.eraseIdx k).eraseIdx j)∧t0a K w w1
theorem St.er{M:List Nat}{w0 w:World}{L:List Ent}(S:St M w0 w L)(k:Nat):St M w0 w (L.eraseIdx k):=S.sublist (List.eraseIdx_sublist L k)
section
variable {P:Program} {r:Option Nat} {N:Nat} {D:List Deferred} {e:Env} {w:World}
theorem f9c{l p N:Nat}{rc:Loop}{x:Value}{a0 body:Code}{R:Value→World→Prop}(hl:w.heap[l]?=some (.loop rc))(hr:rc.state=.ready)(hN:rc.tmps.size=N)(f0:O0a { tmps:=rc.tmps,defers:=[] }=e)(b0:rc.params=#[p])(d0:rc.assign=a0)(e0:rc.body=body)(hp:Nat.ble (p+1) N=true)
 (h:W P (some l) N a0 ⟨fun D e w1=>w1.heap[l]?=some (.loop rc) ∧
   W P (some l) N body ⟨fun _ _ w3=>H5a l none R w3,fun id _ _ w3=>H5a l (some (.exit id)) R w3,fun _ _ w3=>H5a l (some .ret) R w3⟩ D e (w1.putObj l (.loop { rc with state:=.busy })),
   fun _ _ _ _=>False,fun _ _ _=>False⟩ [] (upd e p x) w):Yld P l #[x] w R:=by
 subst f0 d0 e0;have i0:=Nat.le_of_ble_eq_true hp;refine⟨rc,hl,by simp[b0],?_⟩;have hz:(rc.params.zip #[x]).foldl (fun tmps (t,a)=>tmps.setIfInBounds t a) rc.tmps=rc.tmps.setIfInBounds p x:=by rw[b0];simp
 rw[hz];refine roundIn_of_wpIn (F:=Fence.wide) trivial ?_;unfold W at h;have he:O0a { tmps:=rc.tmps.setIfInBounds p x,defers:=[] }=upd (O0a { tmps:=rc.tmps,defers:=[] }) p x:=by
  have h1:=U0a (a:={ tmps:=rc.tmps,defers:=[] }) (d:=p) x (by simp;omega);simp only[Act.put] at h1;rw[←h1]
 refine wpIn_mono (h { tmps:=rc.tmps.setIfInBounds p x,defers:=[] } (by simp[hN]) Z he) fun ex a w1 hq=>?_;cases ex with
 | normal =>
   obtain⟨hs,g0,hb⟩:=hq;refine⟨_,run_beginRound g0 hr,wpIn_mono (hb a hs Z Z) fun ex a w3 hq=>?_⟩;cases ex with
   | normal=>obtain⟨_,c0,h3,hR⟩:=hq;exact⟨_,_,run_endRound none h3,_,Z,hR⟩
   | ret=>obtain⟨_,c0,h3,hR⟩:=hq;exact⟨_,_,run_endRound (some .ret) h3,_,Z,hR⟩
   | exit id=>obtain⟨_,c0,h3,hR⟩:=hq;exact⟨_,_,run_endRound (some (.exit id)) h3,_,Z,hR⟩
   | goto l=>exact hq.elim
   | panic c=>exact hq.elim
   | outgrown=>exact hq.elim
 | exit id=>exact hq.2
 | ret=>exact hq.2
 | goto l=>exact hq.elim
 | panic c=>exact hq.elim
 | outgrown=>exact hq.elim
end
theorem V5a.over{wb w w1 w2:World}{v:Value}{l:List Int}{g:Nat}(h:V5a wb w v l)(Kx:t0a [] w w1)(Ks:t0a [g] w1 w2)(hg:g<wb.heap.size∨w.heap.size≤g)(_a0:l.length≤1000):RdI [] w2 v l:=by
 rcases hg with hg|hg
 ·exact(((h [g] (by simp;exact hg)).keep Kx.of_nil).keep Ks).less (by simp)
 ·exact((((h [] (by simp)).more (by omega) (fun x hx=>by rw[List.mem_singleton.1 hx];exact .inr hg)).keep Kx.of_nil).keep Ks).less (by simp)
theorem h8b.over{wb w w1 w2:World}{v:Value}{l:List (Int×Int)}{g:Nat}(h:h8b wb w v l)(Kx:t0a [] w w1)(Ks:t0a [g] w1 w2)(hg:g<wb.heap.size∨w.heap.size≤g)(_a0:l.length≤10000):h4b [] w2 v l:=by
 rcases hg with hg|hg
 ·exact(((h [g] (by simp;exact hg)).keep Kx.of_nil).keep Ks).less (by simp)
 ·exact((((h [] (by simp)).more (by omega) (fun x hx=>by rw[List.mem_singleton.1 hx];exact .inr hg)).keep Kx.of_nil).keep Ks).less (by simp)
noncomputable def allC(p:j0a)(t:Nat)(l:List Int):List Int:=Y5b (l++(onE p t).sup 3) ((onE p t).sup 2)
def y7b(p:j0a)(t:Nat)(l:List Int)(x y:Nat):Prop:=∃a b,ofR (onE p t) (allC p t l) (wdL p.cells (allC p t l)) (2 ^ (x2a (wdL p.cells (allC p t l))).toNat) a b∧x=nuZ l (wdL p.cells l) (stZ (allC p t l) (wdL p.cells (allC p t l)) a D2a)∧y=nuZ l (wdL p.cells l) (stZ (allC p t l) (wdL p.cells (allC p t l)) b D2a)
theorem i6c{p:j0a}{t:Nat}{l:List Int}{a0:Nat}(b0:x2a (wdL p.cells (allC p t l))=a0)(h6:a0≤6){m:List Nat}(hm:k5a m (ofR (onE p t) (allC p t l) (wdL p.cells (allC p t l)) (2 ^ a0)))(x y:Nat):
 ((x:Int),(y:Int))∈ddP ((t1b m 64).map (prj (allC p t l) (wdL p.cells (allC p t l)) l (wdL p.cells l)))↔y7b p t l x y:=by
 rw[c1b,List.mem_map];unfold y7b;rw[b0,Int.toNat_natCast];constructor
 ·rintro⟨q,hq,he⟩;obtain⟨a,b,-,-,h3,rfl⟩:=(hm.mem q).1 hq;unfold prj at he;simp only[Prod.mk.injEq,Int.toNat_natCast,Int.natCast_inj] at he;exact⟨a,b,h3,he.1.symm,he.2.symm⟩
 ·rintro⟨a,b,h3,rfl,rfl⟩;refine⟨((a:Int),(b:Int)),(hm.mem _).2 ⟨a,b,?_,?_,h3,Z⟩,?_⟩
  ·exact Nat.lt_of_lt_of_le h3.1 (Nat.pow_le_pow_right (n:=2) (j:=6) (by omega) h6)
  ·exact Nat.lt_of_lt_of_le h3.2.1 (Nat.pow_le_pow_right (n:=2) (j:=6) (by omega) h6)
  ·unfold prj;simp only[Int.toNat_natCast]
theorem Y7b.congr{w0 w:World}{v:Value}{C W:List Int}{R R':Nat→Nat→Prop}{n:Nat}(h:Y7b w0 w v C W R n)(hr:∀x y,R x y↔R' x y):Y7b w0 w v C W R' n:=by
 obtain⟨a,b,c,l,h1,h2,h3,h4,h5,h6,h7⟩:=h.get;refine⟨a,b,c,l,h1,h2,h3,h4,h5,h6,fun p=>(h7 p).trans ?_⟩;constructor
 ·rintro⟨x,y,h,rfl⟩;exact⟨x,y,h.mono fun a b=>(hr a b).1,Z⟩
 ·rintro⟨x,y,h,rfl⟩;exact⟨x,y,h.mono fun a b=>(hr a b).2,Z⟩
theorem Z0c(l:List Int):(U3a l).length=l.length:=by simp[U3a]
theorem m0b(p:j0a)(t:Nat)(l:List Int)(hr:r2a l)(hlc:∀c∈l,0≤c∧c<p.cells.length)(M:List Nat)(w0:World)(cs:List Value)(vl:Value)(hI:InP p M w0 cs)(hL:RdI M w0 vl l)(H4:onE p t≠zE)(p2:(onE p t).valid p.cells true=true)
 (C0:Nat) (hb:x2a (wdL p.cells l)=C0) (x0:Nat) (i2:x2a (wdL p.cells (allC p t l))=x0) (T0:x0≤6) (N1:∀c∈allC p t l,0≤c∧c<p.cells.length) (ht:t<p.threads.length:=by decide) (hb6:C0≤6:=by omega) :
 C0a prog 22 #[.agg cs.toArray,.int .i64 t,vl] w0 fun v w'=>(∃u,v=.tuple #[u,.int .i64 0]∧Y7b w0 w' u l (wdL p.cells l) (y7b p t l) (2 ^ C0))∧Below w0.heap.size w0 w':=by
 obtain⟨Ac,nc,cc,Am,nm,cm,Al,nl,cl,At,nt,ct,rfl,hC,_⟩:=hI.rd.open_;obtain⟨A,n,c,rfl⟩:=hL.form;have hM:=hI.lt;have hp:=hI.ok;have t1:∀c∈p.cells,1≤c.w∧c.w≤8:=fun c hc=>by have:=(hp.cells c hc).w;omega
 have y0:=hp.ncells;have ho:=X6a hr hlc y0 t1;have r1:=C4a (l++(onE p t).sup 3) ((onE p t).sup 2);have q2:r2a (allC p t l):=r1.1;have z3:=X6a q2 N1 y0 t1;have u5:=ho.clen;have k4:=z3.clen;have z5:=F8a (onE p t) 3;have y5:=F8a (onE p t) 2;have N4:=(B1a p2).1;have x5:=z4d N4;have U2:(onE p t).w=1:=by
  rcases T4a (op:=5) (unit:=1) (.inr Z) (R6a p t::(ofL p t).map (X3a p)) with h|h
  ·exact absurd h H4
  ·exact h.2
 have Q2:∀q∈[l,(onE p t).sup 3,(onE p t).sup 2],q.length≤1000:=fun q hq=>by
  simp only[List.mem_cons,List.not_mem_nil,or_false] at hq;rcases hq with rfl|rfl|rfl<;>omega
 have R1:[l,(onE p t).sup 3,(onE p t).sup 2].flatten=(l++(onE p t).sup 3)++(onE p t).sup 2:=by simp
 have v3:∀x∈allC p t l,i64 x:=fun x hx=>by have:=N1 x hx;unfold i64;omega
 have W0:(allC p t l).length≤140737488355328:=by omega
 have S:=(St.refl w0).nilEnt 72;refine q1b func22 Z ntmps22 Z (wI ?_);refine wO0 Z U (o0a S Z ?_);intro g3 w3 S3 X3 G3;refine g0a S3 r7a Z Z ?_;intro g6 w6 S6 X6 G6;refine lB0 Z U (fun h4=>by exfalso;omega) fun h4=>?_;refine lB S6.k [.o 1] Z ⟨Z,U⟩ (fun j4=>by exfalso;omega) fun j4=>?_;refine lO S6.k [.w 1] Z ⟨⟨Z,Z⟩,U⟩ (h0a S6 t9b Z Z (M6a p M _ _ (hI.keep (S6.keep0 M))) ?_);intro F3 f1 h5;refine lO f1.k [.o 1] Z ⟨Z,U⟩ ?_;have m5:w0.heap.size≤F3.heap.size:=f1.size;have K1:∀g∈[g6],g<F3.heap.size:=fun g hg=>by rw[List.mem_singleton.1 hg];exact f1.lt 0 Z
 refine n0a f1 x4d Z Z (m7b p.cells l M _ _ _ (hC.keep (f1.keep0 M)) (hL.keep (f1.keep0 M)) hr hlc y0 t1 (by omega) (hI.msk.keep (f1.keep0 M))) ?_;rintro D5 Y2 ⟨a,b,_,_,rfl,ha,x3,hd⟩ Q3 i5;obtain⟨A1,n1,c1,rfl⟩:=ha.form;obtain⟨A2,n2,c2,rfl⟩:=x3.form;obtain⟨A3,n3,c3,rfl⟩:=hd.form;have KQ:=t0a.refl [g6] Y2;refine lO0 Z U (g0a Q3 r7a Z Z ?_);intro g8 w8 S8 X8 G8;have t2:=Nat.le_trans KQ.size G8;replace KQ:=KQ.trans (X8.of_nil);refine d0a (kk:=0) (vs:=[_,_,_]) S8 y7a Z Z Z Z Z Z Z ?_;intro V4 P0 y2;dsimp only[i0a,List.set] at P0;replace KQ:=KQ.fresh2 y2 (by exact .inl t2);refine lB0 Z U (fun m4=>by exfalso;omega) fun m4=>?_;refine lO P0.k [.w 2] Z ⟨⟨Z,Z⟩,U⟩ (n0a P0 p3c Z Z (K1d (ht:=ht) p t M _ _ (hI.keep (P0.keep0 M))) ?_);rintro v45 H3 ⟨_,rfl,Y1⟩ R3 W3;replace KQ:=KQ.trans (W3.of_nil);obtain⟨a3,D3,E3,rfl,_⟩:=Y1.cells;have KE:=t0a.refl M H3;refine g0a R3 j2a Z Z ?_;intro s3 L5 P3 j3 b3;have y1:=Nat.le_trans KQ.size b3;have x1:=Nat.le_trans KE.size b3;replace KQ:=KQ.trans (j3.of_nil);replace KE:=KE.trans (j3.of_nil);refine d0a (kk:=0) (vs:=[_,_,_,_]) P3 v1a Z Z Z Z Z Z Z ?_;intro Z2 v0 G1;dsimp only[i0a,List.set] at v0;replace KQ:=KQ.fresh2 G1 (by exact .inl y1);replace KE:=KE.fresh2 G1 (by exact .inl x1);refine lB v0.k [.o 0] Z ⟨Z,U⟩ (fun o4=>by exfalso;omega) fun o4=>?_;refine lB0 Z U (fun p4=>by exfalso;omega) fun p4=>?_;refine lO v0.k [.w 0] Z ⟨⟨Z,Z⟩,U⟩ ?_;have a4:∀g∈M,g<Z2.heap.size:=fun g hg=>Nat.lt_of_lt_of_le (hM g hg) v0.size;refine n0a v0 s9b Z Z (Z4a (onE p t) M _ _ (RdE.keep KE _ _ Y1) (hI.msk.keep (v0.keep0 M)) a4) ?_;rintro E5 W4 ⟨_,_,rfl,M1,O1⟩ T3 o3;replace KQ:=KQ.trans (o3.of_nil);replace KE:=KE.trans (o3.of_nil);obtain⟨A4,n4,c4,rfl⟩:=M1.form;obtain⟨A5,n5,c5,rfl⟩:=O1.form;have KS:=t0a.refl M W4;refine lO0 Z U (m0a T3 P0b (vs:=[.slice _ _ _,.slice _ _ _,.slice _ _ _]) (cs:=[_,_,_]) Z Z Z Z Z Z ?_);intro F2 N5 s1 z2 a5;replace KQ:=KQ.trans (z2.of_nil);replace KE:=KE.trans (z2.of_nil);replace KS:=KS.trans (z2.of_nil);have o5:=KE.size;have b4:=KQ.size;refine n0a s1 Q7c Z Z (S5b M _ F2 [l,(onE p t).sup 3,(onE p t).sup 2] Q2 (by simp) (M5d (s1.cell 0 Z Z) (s1.cell 0 Z Z) (s1.cell 0 Z Z) (hL.keep (s1.keep0 M)) (M1.keep KS) (O1.keep KS))) ?_;rintro F5 O5 ⟨z0,E2,q1,o1⟩ U3 p3;have D1:=U3.pushO s1 o1;rw[R1] at q1;have j2:∀g∈z0.toList,H3.heap.size≤g∨g∈M:=fun g hg=>.inl (by have:=(o1 g (by cases z0<;>simp at hg ⊢;exact hg.symm)).1;omega);have o2:∀g∈z0.toList,Y2.heap.size≤g∨g∈[g6]:=fun g hg=>.inl (by have:=(o1 g (by cases z0<;>simp at hg ⊢;exact hg.symm)).1;omega);replace KE:=KE.trans p3.of_nil;replace KQ:=KQ.trans p3.of_nil;obtain⟨_,_,_,rfl⟩:=q1.form;refine lO0 Z U ?_;refine p1a e3c Z Z (B5c _ z0 _ E2 _ _ q1 (fun g hg=>by subst hg;exact D1.blk 0 Z) (by simp;omega)) ?_;rintro G5 Z1 ⟨J1,r2,H2,V1⟩;have b2:=D1.changedO 0 Z r2 H2;dsimp only[List.set] at b2;replace KE:=KE.freshL r2.keepO j2;replace KQ:=KQ.freshL r2.keepO o2;refine lCn 2 b2.k [] Z U (wX (fun D ε w=>D=[]∧∃J0:Nat,∃D0:List Value,∃B1:Option Addr,∃m1:Nat,∃d1:Nat,∃B2:Option Addr,∃m2:Nat,∃d2:Nat,∃B3:Option Addr,∃m3:Nat,∃d3:Nat,∃m:List Nat,(k5a m (ofR (onE p t) (allC p t l) (wdL p.cells (allC p t l)) (2 ^ x0)))∧(RdI [] w (.slice B1 m1 d1) (allC p t l))∧(RdI [] w (.slice B2 m2 d2) (wdL p.cells (allC p t l)))∧(h4b [] w (.slice B3 m3 d3) (t1b m 64))∧(t0a [g6] Y2 w)∧St [] w0 w [(some J0,41,[.slice B1 m1 d1,.slice B2 m2 d2,.slice B3 m3 d3]),(z0,3,D0),(some F2,28,[.slice A n c,.slice A4 n4 c4,.slice A5 n5 c5]),(some s3,37,[.int .i64 (onE p t).op,.int .i64 (onE p t).w,.int .i64 (onE p t).n,.slice a3 D3 E3]),(some g8,41,[.slice A1 n1 c1,.slice A2 n2 c2,.slice A3 n3 c3]),(some g6,41,[.slice none 0 0,.slice none 0 0,.slice none 0 0]),(some g3,27,[.slice Ac nc cc,.slice Am nm cm,.slice Al nl cl,.slice At nt ct]),(none,72,[])]∧Sl ε [(6,.pointer (some ⟨g6,0,none⟩)),(8,.pointer (some ⟨g8,0,none⟩)),(9,.int .i64 0),(14,.pointer (some ⟨J0,0,none⟩))]) ?_ ?_)
 ·have B5:(U3a ((l++(onE p t).sup 3)++(onE p t).sup 2)).length≤1000000:=by rw[Z0c];simp;omega
  obtain⟨wt,O4⟩:∃x,x=Z1:=⟨_,Z⟩;have KT:t0a [] wt Z1:=O4▸t0a.refl _ _;refine m2b b0a (fun i=>[0,1,2,4,6,7,8,11].contains i) (.op 0 (.op 1 (.op 2 (.op 4 (.two (.op 3 (.two (.op 5 (.op 6 (.op 7 (.op 8 (.op 9 (.op 10 (.op 11 .nil))))))) (.op 9 (.op 5 (.op 6 (.op 7 (.op 8 (.op 10 (.op 11 .nil))))))))) (.op 9 (.op 3 (.op 5 (.op 6 (.op 7 (.op 8 (.op 10 (.op 11 .nil))))))))))))) (clE b2 0 z0.toList) ?_;have g0:=b2.drew;have I1:t0a [] Z1 Z1.drew:=P2a _ _;generalize Z1.drew=Y4 at g0 I1 ⊢;have o0:t0a (z0.toList) _ _:=I1.of_nil;refine q1a ⟨St.er (g0) 0,o0⟩ Z Z Z ?_;refine I0a p1c Z Z ?_;refine c0a ?_;refine q1a ⟨St.er (g0) 0,o0⟩ Z Z Z ?_;refine k0a K1b Z (fun w1 hw=>by exact hw.1.cell 4 Z Z) Z ?_;refine c0a ?_;refine q1a ⟨St.er (g0) 0,o0⟩ Z Z Z ?_;refine M0a Z ?_;refine c0a ?_;refine q1a ⟨St.er (g0) 0,o0⟩ Z Z Z ?_;refine H1a K0a Z (fun w1 hw=>hw.1.cells 1 Z) Z Z ?_;refine c0a ?_;refine Y4a ?_ ?_
  ·refine g2a ⟨St.er (g0) 0,o0⟩ Z Z Z ?_;refine p1a N7c Z Z (T0b _ z0 _ J1 _ _ V1 (fun g hg=>by subst hg;exact g0.blk 0 Z)) ?_;rintro v70 a2 ⟨D0,u1,j1,E0⟩;have j0:=o0.trans u1.keepO;have n0:=g0.changedO 0 Z u1 j1;dsimp only[List.set] at n0;have g2:RdI [] a2 v70 (allC p t l):=by
    exact E0.rdI n0 (k:=0) Z (by simp) v3 W0
   obtain⟨J3,S4,e4,rfl⟩:=E0.form;refine s0a ⟨Z,?_⟩;refine Y4a ?_ ?_
   ·refine g2a ⟨St.er (n0) 0,j0⟩ Z Z Z ?_;have r3:∀g∈M,g<a2.heap.size:=fun g hg=>Nat.lt_of_lt_of_le (hM g hg) n0.size;refine n0a n0 r3c Z Z (M6b p.cells (allC p t l) (onE p t) [] _ _ _ _ ((hC.keep (n0.keep0 M)).less (by simp)) (g2.keep (by exact t0a.refl _ _)) (RdE.less (by simp) _ _ (RdE.keep (KE.freshL j0 j2) _ _ Y1)) q2 N1 y0 t1 x0 i2 T0 ⟨List.not_mem_nil,(hI.msk.keep (n0.keep0 M)).2⟩ p2 U2 (fun x hx=>(r1.2 x).2 (.inl (List.mem_append_right _ hx))) (fun x hx=>(r1.2 x).2 (.inr hx))) ?_;rintro v72 I3 ⟨a8,b8,c8,m,rfl,X0,Y0,Z0,hm⟩ p0 H1;obtain⟨B1,m1,d1,rfl⟩:=X0.form;obtain⟨B2,m2,d2,rfl⟩:=Y0.form;obtain⟨B3,m3,d3,rfl⟩:=Z0.form;have c0:=j0.trans H1.of_nil;refine s0a ⟨Z,?_⟩;refine q1a ⟨St.er (p0) 0,c0⟩ Z Z Z ?_;refine M0a Z ?_;refine c0a ?_;refine q1a ⟨St.er (p0) 0,c0⟩ Z Z Z ?_;refine W1a Z Z Z ?_;refine c0a ?_;refine q1a ⟨St.er (p0) 0,c0⟩ Z Z Z ?_;refine W1a Z Z Z ?_;refine c0a ?_;refine g2a ⟨St.er (p0) 0,c0⟩ Z Z Z ?_;refine g0a p0 r7a Z Z ?_;intro J0 W2 r0 Q0 U0;have d0:=c0.trans (Q0.mono (by simp));refine s0a ⟨Z,?_⟩;refine g2a ⟨St.er (r0.tail) 0,d0⟩ Z Z Z ?_;refine d0a (kk:=0) (vs:=[_,_,_]) r0 y7a Z Z Z Z Z Z Z ?_;intro H0 a0 b0;dsimp only[i0a,List.set] at a0;have f0:=d0.fresh2 b0 (.inl (by exact Nat.le_trans c0.size U0));refine s0a ⟨Z,?_⟩;refine q1a ⟨St.er (a0.tail) 0,f0⟩ Z Z Z ?_;refine t3a (v:=.int .i64 _) Z Z ?_;refine c0a ?_;refine p3a ⟨St.er (a0.tail) 0,f0⟩ ?_;refine fP0 Z U ⟨Z,(J0),(_),(_),(_),(_),(_),(_),(_),(_),(_),(_),(m),(hm),?_,?_,?_,(KQ.freshL f0 o2),a0,Z⟩
    ·exact X0.over (by exact Q0) b0 (by exact .inr U0) (by omega)
    ·exact Y0.over (by exact Q0) b0 (by exact .inr U0) (by rw[List.length_map];omega)
    ·exact Z0.over (by exact Q0) b0 (by exact .inr U0) (by have:=t4a m 64;omega)
   refine g2a ⟨St.er (n0) 0,j0⟩ Z Z Z ?_;refine g0a n0 r7a Z Z ?_;intro J0 W2 r0 Q0 U0;have d0:=j0.trans (Q0.mono (by simp));refine s0a ⟨Z,?_⟩;refine g2a ⟨St.er (r0.tail) 0,d0⟩ Z Z Z ?_;have r3:∀g∈M,g<W2.heap.size:=fun g hg=>Nat.lt_of_lt_of_le (hM g hg) r0.size;refine n0a r0 r3c Z Z (M6b p.cells (allC p t l) (onE p t) [] _ _ _ _ ((hC.keep (r0.keep0 M)).less (by simp)) (g2.keep (by exact Q0)) (RdE.less (by simp) _ _ (RdE.keep (KE.freshL d0 j2) _ _ Y1)) q2 N1 y0 t1 x0 i2 T0 ⟨List.not_mem_nil,(hI.msk.keep (r0.keep0 M)).2⟩ p2 U2 (fun x hx=>(r1.2 x).2 (.inl (List.mem_append_right _ hx))) (fun x hx=>(r1.2 x).2 (.inr hx))) ?_;rintro v72 I3 ⟨a8,b8,c8,m,rfl,X0,Y0,Z0,hm⟩ p0 H1;obtain⟨B1,m1,d1,rfl⟩:=X0.form;obtain⟨B2,m2,d2,rfl⟩:=Y0.form;obtain⟨B3,m3,d3,rfl⟩:=Z0.form;have c0:=d0.trans H1.of_nil;refine s0a ⟨Z,?_⟩;refine q1a ⟨St.er (p0.tail) 0,c0⟩ Z Z Z ?_;refine M0a Z ?_;refine c0a ?_;refine q1a ⟨St.er (p0.tail) 0,c0⟩ Z Z Z ?_;refine W1a Z Z Z ?_;refine c0a ?_;refine q1a ⟨St.er (p0.tail) 0,c0⟩ Z Z Z ?_;refine W1a Z Z Z ?_;refine c0a ?_;refine g2a ⟨St.er (p0.tail) 0,c0⟩ Z Z Z ?_;refine d0a (kk:=0) (vs:=[_,_,_]) p0 y7a Z Z Z Z Z Z Z ?_;intro H0 a0 b0;dsimp only[i0a,List.set] at a0;have f0:=c0.fresh2 b0 (.inl (by exact Nat.le_trans j0.size U0));refine s0a ⟨Z,?_⟩;refine q1a ⟨St.er (a0.tail) 0,f0⟩ Z Z Z ?_;refine t3a (v:=.int .i64 _) Z Z ?_;refine c0a ?_;refine p3a ⟨St.er (a0.tail) 0,f0⟩ ?_;refine fP0 Z U ⟨Z,(J0),(_),(_),(_),(_),(_),(_),(_),(_),(_),(_),(m),(hm),?_,?_,?_,(KQ.freshL f0 o2),a0,Z⟩
   ·exact X0.over (by exact t0a.refl _ _) b0 (by exact .inl (r0.lt 0 Z)) (by omega)
   ·exact Y0.over (by exact t0a.refl _ _) b0 (by exact .inl (r0.lt 0 Z)) (by rw[List.length_map];omega)
   ·exact Z0.over (by exact t0a.refl _ _) b0 (by exact .inl (r0.lt 0 Z)) (by have:=t4a m 64;omega)
  refine g2a ⟨St.er (g0) 0,o0⟩ Z Z Z ?_;refine g0a g0 r7a Z Z ?_;intro J0 W2 r0 Q0 U0;have d0:=o0.trans (Q0.mono (by simp));refine s0a ⟨Z,?_⟩;refine g2a ⟨St.er (r0.tail) 0,d0⟩ Z Z Z ?_;refine p1a N7c Z Z (T0b _ z0 _ J1 _ _ V1 (fun g hg=>by subst hg;exact r0.blk 1 Z)) ?_;rintro v70 a2 ⟨D0,u1,j1,E0⟩;have j0:=d0.trans u1.keepO;have n0:=r0.changedO 1 Z u1 j1;dsimp only[List.set] at n0;have g2:RdI [] a2 v70 (allC p t l):=by
   exact E0.rdI n0 (k:=1) Z (by simp) v3 W0
  obtain⟨J3,S4,e4,rfl⟩:=E0.form;refine s0a ⟨Z,?_⟩;refine g2a ⟨St.er (n0.tail) 0,j0⟩ Z Z Z ?_;have r3:∀g∈M,g<a2.heap.size:=fun g hg=>Nat.lt_of_lt_of_le (hM g hg) n0.size;refine n0a n0 r3c Z Z (M6b p.cells (allC p t l) (onE p t) [] _ _ _ _ ((hC.keep (n0.keep0 M)).less (by simp)) (g2.keep (by exact t0a.refl _ _)) (RdE.less (by simp) _ _ (RdE.keep (KE.freshL j0 j2) _ _ Y1)) q2 N1 y0 t1 x0 i2 T0 ⟨List.not_mem_nil,(hI.msk.keep (n0.keep0 M)).2⟩ p2 U2 (fun x hx=>(r1.2 x).2 (.inl (List.mem_append_right _ hx))) (fun x hx=>(r1.2 x).2 (.inr hx))) ?_;rintro v72 I3 ⟨a8,b8,c8,m,rfl,X0,Y0,Z0,hm⟩ p0 H1;obtain⟨B1,m1,d1,rfl⟩:=X0.form;obtain⟨B2,m2,d2,rfl⟩:=Y0.form;obtain⟨B3,m3,d3,rfl⟩:=Z0.form;have c0:=j0.trans H1.of_nil;refine s0a ⟨Z,?_⟩;refine q1a ⟨St.er (p0.tail) 0,c0⟩ Z Z Z ?_;refine M0a Z ?_;refine c0a ?_;refine q1a ⟨St.er (p0.tail) 0,c0⟩ Z Z Z ?_;refine W1a Z Z Z ?_;refine c0a ?_;refine q1a ⟨St.er (p0.tail) 0,c0⟩ Z Z Z ?_;refine W1a Z Z Z ?_;refine c0a ?_;refine g2a ⟨St.er (p0.tail) 0,c0⟩ Z Z Z ?_;refine d0a (kk:=0) (vs:=[_,_,_]) p0 y7a Z Z Z Z Z Z Z ?_;intro H0 a0 b0;dsimp only[i0a,List.set] at a0;have f0:=c0.fresh2 b0 (.inl (by exact Nat.le_trans o0.size U0));refine s0a ⟨Z,?_⟩;refine q1a ⟨St.er (a0.tail) 0,f0⟩ Z Z Z ?_;refine t3a (v:=.int .i64 _) Z Z ?_;refine c0a ?_;refine p3a ⟨St.er (a0.tail) 0,f0⟩ ?_;refine fP0 Z U ⟨Z,(J0),(_),(_),(_),(_),(_),(_),(_),(_),(_),(_),(m),(hm),?_,?_,?_,(KQ.freshL f0 o2),a0,Z⟩
  ·exact X0.over (by exact t0a.refl _ _) b0 (by exact .inl (n0.lt 0 Z)) (by omega)
  ·exact Y0.over (by exact t0a.refl _ _) b0 (by exact .inl (n0.lt 0 Z)) (by rw[List.length_map];omega)
  ·exact Z0.over (by exact t0a.refl _ _) b0 (by exact .inl (n0.lt 0 Z)) (by have:=t4a m 64;omega)
 rintro D ε w ⟨rfl,J0,D0,B1,m1,d1,B2,m2,d2,B3,m3,d3,m,hm,w4,M4,D4,KQ,S,eZ⟩;refine wK eZ ?_;obtain⟨wc,KC,J2,V2,O2,R2,T2⟩:∃wc,t0a [] wc w∧RdI [] wc (.slice B1 m1 d1) (allC p t l)∧RdI [] wc (.slice B2 m2 d2) (wdL p.cells (allC p t l))∧h4b [] wc (.slice B3 m3 d3) (t1b m 64)∧RdI [g6] wc (.slice A1 n1 c1) l∧RdI [g6] wc (.slice A2 n2 c2) (wdL p.cells l):=⟨w,t0a.refl _ _,w4,M4,D4,(ha [g6] K1).keep KQ,(x3 [g6] K1).keep KQ⟩;refine wB0 Z U (fun q4=>by exfalso;omega) fun q4=>?_;have N3:=KC.size;refine lO0 Z U (g0a S z5d Z Z ?_);intro m0 U4 v2 V3 M3;replace KC:=KC.trans V3;have O3:wc.heap.size≤m0:=Nat.le_trans (by exact N3) M3;refine lO v2.k [.w 1,.o 5,.o 5] Z ⟨Z,Z,⟨Z,Z⟩,U⟩ (G0a T5b (vs:=[(0,.slice _ _ _),(1,.slice _ _ _)]) (cs:=[_,_,_]) Z Z Z Z ?_);have e5:m0<U4.heap.size:=v2.lt 0 Z;have g5:=KC.size;refine n0a v2 p2d Z Z (A0c _ _ _ _ _ _ _ _ _ _ _ _ _ _ _ _ _ _ _) ?_;rintro H5 O0 ⟨ga,gb,rfl,_,_,P1,Q1⟩ E1 Y3;replace KC:=KC.trans Y3;refine lC0 Z U (wJ ?_);refine O0b (vs:=fun y=>#[y,_,_]) v8c Z (fun _=>rfl) (fun rc wi S2 C3 J4 K2 I4 t4 u4 z4 hl hB C5=>?_);obtain⟨lp,E4⟩:∃lp,lp=O0.heap.size+1:=⟨_,Z⟩;have u3:=G0b (NC.nil (w:=O0)) z4 hl hB;rw[←E4] at hl u3 ⊢;have Si:=E1.later hB;have Ki:t0a [] O0 wi:=t0a.of_below hB;have Zw:=E1.size;have P4:=E1.lt 0 Z;have T4:w0.heap.size≤m0:=by simpa using E1.new 0 Z
 have Q4:=P1.lt;have R4:=Q1.lt;simp only at Q4 R4;have p1:∀x∈[(O0.heap.size,Obj.deferred (some []))],x.1≠lp:=fun x hx=>by
  rcases List.mem_cons.1 hx with rfl|hx
  ·show O0.heap.size≠lp;omega
  ·cases hx
 have L2:ga∉[lp,m0]:=fun hh=>by
  simp only[List.mem_cons,List.not_mem_nil,or_false] at hh;omega
 have N2:gb∉[lp,m0]:=fun hh=>by
  simp only[List.mem_cons,List.not_mem_nil,or_false] at hh;omega
 have f2:∀g∈[lp,m0],g∈([]:List Nat)∨wc.heap.size≤g:=fun g hg=>by
  simp only[List.mem_cons,List.not_mem_nil,or_false] at hg;right;have h1:=KC.size;rcases hg with rfl|rfl
  ·omega
  ·exact O3
 have u2:t0a [lp,m0] wc wi:=(KC.trans Ki).of_nil;have t3:∀g∈g6::[lp,m0],g∈[g6]∨wc.heap.size≤g:=fun g hg=>by
  rcases List.mem_cons.1 hg with rfl|h
  ·exact .inl (by simp)
  ·exact .inr ((f2 g h).elim (fun h=>by cases h) id)
 have U1:RdI (g6::[lp,m0]) wi (.slice A1 n1 c1) l:=(R2.more (by omega) t3).keep (KC.trans Ki).of_nil;have X1:RdI (g6::[lp,m0]) wi (.slice A2 n2 c2) (wdL p.cells l):=(T2.more (by omega) t3).keep (KC.trans Ki).of_nil;have F4:RdI [lp,m0] wi (.slice A1 n1 c1) l:=U1.less (fun g hg=>List.mem_cons_of_mem _ hg);have K4:RdI [lp,m0] wi (.slice A2 n2 c2) (wdL p.cells l):=X1.less (fun g hg=>List.mem_cons_of_mem _ hg);have v4:RdI [lp,m0] wi (.slice B1 m1 d1) (allC p t l):=(J2.more (by omega) f2).keep u2;have L4:RdI [lp,m0] wi (.slice B2 m2 d2) (wdL p.cells (allC p t l)):=(V2.more (by omega) f2).keep u2;have C4:h4b [lp,m0] wi (.slice B3 m3 d3) (t1b m 64):=(O2.more (by omega) f2).keep u2;refine C0a.mono (o7b (allC p t l) (wdL p.cells (allC p t l)) l (wdL p.cells l) (t1b m 64) C0 lp ga gb _ _ [lp,m0] wi (fun Ps k w=>NC w [(lp,.loop rc),(O0.heap.size,.deferred (some []))]∧(∃G cs v,V1a b9a 2 [] w0 G cs v k∧(∀x∈G.toList,wi.heap.size≤x∧x∉Ps)∧(∀x∈k,i64 x.1∧i64 x.2)∧St [] w0 w [(some m0,32,[v]),(some J0,41,[.slice B1 m1 d1,.slice B2 m2 d2,.slice B3 m3 d3]),(z0,3,D0),(some F2,28,[.slice A n c,.slice A4 n4 c4,.slice A5 n5 c5]),(some s3,37,[.int .i64 (onE p t).op,.int .i64 (onE p t).w,.int .i64 (onE p t).n,.slice a3 D3 E3]),(some g8,41,[.slice A1 n1 c1,.slice A2 n2 c2,.slice A3 n3 c3]),(some g6,41,[.slice none 0 0,.slice none 0 0,.slice none 0 0]),(some g3,27,[.slice Ac nc cc,.slice Am nm cm,.slice Al nl cl,.slice At nt ct]),(G,72,cs)])∧t0a [lp,m0] wi w∧(∀g∈Ps,wi.heap.size≤g∧g<w.heap.size)) _ _ _ _ _ _ (e1a Ki P1) (e1a Ki Q1) L2 N2 F4 K4 v4 L4 C4 ho z3 hb hb6 (by omega) ⟨none,0,0,Z⟩ (fun x hx=>by obtain⟨a,b,h1,h2,-,rfl⟩:=S2b.1 hx;simp only;omega) (t4a m 64) ⟨?_,?_,fun Ps k w h=>h.2.2.1,fun Ps k w a hJ w5 v5=>?_⟩) ?_
 ·intro Ps w G2 N0;exact⟨u3.keep (t0a.of_below G2),⟨none,[],.slice none 0 0,V1a.nil,by simp,by simp,Si.later G2⟩,t0a.of_below G2,N0⟩
 ·rintro Ps k w w' ⟨u0,⟨G,cs,v,h1,h2,i4,S3⟩,K3,N0⟩ e2;exact⟨u0.keep (t0a.of_below e2),⟨G,cs,v,h1,h2,i4,S3.later e2⟩,K3.trans (t0a.of_below e2),fun g hg=>⟨(N0 g hg).1,Nat.lt_of_lt_of_le (N0 g hg).2 e2.size⟩⟩
 ·obtain⟨u0,⟨G,cs,v,F0,T1,P2,S3⟩,K3,N0⟩:=hJ;obtain⟨Av,nv,cv,rfl⟩:=F0.form;have Kr:=t0a.refl ([lp,m0]++G.toList) w;refine f9c (u0 (lp,.loop rc) (by simp)).1 S2 J4 K2 I4 t4 u4 Z ?_;refine wI ?_;refine wO0 Z U (g0a S3 L9b Z Z ?_);intro s5 M5 h3 x2 e3;have v1:=Nat.le_trans K3.size e3;have z1:=Nat.le_trans Kr.size e3;replace K3:=K3.trans (x2.of_nil);replace Kr:=Kr.trans (x2.of_nil);replace u0:=u0.keep x2;refine d0a (kk:=0) (vs:=[_,_]) h3 j7b Z Z Z Z Z Z Z ?_;intro I0 V0 A0;dsimp only[i0a,List.set] at V0;replace K3:=K3.fresh2 A0 (by exact .inl v1);replace Kr:=Kr.fresh2 A0 (by exact .inl z1);replace u0:=by exact u0.keepS A0 (h3.blk 0 Z)
  refine lF0 Z U ?_;refine⟨(u0 (lp,.loop rc) (by simp)).1,?_⟩;have Sb:=V0.putObj (.loop { rc with state:=.busy }) u0 (List.mem_cons_self) (.inl (by omega));have L0:=u0.put (o':=.loop { rc with state:=.busy }) p1 (by simp);have Kb:=K3.fresh2 (j3a I0 lp (.loop { rc with state:=.busy })) (.inr (by simp));have Kbr:=Kr.fresh2 (j3a I0 lp (.loop { rc with state:=.busy })) (.inr (by simp));generalize I0.putObj lp (.loop { rc with state:=.busy })=wb at Sb L0 Kb Kbr ⊢;refine wI ?_;refine wO0 Z U (J0a f9a Z (by exact Sb.cell 1 Z Z) Z ?_);refine lO Sb.k [.w 0] Z ⟨⟨Z,by rfl⟩,U⟩ (m0a Sb T3a (vs:=[.agg _]) (cs:=[_,_]) Z Z Z Z Z Z ?_);intro t5 P5 w2 C2 b5;replace Kb:=Kb.trans (C2.of_nil);replace Kbr:=Kbr.trans (C2.of_nil);replace L0:=L0.keep C2;have d4:=Kb.size;have j5:=Kbr.size;refine i1a Q9a (k:=10) (M2:=[]) (e1:=a) w2 T3a Z F0 Z Z (w2.cells 0 Z) ⟨Z,by unfold i64;omega,by unfold i64;omega⟩ (by omega) Z ?_;intro I5 d5 g4 Q5 i3 G0 D2 L3;replace Kb:=Kb.freshL D2 (fun g hg=>.inl (T1 g hg).1);replace Kbr:=Kbr.trans (D2.mono (fun g hg=>List.mem_append_right _ hg));replace L0:=L0.keepL D2 (j4b w2 10 Z);obtain⟨_,_,_,rfl⟩:=G0.form;refine j1a (kk:=2) i3 T2d Z Z Z (by exact Nat.le_of_ble_eq_true Z) ?_;intro a1 C1 B0;replace Kb:=Kb.fresh2 B0 (by exact .inr (by simp));replace Kbr:=Kbr.fresh2 B0 (by exact .inr (by simp));replace L0:=by exact L0.keepS B0 (i3.blk 2 Z)
  refine lF0 Z U ?_;refine⟨{ rc with state:=.busy },(L0 (lp,_) (by simp)).1,Z,?_⟩;have r4:=L0.put (o':=.loop rc) p1 (by simp);have Sn:=C1.tail.tail.putObj (.loop rc) L0 (List.mem_cons_self) (.inl (by omega));have Kn:=Kb.fresh2 (j3a a1 lp (.loop rc)) (.inr (by simp));have f3:=Kbr.fresh2 (j3a a1 lp (.loop rc)) (.inr (by simp));rw[p9b S2 C3];refine⟨⟨r4,⟨_,_,_,G0,fun x hx=>?_,fun x hx=>?_,Sn⟩,Kn,fun g hg=>⟨(N0 g hg).1,Nat.lt_of_lt_of_le (N0 g hg).2 f3.size⟩⟩,fun g hg=>f3.same g (N0 g hg).2 (fun hh=>?_)⟩
  ·rcases L3 x hx with h|h
   ·exact T1 x h
   ·exact⟨Nat.le_trans d4 h,fun hh=>by have:=(N0 x hh).2;omega⟩
  ·rcases List.mem_append.1 hx with h|h
   ·exact P2 x h
   ·rw[List.mem_singleton.1 h];unfold i64;omega
  ·rcases List.mem_append.1 hh with h|h
   ·simp only[List.mem_cons,List.not_mem_nil,or_false] at h;have h1:=(N0 g hg).1;rcases h with rfl|rfl<;>omega
   ·exact(T1 g h).2 hg
 rintro v w3 ⟨Ps,u0,⟨G,f4,_,F0,T1,P2,S3⟩,K3,-⟩;obtain⟨Av,nv,cv,rfl⟩:=F0.form;refine⟨rc,(u0 (lp,.loop rc) (by simp)).1,by rw[S2];simp,.inl ⟨C3,?_⟩⟩;have Sa:=S3.putObj (.loop { rc with state:=.exhausted }) u0 (List.mem_cons_self) (.inl (by omega));have K0:=(u0.put (o':=.loop { rc with state:=.exhausted }) p1 (by simp)).tail;have Ka:=K3.fresh2 (j3a w3 lp (.loop { rc with state:=.exhausted })) (.inr (by simp));generalize w3.putObj lp (.loop { rc with state:=.exhausted })=wa at Sa K0 Ka ⊢;have B4:∀g∈G.toList,wi.heap.size≤g∨g∈[lp,m0]:=fun g hg=>.inl (T1 g hg).1;have s4:((t1b m 64).map (prj (allC p t l) (wdL p.cells (allC p t l)) l (wdL p.cells l))).length≤4096:=by rw[List.length_map];exact t4a m 64
 have r5:g6<O0.heap.size:=E1.lt 6 Z;refine fC0 Z U (m2b b0a (fun i=>[0,1,2,3,4,6,8,9,11].contains i) (.op 0 (.op 1 (.op 2 (.op 3 (.op 4 (.op 5 (.op 6 (.op 7 (.op 8 (.op 9 (.op 10 (.op 11 .nil)))))))))))) (X5d Sa 8 6 (g6::G.toList)) ?_);have i0:=Sa.drew;have i1:t0a [] wa wa.drew:=P2a _ _;generalize wa.drew=Z4 at i0 i1 ⊢;have t0:t0a (g6::G.toList) _ _:=i1.of_nil;replace K0:=K0.keep i1;refine q1a ⟨St.er (St.er (i0) 8) 6,t0⟩ Z Z Z ?_;refine I0a B1c Z Z ?_;refine c0a ?_;refine q1a ⟨St.er (St.er (i0) 8) 6,t0⟩ Z Z Z ?_;refine k0a j4a Z (fun w1 hw=>by exact hw.1.cell 5 Z Z) Z ?_;refine c0a ?_;refine q1a ⟨St.er (St.er (i0) 8) 6,t0⟩ Z Z Z ?_;refine I0a H3c Z Z ?_;refine c0a ?_;refine q1a ⟨St.er (St.er (i0) 8) 6,t0⟩ Z Z Z ?_;refine k0a j4a Z (fun w1 hw=>by exact hw.1.cell 5 Z Z) Z ?_;refine c0a ?_;refine q1a ⟨St.er (St.er (i0) 8) 6,t0⟩ Z Z Z ?_;refine k0a f9a Z (fun w1 hw=>by exact hw.1.cell 0 Z Z) Z ?_;refine c0a ?_;refine g2a ⟨St.er (St.er (i0) 8) 6,t0⟩ Z Z Z ?_;refine p1a k3c Z Z (I4b _ G f4 _ _ F0 (fun g hg=>by subst hg;exact i0.blk 8 Z) (by omega)) ?_;rintro J5 X4 ⟨_,s2,I2,⟨_,_,_,rfl⟩,y4⟩;have R0:=t0.trans (s2.keepO.mono (fun g hg=>List.mem_cons_of_mem _ hg));have g1:=i0.changedO 8 Z s2 I2;dsimp only[List.set] at g1;replace K0:=K0.keepL s2.keepO (j4b i0 8 Z);refine s0a ⟨Z,?_⟩;refine q1a ⟨St.er (St.er (g1) 8) 6,R0⟩ Z Z Z ?_;refine D1a W6c (vs:=[(0,.slice _ _ _),(1,.slice _ _ _),(2,.slice _ _ _)]) (cs:=[_,_,_]) Z Z Z Z ?_;refine c0a ?_;refine g2a ⟨St.er (St.er (g1) 8) 6,R0⟩ Z Z Z ?_;have q5:=g1.size;have b1:t0a (g6::[lp,m0]) wi X4:=(Ka.mono (fun g hg=>List.mem_cons_of_mem _ hg)).freshL R0 (fun g hg=>by
  rcases List.mem_cons.1 hg with rfl|h
  ·exact .inr List.mem_cons_self
  ·exact(B4 g h).imp id (List.mem_cons_of_mem _))
 refine n0a g1 k4d Z Z (B7b [] _ _ _ _ l (wdL p.cells l) _ C0 ((U1.keep b1).less (by simp)) ((X1.keep b1).less (by simp)) (y4 [] (by simp) P2) ho hb hb6 (fun x hx=>by obtain⟨a,-,rfl⟩:=List.mem_map.1 (c1b.1 hx);exact x4c ho.wid hb a) (W1c _)) ?_;rintro K5 R5 ⟨_,rfl,W1⟩ F1 q3;obtain⟨_,e1,_,_,_,_,_,_,_,rfl⟩:=W1.set3;have S0:=R0.trans q3.of_nil;replace K0:=K0.keep q3;refine s0a ⟨Z,?_⟩;refine q1a ⟨St.er (St.er (F1) 8) 6,S0⟩ Z Z Z ?_;refine W1a Z Z Z ?_;refine c0a ?_;refine q1a ⟨St.er (St.er (F1) 8) 6,S0⟩ Z Z Z ?_;refine W1a Z Z Z ?_;refine c0a ?_;refine g2a ⟨St.er (St.er (F1) 8) 6,S0⟩ Z Z Z ?_;refine d0a (kk:=6) (vs:=[_,_,_]) F1 y7a Z Z Z Z Z Z Z ?_;intro X2 e0 s0;dsimp only[i0a,List.set] at e0;have q0:=S0.trans (s0.mono (by simp));replace K0:=by exact K0.keepS s0 (F1.blk 6 Z)
 refine s0a ⟨Z,?_⟩;refine q1a ⟨St.er (St.er (e0) 8) 6,q0⟩ Z Z Z ?_;refine t3a (v:=.int .i64 _) Z Z ?_;refine c0a ?_;refine p3a ⟨St.er (St.er (e0) 8) 6,q0⟩ ?_;refine fR0 Z U ?_;have Zk:=b1.size;have p5:=g1.lt 6 Z;have Z3:=g1.size;have x4:=W1.congr (R':=y7b p t l) (fun x y=>i6c i2 T0 hm x y);have G4:g6∉[O0.heap.size]:=by rw[List.mem_singleton];omega
 exact g0c (n:=3) Z D4a Z Z Z [O0.heap.size] Z (by simp) K0 (e0.cells 6 Z) G4 (fun w' y3=>⟨⟨_,Z,x4.later (G:=[g6,O0.heap.size]) ((s0.mono (by simp)).trans ((t0a.of_belowM y3).mono (by simp))) (fun g hg=>by simp only[List.mem_cons,List.not_mem_nil,or_false] at hg;rcases hg with rfl|rfl<;>omega) Z3⟩,(E0a.step e0.below y3 (by simp;omega)).nil⟩)
def e6b(o n:List Int)(e:E):Prop:=e.val o n=0∨e.val o n=1
theorem t4b{e:E}(h:g4a e=true)(o n:List Int):e6b o n e:=by
 obtain⟨hw,hf⟩:=g7a h;have:=s6a (h5a hf) o n;rw[hw] at this;have h2:U2a (1:Int).toNat=2:=by decide
 unfold e6b;omega
theorem c1d{a b:E}{o n:List Int}(ha:e6b o n a)(hb:e6b o n b):e6b o n (jnE 5 a b)∧((jnE 5 a b).val o n=1↔a.val o n=1∧b.val o n=1):=by
 have he:(jnE 5 a b).val o n=V6a (V6a (a.val o n) (b.val o n)) 1:=by rw[E.val_def];rfl
 unfold e6b at *;rw[he];rcases ha with ha|ha<;>rcases hb with hb|hb<;>rw[ha,hb]<;>decide
theorem d1d{a b:E}{o n:List Int}(ha:e6b o n a)(hb:e6b o n b):e6b o n (jnE 6 a b)∧((jnE 6 a b).val o n=1↔a.val o n=1∨b.val o n=1):=by
 have he:(jnE 6 a b).val o n=V6a (bor (a.val o n) (b.val o n)) 1:=by rw[E.val_def];rfl
 unfold e6b at *;rw[he];rcases ha with ha|ha<;>rcases hb with hb|hb<;>rw[ha,hb]<;>decide
theorem R5b{o n:List Int}:∀(es:List E) (acc:E),e6b o n acc→(∀e∈es,e6b o n e)→((es.foldl (jnE 5) acc).val o n=1↔acc.val o n=1∧∀e∈es,e.val o n=1)
 | [],acc,_,_=>by simp
 | e::es,acc,ha,h=>by
   have h1:=c1d ha (h e (by simp));rw[List.foldl_cons,R5b es _ h1.1 fun x hx=>h x (List.mem_cons_of_mem _ hx),h1.2];simp[and_assoc]
theorem z4b{o n:List Int}:∀(es:List E) (acc:E),e6b o n acc→(∀e∈es,e6b o n e)→((es.foldl (jnE 6) acc).val o n=1↔acc.val o n=1∨∃e∈es,e.val o n=1)
 | [],acc,_,_=>by simp
 | e::es,acc,ha,h=>by
   have h1:=d1d ha (h e (by simp));rw[List.foldl_cons,z4b es _ h1.1 fun x hx=>h x (List.mem_cons_of_mem _ hx),h1.2];simp[or_assoc]
theorem X7a(w n:Int)(o q:List Int):(⟨1,w,n,[]⟩:E).val o q=n:=by rw[E.val_def];rfl
theorem Z2b{e:E}(h:e.op=1)(o n:List Int):e.val o n=e.n:=by rw[E.val_def,if_pos h]
theorem I0b{op unit:Int}{l:List E}(h:a3a op unit l≠zE):∀e∈l,g4a e=true:=fun e he=>by
 cases hc:g4a e with
 | true=>rfl
 | false=>exact absurd (y5a he hc) h
theorem M5a{l:List E}{e:E}:e∈G1a l↔e∈l∧e.op≠1:=by unfold G1a;simp
theorem t8c{l:List E}(h:a3a 5 1 l≠zE)(o n:List Int):(a3a 5 1 l).val o n=1↔∀e∈l,e.val o n=1:=by
 have hc:=I0b h;cases hd:l.any (fun e=>isC e (1-1)) with
 | true =>
   rw[J7a hc hd,X7a];obtain⟨e,he,h1⟩:=List.any_eq_true.1 hd;unfold isC at h1;have h2:=of_decide_eq_true h1;refine⟨fun h=>by omega,fun hh=>?_⟩;have:=hh e he;rw[Z2b h2.1] at this;omega
 | false =>
   have hj:=Y2a (op:=5) hc hd;have hw:(O3a 5 1 (G1a l)).wf=true:=by
    cases hw:(O3a 5 1 (G1a l)).wf with
    | true=>rfl
    | false=>rw[hw] at hj;exact absurd hj h
   rw[hj,if_pos hw];have key:(O3a 5 1 (G1a l)).val o n=1↔∀e∈G1a l,e.val o n=1:=by
    have hb:∀e∈G1a l,e6b o n e:=fun e he=>t4b (hc e (M5a.1 he).1) o n;cases hk:G1a l with
    | nil=>simp[O3a,X7a]
    | cons e es =>
      rw[hk] at hb;rw[show O3a 5 1 (e::es)=es.foldl (jnE 5) e from rfl,R5b es e (hb e (by simp)) fun x hx=>hb x (List.mem_cons_of_mem _ hx)];simp
   rw[key];refine⟨fun hh e he=>?_,fun hh e he=>hh e (M5a.1 he).1⟩;by_cases ho:e.op=1
   ·rw[Z2b ho];rcases f3b (hc e he) ho with h1|h1
    ·have:l.any (fun e=>isC e (1-1))=true:=List.any_eq_true.2 ⟨e,he,by unfold isC;exact decide_eq_true ⟨ho,by omega⟩⟩;rw[hd] at this;cases this
    ·exact h1
   ·exact hh e (M5a.2 ⟨he,ho⟩)
theorem a3d{l:List E}(h:a3a 6 0 l≠zE)(o n:List Int):(a3a 6 0 l).val o n=1↔∃e∈l,e.val o n=1:=by
 have hc:=I0b h;cases hd:l.any (fun e=>isC e (1-0)) with
 | true =>
   rw[J7a hc hd,X7a];obtain⟨e,he,h1⟩:=List.any_eq_true.1 hd;unfold isC at h1;have h2:=of_decide_eq_true h1;exact⟨fun _=>⟨e,he,by rw[Z2b h2.1];omega⟩,fun _=>by omega⟩
 | false =>
   have hj:=Y2a (op:=6) hc hd;have hw:(O3a 6 0 (G1a l)).wf=true:=by
    cases hw:(O3a 6 0 (G1a l)).wf with
    | true=>rfl
    | false=>rw[hw] at hj;exact absurd hj h
   rw[hj,if_pos hw];have key:(O3a 6 0 (G1a l)).val o n=1↔∃e∈G1a l,e.val o n=1:=by
    have hb:∀e∈G1a l,e6b o n e:=fun e he=>t4b (hc e (M5a.1 he).1) o n;cases hk:G1a l with
    | nil=>simp[O3a,X7a]
    | cons e es =>
      rw[hk] at hb;rw[show O3a 6 0 (e::es)=es.foldl (jnE 6) e from rfl,z4b es e (hb e (by simp)) fun x hx=>hb x (List.mem_cons_of_mem _ hx)];simp
   rw[key];refine⟨fun⟨e,he,hh⟩=>⟨e,(M5a.1 he).1,hh⟩,fun⟨e,he,hh⟩=>⟨e,M5a.2 ⟨he,fun ho=>?_⟩,hh⟩⟩;rw[Z2b ho] at hh;have:l.any (fun e=>isC e (1-0))=true:=List.any_eq_true.2 ⟨e,he,by unfold isC;exact decide_eq_true ⟨ho,by omega⟩⟩;rw[hd] at this;cases this
theorem B8c{op:Int}(b0:op=5∨op=6){cells:List k1a}{a0:Bool}{a b:E}(ha:a.over cells a0=true)(hb:b.over cells a0=true):(jnE op a b).over cells a0=true:=by
 rw[E.over_def,Bool.and_eq_true];refine⟨decide_eq_true ⟨fun h=>?_,fun h=>?_⟩,(E.overs_iff _ _ _).2 fun k hk=>?_⟩
 ·simp only[jnE] at h;omega
 ·simp only[jnE] at h;omega
 ·simp only[jnE,List.mem_cons,List.not_mem_nil,or_false] at hk;rcases hk with rfl|rfl
  ·exact ha
  ·exact hb
theorem C5b{op:Int}(b0:op=5∨op=6){cells:List k1a}{a0:Bool}:∀(es:List E) (acc:E),acc.over cells a0=true→(∀e∈es,e.over cells a0=true)→(es.foldl (jnE op) acc).over cells a0=true
 | [],_,h,_=>h
 | e::es,acc,h,hl=>C5b b0 es _ (B8c b0 h (hl e (by simp))) fun x hx=>hl x (List.mem_cons_of_mem _ hx)
theorem n2b(w n:Int)(cells:List k1a)(a0:Bool):(⟨1,w,n,[]⟩:E).over cells a0=true:=by
 rw[E.over_def,Bool.and_eq_true];exact⟨decide_eq_true ⟨fun h=>by simp only at h;omega,fun h=>by simp only at h;omega⟩,Z⟩
theorem M1c(cells:List k1a)(a0:Bool):zE.over cells a0=true:=by
 rw[E.over_def,Bool.and_eq_true];exact⟨decide_eq_true ⟨fun h=>by simp only[zE] at h;omega,fun h=>by simp only[zE] at h;omega⟩,Z⟩
theorem x8a{op unit:Int}(c0:op=5∨op=6){cells:List k1a}{a0:Bool}{l:List E}(h:∀e∈l,e.over cells a0=true):(a3a op unit l).over cells a0=true:=by
 unfold a3a
 split
 ·split
  ·exact n2b _ _ _ _
  ·split
   ·have hk:∀e∈G1a l,e.over cells a0=true:=fun e he=>h e (M5a.1 he).1;cases b0:G1a l with
    | nil=>exact n2b _ _ _ _
    | cons e es=>rw[b0] at hk;exact C5b c0 es e (hk e (by simp)) fun x hx=>hk x (List.mem_cons_of_mem _ hx)
   ·exact M1c _ _
 ·exact M1c _ _
theorem I5b{p:j0a}{c:Int}(hc:0≤c∧c<p.cells.length):(X3a p c).over p.cells true=true:=by
 rw[E.over_def,Bool.and_eq_true];refine⟨decide_eq_true ⟨fun _=>rfl,fun h=>by simp only[X3a] at h;omega⟩,(E.overs_iff _ _ _).2 fun k hk=>?_⟩;simp only[X3a,List.mem_cons,List.not_mem_nil,or_false] at hk;rcases hk with rfl|rfl<;>rw[E.over_def,Bool.and_eq_true]
 ·exact⟨decide_eq_true ⟨fun _=>rfl,fun _=>⟨hc.2,Z⟩⟩,Z⟩
 ·exact⟨decide_eq_true ⟨fun _=>rfl,fun _=>⟨hc.2,Z⟩⟩,Z⟩
theorem y2c{p:j0a}{m:Int}(h:0≤m∧m<p.modules.length):∃md,p.modules[m.toNat]?=some md∧a2d p m.toNat=md:=by
 have h1:m.toNat<p.modules.length:=by omega
 refine⟨p.modules[m.toNat],List.getElem?_eq_getElem h1,?_⟩;unfold a2d;rw[List.getD_eq_getElem?_getD,List.getElem?_eq_getElem h1];rfl
theorem x5b{p:j0a}(hp:Z0a p){m:Int}(h:0≤m∧m<p.modules.length):(X2a p m).over p.cells true=true:=by
 obtain⟨md,hm,he⟩:=y2c h;unfold X2a N3b;rw[he];refine x8a (.inl Z) fun e hx=>?_;rcases List.mem_cons.1 hx with rfl|hx
 ·exact(B1a (hp.modules md (List.mem_of_getElem? hm)).guar.1).2.2
 ·obtain⟨_,hc,rfl⟩:=List.mem_map.1 hx;have:=b6a.1 (List.mem_filter.1 hc).1;exact I5b ⟨this.1,this.2.1⟩
theorem u1d{p:j0a}(hp:Z0a p)(t:Nat):(onE p t).over p.cells true=true:=by
 refine x8a (.inl Z) fun e hx=>?_;rcases List.mem_cons.1 hx with rfl|hx
 ·refine x8a (.inr Z) fun e hx=>?_;obtain⟨_,hm,rfl⟩:=List.mem_map.1 hx;exact x5b hp (H8a hm)
 ·obtain⟨_,hc,rfl⟩:=List.mem_map.1 hx;have:=b6a.1 hc;exact I5b ⟨this.1,this.2.1⟩
theorem D6a{p:j0a}(hp:Z0a p){t:Nat}(h:onE p t≠zE):(onE p t).valid p.cells true=true:=by
 rcases T4a (op:=5) (unit:=1) (.inr Z) (R6a p t::(ofL p t).map (X3a p)) with h1|h1
 ·exact absurd h1 h
 ·unfold E.valid;rw[Bool.and_eq_true];exact⟨h1.1,u1d hp t⟩
theorem u0c{p:j0a}(hp:Z0a p){m:Int}(hm:0≤m∧m<p.modules.length)(h:X2a p m≠zE):(X2a p m).valid p.cells true=true:=by
 rcases T4a (op:=5) (unit:=1) (.inr Z) (N3b p (a2d p m.toNat)) with h1|h1
 ·exact absurd h1 h
 ·unfold E.valid;rw[Bool.and_eq_true];exact⟨h1.1,x5b hp hm⟩
def g4c(p:j0a)(o n:List Int)(c:Int):Prop:=o.getD c.toNat 0 % U2a (wAt p.cells c).toNat=n.getD c.toNat 0 % U2a (wAt p.cells c).toNat
theorem E8b{p:j0a}{c:Int}(hw:1≤wAt p.cells c∧wAt p.cells c≤8)(o n:List Int):(X3a p c).val o n=1↔g4c p o n c:=by
 have he:(X3a p c).val o n=V6a (if V6a (o.getD c.toNat 0) (U2a (wAt p.cells c).toNat-1)=V6a (n.getD c.toNat 0) (U2a (wAt p.cells c).toNat-1) then 1 else 0) 1:=by
  rw[E.val_def];rfl
 rw[he,E2a _ _,E2a _ _];unfold g4c
 split
 ·rename_i h;exact⟨fun _=>h,fun _=>by decide⟩
 ·rename_i h;exact⟨fun hh=>absurd hh (by decide),fun hh=>absurd hh h⟩
theorem B2b{p:j0a}(hp:Z0a p){c:Int}(hc:0≤c∧c<p.cells.length):1≤wAt p.cells c∧wAt p.cells c≤8:=w1c hc fun c h=>(hp.cells c h).w
theorem n9b{p:j0a}{t:Nat}(h:onE p t≠zE):R6a p t≠zE∧∀m∈M1a p t,X2a p m≠zE :=
 ⟨fun h1=>h (j3b h1),fun _ hm h1=>h (j3b (K5b hm h1))⟩
theorem q4d{p:j0a}(hp:Z0a p){t:Nat}(h:onE p t≠zE)(o n:List Int):(onE p t).val o n=1↔(∃m∈M1a p t,(X2a p m).val o n=1)∧∀c:Int,0≤c→c<p.cells.length→A1a p.cells c=t→g4c p o n c:=by
 have hs:=(n9b h).1;unfold onE at h ⊢;rw[t8c h,List.forall_mem_cons];refine and_congr ?_ ⟨fun hh c h0 h1 h2=>?_,fun hh e he=>?_⟩
 ·unfold R6a at hs ⊢;rw[a3d hs];constructor
  ·rintro⟨e,he,h1⟩;obtain⟨m,hm,rfl⟩:=List.mem_map.1 he;exact⟨m,hm,h1⟩
  ·rintro⟨m,hm,h1⟩;exact⟨_,List.mem_map.2 ⟨m,hm,Z⟩,h1⟩
 ·exact(E8b (B2b hp ⟨h0,h1⟩) o n).1 (hh _ (List.mem_map.2 ⟨c,b6a.2 ⟨h0,h1,h2⟩,Z⟩))
 ·obtain⟨c,hc,rfl⟩:=List.mem_map.1 he;obtain⟨h3,h4,h5⟩:=b6a.1 hc;exact(E8b (B2b hp ⟨h3,h4⟩) o n).2 (hh c h3 h4 h5)
theorem Z5c{cells:List k1a}{g0 f0 b0 a0:List Int}:∀(e:E) (e0:Int),e.good e0=true→e.over cells true=true→(∀x:Int,e.occ 3 x=true→g0.getD x.toNat 0 % U2a (wAt cells x).toNat=b0.getD x.toNat 0 % U2a (wAt cells x).toNat)→(∀x:Int,e.occ 2 x=true→f0.getD x.toNat 0 % U2a (wAt cells x).toNat=a0.getD x.toNat 0 % U2a (wAt cells x).toNat)→e.val g0 f0=e.val b0 a0:=by
 intro e
 induction e using E.induct with
 | _ e ih =>
   intro e0 hg ho h3 h2;obtain⟨j0,i0⟩:=J1a hg;rw[E.over_def] at ho;simp only[Bool.and_eq_true,decide_eq_true_eq] at ho;have hk:e.kids.map (E.val g0 f0)=e.kids.map (E.val b0 a0):=by
    apply List.map_congr_left;intro k hk;refine ih k hk (e0-1) (i0 k hk) ((E.overs_iff _ _ _).1 ho.2 k hk) (fun x hx=>h3 x ?_) (fun x hx=>h2 x ?_)
    ·rw[E.occ_def,(E.occs_iff _ _ _).2 ⟨k,hk,hx⟩];simp
    ·rw[E.occ_def,(E.occs_iff _ _ _).2 ⟨k,hk,hx⟩];simp
   rw[E.val_def,E.val_def,hk];have c0:e.w.toNat≤62:=by have:=w3a j0;omega
   by_cases o2:e.op=2
   ·have d0:=(ho.1.2 (by omega)).2;have:=h2 e.n (by rw[E.occ_def];simp[o2]);rw[d0] at this;have n1:¬e.op=1:=by omega
    rw[if_neg n1,if_neg n1,if_pos o2,if_pos o2,E2a (hn:=c0) _ _,E2a (hn:=c0) _ _,this]
   ·by_cases o3:e.op=3
    ·have d0:=(ho.1.2 (by omega)).2;have:=h3 e.n (by rw[E.occ_def];simp[o3]);rw[d0] at this;have n1:¬e.op=1:=by omega
     rw[if_neg n1,if_neg n1,if_neg o2,if_neg o2,if_pos o3,if_pos o3,E2a (hn:=c0) _ _,E2a (hn:=c0) _ _,this]
    ·rw[if_neg o2,if_neg o3,if_neg o2,if_neg o3]
def k4a:E:=⟨1,1,1,[]⟩
def N2d:E:=⟨13,1,0,[⟨3,1,0,[]⟩,⟨2,1,0,[]⟩]⟩
def j2c(nm:ByteArray)(k:Int):Y0a:=⟨nm,2,[k4a,k4a],[k,k],[⟨3,0,1,k4a,[⟨k,k4a⟩],false,0,k⟩],[],false⟩
def e2a:j0a:=⟨[⟨⟨#[65,46,120]⟩,1,0,-1,false,0⟩,⟨⟨#[66,46,121]⟩,1,0,-1,false,1⟩],[⟨⟨#[65]⟩,⟨#[111]⟩,zE,N2d,[0]⟩,⟨⟨#[66]⟩,⟨#[111]⟩,zE,k4a,[1]⟩],[],[j2c ⟨#[97]⟩ 0,j2c ⟨#[98]⟩ 1]⟩
theorem m0d:Z0a e2a:=F6c (by kernel_rfl)
def m7a:E:=⟨5,1,0,[N2d,⟨11,1,0,[⟨3,1,1,[]⟩,⟨2,1,1,[]⟩]⟩]⟩
theorem b5a:X2a e2a 0=m7a:=by kernel_rfl
theorem u5b:onE e2a 1=m7a:=by kernel_rfl
theorem Q6c:onE e2a 0=⟨11,1,0,[⟨3,1,0,[]⟩,⟨2,1,0,[]⟩]⟩:=by kernel_rfl
theorem R8b:m7a.txt=[97,110,100,40,108,101,40,111,48,58,49,44,99,48,58,49,41,44,101,113,40,111,49,58,49,44,99,49,58,49,41,41]:=by kernel_rfl
theorem o7c:m7a.txB=true:=by kernel_rfl
theorem P3d:m7a.wf=true:=by kernel_rfl
theorem K7a:∀(a b:List (Int×Int)),a.Pairwise lt2→b.Pairwise lt2→(∀x,x∈a↔x∈b)→a=b
 | [],[],_,_,_=>rfl
 | [],y::b,_,_,h=>by have:=(h y).2 (by simp);cases this
 | x::a,[],_,_,h=>by have:=(h x).1 (by simp);cases this
 | x::a,y::b,ha,hb,h=>by
   rw[List.pairwise_cons] at ha hb;have a0:∀p:Int×Int,¬lt2 p p:=fun p hp=>by unfold lt2 at hp;omega
   have b0:∀p q:Int×Int,lt2 p q→lt2 q p→False:=fun p q h1 h2=>by unfold lt2 at h1 h2;omega
   have c0:x=y:=by
    rcases List.mem_cons.1 ((h x).1 (by simp)) with h1|h1
    ·exact h1
    ·rcases List.mem_cons.1 ((h y).2 (by simp)) with h2|h2
     ·exact h2.symm
     ·exact(b0 _ _ (hb.1 x h1) (ha.1 y h2)).elim
   subst c0
   congr 1
   refine K7a a b ha.2 hb.2 fun z=>⟨fun hz=>?_,fun hz=>?_⟩
   ·rcases List.mem_cons.1 ((h z).1 (List.mem_cons_of_mem _ hz)) with h1|h1
    ·subst h1;exact(a0 _ (ha.1 z hz)).elim
    ·exact h1
   ·rcases List.mem_cons.1 ((h z).2 (List.mem_cons_of_mem _ hz)) with h1|h1
    ·subst h1;exact(a0 _ (hb.1 z hz)).elim
    ·exact h1
theorem d7a:allC e2a 1 [0]=[0,1]:=by
 have h:=C4a ([0]++(onE e2a 1).sup 3) ((onE e2a 1).sup 2);have e3:(onE e2a 1).sup 3=[0,1]:=by kernel_rfl
 have e2:(onE e2a 1).sup 2=[0,1]:=by kernel_rfl
 refine r5a _ _ h.1 (by decide) fun x=>(h.2 x).trans ?_;rw[e3,e2];simp
theorem z2b:allC e2a 0 [0]=[0]:=by
 have h:=C4a ([0]++(onE e2a 0).sup 3) ((onE e2a 0).sup 2);have e3:(onE e2a 0).sup 3=[0]:=by kernel_rfl
 have e2:(onE e2a 0).sup 2=[0]:=by kernel_rfl
 refine r5a _ _ h.1 (by decide) fun x=>(h.2 x).trans ?_;rw[e3,e2];simp
theorem Clo.inv{R Q:Nat→Nat→Prop}{n x y:Nat}(h:Clo R n x y)(hr:∀x,Q x x)(ht:∀x y z,Q x y→R y z→Q x z):Q x y:=by
 induction h with
 | refl h=>exact hr _
 | tail h h2 h3 ih=>exact ht _ _ _ ih h2
theorem K8c:∀a,a<4→∀b,b<4→m7a.evl (stZ [0,1] [1,1] a D2a) (stZ [0,1] [1,1] b D2a)=1→nuZ [0] [1] (stZ [0,1] [1,1] a D2a)≤nuZ [0] [1] (stZ [0,1] [1,1] b D2a):=by decide +kernel
theorem R2b:m7a.evl (stZ [0,1] [1,1] 0 D2a) (stZ [0,1] [1,1] 1 D2a)=1∧nuZ [0] [1] (stZ [0,1] [1,1] 0 D2a)=0∧nuZ [0] [1] (stZ [0,1] [1,1] 1 D2a)=1:=by decide +kernel
theorem v9c:∀a,a<2→∀b,b<2→(⟨11,1,0,[⟨3,1,0,[]⟩,⟨2,1,0,[]⟩]⟩:E).evl (stZ [0] [1] a D2a) (stZ [0] [1] b D2a)=1→nuZ [0] [1] (stZ [0] [1] a D2a)=nuZ [0] [1] (stZ [0] [1] b D2a):=by decide +kernel
theorem Q3b(x y:Nat):Clo (y7b e2a 1 [0]) 2 x y↔x≤y∧y<2:=by
 have hb:∀x y,y7b e2a 1 [0] x y→x≤y:=fun x y h=>by
  obtain⟨a,b,⟨ha,hb,hv⟩,rfl,rfl⟩:=h;rw[d7a,u5b] at hv;rw[d7a] at ha hb ⊢;exact K8c a ha b hb hv
 constructor
 ·intro h;exact⟨h.inv (Q:=fun a b=>a≤b) (fun _=>Nat.le_refl _) (fun _ _ _ h1 h2=>Nat.le_trans h1 (hb _ _ h2)),h.lt.2⟩
 ·rintro⟨h1,h2⟩;rcases(show(x=0∧y=0)∨(x=0∧y=1)∨(x=1∧y=1) by omega) with⟨rfl,rfl⟩|⟨rfl,rfl⟩|⟨rfl,rfl⟩
  ·exact .refl (by omega)
  ·refine .tail (.refl (by omega)) ⟨0,1,?_,?_,?_⟩ (by omega)
   ·rw[d7a,u5b];exact⟨by decide,by decide,R2b.1⟩
   ·rw[d7a];exact R2b.2.1.symm
   ·rw[d7a];exact R2b.2.2.symm
  ·exact .refl (by omega)
theorem C6b(x y:Nat):Clo (y7b e2a 0 [0]) 2 x y↔x=y∧y<2:=by
 have hb:∀x y,y7b e2a 0 [0] x y→x=y:=fun x y h=>by
  obtain⟨a,b,⟨ha,hb,hv⟩,rfl,rfl⟩:=h;rw[z2b,Q6c] at hv;rw[z2b] at ha hb ⊢;exact v9c a ha b hb hv
 constructor
 ·intro h;exact⟨h.inv (Q:=fun a b=>a=b) (fun _=>rfl) (fun _ _ _ h1 h2=>h1.trans (hb _ _ h2)),h.lt.2⟩
 ·rintro⟨rfl,h2⟩;exact .refl h2
theorem j3d{l:List (Int×Int)}(hu:l.Pairwise lt2)(h:∀p,p∈l↔∃x y,Clo (y7b e2a 1 [0]) (2 ^ 1) x y∧p=((x:Int),(y:Int))):l=[(0,0),(0,1),(1,1)]:=by
 refine K7a _ _ hu (by simp[lt2]) fun p=>(h p).trans ?_;constructor
 ·rintro⟨x,y,hc,rfl⟩;have:=(Q3b x y).1 hc;rcases(show(x=0∧y=0)∨(x=0∧y=1)∨(x=1∧y=1) by omega) with⟨rfl,rfl⟩|⟨rfl,rfl⟩|⟨rfl,rfl⟩<;>simp
 ·intro hp;simp only[List.mem_cons,List.not_mem_nil,or_false] at hp;rcases hp with rfl|rfl|rfl
  ·exact⟨0,0,(Q3b 0 0).2 (by omega),Z⟩
  ·exact⟨0,1,(Q3b 0 1).2 (by omega),Z⟩
  ·exact⟨1,1,(Q3b 1 1).2 (by omega),Z⟩
theorem i2d{l:List (Int×Int)}(hu:l.Pairwise lt2)(h:∀p,p∈l↔∃x y,Clo (y7b e2a 0 [0]) (2 ^ 1) x y∧p=((x:Int),(y:Int))):l=[(0,0),(1,1)]:=by
 refine K7a _ _ hu (by simp[lt2]) fun p=>(h p).trans ?_;constructor
 ·rintro⟨x,y,hc,rfl⟩;have:=(C6b x y).1 hc;rcases(show(x=0∧y=0)∨(x=1∧y=1) by omega) with⟨rfl,rfl⟩|⟨rfl,rfl⟩<;>simp
 ·intro hp;simp only[List.mem_cons,List.not_mem_nil,or_false] at hp;rcases hp with rfl|rfl
  ·exact⟨0,0,(C6b 0 0).2 (by omega),Z⟩
  ·exact⟨1,1,(C6b 1 1).2 (by omega),Z⟩
theorem d9b{l:List (Int×Int)}(hu:l.Pairwise lt2)(h:∀x,x∈l↔J9a e2a 2 x):l=[(0,1),(1,0)]:=by
 refine K7a _ _ hu (by simp[lt2]) fun p=>(h p).trans ?_;constructor
 ·rintro⟨t,_,u,_,_,_,_,hu,_,h1,h2,h3,h4,rfl⟩;have a0:u<2:=hu;rcases(show(t=0∧u=1)∨(t=1∧u=0) by omega) with⟨rfl,rfl⟩|⟨rfl,rfl⟩<;>cases h1<;>cases h2<;>simp[j2c] at h3 h4<;>subst h3<;>subst h4<;>simp
 ·intro hp;simp only[List.mem_cons,List.not_mem_nil,or_false] at hp;rcases hp with rfl|rfl
  ·exact⟨0,by omega,1,_,_,_,1,by decide,by omega,Z,Z,List.mem_cons_self,by simp[j2c],Z⟩
  ·exact⟨1,by omega,0,_,_,_,0,by decide,by omega,Z,Z,List.mem_cons_self,by simp[j2c],Z⟩
theorem T8a{B g t n:Nat}{w:World}{vb:Value}{bs:List Value}(h:w.ownsRow B t 1 vb n bs):∀x∈g::vb.ownBlock.toList,x=g∨B≤x:=fun x hx=>by
 rcases List.mem_cons.1 hx with h1|h1
 ·exact .inl h1
 ·cases hv:vb.ownBlock with
  | none=>rw[hv] at h1;simp at h1
  | some y =>
    rw[hv] at h1;simp at h1;subst h1;exact .inr (e8a h hv).1
theorem L5a{B t n:Nat}{w:World}{vb:Value}{bs:List Value}{a l:List UInt8}(h:w.ownsRow B t 1 vb (n+a.length+(Q6a l).size) (bs++Lib.byteCells a++Lib.strCells (Q6a l))):w.ownsRow B t 1 vb (n+(a++l).length) (bs++Lib.byteCells (a++l)):=by
 rw[d3a,Nat.add_assoc,←List.length_append] at h;have e:bs++Lib.byteCells a++Lib.strCells (Q6a l)=bs++Lib.byteCells (a++l):=by
  rw[List.append_assoc]
  congr 1
  show Lib.byteCells a++Lib.byteCells l=_
  simp[Lib.byteCells]
 rw[e] at h;exact h
theorem Q9c{B t n:Nat}{w:World}{vb:Value}{bs:List Value}{a l:List UInt8}(h:w.ownsRow B t 1 vb (n+a.length+l.length) (bs++Lib.byteCells a++Lib.byteCells l)):w.ownsRow B t 1 vb (n+(a++l).length) (bs++Lib.byteCells (a++l)) :=
 L5a (by rw[d3a];exact h)
theorem r3b{B t n:Nat}{w:World}{vb:Value}{bs:List Value}(h:w.ownsRow B t 1 vb n bs):w.ownsRow B t 1 vb (n+([]:List UInt8).length) (bs++Lib.byteCells []):=by
 have e:bs++Lib.byteCells []=bs:=by simp[Lib.byteCells]
 rw[e];exact h
theorem q5c:∀(e:E) (B g gw:Nat) (w0:World) (b o:Nat) (pv vb:Value) (n:Nat) (bs:List Value),g<B→gw<B→gw≠g→B≤w0.heap.size→RB B g w0 e b o→NB B g w0 →
 w0.cell? ⟨gw,0,none⟩=some (.func (.func 95) #[] #[.pointer (some ⟨g,0,none⟩),.pointer (some ⟨gw,0,none⟩)])→(pv=.pointer none∨pv=.pointer (some ⟨g,0,none⟩)) →
 p0a w0 (g,145,[pv,vb])→w0.ownsRow B 5 1 vb n bs→e.txB=true→n+e.txt.length≤900000 →
 C0a prog 95 #[.pointer (some ⟨b,o,none⟩),.pointer (some ⟨g,0,none⟩),.pointer (some ⟨gw,0,none⟩)] w0 fun _ w' =>
  (∃i1,p0a w' (g,145,[.pointer (some ⟨g,0,none⟩),i1])∧w'.ownsRow B 5 1 i1 (n+e.txt.length) (bs++Lib.byteCells e.txt))∧BX B g w0 w':=by
 intro e
 induction e using E.induct with
 | _ e ih =>
 intro B g gw w0 b o pv vb n bs y0 A1 B1 hB hE hN a1 J0 U0 r0 K0 n0;obtain⟨j0,_,_,_,c0,c1,c2,_,nk,_,c3,hn,_,_,_,-,-⟩:=(hE (MB B g w0) y2d).open_;have f1:gw∉MB B g w0:=fun h=>by rcases R7a.1 h with h|h<;>omega
 have Y0:=hN (MB B g w0) y2d;have S:St (MB B g w0) w0 w0 [(some g,145,[pv,vb])]:=(St.reflM _ w0).push U0 (.inr (R7a.2 (.inl Z))) (by simp);have V0:=fun k hk=>hE.kid c3 hn k hk;by_cases s0:e.op=1∨e.op=2∨e.op=3;refine a0a func95 Z ntmps95 Z ?_;refine wO0 Z U (J0a D0a Z (by exact S.oldM j0 c0) Z ?_);refine lB0 Z U (fun O0=>?_) fun O0=>?_
 ·obtain⟨t0,u0,v0,x0⟩:=E.txB_leaf s0 K0;have KC:=t0a.refl [] w0;have l1:=c3b e.op;have l2:=K6a t0 u0;have l3:=K6a v0 x0;have o0:=E.txt_leaf s0;rw[o0] at n0;simp only[List.length_append,List.length_cons,List.length_nil] at n0;refine lC0 Z U (x0a b0a [0,1,2,3,4,5,6,7,8,9,10,11,12,13,14,15,16,17] [] [18] Z (Cl _ _ _ _) (Cl.start S) ?_);refine qO0 Z U (k0a D0a Z (fun w1 hw=>by exact hw.1.oldM j0 c0) Z ?_);refine f1a K2c Z Z (fun w1 S1 X1=>z0b e.op _) ?_;refine qO0 Z U (k0a D0a Z (fun w1 hw=>by exact hw.1.oldM j0 c2) Z ?_);refine f1a k2b Z Z (fun w1 S1 X1=>H6a e.n t0 u0 _) ?_;refine k8a Z Z (by omega) Z ?_;refine k8a (b:=[58]) Z Z (by simp;omega) Z ?_;refine qO0 Z U (k0a D0a Z (fun w1 hw=>by exact hw.1.oldM j0 c1) Z ?_);refine f1a k2b Z Z (fun w1 S1 X1=>H6a e.w v0 x0 _) ?_;refine k8a Z Z (by simp;omega) Z ?_;refine qD Z U ?_;rintro m1 ⟨i0,C0⟩;replace KC:=KC.trans C0;have d0:=Y1a (r3b r0) KC;refine p1a J1b Z Z (G2a B g y0 pv vb J0 _ _ (Q6a (e1c e.op++G9b e.n++[58]++G9b e.w)) _ (Nat.le_trans hB i0.size) (i0.blk 0 Z) d0 (by rw[d3a];simp;omega)) ?_;rintro g1 j1 ⟨⟨q0,b0,a0⟩,A0⟩;have B0:=St.wrote i0 (BX.ofB A0 (T8a d0) (Nat.le_trans hB i0.size)) b0;refine lR0 Z U (Q1a Z ?_);rw[o0];exact⟨⟨q0,b0,by simpa using L5a a0⟩,B0.bx hB⟩
 refine lB0 Z U (fun P0=>?_) fun P0=>?_
 ·obtain⟨t0,u0,v0,x0⟩:=E.txB_leaf s0 K0;have KC:=t0a.refl [] w0;have l1:=c3b e.op;have l2:=K6a t0 u0;have l3:=K6a v0 x0;have o0:=E.txt_leaf s0;rw[o0] at n0;simp only[List.length_append,List.length_cons,List.length_nil] at n0;refine lC0 Z U (x0a b0a [0,1,2,3,4,5,6,7,8,9,10,11,12,13,14,15,16,17] [] [18] Z (Cl _ _ _ _) (Cl.start S) ?_);refine qO0 Z U (k0a D0a Z (fun w1 hw=>by exact hw.1.oldM j0 c0) Z ?_);refine f1a K2c Z Z (fun w1 S1 X1=>z0b e.op _) ?_;refine qO0 Z U (k0a D0a Z (fun w1 hw=>by exact hw.1.oldM j0 c2) Z ?_);refine f1a k2b Z Z (fun w1 S1 X1=>H6a e.n t0 u0 _) ?_;refine k8a Z Z (by omega) Z ?_;refine k8a (b:=[58]) Z Z (by simp;omega) Z ?_;refine qO0 Z U (k0a D0a Z (fun w1 hw=>by exact hw.1.oldM j0 c1) Z ?_);refine f1a k2b Z Z (fun w1 S1 X1=>H6a e.w v0 x0 _) ?_;refine k8a Z Z (by simp;omega) Z ?_;refine qD Z U ?_;rintro m1 ⟨i0,C0⟩;replace KC:=KC.trans C0;have d0:=Y1a (r3b r0) KC;refine p1a J1b Z Z (G2a B g y0 pv vb J0 _ _ (Q6a (e1c e.op++G9b e.n++[58]++G9b e.w)) _ (Nat.le_trans hB i0.size) (i0.blk 0 Z) d0 (by rw[d3a];simp;omega)) ?_;rintro g1 j1 ⟨⟨q0,b0,a0⟩,A0⟩;have B0:=St.wrote i0 (BX.ofB A0 (T8a d0) (Nat.le_trans hB i0.size)) b0;refine lR0 Z U (Q1a Z ?_);rw[o0];exact⟨⟨q0,b0,by simpa using L5a a0⟩,B0.bx hB⟩
 refine lB0 Z U (fun Q0=>?_) (fun Q0=>by exfalso;omega);obtain⟨t0,u0,v0,x0⟩:=E.txB_leaf s0 K0;have KC:=t0a.refl [] w0;have l1:=c3b e.op;have l2:=K6a t0 u0;have l3:=K6a v0 x0;have o0:=E.txt_leaf s0;rw[o0] at n0;simp only[List.length_append,List.length_cons,List.length_nil] at n0;refine lC0 Z U (x0a b0a [0,1,2,3,4,5,6,7,8,9,10,11,12,13,14,15,16,17] [] [18] Z (Cl _ _ _ _) (Cl.start S) ?_);refine qO0 Z U (k0a D0a Z (fun w1 hw=>by exact hw.1.oldM j0 c0) Z ?_);refine f1a K2c Z Z (fun w1 S1 X1=>z0b e.op _) ?_;refine qO0 Z U (k0a D0a Z (fun w1 hw=>by exact hw.1.oldM j0 c2) Z ?_);refine f1a k2b Z Z (fun w1 S1 X1=>H6a e.n t0 u0 _) ?_;refine k8a Z Z (by omega) Z ?_;refine k8a (b:=[58]) Z Z (by simp;omega) Z ?_;refine qO0 Z U (k0a D0a Z (fun w1 hw=>by exact hw.1.oldM j0 c1) Z ?_);refine f1a k2b Z Z (fun w1 S1 X1=>H6a e.w v0 x0 _) ?_;refine k8a Z Z (by simp;omega) Z ?_;refine qD Z U ?_;rintro m1 ⟨i0,C0⟩;replace KC:=KC.trans C0;have d0:=Y1a (r3b r0) KC;refine p1a J1b Z Z (G2a B g y0 pv vb J0 _ _ (Q6a (e1c e.op++G9b e.n++[58]++G9b e.w)) _ (Nat.le_trans hB i0.size) (i0.blk 0 Z) d0 (by rw[d3a];simp;omega)) ?_;rintro g1 j1 ⟨⟨q0,b0,a0⟩,A0⟩;have B0:=St.wrote i0 (BX.ofB A0 (T8a d0) (Nat.le_trans hB i0.size)) b0;refine lR0 Z U (Q1a Z ?_);rw[o0];exact⟨⟨q0,b0,by simpa using L5a a0⟩,B0.bx hB⟩;refine a0a func95 Z ntmps95 Z ?_;refine wO0 Z U (J0a D0a Z (by exact S.oldM j0 c0) Z ?_);refine lB0 Z U (fun O0=>by exfalso;omega) fun O0=>?_;refine lB0 Z U (fun P0=>by exfalso;omega) fun P0=>?_;refine lB0 Z U (fun Q0=>by exfalso;omega) fun Q0=>?_;obtain⟨_,x1⟩:=E.txB_node s0 K0;have o0:=E.txt_node s0;obtain⟨nm,b1⟩:∃x,x=T1b.getD (e.op-4).toNat []:=⟨_,Z⟩;rw[←b1] at o0;have v1:(e.op-4).toNat<T1b.length:=by show _<11;omega
 have y1:T1b[(e.op-4).toNat]?=some nm:=by rw[b1,List.getD_eq_getElem?_getD,List.getElem?_eq_getElem v1];rfl
 have cN:=Y0.2 _ _ y1;have H1:e.txt.length=nm.length+(E.txts e.kids 40).length+1:=by rw[o0];simp;omega
 refine lO0 Z U (J0a D0a Z (by exact S.oldM j0 c0) Z ?_);refine lO0 Z ⟨by omega,U⟩ (H2a k9c Z Z Z ?_);refine J0a e3d Z (S.oldM Y0.1 (by simpa using cN)) Z ?_;have E0:=r3b r0;refine p1a J1b Z Z (G2a B g y0 pv vb J0 _ _ (Q6a nm) _ (Nat.le_trans hB S.size) (S.blk 0 Z) E0 (by rw[d3a];simp;omega)) ?_;rintro I1 D1 ⟨⟨q0,R0,e0⟩,n1⟩;have X0:=St.wrote S (BX.ofB n1 (T8a E0) (Nat.le_trans hB S.size)) R0;have e0:=L5a e0;have KD:=t0a.refl [] D1;refine lO0 Z U (J0a U1a Z (by exact X0.oldM j0 c3) Z ?_);refine lC0 Z U (wL (fun μk D ε w=>D=[]∧∃k:Nat,∃I0:Value,(k+μk=(e.kids.length))∧(w.ownsRow B 5 1 I0 (n+(nm++E.txts (e.kids.take k) 40).length) (bs++Lib.byteCells (nm++E.txts (e.kids.take k) 40)))∧St (MB B g w0) w0 w [(some g,145,[.pointer (some ⟨g,0,none⟩),I0])]∧Sl ε [(0,.pointer (some ⟨b,o,none⟩)),(1,.pointer (some ⟨g,0,none⟩)),(2,.pointer (some ⟨gw,0,none⟩)),(4,.string (Q6a (if k=0 then[40] else[44]))),(45,.int .i64 nk),(46,.int .i64 k)]) (μ:=(e.kids.length)) ⟨Z,0,_,by omega,(by simpa[E.txts] using Y1a e0 KD),X0,Z⟩ ?_);rintro μk D ε w ⟨rfl,k,I0,hk,p0,S,eZ⟩;refine wK eZ ?_;have KL:=t0a.refl [] w;refine wB0 Z U (fun u1=>?_) fun u1=>?_
 ·refine lO0 Z U ?_;obtain⟨x,H0⟩:∃x,e.kids[k]?=some x:=⟨e.kids[k]'(by omega),List.getElem?_eq_getElem _⟩;have z1:=E.txts_pre e.kids 40 (k+1);rw[E.txts_take 40 H0,List.length_append,List.length_cons] at z1;have d1:(if k=0 then[(40:UInt8)] else[44]).length=1:=by split<;>rfl
  have F0:=Y1a p0 KL;refine p1a J1b Z Z (G2a B g y0 _ I0 (.inr Z) _ _ (Q6a (if k=0 then[40] else[44])) _ (Nat.le_trans hB S.size) (S.blk 0 Z) F0 (by rw[d3a,d1,List.length_append];omega)) ?_;rintro v50 E1 ⟨⟨q0,S0,f0⟩,o1⟩;have r1:=St.wrote S (BX.ofB o1 (T8a F0) (Nat.le_trans hB S.size)) S0;have f0:=L5a f0;have L0:=t0a.refl [] E1;obtain⟨bk,ok,_,Z0⟩:=V0 k (by omega);have C1:e.kids[k]'(by omega)=x:=by have:=List.getElem?_eq_getElem (l:=e.kids) (i:=k) (by omega);rw[H0] at this;exact(Option.some.inj this).symm
  rw[C1] at Z0;refine lC0 Z U (x0a b0a [0,1,2,3,4,5,6] [] [7] Z (Cl _ _ _ _) (Cl.start r1) ?_);refine k0a j1c Z (fun w1 hw=>by exact hw.1.oldM f1 a1) Z ?_;refine qO0 Z U (k0a U1a Z (fun w1 hw=>by exact hw.1.oldM j0 c3) Z ?_);refine qO0 Z U (u0a T0a.slT Z (by assumption) Z Z ?_);refine qD Z U ?_;rintro G1 ⟨m0,N0⟩;replace L0:=L0.trans N0;have W0:=Y1a f0 L0;refine h7a n7c Z Z Z (ih x (List.mem_of_getElem? H0) B g gw _ bk (ok+k*4) _ q0 _ _ y0 A1 B1 (Nat.le_trans hB m0.size) (Z0.keep m0.keepM) (hN.keep m0.keepM) (m0.oldM f1 a1) (.inr Z) (m0.blk 0 Z) W0 (x1 x (List.mem_of_getElem? H0)) (by rw[List.length_append,List.length_append,d1];omega)) ?_;rintro J1 F1 ⟨⟨_,T0,z0⟩,p1⟩;have s1:=St.wrote m0 p1 T0;have KQ:=t0a.refl [] F1;refine lP0 Z ⟨by omega,U⟩ ⟨μk-1,by omega,Z,(k+1),(_),(by omega),?_,s1,Z⟩;rw[E.txts_take 40 H0];have z:=Y1a z0 KQ;have e1:nm++(E.txts (e.kids.take k) 40++((if k=0 then 40 else 44)::x.txt))=nm++E.txts (e.kids.take k) 40++(if k=0 then[40] else[44])++x.txt:=by split<;>simp
  rw[e1];exact Q9c z
 refine lO0 Z U ?_;obtain rfl:k=e.kids.length:=by omega
 rw[List.take_length] at p0;have G0:=Y1a p0 KL;refine p1a J1b Z Z (G2a B g y0 _ I0 (.inr Z) _ _ (Q6a [41]) _ (Nat.le_trans hB S.size) (S.blk 0 Z) G0 (by rw[d3a,List.length_append];simp;omega)) ?_;rintro K1 M1 ⟨⟨q0,D0,g0⟩,q1⟩;have t1:=St.wrote S (BX.ofB q1 (T8a G0) (Nat.le_trans hB S.size)) D0;have g0:=L5a g0;refine lF0 Z U (Q1a Z ?_);rw[o0];exact⟨⟨q0,D0,g0⟩,t1.bx hB⟩
theorem E2b{w:World}{B C e n:Nat}{v:Value}{xs:List Value}(h:w.ownsRow B e 1 v n xs)(hc:C≤B):w.ownsRow C e 1 v n xs:=by
 obtain⟨h1,h2⟩:=h;refine⟨h1,h2.imp id ?_⟩;rintro⟨g,a0,b0,q1,q2,q3⟩;exact⟨g,a0,b0,q1,Nat.le_trans hc q2,q3⟩
theorem C8b(e:E)(w0:World)(cs:List Value)(hR:RdE [] w0 e cs)(hK:B2a [] w0)(hN:W7a [] w0)(y0:e.wf=true)(x0:e.txB=true)(u0:e.txt.length≤800000):
 C0a prog 49 #[.agg cs.toArray] w0 fun v w'=>v=.string (Q6a e.txt)∧Below w0.heap.size w0 w':=by
 obtain⟨_,_,_,rfl,-⟩:=hR.open_;have S:=St.refl w0;refine a0a func49 Z ntmps49 Z ?_;refine wO0 Z U (o0a S Z ?_);intro g1 w1 S1 X1 G1;refine lO S1.k [.w 0] Z ⟨⟨Z,Z⟩,U⟩ (h0a S1 S1b Z Z (O2a (V2a e [] _ _ (RdE.keep (S1.keep0 []) _ _ hR) (hK.keep (S1.keep0 []))) y0) ?_);intro w6 S6 X6;refine lO0 Z U (g0a S6 r4d Z Z ?_);intro g3 w3 S3 X3 G3;refine lO0 Z U (g0a S3 V2d Z Z ?_);intro g4 w4 S4 X4 G4;refine lO0 Z U (K1a Z Z ?_);refine j1a (kk:=0) S4 a4d Z Z Z (by exact Nat.le_of_ble_eq_true Z) ?_;intro b0 a0 p0;refine lO a0.k [.o 0] Z ⟨Z,U⟩ ?_;have f0:∀M:List Nat,(∀x∈M,x=g3∨b0.heap.size≤x)→∀g∈M,g∈([]:List Nat)∨w0.heap.size≤g:=fun M hM g hg=>.inr (by
  rcases hM g hg with rfl|h
  ·simpa using a0.new 1 Z
  ·have:=a0.size;omega)
 have s0:RB b0.heap.size g3 b0 e g1 0:=fun M hM=>⟨fun hh=>by
  rcases hM g1 hh with h|h
  ·exact a0.ne 1 2 Z Z (by decide) h.symm
  ·have:=a0.lt 2 Z;omega,_,a0.cells 2 Z,RdE.keep (a0.keep0 M) _ _ (RdE.more (f0 M hM) _ _ hR)⟩
 have r0:NB b0.heap.size g3 b0:=fun M hM=>(hN.more (f0 M hM)).keep (a0.keep0 M);have g0:b0.ownsRow b0.heap.size 5 1 (.slice none 0 0) 0 []:=⟨Z,.inl ⟨Z,Z⟩⟩;refine h7a n7c Z Z Z (q5c e b0.heap.size g3 g4 b0 g1 0 (.pointer none) (.slice none 0 0) 0 [] (a0.lt 1 Z) (a0.lt 0 Z) (a0.ne 0 1 Z Z (by decide)) (Nat.le_refl _) s0 r0 (a0.cell 0 Z Z) (.inl Z) (a0.blk 1 Z) g0 x0 (by omega)) ?_;have t0:=a0.size;rintro z0 i0 ⟨⟨vb,m0,c0⟩,e0⟩;have o0:E0a [g3] b0 i0:=⟨e0.os,e0.tape,e0.output,e0.size,fun k h1 h2=>e0.block k h1 fun h=>h2 (by rw[h];simp)⟩;have d0:=a0.changed1 1 Z o0 m0;dsimp only[List.set] at d0;refine lO0 Z U ?_;have q0:Lib.IsBuilder 145 5 w0.heap.size g3 (Lib.byteCells e.txt) i0:=by
  have n0:i0.heap[g3]?=some (.cells #[.pointer (some ⟨g3,0,none⟩),vb] 145 (0,0)):=d0.blk 1 Z;have v0:vb.ownBlock≠some g3:=Lib.ownBlock_ne c0 n0 (by decide);have hz:=E2b c0 t0;rw[Nat.zero_add,List.nil_append] at hz;exact .inr ⟨by simpa using d0.new 1 Z,vb,n0,by rw[Lib.byteCells_length];exact hz,v0⟩
 refine p1a (R:=fun v w'=>v=.string (Q6a e.txt)∧Below w0.heap.size i0 w') k3d Z Z (Calls.mono (Tryz.Builder_String_any w0.heap.size g3 e.txt i0 q0 d0.size) (fun e w' h=>⟨_,h.1,Z,h.2⟩)) ?_;rintro A0 B0 ⟨rfl,j0⟩;exact lT Z U Z ⟨Z,d0.fin.trans j0⟩
section
variable {P:Program} {r:Option Nat} {N:Nat} {ops:Array Oper} {rest:List Oper} {C:World→Prop} {KQ:Env→Prop} {K:List Deferred→Env→World→Prop} {D:List Deferred} {e:Env} {w:World} {d:Nat} {t:TypeId} {p:String} {af:Array Edge} {x y:Operand} {yt:TypeId}
theorem Eq2.neq{ty:TypeId}(hE:Eq2 P ty)(w:World)(a b:Int×Int):(binOp .neq ty (.agg (pc a).toArray) (.agg (pc b).toArray)).run P w=.ok (.bool (!decide (a=b))) w:=by
 have:=hE.2 w a.1 a.2 b.1 b.2;have hd:decide (a=b)=decide (a.1=b.1∧a.2=b.2):=decide_eq_decide.2 Prod.ext_iff;rw[hd];show(binOp .neq ty (.agg #[.int .i64 a.1,.int .i64 a.2]) (.agg #[.int .i64 b.1,.int .i64 b.2])).run P w=_;rw[run_eql_struct] at this;rw[run_neq_struct]
 revert this
 generalize (Op.equalIn 10000 ty _ _).run P w=a0;intro this;cases a0 with
 | ok z w'=>simp only[Result.andThen_ok] at this ⊢;cases this;rfl
 | halt z w'=>simp[Result.andThen] at this
theorem Eq2.guard{ty:TypeId}(hE:Eq2 P ty)(w:World)(op:BinOp)(x y:Operand)(a b:Int×Int):(eqGuard op ty x y (.agg (pc a).toArray) (.agg (pc b).toArray)).run P w=.ok () w:=run_eqGuard_agg w _ _ _ _ _ _ hE.1
theorem Eq2.eql{ty:TypeId}(hE:Eq2 P ty)(w:World)(a b:Int×Int):(binOp .eql ty (.agg (pc a).toArray) (.agg (pc b).toArray)).run P w=.ok (.bool (decide (a=b))) w:=by
 have hd:decide (a=b)=decide (a.1=b.1∧a.2=b.2):=decide_eq_decide.2 Prod.ext_iff;rw[hd];exact hE.2 w a.1 a.2 b.1 b.2
theorem x2d{ty:TypeId}{a b:Int×Int}(hE:Eq2 P ty)(hx:ev e x=.agg (pc a).toArray)(hy:ev e y=.agg (pc b).toArray)(hd:Nat.ble (d+1) N=true)
 (h1:a≠b→QL P N ops C rest KQ (upd e d (.bool true))) (h2:a=b→QL P N ops C rest KQ (upd e d (.bool false))):QL P N ops C (⟨some d,.binOp .neq ty x y yt,t,p,af,none⟩::rest) KQ e:=by
 by_cases hh:a=b
 ·exact c2a Z Z hd (fun w _=>by simp only[execOp,hx,hy,Sem.run_bind,hE.guard,Result.andThen_ok,hE.neq,Sem.run_pure,decide_eq_true hh];rfl) (h2 hh)
 ·exact c2a Z Z hd (fun w _=>by simp only[execOp,hx,hy,Sem.run_bind,hE.guard,Result.andThen_ok,hE.neq,Sem.run_pure,decide_eq_false hh];rfl) (h1 hh)
theorem V4d{ty:TypeId}{a b:Int×Int}(hE:Eq2 P ty)(hx:ev e x=.agg (pc a).toArray)(hy:ev e y=.agg (pc b).toArray)(hd:Nat.ble (d+1) N=true)
 (h1:a=b→QL P N ops C rest KQ (upd e d (.bool true))) (h2:a≠b→QL P N ops C rest KQ (upd e d (.bool false))):QL P N ops C (⟨some d,.binOp .eql ty x y yt,t,p,af,none⟩::rest) KQ e:=by
 by_cases hh:a=b
 ·exact c2a Z Z hd (fun w _=>by simp only[execOp,hx,hy,Sem.run_bind,hE.guard,Result.andThen_ok,hE.eql,Sem.run_pure,decide_eq_true hh]) (h1 hh)
 ·exact c2a Z Z hd (fun w _=>by simp only[execOp,hx,hy,Sem.run_bind,hE.guard,Result.andThen_ok,hE.eql,Sem.run_pure,decide_eq_false hh]) (h2 hh)
end
theorem U9a(M:List Nat)(w0:World)(v:Value)(l:List Int)(a:Int)(hR:RdI M w0 v l):
 C0a prog 43 #[v,.int .i64 a] w0 fun v w'=>v=.bool (decide (a∈l))∧Below w0.heap.size w0 w':=by
 obtain⟨A,n,c,rfl⟩:=hR.form;obtain⟨_,-,_⟩:=hR.len;have S:=St.refl w0;refine a0a func43 Z ntmps43 Z ?_;refine wC0 Z U (wL (fun μk D ε w=>D=[]∧∃k:Nat,(k+μk=(l.length))∧(a∉l.take k)∧St [] w0 w []∧Sl ε [(0,.slice A n c),(1,.int .i64 a),(5,.int .i64 k)]) (μ:=(l.length)) ⟨Z,0,by omega,by simp,S,Z⟩ ?_);rintro μk D ε w ⟨rfl,k,_,ha,S,eZ⟩;refine wK eZ (wB0 Z U (fun h9=>?_) fun h9=>?_)
 ·obtain⟨x,f0,g0,_,e0,b0,_,_,c0,d0⟩:=RdS.get (hR) (k) (by omega);obtain⟨rfl,_⟩:=id d0;refine lB (S.k.a c0) [.x f0 g0,.f 0 0] Z ⟨Z,⟨b0,by omega⟩,U⟩ (fun a0=>?_) fun a0=>?_
  ·refine lR0 Z U (r0a Z ?_);exact⟨by rw[decide_eq_true (a0▸e0a e0:a∈l)],S.fin⟩
  refine lP0 Z ⟨by omega,U⟩ ⟨μk-1,by omega,Z,(k+1),(by omega),?_,S,Z⟩;rw[B0a e0];intro hh;rcases List.mem_append.1 hh with h|h
  ·exact ha h
  ·rw[List.mem_singleton.1 h] at a0;exact a0 Z
 refine lR0 Z U (r0a Z ?_);exact⟨by rw[decide_eq_false (by rw[List.take_of_length_le (by omega)] at ha;exact ha)],S.fin⟩
theorem m3a(M:List Nat)(w0:World)(v u:Value)(a b:List (Int×Int))(hA:h4b M w0 v a)(hB:h4b M w0 u b):
 C0a prog 12 #[v,u] w0 fun v w'=>v=.bool (decide (a=b))∧Below w0.heap.size w0 w':=by
 obtain⟨A,n,c,rfl⟩:=hA.form;obtain⟨hn,-,_⟩:=hA.len;obtain⟨A',n',c',rfl⟩:=hB.form;obtain⟨_,-,_⟩:=hB.len;have S:=St.refl w0;refine a0a func12 Z ntmps12 Z ?_;refine wB0 Z U (fun x0=>?_) fun x0=>?_
 ·refine lR0 Z U (r0a Z ?_);exact⟨by rw[decide_eq_false (fun h=>by rw[h] at hn;omega)],S.fin⟩
 have C0:b.length=a.length:=by omega
 refine lC0 Z U (wL (fun μk D ε w=>D=[]∧∃k:Nat,(k+μk=(a.length))∧(a.take k=b.take k)∧St [] w0 w []∧Sl ε [(0,.slice A n c),(1,.slice A' n' c'),(5,.int .i64 k)]) (μ:=(a.length)) ⟨Z,0,by omega,by simp,S,Z⟩ ?_);rintro μk D ε w ⟨rfl,k,_,he,S,eZ⟩;refine wK eZ (wB0 Z U (fun y0=>?_) fun y0=>?_)
 ·refine lC0 Z U (x0a b0a [0,1,2,3,4,5,6,7,8] [] [] Z (Cl _ _ _ _) (Cl.start S) ?_);obtain⟨x,q0,z0,s0,n0,c0,_,g0,e0,j0⟩:=RdS.get (hA) (k) (by omega);obtain⟨u0,_⟩:=j0;obtain rfl:s0=pc x:=u0;obtain⟨y,r0,A0,t0,o0,d0,_,i0,f0,m0⟩:=RdS.get (hB) (k) (by omega);obtain⟨v0,_⟩:=m0;obtain rfl:t0=pc y:=v0;refine qOn 8 ((S.q.a f0).a e0) [.x q0 z0,.v 0,.x r0 A0,.v 1] Z ⟨⟨Z,i0⟩,⟨d0,by omega⟩,⟨Z,g0⟩,⟨c0,by omega⟩,U⟩ (x2d (a:=x) (b:=y) e4b Z Z Z (fun b0=>?_) fun b0=>?_)
  ·refine qD Z U ?_;rintro B0 ⟨a0,p0⟩;refine lR0 Z U (r0a Z ?_);exact⟨by rw[decide_eq_false (fun h=>b0 (Option.some.inj (n0.symm.trans (by rw[h];exact o0))))],a0.fin⟩
  refine qD Z U ?_;rintro B0 ⟨a0,p0⟩;refine lP0 Z ⟨by omega,U⟩ ⟨μk-1,by omega,Z,(k+1),(by omega),?_,a0,Z⟩;rw[B0a n0,B0a o0,he,b0]
 refine lR0 Z U (r0a Z ?_);exact⟨by rw[decide_eq_true (by rw[List.take_of_length_le (by omega),List.take_of_length_le (by omega)] at he;exact he)],S.fin⟩
theorem o9b(n wd:Int)(w0:World):C0a prog 93 #[.int .i64 n,.int .i64 wd] w0 fun v w'=>v=.agg #[.int .i64 3,.int .i64 wd,.int .i64 n,.slice none 0 0]∧Below w0.heap.size w0 w':=by
 have S:=St.refl w0;refine a0a func93 Z ntmps93 Z ?_;refine wO0 Z U (g0a S j2a Z Z ?_);intro g4 w4 S4 X4 G4;refine lO0 Z U (G0a p2a (vs:=[(0,.int .i64 _),(1,.int .i64 _),(2,.int .i64 _)]) (cs:=[_,_,_,_]) Z Z Z Z ?_)
 first|refine d0a (kk:=0) (vs:=[_,_,_,_]) S4 v1a Z Z Z Z Z Z Z ?_
 intro c0 a0 b0;dsimp only[i0a,List.set] at a0;exact lR0 Z U (v0a Z K0a Z (a0.cells 0 Z) Z ⟨Z,a0.fin⟩)
theorem Y4b(n wd:Int)(w0:World):C0a prog 94 #[.int .i64 n,.int .i64 wd] w0 fun v w'=>v=.agg #[.int .i64 2,.int .i64 wd,.int .i64 n,.slice none 0 0]∧Below w0.heap.size w0 w':=by
 have S:=St.refl w0;refine a0a func94 Z ntmps94 Z ?_;refine wO0 Z U (g0a S j2a Z Z ?_);intro g4 w4 S4 X4 G4;refine lO0 Z U (G0a p2a (vs:=[(0,.int .i64 _),(1,.int .i64 _),(2,.int .i64 _)]) (cs:=[_,_,_,_]) Z Z Z Z ?_)
 first|refine d0a (kk:=0) (vs:=[_,_,_,_]) S4 v1a Z Z Z Z Z Z Z ?_
 intro c0 a0 b0;dsimp only[i0a,List.set] at a0;exact lR0 Z U (v0a Z K0a Z (a0.cells 0 Z) Z ⟨Z,a0.fin⟩)
theorem Q9b(n wd:Int)(w0:World):C0a prog 39 #[.int .i64 n,.int .i64 wd] w0 fun v w'=>v=.agg #[.int .i64 1,.int .i64 wd,.int .i64 n,.slice none 0 0]∧Below w0.heap.size w0 w':=by
 have S:=St.refl w0;refine a0a func39 Z ntmps39 Z ?_;refine wO0 Z U (g0a S j2a Z Z ?_);intro g4 w4 S4 X4 G4;refine lO0 Z U (G0a p2a (vs:=[(0,.int .i64 _),(1,.int .i64 _),(2,.int .i64 _)]) (cs:=[_,_,_,_]) Z Z Z Z ?_)
 first|refine d0a (kk:=0) (vs:=[_,_,_,_]) S4 v1a Z Z Z Z Z Z Z ?_
 intro c0 a0 b0;dsimp only[i0a,List.set] at a0;exact lR0 Z U (v0a Z K0a Z (a0.cells 0 Z) Z ⟨Z,a0.fin⟩)
theorem b9b(op wd:Int)(ho:i64 op)(hw:i64 wd)(a b:E)(ca cb:List Value)(M:List Nat)(w0:World)(hM:∀g∈M,g<w0.heap.size)(ha:RdE M w0 a ca)(hb:RdE M w0 b cb):
 C0a prog 92 #[.int .i64 op,.int .i64 wd,.agg ca.toArray,.agg cb.toArray] w0 fun v w'=>(∃cs:List Value,v=.agg cs.toArray∧RdE M w' ⟨op,wd,0,[a,b]⟩ cs)∧Below w0.heap.size w0 w':=by
 have S:=St.refl w0;obtain⟨_,_,_,rfl,-⟩:=ha.open_;obtain⟨_,_,_,rfl,-⟩:=hb.open_;refine a0a func92 Z ntmps92 Z ?_;refine wO0 Z U (o0a S Z ?_);intro g6 w6 S6 X6 G6;refine o0a S6 Z ?_;intro g7 w7 S7 X7 G7;refine g0a S7 j2a Z Z ?_;intro g8 w8 S8 X8 G8;refine lO S8.k [.w 2,.w 1] Z ⟨⟨Z,by rfl⟩,⟨Z,by rfl⟩,U⟩ (m0a S8 T0a (vs:=[.agg _,.agg _]) (cs:=[_,_,_,_,_,_,_,_]) Z Z Z Z Z Z ?_);intro g0 i0 b0 f0 e0;refine G0a p2a (vs:=[(0,.int .i64 _),(1,.int .i64 _),(3,.slice _ _ _)]) (cs:=[_,_,_,_]) Z Z Z Z ?_;refine d0a (kk:=1) (vs:=[_,_,_,_]) b0 v1a Z Z Z Z Z Z Z ?_;intro d0 a0 c0;dsimp only[i0a,List.set] at a0;refine lR0 Z U (v0a Z K0a Z (a0.cells 1 Z) Z ⟨⟨_,Z,I3b ho hw (fun hm=>?_) (a0.cells 0 Z) (RdE.keep (a0.keep0 M) _ _ ha) (RdE.keep (a0.keep0 M) _ _ hb)⟩,a0.fin⟩);have h1:=hM _ hm;have h2:=a0.new 0 Z;simp at h2;omega
theorem W6a(p:j0a)(k:Nat)(M:List Nat)(w0:World)(cs:List Value)(hI:InP p M w0 cs)(hk:k<p.cells.length:=by omega):
 C0a prog 56 #[.agg cs.toArray,.int .i64 k] w0 fun v w'=>(∃cs:List Value,v=.agg cs.toArray∧RdE M w' (X3a p k) cs)∧Below w0.heap.size w0 w':=by
 obtain⟨_,_,_,_,_,_,_,_,_,_,_,_,rfl,hC,_⟩:=hI.rd.open_;have hM:=hI.lt;have s0:=hI.ok.ncells;have S:=St.refl w0;refine a0a func56 Z ntmps56 Z ?_;refine wO0 Z U (o0a S Z ?_);intro g2 w2 S2 X2 G2;refine g0a S2 j2a Z Z ?_;intro g4 w4 S4 X4 G4;refine lC0 Z U (x0a b0a [0,1,2,3,4,5,6,7,8,9,10,11,12,13,14,15] [] [16,17] Z (Cl _ _ _ _) (Cl.start S4) ?_);obtain⟨y,b9,p9,_,i0,q0,_,_,r0,t0⟩:=RdS.get (hC) (k) (by omega);obtain⟨rfl,_⟩:=J2a.open_ t0;have u0:wAt p.cells k=y.w:=z5a (by rw[Int.toNat_natCast];exact i0);have A0:=(hI.ok.cells y (e0a i0)).w;refine qO (S4.q.a r0) [.o 1,.x b9 p9,.f 0 1] Z ⟨Z,⟨q0,by omega⟩,Z,U⟩ (f1a U6c Z Z (fun w1 S1 X1=>o9b k y.w _) ?_);obtain⟨_,p0,v0,_,g0,d0,_,_,e0,f0⟩:=RdS.get (hC) (k) (by omega);obtain rfl:=Option.some.inj (i0.symm.trans g0);obtain⟨rfl,_⟩:=J2a.open_ f0;refine qO (S4.q.a e0) [.o 1,.x p0 v0,.f 0 1] Z ⟨Z,⟨d0,by omega⟩,Z,U⟩ (f1a J6c Z Z (fun w1 S1 X1=>Y4b k y.w _) ?_);refine qD Z U ?_;rintro y0 ⟨c0,_⟩;have o0:∀g∈g4::M,g<y0.heap.size:=fun g hg=>by
  rcases List.mem_cons.1 hg with rfl|hg
  ·exact c0.lt 0 Z
  ·exact Nat.lt_of_lt_of_le (hM g hg) c0.size
 have ik:i64 (k:Int):=by unfold i64;omega
 have iw:i64 y.w:=by unfold i64;omega
 refine n0a c0 I1c Z Z (b9b 11 1 (by unfold i64;omega) (by unfold i64;omega) ⟨3,y.w,k,[]⟩ ⟨2,y.w,k,[]⟩ [_,_,_,_] [_,_,_,_] (g4::M) _ o0 (u1a (by unfold i64;omega) iw ik) (u1a (by unfold i64;omega) iw ik)) ?_;rintro B0 x0 ⟨_,rfl,j0⟩ n0 z0;obtain⟨_,_,_,rfl,-⟩:=j0.open_;have KE:=t0a.refl (g4::M) x0;refine d0a (kk:=0) (vs:=[_,_,_,_]) n0 v1a Z Z Z Z Z Z Z ?_;intro m0 a0 b0;dsimp only[i0a,List.set] at a0;replace KE:=KE.fresh2 b0 (by first  | exact .inr (by simp));refine lR0 Z U ?_;exact v0a Z K0a Z (a0.cells 0 Z) Z ⟨⟨_,Z,by unfold X3a;rw[u0];exact RdE.less (fun g hg=>List.mem_cons_of_mem _ hg) _ _ (RdE.keep KE _ _ j0)⟩,a0.fin⟩
theorem P5b(w0:World):
 C0a prog 48 #[] w0 fun v w'=>(∃cs:List Value,v=.agg cs.toArray∧a1a [] w' e2a cs)∧Below w0.heap.size w0 w':=by
 have S:=St.refl w0;have i0:i64 0:=by unfold i64;omega
 have i1:i64 1:=by unfold i64;omega
 have i2:i64 2:=by unfold i64;omega
 have i3:i64 3:=by unfold i64;omega
 have im:i64 (-1):=by unfold i64;omega
 have y1:i64 13:=by unfold i64;omega
 refine a0a func48 Z ntmps48 Z ?_;refine wO0 Z U (g0a S p0d Z Z ?_);intro g0 w0 S0 X0 G0;refine lO0 Z U (h0a S0 x8b Z Z (Q9b _ _ _) ?_);intro w6 S6 X6;refine g0a S6 j2a Z Z ?_;intro g1 w1 S1 X1 G1;refine d0a (kk:=0) (vs:=[_,_,_,_]) S1 v1a Z Z Z Z Z Z Z ?_;intro A1 r0 U0;dsimp only[i0a,List.set] at r0;refine lO0 Z U (G0a D7c (vs:=[(0,.string _),(1,.int .i64 _),(3,.int .i64 _)]) (cs:=[_,_,_,_,_,_]) Z Z Z Z ?_);refine G0a D7c (vs:=[(0,.string _),(1,.int .i64 _),(3,.int .i64 _),(5,.int .i64 _)]) (cs:=[_,_,_,_,_,_]) Z Z Z Z ?_;refine m0a r0 x6a (vs:=[.agg _,.agg _]) (cs:=[_,_,_,_,_,_,_,_,_,_,_,_]) Z Z Z Z Z Z ?_;intro g9 w9 S9 X9 G9;refine lO0 Z U (h0a S9 U6c Z Z (o9b _ _ _) ?_);intro Y1 F0 Q1;refine h0a F0 J6c Z Z (Y4b _ _ _) ?_;intro Z1 x0 R1;refine n0a x0 I1c Z Z (b9b 13 1 y1 i1 ⟨3,1,0,[]⟩ ⟨2,1,0,[]⟩ [_,_,_,_] [_,_,_,_] [g0] _ (fun g hg=>by rw[List.mem_singleton.1 hg];exact x0.lt 2 Z) (u1a i3 i1 i0) (u1a i2 i1 i0)) ?_;rintro W1 z1 ⟨_,rfl,C0⟩ H0 T1;have b0:=t0a.refl [] z1;obtain⟨_,_,_,rfl,-⟩:=C0.open_;refine g0a H0 j2a Z Z ?_;intro g3 w3 S3 X3 G3;have o0:=Nat.le_trans b0.size G3;replace b0:=b0.trans X3;refine d0a (kk:=0) (vs:=[_,_,_,_]) S3 v1a Z Z Z Z Z Z Z ?_;intro B1 n0 v0;dsimp only[i0a,List.set] at n0;replace b0:=b0.fresh v0 (by first|exact o0);refine lO n0.k [.w 2,.w 2] Z ⟨⟨Z,by rfl⟩,⟨Z,by rfl⟩,U⟩ (m0a n0 T0a (vs:=[.agg _,.agg _]) (cs:=[_,_,_,_,_,_,_,_]) Z Z Z Z Z Z ?_);intro n1 a2 I0 R0 C1;replace b0:=b0.trans R0;refine m0a I0 R0a (vs:=[.int .i64 _,.int .i64 _]) (cs:=[_,_]) Z Z Z Z Z Z ?_;intro o1 b2 y0 T0 D1;replace b0:=b0.trans T0;refine lO y0.k [.w 4,.w 4] Z ⟨⟨Z,by rfl⟩,⟨Z,by rfl⟩,U⟩ (G0a B2c (vs:=[(0,.int .i64 _),(1,.agg _)]) (cs:=[_,_,_,_,_]) Z Z Z Z ?_);refine m0a y0 s9a (vs:=[.agg _]) (cs:=[_,_,_,_,_]) Z Z Z Z Z Z ?_;intro p1 d2 J0 V0 E1;replace b0:=b0.trans V0;refine G0a S6c (vs:=[(0,.int .i64 _),(1,.int .i64 _),(2,.int .i64 _),(3,.agg _),(4,.slice _ _ _)]) (cs:=[_,_,_,_,_,_,_,_,_,_,_]) Z Z Z Z ?_;refine m0a J0 j9b (vs:=[.agg _]) (cs:=[_,_,_,_,_,_,_,_,_,_,_]) Z Z Z Z Z Z ?_;intro q1 e2 K0 W0 F1;replace b0:=b0.trans W0;refine G0a i7c (vs:=[(0,.string _),(1,.int .i64 _),(2,.slice _ _ _),(3,.slice _ _ _),(4,.slice _ _ _)]) (cs:=[_,_,_,_,_,_,_]) Z Z Z Z ?_;refine g0a K0 u1b Z Z ?_;intro g4 w4 S4 X4 G4;have p0:=Nat.le_trans b0.size G4;replace b0:=b0.trans X4;refine d0a (kk:=0) (vs:=[_,_,_,_,_,_,_]) S4 y1b Z Z Z Z Z Z Z ?_;intro D0 e0 s0;dsimp only[i0a,List.set] at e0;replace b0:=b0.fresh s0 (by exact p0);refine lO e0.k [.w 7,.w 7] Z ⟨⟨Z,by rfl⟩,⟨Z,by rfl⟩,U⟩ (m0a e0 T0a (vs:=[.agg _,.agg _]) (cs:=[_,_,_,_,_,_,_,_]) Z Z Z Z Z Z ?_);intro r1 f2 L0 Y0 H1;replace b0:=b0.trans Y0;refine m0a L0 R0a (vs:=[.int .i64 _,.int .i64 _]) (cs:=[_,_]) Z Z Z Z Z Z ?_;intro s1 g2 z0 Z0 I1;replace b0:=b0.trans Z0;refine lO z0.k [.w 9,.w 9] Z ⟨⟨Z,by rfl⟩,⟨Z,by rfl⟩,U⟩ (G0a B2c (vs:=[(0,.int .i64 _),(1,.agg _)]) (cs:=[_,_,_,_,_]) Z Z Z Z ?_);refine m0a z0 s9a (vs:=[.agg _]) (cs:=[_,_,_,_,_]) Z Z Z Z Z Z ?_;intro t1 h2 N0 a1 J1;replace b0:=b0.trans a1;refine G0a S6c (vs:=[(0,.int .i64 _),(1,.int .i64 _),(2,.int .i64 _),(3,.agg _),(4,.slice _ _ _),(7,.int .i64 _)]) (cs:=[_,_,_,_,_,_,_,_,_,_,_]) Z Z Z Z ?_;refine m0a N0 j9b (vs:=[.agg _]) (cs:=[_,_,_,_,_,_,_,_,_,_,_]) Z Z Z Z Z Z ?_;intro u1 j2 O0 b1 K1;replace b0:=b0.trans b1;refine G0a i7c (vs:=[(0,.string _),(1,.int .i64 _),(2,.slice _ _ _),(3,.slice _ _ _),(4,.slice _ _ _)]) (cs:=[_,_,_,_,_,_,_]) Z Z Z Z ?_;refine g0a O0 u1b Z Z ?_;intro g5 w5 S5 X5 G5;have q0:=Nat.le_trans b0.size G5;replace b0:=b0.trans X5;refine d0a (kk:=0) (vs:=[_,_,_,_,_,_,_]) S5 y1b Z Z Z Z Z Z Z ?_;intro E0 j0 t0;dsimp only[i0a,List.set] at j0;replace b0:=b0.fresh t0 (by exact q0);have d0:=RdE.keep b0.of_nil _ _ C0;refine lO j0.k [.w 10] Z ⟨⟨Z,by rfl⟩,U⟩ (m0a j0 R0a (vs:=[.int .i64 _]) (cs:=[_]) Z Z Z Z Z Z ?_);intro v1 m2 A0 c1 M1;replace d0:=RdE.keep (c1.of_nil) _ _ d0;refine G0a u7c (vs:=[(0,.string _),(1,.string _),(3,.agg _),(4,.slice _ _ _)]) (cs:=[_,_,_,_,_,_,_,_,_,_,_]) Z Z Z Z ?_;refine lO A0.k [.w 13] Z ⟨⟨Z,by rfl⟩,U⟩ (m0a A0 R0a (vs:=[.int .i64 _]) (cs:=[_]) Z Z Z Z Z Z ?_);intro x1 n2 P0 d1 N1;replace d0:=RdE.keep (d1.of_nil) _ _ d0;refine G0a u7c (vs:=[(0,.string _),(1,.string _),(3,.agg _),(4,.slice _ _ _)]) (cs:=[_,_,_,_,_,_,_,_,_,_,_]) Z Z Z Z ?_;refine m0a P0 L6c (vs:=[.agg _,.agg _]) (cs:=[_,_,_,_,_,_,_,_,_,_,_,_,_,_,_,_,_,_,_,_,_,_]) Z Z Z Z Z Z ?_;intro U1 o2 B0 j1 O1;replace d0:=RdE.keep (j1.of_nil) _ _ d0;refine lO B0.k [.w 8,.w 3] Z ⟨⟨Z,by rfl⟩,⟨Z,by rfl⟩,U⟩ (m0a B0 t8b (vs:=[.agg _,.agg _]) (cs:=[_,_,_,_,_,_,_,_,_,_,_,_,_,_]) Z Z Z Z Z Z ?_);intro V1 p2 Q0 m1 P1;replace d0:=RdE.keep (m1.of_nil) _ _ d0;refine G0a v2d (vs:=[(0,.slice _ _ _),(1,.slice _ _ _),(3,.slice _ _ _)]) (cs:=[_,_,_,_]) Z Z Z Z ?_;refine d0a (kk:=17) (vs:=[_,_,_,_]) Q0 Q0d Z Z Z Z Z Z Z ?_;intro a0 m0 u0;dsimp only[i0a,List.set] at m0;replace d0:=RdE.keep (u0.mono (by simp)) _ _ d0;refine lR0 Z U ?_;have SF:=m0;replace d0:=RdE.less (M':=[]) (by simp) _ _ d0;have c0:RdE [] a0 k4a [.int .i64 1,.int .i64 1,.int .i64 1,.slice none 0 0]:=u1a i1 i1 i1;have hz:RdE [] a0 zE [.int .i64 0,.int .i64 0,.int .i64 0,.slice none 0 0]:=u1a i0 i0 i0;have f0:RdI [] a0 (.slice (some ⟨v1,0,none⟩) 1 1) [0]:=x3a SF (k:=3) Z Z (by simp[i0]);have f1:RdI [] a0 (.slice (some ⟨x1,0,none⟩) 1 1) [1]:=x3a SF (k:=2) Z Z (by simp[i1]);have ma:RdI [] a0 (.slice (some ⟨o1,0,none⟩) 2 2) [0,0]:=x3a SF (k:=12) Z Z (by simp[i0]);have mb:RdI [] a0 (.slice (some ⟨s1,0,none⟩) 2 2) [1,1]:=x3a SF (k:=7) Z Z (by simp[i1]);have sa:G6c [] a0 (.slice (some ⟨p1,0,none⟩) 1 1) [⟨0,k4a⟩]:=G4c (SF.cells 11 Z) Z ⟨_,Z,i0,c0⟩;have sb:G6c [] a0 (.slice (some ⟨t1,0,none⟩) 1 1) [⟨1,k4a⟩]:=G4c (SF.cells 6 Z) Z ⟨_,Z,i1,c0⟩;have aa:W1d [] a0 (.slice (some ⟨n1,0,none⟩) 2 2) [k4a,k4a]:=s3b (c:=[_,_,_,_]) (c2:=[_,_,_,_]) (SF.cells 13 Z) Z Z c0 c0;have ab:W1d [] a0 (.slice (some ⟨r1,0,none⟩) 2 2) [k4a,k4a]:=s3b (c:=[_,_,_,_]) (c2:=[_,_,_,_]) (SF.cells 8 Z) Z Z c0 c0;have ta:Y3d [] a0 (.slice (some ⟨q1,0,none⟩) 1 1) [⟨3,0,1,k4a,[⟨0,k4a⟩],false,0,0⟩]:=G4c (SF.cells 10 Z) Z ⟨_,_,_,_,_,Z,i3,i0,i1,i0,i0,c0,sa⟩;have tb:Y3d [] a0 (.slice (some ⟨u1,0,none⟩) 1 1) [⟨3,0,1,k4a,[⟨1,k4a⟩],false,0,1⟩]:=G4c (SF.cells 5 Z) Z ⟨_,_,_,_,_,Z,i3,i0,i1,i0,i1,c0,sb⟩;refine v0a Z z3a Z (SF.cells 17 Z) Z ⟨⟨_,Z,_,_,_,_,Z,?_,?_,g4b,?_⟩,SF.fin⟩
 ·exact s3b (c:=[_,_,_,_,_,_]) (c2:=[_,_,_,_,_,_]) (SF.cells 15 Z) Z Z ⟨Z,i1,i0,im,i0⟩ ⟨Z,i1,i0,im,i1⟩
 ·exact s3b (c:=[_,_,_,_,_,_,_,_,_,_,_]) (c2:=[_,_,_,_,_,_,_,_,_,_,_]) (SF.cells 1 Z) Z Z ⟨_,_,_,_,_,_,_,_,_,Z,hz,d0,f0⟩ ⟨_,_,_,_,_,_,_,_,_,Z,hz,c0,f1⟩
 ·exact s3b (c:=[_,_,_,_,_,_,_]) (c2:=[_,_,_,_,_,_,_]) (SF.cells 0 Z) Z Z ⟨_,_,_,_,Z,i2,aa,ma,ta,g4b⟩ ⟨_,_,_,_,Z,i2,ab,mb,tb,g4b⟩
theorem M5c:∀l,l=[0]∨l=[0,1]→wdL e2a.cells l=l.map fun _=>1:=fun l h=>by rcases h with rfl|rfl<;>rfl
theorem t2c(w0:World)(hK:B2a [] w0)(hN:W7a [] w0):
 C0a prog 10 #[] w0 fun v w'=>v=.bool true∧Below w0.heap.size w0 w':=by
 have S:=St.refl w0;have i0:i64 0:=by unfold i64;omega
 have i1:i64 1:=by unfold i64;omega
 have r1:onE e2a 1≠zE:=by rw[u5b];intro h;exact absurd (congrArg E.op h) (by decide)
 have q1:onE e2a 0≠zE:=by rw[Q6c];intro h;exact absurd (congrArg E.op h) (by decide)
 have K1:∀c∈[(0:Int)],0≤c∧c<e2a.cells.length:=by simp[e2a]
 have r2:∀c∈[(0:Int),1],0≤c∧c<e2a.cells.length:=by simp[e2a]
 refine a0a func10 Z ntmps10 Z ?_;refine wO0 Z U (n0a S I2d Z Z (P5b _) ?_);rintro v6 w6 ⟨_,rfl,r6⟩ S6 X6;obtain⟨_,_,_,_,_,_,_,_,_,_,_,_,rfl,-⟩:=r6.open_;have K6:=t0a.refl [] w6;have y0:InP e2a [] w6 _:=⟨r6,m0d,hK.keep (S6.keep0 []),by simp⟩;refine g0a S6 p0d Z Z ?_;intro g1 w1 S1 X1 G1;have u1:=Nat.le_trans K6.size G1;replace K6:=K6.trans X1
 first|refine d0a (kk:=0) (vs:=[_,_,_,_]) S1 Q0d Z Z Z Z Z Z Z ?_
 intro H2 Q0 y1;dsimp only[i0a,List.set] at Q0;replace K6:=K6.fresh y1 (by first|exact u1);refine lO Q0.k [.w 0] Z ⟨⟨Z,Z⟩,U⟩ (m0a Q0 R0a (vs:=[.int .i64 _]) (cs:=[_]) Z Z Z Z Z Z ?_);intro g9 w9 S9 X9 G9;replace K6:=K6.trans X9;refine n0a S9 z2c Z Z (m0b e2a 1 [0] (by simp[r2a]) K1 [] _ _ _ (y0.keep K6) (show RdI [] _ (.slice (some ⟨g9,0,none⟩) 1 1) [0] from x3a S9 (k:=0) Z Z (by simp[i0])) r1 (D6a m0d r1) 1 (by rw[M5c _ (.inl rfl)];rfl) 2 (by rw[d7a,M5c _ (.inr rfl)];rfl) (by omega) (by rw[d7a];exact r2)) ?_;rintro Z2 E2 ⟨_,rfl,F1⟩ d2 f2;replace K6:=K6.trans f2;obtain⟨_,_,_,_,rfl,B1,D1,I1,O1,-,M1⟩:=F1.get;obtain rfl:=j3d O1 M1;obtain⟨_,_,_,rfl⟩:=B1.form;obtain⟨_,_,c2,rfl⟩:=D1.form;have Y0:=I1 [] (by simp);obtain⟨_,_,c3,rfl⟩:=Y0.form;have b0:=t0a.refl [] E2;refine lO0 Z U (g0a d2 r7a Z Z ?_);intro g2 w2 S2 X2 G2;have v1:=Nat.le_trans K6.size G2;have f1:=Nat.le_trans b0.size G2;replace K6:=K6.trans X2;replace b0:=b0.trans X2;refine d0a (kk:=0) (vs:=[_,_,_]) S2 y7a Z Z Z Z Z Z Z ?_;intro O2 S0 p1;dsimp only[i0a,List.set] at S0;replace K6:=K6.fresh p1 (by exact v1);replace b0:=b0.fresh p1 (by exact f1);refine lO S0.k [.w 2] Z ⟨⟨Z,Z⟩,U⟩ (m0a S0 R0a (vs:=[.int .i64 _]) (cs:=[_]) Z Z Z Z Z Z ?_);intro n2 b3 Q1 R1 Y2;replace K6:=K6.trans R1;replace b0:=b0.trans R1;refine n0a Q1 z2c Z Z (m0b e2a 0 [0] (by simp[r2a]) K1 [] _ _ _ (y0.keep K6) (show RdI [] _ (.slice (some ⟨n2,0,none⟩) 1 1) [0] from x3a Q1 (k:=0) Z Z (by simp[i0])) q1 (D6a m0d q1) 1 (by rw[M5c _ (.inl rfl)];rfl) 1 (by rw[z2b,M5c _ (.inl rfl)];rfl) (by omega) (by rw[z2b];exact K1)) ?_;rintro a3 F2 ⟨_,rfl,H1⟩ e2 T1;replace K6:=K6.trans T1;replace b0:=b0.trans T1;obtain⟨_,_,_,_,rfl,C1,E1,J1,P1,-,N1⟩:=H1.get;obtain rfl:=i2d P1 N1;obtain⟨_,_,_,rfl⟩:=C1.form;obtain⟨_,_,_,rfl⟩:=E1.form;have Z0:=J1 [] (by simp);obtain⟨_,_,_,rfl⟩:=Z0.form;have c0:=t0a.refl [] F2;refine lO0 Z U (g0a e2 r7a Z Z ?_);intro g4 w4 S4 X4 G4;have x1:=Nat.le_trans K6.size G4;have j1:=Nat.le_trans b0.size G4;have m1:=Nat.le_trans c0.size G4;replace K6:=K6.trans X4;replace b0:=b0.trans X4;replace c0:=c0.trans X4;refine d0a (kk:=0) (vs:=[_,_,_]) S4 y7a Z Z Z Z Z Z Z ?_;intro b1 T0 W0;dsimp only[i0a,List.set] at T0;replace K6:=K6.fresh W0 (by exact x1);replace b0:=b0.fresh W0 (by exact j1);replace c0:=c0.fresh W0 (by exact m1);refine lC0 Z U (m2b b0a (fun i=>[0,2,3,6,7,10,11,12,13,15,18,19,20,21,22,23,24,25,26,27,28,29,30,31,32,35,36,37,38,39,40,43,44].contains i) (.op 0 (.op 2 (.op 3 (.two (.op 1 (.op 4 (.op 5 (.op 6 (.op 7 (.op 8 (.op 9 (.op 10 (.op 11 (.op 12 (.op 13 (.op 15 (.op 14 (.op 16 (.op 17 (.op 18 (.op 19 (.op 20 (.op 21 (.op 22 (.op 23 (.op 24 (.op 25 (.op 26 (.op 27 (.op 28 (.op 29 (.op 30 (.op 31 (.op 32 (.op 33 (.op 34 (.op 35 (.op 36 (.op 37 (.op 38 (.op 39 (.op 40 (.op 41 (.op 42 (.op 43 (.op 44 .nil)))))))))))))))))))))))))))))))))))))))))) (.op 4 (.op 1 (.op 5 (.op 6 (.op 7 (.op 8 (.op 9 (.op 10 (.op 11 (.op 12 (.op 13 (.op 15 (.op 14 (.op 16 (.op 17 (.op 18 (.op 19 (.op 20 (.op 21 (.op 22 (.op 23 (.op 24 (.op 25 (.op 26 (.op 27 (.op 28 (.op 29 (.op 30 (.op 31 (.op 32 (.op 33 (.op 34 (.op 35 (.op 36 (.op 37 (.op 38 (.op 39 (.op 40 (.op 41 (.op 42 (.op 43 (.op 44 .nil)))))))))))))))))))))))))))))))))))))))))))))) (y5d T0) ?_);have O0:=T0.drew;have A0:t0a [] b1 b1.drew:=P2a _ _;generalize b1.drew=d3 at O0 A0 ⊢;replace K6:=K6.trans A0;replace b0:=b0.trans A0;replace c0:=c0.trans A0;refine q1a ⟨O0,A0⟩ Z Z Z ?_;refine H1a z3a Z (fun w1 hw=>hw.1.cells 4 Z) Z Z ?_;refine c0a ?_;refine q1a ⟨O0,A0⟩ Z Z Z ?_;refine D1a p4a (vs:=[(0,.int .i64 _),(1,.int .i64 _)]) (cs:=[_,_]) Z Z Z Z ?_;refine c0a ?_;refine q1a ⟨O0,A0⟩ Z Z Z ?_;refine D1a p4a (vs:=[(0,.int .i64 _),(1,.int .i64 _)]) (cs:=[_,_]) Z Z Z Z ?_;refine c0a ?_;refine Y4a ?_ ?_
 ·refine g2a ⟨O0,A0⟩ Z Z Z ?_;refine n0a O0 R6c Z Z (P1b e2a [] _ _ (y0.keep K6)) ?_;rintro v20 I2 ⟨s2,j0,a1,X0,-⟩ c1 K0;have p0:=A0.trans K0;replace K6:=K6.trans K0;replace b0:=b0.trans K0;replace c0:=c0.trans K0;obtain rfl:=d9b a1 X0;obtain⟨U1,t2,h2,rfl⟩:=j0.form;refine s0a ⟨Z,?_⟩;refine g2a ⟨c1,p0⟩ Z Z Z ?_;refine m0a c1 T3a (vs:=[.agg _,.agg _]) (cs:=[_,_,_,_]) Z Z Z Z Z Z ?_;intro o2 J2 d1 B0 Z1;have q0:=p0.trans B0;replace K6:=K6.trans B0;replace b0:=b0.trans B0;replace c0:=c0.trans B0;replace j0:=j0.keep (B0.of_nil);refine s0a ⟨Z,?_⟩;refine g2a ⟨d1.tail,q0⟩ Z Z Z ?_;refine h0a d1 f2b Z Z (O2a (m3a [] _ _ _ _ [(0,1),(1,0)] j0 (s3b (c:=[_,_]) (c2:=[_,_]) (d1.cells 0 Z) Z Z ⟨Z,i0,i1⟩ ⟨Z,i1,i0⟩)) (decide_eq_true Z)) ?_;intro K2 I0 C0;have g0:=q0.trans C0;replace K6:=K6.trans C0;replace b0:=b0.trans C0;replace c0:=c0.trans C0;replace j0:=j0.keep (C0.of_nil);refine s0a ⟨Z,?_⟩;refine q1a ⟨I0.tail,g0⟩ Z Z Z ?_;refine M0a (hv:=Z) (v:=.bool _) Z ?_;refine c0a ?_;refine q1a ⟨I0.tail,g0⟩ Z Z Z ?_;refine g1a Z Z ?_;refine H1a z3a Z (fun w1 hw=>hw.1.cells 4 Z) Z Z ?_;refine c0a ?_;refine g2a ⟨I0.tail,g0⟩ Z Z Z ?_;refine q3a Z Z Z ?_;refine n0a I0 j8b Z Z (A6a e2a 0 _ Z [] _ _ (y0.keep K6)) ?_;rintro B2 L2 ⟨i2,rfl,s1⟩ R0 D0;have r0:=g0.trans D0;replace K6:=K6.trans D0;replace b0:=b0.trans D0;replace c0:=c0.trans D0;replace j0:=j0.keep (D0.of_nil);obtain⟨V1,u2,y2,rfl,-⟩:=s1.cells;refine s0a ⟨Z,?_⟩;refine g2a ⟨R0.tail,r0⟩ Z Z Z ?_;refine q3a Z Z Z ?_;refine h0a R0 O6c Z Z (C8b (X2a e2a 0) _ _ s1 ((y0.keep K6).msk) (hN.keep (R0.keep0 [])) (by rw[b5a];exact P3d) (by rw[b5a];exact o7c) (by rw[b5a,R8b];decide)) ?_;intro N2 x0 E0;have e0:=r0.trans E0;replace K6:=K6.trans E0;replace b0:=b0.trans E0;replace c0:=c0.trans E0;replace j0:=j0.keep (E0.of_nil);refine s0a ⟨Z,?_⟩;refine q1a ⟨x0.tail,e0⟩ Z Z Z ?_;refine g1a Z Z ?_;refine m5b Z Z Z (fun _=>?_) (fun h=>absurd (by rw[b5a,R8b];rfl) h);refine c0a ?_;refine q1a ⟨x0.tail,e0⟩ Z Z Z ?_;refine E3a Z (v:=.bool _) Z Z ?_;refine c0a ?_;refine q1a ⟨x0.tail,e0⟩ Z Z Z ?_;refine M0a (hv:=Z) (v:=.bool _) Z ?_;refine c0a ?_;refine q1a ⟨x0.tail,e0⟩ Z Z Z ?_;refine g1a Z Z ?_;refine H1a z3a Z (fun w1 hw=>hw.1.cells 4 Z) Z Z ?_;refine c0a ?_;refine q1a ⟨x0.tail,e0⟩ Z Z Z ?_;refine g1a Z Z ?_;refine H1a z3a Z (fun w1 hw=>hw.1.cells 4 Z) Z Z ?_;refine c0a ?_;refine g2a ⟨x0.tail,e0⟩ Z Z Z ?_;refine q3a Z Z Z ?_;refine n0a x0 p3c Z Z (K1d e2a 1 [] _ _ (y0.keep K6)) ?_;rintro C2 P2 ⟨j2,rfl,n0⟩ n1 F0;have s0:=e0.trans F0;replace K6:=K6.trans F0;replace b0:=b0.trans F0;replace c0:=c0.trans F0;replace j0:=j0.keep (F0.of_nil);obtain⟨W1,v2,z2,rfl,-⟩:=n0.cells;refine s0a ⟨Z,?_⟩;refine g2a ⟨n1.tail,s0⟩ Z Z Z ?_;refine q3a Z Z Z ?_;refine n0a n1 j8b Z Z (A6a e2a 0 _ Z [] _ _ (y0.keep K6)) ?_;rintro D2 Q2 ⟨m2,rfl,t1⟩ o1 z0;have t0:=s0.trans z0;replace n0:=RdE.keep (z0.of_nil) _ _ n0;replace K6:=K6.trans z0;replace b0:=b0.trans z0;replace c0:=c0.trans z0;replace j0:=j0.keep (z0.of_nil);obtain⟨Y1,x2,A2,rfl,-⟩:=t1.cells;refine s0a ⟨Z,?_⟩;refine g2a ⟨o1.tail,t0⟩ Z Z Z ?_;refine q3a Z Z Z ?_;refine h0a o1 Z8b Z Z (O2a (g1b (onE e2a 1) (X2a e2a 0) [] _ _ _ n0 t1) (q8c (u5b.trans b5a.symm))) ?_;intro R2 f0 G0;have a0:=t0.trans G0;replace n0:=RdE.keep (G0.of_nil) _ _ n0;replace K6:=K6.trans G0;replace b0:=b0.trans G0;replace c0:=c0.trans G0;replace j0:=j0.keep (G0.of_nil);refine s0a ⟨Z,?_⟩;refine q1a ⟨f0.tail,a0⟩ Z Z Z ?_;refine E3a Z (v:=.bool _) Z Z ?_;refine c0a ?_;refine q1a ⟨f0.tail,a0⟩ Z Z Z ?_;refine M0a (hv:=Z) (v:=.bool _) Z ?_;refine c0a ?_;refine q1a ⟨f0.tail,a0⟩ Z Z Z ?_;refine g1a Z Z ?_;refine M0a (hv:=Z) (v:=.int .i64 _) Z ?_;refine c0a ?_;refine q1a ⟨f0.tail,a0⟩ Z Z Z ?_;refine g1a Z Z ?_;refine r6b Z Z Z (fun z1=>?_) fun z1=>?_
  ·refine c0a ?_;refine q1a ⟨f0.tail,a0⟩ Z Z Z ?_;refine E3a Z (v:=.bool _) Z Z ?_;refine c0a ?_;refine q1a ⟨f0.tail,a0⟩ Z Z Z ?_;refine M0a (hv:=Z) (v:=.bool _) Z ?_;refine c0a ?_;refine q1a ⟨f0.tail,a0⟩ Z Z Z ?_;refine g1a Z Z ?_;refine M0a (hv:=Z) (v:=.int .i64 _) Z ?_;refine c0a ?_;refine q1a ⟨f0.tail,a0⟩ Z Z Z ?_;refine g1a Z Z ?_;refine r6b Z Z Z (fun A1=>?_) fun A1=>?_
   ·refine c0a ?_;refine q1a ⟨f0.tail,a0⟩ Z Z Z ?_;refine E3a Z (v:=.bool _) Z Z ?_;refine c0a ?_;refine q1a ⟨f0.tail,a0⟩ Z Z Z ?_;refine M0a (hv:=Z) (v:=.bool _) Z ?_;refine c0a ?_;refine q1a ⟨f0.tail,a0⟩ Z Z Z ?_;refine g1a Z Z ?_;refine I0a a1b Z Z ?_;refine c0a ?_;refine q1a ⟨f0.tail,a0⟩ Z Z Z ?_;refine g1a Z Z ?_;refine k0a f9a Z (fun w1 hw=>by exact hw.1.cell 2 Z Z) Z ?_;refine c0a ?_;refine q1a ⟨f0.tail,a0⟩ Z Z Z ?_;refine g1a Z Z ?_;refine D1a p4a (vs:=[(0,.int .i64 _),(1,.int .i64 _)]) (cs:=[_,_]) Z Z Z Z ?_;refine c0a ?_;refine q1a ⟨f0.tail,a0⟩ Z Z Z ?_;refine g1a Z Z ?_;refine D1a p4a (vs:=[(0,.int .i64 _),(1,.int .i64 _)]) (cs:=[_,_]) Z Z Z Z ?_;refine c0a ?_;refine q1a ⟨f0.tail,a0⟩ Z Z Z ?_;refine g1a Z Z ?_;refine D1a p4a (vs:=[(0,.int .i64 _),(1,.int .i64 _)]) (cs:=[_,_]) Z Z Z Z ?_;refine c0a ?_;refine g2a ⟨f0.tail,a0⟩ Z Z Z ?_;refine q3a Z Z Z ?_;refine m0a f0 T3a (vs:=[.agg _,.agg _,.agg _]) (cs:=[_,_,_,_,_,_]) Z Z Z Z Z Z ?_;intro p2 T2 U0 H0 a2;have u0:=a0.trans H0;replace n0:=RdE.keep (H0.of_nil) _ _ n0;replace K6:=K6.trans H0;replace b0:=b0.trans H0;replace c0:=c0.trans H0;replace j0:=j0.keep (H0.of_nil);refine s0a ⟨Z,?_⟩;refine g2a ⟨U0.tail.tail,u0⟩ Z Z Z ?_;refine q3a Z Z Z ?_;refine h0a U0 f2b Z Z (O2a (m3a [] _ _ _ _ [(0,0),(0,1),(1,1)] (Y0.keep b0) (g4d (c:=[_,_]) (c2:=[_,_]) (c3:=[_,_]) (U0.cells 0 Z) Z Z Z ⟨Z,i0,i0⟩ ⟨Z,i0,i1⟩ ⟨Z,i1,i1⟩)) (decide_eq_true Z)) ?_;intro U2 o0 L0;have d0:=u0.trans L0;replace n0:=RdE.keep (L0.of_nil) _ _ n0;replace K6:=K6.trans L0;replace b0:=b0.trans L0;replace c0:=c0.trans L0;replace j0:=j0.keep (L0.of_nil);refine s0a ⟨Z,?_⟩;refine q1a ⟨o0.tail.tail,d0⟩ Z Z Z ?_;refine E3a Z (v:=.bool _) Z Z ?_;refine c0a ?_;refine q1a ⟨o0.tail.tail,d0⟩ Z Z Z ?_;refine M0a (hv:=Z) (v:=.bool _) Z ?_;refine c0a ?_;refine q1a ⟨o0.tail.tail,d0⟩ Z Z Z ?_;refine g1a Z Z ?_;refine I0a a1b Z Z ?_;refine c0a ?_;refine q1a ⟨o0.tail.tail,d0⟩ Z Z Z ?_;refine g1a Z Z ?_;refine k0a f9a Z (fun w1 hw=>by exact hw.1.cell 0 Z Z) Z ?_;refine c0a ?_;refine q1a ⟨o0.tail.tail,d0⟩ Z Z Z ?_;refine g1a Z Z ?_;refine D1a p4a (vs:=[(0,.int .i64 _),(1,.int .i64 _)]) (cs:=[_,_]) Z Z Z Z ?_;refine c0a ?_;refine q1a ⟨o0.tail.tail,d0⟩ Z Z Z ?_;refine g1a Z Z ?_;refine D1a p4a (vs:=[(0,.int .i64 _),(1,.int .i64 _)]) (cs:=[_,_]) Z Z Z Z ?_;refine c0a ?_;refine g2a ⟨o0.tail.tail,d0⟩ Z Z Z ?_;refine q3a Z Z Z ?_;refine m0a o0 T3a (vs:=[.agg _,.agg _]) (cs:=[_,_,_,_]) Z Z Z Z Z Z ?_;intro q2 V2 V0 N0 b2;have v0:=d0.trans N0;replace n0:=RdE.keep (N0.of_nil) _ _ n0;replace K6:=K6.trans N0;replace b0:=b0.trans N0;replace c0:=c0.trans N0;replace j0:=j0.keep (N0.of_nil);refine s0a ⟨Z,?_⟩;refine g2a ⟨V0.tail.tail.tail,v0⟩ Z Z Z ?_;refine q3a Z Z Z ?_;refine h0a V0 f2b Z Z (O2a (m3a [] _ _ _ _ [(0,0),(1,1)] (Z0.keep c0) (s3b (c:=[_,_]) (c2:=[_,_]) (V0.cells 0 Z) Z Z ⟨Z,i0,i0⟩ ⟨Z,i1,i1⟩)) (decide_eq_true Z)) ?_;intro W2 J0 P0;have m0:=v0.trans P0;replace n0:=RdE.keep (P0.of_nil) _ _ n0;replace K6:=K6.trans P0;replace b0:=b0.trans P0;replace c0:=c0.trans P0;replace j0:=j0.keep (P0.of_nil);refine s0a ⟨Z,?_⟩;refine q1a ⟨J0.tail.tail.tail,m0⟩ Z Z Z ?_;refine E3a Z (v:=.bool _) Z Z ?_;refine c0a ?_;refine q1a ⟨J0.tail.tail.tail,m0⟩ Z Z Z ?_;refine t3a (v:=.bool _) Z Z ?_;refine c0a ?_;refine p3a ⟨J0.tail.tail.tail,m0⟩ ?_;refine fR0 Z U (r0a Z ?_);exact⟨Z,J0.fin⟩
   exfalso;omega
  exfalso;omega
 refine g2a ⟨O0,A0⟩ Z Z Z ?_;refine m0a O0 T3a (vs:=[.agg _,.agg _]) (cs:=[_,_,_,_]) Z Z Z Z Z Z ?_;intro o2 J2 d1 B0 Z1;have q0:=A0.trans B0;replace K6:=K6.trans B0;replace b0:=b0.trans B0;replace c0:=c0.trans B0;refine s0a ⟨Z,?_⟩;refine g2a ⟨d1.tail,q0⟩ Z Z Z ?_;refine n0a d1 R6c Z Z (P1b e2a [] _ _ (y0.keep K6)) ?_;rintro v20 I2 ⟨s2,j0,a1,X0,-⟩ c1 K0;have p0:=q0.trans K0;replace K6:=K6.trans K0;replace b0:=b0.trans K0;replace c0:=c0.trans K0;obtain rfl:=d9b a1 X0;obtain⟨U1,t2,h2,rfl⟩:=j0.form;refine s0a ⟨Z,?_⟩;refine g2a ⟨c1.tail,p0⟩ Z Z Z ?_;refine h0a c1 f2b Z Z (O2a (m3a [] _ _ _ _ [(0,1),(1,0)] j0 (s3b (c:=[_,_]) (c2:=[_,_]) (c1.cells 0 Z) Z Z ⟨Z,i0,i1⟩ ⟨Z,i1,i0⟩)) (decide_eq_true Z)) ?_;intro K2 I0 C0;have g0:=p0.trans C0;replace K6:=K6.trans C0;replace b0:=b0.trans C0;replace c0:=c0.trans C0;refine s0a ⟨Z,?_⟩;refine q1a ⟨I0.tail,g0⟩ Z Z Z ?_;refine M0a (hv:=Z) (v:=.bool _) Z ?_;refine c0a ?_;refine q1a ⟨I0.tail,g0⟩ Z Z Z ?_;refine g1a Z Z ?_;refine H1a z3a Z (fun w1 hw=>hw.1.cells 4 Z) Z Z ?_;refine c0a ?_;refine g2a ⟨I0.tail,g0⟩ Z Z Z ?_;refine q3a Z Z Z ?_;refine n0a I0 j8b Z Z (A6a e2a 0 _ Z [] _ _ (y0.keep K6)) ?_;rintro B2 L2 ⟨i2,rfl,s1⟩ R0 D0;have r0:=g0.trans D0;replace K6:=K6.trans D0;replace b0:=b0.trans D0;replace c0:=c0.trans D0;obtain⟨V1,u2,y2,rfl,-⟩:=s1.cells;refine s0a ⟨Z,?_⟩;refine g2a ⟨R0.tail,r0⟩ Z Z Z ?_;refine q3a Z Z Z ?_;refine h0a R0 O6c Z Z (C8b (X2a e2a 0) _ _ s1 ((y0.keep K6).msk) (hN.keep (R0.keep0 [])) (by rw[b5a];exact P3d) (by rw[b5a];exact o7c) (by rw[b5a,R8b];decide)) ?_;intro N2 x0 E0;have e0:=r0.trans E0;replace K6:=K6.trans E0;replace b0:=b0.trans E0;replace c0:=c0.trans E0;refine s0a ⟨Z,?_⟩;refine q1a ⟨x0.tail,e0⟩ Z Z Z ?_;refine g1a Z Z ?_;refine m5b Z Z Z (fun _=>?_) (fun h=>absurd (by rw[b5a,R8b];rfl) h);refine c0a ?_;refine q1a ⟨x0.tail,e0⟩ Z Z Z ?_;refine E3a Z (v:=.bool _) Z Z ?_;refine c0a ?_;refine q1a ⟨x0.tail,e0⟩ Z Z Z ?_;refine M0a (hv:=Z) (v:=.bool _) Z ?_;refine c0a ?_;refine q1a ⟨x0.tail,e0⟩ Z Z Z ?_;refine g1a Z Z ?_;refine H1a z3a Z (fun w1 hw=>hw.1.cells 4 Z) Z Z ?_;refine c0a ?_;refine q1a ⟨x0.tail,e0⟩ Z Z Z ?_;refine g1a Z Z ?_;refine H1a z3a Z (fun w1 hw=>hw.1.cells 4 Z) Z Z ?_;refine c0a ?_;refine g2a ⟨x0.tail,e0⟩ Z Z Z ?_;refine q3a Z Z Z ?_;refine n0a x0 p3c Z Z (K1d e2a 1 [] _ _ (y0.keep K6)) ?_;rintro C2 P2 ⟨j2,rfl,n0⟩ n1 F0;have s0:=e0.trans F0;replace K6:=K6.trans F0;replace b0:=b0.trans F0;replace c0:=c0.trans F0;obtain⟨W1,v2,z2,rfl,-⟩:=n0.cells;refine s0a ⟨Z,?_⟩;refine g2a ⟨n1.tail,s0⟩ Z Z Z ?_;refine q3a Z Z Z ?_;refine n0a n1 j8b Z Z (A6a e2a 0 _ Z [] _ _ (y0.keep K6)) ?_;rintro D2 Q2 ⟨m2,rfl,t1⟩ o1 z0;have t0:=s0.trans z0;replace n0:=RdE.keep (z0.of_nil) _ _ n0;replace b0:=b0.trans z0;replace c0:=c0.trans z0;obtain⟨Y1,x2,A2,rfl,-⟩:=t1.cells;refine s0a ⟨Z,?_⟩;refine g2a ⟨o1.tail,t0⟩ Z Z Z ?_;refine q3a Z Z Z ?_;refine h0a o1 Z8b Z Z (O2a (g1b (onE e2a 1) (X2a e2a 0) [] _ _ _ n0 t1) (q8c (u5b.trans b5a.symm))) ?_;intro R2 f0 G0;have a0:=t0.trans G0;replace b0:=b0.trans G0;replace c0:=c0.trans G0;refine s0a ⟨Z,?_⟩;refine q1a ⟨f0.tail,a0⟩ Z Z Z ?_;refine E3a Z (v:=.bool _) Z Z ?_;refine c0a ?_;refine q1a ⟨f0.tail,a0⟩ Z Z Z ?_;refine M0a (hv:=Z) (v:=.bool _) Z ?_;refine c0a ?_;refine q1a ⟨f0.tail,a0⟩ Z Z Z ?_;refine g1a Z Z ?_;refine M0a (hv:=Z) (v:=.int .i64 _) Z ?_;refine c0a ?_;refine q1a ⟨f0.tail,a0⟩ Z Z Z ?_;refine g1a Z Z ?_;refine r6b Z Z Z (fun z1=>?_) fun z1=>?_
 ·refine c0a ?_;refine q1a ⟨f0.tail,a0⟩ Z Z Z ?_;refine E3a Z (v:=.bool _) Z Z ?_;refine c0a ?_;refine q1a ⟨f0.tail,a0⟩ Z Z Z ?_;refine M0a (hv:=Z) (v:=.bool _) Z ?_;refine c0a ?_;refine q1a ⟨f0.tail,a0⟩ Z Z Z ?_;refine g1a Z Z ?_;refine M0a (hv:=Z) (v:=.int .i64 _) Z ?_;refine c0a ?_;refine q1a ⟨f0.tail,a0⟩ Z Z Z ?_;refine g1a Z Z ?_;refine r6b Z Z Z (fun A1=>?_) fun A1=>?_
  ·refine c0a ?_;refine q1a ⟨f0.tail,a0⟩ Z Z Z ?_;refine E3a Z (v:=.bool _) Z Z ?_;refine c0a ?_;refine q1a ⟨f0.tail,a0⟩ Z Z Z ?_;refine M0a (hv:=Z) (v:=.bool _) Z ?_;refine c0a ?_;refine q1a ⟨f0.tail,a0⟩ Z Z Z ?_;refine g1a Z Z ?_;refine I0a a1b Z Z ?_;refine c0a ?_;refine q1a ⟨f0.tail,a0⟩ Z Z Z ?_;refine g1a Z Z ?_;refine k0a f9a Z (fun w1 hw=>by exact hw.1.cell 2 Z Z) Z ?_;refine c0a ?_;refine q1a ⟨f0.tail,a0⟩ Z Z Z ?_;refine g1a Z Z ?_;refine D1a p4a (vs:=[(0,.int .i64 _),(1,.int .i64 _)]) (cs:=[_,_]) Z Z Z Z ?_;refine c0a ?_;refine q1a ⟨f0.tail,a0⟩ Z Z Z ?_;refine g1a Z Z ?_;refine D1a p4a (vs:=[(0,.int .i64 _),(1,.int .i64 _)]) (cs:=[_,_]) Z Z Z Z ?_;refine c0a ?_;refine q1a ⟨f0.tail,a0⟩ Z Z Z ?_;refine g1a Z Z ?_;refine D1a p4a (vs:=[(0,.int .i64 _),(1,.int .i64 _)]) (cs:=[_,_]) Z Z Z Z ?_;refine c0a ?_;refine g2a ⟨f0.tail,a0⟩ Z Z Z ?_;refine q3a Z Z Z ?_;refine m0a f0 T3a (vs:=[.agg _,.agg _,.agg _]) (cs:=[_,_,_,_,_,_]) Z Z Z Z Z Z ?_;intro p2 T2 U0 H0 a2;have u0:=a0.trans H0;replace b0:=b0.trans H0;replace c0:=c0.trans H0;refine s0a ⟨Z,?_⟩;refine g2a ⟨U0.tail.tail,u0⟩ Z Z Z ?_;refine q3a Z Z Z ?_;refine h0a U0 f2b Z Z (O2a (m3a [] _ _ _ _ [(0,0),(0,1),(1,1)] (Y0.keep b0) (g4d (c:=[_,_]) (c2:=[_,_]) (c3:=[_,_]) (U0.cells 0 Z) Z Z Z ⟨Z,i0,i0⟩ ⟨Z,i0,i1⟩ ⟨Z,i1,i1⟩)) (decide_eq_true Z)) ?_;intro U2 o0 L0;have d0:=u0.trans L0;replace c0:=c0.trans L0;refine s0a ⟨Z,?_⟩;refine q1a ⟨o0.tail.tail,d0⟩ Z Z Z ?_;refine E3a Z (v:=.bool _) Z Z ?_;refine c0a ?_;refine q1a ⟨o0.tail.tail,d0⟩ Z Z Z ?_;refine M0a (hv:=Z) (v:=.bool _) Z ?_;refine c0a ?_;refine q1a ⟨o0.tail.tail,d0⟩ Z Z Z ?_;refine g1a Z Z ?_;refine I0a a1b Z Z ?_;refine c0a ?_;refine q1a ⟨o0.tail.tail,d0⟩ Z Z Z ?_;refine g1a Z Z ?_;refine k0a f9a Z (fun w1 hw=>by exact hw.1.cell 0 Z Z) Z ?_;refine c0a ?_;refine q1a ⟨o0.tail.tail,d0⟩ Z Z Z ?_;refine g1a Z Z ?_;refine D1a p4a (vs:=[(0,.int .i64 _),(1,.int .i64 _)]) (cs:=[_,_]) Z Z Z Z ?_;refine c0a ?_;refine q1a ⟨o0.tail.tail,d0⟩ Z Z Z ?_;refine g1a Z Z ?_;refine D1a p4a (vs:=[(0,.int .i64 _),(1,.int .i64 _)]) (cs:=[_,_]) Z Z Z Z ?_;refine c0a ?_;refine g2a ⟨o0.tail.tail,d0⟩ Z Z Z ?_;refine q3a Z Z Z ?_;refine m0a o0 T3a (vs:=[.agg _,.agg _]) (cs:=[_,_,_,_]) Z Z Z Z Z Z ?_;intro q2 V2 V0 N0 b2;have v0:=d0.trans N0;replace c0:=c0.trans N0;refine s0a ⟨Z,?_⟩;refine g2a ⟨V0.tail.tail.tail,v0⟩ Z Z Z ?_;refine q3a Z Z Z ?_;refine h0a V0 f2b Z Z (O2a (m3a [] _ _ _ _ [(0,0),(1,1)] (Z0.keep c0) (s3b (c:=[_,_]) (c2:=[_,_]) (V0.cells 0 Z) Z Z ⟨Z,i0,i0⟩ ⟨Z,i1,i1⟩)) (decide_eq_true Z)) ?_;intro W2 J0 P0;have m0:=v0.trans P0;refine s0a ⟨Z,?_⟩;refine q1a ⟨J0.tail.tail.tail,m0⟩ Z Z Z ?_;refine E3a Z (v:=.bool _) Z Z ?_;refine c0a ?_;refine q1a ⟨J0.tail.tail.tail,m0⟩ Z Z Z ?_;refine t3a (v:=.bool _) Z Z ?_;refine c0a ?_;refine p3a ⟨J0.tail.tail.tail,m0⟩ ?_;refine fR0 Z U (r0a Z ?_);exact⟨Z,J0.fin⟩
  exfalso;omega
 exfalso;omega
def k6b(p:List k1a)(s:List Int)(c:Int):Nat:=(s.getD c.toNat 0).toNat % 2 ^ (wAt p c).toNat
theorem Z3b(p:List k1a)(c:Int)(C s:List Int):nuZ (c::C) (wdL p (c::C)) s=k6b p s c+2 ^ (wAt p c).toNat*nuZ C (wdL p C) s:=Z
theorem T8b(p:List k1a)(c:Int)(C:List Int)(n:Nat)(s:List Int):stZ (c::C) (wdL p (c::C)) n s=stZ C (wdL p C) (n / 2 ^ (wAt p c).toNat) (s.set c.toNat ((n % 2 ^ (wAt p c).toNat:Nat):Int)):=Z
theorem Y8b{p:List k1a}:∀{C s s':List Int},(∀c∈C,k6b p s c=k6b p s' c)→nuZ C (wdL p C) s=nuZ C (wdL p C) s'
 | [],_,_,_=>rfl
 | c::C,s,s',h=>by rw[Z3b,Z3b,h c (by simp),Y8b fun x hx=>h x (List.mem_cons_of_mem _ hx)]
theorem k5b{p:List k1a}:∀{C:List Int} {n:Nat} {s:List Int} {i:Nat},(∀c∈C,c.toNat≠i)→(stZ C (wdL p C) n s).getD i 0=s.getD i 0
 | [],_,_,_,_=>rfl
 | c::C,n,s,i,h=>by
   rw[T8b,k5b fun x hx=>h x (List.mem_cons_of_mem _ hx),List.getD_eq_getElem?_getD,List.getElem?_set_ne (h c (by simp)),List.getD_eq_getElem?_getD]
def H3a(C:List Int)(n:Nat):Prop:=C.Pairwise (·<·)∧∀c∈C,0≤c∧c<n
theorem H3a.tail{c:Int}{C:List Int}{n:Nat}(h:H3a (c::C) n):H3a C n:=⟨(List.pairwise_cons.1 h.1).2,fun x hx=>h.2 x (List.mem_cons_of_mem _ hx)⟩
theorem H3a.ne{c:Int}{C:List Int}{n:Nat}(h:H3a (c::C) n):∀x∈C,x.toNat≠c.toNat:=fun x hx=>by
 have h1:=(List.pairwise_cons.1 h.1).1 x hx;have h2:=h.2 c (by simp);omega
theorem M0c{p:List k1a}:∀{C m s:List Int},H3a C s.length→∀c∈C,(stZ C (wdL p C) (nuZ C (wdL p C) m) s).getD c.toNat 0=(k6b p m c:Int)
 | [],_,_,_,c,hc=>by cases hc
 | d::C,m,s,h,c,hc=>by
   have a0:k6b p m d<2 ^ (wAt p d).toNat:=Nat.mod_lt _ (Nat.two_pow_pos _);rw[T8b,Z3b,Nat.add_mul_mod_self_left,Nat.mod_eq_of_lt a0,Nat.add_mul_div_left _ _ (Nat.two_pow_pos _),Nat.div_eq_of_lt a0,Nat.zero_add];rcases List.mem_cons.1 hc with rfl|hc
   ·rw[k5b h.ne,List.getD_eq_getElem?_getD,List.getElem?_set_self (by have:=h.2 c (by simp);omega)];rfl
   ·exact M0c (s:=s.set _ _) (by rw[List.length_set];exact h.tail) c hc
theorem u7b{p:List k1a}{C m s:List Int}(h:H3a C s.length){c:Int}(hc:c∈C):k6b p (stZ C (wdL p C) (nuZ C (wdL p C) m) s) c=k6b p m c:=by
 unfold k6b at *;rw[M0c h c hc,Int.toNat_natCast];unfold k6b;rw[Nat.mod_mod]
theorem j3c{p:List k1a}{C D m s:List Int}(h:H3a D s.length)(hs:∀c∈C,c∈D):nuZ C (wdL p C) (stZ D (wdL p D) (nuZ D (wdL p D) m) s)=nuZ C (wdL p C) m:=Y8b fun c hc=>u7b h (hs c hc)
theorem w2c(n:Nat):U2a n=((2 ^ n:Nat):Int):=by
 induction n with
 | zero=>rfl
 | succ n ih=>rw[U2a,ih,Nat.pow_succ];omega
theorem Z9a{p:List k1a}{s:List Int}{c:Int}(h:0≤s.getD c.toNat 0):s.getD c.toNat 0 % U2a (wAt p c).toNat=(k6b p s c:Int):=by
 unfold k6b;rw[w2c];generalize s.getD c.toNat 0=x at h;obtain⟨_,rfl⟩:=Int.eq_ofNat_of_zero_le h;rw[Int.toNat_natCast];rfl
def A4c(s:List Int):Prop:=∀i:Nat,0≤s.getD i 0
theorem H2c{s:List Int}(h:∀x∈s,0≤x):A4c s:=fun i=>by
 rw[List.getD_eq_getElem?_getD];cases he:s[i]? with
 | none=>simp
 | some x=>exact h x (List.mem_of_getElem? he)
theorem R0d{p:List k1a}{C s:List Int}{n:Nat}(h:∀x∈s,0≤x∧x<256)(hw:∀c∈C,1≤wAt p c∧wAt p c≤8):A4c (stZ C (wdL p C) n s):=H2c fun x hx=>(Q2b C (wdL p C) n s (fun y hy=>by obtain⟨c,hc,rfl⟩:=List.mem_map.1 hy;exact hw c hc) h x hx).1
theorem W3b{p:j0a}{m:List Int}(h:h6a p m):A4c m:=H2c fun x hx=>by
 obtain⟨i,hi,rfl⟩:=List.getElem_of_mem hx;exact(h.vals i _ (List.getElem?_eq_getElem hi)).1
theorem P9c{p:j0a}{e:E}(hv:e.valid p.cells true=true){o n o' n':List Int}(ho:A4c o)(hn:A4c n)(b0:A4c o')(a0:A4c n')(h3:∀x,e.occ 3 x=true→k6b p.cells o x=k6b p.cells o' x)(h2:∀x,e.occ 2 x=true→k6b p.cells n x=k6b p.cells n' x):e.val o n=e.val o' n':=by
 obtain⟨_,hg,c0⟩:=B1a hv;refine Z5c (cells:=p.cells) e 40 hg c0 (fun x hx=>?_) fun x hx=>?_
 ·rw[Z9a (ho _),Z9a (b0 _),h3 x hx]
 ·rw[Z9a (hn _),Z9a (a0 _),h2 x hx]
theorem h2c(x:Y0a)(M:List Nat)(w0:World)(ts:List Value)(hT:S0a M w0 ts x):
 C0a prog 50 #[.agg ts.toArray] w0 fun v w'=>(∃b,v=.bool b∧(b=true→True))∧Below w0.heap.size w0 w':=by
 obtain⟨Aa,na,ca,Am,nm,cm,As,ns,cn,Al,nl,cl,rfl,-,u1,_,e0,S0,_⟩:=S0a.open_ hT;have S:=St.refl w0;refine a0a func50 Z ntmps50 Z ?_;refine wO0 Z U (o0a S Z ?_);intro g1 w1 S1 X1 G1;refine lC0 Z U (wL (fun μk D ε w=>D=[]∧∃k:Nat,(k+μk=(x.steps.length))∧St [] w0 w [(some g1,64,[.string x.name,.int .i64 x.points,.slice Aa na ca,.slice Am nm cm,.slice As ns cn,.slice Al nl cl,.bool x.asleep])]∧Sl ε [(1,.pointer (some ⟨g1,0,none⟩)),(3,.int .i64 k)]) (μ:=(x.steps.length)) ⟨Z,0,by omega,S1,Z⟩ ?_);rintro μk D ε w ⟨rfl,k,hk,S,eZ⟩;refine wK eZ (wB S.k [.o 0] Z ⟨Z,U⟩ (fun i1=>?_) fun i1=>?_)
 ·obtain⟨s,X0,x1,_,R0,i0,_,_,v0,F0⟩:=RdS.get (e0) (k) (by omega);obtain⟨_,_,_,_,_,_,rfl,⟨_,_⟩,u0,_⟩:=f2a.open_ F0;refine lO (S.k.a v0) [.o 0,.x X0 x1,.f 0 3] Z ⟨Z,⟨i0,by omega⟩,Z,U⟩ (y0a S p1b Z Z (Q5a s.guard M _ _ _ (RdE.keep (S.keep0 M) _ _ u0)) (fun j1 F1 b0 T0=>?_) (fun j1 F1 b0 T0=>?_))
  ·obtain⟨_,Y0,y1,_,N0,j0,_,_,x0,G0⟩:=RdS.get (e0) (k) (by omega);obtain rfl:=Option.some.inj (R0.symm.trans N0);obtain⟨_,_,_,_,_,_,rfl,⟨_,_⟩,_⟩:=f2a.open_ G0;refine lB (b0.k.a x0) [.o 0,.x Y0 y1,.f 0 7] Z ⟨Z,⟨j0,by omega⟩,Z,U⟩ (fun m1=>?_) fun m1=>?_
   ·exact lT Z U Z ⟨⟨_,Z,fun _=>trivial⟩,b0.fin⟩
   refine lC0 Z U (wL (fun μj D ε w=>D=[]∧∃j:Nat,(j+μj=(s.set.length))∧St [] w0 w [(some g1,64,[.string x.name,.int .i64 x.points,.slice Aa na ca,.slice Am nm cm,.slice As ns cn,.slice Al nl cl,.bool x.asleep])]∧Sl ε [(1,.pointer (some ⟨g1,0,none⟩)),(3,.int .i64 k),(4,.int .i64 j)]) (μ:=(s.set.length)) ⟨Z,0,by omega,b0,Z⟩ ?_);rintro μj D ε w ⟨rfl,j,_,S,eZ⟩;refine wK eZ ?_;obtain⟨_,Z0,z1,_,O0,m0,_,_,y0,H0⟩:=RdS.get (e0) (k) (by omega);obtain rfl:=Option.some.inj (R0.symm.trans O0);obtain⟨_,_,_,_,_,_,rfl,⟨_,_⟩,_⟩:=f2a.open_ H0;refine wB (S.k.a y0) [.o 0,.x Z0 z1,.f 0 7] Z ⟨Z,⟨m0,by omega⟩,Z,U⟩ (fun n1=>?_) fun n1=>?_
   ·obtain⟨_,a1,A1,_,P0,n0,_,_,z0,I0⟩:=RdS.get (e0) (k) (by omega);obtain rfl:=Option.some.inj (R0.symm.trans P0);obtain⟨_,_,_,_,_,_,rfl,⟨_,_⟩,_,a0,_⟩:=f2a.open_ I0;obtain⟨a,b1,B1,_,_,o0,_,_,A0,J0⟩:=RdS.get (a0) (j) (by omega);obtain⟨_,_,_,rfl,_,s0⟩:=N0a.open_ J0;refine lO ((S.k.a A0).a z0) [.o 0,.x a1 A1,.f 0 7,.x b1 B1,.f 1 1] Z ⟨Z,⟨o0,by omega⟩,Z,⟨n0,by omega⟩,Z,U⟩ (y0a S p1b Z Z (Q5a a.to M _ _ _ (RdE.keep (S.keep0 M) _ _ s0)) (fun o1 H1 f0 U0=>?_) (fun o1 H1 f0 U0=>?_))
    ·refine lP0 Z ⟨by omega,U⟩ ⟨μj-1,by omega,Z,(j+1),(by omega),f0,Z⟩
    exact lT Z U Z ⟨⟨_,Z,fun _=>trivial⟩,f0.fin⟩
   refine lP0 Z ⟨by omega,U⟩ ⟨μk-1,by omega,Z,(k+1),(by omega),S,Z⟩
  exact lT Z U Z ⟨⟨_,Z,fun _=>trivial⟩,b0.fin⟩
 refine lC0 Z U (wL (fun μk D ε w=>D=[]∧∃k:Nat,(k+μk=(x.asserts.length))∧St [] w0 w [(some g1,64,[.string x.name,.int .i64 x.points,.slice Aa na ca,.slice Am nm cm,.slice As ns cn,.slice Al nl cl,.bool x.asleep])]∧Sl ε [(1,.pointer (some ⟨g1,0,none⟩)),(5,.int .i64 k)]) (μ:=(x.asserts.length)) ⟨Z,0,by omega,S,Z⟩ ?_);rintro μk D ε w ⟨rfl,k,hk,S,eZ⟩;refine wK eZ (wB S.k [.o 0] Z ⟨Z,U⟩ (fun p1=>?_) fun p1=>?_)
 ·obtain⟨e,c1,C1,_,_,p0,_,E0,B0,d0⟩:=RdS.get (u1) (k) (by omega);obtain⟨_,_,_,rfl,_⟩:=RdE.cells d0;refine lO (S.k.a B0) [.o 0,.x c1 C1,.v 0] Z ⟨⟨Z,E0⟩,⟨p0,by omega⟩,Z,U⟩ (y0a S p1b Z Z (Q5a e M _ _ _ (RdE.keep (S.keep0 M) _ _ d0)) (fun q1 I1 g0 V0=>?_) (fun q1 I1 g0 V0=>?_))
  ·refine lP0 Z ⟨by omega,U⟩ ⟨μk-1,by omega,Z,(k+1),(by omega),g0,Z⟩
  exact lT Z U Z ⟨⟨_,Z,fun _=>trivial⟩,g0.fin⟩
 refine lC0 Z U (wL (fun μk D ε w=>D=[]∧∃k:Nat,(k+μk=(x.loops.length))∧St [] w0 w [(some g1,64,[.string x.name,.int .i64 x.points,.slice Aa na ca,.slice Am nm cm,.slice As ns cn,.slice Al nl cl,.bool x.asleep])]∧Sl ε [(1,.pointer (some ⟨g1,0,none⟩)),(6,.int .i64 k)]) (μ:=(x.loops.length)) ⟨Z,0,by omega,S,Z⟩ ?_);rintro μk D ε w ⟨rfl,k,hk,S,eZ⟩;refine wK eZ (wB S.k [.o 0] Z ⟨Z,U⟩ (fun r1=>?_) fun r1=>?_)
 ·obtain⟨o,d1,D1,_,v1,q0,_,_,C0,K0⟩:=RdS.get (S0) (k) (by omega);obtain⟨_,_,_,_,_,_,rfl,_,_,t0,_⟩:=I5a.open_ K0;refine lO (S.k.a C0) [.o 0,.x d1 D1,.f 0 2] Z ⟨Z,⟨q0,by omega⟩,Z,U⟩ (y0a S p1b Z Z (Q5a o.variant M _ _ _ (RdE.keep (S.keep0 M) _ _ t0)) (fun s1 J1 c0 W0=>?_) (fun s1 J1 c0 W0=>?_))
  ·obtain⟨_,f1,E1,_,Q0,r0,_,_,D0,L0⟩:=RdS.get (S0) (k) (by omega);obtain rfl:=Option.some.inj (v1.symm.trans Q0);obtain⟨_,_,_,_,_,_,rfl,_⟩:=I5a.open_ L0;refine lB (c0.k.a D0) [.o 0,.x f1 E1,.f 0 1] Z ⟨Z,⟨r0,by omega⟩,Z,U⟩ (fun t1=>?_) fun t1=>?_
   ·exact lT Z U Z ⟨⟨_,Z,fun _=>trivial⟩,c0.fin⟩
   refine lP0 Z ⟨by omega,U⟩ ⟨μk-1,by omega,Z,(k+1),(by omega),c0,Z⟩
  exact lT Z U Z ⟨⟨_,Z,fun _=>trivial⟩,c0.fin⟩
 exact lT Z U Z ⟨⟨_,Z,fun _=>trivial⟩,S.fin⟩
theorem n6c(p:j0a)(M:List Nat)(w0:World)(cs:List Value)(hP:a1a M w0 p cs):
 C0a prog 11 #[.agg cs.toArray] w0 fun v w'=>(∃b,v=.bool b∧(b=true→True))∧Below w0.heap.size w0 w':=by
 obtain⟨Ac,nc,cc,Am,nm,cm,Al,nl,cl,At,nt,ct,rfl,_,D0,o1,p1,_⟩:=hP.open_;have S:=St.refl w0;refine a0a func11 Z ntmps11 Z ?_;refine wO0 Z U (o0a S Z ?_);intro g1 w1 S1 X1 G1;refine lB S1.k [.o 0] Z ⟨Z,U⟩ (fun X0=>?_) fun X0=>?_
 ·exact lT Z U Z ⟨⟨_,Z,fun _=>trivial⟩,S1.fin⟩
 refine lB S1.k [.o 0] Z ⟨Z,U⟩ (fun Y0=>?_) fun Y0=>?_
 ·exact lT Z U Z ⟨⟨_,Z,fun _=>trivial⟩,S1.fin⟩
 refine lB S1.k [.o 0] Z ⟨Z,U⟩ (fun Z0=>?_) fun Z0=>?_
 ·exact lT Z U Z ⟨⟨_,Z,fun _=>trivial⟩,S1.fin⟩
 refine lB S1.k [.o 0] Z ⟨Z,U⟩ (fun a1=>?_) fun a1=>?_
 ·exact lT Z U Z ⟨⟨_,Z,fun _=>trivial⟩,S1.fin⟩
 refine lC0 Z U (wL (fun μk D ε w=>D=[]∧∃k:Nat,∃n:Int,(k+μk=(p.threads.length))∧(0≤n∧n≤24)∧St [] w0 w [(some g1,27,[.slice Ac nc cc,.slice Am nm cm,.slice Al nl cl,.slice At nt ct])]∧Sl ε [(1,.pointer (some ⟨g1,0,none⟩)),(3,.int .i64 n),(4,.int .i64 k)]) (μ:=(p.threads.length)) ⟨Z,0,0,by omega,by omega,S1,Z⟩ ?_);rintro μk D ε w ⟨rfl,k,n,hk,_,S,eZ⟩;refine wK eZ (wB S.k [.o 0] Z ⟨Z,U⟩ (fun b1=>?_) fun b1=>?_)
 ·obtain⟨th,U0,q1,_,_,z0,_,I0,F0,o0⟩:=RdS.get (p1) (k) (by omega);obtain⟨_,_,_,_,_,_,_,_,_,_,_,_,rfl,_⟩:=S0a.open_ o0;refine lO (S.k.a F0) [.o 0,.x U0 q1,.v 0] Z ⟨⟨Z,I0⟩,⟨z0,by omega⟩,Z,U⟩ (g0a S u1b Z Z ?_);intro g5 w5 S5 X5 G5;refine d0a (kk:=0) (vs:=[_,_,_,_,_,_,_]) S5 y1b Z Z Z Z Z Z Z ?_;intro u1 a0 R0;dsimp only[i0a,List.set] at a0;refine lB a0.k [.o 0] Z ⟨by omega,Z,U⟩ (fun c1=>?_) fun c1=>?_
  ·exact lT Z U Z ⟨⟨_,Z,fun _=>trivial⟩,a0.fin⟩
  refine lB a0.k [.o 0] Z ⟨Z,U⟩ (fun d1=>?_) fun d1=>?_
  ·exact lT Z U Z ⟨⟨_,Z,fun _=>trivial⟩,a0.fin⟩
  refine lB a0.k [.o 0] Z ⟨Z,U⟩ (fun f1=>?_) fun f1=>?_
  ·exact lT Z U Z ⟨⟨_,Z,fun _=>trivial⟩,a0.fin⟩
  refine lB a0.k [.o 0] Z ⟨Z,U⟩ (fun i1=>?_) fun i1=>?_
  ·exact lT Z U Z ⟨⟨_,Z,fun _=>trivial⟩,a0.fin⟩
  refine lO a0.k [.w 0] Z ⟨⟨Z,Z⟩,U⟩ (j0b a0 r2d Z Z (h2c th M _ _ (S0a.keep (a0.keep0 M) _ _ o0)) (fun y1 t1 r0 Q0=>?_) (fun t1 r0 Q0=>?_))
  ·refine lP0 Z ⟨by omega,U⟩ ⟨μk-1,by omega,Z,(k+1),(_),(by omega),(by omega),r0.tail,Z⟩
  exact lT Z U Z ⟨⟨_,Z,fun _=>trivial⟩,r0.fin⟩
 refine lC0 Z U (wL (fun μk D ε w=>D=[]∧∃k:Nat,(k+μk=(p.modules.length))∧St [] w0 w [(some g1,27,[.slice Ac nc cc,.slice Am nm cm,.slice Al nl cl,.slice At nt ct])]∧Sl ε [(1,.pointer (some ⟨g1,0,none⟩)),(6,.int .i64 k)]) (μ:=(p.modules.length)) ⟨Z,0,by omega,S,Z⟩ ?_);rintro μk D ε w ⟨rfl,k,hk,S,eZ⟩;refine wK eZ (wB S.k [.o 0] Z ⟨Z,U⟩ (fun j1=>?_) fun j1=>?_)
 ·obtain⟨mo,V0,r1,_,q0,A0,_,_,G0,J0⟩:=RdS.get (D0) (k) (by omega);obtain⟨_,_,_,_,_,_,_,_,_,rfl,E0,_⟩:=h1a.open_ J0;refine lO (S.k.a G0) [.o 0,.x V0 r1,.f 0 2] Z ⟨Z,⟨A0,by omega⟩,Z,U⟩ (y0a S p1b Z Z (Q5a mo.rely M _ _ _ (RdE.keep (S.keep0 M) _ _ E0)) (fun m1 v1 c0 S0=>?_) (fun m1 v1 c0 S0=>?_))
  ·obtain⟨_,W0,s1,_,L0,B0,_,_,H0,K0⟩:=RdS.get (D0) (k) (by omega);obtain rfl:=Option.some.inj (q0.symm.trans L0);obtain⟨_,_,_,_,_,_,_,_,_,rfl,_,C0,_⟩:=h1a.open_ K0;refine lO (c0.k.a H0) [.o 0,.x W0 s1,.f 0 6] Z ⟨Z,⟨B0,by omega⟩,Z,U⟩ (y0a c0 p1b Z Z (Q5a mo.guar M _ _ _ (RdE.keep (c0.keep0 M) _ _ C0)) (fun n1 x1 d0 T0=>?_) (fun n1 x1 d0 T0=>?_))
   ·obtain⟨_,t0,N0,_,p0,e0,_,_,i0,m0⟩:=RdS.get (D0) (k) (by omega);obtain rfl:=Option.some.inj (q0.symm.trans p0);obtain⟨_,_,_,_,_,_,_,_,_,rfl,_⟩:=h1a.open_ m0;refine lB (d0.k.a i0) [.o 0,.x t0 N0,.f 0 10] Z ⟨Z,⟨e0,by omega⟩,Z,U⟩ (fun v0=>?_) fun v0=>?_
    ·exact lT Z U Z ⟨⟨_,Z,fun _=>trivial⟩,d0.fin⟩
    refine lP0 Z ⟨by omega,U⟩ ⟨μk-1,by omega,Z,(k+1),(by omega),d0,Z⟩
   exact lT Z U Z ⟨⟨_,Z,fun _=>trivial⟩,d0.fin⟩
  exact lT Z U Z ⟨⟨_,Z,fun _=>trivial⟩,c0.fin⟩
 refine lC0 Z U (wL (fun μk D ε w=>D=[]∧∃k:Nat,(k+μk=(p.locks.length))∧St [] w0 w [(some g1,27,[.slice Ac nc cc,.slice Am nm cm,.slice Al nl cl,.slice At nt ct])]∧Sl ε [(1,.pointer (some ⟨g1,0,none⟩)),(7,.int .i64 k)]) (μ:=(p.locks.length)) ⟨Z,0,by omega,S,Z⟩ ?_);rintro μk D ε w ⟨rfl,k,hk,S,eZ⟩;refine wK eZ (wB S.k [.o 0] Z ⟨Z,U⟩ (fun x0=>?_) fun x0=>?_)
 ·obtain⟨lk,u0,O0,_,_,f0,_,_,j0,n0⟩:=RdS.get (o1) (k) (by omega);obtain⟨_,_,_,rfl,_,_,g0⟩:=F5a.open_ n0;refine lO (S.k.a j0) [.o 0,.x u0 O0,.f 0 1] Z ⟨Z,⟨f0,by omega⟩,Z,U⟩ (y0a S p1b Z Z (Q5a lk.inv M _ _ _ (RdE.keep (S.keep0 M) _ _ g0)) (fun y0 P0 b0 s0=>?_) (fun y0 P0 b0 s0=>?_))
  ·refine lP0 Z ⟨by omega,U⟩ ⟨μk-1,by omega,Z,(k+1),(by omega),b0,Z⟩
  exact lT Z U Z ⟨⟨_,Z,fun _=>trivial⟩,b0.fin⟩
 exact lT Z U Z ⟨⟨_,Z,fun _=>trivial⟩,S.fin⟩
theorem K1c(p:j0a)(c:V0a)(M:List Nat)(w0:World)(cs xs:List Value)(hI:InP p M w0 cs)(hX:C1a M w0 c xs)(hf:A2b p c)(he:n8a c):
 C0a prog 82 #[.agg cs.toArray,.agg xs.toArray] w0 fun v w'=>v=.bool true∧Below w0.heap.size w0 w':=by
 obtain⟨Ac,nc,cc,Am,nm,cm,Al,nl,cl,At,nt,ct,rfl,_⟩:=hI.rd.open_;obtain⟨Xm,xm,ym,Xa,xa,ya,Xb,xb,yb,rfl,d0,p0,c0,_,_,i0,_⟩:=hX.open_;have f3:=hf.nbuf;have S:=St.refl w0;refine a0a func82 Z ntmps82 Z ?_;refine wO0 Z U (o0a S Z ?_);intro g2 w2 S2 X2 G2;refine o0a S2 Z ?_;intro g3 w3 S3 X3 G3;refine lO S3.k [.w 1,.o 0,.o 0] Z ⟨Z,Z,⟨Z,Z⟩,U⟩ (h0a S3 E0d Z Z (G2c p c M _ _ _ _ (hI.keep (S3.keep0 M)) (d0.keep (S3.keep0 M)) (p0.keep (S3.keep0 M)) hf) ?_);intro s0 g0 r0;refine lB g0.k [.o 0,.o 1] Z ⟨Z,Z,U⟩ (fun m0=>by exfalso;omega) fun m0=>?_;refine lC0 Z U (wL (fun μk D ε w=>D=[]∧∃k:Nat,(k+μk=(c.buf.length))∧St [] w0 w [(some g3,50,[.slice Xm xm ym,.slice Xa xa ya,.slice Xb xb yb]),(some g2,27,[.slice Ac nc cc,.slice Am nm cm,.slice Al nl cl,.slice At nt ct])]∧Sl ε [(3,.pointer (some ⟨g3,0,none⟩)),(5,.int .i64 k)]) (μ:=(c.buf.length)) ⟨Z,0,by omega,g0,Z⟩ ?_);rintro μk D ε w ⟨rfl,k,_,S,eZ⟩;refine wK eZ (wB S.k [.o 0] Z ⟨Z,U⟩ (fun n0=>?_) fun n0=>?_)
 ·obtain⟨b,j0,q0,_,i0,b0,_,_,e0,f0⟩:=RdS.get (c0) (k) (by omega);obtain⟨_,_,_,rfl,_,a0,_⟩:=d6b.open_ f0;refine lB (S.k.a e0) [.o 0,.x j0 q0,.f 0 0] Z ⟨Z,⟨b0,by omega⟩,Z,U⟩ (fun o0=>by have z:=he b (e0a i0);subst z;simp at a0;omega) (fun o0=>?_);refine lP0 Z ⟨by omega,U⟩ ⟨μk-1,by omega,Z,(k+1),(by omega),S,Z⟩
 exact lT Z U Z ⟨Z,S.fin⟩
theorem b6b(p:j0a)(c:V0a)(t i:Nat)(th:Y0a)(s:E1a)(M:List Nat)(w0:World)(cs xs ss:List Value)(hI:InP p M w0 cs)(hX:C1a M w0 c xs)(hS:f2a M w0 ss s)(hf:A2b p c)(he:n8a c)(i0:p.threads[t]?=some th)(G0:th.steps[i]?=some s):
 C0a prog 83 #[.agg cs.toArray,.agg xs.toArray,.int .i64 t,.agg ss.toArray] w0 fun v w'=>v=.bool (M2a p 0 c t s)∧Below w0.heap.size w0 w':=by
 obtain⟨_,_,_,_,_,_,_,_,_,_,_,_,rfl,_⟩:=hI.rd.open_;obtain⟨_,_,_,_,_,_,_,_,_,rfl,g0,z0,_,_,c0,_⟩:=hX.open_;obtain⟨_,_,_,_,_,_,rfl,⟨_,_⟩,hG,_⟩:=hS.open_;have S:=St.refl w0;have f2:=hf.nat;have hp:=hI.ok;have ht:=K3a i0;have F0:=(hp.thread i0).steps s (e0a G0);have A0:6≤s.kind→0≤s.target∧s.target<p.threads.length:=fun h=>(F0.row.k6 h).1;refine a0a func83 Z ntmps83 Z ?_;refine wO0 Z U (o0a S Z ?_);intro g4 w4 S4 X4 G4;refine o0a S4 Z ?_;intro g5 w5 S5 X5 G5;refine o0a S5 Z ?_;intro g7 w7 S7 X7 G7;refine lC0 Z U (x0a b0a [0,1,2,3,4,5,6,7,8,9,10,11,12,13,14,15,16,17] [] [] Z (Cl _ _ _ _) (Cl.start S7) ?_);obtain⟨a,D0,H0,_,c0,r0,_,_,t0,v0⟩:=RdS.get (z0) (t) (by omega);obtain⟨rfl,_⟩:=id v0;refine qB (S7.q.a t0) [.o 1,.x D0 H0,.f 0 0,.o 0] Z ⟨Z,Z,⟨r0,by omega⟩,Z,U⟩ (fun b0=>?_) fun b0=>?_
 ·refine qD Z U ?_;rintro B0 ⟨a0,y0⟩;refine lT Z U Z ⟨congrArg Value.bool ?_,a0.fin⟩;rw[L4a he,getD_some c0];simp[b0];done
 refine qO S7.q [.o 0,.o 1,.o 1] Z ⟨Z,Z,Z,U⟩ (f1a k1c Z Z (fun w1 S1 X1=>d1b s.guard M _ _ _ _ c.mem c.mem (RdE.keep (S1.keep0 M) _ _ hG) (g0.keep (S1.keep0 M)) (g0.keep (S1.keep0 M))) ?_);refine qB0 Z U (fun d0=>?_) fun d0=>?_
 ·refine qD Z U ?_;rintro B0 ⟨a0,y0⟩;refine lT Z U Z ⟨congrArg Value.bool ?_,a0.fin⟩;rw[L4a he,getD_some c0];simp[b0,d0];done
 refine qD Z U ?_;rintro B0 ⟨a0,y0⟩;refine lB a0.k [.o 0] Z ⟨Z,U⟩ (fun j0=>?_) fun j0=>?_
 ·have q6:=A0 (by omega);obtain⟨b,E0,I0,_,f0,s0,_,_,u0,x0⟩:=RdS.get (z0) (s.target.toNat) (by omega);obtain⟨rfl,_⟩:=id x0;refine lB (a0.k.a u0) [.o 1,.o 0,.x E0 I0,.f 0 0] Z ⟨Z,⟨s0,by omega⟩,Z,Z,U⟩ (fun p0=>?_) fun p0=>?_
  ·refine lT Z U Z ⟨congrArg Value.bool ?_,a0.fin⟩;rw[L4a he,getD_some c0];simp[b0,d0,j0,f0,p0];done
  refine lT Z U Z ⟨congrArg Value.bool ?_,a0.fin⟩;rw[L4a he,getD_some c0];simp[b0,d0,j0,f0,p0];done
 refine lB a0.k [.o 0] Z ⟨Z,U⟩ (fun m0=>?_) fun m0=>?_
 ·refine lT Z U Z ⟨congrArg Value.bool ?_,a0.fin⟩;rw[L4a he,getD_some c0];simp[b0,d0,j0,m0];done
 refine lO a0.k [.w 2,.w 1,.o 0] Z ⟨Z,⟨Z,Z⟩,⟨Z,Z⟩,U⟩ ?_;have q6:=A0 (by omega);obtain⟨u,n0⟩:∃u,p.threads[s.target.toNat]?=some u:=⟨p.threads[s.target.toNat]'(by omega),List.getElem?_eq_getElem _⟩;obtain⟨b,f0⟩:∃b,c.at_[s.target.toNat]?=some b:=⟨c.at_[s.target.toNat]'(by omega),List.getElem?_eq_getElem _⟩;refine y0a a0 S1d Z Z ((by have z:=p4c p c s.target.toNat u b M _ _ _ (hI.keep (a0.keep0 M)).rd (hX.keep (a0.keep0 M)) n0 f0 (hp.thread n0).points;rw[show((s.target.toNat:Nat):Int)=s.target by omega] at z;exact z)) (fun q0 J0 o0 C0=>?_) (fun q0 J0 o0 C0=>?_)
 ·refine lT Z U Z ⟨congrArg Value.bool ?_,o0.fin⟩;rw[L4a he,getD_some c0];have e0:=of_decide_eq_true q0;simp[b0,d0,m0,f0,n0,e0];done
 refine lT Z U Z ⟨congrArg Value.bool ?_,o0.fin⟩;rw[L4a he,getD_some c0];have e0:=of_decide_eq_false q0;simp[b0,d0,m0,f0,n0,e0];done
theorem B4a(p:j0a)(c:V0a)(M Mx:List Nat)(w0:World)(cs xs:List Value)(hI:InP p M w0 cs)(hX:C1a M w0 c xs)(hf:A2b p c)(he:n8a c)(L0:∀g∈Mx,g<w0.heap.size):
 C0a prog 27 #[.agg cs.toArray,.agg xs.toArray] w0 fun v w'=>I1d Mx w' v (m1a p 0 c)∧Below w0.heap.size w0 w':=by
 obtain⟨Ac,nc,cc,Am,nm,cm,Al,nl,cl,At,nt,ct,rfl,_,_,_,C0,_⟩:=hI.rd.open_;obtain⟨Xm,xm,ym,Xa,xa,ya,Xb,xb,yb,rfl,_⟩:=hX.open_;have hp:=hI.ok;have n2:=hp.nthreads;have S:=(St.refl w0).nilEnt 57;refine a0a func27 Z ntmps27 Z ?_;refine wO0 Z U (o0a S Z ?_);intro g2 w2 S2 X2 G2;refine o0a S2 Z ?_;intro g3 w3 S3 X3 G3;refine lO S3.k [.w 1] Z ⟨⟨Z,Z⟩,U⟩ (h0a S3 u2b Z Z (K4a p M _ _ (hI.keep (S3.keep0 M))) ?_);intro w9 S9 X9;refine lO S9.k [.w 1,.w 0] Z ⟨⟨Z,Z⟩,⟨Z,Z⟩,U⟩ (h0a S9 c7c Z Z (K1c p c M _ _ _ (hI.keep (S9.keep0 M)) (hX.keep (S9.keep0 M)) hf he) ?_);intro Y0 D0 T0;refine lC0 Z U (wL (fun μk D ε w=>D=[]∧∃k:Nat,∃G:Option Nat,∃i0:List Value,∃v:Value,(k+μk=(p.threads.length))∧(V1a (fun _ _=>p6a) 3 [] w0 G i0 v (W3a p 0 c k))∧St [] w0 w [(some g3,50,[.slice Xm xm ym,.slice Xa xa ya,.slice Xb xb yb]),(some g2,27,[.slice Ac nc cc,.slice Am nm cm,.slice Al nl cl,.slice At nt ct]),(G,57,i0)]∧Sl ε [(2,.pointer (some ⟨g2,0,none⟩)),(3,.pointer (some ⟨g3,0,none⟩)),(5,v),(6,.int .i64 k)]) (μ:=(p.threads.length)) ⟨Z,0,none,[],.slice none 0 0,by omega,V1a.nil,D0,Z⟩ ?_);rintro μk D ε w ⟨rfl,k,G,i0,v,_,d0,S,eZ⟩;refine wK eZ (wB S.k [.o 1] Z ⟨Z,U⟩ (fun J0=>?_) fun J0=>?_)
 ·obtain⟨th,a0⟩:∃th,p.threads[k]?=some th:=⟨p.threads[k]'(by omega),List.getElem?_eq_getElem _⟩;have X0:=(hp.thread a0).nsteps;refine lC0 Z U (wL (fun μj D ε w=>D=[]∧∃j:Nat,∃G2:Option Nat,∃cs2:List Value,∃v2:Value,(j+μj=(th.steps.length))∧(V1a (fun _ _=>p6a) 3 [] w0 G2 cs2 v2 (W3a p 0 c k++e4a p 0 c k j))∧St [] w0 w [(some g3,50,[.slice Xm xm ym,.slice Xa xa ya,.slice Xb xb yb]),(some g2,27,[.slice Ac nc cc,.slice Am nm cm,.slice Al nl cl,.slice At nt ct]),(G2,57,cs2)]∧Sl ε [(2,.pointer (some ⟨g2,0,none⟩)),(3,.pointer (some ⟨g3,0,none⟩)),(5,v2),(6,.int .i64 k),(7,.int .i64 j)]) (μ:=(th.steps.length)) ⟨Z,0,G,i0,v,by omega,by simpa[e4a] using d0,S,Z⟩ ?_);rintro μj D ε w ⟨rfl,j,G2,cs2,v2,_,b0,S,eZ⟩;refine wK eZ ?_;obtain⟨_,F0,N0,_,x0,n0,_,_,q0,u0⟩:=RdS.get (C0) (k) (by omega);obtain rfl:=Option.some.inj (a0.symm.trans x0);obtain⟨_,_,_,_,_,_,_,_,_,_,_,_,rfl,_⟩:=S0a.open_ u0;refine wB (S.k.a q0) [.o 1,.x F0 N0,.f 0 4] Z ⟨Z,⟨n0,by omega⟩,Z,U⟩ (fun K0=>?_) fun K0=>?_
  ·refine lC0 Z U (x0a b0a [0,1,2,3,4,5,6,7,8,9,10,11,12] [] [] Z (Cl _ _ _ _) (Cl.start S) ?_);obtain⟨_,G0,O0,_,y0,o0,_,_,r0,v0⟩:=RdS.get (C0) (k) (by omega);obtain rfl:=Option.some.inj (a0.symm.trans y0);obtain⟨_,_,_,_,_,_,_,_,_,_,_,_,rfl,_,_,_,f0,_⟩:=S0a.open_ v0;obtain⟨s,H0,P0,_,z0,p0,_,t0,s0,g0⟩:=RdS.get (f0) (j) (by omega);obtain⟨_,_,_,_,_,_,rfl,⟨_,_⟩,_⟩:=f2a.open_ g0;refine qO ((S.q.a s0).a r0) [.w 1,.w 0,.o 1,.x G0 O0,.f 0 4,.x H0 P0,.v 1] Z ⟨⟨Z,t0⟩,⟨p0,by omega⟩,Z,⟨o0,by omega⟩,Z,⟨Z,Z⟩,⟨Z,Z⟩,U⟩ (R2a G3d Z Z (fun w1 S1 X1=>b6b p c k j th s M _ _ _ _ (hI.keep (S1.keep0 M)) (hX.keep (S1.keep0 M)) (f2a.keep (S1.keep0 M) _ _ g0) hf he a0 z0) (fun m0=>?_) fun m0=>?_)
   ·refine qD Z U ?_;rintro A0 ⟨c0,j0⟩;refine lOn 4 c0.k [] Z U (H0a Z ?_);refine lO0 Z U (G0a i4d (vs:=[(0,.int .i64 _),(1,.int .i64 _)]) (cs:=[_,_,_]) Z Z Z Z ?_);refine m0a c0 X4a (vs:=[.agg _]) (cs:=[_,_,_]) Z Z Z Z Z Z ?_;intro W0 Z0 B0 U0 R0;have l1:=r4a hp hf 0 k (by omega);have l2:=o0b p 0 c k j;refine i1a C6a (k:=3) (M2:=[]) (e1:=⟨k,j,0⟩) B0 X4a Z b0 Z Z (B0.cells 0 Z) (p6a.of (by unfold i64;omega) (by unfold i64;omega) (by unfold i64;omega)) (by rw[List.length_append];omega) Z ?_;intro v53 S0 I0 a1 E0 e0 V0 Q0;refine A0a Z ?_;refine lP0 Z ⟨by omega,U⟩ ⟨μj-1,by omega,Z,(j+1),(_),(_),(_),(by omega),?_,E0.tail,Z⟩;rw[I7b a0 z0 m0,←List.append_assoc];exact e0
   refine qD Z U ?_;rintro A0 ⟨c0,j0⟩;refine lP0 Z ⟨by omega,U⟩ ⟨μj-1,by omega,Z,(j+1),(_),(_),(_),(by omega),?_,c0,Z⟩;rw[h0c a0 z0 m0];exact b0
  refine lP0 Z ⟨by omega,U⟩ ⟨μk-1,by omega,Z,(k+1),(_),(_),(_),(by omega),?_,S,Z⟩;rw[Y6a,Q0b,I3a a0,he.getD,show A3b 0 c k ([]:List w1a).length=[] from rfl,List.append_nil,show th.steps.length=j by omega];exact b0
 refine lOn 7 S.k [] Z U (H0a Z ?_);refine A0a Z ?_;refine lR0 Z U (r0a Z ?_);obtain rfl:k=p.threads.length:=by omega
 have l1:=r4a hp hf 0 _ (Nat.le_refl _);rw[T7a] at l1 d0;exact⟨V1a.rd (M:=Mx) (w:=w) C6a d0 S (k:=2) Z (fun g hg hh=>by subst hg;have z:=S.new 2 Z;have z2:=L0 g hh;simp at z;omega) (by omega),S.fin⟩
section
variable {P:Program} {N:Nat} {ops:Array Oper} {C:World→Prop} {rest:List Oper} {K:Env→Prop} {e:Env} {d:Nat} {x:Operand} {t:TypeId} {p:String} {af:Array Edge} {kd k2:IntKind} {a:Int} {src dst:TypeId}
theorem t4c{ds:TypeDesc}(hs:P.underlying src=some ds)(ht:P.underlying dst=some (.int k2))(hx:ev e x=.int kd a)(hd:Nat.ble (d+1) N=true)(h:QL P N ops C rest K (upd e d (.int k2 (k2.wrap a)))):
 QL P N ops C (⟨some d,.convert src dst x,t,p,af,none⟩::rest) K e :=
 c2a Z Z hd (fun w _=>by simp[execOp,hx,convert,run_underlying hs,run_underlying ht,Conv.intToInt]) h
end
theorem a8a(p:j0a)(c:V0a)(x:c1a)(M:List Nat)(w0:World)(cs xs:List Value)(hI:InP p M w0 cs)(hX:C1a M w0 c xs)(hf:A2b p c)(he:n8a c)(hx:x∈m1a p 0 c):
 C0a prog 28 #[.agg cs.toArray,.agg xs.toArray,.agg #[.int .i64 x.thread,.int .i64 x.step,.int .i64 x.cell]] w0 fun v w'=>(∃ys,v=.tuple #[.agg ys.toArray,.int .i64 0]∧C1a M w' (doC p 0 c x) ys)∧Below w0.heap.size w0 w':=by
 obtain⟨t,i,_,s,rfl,K0,Z0,_⟩:=q3b he hx;have x1:=J0c hI.ok hf hx;rw[C4d he K0 Z0] at x1;obtain⟨Ac,nc,cc,Am,nm,cm,Al,nl,cl,At,nt,ct,rfl,_,_,_,N1,_,_,_,_,_,_,_,bt⟩:=hI.rd.open_;obtain⟨Xm,xm,ym,Xa,xa,ya,Xb,xb,yb,rfl,y0,J0,_⟩:=hX.open_;have S:=St.refl w0;have f1:=hf.mem.len;have f2:=hf.nat;have f3:=hf.nbuf;have hp:=hI.ok;have hM:=hI.lt;have n1:=hp.ncells;have n2:=hp.nthreads;have ht:=K3a K0;have hi:=K3a Z0;have d1:=(hp.thread K0).steps s (e0a Z0);have P1:6≤s.kind→0≤s.target∧s.target<p.threads.length:=fun h=>(d1.row.k6 h).1;have t1:=h6b c t s;dsimp only;refine a0a func28 Z ntmps28 Z ?_;refine wO0 Z U (o0a S Z ?_);intro g3 w3 S3 X3 G3;refine o0a S3 Z ?_;intro g4 w4 S4 X4 G4;refine o0a S4 Z ?_;intro g5 w5 S5 X5 G5;refine g0a S5 k6a Z Z ?_;intro g6 w6 S6 X6 G6;refine lO S6.k [.w 3] Z ⟨⟨Z,Z⟩,U⟩ (h0a S6 u2b Z Z (K4a p M _ _ (hI.keep (S6.keep0 M))) ?_);intro a2 c1 W1;refine lO c1.k [.w 3,.w 2] Z ⟨⟨Z,Z⟩,⟨Z,Z⟩,U⟩ (h0a c1 c7c Z Z (K1c p c M _ _ _ (hI.keep (c1.keep0 M)) (hX.keep (c1.keep0 M)) hf he) ?_);intro H0 n0 s0;refine lC0 Z U (x0a b0a [0,1,3] [2] [4,5] Z (Cl _ _ _ _) (Cl.start n0) ?_);refine qN n0.q [.w 3,.w 2,.w 1] Z ⟨⟨Z,Z⟩,⟨Z,Z⟩,⟨Z,Z⟩,U⟩ (s4a ?_);refine W2b (fun v w=>I1d [] w v (m1a p 0 c)) Z Z R0c Z (fun v w w' h hk=>h.keep hk.of_nil) (fun w1 S1 X1=>B4a p c M [] _ _ _ (hI.keep (S1.keep0 M)) (hX.keep (S1.keep0 M)) hf he (by simp)) ?_;refine X1a ?_;rintro d2 ⟨H1,_⟩;rintro v22 hr;dsimp only[h4a];obtain⟨_,_,_,rfl⟩:=hr.form;refine h0a H1 T3d Z Z (O2a (d5c (m1a p 0 c) ⟨t,i,0⟩ [] _ _ hr) (decide_eq_true hx)) ?_;intro b2 j1 Y1;refine lC0 Z U (x0a b0a [0,1,2,3,4,5,6,7,8,9,10] [11] [12] Z (Cl _ _ _ _) (Cl.start j1) ?_);obtain⟨_,K1,R1,_,B1,r1,_,_,u1,z1⟩:=RdS.get (N1) (t) (by omega);obtain rfl:=Option.some.inj (K0.symm.trans B1);obtain⟨_,_,_,_,_,_,_,_,_,_,_,_,rfl,_,_,_,Y0,_⟩:=S0a.open_ z1;obtain⟨_,M1,T1,_,C1,s1,_,y1,v1,A1⟩:=RdS.get (Y0) (i) (by omega);obtain rfl:=Option.some.inj (Z0.symm.trans C1);obtain⟨U0,a1,W0,V0,b1,X0,rfl,⟨_,_⟩,_,v0,_⟩:=f2a.open_ A1;refine qN ((j1.q.a v1).a u1) [.o 3,.o 1,.x K1 R1,.f 0 4,.o 1,.x M1 T1,.v 1] Z ⟨⟨Z,y1⟩,⟨s1,by omega⟩,Z,Z,⟨r1,by omega⟩,Z,Z,U⟩ (s4a ?_);refine Y2c Z Z W4c Z ?_;refine X1a ?_;rintro e2 ⟨o1,_⟩;intro g8 O1 G8 Q1;dsimp only[h4a];clear Q1;replace o1:=o1.push_new j1 O1 G8
 first|refine d0a (kk:=0) (vs:=[_,_,_,_,_,_,_,_,_,_,_]) o1 r6c Z Z Z Z Z Z Z ?_
 intro L0 A0 E1;dsimp only[i0a,List.set] at A0;refine lCn 2 A0.k [] Z U (wX (fun D ε w=>D=[]∧∃Gm:Option Nat,∃x0:List Value,∃Bm:Option Addr,∃R0:Nat,∃dm:Nat,∃ga:Nat,∃c0:List Value,∃gb:Nat,∃g9:Nat,(u4a Gm 1 c.mem.length x0 (.slice Bm R0 dm) ((R4b s.set c.mem c.mem).map (Value.int .i64)))∧(c.at_.length+c0.length≤maxLen)∧St [] w0 w [(some g8,60,[.int .i64 s.kind,.int .i64 s.frm,.int .i64 s.to,.int .i64 s.guard.op,.int .i64 s.guard.w,.int .i64 s.guard.n,.slice U0 a1 W0,.slice V0 b1 X0,.bool s.release,.int .i64 s.target,.int .i64 s.module_]),(some g6,50,[.slice none 0 0,.slice none 0 0,.slice none 0 0]),(some g5,57,[.int .i64 t,.int .i64 i,.int .i64 0]),(some g4,50,[.slice Xm xm ym,.slice Xa xa ya,.slice Xb xb yb]),(some g3,27,[.slice Ac nc cc,.slice Am nm cm,.slice Al nl cl,.slice At nt ct]),(Gm,3,x0),(some ga,3,c.at_.map (Value.int .i64)++c0),(some gb,191,List.replicate nt (.slice none 0 0)),(some g9,50,[.slice Bm R0 dm,.slice (some ⟨ga,0,none⟩) c.at_.length (c.at_.length+c0.length),.slice (some ⟨gb,0,none⟩) nt nt])]∧Sl ε [(5,.pointer (some ⟨g5,0,none⟩)),(6,.pointer (some ⟨g6,0,none⟩)),(8,.pointer (some ⟨g8,0,none⟩)),(9,.pointer (some ⟨g9,0,none⟩))]) ?_ ?_)
 ·replace A0:=A0.nils (R:=[(none,3,[]),(none,3,[]),(none,191,[]),(none,50,[])]) (fun b hb=>by simp at hb;rcases hb with rfl|rfl|rfl|rfl<;>rfl);have O0:∀a∈s.set,(0≤a.cell∧a.cell<c.mem.length)∧i64 (a.to.evl c.mem c.mem):=fun a ha=>by
   have q1:=(d1.set a ha).1;unfold N2a at q1;have q2:=b1b (d1.set a ha).2.1 c.mem c.mem;rw[(d1.set a ha).2.2] at q2;have Z1:=K4b hp a.cell;exact⟨by omega,by unfold i64;omega⟩
  refine m2b b0a (fun i=>[0,1,2,3,4,5,7,8,10,11,12,14].contains i) (.op 0 (.op 1 (.op 2 (.op 3 (.op 4 (.op 5 (.op 7 (.op 8 (.op 10 (.op 11 (.op 12 (.two (.op 6 (.two (.op 9 (.two (.op 13 (.op 14 (.op 15 (.op 16 .nil)))) (.op 15 (.op 13 (.op 14 (.op 16 .nil)))))) (.two (.op 13 (.two (.op 9 (.op 14 (.op 15 (.op 16 .nil)))) (.op 15 (.op 9 (.op 14 (.op 16 .nil)))))) (.op 15 (.two (.op 9 (.op 13 (.op 14 (.op 16 .nil)))) (.op 13 (.op 9 (.op 14 (.op 16 .nil))))))))) (.two (.op 13 (.two (.op 6 (.two (.op 9 (.op 14 (.op 15 (.op 16 .nil)))) (.op 15 (.op 9 (.op 14 (.op 16 .nil)))))) (.op 15 (.op 6 (.op 9 (.op 14 (.op 16 .nil))))))) (.op 15 (.two (.op 6 (.two (.op 9 (.op 13 (.op 14 (.op 16 .nil)))) (.op 13 (.op 9 (.op 14 (.op 16 .nil)))))) (.op 13 (.op 6 (.op 9 (.op 14 (.op 16 .nil)))))))))))))))))))) (clF (A:=[_,_,_,_,_]) (R:=[(none,3,[]),(none,3,[]),(none,191,[]),(none,50,[])]) A0 []) ?_;have u0:=A0.drew;have F1:t0a [] L0 L0.drew:=P2a _ _;generalize L0.drew=g2 at u0 F1 ⊢;have D0:t0a ([]) _ _:=F1.of_nil;refine q1a ⟨St.front (A:=[_,_,_,_,_]) (R:=[_,_,_,_]) u0,D0⟩ Z Z Z ?_;refine I0a v8a Z Z ?_;refine c0a ?_;refine q1a ⟨St.front (A:=[_,_,_,_,_]) (R:=[_,_,_,_]) u0,D0⟩ Z Z Z ?_;refine k0a j4a Z (fun w1 hw=>by exact hw.1.cell 3 Z Z) Z ?_;refine c0a ?_;refine q1a ⟨St.front (A:=[_,_,_,_,_]) (R:=[_,_,_,_]) u0,D0⟩ Z Z Z ?_;refine I0a v8a Z Z ?_;refine c0a ?_;refine q1a ⟨St.front (A:=[_,_,_,_,_]) (R:=[_,_,_,_]) u0,D0⟩ Z Z Z ?_;refine k0a j4a Z (fun w1 hw=>by exact hw.1.cell 3 Z Z) Z ?_;refine c0a ?_;refine q1a ⟨St.front (A:=[_,_,_,_,_]) (R:=[_,_,_,_]) u0,D0⟩ Z Z Z ?_;refine I0a D3b Z Z ?_;refine c0a ?_;refine q1a ⟨St.front (A:=[_,_,_,_,_]) (R:=[_,_,_,_]) u0,D0⟩ Z Z Z ?_;refine k0a Q8b Z (fun w1 hw=>by exact hw.1.cell 0 Z Z) Z ?_;refine c0a ?_;refine q1a ⟨St.front (A:=[_,_,_,_,_]) (R:=[_,_,_,_]) u0,D0⟩ Z Z Z ?_;refine I0a Z2c Z Z ?_;refine c0a ?_;refine q1a ⟨St.front (A:=[_,_,_,_,_]) (R:=[_,_,_,_]) u0,D0⟩ Z Z Z ?_;refine k0a j4a Z (fun w1 hw=>by exact hw.1.cell 3 Z Z) Z ?_;refine c0a ?_;refine q1a ⟨St.front (A:=[_,_,_,_,_]) (R:=[_,_,_,_]) u0,D0⟩ Z Z Z ?_;refine I0a p6b Z Z ?_;refine c0a ?_;refine q1a ⟨St.front (A:=[_,_,_,_,_]) (R:=[_,_,_,_]) u0,D0⟩ Z Z Z ?_;refine k0a e4c Z (fun w1 hw=>by exact hw.1.cell 4 Z Z) Z ?_;refine c0a ?_;refine q1a ⟨St.front (A:=[_,_,_,_,_]) (R:=[_,_,_,_]) u0,D0⟩ Z Z Z ?_;refine b0d t8b.slT Z Z ?_;refine c0a ?_;refine Y4a ?_ ?_
  ·refine g2a ⟨St.front (A:=[_,_,_,_,_]) (R:=[_,_,_,_]) u0,D0⟩ Z Z Z ?_;refine p1a c5b Z Z (p5a c.mem c.mem s.set M _ _ _ _ (y0.keep (u0.keep0 M)) (y0.keep (u0.keep0 M)) (RdS.keepW v0 (u0.keep0 M) (N0a.keep (u0.keep0 M))) (fun a ha=>(O0 a ha).1) (fun a ha=>(O0 a ha).2)) ?_;rintro g1 i1 ⟨C0,G0⟩;obtain⟨Gm,x0,Rm,B0⟩:=C0.open_ (u0.later G0) u0;have q0:=B0.place 5;have e0:=D0.trans (t0a.of_below G0);obtain⟨Bm,R0,dm,rfl⟩:=Rm.form;refine s0a ⟨Z,?_⟩;refine Y4a ?_ ?_
   ·refine g2a ⟨St.front (A:=[_,_,_,_,_]) (R:=[_,_,_,_]) q0,e0⟩ Z Z Z ?_;refine p1a S5a Z Z (C2a c.at_ M _ _ (J0.keep (q0.keep0 M))) ?_;rintro P0 Q0 ⟨j0,p0⟩;obtain⟨Ga,N0,Ra,i0⟩:=j0.open_ (q0.later p0) q0;have m0:=i0.place 6;have a0:=e0.trans (t0a.of_below p0);obtain⟨ga,c0,rfl,rfl,rfl,f0⟩:=Ra.pad (by omega);refine s0a ⟨Z,?_⟩;refine Y4a ?_ ?_
    ·refine g2a ⟨St.front (A:=[_,_,_,_,_]) (R:=[_,_,_,_]) m0,a0⟩ Z Z Z ?_;refine m4a (n:=nt) (c:=nt) m0 y6a Z Z Z Z ?_;intro gb T0 o0 F0 S0;have d0:=o0.place 7;have b0:=a0.trans F0;refine s0a ⟨Z,?_⟩;refine q1a ⟨St.front (A:=[_,_,_,_,_]) (R:=[_,_,_,_]) d0,b0⟩ Z Z Z ?_;refine D1a G5a (vs:=[(0,.slice _ _ _),(1,.slice _ _ _),(2,.slice _ _ _)]) (cs:=[_,_,_]) Z Z Z Z ?_;refine c0a ?_;refine g2a ⟨St.front (A:=[_,_,_,_,_]) (R:=[_,_,_,_]) d0,b0⟩ Z Z Z ?_;refine g0a d0 k6a Z Z ?_;intro g9 w9 E0 X9 G9;have S9:=E0.place 8;have z0:=Nat.le_trans b0.size G9;have r0:=b0.trans X9;refine s0a ⟨Z,?_⟩;refine g2a ⟨St.front (A:=[_,_,_,_,_]) (R:=[_,_,_,_]) S9,r0⟩ Z Z Z ?_;refine d0a (kk:=8) (vs:=[_,_,_]) S9 v4a Z Z Z Z Z Z Z ?_;intro H0 n0 s0;have g0:=r0.freshL s0 (fun g hg=>.inl (by rw[List.mem_singleton.1 hg];exact z0));refine s0a ⟨Z,?_⟩;refine p3a ⟨St.front (A:=[_,_,_,_,_]) (R:=[_,_,_,_]) n0,g0⟩ ?_;refine fP0 Z U ⟨Z,(Gm),(x0),(_),(_),(_),(ga),(c0),(gb),(g9),(by simpa using Rm),(f0),n0,Z⟩
    refine g2a ⟨St.front (A:=[_,_,_,_,_]) (R:=[_,_,_,_]) m0,a0⟩ Z Z Z ?_;refine g0a m0 k6a Z Z ?_;intro g9 w9 E0 X9 G9;have S9:=E0.place 8;have z0:=Nat.le_trans a0.size G9;have r0:=a0.trans X9;refine s0a ⟨Z,?_⟩;refine g2a ⟨St.front (A:=[_,_,_,_,_]) (R:=[_,_,_,_]) S9,r0⟩ Z Z Z ?_;refine m4a (n:=nt) (c:=nt) S9 y6a Z Z Z Z ?_;intro gb T0 o0 F0 S0;have d0:=o0.place 7;have b0:=r0.trans F0;refine s0a ⟨Z,?_⟩;refine q1a ⟨St.front (A:=[_,_,_,_,_]) (R:=[_,_,_,_]) d0,b0⟩ Z Z Z ?_;refine D1a G5a (vs:=[(0,.slice _ _ _),(1,.slice _ _ _),(2,.slice _ _ _)]) (cs:=[_,_,_]) Z Z Z Z ?_;refine c0a ?_;refine g2a ⟨St.front (A:=[_,_,_,_,_]) (R:=[_,_,_,_]) d0,b0⟩ Z Z Z ?_;refine d0a (kk:=8) (vs:=[_,_,_]) d0 v4a Z Z Z Z Z Z Z ?_;intro H0 n0 s0;have g0:=b0.freshL s0 (fun g hg=>.inl (by rw[List.mem_singleton.1 hg];exact z0));refine s0a ⟨Z,?_⟩;refine p3a ⟨St.front (A:=[_,_,_,_,_]) (R:=[_,_,_,_]) n0,g0⟩ ?_;refine fP0 Z U ⟨Z,(Gm),(x0),(_),(_),(_),(ga),(c0),(gb),(g9),(by simpa using Rm),(f0),n0,Z⟩
   refine Y4a ?_ ?_
   ·refine g2a ⟨St.front (A:=[_,_,_,_,_]) (R:=[_,_,_,_]) q0,e0⟩ Z Z Z ?_;refine m4a (n:=nt) (c:=nt) q0 y6a Z Z Z Z ?_;intro gb T0 o0 F0 S0;have d0:=o0.place 7;have b0:=e0.trans F0;refine s0a ⟨Z,?_⟩;refine Y4a ?_ ?_
    ·refine g2a ⟨St.front (A:=[_,_,_,_,_]) (R:=[_,_,_,_]) d0,b0⟩ Z Z Z ?_;refine p1a S5a Z Z (C2a c.at_ M _ _ (J0.keep (d0.keep0 M))) ?_;rintro P0 Q0 ⟨j0,p0⟩;obtain⟨Ga,N0,Ra,i0⟩:=j0.open_ (d0.later p0) d0;have m0:=i0.place 6;have a0:=b0.trans (t0a.of_below p0);obtain⟨ga,c0,rfl,rfl,rfl,f0⟩:=Ra.pad (by omega);refine s0a ⟨Z,?_⟩;refine q1a ⟨St.front (A:=[_,_,_,_,_]) (R:=[_,_,_,_]) m0,a0⟩ Z Z Z ?_;refine D1a G5a (vs:=[(0,.slice _ _ _),(1,.slice _ _ _),(2,.slice _ _ _)]) (cs:=[_,_,_]) Z Z Z Z ?_;refine c0a ?_;refine g2a ⟨St.front (A:=[_,_,_,_,_]) (R:=[_,_,_,_]) m0,a0⟩ Z Z Z ?_;refine g0a m0 k6a Z Z ?_;intro g9 w9 E0 X9 G9;have S9:=E0.place 8;have z0:=Nat.le_trans a0.size G9;have r0:=a0.trans X9;refine s0a ⟨Z,?_⟩;refine g2a ⟨St.front (A:=[_,_,_,_,_]) (R:=[_,_,_,_]) S9,r0⟩ Z Z Z ?_;refine d0a (kk:=8) (vs:=[_,_,_]) S9 v4a Z Z Z Z Z Z Z ?_;intro H0 n0 s0;have g0:=r0.freshL s0 (fun g hg=>.inl (by rw[List.mem_singleton.1 hg];exact z0));refine s0a ⟨Z,?_⟩;refine p3a ⟨St.front (A:=[_,_,_,_,_]) (R:=[_,_,_,_]) n0,g0⟩ ?_;refine fP0 Z U ⟨Z,(Gm),(x0),(_),(_),(_),(ga),(c0),(gb),(g9),(by simpa using Rm),(f0),n0,Z⟩
    refine g2a ⟨St.front (A:=[_,_,_,_,_]) (R:=[_,_,_,_]) d0,b0⟩ Z Z Z ?_;refine g0a d0 k6a Z Z ?_;intro g9 w9 E0 X9 G9;have S9:=E0.place 8;have z0:=Nat.le_trans b0.size G9;have r0:=b0.trans X9;refine s0a ⟨Z,?_⟩;refine g2a ⟨St.front (A:=[_,_,_,_,_]) (R:=[_,_,_,_]) S9,r0⟩ Z Z Z ?_;refine p1a S5a Z Z (C2a c.at_ M _ _ (J0.keep (S9.keep0 M))) ?_;rintro P0 Q0 ⟨j0,p0⟩;obtain⟨Ga,N0,Ra,i0⟩:=j0.open_ (S9.later p0) S9;have m0:=i0.place 6;have a0:=r0.trans (t0a.of_below p0);obtain⟨ga,c0,rfl,rfl,rfl,f0⟩:=Ra.pad (by omega);refine s0a ⟨Z,?_⟩;refine q1a ⟨St.front (A:=[_,_,_,_,_]) (R:=[_,_,_,_]) m0,a0⟩ Z Z Z ?_;refine D1a G5a (vs:=[(0,.slice _ _ _),(1,.slice _ _ _),(2,.slice _ _ _)]) (cs:=[_,_,_]) Z Z Z Z ?_;refine c0a ?_;refine g2a ⟨St.front (A:=[_,_,_,_,_]) (R:=[_,_,_,_]) m0,a0⟩ Z Z Z ?_;refine d0a (kk:=8) (vs:=[_,_,_]) m0 v4a Z Z Z Z Z Z Z ?_;intro H0 n0 s0;have g0:=a0.freshL s0 (fun g hg=>.inl (by rw[List.mem_singleton.1 hg];exact z0));refine s0a ⟨Z,?_⟩;refine p3a ⟨St.front (A:=[_,_,_,_,_]) (R:=[_,_,_,_]) n0,g0⟩ ?_;refine fP0 Z U ⟨Z,(Gm),(x0),(_),(_),(_),(ga),(c0),(gb),(g9),(by simpa using Rm),(f0),n0,Z⟩
   refine g2a ⟨St.front (A:=[_,_,_,_,_]) (R:=[_,_,_,_]) q0,e0⟩ Z Z Z ?_;refine g0a q0 k6a Z Z ?_;intro g9 w9 E0 X9 G9;have S9:=E0.place 8;have z0:=Nat.le_trans e0.size G9;have r0:=e0.trans X9;refine s0a ⟨Z,?_⟩;refine Y4a ?_ ?_
   ·refine g2a ⟨St.front (A:=[_,_,_,_,_]) (R:=[_,_,_,_]) S9,r0⟩ Z Z Z ?_;refine p1a S5a Z Z (C2a c.at_ M _ _ (J0.keep (S9.keep0 M))) ?_;rintro P0 Q0 ⟨j0,p0⟩;obtain⟨Ga,N0,Ra,i0⟩:=j0.open_ (S9.later p0) S9;have m0:=i0.place 6;have a0:=r0.trans (t0a.of_below p0);obtain⟨ga,c0,rfl,rfl,rfl,f0⟩:=Ra.pad (by omega);refine s0a ⟨Z,?_⟩;refine g2a ⟨St.front (A:=[_,_,_,_,_]) (R:=[_,_,_,_]) m0,a0⟩ Z Z Z ?_;refine m4a (n:=nt) (c:=nt) m0 y6a Z Z Z Z ?_;intro gb T0 o0 F0 S0;have d0:=o0.place 7;have b0:=a0.trans F0;refine s0a ⟨Z,?_⟩;refine q1a ⟨St.front (A:=[_,_,_,_,_]) (R:=[_,_,_,_]) d0,b0⟩ Z Z Z ?_;refine D1a G5a (vs:=[(0,.slice _ _ _),(1,.slice _ _ _),(2,.slice _ _ _)]) (cs:=[_,_,_]) Z Z Z Z ?_;refine c0a ?_;refine g2a ⟨St.front (A:=[_,_,_,_,_]) (R:=[_,_,_,_]) d0,b0⟩ Z Z Z ?_;refine d0a (kk:=8) (vs:=[_,_,_]) d0 v4a Z Z Z Z Z Z Z ?_;intro H0 n0 s0;have g0:=b0.freshL s0 (fun g hg=>.inl (by rw[List.mem_singleton.1 hg];exact z0));refine s0a ⟨Z,?_⟩;refine p3a ⟨St.front (A:=[_,_,_,_,_]) (R:=[_,_,_,_]) n0,g0⟩ ?_;refine fP0 Z U ⟨Z,(Gm),(x0),(_),(_),(_),(ga),(c0),(gb),(g9),(by simpa using Rm),(f0),n0,Z⟩
   refine g2a ⟨St.front (A:=[_,_,_,_,_]) (R:=[_,_,_,_]) S9,r0⟩ Z Z Z ?_;refine m4a (n:=nt) (c:=nt) S9 y6a Z Z Z Z ?_;intro gb T0 o0 F0 S0;have d0:=o0.place 7;have b0:=r0.trans F0;refine s0a ⟨Z,?_⟩;refine g2a ⟨St.front (A:=[_,_,_,_,_]) (R:=[_,_,_,_]) d0,b0⟩ Z Z Z ?_;refine p1a S5a Z Z (C2a c.at_ M _ _ (J0.keep (d0.keep0 M))) ?_;rintro P0 Q0 ⟨j0,p0⟩;obtain⟨Ga,N0,Ra,i0⟩:=j0.open_ (d0.later p0) d0;have m0:=i0.place 6;have a0:=b0.trans (t0a.of_below p0);obtain⟨ga,c0,rfl,rfl,rfl,f0⟩:=Ra.pad (by omega);refine s0a ⟨Z,?_⟩;refine q1a ⟨St.front (A:=[_,_,_,_,_]) (R:=[_,_,_,_]) m0,a0⟩ Z Z Z ?_;refine D1a G5a (vs:=[(0,.slice _ _ _),(1,.slice _ _ _),(2,.slice _ _ _)]) (cs:=[_,_,_]) Z Z Z Z ?_;refine c0a ?_;refine g2a ⟨St.front (A:=[_,_,_,_,_]) (R:=[_,_,_,_]) m0,a0⟩ Z Z Z ?_;refine d0a (kk:=8) (vs:=[_,_,_]) m0 v4a Z Z Z Z Z Z Z ?_;intro H0 n0 s0;have g0:=a0.freshL s0 (fun g hg=>.inl (by rw[List.mem_singleton.1 hg];exact z0));refine s0a ⟨Z,?_⟩;refine p3a ⟨St.front (A:=[_,_,_,_,_]) (R:=[_,_,_,_]) n0,g0⟩ ?_;refine fP0 Z U ⟨Z,(Gm),(x0),(_),(_),(_),(ga),(c0),(gb),(g9),(by simpa using Rm),(f0),n0,Z⟩
  refine Y4a ?_ ?_
  ·refine g2a ⟨St.front (A:=[_,_,_,_,_]) (R:=[_,_,_,_]) u0,D0⟩ Z Z Z ?_;refine m4a (n:=nt) (c:=nt) u0 y6a Z Z Z Z ?_;intro gb T0 o0 F0 S0;have d0:=o0.place 7;have b0:=D0.trans F0;refine s0a ⟨Z,?_⟩;refine Y4a ?_ ?_
   ·refine g2a ⟨St.front (A:=[_,_,_,_,_]) (R:=[_,_,_,_]) d0,b0⟩ Z Z Z ?_;refine p1a c5b Z Z (p5a c.mem c.mem s.set M _ _ _ _ (y0.keep (d0.keep0 M)) (y0.keep (d0.keep0 M)) (RdS.keepW v0 (d0.keep0 M) (N0a.keep (d0.keep0 M))) (fun a ha=>(O0 a ha).1) (fun a ha=>(O0 a ha).2)) ?_;rintro g1 i1 ⟨C0,G0⟩;obtain⟨Gm,x0,Rm,B0⟩:=C0.open_ (d0.later G0) d0;have q0:=B0.place 5;have e0:=b0.trans (t0a.of_below G0);obtain⟨Bm,R0,dm,rfl⟩:=Rm.form;refine s0a ⟨Z,?_⟩;refine Y4a ?_ ?_
    ·refine g2a ⟨St.front (A:=[_,_,_,_,_]) (R:=[_,_,_,_]) q0,e0⟩ Z Z Z ?_;refine p1a S5a Z Z (C2a c.at_ M _ _ (J0.keep (q0.keep0 M))) ?_;rintro P0 Q0 ⟨j0,p0⟩;obtain⟨Ga,N0,Ra,i0⟩:=j0.open_ (q0.later p0) q0;have m0:=i0.place 6;have a0:=e0.trans (t0a.of_below p0);obtain⟨ga,c0,rfl,rfl,rfl,f0⟩:=Ra.pad (by omega);refine s0a ⟨Z,?_⟩;refine q1a ⟨St.front (A:=[_,_,_,_,_]) (R:=[_,_,_,_]) m0,a0⟩ Z Z Z ?_;refine D1a G5a (vs:=[(0,.slice _ _ _),(1,.slice _ _ _),(2,.slice _ _ _)]) (cs:=[_,_,_]) Z Z Z Z ?_;refine c0a ?_;refine g2a ⟨St.front (A:=[_,_,_,_,_]) (R:=[_,_,_,_]) m0,a0⟩ Z Z Z ?_;refine g0a m0 k6a Z Z ?_;intro g9 w9 E0 X9 G9;have S9:=E0.place 8;have z0:=Nat.le_trans a0.size G9;have r0:=a0.trans X9;refine s0a ⟨Z,?_⟩;refine g2a ⟨St.front (A:=[_,_,_,_,_]) (R:=[_,_,_,_]) S9,r0⟩ Z Z Z ?_;refine d0a (kk:=8) (vs:=[_,_,_]) S9 v4a Z Z Z Z Z Z Z ?_;intro H0 n0 s0;have g0:=r0.freshL s0 (fun g hg=>.inl (by rw[List.mem_singleton.1 hg];exact z0));refine s0a ⟨Z,?_⟩;refine p3a ⟨St.front (A:=[_,_,_,_,_]) (R:=[_,_,_,_]) n0,g0⟩ ?_;refine fP0 Z U ⟨Z,(Gm),(x0),(_),(_),(_),(ga),(c0),(gb),(g9),(by simpa using Rm),(f0),n0,Z⟩
    refine g2a ⟨St.front (A:=[_,_,_,_,_]) (R:=[_,_,_,_]) q0,e0⟩ Z Z Z ?_;refine g0a q0 k6a Z Z ?_;intro g9 w9 E0 X9 G9;have S9:=E0.place 8;have z0:=Nat.le_trans e0.size G9;have r0:=e0.trans X9;refine s0a ⟨Z,?_⟩;refine g2a ⟨St.front (A:=[_,_,_,_,_]) (R:=[_,_,_,_]) S9,r0⟩ Z Z Z ?_;refine p1a S5a Z Z (C2a c.at_ M _ _ (J0.keep (S9.keep0 M))) ?_;rintro P0 Q0 ⟨j0,p0⟩;obtain⟨Ga,N0,Ra,i0⟩:=j0.open_ (S9.later p0) S9;have m0:=i0.place 6;have a0:=r0.trans (t0a.of_below p0);obtain⟨ga,c0,rfl,rfl,rfl,f0⟩:=Ra.pad (by omega);refine s0a ⟨Z,?_⟩;refine q1a ⟨St.front (A:=[_,_,_,_,_]) (R:=[_,_,_,_]) m0,a0⟩ Z Z Z ?_;refine D1a G5a (vs:=[(0,.slice _ _ _),(1,.slice _ _ _),(2,.slice _ _ _)]) (cs:=[_,_,_]) Z Z Z Z ?_;refine c0a ?_;refine g2a ⟨St.front (A:=[_,_,_,_,_]) (R:=[_,_,_,_]) m0,a0⟩ Z Z Z ?_;refine d0a (kk:=8) (vs:=[_,_,_]) m0 v4a Z Z Z Z Z Z Z ?_;intro H0 n0 s0;have g0:=a0.freshL s0 (fun g hg=>.inl (by rw[List.mem_singleton.1 hg];exact z0));refine s0a ⟨Z,?_⟩;refine p3a ⟨St.front (A:=[_,_,_,_,_]) (R:=[_,_,_,_]) n0,g0⟩ ?_;refine fP0 Z U ⟨Z,(Gm),(x0),(_),(_),(_),(ga),(c0),(gb),(g9),(by simpa using Rm),(f0),n0,Z⟩
   refine g2a ⟨St.front (A:=[_,_,_,_,_]) (R:=[_,_,_,_]) d0,b0⟩ Z Z Z ?_;refine g0a d0 k6a Z Z ?_;intro g9 w9 E0 X9 G9;have S9:=E0.place 8;have z0:=Nat.le_trans b0.size G9;have r0:=b0.trans X9;refine s0a ⟨Z,?_⟩;refine g2a ⟨St.front (A:=[_,_,_,_,_]) (R:=[_,_,_,_]) S9,r0⟩ Z Z Z ?_;refine p1a c5b Z Z (p5a c.mem c.mem s.set M _ _ _ _ (y0.keep (S9.keep0 M)) (y0.keep (S9.keep0 M)) (RdS.keepW v0 (S9.keep0 M) (N0a.keep (S9.keep0 M))) (fun a ha=>(O0 a ha).1) (fun a ha=>(O0 a ha).2)) ?_;rintro g1 i1 ⟨C0,G0⟩;obtain⟨Gm,x0,Rm,B0⟩:=C0.open_ (S9.later G0) S9;have q0:=B0.place 5;have e0:=r0.trans (t0a.of_below G0);obtain⟨Bm,R0,dm,rfl⟩:=Rm.form;refine s0a ⟨Z,?_⟩;refine g2a ⟨St.front (A:=[_,_,_,_,_]) (R:=[_,_,_,_]) q0,e0⟩ Z Z Z ?_;refine p1a S5a Z Z (C2a c.at_ M _ _ (J0.keep (q0.keep0 M))) ?_;rintro P0 Q0 ⟨j0,p0⟩;obtain⟨Ga,N0,Ra,i0⟩:=j0.open_ (q0.later p0) q0;have m0:=i0.place 6;have a0:=e0.trans (t0a.of_below p0);obtain⟨ga,c0,rfl,rfl,rfl,f0⟩:=Ra.pad (by omega);refine s0a ⟨Z,?_⟩;refine q1a ⟨St.front (A:=[_,_,_,_,_]) (R:=[_,_,_,_]) m0,a0⟩ Z Z Z ?_;refine D1a G5a (vs:=[(0,.slice _ _ _),(1,.slice _ _ _),(2,.slice _ _ _)]) (cs:=[_,_,_]) Z Z Z Z ?_;refine c0a ?_;refine g2a ⟨St.front (A:=[_,_,_,_,_]) (R:=[_,_,_,_]) m0,a0⟩ Z Z Z ?_;refine d0a (kk:=8) (vs:=[_,_,_]) m0 v4a Z Z Z Z Z Z Z ?_;intro H0 n0 s0;have g0:=a0.freshL s0 (fun g hg=>.inl (by rw[List.mem_singleton.1 hg];exact z0));refine s0a ⟨Z,?_⟩;refine p3a ⟨St.front (A:=[_,_,_,_,_]) (R:=[_,_,_,_]) n0,g0⟩ ?_;refine fP0 Z U ⟨Z,(Gm),(x0),(_),(_),(_),(ga),(c0),(gb),(g9),(by simpa using Rm),(f0),n0,Z⟩
  refine g2a ⟨St.front (A:=[_,_,_,_,_]) (R:=[_,_,_,_]) u0,D0⟩ Z Z Z ?_;refine g0a u0 k6a Z Z ?_;intro g9 w9 E0 X9 G9;have S9:=E0.place 8;have z0:=Nat.le_trans D0.size G9;have r0:=D0.trans X9;refine s0a ⟨Z,?_⟩;refine Y4a ?_ ?_
  ·refine g2a ⟨St.front (A:=[_,_,_,_,_]) (R:=[_,_,_,_]) S9,r0⟩ Z Z Z ?_;refine p1a c5b Z Z (p5a c.mem c.mem s.set M _ _ _ _ (y0.keep (S9.keep0 M)) (y0.keep (S9.keep0 M)) (RdS.keepW v0 (S9.keep0 M) (N0a.keep (S9.keep0 M))) (fun a ha=>(O0 a ha).1) (fun a ha=>(O0 a ha).2)) ?_;rintro g1 i1 ⟨C0,G0⟩;obtain⟨Gm,x0,Rm,B0⟩:=C0.open_ (S9.later G0) S9;have q0:=B0.place 5;have e0:=r0.trans (t0a.of_below G0);obtain⟨Bm,R0,dm,rfl⟩:=Rm.form;refine s0a ⟨Z,?_⟩;refine Y4a ?_ ?_
   ·refine g2a ⟨St.front (A:=[_,_,_,_,_]) (R:=[_,_,_,_]) q0,e0⟩ Z Z Z ?_;refine p1a S5a Z Z (C2a c.at_ M _ _ (J0.keep (q0.keep0 M))) ?_;rintro P0 Q0 ⟨j0,p0⟩;obtain⟨Ga,N0,Ra,i0⟩:=j0.open_ (q0.later p0) q0;have m0:=i0.place 6;have a0:=e0.trans (t0a.of_below p0);obtain⟨ga,c0,rfl,rfl,rfl,f0⟩:=Ra.pad (by omega);refine s0a ⟨Z,?_⟩;refine g2a ⟨St.front (A:=[_,_,_,_,_]) (R:=[_,_,_,_]) m0,a0⟩ Z Z Z ?_;refine m4a (n:=nt) (c:=nt) m0 y6a Z Z Z Z ?_;intro gb T0 o0 F0 S0;have d0:=o0.place 7;have b0:=a0.trans F0;refine s0a ⟨Z,?_⟩;refine q1a ⟨St.front (A:=[_,_,_,_,_]) (R:=[_,_,_,_]) d0,b0⟩ Z Z Z ?_;refine D1a G5a (vs:=[(0,.slice _ _ _),(1,.slice _ _ _),(2,.slice _ _ _)]) (cs:=[_,_,_]) Z Z Z Z ?_;refine c0a ?_;refine g2a ⟨St.front (A:=[_,_,_,_,_]) (R:=[_,_,_,_]) d0,b0⟩ Z Z Z ?_;refine d0a (kk:=8) (vs:=[_,_,_]) d0 v4a Z Z Z Z Z Z Z ?_;intro H0 n0 s0;have g0:=b0.freshL s0 (fun g hg=>.inl (by rw[List.mem_singleton.1 hg];exact z0));refine s0a ⟨Z,?_⟩;refine p3a ⟨St.front (A:=[_,_,_,_,_]) (R:=[_,_,_,_]) n0,g0⟩ ?_;refine fP0 Z U ⟨Z,(Gm),(x0),(_),(_),(_),(ga),(c0),(gb),(g9),(by simpa using Rm),(f0),n0,Z⟩
   refine g2a ⟨St.front (A:=[_,_,_,_,_]) (R:=[_,_,_,_]) q0,e0⟩ Z Z Z ?_;refine m4a (n:=nt) (c:=nt) q0 y6a Z Z Z Z ?_;intro gb T0 o0 F0 S0;have d0:=o0.place 7;have b0:=e0.trans F0;refine s0a ⟨Z,?_⟩;refine g2a ⟨St.front (A:=[_,_,_,_,_]) (R:=[_,_,_,_]) d0,b0⟩ Z Z Z ?_;refine p1a S5a Z Z (C2a c.at_ M _ _ (J0.keep (d0.keep0 M))) ?_;rintro P0 Q0 ⟨j0,p0⟩;obtain⟨Ga,N0,Ra,i0⟩:=j0.open_ (d0.later p0) d0;have m0:=i0.place 6;have a0:=b0.trans (t0a.of_below p0);obtain⟨ga,c0,rfl,rfl,rfl,f0⟩:=Ra.pad (by omega);refine s0a ⟨Z,?_⟩;refine q1a ⟨St.front (A:=[_,_,_,_,_]) (R:=[_,_,_,_]) m0,a0⟩ Z Z Z ?_;refine D1a G5a (vs:=[(0,.slice _ _ _),(1,.slice _ _ _),(2,.slice _ _ _)]) (cs:=[_,_,_]) Z Z Z Z ?_;refine c0a ?_;refine g2a ⟨St.front (A:=[_,_,_,_,_]) (R:=[_,_,_,_]) m0,a0⟩ Z Z Z ?_;refine d0a (kk:=8) (vs:=[_,_,_]) m0 v4a Z Z Z Z Z Z Z ?_;intro H0 n0 s0;have g0:=a0.freshL s0 (fun g hg=>.inl (by rw[List.mem_singleton.1 hg];exact z0));refine s0a ⟨Z,?_⟩;refine p3a ⟨St.front (A:=[_,_,_,_,_]) (R:=[_,_,_,_]) n0,g0⟩ ?_;refine fP0 Z U ⟨Z,(Gm),(x0),(_),(_),(_),(ga),(c0),(gb),(g9),(by simpa using Rm),(f0),n0,Z⟩
  refine g2a ⟨St.front (A:=[_,_,_,_,_]) (R:=[_,_,_,_]) S9,r0⟩ Z Z Z ?_;refine m4a (n:=nt) (c:=nt) S9 y6a Z Z Z Z ?_;intro gb T0 o0 F0 S0;have d0:=o0.place 7;have b0:=r0.trans F0;refine s0a ⟨Z,?_⟩;refine g2a ⟨St.front (A:=[_,_,_,_,_]) (R:=[_,_,_,_]) d0,b0⟩ Z Z Z ?_;refine p1a c5b Z Z (p5a c.mem c.mem s.set M _ _ _ _ (y0.keep (d0.keep0 M)) (y0.keep (d0.keep0 M)) (RdS.keepW v0 (d0.keep0 M) (N0a.keep (d0.keep0 M))) (fun a ha=>(O0 a ha).1) (fun a ha=>(O0 a ha).2)) ?_;rintro g1 i1 ⟨C0,G0⟩;obtain⟨Gm,x0,Rm,B0⟩:=C0.open_ (d0.later G0) d0;have q0:=B0.place 5;have e0:=b0.trans (t0a.of_below G0);obtain⟨Bm,R0,dm,rfl⟩:=Rm.form;refine s0a ⟨Z,?_⟩;refine g2a ⟨St.front (A:=[_,_,_,_,_]) (R:=[_,_,_,_]) q0,e0⟩ Z Z Z ?_;refine p1a S5a Z Z (C2a c.at_ M _ _ (J0.keep (q0.keep0 M))) ?_;rintro P0 Q0 ⟨j0,p0⟩;obtain⟨Ga,N0,Ra,i0⟩:=j0.open_ (q0.later p0) q0;have m0:=i0.place 6;have a0:=e0.trans (t0a.of_below p0);obtain⟨ga,c0,rfl,rfl,rfl,f0⟩:=Ra.pad (by omega);refine s0a ⟨Z,?_⟩;refine q1a ⟨St.front (A:=[_,_,_,_,_]) (R:=[_,_,_,_]) m0,a0⟩ Z Z Z ?_;refine D1a G5a (vs:=[(0,.slice _ _ _),(1,.slice _ _ _),(2,.slice _ _ _)]) (cs:=[_,_,_]) Z Z Z Z ?_;refine c0a ?_;refine g2a ⟨St.front (A:=[_,_,_,_,_]) (R:=[_,_,_,_]) m0,a0⟩ Z Z Z ?_;refine d0a (kk:=8) (vs:=[_,_,_]) m0 v4a Z Z Z Z Z Z Z ?_;intro H0 n0 s0;have g0:=a0.freshL s0 (fun g hg=>.inl (by rw[List.mem_singleton.1 hg];exact z0));refine s0a ⟨Z,?_⟩;refine p3a ⟨St.front (A:=[_,_,_,_,_]) (R:=[_,_,_,_]) n0,g0⟩ ?_;refine fP0 Z U ⟨Z,(Gm),(x0),(_),(_),(_),(ga),(c0),(gb),(g9),(by simpa using Rm),(f0),n0,Z⟩
 rintro D ε w ⟨rfl,Gm,x0,Bm,R0,dm,ga,c0,gb,g9,Rm,f0,S,eZ⟩;refine wK eZ (wO S.k [.o 8,.o 2,.o 0] Z ⟨Z,Z,Z,U⟩ ?_);refine Q0a R0a.slT Z (by rfl) Z Z ?_
 first|refine j1a (kk:=6) S P1d Z Z Z (by(simp;omega)) ?_
 intro U1 I0 I1;refine lCn 2 I0.k [] Z U (wX (fun D ε w=>D=[]∧St [] w0 w [(some g8,60,[.int .i64 s.kind,.int .i64 s.frm,.int .i64 s.to,.int .i64 s.guard.op,.int .i64 s.guard.w,.int .i64 s.guard.n,.slice U0 a1 W0,.slice V0 b1 X0,.bool s.release,.int .i64 s.target,.int .i64 s.module_]),(some g6,50,[.slice none 0 0,.slice none 0 0,.slice none 0 0]),(some g5,57,[.int .i64 t,.int .i64 i,.int .i64 0]),(some g4,50,[.slice Xm xm ym,.slice Xa xa ya,.slice Xb xb yb]),(some g3,27,[.slice Ac nc cc,.slice Am nm cm,.slice Al nl cl,.slice At nt ct]),(Gm,3,x0),(some ga,3,(atC c t s).map (Value.int .i64)++c0),(some gb,191,List.replicate nt (.slice none 0 0)),(some g9,50,[.slice Bm R0 dm,.slice (some ⟨ga,0,none⟩) c.at_.length (c.at_.length+c0.length),.slice (some ⟨gb,0,none⟩) nt nt])]∧Sl ε [(6,.pointer (some ⟨g6,0,none⟩)),(9,.pointer (some ⟨g9,0,none⟩))]) ?_ ?_)
 ·refine wB I0.k [.o 0] Z ⟨Z,U⟩ (fun p1=>?_) fun p1=>?_
  ·have q6:=P1 (by omega);refine lO I0.k [.o 8,.o 0] Z ⟨Z,Z,U⟩ (Q0a R0a.slT Z (by rfl) Z Z ?_)
   first|refine j1a (kk:=6) I0 P1d Z Z Z (by(simp;omega)) ?_
   intro V1 m1 J1;refine lP0 Z U ?_;have SF:=m1.setEnt 6 Z (show _=(atC c t s).map (Value.int .i64)++c0 by exact o0d p1 (by omega) (by omega) (by simp) (by simp));exact⟨Z,SF,Z⟩
  refine lP0 Z U ?_;have SF:=I0.setEnt 6 Z (show _=(atC c t s).map (Value.int .i64)++c0 by exact k2d p1 (by omega) (by simp));exact⟨Z,SF,Z⟩
 rintro D ε w ⟨rfl,S,eZ⟩;refine wK eZ (wO S.k [.w 8] Z ⟨⟨Z,by rfl⟩,U⟩ ?_)
 first|refine d0a (kk:=1) (vs:=[_,_,_]) S v4a Z Z Z Z Z Z Z ?_
 intro G1 t0 D1;dsimp only[i0a,List.set] at t0;refine lR0 Z U ?_;rw[C4d he K0 Z0];refine i2a (n:=3) Z e5a Z (t0.cells 1 Z) Z Z ⟨⟨_,Z,_,_,_,Z,Rm.rdI t0 (k:=5) Z hM (H9c hp x1.mem) (by simp;omega),?_,?_⟩,t0.fin⟩
 ·have:=(u4a.ofPad (g:=ga) (l:=atC c t s) (pad:=c0) (by rw[t1];exact f0)).rdI t0 (k:=6) Z hM (u3d hp x1) (by rw[t1];omega);rw[t1] at this;exact this
 ·exact t0.rdBufs 7 Z (Q2a hM (t0.new 7 Z)) (show _=c.buf.length by omega) bt he
theorem i6b{a b:Int}(hb:0<b:=by omega):∃k:Nat,a % b=k∧(k:Int)<b:=by
 have h0:=Int.emod_nonneg a (show b≠0 by omega);have h1:=Int.emod_lt_of_pos a hb;obtain⟨k,hk⟩:=Int.eq_ofNat_of_zero_le h0;exact⟨k,hk,by omega⟩
theorem InP.ownL{p:j0a}{w0 w:World}{cs:List Value}{L:List Ent}{l:List Nat}(h:InP p [] w0 cs)(S:St [] w0 w L)(hl:∀g∈l,∃(k t:Nat) (c:List Value),L[k]?=some (some g,t,c)):InP p l w cs:=by
 have h1:∀g∈l,g∈([]:List Nat)∨w0.heap.size≤g:=fun g hg=>by
  obtain⟨k,t,c,hk⟩:=hl g hg;exact .inr (by simpa using S.new k hk)
 exact⟨(h.rd.more h1).keep (S.keep0 _),h.ok,(h.msk.more h1).keep (S.keep0 _),fun g hg=>by
  obtain⟨k,t,c,hk⟩:=hl g hg;exact S.lt k hk⟩
theorem u1c(p:j0a)(r0:Nat)(g0:List Int)(w0:World)(cs:List Value)(vp:Value)(hI:InP p [] w0 cs)(t0:B4d [] w0 vp g0):
 C0a prog 26 #[.agg cs.toArray,vp,.int .i64 r0] w0 fun v w'=>(∃c ys,v=.agg ys.toArray∧C1a [] w' c ys∧Go.Fw.Good p 0 c)∧Below w0.heap.size w0 w':=by
 obtain⟨Ac,nc,cc,Am,nm,cm,Al,nl,cl,At,nt,ct,rfl,_⟩:=hI.rd.open_;obtain⟨Ar,nr,cr,rfl⟩:=t0.form;obtain⟨_,_⟩:=t0.len;have S:=St.refl w0;refine a0a func26 Z ntmps26 Z ?_;refine wO0 Z U (o0a S Z ?_);intro g3 w3 S3 X3 G3;refine g0a S3 k6a Z Z ?_;intro g6 w6 S6 X6 G6;refine lO S6.k [.w 1] Z ⟨⟨Z,Z⟩,U⟩ ?_;refine n0a S6 r3d Z Z (k0c p [g6] _ _ (hI.ownL S6 (fun g hg=>by rw[List.mem_singleton.1 hg];exact⟨0,_,_,Z⟩))) ?_;rintro X0 S0 ⟨_,rfl,hX⟩ H0 W0;have KX:=t0a.refl [] S0;obtain⟨Ua,ua,va,Ub,ub,vb,Uc,uc,vc,rfl,-⟩:=hX.open_;refine g0a H0 k6a Z Z ?_;intro g7 w7 S7 X7 G7;have n0:=Nat.le_trans KX.size G7;replace KX:=KX.trans X7;refine d0a (kk:=0) (vs:=[_,_,_]) S7 v4a Z Z Z Z Z Z Z ?_;intro T0 o0 u0;dsimp only[i0a,List.set] at o0;replace KX:=KX.fresh u0 (by first|exact n0);refine lC0 Z U ?_;refine wL (fun μi D ε w=>D=[]∧∃i:Nat,∃c:V0a,∃ys:List Value,(i+μi=(g0.length))∧(Go.Fw.Good p 0 c)∧(C1a [g7,g6] w c ys)∧St [] w0 w [(some g7,50,ys),(some g6,50,[.slice none 0 0,.slice none 0 0,.slice none 0 0]),(some g3,27,[.slice Ac nc cc,.slice Am nm cm,.slice Al nl cl,.slice At nt ct])]∧Sl ε [(1,.slice Ar nr cr),(2,.int .i64 r0),(3,.pointer (some ⟨g3,0,none⟩)),(6,.pointer (some ⟨g6,0,none⟩)),(7,.pointer (some ⟨g7,0,none⟩)),(8,.int .i64 i)]) (μ:=(g0.length)) ⟨Z,0,P1a p,_,by omega,p0c hI.ok,(hX.more (fun g (hg:g∈[g7,g6])=>by rcases List.mem_cons.1 hg with rfl|hg;exact .inr n0;exact .inl hg)).keep KX.of_nil,o0,Z⟩ ?_;rintro μi D ε w ⟨rfl,i,c,ys,_,hg,hY,S,eZ⟩;refine wK eZ ?_;obtain⟨Ua,ua,va,Ub,ub,vb,Uc,uc,vc,rfl,-⟩:=hY.open_;have KI:=t0a.refl [g7,g6] w;refine wB0 Z U (fun J0=>?_) fun J0=>?_
 ·refine lB0 Z U (fun K0=>?_) fun K0=>?_
  ·refine lO S.k [.w 2,.w 0] Z ⟨⟨Z,by rfl⟩,⟨Z,Z⟩,U⟩ ?_;refine n0a S R0c Z Z (B4a p c [] [g7] _ _ _ (hI.keep (S.keep0 [])) ((hY.keep KI).less (by simp)) hg.1 (hg.2 Z) (fun g hg=>by rw[List.mem_singleton.1 hg];exact S.lt 0 Z)) ?_;rintro v25 C0 hE s0 I0;replace KI:=KI.trans (I0.of_nil);obtain⟨_,ne,_,rfl⟩:=hE.form;obtain⟨_,-,-⟩:=hE.len;refine lB0 Z U (fun L0=>?_) fun L0=>?_
   ·refine lO s0.k [.w 0] Z ⟨⟨Z,by rfl⟩,U⟩ ?_
    first|refine d0a (kk:=1) (vs:=[_,_,_]) s0 v4a Z Z Z Z Z Z Z ?_
    intro V0 j0 v0;dsimp only[i0a,List.set] at j0;replace KI:=KI.fresh2 v0 (by exact .inr (by simp));refine lR0 Z U ?_
    first
     | exact v0a (n:=3) Z e5a Z (j0.cells 1 Z) Z ⟨⟨c,_,Z,(hY.keep KI).less (by simp),hg⟩,j0.fin⟩
   obtain⟨pk,_,_,_,B0,_,_,_,_,P0⟩:=RdS.get t0 i (by omega);obtain⟨-,_⟩:=id P0;obtain⟨k,hk,_⟩:=i6b (a:=pk) (b:=(ne:Int));obtain⟨x,_,_,_,R0,_,N0,_,O0,Q0⟩:=RdS.get hE k (by omega);obtain⟨rfl,_⟩:=id Q0;have q0:=e0a R0;refine lC0 Z U (m2b b0a (fun i=>[0,2,3,4,5,6,7,8,9,10,11,12,14,15,16].contains i) (.op 0 (.op 2 (.op 3 (.op 4 (.op 5 (.op 6 (.op 7 (.op 8 (.op 9 (.op 10 (.op 11 (.op 12 (.op 1 (.op 13 (.op 14 (.op 15 (.op 16 (.op 17 .nil)))))))))))))))))) (clE s0 0 [g7]) ?_);have a0:=s0.drew;have x0:t0a [] C0 C0.drew:=P2a _ _;generalize C0.drew=Z0 at a0 x0 ⊢;have d0:t0a ([g7]) _ _:=x0.of_nil;replace KI:=KI.trans x0.of_nil;refine q1a ⟨St.er (a0) 0,d0⟩ Z Z Z ?_;refine H1a z3a Z (fun w1 hw=>hw.1.cells 1 Z) Z Z ?_;refine c0a ?_;refine q1a ⟨St.er (a0) 0,d0⟩ Z Z Z ?_;refine M0a (hv:=Z) (v:=.slice _ _ _) Z ?_;refine c0a ?_;refine q1a ⟨St.er (a0) 0,d0⟩ Z Z Z ?_;refine M0a (hv:=Z) (v:=.slice _ _ _) Z ?_;refine c0a ?_;refine q1a ⟨St.er (a0) 0,d0⟩ Z Z Z ?_;refine M0a (hv:=Z) (v:=.int .i64 _) Z ?_;refine c0a ?_;refine q1a ⟨St.er (a0) 0,d0⟩ Z Z Z ?_;obtain⟨_,_,_,_,A0,_,_,_,y0,z0⟩:=RdS.get (t0) (i) (by omega);obtain rfl:=Option.some.inj (B0.symm.trans A0);obtain⟨rfl,_⟩:=z0;refine u0a n8b.slT Z (by assumption) Z Z ?_;refine c0a ?_;refine q1a ⟨St.er (a0) 0,d0⟩ Z Z Z ?_;refine k0a b1d Z (fun w1 hw=>by exact hw.1.old (y0 0 _ Z)) Z ?_;refine c0a ?_;refine q1a ⟨St.er (a0) 0,d0⟩ Z Z Z ?_;refine t4c Tryz.underlying5 Tryz.underlying3 Z Z ?_;rw[f4a (by unfold i64;omega)];refine c0a ?_;refine q1a ⟨St.er (a0) 0,d0⟩ Z Z Z ?_;refine M0a (hv:=Z) (v:=.slice _ _ _) Z ?_;refine c0a ?_;refine q1a ⟨St.er (a0) 0,d0⟩ Z Z Z ?_;refine b0d X4a.slT Z Z ?_;refine c0a ?_;refine q1a ⟨St.er (a0) 0,d0⟩ Z Z Z ?_;refine g2d Z Z Z ?_;rw[hk];refine c0a ?_;refine q1a ⟨St.er (a0) 0,d0⟩ Z Z Z ?_;refine u0a X4a.slT Z (by assumption) Z Z ?_;refine c0a ?_;refine q1a ⟨St.er (a0) 0,d0⟩ Z Z Z ?_;refine H1a f0b Z (fun w1 hw=>O0.keep hw.2 N0) Z Z ?_;refine c0a ?_;refine g2a ⟨St.er (a0) 0,d0⟩ Z Z Z ?_;refine b3a e5a Z (a0.cells 0 Z) Z Z ?_;refine s0a ⟨Z,?_⟩;refine g2a ⟨St.er (a0) 0,d0⟩ Z Z Z ?_;refine n0a a0 J8b Z Z (a8a p c x [g7,g6] _ _ _ (hI.ownL a0 (fun g hg=>by simp only[List.mem_cons,List.not_mem_nil,or_false] at hg;rcases hg with rfl|rfl;exact⟨0,_,_,Z⟩;exact⟨1,_,_,Z⟩)) (hY.keep KI) hg.1 (hg.2 Z) q0) ?_;rintro Y0 U0 ⟨_,rfl,F0⟩ p0 E0;have b0:=d0.trans (E0.mono (by simp));replace KI:=KI.trans (E0.of_nil);have KN:=t0a.refl [g7,g6] U0;obtain⟨_,_,_,_,_,_,_,_,_,rfl,-⟩:=F0.open_;refine s0a ⟨Z,?_⟩;refine q1a ⟨St.er (p0) 0,b0⟩ Z Z Z ?_;refine M0a (hv:=Z) (v:=.tuple _) Z ?_;refine c0a ?_;refine q1a ⟨St.er (p0) 0,b0⟩ Z Z Z ?_;refine W1a Z Z Z ?_;refine c0a ?_;refine q1a ⟨St.er (p0) 0,b0⟩ Z Z Z ?_;refine W1a Z Z Z ?_;refine c0a ?_;refine g2a ⟨St.er (p0) 0,b0⟩ Z Z Z ?_
   first|refine d0a (kk:=0) (vs:=[_,_,_]) p0 v4a Z Z Z Z Z Z Z ?_
   intro G0 e0 f0;dsimp only[i0a,List.set] at e0;have i0:=b0.trans (f0.mono (by simp));replace KI:=KI.fresh2 f0 (by exact .inr (by simp));replace KN:=KN.fresh2 f0 (by exact .inr (by simp));refine s0a ⟨Z,?_⟩;refine p3a ⟨St.er (e0) 0,i0⟩ ?_;refine fP0 Z ⟨by omega,U⟩ ⟨μi-1,by omega,Z,(i+1),(doC p 0 c x),(_),(by omega),(P3c hI.ok hg q0),(F0.keep KN),e0,Z⟩
  refine lO S.k [.w 0] Z ⟨⟨Z,by rfl⟩,U⟩ ?_
  first|refine d0a (kk:=1) (vs:=[_,_,_]) S v4a Z Z Z Z Z Z Z ?_
  intro D0 c0 m0;dsimp only[i0a,List.set] at c0;replace KI:=KI.fresh2 m0 (by exact .inr (by simp));refine lR0 Z U ?_
  first
   | exact v0a (n:=3) Z e5a Z (c0.cells 1 Z) Z ⟨⟨c,_,Z,(hY.keep KI).less (by simp),hg⟩,c0.fin⟩
 refine lO S.k [.w 0] Z ⟨⟨Z,by rfl⟩,U⟩ ?_
 first|refine d0a (kk:=1) (vs:=[_,_,_]) S v4a Z Z Z Z Z Z Z ?_
 intro D0 c0 m0;dsimp only[i0a,List.set] at c0;replace KI:=KI.fresh2 m0 (by exact .inr (by simp));refine lR0 Z U ?_
 first
  | exact v0a (n:=3) Z e5a Z (c0.cells 1 Z) Z ⟨⟨c,_,Z,(hY.keep KI).less (by simp),hg⟩,c0.fin⟩
def bV(bs:List Bool):List Value:=bs.map Value.bool
theorem W3d(bs:List Bool)(i:Nat):(bV bs).set i (.bool true)=bV (bs.set i true):=by simp[bV,List.map_set]
theorem D3d(bs:List Bool):(bV bs).length=bs.length:=by simp[bV]
theorem i5d{w:World}{g t:Nat}{bs:List Bool}{M:List Nat}(hb:p0a w (g,t,bV bs))(hg:g∉M)(hl:bs.length≤1000):RdB M w (.slice (some ⟨g,0,none⟩) bs.length bs.length) bs:=by
 refine⟨_,_,_,Z,Z,Nat.le_refl _,by unfold maxLen;omega,by omega,fun _=>⟨g,0,Z,hg,fun i x hi=>⟨[.bool x],Z,fun j v hj=>?_,Z⟩⟩⟩;cases j with
 | succ j=>simp at hj
 | zero =>
   simp at hj;subst hj;exact hb.cell (by unfold bV;rw[List.getElem?_map,show 0+i*1+0=i by omega,hi];rfl)
def w5b(p:j0a)(t k j:Nat)(bs:List Bool):Prop:=bs.length=p.modules.length∧∀m:Nat,m<p.modules.length→(bs.getD m false=true↔p8a p t k j (m:Int))
theorem w5b.zero{p:j0a}{t:Nat}:w5b p t 0 0 (List.replicate p.modules.length false):=by
 refine⟨by simp,fun m hm=>?_⟩;rw[List.getD_eq_getElem?_getD,List.getElem?_replicate,if_pos hm];exact⟨fun h=>(by cases h),fun h=>absurd h p8a.zero⟩
theorem w5b.step{p:j0a}{t k j:Nat}{bs:List Bool}{th:Y0a}{s:E1a}(h:w5b p t k j bs)(ht:p.threads[k]?=some th)(hs:th.steps[j]?=some s)(hm:0≤s.module_∧s.module_<p.modules.length):w5b p t k (j+1) (bs.set s.module_.toNat true):=by
 refine⟨by rw[List.length_set];exact h.1,fun m a0=>?_⟩;rw[p8a.step ht hs,←h.2 m a0];by_cases he:s.module_.toNat=m
 ·rw[List.getD_eq_getElem?_getD,he,List.getElem?_set_self (by rw[h.1];exact a0)];exact⟨fun _=>.inr (by omega),fun _=>rfl⟩
 ·rw[List.getD_eq_getElem?_getD,List.getElem?_set_ne he,←List.getD_eq_getElem?_getD];exact⟨.inl,fun hh=>hh.elim id fun hh=>absurd hh (by omega)⟩
theorem w5b.next{p:j0a}{t k:Nat}{bs:List Bool}{th:Y0a}(h:w5b p t k th.steps.length bs)(ht:p.threads[k]?=some th)(hk:k≠t):w5b p t (k+1) 0 bs :=
 ⟨h.1,fun m hm=>(h.2 m hm).trans (p8a.next ht hk).symm⟩
theorem w5b.skip{p:j0a}{t k:Nat}{bs:List Bool}(h:w5b p t k 0 bs)(hk:k=t):w5b p t (k+1) 0 bs :=
 ⟨h.1,fun m hm=>(h.2 m hm).trans (p8a.skip hk).symm⟩
theorem w5b.oth{p:j0a}{t:Nat}{bs:List Bool}(hp:Z0a p)(h:w5b p t p.threads.length 0 bs):M1a p t=b4a bs:=by
 unfold M1a b4a d2a;rw[h.1]
 congr 1
 apply List.filter_congr;intro m hm;rw[Bool.eq_iff_iff,h.2 m (List.mem_range.1 hm),←n7a hp];unfold M1a;simp only[List.mem_map,List.mem_filter,List.mem_range];constructor
 ·intro hh;exact⟨m,⟨List.mem_range.1 hm,hh⟩,Z⟩
 ·rintro⟨a,⟨_,ha⟩,he⟩;have:a=m:=by exact Int.ofNat_inj.1 he
  subst this;exact ha
theorem R9b(p:j0a)(t:Nat)(M:List Nat)(w0:World)(cs:List Value)(hI:InP p M w0 cs)(ht:t<1000):
 C0a prog 42 #[.agg cs.toArray,.int .i64 t,.bool false] w0 fun v w'=>(∃bs,w5b p t p.threads.length 0 bs∧∀M,(∀g∈M,g<w0.heap.size)→RdB M w' v bs)∧Below w0.heap.size w0 w':=by
 obtain⟨Ac,nc,cc,Am,nm,cm,Al,nl,cl,At,nt,ct,rfl,_,_,_,x0,_,z0,_⟩:=hI.rd.open_;have hM:=hI.lt;have hp:=hI.ok;have n2:=hp.nthreads;have n3:=hp.nmodules;have S:=St.refl w0;refine a0a func42 Z ntmps42 Z ?_;refine wO0 Z U (o0a S Z ?_);intro g3 w3 S3 X3 G3;refine lO S3.k [.o 0] Z ⟨Z,U⟩ (m4a (n:=nm) (c:=nm) S3 a9a Z Z Z Z ?_);intro e0 Q0 C0 O0 N0;have u0:List.replicate nm (Value.bool false)=bV (List.replicate p.modules.length false):=by rw[bV,List.map_replicate,←z0]
 have c0:=C0;rw[u0] at c0;refine lC0 Z U (wL (fun μk D ε w=>D=[]∧∃k:Nat,∃bs:List Bool,(k+μk=(p.threads.length))∧(w5b p t k 0 bs)∧St [] w0 w [(some e0,4,bV bs),(some g3,27,[.slice Ac nc cc,.slice Am nm cm,.slice Al nl cl,.slice At nt ct])]∧Sl ε [(1,.int .i64 t),(2,.bool false),(3,.pointer (some ⟨g3,0,none⟩)),(7,.slice (some ⟨e0,0,none⟩) nm nm),(8,.int .i64 k)]) (μ:=(p.threads.length)) ⟨Z,0,List.replicate p.modules.length false,by omega,w5b.zero,c0,Z⟩ ?_);rintro μk D ε w ⟨rfl,k,bs,_,hS,S,eZ⟩;refine wK eZ (wB S.k [.o 1] Z ⟨Z,U⟩ (fun G0=>?_) fun G0=>?_)
 ·obtain⟨th,a0⟩:∃th,p.threads[k]?=some th:=⟨p.threads[k]'(by omega),List.getElem?_eq_getElem _⟩;have P0:=(hp.thread a0).nsteps;refine lC0 Z U (wL (fun μ D ε w=>D=[]∧∃j:Nat,∃bs:List Bool,(w5b p t k j bs)∧(j+μ=1000)∧(j≤th.steps.length)∧(k=t→j=0)∧St [] w0 w [(some e0,4,bV bs),(some g3,27,[.slice Ac nc cc,.slice Am nm cm,.slice Al nl cl,.slice At nt ct])]∧Sl ε [(1,.int .i64 t),(2,.bool false),(3,.pointer (some ⟨g3,0,none⟩)),(7,.slice (some ⟨e0,0,none⟩) nm nm),(8,.int .i64 k),(9,.int .i64 j)]) (μ:=1000) ⟨Z,0,bs,hS,Z,Nat.zero_le _,(fun _=>rfl),S,Z⟩ ?_);rintro μ D ε w ⟨rfl,j,bs,hS,_,_,y0,S,eZ⟩;refine wK eZ ?_;obtain⟨_,D0,J0,_,s0,f0,_,_,j0,p0⟩:=RdS.get (x0) (k) (by omega);obtain rfl:=Option.some.inj (a0.symm.trans s0);obtain⟨_,_,_,_,_,_,_,_,_,_,_,_,rfl,_⟩:=S0a.open_ p0;refine wB (S.k.a j0) [.o 1,.x D0 J0,.f 0 4] Z ⟨Z,⟨f0,by omega⟩,Z,U⟩ (fun H0=>?_) fun H0=>?_
  ·refine lB0 Z U (fun I0=>?_) fun I0=>?_
   ·refine lP0 Z ⟨by omega,U⟩ ⟨μk-1,by omega,Z,(k+1),(_),(by omega),?_,S,Z⟩;by_cases h:k=t
    ·obtain rfl:j=0:=y0 h;exact hS.skip h
    ·obtain rfl:j=th.steps.length:=by omega
     exact hS.next a0 h
   obtain⟨_,E0,K0,_,t0,g0,_,_,m0,q0⟩:=RdS.get (x0) (k) (by omega);obtain rfl:=Option.some.inj (a0.symm.trans t0);obtain⟨_,_,_,_,_,_,_,_,_,_,_,_,rfl,_,_,_,d0,_⟩:=S0a.open_ q0;obtain⟨s,F0,L0,_,A0,i0,_,_,n0,r0⟩:=RdS.get (d0) (j) (by omega);obtain⟨_,_,_,_,_,_,rfl,⟨_,_⟩,_⟩:=f2a.open_ r0;have o0:0≤s.module_∧s.module_<p.modules.length:=((hp.thread a0).steps s (e0a A0)).mod;refine lO ((S.k.a n0).a m0) [.o 1,.x E0 K0,.f 0 4,.x F0 L0,.f 1 10,.i] Z ⟨by omega,Z,⟨i0,by omega⟩,Z,⟨g0,by omega⟩,Z,U⟩ ?_;refine j1a (hy:=Z) (kk:=0) (v:=.bool true) S D4c Z Z Z (by rw[D3d,hS.1];omega) ?_;intro B0 b0 v0;rw[show 0+s.module_.toNat*1=s.module_.toNat by omega,W3d] at b0;dsimp only[List.set] at b0;refine lP0 Z ⟨by omega,U⟩ ⟨μ-1,by omega,Z,(j+1),(_),(hS.step a0 A0 o0),(by omega),((by omega)),((fun h=>by omega)),b0,Z⟩
  refine lP0 Z ⟨by omega,U⟩ ⟨μk-1,by omega,Z,(k+1),(_),(by omega),?_,S,Z⟩;by_cases h:k=t
  ·obtain rfl:j=0:=y0 h;exact hS.skip h
  ·obtain rfl:j=th.steps.length:=by omega
   exact hS.next a0 h
 refine lR0 Z U (r0a Z ?_);have hl:=hS.1;exact⟨⟨bs,(show k=p.threads.length by omega)▸hS,fun M hM=>by
  have:=i5d (M:=M) (S.blk 0 Z) (fun hm=>by have h1:=hM _ hm;have h2:=S.new 0 Z;simp at h2;omega) (by omega);rw[hl,←z0] at this;exact this⟩,S.fin⟩
theorem G6b{p:j0a}{t:Int}{f:List Int}{k:Nat}{c:k1a}(h:p.cells[k]?=some c):I0c f (c6b p t (k+1))=if c.thread=t∧(k:Int)∉f then I0c f (c6b p t k)++[(k:Int)] else I0c f (c6b p t k):=by
 rw[f6a h];by_cases h1:c.thread=t
 ·rw[if_pos h1];unfold I0c;rw[List.filter_append];by_cases h2:(k:Int)∈f<;>simp[h1,h2]
 ·rw[if_neg h1,if_neg (fun h=>h1 h.1)]
theorem L4b(p:j0a)(m:Nat)(md:A2a)(a0:p.modules[m]?=some md)(M:List Nat)(w0:World)(cs:List Value)(hI:InP p M w0 cs):
 C0a prog 17 #[.agg cs.toArray,.int .i64 m] w0 fun v w'=>(∃cs:List Value,v=.agg cs.toArray∧RdE M w' (X2a p m) cs)∧Below w0.heap.size w0 w':=by
 obtain⟨Ac,nc,cc,Am,nm,cm,Al,nl,cl,At,nt,ct,rfl,hC,H0,_⟩:=hI.rd.open_;have hM:=hI.lt;have hp:=hI.ok;have n1:=hp.ncells;have n3:=hp.nmodules;have r1:=K3a a0;have s1:=hp.modules md (e0a a0);have y0:(N3b p md).length≤100000:=by
  have:=c8a md.frame (ofL p (-1));have:=q4a p (-1) p.cells.length;unfold N3b ofL at *;simp;omega
 have S:=St.refl w0;refine a0a func17 Z ntmps17 Z ?_;refine wO0 Z U (o0a S Z ?_);intro g2 w2 S2 X2 G2;refine g0a S2 j2a Z Z ?_;intro g4 w4 S4 X4 G4;refine lO S4.k [.w 1] Z ⟨⟨Z,Z⟩,U⟩ (h0a S4 u2b Z Z (K4a p M _ _ (hI.keep (S4.keep0 M))) ?_);intro w8 S8 X8;refine lB0 Z U (fun V0=>by exfalso;omega) fun V0=>?_;refine lB S8.k [.o 1] Z ⟨Z,U⟩ (fun W0=>by exfalso;omega) fun W0=>?_;obtain⟨_,Q0,a1,_,C0,o0,_,_,u0,z0⟩:=RdS.get (H0) (m) (by omega);obtain rfl:=Option.some.inj (a0.symm.trans C0);obtain⟨_,_,_,_,_,_,_,_,_,rfl,_,s0,_⟩:=h1a.open_ z0;refine lO (S8.k.a u0) [.o 1,.x Q0 a1,.f 0 6] Z ⟨Z,⟨o0,by omega⟩,Z,U⟩ ?_;have d1:=RdE.keep (S8.keep0 _) _ _ (RdE.more (d4a S8 (k:=0) Z) _ _ s0);refine m0a S8 T0a (vs:=[.agg _]) (cs:=[_,_,_,_]) Z Z Z Z Z Z ?_;intro U0 w1 J0 O0 I0;refine A0a Z ?_;have e0:=P9a (d1.addNew O0 I0);refine lC0 Z U (wL (fun μk D ε w=>D=[]∧∃k:Nat,∃G:Option Nat,∃cs2:List Value,∃v:Value,(k+μk=(p.cells.length))∧(h2b (g4::M) w G cs2 v (md.guar::(I0c md.frame (c6b p (-1) k)).map (X3a p)))∧St [] w0 w [(G,37,cs2),(some g4,37,[.int .i64 0,.int .i64 0,.int .i64 0,.slice none 0 0]),(some g2,27,[.slice Ac nc cc,.slice Am nm cm,.slice Al nl cl,.slice At nt ct])]∧Sl ε [(1,.int .i64 m),(2,.pointer (some ⟨g2,0,none⟩)),(4,.pointer (some ⟨g4,0,none⟩)),(5,v),(6,.int .i64 k)]) (μ:=(p.cells.length)) ⟨Z,0,some U0,_,_,by omega,e0,J0,Z⟩ ?_);rintro μk D ε w ⟨rfl,k,G,cs2,v,_,c0,S,eZ⟩;refine wK eZ ?_;have KQ:=t0a.refl (G.toList++g4::M) w;refine wB S.k [.o 2] Z ⟨Z,U⟩ (fun X0=>?_) fun X0=>?_
 ·obtain⟨y,R0,b1,_,E0,p0,_,_,v0,A0⟩:=RdS.get (hC) (k) (by omega);obtain⟨rfl,_⟩:=J2a.open_ A0;refine lB (S.k.a v0) [.o 2,.x R0 b1,.f 0 3] Z ⟨Z,⟨p0,by omega⟩,Z,U⟩ (fun Y0=>?_) fun Y0=>?_
  ·obtain⟨_,S0,c1,_,D0,q0,_,_,x0,B0⟩:=RdS.get (H0) (m) (by omega);obtain rfl:=Option.some.inj (a0.symm.trans D0);obtain⟨_,_,_,_,_,_,_,_,_,rfl,_,_,r0,_⟩:=h1a.open_ B0;refine lO (S.k.a x0) [.o 2,.x S0 c1,.f 0 10] Z ⟨Z,⟨q0,by omega⟩,Z,U⟩ (y0a S D8b Z Z (U9a M _ _ md.frame k (r0.keep (S.keep0 M))) (fun Z0 f1 b0 m0=>?_) (fun Z0 f1 b0 m0=>?_))
   ·replace KQ:=KQ.trans (m0.of_nil);refine lP0 Z ⟨by omega,U⟩ ⟨μk-1,by omega,Z,(k+1),(_),(_),(_),(by omega),?_,b0,Z⟩;rw[G6b E0];have h9:(k:Int)∈md.frame:=of_decide_eq_true (by assumption);rw[if_neg (fun h=>h.2 h9)];exact c0.keep KQ
   replace KQ:=KQ.trans (m0.of_nil);refine lOn 6 b0.k [] Z U (H0a Z ?_);refine lO b0.k [.w 2] Z ⟨⟨Z,Z⟩,U⟩ (n0a b0 g7c Z Z (W6a p k (G.toList++g4::M) _ _ ⟨(hI.rd.more (fun x hx=>F4a b0 x (o4b 0 Z (q4b 1 Z) x hx))).keep (b0.keep0 _),hp,(hI.msk.more (fun x hx=>F4a b0 x (o4b 0 Z (q4b 1 Z) x hx))).keep (b0.keep0 _),fun x hx=>M7a b0 hM x (o4b 0 Z (q4b 1 Z) x hx)⟩) ?_);rintro t1 x1 ⟨_,rfl,i0⟩ K0 P0;replace KQ:=KQ.trans (P0.of_nil);obtain⟨_,_,_,rfl,-⟩:=i0.open_;refine m0a K0 T0a (vs:=[.agg _]) (cs:=[_,_,_,_]) Z Z Z Z Z Z ?_;intro q1 y1 F0 G0 j1;replace i0:=RdE.keep (G0.of_nil) _ _ i0;replace KQ:=KQ.trans (G0.of_nil);have g0:=c0.keep KQ;refine i1a N3a (k:=1) (M2:=g4::M) (e1:=X3a p k) F0 T0a Z g0 Z Z (F0.cells 0 Z) i0 (by have:=c8a md.frame (c6b p (-1) k);have:=q4a p (-1) k;simp;omega) Z ?_;intro u1 m1 T0 z1 L0 f0 o1 i1;refine A0a Z ?_;refine lP0 Z ⟨by omega,U⟩ ⟨μk-1,by omega,Z,(k+1),(_),(_),(_),(by omega),?_,L0.tail,Z⟩;rw[G6b E0];have h9:y.thread=-1∧(k:Int)∉md.frame:=⟨by omega,of_decide_eq_false (by assumption)⟩;rw[if_pos h9,List.map_append];exact f0
  refine lP0 Z ⟨by omega,U⟩ ⟨μk-1,by omega,Z,(k+1),(_),(_),(_),(by omega),?_,S,Z⟩;rw[G6b E0];have h9:¬(y.thread=-1∧(k:Int)∉md.frame):=fun h=>by have:=h.1;omega
  rw[if_neg h9];exact c0.keep KQ
 refine lOn 7 S.k [] Z U (H0a Z ?_);have t0:RdL (g4::M) w v (N3b p md):=by
  have hr:=c0;rw[show k=p.cells.length by omega] at hr;exact hr.rdL S (k:=0) Z (fun g hg hh=>by
   subst hg;rcases List.mem_cons.1 hh with hh|hh
   ·exact S.ne 0 1 Z Z (by omega) hh
   ·exact Y5a S (k:=0) Z hM hh) (by have:=c8a md.frame (ofL p (-1));have:=q4a p (-1) p.cells.length;unfold ofL at *;simp;omega)
 refine n0a S Z6c Z Z (b1c (N3b p md) y0 (g4::M) _ _ t0 (B7a S 1 Z hM)) ?_;rintro v1 A1 ⟨_,rfl,j0⟩ N0 p1;obtain⟨_,_,_,rfl,-⟩:=j0.open_;refine d0a (kk:=1) (vs:=[_,_,_,_]) N0 v1a Z Z Z Z Z Z Z ?_;intro g1 d0 n0;dsimp only[i0a,List.set] at d0;replace j0:=RdE.keep (n0.mono (by simp)) _ _ j0;refine lR0 Z U (v0a Z K0a Z (d0.cells 1 Z) Z ⟨⟨_,Z,?_⟩,d0.fin⟩);unfold X2a a2d;rw[show((m:Int).toNat)=m by simp,getD_some a0];exact RdE.less (fun x hx=>List.mem_cons_of_mem _ hx) _ _ j0
theorem P7a(bs:List Bool)(k:Nat)(f:Int→E):(d2a bs (k+1)).map f=(d2a bs k).map f++(if bs.getD k false=true then[f k] else[]):=by
 rw[A3a,List.map_append]
 split<;>rfl
theorem r0d(p:j0a)(t:Nat)(ht:t<p.threads.length)(M:List Nat)(w0:World)(cs:List Value)(hI:InP p M w0 cs):
 C0a prog 19 #[.agg cs.toArray,.int .i64 t] w0 fun v w'=>(∃cs:List Value,v=.agg cs.toArray∧RdE M w' (onE p t) cs)∧Below w0.heap.size w0 w':=by
 obtain⟨Ac,nc,cc,Am,nm,cm,Al,nl,cl,At,nt,ct,rfl,hC,_⟩:=hI.rd.open_;have hM:=hI.lt;have hp:=hI.ok;have n1:=hp.ncells;have n2:=hp.nthreads;have n3:=hp.nmodules;have S:=(St.refl w0).nilEnt 37;refine a0a func19 Z ntmps19 Z ?_;refine wO0 Z U (o0a S Z ?_);intro g2 w2 S2 X2 G2;refine g0a S2 j2a Z Z ?_;intro g4 w4 S4 X4 G4;refine lO S4.k [.w 1] Z ⟨⟨Z,Z⟩,U⟩ (h0a S4 u2b Z Z (K4a p M _ _ (hI.keep (S4.keep0 M))) ?_);intro z1 j0 F1;refine lB0 Z U (fun r1=>by exfalso;omega) fun r1=>?_;refine lB j0.k [.o 1] Z ⟨Z,U⟩ (fun s1=>by exfalso;omega) fun s1=>?_;refine lOn 8 j0.k [] Z U (A0a Z ?_);refine lO j0.k [.w 1] Z ⟨⟨Z,Z⟩,U⟩ ?_;have f1:∀g∈g4::M,g<z1.heap.size:=B7a j0 0 Z hM;refine n0a j0 U2d Z Z (R9b p t M _ _ (hI.keep (j0.keep0 M)) (by omega)) ?_;rintro O1 I0 ⟨bs,hS,C0⟩ T0 G1;have B0:=C0 (g4::M) f1;obtain⟨Ab,nb,cb,rfl⟩:=B0.form;obtain⟨_,-,_⟩:=B0.len;have N1:=hS.1;have F0:=hS.oth hp;have KB:=t0a.refl (g4::M) I0;refine lC0 Z U (wL (fun μk D ε w=>D=[]∧∃k:Nat,∃G:Option Nat,∃cs2:List Value,∃v:Value,(k+μk=(bs.length))∧(h2b (g4::M) w G cs2 v ((d2a bs k).map (X2a p)))∧(∀g∈G.toList,I0.heap.size≤g∨g∈g4::M)∧(t0a (g4::M) I0 w)∧St [] w0 w [(some g4,37,[.int .i64 0,.int .i64 0,.int .i64 0,.slice none 0 0]),(some g2,27,[.slice Ac nc cc,.slice Am nm cm,.slice Al nl cl,.slice At nt ct]),(G,37,cs2)]∧Sl ε [(1,.int .i64 t),(2,.pointer (some ⟨g2,0,none⟩)),(4,.pointer (some ⟨g4,0,none⟩)),(5,v),(6,.slice Ab nb cb),(7,.int .i64 k)]) (μ:=(bs.length)) ⟨Z,0,none,[],.slice none 0 0,by omega,h2b.nil,by simp,KB,T0,Z⟩ ?_);rintro μk D ε w ⟨rfl,k,G,cs2,v,_,d0,E0,KB,S,eZ⟩;refine wK eZ ?_;have KQ:=t0a.refl (G.toList++g4::M) w;refine wB0 Z U (fun t1=>?_) fun t1=>?_
 ·obtain⟨z,i1,x1,m1,w1,x0,_,_,o0,c0⟩:=RdS.get ((B0.keep KB)) (k) (by omega);obtain c0:=c0;obtain rfl:m1=[Value.bool z]:=c0;have hz:bs.getD k false=z:=by rw[List.getD_eq_getElem?_getD,w1];rfl
  refine lO S.k [.x i1 x1] Z ⟨⟨x0,by omega⟩,U⟩ ?_;cases n0:z
  ·refine J0a k3a Z (by exact(o0 0 _ Z).trans (congrArg (fun b=>some (Value.bool b)) n0)) Z ?_;refine lP0 Z ⟨by omega,U⟩ ⟨μk-1,by omega,Z,(k+1),(_),(_),(_),(by omega),?_,?_,(KB),S,Z⟩
   ·rw[P7a,hz];rw[if_neg (by simp[*]),List.append_nil];exact d0.keep KQ
   ·exact E0
  refine J0a k3a Z (by exact(o0 0 _ Z).trans (congrArg (fun b=>some (Value.bool b)) n0)) Z ?_;refine lOn 4 S.k [] Z U (H0a Z ?_);refine lO S.k [.w 1] Z ⟨⟨Z,Z⟩,U⟩ ?_;obtain⟨md,H0⟩:∃md,p.modules[k]?=some md:=⟨p.modules[k]'(by omega),List.getElem?_eq_getElem _⟩;refine n0a S N6c Z Z (L4b p k md H0 (G.toList++g4::M) _ _ ⟨(hI.rd.more (fun x hx=>F4a S x (o4b 2 Z (q4b 0 Z) x hx))).keep (S.keep0 _),hp,(hI.msk.more (fun x hx=>F4a S x (o4b 2 Z (q4b 0 Z) x hx))).keep (S.keep0 _),fun x hx=>M7a S hM x (o4b 2 Z (q4b 0 Z) x hx)⟩) ?_;rintro P1 V1 ⟨_,rfl,r0⟩ U0 L0;replace KB:=KB.trans (L0.of_nil);replace KQ:=KQ.trans (L0.of_nil);obtain⟨_,_,_,rfl,-⟩:=r0.open_;refine m0a U0 T0a (vs:=[.agg _]) (cs:=[_,_,_,_]) Z Z Z Z Z Z ?_;intro K1 W1 J0 u0 B1;replace r0:=RdE.keep (u0.of_nil) _ _ r0;replace KB:=KB.trans (u0.of_nil);replace KQ:=KQ.trans (u0.of_nil);have p0:=d0.keep KQ;refine i1a N3a (k:=3) (M2:=g4::M) (e1:=X2a p k) J0 T0a Z p0 Z Z (J0.cells 0 Z) r0 (by have:=v2a bs k;simp;omega) Z ?_;intro Q1 C1 o1 X1 V0 e0 b1 R0;have g1:=KB.size;replace KB:=KB.freshL b1 E0;refine A0a Z ?_;refine lP0 Z ⟨by omega,U⟩ ⟨μk-1,by omega,Z,(k+1),(_),(_),(_),(by omega),?_,?_,(KB),V0.tail,Z⟩
  ·rw[P7a,hz];rw[if_pos (by assumption)];exact e0
  ·intro g hg;rcases R0 g hg with h|h;exact E0 g h;exact .inl (Nat.le_trans g1 h)
 refine lOn 7 S.k [] Z U (H0a Z ?_);have z0:RdL (g4::M) w v ((M1a p t).map (X2a p)):=by
  have hr:=d0;rw[show k=bs.length by omega,show d2a bs bs.length=M1a p t from F0.symm] at hr;exact hr.rdL S (k:=2) Z (fun g hg hh=>by
   subst hg;rcases List.mem_cons.1 hh with hh|hh
   ·exact S.ne 0 2 Z Z (by omega) hh.symm
   ·exact Y5a S (k:=2) Z hM hh) (by have:=w7a p t;simp;omega)
 refine n0a S D2d Z Z (b4d ((M1a p t).map (X2a p)) (by have:=w7a p t;simp;omega) (g4::M) _ _ z0 (B7a S 0 Z hM)) ?_;rintro v45 Y1 ⟨_,rfl,P0⟩ W0 H1;obtain⟨_,_,_,rfl,-⟩:=P0.open_;refine m0a W0 T0a (vs:=[.agg _]) (cs:=[_,_,_,_]) Z Z Z Z Z Z ?_;intro q1 Z1 X0 c1 S0;refine A0a Z ?_;have f0:=P9a (P0.addNew c1 S0);refine lC0 Z U (wL (fun μj D ε w=>D=[]∧∃j:Nat,∃G2:Option Nat,∃v0:List Value,∃v2:Value,(j+μj=(p.cells.length))∧(h2b (g4::M) w G2 v0 v2 (R6a p t::(c6b p t j).map (X3a p)))∧St [] w0 w [(G2,37,v0),(some g4,37,[.int .i64 0,.int .i64 0,.int .i64 0,.slice none 0 0]),(some g2,27,[.slice Ac nc cc,.slice Am nm cm,.slice Al nl cl,.slice At nt ct]),(G,37,cs2)]∧Sl ε [(1,.int .i64 t),(2,.pointer (some ⟨g2,0,none⟩)),(4,.pointer (some ⟨g4,0,none⟩)),(8,v2),(9,.int .i64 j)]) (μ:=(p.cells.length)) ⟨Z,0,some q1,_,_,by omega,f0,X0,Z⟩ ?_);rintro μj D ε w ⟨rfl,j,G2,v0,v2,_,b0,S,eZ⟩;refine wK eZ ?_;have i0:=t0a.refl (G2.toList++g4::M) w;refine wB S.k [.o 2] Z ⟨Z,U⟩ (fun u1=>?_) fun u1=>?_
 ·obtain⟨y,j1,y1,_,O0,y0,_,_,D0,G0⟩:=RdS.get (hC) (j) (by omega);obtain⟨rfl,_⟩:=J2a.open_ G0;refine lB (S.k.a D0) [.o 2,.x j1 y1,.f 0 3] Z ⟨Z,⟨y0,by omega⟩,Z,U⟩ (fun v1=>?_) fun v1=>?_
  ·refine lOn 4 S.k [] Z U (H0a Z ?_);refine lO S.k [.w 2] Z ⟨⟨Z,Z⟩,U⟩ (n0a S g7c Z Z (W6a p j (G2.toList++g4::M) _ _ ⟨(hI.rd.more (fun x hx=>F4a S x (o4b 0 Z (q4b 1 Z) x hx))).keep (S.keep0 _),hp,(hI.msk.more (fun x hx=>F4a S x (o4b 0 Z (q4b 1 Z) x hx))).keep (S.keep0 _),fun x hx=>M7a S hM x (o4b 0 Z (q4b 1 Z) x hx)⟩) ?_);rintro R1 a2 ⟨_,rfl,s0⟩ Y0 d1;replace i0:=i0.trans (d1.of_nil);obtain⟨_,_,_,rfl,-⟩:=s0.open_;refine m0a Y0 T0a (vs:=[.agg _]) (cs:=[_,_,_,_]) Z Z Z Z Z Z ?_;intro M1 b2 K0 N0 D1;replace s0:=RdE.keep (N0.of_nil) _ _ s0;replace i0:=i0.trans (N0.of_nil);have q0:=b0.keep i0;refine i1a N3a (k:=1) (M2:=g4::M) (e1:=X3a p j) K0 T0a Z q0 Z Z (K0.cells 0 Z) s0 (by have:=q4a p t j;simp;omega) Z ?_;intro T1 E1 p1 d2 Z0 g0 I1 A1;refine A0a Z ?_;refine lP0 Z ⟨by omega,U⟩ ⟨μj-1,by omega,Z,(j+1),(_),(_),(_),(by omega),?_,Z0.tail,Z⟩;rw[f6a O0];have h9:y.thread=t:=by omega
   rw[if_pos h9,List.map_append];exact g0
  refine lP0 Z ⟨by omega,U⟩ ⟨μj-1,by omega,Z,(j+1),(_),(_),(_),(by omega),?_,S,Z⟩;rw[f6a O0];have h9:¬(y.thread=t):=fun h=>by omega
  rw[if_neg h9];exact b0.keep i0
 refine lOn 7 S.k [] Z U (H0a Z ?_);have A0:RdL (g4::M) w v2 (R6a p t::(ofL p t).map (X3a p)):=by
  have hr:=b0;rw[show j=p.cells.length by omega] at hr;exact hr.rdL S (k:=0) Z (fun g hg hh=>by
   subst hg;rcases List.mem_cons.1 hh with hh|hh
   ·exact S.ne 0 1 Z Z (by omega) hh
   ·exact Y5a S (k:=0) Z hM hh) (by have:=q4a p t p.cells.length;simp;omega)
 refine n0a S Z6c Z Z (b1c (R6a p t::(ofL p t).map (X3a p)) (by have:=q4a p t p.cells.length;unfold ofL;simp;omega) (g4::M) _ _ A0 (B7a S 1 Z hM)) ?_;rintro U1 e2 ⟨_,rfl,t0⟩ a1 J1;obtain⟨_,_,_,rfl,-⟩:=t0.open_;refine d0a (kk:=1) (vs:=[_,_,_,_]) a1 v1a Z Z Z Z Z Z Z ?_;intro Q0 a0 m0;dsimp only[i0a,List.set] at a0;replace t0:=RdE.keep (m0.mono (by simp)) _ _ t0;exact lR0 Z U (v0a Z K0a Z (a0.cells 1 Z) Z ⟨⟨_,Z,RdE.less (fun x hx=>List.mem_cons_of_mem _ hx) _ _ t0⟩,a0.fin⟩)
theorem V4c(M:List Nat)(w0:World)(v:Value)(l:List Int)(hR:RdI M w0 v l)(hw:∀x∈l,1≤x∧x≤8)(hl:l.length≤32):C0a prog 38 #[v] w0 fun v w'=>v=.int .i64 (x2a l)∧Below w0.heap.size w0 w':=by
 obtain⟨A,n,c,rfl⟩:=hR.form;obtain⟨_,_⟩:=hR.len;have j0:=v3a hw;have S:=St.refl w0;refine a0a func38 Z ntmps38 Z ?_;refine wC0 Z U (wL (fun μk D ε w=>D=[]∧∃k:Nat,∃s:Int,(k+μk=(l.length))∧(s=x2a (l.take k))∧St [] w0 w []∧Sl ε [(0,.slice A n c),(3,.int .i64 s),(4,.int .i64 k)]) (μ:=(l.length)) ⟨Z,0,0,by omega,Z,S,Z⟩ ?_);rintro μk D ε w ⟨rfl,k,s,_,hs,S,eZ⟩;refine wK eZ (wB0 Z U (fun h8=>?_) fun h8=>?_)
 ·obtain⟨x,d0,i0,_,g0,a0,_,_,b0,c0⟩:=RdS.get (hR) (k) (by omega);obtain⟨rfl,_⟩:=id c0;have f0:=O4a g0;have m0:=h2a hw k;have e0:=h2a hw (k+1);refine lP (S.k.a b0) [.x d0 i0,.f 0 0] Z ⟨by omega,by omega,Z,⟨a0,by omega⟩,U⟩ ?_;refine⟨μk-1,by omega,Z,(k+1),(s+x),(by omega),(by rw[f0,hs]),S,Z⟩
 refine lR0 Z U (r0a Z ?_);exact⟨by rw[hs,List.take_of_length_le (by omega)],S.fin⟩
theorem W4b(M:List Nat)(w0:World)(v u:Value)(C W:List Int)(p0:Int)(hC:RdI M w0 v C)(hW:RdI M w0 u W)(h:v1b C W)(hs:x2a W≤p0):C0a prog 90 #[v,u,.int .i64 p0] w0 fun v w'=>v=.int .i64 (x2a W)∧Below w0.heap.size w0 w':=by
 obtain⟨A,n,c,rfl⟩:=hC.form;obtain⟨_,_⟩:=hC.len;obtain⟨A',n',c',rfl⟩:=hW.form;obtain⟨_,_⟩:=hW.len;have z1:=h.len;have M1:=h.clen;have N1:=v3a h.wid;have S:=St.refl w0;refine a0a func90 Z ntmps90 Z ?_;refine wB0 Z U (fun q1=>by exfalso;omega) fun q1=>?_;refine lB0 Z U (fun r1=>by exfalso;omega) fun r1=>?_;refine lC0 Z U (wL (fun μk D ε w=>D=[]∧∃k:Nat,∃s:Int,(k+μk=(C.length))∧(s=x2a (W.take k))∧St [] w0 w []∧Sl ε [(0,.slice A n c),(1,.slice A' n' c'),(2,.int .i64 p0),(7,.int .i64 s),(8,.int .i64 k)]) (μ:=(C.length)) ⟨Z,0,0,by omega,Z,S,Z⟩ ?_);rintro μk D ε w ⟨rfl,k,s,_,R0,S,eZ⟩;refine wK eZ (wB0 Z U (fun s1=>?_) fun s1=>?_)
 ·refine lC0 Z U (x0a b0a [0,1,2,3,4,5,6,7,8,9,10,11,12,13,14,15,16,17,18,19,20,21,22,23,24,25,26,27,28,29,30,31,32,33,34,35,36,37,38,39,40,41] [] [] Z (Cl _ _ _ _) (Cl.start S) ?_);obtain⟨x,f1,D1,_,s0,z0,_,_,G0,N0⟩:=RdS.get (hC) (k) (by omega);obtain⟨rfl,_⟩:=id N0;have K1:=h.cell x (e0a s0);refine qB (S.q.a G0) [.x f1 D1,.f 0 0] Z ⟨Z,⟨z0,by omega⟩,U⟩ (fun t1=>by exfalso;omega) fun t1=>?_;obtain⟨_,g1,E1,_,U0,A0,_,_,H0,O0⟩:=RdS.get (hC) (k) (by omega);obtain rfl:=Option.some.inj (s0.symm.trans U0);obtain⟨rfl,_⟩:=id O0;refine qB (S.q.a H0) [.x g1 E1,.f 0 0] Z ⟨Z,⟨A0,by omega⟩,U⟩ (fun u1=>by exfalso;omega) fun u1=>?_;refine qB0 Z U (fun v1=>?_) fun v1=>?_
  ·obtain⟨_,i1,F1,_,V0,B0,_,_,I0,P0⟩:=RdS.get (hC) (k) (by omega);obtain rfl:=Option.some.inj (s0.symm.trans V0);obtain⟨rfl,_⟩:=id P0;obtain⟨_,j1,G1,_,W0,C0,_,_,r0,Q0⟩:=RdS.get (hC) (k-1) (by omega);obtain⟨rfl,_⟩:=id Q0;have p1:((k:Int)-1).toNat=k-1:=by omega
   rw[←p1] at r0;have C1:=U7a h.inc W0 s0;refine qB ((S.q.a r0).a I0) [.x i1 F1,.f 0 0,.x j1 G1,.f 1 0] Z ⟨Z,⟨C0,by omega⟩,by omega,Z,⟨B0,by omega⟩,U⟩ (fun w1=>by exfalso;omega) fun w1=>?_;obtain⟨y,t0,a1,m1,a0,b0,D0,J0,e0,i0⟩:=RdS.get (hW) (k) (by omega);obtain⟨rfl,X0⟩:=id i0;have x1:=h.wid y (e0a a0);refine qB (S.q.a e0) [.x t0 a1,.f 0 0] Z ⟨Z,⟨b0,by omega⟩,U⟩ (fun x0=>by exfalso;omega) fun x0=>?_;obtain⟨I1,u0,b1,n1,n0,c0,E0,K0,f0,j0⟩:=RdS.get (hW) (k) (by omega);obtain rfl:=Option.some.inj (a0.symm.trans n0);obtain⟨rfl,Y0⟩:=id j0;refine qB (S.q.a f0) [.x u0 b1,.f 0 0] Z ⟨Z,⟨c0,by omega⟩,U⟩ (fun y0=>by exfalso;omega) fun y0=>?_;refine qD Z U ?_;rintro H1 ⟨q0,d1⟩;obtain⟨J1,v0,c1,o1,o0,d0,F0,L0,g0,m0⟩:=RdS.get (hW) (k) (by omega);obtain rfl:=Option.some.inj (a0.symm.trans o0);obtain⟨rfl,Z0⟩:=id m0;have T0:=O4a a0;have A1:=h2a h.wid k;have S0:=h2a h.wid (k+1);refine lP (q0.k.a g0) [.x v0 c1,.f 0 0] Z ⟨by omega,by omega,Z,⟨d0,by omega⟩,U⟩ ?_;refine⟨μk-1,by omega,Z,(k+1),(s+y),(by omega),(by rw[T0,R0]),q0,Z⟩
  obtain⟨y,t0,a1,m1,a0,b0,D0,J0,e0,i0⟩:=RdS.get (hW) (k) (by omega);obtain⟨rfl,X0⟩:=id i0;have x1:=h.wid y (e0a a0);refine qB (S.q.a e0) [.x t0 a1,.f 0 0] Z ⟨Z,⟨b0,by omega⟩,U⟩ (fun x0=>by exfalso;omega) fun x0=>?_;obtain⟨I1,u0,b1,n1,n0,c0,E0,K0,f0,j0⟩:=RdS.get (hW) (k) (by omega);obtain rfl:=Option.some.inj (a0.symm.trans n0);obtain⟨rfl,Y0⟩:=id j0;refine qB (S.q.a f0) [.x u0 b1,.f 0 0] Z ⟨Z,⟨c0,by omega⟩,U⟩ (fun y0=>by exfalso;omega) fun y0=>?_;refine qD Z U ?_;rintro H1 ⟨q0,d1⟩;obtain⟨J1,v0,c1,o1,o0,d0,F0,L0,g0,m0⟩:=RdS.get (hW) (k) (by omega);obtain rfl:=Option.some.inj (a0.symm.trans o0);obtain⟨rfl,Z0⟩:=id m0;have T0:=O4a a0;have A1:=h2a h.wid k;have S0:=h2a h.wid (k+1);refine lP (q0.k.a g0) [.x v0 c1,.f 0 0] Z ⟨by omega,by omega,Z,⟨d0,by omega⟩,U⟩ ?_;refine⟨μk-1,by omega,Z,(k+1),(s+y),(by omega),(by rw[T0,R0]),q0,Z⟩
 have B1:s=x2a W:=by rw[R0,List.take_of_length_le (by omega)]
 refine lB0 Z U (fun y1=>by exfalso;omega) fun y1=>?_;refine lR0 Z U (r0a Z ?_);exact⟨by rw[B1],S.fin⟩
theorem q7b(M:List Nat)(w0:World)(v:Value)(l:List Int)(b:Int)(hR:RdI M w0 v l)(hr:r2a l)(hb:∀x∈l,0≤x∧x<b):C0a prog 134 #[v,.int .i64 b] w0 fun v w'=>v=.bool true∧Below w0.heap.size w0 w':=by
 obtain⟨A,n,c,rfl⟩:=hR.form;obtain⟨_,_⟩:=hR.len;have S:=St.refl w0;refine a0a func134 Z ntmps134 Z ?_;refine wC0 Z U (wL (fun μk D ε w=>D=[]∧∃k:Nat,(k+μk=(l.length))∧St [] w0 w []∧Sl ε [(0,.slice A n c),(1,.int .i64 b),(5,.int .i64 k)]) (μ:=(l.length)) ⟨Z,0,by omega,S,Z⟩ ?_);rintro μk D ε w ⟨rfl,k,_,S,eZ⟩;refine wK eZ (wB0 Z U (fun h9=>?_) fun h9=>?_)
 ·refine lC0 Z U (x0a b0a [0,1,2,3,4,5,6,7,8,9,10,11,12,13,14,15,16,17,18,19,20,21,22,23,24,25,26,27,28] [] [] Z (Cl _ _ _ _) (Cl.start S) ?_);obtain⟨x,v0,G0,_,b0,d0,_,_,i0,n0⟩:=RdS.get (hR) (k) (by omega);obtain⟨rfl,_⟩:=id n0;have L0:=hb x (e0a b0);refine qB (S.q.a i0) [.x v0 G0,.f 0 0] Z ⟨Z,⟨d0,by omega⟩,U⟩ (fun B0=>by exfalso;omega) fun B0=>?_;obtain⟨_,x0,H0,_,r0,e0,_,_,j0,o0⟩:=RdS.get (hR) (k) (by omega);obtain rfl:=Option.some.inj (b0.symm.trans r0);obtain⟨rfl,_⟩:=id o0;refine qB (S.q.a j0) [.x x0 H0,.f 0 0] Z ⟨Z,⟨e0,by omega⟩,U⟩ (fun C0=>by exfalso;omega) fun C0=>?_;refine qB0 Z U (fun D0=>?_) fun D0=>?_
  ·obtain⟨_,y0,I0,_,s0,f0,_,_,m0,p0⟩:=RdS.get (hR) (k) (by omega);obtain rfl:=Option.some.inj (b0.symm.trans s0);obtain⟨rfl,_⟩:=id p0;obtain⟨_,z0,J0,_,t0,g0,_,_,a0,q0⟩:=RdS.get (hR) (k-1) (by omega);obtain⟨rfl,_⟩:=id q0;have A0:((k:Int)-1).toNat=k-1:=by omega
   rw[←A0] at a0;have F0:=U7a hr t0 b0;refine qB ((S.q.a a0).a m0) [.x y0 I0,.f 0 0,.x z0 J0,.f 1 0] Z ⟨Z,⟨g0,by omega⟩,by omega,Z,⟨f0,by omega⟩,U⟩ (fun E0=>by exfalso;omega) fun E0=>?_;refine qD Z U ?_;rintro K0 ⟨c0,u0⟩;refine lP0 Z ⟨by omega,U⟩ ⟨μk-1,by omega,Z,(k+1),(by omega),c0,Z⟩
  refine qD Z U ?_;rintro K0 ⟨c0,u0⟩;refine lP0 Z ⟨by omega,U⟩ ⟨μk-1,by omega,Z,(k+1),(by omega),c0,Z⟩
 exact lT Z U Z ⟨Z,S.fin⟩
theorem V5b(n:Nat)(w:World)(hn:n≤20:=by omega):C0a prog 37 #[.int .i64 n] w fun v w'=>v=.int .i64 ((2 ^ n:Nat):Int)∧Below w.heap.size w w' :=
 (e8b n hn w).mono fun _ _ h=>⟨by rw[h.1,M3a],h.2⟩
theorem I9c(M:List Nat)(w0:World)(v:Value)(s:List Int)(c y:Nat)(hS:RdI M w0 v s)(hc:c<s.length)(hy:y≤8)(i0:∀x∈s,0≤x):C0a prog 142 #[v,.int .i64 c,.int .i64 y] w0 fun v w'=>v=.int .i64 (((s.getD c 0).toNat % 2 ^ y:Nat):Int)∧Below w0.heap.size w0 w':=by
 obtain⟨_,n,_,rfl⟩:=hS.form;obtain⟨_,-,_⟩:=hS.len;have o0:2 ^ y≤256:=Nat.pow_le_pow_right (n:=2) (j:=8) (by omega) (by omega);have n0:0<2 ^ y:=Nat.two_pow_pos _;have S:=St.refl w0;refine a0a func142 Z ntmps142 Z ?_;refine wB0 Z U (fun g0=>by exfalso;omega) fun g0=>?_;refine lC0 Z U (x0a b0a [0,1,2,3,4,5,6,7,8] [] [] Z (Cl _ _ _ _) (Cl.start S) ?_);obtain⟨z,f0,m0,_,d0,a0,_,_,b0,c0⟩:=RdS.get (hS) (c) (by omega);obtain⟨rfl,_⟩:=id c0;refine qO (S.q.a b0) [.x f0 m0,.f 0 0] Z ⟨Z,⟨a0,by omega⟩,U⟩ (f1a m9a Z Z (fun w1 S1 X1=>V5b y _) ?_);refine qD Z ⟨by omega,U⟩ ?_;rintro p0 ⟨e0,_⟩;refine lR0 Z U (r0a Z ?_);have j0:=i0 z (e0a d0);refine⟨?_,e0.fin⟩;rw[getD_some d0];exact congrArg _ (k7b z y j0)
theorem H4c{lo y a v n t:Nat}(hv:v<2 ^ y)(ha:a<2 ^ lo)(ht:a+2 ^ lo*(v+2 ^ y*n)=t):a+2 ^ lo*v<2 ^ (lo+y)∧a+2 ^ lo*v+2 ^ (lo+y)*n=t:=by
 have h5:2 ^ lo*(v+1)≤2 ^ lo*2 ^ y:=Nat.mul_le_mul_left _ hv;rw[Nat.mul_add,Nat.mul_one] at h5;refine⟨by rw[Nat.pow_add];omega,?_⟩;rw[←ht,Nat.pow_add,Nat.mul_add,Nat.mul_assoc];omega
theorem n0b(C W s:List Int)(M:List Nat)(w0:World)(v u i vb:Value)(hC:RdI M w0 v C)(hW:RdI M w0 u W)(h:v1b C W)(hs:x2a W≤12)(hb:RdI M w0 vb s)(H0:∀c∈C,c<s.length)(G0:∀x∈s,0≤x):C0a prog 78 #[.agg #[v,u,i],vb] w0 fun v w'=>v=.int .i64 (nuZ C W s:Nat)∧Below w0.heap.size w0 w':=by
 obtain⟨A,nc,c,rfl⟩:=hC.form;obtain⟨_,-,_⟩:=hC.len;obtain⟨A',nw,c',rfl⟩:=hW.form;obtain⟨_,-,_⟩:=hW.len;obtain⟨Ab,nb,cb,rfl⟩:=hb.form;obtain⟨_,-,_⟩:=hb.len;have E0:=h.len;have S0:=v3a h.wid;have S:=St.refl w0;refine a0a func78 Z ntmps78 Z ?_;refine wO0 Z U (o0a S Z ?_);intro g2 w2 S2 X2 G2;refine lO S2.k [.o 0,.o 0] Z ⟨Z,Z,U⟩ (h0a S2 H6c Z Z (W4b M _ _ _ C W 12 (hC.keep (S2.keep0 M)) (hW.keep (S2.keep0 M)) h hs) ?_);intro W0 t0 Q0;refine lB0 Z U (fun z0=>by exfalso;omega) fun z0=>?_;refine lC0 Z U (wL (fun μk D ε w=>D=[]∧∃k:Nat,∃acc:Int,∃un:Int,∃lo:Nat,(k+μk=(C.length))∧((lo:Int)=x2a (W.take k))∧(∃a:Nat,acc=(a:Int)∧a<2 ^ lo∧a+2 ^ lo*nuZ (C.drop k) (W.drop k) s=nuZ C W s)∧(un=((2 ^ lo:Nat):Int))∧St [] w0 w [(some g2,89,[.slice A nc c,.slice A' nw c',i])]∧Sl ε [(1,.slice Ab nb cb),(2,.pointer (some ⟨g2,0,none⟩)),(5,.int .i64 acc),(6,.int .i64 un),(7,.int .i64 k)]) (μ:=(C.length)) ⟨Z,0,0,1,0,by omega,Z,⟨0,Z,by omega,by simp⟩,Z,t0,Z⟩ ?_);rintro μk D ε w ⟨rfl,k,acc,un,lo,_,_,he,J0,S,eZ⟩;refine wK eZ ?_;obtain⟨a,rfl,ha,ht⟩:=he;subst J0;refine wB S.k [.o 0] Z ⟨Z,U⟩ (fun A0=>?_) fun A0=>?_
 ·refine lC0 Z U (x0a b0a [0,1,2,3,4,5,6,7,8,9,10,11,12,13,14,15,16] [] [] Z (Cl _ _ _ _) (Cl.start S) ?_);obtain⟨x,v0,N0,_,o0,b0,_,_,e0,i0⟩:=RdS.get (hC) (k) (by omega);obtain⟨rfl,_⟩:=id i0;have B0:=h.cell x (e0a o0);obtain⟨x,rfl⟩:=Int.eq_ofNat_of_zero_le B0.1;have L0:x<s.length:=Int.ofNat_lt.1 (H0 _ (e0a o0));obtain⟨y,x0,O0,_,a0,c0,_,_,f0,j0⟩:=RdS.get (hW) (k) (by omega);obtain⟨rfl,_⟩:=id j0;have C0:=h.wid y (e0a a0);obtain⟨y,rfl⟩:=Int.eq_ofNat_of_zero_le (show 0≤y by omega);have T0:=K0b C0;have D0:=k9b o0 a0 s;have I0:=O4a a0;have V0:=h2a h.wid (k+1);have U0:=h2a h.wid k;have q0:lo≤12:=by omega
  have s0:2 ^ lo≤4096:=Nat.pow_le_pow_right (n:=2) (j:=12) (by omega) (by omega);have K0:(s.getD x 0).toNat % 2 ^ y<2 ^ y:=Nat.mod_lt _ (by omega);have F0:2 ^ lo*((s.getD x 0).toNat % 2 ^ y)≤4096*256:=Nat.mul_le_mul s0 (by omega);have r0:2 ^ lo*2 ^ y≤4096*256:=Nat.mul_le_mul s0 (by omega);refine qO ((S.q.a f0).a e0) [.o 0,.x v0 N0,.f 0 0,.o 0,.x x0 O0,.f 1 0] Z ⟨Z,⟨c0,by omega⟩,Z,Z,⟨b0,by omega⟩,Z,U⟩ (f1a Y7c Z Z (fun w1 S1 X1=>I9c M _ _ s x y (hb.keep (S1.keep0 M)) L0 (by omega) G0) ?_);refine qD Z ⟨by omega,by omega,U⟩ ?_;rintro Y0 ⟨p0,_⟩;obtain⟨_,y0,P0,_,n0,d0,_,_,g0,m0⟩:=RdS.get (hW) (k) (by omega);obtain rfl:=Option.some.inj (a0.symm.trans n0);obtain⟨rfl,_⟩:=id m0;refine lO (p0.k.a g0) [.o 0,.x y0 P0,.f 0 0] Z ⟨Z,⟨d0,by omega⟩,Z,U⟩ (h0a p0 m9a Z Z (V5b y _) ?_);intro X0 u0 R0;refine lP0 Z ⟨by omega,by omega,U⟩ ?_;refine⟨μk-1,by omega,Z,(k+1),(_),(_),(lo+y),(by omega),(by rw[I0];omega),?_,?_,u0,Z⟩
  ·rw[D0,Int.toNat_natCast] at ht;have hn:=H4c K0 ha ht;exact⟨a+2 ^ lo*((s.getD x 0).toNat % 2 ^ y),by simp,hn.1,hn.2⟩
  ·rw[Nat.pow_add];simp
 refine lR0 Z U (r0a Z ?_);rw[show C.drop k=[] from List.drop_eq_nil_of_le (by omega)] at ht;exact⟨by rw[←ht];simp[nuZ],S.fin⟩
theorem C3d{n:Nat}(h:n<2 ^ 32):IntKind.u32.wrap (n:Int)=(n:Int):=by
 have h3:((2 ^ 32:Nat):Int)=2 ^ 32:=by simp
 have h2:(n:Int) % (2 ^ 32)=n:=Int.emod_eq_of_lt (by omega) (by rw[←h3];exact Int.ofNat_lt.2 h);simp only[IntKind.wrap,IntKind.signed,IntKind.bits,Bool.false_and,Bool.false_eq_true,if_false];exact h2
theorem o4c(n:Nat):BitVec.ofInt 32 (n:Int)=BitVec.ofNat 32 n:=by
 apply BitVec.eq_of_toNat_eq;simp
theorem K2b{a b:Nat}(ha:a<2 ^ 32)(hb:b<2 ^ 32):Op.intBits .and .u32 (a:Int) (b:Int)=pure (.int .u32 ((a &&& b:Nat):Int)):=by
 have h:a &&& b<2 ^ 32:=Nat.and_lt_two_pow _ hb;show pure (Value.int .u32 (IntKind.u32.wrap ((BitVec.ofInt 32 (a:Int) &&& BitVec.ofInt 32 (b:Int)).toNat:Int)))=_;rw[o4c,o4c,BitVec.toNat_and,BitVec.toNat_ofNat,BitVec.toNat_ofNat,Nat.mod_eq_of_lt ha,Nat.mod_eq_of_lt hb,C3d h]
theorem w5d{a n:Nat}{kd:IntKind}(hn:n≤31):Op.shift .shr .u32 (a:Int) kd (n:Int)=pure (.int .u32 ((a >>> n:Nat):Int)):=by
 have h3:min n IntKind.u32.bits=n:=by simp[IntKind.bits];omega
 have h6:¬((n:Int)<0):=by omega
 have h7:(a:Int).fdiv (2 ^ n)=((a >>> n:Nat):Int):=by
  rw[Int.fdiv_eq_ediv_of_nonneg _ (Int.le_of_lt (Int.pow_pos (by omega))),Nat.shiftRight_eq_div_pow];simp
 simp only[Op.shift,h6,if_false,Int.toNat_natCast,h3,h7]
section
variable {P:Program} {r:Option Nat} {N:Nat} {D:List Deferred} {e:Env} {w:World} {ops:Array Oper} {rest:List Oper} {K:List Deferred→Env→World→Prop}
variable {d:Nat} {t:TypeId} {p:String} {af:Array Edge} {x y:Operand} {xt yt:TypeId} {n m:Nat} {kd:IntKind}
theorem E1d(hx:ev e x=.int .u32 (m:Int))(hy:ev e y=.int kd (n:Int))(hn:n≤31)(hd:Nat.ble (d+1) N=true)(h:WL P r N ops rest K D (upd e d (.int .u32 ((m >>> n:Nat):Int))) w):
 WL P r N ops (⟨some d,.binOp .shr xt x y yt,t,p,af,none⟩::rest) K D e w :=
 W0a Z Z hd (by simp only[execOp,hx,hy,eqGuard_shr,binOp_shr,w5d hn,Sem.run_bind,Sem.run_pure,Result.andThen_ok]) h
theorem c8c(hx:ev e x=.int .u32 (n:Int))(hy:ev e y=.int .u32 (m:Int))(hn:n<2 ^ 32)(hm:m<2 ^ 32)(hd:Nat.ble (d+1) N=true)(h:WL P r N ops rest K D (upd e d (.int .u32 ((n &&& m:Nat):Int))) w):
 WL P r N ops (⟨some d,.binOp .and xt x y yt,t,p,af,none⟩::rest) K D e w :=
 W0a Z Z hd (by simp[execOp,hx,hy,eqGuard_and,binOp_and,K2b hn hm]) h
end
def F0c(m k:Nat):List Int:=((List.range k).filter m.testBit).map Int.ofNat
theorem y4b(m k:Nat):F0c m (k+1)=if m.testBit k=true then F0c m k++[(k:Int)] else F0c m k:=by
 unfold F0c;rw[List.range_succ,List.filter_append,List.map_append];by_cases h:m.testBit k=true
 ·rw[if_pos h,List.filter_cons_of_pos h];rfl
 ·rw[if_neg h,List.filter_cons_of_neg (by simpa using h)];simp
theorem m5c{m k:Nat}{c:Int}:c∈F0c m k↔∃i:Nat,c=i∧i<k∧m.testBit i=true:=by
 unfold F0c;simp only[List.mem_map,List.mem_filter,List.mem_range];constructor
 ·rintro⟨i,⟨h1,h2⟩,rfl⟩;exact⟨i,Z,h1,h2⟩
 ·rintro⟨i,rfl,h1,h2⟩;exact⟨i,⟨h1,h2⟩,Z⟩
theorem i9c(m k:Nat):(F0c m k).Pairwise (·<·):=by
 unfold F0c;rw[List.pairwise_map];exact((List.pairwise_lt_range (n:=k)).sublist List.filter_sublist).imp fun h=>Int.ofNat_lt.2 h
theorem d4b(m k:Nat):(F0c m k).length≤k:=by
 unfold F0c;rw[List.length_map];have:=List.length_filter_le m.testBit (List.range k);simpa using this
theorem j5b(p:j0a)(M:List Nat)(w0:World)(cs:List Value)(hP:a1a M w0 p cs)(hM:∀g∈M,g<w0.heap.size)(hN:s1b p):
 C0a prog 20 #[.agg cs.toArray] w0 fun v w'=>(∃b,v=.bool b∧(b=true→Z0a p))∧Below w0.heap.size w0 w':=by
 obtain⟨_,_,_,_,_,_,_,_,_,_,_,_,rfl,-⟩:=hP.open_;have S:=St.refl w0;refine a0a func20 Z ntmps20 Z ?_;refine wO0 Z U (o0a S Z ?_);intro g1 w1 S1 X1 G1;refine lO S1.k [.w 0] Z ⟨⟨Z,Z⟩,U⟩ (n0a S1 M7c Z Z (x0c p M _ _ (hP.keep (S1.keep0 M)) (fun g hg=>Nat.lt_of_lt_of_le (hM g hg) S1.size) hN) ?_);rintro v8 w8 ⟨_,_,_,rfl,hv⟩ S8 X8;refine lB0 Z U (fun a0=>?_) fun a0=>?_
 ·exact lT Z U Z ⟨⟨_,Z,fun _=>hv a0⟩,S8.fin⟩
 exact lT Z U Z ⟨⟨_,Z,fun h=>by cases h⟩,S8.fin⟩
theorem z4c(p:j0a)(M:List Nat)(w0:World)(cs:List Value)(hP:a1a M w0 p cs)(hM:∀g∈M,g<w0.heap.size)(hN:s1b p):
 C0a prog 25 #[.agg cs.toArray] w0 fun v w'=>(∃b,v=.bool b∧(b=true→Z0a p))∧Below w0.heap.size w0 w':=by
 obtain⟨_,_,_,_,_,_,_,_,_,_,_,_,rfl,-⟩:=hP.open_;have S:=St.refl w0;refine a0a func25 Z ntmps25 Z ?_;refine wO0 Z U (o0a S Z ?_);intro g1 w1 S1 X1 G1;refine lO S1.k [.w 0] Z ⟨⟨Z,Z⟩,U⟩ (j0b S1 c4d Z Z (n6c p M _ _ (hP.keep (S1.keep0 M))) (fun h4 w4 S4 X4=>?_) (fun w4 S4 X4=>?_))
 ·refine lO S4.k [.w 0] Z ⟨⟨Z,Z⟩,U⟩ (j0b S4 u2b Z Z (j5b p M _ _ (hP.keep (S4.keep0 M)) (fun g hg=>Nat.lt_of_lt_of_le (hM g hg) S4.size) hN) (fun h7 w7 S7 X7=>?_) (fun w7 S7 X7=>?_))
  ·exact lT Z U Z ⟨⟨_,Z,fun _=>h7⟩,S7.fin⟩
  exact lT Z U Z ⟨⟨_,Z,fun h=>by cases h⟩,S7.fin⟩
 exact lT Z U Z ⟨⟨_,Z,fun h=>by cases h⟩,S4.fin⟩
theorem M3b(p:j0a)(a0:Nat)(p0:a0<2 ^ 32)(M:List Nat)(w0:World)(cs:List Value)(hP:a1a M w0 p cs)(hn:p.cells.length≤32):
 C0a prog 30 #[.agg cs.toArray,.int .u32 a0] w0 fun v w'=>V5a w0 w' v (F0c a0 p.cells.length)∧Below w0.heap.size w0 w':=by
 obtain⟨Ac,nc,cc,Am,nm,cm,Al,nl,cl,At,nt,ct,rfl,_⟩:=hP.open_;have S:=(St.refl w0).nilEnt 3;refine a0a func30 Z ntmps30 Z ?_;refine wO0 Z U (o0a S Z ?_);intro g2 w2 S2 X2 G2;refine lC0 Z U (wL (fun μk D ε w=>D=[]∧∃k:Nat,∃G:Option Nat,∃d0:List Value,∃v:Value,(k+μk=(p.cells.length))∧(V1a (fun _ _=>X8b) 1 [] w0 G d0 v (F0c a0 k))∧St [] w0 w [(some g2,27,[.slice Ac nc cc,.slice Am nm cm,.slice Al nl cl,.slice At nt ct]),(G,3,d0)]∧Sl ε [(1,.int .u32 a0),(2,.pointer (some ⟨g2,0,none⟩)),(5,v),(6,.int .i64 k)]) (μ:=(p.cells.length)) ⟨Z,0,none,[],.slice none 0 0,by omega,V1a.nil,S2,Z⟩ ?_);rintro μk D ε w ⟨rfl,k,G,d0,v,_,b0,S,eZ⟩;refine wK eZ (wB S.k [.o 0] Z ⟨Z,U⟩ (fun n0=>?_) fun n0=>?_)
 ·refine lB0 Z U (fun o0=>?_) fun o0=>?_
  ·refine lO0 Z U (e7b Tryz.underlying3 Tryz.underlying137 Z Z ?_);rw[n5c (by omega)];refine E1d Z Z (by omega) Z ?_;have g0:a0 >>> k<2 ^ 32:=by rw[Nat.shiftRight_eq_div_pow];exact Nat.lt_of_le_of_lt (Nat.div_le_self _ _) p0
   refine c8c (m:=1) Z Z g0 (by omega) Z ?_;refine T5c Z Z Z (fun e0=>?_) fun e0=>?_
   ·refine lOn 4 S.k [] Z U (H0a Z ?_);refine lO0 Z U (m0a S R0a (vs:=[.int .i64 _]) (cs:=[_]) Z Z Z Z Z Z ?_);intro v0 y0 i0 t0 r0;refine i1a h3a (k:=2) (M2:=[]) (e1:=(k:Int)) i0 R0a Z b0 Z Z (i0.cells 0 Z) ⟨Z,by unfold i64;omega⟩ (by have:=d4b a0 k;omega) Z ?_;intro x0 s0 m0 z0 j0 c0 u0 q0;refine A0a Z ?_;refine lP0 Z ⟨by omega,U⟩ ⟨μk-1,by omega,Z,(k+1),(_),(_),(_),(by omega),?_,j0.tail,Z⟩;rw[y4b];rw[if_pos ((G8a a0 k).1 e0)];exact c0
   refine lP0 Z ⟨by omega,U⟩ ⟨μk-1,by omega,Z,(k+1),(_),(_),(_),(by omega),?_,S,Z⟩;rw[y4b];rw[if_neg fun h=>e0 ((G8a a0 k).2 h)];exact b0
  refine lOn 8 S.k [] Z U (H0a Z ?_);refine A0a Z ?_;refine lR0 Z U (r0a Z ?_)
  first
   | (obtain rfl:k=p.cells.length:=by omega
      exact⟨fun M' f0=>V1a.rd h3a (M:=M') b0 S (k:=1) Z (fun g hg hh=>by subst hg;have z:=S.new 1 Z;have z2:=f0 g hh;simp at z;omega) (by have:=d4b a0 p.cells.length;omega),S.fin⟩)
 refine lOn 11 S.k [] Z U (H0a Z ?_);refine A0a Z ?_;refine lR0 Z U (r0a Z ?_)
 first
  | (obtain rfl:k=p.cells.length:=by omega
     exact⟨fun M' f0=>V1a.rd h3a (M:=M') b0 S (k:=1) Z (fun g hg hh=>by subst hg;have z:=S.new 1 Z;have z2:=f0 g hh;simp at z;omega) (by have:=d4b a0 p.cells.length;omega),S.fin⟩)
theorem F3c(M:List Nat)(w0:World)(v u i vo vn:Value)(C W o n:List Int)(hi:∃A m c,i=.slice A m c)(hC:RdI M w0 v C)(hW:RdI M w0 u W)(h:v1b C W)(hs:x2a W≤12)(hO:RdI M w0 vo o)(hN:RdI M w0 vn n)(j0:∀c∈C,c<o.length)(i0:∀c∈C,c<n.length)(g0:∀x∈o,0≤x)(f0:∀x∈n,0≤x):
 C0a prog 34 #[.agg #[v,u,i],vo,vn] w0 fun v w'=>v=.agg #[.int .i64 (nuZ C W o:Nat),.int .i64 (nuZ C W n:Nat)]∧Below w0.heap.size w0 w':=by
 obtain⟨_,_,_,rfl⟩:=hi;obtain⟨A,_,c,rfl⟩:=hC.form;obtain⟨_,_,_,rfl⟩:=hW.form;obtain⟨_,_,_,rfl⟩:=hO.form;obtain⟨_,_,_,rfl⟩:=hN.form;have S:=St.refl w0;refine a0a func34 Z ntmps34 Z ?_;refine wO0 Z U (o0a S Z ?_);intro g3 w3 S3 X3 G3;refine g0a S3 L9b Z Z ?_;intro g6 w6 S6 X6 G6;refine lO S6.k [.o 1,.o 1] Z ⟨Z,Z,U⟩ (G0a T5b (vs:=[(0,.slice _ _ _),(1,.slice _ _ _)]) (cs:=[_,_,_]) Z Z Z Z ?_);refine g0a S6 S8a Z Z ?_;intro g7 w7 S7 X7 G7;refine d0a (kk:=0) (vs:=[_,_,_]) S7 J8a Z Z Z Z Z Z Z ?_;intro m0 a0 d0;dsimp only[i0a,List.set] at a0;refine lC0 Z U (x0a b0a [0,1,2,3,4,5,6] [] [7] Z (Cl _ _ _ _) (Cl.start a0) ?_);refine qO a0.q [.w 0] Z ⟨⟨Z,Z⟩,U⟩ (f1a I7c Z Z (fun w1 S1 X1=>n0b C W o M _ _ _ _ _ (hC.keep (S1.keep0 M)) (hW.keep (S1.keep0 M)) h hs (hO.keep (S1.keep0 M)) j0 g0) ?_);refine qO a0.q [.w 0] Z ⟨⟨Z,Z⟩,U⟩ (f1a I7c Z Z (fun w1 S1 X1=>n0b C W n M _ _ _ _ _ (hC.keep (S1.keep0 M)) (hW.keep (S1.keep0 M)) h hs (hN.keep (S1.keep0 M)) i0 f0) ?_);refine D1a p4a (vs:=[(0,.int .i64 _),(1,.int .i64 _)]) (cs:=[_,_]) Z Z Z Z ?_;refine qD Z U ?_;rintro o0 ⟨c0,_⟩
 first|refine d0a (kk:=1) (vs:=[_,_]) c0 j7b Z Z Z Z Z Z Z ?_
 intro n0 b0 e0;dsimp only[i0a,List.set] at b0;exact lR0 Z U (v0a (n:=2) Z b7a Z (b0.cells 1 Z) Z ⟨Z,b0.fin⟩)
theorem f0c(M:List Nat)(w0:World)(v u i:Value)(l:List (Int×Int))(x:Int×Int)(hs:∃A m c B n d,v=.slice A m c∧u=.slice B n d)(hL:h4b M w0 i l):
 C0a prog 33 #[.agg #[v,u,i],.agg (pc x).toArray] w0 fun v w'=>v=.bool (decide (x∈l))∧Below w0.heap.size w0 w':=by
 obtain⟨A,m,c,B,n,d,rfl,rfl⟩:=hs;obtain⟨Al,nl,cl,rfl⟩:=hL.form;obtain⟨_,-,_⟩:=hL.len;have S:=St.refl w0;refine a0a func33 Z ntmps33 Z ?_;refine wO0 Z U (o0a S Z ?_);intro g2 w2 S2 X2 G2;refine o0a S2 Z ?_;intro g3 w3 S3 X3 G3;refine lC0 Z U (wL (fun μk D ε w=>D=[]∧∃k:Nat,(k+μk=(l.length))∧(y1a (l) k (fun y=>y≠x))∧St [] w0 w [(some g3,72,[.int .i64 x.1,.int .i64 x.2]),(some g2,41,[.slice A m c,.slice B n d,.slice Al nl cl])]∧Sl ε [(2,.pointer (some ⟨g2,0,none⟩)),(3,.pointer (some ⟨g3,0,none⟩)),(5,.int .i64 k)]) (μ:=(l.length)) ⟨Z,0,by omega,y1a.zero,S3,Z⟩ ?_);rintro μk D ε w ⟨rfl,k,_,ha,S,eZ⟩;refine wK eZ (wB S.k [.o 1] Z ⟨Z,U⟩ (fun o0=>?_) fun o0=>?_)
 ·refine lC0 Z U (x0a b0a [0,1,2,3,4,5,6] [] [] Z (Cl _ _ _ _) (Cl.start S) ?_);obtain⟨y,j0,p0,m0,g0,c0,_,e0,d0,f0⟩:=RdS.get (hL) (k) (by omega);obtain⟨n0,_⟩:=f0;obtain rfl:m0=pc y:=n0;refine qOn 6 (S.q.a d0) [.o 1,.x j0 p0,.v 0,.w 0] Z ⟨⟨Z,Z⟩,⟨Z,e0⟩,⟨c0,by omega⟩,Z,U⟩ (V4d (a:=y) (b:=x) e4b Z Z Z (fun b0=>?_) fun b0=>?_)
  ·refine qD Z U ?_;rintro q0 ⟨a0,i0⟩;refine lR0 Z U (r0a Z ?_);exact⟨by rw[decide_eq_true (b0▸e0a g0:x∈l)],a0.fin⟩
  refine qD Z U ?_;rintro q0 ⟨a0,i0⟩;refine lP0 Z ⟨by omega,U⟩ ⟨μk-1,by omega,Z,(k+1),(by omega),(ha.succ g0 (b0)),a0,Z⟩
 refine lR0 Z U (r0a Z ?_);exact⟨by rw[decide_eq_false (fun hh=>ha.all (by omega) x hh rfl)],S.fin⟩
section
variable {P:Program} {r:Option Nat} {N:Nat} {D:List Deferred} {e:Env} {w:World} {ops:Array Oper} {rest:List Oper} {K:List Deferred→Env→World→Prop} {d:Nat} {t:TypeId} {p:String} {af:Array Edge} {x y:Operand} {a b:Int} {kd:IntKind} {ts:Array TypeId}
theorem u4d(hx:ev e x=.int kd a)(hy:ev e y=.int kd b)(hd:Nat.ble (d+1) N=true)(h:WL P r N ops rest K D (upd e d (.int kd (min a b))) w):
 WL P r N ops (⟨some d,.call { callee:=.builtin .min,args:=#[x,y],argTypes:=ts },t,p,af,none⟩::rest) K D e w:=by
 have h1:(if b<a then b else a)=min a b:=by rw[Int.min_def];split<;>split<;>omega
 exact W0a Z Z hd (by simp[execOp,resolve,invoke,builtin,run_min_int2,hx,hy,h1]) h
end
theorem T7b(p:List k1a)(C:List Int)(M:List Nat)(w0:World)(vc vl:Value)(hP:j0c M w0 vc p)(hC:RdI M w0 vl C)(hr:r2a C)(hc:∀c∈C,0≤c∧c<p.length)(hp:p.length≤32)(hw:∀c∈p,1≤c.w∧c.w≤8):
 C0a prog 73 #[vc,vl] w0 fun v w'=>(∃u,v=.tuple #[u,.bool true]∧V5a w0 w' u (wdL p C))∧Below w0.heap.size w0 w':=by
 obtain⟨Ap,np,cp,rfl⟩:=hP.form;obtain⟨_,-,_⟩:=hP.len;obtain⟨A,n,c,rfl⟩:=hC.form;obtain⟨_,-,_⟩:=hC.len;have ho:=X6a hr hc hp hw;have S0:=ho.clen;have T0:=v3a ho.wid;have U0:(wdL p C).length=C.length:=ho.len;have C0:∀x∈wdL p C,i64 x:=fun x hx=>by have:=ho.wid x hx;unfold i64;omega
 have S:=St.refl w0;refine a0a func73 Z ntmps73 Z ?_;refine wO0 Z U (u4d Z Z Z ?_);rw[show min (np:Int) 32=np by omega];refine h0a S u9c Z Z (q7b M _ _ C np (hC.keep (S.keep0 M)) hr (fun x hx=>by have:=hc x hx;omega)) ?_;intro W0 r0 N0;refine lO0 Z U (R9a r0 R0a Z ?_);intro p0 X0 s0 O0 J0;refine A0a Z ?_;refine lC0 Z U (wL (fun μk D ε w=>D=[]∧∃k:Nat,∃G:Option Nat,∃c0:List Value,∃v:Value,(k+μk=(C.length))∧(V1a (fun _ _=>X8b) 1 [] w0 G c0 v (wdL p (C.take k)))∧St [] w0 w [(G,3,c0)]∧Sl ε [(0,.slice Ap np cp),(1,.slice A n c),(6,v),(7,.int .i64 k)]) (μ:=(C.length)) ⟨Z,0,some p0,[],.slice (some ⟨p0,0,none⟩) 0 0,by omega,V1a.new,s0,Z⟩ ?_);rintro μk D ε w ⟨rfl,k,G,c0,v,_,a0,S,eZ⟩;refine wK eZ (wB0 Z U (fun A0=>?_) fun A0=>?_)
 ·refine lOn 8 S.k [] Z U (H0a Z ?_);obtain⟨x,x0,G0,_,q0,d0,_,_,f0,i0⟩:=RdS.get (hC) (k) (by omega);obtain⟨rfl,_⟩:=id i0;have E0:=hc x (e0a q0);obtain⟨_,y0,H0,_,F0,e0,_,_,g0,j0⟩:=RdS.get (hP) (x.toNat) (by omega);obtain⟨rfl,n0,_⟩:=J2a.open_ j0;have D0:=z5a (h0:=E0.1) F0;refine lO ((S.k.a g0).a f0) [.x x0 G0,.f 0 0,.x y0 H0,.f 1 1] Z ⟨Z,⟨e0,by omega⟩,Z,⟨d0,by omega⟩,U⟩ (m0a S R0a (vs:=[.int .i64 _]) (cs:=[_]) Z Z Z Z Z Z ?_);intro R0 Y0 o0 P0 K0;refine i1a h3a (k:=1) (M2:=[]) (e1:=wAt p x) o0 R0a Z a0 Z Z (o0.cells 0 Z) (by rw[D0];exact⟨Z,n0⟩) (by rw[List.length_map,List.length_take];omega) Z ?_;intro V0 L0 z0 Z0 t0 b0 Q0 I0;refine A0a Z ?_;refine lP0 Z ⟨by omega,U⟩ ?_;refine⟨μk-1,by omega,Z,(k+1),(_),(_),(_),(by omega),((by rw[B0a q0,wdL,List.map_append];exact b0)),t0.tail,Z⟩
 have a0:=(show C.take k=C by rw[List.take_of_length_le (by omega)])▸a0;have m0:V5a w0 w v (wdL p C):=fun M hM=>(V1a.newRow (k:=0) a0 S Z).rd hM C0 S.fin (by omega);obtain⟨_,_,_,rfl⟩:=m0.form;refine lOn 7 S.k [] Z U (H0a Z ?_);refine lOn 1 S.k [] Z U (H0a Z ?_);refine h0a S H6c Z Z (W4b [] _ _ _ C _ 256 ((hC.keep (S.keep0 M)).less (by simp)) (m0 [] (by simp)) ho (by omega)) ?_;intro a1 u0 v0;refine lB0 Z U (fun B0=>?_) (fun B0=>by exfalso;omega);refine A0a Z ?_;exact lT2 Z U Z ⟨⟨_,Z,m0.keep v0⟩,u0.fin⟩
end Go.Fw
