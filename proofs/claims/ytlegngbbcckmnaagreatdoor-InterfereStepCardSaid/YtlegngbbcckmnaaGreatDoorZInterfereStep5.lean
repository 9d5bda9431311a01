/-
  Part 5 of 8 of the proof of InterfereStep: what it leans on. No conditions.
-/
import Derived.Test.YtlegngbbcckmnaaGreatDoorZInterfereStep4
set_option maxRecDepth 100000
set_option maxHeartbeats 4000000
namespace Go.Proofs.YtlegngbbcckmnaaGreatDoor
end Go.Proofs.YtlegngbbcckmnaaGreatDoor
namespace Go.Fw
open Go.Proofs.YtlegngbbcckmnaaGreatDoor Go.Proofs Go.RowKit Go.Sort Tryz
def RIs(M:List Nat)(w:World)(cs:List Value)(l:List Int):Prop:=∃A n c,cs=[.slice A n c]∧RdI M w (.slice A n c) l
theorem S2b:h7a RIs 1 where
 len h:=by obtain⟨_,_,_,rfl,_⟩:=h;rfl
 one h u hu:=by obtain⟨_,_,_,rfl,_⟩:=h;simp at hu;subst hu;rfl
 keep hk h:=by obtain⟨A,n,c,rfl,h1⟩:=h;exact⟨A,n,c,Z,h1.keep hk⟩
 more hM h:=by obtain⟨A,n,c,rfl,h1⟩:=h;exact⟨A,n,c,Z,h1.more (by decide) hM⟩
def i4c(C W:List Int)(n:Nat):List (List Int):=(List.range n).map fun k=>stZ C W k K2a
theorem o2c(C W:List Int)(n:Nat):i4c C W (n+1)=i4c C W n++[stZ C W n K2a]:=by
 unfold i4c;rw[List.range_succ,List.map_append];rfl
theorem w9a(C W:List Int)(n:Nat):(i4c C W n).length=n:=by simp[i4c]
theorem k3c{C W:List Int}{n k:Nat}{s:List Int}(h:(i4c C W n)[k]?=some s):s=stZ C W k K2a:=by
 unfold i4c at h;rw[List.getElem?_map] at h;have hk:k<n:=by
  rcases Nat.lt_or_ge k n with h1|h1
  ·exact h1
  ·rw[List.getElem?_eq_none (by simpa using h1)] at h;cases h
 rw[List.getElem?_range hk] at h;simpa using h.symm
def ofR(e:E)(C W:List Int)(n:Nat)(x y:Nat):Prop:=x<n∧y<n∧e.evl (stZ C W x K2a) (stZ C W y K2a)=1
theorem o4d{M:List Nat}{w:World}{g:Nat}{A B:Option Addr}{n c m d:Nat}{a b:List Int}(h1:w.cell? ⟨g,0,none⟩=some (.slice A n c))(h2:w.cell? ⟨g,1,none⟩=some (.slice B m d))(ha:RdI M w (.slice A n c) a)(hb:RdI M w (.slice B m d) b):∀(k:Nat) (h:k<[a,b].length),∃A n c,w.cell? ⟨g,0+k*1,none⟩=some (.slice A n c)∧RdI M w (.slice A n c) [a,b][k]:=fun k hk=>by
 rcases(show k=0∨k=1 by simp at hk;omega) with rfl|rfl
 ·exact⟨_,_,_,h1,ha⟩
 ·exact⟨_,_,_,h2,hb⟩
theorem r4d{M:List Nat}{w:World}{g:Nat}{A B D:Option Addr}{n c m d i f:Nat}{a b q:List Int}(h1:w.cell? ⟨g,0,none⟩=some (.slice A n c))(h2:w.cell? ⟨g,1,none⟩=some (.slice B m d))(h3:w.cell? ⟨g,2,none⟩=some (.slice D i f))(ha:RdI M w (.slice A n c) a)(hb:RdI M w (.slice B m d) b)(hq:RdI M w (.slice D i f) q):∀(k:Nat) (h:k<[a,b,q].length),∃A n c,w.cell? ⟨g,0+k*1,none⟩=some (.slice A n c)∧RdI M w (.slice A n c) [a,b,q][k]:=fun k hk=>by
 rcases(show k=0∨k=1∨k=2 by simp at hk;omega) with rfl|rfl|rfl
 ·exact⟨_,_,_,h1,ha⟩
 ·exact⟨_,_,_,h2,hb⟩
 ·exact⟨_,_,_,h3,hq⟩
theorem V5b(p:List C1a)(C:List Int)(e:E)(M:List Nat)(w0:World)(vc vl:Value)(es:List Value)(hP:Q9b M w0 vc p)(hC:RdI M w0 vl C)(hE:RdE M w0 e es)(hr:Y2a C)(hc:∀c∈C,0≤c∧c<p.length)(hp:p.length≤32)(hw:∀c∈p,1≤c.w∧c.w≤8)(a0:Nat)(hb:N3a (wdL p C)=a0)(d3:a0≤6)(hK:A2a M w0)(E2:e.valid p true=true)(e3:e.w=1)(H2:∀x∈e.sup 3,x∈C)(G2:∀x∈e.sup 2,x∈C)(hM:∀g∈M,g<w0.heap.size:=by simp):
 C0a prog 69 #[vc,vl,.agg es.toArray] w0 fun v w'=>(∃a b c m,v=.tuple #[.agg #[a,b,c],.int .i64 0]∧I6a w0 w' a C∧I6a w0 w' b (wdL p C)∧k8b w0 w' c (Z0b m 64)∧b5a m (ofR e C (wdL p C) (2 ^ a0)))∧Below w0.heap.size w0 w':=by
 obtain⟨_,_,_,rfl⟩:=hP.form;obtain⟨A,n,c,rfl⟩:=hC.form;obtain⟨Ae,ne,ce,rfl,_⟩:=hE.cells;have ho:=M0b hr hc hp hw;have b3:=ho.clen;have F2:=ho.len;have i3:2 ^ a0≤64:=Nat.pow_le_pow_right (n:=2) (j:=6) (by omega) (by omega);have o3:=z8a e 3;have m3:=z8a e 2;have b1:∀l∈[e.sup 3,e.sup 2],l.length≤1000:=fun l hl=>by
  simp only[List.mem_cons,List.not_mem_nil,or_false] at hl;rcases hl with rfl|rfl<;>omega
 have B0:∀x∈[e.sup 3,e.sup 2].flatten,x∈C:=fun x hx=>by
  simp only[List.flatten_cons,List.flatten_nil,List.append_nil,List.mem_append] at hx;exact hx.elim (H2 x) (G2 x)
 have a1:∀x∈[e.sup 3,e.sup 2].flatten,i64 x:=fun x hx=>hC.i64s x (B0 x hx);have Y0:[e.sup 3,e.sup 2].flatten.length≤140737488355328:=by simp;omega
 have S:=(St.refl w0).nilEnt 28;refine a0a func69 Z ntmps69 Z ?_;refine wO0 Z U (p0a S Z ?_);intro g5 w5 S5 X5 G5;refine g0a S5 H7a Z Z ?_;intro g6 w6 S6 X6 G6;refine lO0 Z U ?_;have Z2:w0.heap.size≤w6.heap.size:=S6.size;have d0:∀g∈[g6],g<w6.heap.size:=fun g hg=>by rw[List.mem_singleton.1 hg];exact S6.lt 0 Z
 refine n0a S6 B0c Z Z (s1b p C M _ _ _ (hP.keep (S6.keep0 M)) (hC.keep (S6.keep0 M)) hr hc hp hw (hK.keep (S6.keep0 M))) ?_;rintro p3 q0 ⟨a,b,rfl,ha,F0⟩ Q1 a2;obtain⟨A1,n1,c1,rfl⟩:=ha.form;obtain⟨A2,n2,c2,rfl⟩:=F0.form;have KQ:=t0a.refl [g6] q0;refine lO0 Z U (g0a Q1 g9a Z Z ?_);intro g8 w8 S8 X8 G8;have H0:=Nat.le_trans KQ.size G8;replace KQ:=KQ.trans (X8.of_nil);refine c0a (kk:=0) (vs:=[_,_,_]) S8 a9a Z Z Z Z Z Z Z ?_;intro S2 c0 L0;dsimp only[i0a,List.set] at c0;replace KQ:=KQ.fresh2 L0 (by exact .inl H0);refine lB0 Z U (fun x2=>by exfalso;omega) fun x2=>?_;refine lO c0.k [.w 2] Z ⟨⟨Z,Z⟩,U⟩ (h0a c0 y5a Z Z ((Q2a e M _ _ _ p true (RdE.keep (c0.keep0 M) _ _ hE) (hP.keep (c0.keep0 M)) (hK.keep (c0.keep0 M))).mono (fun v w' h=>⟨h.1.trans (by rw[E2]),h.2⟩)) ?_);intro T2 p0 b2;replace KQ:=KQ.trans (b2.of_nil);refine lB p0.k [.o 2] Z ⟨Z,U⟩ (fun y2=>by exfalso;omega) fun y2=>?_;refine lO p0.k [.w 2] Z ⟨⟨Z,Z⟩,U⟩ ?_;have j2:∀g∈M,g<T2.heap.size:=fun g hg=>Nat.lt_of_lt_of_le (hM g hg) p0.size;refine n0a p0 e8b Z Z (P4a e M _ _ (RdE.keep (p0.keep0 M) _ _ hE) (hK.keep (p0.keep0 M)) j2) ?_;rintro q3 U2 ⟨_,_,rfl,y0,A0⟩ R1 d2;replace KQ:=KQ.trans (d2.of_nil);obtain⟨A3,n3,c3,rfl⟩:=y0.form;obtain⟨A4,n4,c4,rfl⟩:=A0.form;have KS:=t0a.refl M U2;refine lO0 Z U (m0a R1 e0b (vs:=[.slice _ _ _,.slice _ _ _]) (cs:=[_,_]) Z Z Z Z Z Z ?_);intro v0 V2 D0 C1 o1;have r1:=Nat.le_trans KQ.size o1;have x1:=Nat.le_trans KS.size o1;replace KQ:=KQ.trans (C1.of_nil);replace KS:=KS.trans (C1.of_nil);have m2:∀g∈M,g<V2.heap.size:=fun g hg=>Nat.lt_of_lt_of_le (hM g hg) D0.size;refine n0a D0 g6c Z Z (v7b (hbig:=Y0) (M:=M) (e5b M _ v0 [e.sup 3,e.sup 2] b1 (by simp) (o4d (D0.cell 0 Z Z) (D0.cell 0 Z Z) (y0.keep KS) (A0.keep KS))) m2 a1) ?_;rintro r3 N1 X0 T1 e2;replace KQ:=KQ.trans (e2.of_nil);obtain⟨A5,n5,c5,rfl⟩:=X0.form;obtain⟨_,-,_⟩:=X0.len;have KC:=t0a.refl M N1;refine lC0 Z U (wL (fun μk D ε w=>D=[]∧∃k:Nat,(k+μk=(([e.sup 3,e.sup 2].flatten).length))∧(t0a [g6] q0 w)∧(t0a M N1 w)∧St [] w0 w [(some v0,28,[.slice A3 n3 c3,.slice A4 n4 c4]),(some g8,89,[.slice A1 n1 c1,.slice A2 n2 c2,.slice none 0 0]),(some g6,41,[.slice none 0 0,.slice none 0 0,.slice none 0 0]),(some g5,37,[.int .i64 e.op,.int .i64 e.w,.int .i64 e.n,.slice Ae ne ce]),(none,28,[])]∧Sl ε [(1,.slice A n c),(5,.pointer (some ⟨g5,0,none⟩)),(6,.pointer (some ⟨g6,0,none⟩)),(8,.pointer (some ⟨g8,0,none⟩)),(48,.slice A5 n5 c5),(49,.int .i64 n5),(50,.int .i64 k)]) (μ:=(([e.sup 3,e.sup 2].flatten).length)) ⟨Z,0,by omega,KQ,KC,T1,Z⟩ ?_);rintro μk D ε w ⟨rfl,k,hk,KQ,KC,S,eZ⟩;refine wK eZ (wB0 Z U (fun z2=>?_) fun z2=>?_)
 ·obtain⟨x,p2,O2,_,L2,P0,_,_,U0,d1⟩:=RdS.get ((X0.keep KC)) (k) (by omega);obtain⟨rfl,_⟩:=id d1;have I2:x∈C:=B0 x (e0a L2);refine lO (S.k.b U0) [.x p2 O2,.f 0 0] Z ⟨Z,⟨P0,by omega⟩,U⟩ (h0a S U0c Z Z ((G8a M _ _ C x (hC.keep (S.keep0 M))).mono (fun v w' h=>⟨h.1.trans (by rw[decide_eq_true I2]),h.2⟩)) ?_);intro t3 U1 D1;replace KQ:=KQ.trans (D1.of_nil);replace KC:=KC.trans (D1.of_nil);refine lP0 Z ⟨by omega,U⟩ ⟨μk-1,by omega,Z,(k+1),(by omega),(KQ),(KC),U1,Z⟩
 refine lO0 Z U (f4a (n:=32) (c:=32) S U0a Z Z Z Z ?_);intro E0 u3 J0 f2 P1;have s1:=Nat.le_trans KQ.size P1;replace KQ:=KQ.trans (f2.of_nil);refine lOn 5 J0.k [] Z U (F0a Z ?_);refine lO J0.k [.o 2] Z ⟨Z,U⟩ (h0a J0 m8a Z Z ((t6a [] _ _ _ (F0.at_ KQ d0) ho.wid).mono (fun v w' h=>⟨h.1.trans (by rw[hb]),h.2⟩)) ?_);intro v3 V1 g2;replace KQ:=KQ.trans (g2.of_nil);refine Y1b (n:=a0) Z Z ?_;refine lC0 Z U (wL (fun μk D ε w=>D=[]∧∃k:Nat,∃G:Option Nat,∃u0:List Value,∃v:Value,(k+μk=((2 ^ a0)))∧(e2a RIs 1 [g6] w G u0 v (i4c C (wdL p C) k))∧(∀g∈G.toList,q0.heap.size≤g)∧(t0a [g6] q0 w)∧St [] w0 w [(some E0,3,(List.replicate 32 (.int .i64 0))),(some v0,28,[.slice A3 n3 c3,.slice A4 n4 c4]),(some g8,89,[.slice A1 n1 c1,.slice A2 n2 c2,.slice none 0 0]),(some g6,41,[.slice none 0 0,.slice none 0 0,.slice none 0 0]),(some g5,37,[.int .i64 e.op,.int .i64 e.w,.int .i64 e.n,.slice Ae ne ce]),(G,28,u0)]∧Sl ε [(5,.pointer (some ⟨g5,0,none⟩)),(6,.pointer (some ⟨g6,0,none⟩)),(8,.pointer (some ⟨g8,0,none⟩)),(14,.slice (some ⟨E0,0,none⟩) 32 32),(15,v),(64,.int .i64 ((2 ^ a0:Nat):Int)),(65,.int .i64 k)]) (μ:=((2 ^ a0))) ⟨Z,0,none,[],.slice none 0 0,by omega,e2a.nil,(by simp),KQ,V1,Z⟩ ?_);rintro μk D ε w ⟨rfl,k,G,u0,v,hk,n0,Z0,KQ,S,eZ⟩;refine wK eZ ?_;have KR:=t0a.refl (G.toList++[g6]) w;refine wB0 Z U (fun B2=>?_) fun B2=>?_
 ·refine lOn 15 S.k [] Z U (K0a Z ?_);refine lO S.k [.w 2] Z ⟨⟨Z,Z⟩,U⟩ ?_;have S0:∀g∈G.toList++[g6],g<w.heap.size:=fun g hg=>by
   rcases List.mem_append.1 hg with h|h
   ·obtain⟨t,cs,hh⟩:=X2b S 5 Z g h;exact hh.lt
   ·rw[List.mem_singleton.1 h];exact S.lt 3 Z
  refine n0a S W6b Z Z (w8a C (wdL p C) K2a k [] _ _ _ _ _ (ha.at_ KQ d0) (F0.at_ KQ d0) ho (by omega) (B3b (S.blk 0 Z) List.not_mem_nil) g5a n6a) ?_;rintro v72 W2 J1 W1 E1;replace KQ:=KQ.trans (E1.of_nil);replace KR:=KR.trans (E1.of_nil);obtain⟨_,_,_,rfl⟩:=J1.form;have KT:=t0a.refl (G.toList++[g6]) W2;refine m0a W1 e0b (vs:=[.slice _ _ _]) (cs:=[_]) Z Z Z Z Z Z ?_;intro a3 w3 z1 N0 G0;have t1:=Nat.le_trans KQ.size G0;have v1:=Nat.le_trans KR.size G0;have y1:=Nat.le_trans KT.size G0;replace KQ:=KQ.trans (N0.of_nil);replace KR:=KR.trans (N0.of_nil);replace KT:=KT.trans (N0.of_nil);have C0:=n0.keep S2b KR;have o2:=KQ.size;refine r1a S2b (k:=6) (M2:=[g6]) (e1:=stZ C (wdL p C) k K2a) z1 e0b Z C0 Z Z (z1.cells 0 Z) ⟨_,_,_,Z,(J1 _ S0).keep KT⟩ (by rw[w9a];omega) Z ?_;intro s3 Y2 u2 x3 Y1 o0 i2 O1;replace KQ:=KQ.freshL i2 (fun g hg=>.inl (Z0 g hg));refine F0a Z ?_;refine lP0 Z ⟨by omega,U⟩ ?_;refine⟨μk-1,by omega,Z,(k+1),(_),(_),(_),(by omega),((by rw[o2c];exact o0)),((fun g hg=>by rcases O1 g hg with h|h;exact Z0 g h;exact Nat.le_trans o2 h)),(KQ),Y1.tail,Z⟩
 obtain rfl:k=2 ^ a0:=by omega
 obtain⟨wa,KA,z0⟩:∃wa,t0a [g6] wa w∧RdS [g6] wa 1 (RIs [g6] wa) v (i4c C (wdL p C) (2 ^ a0)):=⟨w,t0a.refl _ _,n0.rd S2b S (k:=5) Z (fun g hg hm=>by have h1:=Z0 g (by rw[hg];simp);have h2:=d0 g hm;have h3:=a2.size;omega) (by rw[w9a];omega)⟩;obtain⟨Aa,ca,K1⟩:=n0.form;rw[w9a] at K1;subst K1;have f3:=w9a C (wdL p C) (2 ^ a0);refine lO0 Z U (G0a (vs:=[]) (cs:=mW Y7a) C3d Z Z Z Z ?_);refine p0a (hv:=Z) (cs:=mW Y7a) S Z ?_;intro x0 y3 B1 F1 p1;have u1:=Nat.le_trans KQ.size p1;have q1:=Nat.le_trans KA.size p1;replace KQ:=KQ.trans F1.of_nil;replace KA:=KA.trans F1.of_nil;refine lOn 6 B1.k [] Z U (K0a Z ?_);refine lC0 Z U (wL (fun μx D ε w=>D=[]∧∃x:Nat,∃m:List Nat,(x+μx=((2 ^ a0)))∧(b5a m (fun a b=>a<x∧ofR e C (wdL p C) (2 ^ a0) a b))∧(t0a [g6] q0 w)∧(t0a [g6] wa w)∧St [] w0 w [(some x0,173,mW m),(some E0,3,(List.replicate 32 (.int .i64 0))),(some v0,28,[.slice A3 n3 c3,.slice A4 n4 c4]),(some g8,89,[.slice A1 n1 c1,.slice A2 n2 c2,.slice none 0 0]),(some g6,41,[.slice none 0 0,.slice none 0 0,.slice none 0 0]),(some g5,37,[.int .i64 e.op,.int .i64 e.w,.int .i64 e.n,.slice Ae ne ce]),(G,28,u0)]∧Sl ε [(5,.pointer (some ⟨g5,0,none⟩)),(6,.pointer (some ⟨g6,0,none⟩)),(8,.pointer (some ⟨g8,0,none⟩)),(15,.slice Aa (2 ^ a0) ca),(17,.pointer (some ⟨x0,0,none⟩)),(79,.int .i64 ((2 ^ a0:Nat):Int)),(80,.int .i64 x)]) (μ:=((2 ^ a0))) ⟨Z,0,Y7a,by omega,b5a.zero.congr (fun a b _ _=>⟨fun h=>h.elim,fun h=>by omega⟩),KQ,KA,B1,Z⟩ ?_);rintro μx D ε w ⟨rfl,x,m,hx,hm,KQ,KA,S,eZ⟩;refine wK eZ (wB0 Z U (fun C2=>?_) fun C2=>?_)
 ·refine lC0 Z U (wL (fun μy D ε w=>D=[]∧∃y:Nat,∃m:List Nat,(y+μy=((2 ^ a0)))∧(b5a m (fun a b=>(a<x∨(a=x∧b<y))∧ofR e C (wdL p C) (2 ^ a0) a b))∧(t0a [g6] q0 w)∧(t0a [g6] wa w)∧St [] w0 w [(some x0,173,mW m),(some E0,3,(List.replicate 32 (.int .i64 0))),(some v0,28,[.slice A3 n3 c3,.slice A4 n4 c4]),(some g8,89,[.slice A1 n1 c1,.slice A2 n2 c2,.slice none 0 0]),(some g6,41,[.slice none 0 0,.slice none 0 0,.slice none 0 0]),(some g5,37,[.int .i64 e.op,.int .i64 e.w,.int .i64 e.n,.slice Ae ne ce]),(G,28,u0)]∧Sl ε [(5,.pointer (some ⟨g5,0,none⟩)),(6,.pointer (some ⟨g6,0,none⟩)),(8,.pointer (some ⟨g8,0,none⟩)),(15,.slice Aa (2 ^ a0) ca),(17,.pointer (some ⟨x0,0,none⟩)),(18,.int .i64 x),(79,.int .i64 ((2 ^ a0:Nat):Int)),(80,.int .i64 x),(84,.int .i64 ((2 ^ a0:Nat):Int)),(85,.int .i64 y)]) (μ:=((2 ^ a0))) ⟨Z,0,m,by omega,hm.congr (fun a b _ _=>⟨fun h=>⟨.inl h.1,h.2⟩,fun h=>⟨by omega,h.2⟩⟩),KQ,KA,S,Z⟩ ?_);rintro μy D ε w ⟨rfl,y,m,_,hm,KQ,KA,S,eZ⟩;refine wK eZ (wB0 Z U (fun D2=>?_) fun D2=>?_)
  ·refine lC0 Z U (x0a b0a [0,1,2,3,4,5,6,7,8,9,10] [] [] Z (Cl _ _ _ _) (Cl.start S) ?_);obtain⟨_,q2,P2,s2,J2,Q0,_,_,V0,f1⟩:=RdS.get ((z0.keep KA)) (x) (by omega);obtain⟨Ax,nx,cx,v2,hX⟩:=f1;obtain rfl:s2=[Value.slice Ax nx cx]:=v2;obtain rfl:=k3c J2;obtain⟨t,r2,Q2,t2,K2,R0,_,_,W0,g1⟩:=RdS.get ((z0.keep KA)) (y) (by omega);obtain⟨Ay,ny,cy,w2,hY⟩:=g1;obtain rfl:t2=[Value.slice Ay ny cy]:=w2;obtain rfl:=k3c K2;refine qO ((S.q.b W0).b V0) [.w 5,.x q2 P2,.f 0 0,.x r2 Q2,.f 1 0] Z ⟨Z,⟨R0,by omega⟩,Z,⟨Q0,by omega⟩,⟨Z,Z⟩,U⟩ (k1a r8b Z Z (fun w1 S1 X1=>q2b e [] _ _ _ _ _ _ (RdE.less (by simp) _ _ (RdE.keep (S1.keep0 M) _ _ hE)) ⟨List.not_mem_nil,(hK.keep (S1.keep0 M)).2⟩ ((hX.keep (KA.trans X1.of_nil)).less (by simp)) ((hY.keep (KA.trans X1.of_nil)).less (by simp))) ?_);refine qB0 Z U (fun O0=>?_) fun O0=>?_
   ·refine qD Z U ?_;rintro m1 ⟨j0,g0⟩;replace KQ:=KQ.trans (g0.of_nil);replace KA:=KA.trans (g0.of_nil);have g3:=(hm.at_ (x:=x) (by omega)).2;have j3:(2:Nat) ^ y<2 ^ 64:=Nat.pow_lt_pow_right (by omega) (by omega);have N2:=hm.cell0 (x:=x) (by omega);refine lC0 Z U (x0a b0a [0,1,2,3,4,5,6,7,8,9] [] [10] Z (Cl _ _ _ _) (Cl.start j0) ?_);refine qO0 Z U (E0a V3a Z Z Z ?_);refine j0a J4a Z (fun w1 hw=>by exact hw.1.cell 0 Z N2) Z ?_;refine qO0 Z U (V7b (n:=y) Z Z ?_);refine o4c Z Z (by assumption) (by assumption) Z ?_;refine qO0 Z U (E0a V3a Z Z Z ?_);refine qD Z U ?_;rintro X2 ⟨K0,t0⟩;replace KQ:=KQ.trans (t0.of_nil);replace KA:=KA.trans (t0.of_nil);refine f1a (hy:=Z) (kk:=0) (v:=uV (m.getD x 0 ||| 2 ^ y)) K0 E1b Z Z Z (by rw[J4b,hm.len];simp;omega) ?_;intro j1 b0 f0;rw[b4b,show 0+(x:Int).toNat*1=x by simp] at b0;dsimp only[List.set] at b0;replace KQ:=KQ.fresh2 f0 (.inl (by assumption));replace KA:=KA.fresh2 f0 (.inl (by assumption));refine lP0 Z ⟨by omega,U⟩ ⟨μy-1,by omega,Z,(y+1),(_),(by omega),?_,(KQ),(KA),b0,Z⟩;refine(hm.bit1 (x:=x) (y:=y) (by omega) (by omega)).congr fun a b _ _=>?_;constructor
    ·rintro(h|⟨rfl,rfl⟩)
     ·exact⟨by omega,h.2⟩
     ·exact⟨by omega,by omega,by omega,O0⟩
    ·intro h;by_cases T0:a=x∧b=y
     ·exact .inr T0
     ·exact .inl ⟨by omega,h.2⟩
   refine qD Z U ?_;rintro m1 ⟨j0,g0⟩;replace KQ:=KQ.trans (g0.of_nil);replace KA:=KA.trans (g0.of_nil);refine lP0 Z ⟨by omega,U⟩ ⟨μy-1,by omega,Z,(y+1),(_),(by omega),?_,(KQ),(KA),j0,Z⟩;refine hm.congr fun a b _ _=>?_;constructor
   ·exact fun h=>⟨by omega,h.2⟩
   ·intro h;by_cases T0:a=x∧b=y
    ·obtain⟨rfl,rfl⟩:=T0;exact absurd h.2.2.2 O0
    ·exact⟨by omega,h.2⟩
  refine lP0 Z ⟨by omega,U⟩ ⟨μx-1,by omega,Z,(x+1),(m),(by omega),?_,(KQ),(KA),S,Z⟩;exact hm.congr fun a b _ _=>⟨fun h=>⟨by omega,h.2⟩,fun h=>⟨by have:=h.2.2.1;omega,h.2⟩⟩
 refine lO S.k [.o 3,.o 3] Z ⟨Z,Z,U⟩ ?_;have m0:w0.heap.size≤w.heap.size:=S.size;have i0:∀g∈[g6],g<w.heap.size:=fun g hg=>by rw[List.mem_singleton.1 hg];exact S.lt 4 Z
 refine n0a S r6b Z Z (S5a C (wdL p C) m _ hm [] _ _ _ x0 (ha.at_ KQ d0) (F0.at_ KQ d0) (S.blk 0 Z)) ?_;rintro R2 i1 ⟨_,_,_,rfl,G1,H1,I1⟩ I0 Z1;obtain⟨_,_,_,rfl⟩:=G1.form;obtain⟨_,_,_,rfl⟩:=H1.form;obtain⟨_,_,_,rfl⟩:=I1.form;have r0:=t0a.refl [g6] i1;refine c0a (kk:=4) (vs:=[_,_,_]) I0 R7a Z Z Z Z Z Z Z ?_;intro M1 e0 s0;dsimp only[i0a,List.set] at e0;replace r0:=r0.fresh2 s0 (by exact .inr (by simp));refine lR0 Z U ?_;exact h2a (n:=3) Z B5a Z (e0.cells 4 Z) Z Z ⟨⟨_,_,_,m,Z,G1.later r0 i0 m0,H1.later r0 i0 m0,I1.later r0 i0 m0,hm.congr fun a b _ _=>⟨fun h=>h.2,fun h=>⟨by have:=h.1;omega,h⟩⟩⟩,e0.fin⟩
def slQ(u:Value):Prop:=∃A n c,u=.slice A n c
theorem b5c:∃u,slQ u:=⟨.slice none 0 0,none,0,0,Z⟩
def i3d(l:List Int)(u:Value)(w:World):Prop:=RdI [] w u l
theorem d3c(l:List Int):∀u w w',t0a [] w w'→i3d l u w→i3d l u w':=fun _ _ _ hk h=>RdS.keep h hk
theorem o0a.same{w w':World}{b:Blk}(h:o0a w b)(e:w'.heap[b.1]?=w.heap[b.1]?):o0a w' b:=e.trans h
def prj(Ca Wa C W:List Int)(p:Int×Int):Int×Int:=((nuZ C W (stZ Ca Wa p.1.toNat K2a):Nat),(nuZ C W (stZ Ca Wa p.2.toNat K2a):Nat))
theorem R1c{Ca Wa C W:List Int}(hw:∀x∈W,1≤x∧x≤8){a0:Nat}(hb:N3a W=a0)(p:Int×Int):0≤(prj Ca Wa C W p).1∧(prj Ca Wa C W p).1<(2 ^ a0:Nat)∧0≤(prj Ca Wa C W p).2∧(prj Ca Wa C W p).2<(2 ^ a0:Nat):=by
 have h1:=z2c C W (stZ Ca Wa p.1.toNat K2a) hw;have h2:=z2c C W (stZ Ca Wa p.2.toNat K2a) hw;rw[hb,Int.toNat_natCast] at h1 h2;unfold prj;simp only;omega
theorem I9b(A1 A2 A3 B1 B2 B3:Option Addr)(n1 c1 n2 c2 n3 c3 m1 d1 m2 d2 m3 d3:Nat)(w0:World):C0a prog 71 #[.agg #[.slice A1 n1 c1,.slice A2 n2 c2,.slice A3 n3 c3],.agg #[.slice B1 m1 d1,.slice B2 m2 d2,.slice B3 m3 d3]] w0 fun v w'=>(∃ga gb,v=.func (.func 127) #[] #[.pointer (some ⟨ga,0,none⟩),.pointer (some ⟨gb,0,none⟩)]∧w0.heap.size≤ga∧w0.heap.size≤gb∧o0a w' (ga,41,[.slice A1 n1 c1,.slice A2 n2 c2,.slice A3 n3 c3])∧o0a w' (gb,89,[.slice B1 m1 d1,.slice B2 m2 d2,.slice B3 m3 d3]))∧Below w0.heap.size w0 w':=by
 have S:=St.refl w0;refine a0a func71 Z ntmps71 Z ?_;refine wO0 Z U (p0a S Z ?_);intro g2 w2 S2 X2 G2;refine p0a S2 Z ?_;intro g3 w3 S3 X3 G3;refine lO0 Z U (F1a Z Z ?_);refine lR0 Z U (s0a Z ?_);exact⟨⟨g2,g3,Z,by simpa using S3.new 1 Z,by simpa using S3.new 0 Z,S3.blk 1 Z,S3.blk 0 Z⟩,S3.fin⟩
theorem o3c(Ca Wa C W:List Int)(n:Nat)(gp gw gb tp tw tb gz tz:Nat)(w0:World)(v u i v' u' i':Value)(hp:o0a w0 (gp,tp,[v,u,i]))(hw:o0a w0 (gw,tw,[v',u',i']))(hb:o0a w0 (gb,tb,[.slice (some ⟨gz,0,none⟩) 32 32]))(hz:o0a w0 (gz,tz,List.replicate 32 (.int .i64 0)))
 (hC:RdI [] w0 v C) (hW:RdI [] w0 u W) (e0:RdI [] w0 v' Ca) (f0:RdI [] w0 u' Wa) (ho:L3b C W) (i0:L3b Ca Wa) (p0:N3a Wa≤12) (hi:slQ i) (n0:slQ i') (hn:n<4096:=by omega) (hs:N3a W≤12:=by omega) :
 C0a prog 128 #[.int .i64 n,.pointer (some ⟨gp,0,none⟩),.pointer (some ⟨gw,0,none⟩),.pointer (some ⟨gb,0,none⟩)] w0 fun x w'=>x=.int .i64 (nuZ C W (stZ Ca Wa n K2a):Nat)∧Below w0.heap.size w0 w':=by
 obtain⟨A,nc,c,rfl⟩:=hC.form;obtain⟨A',nw,c',rfl⟩:=hW.form;obtain⟨B,mc,d,rfl⟩:=e0.form;obtain⟨B',mw,d',rfl⟩:=f0.form;obtain⟨I,ni,ci,rfl⟩:=hi;obtain⟨I',j0,d0,rfl⟩:=n0;have S:=St.refl w0;have cp:Cells w0 gp 0 [.slice A nc c,.slice A' nw c',.slice I ni ci]:=fun j v hj=>by rw[Nat.zero_add];exact hp.cell hj
 have cw:Cells w0 gw 0 [.slice B mc d,.slice B' mw d',.slice I' j0 d0]:=fun j v hj=>by rw[Nat.zero_add];exact hw.cell hj
 have cb:w0.cell? ⟨gb,0,none⟩=some (.slice (some ⟨gz,0,none⟩) 32 32):=hb.cell Z;have q0:=B3b (M:=[]) hz List.not_mem_nil;have b0:=fun x hx=>(h7b Ca Wa n K2a i0.wid n6a x hx).1;have o0:(stZ Ca Wa n K2a).length=32:=by rw[c7b,g5a]
 refine a0a func128 Z ntmps128 Z ?_;refine wC0 Z U (G6b b0a [0,1,2,3,4] 5 (Cl _ _ _ _) (Cl.start S) (fun i=>if i=4 then some (126,#[.agg #[.slice B mc d,.slice B' mw d',.slice I' j0 d0],.int .i64 n,.slice (some ⟨gz,0,none⟩) 32 32],slQ,i3d (stZ Ca Wa n K2a)) else none) ?_ _ Z ?_)
 ·intro i f a Qp Qw hi;by_cases g0:i=4
  ·subst g0;cases hi;exact⟨b5c,d3c _,fun w hC=>(w8a (hn:=hn) Ca Wa K2a n [] w _ _ _ _ (e0.keep hC.2) (f0.keep hC.2) i0 p0 (q0.keep hC.2) g5a n6a).mono (fun u w' hr=>⟨⟨hr.1.form,hr.1 [] (by simp)⟩,hC.later hr.2⟩)⟩
  ·simp only[g0,if_false] at hi;cases hi
 refine O9b Z Z ?_;refine D1a h6a Z (fun w1 hw=>cp.keep (hw.1.keep0 []) List.not_mem_nil) (by rfl) Z ?_;refine d0a ?_;refine O9b Z Z ?_;refine D1a h6a Z (fun w1 hw=>cw.keep (hw.1.keep0 []) List.not_mem_nil) (by rfl) Z ?_;refine d0a ?_;refine O9b Z Z ?_;refine M0a (hv:=Z) (v:=.int .i64 _) Z ?_;refine d0a ?_;refine O9b Z Z ?_;refine j0a x4a Z (fun w1 hw=>by first|exact hw.2.cell (List.not_mem_nil) cb) Z ?_;refine d0a ?_;refine F8b (caps:=#[]) W6b Z Z Z Z Z Z ?_;rintro s0 ⟨_,_,_,rfl⟩;refine v1c ?_;rintro u0 ⟨a0,_⟩ ⟨-,c0⟩;refine b7a ?_;refine h0a a0 T7c Z Z (Y5b C W (stZ Ca Wa n K2a) [] _ _ _ _ _ (hC.keep (a0.keep0 [])) (hW.keep (a0.keep0 [])) ho hs c0 o0 b0) ?_;intro t0 m0 r0;refine r0a ⟨Z,?_⟩;refine b7a ?_;refine F0a (hv:=Z) (v:=.int .i64 _) Z ?_;refine r0a ⟨Z,?_⟩;refine h0c ?_;refine fR0 Z U (s0a Z ?_);exact⟨Z,m0.fin⟩
structure I1d (l:Nat) (Bs:List Nat) (w0:World) (J:List Nat→List (Int×Int)→World→Prop):Prop where
 start:∀Ps w,Below w0.heap.size w0 w→(∀g∈Ps,w0.heap.size≤g∧g<w.heap.size)→J Ps [] w
 own:∀Ps k w w',J Ps k w→Below w.heap.size w w'→J Ps k w'
 keep:∀Ps k w,J Ps k w→t0a Bs w0 w
 each:∀Ps k w a,J Ps k w→k.length+1≤4096→(0≤a.1∧a.1<64∧0≤a.2∧a.2<64)→Yld prog l #[.agg #[.int .i64 a.1,.int .i64 a.2]] w fun u w'=>u=.bool true∧J Ps (k++[a]) w'∧∀g∈Ps,w'.heap[g]?=w.heap[g]?
theorem w6b(Ca Wa C W:List Int)(li:List (Int×Int))(b0 l ga gb ta tb:Nat)(Bs:List Nat)(w0:World)(J:List Nat→List (Int×Int)→World→Prop)(v u i v' u' i':Value)(ha:o0a w0 (ga,ta,[v',u',i']))(hb:o0a w0 (gb,tb,[v,u,i]))(_:ga∉Bs)(a1:gb∉Bs)
 (hC:RdI Bs w0 v C) (hW:RdI Bs w0 u W) (G0:RdI Bs w0 v' Ca) (I0:RdI Bs w0 u' Wa) (hL:O3b Bs w0 i' li) (ho:L3b C W) (L0:L3b Ca Wa) (hs:N3a W=b0) (p1:b0≤6) (O0:N3a Wa≤12) (hi:slQ i) (b1:∀x∈li,0≤x.1∧x.1<4096∧0≤x.2∧x.2<4096) (n1:li.length≤4096) (hJ:I1d l Bs w0 J) :
 C0a prog 127 #[.func (.yield l) #[] #[],.pointer (some ⟨ga,0,none⟩),.pointer (some ⟨gb,0,none⟩)] w0 fun _ w'=>∃Ps,J Ps (li.map (prj Ca Wa C W)) w':=by
 obtain⟨A,nc,c,rfl⟩:=G0.form;obtain⟨A',nw,c',rfl⟩:=I0.form;obtain⟨I',q0,r0,rfl⟩:=hL.form;obtain⟨_,-,_⟩:=hL.len;have o1:2 ^ b0≤64:=Nat.pow_le_pow_right (n:=2) (j:=6) (by omega) (by omega);have S:=St.refl w0;have cA:Cells w0 ga 0 [.slice A nc c,.slice A' nw c',.slice I' q0 r0]:=fun j v hj=>by rw[Nat.zero_add];exact ha.cell hj
 have m1:[Value.slice A nc c,.slice A' nw c',.slice I' q0 r0].length=3:=Z;refine a0a func127 Z ntmps127 Z ?_;refine wO (S.k.a cA) [.f 0 0,.f 0 1] Z ⟨Z,Z,U⟩ (G0a M7b (vs:=[(0,.slice _ _ _),(1,.slice _ _ _)]) (cs:=[_,_,_]) Z Z Z Z ?_);refine g0a S g9a Z Z ?_;intro g4 w4 S4 X4 G4
 first|refine c0a (kk:=0) (vs:=[_,_,_]) S4 a9a Z Z Z Z Z Z Z ?_
 intro d1 i0 R0;dsimp only[i0a,List.set] at i0;refine lO0 Z U (f4a (n:=32) (c:=32) i0 U0a Z Z Z Z ?_);intro c0 r1 Q0 j1 i1;refine g0a Q0 k3d Z Z ?_;intro g5 w5 S5 X5 G5;refine f1a (kk:=0) S5 Q2c Z Z Z (by exact Nat.le_of_ble_eq_true Z) ?_;intro f1 a0 S0;refine lO0 Z U (F1a Z Z ?_);refine lCn 4 a0.k [] Z U ?_;have Y0:=hJ.start [g4,c0,g5] _ a0.fin (fun g hg=>by
  simp only[List.mem_cons,List.not_mem_nil,or_false] at hg;rcases hg with rfl|rfl|rfl
  ·exact⟨by simpa using a0.new 2 Z,a0.lt 2 Z⟩
  ·exact⟨by simpa using a0.new 1 Z,a0.lt 1 Z⟩
  ·exact⟨by simpa using a0.new 0 Z,a0.lt 0 Z⟩)
 refine wC (a0.k.a cA) [.f 0 2] Z ⟨Z,U⟩ (wL (fun μ D ε w=>D=[]∧∃k:Nat,(k+μ=li.length)∧(J [g4,c0,g5] ((li.take k).map (prj Ca Wa C W)) w)∧(o0a w (g4,89,[.slice A nc c,.slice A' nw c',.slice none 0 0]))∧(o0a w (c0,3,List.replicate 32 (.int .i64 0)))∧(o0a w (g5,28,[.slice (some ⟨c0,0,none⟩) 32 32]))∧ε 0=.func (.yield l) #[] #[]∧ε 6=.func (.func 128) #[] #[.pointer (some ⟨gb,0,none⟩),.pointer (some ⟨g4,0,none⟩),.pointer (some ⟨g5,0,none⟩)]∧ε 17=.slice I' q0 r0∧ε 18=.int .i64 q0∧ε 19=.int .i64 k) (μ:=li.length) ⟨Z,0,by omega,Y0,a0.blk 2 Z,a0.blk 1 Z,a0.blk 0 Z,Z,Z,Z,Z,Z⟩ ?_);rintro μ D ε w ⟨rfl,k,_,u0,v0,f0,y0,e0,e6,D0,E0,F0⟩;refine q0a 0 e0 (q0a 6 e6 (q0a 17 D0 (q0a 18 E0 (q0a 19 F0 ?_))));clear e0 e6 D0 E0 F0;have g0:=hJ.keep _ _ _ u0;have S:=St.refl w;have K0:=j5b g0 a1 hb;have H0:RdI [] w v C:=(hC.keep g0).less (by simp);have J0:RdI [] w u W:=(hW.keep g0).less (by simp);have m0:RdI [] w _ Ca:=(G0.keep g0).less (by simp);have n0:RdI [] w _ Wa:=(I0.keep g0).less (by simp);have Z0:=hL.keep g0;refine wB0 Z U (fun X0=>?_) fun X0=>?_
 ·obtain⟨x,U0,c1,V0,P0,s0,_,B0,A0,C0⟩:=RdS.get (Z0) (k) (by omega);obtain⟨W0,_⟩:=C0;have hx:=b1 x (e0a P0);obtain⟨a,b,rfl⟩:∃a b:Nat,x=((a:Int),(b:Int)):=⟨x.1.toNat,x.2.toNat,Prod.ext (Int.toNat_of_nonneg hx.1).symm (Int.toNat_of_nonneg hx.2.2.1).symm⟩;obtain rfl:V0=[Value.int .i64 (a:Int),.int .i64 (b:Int)]:=W0;simp only at hx;refine lO (S.k.b A0) [.x U0 c1,.v 0] Z ⟨⟨Z,B0⟩,⟨s0,by omega⟩,U⟩ (g0a S A1c Z Z ?_);intro g8 w8 S8 X8 G8
  first|refine c0a (kk:=0) (vs:=[_,_]) S8 K8b Z Z Z Z Z Z Z ?_
  intro g1 j0 T0;dsimp only[i0a,List.set] at j0;refine lC0 Z U (x0a b0a [0,1,2,3,4,5,6,7,8,9] [] [10,11] Z (Cl _ _ _ _) (Cl.start j0) ?_);refine qO0 Z U (E0a y3a Z Z Z ?_);refine j0a A0a Z (fun w1 hw=>by exact hw.1.cell 0 Z Z) Z ?_;refine D5b (caps:=#[.pointer (some ⟨gb,0,none⟩),.pointer (some ⟨g4,0,none⟩),.pointer (some ⟨g5,0,none⟩)]) q0c Z Z Z (fun w1 hw=>w3b hw ((fun w1 S1 X1=>o3c Ca Wa C W a gb g4 g5 _ _ _ c0 _ _ _ _ _ _ _ _ (a1a (S1.keep0 []) K0) (a1a (S1.keep0 []) v0) (a1a (S1.keep0 []) y0) (a1a (S1.keep0 []) f0) (H0.keep (S1.keep0 [])) (J0.keep (S1.keep0 [])) (m0.keep (S1.keep0 [])) (n0.keep (S1.keep0 [])) ho L0 O0 hi ⟨none,0,0,Z⟩) w1 hw.1 hw.2) fun _ _ h=>h) ?_;refine qO0 Z U (E0a y3a Z Z Z ?_);refine j0a A0a Z (fun w1 hw=>by exact hw.1.cell 0 Z Z) Z ?_;refine D5b (caps:=#[.pointer (some ⟨gb,0,none⟩),.pointer (some ⟨g4,0,none⟩),.pointer (some ⟨g5,0,none⟩)]) q0c Z Z Z (fun w1 hw=>w3b hw ((fun w1 S1 X1=>o3c Ca Wa C W b gb g4 g5 _ _ _ c0 _ _ _ _ _ _ _ _ (a1a (S1.keep0 []) K0) (a1a (S1.keep0 []) v0) (a1a (S1.keep0 []) y0) (a1a (S1.keep0 []) f0) (H0.keep (S1.keep0 [])) (J0.keep (S1.keep0 [])) (m0.keep (S1.keep0 [])) (n0.keep (S1.keep0 [])) ho L0 O0 hi ⟨none,0,0,Z⟩) w1 hw.1 hw.2) fun _ _ h=>h) ?_;refine B1a I4a (vs:=[(0,.int .i64 _),(1,.int .i64 _)]) (cs:=[_,_]) Z Z Z Z ?_;refine qD Z U ?_;rintro t1 ⟨p0,_⟩;have N0:=R1c (Ca:=Ca) (Wa:=Wa) (C:=C) ho.wid hs ((a:Int),(b:Int));refine g0c Z Z Z (hJ.each _ _ _ (prj Ca Wa C W ((a:Int),(b:Int))) (hJ.own _ _ _ _ u0 p0.fin) (by rw[List.length_map,List.length_take];omega) ⟨N0.1,by omega,N0.2.2.1,by omega⟩) ?_;rintro q1 s1 ⟨rfl,t0,d0⟩;have x0:=(a1a (p0.keep0 []) v0).same (d0 g4 (by simp));have o0:=(a1a (p0.keep0 []) f0).same (d0 c0 (by simp));have z0:=(a1a (p0.keep0 []) y0).same (d0 g5 (by simp));refine lP0 Z ⟨by omega,U⟩ ?_;exact⟨μ-1,by omega,Z,k+1,by omega,by rw[B0a P0,List.map_append];exact t0,x0,o0,z0,Z,Z,Z,Z,Z⟩
 refine lF0 Z U (M1a Z ?_);exact⟨_,(show li.take k=li from List.take_of_length_le (by omega))▸u0⟩
def Q3b(a b:List Int):List Int:=Lib.compact (J3a (a++b))
theorem R3b(d:Array Int):∀m,(∀i j,i≤j→j<m→d[i]! ≤ d[j]!)→(Lib.compactUpTo d m).Pairwise (·<·)∧∀x,x∈Lib.compactUpTo d m↔∃j,j<m∧d[j]! = x:=by
 intro m
 induction m with
 | zero=>intro _;simp[Lib.compactUpTo]
 | succ m ih =>
   intro a0;obtain⟨h1,h2⟩:=ih (fun i j d0 hj=>a0 i j d0 (by omega));rw[Lib.compactUpTo_succ];by_cases hk:Lib.keeps d m=true
   ·rw[if_pos hk];refine⟨List.pairwise_append.2 ⟨h1,by simp,fun x hx y hy=>?_⟩,fun x=>?_⟩
    ·simp at hy;subst hy;obtain⟨j,hj,rfl⟩:=(h2 x).1 hx;have h3:=a0 j (m-1) (by omega) (by omega);have h4:=a0 (m-1) m (by omega) (by omega);have h5:d[m]! ≠ d[m-1]! := by
      simp only[Lib.keeps,decide_eq_true_eq] at hk;rcases hk with h|h
      ·omega
      ·exact h
     omega
    ·simp only[List.mem_append,h2,List.mem_singleton];constructor
     ·rintro(⟨j,hj,rfl⟩|rfl)
      ·exact⟨j,by omega,Z⟩
      ·exact⟨m,by omega,Z⟩
     ·rintro⟨j,hj,rfl⟩;by_cases b0:j=m
      ·subst b0;exact .inr Z
      ·exact .inl ⟨j,by omega,Z⟩
   ·rw[if_neg hk];have c0:¬(m=0∨d[m]! ≠ d[m-1]!):=by simpa[Lib.keeps] using hk
    have h5:d[m]! = d[m-1]! := Classical.byContradiction fun h=>c0 (.inr h);have h6:m≠0:=fun h=>c0 (.inl h);refine⟨by simpa using h1,fun x=>?_⟩;simp only[List.append_nil,h2];constructor
    ·rintro⟨j,hj,rfl⟩;exact⟨j,by omega,Z⟩
    ·rintro⟨j,hj,rfl⟩;by_cases b0:j=m
     ·subst b0;exact⟨j-1,by omega,h5.symm⟩
     ·exact⟨j,by omega,Z⟩
theorem S6a(a b:List Int):(Q3b a b).Pairwise (·<·)∧∀x,x∈Q3b a b↔x∈a∨x∈b:=by
 have hs:(J3a (a++b)).Pairwise (fun x y=>x≤y):=by
  have:=List.pairwise_mergeSort (le:=fun(x y:Int)=>decide (x≤y)) (fun a b c=>by simp;omega) (fun a b=>by simp;omega) (a++b);simpa[J3a] using this
 have hm:∀x,x∈J3a (a++b)↔x∈a∨x∈b:=fun x=>by simp[J3a]
 generalize hz:J3a (a++b)=zs at hs hm;have hu:Q3b a b=Lib.compactUpTo zs.toArray zs.length:=by unfold Q3b Lib.compact;rw[hz]
 have hg:∀i,i<zs.length→zs.toArray[i]! = zs.getD i 0:=fun i hi=>by simp[hi]
 obtain⟨h1,h2⟩:=R3b zs.toArray zs.length (fun i j a0 hj=>by
  rw[hg i (by omega),hg j hj];by_cases he:i=j
  ·subst he;exact Int.le_refl _
  ·have:=List.pairwise_iff_getElem.1 hs i j (by omega) hj (by omega);simpa[show i<zs.length by omega,hj] using this)
 rw[hu];refine⟨h1,fun x=>?_⟩;rw[h2,←hm];constructor
 ·rintro⟨j,hj,rfl⟩;rw[hg j hj];simp[hj]
 ·intro hx;obtain⟨j,hj,rfl⟩:=List.getElem_of_mem hx;exact⟨j,hj,by rw[hg j hj];simp[hj]⟩
theorem St.changedO{M:List Nat}{w0 w w':World}{L:List Ent}{G:Option Nat}{t t':Nat}{cs a0:List Value}(S:St M w0 w L)(i:Nat)(hi:L[i]?=some (G,t,cs))(hb:D0a G.toList w w')(h1:∀g,G=some g→o0a w' (g,t',a0)):St M w0 w' (L.set i (G,t',a0)):=by
 cases G with
 | some g=>exact S.changed1 i hi hb (h1 g Z)
 | none =>
   have hB:Below w.heap.size w w':=hb.nil;exact S.replace i hi (S.later hB).below (fun b b0 _=>hb.block b b0 (by simp)) (fun g hg=>by cases hg)
theorem St.pushO{M:List Nat}{w0 w w1:World}{L:List Ent}{G:Option Nat}{el:Nat}{cs:List Value}(S1:St M w0 w1 L)(Sw:St M w0 w L)(h:∀g,G=some g→w.heap.size≤g∧o0a w1 (g,el,cs)):St M w0 w1 ((G,el,cs)::L):=by
 cases G with
 | none=>exact(S1.nilEnt el).changedO 0 Z (D0a.refl _ _) (fun g hg=>by cases hg)
 | some g=>exact S1.push_new Sw (h g Z).2 (h g Z).1
theorem D0a.keepO{G:List Nat}{w w':World}(h:D0a G w w'):t0a G w w':=⟨h.size,h.block⟩
theorem L3c(w:World)(G:Option Nat)(el:Nat)(cs:List Value)(v:Value)(zs:List Int)(hR:m4a G 1 zs.length cs v (zs.map (Value.int .i64)))(hb:∀g,G=some g→o0a w (g,el,cs))(hz:zs.length≤1000000):
 C0a prog 68 #[v] w fun _ w'=>∃d0,D0a G.toList w w'∧(∀g,G=some g→o0a w' (g,el,d0))∧m4a G 1 (J3a zs).length d0 v ((J3a zs).map (Value.int .i64)):=by
 have b0:(J3a zs).length=zs.length:=by simp[J3a]
 obtain⟨_,⟨rfl,rfl,a0⟩|⟨g,c0,rfl,rfl,_,q2,_,q4⟩⟩:=hR
 ·refine Calls.mono (Tryz.slices_Sort_int_none none 0 w) ?_;rintro e w' ⟨rfl,rfl⟩;exact⟨_,Z,cs,D0a.refl _ _,fun g hg=>(by cases hg),by rw[b0,a0,List.length_eq_zero_iff.1 a0];simp[J3a],.inl ⟨Z,Z,by rw[b0];exact a0⟩⟩
 ·refine(i3c w g el c0 cs zs (hb g Z) (by simpa using q4) hz).mono ?_;rintro _ w' ⟨B,h1⟩;refine⟨_,B,fun g' hg=>(by cases hg;exact h1),by simp,.inr ⟨g,c0,Z,by rw[b0],by omega,q2,?_,?_⟩⟩
  ·rw[List.length_append,List.length_map,List.length_drop,b0];omega
  ·rw[Nat.mul_one];exact List.take_left' (by simp)
theorem z0b(w:World)(G:Option Nat)(el:Nat)(cs:List Value)(v:Value)(zs:List Int)(hR:m4a G 1 zs.length cs v (zs.map (Value.int .i64)))(hb:∀g,G=some g→o0a w (g,el,cs))(hz:zs.length≤1000000:=by omega):
 C0a prog 70 #[v] w fun v' w'=>∃c0,D0a G.toList w w'∧(∀g,G=some g→o0a w' (g,el,c0))∧m4a G 1 (Lib.compact zs).length c0 v' ((Lib.compact zs).map (Value.int .i64)):=by
 have e0:=Lib.compact_length_le zs;obtain⟨_,⟨rfl,rfl,a0⟩|⟨g,b0,rfl,rfl,_,q2,_,q4⟩⟩:=hR
 ·have d0:=List.length_eq_zero_iff.1 a0;subst d0;refine Calls.mono (Tryz.slices_Compact_int_empty none 0 w) ?_;rintro e w' ⟨rfl,rfl⟩;exact⟨_,Z,cs,D0a.refl _ _,fun g hg=>(by cases hg),by simp[Lib.compact,Lib.compactUpTo],.inl ⟨Z,Z,by simp[Lib.compact,Lib.compactUpTo]⟩⟩
 ·refine(X8b w g el b0 cs zs (hb g Z) (by simpa using q4) (by omega) hz (by omega)).mono ?_;rintro _ w' ⟨rfl,B,h1⟩;refine⟨_,B,fun g' hg=>(by cases hg;exact h1),by simp,.inr ⟨g,b0,Z,Z,by omega,q2,?_,?_⟩⟩
  ·rw[List.length_append,List.length_map,List.length_append,List.length_replicate,List.length_drop];omega
  ·rw[Nat.mul_one,List.map_append,List.append_assoc];exact List.take_left' (by simp)
theorem m5b(w:World)(G:Option Nat)(cs:List Value)(v:Value)(l:List (Int×Int))(hR:e2a Y8a 2 [] w G cs v l)(hb:∀g,G=some g→o0a w (g,72,cs))(hz:l.length≤1000000):
 C0a prog 53 #[v] w fun v' w'=>∃a0,D0a G.toList w w'∧(∀g,G=some g→o0a w' (g,72,a0))∧slQ v'∧∀M,(∀g,G=some g→g∉M)→(∀x∈l,i64 x.1∧i64 x.2)→O3b M w' v' (ddP l):=by
 have e0:=d1c l;have d0:=hR.toVP;obtain⟨_,⟨rfl,rfl,_⟩|⟨g,b0,rfl,rfl,_,q2,_,q4⟩⟩:=d0
 ·refine(T8a w 0 none).mono ?_;rintro _ w' ⟨rfl,B⟩;refine⟨cs,⟨B.os,B.tape,B.output,B.size,fun k hk _=>B.block k hk⟩,fun g hg=>(by cases hg),⟨none,0,0,Z⟩,fun M _ _=>?_⟩;exact⟨none,0,0,Z,by omega,Nat.le_refl _,by unfold maxLen;omega,by omega,fun h=>absurd h (by omega)⟩
 ·refine(O8a g b0 l cs w (hb g Z) q4 (by omega) hz).mono ?_;rintro _ w' ⟨rfl,B,a0,_,h2,h3⟩;exact⟨a0,B,fun g' hg=>(by cases hg;exact h2),⟨_,_,_,Z⟩,fun M hM c0=>m8b h3 (fun x hx=>c0 x (u0b.1 hx)) q2 h2 (hM g Z)⟩
section
variable {P:Program} {r:Option Nat} {N:Nat} {l:List Oper} {D:List Deferred} {C:World→Prop} {K:List Deferred→Env→World→Prop} {pur:Nat→Bool}
def H8a(e:Env)(d:Option Nat)(v:Value):Env:=match d with|some d=>upd e d v|none=>e
def X0b(N:Nat)(o:Oper):Prop:=∀d,o.dst=some d→d<N
theorem p4a{a:Act}(o:Oper)(v:Value)(h:X0b a.tmps.size o):O0a (a.put o.dst v)=H8a (O0a a) o.dst v:=by
 cases hd:o.dst with
 | none=>rfl
 | some d=>exact T0a v (h d hd)
theorem O3a(a:Act)(o:Oper)(v:Value):(a.put o.dst v).tmps.size=a.tmps.size:=by
 cases o.dst<;>simp[Act.put]
theorem i2a(a:Act)(o:Oper)(v:Value):(a.put o.dst v).defers=a.defers:=by
 cases o.dst<;>simp[Act.put]
theorem q4a{e:Env}{o:Oper}{v:Value}(hN:X0b N o)(hz:∀i,N≤i→e i=undef):∀i,N≤i→H8a e o.dst v i=undef:=by
 cases hd:o.dst with
 | none=>exact hz
 | some d=>exact n1a (hN d hd) hz
theorem q2a{o:Oper}{K1:List Deferred→Env→World→Prop}{e e1:Env}{w:World}(hN:X0b N o)(j0:Op.isSelect o.op=false)(d0:∀c,o.op≠.defer c)(hz:∀i,N≤i→e1 i=undef)
 (b0:∀s∈Oper.looksAt l.toArray o,e s=e1 s) (h:WL P r N l.toArray [o] K1 D e1 w):WL P r N l.toArray [o] (fun D' e' w'=>∃v,e'=H8a e o.dst v∧K1 D' (H8a e1 o.dst v) w') D e w:=by
 unfold WL at *;intro a Q hs hD he hK;obtain⟨a1,i0,g0,e0⟩:=r6a e1 N D hz;have h1:=h a1 (fun ex a' w'=>ex=.normal∧K1 a'.defers (O0a a') w') i0 g0 e0 (fun a' w' _ hk=>⟨Z,hk⟩);have hw:Region.wanted o (yielded l.toArray a.tmps)=Region.wanted o (yielded l.toArray a1.tmps):=by rw[Z0a,Z0a,he,e0];exact Q0a b0
 have c0:∀(v:Value) (w':World),K1 (a1.put o.dst v).defers (O0a (a1.put o.dst v)) w'→Q .normal (a.put o.dst v) w':=by
  intro v w' hk;rw[p4a o v (by rw[i0];exact hN),e0,i2a,g0] at hk;refine hK _ _ (by rw[O3a,hs]) ⟨v,by rw[p4a o v (by rw[hs];exact hN),he],?_⟩;rw[i2a,hD];exact hk
 simp only[wpListIn] at h1 ⊢;rw[hw]
 split
 ·rename_i n0;simp only[n0,if_true] at h1;refine⟨z0a _ _ _,?_⟩;have h4:=h1.2;have m0:Oper.semAt (fc r).round a.eval o=Oper.semAt (fc r).round a1.eval o:=by
   rw[Oper.semAt_eq _ _ _ d0,Oper.semAt_eq _ _ _ d0,j2a,j2a,he,e0];exact m1a j0 b0
  rw[m0]
  revert h4
  generalize (Oper.semAt (fc r).round a1.eval o).run P w=p0;intro h4;cases p0 with
  | ok x w' =>
    cases x with
    | value v=>simp only[Oper.uponIn] at h4 ⊢;exact c0 v w' h4.2
    | skip=>simp only[Oper.uponIn] at h4 ⊢;exact c0 undef w' h4.2
    | defer dd =>
      simp only[Oper.uponIn] at h4 ⊢;have hk:=h4.2;have o0:O0a ({ a1 with defers:=dd::a1.defers }:Act)=e1:=e0;have ee:O0a ({ a with defers:=dd::a.defers }:Act)=e:=he;rw[p4a (a:={ a1 with defers:=dd::a1.defers }) o undef (by rw[show({ a1 with defers:=dd::a1.defers }:Act).tmps.size=N from i0];exact hN),o0,i2a] at hk;refine hK _ _ (by rw[O3a];exact hs) ⟨undef,by rw[p4a (a:={ a with defers:=dd::a.defers }) o undef (by rw[show({ a with defers:=dd::a.defers }:Act).tmps.size=N from hs];exact hN),ee],?_⟩;rw[i2a];show K1 (dd::a.defers) _ _;rw[hD,←g0];exact hk
    | enter f args =>
      simp only[Oper.uponIn] at h4 ⊢;exact⟨h4.1,CallsIn.mono h4.2 (fun en q0 hh=>by
       cases en
       ·exact c0 _ _ hh.2
       ·exact absurd hh.1 (by simp)
       ·obtain⟨a0,w0,hh⟩:=hh;exact absurd hh.1 (by simp))⟩
    | row r0 args=>simp only[Oper.uponIn] at h4 ⊢;exact⟨h4.1,RowsIn.mono h4.2 (fun _ _ hh=>c0 _ _ hh.2)⟩
    | round l' f tmps f0 body =>
      simp only[Oper.uponIn] at h4 ⊢;exact⟨h4.1,RoundIn.mono h4.2 (fun en q0 hh=>by
       cases en
       ·exact c0 _ _ hh.2
       ·exact absurd hh.1 (by simp)
       ·obtain⟨a0,w0,hh⟩:=hh;exact absurd hh.1 (by simp))⟩
    | _=>simp only[Oper.uponIn] at h4
  | halt x w'=>cases x<;>simp only[Oper.uponIn] at h4 ⊢<;>exact absurd h4.1 (by simp)
 ·rename_i n0;simp only[n0] at h1;exact⟨z0a _ _ _,c0 undef w h1.2.2⟩
theorem w8b{o:Oper}{K1:List Deferred→Env→World→Prop}{e:Env}{w:World}(hN:X0b N o)(hz:∀i,N≤i→e i=undef)
 (h:WL P r N l.toArray [o] K1 D e w):∃D' v w',K1 D' (H8a e o.dst v) w':=by
 unfold WL at h;obtain⟨a1,e0,f0,d0⟩:=r6a e N D hz;have h1:=h a1 (fun ex a' w'=>ex=.normal∧K1 a'.defers (O0a a') w') e0 f0 d0 (fun a' w' _ hk=>⟨Z,hk⟩);have b0:∀(v:Value) (w':World),K1 (a1.put o.dst v).defers (O0a (a1.put o.dst v)) w'→∃D' v w',K1 D' (H8a e o.dst v) w':=by
  intro v w' hk;rw[p4a o v (by rw[e0];exact hN),d0] at hk;exact⟨_,v,w',hk⟩
 simp only[wpListIn] at h1
 split at h1
 ·have h4:=h1.2
  revert h4
  generalize (Oper.semAt (fc r).round a1.eval o).run P w=g0;intro h4;cases g0 with
  | ok x w' =>
    cases x with
    | value v=>simp only[Oper.uponIn] at h4;exact b0 v w' h4.2
    | skip=>simp only[Oper.uponIn] at h4;exact b0 undef w' h4.2
    | defer dd =>
      simp only[Oper.uponIn] at h4;have hk:=h4.2;rw[p4a (a:={ a1 with defers:=dd::a1.defers }) o undef (by rw[show({ a1 with defers:=dd::a1.defers }:Act).tmps.size=N from e0];exact hN),show O0a ({ a1 with defers:=dd::a1.defers }:Act)=e from d0] at hk;exact⟨_,_,_,hk⟩
    | enter f args =>
      simp only[Oper.uponIn] at h4;obtain⟨en,w2,_,hR,_⟩:=h4.2.2 [] (room_wide _);cases en
      ·exact b0 _ _ hR.2
      ·exact absurd hR.1 (by simp)
      ·obtain⟨a0,w0,hh⟩:=hR;exact absurd hh.1 (by simp)
    | row i0 args =>
      simp only[Oper.uponIn] at h4;obtain⟨v,w2,hR,_⟩:=h4.2 default [] (room_wide _);exact b0 _ _ hR.2
    | round l' f tmps c0 body =>
      simp only[Oper.uponIn] at h4;obtain⟨en,w2,hR,_⟩:=h4.2.2 default [] (room_wide _);cases en
      ·exact b0 _ _ hR.2
      ·exact absurd hR.1 (by simp)
      ·obtain⟨a0,w0,hh⟩:=hR;exact absurd hh.1 (by simp)
    | _=>simp only[Oper.uponIn] at h4
  | halt x w'=>cases x<;>simp only[Oper.uponIn] at h4<;>exact absurd h4.1 (by simp)
 ·exact b0 undef w h1.2.2
def WN(P:Program)(r:Option Nat)(N:Nat)(l:List Oper)(C:World→Prop)(pur:Nat→Bool)(K:List Deferred→Env→World→Prop)(D:List Deferred):List Nat→Env→World→Prop
 | [],e,w=>C w∧K D e w
 | i::rest,e,w=>C w∧∃o,l[i]?=some o∧X0b N o ∧
  ((pur i=true∧∃d v,o.dst=some d∧PV P l C o e v∧WN P r N l C pur K D rest (upd e d v) w) ∨
   (pur i=false∧WL P r N l.toArray [o] (fun D' e' w'=>D'=D∧WN P r N l C pur K D rest e' w') D e w))
theorem WN.inC{a0:List Nat}{e:Env}{w:World}(h:WN P r N l C pur K D a0 e w):C w:=by cases a0<;>exact h.1
def e4a(l:List Oper)(pur:Nat→Bool)(j i:Nat):Bool :=
 match l[j]?,l[i]? with
 | some p,some q=>(pur i||pur j)&&(match p.dst,q.dst with
   | some c,some d=>!(c==d)&&!(Oper.looksAt l.toArray p).contains d&&!(Oper.looksAt l.toArray q).contains c
   | some c,none=>pur j&&!(Oper.looksAt l.toArray q).contains c
   | none,some d=>pur i&&!(Oper.looksAt l.toArray p).contains d
   | _,_=>false)
 | _,_=>false
structure f4d (l:List Oper) (pur:Nat→Bool) (j i:Nat) (o1 o2:Oper):Prop where
 pur:pur i=true∨pur j=true
 dst:∀c d,o1.dst=some c→o2.dst=some d→c≠d
 p:∀d,o2.dst=some d→d∉Oper.looksAt l.toArray o1
 q:∀c,o1.dst=some c→c∉Oper.looksAt l.toArray o2
theorem u4a{j i:Nat}{p q:Oper}(h:e4a l pur j i=true)(hj:l[j]?=some p)(hi:l[i]?=some q):f4d l pur j i p q:=by
 unfold e4a at h;simp only[hj,hi,Bool.and_eq_true,Bool.or_eq_true] at h;obtain⟨h1,h2⟩:=h;cases hc:p.dst with
 | none =>
   cases hd:q.dst with
   | none=>simp[hc,hd] at h2
   | some d =>
     simp only[hc,hd,Bool.and_eq_true,Bool.not_eq_true',List.contains_eq_mem,decide_eq_false_iff_not] at h2;exact⟨h1,fun c d h=>(by rw[hc] at h;cases h),fun x hx=>(by rw[hd] at hx;cases hx;exact h2.2),fun c h=>(by rw[hc] at h;cases h)⟩
 | some c =>
   cases hd:q.dst with
   | none =>
     simp only[hc,hd,Bool.and_eq_true,Bool.not_eq_true',List.contains_eq_mem,decide_eq_false_iff_not] at h2;exact⟨h1,fun c d _ h=>(by rw[hd] at h;cases h),fun d h=>(by rw[hd] at h;cases h),fun x hx=>(by rw[hc] at hx;cases hx;exact h2.2)⟩
   | some d =>
     simp only[hc,hd,Bool.and_eq_true,Bool.not_eq_true',beq_eq_false_iff_ne,List.contains_eq_mem,decide_eq_false_iff_not] at h2;exact⟨h1,fun x y hx hy=>(by rw[hc] at hx;rw[hd] at hy;cases hx;cases hy;exact h2.1.1),fun x hx=>(by rw[hd] at hx;cases hx;exact h2.1.2),fun x hx=>(by rw[hc] at hx;cases hx;exact h2.2)⟩
theorem t4a{e:Env}{o:Oper}{u:Value}{s:Nat}{X:List Nat}(hc:∀c,o.dst=some c→c∉X)(hs:s∈X):H8a e o.dst u s=e s:=by
 cases hd:o.dst with
 | none=>rfl
 | some c=>exact o1a (hc c hd) hs
theorem x7a(e:Env){p q:Oper}(u v:Value)(h:∀c d,p.dst=some c→q.dst=some d→c≠d):H8a (H8a e p.dst u) q.dst v=H8a (H8a e q.dst v) p.dst u:=by
 cases hc:p.dst with
 | none=>rfl
 | some c =>
   cases hd:q.dst with
   | none=>rfl
   | some d=>exact w2a e u v (h c d hc hd)
theorem WN.first(a0:e3a l=true){i:Nat}{g0:List Nat}:∀(e0:List Nat) (e:Env) (w:World),(∀j∈e0,e4a l pur j i=true)→(∀i,N≤i→e i=undef)→WN P r N l C pur K D (e0++i::g0) e w →
 ∃o,l[i]?=some o∧X0b N o ∧
  ((pur i=true∧∃d v,o.dst=some d∧PV P l C o e v∧WN P r N l C pur K D (e0++g0) (upd e d v) w) ∨
   (pur i=false∧WL P r N l.toArray [o] (fun D' e' w'=>D'=D∧∃v,e'=H8a e o.dst v∧WN P r N l C pur K D (e0++g0) e' w') D e w)):=by
 intro e0
 induction e0 with
 | nil =>
   intro e w _ hz h;obtain⟨hC,o,ho,hN,h⟩:=h;refine⟨o,ho,hN,?_⟩;rcases h with h|⟨hp,h⟩
   ·exact .inl h
   ·refine .inr ⟨hp,?_⟩;have h2:=q2a (e:=e) (e1:=e) hN (u0a a0 ho).1 (u0a a0 ho).2 hz (fun _ _=>rfl) h;unfold WL at *;exact fun a Q hs hD he hK=>h2 a Q hs hD he (fun a' w' m0 ⟨v,h1,h3,h4⟩=>hK a' w' m0 ⟨h3,v,h1,by rw[h1];exact h4⟩)
 | cons q e0 ih =>
   intro e w i0 hz h;obtain⟨hC,p,hp,d0,h⟩:=h;have hq:=i0 q (by simp);have b0:∀j∈e0,e4a l pur j i=true:=fun j hj=>i0 j (by simp[hj]);rcases h with⟨j0,c,u,hc,hu,h⟩|⟨j0,h⟩
   ·obtain⟨o,ho,hN,h2⟩:=ih (upd e c u) w b0 (n1a (d0 c hc) hz) h;have hI:=u4a hq hp ho;refine⟨o,ho,hN,?_⟩;rcases h2 with⟨f0,d,v,hd,hv,h2⟩|⟨f0,h2⟩
    ·refine .inl ⟨f0,d,v,hd,hv.congr (u0a a0 ho).1 (fun s hs=>o1a (hI.q c hc) hs),hC,p,hp,d0,.inl ⟨j0,c,u,hc,hu.congr (u0a a0 hp).1 (fun s hs=>(o1a (hI.p d hd) hs).symm),?_⟩⟩;rw[←w2a _ _ _ (hI.dst c d hc hd)];exact h2
    ·refine .inr ⟨f0,?_⟩;have h3:=q2a (e:=e) (e1:=upd e c u) hN (u0a a0 ho).1 (u0a a0 ho).2 (n1a (d0 c hc) hz) (fun s hs=>(o1a (hI.q c hc) hs).symm) h2;unfold WL at *;refine fun a Q hs hD he hK=>h3 a Q hs hD he (fun a' w' m0 hh=>hK a' w' m0 ?_);obtain⟨v,h1,h4,_,h5,h6⟩:=hh;refine⟨h4,v,h1,?_⟩;rw[h1];refine⟨h6.inC,p,hp,d0,.inl ⟨j0,c,u,hc,hu.congr (u0a a0 hp).1 (fun s hs=>(t4a hI.p hs).symm),?_⟩⟩;have e1:H8a (upd e c u) o.dst v=upd (H8a e o.dst v) c u:=by
      have:=x7a e (p:=p) (q:=o) u v hI.dst;rw[hc] at this;exact this
     rw[←e1];exact h6
   ·have h0:=q2a (e:=e) (e1:=e) d0 (u0a a0 hp).1 (u0a a0 hp).2 hz (fun _ _=>rfl) h;obtain⟨_,u1,w1,_,r0,_,h1⟩:=w8b d0 hz h0;rw[←r0] at h1;obtain⟨o,ho,hN,h2⟩:=ih (H8a e p.dst u1) w1 b0 (q4a d0 hz) h1;have hI:=u4a hq hp ho;have f0:pur i=true:=by
     rcases hI.pur with h|h
     ·exact h
     ·rw[j0] at h;cases h
    rcases h2 with⟨_,d,v0,hd,s0,_⟩|⟨c0,_⟩
    ·have n0:PV P l C o e v0:=s0.congr (u0a a0 ho).1 (fun s hs=>t4a hI.q hs);refine⟨o,ho,hN,.inl ⟨f0,d,v0,hd,n0,hC,p,hp,d0,.inr ⟨j0,?_⟩⟩⟩;have h3:=q2a (e:=upd e d v0) (e1:=e) d0 (u0a a0 hp).1 (u0a a0 hp).2 hz (fun s hs=>o1a (hI.p d hd) hs) h;unfold WL at *;refine fun a Q hs hD he hK=>h3 a Q hs hD he (fun a' w' m0 hh=>hK a' w' m0 ?_);obtain⟨u,hu,o0,h4⟩:=hh;refine⟨o0,?_⟩;obtain⟨o',q0,_,h5⟩:=ih (H8a e p.dst u) w' b0 (q4a d0 hz) h4;obtain rfl:o'=o:=Option.some.inj (q0.symm.trans ho);rcases h5 with⟨_,d',v,p0,hv,h5⟩|⟨c0,_⟩
     ·obtain rfl:d'=d:=Option.some.inj (p0.symm.trans hd);have hv':PV P l C o' e v:=hv.congr (u0a a0 ho).1 (fun s hs=>t4a hI.q hs);obtain rfl:v=v0:=PV.uniq hC hv' n0;have e1:upd (H8a e p.dst u) d' v=H8a (upd e d' v) p.dst u:=by
       have:=x7a e (p:=p) (q:=o') u v hI.dst;rw[hd] at this;exact this
      rw[hu,←e1];exact h5
     ·rw[f0] at c0;cases c0
    ·rw[f0] at c0;cases c0
def M6b(l:List Oper)(pur:Nat→Bool)(x y:Nat):List Nat→List Nat→Bool
 | _,[]=>true
 | acc,i::rest=>(acc.all fun j=>(v3a l i).contains j||e4a l pur j i||(j==x&&i==y))&&M6b l pur x y (acc++[i]) rest
theorem f1b{x y:Nat}:∀(ix acc:List Nat),M6b l pur x y acc ix=true→∀(b0:List Nat) (i:Nat) (a0:List Nat),ix=b0++i::a0→∀j∈acc++b0,j∈v3a l i∨e4a l pur j i=true∨(j=x∧i=y)
 | [],_,_,b0,i,a0,h=>by simp at h
 | k::ix,acc,h,b0,i,a0,he=>by
   simp only[M6b,Bool.and_eq_true] at h;cases b0 with
   | nil =>
     simp at he;obtain⟨rfl,-⟩:=he;intro j hj;rw[List.append_nil] at hj;have:=List.all_eq_true.1 h.1 j hj;simp only[Bool.or_eq_true,List.contains_eq_mem,decide_eq_true_eq,Bool.and_eq_true,beq_iff_eq] at this;rcases this with(h|h)|h
     ·exact .inl h
     ·exact .inr (.inl h)
     ·exact .inr (.inr h)
   | cons q b0 =>
     simp at he;obtain⟨rfl,he⟩:=he;intro j hj;exact f1b ix (acc++[k]) h.2 b0 i a0 he j (by simpa using hj)
def L5a(ix:List Nat)(f:Nat→Bool):List Nat:=ix.filter fun i=>!f i
theorem p9b{ix:List Nat}(c0:ix.Nodup)(f:Nat→Bool){i:Nat}(hi:i∈ix)(hf:f i=false):∃b0 a0 P Q,ix=P++i::Q∧L5a ix f=b0++i::a0∧L5a ix (fun j=>f j||j==i)=b0++a0∧∀j∈b0,j∈P∧f j=false:=by
 obtain⟨P,Q,rfl⟩:=List.append_of_mem hi;rw[List.nodup_append] at c0;obtain⟨_,h2,h3⟩:=c0;rw[List.nodup_cons] at h2;refine⟨P.filter fun j=>!f j,Q.filter fun j=>!f j,P,Q,Z,?_,?_,?_⟩
 ·unfold L5a;rw[List.filter_append,List.filter_cons];simp[hf]
 ·unfold L5a;rw[List.filter_append,List.filter_cons];simp only[beq_self_eq_true,Bool.or_true,Bool.not_true,Bool.false_eq_true,if_false]
  congr 1
  ·apply List.filter_congr;intro j hj;have:(j==i)=false:=by simp;exact fun e=>h3 j hj i (by simp) e
   simp[this]
  ·apply List.filter_congr;intro j hj;have:(j==i)=false:=by simp;exact fun e=>h2.1 (e▸hj)
   simp[this]
 ·intro j hj;rw[List.mem_filter] at hj;exact⟨hj.1,by simpa using hj.2⟩
def P7b:List Nat→Bool
 | []=>true
 | x::l=>!l.contains x&&P7b l
theorem a8a:∀{l:List Nat},P7b l=true→l.Nodup
 | [],_=>List.nodup_nil
 | x::l,h=>by
   simp only[P7b,Bool.and_eq_true,Bool.not_eq_true',List.contains_eq_mem,decide_eq_false_iff_not] at h;exact List.nodup_cons.2 ⟨h.1,a8a h.2⟩
def C9b(n:Nat)(ix:List Nat):Bool:=P7b ix&&(List.range n).all (fun i=>ix.contains i)&&ix.all (fun i=>decide (i<n))
def N2d(l:List Oper)(pur:Nat→Bool)(a c:Nat)(ixA ixB:List Nat):Bool :=
 e3a l&&((List.range l.length).all fun i=>(V0a l i).all fun j=>decide (j<i))&&C9b l.length ixA&&C9b l.length ixB&&M6b l pur a c [] ixA&&M6b l pur c a [] ixB &&
 ((List.range l.length).all fun i=>pur i||i==a||i==c||((v3a l i).contains a&&(v3a l i).contains c))&&!(a==c)&&!pur a&&!pur c
theorem WN.step{ix:List Nat}{x y:Nat}(f0:e3a l=true)(c0:ix.Nodup)(e0:M6b l pur x y [] ix=true){f:Nat→Bool}(a0:∀i,f i=true→∀j∈V0a l i,f j=true){i:Nat}{o:Oper}(hi:i∈ix)(ho:l[i]?=some o)(b0:f i=false)
 (g0:∀j∈V0a l i,f j=true) (j0:i=y→f x=true) {e:Env} {w:World} (hz:∀i,N≤i→e i=undef) (h:WN P r N l C pur K D (L5a ix f) e w) :
 X0b N o∧((pur i=true∧∃d v,o.dst=some d∧PV P l C o e v∧WN P r N l C pur K D (L5a ix (fun j=>f j||j==i)) (upd e d v) w) ∨
  (pur i=false∧WL P r N l.toArray [o] (fun D' e' w'=>D'=D∧∃v,e'=H8a e o.dst v∧WN P r N l C pur K D (L5a ix (fun j=>f j||j==i)) e' w') D e w)):=by
 obtain⟨m0,_,A,B,h1,h2,h3,h4⟩:=p9b c0 f hi b0;rw[h2] at h;have i0:∀j∈v3a l i,f j=true:=Z2a a0 _ _ g0;obtain⟨o',d0,hN,h5⟩:=WN.first f0 m0 e w (fun j hj=>by
  obtain⟨h6,h7⟩:=h4 j hj;rcases f1b ix [] e0 A i B h1 j (by simpa using h6) with h|h|⟨h,h'⟩
  ·have:=i0 j h;rw[h7] at this;cases this
  ·exact h
  ·subst h;have:=j0 h';rw[h7] at this;cases this) hz h
 obtain rfl:o'=o:=Option.some.inj (d0.symm.trans ho);rw[h3];exact⟨hN,h5⟩
theorem x3d{id:Nat}{n t:List Deferred→Env→World→Prop}{b:Nat→List Deferred→Env→World→Prop}{e:Env}{w:World}(hm:P.follows .mixedOrders=true)(pur:Nat→Bool)(a c:Nat)(a0 b0:List Nat)
 (E0:N2d l pur a c a0 b0=true) (C:World→Prop) (hA:WN P r N l C pur n D a0 e w.drew) (hB:WN P r N l C pur n D b0 e w.drew):W P r N (.region id l.toArray true) ⟨n,b,t⟩ D e w:=by
 unfold N2d C9b at E0;simp only[Bool.and_eq_true,Bool.not_eq_true',beq_eq_false_iff_ne] at E0;obtain⟨⟨⟨⟨⟨⟨⟨⟨⟨t0,H0⟩,⟨d0,L0⟩,I0⟩,⟨e0,N0⟩,J0⟩,C0⟩,D0⟩,O0⟩,Q0⟩,_⟩,_⟩:=E0;have d0:=a8a d0;have e0:=a8a e0;have F0:∀i,i<l.length→i∈a0:=fun i hi=>by simpa using List.all_eq_true.1 L0 i (List.mem_range.2 hi)
 have inB:∀i,i<l.length→i∈b0:=fun i hi=>by simpa using List.all_eq_true.1 N0 i (List.mem_range.2 hi)
 have hz:(∀i,N≤i→e i=undef)→W P r N (.region id l.toArray true) ⟨n,b,t⟩ D e w:=by
  intro hz;refine t2c hm H0 (fun f e w=>(∀i,N≤i→e i=undef)∧(∀i,f i=true→∀j∈V0a l i,f j=true) ∧
   ((f a=false∧f c=false∧WN P r N l C pur n D (L5a a0 f) e w∧WN P r N l C pur n D (L5a b0 f) e w)∨(f a=true∧WN P r N l C pur n D (L5a a0 f) e w)∨(f c=true∧WN P r N l C pur n D (L5a b0 f) e w))) ⟨hz,by simp,.inl ⟨Z,Z,?_,?_⟩⟩ ?_ ?_
  ·have:L5a a0 (fun _=>false)=a0:=by unfold L5a;simp
   rw[this];exact hA
  ·have:L5a b0 (fun _=>false)=b0:=by unfold L5a;simp
   rw[this];exact hB
  ·rintro f e w i o ⟨hz,j0,hM⟩ ho B0 u0;have f0:i<l.length:=(List.getElem?_eq_some_iff.1 ho).1;have c0:∀k,(f k||k==i)=true→∀j∈V0a l k,(f j||j==i)=true:=by
    intro k hk j hj;simp only[Bool.or_eq_true,beq_iff_eq] at hk ⊢;rcases hk with hk|rfl
    ·exact .inl (j0 k hk j hj)
    ·exact .inl (u0 j hj)
   have T0:∀j∈v3a l i,f j=true:=Z2a j0 _ _ u0;have one:∀(ix:List Nat) (x y:Nat) (J:(Nat→Bool)→Env→World→Prop),ix.Nodup→i∈ix→M6b l pur x y [] ix=true→(i=y→f x=true)→WN P r N l C pur n D (L5a ix f) e w →
    (∀e' w',WN P r N l C pur n D (L5a ix (fun j=>f j||j==i)) e' w'→J (fun j=>f j||j==i) e' w') →
    WL P r N l.toArray [o] (fun D' e' w'=>D'=D∧(∀i,N≤i→e' i=undef)∧(∀k,(f k||k==i)=true→∀j∈V0a l k,(f j||j==i)=true)∧J (fun j=>f j||j==i) e' w') D e w:=by
    intro ix x y J P0 hi R0 U0 hw hJ;obtain⟨hN,h5⟩:=WN.step t0 P0 R0 j0 hi ho B0 u0 U0 hz hw;have v0:=hw.inC;rcases h5 with⟨A0,d,v,hd,hv,h5⟩|⟨A0,h5⟩
    ·rcases hv with⟨i0,hv⟩|⟨i0,rfl⟩
     ·unfold WL;intro a Q hs hD he hK;simp only[wpListIn];have g0:Region.wanted o (yielded l.toArray a.tmps)=true:=by rw[Z0a,he];exact i0
      simp only[g0,if_true];refine⟨z0a _ _ _,?_⟩;rw[Oper.semAt_eq _ _ _ (u0a t0 ho).2,j2a,he,hv w v0,Oper.uponIn_value];refine hK _ _ (by rw[O3a,hs]) ⟨by rw[i2a,hD],?_⟩;rw[hd,T0a v (by rw[hs];exact hN d hd),he];exact⟨n1a (hN d hd) hz,c0,hJ _ _ h5⟩
     ·unfold WL;intro a Q hs hD he hK;simp only[wpListIn];have g0:Region.wanted o (yielded l.toArray a.tmps)=false:=by rw[Z0a,he];exact i0
      simp only[g0];refine⟨z0a _ _ _,?_⟩;refine hK _ _ (by rw[O3a,hs]) ⟨by rw[i2a,hD],?_⟩;rw[hd,T0a undef (by rw[hs];exact hN d hd),he];exact⟨n1a (hN d hd) hz,c0,hJ _ _ h5⟩
    ·unfold WL at *;refine fun a Q hs hD he hK=>h5 a Q hs hD he (fun a' w' S0 hh=>hK a' w' S0 ?_);obtain⟨G0,v,hv,h6⟩:=hh;exact⟨G0,by rw[hv];exact q4a hN hz,c0,hJ _ _ h6⟩
   rcases hM with⟨p0,y0,n0,x0⟩|⟨p0,n0⟩|⟨y0,x0⟩
   ·by_cases m0:i=a
    ·exact one a0 a c (fun f e w=>(f a=false∧f c=false∧WN P r N l C pur n D (L5a a0 f) e w∧WN P r N l C pur n D (L5a b0 f) e w)∨(f a=true∧WN P r N l C pur n D (L5a a0 f) e w)∨(f c=true∧WN P r N l C pur n D (L5a b0 f) e w)) d0 (F0 i f0) C0 (fun h=>absurd (m0.symm.trans h) Q0) n0 (fun e' w' h=>.inr (.inl ⟨by simp[m0],h⟩))
    by_cases z0:i=c
    ·exact one b0 c a (fun f e w=>(f a=false∧f c=false∧WN P r N l C pur n D (L5a a0 f) e w∧WN P r N l C pur n D (L5a b0 f) e w)∨(f a=true∧WN P r N l C pur n D (L5a a0 f) e w)∨(f c=true∧WN P r N l C pur n D (L5a b0 f) e w)) e0 (inB i f0) D0 (fun h=>absurd h m0) x0 (fun e' w' h=>.inr (.inr ⟨by simp[z0],h⟩))
    have A0:pur i=true:=by
     have:=List.all_eq_true.1 O0 i (List.mem_range.2 f0);simp only[Bool.or_eq_true,beq_iff_eq,m0,z0,or_false,Bool.and_eq_true,List.contains_eq_mem,decide_eq_true_eq] at this;rcases this with h|h
     ·exact h
     ·have:=T0 a h.1;rw[p0] at this;cases this
    obtain⟨hN,h5⟩:=WN.step t0 d0 C0 j0 (F0 i f0) ho B0 u0 (fun h=>absurd h z0) hz n0;obtain⟨-,h6⟩:=WN.step t0 e0 D0 j0 (inB i f0) ho B0 u0 (fun h=>absurd h m0) hz x0;have v0:=n0.inC;rcases h5 with⟨_,d,v,hd,hv,h5⟩|⟨s0,_⟩
    rotate_left
    ·rw[A0] at s0;cases s0
    rcases h6 with⟨_,d',v',K0,hv',h6⟩|⟨s0,_⟩
    rotate_left
    ·rw[A0] at s0;cases s0
    obtain rfl:d'=d:=Option.some.inj (K0.symm.trans hd);obtain rfl:v'=v:=PV.uniq v0 hv' hv;have q0:(f a||a==i)=false:=by simp[p0];exact fun e=>m0 e.symm
    have r0:(f c||c==i)=false:=by simp[y0];exact fun e=>z0 e.symm
    rcases hv with⟨i0,hv⟩|⟨i0,rfl⟩
    ·unfold WL;intro a Q hs hD he hK;simp only[wpListIn];have g0:Region.wanted o (yielded l.toArray a.tmps)=true:=by rw[Z0a,he];exact i0
     simp only[g0,if_true];refine⟨z0a _ _ _,?_⟩;rw[Oper.semAt_eq _ _ _ (u0a t0 ho).2,j2a,he,hv w v0,Oper.uponIn_value];refine hK _ _ (by rw[O3a,hs]) ⟨by rw[i2a,hD],?_⟩;rw[hd,T0a v' (by rw[hs];exact hN d' hd),he];exact⟨n1a (hN d' hd) hz,c0,.inl ⟨q0,r0,h5,h6⟩⟩
    ·unfold WL;intro a Q hs hD he hK;simp only[wpListIn];have g0:Region.wanted o (yielded l.toArray a.tmps)=false:=by rw[Z0a,he];exact i0
     simp only[g0];refine⟨z0a _ _ _,?_⟩;refine hK _ _ (by rw[O3a,hs]) ⟨by rw[i2a,hD],?_⟩;rw[hd,T0a undef (by rw[hs];exact hN d' hd),he];exact⟨n1a (hN d' hd) hz,c0,.inl ⟨q0,r0,h5,h6⟩⟩
   ·exact one a0 a c (fun f e w=>(f a=false∧f c=false∧WN P r N l C pur n D (L5a a0 f) e w∧WN P r N l C pur n D (L5a b0 f) e w)∨(f a=true∧WN P r N l C pur n D (L5a a0 f) e w)∨(f c=true∧WN P r N l C pur n D (L5a b0 f) e w)) d0 (F0 i f0) C0 (fun _=>p0) n0 (fun e' w' h=>.inr (.inl ⟨by simp[p0],h⟩))
   ·exact one b0 c a (fun f e w=>(f a=false∧f c=false∧WN P r N l C pur n D (L5a a0 f) e w∧WN P r N l C pur n D (L5a b0 f) e w)∨(f a=true∧WN P r N l C pur n D (L5a a0 f) e w)∨(f c=true∧WN P r N l C pur n D (L5a b0 f) e w)) e0 (inB i f0) D0 (fun _=>y0) x0 (fun e' w' h=>.inr (.inr ⟨by simp[y0],h⟩))
  ·rintro f e w ⟨hz,j0,hM⟩ o0;have rA:L5a a0 f=[]:=by
    unfold L5a;rw[List.filter_eq_nil_iff];intro j hj;simp[o0 j (by simpa using List.all_eq_true.1 I0 j hj)]
   have rB:L5a b0 f=[]:=by
    unfold L5a;rw[List.filter_eq_nil_iff];intro j hj;simp[o0 j (by simpa using List.all_eq_true.1 J0 j hj)]
   rw[rA,rB] at hM;rcases hM with⟨_,_,h,_⟩|⟨_,h⟩|⟨_,h⟩
   ·exact h.2
   ·exact h.2
   ·exact h.2
 unfold W at *;intro a hs hd he;refine hz (fun i hi=>?_) a hs hd he;rw[←he];simp only[O0a,Array.getD_eq_getD_getElem?];rw[Array.getElem?_eq_none (by omega)];rfl
variable {e:Env} {w:World}
theorem C5c(hC:C w)(h:K D e w):WN P r N l C pur K D [] e w:=⟨hC,h⟩
theorem U1b{i:Nat}{rest:List Nat}{o:Oper}(hC:C w)(ho:l[i]?=some o)(hp:pur i=true)(hv:V1c o.op=true)(h:QL P N l.toArray C [o] (fun e'=>WN P r N l C pur K D rest e' w) e):WN P r N l C pur K D (i::rest) e w:=by
 unfold QL at h;obtain⟨pa,hl,hq,hk⟩:=h;obtain⟨d,v,h1,h2,h3,h4⟩:=hq 0 o Z;obtain rfl:pa=[(d,v)]:=by
  match pa,hl,h1 with
  | [x],_,h1=>simpa using h1
 refine⟨hC,o,ho,fun d' a0=>by rw[h2] at a0;cases a0;exact h3,.inl ⟨hp,d,v,h2,?_,hk⟩⟩;rcases h4 with⟨h5,h6⟩|h5
 ·refine .inl ⟨h5,fun w hw=>?_⟩;rcases h6 w hw with h7|⟨f,args,h7,_⟩
  ·exact h7
  ·obtain⟨_,hv'⟩:=C5a hv h7;cases hv'
 ·exact .inr h5
theorem J0d{i:Nat}{rest:List Nat}{o:Oper}(hC:C w)(ho:l[i]?=some o)(hp:pur i=false)(hN:(o.dst.all fun d=>Nat.ble (d+1) N)=true)
 (h:WL P r N l.toArray [o] (fun D' e' w'=>D'=D∧WN P r N l C pur K D rest e' w') D e w):WN P r N l C pur K D (i::rest) e w :=
 ⟨hC,o,ho,fun d hd=>by rw[hd] at hN;exact Nat.le_of_ble_eq_true (by simpa using hN),.inr ⟨hp,h⟩⟩
end
inductive m2a where
 | nil
 | op (i:Nat) (t:m2a)
 | two (a b:m2a)
section
variable {P:Program} {r:Option Nat} {N:Nat} {l:List Oper} {C:World→Prop} {pur:Nat→Bool} {K:List Deferred→Env→World→Prop} {D:List Deferred}
def WT(P:Program)(r:Option Nat)(N:Nat)(l:List Oper)(C:World→Prop)(pur:Nat→Bool)(K:List Deferred→Env→World→Prop)(D:List Deferred):m2a→Env→World→Prop
 | .nil,e,w=>C w∧K D e w
 | .op i t,e,w=>C w∧∃o,l[i]?=some o∧X0b N o ∧
  ((pur i=true∧∃d v,o.dst=some d∧PV P l C o e v∧WT P r N l C pur K D t (upd e d v) w) ∨
   (pur i=false∧WL P r N l.toArray [o] (fun D' e' w'=>D'=D∧WT P r N l C pur K D t e' w') D e w))
 | .two a b,e,w=>WT P r N l C pur K D a e w∧WT P r N l C pur K D b e w
theorem WT.inC:∀{t:m2a} {e:Env} {w:World},WT P r N l C pur K D t e w→C w
 | .nil,_,_,h=>h.1
 | .op _ _,_,_,h=>h.1
 | .two _ _,_,_,h=>WT.inC h.1
def m2a.del(i:Nat):m2a→m2a
 | .nil=>.nil
 | .op j t=>if j=i then t else .op j (t.del i)
 | .two a b=>.two (a.del i) (b.del i)
def frA(l:List Oper)(pur:Nat→Bool)(i:Nat):m2a→Bool
 | .nil=>false
 | .op j t=>j==i||(e4a l pur j i&&frA l pur i t)
 | .two a b=>frA l pur i a&&frA l pur i b
def frO(l:List Oper)(pur:Nat→Bool)(i:Nat):m2a→Bool
 | .nil=>false
 | .op j t=>j==i||(pur j&&e4a l pur j i&&frO l pur i t)
 | .two a b=>frO l pur i a||frO l pur i b
def m2a.sel(l:List Oper)(pur:Nat→Bool)(i:Nat):m2a→m2a
 | .nil=>.nil
 | .op j t=>if j=i then t else .op j (t.sel l pur i)
 | .two a b=>bif frO l pur i a then a.sel l pur i else b.sel l pur i
theorem WT.quiet(a0:e3a l=true){i:Nat}(c0:pur i=true):∀(t:m2a) (e:Env) (w:World),frA l pur i t=true→(∀i,N≤i→e i=undef)→WT P r N l C pur K D t e w →
 ∃o d v,l[i]?=some o∧X0b N o∧o.dst=some d∧PV P l C o e v∧WT P r N l C pur K D (t.del i) (upd e d v) w
 | .nil,_,_,hf,_,_=>by simp[frA] at hf
 | .two a b,e,w,hf,hz,h=>by
   simp only[frA,Bool.and_eq_true] at hf;obtain⟨o,d,v,h1,h2,h3,h4,h5⟩:=WT.quiet a0 c0 a e w hf.1 hz h.1;obtain⟨o',d',v',g1,_,g3,g4,g5⟩:=WT.quiet a0 c0 b e w hf.2 hz h.2;obtain rfl:o'=o:=Option.some.inj (g1.symm.trans h1);obtain rfl:d'=d:=Option.some.inj (g3.symm.trans h3);obtain rfl:v'=v:=PV.uniq h.1.inC g4 h4;exact⟨o',d',v',h1,h2,h3,h4,h5,g5⟩
 | .op j t,e,w,hf,hz,h=>by
   obtain⟨hC,p,hp,b0,h⟩:=h;by_cases f0:j=i
   ·subst f0;rcases h with⟨_,d,v,hd,hv,h⟩|⟨i0,_⟩
    ·exact⟨p,d,v,hp,b0,hd,hv,by simpa[m2a.del] using h⟩
    ·rw[c0] at i0;cases i0
   ·have hq:e4a l pur j i=true∧frA l pur i t=true:=by simpa[frA,f0] using hf
    have e0:(m2a.op j t).del i=.op j (t.del i):=by simp[m2a.del,f0]
    rw[e0];rcases h with⟨g0,c,u,hc,hu,h⟩|⟨g0,h⟩
    ·obtain⟨o,d,v,ho,hN,hd,hv,h2⟩:=WT.quiet a0 c0 t (upd e c u) w hq.2 (n1a (b0 c hc) hz) h;have hI:=u4a hq.1 hp ho;refine⟨o,d,v,ho,hN,hd,hv.congr (u0a a0 ho).1 (fun s hs=>o1a (hI.q c hc) hs),hC,p,hp,b0,.inl ⟨g0,c,u,hc,hu.congr (u0a a0 hp).1 (fun s hs=>(o1a (hI.p d hd) hs).symm),?_⟩⟩;rw[←w2a _ _ _ (hI.dst c d hc hd)];exact h2
    ·have h0:=q2a (e:=e) (e1:=e) b0 (u0a a0 hp).1 (u0a a0 hp).2 hz (fun _ _=>rfl) h;obtain⟨_,u1,w1,_,p0,_,h1⟩:=w8b b0 hz h0;rw[←p0] at h1;obtain⟨o,d,v0,ho,hN,hd,q0,h2⟩:=WT.quiet a0 c0 t (H8a e p.dst u1) w1 hq.2 (q4a b0 hz) h1;have hI:=u4a hq.1 hp ho;have d0:PV P l C o e v0:=q0.congr (u0a a0 ho).1 (fun s hs=>t4a hI.q hs);refine⟨o,d,v0,ho,hN,hd,d0,hC,p,hp,b0,.inr ⟨g0,?_⟩⟩;have h3:=q2a (e:=upd e d v0) (e1:=e) b0 (u0a a0 hp).1 (u0a a0 hp).2 hz (fun s hs=>o1a (hI.p d hd) hs) h;unfold WL at *;refine fun a Q hs hD he hK=>h3 a Q hs hD he (fun a' w' o0 hh=>hK a' w' o0 ?_);obtain⟨u,hu,j0,h4⟩:=hh;refine⟨j0,?_⟩;obtain⟨o',d',v,n0,_,m0,hv,h5⟩:=WT.quiet a0 c0 t (H8a e p.dst u) w' hq.2 (q4a b0 hz) h4;obtain rfl:o'=o:=Option.some.inj (n0.symm.trans ho);obtain rfl:d'=d:=Option.some.inj (m0.symm.trans hd);have hv':PV P l C o' e v:=hv.congr (u0a a0 ho).1 (fun s hs=>t4a hI.q hs);obtain rfl:v=v0:=PV.uniq hC hv' d0;have e1:upd (H8a e p.dst u) d' v=H8a (upd e d' v) p.dst u:=by
      have:=x7a e (p:=p) (q:=o') u v hI.dst;rw[hd] at this;exact this
     rw[hu,←e1];exact h5
theorem WT.loud(a0:e3a l=true){i:Nat}(d0:pur i=false):∀(t:m2a) (e:Env) (w:World),frO l pur i t=true→(∀i,N≤i→e i=undef)→WT P r N l C pur K D t e w →
 ∃o,l[i]?=some o∧X0b N o∧WL P r N l.toArray [o] (fun D' e' w'=>D'=D∧∃v,e'=H8a e o.dst v∧WT P r N l C pur K D (t.sel l pur i) e' w') D e w
 | .nil,_,_,hf,_,_=>by simp[frO] at hf
 | .two a b,e,w,hf,hz,h=>by
   simp only[frO,Bool.or_eq_true] at hf;cases ha:frO l pur i a with
   | true =>
     have:=WT.loud a0 d0 a e w ha hz h.1;simpa[m2a.sel,ha] using this
   | false =>
     have:=WT.loud a0 d0 b e w (hf.resolve_left (by rw[ha];simp)) hz h.2;simpa[m2a.sel,ha] using this
 | .op j t,e,w,hf,hz,h=>by
   obtain⟨_,p,hp,c0,h⟩:=h;by_cases f0:j=i
   ·subst f0;rcases h with⟨i0,_⟩|⟨_,h⟩
    ·rw[d0] at i0;cases i0
    ·refine⟨p,hp,c0,?_⟩;have b0:(m2a.op j t).sel l pur j=t:=by simp[m2a.sel]
     rw[b0];have h2:=q2a (e:=e) (e1:=e) c0 (u0a a0 hp).1 (u0a a0 hp).2 hz (fun _ _=>rfl) h;unfold WL at *;exact fun a Q hs hD he hK=>h2 a Q hs hD he (fun a' w' g0 ⟨v,h1,h3,h4⟩=>hK a' w' g0 ⟨h3,v,h1,by rw[h1];exact h4⟩)
   ·have hq:(pur j=true∧e4a l pur j i=true)∧frO l pur i t=true:=by simpa[frO,f0] using hf
    have b0:(m2a.op j t).sel l pur i=.op j (t.sel l pur i):=by simp[m2a.sel,f0]
    rw[b0];rcases h with⟨e0,c,u,hc,hu,h⟩|⟨e0,_⟩
    ·obtain⟨o,ho,hN,h2⟩:=WT.loud a0 d0 t (upd e c u) w hq.2 (n1a (c0 c hc) hz) h;have hI:=u4a hq.1.2 hp ho;refine⟨o,ho,hN,?_⟩;have h3:=q2a (e:=e) (e1:=upd e c u) hN (u0a a0 ho).1 (u0a a0 ho).2 (n1a (c0 c hc) hz) (fun s hs=>(o1a (hI.q c hc) hs).symm) h2;unfold WL at *;refine fun a Q hs hD he hK=>h3 a Q hs hD he (fun a' w' g0 hh=>hK a' w' g0 ?_);obtain⟨v,h1,h4,_,_,h6⟩:=hh;refine⟨h4,v,h1,?_⟩;rw[h1];refine⟨h6.inC,p,hp,c0,.inl ⟨e0,c,u,hc,hu.congr (u0a a0 hp).1 (fun s hs=>(t4a hI.p hs).symm),?_⟩⟩;have e1:H8a (upd e c u) o.dst v=upd (H8a e o.dst v) c u:=by
      have:=x7a e (p:=p) (q:=o) u v hI.dst;rw[hc] at this;exact this
     rw[←e1];exact h6
    ·rw[hq.1.1] at e0;cases e0
def m2a.paths:m2a→List (List Nat)
 | .nil=>[[]]
 | .op i t=>t.paths.map (i::·)
 | .two a b=>a.paths++b.paths
theorem m2a.paths_ne:∀t:m2a,∃π,π∈t.paths
 | .nil=>⟨[],by simp[m2a.paths]⟩
 | .op i t=>by obtain⟨π,h⟩:=t.paths_ne;exact⟨i::π,List.mem_map.2 ⟨π,h,Z⟩⟩
 | .two a b=>by obtain⟨π,h⟩:=a.paths_ne;exact⟨π,List.mem_append_left _ h⟩
theorem m2a.paths_del{i:Nat}:∀(t:m2a) (ρ:List Nat),ρ∈(t.del i).paths→∃π∈t.paths,ρ=π.erase i
 | .nil,ρ,h=>⟨[],by simp[m2a.paths],by simpa[m2a.del,m2a.paths] using h⟩
 | .two a b,ρ,h=>by
   rcases List.mem_append.1 h with h|h
   ·obtain⟨π,h1,h2⟩:=a.paths_del ρ h;exact⟨π,List.mem_append_left _ h1,h2⟩
   ·obtain⟨π,h1,h2⟩:=b.paths_del ρ h;exact⟨π,List.mem_append_right _ h1,h2⟩
 | .op j t,ρ,h=>by
   by_cases hj:j=i
   ·subst hj;simp only[m2a.del,if_pos] at h;exact⟨j::ρ,List.mem_map.2 ⟨ρ,h,Z⟩,by simp⟩
   ·simp only[m2a.del,if_neg hj,m2a.paths] at h;obtain⟨ρ',h2,rfl⟩:=List.mem_map.1 h;obtain⟨π,h1,rfl⟩:=t.paths_del ρ' h2;exact⟨j::π,List.mem_map.2 ⟨π,h1,Z⟩,by rw[List.erase_cons_tail (by simpa using hj)]⟩
theorem m2a.paths_sel{i:Nat}:∀(t:m2a) (ρ:List Nat),ρ∈(t.sel l pur i).paths→∃π∈t.paths,ρ=π.erase i
 | .nil,ρ,h=>⟨[],by simp[m2a.paths],by simpa[m2a.sel,m2a.paths] using h⟩
 | .two a b,ρ,h=>by
   cases ha:frO l pur i a with
   | true =>
     simp only[m2a.sel,ha,cond_true] at h;obtain⟨π,h1,h2⟩:=a.paths_sel ρ h;exact⟨π,List.mem_append_left _ h1,h2⟩
   | false =>
     simp only[m2a.sel,ha,cond_false] at h;obtain⟨π,h1,h2⟩:=b.paths_sel ρ h;exact⟨π,List.mem_append_right _ h1,h2⟩
 | .op j t,ρ,h=>by
   by_cases hj:j=i
   ·subst hj;simp only[m2a.sel,if_pos] at h;exact⟨j::ρ,List.mem_map.2 ⟨ρ,h,Z⟩,by simp⟩
   ·simp only[m2a.sel,if_neg hj,m2a.paths] at h;obtain⟨ρ',h2,rfl⟩:=List.mem_map.1 h;obtain⟨π,h1,rfl⟩:=t.paths_sel ρ' h2;exact⟨j::π,List.mem_map.2 ⟨π,h1,Z⟩,by rw[List.erase_cons_tail (by simpa using hj)]⟩
def c3d(l:List Oper)(pur:Nat→Bool)(j i:Nat):Bool:=(v3a l i).contains j||e4a l pur j i||(!pur j&&!pur i)
def pwT(l:List Oper)(pur:Nat→Bool):List Nat→Bool
 | []=>true
 | j::π=>π.all (c3d l pur j)&&pwT l pur π
theorem R5c:∀{π:List Nat},pwT l pur π=true→π.Pairwise fun j i=>c3d l pur j i=true
 | [],_=>.nil
 | j::π,h=>by
   simp only[pwT,Bool.and_eq_true,List.all_eq_true] at h;exact .cons h.1 (R5c h.2)
def m2a.nxts(pur:Nat→Bool):m2a→List Nat
 | .nil=>[]
 | .op j t=>bif pur j then t.nxts pur else[j]
 | .two a b=>a.nxts pur++b.nxts pur
def X4b(l:List Oper)(pur:Nat→Bool)(acc:List Nat)(t:m2a):Bool:=(List.range l.length).all fun i=>pur i||acc.contains i||(t.nxts pur).contains i||(v3a l i).any fun j=>!pur j&&!acc.contains j
def P3b(l:List Oper)(pur:Nat→Bool):List Nat→m2a→Bool
 | _,.nil=>true
 | acc,.op j t=>bif pur j then P3b l pur acc t else X4b l pur (j::acc) t&&P3b l pur (j::acc) t
 | acc,.two a b=>P3b l pur acc a&&P3b l pur acc b
def V5c(l:List Oper)(pur:Nat→Bool)(t:m2a):Bool :=
 e3a l&&((List.range l.length).all fun i=>(V0a l i).all fun j=>decide (j<i))&&(t.paths.all fun π=>C9b l.length π&&pwT l pur π)&&X4b l pur [] t&&P3b l pur [] t
theorem c6a{i:Nat}(hi:pur i=true):∀t:m2a,(t.del i).nxts pur=t.nxts pur
 | .nil=>rfl
 | .two a b=>by simp[m2a.del,m2a.nxts,c6a hi a,c6a hi b]
 | .op j t=>by
   by_cases hj:j=i
   ·subst hj;simp[m2a.del,m2a.nxts,hi]
   ·simp only[m2a.del,if_neg hj,m2a.nxts];rw[c6a hi t]
theorem v7a{i:Nat}(hi:pur i=true):∀(t:m2a) (acc:List Nat),P3b l pur acc t=true→P3b l pur acc (t.del i)=true
 | .nil,_,h=>h
 | .two a b,acc,h=>by
   simp only[m2a.del,P3b,Bool.and_eq_true] at h ⊢;exact⟨v7a hi a acc h.1,v7a hi b acc h.2⟩
 | .op j t,acc,h=>by
   by_cases hj:j=i
   ·subst hj;simpa[m2a.del,P3b,hi] using h
   ·simp only[m2a.del,if_neg hj,P3b] at h ⊢;cases hp:pur j with
    | true=>rw[hp] at h;exact v7a hi t acc h
    | false =>
      rw[hp] at h;simp only[cond_false,Bool.and_eq_true] at h ⊢;exact⟨by have:=h.1;unfold X4b at this ⊢;rw[c6a hi t];exact this,v7a hi t _ h.2⟩
theorem G9a{i:Nat}(hi:pur i=false):∀(t:m2a) (acc:List Nat),frO l pur i t=true→P3b l pur acc t=true→X4b l pur (i::acc) (t.sel l pur i)=true∧P3b l pur (i::acc) (t.sel l pur i)=true
 | .nil,_,hf,_=>by simp[frO] at hf
 | .two a b,acc,hf,h=>by
   simp only[frO,Bool.or_eq_true] at hf;simp only[P3b,Bool.and_eq_true] at h;cases ha:frO l pur i a with
   | true=>simp only[m2a.sel,ha,cond_true];exact G9a hi a acc ha h.1
   | false=>simp only[m2a.sel,ha,cond_false];exact G9a hi b acc (hf.resolve_left (by rw[ha];simp)) h.2
 | .op j t,acc,hf,h=>by
   by_cases hj:j=i
   ·subst hj;simp only[m2a.sel,if_pos,P3b,hi,cond_false,Bool.and_eq_true] at h ⊢;exact h
   ·have hq:(pur j=true∧e4a l pur j i=true)∧frO l pur i t=true:=by simpa[frO,hj] using hf
    simp only[P3b,hq.1.1,cond_true] at h;have:=G9a hi t acc hq.2 h;simp only[m2a.sel,if_neg hj,P3b,hq.1.1,cond_true];refine⟨?_,this.2⟩;have h1:=this.1;unfold X4b at h1 ⊢;simpa[m2a.nxts,hq.1.1] using h1
theorem g2b{i:Nat}:∀t:m2a,(∀π∈t.paths,i∈π∧∀A B,π=A++i::B→i∉A→∀j∈A,e4a l pur j i=true)→frA l pur i t=true
 | .nil,h=>by have:=(h [] (by simp[m2a.paths])).1;cases this
 | .two a b,h=>by
   simp only[frA,Bool.and_eq_true];exact⟨g2b a fun π hπ=>h π (List.mem_append_left _ hπ),g2b b fun π hπ=>h π (List.mem_append_right _ hπ)⟩
 | .op j t,h=>by
   by_cases hj:j=i
   ·simp[frA,hj]
   ·have a0:∀π∈t.paths,i∈π:=fun π hπ=>by
     have:=(h (j::π) (List.mem_map.2 ⟨π,hπ,Z⟩)).1;rcases List.mem_cons.1 this with h|h
     ·exact absurd h.symm hj
     ·exact h
    have hq:e4a l pur j i=true:=by
     obtain⟨π,hπ⟩:=t.paths_ne;obtain⟨A,B,he,hA⟩:=List.eq_append_cons_of_mem (a0 π hπ);exact(h (j::π) (List.mem_map.2 ⟨π,hπ,Z⟩)).2 (j::A) B (by rw[he];rfl) (by simp[hA];exact fun e=>hj e.symm) j (by simp)
    simp only[frA,Bool.or_eq_true,Bool.and_eq_true];refine .inr ⟨hq,g2b t fun π hπ=>⟨a0 π hπ,fun A B he hA k hk=>?_⟩⟩;exact(h (j::π) (List.mem_map.2 ⟨π,hπ,Z⟩)).2 (j::A) B (by rw[he];rfl) (by simp[hA];exact fun e=>hj e.symm) k (by simp[hk])
theorem i2b{i:Nat}(hi:pur i=false):∀t:m2a,i∈t.nxts pur→(∀π∈t.paths,∀A B,π=A++i::B→∀j∈A,pur j=true→e4a l pur j i=true)→frO l pur i t=true∧∃π∈t.paths,i∈π
 | .nil,hn,_=>by simp[m2a.nxts] at hn
 | .two a b,hn,h=>by
   rcases List.mem_append.1 hn with hn|hn
   ·obtain⟨h1,π,h2,h3⟩:=i2b hi a hn fun π hπ=>h π (List.mem_append_left _ hπ);exact⟨by simp[frO,h1],π,List.mem_append_left _ h2,h3⟩
   ·obtain⟨h1,π,h2,h3⟩:=i2b hi b hn fun π hπ=>h π (List.mem_append_right _ hπ);exact⟨by simp[frO,h1],π,List.mem_append_right _ h2,h3⟩
 | .op j t,hn,h=>by
   cases hp:pur j with
   | false =>
     have:i=j:=by simpa[m2a.nxts,hp] using hn
     subst this;obtain⟨π,hπ⟩:=t.paths_ne;exact⟨by simp[frO],i::π,List.mem_map.2 ⟨π,hπ,Z⟩,by simp⟩
   | true =>
     obtain⟨h1,π,h2,h3⟩:=i2b hi t (by simpa[m2a.nxts,hp] using hn) fun π hπ A B he k hk a0=>h (j::π) (List.mem_map.2 ⟨π,hπ,Z⟩) (j::A) B (by rw[he];rfl) k (by simp[hk]) a0;obtain⟨A,B,he⟩:=List.append_of_mem h3;have hq:=h (j::π) (List.mem_map.2 ⟨π,h2,Z⟩) (j::A) B (by rw[he];rfl) j (by simp) hp;exact⟨by simp[frO,hp,hq,h1],j::π,List.mem_map.2 ⟨π,h2,Z⟩,by simp[h3]⟩
theorem WT.done:∀{t:m2a} {e:Env} {w:World},(∀π∈t.paths,π=[])→WT P r N l C pur K D t e w→K D e w
 | .nil,_,_,_,h=>h.2
 | .op i t,_,_,hp,_=>by
   obtain⟨π,hπ⟩:=t.paths_ne;have:=hp (i::π) (List.mem_map.2 ⟨π,hπ,Z⟩);cases this
 | .two a b,_,_,hp,h=>WT.done (fun π hπ=>hp π (List.mem_append_left _ hπ)) h.1
structure I6c (l:List Oper) (pur:Nat→Bool) (t:m2a) (f:Nat→Bool) (acc:List Nat):Prop where
 nd:∀π∈t.paths,π.Nodup
 full:∀π∈t.paths,∀i,i∈π↔(i<l.length∧f i=false)
 ord:∀π∈t.paths,π.Pairwise fun j i=>c3d l pur j i=true
 here_:X4b l pur acc t=true
 sub:P3b l pur acc t=true
 got:∀i,i∈acc→f i=true
 out:∀i,pur i=false→f i=true→i∈acc
theorem I6c.ahead{t:m2a}{f:Nat→Bool}{acc:List Nat}(h:I6c l pur t f acc)(a0:∀i,f i=true→∀j∈V0a l i,f j=true){i:Nat}(b0:∀j∈V0a l i,f j=true){π:List Nat}(hπ:π∈t.paths){A B:List Nat}(he:π=A++i::B){j:Nat}(hj:j∈A)(hq:pur j=true∨pur i=true):e4a l pur j i=true:=by
 have h1:=h.ord π hπ;rw[he,List.pairwise_append] at h1;have h2:=h1.2.2 j hj i (by simp);have h3:=(h.full π hπ j).1 (by rw[he];simp[hj]);unfold c3d at h2;simp only[Bool.or_eq_true,List.contains_eq_mem,decide_eq_true_eq,Bool.and_eq_true,Bool.not_eq_true'] at h2;rcases h2 with(h2|h2)|h2
 ·have:=Z2a a0 _ _ b0 j h2;rw[h3.2] at this;cases this
 ·exact h2
 ·rcases hq with hq|hq
  ·rw[hq] at h2;cases h2.1
  ·rw[hq] at h2;cases h2.2
theorem I6c.erase{t t':m2a}{f:Nat→Bool}{acc a0:List Nat}{i:Nat}(h:I6c l pur t f acc)(hp:∀ρ∈t'.paths,∃π∈t.paths,ρ=π.erase i)(h1:X4b l pur a0 t'=true)(h2:P3b l pur a0 t'=true)(h3:∀j,j∈a0→j∈acc∨j=i)(h4:∀j,j∈acc∨(j=i∧pur i=false)→j∈a0):I6c l pur t' (fun j=>f j||j==i) a0 where
 nd ρ hρ:=by obtain⟨π,hπ,rfl⟩:=hp ρ hρ;exact(h.nd π hπ).erase i
 full ρ hρ j:=by
  obtain⟨π,hπ,rfl⟩:=hp ρ hρ;rw[(h.nd π hπ).mem_erase_iff,h.full π hπ j];simp only[Bool.or_eq_false_iff,beq_eq_false_iff_ne];exact⟨fun z=>⟨z.2.1,z.2.2,z.1⟩,fun z=>⟨z.2.2,z.1,z.2.1⟩⟩
 ord ρ hρ:=by obtain⟨π,hπ,rfl⟩:=hp ρ hρ;exact(h.ord π hπ).sublist List.erase_sublist
 here_:=h1
 sub:=h2
 got j hj:=by
  rcases h3 j hj with z|rfl
  ·simp[h.got j z]
  ·simp
 out j hj hf:=by
  simp only[Bool.or_eq_true,beq_iff_eq] at hf;rcases hf with z|rfl
  ·exact h4 j (.inl (h.out j hj z))
  ·exact h4 j (.inr ⟨Z,hj⟩)
theorem x1b{id:Nat}{n t:List Deferred→Env→World→Prop}{b:Nat→List Deferred→Env→World→Prop}{e:Env}{w:World}(hm:P.follows .mixedOrders=true)(pur:Nat→Bool)(T:m2a)(C:World→Prop)
 (hW:WT P r N l C pur n D T e w.drew) (m0:V5c l pur T=true:=by kernel_rfl):W P r N (.region id l.toArray true) ⟨n,b,t⟩ D e w:=by
 unfold V5c at m0;simp only[Bool.and_eq_true] at m0;obtain⟨⟨⟨⟨n0,u0⟩,y0⟩,v0⟩,B0⟩:=m0;have a0:=fun π (hπ:π∈T.paths)=>List.all_eq_true.1 y0 π hπ;have hz:(∀i,N≤i→e i=undef)→W P r N (.region id l.toArray true) ⟨n,b,t⟩ D e w:=by
  intro hz;refine t2c hm u0 (fun f e w=>(∀i,N≤i→e i=undef)∧(∀i,f i=true→∀j∈V0a l i,f j=true)∧∃t acc,I6c l pur t f acc∧WT P r N l C pur n D t e w) ⟨hz,by simp,T,[],⟨fun π hπ=>?_,fun π hπ i=>?_,fun π hπ=>?_,v0,B0,by simp,by simp⟩,hW⟩ ?_ ?_
  ·have:=a0 π hπ;unfold C9b at this;simp only[Bool.and_eq_true] at this;exact a8a this.1.1.1
  ·have:=a0 π hπ;unfold C9b at this;simp only[Bool.and_eq_true] at this;refine⟨fun h=>⟨by simpa using List.all_eq_true.1 this.1.2 i h,Z⟩,fun h=>by simpa using List.all_eq_true.1 this.1.1.2 i (List.mem_range.2 h.1)⟩
  ·have:=a0 π hπ;simp only[Bool.and_eq_true] at this;exact R5c this.2
  ·rintro f e w i o ⟨hz,e0,t,acc,hA,hT⟩ ho q0 g0;have r0:i<l.length:=(List.getElem?_eq_some_iff.1 ho).1;have c0:∀k,(f k||k==i)=true→∀j∈V0a l k,(f j||j==i)=true:=by
    intro k hk j hj;simp only[Bool.or_eq_true,beq_iff_eq] at hk ⊢;rcases hk with hk|rfl
    ·exact .inl (e0 k hk j hj)
    ·exact .inl (g0 j hj)
   cases b0:pur i with
   | true =>
     have f0:frA l pur i t=true:=g2b t fun π hπ=>⟨(hA.full π hπ i).2 ⟨r0,q0⟩,fun A B he _ j hj=>hA.ahead e0 g0 hπ he hj (.inr b0)⟩
     obtain⟨o',d,v,j0,hN,hd,hv,h5⟩:=WT.quiet n0 b0 t e w f0 hz hT;obtain rfl:o'=o:=Option.some.inj (j0.symm.trans ho);have d0:I6c l pur (t.del i) (fun j=>f j||j==i) acc:=hA.erase (m2a.paths_del t) (by have:=hA.here_;unfold X4b at this ⊢;rw[c6a b0 t];exact this) (v7a b0 t acc hA.sub) (fun j hj=>.inl hj) (fun j hj=>hj.elim (fun z=>z) (fun z=>by rw[b0] at z;cases z.2));have s0:=hT.inC;rcases hv with⟨p0,hv⟩|⟨p0,rfl⟩
     ·unfold WL;intro a Q hs hD he hK;simp only[wpListIn];have o0:Region.wanted o' (yielded l.toArray a.tmps)=true:=by rw[Z0a,he];exact p0
      simp only[o0,if_true];refine⟨z0a _ _ _,?_⟩;rw[Oper.semAt_eq _ _ _ (u0a n0 ho).2,j2a,he,hv w s0,Oper.uponIn_value];refine hK _ _ (by rw[O3a,hs]) ⟨by rw[i2a,hD],?_⟩;rw[hd,T0a v (by rw[hs];exact hN d hd),he];exact⟨n1a (hN d hd) hz,c0,_,_,d0,h5⟩
     ·unfold WL;intro a Q hs hD he hK;simp only[wpListIn];have o0:Region.wanted o' (yielded l.toArray a.tmps)=false:=by rw[Z0a,he];exact p0
      simp only[o0];refine⟨z0a _ _ _,?_⟩;refine hK _ _ (by rw[O3a,hs]) ⟨by rw[i2a,hD],?_⟩;rw[hd,T0a undef (by rw[hs];exact hN d hd),he];exact⟨n1a (hN d hd) hz,c0,_,_,d0,h5⟩
   | false =>
     have x0:i∈t.nxts pur:=by
      have h1:=List.all_eq_true.1 hA.here_ i (List.mem_range.2 r0);simp only[Bool.or_eq_true,b0,Bool.false_eq_true,false_or,List.contains_eq_mem,decide_eq_true_eq,List.any_eq_true,Bool.and_eq_true,Bool.not_eq_true',decide_eq_false_iff_not] at h1;rcases h1 with(h1|h1)|⟨j,h1,h2,h3⟩
      ·have:=hA.got i h1;rw[q0] at this;cases this
      ·exact h1
      ·exact absurd (hA.out j h2 (Z2a e0 _ _ g0 j h1)) h3
     obtain⟨f0,-⟩:=i2b (l:=l) b0 t x0 fun π hπ A B he j hj z0=>hA.ahead e0 g0 hπ he hj (.inl z0);obtain⟨o',j0,hN,h5⟩:=WT.loud n0 b0 t e w f0 hz hT;obtain rfl:o'=o:=Option.some.inj (j0.symm.trans ho);have h6:=G9a b0 t acc f0 hA.sub;have d0:I6c l pur (t.sel l pur i) (fun j=>f j||j==i) (i::acc):=hA.erase (m2a.paths_sel t) h6.1 h6.2 (fun j hj=>by rcases List.mem_cons.1 hj with h|h;exact .inr h;exact .inl h) (fun j hj=>by rcases hj with h|h;simp[h];simp[h.1]);unfold WL at *;refine fun a Q hs hD he hK=>h5 a Q hs hD he (fun a' w' A0 hh=>hK a' w' A0 ?_);obtain⟨t0,v,hv,h7⟩:=hh;exact⟨t0,by rw[hv];exact q4a hN hz,c0,_,_,d0,h7⟩
  ·rintro f e w ⟨_,_,t,acc,hA,hT⟩ i0;refine WT.done (fun π hπ=>?_) hT;rw[List.eq_nil_iff_forall_not_mem];intro i hi;have:=(hA.full π hπ i).1 hi;rw[i0 i this.1] at this;cases this.2
 unfold W at *;intro a hs hd he;refine hz (fun i hi=>?_) a hs hd he;rw[←he];simp only[O0a,Array.getD_eq_getD_getElem?];rw[Array.getElem?_eq_none (by omega)];rfl
variable {e:Env} {w:World}
theorem b3a(hC:C w)(h:K D e w):WT P r N l C pur K D .nil e w:=⟨hC,h⟩
theorem B4a{a b:m2a}(h1:WT P r N l C pur K D a e w)(h2:WT P r N l C pur K D b e w):WT P r N l C pur K D (.two a b) e w:=⟨h1,h2⟩
theorem g1a{i:Nat}{t:m2a}{o:Oper}(hC:C w)(ho:l[i]?=some o)(hp:pur i=true)(hv:V1c o.op=true)(h:QL P N l.toArray C [o] (fun e'=>WT P r N l C pur K D t e' w) e):WT P r N l C pur K D (.op i t) e w:=by
 unfold QL at h;obtain⟨pa,hl,hq,hk⟩:=h;obtain⟨d,v,h1,h2,h3,h4⟩:=hq 0 o Z;obtain rfl:pa=[(d,v)]:=by
  match pa,hl,h1 with
  | [x],_,h1=>simpa using h1
 refine⟨hC,o,ho,fun d' a0=>by rw[h2] at a0;cases a0;exact h3,.inl ⟨hp,d,v,h2,?_,hk⟩⟩;rcases h4 with⟨h5,h6⟩|h5
 ·refine .inl ⟨h5,fun w hw=>?_⟩;rcases h6 w hw with h7|⟨f,args,h7,_⟩
  ·exact h7
  ·obtain⟨_,hv'⟩:=C5a hv h7;cases hv'
 ·exact .inr h5
theorem b2a{i:Nat}{t:m2a}{o:Oper}(hC:C w)(ho:l[i]?=some o)(hp:pur i=false)(hN:(o.dst.all fun d=>Nat.ble (d+1) N)=true)
 (h:WL P r N l.toArray [o] (fun D' e' w'=>D'=D∧WT P r N l C pur K D t e' w') D e w):WT P r N l C pur K D (.op i t) e w :=
 ⟨hC,o,ho,fun d hd=>by rw[hd] at hN;exact Nat.le_of_ble_eq_true (by simpa using hN),.inr ⟨hp,h⟩⟩
end
abbrev clE{M:List Nat}{w0 w:World}{L:List Ent}(_:St M w0 w L)(k:Nat)(K:List Nat):World→Prop:=fun w1=>St M w0 w1 (L.eraseIdx k)∧t0a K w w1
abbrev h4d{M:List Nat}{w0 w:World}{L:List Ent}(_:St M w0 w L)(k j:Nat)(K:List Nat):World→Prop:=fun w1=>St M w0 w1 ((L.eraseIdx k).eraseIdx j)∧t0a K w w1
theorem St.er{M:List Nat}{w0 w:World}{L:List Ent}(S:St M w0 w L)(k:Nat):St M w0 w (L.eraseIdx k):=S.sublist (List.eraseIdx_sublist L k)
section
variable {P:Program} {r:Option Nat} {N:Nat} {D:List Deferred} {e:Env} {w:World}
theorem X6c{l p N:Nat}{rc:Loop}{x:Value}{a0 body:Code}{R:Value→World→Prop}(hl:w.heap[l]?=some (.loop rc))(hr:rc.state=.ready)(hN:rc.tmps.size=N)(f0:O0a { tmps:=rc.tmps,defers:=[] }=e)(b0:rc.params=#[p])(d0:rc.assign=a0)(e0:rc.body=body)(hp:Nat.ble (p+1) N=true)
 (h:W P (some l) N a0 ⟨fun D e w1=>w1.heap[l]?=some (.loop rc) ∧
   W P (some l) N body ⟨fun _ _ w3=>h5a l none R w3,fun id _ _ w3=>h5a l (some (.exit id)) R w3,fun _ _ w3=>h5a l (some .ret) R w3⟩ D e (w1.putObj l (.loop { rc with state:=.busy })),
   fun _ _ _ _=>False,fun _ _ _=>False⟩ [] (upd e p x) w):Yld P l #[x] w R:=by
 subst f0 d0 e0;have i0:=Nat.le_of_ble_eq_true hp;refine⟨rc,hl,by simp[b0],?_⟩;have hz:(rc.params.zip #[x]).foldl (fun tmps (t,a)=>tmps.setIfInBounds t a) rc.tmps=rc.tmps.setIfInBounds p x:=by rw[b0];simp
 rw[hz];refine roundIn_of_wpIn (F:=Fence.wide) trivial ?_;unfold W at h;have he:O0a { tmps:=rc.tmps.setIfInBounds p x,defers:=[] }=upd (O0a { tmps:=rc.tmps,defers:=[] }) p x:=by
  have h1:=T0a (a:={ tmps:=rc.tmps,defers:=[] }) (d:=p) x (by simp;omega);simp only[Act.put] at h1;rw[←h1]
 refine wpIn_mono (h { tmps:=rc.tmps.setIfInBounds p x,defers:=[] } (by simp[hN]) Z he) fun ex a w1 hq=>?_;cases ex with
 | normal =>
   obtain⟨hs,g0,hb⟩:=hq;refine⟨_,run_beginRound g0 hr,wpIn_mono (hb a hs Z Z) fun ex a w3 hq=>?_⟩;cases ex with
   | normal=>obtain⟨_,c0,h3,hR⟩:=hq;exact⟨_,_,run_endRound none h3,_,Z,hR⟩
   | ret=>obtain⟨_,c0,h3,hR⟩:=hq;exact⟨_,_,run_endRound (some .ret) h3,_,Z,hR⟩
   | exit id=>obtain⟨_,c0,h3,hR⟩:=hq;exact⟨_,_,run_endRound (some (.exit id)) h3,_,Z,hR⟩
   | goto l=>exact hq.elim
   | panic c=>exact hq.elim
   | outgrown=>exact hq.elim
 | exit id=>exact hq.2
 | ret=>exact hq.2
 | goto l=>exact hq.elim
 | panic c=>exact hq.elim
 | outgrown=>exact hq.elim
end
theorem I6a.over{wb w w1 w2:World}{v:Value}{l:List Int}{g:Nat}(h:I6a wb w v l)(Kx:t0a [] w w1)(Ks:t0a [g] w1 w2)(hg:g<wb.heap.size∨w.heap.size≤g)(_a0:l.length≤1000):RdI [] w2 v l:=by
 rcases hg with hg|hg
 ·exact(((h [g] (by simp;exact hg)).keep Kx.of_nil).keep Ks).less (by simp)
 ·exact((((h [] (by simp)).more (by omega) (fun x hx=>by rw[List.mem_singleton.1 hx];exact .inr hg)).keep Kx.of_nil).keep Ks).less (by simp)
theorem k8b.over{wb w w1 w2:World}{v:Value}{l:List (Int×Int)}{g:Nat}(h:k8b wb w v l)(Kx:t0a [] w w1)(Ks:t0a [g] w1 w2)(hg:g<wb.heap.size∨w.heap.size≤g)(_a0:l.length≤10000):O3b [] w2 v l:=by
 rcases hg with hg|hg
 ·exact(((h [g] (by simp;exact hg)).keep Kx.of_nil).keep Ks).less (by simp)
 ·exact((((h [] (by simp)).more (by omega) (fun x hx=>by rw[List.mem_singleton.1 hx];exact .inr hg)).keep Kx.of_nil).keep Ks).less (by simp)
noncomputable def allC(p:k0a)(t:Nat)(l:List Int):List Int:=Q3b (l++(onE p t).sup 3) ((onE p t).sup 2)
def t3c(p:k0a)(t:Nat)(l:List Int)(x y:Nat):Prop:=∃a b,ofR (onE p t) (allC p t l) (wdL p.cells (allC p t l)) (2 ^ (N3a (wdL p.cells (allC p t l))).toNat) a b∧x=nuZ l (wdL p.cells l) (stZ (allC p t l) (wdL p.cells (allC p t l)) a K2a)∧y=nuZ l (wdL p.cells l) (stZ (allC p t l) (wdL p.cells (allC p t l)) b K2a)
theorem Y4c{p:k0a}{t:Nat}{l:List Int}{a0:Nat}(b0:N3a (wdL p.cells (allC p t l))=a0)(h6:a0≤6){m:List Nat}(hm:b5a m (ofR (onE p t) (allC p t l) (wdL p.cells (allC p t l)) (2 ^ a0)))(x y:Nat):
 ((x:Int),(y:Int))∈ddP ((Z0b m 64).map (prj (allC p t l) (wdL p.cells (allC p t l)) l (wdL p.cells l)))↔t3c p t l x y:=by
 rw[u0b,List.mem_map];unfold t3c;rw[b0,Int.toNat_natCast];constructor
 ·rintro⟨q,hq,he⟩;obtain⟨a,b,-,-,h3,rfl⟩:=(hm.mem q).1 hq;unfold prj at he;simp only[Prod.mk.injEq,Int.toNat_natCast,Int.natCast_inj] at he;exact⟨a,b,h3,he.1.symm,he.2.symm⟩
 ·rintro⟨a,b,h3,rfl,rfl⟩;refine⟨((a:Int),(b:Int)),(hm.mem _).2 ⟨a,b,?_,?_,h3,Z⟩,?_⟩
  ·exact Nat.lt_of_lt_of_le h3.1 (Nat.pow_le_pow_right (n:=2) (j:=6) (by omega) h6)
  ·exact Nat.lt_of_lt_of_le h3.2.1 (Nat.pow_le_pow_right (n:=2) (j:=6) (by omega) h6)
  ·unfold prj;simp only[Int.toNat_natCast]
theorem c9b.congr{w0 w:World}{v:Value}{C W:List Int}{R R':Nat→Nat→Prop}{n:Nat}(h:c9b w0 w v C W R n)(hr:∀x y,R x y↔R' x y):c9b w0 w v C W R' n:=by
 obtain⟨a,b,c,l,h1,h2,h3,h4,h5,h6,h7⟩:=h.get;refine⟨a,b,c,l,h1,h2,h3,h4,h5,h6,fun p=>(h7 p).trans ?_⟩;constructor
 ·rintro⟨x,y,h,rfl⟩;exact⟨x,y,h.mono fun a b=>(hr a b).1,Z⟩
 ·rintro⟨x,y,h,rfl⟩;exact⟨x,y,h.mono fun a b=>(hr a b).2,Z⟩
theorem K1c(l:List Int):(J3a l).length=l.length:=by simp[J3a]
theorem o5b(p:k0a)(t:Nat)(l:List Int)(hr:Y2a l)(y3:∀c∈l,0≤c∧c<p.cells.length)(M:List Nat)(w0:World)(cs:List Value)(vl:Value)(hI:InP p M w0 cs)(hL:RdI M w0 vl l)(I4:onE p t≠zE)(o2:(onE p t).valid p.cells true=true)
 (C0:Nat) (hb:N3a (wdL p.cells l)=C0) (x0:Nat) (g2:N3a (wdL p.cells (allC p t l))=x0) (M1:∀c∈allC p t l,0≤c∧c<p.cells.length) (ht:t<p.threads.length:=by decide) (hb6:C0≤6:=by omega) (hba6:x0≤6:=by omega) :
 C0a prog 22 #[.agg cs.toArray,.int .i64 t,vl] w0 fun v w'=>(∃u,v=.tuple #[u,.int .i64 0]∧c9b w0 w' u l (wdL p.cells l) (t3c p t l) (2 ^ C0))∧Below w0.heap.size w0 w':=by
 obtain⟨Ac,nc,cc,Am,nm,cm,Al,nl,cl,At,nt,ct,rfl,hC,_⟩:=hI.rd.open_;obtain⟨A,n,c,rfl⟩:=hL.form;have hM:=hI.lt;have hp:=hI.ok;have s1:∀c∈p.cells,1≤c.w∧c.w≤8:=fun c hc=>by have:=(hp.cells c hc).w;omega
 have y0:=hp.ncells;have ho:=M0b hr y3 y0 s1;have q1:=S6a (l++(onE p t).sup 3) ((onE p t).sup 2);have p2:Y2a (allC p t l):=q1.1;have z3:=M0b p2 M1 y0 s1;have u5:=ho.clen;have m4:=z3.clen;have z5:=z8a (onE p t) 3;have y5:=z8a (onE p t) 2;have O4:=(x2a o2).1;have x5:=D1d O4;have T2:(onE p t).w=1:=by
  rcases v4a (op:=5) (unit:=1) (.inr Z) (F6a p t::(ofL p t).map (Y3a p)) with h|h
  ·exact absurd h I4
  ·exact h.2
 have P2:∀q∈[l,(onE p t).sup 3,(onE p t).sup 2],q.length≤1000:=fun q hq=>by
  simp only[List.mem_cons,List.not_mem_nil,or_false] at hq;rcases hq with rfl|rfl|rfl<;>omega
 have Q1:[l,(onE p t).sup 3,(onE p t).sup 2].flatten=(l++(onE p t).sup 3)++(onE p t).sup 2:=by simp
 have u3:∀x∈allC p t l,i64 x:=fun x hx=>by have:=M1 x hx;unfold i64;omega
 have V0:(allC p t l).length≤140737488355328:=by omega
 have S:=(St.refl w0).nilEnt 72;refine w0b func22 Z ntmps22 Z (wI ?_);refine wO0 Z U (p0a S Z ?_);intro g3 w3 S3 X3 G3;refine g0a S3 H7a Z Z ?_;intro g6 w6 S6 X6 G6;refine lB0 Z U (fun i4=>by exfalso;omega) fun i4=>?_;refine lB S6.k [.o 1] Z ⟨Z,U⟩ (fun k4=>by exfalso;omega) fun k4=>?_;refine lO S6.k [.w 1] Z ⟨⟨Z,Z⟩,U⟩ (h0a S6 t8b Z Z (y6a p M _ _ (hI.keep (S6.keep0 M))) ?_);intro F3 b1 h5;refine lO b1.k [.o 1] Z ⟨Z,U⟩ ?_;have m5:w0.heap.size≤F3.heap.size:=b1.size;have J1:∀g∈[g6],g<F3.heap.size:=fun g hg=>by rw[List.mem_singleton.1 hg];exact b1.lt 0 Z
 refine n0a b1 f1d Z Z (L5b p.cells l M _ _ _ (hC.keep (b1.keep0 M)) (hL.keep (b1.keep0 M)) hr y3 y0 s1 (by omega) (hI.msk.keep (b1.keep0 M))) ?_;rintro D5 X2 ⟨a,b,_,_,rfl,ha,v3,hd⟩ Q3 i5;obtain⟨A1,n1,c1,rfl⟩:=ha.form;obtain⟨A2,n2,c2,rfl⟩:=v3.form;obtain⟨A3,n3,c3,rfl⟩:=hd.form;have KQ:=t0a.refl [g6] X2;refine lO0 Z U (g0a Q3 H7a Z Z ?_);intro g8 w8 S8 X8 G8;have s2:=Nat.le_trans KQ.size G8;replace KQ:=KQ.trans (X8.of_nil);refine c0a (kk:=0) (vs:=[_,_,_]) S8 R7a Z Z Z Z Z Z Z ?_;intro W4 P0 x2;dsimp only[i0a,List.set] at P0;replace KQ:=KQ.fresh2 x2 (by exact .inl s2);refine lB0 Z U (fun o4=>by exfalso;omega) fun o4=>?_;refine lO P0.k [.w 2] Z ⟨⟨Z,Z⟩,U⟩ (n0a P0 t7b Z Z (U4c p t ht M _ _ (hI.keep (P0.keep0 M))) ?_);rintro v45 H3 ⟨_,rfl,X1⟩ R3 W3;replace KQ:=KQ.trans (W3.of_nil);obtain⟨Z2,D3,E3,rfl,_⟩:=X1.cells;have KE:=t0a.refl M H3;refine g0a R3 f2a Z Z ?_;intro r3 L5 P3 i3 a3;have x1:=Nat.le_trans KQ.size a3;have v1:=Nat.le_trans KE.size a3;replace KQ:=KQ.trans (i3.of_nil);replace KE:=KE.trans (i3.of_nil);refine c0a (kk:=0) (vs:=[_,_,_,_]) P3 q1a Z Z Z Z Z Z Z ?_;intro Y2 v0 F1;dsimp only[i0a,List.set] at v0;replace KQ:=KQ.fresh2 F1 (by exact .inl x1);replace KE:=KE.fresh2 F1 (by exact .inl v1);refine lB v0.k [.o 0] Z ⟨Z,U⟩ (fun p4=>by exfalso;omega) fun p4=>?_;refine lB0 Z U (fun q4=>by exfalso;omega) fun q4=>?_;refine lO v0.k [.w 0] Z ⟨⟨Z,Z⟩,U⟩ ?_;have a4:∀g∈M,g<Y2.heap.size:=fun g hg=>Nat.lt_of_lt_of_le (hM g hg) v0.size;refine n0a v0 e8b Z Z (P4a (onE p t) M _ _ (RdE.keep KE _ _ X1) (hI.msk.keep (v0.keep0 M)) a4) ?_;rintro E5 X4 ⟨_,_,rfl,K1,N1⟩ T3 j3;replace KQ:=KQ.trans (j3.of_nil);replace KE:=KE.trans (j3.of_nil);obtain⟨A4,n4,c4,rfl⟩:=K1.form;obtain⟨A5,n5,c5,rfl⟩:=N1.form;have KS:=t0a.refl M X4;refine lO0 Z U (m0a T3 e0b (vs:=[.slice _ _ _,.slice _ _ _,.slice _ _ _]) (cs:=[_,_,_]) Z Z Z Z Z Z ?_);intro E2 N5 r1 y2 b5;replace KQ:=KQ.trans (y2.of_nil);replace KE:=KE.trans (y2.of_nil);replace KS:=KS.trans (y2.of_nil);have o5:=KE.size;have b4:=KQ.size;refine n0a r1 g6c Z Z (e5b M _ E2 [l,(onE p t).sup 3,(onE p t).sup 2] P2 (by simp) (r4d (r1.cell 0 Z Z) (r1.cell 0 Z Z) (r1.cell 0 Z Z) (hL.keep (r1.keep0 M)) (K1.keep KS) (N1.keep KS))) ?_;rintro F5 O5 ⟨z0,D2,p1,j1⟩ U3 o3;have C1:=U3.pushO r1 j1;rw[Q1] at p1;have i2:∀g∈z0.toList,H3.heap.size≤g∨g∈M:=fun g hg=>.inl (by have:=(j1 g (by cases z0<;>simp at hg ⊢;exact hg.symm)).1;omega);have j2:∀g∈z0.toList,X2.heap.size≤g∨g∈[g6]:=fun g hg=>.inl (by have:=(j1 g (by cases z0<;>simp at hg ⊢;exact hg.symm)).1;omega);replace KE:=KE.trans o3.of_nil;replace KQ:=KQ.trans o3.of_nil;obtain⟨_,_,_,rfl⟩:=p1.form;refine lO0 Z U ?_;refine j1a D0c Z Z (L3c _ z0 _ D2 _ _ p1 (fun g hg=>by subst hg;exact C1.blk 0 Z) (by simp;omega)) ?_;rintro G5 Y1 ⟨I1,q2,G2,U1⟩;have a2:=C1.changedO 0 Z q2 G2;dsimp only[List.set] at a2;replace KE:=KE.freshL q2.keepO i2;replace KQ:=KQ.freshL q2.keepO j2;refine lCn 2 a2.k [] Z U (wX (fun D ε w=>D=[]∧∃J0:Nat,∃D0:List Value,∃B1:Option Addr,∃m1:Nat,∃d1:Nat,∃B2:Option Addr,∃m2:Nat,∃d2:Nat,∃B3:Option Addr,∃m3:Nat,∃d3:Nat,∃m:List Nat,(b5a m (ofR (onE p t) (allC p t l) (wdL p.cells (allC p t l)) (2 ^ x0)))∧(RdI [] w (.slice B1 m1 d1) (allC p t l))∧(RdI [] w (.slice B2 m2 d2) (wdL p.cells (allC p t l)))∧(O3b [] w (.slice B3 m3 d3) (Z0b m 64))∧(t0a [g6] X2 w)∧St [] w0 w [(some J0,41,[.slice B1 m1 d1,.slice B2 m2 d2,.slice B3 m3 d3]),(z0,3,D0),(some E2,28,[.slice A n c,.slice A4 n4 c4,.slice A5 n5 c5]),(some r3,37,[.int .i64 (onE p t).op,.int .i64 (onE p t).w,.int .i64 (onE p t).n,.slice Z2 D3 E3]),(some g8,41,[.slice A1 n1 c1,.slice A2 n2 c2,.slice A3 n3 c3]),(some g6,41,[.slice none 0 0,.slice none 0 0,.slice none 0 0]),(some g3,27,[.slice Ac nc cc,.slice Am nm cm,.slice Al nl cl,.slice At nt ct]),(none,72,[])]∧Sl ε [(6,.pointer (some ⟨g6,0,none⟩)),(8,.pointer (some ⟨g8,0,none⟩)),(9,.int .i64 0),(14,.pointer (some ⟨J0,0,none⟩))]) ?_ ?_)
 ·have B5:(J3a ((l++(onE p t).sup 3)++(onE p t).sup 2)).length≤1000000:=by rw[K1c];simp;omega
  obtain⟨wt,P4⟩:∃x,x=Y1:=⟨_,Z⟩;have KT:t0a [] wt Y1:=P4▸t0a.refl _ _;refine x1b b0a (fun i=>[0,1,2,4,6,7,8,11].contains i) (.op 0 (.op 1 (.op 2 (.op 4 (.two (.op 3 (.two (.op 5 (.op 6 (.op 7 (.op 8 (.op 9 (.op 10 (.op 11 .nil))))))) (.op 9 (.op 5 (.op 6 (.op 7 (.op 8 (.op 10 (.op 11 .nil))))))))) (.op 9 (.op 3 (.op 5 (.op 6 (.op 7 (.op 8 (.op 10 (.op 11 .nil))))))))))))) (clE a2 0 z0.toList) ?_;have g0:=a2.drew;have H1:t0a [] Y1 Y1.drew:=O2a _ _;generalize Y1.drew=Z4 at g0 H1 ⊢;have o0:t0a (z0.toList) _ _:=H1.of_nil;refine g1a ⟨St.er (g0) 0,o0⟩ Z Z Z ?_;refine J0a U2c Z Z ?_;refine d0a ?_;refine g1a ⟨St.er (g0) 0,o0⟩ Z Z Z ?_;refine j0a w1b Z (fun w1 hw=>by exact hw.1.cell 4 Z Z) Z ?_;refine d0a ?_;refine g1a ⟨St.er (g0) 0,o0⟩ Z Z Z ?_;refine M0a Z ?_;refine d0a ?_;refine g1a ⟨St.er (g0) 0,o0⟩ Z Z Z ?_;refine D1a I0a Z (fun w1 hw=>hw.1.cells 1 Z) Z Z ?_;refine d0a ?_;refine B4a ?_ ?_
  ·refine b2a ⟨St.er (g0) 0,o0⟩ Z Z Z ?_;refine j1a W5c Z Z (z0b _ z0 _ I1 _ _ U1 (fun g hg=>by subst hg;exact g0.blk 0 Z)) ?_;rintro v70 Z1 ⟨D0,t1,i1,E0⟩;have j0:=o0.trans t1.keepO;have n0:=g0.changedO 0 Z t1 i1;dsimp only[List.set] at n0;have f2:RdI [] Z1 v70 (allC p t l):=by
    exact E0.rdI n0 (k:=0) Z (by simp) u3 V0
   obtain⟨J3,T4,e4,rfl⟩:=E0.form;refine r0a ⟨Z,?_⟩;refine B4a ?_ ?_
   ·refine b2a ⟨St.er (n0) 0,j0⟩ Z Z Z ?_;have q3:∀g∈M,g<Z1.heap.size:=fun g hg=>Nat.lt_of_lt_of_le (hM g hg) n0.size;refine n0a n0 b0c Z Z (V5b p.cells (allC p t l) (onE p t) [] _ _ _ _ ((hC.keep (n0.keep0 M)).less (by simp)) (f2.keep (by exact t0a.refl _ _)) (RdE.less (by simp) _ _ (RdE.keep (KE.freshL j0 i2) _ _ X1)) p2 M1 y0 s1 x0 g2 hba6 ⟨List.not_mem_nil,(hI.msk.keep (n0.keep0 M)).2⟩ o2 T2 (fun x hx=>(q1.2 x).2 (.inl (List.mem_append_right _ hx))) (fun x hx=>(q1.2 x).2 (.inr hx))) ?_;rintro v72 I3 ⟨a8,b8,c8,m,rfl,W0,X0,Y0,hm⟩ p0 G1;obtain⟨B1,m1,d1,rfl⟩:=W0.form;obtain⟨B2,m2,d2,rfl⟩:=X0.form;obtain⟨B3,m3,d3,rfl⟩:=Y0.form;have c0:=j0.trans G1.of_nil;refine r0a ⟨Z,?_⟩;refine g1a ⟨St.er (p0) 0,c0⟩ Z Z Z ?_;refine M0a Z ?_;refine d0a ?_;refine g1a ⟨St.er (p0) 0,c0⟩ Z Z Z ?_;refine g2a Z Z Z ?_;refine d0a ?_;refine g1a ⟨St.er (p0) 0,c0⟩ Z Z Z ?_;refine g2a Z Z Z ?_;refine d0a ?_;refine b2a ⟨St.er (p0) 0,c0⟩ Z Z Z ?_;refine g0a p0 H7a Z Z ?_;intro J0 V2 r0 Q0 T0;have d0:=c0.trans (Q0.mono (by simp));refine r0a ⟨Z,?_⟩;refine b2a ⟨St.er (r0.tail) 0,d0⟩ Z Z Z ?_;refine c0a (kk:=0) (vs:=[_,_,_]) r0 R7a Z Z Z Z Z Z Z ?_;intro H0 a0 b0;dsimp only[i0a,List.set] at a0;have f0:=d0.fresh2 b0 (.inl (by exact Nat.le_trans c0.size T0));refine r0a ⟨Z,?_⟩;refine g1a ⟨St.er (a0.tail) 0,f0⟩ Z Z Z ?_;refine G3a (v:=.int .i64 _) Z Z ?_;refine d0a ?_;refine b3a ⟨St.er (a0.tail) 0,f0⟩ ?_;refine fP0 Z U ⟨Z,(J0),(_),(_),(_),(_),(_),(_),(_),(_),(_),(_),(m),(hm),?_,?_,?_,(KQ.freshL f0 j2),a0,Z⟩
    ·exact W0.over (by exact Q0) b0 (by exact .inr T0) (by omega)
    ·exact X0.over (by exact Q0) b0 (by exact .inr T0) (by rw[List.length_map];omega)
    ·exact Y0.over (by exact Q0) b0 (by exact .inr T0) (by have:=k4a m 64;omega)
   refine b2a ⟨St.er (n0) 0,j0⟩ Z Z Z ?_;refine g0a n0 H7a Z Z ?_;intro J0 V2 r0 Q0 T0;have d0:=j0.trans (Q0.mono (by simp));refine r0a ⟨Z,?_⟩;refine b2a ⟨St.er (r0.tail) 0,d0⟩ Z Z Z ?_;have q3:∀g∈M,g<V2.heap.size:=fun g hg=>Nat.lt_of_lt_of_le (hM g hg) r0.size;refine n0a r0 b0c Z Z (V5b p.cells (allC p t l) (onE p t) [] _ _ _ _ ((hC.keep (r0.keep0 M)).less (by simp)) (f2.keep (by exact Q0)) (RdE.less (by simp) _ _ (RdE.keep (KE.freshL d0 i2) _ _ X1)) p2 M1 y0 s1 x0 g2 hba6 ⟨List.not_mem_nil,(hI.msk.keep (r0.keep0 M)).2⟩ o2 T2 (fun x hx=>(q1.2 x).2 (.inl (List.mem_append_right _ hx))) (fun x hx=>(q1.2 x).2 (.inr hx))) ?_;rintro v72 I3 ⟨a8,b8,c8,m,rfl,W0,X0,Y0,hm⟩ p0 G1;obtain⟨B1,m1,d1,rfl⟩:=W0.form;obtain⟨B2,m2,d2,rfl⟩:=X0.form;obtain⟨B3,m3,d3,rfl⟩:=Y0.form;have c0:=d0.trans G1.of_nil;refine r0a ⟨Z,?_⟩;refine g1a ⟨St.er (p0.tail) 0,c0⟩ Z Z Z ?_;refine M0a Z ?_;refine d0a ?_;refine g1a ⟨St.er (p0.tail) 0,c0⟩ Z Z Z ?_;refine g2a Z Z Z ?_;refine d0a ?_;refine g1a ⟨St.er (p0.tail) 0,c0⟩ Z Z Z ?_;refine g2a Z Z Z ?_;refine d0a ?_;refine b2a ⟨St.er (p0.tail) 0,c0⟩ Z Z Z ?_;refine c0a (kk:=0) (vs:=[_,_,_]) p0 R7a Z Z Z Z Z Z Z ?_;intro H0 a0 b0;dsimp only[i0a,List.set] at a0;have f0:=c0.fresh2 b0 (.inl (by exact Nat.le_trans j0.size T0));refine r0a ⟨Z,?_⟩;refine g1a ⟨St.er (a0.tail) 0,f0⟩ Z Z Z ?_;refine G3a (v:=.int .i64 _) Z Z ?_;refine d0a ?_;refine b3a ⟨St.er (a0.tail) 0,f0⟩ ?_;refine fP0 Z U ⟨Z,(J0),(_),(_),(_),(_),(_),(_),(_),(_),(_),(_),(m),(hm),?_,?_,?_,(KQ.freshL f0 j2),a0,Z⟩
   ·exact W0.over (by exact t0a.refl _ _) b0 (by exact .inl (r0.lt 0 Z)) (by omega)
   ·exact X0.over (by exact t0a.refl _ _) b0 (by exact .inl (r0.lt 0 Z)) (by rw[List.length_map];omega)
   ·exact Y0.over (by exact t0a.refl _ _) b0 (by exact .inl (r0.lt 0 Z)) (by have:=k4a m 64;omega)
  refine b2a ⟨St.er (g0) 0,o0⟩ Z Z Z ?_;refine g0a g0 H7a Z Z ?_;intro J0 V2 r0 Q0 T0;have d0:=o0.trans (Q0.mono (by simp));refine r0a ⟨Z,?_⟩;refine b2a ⟨St.er (r0.tail) 0,d0⟩ Z Z Z ?_;refine j1a W5c Z Z (z0b _ z0 _ I1 _ _ U1 (fun g hg=>by subst hg;exact r0.blk 1 Z)) ?_;rintro v70 Z1 ⟨D0,t1,i1,E0⟩;have j0:=d0.trans t1.keepO;have n0:=r0.changedO 1 Z t1 i1;dsimp only[List.set] at n0;have f2:RdI [] Z1 v70 (allC p t l):=by
   exact E0.rdI n0 (k:=1) Z (by simp) u3 V0
  obtain⟨J3,T4,e4,rfl⟩:=E0.form;refine r0a ⟨Z,?_⟩;refine b2a ⟨St.er (n0.tail) 0,j0⟩ Z Z Z ?_;have q3:∀g∈M,g<Z1.heap.size:=fun g hg=>Nat.lt_of_lt_of_le (hM g hg) n0.size;refine n0a n0 b0c Z Z (V5b p.cells (allC p t l) (onE p t) [] _ _ _ _ ((hC.keep (n0.keep0 M)).less (by simp)) (f2.keep (by exact t0a.refl _ _)) (RdE.less (by simp) _ _ (RdE.keep (KE.freshL j0 i2) _ _ X1)) p2 M1 y0 s1 x0 g2 hba6 ⟨List.not_mem_nil,(hI.msk.keep (n0.keep0 M)).2⟩ o2 T2 (fun x hx=>(q1.2 x).2 (.inl (List.mem_append_right _ hx))) (fun x hx=>(q1.2 x).2 (.inr hx))) ?_;rintro v72 I3 ⟨a8,b8,c8,m,rfl,W0,X0,Y0,hm⟩ p0 G1;obtain⟨B1,m1,d1,rfl⟩:=W0.form;obtain⟨B2,m2,d2,rfl⟩:=X0.form;obtain⟨B3,m3,d3,rfl⟩:=Y0.form;have c0:=j0.trans G1.of_nil;refine r0a ⟨Z,?_⟩;refine g1a ⟨St.er (p0.tail) 0,c0⟩ Z Z Z ?_;refine M0a Z ?_;refine d0a ?_;refine g1a ⟨St.er (p0.tail) 0,c0⟩ Z Z Z ?_;refine g2a Z Z Z ?_;refine d0a ?_;refine g1a ⟨St.er (p0.tail) 0,c0⟩ Z Z Z ?_;refine g2a Z Z Z ?_;refine d0a ?_;refine b2a ⟨St.er (p0.tail) 0,c0⟩ Z Z Z ?_;refine c0a (kk:=0) (vs:=[_,_,_]) p0 R7a Z Z Z Z Z Z Z ?_;intro H0 a0 b0;dsimp only[i0a,List.set] at a0;have f0:=c0.fresh2 b0 (.inl (by exact Nat.le_trans o0.size T0));refine r0a ⟨Z,?_⟩;refine g1a ⟨St.er (a0.tail) 0,f0⟩ Z Z Z ?_;refine G3a (v:=.int .i64 _) Z Z ?_;refine d0a ?_;refine b3a ⟨St.er (a0.tail) 0,f0⟩ ?_;refine fP0 Z U ⟨Z,(J0),(_),(_),(_),(_),(_),(_),(_),(_),(_),(_),(m),(hm),?_,?_,?_,(KQ.freshL f0 j2),a0,Z⟩
  ·exact W0.over (by exact t0a.refl _ _) b0 (by exact .inl (n0.lt 0 Z)) (by omega)
  ·exact X0.over (by exact t0a.refl _ _) b0 (by exact .inl (n0.lt 0 Z)) (by rw[List.length_map];omega)
  ·exact Y0.over (by exact t0a.refl _ _) b0 (by exact .inl (n0.lt 0 Z)) (by have:=k4a m 64;omega)
 rintro D ε w ⟨rfl,J0,D0,B1,m1,d1,B2,m2,d2,B3,m3,d3,m,hm,x4,N4,E4,KQ,S,eZ⟩;refine wK eZ ?_;obtain⟨wc,KC,I2,U2,N2,Q2,S2⟩:∃wc,t0a [] wc w∧RdI [] wc (.slice B1 m1 d1) (allC p t l)∧RdI [] wc (.slice B2 m2 d2) (wdL p.cells (allC p t l))∧O3b [] wc (.slice B3 m3 d3) (Z0b m 64)∧RdI [g6] wc (.slice A1 n1 c1) l∧RdI [g6] wc (.slice A2 n2 c2) (wdL p.cells l):=⟨w,t0a.refl _ _,x4,N4,E4,(ha [g6] J1).keep KQ,(v3 [g6] J1).keep KQ⟩;refine wB0 Z U (fun r4=>by exfalso;omega) fun r4=>?_;have N3:=KC.size;refine lO0 Z U (g0a S I3d Z Z ?_);intro m0 V4 u2 V3 M3;replace KC:=KC.trans V3;have O3:wc.heap.size≤m0:=Nat.le_trans (by exact N3) M3;refine lO u2.k [.w 1,.o 5,.o 5] Z ⟨Z,Z,⟨Z,Z⟩,U⟩ (G0a M7b (vs:=[(0,.slice _ _ _),(1,.slice _ _ _)]) (cs:=[_,_,_]) Z Z Z Z ?_);have f5:m0<V4.heap.size:=u2.lt 0 Z;have g5:=KC.size;refine n0a u2 N0d Z Z (I9b _ _ _ _ _ _ _ _ _ _ _ _ _ _ _ _ _ _ _) ?_;rintro H5 O0 ⟨ga,gb,rfl,_,_,O1,P1⟩ D1 Y3;replace KC:=KC.trans Y3;refine lC0 Z U (wJ ?_);refine V9a (vs:=fun y=>#[y,_,_]) A0d Z (fun _=>rfl) (fun rc wi R2 C3 K4 J2 J4 u4 v4 B4 hl hB C5=>?_);obtain⟨lp,F4⟩:∃lp,lp=O0.heap.size+1:=⟨_,Z⟩;have t3:=J9a (NC.nil (w:=O0)) B4 hl hB;rw[←F4] at hl t3 ⊢;have Si:=D1.later hB;have Ki:t0a [] O0 wi:=t0a.of_below hB;have Zw:=D1.size;have Q4:=D1.lt 0 Z;have U4:w0.heap.size≤m0:=by simpa using D1.new 0 Z
 have R4:=O1.lt;have S4:=P1.lt;simp only at R4 S4;have o1:∀x∈[(O0.heap.size,Obj.deferred (some []))],x.1≠lp:=fun x hx=>by
  rcases List.mem_cons.1 hx with rfl|hx
  ·show O0.heap.size≠lp;omega
  ·cases hx
 have K2:ga∉[lp,m0]:=fun hh=>by
  simp only[List.mem_cons,List.not_mem_nil,or_false] at hh;omega
 have L2:gb∉[lp,m0]:=fun hh=>by
  simp only[List.mem_cons,List.not_mem_nil,or_false] at hh;omega
 have e2:∀g∈[lp,m0],g∈([]:List Nat)∨wc.heap.size≤g:=fun g hg=>by
  simp only[List.mem_cons,List.not_mem_nil,or_false] at hg;right;have h1:=KC.size;rcases hg with rfl|rfl
  ·omega
  ·exact O3
 have t2:t0a [lp,m0] wc wi:=(KC.trans Ki).of_nil;have s3:∀g∈g6::[lp,m0],g∈[g6]∨wc.heap.size≤g:=fun g hg=>by
  rcases List.mem_cons.1 hg with rfl|h
  ·exact .inl (by simp)
  ·exact .inr ((e2 g h).elim (fun h=>by cases h) id)
 have T1:RdI (g6::[lp,m0]) wi (.slice A1 n1 c1) l:=(Q2.more (by omega) s3).keep (KC.trans Ki).of_nil;have W1:RdI (g6::[lp,m0]) wi (.slice A2 n2 c2) (wdL p.cells l):=(S2.more (by omega) s3).keep (KC.trans Ki).of_nil;have G4:RdI [lp,m0] wi (.slice A1 n1 c1) l:=T1.less (fun g hg=>List.mem_cons_of_mem _ hg);have L4:RdI [lp,m0] wi (.slice A2 n2 c2) (wdL p.cells l):=W1.less (fun g hg=>List.mem_cons_of_mem _ hg);have w4:RdI [lp,m0] wi (.slice B1 m1 d1) (allC p t l):=(I2.more (by omega) e2).keep t2;have M4:RdI [lp,m0] wi (.slice B2 m2 d2) (wdL p.cells (allC p t l)):=(U2.more (by omega) e2).keep t2;have D4:O3b [lp,m0] wi (.slice B3 m3 d3) (Z0b m 64):=(N2.more (by omega) e2).keep t2;refine C0a.mono (w6b (allC p t l) (wdL p.cells (allC p t l)) l (wdL p.cells l) (Z0b m 64) C0 lp ga gb _ _ [lp,m0] wi (fun Ps k w=>NC w [(lp,.loop rc),(O0.heap.size,.deferred (some []))]∧(∃G cs v,e2a Y8a 2 [] w0 G cs v k∧(∀x∈G.toList,wi.heap.size≤x∧x∉Ps)∧(∀x∈k,i64 x.1∧i64 x.2)∧St [] w0 w [(some m0,32,[v]),(some J0,41,[.slice B1 m1 d1,.slice B2 m2 d2,.slice B3 m3 d3]),(z0,3,D0),(some E2,28,[.slice A n c,.slice A4 n4 c4,.slice A5 n5 c5]),(some r3,37,[.int .i64 (onE p t).op,.int .i64 (onE p t).w,.int .i64 (onE p t).n,.slice Z2 D3 E3]),(some g8,41,[.slice A1 n1 c1,.slice A2 n2 c2,.slice A3 n3 c3]),(some g6,41,[.slice none 0 0,.slice none 0 0,.slice none 0 0]),(some g3,27,[.slice Ac nc cc,.slice Am nm cm,.slice Al nl cl,.slice At nt ct]),(G,72,cs)])∧t0a [lp,m0] wi w∧(∀g∈Ps,wi.heap.size≤g∧g<w.heap.size)) _ _ _ _ _ _ (a1a Ki O1) (a1a Ki P1) K2 L2 G4 L4 w4 M4 D4 ho z3 hb hb6 (by omega) ⟨none,0,0,Z⟩ (fun x hx=>by obtain⟨a,b,h1,h2,-,rfl⟩:=q3b.1 hx;simp only;omega) (k4a m 64) ⟨?_,?_,fun Ps k w h=>h.2.2.1,fun Ps k w a hJ w5 v5=>?_⟩) ?_
 ·intro Ps w F2 N0;exact⟨t3.keep (t0a.of_below F2),⟨none,[],.slice none 0 0,e2a.nil,by simp,by simp,Si.later F2⟩,t0a.of_below F2,N0⟩
 ·rintro Ps k w w' ⟨u0,⟨G,cs,v,h1,h2,j4,S3⟩,K3,N0⟩ b2;exact⟨u0.keep (t0a.of_below b2),⟨G,cs,v,h1,h2,j4,S3.later b2⟩,K3.trans (t0a.of_below b2),fun g hg=>⟨(N0 g hg).1,Nat.lt_of_lt_of_le (N0 g hg).2 b2.size⟩⟩
 ·obtain⟨u0,⟨G,cs,v,F0,R1,O2,S3⟩,K3,N0⟩:=hJ;obtain⟨Av,nv,cv,rfl⟩:=F0.form;have Kr:=t0a.refl ([lp,m0]++G.toList) w;refine X6c (u0 (lp,.loop rc) (by simp)).1 R2 K4 J2 J4 u4 v4 Z ?_;refine wI ?_;refine wO0 Z U (g0a S3 A1c Z Z ?_);intro s5 M5 f3 w2 b3;have u1:=Nat.le_trans K3.size b3;have y1:=Nat.le_trans Kr.size b3;replace K3:=K3.trans (w2.of_nil);replace Kr:=Kr.trans (w2.of_nil);replace u0:=u0.keep w2;refine c0a (kk:=0) (vs:=[_,_]) f3 K8b Z Z Z Z Z Z Z ?_;intro I0 U0 A0;dsimp only[i0a,List.set] at U0;replace K3:=K3.fresh2 A0 (by exact .inl u1);replace Kr:=Kr.fresh2 A0 (by exact .inl y1);replace u0:=by exact u0.keepS A0 (f3.blk 0 Z)
  refine lF0 Z U ?_;refine⟨(u0 (lp,.loop rc) (by simp)).1,?_⟩;have Sb:=U0.putObj (.loop { rc with state:=.busy }) u0 (List.mem_cons_self) (.inl (by omega));have L0:=u0.put (o':=.loop { rc with state:=.busy }) o1 (by simp);have Kb:=K3.fresh2 (g3a I0 lp (.loop { rc with state:=.busy })) (.inr (by simp));have Kbr:=Kr.fresh2 (g3a I0 lp (.loop { rc with state:=.busy })) (.inr (by simp));generalize I0.putObj lp (.loop { rc with state:=.busy })=wb at Sb L0 Kb Kbr ⊢;refine wI ?_;refine wO0 Z U (H0a U8a Z (by exact Sb.cell 1 Z Z) Z ?_);refine lO Sb.k [.w 0] Z ⟨⟨Z,by rfl⟩,U⟩ (m0a Sb M3a (vs:=[.agg _]) (cs:=[_,_]) Z Z Z Z Z Z ?_);intro t5 P5 v2 z2 d5;replace Kb:=Kb.trans (z2.of_nil);replace Kbr:=Kbr.trans (z2.of_nil);replace L0:=L0.keep z2;have d4:=Kb.size;have j5:=Kbr.size;refine r1a H9a (k:=10) (M2:=[]) (e1:=a) v2 M3a Z F0 Z Z (v2.cells 0 Z) ⟨Z,by unfold i64;omega,by unfold i64;omega⟩ (by omega) Z ?_;intro I5 e5 h4 Q5 h3 G0 C2 L3;replace Kb:=Kb.freshL C2 (fun g hg=>.inl (R1 g hg).1);replace Kbr:=Kbr.trans (C2.mono (fun g hg=>List.mem_append_right _ hg));replace L0:=L0.keepL C2 (X2b v2 10 Z);obtain⟨_,_,_,rfl⟩:=G0.form;refine f1a (kk:=2) h3 c2d Z Z Z (by exact Nat.le_of_ble_eq_true Z) ?_;intro Z0 z1 B0;replace Kb:=Kb.fresh2 B0 (by exact .inr (by simp));replace Kbr:=Kbr.fresh2 B0 (by exact .inr (by simp));replace L0:=by exact L0.keepS B0 (h3.blk 2 Z)
  refine lF0 Z U ?_;refine⟨{ rc with state:=.busy },(L0 (lp,_) (by simp)).1,Z,?_⟩;have s4:=L0.put (o':=.loop rc) o1 (by simp);have Sn:=z1.tail.tail.putObj (.loop rc) L0 (List.mem_cons_self) (.inl (by omega));have Kn:=Kb.fresh2 (g3a Z0 lp (.loop rc)) (.inr (by simp));have e3:=Kbr.fresh2 (g3a Z0 lp (.loop rc)) (.inr (by simp));rw[n8b R2 C3];refine⟨⟨s4,⟨_,_,_,G0,fun x hx=>?_,fun x hx=>?_,Sn⟩,Kn,fun g hg=>⟨(N0 g hg).1,Nat.lt_of_lt_of_le (N0 g hg).2 e3.size⟩⟩,fun g hg=>e3.same g (N0 g hg).2 (fun hh=>?_)⟩
  ·rcases L3 x hx with h|h
   ·exact R1 x h
   ·exact⟨Nat.le_trans d4 h,fun hh=>by have:=(N0 x hh).2;omega⟩
  ·rcases List.mem_append.1 hx with h|h
   ·exact O2 x h
   ·rw[List.mem_singleton.1 h];unfold i64;omega
  ·rcases List.mem_append.1 hh with h|h
   ·simp only[List.mem_cons,List.not_mem_nil,or_false] at h;have h1:=(N0 g hg).1;rcases h with rfl|rfl<;>omega
   ·exact(R1 g h).2 hg
 rintro v w3 ⟨Ps,u0,⟨G,g4,_,F0,R1,O2,S3⟩,K3,-⟩;obtain⟨Av,nv,cv,rfl⟩:=F0.form;refine⟨rc,(u0 (lp,.loop rc) (by simp)).1,by rw[R2];simp,.inl ⟨C3,?_⟩⟩;have Sa:=S3.putObj (.loop { rc with state:=.exhausted }) u0 (List.mem_cons_self) (.inl (by omega));have K0:=(u0.put (o':=.loop { rc with state:=.exhausted }) o1 (by simp)).tail;have Ka:=K3.fresh2 (g3a w3 lp (.loop { rc with state:=.exhausted })) (.inr (by simp));generalize w3.putObj lp (.loop { rc with state:=.exhausted })=wa at Sa K0 Ka ⊢;have C4:∀g∈G.toList,wi.heap.size≤g∨g∈[lp,m0]:=fun g hg=>.inl (R1 g hg).1;have t4:((Z0b m 64).map (prj (allC p t l) (wdL p.cells (allC p t l)) l (wdL p.cells l))).length≤4096:=by rw[List.length_map];exact k4a m 64
 have r5:g6<O0.heap.size:=D1.lt 6 Z;refine fC0 Z U (x1b b0a (fun i=>[0,1,2,3,4,6,8,9,11].contains i) (.op 0 (.op 1 (.op 2 (.op 3 (.op 4 (.op 5 (.op 6 (.op 7 (.op 8 (.op 9 (.op 10 (.op 11 .nil)))))))))))) (h4d Sa 8 6 (g6::G.toList)) ?_);have i0:=Sa.drew;have g1:t0a [] wa wa.drew:=O2a _ _;generalize wa.drew=a5 at i0 g1 ⊢;have t0:t0a (g6::G.toList) _ _:=g1.of_nil;replace K0:=K0.keep g1;refine g1a ⟨St.er (St.er (i0) 8) 6,t0⟩ Z Z Z ?_;refine J0a S9b Z Z ?_;refine d0a ?_;refine g1a ⟨St.er (St.er (i0) 8) 6,t0⟩ Z Z Z ?_;refine j0a x4a Z (fun w1 hw=>by exact hw.1.cell 5 Z Z) Z ?_;refine d0a ?_;refine g1a ⟨St.er (St.er (i0) 8) 6,t0⟩ Z Z Z ?_;refine J0a N1c Z Z ?_;refine d0a ?_;refine g1a ⟨St.er (St.er (i0) 8) 6,t0⟩ Z Z Z ?_;refine j0a x4a Z (fun w1 hw=>by exact hw.1.cell 5 Z Z) Z ?_;refine d0a ?_;refine g1a ⟨St.er (St.er (i0) 8) 6,t0⟩ Z Z Z ?_;refine j0a U8a Z (fun w1 hw=>by exact hw.1.cell 0 Z Z) Z ?_;refine d0a ?_;refine b2a ⟨St.er (St.er (i0) 8) 6,t0⟩ Z Z Z ?_;refine j1a Y0c Z Z (m5b _ G g4 _ _ F0 (fun g hg=>by subst hg;exact i0.blk 8 Z) (by omega)) ?_;rintro J5 Y4 ⟨_,r2,H2,⟨_,_,_,rfl⟩,z4⟩;have R0:=t0.trans (r2.keepO.mono (fun g hg=>List.mem_cons_of_mem _ hg));have f1:=i0.changedO 8 Z r2 H2;dsimp only[List.set] at f1;replace K0:=K0.keepL r2.keepO (X2b i0 8 Z);refine r0a ⟨Z,?_⟩;refine g1a ⟨St.er (St.er (f1) 8) 6,R0⟩ Z Z Z ?_;refine B1a H5c (vs:=[(0,.slice _ _ _),(1,.slice _ _ _),(2,.slice _ _ _)]) (cs:=[_,_,_]) Z Z Z Z ?_;refine d0a ?_;refine b2a ⟨St.er (St.er (f1) 8) 6,R0⟩ Z Z Z ?_;have q5:=f1.size;have a1:t0a (g6::[lp,m0]) wi Y4:=(Ka.mono (fun g hg=>List.mem_cons_of_mem _ hg)).freshL R0 (fun g hg=>by
  rcases List.mem_cons.1 hg with rfl|h
  ·exact .inr List.mem_cons_self
  ·exact(C4 g h).imp id (List.mem_cons_of_mem _))
 refine n0a f1 j2d Z Z (i6b [] _ _ _ _ l (wdL p.cells l) _ C0 ((T1.keep a1).less (by simp)) ((W1.keep a1).less (by simp)) (z4 [] (by simp) O2) ho hb hb6 (fun x hx=>by obtain⟨a,-,rfl⟩:=List.mem_map.1 (u0b.1 hx);exact R1c ho.wid hb a) (d0c _)) ?_;rintro K5 R5 ⟨_,rfl,V1⟩ E1 p3;obtain⟨_,e1,_,_,_,_,_,_,_,rfl⟩:=V1.set3;have S0:=R0.trans p3.of_nil;replace K0:=K0.keep p3;refine r0a ⟨Z,?_⟩;refine g1a ⟨St.er (St.er (E1) 8) 6,S0⟩ Z Z Z ?_;refine g2a Z Z Z ?_;refine d0a ?_;refine g1a ⟨St.er (St.er (E1) 8) 6,S0⟩ Z Z Z ?_;refine g2a Z Z Z ?_;refine d0a ?_;refine b2a ⟨St.er (St.er (E1) 8) 6,S0⟩ Z Z Z ?_;refine c0a (kk:=6) (vs:=[_,_,_]) E1 R7a Z Z Z Z Z Z Z ?_;intro W2 e0 s0;dsimp only[i0a,List.set] at e0;have q0:=S0.trans (s0.mono (by simp));replace K0:=by exact K0.keepS s0 (E1.blk 6 Z)
 refine r0a ⟨Z,?_⟩;refine g1a ⟨St.er (St.er (e0) 8) 6,q0⟩ Z Z Z ?_;refine G3a (v:=.int .i64 _) Z Z ?_;refine d0a ?_;refine b3a ⟨St.er (St.er (e0) 8) 6,q0⟩ ?_;refine fR0 Z U ?_;have Zk:=a1.size;have p5:=f1.lt 6 Z;have Z3:=f1.size;have y4:=V1.congr (R':=t3c p t l) (fun x y=>Y4c g2 hba6 hm x y);have H4:g6∉[O0.heap.size]:=by rw[List.mem_singleton];omega
 exact w9b (n:=3) Z B5a Z Z Z [O0.heap.size] Z (by simp) K0 (e0.cells 6 Z) H4 (fun w' x3=>⟨⟨_,Z,y4.later (G:=[g6,O0.heap.size]) ((s0.mono (by simp)).trans ((t0a.of_belowM x3).mono (by simp))) (fun g hg=>by simp only[List.mem_cons,List.not_mem_nil,or_false] at hg;rcases hg with rfl|rfl<;>omega) Z3⟩,(D0a.step e0.below x3 (by simp;omega)).nil⟩)
def x5b(o n:List Int)(e:E):Prop:=e.val o n=0∨e.val o n=1
theorem e4b{e:E}(h:X3a e=true)(o n:List Int):x5b o n e:=by
 obtain⟨hw,hf⟩:=Y6a h;have:=T5a (X4a hf) o n;rw[hw] at this;have h2:i3a (1:Int).toNat=2:=by decide
 unfold x5b;omega
theorem B9c{a b:E}{o n:List Int}(ha:x5b o n a)(hb:x5b o n b):x5b o n (jnE 5 a b)∧((jnE 5 a b).val o n=1↔a.val o n=1∧b.val o n=1):=by
 have he:(jnE 5 a b).val o n=K6a (K6a (a.val o n) (b.val o n)) 1:=by rw[E.val_def];rfl
 unfold x5b at *;rw[he];rcases ha with ha|ha<;>rcases hb with hb|hb<;>rw[ha,hb]<;>decide
theorem T9c{a b:E}{o n:List Int}(ha:x5b o n a)(hb:x5b o n b):x5b o n (jnE 6 a b)∧((jnE 6 a b).val o n=1↔a.val o n=1∨b.val o n=1):=by
 have he:(jnE 6 a b).val o n=K6a (bor (a.val o n) (b.val o n)) 1:=by rw[E.val_def];rfl
 unfold x5b at *;rw[he];rcases ha with ha|ha<;>rcases hb with hb|hb<;>rw[ha,hb]<;>decide
theorem W3b{o n:List Int}:∀(es:List E) (acc:E),x5b o n acc→(∀e∈es,x5b o n e)→((es.foldl (jnE 5) acc).val o n=1↔acc.val o n=1∧∀e∈es,e.val o n=1)
 | [],acc,_,_=>by simp
 | e::es,acc,ha,h=>by
   have h1:=B9c ha (h e (by simp));rw[List.foldl_cons,W3b es _ h1.1 fun x hx=>h x (List.mem_cons_of_mem _ hx),h1.2];simp[and_assoc]
theorem k4b{o n:List Int}:∀(es:List E) (acc:E),x5b o n acc→(∀e∈es,x5b o n e)→((es.foldl (jnE 6) acc).val o n=1↔acc.val o n=1∨∃e∈es,e.val o n=1)
 | [],acc,_,_=>by simp
 | e::es,acc,ha,h=>by
   have h1:=T9c ha (h e (by simp));rw[List.foldl_cons,k4b es _ h1.1 fun x hx=>h x (List.mem_cons_of_mem _ hx),h1.2];simp[or_assoc]
theorem C7a(w n:Int)(o q:List Int):(⟨1,w,n,[]⟩:E).val o q=n:=by rw[E.val_def];rfl
theorem i3b{e:E}(h:e.op=1)(o n:List Int):e.val o n=e.n:=by rw[E.val_def,if_pos h]
theorem o0b{op unit:Int}{l:List E}(h:W2a op unit l≠zE):∀e∈l,X3a e=true:=fun e he=>by
 cases hc:X3a e with
 | true=>rfl
 | false=>exact absurd (k5a he hc) h
theorem H5a{l:List E}{e:E}:e∈A1a l↔e∈l∧e.op≠1:=by unfold A1a;simp
theorem i0d{l:List E}(h:W2a 5 1 l≠zE)(o n:List Int):(W2a 5 1 l).val o n=1↔∀e∈l,e.val o n=1:=by
 have hc:=o0b h;cases hd:l.any (fun e=>isC e (1-1)) with
 | true =>
   rw[F7a hc hd,C7a];obtain⟨e,he,h1⟩:=List.any_eq_true.1 hd;unfold isC at h1;have h2:=of_decide_eq_true h1;refine⟨fun h=>by omega,fun hh=>?_⟩;have:=hh e he;rw[i3b h2.1] at this;omega
 | false =>
   have hj:=S2a (op:=5) hc hd;have hw:(D3a 5 1 (A1a l)).wf=true:=by
    cases hw:(D3a 5 1 (A1a l)).wf with
    | true=>rfl
    | false=>rw[hw] at hj;exact absurd hj h
   rw[hj,if_pos hw];have key:(D3a 5 1 (A1a l)).val o n=1↔∀e∈A1a l,e.val o n=1:=by
    have hb:∀e∈A1a l,x5b o n e:=fun e he=>e4b (hc e (H5a.1 he).1) o n;cases hk:A1a l with
    | nil=>simp[D3a,C7a]
    | cons e es =>
      rw[hk] at hb;rw[show D3a 5 1 (e::es)=es.foldl (jnE 5) e from rfl,W3b es e (hb e (by simp)) fun x hx=>hb x (List.mem_cons_of_mem _ hx)];simp
   rw[key];refine⟨fun hh e he=>?_,fun hh e he=>hh e (H5a.1 he).1⟩;by_cases ho:e.op=1
   ·rw[i3b ho];rcases C2b (hc e he) ho with h1|h1
    ·have:l.any (fun e=>isC e (1-1))=true:=List.any_eq_true.2 ⟨e,he,by unfold isC;exact decide_eq_true ⟨ho,by omega⟩⟩;rw[hd] at this;cases this
    ·exact h1
   ·exact hh e (H5a.2 ⟨he,ho⟩)
theorem J1d{l:List E}(h:W2a 6 0 l≠zE)(o n:List Int):(W2a 6 0 l).val o n=1↔∃e∈l,e.val o n=1:=by
 have hc:=o0b h;cases hd:l.any (fun e=>isC e (1-0)) with
 | true =>
   rw[F7a hc hd,C7a];obtain⟨e,he,h1⟩:=List.any_eq_true.1 hd;unfold isC at h1;have h2:=of_decide_eq_true h1;exact⟨fun _=>⟨e,he,by rw[i3b h2.1];omega⟩,fun _=>by omega⟩
 | false =>
   have hj:=S2a (op:=6) hc hd;have hw:(D3a 6 0 (A1a l)).wf=true:=by
    cases hw:(D3a 6 0 (A1a l)).wf with
    | true=>rfl
    | false=>rw[hw] at hj;exact absurd hj h
   rw[hj,if_pos hw];have key:(D3a 6 0 (A1a l)).val o n=1↔∃e∈A1a l,e.val o n=1:=by
    have hb:∀e∈A1a l,x5b o n e:=fun e he=>e4b (hc e (H5a.1 he).1) o n;cases hk:A1a l with
    | nil=>simp[D3a,C7a]
    | cons e es =>
      rw[hk] at hb;rw[show D3a 6 0 (e::es)=es.foldl (jnE 6) e from rfl,k4b es e (hb e (by simp)) fun x hx=>hb x (List.mem_cons_of_mem _ hx)];simp
   rw[key];refine⟨fun⟨e,he,hh⟩=>⟨e,(H5a.1 he).1,hh⟩,fun⟨e,he,hh⟩=>⟨e,H5a.2 ⟨he,fun ho=>?_⟩,hh⟩⟩;rw[i3b ho] at hh;have:l.any (fun e=>isC e (1-0))=true:=List.any_eq_true.2 ⟨e,he,by unfold isC;exact decide_eq_true ⟨ho,by omega⟩⟩;rw[hd] at this;cases this
theorem Y9c{op:Int}(b0:op=5∨op=6){cells:List C1a}{a0:Bool}{a b:E}(ha:a.over cells a0=true)(hb:b.over cells a0=true):(jnE op a b).over cells a0=true:=by
 rw[E.over_def,Bool.and_eq_true];refine⟨decide_eq_true ⟨fun h=>?_,fun h=>?_⟩,(E.overs_iff _ _ _).2 fun k hk=>?_⟩
 ·simp only[jnE] at h;omega
 ·simp only[jnE] at h;omega
 ·simp only[jnE,List.mem_cons,List.not_mem_nil,or_false] at hk;rcases hk with rfl|rfl
  ·exact ha
  ·exact hb
theorem o4b{op:Int}(b0:op=5∨op=6){cells:List C1a}{a0:Bool}:∀(es:List E) (acc:E),acc.over cells a0=true→(∀e∈es,e.over cells a0=true)→(es.foldl (jnE op) acc).over cells a0=true
 | [],_,h,_=>h
 | e::es,acc,h,hl=>o4b b0 es _ (Y9c b0 h (hl e (by simp))) fun x hx=>hl x (List.mem_cons_of_mem _ hx)
theorem g1b(w n:Int)(cells:List C1a)(a0:Bool):(⟨1,w,n,[]⟩:E).over cells a0=true:=by
 rw[E.over_def,Bool.and_eq_true];exact⟨decide_eq_true ⟨fun h=>by simp only at h;omega,fun h=>by simp only at h;omega⟩,Z⟩
theorem V2c(cells:List C1a)(a0:Bool):zE.over cells a0=true:=by
 rw[E.over_def,Bool.and_eq_true];exact⟨decide_eq_true ⟨fun h=>by simp only[zE] at h;omega,fun h=>by simp only[zE] at h;omega⟩,Z⟩
theorem i8a{op unit:Int}(c0:op=5∨op=6){cells:List C1a}{a0:Bool}{l:List E}(h:∀e∈l,e.over cells a0=true):(W2a op unit l).over cells a0=true:=by
 unfold W2a
 split
 ·split
  ·exact g1b _ _ _ _
  ·split
   ·have hk:∀e∈A1a l,e.over cells a0=true:=fun e he=>h e (H5a.1 he).1;cases b0:A1a l with
    | nil=>exact g1b _ _ _ _
    | cons e es=>rw[b0] at hk;exact o4b c0 es e (hk e (by simp)) fun x hx=>hk x (List.mem_cons_of_mem _ hx)
   ·exact V2c _ _
 ·exact V2c _ _
theorem Y3b{p:k0a}{c:Int}(hc:0≤c∧c<p.cells.length):(Y3a p c).over p.cells true=true:=by
 rw[E.over_def,Bool.and_eq_true];refine⟨decide_eq_true ⟨fun _=>rfl,fun h=>by simp only[Y3a] at h;omega⟩,(E.overs_iff _ _ _).2 fun k hk=>?_⟩;simp only[Y3a,List.mem_cons,List.not_mem_nil,or_false] at hk;rcases hk with rfl|rfl<;>rw[E.over_def,Bool.and_eq_true]
 ·exact⟨decide_eq_true ⟨fun _=>rfl,fun _=>⟨hc.2,Z⟩⟩,Z⟩
 ·exact⟨decide_eq_true ⟨fun _=>rfl,fun _=>⟨hc.2,Z⟩⟩,Z⟩
theorem w2c{p:k0a}{m:Int}(h:0≤m∧m<p.modules.length):∃md,p.modules[m.toNat]?=some md∧F0d p m.toNat=md:=by
 have h1:m.toNat<p.modules.length:=by omega
 refine⟨p.modules[m.toNat],List.getElem?_eq_getElem h1,?_⟩;unfold F0d;rw[List.getD_eq_getElem?_getD,List.getElem?_eq_getElem h1];rfl
theorem P4b{p:k0a}(hp:c1a p){m:Int}(h:0≤m∧m<p.modules.length):(W1a p m).over p.cells true=true:=by
 obtain⟨md,hm,he⟩:=w2c h;unfold W1a o2b;rw[he];refine i8a (.inl Z) fun e hx=>?_;rcases List.mem_cons.1 hx with rfl|hx
 ·exact(x2a (hp.modules md (List.mem_of_getElem? hm)).guar.1).2.2
 ·obtain⟨_,hc,rfl⟩:=List.mem_map.1 hx;have:=o6a.1 (List.mem_filter.1 hc).1;exact Y3b ⟨this.1,this.2.1⟩
theorem F8c{p:k0a}(hp:c1a p)(t:Nat):(onE p t).over p.cells true=true:=by
 refine i8a (.inl Z) fun e hx=>?_;rcases List.mem_cons.1 hx with rfl|hx
 ·refine i8a (.inr Z) fun e hx=>?_;obtain⟨_,hm,rfl⟩:=List.mem_map.1 hx;exact P4b hp (t8a hm)
 ·obtain⟨_,hc,rfl⟩:=List.mem_map.1 hx;have:=o6a.1 hc;exact Y3b ⟨this.1,this.2.1⟩
theorem H3b{p:k0a}(hp:c1a p){t:Nat}(h:onE p t≠zE):(onE p t).valid p.cells true=true:=by
 rcases v4a (op:=5) (unit:=1) (.inr Z) (F6a p t::(ofL p t).map (Y3a p)) with h1|h1
 ·exact absurd h1 h
 ·unfold E.valid;rw[Bool.and_eq_true];exact⟨h1.1,F8c hp t⟩
theorem z9b{p:k0a}(hp:c1a p){m:Int}(hm:0≤m∧m<p.modules.length)(h:W1a p m≠zE):(W1a p m).valid p.cells true=true:=by
 rcases v4a (op:=5) (unit:=1) (.inr Z) (o2b p (F0d p m.toNat)) with h1|h1
 ·exact absurd h1 h
 ·unfold E.valid;rw[Bool.and_eq_true];exact⟨h1.1,P4b hp hm⟩
def J0c(p:k0a)(o n:List Int)(c:Int):Prop:=o.getD c.toNat 0 % i3a (wAt p.cells c).toNat=n.getD c.toNat 0 % i3a (wAt p.cells c).toNat
theorem D8b{p:k0a}{c:Int}(hw:1≤wAt p.cells c∧wAt p.cells c≤8)(o n:List Int):(Y3a p c).val o n=1↔J0c p o n c:=by
 have he:(Y3a p c).val o n=K6a (if K6a (o.getD c.toNat 0) (i3a (wAt p.cells c).toNat-1)=K6a (n.getD c.toNat 0) (i3a (wAt p.cells c).toNat-1) then 1 else 0) 1:=by
  rw[E.val_def];rfl
 rw[he,P3a _ _,P3a _ _];unfold J0c
 split
 ·rename_i h;exact⟨fun _=>h,fun _=>by decide⟩
 ·rename_i h;exact⟨fun hh=>absurd hh (by decide),fun hh=>absurd hh h⟩
theorem y7b{p:k0a}(hp:c1a p){c:Int}(hc:0≤c∧c<p.cells.length):1≤wAt p.cells c∧wAt p.cells c≤8:=E6c hc fun c h=>(hp.cells c h).w
theorem f8b{p:k0a}{t:Nat}(h:onE p t≠zE):F6a p t≠zE∧∀m∈I1a p t,W1a p m≠zE :=
 ⟨fun h1=>h (c3b h1),fun _ hm h1=>h (c3b (x4b hm h1))⟩
theorem c1d{p:k0a}(hp:c1a p){t:Nat}(h:onE p t≠zE)(o n:List Int):(onE p t).val o n=1↔(∃m∈I1a p t,(W1a p m).val o n=1)∧∀c:Int,0≤c→c<p.cells.length→x1a p.cells c=t→J0c p o n c:=by
 have hs:=(f8b h).1;unfold onE at h ⊢;rw[i0d h,List.forall_mem_cons];refine and_congr ?_ ⟨fun hh c h0 h1 h2=>?_,fun hh e he=>?_⟩
 ·unfold F6a at hs ⊢;rw[J1d hs];constructor
  ·rintro⟨e,he,h1⟩;obtain⟨m,hm,rfl⟩:=List.mem_map.1 he;exact⟨m,hm,h1⟩
  ·rintro⟨m,hm,h1⟩;exact⟨_,List.mem_map.2 ⟨m,hm,Z⟩,h1⟩
 ·exact(D8b (y7b hp ⟨h0,h1⟩) o n).1 (hh _ (List.mem_map.2 ⟨c,o6a.2 ⟨h0,h1,h2⟩,Z⟩))
 ·obtain⟨c,hc,rfl⟩:=List.mem_map.1 he;obtain⟨h3,h4,h5⟩:=o6a.1 hc;exact(D8b (y7b hp ⟨h3,h4⟩) o n).2 (hh c h3 h4 h5)
def i4a:E:=⟨1,1,1,[]⟩
def o2d:E:=⟨13,1,0,[⟨3,1,0,[]⟩,⟨2,1,0,[]⟩]⟩
def J2c(nm:ByteArray)(k:Int):W0a:=⟨nm,2,[i4a,i4a],[k,k],[⟨3,0,1,i4a,[⟨k,i4a⟩],false,0,k⟩],[],false⟩
def a2a:k0a:=⟨[⟨⟨#[65,46,120]⟩,1,0,-1,false,0⟩,⟨⟨#[66,46,121]⟩,1,0,-1,false,1⟩],[⟨⟨#[65]⟩,⟨#[111]⟩,zE,o2d,[0]⟩,⟨⟨#[66]⟩,⟨#[111]⟩,zE,i4a,[1]⟩],[],[J2c ⟨#[97]⟩ 0,J2c ⟨#[98]⟩ 1]⟩
theorem H7c:c1a a2a:=L4c (by kernel_rfl)
def X6a:E:=⟨5,1,0,[o2d,⟨11,1,0,[⟨3,1,1,[]⟩,⟨2,1,1,[]⟩]⟩]⟩
theorem a5a:W1a a2a 0=X6a:=by kernel_rfl
theorem D4b:onE a2a 1=X6a:=by kernel_rfl
theorem L5c:onE a2a 0=⟨11,1,0,[⟨3,1,0,[]⟩,⟨2,1,0,[]⟩]⟩:=by kernel_rfl
theorem A7b:X6a.txt=[97,110,100,40,108,101,40,111,48,58,49,44,99,48,58,49,41,44,101,113,40,111,49,58,49,44,99,49,58,49,41,41]:=by kernel_rfl
theorem u6c:X6a.txB=true:=by kernel_rfl
theorem Q1d:X6a.wf=true:=by kernel_rfl
theorem V7a:∀(a b:List (Int×Int)),a.Pairwise lt2→b.Pairwise lt2→(∀x,x∈a↔x∈b)→a=b
 | [],[],_,_,_=>rfl
 | [],y::b,_,_,h=>by have:=(h y).2 (by simp);cases this
 | x::a,[],_,_,h=>by have:=(h x).1 (by simp);cases this
 | x::a,y::b,ha,hb,h=>by
   rw[List.pairwise_cons] at ha hb;have a0:∀p:Int×Int,¬lt2 p p:=fun p hp=>by unfold lt2 at hp;omega
   have b0:∀p q:Int×Int,lt2 p q→lt2 q p→False:=fun p q h1 h2=>by unfold lt2 at h1 h2;omega
   have c0:x=y:=by
    rcases List.mem_cons.1 ((h x).1 (by simp)) with h1|h1
    ·exact h1
    ·rcases List.mem_cons.1 ((h y).2 (by simp)) with h2|h2
     ·exact h2.symm
     ·exact(b0 _ _ (hb.1 x h1) (ha.1 y h2)).elim
   subst c0
   congr 1
   refine V7a a b ha.2 hb.2 fun z=>⟨fun hz=>?_,fun hz=>?_⟩
   ·rcases List.mem_cons.1 ((h z).1 (List.mem_cons_of_mem _ hz)) with h1|h1
    ·subst h1;exact(a0 _ (ha.1 z hz)).elim
    ·exact h1
   ·rcases List.mem_cons.1 ((h z).2 (List.mem_cons_of_mem _ hz)) with h1|h1
    ·subst h1;exact(a0 _ (hb.1 z hz)).elim
    ·exact h1
theorem g7a:allC a2a 1 [0]=[0,1]:=by
 have h:=S6a ([0]++(onE a2a 1).sup 3) ((onE a2a 1).sup 2);have e3:(onE a2a 1).sup 3=[0,1]:=by kernel_rfl
 have e2:(onE a2a 1).sup 2=[0,1]:=by kernel_rfl
 refine C6a _ _ h.1 (by decide) fun x=>(h.2 x).trans ?_;rw[e3,e2];simp
theorem Z2b:allC a2a 0 [0]=[0]:=by
 have h:=S6a ([0]++(onE a2a 0).sup 3) ((onE a2a 0).sup 2);have e3:(onE a2a 0).sup 3=[0]:=by kernel_rfl
 have e2:(onE a2a 0).sup 2=[0]:=by kernel_rfl
 refine C6a _ _ h.1 (by decide) fun x=>(h.2 x).trans ?_;rw[e3,e2];simp
theorem Clo.inv{R Q:Nat→Nat→Prop}{n x y:Nat}(h:Clo R n x y)(hr:∀x,Q x x)(ht:∀x y z,Q x y→R y z→Q x z):Q x y:=by
 induction h with
 | refl h=>exact hr _
 | tail h h2 h3 ih=>exact ht _ _ _ ih h2
theorem y7c:∀a,a<4→∀b,b<4→X6a.evl (stZ [0,1] [1,1] a K2a) (stZ [0,1] [1,1] b K2a)=1→nuZ [0] [1] (stZ [0,1] [1,1] a K2a)≤nuZ [0] [1] (stZ [0,1] [1,1] b K2a):=by decide +kernel
theorem E2b:X6a.evl (stZ [0,1] [1,1] 0 K2a) (stZ [0,1] [1,1] 1 K2a)=1∧nuZ [0] [1] (stZ [0,1] [1,1] 0 K2a)=0∧nuZ [0] [1] (stZ [0,1] [1,1] 1 K2a)=1:=by decide +kernel
theorem G8c:∀a,a<2→∀b,b<2→(⟨11,1,0,[⟨3,1,0,[]⟩,⟨2,1,0,[]⟩]⟩:E).evl (stZ [0] [1] a K2a) (stZ [0] [1] b K2a)=1→nuZ [0] [1] (stZ [0] [1] a K2a)=nuZ [0] [1] (stZ [0] [1] b K2a):=by decide +kernel
theorem J2b(x y:Nat):Clo (t3c a2a 1 [0]) 2 x y↔x≤y∧y<2:=by
 have hb:∀x y,t3c a2a 1 [0] x y→x≤y:=fun x y h=>by
  obtain⟨a,b,⟨ha,hb,hv⟩,rfl,rfl⟩:=h;rw[g7a,D4b] at hv;rw[g7a] at ha hb ⊢;exact y7c a ha b hb hv
 constructor
 ·intro h;exact⟨h.inv (Q:=fun a b=>a≤b) (fun _=>Nat.le_refl _) (fun _ _ _ h1 h2=>Nat.le_trans h1 (hb _ _ h2)),h.lt.2⟩
 ·rintro⟨h1,h2⟩;rcases(show(x=0∧y=0)∨(x=0∧y=1)∨(x=1∧y=1) by omega) with⟨rfl,rfl⟩|⟨rfl,rfl⟩|⟨rfl,rfl⟩
  ·exact .refl (by omega)
  ·refine .tail (.refl (by omega)) ⟨0,1,?_,?_,?_⟩ (by omega)
   ·rw[g7a,D4b];exact⟨by decide,by decide,E2b.1⟩
   ·rw[g7a];exact E2b.2.1.symm
   ·rw[g7a];exact E2b.2.2.symm
  ·exact .refl (by omega)
theorem j6b(x y:Nat):Clo (t3c a2a 0 [0]) 2 x y↔x=y∧y<2:=by
 have hb:∀x y,t3c a2a 0 [0] x y→x=y:=fun x y h=>by
  obtain⟨a,b,⟨ha,hb,hv⟩,rfl,rfl⟩:=h;rw[Z2b,L5c] at hv;rw[Z2b] at ha hb ⊢;exact G8c a ha b hb hv
 constructor
 ·intro h;exact⟨h.inv (Q:=fun a b=>a=b) (fun _=>rfl) (fun _ _ _ h1 h2=>h1.trans (hb _ _ h2)),h.lt.2⟩
 ·rintro⟨rfl,h2⟩;exact .refl h2
theorem X1d{l:List (Int×Int)}(hu:l.Pairwise lt2)(h:∀p,p∈l↔∃x y,Clo (t3c a2a 1 [0]) (2 ^ 1) x y∧p=((x:Int),(y:Int))):l=[(0,0),(0,1),(1,1)]:=by
 refine V7a _ _ hu (by simp[lt2]) fun p=>(h p).trans ?_;constructor
 ·rintro⟨x,y,hc,rfl⟩;have:=(J2b x y).1 hc;rcases(show(x=0∧y=0)∨(x=0∧y=1)∨(x=1∧y=1) by omega) with⟨rfl,rfl⟩|⟨rfl,rfl⟩|⟨rfl,rfl⟩<;>simp
 ·intro hp;simp only[List.mem_cons,List.not_mem_nil,or_false] at hp;rcases hp with rfl|rfl|rfl
  ·exact⟨0,0,(J2b 0 0).2 (by omega),Z⟩
  ·exact⟨0,1,(J2b 0 1).2 (by omega),Z⟩
  ·exact⟨1,1,(J2b 1 1).2 (by omega),Z⟩
theorem V2d{l:List (Int×Int)}(hu:l.Pairwise lt2)(h:∀p,p∈l↔∃x y,Clo (t3c a2a 0 [0]) (2 ^ 1) x y∧p=((x:Int),(y:Int))):l=[(0,0),(1,1)]:=by
 refine V7a _ _ hu (by simp[lt2]) fun p=>(h p).trans ?_;constructor
 ·rintro⟨x,y,hc,rfl⟩;have:=(j6b x y).1 hc;rcases(show(x=0∧y=0)∨(x=1∧y=1) by omega) with⟨rfl,rfl⟩|⟨rfl,rfl⟩<;>simp
 ·intro hp;simp only[List.mem_cons,List.not_mem_nil,or_false] at hp;rcases hp with rfl|rfl
  ·exact⟨0,0,(j6b 0 0).2 (by omega),Z⟩
  ·exact⟨1,1,(j6b 1 1).2 (by omega),Z⟩
theorem u7b{l:List (Int×Int)}(hu:l.Pairwise lt2)(h:∀x,x∈l↔p9a a2a 2 x):l=[(0,1),(1,0)]:=by
 refine V7a _ _ hu (by simp[lt2]) fun p=>(h p).trans ?_;constructor
 ·rintro⟨t,_,u,_,_,_,_,hu,_,h1,h2,h3,h4,rfl⟩;have a0:u<2:=hu;rcases(show(t=0∧u=1)∨(t=1∧u=0) by omega) with⟨rfl,rfl⟩|⟨rfl,rfl⟩<;>cases h1<;>cases h2<;>simp[J2c] at h3 h4<;>subst h3<;>subst h4<;>simp
 ·intro hp;simp only[List.mem_cons,List.not_mem_nil,or_false] at hp;rcases hp with rfl|rfl
  ·exact⟨0,by omega,1,_,_,_,1,by decide,by omega,Z,Z,List.mem_cons_self,by simp[J2c],Z⟩
  ·exact⟨1,by omega,0,_,_,_,0,by decide,by omega,Z,Z,List.mem_cons_self,by simp[J2c],Z⟩
theorem e8a{B g t n:Nat}{w:World}{vb:Value}{bs:List Value}(h:w.ownsRow B t 1 vb n bs):∀x∈g::vb.ownBlock.toList,x=g∨B≤x:=fun x hx=>by
 rcases List.mem_cons.1 hx with h1|h1
 ·exact .inl h1
 ·cases hv:vb.ownBlock with
  | none=>rw[hv] at h1;simp at h1
  | some y =>
    rw[hv] at h1;simp at h1;subst h1;exact .inr (M7a h hv).1
theorem G5a{B t n:Nat}{w:World}{vb:Value}{bs:List Value}{a l:List UInt8}(h:w.ownsRow B t 1 vb (n+a.length+(G6a l).size) (bs++Lib.byteCells a++Lib.strCells (G6a l))):w.ownsRow B t 1 vb (n+(a++l).length) (bs++Lib.byteCells (a++l)):=by
 rw[a3a,Nat.add_assoc,←List.length_append] at h;have e:bs++Lib.byteCells a++Lib.strCells (G6a l)=bs++Lib.byteCells (a++l):=by
  rw[List.append_assoc]
  congr 1
  show Lib.byteCells a++Lib.byteCells l=_
  simp[Lib.byteCells]
 rw[e] at h;exact h
theorem V9c{B t n:Nat}{w:World}{vb:Value}{bs:List Value}{a l:List UInt8}(h:w.ownsRow B t 1 vb (n+a.length+l.length) (bs++Lib.byteCells a++Lib.byteCells l)):w.ownsRow B t 1 vb (n+(a++l).length) (bs++Lib.byteCells (a++l)) :=
 G5a (by rw[a3a];exact h)
theorem N2b{B t n:Nat}{w:World}{vb:Value}{bs:List Value}(h:w.ownsRow B t 1 vb n bs):w.ownsRow B t 1 vb (n+([]:List UInt8).length) (bs++Lib.byteCells []):=by
 have e:bs++Lib.byteCells []=bs:=by simp[Lib.byteCells]
 rw[e];exact h
theorem s4c:∀(e:E) (B g gw:Nat) (w0:World) (b o:Nat) (pv vb:Value) (n:Nat) (bs:List Value),g<B→gw<B→gw≠g→B≤w0.heap.size→RB B g w0 e b o→NB B g w0 →
 w0.cell? ⟨gw,0,none⟩=some (.func (.func 95) #[] #[.pointer (some ⟨g,0,none⟩),.pointer (some ⟨gw,0,none⟩)])→(pv=.pointer none∨pv=.pointer (some ⟨g,0,none⟩)) →
 o0a w0 (g,145,[pv,vb])→w0.ownsRow B 5 1 vb n bs→e.txB=true→n+e.txt.length≤900000 →
 C0a prog 95 #[.pointer (some ⟨b,o,none⟩),.pointer (some ⟨g,0,none⟩),.pointer (some ⟨gw,0,none⟩)] w0 fun _ w' =>
  (∃i1,o0a w' (g,145,[.pointer (some ⟨g,0,none⟩),i1])∧w'.ownsRow B 5 1 i1 (n+e.txt.length) (bs++Lib.byteCells e.txt))∧BX B g w0 w':=by
 intro e
 induction e using E.induct with
 | _ e ih =>
 intro B g gw w0 b o pv vb n bs y0 A1 B1 hB hE hN a1 J0 U0 r0 K0 n0;obtain⟨j0,_,_,_,c0,c1,c2,_,nk,_,c3,hn,_,_,_,-,-⟩:=(hE (MB B g w0) J2d).open_;have f1:gw∉MB B g w0:=fun h=>by rcases E7a.1 h with h|h<;>omega
 have Y0:=hN (MB B g w0) J2d;have S:St (MB B g w0) w0 w0 [(some g,145,[pv,vb])]:=(St.reflM _ w0).push U0 (.inr (E7a.2 (.inl Z))) (by simp);have V0:=fun k hk=>hE.kid c3 hn k hk;by_cases s0:e.op=1∨e.op=2∨e.op=3;refine a0a func95 Z ntmps95 Z ?_;refine wO0 Z U (H0a A0a Z (by exact S.oldM j0 c0) Z ?_);refine lB0 Z U (fun O0=>?_) fun O0=>?_
 ·obtain⟨t0,u0,v0,x0⟩:=E.txB_leaf s0 K0;have KC:=t0a.refl [] w0;have l1:=J3b e.op;have l2:=u6a t0 u0;have l3:=u6a v0 x0;have o0:=E.txt_leaf s0;rw[o0] at n0;simp only[List.length_append,List.length_cons,List.length_nil] at n0;refine lC0 Z U (x0a b0a [0,1,2,3,4,5,6,7,8,9,10,11,12,13,14,15,16,17] [] [18] Z (Cl _ _ _ _) (Cl.start S) ?_);refine qO0 Z U (j0a A0a Z (fun w1 hw=>by exact hw.1.oldM j0 c0) Z ?_);refine k1a G0c Z Z (fun w1 S1 X1=>G0b e.op _) ?_;refine qO0 Z U (j0a A0a Z (fun w1 hw=>by exact hw.1.oldM j0 c2) Z ?_);refine k1a Q1b Z Z (fun w1 S1 X1=>s6a e.n t0 u0 _) ?_;refine U7a Z Z (by omega) Z ?_;refine U7a (b:=[58]) Z Z (by simp;omega) Z ?_;refine qO0 Z U (j0a A0a Z (fun w1 hw=>by exact hw.1.oldM j0 c1) Z ?_);refine k1a Q1b Z Z (fun w1 S1 X1=>s6a e.w v0 x0 _) ?_;refine U7a Z Z (by simp;omega) Z ?_;refine qD Z U ?_;rintro m1 ⟨i0,C0⟩;replace KC:=KC.trans C0;have d0:=U1a (N2b r0) KC;refine j1a v1b Z Z (D2a B g y0 pv vb J0 _ _ (G6a (w0c e.op++h9b e.n++[58]++h9b e.w)) _ (Nat.le_trans hB i0.size) (i0.blk 0 Z) d0 (by rw[a3a];simp;omega)) ?_;rintro g1 j1 ⟨⟨q0,b0,a0⟩,A0⟩;have B0:=St.wrote i0 (BX.ofB A0 (e8a d0) (Nat.le_trans hB i0.size)) b0;refine lR0 Z U (M1a Z ?_);rw[o0];exact⟨⟨q0,b0,by simpa using G5a a0⟩,B0.bx hB⟩
 refine lB0 Z U (fun P0=>?_) fun P0=>?_
 ·obtain⟨t0,u0,v0,x0⟩:=E.txB_leaf s0 K0;have KC:=t0a.refl [] w0;have l1:=J3b e.op;have l2:=u6a t0 u0;have l3:=u6a v0 x0;have o0:=E.txt_leaf s0;rw[o0] at n0;simp only[List.length_append,List.length_cons,List.length_nil] at n0;refine lC0 Z U (x0a b0a [0,1,2,3,4,5,6,7,8,9,10,11,12,13,14,15,16,17] [] [18] Z (Cl _ _ _ _) (Cl.start S) ?_);refine qO0 Z U (j0a A0a Z (fun w1 hw=>by exact hw.1.oldM j0 c0) Z ?_);refine k1a G0c Z Z (fun w1 S1 X1=>G0b e.op _) ?_;refine qO0 Z U (j0a A0a Z (fun w1 hw=>by exact hw.1.oldM j0 c2) Z ?_);refine k1a Q1b Z Z (fun w1 S1 X1=>s6a e.n t0 u0 _) ?_;refine U7a Z Z (by omega) Z ?_;refine U7a (b:=[58]) Z Z (by simp;omega) Z ?_;refine qO0 Z U (j0a A0a Z (fun w1 hw=>by exact hw.1.oldM j0 c1) Z ?_);refine k1a Q1b Z Z (fun w1 S1 X1=>s6a e.w v0 x0 _) ?_;refine U7a Z Z (by simp;omega) Z ?_;refine qD Z U ?_;rintro m1 ⟨i0,C0⟩;replace KC:=KC.trans C0;have d0:=U1a (N2b r0) KC;refine j1a v1b Z Z (D2a B g y0 pv vb J0 _ _ (G6a (w0c e.op++h9b e.n++[58]++h9b e.w)) _ (Nat.le_trans hB i0.size) (i0.blk 0 Z) d0 (by rw[a3a];simp;omega)) ?_;rintro g1 j1 ⟨⟨q0,b0,a0⟩,A0⟩;have B0:=St.wrote i0 (BX.ofB A0 (e8a d0) (Nat.le_trans hB i0.size)) b0;refine lR0 Z U (M1a Z ?_);rw[o0];exact⟨⟨q0,b0,by simpa using G5a a0⟩,B0.bx hB⟩
 refine lB0 Z U (fun Q0=>?_) (fun Q0=>by exfalso;omega);obtain⟨t0,u0,v0,x0⟩:=E.txB_leaf s0 K0;have KC:=t0a.refl [] w0;have l1:=J3b e.op;have l2:=u6a t0 u0;have l3:=u6a v0 x0;have o0:=E.txt_leaf s0;rw[o0] at n0;simp only[List.length_append,List.length_cons,List.length_nil] at n0;refine lC0 Z U (x0a b0a [0,1,2,3,4,5,6,7,8,9,10,11,12,13,14,15,16,17] [] [18] Z (Cl _ _ _ _) (Cl.start S) ?_);refine qO0 Z U (j0a A0a Z (fun w1 hw=>by exact hw.1.oldM j0 c0) Z ?_);refine k1a G0c Z Z (fun w1 S1 X1=>G0b e.op _) ?_;refine qO0 Z U (j0a A0a Z (fun w1 hw=>by exact hw.1.oldM j0 c2) Z ?_);refine k1a Q1b Z Z (fun w1 S1 X1=>s6a e.n t0 u0 _) ?_;refine U7a Z Z (by omega) Z ?_;refine U7a (b:=[58]) Z Z (by simp;omega) Z ?_;refine qO0 Z U (j0a A0a Z (fun w1 hw=>by exact hw.1.oldM j0 c1) Z ?_);refine k1a Q1b Z Z (fun w1 S1 X1=>s6a e.w v0 x0 _) ?_;refine U7a Z Z (by simp;omega) Z ?_;refine qD Z U ?_;rintro m1 ⟨i0,C0⟩;replace KC:=KC.trans C0;have d0:=U1a (N2b r0) KC;refine j1a v1b Z Z (D2a B g y0 pv vb J0 _ _ (G6a (w0c e.op++h9b e.n++[58]++h9b e.w)) _ (Nat.le_trans hB i0.size) (i0.blk 0 Z) d0 (by rw[a3a];simp;omega)) ?_;rintro g1 j1 ⟨⟨q0,b0,a0⟩,A0⟩;have B0:=St.wrote i0 (BX.ofB A0 (e8a d0) (Nat.le_trans hB i0.size)) b0;refine lR0 Z U (M1a Z ?_);rw[o0];exact⟨⟨q0,b0,by simpa using G5a a0⟩,B0.bx hB⟩;refine a0a func95 Z ntmps95 Z ?_;refine wO0 Z U (H0a A0a Z (by exact S.oldM j0 c0) Z ?_);refine lB0 Z U (fun O0=>by exfalso;omega) fun O0=>?_;refine lB0 Z U (fun P0=>by exfalso;omega) fun P0=>?_;refine lB0 Z U (fun Q0=>by exfalso;omega) fun Q0=>?_;obtain⟨_,x1⟩:=E.txB_node s0 K0;have o0:=E.txt_node s0;obtain⟨nm,b1⟩:∃x,x=V1b.getD (e.op-4).toNat []:=⟨_,Z⟩;rw[←b1] at o0;have v1:(e.op-4).toNat<V1b.length:=by show _<11;omega
 have y1:V1b[(e.op-4).toNat]?=some nm:=by rw[b1,List.getD_eq_getElem?_getD,List.getElem?_eq_getElem v1];rfl
 have cN:=Y0.2 _ _ y1;have H1:e.txt.length=nm.length+(E.txts e.kids 40).length+1:=by rw[o0];simp;omega
 refine lO0 Z U (H0a A0a Z (by exact S.oldM j0 c0) Z ?_);refine lO0 Z ⟨by omega,U⟩ (C2a N7c Z Z Z ?_);refine H0a X0d Z (S.oldM Y0.1 (by simpa using cN)) Z ?_;have E0:=N2b r0;refine j1a v1b Z Z (D2a B g y0 pv vb J0 _ _ (G6a nm) _ (Nat.le_trans hB S.size) (S.blk 0 Z) E0 (by rw[a3a];simp;omega)) ?_;rintro I1 D1 ⟨⟨q0,R0,e0⟩,n1⟩;have X0:=St.wrote S (BX.ofB n1 (e8a E0) (Nat.le_trans hB S.size)) R0;have e0:=G5a e0;have KD:=t0a.refl [] D1;refine lO0 Z U (H0a R1a Z (by exact X0.oldM j0 c3) Z ?_);refine lC0 Z U (wL (fun μk D ε w=>D=[]∧∃k:Nat,∃I0:Value,(k+μk=(e.kids.length))∧(w.ownsRow B 5 1 I0 (n+(nm++E.txts (e.kids.take k) 40).length) (bs++Lib.byteCells (nm++E.txts (e.kids.take k) 40)))∧St (MB B g w0) w0 w [(some g,145,[.pointer (some ⟨g,0,none⟩),I0])]∧Sl ε [(0,.pointer (some ⟨b,o,none⟩)),(1,.pointer (some ⟨g,0,none⟩)),(2,.pointer (some ⟨gw,0,none⟩)),(4,.string (G6a (if k=0 then[40] else[44]))),(45,.int .i64 nk),(46,.int .i64 k)]) (μ:=(e.kids.length)) ⟨Z,0,_,by omega,(by simpa[E.txts] using U1a e0 KD),X0,Z⟩ ?_);rintro μk D ε w ⟨rfl,k,I0,hk,p0,S,eZ⟩;refine wK eZ ?_;have KL:=t0a.refl [] w;refine wB0 Z U (fun u1=>?_) fun u1=>?_
 ·refine lO0 Z U ?_;obtain⟨x,H0⟩:∃x,e.kids[k]?=some x:=⟨e.kids[k]'(by omega),List.getElem?_eq_getElem _⟩;have z1:=E.txts_pre e.kids 40 (k+1);rw[E.txts_take 40 H0,List.length_append,List.length_cons] at z1;have d1:(if k=0 then[(40:UInt8)] else[44]).length=1:=by split<;>rfl
  have F0:=U1a p0 KL;refine j1a v1b Z Z (D2a B g y0 _ I0 (.inr Z) _ _ (G6a (if k=0 then[40] else[44])) _ (Nat.le_trans hB S.size) (S.blk 0 Z) F0 (by rw[a3a,d1,List.length_append];omega)) ?_;rintro v50 E1 ⟨⟨q0,S0,f0⟩,o1⟩;have r1:=St.wrote S (BX.ofB o1 (e8a F0) (Nat.le_trans hB S.size)) S0;have f0:=G5a f0;have L0:=t0a.refl [] E1;obtain⟨bk,ok,_,Z0⟩:=V0 k (by omega);have C1:e.kids[k]'(by omega)=x:=by have:=List.getElem?_eq_getElem (l:=e.kids) (i:=k) (by omega);rw[H0] at this;exact(Option.some.inj this).symm
  rw[C1] at Z0;refine lC0 Z U (x0a b0a [0,1,2,3,4,5,6] [] [7] Z (Cl _ _ _ _) (Cl.start r1) ?_);refine j0a s1c Z (fun w1 hw=>by exact hw.1.oldM f1 a1) Z ?_;refine qO0 Z U (j0a R1a Z (fun w1 hw=>by exact hw.1.oldM j0 c3) Z ?_);refine qO0 Z U (w0a S0a.slT Z (by assumption) Z Z ?_);refine qD Z U ?_;rintro G1 ⟨m0,N0⟩;replace L0:=L0.trans N0;have W0:=U1a f0 L0;refine U6a r6c Z Z Z (ih x (List.mem_of_getElem? H0) B g gw _ bk (ok+k*4) _ q0 _ _ y0 A1 B1 (Nat.le_trans hB m0.size) (Z0.keep m0.keepM) (hN.keep m0.keepM) (m0.oldM f1 a1) (.inr Z) (m0.blk 0 Z) W0 (x1 x (List.mem_of_getElem? H0)) (by rw[List.length_append,List.length_append,d1];omega)) ?_;rintro J1 F1 ⟨⟨_,T0,z0⟩,p1⟩;have s1:=St.wrote m0 p1 T0;have KQ:=t0a.refl [] F1;refine lP0 Z ⟨by omega,U⟩ ⟨μk-1,by omega,Z,(k+1),(_),(by omega),?_,s1,Z⟩;rw[E.txts_take 40 H0];have z:=U1a z0 KQ;have e1:nm++(E.txts (e.kids.take k) 40++((if k=0 then 40 else 44)::x.txt))=nm++E.txts (e.kids.take k) 40++(if k=0 then[40] else[44])++x.txt:=by split<;>simp
  rw[e1];exact V9c z
 refine lO0 Z U ?_;obtain rfl:k=e.kids.length:=by omega
 rw[List.take_length] at p0;have G0:=U1a p0 KL;refine j1a v1b Z Z (D2a B g y0 _ I0 (.inr Z) _ _ (G6a [41]) _ (Nat.le_trans hB S.size) (S.blk 0 Z) G0 (by rw[a3a,List.length_append];simp;omega)) ?_;rintro K1 M1 ⟨⟨q0,D0,g0⟩,q1⟩;have t1:=St.wrote S (BX.ofB q1 (e8a G0) (Nat.le_trans hB S.size)) D0;have g0:=G5a g0;refine lF0 Z U (M1a Z ?_);rw[o0];exact⟨⟨q0,D0,g0⟩,t1.bx hB⟩
theorem v3b{w:World}{B C e n:Nat}{v:Value}{xs:List Value}(h:w.ownsRow B e 1 v n xs)(hc:C≤B):w.ownsRow C e 1 v n xs:=by
 obtain⟨h1,h2⟩:=h;refine⟨h1,h2.imp id ?_⟩;rintro⟨g,a0,b0,q1,q2,q3⟩;exact⟨g,a0,b0,q1,Nat.le_trans hc q2,q3⟩
theorem z7b(e:E)(w0:World)(cs:List Value)(hR:RdE [] w0 e cs)(hK:A2a [] w0)(hN:N7a [] w0)(y0:e.wf=true)(x0:e.txB=true)(u0:e.txt.length≤800000):
 C0a prog 49 #[.agg cs.toArray] w0 fun v w'=>v=.string (G6a e.txt)∧Below w0.heap.size w0 w':=by
 obtain⟨_,_,_,rfl,-⟩:=hR.open_;have S:=St.refl w0;refine a0a func49 Z ntmps49 Z ?_;refine wO0 Z U (p0a S Z ?_);intro g1 w1 S1 X1 G1;refine lO S1.k [.w 0] Z ⟨⟨Z,Z⟩,U⟩ (h0a S1 A1b Z Z (c3a (T2a e [] _ _ (RdE.keep (S1.keep0 []) _ _ hR) (hK.keep (S1.keep0 []))) y0) ?_);intro w6 S6 X6;refine lO0 Z U (g0a S6 q1d Z Z ?_);intro g3 w3 S3 X3 G3;refine lO0 Z U (g0a S3 e1d Z Z ?_);intro g4 w4 S4 X4 G4;refine lO0 Z U (F1a Z Z ?_);refine f1a (kk:=0) S4 k2d Z Z Z (by exact Nat.le_of_ble_eq_true Z) ?_;intro b0 a0 p0;refine lO a0.k [.o 0] Z ⟨Z,U⟩ ?_;have f0:∀M:List Nat,(∀x∈M,x=g3∨b0.heap.size≤x)→∀g∈M,g∈([]:List Nat)∨w0.heap.size≤g:=fun M hM g hg=>.inr (by
  rcases hM g hg with rfl|h
  ·simpa using a0.new 1 Z
  ·have:=a0.size;omega)
 have s0:RB b0.heap.size g3 b0 e g1 0:=fun M hM=>⟨fun hh=>by
  rcases hM g1 hh with h|h
  ·exact a0.ne 1 2 Z Z (by decide) h.symm
  ·have:=a0.lt 2 Z;omega,_,a0.cells 2 Z,RdE.keep (a0.keep0 M) _ _ (RdE.more (f0 M hM) _ _ hR)⟩
 have r0:NB b0.heap.size g3 b0:=fun M hM=>(hN.more (f0 M hM)).keep (a0.keep0 M);have g0:b0.ownsRow b0.heap.size 5 1 (.slice none 0 0) 0 []:=⟨Z,.inl ⟨Z,Z⟩⟩;refine U6a r6c Z Z Z (s4c e b0.heap.size g3 g4 b0 g1 0 (.pointer none) (.slice none 0 0) 0 [] (a0.lt 1 Z) (a0.lt 0 Z) (a0.ne 0 1 Z Z (by decide)) (Nat.le_refl _) s0 r0 (a0.cell 0 Z Z) (.inl Z) (a0.blk 1 Z) g0 x0 (by omega)) ?_;have t0:=a0.size;rintro z0 i0 ⟨⟨vb,m0,c0⟩,e0⟩;have o0:D0a [g3] b0 i0:=⟨e0.os,e0.tape,e0.output,e0.size,fun k h1 h2=>e0.block k h1 fun h=>h2 (by rw[h];simp)⟩;have d0:=a0.changed1 1 Z o0 m0;dsimp only[List.set] at d0;refine lO0 Z U ?_;have q0:Lib.IsBuilder 145 5 w0.heap.size g3 (Lib.byteCells e.txt) i0:=by
  have n0:i0.heap[g3]?=some (.cells #[.pointer (some ⟨g3,0,none⟩),vb] 145 (0,0)):=d0.blk 1 Z;have v0:vb.ownBlock≠some g3:=Lib.ownBlock_ne c0 n0 (by decide);have hz:=v3b c0 t0;rw[Nat.zero_add,List.nil_append] at hz;exact .inr ⟨by simpa using d0.new 1 Z,vb,n0,by rw[Lib.byteCells_length];exact hz,v0⟩
 refine j1a (R:=fun v w'=>v=.string (G6a e.txt)∧Below w0.heap.size i0 w') L0d Z Z (Calls.mono (Tryz.Builder_String_any w0.heap.size g3 e.txt i0 q0 d0.size) (fun e w' h=>⟨_,h.1,Z,h.2⟩)) ?_;rintro A0 B0 ⟨rfl,j0⟩;exact lT Z U Z ⟨Z,d0.fin.trans j0⟩
section
variable {P:Program} {r:Option Nat} {N:Nat} {ops:Array Oper} {rest:List Oper} {C:World→Prop} {KQ:Env→Prop} {K:List Deferred→Env→World→Prop} {D:List Deferred} {e:Env} {w:World} {d:Nat} {t:TypeId} {p:String} {af:Array Edge} {x y:Operand} {yt:TypeId}
theorem Eq2.neq{ty:TypeId}(hE:Eq2 P ty)(w:World)(a b:Int×Int):(binOp .neq ty (.agg (pc a).toArray) (.agg (pc b).toArray)).run P w=.ok (.bool (!decide (a=b))) w:=by
 have:=hE.2 w a.1 a.2 b.1 b.2;have hd:decide (a=b)=decide (a.1=b.1∧a.2=b.2):=decide_eq_decide.2 Prod.ext_iff;rw[hd];show(binOp .neq ty (.agg #[.int .i64 a.1,.int .i64 a.2]) (.agg #[.int .i64 b.1,.int .i64 b.2])).run P w=_;rw[run_eql_struct] at this;rw[run_neq_struct]
 revert this
 generalize (Op.equalIn 10000 ty _ _).run P w=a0;intro this;cases a0 with
 | ok z w'=>simp only[Result.andThen_ok] at this ⊢;cases this;rfl
 | halt z w'=>simp[Result.andThen] at this
theorem Eq2.guard{ty:TypeId}(hE:Eq2 P ty)(w:World)(op:BinOp)(x y:Operand)(a b:Int×Int):(eqGuard op ty x y (.agg (pc a).toArray) (.agg (pc b).toArray)).run P w=.ok () w:=run_eqGuard_agg w _ _ _ _ _ _ hE.1
theorem Eq2.eql{ty:TypeId}(hE:Eq2 P ty)(w:World)(a b:Int×Int):(binOp .eql ty (.agg (pc a).toArray) (.agg (pc b).toArray)).run P w=.ok (.bool (decide (a=b))) w:=by
 have hd:decide (a=b)=decide (a.1=b.1∧a.2=b.2):=decide_eq_decide.2 Prod.ext_iff;rw[hd];exact hE.2 w a.1 a.2 b.1 b.2
theorem u2d{ty:TypeId}{a b:Int×Int}(hE:Eq2 P ty)(hx:ev e x=.agg (pc a).toArray)(hy:ev e y=.agg (pc b).toArray)(hd:Nat.ble (d+1) N=true)
 (h1:a≠b→QL P N ops C rest KQ (upd e d (.bool true))) (h2:a=b→QL P N ops C rest KQ (upd e d (.bool false))):QL P N ops C (⟨some d,.binOp .neq ty x y yt,t,p,af,none⟩::rest) KQ e:=by
 by_cases hh:a=b
 ·exact c2a Z Z hd (fun w _=>by simp only[execOp,hx,hy,Sem.run_bind,hE.guard,Result.andThen_ok,hE.neq,Sem.run_pure,decide_eq_true hh];rfl) (h2 hh)
 ·exact c2a Z Z hd (fun w _=>by simp only[execOp,hx,hy,Sem.run_bind,hE.guard,Result.andThen_ok,hE.neq,Sem.run_pure,decide_eq_false hh];rfl) (h1 hh)
end
theorem Z3c(M:List Nat)(w0:World)(v:Value)(l:List Int)(a:Int)(hR:RdI M w0 v l):
 C0a prog 43 #[v,.int .i64 a] w0 fun v w'=>v=.bool (decide (a∈l))∧Below w0.heap.size w0 w':=by
 obtain⟨A,n,c,rfl⟩:=hR.form;obtain⟨_,-,_⟩:=hR.len;have S:=St.refl w0;refine a0a func43 Z ntmps43 Z ?_;refine wC0 Z U (wL (fun μk D ε w=>D=[]∧∃k:Nat,(k+μk=(l.length))∧(a∉l.take k)∧St [] w0 w []∧Sl ε [(0,.slice A n c),(1,.int .i64 a),(5,.int .i64 k)]) (μ:=(l.length)) ⟨Z,0,by omega,by simp,S,Z⟩ ?_);rintro μk D ε w ⟨rfl,k,_,ha,S,eZ⟩;refine wK eZ (wB0 Z U (fun h9=>?_) fun h9=>?_)
 ·obtain⟨x,f0,g0,_,e0,b0,_,_,c0,d0⟩:=RdS.get (hR) (k) (by omega);obtain⟨rfl,_⟩:=id d0;refine lB (S.k.a c0) [.x f0 g0,.f 0 0] Z ⟨Z,⟨b0,by omega⟩,U⟩ (fun a0=>?_) fun a0=>?_
  ·refine lR0 Z U (s0a Z ?_);exact⟨by rw[decide_eq_true (a0▸e0a e0:a∈l)],S.fin⟩
  refine lP0 Z ⟨by omega,U⟩ ⟨μk-1,by omega,Z,(k+1),(by omega),?_,S,Z⟩;rw[B0a e0];intro hh;rcases List.mem_append.1 hh with h|h
  ·exact ha h
  ·rw[List.mem_singleton.1 h] at a0;exact a0 Z
 refine lR0 Z U (s0a Z ?_);exact⟨by rw[decide_eq_false (by rw[List.take_of_length_le (by omega)] at ha;exact ha)],S.fin⟩
theorem m3a(M:List Nat)(w0:World)(v u:Value)(a b:List (Int×Int))(hA:O3b M w0 v a)(hB:O3b M w0 u b):
 C0a prog 12 #[v,u] w0 fun v w'=>v=.bool (decide (a=b))∧Below w0.heap.size w0 w':=by
 obtain⟨A,n,c,rfl⟩:=hA.form;obtain⟨hn,-,_⟩:=hA.len;obtain⟨A',n',c',rfl⟩:=hB.form;obtain⟨_,-,_⟩:=hB.len;have S:=St.refl w0;refine a0a func12 Z ntmps12 Z ?_;refine wB0 Z U (fun x0=>?_) fun x0=>?_
 ·refine lR0 Z U (s0a Z ?_);exact⟨by rw[decide_eq_false (fun h=>by rw[h] at hn;omega)],S.fin⟩
 have C0:b.length=a.length:=by omega
 refine lC0 Z U (wL (fun μk D ε w=>D=[]∧∃k:Nat,(k+μk=(a.length))∧(a.take k=b.take k)∧St [] w0 w []∧Sl ε [(0,.slice A n c),(1,.slice A' n' c'),(5,.int .i64 k)]) (μ:=(a.length)) ⟨Z,0,by omega,by simp,S,Z⟩ ?_);rintro μk D ε w ⟨rfl,k,_,he,S,eZ⟩;refine wK eZ (wB0 Z U (fun y0=>?_) fun y0=>?_)
 ·refine lC0 Z U (x0a b0a [0,1,2,3,4,5,6,7,8] [] [] Z (Cl _ _ _ _) (Cl.start S) ?_);obtain⟨x,q0,z0,s0,n0,c0,_,g0,e0,j0⟩:=RdS.get (hA) (k) (by omega);obtain⟨u0,_⟩:=j0;obtain rfl:s0=pc x:=u0;obtain⟨y,r0,A0,t0,o0,d0,_,i0,f0,m0⟩:=RdS.get (hB) (k) (by omega);obtain⟨v0,_⟩:=m0;obtain rfl:t0=pc y:=v0;refine qOn 8 ((S.q.a f0).a e0) [.x q0 z0,.v 0,.x r0 A0,.v 1] Z ⟨⟨Z,i0⟩,⟨d0,by omega⟩,⟨Z,g0⟩,⟨c0,by omega⟩,U⟩ (u2d (a:=x) (b:=y) s8b Z Z Z (fun b0=>?_) fun b0=>?_)
  ·refine qD Z U ?_;rintro B0 ⟨a0,p0⟩;refine lR0 Z U (s0a Z ?_);exact⟨by rw[decide_eq_false (fun h=>b0 (Option.some.inj (n0.symm.trans (by rw[h];exact o0))))],a0.fin⟩
  refine qD Z U ?_;rintro B0 ⟨a0,p0⟩;refine lP0 Z ⟨by omega,U⟩ ⟨μk-1,by omega,Z,(k+1),(by omega),?_,a0,Z⟩;rw[B0a n0,B0a o0,he,b0]
 refine lR0 Z U (s0a Z ?_);exact⟨by rw[decide_eq_true (by rw[List.take_of_length_le (by omega),List.take_of_length_le (by omega)] at he;exact he)],S.fin⟩
theorem I7b(n wd:Int)(w0:World):C0a prog 93 #[.int .i64 n,.int .i64 wd] w0 fun v w'=>v=.agg #[.int .i64 3,.int .i64 wd,.int .i64 n,.slice none 0 0]∧Below w0.heap.size w0 w':=by
 have S:=St.refl w0;refine a0a func93 Z ntmps93 Z ?_;refine wO0 Z U (g0a S f2a Z Z ?_);intro g4 w4 S4 X4 G4;refine lO0 Z U (G0a n2a (vs:=[(0,.int .i64 _),(1,.int .i64 _),(2,.int .i64 _)]) (cs:=[_,_,_,_]) Z Z Z Z ?_)
 first|refine c0a (kk:=0) (vs:=[_,_,_,_]) S4 q1a Z Z Z Z Z Z Z ?_
 intro c0 a0 b0;dsimp only[i0a,List.set] at a0;exact lR0 Z U (v0a Z I0a Z (a0.cells 0 Z) Z ⟨Z,a0.fin⟩)
theorem n4b(n wd:Int)(w0:World):C0a prog 94 #[.int .i64 n,.int .i64 wd] w0 fun v w'=>v=.agg #[.int .i64 2,.int .i64 wd,.int .i64 n,.slice none 0 0]∧Below w0.heap.size w0 w':=by
 have S:=St.refl w0;refine a0a func94 Z ntmps94 Z ?_;refine wO0 Z U (g0a S f2a Z Z ?_);intro g4 w4 S4 X4 G4;refine lO0 Z U (G0a n2a (vs:=[(0,.int .i64 _),(1,.int .i64 _),(2,.int .i64 _)]) (cs:=[_,_,_,_]) Z Z Z Z ?_)
 first|refine c0a (kk:=0) (vs:=[_,_,_,_]) S4 q1a Z Z Z Z Z Z Z ?_
 intro c0 a0 b0;dsimp only[i0a,List.set] at a0;exact lR0 Z U (v0a Z I0a Z (a0.cells 0 Z) Z ⟨Z,a0.fin⟩)
theorem R8b(n wd:Int)(w0:World):C0a prog 39 #[.int .i64 n,.int .i64 wd] w0 fun v w'=>v=.agg #[.int .i64 1,.int .i64 wd,.int .i64 n,.slice none 0 0]∧Below w0.heap.size w0 w':=by
 have S:=St.refl w0;refine a0a func39 Z ntmps39 Z ?_;refine wO0 Z U (g0a S f2a Z Z ?_);intro g4 w4 S4 X4 G4;refine lO0 Z U (G0a n2a (vs:=[(0,.int .i64 _),(1,.int .i64 _),(2,.int .i64 _)]) (cs:=[_,_,_,_]) Z Z Z Z ?_)
 first|refine c0a (kk:=0) (vs:=[_,_,_,_]) S4 q1a Z Z Z Z Z Z Z ?_
 intro c0 a0 b0;dsimp only[i0a,List.set] at a0;exact lR0 Z U (v0a Z I0a Z (a0.cells 0 Z) Z ⟨Z,a0.fin⟩)
theorem z8b(op wd:Int)(ho:i64 op)(hw:i64 wd)(a b:E)(ca cb:List Value)(M:List Nat)(w0:World)(hM:∀g∈M,g<w0.heap.size)(ha:RdE M w0 a ca)(hb:RdE M w0 b cb):
 C0a prog 92 #[.int .i64 op,.int .i64 wd,.agg ca.toArray,.agg cb.toArray] w0 fun v w'=>(∃cs:List Value,v=.agg cs.toArray∧RdE M w' ⟨op,wd,0,[a,b]⟩ cs)∧Below w0.heap.size w0 w':=by
 have S:=St.refl w0;obtain⟨_,_,_,rfl,-⟩:=ha.open_;obtain⟨_,_,_,rfl,-⟩:=hb.open_;refine a0a func92 Z ntmps92 Z ?_;refine wO0 Z U (p0a S Z ?_);intro g6 w6 S6 X6 G6;refine p0a S6 Z ?_;intro g7 w7 S7 X7 G7;refine g0a S7 f2a Z Z ?_;intro g8 w8 S8 X8 G8;refine lO S8.k [.w 2,.w 1] Z ⟨⟨Z,by rfl⟩,⟨Z,by rfl⟩,U⟩ (m0a S8 S0a (vs:=[.agg _,.agg _]) (cs:=[_,_,_,_,_,_,_,_]) Z Z Z Z Z Z ?_);intro g0 i0 b0 f0 e0;refine G0a n2a (vs:=[(0,.int .i64 _),(1,.int .i64 _),(3,.slice _ _ _)]) (cs:=[_,_,_,_]) Z Z Z Z ?_;refine c0a (kk:=1) (vs:=[_,_,_,_]) b0 q1a Z Z Z Z Z Z Z ?_;intro d0 a0 c0;dsimp only[i0a,List.set] at a0;refine lR0 Z U (v0a Z I0a Z (a0.cells 1 Z) Z ⟨⟨_,Z,f2b ho hw (fun hm=>?_) (a0.cells 0 Z) (RdE.keep (a0.keep0 M) _ _ ha) (RdE.keep (a0.keep0 M) _ _ hb)⟩,a0.fin⟩);have h1:=hM _ hm;have h2:=a0.new 0 Z;simp at h2;omega
theorem P6a(p:k0a)(k:Nat)(M:List Nat)(w0:World)(cs:List Value)(hI:InP p M w0 cs)(hk:k<p.cells.length:=by omega):
 C0a prog 56 #[.agg cs.toArray,.int .i64 k] w0 fun v w'=>(∃cs:List Value,v=.agg cs.toArray∧RdE M w' (Y3a p k) cs)∧Below w0.heap.size w0 w':=by
 obtain⟨_,_,_,_,_,_,_,_,_,_,_,_,rfl,hC,_⟩:=hI.rd.open_;have hM:=hI.lt;have s0:=hI.ok.ncells;have S:=St.refl w0;refine a0a func56 Z ntmps56 Z ?_;refine wO0 Z U (p0a S Z ?_);intro g2 w2 S2 X2 G2;refine g0a S2 f2a Z Z ?_;intro g4 w4 S4 X4 G4;refine lC0 Z U (x0a b0a [0,1,2,3,4,5,6,7,8,9,10,11,12,13,14,15] [] [16,17] Z (Cl _ _ _ _) (Cl.start S4) ?_);obtain⟨y,b9,p9,_,i0,q0,_,_,r0,t0⟩:=RdS.get (hC) (k) (by omega);obtain⟨rfl,_⟩:=R2a.open_ t0;have u0:wAt p.cells k=y.w:=I5a (by rw[Int.toNat_natCast];exact i0);have A0:=(hI.ok.cells y (e0a i0)).w;refine qO (S4.q.a r0) [.o 1,.x b9 p9,.f 0 1] Z ⟨Z,⟨q0,by omega⟩,Z,U⟩ (k1a h6c Z Z (fun w1 S1 X1=>I7b k y.w _) ?_);obtain⟨_,p0,v0,_,g0,d0,_,_,e0,f0⟩:=RdS.get (hC) (k) (by omega);obtain rfl:=Option.some.inj (i0.symm.trans g0);obtain⟨rfl,_⟩:=R2a.open_ f0;refine qO (S4.q.a e0) [.o 1,.x p0 v0,.f 0 1] Z ⟨Z,⟨d0,by omega⟩,Z,U⟩ (k1a e6c Z Z (fun w1 S1 X1=>n4b k y.w _) ?_);refine qD Z U ?_;rintro y0 ⟨c0,_⟩;have o0:∀g∈g4::M,g<y0.heap.size:=fun g hg=>by
  rcases List.mem_cons.1 hg with rfl|hg
  ·exact c0.lt 0 Z
  ·exact Nat.lt_of_lt_of_le (hM g hg) c0.size
 have ik:i64 (k:Int):=by unfold i64;omega
 have iw:i64 y.w:=by unfold i64;omega
 refine n0a c0 r0c Z Z (z8b 11 1 (by unfold i64;omega) (by unfold i64;omega) ⟨3,y.w,k,[]⟩ ⟨2,y.w,k,[]⟩ [_,_,_,_] [_,_,_,_] (g4::M) _ o0 (p1a (by unfold i64;omega) iw ik) (p1a (by unfold i64;omega) iw ik)) ?_;rintro B0 x0 ⟨_,rfl,j0⟩ n0 z0;obtain⟨_,_,_,rfl,-⟩:=j0.open_;have KE:=t0a.refl (g4::M) x0;refine c0a (kk:=0) (vs:=[_,_,_,_]) n0 q1a Z Z Z Z Z Z Z ?_;intro m0 a0 b0;dsimp only[i0a,List.set] at a0;replace KE:=KE.fresh2 b0 (by first  | exact .inr (by simp));refine lR0 Z U ?_;exact v0a Z I0a Z (a0.cells 0 Z) Z ⟨⟨_,Z,by unfold Y3a;rw[u0];exact RdE.less (fun g hg=>List.mem_cons_of_mem _ hg) _ _ (RdE.keep KE _ _ j0)⟩,a0.fin⟩
theorem u4b(w0:World):
 C0a prog 48 #[] w0 fun v w'=>(∃cs:List Value,v=.agg cs.toArray∧Y0a [] w' a2a cs)∧Below w0.heap.size w0 w':=by
 have S:=St.refl w0;have i0:i64 0:=by unfold i64;omega
 have i1:i64 1:=by unfold i64;omega
 have i2:i64 2:=by unfold i64;omega
 have i3:i64 3:=by unfold i64;omega
 have im:i64 (-1):=by unfold i64;omega
 have y1:i64 13:=by unfold i64;omega
 refine a0a func48 Z ntmps48 Z ?_;refine wO0 Z U (g0a S R6c Z Z ?_);intro g0 w0 S0 X0 G0;refine lO0 Z U (h0a S0 B7b Z Z (R8b _ _ _) ?_);intro w6 S6 X6;refine g0a S6 f2a Z Z ?_;intro g1 w1 S1 X1 G1;refine c0a (kk:=0) (vs:=[_,_,_,_]) S1 q1a Z Z Z Z Z Z Z ?_;intro A1 r0 U0;dsimp only[i0a,List.set] at r0;refine lO0 Z U (G0a w6c (vs:=[(0,.string _),(1,.int .i64 _),(3,.int .i64 _)]) (cs:=[_,_,_,_,_,_]) Z Z Z Z ?_);refine G0a w6c (vs:=[(0,.string _),(1,.int .i64 _),(3,.int .i64 _),(5,.int .i64 _)]) (cs:=[_,_,_,_,_,_]) Z Z Z Z ?_;refine m0a r0 k6a (vs:=[.agg _,.agg _]) (cs:=[_,_,_,_,_,_,_,_,_,_,_,_]) Z Z Z Z Z Z ?_;intro g9 w9 S9 X9 G9;refine lO0 Z U (h0a S9 h6c Z Z (I7b _ _ _) ?_);intro Y1 F0 Q1;refine h0a F0 e6c Z Z (n4b _ _ _) ?_;intro Z1 x0 R1;refine n0a x0 r0c Z Z (z8b 13 1 y1 i1 ⟨3,1,0,[]⟩ ⟨2,1,0,[]⟩ [_,_,_,_] [_,_,_,_] [g0] _ (fun g hg=>by rw[List.mem_singleton.1 hg];exact x0.lt 2 Z) (p1a i3 i1 i0) (p1a i2 i1 i0)) ?_;rintro W1 z1 ⟨_,rfl,C0⟩ H0 T1;have b0:=t0a.refl [] z1;obtain⟨_,_,_,rfl,-⟩:=C0.open_;refine g0a H0 f2a Z Z ?_;intro g3 w3 S3 X3 G3;have o0:=Nat.le_trans b0.size G3;replace b0:=b0.trans X3;refine c0a (kk:=0) (vs:=[_,_,_,_]) S3 q1a Z Z Z Z Z Z Z ?_;intro B1 n0 v0;dsimp only[i0a,List.set] at n0;replace b0:=b0.fresh v0 (by first|exact o0);refine lO n0.k [.w 2,.w 2] Z ⟨⟨Z,by rfl⟩,⟨Z,by rfl⟩,U⟩ (m0a n0 S0a (vs:=[.agg _,.agg _]) (cs:=[_,_,_,_,_,_,_,_]) Z Z Z Z Z Z ?_);intro n1 a2 I0 R0 C1;replace b0:=b0.trans R0;refine m0a I0 U0a (vs:=[.int .i64 _,.int .i64 _]) (cs:=[_,_]) Z Z Z Z Z Z ?_;intro o1 b2 y0 T0 D1;replace b0:=b0.trans T0;refine lO y0.k [.w 4,.w 4] Z ⟨⟨Z,by rfl⟩,⟨Z,by rfl⟩,U⟩ (G0a q3c (vs:=[(0,.int .i64 _),(1,.agg _)]) (cs:=[_,_,_,_,_]) Z Z Z Z ?_);refine m0a y0 P8a (vs:=[.agg _]) (cs:=[_,_,_,_,_]) Z Z Z Z Z Z ?_;intro p1 d2 J0 V0 E1;replace b0:=b0.trans V0;refine G0a K5c (vs:=[(0,.int .i64 _),(1,.int .i64 _),(2,.int .i64 _),(3,.agg _),(4,.slice _ _ _)]) (cs:=[_,_,_,_,_,_,_,_,_,_,_]) Z Z Z Z ?_;refine m0a J0 n7b (vs:=[.agg _]) (cs:=[_,_,_,_,_,_,_,_,_,_,_]) Z Z Z Z Z Z ?_;intro q1 e2 K0 W0 F1;replace b0:=b0.trans W0;refine G0a q6c (vs:=[(0,.string _),(1,.int .i64 _),(2,.slice _ _ _),(3,.slice _ _ _),(4,.slice _ _ _)]) (cs:=[_,_,_,_,_,_,_]) Z Z Z Z ?_;refine g0a K0 T0b Z Z ?_;intro g4 w4 S4 X4 G4;have p0:=Nat.le_trans b0.size G4;replace b0:=b0.trans X4;refine c0a (kk:=0) (vs:=[_,_,_,_,_,_,_]) S4 Y0b Z Z Z Z Z Z Z ?_;intro D0 e0 s0;dsimp only[i0a,List.set] at e0;replace b0:=b0.fresh s0 (by exact p0);refine lO e0.k [.w 7,.w 7] Z ⟨⟨Z,by rfl⟩,⟨Z,by rfl⟩,U⟩ (m0a e0 S0a (vs:=[.agg _,.agg _]) (cs:=[_,_,_,_,_,_,_,_]) Z Z Z Z Z Z ?_);intro r1 f2 L0 Y0 H1;replace b0:=b0.trans Y0;refine m0a L0 U0a (vs:=[.int .i64 _,.int .i64 _]) (cs:=[_,_]) Z Z Z Z Z Z ?_;intro s1 g2 z0 Z0 I1;replace b0:=b0.trans Z0;refine lO z0.k [.w 9,.w 9] Z ⟨⟨Z,by rfl⟩,⟨Z,by rfl⟩,U⟩ (G0a q3c (vs:=[(0,.int .i64 _),(1,.agg _)]) (cs:=[_,_,_,_,_]) Z Z Z Z ?_);refine m0a z0 P8a (vs:=[.agg _]) (cs:=[_,_,_,_,_]) Z Z Z Z Z Z ?_;intro t1 h2 N0 a1 J1;replace b0:=b0.trans a1;refine G0a K5c (vs:=[(0,.int .i64 _),(1,.int .i64 _),(2,.int .i64 _),(3,.agg _),(4,.slice _ _ _),(7,.int .i64 _)]) (cs:=[_,_,_,_,_,_,_,_,_,_,_]) Z Z Z Z ?_;refine m0a N0 n7b (vs:=[.agg _]) (cs:=[_,_,_,_,_,_,_,_,_,_,_]) Z Z Z Z Z Z ?_;intro u1 j2 O0 b1 K1;replace b0:=b0.trans b1;refine G0a q6c (vs:=[(0,.string _),(1,.int .i64 _),(2,.slice _ _ _),(3,.slice _ _ _),(4,.slice _ _ _)]) (cs:=[_,_,_,_,_,_,_]) Z Z Z Z ?_;refine g0a O0 T0b Z Z ?_;intro g5 w5 S5 X5 G5;have q0:=Nat.le_trans b0.size G5;replace b0:=b0.trans X5;refine c0a (kk:=0) (vs:=[_,_,_,_,_,_,_]) S5 Y0b Z Z Z Z Z Z Z ?_;intro E0 j0 t0;dsimp only[i0a,List.set] at j0;replace b0:=b0.fresh t0 (by exact q0);have d0:=RdE.keep b0.of_nil _ _ C0;refine lO j0.k [.w 10] Z ⟨⟨Z,by rfl⟩,U⟩ (m0a j0 U0a (vs:=[.int .i64 _]) (cs:=[_]) Z Z Z Z Z Z ?_);intro v1 m2 A0 c1 M1;replace d0:=RdE.keep (c1.of_nil) _ _ d0;refine G0a d6c (vs:=[(0,.string _),(1,.string _),(3,.agg _),(4,.slice _ _ _)]) (cs:=[_,_,_,_,_,_,_,_,_,_,_]) Z Z Z Z ?_;refine lO A0.k [.w 13] Z ⟨⟨Z,by rfl⟩,U⟩ (m0a A0 U0a (vs:=[.int .i64 _]) (cs:=[_]) Z Z Z Z Z Z ?_);intro x1 n2 P0 d1 N1;replace d0:=RdE.keep (d1.of_nil) _ _ d0;refine G0a d6c (vs:=[(0,.string _),(1,.string _),(3,.agg _),(4,.slice _ _ _)]) (cs:=[_,_,_,_,_,_,_,_,_,_,_]) Z Z Z Z ?_;refine m0a P0 Q5c (vs:=[.agg _,.agg _]) (cs:=[_,_,_,_,_,_,_,_,_,_,_,_,_,_,_,_,_,_,_,_,_,_]) Z Z Z Z Z Z ?_;intro U1 o2 B0 j1 O1;replace d0:=RdE.keep (j1.of_nil) _ _ d0;refine lO B0.k [.w 8,.w 3] Z ⟨⟨Z,by rfl⟩,⟨Z,by rfl⟩,U⟩ (m0a B0 S7b (vs:=[.agg _,.agg _]) (cs:=[_,_,_,_,_,_,_,_,_,_,_,_,_,_]) Z Z Z Z Z Z ?_);intro V1 p2 Q0 m1 P1;replace d0:=RdE.keep (m1.of_nil) _ _ d0;refine G0a v1d (vs:=[(0,.slice _ _ _),(1,.slice _ _ _),(3,.slice _ _ _)]) (cs:=[_,_,_,_]) Z Z Z Z ?_;refine c0a (kk:=17) (vs:=[_,_,_,_]) Q0 U8c Z Z Z Z Z Z Z ?_;intro a0 m0 u0;dsimp only[i0a,List.set] at m0;replace d0:=RdE.keep (u0.mono (by simp)) _ _ d0;refine lR0 Z U ?_;have SF:=m0;replace d0:=RdE.less (M':=[]) (by simp) _ _ d0;have c0:RdE [] a0 i4a [.int .i64 1,.int .i64 1,.int .i64 1,.slice none 0 0]:=p1a i1 i1 i1;have hz:RdE [] a0 zE [.int .i64 0,.int .i64 0,.int .i64 0,.slice none 0 0]:=p1a i0 i0 i0;have f0:RdI [] a0 (.slice (some ⟨v1,0,none⟩) 1 1) [0]:=q3a SF (k:=3) Z Z (by simp[i0]);have f1:RdI [] a0 (.slice (some ⟨x1,0,none⟩) 1 1) [1]:=q3a SF (k:=2) Z Z (by simp[i1]);have ma:RdI [] a0 (.slice (some ⟨o1,0,none⟩) 2 2) [0,0]:=q3a SF (k:=12) Z Z (by simp[i0]);have mb:RdI [] a0 (.slice (some ⟨s1,0,none⟩) 2 2) [1,1]:=q3a SF (k:=7) Z Z (by simp[i1]);have sa:z5c [] a0 (.slice (some ⟨p1,0,none⟩) 1 1) [⟨0,i4a⟩]:=V3c (SF.cells 11 Z) Z ⟨_,Z,i0,c0⟩;have sb:z5c [] a0 (.slice (some ⟨t1,0,none⟩) 1 1) [⟨1,i4a⟩]:=V3c (SF.cells 6 Z) Z ⟨_,Z,i1,c0⟩;have aa:I0d [] a0 (.slice (some ⟨n1,0,none⟩) 2 2) [i4a,i4a]:=r3b (c:=[_,_,_,_]) (c2:=[_,_,_,_]) (SF.cells 13 Z) Z Z c0 c0;have ab:I0d [] a0 (.slice (some ⟨r1,0,none⟩) 2 2) [i4a,i4a]:=r3b (c:=[_,_,_,_]) (c2:=[_,_,_,_]) (SF.cells 8 Z) Z Z c0 c0;have ta:h1d [] a0 (.slice (some ⟨q1,0,none⟩) 1 1) [⟨3,0,1,i4a,[⟨0,i4a⟩],false,0,0⟩]:=V3c (SF.cells 10 Z) Z ⟨_,_,_,_,_,Z,i3,i0,i1,i0,i0,c0,sa⟩;have tb:h1d [] a0 (.slice (some ⟨u1,0,none⟩) 1 1) [⟨3,0,1,i4a,[⟨1,i4a⟩],false,0,1⟩]:=V3c (SF.cells 5 Z) Z ⟨_,_,_,_,_,Z,i3,i0,i1,i0,i1,c0,sb⟩;refine v0a Z L2a Z (SF.cells 17 Z) Z ⟨⟨_,Z,_,_,_,_,Z,?_,?_,p3b,?_⟩,SF.fin⟩
 ·exact r3b (c:=[_,_,_,_,_,_]) (c2:=[_,_,_,_,_,_]) (SF.cells 15 Z) Z Z ⟨Z,i1,i0,im,i0⟩ ⟨Z,i1,i0,im,i1⟩
 ·exact r3b (c:=[_,_,_,_,_,_,_,_,_,_,_]) (c2:=[_,_,_,_,_,_,_,_,_,_,_]) (SF.cells 1 Z) Z Z ⟨_,_,_,_,_,_,_,_,_,Z,hz,d0,f0⟩ ⟨_,_,_,_,_,_,_,_,_,Z,hz,c0,f1⟩
 ·exact r3b (c:=[_,_,_,_,_,_,_]) (c2:=[_,_,_,_,_,_,_]) (SF.cells 0 Z) Z Z ⟨_,_,_,_,Z,i2,aa,ma,ta,p3b⟩ ⟨_,_,_,_,Z,i2,ab,mb,tb,p3b⟩
theorem c4c:∀l,l=[0]∨l=[0,1]→wdL a2a.cells l=l.map fun _=>1:=fun l h=>by rcases h with rfl|rfl<;>rfl
theorem j3c(w0:World)(hK:A2a [] w0)(hN:N7a [] w0):
 C0a prog 10 #[] w0 fun v w'=>v=.bool true∧Below w0.heap.size w0 w':=by
 have S:=St.refl w0;have i0:i64 0:=by unfold i64;omega
 have i1:i64 1:=by unfold i64;omega
 have r1:onE a2a 1≠zE:=by rw[D4b];intro h;exact absurd (congrArg E.op h) (by decide)
 have q1:onE a2a 0≠zE:=by rw[L5c];intro h;exact absurd (congrArg E.op h) (by decide)
 have K1:∀c∈[(0:Int)],0≤c∧c<a2a.cells.length:=by simp[a2a]
 have r2:∀c∈[(0:Int),1],0≤c∧c<a2a.cells.length:=by simp[a2a]
 refine a0a func10 Z ntmps10 Z ?_;refine wO0 Z U (n0a S F2d Z Z (u4b _) ?_);rintro v6 w6 ⟨_,rfl,r6⟩ S6 X6;obtain⟨_,_,_,_,_,_,_,_,_,_,_,_,rfl,-⟩:=r6.open_;have K6:=t0a.refl [] w6;have y0:InP a2a [] w6 _:=⟨r6,H7c,hK.keep (S6.keep0 []),by simp⟩;refine g0a S6 R6c Z Z ?_;intro g1 w1 S1 X1 G1;have u1:=Nat.le_trans K6.size G1;replace K6:=K6.trans X1
 first|refine c0a (kk:=0) (vs:=[_,_,_,_]) S1 U8c Z Z Z Z Z Z Z ?_
 intro H2 Q0 y1;dsimp only[i0a,List.set] at Q0;replace K6:=K6.fresh y1 (by first|exact u1);refine lO Q0.k [.w 0] Z ⟨⟨Z,Z⟩,U⟩ (m0a Q0 U0a (vs:=[.int .i64 _]) (cs:=[_]) Z Z Z Z Z Z ?_);intro g9 w9 S9 X9 G9;replace K6:=K6.trans X9;refine n0a S9 Z5c Z Z (o5b a2a 1 [0] (by simp[Y2a]) K1 [] _ _ _ (y0.keep K6) (show RdI [] _ (.slice (some ⟨g9,0,none⟩) 1 1) [0] from q3a S9 (k:=0) Z Z (by simp[i0])) r1 (H3b H7c r1) 1 (by rw[c4c _ (.inl rfl)];rfl) 2 (by rw[g7a,c4c _ (.inr rfl)];rfl) (by rw[g7a];exact r2)) ?_;rintro Z2 E2 ⟨_,rfl,F1⟩ d2 f2;replace K6:=K6.trans f2;obtain⟨_,_,_,_,rfl,B1,D1,I1,O1,-,M1⟩:=F1.get;obtain rfl:=X1d O1 M1;obtain⟨_,_,_,rfl⟩:=B1.form;obtain⟨_,_,c2,rfl⟩:=D1.form;have Y0:=I1 [] (by simp);obtain⟨_,_,c3,rfl⟩:=Y0.form;have b0:=t0a.refl [] E2;refine lO0 Z U (g0a d2 H7a Z Z ?_);intro g2 w2 S2 X2 G2;have v1:=Nat.le_trans K6.size G2;have f1:=Nat.le_trans b0.size G2;replace K6:=K6.trans X2;replace b0:=b0.trans X2;refine c0a (kk:=0) (vs:=[_,_,_]) S2 R7a Z Z Z Z Z Z Z ?_;intro O2 S0 p1;dsimp only[i0a,List.set] at S0;replace K6:=K6.fresh p1 (by exact v1);replace b0:=b0.fresh p1 (by exact f1);refine lO S0.k [.w 2] Z ⟨⟨Z,Z⟩,U⟩ (m0a S0 U0a (vs:=[.int .i64 _]) (cs:=[_]) Z Z Z Z Z Z ?_);intro n2 b3 Q1 R1 Y2;replace K6:=K6.trans R1;replace b0:=b0.trans R1;refine n0a Q1 Z5c Z Z (o5b a2a 0 [0] (by simp[Y2a]) K1 [] _ _ _ (y0.keep K6) (show RdI [] _ (.slice (some ⟨n2,0,none⟩) 1 1) [0] from q3a Q1 (k:=0) Z Z (by simp[i0])) q1 (H3b H7c q1) 1 (by rw[c4c _ (.inl rfl)];rfl) 1 (by rw[Z2b,c4c _ (.inl rfl)];rfl) (by rw[Z2b];exact K1)) ?_;rintro a3 F2 ⟨_,rfl,H1⟩ e2 T1;replace K6:=K6.trans T1;replace b0:=b0.trans T1;obtain⟨_,_,_,_,rfl,C1,E1,J1,P1,-,N1⟩:=H1.get;obtain rfl:=V2d P1 N1;obtain⟨_,_,_,rfl⟩:=C1.form;obtain⟨_,_,_,rfl⟩:=E1.form;have Z0:=J1 [] (by simp);obtain⟨_,_,_,rfl⟩:=Z0.form;have c0:=t0a.refl [] F2;refine lO0 Z U (g0a e2 H7a Z Z ?_);intro g4 w4 S4 X4 G4;have x1:=Nat.le_trans K6.size G4;have j1:=Nat.le_trans b0.size G4;have m1:=Nat.le_trans c0.size G4;replace K6:=K6.trans X4;replace b0:=b0.trans X4;replace c0:=c0.trans X4;refine c0a (kk:=0) (vs:=[_,_,_]) S4 R7a Z Z Z Z Z Z Z ?_;intro b1 T0 W0;dsimp only[i0a,List.set] at T0;replace K6:=K6.fresh W0 (by exact x1);replace b0:=b0.fresh W0 (by exact j1);replace c0:=c0.fresh W0 (by exact m1);refine lC0 Z U (x1b b0a (fun i=>[0,2,3,6,7,10,11,12,13,15,18,19,20,21,22,23,24,25,26,27,28,29,30,31,32,35,36,37,38,39,40,43,44].contains i) (.op 0 (.op 2 (.op 3 (.two (.op 1 (.op 4 (.op 5 (.op 6 (.op 7 (.op 8 (.op 9 (.op 10 (.op 11 (.op 12 (.op 13 (.op 15 (.op 14 (.op 16 (.op 17 (.op 18 (.op 19 (.op 20 (.op 21 (.op 22 (.op 23 (.op 24 (.op 25 (.op 26 (.op 27 (.op 28 (.op 29 (.op 30 (.op 31 (.op 32 (.op 33 (.op 34 (.op 35 (.op 36 (.op 37 (.op 38 (.op 39 (.op 40 (.op 41 (.op 42 (.op 43 (.op 44 .nil)))))))))))))))))))))))))))))))))))))))))) (.op 4 (.op 1 (.op 5 (.op 6 (.op 7 (.op 8 (.op 9 (.op 10 (.op 11 (.op 12 (.op 13 (.op 15 (.op 14 (.op 16 (.op 17 (.op 18 (.op 19 (.op 20 (.op 21 (.op 22 (.op 23 (.op 24 (.op 25 (.op 26 (.op 27 (.op 28 (.op 29 (.op 30 (.op 31 (.op 32 (.op 33 (.op 34 (.op 35 (.op 36 (.op 37 (.op 38 (.op 39 (.op 40 (.op 41 (.op 42 (.op 43 (.op 44 .nil)))))))))))))))))))))))))))))))))))))))))))))) (b3d T0) ?_);have O0:=T0.drew;have A0:t0a [] b1 b1.drew:=O2a _ _;generalize b1.drew=d3 at O0 A0 ⊢;replace K6:=K6.trans A0;replace b0:=b0.trans A0;replace c0:=c0.trans A0;refine g1a ⟨O0,A0⟩ Z Z Z ?_;refine D1a L2a Z (fun w1 hw=>hw.1.cells 4 Z) Z Z ?_;refine d0a ?_;refine g1a ⟨O0,A0⟩ Z Z Z ?_;refine B1a I4a (vs:=[(0,.int .i64 _),(1,.int .i64 _)]) (cs:=[_,_]) Z Z Z Z ?_;refine d0a ?_;refine g1a ⟨O0,A0⟩ Z Z Z ?_;refine B1a I4a (vs:=[(0,.int .i64 _),(1,.int .i64 _)]) (cs:=[_,_]) Z Z Z Z ?_;refine d0a ?_;refine B4a ?_ ?_
 ·refine b2a ⟨O0,A0⟩ Z Z Z ?_;refine n0a O0 v5c Z Z (u1b a2a [] _ _ (y0.keep K6)) ?_;rintro v20 I2 ⟨s2,j0,a1,X0,-⟩ c1 K0;have p0:=A0.trans K0;replace K6:=K6.trans K0;replace b0:=b0.trans K0;replace c0:=c0.trans K0;obtain rfl:=u7b a1 X0;obtain⟨U1,t2,h2,rfl⟩:=j0.form;refine r0a ⟨Z,?_⟩;refine b2a ⟨c1,p0⟩ Z Z Z ?_;refine m0a c1 M3a (vs:=[.agg _,.agg _]) (cs:=[_,_,_,_]) Z Z Z Z Z Z ?_;intro o2 J2 d1 B0 Z1;have q0:=p0.trans B0;replace K6:=K6.trans B0;replace b0:=b0.trans B0;replace c0:=c0.trans B0;replace j0:=j0.keep (B0.of_nil);refine r0a ⟨Z,?_⟩;refine b2a ⟨d1.tail,q0⟩ Z Z Z ?_;refine h0a d1 K1b Z Z (c3a (m3a [] _ _ _ _ [(0,1),(1,0)] j0 (r3b (c:=[_,_]) (c2:=[_,_]) (d1.cells 0 Z) Z Z ⟨Z,i0,i1⟩ ⟨Z,i1,i0⟩)) (decide_eq_true Z)) ?_;intro K2 I0 C0;have g0:=q0.trans C0;replace K6:=K6.trans C0;replace b0:=b0.trans C0;replace c0:=c0.trans C0;replace j0:=j0.keep (C0.of_nil);refine r0a ⟨Z,?_⟩;refine g1a ⟨I0.tail,g0⟩ Z Z Z ?_;refine M0a (hv:=Z) (v:=.bool _) Z ?_;refine d0a ?_;refine g1a ⟨I0.tail,g0⟩ Z Z Z ?_;refine z1a Z Z ?_;refine D1a L2a Z (fun w1 hw=>hw.1.cells 4 Z) Z Z ?_;refine d0a ?_;refine b2a ⟨I0.tail,g0⟩ Z Z Z ?_;refine o3a Z Z Z ?_;refine n0a I0 X1b Z Z (s4a a2a 0 _ Z [] _ _ (y0.keep K6)) ?_;rintro B2 L2 ⟨i2,rfl,s1⟩ R0 D0;have r0:=g0.trans D0;replace K6:=K6.trans D0;replace b0:=b0.trans D0;replace c0:=c0.trans D0;replace j0:=j0.keep (D0.of_nil);obtain⟨V1,u2,y2,rfl,-⟩:=s1.cells;refine r0a ⟨Z,?_⟩;refine b2a ⟨R0.tail,r0⟩ Z Z Z ?_;refine o3a Z Z Z ?_;refine h0a R0 A6c Z Z (z7b (W1a a2a 0) _ _ s1 ((y0.keep K6).msk) (hN.keep (R0.keep0 [])) (by rw[a5a];exact Q1d) (by rw[a5a];exact u6c) (by rw[a5a,A7b];decide)) ?_;intro N2 x0 E0;have e0:=r0.trans E0;replace K6:=K6.trans E0;replace b0:=b0.trans E0;replace c0:=c0.trans E0;replace j0:=j0.keep (E0.of_nil);refine r0a ⟨Z,?_⟩;refine g1a ⟨x0.tail,e0⟩ Z Z Z ?_;refine z1a Z Z ?_;refine i4b Z Z Z (fun _=>?_) (fun h=>absurd (by rw[a5a,A7b];rfl) h);refine d0a ?_;refine g1a ⟨x0.tail,e0⟩ Z Z Z ?_;refine u3a Z (v:=.bool _) Z Z ?_;refine d0a ?_;refine g1a ⟨x0.tail,e0⟩ Z Z Z ?_;refine M0a (hv:=Z) (v:=.bool _) Z ?_;refine d0a ?_;refine g1a ⟨x0.tail,e0⟩ Z Z Z ?_;refine z1a Z Z ?_;refine D1a L2a Z (fun w1 hw=>hw.1.cells 4 Z) Z Z ?_;refine d0a ?_;refine g1a ⟨x0.tail,e0⟩ Z Z Z ?_;refine z1a Z Z ?_;refine D1a L2a Z (fun w1 hw=>hw.1.cells 4 Z) Z Z ?_;refine d0a ?_;refine b2a ⟨x0.tail,e0⟩ Z Z Z ?_;refine o3a Z Z Z ?_;refine n0a x0 t7b Z Z (U4c a2a 1 (by decide) [] _ _ (y0.keep K6)) ?_;rintro C2 P2 ⟨j2,rfl,n0⟩ n1 F0;have s0:=e0.trans F0;replace K6:=K6.trans F0;replace b0:=b0.trans F0;replace c0:=c0.trans F0;replace j0:=j0.keep (F0.of_nil);obtain⟨W1,v2,z2,rfl,-⟩:=n0.cells;refine r0a ⟨Z,?_⟩;refine b2a ⟨n1.tail,s0⟩ Z Z Z ?_;refine o3a Z Z Z ?_;refine n0a n1 X1b Z Z (s4a a2a 0 _ Z [] _ _ (y0.keep K6)) ?_;rintro D2 Q2 ⟨m2,rfl,t1⟩ o1 z0;have t0:=s0.trans z0;replace n0:=RdE.keep (z0.of_nil) _ _ n0;replace K6:=K6.trans z0;replace b0:=b0.trans z0;replace c0:=c0.trans z0;replace j0:=j0.keep (z0.of_nil);obtain⟨Y1,x2,A2,rfl,-⟩:=t1.cells;refine r0a ⟨Z,?_⟩;refine b2a ⟨o1.tail,t0⟩ Z Z Z ?_;refine o3a Z Z Z ?_;refine h0a o1 B8b Z Z (c3a (W9a (onE a2a 1) (W1a a2a 0) [] _ _ _ n0 t1) (O7c (D4b.trans a5a.symm))) ?_;intro R2 f0 G0;have a0:=t0.trans G0;replace n0:=RdE.keep (G0.of_nil) _ _ n0;replace K6:=K6.trans G0;replace b0:=b0.trans G0;replace c0:=c0.trans G0;replace j0:=j0.keep (G0.of_nil);refine r0a ⟨Z,?_⟩;refine g1a ⟨f0.tail,a0⟩ Z Z Z ?_;refine u3a Z (v:=.bool _) Z Z ?_;refine d0a ?_;refine g1a ⟨f0.tail,a0⟩ Z Z Z ?_;refine M0a (hv:=Z) (v:=.bool _) Z ?_;refine d0a ?_;refine g1a ⟨f0.tail,a0⟩ Z Z Z ?_;refine z1a Z Z ?_;refine M0a (hv:=Z) (v:=.int .i64 _) Z ?_;refine d0a ?_;refine g1a ⟨f0.tail,a0⟩ Z Z Z ?_;refine z1a Z Z ?_;refine U1c Z Z Z (fun z1=>?_) fun z1=>?_
  ·refine d0a ?_;refine g1a ⟨f0.tail,a0⟩ Z Z Z ?_;refine u3a Z (v:=.bool _) Z Z ?_;refine d0a ?_;refine g1a ⟨f0.tail,a0⟩ Z Z Z ?_;refine M0a (hv:=Z) (v:=.bool _) Z ?_;refine d0a ?_;refine g1a ⟨f0.tail,a0⟩ Z Z Z ?_;refine z1a Z Z ?_;refine M0a (hv:=Z) (v:=.int .i64 _) Z ?_;refine d0a ?_;refine g1a ⟨f0.tail,a0⟩ Z Z Z ?_;refine z1a Z Z ?_;refine U1c Z Z Z (fun A1=>?_) fun A1=>?_
   ·refine d0a ?_;refine g1a ⟨f0.tail,a0⟩ Z Z Z ?_;refine u3a Z (v:=.bool _) Z Z ?_;refine d0a ?_;refine g1a ⟨f0.tail,a0⟩ Z Z Z ?_;refine M0a (hv:=Z) (v:=.bool _) Z ?_;refine d0a ?_;refine g1a ⟨f0.tail,a0⟩ Z Z Z ?_;refine z1a Z Z ?_;refine J0a E0b Z Z ?_;refine d0a ?_;refine g1a ⟨f0.tail,a0⟩ Z Z Z ?_;refine z1a Z Z ?_;refine j0a U8a Z (fun w1 hw=>by exact hw.1.cell 2 Z Z) Z ?_;refine d0a ?_;refine g1a ⟨f0.tail,a0⟩ Z Z Z ?_;refine z1a Z Z ?_;refine B1a I4a (vs:=[(0,.int .i64 _),(1,.int .i64 _)]) (cs:=[_,_]) Z Z Z Z ?_;refine d0a ?_;refine g1a ⟨f0.tail,a0⟩ Z Z Z ?_;refine z1a Z Z ?_;refine B1a I4a (vs:=[(0,.int .i64 _),(1,.int .i64 _)]) (cs:=[_,_]) Z Z Z Z ?_;refine d0a ?_;refine g1a ⟨f0.tail,a0⟩ Z Z Z ?_;refine z1a Z Z ?_;refine B1a I4a (vs:=[(0,.int .i64 _),(1,.int .i64 _)]) (cs:=[_,_]) Z Z Z Z ?_;refine d0a ?_;refine b2a ⟨f0.tail,a0⟩ Z Z Z ?_;refine o3a Z Z Z ?_;refine m0a f0 M3a (vs:=[.agg _,.agg _,.agg _]) (cs:=[_,_,_,_,_,_]) Z Z Z Z Z Z ?_;intro p2 T2 U0 H0 a2;have u0:=a0.trans H0;replace n0:=RdE.keep (H0.of_nil) _ _ n0;replace K6:=K6.trans H0;replace b0:=b0.trans H0;replace c0:=c0.trans H0;replace j0:=j0.keep (H0.of_nil);refine r0a ⟨Z,?_⟩;refine b2a ⟨U0.tail.tail,u0⟩ Z Z Z ?_;refine o3a Z Z Z ?_;refine h0a U0 K1b Z Z (c3a (m3a [] _ _ _ _ [(0,0),(0,1),(1,1)] (Y0.keep b0) (G2d (c:=[_,_]) (c2:=[_,_]) (c3:=[_,_]) (U0.cells 0 Z) Z Z Z ⟨Z,i0,i0⟩ ⟨Z,i0,i1⟩ ⟨Z,i1,i1⟩)) (decide_eq_true Z)) ?_;intro U2 o0 L0;have d0:=u0.trans L0;replace n0:=RdE.keep (L0.of_nil) _ _ n0;replace K6:=K6.trans L0;replace b0:=b0.trans L0;replace c0:=c0.trans L0;replace j0:=j0.keep (L0.of_nil);refine r0a ⟨Z,?_⟩;refine g1a ⟨o0.tail.tail,d0⟩ Z Z Z ?_;refine u3a Z (v:=.bool _) Z Z ?_;refine d0a ?_;refine g1a ⟨o0.tail.tail,d0⟩ Z Z Z ?_;refine M0a (hv:=Z) (v:=.bool _) Z ?_;refine d0a ?_;refine g1a ⟨o0.tail.tail,d0⟩ Z Z Z ?_;refine z1a Z Z ?_;refine J0a E0b Z Z ?_;refine d0a ?_;refine g1a ⟨o0.tail.tail,d0⟩ Z Z Z ?_;refine z1a Z Z ?_;refine j0a U8a Z (fun w1 hw=>by exact hw.1.cell 0 Z Z) Z ?_;refine d0a ?_;refine g1a ⟨o0.tail.tail,d0⟩ Z Z Z ?_;refine z1a Z Z ?_;refine B1a I4a (vs:=[(0,.int .i64 _),(1,.int .i64 _)]) (cs:=[_,_]) Z Z Z Z ?_;refine d0a ?_;refine g1a ⟨o0.tail.tail,d0⟩ Z Z Z ?_;refine z1a Z Z ?_;refine B1a I4a (vs:=[(0,.int .i64 _),(1,.int .i64 _)]) (cs:=[_,_]) Z Z Z Z ?_;refine d0a ?_;refine b2a ⟨o0.tail.tail,d0⟩ Z Z Z ?_;refine o3a Z Z Z ?_;refine m0a o0 M3a (vs:=[.agg _,.agg _]) (cs:=[_,_,_,_]) Z Z Z Z Z Z ?_;intro q2 V2 V0 N0 b2;have v0:=d0.trans N0;replace n0:=RdE.keep (N0.of_nil) _ _ n0;replace K6:=K6.trans N0;replace b0:=b0.trans N0;replace c0:=c0.trans N0;replace j0:=j0.keep (N0.of_nil);refine r0a ⟨Z,?_⟩;refine b2a ⟨V0.tail.tail.tail,v0⟩ Z Z Z ?_;refine o3a Z Z Z ?_;refine h0a V0 K1b Z Z (c3a (m3a [] _ _ _ _ [(0,0),(1,1)] (Z0.keep c0) (r3b (c:=[_,_]) (c2:=[_,_]) (V0.cells 0 Z) Z Z ⟨Z,i0,i0⟩ ⟨Z,i1,i1⟩)) (decide_eq_true Z)) ?_;intro W2 J0 P0;have m0:=v0.trans P0;replace n0:=RdE.keep (P0.of_nil) _ _ n0;replace K6:=K6.trans P0;replace b0:=b0.trans P0;replace c0:=c0.trans P0;replace j0:=j0.keep (P0.of_nil);refine r0a ⟨Z,?_⟩;refine g1a ⟨J0.tail.tail.tail,m0⟩ Z Z Z ?_;refine u3a Z (v:=.bool _) Z Z ?_;refine d0a ?_;refine g1a ⟨J0.tail.tail.tail,m0⟩ Z Z Z ?_;refine G3a (v:=.bool _) Z Z ?_;refine d0a ?_;refine b3a ⟨J0.tail.tail.tail,m0⟩ ?_;refine fR0 Z U (s0a Z ?_);exact⟨Z,J0.fin⟩
   exfalso;omega
  exfalso;omega
 refine b2a ⟨O0,A0⟩ Z Z Z ?_;refine m0a O0 M3a (vs:=[.agg _,.agg _]) (cs:=[_,_,_,_]) Z Z Z Z Z Z ?_;intro o2 J2 d1 B0 Z1;have q0:=A0.trans B0;replace K6:=K6.trans B0;replace b0:=b0.trans B0;replace c0:=c0.trans B0;refine r0a ⟨Z,?_⟩;refine b2a ⟨d1.tail,q0⟩ Z Z Z ?_;refine n0a d1 v5c Z Z (u1b a2a [] _ _ (y0.keep K6)) ?_;rintro v20 I2 ⟨s2,j0,a1,X0,-⟩ c1 K0;have p0:=q0.trans K0;replace K6:=K6.trans K0;replace b0:=b0.trans K0;replace c0:=c0.trans K0;obtain rfl:=u7b a1 X0;obtain⟨U1,t2,h2,rfl⟩:=j0.form;refine r0a ⟨Z,?_⟩;refine b2a ⟨c1.tail,p0⟩ Z Z Z ?_;refine h0a c1 K1b Z Z (c3a (m3a [] _ _ _ _ [(0,1),(1,0)] j0 (r3b (c:=[_,_]) (c2:=[_,_]) (c1.cells 0 Z) Z Z ⟨Z,i0,i1⟩ ⟨Z,i1,i0⟩)) (decide_eq_true Z)) ?_;intro K2 I0 C0;have g0:=p0.trans C0;replace K6:=K6.trans C0;replace b0:=b0.trans C0;replace c0:=c0.trans C0;refine r0a ⟨Z,?_⟩;refine g1a ⟨I0.tail,g0⟩ Z Z Z ?_;refine M0a (hv:=Z) (v:=.bool _) Z ?_;refine d0a ?_;refine g1a ⟨I0.tail,g0⟩ Z Z Z ?_;refine z1a Z Z ?_;refine D1a L2a Z (fun w1 hw=>hw.1.cells 4 Z) Z Z ?_;refine d0a ?_;refine b2a ⟨I0.tail,g0⟩ Z Z Z ?_;refine o3a Z Z Z ?_;refine n0a I0 X1b Z Z (s4a a2a 0 _ Z [] _ _ (y0.keep K6)) ?_;rintro B2 L2 ⟨i2,rfl,s1⟩ R0 D0;have r0:=g0.trans D0;replace K6:=K6.trans D0;replace b0:=b0.trans D0;replace c0:=c0.trans D0;obtain⟨V1,u2,y2,rfl,-⟩:=s1.cells;refine r0a ⟨Z,?_⟩;refine b2a ⟨R0.tail,r0⟩ Z Z Z ?_;refine o3a Z Z Z ?_;refine h0a R0 A6c Z Z (z7b (W1a a2a 0) _ _ s1 ((y0.keep K6).msk) (hN.keep (R0.keep0 [])) (by rw[a5a];exact Q1d) (by rw[a5a];exact u6c) (by rw[a5a,A7b];decide)) ?_;intro N2 x0 E0;have e0:=r0.trans E0;replace K6:=K6.trans E0;replace b0:=b0.trans E0;replace c0:=c0.trans E0;refine r0a ⟨Z,?_⟩;refine g1a ⟨x0.tail,e0⟩ Z Z Z ?_;refine z1a Z Z ?_;refine i4b Z Z Z (fun _=>?_) (fun h=>absurd (by rw[a5a,A7b];rfl) h);refine d0a ?_;refine g1a ⟨x0.tail,e0⟩ Z Z Z ?_;refine u3a Z (v:=.bool _) Z Z ?_;refine d0a ?_;refine g1a ⟨x0.tail,e0⟩ Z Z Z ?_;refine M0a (hv:=Z) (v:=.bool _) Z ?_;refine d0a ?_;refine g1a ⟨x0.tail,e0⟩ Z Z Z ?_;refine z1a Z Z ?_;refine D1a L2a Z (fun w1 hw=>hw.1.cells 4 Z) Z Z ?_;refine d0a ?_;refine g1a ⟨x0.tail,e0⟩ Z Z Z ?_;refine z1a Z Z ?_;refine D1a L2a Z (fun w1 hw=>hw.1.cells 4 Z) Z Z ?_;refine d0a ?_;refine b2a ⟨x0.tail,e0⟩ Z Z Z ?_;refine o3a Z Z Z ?_;refine n0a x0 t7b Z Z (U4c a2a 1 (by decide) [] _ _ (y0.keep K6)) ?_;rintro C2 P2 ⟨j2,rfl,n0⟩ n1 F0;have s0:=e0.trans F0;replace K6:=K6.trans F0;replace b0:=b0.trans F0;replace c0:=c0.trans F0;obtain⟨W1,v2,z2,rfl,-⟩:=n0.cells;refine r0a ⟨Z,?_⟩;refine b2a ⟨n1.tail,s0⟩ Z Z Z ?_;refine o3a Z Z Z ?_;refine n0a n1 X1b Z Z (s4a a2a 0 _ Z [] _ _ (y0.keep K6)) ?_;rintro D2 Q2 ⟨m2,rfl,t1⟩ o1 z0;have t0:=s0.trans z0;replace n0:=RdE.keep (z0.of_nil) _ _ n0;replace b0:=b0.trans z0;replace c0:=c0.trans z0;obtain⟨Y1,x2,A2,rfl,-⟩:=t1.cells;refine r0a ⟨Z,?_⟩;refine b2a ⟨o1.tail,t0⟩ Z Z Z ?_;refine o3a Z Z Z ?_;refine h0a o1 B8b Z Z (c3a (W9a (onE a2a 1) (W1a a2a 0) [] _ _ _ n0 t1) (O7c (D4b.trans a5a.symm))) ?_;intro R2 f0 G0;have a0:=t0.trans G0;replace b0:=b0.trans G0;replace c0:=c0.trans G0;refine r0a ⟨Z,?_⟩;refine g1a ⟨f0.tail,a0⟩ Z Z Z ?_;refine u3a Z (v:=.bool _) Z Z ?_;refine d0a ?_;refine g1a ⟨f0.tail,a0⟩ Z Z Z ?_;refine M0a (hv:=Z) (v:=.bool _) Z ?_;refine d0a ?_;refine g1a ⟨f0.tail,a0⟩ Z Z Z ?_;refine z1a Z Z ?_;refine M0a (hv:=Z) (v:=.int .i64 _) Z ?_;refine d0a ?_;refine g1a ⟨f0.tail,a0⟩ Z Z Z ?_;refine z1a Z Z ?_;refine U1c Z Z Z (fun z1=>?_) fun z1=>?_
 ·refine d0a ?_;refine g1a ⟨f0.tail,a0⟩ Z Z Z ?_;refine u3a Z (v:=.bool _) Z Z ?_;refine d0a ?_;refine g1a ⟨f0.tail,a0⟩ Z Z Z ?_;refine M0a (hv:=Z) (v:=.bool _) Z ?_;refine d0a ?_;refine g1a ⟨f0.tail,a0⟩ Z Z Z ?_;refine z1a Z Z ?_;refine M0a (hv:=Z) (v:=.int .i64 _) Z ?_;refine d0a ?_;refine g1a ⟨f0.tail,a0⟩ Z Z Z ?_;refine z1a Z Z ?_;refine U1c Z Z Z (fun A1=>?_) fun A1=>?_
  ·refine d0a ?_;refine g1a ⟨f0.tail,a0⟩ Z Z Z ?_;refine u3a Z (v:=.bool _) Z Z ?_;refine d0a ?_;refine g1a ⟨f0.tail,a0⟩ Z Z Z ?_;refine M0a (hv:=Z) (v:=.bool _) Z ?_;refine d0a ?_;refine g1a ⟨f0.tail,a0⟩ Z Z Z ?_;refine z1a Z Z ?_;refine J0a E0b Z Z ?_;refine d0a ?_;refine g1a ⟨f0.tail,a0⟩ Z Z Z ?_;refine z1a Z Z ?_;refine j0a U8a Z (fun w1 hw=>by exact hw.1.cell 2 Z Z) Z ?_;refine d0a ?_;refine g1a ⟨f0.tail,a0⟩ Z Z Z ?_;refine z1a Z Z ?_;refine B1a I4a (vs:=[(0,.int .i64 _),(1,.int .i64 _)]) (cs:=[_,_]) Z Z Z Z ?_;refine d0a ?_;refine g1a ⟨f0.tail,a0⟩ Z Z Z ?_;refine z1a Z Z ?_;refine B1a I4a (vs:=[(0,.int .i64 _),(1,.int .i64 _)]) (cs:=[_,_]) Z Z Z Z ?_;refine d0a ?_;refine g1a ⟨f0.tail,a0⟩ Z Z Z ?_;refine z1a Z Z ?_;refine B1a I4a (vs:=[(0,.int .i64 _),(1,.int .i64 _)]) (cs:=[_,_]) Z Z Z Z ?_;refine d0a ?_;refine b2a ⟨f0.tail,a0⟩ Z Z Z ?_;refine o3a Z Z Z ?_;refine m0a f0 M3a (vs:=[.agg _,.agg _,.agg _]) (cs:=[_,_,_,_,_,_]) Z Z Z Z Z Z ?_;intro p2 T2 U0 H0 a2;have u0:=a0.trans H0;replace b0:=b0.trans H0;replace c0:=c0.trans H0;refine r0a ⟨Z,?_⟩;refine b2a ⟨U0.tail.tail,u0⟩ Z Z Z ?_;refine o3a Z Z Z ?_;refine h0a U0 K1b Z Z (c3a (m3a [] _ _ _ _ [(0,0),(0,1),(1,1)] (Y0.keep b0) (G2d (c:=[_,_]) (c2:=[_,_]) (c3:=[_,_]) (U0.cells 0 Z) Z Z Z ⟨Z,i0,i0⟩ ⟨Z,i0,i1⟩ ⟨Z,i1,i1⟩)) (decide_eq_true Z)) ?_;intro U2 o0 L0;have d0:=u0.trans L0;replace c0:=c0.trans L0;refine r0a ⟨Z,?_⟩;refine g1a ⟨o0.tail.tail,d0⟩ Z Z Z ?_;refine u3a Z (v:=.bool _) Z Z ?_;refine d0a ?_;refine g1a ⟨o0.tail.tail,d0⟩ Z Z Z ?_;refine M0a (hv:=Z) (v:=.bool _) Z ?_;refine d0a ?_;refine g1a ⟨o0.tail.tail,d0⟩ Z Z Z ?_;refine z1a Z Z ?_;refine J0a E0b Z Z ?_;refine d0a ?_;refine g1a ⟨o0.tail.tail,d0⟩ Z Z Z ?_;refine z1a Z Z ?_;refine j0a U8a Z (fun w1 hw=>by exact hw.1.cell 0 Z Z) Z ?_;refine d0a ?_;refine g1a ⟨o0.tail.tail,d0⟩ Z Z Z ?_;refine z1a Z Z ?_;refine B1a I4a (vs:=[(0,.int .i64 _),(1,.int .i64 _)]) (cs:=[_,_]) Z Z Z Z ?_;refine d0a ?_;refine g1a ⟨o0.tail.tail,d0⟩ Z Z Z ?_;refine z1a Z Z ?_;refine B1a I4a (vs:=[(0,.int .i64 _),(1,.int .i64 _)]) (cs:=[_,_]) Z Z Z Z ?_;refine d0a ?_;refine b2a ⟨o0.tail.tail,d0⟩ Z Z Z ?_;refine o3a Z Z Z ?_;refine m0a o0 M3a (vs:=[.agg _,.agg _]) (cs:=[_,_,_,_]) Z Z Z Z Z Z ?_;intro q2 V2 V0 N0 b2;have v0:=d0.trans N0;replace c0:=c0.trans N0;refine r0a ⟨Z,?_⟩;refine b2a ⟨V0.tail.tail.tail,v0⟩ Z Z Z ?_;refine o3a Z Z Z ?_;refine h0a V0 K1b Z Z (c3a (m3a [] _ _ _ _ [(0,0),(1,1)] (Z0.keep c0) (r3b (c:=[_,_]) (c2:=[_,_]) (V0.cells 0 Z) Z Z ⟨Z,i0,i0⟩ ⟨Z,i1,i1⟩)) (decide_eq_true Z)) ?_;intro W2 J0 P0;have m0:=v0.trans P0;refine r0a ⟨Z,?_⟩;refine g1a ⟨J0.tail.tail.tail,m0⟩ Z Z Z ?_;refine u3a Z (v:=.bool _) Z Z ?_;refine d0a ?_;refine g1a ⟨J0.tail.tail.tail,m0⟩ Z Z Z ?_;refine G3a (v:=.bool _) Z Z ?_;refine d0a ?_;refine b3a ⟨J0.tail.tail.tail,m0⟩ ?_;refine fR0 Z U (s0a Z ?_);exact⟨Z,J0.fin⟩
  exfalso;omega
 exfalso;omega
def N9a(C:List Int)(n:Nat):Prop:=C.Pairwise (·<·)∧∀c∈C,0≤c∧c<n
theorem N9a.tail{c:Int}{C:List Int}{n:Nat}(h:N9a (c::C) n):N9a C n:=⟨(List.pairwise_cons.1 h.1).2,fun x hx=>h.2 x (List.mem_cons_of_mem _ hx)⟩
theorem N9a.ne{c:Int}{C:List Int}{n:Nat}(h:N9a (c::C) n):∀x∈C,x.toNat≠c.toNat:=fun x hx=>by
 have h1:=(List.pairwise_cons.1 h.1).1 x hx;have h2:=h.2 c (by simp);omega
theorem E0c(x:W0a)(M:List Nat)(w0:World)(ts:List Value)(hT:R0a M w0 ts x):
 C0a prog 50 #[.agg ts.toArray] w0 fun v w'=>(∃b,v=.bool b∧(b=true→True))∧Below w0.heap.size w0 w':=by
 obtain⟨Aa,na,ca,Am,nm,cm,As,ns,cn,Al,nl,cl,rfl,-,u1,_,e0,S0,_⟩:=R0a.open_ hT;have S:=St.refl w0;refine a0a func50 Z ntmps50 Z ?_;refine wO0 Z U (p0a S Z ?_);intro g1 w1 S1 X1 G1;refine lC0 Z U (wL (fun μk D ε w=>D=[]∧∃k:Nat,(k+μk=(x.steps.length))∧St [] w0 w [(some g1,64,[.string x.name,.int .i64 x.points,.slice Aa na ca,.slice Am nm cm,.slice As ns cn,.slice Al nl cl,.bool x.asleep])]∧Sl ε [(1,.pointer (some ⟨g1,0,none⟩)),(3,.int .i64 k)]) (μ:=(x.steps.length)) ⟨Z,0,by omega,S1,Z⟩ ?_);rintro μk D ε w ⟨rfl,k,hk,S,eZ⟩;refine wK eZ (wB S.k [.o 0] Z ⟨Z,U⟩ (fun i1=>?_) fun i1=>?_)
 ·obtain⟨s,X0,x1,_,R0,i0,_,_,v0,F0⟩:=RdS.get (e0) (k) (by omega);obtain⟨_,_,_,_,_,_,rfl,⟨_,_⟩,u0,_⟩:=d2a.open_ F0;refine lO (S.k.a v0) [.o 0,.x X0 x1,.f 0 3] Z ⟨Z,⟨i0,by omega⟩,Z,U⟩ (y0a S b0b Z Z (F5a s.guard M _ _ _ (RdE.keep (S.keep0 M) _ _ u0)) (fun j1 F1 b0 T0=>?_) (fun j1 F1 b0 T0=>?_))
  ·obtain⟨_,Y0,y1,_,N0,j0,_,_,x0,G0⟩:=RdS.get (e0) (k) (by omega);obtain rfl:=Option.some.inj (R0.symm.trans N0);obtain⟨_,_,_,_,_,_,rfl,⟨_,_⟩,_⟩:=d2a.open_ G0;refine lB (b0.k.a x0) [.o 0,.x Y0 y1,.f 0 7] Z ⟨Z,⟨j0,by omega⟩,Z,U⟩ (fun m1=>?_) fun m1=>?_
   ·exact lT Z U Z ⟨⟨_,Z,fun _=>trivial⟩,b0.fin⟩
   refine lC0 Z U (wL (fun μj D ε w=>D=[]∧∃j:Nat,(j+μj=(s.set.length))∧St [] w0 w [(some g1,64,[.string x.name,.int .i64 x.points,.slice Aa na ca,.slice Am nm cm,.slice As ns cn,.slice Al nl cl,.bool x.asleep])]∧Sl ε [(1,.pointer (some ⟨g1,0,none⟩)),(3,.int .i64 k),(4,.int .i64 j)]) (μ:=(s.set.length)) ⟨Z,0,by omega,b0,Z⟩ ?_);rintro μj D ε w ⟨rfl,j,_,S,eZ⟩;refine wK eZ ?_;obtain⟨_,Z0,z1,_,O0,m0,_,_,y0,H0⟩:=RdS.get (e0) (k) (by omega);obtain rfl:=Option.some.inj (R0.symm.trans O0);obtain⟨_,_,_,_,_,_,rfl,⟨_,_⟩,_⟩:=d2a.open_ H0;refine wB (S.k.a y0) [.o 0,.x Z0 z1,.f 0 7] Z ⟨Z,⟨m0,by omega⟩,Z,U⟩ (fun n1=>?_) fun n1=>?_
   ·obtain⟨_,a1,A1,_,P0,n0,_,_,z0,I0⟩:=RdS.get (e0) (k) (by omega);obtain rfl:=Option.some.inj (R0.symm.trans P0);obtain⟨_,_,_,_,_,_,rfl,⟨_,_⟩,_,a0,_⟩:=d2a.open_ I0;obtain⟨a,b1,B1,_,_,o0,_,_,A0,J0⟩:=RdS.get (a0) (j) (by omega);obtain⟨_,_,_,rfl,_,s0⟩:=N0a.open_ J0;refine lO ((S.k.a A0).a z0) [.o 0,.x a1 A1,.f 0 7,.x b1 B1,.f 1 1] Z ⟨Z,⟨o0,by omega⟩,Z,⟨n0,by omega⟩,Z,U⟩ (y0a S b0b Z Z (F5a a.to M _ _ _ (RdE.keep (S.keep0 M) _ _ s0)) (fun o1 H1 f0 U0=>?_) (fun o1 H1 f0 U0=>?_))
    ·refine lP0 Z ⟨by omega,U⟩ ⟨μj-1,by omega,Z,(j+1),(by omega),f0,Z⟩
    exact lT Z U Z ⟨⟨_,Z,fun _=>trivial⟩,f0.fin⟩
   refine lP0 Z ⟨by omega,U⟩ ⟨μk-1,by omega,Z,(k+1),(by omega),S,Z⟩
  exact lT Z U Z ⟨⟨_,Z,fun _=>trivial⟩,b0.fin⟩
 refine lC0 Z U (wL (fun μk D ε w=>D=[]∧∃k:Nat,(k+μk=(x.asserts.length))∧St [] w0 w [(some g1,64,[.string x.name,.int .i64 x.points,.slice Aa na ca,.slice Am nm cm,.slice As ns cn,.slice Al nl cl,.bool x.asleep])]∧Sl ε [(1,.pointer (some ⟨g1,0,none⟩)),(5,.int .i64 k)]) (μ:=(x.asserts.length)) ⟨Z,0,by omega,S,Z⟩ ?_);rintro μk D ε w ⟨rfl,k,hk,S,eZ⟩;refine wK eZ (wB S.k [.o 0] Z ⟨Z,U⟩ (fun p1=>?_) fun p1=>?_)
 ·obtain⟨e,c1,C1,_,_,p0,_,E0,B0,d0⟩:=RdS.get (u1) (k) (by omega);obtain⟨_,_,_,rfl,_⟩:=RdE.cells d0;refine lO (S.k.a B0) [.o 0,.x c1 C1,.v 0] Z ⟨⟨Z,E0⟩,⟨p0,by omega⟩,Z,U⟩ (y0a S b0b Z Z (F5a e M _ _ _ (RdE.keep (S.keep0 M) _ _ d0)) (fun q1 I1 g0 V0=>?_) (fun q1 I1 g0 V0=>?_))
  ·refine lP0 Z ⟨by omega,U⟩ ⟨μk-1,by omega,Z,(k+1),(by omega),g0,Z⟩
  exact lT Z U Z ⟨⟨_,Z,fun _=>trivial⟩,g0.fin⟩
 refine lC0 Z U (wL (fun μk D ε w=>D=[]∧∃k:Nat,(k+μk=(x.loops.length))∧St [] w0 w [(some g1,64,[.string x.name,.int .i64 x.points,.slice Aa na ca,.slice Am nm cm,.slice As ns cn,.slice Al nl cl,.bool x.asleep])]∧Sl ε [(1,.pointer (some ⟨g1,0,none⟩)),(6,.int .i64 k)]) (μ:=(x.loops.length)) ⟨Z,0,by omega,S,Z⟩ ?_);rintro μk D ε w ⟨rfl,k,hk,S,eZ⟩;refine wK eZ (wB S.k [.o 0] Z ⟨Z,U⟩ (fun r1=>?_) fun r1=>?_)
 ·obtain⟨o,d1,D1,_,v1,q0,_,_,C0,K0⟩:=RdS.get (S0) (k) (by omega);obtain⟨_,_,_,_,_,_,rfl,_,_,t0,_⟩:=s5a.open_ K0;refine lO (S.k.a C0) [.o 0,.x d1 D1,.f 0 2] Z ⟨Z,⟨q0,by omega⟩,Z,U⟩ (y0a S b0b Z Z (F5a o.variant M _ _ _ (RdE.keep (S.keep0 M) _ _ t0)) (fun s1 J1 c0 W0=>?_) (fun s1 J1 c0 W0=>?_))
  ·obtain⟨_,f1,E1,_,Q0,r0,_,_,D0,L0⟩:=RdS.get (S0) (k) (by omega);obtain rfl:=Option.some.inj (v1.symm.trans Q0);obtain⟨_,_,_,_,_,_,rfl,_⟩:=s5a.open_ L0;refine lB (c0.k.a D0) [.o 0,.x f1 E1,.f 0 1] Z ⟨Z,⟨r0,by omega⟩,Z,U⟩ (fun t1=>?_) fun t1=>?_
   ·exact lT Z U Z ⟨⟨_,Z,fun _=>trivial⟩,c0.fin⟩
   refine lP0 Z ⟨by omega,U⟩ ⟨μk-1,by omega,Z,(k+1),(by omega),c0,Z⟩
  exact lT Z U Z ⟨⟨_,Z,fun _=>trivial⟩,c0.fin⟩
 exact lT Z U Z ⟨⟨_,Z,fun _=>trivial⟩,S.fin⟩
theorem X4c(p:k0a)(M:List Nat)(w0:World)(cs:List Value)(hP:Y0a M w0 p cs):
 C0a prog 11 #[.agg cs.toArray] w0 fun v w'=>(∃b,v=.bool b∧(b=true→True))∧Below w0.heap.size w0 w':=by
 obtain⟨Ac,nc,cc,Am,nm,cm,Al,nl,cl,At,nt,ct,rfl,_,D0,o1,p1,_⟩:=hP.open_;have S:=St.refl w0;refine a0a func11 Z ntmps11 Z ?_;refine wO0 Z U (p0a S Z ?_);intro g1 w1 S1 X1 G1;refine lB S1.k [.o 0] Z ⟨Z,U⟩ (fun X0=>?_) fun X0=>?_
 ·exact lT Z U Z ⟨⟨_,Z,fun _=>trivial⟩,S1.fin⟩
 refine lB S1.k [.o 0] Z ⟨Z,U⟩ (fun Y0=>?_) fun Y0=>?_
 ·exact lT Z U Z ⟨⟨_,Z,fun _=>trivial⟩,S1.fin⟩
 refine lB S1.k [.o 0] Z ⟨Z,U⟩ (fun Z0=>?_) fun Z0=>?_
 ·exact lT Z U Z ⟨⟨_,Z,fun _=>trivial⟩,S1.fin⟩
 refine lB S1.k [.o 0] Z ⟨Z,U⟩ (fun a1=>?_) fun a1=>?_
 ·exact lT Z U Z ⟨⟨_,Z,fun _=>trivial⟩,S1.fin⟩
 refine lC0 Z U (wL (fun μk D ε w=>D=[]∧∃k:Nat,∃n:Int,(k+μk=(p.threads.length))∧(0≤n∧n≤24)∧St [] w0 w [(some g1,27,[.slice Ac nc cc,.slice Am nm cm,.slice Al nl cl,.slice At nt ct])]∧Sl ε [(1,.pointer (some ⟨g1,0,none⟩)),(3,.int .i64 n),(4,.int .i64 k)]) (μ:=(p.threads.length)) ⟨Z,0,0,by omega,by omega,S1,Z⟩ ?_);rintro μk D ε w ⟨rfl,k,n,hk,_,S,eZ⟩;refine wK eZ (wB S.k [.o 0] Z ⟨Z,U⟩ (fun b1=>?_) fun b1=>?_)
 ·obtain⟨th,U0,q1,_,_,z0,_,I0,F0,o0⟩:=RdS.get (p1) (k) (by omega);obtain⟨_,_,_,_,_,_,_,_,_,_,_,_,rfl,_⟩:=R0a.open_ o0;refine lO (S.k.a F0) [.o 0,.x U0 q1,.v 0] Z ⟨⟨Z,I0⟩,⟨z0,by omega⟩,Z,U⟩ (g0a S T0b Z Z ?_);intro g5 w5 S5 X5 G5;refine c0a (kk:=0) (vs:=[_,_,_,_,_,_,_]) S5 Y0b Z Z Z Z Z Z Z ?_;intro u1 a0 R0;dsimp only[i0a,List.set] at a0;refine lB a0.k [.o 0] Z ⟨by omega,Z,U⟩ (fun c1=>?_) fun c1=>?_
  ·exact lT Z U Z ⟨⟨_,Z,fun _=>trivial⟩,a0.fin⟩
  refine lB a0.k [.o 0] Z ⟨Z,U⟩ (fun d1=>?_) fun d1=>?_
  ·exact lT Z U Z ⟨⟨_,Z,fun _=>trivial⟩,a0.fin⟩
  refine lB a0.k [.o 0] Z ⟨Z,U⟩ (fun f1=>?_) fun f1=>?_
  ·exact lT Z U Z ⟨⟨_,Z,fun _=>trivial⟩,a0.fin⟩
  refine lB a0.k [.o 0] Z ⟨Z,U⟩ (fun i1=>?_) fun i1=>?_
  ·exact lT Z U Z ⟨⟨_,Z,fun _=>trivial⟩,a0.fin⟩
  refine lO a0.k [.w 0] Z ⟨⟨Z,Z⟩,U⟩ (Y2b a0 i1d Z Z (E0c th M _ _ (R0a.keep (a0.keep0 M) _ _ o0)) (fun y1 t1 r0 Q0=>?_) (fun t1 r0 Q0=>?_))
  ·refine lP0 Z ⟨by omega,U⟩ ⟨μk-1,by omega,Z,(k+1),(_),(by omega),(by omega),r0.tail,Z⟩
  exact lT Z U Z ⟨⟨_,Z,fun _=>trivial⟩,r0.fin⟩
 refine lC0 Z U (wL (fun μk D ε w=>D=[]∧∃k:Nat,(k+μk=(p.modules.length))∧St [] w0 w [(some g1,27,[.slice Ac nc cc,.slice Am nm cm,.slice Al nl cl,.slice At nt ct])]∧Sl ε [(1,.pointer (some ⟨g1,0,none⟩)),(6,.int .i64 k)]) (μ:=(p.modules.length)) ⟨Z,0,by omega,S,Z⟩ ?_);rintro μk D ε w ⟨rfl,k,hk,S,eZ⟩;refine wK eZ (wB S.k [.o 0] Z ⟨Z,U⟩ (fun j1=>?_) fun j1=>?_)
 ·obtain⟨mo,V0,r1,_,q0,A0,_,_,G0,J0⟩:=RdS.get (D0) (k) (by omega);obtain⟨_,_,_,_,_,_,_,_,_,rfl,E0,_⟩:=e1a.open_ J0;refine lO (S.k.a G0) [.o 0,.x V0 r1,.f 0 2] Z ⟨Z,⟨A0,by omega⟩,Z,U⟩ (y0a S b0b Z Z (F5a mo.rely M _ _ _ (RdE.keep (S.keep0 M) _ _ E0)) (fun m1 v1 c0 S0=>?_) (fun m1 v1 c0 S0=>?_))
  ·obtain⟨_,W0,s1,_,L0,B0,_,_,H0,K0⟩:=RdS.get (D0) (k) (by omega);obtain rfl:=Option.some.inj (q0.symm.trans L0);obtain⟨_,_,_,_,_,_,_,_,_,rfl,_,C0,_⟩:=e1a.open_ K0;refine lO (c0.k.a H0) [.o 0,.x W0 s1,.f 0 6] Z ⟨Z,⟨B0,by omega⟩,Z,U⟩ (y0a c0 b0b Z Z (F5a mo.guar M _ _ _ (RdE.keep (c0.keep0 M) _ _ C0)) (fun n1 x1 d0 T0=>?_) (fun n1 x1 d0 T0=>?_))
   ·obtain⟨_,t0,N0,_,p0,e0,_,_,i0,m0⟩:=RdS.get (D0) (k) (by omega);obtain rfl:=Option.some.inj (q0.symm.trans p0);obtain⟨_,_,_,_,_,_,_,_,_,rfl,_⟩:=e1a.open_ m0;refine lB (d0.k.a i0) [.o 0,.x t0 N0,.f 0 10] Z ⟨Z,⟨e0,by omega⟩,Z,U⟩ (fun v0=>?_) fun v0=>?_
    ·exact lT Z U Z ⟨⟨_,Z,fun _=>trivial⟩,d0.fin⟩
    refine lP0 Z ⟨by omega,U⟩ ⟨μk-1,by omega,Z,(k+1),(by omega),d0,Z⟩
   exact lT Z U Z ⟨⟨_,Z,fun _=>trivial⟩,d0.fin⟩
  exact lT Z U Z ⟨⟨_,Z,fun _=>trivial⟩,c0.fin⟩
 refine lC0 Z U (wL (fun μk D ε w=>D=[]∧∃k:Nat,(k+μk=(p.locks.length))∧St [] w0 w [(some g1,27,[.slice Ac nc cc,.slice Am nm cm,.slice Al nl cl,.slice At nt ct])]∧Sl ε [(1,.pointer (some ⟨g1,0,none⟩)),(7,.int .i64 k)]) (μ:=(p.locks.length)) ⟨Z,0,by omega,S,Z⟩ ?_);rintro μk D ε w ⟨rfl,k,hk,S,eZ⟩;refine wK eZ (wB S.k [.o 0] Z ⟨Z,U⟩ (fun x0=>?_) fun x0=>?_)
 ·obtain⟨lk,u0,O0,_,_,f0,_,_,j0,n0⟩:=RdS.get (o1) (k) (by omega);obtain⟨_,_,_,rfl,_,_,g0⟩:=n5a.open_ n0;refine lO (S.k.a j0) [.o 0,.x u0 O0,.f 0 1] Z ⟨Z,⟨f0,by omega⟩,Z,U⟩ (y0a S b0b Z Z (F5a lk.inv M _ _ _ (RdE.keep (S.keep0 M) _ _ g0)) (fun y0 P0 b0 s0=>?_) (fun y0 P0 b0 s0=>?_))
  ·refine lP0 Z ⟨by omega,U⟩ ⟨μk-1,by omega,Z,(k+1),(by omega),b0,Z⟩
  exact lT Z U Z ⟨⟨_,Z,fun _=>trivial⟩,b0.fin⟩
 exact lT Z U Z ⟨⟨_,Z,fun _=>trivial⟩,S.fin⟩
theorem y0c(p:k0a)(c:d1a)(M:List Nat)(w0:World)(cs xs:List Value)(hI:InP p M w0 cs)(hX:v1a M w0 c xs)(hf:e3b p c)(he:L7a c):
 C0a prog 82 #[.agg cs.toArray,.agg xs.toArray] w0 fun v w'=>v=.bool true∧Below w0.heap.size w0 w':=by
 obtain⟨Ac,nc,cc,Am,nm,cm,Al,nl,cl,At,nt,ct,rfl,_⟩:=hI.rd.open_;obtain⟨Xm,xm,ym,Xa,xa,ya,Xb,xb,yb,rfl,d0,p0,c0,_,_,i0,_⟩:=hX.open_;have f3:=hf.nbuf;have S:=St.refl w0;refine a0a func82 Z ntmps82 Z ?_;refine wO0 Z U (p0a S Z ?_);intro g2 w2 S2 X2 G2;refine p0a S2 Z ?_;intro g3 w3 S3 X3 G3;refine lO S3.k [.w 1,.o 0,.o 0] Z ⟨Z,Z,⟨Z,Z⟩,U⟩ (h0a S3 B0d Z Z (N2c p c M _ _ _ _ (hI.keep (S3.keep0 M)) (d0.keep (S3.keep0 M)) (p0.keep (S3.keep0 M)) hf) ?_);intro s0 g0 r0;refine lB g0.k [.o 0,.o 1] Z ⟨Z,Z,U⟩ (fun m0=>by exfalso;omega) fun m0=>?_;refine lC0 Z U (wL (fun μk D ε w=>D=[]∧∃k:Nat,(k+μk=(c.buf.length))∧St [] w0 w [(some g3,50,[.slice Xm xm ym,.slice Xa xa ya,.slice Xb xb yb]),(some g2,27,[.slice Ac nc cc,.slice Am nm cm,.slice Al nl cl,.slice At nt ct])]∧Sl ε [(3,.pointer (some ⟨g3,0,none⟩)),(5,.int .i64 k)]) (μ:=(c.buf.length)) ⟨Z,0,by omega,g0,Z⟩ ?_);rintro μk D ε w ⟨rfl,k,_,S,eZ⟩;refine wK eZ (wB S.k [.o 0] Z ⟨Z,U⟩ (fun n0=>?_) fun n0=>?_)
 ·obtain⟨b,j0,q0,_,i0,b0,_,_,e0,f0⟩:=RdS.get (c0) (k) (by omega);obtain⟨_,_,_,rfl,_,a0,_⟩:=z5b.open_ f0;refine lB (S.k.a e0) [.o 0,.x j0 q0,.f 0 0] Z ⟨Z,⟨b0,by omega⟩,Z,U⟩ (fun o0=>by have z:=he b (e0a i0);subst z;simp at a0;omega) (fun o0=>?_);refine lP0 Z ⟨by omega,U⟩ ⟨μk-1,by omega,Z,(k+1),(by omega),S,Z⟩
 exact lT Z U Z ⟨Z,S.fin⟩
theorem p4b(p:k0a)(c:d1a)(t i:Nat)(th:W0a)(s:G1a)(M:List Nat)(w0:World)(cs xs ss:List Value)(hI:InP p M w0 cs)(hX:v1a M w0 c xs)(hS:d2a M w0 ss s)(hf:e3b p c)(he:L7a c)(i0:p.threads[t]?=some th)(G0:th.steps[i]?=some s):
 C0a prog 83 #[.agg cs.toArray,.agg xs.toArray,.int .i64 t,.agg ss.toArray] w0 fun v w'=>v=.bool (H2a p 0 c t s)∧Below w0.heap.size w0 w':=by
 obtain⟨_,_,_,_,_,_,_,_,_,_,_,_,rfl,_⟩:=hI.rd.open_;obtain⟨_,_,_,_,_,_,_,_,_,rfl,g0,z0,_,_,c0,_⟩:=hX.open_;obtain⟨_,_,_,_,_,_,rfl,⟨_,_⟩,hG,_⟩:=hS.open_;have S:=St.refl w0;have f2:=hf.nat;have hp:=hI.ok;have ht:=F3a i0;have F0:=(hp.thread i0).steps s (e0a G0);have A0:6≤s.kind→0≤s.target∧s.target<p.threads.length:=fun h=>(F0.row.k6 h).1;refine a0a func83 Z ntmps83 Z ?_;refine wO0 Z U (p0a S Z ?_);intro g4 w4 S4 X4 G4;refine p0a S4 Z ?_;intro g5 w5 S5 X5 G5;refine p0a S5 Z ?_;intro g7 w7 S7 X7 G7;refine lC0 Z U (x0a b0a [0,1,2,3,4,5,6,7,8,9,10,11,12,13,14,15,16,17] [] [] Z (Cl _ _ _ _) (Cl.start S7) ?_);obtain⟨a,D0,H0,_,c0,r0,_,_,t0,v0⟩:=RdS.get (z0) (t) (by omega);obtain⟨rfl,_⟩:=id v0;refine qB (S7.q.a t0) [.o 1,.x D0 H0,.f 0 0,.o 0] Z ⟨Z,Z,⟨r0,by omega⟩,Z,U⟩ (fun b0=>?_) fun b0=>?_
 ·refine qD Z U ?_;rintro B0 ⟨a0,y0⟩;refine lT Z U Z ⟨congrArg Value.bool ?_,a0.fin⟩;rw[D4a he,getD_some c0];simp[b0];done
 refine qO S7.q [.o 0,.o 1,.o 1] Z ⟨Z,Z,Z,U⟩ (k1a D5c Z Z (fun w1 S1 X1=>N4b s.guard M _ _ _ _ c.mem c.mem (RdE.keep (S1.keep0 M) _ _ hG) (g0.keep (S1.keep0 M)) (g0.keep (S1.keep0 M))) ?_);refine qB0 Z U (fun d0=>?_) fun d0=>?_
 ·refine qD Z U ?_;rintro B0 ⟨a0,y0⟩;refine lT Z U Z ⟨congrArg Value.bool ?_,a0.fin⟩;rw[D4a he,getD_some c0];simp[b0,d0];done
 refine qD Z U ?_;rintro B0 ⟨a0,y0⟩;refine lB a0.k [.o 0] Z ⟨Z,U⟩ (fun j0=>?_) fun j0=>?_
 ·have q6:=A0 (by omega);obtain⟨b,E0,I0,_,f0,s0,_,_,u0,x0⟩:=RdS.get (z0) (s.target.toNat) (by omega);obtain⟨rfl,_⟩:=id x0;refine lB (a0.k.a u0) [.o 1,.o 0,.x E0 I0,.f 0 0] Z ⟨Z,⟨s0,by omega⟩,Z,Z,U⟩ (fun p0=>?_) fun p0=>?_
  ·refine lT Z U Z ⟨congrArg Value.bool ?_,a0.fin⟩;rw[D4a he,getD_some c0];simp[b0,d0,j0,f0,p0];done
  refine lT Z U Z ⟨congrArg Value.bool ?_,a0.fin⟩;rw[D4a he,getD_some c0];simp[b0,d0,j0,f0,p0];done
 refine lB a0.k [.o 0] Z ⟨Z,U⟩ (fun m0=>?_) fun m0=>?_
 ·refine lT Z U Z ⟨congrArg Value.bool ?_,a0.fin⟩;rw[D4a he,getD_some c0];simp[b0,d0,j0,m0];done
 refine lO a0.k [.w 2,.w 1,.o 0] Z ⟨Z,⟨Z,Z⟩,⟨Z,Z⟩,U⟩ ?_;have q6:=A0 (by omega);obtain⟨u,n0⟩:∃u,p.threads[s.target.toNat]?=some u:=⟨p.threads[s.target.toNat]'(by omega),List.getElem?_eq_getElem _⟩;obtain⟨b,f0⟩:∃b,c.at_[s.target.toNat]?=some b:=⟨c.at_[s.target.toNat]'(by omega),List.getElem?_eq_getElem _⟩;refine y0a a0 W6c Z Z ((by have z:=n3c p c s.target.toNat u b M _ _ _ (hI.keep (a0.keep0 M)).rd (hX.keep (a0.keep0 M)) n0 f0 (hp.thread n0).points;rw[show((s.target.toNat:Nat):Int)=s.target by omega] at z;exact z)) (fun q0 J0 o0 C0=>?_) (fun q0 J0 o0 C0=>?_)
 ·refine lT Z U Z ⟨congrArg Value.bool ?_,o0.fin⟩;rw[D4a he,getD_some c0];have e0:=of_decide_eq_true q0;simp[b0,d0,m0,f0,n0,e0];done
 refine lT Z U Z ⟨congrArg Value.bool ?_,o0.fin⟩;rw[D4a he,getD_some c0];have e0:=of_decide_eq_false q0;simp[b0,d0,m0,f0,n0,e0];done
theorem F4a(p:k0a)(c:d1a)(M Mx:List Nat)(w0:World)(cs xs:List Value)(hI:InP p M w0 cs)(hX:v1a M w0 c xs)(hf:e3b p c)(he:L7a c)(L0:∀g∈Mx,g<w0.heap.size):
 C0a prog 27 #[.agg cs.toArray,.agg xs.toArray] w0 fun v w'=>e9c Mx w' v (T1a p 0 c)∧Below w0.heap.size w0 w':=by
 obtain⟨Ac,nc,cc,Am,nm,cm,Al,nl,cl,At,nt,ct,rfl,_,_,_,C0,_⟩:=hI.rd.open_;obtain⟨Xm,xm,ym,Xa,xa,ya,Xb,xb,yb,rfl,_⟩:=hX.open_;have hp:=hI.ok;have n2:=hp.nthreads;have S:=(St.refl w0).nilEnt 57;refine a0a func27 Z ntmps27 Z ?_;refine wO0 Z U (p0a S Z ?_);intro g2 w2 S2 X2 G2;refine p0a S2 Z ?_;intro g3 w3 S3 X3 G3;refine lO S3.k [.w 1] Z ⟨⟨Z,Z⟩,U⟩ (h0a S3 C1b Z Z (H4a p M _ _ (hI.keep (S3.keep0 M))) ?_);intro w9 S9 X9;refine lO S9.k [.w 1,.w 0] Z ⟨⟨Z,Z⟩,⟨Z,Z⟩,U⟩ (h0a S9 C6c Z Z (y0c p c M _ _ _ (hI.keep (S9.keep0 M)) (hX.keep (S9.keep0 M)) hf he) ?_);intro Y0 D0 T0;refine lC0 Z U (wL (fun μk D ε w=>D=[]∧∃k:Nat,∃G:Option Nat,∃i0:List Value,∃v:Value,(k+μk=(p.threads.length))∧(e2a (fun _ _=>m7a) 3 [] w0 G i0 v (K3a p 0 c k))∧St [] w0 w [(some g3,50,[.slice Xm xm ym,.slice Xa xa ya,.slice Xb xb yb]),(some g2,27,[.slice Ac nc cc,.slice Am nm cm,.slice Al nl cl,.slice At nt ct]),(G,57,i0)]∧Sl ε [(2,.pointer (some ⟨g2,0,none⟩)),(3,.pointer (some ⟨g3,0,none⟩)),(5,v),(6,.int .i64 k)]) (μ:=(p.threads.length)) ⟨Z,0,none,[],.slice none 0 0,by omega,e2a.nil,D0,Z⟩ ?_);rintro μk D ε w ⟨rfl,k,G,i0,v,_,d0,S,eZ⟩;refine wK eZ (wB S.k [.o 1] Z ⟨Z,U⟩ (fun J0=>?_) fun J0=>?_)
 ·obtain⟨th,a0⟩:∃th,p.threads[k]?=some th:=⟨p.threads[k]'(by omega),List.getElem?_eq_getElem _⟩;have X0:=(hp.thread a0).nsteps;refine lC0 Z U (wL (fun μj D ε w=>D=[]∧∃j:Nat,∃G2:Option Nat,∃cs2:List Value,∃v2:Value,(j+μj=(th.steps.length))∧(e2a (fun _ _=>m7a) 3 [] w0 G2 cs2 v2 (K3a p 0 c k++d4a p 0 c k j))∧St [] w0 w [(some g3,50,[.slice Xm xm ym,.slice Xa xa ya,.slice Xb xb yb]),(some g2,27,[.slice Ac nc cc,.slice Am nm cm,.slice Al nl cl,.slice At nt ct]),(G2,57,cs2)]∧Sl ε [(2,.pointer (some ⟨g2,0,none⟩)),(3,.pointer (some ⟨g3,0,none⟩)),(5,v2),(6,.int .i64 k),(7,.int .i64 j)]) (μ:=(th.steps.length)) ⟨Z,0,G,i0,v,by omega,by simpa[d4a] using d0,S,Z⟩ ?_);rintro μj D ε w ⟨rfl,j,G2,cs2,v2,_,b0,S,eZ⟩;refine wK eZ ?_;obtain⟨_,F0,N0,_,x0,n0,_,_,q0,u0⟩:=RdS.get (C0) (k) (by omega);obtain rfl:=Option.some.inj (a0.symm.trans x0);obtain⟨_,_,_,_,_,_,_,_,_,_,_,_,rfl,_⟩:=R0a.open_ u0;refine wB (S.k.a q0) [.o 1,.x F0 N0,.f 0 4] Z ⟨Z,⟨n0,by omega⟩,Z,U⟩ (fun K0=>?_) fun K0=>?_
  ·refine lC0 Z U (x0a b0a [0,1,2,3,4,5,6,7,8,9,10,11,12] [] [] Z (Cl _ _ _ _) (Cl.start S) ?_);obtain⟨_,G0,O0,_,y0,o0,_,_,r0,v0⟩:=RdS.get (C0) (k) (by omega);obtain rfl:=Option.some.inj (a0.symm.trans y0);obtain⟨_,_,_,_,_,_,_,_,_,_,_,_,rfl,_,_,_,f0,_⟩:=R0a.open_ v0;obtain⟨s,H0,P0,_,z0,p0,_,t0,s0,g0⟩:=RdS.get (f0) (j) (by omega);obtain⟨_,_,_,_,_,_,rfl,⟨_,_⟩,_⟩:=d2a.open_ g0;refine qO ((S.q.a s0).a r0) [.w 1,.w 0,.o 1,.x G0 O0,.f 0 4,.x H0 P0,.v 1] Z ⟨⟨Z,t0⟩,⟨p0,by omega⟩,Z,⟨o0,by omega⟩,Z,⟨Z,Z⟩,⟨Z,Z⟩,U⟩ (M2a B2d Z Z (fun w1 S1 X1=>p4b p c k j th s M _ _ _ _ (hI.keep (S1.keep0 M)) (hX.keep (S1.keep0 M)) (d2a.keep (S1.keep0 M) _ _ g0) hf he a0 z0) (fun m0=>?_) fun m0=>?_)
   ·refine qD Z U ?_;rintro A0 ⟨c0,j0⟩;refine lOn 4 c0.k [] Z U (K0a Z ?_);refine lO0 Z U (G0a O0d (vs:=[(0,.int .i64 _),(1,.int .i64 _)]) (cs:=[_,_,_]) Z Z Z Z ?_);refine m0a c0 L6a (vs:=[.agg _]) (cs:=[_,_,_]) Z Z Z Z Z Z ?_;intro W0 Z0 B0 U0 R0;have l1:=E5a hp hf 0 k (by omega);have l2:=k0b p 0 c k j;refine r1a n1b (k:=3) (M2:=[]) (e1:=⟨k,j,0⟩) B0 L6a Z b0 Z Z (B0.cells 0 Z) (m7a.of (by unfold i64;omega) (by unfold i64;omega) (by unfold i64;omega)) (by rw[List.length_append];omega) Z ?_;intro v53 S0 I0 a1 E0 e0 V0 Q0;refine F0a Z ?_;refine lP0 Z ⟨by omega,U⟩ ⟨μj-1,by omega,Z,(j+1),(_),(_),(_),(by omega),?_,E0.tail,Z⟩;rw[F6b a0 z0 m0,←List.append_assoc];exact e0
   refine qD Z U ?_;rintro A0 ⟨c0,j0⟩;refine lP0 Z ⟨by omega,U⟩ ⟨μj-1,by omega,Z,(j+1),(_),(_),(_),(by omega),?_,c0,Z⟩;rw[O8b a0 z0 m0];exact b0
  refine lP0 Z ⟨by omega,U⟩ ⟨μk-1,by omega,Z,(k+1),(_),(_),(_),(by omega),?_,S,Z⟩;rw[N6a,L0b,C4a a0,he.getD,show V2b 0 c k ([]:List s1a).length=[] from rfl,List.append_nil,show th.steps.length=j by omega];exact b0
 refine lOn 7 S.k [] Z U (K0a Z ?_);refine F0a Z ?_;refine lR0 Z U (s0a Z ?_);obtain rfl:k=p.threads.length:=by omega
 have l1:=E5a hp hf 0 _ (Nat.le_refl _);rw[x2b] at l1 d0;exact⟨e2a.rd (M:=Mx) (w:=w) n1b d0 S (k:=2) Z (fun g hg hh=>by subst hg;have z:=S.new 2 Z;have z2:=L0 g hh;simp at z;omega) (by omega),S.fin⟩
section
variable {P:Program} {N:Nat} {ops:Array Oper} {C:World→Prop} {rest:List Oper} {K:Env→Prop} {e:Env} {d:Nat} {x:Operand} {t:TypeId} {p:String} {af:Array Edge} {kd k2:IntKind} {a:Int} {src dst:TypeId}
theorem L6c{ds:TypeDesc}(hs:P.underlying src=some ds)(ht:P.underlying dst=some (.int k2))(hx:ev e x=.int kd a)(hd:Nat.ble (d+1) N=true)(h:QL P N ops C rest K (upd e d (.int k2 (k2.wrap a)))):
 QL P N ops C (⟨some d,.convert src dst x,t,p,af,none⟩::rest) K e :=
 c2a Z Z hd (fun w _=>by simp[execOp,hx,convert,run_underlying hs,run_underlying ht,Conv.intToInt]) h
end
theorem R9a(p:k0a)(c:d1a)(x:y1a)(M:List Nat)(w0:World)(cs xs:List Value)(hI:InP p M w0 cs)(hX:v1a M w0 c xs)(hf:e3b p c)(he:L7a c)(hx:x∈T1a p 0 c):
 C0a prog 28 #[.agg cs.toArray,.agg xs.toArray,.agg #[.int .i64 x.thread,.int .i64 x.step,.int .i64 x.cell]] w0 fun v w'=>(∃ys,v=.tuple #[.agg ys.toArray,.int .i64 0]∧v1a M w' (doC p 0 c x) ys)∧Below w0.heap.size w0 w':=by
 obtain⟨t,i,_,s,rfl,N0,c1,_⟩:=v6b he hx;have x1:=y5c hI.ok hf hx;rw[d3d he N0 c1] at x1;obtain⟨Ac,nc,cc,Am,nm,cm,Al,nl,cl,At,nt,ct,rfl,_,_,_,N1,_,_,_,_,_,_,_,bt⟩:=hI.rd.open_;obtain⟨Xm,xm,ym,Xa,xa,ya,Xb,xb,yb,rfl,A0,L0,_⟩:=hX.open_;have S:=St.refl w0;have f1:=hf.mem.len;have f2:=hf.nat;have f3:=hf.nbuf;have hp:=hI.ok;have hM:=hI.lt;have n1:=hp.ncells;have n2:=hp.nthreads;have ht:=F3a N0;have hi:=F3a c1;have j1:=(hp.thread N0).steps s (e0a c1);have P1:6≤s.kind→0≤s.target∧s.target<p.threads.length:=fun h=>(j1.row.k6 h).1;have v1:=t6b c t s;dsimp only;refine a0a func28 Z ntmps28 Z ?_;refine wO0 Z U (p0a S Z ?_);intro g3 w3 S3 X3 G3;refine p0a S3 Z ?_;intro g4 w4 S4 X4 G4;refine p0a S4 Z ?_;intro g5 w5 S5 X5 G5;refine g0a S5 d6a Z Z ?_;intro g6 w6 S6 X6 G6;refine lO S6.k [.w 3] Z ⟨⟨Z,Z⟩,U⟩ (h0a S6 C1b Z Z (H4a p M _ _ (hI.keep (S6.keep0 M))) ?_);intro a2 i1 W1;refine lO i1.k [.w 3,.w 2] Z ⟨⟨Z,Z⟩,⟨Z,Z⟩,U⟩ (h0a i1 C6c Z Z (y0c p c M _ _ _ (hI.keep (i1.keep0 M)) (hX.keep (i1.keep0 M)) hf he) ?_);intro J0 n0 t0;refine lC0 Z U (x0a b0a [0,1,3] [2] [4,5] Z (Cl _ _ _ _) (Cl.start n0) ?_);refine qN n0.q [.w 3,.w 2,.w 1] Z ⟨⟨Z,Z⟩,⟨Z,Z⟩,⟨Z,Z⟩,U⟩ (o4a ?_);refine h3b (fun v w=>e9c [] w v (T1a p 0 c)) Z Z O0c Z (fun v w w' h hk=>h.keep hk.of_nil) (fun w1 S1 X1=>F4a p c M [] _ _ _ (hI.keep (S1.keep0 M)) (hX.keep (S1.keep0 M)) hf he (by simp)) ?_;refine S1a ?_;rintro d2 ⟨H1,_⟩;rintro v22 hr;dsimp only[c4a];obtain⟨_,_,_,rfl⟩:=hr.form;refine h0a H1 Q2d Z Z (c3a (E3c (T1a p 0 c) ⟨t,i,0⟩ [] _ _ hr) (decide_eq_true hx)) ?_;intro b2 p1 Y1;refine lC0 Z U (x0a b0a [0,1,2,3,4,5,6,7,8,9,10] [11] [12] Z (Cl _ _ _ _) (Cl.start p1) ?_);obtain⟨_,K1,R1,_,B1,t1,_,_,y0,z1⟩:=RdS.get (N1) (t) (by omega);obtain rfl:=Option.some.inj (N0.symm.trans B1);obtain⟨_,_,_,_,_,_,_,_,_,_,_,_,rfl,_,_,_,b1,_⟩:=R0a.open_ z1;obtain⟨_,M1,T1,_,C1,u1,_,y1,p0,A1⟩:=RdS.get (b1) (i) (by omega);obtain rfl:=Option.some.inj (c1.symm.trans C1);obtain⟨W0,d1,Y0,X0,g1,Z0,rfl,⟨_,_⟩,_,x0,_⟩:=d2a.open_ A1;refine qN ((p1.q.a p0).a y0) [.o 3,.o 1,.x K1 R1,.f 0 4,.o 1,.x M1 T1,.v 1] Z ⟨⟨Z,y1⟩,⟨u1,by omega⟩,Z,Z,⟨t1,by omega⟩,Z,Z,U⟩ (o4a ?_);refine p0c Z Z e5c Z ?_;refine S1a ?_;rintro e2 ⟨s1,_⟩;intro g8 O1 G8 Q1;dsimp only[c4a];clear Q1;replace s1:=s1.push_new p1 O1 G8
 first|refine c0a (kk:=0) (vs:=[_,_,_,_,_,_,_,_,_,_,_]) s1 y4c Z Z Z Z Z Z Z ?_
 intro O0 C0 E1;dsimp only[i0a,List.set] at C0;refine lCn 2 C0.k [] Z U (wX (fun D ε w=>D=[]∧∃Gm:Option Nat,∃z0:List Value,∃Bm:Option Addr,∃T0:Nat,∃dm:Nat,∃ga:Nat,∃c0:List Value,∃gb:Nat,∃g9:Nat,(m4a Gm 1 c.mem.length z0 (.slice Bm T0 dm) ((c5b s.set c.mem c.mem).map (Value.int .i64)))∧(c.at_.length+c0.length≤maxLen)∧St [] w0 w [(some g8,60,[.int .i64 s.kind,.int .i64 s.frm,.int .i64 s.to,.int .i64 s.guard.op,.int .i64 s.guard.w,.int .i64 s.guard.n,.slice W0 d1 Y0,.slice X0 g1 Z0,.bool s.release,.int .i64 s.target,.int .i64 s.module_]),(some g6,50,[.slice none 0 0,.slice none 0 0,.slice none 0 0]),(some g5,57,[.int .i64 t,.int .i64 i,.int .i64 0]),(some g4,50,[.slice Xm xm ym,.slice Xa xa ya,.slice Xb xb yb]),(some g3,27,[.slice Ac nc cc,.slice Am nm cm,.slice Al nl cl,.slice At nt ct]),(Gm,3,z0),(some ga,3,c.at_.map (Value.int .i64)++c0),(some gb,191,List.replicate nt (.slice none 0 0)),(some g9,50,[.slice Bm T0 dm,.slice (some ⟨ga,0,none⟩) c.at_.length (c.at_.length+c0.length),.slice (some ⟨gb,0,none⟩) nt nt])]∧Sl ε [(5,.pointer (some ⟨g5,0,none⟩)),(6,.pointer (some ⟨g6,0,none⟩)),(8,.pointer (some ⟨g8,0,none⟩)),(9,.pointer (some ⟨g9,0,none⟩))]) ?_ ?_)
 ·replace C0:=C0.nils (R:=[(none,3,[]),(none,3,[]),(none,191,[]),(none,50,[])]) (fun b hb=>by simp at hb;rcases hb with rfl|rfl|rfl|rfl<;>rfl);have Q0:∀a∈s.set,(0≤a.cell∧a.cell<c.mem.length)∧i64 (a.to.evl c.mem c.mem):=fun a ha=>by
   have q1:=(j1.set a ha).1;unfold J2a at q1;have q2:=p0b (j1.set a ha).2.1 c.mem c.mem;rw[(j1.set a ha).2.2] at q2;have Z1:=X3b hp a.cell;exact⟨by omega,by unfold i64;omega⟩
  refine x1b b0a (fun i=>[0,1,2,3,4,5,7,8,10,11,12,14].contains i) (.op 0 (.op 1 (.op 2 (.op 3 (.op 4 (.op 5 (.op 7 (.op 8 (.op 10 (.op 11 (.op 12 (.two (.op 6 (.two (.op 9 (.two (.op 13 (.op 14 (.op 15 (.op 16 .nil)))) (.op 15 (.op 13 (.op 14 (.op 16 .nil)))))) (.two (.op 13 (.two (.op 9 (.op 14 (.op 15 (.op 16 .nil)))) (.op 15 (.op 9 (.op 14 (.op 16 .nil)))))) (.op 15 (.two (.op 9 (.op 13 (.op 14 (.op 16 .nil)))) (.op 13 (.op 9 (.op 14 (.op 16 .nil))))))))) (.two (.op 13 (.two (.op 6 (.two (.op 9 (.op 14 (.op 15 (.op 16 .nil)))) (.op 15 (.op 9 (.op 14 (.op 16 .nil)))))) (.op 15 (.op 6 (.op 9 (.op 14 (.op 16 .nil))))))) (.op 15 (.two (.op 6 (.two (.op 9 (.op 13 (.op 14 (.op 16 .nil)))) (.op 13 (.op 9 (.op 14 (.op 16 .nil)))))) (.op 13 (.op 6 (.op 9 (.op 14 (.op 16 .nil)))))))))))))))))))) (clF (A:=[_,_,_,_,_]) (R:=[(none,3,[]),(none,3,[]),(none,191,[]),(none,50,[])]) C0 []) ?_;have v0:=C0.drew;have F1:t0a [] O0 O0.drew:=O2a _ _;generalize O0.drew=g2 at v0 F1 ⊢;have F0:t0a ([]) _ _:=F1.of_nil;refine g1a ⟨St.front (A:=[_,_,_,_,_]) (R:=[_,_,_,_]) v0,F0⟩ Z Z Z ?_;refine J0a i0b Z Z ?_;refine d0a ?_;refine g1a ⟨St.front (A:=[_,_,_,_,_]) (R:=[_,_,_,_]) v0,F0⟩ Z Z Z ?_;refine j0a x4a Z (fun w1 hw=>by first|exact hw.1.cell 0 Z Z|exact hw.1.cell 1 Z Z|exact hw.1.cell 2 Z Z|exact hw.1.cell 3 Z Z|exact hw.1.cell 4 Z Z|exact hw.1.old (p0 _ _ Z)|exact hw.1.old (p0 0 _ Z)|exact hw.1.old (Cells.sub p0 3 4 _ _ Z)|exact hw.1.old (y0 _ _ Z)|exact hw.1.old (y0 0 _ Z)) Z ?_;refine d0a ?_;refine g1a ⟨St.front (A:=[_,_,_,_,_]) (R:=[_,_,_,_]) v0,F0⟩ Z Z Z ?_;refine J0a i0b Z Z ?_;refine d0a ?_;refine g1a ⟨St.front (A:=[_,_,_,_,_]) (R:=[_,_,_,_]) v0,F0⟩ Z Z Z ?_;refine j0a x4a Z (fun w1 hw=>by first|exact hw.1.cell 0 Z Z|exact hw.1.cell 1 Z Z|exact hw.1.cell 2 Z Z|exact hw.1.cell 3 Z Z|exact hw.1.cell 4 Z Z|exact hw.1.old (p0 _ _ Z)|exact hw.1.old (p0 0 _ Z)|exact hw.1.old (Cells.sub p0 3 4 _ _ Z)|exact hw.1.old (y0 _ _ Z)|exact hw.1.old (y0 0 _ Z)) Z ?_;refine d0a ?_;refine g1a ⟨St.front (A:=[_,_,_,_,_]) (R:=[_,_,_,_]) v0,F0⟩ Z Z Z ?_;refine J0a c2b Z Z ?_;refine d0a ?_;refine g1a ⟨St.front (A:=[_,_,_,_,_]) (R:=[_,_,_,_]) v0,F0⟩ Z Z Z ?_;refine j0a g8b Z (fun w1 hw=>by first|exact hw.1.cell 0 Z Z|exact hw.1.cell 1 Z Z|exact hw.1.cell 2 Z Z|exact hw.1.cell 3 Z Z|exact hw.1.cell 4 Z Z|exact hw.1.old (p0 _ _ Z)|exact hw.1.old (p0 0 _ Z)|exact hw.1.old (Cells.sub p0 3 4 _ _ Z)|exact hw.1.old (y0 _ _ Z)|exact hw.1.old (y0 0 _ Z)) Z ?_;refine d0a ?_;refine g1a ⟨St.front (A:=[_,_,_,_,_]) (R:=[_,_,_,_]) v0,F0⟩ Z Z Z ?_;refine J0a F0c Z Z ?_;refine d0a ?_;refine g1a ⟨St.front (A:=[_,_,_,_,_]) (R:=[_,_,_,_]) v0,F0⟩ Z Z Z ?_;refine j0a x4a Z (fun w1 hw=>by first|exact hw.1.cell 0 Z Z|exact hw.1.cell 1 Z Z|exact hw.1.cell 2 Z Z|exact hw.1.cell 3 Z Z|exact hw.1.cell 4 Z Z|exact hw.1.old (p0 _ _ Z)|exact hw.1.old (p0 0 _ Z)|exact hw.1.old (Cells.sub p0 3 4 _ _ Z)|exact hw.1.old (y0 _ _ Z)|exact hw.1.old (y0 0 _ Z)) Z ?_;refine d0a ?_;refine g1a ⟨St.front (A:=[_,_,_,_,_]) (R:=[_,_,_,_]) v0,F0⟩ Z Z Z ?_;refine J0a Q5b Z Z ?_;refine d0a ?_;refine g1a ⟨St.front (A:=[_,_,_,_,_]) (R:=[_,_,_,_]) v0,F0⟩ Z Z Z ?_;refine j0a h1c Z (fun w1 hw=>by first|exact hw.1.cell 0 Z Z|exact hw.1.cell 1 Z Z|exact hw.1.cell 2 Z Z|exact hw.1.cell 3 Z Z|exact hw.1.cell 4 Z Z|exact hw.1.old (p0 _ _ Z)|exact hw.1.old (p0 0 _ Z)|exact hw.1.old (Cells.sub p0 3 4 _ _ Z)|exact hw.1.old (y0 _ _ Z)|exact hw.1.old (y0 0 _ Z)) Z ?_;refine d0a ?_;refine g1a ⟨St.front (A:=[_,_,_,_,_]) (R:=[_,_,_,_]) v0,F0⟩ Z Z Z ?_;refine f2d S7b.slT Z Z ?_;refine d0a ?_;refine B4a ?_ ?_
  ·refine b2a ⟨St.front (A:=[_,_,_,_,_]) (R:=[_,_,_,_]) v0,F0⟩ Z Z Z ?_;refine j1a O4b Z Z (o5a c.mem c.mem s.set M _ _ _ _ (A0.keep (v0.keep0 M)) (A0.keep (v0.keep0 M)) (RdS.keepW x0 (v0.keep0 M) (N0a.keep (v0.keep0 M))) (fun a ha=>(Q0 a ha).1) (fun a ha=>(Q0 a ha).2)) ?_;rintro m1 o1 ⟨E0,I0⟩;obtain⟨Gm,z0,Rm,D0⟩:=E0.open_ (v0.later I0) v0;have r0:=D0.place 5;have e0:=F0.trans (t0a.of_below I0);obtain⟨Bm,T0,dm,rfl⟩:=Rm.form;refine r0a ⟨Z,?_⟩;refine B4a ?_ ?_
   ·refine b2a ⟨St.front (A:=[_,_,_,_,_]) (R:=[_,_,_,_]) r0,e0⟩ Z Z Z ?_;refine j1a J5a Z Z (z2a c.at_ M _ _ (L0.keep (r0.keep0 M))) ?_;rintro R0 S0 ⟨j0,q0⟩;obtain⟨Ga,P0,Ra,i0⟩:=j0.open_ (r0.later q0) r0;have m0:=i0.place 6;have a0:=e0.trans (t0a.of_below q0);obtain⟨ga,c0,rfl,rfl,rfl,f0⟩:=Ra.pad (by omega);refine r0a ⟨Z,?_⟩;refine B4a ?_ ?_
    ·refine b2a ⟨St.front (A:=[_,_,_,_,_]) (R:=[_,_,_,_]) m0,a0⟩ Z Z Z ?_;refine f4a (n:=nt) (c:=nt) m0 M5a Z Z Z Z ?_;intro gb V0 o0 H0 U0;have d0:=o0.place 7;have b0:=a0.trans H0;refine r0a ⟨Z,?_⟩;refine g1a ⟨St.front (A:=[_,_,_,_,_]) (R:=[_,_,_,_]) d0,b0⟩ Z Z Z ?_;refine B1a i5a (vs:=[(0,.slice _ _ _),(1,.slice _ _ _),(2,.slice _ _ _)]) (cs:=[_,_,_]) Z Z Z Z ?_;refine d0a ?_;refine b2a ⟨St.front (A:=[_,_,_,_,_]) (R:=[_,_,_,_]) d0,b0⟩ Z Z Z ?_;refine g0a d0 d6a Z Z ?_;intro g9 w9 G0 X9 G9;have S9:=G0.place 8;have B0:=Nat.le_trans b0.size G9;have s0:=b0.trans X9;refine r0a ⟨Z,?_⟩;refine b2a ⟨St.front (A:=[_,_,_,_,_]) (R:=[_,_,_,_]) S9,s0⟩ Z Z Z ?_;refine c0a (kk:=8) (vs:=[_,_,_]) S9 Z3a Z Z Z Z Z Z Z ?_;intro J0 n0 t0;have g0:=s0.freshL t0 (fun g hg=>.inl (by rw[List.mem_singleton.1 hg];exact B0));refine r0a ⟨Z,?_⟩;refine b3a ⟨St.front (A:=[_,_,_,_,_]) (R:=[_,_,_,_]) n0,g0⟩ ?_;refine fP0 Z U ⟨Z,(Gm),(z0),(_),(_),(_),(ga),(c0),(gb),(g9),(by simpa using Rm),(f0),n0,Z⟩
    refine b2a ⟨St.front (A:=[_,_,_,_,_]) (R:=[_,_,_,_]) m0,a0⟩ Z Z Z ?_;refine g0a m0 d6a Z Z ?_;intro g9 w9 G0 X9 G9;have S9:=G0.place 8;have B0:=Nat.le_trans a0.size G9;have s0:=a0.trans X9;refine r0a ⟨Z,?_⟩;refine b2a ⟨St.front (A:=[_,_,_,_,_]) (R:=[_,_,_,_]) S9,s0⟩ Z Z Z ?_;refine f4a (n:=nt) (c:=nt) S9 M5a Z Z Z Z ?_;intro gb V0 o0 H0 U0;have d0:=o0.place 7;have b0:=s0.trans H0;refine r0a ⟨Z,?_⟩;refine g1a ⟨St.front (A:=[_,_,_,_,_]) (R:=[_,_,_,_]) d0,b0⟩ Z Z Z ?_;refine B1a i5a (vs:=[(0,.slice _ _ _),(1,.slice _ _ _),(2,.slice _ _ _)]) (cs:=[_,_,_]) Z Z Z Z ?_;refine d0a ?_;refine b2a ⟨St.front (A:=[_,_,_,_,_]) (R:=[_,_,_,_]) d0,b0⟩ Z Z Z ?_;refine c0a (kk:=8) (vs:=[_,_,_]) d0 Z3a Z Z Z Z Z Z Z ?_;intro J0 n0 t0;have g0:=b0.freshL t0 (fun g hg=>.inl (by rw[List.mem_singleton.1 hg];exact B0));refine r0a ⟨Z,?_⟩;refine b3a ⟨St.front (A:=[_,_,_,_,_]) (R:=[_,_,_,_]) n0,g0⟩ ?_;refine fP0 Z U ⟨Z,(Gm),(z0),(_),(_),(_),(ga),(c0),(gb),(g9),(by simpa using Rm),(f0),n0,Z⟩
   refine B4a ?_ ?_
   ·refine b2a ⟨St.front (A:=[_,_,_,_,_]) (R:=[_,_,_,_]) r0,e0⟩ Z Z Z ?_;refine f4a (n:=nt) (c:=nt) r0 M5a Z Z Z Z ?_;intro gb V0 o0 H0 U0;have d0:=o0.place 7;have b0:=e0.trans H0;refine r0a ⟨Z,?_⟩;refine B4a ?_ ?_
    ·refine b2a ⟨St.front (A:=[_,_,_,_,_]) (R:=[_,_,_,_]) d0,b0⟩ Z Z Z ?_;refine j1a J5a Z Z (z2a c.at_ M _ _ (L0.keep (d0.keep0 M))) ?_;rintro R0 S0 ⟨j0,q0⟩;obtain⟨Ga,P0,Ra,i0⟩:=j0.open_ (d0.later q0) d0;have m0:=i0.place 6;have a0:=b0.trans (t0a.of_below q0);obtain⟨ga,c0,rfl,rfl,rfl,f0⟩:=Ra.pad (by omega);refine r0a ⟨Z,?_⟩;refine g1a ⟨St.front (A:=[_,_,_,_,_]) (R:=[_,_,_,_]) m0,a0⟩ Z Z Z ?_;refine B1a i5a (vs:=[(0,.slice _ _ _),(1,.slice _ _ _),(2,.slice _ _ _)]) (cs:=[_,_,_]) Z Z Z Z ?_;refine d0a ?_;refine b2a ⟨St.front (A:=[_,_,_,_,_]) (R:=[_,_,_,_]) m0,a0⟩ Z Z Z ?_;refine g0a m0 d6a Z Z ?_;intro g9 w9 G0 X9 G9;have S9:=G0.place 8;have B0:=Nat.le_trans a0.size G9;have s0:=a0.trans X9;refine r0a ⟨Z,?_⟩;refine b2a ⟨St.front (A:=[_,_,_,_,_]) (R:=[_,_,_,_]) S9,s0⟩ Z Z Z ?_;refine c0a (kk:=8) (vs:=[_,_,_]) S9 Z3a Z Z Z Z Z Z Z ?_;intro J0 n0 t0;have g0:=s0.freshL t0 (fun g hg=>.inl (by rw[List.mem_singleton.1 hg];exact B0));refine r0a ⟨Z,?_⟩;refine b3a ⟨St.front (A:=[_,_,_,_,_]) (R:=[_,_,_,_]) n0,g0⟩ ?_;refine fP0 Z U ⟨Z,(Gm),(z0),(_),(_),(_),(ga),(c0),(gb),(g9),(by simpa using Rm),(f0),n0,Z⟩
    refine b2a ⟨St.front (A:=[_,_,_,_,_]) (R:=[_,_,_,_]) d0,b0⟩ Z Z Z ?_;refine g0a d0 d6a Z Z ?_;intro g9 w9 G0 X9 G9;have S9:=G0.place 8;have B0:=Nat.le_trans b0.size G9;have s0:=b0.trans X9;refine r0a ⟨Z,?_⟩;refine b2a ⟨St.front (A:=[_,_,_,_,_]) (R:=[_,_,_,_]) S9,s0⟩ Z Z Z ?_;refine j1a J5a Z Z (z2a c.at_ M _ _ (L0.keep (S9.keep0 M))) ?_;rintro R0 S0 ⟨j0,q0⟩;obtain⟨Ga,P0,Ra,i0⟩:=j0.open_ (S9.later q0) S9;have m0:=i0.place 6;have a0:=s0.trans (t0a.of_below q0);obtain⟨ga,c0,rfl,rfl,rfl,f0⟩:=Ra.pad (by omega);refine r0a ⟨Z,?_⟩;refine g1a ⟨St.front (A:=[_,_,_,_,_]) (R:=[_,_,_,_]) m0,a0⟩ Z Z Z ?_;refine B1a i5a (vs:=[(0,.slice _ _ _),(1,.slice _ _ _),(2,.slice _ _ _)]) (cs:=[_,_,_]) Z Z Z Z ?_;refine d0a ?_;refine b2a ⟨St.front (A:=[_,_,_,_,_]) (R:=[_,_,_,_]) m0,a0⟩ Z Z Z ?_;refine c0a (kk:=8) (vs:=[_,_,_]) m0 Z3a Z Z Z Z Z Z Z ?_;intro J0 n0 t0;have g0:=a0.freshL t0 (fun g hg=>.inl (by rw[List.mem_singleton.1 hg];exact B0));refine r0a ⟨Z,?_⟩;refine b3a ⟨St.front (A:=[_,_,_,_,_]) (R:=[_,_,_,_]) n0,g0⟩ ?_;refine fP0 Z U ⟨Z,(Gm),(z0),(_),(_),(_),(ga),(c0),(gb),(g9),(by simpa using Rm),(f0),n0,Z⟩
   refine b2a ⟨St.front (A:=[_,_,_,_,_]) (R:=[_,_,_,_]) r0,e0⟩ Z Z Z ?_;refine g0a r0 d6a Z Z ?_;intro g9 w9 G0 X9 G9;have S9:=G0.place 8;have B0:=Nat.le_trans e0.size G9;have s0:=e0.trans X9;refine r0a ⟨Z,?_⟩;refine B4a ?_ ?_
   ·refine b2a ⟨St.front (A:=[_,_,_,_,_]) (R:=[_,_,_,_]) S9,s0⟩ Z Z Z ?_;refine j1a J5a Z Z (z2a c.at_ M _ _ (L0.keep (S9.keep0 M))) ?_;rintro R0 S0 ⟨j0,q0⟩;obtain⟨Ga,P0,Ra,i0⟩:=j0.open_ (S9.later q0) S9;have m0:=i0.place 6;have a0:=s0.trans (t0a.of_below q0);obtain⟨ga,c0,rfl,rfl,rfl,f0⟩:=Ra.pad (by omega);refine r0a ⟨Z,?_⟩;refine b2a ⟨St.front (A:=[_,_,_,_,_]) (R:=[_,_,_,_]) m0,a0⟩ Z Z Z ?_;refine f4a (n:=nt) (c:=nt) m0 M5a Z Z Z Z ?_;intro gb V0 o0 H0 U0;have d0:=o0.place 7;have b0:=a0.trans H0;refine r0a ⟨Z,?_⟩;refine g1a ⟨St.front (A:=[_,_,_,_,_]) (R:=[_,_,_,_]) d0,b0⟩ Z Z Z ?_;refine B1a i5a (vs:=[(0,.slice _ _ _),(1,.slice _ _ _),(2,.slice _ _ _)]) (cs:=[_,_,_]) Z Z Z Z ?_;refine d0a ?_;refine b2a ⟨St.front (A:=[_,_,_,_,_]) (R:=[_,_,_,_]) d0,b0⟩ Z Z Z ?_;refine c0a (kk:=8) (vs:=[_,_,_]) d0 Z3a Z Z Z Z Z Z Z ?_;intro J0 n0 t0;have g0:=b0.freshL t0 (fun g hg=>.inl (by rw[List.mem_singleton.1 hg];exact B0));refine r0a ⟨Z,?_⟩;refine b3a ⟨St.front (A:=[_,_,_,_,_]) (R:=[_,_,_,_]) n0,g0⟩ ?_;refine fP0 Z U ⟨Z,(Gm),(z0),(_),(_),(_),(ga),(c0),(gb),(g9),(by simpa using Rm),(f0),n0,Z⟩
   refine b2a ⟨St.front (A:=[_,_,_,_,_]) (R:=[_,_,_,_]) S9,s0⟩ Z Z Z ?_;refine f4a (n:=nt) (c:=nt) S9 M5a Z Z Z Z ?_;intro gb V0 o0 H0 U0;have d0:=o0.place 7;have b0:=s0.trans H0;refine r0a ⟨Z,?_⟩;refine b2a ⟨St.front (A:=[_,_,_,_,_]) (R:=[_,_,_,_]) d0,b0⟩ Z Z Z ?_;refine j1a J5a Z Z (z2a c.at_ M _ _ (L0.keep (d0.keep0 M))) ?_;rintro R0 S0 ⟨j0,q0⟩;obtain⟨Ga,P0,Ra,i0⟩:=j0.open_ (d0.later q0) d0;have m0:=i0.place 6;have a0:=b0.trans (t0a.of_below q0);obtain⟨ga,c0,rfl,rfl,rfl,f0⟩:=Ra.pad (by omega);refine r0a ⟨Z,?_⟩;refine g1a ⟨St.front (A:=[_,_,_,_,_]) (R:=[_,_,_,_]) m0,a0⟩ Z Z Z ?_;refine B1a i5a (vs:=[(0,.slice _ _ _),(1,.slice _ _ _),(2,.slice _ _ _)]) (cs:=[_,_,_]) Z Z Z Z ?_;refine d0a ?_;refine b2a ⟨St.front (A:=[_,_,_,_,_]) (R:=[_,_,_,_]) m0,a0⟩ Z Z Z ?_;refine c0a (kk:=8) (vs:=[_,_,_]) m0 Z3a Z Z Z Z Z Z Z ?_;intro J0 n0 t0;have g0:=a0.freshL t0 (fun g hg=>.inl (by rw[List.mem_singleton.1 hg];exact B0));refine r0a ⟨Z,?_⟩;refine b3a ⟨St.front (A:=[_,_,_,_,_]) (R:=[_,_,_,_]) n0,g0⟩ ?_;refine fP0 Z U ⟨Z,(Gm),(z0),(_),(_),(_),(ga),(c0),(gb),(g9),(by simpa using Rm),(f0),n0,Z⟩
  refine B4a ?_ ?_
  ·refine b2a ⟨St.front (A:=[_,_,_,_,_]) (R:=[_,_,_,_]) v0,F0⟩ Z Z Z ?_;refine f4a (n:=nt) (c:=nt) v0 M5a Z Z Z Z ?_;intro gb V0 o0 H0 U0;have d0:=o0.place 7;have b0:=F0.trans H0;refine r0a ⟨Z,?_⟩;refine B4a ?_ ?_
   ·refine b2a ⟨St.front (A:=[_,_,_,_,_]) (R:=[_,_,_,_]) d0,b0⟩ Z Z Z ?_;refine j1a O4b Z Z (o5a c.mem c.mem s.set M _ _ _ _ (A0.keep (d0.keep0 M)) (A0.keep (d0.keep0 M)) (RdS.keepW x0 (d0.keep0 M) (N0a.keep (d0.keep0 M))) (fun a ha=>(Q0 a ha).1) (fun a ha=>(Q0 a ha).2)) ?_;rintro m1 o1 ⟨E0,I0⟩;obtain⟨Gm,z0,Rm,D0⟩:=E0.open_ (d0.later I0) d0;have r0:=D0.place 5;have e0:=b0.trans (t0a.of_below I0);obtain⟨Bm,T0,dm,rfl⟩:=Rm.form;refine r0a ⟨Z,?_⟩;refine B4a ?_ ?_
    ·refine b2a ⟨St.front (A:=[_,_,_,_,_]) (R:=[_,_,_,_]) r0,e0⟩ Z Z Z ?_;refine j1a J5a Z Z (z2a c.at_ M _ _ (L0.keep (r0.keep0 M))) ?_;rintro R0 S0 ⟨j0,q0⟩;obtain⟨Ga,P0,Ra,i0⟩:=j0.open_ (r0.later q0) r0;have m0:=i0.place 6;have a0:=e0.trans (t0a.of_below q0);obtain⟨ga,c0,rfl,rfl,rfl,f0⟩:=Ra.pad (by omega);refine r0a ⟨Z,?_⟩;refine g1a ⟨St.front (A:=[_,_,_,_,_]) (R:=[_,_,_,_]) m0,a0⟩ Z Z Z ?_;refine B1a i5a (vs:=[(0,.slice _ _ _),(1,.slice _ _ _),(2,.slice _ _ _)]) (cs:=[_,_,_]) Z Z Z Z ?_;refine d0a ?_;refine b2a ⟨St.front (A:=[_,_,_,_,_]) (R:=[_,_,_,_]) m0,a0⟩ Z Z Z ?_;refine g0a m0 d6a Z Z ?_;intro g9 w9 G0 X9 G9;have S9:=G0.place 8;have B0:=Nat.le_trans a0.size G9;have s0:=a0.trans X9;refine r0a ⟨Z,?_⟩;refine b2a ⟨St.front (A:=[_,_,_,_,_]) (R:=[_,_,_,_]) S9,s0⟩ Z Z Z ?_;refine c0a (kk:=8) (vs:=[_,_,_]) S9 Z3a Z Z Z Z Z Z Z ?_;intro J0 n0 t0;have g0:=s0.freshL t0 (fun g hg=>.inl (by rw[List.mem_singleton.1 hg];exact B0));refine r0a ⟨Z,?_⟩;refine b3a ⟨St.front (A:=[_,_,_,_,_]) (R:=[_,_,_,_]) n0,g0⟩ ?_;refine fP0 Z U ⟨Z,(Gm),(z0),(_),(_),(_),(ga),(c0),(gb),(g9),(by simpa using Rm),(f0),n0,Z⟩
    refine b2a ⟨St.front (A:=[_,_,_,_,_]) (R:=[_,_,_,_]) r0,e0⟩ Z Z Z ?_;refine g0a r0 d6a Z Z ?_;intro g9 w9 G0 X9 G9;have S9:=G0.place 8;have B0:=Nat.le_trans e0.size G9;have s0:=e0.trans X9;refine r0a ⟨Z,?_⟩;refine b2a ⟨St.front (A:=[_,_,_,_,_]) (R:=[_,_,_,_]) S9,s0⟩ Z Z Z ?_;refine j1a J5a Z Z (z2a c.at_ M _ _ (L0.keep (S9.keep0 M))) ?_;rintro R0 S0 ⟨j0,q0⟩;obtain⟨Ga,P0,Ra,i0⟩:=j0.open_ (S9.later q0) S9;have m0:=i0.place 6;have a0:=s0.trans (t0a.of_below q0);obtain⟨ga,c0,rfl,rfl,rfl,f0⟩:=Ra.pad (by omega);refine r0a ⟨Z,?_⟩;refine g1a ⟨St.front (A:=[_,_,_,_,_]) (R:=[_,_,_,_]) m0,a0⟩ Z Z Z ?_;refine B1a i5a (vs:=[(0,.slice _ _ _),(1,.slice _ _ _),(2,.slice _ _ _)]) (cs:=[_,_,_]) Z Z Z Z ?_;refine d0a ?_;refine b2a ⟨St.front (A:=[_,_,_,_,_]) (R:=[_,_,_,_]) m0,a0⟩ Z Z Z ?_;refine c0a (kk:=8) (vs:=[_,_,_]) m0 Z3a Z Z Z Z Z Z Z ?_;intro J0 n0 t0;have g0:=a0.freshL t0 (fun g hg=>.inl (by rw[List.mem_singleton.1 hg];exact B0));refine r0a ⟨Z,?_⟩;refine b3a ⟨St.front (A:=[_,_,_,_,_]) (R:=[_,_,_,_]) n0,g0⟩ ?_;refine fP0 Z U ⟨Z,(Gm),(z0),(_),(_),(_),(ga),(c0),(gb),(g9),(by simpa using Rm),(f0),n0,Z⟩
   refine b2a ⟨St.front (A:=[_,_,_,_,_]) (R:=[_,_,_,_]) d0,b0⟩ Z Z Z ?_;refine g0a d0 d6a Z Z ?_;intro g9 w9 G0 X9 G9;have S9:=G0.place 8;have B0:=Nat.le_trans b0.size G9;have s0:=b0.trans X9;refine r0a ⟨Z,?_⟩;refine b2a ⟨St.front (A:=[_,_,_,_,_]) (R:=[_,_,_,_]) S9,s0⟩ Z Z Z ?_;refine j1a O4b Z Z (o5a c.mem c.mem s.set M _ _ _ _ (A0.keep (S9.keep0 M)) (A0.keep (S9.keep0 M)) (RdS.keepW x0 (S9.keep0 M) (N0a.keep (S9.keep0 M))) (fun a ha=>(Q0 a ha).1) (fun a ha=>(Q0 a ha).2)) ?_;rintro m1 o1 ⟨E0,I0⟩;obtain⟨Gm,z0,Rm,D0⟩:=E0.open_ (S9.later I0) S9;have r0:=D0.place 5;have e0:=s0.trans (t0a.of_below I0);obtain⟨Bm,T0,dm,rfl⟩:=Rm.form;refine r0a ⟨Z,?_⟩;refine b2a ⟨St.front (A:=[_,_,_,_,_]) (R:=[_,_,_,_]) r0,e0⟩ Z Z Z ?_;refine j1a J5a Z Z (z2a c.at_ M _ _ (L0.keep (r0.keep0 M))) ?_;rintro R0 S0 ⟨j0,q0⟩;obtain⟨Ga,P0,Ra,i0⟩:=j0.open_ (r0.later q0) r0;have m0:=i0.place 6;have a0:=e0.trans (t0a.of_below q0);obtain⟨ga,c0,rfl,rfl,rfl,f0⟩:=Ra.pad (by omega);refine r0a ⟨Z,?_⟩;refine g1a ⟨St.front (A:=[_,_,_,_,_]) (R:=[_,_,_,_]) m0,a0⟩ Z Z Z ?_;refine B1a i5a (vs:=[(0,.slice _ _ _),(1,.slice _ _ _),(2,.slice _ _ _)]) (cs:=[_,_,_]) Z Z Z Z ?_;refine d0a ?_;refine b2a ⟨St.front (A:=[_,_,_,_,_]) (R:=[_,_,_,_]) m0,a0⟩ Z Z Z ?_;refine c0a (kk:=8) (vs:=[_,_,_]) m0 Z3a Z Z Z Z Z Z Z ?_;intro J0 n0 t0;have g0:=a0.freshL t0 (fun g hg=>.inl (by rw[List.mem_singleton.1 hg];exact B0));refine r0a ⟨Z,?_⟩;refine b3a ⟨St.front (A:=[_,_,_,_,_]) (R:=[_,_,_,_]) n0,g0⟩ ?_;refine fP0 Z U ⟨Z,(Gm),(z0),(_),(_),(_),(ga),(c0),(gb),(g9),(by simpa using Rm),(f0),n0,Z⟩
  refine b2a ⟨St.front (A:=[_,_,_,_,_]) (R:=[_,_,_,_]) v0,F0⟩ Z Z Z ?_;refine g0a v0 d6a Z Z ?_;intro g9 w9 G0 X9 G9;have S9:=G0.place 8;have B0:=Nat.le_trans F0.size G9;have s0:=F0.trans X9;refine r0a ⟨Z,?_⟩;refine B4a ?_ ?_
  ·refine b2a ⟨St.front (A:=[_,_,_,_,_]) (R:=[_,_,_,_]) S9,s0⟩ Z Z Z ?_;refine j1a O4b Z Z (o5a c.mem c.mem s.set M _ _ _ _ (A0.keep (S9.keep0 M)) (A0.keep (S9.keep0 M)) (RdS.keepW x0 (S9.keep0 M) (N0a.keep (S9.keep0 M))) (fun a ha=>(Q0 a ha).1) (fun a ha=>(Q0 a ha).2)) ?_;rintro m1 o1 ⟨E0,I0⟩;obtain⟨Gm,z0,Rm,D0⟩:=E0.open_ (S9.later I0) S9;have r0:=D0.place 5;have e0:=s0.trans (t0a.of_below I0);obtain⟨Bm,T0,dm,rfl⟩:=Rm.form;refine r0a ⟨Z,?_⟩;refine B4a ?_ ?_
   ·refine b2a ⟨St.front (A:=[_,_,_,_,_]) (R:=[_,_,_,_]) r0,e0⟩ Z Z Z ?_;refine j1a J5a Z Z (z2a c.at_ M _ _ (L0.keep (r0.keep0 M))) ?_;rintro R0 S0 ⟨j0,q0⟩;obtain⟨Ga,P0,Ra,i0⟩:=j0.open_ (r0.later q0) r0;have m0:=i0.place 6;have a0:=e0.trans (t0a.of_below q0);obtain⟨ga,c0,rfl,rfl,rfl,f0⟩:=Ra.pad (by omega);refine r0a ⟨Z,?_⟩;refine b2a ⟨St.front (A:=[_,_,_,_,_]) (R:=[_,_,_,_]) m0,a0⟩ Z Z Z ?_;refine f4a (n:=nt) (c:=nt) m0 M5a Z Z Z Z ?_;intro gb V0 o0 H0 U0;have d0:=o0.place 7;have b0:=a0.trans H0;refine r0a ⟨Z,?_⟩;refine g1a ⟨St.front (A:=[_,_,_,_,_]) (R:=[_,_,_,_]) d0,b0⟩ Z Z Z ?_;refine B1a i5a (vs:=[(0,.slice _ _ _),(1,.slice _ _ _),(2,.slice _ _ _)]) (cs:=[_,_,_]) Z Z Z Z ?_;refine d0a ?_;refine b2a ⟨St.front (A:=[_,_,_,_,_]) (R:=[_,_,_,_]) d0,b0⟩ Z Z Z ?_;refine c0a (kk:=8) (vs:=[_,_,_]) d0 Z3a Z Z Z Z Z Z Z ?_;intro J0 n0 t0;have g0:=b0.freshL t0 (fun g hg=>.inl (by rw[List.mem_singleton.1 hg];exact B0));refine r0a ⟨Z,?_⟩;refine b3a ⟨St.front (A:=[_,_,_,_,_]) (R:=[_,_,_,_]) n0,g0⟩ ?_;refine fP0 Z U ⟨Z,(Gm),(z0),(_),(_),(_),(ga),(c0),(gb),(g9),(by simpa using Rm),(f0),n0,Z⟩
   refine b2a ⟨St.front (A:=[_,_,_,_,_]) (R:=[_,_,_,_]) r0,e0⟩ Z Z Z ?_;refine f4a (n:=nt) (c:=nt) r0 M5a Z Z Z Z ?_;intro gb V0 o0 H0 U0;have d0:=o0.place 7;have b0:=e0.trans H0;refine r0a ⟨Z,?_⟩;refine b2a ⟨St.front (A:=[_,_,_,_,_]) (R:=[_,_,_,_]) d0,b0⟩ Z Z Z ?_;refine j1a J5a Z Z (z2a c.at_ M _ _ (L0.keep (d0.keep0 M))) ?_;rintro R0 S0 ⟨j0,q0⟩;obtain⟨Ga,P0,Ra,i0⟩:=j0.open_ (d0.later q0) d0;have m0:=i0.place 6;have a0:=b0.trans (t0a.of_below q0);obtain⟨ga,c0,rfl,rfl,rfl,f0⟩:=Ra.pad (by omega);refine r0a ⟨Z,?_⟩;refine g1a ⟨St.front (A:=[_,_,_,_,_]) (R:=[_,_,_,_]) m0,a0⟩ Z Z Z ?_;refine B1a i5a (vs:=[(0,.slice _ _ _),(1,.slice _ _ _),(2,.slice _ _ _)]) (cs:=[_,_,_]) Z Z Z Z ?_;refine d0a ?_;refine b2a ⟨St.front (A:=[_,_,_,_,_]) (R:=[_,_,_,_]) m0,a0⟩ Z Z Z ?_;refine c0a (kk:=8) (vs:=[_,_,_]) m0 Z3a Z Z Z Z Z Z Z ?_;intro J0 n0 t0;have g0:=a0.freshL t0 (fun g hg=>.inl (by rw[List.mem_singleton.1 hg];exact B0));refine r0a ⟨Z,?_⟩;refine b3a ⟨St.front (A:=[_,_,_,_,_]) (R:=[_,_,_,_]) n0,g0⟩ ?_;refine fP0 Z U ⟨Z,(Gm),(z0),(_),(_),(_),(ga),(c0),(gb),(g9),(by simpa using Rm),(f0),n0,Z⟩
  refine b2a ⟨St.front (A:=[_,_,_,_,_]) (R:=[_,_,_,_]) S9,s0⟩ Z Z Z ?_;refine f4a (n:=nt) (c:=nt) S9 M5a Z Z Z Z ?_;intro gb V0 o0 H0 U0;have d0:=o0.place 7;have b0:=s0.trans H0;refine r0a ⟨Z,?_⟩;refine b2a ⟨St.front (A:=[_,_,_,_,_]) (R:=[_,_,_,_]) d0,b0⟩ Z Z Z ?_;refine j1a O4b Z Z (o5a c.mem c.mem s.set M _ _ _ _ (A0.keep (d0.keep0 M)) (A0.keep (d0.keep0 M)) (RdS.keepW x0 (d0.keep0 M) (N0a.keep (d0.keep0 M))) (fun a ha=>(Q0 a ha).1) (fun a ha=>(Q0 a ha).2)) ?_;rintro m1 o1 ⟨E0,I0⟩;obtain⟨Gm,z0,Rm,D0⟩:=E0.open_ (d0.later I0) d0;have r0:=D0.place 5;have e0:=b0.trans (t0a.of_below I0);obtain⟨Bm,T0,dm,rfl⟩:=Rm.form;refine r0a ⟨Z,?_⟩;refine b2a ⟨St.front (A:=[_,_,_,_,_]) (R:=[_,_,_,_]) r0,e0⟩ Z Z Z ?_;refine j1a J5a Z Z (z2a c.at_ M _ _ (L0.keep (r0.keep0 M))) ?_;rintro R0 S0 ⟨j0,q0⟩;obtain⟨Ga,P0,Ra,i0⟩:=j0.open_ (r0.later q0) r0;have m0:=i0.place 6;have a0:=e0.trans (t0a.of_below q0);obtain⟨ga,c0,rfl,rfl,rfl,f0⟩:=Ra.pad (by omega);refine r0a ⟨Z,?_⟩;refine g1a ⟨St.front (A:=[_,_,_,_,_]) (R:=[_,_,_,_]) m0,a0⟩ Z Z Z ?_;refine B1a i5a (vs:=[(0,.slice _ _ _),(1,.slice _ _ _),(2,.slice _ _ _)]) (cs:=[_,_,_]) Z Z Z Z ?_;refine d0a ?_;refine b2a ⟨St.front (A:=[_,_,_,_,_]) (R:=[_,_,_,_]) m0,a0⟩ Z Z Z ?_;refine c0a (kk:=8) (vs:=[_,_,_]) m0 Z3a Z Z Z Z Z Z Z ?_;intro J0 n0 t0;have g0:=a0.freshL t0 (fun g hg=>.inl (by rw[List.mem_singleton.1 hg];exact B0));refine r0a ⟨Z,?_⟩;refine b3a ⟨St.front (A:=[_,_,_,_,_]) (R:=[_,_,_,_]) n0,g0⟩ ?_;refine fP0 Z U ⟨Z,(Gm),(z0),(_),(_),(_),(ga),(c0),(gb),(g9),(by simpa using Rm),(f0),n0,Z⟩
 rintro D ε w ⟨rfl,Gm,z0,Bm,T0,dm,ga,c0,gb,g9,Rm,f0,S,eZ⟩;refine wK eZ (wO S.k [.o 8,.o 2,.o 0] Z ⟨Z,Z,Z,U⟩ ?_);refine P0a U0a.slT Z (by first|rfl|assumption) Z Z ?_
 first|refine f1a (kk:=6) S b8c Z Z Z (by first|exact Nat.le_of_ble_eq_true Z|(simp;omega)) ?_
 intro U1 K0 I1;refine lCn 2 K0.k [] Z U (wX (fun D ε w=>D=[]∧St [] w0 w [(some g8,60,[.int .i64 s.kind,.int .i64 s.frm,.int .i64 s.to,.int .i64 s.guard.op,.int .i64 s.guard.w,.int .i64 s.guard.n,.slice W0 d1 Y0,.slice X0 g1 Z0,.bool s.release,.int .i64 s.target,.int .i64 s.module_]),(some g6,50,[.slice none 0 0,.slice none 0 0,.slice none 0 0]),(some g5,57,[.int .i64 t,.int .i64 i,.int .i64 0]),(some g4,50,[.slice Xm xm ym,.slice Xa xa ya,.slice Xb xb yb]),(some g3,27,[.slice Ac nc cc,.slice Am nm cm,.slice Al nl cl,.slice At nt ct]),(Gm,3,z0),(some ga,3,(atC c t s).map (Value.int .i64)++c0),(some gb,191,List.replicate nt (.slice none 0 0)),(some g9,50,[.slice Bm T0 dm,.slice (some ⟨ga,0,none⟩) c.at_.length (c.at_.length+c0.length),.slice (some ⟨gb,0,none⟩) nt nt])]∧Sl ε [(6,.pointer (some ⟨g6,0,none⟩)),(9,.pointer (some ⟨g9,0,none⟩))]) ?_ ?_)
 ·refine wB K0.k [.o 0] Z ⟨Z,U⟩ (fun a1=>?_) fun a1=>?_
  ·have q6:=P1 (by omega);refine lO K0.k [.o 8,.o 0] Z ⟨Z,Z,U⟩ (P0a U0a.slT Z (by first|rfl|assumption) Z Z ?_)
   first|refine f1a (kk:=6) K0 b8c Z Z Z (by first|exact Nat.le_of_ble_eq_true Z|(simp;omega)) ?_
   intro V1 r1 J1;refine lP0 Z U ?_;have SF:=r1.setEnt 6 Z (show _=(atC c t s).map (Value.int .i64)++c0 by first|exact F6c a1|exact M0c a1);exact⟨Z,SF,Z⟩
  refine lP0 Z U ?_;have SF:=K0.setEnt 6 Z (show _=(atC c t s).map (Value.int .i64)++c0 by first|exact F6c a1|exact M0c a1);exact⟨Z,SF,Z⟩
 rintro D ε w ⟨rfl,S,eZ⟩;refine wK eZ (wO S.k [.w 8] Z ⟨⟨Z,by first|rfl|assumption⟩,U⟩ ?_)
 first|refine c0a (kk:=1) (vs:=[_,_,_]) S Z3a Z Z Z Z Z Z Z ?_
 intro G1 u0 D1;dsimp only[i0a,List.set] at u0;refine lR0 Z U ?_;rw[d3d he N0 c1];refine h2a (n:=3) Z S3a Z (u0.cells 1 Z) Z Z ⟨⟨_,Z,_,_,_,Z,Rm.rdI u0 (k:=5) Z hM (x8c hp x1.mem) (by simp;omega),?_,?_⟩,u0.fin⟩
 ·have:=(m4a.ofPad (g:=ga) (l:=atC c t s) (pad:=c0) (by rw[v1];exact f0)).rdI u0 (k:=6) Z hM (O2d hp x1) (by rw[v1];omega);rw[v1] at this;exact this
 ·exact u0.rdBufs 7 Z (N2a hM (u0.new 7 Z)) (show _=c.buf.length by omega) bt he
theorem d0d{a b:Int}(hb:0<b):∃k:Nat,a % b=k∧(k:Int)<b:=by
 have h0:=Int.emod_nonneg a (show b≠0 by omega);have h1:=Int.emod_lt_of_pos a hb;obtain⟨k,hk⟩:=Int.eq_ofNat_of_zero_le h0;exact⟨k,hk,by omega⟩
theorem InP.ownL{p:k0a}{w0 w:World}{cs:List Value}{L:List Ent}{l:List Nat}(h:InP p [] w0 cs)(S:St [] w0 w L)(hl:∀g∈l,∃(k t:Nat) (c:List Value),L[k]?=some (some g,t,c)):InP p l w cs:=by
 have h1:∀g∈l,g∈([]:List Nat)∨w0.heap.size≤g:=fun g hg=>by
  obtain⟨k,t,c,hk⟩:=hl g hg;exact .inr (by simpa using S.new k hk)
 exact⟨(h.rd.more h1).keep (S.keep0 _),h.ok,(h.msk.more h1).keep (S.keep0 _),fun g hg=>by
  obtain⟨k,t,c,hk⟩:=hl g hg;exact S.lt k hk⟩
theorem P2c(p:k0a)(s0:Nat)(i0:List Int)(w0:World)(cs:List Value)(vp:Value)(hI:InP p [] w0 cs)(u0:N3d [] w0 vp i0):
 C0a prog 26 #[.agg cs.toArray,vp,.int .i64 s0] w0 fun v w'=>(∃c ys,v=.agg ys.toArray∧v1a [] w' c ys∧Go.Fw.Good p 0 c)∧Below w0.heap.size w0 w':=by
 obtain⟨Ac,nc,cc,Am,nm,cm,Al,nl,cl,At,nt,ct,rfl,_⟩:=hI.rd.open_;obtain⟨Ar,nr,cr,rfl⟩:=u0.form;obtain⟨_,_⟩:=u0.len;have S:=St.refl w0;refine a0a func26 Z ntmps26 Z ?_;refine wO0 Z U (p0a S Z ?_);intro g3 w3 S3 X3 G3;refine g0a S3 d6a Z Z ?_;intro g6 w6 S6 X6 G6;refine lO S6.k [.w 1] Z ⟨⟨Z,Z⟩,U⟩ ?_;refine n0a S6 m1d Z Z (V8b p [g6] _ _ (hI.ownL S6 (fun g hg=>by rw[List.mem_singleton.1 hg];exact⟨0,_,_,Z⟩))) ?_;rintro Y0 T0 ⟨_,rfl,hX⟩ I0 X0;have KX:=t0a.refl [] T0;obtain⟨Ua,ua,va,Ub,ub,vb,Uc,uc,vc,rfl,-⟩:=hX.open_;refine g0a I0 d6a Z Z ?_;intro g7 w7 S7 X7 G7;have c0:=Nat.le_trans KX.size G7;replace KX:=KX.trans X7
 first|refine c0a (kk:=0) (vs:=[_,_,_]) S7 Z3a Z Z Z Z Z Z Z ?_|refine c0a (kk:=1) (vs:=[_,_,_]) S7 Z3a Z Z Z Z Z Z Z ?_|refine c0a (kk:=2) (vs:=[_,_,_]) S7 Z3a Z Z Z Z Z Z Z ?_
 intro U0 p0 v0;dsimp only[i0a,List.set] at p0;replace KX:=KX.fresh v0 (by first|exact c0);refine lC0 Z U ?_;refine wL (fun μi D ε w=>D=[]∧∃i:Nat,∃c:d1a,∃ys:List Value,(i+μi=(i0.length))∧(Go.Fw.Good p 0 c)∧(v1a [g7,g6] w c ys)∧St [] w0 w [(some g7,50,ys),(some g6,50,[.slice none 0 0,.slice none 0 0,.slice none 0 0]),(some g3,27,[.slice Ac nc cc,.slice Am nm cm,.slice Al nl cl,.slice At nt ct])]∧Sl ε [(1,.slice Ar nr cr),(2,.int .i64 s0),(3,.pointer (some ⟨g3,0,none⟩)),(6,.pointer (some ⟨g6,0,none⟩)),(7,.pointer (some ⟨g7,0,none⟩)),(8,.int .i64 i)]) (μ:=(i0.length)) ⟨Z,0,N1a p,_,by omega,f9b hI.ok,(hX.more (fun g (hg:g∈[g7,g6])=>by rcases List.mem_cons.1 hg with rfl|hg;exact .inr c0;exact .inl hg)).keep KX.of_nil,p0,Z⟩ ?_;rintro μi D ε w ⟨rfl,i,c,ys,_,hg,hY,S,eZ⟩;refine wK eZ ?_;obtain⟨Ua,ua,va,Ub,ub,vb,Uc,uc,vc,rfl,-⟩:=hY.open_;have KI:=t0a.refl [g7,g6] w;refine wB0 Z U (fun K0=>?_) fun K0=>?_
 ·refine lB0 Z U (fun L0=>?_) fun L0=>?_
  ·refine lO S.k [.w 2,.w 0] Z ⟨⟨Z,by first|rfl|assumption⟩,⟨Z,Z⟩,U⟩ ?_;refine n0a S O0c Z Z (F4a p c [] [g7] _ _ _ (hI.keep (S.keep0 [])) ((hY.keep KI).less (by simp)) hg.1 (hg.2 Z) (fun g hg=>by rw[List.mem_singleton.1 hg];exact S.lt 0 Z)) ?_;rintro v25 D0 hE t0 J0;replace KI:=KI.trans (J0.of_nil);obtain⟨_,ne,_,rfl⟩:=hE.form;obtain⟨_,-,-⟩:=hE.len;refine lB0 Z U (fun N0=>?_) fun N0=>?_
   ·refine lO t0.k [.w 0] Z ⟨⟨Z,by first|rfl|assumption⟩,U⟩ ?_
    first|refine c0a (kk:=1) (vs:=[_,_,_]) t0 Z3a Z Z Z Z Z Z Z ?_
    intro W0 m0 x0;dsimp only[i0a,List.set] at m0;replace KI:=KI.fresh2 x0 (by first|exact .inl c0|exact .inr (by simp));refine lR0 Z U ?_
    first
     | exact v0a (n:=3) Z S3a Z (m0.cells 1 Z) Z ⟨⟨c,_,Z,(hY.keep KI).less (by simp),hg⟩,m0.fin⟩
   obtain⟨pk,_,_,_,C0,_,_,_,_,Q0⟩:=RdS.get u0 i (by omega);obtain⟨-,_⟩:=id Q0;obtain⟨k,hk,_⟩:=d0d (a:=pk) (b:=(ne:Int)) (by omega);obtain⟨x,_,_,_,S0,_,O0,_,P0,R0⟩:=RdS.get hE k (by omega);obtain⟨rfl,_⟩:=id R0;have r0:=e0a S0;refine lC0 Z U (x1b b0a (fun i=>[0,2,3,4,5,6,7,8,9,10,11,12,14,15,16].contains i) (.op 0 (.op 2 (.op 3 (.op 4 (.op 5 (.op 6 (.op 7 (.op 8 (.op 9 (.op 10 (.op 11 (.op 12 (.op 1 (.op 13 (.op 14 (.op 15 (.op 16 (.op 17 .nil)))))))))))))))))) (clE t0 0 [g7]) ?_);have a0:=t0.drew;have y0:t0a [] D0 D0.drew:=O2a _ _;generalize D0.drew=a1 at a0 y0 ⊢;have e0:t0a ([g7]) _ _:=y0.of_nil;replace KI:=KI.trans y0.of_nil;refine g1a ⟨St.er (a0) 0,e0⟩ Z Z Z ?_
   first|refine D1a L2a Z (fun w1 hw=>hw.1.cells 0 Z) Z Z ?_|refine D1a L2a Z (fun w1 hw=>hw.1.cells 1 Z) Z Z ?_|refine D1a L2a Z (fun w1 hw=>hw.1.cells 2 Z) Z Z ?_
   refine d0a ?_;refine g1a ⟨St.er (a0) 0,e0⟩ Z Z Z ?_
   first|refine M0a (hv:=Z) (v:=.slice _ _ _) Z ?_|refine M0a Z ?_
   refine d0a ?_;refine g1a ⟨St.er (a0) 0,e0⟩ Z Z Z ?_
   first|refine M0a (hv:=Z) (v:=.slice _ _ _) Z ?_|refine M0a Z ?_
   refine d0a ?_;refine g1a ⟨St.er (a0) 0,e0⟩ Z Z Z ?_
   first|refine M0a (hv:=Z) (v:=.int .i64 _) Z ?_|refine M0a Z ?_
   refine d0a ?_;refine g1a ⟨St.er (a0) 0,e0⟩ Z Z Z ?_;obtain⟨_,_,_,_,B0,_,z0,_,o0,A0⟩:=RdS.get (u0) (i) (by omega);obtain rfl:=Option.some.inj (C0.symm.trans B0);obtain⟨rfl,_⟩:=A0;refine w0a m1c.slT Z (by first|rfl|assumption) Z Z ?_;refine d0a ?_;refine g1a ⟨St.er (a0) 0,e0⟩ Z Z Z ?_;refine j0a W2d Z (fun w1 hw=>by first|exact hw.1.cell 0 Z Z|exact hw.1.cell 1 Z Z|exact hw.1.cell 2 Z Z|exact hw.1.old (o0 _ _ Z)|exact hw.1.old (o0 0 _ Z)) Z ?_;refine d0a ?_;refine g1a ⟨St.er (a0) 0,e0⟩ Z Z Z ?_;refine L6c Tryz.underlying5 Tryz.underlying3 Z Z ?_;rw[W4a (by unfold i64;omega)];refine d0a ?_;refine g1a ⟨St.er (a0) 0,e0⟩ Z Z Z ?_
   first|refine M0a (hv:=Z) (v:=.slice _ _ _) Z ?_|refine M0a Z ?_
   refine d0a ?_;refine g1a ⟨St.er (a0) 0,e0⟩ Z Z Z ?_;refine f2d L6a.slT Z Z ?_;refine d0a ?_;refine g1a ⟨St.er (a0) 0,e0⟩ Z Z Z ?_;refine H3d Z Z (by omega) (by omega) Z ?_;rw[hk];refine d0a ?_;refine g1a ⟨St.er (a0) 0,e0⟩ Z Z Z ?_;refine w0a L6a.slT Z (by first|rfl|assumption) Z Z ?_;refine d0a ?_;refine g1a ⟨St.er (a0) 0,e0⟩ Z Z Z ?_;refine D1a Z1b Z (fun w1 hw=>P0.keep hw.2 O0) Z Z ?_;refine d0a ?_;refine b2a ⟨St.er (a0) 0,e0⟩ Z Z Z ?_
   first|refine F2a S3a Z (a0.cells 0 Z) Z Z ?_|refine F2a S3a Z (a0.cells 1 Z) Z Z ?_|refine F2a S3a Z (a0.cells 2 Z) Z Z ?_|refine F2a S3a Z (o0.keep (a0.keep0 _) z0) (by first|rfl|assumption) Z ?_
   refine r0a ⟨Z,?_⟩;refine b2a ⟨St.er (a0) 0,e0⟩ Z Z Z ?_;refine n0a a0 Z1c Z Z (R9a p c x [g7,g6] _ _ _ (hI.ownL a0 (fun g hg=>by simp only[List.mem_cons,List.not_mem_nil,or_false] at hg;rcases hg with rfl|rfl;exact⟨0,_,_,Z⟩;exact⟨1,_,_,Z⟩)) (hY.keep KI) hg.1 (hg.2 Z) r0) ?_;rintro Z0 V0 ⟨_,rfl,G0⟩ q0 F0;have b0:=e0.trans (F0.mono (by simp));replace KI:=KI.trans (F0.of_nil);have KN:=t0a.refl [g7,g6] V0;obtain⟨_,_,_,_,_,_,_,_,_,rfl,-⟩:=G0.open_;refine r0a ⟨Z,?_⟩;refine g1a ⟨St.er (q0) 0,b0⟩ Z Z Z ?_
   first|refine M0a (hv:=Z) (v:=.tuple _) Z ?_|refine M0a Z ?_
   refine d0a ?_;refine g1a ⟨St.er (q0) 0,b0⟩ Z Z Z ?_;refine g2a Z Z Z ?_;refine d0a ?_;refine g1a ⟨St.er (q0) 0,b0⟩ Z Z Z ?_;refine g2a Z Z Z ?_;refine d0a ?_;refine b2a ⟨St.er (q0) 0,b0⟩ Z Z Z ?_
   first|refine c0a (kk:=0) (vs:=[_,_,_]) q0 Z3a Z Z Z Z Z Z Z ?_
   intro H0 f0 g0;dsimp only[i0a,List.set] at f0;have j0:=b0.trans (g0.mono (by simp));replace KI:=KI.fresh2 g0 (by first|exact .inl c0|exact .inr (by simp));replace KN:=KN.fresh2 g0 (by first|exact .inl c0|exact .inr (by simp));refine r0a ⟨Z,?_⟩;refine b3a ⟨St.er (f0) 0,j0⟩ ?_;refine fP0 Z ⟨by omega,U⟩ ⟨μi-1,by omega,Z,(i+1),(doC p 0 c x),(_),(by omega),(s7c hI.ok hg r0),(G0.keep KN),f0,Z⟩
  refine lO S.k [.w 0] Z ⟨⟨Z,by first|rfl|assumption⟩,U⟩ ?_
  first|refine c0a (kk:=1) (vs:=[_,_,_]) S Z3a Z Z Z Z Z Z Z ?_
  intro E0 d0 n0;dsimp only[i0a,List.set] at d0;replace KI:=KI.fresh2 n0 (by first|exact .inl c0|exact .inr (by simp));refine lR0 Z U ?_
  first
   | exact v0a (n:=3) Z S3a Z (d0.cells 1 Z) Z ⟨⟨c,_,Z,(hY.keep KI).less (by simp),hg⟩,d0.fin⟩
 refine lO S.k [.w 0] Z ⟨⟨Z,by first|rfl|assumption⟩,U⟩ ?_
 first|refine c0a (kk:=1) (vs:=[_,_,_]) S Z3a Z Z Z Z Z Z Z ?_
 intro E0 d0 n0;dsimp only[i0a,List.set] at d0;replace KI:=KI.fresh2 n0 (by first|exact .inl c0|exact .inr (by simp));refine lR0 Z U ?_
 first
  | exact v0a (n:=3) Z S3a Z (d0.cells 1 Z) Z ⟨⟨c,_,Z,(hY.keep KI).less (by simp),hg⟩,d0.fin⟩
def bV(bs:List Bool):List Value:=bs.map Value.bool
theorem s2d(bs:List Bool)(i:Nat):(bV bs).set i (.bool true)=bV (bs.set i true):=by simp[bV,List.map_set]
theorem m2d(bs:List Bool):(bV bs).length=bs.length:=by simp[bV]
theorem T3d{w:World}{g t:Nat}{bs:List Bool}{M:List Nat}(hb:o0a w (g,t,bV bs))(hg:g∉M)(hl:bs.length≤1000):RdB M w (.slice (some ⟨g,0,none⟩) bs.length bs.length) bs:=by
 refine⟨_,_,_,Z,Z,Nat.le_refl _,by unfold maxLen;omega,by omega,fun _=>⟨g,0,Z,hg,fun i x hi=>⟨[.bool x],Z,fun j v hj=>?_,Z⟩⟩⟩;cases j with
 | succ j=>simp at hj
 | zero =>
   simp at hj;subst hj;exact hb.cell (by unfold bV;rw[List.getElem?_map,show 0+i*1+0=i by omega,hi];rfl)
def Y4b(p:k0a)(t k j:Nat)(bs:List Bool):Prop:=bs.length=p.modules.length∧∀m:Nat,m<p.modules.length→(bs.getD m false=true↔b8a p t k j (m:Int))
theorem Y4b.zero{p:k0a}{t:Nat}:Y4b p t 0 0 (List.replicate p.modules.length false):=by
 refine⟨by simp,fun m hm=>?_⟩;rw[List.getD_eq_getElem?_getD,List.getElem?_replicate,if_pos hm];exact⟨fun h=>(by cases h),fun h=>absurd h b8a.zero⟩
theorem Y4b.step{p:k0a}{t k j:Nat}{bs:List Bool}{th:W0a}{s:G1a}(h:Y4b p t k j bs)(ht:p.threads[k]?=some th)(hs:th.steps[j]?=some s)(hm:0≤s.module_∧s.module_<p.modules.length):Y4b p t k (j+1) (bs.set s.module_.toNat true):=by
 refine⟨by rw[List.length_set];exact h.1,fun m a0=>?_⟩;rw[b8a.step ht hs,←h.2 m a0];by_cases he:s.module_.toNat=m
 ·rw[List.getD_eq_getElem?_getD,he,List.getElem?_set_self (by rw[h.1];exact a0)];exact⟨fun _=>.inr (by omega),fun _=>rfl⟩
 ·rw[List.getD_eq_getElem?_getD,List.getElem?_set_ne he,←List.getD_eq_getElem?_getD];exact⟨.inl,fun hh=>hh.elim id fun hh=>absurd hh (by omega)⟩
theorem Y4b.next{p:k0a}{t k:Nat}{bs:List Bool}{th:W0a}(h:Y4b p t k th.steps.length bs)(ht:p.threads[k]?=some th)(hk:k≠t):Y4b p t (k+1) 0 bs :=
 ⟨h.1,fun m hm=>(h.2 m hm).trans (b8a.next ht hk).symm⟩
theorem Y4b.skip{p:k0a}{t k:Nat}{bs:List Bool}(h:Y4b p t k 0 bs)(hk:k=t):Y4b p t (k+1) 0 bs :=
 ⟨h.1,fun m hm=>(h.2 m hm).trans (b8a.skip hk).symm⟩
theorem Y4b.oth{p:k0a}{t:Nat}{bs:List Bool}(hp:c1a p)(h:Y4b p t p.threads.length 0 bs):I1a p t=R3a bs:=by
 unfold I1a R3a Z1a;rw[h.1]
 congr 1
 apply List.filter_congr;intro m hm;rw[Bool.eq_iff_iff,h.2 m (List.mem_range.1 hm),←R6a hp];unfold I1a;simp only[List.mem_map,List.mem_filter,List.mem_range];constructor
 ·intro hh;exact⟨m,⟨List.mem_range.1 hm,hh⟩,Z⟩
 ·rintro⟨a,⟨_,ha⟩,he⟩;have:a=m:=by exact Int.ofNat_inj.1 he
  subst this;exact ha
theorem j9b(p:k0a)(t:Nat)(M:List Nat)(w0:World)(cs:List Value)(hI:InP p M w0 cs)(ht:t<1000):
 C0a prog 42 #[.agg cs.toArray,.int .i64 t,.bool false] w0 fun v w'=>(∃bs,Y4b p t p.threads.length 0 bs∧∀M,(∀g∈M,g<w0.heap.size)→RdB M w' v bs)∧Below w0.heap.size w0 w':=by
 obtain⟨Ac,nc,cc,Am,nm,cm,Al,nl,cl,At,nt,ct,rfl,_,_,_,x0,_,z0,_⟩:=hI.rd.open_;have hM:=hI.lt;have hp:=hI.ok;have n2:=hp.nthreads;have n3:=hp.nmodules;have S:=St.refl w0;refine a0a func42 Z ntmps42 Z ?_;refine wO0 Z U (p0a S Z ?_);intro g3 w3 S3 X3 G3;refine lO S3.k [.o 0] Z ⟨Z,U⟩ (f4a (n:=nm) (c:=nm) S3 K8a Z Z Z Z ?_);intro e0 Q0 C0 O0 N0;have u0:List.replicate nm (Value.bool false)=bV (List.replicate p.modules.length false):=by rw[bV,List.map_replicate,←z0]
 have c0:=C0;rw[u0] at c0;refine lC0 Z U (wL (fun μk D ε w=>D=[]∧∃k:Nat,∃bs:List Bool,(k+μk=(p.threads.length))∧(Y4b p t k 0 bs)∧St [] w0 w [(some e0,4,bV bs),(some g3,27,[.slice Ac nc cc,.slice Am nm cm,.slice Al nl cl,.slice At nt ct])]∧Sl ε [(1,.int .i64 t),(2,.bool false),(3,.pointer (some ⟨g3,0,none⟩)),(7,.slice (some ⟨e0,0,none⟩) nm nm),(8,.int .i64 k)]) (μ:=(p.threads.length)) ⟨Z,0,List.replicate p.modules.length false,by omega,Y4b.zero,c0,Z⟩ ?_);rintro μk D ε w ⟨rfl,k,bs,_,hS,S,eZ⟩;refine wK eZ (wB S.k [.o 1] Z ⟨Z,U⟩ (fun G0=>?_) fun G0=>?_)
 ·obtain⟨th,a0⟩:∃th,p.threads[k]?=some th:=⟨p.threads[k]'(by omega),List.getElem?_eq_getElem _⟩;have P0:=(hp.thread a0).nsteps;refine lC0 Z U (wL (fun μ D ε w=>D=[]∧∃j:Nat,∃bs:List Bool,(Y4b p t k j bs)∧(j+μ=1000)∧(j≤th.steps.length)∧(k=t→j=0)∧St [] w0 w [(some e0,4,bV bs),(some g3,27,[.slice Ac nc cc,.slice Am nm cm,.slice Al nl cl,.slice At nt ct])]∧Sl ε [(1,.int .i64 t),(2,.bool false),(3,.pointer (some ⟨g3,0,none⟩)),(7,.slice (some ⟨e0,0,none⟩) nm nm),(8,.int .i64 k),(9,.int .i64 j)]) (μ:=1000) ⟨Z,0,bs,hS,Z,Nat.zero_le _,(fun _=>rfl),S,Z⟩ ?_);rintro μ D ε w ⟨rfl,j,bs,hS,_,_,y0,S,eZ⟩;refine wK eZ ?_;obtain⟨_,D0,J0,_,s0,f0,_,_,j0,p0⟩:=RdS.get (x0) (k) (by omega);obtain rfl:=Option.some.inj (a0.symm.trans s0);obtain⟨_,_,_,_,_,_,_,_,_,_,_,_,rfl,_⟩:=R0a.open_ p0;refine wB (S.k.a j0) [.o 1,.x D0 J0,.f 0 4] Z ⟨Z,⟨f0,by omega⟩,Z,U⟩ (fun H0=>?_) fun H0=>?_
  ·refine lB0 Z U (fun I0=>?_) fun I0=>?_
   ·refine lP0 Z ⟨by omega,U⟩ ⟨μk-1,by omega,Z,(k+1),(_),(by omega),?_,S,Z⟩;by_cases h:k=t
    ·obtain rfl:j=0:=y0 h;exact hS.skip h
    ·obtain rfl:j=th.steps.length:=by omega
     exact hS.next a0 h
   obtain⟨_,E0,K0,_,t0,g0,_,_,m0,q0⟩:=RdS.get (x0) (k) (by omega);obtain rfl:=Option.some.inj (a0.symm.trans t0);obtain⟨_,_,_,_,_,_,_,_,_,_,_,_,rfl,_,_,_,d0,_⟩:=R0a.open_ q0;obtain⟨s,F0,L0,_,A0,i0,_,_,n0,r0⟩:=RdS.get (d0) (j) (by omega);obtain⟨_,_,_,_,_,_,rfl,⟨_,_⟩,_⟩:=d2a.open_ r0;have o0:0≤s.module_∧s.module_<p.modules.length:=((hp.thread a0).steps s (e0a A0)).mod;refine lO ((S.k.a n0).a m0) [.o 1,.x E0 K0,.f 0 4,.x F0 L0,.f 1 10,.i] Z ⟨by omega,Z,⟨i0,by omega⟩,Z,⟨g0,by omega⟩,Z,U⟩ ?_;refine f1a (hy:=Z) (kk:=0) (v:=.bool true) S w3c Z Z Z (by rw[m2d,hS.1];omega) ?_;intro B0 b0 v0;rw[show 0+s.module_.toNat*1=s.module_.toNat by omega,s2d] at b0;dsimp only[List.set] at b0;refine lP0 Z ⟨by omega,U⟩ ⟨μ-1,by omega,Z,(j+1),(_),(hS.step a0 A0 o0),(by omega),((by omega)),((fun h=>by omega)),b0,Z⟩
  refine lP0 Z ⟨by omega,U⟩ ⟨μk-1,by omega,Z,(k+1),(_),(by omega),?_,S,Z⟩;by_cases h:k=t
  ·obtain rfl:j=0:=y0 h;exact hS.skip h
  ·obtain rfl:j=th.steps.length:=by omega
   exact hS.next a0 h
 refine lR0 Z U (s0a Z ?_);have hl:=hS.1;exact⟨⟨bs,(show k=p.threads.length by omega)▸hS,fun M hM=>by
  have:=T3d (M:=M) (S.blk 0 Z) (fun hm=>by have h1:=hM _ hm;have h2:=S.new 0 Z;simp at h2;omega) (by omega);rw[hl,←z0] at this;exact this⟩,S.fin⟩
theorem o6b{p:k0a}{t:Int}{f:List Int}{k:Nat}{c:C1a}(h:p.cells[k]?=some c):N9b f (y5b p t (k+1))=if c.thread=t∧(k:Int)∉f then N9b f (y5b p t k)++[(k:Int)] else N9b f (y5b p t k):=by
 rw[Q5a h];by_cases h1:c.thread=t
 ·rw[if_pos h1];unfold N9b;rw[List.filter_append];by_cases h2:(k:Int)∈f<;>simp[h1,h2]
 ·rw[if_neg h1,if_neg (fun h=>h1 h.1)]
theorem z0c(p:k0a)(m:Nat)(md:B2a)(a0:p.modules[m]?=some md)(M:List Nat)(w0:World)(cs:List Value)(hI:InP p M w0 cs):
 C0a prog 17 #[.agg cs.toArray,.int .i64 m] w0 fun v w'=>(∃cs:List Value,v=.agg cs.toArray∧RdE M w' (W1a p m) cs)∧Below w0.heap.size w0 w':=by
 obtain⟨Ac,nc,cc,Am,nm,cm,Al,nl,cl,At,nt,ct,rfl,hC,H0,_⟩:=hI.rd.open_;have hM:=hI.lt;have hp:=hI.ok;have n1:=hp.ncells;have n3:=hp.nmodules;have r1:=F3a a0;have s1:=hp.modules md (e0a a0);have y0:(o2b p md).length≤100000:=by
  have:=A7a md.frame (ofL p (-1));have:=j4a p (-1) p.cells.length;unfold o2b ofL at *;simp;omega
 have S:=St.refl w0;refine a0a func17 Z ntmps17 Z ?_;refine wO0 Z U (p0a S Z ?_);intro g2 w2 S2 X2 G2;refine g0a S2 f2a Z Z ?_;intro g4 w4 S4 X4 G4;refine lO S4.k [.w 1] Z ⟨⟨Z,Z⟩,U⟩ (h0a S4 C1b Z Z (H4a p M _ _ (hI.keep (S4.keep0 M))) ?_);intro w8 S8 X8;refine lB0 Z U (fun V0=>by exfalso;omega) fun V0=>?_;refine lB S8.k [.o 1] Z ⟨Z,U⟩ (fun W0=>by exfalso;omega) fun W0=>?_;obtain⟨_,Q0,a1,_,C0,o0,_,_,u0,z0⟩:=RdS.get (H0) (m) (by omega);obtain rfl:=Option.some.inj (a0.symm.trans C0);obtain⟨_,_,_,_,_,_,_,_,_,rfl,_,s0,_⟩:=e1a.open_ z0;refine lO (S8.k.a u0) [.o 1,.x Q0 a1,.f 0 6] Z ⟨Z,⟨o0,by omega⟩,Z,U⟩ ?_;have d1:=RdE.keep (S8.keep0 _) _ _ (RdE.more (T3a S8 (k:=0) Z) _ _ s0);refine m0a S8 S0a (vs:=[.agg _]) (cs:=[_,_,_,_]) Z Z Z Z Z Z ?_;intro U0 w1 J0 O0 I0;refine F0a Z ?_;have e0:=F9a (d1.addNew O0 I0);refine lC0 Z U (wL (fun μk D ε w=>D=[]∧∃k:Nat,∃G:Option Nat,∃cs2:List Value,∃v:Value,(k+μk=(p.cells.length))∧(j1b (g4::M) w G cs2 v (md.guar::(N9b md.frame (y5b p (-1) k)).map (Y3a p)))∧St [] w0 w [(G,37,cs2),(some g4,37,[.int .i64 0,.int .i64 0,.int .i64 0,.slice none 0 0]),(some g2,27,[.slice Ac nc cc,.slice Am nm cm,.slice Al nl cl,.slice At nt ct])]∧Sl ε [(1,.int .i64 m),(2,.pointer (some ⟨g2,0,none⟩)),(4,.pointer (some ⟨g4,0,none⟩)),(5,v),(6,.int .i64 k)]) (μ:=(p.cells.length)) ⟨Z,0,some U0,_,_,by omega,e0,J0,Z⟩ ?_);rintro μk D ε w ⟨rfl,k,G,cs2,v,_,c0,S,eZ⟩;refine wK eZ ?_;have KQ:=t0a.refl (G.toList++g4::M) w;refine wB S.k [.o 2] Z ⟨Z,U⟩ (fun X0=>?_) fun X0=>?_
 ·obtain⟨y,R0,b1,_,E0,p0,_,_,v0,A0⟩:=RdS.get (hC) (k) (by omega);obtain⟨rfl,_⟩:=R2a.open_ A0;refine lB (S.k.a v0) [.o 2,.x R0 b1,.f 0 3] Z ⟨Z,⟨p0,by omega⟩,Z,U⟩ (fun Y0=>?_) fun Y0=>?_
  ·obtain⟨_,S0,c1,_,D0,q0,_,_,x0,B0⟩:=RdS.get (H0) (m) (by omega);obtain rfl:=Option.some.inj (a0.symm.trans D0);obtain⟨_,_,_,_,_,_,_,_,_,rfl,_,_,r0,_⟩:=e1a.open_ B0;refine lO (S.k.a x0) [.o 2,.x S0 c1,.f 0 10] Z ⟨Z,⟨q0,by omega⟩,Z,U⟩ (y0a S S2d Z Z (Z3c M _ _ md.frame k (r0.keep (S.keep0 M))) (fun Z0 f1 b0 m0=>?_) (fun Z0 f1 b0 m0=>?_))
   ·replace KQ:=KQ.trans (m0.of_nil);refine lP0 Z ⟨by omega,U⟩ ⟨μk-1,by omega,Z,(k+1),(_),(_),(_),(by omega),?_,b0,Z⟩;rw[o6b E0];have h9:(k:Int)∈md.frame:=of_decide_eq_true (by assumption);rw[if_neg (fun h=>h.2 h9)];exact c0.keep KQ
   replace KQ:=KQ.trans (m0.of_nil);refine lOn 6 b0.k [] Z U (K0a Z ?_);refine lO b0.k [.w 2] Z ⟨⟨Z,Z⟩,U⟩ (n0a b0 E5c Z Z (P6a p k (G.toList++g4::M) _ _ ⟨(hI.rd.more (fun x hx=>A4a b0 x (K3b 0 Z (N3b 1 Z) x hx))).keep (b0.keep0 _),hp,(hI.msk.more (fun x hx=>A4a b0 x (K3b 0 Z (N3b 1 Z) x hx))).keep (b0.keep0 _),fun x hx=>Q7a b0 hM x (K3b 0 Z (N3b 1 Z) x hx)⟩) ?_);rintro t1 x1 ⟨_,rfl,i0⟩ K0 P0;replace KQ:=KQ.trans (P0.of_nil);obtain⟨_,_,_,rfl,-⟩:=i0.open_;refine m0a K0 S0a (vs:=[.agg _]) (cs:=[_,_,_,_]) Z Z Z Z Z Z ?_;intro q1 y1 F0 G0 j1;replace i0:=RdE.keep (G0.of_nil) _ _ i0;replace KQ:=KQ.trans (G0.of_nil);have g0:=c0.keep KQ;refine r1a B3a (k:=1) (M2:=g4::M) (e1:=Y3a p k) F0 S0a Z g0 Z Z (F0.cells 0 Z) i0 (by have:=A7a md.frame (y5b p (-1) k);have:=j4a p (-1) k;simp;omega) Z ?_;intro u1 m1 T0 z1 L0 f0 o1 i1;refine F0a Z ?_;refine lP0 Z ⟨by omega,U⟩ ⟨μk-1,by omega,Z,(k+1),(_),(_),(_),(by omega),?_,L0.tail,Z⟩;rw[o6b E0];have h9:y.thread=-1∧(k:Int)∉md.frame:=⟨by omega,of_decide_eq_false (by assumption)⟩;rw[if_pos h9,List.map_append];exact f0
  refine lP0 Z ⟨by omega,U⟩ ⟨μk-1,by omega,Z,(k+1),(_),(_),(_),(by omega),?_,S,Z⟩;rw[o6b E0];have h9:¬(y.thread=-1∧(k:Int)∉md.frame):=fun h=>by have:=h.1;omega
  rw[if_neg h9];exact c0.keep KQ
 refine lOn 7 S.k [] Z U (K0a Z ?_);have t0:RdL (g4::M) w v (o2b p md):=by
  have hr:=c0;rw[show k=p.cells.length by omega] at hr;exact hr.rdL S (k:=0) Z (fun g hg hh=>by
   subst hg;rcases List.mem_cons.1 hh with hh|hh
   ·exact S.ne 0 1 Z Z (by omega) hh
   ·exact Y5a S (k:=0) Z hM hh) (by have:=A7a md.frame (ofL p (-1));have:=j4a p (-1) p.cells.length;unfold ofL at *;simp;omega)
 refine n0a S t6c Z Z (v0c (o2b p md) y0 (g4::M) _ _ t0 (S7a S 1 Z hM)) ?_;rintro v1 A1 ⟨_,rfl,j0⟩ N0 p1;obtain⟨_,_,_,rfl,-⟩:=j0.open_;refine c0a (kk:=1) (vs:=[_,_,_,_]) N0 q1a Z Z Z Z Z Z Z ?_;intro g1 d0 n0;dsimp only[i0a,List.set] at d0;replace j0:=RdE.keep (n0.mono (by simp)) _ _ j0;refine lR0 Z U (v0a Z I0a Z (d0.cells 1 Z) Z ⟨⟨_,Z,?_⟩,d0.fin⟩);unfold W1a F0d;rw[show((m:Int).toNat)=m by simp,getD_some a0];exact RdE.less (fun x hx=>List.mem_cons_of_mem _ hx) _ _ j0
theorem z7a(bs:List Bool)(k:Nat)(f:Int→E):(Z1a bs (k+1)).map f=(Z1a bs k).map f++(if bs.getD k false=true then[f k] else[]):=by
 rw[p3a,List.map_append]
 split<;>rfl
theorem H8c(p:k0a)(t:Nat)(ht:t<p.threads.length)(M:List Nat)(w0:World)(cs:List Value)(hI:InP p M w0 cs):
 C0a prog 19 #[.agg cs.toArray,.int .i64 t] w0 fun v w'=>(∃cs:List Value,v=.agg cs.toArray∧RdE M w' (onE p t) cs)∧Below w0.heap.size w0 w':=by
 obtain⟨Ac,nc,cc,Am,nm,cm,Al,nl,cl,At,nt,ct,rfl,hC,_⟩:=hI.rd.open_;have hM:=hI.lt;have hp:=hI.ok;have n1:=hp.ncells;have n2:=hp.nthreads;have n3:=hp.nmodules;have S:=(St.refl w0).nilEnt 37;refine a0a func19 Z ntmps19 Z ?_;refine wO0 Z U (p0a S Z ?_);intro g2 w2 S2 X2 G2;refine g0a S2 f2a Z Z ?_;intro g4 w4 S4 X4 G4;refine lO S4.k [.w 1] Z ⟨⟨Z,Z⟩,U⟩ (h0a S4 C1b Z Z (H4a p M _ _ (hI.keep (S4.keep0 M))) ?_);intro z1 j0 F1;refine lB0 Z U (fun r1=>by exfalso;omega) fun r1=>?_;refine lB j0.k [.o 1] Z ⟨Z,U⟩ (fun s1=>by exfalso;omega) fun s1=>?_;refine lOn 8 j0.k [] Z U (F0a Z ?_);refine lO j0.k [.w 1] Z ⟨⟨Z,Z⟩,U⟩ ?_;have f1:∀g∈g4::M,g<z1.heap.size:=S7a j0 0 Z hM;refine n0a j0 o1d Z Z (j9b p t M _ _ (hI.keep (j0.keep0 M)) (by omega)) ?_;rintro O1 I0 ⟨bs,hS,C0⟩ T0 G1;have B0:=C0 (g4::M) f1;obtain⟨Ab,nb,cb,rfl⟩:=B0.form;obtain⟨_,-,_⟩:=B0.len;have N1:=hS.1;have F0:=hS.oth hp;have KB:=t0a.refl (g4::M) I0;refine lC0 Z U (wL (fun μk D ε w=>D=[]∧∃k:Nat,∃G:Option Nat,∃cs2:List Value,∃v:Value,(k+μk=(bs.length))∧(j1b (g4::M) w G cs2 v ((Z1a bs k).map (W1a p)))∧(∀g∈G.toList,I0.heap.size≤g∨g∈g4::M)∧(t0a (g4::M) I0 w)∧St [] w0 w [(some g4,37,[.int .i64 0,.int .i64 0,.int .i64 0,.slice none 0 0]),(some g2,27,[.slice Ac nc cc,.slice Am nm cm,.slice Al nl cl,.slice At nt ct]),(G,37,cs2)]∧Sl ε [(1,.int .i64 t),(2,.pointer (some ⟨g2,0,none⟩)),(4,.pointer (some ⟨g4,0,none⟩)),(5,v),(6,.slice Ab nb cb),(7,.int .i64 k)]) (μ:=(bs.length)) ⟨Z,0,none,[],.slice none 0 0,by omega,j1b.nil,by simp,KB,T0,Z⟩ ?_);rintro μk D ε w ⟨rfl,k,G,cs2,v,_,d0,E0,KB,S,eZ⟩;refine wK eZ ?_;have KQ:=t0a.refl (G.toList++g4::M) w;refine wB0 Z U (fun t1=>?_) fun t1=>?_
 ·obtain⟨z,i1,x1,m1,w1,x0,_,_,o0,c0⟩:=RdS.get ((B0.keep KB)) (k) (by omega);obtain c0:=c0;obtain rfl:m1=[Value.bool z]:=c0;have hz:bs.getD k false=z:=by rw[List.getD_eq_getElem?_getD,w1];rfl
  refine lO S.k [.x i1 x1] Z ⟨⟨x0,by omega⟩,U⟩ ?_;cases n0:z
  ·refine H0a f3a Z (by exact(o0 0 _ Z).trans (congrArg (fun b=>some (Value.bool b)) n0)) Z ?_;refine lP0 Z ⟨by omega,U⟩ ⟨μk-1,by omega,Z,(k+1),(_),(_),(_),(by omega),?_,?_,(KB),S,Z⟩
   ·rw[z7a,hz];rw[if_neg (by simp[*]),List.append_nil];exact d0.keep KQ
   ·exact E0
  refine H0a f3a Z (by exact(o0 0 _ Z).trans (congrArg (fun b=>some (Value.bool b)) n0)) Z ?_;refine lOn 4 S.k [] Z U (K0a Z ?_);refine lO S.k [.w 1] Z ⟨⟨Z,Z⟩,U⟩ ?_;obtain⟨md,H0⟩:∃md,p.modules[k]?=some md:=⟨p.modules[k]'(by omega),List.getElem?_eq_getElem _⟩;refine n0a S R1d Z Z (z0c p k md H0 (G.toList++g4::M) _ _ ⟨(hI.rd.more (fun x hx=>A4a S x (K3b 2 Z (N3b 0 Z) x hx))).keep (S.keep0 _),hp,(hI.msk.more (fun x hx=>A4a S x (K3b 2 Z (N3b 0 Z) x hx))).keep (S.keep0 _),fun x hx=>Q7a S hM x (K3b 2 Z (N3b 0 Z) x hx)⟩) ?_;rintro P1 V1 ⟨_,rfl,r0⟩ U0 L0;replace KB:=KB.trans (L0.of_nil);replace KQ:=KQ.trans (L0.of_nil);obtain⟨_,_,_,rfl,-⟩:=r0.open_;refine m0a U0 S0a (vs:=[.agg _]) (cs:=[_,_,_,_]) Z Z Z Z Z Z ?_;intro K1 W1 J0 u0 B1;replace r0:=RdE.keep (u0.of_nil) _ _ r0;replace KB:=KB.trans (u0.of_nil);replace KQ:=KQ.trans (u0.of_nil);have p0:=d0.keep KQ;refine r1a B3a (k:=3) (M2:=g4::M) (e1:=W1a p k) J0 S0a Z p0 Z Z (J0.cells 0 Z) r0 (by have:=t2a bs k;simp;omega) Z ?_;intro Q1 C1 o1 X1 V0 e0 b1 R0;have g1:=KB.size;replace KB:=KB.freshL b1 E0;refine F0a Z ?_;refine lP0 Z ⟨by omega,U⟩ ⟨μk-1,by omega,Z,(k+1),(_),(_),(_),(by omega),?_,?_,(KB),V0.tail,Z⟩
  ·rw[z7a,hz];rw[if_pos (by assumption)];exact e0
  ·intro g hg;rcases R0 g hg with h|h;exact E0 g h;exact .inl (Nat.le_trans g1 h)
 refine lOn 7 S.k [] Z U (K0a Z ?_);have z0:RdL (g4::M) w v ((I1a p t).map (W1a p)):=by
  have hr:=d0;rw[show k=bs.length by omega,show Z1a bs bs.length=I1a p t from F0.symm] at hr;exact hr.rdL S (k:=2) Z (fun g hg hh=>by
   subst hg;rcases List.mem_cons.1 hh with hh|hh
   ·exact S.ne 0 2 Z Z (by omega) hh.symm
   ·exact Y5a S (k:=2) Z hM hh) (by have:=V6a p t;simp;omega)
 refine n0a S K1d Z Z (O1d ((I1a p t).map (W1a p)) (by have:=V6a p t;simp;omega) (g4::M) _ _ z0 (S7a S 0 Z hM)) ?_;rintro v45 Y1 ⟨_,rfl,P0⟩ W0 H1;obtain⟨_,_,_,rfl,-⟩:=P0.open_;refine m0a W0 S0a (vs:=[.agg _]) (cs:=[_,_,_,_]) Z Z Z Z Z Z ?_;intro q1 Z1 X0 c1 S0;refine F0a Z ?_;have f0:=F9a (P0.addNew c1 S0);refine lC0 Z U (wL (fun μj D ε w=>D=[]∧∃j:Nat,∃G2:Option Nat,∃v0:List Value,∃v2:Value,(j+μj=(p.cells.length))∧(j1b (g4::M) w G2 v0 v2 (F6a p t::(y5b p t j).map (Y3a p)))∧St [] w0 w [(G2,37,v0),(some g4,37,[.int .i64 0,.int .i64 0,.int .i64 0,.slice none 0 0]),(some g2,27,[.slice Ac nc cc,.slice Am nm cm,.slice Al nl cl,.slice At nt ct]),(G,37,cs2)]∧Sl ε [(1,.int .i64 t),(2,.pointer (some ⟨g2,0,none⟩)),(4,.pointer (some ⟨g4,0,none⟩)),(8,v2),(9,.int .i64 j)]) (μ:=(p.cells.length)) ⟨Z,0,some q1,_,_,by omega,f0,X0,Z⟩ ?_);rintro μj D ε w ⟨rfl,j,G2,v0,v2,_,b0,S,eZ⟩;refine wK eZ ?_;have i0:=t0a.refl (G2.toList++g4::M) w;refine wB S.k [.o 2] Z ⟨Z,U⟩ (fun u1=>?_) fun u1=>?_
 ·obtain⟨y,j1,y1,_,O0,y0,_,_,D0,G0⟩:=RdS.get (hC) (j) (by omega);obtain⟨rfl,_⟩:=R2a.open_ G0;refine lB (S.k.a D0) [.o 2,.x j1 y1,.f 0 3] Z ⟨Z,⟨y0,by omega⟩,Z,U⟩ (fun v1=>?_) fun v1=>?_
  ·refine lOn 4 S.k [] Z U (K0a Z ?_);refine lO S.k [.w 2] Z ⟨⟨Z,Z⟩,U⟩ (n0a S E5c Z Z (P6a p j (G2.toList++g4::M) _ _ ⟨(hI.rd.more (fun x hx=>A4a S x (K3b 0 Z (N3b 1 Z) x hx))).keep (S.keep0 _),hp,(hI.msk.more (fun x hx=>A4a S x (K3b 0 Z (N3b 1 Z) x hx))).keep (S.keep0 _),fun x hx=>Q7a S hM x (K3b 0 Z (N3b 1 Z) x hx)⟩) ?_);rintro R1 a2 ⟨_,rfl,s0⟩ Y0 d1;replace i0:=i0.trans (d1.of_nil);obtain⟨_,_,_,rfl,-⟩:=s0.open_;refine m0a Y0 S0a (vs:=[.agg _]) (cs:=[_,_,_,_]) Z Z Z Z Z Z ?_;intro M1 b2 K0 N0 D1;replace s0:=RdE.keep (N0.of_nil) _ _ s0;replace i0:=i0.trans (N0.of_nil);have q0:=b0.keep i0;refine r1a B3a (k:=1) (M2:=g4::M) (e1:=Y3a p j) K0 S0a Z q0 Z Z (K0.cells 0 Z) s0 (by have:=j4a p t j;simp;omega) Z ?_;intro T1 E1 p1 d2 Z0 g0 I1 A1;refine F0a Z ?_;refine lP0 Z ⟨by omega,U⟩ ⟨μj-1,by omega,Z,(j+1),(_),(_),(_),(by omega),?_,Z0.tail,Z⟩;rw[Q5a O0];have h9:y.thread=t:=by omega
   rw[if_pos h9,List.map_append];exact g0
  refine lP0 Z ⟨by omega,U⟩ ⟨μj-1,by omega,Z,(j+1),(_),(_),(_),(by omega),?_,S,Z⟩;rw[Q5a O0];have h9:¬(y.thread=t):=fun h=>by omega
  rw[if_neg h9];exact b0.keep i0
 refine lOn 7 S.k [] Z U (K0a Z ?_);have A0:RdL (g4::M) w v2 (F6a p t::(ofL p t).map (Y3a p)):=by
  have hr:=b0;rw[show j=p.cells.length by omega] at hr;exact hr.rdL S (k:=0) Z (fun g hg hh=>by
   subst hg;rcases List.mem_cons.1 hh with hh|hh
   ·exact S.ne 0 1 Z Z (by omega) hh
   ·exact Y5a S (k:=0) Z hM hh) (by have:=j4a p t p.cells.length;simp;omega)
 refine n0a S t6c Z Z (v0c (F6a p t::(ofL p t).map (Y3a p)) (by have:=j4a p t p.cells.length;unfold ofL;simp;omega) (g4::M) _ _ A0 (S7a S 1 Z hM)) ?_;rintro U1 e2 ⟨_,rfl,t0⟩ a1 J1;obtain⟨_,_,_,rfl,-⟩:=t0.open_;refine c0a (kk:=1) (vs:=[_,_,_,_]) a1 q1a Z Z Z Z Z Z Z ?_;intro Q0 a0 m0;dsimp only[i0a,List.set] at a0;replace t0:=RdE.keep (m0.mono (by simp)) _ _ t0;exact lR0 Z U (v0a Z I0a Z (a0.cells 1 Z) Z ⟨⟨_,Z,RdE.less (fun x hx=>List.mem_cons_of_mem _ hx) _ _ t0⟩,a0.fin⟩)
theorem k5b(p:k0a)(M:List Nat)(w0:World)(cs:List Value)(hP:Y0a M w0 p cs)(hM:∀g∈M,g<w0.heap.size)(hN:U0b p):
 C0a prog 20 #[.agg cs.toArray] w0 fun v w'=>(∃b,v=.bool b∧(b=true→c1a p))∧Below w0.heap.size w0 w':=by
 obtain⟨_,_,_,_,_,_,_,_,_,_,_,_,rfl,-⟩:=hP.open_;have S:=St.refl w0;refine a0a func20 Z ntmps20 Z ?_;refine wO0 Z U (p0a S Z ?_);intro g1 w1 S1 X1 G1;refine lO S1.k [.w 0] Z ⟨⟨Z,Z⟩,U⟩ (n0a S1 F5c Z Z (g9b p M _ _ (hP.keep (S1.keep0 M)) (fun g hg=>Nat.lt_of_lt_of_le (hM g hg) S1.size) hN) ?_);rintro v8 w8 ⟨_,_,_,rfl,hv⟩ S8 X8;refine lB0 Z U (fun a0=>?_) fun a0=>?_
 ·exact lT Z U Z ⟨⟨_,Z,fun _=>hv a0⟩,S8.fin⟩
 exact lT Z U Z ⟨⟨_,Z,fun h=>by cases h⟩,S8.fin⟩
theorem L0c(p:k0a)(M:List Nat)(w0:World)(cs:List Value)(hP:Y0a M w0 p cs)(hM:∀g∈M,g<w0.heap.size)(hN:U0b p):
 C0a prog 25 #[.agg cs.toArray] w0 fun v w'=>(∃b,v=.bool b∧(b=true→c1a p))∧Below w0.heap.size w0 w':=by
 obtain⟨_,_,_,_,_,_,_,_,_,_,_,_,rfl,-⟩:=hP.open_;have S:=St.refl w0;refine a0a func25 Z ntmps25 Z ?_;refine wO0 Z U (p0a S Z ?_);intro g1 w1 S1 X1 G1;refine lO S1.k [.w 0] Z ⟨⟨Z,Z⟩,U⟩ (Y2b S1 z1d Z Z (X4c p M _ _ (hP.keep (S1.keep0 M))) (fun h4 w4 S4 X4=>?_) (fun w4 S4 X4=>?_))
 ·refine lO S4.k [.w 0] Z ⟨⟨Z,Z⟩,U⟩ (Y2b S4 C1b Z Z (k5b p M _ _ (hP.keep (S4.keep0 M)) (fun g hg=>Nat.lt_of_lt_of_le (hM g hg) S4.size) hN) (fun h7 w7 S7 X7=>?_) (fun w7 S7 X7=>?_))
  ·exact lT Z U Z ⟨⟨_,Z,fun _=>h7⟩,S7.fin⟩
  exact lT Z U Z ⟨⟨_,Z,fun h=>by cases h⟩,S7.fin⟩
 exact lT Z U Z ⟨⟨_,Z,fun h=>by cases h⟩,S4.fin⟩
def moreW(p:k0a)(t:Nat)(l:List Int)(k:Nat):Int:=N3a (((List.range k).filter fun(c:Nat)=>!decide ((c:Int)∈l)&&(decide ((c:Int)∈(onE p t).sup 3)||decide ((c:Int)∈(onE p t).sup 2))).map fun(c:Nat)=>wAt p.cells (c:Int))
def j3d(p:k0a)(c:d1a)(t:Nat)(x:y1a):Bool:=decide (x.thread≠t)&&decide ((W1a p ((U2a p x.thread.toNat).getD x.step.toNat ⟨0,0,0,zE,[],false,0,0⟩).module_).evl c.mem (doC p 0 c x).mem=1)
theorem c1b{i:Nat}:∀{s:List E2a} {v m:List Int},(∀a∈s,a.cell.toNat≠i)→(c5b s v m).getD i 0=m.getD i 0
 | [],_,_,_=>rfl
 | a::s,v,m,h=>by
   show(c5b s v (m.set a.cell.toNat (a.to.evl v v))).getD i 0=_
   rw[c1b fun b hb=>h b (List.mem_cons_of_mem _ hb),List.getD_eq_getElem?_getD,List.getElem?_set_ne (h a (by simp)),List.getD_eq_getElem?_getD]
theorem H7b{p:k0a}{e:E}(hv:e.valid p.cells true=true)(hw:e.w=1)(o n:List Int):(e.evl o n=1↔e.val o n=1)∧(e.evl o n≠0↔e.val o n=1):=by
 have h1:=(x2a hv).1;have he:e.evl o n=e.val o n:=by unfold E.evl;rw[if_pos h1]
 have hr:=T5a (x2a hv).2.1 o n;rw[hw] at hr;have h2:i3a (1:Int).toNat=2:=by decide
 rw[he];constructor<;>omega
theorem M5c{op unit:Int}(hu:unit=0∨unit=1){l:List E}(h:W2a op unit l≠zE):(W2a op unit l).w=1:=by
 rcases v4a (op:=op) hu l with h1|h1
 ·exact absurd h1 h
 ·exact h1.2
theorem T0c{p:k0a}(hp:c1a p){t u i:Nat}{th:W0a}{s:G1a}(a0:p.threads[t]?=some th)(c0:th.steps[i]?=some s)(b0:u≠t):s.module_∈I1a p u :=
 (R6a hp).2 (.inl ⟨t,th,s,F3a a0,fun h=>b0 h.symm,a0,e0a c0,Z⟩)
theorem U5c{p:k0a}(hp:c1a p){t i:Nat}{th:W0a}{s:G1a}(a0:p.threads[t]?=some th)(b0:th.steps[i]?=some s):0≤s.module_∧s.module_<p.modules.length:=by
 have h:=((hp.thread a0).steps s (e0a b0)).mod;unfold J2a at h;exact h
theorem B9b{p:k0a}(hp:c1a p){c:d1a}(hb:L7a c){t i:Nat}{th:W0a}{s:G1a}(a0:p.threads[t]?=some th)(c0:th.steps[i]?=some s){x:Int}(e0:0≤x)(hx:x1a p.cells x≠t)(d0:x1a p.cells x≠-1):J0c p c.mem (doC p 0 c ⟨t,i,0⟩).mem x:=by
 unfold J0c;rw[d3d hb a0 c0];have b0:=(hp.thread a0).steps s (e0a c0);rw[c1b fun a ha h=>?_];have h1:=(b0.set a ha).1;unfold J2a at h1;have:a.cell=x:=by omega
 have h2:=b0.row.cells a ha;rw[this] at h2;rcases h2 with h2|h2
 ·exact hx h2
 ·exact d0 h2
theorem x7c{p:k0a}(hp:c1a p){c:d1a}(hb:L7a c){t i:Nat}{th:W0a}{s:G1a}(a0:p.threads[t]?=some th)(c0:th.steps[i]?=some s){u:Nat}(g0:u≠t)(h1:(W1a p s.module_).evl c.mem (doC p 0 c ⟨t,i,0⟩).mem≠0)(b0:onE p u≠zE):(onE p u).evl c.mem (doC p 0 c ⟨t,i,0⟩).mem=1:=by
 have d0:=T0c hp a0 c0 g0;have e0:=(f8b b0).2 _ d0;have f0:=U5c hp a0 c0;rw[(H7b (H3b hp b0) (M5c (.inr rfl) b0) _ _).1,c1d hp b0];refine⟨⟨_,d0,((H7b (z9b hp f0 e0) (M5c (.inr Z) e0) _ _).2).1 h1⟩,fun x h0 _ h3=>B9b hp hb a0 c0 h0 (by rw[h3];omega) (by rw[h3];omega)⟩
theorem v1a.mem0{M:List Nat}{w:World}{c:d1a}{A:Option Addr}{n m:Nat}{u v:Value}(h:v1a M w c [.slice A n m,u,v]):RdI M w (.slice A n m) c.mem:=by
 obtain⟨_,_,_,_,_,_,_,_,_,he,a0,-⟩:=h.open_;simp only[List.cons.injEq,Value.slice.injEq] at he;obtain⟨⟨rfl,rfl,rfl⟩,-⟩:=he;exact a0
theorem k9a(p:k0a)(D0:List Int)(w0:World)(cs:List Value)(vp:Value)(hP:Y0a [] w0 p cs)(a2:U0b p)(hK:A2a [] w0)(hN:N7a [] w0)(r1:N3d [] w0 vp D0):
 C0a prog 4 #[.agg cs.toArray,vp] w0 fun v w'=>v=.bool true∧Below w0.heap.size w0 w':=by
 obtain⟨Ac,nc,cc,Am,nm,cm,Al,nl,cl,At,nt,ct,rfl,_,_,_,b2,_⟩:=hP.open_;obtain⟨_,_,_,rfl⟩:=r1.form;obtain⟨_,-,_⟩:=r1.len;have S:=St.refl w0;refine a0a func4 Z ntmps4 Z ?_;refine wO0 Z U (p0a S Z ?_);intro g2 w2 S2 X2 G2;refine lO0 Z U (h0a S2 y2d Z Z (j3c _ (hK.keep (S2.keep0 [])) (hN.keep (S2.keep0 []))) ?_);intro F2 p1 z2;refine lO p1.k [.w 0] Z ⟨⟨Z,Z⟩,U⟩ (Y2b p1 s1d Z Z (L0c p [] _ _ (hP.keep (p1.keep0 [])) (by simp) a2) (fun V1 s2 F0 Q1=>?_) (fun s2 F0 Q1=>?_))
 ·refine lB0 Z U (fun W1=>?_) fun W1=>?_
  ·exact lT Z U Z ⟨Z,F0.fin⟩
  have hI:InP p [] w0 [.slice Ac nc cc,.slice Am nm cm,.slice Al nl cl,.slice At nt ct]:=⟨hP,V1,hK,by simp⟩;have hp:=hI.ok;refine lO F0.k [.w 0] Z ⟨⟨Z,Z⟩,U⟩ (n0a F0 d2d Z Z (P2c p 20 D0 _ _ _ (hI.keep (F0.keep0 [])) (r1.keep (F0.keep0 []))) ?_);rintro v25 t2 ⟨c,_,rfl,hX,hg⟩ O1 A2;obtain⟨Xm,xm,ym,Xa,xa,ya,Xb,xb,yb,rfl,_,-⟩:=hX.open_;have KX:=t0a.refl [] t2;refine g0a O1 d6a Z Z ?_;intro g6 w6 S6 X6 G6;have o1:=Nat.le_trans KX.size G6;replace KX:=KX.trans X6;refine c0a (kk:=0) (vs:=[_,_,_]) S6 Z3a Z Z Z Z Z Z Z ?_;intro u2 z0 q1;dsimp only[i0a,List.set] at z0;replace KX:=KX.fresh q1 (by first|exact o1);refine lO z0.k [.w 1,.w 0] Z ⟨⟨Z,by rfl⟩,⟨Z,Z⟩,U⟩ (n0a z0 O0c Z Z (F4a p c [] [] _ _ _ (hI.keep (z0.keep0 [])) (hX.keep KX.of_nil) hg.1 (hg.2 Z) (by simp)) ?_);rintro v28 H2 hE P1 R1;replace KX:=KX.trans R1;obtain⟨Ae,ne,ce,rfl⟩:=hE.form;obtain⟨_,-,_⟩:=hE.len;refine lC0 Z U (wL (fun μi D ε w=>D=[]∧∃i:Nat,(i+μi=((T1a p 0 c).length))∧(v1a [] w c [.slice Xm xm ym,.slice Xa xa ya,.slice Xb xb yb])∧(e9c [] w (.slice Ae ne ce) (T1a p 0 c))∧St [] w0 w [(some g6,50,[.slice Xm xm ym,.slice Xa xa ya,.slice Xb xb yb]),(some g2,27,[.slice Ac nc cc,.slice Am nm cm,.slice Al nl cl,.slice At nt ct])]∧Sl ε [(2,.pointer (some ⟨g2,0,none⟩)),(5,.bool true),(6,.pointer (some ⟨g6,0,none⟩)),(7,.slice Ae ne ce),(8,.int .i64 i)]) (μ:=((T1a p 0 c).length)) ⟨Z,0,by omega,hX.keep KX.of_nil,hE,P1,Z⟩ ?_);rintro μi D ε w ⟨rfl,i,_,hX,hE,S,eZ⟩;refine wK eZ ?_;have KL:=t0a.refl [] w;refine wB0 Z U (fun X1=>?_) fun X1=>?_
  ·refine lCn 7 S.k [] Z U (wX (fun D ε w=>D=[]∧∃g9:Nat,∃ys:List Value,∃x:y1a,((T1a p 0 c)[i]?=some x)∧(v1a [] w (doC p 0 c x) ys)∧(v1a [] w c [.slice Xm xm ym,.slice Xa xa ya,.slice Xb xb yb])∧(e9c [] w (.slice Ae ne ce) (T1a p 0 c))∧St [] w0 w [(some g9,50,ys),(some g6,50,[.slice Xm xm ym,.slice Xa xa ya,.slice Xb xb yb]),(some g2,27,[.slice Ac nc cc,.slice Am nm cm,.slice Al nl cl,.slice At nt ct])]∧Sl ε [(2,.pointer (some ⟨g2,0,none⟩)),(5,.bool true),(6,.pointer (some ⟨g6,0,none⟩)),(7,.slice Ae ne ce),(8,.int .i64 i),(9,.pointer (some ⟨g9,0,none⟩))]) ?_ ?_)
   ·obtain⟨x,_,_,_,J0,_,I1,_,J1,e2⟩:=RdS.get hE i (by omega);obtain⟨rfl,_⟩:=id e2;have b1:=e0a J0;refine x3d b0a (fun i=>[0,1,2,3,4,5,7,8,9,12].contains i) 10 6 [10,0,1,2,3,4,5,6,7,8,9,11,12] [0,1,2,3,4,5,6,10,7,8,9,11,12] (by kernel_rfl) (b3d S) ?_ ?_
    ·have v0:=S.drew;have I0:t0a [] w w.drew:=O2a _ _;generalize w.drew=y2 at v0 I0 ⊢;replace KL:=KL.trans I0;have a0:=I0;refine J0d ⟨v0,a0⟩ Z Z Z ?_;refine g0a v0 d6a Z Z ?_;intro g9 w9 S9 X9 G9;have n1:=Nat.le_trans KL.size G9;have m0:=Nat.le_trans a0.size G9;replace KL:=KL.trans X9;replace a0:=a0.trans X9;refine r0a ⟨Z,?_⟩;refine U1b ⟨S9.tail,a0⟩ Z Z Z ?_;refine D1a L2a Z (fun w1 hw=>hw.1.cells 1 Z) Z Z ?_;refine d0a ?_;refine U1b ⟨S9.tail,a0⟩ Z Z Z ?_;refine D1a S3a Z (fun w1 hw=>hw.1.cells 0 Z) Z Z ?_;refine d0a ?_;refine U1b ⟨S9.tail,a0⟩ Z Z Z ?_;refine M0a (hv:=Z) (v:=.slice _ _ _) Z ?_;refine d0a ?_;refine U1b ⟨S9.tail,a0⟩ Z Z Z ?_;refine M0a (hv:=Z) (v:=.int .i64 _) Z ?_;refine d0a ?_;refine U1b ⟨S9.tail,a0⟩ Z Z Z ?_;refine w0a L6a.slT Z (by assumption) Z Z ?_;refine d0a ?_;refine U1b ⟨S9.tail,a0⟩ Z Z Z ?_;refine D1a Z1b Z (fun w1 hw=>J1.keep hw.2 I1) Z Z ?_;refine d0a ?_;refine J0d ⟨S9.tail,a0⟩ Z Z Z ?_;refine n0a S9 Z1c Z Z (R9a p c x (g9::[]) _ _ _ (hI.add S9 (k:=0) Z) ((hX.more (M':=[g9]) (fun g hg=>.inr (by rw[List.mem_singleton.1 hg];exact n1))).keep KL.of_nil) hg.1 (hg.2 Z) b1) ?_;rintro n2 M1 ⟨ys,rfl,hY⟩ B0 X0;replace KL:=KL.trans X0;replace a0:=a0.trans X0;obtain⟨Va,va,R0,Vb,vb,i1,Vc,vc,j1,rfl,-⟩:=hY.open_;refine r0a ⟨Z,?_⟩;refine U1b ⟨B0.tail,a0⟩ Z Z Z ?_;refine M0a (hv:=Z) (v:=.tuple _) Z ?_;refine d0a ?_;refine U1b ⟨B0.tail,a0⟩ Z Z Z ?_;refine g2a Z Z Z ?_;refine d0a ?_;refine U1b ⟨B0.tail,a0⟩ Z Z Z ?_;refine g2a Z Z Z ?_;refine d0a ?_;refine J0d ⟨B0.tail,a0⟩ Z Z Z ?_;refine c0a (kk:=0) (vs:=[_,_,_]) B0 Z3a Z Z Z Z Z Z Z ?_;intro f1 i0 o0;dsimp only[i0a,List.set] at i0;replace KL:=KL.fresh o0 (by exact m0);replace a0:=a0.fresh o0 (by exact m0);replace hY:=hY.keep (o0.mono (by simp));refine r0a ⟨Z,?_⟩;refine U1b ⟨i0.tail,a0⟩ Z Z Z ?_;refine G3a (v:=.int .i64 _) Z Z ?_;refine d0a ?_;refine C5c ⟨i0.tail,a0⟩ ?_;refine fP0 Z U ⟨Z,(g9),(_),(x),(J0),((by exact hY.less (by simp))),(hX.keep KL.of_nil),(hE.keep KL.of_nil),i0,Z⟩
    have v0:=S.drew;have I0:t0a [] w w.drew:=O2a _ _;generalize w.drew=y2 at v0 I0 ⊢;replace KL:=KL.trans I0;have a0:=I0;refine U1b ⟨v0,a0⟩ Z Z Z ?_;refine D1a L2a Z (fun w1 hw=>hw.1.cells 1 Z) Z Z ?_;refine d0a ?_;refine U1b ⟨v0,a0⟩ Z Z Z ?_;refine D1a S3a Z (fun w1 hw=>hw.1.cells 0 Z) Z Z ?_;refine d0a ?_;refine U1b ⟨v0,a0⟩ Z Z Z ?_;refine M0a (hv:=Z) (v:=.slice _ _ _) Z ?_;refine d0a ?_;refine U1b ⟨v0,a0⟩ Z Z Z ?_;refine M0a (hv:=Z) (v:=.int .i64 _) Z ?_;refine d0a ?_;refine U1b ⟨v0,a0⟩ Z Z Z ?_;refine w0a L6a.slT Z (by assumption) Z Z ?_;refine d0a ?_;refine U1b ⟨v0,a0⟩ Z Z Z ?_;refine D1a Z1b Z (fun w1 hw=>J1.keep hw.2 I1) Z Z ?_;refine d0a ?_;refine J0d ⟨v0,a0⟩ Z Z Z ?_;refine n0a v0 Z1c Z Z (R9a p c x [] _ _ _ (hI.keep (v0.keep0 [])) (hX.keep KL.of_nil) hg.1 (hg.2 Z) b1) ?_;rintro n2 M1 ⟨ys,rfl,hY⟩ B0 X0;replace KL:=KL.trans X0;replace a0:=a0.trans X0;have KC:=t0a.refl [] M1;obtain⟨Va,va,R0,Vb,vb,i1,Vc,vc,j1,rfl,-⟩:=hY.open_;refine r0a ⟨Z,?_⟩;refine J0d ⟨B0,a0⟩ Z Z Z ?_;refine g0a B0 d6a Z Z ?_;intro g9 w9 S9 X9 G9;have m0:=Nat.le_trans a0.size G9;have m1:=Nat.le_trans KC.size G9;replace KL:=KL.trans X9;replace a0:=a0.trans X9;replace KC:=KC.trans X9;refine r0a ⟨Z,?_⟩;refine U1b ⟨S9.tail,a0⟩ Z Z Z ?_;refine M0a (hv:=Z) (v:=.tuple _) Z ?_;refine d0a ?_;refine U1b ⟨S9.tail,a0⟩ Z Z Z ?_;refine g2a Z Z Z ?_;refine d0a ?_;refine U1b ⟨S9.tail,a0⟩ Z Z Z ?_;refine g2a Z Z Z ?_;refine d0a ?_;refine J0d ⟨S9.tail,a0⟩ Z Z Z ?_;refine c0a (kk:=0) (vs:=[_,_,_]) S9 Z3a Z Z Z Z Z Z Z ?_;intro f1 i0 o0;dsimp only[i0a,List.set] at i0;replace KL:=KL.fresh o0 (by exact m0);replace a0:=a0.fresh o0 (by exact m0);replace KC:=KC.fresh o0 (by exact m1);refine r0a ⟨Z,?_⟩;refine U1b ⟨i0.tail,a0⟩ Z Z Z ?_;refine G3a (v:=.int .i64 _) Z Z ?_;refine d0a ?_;refine C5c ⟨i0.tail,a0⟩ ?_;refine fP0 Z U ⟨Z,(g9),(_),(x),(J0),((by exact hY.keep KC.of_nil)),(hX.keep KL.of_nil),(hE.keep KL.of_nil),i0,Z⟩
   rintro D ε w ⟨rfl,g9,ys,x,J0,hY,hX,hE,S,eZ⟩;refine wK eZ ?_;obtain⟨Va,va,R0,Vb,vb,i1,Vc,vc,j1,rfl,g0,-⟩:=hY.open_;have KY:=t0a.refl [] w;obtain⟨y,_,_,_,A1,_,_,_,u1,h2⟩:=RdS.get hE i (by omega);obtain rfl:=Option.some.inj (J0.symm.trans A1);obtain⟨rfl,_⟩:=id h2;obtain⟨tq,iq,_,s,i2,A0,g1,_⟩:=v6b (hg.2 Z) (e0a J0);subst i2;dsimp only at u1;have D2:=F3a A0;have C2:=F3a g1;have d2:=U5c hp A0 g1;obtain⟨m,hm⟩:=Int.eq_ofNat_of_zero_le d2.1;obtain⟨md,c1⟩:∃md,p.modules[m]?=some md:=⟨p.modules[m]'(by omega),List.getElem?_eq_getElem _⟩;refine wX (fun D ε w=>D=[]∧∃C0:Nat,∃E0:Option Addr,∃K0:Nat,∃L0:Nat,(RdE [] w (W1a p s.module_) [.int .i64 (W1a p s.module_).op,.int .i64 (W1a p s.module_).w,.int .i64 (W1a p s.module_).n,.slice E0 K0 L0])∧(v1a [] w c [.slice Xm xm ym,.slice Xa xa ya,.slice Xb xb yb])∧(e9c [] w (.slice Ae ne ce) (T1a p 0 c))∧(RdI [] w (.slice Va va R0) (doC p 0 c ⟨tq,iq,0⟩).mem)∧(RdI [] w (.slice Xm xm ym) c.mem)∧St [] w0 w [(some C0,37,[.int .i64 (W1a p s.module_).op,.int .i64 (W1a p s.module_).w,.int .i64 (W1a p s.module_).n,.slice E0 K0 L0]),(some g9,50,[.slice Va va R0,.slice Vb vb i1,.slice Vc vc j1]),(some g6,50,[.slice Xm xm ym,.slice Xa xa ya,.slice Xb xb yb]),(some g2,27,[.slice Ac nc cc,.slice Am nm cm,.slice Al nl cl,.slice At nt ct])]∧Sl ε [(2,.pointer (some ⟨g2,0,none⟩)),(5,.bool true),(6,.pointer (some ⟨g6,0,none⟩)),(7,.slice Ae ne ce),(8,.int .i64 i),(9,.pointer (some ⟨g9,0,none⟩)),(11,.pointer (some ⟨C0,0,none⟩))]) ?_ ?_
   ·refine x1b b0a (fun i=>[0,1,2,3,4,5,6,7,8,9,10,11,12,13,14,15,16,17,18].contains i) (.op 0 (.op 1 (.op 2 (.op 3 (.op 4 (.op 5 (.op 6 (.op 7 (.op 8 (.op 9 (.op 10 (.op 11 (.op 12 (.op 13 (.op 14 (.op 15 (.op 16 (.op 17 (.op 18 (.two (.op 19 (.op 20 (.op 21 .nil))) (.op 20 (.op 19 (.op 21 .nil))))))))))))))))))))))) (b3d S) ?_;have f0:=S.drew;have e0:t0a [] w w.drew:=O2a _ _;generalize w.drew=v2 at f0 e0 ⊢;replace KY:=KY.trans e0;refine g1a ⟨f0,e0⟩ Z Z Z ?_;refine D1a L2a Z (fun w1 hw=>hw.1.cells 2 Z) Z Z ?_;refine d0a ?_;refine g1a ⟨f0,e0⟩ Z Z Z ?_;refine J0a Q5b Z Z ?_;refine d0a ?_;refine g1a ⟨f0,e0⟩ Z Z Z ?_;refine j0a h1c Z (fun w1 hw=>by exact hw.1.cell 2 Z Z) Z ?_;refine d0a ?_;refine g1a ⟨f0,e0⟩ Z Z Z ?_;refine M0a (hv:=Z) (v:=.slice _ _ _) Z ?_;refine d0a ?_;refine g1a ⟨f0,e0⟩ Z Z Z ?_;refine M0a (hv:=Z) (v:=.int .i64 _) Z ?_;refine d0a ?_;refine g1a ⟨f0,e0⟩ Z Z Z ?_;refine w0a L6a.slT Z (by assumption) Z Z ?_;refine d0a ?_;refine g1a ⟨f0,e0⟩ Z Z Z ?_;refine J0a g7b Z Z ?_;refine d0a ?_;refine g1a ⟨f0,e0⟩ Z Z Z ?_;refine j0a A0a Z (fun w1 hw=>by exact hw.2.cell List.not_mem_nil (u1 0 _ Z)) Z ?_;refine d0a ?_;refine g1a ⟨f0,e0⟩ Z Z Z ?_;obtain⟨_,_,_,_,y1,_,_,_,s1,v1⟩:=RdS.get (b2) (tq) (by omega);obtain rfl:=Option.some.inj (A0.symm.trans y1);obtain⟨_,_,_,_,_,_,_,_,_,_,_,_,rfl,_,_,_,a1,_⟩:=R0a.open_ v1;refine w0a S7b.slT Z (by assumption) Z Z ?_;refine d0a ?_;refine g1a ⟨f0,e0⟩ Z Z Z ?_;refine J0a a2c Z Z ?_;refine d0a ?_;refine g1a ⟨f0,e0⟩ Z Z Z ?_;refine j0a X5c Z (fun w1 hw=>by exact hw.1.old (s1 _ _ Z)) Z ?_;refine d0a ?_;refine g1a ⟨f0,e0⟩ Z Z Z ?_;refine M0a (hv:=Z) (v:=.slice _ _ _) Z ?_;refine d0a ?_;refine g1a ⟨f0,e0⟩ Z Z Z ?_;refine M0a (hv:=Z) (v:=.int .i64 _) Z ?_;refine d0a ?_;refine g1a ⟨f0,e0⟩ Z Z Z ?_;refine w0a L6a.slT Z (by assumption) Z Z ?_;refine d0a ?_;refine g1a ⟨f0,e0⟩ Z Z Z ?_;refine J0a A0c Z Z ?_;refine d0a ?_;refine g1a ⟨f0,e0⟩ Z Z Z ?_;refine j0a A0a Z (fun w1 hw=>by exact hw.2.cell List.not_mem_nil (u1 1 _ Z)) Z ?_;refine d0a ?_;refine g1a ⟨f0,e0⟩ Z Z Z ?_;obtain⟨_,_,_,_,z1,_,_,_,t1,x1⟩:=RdS.get (a1) (iq) (by omega);obtain rfl:=Option.some.inj (g1.symm.trans z1);obtain⟨_,_,_,_,_,_,rfl,⟨_,_⟩,_⟩:=d2a.open_ x1;refine w0a n7b.slT Z (by assumption) Z Z ?_;refine d0a ?_;refine g1a ⟨f0,e0⟩ Z Z Z ?_;refine J0a q2c Z Z ?_;refine d0a ?_;refine g1a ⟨f0,e0⟩ Z Z Z ?_;refine j0a A0a Z (fun w1 hw=>by exact hw.1.old (t1 _ _ Z)) Z ?_;refine d0a ?_;refine B4a ?_ ?_
    ·refine b2a ⟨f0,e0⟩ Z Z Z ?_;refine n0a f0 X1b Z Z ((by have z:=s4a p m md c1 [] _ _ (hI.keep (f0.keep0 []));rw[←hm] at z;exact z)) ?_;rintro o2 N1 ⟨U1,rfl,N0⟩ U0 Y0;have q0:=e0.trans Y0;replace KY:=KY.trans Y0;have KD:=t0a.refl [] N1;obtain⟨E0,K0,L0,rfl,-⟩:=N0.cells;refine r0a ⟨Z,?_⟩;refine b2a ⟨U0,q0⟩ Z Z Z ?_;refine g0a U0 f2a Z Z ?_;intro C0 r2 P0 Q0 O0;have x0:=Nat.le_trans KY.size O0;have S0:=Nat.le_trans KD.size O0;have s0:=q0.trans Q0;replace KY:=KY.trans Q0;replace KD:=KD.trans Q0;refine r0a ⟨Z,?_⟩;refine b2a ⟨P0.tail,s0⟩ Z Z Z ?_;refine c0a (kk:=0) (vs:=[_,_,_,_]) P0 q1a Z Z Z Z Z Z Z ?_;intro C1 T0 G0;have H0:=s0.freshL G0 (fun g hg=>.inl (by rw[List.mem_singleton.1 hg];exact Nat.le_trans q0.size O0));have r0:=KY.fresh G0 x0;have B1:RdE [] C1 (W1a p s.module_) [.int .i64 (W1a p s.module_).op,.int .i64 (W1a p s.module_).w,.int .i64 (W1a p s.module_).n,.slice E0 K0 L0]:=by
      exact RdE.keep (KD.fresh G0 S0).of_nil _ _ N0
     refine r0a ⟨Z,?_⟩;refine b3a ⟨T0.tail,H0⟩ ?_;refine fP0 Z U ⟨Z,(C0),(_),(_),(_),(B1),(hX.keep r0.of_nil),(hE.keep r0.of_nil),(g0.keep r0.of_nil),(hX.mem0.keep r0.of_nil),T0,Z⟩
    refine b2a ⟨f0,e0⟩ Z Z Z ?_;refine g0a f0 f2a Z Z ?_;intro C0 r2 P0 Q0 O0;have x0:=Nat.le_trans KY.size O0;have s0:=e0.trans Q0;replace KY:=KY.trans Q0;refine r0a ⟨Z,?_⟩;refine b2a ⟨P0.tail,s0⟩ Z Z Z ?_;refine n0a P0 X1b Z Z ((by have z:=s4a p m md c1 (C0::[]) _ _ (hI.add P0 (k:=0) Z);rw[←hm] at z;exact z)) ?_;rintro o2 N1 ⟨U1,rfl,N0⟩ U0 Y0;have q0:=s0.trans Y0;replace KY:=KY.trans Y0;obtain⟨E0,K0,L0,rfl,-⟩:=N0.cells;refine r0a ⟨Z,?_⟩;refine b2a ⟨U0.tail,q0⟩ Z Z Z ?_;refine c0a (kk:=0) (vs:=[_,_,_,_]) U0 q1a Z Z Z Z Z Z Z ?_;intro C1 T0 G0;have H0:=q0.freshL G0 (fun g hg=>.inl (by rw[List.mem_singleton.1 hg];exact Nat.le_trans e0.size O0));have r0:=KY.fresh G0 x0;have B1:RdE [] C1 (W1a p s.module_) [.int .i64 (W1a p s.module_).op,.int .i64 (W1a p s.module_).w,.int .i64 (W1a p s.module_).n,.slice E0 K0 L0]:=by
     exact RdE.less (by simp) _ _ (RdE.keep G0 _ _ N0)
    refine r0a ⟨Z,?_⟩;refine b3a ⟨T0.tail,H0⟩ ?_;refine fP0 Z U ⟨Z,(C0),(_),(_),(_),(B1),(hX.keep r0.of_nil),(hE.keep r0.of_nil),(g0.keep r0.of_nil),(hX.mem0.keep r0.of_nil),T0,Z⟩
   rintro D ε w ⟨rfl,C0,E0,K0,L0,N0,hX,hE,g0,p0,S,eZ⟩;refine wK eZ ?_;have KU:=t0a.refl [] w;refine wB S.k [.o 0] Z ⟨Z,U⟩ (fun F1=>?_) fun F1=>?_
   ·refine lP0 Z ⟨by omega,U⟩ ⟨μi-1,by omega,Z,(i+1),(by omega),(hX.keep (by exact KU.of_nil)),(hE.keep (by exact KU.of_nil)),S.tail.tail,Z⟩
   refine lO S.k [.w 0,.o 2,.o 1] Z ⟨Z,Z,⟨Z,by rfl⟩,U⟩ ?_;have B2:W1a p s.module_≠zE:=fun h=>F1 (by rw[h];rfl);refine h0a S r8b Z Z (q2b (W1a p s.module_) [] _ _ _ _ c.mem (doC p 0 c ⟨tq,iq,0⟩).mem (RdE.keep KU.of_nil _ _ N0) (hK.keep (S.keep0 [])) (p0.keep KU.of_nil) (g0.keep KU.of_nil)) ?_;intro I2 D1 T1;replace KU:=KU.trans T1;refine lB0 Z U (fun G1=>?_) fun G1=>?_
   ·refine lP0 Z ⟨by omega,U⟩ ⟨μi-1,by omega,Z,(i+1),(by omega),(hX.keep (by exact KU.of_nil)),(hE.keep (by exact KU.of_nil)),D1.tail.tail,Z⟩
   refine lC0 Z U (wL (fun μu D ε w=>D=[]∧∃u:Nat,(u+μu=(p.threads.length))∧(v1a [] w c [.slice Xm xm ym,.slice Xa xa ya,.slice Xb xb yb])∧(e9c [] w (.slice Ae ne ce) (T1a p 0 c))∧(RdI [] w (.slice Va va R0) (doC p 0 c ⟨tq,iq,0⟩).mem)∧(RdI [] w (.slice Xm xm ym) c.mem)∧St [] w0 w [(some g9,50,[.slice Va va R0,.slice Vb vb i1,.slice Vc vc j1]),(some g6,50,[.slice Xm xm ym,.slice Xa xa ya,.slice Xb xb yb]),(some g2,27,[.slice Ac nc cc,.slice Am nm cm,.slice Al nl cl,.slice At nt ct])]∧Sl ε [(2,.pointer (some ⟨g2,0,none⟩)),(5,.bool true),(6,.pointer (some ⟨g6,0,none⟩)),(7,.slice Ae ne ce),(8,.int .i64 i),(9,.pointer (some ⟨g9,0,none⟩)),(12,.int .i64 u)]) (μ:=(p.threads.length)) ⟨Z,0,by omega,hX.keep KU.of_nil,hE.keep KU.of_nil,g0.keep KU.of_nil,p0.keep KU.of_nil,D1.tail,Z⟩ ?_);rintro μu D ε w ⟨rfl,u,_,hX,hE,g0,p0,S,eZ⟩;refine wK eZ ?_;have KV:=t0a.refl [] w;obtain⟨y,_,_,_,A1,_,_,_,K1,f2⟩:=RdS.get hE i (by omega);obtain rfl:=Option.some.inj (J0.symm.trans A1);obtain⟨rfl,_⟩:=id f2;dsimp only at K1;refine wB S.k [.o 2] Z ⟨Z,U⟩ (fun Y1=>?_) fun Y1=>?_
   ·refine lC0 Z U (M1d b0a (fun i=>[0,1,2,3,4,5,6,7,8,9,11,12,13,14,15,16,18,19,20,21,23,24].contains i) [0,1,2,3,4,5,6,7,8,9,10,11,12,13,14,15,16,17,18,19,20,21,22,23,24] (Cl _ _ _ _) (Cl.start S) ?_);rintro x2 ⟨b0,d0⟩;replace KV:=KV.trans d0;refine r2a ⟨b0,d0⟩ Z Z Z ?_;refine M0a (hv:=Z) (v:=.int .i64 _) Z ?_;refine d0a ?_;refine r2a ⟨b0,d0⟩ Z Z Z ?_;refine M0a (hv:=Z) (v:=.slice _ _ _) Z ?_;refine d0a ?_;refine r2a ⟨b0,d0⟩ Z Z Z ?_;refine M0a (hv:=Z) (v:=.int .i64 _) Z ?_;refine d0a ?_;refine r2a ⟨b0,d0⟩ Z Z Z ?_;refine w0a L6a.slT Z (by assumption) Z Z ?_;refine d0a ?_;refine r2a ⟨b0,d0⟩ Z Z Z ?_;refine J0a g7b Z Z ?_;refine d0a ?_;refine r2a ⟨b0,d0⟩ Z Z Z ?_;refine j0a A0a Z (fun w1 hw=>by exact hw.2.cell List.not_mem_nil (K1 0 _ Z)) Z ?_;refine d0a ?_;refine r2a ⟨b0,d0⟩ Z Z Z ?_;refine M7c Z Z Z (fun Z1=>?_) fun Z1=>?_
    ·refine d0a ?_;refine r2a ⟨b0,d0⟩ Z Z Z ?_;refine M0a (hv:=Z) (v:=.bool _) Z ?_;refine d0a ?_;refine r2a ⟨b0,d0⟩ Z Z Z ?_;refine z1a Z Z ?_;refine D1a L2a Z (fun w1 hw=>hw.1.cells 2 Z) Z Z ?_;refine d0a ?_;refine r2a ⟨b0,d0⟩ Z Z Z ?_;refine z1a Z Z ?_;refine M0a (hv:=Z) (v:=.int .i64 _) Z ?_;refine d0a ?_;refine s3c ⟨b0,d0⟩ Z Z Z Z ?_;refine o3a Z Z Z ?_;refine n0a b0 z2d Z Z (H8c p u (by omega) [] _ _ (hI.keep (b0.keep0 []))) ?_;rintro E2 J2 ⟨_,rfl,j2⟩ n0 E1;have c0:=d0.trans E1;replace KV:=KV.trans E1;obtain⟨_,_,_,rfl,-⟩:=j2.cells;refine r0a ⟨Z,?_⟩;refine r2a ⟨n0,c0⟩ Z Z Z ?_;refine z1a Z Z ?_;refine d8c w7b Z Z Z ?_;refine d0a ?_;refine r2a ⟨n0,c0⟩ Z Z Z ?_;refine z1a Z Z ?_;refine M7c Z Z Z (fun H1=>?_) fun H1=>?_
     ·refine d0a ?_;refine r2a ⟨n0,c0⟩ Z Z Z ?_;refine u3a Z (v:=.bool _) Z Z ?_;refine d0a ?_;refine r2a ⟨n0,c0⟩ Z Z Z ?_;refine M0a (hv:=Z) (v:=.bool _) Z ?_;refine d0a ?_;refine r2a ⟨n0,c0⟩ Z Z Z ?_;refine z1a Z Z ?_;refine D1a L2a Z (fun w1 hw=>hw.1.cells 2 Z) Z Z ?_;refine d0a ?_;refine r2a ⟨n0,c0⟩ Z Z Z ?_;refine z1a Z Z ?_;refine M0a (hv:=Z) (v:=.int .i64 _) Z ?_;refine d0a ?_;refine s3c ⟨n0,c0⟩ Z Z Z Z ?_;refine o3a Z Z Z ?_;refine n0a n0 t7b Z Z (U4c p u (by omega) [] _ _ (hI.keep (n0.keep0 []))) ?_;rintro m2 p2 ⟨_,rfl,d1⟩ t0 V0;have j0:=c0.trans V0;replace KV:=KV.trans V0;obtain⟨_,_,_,rfl,-⟩:=d1.cells;refine r0a ⟨Z,?_⟩;refine r2a ⟨t0,j0⟩ Z Z Z ?_;refine z1a Z Z ?_;refine J0a i0b Z Z ?_;refine d0a ?_;refine r2a ⟨t0,j0⟩ Z Z Z ?_;refine z1a Z Z ?_;refine j0a x4a Z (fun w1 hw=>by exact hw.1.cell 1 Z Z) Z ?_;refine d0a ?_;refine r2a ⟨t0,j0⟩ Z Z Z ?_;refine z1a Z Z ?_;refine J0a i0b Z Z ?_;refine d0a ?_;refine r2a ⟨t0,j0⟩ Z Z Z ?_;refine z1a Z Z ?_;refine j0a x4a Z (fun w1 hw=>by exact hw.1.cell 0 Z Z) Z ?_;refine d0a ?_;refine s3c ⟨t0,j0⟩ Z Z Z Z ?_;refine o3a Z Z Z ?_;refine h0a t0 r8b Z Z (q2b (onE p u) [] _ _ _ _ c.mem (doC p 0 c ⟨tq,iq,0⟩).mem d1 (hK.keep (t0.keep0 [])) (p0.keep KV.of_nil) (g0.keep KV.of_nil)) ?_;intro q2 y0 W0;have u0:=j0.trans W0;replace KV:=KV.trans W0;refine r0a ⟨Z,?_⟩;refine r2a ⟨y0,u0⟩ Z Z Z ?_;refine z1a Z Z ?_;refine M7c Z Z Z (fun Z0=>?_) fun Z0=>?_
      ·exact absurd (x7c hp (hg.2 Z) A0 g1 (u:=u) (by omega) G1 (fun h=>H1 (by rw[h];rfl))) Z0
      refine d0a ?_;refine r2a ⟨y0,u0⟩ Z Z Z ?_;refine u3a Z (v:=.bool _) Z Z ?_;refine d0a ?_;refine d5b ⟨y0,u0⟩ ?_;refine fP0 Z ⟨by omega,U⟩ ⟨μu-1,by omega,Z,(u+1),(by omega),(hX.keep KV.of_nil),(hE.keep KV.of_nil),(g0.keep KV.of_nil),(p0.keep KV.of_nil),y0,Z⟩
     refine d0a ?_;refine r2a ⟨n0,c0⟩ Z Z Z ?_;refine u3a Z (v:=.bool _) Z Z ?_;refine d0a ?_;refine r2a ⟨n0,c0⟩ Z Z Z ?_;refine M0a (hv:=Z) (v:=.bool _) Z ?_;refine d0a ?_;refine r2a ⟨n0,c0⟩ Z Z Z ?_;refine J1a Z Z Z ?_;refine d0a ?_;refine r2a ⟨n0,c0⟩ Z Z Z ?_;refine J1a Z Z Z ?_;refine d0a ?_;refine s3c ⟨n0,c0⟩ Z Z Z Z ?_;refine k1b Z Z Z Z ?_;refine r0a ⟨Z,?_⟩;refine r2a ⟨n0,c0⟩ Z Z Z ?_;refine J1a Z Z Z ?_;refine d0a ?_;refine r2a ⟨n0,c0⟩ Z Z Z ?_;refine J1a Z Z Z ?_;refine d0a ?_;refine r2a ⟨n0,c0⟩ Z Z Z ?_;refine J1a Z Z Z ?_;refine d0a ?_;refine r2a ⟨n0,c0⟩ Z Z Z ?_;refine J1a Z Z Z ?_;refine d0a ?_;refine s3c ⟨n0,c0⟩ Z Z Z Z ?_;refine k1b Z Z Z Z ?_;refine r0a ⟨Z,?_⟩;refine r2a ⟨n0,c0⟩ Z Z Z ?_;refine J1a Z Z Z ?_;refine d0a ?_;refine r2a ⟨n0,c0⟩ Z Z Z ?_;refine u3a Z (v:=.bool _) Z Z ?_;refine d0a ?_;refine d5b ⟨n0,c0⟩ ?_;refine fP0 Z ⟨by omega,U⟩ ⟨μu-1,by omega,Z,(u+1),(by omega),(hX.keep KV.of_nil),(hE.keep KV.of_nil),(g0.keep KV.of_nil),(p0.keep KV.of_nil),n0,Z⟩
    refine d0a ?_;refine r2a ⟨b0,d0⟩ Z Z Z ?_;refine M0a (hv:=Z) (v:=.bool _) Z ?_;refine d0a ?_;refine r2a ⟨b0,d0⟩ Z Z Z ?_;refine J1a Z Z Z ?_;refine d0a ?_;refine r2a ⟨b0,d0⟩ Z Z Z ?_;refine J1a Z Z Z ?_;refine d0a ?_;refine s3c ⟨b0,d0⟩ Z Z Z Z ?_;refine k1b Z Z Z Z ?_;refine r0a ⟨Z,?_⟩;refine r2a ⟨b0,d0⟩ Z Z Z ?_;refine J1a Z Z Z ?_;refine d0a ?_;refine r2a ⟨b0,d0⟩ Z Z Z ?_;refine J1a Z Z Z ?_;refine d0a ?_;refine r2a ⟨b0,d0⟩ Z Z Z ?_;refine u3a Z (v:=.bool _) Z Z ?_;refine d0a ?_;refine r2a ⟨b0,d0⟩ Z Z Z ?_;refine M0a (hv:=Z) (v:=.bool _) Z ?_;refine d0a ?_;refine r2a ⟨b0,d0⟩ Z Z Z ?_;refine J1a Z Z Z ?_;refine d0a ?_;refine r2a ⟨b0,d0⟩ Z Z Z ?_;refine J1a Z Z Z ?_;refine d0a ?_;refine s3c ⟨b0,d0⟩ Z Z Z Z ?_;refine k1b Z Z Z Z ?_;refine r0a ⟨Z,?_⟩;refine r2a ⟨b0,d0⟩ Z Z Z ?_;refine J1a Z Z Z ?_;refine d0a ?_;refine r2a ⟨b0,d0⟩ Z Z Z ?_;refine J1a Z Z Z ?_;refine d0a ?_;refine r2a ⟨b0,d0⟩ Z Z Z ?_;refine J1a Z Z Z ?_;refine d0a ?_;refine r2a ⟨b0,d0⟩ Z Z Z ?_;refine J1a Z Z Z ?_;refine d0a ?_;refine s3c ⟨b0,d0⟩ Z Z Z Z ?_;refine k1b Z Z Z Z ?_;refine r0a ⟨Z,?_⟩;refine r2a ⟨b0,d0⟩ Z Z Z ?_;refine J1a Z Z Z ?_;refine d0a ?_;refine r2a ⟨b0,d0⟩ Z Z Z ?_;refine u3a Z (v:=.bool _) Z Z ?_;refine d0a ?_;refine d5b ⟨b0,d0⟩ ?_;refine fP0 Z ⟨by omega,U⟩ ⟨μu-1,by omega,Z,(u+1),(by omega),(hX.keep KV.of_nil),(hE.keep KV.of_nil),(g0.keep KV.of_nil),(p0.keep KV.of_nil),b0,Z⟩
   refine lP0 Z ⟨by omega,U⟩ ⟨μi-1,by omega,Z,(i+1),(by omega),(hX.keep (by exact KV.of_nil)),(hE.keep (by exact KV.of_nil)),S.tail,Z⟩
  exact lT Z U Z ⟨Z,S.fin⟩
 exact lT Z U Z ⟨Z,F0.fin⟩
end Go.Fw
