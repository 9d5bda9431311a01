/-
  Part 3 of 9 of the proof of ShrinkShortest: what it leans on. No conditions.
-/
import Derived.Test.YtfkfflniambckaaGreatDoorZShrinkShortest2
import Derived.Test.YtfkfflniambckaaGreatDoorRows
import Derived.ProofKit
import Derived.LaidMore
import Derived.OpenShut
import Derived.Carry
import Derived.SizedLaws
import Derived.Stop.Joined
import Derived.Test.YtfkfflniambckaaGreatDoorTie
import Derived.Test.YtfkfflniambckaaGreatDoorCards
import Derived.SevenTiedAt
import Derived.Laws.CopyRow
import Derived.Laws.IdiomCopy
import Derived.Laws.StructEq
import Derived.Lib.SliceRun
import Derived.Laws.OwnMore
set_option maxRecDepth 100000
set_option maxHeartbeats 4000000
namespace Go.Proofs.YtfkfflniambckaaGreatDoor
end Go.Proofs.YtfkfflniambckaaGreatDoor
namespace Go.Fw
open Go.Proofs.YtfkfflniambckaaGreatDoor Go.Proofs Go.RowKit Go.ChangeShapes Go.WideShapes Tryz
theorem RdS.dropped{α:Type}{M:List Nat}{w:World}{size b o n c:Nat}{R:List Value→α→Prop}{l:List α}(h:RdS M w size R (.slice (some ⟨b,o,none⟩) n c) l)(lo:Nat)(b0:lo≤n):
 RdS M w size R (.slice (some (if c=lo then⟨b,o,none⟩ else⟨b,o+lo*size,none⟩)) (n-lo) (c-lo)) (l.drop lo):=by
 obtain⟨_,_,_,_,h5⟩:=h.at;refine⟨_,_,_,Z,by simp;omega,by omega,by omega,by omega,fun h0=>?_⟩;obtain⟨_,_,hA,hb,a0⟩:=h5 (by omega);cases hA;rw[if_neg (by omega)];refine⟨b,o+lo*size,Z,hb,fun i x hx=>?_⟩;rw[List.getElem?_drop] at hx;obtain⟨cs,h6,h7,h8⟩:=a0 _ x hx;refine⟨cs,h6,?_,h8⟩;rw[Nat.add_mul,←Nat.add_assoc] at h7;exact h7
theorem L9a(s:v1a)(M:List Nat)(w0:World)(ss:List Value)(vf:Value)(q:Int→Bool)(hS:B1a M w0 ss s)(hp:V2a prog M w0 vf q)(hK:Y3a M w0)(hM:∀g∈M,g<w0.heap.size)
 (hg:P3a s.guard q=true) (hs:∀a∈s.set,P3a a.to q=true) :
 N0a prog 222 #[.agg ss.toArray,vf] w0 fun v w'=>v=.bool true∧Below w0.heap.size w0 w':=by
 obtain⟨Ag,ng,cg,As,ns,j0,rfl,⟨_,_⟩,hG,d0,_⟩:=hS.open_;obtain⟨f,first,caps,rfl,_⟩:=id hp;have S:=St.refl w0;have m0:∀w':World,w0.heap.size≤w'.heap.size→∀g∈M,g<w'.heap.size:=fun w' h g hg=>by have:=hM g hg;omega
 refine a0a func222 Z ntmps222 Z ?_;refine wO0 Z U (m0a S Z ?_);intro g2 w2 S2 X2 G2;refine lOn 8 S2.k [.o 0] Z ⟨Z,U⟩ (y0a Z ?_);refine i0a S2 x9a Z Z (hg▸D7a _ M _ _ _ q (RdE.keep (S2.keep0 M) _ _ hG) (hp.keep (S2.keep0 M)) (hK.keep (S2.keep0 M)) (m0 _ S2.size)) ?_;intro x0 i0 u0;refine lC i0.k [.o 0] Z ⟨Z,U⟩ (wL (fun μk D ε w=>D=[]∧∃k:Nat,(k+μk=(s.set.length))∧St [] w0 w [(some g2,97,[.int .i64 s.kind,.int .i64 s.frm,.int .i64 s.to,.int .i64 s.guard.op,.int .i64 s.guard.w,.int .i64 s.guard.n,.slice Ag ng cg,.slice As ns j0,.bool s.release,.int .i64 s.target,.int .i64 s.module_])]∧Sl ε [(1,.func (.func f) first caps),(13,.slice As ns j0),(14,.int .i64 ns),(15,.int .i64 k)]) (μ:=(s.set.length)) ⟨Z,0,by omega,i0,Z⟩ ?_);rintro μk D ε w ⟨rfl,k,_,S,eZ⟩;refine wK eZ (wB0 Z U (fun q0=>?_) fun q0=>?_)
 ·obtain⟨a,p0,s0,_,r0,b0,_,f0,e0,g0⟩:=RdS.get (d0) (k) (by omega);obtain⟨_,_,_,rfl,_,c0⟩:=Z0a.open_ g0;refine lO (S.k.a e0) [.x p0 s0,.v 0] Z ⟨⟨Z,f0⟩,⟨b0,by omega⟩,U⟩ (j0a S S7a Z Z ?_);intro g6 w6 S6 X6 G6;refine e0a (kk:=0) (vs:=[_,_,_,_,_]) S6 P7a Z Z Z Z Z Z Z ?_;intro t0 a0 o0;dsimp only[n0a,List.set] at a0;refine lO a0.k [.o 0] Z ⟨Z,U⟩ (i0a a0 x9a Z Z ((hs a (d0a r0))▸D7a _ M _ _ _ q (RdE.keep (a0.keep0 M) _ _ c0) (hp.keep (a0.keep0 M)) (hK.keep (a0.keep0 M)) (m0 _ a0.size)) ?_);intro y0 n0 v0;refine lP0 Z ⟨by omega,U⟩ ⟨μk-1,by omega,Z,(k+1),(by omega),n0.tail,Z⟩
 exact lT Z U Z ⟨Z,S.fin⟩
theorem G0b(l:List U1a)(M:List Nat)(w0:World)(v vf:Value)(q:Int→Bool)(hS:X9c M w0 v l)(hp:V2a prog M w0 vf q)(hs:∀a∈l,q a.cell=true):
 N0a prog 223 #[v,vf] w0 fun v w'=>v=.bool true∧Below w0.heap.size w0 w':=by
 obtain⟨As,ns,m0,rfl⟩:=hS.form;obtain⟨_,_⟩:=hS.len;obtain⟨f,first,caps,rfl,_⟩:=id hp;have S:=St.refl w0;refine a0a func223 Z ntmps223 Z ?_;refine wC0 Z U (wL (fun μk D ε w=>D=[]∧∃k:Nat,(k+μk=(l.length))∧St [] w0 w []∧Sl ε [(1,.func (.func f) first caps),(7,.slice As ns m0),(8,.int .i64 ns),(9,.int .i64 k)]) (μ:=(l.length)) ⟨Z,0,by omega,S,Z⟩ ?_);rintro μk D ε w ⟨rfl,k,_,S,eZ⟩;refine wK eZ (wB0 Z U (fun n0=>?_) fun n0=>?_)
 ·obtain⟨a,j0,p0,_,o0,b0,_,d0,c0,e0⟩:=RdS.get (hS) (k) (by omega);obtain⟨_,_,_,rfl,f0,_⟩:=Z0a.open_ e0;refine lO (S.k.a c0) [.x j0 p0,.v 0] Z ⟨⟨Z,d0⟩,⟨b0,by omega⟩,U⟩ (j0a S S7a Z Z ?_);intro g6 w6 S6 X6 G6
  first|refine e0a (kk:=0) (vs:=[_,_,_,_,_]) S6 P7a Z Z Z Z Z Z Z ?_
  intro q0 a0 i0;dsimp only[n0a,List.set] at a0;refine lO a0.k [.o 0] Z ⟨Z,U⟩ (o0b a0 (hp.keep (a0.keep0 M)) Z Z (f0) (hs a (d0a o0)) Z (fun s0 g0 r0=>?_));refine lP0 Z ⟨by omega,U⟩ ⟨μk-1,by omega,Z,(k+1),(by omega),g0.tail,Z⟩
 exact lT Z U Z ⟨Z,S.fin⟩
theorem G9c(e:E)(M:List Nat)(w0:World)(cs:List Value)(hR:RdE M w0 e cs)(he:e=⟨1,1,1,[]⟩):N0a prog 227 #[.agg cs.toArray] w0 fun v w'=>v=.bool true∧Below w0.heap.size w0 w':=by
 obtain⟨_,n,_,rfl,_⟩:=hR.cells;have e1:e.op=1:=by rw[he]
 have e2:e.w=1:=by rw[he]
 have e3:e.n=1:=by rw[he]
 have e4:e.kids.length=0:=by rw[he];rfl
 have S:=St.refl w0;refine a0a func227 Z ntmps227 Z ?_;refine wO0 Z U (m0a S Z ?_);intro g1 w1 S1 X1 G1;refine lB S1.k [.o 0] Z ⟨Z,U⟩ (fun h5=>?_) (fun h5=>by exfalso;omega);refine lB S1.k [.o 0] Z ⟨Z,U⟩ (fun h9=>?_) (fun h9=>by exfalso;omega);refine lB S1.k [.o 0] Z ⟨Z,U⟩ (fun a0=>?_) (fun a0=>by exfalso;omega);refine lB S1.k [.o 0] Z ⟨Z,U⟩ (fun b0=>?_) (fun b0=>by exfalso;omega);exact lT Z U Z ⟨Z,S1.fin⟩
theorem P7b(s:v1a)(M:List Nat)(w0:World)(ss:List Value)(hS:B1a M w0 ss s)(hg:s.guard=⟨1,1,1,[]⟩)(hs:s.set=[]):
 N0a prog 226 #[.agg ss.toArray] w0 fun v w'=>v=.bool true∧Below w0.heap.size w0 w':=by
 obtain⟨_,_,_,_,_,_,rfl,⟨_,_⟩,hG,_,a0,_⟩:=hS.open_;have S:=St.refl w0;rw[hs] at a0;simp only[List.length_nil] at a0;refine a0a func226 Z ntmps226 Z ?_;refine wO0 Z U (m0a S Z ?_);intro g1 w1 S1 X1 G1;refine lO S1.k [.o 0] Z ⟨Z,U⟩ (i0a S1 x9c Z Z (G9c _ M _ _ (RdE.keep (S1.keep0 M) _ _ hG) hg) ?_);intro w5 S5 X5;refine lB S5.k [.o 0] Z ⟨Z,U⟩ (fun b0=>?_) (fun b0=>by exfalso;omega);exact lT Z U Z ⟨Z,S5.fin⟩
theorem d5c{p:h0a}{s:v1a}{t:Int}{z:Bool}(h:∀(i:Nat) (hi:i<s.set.length),0<i∨s.kind≠2→U5a p.cells (s.set[i]).to z t){k:Nat}{a:U1a}(ha:s.set[k+1]?=some a):U5a p.cells a.to z t:=by
 obtain⟨h1,rfl⟩:=List.getElem?_eq_some_iff.1 ha;exact h _ h1 (.inl (by omega))
structure q8a (p:h0a) (t:Nat) (x:U0a) (s:v1a) (M:List Nat) (w:World) (cs ss:List Value):Prop where
 prog:C1a M w p cs
 step:B1a M w ss s
 ok:n1a p
 sok:M6a p t x.points s
 masks:Y3a M w
 low:∀g∈M,g<w.heap.size
theorem g5b(p:h0a)(t:Nat)(x:U0a)(s:v1a)(M:List Nat)(w0:World)(cs ss:List Value)(h:q8a p t x s M w0 cs ss)(hk:s.kind=1):
 N0a prog 212 #[.agg cs.toArray,.int .i64 t,.agg ss.toArray] w0 fun v w'=>v=.bool true∧Below w0.heap.size w0 w':=by
 obtain⟨hP,hS,hp,a0,hK,hM⟩:=h;obtain⟨_,_,_,_,_,_,_,_,_,_,_,_,rfl,_⟩:=hP.open_;obtain⟨_,_,_,_,_,_,rfl,⟨_,_⟩,_,d0,_⟩:=hS.open_;have S:=St.refl w0;have e0:∀w':World,w0.heap.size≤w'.heap.size→∀g∈M,g<w'.heap.size:=fun w' h g hg=>by have:=hM g hg;omega
 have h4:decide (s.kind=4)=false:=decide_eq_false (by omega);have j0:P3a s.guard (z0b p t)=true:=t9a hp a0.guard.1 (h4▸a0.row.guard);have m0:∀a∈s.set,P3a a.to (z0b p t)=true:=fun a ha=>by
  obtain⟨i,hi,rfl⟩:=List.getElem_of_mem ha;exact t9a hp (a0.set _ ha).2.1 (h4▸a0.row.vals i hi (.inr (by omega)))
 have i0:∀a∈s.set,z0b p t a.cell=true:=fun a ha=>decide_eq_true ⟨(a0.set a ha).1,a0.row.k1 hk a ha⟩;refine a0a func212 Z ntmps212 Z ?_;refine wO0 Z U (m0a S Z ?_);intro g3 w3 S3 X3 G3;refine m0a S3 Z ?_;intro g5 w5 S5 X5 G5;refine lO S5.k [.w 1] Z ⟨⟨Z,by rfl⟩,U⟩ (x0a S5 g4b Z Z (f4b p t M _ _ (hP.keep (S5.keep0 M)) (e0 _ S5.size)) ?_);rintro p0 q0 hq b0 n0;obtain⟨_,_,_,rfl,_⟩:=id hq;refine lO b0.k [.w 0] Z ⟨⟨Z,by rfl⟩,U⟩ (i0a b0 A7b Z Z (L9a s M _ _ _ (z0b p t) (B1a.keep (b0.keep0 M) _ _ hS) hq (hK.keep (b0.keep0 M)) (e0 _ b0.size) j0 m0) ?_);intro r0 c0 g0;replace hq:=hq.keep (g0.of_nil);refine lO c0.k [.o 0] Z ⟨Z,U⟩ (i0a c0 v6b Z Z (G0b s.set M _ _ _ (z0b p t) (RdS.keepW d0 (c0.keep0 M) (Z0a.keep (c0.keep0 M))) hq i0) ?_);intro s0 f0 o0;exact lT Z U Z ⟨Z,f0.fin⟩
theorem c3b(p:h0a)(t:Nat)(x:U0a)(s:v1a)(M:List Nat)(w0:World)(cs ss:List Value)(h:q8a p t x s M w0 cs ss)(hk:s.kind=4):
 N0a prog 215 #[.agg cs.toArray,.int .i64 t,.agg ss.toArray] w0 fun v w'=>v=.bool true∧Below w0.heap.size w0 w':=by
 obtain⟨hP,hS,hp,a0,hK,hM⟩:=h;obtain⟨_,_,_,_,_,_,_,_,_,_,_,_,rfl,_⟩:=hP.open_;obtain⟨_,_,_,_,_,_,rfl,⟨_,_⟩,_,d0,_⟩:=hS.open_;have S:=St.refl w0;have e0:∀w':World,w0.heap.size≤w'.heap.size→∀g∈M,g<w'.heap.size:=fun w' h g hg=>by have:=hM g hg;omega
 have h4:decide (s.kind=4)=true:=decide_eq_true (by omega);have j0:P3a s.guard (s4b p t)=true:=Z3b hp a0.guard.1 (h4▸a0.row.guard);have m0:∀a∈s.set,P3a a.to (s4b p t)=true:=fun a ha=>by
  obtain⟨i,hi,rfl⟩:=List.getElem_of_mem ha;exact Z3b hp (a0.set _ ha).2.1 (h4▸a0.row.vals i hi (.inr (by omega)))
 have i0:∀a∈s.set,s4b p t a.cell=true:=fun a ha=>by
  unfold s4b shQ z0b;rw[Bool.or_eq_true,decide_eq_true_eq,decide_eq_true_eq];rcases a0.row.cells a ha with h|h
  ·exact .inr ⟨(a0.set a ha).1,h⟩
  ·exact .inl ⟨(a0.set a ha).1,h⟩
 refine a0a func215 Z ntmps215 Z ?_;refine wO0 Z U (m0a S Z ?_);intro g3 w3 S3 X3 G3;refine m0a S3 Z ?_;intro g5 w5 S5 X5 G5;refine lO S5.k [.w 1] Z ⟨⟨Z,by rfl⟩,U⟩ (x0a S5 D7b Z Z (X7a p t M _ _ (hP.keep (S5.keep0 M)) (e0 _ S5.size)) ?_);rintro p0 q0 hq b0 n0;obtain⟨_,_,_,rfl,_⟩:=id hq;refine lO b0.k [.w 0] Z ⟨⟨Z,by rfl⟩,U⟩ (i0a b0 A7b Z Z (L9a s M _ _ _ (s4b p t) (B1a.keep (b0.keep0 M) _ _ hS) hq (hK.keep (b0.keep0 M)) (e0 _ b0.size) j0 m0) ?_);intro r0 c0 g0;replace hq:=hq.keep (g0.of_nil);refine lO c0.k [.o 0] Z ⟨Z,U⟩ (i0a c0 v6b Z Z (G0b s.set M _ _ _ (s4b p t) (RdS.keepW d0 (c0.keep0 M) (Z0a.keep (c0.keep0 M))) hq i0) ?_);intro s0 f0 o0;exact lT Z U Z ⟨Z,f0.fin⟩
theorem a6b(p:h0a)(t:Nat)(x:U0a)(s:v1a)(M:List Nat)(w0:World)(cs ss:List Value)(h:q8a p t x s M w0 cs ss)(hk:5≤s.kind):
 N0a prog 216 #[.agg cs.toArray,.int .i64 t,.agg ss.toArray] w0 fun v w'=>v=.bool true∧Below w0.heap.size w0 w':=by
 obtain⟨hP,hS,_,a0,_⟩:=h;obtain⟨_,_,_,_,_,_,_,_,_,_,_,_,rfl,_⟩:=hP.open_;obtain⟨_,_,_,_,_,_,rfl,⟨_,_⟩,_⟩:=hS.open_;have S:=St.refl w0;refine a0a func216 Z ntmps216 Z ?_;refine wO0 Z U (m0a S Z ?_);intro g3 w3 S3 X3 G3;refine m0a S3 Z ?_;intro g5 w5 S5 X5 G5;refine lO S5.k [.w 0] Z ⟨⟨Z,by rfl⟩,U⟩ (i0a S5 G0c Z Z (P7b s M _ _ (B1a.keep (S5.keep0 M) _ _ hS) (a0.row.k5 hk).2 (a0.row.k5 hk).1) ?_);intro w8 S8 X8;exact lT Z U Z ⟨Z,S8.fin⟩
theorem M1b(p:h0a)(t:Nat)(x:U0a)(s:v1a)(M:List Nat)(w0:World)(cs ss:List Value)(h:q8a p t x s M w0 cs ss)(hk:6≤s.kind:=by omega):
 N0a prog 218 #[.agg cs.toArray,.int .i64 t,.agg ss.toArray] w0 fun v w'=>v=.bool true∧Below w0.heap.size w0 w':=by
 obtain⟨hP,hS,_,a0,_⟩:=h;obtain⟨_,_,_,_,_,_,_,_,_,_,nt,_,rfl,_⟩:=hP.open_;obtain⟨_,_,_,_,_,_,rfl,⟨_,_⟩,_⟩:=hS.open_;have S:=St.refl w0;have h6:=a0.row.k6 hk;have d0:=h6.1;have f0:=h6.2;unfold k2a at d0;refine a0a func218 Z ntmps218 Z ?_;refine wO0 Z U (m0a S Z ?_);intro g3 w3 S3 X3 G3;refine m0a S3 Z ?_;intro g5 w5 S5 X5 G5;refine lO S5.k [.w 0] Z ⟨⟨Z,by rfl⟩,U⟩ (i0a S5 G0c Z Z (P7b s M _ _ (B1a.keep (S5.keep0 M) _ _ hS) (a0.row.k5 (by omega)).2 (a0.row.k5 (by omega)).1) ?_);intro w8 S8 X8;refine lB S8.k [.o 0] Z ⟨Z,U⟩ (fun c0=>?_) (fun c0=>by exfalso;omega);refine lO S8.k [.o 0,.o 1] Z ⟨Z,Z,U⟩ (i0a S8 J3a Z Z ((show decide (0≤s.target∧s.target<(nt:Int))=true from decide_eq_true (by omega))▸S2a _ _ _) ?_);intro g0 b0 e0;exact lT Z U Z ⟨Z,b0.fin⟩
theorem c6b(p:h0a)(t:Nat)(x:U0a)(s:v1a)(M:List Nat)(w0:World)(cs ss:List Value)(h:q8a p t x s M w0 cs ss)(hk:s.kind=6):
 N0a prog 217 #[.agg cs.toArray,.int .i64 t,.agg ss.toArray] w0 fun v w'=>v=.bool true∧Below w0.heap.size w0 w':=by
 have h0:=h;obtain⟨hP,hS,hp,e0,hK,hM⟩:=h;obtain⟨_,_,_,_,_,_,_,_,_,_,_,_,rfl,_,_,_,j0,_⟩:=hP.open_;obtain⟨_,_,_,_,_,_,rfl,⟨_,_⟩,_⟩:=hS.open_;have S:=St.refl w0;have i0:∀w':World,w0.heap.size≤w'.heap.size→∀g∈M,g<w'.heap.size:=fun w' h g hg=>by have:=hM g hg;omega
 have h6:=e0.row.k6 (by omega);have g0:=h6.1;unfold k2a at g0;refine a0a func217 Z ntmps217 Z ?_;refine wO0 Z U (m0a S Z ?_);intro g3 w3 S3 X3 G3;refine m0a S3 Z ?_;intro g5 w5 S5 X5 G5;refine lO S5.k [.w 1,.w 0] Z ⟨⟨Z,by rfl⟩,⟨Z,by rfl⟩,U⟩ (i0a S5 A2c Z Z (M1b p t x s M _ _ _ ⟨hP.keep (S5.keep0 M),B1a.keep (S5.keep0 M) _ _ hS,hp,e0,hK.keep (S5.keep0 M),i0 _ S5.size⟩) ?_);intro p0 a0 o0;obtain⟨u,f0,n0,_,m0,b0,_,_,c0,d0⟩:=RdS.get (j0) (s.target.toNat) (by omega);obtain⟨_,_,_,_,_,_,_,_,_,_,_,_,rfl,_⟩:=R0a.open_ d0;refine lO a0.k [.o 1,.o 0,.x f0 n0] Z ⟨⟨b0,by omega⟩,Z,Z,U⟩ ?_;refine s0a i2a Z (v:=.bool true) (by have h4:=a0.old (c0 6 _ Z);rw[e0.row.k7 hk u m0] at h4;exact h4) Z ?_;exact lT Z U Z ⟨Z,a0.fin⟩
theorem o7b(p:h0a)(t:Nat)(x:U0a)(s:v1a)(M:List Nat)(w0:World)(cs ss:List Value)(h:q8a p t x s M w0 cs ss)(hk:s.kind=2):
 N0a prog 213 #[.agg cs.toArray,.int .i64 t,.agg ss.toArray] w0 fun v w'=>v=.bool true∧Below w0.heap.size w0 w':=by
 obtain⟨hP,hS,hp,j0,hK,hM⟩:=h;obtain⟨Ac,nc,cc,Am,nm,cm,Al,nl,cl,At,nt,ct,rfl,_⟩:=hP.open_;obtain⟨Ag,ng,cg,_,ns,E0,rfl,⟨_,_⟩,hG,g0,_⟩:=hS.open_;have S:=St.refl w0;have H0:∀w':World,w0.heap.size≤w'.heap.size→∀g∈M,g<w'.heap.size:=fun w' h g hg=>by have:=hM g hg;omega
 have h4:decide (s.kind=4)=false:=decide_eq_false (by omega);have F1:P3a s.guard (z0b p t)=true:=t9a hp j0.guard.1 (h4▸j0.row.guard);obtain⟨a0,l,f0,E1,z1,B1,D1,A1,hl⟩:=j0.row.k2 hk;have hlen:s.set.length=l.length+1:=by rw[f0];rfl
 have W0:a0∈s.set:=by rw[f0];simp
 have z0:=(j0.set a0 W0).1;have K0:=F2b (j0.set a0 W0).2.1 B1;have O0:s.set[0]?=some a0:=by rw[f0];rfl
 unfold k2a at z0;obtain⟨_,b0,p0,_,P0,rfl,v1,_,v0,C1⟩:=RdS.get g0 0 (by omega);obtain rfl:=Option.some.inj (O0.symm.trans P0);obtain⟨Z0,H1,r1,rfl,G1,_⟩:=Z0a.open_ C1;have y1:s.set.drop 1=l:=by rw[f0];rfl
 have U0:=RdS.dropped g0 1 (by omega);rw[y1] at U0;refine a0a func213 Z ntmps213 Z ?_;refine wO0 Z U (m0a S Z ?_);intro g3 w3 S3 X3 G3;refine m0a S3 Z ?_;intro g5 w5 S5 X5 G5;refine lO S5.k [.w 1] Z ⟨⟨Z,Z⟩,U⟩ (x0a S5 g4b Z Z (f4b p t M _ _ (hP.keep (S5.keep0 M)) (H0 _ S5.size)) ?_);rintro N1 X0 hq o0 K1;obtain⟨f,first,caps,rfl,_⟩:=id hq;have c0:=z0a.refl [] X0;refine lB o0.k [.o 0] Z ⟨Z,U⟩ (fun s1=>by exfalso;omega) fun s1=>?_;refine lO o0.k [.o 0] Z ⟨Z,U⟩ (i0a o0 x9a Z Z (F1▸D7a _ M _ _ _ (z0b p t) (RdE.keep (o0.keep0 M) _ _ hG) (hq.keep c0.of_nil) (hK.keep (o0.keep0 M)) (H0 _ o0.size)) ?_);intro R0 S0 f1;replace c0:=c0.trans f1;refine lC0 Z U (w2b b0a (fun i=>[0,1,2,3,4,5,6,7,8,9,11].contains i) [0,1,2,3,4,5,6,7,8,9,10,11] 12 (x3d S0) _ Z ?_);have e0:=S0.drew;have d0:z0a [] R0 R0.drew:=j2a _ _;generalize R0.drew=X1 at e0 d0 ⊢;replace c0:=c0.trans d0;refine M1a ⟨e0,d0⟩ Z Z Z ?_;refine I0a k7b Z Z ?_;refine f0a ?_;refine M1a ⟨e0,d0⟩ Z Z Z ?_;refine o0a L4b Z (fun w1 hw=>by exact hw.1.cell 0 Z Z) Z ?_;refine f0a ?_;refine M1a ⟨e0,d0⟩ Z Z Z ?_;refine p0a Q1b.slT Z (by rfl) Z Z ?_;refine f0a ?_;refine M1a ⟨e0,d0⟩ Z Z Z ?_;refine I0a s8b Z Z ?_;refine f0a ?_;refine M1a ⟨e0,d0⟩ Z Z Z ?_;refine o0a M0a Z (fun w1 hw=>by exact hw.1.old (v0 _ _ Z)) Z ?_;refine f0a ?_;refine M1a ⟨e0,d0⟩ Z Z Z ?_;refine I0a k7b Z Z ?_;refine f0a ?_;refine M1a ⟨e0,d0⟩ Z Z Z ?_;refine o0a L4b Z (fun w1 hw=>by exact hw.1.cell 0 Z Z) Z ?_;refine f0a ?_;refine M1a ⟨e0,d0⟩ Z Z Z ?_;refine p0a Q1b.slT Z (by rfl) Z Z ?_;refine f0a ?_;refine M1a ⟨e0,d0⟩ Z Z Z ?_;refine I0a T7b Z Z ?_;refine f0a ?_;refine M1a ⟨e0,d0⟩ Z Z Z ?_;refine u1a B2a Z (fun w1 hw=>(O1a.sub v0 1 4).keep (hw.1.keep0 M) v1) (by rfl) Z ?_;refine f0a ?_;refine h9a ⟨e0,d0⟩ Z Z Z Z ?_;refine j0a e0 T8a Z Z ?_;intro g9 w9 S9 X9 G9;have q0:=Nat.le_trans c0.size G9;have t0:=d0.trans X9;replace c0:=c0.trans X9;refine w0a ⟨Z,?_⟩;refine M1a ⟨S9.tail,t0⟩ Z Z Z ?_;refine H3a (hv:=Z) (v:=.int .i64 _) Z ?_;refine f0a ?_;refine C6a ⟨S9.tail,t0⟩ ?_;refine e0a (kk:=0) (vs:=[_,_,_,_]) S9 a9a Z Z Z Z Z Z Z ?_;intro Y0 i0 s0;dsimp only[n0a,List.set] at i0;replace c0:=c0.fresh s0 (by first|exact q0);refine w0a ⟨Z,?_⟩;refine fO0 Z U (o0b i0 (hq.keep c0.of_nil) Z Z (G1) (decide_eq_true ⟨z0,E1⟩) Z (fun P1 A0 g1=>?_));replace c0:=c0.trans g1;refine lO A0.k [.w 2] Z ⟨⟨Z,Z⟩,U⟩ (i0a A0 p1b Z Z (z1▸P6a p M _ _ _ (hP.keep (A0.keep0 M)) z0.1 z0.2) ?_);intro Q1 x0 i1;replace c0:=c0.trans i1;refine lB x0.k [.o 0] Z ⟨Z,U⟩ (fun t1=>by exfalso;omega) fun t1=>?_;refine lO x0.k [.w 2,.o 0] Z ⟨Z,⟨Z,Z⟩,U⟩ (i0a x0 R0b Z Z ((show shQ p a0.to.n=true from decide_eq_true ⟨K0,D1⟩)▸W5a p M _ _ _ (hP.keep (x0.keep0 M))) ?_);intro R1 B0 j1;replace c0:=c0.trans j1;refine lO B0.k [.w 2,.o 0] Z ⟨Z,⟨Z,Z⟩,U⟩ (i0a B0 p1b Z Z (A1▸P6a p M _ _ _ (hP.keep (B0.keep0 M)) K0.1 K0.2) ?_);intro T1 T0 m1;replace c0:=c0.trans m1;refine lO T0.k [.o 1] Z ⟨Z,U⟩ ?_;refine F3b (kd:=.i64) (lo:=1) (hi:=ns) Q1b.slT Z (.inr Z) (.inl ⟨Z,Z⟩) (by have:=g0.len;omega) (by have:=g0.len;omega) Z ?_;refine lC0 Z U (wL (fun μk D ε w=>D=[]∧∃k:Nat,(k+μk=(l.length))∧(z0a [] X0 w)∧St [] w0 w [(some g9,68,[.int .i64 a0.to.op,.int .i64 a0.to.w,.int .i64 a0.to.n,.slice Z0 H1 r1]),(some g5,97,[.int .i64 s.kind,.int .i64 s.frm,.int .i64 s.to,.int .i64 s.guard.op,.int .i64 s.guard.w,.int .i64 s.guard.n,.slice Ag ng cg,.slice (some ⟨b0,p0,none⟩) ns E0,.bool s.release,.int .i64 s.target,.int .i64 s.module_]),(some g3,195,[.slice Ac nc cc,.slice Am nm cm,.slice Al nl cl,.slice At nt ct])]∧Sl ε [(3,.pointer (some ⟨g3,0,none⟩)),(7,.func (.func f) first caps),(65,.slice (some (if E0=1 then⟨b0,p0,none⟩ else⟨b0,p0+1*5,none⟩)) (ns-1) (E0-1)),(66,.int .i64 (ns-1:Nat)),(67,.int .i64 k)]) (μ:=(l.length)) ⟨Z,0,by omega,c0,T0,Z⟩ ?_);rintro μk D ε w ⟨rfl,k,hk,c0,S,eZ⟩;refine wK eZ (wB0 Z U (fun u1=>?_) fun u1=>?_)
 ·obtain⟨a,q1,I1,_,N0,F0,_,J0,I0,L0⟩:=RdS.get (U0) (k) (by omega);obtain⟨_,_,_,rfl,Q0,G0⟩:=Z0a.open_ L0;have V0:=hl a (d0a N0);have u0:a∈s.set:=by rw[f0];exact List.mem_cons_of_mem _ (d0a N0)
  have y0:=(j0.set a u0).1;unfold k2a at y0;have x1:P3a a.to (z0b p t)=true:=t9a hp (j0.set a u0).2.1 (h4▸d5c j0.row.vals (k:=k) (a:=a) (by rw[f0];exact N0));refine lO (S.k.a I0) [.x q1 I1,.v 0] Z ⟨⟨Z,J0⟩,⟨F0,by omega⟩,U⟩ (j0a S S7a Z Z ?_);intro M1 O1 b1 d1 a1;have m0:=Nat.le_trans c0.size a1;replace c0:=c0.trans d1;refine e0a (kk:=0) (vs:=[_,_,_,_,_]) b1 P7a Z Z Z Z Z Z Z ?_;intro J1 n0 D0;dsimp only[n0a,List.set] at n0;replace c0:=c0.fresh D0 (by exact m0);refine lO n0.k [.o 0] Z ⟨Z,U⟩ (o0b n0 (hq.keep c0.of_nil) Z Z (Q0) (decide_eq_true ⟨y0,V0.1⟩) Z (fun U1 C0 n1=>?_));replace c0:=c0.trans n1;refine lO C0.k [.w 3,.o 0] Z ⟨Z,⟨Z,Z⟩,U⟩ (i0a C0 p1b Z Z (V0.2▸P6a p M _ _ _ (hP.keep (C0.keep0 M)) y0.1 y0.2) ?_);intro V1 r0 o1;replace c0:=c0.trans o1;refine lO r0.k [.o 0] Z ⟨Z,U⟩ (i0a r0 x9a Z Z (x1▸D7a _ M _ _ _ (z0b p t) (RdE.keep (r0.keep0 M) _ _ G0) (hq.keep c0.of_nil) (hK.keep (r0.keep0 M)) (H0 _ r0.size)) ?_);intro W1 c1 p1;replace c0:=c0.trans p1;refine lP0 Z ⟨by omega,U⟩ ⟨μk-1,by omega,Z,(k+1),(by omega),(c0),c1.tail,Z⟩
 exact lT Z U Z ⟨Z,S.fin⟩
theorem r3b(p:h0a)(t c:Int)(g g':Nat)(M:List Nat)(w0:World)(cs:List Value)(vf:Value)(hP:C1a M w0 p cs)(hg:O1a w0 g 0 cs)(b0:w0.cell? ⟨g',0,none⟩=some vf)(hp:V2a prog M w0 vf (s4b p t))(hc:i64 c)(h0:0≤c∧c<p.cells.length)(h1:R2b p.cells c=true)(h2:s4b p t c=true):
 N0a prog 225 #[.int .i64 c,.pointer (some ⟨g,0,none⟩),.pointer (some ⟨g',0,none⟩)] w0 fun v w'=>v=.bool true∧Below w0.heap.size w0 w':=by
 obtain⟨_,_,_,_,_,_,_,_,_,_,_,_,rfl,_⟩:=hP.open_;have S:=St.refl w0;refine a0a func225 Z ntmps225 Z ?_;refine wO0 Z U ?_
 first|refine z1a a4b Z ((fun j v hj=>S.old (hg j v hj))) (by rfl) Z ?_
 refine lO0 Z U (i0a S p1b Z Z (h1▸P6a p M _ _ _ (hP.keep (S.keep0 M)) h0.1 h0.2) ?_);intro w7 S7 X7;refine lO0 Z U (s0a k3b Z (by first|exact S7.old b0) Z ?_);refine lO0 Z U (o0b S7 (hp.keep (S7.keep0 M)) Z Z (hc) (h2) Z (fun d0 a0 c0=>?_));exact lT Z U Z ⟨Z,a0.fin⟩
theorem V6b(l:List U1a)(M:List Nat)(w0:World)(v:Value)(f:FuncId)(first caps:Array Value)(hS:X9c M w0 v l)(hH:Has prog f)
 (hf:∀w',z0a M w0 w'→∀a∈l,i64 a.cell→N0a prog f (first.toList++[Value.int .i64 a.cell]++caps.toList).toArray w' fun v r0=>v=.bool true∧Below w'.heap.size w' r0) :
 N0a prog 223 #[v,.func (.func f) first caps] w0 fun v w'=>v=.bool true∧Below w0.heap.size w0 w':=by
 obtain⟨As,ns,n0,rfl⟩:=hS.form;obtain⟨_,_⟩:=hS.len;have S:=St.refl w0;refine a0a func223 Z ntmps223 Z ?_;refine wC0 Z U (wL (fun μk D ε w=>D=[]∧∃k:Nat,(k+μk=(l.length))∧St [] w0 w []∧Sl ε [(1,.func (.func f) first caps),(7,.slice As ns n0),(8,.int .i64 ns),(9,.int .i64 k)]) (μ:=(l.length)) ⟨Z,0,by omega,S,Z⟩ ?_);rintro μk D ε w ⟨rfl,k,_,S,eZ⟩;refine wK eZ (wB0 Z U (fun o0=>?_) fun o0=>?_)
 ·obtain⟨a,m0,q0,_,p0,b0,_,d0,c0,e0⟩:=RdS.get (hS) (k) (by omega);obtain⟨_,_,_,rfl,f0,_⟩:=Z0a.open_ e0;refine lO (S.k.a c0) [.x m0 q0,.v 0] Z ⟨⟨Z,d0⟩,⟨b0,by omega⟩,U⟩ (j0a S S7a Z Z ?_);intro g6 w6 S6 X6 G6
  first|refine e0a (kk:=0) (vs:=[_,_,_,_,_]) S6 P7a Z Z Z Z Z Z Z ?_
  intro s0 a0 j0;dsimp only[n0a,List.set] at a0;refine lO a0.k [.o 0] Z ⟨Z,U⟩ (c1b (vs:=first.toList++[Value.int .i64 a.cell]++caps.toList) hH Z Z Z (hf _ (a0.keep0 M) a (d0a p0) f0) ?_);rintro t0 u0 ⟨rfl,g0⟩;have i0:=a0.later g0;refine lP0 Z ⟨by omega,U⟩ ⟨μk-1,by omega,Z,(k+1),(by omega),i0.tail,Z⟩
 exact lT Z U Z ⟨Z,S.fin⟩
theorem O5b(p:h0a)(t:Nat)(x:U0a)(s:v1a)(M:List Nat)(w0:World)(cs ss:List Value)(h:q8a p t x s M w0 cs ss)(hk:s.kind=3):
 N0a prog 214 #[.agg cs.toArray,.int .i64 t,.agg ss.toArray] w0 fun v w'=>v=.bool true∧Below w0.heap.size w0 w':=by
 obtain⟨hP,hS,hp,d0,hK,hM⟩:=h;obtain⟨_,_,_,_,_,_,_,_,_,_,_,_,rfl,_⟩:=hP.open_;obtain⟨_,_,_,_,ns,_,rfl,⟨_,_⟩,_,e0,_⟩:=hS.open_;have S:=St.refl w0;have r0:∀w':World,w0.heap.size≤w'.heap.size→∀g∈M,g<w'.heap.size:=fun w' h g hg=>by have:=hM g hg;omega
 have h4:decide (s.kind=4)=false:=decide_eq_false (by omega);have I0:P3a s.guard (z0b p t)=true:=t9a hp d0.guard.1 (h4▸d0.row.guard);have J0:∀a∈s.set,P3a a.to (z0b p t)=true:=fun a ha=>by
  obtain⟨i,hi,rfl⟩:=List.getElem_of_mem ha;exact t9a hp (d0.set _ ha).2.1 (h4▸d0.row.vals i hi (.inr (by omega)))
 obtain⟨a0,l,c0,H0,D0,hl⟩:=d0.row.k3 hk;have hlen:s.set.length=l.length+1:=by rw[c0];rfl
 have F0:a0∈s.set:=by rw[c0];simp
 have o0:=(d0.set a0 F0).1;have u0:s.set[0]?=some a0:=by rw[c0];rfl
 unfold k2a at o0;obtain⟨_,_,_,_,v0,rfl,_,_,s0,G0⟩:=RdS.get e0 0 (by omega);obtain rfl:=Option.some.inj (u0.symm.trans v0);obtain⟨_,_,_,rfl,_⟩:=Z0a.open_ G0;have C0:s.set.drop 1=l:=by rw[c0];rfl
 have x0:=RdS.dropped e0 1 (by omega);rw[C0] at x0;have t0:∀a∈l,(0≤a.cell∧a.cell<p.cells.length)∧R2b p.cells a.cell=true∧s4b p t a.cell=true:=fun a ha=>by
  have f0:a∈s.set:=by rw[c0];exact List.mem_cons_of_mem _ ha
  refine⟨(d0.set a f0).1,hl a ha,?_⟩;unfold s4b shQ z0b;rw[Bool.or_eq_true,decide_eq_true_eq,decide_eq_true_eq];rcases d0.row.cells a f0 with h|h
  ·exact .inr ⟨(d0.set a f0).1,h⟩
  ·exact .inl ⟨(d0.set a f0).1,h⟩
 refine a0a func214 Z ntmps214 Z ?_;refine wO0 Z U (m0a S Z ?_);intro g3 w3 S3 X3 G3;refine m0a S3 Z ?_;intro g5 w5 S5 X5 G5;refine lC0 Z U (v0a b0a [0,1,2,3,4,5,6,7] [8] [9,10,11] Z (Cl _ _ _ _) (Cl.start S5) ?_);refine qB S5.q [.o 0] Z ⟨Z,U⟩ (fun B0=>by exfalso;omega) fun B0=>?_;refine qN S5.q [.w 0,.w 1] Z ⟨⟨Z,by rfl⟩,⟨Z,by rfl⟩,U⟩ (z3a ?_);refine W3b (fun v w=>V2a prog M w v (z0b p t)) Z Z g4b Z (fun v w w' h hk=>h.keep hk.of_nil) (fun w1 S1 X1=>f4b p t M _ _ (hP.keep (S1.keep0 M)) (r0 _ S1.size)) ?_;refine K1a ?_;rintro Y0 ⟨n0,_⟩;rintro S0 hq;dsimp only[c4a];obtain⟨_,first,_,rfl,_⟩:=id hq;refine lO0 Z U (i0a n0 A7b Z Z (L9a s M _ _ _ (z0b p t) (B1a.keep (n0.keep0 M) _ _ hS) hq (hK.keep (n0.keep0 M)) (r0 _ n0.size) I0 J0) ?_);intro U0 j0 N0;refine lO j0.k [.o 0] Z ⟨Z,U⟩ (L0a Q1b.slT Z Z Z ?_);refine lO0 Z U (s0a M0a Z (by exact j0.old (s0 _ _ Z)) Z ?_);refine lO j0.k [.w 1] Z ⟨⟨Z,by rfl⟩,U⟩ (i0a j0 R0b Z Z ((show shQ p a0.cell=true from decide_eq_true ⟨o0,H0⟩)▸W5a p M _ _ _ (hP.keep (j0.keep0 M))) ?_);intro V0 p0 O0;refine lO p0.k [.w 1] Z ⟨⟨Z,by rfl⟩,U⟩ (i0a p0 p1b Z Z (D0▸P6a p M _ _ _ (hP.keep (p0.keep0 M)) o0.1 o0.2) ?_);intro W0 m0 P0;refine lO m0.k [.w 1] Z ⟨⟨Z,by rfl⟩,U⟩ (x0a m0 D7b Z Z (X7a p t M _ _ (hP.keep (m0.keep0 M)) (r0 _ m0.size)) ?_);rintro T0 K0 y0 z0 Q0;obtain⟨_,_,_,rfl,_⟩:=id y0;have g0:=z0a.refl [] K0;refine j0a z0 T6c Z Z ?_;intro g8 w8 S8 X8 G8;have i0:=Nat.le_trans g0.size G8;replace g0:=g0.trans X8;refine u0a (kk:=0) S8 m6c Z Z Z (by exact Nat.le_of_ble_eq_true Z) ?_;intro L0 b0 q0;replace g0:=g0.fresh q0 (by first|exact i0);refine lO b0.k [.o 1] Z ⟨Z,U⟩ ?_;refine F3b (kd:=.i64) (lo:=1) (hi:=ns) Q1b.slT Z (.inr Z) (.inl ⟨Z,Z⟩) (by have:=e0.len;omega) (by have:=e0.len;omega) Z ?_;refine e2a Z Z ?_;refine i0a b0 v6b Z Z (V6b l M _ _ _ _ _ (RdS.keepW x0 (b0.keep0 M) (Z0a.keep (b0.keep0 M))) C8c (fun w' hk a ha E0=>r3b p t a.cell g3 g8 M w' _ _ (hP.keep ((b0.keep0 M).trans hk)) ((b0.cells 2 Z).keep hk (V0a hM (b0.new 2 Z))) (hk.cell (a:=⟨g8,0,none⟩) (V0a hM (b0.new 0 Z)) (b0.cell 0 Z Z)) (y0.keep (g0.of_nil.trans hk)) E0 (t0 a ha).1 (t0 a ha).2.1 (t0 a ha).2.2)) ?_;intro X0 A0 R0;exact lT Z U Z ⟨Z,A0.fin⟩
def f8b(k:Int):Nat:=if k=1 then 212 else if k=2 then 213 else if k=3 then 214 else if k=4 then 215 else if k=5 then 216 else if k=6 then 217 else 218
def j1c:Array Value:=#[.nilFunc,.func (.func 212) #[] #[],.func (.func 213) #[] #[],.func (.func 214) #[] #[],.func (.func 215) #[] #[],.func (.func 216) #[] #[],.func (.func 217) #[] #[],.func (.func 218) #[] #[]]
theorem A8c(p:h0a)(t:Nat)(x:U0a)(s:v1a)(M:List Nat)(w0:World)(cs ss:List Value)(h:q8a p t x s M w0 cs ss):
 N0a prog (f8b s.kind) #[.agg cs.toArray,.int .i64 t,.agg ss.toArray] w0 fun v w'=>v=.bool true∧Below w0.heap.size w0 w':=by
 have hk:=h.sok.kind;rcases(show s.kind=1∨s.kind=2∨s.kind=3∨s.kind=4∨s.kind=5∨s.kind=6∨s.kind=7 by omega) with e|e|e|e|e|e|e<;>rw[e]
 ·exact g5b p t x s M w0 cs ss h e
 ·exact o7b p t x s M w0 cs ss h e
 ·exact O5b p t x s M w0 cs ss h e
 ·exact c3b p t x s M w0 cs ss h e
 ·exact a6b p t x s M w0 cs ss h (by omega)
 ·exact c6b p t x s M w0 cs ss h e
 ·exact M1b p t x s M w0 cs ss h
theorem X9b{k:Int}:Has prog (f8b k):=by
 unfold f8b
 repeat' split
 ·exact X7c
 ·exact P9c
 ·exact O9c
 ·exact W6c
 ·exact o8c
 ·exact B8c
 ·exact A2c
theorem p2c{k:Int}(h1:1≤k)(h7:k≤7):j1c.extract (k.toNat*1) (k.toNat*1+1)=#[.func (.func (f8b k)) #[] #[]]:=by
 rcases(show k=1∨k=2∨k=3∨k=4∨k=5∨k=6∨k=7 by omega) with e|e|e|e|e|e|e<;>subst e<;>rfl
theorem X3c(wz:World):N0a prog 203 #[] wz fun v w'=>v=.agg j1c∧Below wz.heap.size wz w':=by
 have S:=St.refl wz;refine a0a func203 Z ntmps203 Z ?_;refine wO0 Z U (j0a S n2d Z Z ?_);intro g0 w0 S0 X0 G0;refine lO0 Z U (d1a W7a (vs:=[(0,.func _ _ _)]) (cs:=[_]) Z Z Z Z ?_);refine d1a W7a (vs:=[(0,.func _ _ _)]) (cs:=[_]) Z Z Z Z ?_;refine d1a W7a (vs:=[(0,.func _ _ _)]) (cs:=[_]) Z Z Z Z ?_;refine d1a W7a (vs:=[(0,.func _ _ _)]) (cs:=[_]) Z Z Z Z ?_;refine d1a W7a (vs:=[(0,.func _ _ _)]) (cs:=[_]) Z Z Z Z ?_;refine d1a W7a (vs:=[(0,.func _ _ _)]) (cs:=[_]) Z Z Z Z ?_;refine d1a W7a (vs:=[(0,.func _ _ _)]) (cs:=[_]) Z Z Z Z ?_;refine r1a (v:=.agg j1c) (w':=w0) Z Z Z (by kernel_rfl) ?_
 first|refine e0a (kk:=0) (vs:=[_,_,_,_,_,_,_,_]) S0 q1d Z Z Z Z Z Z Z ?_
 intro c0 a0 b0;dsimp only[n0a,List.set] at a0;refine lR0 Z U ?_;exact H1a (n:=8) Z (J2a (by rw[Tryz.underlying253];simp)) Z (a0.cells 0 Z) Z ⟨Z,a0.fin⟩
section
variable {P:Program} {N:Nat} {ops:Array Oper} {C:World→Prop} {rest:List Oper} {K:Env→Prop} {e:Env} {d:Nat} {t:TypeId} {p:String} {af:Array Edge} {x y:Operand} {kd:IntKind} {a:Int}
theorem f5c{ty len el size:Nat}{cs a0:Array Value}(hu:P.underlying ty=some (.array len el))(b0:∀w:World,(sizeOf el).run P w=.ok size w)(ha:∀w:World,(isAgg el).run P w=.ok true w)(hx:ev e x=.agg cs)(hy:ev e y=.int kd a)(h0:0≤a)(h1:a<len)(hv:cs.extract (a.toNat*size) (a.toNat*size+size)=a0)(hd:Nat.ble (d+1) N=true)
 (h:QL P N ops C rest K (upd e d (.agg a0))):QL P N ops C (⟨some d,.index ty x y,t,p,af,none⟩::rest) K e :=
 E3a Z Z hd (fun w _=>by simp[execOp,Instr.index,hx,hy,asIntOf,run_underlying hu,h0,h1,b0,part,ha,hv]) h
end
theorem D9a{M:List Nat}{w:World}{g:Nat}(hM:∀g∈M,g<w.heap.size)(h:w.heap.size≤g):g∉M:=fun hh=>by have:=hM g hh;omega
theorem u2c:∀w:World,(sizeOf 252).run prog w=.ok 1 w:=fun _=>by kernel_rfl
theorem A5c:∀w:World,(isAgg 252).run prog w=.ok true w:=fun _=>by kernel_rfl
theorem Z4c(p:h0a)(t:Nat)(x:U0a)(s:v1a)(M:List Nat)(w0:World)(cs ss ts:List Value)(h:q8a p t x s M w0 cs ss)(hT:R0a M w0 ts x)(Z1:1≤x.points)(F1:x.points≤48):
 N0a prog 169 #[.agg cs.toArray,.int .i64 t,.agg ts.toArray,.agg ss.toArray] w0 fun v w'=>v=.int .i64 0∧Below w0.heap.size w0 w':=by
 obtain⟨hP,hS,hp,g0,hK,hM⟩:=h;obtain⟨Ac,nc,cc,Am,nm,cm,Al,nl,cl,At,nt,ct,rfl,hC,_⟩:=hP.open_;obtain⟨Ag,ng,cg,As,ns,y0,rfl,⟨_,_⟩,hG,U0,_⟩:=hS.open_;obtain⟨z0,c1,L0,B0,f1,O0,C0,g1,P0,A0,d1,N0,rfl,_⟩:=hT.open_;have S:=St.refl w0;have E1:∀w':World,w0.heap.size≤w'.heap.size→∀g∈M,g<w'.heap.size:=fun w' h g hg=>by have:=hM g hg;omega
 have k0:=g0.kind;have k1:=g0.frm;have k2:=g0.to;have k3:=g0.mod;have k4:=g0.rel;have k5:=g0.tgt;have k6:=g0.guard;unfold k2a at k3;have W0:s.set.Pairwise fun a b=>Value.int .i64 a.cell≠.int .i64 b.cell:=g0.once.imp fun h e=>h (by injection e);refine a0a func169 Z ntmps169 Z ?_;refine wO0 Z U (m0a S Z ?_);intro g4 w4 S4 X4 G4;refine m0a S4 Z ?_;intro g6 w6 S6 X6 G6;refine m0a S6 Z ?_;intro g7 w7 S7 X7 G7;refine lCn 3 S7.k [] Z U (wX (fun D ε w=>D=[]∧∃J0:Bool,(s.kind=6∨s.kind=7→J0=true)∧St [] w0 w [(some g7,97,[.int .i64 s.kind,.int .i64 s.frm,.int .i64 s.to,.int .i64 s.guard.op,.int .i64 s.guard.w,.int .i64 s.guard.n,.slice Ag ng cg,.slice As ns y0,.bool s.release,.int .i64 s.target,.int .i64 s.module_]),(some g6,93,[.string x.name,.int .i64 x.points,.slice z0 c1 L0,.slice B0 f1 O0,.slice C0 g1 P0,.slice A0 d1 N0,.bool x.asleep]),(some g4,195,[.slice Ac nc cc,.slice Am nm cm,.slice Al nl cl,.slice At nt ct])]∧Sl ε [(1,.int .i64 t),(4,.pointer (some ⟨g4,0,none⟩)),(6,.pointer (some ⟨g6,0,none⟩)),(7,.pointer (some ⟨g7,0,none⟩)),(9,.bool J0)]) ?_ ?_)
 ·refine wB S7.k [.o 0] Z ⟨Z,U⟩ (fun z1=>?_) fun z1=>?_
  ·refine lP0 Z U ⟨Z,(_),?_,S7,Z⟩;exact fun _=>rfl
  refine lB S7.k [.o 0] Z ⟨Z,U⟩ (fun A1=>?_) fun A1=>?_
  ·refine lP0 Z U ⟨Z,(_),?_,S7,Z⟩;exact fun _=>rfl
  refine lP0 Z U ⟨Z,(_),?_,S7,Z⟩;exact fun h=>absurd h (by omega)
 rintro D ε w ⟨rfl,J0,s0,S,eZ⟩;refine wK eZ (wX (fun D ε w=>D=[]∧St [] w0 w [(some g7,97,[.int .i64 s.kind,.int .i64 s.frm,.int .i64 s.to,.int .i64 s.guard.op,.int .i64 s.guard.w,.int .i64 s.guard.n,.slice Ag ng cg,.slice As ns y0,.bool s.release,.int .i64 s.target,.int .i64 s.module_]),(some g6,93,[.string x.name,.int .i64 x.points,.slice z0 c1 L0,.slice B0 f1 O0,.slice C0 g1 P0,.slice A0 d1 N0,.bool x.asleep]),(some g4,195,[.slice Ac nc cc,.slice Am nm cm,.slice Al nl cl,.slice At nt ct])]∧Sl ε [(1,.int .i64 t),(4,.pointer (some ⟨g4,0,none⟩)),(7,.pointer (some ⟨g7,0,none⟩))]) ?_ ?_)
 ·refine wB S.k [.o 0] Z ⟨Z,U⟩ (fun B1=>by exfalso;omega) fun B1=>?_;refine lB S.k [.o 0] Z ⟨Z,U⟩ (fun C1=>by exfalso;omega) fun C1=>?_;refine lO S.k [.o 0,.o 1] Z ⟨by omega,Z,Z,U⟩ (i0a S J3a Z Z ((show decide (0≤s.frm∧s.frm<x.points-1)=true from decide_eq_true (by omega))▸S2a _ _ _) ?_);intro d2 o1 R1;refine lO o1.k [.o 0,.o 1] Z ⟨Z,Z,U⟩ (i0a o1 J3a Z Z ((show decide (0≤s.to∧s.to<x.points)=true from decide_eq_true (by omega))▸S2a _ _ _) ?_);intro f2 p1 T1;refine lO p1.k [.o 0,.o 2] Z ⟨Z,Z,U⟩ (i0a p1 J3a Z Z ((show decide (0≤s.module_∧s.module_<(nm:Int))=true from decide_eq_true (by omega))▸S2a _ _ _) ?_);intro g2 b0 U1;refine lO0 Z U ?_;rcases(Bool.eq_false_or_eq_true (s.release)).symm with i0|i0
  ·refine s0a i2a Z (by exact(b0.cell 0 Z Z).trans (congrArg (fun b=>some (Value.bool b)) i0)) Z ?_;refine lB b0.k [.o 0] Z ⟨Z,U⟩ (fun q0=>?_) fun q0=>?_
   ·refine lOn 1 b0.k [] Z U (I3b Z Z Z ?_);have f0:=s0 (k5 q0);subst f0;refine y0a (hv:=Z) (v:=.bool true) Z ?_;refine lB b0.k [.o 0] Z ⟨Z,U⟩ (fun m0=>by exfalso;omega) fun m0=>?_;refine lO b0.k [.o 0,.o 2] Z ⟨Z,Z,U⟩ (i0a b0 m1b Z Z (k6.1▸u4a s.guard M _ _ _ p.cells false (RdE.keep (b0.keep0 M) _ _ hG) (hC.keep (b0.keep0 M)) (hK.keep (b0.keep0 M))) ?_);intro j1 j0 H0;refine lP0 Z U ⟨Z,j0,Z⟩
   refine lB b0.k [.o 0] Z ⟨Z,U⟩ (fun m0=>by exfalso;omega) fun m0=>?_;refine lO b0.k [.o 0,.o 2] Z ⟨Z,Z,U⟩ (i0a b0 m1b Z Z (k6.1▸u4a s.guard M _ _ _ p.cells false (RdE.keep (b0.keep0 M) _ _ hG) (hC.keep (b0.keep0 M)) (hK.keep (b0.keep0 M))) ?_);intro j1 j0 H0;refine lP0 Z U ⟨Z,j0,Z⟩
  refine s0a i2a Z (by exact(b0.cell 0 Z Z).trans (congrArg (fun b=>some (Value.bool b)) i0)) Z ?_;refine lB b0.k [.o 0] Z ⟨Z,U⟩ (fun s1=>by exact absurd (k4 i0) s1) (fun s1=>?_);refine lB b0.k [.o 0] Z ⟨Z,U⟩ (fun q0=>?_) fun q0=>?_
  ·refine lOn 1 b0.k [] Z U (I3b Z Z Z ?_);have f0:=s0 (k5 q0);subst f0;refine y0a (hv:=Z) (v:=.bool true) Z ?_;refine lB b0.k [.o 0] Z ⟨Z,U⟩ (fun m0=>by exfalso;omega) fun m0=>?_;refine lO b0.k [.o 0,.o 2] Z ⟨Z,Z,U⟩ (i0a b0 m1b Z Z (k6.1▸u4a s.guard M _ _ _ p.cells false (RdE.keep (b0.keep0 M) _ _ hG) (hC.keep (b0.keep0 M)) (hK.keep (b0.keep0 M))) ?_);intro j1 j0 H0;refine lP0 Z U ⟨Z,j0,Z⟩
  refine lB b0.k [.o 0] Z ⟨Z,U⟩ (fun m0=>by exfalso;omega) fun m0=>?_;refine lO b0.k [.o 0,.o 2] Z ⟨Z,Z,U⟩ (i0a b0 m1b Z Z (k6.1▸u4a s.guard M _ _ _ p.cells false (RdE.keep (b0.keep0 M) _ _ hG) (hC.keep (b0.keep0 M)) (hK.keep (b0.keep0 M))) ?_);intro j1 j0 H0;refine lP0 Z U ⟨Z,j0,Z⟩
 rintro D ε w ⟨rfl,S,eZ⟩;refine wK eZ (wO0 Z U ?_);refine c7a (k:=3) S Z ?_;intro Q0 i2 r1 V1 Q1 a0;have X0:w0.heap.size≤Q0:=by have:=S.size;omega
 refine lC r1.k [.o 0] Z ⟨Z,U⟩ (wL (fun μk D ε w=>D=[]∧∃k:Nat,(k+μk=(s.set.length))∧(C4a prog 3 w Q0 (E5a ((s.set.take k).map fun c=>.int .i64 c.cell)))∧St [] w0 w [(some g7,97,[.int .i64 s.kind,.int .i64 s.frm,.int .i64 s.to,.int .i64 s.guard.op,.int .i64 s.guard.w,.int .i64 s.guard.n,.slice Ag ng cg,.slice As ns y0,.bool s.release,.int .i64 s.target,.int .i64 s.module_]),(some g6,93,[.string x.name,.int .i64 x.points,.slice z0 c1 L0,.slice B0 f1 O0,.slice C0 g1 P0,.slice A0 d1 N0,.bool x.asleep]),(some g4,195,[.slice Ac nc cc,.slice Am nm cm,.slice Al nl cl,.slice At nt ct])]∧Sl ε [(1,.int .i64 t),(4,.pointer (some ⟨g4,0,none⟩)),(7,.pointer (some ⟨g7,0,none⟩)),(10,.map (some Q0)),(81,.slice As ns y0),(82,.int .i64 ns),(83,.int .i64 k)]) (μ:=(s.set.length)) ⟨Z,0,by omega,(by simpa[E5a] using a0),r1,Z⟩ ?_);rintro μk D ε w ⟨rfl,k,_,a0,S,eZ⟩;refine wK eZ (wB0 Z U (fun D1=>?_) fun D1=>?_)
 ·obtain⟨a,y1,H1,_,a1,S0,_,Y0,V0,Z0⟩:=RdS.get (U0) (k) (by omega);obtain⟨_,_,_,rfl,b1,T0⟩:=Z0a.open_ Z0;have q1:=g0.set a (d0a a1);have q2:=q1.1;unfold k2a at q2;have q3:=q1.2.2;refine lO (S.k.a V0) [.x y1 H1,.v 0] Z ⟨⟨Z,Y0⟩,⟨S0,by omega⟩,U⟩ (j0a S S7a Z Z ?_);intro W1 a2 m1 v1 O1;replace a0:=a0.keep v1 (List.not_mem_nil);refine e0a (kk:=0) (vs:=[_,_,_,_,_]) m1 P7a Z Z Z Z Z Z Z ?_;intro t1 c0 o0;dsimp only[n0a,List.set] at c0;replace a0:=a0.keep o0 (fun hh=>by rw[List.mem_singleton] at hh;exact a0.ne (m1.blk 0 Z) hh);refine lO c0.k [.o 0] Z ⟨Z,U⟩ ?_;have u0:=w6c b1;have v0:=c5a W0 a1;refine I1b (Go.Maps.int_keyed Tryz.underlying3) Tryz.underlying227 r2b a0 Z Z u0 Z (fun v hv=>absurd Z (S5a v0 _ hv)) (fun _=>?_);refine lO0 Z U (j0a c0 r2b Z Z ?_);intro Y1 b2 n1 x1 P1;replace a0:=a0.keep x1 (List.not_mem_nil);refine e0a (kk:=0) (vs:=[]) n1 J2c Z Z Z Z Z Z Z ?_;intro u1 d0 p0;dsimp only[n0a,List.set] at d0;replace a0:=a0.keep p0 (fun hh=>by rw[List.mem_singleton] at hh;exact a0.ne (n1.blk 0 Z) hh);refine lO d0.k [.o 1,.o 4] Z ⟨Z,Z,U⟩ (i0a d0 J3a Z Z ((show decide (0≤a.cell∧a.cell<(nc:Int))=true from decide_eq_true (by omega))▸S2a _ _ _) ?_);intro J1 n0 G0;replace a0:=a0.keep G0 (List.not_mem_nil);refine lO n0.k [.o 1] Z ⟨Z,U⟩ (d1a x7b (vs:=[]) (cs:=[]) Z Z Z Z ?_);refine x4b (key:=.int .i64 a.cell) (v:=.agg #[]) n0 (Go.Maps.int_keyed Tryz.underlying3) Tryz.underlying227 a0 Z Z Z u0 (S5a v0) (.inl X0) ?_;intro wm Sm Xm Mm;clear a0;have a0:=Mm;refine lC0 Z U (v0a b0a [0,1,2,3,4,5,6,7,8,9,10,11,12,13,14,15,16,17,18,19,20] [] [] Z (Cl _ _ _ _) (Cl.start Sm) ?_);obtain⟨c,K0,i1,_,G1,r0,_,_,t0,x0⟩:=RdS.get (hC) (a.cell.toNat) (by omega);obtain⟨rfl,_⟩:=P2a.open_ x0;rw[T5a (h0:=q2.1) G1] at q3;refine qB (Sm.q.a t0) [.o 1,.o 4,.o 1,.x K0 i1,.f 0 1] Z ⟨Z,⟨r0,by omega⟩,Z,Z,Z,U⟩ (fun R0=>by exfalso;omega) fun R0=>?_;refine qO Sm.q [.o 1,.o 4] Z ⟨Z,Z,U⟩ (A1a m1b Z Z (fun w1 S1 X1=>q1.2.1▸u4a a.to M _ _ _ p.cells false (RdE.keep (S1.keep0 M) _ _ T0) (hC.keep (S1.keep0 M)) (hK.keep (S1.keep0 M))) ?_);refine qD Z U ?_;rintro M1 ⟨F0,I0⟩;replace a0:=a0.keep I0 (List.not_mem_nil);refine lP0 Z ⟨by omega,U⟩ ?_;refine⟨μk-1,by omega,Z,(k+1),(by omega),((by rw[a1a a1,List.map_append,List.map_singleton,B9a];exact a0)),F0.tail.tail,Z⟩
 refine lC0 Z U (v0a b0a [0,1,2,3,4,5,6,7] [] [8,9] Z (Cl _ _ _ _) (Cl.start S) ?_);refine A1a Z6c Z Z (fun w1 S1 X1=>X3c _) ?_;refine qO S.q [.o 0] Z ⟨Z,U⟩ (f5c Tryz.underlying253 u2c A5c Z Z (by omega) (by omega) (p2c (by omega) (by omega)) Z ?_);refine qN S.q [.w 2,.w 0] Z ⟨⟨Z,Z⟩,⟨Z,Z⟩,U⟩ (z3a ?_);refine K1a ?_;rintro N1 ⟨e0,_⟩;refine F1b X9b Z Z Z (A8c p t x s M _ _ _ ⟨hP.keep (e0.keep0 M),B1a.keep (e0.keep0 M) _ _ hS,hp,g0,hK.keep (e0.keep0 M),E1 _ e0.size⟩) ?_;rintro I1 K1 ⟨rfl,D0⟩;have E0:=e0.later D0;exact lT Z U Z ⟨Z,E0.fin⟩
theorem e9b(c:Int)(g:Nat)(w0:World)(Ac Am Al At:Option Addr)(nc cc nm cm nl cl nt ct:Nat)(hg:O1a w0 g 0 [.slice Ac nc cc,.slice Am nm cm,.slice Al nl cl,.slice At nt ct]):
 N0a prog 167 #[.int .i64 c,.pointer (some ⟨g,0,none⟩)] w0 fun v w'=>v=.bool (decide (0≤c∧c<(nm:Int)))∧Below w0.heap.size w0 w':=by
 have S:=St.refl w0;refine a0a func167 Z ntmps167 Z ?_;refine wO0 Z U (s0a G6c Z (by first|exact S.old (hg 1 _ Z)) Z ?_);refine lO0 Z U (A0a S J3a Z Z (S2a _ _ _) (fun h9 w9 S9 X9=>?_) (fun h9 w9 S9 X9=>?_))
 ·refine lR0 Z U (r0a Z ?_);exact⟨by rw[h9],S9.fin⟩
 refine lR0 Z U (r0a Z ?_);exact⟨by rw[h9],S9.fin⟩
theorem f9b(c a0 hd:Int)(g g':Nat)(w0:World)(hg:w0.cell? ⟨g,1,none⟩=some (.int .i64 a0))(c0:w0.cell? ⟨g',0,none⟩=some (.int .i64 hd)):
 N0a prog 170 #[.int .i64 c,.pointer (some ⟨g,0,none⟩),.pointer (some ⟨g',0,none⟩)] w0 fun v w'=>v=.bool (decide ((0≤c∧c<a0)∧c≠hd))∧Below w0.heap.size w0 w':=by
 have S:=St.refl w0;refine a0a func170 Z ntmps170 Z ?_;refine wO0 Z U (s0a M0a Z (by exact S.old hg) Z ?_);refine A0a S J3a Z Z (S2a _ _ _) (fun h8 w8 S8 X8=>?_) (fun h8 w8 S8 X8=>?_)
 ·refine lO0 Z U (s0a M0a Z (by exact S8.old c0) Z ?_);refine lB0 Z U (fun b0=>?_) fun b0=>?_
  ·refine lT Z U Z ⟨congrArg Value.bool ?_,S8.fin⟩;exact(decide_eq_true ⟨of_decide_eq_true h8,by omega⟩).symm
  refine lT Z U Z ⟨congrArg Value.bool ?_,S8.fin⟩;exact(decide_eq_false fun h=>by omega).symm
 refine lT Z U Z ⟨congrArg Value.bool ?_,S8.fin⟩;exact(decide_eq_false fun h=>of_decide_eq_false h8 h.1).symm
theorem q2b(M:List Nat)(w0:World)(v vf:Value)(l:List Int)(q:Int→Bool)(hR:RdI M w0 v l)(hp:V2a prog M w0 vf q)(hM:∀g∈M,g<w0.heap.size)(hq:∀c∈l,q c=true):
 N0a prog 166 #[v,vf] w0 fun v w'=>v=.bool true∧Below w0.heap.size w0 w' :=
 (b7a M w0 v vf l q hR hp hM).mono fun v w' h=>⟨by rw[h.1,List.all_eq_true.2 hq],h.2⟩
def y3d(nm:Nat)(c:Int):Bool:=decide (0≤c∧c<(nm:Int))
def d1d(pts hd c:Int):Bool:=decide ((0≤c∧c<pts)∧c≠hd)
theorem b6b{g:Nat}{M:List Nat}{w0:World}{Ac Am Al At:Option Addr}{nc cc nm cm nl cl nt ct:Nat}(hg:O1a w0 g 0 [.slice Ac nc cc,.slice Am nm cm,.slice Al nl cl,.slice At nt ct])(hM:g∉M):
 V2a prog M w0 (.func (.func 167) #[] #[.pointer (some ⟨g,0,none⟩)]) (y3d nm) :=
 ⟨_,_,_,Z,Y6c,fun w' hk c _=>e9b c g w' Ac Am Al At nc cc nm cm nl cl nt ct (hg.keep hk hM)⟩
theorem i5b{g g':Nat}{M:List Nat}{w0:World}{a0 hd:Int}(hg:w0.cell? ⟨g,1,none⟩=some (.int .i64 a0))(c0:w0.cell? ⟨g',0,none⟩=some (.int .i64 hd))(hM:g∉M)(b0:g'∉M):
 V2a prog M w0 (.func (.func 170) #[] #[.pointer (some ⟨g,0,none⟩),.pointer (some ⟨g',0,none⟩)]) (d1d a0 hd) :=
 ⟨_,_,_,Z,n8c,fun w' hk c _=>f9b c a0 hd g g' w' (hk.cell (a:=⟨g,1,none⟩) hM hg) (hk.cell (a:=⟨g',0,none⟩) b0 c0)⟩
theorem L9b(p:h0a)(t:Nat)(x:U0a)(b:Nat)(l:List Value)(M:List Nat)(w0:World)(cs ts:List Value)(hP:C1a M w0 p cs)(hT:R0a M w0 ts x)(hp:n1a p)(hK:Y3a M w0)(hM:∀g∈M,g<w0.heap.size)(hb:b∈M)
 (hx:p.threads[t]?=some x) (hm:C4a prog 9 w0 b (E5a l)) (o1:Value.string x.name∉l) :
 N0a prog 135 #[.agg cs.toArray,.int .i64 t,.agg ts.toArray,.map (some b)] w0 fun v w'=>v=.tuple #[.int .i64 0,.int .i64 (-1)]∧S0a [b] w0 w'∧C4a prog 9 w' b (E5a (l++[.string x.name])):=by
 obtain⟨Ac,nc,cc,Am,nm,cm,Al,nl,cl,At,nt,ct,rfl,hC,_⟩:=hP.open_;obtain⟨G0,D0,K0,P0,s1,S0,I0,F0,N0,H0,E0,L0,rfl,_,W0,c1,d1,Y0,_⟩:=hT.open_;have S:=St.reflM [b] w0;have b0:∀g∈[b],g∈M:=fun g hg=>by rw[List.mem_singleton] at hg;subst hg;exact hb
 have t0:∀w':World,w0.heap.size≤w'.heap.size→∀g∈M,g<w'.heap.size:=fun w' h g hg=>by have:=hM g hg;omega
 have j0:=hp.thread hx;have k1:=j0.points;have k2:=j0.asserts;have k3:=j0.nmod;have i2:x.name.size≤140737488355328:=by have:=j0.name.2.1;omega
 refine a0a func135 Z ntmps135 Z ?_;refine wO0 Z U (m0a S Z ?_);intro g4 w4 S4 X4 G4;replace hm:=hm.keep X4 (List.not_mem_nil);refine m0a S4 Z ?_;intro g6 w6 S6 X6 G6;replace hm:=hm.keep X6 (List.not_mem_nil);refine lO S6.k [.o 0] Z ⟨Z,U⟩ (i0a S6 a3b Z Z (P8a _ _ j0.name) ?_);intro C2 w1 P1;replace hm:=hm.keep P1 (List.not_mem_nil);refine lO w1.k [.o 0] Z ⟨Z,U⟩ ?_;have g2:w0.heap.size≤g6:=by have:=S4.size;omega
 refine N2a K3b Z Z (r0b b _ x.name _ hm i2 o1) ?_;rintro x2 D2 ⟨rfl,H1,M1⟩;have m0:=w1.turned hm (.inr (by simp)) H1;clear hm;have hm:=M1;refine lB m0.k [.o 0] Z ⟨Z,U⟩ (fun X1=>by exfalso;omega) fun X1=>?_;refine lB m0.k [.o 0,.o 0] Z ⟨Z,Z,U⟩ (fun Y1=>by exfalso;omega) fun Y1=>?_;refine lB m0.k [.o 0,.o 0] Z ⟨Z,Z,U⟩ (fun Z1=>by exfalso;omega) fun Z1=>?_;refine lO m0.k [.o 0] Z ⟨Z,U⟩ (e2a Z Z ?_);refine i0a m0 z9a Z Z (q2b M _ _ _ x.modules (y3d nm) (c1.keep (m0.keepM.mono b0)) (b6b (m0.cells 1 Z) (D9a hM G4)) (t0 _ m0.size) (fun c hc=>decide_eq_true (by have:=j0.modules c hc;unfold k2a at this;omega))) ?_;intro E2 J0 Q1;replace hm:=hm.keep Q1 (List.not_mem_nil);refine lO J0.k [.w 1] Z ⟨⟨Z,Z⟩,U⟩ (x0a J0 D7b Z Z (X7a p t M _ _ (hP.keep (J0.keepM.mono b0)) (t0 _ J0.size)) ?_);rintro y2 O0 hq x1 R1;replace hm:=hm.keep R1 (List.not_mem_nil);obtain⟨f,first,caps,rfl,_⟩:=id hq;have a0:=z0a.refl [] O0;refine lC x1.k [.o 0] Z ⟨Z,U⟩ (wL (fun μk D ε w=>D=[]∧∃k:Nat,(k+μk=(x.asserts.length))∧(C4a prog 9 w b (E5a (l++[.string x.name])))∧(z0a [] O0 w)∧St [b] w0 w [(some g6,93,[.string x.name,.int .i64 x.points,.slice G0 D0 K0,.slice P0 s1 S0,.slice I0 F0 N0,.slice H0 E0 L0,.bool x.asleep]),(some g4,195,[.slice Ac nc cc,.slice Am nm cm,.slice Al nl cl,.slice At nt ct])]∧Sl ε [(1,.int .i64 t),(4,.pointer (some ⟨g4,0,none⟩)),(6,.pointer (some ⟨g6,0,none⟩)),(10,.func (.func f) first caps),(55,.slice G0 D0 K0),(56,.int .i64 D0),(57,.int .i64 k)]) (μ:=(x.asserts.length)) ⟨Z,0,by omega,hm,a0,x1,Z⟩ ?_);rintro μk D ε w ⟨rfl,k,hk,hm,a0,S,eZ⟩;refine wK eZ (wB0 Z U (fun a2=>?_) fun a2=>?_)
 ·obtain⟨e,T1,n2,_,j2,T0,Z0,j1,f1,B0⟩:=RdS.get (W0) (k) (by omega);obtain⟨_,_,_,rfl,_⟩:=RdE.cells B0;have q1:=j0.truth e (d0a j2);refine lO (S.k.b (f1.keep (S.keepM.mono b0) Z0)) [.x T1 n2,.v 0] Z ⟨⟨Z,j1⟩,⟨T0,by omega⟩,U⟩ (j0a S T8a Z Z ?_);intro v2 z2 t1 y1 I1;have q0:=Nat.le_trans a0.size I1;replace a0:=a0.trans y1;replace hm:=hm.keep y1 (List.not_mem_nil);refine e0a (kk:=0) (vs:=[_,_,_,_]) t1 a9a Z Z Z Z Z Z Z ?_;intro E1 d0 n0;dsimp only[n0a,List.set] at d0;replace a0:=a0.fresh n0 (by first|exact q0);replace hm:=hm.keep n0 (fun hh=>by rw[List.mem_singleton] at hh;exact hm.ne (t1.blk 0 Z) hh);refine lO d0.k [.w 2,.w 0] Z ⟨⟨Z,by rfl⟩,⟨Z,Z⟩,U⟩ (i0a d0 x1b Z Z (b1b p e M _ _ _ false _ (s4b p t) (hP.keep (d0.keepM.mono b0)) (RdE.keep (d0.keepM.mono b0) _ _ B0) (hq.keep a0.of_nil) (hK.keep (d0.keepM.mono b0)) (t0 _ d0.size) q1.2.1 q1.1 (Z3b hp q1.1 q1.2.2)) ?_);intro F2 N1 B1;replace a0:=a0.trans B1;replace hm:=hm.keep B1 (List.not_mem_nil);refine lP0 Z ⟨by omega,U⟩ ⟨μk-1,by omega,Z,(k+1),(by omega),(hm),(a0),N1.tail,Z⟩
 refine lC S.k [.o 0] Z ⟨Z,U⟩ (wL (fun μk D ε w=>D=[]∧∃k:Nat,(k+μk=(x.steps.length))∧(C4a prog 9 w b (E5a (l++[.string x.name])))∧(z0a [] O0 w)∧St [b] w0 w [(some g6,93,[.string x.name,.int .i64 x.points,.slice G0 D0 K0,.slice P0 s1 S0,.slice I0 F0 N0,.slice H0 E0 L0,.bool x.asleep]),(some g4,195,[.slice Ac nc cc,.slice Am nm cm,.slice Al nl cl,.slice At nt ct])]∧Sl ε [(1,.int .i64 t),(4,.pointer (some ⟨g4,0,none⟩)),(6,.pointer (some ⟨g6,0,none⟩)),(10,.func (.func f) first caps),(68,.slice I0 F0 N0),(69,.int .i64 F0),(70,.int .i64 k)]) (μ:=(x.steps.length)) ⟨Z,0,by omega,hm,a0,S,Z⟩ ?_);rintro μk D ε w ⟨rfl,k,hk,hm,a0,S,eZ⟩;refine wK eZ (wB0 Z U (fun b2=>?_) fun b2=>?_)
 ·obtain⟨s,U1,o2,_,m2,U0,a1,m1,g1,C0⟩:=RdS.get (d1) (k) (by omega);obtain⟨_,_,_,_,_,_,rfl,⟨_,_⟩,_⟩:=B1a.open_ C0;refine lO (S.k.b (g1.keep (S.keepM.mono b0) a1)) [.x U1 o2,.v 0] Z ⟨⟨Z,m1⟩,⟨U0,by omega⟩,U⟩ (j0a S r9a Z Z ?_);intro w2 A2 u1 z1 J1;have r0:=Nat.le_trans a0.size J1;replace a0:=a0.trans z1;replace hm:=hm.keep z1 (List.not_mem_nil);refine lO0 Z U (e0a (kk:=0) (vs:=[_,_,_,_,_,_,_,_,_,_,_]) u1 u9a Z Z Z Z Z Z Z ?_);intro F1 c0 o0;dsimp only[n0a,List.set] at c0;replace a0:=a0.fresh o0 (by first|exact r0);replace hm:=hm.keep o0 (fun hh=>by rw[List.mem_singleton] at hh;exact hm.ne (u1.blk 0 Z) hh);refine lO c0.k [.w 2,.w 1,.w 0] Z ⟨⟨Z,by rfl⟩,⟨Z,Z⟩,⟨Z,Z⟩,U⟩ (i0a c0 q8c Z Z (Z4c p t x s M _ _ _ _ ⟨hP.keep (c0.keepM.mono b0),B1a.keep (c0.keepM.mono b0) _ _ C0,hp,j0.steps s (d0a m2),hK.keep (c0.keepM.mono b0),t0 _ c0.size⟩ (R0a.keep (c0.keepM.mono b0) _ _ hT) k1.1 k1.2) ?_);intro G2 O1 C1;replace a0:=a0.trans C1;replace hm:=hm.keep C1 (List.not_mem_nil);refine lB0 Z U (fun d2=>by exfalso;omega) fun d2=>?_;refine lP0 Z ⟨by omega,U⟩ ⟨μk-1,by omega,Z,(k+1),(by omega),(hm),(a0),O1.tail,Z⟩
 refine lC S.k [.o 0] Z ⟨Z,U⟩ (wL (fun μk D ε w=>D=[]∧∃k:Nat,(k+μk=(x.loops.length))∧(C4a prog 9 w b (E5a (l++[.string x.name])))∧(z0a [] O0 w)∧St [b] w0 w [(some g6,93,[.string x.name,.int .i64 x.points,.slice G0 D0 K0,.slice P0 s1 S0,.slice I0 F0 N0,.slice H0 E0 L0,.bool x.asleep]),(some g4,195,[.slice Ac nc cc,.slice Am nm cm,.slice Al nl cl,.slice At nt ct])]∧Sl ε [(4,.pointer (some ⟨g4,0,none⟩)),(6,.pointer (some ⟨g6,0,none⟩)),(10,.func (.func f) first caps),(86,.slice H0 E0 L0),(87,.int .i64 E0),(88,.int .i64 k)]) (μ:=(x.loops.length)) ⟨Z,0,by omega,hm,a0,S,Z⟩ ?_);rintro μk D ε w ⟨rfl,k,hk,hm,a0,S,eZ⟩;refine wK eZ (wB0 Z U (fun f2=>?_) fun f2=>?_)
 ·obtain⟨lp,V1,p2,_,r1,V0,b1,n1,i1,p1⟩:=RdS.get (Y0) (k) (by omega);obtain⟨_,_,_,_,_,_,rfl,_,z0,A0,_⟩:=d6a.open_ p1;have q1:=j0.loops lp (d0a r1);have q2:=q1.head;refine lO (S.k.b (i1.keep (S.keepM.mono b0) b1)) [.x V1 p2,.v 0] Z ⟨⟨Z,n1⟩,⟨V0,by omega⟩,U⟩ (j0a S h3c Z Z ?_);intro W1 B2 v1 A1 K1;have s0:=Nat.le_trans a0.size K1;replace a0:=a0.trans A1;replace hm:=hm.keep A1 (List.not_mem_nil);refine e0a (kk:=0) (vs:=[_,_,_,_,_,_]) v1 C2c Z Z Z Z Z Z Z ?_;intro G1 i0 p0;dsimp only[n0a,List.set] at i0;replace a0:=a0.fresh p0 (by first|exact s0);replace hm:=hm.keep p0 (fun hh=>by rw[List.mem_singleton] at hh;exact hm.ne (v1.blk 0 Z) hh);refine lO0 Z U (e2a Z Z ?_);refine lO i0.k [.o 0,.o 1] Z ⟨Z,Z,U⟩ (i0a i0 J3a Z Z ((show decide (0≤lp.head∧lp.head<x.points)=true from decide_eq_true (by omega))▸S2a _ _ _) ?_);intro H2 R0 D1;replace a0:=a0.trans D1;replace hm:=hm.keep D1 (List.not_mem_nil);refine lO R0.k [.o 0] Z ⟨Z,U⟩ (i0a R0 F7b Z Z (r6a M _ _ _ (z0.keep (R0.keepM.mono b0)) q1.up) ?_);intro r2 e0 u0;replace a0:=a0.trans u0;replace hm:=hm.keep u0 (List.not_mem_nil);refine lO e0.k [.o 0] Z ⟨Z,U⟩ ?_;have X0:w0.heap.size≤W1:=by have:=S.size;omega
  refine i0a e0 z9a Z Z (q2b M _ _ _ lp.body (d1d x.points lp.head) (z0.keep (e0.keepM.mono b0)) (i5b (e0.cell 1 Z Z) (e0.cell 0 Z Z) (D9a hM g2) (D9a hM X0)) (t0 _ e0.size) (fun c hc=>decide_eq_true (by have:=q1.body c hc;omega))) ?_;intro s2 f0 v0;replace a0:=a0.trans v0;replace hm:=hm.keep v0 (List.not_mem_nil);refine lO f0.k [.o 0,.o 2] Z ⟨Z,Z,U⟩ (i0a f0 m1b Z Z (q1.variant.1▸u4a lp.variant M _ _ _ p.cells false (RdE.keep (f0.keepM.mono b0) _ _ A0) (hC.keep (f0.keepM.mono b0)) (hK.keep (f0.keepM.mono b0))) ?_);intro t2 g0 x0;replace a0:=a0.trans x0;replace hm:=hm.keep x0 (List.not_mem_nil);refine lO g0.k [.o 0] Z ⟨Z,U⟩ (i0a g0 x9a Z Z ((Z3b hp q1.variant.1 q1.variant.2)▸D7a lp.variant M _ _ _ (s4b p t) (RdE.keep (g0.keepM.mono b0) _ _ A0) (hq.keep a0.of_nil) (hK.keep (g0.keepM.mono b0)) (t0 _ g0.size)) ?_);intro u2 Q0 y0;replace a0:=a0.trans y0;replace hm:=hm.keep y0 (List.not_mem_nil);refine lP0 Z ⟨by omega,U⟩ ⟨μk-1,by omega,Z,(k+1),(by omega),(hm),(a0),Q0.tail,Z⟩
 exact lT2 Z U Z ⟨Z,S.below,hm⟩
def v3b(k:Nat):Nat:=if k=0 then 132 else if k=1 then 133 else 134
def M6b(cs:Array Value):Array Value:=#[.func (.func 132) #[.agg cs] #[],.func (.func 133) #[.agg cs] #[],.func (.func 134) #[.agg cs] #[]]
theorem s9b{cs:Array Value}{k:Nat}(h:k<3):(M6b cs)[(k:Int).toNat]?=some (.func (.func (v3b k)) #[.agg cs] #[]):=by
 rcases(show k=0∨k=1∨k=2 by omega) with e|e|e<;>subst e<;>rfl
theorem e7b{k:Nat}:Has prog (v3b k):=by
 unfold v3b
 repeat' split
 ·exact K8c
 ·exact e0d
 ·exact h8c
theorem y4c(k:Nat)(hk:k<3)(p:h0a)(M:List Nat)(w0:World)(cs:List Value)(hP:C1a M w0 p cs)(hp:n1a p)(hK:Y3a M w0)(hM:∀g∈M,g<w0.heap.size):
 N0a prog (v3b k) #[.agg cs.toArray] w0 fun v w'=>v=.int .i64 0∧Below w0.heap.size w0 w':=by
 rcases(show k=0∨k=1∨k=2 by omega) with e|e|e<;>subst e
 ·exact F2c p M w0 cs hP hp
 ·exact E6b p M w0 cs hP hp hK hM
 ·exact n0c p M w0 cs hP hp hK hM
theorem m7a(p:h0a)(M:List Nat)(w0:World)(cs:List Value)(hP:C1a M w0 p cs)(hp:n1a p)(hK:Y3a M w0)(hM:∀g∈M,g<w0.heap.size):
 N0a prog 100 #[.agg cs.toArray] w0 fun v w'=>v=.tuple #[.int .i64 0,.int .i64 (-1),.int .i64 (-1)]∧Below w0.heap.size w0 w':=by
 obtain⟨Ac,nc,cc,Am,nm,cm,Al,nl,cl,At,nt,ct,rfl,_,_,_,K0,_⟩:=hP.open_;have S:=St.refl w0;have v0:∀w':World,w0.heap.size≤w'.heap.size→∀g∈M,g<w'.heap.size:=fun w' h g hg=>by have:=hM g hg;omega
 have o0:p.threads.Pairwise fun a b=>Value.string a.name≠.string b.name:=hp.threadNames.imp fun h e=>h (by injection e);refine a0a func100 Z ntmps100 Z ?_;refine wO0 Z U (m0a S Z ?_);intro g1 w1 S1 X1 G1;refine lO S1.k [.w 0] Z ⟨⟨Z,Z⟩,U⟩ (d1a b9c (vs:=[(0,.agg _)]) (cs:=[_,_,_,_]) Z Z Z Z ?_);refine j0a S1 z0d Z Z ?_;intro g5 w5 S5 X5 G5;refine e0a (kk:=0) (vs:=[_,_,_,_]) S5 e1d Z Z Z Z Z Z Z ?_;intro O0 d0 D0;dsimp only[n0a,List.set] at d0;refine lO d0.k [.w 0] Z ⟨⟨Z,Z⟩,U⟩ (i0a d0 F9c Z Z (X8b p M _ _ (hP.keep (d0.keep0 M)) hp) ?_);intro P0 j0 S0;refine lB0 Z U (fun F0=>by exfalso;omega) fun F0=>?_;refine lO j0.k [.w 0] Z ⟨⟨Z,Z⟩,U⟩ (R2a Z Z Z ?_);refine lO j0.k [.w 0] Z ⟨⟨Z,Z⟩,U⟩ (R2a Z Z Z ?_);refine lO j0.k [.w 0] Z ⟨⟨Z,Z⟩,U⟩ (R2a Z Z Z ?_);refine r1a (v:=.agg (M6b #[.slice Ac nc cc,.slice Am nm cm,.slice Al nl cl,.slice At nt ct])) (w':=P0) Z Z Z (by kernel_rfl) ?_;refine lC0 Z U (wL (fun μk D ε w=>D=[]∧∃k:Nat,(k+μk=(3))∧St [] w0 w [(some g5,195,[.slice Ac nc cc,.slice Am nm cm,.slice Al nl cl,.slice At nt ct]),(some g1,27,[.slice Ac nc cc,.slice Am nm cm,.slice Al nl cl,.slice At nt ct])]∧Sl ε [(1,.pointer (some ⟨g1,0,none⟩)),(5,.pointer (some ⟨g5,0,none⟩)),(33,.agg (M6b #[.slice Ac nc cc,.slice Am nm cm,.slice Al nl cl,.slice At nt ct])),(34,.int .i64 k)]) (μ:=(3)) ⟨Z,0,by omega,j0,Z⟩ ?_);rintro μk D ε w ⟨rfl,k,hk,S,eZ⟩;refine wK eZ (wB0 Z U (fun G0=>?_) fun G0=>?_)
 ·refine lO0 Z U (F6b w8c Z Z (s9b (by omega)) Z ?_);refine lO0 Z U (c1b (vs:=[.agg #[.slice Ac nc cc,.slice Am nm cm,.slice Al nl cl,.slice At nt ct]]) e7b Z Z Z (y4c k (by omega) p M _ _ (hP.keep (S.keep0 M)) hp (hK.keep (S.keep0 M)) (v0 _ S.size)) ?_);rintro V0 Y0 ⟨rfl,x0⟩;have A0:=S.later x0;refine lB0 Z U (fun H0=>by exfalso;omega) fun H0=>?_;refine lP0 Z ⟨by omega,U⟩ ⟨μk-1,by omega,Z,(k+1),(by omega),A0,Z⟩
 refine lO0 Z U (c7a (k:=9) S Z ?_);intro e0 Z0 u0 T0 R0 b0;have p0:w0.heap.size≤e0:=by have:=S.size;omega
 refine lC u0.k [.o 1] Z ⟨Z,U⟩ (wL (fun μk D ε w=>D=[]∧∃k:Nat,(k+μk=(p.threads.length))∧(C4a prog 9 w e0 (E5a ((p.threads.take k).map fun c=>.string c.name)))∧St [] w0 w [(some g5,195,[.slice Ac nc cc,.slice Am nm cm,.slice Al nl cl,.slice At nt ct]),(some g1,27,[.slice Ac nc cc,.slice Am nm cm,.slice Al nl cl,.slice At nt ct])]∧Sl ε [(5,.pointer (some ⟨g5,0,none⟩)),(11,.map (some e0)),(45,.slice At nt ct),(46,.int .i64 nt),(47,.int .i64 k)]) (μ:=(p.threads.length)) ⟨Z,0,by omega,(by simpa[E5a] using b0),u0,Z⟩ ?_);rintro μk D ε w ⟨rfl,k,hk,b0,S,eZ⟩;refine wK eZ (wB0 Z U (fun I0=>?_) fun I0=>?_)
 ·obtain⟨x,E0,N0,_,s0,m0,_,q0,n0,g0⟩:=RdS.get (K0) (k) (by omega);obtain⟨_,_,_,_,_,_,_,_,_,_,_,_,rfl,_⟩:=R0a.open_ g0;refine lO (S.k.a n0) [.x E0 N0,.v 0] Z ⟨⟨Z,q0⟩,⟨m0,by omega⟩,U⟩ (j0a S p4b Z Z ?_);intro U0 X0 t0 C0 Q0;replace b0:=b0.keep C0 (List.not_mem_nil);refine lO0 Z U (e0a (kk:=0) (vs:=[_,_,_,_,_,_,_]) t0 o4b Z Z Z Z Z Z Z ?_);intro i0 a0 f0;dsimp only[n0a,List.set] at a0;replace b0:=b0.keep f0 (fun hh=>by rw[List.mem_singleton] at hh;exact b0.ne (t0.blk 0 Z) hh);refine lO a0.k [.w 1,.w 0] Z ⟨⟨Z,by rfl⟩,⟨Z,Z⟩,U⟩ ?_;have r0:=c5a o0 s0;have c0:∀g∈e0::M,g∈M∨w0.heap.size≤g:=fun g hg=>by exact(List.mem_cons.1 hg).elim (fun h=>.inr (by omega)) .inl
  have L0:∀g∈e0::M,g<i0.heap.size:=fun g hg=>by exact(List.mem_cons.1 hg).elim (fun h=>h▸b0.lt) (v0 _ a0.size g)
  refine N2a R8c Z Z (L9b p k x e0 _ (e0::M) _ _ _ ((hP.more c0).keep (a0.keep0 _)) (R0a.keep (a0.keep0 _) _ _ (R0a.more c0 _ _ g0)) hp ((hK.more c0).keep (a0.keep0 _)) L0 (by simp) s0 b0 r0) ?_;rintro W0 a1 ⟨rfl,y0,z0⟩;have B0:=a0.turned b0 (.inl p0) y0;refine lB0 Z U (fun J0=>by exfalso;omega) fun J0=>?_;refine lP0 Z ⟨by omega,U⟩ ?_;refine⟨μk-1,by omega,Z,(k+1),(by omega),((by rw[a1a s0,List.map_append];exact z0)),B0.tail,Z⟩
 refine lR0 Z U (O3b Z ?_);exact⟨Z,S.fin⟩
def f1a(p:h0a):G0a:=⟨p.cells.map H2a.init,p.threads.map (fun t=>if t.asleep then -1 else 0),p.threads.map (fun _=>[])⟩
def z2a(mem:List Int)(e:K0a):List Int:=(e.cells.zip e.values).foldl (fun m x=>m.set x.1.toNat x.2) mem
def o1a(c:G0a)(t:Nat):List Int:=(c.buf.getD t []).foldl z2a c.mem
def n8a(s:List U1a)(v mem:List Int):List Int:=s.foldl (fun m a=>m.set a.cell.toNat (a.to.evl v v)) mem
def G5b(p:h0a)(s:List U1a)(v:List Int):K0a:=⟨(s.filter fun a=>T1a p.cells a.cell=-1).map U1a.cell,(s.filter fun a=>T1a p.cells a.cell=-1).map fun a=>a.to.evl v v⟩
def b1a(p:h0a)(model:Int)(c:G0a)(t:Nat)(s:v1a):Bool :=
 decide (c.at_.getD t 0=s.frm)&&(decide (s.guard.evl (o1a c t) (o1a c t)=1) &&
  (if s.kind=3 then decide (model=0∨((c.buf.getD t []).length<3∧(s.release=true→c.buf.getD t []=[])))
   else if s.kind=6 then decide (c.buf.getD t []=[]∧c.at_.getD s.target.toNat 0=-1)
   else if s.kind=7 then decide (c.buf.getD t []=[]∧c.at_.getD s.target.toNat 0=(p.threads.getD s.target.toNat ⟨ByteArray.empty,0,[],[],[],[],false⟩).points-1∧c.buf.getD s.target.toNat []=[])
   else if s.kind=1∨s.kind=2 then true else decide (c.buf.getD t []=[])))
def A9a(a b:K0a):Bool:=a.cells.any fun x=>b.cells.contains x
def T3a(model:Int)(l:List K0a)(i:Nat):Bool:=decide (i=0)||(decide (model=2)&&(List.range i).all fun k=>match l[k]?,l[i]? with|some a,some b=>!A9a a b|_,_=>true)
def f3a(p:h0a)(t:Nat):List v1a:=(p.threads.getD t ⟨ByteArray.empty,0,[],[],[],[],false⟩).steps
def A7a(p:h0a)(model:Int)(c:G0a)(t:Nat):List c0a :=
 ((List.range (f3a p t).length).filter fun i=>match (f3a p t)[i]? with|some s=>b1a p model c t s|none=>false).map (fun(i:Nat)=>(⟨t,i,0⟩:c0a)) ++
 ((List.range (c.buf.getD t []).length).filter (T3a model (c.buf.getD t []))).map (fun(i:Nat)=>(⟨t,-1,((c.buf.getD t []).getD i ⟨[],[]⟩).cells.getD 0 0⟩:c0a))
def J0a(p:h0a)(model:Int)(c:G0a):List c0a:=(List.range p.threads.length).flatMap (A7a p model c)
def atC(c:G0a)(t:Nat)(s:v1a):List Int:=if s.kind=6 then(c.at_.set t s.to).set s.target.toNat 0 else c.at_.set t s.to
def I6a(p:h0a)(model:Int)(c:G0a)(t:Nat)(s:v1a):G0a :=
 if s.kind=3∧model≠0 then⟨n8a (s.set.filter fun a=>T1a p.cells a.cell≠-1) (o1a c t) c.mem,atC c t s,c.buf.set t (c.buf.getD t []++[G5b p s.set (o1a c t)])⟩
 else⟨n8a s.set (o1a c t) c.mem,atC c t s,c.buf⟩
def M4a(c:G0a)(t i:Nat):G0a:=⟨z2a c.mem ((c.buf.getD t []).getD i ⟨[],[]⟩),c.at_,c.buf.set t ((c.buf.getD t []).eraseIdx i)⟩
def doC(p:h0a)(model:Int)(c:G0a)(x:c0a):G0a :=
 if x.step=-1 then M4a c x.thread.toNat (((c.buf.getD x.thread.toNat []).findIdx? fun e=>e.cells.getD 0 0=x.cell).getD 0)
 else match (f3a p x.thread.toNat)[x.step.toNat]? with|some s=>I6a p model c x.thread.toNat s|none=>c
section
variable {α:Type} [DecidableEq α] (succ:α→List α) (a:α)
inductive b4b (succ:α→List α) (a:α):α→Prop
 | start:b4b succ a a
 | next {c d:α} (h:b4b succ a c) (hd:d∈succ c):b4b succ a d
end
theorem X1a{p:h0a}{m:Int}{c:G0a}{x:c0a}:x∈J0a p m c↔∃t,t<p.threads.length ∧
 ((∃(i:Nat) (s:v1a),(f3a p t)[i]?=some s∧b1a p m c t s=true∧x=⟨t,i,0⟩) ∨
  (∃i:Nat,i<(c.buf.getD t []).length∧T3a m (c.buf.getD t []) i=true∧x=⟨t,-1,((c.buf.getD t []).getD i ⟨[],[]⟩).cells.getD 0 0⟩)):=by
 unfold J0a;rw[List.mem_flatMap];constructor
 ·rintro⟨t,ht,h⟩;refine⟨t,List.mem_range.1 ht,?_⟩;unfold A7a at h;rcases List.mem_append.1 h with h|h
  ·obtain⟨i,hi,rfl⟩:=List.mem_map.1 h;obtain⟨hi,he⟩:=List.mem_filter.1 hi
   split at he
   ·rename_i s hs;exact .inl ⟨i,s,hs,he,Z⟩
   ·cases he
  ·obtain⟨i,hi,rfl⟩:=List.mem_map.1 h;obtain⟨hi,he⟩:=List.mem_filter.1 hi;exact .inr ⟨i,List.mem_range.1 hi,he,Z⟩
 ·rintro⟨t,ht,h⟩;refine⟨t,List.mem_range.2 ht,?_⟩;unfold A7a;rw[List.mem_append];rcases h with⟨i,s,hs,he,rfl⟩|⟨i,hi,he,rfl⟩
  ·refine .inl (List.mem_map.2 ⟨i,List.mem_filter.2 ⟨List.mem_range.2 (List.getElem?_eq_some_iff.1 hs).1,?_⟩,Z⟩);simp only[hs];exact he
  ·exact .inr (List.mem_map.2 ⟨i,List.mem_filter.2 ⟨List.mem_range.2 hi,he⟩,Z⟩)
theorem b4b.to{α:Type}{succ a0:α→List α}{a x:α}(hx:b4b succ a x)(h:∀c d,b4b succ a c→b4b a0 a c→d∈succ c→b4b a0 a d):b4b a0 a x:=by
 induction hx with
 | start=>exact .start
 | next hc hd ih=>exact h _ _ hc ih hd
theorem s6b{p:h0a}{m:Int}{c:G0a}{t i:Nat}{s:v1a}(hs:(f3a p t)[i]?=some s):doC p m c ⟨t,i,0⟩=I6a p m c t s:=by
 unfold doC;rw[if_neg (by simp)];simp only[Int.toNat_natCast,hs]
theorem Y4c{p:h0a}(hp:n1a p){t i:Nat}{s:v1a}(ht:t<p.threads.length)(hs:(f3a p t)[i]?=some s):M6a p t (p.threads[t]).points s:=by
 have:=(hp.threads t ht).steps s;unfold f3a at hs;rw[List.getD_eq_getElem?_getD,List.getElem?_eq_getElem ht] at hs;exact this (List.mem_of_getElem? hs)
def R1c(e:K0a):List Int:=(e.cells.length:Int)::(e.cells.zip e.values).flatMap fun x=>[x.1,x.2]
def T2c(b:List K0a):List Int:=(b.length:Int)::b.flatMap R1c
def K0a.even(e:K0a):Prop:=e.values.length=e.cells.length
structure G0a.Shape (c:G0a) (n t:Nat):Prop where
 mem:c.mem.length=n
 at_:c.at_.length=t
 buf:c.buf.length=t
 even:∀b∈c.buf,∀e∈b,e.even
theorem a1b{e:E}{lim:Int}(h:e.good lim=true)(c0 b0:List Int):0≤e.val c0 b0∧e.val c0 b0<R3a e.w.toNat:=by
 obtain⟨a0,_⟩:=r3a h;have hw:e.w≤8:=a0.2.1;have hb:∀a,0≤e2b a (R3a e.w.toNat-1)∧e2b a (R3a e.w.toNat-1)<R3a e.w.toNat:=fun a=>by
  rw[Z6a _ _];have:=W8a e.w.toNat;exact⟨Int.emod_nonneg _ (by omega),Int.emod_lt_of_pos _ this⟩
 rw[E.val_def];by_cases o1:e.op=1
 ·rw[if_pos o1];have:=(d7b o1).1 a0;omega
 ·rw[if_neg o1]
  split
  ·exact hb _
  ·split
   ·exact hb _
   ·exact hb _
theorem t5a{cells:List H2a}{c0:Bool}{e:E}(h:e.valid cells c0=true)(b0 a0:List Int):0≤e.evl b0 a0∧e.evl b0 a0<R3a e.w.toNat:=by
 obtain⟨h1,h2,_⟩:=k4a h;unfold E.evl;rw[if_pos h1];exact a1b h2 b0 a0
structure b6a (p:h0a) (m:List Int):Prop where
 len:m.length=p.cells.length
 vals:∀(i:Nat) (v:Int),m[i]?=some v→0≤v∧v<R3a (wAt p.cells i).toNat
theorem b6a.set{p:h0a}{m:List Int}(h:b6a p m){k:Nat}{v:Int}(hv:0≤v∧v<R3a (wAt p.cells k).toNat):b6a p (m.set k v):=by
 refine⟨by rw[List.length_set];exact h.len,fun i x hi=>?_⟩;rw[List.getElem?_set] at hi
 split at hi
 ·rename_i hk;subst hk
  split at hi
  ·cases hi;exact hv
  ·cases hi
 ·exact h.vals i x hi
structure C1b (p:h0a) (e:K0a):Prop where
 some_:e.cells≠[]
 even:e.even
 cells:∀(i:Nat) (n:Int),e.cells[i]?=some n→k2a n p.cells.length∧T1a p.cells n=-1∧R2b p.cells n=decide (0<i)
 vals:∀x∈e.cells.zip e.values,0≤x.2∧x.2<R3a (wAt p.cells x.1).toNat
 once:e.cells.Nodup
theorem b6a.write{p:h0a}{m:List Int}(h:b6a p m){e:K0a}(he:C1b p e):b6a p (z2a m e):=by
 unfold z2a;have key:∀(l:List (Int×Int)) (m:List Int),b6a p m→(∀x∈l,0≤x.1∧0≤x.2∧x.2<R3a (wAt p.cells x.1).toNat)→b6a p (l.foldl (fun m x=>m.set x.1.toNat x.2) m):=by
  intro l
  induction l with
  | nil=>intro m h _;exact h
  | cons x l ih =>
    intro m h hl;rw[List.foldl_cons];obtain⟨h0,h1⟩:=hl x (by simp);exact ih _ (h.set (by rw[Int.toNat_of_nonneg h0];exact h1)) fun y hy=>hl y (by simp[hy])
 refine key _ m h fun x hx=>?_;have b0:=List.of_mem_zip (a:=x.1) (b:=x.2) hx;obtain⟨i,hi,a0⟩:=List.getElem_of_mem b0.1;have:=he.cells i x.1 (by rw[List.getElem?_eq_getElem hi,a0]);exact⟨this.1.1,he.vals x hx⟩
theorem O0d{p:h0a}{t:Nat}{n:Int}{s:v1a}(hs:M6a p t n s)(hk:s.kind=3)(v:List Int):C1b p (G5b p s.set v):=by
 obtain⟨a,l,b0,c0,d0,hl⟩:=hs.row.k3 hk;have hf:(s.set.filter fun a=>T1a p.cells a.cell=-1)=a::l.filter fun a=>T1a p.cells a.cell=-1:=by
  rw[b0,List.filter_cons_of_pos (by simp[c0])]
 have a0:∀b∈s.set.filter fun a=>T1a p.cells a.cell=-1,b∈s.set∧T1a p.cells b.cell=-1:=fun b hb=>by
  obtain⟨h1,h2⟩:=List.mem_filter.1 hb;exact⟨h1,by simpa using h2⟩
 refine⟨?_,?_,fun i x hi=>?_,fun x hx=>?_,?_⟩
 ·unfold G5b;rw[hf];simp
 ·unfold G5b K0a.even;simp
 ·unfold G5b at hi;simp only[List.getElem?_map,Option.map_eq_some_iff] at hi;obtain⟨b,hb,rfl⟩:=hi;obtain⟨h1,h2⟩:=a0 b (List.mem_of_getElem? hb);refine⟨(hs.set b h1).1,h2,?_⟩;rw[hf] at hb;cases i with
  | zero=>simp at hb;subst hb;simpa using d0
  | succ i =>
    rw[List.getElem?_cons_succ] at hb;have:=hl b (List.mem_filter.1 (List.mem_of_getElem? hb)).1;rw[this];simp
 ·unfold G5b at hx;simp only[List.zip_map'] at hx;obtain⟨b,hb,rfl⟩:=List.mem_map.1 hx;obtain⟨h1,h2⟩:=a0 b hb;obtain⟨_,h3,h4⟩:=hs.set b h1;have:=t5a h3 v v;rw[h4] at this;exact this
 ·unfold G5b List.Nodup;simp only;rw[List.pairwise_map];exact hs.once.filter _
theorem b6a.sets{p:h0a}{v:List Int}:∀(l:List U1a) (m:List Int),b6a p m→(∀a∈l,k2a a.cell p.cells.length∧a.to.valid p.cells false=true∧a.to.w=wAt p.cells a.cell)→b6a p (n8a l v m)
 | [],_,h,_=>h
 | a::l,m,h,hl=>by
   obtain⟨h1,h2,h3⟩:=hl a (by simp);have hr:=t5a h2 v v;rw[h3] at hr;exact b6a.sets l _ (h.set (by rw[Int.toNat_of_nonneg h1.1];exact hr)) fun b hb=>hl b (by simp[hb])
structure J5a (p:h0a) (c:G0a):Prop where
 mem:b6a p c.mem
 nat:c.at_.length=p.threads.length
 atr:∀(t:Nat) (x:Int),c.at_[t]?=some x→∀th,p.threads[t]?=some th→-1≤x∧x<th.points∧(x=-1→th.asleep=true)
 nbuf:c.buf.length=p.threads.length
 bufs:∀(t:Nat) (b:List K0a),c.buf[t]?=some b→b.length≤3∧(∀e∈b,C1b p e)∧(c.at_[t]?=some (-1)→b=[])
theorem A8a{p:h0a}(hp:n1a p):J5a p (f1a p):=by
 refine⟨⟨by simp[f1a],fun i v hi=>?_⟩,by simp[f1a],fun t x hx th a0=>?_,by simp[f1a],fun t b hb=>?_⟩
 ·simp only[f1a,List.getElem?_map,Option.map_eq_some_iff] at hi;obtain⟨c,hc,rfl⟩:=hi;have h:=(hp.cells c (List.mem_of_getElem? hc)).init;have hw:wAt p.cells i=c.w:=by unfold wAt;simp[hc]
  rw[hw];exact h
 ·simp only[f1a,List.getElem?_map,a0,Option.map_some,Option.some.injEq] at hx;have b0:=(List.getElem?_eq_some_iff.1 a0).1;have he:=(List.getElem?_eq_some_iff.1 a0).2;have h:=(hp.threads t b0).points;rw[he] at h;subst hx;cases ha:th.asleep with
  | true=>simp;omega
  | false=>simp;omega
 ·simp only[f1a,List.getElem?_map,Option.map_eq_some_iff] at hb;obtain⟨_,_,rfl⟩:=hb;simp
theorem q7b{c:G0a}{t:Nat}{s:v1a}{u:Nat}{x:Int}(h:(atC c t s)[u]?=some x):(u≠t∧c.at_[u]?=some x)∨(u=t∧x=s.to)∨(s.kind=6∧u=s.target.toNat∧x=0):=by
 have key:∀x,(c.at_.set t s.to)[u]?=some x→(u≠t∧c.at_[u]?=some x)∨(u=t∧x=s.to):=fun x h=>by
  rw[List.getElem?_set] at h
  split at h
  ·rename_i hh
   split at h
   ·cases h;exact .inr ⟨hh.symm,Z⟩
   ·cases h
  ·rename_i hh;exact .inl ⟨fun e=>hh e.symm,h⟩
 unfold atC at h
 split at h
 ·rename_i hk;rw[List.getElem?_set] at h
  split at h
  ·rename_i hh
   split at h
   ·cases h;exact .inr (.inr ⟨hk,hh.symm,Z⟩)
   ·cases h
  ·rcases key x h with h|h
   ·exact .inl h
   ·exact .inr (.inl h)
 ·rcases key x h with h|h
  ·exact .inl h
  ·exact .inr (.inl h)
theorem s6a(c:G0a)(t:Nat)(s:v1a):(atC c t s).length=c.at_.length:=by
 unfold atC;split<;>simp
theorem T3b{p:h0a}(hp:n1a p){t:Nat}{th:U0a}(h:p.threads[t]?=some th):1≤th.points:=by
 obtain⟨a0,rfl⟩:=List.getElem?_eq_some_iff.1 h;exact(hp.threads t a0).points.1
theorem f6c{p:h0a}(hp:n1a p){c:G0a}(hf:J5a p c){t:Nat}{s:v1a}(ht:t<p.threads.length)(hs:M6a p t (p.threads[t]).points s):
 ∀(u:Nat) (x:Int),(atC c t s)[u]?=some x→∀th,p.threads[u]?=some th→-1≤x∧x<th.points∧(x=-1→th.asleep=true):=by
 intro u x hx th a0;rcases q7b hx with⟨_,h⟩|⟨rfl,rfl⟩|⟨_,_,rfl⟩
 ·exact hf.atr u x h th a0
 ·obtain⟨_,rfl⟩:=List.getElem?_eq_some_iff.1 a0;have:=hs.to;omega
 ·have:=T3b hp a0;omega
theorem y3c{p:h0a}(hp:n1a p){m:Int}{c:G0a}(hf:J5a p c){t i:Nat}{s:v1a}(ht:t<p.threads.length)(hs:(f3a p t)[i]?=some s)(he:b1a p m c t s=true):J5a p (I6a p m c t s):=by
 have hok:=Y4c hp ht hs;have a0:∀u b,c.buf[u]?=some b→(atC c t s)[u]?=some (-1)→b=[]:=fun u b hb hu=>by
  rcases q7b hu with⟨_,h⟩|⟨rfl,h⟩|⟨_,_,h⟩
  ·exact(hf.bufs u b hb).2.2 h
  ·have:=hok.to;omega
  ·omega
 unfold I6a
 split
 ·rename_i hk;have hlen:(c.buf.getD t []).length<3:=by
   unfold b1a at he;simp only[Bool.and_eq_true,if_pos hk.1,decide_eq_true_eq] at he;rcases he.2.2 with h|h
   ·exact absurd h hk.2
   ·exact h.1
  have c0:t<c.buf.length:=by rw[hf.nbuf];exact ht
  have hb:=hf.bufs t (c.buf.getD t []) (by rw[List.getD_eq_getElem?_getD,List.getElem?_eq_getElem c0];rfl);refine⟨b6a.sets _ _ hf.mem (fun a ha=>hok.set a (List.mem_filter.1 ha).1),by simp only[s6a];exact hf.nat,f6c hp hf ht hok,by simp only[List.length_set];exact hf.nbuf,fun u b hu=>?_⟩;simp only[List.getElem?_set] at hu
  split at hu
  ·rename_i d0;subst d0;cases hu;refine⟨by rw[List.length_append,List.length_singleton];omega,fun e b0=>?_,fun hu=>?_⟩
   ·rcases List.mem_append.1 b0 with h|h
    ·exact hb.2.1 e h
    ·rw[List.mem_singleton.1 h];exact O0d hok hk.1 _
   ·exfalso;rcases q7b hu with⟨h,_⟩|⟨_,h⟩|⟨_,_,h⟩
    ·exact h Z
    ·have:=hok.to;omega
    ·omega
  ·exact⟨(hf.bufs u b hu).1,(hf.bufs u b hu).2.1,a0 u b hu⟩
 ·exact⟨b6a.sets _ _ hf.mem (fun a ha=>hok.set a ha),by simp only[s6a];exact hf.nat,f6c hp hf ht hok,hf.nbuf,fun u b hu=>⟨(hf.bufs u b hu).1,(hf.bufs u b hu).2.1,a0 u b hu⟩⟩
theorem H9a{p:h0a}{c:G0a}(hf:J5a p c)(t i:Nat):J5a p (M4a c t i):=by
 unfold M4a;refine⟨?_,hf.nat,hf.atr,by simp only[List.length_set];exact hf.nbuf,fun u b hu=>?_⟩
 ·by_cases a0:t<c.buf.length
  ·have hb:=hf.bufs t (c.buf.getD t []) (by rw[List.getD_eq_getElem?_getD,List.getElem?_eq_getElem a0];rfl);by_cases hi:i<(c.buf.getD t []).length
   ·rw[List.getD_eq_getElem?_getD (i:=i),List.getElem?_eq_getElem hi];exact hf.mem.write (hb.2.1 _ (List.getElem_mem hi))
   ·rw[List.getD_eq_getElem?_getD (i:=i),List.getElem?_eq_none (by omega)];exact hf.mem
  ·have h0:c.buf.getD t []=[]:=by rw[List.getD_eq_getElem?_getD,List.getElem?_eq_none (by omega)];rfl
   rw[h0];exact hf.mem
 ·simp only[List.getElem?_set] at hu
  split at hu
  ·rename_i b0;subst b0
   split at hu
   ·rename_i a0;cases hu;have hb:=hf.bufs t (c.buf.getD t []) (by rw[List.getD_eq_getElem?_getD,List.getElem?_eq_getElem a0];rfl);refine⟨Nat.le_trans (List.length_eraseIdx_le _ _) hb.1,fun e he=>hb.2.1 e (List.mem_of_mem_eraseIdx he),fun h=>?_⟩;rw[hb.2.2 h];rfl
   ·cases hu
  ·exact hf.bufs u b hu
theorem h6b{p:h0a}(hp:n1a p){m:Int}{c:G0a}(hf:J5a p c){x:c0a}(hx:x∈J0a p m c):J5a p (doC p m c x):=by
 obtain⟨_,ht,h|h⟩:=X1a.1 hx
 ·obtain⟨i,_,hs,he,rfl⟩:=h;rw[s6b hs];exact y3c hp hf ht hs he
 ·obtain⟨i,_,he,rfl⟩:=h;unfold doC;rw[if_pos rfl];exact H9a hf _ _
theorem x8a:∀(n:Nat) (l:List Int),l.Nodup→(∀x∈l,0≤x∧x<n)→l.length≤n
 | 0,l,_,h=>by
   cases l with
   | nil=>simp
   | cons x l=>have:=h x (by simp);omega
 | n+1,l,hd,h=>by
   by_cases hn:(n:Int)∈l
   ·have h1:=x8a n (l.erase (n:Int)) (hd.erase _) (fun x hx=>by
     obtain⟨_,h3⟩:=(hd.mem_erase_iff).1 hx;have:=h x h3;omega)
    rw[List.length_erase_of_mem hn] at h1;omega
   ·have h1:=x8a n l hd (fun x hx=>by
     have:=h x hx;have:x≠(n:Int):=fun e=>hn (e▸hx);omega)
    omega
theorem C1b.len{p:h0a}{e:K0a}(h:C1b p e):e.cells.length≤p.cells.length :=
 x8a _ _ h.once fun x hx=>by
  obtain⟨i,hi,rfl⟩:=List.getElem_of_mem hx;exact(h.cells i _ (List.getElem?_eq_getElem hi)).1
theorem T0d{p:h0a}(hp:n1a p)(x:Int):wAt p.cells x≤8:=by
 unfold wAt
 split
 ·cases h:p.cells[x.toNat]? with
  | none=>simp
  | some c=>simpa using(hp.cells c (List.mem_of_getElem? h)).w.2
 ·omega
theorem R9a{p:h0a}(hp:n1a p)(x:Int):R3a (wAt p.cells x).toNat≤256:=by
 have h:=T0d hp x;have h2:(2:Nat) ^ (wAt p.cells x).toNat≤2 ^ 8:=Nat.pow_le_pow_right (by omega) (by omega);rw[W3a];omega
theorem N9b{p:h0a}(hp:n1a p){c:G0a}(hf:J5a p c):(∀x∈c.mem,0≤x∧x≤255)∧(∀x∈c.at_,-1≤x∧x≤47)∧∀x∈c.buf.flatMap T2c,0≤x∧x≤255:=by
 refine⟨fun x hx=>?_,fun x hx=>?_,fun x hx=>?_⟩
 ·obtain⟨i,hi,rfl⟩:=List.getElem_of_mem hx;have:=hf.mem.vals i _ (List.getElem?_eq_getElem hi);have:=R9a hp i;omega
 ·obtain⟨t,ht,rfl⟩:=List.getElem_of_mem hx;have a0:t<p.threads.length:=by rw[←hf.nat];exact ht
  have h1:=hf.atr t _ (List.getElem?_eq_getElem ht) _ (List.getElem?_eq_getElem a0);have h2:=(hp.threads t a0).points;omega
 ·obtain⟨b,hb,hx⟩:=List.mem_flatMap.1 hx;obtain⟨t,ht,rfl⟩:=List.getElem_of_mem hb;obtain⟨h1,h2,_⟩:=hf.bufs t _ (List.getElem?_eq_getElem ht);unfold T2c at hx;rcases List.mem_cons.1 hx with rfl|hx
  ·omega
  ·obtain⟨e,he,hx⟩:=List.mem_flatMap.1 hx;have hE:=h2 e he;unfold R1c at hx;rcases List.mem_cons.1 hx with rfl|hx
   ·have:=hE.len;have:=hp.ncells;omega
   ·obtain⟨y,hy,hx⟩:=List.mem_flatMap.1 hx;have h3:=hE.vals y hy;have h4:=R9a hp y.1;obtain⟨i,hi,b0⟩:=List.getElem_of_mem (List.of_mem_zip (a:=y.1) (b:=y.2) hy).1;have h5:=(hE.cells i y.1 (by rw[List.getElem?_eq_getElem hi,b0])).1;have h6:=hp.ncells;obtain⟨_,_⟩:=h5;simp only[List.mem_cons,List.not_mem_nil,or_false] at hx;rcases hx with rfl|rfl<;>omega
section
variable {M:List Nat} {w:World}
theorem D0a.open_{c:G0a}{cs:List Value}(h:D0a M w c cs):∃Am nm cm Aa na ca Ab nb cb,cs=[.slice Am nm cm,.slice Aa na ca,.slice Ab nb cb] ∧
 RdI M w (.slice Am nm cm) c.mem∧RdI M w (.slice Aa na ca) c.at_∧y0d M w (.slice Ab nb cb) c.buf ∧
 nm=c.mem.length∧na=c.at_.length∧nb=c.buf.length∧nm≤140737488355328∧na≤140737488355328∧nb≤140737488355328:=by
 obtain⟨_,_,_,rfl,h1,h2,h3⟩:=h;obtain⟨Am,nm,cm,rfl⟩:=h1.form;obtain⟨Aa,na,ca,rfl⟩:=h2.form;obtain⟨Ab,nb,cb,rfl⟩:=h3.form;exact⟨_,_,_,_,_,_,_,_,_,Z,h1,h2,h3,h1.len.1,h2.len.1,h3.len.1,h1.len.2.2,h2.len.2.2,h3.len.2.2⟩
theorem R4a.open_{b:List K0a}{cs:List Value}(h:R4a M w cs b):∃A n c,cs=[.slice A n c]∧s6c M w (.slice A n c) b∧n=b.length∧n≤140737488355328:=by
 obtain⟨_,rfl,h1⟩:=h;obtain⟨A,n,c,rfl⟩:=h1.form;exact⟨_,_,_,Z,h1,h1.len.1,h1.len.2.2⟩
theorem O0a.open_{e:K0a}{cs:List Value}(h:O0a M w cs e):∃Ac nc cc Av nv cv,cs=[.slice Ac nc cc,.slice Av nv cv]∧RdI M w (.slice Ac nc cc) e.cells∧RdI M w (.slice Av nv cv) e.values∧nc=e.cells.length∧nv=e.values.length∧nc≤140737488355328∧nv≤140737488355328:=by
 obtain⟨_,_,rfl,h1,h2⟩:=h;obtain⟨Ac,nc,cc,rfl⟩:=h1.form;obtain⟨Av,nv,cv,rfl⟩:=h2.form;exact⟨_,_,_,_,_,_,Z,h1,h2,h1.len.1,h2.len.1,h1.len.2.2,h2.len.2.2⟩
end
theorem s3d{cells:List H2a}{k:Nat}{c:H2a}(h:cells[k]?=some c):wAt cells (k:Int)=c.w:=T5a (by simpa using h)
structure InP (p:h0a) (M:List Nat) (w:World) (cs:List Value):Prop where
 rd:C1a M w p cs
 ok:n1a p
 msk:Y3a M w
 lt:∀g∈M,g<w.heap.size
theorem InP.keep{p:h0a}{M:List Nat}{w w':World}{cs:List Value}(h:InP p M w cs)(hk:z0a M w w'):InP p M w' cs :=
 ⟨h.rd.keep hk,h.ok,h.msk.keep hk,fun g hg=>Nat.lt_of_lt_of_le (h.lt g hg) hk.size⟩
theorem A3b{w0 w:World}{L:List Ent}{g t k:Nat}{cs:List Value}{M:List Nat}(S:St [] w0 w L)(hk:L[k]?=some (some g,t,cs)):∀x∈g::M,x∈M∨w0.heap.size≤x:=fun x hx=>by
 rcases List.mem_cons.1 hx with rfl|h
 ·rcases S.new k hk with h|h
  ·exact .inr h
  ·cases h
 ·exact .inl h
theorem InP.add{p:h0a}{M:List Nat}{w0 w:World}{cs:List Value}(h:InP p M w0 cs){L:List Ent}{g t k:Nat}{a0:List Value}(S:St [] w0 w L)(hk:L[k]?=some (some g,t,a0)):InP p (g::M) w cs :=
 ⟨(h.rd.more (A3b S hk)).keep (S.keep0 _),h.ok,(h.msk.more (A3b S hk)).keep (S.keep0 _),fun x hx=>by
   rcases List.mem_cons.1 hx with rfl|hx
   ·exact S.lt k hk
   ·exact Nat.lt_of_lt_of_le (h.lt x hx) S.size⟩
theorem D0a.add{c:G0a}{M:List Nat}{w0 w:World}{cs:List Value}(h:D0a M w0 c cs){L:List Ent}{g t k:Nat}{a0:List Value}(S:St [] w0 w L)(hk:L[k]?=some (some g,t,a0)):D0a (g::M) w c cs :=
 (h.more (A3b S hk)).keep (S.keep0 _)
section
variable {H:Type} {enc:TypeId×Value→H} {P:Program} {W:World} {base:Nat} {sp:Nat→Bool} {held:Bool}
def o4a(P:Program)(t:TypeId)(d:DataW H):Prop:=∀m∈d.weights P t,m≤reachBytes
theorem i4a{n:Int}(h:(Lit.int .i64 n).wf=true):i64 n:=by
 simp[Lit.wf,IntKind.min,IntKind.max,IntKind.signed,IntKind.bits] at h;exact h
theorem M0c{a:Addr}{v:Value}(h:W.cell? a=some v):a=⟨a.block,a.off,none⟩:=by
 obtain⟨_,_,s⟩:=a;cases s with
 | none=>rfl
 | some x=>unfold World.cell? at h;split at h<;>simp at h
theorem Y5b{e:TypeId}{l:List (DataW H)}{i:Nat}{d:DataW H}(hi:l[i]?=some d):∀m∈d.weights P e,m∈DataW.weightsAll P e l:=by
 induction l generalizing i with
 | nil=>simp at hi
 | cons x xs ih =>
   intro m hm;rw[DataW.weightsAll];cases i with
   | zero=>simp at hi;subst hi;exact List.mem_append_left _ hm
   | succ i=>exact List.mem_append_right _ (ih (by simpa using hi) m hm)
theorem C3a{α:Type}{size t e:Nat}{fuel:Nat}{R:List Value→α→Prop}{v:Value}{x:DataW H×List MemPlace}(ht:P.underlying t=some (.slice e))(hc:P.cellsOf e=size)(hby:1≤P.bytesOf e)
 (m0:∀(n:Nat) (cs:List Value) (y:DataW H×List MemPlace),n<fuel→cs.length=size→DataW.trod enc P W base sp held n e cs=some y→o4a P e y.1→∃a,R cs a)
 (h:DataW.trod enc P W base sp held fuel t [v]=some x) (hw:o4a P t x.1) (hs:0<size:=by omega):∃l,RdS [] W size R v l:=by
 rcases DataW.trod_slice ht h with⟨h1,h2⟩|⟨a,len,f0,b0,rest,n,hf,h1,h2,hb,hl,hm,hlen,e0,-,-⟩
 ·cases h1;exact⟨[],none,0,0,Z,Z,Nat.le_refl _,by unfold maxLen;omega,by omega,fun h=>absurd h (by omega)⟩
 ·cases h1;have j0:o4a P t (.slice (b0.map (·.1)) (rest.map (·.1))):=by rw[h2] at hw;exact hw
  have d0:len≤140737488355328:=by
   have:=j0 ((b0.length+rest.length)*P.bytesOf e) (by rw[DataW.weights,ht];simp);have h3:len*1≤(b0.length+rest.length)*P.bytesOf e:=Nat.mul_le_mul (by omega) hby;unfold reachBytes at this;omega
  have each:∀i,i<len→∃cs q,cs.length=size∧R cs q∧∀j,j<size→W.cell? ((a.add (i*size)).add j)=cs[j]?:=by
   intro i hi;have hg:=e0 i hi;have i0:i<b0.length:=by omega
   rw[List.getElem?_eq_getElem i0,Option.bind_eq_some_iff] at hg;obtain⟨cs,g0,q0⟩:=hg;rw[hc] at g0;obtain⟨-,c0,a0⟩:=World.cells?_some g0;obtain⟨q,hq⟩:=m0 n cs _ (by omega) c0 q0 (fun m p0=>by
    refine j0 m ?_;rw[DataW.weights,ht];refine List.mem_cons_of_mem _ (List.mem_append_left _ (Y5b (i:=i) ?_ m p0));rw[List.getElem?_map,List.getElem?_eq_getElem i0];rfl)
   exact⟨cs,q,c0,hq,a0⟩
  by_cases h0:len=0
  ·subst h0;exact⟨[],some a,0,f0,Z,Z,hl,hm,by omega,fun h=>absurd h (by omega)⟩
  ·have ha:a=⟨a.block,a.off,none⟩:=by
    obtain⟨cs,q,c0,_,a0⟩:=each 0 (by omega);have:=a0 0 (by omega);rw[List.getElem?_eq_getElem (by omega)] at this;simp only[Nat.zero_mul,Addr.add_zero'] at this;exact M0c this
   let f:Fin len→α:=fun i=>Classical.choose (Classical.choose_spec (each i.1 i.2))
   have n0:∀i:Fin len,∃cs:List Value,cs.length=size∧R cs (f i)∧∀j,j<size→W.cell? ((a.add (i.1*size)).add j)=cs[j]?:=fun i =>
    ⟨Classical.choose (each i.1 i.2),Classical.choose_spec (Classical.choose_spec (each i.1 i.2))⟩
   refine⟨List.ofFn f,some a,len,f0,Z,by simp,hl,hm,d0,fun _=>⟨a.block,a.off,by rw[←ha],by simp,fun i x hx=>?_⟩⟩;have hi:i<len:=by have:=(List.getElem?_eq_some_iff.1 hx).1;simpa using this
   have r0:x=f ⟨i,hi⟩:=by
    rw[List.getElem?_eq_getElem (by simpa using hi)] at hx;simp at hx;exact hx.symm
   obtain⟨cs,c0,hR,a0⟩:=n0 ⟨i,hi⟩;refine⟨cs,c0,fun j u hj=>?_,by rw[r0];exact hR⟩;have o0:j<size:=by have:=(List.getElem?_eq_some_iff.1 hj).1;omega
   have:=a0 j o0;rw[hj] at this;rw[ha] at this;rw[Addr.add_lit,Addr.add_lit] at this;exact this
theorem p3b{t:TypeId}{fs:Array Field}{xs:List (DataW H×List MemPlace)}{i:Nat}{f:Field}{y:DataW H×List MemPlace}(ht:P.underlying t=some (.struct fs))(hw:o4a P t (.agg (xs.map (·.1))))(hf:fs[i]?=some f)(hy:xs[i]?=some y):o4a P f.type y.1:=fun m hm=>by
 refine hw m ?_;rw[DataW.weights,ht];refine DataW.weights_mem_each (j:=i) (t:=f.type) (d:=y.1) ?_ ?_ m hm
 ·rw[List.getElem?_map];simp[hf]
 ·rw[List.getElem?_map,hy];rfl
theorem t3d{l:List Value}(h:l.length=4):∃a0 a1 a2 a3,l=[a0,a1,a2,a3]:=by
 match l,h with
 | [a0,a1,a2,a3],_=>exact⟨a0,a1,a2,a3,Z⟩
theorem z3d{l:List Value}(h:l.length=5):∃a0 a1 a2 a3 a4,l=[a0,a1,a2,a3,a4]:=by
 match l,h with
 | [a0,a1,a2,a3,a4],_=>exact⟨a0,a1,a2,a3,a4,Z⟩
theorem k3d{l:List Value}(h:l.length=6):∃a0 a1 a2 a3 a4 a5,l=[a0,a1,a2,a3,a4,a5]:=by
 match l,h with
 | [a0,a1,a2,a3,a4,a5],_=>exact⟨a0,a1,a2,a3,a4,a5,Z⟩
theorem C3d{l:List Value}(h:l.length=7):∃a0 a1 a2 a3 a4 a5 a6,l=[a0,a1,a2,a3,a4,a5,a6]:=by
 match l,h with
 | [a0,a1,a2,a3,a4,a5,a6],_=>exact⟨a0,a1,a2,a3,a4,a5,a6,Z⟩
theorem R1d{l:List Value}(h:l.length=11):∃a0 a1 a2 a3 a4 a5 a6 a7 a8 a9 b0,l=[a0,a1,a2,a3,a4,a5,a6,a7,a8,a9,b0]:=by
 match l,h with
 | [a0,a1,a2,a3,a4,a5,a6,a7,a8,a9,b0],_=>exact⟨a0,a1,a2,a3,a4,a5,a6,a7,a8,a9,b0,Z⟩
theorem X0a{t:TypeId}{fs:Array Field}{cs:List Value}{xs:List (DataW H×List MemPlace)}{n:Nat}(i ty c0:Nat)(hlen:xs.length=fs.size)(b0:∀(i:Nat) (f:Field),fs[i]?=some f→DataW.trod enc P W base sp held n f.type ((cs.drop f.offset).take (P.cellsOf f.type))=xs[i]?)(ht:P.underlying t=some (.struct fs))(hw:o4a P t (.agg (xs.map (·.1))))(hf:(fs[i]?).map (fun f=>(f.type,f.offset))=some (ty,c0)):
 ∃y,DataW.trod enc P W base sp held n ty ((cs.drop c0).take (P.cellsOf ty))=some y∧o4a P ty y.1:=by
 cases a0:fs[i]? with
 | none=>rw[a0] at hf;cases hf
 | some f =>
   rw[a0] at hf;simp only[Option.map_some,Option.some.injEq,Prod.mk.injEq] at hf;obtain⟨rfl,rfl⟩:=hf;have hi:i<xs.length:=by rw[hlen];exact(Array.getElem?_eq_some_iff.1 a0).1
   exact⟨xs[i],by rw[b0 i f a0,List.getElem?_eq_getElem hi],p3b ht hw a0 (List.getElem?_eq_getElem hi)⟩
end
section
variable {H:Type} {enc:TypeId×Value→H} {W:World} {base:Nat} {sp:Nat→Bool} {held:Bool}
theorem M2d{n:Int}(h:(Lit.int .u8 n).wf=true):0≤n∧n≤255:=by simpa[Lit.wf,IntKind.min,IntKind.max,IntKind.signed,IntKind.bits] using h
theorem R7b{t:TypeId}{s:ByteArray}{y:DataW H×List MemPlace}(hx:y=(.lit (.string s.data.toList),[]))(hw:o4a prog t y.1):s.size≤140737488355328:=by
 have h:=hw s.data.toList.length (by rw[hx];exact List.mem_singleton.2 Z);have e:s.data.toList.length=s.size:=Array.length_toList;unfold reachBytes at h;omega
theorem u6b{α:Type}{M:List Nat}{w:World}{size:Nat}{R:List Value→α→Prop}{Q:α→Prop}{v:Value}{l:List α}(h:RdS M w size R v l)(hq:∀cs x,R cs x→Q x):∀x∈l,Q x:=fun x hx=>by
 obtain⟨_,_,_,rfl⟩:=h.form;obtain⟨i,hi⟩:=List.mem_iff_getElem?.1 hx;obtain⟨_,_,_,cs,h1,-,-,-,-,h2⟩:=RdS.get h i (List.getElem?_eq_some_iff.1 hi).1;rw[hi] at h1;cases h1;exact hq _ _ h2
theorem j2b:prog.cellsOf 3=1:=by kernel_rfl
theorem G6b:prog.cellsOf 4=1:=by kernel_rfl
theorem S0b:prog.cellsOf 9=1:=by kernel_rfl
theorem c3:prog.cellsOf 3=1:=by kernel_rfl
theorem E0d:prog.cellsOf 66=1:=by kernel_rfl
theorem z7c:prog.cellsOf 68=4:=by kernel_rfl
theorem r2d:1≤prog.bytesOf 68:=of_decide_eq_true (by kernel_rfl)
theorem A3d:1≤prog.bytesOf 3:=of_decide_eq_true (by kernel_rfl)
theorem m5a:∀(fuel:Nat) (cs:List Value) (x:DataW H×List MemPlace),DataW.trod enc prog W base sp held fuel 68 cs=some x→o4a prog 68 x.1→∃e,RdE [] W e cs:=by
 intro fuel
 induction fuel using Nat.strongRecOn with
 | _ fuel ih =>
 intro cs x h hw;obtain⟨_,_,_,hx,hl,hlen,a0⟩:=DataW.trod_struct Tryz.underlying68 h;rw[hx] at hw;rw[z7c] at hl;obtain⟨_,t0,-⟩:=X0a 0 3 0 hlen a0 Tryz.underlying68 hw Z;obtain⟨_,t1,-⟩:=X0a 1 3 1 hlen a0 Tryz.underlying68 hw Z;obtain⟨_,t2,-⟩:=X0a 2 3 2 hlen a0 Tryz.underlying68 hw Z;obtain⟨_,t3,w3⟩:=X0a 3 66 3 hlen a0 Tryz.underlying68 hw Z;simp only[c3,E0d] at t0 t1 t2 t3;obtain⟨_,_,_,_,rfl⟩:=t3d hl;simp only[List.drop_succ_cons,List.drop_zero,List.take_succ_cons,List.take_zero] at t0 t1 t2 t3;obtain⟨m0,e0,-,f0⟩:=DataW.trod_int Tryz.underlying3 t0;obtain⟨m1,e1,-,f1⟩:=DataW.trod_int Tryz.underlying3 t1;obtain⟨m2,e2,-,f2⟩:=DataW.trod_int Tryz.underlying3 t2;cases e0;cases e1;cases e2;obtain⟨ks,j0⟩:=C3a (R:=fun cs e=>RdE [] W e cs) Tryz.underlying66 z7c r2d (fun k cs y hk _ hy hl=>ih k (by omega) cs y hy hl) t3 w3;obtain⟨A,k,c,rfl,hk,i0,g0,b0,c0⟩:=j0;refine⟨⟨m0,m1,m2,ks⟩,?_⟩;rw[RdE];refine⟨A,k,c,Z,i4a f0,i4a f1,i4a f2,hk,i0,g0,b0,fun h0=>?_⟩;obtain⟨b,o,hA,hb,c0⟩:=c0 h0;refine⟨b,o,hA,hb,fun i hi=>?_⟩;obtain⟨d0,-,hc,hr⟩:=c0 i ks[i] (List.getElem?_eq_getElem hi);exact⟨d0,hc,hr⟩
theorem F9a{fuel:Nat}{v:Value}{x:DataW H×List MemPlace}(h:DataW.trod enc prog W base sp held fuel 35 [v]=some x)(hw:o4a prog 35 x.1):∃l,RdI [] W v l :=
 C3a Tryz.underlying35 c3 A3d (fun n cs y _ _ hy _=>by
  obtain⟨m,e,-,f⟩:=DataW.trod_int Tryz.underlying3 hy;exact⟨m,e,i4a f⟩) h hw
theorem b0c{fuel:Nat}{v:Value}{x:DataW H×List MemPlace}(h:DataW.trod enc prog W base sp held fuel 66 [v]=some x)(hw:o4a prog 66 x.1):∃l,A7c [] W v l :=
 C3a Tryz.underlying66 z7c r2d (fun n cs y _ _ hy hl=>m5a n cs y hy hl) h hw
theorem r5a:prog.cellsOf 108=6:=by kernel_rfl
theorem s2c{fuel:Nat}{cs:List Value}{x:DataW H×List MemPlace}(h:DataW.trod enc prog W base sp held fuel 108 cs=some x)(hw:o4a prog 108 x.1):∃c,P2a cs c∧c.name.size≤140737488355328:=by
 obtain⟨_,_,_,hx,hl,hlen,a0⟩:=DataW.trod_struct Tryz.underlying108 h;rw[hx] at hw;rw[r5a] at hl;obtain⟨_,t0,w0⟩:=X0a 0 9 0 hlen a0 Tryz.underlying108 hw Z;obtain⟨_,t1,-⟩:=X0a 1 3 1 hlen a0 Tryz.underlying108 hw Z;obtain⟨_,t2,-⟩:=X0a 2 3 2 hlen a0 Tryz.underlying108 hw Z;obtain⟨_,t3,-⟩:=X0a 3 3 3 hlen a0 Tryz.underlying108 hw Z;obtain⟨_,t4,-⟩:=X0a 4 4 4 hlen a0 Tryz.underlying108 hw Z;obtain⟨_,t5,-⟩:=X0a 5 3 5 hlen a0 Tryz.underlying108 hw Z;simp only[S0b,j2b,G6b] at t0 t1 t2 t3 t4 t5;obtain⟨_,_,_,_,_,_,rfl⟩:=k3d hl;simp only[List.drop_succ_cons,List.drop_zero,List.take_succ_cons,List.take_zero] at t0 t1 t2 t3 t4 t5;obtain⟨m0,e0,s0,-⟩:=DataW.trod_string Tryz.underlying9 t0;obtain⟨m1,e1,-,f1⟩:=DataW.trod_int Tryz.underlying3 t1;obtain⟨m2,e2,-,f2⟩:=DataW.trod_int Tryz.underlying3 t2;obtain⟨m3,e3,-,f3⟩:=DataW.trod_int Tryz.underlying3 t3;obtain⟨m4,e4,-⟩:=DataW.trod_bool Tryz.underlying4 t4;obtain⟨m5,e5,-,f5⟩:=DataW.trod_int Tryz.underlying3 t5;cases e0;cases e1;cases e2;cases e3;cases e4;cases e5;exact⟨⟨m0,m1,m2,m3,m4,m5⟩,⟨Z,i4a f1,i4a f2,i4a f3,i4a f5⟩,R7b s0 w0⟩
theorem H2d:1≤prog.bytesOf 108:=of_decide_eq_true (by kernel_rfl)
theorem J9b{fuel:Nat}{v:Value}{x:DataW H×List MemPlace}(h:DataW.trod enc prog W base sp held fuel 22 [v]=some x)(hw:o4a prog 22 x.1):∃l,V9c [] W v l∧∀c∈l,c.name.size≤140737488355328:=by
 obtain⟨l,hl⟩:=C3a Tryz.underlying22 r5a H2d (fun n cs y _ _ hy hl=>s2c hy hl) h hw;exact⟨l,hl.mono (fun _ _ h=>h.1),u6b hl (fun _ _ h=>h.2)⟩
theorem r2a:prog.cellsOf 68=4:=by kernel_rfl
theorem F4a:prog.cellsOf 105=5:=by kernel_rfl
theorem D6b{fuel:Nat}{cs:List Value}{x:DataW H×List MemPlace}(h:DataW.trod enc prog W base sp held fuel 105 cs=some x)(hw:o4a prog 105 x.1):∃c,Z0a [] W cs c:=by
 obtain⟨_,_,_,hx,hl,hlen,a0⟩:=DataW.trod_struct Tryz.underlying105 h;rw[hx] at hw;rw[F4a] at hl;obtain⟨_,t0,-⟩:=X0a 0 3 0 hlen a0 Tryz.underlying105 hw Z;obtain⟨_,t1,w1⟩:=X0a 1 68 1 hlen a0 Tryz.underlying105 hw Z;simp only[j2b,r2a] at t0 t1;obtain⟨_,_,_,_,_,rfl⟩:=z3d hl;simp only[List.drop_succ_cons,List.drop_zero,List.take_succ_cons,List.take_zero] at t0 t1;obtain⟨m0,e0,-,f0⟩:=DataW.trod_int Tryz.underlying3 t0;obtain⟨x1,h1⟩:=m5a _ _ _ t1 w1;cases e0;exact⟨⟨m0,x1⟩,_,Z,i4a f0,h1⟩
theorem b7c:1≤prog.bytesOf 105:=of_decide_eq_true (by kernel_rfl)
theorem L5b{fuel:Nat}{v:Value}{x:DataW H×List MemPlace}(h:DataW.trod enc prog W base sp held fuel 95 [v]=some x)(hw:o4a prog 95 x.1):∃l,X9c [] W v l :=
 C3a Tryz.underlying95 F4a b7c (fun n cs y _ _ hy hl=>D6b hy hl) h hw
theorem H3b:prog.cellsOf 95=1:=by kernel_rfl
theorem e5a:prog.cellsOf 97=11:=by kernel_rfl
theorem M1c{fuel:Nat}{cs:List Value}{x:DataW H×List MemPlace}(h:DataW.trod enc prog W base sp held fuel 97 cs=some x)(hw:o4a prog 97 x.1):∃c,B1a [] W cs c:=by
 obtain⟨_,_,_,hx,hl,hlen,a0⟩:=DataW.trod_struct Tryz.underlying97 h;rw[hx] at hw;rw[e5a] at hl;obtain⟨_,t0,-⟩:=X0a 0 3 0 hlen a0 Tryz.underlying97 hw Z;obtain⟨_,t1,-⟩:=X0a 1 3 1 hlen a0 Tryz.underlying97 hw Z;obtain⟨_,t2,-⟩:=X0a 2 3 2 hlen a0 Tryz.underlying97 hw Z;obtain⟨_,t3,w3⟩:=X0a 3 68 3 hlen a0 Tryz.underlying97 hw Z;obtain⟨_,t4,w4⟩:=X0a 4 95 7 hlen a0 Tryz.underlying97 hw Z;obtain⟨_,t5,-⟩:=X0a 5 4 8 hlen a0 Tryz.underlying97 hw Z;obtain⟨_,t6,-⟩:=X0a 6 3 9 hlen a0 Tryz.underlying97 hw Z;obtain⟨_,t7,-⟩:=X0a 7 3 10 hlen a0 Tryz.underlying97 hw Z;simp only[j2b,r2a,H3b,G6b] at t0 t1 t2 t3 t4 t5 t6 t7;obtain⟨_,_,_,_,_,_,_,_,_,_,_,rfl⟩:=R1d hl;simp only[List.drop_succ_cons,List.drop_zero,List.take_succ_cons,List.take_zero] at t0 t1 t2 t3 t4 t5 t6 t7;obtain⟨m0,e0,-,f0⟩:=DataW.trod_int Tryz.underlying3 t0;obtain⟨m1,e1,-,f1⟩:=DataW.trod_int Tryz.underlying3 t1;obtain⟨m2,e2,-,f2⟩:=DataW.trod_int Tryz.underlying3 t2;obtain⟨x3,h3⟩:=m5a _ _ _ t3 w3;obtain⟨x4,h4⟩:=L5b t4 w4;obtain⟨m5,e5,-⟩:=DataW.trod_bool Tryz.underlying4 t5;obtain⟨m6,e6,-,f6⟩:=DataW.trod_int Tryz.underlying3 t6;obtain⟨m7,e7,-,f7⟩:=DataW.trod_int Tryz.underlying3 t7;cases e0;cases e1;cases e2;cases e5;cases e6;cases e7;exact⟨⟨m0,m1,m2,x3,x4,m5,m6,m7⟩,_,_,_,_,_,Z,i4a f0,i4a f1,i4a f2,i4a f6,i4a f7,h3,h4⟩
theorem I2d:1≤prog.bytesOf 97:=of_decide_eq_true (by kernel_rfl)
theorem d9b{fuel:Nat}{v:Value}{x:DataW H×List MemPlace}(h:DataW.trod enc prog W base sp held fuel 90 [v]=some x)(hw:o4a prog 90 x.1):∃l,T1d [] W v l :=
 C3a Tryz.underlying90 e5a I2d (fun n cs y _ _ hy hl=>M1c hy hl) h hw
theorem t7b:prog.cellsOf 35=1:=by kernel_rfl
theorem s5a:prog.cellsOf 115=6:=by kernel_rfl
theorem x0c{fuel:Nat}{cs:List Value}{x:DataW H×List MemPlace}(h:DataW.trod enc prog W base sp held fuel 115 cs=some x)(hw:o4a prog 115 x.1):∃c,d6a [] W cs c:=by
 obtain⟨_,_,_,hx,hl,hlen,a0⟩:=DataW.trod_struct Tryz.underlying115 h;rw[hx] at hw;rw[s5a] at hl;obtain⟨_,t0,-⟩:=X0a 0 3 0 hlen a0 Tryz.underlying115 hw Z;obtain⟨_,t1,w1⟩:=X0a 1 35 1 hlen a0 Tryz.underlying115 hw Z;obtain⟨_,t2,w2⟩:=X0a 2 68 2 hlen a0 Tryz.underlying115 hw Z;simp only[j2b,t7b,r2a] at t0 t1 t2;obtain⟨_,_,_,_,_,_,rfl⟩:=k3d hl;simp only[List.drop_succ_cons,List.drop_zero,List.take_succ_cons,List.take_zero] at t0 t1 t2;obtain⟨m0,e0,-,f0⟩:=DataW.trod_int Tryz.underlying3 t0;obtain⟨x1,h1⟩:=F9a t1 w1;obtain⟨x2,h2⟩:=m5a _ _ _ t2 w2;cases e0;exact⟨⟨m0,x1,x2⟩,_,_,_,_,_,Z,i4a f0,h1,h2⟩
theorem o3d:1≤prog.bytesOf 115:=of_decide_eq_true (by kernel_rfl)
theorem C9b{fuel:Nat}{v:Value}{x:DataW H×List MemPlace}(h:DataW.trod enc prog W base sp held fuel 91 [v]=some x)(hw:o4a prog 91 x.1):∃l,p3d [] W v l :=
 C3a Tryz.underlying91 s5a o3d (fun n cs y _ _ hy hl=>x0c hy hl) h hw
theorem P6b:prog.cellsOf 66=1:=by kernel_rfl
theorem U6b:prog.cellsOf 90=1:=by kernel_rfl
theorem f7b:prog.cellsOf 91=1:=by kernel_rfl
theorem G4a:prog.cellsOf 93=7:=by kernel_rfl
theorem i7b{fuel:Nat}{cs:List Value}{x:DataW H×List MemPlace}(h:DataW.trod enc prog W base sp held fuel 93 cs=some x)(hw:o4a prog 93 x.1):∃c,R0a [] W cs c∧c.name.size≤140737488355328:=by
 obtain⟨_,_,_,hx,hl,hlen,a0⟩:=DataW.trod_struct Tryz.underlying93 h;rw[hx] at hw;rw[G4a] at hl;obtain⟨_,t0,w0⟩:=X0a 0 9 0 hlen a0 Tryz.underlying93 hw Z;obtain⟨_,t1,-⟩:=X0a 1 3 1 hlen a0 Tryz.underlying93 hw Z;obtain⟨_,t2,w2⟩:=X0a 2 66 2 hlen a0 Tryz.underlying93 hw Z;obtain⟨_,t3,w3⟩:=X0a 3 35 3 hlen a0 Tryz.underlying93 hw Z;obtain⟨_,t4,w4⟩:=X0a 4 90 4 hlen a0 Tryz.underlying93 hw Z;obtain⟨_,t5,w5⟩:=X0a 5 91 5 hlen a0 Tryz.underlying93 hw Z;obtain⟨_,t6,-⟩:=X0a 6 4 6 hlen a0 Tryz.underlying93 hw Z;simp only[S0b,j2b,P6b,t7b,U6b,f7b,G6b] at t0 t1 t2 t3 t4 t5 t6;obtain⟨_,_,_,_,_,_,_,rfl⟩:=C3d hl;simp only[List.drop_succ_cons,List.drop_zero,List.take_succ_cons,List.take_zero] at t0 t1 t2 t3 t4 t5 t6;obtain⟨m0,e0,s0,-⟩:=DataW.trod_string Tryz.underlying9 t0;obtain⟨m1,e1,-,f1⟩:=DataW.trod_int Tryz.underlying3 t1;obtain⟨x2,h2⟩:=b0c t2 w2;obtain⟨x3,h3⟩:=F9a t3 w3;obtain⟨x4,h4⟩:=d9b t4 w4;obtain⟨x5,h5⟩:=C9b t5 w5;obtain⟨m6,e6,-⟩:=DataW.trod_bool Tryz.underlying4 t6;cases e0;cases e1;cases e6;exact⟨⟨m0,m1,x2,x3,x4,x5,m6⟩,⟨_,_,_,_,Z,i4a f1,h2,h3,h4,h5⟩,R7b s0 w0⟩
theorem i9c:1≤prog.bytesOf 93:=of_decide_eq_true (by kernel_rfl)
theorem G4b{fuel:Nat}{v:Value}{x:DataW H×List MemPlace}(h:DataW.trod enc prog W base sp held fuel 25 [v]=some x)(hw:o4a prog 25 x.1):∃l,f3d [] W v l∧∀c∈l,c.name.size≤140737488355328:=by
 obtain⟨l,hl⟩:=C3a Tryz.underlying25 G4a i9c (fun n cs y _ _ hy hl=>i7b hy hl) h hw;exact⟨l,hl.mono (fun _ _ h=>h.1),u6b hl (fun _ _ h=>h.2)⟩
theorem V3a:prog.cellsOf 111=11:=by kernel_rfl
theorem M3b{fuel:Nat}{cs:List Value}{x:DataW H×List MemPlace}(h:DataW.trod enc prog W base sp held fuel 111 cs=some x)(hw:o4a prog 111 x.1):∃c,i1a [] W cs c∧c.name.size≤140737488355328∧c.owner.size≤140737488355328:=by
 obtain⟨_,_,_,hx,hl,hlen,a0⟩:=DataW.trod_struct Tryz.underlying111 h;rw[hx] at hw;rw[V3a] at hl;obtain⟨_,t0,w0⟩:=X0a 0 9 0 hlen a0 Tryz.underlying111 hw Z;obtain⟨_,t1,w1⟩:=X0a 1 9 1 hlen a0 Tryz.underlying111 hw Z;obtain⟨_,t2,w2⟩:=X0a 2 68 2 hlen a0 Tryz.underlying111 hw Z;obtain⟨_,t3,w3⟩:=X0a 3 68 6 hlen a0 Tryz.underlying111 hw Z;obtain⟨_,t4,w4⟩:=X0a 4 35 10 hlen a0 Tryz.underlying111 hw Z;simp only[S0b,r2a,t7b] at t0 t1 t2 t3 t4;obtain⟨_,_,_,_,_,_,_,_,_,_,_,rfl⟩:=R1d hl;simp only[List.drop_succ_cons,List.drop_zero,List.take_succ_cons,List.take_zero] at t0 t1 t2 t3 t4;obtain⟨m0,e0,s0,-⟩:=DataW.trod_string Tryz.underlying9 t0;obtain⟨m1,e1,s1,-⟩:=DataW.trod_string Tryz.underlying9 t1;obtain⟨x2,h2⟩:=m5a _ _ _ t2 w2;obtain⟨x3,h3⟩:=m5a _ _ _ t3 w3;obtain⟨x4,h4⟩:=F9a t4 w4;cases e0;cases e1;exact⟨⟨m0,m1,x2,x3,x4⟩,⟨_,_,_,_,_,_,_,_,_,Z,h2,h3,h4⟩,R7b s0 w0,R7b s1 w1⟩
theorem j3c:1≤prog.bytesOf 111:=of_decide_eq_true (by kernel_rfl)
theorem W1b{fuel:Nat}{v:Value}{x:DataW H×List MemPlace}(h:DataW.trod enc prog W base sp held fuel 23 [v]=some x)(hw:o4a prog 23 x.1):∃l,V2d [] W v l∧∀c∈l,c.name.size≤140737488355328∧c.owner.size≤140737488355328:=by
 obtain⟨l,hl⟩:=C3a Tryz.underlying23 V3a j3c (fun n cs y _ _ hy hl=>M3b hy hl) h hw;exact⟨l,hl.mono (fun _ _ h=>h.1),u6b hl (fun _ _ h=>h.2)⟩
theorem d5a:prog.cellsOf 113=6:=by kernel_rfl
theorem K2c{fuel:Nat}{cs:List Value}{x:DataW H×List MemPlace}(h:DataW.trod enc prog W base sp held fuel 113 cs=some x)(hw:o4a prog 113 x.1):∃c,u5a [] W cs c:=by
 obtain⟨_,_,_,hx,hl,hlen,a0⟩:=DataW.trod_struct Tryz.underlying113 h;rw[hx] at hw;rw[d5a] at hl;obtain⟨_,t0,-⟩:=X0a 0 3 0 hlen a0 Tryz.underlying113 hw Z;obtain⟨_,t1,w1⟩:=X0a 1 68 1 hlen a0 Tryz.underlying113 hw Z;obtain⟨_,t2,-⟩:=X0a 2 3 5 hlen a0 Tryz.underlying113 hw Z;simp only[j2b,r2a] at t0 t1 t2;obtain⟨_,_,_,_,_,_,rfl⟩:=k3d hl;simp only[List.drop_succ_cons,List.drop_zero,List.take_succ_cons,List.take_zero] at t0 t1 t2;obtain⟨m0,e0,-,f0⟩:=DataW.trod_int Tryz.underlying3 t0;obtain⟨x1,h1⟩:=m5a _ _ _ t1 w1;obtain⟨m2,e2,-,f2⟩:=DataW.trod_int Tryz.underlying3 t2;cases e0;cases e2;exact⟨⟨m0,x1,m2⟩,_,_,_,_,Z,i4a f0,i4a f2,h1⟩
theorem K2d:1≤prog.bytesOf 113:=of_decide_eq_true (by kernel_rfl)
theorem c9b{fuel:Nat}{v:Value}{x:DataW H×List MemPlace}(h:DataW.trod enc prog W base sp held fuel 24 [v]=some x)(hw:o4a prog 24 x.1):∃l,O2d [] W v l :=
 C3a Tryz.underlying24 d5a K2d (fun n cs y _ _ hy hl=>K2c hy hl) h hw
theorem g7b:prog.cellsOf 22=1:=by kernel_rfl
theorem Q0b:prog.cellsOf 23=1:=by kernel_rfl
theorem C7b:prog.cellsOf 24=1:=by kernel_rfl
theorem P3b:prog.cellsOf 25=1:=by kernel_rfl
theorem H6a:prog.cellsOf 27=4:=by kernel_rfl
theorem e6b{fuel:Nat}{cs:List Value}{x:DataW H×List MemPlace}(h:DataW.trod enc prog W base sp held fuel 27 cs=some x)(hw:o4a prog 27 x.1):∃c,C1a [] W c cs∧c4b c:=by
 obtain⟨_,_,_,hx,hl,hlen,a0⟩:=DataW.trod_struct Tryz.underlying27 h;rw[hx] at hw;rw[H6a] at hl;obtain⟨_,t0,w0⟩:=X0a 0 22 0 hlen a0 Tryz.underlying27 hw Z;obtain⟨_,t1,w1⟩:=X0a 1 23 1 hlen a0 Tryz.underlying27 hw Z;obtain⟨_,t2,w2⟩:=X0a 2 24 2 hlen a0 Tryz.underlying27 hw Z;obtain⟨_,t3,w3⟩:=X0a 3 25 3 hlen a0 Tryz.underlying27 hw Z;simp only[g7b,Q0b,C7b,P3b] at t0 t1 t2 t3;obtain⟨_,_,_,_,rfl⟩:=t3d hl;simp only[List.drop_succ_cons,List.drop_zero,List.take_succ_cons,List.take_zero] at t0 t1 t2 t3;obtain⟨x0,h0⟩:=J9b t0 w0;obtain⟨x1,h1⟩:=W1b t1 w1;obtain⟨x2,h2⟩:=c9b t2 w2;obtain⟨x3,h3⟩:=G4b t3 w3;exact⟨⟨x0,x1,x2,x3⟩,⟨_,_,_,_,Z,h0.1,h1.1,h2,h3.1⟩,⟨h0.2,h1.2,h3.2⟩⟩
theorem y2c{W:World}:∀{l:List (String×DataW Unit)} {ps:List MemPlace},DataW.LaidVars prog W l ps→∀{i:Nat} {x:String×DataW Unit},l[i]?=some x →
 ∃g t cs fuel p,prog.globalNamed x.1=some g∧(prog.globals[g]?).map (·.type)=some t∧W.var? prog x.1=some cs∧DataW.trod (fun _=>()) prog W 0 (fun _=>true) false fuel t cs.toList=some (x.2,p)
 | [],_,_,_,_,hi=>by simp at hi
 | y::l,ps,h,0,x,hi=>by
   obtain⟨g0,t0,a0,f0,p0,q0,c0,d0,e0,b0,-⟩:=h;cases hi;exact⟨g0,t0,a0,f0,p0,c0,d0,e0,b0⟩
 | y::l,ps,h,i+1,x,hi=>by
   obtain⟨g0,t0,a0,f0,p0,q0,c0,d0,e0,b0,hr,-⟩:=h;exact y2c hr (by simpa using hi)
theorem K0d:prog.globalNamed ((Rows.exploreClosureRow.laid[0]?.map (·.1)).getD "")=some 0:=by kernel_rfl
theorem P1d:(prog.globals[0]?).map (·.type)=some 221:=by kernel_rfl
theorem f2d:prog.cellsOf 221=9:=by kernel_rfl
theorem n3b{W:World}(h:laidMetH prog Rows.exploreClosureRow.laid W):Y3a [] W:=by
 rw[MakeChecks.laidMetH_plain _ _ _ (by kernel_rfl)] at h;obtain⟨_,d0,-⟩:=h;obtain⟨_,_,c0,_,_,f0,m0,n0,j0⟩:=y2c d0 (i:=0) Z;obtain rfl:=Option.some.inj (K0d.symm.trans f0);obtain rfl:=Option.some.inj (P1d.symm.trans m0);obtain⟨xs,_,rfl,b0,hlen,_,e0⟩:=DataW.trod_array Tryz.underlying221 j0;rw[f2d] at hlen;simp only[c3,Nat.mul_one] at e0;refine⟨by simp,fun i hi=>?_⟩;have a0:=World.var?_cell f0 n0 i;have g0:i<xs.length:=by omega
 have he:=e0 i (by omega);rw[List.getElem?_eq_getElem g0] at he;obtain⟨k,e1,e2,-⟩:=DataW.trod_int Tryz.underlying3 he;have o0:i<c0.toList.length:=by omega
 have i0:c0.toList[i]?=some (.int .i64 k):=by
  have h1:((c0.toList.drop i).take 1)[0]?=some (Value.int .i64 k):=by rw[e1];rfl
  rw[List.getElem?_take,if_pos (by omega),List.getElem?_drop] at h1;simpa using h1
 rw[a0];have e3:c0[i]?=some (.int .i64 k):=by simpa using i0
 rw[e3];have b0:(DataW.agg _=DataW.agg _∧_):=Prod.mk.inj b0;have b0:=DataW.agg.inj b0.1;have e4:(xs.map (·.1))[i]?=some (.lit (.int .i64 k)):=by rw[List.getElem?_map,List.getElem?_eq_getElem g0,e2];rfl
 rw[←b0] at e4;rcases(show i=0∨i=1∨i=2∨i=3∨i=4∨i=5∨i=6∨i=7∨i=8 by omega) with rfl|rfl|rfl|rfl|rfl|rfl|rfl|rfl|rfl<;>(cases e4;rfl)
end
theorem own:ownKnob prog.godebug=none:=by kernel_rfl
theorem q7c:laidOutB prog=true:=by kernel_rfl
abbrev C8a:List (String×DataW Unit):=Rows.exploreClosureRow.laid
theorem Z3c(os:Os)(args:Array Value):laidMetH prog C8a ((World.doorLaid prog 400 os).forCall (fun _ _=>0) ⟨#[],args,[]⟩).memory :=
 laidMetH_of_parts3 (fuel:=8) (laidMet_of_run' 8 (by kernel_rfl) (by kernel_rfl)) (by kernel_rfl) (by kernel_rfl)
theorem g2c{H:Type}{enc:TypeId×Value→H}{W W':World}(hb:Below W.heap.size W W'):∀(ts:List TypeId),(∀t∈ts,prog.readableRec t=true∧t<prog.types.size)→∀(vs:List Value) (ds:List (DataW H)) (p:List MemPlace),
 (∀x∈p,x.block<W.heap.size)→DataW.TrodAll enc prog W 0 (fun _=>true) true ts vs ds p→DataW.TrodAll enc prog W' 0 (fun b=>decide (b<W.heap.size)) true ts vs ds p:=by
 intro ts
 induction ts with
 | nil =>
   intro _ vs ds p _ h;cases vs<;>cases ds<;>exact h
 | cons t ts ih =>
   intro ht vs ds p hp h;cases vs with
   | nil=>exact h.elim
   | cons v vs =>
     cases ds with
     | nil=>exact h.elim
     | cons d ds =>
       obtain⟨q,r,h1,h2,rfl⟩:=h;obtain⟨r1,r2⟩:=ht t (by simp);exact⟨q,r,Below.trod q7c r1 r2 h1 hb (fun x hx=>hp x (List.mem_append_left _ hx)),ih (fun t a0=>ht t (by simp[a0])) vs ds r (fun x hx=>hp x (List.mem_append_right _ hx)) h2,Z⟩
theorem x1c{H:Type}{enc:TypeId×Value→H}{fn:Func}{s:ChangeSpec}{W W':World}{args:Array Value}{ds:List (DataW H)}{a0:List MemPlace}(hs:s.vars=[])(hr:fn.resultTypes=#[4])
 (d0:∀t∈fn.params.toList,prog.readableRec t=true∧t<prog.types.size) (hW:DataW.Whole enc prog fn.params.toList s.vars false W args.toList ds [] a0)
 (e1:(s.fn H (ds++[])).results=[.lit (.bool true)]) (e2:(s.fn H (ds++[])).args=ds) (e3:(s.fn H (ds++[])).vars=[]) (hb:Below W.heap.size W W') :
 s.post enc prog fn false true false false W args (.bool true) W':=by
 have c0:=hW.lt;obtain⟨_,_,hA,hV,b0,_⟩:=id hW;rw[hs] at hV;obtain⟨-,rfl⟩:=trodVars_none hV;rw[List.append_nil] at b0;subst b0;refine⟨ds,[],a0,[],a0,[],hW,?_,?_,?_,hb.frame _,fun h=>by cases h⟩
 ·rw[e1,hr];exact trodAll_mk1 (shut_bool Tryz.underlying4 true)
 ·rw[e2];exact g2c hb _ d0 _ _ _ c0 hA
 ·rw[e3,hs];rfl
theorem f4c{H:Type}{ts:List TypeId}{ds:List (DataW H)}(h:(DataW.weightsEach prog ts ds).all (·≤reachBytes)=true){j:Nat}{t:TypeId}{d:DataW H}(ht:ts[j]?=some t)(hd:ds[j]?=some d):o4a prog t d:=fun m hm=>by
 have:=List.all_eq_true.1 h m (DataW.weights_mem_each ht hd m hm);simpa using this
theorem X3b{f:FuncId}{args:Array Value}{W:World}{R:Value→World→Prop}{Q:Ending→World→Prop}(h:N0a prog f args W R)(hQ:∀v W',R v W'→Q (.returned v) W'):Calls prog f args W Q :=
 Calls.mono h fun _ _ ⟨v,he,hv⟩=>he▸hQ v _ hv
abbrev G3c:=Nat→Option (FuncId×Array Value×(Value→Prop)×(Value→World→Prop))
section
variable {P:Program} {r:Option Nat} {N:Nat} {l:List Oper} {D:List Deferred} {C:World→Prop} {V:G3c} {K:Env→World→Prop}
def FL(P:Program)(N:Nat)(l:List Oper)(C:World→Prop)(V:G3c)(K:Env→World→Prop)(lo:Nat):List Nat→Env→List Nat→(World→Prop)→Prop
 | [],e,_,Φ=>∀w,C w→Φ w→K e w
 | i::rest,e,gs,Φ=>∃o d,l[i]?=some o∧o.dst=some d∧d<N ∧
  ((∃v,PV P l C o e v∧FL P N l C V K lo rest (upd e d v) gs Φ) ∨
   (∃(mk:Nat→Value) (t:TypeId) (cs:List Value),s1a l.toArray e o=true ∧
     (∀w,C w→∃w',(execOp (ev e) o).run P w=.ok (.value (mk w.heap.size)) w'∧C w'∧z0a [] w w'∧w'.heap.size=w.heap.size+1∧E0a w' (w.heap.size,t,cs)) ∧
     ∀g,lo≤g→g∉gs→FL P N l C V K lo rest (upd e d (mk g)) (g::gs) (fun w=>Φ w∧E0a w (g,t,cs))) ∨
   (∃f args Qp Qw,V i=some (f,args,Qp,Qw)∧s1a l.toArray e o=true∧(∀w,C w→(execOp (ev e) o).run P w=.ok (.enter f args) w)∧∀u,Qp u→FL P N l C V K lo rest (upd e d u) gs (fun w=>Φ w∧Qw u w)))
theorem FL.mono{lo b0:Nat}:∀(R:List Nat) (e:Env) (gs a0:List Nat) (Φ Φ':World→Prop),(∀g,b0≤g→g∉a0→lo≤g∧g∉gs)→(∀w,Φ' w→Φ w)→FL P N l C V K lo R e gs Φ→FL P N l C V K b0 R e a0 Φ'
 | [],e,gs,a0,Φ,Φ',_,hΦ,h=>fun w hC hw=>h w hC (hΦ w hw)
 | i::R,e,gs,a0,Φ,Φ',hg,hΦ,h=>by
   obtain⟨o,d,h1,h2,h3,h4⟩:=h;refine⟨o,d,h1,h2,h3,?_⟩;rcases h4 with⟨v,h5,h6⟩|⟨mk,t,cs,h5,h6,h7⟩|⟨f,args,Qp,Qw,h5,h6,h7,h8⟩
   ·exact .inl ⟨v,h5,FL.mono R _ gs a0 Φ Φ' hg hΦ h6⟩
   rotate_left
   ·exact .inr (.inr ⟨f,args,Qp,Qw,h5,h6,h7,fun u hu=>FL.mono R _ gs a0 _ _ hg (fun w hw=>⟨hΦ w hw.1,hw.2⟩) (h8 u hu)⟩)
   ·refine .inr (.inl ⟨mk,t,cs,h5,h6,fun g h8 h9=>?_⟩);refine FL.mono R _ (g::gs) (g::a0) _ _ (fun x hx hn=>?_) (fun w hw=>⟨hΦ w hw.1,hw.2⟩) (h7 g (hg g h8 h9).1 (hg g h8 h9).2);simp only[List.mem_cons,not_or] at hn ⊢;exact⟨(hg x hx hn.2).1,hn.1,(hg x hx hn.2).2⟩
def D3d:Result Next→Nat
 | .ok _ w=>w.heap.size
 | _=>0
def szE(P:Program)(l:List Oper)(o:Oper)(e:Env)(w:World):Nat:=bif s1a l.toArray e o then D3d ((execOp (ev e) o).run P w) else 0
theorem t1b{o:Oper}{e e':Env}{w:World}(hs:Op.isSelect o.op=false)(h:∀s∈Oper.looksAt l.toArray o,e s=e' s):szE P l o e w=szE P l o e' w:=by
 unfold szE;rw[e1a h,G1a hs h]
theorem d5b(a b:Nat)(gs:List Nat):∃g,a≤g∧b≤g∧g∉gs:=by
 have:∀gs:List Nat,∃m,∀g∈gs,g<m:=by
  intro gs
  induction gs with
  | nil=>exact⟨0,by simp⟩
  | cons x gs ih =>
    obtain⟨m,hm⟩:=ih;refine⟨max m (x+1),fun g hg=>?_⟩;rcases List.mem_cons.1 hg with rfl|h
    ·omega
    ·have:=hm g h;omega
 obtain⟨m,hm⟩:=this gs;exact⟨max m (max a b),by omega,by omega,fun h=>by have:=hm _ h;omega⟩
def Z3a(P:Program)(N:Nat)(l:List Oper)(C:World→Prop)(V:G3c)(K:Env→World→Prop)(lo:Nat)(R:List Nat)(i:Nat)(o:Oper)(d:Nat)(e:Env)(gs:List Nat)(Φ:World→Prop)(w:World):Prop :=
 (s1a l.toArray e o=true∧∃v w',(execOp (ev e) o).run P w=.ok (.value v) w'∧C w'∧z0a [] w w'∧FL P N l C V K w'.heap.size R (upd e d v) gs (fun w1=>Φ w1∧z0a [] w' w1)) ∨
 (s1a l.toArray e o=false∧FL P N l C V K lo R (upd e d undef) gs Φ) ∨
 (s1a l.toArray e o=true∧∃f args Qp Qw,V i=some (f,args,Qp,Qw)∧(execOp (ev e) o).run P w=.ok (.enter f args) w∧∀u w',Qp u→Qw u w'→C w'→z0a [] w w'→FL P N l C V K w'.heap.size R (upd e d u) gs (fun w1=>(Φ w1∧Qw u w1)∧z0a [] w' w1))
theorem FL.first(c0:X3a l=true)(Q0:∀i f args Qp Qw,V i=some (f,args,Qp,Qw)→∃u,Qp u){i:Nat}{i0:List Nat}{lo:Nat}{w:World}(hC:C w)(S0:lo≤w.heap.size):∀(pre:List Nat) (e:Env) (gs:List Nat) (Φ:World→Prop),(∀j∈pre,g0b l (fun _=>true) j i=true) →
 (∀o,l[i]?=some o→∀g∈gs,szE P l o e w≤g)→FL P N l C V K lo (pre++i::i0) e gs Φ →
 ∃o d,l[i]?=some o∧o.dst=some d∧d<N∧Z3a P N l C V K lo (pre++i0) i o d e gs Φ w:=by
 intro pre
 induction pre with
 | nil =>
   intro e gs Φ _ B0 h;obtain⟨o,d,ho,hd,hN,h⟩:=h;refine⟨o,d,ho,hd,hN,?_⟩;rcases h with⟨v,⟨h1,h2⟩|⟨h1,rfl⟩,h3⟩|⟨mk,t,cs,h1,h2,h3⟩|⟨f,args,Qp,Qw,h1,h2,h3,h4⟩
   rotate_right
   ·exact .inr (.inr ⟨h2,f,args,Qp,Qw,h1,h3 w hC,fun u w' hu _ _ hk=>FL.mono _ _ gs gs _ _ (fun g hg hn=>⟨by have:=hk.size;omega,hn⟩) (fun _ hw=>hw.1) (h4 u hu)⟩)
   ·exact .inl ⟨h1,v,w,h2 w hC,hC,z0a.refl _ _,FL.mono _ _ gs gs Φ _ (fun g hg hn=>⟨by omega,hn⟩) (fun _ hw=>hw.1) h3⟩
   ·exact .inr (.inl ⟨h1,h3⟩)
   ·obtain⟨w',h4,h5,h6,h7,h8⟩:=h2 w hC;refine .inl ⟨h1,_,w',h4,h5,h6,?_⟩;have hs:=B0 o ho;unfold szE at hs;rw[h1,h4] at hs;refine FL.mono _ _ (w.heap.size::gs) gs _ _ (fun g hg hn=>?_) (fun w1 hw=>⟨hw.1,E1a hw.2 h8⟩) (h3 w.heap.size S0 (fun hm=>by have:w'.heap.size≤w.heap.size:=hs _ hm;omega));simp only[List.mem_cons,not_or];exact⟨by omega,by omega,hn⟩
 | cons q pre ih =>
   intro e gs Φ A0 B0 h;obtain⟨p,c,hp,hc,t0,h⟩:=h;have hq:=A0 q (by simp);have o0:∀j∈pre,g0b l (fun _=>true) j i=true:=fun j hj=>A0 j (by simp[hj]);have a0:∀{o:Oper} {d:Nat} (u:Value),l[i]?=some o→o.dst=some d→(∀s∈Oper.looksAt l.toArray o,upd e c u s=e s)∧c≠d∧d∉Oper.looksAt l.toArray p:=fun {o d} u ho hd=>by
    obtain⟨_,j0,p0,R0⟩:=i9a hq hp ho hc hd;exact⟨fun s hs=>I1a R0 hs,j0,p0⟩
   rcases h with⟨u,hu,h⟩|⟨mk,t,cs,h1,h2,h3⟩|⟨f,args,Qp,Qw,hV,W0,hu,h⟩
   rotate_right
   ·obtain⟨u0,V0⟩:=Q0 _ _ _ _ _ hV;have key:∀u,Qp u→∃o d,l[i]?=some o∧o.dst=some d∧d<N∧Z3a P N l C V K lo (pre++i0) i o d (upd e c u) gs (fun w=>Φ w∧Qw u w) w:=fun u hu=>ih (upd e c u) gs _ o0 (fun o ho g hg=>by
     cases hd:o.dst with
     | none =>
       exfalso;unfold g0b at hq;simp[hp,ho,hc,hd] at hq
     | some d=>rw[t1b (C0a c0 ho).1 (a0 u ho hd).1];exact B0 o ho g hg) (h u hu)
    obtain⟨o,d,ho,hd,hN,s0⟩:=key u0 V0;have f0:∀u,Qp u→Z3a P N l C V K lo (pre++i0) i o d (upd e c u) gs (fun w=>Φ w∧Qw u w) w:=fun u hu=>by
     obtain⟨o',d',m0,F0,_,hF⟩:=key u hu;obtain rfl:o'=o:=Option.some.inj (m0.symm.trans ho);obtain rfl:d'=d:=Option.some.inj (F0.symm.trans hd);exact hF
    have j0:=(a0 .nilFunc ho hd).2.1;have p0:=(a0 .nilFunc ho hd).2.2;have ha:∀u,∀s∈Oper.looksAt l.toArray o,upd e c u s=e s:=fun u=>(a0 u ho hd).1;refine⟨o,d,ho,hd,hN,?_⟩;have q0:∀v,∀s∈Oper.looksAt l.toArray p,upd e d v s=e s:=fun v s hs=>I1a p0 hs;unfold Z3a at s0 ⊢;rw[e1a (ha _),G1a (C0a c0 ho).1 (ha _)] at s0;have n0:∀v,∀J0 Φ',(∀u,Qp u→FL P N l C V K J0 (pre++i0) (upd (upd e d v) c u) gs (fun w=>Φ' w∧Qw u w))→FL P N l C V K J0 (q::(pre++i0)) (upd e d v) gs Φ':=fun v J0 Φ' h9 =>
     ⟨p,c,hp,hc,t0,.inr (.inr ⟨f,args,Qp,Qw,hV,by rw[e1a (q0 v)];exact W0,by rw[G1a (C0a c0 hp).1 (q0 v)];exact hu,h9⟩)⟩
    rcases s0 with⟨hw,v,w',h4,h5,h6,-⟩|⟨hw,-⟩|⟨hw,f',r0,L0,N0,y0,h4,-⟩
    ·refine .inl ⟨hw,v,w',h4,h5,h6,n0 v _ _ fun u hu=>?_⟩;have hF:=f0 u hu;unfold Z3a at hF;rw[e1a (ha _),G1a (C0a c0 ho).1 (ha _)] at hF;rcases hF with⟨_,v',K0,d0,_,_,h7⟩|⟨b0,_⟩|⟨_,_,_,_,_,_,d0,_⟩
     ·rw[h4] at d0;cases d0;rw[←Q2a _ _ _ j0];exact FL.mono _ _ gs gs _ _ (fun x hx hn=>⟨hx,hn⟩) (fun w1 e0=>⟨⟨e0.1.1,e0.2⟩,e0.1.2⟩) h7
     ·rw[hw] at b0;cases b0
     ·rw[h4] at d0;cases d0
    ·refine .inr (.inl ⟨hw,n0 _ _ _ fun u hu=>?_⟩);have hF:=f0 u hu;unfold Z3a at hF;rw[e1a (ha _),G1a (C0a c0 ho).1 (ha _)] at hF;rcases hF with⟨b0,_⟩|⟨_,h7⟩|⟨b0,_⟩
     ·rw[hw] at b0;cases b0
     ·rw[←Q2a _ _ _ j0];exact h7
     ·rw[hw] at b0;cases b0
    ·refine .inr (.inr ⟨hw,f',r0,L0,N0,y0,h4,fun u' w' U0 T0 x0 v0=>n0 u' _ _ fun u hu=>?_⟩);have hF:=f0 u hu;unfold Z3a at hF;rw[e1a (ha _),G1a (C0a c0 ho).1 (ha _)] at hF;rcases hF with⟨_,v',K0,d0,_⟩|⟨b0,_⟩|⟨_,X0,D0,O0,P0,z0,_,h7⟩
     ·rw[h4] at d0;cases d0
     ·rw[hw] at b0;cases b0
     ·rw[y0] at z0;cases z0;rw[←Q2a _ _ _ j0];exact FL.mono _ _ gs gs _ _ (fun x hx hn=>⟨hx,hn⟩) (fun w1 e0=>⟨⟨⟨e0.1.1.1,e0.2⟩,e0.1.1.2⟩,e0.1.2⟩) (h7 u' w' U0 T0 x0 v0)
   ·obtain⟨o,d,ho,hd,hN,hF⟩:=ih (upd e c u) gs Φ o0 (fun o ho g hg=>by
     cases hd:o.dst with
     | none =>
       exfalso;unfold g0b at hq;simp[hp,ho,hc,hd] at hq
     | some d=>rw[t1b (C0a c0 ho).1 (a0 u ho hd).1];exact B0 o ho g hg) h
    obtain⟨ha,j0,p0⟩:=a0 u ho hd;refine⟨o,d,ho,hd,hN,?_⟩;unfold Z3a at hF ⊢;rw[e1a ha,G1a (C0a c0 ho).1 ha] at hF;rcases hF with⟨hw,v,w',h4,h5,h6,h7⟩|⟨hw,h7⟩|⟨hw,f,args,Qp,Qw,hV,h4,h7⟩
    rotate_right
    ·refine .inr (.inr ⟨hw,f,args,Qp,Qw,hV,h4,fun x w' hx I0 x0 v0=>⟨p,c,hp,hc,t0,.inl ⟨u,hu.congr (C0a c0 hp).1 (fun s hs=>(I1a p0 hs).symm),?_⟩⟩⟩);rw[←Q2a _ _ _ j0];exact h7 x w' hx I0 x0 v0
    ·refine .inl ⟨hw,v,w',h4,h5,h6,p,c,hp,hc,t0,.inl ⟨u,hu.congr (C0a c0 hp).1 (fun s hs=>(I1a p0 hs).symm),?_⟩⟩;rw[←Q2a _ _ _ j0];exact h7
    ·refine .inr (.inl ⟨hw,p,c,hp,hc,t0,.inl ⟨u,hu.congr (C0a c0 hp).1 (fun s hs=>(I1a p0 hs).symm),?_⟩⟩);rw[←Q2a _ _ _ j0];exact h7
   ·have key:∀g,lo≤g→g∉gs→(∀o,l[i]?=some o→szE P l o e w≤g)→∃o d,l[i]?=some o∧o.dst=some d∧d<N∧Z3a P N l C V K lo (pre++i0) i o d (upd e c (mk g)) (g::gs) (fun w=>Φ w∧E0a w (g,t,cs)) w:=fun g hg hn hs=>by
     refine ih (upd e c (mk g)) (g::gs) _ o0 (fun o ho x hx=>?_) (h3 g hg hn);cases hd:o.dst with
     | none =>
       exfalso;unfold g0b at hq;simp[hp,ho,hc,hd] at hq
     | some d =>
       rw[t1b (C0a c0 ho).1 (a0 (mk g) ho hd).1];rcases List.mem_cons.1 hx with rfl|hx
       ·exact hs o ho
       ·exact B0 o ho x hx
    have h4:∃o d,l[i]?=some o∧o.dst=some d∧d<N:=by
     cases ho:l[i]? with
     | none=>unfold g0b at hq;simp[ho] at hq
     | some o =>
       obtain⟨g0,G0,E0,H0⟩:=d5b lo (szE P l o e w) gs;obtain⟨o',d,m0,hd,hN,_⟩:=key g0 G0 H0 (fun o' m0=>by rw[ho] at m0;cases m0;exact E0);rw[ho] at m0;cases m0;exact⟨o,d,Z,hd,hN⟩
    obtain⟨o,d,ho,hd,hN⟩:=h4;have f0:∀g,lo≤g→g∉gs→szE P l o e w≤g→Z3a P N l C V K lo (pre++i0) i o d (upd e c (mk g)) (g::gs) (fun w=>Φ w∧E0a w (g,t,cs)) w:=fun g hg hn hs=>by
     obtain⟨o',d',m0,F0,_,hF⟩:=key g hg hn (fun o' m0=>by rw[ho] at m0;cases m0;exact hs);obtain rfl:o'=o:=Option.some.inj (m0.symm.trans ho);obtain rfl:d'=d:=Option.some.inj (F0.symm.trans hd);exact hF
    refine⟨o,d,ho,hd,hN,?_⟩;obtain⟨g0,G0,E0,H0⟩:=d5b lo (szE P l o e w) gs;have j0:=(a0 .nilFunc ho hd).2.1;have p0:=(a0 .nilFunc ho hd).2.2;have ha:∀u,∀s∈Oper.looksAt l.toArray o,upd e c u s=e s:=fun u=>(a0 u ho hd).1;have q0:∀v,∀s∈Oper.looksAt l.toArray p,upd e d v s=e s:=fun v s hs=>I1a p0 hs;have s0:=f0 g0 G0 H0 E0;unfold Z3a at s0 ⊢;rw[e1a (ha _),G1a (C0a c0 ho).1 (ha _)] at s0;rcases s0 with⟨hw,v,w',h4,h5,h6,-⟩|⟨hw,-⟩|⟨hw,f,args,Qp,Qw,hV,h4,-⟩
    rotate_right
    ·have C0:szE P l o e w=w.heap.size:=by unfold szE;rw[hw,h4];rfl
     refine .inr (.inr ⟨hw,f,args,Qp,Qw,hV,h4,fun x w' hx I0 x0 v0=>⟨p,c,hp,hc,t0,.inr (.inl ⟨mk,t,cs,by rw[e1a (q0 x)];exact h1,by rw[G1a (C0a c0 hp).1 (q0 x)];exact h2,fun g hg hn=>?_⟩)⟩⟩);have Y0:=v0.size;have hF:=f0 g (by omega) hn (by omega);unfold Z3a at hF;rw[e1a (ha _),G1a (C0a c0 ho).1 (ha _)] at hF;rcases hF with⟨_,v',K0,d0,_⟩|⟨b0,_⟩|⟨_,f',r0,L0,N0,y0,_,h7⟩
     ·rw[h4] at d0;cases d0
     ·rw[hw] at b0;cases b0
     ·rw[hV] at y0;cases y0;rw[←Q2a _ _ _ j0];exact FL.mono _ _ (g::gs) (g::gs) _ _ (fun x hx hn=>⟨hx,hn⟩) (fun w1 e0=>⟨⟨⟨e0.1.1.1,e0.2⟩,e0.1.1.2⟩,e0.1.2⟩) (h7 x w' hx I0 x0 v0)
    ·have C0:szE P l o e w=w'.heap.size:=by unfold szE;rw[hw,h4];rfl
     refine .inl ⟨hw,v,w',h4,h5,h6,p,c,hp,hc,t0,.inr (.inl ⟨mk,t,cs,by rw[e1a (q0 v)];exact h1,by rw[G1a (C0a c0 hp).1 (q0 v)];exact h2,fun g hg hn=>?_⟩)⟩;have hF:=f0 g (by have:=h6.size;omega) hn (by omega);unfold Z3a at hF;rw[e1a (ha _),G1a (C0a c0 ho).1 (ha _)] at hF;rcases hF with⟨_,v',K0,d0,_,_,h7⟩|⟨b0,_⟩|⟨_,_,_,_,_,_,d0,_⟩
     rotate_right
     ·rw[h4] at d0;cases d0
     ·rw[h4] at d0;cases d0;rw[←Q2a _ _ _ j0];exact FL.mono _ _ (g::gs) (g::gs) _ _ (fun x hx hn=>⟨hx,hn⟩) (fun w1 e0=>⟨⟨e0.1.1,e0.2⟩,e0.1.2⟩) h7
     ·rw[hw] at b0;cases b0
    ·refine .inr (.inl ⟨hw,p,c,hp,hc,t0,.inr (.inl ⟨mk,t,cs,by rw[e1a (q0 _)];exact h1,by rw[G1a (C0a c0 hp).1 (q0 _)];exact h2,fun g hg hn=>?_⟩)⟩);have C0:szE P l o e w=0:=by unfold szE;rw[hw];rfl
     have hF:=f0 g hg hn (by omega);unfold Z3a at hF;rw[e1a (ha _),G1a (C0a c0 ho).1 (ha _)] at hF;rcases hF with⟨b0,_⟩|⟨_,h7⟩|⟨b0,_⟩
     rotate_right
     ·rw[hw] at b0;cases b0
     ·rw[hw] at b0;cases b0
     ·rw[←Q2a _ _ _ j0];exact h7
theorem I7b{id:Nat}{n t:List Deferred→Env→World→Prop}{b:Nat→List Deferred→Env→World→Prop}{e:Env}{w:World}(hm:P.follows .mixedOrders=true)(ix:List Nat)
 (m:Nat) (C:World→Prop) (hC:C w.drew) (V:G3c) (hV:∀i f args Qp Qw,V i=some (f,args,Qp,Qw)→(∃u,Qp u)∧(∀u w w',z0a [] w w'→Qw u w→Qw u w')∧∀w,C w→N0a P f args w fun u w'=>(Qp u∧Qw u w')∧C w'∧z0a [] w w') (ol:Oper) (E0:l[m]?=some ol)
 (h:FL P N l C V (fun e w=>WL P r N l.toArray [ol] (fun D' e' w'=>D'=D∧n D e' w') D e w) w.heap.size ix e [] (fun _=>True)) (hok:V5b l (fun _=>true) m=true:=by kernel_rfl) (hix:(List.range m==ix)=true:=by kernel_rfl):W P r N (.region id l.toArray true) ⟨n,b,t⟩ D e w:=by
 obtain rfl:List.range m=ix:=eq_of_beq hix;generalize s0:(fun(e:Env) (w:World)=>WL P r N l.toArray [ol] (fun D' e' w'=>D'=D∧n D e' w') D e w)=K' at h;unfold V5b at hok;simp only[Bool.and_eq_true,decide_eq_true_eq] at hok;obtain⟨⟨⟨⟨p0,z0⟩,C0⟩,f0⟩,_⟩:=hok;have x0:∀j,j<m→j∈y4a l m:=fun j hj=>by
  have:=List.all_eq_true.1 f0 j (List.mem_range.2 hj);simpa using this
 refine m6b hm z0 (fun f e w=>(∀i,f i=true→∀j∈q1a l i,f j=true)∧((f m=false∧C w∧∃lo Φ,lo≤w.heap.size∧(∀w w',Φ w→z0a [] w w'→Φ w')∧Φ w∧FL P N l C V K' lo (M8a m f) e [] Φ)∨(f m=true∧n D e w))) ⟨by simp,.inl ⟨Z,hC,w.heap.size,fun _=>True,Nat.le_refl _,fun _ _ _ _=>trivial,trivial,?_⟩⟩ ?_ ?_
 ·have:M8a m (fun _=>false)=List.range m:=by unfold M8a;simp
  rw[this];exact h
 ·rintro f e w i o ⟨e0,hM⟩ ho o0 q0;have A0:i<l.length:=(List.getElem?_eq_some_iff.1 ho).1;have a0:∀k,(f k||k==i)=true→∀j∈q1a l k,(f j||j==i)=true:=by
   intro k hk j hj;simp only[Bool.or_eq_true,beq_iff_eq] at hk ⊢;rcases hk with hk|rfl
   ·exact .inl (e0 k hk j hj)
   ·exact .inl (q0 j hj)
  rcases hM with⟨c0,m0,lo,Φ,v0,g0,hΦ,hM⟩|⟨c0,-⟩
  rotate_left
  ·have:=i3a e0 l.length (q1a l m) (e0 m c0) i (x0 i (by
    rcases Nat.lt_or_ge i m with h|h
    ·exact h
    ·have:i=m:=by omega
     subst this;rw[o0] at c0;cases c0))
   rw[o0] at this;cases this
  by_cases B0:i=m
  ·subst B0;obtain rfl:ol=o:=Option.some.inj (E0.symm.trans ho);have b0:∀j,j<i→f j=true:=fun j hj=>i3a e0 _ _ q0 j (x0 j hj);have r0:M8a i f=[]:=by
    unfold M8a;rw[List.filter_eq_nil_iff];intro j hj;simp[b0 j (List.mem_range.1 hj)]
   rw[r0] at hM;have h4:=hM w m0 hΦ;rw[←s0] at h4;clear hM h s0;unfold WL at *;refine fun a Q hs hD he hK=>h4 a Q hs hD he (fun a' w' F0 hh=>hK a' w' F0 ?_);exact⟨hh.1,a0,.inr ⟨by simp,hh.2⟩⟩
  have u0:i<m:=by omega
  have d0:(f m||m==i)=false:=by simp[c0];omega
  obtain⟨pre,_,h1,h2,h3⟩:=Y0b (m:=m) f u0 o0;rw[h1] at hM;have G0:∀j∈y4a l i,f j=true:=i3a e0 _ _ q0;obtain⟨o',_,D0,hd,hN,h4⟩:=FL.first p0 (fun i f args Qp Qw h=>(hV i f args Qp Qw h).1) m0 v0 pre e [] Φ (fun j hj=>by
   have:=List.all_eq_true.1 (List.all_eq_true.1 C0 i (List.mem_range.2 u0)) j (List.mem_range.2 (h3 j hj).1);simp only[Bool.or_eq_true,List.contains_eq_mem,decide_eq_true_eq] at this;rcases this with h|h
   ·have:=G0 j h;rw[(h3 j hj).2] at this;cases this
   ·exact h) (by simp) hM
  obtain rfl:o'=o:=Option.some.inj (D0.symm.trans ho);rcases h4 with⟨hw,v,w',hv,j0,n0,h4⟩|⟨hw,h4⟩|⟨hw,f',args,Qp,Qw,t0,hv,h4⟩
  rotate_right
  ·unfold WL;intro a Q hs hD he hK;simp only[wpListIn];have i0:Region.wanted o' (yielded l.toArray a.tmps)=true:=by rw[t1a,he];exact hw
   simp only[i0,if_true];refine⟨F0a _ _ _,?_⟩;rw[Oper.semAt_eq _ _ _ (C0a p0 ho).2,s2a,he,hv,Oper.uponIn_enter];refine⟨fun hh=>by simp[fc,Fence.wide] at hh,b5a (Calls.mono ((hV _ _ _ _ _ t0).2.2 w m0) ?_)⟩;rintro en w' ⟨u,rfl,⟨hu,y0⟩,j0,n0⟩;rw[hd];refine hK _ _ (by simp[Act.put,hs]) ⟨by simp[Act.put,hD],?_⟩;rw[m1a u (by rw[hs];exact hN),he];exact⟨a0,.inl ⟨d0,j0,w'.heap.size,(fun w1=>(Φ w1∧Qw u w1)∧z0a [] w' w1),Nat.le_refl _,fun w1 w2 h5 h6=>⟨⟨g0 _ _ h5.1.1 h6,(hV _ _ _ _ _ t0).2.1 u _ _ h6 h5.1.2⟩,h5.2.trans h6⟩,⟨⟨g0 _ _ hΦ n0,y0⟩,z0a.refl _ _⟩,by rw[h2];exact h4 u w' hu y0 j0 n0⟩⟩
  ·unfold WL;intro a Q hs hD he hK;simp only[wpListIn];have i0:Region.wanted o' (yielded l.toArray a.tmps)=true:=by rw[t1a,he];exact hw
   simp only[i0,if_true];refine⟨F0a _ _ _,?_⟩;rw[Oper.semAt_eq _ _ _ (C0a p0 ho).2,s2a,he,hv,Oper.uponIn_value];refine hK _ _ (by simp[Act.put,hd,hs]) ⟨by simp[Act.put,hd,hD],?_⟩;rw[hd,m1a v (by rw[hs];exact hN),he];exact⟨a0,.inl ⟨d0,j0,w'.heap.size,(fun w1=>Φ w1∧z0a [] w' w1),Nat.le_refl _,fun w1 w2 h5 h6=>⟨g0 _ _ h5.1 h6,h5.2.trans h6⟩,⟨g0 _ _ hΦ n0,z0a.refl _ _⟩,by rw[h2];exact h4⟩⟩
  ·unfold WL;intro a Q hs hD he hK;simp only[wpListIn];have i0:Region.wanted o' (yielded l.toArray a.tmps)=false:=by rw[t1a,he];exact hw
   simp only[i0];refine⟨F0a _ _ _,?_⟩;refine hK _ _ (by simp[Act.put,hd,hs]) ⟨by simp[Act.put,hd,hD],?_⟩;rw[hd,m1a undef (by rw[hs];exact hN),he];exact⟨a0,.inl ⟨d0,m0,lo,Φ,v0,g0,hΦ,by rw[h2];exact h4⟩⟩
 ·rintro f e w ⟨e0,hM⟩ b0;rcases hM with⟨c0,-⟩|⟨-,hM⟩
  ·have:=b0 m (by omega);rw[c0] at this;cases this
  ·exact hM
theorem q6c{id:Nat}{n t:List Deferred→Env→World→Prop}{b:Nat→List Deferred→Env→World→Prop}{e:Env}{w:World}(hm:P.follows .mixedOrders=true)(ix:List Nat)
 (m:Nat) (C:World→Prop) (hC:C w.drew) (ol:Oper) (a0:l[m]?=some ol)
 (h:FL P N l C (fun _=>none) (fun e w=>WL P r N l.toArray [ol] (fun D' e' w'=>D'=D∧n D e' w') D e w) w.heap.size ix e [] (fun _=>True)) (hok:V5b l (fun _=>true) m=true:=by kernel_rfl) (hix:(List.range m==ix)=true:=by kernel_rfl):W P r N (.region id l.toArray true) ⟨n,b,t⟩ D e w :=
 I7b (hok:=hok) (hix:=hix) hm ix m C hC (fun _=>none) (fun _ _ _ _ _ h=>by cases h) ol a0 h
variable {lo:Nat} {gs:List Nat} {Φ:World→Prop} {e:Env} {w w0:World} {L:List Ent} {M:List Nat}
theorem G8b(h:∀w,C w→Φ w→K e w):FL P N l C V K lo [] e gs Φ:=h
theorem J6a{i:Nat}{rest:List Nat}{o:Oper}(ho:l[i]?=some o)(hv:V0c o.op=true)(h:QL P N l.toArray C [o] (fun e'=>FL P N l C V K lo rest e' gs Φ) e):FL P N l C V K lo (i::rest) e gs Φ:=by
 unfold QL at h;obtain⟨pa,hl,hq,hk⟩:=h;obtain⟨d,v,h1,h2,h3,h4⟩:=hq 0 o Z;obtain rfl:pa=[(d,v)]:=by
  match pa,hl,h1 with
  | [x],_,h1=>simpa using h1
 refine⟨o,d,ho,h2,h3,.inl ⟨v,?_,hk⟩⟩;rcases h4 with⟨h5,h6⟩|h5
 ·refine .inl ⟨h5,fun w hw=>?_⟩;rcases h6 w hw with h7|⟨f,args,h7,_⟩
  ·exact h7
  ·obtain⟨_,hv'⟩:=e6a hv h7;cases hv'
 ·exact .inr h5
theorem J2b{i d:Nat}{rest:List Nat}{x:Operand}{ty size n c:Nat}{t:TypeId}{p:String}{af:Array Edge}{A:Option Addr}(ho:l[i]?=some ⟨some d,.call { callee:=.builtin .len,args:=#[x],argTypes:=#[ty] },t,p,af,none⟩)(hT:SlT P ty size)(hx:ev e x=.slice A n c)(hd:Nat.ble (d+1) N=true)
 (h:FL P N l C V K lo rest (upd e d (.int .i64 n)) gs Φ):FL P N l C V K lo (i::rest) e gs Φ:=by
 obtain⟨_,hu,_⟩:=hT;exact⟨_,d,ho,Z,Nat.le_of_ble_eq_true hd,.inl ⟨_,.inl ⟨Z,fun w _=>by simp[execOp,resolve,invoke,builtin,Builtin.len_,hx,run_underlying hu,goInt]⟩,h⟩⟩
theorem F0c{i d t:Nat}{rest:List Nat}{o:Oper}{mk:Nat→Value}{cs:List Value}(ho:l[i]?=some o)(hd:o.dst=some d)(hN:Nat.ble (d+1) N=true)(hw:s1a l.toArray e o=true)
 (a0:∀w1,Cl M w0 w L w1→(execOp (ev e) o).run P w1=.ok (.value (mk w1.heap.size)) (w1.alloc (.cells cs.toArray t (0,0))))
 (h:∀g,lo≤g→g∉gs→FL P N l (Cl M w0 w L) V K lo rest (upd e d (mk g)) (g::gs) (fun w=>Φ w∧E0a w (g,t,cs))):FL P N l (Cl M w0 w L) V K lo (i::rest) e gs Φ :=
 ⟨o,d,ho,hd,Nat.le_of_ble_eq_true hN,.inr (.inl ⟨mk,t,cs,hw,fun w1 hC=>⟨_,a0 w1 hC,Cl.alloc _ _ hC,X2a _ _ _,by simp,by unfold E0a;show(w1.heap.push _)[w1.heap.size]?=_;simp⟩,h⟩)⟩
theorem Q7b{i d el:Nat}{t:TypeId}{p:String}{af:Array Edge}{gd:Option (Nat×Bool)}{z:Value}{cs:List Value}{rest:List Nat}
 (ho:l[i]?=some ⟨some d,.alloc el,t,p,af,gd⟩) (hN:Nat.ble (d+1) N=true) (hw:s1a l.toArray e ⟨some d,.alloc el,t,p,af,gd⟩=true) (hz:∀w,(zeroValue el).run P w=.ok z w) (a0:z.cells.toList=cs)
 (h:∀g,lo≤g→g∉gs→FL P N l (Cl M w0 w L) V K lo rest (upd e d (.pointer (some ⟨g,0,none⟩))) (g::gs) (fun w=>Φ w∧E0a w (g,el,cs))):FL P N l (Cl M w0 w L) V K lo (i::rest) e gs Φ:=by
 refine F0c (mk:=fun g=>.pointer (some ⟨g,0,none⟩)) ho Z hN hw (fun w1 _=>?_) h;subst a0;simp[execOp,Instr.alloc,newVar,newRow,hz]
theorem I8a{i d:Nat}{rest:List Nat}{t:TypeId}{p:String}{af:Array Edge}{args:Array Operand}{at_:Array TypeId}{g:Operand}{caps:Array Value}{f:FuncId}{vs:List Value}{Qp:Value→Prop}{Qw:Value→World→Prop}(hH:Has P f)
 (ho:l[i]?=some ⟨some d,.call { callee:=.value g,args:=args,argTypes:=at_ },t,p,af,none⟩) (hN:Nat.ble (d+1) N=true)
 (hw:s1a l.toArray e ⟨some d,.call { callee:=.value g,args:=args,argTypes:=at_ },t,p,af,none⟩=true) (hg:ev e g=.func (.func f) #[] caps) (a0:args.toList.map (ev e)++caps.toList=vs) (hV:V i=some (f,vs.toArray,Qp,Qw))
 (h:∀u,Qp u→FL P N l C V K lo rest (upd e d u) gs (fun w=>Φ w∧Qw u w)):FL P N l C V K lo (i::rest) e gs Φ:=by
 refine⟨_,d,ho,Z,Nat.le_of_ble_eq_true hN,.inr (.inr ⟨f,vs.toArray,Qp,Qw,hV,hw,fun w1 _=>?_,h⟩)⟩;subst a0;have:(args.map (ev e)++caps)=(args.toList.map (ev e)++caps.toList).toArray:=by apply Array.ext';simp
 simp[execOp,resolve,Deferred.ofValue,invoke,hg,hH _ w1,this]
def eqQ(v:Value):Value→Prop:=fun u=>u=v
def noQ:Value→World→Prop:=fun _ _=>True
theorem k4b{i d:Nat}{rest:List Nat}{t:TypeId}{p:String}{af:Array Edge}{args:Array Operand}{at_:Array TypeId}{f:FuncId}{vs:List Value}{v:Value}(hH:Has P f)
 (ho:l[i]?=some ⟨some d,.call { callee:=.value (.func f),args:=args,argTypes:=at_ },t,p,af,none⟩) (hN:Nat.ble (d+1) N=true)
 (hw:s1a l.toArray e ⟨some d,.call { callee:=.value (.func f),args:=args,argTypes:=at_ },t,p,af,none⟩=true) (a0:args.toList.map (ev e)=vs) (hV:V i=some (f,vs.toArray,eqQ v,noQ))
 (h:FL P N l C V K lo rest (upd e d v) gs Φ):FL P N l C V K lo (i::rest) e gs Φ :=
 I8a (caps:=#[]) hH ho hN hw Z (by simpa using a0) hV fun u hu=>by
  cases hu;exact FL.mono _ _ gs gs _ _ (fun x hx hn=>⟨hx,hn⟩) (fun w1 b0=>b0.1) h
theorem n3a{i d ty el size b0 n:Nat}{t:TypeId}{p:String}{af:Array Edge}{gd:Option (Nat×Bool)}{z:Value}{a0:Array (Nat×Operand)}{vs:List Value}{cs:List Value}{rest:List Nat}
 (ho:l[i]?=some ⟨some d,.buildSlice ty n a0,t,p,af,gd⟩) (hN:Nat.ble (d+1) N=true) (hw:s1a l.toArray e ⟨some d,.buildSlice ty n a0,t,p,af,gd⟩=true) (hS:SlZ P ty el size z b0)
 (hn:vs.length=n) (h0:Nat.ble 1 n=true) (c0:Nat.ble (n*size) 16777216=true) (hv:vs.map (·.cells.size)=List.replicate n size)
 (e0:vs.flatMap (·.cells.toList)=cs)
 (h:∀g,lo≤g→g∉gs→FL P N l (Cl M w0 w L) V K lo rest (upd e d (.slice (some ⟨g,0,none⟩) n n)) (g::gs) (fun w=>Φ w∧E0a w (g,el,cs))) (f0:a0.toList.map (fun q=>(q.1,ev e q.2))=(vs.zipIdx 0).map fun q=>(q.2,q.1):=by rfl):FL P N l (Cl M w0 w L) V K lo (i::rest) e gs Φ:=by
 have hp:(a0.map fun(i,x)=>(i,ev e x))=((vs.zipIdx 0).map fun q=>(q.2,q.1)).toArray:=by rw[←f0];apply Array.ext';simp
 have hv':∀v∈vs,v.cells.size=size:=fun v hm=>by
  have:v.cells.size∈vs.map (·.cells.size):=List.mem_map.2 ⟨v,hm,Z⟩;rw[hv] at this;exact(List.mem_replicate.1 this).2
 refine F0c (mk:=fun g=>.slice (some ⟨g,0,none⟩) n n) (t:=el) (cs:=cs) ho Z hN hw (fun w1 _=>?_) h;have d0:=K5a hS hn (Nat.le_of_ble_eq_true h0) (Nat.le_of_ble_eq_true c0) hv' w1;subst e0;simp only[execOp,hp,Sem.run_bind,d0,Result.andThen_ok,Sem.run_pure]
theorem I9a{i d:Nat}{t:TypeId}{p:String}{af:Array Edge}{gd:Option (Nat×Bool)}{x y:Operand}{rest:List Nat}
 {ty el a0 n c:Nat} {z:Value} {kl kc:IntKind} (ho:l[i]?=some ⟨some d,.makeSlice ty x y,t,p,af,gd⟩) (hN:Nat.ble (d+1) N=true) (hw:s1a l.toArray e ⟨some d,.makeSlice ty x y,t,p,af,gd⟩=true)
 (hS:SlZ P ty el 1 z a0) (hx:ev e x=.int kl (n:Int)) (hy:ev e y=.int kc (c:Int))
 (d0:z.cells=#[z])
 (h:∀g,lo≤g→g∉gs→FL P N l (Cl M w0 w L) V K lo rest (upd e d (.slice (some ⟨g,0,none⟩) n c)) (g::gs) (fun w=>Φ w∧E0a w (g,el,List.replicate c z))) (e0:n≤c:=by omega) (hb:a0*c≤140737488355328:=by omega) (hc:c≤140737488355328:=by omega):FL P N l (Cl M w0 w L) V K lo (i::rest) e gs Φ:=by
 obtain⟨ii,hi,hz,c0,hby⟩:=hS.parts;have b0:(ii.bytes:Int)*(c:Int)≤281474976710656:=by
  have:((a0*c:Nat):Int)≤281474976710656:=by omega
  rw[hby];rwa [Int.natCast_mul] at this
 refine F0c (mk:=fun g=>.slice (some ⟨g,0,none⟩) n c) (t:=el) (cs:=List.replicate c z) ho Z hN hw (fun w1 _=>?_) h;have hr:=run_make (P:=P) w1 ty el ii z hS.und hi hz kl kc n c (by omega) (by omega) b0 (by omega);have hm:madeCells z.cells (c*ii.size)=(List.replicate c z).toArray:=by
  rw[d0,c0,Nat.mul_one];apply Array.ext
  ·simp[madeCells]
  ·intro j h1 h2;simp[madeCells,Nat.mod_one]
 simp only[Int.toNat_natCast,hm] at hr;simp only[execOp,hx,hy,Sem.run_bind,hr,Result.andThen_ok,Sem.run_pure]
end
section
variable {α:Type}
def d3a(l:List α)(z:α)(k:Nat):List α:=l.take k++List.replicate (l.length-k) z
theorem A6a(l:List α)(z:α):d3a l z 0=List.replicate l.length z:=by simp[d3a]
theorem H7a(l:List α)(z:α){k:Nat}(h:l.length≤k):d3a l z k=l:=by
 unfold d3a;rw[List.take_of_length_le h,Nat.sub_eq_zero_of_le h];simp
@[simp] theorem J3c(l:List α)(z:α)(k:Nat):(d3a l z k).length=l.length:=by
 unfold d3a;simp;omega
theorem G7a{l:List α}{z v:α}{k i:Nat}(h:l[k]?=some v)(hi:i=k):(d3a l z k).set i v=d3a l z (k+1):=by
 subst hi;obtain⟨a0,rfl⟩:=List.getElem?_eq_some_iff.1 h;unfold d3a;rw[List.set_append_right _ _ (by simp;omega)];have h1:l.length-i=(l.length-(i+1))+1:=by omega
 rw[h1,List.replicate_succ];simp only[List.length_take,Nat.min_eq_left (Nat.le_of_lt a0),Nat.sub_self,List.set_cons_zero];rw[a1a h,List.append_assoc];rfl
theorem h7b{l:List α}{z:α}{k:Nat}(h:l[k]?=some z):d3a l z k=d3a l z (k+1):=by
 obtain⟨_,_⟩:=List.getElem?_eq_some_iff.1 h;unfold d3a;have h1:l.length-k=(l.length-(k+1))+1:=by omega
 rw[h1,List.replicate_succ,a1a h];simp
end
theorem St.setEnt{M:List Nat}{w0 w:World}{L:List Ent}(S:St M w0 w L)(j:Nat){G:Option Nat}{t:TypeId}{cs a0:List Value}(hj:L[j]?=some (G,t,cs))(h:cs=a0):St M w0 w (L.set j (G,t,a0)):=by
 subst h;have:L.set j (G,t,cs)=L:=by
  obtain⟨_,he⟩:=List.getElem?_eq_some_iff.1 hj;rw[←he];simp
 rw[this];exact S
theorem St.rdInts{M M':List Nat}{w0 w:World}{L:List Ent}(S:St M' w0 w L)(j:Nat){g t n:Nat}{l:List Int}(hj:L[j]?=some (some g,t,l.map (Value.int .i64)))(hg:g∉M)(hn:n=l.length)(a0:n≤140737488355328)(hl:∀x∈l,i64 x):RdI M w (.slice (some ⟨g,0,none⟩) n n) l :=
 S.rd1 hj hg hn a0 fun i x hi=>⟨.int .i64 x,by simp[hi],Z,hl x (List.mem_of_getElem? hi)⟩
theorem a2a{α:Type}{M:List Nat}{w:World}{size:Nat}{R:List Value→α→Prop}:RdS M w size R (.slice none 0 0) []:=⟨none,0,0,Z,Z,Nat.le_refl _,by unfold maxLen;omega,by omega,fun h=>absurd h (by omega)⟩
theorem St.rdBufs{M M':List Nat}{w0 w:World}{L:List Ent}(S:St M' w0 w L)(j:Nat){g t n:Nat}{l:List (List K0a)}(hj:L[j]?=some (some g,t,List.replicate n (.slice none 0 0)))(hg:g∉M)(hn:n=l.length)(a0:n≤140737488355328)(hl:∀b∈l,b=[]):y0d M w (.slice (some ⟨g,0,none⟩) n n) l :=
 S.rd1 hj hg hn a0 fun i x hi=>by
  obtain rfl:=hl x (List.mem_of_getElem? hi);have:=(List.getElem?_eq_some_iff.1 hi).1;exact⟨.slice none 0 0,by rw[List.getElem?_replicate,if_pos (by omega)],_,Z,a2a⟩
@[simp] theorem t3c(p:h0a):(f1a p).mem.length=p.cells.length:=by simp[f1a]
@[simp] theorem x4c(p:h0a):(f1a p).at_.length=p.threads.length:=by simp[f1a]
theorem y3a{p:h0a}(hp:n1a p){m:List Int}(h:b6a p m):∀x∈m,i64 x:=fun x hx=>by
 obtain⟨i,hi,rfl⟩:=List.getElem_of_mem hx;have:=h.vals i _ (List.getElem?_eq_getElem hi);have:=R9a hp i;unfold i64;omega
theorem D6a{p:h0a}(hp:n1a p){c:G0a}(h:J5a p c):∀x∈c.at_,i64 x:=fun x hx=>by
 have:=(N9b hp h).2.1 x hx;unfold i64;omega
theorem k7a(p:h0a)(M:List Nat)(w0:World)(cs:List Value)(hI:InP p M w0 cs):
 N0a prog 139 #[.agg cs.toArray] w0 fun v w'=>v=.bool true∧Below w0.heap.size w0 w':=by
 obtain⟨_,_,_,_,_,_,_,_,_,_,_,_,rfl,_⟩:=hI.rd.open_;have S:=St.refl w0;refine a0a func139 Z ntmps139 Z ?_;refine wO0 Z U (m0a S Z ?_);intro g1 w1 S1 X1 G1;refine lO S1.k [.w 0] Z ⟨⟨Z,by rfl⟩,U⟩ (i0a S1 r1b Z Z (m7a p M _ _ (hI.keep (S1.keep0 M)).rd hI.ok (hI.keep (S1.keep0 M)).msk (hI.keep (S1.keep0 M)).lt) ?_);intro w8 S8 X8;refine lB0 Z U (fun a0=>?_) (fun a0=>by exfalso;omega);exact lT Z U Z ⟨Z,S8.fin⟩
theorem e1b(p:h0a)(c:G0a)(M:List Nat)(w0:World)(cs xs:List Value)(hI:InP p M w0 cs)(hX:D0a M w0 c xs)(hf:J5a p c)(he:∀b∈c.buf,b=[]):
 N0a prog 178 #[.agg cs.toArray,.agg xs.toArray] w0 fun v w'=>v=.bool true∧Below w0.heap.size w0 w':=by
 obtain⟨Ac,nc,cc,Am,nm,cm,Al,nl,cl,At,nt,ct,rfl,hC,_,_,j1,_⟩:=hI.rd.open_;obtain⟨Xm,xm,ym,Xa,xa,ya,Xb,xb,yb,rfl,x0,i1,i0,_,_,j0,_⟩:=hX.open_;have S:=St.refl w0;have f1:=hf.mem.len;have f2:=hf.nat;have f3:=hf.nbuf;refine a0a func178 Z ntmps178 Z ?_;refine wO0 Z U (m0a S Z ?_);intro g2 w2 S2 X2 G2;refine m0a S2 Z ?_;intro g3 w3 S3 X3 G3;refine lB S3.k [.o 0,.o 1] Z ⟨Z,Z,U⟩ (fun V0=>by exfalso;omega) fun V0=>?_;refine lB S3.k [.o 0,.o 1] Z ⟨Z,Z,U⟩ (fun W0=>by exfalso;omega) fun W0=>?_;refine lB S3.k [.o 0,.o 1] Z ⟨Z,Z,U⟩ (fun X0=>by exfalso;omega) fun X0=>?_;refine lC S3.k [.o 0] Z ⟨Z,U⟩ (wL (fun μk D ε w=>D=[]∧∃k:Nat,(k+μk=(c.mem.length))∧St [] w0 w [(some g3,38,[.slice Xm xm ym,.slice Xa xa ya,.slice Xb xb yb]),(some g2,27,[.slice Ac nc cc,.slice Am nm cm,.slice Al nl cl,.slice At nt ct])]∧Sl ε [(2,.pointer (some ⟨g2,0,none⟩)),(3,.pointer (some ⟨g3,0,none⟩)),(36,.slice Xm xm ym),(37,.int .i64 xm),(38,.int .i64 k)]) (μ:=(c.mem.length)) ⟨Z,0,by omega,S3,Z⟩ ?_);rintro μk D ε w ⟨rfl,k,hk,S,eZ⟩;refine wK eZ (wB0 Z U (fun Y0=>?_) fun Y0=>?_)
 ·obtain⟨v,Q0,m1,_,J0,r0,_,_,y0,E0⟩:=RdS.get (x0) (k) (by omega);obtain⟨rfl,_⟩:=id E0;have q1:=hf.mem.vals k v J0;refine lB (S.k.a y0) [.x Q0 m1,.f 0 0] Z ⟨Z,⟨r0,by omega⟩,U⟩ (fun Z0=>by exfalso;omega) fun Z0=>?_;obtain⟨x,R0,n1,_,O0,s0,_,_,z0,F0⟩:=RdS.get (hC) (k) (by omega);obtain⟨rfl,_⟩:=P2a.open_ F0;have q2:=(hI.ok.cells x (d0a O0)).w;rw[s3d O0,W3a] at q1;refine lO (S.k.a z0) [.o 1,.x R0 n1,.f 0 1] Z ⟨Z,⟨s0,by omega⟩,Z,U⟩ ?_;rw[show x.w=((x.w.toNat:Nat):Int) by omega];refine j6c (n:=x.w.toNat) Z Z ?_;refine lB0 Z U (fun a1=>by exfalso;omega) fun a1=>?_;refine lP0 Z ⟨by omega,U⟩ ⟨μk-1,by omega,Z,(k+1),(by omega),S,Z⟩
 refine lC S.k [.o 0] Z ⟨Z,U⟩ (wL (fun μk D ε w=>D=[]∧∃k:Nat,(k+μk=(c.at_.length))∧St [] w0 w [(some g3,38,[.slice Xm xm ym,.slice Xa xa ya,.slice Xb xb yb]),(some g2,27,[.slice Ac nc cc,.slice Am nm cm,.slice Al nl cl,.slice At nt ct])]∧Sl ε [(2,.pointer (some ⟨g2,0,none⟩)),(3,.pointer (some ⟨g3,0,none⟩)),(58,.slice Xa xa ya),(59,.int .i64 xa),(60,.int .i64 k)]) (μ:=(c.at_.length)) ⟨Z,0,by omega,S,Z⟩ ?_);rintro μk D ε w ⟨rfl,k,hk,S,eZ⟩;refine wK eZ (wB0 Z U (fun b1=>?_) fun b1=>?_)
 ·obtain⟨v,S0,o1,_,J0,t0,_,_,A0,G0⟩:=RdS.get (i1) (k) (by omega);obtain⟨rfl,_⟩:=id G0;obtain⟨th,T0,p1,_,I0,u0,_,C0,B0,H0⟩:=RdS.get (j1) (k) (by omega);obtain⟨_,_,_,_,_,_,_,_,_,_,_,_,rfl,_⟩:=R0a.open_ H0;have q1:=hf.atr k v J0 th I0;refine lO ((S.k.a B0).a A0) [.x S0 o1,.f 0 0,.o 1,.x T0 p1,.v 1] Z ⟨⟨Z,C0⟩,⟨u0,by omega⟩,Z,Z,⟨t0,by omega⟩,U⟩ (j0a S p4b Z Z ?_);intro g9 w9 S9 X9 G9;refine e0a (kk:=0) (vs:=[_,_,_,_,_,_,_]) S9 o4b Z Z Z Z Z Z Z ?_;intro P0 a0 N0;dsimp only[n0a,List.set] at a0;refine lB0 Z U (fun c1=>by exfalso;omega) fun c1=>?_;refine lB a0.k [.o 0] Z ⟨Z,U⟩ (fun d1=>by exfalso;omega) fun d1=>?_;refine lB0 Z U (fun g1=>?_) fun g1=>?_
  ·refine lO0 Z U ?_;cases b0:th.asleep
   ·refine s0a i2a Z (by exact(a0.cell 0 Z Z).trans (congrArg (fun b=>some (Value.bool b)) b0)) Z ?_;rw[q1.2.2 (by omega)] at b0;refine lR0 Z U (r0a Z ?_);cases b0
   refine s0a i2a Z (by exact(a0.cell 0 Z Z).trans (congrArg (fun b=>some (Value.bool b)) b0)) Z ?_;rw[q1.2.2 (by omega)] at b0;obtain⟨b,n0,L0,U0,j0,d0,v0,D0,e0,f0⟩:=RdS.get (i0) (k) (by omega);obtain⟨m0,K0,p0,rfl,g0,c0,o0⟩:=R4a.open_ f0;have q2:=he b (d0a j0);subst q2;simp only[List.length_nil] at c0;refine lB (a0.k.a e0) [.o 1,.x n0 L0,.f 0 0] Z ⟨Z,⟨d0,by omega⟩,Z,U⟩ (fun q0=>by exfalso;omega) fun q0=>?_;refine lP0 Z ⟨by omega,U⟩ ⟨μk-1,by omega,Z,(k+1),(by omega),a0.tail,Z⟩
  obtain⟨b,n0,L0,U0,j0,d0,v0,D0,e0,f0⟩:=RdS.get (i0) (k) (by omega);obtain⟨m0,K0,p0,rfl,g0,c0,o0⟩:=R4a.open_ f0;have q2:=he b (d0a j0);subst q2;simp only[List.length_nil] at c0;refine lB (a0.k.a e0) [.o 1,.x n0 L0,.f 0 0] Z ⟨Z,⟨d0,by omega⟩,Z,U⟩ (fun q0=>by exfalso;omega) fun q0=>?_;refine lP0 Z ⟨by omega,U⟩ ⟨μk-1,by omega,Z,(k+1),(by omega),a0.tail,Z⟩
 exact lT Z U Z ⟨Z,S.fin⟩
theorem F4b(p:h0a)(M:List Nat)(w0:World)(cs:List Value)(hI:InP p M w0 cs):
 N0a prog 113 #[.agg cs.toArray] w0 fun v w'=>(∃xs,v=.agg xs.toArray∧D0a M w' (f1a p) xs)∧Below w0.heap.size w0 w':=by
 obtain⟨Ac,nc,cc,Am,nm,cm,Al,nl,cl,At,nt,ct,rfl,hC,_,_,T0,F0,_,_,u0,bc,_,_,bt⟩:=hI.rd.open_;have S:=St.refl w0;have hp:=hI.ok;have n1:=hp.ncells;have n2:=hp.nthreads;refine a0a func113 Z ntmps113 Z ?_;refine wO0 Z U (m0a S Z ?_);intro g1 w1 S1 X1 G1;refine j0a S1 r4a Z Z ?_;intro g2 w2 S2 X2 G2;refine lO S2.k [.w 1] Z ⟨⟨Z,Z⟩,U⟩ (i0a S2 b7b Z Z (k7a p M _ _ (hI.keep (S2.keep0 M))) ?_);intro w7 S7 X7;refine lC0 Z U (q6c b0a [0,1,2,3,4,5,6,7,8,9,10,11,12,13] 14 (Cl _ _ _ _) (Cl.start S7) _ Z ?_);refine J6a Z Z ?_;refine I0a J0c Z Z ?_;refine f0a ?_;refine J6a Z Z ?_;refine o0a Z9a Z (fun w1 hw=>by exact hw.1.cell 1 Z Z) Z ?_;refine f0a ?_;refine J2b Z B6a.slT Z Z ?_;refine I9a (n:=nc) (c:=nc) Z Z Z T0a Z Z Z ?_;intro j0 K0 y0;refine J6a Z Z ?_;refine I0a W6b Z Z ?_;refine f0a ?_;refine J6a Z Z ?_;refine o0a P4b Z (fun w1 hw=>by exact hw.1.cell 1 Z Z) Z ?_;refine f0a ?_;refine J2b Z O8b.slT Z Z ?_;refine I9a (n:=nt) (c:=nt) Z Z Z T0a Z Z Z ?_;intro m0 L0 z0;refine J6a Z Z ?_;refine I0a W6b Z Z ?_;refine f0a ?_;refine J6a Z Z ?_;refine o0a P4b Z (fun w1 hw=>by exact hw.1.cell 1 Z Z) Z ?_;refine f0a ?_;refine J2b Z O8b.slT Z Z ?_;refine I9a (n:=nt) (c:=nt) Z Z Z t3a Z Z Z ?_;intro n0 N0 A0;refine J6a Z Z ?_;refine w3a k5a (vs:=[(0,.slice _ _ _),(1,.slice _ _ _),(2,.slice _ _ _)]) (cs:=[_,_,_]) Z Z Z Z ?_;refine f0a ?_;refine Q7b Z Z Z r4a Z ?_;intro g3 G3 W0;refine G8b ?_;rintro Z0 ⟨b0,_⟩ ⟨⟨⟨⟨-,r0⟩,s0⟩,t0⟩,U0⟩;clear y0;replace b0:=b0.push_new S7 r0 K0;replace b0:=b0.push_more (L1:=[_]) S7 s0 L0 (by simpa[eq_comm] using z0);replace b0:=b0.push_more (L1:=[_,_]) S7 t0 N0 (by simpa[eq_comm] using A0);replace b0:=b0.push_more (L1:=[_,_,_]) S7 U0 G3 (by simpa[eq_comm] using W0);refine e0a (kk:=0) (vs:=[_,_,_]) b0 o2a Z Z Z Z Z Z Z ?_;intro I0 a0 D0;dsimp only[n0a,List.set] at a0;refine w0a ⟨Z,?_⟩;refine fC a0.k [.o 5] Z ⟨Z,U⟩ ?_;refine wL (fun μk D ε w=>D=[]∧∃k:Nat,(k+μk=(p.cells.length))∧St [] w0 w [(some g3,38,[.slice (some ⟨j0,0,none⟩) nc nc,.slice (some ⟨m0,0,none⟩) nt nt,.slice (some ⟨n0,0,none⟩) nt nt]),(some n0,86,(List.replicate nt (.slice none 0 0))),(some m0,3,(List.replicate nt (.int .i64 0))),(some j0,3,d3a ((f1a p).mem.map (Value.int .i64)) (.int .i64 0) k),(some g2,38,[.slice none 0 0,.slice none 0 0,.slice none 0 0]),(some g1,27,[.slice Ac nc cc,.slice Am nm cm,.slice Al nl cl,.slice At nt ct])]∧Sl ε [(1,.pointer (some ⟨g1,0,none⟩)),(2,.pointer (some ⟨g2,0,none⟩)),(3,.pointer (some ⟨g3,0,none⟩)),(25,.int .i64 nc),(26,.int .i64 k)]) (μ:=(p.cells.length)) ⟨Z,0,by omega,(a0.setEnt 3 Z (by rw[A6a];simp[f1a,F0])),Z⟩ ?_;rintro μk D ε w ⟨rfl,k,_,S,eZ⟩;refine wK eZ (wB0 Z U (fun R0=>?_) fun R0=>?_)
 ·refine lC0 Z U (v0a b0a [0,1,2,3,4,5,6,7,8,9] [] [10] Z (Cl _ _ _ _) (Cl.start S) ?_);obtain⟨x,P0,X0,_,V0,o0,_,_,q0,v0⟩:=RdS.get (hC) (k) (by omega);obtain⟨rfl,_⟩:=P2a.open_ v0;refine qO (S.q.a q0) [.o 0,.o 5,.x P0 X0,.f 0 2] Z ⟨Z,⟨o0,by omega⟩,Z,Z,U⟩ (p0a T0a.slT Z (by rfl) Z Z ?_);refine qD Z U ?_;rintro a1 ⟨O0,_⟩
  first|refine u0a (kk:=3) O0 m8a Z Z Z (by(simp;omega)) ?_
  intro J0 f0 E0;refine lP0 Z ⟨by omega,U⟩ ⟨μk-1,by omega,Z,(k+1),(by omega),(f0.setEnt 3 Z (G7a (by simp[f1a,V0]) (by simp))),Z⟩
 refine lC S.k [.o 5] Z ⟨Z,U⟩ ?_;refine wL (fun μj D ε w=>D=[]∧∃j:Nat,(j+μj=(p.threads.length))∧St [] w0 w [(some g3,38,[.slice (some ⟨j0,0,none⟩) nc nc,.slice (some ⟨m0,0,none⟩) nt nt,.slice (some ⟨n0,0,none⟩) nt nt]),(some n0,86,(List.replicate nt (.slice none 0 0))),(some m0,3,d3a ((f1a p).at_.map (Value.int .i64)) (.int .i64 0) j),(some j0,3,(f1a p).mem.map (Value.int .i64)),(some g2,38,[.slice none 0 0,.slice none 0 0,.slice none 0 0]),(some g1,27,[.slice Ac nc cc,.slice Am nm cm,.slice Al nl cl,.slice At nt ct])]∧Sl ε [(1,.pointer (some ⟨g1,0,none⟩)),(2,.pointer (some ⟨g2,0,none⟩)),(3,.pointer (some ⟨g3,0,none⟩)),(42,.int .i64 nt),(43,.int .i64 j)]) (μ:=(p.threads.length)) ⟨Z,0,by omega,((S.setEnt 3 Z (H7a _ _ (by simp[f1a];omega))).setEnt 2 Z (by rw[A6a];simp[f1a,u0])),Z⟩ ?_;rintro μj D ε w ⟨rfl,j,_,S,eZ⟩;refine wK eZ (wB0 Z U (fun S0=>?_) fun S0=>?_)
 ·obtain⟨th,Q0,Y0,_,i0,p0,_,_,g0,x0⟩:=RdS.get (T0) (j) (by omega);obtain⟨_,_,_,_,_,_,_,_,_,_,_,_,rfl,_⟩:=R0a.open_ x0;refine lO S.k [.o 5,.x Q0 Y0] Z ⟨⟨p0,by omega⟩,Z,U⟩ ?_;cases c0:th.asleep
  ·refine s0a i2a Z (by exact(S.old (g0 _ _ Z)).trans (congrArg (fun b=>some (Value.bool b)) c0)) Z ?_;refine lP0 Z ⟨by omega,U⟩ ⟨μj-1,by omega,Z,(j+1),(by omega),(S.setEnt 2 Z (by exact h7b (by simp[f1a,i0,c0]))),Z⟩
  refine s0a i2a Z (by exact(S.old (g0 _ _ Z)).trans (congrArg (fun b=>some (Value.bool b)) c0)) Z ?_;refine lO S.k [.o 0] Z ⟨Z,U⟩ (L0a T0a.slT Z Z Z ?_)
  first|refine u0a (kk:=2) S m8a Z Z Z (by(simp;omega)) ?_
  intro G0 e0 B0;refine lP0 Z ⟨by omega,U⟩ ⟨μj-1,by omega,Z,(j+1),(by omega),(e0.setEnt 2 Z (by exact G7a (by simp[f1a,i0,c0]) (by simp))),Z⟩
 refine lO S.k [.w 0] Z ⟨⟨Z,Z⟩,U⟩ ?_
 first|refine e0a (kk:=4) (vs:=[_,_,_]) S o2a Z Z Z Z Z Z Z ?_
 intro H0 d0 C0;dsimp only[n0a,List.set] at d0;refine lR0 Z U ?_;have SF:=d0.setEnt 2 Z (H7a _ _ (by simp[f1a];omega));have hf:=A8a hp;exact H1a (n:=3) Z Q0a Z (SF.cells 4 Z) Z ⟨⟨_,Z,_,_,_,Z,SF.rdInts 3 Z (V0a hI.lt (SF.new 3 Z)) (by simp[f1a,F0]) bc (y3a hp hf.mem),SF.rdInts 2 Z (V0a hI.lt (SF.new 2 Z)) (by simp[f1a,u0]) bt (D6a hp hf),SF.rdBufs 1 Z (V0a hI.lt (SF.new 1 Z)) (by simp[f1a,u0]) bt (by simp[f1a])⟩,SF.fin⟩
theorem E4c{size:Nat}:∀(css:List (List Value)) (i:Nat) (c:List Value),(∀x∈css,x.length=size)→css[i]?=some c→∀(j:Nat) (u:Value),c[j]?=some u→css.flatten[i*size+j]?=some u:=by
 intro css
 induction css with
 | nil=>intro i c _ h;simp at h
 | cons x xs ih =>
   intro i c h4 hi j u hj;have hx:=h4 x (by simp);cases i with
   | zero =>
     simp at hi;subst hi;have a0:j<x.length:=(List.getElem?_eq_some_iff.1 hj).1;rw[List.flatten_cons,Nat.zero_mul,Nat.zero_add,List.getElem?_append_left a0];exact hj
   | succ i =>
     have:=ih i c (fun y hy=>h4 y (by simp[hy])) (by simpa using hi) j u hj;have e:(i+1)*size+j=x.length+(i*size+j):=by rw[hx,Nat.add_mul];omega
     rw[List.flatten_cons,e,List.getElem?_append_right (by omega)];rw[show x.length+(i*size+j)-x.length=i*size+j by omega];exact this
theorem i5a{size:Nat}(css:List (List Value))(h4:∀x∈css,x.length=size):css.flatten.length=css.length*size:=by
 induction css with
 | nil=>simp
 | cons x xs ih=>rw[List.flatten_cons,List.length_append,ih (fun y hy=>h4 y (by simp[hy])),h4 x (by simp),List.length_cons,Nat.add_mul];omega
structure T7a {α:Type} (R:List Nat→World→List Value→α→Prop) (size:Nat):Prop where
 len:∀{M w cs x},R M w cs x→cs.length=size
 one:∀{M w cs x},R M w cs x→∀u∈cs,u.oneCell'=true
 keep:∀{M w w' cs x},z0a M w w'→R M w cs x→R M w' cs x
 more:∀{M M' w cs x},(∀g∈M',g∈M∨w.heap.size≤g)→R M w cs x→R M' w cs x
section
variable {α:Type} {R:List Nat→World→List Value→α→Prop} {size:Nat}
def x1a(R:List Nat→World→List Value→α→Prop)(size:Nat)(M:List Nat)(w:World)(G:Option Nat)(cs:List Value)(v:Value)(l:List α):Prop :=
 ∃css:List (List Value),css.length=l.length∧(∀x∈css,x.length=size)∧A3a G size l.length cs v css.flatten∧∀(i:Nat) (x:α),l[i]?=some x→∃c,css[i]?=some c∧R (G.toList++M) w c x
theorem x1a.keep(hL:T7a R size){M:List Nat}{w w':World}{G:Option Nat}{cs:List Value}{v:Value}{l:List α}(h:x1a R size M w G cs v l)(hk:z0a (G.toList++M) w w'):x1a R size M w' G cs v l:=by
 obtain⟨css,h1,h2,h3,h4⟩:=h;refine⟨css,h1,h2,h3,fun i x hi=>?_⟩;obtain⟨c,h5,h6⟩:=h4 i x hi;exact⟨c,h5,hL.keep hk h6⟩
theorem x1a.nil{M:List Nat}{w:World}:x1a R size M w none [] (.slice none 0 0) []:=⟨[],Z,by simp,A3a.nil size,fun i x hi=>by simp at hi⟩
theorem x1a.new{M:List Nat}{w:World}{g:Nat}:x1a R size M w (some g) [] (.slice (some ⟨g,0,none⟩) 0 0) [] :=
 ⟨[],Z,by simp,⟨by simp,.inr ⟨g,0,Z,Z,Nat.le_refl _,by unfold maxLen;omega,by simp,by simp⟩⟩,fun i x hi=>by simp at hi⟩
theorem x1a.form{M:List Nat}{w:World}{G:Option Nat}{cs:List Value}{v:Value}{l:List α}(h:x1a R size M w G cs v l):∃A c,v=.slice A l.length c:=by
 obtain⟨_,_,_,⟨_,hr⟩,_⟩:=h;rcases hr with⟨_,rfl,h0⟩|⟨g,a0,_,rfl,_⟩
 ·exact⟨_,_,by rw[h0]⟩
 ·exact⟨_,_,Z⟩
theorem x1a.rd(hL:T7a R size){M M':List Nat}{w0 w:World}{L:List Ent}{k el:Nat}{G:Option Nat}{cs:List Value}{v:Value}{l:List α}(h:x1a R size M w G cs v l)(S:St M' w0 w L)(hk:L[k]?=some (G,el,cs))(hM:∀g,G=some g→g∉M)(hl:l.length≤1000000):RdS M w size (R M w) v l:=by
 obtain⟨css,h1,h2,⟨_,hr⟩,h4⟩:=h;rcases hr with⟨rfl,rfl,h0⟩|⟨g,b0,rfl,rfl,q1,q2,q3,q4⟩
 ·exact⟨none,0,0,Z,by omega,by omega,by unfold maxLen;omega,by omega,fun h=>absurd h (by omega)⟩
 ·refine⟨_,_,_,Z,Z,q1,q2,by omega,fun _=>⟨g,0,Z,hM g Z,fun i x hi=>?_⟩⟩;obtain⟨c,h5,h6⟩:=h4 i x hi;refine⟨c,h2 c (List.mem_of_getElem? h5),fun j u hj=>?_,hL.more (fun x hx=>.inl (by simp[hx])) h6⟩;have hf:=E4c css i c h2 h5 j u hj;have a0:i*size+j<l.length*size:=by
   have:=(List.getElem?_eq_some_iff.1 hf).1;rw[i5a css h2,h1] at this;exact this
  rw[←q4,List.getElem?_take,if_pos a0] at hf;have:=S.cell k hk hf;simpa using this
theorem x1a.get{M M':List Nat}{w0 w:World}{L:List Ent}{k el:Nat}{G:Option Nat}{cs:List Value}{v:Value}{l:List α}(h:x1a R size M w G cs v l)(S:St M' w0 w L)(hk:L[k]?=some (G,el,cs)){i:Nat}{x:α}(hi:l[i]?=some x):
 ∃g a0 c,G=some g∧v=.slice (some ⟨g,0,none⟩) l.length a0∧c.length=size∧O1a w g (0+i*size) c∧R (G.toList++M) w c x:=by
 obtain⟨css,h1,h2,⟨_,hr⟩,h4⟩:=h;have c0:=(List.getElem?_eq_some_iff.1 hi).1;rcases hr with⟨rfl,rfl,h0⟩|⟨g,a0,rfl,rfl,q1,q2,q3,q4⟩
 ·omega
 ·obtain⟨c,h5,h6⟩:=h4 i x hi;refine⟨g,a0,c,Z,Z,h2 c (List.mem_of_getElem? h5),fun j u hj=>?_,h6⟩;have hf:=E4c css i c h2 h5 j u hj;have b0:i*size+j<l.length*size:=by
   have:=(List.getElem?_eq_some_iff.1 hf).1;rw[i5a css h2,h1] at this;exact this
  rw[←q4,List.getElem?_take,if_pos b0] at hf;have:=S.cell k hk hf;simpa using this
variable {P:Program} {r:Option Nat} {N:Nat} {D:List Deferred} {e:Env} {w w0:World} {ops:Array Oper} {rest:List Oper} {K:List Deferred→Env→World→Prop} {L:List Ent} {M:List Nat}
variable {d:Nat} {t:TypeId} {p:String} {af:Array Edge} {x y:Operand}
theorem u1b(hL:T7a R size){M2:List Nat}{ty el b0 k c b o m:Nat}{z v:Value}{G:Option Nat}{cs:List Value}{cs2:List (List Value)}{l l2:List α}(S:St M w0 w L)(hS:SlZ P ty el size z b0)(hby:b0≤1000)(hk:L[k]?=some (G,el,cs))(hR:x1a R size M2 w G cs v l)
 (hx:ev e x=v) (hy:ev e y=.slice (some ⟨b,o,none⟩) m c) (hm:m=l2.length) (u0:cs2.length=l2.length) (i0:O1a w b o cs2.flatten) (he:∀(i:Nat) (x:α),l2[i]?=some x→∃c,cs2[i]?=some c∧R (G.toList++M2) w c x) (hll:l.length+l2.length≤1000000) (hd:Nat.ble (d+1) N=true)
 (h:∀v' G' m0 w1,St M w0 w1 (L.set k (G',el,m0))→x1a R size M2 w1 G' m0 v' (l++l2)→z0a G.toList w w1→(∀g∈G'.toList,g∈G.toList∨w.heap.size≤g)→WL P r N ops rest K D (upd e d v') w1) :
 WL P r N ops (⟨some d,.call { callee:=.builtin .append,args:=#[x,y],argTypes:=#[ty,ty] },t,p,af,none⟩::rest) K D e w:=by
 subst hm;obtain⟨css,c1,c2,c3,c4⟩:=hR;have s0:∀x∈cs2,∃a,R (G.toList++M2) w x a:=fun x hx=>by
  obtain⟨i,hi,rfl⟩:=List.getElem_of_mem hx;obtain⟨c,h5,h6⟩:=he i l2[i] (List.getElem?_eq_getElem (by omega));rw[List.getElem?_eq_getElem hi] at h5;cases h5;exact⟨_,h6⟩
 have hlen:∀x∈cs2,x.length=size:=fun x hx=>let ⟨_,ha⟩:=s0 x hx;hL.len ha;have q0:∀u∈cs2.flatten,u.oneCell'=true:=fun u hu=>by
  obtain⟨x,hx,hu⟩:=List.mem_flatten.1 hu;obtain⟨_,ha⟩:=s0 x hx;exact hL.one ha u hu
 obtain⟨i,hi,hz,C0,z0⟩:=hS.parts;obtain⟨hown,hG⟩:=c3.own S hk;have y0:(l.length+l2.length)*b0≤140737488355328:=by
  have:(l.length+l2.length)*b0≤1000000*1000:=Nat.mul_le_mul (by omega) hby;omega
 obtain⟨v',w1,r0,j0,a0,_,g0⟩:=run_append_own_at (P:=P) w 0 ty t el i z size b0 hS.und hi hz C0 z0 hS.zs hS.pos v l.length css.flatten hown ⟨b,o,none⟩ l2.length c cs2.flatten (by rw[i5a cs2 hlen,u0])
  (fun j u hj=>by rw[Addr.add_lit];exact i0 j u hj) q0 (by unfold maxLen;omega) y0 (Nat.zero_le _)
 obtain⟨G',m0,x0,n0,p0⟩:=J9a j0;have d0:∀q,q<w.heap.size→G≠some q→w1.heap[q]?=w.heap[q]?:=fun q hq B0=>a0.block q hq (fun hh=>B0 (by rw[←hG,←hh]));have f0:S0a M w0 w1:=⟨a0.os.trans S.below.os,a0.tape.trans S.below.tape,a0.output.trans S.below.output,Nat.le_trans S.size a0.size,fun q hq hm =>
  (d0 q (Nat.lt_of_lt_of_le hq S.size) (fun hh=>by
    subst hh;rcases S.new k hk with h'|h'
    ·omega
    ·exact hm h')).trans (S.below.block q hq hm)⟩
 have e0:z0a G.toList w w1:=⟨a0.size,fun q hq hm=>d0 q hq (fun hh=>hm (by rw[hh];simp))⟩;have c0:∀g∈G'.toList,g∈G.toList∨w.heap.size≤g:=by
  intro g hg;have t0:G'=some g:=by cases G' with
   | none=>simp at hg
   | some q=>simp at hg;rw[hg]
  rcases g0 with hb|hb
  ·left;have o0:G=some g:=by rw[←hG,←hb,n0];exact t0
   rw[o0];simp
  ·rw[n0,t0] at hb;cases hb;exact .inr (Nat.le_refl _)
 refine r1a (v:=v') (w':=w1) Z Z hd ?_ (h v' G' m0 w1 (S.replace k hk f0 d0 (fun g hg=>?_)) ?_ e0 c0)
 ·simp[execOp,resolve,invoke,builtin,hx,hy,r0]
 ·obtain⟨_,h3⟩:=p0 g hg;rcases g0 with hb|hb
  ·have o0:G=some g:=by rw[←hG,←hb,n0];exact hg
   subst o0;exact⟨S.new k hk,h3,.inl Z⟩
  ·have hg2:G'=some g:=hg;rw[n0,hg2] at hb;cases hb;exact⟨.inl S.size,h3,.inr (Nat.le_refl _)⟩
 ·have v0:∀(e2:α) (c:List Value),R (G.toList++M2) w c e2→R (G'.toList++M2) w1 c e2:=by
   intro e2 c hr;have h5:R (G.toList++(G'.toList++M2)) w c e2:=hL.more (fun g hg=>by
    rcases List.mem_append.1 hg with hg|hg
    ·exact .inl (List.mem_append_left _ hg)
    ·rcases List.mem_append.1 hg with hg|hg
     ·rcases c0 g hg with h|h
      ·exact .inl (List.mem_append_left _ h)
      ·exact .inr h
     ·exact .inl (List.mem_append_right _ hg)) hr
   exact hL.more (fun g hg=>.inl (List.mem_append_right _ hg)) (hL.keep (e0.mono (fun g hg=>List.mem_append_left _ hg)) h5)
  refine⟨css++cs2,by simp[c1,u0],fun x hx=>?_,?_,fun i x hi=>?_⟩
  ·rcases List.mem_append.1 hx with hx|hx
   ·exact c2 x hx
   ·exact hlen x hx
  ·have e1:(l++l2).length=l.length+l2.length:=by simp
   rw[e1,List.flatten_append];exact x0
  ·by_cases A0:i<l.length
   ·rw[List.getElem?_append_left A0] at hi;obtain⟨c,h5,h6⟩:=c4 i x hi;exact⟨c,by rw[List.getElem?_append_left (by omega)];exact h5,v0 _ _ h6⟩
   ·rw[List.getElem?_append_right (by omega)] at hi;obtain⟨c,h5,h6⟩:=he _ x hi;exact⟨c,by rw[List.getElem?_append_right (by omega),c1];exact h5,v0 _ _ h6⟩
theorem B0a(hL:T7a R size){M2:List Nat}{ty el a0 k c b o:Nat}{z v:Value}{G:Option Nat}{cs news:List Value}{l:List α}{e1:α}(S:St M w0 w L)(hS:SlZ P ty el size z a0)(hk:L[k]?=some (G,el,cs))(hR:x1a R size M2 w G cs v l)
 (hx:ev e x=v) (hy:ev e y=.slice (some ⟨b,o,none⟩) 1 c) (b0:O1a w b o news) (he:R (G.toList++M2) w news e1) (hd:Nat.ble (d+1) N=true)
 (h:∀v' G' c0 w1,St M w0 w1 (L.set k (G',el,c0))→x1a R size M2 w1 G' c0 v' (l++[e1])→z0a G.toList w w1→(∀g∈G'.toList,g∈G.toList∨w.heap.size≤g)→WL P r N ops rest K D (upd e d v') w1) (hby:a0≤1000:=by decide) (hll:l.length+1≤1000000:=by omega) :
 WL P r N ops (⟨some d,.call { callee:=.builtin .append,args:=#[x,y],argTypes:=#[ty,ty] },t,p,af,none⟩::rest) K D e w :=
 u1b hL (cs2:=[news]) (l2:=[e1]) S hS hby hk hR hx hy Z Z (by simpa using b0) (fun i x hi=>by
  cases i with
  | zero=>simp at hi;subst hi;exact⟨news,Z,he⟩
  | succ i=>simp at hi) (by simpa using hll) hd h
end
theorem RdS.all{α:Type}{M:List Nat}{w:World}{size:Nat}{R:List Value→α→Prop}{A:Option Addr}{n c b o:Nat}{l:List α}(h:RdS M w size R (.slice A n c) l)(hA:A=some ⟨b,o,none⟩)(h0:0<l.length):
 ∃css:List (List Value),css.length=l.length∧O1a w b o css.flatten∧∀(i:Nat) (x:α),l[i]?=some x→∃c,css[i]?=some c∧R c x:=by
 obtain⟨h1,_,_,_,h5⟩:=h.at;obtain⟨_,_,a0,_,b0⟩:=h5 (by omega);rw[hA] at a0;cases a0;have key:∀(l2:List α) (q:Nat),(∀i x,l2[i]?=some x→∃cs,cs.length=size∧O1a w b (q+i*size) cs∧R cs x)→∃css:List (List Value),css.length=l2.length∧O1a w b q css.flatten∧∀(i:Nat) (x:α),l2[i]?=some x→∃c,css[i]?=some c∧R c x:=by
  intro l2
  induction l2 with
  | nil=>intro q _;exact⟨[],Z,fun j v hj=>by simp at hj,fun i x hi=>by simp at hi⟩
  | cons a l2 ih =>
    intro q hq;obtain⟨cs,_,k2,k3⟩:=hq 0 a Z;obtain⟨css,m1,m2,m3⟩:=ih (q+size) (fun i x hi=>by
     obtain⟨cs,n1,n2,n3⟩:=hq (i+1) x (by simpa using hi);exact⟨cs,n1,by rw[show q+size+i*size=q+(i+1)*size by rw[Nat.add_mul];omega];exact n2,n3⟩)
    refine⟨cs::css,by simp[m1],fun j v hj=>?_,fun i x hi=>?_⟩
    ·rw[List.flatten_cons] at hj;by_cases c0:j<cs.length
     ·rw[List.getElem?_append_left c0] at hj;have:=k2 j v hj;simpa using this
     ·rw[List.getElem?_append_right (by omega)] at hj;have:=m2 (j-cs.length) v hj;rw[show q+size+(j-cs.length)=q+j by omega] at this;exact this
    ·cases i with
     | zero=>simp at hi;subst hi;exact⟨cs,Z,k3⟩
     | succ i =>
       obtain⟨c,h1,h2⟩:=m3 i x (by simpa using hi);exact⟨c,by simpa using h1,h2⟩
 exact key l o b0
theorem m4a.of{t s c:Int}(h1:i64 t)(h2:i64 s)(h3:i64 c):m4a [.int .i64 t,.int .i64 s,.int .i64 c] ⟨t,s,c⟩:=⟨Z,h1,h2,h3⟩
theorem N1a:T7a (fun(_:List Nat) (_:World)=>m4a) 3 where
 len h:=by rw[h.1];rfl
 one h u hu:=by rw[h.1] at hu;simp at hu;rcases hu with rfl|rfl|rfl<;>rfl
 keep _ h:=h
 more _ h:=h
theorem x3a:T7a (fun(_:List Nat) (_:World)=>R5c) 1 where
 len h:=by rw[h.1];rfl
 one h u hu:=by rw[h.1] at hu;simp at hu;subst hu;rfl
 keep _ h:=h
 more _ h:=h
theorem R1a:T7a O0a 2 where
 len h:=by obtain⟨_,_,rfl,_⟩:=h;rfl
 one h u hu:=by
  obtain⟨_,_,_,_,_,_,rfl,_⟩:=h.open_;simp at hu;rcases hu with rfl|rfl<;>rfl
 keep hk h:=O0a.keep hk _ _ h
 more hm h:=O0a.more hm _ _ h
def A4a(M:List Nat)(w:World)(cs:List Value)(c:G0a):Prop:=D0a M w c cs
theorem S1a:T7a A4a 3 where
 len h:=by obtain⟨_,_,_,rfl,_⟩:=h;rfl
 one h u hu:=by
  obtain⟨_,_,_,_,_,_,_,_,_,rfl,_⟩:=D0a.open_ h;simp at hu;rcases hu with rfl|rfl|rfl<;>rfl
 keep hk h:=D0a.keep hk h
 more hm h:=D0a.more hm h
theorem getD_some{α:Type}{l:List α}{i:Nat}{x d:α}(h:l[i]?=some x):l.getD i d=x:=by rw[List.getD_eq_getElem?_getD,h];rfl
def v5a(c:G0a):Prop:=∀b∈c.buf,b=[]
theorem v5a.getD{c:G0a}(h:v5a c)(t:Nat):c.buf.getD t []=[]:=by
 rw[List.getD_eq_getElem?_getD];cases hx:c.buf[t]? with
 | none=>rfl
 | some b=>exact h b (List.mem_of_getElem? hx)
theorem v5a.view{c:G0a}(h:v5a c)(t:Nat):o1a c t=c.mem:=by unfold o1a;rw[h.getD];rfl
theorem q5a{p:h0a}{c:G0a}(h:v5a c)(t:Nat)(s:v1a):b1a p 0 c t s=(decide (c.at_.getD t 0=s.frm)&&(decide (s.guard.evl c.mem c.mem=1) &&
 (if s.kind=6 then decide (c.at_.getD s.target.toNat 0=-1) else if s.kind=7 then decide (c.at_.getD s.target.toNat 0=(p.threads.getD s.target.toNat ⟨ByteArray.empty,0,[],[],[],[],false⟩).points-1) else true))):=by
 unfold b1a;rw[h.view,h.getD,h.getD]
 congr 2
 split
 ·rename_i h3;rw[if_neg (by omega),if_neg (by omega)];simp
 ·split
  ·simp
  ·split
   ·simp
   ·split
    ·rfl
    ·simp
@[simp] theorem B2d(l:List U1a)(v m:List Int):(n8a l v m).length=m.length:=by
 unfold n8a
 induction l generalizing m with
 | nil=>rfl
 | cons a l ih=>rw[List.foldl_cons,ih,List.length_set]
theorem Y6a(l:List U1a)(a:U1a)(v m:List Int):n8a (l++[a]) v m=(n8a l v m).set a.cell.toNat (a.to.evl v v):=by unfold n8a;rw[List.foldl_append];rfl
theorem p3c{l:List U1a}{a:U1a}{v m:List Int}{k i:Nat}(hx:l[k]?=some a)(hi:i=a.cell.toNat):((n8a (l.take k) v m).map (Value.int .i64)).set i (.int .i64 (a.to.evl v v))=(n8a (l.take (k+1)) v m).map (Value.int .i64):=by
 subst hi;rw[a1a hx,Y6a,List.map_set]
theorem T2d{p:h0a}{c:G0a}{t i:Nat}{th:U0a}{s:v1a}(h:v5a c)(ht:p.threads[t]?=some th)(hs:th.steps[i]?=some s):doC p 0 c ⟨t,i,0⟩=⟨n8a s.set c.mem c.mem,atC c t s,c.buf⟩:=by
 unfold doC;have e1:f3a p t=th.steps:=by unfold f3a;rw[getD_some ht]
 rw[if_neg (by show ¬((i:Int)=-1);omega)];simp only[Int.toNat_natCast,e1,hs,I6a,h.view];simp
def z8b(p:h0a)(m:Int)(c:G0a)(t i:Nat):Bool:=match (f3a p t)[i]? with|some s=>b1a p m c t s|none=>false
def j3a(p:h0a)(m:Int)(c:G0a)(t j:Nat):List c0a:=((List.range j).filter (z8b p m c t)).map fun(i:Nat)=>(⟨t,i,0⟩:c0a)
def n4a(m:Int)(c:G0a)(t j:Nat):List c0a:=((List.range j).filter (T3a m (c.buf.getD t []))).map fun(i:Nat)=>(⟨t,-1,((c.buf.getD t []).getD i ⟨[],[]⟩).cells.getD 0 0⟩:c0a)
def m3a(p:h0a)(m:Int)(c:G0a)(k:Nat):List c0a:=(List.range k).flatMap (A7a p m c)
theorem d8a(p:h0a)(m:Int)(c:G0a)(t:Nat):A7a p m c t=j3a p m c t (f3a p t).length++n4a m c t (c.buf.getD t []).length:=Z
theorem G5a(p:h0a)(m:Int)(c:G0a)(k:Nat):m3a p m c (k+1)=m3a p m c k++A7a p m c k:=by
 unfold m3a;rw[List.range_succ,List.flatMap_append];simp
theorem O9a{p:h0a}{m:Int}{c:G0a}{t j:Nat}{s:v1a}(h:(f3a p t)[j]?=some s):j3a p m c t (j+1)=j3a p m c t j++(if b1a p m c t s then[⟨t,j,0⟩] else[]):=by
 unfold j3a;rw[List.range_succ,List.filter_append,List.map_append];have:z8b p m c t j=b1a p m c t s:=by unfold z8b;rw[h]
 congr 1
 cases he:b1a p m c t s<;>simp[this,he]
theorem O1b{p:h0a}{m:Int}{c:G0a}{t j:Nat}{th:U0a}{s:v1a}(h:p.threads[t]?=some th)(hs:th.steps[j]?=some s)(he:b1a p m c t s=true):j3a p m c t (j+1)=j3a p m c t j++[⟨t,j,0⟩]:=by
 rw[O9a (by rw[show f3a p t=th.steps by unfold f3a;rw[getD_some h]];exact hs),he,if_pos rfl]
theorem u2b{p:h0a}{m:Int}{c:G0a}{t j:Nat}{th:U0a}{s:v1a}(h:p.threads[t]?=some th)(hs:th.steps[j]?=some s)(he:b1a p m c t s=false):j3a p m c t (j+1)=j3a p m c t j:=by
 rw[O9a (by rw[show f3a p t=th.steps by unfold f3a;rw[getD_some h]];exact hs),he];simp
theorem M7b{m:Int}{c:G0a}{t j:Nat}(he:T3a m (c.buf.getD t []) j=true):n4a m c t (j+1)=n4a m c t j++[⟨t,-1,((c.buf.getD t []).getD j ⟨[],[]⟩).cells.getD 0 0⟩]:=by
 unfold n4a;generalize c.buf.getD t []=b at *;rw[List.range_succ,List.filter_append,List.map_append];simp[he]
theorem Q9b{m:Int}{c:G0a}{t j:Nat}(he:T3a m (c.buf.getD t []) j=false):n4a m c t (j+1)=n4a m c t j:=by
 unfold n4a;generalize c.buf.getD t []=b at *;rw[List.range_succ,List.filter_append,List.map_append];simp[he]
theorem k6a(p:h0a)(m:Int)(c:G0a)(t j:Nat):(j3a p m c t j).length≤j:=by
 unfold j3a;have:=List.length_filter_le (z8b p m c t) (List.range j);simpa using this
theorem i1b(m:Int)(c:G0a)(t j:Nat):(n4a m c t j).length≤j:=by
 unfold n4a;have:=List.length_filter_le (T3a m (c.buf.getD t [])) (List.range j);simpa using this
theorem P1a{p:h0a}{t:Nat}{th:U0a}(h:p.threads[t]?=some th):f3a p t=th.steps:=by unfold f3a;rw[getD_some h]
theorem T2a{p:h0a}(hp:n1a p){c:G0a}(hf:J5a p c)(m:Int):∀k,k≤p.threads.length→(m3a p m c k).length≤k*67
 | 0,_=>by simp[m3a]
 | k+1,hk=>by
   have ih:=T2a hp hf m k (by omega);rw[G5a,d8a];have h1:=k6a p m c k (f3a p k).length;have h2:=i1b m c k (c.buf.getD k []).length;have b0:p.threads[k]?=some p.threads[k]:=List.getElem?_eq_getElem hk;rw[P1a b0] at h1 ⊢;have h3:=(hp.threads k hk).nsteps;have a0:k<c.buf.length:=by rw[hf.nbuf];exact hk
   have hb:c.buf[k]?=some c.buf[k]:=List.getElem?_eq_getElem a0;rw[getD_some hb] at h2 ⊢;have h4:=(hf.bufs k _ hb).1;simp only[List.length_append];omega
theorem q6a(p:h0a)(m:Int)(c:G0a):m3a p m c p.threads.length=J0a p m c:=Z
theorem c2b(p:h0a)(c:G0a)(t i:Nat)(th:U0a)(s:v1a)(M:List Nat)(w0:World)(cs xs:List Value)(hI:InP p M w0 cs)(hX:D0a M w0 c xs)(hf:J5a p c)(he:v5a c)(f0:p.threads[t]?=some th)(Q0:th.steps[i]?=some s):
 N0a prog 205 #[.agg cs.toArray,.agg xs.toArray,.int .i64 t,.int .i64 i] w0 fun v w'=>v=.bool (b1a p 0 c t s)∧Below w0.heap.size w0 w':=by
 obtain⟨_,_,_,_,_,_,_,_,_,_,_,_,rfl,_,_,_,U0,_⟩:=hI.rd.open_;obtain⟨_,_,_,_,_,_,_,_,_,rfl,i0,y0,_,_,d0,g0,_⟩:=hX.open_;have S:=St.refl w0;have f2:=hf.nat;have hp:=hI.ok;have ht:=g1a f0;have hi:=g1a Q0;have i1:=hp.thread f0;have g1:=i1.steps s (d0a Q0);have V0:6≤s.kind→0≤s.target∧s.target<p.threads.length:=fun h=>(g1.row.k6 h).1;refine a0a func205 Z ntmps205 Z ?_;refine wO0 Z U (m0a S Z ?_);intro g4 w4 S4 X4 G4;refine m0a S4 Z ?_;intro g5 w5 S5 X5 G5;obtain⟨_,Z0,j1,_,O0,r0,_,_,A0,H0⟩:=RdS.get (U0) (t) (by omega);obtain rfl:=Option.some.inj (f0.symm.trans O0);obtain⟨_,_,_,_,_,_,_,_,_,_,_,_,rfl,_,_,_,j0,_⟩:=R0a.open_ H0;obtain⟨_,a1,m1,_,P0,s0,_,G0,B0,I0⟩:=RdS.get (j0) (i) (by omega);obtain rfl:=Option.some.inj (Q0.symm.trans P0);obtain⟨_,_,_,_,_,_,rfl,⟨_,_⟩,z0,_⟩:=B1a.open_ I0;refine lO ((S5.k.a B0).a A0) [.o 1,.x Z0 j1,.f 0 4,.x a1 m1,.v 1] Z ⟨⟨Z,G0⟩,⟨s0,by omega⟩,Z,⟨r0,by omega⟩,Z,U⟩ (j0a S5 r9a Z Z ?_);intro g9 w9 S9 X9 G9;refine e0a (kk:=0) (vs:=[_,_,_,_,_,_,_,_,_,_,_]) S9 u9a Z Z Z Z Z Z Z ?_;intro W0 a0 S0;dsimp only[n0a,List.set] at a0;refine lC0 Z U (v0a b0a [0,1,2,3,4,5,6,7,8,9,10,11,12,13,14,15,16,17] [] [] Z (Cl _ _ _ _) (Cl.start a0) ?_);obtain⟨a,b1,n1,_,d0,t0,_,_,C0,J0⟩:=RdS.get (y0) (t) (by omega);obtain⟨rfl,_⟩:=id J0;refine qB (a0.q.a C0) [.o 1,.x b1 n1,.f 0 0,.o 0] Z ⟨Z,Z,⟨t0,by omega⟩,Z,U⟩ (fun c0=>?_) fun c0=>?_
 ·refine qD Z U ?_;rintro X0 ⟨b0,T0⟩;refine lT Z U Z ⟨congrArg Value.bool ?_,b0.fin⟩;rw[q5a he,getD_some d0];simp[c0];done
 refine qO a0.q [.o 0,.o 1,.o 1] Z ⟨Z,Z,Z,U⟩ (A1a A0b Z Z (fun w1 S1 X1=>f8a s.guard M _ _ _ _ c.mem c.mem (RdE.keep (S1.keep0 M) _ _ z0) (hI.keep (S1.keep0 M)).msk (i0.keep (S1.keep0 M)) (i0.keep (S1.keep0 M))) ?_);refine qB0 Z U (fun e0=>?_) fun e0=>?_
 ·refine qD Z U ?_;rintro X0 ⟨b0,T0⟩;refine lT Z U Z ⟨congrArg Value.bool ?_,b0.fin⟩;rw[q5a he,getD_some d0];simp[c0,e0];done
 refine qD Z U ?_;rintro X0 ⟨b0,T0⟩;refine lB b0.k [.o 0] Z ⟨Z,U⟩ (fun m0=>?_) fun m0=>?_
 ·have q6:=V0 (by omega);obtain⟨b,c1,o1,_,g0,u0,_,_,D0,K0⟩:=RdS.get (y0) (s.target.toNat) (by omega);obtain⟨rfl,_⟩:=id K0;refine lB (b0.k.a D0) [.o 1,.o 0,.x c1 o1,.f 0 0] Z ⟨Z,⟨u0,by omega⟩,Z,Z,U⟩ (fun p0=>?_) fun p0=>?_
  ·refine lT Z U Z ⟨congrArg Value.bool ?_,b0.fin⟩;rw[q5a he,getD_some d0];simp[c0,e0,m0,g0,p0];done
  refine lT Z U Z ⟨congrArg Value.bool ?_,b0.fin⟩;rw[q5a he,getD_some d0];simp[c0,e0,m0,g0,p0];done
 refine lB0 Z U (fun n0=>?_) fun n0=>?_
 ·refine lC0 Z U (v0a b0a [0,1,2,3,4,5,6,7,8,9,10,11,12,13,14,15] [] [] Z (Cl _ _ _ _) (Cl.start b0) ?_);have q6:=V0 (by omega);obtain⟨b,d1,p1,_,g0,v0,_,_,E0,L0⟩:=RdS.get (y0) (s.target.toNat) (by omega);obtain⟨rfl,_⟩:=id L0;obtain⟨_,f1,q1,_,R0,x0,_,_,F0,N0⟩:=RdS.get (U0) (s.target.toNat) (by omega);obtain⟨_,_,_,_,_,_,_,_,_,_,_,_,rfl,_⟩:=R0a.open_ N0;have q7:=(hp.thread R0).points;refine qB ((b0.q.a F0).a E0) [.o 1,.o 0,.x d1 p1,.f 0 0,.o 2,.o 0,.x f1 q1,.f 1 1] Z ⟨by omega,Z,⟨x0,by omega⟩,Z,Z,Z,⟨v0,by omega⟩,Z,Z,U⟩ (fun q0=>?_) fun q0=>?_
  ·refine qD Z U ?_;rintro r1 ⟨o0,Y0⟩;refine lT Z U Z ⟨congrArg Value.bool ?_,o0.fin⟩;rw[q5a he,getD_some d0];simp[c0,e0,n0,g0,R0,q0];done
  refine qD Z U ?_;rintro r1 ⟨o0,Y0⟩;refine lT Z U Z ⟨congrArg Value.bool ?_,o0.fin⟩;rw[q5a he,getD_some d0];simp[c0,e0,n0,g0,R0,q0];done
 refine lT Z U Z ⟨congrArg Value.bool ?_,b0.fin⟩;rw[q5a he,getD_some d0];simp[c0,e0,m0,n0];done
theorem R7a(p:h0a)(c:G0a)(M:List Nat)(w0:World)(cs xs:List Value)(hI:InP p M w0 cs)(hX:D0a M w0 c xs)(hf:J5a p c)(he:v5a c):
 N0a prog 179 #[.agg cs.toArray,.agg xs.toArray] w0 fun v w'=>w5a M w' v (J0a p 0 c)∧Below w0.heap.size w0 w':=by
 obtain⟨Ac,nc,cc,Am,nm,cm,Al,nl,cl,At,nt,ct,rfl,_,_,_,x0,_⟩:=hI.rd.open_;obtain⟨Xm,xm,ym,Xa,xa,ya,Xb,xb,yb,rfl,_⟩:=hX.open_;have S:=(St.refl w0).nilEnt 44;have hp:=hI.ok;have n2:=hp.nthreads;refine a0a func179 Z ntmps179 Z ?_;refine wO0 Z U (m0a S Z ?_);intro g2 w2 S2 X2 G2;refine m0a S2 Z ?_;intro g3 w3 S3 X3 G3;refine lC S3.k [.o 1] Z ⟨Z,U⟩ (wL (fun μk D ε w=>D=[]∧∃k:Nat,∃G:Option Nat,∃f0:List Value,∃v:Value,(k+μk=(p.threads.length))∧(x1a (fun _ _=>m4a) 3 [] w0 G f0 v (m3a p 0 c k))∧St [] w0 w [(some g3,38,[.slice Xm xm ym,.slice Xa xa ya,.slice Xb xb yb]),(some g2,27,[.slice Ac nc cc,.slice Am nm cm,.slice Al nl cl,.slice At nt ct]),(G,44,f0)]∧Sl ε [(2,.pointer (some ⟨g2,0,none⟩)),(3,.pointer (some ⟨g3,0,none⟩)),(5,v),(10,.int .i64 nt),(11,.int .i64 k)]) (μ:=(p.threads.length)) ⟨Z,0,none,[],.slice none 0 0,by omega,x1a.nil,S3,Z⟩ ?_);rintro μk D ε w ⟨rfl,k,G,f0,v,_,d0,S,eZ⟩;refine wK eZ (wB0 Z U (fun u0=>?_) fun u0=>?_)
 ·obtain⟨th,s0,y0,_,b0,i0,_,_,j0,m0⟩:=RdS.get (x0) (k) (by omega);obtain⟨_,_,_,_,_,_,_,o0,_,_,_,_,rfl,_⟩:=R0a.open_ m0;have G0:=(hp.thread b0).nsteps;refine lC (S.k.a j0) [.o 1,.x s0 y0,.f 0 4] Z ⟨Z,⟨i0,by omega⟩,Z,U⟩ (wL (fun μj D ε w=>D=[]∧∃j:Nat,∃G2:Option Nat,∃cs2:List Value,∃v2:Value,(j+μj=(th.steps.length))∧(x1a (fun _ _=>m4a) 3 [] w0 G2 cs2 v2 (m3a p 0 c k++j3a p 0 c k j))∧St [] w0 w [(some g3,38,[.slice Xm xm ym,.slice Xa xa ya,.slice Xb xb yb]),(some g2,27,[.slice Ac nc cc,.slice Am nm cm,.slice Al nl cl,.slice At nt ct]),(G2,44,cs2)]∧Sl ε [(2,.pointer (some ⟨g2,0,none⟩)),(3,.pointer (some ⟨g3,0,none⟩)),(5,v2),(6,.int .i64 k),(10,.int .i64 nt),(11,.int .i64 k),(20,.int .i64 o0),(21,.int .i64 j)]) (μ:=(th.steps.length)) ⟨Z,0,G,f0,v,by omega,by simpa[j3a] using d0,S,Z⟩ ?_);rintro μj D ε w ⟨rfl,j,G2,cs2,v2,_,a0,S,eZ⟩;refine wK eZ (wB0 Z U (fun v0=>?_) fun v0=>?_)
  ·refine lO S.k [.w 1,.w 0] Z ⟨⟨Z,Z⟩,⟨Z,Z⟩,U⟩ ?_;obtain⟨s,n0⟩:∃s,th.steps[j]?=some s:=⟨th.steps[j]'(by omega),List.getElem?_eq_getElem _⟩;refine A0a S W7c Z Z (c2b p c k j th s M _ _ _ (hI.keep (S.keep0 M)) (hX.keep (S.keep0 M)) hf he b0 n0) (fun g0 z0 e0 r0=>?_) (fun g0 z0 e0 r0=>?_)
   ·refine lOn 4 e0.k [] Z U (y0a Z ?_);refine lO0 Z U (d1a k2b (vs:=[(0,.int .i64 _),(1,.int .i64 _)]) (cs:=[_,_,_]) Z Z Z Z ?_);refine g0a e0 b2a (vs:=[.agg _]) (cs:=[_,_,_]) Z Z Z Z Z Z ?_;intro F0 I0 p0 D0 B0;have l1:=T2a hp hf 0 k (by omega);have l2:=k6a p 0 c k j;refine B0a (hll:=(by rw[List.length_append];omega)) N1a (k:=3) (M2:=[]) (e1:=⟨k,j,0⟩) p0 b2a Z a0 Z Z (p0.cells 0 Z) (m4a.of (by unfold i64;omega) (by unfold i64;omega) (by unfold i64;omega)) Z ?_;intro H0 C0 t0 J0 q0 c0 E0 A0;refine q0a Z ?_;refine lP0 Z ⟨by omega,U⟩ ⟨μj-1,by omega,Z,(j+1),(_),(_),(_),(by omega),?_,q0.tail,Z⟩;rw[O1b b0 n0 g0,←List.append_assoc];exact c0
   refine lP0 Z ⟨by omega,U⟩ ⟨μj-1,by omega,Z,(j+1),(_),(_),(_),(by omega),?_,e0,Z⟩;rw[u2b b0 n0 g0];exact a0
  refine lP0 Z ⟨by omega,U⟩ ⟨μk-1,by omega,Z,(k+1),(_),(_),(_),(by omega),?_,S,Z⟩;rw[G5a,d8a,P1a b0,he.getD];rw[show th.steps.length=j by omega];rw[show j3a p 0 c k j++n4a 0 c k ([]:List K0a).length=j3a p 0 c k j by simp[n4a]];exact a0
 refine lOn 8 S.k [] Z U (y0a Z ?_);refine q0a Z ?_;refine lR0 Z U (r0a Z ?_);obtain rfl:k=p.threads.length:=by omega
 have l1:=T2a hp hf 0 _ (Nat.le_refl _);rw[q6a] at l1;exact⟨x1a.rd (M:=M) N1a d0 S (k:=2) Z (fun g hg=>by subst hg;exact V0a hI.lt (S.new 2 Z)) (by omega),S.fin⟩
section
variable {P:Program} {r:Option Nat} {N:Nat} {D:List Deferred} {e:Env} {w w0:World} {ops:Array Oper} {rest:List Oper} {K:List Deferred→Env→World→Prop} {L:List Ent} {M:List Nat}
variable {d:Nat} {t:TypeId} {p:String} {af:Array Edge} {x y:Operand}
theorem RdI.oneCells{M':List Nat}{A:Option Addr}{m c:Nat}{l:List Int}(h:RdI M' w (.slice A m c) l)(hm:0<m):∃b o,A=some ⟨b,o,none⟩∧O1a w b o (l.map (Value.int .i64)):=by
 obtain⟨_,_,_,_,h5⟩:=h.at;obtain⟨b,o,h6,_,h8⟩:=h5 hm;refine⟨b,o,h6,fun j v hj=>?_⟩;rw[List.getElem?_map,Option.map_eq_some_iff] at hj;obtain⟨a,ha,rfl⟩:=hj;obtain⟨_,_,a0,b0⟩:=h8 j a ha;rw[b0.1] at a0;have:=a0 0 _ Z;simpa using this
theorem e0c{ty el b0 k n c g tb:Nat}{z:Value}{A:Option Addr}{cs:List Value}{l:List Int}{M':List Nat}(S:St M w0 w L)(hS:SlZ P ty el 1 z b0)(hk:L[k]?=some (some g,tb,cs))(hx:ev e x=.slice (some ⟨g,0,none⟩) n n)(hy:ev e y=.slice A n c)
 (hR:RdI M' w (.slice A n c) l) (hd:Nat.ble (d+1) N=true)
 (h:∀w1,St M w0 w1 (L.set k (some g,tb,l.map (Value.int .i64)))→z0a [g] w w1→WL P r N ops rest K D (upd e d (.int .i64 n)) w1) (e0:cs.length=n:=by simp) :
 WL P r N ops (⟨some d,.call { callee:=.builtin .copy,args:=#[x,y],argTypes:=#[ty,ty] },t,p,af,none⟩::rest) K D e w:=by
 obtain⟨_,hi,_,d0,_⟩:=hS.parts;have c0:(P.info? el).map (·.size)=some 1:=by rw[hi];simp[d0]
 have hn:n=l.length:=hR.len.1;by_cases h0:n=0
 ·have e1:l.map (Value.int .i64)=cs:=by
   have a1:l=[]:=List.eq_nil_of_length_eq_zero (by omega);have a2:cs=[]:=List.eq_nil_of_length_eq_zero (by omega);rw[a1,a2];rfl
  have a0:=run_copy_none (P:=P) w ty ty t el (some ⟨g,0,none⟩) A n n n c hS.und c0 (by rw[h0];rfl);have S':=S.setEnt k hk e1.symm;refine r1a (v:=.int .i64 n) (w':=w) Z Z hd ?_ (h w S' (z0a.refl _ _));subst h0;simp[execOp,resolve,invoke,builtin,hx,hy,a0,goInt]
 ·obtain⟨b,o,rfl,hc⟩:=hR.oneCells (by omega);have a0:=run_copy_row (P:=P) w ty ty t el g 0 n n ⟨b,o,none⟩ n c cs.toArray tb (l.map (Value.int .i64)) hS.und c0 (S.blk k hk) (by simp[hn]) (fun j v hj=>by rw[Addr.add_lit];exact hc j v hj) (by simp;omega)
   (fun v hv=>by obtain⟨a,_,rfl⟩:=List.mem_map.1 hv;rfl)
  have e1:(cs.toArray.toList.take 0++l.map (Value.int .i64)++cs.toArray.toList.drop (0+(l.map (Value.int .i64)).length)).toArray=(l.map (Value.int .i64)).toArray:=by
   have:cs.length≤l.length:=by omega
   simp[List.drop_of_length_le this]
  rw[e1] at a0;have hb:S0a [g] w (w.setRow g (l.map (Value.int .i64)).toArray):=⟨Z,Z,Z,by simp[World.setRow],fun q hq hm=>setRow_other w g q _ (by simpa using hm)⟩;refine r1a (v:=.int .i64 n) Z Z hd ?_ (h _ (S.changed1 k hk hb (setRow_heap w g _ _ tb _ (S.blk k hk))) ⟨hb.size,fun q hq hm=>hb.block q hq hm⟩);rw[List.length_map,←hn] at a0;simp[execOp,resolve,invoke,builtin,hx,hy,a0,goInt]
def Eq3(P:Program)(ty:TypeId):Prop:=P.eqGuardType P.depth ty=false∧∀(w:World) (a b c a' b' c':Int),
 (binOp .eql ty (.agg #[.int .i64 a,.int .i64 b,.int .i64 c]) (.agg #[.int .i64 a',.int .i64 b',.int .i64 c'])).run P w=.ok (.bool (decide (a=a'∧b=b'∧c=c'))) w
theorem C6c{ty:TypeId}{a b c a' b' c':Int}(hE:Eq3 P ty)(hx:ev e x=.agg #[.int .i64 a,.int .i64 b,.int .i64 c])(hy:ev e y=.agg #[.int .i64 a',.int .i64 b',.int .i64 c'])(hd:Nat.ble (d+1) N=true)
 (h1:a=a'∧b=b'∧c=c'→WL P r N ops rest K D (upd e d (.bool true)) w) (h2:¬(a=a'∧b=b'∧c=c')→WL P r N ops rest K D (upd e d (.bool false)) w) {yt:TypeId} :
 WL P r N ops (⟨some d,.binOp .eql ty x y yt,t,p,af,none⟩::rest) K D e w:=by
 by_cases hh:a=a'∧b=b'∧c=c'
 ·exact r1a Z Z hd (by simp only[execOp,hx,hy,Sem.run_bind,run_eqGuard_agg w _ _ _ _ _ _ hE.1,Result.andThen_ok,hE.2,Sem.run_pure,decide_eq_true hh]) (h1 hh)
 ·exact r1a Z Z hd (by simp only[execOp,hx,hy,Sem.run_bind,run_eqGuard_agg w _ _ _ _ _ _ hE.1,Result.andThen_ok,hE.2,Sem.run_pure,decide_eq_false hh]) (h2 hh)
end
theorem r8a:Eq3 prog 44:=by
 refine⟨Tryz.eqGuardType44,fun w a b c a' b' c'=>?_⟩;have ht:prog.underlying 44=some (.struct (prog.fieldsOf 44)):=by unfold Program.fieldsOf;rw[Tryz.underlying44]
 have a0:∀w,(isAgg 3).run prog w=.ok false w:=fun w=>by simp[isAgg,run_underlying Tryz.underlying3]
 rw[run_eql_struct,run_equalIn_struct w 9999 _ _ _ ht Tryz.stoodInHeld44];unfold Program.fieldsOf;rw[Tryz.underlying44];by_cases h1:a=a'<;>by_cases h2:b=b'<;>by_cases h3:c=c'<;>simp[Op.eqFields,part,a0,run_equalIn_int _ 9998 _ .i64 .i64 _ _ Tryz.underlying3,h1,h2,h3]
theorem V1b(p:h0a)(c:G0a)(t i:Nat)(th:U0a)(s:v1a)(M:List Nat)(w0:World)(cs xs:List Value)(hI:InP p M w0 cs)(hX:D0a M w0 c xs)(hf:J5a p c)(he:v5a c)(e0:p.threads[t]?=some th)(v0:th.steps[i]?=some s)(o0:J5a p (doC p 0 c ⟨t,i,0⟩)):
 N0a prog 186 #[.agg cs.toArray,.agg xs.toArray,.agg #[.int .i64 t,.int .i64 i,.int .i64 0]] w0 fun v w'=>(∃ys,v=.agg ys.toArray∧D0a M w' (doC p 0 c ⟨t,i,0⟩) ys)∧Below w0.heap.size w0 w':=by
 obtain⟨Ac,nc,cc,Am,nm,cm,Al,nl,cl,At,nt,ct,rfl,_,_,_,K1,_⟩:=hI.rd.open_;obtain⟨Xm,xm,ym,Xa,xa,ya,Xb,xb,yb,rfl,j0,J1,_,s1,u0,r1,b1,b2,b3⟩:=hX.open_;have S:=St.refl w0;have f1:=hf.mem.len;have f2:=hf.nat;have f3:=hf.nbuf;have hp:=hI.ok;have n1:=hp.ncells;have n2:=hp.nthreads;have ht:=g1a e0;have hi:=g1a v0;have p1:=(hp.thread e0).steps s (d0a v0);have O1:6≤s.kind→0≤s.target∧s.target<p.threads.length:=fun h=>(p1.row.k6 h).1;refine a0a func186 Z ntmps186 Z ?_;refine wO0 Z U (m0a S Z ?_);intro g3 w3 S3 X3 G3;refine m0a S3 Z ?_;intro g4 w4 S4 X4 G4;refine m0a S4 Z ?_;intro g5 w5 S5 X5 G5;refine j0a S5 r4a Z Z ?_;intro g6 w6 S6 X6 G6;refine lC0 Z U (q6c b0a [0,1,2,3,4,5,6,7,8,9,10,11,12,13] 14 (Cl _ _ _ _) (Cl.start S6) _ Z ?_);refine J6a Z Z ?_;refine I0a h4b Z Z ?_;refine f0a ?_;refine J6a Z Z ?_;refine o0a v3a Z (fun w1 hw=>by exact hw.1.cell 2 Z Z) Z ?_;refine f0a ?_;refine J2b Z T0a.slT Z Z ?_;refine I9a (n:=xm) (c:=xm) Z Z Z T0a Z Z Z ?_;intro j1 z1 W0;refine J6a Z Z ?_;refine I0a V3b Z Z ?_;refine f0a ?_;refine J6a Z Z ?_;refine o0a v3a Z (fun w1 hw=>by exact hw.1.cell 2 Z Z) Z ?_;refine f0a ?_;refine J2b Z T0a.slT Z Z ?_;refine I9a (n:=xa) (c:=xa) Z Z Z T0a Z Z Z ?_;intro m1 A1 X0;refine J6a Z Z ?_;refine I0a a4a Z Z ?_;refine f0a ?_;refine J6a Z Z ?_;refine o0a e4a Z (fun w1 hw=>by exact hw.1.cell 2 Z Z) Z ?_;refine f0a ?_;refine J2b Z t3a.slT Z Z ?_;refine I9a (n:=xb) (c:=xb) Z Z Z t3a Z Z Z ?_;intro o1 B1 Y0;refine J6a Z Z ?_;refine w3a k5a (vs:=[(0,.slice _ _ _),(1,.slice _ _ _),(2,.slice _ _ _)]) (cs:=[_,_,_]) Z Z Z Z ?_;refine f0a ?_;refine Q7b Z Z Z r4a Z ?_;intro g7 G7 P1;refine G8b ?_;rintro m2 ⟨f0,_⟩ ⟨⟨⟨⟨-,L0⟩,N0⟩,O0⟩,M1⟩;clear W0;replace f0:=f0.push_new S6 L0 z1;replace f0:=f0.push_more (L1:=[_]) S6 N0 A1 (by simpa[eq_comm] using X0);replace f0:=f0.push_more (L1:=[_,_]) S6 O0 B1 (by simpa[eq_comm] using Y0);replace f0:=f0.push_more (L1:=[_,_,_]) S6 M1 G7 (by simpa[eq_comm] using P1);refine e0a (kk:=0) (vs:=[_,_,_]) f0 o2a Z Z Z Z Z Z Z ?_;intro v1 c0 d1;dsimp only[n0a,List.set] at c0;refine w0a ⟨Z,?_⟩;refine fO c0.k [.o 0,.o 6] Z ⟨Z,Z,U⟩ (e0c (k:=3) c0 T0a Z Z Z (j0.keep (c0.keep0 M)) Z ?_);intro i2 z0 Z1;refine lO z0.k [.o 0,.o 6] Z ⟨Z,Z,U⟩ (e0c (k:=2) z0 T0a Z Z Z (J1.keep (z0.keep0 M)) Z ?_);intro j2 A0 a2;refine lC0 Z U (v0a b0a [0,1,2,3,4,5,6,7,8,9,10] [11] [12] Z (Cl _ _ _ _) (Cl.start A0) ?_);obtain⟨_,F1,R1,_,U0,E0,_,_,I0,R0⟩:=RdS.get (K1) (t) (by omega);obtain rfl:=Option.some.inj (e0.symm.trans U0);obtain⟨_,_,_,_,_,_,_,_,_,_,_,_,rfl,_,_,_,t0,_⟩:=R0a.open_ R0;obtain⟨_,G1,T1,_,V0,F0,_,P0,J0,S0⟩:=RdS.get (t0) (i) (by omega);obtain rfl:=Option.some.inj (v0.symm.trans V0);obtain⟨y0,Z0,C0,p0,n0,s0,rfl,⟨_,_⟩,_,m0,_⟩:=B1a.open_ S0;refine qN ((A0.q.a J0).a I0) [.o 7,.o 5,.x F1 R1,.f 0 4,.o 5,.x G1 T1,.v 1] Z ⟨⟨Z,P0⟩,⟨F0,by omega⟩,Z,Z,⟨E0,by omega⟩,Z,Z,U⟩ (z3a ?_);refine x4a Z Z r9a Z ?_;refine K1a ?_;rintro o2 ⟨B0,_⟩;intro g8 N1 G8 Q1;dsimp only[c4a];clear Q1;replace B0:=B0.push_new A0 N1 G8;refine e0a (kk:=0) (vs:=[_,_,_,_,_,_,_,_,_,_,_]) B0 u9a Z Z Z Z Z Z Z ?_;intro x1 d0 g1;dsimp only[n0a,List.set] at d0;refine lC d0.k [.o 0] Z ⟨Z,U⟩ (wL (fun μk D ε w=>D=[]∧∃k:Nat,(k+μk=(s.set.length))∧St [] w0 w [(some g8,97,[.int .i64 s.kind,.int .i64 s.frm,.int .i64 s.to,.int .i64 s.guard.op,.int .i64 s.guard.w,.int .i64 s.guard.n,.slice y0 Z0 C0,.slice p0 n0 s0,.bool s.release,.int .i64 s.target,.int .i64 s.module_]),(some g7,38,[.slice (some ⟨j1,0,none⟩) xm xm,.slice (some ⟨m1,0,none⟩) xa xa,.slice (some ⟨o1,0,none⟩) xb xb]),(some o1,86,List.replicate xb (.slice none 0 0)),(some m1,3,c.at_.map (Value.int .i64)),(some j1,3,(n8a (s.set.take k) c.mem c.mem).map (Value.int .i64)),(some g6,38,[.slice none 0 0,.slice none 0 0,.slice none 0 0]),(some g5,44,[.int .i64 t,.int .i64 i,.int .i64 0]),(some g4,38,[.slice Xm xm ym,.slice Xa xa ya,.slice Xb xb yb]),(some g3,27,[.slice Ac nc cc,.slice Am nm cm,.slice Al nl cl,.slice At nt ct])]∧Sl ε [(4,.pointer (some ⟨g4,0,none⟩)),(5,.pointer (some ⟨g5,0,none⟩)),(6,.pointer (some ⟨g6,0,none⟩)),(7,.pointer (some ⟨g7,0,none⟩)),(8,.pointer (some ⟨g8,0,none⟩)),(46,.slice p0 n0 s0),(47,.int .i64 n0),(48,.int .i64 k)]) (μ:=(s.set.length)) ⟨Z,0,by omega,d0,Z⟩ ?_);rintro μk D ε w ⟨rfl,k,_,S,eZ⟩;refine wK eZ (wB0 Z U (fun I1=>?_) fun I1=>?_)
 ·obtain⟨a,H1,U1,_,u0,G0,_,Q0,K0,T0⟩:=RdS.get (m0) (k) (by omega);obtain⟨_,_,_,rfl,_,H0⟩:=Z0a.open_ T0;have q1:=(p1.set a (d0a u0)).1;unfold k2a at q1;refine lO (S.k.a K0) [.x H1 U1,.v 0] Z ⟨⟨Z,Q0⟩,⟨G0,by omega⟩,U⟩ (j0a S S7a Z Z ?_);intro d2 g2 C1 Y1 W1;refine e0a (kk:=0) (vs:=[_,_,_,_,_]) C1 P7a Z Z Z Z Z Z Z ?_;intro V1 i0 E1;dsimp only[n0a,List.set] at i0;refine lC0 Z U (v0a b0a [0,1,2,3,4,5,6,7,8,9,10,11] [] [12] Z (Cl _ _ _ _) (Cl.start i0) ?_);refine qO i0.q [.o 2,.o 0,.o 0,.o 8,.o 8] Z ⟨Z,Z,Z,Z,Z,U⟩ (A1a A0b Z Z (fun w1 S1 X1=>f8a a.to M _ _ _ _ c.mem c.mem (RdE.keep (S1.keep0 M) _ _ H0) (hI.keep (S1.keep0 M)).msk (j0.keep (S1.keep0 M)) (j0.keep (S1.keep0 M))) ?_);refine p0a T0a.slT Z (by rfl) Z Z ?_;refine qD Z U ?_;rintro p2 ⟨D1,_⟩
  first|refine u0a (kk:=5) D1 m8a Z Z Z (by(simp;omega)) ?_
  intro y1 q0 i1;refine lP0 Z ⟨by omega,U⟩ ⟨μk-1,by omega,Z,(k+1),(by omega),(q0.tail.setEnt 4 Z (p3c u0 (by simp))),Z⟩
 refine lO S.k [.o 1,.o 6,.o 0] Z ⟨Z,Z,Z,U⟩ (L0a T0a.slT Z Z Z ?_)
 first|refine u0a (kk:=3) S m8a Z Z Z (by(simp;omega)) ?_
 intro t1 a0 a1;refine lB a0.k [.o 0] Z ⟨Z,U⟩ (fun D0=>?_) fun D0=>?_
 ·refine lO a0.k [.o 1,.o 0] Z ⟨Z,Z,U⟩ ?_;have q6:=O1 (by omega);refine L0a T0a.slT Z Z Z ?_
  first|refine u0a (kk:=3) a0 m8a Z Z Z (by(simp;omega)) ?_
  intro u1 g0 c1;refine lO g0.k [.w 1] Z ⟨⟨Z,Z⟩,U⟩ ?_
  first|refine e0a (kk:=5) (vs:=[_,_,_]) g0 o2a Z Z Z Z Z Z Z ?_
  intro x0 b0 r0;dsimp only[n0a,List.set] at b0;refine lR0 Z U ?_;have SF:=(b0.setEnt 3 Z (show _=(atC c t s).map (Value.int .i64) by simp[atC,D0,List.map_set])).setEnt 4 Z (show _=(n8a s.set c.mem c.mem).map (Value.int .i64) by rw[List.take_of_length_le (by omega)]);rw[T2d he e0 v0] at o0 ⊢;exact H1a (n:=3) Z Q0a Z (SF.cells 5 Z) Z ⟨⟨_,Z,_,_,_,Z,SF.rdInts 4 Z (V0a hI.lt (SF.new 4 Z)) (by simp[s1]) b1 (y3a hp o0.mem),SF.rdInts 3 Z (V0a hI.lt (SF.new 3 Z)) (by rw[s6a];exact u0) b2 (D6a hp o0),SF.rdBufs 2 Z (V0a hI.lt (SF.new 2 Z)) r1 b3 he⟩,SF.fin⟩
 refine lO a0.k [.w 1] Z ⟨⟨Z,Z⟩,U⟩ ?_
 first|refine e0a (kk:=5) (vs:=[_,_,_]) a0 o2a Z Z Z Z Z Z Z ?_
 intro x0 b0 r0;dsimp only[n0a,List.set] at b0;refine lR0 Z U ?_;have SF:=(b0.setEnt 3 Z (show _=(atC c t s).map (Value.int .i64) by simp[atC,D0,List.map_set])).setEnt 4 Z (show _=(n8a s.set c.mem c.mem).map (Value.int .i64) by rw[List.take_of_length_le (by omega)]);rw[T2d he e0 v0] at o0 ⊢;exact H1a (n:=3) Z Q0a Z (SF.cells 5 Z) Z ⟨⟨_,Z,_,_,_,Z,SF.rdInts 4 Z (V0a hI.lt (SF.new 4 Z)) (by simp[s1]) b1 (y3a hp o0.mem),SF.rdInts 3 Z (V0a hI.lt (SF.new 3 Z)) (by rw[s6a];exact u0) b2 (D6a hp o0),SF.rdBufs 2 Z (V0a hI.lt (SF.new 2 Z)) r1 b3 he⟩,SF.fin⟩
theorem A1d{p:h0a}{m:Int}{c:G0a}(he:v5a c){x:c0a}(hx:x∈J0a p m c):∃(t i:Nat) (th:U0a) (s:v1a),x=⟨t,i,0⟩∧p.threads[t]?=some th∧th.steps[i]?=some s∧b1a p m c t s=true:=by
 obtain⟨t,ht,h|h⟩:=X1a.1 hx
 ·obtain⟨i,s,hs,he,rfl⟩:=h;have a0:p.threads[t]?=some p.threads[t]:=List.getElem?_eq_getElem ht;rw[P1a a0] at hs;exact⟨t,i,_,s,Z,a0,hs,he⟩
 ·obtain⟨i,h1,-⟩:=h;rw[he.getD] at h1;simp at h1
theorem H6b(p:h0a)(c:G0a)(x:c0a)(M:List Nat)(w0:World)(cs xs:List Value)(hI:InP p M w0 cs)(hX:D0a M w0 c xs)(hf:J5a p c)(he:v5a c)(hx:x∈J0a p 0 c):
 N0a prog 145 #[.agg cs.toArray,.agg xs.toArray,.agg #[.int .i64 x.thread,.int .i64 x.step,.int .i64 x.cell]] w0 fun v w'=>(∃ys,v=.tuple #[.agg ys.toArray,.int .i64 0]∧D0a M w' (doC p 0 c x) ys)∧Below w0.heap.size w0 w':=by
 obtain⟨t,i,th,s,rfl,q0,A0,_⟩:=A1d he hx;have z0:=h6b hI.ok hf hx;obtain⟨Ac,nc,cc,Am,nm,cm,Al,nl,cl,At,nt,ct,rfl,_⟩:=hI.rd.open_;obtain⟨Xm,xm,ym,Xa,xa,ya,Xb,xb,yb,rfl,_⟩:=hX.open_;have S:=St.refl w0;refine a0a func145 Z ntmps145 Z ?_;refine wO0 Z U (m0a S Z ?_);intro g3 w3 S3 X3 G3;refine m0a S3 Z ?_;intro g4 w4 S4 X4 G4;refine m0a S4 Z ?_;intro g5 w5 S5 X5 G5;refine j0a S5 r4a Z Z ?_;intro g6 w6 S6 X6 G6;refine lO S6.k [.w 3] Z ⟨⟨Z,Z⟩,U⟩ (i0a S6 b7b Z Z (k7a p M _ _ (hI.keep (S6.keep0 M))) ?_);intro N0 e0 G0;refine lO e0.k [.w 3,.w 2] Z ⟨⟨Z,Z⟩,⟨Z,Z⟩,U⟩ (i0a e0 K1c Z Z (e1b p c M _ _ _ (hI.keep (e0.keep0 M)) (hX.keep (e0.keep0 M)) hf he) ?_);intro O0 f0 H0;refine lO f0.k [.w 3,.w 2] Z ⟨⟨Z,Z⟩,⟨Z,Z⟩,U⟩ (x0a f0 g0c Z Z (R7a p c M _ _ _ (hI.keep (f0.keep0 M)) (hX.keep (f0.keep0 M)) hf he) ?_);rintro K0 s0 hr t0 I0;obtain⟨Ar,nr,cr,rfl⟩:=hr.form;obtain⟨_,-,_⟩:=hr.len;have b0:=z0a.refl [] s0;refine lC0 Z U (wL (fun μk D ε w=>D=[]∧∃k:Nat,(k+μk=((J0a p 0 c).length))∧(z0a [] s0 w)∧(w1a (J0a p 0 c) k (fun y=>y≠⟨t,i,0⟩))∧St [] w0 w [(some g6,38,[.slice none 0 0,.slice none 0 0,.slice none 0 0]),(some g5,44,[.int .i64 t,.int .i64 i,.int .i64 0]),(some g4,38,[.slice Xm xm ym,.slice Xa xa ya,.slice Xb xb yb]),(some g3,27,[.slice Ac nc cc,.slice Am nm cm,.slice Al nl cl,.slice At nt ct])]∧Sl ε [(3,.pointer (some ⟨g3,0,none⟩)),(4,.pointer (some ⟨g4,0,none⟩)),(5,.pointer (some ⟨g5,0,none⟩)),(6,.pointer (some ⟨g6,0,none⟩)),(22,.slice Ar nr cr),(23,.int .i64 nr),(24,.int .i64 k)]) (μ:=((J0a p 0 c).length)) ⟨Z,0,by omega,b0,w1a.zero,t0,Z⟩ ?_);rintro μk D ε w ⟨rfl,k,_,b0,hs,S,eZ⟩;refine wK eZ (wB0 Z U (fun y0=>?_) fun y0=>?_)
 ·obtain⟨y,x0,C0,_,B0,m0,_,o0,n0,p0⟩:=RdS.get ((hr.keep b0.of_nil)) (k) (by omega);obtain⟨rfl,_⟩:=id p0;refine lO (S.k.b n0) [.x x0 C0,.v 0] Z ⟨⟨Z,o0⟩,⟨m0,by omega⟩,U⟩ (j0a S f2b Z Z ?_);intro g9 w9 S9 X9 G9;have d0:=Nat.le_trans b0.size G9;replace b0:=b0.trans X9;refine e0a (kk:=0) (vs:=[_,_,_]) S9 H1b Z Z Z Z Z Z Z ?_;intro D0 a0 i0;dsimp only[n0a,List.set] at a0;replace b0:=b0.fresh i0 (by first|exact d0);refine lOn 6 a0.k [.w 2,.w 0] Z ⟨⟨Z,by rfl⟩,⟨Z,Z⟩,U⟩ (C6c r8a Z Z Z (fun r0=>?_) fun r0=>?_)
  ·refine lO a0.k [.w 4,.w 3,.w 2] Z ⟨⟨Z,Z⟩,⟨Z,Z⟩,⟨Z,Z⟩,U⟩ (x0a a0 a7c Z Z (V1b p c t i th s (g6::M) _ _ _ (hI.add a0 (k:=1) Z) (D0a.add hX a0 (k:=1) Z) hf he q0 A0 z0) ?_);rintro L0 P0 ⟨ys,rfl,hy⟩ u0 J0;obtain⟨_,_,_,_,_,_,_,_,_,rfl,-⟩:=hy.open_
   first|refine e0a (kk:=1) (vs:=[_,_,_]) u0 o2a Z Z Z Z Z Z Z ?_
   intro E0 c0 j0;dsimp only[n0a,List.set] at c0;replace hy:=hy.keep (j0.mono (by simp));exact lR0 Z U (x2a (n:=3) Z Q0a Z (c0.cells 1 Z) Z Z ⟨⟨_,Z,hy.less (fun g hg=>List.mem_cons_of_mem _ hg)⟩,c0.fin⟩)
  refine lP0 Z ⟨by omega,U⟩ ?_;refine⟨μk-1,by omega,Z,(k+1),(by omega),(b0),(hs.succ B0 (fun h=>r0 (by rw[h];exact⟨Z,Z,Z⟩))),a0.tail,Z⟩
 refine lO0 Z U (d1a k5a (vs:=[]) (cs:=[_,_,_]) Z Z Z Z ?_);refine e0a (kk:=0) (vs:=[_,_,_]) S o2a Z Z Z Z Z Z Z ?_;intro F0 g0 v0;dsimp only[n0a,List.set] at g0;exact lR0 Z U (absurd Z (hs.all (by omega) _ hx))
theorem RdS.take{α:Type}{M:List Nat}{w:World}{size:Nat}{R:List Value→α→Prop}{A:Option Addr}{n c:Nat}{l:List α}(h:RdS M w size R (.slice A n c) l)(i:Nat)(hi:i≤n):RdS M w size R (.slice A i c) (l.take i):=by
 obtain⟨_,_,_,he,_,_,h3,_,h5⟩:=h;cases he;refine⟨_,_,_,Z,by rw[List.length_take];omega,by omega,h3,by omega,fun h0=>?_⟩;obtain⟨b,o,hA,hb,a0⟩:=h5 (by omega);refine⟨b,o,hA,hb,fun j x hx=>a0 j x ?_⟩;rw[List.getElem?_take] at hx
 split at hx
 ·exact hx
 ·cases hx
theorem s5c{l:List Int}(h:l.Nodup){k:Nat}{x:Int}(hx:l[k]?=some x):x∉l.take k:=fun hh=>by
 obtain⟨i,hi,he⟩:=List.getElem_of_mem hh;rw[List.length_take] at hi;obtain⟨hk,hx⟩:=List.getElem?_eq_some_iff.1 hx;rw[List.getElem_take] at he;exact(List.pairwise_iff_getElem.1 h i k (by omega) hk (by omega)) (he.trans hx.symm)
theorem x8b{a b:List Int}{k:Nat}{x y:Int}(hx:a[k]?=some x)(hy:b[k]?=some y):(x,y)∈a.zip b:=List.mem_of_getElem? (i:=k) (by rw[List.getElem?_zip_eq_some];exact⟨hx,hy⟩)
theorem b1c(M:List Nat)(w0:World)(v:Value)(l:List Int)(a:Int)(hR:RdI M w0 v l):
 N0a prog 207 #[v,.int .i64 a] w0 fun v w'=>(∃n,v=.int .i64 n∧(0≤n↔a∈l))∧Below w0.heap.size w0 w':=by
 obtain⟨A,n,c,rfl⟩:=hR.form;obtain⟨_,_⟩:=hR.len;have S:=St.refl w0;refine a0a func207 Z ntmps207 Z ?_;refine wC0 Z U (wL (fun μk D ε w=>D=[]∧∃k:Nat,(k+μk=(l.length))∧(w1a (l) k (fun x=>a≠x))∧St [] w0 w []∧Sl ε [(0,.slice A n c),(1,.int .i64 a),(7,.int .i64 n),(8,.int .i64 k)]) (μ:=(l.length)) ⟨Z,0,by omega,w1a.zero,S,Z⟩ ?_);rintro μk D ε w ⟨rfl,k,_,ha,S,eZ⟩;refine wK eZ (wB0 Z U (fun h9=>?_) fun h9=>?_)
 ·obtain⟨x,f0,g0,_,e0,b0,_,_,c0,d0⟩:=RdS.get (hR) (k) (by omega);obtain⟨rfl,_⟩:=id d0;refine lB (S.k.a c0) [.x f0 g0,.f 0 0] Z ⟨Z,⟨b0,by omega⟩,U⟩ (fun a0=>?_) fun a0=>?_
  ·exact lT Z U Z ⟨⟨_,Z,⟨fun _=>a0▸d0a e0,fun _=>by omega⟩⟩,S.fin⟩
  refine lP0 Z ⟨by omega,U⟩ ⟨μk-1,by omega,Z,(k+1),(by omega),(ha.succ e0 (a0)),S,Z⟩
 exact lT Z U Z ⟨⟨_,Z,⟨fun h=>by omega,fun h=>absurd Z (ha.all (by omega) a h)⟩⟩,S.fin⟩
theorem X6a(M:List Nat)(w0:World)(v:Value)(l:List Int)(a:Int)(hR:RdI M w0 v l):
 N0a prog 192 #[v,.int .i64 a] w0 fun v w'=>v=.bool (decide (a∈l))∧Below w0.heap.size w0 w':=by
 obtain⟨_,_,_,rfl⟩:=hR.form;have S:=St.refl w0;refine a0a func192 Z ntmps192 Z ?_;refine wO0 Z U (x0a S i8c Z Z (b1c M _ _ l a (hR.keep (S.keep0 M))) ?_);rintro v7 w7 ⟨_,rfl,hm⟩ S7 X7;refine lB0 Z U (fun h8=>?_) fun h8=>?_
 ·refine lR0 Z U (r0a Z ?_);exact⟨by rw[decide_eq_true (hm.1 (by omega))],S7.fin⟩
 refine lR0 Z U (r0a Z ?_);exact⟨by rw[decide_eq_false (fun hh=>absurd (hm.2 hh) (by omega))],S7.fin⟩
theorem Z0b(p:h0a)(M:List Nat)(w0:World)(cs:List Value)(hI:InP p M w0 cs):
 N0a prog 180 #[.agg cs.toArray] w0 fun v w'=>v=.bool true∧Below w0.heap.size w0 w':=by
 obtain⟨_,_,_,_,_,_,_,_,_,_,_,_,rfl,_⟩:=hI.rd.open_;have S:=St.refl w0;refine a0a func180 Z ntmps180 Z ?_;refine wO0 Z U (m0a S Z ?_);intro g1 w1 S1 X1 G1;refine lO S1.k [.w 0] Z ⟨⟨Z,by rfl⟩,U⟩ (i0a S1 r1b Z Z (m7a p M _ _ (hI.keep (S1.keep0 M)).rd hI.ok (hI.keep (S1.keep0 M)).msk (hI.keep (S1.keep0 M)).lt) ?_);intro w8 S8 X8;refine lB0 Z U (fun a0=>?_) (fun a0=>by exfalso;omega);exact lT Z U Z ⟨Z,S8.fin⟩
theorem N4b(p:h0a)(en:K0a)(M:List Nat)(w0:World)(cs es:List Value)(hI:InP p M w0 cs)(hE:O0a M w0 es en)(ho:C1b p en):
 N0a prog 206 #[.agg cs.toArray,.agg es.toArray] w0 fun v w'=>v=.bool true∧Below w0.heap.size w0 w':=by
 obtain⟨Ac,nc,cc,Am,nm,cm,Al,nl,cl,At,nt,ct,rfl,hC,_⟩:=hI.rd.open_;obtain⟨Ec,ec,fc,Ev,P0,fv,rfl,m0,K0,_⟩:=hE.open_;have S:=St.refl w0;have l1:=ho.len;have l2:en.values.length=en.cells.length:=ho.even;have l3:en.cells.length≠0:=fun h=>ho.some_ (List.length_eq_zero_iff.1 h);refine a0a func206 Z ntmps206 Z ?_;refine wO0 Z U (m0a S Z ?_);intro g2 w2 S2 X2 G2;refine m0a S2 Z ?_;intro g3 w3 S3 X3 G3;refine lB S3.k [.o 0] Z ⟨Z,U⟩ (fun Q0=>by exfalso;omega) fun Q0=>?_;refine lB S3.k [.o 0,.o 1] Z ⟨Z,Z,U⟩ (fun R0=>by exfalso;omega) fun R0=>?_;refine lB S3.k [.o 0,.o 0] Z ⟨Z,Z,U⟩ (fun S0=>by exfalso;omega) fun S0=>?_;refine lC S3.k [.o 0] Z ⟨Z,U⟩ (wL (fun μk D ε w=>D=[]∧∃k:Nat,(k+μk=(en.cells.length))∧St [] w0 w [(some g3,88,[.slice Ec ec fc,.slice Ev P0 fv]),(some g2,27,[.slice Ac nc cc,.slice Am nm cm,.slice Al nl cl,.slice At nt ct])]∧Sl ε [(2,.pointer (some ⟨g2,0,none⟩)),(3,.pointer (some ⟨g3,0,none⟩)),(31,.slice Ec ec fc),(32,.int .i64 ec),(33,.int .i64 k)]) (μ:=(en.cells.length)) ⟨Z,0,by omega,S3,Z⟩ ?_);rintro μk D ε w ⟨rfl,k,_,S,eZ⟩;refine wK eZ (wB0 Z U (fun T0=>?_) fun T0=>?_)
 ·obtain⟨x,p0,G0,_,n0,f0,_,_,y0,C0⟩:=RdS.get (m0) (k) (by omega);obtain⟨rfl,_⟩:=id C0;have q1:=ho.cells k x n0;obtain⟨q2,q3,q4⟩:=q1;unfold k2a at q2;have v0:RdI M w0 (.slice (some ⟨p0,G0,none⟩) ec fc) en.cells:=f0▸m0;refine lB (S.k.a y0) [.x p0 G0,.f 0 0] Z ⟨Z,⟨f0,by omega⟩,U⟩ (fun U0=>by exfalso;omega) fun U0=>?_;refine lB S.k [.o 1] Z ⟨Z,U⟩ (fun V0=>by exfalso;omega) fun V0=>?_;refine lO S.k [.o 0] Z ⟨Z,U⟩ ?_;refine v9c (k:=k) T0a.slT (show _=Value.slice (some ⟨p0,G0,none⟩) ec fc by rw[←f0];rfl) Z (by have:=m0.len;omega) m0.len.2.1 Z ?_;refine lO0 Z U (i0a S Q6b Z Z ((X6a M _ _ (en.cells.take k) x (RdS.take (v0.keep (S.keep0 M)) k (by omega))).mono (fun v w' h=>⟨h.1.trans (by rw[decide_eq_false (s5c ho.once n0)]),h.2⟩)) ?_);intro a1 J0 Z0;obtain⟨e0,N0,X0,_,b0,u0,_,A0,z0,D0⟩:=RdS.get (hC) (x.toNat) (by omega);obtain⟨rfl,_⟩:=P2a.open_ D0;rw[j1a b0] at q3;rw[Y2a b0] at q4;have q5:=(hI.ok.cells e0 (d0a b0)).w;refine lO (J0.k.a z0) [.o 1,.x N0 X0,.v 0] Z ⟨⟨Z,A0⟩,⟨u0,by omega⟩,Z,U⟩ (j0a J0 g3c Z Z ?_);intro g7 w7 S7 X7 G7;refine e0a (kk:=0) (vs:=[_,_,_,_,_,_]) S7 a3c Z Z Z Z Z Z Z ?_;intro Y0 a0 L0;dsimp only[n0a,List.set] at a0;refine lC0 Z U (v0a b0a [0,1,2,3,4,5,6,7,8,9,10,11,12,13,14,15,16,17,18,19,20,21,22,23,24,25,26,27,28] [] [] Z (Cl _ _ _ _) (Cl.start a0) ?_);refine qB a0.q [.o 0] Z ⟨Z,U⟩ (fun W0=>by exfalso;omega) fun W0=>?_;refine qO0 Z U ?_;rcases(Bool.eq_false_or_eq_true (e0.ghost)).symm with c0|c0
  ·refine o0a i2a Z (fun w1 hw=>by exact(hw.1.cell 0 Z Z).trans (congrArg (fun b=>some (Value.bool b)) c0)) Z ?_;refine qB0 Z U (fun r0=>?_) fun r0=>?_
   ·refine qD Z U ?_;rintro I0 ⟨j0,o0⟩;refine lR0 Z U (r0a Z ?_);exfalso;rw[c0] at q4;simp at q4;omega
   obtain⟨y,q0,H0,O0,E0,g0,x0,B0,d0,i0⟩:=RdS.get (K0) (k) (by omega);obtain⟨rfl,F0⟩:=id i0;have q6:=ho.vals (x,y) (x8b n0 E0);simp only at q6;rw[T5a (h0:=q2.1) b0,W3a] at q6;refine qB (a0.q.a d0) [.o 1,.x q0 H0,.f 0 0] Z ⟨Z,⟨g0,by omega⟩,Z,U⟩ (fun s0=>by exfalso;omega) fun s0=>?_;refine qO a0.q [.o 1] Z ⟨Z,U⟩ (p0a T0a.slT Z (by assumption) Z Z ?_);refine qO0 Z U (o0a M0a Z (fun w1 hw=>by exact hw.1.old (d0 0 _ Z)) Z ?_);refine qO a0.q [.o 0] Z ⟨Z,U⟩ ?_;rw[show e0.w=((e0.w.toNat:Nat):Int) by omega];refine W5c (n:=e0.w.toNat) Z Z ?_;refine qB0 Z U (fun t0=>by exfalso;omega) fun t0=>?_;refine qD Z U ?_;rintro I0 ⟨j0,o0⟩;refine lP0 Z ⟨by omega,U⟩ ⟨μk-1,by omega,Z,(k+1),(by omega),j0.tail,Z⟩
  refine o0a i2a Z (fun w1 hw=>by exact(hw.1.cell 0 Z Z).trans (congrArg (fun b=>some (Value.bool b)) c0)) Z ?_;refine qB0 Z U (fun r0=>?_) fun r0=>?_
  ·obtain⟨y,q0,H0,O0,E0,g0,x0,B0,d0,i0⟩:=RdS.get (K0) (k) (by omega);obtain⟨rfl,F0⟩:=id i0;have q6:=ho.vals (x,y) (x8b n0 E0);simp only at q6;rw[T5a (h0:=q2.1) b0,W3a] at q6;refine qB (a0.q.a d0) [.o 1,.x q0 H0,.f 0 0] Z ⟨Z,⟨g0,by omega⟩,Z,U⟩ (fun s0=>by exfalso;omega) fun s0=>?_;refine qO a0.q [.o 1] Z ⟨Z,U⟩ (p0a T0a.slT Z (by assumption) Z Z ?_);refine qO0 Z U (o0a M0a Z (fun w1 hw=>by exact hw.1.old (d0 0 _ Z)) Z ?_);refine qO a0.q [.o 0] Z ⟨Z,U⟩ ?_;rw[show e0.w=((e0.w.toNat:Nat):Int) by omega];refine W5c (n:=e0.w.toNat) Z Z ?_;refine qB0 Z U (fun t0=>by exfalso;omega) fun t0=>?_;refine qD Z U ?_;rintro I0 ⟨j0,o0⟩;refine lP0 Z ⟨by omega,U⟩ ⟨μk-1,by omega,Z,(k+1),(by omega),j0.tail,Z⟩
  refine qD Z U ?_;rintro I0 ⟨j0,o0⟩;refine lR0 Z U (r0a Z ?_);exfalso;rw[c0] at q4;simp at q4;omega
 exact lT Z U Z ⟨Z,S.fin⟩
theorem P2b(p:h0a)(c:G0a)(M:List Nat)(w0:World)(cs xs:List Value)(hI:InP p M w0 cs)(hX:D0a M w0 c xs)(hf:J5a p c):
 N0a prog 181 #[.agg cs.toArray,.agg xs.toArray] w0 fun v w'=>v=.bool true∧Below w0.heap.size w0 w':=by
 obtain⟨Ac,nc,cc,Am,nm,cm,Al,nl,cl,At,nt,ct,rfl,hC,_,_,B2,_⟩:=hI.rd.open_;obtain⟨Xm,xm,ym,Xa,xa,ya,Xb,xb,yb,rfl,A1,A2,s0,_,_,a1,_⟩:=hX.open_;have S:=St.refl w0;have f1:=hf.mem.len;have f2:=hf.nat;have f3:=hf.nbuf;refine a0a func181 Z ntmps181 Z ?_;refine wO0 Z U (m0a S Z ?_);intro g2 w2 S2 X2 G2;refine m0a S2 Z ?_;intro g3 w3 S3 X3 G3;refine lB S3.k [.o 0,.o 1] Z ⟨Z,Z,U⟩ (fun n2=>by exfalso;omega) fun n2=>?_;refine lB S3.k [.o 0,.o 1] Z ⟨Z,Z,U⟩ (fun o2=>by exfalso;omega) fun o2=>?_;refine lB S3.k [.o 0,.o 1] Z ⟨Z,Z,U⟩ (fun p2=>by exfalso;omega) fun p2=>?_;refine lC S3.k [.o 0] Z ⟨Z,U⟩ (wL (fun μk D ε w=>D=[]∧∃k:Nat,(k+μk=(c.mem.length))∧St [] w0 w [(some g3,38,[.slice Xm xm ym,.slice Xa xa ya,.slice Xb xb yb]),(some g2,27,[.slice Ac nc cc,.slice Am nm cm,.slice Al nl cl,.slice At nt ct])]∧Sl ε [(2,.pointer (some ⟨g2,0,none⟩)),(3,.pointer (some ⟨g3,0,none⟩)),(38,.slice Xm xm ym),(39,.int .i64 xm),(40,.int .i64 k)]) (μ:=(c.mem.length)) ⟨Z,0,by omega,S3,Z⟩ ?_);rintro μk D ε w ⟨rfl,k,hk,S,eZ⟩;refine wK eZ (wB0 Z U (fun r2=>?_) fun r2=>?_)
 ·obtain⟨v,Z1,C2,_,n1,u1,_,_,B1,I1⟩:=RdS.get (A1) (k) (by omega);obtain⟨rfl,_⟩:=id I1;have q1:=hf.mem.vals k v n1;refine lB (S.k.a B1) [.x Z1 C2,.f 0 0] Z ⟨Z,⟨u1,by omega⟩,U⟩ (fun s2=>by exfalso;omega) fun s2=>?_;obtain⟨x,a2,D2,_,V1,v1,_,_,C1,J1⟩:=RdS.get (hC) (k) (by omega);obtain⟨rfl,_⟩:=P2a.open_ J1;have q2:=(hI.ok.cells x (d0a V1)).w;rw[s3d V1,W3a] at q1;refine lO (S.k.a C1) [.o 1,.x a2 D2,.f 0 1] Z ⟨Z,⟨v1,by omega⟩,Z,U⟩ ?_;rw[show x.w=((x.w.toNat:Nat):Int) by omega];refine j6c (n:=x.w.toNat) Z Z ?_;refine lB0 Z U (fun t2=>by exfalso;omega) fun t2=>?_;refine lP0 Z ⟨by omega,U⟩ ⟨μk-1,by omega,Z,(k+1),(by omega),S,Z⟩
 refine lC S.k [.o 0] Z ⟨Z,U⟩ (wL (fun μk D ε w=>D=[]∧∃k:Nat,(k+μk=(c.at_.length))∧St [] w0 w [(some g3,38,[.slice Xm xm ym,.slice Xa xa ya,.slice Xb xb yb]),(some g2,27,[.slice Ac nc cc,.slice Am nm cm,.slice Al nl cl,.slice At nt ct])]∧Sl ε [(2,.pointer (some ⟨g2,0,none⟩)),(3,.pointer (some ⟨g3,0,none⟩)),(60,.slice Xa xa ya),(61,.int .i64 xa),(62,.int .i64 k)]) (μ:=(c.at_.length)) ⟨Z,0,by omega,S,Z⟩ ?_);rintro μk D ε w ⟨rfl,k,hk,S,eZ⟩;refine wK eZ (wB0 Z U (fun u2=>?_) fun u2=>?_)
 ·obtain⟨v,b2,E2,_,n1,w1,_,_,D1,K1⟩:=RdS.get (A2) (k) (by omega);obtain⟨rfl,_⟩:=id K1;obtain⟨th,d2,F2,_,Q1,x1,_,H1,E1,M1⟩:=RdS.get (B2) (k) (by omega);obtain⟨G0,b1,R0,J0,g1,U0,K0,i1,V0,I0,d1,T0,rfl,_⟩:=R0a.open_ M1;have q1:=hf.atr k v n1 th Q1;refine lO ((S.k.a E1).a D1) [.x b2 E2,.f 0 0,.o 1,.x d2 F2,.v 1] Z ⟨⟨Z,H1⟩,⟨x1,by omega⟩,Z,Z,⟨w1,by omega⟩,U⟩ (j0a S p4b Z Z ?_);intro g9 w9 S9 X9 G9;refine e0a (kk:=0) (vs:=[_,_,_,_,_,_,_]) S9 o4b Z Z Z Z Z Z Z ?_;intro W1 b0 U1;dsimp only[n0a,List.set] at b0;refine lB0 Z U (fun v2=>by exfalso;omega) fun v2=>?_;refine lB b0.k [.o 0] Z ⟨Z,U⟩ (fun x2=>by exfalso;omega) fun x2=>?_;obtain⟨b,i2,H2,_,a1,y1,_,_,F1,N1⟩:=RdS.get (s0) (k) (by omega);obtain⟨_,_,_,rfl,_⟩:=R4a.open_ N1;have q3:=hf.bufs k b a1;refine lB (b0.k.a F1) [.o 1,.x i2 H2,.f 0 0] Z ⟨Z,⟨y1,by omega⟩,Z,U⟩ (fun y2=>by exfalso;omega) fun y2=>?_;refine lB0 Z U (fun z2=>?_) fun z2=>?_
  ·refine lO0 Z U ?_;cases m0:th.asleep
   ·refine s0a i2a Z (by exact(b0.cell 0 Z Z).trans (congrArg (fun b=>some (Value.bool b)) m0)) Z ?_;rw[q1.2.2 (by omega)] at m0;refine lR0 Z U (r0a Z ?_);cases m0
   refine s0a i2a Z (by exact(b0.cell 0 Z Z).trans (congrArg (fun b=>some (Value.bool b)) m0)) Z ?_;rw[q1.2.2 (by omega)] at m0;have q4:=q3.2.2 (by rw[n1];exact congrArg some (by omega));have q4:b.length=0:=by rw[q4];rfl
   obtain⟨_,j2,I2,_,P1,z1,_,_,G1,O1⟩:=RdS.get (s0) (k) (by omega);obtain rfl:=Option.some.inj (a1.symm.trans P1);obtain⟨_,_,_,rfl,_⟩:=R4a.open_ O1;refine lB (b0.k.a G1) [.o 1,.x j2 I2,.f 0 0] Z ⟨Z,⟨z1,by omega⟩,Z,U⟩ (fun t1=>by exfalso;omega) fun t1=>?_;obtain⟨T1,u0,E0,r1,r0,i0,X0,Z0,n0,q0⟩:=RdS.get (s0) (k) (by omega);obtain rfl:=Option.some.inj (a1.symm.trans r0);obtain⟨f0,d0,g0,rfl,e0,A0,O0⟩:=R4a.open_ q0;refine lC (b0.k.a n0) [.o 1,.x u0 E0,.f 0 0] Z ⟨Z,⟨i0,by omega⟩,Z,U⟩ (wL (fun μj D ε w=>D=[]∧∃j:Nat,(j+μj=(b.length))∧St [] w0 w [(some g9,93,[.string th.name,.int .i64 th.points,.slice G0 b1 R0,.slice J0 g1 U0,.slice K0 i1 V0,.slice I0 d1 T0,.bool th.asleep]),(some g3,38,[.slice Xm xm ym,.slice Xa xa ya,.slice Xb xb yb]),(some g2,27,[.slice Ac nc cc,.slice Am nm cm,.slice Al nl cl,.slice At nt ct])]∧Sl ε [(2,.pointer (some ⟨g2,0,none⟩)),(3,.pointer (some ⟨g3,0,none⟩)),(60,.slice Xa xa ya),(61,.int .i64 xa),(62,.int .i64 k),(109,.slice f0 d0 g0),(110,.int .i64 d0),(111,.int .i64 j)]) (μ:=(b.length)) ⟨Z,0,by omega,b0,Z⟩ ?_);rintro μj D ε w ⟨rfl,j,hj,S,eZ⟩;refine wK eZ (wB0 Z U (fun x0=>?_) fun x0=>?_)
   ·obtain⟨en,v0,F0,s1,D0,j0,Y0,p0,o0,c0⟩:=RdS.get (e0) (j) (by omega);obtain⟨H0,c1,S0,L0,j1,W0,rfl,y0,z0,B0,C0,P0,Q0⟩:=O0a.open_ c0;have q5:=q3.2.1 en (d0a D0);refine lO (S.k.a o0) [.x v0 F0,.v 0] Z ⟨⟨Z,p0⟩,⟨j0,by omega⟩,U⟩ (j0a S q1b Z Z ?_);intro m2 J2 o1 Y1 X1;refine e0a (kk:=0) (vs:=[_,_]) o1 U3b Z Z Z Z Z Z Z ?_;intro m1 a0 N0;dsimp only[n0a,List.set] at a0;refine lO a0.k [.w 3,.w 0] Z ⟨⟨Z,by rfl⟩,⟨Z,Z⟩,U⟩ (i0a a0 o1c Z Z (N4b p en M _ _ _ (hI.keep (a0.keep0 M)) (O0a.keep (a0.keep0 M) _ _ c0) q5) ?_);intro R1 t0 p1;refine lP0 Z ⟨by omega,U⟩ ⟨μj-1,by omega,Z,(j+1),(by omega),t0.tail,Z⟩
   refine lP0 Z ⟨by omega,U⟩ ⟨μk-1,by omega,Z,(k+1),(by omega),S.tail,Z⟩
  obtain⟨T1,u0,E0,r1,r0,i0,X0,Z0,n0,q0⟩:=RdS.get (s0) (k) (by omega);obtain rfl:=Option.some.inj (a1.symm.trans r0);obtain⟨f0,d0,g0,rfl,e0,A0,O0⟩:=R4a.open_ q0;refine lC (b0.k.a n0) [.o 1,.x u0 E0,.f 0 0] Z ⟨Z,⟨i0,by omega⟩,Z,U⟩ (wL (fun μj D ε w=>D=[]∧∃j:Nat,(j+μj=(b.length))∧St [] w0 w [(some g9,93,[.string th.name,.int .i64 th.points,.slice G0 b1 R0,.slice J0 g1 U0,.slice K0 i1 V0,.slice I0 d1 T0,.bool th.asleep]),(some g3,38,[.slice Xm xm ym,.slice Xa xa ya,.slice Xb xb yb]),(some g2,27,[.slice Ac nc cc,.slice Am nm cm,.slice Al nl cl,.slice At nt ct])]∧Sl ε [(2,.pointer (some ⟨g2,0,none⟩)),(3,.pointer (some ⟨g3,0,none⟩)),(60,.slice Xa xa ya),(61,.int .i64 xa),(62,.int .i64 k),(109,.slice f0 d0 g0),(110,.int .i64 d0),(111,.int .i64 j)]) (μ:=(b.length)) ⟨Z,0,by omega,b0,Z⟩ ?_);rintro μj D ε w ⟨rfl,j,hj,S,eZ⟩;refine wK eZ (wB0 Z U (fun x0=>?_) fun x0=>?_)
  ·obtain⟨en,v0,F0,s1,D0,j0,Y0,p0,o0,c0⟩:=RdS.get (e0) (j) (by omega);obtain⟨H0,c1,S0,L0,j1,W0,rfl,y0,z0,B0,C0,P0,Q0⟩:=O0a.open_ c0;have q5:=q3.2.1 en (d0a D0);refine lO (S.k.a o0) [.x v0 F0,.v 0] Z ⟨⟨Z,p0⟩,⟨j0,by omega⟩,U⟩ (j0a S q1b Z Z ?_);intro m2 J2 o1 Y1 X1;refine e0a (kk:=0) (vs:=[_,_]) o1 U3b Z Z Z Z Z Z Z ?_;intro m1 a0 N0;dsimp only[n0a,List.set] at a0;refine lO a0.k [.w 3,.w 0] Z ⟨⟨Z,by rfl⟩,⟨Z,Z⟩,U⟩ (i0a a0 o1c Z Z (N4b p en M _ _ _ (hI.keep (a0.keep0 M)) (O0a.keep (a0.keep0 M) _ _ c0) q5) ?_);intro R1 t0 p1;refine lP0 Z ⟨by omega,U⟩ ⟨μj-1,by omega,Z,(j+1),(by omega),t0.tail,Z⟩
  refine lP0 Z ⟨by omega,U⟩ ⟨μk-1,by omega,Z,(k+1),(by omega),S.tail,Z⟩
 exact lT Z U Z ⟨Z,S.fin⟩
theorem x8c(p:h0a)(c:G0a)(m:Int)(hm:m=1∨m=2)(M:List Nat)(w0:World)(cs xs:List Value)(hI:InP p M w0 cs)(hX:D0a M w0 c xs)(hf:J5a p c):
 N0a prog 141 #[.agg cs.toArray,.int .i64 m,.agg xs.toArray] w0 fun v w'=>v=.tuple #[.agg (xs++(cs++[Value.int .i64 m])).toArray,.bool true]∧Below w0.heap.size w0 w':=by
 obtain⟨_,_,_,_,_,_,_,_,_,_,_,_,rfl,_⟩:=hI.rd.open_;obtain⟨_,_,_,_,_,_,_,_,_,rfl,_⟩:=hX.open_;have S:=St.refl w0;refine a0a func141 Z ntmps141 Z ?_;refine wO0 Z U (m0a S Z ?_);intro g3 w3 S3 X3 G3;refine m0a S3 Z ?_;intro g5 w5 S5 X5 G5;refine j0a S5 A6c Z Z ?_;intro g6 w6 S6 X6 G6;refine lB0 Z U (fun h9=>?_) fun h9=>?_
 ·refine lB0 Z U (fun i0=>by exfalso;omega) fun i0=>?_;refine lO S6.k [.w 2] Z ⟨⟨Z,by rfl⟩,U⟩ (i0a S6 G1c Z Z (Z0b p M _ _ (hI.keep (S6.keep0 M))) ?_);intro j0 b0 f0;refine lO b0.k [.w 2,.w 1] Z ⟨⟨Z,by rfl⟩,⟨Z,by rfl⟩,U⟩ (i0a b0 z1c Z Z (P2b p c M _ _ _ (hI.keep (b0.keep0 M)) (hX.keep (b0.keep0 M)) hf) ?_);intro m0 c0 g0;refine lO c0.k [.w 1,.w 2] Z ⟨⟨Z,by rfl⟩,⟨Z,by rfl⟩,U⟩ (d1a c3c (vs:=[(0,.agg _),(1,.agg _),(2,.int .i64 _)]) (cs:=[_,_,_,_,_,_,_,_]) Z Z Z Z ?_);refine e0a (kk:=0) (vs:=[_,_,_,_,_,_,_,_]) c0 P2c Z Z Z Z Z Z Z ?_;intro e0 a0 d0;dsimp only[n0a,List.set] at a0;exact lR0 Z U (x2a (n:=8) Z w0b Z (a0.cells 0 Z) Z Z ⟨Z,a0.fin⟩)
 refine lO S6.k [.w 2] Z ⟨⟨Z,by rfl⟩,U⟩ (i0a S6 G1c Z Z (Z0b p M _ _ (hI.keep (S6.keep0 M))) ?_);intro j0 b0 f0;refine lO b0.k [.w 2,.w 1] Z ⟨⟨Z,by rfl⟩,⟨Z,by rfl⟩,U⟩ (i0a b0 z1c Z Z (P2b p c M _ _ _ (hI.keep (b0.keep0 M)) (hX.keep (b0.keep0 M)) hf) ?_);intro m0 c0 g0;refine lO c0.k [.w 1,.w 2] Z ⟨⟨Z,by rfl⟩,⟨Z,by rfl⟩,U⟩ (d1a c3c (vs:=[(0,.agg _),(1,.agg _),(2,.int .i64 _)]) (cs:=[_,_,_,_,_,_,_,_]) Z Z Z Z ?_);refine e0a (kk:=0) (vs:=[_,_,_,_,_,_,_,_]) c0 P2c Z Z Z Z Z Z Z ?_;intro e0 a0 d0;dsimp only[n0a,List.set] at a0;exact lR0 Z U (x2a (n:=8) Z w0b Z (a0.cells 0 Z) Z Z ⟨Z,a0.fin⟩)
section
variable {P:Program} {r:Option Nat} {N:Nat} {D:List Deferred} {e:Env} {w w0:World} {ops:Array Oper} {rest:List Oper} {K:List Deferred→Env→World→Prop} {L:List Ent} {M:List Nat}
variable {d:Nat} {t:TypeId} {p:String} {af:Array Edge} {x y:Operand} {yt:TypeId}
theorem Z7b{ty size n c:Nat}{A:Option Addr}(hT:SlT P ty size)(hx:ev e x=.slice A n c)(hy:ev e y=.slice none 0 0)(hd:Nat.ble (d+1) N=true)
 (h1:A=none→WL P r N ops rest K D (upd e d (.bool true)) w) (h2:A.isSome=true→WL P r N ops rest K D (upd e d (.bool false)) w) :
 WL P r N ops (⟨some d,.binOp .eql ty x y yt,t,p,af,none⟩::rest) K D e w:=by
 obtain⟨el,hu,_⟩:=A5a hT;have hr:=Lib.run_eql_slice_nil (P:=P) w ty el A n c 0 0 hu;cases A with
 | none=>exact r1a Z Z hd (by simp[execOp,hx,hy,eqGuard,hr]) (h1 Z)
 | some a=>exact r1a Z Z hd (by simp[execOp,hx,hy,eqGuard,hr]) (h2 Z)
end
theorem A3a.pad{G:Option Nat}{n:Nat}{cs:List Value}{v:Value}{l:List Int}(h:A3a G 1 n cs v (l.map (Value.int .i64)))(h0:0<l.length):∃g pad,G=some g∧v=.slice (some ⟨g,0,none⟩) l.length (l.length+pad.length)∧cs=l.map (Value.int .i64)++pad∧l.length+pad.length≤maxLen:=by
 obtain⟨h1,h2⟩:=h;simp only[List.length_map,Nat.mul_one] at h1;rcases h2 with⟨_,_,h2⟩|⟨g,a0,rfl,rfl,h3,h4,h5,h6⟩
 ·omega
 ·simp only[Nat.mul_one] at h5 h6;refine⟨g,cs.drop n,Z,?_,?_,?_⟩
  ·rw[List.length_drop,h5,h1];congr 1;omega
  ·rw[←h6,List.take_append_drop]
  ·rw[List.length_drop,h5,h1];omega
theorem A3a.ofPad{g:Nat}{l:List Int}{pad:List Value}(h:l.length+pad.length≤maxLen):A3a (some g) 1 l.length (l.map (Value.int .i64)++pad) (.slice (some ⟨g,0,none⟩) l.length (l.length+pad.length)) (l.map (Value.int .i64)) :=
 ⟨by simp,.inr ⟨g,_,Z,Z,by omega,h,by simp,by simp⟩⟩
def J4a(mem:List Int)(e:K0a)(k:Nat):List Int:=((e.cells.zip e.values).take k).foldl (fun m x=>m.set x.1.toNat x.2) mem
theorem Q9a(mem:List Int)(e:K0a):J4a mem e 0=mem:=by simp[J4a]
theorem X0b(mem:List Int)(e:K0a){k:Nat}(h:e.cells.length≤k:=by omega):J4a mem e k=z2a mem e:=by
 unfold J4a z2a;rw[List.take_of_length_le (by rw[List.length_zip];omega)]
theorem U9a{mem:List Int}{e:K0a}{k:Nat}{x y:Int}(hx:e.cells[k]?=some x)(hy:e.values[k]?=some y):J4a mem e (k+1)=(J4a mem e k).set x.toNat y:=by
 unfold J4a;rw[a1a (x:=(x,y)) (by rw[List.getElem?_zip_eq_some];exact⟨hx,hy⟩),List.foldl_append];rfl
theorem p5a:∀(l:List (Int×Int)) (mem:List Int),(l.foldl (fun m x=>m.set x.1.toNat x.2) mem).length=mem.length
 | [],_=>rfl
 | x::l,mem=>by rw[List.foldl_cons,p5a l,List.length_set]
@[simp] theorem D9c(mem:List Int)(e:K0a)(k:Nat):(J4a mem e k).length=mem.length:=p5a _ _
@[simp] theorem p9b(mem:List Int)(e:K0a):(z2a mem e).length=mem.length:=p5a _ _
theorem y6a{l:List Int}{pad:List Value}{i:Nat}{y:Int}(hi:i<l.length):(l.map (Value.int .i64)++pad).set i (.int .i64 y)=(l.set i y).map (Value.int .i64)++pad:=by
 rw[List.set_append_left _ _ (by simpa using hi),List.map_set]
def h5a(c:G0a)(b:List K0a)(k:Nat):List Int:=(b.take k).foldl z2a c.mem
theorem Y7a{c:G0a}{b:List K0a}{k:Nat}{e:K0a}(h:b[k]?=some e):h5a c b (k+1)=z2a (h5a c b k) e:=by
 unfold h5a;rw[a1a h,List.foldl_append];rfl
theorem o9a{c:G0a}{t:Nat}{b:List K0a}(h:c.buf[t]?=some b){k:Nat}(hk:b.length≤k):h5a c b k=o1a c t:=by
 unfold h5a o1a;rw[List.take_of_length_le hk,getD_some h]
theorem V4b:∀(l:List K0a) (m:List Int),(l.foldl z2a m).length=m.length
 | [],_=>rfl
 | x::l,m=>by rw[List.foldl_cons,V4b l,p9b]
@[simp] theorem u0d(c:G0a)(b:List K0a)(k:Nat):(h5a c b k).length=c.mem.length:=V4b _ _
theorem n6b{p:h0a}{c:G0a}(hf:J5a p c){b:List K0a}(hb:∀e∈b,C1b p e)(k:Nat):b6a p (h5a c b k):=by
 unfold h5a;have key:∀(l:List K0a) (m:List Int),b6a p m→(∀e∈l,C1b p e)→b6a p (l.foldl z2a m):=by
  intro l
  induction l with
  | nil=>intro m h _;exact h
  | cons e l ih=>intro m h hl;rw[List.foldl_cons];exact ih _ (h.write (hl e (by simp))) fun x hx=>hl x (by simp[hx])
 exact key _ _ hf.mem fun e he=>hb e (List.mem_of_mem_take he)
theorem B8a(M:List Nat)(w0:World)(v:Value)(l:List Int)(hR:RdI M w0 v l)(hl:l.length≤100000000:=by omega):
 N0a prog 182 #[v] w0 fun v w'=>h7a 3 w0 w' v l∧Below w0.heap.size w0 w':=by
 obtain⟨_,n,_,rfl⟩:=hR.form;obtain⟨_,_⟩:=hR.len;have S:=St.refl w0;refine a0a func182 Z ntmps182 Z ?_;refine wOn 9 S.k [] Z U (Z7b T0a.slT Z Z Z (fun h4=>?_) fun h4=>?_)
 ·refine lR0 Z U (r0a Z ?_);subst h4;obtain⟨A',n',c',he,h1,h2,h3,h5,h6⟩:=hR;cases he;have h0:l.length=0:=by
   rcases Nat.eq_zero_or_pos n with h|h
   ·omega
   ·obtain⟨_,_,h7,_⟩:=h6 h;cases h7
  obtain rfl:=List.length_eq_zero_iff.1 h0;exact⟨⟨none,[],A3a.nil 1,fun g hg=>by cases hg⟩,S.fin⟩
 refine lO0 Z U (C7a S T0a Z ?_);intro g5 w5 S5 X5 G5;refine lO0 Z U (U6a (hbytes:=(by decide)) (k:=0) (xs:=[]) S5 T0a Z A3a.new Z Z (hR.keep (S5.keep0 M)) (by simpa using hl) Z ?_);intro v7 G7 a0 w7 S7 R7 X7;refine q0a Z ?_;refine lR0 Z U (r0a Z ?_);refine⟨⟨G7,a0,by simpa using R7,fun g hg=>?_⟩,S7.fin⟩;subst hg;exact⟨by simpa using S7.new 0 Z,S7.blk 0 Z⟩
theorem e8b(en:K0a)(mem:List Int)(g n0:Nat)(pad:List Value)(M:List Nat)(w0:World)(es:List Value)(hE:O0a M w0 es en)(hB:E0a w0 (g,3,mem.map (Value.int .i64)++pad))(o0:en.even)(z0:∀x∈en.cells,0≤x∧x<mem.length)(y0:g∈M:=by simp):
 N0a prog 183 #[.slice (some ⟨g,0,none⟩) mem.length n0,.agg es.toArray] w0 fun _ w'=>E0a w' (g,3,(z2a mem en).map (Value.int .i64)++pad)∧S0a [g] w0 w':=by
 obtain⟨Ec,ec,fc,Ev,t0,fv,rfl,v0,x0,_⟩:=hE.open_;have S:=St.borrow1 hB;have a0:∀x∈[g],x∈M:=fun x hx=>by rw[List.mem_singleton] at hx;subst hx;exact y0
 have o0:en.values.length=en.cells.length:=o0;refine a0a func183 Z ntmps183 Z ?_;refine wO0 Z U (m0a S Z ?_);intro g3 w3 S3 X3 G3;refine lC S3.k [.o 0] Z ⟨Z,U⟩ (wL (fun μk D ε w=>D=[]∧∃k:Nat,(k+μk=(en.cells.length))∧St [g] w0 w [(some g3,88,[.slice Ec ec fc,.slice Ev t0 fv]),(some g,3,(J4a mem en k).map (Value.int .i64)++pad)]∧Sl ε [(0,.slice (some ⟨g,0,none⟩) mem.length n0),(3,.pointer (some ⟨g3,0,none⟩)),(7,.slice Ec ec fc),(8,.int .i64 ec),(9,.int .i64 k)]) (μ:=(en.cells.length)) ⟨Z,0,by omega,(S3.setEnt 1 Z (by rw[Q9a])),Z⟩ ?_);rintro μk D ε w ⟨rfl,k,_,S,eZ⟩;refine wK eZ (wB0 Z U (fun u0=>?_) fun u0=>?_)
 ·obtain⟨x,r0,B0,_,p0,c0,e0,_,g0,j0⟩:=RdS.get (v0) (k) (by omega);obtain⟨rfl,_⟩:=id j0;have q1:=z0 x (d0a p0);obtain⟨_,s0,C0,_,A0,d0,f0,_,i0,m0⟩:=RdS.get (x0) (k) (by omega);obtain⟨rfl,_⟩:=id m0;refine lO ((S.k.b (i0.keep (S.keepM.mono a0) f0)).b (g0.keep (S.keepM.mono a0) e0)) [.x r0 B0,.f 0 0,.o 0,.x s0 C0,.f 1 0,.i] Z ⟨by omega,Z,⟨d0,by omega⟩,Z,Z,⟨c0,by omega⟩,U⟩ ?_
  first|refine u0a (kk:=1) S m8a Z Z Z (by(simp;omega)) ?_
  intro D0 b0 q0;refine lP0 Z ⟨by omega,U⟩ ?_;refine⟨μk-1,by omega,Z,(k+1),(by omega),(b0.setEnt 1 Z (by rw[U9a p0 A0];simp only[Nat.zero_add,Nat.mul_one];exact y6a (by simp;omega))),Z⟩
 refine lF0 Z U (c2a Z ?_);have SF:=S.setEnt 1 Z (show _=(z2a mem en).map (Value.int .i64)++pad by rw[X0b _ _]);exact⟨SF.blk 1 Z,SF.below⟩
theorem u7a{o e:K0a}:A9a o e=true↔∃c∈e.cells,c∈o.cells:=by
 unfold A9a;rw[List.any_eq_true];constructor
 ·rintro⟨x,h1,h2⟩;exact⟨x,by simpa using h2,h1⟩
 ·rintro⟨x,h1,h2⟩;exact⟨x,h2,by simpa using h1⟩
theorem t2c{o e:K0a}(h:∀c∈e.cells,c∉o.cells):A9a o e=false:=by
 cases hm:A9a o e with
 | false=>rfl
 | true=>obtain⟨c,h1,h2⟩:=u7a.1 hm;exact absurd h2 (h c h1)
section
variable {p:h0a} {m:Int} {c:G0a} {t:Nat} {s:v1a} {a:Int} {b:List K0a} {nb:Nat}
theorem X1c(hx:c.at_[t]?=some a)(h1:¬a=s.frm):b1a p m c t s=false:=by unfold b1a;rw[getD_some hx];simp[h1]
theorem O7b(h2:¬s.guard.evl (o1a c t) (o1a c t)=1):b1a p m c t s=false:=by unfold b1a;simp[h2]
theorem u2d(hm:¬m=0)(hx:c.at_[t]?=some a)(h1:a=s.frm)(h2:s.guard.evl (o1a c t) (o1a c t)=1)(hb:c.buf[t]?=some b)(hn:nb=b.length)(hk:s.kind=3)(hr:s.release=false):b1a p m c t s=decide ((nb:Int)<3):=by
 unfold b1a;rw[getD_some hx,getD_some hb];subst hn;simp[h1,h2,hk,hr,hm];omega
theorem G2c(hm:¬m=0)(hx:c.at_[t]?=some a)(h1:a=s.frm)(h2:s.guard.evl (o1a c t) (o1a c t)=1)(hb:c.buf[t]?=some b)(hn:nb=b.length)(hk:s.kind=3)(hr:s.release=true):b1a p m c t s=decide ((nb:Int)=0):=by
 unfold b1a;rw[getD_some hx,getD_some hb];subst hn;cases b<;>simp[h1,h2,hk,hr,hm];omega
theorem B9b(hx:c.at_[t]?=some a)(h1:a=s.frm)(h2:s.guard.evl (o1a c t) (o1a c t)=1)(hb:c.buf[t]?=some b)(hn:nb=b.length)(hk:s.kind=4∨s.kind=5):b1a p m c t s=decide ((nb:Int)=0):=by
 unfold b1a;rw[getD_some hx,getD_some hb];subst hn;rw[if_neg (by omega),if_neg (by omega),if_neg (by omega),if_neg (by omega)];cases b<;>simp[h1,h2];omega
theorem v2d(hx:c.at_[t]?=some a)(h1:a=s.frm)(h2:s.guard.evl (o1a c t) (o1a c t)=1)(hb:c.buf[t]?=some b)(hn:nb=b.length)(hk:s.kind=6){a2:Int}(a0:c.at_[s.target.toNat]?=some a2):b1a p m c t s=(decide ((nb:Int)=0)&&decide (a2=-1)):=by
 unfold b1a;rw[getD_some hx,getD_some hb,getD_some a0];subst hn;cases b<;>simp[h1,h2,hk];omega
theorem B5c(hb:c.buf[t]?=some b)(hn:nb=b.length)(hk:s.kind=6∨s.kind=7)(h0:¬(nb:Int)=0):b1a p m c t s=false:=by
 unfold b1a;rw[getD_some hb];subst hn;cases b with
 | nil=>simp at h0
 | cons e b=>rcases hk with hk|hk<;>simp[hk]
theorem G2d(hx:c.at_[t]?=some a)(h1:a=s.frm)(h2:s.guard.evl (o1a c t) (o1a c t)=1)(hb:c.buf[t]?=some b)(hn:nb=b.length)(hk:s.kind=7){a2:Int}(d0:c.at_[s.target.toNat]?=some a2){u:U0a}(hu:p.threads[s.target.toNat]?=some u){b2:List K0a}{a0:Nat}(b0:c.buf[s.target.toNat]?=some b2)(c0:a0=b2.length):b1a p m c t s=(decide ((nb:Int)=0)&&(decide (a2=u.points-1)&&decide ((a0:Int)=0))):=by
 unfold b1a;rw[getD_some hx,getD_some hb,getD_some d0,getD_some hu,getD_some b0];subst hn;subst c0;cases b with
 | nil=>cases b2 with
   | nil=>simp[h1,h2,hk]
   | cons e b2=>simp[h1,h2,hk];omega
 | cons e b=>simp[h1,h2,hk];omega
theorem J1d(hk:s.kind=7){a2:Int}(a0:c.at_[s.target.toNat]?=some a2){u:U0a}(hu:p.threads[s.target.toNat]?=some u)(h0:¬a2=u.points-1):b1a p m c t s=false:=by
 unfold b1a;rw[getD_some a0,getD_some hu];simp[hk,h0]
theorem X8c(hx:c.at_[t]?=some a)(h1:a=s.frm)(h2:s.guard.evl (o1a c t) (o1a c t)=1)(hk:s.kind=1∨s.kind=2):b1a p m c t s=true:=by
 unfold b1a;rw[getD_some hx];rw[if_neg (by omega),if_neg (by omega),if_neg (by omega),if_pos hk];simp[h1,h2]
end
theorem C1b.i64s{p:h0a}{e:K0a}(h:C1b p e):∀x∈e.cells,0≤x∧x<p.cells.length:=fun x hx=>by
 obtain⟨i,hi,rfl⟩:=List.getElem_of_mem hx;exact(h.cells i _ (List.getElem?_eq_getElem hi)).1
theorem q0d(p:h0a)(hp:n1a p)(c:G0a)(t:Nat)(b:List K0a)(M:List Nat)(w0:World)(hM:∀g∈M,g<w0.heap.size)(xs:List Value)(hX:D0a M w0 c xs)(hf:J5a p c)(f0:c.buf[t]?=some b):
 N0a prog 142 #[.agg xs.toArray,.int .i64 t] w0 fun v w'=>RdI M w' v (o1a c t)∧Below w0.heap.size w0 w':=by
 obtain⟨Xm,xm,ym,Xa,xa,ya,Xb,xb,yb,rfl,s0,_,r0,_⟩:=hX.open_;have S:=St.refl w0;have f1:=hf.mem.len;have n1:=hp.ncells;have n2:=hp.nthreads;have f3:=hf.nbuf;have ht:=g1a f0;have A0:=(hf.bufs t b f0).2.1;refine a0a func142 Z ntmps142 Z ?_;refine wO0 Z U (m0a S Z ?_);intro g2 w2 S2 X2 G2;refine lO S2.k [.o 0] Z ⟨Z,U⟩ (x0a S2 O0b Z Z (B8a M _ _ c.mem (s0.keep (S2.keep0 M))) ?_);rintro C0 T0 hN G0 R0;obtain⟨E0,o0,F0,c0⟩:=hN.open_ G0 S2;refine q0a Z ?_;obtain⟨_,J0,O0,_,z0,p0,_,_,u0,y0⟩:=RdS.get (r0) (t) (by omega);obtain rfl:=Option.some.inj (f0.symm.trans z0);obtain⟨j0,i0,m0,rfl,d0,_⟩:=R4a.open_ y0;refine lC (c0.k.a u0) [.o 1,.x J0 O0,.f 0 0] Z ⟨Z,⟨p0,by omega⟩,Z,U⟩ (wL (fun μk D ε w=>D=[]∧∃k:Nat,∃G:Option Nat,∃n0:List Value,(k+μk=(b.length))∧(A3a G 1 c.mem.length n0 C0 ((h5a c b k).map (Value.int .i64)))∧St [] w0 w [(G,3,n0),(some g2,38,[.slice Xm xm ym,.slice Xa xa ya,.slice Xb xb yb])]∧Sl ε [(5,C0),(15,.slice j0 i0 m0),(16,.int .i64 i0),(17,.int .i64 k)]) (μ:=(b.length)) ⟨Z,0,E0,o0,by omega,by simpa[h5a] using F0,c0,Z⟩ ?_);rintro μk D ε w ⟨rfl,k,G,n0,_,b0,S,eZ⟩;refine wK eZ (wB0 Z U (fun L0=>?_) fun L0=>?_)
 ·obtain⟨en,K0,P0,_,g0,q0,_,x0,v0,e0⟩:=RdS.get (d0) (k) (by omega);obtain⟨_,_,_,_,_,_,rfl,_⟩:=O0a.open_ e0;have q1:=A0 en (d0a g0);have q2:=q1.i64s;have q3:0<c.mem.length:=by
   have:=q1.some_;cases B0:en.cells with
   | nil=>exact absurd B0 this
   | cons x l=>have:=q2 x (by rw[B0];simp);omega
  refine lO (S.k.a v0) [.x K0 P0,.v 0] Z ⟨⟨Z,x0⟩,⟨q0,by omega⟩,U⟩ (j0a S q1b Z Z ?_);intro g7 w7 S7 X7 G7;refine e0a (kk:=0) (vs:=[_,_]) S7 U3b Z Z Z Z Z Z Z ?_;intro Q0 a0 I0;dsimp only[n0a,List.set] at a0;refine lOn 3 a0.k [] Z U (y0a Z ?_);refine lO a0.k [.w 0] Z ⟨⟨Z,by rfl⟩,U⟩ ?_;obtain⟨g,pad,rfl,hv,rfl,N0⟩:=b0.pad (by simpa using q3);subst hv;refine N2a C0c Z Z (e8b en (h5a c b k) g _ pad (g::M) _ _ (O0a.keep (a0.keep0 _) _ _ (O0a.more (A3b a0 (k:=1) Z) _ _ e0)) (a0.blk 1 Z) q1.even (fun x hx=>by have:=q2 x hx;simp;omega)) ?_;rintro S0 U0 ⟨t0,D0⟩;have H0:=a0.changed1 1 Z D0 t0;refine lP0 Z ⟨by omega,U⟩ ?_;refine⟨μk-1,by omega,Z,(k+1),(some g),(_),(by omega),(by rw[Y7a g0];have:=A3a.ofPad (g:=g) (l:=z2a (h5a c b k) en) (pad:=pad) (by simpa using N0);simpa using this),H0.tail,Z⟩
 refine lOn 8 S.k [] Z U (y0a Z ?_);refine q0a Z ?_;refine lR0 Z U (r0a Z ?_);obtain rfl:k=b.length:=by omega
 rw[o9a f0 (Nat.le_refl _)] at b0;have hok:=n6b hf A0 b.length;rw[o9a f0 (Nat.le_refl _)] at hok;exact⟨b0.rdI S (k:=0) Z hM (y3a hp hok) (by have:=hok.len;omega),S.fin⟩
theorem H9b(c0:List K0a)(en:K0a)(M:List Nat)(w0:World)(v:Value)(es:List Value)(hO:s6c M w0 v c0)(hE:O0a M w0 es en):
 N0a prog 185 #[v,.agg es.toArray] w0 fun v w'=>v=.bool (c0.any fun o=>A9a o en)∧Below w0.heap.size w0 w':=by
 obtain⟨A,n,cc,rfl⟩:=hO.form;obtain⟨_,_⟩:=hO.len;obtain⟨Ec,ec,fc,Ev,v0,fv,rfl,G0,_⟩:=hE.open_;have S:=St.refl w0;refine a0a func185 Z ntmps185 Z ?_;refine wO0 Z U (m0a S Z ?_);intro g3 w3 S3 X3 G3;refine lC0 Z U (wL (fun μk D ε w=>D=[]∧∃k:Nat,(k+μk=(c0.length))∧(w1a (c0) k (fun o=>A9a o en=false))∧St [] w0 w [(some g3,88,[.slice Ec ec fc,.slice Ev v0 fv])]∧Sl ε [(3,.pointer (some ⟨g3,0,none⟩)),(9,.slice A n cc),(10,.int .i64 n),(11,.int .i64 k)]) (μ:=(c0.length)) ⟨Z,0,by omega,w1a.zero,S3,Z⟩ ?_);rintro μk D ε w ⟨rfl,k,_,ha,S,eZ⟩;refine wK eZ (wB0 Z U (fun E0=>?_) fun E0=>?_)
 ·obtain⟨o,C0,H0,_,y0,m0,_,q0,o0,r0⟩:=RdS.get (hO) (k) (by omega);obtain⟨d0,t0,g0,e0,u0,i0,rfl,b0,_⟩:=O0a.open_ r0;refine lO (S.k.a o0) [.x C0 H0,.v 0] Z ⟨⟨Z,q0⟩,⟨m0,by omega⟩,U⟩ (j0a S q1b Z Z ?_);intro g6 w6 S6 X6 G6;refine e0a (kk:=0) (vs:=[_,_]) S6 U3b Z Z Z Z Z Z Z ?_;intro K0 a0 B0;dsimp only[n0a,List.set] at a0;refine lC a0.k [.o 1] Z ⟨Z,U⟩ (wL (fun μj D ε w=>D=[]∧∃j:Nat,(j+μj=(en.cells.length))∧(w1a (en.cells) j (fun x=>x∉o.cells))∧St [] w0 w [(some g6,88,[.slice d0 t0 g0,.slice e0 u0 i0]),(some g3,88,[.slice Ec ec fc,.slice Ev v0 fv])]∧Sl ε [(3,.pointer (some ⟨g3,0,none⟩)),(6,.pointer (some ⟨g6,0,none⟩)),(9,.slice A n cc),(10,.int .i64 n),(11,.int .i64 k),(16,.slice Ec ec fc),(17,.int .i64 ec),(18,.int .i64 j)]) (μ:=(en.cells.length)) ⟨Z,0,by omega,w1a.zero,a0,Z⟩ ?_);rintro μj D ε w ⟨rfl,j,_,x0,S,eZ⟩;refine wK eZ (wB0 Z U (fun F0=>?_) fun F0=>?_)
  ·obtain⟨x,D0,I0,_,z0,n0,_,_,p0,s0⟩:=RdS.get (G0) (j) (by omega);obtain⟨rfl,_⟩:=id s0;refine lO (S.k.a p0) [.x D0 I0,.f 0 0,.o 0] Z ⟨Z,Z,⟨n0,by omega⟩,U⟩ (A0a S Q6b Z Z (X6a M _ _ o.cells x (b0.keep (S.keep0 M))) (fun j0 J0 f0 A0=>?_) (fun j0 J0 f0 A0=>?_))
   ·exact lT Z U Z ⟨congrArg Value.bool (Eq.symm (List.any_eq_true.2 ⟨o,d0a y0,u7a.2 ⟨x,d0a z0,of_decide_eq_true j0⟩⟩)),f0.fin⟩
   refine lP0 Z ⟨by omega,U⟩ ⟨μj-1,by omega,Z,(j+1),(by omega),(x0.succ z0 (of_decide_eq_false j0)),f0,Z⟩
  refine lP0 Z ⟨by omega,U⟩ ⟨μk-1,by omega,Z,(k+1),(by omega),(ha.succ y0 (t2c (x0.all (by omega)))),S.tail,Z⟩
 refine lT Z U Z ?_;refine⟨congrArg Value.bool ?_,S.fin⟩;symm;rw[List.any_eq_false];intro o ho;rw[ha.all (by omega) o ho];simp
theorem u3b(p:h0a)(c:G0a)(m:Int)(hm:m=1∨m=2)(t i:Nat)(th:U0a)(s:v1a)(M:List Nat)(w0:World)(cs xs:List Value)(vs:Value)(hI:InP p M w0 cs)(hX:D0a M w0 c xs)(hV:RdI M w0 vs (o1a c t))(hf:J5a p c)(p0:p.threads[t]?=some th)(q1:th.steps[i]?=some s):
 N0a prog 143 #[.agg (xs++(cs++[Value.int .i64 m])).toArray,.int .i64 t,.int .i64 i,vs] w0 fun v w'=>v=.bool (b1a p m c t s)∧Below w0.heap.size w0 w':=by
 obtain⟨_,_,_,_,_,_,_,_,_,_,_,_,rfl,_,_,_,u1,_⟩:=hI.rd.open_;obtain⟨_,_,_,_,_,_,_,_,_,rfl,_,S0,t0,_,e0,_,_,b2,_⟩:=hX.open_;obtain⟨_,_,_,rfl⟩:=hV.form;have S:=St.refl w0;have f2:=hf.nat;have f3:=hf.nbuf;have hp:=hI.ok;have ht:=g1a p0;have hi:=g1a q1;have H1:=hp.thread p0;have n1:=H1.steps s (d0a q1);have Q1:=n1.kind;have v1:6≤s.kind→0≤s.target∧s.target<p.threads.length:=fun h=>(n1.row.k6 h).1;have G1:=n1.rel;have D0:¬m=0:=by omega
 refine a0a func143 Z ntmps143 Z ?_;refine wO0 Z U (m0a S Z ?_);intro g4 w4 S4 X4 G4;obtain⟨_,z1,I1,_,o1,K0,_,_,U0,c1⟩:=RdS.get (u1) (t) (by omega);obtain rfl:=Option.some.inj (p0.symm.trans o1);obtain⟨_,_,_,_,_,_,_,_,_,_,_,_,rfl,_,_,_,u0,_⟩:=R0a.open_ c1;obtain⟨_,A1,J1,_,p1,L0,_,b1,V0,d1⟩:=RdS.get (u0) (i) (by omega);obtain rfl:=Option.some.inj (q1.symm.trans p1);obtain⟨_,_,_,_,_,_,rfl,⟨_,_⟩,T0,_⟩:=B1a.open_ d1;refine lO ((S4.k.a V0).a U0) [.o 0,.x z1 I1,.f 0 4,.x A1 J1,.v 1] Z ⟨⟨Z,b1⟩,⟨L0,by omega⟩,Z,⟨K0,by omega⟩,Z,U⟩ (j0a S4 r9a Z Z ?_);intro g9 w9 S9 X9 G9;refine e0a (kk:=0) (vs:=[_,_,_,_,_,_,_,_,_,_,_]) S9 u9a Z Z Z Z Z Z Z ?_;intro x1 g0 s1;dsimp only[n0a,List.set] at g0;refine lC0 Z U (v0a b0a [0,1,2,3,4,5,6,7,8,9,10,11,12,13,14,15,16] [] [] Z (Cl _ _ _ _) (Cl.start g0) ?_);obtain⟨a,B1,K1,_,e0,N0,_,_,W0,f1⟩:=RdS.get (S0) (t) (by omega);obtain⟨rfl,_⟩:=id f1;refine qB (g0.q.a W0) [.o 1,.x B1 K1,.f 0 0,.o 0] Z ⟨Z,Z,⟨N0,by omega⟩,Z,U⟩ (fun c0=>?_) fun c0=>?_
 ·refine qD Z U ?_;rintro y1 ⟨b0,t1⟩;refine lT Z U Z ⟨congrArg Value.bool ?_,b0.fin⟩;rw[X1c e0 c0];done
 refine qO g0.q [.o 0] Z ⟨Z,U⟩ (A1a A0b Z Z (fun w1 S1 X1=>f8a s.guard M _ _ _ _ (o1a c t) (o1a c t) (RdE.keep (S1.keep0 M) _ _ T0) (hI.keep (S1.keep0 M)).msk (hV.keep (S1.keep0 M)) (hV.keep (S1.keep0 M))) ?_);refine qB0 Z U (fun d0=>?_) fun d0=>?_
 ·refine qD Z U ?_;rintro y1 ⟨b0,t1⟩;refine lT Z U Z ⟨congrArg Value.bool ?_,b0.fin⟩;rw[O7b d0];done
 refine qD Z U ?_;rintro y1 ⟨b0,t1⟩;obtain⟨b,C1,M1,_,f0,O0,_,_,X0,g1⟩:=RdS.get (t0) (t) (by omega);obtain⟨_,_,_,rfl,_,a0,_⟩:=R4a.open_ g1;have q3:=(hf.bufs t b f0).1;refine lB (b0.k.a X0) [.o 1,.x C1 M1,.f 0 0,.o 0] Z ⟨Z,Z,⟨O0,by omega⟩,Z,U⟩ (fun q0=>?_) fun q0=>?_
 ·refine lO0 Z U ?_;cases i0:s.release
  ·refine s0a i2a Z (by exact(b0.cell 0 Z Z).trans (congrArg (fun b=>some (Value.bool b)) i0)) Z ?_;refine lB0 Z U (fun I0=>?_) fun I0=>?_
   ·refine lT Z U Z ⟨congrArg Value.bool ?_,b0.fin⟩;rw[u2d D0 e0 c0 d0 f0 a0 q0 i0];exact(decide_eq_true I0).symm
   refine lT Z U Z ⟨congrArg Value.bool ?_,b0.fin⟩;rw[u2d D0 e0 c0 d0 f0 a0 q0 i0];exact(decide_eq_false (Int.not_lt.2 I0)).symm
  refine s0a i2a Z (by exact(b0.cell 0 Z Z).trans (congrArg (fun b=>some (Value.bool b)) i0)) Z ?_;refine lB0 Z U (fun m0=>?_) fun m0=>?_
  ·refine lT Z U Z ⟨congrArg Value.bool ?_,b0.fin⟩;rw[G2c D0 e0 c0 d0 f0 a0 q0 i0];exact(decide_eq_true m0).symm
  refine lT Z U Z ⟨congrArg Value.bool ?_,b0.fin⟩;rw[G2c D0 e0 c0 d0 f0 a0 q0 i0];exact(decide_eq_false m0).symm
 refine lB0 Z U (fun G0=>?_) fun G0=>?_
 ·refine lB0 Z U (fun m0=>?_) fun m0=>?_
  ·refine lT Z U Z ⟨congrArg Value.bool ?_,b0.fin⟩;rw[B9b e0 c0 d0 f0 a0 (.inl G0)];exact(decide_eq_true m0).symm
  refine lT Z U Z ⟨congrArg Value.bool ?_,b0.fin⟩;rw[B9b e0 c0 d0 f0 a0 (.inl G0)];exact(decide_eq_false m0).symm
 refine lB0 Z U (fun H0=>?_) fun H0=>?_
 ·refine lB0 Z U (fun m0=>?_) fun m0=>?_
  ·refine lT Z U Z ⟨congrArg Value.bool ?_,b0.fin⟩;rw[B9b e0 c0 d0 f0 a0 (.inr H0)];exact(decide_eq_true m0).symm
  refine lT Z U Z ⟨congrArg Value.bool ?_,b0.fin⟩;rw[B9b e0 c0 d0 f0 a0 (.inr H0)];exact(decide_eq_false m0).symm
 refine lB0 Z U (fun z0=>?_) fun z0=>?_
 ·refine lB0 Z U (fun A0=>?_) fun A0=>?_
  ·have q6:=v1 (by omega);obtain⟨a2,D1,N1,_,j0,P0,_,_,Y0,i1⟩:=RdS.get (S0) (s.target.toNat) (by omega);obtain⟨rfl,_⟩:=id i1;refine lB (b0.k.a Y0) [.o 1,.o 0,.x D1 N1,.f 0 0] Z ⟨Z,⟨P0,by omega⟩,Z,Z,U⟩ (fun J0=>?_) fun J0=>?_
   ·refine lT Z U Z ⟨congrArg Value.bool ?_,b0.fin⟩;rw[v2d e0 c0 d0 f0 a0 z0 j0];rw[decide_eq_true A0];(rw[decide_eq_true J0];rfl)
   refine lT Z U Z ⟨congrArg Value.bool ?_,b0.fin⟩;rw[v2d e0 c0 d0 f0 a0 z0 j0];rw[decide_eq_true A0];(rw[decide_eq_false J0];rfl)
  refine lT Z U Z ⟨congrArg Value.bool ?_,b0.fin⟩;rw[B5c f0 a0 (.inl z0) A0];done
 refine lB0 Z U (fun r0=>?_) fun r0=>?_
 ·have q6:=v1 (by omega);obtain⟨_,E1,O1,_,E0,Q0,_,_,Z0,j1⟩:=RdS.get (u1) (s.target.toNat) (by omega);obtain⟨_,_,_,_,_,_,_,_,_,_,_,_,rfl,_⟩:=R0a.open_ j1;have q7:=(hp.thread E0).points;refine lB (b0.k.a Z0) [.o 1,.o 0,.x E1 O1,.f 0 1] Z ⟨by omega,Z,⟨Q0,by omega⟩,Z,Z,U⟩ (fun B0=>?_) fun B0=>?_
  ·obtain⟨a2,F1,P1,_,j0,R0,_,_,a1,m1⟩:=RdS.get (S0) (s.target.toNat) (by omega);obtain⟨rfl,_⟩:=id m1;refine lB (b0.k.a a1) [.o 1,.o 0,.x F1 P1,.f 0 0] Z ⟨Z,⟨R0,by omega⟩,Z,Z,U⟩ (fun C0=>?_) fun C0=>?_
   ·obtain⟨b2,F0,r1,_,y0,s0,_,_,v0,x0⟩:=RdS.get (t0) (s.target.toNat) (by omega);obtain⟨_,_,_,rfl,_,n0,_⟩:=R4a.open_ x0;refine lB (b0.k.a v0) [.o 1,.o 0,.x F0 r1,.f 0 0] Z ⟨Z,⟨s0,by omega⟩,Z,Z,U⟩ (fun o0=>?_) fun o0=>?_
    ·refine lT Z U Z ⟨congrArg Value.bool ?_,b0.fin⟩;rw[G2d e0 c0 d0 f0 a0 r0 j0 E0 y0 n0];rw[decide_eq_true B0,decide_eq_true C0];(rw[decide_eq_true o0];rfl)
    refine lT Z U Z ⟨congrArg Value.bool ?_,b0.fin⟩;rw[G2d e0 c0 d0 f0 a0 r0 j0 E0 y0 n0];rw[decide_eq_true B0,decide_eq_true C0];(rw[decide_eq_false o0];rfl)
   refine lT Z U Z ⟨congrArg Value.bool ?_,b0.fin⟩;rw[J1d r0 j0 E0 C0];done
  refine lT Z U Z ⟨congrArg Value.bool ?_,b0.fin⟩;rw[B5c f0 a0 (.inr r0) B0];done
 refine lT Z U Z ⟨congrArg Value.bool ?_,b0.fin⟩;rw[X8c e0 c0 d0 (by omega)];done
section
variable {M:List Nat} {w0 w w':World} {L:List Ent}
theorem St.join{L2:List Ent}(S:St M w0 w L)(S2:St [] w w' L2):St M w0 w' (L2++L):=by
 have a0:∀b∈L2,∀g,b.1=some g→w.heap.size≤g∧E0a w' (g,b.2):=fun b hb g hg=>by
  obtain⟨h1,h2⟩:=S2.own b hb g hg;rcases h1 with h1|h1
  ·exact⟨h1,h2⟩
  ·cases h1
 have S':=S.later S2.fin;refine⟨S'.below,fun b hb g hg=>?_,List.pairwise_append.2 ⟨S2.apart,S.apart,fun a ha b hb g hg b0=>?_⟩⟩
 ·rcases List.mem_append.1 hb with h|h
  ·obtain⟨h1,h2⟩:=a0 b h g hg;exact⟨.inl (Nat.le_trans S.size h1),h2⟩
  ·exact S'.own b h g hg
 ·have h1:=(a0 a ha g hg).1;have h2:=(S.own b hb g b0).2.lt;simp at h2;omega
theorem St.fill(S:St M w0 w L)(j:Nat){t':TypeId}{b0:List Value}{g:Nat}(hb:Below w.heap.size w w')(hg:E0a w' (g,t',b0))(d0:w.heap.size≤g):St M w0 w' (L.set j (some g,t',b0)):=by
 have S':=S.later hb;have a0:∀b∈L,b.1≠some g:=fun b hm hh=>by
  have:=(S.own b hm g hh).2.lt;simp at this;omega
 refine⟨S'.below,fun b hm x hx=>?_,?_⟩
 ·rcases List.mem_or_eq_of_mem_set hm with h|rfl
  ·exact S'.own b h x hx
  ·cases hx;exact⟨.inl (Nat.le_trans S.size d0),hg⟩
 ·rw[List.pairwise_iff_getElem];intro i k hi hk c0 x hx;rw[List.length_set] at hi hk;rw[List.getElem_set] at hx ⊢
  split at hx
  ·cases hx
   split
   ·omega
   ·exact a0 _ (List.getElem_mem hk)
  ·split
   ·intro hh;cases hh;exact a0 _ (List.getElem_mem hi) hx
   ·exact(List.pairwise_iff_getElem.1 S.apart) i k hi hk c0 x hx
theorem St.nils(S:St M w0 w L){R:List Ent}(hR:∀b∈R,b.1=none):St M w0 w (L++R):=by
 refine⟨S.below,fun b hb g hg=>?_,List.pairwise_append.2 ⟨S.apart,?_,fun a _ b hb g _ a0=>?_⟩⟩
 ·rcases List.mem_append.1 hb with h|h
  ·exact S.own b h g hg
  ·rw[hR b h] at hg;cases hg
 ·exact List.Pairwise.imp_of_mem (fun ha _ _ g hg=>(by rw[hR _ ha] at hg;cases hg)) (List.pairwise_of_forall (R:=fun _ _=>True) (fun _ _=>trivial))
 ·rw[hR b hb] at a0;cases a0
theorem St.place{x:Ent}(S:St M w0 w (x::L))(j:Nat):St M w0 w (L.set j x):=by
 obtain⟨h1,h2⟩:=List.pairwise_cons.1 S.apart;refine⟨S.below,fun b hm g hg=>?_,?_⟩
 ·rcases List.mem_or_eq_of_mem_set hm with h|rfl
  ·exact S.own b (List.mem_cons_of_mem _ h) g hg
  ·exact S.own _ (by simp) g hg
 ·rw[List.pairwise_iff_getElem];intro i k hi hk a0 g hg;rw[List.length_set] at hi hk;rw[List.getElem_set] at hg ⊢
  split at hg
  ·split
   ·omega
   ·exact h1 _ (List.getElem_mem hk) g hg
  ·split
   ·intro hh;exact h1 _ (List.getElem_mem hi) g hh hg
   ·exact(List.pairwise_iff_getElem.1 h2) i k hi hk a0 g hg
theorem St.front{A R:List Ent}(S:St M w0 w (A++R)):St M w0 w A :=
 ⟨S.below,fun b hm=>S.own b (List.mem_append_left _ hm),(List.pairwise_append.1 S.apart).1⟩
abbrev clF{A R:List Ent}(_:St M w0 w (A++R))(K:List Nat):World→Prop:=fun w1=>St M w0 w1 A∧z0a K w w1
end
theorem A3a.form{G:Option Nat}{size n:Nat}{cs xs:List Value}{v:Value}(h:A3a G size n cs v xs):∃A n c,v=.slice A n c:=by
 rcases h with⟨_,⟨_,rfl,_⟩|⟨g,a0,_,rfl,_⟩⟩
 ·exact⟨_,_,_,Z⟩
 ·exact⟨_,_,_,Z⟩
theorem a6c(A a0:List Ent)(k n:Nat)(hn:A.length=n):(A++a0)[n+k]?=a0[k]?:=by
 subst hn;rw[List.getElem?_append_right (by omega)];congr 1;omega
theorem X0d(A a0:List Ent)(k n:Nat)(hn:A.length=n)(x:Ent):(A++a0).set (n+k) x=A++a0.set k x:=by
 subst hn;rw[List.set_append_right _ _ (by omega)];congr 2;omega
theorem x1a.more{α:Type}{R:List Nat→World→List Value→α→Prop}{size:Nat}(hL:T7a R size){M M':List Nat}{w:World}{G:Option Nat}{cs:List Value}{v:Value}{l:List α}(h:x1a R size M w G cs v l)(hm:∀g∈M',(g∈G.toList∨g∈M)∨w.heap.size≤g):x1a R size M' w G cs v l:=by
 obtain⟨css,h1,h2,h3,h4⟩:=h;refine⟨css,h1,h2,h3,fun i x hi=>?_⟩;obtain⟨c,h5,h6⟩:=h4 i x hi;refine⟨c,h5,hL.more (fun g hg=>?_) h6⟩;rcases List.mem_append.1 hg with hg|hg
 ·exact .inl (List.mem_append_left _ hg)
 ·rcases hm g hg with h|h
  ·exact .inl (List.mem_append.2 h)
  ·exact .inr h
def a6a(rows:List Ent):List Nat:=rows.filterMap (·.1)
theorem y2a{a0:List Ent}{g:Nat}:g∈a6a a0↔∃b∈a0,b.1=some g:=by unfold a6a;rw[List.mem_filterMap]
def g3a(tE:TypeId)(M:List Nat)(w:World)(rows:List Ent)(vs:List Value)(bs:List (List K0a)):Prop :=
 rows.length=bs.length∧vs.length=bs.length∧∀(i:Nat) (b:List K0a),bs[i]?=some b→∃G cs v,rows[i]?=some (G,tE,cs)∧vs[i]?=some v∧x1a O0a 2 (M++a6a rows) w G cs v b
theorem g3a.keep{tE:TypeId}{M:List Nat}{w w':World}{a0:List Ent}{vs:List Value}{bs:List (List K0a)}(h:g3a tE M w a0 vs bs)(hk:z0a (M++a6a a0) w w'):g3a tE M w' a0 vs bs:=by
 obtain⟨h1,h2,h3⟩:=h;refine⟨h1,h2,fun i b hi=>?_⟩;obtain⟨G,cs,v,h4,h5,h6⟩:=h3 i b hi;exact⟨G,cs,v,h4,h5,h6.keep R1a (hk.mono fun g hg=>List.mem_append_right _ hg)⟩
theorem g3a.nil{tE:TypeId}{M:List Nat}{w:World}(n:Nat):g3a tE M w (List.replicate n (none,tE,[])) (List.replicate n (.slice none 0 0)) (List.replicate n []):=by
 refine⟨by simp,by simp,fun i b hi=>?_⟩;obtain⟨a0,rfl⟩:=List.getElem?_eq_some_iff.1 hi;simp only[List.length_replicate] at a0;refine⟨none,[],.slice none 0 0,by simp[a0],by simp[a0],?_⟩;simp only[List.getElem_replicate];exact x1a.nil
theorem V8c{a0:List Ent}{k:Nat}{G':Option Nat}{tE:TypeId}{b0:List Value}{g:Nat}(h:g∈a6a (a0.set k (G',tE,b0))):g∈a6a a0∨g∈G'.toList:=by
 obtain⟨b,hb,hg⟩:=y2a.1 h;rcases List.mem_or_eq_of_mem_set hb with h|rfl
 ·exact .inl (y2a.2 ⟨b,h,hg⟩)
 ·right;cases hg;simp
theorem g3a.put{tE:TypeId}{M:List Nat}{w w1:World}{a0:List Ent}{vs:List Value}{bs:List (List K0a)}(h:g3a tE M w a0 vs bs){k:Nat}{G G':Option Nat}{cs b0:List Value}{v':Value}{b':List K0a}(hk:k<bs.length)
 (e0:x1a O0a 2 (M++a6a a0) w1 G' b0 v' b') (X:z0a G.toList w w1) (F:∀g∈G'.toList,g∈G.toList∨w.heap.size≤g) (i0:a0[k]?=some (G,tE,cs)):g3a tE M w1 (a0.set k (G',tE,b0)) (vs.set k v') (bs.set k b'):=by
 obtain⟨h1,h2,h3⟩:=h;have g0:∀g∈G.toList,g∈a6a a0:=fun g hg=>y2a.2 ⟨_,List.mem_of_getElem? i0,by cases G<;>simp at hg ⊢;exact hg.symm⟩;have c0:∀g∈M++a6a (a0.set k (G',tE,b0)),(g∈M++a6a a0∨g∈G'.toList):=fun g hg=>by
  rcases List.mem_append.1 hg with h|h
  ·exact .inl (List.mem_append_left _ h)
  ·rcases V8c h with h|h
   ·exact .inl (List.mem_append_right _ h)
   ·exact .inr h
 refine⟨by simp[h1],by simp[h2],fun i b hi=>?_⟩;rw[List.getElem?_set] at hi;by_cases d0:k=i
 ·subst d0;rw[if_pos rfl,if_pos hk] at hi;cases hi;exact⟨G',b0,v',by rw[List.getElem?_set_self (by omega)],by rw[List.getElem?_set_self (by omega)],e0.more R1a fun g hg=>by
   rcases c0 g hg with h|h
   ·exact .inl (.inr h)
   ·exact .inl (.inl h)⟩
 ·rw[if_neg d0] at hi;obtain⟨Gi,f0,vi,h4,h5,h6⟩:=h3 i b hi;refine⟨Gi,f0,vi,by rw[List.getElem?_set_ne d0];exact h4,by rw[List.getElem?_set_ne d0];exact h5,?_⟩;have e1:x1a O0a 2 (G.toList++(M++a6a (a0.set k (G',tE,b0)))) w Gi f0 vi b:=h6.more R1a fun g hg=>by
   rcases List.mem_append.1 hg with h|h
   ·exact .inl (.inr (List.mem_append_right _ (g0 g h)))
   ·rcases c0 g h with h|h
    ·exact .inl (.inr h)
    ·rcases F g h with h|h
     ·exact .inl (.inr (List.mem_append_right _ (g0 g h)))
     ·exact .inr h
  exact(e1.keep R1a (X.mono fun g hg=>List.mem_append_right _ (List.mem_append_left _ hg))).more R1a fun g hg=>.inl (.inr (List.mem_append_right _ hg))
theorem g3a.rd{tE:TypeId}{M M' Mx:List Nat}{w0 w:World}{A a0:List Ent}{vs:List Value}{bs:List (List K0a)}(h:g3a tE M w a0 vs bs)(S:St M' w0 w (A++a0))(hx:∀g∈Mx,g∈M)(hM:∀g∈Mx,g∉a6a a0)(hl:∀b∈bs,b.length≤1000):
 ∀(i:Nat) (b:List K0a),bs[i]?=some b→∃v,vs[i]?=some v∧s6c Mx w v b:=fun i b hi=>by
 obtain⟨_,_,h3⟩:=h;obtain⟨G,cs,v,h4,h5,h6⟩:=h3 i b hi;refine⟨v,h5,?_⟩;have h7:x1a O0a 2 Mx w G cs v b:=h6.more R1a fun g hg=>.inl (.inr (List.mem_append_left _ (hx g hg)));refine h7.rd R1a S (k:=A.length+i) (el:=tE) (by rw[a6c A a0 i _ rfl];exact h4) (fun g hg hm=>hM g hm (y2a.2 ⟨_,List.mem_of_getElem? h4,hg⟩)) (by have:=hl b (List.mem_of_getElem? hi);omega)
theorem St.rdBs{M M':List Nat}{w0 w:World}{L:List Ent}(S:St M' w0 w L)(j:Nat){g t:Nat}{vs:List Value}{bs:List (List K0a)}(hj:L[j]?=some (some g,t,vs))(hg:g∉M)(a0:bs.length≤140737488355328)(h:∀(i:Nat) (b:List K0a),bs[i]?=some b→∃v,vs[i]?=some v∧s6c M w v b):y0d M w (.slice (some ⟨g,0,none⟩) bs.length bs.length) bs :=
 S.rd1 hj hg Z a0 fun i x hi=>by
  obtain⟨v,h1,h2⟩:=h i x hi;exact⟨v,h1,v,Z,h2⟩
theorem g3a.less{tE:TypeId}{M M':List Nat}{w:World}{a0:List Ent}{vs:List Value}{bs:List (List K0a)}(h:g3a tE M w a0 vs bs)(hm:∀g∈M',g∈M):g3a tE M' w a0 vs bs:=by
 obtain⟨h1,h2,h3⟩:=h;refine⟨h1,h2,fun i b hi=>?_⟩;obtain⟨G,cs,v,h4,h5,h6⟩:=h3 i b hi;exact⟨G,cs,v,h4,h5,h6.more R1a fun g hg=>.inl (.inr (by
  rcases List.mem_append.1 hg with h|h
  ·exact List.mem_append_left _ (hm g h)
  ·exact List.mem_append_right _ h))⟩
theorem J8b{α:Type}{l:List α}{k:Nat}{x:α}(h:l[k]?=some x):l.set k x=l:=by
 obtain⟨a0,rfl⟩:=List.getElem?_eq_some_iff.1 h;exact List.set_getElem_self a0
theorem S2b{α:Type}{l:List α}{z:α}{k:Nat}(h:k<l.length):(d3a l z k)[k]?=some z:=by
 unfold d3a;rw[List.getElem?_append_right (by simp;omega),List.getElem?_replicate,if_pos (by simp;omega)]
theorem RdI.i64s{M:List Nat}{w:World}{v:Value}{l:List Int}(h:RdI M w v l):∀x∈l,i64 x:=fun x hx=>by
 obtain⟨_,_,_,rfl⟩:=h.form;obtain⟨i,hi,rfl⟩:=List.getElem_of_mem hx;obtain⟨_,_,_,_,h5⟩:=h.at;obtain⟨_,_,_,_,a0⟩:=h5 (by omega);obtain⟨_,_,_,h6⟩:=a0 i _ (List.getElem?_eq_getElem hi);exact h6.2
theorem h7a.rd{el:Nat}{w w1:World}{v:Value}{l:List Int}(h:h7a el w w1 v l){M:List Nat}(hM:∀g∈M,g<w.heap.size)(hl:∀x∈l,i64 x)(hb:Below w.heap.size w w1)(a0:l.length≤140737488355328):RdI M w1 v l:=by
 obtain⟨_,_,h1,S⟩:=h.open_ ((St.refl w).later hb) (St.refl w);exact h1.rdI S (k:=0) Z hM hl a0
theorem St.sublist{M:List Nat}{w0 w:World}{L L':List Ent}(S:St M w0 w L)(h:L'.Sublist L):St M w0 w L':=⟨S.below,fun b hb=>S.own b (h.subset hb),S.apart.sublist h⟩
theorem St.perm{M:List Nat}{w0 w:World}{L L':List Ent}(S:St M w0 w L)(h:L.Perm L'):St M w0 w L' :=
 ⟨S.below,fun b hb=>S.own b (h.symm.subset hb),(h.pairwise_iff (fun b0 g hg a0=>b0 g a0 hg)).1 S.apart⟩
theorem St.joinR{M:List Nat}{w0 w w':World}{L A R:List Ent}(S:St M w0 w L)(S2:St [] w w' (A++R)):St M w0 w' ((A++L)++R):=by
 refine(S.join S2).perm ?_;rw[List.append_assoc,List.append_assoc];exact(List.perm_append_comm).append_left A
theorem x1a.erase{α:Type}{R:List Nat→World→List Value→α→Prop}{size:Nat}(hL:T7a R size){M:List Nat}{w w1:World}{G:Option Nat}{a0:List Value}{v:Value}{l:List α}{css:List (List Value)}(l1:css.length=l.length)(l2:∀x∈css,x.length=size)(l4:∀(i:Nat) (x:α),l[i]?=some x→∃c,css[i]?=some c∧R (G.toList++M) w c x)
 {i:Nat} (hi:i<l.length) (rv:A3a G size (l.length-1) a0 v (css.eraseIdx i).flatten) (hk:z0a (G.toList++M) w w1):x1a R size M w1 G a0 v (l.eraseIdx i):=by
 have b0:(l.eraseIdx i).length=l.length-1:=by rw[List.length_eraseIdx,if_pos hi]
 refine⟨css.eraseIdx i,by rw[b0,List.length_eraseIdx,if_pos (by omega),l1],fun x hx=>l2 x (List.mem_of_mem_eraseIdx hx),by rw[b0];exact rv,fun k x hx=>?_⟩;rw[List.getElem?_eraseIdx] at hx ⊢
 split
 ·rename_i h;rw[if_pos h] at hx;obtain⟨c,h5,h6⟩:=l4 k x hx;exact⟨c,h5,hL.keep hk h6⟩
 ·rename_i h;rw[if_neg h] at hx;obtain⟨c,h5,h6⟩:=l4 (k+1) x hx;exact⟨c,h5,hL.keep hk h6⟩
theorem Q7c{M:List Nat}{w:World}{G:Option Nat}{l:List K0a}{css:List (List Value)}(l1:css.length=l.length)(l4:∀(i:Nat) (x:K0a),l[i]?=some x→∃c,css[i]?=some c∧O0a (G.toList++M) w c x):∀u∈css.flatten,u.oneCell'=true:=fun u hu=>by
 obtain⟨x,hx,hu⟩:=List.mem_flatten.1 hu;obtain⟨i,hi,rfl⟩:=List.getElem_of_mem hx;obtain⟨c,h5,h6⟩:=l4 i l[i] (List.getElem?_eq_getElem (by omega));rw[List.getElem?_eq_getElem hi] at h5;cases h5;exact R1a.one h6 u hu
theorem St.apartM{w0 w:World}{A a0:List Ent}(S:St [] w0 w (A++a0)){M:List Nat}(hM:∀g∈M,g<w0.heap.size):∀g∈M,g∉a6a a0:=fun g hg hb=>by
 obtain⟨x,hx,b0⟩:=y2a.1 hb;have h2:=hM g hg;rcases(S.own x (List.mem_append_right _ hx) g b0).1 with h|h
 ·omega
 ·cases h
theorem z0a.fresh2{a b c:World}{Q:List Nat}{g:Nat}(h:z0a Q a b)(k:z0a [g] b c)(hg:a.heap.size≤g∨g∈Q):z0a Q a c :=
 ⟨Nat.le_trans h.size k.size,fun i hi hm=>(k.same i (Nat.lt_of_lt_of_le hi h.size) (fun hh=>by rw[List.mem_singleton] at hh;subst hh;rcases hg with hg|hg;omega;exact hm hg)).trans (h.same i hi hm)⟩
theorem z0a.freshL{a b c:World}{Q Gs:List Nat}(h:z0a Q a b)(k:z0a Gs b c)(hg:∀g∈Gs,a.heap.size≤g∨g∈Q):z0a Q a c :=
 ⟨Nat.le_trans h.size k.size,fun i hi hm=>(k.same i (Nat.lt_of_lt_of_le hi h.size) (fun hh=>by rcases hg i hh with hg|hg;omega;exact hm hg)).trans (h.same i hi hm)⟩
def D0c(M:List Nat)(w0 w:World)(c:G0a)(v:Value):Prop :=
 ∃(Gm Ga:Option Nat) (csm csa:List Value) (vm va:Value) (gb:Nat) (rows:List Ent) (vs:List Value),v=.agg #[vm,va,.slice (some ⟨gb,0,none⟩) c.buf.length c.buf.length]∧A3a Gm 1 c.mem.length csm vm (c.mem.map (Value.int .i64))∧A3a Ga 1 c.at_.length csa va (c.at_.map (Value.int .i64)) ∧
  St [] w0 w ([(some gb,86,vs),(Ga,3,csa),(Gm,3,csm)]++rows)∧g3a 88 (Gm.toList++(Ga.toList++(gb::M))) w rows vs c.buf
theorem Q7a{M:List Nat}{w0 w:World}{L:List Ent}(S:St M w0 w L){G:Option Nat}{t:TypeId}{cs:List Value}{k:Nat}(hk:L[k]?=some (G,t,cs)):∀g∈G.toList,g<w.heap.size:=fun g hg=>by
 have:G=some g:=by cases G<;>simp at hg ⊢;exact hg.symm
 subst this;exact S.lt k hk
theorem S4b(Mx M:List Nat)(w0:World)(v:Value)(l:List Int)(hR:RdI M w0 v l)(hM:∀g∈Mx,g<w0.heap.size)(hl:l.length≤100000000:=by omega):
 N0a prog 182 #[v] w0 fun v w'=>RdI Mx w' v l∧Below w0.heap.size w0 w' :=
 (B8a (hl:=hl) M w0 v l hR).mono fun _ _ h=>⟨h.1.rd hM hR.i64s h.2 (by omega),h.2⟩
theorem b8b(p:h0a)(hp:n1a p)(c:G0a)(M:List Nat)(w0:World)(hM:∀g∈M,g<w0.heap.size)(xs:List Value)(hX:D0a M w0 c xs)(hf:J5a p c):
 N0a prog 187 #[.agg xs.toArray] w0 fun v w'=>D0c M w0 w' c v∧Below w0.heap.size w0 w':=by
 obtain⟨Xm,xm,ym,Xa,xa,ya,Xb,xb,yb,rfl,u1,j2,r1,_,_,N1,_⟩:=hX.open_;have S:=St.refl w0;have f1:=hf.mem.len;have f2:=hf.nat;have n1:=hp.ncells;have n2:=hp.nthreads;have f3:=hf.nbuf;refine a0a func187 Z ntmps187 Z ?_;refine wO0 Z U (m0a S Z ?_);intro g1 w1 S1 X1 G1;refine j0a S1 r4a Z Z ?_;intro g2 w2 S2 X2 G2;refine lC0 Z U (m6b b0a (by kernel_rfl) (fun f ε w=>ε 1=.pointer (some ⟨g1,0,none⟩)∧ε 2=.pointer (some ⟨g2,0,none⟩)∧∃e0 E9 E5 E2:Ent,St [] w0 w [e0,E9,E5,E2,(some g2,38,[.slice none 0 0,.slice none 0 0,.slice none 0 0]),(some g1,38,[.slice Xm xm ym,.slice Xa xa ya,.slice Xb xb yb])]∧(f 0=true→ε 8=.pointer (some ⟨g1,0,none⟩))∧(f 1=true→ε 9=.slice Xm xm ym)∧(f 2=true→∃G cs A n c',ε 10=.slice A n c'∧E2=(G,3,cs)∧A3a G 1 c.mem.length cs (.slice A n c') (c.mem.map (Value.int .i64)))∧(f 3=true→ε 11=.pointer (some ⟨g1,1,none⟩))∧(f 4=true→ε 12=.slice Xa xa ya)∧(f 5=true→∃G cs A n c',ε 13=.slice A n c'∧E5=(G,3,cs)∧A3a G 1 c.at_.length cs (.slice A n c') (c.at_.map (Value.int .i64)))∧(f 6=true→ε 14=.pointer (some ⟨g1,2,none⟩))∧(f 7=true→ε 15=.slice Xb xb yb)∧(f 8=true→ε 16=.int .i64 xb)∧(f 9=true→∃g,ε 17=.slice (some ⟨g,0,none⟩) xb xb∧E9=(some g,86,List.replicate xb (.slice none 0 0)))∧(f 10=true→(f 2=true∧f 5=true∧f 9=true)∧ε 18=.agg #[ε 10,ε 13,ε 17])∧(f 11=true→f 12=false→∃g,ε 3=.pointer (some ⟨g,0,none⟩)∧e0=(some g,38,[.slice none 0 0,.slice none 0 0,.slice none 0 0]))∧(f 12=true→(∀k,k<12→f k=true)∧∃g,ε 3=.pointer (some ⟨g,0,none⟩)∧e0=(some g,38,[ε 10,ε 13,ε 17]))) ?_ ?_ ?_)
 ·exact⟨Z,Z,(none,0,[]),(none,0,[]),(none,0,[]),(none,0,[]),((((S2.drew.nilEnt 0).nilEnt 0).nilEnt 0).nilEnt 0),by simp,by simp,by simp,by simp,by simp,by simp,by simp,by simp,by simp,by simp,by simp,by simp,by simp⟩
 ·rintro f ε w i o ⟨e1,e2,e0,E9,E5,E2,S,h0,h1,h2,h3,h4,h5,h6,h7,h8,h9,b0,n0,g0⟩ ho f0 o0;have hi:i<13:=(List.getElem?_eq_some_iff.1 ho).1;refine W0a 1 e1 (W0a 2 e2 ?_);rcases(show i=0∨i=1∨i=2∨i=3∨i=4∨i=5∨i=6∨i=7∨i=8∨i=9∨i=10∨i=11∨i=12 by omega) with rfl|rfl|rfl|rfl|rfl|rfl|rfl|rfl|rfl|rfl|rfl|rfl|rfl
  ·cases ho;refine p4a h4b Z Z ?_;refine w0a ⟨Z,Z,Z,e0,E9,E5,E2,S,fun _=>rfl,fun hh=>h1 (by simpa using hh),fun hh=>h2 (by simpa using hh),fun hh=>h3 (by simpa using hh),fun hh=>h4 (by simpa using hh),fun hh=>h5 (by simpa using hh),fun hh=>h6 (by simpa using hh),fun hh=>h7 (by simpa using hh),fun hh=>h8 (by simpa using hh),fun hh=>h9 (by simpa using hh),fun hh=>⟨⟨by simp[(b0 (by simpa using hh)).1.1],by simp[(b0 (by simpa using hh)).1.2.1],by simp[(b0 (by simpa using hh)).1.2.2]⟩,(b0 (by simpa using hh)).2⟩,fun hh d0=>n0 (by simpa using hh) (by simpa using d0),fun hh=>absurd ((g0 (by simpa using hh)).1 0 (by omega)) (by simp[f0])⟩
  ·cases ho;refine W0a 8 (h0 (o0 0 (by decide))) ?_;refine s0a v3a Z (S.cell 5 Z Z) Z ?_;refine w0a ⟨Z,Z,Z,e0,E9,E5,E2,S,fun _=>rfl,fun _=>rfl,fun hh=>h2 (by simpa using hh),fun hh=>h3 (by simpa using hh),fun hh=>h4 (by simpa using hh),fun hh=>h5 (by simpa using hh),fun hh=>h6 (by simpa using hh),fun hh=>h7 (by simpa using hh),fun hh=>h8 (by simpa using hh),fun hh=>h9 (by simpa using hh),fun hh=>⟨⟨by simp[(b0 (by simpa using hh)).1.1],by simp[(b0 (by simpa using hh)).1.2.1],by simp[(b0 (by simpa using hh)).1.2.2]⟩,(b0 (by simpa using hh)).2⟩,fun hh d0=>n0 (by simpa using hh) (by simpa using d0),fun hh=>absurd ((g0 (by simpa using hh)).1 1 (by omega)) (by simp[f0])⟩
  ·cases ho;refine W0a 9 (h1 (o0 1 (by decide))) ?_;refine N2a O0b Z Z (B8a M _ _ c.mem (u1.keep (S.keep0 M))) ?_;rintro v w1 ⟨hN,hB⟩;obtain⟨G,A0,R1,S1⟩:=hN.open_ (S.later hB) S;obtain⟨A,n,c',rfl⟩:=R1.form;refine w0a ⟨Z,Z,Z,e0,E9,E5,(G,3,A0),S1.place 3,fun hh=>h0 (by simpa using hh),fun _=>rfl,fun _=>⟨G,A0,A,n,c',Z,Z,R1⟩,fun hh=>h3 (by simpa using hh),fun hh=>h4 (by simpa using hh),fun hh=>h5 (by simpa using hh),fun hh=>h6 (by simpa using hh),fun hh=>h7 (by simpa using hh),fun hh=>h8 (by simpa using hh),fun hh=>h9 (by simpa using hh),fun hh=>absurd (b0 (by simpa using hh)).1.1 (by simp[f0]),fun hh d0=>n0 (by simpa using hh) (by simpa using d0),fun hh=>absurd ((g0 (by simpa using hh)).1 2 (by omega)) (by simp[f0])⟩
  ·cases ho;refine p4a V3b Z Z ?_;refine w0a ⟨Z,Z,Z,e0,E9,E5,E2,S,fun hh=>h0 (by simpa using hh),fun hh=>h1 (by simpa using hh),fun hh=>h2 (by simpa using hh),fun _=>rfl,fun hh=>h4 (by simpa using hh),fun hh=>h5 (by simpa using hh),fun hh=>h6 (by simpa using hh),fun hh=>h7 (by simpa using hh),fun hh=>h8 (by simpa using hh),fun hh=>h9 (by simpa using hh),fun hh=>⟨⟨by simp[(b0 (by simpa using hh)).1.1],by simp[(b0 (by simpa using hh)).1.2.1],by simp[(b0 (by simpa using hh)).1.2.2]⟩,(b0 (by simpa using hh)).2⟩,fun hh d0=>n0 (by simpa using hh) (by simpa using d0),fun hh=>absurd ((g0 (by simpa using hh)).1 3 (by omega)) (by simp[f0])⟩
  ·cases ho;refine W0a 11 (h3 (o0 3 (by decide))) ?_;refine s0a v3a Z (S.cell 5 Z Z) Z ?_;refine w0a ⟨Z,Z,Z,e0,E9,E5,E2,S,fun hh=>h0 (by simpa using hh),fun hh=>h1 (by simpa using hh),fun hh=>h2 (by simpa using hh),fun _=>rfl,fun _=>rfl,fun hh=>h5 (by simpa using hh),fun hh=>h6 (by simpa using hh),fun hh=>h7 (by simpa using hh),fun hh=>h8 (by simpa using hh),fun hh=>h9 (by simpa using hh),fun hh=>⟨⟨by simp[(b0 (by simpa using hh)).1.1],by simp[(b0 (by simpa using hh)).1.2.1],by simp[(b0 (by simpa using hh)).1.2.2]⟩,(b0 (by simpa using hh)).2⟩,fun hh d0=>n0 (by simpa using hh) (by simpa using d0),fun hh=>absurd ((g0 (by simpa using hh)).1 4 (by omega)) (by simp[f0])⟩
  ·cases ho;refine W0a 12 (h4 (o0 4 (by decide))) ?_;refine N2a O0b Z Z (B8a M _ _ c.at_ (j2.keep (S.keep0 M))) ?_;rintro v w1 ⟨hN,hB⟩;obtain⟨G,A0,R1,S1⟩:=hN.open_ (S.later hB) S;obtain⟨A,n,c',rfl⟩:=R1.form;refine w0a ⟨Z,Z,Z,e0,E9,(G,3,A0),E2,S1.place 2,fun hh=>h0 (by simpa using hh),fun hh=>h1 (by simpa using hh),fun hh=>h2 (by simpa using hh),fun hh=>h3 (by simpa using hh),fun _=>rfl,fun _=>⟨G,A0,A,n,c',Z,Z,R1⟩,fun hh=>h6 (by simpa using hh),fun hh=>h7 (by simpa using hh),fun hh=>h8 (by simpa using hh),fun hh=>h9 (by simpa using hh),fun hh=>absurd (b0 (by simpa using hh)).1.2.1 (by simp[f0]),fun hh d0=>n0 (by simpa using hh) (by simpa using d0),fun hh=>absurd ((g0 (by simpa using hh)).1 5 (by omega)) (by simp[f0])⟩
  ·cases ho;refine p4a a4a Z Z ?_;refine w0a ⟨Z,Z,Z,e0,E9,E5,E2,S,fun hh=>h0 (by simpa using hh),fun hh=>h1 (by simpa using hh),fun hh=>h2 (by simpa using hh),fun hh=>h3 (by simpa using hh),fun hh=>h4 (by simpa using hh),fun hh=>h5 (by simpa using hh),fun _=>rfl,fun hh=>h7 (by simpa using hh),fun hh=>h8 (by simpa using hh),fun hh=>h9 (by simpa using hh),fun hh=>⟨⟨by simp[(b0 (by simpa using hh)).1.1],by simp[(b0 (by simpa using hh)).1.2.1],by simp[(b0 (by simpa using hh)).1.2.2]⟩,(b0 (by simpa using hh)).2⟩,fun hh d0=>n0 (by simpa using hh) (by simpa using d0),fun hh=>absurd ((g0 (by simpa using hh)).1 6 (by omega)) (by simp[f0])⟩
  ·cases ho;refine W0a 14 (h6 (o0 6 (by decide))) ?_;refine s0a e4a Z (S.cell 5 Z Z) Z ?_;refine w0a ⟨Z,Z,Z,e0,E9,E5,E2,S,fun hh=>h0 (by simpa using hh),fun hh=>h1 (by simpa using hh),fun hh=>h2 (by simpa using hh),fun hh=>h3 (by simpa using hh),fun hh=>h4 (by simpa using hh),fun hh=>h5 (by simpa using hh),fun _=>rfl,fun _=>rfl,fun hh=>h8 (by simpa using hh),fun hh=>h9 (by simpa using hh),fun hh=>⟨⟨by simp[(b0 (by simpa using hh)).1.1],by simp[(b0 (by simpa using hh)).1.2.1],by simp[(b0 (by simpa using hh)).1.2.2]⟩,(b0 (by simpa using hh)).2⟩,fun hh d0=>n0 (by simpa using hh) (by simpa using d0),fun hh=>absurd ((g0 (by simpa using hh)).1 7 (by omega)) (by simp[f0])⟩
  ·cases ho;refine W0a 15 (h7 (o0 7 (by decide))) ?_;refine B0c t3a.slT Z Z ?_;refine w0a ⟨Z,Z,Z,e0,E9,E5,E2,S,fun hh=>h0 (by simpa using hh),fun hh=>h1 (by simpa using hh),fun hh=>h2 (by simpa using hh),fun hh=>h3 (by simpa using hh),fun hh=>h4 (by simpa using hh),fun hh=>h5 (by simpa using hh),fun hh=>h6 (by simpa using hh),fun _=>rfl,fun _=>rfl,fun hh=>h9 (by simpa using hh),fun hh=>⟨⟨by simp[(b0 (by simpa using hh)).1.1],by simp[(b0 (by simpa using hh)).1.2.1],by simp[(b0 (by simpa using hh)).1.2.2]⟩,(b0 (by simpa using hh)).2⟩,fun hh d0=>n0 (by simpa using hh) (by simpa using d0),fun hh=>absurd ((g0 (by simpa using hh)).1 8 (by omega)) (by simp[f0])⟩
  ·cases ho;refine W0a 16 (h8 (o0 8 (by decide))) ?_;refine j5b (n:=xb) (c:=xb) S t3a Z Z Z Z ?_;intro g w1 S1 X1 G1;refine w0a ⟨Z,Z,Z,e0,(some g,86,List.replicate xb (.slice none 0 0)),E5,E2,S1.place 1,fun hh=>h0 (by simpa using hh),fun hh=>h1 (by simpa using hh),fun hh=>h2 (by simpa using hh),fun hh=>h3 (by simpa using hh),fun hh=>h4 (by simpa using hh),fun hh=>h5 (by simpa using hh),fun hh=>h6 (by simpa using hh),fun hh=>h7 (by simpa using hh),fun _=>rfl,fun _=>⟨g,Z,Z⟩,fun hh=>absurd (b0 (by simpa using hh)).1.2.2 (by simp[f0]),fun hh d0=>n0 (by simpa using hh) (by simpa using d0),fun hh=>absurd ((g0 (by simpa using hh)).1 9 (by omega)) (by simp[f0])⟩
  ·cases ho;obtain⟨G2,cs2,A2,n2,c2,q2,r2⟩:=h2 (o0 2 (by decide));obtain⟨G5,j1,A5,n5,c5,q5,r5⟩:=h5 (o0 5 (by decide));obtain⟨g9,q9,r9⟩:=h9 (o0 9 (by decide));refine W0a 10 q2 (W0a 13 q5 (W0a 17 q9 ?_));refine d1a k5a (vs:=[(0,.slice _ _ _),(1,.slice _ _ _),(2,.slice _ _ _)]) (cs:=[_,_,_]) Z Z Z Z ?_;refine w0a ⟨Z,Z,Z,e0,E9,E5,E2,S,fun hh=>h0 (by simpa using hh),fun hh=>h1 (by simpa using hh),fun _=>⟨G2,cs2,A2,n2,c2,Z,r2⟩,fun hh=>h3 (by simpa using hh),fun hh=>h4 (by simpa using hh),fun _=>⟨G5,j1,A5,n5,c5,Z,r5⟩,fun hh=>h6 (by simpa using hh),fun hh=>h7 (by simpa using hh),fun hh=>h8 (by simpa using hh),fun _=>⟨g9,Z,r9⟩,fun _=>⟨⟨by simp[o0 2 (by decide)],by simp[o0 5 (by decide)],by simp[o0 9 (by decide)]⟩,Z⟩,fun hh d0=>n0 (by simpa using hh) (by simpa using d0),fun hh=>absurd ((g0 (by simpa using hh)).1 10 (by omega)) (by simp[f0])⟩
  ·cases ho;refine j0a S r4a Z Z ?_;intro g w1 S1 X1 G1;refine w0a ⟨Z,Z,Z,(some g,38,[.slice none 0 0,.slice none 0 0,.slice none 0 0]),E9,E5,E2,S1.place 0,fun hh=>h0 (by simpa using hh),fun hh=>h1 (by simpa using hh),fun hh=>h2 (by simpa using hh),fun hh=>h3 (by simpa using hh),fun hh=>h4 (by simpa using hh),fun hh=>h5 (by simpa using hh),fun hh=>h6 (by simpa using hh),fun hh=>h7 (by simpa using hh),fun hh=>h8 (by simpa using hh),fun hh=>h9 (by simpa using hh),fun hh=>⟨⟨by simp[(b0 (by simpa using hh)).1.1],by simp[(b0 (by simpa using hh)).1.2.1],by simp[(b0 (by simpa using hh)).1.2.2]⟩,(b0 (by simpa using hh)).2⟩,fun _ _=>⟨g,Z,Z⟩,fun hh=>absurd ((g0 (by simpa using hh)).1 11 (by omega)) (by simp[f0])⟩
  ·cases ho;have c0:∀k,k<12→f k=true:=fun k hk=>o0 k (by revert k;decide);obtain⟨g,q3,rfl⟩:=n0 (c0 11 (by omega)) f0;have S0:=(b0 (c0 10 (by omega))).2;obtain⟨G2,cs2,A2,n2,c2,q2,r2⟩:=h2 (c0 2 (by omega));obtain⟨G5,j1,A5,n5,c5,q5,r5⟩:=h5 (c0 5 (by omega));obtain⟨g9,q9,r9⟩:=h9 (c0 9 (by omega));rw[q2,q5,q9] at S0;refine W0a 10 q2 (W0a 13 q5 (W0a 17 q9 (W0a 3 q3 (W0a 18 S0 ?_))));refine e0a (kk:=0) (vs:=[_,_,_]) S o2a Z Z Z Z Z Z Z ?_;intro w1 S1 X1;dsimp only[n0a,List.set] at S1;refine w0a ⟨Z,Z,Z,(some g,38,[.slice A2 n2 c2,.slice A5 n5 c5,.slice (some ⟨g9,0,none⟩) xb xb]),E9,E5,E2,S1,fun hh=>h0 (by simpa using hh),fun hh=>h1 (by simpa using hh),fun _=>⟨G2,cs2,A2,n2,c2,Z,r2⟩,fun hh=>h3 (by simpa using hh),fun hh=>h4 (by simpa using hh),fun _=>⟨G5,j1,A5,n5,c5,Z,r5⟩,fun hh=>h6 (by simpa using hh),fun hh=>h7 (by simpa using hh),fun hh=>h8 (by simpa using hh),fun _=>⟨g9,Z,r9⟩,fun _=>⟨⟨by simp[c0 2 (by omega)],by simp[c0 5 (by omega)],by simp[c0 9 (by omega)]⟩,Z⟩,fun _ hh=>by simp at hh,fun _=>⟨fun k hk=>by simp[c0 k hk],g,Z,Z⟩⟩
 rintro f ε w ⟨e1,e2,e0,E9,E5,E2,S,h0,h1,h2,h3,h4,h5,h6,h7,h8,h9,b0,n0,g0⟩ c0;obtain⟨-,g3,q3,rfl⟩:=g0 (c0 12 (by decide));obtain⟨Gm,o1,Am,nm,cm,S0,rfl,Rm⟩:=h2 (c0 2 (by decide));obtain⟨Ga,m1,Aa,na,ca,P1,rfl,Ra⟩:=h5 (c0 5 (by decide));obtain⟨gb,Q1,rfl⟩:=h9 (c0 9 (by decide));rw[S0,P1,Q1] at S;clear c0 h0 h1 h2 h3 h4 h5 h6 h7 h8 h9 b0 n0 g0 S0 P1 Q1;refine fN 1 e1 (fN 2 e2 (fN 3 q3 ?_));replace S:=S.nils (R:=List.replicate xb (none,88,[])) (fun b hb=>by rw[List.eq_of_mem_replicate hb]);refine fC S.k [.o 5] Z ⟨Z,U⟩ ?_;refine wL (fun μk D ε w=>D=[]∧∃k:Nat,∃q0:List Ent,∃vs:List Value,(k+μk=(c.buf.length))∧(g3a 88 (Gm.toList++(Ga.toList++([gb,g3,g2]++M))) w q0 vs (d3a c.buf [] k))∧St [] w0 w ([(some g3,38,[.slice Am nm cm,.slice Aa na ca,.slice (some ⟨gb,0,none⟩) xb xb]),(some gb,86,vs),(Ga,3,m1),(Gm,3,o1),(some g2,38,[.slice none 0 0,.slice none 0 0,.slice none 0 0]),(some g1,38,[.slice Xm xm ym,.slice Xa xa ya,.slice Xb xb yb])]++q0)∧Sl ε [(2,.pointer (some ⟨g2,0,none⟩)),(3,.pointer (some ⟨g3,0,none⟩)),(20,.slice Xb xb yb),(21,.int .i64 xb),(22,.int .i64 k)]) (μ:=(c.buf.length)) ⟨Z,0,List.replicate xb (none,88,[]),List.replicate xb (.slice none 0 0),by omega,by rw[A6a,←N1];exact g3a.nil xb,S,Z⟩ ?_;rintro μk D ε w ⟨rfl,k,q0,vs,hk,hR,S,eZ⟩;refine wK eZ (wB0 Z U (fun d2=>?_) fun d2=>?_)
 ·obtain⟨b,a2,o2,_,E1,p1,_,_,v1,z1⟩:=RdS.get (r1) (k) (by omega);obtain⟨V0,R0,d1,rfl,K0,_⟩:=R4a.open_ z1;have q3:=(hf.bufs k b E1);have m2:g3a 88 (Gm.toList++(Ga.toList++([gb,g3,g2]++M))) w q0 vs ((d3a c.buf [] k).set k (b.take 0)):=by rw[List.take_zero,J8b (S2b (g1a E1))];exact hR
  refine lC (S.k.a v1) [.x a2 o2,.f 0 0] Z ⟨Z,⟨p1,by omega⟩,U⟩ (wL (fun μj D ε w=>D=[]∧∃j:Nat,∃a0:List Ent,∃x0:List Value,(j+μj=(b.length))∧(g3a 88 (Gm.toList++(Ga.toList++([gb,g3,g2]++M))) w a0 x0 ((d3a c.buf [] k).set k (b.take j)))∧St [] w0 w ([(some g3,38,[.slice Am nm cm,.slice Aa na ca,.slice (some ⟨gb,0,none⟩) xb xb]),(some gb,86,x0),(Ga,3,m1),(Gm,3,o1),(some g2,38,[.slice none 0 0,.slice none 0 0,.slice none 0 0]),(some g1,38,[.slice Xm xm ym,.slice Xa xa ya,.slice Xb xb yb])]++a0)∧Sl ε [(2,.pointer (some ⟨g2,0,none⟩)),(3,.pointer (some ⟨g3,0,none⟩)),(4,.int .i64 k),(20,.slice Xb xb yb),(21,.int .i64 xb),(22,.int .i64 k),(27,.slice V0 R0 d1),(28,.int .i64 R0),(29,.int .i64 j)]) (μ:=(b.length)) ⟨Z,0,q0,vs,by omega,m2,S,Z⟩ ?_);rintro μj D ε w ⟨rfl,j,a0,x0,_,N0,S,eZ⟩;refine wK eZ ?_;have K:=z0a.refl [] w;have J1:∀g∈(Gm.toList++(Ga.toList++([gb,g3,g2]++M)))++a6a a0,g<w.heap.size:=by
   intro g hg;simp only[List.mem_append,List.mem_cons,List.not_mem_nil,or_false] at hg;rcases hg with(hg|hg|(rfl|rfl|rfl)|hg)|hg
   ·exact Q7a S (k:=3) Z g hg
   ·exact Q7a S (k:=2) Z g hg
   ·exact S.lt 1 Z
   ·exact S.lt 0 Z
   ·exact S.lt 4 Z
   ·have:=hM g hg;have:=S.size;omega
   ·obtain⟨x,hx,hg⟩:=y2a.1 hg;exact(S.own x (List.mem_append_right _ hx) g hg).2.lt
  refine wB0 Z U (fun i2=>?_) fun i2=>?_
  ·obtain⟨en,b2,p2,_,D0,q1,_,y1,x1,A1⟩:=RdS.get (K0) (j) (by omega);obtain⟨_,_,_,_,_,_,rfl,L0,O0,_⟩:=O0a.open_ A1;have q4:=(q3.2.1 en (d0a D0)).len;have q5:=(q3.2.1 en (d0a D0)).even;unfold K0a.even at q5;refine lO (S.k.a x1) [.x b2 p2,.v 0] Z ⟨⟨Z,y1⟩,⟨q1,by omega⟩,U⟩ (j0a S q1b Z Z ?_);intro g7 w7 S7 X7 G7;have Y1:=Nat.le_trans K.size G7;replace K:=K.trans X7;refine e0a (kk:=0) (vs:=[_,_]) S7 U3b Z Z Z Z Z Z Z ?_;intro E0 z0 b1;dsimp only[n0a,List.set] at z0;replace K:=K.fresh b1 (by first|exact Y1);obtain⟨G,A0,v,U0,O1,B1⟩:=N0.2.2 k (b.take j) (by rw[List.getElem?_set_self (by simp;omega)]);obtain⟨_,_,rfl⟩:=B1.form;have y2:x0.length=c.buf.length:=by have:=N0.2.1;simpa using this
   have M1:(b.take j).length=j:=by rw[List.length_take];omega
   have I1:∀g∈G.toList,g∈(Gm.toList++(Ga.toList++([gb,g3,g2]++M)))++a6a a0:=fun g hg=>List.mem_append_right _ (y2a.2 ⟨_,List.mem_of_getElem? U0,by cases G<;>simp at hg ⊢;exact hg.symm⟩);refine lC0 Z U (w2b b0a (fun i=>[0,1,2,3,4,5,6,7,8,9,11,12,14,17].contains i) [0,1,2,3,4,5,6,7,8,9,10,11,12,13,14,15,16,17] 18 (clF (A:=[_,_,_,_,_,_,_]) (R:=a0) z0 G.toList) _ Z ?_);have j0:=z0.drew;have c1:z0a [] E0 E0.drew:=j2a _ _;generalize E0.drew=u2 at j0 c1 ⊢;have r0:z0a (G.toList) _ _:=c1.of_nil;replace K:=K.trans c1;refine M1a ⟨(St.front (A:=[_,_,_,_,_,_,_]) j0),r0⟩ Z Z Z ?_;refine I0a a4a Z Z ?_;refine f0a ?_;refine M1a ⟨(St.front (A:=[_,_,_,_,_,_,_]) j0),r0⟩ Z Z Z ?_;refine o0a e4a Z (fun w1 hw=>by exact hw.1.cell 1 Z Z) Z ?_;refine f0a ?_;refine M1a ⟨(St.front (A:=[_,_,_,_,_,_,_]) j0),r0⟩ Z Z Z ?_;refine h1a (hv:=Z) (v:=.int .i64 _) Z ?_;refine f0a ?_;refine M1a ⟨(St.front (A:=[_,_,_,_,_,_,_]) j0),r0⟩ Z Z Z ?_;refine I0a a4a Z Z ?_;refine f0a ?_;refine M1a ⟨(St.front (A:=[_,_,_,_,_,_,_]) j0),r0⟩ Z Z Z ?_;refine o0a e4a Z (fun w1 hw=>by exact hw.1.cell 1 Z Z) Z ?_;refine f0a ?_;refine M1a ⟨(St.front (A:=[_,_,_,_,_,_,_]) j0),r0⟩ Z Z Z ?_;refine h1a (hv:=Z) (v:=.int .i64 _) Z ?_;refine f0a ?_;refine M1a ⟨(St.front (A:=[_,_,_,_,_,_,_]) j0),r0⟩ Z Z Z ?_;refine p0a t3a.slT Z (by rfl) Z Z ?_;refine f0a ?_;refine M1a ⟨(St.front (A:=[_,_,_,_,_,_,_]) j0),r0⟩ Z Z Z ?_;refine o0a Y9a Z (fun w1 hw=>by exact hw.1.cell 2 Z ((congrArg (x0[·]?) (show 0+(k:Int).toNat*1=k by simp)).trans O1)) Z ?_;refine f0a ?_;refine M1a ⟨(St.front (A:=[_,_,_,_,_,_,_]) j0),r0⟩ Z Z Z ?_;refine I0a m7b Z Z ?_;refine f0a ?_;refine M1a ⟨(St.front (A:=[_,_,_,_,_,_,_]) j0),r0⟩ Z Z Z ?_;refine o0a v3a Z (fun w1 hw=>by exact hw.1.cell 0 Z Z) Z ?_;refine f0a ?_;refine h9a ⟨(St.front (A:=[_,_,_,_,_,_,_]) j0),r0⟩ Z Z Z Z ?_;have s1:∀g∈(Gm.toList++(Ga.toList++([gb,g3,g2]++M)))++a6a a0,g<u2.heap.size:=fun g hg=>Nat.lt_of_lt_of_le (J1 g hg) K.size;refine x0a j0 O0b Z Z (S4b _ M _ _ en.cells (L0.keep (j0.keep0 M)) s1) ?_;rintro z2 t2 p0 F0 F1;have m0:=r0.trans (F1.mono (by simp));replace K:=K.trans F1;obtain⟨_,_,_,rfl⟩:=p0.form;refine w0a ⟨Z,?_⟩;refine M1a ⟨(St.front (A:=[_,_,_,_,_,_,_]) F0),m0⟩ Z Z Z ?_;refine I0a w6b Z Z ?_;refine f0a ?_;refine M1a ⟨(St.front (A:=[_,_,_,_,_,_,_]) F0),m0⟩ Z Z Z ?_;refine o0a v3a Z (fun w1 hw=>by exact hw.1.cell 0 Z Z) Z ?_;refine f0a ?_;refine h9a ⟨(St.front (A:=[_,_,_,_,_,_,_]) F0),m0⟩ Z Z Z Z ?_;have t1:∀g∈(Gm.toList++(Ga.toList++([gb,g3,g2]++M)))++a6a a0,g<t2.heap.size:=fun g hg=>Nat.lt_of_lt_of_le (J1 g hg) K.size;refine x0a F0 O0b Z Z (S4b _ M _ _ en.values (O0.keep (F0.keep0 M)) t1) ?_;rintro B2 C2 u0 X0 a1;have s0:=m0.trans (a1.mono (by simp));replace K:=K.trans a1;replace p0:=p0.keep (a1.of_nil);obtain⟨_,_,_,rfl⟩:=u0.form;refine w0a ⟨Z,?_⟩;refine M1a ⟨(St.front (A:=[_,_,_,_,_,_,_]) X0),s0⟩ Z Z Z ?_;refine w3a g6c (vs:=[(0,.slice _ _ _),(1,.slice _ _ _)]) (cs:=[_,_]) Z Z Z Z ?_;refine f0a ?_;refine h9a ⟨(St.front (A:=[_,_,_,_,_,_,_]) X0),s0⟩ Z Z Z Z ?_;refine g0a X0 D3a (vs:=[.agg _]) (cs:=[_,_]) Z Z Z Z Z Z ?_;intro x2 D2 Y0 T0 v2;have v0:=s0.trans (T0.mono (by simp));replace K:=K.trans T0;replace p0:=p0.keep (T0.of_nil);replace u0:=u0.keep (T0.of_nil);refine w0a ⟨Z,?_⟩;refine h9a ⟨(St.front (A:=[_,_,_,_,_,_,_,_]) Y0).tail,v0⟩ Z Z Z Z ?_;have K1:=N0.keep (K.of_nil);obtain⟨G',i1,_,P0,D1,Q0⟩:=K1.2.2 k (b.take j) (by rw[List.getElem?_set_self (by simp;omega)]);obtain⟨rfl,rfl⟩:G=G'∧A0=i1:=by rw[U0] at P0;cases P0;exact⟨Z,Z⟩
   obtain rfl:=Option.some.inj (O1.symm.trans D1);refine B0a R1a (k:=8+k) (e1:=en) Y0 D3a ((a6c [_,_,_,_,_,_,_,_] a0 k 8 Z).trans U0) Q0 Z Z (Y0.cells 0 Z) ⟨_,_,Z,p0.more (by omega) (fun g hg=>.inl (by rcases List.mem_append.1 hg with h|h;exact I1 g h;exact h)),u0.more (by omega) (fun g hg=>.inl (by rcases List.mem_append.1 hg with h|h;exact I1 g h;exact h))⟩ Z ?_;intro s2 W0 B0 U1 Z0 t0 H1 W1;have Z1:St [] w0 U1 ([_,_,_,_,_,_,_,_]++a0.set k (W0,88,B0)):=(X0d [_,_,_,_,_,_,_,_] a0 k 8 Z _)▸Z0;have y0:=Z1.tail;have J0:=v0.trans H1;have C0:g3a 88 (Gm.toList++(Ga.toList++([gb,g3,g2]++M))) U1 (a0.set k (W0,88,B0)) (x0.set k s2) ((d3a c.buf [] k).set k (b.take (j+1))):=by
    have:=K1.put (k:=k) (by simp;omega) t0 H1 W1 U0;rw[List.set_set] at this;rw[a1a D0];exact this
   obtain⟨_,_,C1⟩:=t0.form;subst C1;refine w0a ⟨Z,?_⟩;refine M1a ⟨(St.front (A:=[_,_,_,_,_,_,_]) y0),J0⟩ Z Z Z ?_;refine p0a t3a.slT Z (by rfl) Z Z ?_;refine f0a ?_;refine C6a ⟨(St.front (A:=[_,_,_,_,_,_,_]) y0),J0⟩ ?_
   first|refine u0a (kk:=2) y0 E9b Z Z Z (by(simp;omega)) ?_
   intro V1 G0 I0;replace C0:=C0.keep (I0.mono (by simp));refine w0a ⟨Z,?_⟩;refine fP0 Z ⟨by omega,U⟩ ⟨μj-1,by omega,Z,(j+1),(a0.set k (W0,88,B0)),(x0.set k _),(by omega),(C0),(G0.tail.setEnt 1 Z (by simp)),Z⟩
  refine lP0 Z ⟨by omega,U⟩ ?_;refine⟨μk-1,by omega,Z,(k+1),(a0),(x0),(by omega),(by rw[←G7a E1 rfl];rw[List.take_of_length_le (by omega)] at N0;exact N0),S,Z⟩
 refine lO0 Z U (z1a Q0a Z (S.cells 0 Z) Z Z ?_)
 first|refine e0a (kk:=4) (vs:=[_,_,_]) S o2a Z Z Z Z Z Z Z ?_
 intro T1 i0 H0;dsimp only[n0a,List.set] at i0;replace hR:=hR.keep (H0.mono (by simp));refine lR0 Z U ?_;rw[H7a _ _ (by omega)] at hR;refine H1a (n:=3) Z Q0a Z (i0.cells 4 Z) Z ⟨⟨Gm,Ga,o1,m1,_,_,gb,q0,vs,by rw[←N1],Rm,Ra,i0.sublist ?_,hR.less ?_⟩,i0.fin⟩
 ·exact .cons _ (.cons_cons _ (.cons_cons _ (.cons_cons _ (.cons _ (.cons _ (List.Sublist.refl _))))))
 ·intro g hg;simp only[List.mem_append,List.mem_cons] at hg ⊢;rcases hg with h|h|h|h<;>simp[h]
section
variable {P:Program} {r:Option Nat} {N:Nat} {D:List Deferred} {e:Env} {w w0:World} {ops:Array Oper} {rest:List Oper} {K:List Deferred→Env→World→Prop} {L:List Ent} {M:List Nat}
variable {d:Nat} {t:TypeId} {p:String} {af:Array Edge} {x y:Operand} {kd:IntKind}
theorem S8c{o:Oper}{v:Value}{w':World}(hg:o.guard=none)(b0:o.dst=none)(a0:∀c,o.op≠.defer c)
 (d0:(execOp (ev e) o).run P w=.ok (.value v) w') (h:WL P r N ops rest K D e w'):WL P r N ops (o::rest) K D e w:=by
 unfold WL at *;intro a Q hs e0 he hK;have c0:=h a Q hs e0 he hK;simp only[wpListIn,Region.wanted,hg,if_true];refine⟨F0a o w _,?_⟩;have:Oper.semAt (fc r).round a.eval o=execOp (ev e) o:=by rw[Oper.semAt_eq _ _ _ a0,s2a,he]
 rw[this,d0,Oper.uponIn_value,b0];exact c0
theorem M4b{ty el size d0 k n m c b o g c0:Nat}{z:Value}{cs xs news:List Value}(S:St M w0 w L)(hS:SlZ P ty el size z d0)(hk:L[k]?=some (some g,el,cs))(hR:A3a (some g) size n cs (.slice (some ⟨g,0,none⟩) n c0) xs)
 (hx:ev e x=.slice (some ⟨g,0,none⟩) n c0) (hy:ev e y=.slice (some ⟨b,o,none⟩) m c) (e0:O1a w b o news) (hl:news.length=m*size) (h1:∀u∈news,u.oneCell'=true) (g0:n+m≤c0) (hd:Nat.ble (d+1) N=true)
 (h:∀i0 w1,St M w0 w1 (L.set k (some g,el,i0))→A3a (some g) size (n+m) i0 (.slice (some ⟨g,0,none⟩) (n+m) c0) (xs++news)→z0a [g] w w1→WL P r N ops rest K D (upd e d (.slice (some ⟨g,0,none⟩) (n+m) c0)) w1) :
 WL P r N ops (⟨some d,.call { callee:=.builtin .append,args:=#[x,y],argTypes:=#[ty,ty] },t,p,af,none⟩::rest) K D e w:=by
 obtain⟨i,hi,_,r0,_⟩:=hS.parts;obtain⟨hown,_⟩:=hR.own S hk;obtain⟨w1,n0,f0,a0⟩:=run_append_fits (P:=P) w 0 ty t el i size hS.und hi r0 g n c0 xs hown ⟨b,o,none⟩ m c news hl (fun j u hj=>by rw[Addr.add_lit];exact e0 j u hj) h1 g0;obtain⟨G',i0,p0,o0,m0⟩:=J9a f0;obtain rfl:G'=some g:=o0.symm;obtain⟨_,j0⟩:=m0 g Z;have b0:∀q,q<w.heap.size→some g≠some q→w1.heap[q]?=w.heap[q]?:=fun q hq q0=>a0.block q hq q0.symm;have hB:S0a [g] w w1:=⟨a0.os,a0.tape,a0.output,a0.size,fun q hq hm=>b0 q hq (fun hh=>hm (by cases hh;simp))⟩;refine r1a (v:=.slice (some ⟨g,0,none⟩) (n+m) c0) (w':=w1) Z Z hd ?_ (h i0 w1 (S.changed1 k hk hB j0) p0 ⟨a0.size,fun q hq hm=>b0 q hq (fun hh=>hm (by cases hh;simp))⟩);simp[execOp,resolve,invoke,builtin,hx,hy,n0]
theorem K5c{ty el size a0 g o c tb kk:Nat}{z:Value}{cs:List Value}(S:St M w0 w L)(hS:SlZ P ty el size z a0)(hx:ev e x=.slice (some ⟨g,o,none⟩) 1 c)(hk:L[kk]?=some (some g,tb,cs))(ho:o+z.cells.toList.length≤cs.length)(h1:∀v∈z.cells.toList,M9c v=true)
 (h:∀w1,St M w0 w1 (L.set kk (some g,tb,n0a cs o z.cells.toList))→z0a [g] w w1→WL P r N ops rest K D e w1) :
 WL P r N ops (⟨none,.call { callee:=.builtin .clear,args:=#[x],argTypes:=#[ty] },t,p,af,none⟩::rest) K D e w:=by
 obtain⟨_,hi,hz,_⟩:=hS.parts;obtain⟨w1,h2,h3,h4⟩:=St.setN (P:=P) (o:=o) z.cells.toList 0 cs w L hk S (by simpa using ho) h1;have b0:(Builtin.zeroCells z.cells 1).toList=z.cells.toList:=by
  apply List.ext_getElem
  ·simp[Builtin.zeroCells]
  ·intro j q1 q2;simp[Builtin.zeroCells] at q1 q2 ⊢;simp[Nat.mod_eq_of_lt q2,q2]
 have c0:∀w,(zeroValue el).run P w=.ok z w:=fun w=>by simp[zeroValue,typeInfo,hi,hz]
 refine S8c (v:=.tuple #[]) Z Z (by simp) ?_ (h w1 h3 h4);simp[execOp,resolve,invoke,builtin,Builtin.clear_,hx,run_underlying hS.und,c0,b0,h2]
theorem b4c{ty size lo hi mx c n o b:Nat}{xl xh xm:Operand}(hT:SlT P ty size)(hx:ev e x=.slice (some ⟨b,o,none⟩) n c)(hl:ev e xl=.int kd (lo:Int))(hh:ev e xh=.int kd (hi:Int))(hm:ev e xm=.int kd (mx:Int))(h1:lo≤hi)(h2:hi≤mx)(h3:mx≤c)(hd:Nat.ble (d+1) N=true)
 (h:∀v,WL P r N ops rest K D (upd e d v) w) :
 WL P r N ops (⟨some d,.slice ty x (some xl) (some xh) (some xm),t,p,af,none⟩::rest) K D e w:=by
 obtain⟨_,hu,b0⟩:=A5a hT;have e0:(0:Int)≤(mx:Int)∧(mx:Int)≤(c:Int):=by omega
 have e1:(0:Int)≤(lo:Int)∧(lo:Int)≤(hi:Int):=by omega
 have e2:(0:Int)≤(hi:Int)∧(hi:Int)≤(mx:Int):=by omega
 refine r1a (v:=.slice (if mx=lo then some ⟨b,o,none⟩ else some ⟨b,o+lo*size,none⟩) (hi-lo) (mx-lo)) Z Z hd ?_ (h _);have a0:(Instr.slice ty (.slice (some ⟨b,o,none⟩) n c) (some (.int kd (lo:Int))) (some (.int kd (hi:Int))) (some (.int kd (mx:Int)))).run P w=.ok (.slice (if mx=lo then some ⟨b,o,none⟩ else some ⟨b,o+lo*size,none⟩) (hi-lo) (mx-lo)) w:=by
  simp[Instr.slice,Instr.sliceBounds,Instr.sliceBound,asIntOf,run_underlying hu,b0,e0,e1,e2,h1,h2,h3,Addr.add_lit]
 simp only[execOp,Instr.sliceAt,Sem.run_bind,run_underlying hu,Result.andThen_ok,hx,Option.map_some,hl,hh,hm,a0,Sem.run_pure]
end
theorem W5b{size:Nat}:∀(css:List (List Value)) (i:Nat),(∀x∈css,x.length=size)→css.flatten.take (i*size)=(css.take i).flatten
 | [],i,_=>by simp
 | x::css,0,_=>by simp
 | x::css,i+1,h=>by
   have hx:=h x (by simp);rw[List.flatten_cons,List.take_succ_cons,List.flatten_cons,←W5b css i (fun y hy=>h y (by simp[hy])),Nat.add_mul,Nat.one_mul,List.take_append,hx,Nat.add_sub_cancel,List.take_of_length_le (by omega)]
theorem p5b{size:Nat}:∀(css:List (List Value)) (i:Nat),(∀x∈css,x.length=size)→css.flatten.drop (i*size)=(css.drop i).flatten
 | [],i,_=>by simp
 | x::css,0,_=>by simp
 | x::css,i+1,h=>by
   have hx:=h x (by simp);rw[List.flatten_cons,List.drop_succ_cons,←p5b css i (fun y hy=>h y (by simp[hy])),Nat.add_mul,Nat.one_mul,List.drop_append,hx,Nat.add_sub_cancel,List.drop_eq_nil_of_le (by omega),List.nil_append]
theorem B2b:∀(vs cs:List Value) (o:Nat),(n0a cs o vs).length=cs.length
 | [],_,_=>rfl
 | v::vs,cs,o=>by rw[n0a,B2b vs,List.length_set]
theorem g1b:∀(vs cs:List Value) (o n:Nat),n≤o→(n0a cs o vs).take n=cs.take n
 | [],_,_,_,_=>rfl
 | v::vs,cs,o,n,h=>by rw[n0a,g1b vs _ _ _ (by omega),List.take_set_of_le h]
theorem a1c(g a0 n i:Nat)(css:List (List Value))(cs:List Value)(w0:World)(hB:E0a w0 (g,88,cs))(hR:A3a (some g) 2 n cs (.slice (some ⟨g,0,none⟩) n a0) css.flatten)(hn:css.length=n)(h2:∀x∈css,x.length=2)(h1:∀u∈css.flatten,u.oneCell'=true)(hi:i<n)(x0:n≤1000000):
 N0a prog 188 #[.slice (some ⟨g,0,none⟩) n a0,.int .i64 i,.int .i64 ((i:Int)+1)] w0 fun v w'=>v=.slice (some ⟨g,0,none⟩) (n-1) a0∧S0a [g] w0 w'∧∃p0,E0a w' (g,88,p0)∧A3a (some g) 2 (n-1) p0 (.slice (some ⟨g,0,none⟩) (n-1) a0) (css.eraseIdx i).flatten:=by
 have S:=St.borrow1 hB;obtain⟨_,r2⟩:=hR;obtain⟨c0,f0,y0,q0⟩:n≤a0∧a0≤maxLen∧cs.length=a0*2∧cs.take (n*2)=css.flatten:=by
  rcases r2 with⟨h,_⟩|⟨g',g0,h,h',a,b,c,d⟩
  ·cases h
  ·cases h;cases h';exact⟨a,b,c,d⟩
 have j0:A3a (some g) 2 i cs (.slice (some ⟨g,0,none⟩) i a0) (css.take i).flatten:=by
  refine⟨?_,.inr ⟨g,a0,Z,Z,by omega,f0,y0,?_⟩⟩
  ·rw[i5a _ (fun x hx=>h2 x (List.mem_of_mem_take hx)),List.length_take];congr 1;omega
  ·rw[←W5b css i h2,←q0,List.take_take];congr 1;omega
 have m0:∃o,(if a0=i+1 then(⟨g,0,none⟩:Addr) else⟨g,0+(i+1)*2,none⟩)=⟨g,o,none⟩∧O1a w0 g o (css.drop (i+1)).flatten:=by
  by_cases hc:a0=i+1
  ·refine⟨0,by rw[if_pos hc],?_⟩;rw[List.drop_eq_nil_of_le (by omega)];intro j v hj;simp at hj
  ·refine⟨0+(i+1)*2,by rw[if_neg hc],fun j v hj=>?_⟩;rw[←p5b css (i+1) h2,←q0,List.getElem?_drop,List.getElem?_take] at hj
   split at hj
   ·exact hB.cell (by rw[Nat.zero_add];exact hj)
   ·cases hj
 obtain⟨_,A0,d0⟩:=m0;have z0:(css.drop (i+1)).flatten.length=(n-(i+1))*2:=by rw[i5a _ (fun x hx=>h2 x (List.mem_of_mem_drop hx)),List.length_drop,hn]
 have i0:∀u∈(css.drop (i+1)).flatten,u.oneCell'=true:=fun u hu=>h1 u (by
  obtain⟨x,hx,hu⟩:=List.mem_flatten.1 hu;exact List.mem_flatten.2 ⟨x,List.mem_of_mem_drop hx,hu⟩)
 have b0:((i:Int)+1)=((i+1:Nat):Int):=by omega
 refine a0a func188 Z ntmps188 Z ?_;refine wO0 Z U ?_;refine b4c (lo:=i) (hi:=i+1) (mx:=n) D3a.slT Z Z (by rw[←b0];rfl) Z (by omega) (by omega) c0 Z ?_;intro D0;refine lB0 Z U (fun v0=>by exfalso;omega) fun v0=>?_;refine lC0 Z U (v0a b0a [0,1,2,3,4,5] [] [6,7] Z (Cl _ _ _ _) (Cl.start S) ?_);refine qO0 Z U (p7b (lo:=0) (hi:=i) (kd:=.i64) D3a.slT Z (.inl ⟨Z,Z⟩) (.inr Z) c0 Z ?_);simp only[Nat.zero_mul,Nat.add_zero,Nat.sub_zero,ite_self];refine qO0 Z U ?_;refine p7b (lo:=i+1) (hi:=n) (kd:=.i64) D3a.slT Z (.inr (by rw[←b0];rfl)) (.inl ⟨Z,Z⟩) c0 Z ?_;rw[A0];refine qD Z U ?_;rintro G0 ⟨s0,t0⟩;refine M4b (k:=0) s0 D3a Z j0 Z Z (d0.keep (M:=[]) t0 (by simp)) z0 i0 (by omega) Z ?_;intro e0 E0 r0 n0 B0;have u0:i+(n-(i+1))=n-1:=by omega
 rw[u0] at n0 ⊢;refine lO0 Z U (F3b (lo:=n-1) (hi:=n) (kd:=.i64) D3a.slT Z (.inr Z) (.inr Z) (by omega) (by omega) Z ?_);rw[if_neg (show ¬a0=n-1 by omega),show n-(n-1)=1 by omega];obtain⟨rc,rt⟩:e0.length=a0*2∧e0.take ((n-1)*2)=(css.take i).flatten++(css.drop (i+1)).flatten:=by
  rcases n0.2 with⟨h,_⟩|⟨g',g0,h,h',a,b,c,d⟩
  ·cases h
  ·cases h;cases h';exact⟨c,d⟩
 refine K5c (kk:=0) r0 D3a Z Z (by rw[rc];simp[Value.cells];omega) (by simp[Value.cells,M9c]) ?_;intro F0 o0 C0;refine lT Z U Z ⟨Z,o0.below,_,o0.blk 0 Z,?_,.inr ⟨g,a0,Z,Z,by omega,f0,?_,?_⟩⟩
 ·rw[i5a _ (fun x hx=>h2 x (List.mem_of_mem_eraseIdx hx)),List.length_eraseIdx,if_pos (by omega),hn]
 ·rw[B2b];exact rc
 ·rw[g1b _ _ _ _ (by omega),rt,List.eraseIdx_eq_take_drop_succ,List.flatten_append]
theorem k3c(p:h0a)(hp:n1a p)(c:G0a)(t i:Nat)(b:List K0a)(M:List Nat)(w0:World)(hM:∀g∈M,g<w0.heap.size)(cs xs:List Value)(m:Int)(hI:InP p M w0 cs)(hX:D0a M w0 c xs)(hf:J5a p c)(q0:c.buf[t]?=some b)(hi:i<b.length):
 N0a prog 146 #[.agg (xs++(cs++[Value.int .i64 m])).toArray,.int .i64 t,.int .i64 i] w0 fun v w'=>(∃ys,v=.agg ys.toArray∧D0a M w' (M4a c t i) ys)∧Below w0.heap.size w0 w':=by
 obtain⟨_,_,_,_,_,_,_,_,_,_,_,_,rfl,-⟩:=hI.rd.open_;obtain⟨_,_,_,_,_,_,_,_,_,rfl,_⟩:=hX.open_;have S:=St.refl w0;have f1:=hf.mem.len;have n1:=hp.ncells;have n2:=hp.nthreads;have f3:=hf.nbuf;have ht:=g1a q0;have c1:=hf.bufs t b q0;have E0:=H9a hf t i;obtain⟨en,f0⟩:∃en,b[i]?=some en:=⟨b[i],List.getElem?_eq_getElem hi⟩;have q1:=c1.2.1 en (d0a f0);have q2:=q1.i64s;have q3:0<c.mem.length:=by
  cases R0:en.cells with
  | nil=>exact absurd R0 q1.some_
  | cons x l=>have:=q2 x (by rw[R0];simp);omega
 have g1:M4a c t i=⟨z2a c.mem en,c.at_,c.buf.set t (b.eraseIdx i)⟩:=by unfold M4a;rw[getD_some q0,getD_some f0]
 rw[g1] at E0 ⊢;refine a0a func146 Z ntmps146 Z ?_;refine wO0 Z U (m0a S Z ?_);intro g3 w3 S3 X3 G3;refine j0a S3 r4a Z Z ?_;intro g6 w6 S6 X6 G6;refine lO S6.k [.o 1] Z ⟨Z,U⟩ ?_;have b1:D0a (g6::g3::M) w6 c _:=(hX.more (fun g hg=>by rcases List.mem_cons.1 hg with rfl|hg;exact .inr (by simpa using S6.new 0 Z);rcases List.mem_cons.1 hg with rfl|hg;exact .inr (by simpa using S6.new 1 Z);exact .inl hg)).keep (S6.keep0 _);have Z0:∀g∈g6::g3::M,g<w6.heap.size:=fun g hg=>by
  rcases List.mem_cons.1 hg with rfl|hg
  ·exact S6.lt 0 Z
  ·rcases List.mem_cons.1 hg with rfl|hg
   ·exact S6.lt 1 Z
   ·have:=hM g hg;have:=S6.size;omega
 refine N2a v0c Z Z (b8b p hp c (g6::g3::M) _ Z0 _ b1 hf) ?_;rintro r1 j1 ⟨⟨_,_,_,_,_,_,_,c0,vs,rfl,Rm,Ra,s0,hR⟩,-⟩;have X0:=S6.joinR s0;obtain⟨gm,pad,rfl,rfl,rfl,i1⟩:=Rm.pad q3;obtain⟨_,_,_,rfl⟩:=Ra.form;have K:=z0a.refl [] j1;refine j0a X0 r4a Z Z ?_;intro g7 w7 S7 X7 G7;have V0:=Nat.le_trans K.size G7;replace K:=K.trans X7;refine e0a (kk:=0) (vs:=[_,_,_]) S7 o2a Z Z Z Z Z Z Z ?_;intro m1 d0 u0;dsimp only[n0a,List.set] at d0;replace K:=K.fresh u0 (by first|exact V0);have B0:=hR.keep (K.of_nil);obtain⟨G,P0,v,n0,G0,F0⟩:=B0.2.2 t b q0;obtain⟨g,O0,_,rfl,rfl,_,d1,S0⟩:=F0.get d0 (k:=6+t) ((a6c [_,_,_,_,_,_] c0 t 6 Z).trans n0) f0;obtain⟨_,_,_,_,_,_,rfl,-⟩:=S0.open_;have p1:vs.length=c.buf.length:=B0.2.1;refine lC0 Z U (v0a b0a [0,1,2,3,4,5,6,7,8,9] [] [10] Z (Cl _ _ _ _) (Cl.start d0) ?_);refine qO d0.q [.o 0,.o 0] Z ⟨Z,Z,U⟩ (p0a t3a.slT Z (by rfl) Z Z ?_);refine o0a Y9a Z (fun w1 hw=>by exact hw.1.cell 1 Z ((congrArg (vs[·]?) (show 0+(t:Int).toNat*1=t by simp)).trans G0)) Z ?_;refine qO0 Z U (p0a D3a.slT Z (by rfl) Z Z ?_);refine u1a m3b Z (fun w1 hw=>d1.keep (M:=[]) hw.2 (by simp)) (by rfl) Z ?_;refine qD Z U ?_;rintro u1 ⟨L0,N0⟩;refine N2a C0c Z Z (e8b en c.mem gm _ pad (gm::[]) _ _ (O0a.keep N0.of_nil _ _ (O0a.more (fun x hx=>by simp at hx;subst hx;simp) _ _ S0)) (L0.blk 3 Z) q1.even (fun x hx=>by have:=q2 x hx;omega)) ?_;rintro s1 r0 ⟨C0,I0⟩;have K0:=L0.changed1 3 Z I0 C0;have Y0:z0a [gm] _ r0:=z0a.of_belowB I0;have a1:=(B0.keep N0.of_nil).keep (Y0.mono (by simp));refine lC0 Z U (w2b b0a (fun i=>[0,1,2,3,4,5,6,7,8,9,10,12].contains i) [0,1,2,3,4,5,6,7,8,9,10,11,12] 13 (clF (A:=[_,_,_,_,_,_]) (R:=c0) K0 [g]) _ Z ?_);have a0:=K0.drew;have y0:z0a [] r0 r0.drew:=j2a _ _;generalize r0.drew=v1 at a0 y0 ⊢;have b0:z0a ([g]) _ _:=y0.of_nil;refine M1a ⟨(St.front (A:=[_,_,_,_,_,_]) a0),b0⟩ Z Z Z ?_;refine I0a a4a Z Z ?_;refine f0a ?_;refine M1a ⟨(St.front (A:=[_,_,_,_,_,_]) a0),b0⟩ Z Z Z ?_;refine o0a e4a Z (fun w1 hw=>by exact hw.1.cell 0 Z Z) Z ?_;refine f0a ?_;refine M1a ⟨(St.front (A:=[_,_,_,_,_,_]) a0),b0⟩ Z Z Z ?_;refine h1a (hv:=Z) (v:=.int .i64 _) Z ?_;refine f0a ?_;refine M1a ⟨(St.front (A:=[_,_,_,_,_,_]) a0),b0⟩ Z Z Z ?_;refine I0a a4a Z Z ?_;refine f0a ?_;refine M1a ⟨(St.front (A:=[_,_,_,_,_,_]) a0),b0⟩ Z Z Z ?_;refine o0a e4a Z (fun w1 hw=>by exact hw.1.cell 0 Z Z) Z ?_;refine f0a ?_;refine M1a ⟨(St.front (A:=[_,_,_,_,_,_]) a0),b0⟩ Z Z Z ?_;refine h1a (hv:=Z) (v:=.int .i64 _) Z ?_;refine f0a ?_;refine M1a ⟨(St.front (A:=[_,_,_,_,_,_]) a0),b0⟩ Z Z Z ?_;refine p0a t3a.slT Z (by rfl) Z Z ?_;refine f0a ?_;refine M1a ⟨(St.front (A:=[_,_,_,_,_,_]) a0),b0⟩ Z Z Z ?_;refine o0a Y9a Z (fun w1 hw=>by exact hw.1.cell 1 Z ((congrArg (vs[·]?) (show 0+(t:Int).toNat*1=t by simp)).trans G0)) Z ?_;refine f0a ?_;refine M1a ⟨(St.front (A:=[_,_,_,_,_,_]) a0),b0⟩ Z Z Z ?_;refine h1a (hv:=Z) (v:=.int .i64 _) Z ?_;refine f0a ?_;refine M1a ⟨(St.front (A:=[_,_,_,_,_,_]) a0),b0⟩ Z Z Z ?_;refine h1a (hv:=Z) (v:=.int .i64 _) Z ?_;refine f0a ?_;refine M1a ⟨(St.front (A:=[_,_,_,_,_,_]) a0),b0⟩ Z Z Z ?_;refine o0d Z Z (by unfold i64;omega) Z ?_;refine f0a ?_;refine h9a ⟨(St.front (A:=[_,_,_,_,_,_]) a0),b0⟩ Z Z Z Z ?_;have Q0:=a1.keep y0.of_nil;obtain⟨G',z0,_,o0,H0,p0⟩:=Q0.2.2 t b q0;obtain⟨rfl,rfl⟩:some g=G'∧P0=z0:=by rw[n0] at o0;cases o0;exact⟨Z,Z⟩
 obtain rfl:=Option.some.inj (G0.symm.trans H0);obtain⟨css,l1,l2,rv,l4⟩:=p0;refine N2a E7c Z Z (a1c g O0 b.length i css P0 _ (a0.blk (6+t) ((a6c [_,_,_,_,_,_] c0 t 6 Z).trans n0)) rv l1 l2 (Q7c l1 l4) hi (by omega)) ?_;rintro t1 T0 ⟨rfl,J0,A0,D0,W0⟩;have v0:z0a [g] _ T0:=z0a.of_belowB J0;have t0:St [] w0 T0 ([_,_,_,_,_,_]++c0.set t (some g,88,A0)):=(X0d [_,_,_,_,_,_] c0 t 6 Z _)▸a0.changed1 (6+t) ((a6c [_,_,_,_,_,_] c0 t 6 Z).trans n0) J0 D0;have j0:=b0.trans v0;have m0:=Q0.put (k:=t) ht (x1a.erase R1a l1 l2 l4 hi W0 (v0.mono (by simp))) (G:=some g) (by simpa using v0) (fun g hg=>.inl hg) n0;refine w0a ⟨Z,?_⟩;refine M1a ⟨(St.front (A:=[_,_,_,_,_,_]) t0),j0⟩ Z Z Z ?_;refine p0a t3a.slT Z (by rfl) Z Z ?_;refine f0a ?_;refine C6a ⟨(St.front (A:=[_,_,_,_,_,_]) t0),j0⟩ ?_
 first|refine u0a (kk:=1) t0 E9b Z Z Z (by(simp;omega)) ?_
 intro U0 e0 i0;replace m0:=m0.keep (i0.mono (by simp));refine w0a ⟨Z,?_⟩;refine fO e0.k [.w 0] Z ⟨⟨Z,by rfl⟩,U⟩ ?_
 first|refine e0a (kk:=4) (vs:=[_,_,_]) e0 o2a Z Z Z Z Z Z Z ?_
 intro o1 g0 x0;dsimp only[n0a,List.set] at g0;replace m0:=m0.keep (x0.mono (by simp));refine lR0 Z U ?_;have SF:=g0.setEnt 1 Z (show _=vs.set t (.slice (some ⟨g,0,none⟩) (b.length-1) O0) by simp);refine H1a (n:=3) Z Q0a Z (SF.cells 4 Z) Z ⟨⟨_,Z,_,_,_,Z,?_,Ra.rdI SF (k:=2) Z hM (D6a hp hf) (by omega),?_⟩,SF.fin⟩
 ·have:=(A3a.ofPad (g:=gm) (l:=z2a c.mem en) (pad:=pad) (by simpa using i1)).rdI SF (k:=3) Z hM (y3a hp E0.mem) (by simp;omega);simpa using this
 ·have hA:=SF.apartM (A:=[_,_,_,_,_,_]) hM;have:=SF.rdBs (M:=M) 1 Z (V0a hM (SF.new 1 Z)) (bs:=c.buf.set t (b.eraseIdx i)) (by simp;omega) (m0.rd (A:=[_,_,_,_,_,_]) SF (Mx:=M) (fun g hg=>by simp[hg]) hA (fun x hx=>by
   obtain⟨k,hk,rfl⟩:=List.getElem_of_mem hx;have:=(E0.bufs k _ (List.getElem?_eq_getElem hk)).1;omega))
  rw[List.length_set] at this;exact this
end Go.Fw
