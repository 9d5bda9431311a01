/-
  Part 3 of 8 of the proof of InterfereOrder: what it leans on. No conditions.
-/
import Derived.Test.YtlegngbbcckmnaaGreatDoorZInterfereOrder2
import Derived.Test.YtlegngbbcckmnaaGreatDoorRows
import Derived.ProofKit
import Derived.LaidMore
import Derived.OpenShut
import Derived.Carry
import Derived.SizedLaws
import Derived.Stop.Joined
import Derived.Test.YtlegngbbcckmnaaGreatDoorTie
import Derived.Test.YtlegngbbcckmnaaGreatDoorCards
import Derived.SevenTiedAt
import Derived.Lib.SliceRun
import Derived.Laws.OwnMore
import Derived.Lib.Builder
import Derived.Lib.AppendStr
import Derived.Laws.Externs
import Derived.Laws.Concat
import Derived.Lib.ItoaNum
import Derived.Shelf.Strings.Builder1
import Derived.Shelf.Small.Bits
import Derived.Shelf.Small.Wraps
import Derived.Shelf.Strconv.Itoa0
import Derived.Shelf.Strconv.Itoa1
import Derived.Shelf.LaysM
import Derived.Shelf.Strconv.Itoa2
import Derived.Shelf.Strconv.Itoa3
import Derived.Shelf.Sort.Plain
import Derived.Shelf.Slices.Equal
import Derived.Ground.Names2Prog
import Derived.Shelf.Slices.Clone
import Derived.Shelf.Slices.CompactI
import Derived.Shelf.Slices.SearchI
import Derived.Shelf.Slices.Cells
import Derived.Shelf.Slices.In.SortNone
import Derived.Ground.SlsfProg
import Derived.Shelf.SlSortCmp.InsertionK
import Derived.Shelf.SlSortCmp.SiftDownK
import Derived.Shelf.SlSortCmp.HeapSortK
import Derived.Shelf.SlSortCmp.MedianK
import Derived.Shelf.SlSortCmp.PivotK
import Derived.Shelf.SlSortCmp.ReverseRangeK
import Derived.Shelf.SlSortCmp.PartialInsertionK
import Derived.Shelf.SlSortCmp.PartitionEqualK
import Derived.Shelf.SlSortCmp.PartitionK
import Derived.Shelf.SlSortCmp.PdqK
import Derived.Shelf.SlSortCmp.WholeK
import Derived.Shelf.SlSortCmp.NoneTotal
import Derived.Test.YtlegngbbcckmnaaGreatDoorProg
set_option maxRecDepth 100000
set_option maxHeartbeats 4000000
namespace Go.Proofs.YtlegngbbcckmnaaGreatDoor
end Go.Proofs.YtlegngbbcckmnaaGreatDoor
namespace Go.Fw
open Go.Proofs.YtlegngbbcckmnaaGreatDoor Go.Proofs Go.RowKit Go.ChangeShapes Go.WideShapes Go.Shelf Tryz
theorem RdS.dropped{α:Type}{M:List Nat}{w:World}{size b o n c:Nat}{R:List Value→α→Prop}{l:List α}(h:RdS M w size R (.slice (some ⟨b,o,none⟩) n c) l)(lo:Nat)(b0:lo≤n):
 RdS M w size R (.slice (some (if c=lo then⟨b,o,none⟩ else⟨b,o+lo*size,none⟩)) (n-lo) (c-lo)) (l.drop lo):=by
 obtain⟨_,_,_,_,h5⟩:=h.at;refine⟨_,_,_,Z,by simp;omega,by omega,by omega,by omega,fun h0=>?_⟩;obtain⟨_,_,hA,hb,a0⟩:=h5 (by omega);cases hA;rw[if_neg (by omega)];refine⟨b,o+lo*size,Z,hb,fun i x hx=>?_⟩;rw[List.getElem?_drop] at hx;obtain⟨cs,h6,h7,h8⟩:=a0 _ x hx;refine⟨cs,h6,?_,h8⟩;rw[Nat.add_mul,←Nat.add_assoc] at h7;exact h7
theorem t8a(s:y2a)(M:List Nat)(w0:World)(ss:List Value)(vf:Value)(q:Int→Bool)(hS:Y1a M w0 ss s)(hp:j2a prog M w0 vf q)(hK:i2a M w0)(hM:∀g∈M,g<w0.heap.size)
 (hg:P2a s.guard q=true) (hs:∀a∈s.set,P2a a.to q=true) :
 E0a prog 279 #[.agg ss.toArray,vf] w0 fun v w'=>v=.bool true∧Below w0.heap.size w0 w':=by
 obtain⟨Ag,ng,cg,As,ns,j0,rfl,⟨_,_⟩,hG,d0,_⟩:=hS.open_;obtain⟨f,first,caps,rfl,_⟩:=id hp;have S:=St.refl w0;have m0:∀w':World,w0.heap.size≤w'.heap.size→∀g∈M,g<w'.heap.size:=fun w' h g hg=>by have:=hM g hg;omega
 refine a0a func279 Z ntmps279 Z ?_;refine wO0 Z U (p0a S Z ?_);intro g2 w2 S2 X2 G2;refine lOn 8 S2.k [.o 0] Z ⟨Z,U⟩ (I0a Z ?_);refine g0a S2 r8a Z Z (hg▸X5a _ M _ _ _ q (RdE.keep (S2.keep0 M) _ _ hG) (hp.keep (S2.keep0 M)) (hK.keep (S2.keep0 M)) (m0 _ S2.size)) ?_;intro x0 i0 u0;refine lC i0.k [.o 0] Z ⟨Z,U⟩ (wL (fun μk D ε w=>D=[]∧∃k:Nat,(k+μk=(s.set.length))∧St [] w0 w [(some g2,60,[.int .i64 s.kind,.int .i64 s.frm,.int .i64 s.to,.int .i64 s.guard.op,.int .i64 s.guard.w,.int .i64 s.guard.n,.slice Ag ng cg,.slice As ns j0,.bool s.release,.int .i64 s.target,.int .i64 s.module_])]∧Sl ε [(1,.func (.func f) first caps),(13,.slice As ns j0),(14,.int .i64 ns),(15,.int .i64 k)]) (μ:=(s.set.length)) ⟨Z,0,by omega,i0,Z⟩ ?_);rintro μk D ε w ⟨rfl,k,_,S,eZ⟩;refine wK eZ (wB0 Z U (fun q0=>?_) fun q0=>?_)
 ·obtain⟨a,p0,s0,_,r0,b0,_,f0,e0,g0⟩:=RdS.get (d0) (k) (by omega);obtain⟨_,_,_,rfl,_,c0⟩:=Q0a.open_ g0;refine lO (S.k.a e0) [.x p0 s0,.v 0] Z ⟨⟨Z,f0⟩,⟨b0,by omega⟩,U⟩ (h0a S V3b Z Z ?_);intro g6 w6 S6 X6 G6;refine c0a (kk:=0) (vs:=[_,_,_,_,_]) S6 w4b Z Z Z Z Z Z Z ?_;intro t0 a0 o0;dsimp only[f0a,List.set] at a0;refine lO a0.k [.o 0] Z ⟨Z,U⟩ (g0a a0 r8a Z Z ((hs a (d0a r0))▸X5a _ M _ _ _ q (RdE.keep (a0.keep0 M) _ _ c0) (hp.keep (a0.keep0 M)) (hK.keep (a0.keep0 M)) (m0 _ a0.size)) ?_);intro y0 n0 v0;refine lP0 Z ⟨by omega,U⟩ ⟨μk-1,by omega,Z,(k+1),(by omega),n0.tail,Z⟩
 exact lT Z U Z ⟨Z,S.fin⟩
theorem h0b(l:List o3a)(M:List Nat)(w0:World)(v vf:Value)(q:Int→Bool)(hS:N8c M w0 v l)(hp:j2a prog M w0 vf q)(hs:∀a∈l,q a.cell=true):
 E0a prog 280 #[v,vf] w0 fun v w'=>v=.bool true∧Below w0.heap.size w0 w':=by
 obtain⟨As,ns,m0,rfl⟩:=hS.form;obtain⟨_,_⟩:=hS.len;obtain⟨f,first,caps,rfl,_⟩:=id hp;have S:=St.refl w0;refine a0a func280 Z ntmps280 Z ?_;refine wC0 Z U (wL (fun μk D ε w=>D=[]∧∃k:Nat,(k+μk=(l.length))∧St [] w0 w []∧Sl ε [(1,.func (.func f) first caps),(7,.slice As ns m0),(8,.int .i64 ns),(9,.int .i64 k)]) (μ:=(l.length)) ⟨Z,0,by omega,S,Z⟩ ?_);rintro μk D ε w ⟨rfl,k,_,S,eZ⟩;refine wK eZ (wB0 Z U (fun n0=>?_) fun n0=>?_)
 ·obtain⟨a,j0,p0,_,o0,b0,_,d0,c0,e0⟩:=RdS.get (hS) (k) (by omega);obtain⟨_,_,_,rfl,f0,_⟩:=Q0a.open_ e0;refine lO (S.k.a c0) [.x j0 p0,.v 0] Z ⟨⟨Z,d0⟩,⟨b0,by omega⟩,U⟩ (h0a S V3b Z Z ?_);intro g6 w6 S6 X6 G6
  first|refine c0a (kk:=0) (vs:=[_,_,_,_,_]) S6 w4b Z Z Z Z Z Z Z ?_
  intro q0 a0 i0;dsimp only[f0a,List.set] at a0;refine lO a0.k [.o 0] Z ⟨Z,U⟩ (V8a a0 (hp.keep (a0.keep0 M)) Z Z (f0) (hs a (d0a o0)) Z (fun s0 g0 r0=>?_));refine lP0 Z ⟨by omega,U⟩ ⟨μk-1,by omega,Z,(k+1),(by omega),g0.tail,Z⟩
 exact lT Z U Z ⟨Z,S.fin⟩
theorem h7c(e:E)(M:List Nat)(w0:World)(cs:List Value)(hR:RdE M w0 e cs)(he:e=⟨1,1,1,[]⟩):E0a prog 284 #[.agg cs.toArray] w0 fun v w'=>v=.bool true∧Below w0.heap.size w0 w':=by
 obtain⟨_,n,_,rfl,_⟩:=hR.cells;have e1:e.op=1:=by rw[he]
 have e2:e.w=1:=by rw[he]
 have e3:e.n=1:=by rw[he]
 have e4:e.kids.length=0:=by rw[he];rfl
 have S:=St.refl w0;refine a0a func284 Z ntmps284 Z ?_;refine wO0 Z U (p0a S Z ?_);intro g1 w1 S1 X1 G1;refine lB S1.k [.o 0] Z ⟨Z,U⟩ (fun h5=>?_) (fun h5=>by exfalso;omega);refine lB S1.k [.o 0] Z ⟨Z,U⟩ (fun h9=>?_) (fun h9=>by exfalso;omega);refine lB S1.k [.o 0] Z ⟨Z,U⟩ (fun a0=>?_) (fun a0=>by exfalso;omega);refine lB S1.k [.o 0] Z ⟨Z,U⟩ (fun b0=>?_) (fun b0=>by exfalso;omega);exact lT Z U Z ⟨Z,S1.fin⟩
theorem q7b(s:y2a)(M:List Nat)(w0:World)(ss:List Value)(hS:Y1a M w0 ss s)(hg:s.guard=⟨1,1,1,[]⟩)(hs:s.set=[]):
 E0a prog 283 #[.agg ss.toArray] w0 fun v w'=>v=.bool true∧Below w0.heap.size w0 w':=by
 obtain⟨_,_,_,_,_,_,rfl,⟨_,_⟩,hG,_,a0,_⟩:=hS.open_;have S:=St.refl w0;rw[hs] at a0;simp only[List.length_nil] at a0;refine a0a func283 Z ntmps283 Z ?_;refine wO0 Z U (p0a S Z ?_);intro g1 w1 S1 X1 G1;refine lO S1.k [.o 0] Z ⟨Z,U⟩ (g0a S1 w9c Z Z (h7c _ M _ _ (RdE.keep (S1.keep0 M) _ _ hG) hg) ?_);intro w5 S5 X5;refine lB S5.k [.o 0] Z ⟨Z,U⟩ (fun b0=>?_) (fun b0=>by exfalso;omega);exact lT Z U Z ⟨Z,S5.fin⟩
theorem A4c{p:o0a}{s:y2a}{t:Int}{z:Bool}(h:∀(i:Nat) (hi:i<s.set.length),0<i∨s.kind≠2→Y4a p.cells (s.set[i]).to z t){k:Nat}{a:o3a}(ha:s.set[k+1]?=some a):Y4a p.cells a.to z t:=by
 obtain⟨h1,rfl⟩:=List.getElem?_eq_some_iff.1 ha;exact h _ h1 (.inl (by omega))
structure Y6a (p:o0a) (t:Nat) (x:k1a) (s:y2a) (M:List Nat) (w:World) (cs ss:List Value):Prop where
 prog:R0a M w p cs
 step:Y1a M w ss s
 ok:o1a p
 sok:G3b p t x.points s
 masks:i2a M w
 low:∀g∈M,g<w.heap.size
theorem O3b(p:o0a)(t:Nat)(x:k1a)(s:y2a)(M:List Nat)(w0:World)(cs ss:List Value)(h:Y6a p t x s M w0 cs ss)(hk:s.kind=1):
 E0a prog 270 #[.agg cs.toArray,.int .i64 t,.agg ss.toArray] w0 fun v w'=>v=.bool true∧Below w0.heap.size w0 w':=by
 obtain⟨hP,hS,hp,a0,hK,hM⟩:=h;obtain⟨_,_,_,_,_,_,_,_,_,_,_,_,rfl,_⟩:=hP.open_;obtain⟨_,_,_,_,_,_,rfl,⟨_,_⟩,_,d0,_⟩:=hS.open_;have S:=St.refl w0;have e0:∀w':World,w0.heap.size≤w'.heap.size→∀g∈M,g<w'.heap.size:=fun w' h g hg=>by have:=hM g hg;omega
 have h4:decide (s.kind=4)=false:=decide_eq_false (by omega);have j0:P2a s.guard (i9a p t)=true:=I7a hp a0.guard.1 (h4▸a0.row.guard);have m0:∀a∈s.set,P2a a.to (i9a p t)=true:=fun a ha=>by
  obtain⟨i,hi,rfl⟩:=List.getElem_of_mem ha;exact I7a hp (a0.set _ ha).2.1 (h4▸a0.row.vals i hi (.inr (by omega)))
 have i0:∀a∈s.set,i9a p t a.cell=true:=fun a ha=>decide_eq_true ⟨(a0.set a ha).1,a0.row.k1 hk a ha⟩;refine a0a func270 Z ntmps270 Z ?_;refine wO0 Z U (p0a S Z ?_);intro g3 w3 S3 X3 G3;refine p0a S3 Z ?_;intro g5 w5 S5 X5 G5;refine lO S5.k [.w 1] Z ⟨⟨Z,by rfl⟩,U⟩ (j0a S5 M1b Z Z (T1b p t M _ _ (hP.keep (S5.keep0 M)) (e0 _ S5.size)) ?_);rintro p0 q0 hq b0 n0;obtain⟨_,_,_,rfl,_⟩:=id hq;refine lO b0.k [.w 0] Z ⟨⟨Z,by rfl⟩,U⟩ (g0a b0 F6b Z Z (t8a s M _ _ _ (i9a p t) (Y1a.keep (b0.keep0 M) _ _ hS) hq (hK.keep (b0.keep0 M)) (e0 _ b0.size) j0 m0) ?_);intro r0 c0 g0;replace hq:=hq.keep (g0.of_nil);refine lO c0.k [.o 0] Z ⟨Z,U⟩ (g0a c0 j5b Z Z (h0b s.set M _ _ _ (i9a p t) (RdS.keepW d0 (c0.keep0 M) (Q0a.keep (c0.keep0 M))) hq i0) ?_);intro s0 f0 o0;exact lT Z U Z ⟨Z,f0.fin⟩
theorem x2b(p:o0a)(t:Nat)(x:k1a)(s:y2a)(M:List Nat)(w0:World)(cs ss:List Value)(h:Y6a p t x s M w0 cs ss)(hk:s.kind=4):
 E0a prog 273 #[.agg cs.toArray,.int .i64 t,.agg ss.toArray] w0 fun v w'=>v=.bool true∧Below w0.heap.size w0 w':=by
 obtain⟨hP,hS,hp,a0,hK,hM⟩:=h;obtain⟨_,_,_,_,_,_,_,_,_,_,_,_,rfl,_⟩:=hP.open_;obtain⟨_,_,_,_,_,_,rfl,⟨_,_⟩,_,d0,_⟩:=hS.open_;have S:=St.refl w0;have e0:∀w':World,w0.heap.size≤w'.heap.size→∀g∈M,g<w'.heap.size:=fun w' h g hg=>by have:=hM g hg;omega
 have h4:decide (s.kind=4)=true:=decide_eq_true (by omega);have j0:P2a s.guard (j2b p t)=true:=d3b hp a0.guard.1 (h4▸a0.row.guard);have m0:∀a∈s.set,P2a a.to (j2b p t)=true:=fun a ha=>by
  obtain⟨i,hi,rfl⟩:=List.getElem_of_mem ha;exact d3b hp (a0.set _ ha).2.1 (h4▸a0.row.vals i hi (.inr (by omega)))
 have i0:∀a∈s.set,j2b p t a.cell=true:=fun a ha=>by
  unfold j2b shQ i9a;rw[Bool.or_eq_true,decide_eq_true_eq,decide_eq_true_eq];rcases a0.row.cells a ha with h|h
  ·exact .inr ⟨(a0.set a ha).1,h⟩
  ·exact .inl ⟨(a0.set a ha).1,h⟩
 refine a0a func273 Z ntmps273 Z ?_;refine wO0 Z U (p0a S Z ?_);intro g3 w3 S3 X3 G3;refine p0a S3 Z ?_;intro g5 w5 S5 X5 G5;refine lO S5.k [.w 1] Z ⟨⟨Z,by rfl⟩,U⟩ (j0a S5 a6b Z Z (B6a p t M _ _ (hP.keep (S5.keep0 M)) (e0 _ S5.size)) ?_);rintro p0 q0 hq b0 n0;obtain⟨_,_,_,rfl,_⟩:=id hq;refine lO b0.k [.w 0] Z ⟨⟨Z,by rfl⟩,U⟩ (g0a b0 F6b Z Z (t8a s M _ _ _ (j2b p t) (Y1a.keep (b0.keep0 M) _ _ hS) hq (hK.keep (b0.keep0 M)) (e0 _ b0.size) j0 m0) ?_);intro r0 c0 g0;replace hq:=hq.keep (g0.of_nil);refine lO c0.k [.o 0] Z ⟨Z,U⟩ (g0a c0 j5b Z Z (h0b s.set M _ _ _ (j2b p t) (RdS.keepW d0 (c0.keep0 M) (Q0a.keep (c0.keep0 M))) hq i0) ?_);intro s0 f0 o0;exact lT Z U Z ⟨Z,f0.fin⟩
theorem g4b(p:o0a)(t:Nat)(x:k1a)(s:y2a)(M:List Nat)(w0:World)(cs ss:List Value)(h:Y6a p t x s M w0 cs ss)(hk:5≤s.kind):
 E0a prog 274 #[.agg cs.toArray,.int .i64 t,.agg ss.toArray] w0 fun v w'=>v=.bool true∧Below w0.heap.size w0 w':=by
 obtain⟨hP,hS,_,a0,_⟩:=h;obtain⟨_,_,_,_,_,_,_,_,_,_,_,_,rfl,_⟩:=hP.open_;obtain⟨_,_,_,_,_,_,rfl,⟨_,_⟩,_⟩:=hS.open_;have S:=St.refl w0;refine a0a func274 Z ntmps274 Z ?_;refine wO0 Z U (p0a S Z ?_);intro g3 w3 S3 X3 G3;refine p0a S3 Z ?_;intro g5 w5 S5 X5 G5;refine lO S5.k [.w 0] Z ⟨⟨Z,by rfl⟩,U⟩ (g0a S5 S9b Z Z (q7b s M _ _ (Y1a.keep (S5.keep0 M) _ _ hS) (a0.row.k5 hk).2 (a0.row.k5 hk).1) ?_);intro w8 S8 X8;exact lT Z U Z ⟨Z,S8.fin⟩
theorem K9a(p:o0a)(t:Nat)(x:k1a)(s:y2a)(M:List Nat)(w0:World)(cs ss:List Value)(h:Y6a p t x s M w0 cs ss)(hk:6≤s.kind:=by omega):
 E0a prog 276 #[.agg cs.toArray,.int .i64 t,.agg ss.toArray] w0 fun v w'=>v=.bool true∧Below w0.heap.size w0 w':=by
 obtain⟨hP,hS,_,a0,_⟩:=h;obtain⟨_,_,_,_,_,_,_,_,_,_,nt,_,rfl,_⟩:=hP.open_;obtain⟨_,_,_,_,_,_,rfl,⟨_,_⟩,_⟩:=hS.open_;have S:=St.refl w0;have h6:=a0.row.k6 hk;have d0:=h6.1;have f0:=h6.2;unfold A2a at d0;refine a0a func276 Z ntmps276 Z ?_;refine wO0 Z U (p0a S Z ?_);intro g3 w3 S3 X3 G3;refine p0a S3 Z ?_;intro g5 w5 S5 X5 G5;refine lO S5.k [.w 0] Z ⟨⟨Z,by rfl⟩,U⟩ (g0a S5 S9b Z Z (q7b s M _ _ (Y1a.keep (S5.keep0 M) _ _ hS) (a0.row.k5 (by omega)).2 (a0.row.k5 (by omega)).1) ?_);intro w8 S8 X8;refine lB S8.k [.o 0] Z ⟨Z,U⟩ (fun c0=>?_) (fun c0=>by exfalso;omega);refine lO S8.k [.o 0,.o 1] Z ⟨Z,Z,U⟩ (g0a S8 N2a Z Z ((show decide (0≤s.target∧s.target<(nt:Int))=true from decide_eq_true (by omega))▸f2a _ _ _) ?_);intro g0 b0 e0;exact lT Z U Z ⟨Z,b0.fin⟩
theorem O4b(p:o0a)(t:Nat)(x:k1a)(s:y2a)(M:List Nat)(w0:World)(cs ss:List Value)(h:Y6a p t x s M w0 cs ss)(hk:s.kind=6):
 E0a prog 275 #[.agg cs.toArray,.int .i64 t,.agg ss.toArray] w0 fun v w'=>v=.bool true∧Below w0.heap.size w0 w':=by
 have h0:=h;obtain⟨hP,hS,hp,e0,hK,hM⟩:=h;obtain⟨_,_,_,_,_,_,_,_,_,_,_,_,rfl,_,_,_,j0,_⟩:=hP.open_;obtain⟨_,_,_,_,_,_,rfl,⟨_,_⟩,_⟩:=hS.open_;have S:=St.refl w0;have i0:∀w':World,w0.heap.size≤w'.heap.size→∀g∈M,g<w'.heap.size:=fun w' h g hg=>by have:=hM g hg;omega
 have h6:=e0.row.k6 (by omega);have g0:=h6.1;unfold A2a at g0;refine a0a func275 Z ntmps275 Z ?_;refine wO0 Z U (p0a S Z ?_);intro g3 w3 S3 X3 G3;refine p0a S3 Z ?_;intro g5 w5 S5 X5 G5;refine lO S5.k [.w 1,.w 0] Z ⟨⟨Z,by rfl⟩,⟨Z,by rfl⟩,U⟩ (g0a S5 t9b Z Z (K9a p t x s M _ _ _ ⟨hP.keep (S5.keep0 M),Y1a.keep (S5.keep0 M) _ _ hS,hp,e0,hK.keep (S5.keep0 M),i0 _ S5.size⟩) ?_);intro p0 a0 o0;obtain⟨u,f0,n0,_,m0,b0,_,_,c0,d0⟩:=RdS.get (j0) (s.target.toNat) (by omega);obtain⟨_,_,_,_,_,_,_,_,_,_,_,_,rfl,_⟩:=T0a.open_ d0;refine lO a0.k [.o 1,.o 0,.x f0 n0] Z ⟨⟨b0,by omega⟩,Z,Z,U⟩ ?_;refine B0a I2a Z (v:=.bool true) (by have h4:=a0.old (c0 6 _ Z);rw[e0.row.k7 hk u m0] at h4;exact h4) Z ?_;exact lT Z U Z ⟨Z,a0.fin⟩
theorem b5b(p:o0a)(t:Nat)(x:k1a)(s:y2a)(M:List Nat)(w0:World)(cs ss:List Value)(h:Y6a p t x s M w0 cs ss)(hk:s.kind=2):
 E0a prog 271 #[.agg cs.toArray,.int .i64 t,.agg ss.toArray] w0 fun v w'=>v=.bool true∧Below w0.heap.size w0 w':=by
 obtain⟨hP,hS,hp,j0,hK,hM⟩:=h;obtain⟨Ac,nc,cc,Am,nm,cm,Al,nl,cl,At,nt,ct,rfl,_⟩:=hP.open_;obtain⟨Ag,ng,cg,_,ns,E0,rfl,⟨_,_⟩,hG,g0,_⟩:=hS.open_;have S:=St.refl w0;have H0:∀w':World,w0.heap.size≤w'.heap.size→∀g∈M,g<w'.heap.size:=fun w' h g hg=>by have:=hM g hg;omega
 have h4:decide (s.kind=4)=false:=decide_eq_false (by omega);have G1:P2a s.guard (i9a p t)=true:=I7a hp j0.guard.1 (h4▸j0.row.guard);obtain⟨a0,l,f0,F1,z1,C1,E1,A1,hl⟩:=j0.row.k2 hk;have B1:s.set.length=l.length+1:=by rw[f0];rfl
 have W0:a0∈s.set:=by rw[f0];simp
 have z0:=(j0.set a0 W0).1;have K0:=O0b (j0.set a0 W0).2.1 C1;have O0:s.set[0]?=some a0:=by rw[f0];rfl
 unfold A2a at z0;obtain⟨_,b0,p0,_,P0,rfl,v1,_,v0,D1⟩:=RdS.get g0 0 (by omega);obtain rfl:=Option.some.inj (O0.symm.trans P0);obtain⟨Z0,I1,r1,rfl,H1,_⟩:=Q0a.open_ D1;have y1:s.set.drop 1=l:=by rw[f0];rfl
 have U0:=RdS.dropped g0 1 (by omega);rw[y1] at U0;refine a0a func271 Z ntmps271 Z ?_;refine wO0 Z U (p0a S Z ?_);intro g3 w3 S3 X3 G3;refine p0a S3 Z ?_;intro g5 w5 S5 X5 G5;refine lO S5.k [.w 1] Z ⟨⟨Z,Z⟩,U⟩ (j0a S5 M1b Z Z (T1b p t M _ _ (hP.keep (S5.keep0 M)) (H0 _ S5.size)) ?_);rintro O1 X0 hq o0 M1;obtain⟨f,first,caps,rfl,_⟩:=id hq;have c0:=u0a.refl [] X0;refine lB o0.k [.o 0] Z ⟨Z,U⟩ (fun s1=>by exfalso;omega) fun s1=>?_;refine lO o0.k [.o 0] Z ⟨Z,U⟩ (g0a o0 r8a Z Z (G1▸X5a _ M _ _ _ (i9a p t) (RdE.keep (o0.keep0 M) _ _ hG) (hq.keep c0.of_nil) (hK.keep (o0.keep0 M)) (H0 _ o0.size)) ?_);intro R0 S0 f1;replace c0:=c0.trans f1;refine lC0 Z U (V5c b0a (fun i=>[0,1,2,3,4,5,6,7,8,9,11].contains i) [0,1,2,3,4,5,6,7,8,9,10,11] 12 (A3d S0) _ Z ?_);have e0:=S0.drew;have d0:u0a [] R0 R0.drew:=r4a _ _;generalize R0.drew=Y1 at e0 d0 ⊢;replace c0:=c0.trans d0;refine s4a ⟨e0,d0⟩ Z Z Z ?_;refine U0a D6b Z Z ?_;refine n0a ?_;refine s4a ⟨e0,d0⟩ Z Z Z ?_;refine i0a j0c Z (fun w1 hw=>by exact hw.1.cell 0 Z Z) Z ?_;refine n0a ?_;refine s4a ⟨e0,d0⟩ Z Z Z ?_;refine z0a L8a.slT Z (by rfl) Z Z ?_;refine n0a ?_;refine s4a ⟨e0,d0⟩ Z Z Z ?_;refine U0a B7b Z Z ?_;refine n0a ?_;refine s4a ⟨e0,d0⟩ Z Z Z ?_;refine i0a x0a Z (fun w1 hw=>by exact hw.1.old (v0 _ _ Z)) Z ?_;refine n0a ?_;refine s4a ⟨e0,d0⟩ Z Z Z ?_;refine U0a D6b Z Z ?_;refine n0a ?_;refine s4a ⟨e0,d0⟩ Z Z Z ?_;refine i0a j0c Z (fun w1 hw=>by exact hw.1.cell 0 Z Z) Z ?_;refine n0a ?_;refine s4a ⟨e0,d0⟩ Z Z Z ?_;refine z0a L8a.slT Z (by rfl) Z Z ?_;refine n0a ?_;refine s4a ⟨e0,d0⟩ Z Z Z ?_;refine U0a b8b Z Z ?_;refine n0a ?_;refine s4a ⟨e0,d0⟩ Z Z Z ?_;refine M2a G0a Z (fun w1 hw=>(Cells.sub v0 1 4).keep (hw.1.keep0 M) v1) (by rfl) Z ?_;refine n0a ?_;refine A2d ⟨e0,d0⟩ Z Z Z Z ?_;refine h0a e0 R1a Z Z ?_;intro g9 w9 S9 X9 G9;have q0:=Nat.le_trans c0.size G9;have t0:=d0.trans X9;replace c0:=c0.trans X9;refine X0a ⟨Z,?_⟩;refine s4a ⟨S9.tail,t0⟩ Z Z Z ?_;refine u4a (v:=.int .i64 _) Z Z ?_;refine n0a ?_;refine f1c ⟨S9.tail,t0⟩ ?_;refine c0a (kk:=0) (vs:=[_,_,_,_]) S9 i1a Z Z Z Z Z Z Z ?_;intro Y0 i0 s0;dsimp only[f0a,List.set] at i0;replace c0:=c0.fresh s0 (by first|exact q0);refine X0a ⟨Z,?_⟩;refine fO0 Z U (V8a i0 (hq.keep c0.of_nil) Z Z (H1) (decide_eq_true ⟨z0,F1⟩) Z (fun Q1 A0 g1=>?_));replace c0:=c0.trans g1;refine lO A0.k [.w 2] Z ⟨⟨Z,Z⟩,U⟩ (g0a A0 d0b Z Z (z1▸H5a p M _ _ _ (hP.keep (A0.keep0 M)) z0.1 z0.2) ?_);intro R1 x0 i1;replace c0:=c0.trans i1;refine lB x0.k [.o 0] Z ⟨Z,U⟩ (fun t1=>by exfalso;omega) fun t1=>?_;refine lO x0.k [.w 2,.o 0] Z ⟨Z,⟨Z,Z⟩,U⟩ (g0a x0 g0b Z Z ((show shQ p a0.to.n=true from decide_eq_true ⟨K0,E1⟩)▸O4a p M _ _ _ (hP.keep (x0.keep0 M))) ?_);intro T1 B0 j1;replace c0:=c0.trans j1;refine lO B0.k [.w 2,.o 0] Z ⟨Z,⟨Z,Z⟩,U⟩ (g0a B0 d0b Z Z (A1▸H5a p M _ _ _ (hP.keep (B0.keep0 M)) K0.1 K0.2) ?_);intro U1 T0 m1;replace c0:=c0.trans m1;refine lO T0.k [.o 1] Z ⟨Z,U⟩ ?_;refine z6a (kd:=.i64) (lo:=1) (hi:=ns) L8a.slT Z (.inr Z) (.inl ⟨Z,Z⟩) (by have:=g0.len;omega) (by have:=g0.len;omega) Z ?_;refine lC0 Z U (wL (fun μk D ε w=>D=[]∧∃k:Nat,(k+μk=(l.length))∧(u0a [] X0 w)∧St [] w0 w [(some g9,37,[.int .i64 a0.to.op,.int .i64 a0.to.w,.int .i64 a0.to.n,.slice Z0 I1 r1]),(some g5,60,[.int .i64 s.kind,.int .i64 s.frm,.int .i64 s.to,.int .i64 s.guard.op,.int .i64 s.guard.w,.int .i64 s.guard.n,.slice Ag ng cg,.slice (some ⟨b0,p0,none⟩) ns E0,.bool s.release,.int .i64 s.target,.int .i64 s.module_]),(some g3,201,[.slice Ac nc cc,.slice Am nm cm,.slice Al nl cl,.slice At nt ct])]∧Sl ε [(3,.pointer (some ⟨g3,0,none⟩)),(7,.func (.func f) first caps),(65,.slice (some (if E0=1 then⟨b0,p0,none⟩ else⟨b0,p0+1*5,none⟩)) (ns-1) (E0-1)),(66,.int .i64 (ns-1:Nat)),(67,.int .i64 k)]) (μ:=(l.length)) ⟨Z,0,by omega,c0,T0,Z⟩ ?_);rintro μk D ε w ⟨rfl,k,hk,c0,S,eZ⟩;refine wK eZ (wB0 Z U (fun u1=>?_) fun u1=>?_)
 ·obtain⟨a,q1,J1,_,N0,F0,_,J0,I0,L0⟩:=RdS.get (U0) (k) (by omega);obtain⟨_,_,_,rfl,Q0,G0⟩:=Q0a.open_ L0;have V0:=hl a (d0a N0);have u0:a∈s.set:=by rw[f0];exact List.mem_cons_of_mem _ (d0a N0)
  have y0:=(j0.set a u0).1;unfold A2a at y0;have x1:P2a a.to (i9a p t)=true:=I7a hp (j0.set a u0).2.1 (h4▸A4c j0.row.vals (k:=k) (a:=a) (by rw[f0];exact N0));refine lO (S.k.a I0) [.x q1 J1,.v 0] Z ⟨⟨Z,J0⟩,⟨F0,by omega⟩,U⟩ (h0a S V3b Z Z ?_);intro N1 P1 b1 d1 a1;have m0:=Nat.le_trans c0.size a1;replace c0:=c0.trans d1;refine c0a (kk:=0) (vs:=[_,_,_,_,_]) b1 w4b Z Z Z Z Z Z Z ?_;intro K1 n0 D0;dsimp only[f0a,List.set] at n0;replace c0:=c0.fresh D0 (by exact m0);refine lO n0.k [.o 0] Z ⟨Z,U⟩ (V8a n0 (hq.keep c0.of_nil) Z Z (Q0) (decide_eq_true ⟨y0,V0.1⟩) Z (fun V1 C0 n1=>?_));replace c0:=c0.trans n1;refine lO C0.k [.w 3,.o 0] Z ⟨Z,⟨Z,Z⟩,U⟩ (g0a C0 d0b Z Z (V0.2▸H5a p M _ _ _ (hP.keep (C0.keep0 M)) y0.1 y0.2) ?_);intro W1 r0 o1;replace c0:=c0.trans o1;refine lO r0.k [.o 0] Z ⟨Z,U⟩ (g0a r0 r8a Z Z (x1▸X5a _ M _ _ _ (i9a p t) (RdE.keep (r0.keep0 M) _ _ G0) (hq.keep c0.of_nil) (hK.keep (r0.keep0 M)) (H0 _ r0.size)) ?_);intro X1 c1 p1;replace c0:=c0.trans p1;refine lP0 Z ⟨by omega,U⟩ ⟨μk-1,by omega,Z,(k+1),(by omega),(c0),c1.tail,Z⟩
 exact lT Z U Z ⟨Z,S.fin⟩
theorem Z2b(p:o0a)(t c:Int)(g g':Nat)(M:List Nat)(w0:World)(cs:List Value)(vf:Value)(hP:R0a M w0 p cs)(hg:Cells w0 g 0 cs)(b0:w0.cell? ⟨g',0,none⟩=some vf)(hp:j2a prog M w0 vf (j2b p t))(hc:i64 c)(h0:0≤c∧c<p.cells.length)(h1:F0b p.cells c=true)(h2:j2b p t c=true):
 E0a prog 282 #[.int .i64 c,.pointer (some ⟨g,0,none⟩),.pointer (some ⟨g',0,none⟩)] w0 fun v w'=>v=.bool true∧Below w0.heap.size w0 w':=by
 obtain⟨_,_,_,_,_,_,_,_,_,_,_,_,rfl,_⟩:=hP.open_;have S:=St.refl w0;refine a0a func282 Z ntmps282 Z ?_;refine wO0 Z U ?_
 first|refine q2a C1b Z ((fun j v hj=>S.old (hg j v hj))) (by rfl) Z ?_
 refine lO0 Z U (g0a S d0b Z Z (h1▸H5a p M _ _ _ (hP.keep (S.keep0 M)) h0.1 h0.2) ?_);intro w7 S7 X7;refine lO0 Z U (B0a c3b Z (by first|exact S7.old b0) Z ?_);refine lO0 Z U (V8a S7 (hp.keep (S7.keep0 M)) Z Z (hc) (h2) Z (fun d0 a0 c0=>?_));exact lT Z U Z ⟨Z,a0.fin⟩
theorem m5b(l:List o3a)(M:List Nat)(w0:World)(v:Value)(f:FuncId)(first caps:Array Value)(hS:N8c M w0 v l)(hH:Has prog f)
 (hf:∀w',u0a M w0 w'→∀a∈l,i64 a.cell→E0a prog f (first.toList++[Value.int .i64 a.cell]++caps.toList).toArray w' fun v r0=>v=.bool true∧Below w'.heap.size w' r0) :
 E0a prog 280 #[v,.func (.func f) first caps] w0 fun v w'=>v=.bool true∧Below w0.heap.size w0 w':=by
 obtain⟨As,ns,n0,rfl⟩:=hS.form;obtain⟨_,_⟩:=hS.len;have S:=St.refl w0;refine a0a func280 Z ntmps280 Z ?_;refine wC0 Z U (wL (fun μk D ε w=>D=[]∧∃k:Nat,(k+μk=(l.length))∧St [] w0 w []∧Sl ε [(1,.func (.func f) first caps),(7,.slice As ns n0),(8,.int .i64 ns),(9,.int .i64 k)]) (μ:=(l.length)) ⟨Z,0,by omega,S,Z⟩ ?_);rintro μk D ε w ⟨rfl,k,_,S,eZ⟩;refine wK eZ (wB0 Z U (fun o0=>?_) fun o0=>?_)
 ·obtain⟨a,m0,q0,_,p0,b0,_,d0,c0,e0⟩:=RdS.get (hS) (k) (by omega);obtain⟨_,_,_,rfl,f0,_⟩:=Q0a.open_ e0;refine lO (S.k.a c0) [.x m0 q0,.v 0] Z ⟨⟨Z,d0⟩,⟨b0,by omega⟩,U⟩ (h0a S V3b Z Z ?_);intro g6 w6 S6 X6 G6
  first|refine c0a (kk:=0) (vs:=[_,_,_,_,_]) S6 w4b Z Z Z Z Z Z Z ?_
  intro s0 a0 j0;dsimp only[f0a,List.set] at a0;refine lO a0.k [.o 0] Z ⟨Z,U⟩ (Z4b (vs:=first.toList++[Value.int .i64 a.cell]++caps.toList) hH Z Z Z (hf _ (a0.keep0 M) a (d0a p0) f0) ?_);rintro t0 u0 ⟨rfl,g0⟩;have i0:=a0.later g0;refine lP0 Z ⟨by omega,U⟩ ⟨μk-1,by omega,Z,(k+1),(by omega),i0.tail,Z⟩
 exact lT Z U Z ⟨Z,S.fin⟩
theorem q3b(p:o0a)(t:Nat)(x:k1a)(s:y2a)(M:List Nat)(w0:World)(cs ss:List Value)(h:Y6a p t x s M w0 cs ss)(hk:s.kind=3):
 E0a prog 272 #[.agg cs.toArray,.int .i64 t,.agg ss.toArray] w0 fun v w'=>v=.bool true∧Below w0.heap.size w0 w':=by
 obtain⟨hP,hS,hp,d0,hK,hM⟩:=h;obtain⟨_,_,_,_,_,_,_,_,_,_,_,_,rfl,_⟩:=hP.open_;obtain⟨_,_,_,_,ns,_,rfl,⟨_,_⟩,_,e0,_⟩:=hS.open_;have S:=St.refl w0;have r0:∀w':World,w0.heap.size≤w'.heap.size→∀g∈M,g<w'.heap.size:=fun w' h g hg=>by have:=hM g hg;omega
 have h4:decide (s.kind=4)=false:=decide_eq_false (by omega);have J0:P2a s.guard (i9a p t)=true:=I7a hp d0.guard.1 (h4▸d0.row.guard);have K0:∀a∈s.set,P2a a.to (i9a p t)=true:=fun a ha=>by
  obtain⟨i,hi,rfl⟩:=List.getElem_of_mem ha;exact I7a hp (d0.set _ ha).2.1 (h4▸d0.row.vals i hi (.inr (by omega)))
 obtain⟨a0,l,c0,I0,D0,hl⟩:=d0.row.k3 hk;have F0:s.set.length=l.length+1:=by rw[c0];rfl
 have G0:a0∈s.set:=by rw[c0];simp
 have o0:=(d0.set a0 G0).1;have u0:s.set[0]?=some a0:=by rw[c0];rfl
 unfold A2a at o0;obtain⟨_,_,_,_,v0,rfl,_,_,s0,H0⟩:=RdS.get e0 0 (by omega);obtain rfl:=Option.some.inj (u0.symm.trans v0);obtain⟨_,_,_,rfl,_⟩:=Q0a.open_ H0;have C0:s.set.drop 1=l:=by rw[c0];rfl
 have x0:=RdS.dropped e0 1 (by omega);rw[C0] at x0;have t0:∀a∈l,(0≤a.cell∧a.cell<p.cells.length)∧F0b p.cells a.cell=true∧j2b p t a.cell=true:=fun a ha=>by
  have f0:a∈s.set:=by rw[c0];exact List.mem_cons_of_mem _ ha
  refine⟨(d0.set a f0).1,hl a ha,?_⟩;unfold j2b shQ i9a;rw[Bool.or_eq_true,decide_eq_true_eq,decide_eq_true_eq];rcases d0.row.cells a f0 with h|h
  ·exact .inr ⟨(d0.set a f0).1,h⟩
  ·exact .inl ⟨(d0.set a f0).1,h⟩
 refine a0a func272 Z ntmps272 Z ?_;refine wO0 Z U (p0a S Z ?_);intro g3 w3 S3 X3 G3;refine p0a S3 Z ?_;intro g5 w5 S5 X5 G5;refine lC0 Z U (y0a b0a [0,1,2,3,4,5,6,7] [8] [9,10,11] Z (Cl _ _ _ _) (Cl.start S5) ?_);refine qB S5.q [.o 0] Z ⟨Z,U⟩ (fun B0=>by exfalso;omega) fun B0=>?_;refine qN S5.q [.w 0,.w 1] Z ⟨⟨Z,by rfl⟩,⟨Z,by rfl⟩,U⟩ (G5a ?_);refine U6b (fun v w=>j2a prog M w v (i9a p t)) Z Z M1b Z (fun v w w' h hk=>h.keep hk.of_nil) (fun w1 S1 X1=>T1b p t M _ _ (hP.keep (S1.keep0 M)) (r0 _ S1.size)) ?_;refine v2a ?_;rintro Y0 ⟨n0,_⟩;rintro T0 hq;dsimp only[W3a];obtain⟨_,first,_,rfl,_⟩:=id hq;refine lO0 Z U (g0a n0 F6b Z Z (t8a s M _ _ _ (i9a p t) (Y1a.keep (n0.keep0 M) _ _ hS) hq (hK.keep (n0.keep0 M)) (r0 _ n0.size) J0 K0) ?_);intro U0 j0 O0;refine lO j0.k [.o 0] Z ⟨Z,U⟩ (N0a L8a.slT Z (by rfl) Z Z ?_);refine lO0 Z U (B0a x0a Z (by exact j0.old (s0 _ _ Z)) Z ?_);refine lO j0.k [.w 1] Z ⟨⟨Z,by rfl⟩,U⟩ (g0a j0 g0b Z Z ((show shQ p a0.cell=true from decide_eq_true ⟨o0,I0⟩)▸O4a p M _ _ _ (hP.keep (j0.keep0 M))) ?_);intro V0 p0 P0;refine lO p0.k [.w 1] Z ⟨⟨Z,by rfl⟩,U⟩ (g0a p0 d0b Z Z (D0▸H5a p M _ _ _ (hP.keep (p0.keep0 M)) o0.1 o0.2) ?_);intro W0 m0 Q0;refine lO m0.k [.w 1] Z ⟨⟨Z,by rfl⟩,U⟩ (j0a m0 a6b Z Z (B6a p t M _ _ (hP.keep (m0.keep0 M)) (r0 _ m0.size)) ?_);rintro v37 L0 y0 z0 R0;obtain⟨_,_,_,rfl,_⟩:=id y0;have g0:=u0a.refl [] L0;refine h0a z0 X5c Z Z ?_;intro g8 w8 S8 X8 G8;have i0:=Nat.le_trans g0.size G8;replace g0:=g0.trans X8;refine c1a (kk:=0) S8 s5c Z Z Z (by exact Nat.le_of_ble_eq_true Z) ?_;intro N0 b0 q0;replace g0:=g0.fresh q0 (by first|exact i0);refine lO b0.k [.o 1] Z ⟨Z,U⟩ ?_;refine z6a (kd:=.i64) (lo:=1) (hi:=ns) L8a.slT Z (.inr Z) (.inl ⟨Z,Z⟩) (by have:=e0.len;omega) (by have:=e0.len;omega) Z ?_;refine w1a Z Z ?_;refine g0a b0 j5b Z Z (m5b l M _ _ _ _ _ (RdS.keepW x0 (b0.keep0 M) (Q0a.keep (b0.keep0 M))) G6c (fun w' hk a ha E0=>Z2b p t a.cell g3 g8 M w' _ _ (hP.keep ((b0.keep0 M).trans hk)) ((b0.cells 2 Z).keep hk (d4a hM (b0.new 2 Z))) (hk.cell (a:=⟨g8,0,none⟩) (d4a hM (b0.new 0 Z)) (b0.cell 0 Z Z)) (y0.keep (g0.of_nil.trans hk)) E0 (t0 a ha).1 (t0 a ha).2.1 (t0 a ha).2.2)) ?_;intro X0 A0 S0;exact lT Z U Z ⟨Z,A0.fin⟩
def s7b(k:Int):Nat:=if k=1 then 270 else if k=2 then 271 else if k=3 then 272 else if k=4 then 273 else if k=5 then 274 else if k=6 then 275 else 276
def n1c:Array Value:=#[.nilFunc,.func (.func 270) #[] #[],.func (.func 271) #[] #[],.func (.func 272) #[] #[],.func (.func 273) #[] #[],.func (.func 274) #[] #[],.func (.func 275) #[] #[],.func (.func 276) #[] #[]]
theorem g7c(p:o0a)(t:Nat)(x:k1a)(s:y2a)(M:List Nat)(w0:World)(cs ss:List Value)(h:Y6a p t x s M w0 cs ss):
 E0a prog (s7b s.kind) #[.agg cs.toArray,.int .i64 t,.agg ss.toArray] w0 fun v w'=>v=.bool true∧Below w0.heap.size w0 w':=by
 have hk:=h.sok.kind;rcases(show s.kind=1∨s.kind=2∨s.kind=3∨s.kind=4∨s.kind=5∨s.kind=6∨s.kind=7 by omega) with e|e|e|e|e|e|e<;>rw[e]
 ·exact O3b p t x s M w0 cs ss h e
 ·exact b5b p t x s M w0 cs ss h e
 ·exact q3b p t x s M w0 cs ss h e
 ·exact x2b p t x s M w0 cs ss h e
 ·exact g4b p t x s M w0 cs ss h (by omega)
 ·exact O4b p t x s M w0 cs ss h e
 ·exact K9a p t x s M w0 cs ss h
theorem f8b{k:Int}:Has prog (s7b k):=by
 unfold s7b
 repeat' split
 ·exact R9c
 ·exact i9c
 ·exact x7c
 ·exact N7c
 ·exact H7c
 ·exact V7c
 ·exact t9b
theorem T0c{k:Int}(h1:1≤k)(h7:k≤7):n1c.extract (k.toNat*1) (k.toNat*1+1)=#[.func (.func (s7b k)) #[] #[]]:=by
 rcases(show k=1∨k=2∨k=3∨k=4∨k=5∨k=6∨k=7 by omega) with e|e|e|e|e|e|e<;>subst e<;>rfl
theorem d4c(wz:World):E0a prog 250 #[] wz fun v w'=>v=.agg n1c∧Below wz.heap.size wz w':=by
 have S:=St.refl wz;refine a0a func250 Z ntmps250 Z ?_;refine wO0 Z U (h0a S t0d Z Z ?_);intro g0 w0 S0 X0 G0;refine lO0 Z U (H0a I6a (vs:=[(0,.func _ _ _)]) (cs:=[_]) Z Z Z Z ?_);refine H0a I6a (vs:=[(0,.func _ _ _)]) (cs:=[_]) Z Z Z Z ?_;refine H0a I6a (vs:=[(0,.func _ _ _)]) (cs:=[_]) Z Z Z Z ?_;refine H0a I6a (vs:=[(0,.func _ _ _)]) (cs:=[_]) Z Z Z Z ?_;refine H0a I6a (vs:=[(0,.func _ _ _)]) (cs:=[_]) Z Z Z Z ?_;refine H0a I6a (vs:=[(0,.func _ _ _)]) (cs:=[_]) Z Z Z Z ?_;refine H0a I6a (vs:=[(0,.func _ _ _)]) (cs:=[_]) Z Z Z Z ?_;refine P0a (v:=.agg n1c) (w':=w0) Z Z Z (by kernel_rfl) ?_
 first|refine c0a (kk:=0) (vs:=[_,_,_,_,_,_,_,_]) S0 s2d Z Z Z Z Z Z Z ?_
 intro c0 a0 b0;dsimp only[f0a,List.set] at a0;refine lR0 Z U ?_;exact w0a (n:=8) Z (o2a (by rw[Tryz.underlying277];simp)) Z (a0.cells 0 Z) Z ⟨Z,a0.fin⟩
section
variable {P:Program} {N:Nat} {ops:Array Oper} {C:World→Prop} {rest:List Oper} {K:Env→Prop} {e:Env} {d:Nat} {t:TypeId} {p:String} {af:Array Edge} {x y:Operand} {kd:IntKind} {a:Int}
theorem h4c{ty len el size:Nat}{cs a0:Array Value}(hu:P.underlying ty=some (.array len el))(b0:∀w:World,(sizeOf el).run P w=.ok size w)(ha:∀w:World,(isAgg el).run P w=.ok true w)(hx:ev e x=.agg cs)(hy:ev e y=.int kd a)(h0:0≤a)(h1:a<len)(hv:cs.extract (a.toNat*size) (a.toNat*size+size)=a0)(hd:Nat.ble (d+1) N=true)
 (h:QL P N ops C rest K (upd e d (.agg a0))):QL P N ops C (⟨some d,.index ty x y,t,p,af,none⟩::rest) K e :=
 D2a Z Z hd (fun w _=>by simp[execOp,Instr.index,hx,hy,asIntOf,run_underlying hu,h0,h1,b0,part,ha,hv]) h
end
theorem F7a{M:List Nat}{w:World}{g:Nat}(hM:∀g∈M,g<w.heap.size)(h:w.heap.size≤g):g∉M:=fun hh=>by have:=hM g hh;omega
theorem o2c:∀w:World,(sizeOf 276).run prog w=.ok 1 w:=fun _=>by kernel_rfl
theorem c3c:∀w:World,(isAgg 276).run prog w=.ok true w:=fun _=>by kernel_rfl
theorem S4c(p:o0a)(t:Nat)(x:k1a)(s:y2a)(M:List Nat)(w0:World)(cs ss ts:List Value)(h:Y6a p t x s M w0 cs ss)(hT:T0a M w0 ts x)(Z1:1≤x.points)(F1:x.points≤48):
 E0a prog 212 #[.agg cs.toArray,.int .i64 t,.agg ts.toArray,.agg ss.toArray] w0 fun v w'=>v=.int .i64 0∧Below w0.heap.size w0 w':=by
 obtain⟨hP,hS,hp,g0,hK,hM⟩:=h;obtain⟨Ac,nc,cc,Am,nm,cm,Al,nl,cl,At,nt,ct,rfl,hC,_⟩:=hP.open_;obtain⟨Ag,ng,cg,As,ns,y0,rfl,⟨_,_⟩,hG,U0,_⟩:=hS.open_;obtain⟨z0,c1,L0,B0,f1,O0,C0,g1,P0,A0,d1,N0,rfl,_⟩:=hT.open_;have S:=St.refl w0;have E1:∀w':World,w0.heap.size≤w'.heap.size→∀g∈M,g<w'.heap.size:=fun w' h g hg=>by have:=hM g hg;omega
 have k0:=g0.kind;have k1:=g0.frm;have k2:=g0.to;have k3:=g0.mod;have k4:=g0.rel;have k5:=g0.tgt;have k6:=g0.guard;unfold A2a at k3;have W0:s.set.Pairwise fun a b=>Value.int .i64 a.cell≠.int .i64 b.cell:=g0.once.imp fun h e=>h (by injection e);refine a0a func212 Z ntmps212 Z ?_;refine wO0 Z U (p0a S Z ?_);intro g4 w4 S4 X4 G4;refine p0a S4 Z ?_;intro g6 w6 S6 X6 G6;refine p0a S6 Z ?_;intro g7 w7 S7 X7 G7;refine lCn 3 S7.k [] Z U (wX (fun D ε w=>D=[]∧∃J0:Bool,(s.kind=6∨s.kind=7→J0=true)∧St [] w0 w [(some g7,60,[.int .i64 s.kind,.int .i64 s.frm,.int .i64 s.to,.int .i64 s.guard.op,.int .i64 s.guard.w,.int .i64 s.guard.n,.slice Ag ng cg,.slice As ns y0,.bool s.release,.int .i64 s.target,.int .i64 s.module_]),(some g6,64,[.string x.name,.int .i64 x.points,.slice z0 c1 L0,.slice B0 f1 O0,.slice C0 g1 P0,.slice A0 d1 N0,.bool x.asleep]),(some g4,201,[.slice Ac nc cc,.slice Am nm cm,.slice Al nl cl,.slice At nt ct])]∧Sl ε [(1,.int .i64 t),(4,.pointer (some ⟨g4,0,none⟩)),(6,.pointer (some ⟨g6,0,none⟩)),(7,.pointer (some ⟨g7,0,none⟩)),(9,.bool J0)]) ?_ ?_)
 ·refine wB S7.k [.o 0] Z ⟨Z,U⟩ (fun z1=>?_) fun z1=>?_
  ·refine lP0 Z U ⟨Z,(_),?_,S7,Z⟩;exact fun _=>rfl
  refine lB S7.k [.o 0] Z ⟨Z,U⟩ (fun A1=>?_) fun A1=>?_
  ·refine lP0 Z U ⟨Z,(_),?_,S7,Z⟩;exact fun _=>rfl
  refine lP0 Z U ⟨Z,(_),?_,S7,Z⟩;exact fun h=>absurd h (by omega)
 rintro D ε w ⟨rfl,J0,s0,S,eZ⟩;refine wK eZ (wX (fun D ε w=>D=[]∧St [] w0 w [(some g7,60,[.int .i64 s.kind,.int .i64 s.frm,.int .i64 s.to,.int .i64 s.guard.op,.int .i64 s.guard.w,.int .i64 s.guard.n,.slice Ag ng cg,.slice As ns y0,.bool s.release,.int .i64 s.target,.int .i64 s.module_]),(some g6,64,[.string x.name,.int .i64 x.points,.slice z0 c1 L0,.slice B0 f1 O0,.slice C0 g1 P0,.slice A0 d1 N0,.bool x.asleep]),(some g4,201,[.slice Ac nc cc,.slice Am nm cm,.slice Al nl cl,.slice At nt ct])]∧Sl ε [(1,.int .i64 t),(4,.pointer (some ⟨g4,0,none⟩)),(7,.pointer (some ⟨g7,0,none⟩))]) ?_ ?_)
 ·refine wB S.k [.o 0] Z ⟨Z,U⟩ (fun B1=>by exfalso;omega) fun B1=>?_;refine lB S.k [.o 0] Z ⟨Z,U⟩ (fun C1=>by exfalso;omega) fun C1=>?_;refine lO S.k [.o 0,.o 1] Z ⟨by omega,Z,Z,U⟩ (g0a S N2a Z Z ((show decide (0≤s.frm∧s.frm<x.points-1)=true from decide_eq_true (by omega))▸f2a _ _ _) ?_);intro d2 o1 R1;refine lO o1.k [.o 0,.o 1] Z ⟨Z,Z,U⟩ (g0a o1 N2a Z Z ((show decide (0≤s.to∧s.to<x.points)=true from decide_eq_true (by omega))▸f2a _ _ _) ?_);intro e2 p1 T1;refine lO p1.k [.o 0,.o 2] Z ⟨Z,Z,U⟩ (g0a p1 N2a Z Z ((show decide (0≤s.module_∧s.module_<(nm:Int))=true from decide_eq_true (by omega))▸f2a _ _ _) ?_);intro f2 b0 U1;refine lO0 Z U ?_;rcases(Bool.eq_false_or_eq_true (s.release)).symm with i0|i0
  ·refine B0a I2a Z (by exact(b0.cell 0 Z Z).trans (congrArg (fun b=>some (Value.bool b)) i0)) Z ?_;refine lB b0.k [.o 0] Z ⟨Z,U⟩ (fun q0=>?_) fun q0=>?_
   ·refine lOn 1 b0.k [] Z U (w3a Z Z Z ?_);have f0:=s0 (k5 q0);subst f0;refine I0a (hv:=Z) (v:=.bool true) Z ?_;refine lB b0.k [.o 0] Z ⟨Z,U⟩ (fun m0=>by exfalso;omega) fun m0=>?_;refine lO b0.k [.o 0,.o 2] Z ⟨Z,Z,U⟩ (g0a b0 a5a Z Z (k6.1▸w2a s.guard M _ _ _ p.cells false (RdE.keep (b0.keep0 M) _ _ hG) (hC.keep (b0.keep0 M)) (hK.keep (b0.keep0 M))) ?_);intro j1 j0 H0;refine lP0 Z U ⟨Z,j0,Z⟩
   refine lB b0.k [.o 0] Z ⟨Z,U⟩ (fun m0=>by exfalso;omega) fun m0=>?_;refine lO b0.k [.o 0,.o 2] Z ⟨Z,Z,U⟩ (g0a b0 a5a Z Z (k6.1▸w2a s.guard M _ _ _ p.cells false (RdE.keep (b0.keep0 M) _ _ hG) (hC.keep (b0.keep0 M)) (hK.keep (b0.keep0 M))) ?_);intro j1 j0 H0;refine lP0 Z U ⟨Z,j0,Z⟩
  refine B0a I2a Z (by exact(b0.cell 0 Z Z).trans (congrArg (fun b=>some (Value.bool b)) i0)) Z ?_;refine lB b0.k [.o 0] Z ⟨Z,U⟩ (fun s1=>by exact absurd (k4 i0) s1) (fun s1=>?_);refine lB b0.k [.o 0] Z ⟨Z,U⟩ (fun q0=>?_) fun q0=>?_
  ·refine lOn 1 b0.k [] Z U (w3a Z Z Z ?_);have f0:=s0 (k5 q0);subst f0;refine I0a (hv:=Z) (v:=.bool true) Z ?_;refine lB b0.k [.o 0] Z ⟨Z,U⟩ (fun m0=>by exfalso;omega) fun m0=>?_;refine lO b0.k [.o 0,.o 2] Z ⟨Z,Z,U⟩ (g0a b0 a5a Z Z (k6.1▸w2a s.guard M _ _ _ p.cells false (RdE.keep (b0.keep0 M) _ _ hG) (hC.keep (b0.keep0 M)) (hK.keep (b0.keep0 M))) ?_);intro j1 j0 H0;refine lP0 Z U ⟨Z,j0,Z⟩
  refine lB b0.k [.o 0] Z ⟨Z,U⟩ (fun m0=>by exfalso;omega) fun m0=>?_;refine lO b0.k [.o 0,.o 2] Z ⟨Z,Z,U⟩ (g0a b0 a5a Z Z (k6.1▸w2a s.guard M _ _ _ p.cells false (RdE.keep (b0.keep0 M) _ _ hG) (hC.keep (b0.keep0 M)) (hK.keep (b0.keep0 M))) ?_);intro j1 j0 H0;refine lP0 Z U ⟨Z,j0,Z⟩
 rintro D ε w ⟨rfl,S,eZ⟩;refine wK eZ (wO0 Z U ?_);refine X3a (k:=3) S Z ?_;intro Q0 g2 r1 V1 Q1 a0;have X0:w0.heap.size≤Q0:=by have:=S.size;omega
 refine lC r1.k [.o 0] Z ⟨Z,U⟩ (wL (fun μk D ε w=>D=[]∧∃k:Nat,(k+μk=(s.set.length))∧(m3a prog 3 w Q0 (B4a ((s.set.take k).map fun c=>.int .i64 c.cell)))∧St [] w0 w [(some g7,60,[.int .i64 s.kind,.int .i64 s.frm,.int .i64 s.to,.int .i64 s.guard.op,.int .i64 s.guard.w,.int .i64 s.guard.n,.slice Ag ng cg,.slice As ns y0,.bool s.release,.int .i64 s.target,.int .i64 s.module_]),(some g6,64,[.string x.name,.int .i64 x.points,.slice z0 c1 L0,.slice B0 f1 O0,.slice C0 g1 P0,.slice A0 d1 N0,.bool x.asleep]),(some g4,201,[.slice Ac nc cc,.slice Am nm cm,.slice Al nl cl,.slice At nt ct])]∧Sl ε [(1,.int .i64 t),(4,.pointer (some ⟨g4,0,none⟩)),(7,.pointer (some ⟨g7,0,none⟩)),(10,.map (some Q0)),(81,.slice As ns y0),(82,.int .i64 ns),(83,.int .i64 k)]) (μ:=(s.set.length)) ⟨Z,0,by omega,(by simpa[B4a] using a0),r1,Z⟩ ?_);rintro μk D ε w ⟨rfl,k,_,a0,S,eZ⟩;refine wK eZ (wB0 Z U (fun D1=>?_) fun D1=>?_)
 ·obtain⟨a,y1,H1,_,a1,S0,_,Y0,V0,Z0⟩:=RdS.get (U0) (k) (by omega);obtain⟨_,_,_,rfl,b1,T0⟩:=Q0a.open_ Z0;have q1:=g0.set a (d0a a1);have q2:=q1.1;unfold A2a at q2;have q3:=q1.2.2;refine lO (S.k.a V0) [.x y1 H1,.v 0] Z ⟨⟨Z,Y0⟩,⟨S0,by omega⟩,U⟩ (h0a S V3b Z Z ?_);intro W1 a2 m1 v1 O1;replace a0:=a0.keep v1 (List.not_mem_nil);refine c0a (kk:=0) (vs:=[_,_,_,_,_]) m1 w4b Z Z Z Z Z Z Z ?_;intro t1 c0 o0;dsimp only[f0a,List.set] at c0;replace a0:=a0.keep o0 (fun hh=>by rw[List.mem_singleton] at hh;exact a0.ne (m1.blk 0 Z) hh);refine lO c0.k [.o 0] Z ⟨Z,U⟩ ?_;have u0:=g7b b1;have v0:=T3a W0 a1;refine w0b (Go.Maps.int_keyed Tryz.underlying3) Tryz.underlying244 d1b a0 Z Z u0 Z (fun v hv=>absurd Z (X4a v0 _ hv)) (fun _=>?_);refine lO0 Z U (h0a c0 d1b Z Z ?_);intro Y1 b2 n1 x1 P1;replace a0:=a0.keep x1 (List.not_mem_nil);refine c0a (kk:=0) (vs:=[]) n1 V0c Z Z Z Z Z Z Z ?_;intro u1 d0 p0;dsimp only[f0a,List.set] at d0;replace a0:=a0.keep p0 (fun hh=>by rw[List.mem_singleton] at hh;exact a0.ne (n1.blk 0 Z) hh);refine lO d0.k [.o 1,.o 4] Z ⟨Z,Z,U⟩ (g0a d0 N2a Z Z ((show decide (0≤a.cell∧a.cell<(nc:Int))=true from decide_eq_true (by omega))▸f2a _ _ _) ?_);intro J1 n0 G0;replace a0:=a0.keep G0 (List.not_mem_nil);refine lO n0.k [.o 1] Z ⟨Z,U⟩ (H0a Y5b (vs:=[]) (cs:=[]) Z Z Z Z ?_);refine b2b (key:=.int .i64 a.cell) (v:=.agg #[]) n0 (Go.Maps.int_keyed Tryz.underlying3) Tryz.underlying244 a0 Z Z Z u0 (X4a v0) (.inl X0) ?_;intro wm Sm Xm Mm;clear a0;have a0:=Mm;refine lC0 Z U (y0a b0a [0,1,2,3,4,5,6,7,8,9,10,11,12,13,14,15,16,17,18,19,20] [] [] Z (Cl _ _ _ _) (Cl.start Sm) ?_);obtain⟨c,K0,i1,_,G1,r0,_,_,t0,x0⟩:=RdS.get (hC) (a.cell.toNat) (by omega);obtain⟨rfl,_⟩:=r2a.open_ x0;rw[W4a (h0:=q2.1) G1] at q3;refine qB (Sm.q.a t0) [.o 1,.o 4,.o 1,.x K0 i1,.f 0 1] Z ⟨Z,⟨r0,by omega⟩,Z,Z,Z,U⟩ (fun R0=>by exfalso;omega) fun R0=>?_;refine qO Sm.q [.o 1,.o 4] Z ⟨Z,Z,U⟩ (t1a a5a Z Z (fun w1 S1 X1=>q1.2.1▸w2a a.to M _ _ _ p.cells false (RdE.keep (S1.keep0 M) _ _ T0) (hC.keep (S1.keep0 M)) (hK.keep (S1.keep0 M))) ?_);refine qD Z U ?_;rintro M1 ⟨F0,I0⟩;replace a0:=a0.keep I0 (List.not_mem_nil);refine lP0 Z ⟨by omega,U⟩ ?_;refine⟨μk-1,by omega,Z,(k+1),(by omega),((by rw[F0a a1,List.map_append,List.map_singleton,k8a];exact a0)),F0.tail.tail,Z⟩
 refine lC0 Z U (y0a b0a [0,1,2,3,4,5,6,7] [] [8,9] Z (Cl _ _ _ _) (Cl.start S) ?_);refine t1a t8c Z Z (fun w1 S1 X1=>d4c _) ?_;refine qO S.q [.o 0] Z ⟨Z,U⟩ (h4c Tryz.underlying277 o2c c3c Z Z (by omega) (by omega) (T0c (by omega) (by omega)) Z ?_);refine qN S.q [.w 2,.w 0] Z ⟨⟨Z,Z⟩,⟨Z,Z⟩,U⟩ (G5a ?_);refine v2a ?_;rintro N1 ⟨e0,_⟩;refine A6a f8b Z Z Z (g7c p t x s M _ _ _ ⟨hP.keep (e0.keep0 M),Y1a.keep (e0.keep0 M) _ _ hS,hp,g0,hK.keep (e0.keep0 M),E1 _ e0.size⟩) ?_;rintro I1 K1 ⟨rfl,D0⟩;have E0:=e0.later D0;exact lT Z U Z ⟨Z,E0.fin⟩
theorem g8b(c:Int)(g:Nat)(w0:World)(Ac Am Al At:Option Addr)(nc cc nm cm nl cl nt ct:Nat)(hg:Cells w0 g 0 [.slice Ac nc cc,.slice Am nm cm,.slice Al nl cl,.slice At nt ct]):
 E0a prog 210 #[.int .i64 c,.pointer (some ⟨g,0,none⟩)] w0 fun v w'=>v=.bool (decide (0≤c∧c<(nm:Int)))∧Below w0.heap.size w0 w':=by
 have S:=St.refl w0;refine a0a func210 Z ntmps210 Z ?_;refine wO0 Z U (B0a P6b Z (by first|exact S.old (hg 1 _ Z)) Z ?_);refine lO0 Z U (v0a S N2a Z Z (f2a _ _ _) (fun h9 w9 S9 X9=>?_) (fun h9 w9 S9 X9=>?_))
 ·refine lR0 Z U (s0a Z ?_);exact⟨by rw[h9],S9.fin⟩
 refine lR0 Z U (s0a Z ?_);exact⟨by rw[h9],S9.fin⟩
theorem O8b(c a0 hd:Int)(g g':Nat)(w0:World)(hg:w0.cell? ⟨g,1,none⟩=some (.int .i64 a0))(c0:w0.cell? ⟨g',0,none⟩=some (.int .i64 hd)):
 E0a prog 213 #[.int .i64 c,.pointer (some ⟨g,0,none⟩),.pointer (some ⟨g',0,none⟩)] w0 fun v w'=>v=.bool (decide ((0≤c∧c<a0)∧c≠hd))∧Below w0.heap.size w0 w':=by
 have S:=St.refl w0;refine a0a func213 Z ntmps213 Z ?_;refine wO0 Z U (B0a x0a Z (by exact S.old hg) Z ?_);refine v0a S N2a Z Z (f2a _ _ _) (fun h8 w8 S8 X8=>?_) (fun h8 w8 S8 X8=>?_)
 ·refine lO0 Z U (B0a x0a Z (by exact S8.old c0) Z ?_);refine lB0 Z U (fun b0=>?_) fun b0=>?_
  ·refine lT Z U Z ⟨congrArg Value.bool ?_,S8.fin⟩;exact(decide_eq_true ⟨of_decide_eq_true h8,by omega⟩).symm
  refine lT Z U Z ⟨congrArg Value.bool ?_,S8.fin⟩;exact(decide_eq_false fun h=>by omega).symm
 refine lT Z U Z ⟨congrArg Value.bool ?_,S8.fin⟩;exact(decide_eq_false fun h=>of_decide_eq_false h8 h.1).symm
theorem Y0b(M:List Nat)(w0:World)(v vf:Value)(l:List Int)(q:Int→Bool)(hR:RdI M w0 v l)(hp:j2a prog M w0 vf q)(hM:∀g∈M,g<w0.heap.size)(hq:∀c∈l,q c=true):
 E0a prog 209 #[v,vf] w0 fun v w'=>v=.bool true∧Below w0.heap.size w0 w' :=
 (T5a M w0 v vf l q hR hp hM).mono fun v w' h=>⟨by rw[h.1,List.all_eq_true.2 hq],h.2⟩
def B3d(nm:Nat)(c:Int):Bool:=decide (0≤c∧c<(nm:Int))
def K0d(pts hd c:Int):Bool:=decide ((0≤c∧c<pts)∧c≠hd)
theorem v4b{g:Nat}{M:List Nat}{w0:World}{Ac Am Al At:Option Addr}{nc cc nm cm nl cl nt ct:Nat}(hg:Cells w0 g 0 [.slice Ac nc cc,.slice Am nm cm,.slice Al nl cl,.slice At nt ct])(hM:g∉M):
 j2a prog M w0 (.func (.func 210) #[] #[.pointer (some ⟨g,0,none⟩)]) (B3d nm) :=
 ⟨_,_,_,Z,M7c,fun w' hk c _=>g8b c g w' Ac Am Al At nc cc nm cm nl cl nt ct (hg.keep hk hM)⟩
theorem W4b{g g':Nat}{M:List Nat}{w0:World}{a0 hd:Int}(hg:w0.cell? ⟨g,1,none⟩=some (.int .i64 a0))(c0:w0.cell? ⟨g',0,none⟩=some (.int .i64 hd))(hM:g∉M)(b0:g'∉M):
 j2a prog M w0 (.func (.func 213) #[] #[.pointer (some ⟨g,0,none⟩),.pointer (some ⟨g',0,none⟩)]) (K0d a0 hd) :=
 ⟨_,_,_,Z,J8c,fun w' hk c _=>O8b c a0 hd g g' w' (hk.cell (a:=⟨g,1,none⟩) hM hg) (hk.cell (a:=⟨g',0,none⟩) b0 c0)⟩
theorem Q8b(p:o0a)(t:Nat)(x:k1a)(b:Nat)(l:List Value)(M:List Nat)(w0:World)(cs ts:List Value)(hP:R0a M w0 p cs)(hT:T0a M w0 ts x)(hp:o1a p)(hK:i2a M w0)(hM:∀g∈M,g<w0.heap.size)(hb:b∈M)
 (hx:p.threads[t]?=some x) (hm:m3a prog 9 w0 b (B4a l)) (o1:Value.string x.name∉l) :
 E0a prog 155 #[.agg cs.toArray,.int .i64 t,.agg ts.toArray,.map (some b)] w0 fun v w'=>v=.tuple #[.int .i64 0,.int .i64 (-1)]∧D0a [b] w0 w'∧m3a prog 9 w' b (B4a (l++[.string x.name])):=by
 obtain⟨Ac,nc,cc,Am,nm,cm,Al,nl,cl,At,nt,ct,rfl,hC,_⟩:=hP.open_;obtain⟨G0,D0,K0,P0,s1,S0,I0,F0,N0,H0,E0,L0,rfl,_,W0,c1,d1,Y0,_⟩:=hT.open_;have S:=St.reflM [b] w0;have b0:∀g∈[b],g∈M:=fun g hg=>by rw[List.mem_singleton] at hg;subst hg;exact hb
 have t0:∀w':World,w0.heap.size≤w'.heap.size→∀g∈M,g<w'.heap.size:=fun w' h g hg=>by have:=hM g hg;omega
 have j0:=hp.thread hx;have k1:=j0.points;have k2:=j0.asserts;have k3:=j0.nmod;have f2:x.name.size≤140737488355328:=by have:=j0.name.2.1;omega
 refine a0a func155 Z ntmps155 Z ?_;refine wO0 Z U (p0a S Z ?_);intro g4 w4 S4 X4 G4;replace hm:=hm.keep X4 (List.not_mem_nil);refine p0a S4 Z ?_;intro g6 w6 S6 X6 G6;replace hm:=hm.keep X6 (List.not_mem_nil);refine lO S6.k [.o 0] Z ⟨Z,U⟩ (g0a S6 a2b Z Z (a7a _ _ j0.name) ?_);intro x2 w1 P1;replace hm:=hm.keep P1 (List.not_mem_nil);refine lO w1.k [.o 0] Z ⟨Z,U⟩ ?_;have e2:w0.heap.size≤g6:=by have:=S4.size;omega
 refine J1a B2b Z Z (U8a b _ x.name _ hm f2 o1) ?_;rintro v28 y2 ⟨rfl,H1,M1⟩;have m0:=w1.turned hm (.inr (by simp)) H1;clear hm;have hm:=M1;refine lB m0.k [.o 0] Z ⟨Z,U⟩ (fun W1=>by exfalso;omega) fun W1=>?_;refine lB m0.k [.o 0,.o 0] Z ⟨Z,Z,U⟩ (fun X1=>by exfalso;omega) fun X1=>?_;refine lB m0.k [.o 0,.o 0] Z ⟨Z,Z,U⟩ (fun Y1=>by exfalso;omega) fun Y1=>?_;refine lO m0.k [.o 0] Z ⟨Z,U⟩ (w1a Z Z ?_);refine g0a m0 e8a Z Z (Y0b M _ _ _ x.modules (B3d nm) (c1.keep (m0.keepM.mono b0)) (v4b (m0.cells 1 Z) (F7a hM G4)) (t0 _ m0.size) (fun c hc=>decide_eq_true (by have:=j0.modules c hc;unfold A2a at this;omega))) ?_;intro z2 J0 Q1;replace hm:=hm.keep Q1 (List.not_mem_nil);refine lO J0.k [.w 1] Z ⟨⟨Z,Z⟩,U⟩ (j0a J0 a6b Z Z (B6a p t M _ _ (hP.keep (J0.keepM.mono b0)) (t0 _ J0.size)) ?_);rintro v53 O0 hq x1 R1;replace hm:=hm.keep R1 (List.not_mem_nil);obtain⟨f,first,caps,rfl,_⟩:=id hq;have a0:=u0a.refl [] O0;refine lC x1.k [.o 0] Z ⟨Z,U⟩ (wL (fun μk D ε w=>D=[]∧∃k:Nat,(k+μk=(x.asserts.length))∧(m3a prog 9 w b (B4a (l++[.string x.name])))∧(u0a [] O0 w)∧St [b] w0 w [(some g6,64,[.string x.name,.int .i64 x.points,.slice G0 D0 K0,.slice P0 s1 S0,.slice I0 F0 N0,.slice H0 E0 L0,.bool x.asleep]),(some g4,201,[.slice Ac nc cc,.slice Am nm cm,.slice Al nl cl,.slice At nt ct])]∧Sl ε [(1,.int .i64 t),(4,.pointer (some ⟨g4,0,none⟩)),(6,.pointer (some ⟨g6,0,none⟩)),(10,.func (.func f) first caps),(55,.slice G0 D0 K0),(56,.int .i64 D0),(57,.int .i64 k)]) (μ:=(x.asserts.length)) ⟨Z,0,by omega,hm,a0,x1,Z⟩ ?_);rintro μk D ε w ⟨rfl,k,hk,hm,a0,S,eZ⟩;refine wK eZ (wB0 Z U (fun Z1=>?_) fun Z1=>?_)
 ·obtain⟨e,T1,i2,_,g2,T0,Z0,j1,f1,B0⟩:=RdS.get (W0) (k) (by omega);obtain⟨_,_,_,rfl,_⟩:=RdE.cells B0;have q1:=j0.truth e (d0a g2);refine lO (S.k.b (f1.keep (S.keepM.mono b0) Z0)) [.x T1 i2,.v 0] Z ⟨⟨Z,j1⟩,⟨T0,by omega⟩,U⟩ (h0a S R1a Z Z ?_);intro s2 u2 t1 y1 I1;have q0:=Nat.le_trans a0.size I1;replace a0:=a0.trans y1;replace hm:=hm.keep y1 (List.not_mem_nil);refine c0a (kk:=0) (vs:=[_,_,_,_]) t1 i1a Z Z Z Z Z Z Z ?_;intro E1 d0 n0;dsimp only[f0a,List.set] at d0;replace a0:=a0.fresh n0 (by first|exact q0);replace hm:=hm.keep n0 (fun hh=>by rw[List.mem_singleton] at hh;exact hm.ne (t1.blk 0 Z) hh);refine lO d0.k [.w 2,.w 0] Z ⟨⟨Z,by rfl⟩,⟨Z,Z⟩,U⟩ (g0a d0 t0b Z Z (B9a p e M _ _ _ false _ (j2b p t) (hP.keep (d0.keepM.mono b0)) (RdE.keep (d0.keepM.mono b0) _ _ B0) (hq.keep a0.of_nil) (hK.keep (d0.keepM.mono b0)) (t0 _ d0.size) q1.2.1 q1.1 (d3b hp q1.1 q1.2.2)) ?_);intro A2 N1 B1;replace a0:=a0.trans B1;replace hm:=hm.keep B1 (List.not_mem_nil);refine lP0 Z ⟨by omega,U⟩ ⟨μk-1,by omega,Z,(k+1),(by omega),(hm),(a0),N1.tail,Z⟩
 refine lC S.k [.o 0] Z ⟨Z,U⟩ (wL (fun μk D ε w=>D=[]∧∃k:Nat,(k+μk=(x.steps.length))∧(m3a prog 9 w b (B4a (l++[.string x.name])))∧(u0a [] O0 w)∧St [b] w0 w [(some g6,64,[.string x.name,.int .i64 x.points,.slice G0 D0 K0,.slice P0 s1 S0,.slice I0 F0 N0,.slice H0 E0 L0,.bool x.asleep]),(some g4,201,[.slice Ac nc cc,.slice Am nm cm,.slice Al nl cl,.slice At nt ct])]∧Sl ε [(1,.int .i64 t),(4,.pointer (some ⟨g4,0,none⟩)),(6,.pointer (some ⟨g6,0,none⟩)),(10,.func (.func f) first caps),(68,.slice I0 F0 N0),(69,.int .i64 F0),(70,.int .i64 k)]) (μ:=(x.steps.length)) ⟨Z,0,by omega,hm,a0,S,Z⟩ ?_);rintro μk D ε w ⟨rfl,k,hk,hm,a0,S,eZ⟩;refine wK eZ (wB0 Z U (fun a2=>?_) fun a2=>?_)
 ·obtain⟨s,U1,j2,_,h2,U0,a1,m1,g1,C0⟩:=RdS.get (d1) (k) (by omega);obtain⟨_,_,_,_,_,_,rfl,⟨_,_⟩,_⟩:=Y1a.open_ C0;refine lO (S.k.b (g1.keep (S.keepM.mono b0) a1)) [.x U1 j2,.v 0] Z ⟨⟨Z,m1⟩,⟨U0,by omega⟩,U⟩ (h0a S Z8c Z Z ?_);intro t2 v2 u1 z1 J1;have r0:=Nat.le_trans a0.size J1;replace a0:=a0.trans z1;replace hm:=hm.keep z1 (List.not_mem_nil);refine lO0 Z U (c0a (kk:=0) (vs:=[_,_,_,_,_,_,_,_,_,_,_]) u1 V6c Z Z Z Z Z Z Z ?_);intro F1 c0 o0;dsimp only[f0a,List.set] at c0;replace a0:=a0.fresh o0 (by first|exact r0);replace hm:=hm.keep o0 (fun hh=>by rw[List.mem_singleton] at hh;exact hm.ne (u1.blk 0 Z) hh);refine lO c0.k [.w 2,.w 1,.w 0] Z ⟨⟨Z,by rfl⟩,⟨Z,Z⟩,⟨Z,Z⟩,U⟩ (g0a c0 Q9c Z Z (S4c p t x s M _ _ _ _ ⟨hP.keep (c0.keepM.mono b0),Y1a.keep (c0.keepM.mono b0) _ _ C0,hp,j0.steps s (d0a h2),hK.keep (c0.keepM.mono b0),t0 _ c0.size⟩ (T0a.keep (c0.keepM.mono b0) _ _ hT) k1.1 k1.2) ?_);intro B2 O1 C1;replace a0:=a0.trans C1;replace hm:=hm.keep C1 (List.not_mem_nil);refine lB0 Z U (fun b2=>by exfalso;omega) fun b2=>?_;refine lP0 Z ⟨by omega,U⟩ ⟨μk-1,by omega,Z,(k+1),(by omega),(hm),(a0),O1.tail,Z⟩
 refine lC S.k [.o 0] Z ⟨Z,U⟩ (wL (fun μk D ε w=>D=[]∧∃k:Nat,(k+μk=(x.loops.length))∧(m3a prog 9 w b (B4a (l++[.string x.name])))∧(u0a [] O0 w)∧St [b] w0 w [(some g6,64,[.string x.name,.int .i64 x.points,.slice G0 D0 K0,.slice P0 s1 S0,.slice I0 F0 N0,.slice H0 E0 L0,.bool x.asleep]),(some g4,201,[.slice Ac nc cc,.slice Am nm cm,.slice Al nl cl,.slice At nt ct])]∧Sl ε [(4,.pointer (some ⟨g4,0,none⟩)),(6,.pointer (some ⟨g6,0,none⟩)),(10,.func (.func f) first caps),(86,.slice H0 E0 L0),(87,.int .i64 E0),(88,.int .i64 k)]) (μ:=(x.loops.length)) ⟨Z,0,by omega,hm,a0,S,Z⟩ ?_);rintro μk D ε w ⟨rfl,k,hk,hm,a0,S,eZ⟩;refine wK eZ (wB0 Z U (fun d2=>?_) fun d2=>?_)
 ·obtain⟨lp,V1,m2,_,r1,V0,b1,n1,i1,p1⟩:=RdS.get (Y0) (k) (by omega);obtain⟨_,_,_,_,_,_,rfl,_,z0,A0,_⟩:=Z4a.open_ p1;have q1:=j0.loops lp (d0a r1);have q2:=q1.head;refine lO (S.k.b (i1.keep (S.keepM.mono b0) b1)) [.x V1 m2,.v 0] Z ⟨⟨Z,n1⟩,⟨V0,by omega⟩,U⟩ (h0a S v5c Z Z ?_);intro g17 w2 v1 A1 K1;have s0:=Nat.le_trans a0.size K1;replace a0:=a0.trans A1;replace hm:=hm.keep A1 (List.not_mem_nil);refine c0a (kk:=0) (vs:=[_,_,_,_,_,_]) v1 Z4c Z Z Z Z Z Z Z ?_;intro G1 i0 p0;dsimp only[f0a,List.set] at i0;replace a0:=a0.fresh p0 (by first|exact s0);replace hm:=hm.keep p0 (fun hh=>by rw[List.mem_singleton] at hh;exact hm.ne (v1.blk 0 Z) hh);refine lO0 Z U (w1a Z Z ?_);refine lO i0.k [.o 0,.o 1] Z ⟨Z,Z,U⟩ (g0a i0 N2a Z Z ((show decide (0≤lp.head∧lp.head<x.points)=true from decide_eq_true (by omega))▸f2a _ _ _) ?_);intro C2 R0 D1;replace a0:=a0.trans D1;replace hm:=hm.keep D1 (List.not_mem_nil);refine lO R0.k [.o 0] Z ⟨Z,U⟩ (g0a R0 t5b Z Z (d5a M _ _ _ (z0.keep (R0.keepM.mono b0)) q1.up) ?_);intro n2 e0 u0;replace a0:=a0.trans u0;replace hm:=hm.keep u0 (List.not_mem_nil);refine lO e0.k [.o 0] Z ⟨Z,U⟩ ?_;have X0:w0.heap.size≤g17:=by have:=S.size;omega
  refine g0a e0 e8a Z Z (Y0b M _ _ _ lp.body (K0d x.points lp.head) (z0.keep (e0.keepM.mono b0)) (W4b (e0.cell 1 Z Z) (e0.cell 0 Z Z) (F7a hM e2) (F7a hM X0)) (t0 _ e0.size) (fun c hc=>decide_eq_true (by have:=q1.body c hc;omega))) ?_;intro o2 f0 v0;replace a0:=a0.trans v0;replace hm:=hm.keep v0 (List.not_mem_nil);refine lO f0.k [.o 0,.o 2] Z ⟨Z,Z,U⟩ (g0a f0 a5a Z Z (q1.variant.1▸w2a lp.variant M _ _ _ p.cells false (RdE.keep (f0.keepM.mono b0) _ _ A0) (hC.keep (f0.keepM.mono b0)) (hK.keep (f0.keepM.mono b0))) ?_);intro p2 g0 x0;replace a0:=a0.trans x0;replace hm:=hm.keep x0 (List.not_mem_nil);refine lO g0.k [.o 0] Z ⟨Z,U⟩ (g0a g0 r8a Z Z ((d3b hp q1.variant.1 q1.variant.2)▸X5a lp.variant M _ _ _ (j2b p t) (RdE.keep (g0.keepM.mono b0) _ _ A0) (hq.keep a0.of_nil) (hK.keep (g0.keepM.mono b0)) (t0 _ g0.size)) ?_);intro r2 Q0 y0;replace a0:=a0.trans y0;replace hm:=hm.keep y0 (List.not_mem_nil);refine lP0 Z ⟨by omega,U⟩ ⟨μk-1,by omega,Z,(k+1),(by omega),(hm),(a0),Q0.tail,Z⟩
 exact lT2 Z U Z ⟨Z,S.below,hm⟩
def Q1b(k:Nat):Nat:=if k=0 then 152 else if k=1 then 153 else 154
def b6b(cs:Array Value):Array Value:=#[.func (.func 152) #[.agg cs] #[],.func (.func 153) #[.agg cs] #[],.func (.func 154) #[.agg cs] #[]]
theorem s8b{cs:Array Value}{k:Nat}(h:k<3):(b6b cs)[(k:Int).toNat]?=some (.func (.func (Q1b k)) #[.agg cs] #[]):=by
 rcases(show k=0∨k=1∨k=2 by omega) with e|e|e<;>subst e<;>rfl
theorem P5b{k:Nat}:Has prog (Q1b k):=by
 unfold Q1b
 repeat' split
 ·exact D9c
 ·exact J6c
 ·exact U8c
theorem e4c(k:Nat)(hk:k<3)(p:o0a)(M:List Nat)(w0:World)(cs:List Value)(hP:R0a M w0 p cs)(hp:o1a p)(hK:i2a M w0)(hM:∀g∈M,g<w0.heap.size):
 E0a prog (Q1b k) #[.agg cs.toArray] w0 fun v w'=>v=.int .i64 0∧Below w0.heap.size w0 w':=by
 rcases(show k=0∨k=1∨k=2 by omega) with e|e|e<;>subst e
 ·exact c2c p M w0 cs hP hp
 ·exact H5b p M w0 cs hP hp hK hM
 ·exact x1c p M w0 cs hP hp hK hM
theorem u0c(p:o0a)(M:List Nat)(w0:World)(cs:List Value)(hP:R0a M w0 p cs)(hp:o1a p)(hK:i2a M w0)(hM:∀g∈M,g<w0.heap.size):
 E0a prog 100 #[.agg cs.toArray] w0 fun v w'=>v=.tuple #[.int .i64 0,.int .i64 (-1),.int .i64 (-1)]∧Below w0.heap.size w0 w':=by
 obtain⟨Ac,nc,cc,Am,nm,cm,Al,nl,cl,At,nt,ct,rfl,_,_,_,K0,_⟩:=hP.open_;have S:=St.refl w0;have v0:∀w':World,w0.heap.size≤w'.heap.size→∀g∈M,g<w'.heap.size:=fun w' h g hg=>by have:=hM g hg;omega
 have o0:p.threads.Pairwise fun a b=>Value.string a.name≠.string b.name:=hp.threadNames.imp fun h e=>h (by injection e);refine a0a func100 Z ntmps100 Z ?_;refine wO0 Z U (p0a S Z ?_);intro g1 w1 S1 X1 G1;refine lO S1.k [.w 0] Z ⟨⟨Z,Z⟩,U⟩ (H0a w6c (vs:=[(0,.agg _)]) (cs:=[_,_,_,_]) Z Z Z Z ?_);refine h0a S1 M1d Z Z ?_;intro g5 w5 S5 X5 G5;refine c0a (kk:=0) (vs:=[_,_,_,_]) S5 r1d Z Z Z Z Z Z Z ?_;intro O0 d0 D0;dsimp only[f0a,List.set] at d0;refine lO d0.k [.w 0] Z ⟨⟨Z,Z⟩,U⟩ (g0a d0 C8c Z Z (a9b p M _ _ (hP.keep (d0.keep0 M)) hp) ?_);intro P0 j0 S0;refine lB0 Z U (fun F0=>by exfalso;omega) fun F0=>?_;refine lO j0.k [.w 0] Z ⟨⟨Z,Z⟩,U⟩ (g2a Z Z Z ?_);refine lO j0.k [.w 0] Z ⟨⟨Z,Z⟩,U⟩ (g2a Z Z Z ?_);refine lO j0.k [.w 0] Z ⟨⟨Z,Z⟩,U⟩ (g2a Z Z Z ?_);refine P0a (v:=.agg (b6b #[.slice Ac nc cc,.slice Am nm cm,.slice Al nl cl,.slice At nt ct])) (w':=P0) Z Z Z (by kernel_rfl) ?_;refine lC0 Z U (wL (fun μk D ε w=>D=[]∧∃k:Nat,(k+μk=(3))∧St [] w0 w [(some g5,201,[.slice Ac nc cc,.slice Am nm cm,.slice Al nl cl,.slice At nt ct]),(some g1,27,[.slice Ac nc cc,.slice Am nm cm,.slice Al nl cl,.slice At nt ct])]∧Sl ε [(1,.pointer (some ⟨g1,0,none⟩)),(5,.pointer (some ⟨g5,0,none⟩)),(33,.agg (b6b #[.slice Ac nc cc,.slice Am nm cm,.slice Al nl cl,.slice At nt ct])),(34,.int .i64 k)]) (μ:=(3)) ⟨Z,0,by omega,j0,Z⟩ ?_);rintro μk D ε w ⟨rfl,k,hk,S,eZ⟩;refine wK eZ (wB0 Z U (fun G0=>?_) fun G0=>?_)
 ·refine lO0 Z U (e5b V8c Z Z (s8b (by omega)) Z ?_);refine lO0 Z U (Z4b (vs:=[.agg #[.slice Ac nc cc,.slice Am nm cm,.slice Al nl cl,.slice At nt ct]]) P5b Z Z Z (e4c k (by omega) p M _ _ (hP.keep (S.keep0 M)) hp (hK.keep (S.keep0 M)) (v0 _ S.size)) ?_);rintro V0 Y0 ⟨rfl,x0⟩;have A0:=S.later x0;refine lB0 Z U (fun H0=>by exfalso;omega) fun H0=>?_;refine lP0 Z ⟨by omega,U⟩ ⟨μk-1,by omega,Z,(k+1),(by omega),A0,Z⟩
 refine lO0 Z U (X3a (k:=9) S Z ?_);intro e0 Z0 u0 T0 R0 b0;have p0:w0.heap.size≤e0:=by have:=S.size;omega
 refine lC u0.k [.o 1] Z ⟨Z,U⟩ (wL (fun μk D ε w=>D=[]∧∃k:Nat,(k+μk=(p.threads.length))∧(m3a prog 9 w e0 (B4a ((p.threads.take k).map fun c=>.string c.name)))∧St [] w0 w [(some g5,201,[.slice Ac nc cc,.slice Am nm cm,.slice Al nl cl,.slice At nt ct]),(some g1,27,[.slice Ac nc cc,.slice Am nm cm,.slice Al nl cl,.slice At nt ct])]∧Sl ε [(5,.pointer (some ⟨g5,0,none⟩)),(11,.map (some e0)),(45,.slice At nt ct),(46,.int .i64 nt),(47,.int .i64 k)]) (μ:=(p.threads.length)) ⟨Z,0,by omega,(by simpa[B4a] using b0),u0,Z⟩ ?_);rintro μk D ε w ⟨rfl,k,hk,b0,S,eZ⟩;refine wK eZ (wB0 Z U (fun I0=>?_) fun I0=>?_)
 ·obtain⟨x,E0,N0,_,s0,m0,_,q0,n0,g0⟩:=RdS.get (K0) (k) (by omega);obtain⟨_,_,_,_,_,_,_,_,_,_,_,_,rfl,_⟩:=T0a.open_ g0;refine lO (S.k.a n0) [.x E0 N0,.v 0] Z ⟨⟨Z,q0⟩,⟨m0,by omega⟩,U⟩ (h0a S B0b Z Z ?_);intro U0 X0 t0 C0 Q0;replace b0:=b0.keep C0 (List.not_mem_nil);refine lO0 Z U (c0a (kk:=0) (vs:=[_,_,_,_,_,_,_]) t0 x0b Z Z Z Z Z Z Z ?_);intro i0 a0 f0;dsimp only[f0a,List.set] at a0;replace b0:=b0.keep f0 (fun hh=>by rw[List.mem_singleton] at hh;exact b0.ne (t0.blk 0 Z) hh);refine lO a0.k [.w 1,.w 0] Z ⟨⟨Z,by rfl⟩,⟨Z,Z⟩,U⟩ ?_;have r0:=T3a o0 s0;have c0:∀g∈e0::M,g∈M∨w0.heap.size≤g:=fun g hg=>by exact(List.mem_cons.1 hg).elim (fun h=>.inr (by omega)) .inl
  have L0:∀g∈e0::M,g<i0.heap.size:=fun g hg=>by exact(List.mem_cons.1 hg).elim (fun h=>h▸b0.lt) (v0 _ a0.size g)
  refine J1a T9c Z Z (Q8b p k x e0 _ (e0::M) _ _ _ ((hP.more c0).keep (a0.keep0 _)) (T0a.keep (a0.keep0 _) _ _ (T0a.more c0 _ _ g0)) hp ((hK.more c0).keep (a0.keep0 _)) L0 (by simp) s0 b0 r0) ?_;rintro W0 a1 ⟨rfl,y0,z0⟩;have B0:=a0.turned b0 (.inl p0) y0;refine lB0 Z U (fun J0=>by exfalso;omega) fun J0=>?_;refine lP0 Z ⟨by omega,U⟩ ?_;refine⟨μk-1,by omega,Z,(k+1),(by omega),((by rw[F0a s0,List.map_append];exact z0)),B0.tail,Z⟩
 refine lR0 Z U (Q5b Z ?_);exact⟨Z,S.fin⟩
def S0b(p:o0a):u2a:=⟨p.cells.map a1a.init,p.threads.map (fun t=>if t.asleep then -1 else 0),p.threads.map (fun _=>[])⟩
def v3b(mem:List Int)(e:A1a):List Int:=(e.cells.zip e.values).foldl (fun m x=>m.set x.1.toNat x.2) mem
def r0c(c:u2a)(t:Nat):List Int:=(c.buf.getD t []).foldl v3b c.mem
def B2d(s:List o3a)(v mem:List Int):List Int:=s.foldl (fun m a=>m.set a.cell.toNat (a.to.evl v v)) mem
def m3d(p:o0a)(s:List o3a)(v:List Int):A1a:=⟨(s.filter fun a=>z1a p.cells a.cell=-1).map o3a.cell,(s.filter fun a=>z1a p.cells a.cell=-1).map fun a=>a.to.evl v v⟩
def a4c(p:o0a)(model:Int)(c:u2a)(t:Nat)(s:y2a):Bool :=
 decide (c.at_.getD t 0=s.frm)&&(decide (s.guard.evl (r0c c t) (r0c c t)=1) &&
  (if s.kind=3 then decide (model=0∨((c.buf.getD t []).length<3∧(s.release=true→c.buf.getD t []=[])))
   else if s.kind=6 then decide (c.buf.getD t []=[]∧c.at_.getD s.target.toNat 0=-1)
   else if s.kind=7 then decide (c.buf.getD t []=[]∧c.at_.getD s.target.toNat 0=(p.threads.getD s.target.toNat ⟨ByteArray.empty,0,[],[],[],[],false⟩).points-1∧c.buf.getD s.target.toNat []=[])
   else if s.kind=1∨s.kind=2 then true else decide (c.buf.getD t []=[])))
def s3d(a b:A1a):Bool:=a.cells.any fun x=>b.cells.contains x
def A0d(model:Int)(l:List A1a)(i:Nat):Bool:=decide (i=0)||(decide (model=2)&&(List.range i).all fun k=>match l[k]?,l[i]? with|some a,some b=>!s3d a b|_,_=>true)
def q1b(p:o0a)(t:Nat):List y2a:=(p.threads.getD t ⟨ByteArray.empty,0,[],[],[],[],false⟩).steps
def S2c(p:o0a)(model:Int)(c:u2a)(t:Nat):List D3a :=
 ((List.range (q1b p t).length).filter fun i=>match (q1b p t)[i]? with|some s=>a4c p model c t s|none=>false).map (fun(i:Nat)=>(⟨t,i,0⟩:D3a)) ++
 ((List.range (c.buf.getD t []).length).filter (A0d model (c.buf.getD t []))).map (fun(i:Nat)=>(⟨t,-1,((c.buf.getD t []).getD i ⟨[],[]⟩).cells.getD 0 0⟩:D3a))
def m3c(p:o0a)(model:Int)(c:u2a):List D3a:=(List.range p.threads.length).flatMap (S2c p model c)
def atC(c:u2a)(t:Nat)(s:y2a):List Int:=if s.kind=6 then(c.at_.set t s.to).set s.target.toNat 0 else c.at_.set t s.to
def f3d(p:o0a)(model:Int)(c:u2a)(t:Nat)(s:y2a):u2a :=
 if s.kind=3∧model≠0 then⟨B2d (s.set.filter fun a=>z1a p.cells a.cell≠-1) (r0c c t) c.mem,atC c t s,c.buf.set t (c.buf.getD t []++[m3d p s.set (r0c c t)])⟩
 else⟨B2d s.set (r0c c t) c.mem,atC c t s,c.buf⟩
def v8c(c:u2a)(t i:Nat):u2a:=⟨v3b c.mem ((c.buf.getD t []).getD i ⟨[],[]⟩),c.at_,c.buf.set t ((c.buf.getD t []).eraseIdx i)⟩
def doC(p:o0a)(model:Int)(c:u2a)(x:D3a):u2a :=
 if x.step=-1 then v8c c x.thread.toNat (((c.buf.getD x.thread.toNat []).findIdx? fun e=>e.cells.getD 0 0=x.cell).getD 0)
 else match (q1b p x.thread.toNat)[x.step.toNat]? with|some s=>f3d p model c x.thread.toNat s|none=>c
section
variable {α:Type} [DecidableEq α] (succ:α→List α) (a:α)
inductive L2b (succ:α→List α) (a:α):α→Prop
 | start:L2b succ a a
 | next {c d:α} (h:L2b succ a c) (hd:d∈succ c):L2b succ a d
end
theorem L2b.to{α:Type}{succ a0:α→List α}{a x:α}(hx:L2b succ a x)(h:∀c d,L2b succ a c→L2b a0 a c→d∈succ c→L2b a0 a d):L2b a0 a x:=by
 induction hx with
 | start=>exact .start
 | next hc hd ih=>exact h _ _ hc ih hd
def A1a.even(e:A1a):Prop:=e.values.length=e.cells.length
structure u2a.Shape (c:u2a) (n t:Nat):Prop where
 mem:c.mem.length=n
 at_:c.at_.length=t
 buf:c.buf.length=t
 even:∀b∈c.buf,∀e∈b,e.even
theorem U4b{e:E}{d0:Int}(h:e.good d0=true)(c0 b0:List Int):0≤e.val c0 b0∧e.val c0 b0<A3a e.w.toNat:=by
 obtain⟨a0,_⟩:=B2a h;have hw:e.w≤8:=a0.2.1;have hb:∀a,0≤n9a a (A3a e.w.toNat-1)∧n9a a (A3a e.w.toNat-1)<A3a e.w.toNat:=fun a=>by
  rw[q3a _ _ (by omega)];have:=q2b e.w.toNat;exact⟨Int.emod_nonneg _ (by omega),Int.emod_lt_of_pos _ this⟩
 rw[E.val_def];by_cases o1:e.op=1
 ·rw[if_pos o1];have:=(X1b o1).1 a0;omega
 ·rw[if_neg o1]
  split
  ·exact hb _
  ·split
   ·exact hb _
   ·exact hb _
structure J4c (p:o0a) (m:List Int):Prop where
 len:m.length=p.cells.length
 vals:∀(i:Nat) (v:Int),m[i]?=some v→0≤v∧v<A3a (wAt p.cells i).toNat
theorem J4c.set{p:o0a}{m:List Int}(h:J4c p m){k:Nat}{v:Int}(hv:0≤v∧v<A3a (wAt p.cells k).toNat):J4c p (m.set k v):=by
 refine⟨by rw[List.length_set];exact h.len,fun i x hi=>?_⟩;rw[List.getElem?_set] at hi
 split at hi
 ·rename_i hk;subst hk
  split at hi
  ·cases hi;exact hv
  ·cases hi
 ·exact h.vals i x hi
structure c0c (p:o0a) (e:A1a):Prop where
 some_:e.cells≠[]
 even:e.even
 cells:∀(i:Nat) (n:Int),e.cells[i]?=some n→A2a n p.cells.length∧z1a p.cells n=-1∧F0b p.cells n=decide (0<i)
 vals:∀x∈e.cells.zip e.values,0≤x.2∧x.2<A3a (wAt p.cells x.1).toNat
 once:e.cells.Nodup
structure x3d (p:o0a) (c:u2a):Prop where
 mem:J4c p c.mem
 nat:c.at_.length=p.threads.length
 atr:∀(t:Nat) (x:Int),c.at_[t]?=some x→∀th,p.threads[t]?=some th→-1≤x∧x<th.points∧(x=-1→th.asleep=true)
 nbuf:c.buf.length=p.threads.length
 bufs:∀(t:Nat) (b:List A1a),c.buf[t]?=some b→b.length≤3∧(∀e∈b,c0c p e)∧(c.at_[t]?=some (-1)→b=[])
theorem x3d.shape{p:o0a}{c:u2a}(hf:x3d p c):c.Shape p.cells.length p.threads.length :=
 ⟨hf.mem.len,hf.nat,hf.nbuf,fun b hb e he=>by
  obtain⟨t,ht,rfl⟩:=List.getElem_of_mem hb;exact((hf.bufs t _ (List.getElem?_eq_getElem ht)).2.1 e he).even⟩
theorem E9a:∀(n:Nat) (l:List Int),l.Nodup→(∀x∈l,0≤x∧x<n)→l.length≤n
 | 0,l,_,h=>by
   cases l with
   | nil=>simp
   | cons x l=>have:=h x (by simp);omega
 | n+1,l,hd,h=>by
   by_cases hn:(n:Int)∈l
   ·have h1:=E9a n (l.erase (n:Int)) (hd.erase _) (fun x hx=>by
     obtain⟨_,h3⟩:=(hd.mem_erase_iff).1 hx;have:=h x h3;omega)
    rw[List.length_erase_of_mem hn] at h1;omega
   ·have h1:=E9a n l hd (fun x hx=>by
     have:=h x hx;have:x≠(n:Int):=fun e=>hn (e▸hx);omega)
    omega
theorem c0c.len{p:o0a}{e:A1a}(h:c0c p e):e.cells.length≤p.cells.length :=
 E9a _ _ h.once fun x hx=>by
  obtain⟨i,hi,rfl⟩:=List.getElem_of_mem hx;exact(h.cells i _ (List.getElem?_eq_getElem hi)).1
section
variable {M:List Nat} {w:World}
theorem s2a.open_{c:u2a}{cs:List Value}(h:s2a M w c cs):∃Am nm cm Aa na ca Ab nb cb,cs=[.slice Am nm cm,.slice Aa na ca,.slice Ab nb cb] ∧
 RdI M w (.slice Am nm cm) c.mem∧RdI M w (.slice Aa na ca) c.at_∧y3d M w (.slice Ab nb cb) c.buf ∧
 nm=c.mem.length∧na=c.at_.length∧nb=c.buf.length∧nm≤140737488355328∧na≤140737488355328∧nb≤140737488355328:=by
 obtain⟨_,_,_,rfl,h1,h2,h3⟩:=h;obtain⟨Am,nm,cm,rfl⟩:=h1.form;obtain⟨Aa,na,ca,rfl⟩:=h2.form;obtain⟨Ab,nb,cb,rfl⟩:=h3.form;exact⟨_,_,_,_,_,_,_,_,_,Z,h1,h2,h3,h1.len.1,h2.len.1,h3.len.1,h1.len.2.2,h2.len.2.2,h3.len.2.2⟩
theorem A6b.open_{b:List A1a}{cs:List Value}(h:A6b M w cs b):∃A n c,cs=[.slice A n c]∧P2d M w (.slice A n c) b∧n=b.length∧n≤140737488355328:=by
 obtain⟨_,rfl,h1⟩:=h;obtain⟨A,n,c,rfl⟩:=h1.form;exact⟨_,_,_,Z,h1,h1.len.1,h1.len.2.2⟩
theorem C2a.open_{e:A1a}{cs:List Value}(h:C2a M w cs e):∃Ac nc cc Av nv cv,cs=[.slice Ac nc cc,.slice Av nv cv]∧RdI M w (.slice Ac nc cc) e.cells∧RdI M w (.slice Av nv cv) e.values∧nc=e.cells.length∧nv=e.values.length∧nc≤140737488355328∧nv≤140737488355328:=by
 obtain⟨_,_,rfl,h1,h2⟩:=h;obtain⟨Ac,nc,cc,rfl⟩:=h1.form;obtain⟨Av,nv,cv,rfl⟩:=h2.form;exact⟨_,_,_,_,_,_,Z,h1,h2,h1.len.1,h2.len.1,h1.len.2.2,h2.len.2.2⟩
end
theorem H3d{cells:List a1a}{k:Nat}{c:a1a}(h:cells[k]?=some c):wAt cells (k:Int)=c.w:=W4a (by simpa using h)
structure InP (p:o0a) (M:List Nat) (w:World) (cs:List Value):Prop where
 rd:R0a M w p cs
 ok:o1a p
 msk:i2a M w
 lt:∀g∈M,g<w.heap.size
theorem InP.keep{p:o0a}{M:List Nat}{w w':World}{cs:List Value}(h:InP p M w cs)(hk:u0a M w w'):InP p M w' cs :=
 ⟨h.rd.keep hk,h.ok,h.msk.keep hk,fun g hg=>Nat.lt_of_lt_of_le (h.lt g hg) hk.size⟩
theorem E3a{w0 w:World}{L:List Ent}{g t k:Nat}{cs:List Value}{M:List Nat}(S:St [] w0 w L)(hk:L[k]?=some (some g,t,cs)):∀x∈g::M,x∈M∨w0.heap.size≤x:=fun x hx=>by
 rcases List.mem_cons.1 hx with rfl|h
 ·rcases S.new k hk with h|h
  ·exact .inr h
  ·cases h
 ·exact .inl h
theorem InP.add{p:o0a}{M:List Nat}{w0 w:World}{cs:List Value}(h:InP p M w0 cs){L:List Ent}{g t k:Nat}{a0:List Value}(S:St [] w0 w L)(hk:L[k]?=some (some g,t,a0)):InP p (g::M) w cs :=
 ⟨(h.rd.more (E3a S hk)).keep (S.keep0 _),h.ok,(h.msk.more (E3a S hk)).keep (S.keep0 _),fun x hx=>by
   rcases List.mem_cons.1 hx with rfl|hx
   ·exact S.lt k hk
   ·exact Nat.lt_of_lt_of_le (h.lt x hx) S.size⟩
theorem s2a.add{c:u2a}{M:List Nat}{w0 w:World}{cs:List Value}(h:s2a M w0 c cs){L:List Ent}{g t k:Nat}{a0:List Value}(S:St [] w0 w L)(hk:L[k]?=some (some g,t,a0)):s2a (g::M) w c cs :=
 (h.more (E3a S hk)).keep (S.keep0 _)
section
variable {H:Type} {enc:TypeId×Value→H} {P:Program} {W:World} {base:Nat} {sp:Nat→Bool} {held:Bool}
def f3a(P:Program)(t:TypeId)(d:DataW H):Prop:=∀m∈d.weights P t,m≤reachBytes
theorem e3a{n:Int}(h:(Lit.int .i64 n).wf=true):i64 n:=by
 simp[Lit.wf,IntKind.min,IntKind.max,IntKind.signed,IntKind.bits] at h;exact h
theorem B1c{a:Addr}{v:Value}(h:W.cell? a=some v):a=⟨a.block,a.off,none⟩:=by
 obtain⟨_,_,s⟩:=a;cases s with
 | none=>rfl
 | some x=>unfold World.cell? at h;split at h<;>simp at h
theorem K3b{e:TypeId}{l:List (DataW H)}{i:Nat}{d:DataW H}(hi:l[i]?=some d):∀m∈d.weights P e,m∈DataW.weightsAll P e l:=by
 induction l generalizing i with
 | nil=>simp at hi
 | cons x xs ih =>
   intro m hm;rw[DataW.weightsAll];cases i with
   | zero=>simp at hi;subst hi;exact List.mem_append_left _ hm
   | succ i=>exact List.mem_append_right _ (ih (by simpa using hi) m hm)
theorem K2a{α:Type}{size t e:Nat}{fuel:Nat}{R:List Value→α→Prop}{v:Value}{x:DataW H×List MemPlace}(ht:P.underlying t=some (.slice e))(hc:P.cellsOf e=size)(m0:1≤P.bytesOf e)
 (n0:∀(n:Nat) (cs:List Value) (y:DataW H×List MemPlace),n<fuel→cs.length=size→DataW.trod enc P W base sp held n e cs=some y→f3a P e y.1→∃a,R cs a)
 (h:DataW.trod enc P W base sp held fuel t [v]=some x) (hw:f3a P t x.1) (hs:0<size:=by omega):∃l,RdS [] W size R v l:=by
 rcases DataW.trod_slice ht h with⟨h1,h2⟩|⟨a,len,f0,b0,rest,n,hf,h1,h2,hb,hl,hm,q0,e0,-,-⟩
 ·cases h1;exact⟨[],none,0,0,Z,Z,Nat.le_refl _,by unfold maxLen;omega,by omega,fun h=>absurd h (by omega)⟩
 ·cases h1;have j0:f3a P t (.slice (b0.map (·.1)) (rest.map (·.1))):=by rw[h2] at hw;exact hw
  have d0:len≤140737488355328:=by
   have:=j0 ((b0.length+rest.length)*P.bytesOf e) (by rw[DataW.weights,ht];simp);have h3:len*1≤(b0.length+rest.length)*P.bytesOf e:=Nat.mul_le_mul (by omega) m0;unfold reachBytes at this;omega
  have each:∀i,i<len→∃cs q,cs.length=size∧R cs q∧∀j,j<size→W.cell? ((a.add (i*size)).add j)=cs[j]?:=by
   intro i hi;have hg:=e0 i hi;have i0:i<b0.length:=by omega
   rw[List.getElem?_eq_getElem i0,Option.bind_eq_some_iff] at hg;obtain⟨cs,g0,s0⟩:=hg;rw[hc] at g0;obtain⟨-,c0,a0⟩:=World.cells?_some g0;obtain⟨q,hq⟩:=n0 n cs _ (by omega) c0 s0 (fun m r0=>by
    refine j0 m ?_;rw[DataW.weights,ht];refine List.mem_cons_of_mem _ (List.mem_append_left _ (K3b (i:=i) ?_ m r0));rw[List.getElem?_map,List.getElem?_eq_getElem i0];rfl)
   exact⟨cs,q,c0,hq,a0⟩
  by_cases h0:len=0
  ·subst h0;exact⟨[],some a,0,f0,Z,Z,hl,hm,by omega,fun h=>absurd h (by omega)⟩
  ·have ha:a=⟨a.block,a.off,none⟩:=by
    obtain⟨cs,q,c0,_,a0⟩:=each 0 (by omega);have:=a0 0 (by omega);rw[List.getElem?_eq_getElem (by omega)] at this;simp only[Nat.zero_mul,Addr.add_zero'] at this;exact B1c this
   let f:Fin len→α:=fun i=>Classical.choose (Classical.choose_spec (each i.1 i.2))
   have o0:∀i:Fin len,∃cs:List Value,cs.length=size∧R cs (f i)∧∀j,j<size→W.cell? ((a.add (i.1*size)).add j)=cs[j]?:=fun i =>
    ⟨Classical.choose (each i.1 i.2),Classical.choose_spec (Classical.choose_spec (each i.1 i.2))⟩
   refine⟨List.ofFn f,some a,len,f0,Z,by simp,hl,hm,d0,fun _=>⟨a.block,a.off,by rw[←ha],by simp,fun i x hx=>?_⟩⟩;have hi:i<len:=by have:=(List.getElem?_eq_some_iff.1 hx).1;simpa using this
   have t0:x=f ⟨i,hi⟩:=by
    rw[List.getElem?_eq_getElem (by simpa using hi)] at hx;simp at hx;exact hx.symm
   obtain⟨cs,c0,hR,a0⟩:=o0 ⟨i,hi⟩;refine⟨cs,c0,fun j u hj=>?_,by rw[t0];exact hR⟩;have p0:j<size:=by have:=(List.getElem?_eq_some_iff.1 hj).1;omega
   have:=a0 j p0;rw[hj] at this;rw[ha] at this;rw[Addr.add_lit,Addr.add_lit] at this;exact this
theorem O1b{t:TypeId}{fs:Array Field}{xs:List (DataW H×List MemPlace)}{i:Nat}{f:Field}{y:DataW H×List MemPlace}(ht:P.underlying t=some (.struct fs))(hw:f3a P t (.agg (xs.map (·.1))))(hf:fs[i]?=some f)(hy:xs[i]?=some y):f3a P f.type y.1:=fun m hm=>by
 refine hw m ?_;rw[DataW.weights,ht];refine DataW.weights_mem_each (j:=i) (t:=f.type) (d:=y.1) ?_ ?_ m hm
 ·rw[List.getElem?_map];simp[hf]
 ·rw[List.getElem?_map,hy];rfl
theorem E3d{l:List Value}(h:l.length=4):∃a0 a1 a2 a3,l=[a0,a1,a2,a3]:=by
 match l,h with
 | [a0,a1,a2,a3],_=>exact⟨a0,a1,a2,a3,Z⟩
theorem Q3d{l:List Value}(h:l.length=5):∃a0 a1 a2 a3 a4,l=[a0,a1,a2,a3,a4]:=by
 match l,h with
 | [a0,a1,a2,a3,a4],_=>exact⟨a0,a1,a2,a3,a4,Z⟩
theorem Y2d{l:List Value}(h:l.length=6):∃a0 a1 a2 a3 a4 a5,l=[a0,a1,a2,a3,a4,a5]:=by
 match l,h with
 | [a0,a1,a2,a3,a4,a5],_=>exact⟨a0,a1,a2,a3,a4,a5,Z⟩
theorem P3d{l:List Value}(h:l.length=7):∃a0 a1 a2 a3 a4 a5 a6,l=[a0,a1,a2,a3,a4,a5,a6]:=by
 match l,h with
 | [a0,a1,a2,a3,a4,a5,a6],_=>exact⟨a0,a1,a2,a3,a4,a5,a6,Z⟩
theorem Z1d{l:List Value}(h:l.length=11):∃a0 a1 a2 a3 a4 a5 a6 a7 a8 a9 b0,l=[a0,a1,a2,a3,a4,a5,a6,a7,a8,a9,b0]:=by
 match l,h with
 | [a0,a1,a2,a3,a4,a5,a6,a7,a8,a9,b0],_=>exact⟨a0,a1,a2,a3,a4,a5,a6,a7,a8,a9,b0,Z⟩
theorem J0a{t:TypeId}{fs:Array Field}{cs:List Value}{xs:List (DataW H×List MemPlace)}{n:Nat}(i ty d0:Nat)(c0:xs.length=fs.size)(b0:∀(i:Nat) (f:Field),fs[i]?=some f→DataW.trod enc P W base sp held n f.type ((cs.drop f.offset).take (P.cellsOf f.type))=xs[i]?)(ht:P.underlying t=some (.struct fs))(hw:f3a P t (.agg (xs.map (·.1))))(hf:(fs[i]?).map (fun f=>(f.type,f.offset))=some (ty,d0)):
 ∃y,DataW.trod enc P W base sp held n ty ((cs.drop d0).take (P.cellsOf ty))=some y∧f3a P ty y.1:=by
 cases a0:fs[i]? with
 | none=>rw[a0] at hf;cases hf
 | some f =>
   rw[a0] at hf;simp only[Option.map_some,Option.some.injEq,Prod.mk.injEq] at hf;obtain⟨rfl,rfl⟩:=hf;have hi:i<xs.length:=by rw[c0];exact(Array.getElem?_eq_some_iff.1 a0).1
   exact⟨xs[i],by rw[b0 i f a0,List.getElem?_eq_getElem hi],O1b ht hw a0 (List.getElem?_eq_getElem hi)⟩
end
section
variable {H:Type} {enc:TypeId×Value→H} {W:World} {base:Nat} {sp:Nat→Bool} {held:Bool}
theorem p0d{n:Int}(h:(Lit.int .u8 n).wf=true):0≤n∧n≤255:=by simpa[Lit.wf,IntKind.min,IntKind.max,IntKind.signed,IntKind.bits] using h
theorem m0d{n:Int}(h:(Lit.int .u32 n).wf=true):0≤n∧n≤4294967295:=by simpa[Lit.wf,IntKind.min,IntKind.max,IntKind.signed,IntKind.bits] using h
theorem X6b{t:TypeId}{s:ByteArray}{y:DataW H×List MemPlace}(hx:y=(.lit (.string s.data.toList),[]))(hw:f3a prog t y.1):s.size≤140737488355328:=by
 have h:=hw s.data.toList.length (by rw[hx];exact List.mem_singleton.2 Z);have e:s.data.toList.length=s.size:=Array.length_toList;unfold reachBytes at h;omega
theorem z6b{α:Type}{M:List Nat}{w:World}{size:Nat}{R:List Value→α→Prop}{Q:α→Prop}{v:Value}{l:List α}(h:RdS M w size R v l)(hq:∀cs x,R cs x→Q x):∀x∈l,Q x:=fun x hx=>by
 obtain⟨_,_,_,rfl⟩:=h.form;obtain⟨i,hi⟩:=List.mem_iff_getElem?.1 hx;obtain⟨_,_,_,cs,h1,-,-,-,-,h2⟩:=RdS.get h i (List.getElem?_eq_some_iff.1 hi).1;rw[hi] at h1;cases h1;exact hq _ _ h2
theorem g1b:prog.cellsOf 3=1:=by kernel_rfl
theorem n5b:prog.cellsOf 4=1:=by kernel_rfl
theorem J9a:prog.cellsOf 9=1:=by kernel_rfl
theorem c3:prog.cellsOf 3=1:=by kernel_rfl
theorem i1d:prog.cellsOf 35=1:=by kernel_rfl
theorem d9c:prog.cellsOf 37=4:=by kernel_rfl
theorem S1d:1≤prog.bytesOf 37:=of_decide_eq_true (by kernel_rfl)
theorem O3d:1≤prog.bytesOf 3:=of_decide_eq_true (by kernel_rfl)
theorem m4a:∀(fuel:Nat) (cs:List Value) (x:DataW H×List MemPlace),DataW.trod enc prog W base sp held fuel 37 cs=some x→f3a prog 37 x.1→∃e,RdE [] W e cs:=by
 intro fuel
 induction fuel using Nat.strongRecOn with
 | _ fuel ih =>
 intro cs x h hw;obtain⟨_,_,_,hx,hl,b0,a0⟩:=DataW.trod_struct Tryz.underlying37 h;rw[hx] at hw;rw[d9c] at hl;obtain⟨_,t0,-⟩:=J0a 0 3 0 b0 a0 Tryz.underlying37 hw Z;obtain⟨_,t1,-⟩:=J0a 1 3 1 b0 a0 Tryz.underlying37 hw Z;obtain⟨_,t2,-⟩:=J0a 2 3 2 b0 a0 Tryz.underlying37 hw Z;obtain⟨_,t3,w3⟩:=J0a 3 35 3 b0 a0 Tryz.underlying37 hw Z;simp only[c3,i1d] at t0 t1 t2 t3;obtain⟨_,_,_,_,rfl⟩:=E3d hl;simp only[List.drop_succ_cons,List.drop_zero,List.take_succ_cons,List.take_zero] at t0 t1 t2 t3;obtain⟨m0,e0,-,f0⟩:=DataW.trod_int Tryz.underlying3 t0;obtain⟨m1,e1,-,f1⟩:=DataW.trod_int Tryz.underlying3 t1;obtain⟨m2,e2,-,f2⟩:=DataW.trod_int Tryz.underlying3 t2;cases e0;cases e1;cases e2;obtain⟨ks,j0⟩:=K2a (R:=fun cs e=>RdE [] W e cs) Tryz.underlying35 d9c S1d (fun k cs y hk _ hy hl=>ih k (by omega) cs y hy hl) t3 w3;obtain⟨A,k,c,rfl,hk,i0,g0,hbig,c0⟩:=j0;refine⟨⟨m0,m1,m2,ks⟩,?_⟩;rw[RdE];refine⟨A,k,c,Z,e3a f0,e3a f1,e3a f2,hk,i0,g0,hbig,fun h0=>?_⟩;obtain⟨b,o,hA,hb,c0⟩:=c0 h0;refine⟨b,o,hA,hb,fun i hi=>?_⟩;obtain⟨d0,-,hc,hr⟩:=c0 i ks[i] (List.getElem?_eq_getElem hi);exact⟨d0,hc,hr⟩
theorem X7a{fuel:Nat}{v:Value}{x:DataW H×List MemPlace}(h:DataW.trod enc prog W base sp held fuel 28 [v]=some x)(hw:f3a prog 28 x.1):∃l,RdI [] W v l :=
 K2a Tryz.underlying28 c3 O3d (fun n cs y _ _ hy _=>by
  obtain⟨m,e,-,f⟩:=DataW.trod_int Tryz.underlying3 hy;exact⟨m,e,e3a f⟩) h hw
theorem N8b{fuel:Nat}{v:Value}{x:DataW H×List MemPlace}(h:DataW.trod enc prog W base sp held fuel 35 [v]=some x)(hw:f3a prog 35 x.1):∃l,c0d [] W v l :=
 K2a Tryz.underlying35 d9c S1d (fun n cs y _ _ hy hl=>m4a n cs y hy hl) h hw
theorem p4a:prog.cellsOf 83=6:=by kernel_rfl
theorem n9b{fuel:Nat}{cs:List Value}{x:DataW H×List MemPlace}(h:DataW.trod enc prog W base sp held fuel 83 cs=some x)(hw:f3a prog 83 x.1):∃c,r2a cs c∧c.name.size≤140737488355328:=by
 obtain⟨_,_,_,hx,hl,b0,a0⟩:=DataW.trod_struct Tryz.underlying83 h;rw[hx] at hw;rw[p4a] at hl;obtain⟨_,t0,w0⟩:=J0a 0 9 0 b0 a0 Tryz.underlying83 hw Z;obtain⟨_,t1,-⟩:=J0a 1 3 1 b0 a0 Tryz.underlying83 hw Z;obtain⟨_,t2,-⟩:=J0a 2 3 2 b0 a0 Tryz.underlying83 hw Z;obtain⟨_,t3,-⟩:=J0a 3 3 3 b0 a0 Tryz.underlying83 hw Z;obtain⟨_,t4,-⟩:=J0a 4 4 4 b0 a0 Tryz.underlying83 hw Z;obtain⟨_,t5,-⟩:=J0a 5 3 5 b0 a0 Tryz.underlying83 hw Z;simp only[J9a,g1b,n5b] at t0 t1 t2 t3 t4 t5;obtain⟨_,_,_,_,_,_,rfl⟩:=Y2d hl;simp only[List.drop_succ_cons,List.drop_zero,List.take_succ_cons,List.take_zero] at t0 t1 t2 t3 t4 t5;obtain⟨m0,e0,s0,-⟩:=DataW.trod_string Tryz.underlying9 t0;obtain⟨m1,e1,-,f1⟩:=DataW.trod_int Tryz.underlying3 t1;obtain⟨m2,e2,-,f2⟩:=DataW.trod_int Tryz.underlying3 t2;obtain⟨m3,e3,-,f3⟩:=DataW.trod_int Tryz.underlying3 t3;obtain⟨m4,e4,-⟩:=DataW.trod_bool Tryz.underlying4 t4;obtain⟨m5,e5,-,f5⟩:=DataW.trod_int Tryz.underlying3 t5;cases e0;cases e1;cases e2;cases e3;cases e4;cases e5;exact⟨⟨m0,m1,m2,m3,m4,m5⟩,⟨Z,e3a f1,e3a f2,e3a f3,e3a f5⟩,X6b s0 w0⟩
theorem d3d:1≤prog.bytesOf 83:=of_decide_eq_true (by kernel_rfl)
theorem M8b{fuel:Nat}{v:Value}{x:DataW H×List MemPlace}(h:DataW.trod enc prog W base sp held fuel 22 [v]=some x)(hw:f3a prog 22 x.1):∃l,Z8b [] W v l∧∀c∈l,c.name.size≤140737488355328:=by
 obtain⟨l,hl⟩:=K2a Tryz.underlying22 p4a d3d (fun n cs y _ _ hy hl=>n9b hy hl) h hw;exact⟨l,hl.mono (fun _ _ h=>h.1),z6b hl (fun _ _ h=>h.2)⟩
theorem K1a:prog.cellsOf 37=4:=by kernel_rfl
theorem x3a:prog.cellsOf 142=5:=by kernel_rfl
theorem o5b{fuel:Nat}{cs:List Value}{x:DataW H×List MemPlace}(h:DataW.trod enc prog W base sp held fuel 142 cs=some x)(hw:f3a prog 142 x.1):∃c,Q0a [] W cs c:=by
 obtain⟨_,_,_,hx,hl,b0,a0⟩:=DataW.trod_struct Tryz.underlying142 h;rw[hx] at hw;rw[x3a] at hl;obtain⟨_,t0,-⟩:=J0a 0 3 0 b0 a0 Tryz.underlying142 hw Z;obtain⟨_,t1,w1⟩:=J0a 1 37 1 b0 a0 Tryz.underlying142 hw Z;simp only[g1b,K1a] at t0 t1;obtain⟨_,_,_,_,_,rfl⟩:=Q3d hl;simp only[List.drop_succ_cons,List.drop_zero,List.take_succ_cons,List.take_zero] at t0 t1;obtain⟨m0,e0,-,f0⟩:=DataW.trod_int Tryz.underlying3 t0;obtain⟨x1,h1⟩:=m4a _ _ _ t1 w1;cases e0;exact⟨⟨m0,x1⟩,_,Z,e3a f0,h1⟩
theorem p6c:1≤prog.bytesOf 142:=of_decide_eq_true (by kernel_rfl)
theorem z4b{fuel:Nat}{v:Value}{x:DataW H×List MemPlace}(h:DataW.trod enc prog W base sp held fuel 58 [v]=some x)(hw:f3a prog 58 x.1):∃l,N8c [] W v l :=
 K2a Tryz.underlying58 x3a p6c (fun n cs y _ _ hy hl=>o5b hy hl) h hw
theorem P1b:prog.cellsOf 58=1:=by kernel_rfl
theorem a4a:prog.cellsOf 60=11:=by kernel_rfl
theorem h0c{fuel:Nat}{cs:List Value}{x:DataW H×List MemPlace}(h:DataW.trod enc prog W base sp held fuel 60 cs=some x)(hw:f3a prog 60 x.1):∃c,Y1a [] W cs c:=by
 obtain⟨_,_,_,hx,hl,b0,a0⟩:=DataW.trod_struct Tryz.underlying60 h;rw[hx] at hw;rw[a4a] at hl;obtain⟨_,t0,-⟩:=J0a 0 3 0 b0 a0 Tryz.underlying60 hw Z;obtain⟨_,t1,-⟩:=J0a 1 3 1 b0 a0 Tryz.underlying60 hw Z;obtain⟨_,t2,-⟩:=J0a 2 3 2 b0 a0 Tryz.underlying60 hw Z;obtain⟨_,t3,w3⟩:=J0a 3 37 3 b0 a0 Tryz.underlying60 hw Z;obtain⟨_,t4,w4⟩:=J0a 4 58 7 b0 a0 Tryz.underlying60 hw Z;obtain⟨_,t5,-⟩:=J0a 5 4 8 b0 a0 Tryz.underlying60 hw Z;obtain⟨_,t6,-⟩:=J0a 6 3 9 b0 a0 Tryz.underlying60 hw Z;obtain⟨_,t7,-⟩:=J0a 7 3 10 b0 a0 Tryz.underlying60 hw Z;simp only[g1b,K1a,P1b,n5b] at t0 t1 t2 t3 t4 t5 t6 t7;obtain⟨_,_,_,_,_,_,_,_,_,_,_,rfl⟩:=Z1d hl;simp only[List.drop_succ_cons,List.drop_zero,List.take_succ_cons,List.take_zero] at t0 t1 t2 t3 t4 t5 t6 t7;obtain⟨m0,e0,-,f0⟩:=DataW.trod_int Tryz.underlying3 t0;obtain⟨m1,e1,-,f1⟩:=DataW.trod_int Tryz.underlying3 t1;obtain⟨m2,e2,-,f2⟩:=DataW.trod_int Tryz.underlying3 t2;obtain⟨x3,h3⟩:=m4a _ _ _ t3 w3;obtain⟨x4,h4⟩:=z4b t4 w4;obtain⟨m5,e5,-⟩:=DataW.trod_bool Tryz.underlying4 t5;obtain⟨m6,e6,-,f6⟩:=DataW.trod_int Tryz.underlying3 t6;obtain⟨m7,e7,-,f7⟩:=DataW.trod_int Tryz.underlying3 t7;cases e0;cases e1;cases e2;cases e5;cases e6;cases e7;exact⟨⟨m0,m1,m2,x3,x4,m5,m6,m7⟩,_,_,_,_,_,Z,e3a f0,e3a f1,e3a f2,e3a f6,e3a f7,h3,h4⟩
theorem N2d:1≤prog.bytesOf 60:=of_decide_eq_true (by kernel_rfl)
theorem I8b{fuel:Nat}{v:Value}{x:DataW H×List MemPlace}(h:DataW.trod enc prog W base sp held fuel 61 [v]=some x)(hw:f3a prog 61 x.1):∃l,v1d [] W v l :=
 K2a Tryz.underlying61 a4a N2d (fun n cs y _ _ hy hl=>h0c hy hl) h hw
theorem v6b:prog.cellsOf 28=1:=by kernel_rfl
theorem f4a:prog.cellsOf 155=6:=by kernel_rfl
theorem X0c{fuel:Nat}{cs:List Value}{x:DataW H×List MemPlace}(h:DataW.trod enc prog W base sp held fuel 155 cs=some x)(hw:f3a prog 155 x.1):∃c,Z4a [] W cs c:=by
 obtain⟨_,_,_,hx,hl,b0,a0⟩:=DataW.trod_struct Tryz.underlying155 h;rw[hx] at hw;rw[f4a] at hl;obtain⟨_,t0,-⟩:=J0a 0 3 0 b0 a0 Tryz.underlying155 hw Z;obtain⟨_,t1,w1⟩:=J0a 1 28 1 b0 a0 Tryz.underlying155 hw Z;obtain⟨_,t2,w2⟩:=J0a 2 37 2 b0 a0 Tryz.underlying155 hw Z;simp only[g1b,v6b,K1a] at t0 t1 t2;obtain⟨_,_,_,_,_,_,rfl⟩:=Y2d hl;simp only[List.drop_succ_cons,List.drop_zero,List.take_succ_cons,List.take_zero] at t0 t1 t2;obtain⟨m0,e0,-,f0⟩:=DataW.trod_int Tryz.underlying3 t0;obtain⟨x1,h1⟩:=X7a t1 w1;obtain⟨x2,h2⟩:=m4a _ _ _ t2 w2;cases e0;exact⟨⟨m0,x1,x2⟩,_,_,_,_,_,Z,e3a f0,h1,h2⟩
theorem w3d:1≤prog.bytesOf 155:=of_decide_eq_true (by kernel_rfl)
theorem K8b{fuel:Nat}{v:Value}{x:DataW H×List MemPlace}(h:DataW.trod enc prog W base sp held fuel 62 [v]=some x)(hw:f3a prog 62 x.1):∃l,K2d [] W v l :=
 K2a Tryz.underlying62 f4a w3d (fun n cs y _ _ hy hl=>X0c hy hl) h hw
theorem t6b:prog.cellsOf 35=1:=by kernel_rfl
theorem k6b:prog.cellsOf 61=1:=by kernel_rfl
theorem C5b:prog.cellsOf 62=1:=by kernel_rfl
theorem p3a:prog.cellsOf 64=7:=by kernel_rfl
theorem o6b{fuel:Nat}{cs:List Value}{x:DataW H×List MemPlace}(h:DataW.trod enc prog W base sp held fuel 64 cs=some x)(hw:f3a prog 64 x.1):∃c,T0a [] W cs c∧c.name.size≤140737488355328:=by
 obtain⟨_,_,_,hx,hl,b0,a0⟩:=DataW.trod_struct Tryz.underlying64 h;rw[hx] at hw;rw[p3a] at hl;obtain⟨_,t0,w0⟩:=J0a 0 9 0 b0 a0 Tryz.underlying64 hw Z;obtain⟨_,t1,-⟩:=J0a 1 3 1 b0 a0 Tryz.underlying64 hw Z;obtain⟨_,t2,w2⟩:=J0a 2 35 2 b0 a0 Tryz.underlying64 hw Z;obtain⟨_,t3,w3⟩:=J0a 3 28 3 b0 a0 Tryz.underlying64 hw Z;obtain⟨_,t4,w4⟩:=J0a 4 61 4 b0 a0 Tryz.underlying64 hw Z;obtain⟨_,t5,w5⟩:=J0a 5 62 5 b0 a0 Tryz.underlying64 hw Z;obtain⟨_,t6,-⟩:=J0a 6 4 6 b0 a0 Tryz.underlying64 hw Z;simp only[J9a,g1b,t6b,v6b,k6b,C5b,n5b] at t0 t1 t2 t3 t4 t5 t6;obtain⟨_,_,_,_,_,_,_,rfl⟩:=P3d hl;simp only[List.drop_succ_cons,List.drop_zero,List.take_succ_cons,List.take_zero] at t0 t1 t2 t3 t4 t5 t6;obtain⟨m0,e0,s0,-⟩:=DataW.trod_string Tryz.underlying9 t0;obtain⟨m1,e1,-,f1⟩:=DataW.trod_int Tryz.underlying3 t1;obtain⟨x2,h2⟩:=N8b t2 w2;obtain⟨x3,h3⟩:=X7a t3 w3;obtain⟨x4,h4⟩:=I8b t4 w4;obtain⟨x5,h5⟩:=K8b t5 w5;obtain⟨m6,e6,-⟩:=DataW.trod_bool Tryz.underlying4 t6;cases e0;cases e1;cases e6;exact⟨⟨m0,m1,x2,x3,x4,x5,m6⟩,⟨_,_,_,_,Z,e3a f1,h2,h3,h4,h5⟩,X6b s0 w0⟩
theorem x8c:1≤prog.bytesOf 64:=of_decide_eq_true (by kernel_rfl)
theorem R3b{fuel:Nat}{v:Value}{x:DataW H×List MemPlace}(h:DataW.trod enc prog W base sp held fuel 25 [v]=some x)(hw:f3a prog 25 x.1):∃l,o3d [] W v l∧∀c∈l,c.name.size≤140737488355328:=by
 obtain⟨l,hl⟩:=K2a Tryz.underlying25 p3a x8c (fun n cs y _ _ hy hl=>o6b hy hl) h hw;exact⟨l,hl.mono (fun _ _ h=>h.1),z6b hl (fun _ _ h=>h.2)⟩
theorem a3a:prog.cellsOf 81=11:=by kernel_rfl
theorem V2b{fuel:Nat}{cs:List Value}{x:DataW H×List MemPlace}(h:DataW.trod enc prog W base sp held fuel 81 cs=some x)(hw:f3a prog 81 x.1):∃c,M0a [] W cs c∧c.name.size≤140737488355328∧c.owner.size≤140737488355328:=by
 obtain⟨_,_,_,hx,hl,b0,a0⟩:=DataW.trod_struct Tryz.underlying81 h;rw[hx] at hw;rw[a3a] at hl;obtain⟨_,t0,w0⟩:=J0a 0 9 0 b0 a0 Tryz.underlying81 hw Z;obtain⟨_,t1,w1⟩:=J0a 1 9 1 b0 a0 Tryz.underlying81 hw Z;obtain⟨_,t2,w2⟩:=J0a 2 37 2 b0 a0 Tryz.underlying81 hw Z;obtain⟨_,t3,w3⟩:=J0a 3 37 6 b0 a0 Tryz.underlying81 hw Z;obtain⟨_,t4,w4⟩:=J0a 4 28 10 b0 a0 Tryz.underlying81 hw Z;simp only[J9a,K1a,v6b] at t0 t1 t2 t3 t4;obtain⟨_,_,_,_,_,_,_,_,_,_,_,rfl⟩:=Z1d hl;simp only[List.drop_succ_cons,List.drop_zero,List.take_succ_cons,List.take_zero] at t0 t1 t2 t3 t4;obtain⟨m0,e0,s0,-⟩:=DataW.trod_string Tryz.underlying9 t0;obtain⟨m1,e1,s1,-⟩:=DataW.trod_string Tryz.underlying9 t1;obtain⟨x2,h2⟩:=m4a _ _ _ t2 w2;obtain⟨x3,h3⟩:=m4a _ _ _ t3 w3;obtain⟨x4,h4⟩:=X7a t4 w4;cases e0;cases e1;exact⟨⟨m0,m1,x2,x3,x4⟩,⟨_,_,_,_,_,_,_,_,_,Z,h2,h3,h4⟩,X6b s0 w0,X6b s1 w1⟩
theorem R1c:1≤prog.bytesOf 81:=of_decide_eq_true (by kernel_rfl)
theorem y0b{fuel:Nat}{v:Value}{x:DataW H×List MemPlace}(h:DataW.trod enc prog W base sp held fuel 23 [v]=some x)(hw:f3a prog 23 x.1):∃l,X2d [] W v l∧∀c∈l,c.name.size≤140737488355328∧c.owner.size≤140737488355328:=by
 obtain⟨l,hl⟩:=K2a Tryz.underlying23 a3a R1c (fun n cs y _ _ hy hl=>V2b hy hl) h hw;exact⟨l,hl.mono (fun _ _ h=>h.1),z6b hl (fun _ _ h=>h.2)⟩
theorem n4a:prog.cellsOf 103=6:=by kernel_rfl
theorem P9b{fuel:Nat}{cs:List Value}{x:DataW H×List MemPlace}(h:DataW.trod enc prog W base sp held fuel 103 cs=some x)(hw:f3a prog 103 x.1):∃c,z4a [] W cs c:=by
 obtain⟨_,_,_,hx,hl,b0,a0⟩:=DataW.trod_struct Tryz.underlying103 h;rw[hx] at hw;rw[n4a] at hl;obtain⟨_,t0,-⟩:=J0a 0 3 0 b0 a0 Tryz.underlying103 hw Z;obtain⟨_,t1,w1⟩:=J0a 1 37 1 b0 a0 Tryz.underlying103 hw Z;obtain⟨_,t2,-⟩:=J0a 2 3 5 b0 a0 Tryz.underlying103 hw Z;simp only[g1b,K1a] at t0 t1 t2;obtain⟨_,_,_,_,_,_,rfl⟩:=Y2d hl;simp only[List.drop_succ_cons,List.drop_zero,List.take_succ_cons,List.take_zero] at t0 t1 t2;obtain⟨m0,e0,-,f0⟩:=DataW.trod_int Tryz.underlying3 t0;obtain⟨x1,h1⟩:=m4a _ _ _ t1 w1;obtain⟨m2,e2,-,f2⟩:=DataW.trod_int Tryz.underlying3 t2;cases e0;cases e2;exact⟨⟨m0,x1,m2⟩,_,_,_,_,Z,e3a f0,e3a f2,h1⟩
theorem J2d:1≤prog.bytesOf 103:=of_decide_eq_true (by kernel_rfl)
theorem z8b{fuel:Nat}{v:Value}{x:DataW H×List MemPlace}(h:DataW.trod enc prog W base sp held fuel 24 [v]=some x)(hw:f3a prog 24 x.1):∃l,r3d [] W v l :=
 K2a Tryz.underlying24 n4a J2d (fun n cs y _ _ hy hl=>P9b hy hl) h hw
theorem g5b:prog.cellsOf 22=1:=by kernel_rfl
theorem f0b:prog.cellsOf 23=1:=by kernel_rfl
theorem E5b:prog.cellsOf 24=1:=by kernel_rfl
theorem E1b:prog.cellsOf 25=1:=by kernel_rfl
theorem q5a:prog.cellsOf 27=4:=by kernel_rfl
theorem y3b{fuel:Nat}{cs:List Value}{x:DataW H×List MemPlace}(h:DataW.trod enc prog W base sp held fuel 27 cs=some x)(hw:f3a prog 27 x.1):∃c,R0a [] W c cs∧T8a c:=by
 obtain⟨_,_,_,hx,hl,b0,a0⟩:=DataW.trod_struct Tryz.underlying27 h;rw[hx] at hw;rw[q5a] at hl;obtain⟨_,t0,w0⟩:=J0a 0 22 0 b0 a0 Tryz.underlying27 hw Z;obtain⟨_,t1,w1⟩:=J0a 1 23 1 b0 a0 Tryz.underlying27 hw Z;obtain⟨_,t2,w2⟩:=J0a 2 24 2 b0 a0 Tryz.underlying27 hw Z;obtain⟨_,t3,w3⟩:=J0a 3 25 3 b0 a0 Tryz.underlying27 hw Z;simp only[g5b,f0b,E5b,E1b] at t0 t1 t2 t3;obtain⟨_,_,_,_,rfl⟩:=E3d hl;simp only[List.drop_succ_cons,List.drop_zero,List.take_succ_cons,List.take_zero] at t0 t1 t2 t3;obtain⟨x0,h0⟩:=M8b t0 w0;obtain⟨x1,h1⟩:=y0b t1 w1;obtain⟨x2,h2⟩:=z8b t2 w2;obtain⟨x3,h3⟩:=R3b t3 w3;exact⟨⟨x0,x1,x2,x3⟩,⟨_,_,_,_,Z,h0.1,h1.1,h2,h3.1⟩,⟨h0.2,h1.2,h3.2⟩⟩
theorem F5b{W:World}:∀{l:List (String×DataW Unit)} {ps:List MemPlace},DataW.LaidVars prog W l ps→∀{i:Nat} {x:String×DataW Unit},l[i]?=some x →
 ∃g t cs fuel p,prog.globalNamed x.1=some g∧(prog.globals[g]?).map (·.type)=some t∧W.var? prog x.1=some cs∧DataW.trod (fun _=>()) prog W 0 (fun _=>true) false fuel t cs.toList=some (x.2,p)
 | [],_,_,_,_,hi=>by simp at hi
 | y::l,ps,h,0,x,hi=>by
   obtain⟨g0,t0,a0,f0,p0,q0,c0,d0,e0,b0,-⟩:=h;cases hi;exact⟨g0,t0,a0,f0,p0,c0,d0,e0,b0⟩
 | y::l,ps,h,i+1,x,hi=>by
   obtain⟨g0,t0,a0,f0,p0,q0,c0,d0,e0,b0,hr,-⟩:=h;exact F5b hr (by simpa using hi)
theorem D1d:prog.globalNamed ((Rows.interfereMatchesReferenceRow.laid[3]?.map (·.1)).getD "")=some 1:=by kernel_rfl
theorem T1d:(prog.globals[1]?).map (·.type)=some 196:=by kernel_rfl
theorem t2d:prog.cellsOf 196=9:=by kernel_rfl
theorem c2b{W:World}(h:laidMetH prog Rows.interfereMatchesReferenceRow.laid W):i2a [] W:=by
 rw[MakeChecks.laidMetH_plain _ _ _ (by kernel_rfl)] at h;obtain⟨_,d0,-⟩:=h;obtain⟨_,_,c0,_,_,g0,n0,o0,m0⟩:=F5b d0 (i:=3) Z;obtain rfl:=Option.some.inj (D1d.symm.trans g0);obtain rfl:=Option.some.inj (T1d.symm.trans n0);obtain⟨xs,_,rfl,b0,e0,_,f0⟩:=DataW.trod_array Tryz.underlying196 m0;rw[t2d] at e0;simp only[c3,Nat.mul_one] at f0;refine⟨by simp,fun i hi=>?_⟩;have a0:=World.var?_cell g0 o0 i;have i0:i<xs.length:=by omega
 have he:=f0 i (by omega);rw[List.getElem?_eq_getElem i0] at he;obtain⟨k,e1,e2,-⟩:=DataW.trod_int Tryz.underlying3 he;have p0:i<c0.toList.length:=by omega
 have j0:c0.toList[i]?=some (.int .i64 k):=by
  have h1:((c0.toList.drop i).take 1)[0]?=some (Value.int .i64 k):=by rw[e1];rfl
  rw[List.getElem?_take,if_pos (by omega),List.getElem?_drop] at h1;simpa using h1
 rw[a0];have e3:c0[i]?=some (.int .i64 k):=by simpa using j0
 rw[e3];have b0:(DataW.agg _=DataW.agg _∧_):=Prod.mk.inj b0;have b0:=DataW.agg.inj b0.1;have e4:(xs.map (·.1))[i]?=some (.lit (.int .i64 k)):=by rw[List.getElem?_map,List.getElem?_eq_getElem i0,e2];rfl
 rw[←b0] at e4;rcases(show i=0∨i=1∨i=2∨i=3∨i=4∨i=5∨i=6∨i=7∨i=8 by omega) with rfl|rfl|rfl|rfl|rfl|rfl|rfl|rfl|rfl<;>(cases e4;rfl)
end
theorem own:ownKnob prog.godebug=none:=by kernel_rfl
theorem X6c:laidOutB prog=true:=by kernel_rfl
abbrev r7a:List (String×DataW Unit):=Rows.interfereMatchesReferenceRow.laid
theorem K4c(os:Os)(args:Array Value):laidMetH prog r7a ((World.doorLaid prog 400 os).forCall (fun _ _=>0) ⟨#[],args,[]⟩).memory :=
 laidMetH_of_parts3 (fuel:=8) (laidMet_of_run' 8 (by kernel_rfl) (by kernel_rfl)) (by kernel_rfl) (by kernel_rfl)
theorem p2c{H:Type}{enc:TypeId×Value→H}{W W':World}(hb:Below W.heap.size W W'):∀(ts:List TypeId),(∀t∈ts,prog.readableRec t=true∧t<prog.types.size)→∀(vs:List Value) (ds:List (DataW H)) (p:List MemPlace),
 (∀x∈p,x.block<W.heap.size)→DataW.TrodAll enc prog W 0 (fun _=>true) true ts vs ds p→DataW.TrodAll enc prog W' 0 (fun b=>decide (b<W.heap.size)) true ts vs ds p:=by
 intro ts
 induction ts with
 | nil =>
   intro _ vs ds p _ h;cases vs<;>cases ds<;>exact h
 | cons t ts ih =>
   intro ht vs ds p hp h;cases vs with
   | nil=>exact h.elim
   | cons v vs =>
     cases ds with
     | nil=>exact h.elim
     | cons d ds =>
       obtain⟨q,r,h1,h2,rfl⟩:=h;obtain⟨r1,r2⟩:=ht t (by simp);exact⟨q,r,Below.trod X6c r1 r2 h1 hb (fun x hx=>hp x (List.mem_append_left _ hx)),ih (fun t a0=>ht t (by simp[a0])) vs ds r (fun x hx=>hp x (List.mem_append_right _ hx)) h2,Z⟩
theorem Y1c{H:Type}{enc:TypeId×Value→H}{fn:Func}{s:ChangeSpec}{W W':World}{args:Array Value}{ds:List (DataW H)}{a0:List MemPlace}(hs:s.vars=[])(hr:fn.resultTypes=#[4])
 (d0:∀t∈fn.params.toList,prog.readableRec t=true∧t<prog.types.size) (hW:DataW.Whole enc prog fn.params.toList s.vars false W args.toList ds [] a0)
 (e1:(s.fn H (ds++[])).results=[.lit (.bool true)]) (e2:(s.fn H (ds++[])).args=ds) (e3:(s.fn H (ds++[])).vars=[]) (hb:Below W.heap.size W W') :
 s.post enc prog fn false true false false W args (.bool true) W':=by
 have c0:=hW.lt;obtain⟨_,_,hA,hV,b0,_⟩:=id hW;rw[hs] at hV;obtain⟨-,rfl⟩:=trodVars_none hV;rw[List.append_nil] at b0;subst b0;refine⟨ds,[],a0,[],a0,[],hW,?_,?_,?_,hb.frame _,fun h=>by cases h⟩
 ·rw[e1,hr];exact trodAll_mk1 (shut_bool Tryz.underlying4 true)
 ·rw[e2];exact p2c hb _ d0 _ _ _ c0 hA
 ·rw[e3,hs];rfl
theorem A3c{H:Type}{ts:List TypeId}{ds:List (DataW H)}(h:(DataW.weightsEach prog ts ds).all (·≤reachBytes)=true){j:Nat}{t:TypeId}{d:DataW H}(ht:ts[j]?=some t)(hd:ds[j]?=some d):f3a prog t d:=fun m hm=>by
 have:=List.all_eq_true.1 h m (DataW.weights_mem_each ht hd m hm);simpa using this
theorem H1b{f:FuncId}{args:Array Value}{W:World}{R:Value→World→Prop}{Q:Ending→World→Prop}(h:E0a prog f args W R)(hQ:∀v W',R v W'→Q (.returned v) W'):Calls prog f args W Q :=
 Calls.mono h fun _ _ ⟨v,he,hv⟩=>he▸hQ v _ hv
abbrev w0c:=Nat→Option (FuncId×Array Value×(Value→Prop)×(Value→World→Prop))
section
variable {P:Program} {r:Option Nat} {N:Nat} {l:List Oper} {D:List Deferred} {C:World→Prop} {V:w0c} {K:Env→World→Prop}
def FL(P:Program)(N:Nat)(l:List Oper)(C:World→Prop)(V:w0c)(K:Env→World→Prop)(lo:Nat):List Nat→Env→List Nat→(World→Prop)→Prop
 | [],e,_,Φ=>∀w,C w→Φ w→K e w
 | i::rest,e,gs,Φ=>∃o d,l[i]?=some o∧o.dst=some d∧d<N ∧
  ((∃v,PV P l C o e v∧FL P N l C V K lo rest (upd e d v) gs Φ) ∨
   (∃(mk:Nat→Value) (t:TypeId) (cs:List Value),Z0a l.toArray e o=true ∧
     (∀w,C w→∃w',(execOp (ev e) o).run P w=.ok (.value (mk w.heap.size)) w'∧C w'∧u0a [] w w'∧w'.heap.size=w.heap.size+1∧m0a w' (w.heap.size,t,cs)) ∧
     ∀g,lo≤g→g∉gs→FL P N l C V K lo rest (upd e d (mk g)) (g::gs) (fun w=>Φ w∧m0a w (g,t,cs))) ∨
   (∃f args Qp Qw,V i=some (f,args,Qp,Qw)∧Z0a l.toArray e o=true∧(∀w,C w→(execOp (ev e) o).run P w=.ok (.enter f args) w)∧∀u,Qp u→FL P N l C V K lo rest (upd e d u) gs (fun w=>Φ w∧Qw u w)))
theorem FL.mono{lo b0:Nat}:∀(R:List Nat) (e:Env) (gs a0:List Nat) (Φ Φ':World→Prop),(∀g,b0≤g→g∉a0→lo≤g∧g∉gs)→(∀w,Φ' w→Φ w)→FL P N l C V K lo R e gs Φ→FL P N l C V K b0 R e a0 Φ'
 | [],e,gs,a0,Φ,Φ',_,hΦ,h=>fun w hC hw=>h w hC (hΦ w hw)
 | i::R,e,gs,a0,Φ,Φ',hg,hΦ,h=>by
   obtain⟨o,d,h1,h2,h3,h4⟩:=h;refine⟨o,d,h1,h2,h3,?_⟩;rcases h4 with⟨v,h5,h6⟩|⟨mk,t,cs,h5,h6,h7⟩|⟨f,args,Qp,Qw,h5,h6,h7,h8⟩
   ·exact .inl ⟨v,h5,FL.mono R _ gs a0 Φ Φ' hg hΦ h6⟩
   rotate_left
   ·exact .inr (.inr ⟨f,args,Qp,Qw,h5,h6,h7,fun u hu=>FL.mono R _ gs a0 _ _ hg (fun w hw=>⟨hΦ w hw.1,hw.2⟩) (h8 u hu)⟩)
   ·refine .inr (.inl ⟨mk,t,cs,h5,h6,fun g h8 h9=>?_⟩);refine FL.mono R _ (g::gs) (g::a0) _ _ (fun x hx hn=>?_) (fun w hw=>⟨hΦ w hw.1,hw.2⟩) (h7 g (hg g h8 h9).1 (hg g h8 h9).2);simp only[List.mem_cons,not_or] at hn ⊢;exact⟨(hg x hx hn.2).1,hn.1,(hg x hx hn.2).2⟩
def V3d:Result Next→Nat
 | .ok _ w=>w.heap.size
 | _=>0
def szE(P:Program)(l:List Oper)(o:Oper)(e:Env)(w:World):Nat:=bif Z0a l.toArray e o then V3d ((execOp (ev e) o).run P w) else 0
theorem z9a{o:Oper}{e e':Env}{w:World}(hs:Op.isSelect o.op=false)(h:∀s∈Oper.looksAt l.toArray o,e s=e' s):szE P l o e w=szE P l o e' w:=by
 unfold szE;rw[K0a h,e1a hs h]
theorem E3b(a b:Nat)(gs:List Nat):∃g,a≤g∧b≤g∧g∉gs:=by
 have:∀gs:List Nat,∃m,∀g∈gs,g<m:=by
  intro gs
  induction gs with
  | nil=>exact⟨0,by simp⟩
  | cons x gs ih =>
    obtain⟨m,hm⟩:=ih;refine⟨max m (x+1),fun g hg=>?_⟩;rcases List.mem_cons.1 hg with rfl|h
    ·omega
    ·have:=hm g h;omega
 obtain⟨m,hm⟩:=this gs;exact⟨max m (max a b),by omega,by omega,fun h=>by have:=hm _ h;omega⟩
def T2a(P:Program)(N:Nat)(l:List Oper)(C:World→Prop)(V:w0c)(K:Env→World→Prop)(lo:Nat)(R:List Nat)(i:Nat)(o:Oper)(d:Nat)(e:Env)(gs:List Nat)(Φ:World→Prop)(w:World):Prop :=
 (Z0a l.toArray e o=true∧∃v w',(execOp (ev e) o).run P w=.ok (.value v) w'∧C w'∧u0a [] w w'∧FL P N l C V K w'.heap.size R (upd e d v) gs (fun w1=>Φ w1∧u0a [] w' w1)) ∨
 (Z0a l.toArray e o=false∧FL P N l C V K lo R (upd e d undef) gs Φ) ∨
 (Z0a l.toArray e o=true∧∃f args Qp Qw,V i=some (f,args,Qp,Qw)∧(execOp (ev e) o).run P w=.ok (.enter f args) w∧∀u w',Qp u→Qw u w'→C w'→u0a [] w w'→FL P N l C V K w'.heap.size R (upd e d u) gs (fun w1=>(Φ w1∧Qw u w1)∧u0a [] w' w1))
theorem FL.first(c0:X2a l=true)(R0:∀i f args Qp Qw,V i=some (f,args,Qp,Qw)→∃u,Qp u){i:Nat}{i0:List Nat}{lo:Nat}{w:World}(hC:C w)(T0:lo≤w.heap.size):∀(m0:List Nat) (e:Env) (gs:List Nat) (Φ:World→Prop),(∀j∈m0,M7a l (fun _=>true) j i=true) →
 (∀o,l[i]?=some o→∀g∈gs,szE P l o e w≤g)→FL P N l C V K lo (m0++i::i0) e gs Φ →
 ∃o d,l[i]?=some o∧o.dst=some d∧d<N∧T2a P N l C V K lo (m0++i0) i o d e gs Φ w:=by
 intro m0
 induction m0 with
 | nil =>
   intro e gs Φ _ C0 h;obtain⟨o,d,ho,hd,hN,h⟩:=h;refine⟨o,d,ho,hd,hN,?_⟩;rcases h with⟨v,⟨h1,h2⟩|⟨h1,rfl⟩,h3⟩|⟨mk,t,cs,h1,h2,h3⟩|⟨f,args,Qp,Qw,h1,h2,h3,h4⟩
   rotate_right
   ·exact .inr (.inr ⟨h2,f,args,Qp,Qw,h1,h3 w hC,fun u w' hu _ _ hk=>FL.mono _ _ gs gs _ _ (fun g hg hn=>⟨by have:=hk.size;omega,hn⟩) (fun _ hw=>hw.1) (h4 u hu)⟩)
   ·exact .inl ⟨h1,v,w,h2 w hC,hC,u0a.refl _ _,FL.mono _ _ gs gs Φ _ (fun g hg hn=>⟨by omega,hn⟩) (fun _ hw=>hw.1) h3⟩
   ·exact .inr (.inl ⟨h1,h3⟩)
   ·obtain⟨w',h4,h5,h6,h7,h8⟩:=h2 w hC;refine .inl ⟨h1,_,w',h4,h5,h6,?_⟩;have hs:=C0 o ho;unfold szE at hs;rw[h1,h4] at hs;refine FL.mono _ _ (w.heap.size::gs) gs _ _ (fun g hg hn=>?_) (fun w1 hw=>⟨hw.1,W0a hw.2 h8⟩) (h3 w.heap.size T0 (fun hm=>by have:w'.heap.size≤w.heap.size:=hs _ hm;omega));simp only[List.mem_cons,not_or];exact⟨by omega,by omega,hn⟩
 | cons q m0 ih =>
   intro e gs Φ B0 C0 h;obtain⟨p,c,hp,hc,v0,h⟩:=h;have hq:=B0 q (by simp);have p0:∀j∈m0,M7a l (fun _=>true) j i=true:=fun j hj=>B0 j (by simp[hj]);have a0:∀{o:Oper} {d:Nat} (u:Value),l[i]?=some o→o.dst=some d→(∀s∈Oper.looksAt l.toArray o,upd e c u s=e s)∧c≠d∧d∉Oper.looksAt l.toArray p:=fun {o d} u ho hd=>by
    obtain⟨_,j0,q0,S0⟩:=o8a hq hp ho hc hd;exact⟨fun s hs=>g1a S0 hs,j0,q0⟩
   rcases h with⟨u,hu,h⟩|⟨mk,t,cs,h1,h2,h3⟩|⟨f,args,Qp,Qw,hV,X0,hu,h⟩
   rotate_right
   ·obtain⟨u0,W0⟩:=R0 _ _ _ _ _ hV;have key:∀u,Qp u→∃o d,l[i]?=some o∧o.dst=some d∧d<N∧T2a P N l C V K lo (m0++i0) i o d (upd e c u) gs (fun w=>Φ w∧Qw u w) w:=fun u hu=>ih (upd e c u) gs _ p0 (fun o ho g hg=>by
     cases hd:o.dst with
     | none =>
       exfalso;unfold M7a at hq;simp[hp,ho,hc,hd] at hq
     | some d=>rw[z9a (t0a c0 ho).1 (a0 u ho hd).1];exact C0 o ho g hg) (h u hu)
    obtain⟨o,d,ho,hd,hN,t0⟩:=key u0 W0;have f0:∀u,Qp u→T2a P N l C V K lo (m0++i0) i o d (upd e c u) gs (fun w=>Φ w∧Qw u w) w:=fun u hu=>by
     obtain⟨o',d',n0,G0,_,hF⟩:=key u hu;obtain rfl:o'=o:=Option.some.inj (n0.symm.trans ho);obtain rfl:d'=d:=Option.some.inj (G0.symm.trans hd);exact hF
    have j0:=(a0 .nilFunc ho hd).2.1;have q0:=(a0 .nilFunc ho hd).2.2;have ha:∀u,∀s∈Oper.looksAt l.toArray o,upd e c u s=e s:=fun u=>(a0 u ho hd).1;refine⟨o,d,ho,hd,hN,?_⟩;have r0:∀v,∀s∈Oper.looksAt l.toArray p,upd e d v s=e s:=fun v s hs=>g1a q0 hs;unfold T2a at t0 ⊢;rw[K0a (ha _),e1a (t0a c0 ho).1 (ha _)] at t0;have o0:∀v,∀K0 Φ',(∀u,Qp u→FL P N l C V K K0 (m0++i0) (upd (upd e d v) c u) gs (fun w=>Φ' w∧Qw u w))→FL P N l C V K K0 (q::(m0++i0)) (upd e d v) gs Φ':=fun v K0 Φ' h9 =>
     ⟨p,c,hp,hc,v0,.inr (.inr ⟨f,args,Qp,Qw,hV,by rw[K0a (r0 v)];exact X0,by rw[e1a (t0a c0 hp).1 (r0 v)];exact hu,h9⟩)⟩
    rcases t0 with⟨hw,v,w',h4,h5,h6,-⟩|⟨hw,-⟩|⟨hw,f',s0,N0,O0,z0,h4,-⟩
    ·refine .inl ⟨hw,v,w',h4,h5,h6,o0 v _ _ fun u hu=>?_⟩;have hF:=f0 u hu;unfold T2a at hF;rw[K0a (ha _),e1a (t0a c0 ho).1 (ha _)] at hF;rcases hF with⟨_,v',L0,d0,_,_,h7⟩|⟨b0,_⟩|⟨_,_,_,_,_,_,d0,_⟩
     ·rw[h4] at d0;cases d0;rw[←e2a _ _ _ j0];exact FL.mono _ _ gs gs _ _ (fun x hx hn=>⟨hx,hn⟩) (fun w1 e0=>⟨⟨e0.1.1,e0.2⟩,e0.1.2⟩) h7
     ·rw[hw] at b0;cases b0
     ·rw[h4] at d0;cases d0
    ·refine .inr (.inl ⟨hw,o0 _ _ _ fun u hu=>?_⟩);have hF:=f0 u hu;unfold T2a at hF;rw[K0a (ha _),e1a (t0a c0 ho).1 (ha _)] at hF;rcases hF with⟨b0,_⟩|⟨_,h7⟩|⟨b0,_⟩
     ·rw[hw] at b0;cases b0
     ·rw[←e2a _ _ _ j0];exact h7
     ·rw[hw] at b0;cases b0
    ·refine .inr (.inr ⟨hw,f',s0,N0,O0,z0,h4,fun u' w' V0 U0 y0 x0=>o0 u' _ _ fun u hu=>?_⟩);have hF:=f0 u hu;unfold T2a at hF;rw[K0a (ha _),e1a (t0a c0 ho).1 (ha _)] at hF;rcases hF with⟨_,v',L0,d0,_⟩|⟨b0,_⟩|⟨_,Y0,E0,P0,Q0,A0,_,h7⟩
     ·rw[h4] at d0;cases d0
     ·rw[hw] at b0;cases b0
     ·rw[z0] at A0;cases A0;rw[←e2a _ _ _ j0];exact FL.mono _ _ gs gs _ _ (fun x hx hn=>⟨hx,hn⟩) (fun w1 e0=>⟨⟨⟨e0.1.1.1,e0.2⟩,e0.1.1.2⟩,e0.1.2⟩) (h7 u' w' V0 U0 y0 x0)
   ·obtain⟨o,d,ho,hd,hN,hF⟩:=ih (upd e c u) gs Φ p0 (fun o ho g hg=>by
     cases hd:o.dst with
     | none =>
       exfalso;unfold M7a at hq;simp[hp,ho,hc,hd] at hq
     | some d=>rw[z9a (t0a c0 ho).1 (a0 u ho hd).1];exact C0 o ho g hg) h
    obtain⟨ha,j0,q0⟩:=a0 u ho hd;refine⟨o,d,ho,hd,hN,?_⟩;unfold T2a at hF ⊢;rw[K0a ha,e1a (t0a c0 ho).1 ha] at hF;rcases hF with⟨hw,v,w',h4,h5,h6,h7⟩|⟨hw,h7⟩|⟨hw,f,args,Qp,Qw,hV,h4,h7⟩
    rotate_right
    ·refine .inr (.inr ⟨hw,f,args,Qp,Qw,hV,h4,fun x w' hx J0 y0 x0=>⟨p,c,hp,hc,v0,.inl ⟨u,hu.congr (t0a c0 hp).1 (fun s hs=>(g1a q0 hs).symm),?_⟩⟩⟩);rw[←e2a _ _ _ j0];exact h7 x w' hx J0 y0 x0
    ·refine .inl ⟨hw,v,w',h4,h5,h6,p,c,hp,hc,v0,.inl ⟨u,hu.congr (t0a c0 hp).1 (fun s hs=>(g1a q0 hs).symm),?_⟩⟩;rw[←e2a _ _ _ j0];exact h7
    ·refine .inr (.inl ⟨hw,p,c,hp,hc,v0,.inl ⟨u,hu.congr (t0a c0 hp).1 (fun s hs=>(g1a q0 hs).symm),?_⟩⟩);rw[←e2a _ _ _ j0];exact h7
   ·have key:∀g,lo≤g→g∉gs→(∀o,l[i]?=some o→szE P l o e w≤g)→∃o d,l[i]?=some o∧o.dst=some d∧d<N∧T2a P N l C V K lo (m0++i0) i o d (upd e c (mk g)) (g::gs) (fun w=>Φ w∧m0a w (g,t,cs)) w:=fun g hg hn hs=>by
     refine ih (upd e c (mk g)) (g::gs) _ p0 (fun o ho x hx=>?_) (h3 g hg hn);cases hd:o.dst with
     | none =>
       exfalso;unfold M7a at hq;simp[hp,ho,hc,hd] at hq
     | some d =>
       rw[z9a (t0a c0 ho).1 (a0 (mk g) ho hd).1];rcases List.mem_cons.1 hx with rfl|hx
       ·exact hs o ho
       ·exact C0 o ho x hx
    have h4:∃o d,l[i]?=some o∧o.dst=some d∧d<N:=by
     cases ho:l[i]? with
     | none=>unfold M7a at hq;simp[ho] at hq
     | some o =>
       obtain⟨g0,H0,F0,I0⟩:=E3b lo (szE P l o e w) gs;obtain⟨o',d,n0,hd,hN,_⟩:=key g0 H0 I0 (fun o' n0=>by rw[ho] at n0;cases n0;exact F0);rw[ho] at n0;cases n0;exact⟨o,d,Z,hd,hN⟩
    obtain⟨o,d,ho,hd,hN⟩:=h4;have f0:∀g,lo≤g→g∉gs→szE P l o e w≤g→T2a P N l C V K lo (m0++i0) i o d (upd e c (mk g)) (g::gs) (fun w=>Φ w∧m0a w (g,t,cs)) w:=fun g hg hn hs=>by
     obtain⟨o',d',n0,G0,_,hF⟩:=key g hg hn (fun o' n0=>by rw[ho] at n0;cases n0;exact hs);obtain rfl:o'=o:=Option.some.inj (n0.symm.trans ho);obtain rfl:d'=d:=Option.some.inj (G0.symm.trans hd);exact hF
    refine⟨o,d,ho,hd,hN,?_⟩;obtain⟨g0,H0,F0,I0⟩:=E3b lo (szE P l o e w) gs;have j0:=(a0 .nilFunc ho hd).2.1;have q0:=(a0 .nilFunc ho hd).2.2;have ha:∀u,∀s∈Oper.looksAt l.toArray o,upd e c u s=e s:=fun u=>(a0 u ho hd).1;have r0:∀v,∀s∈Oper.looksAt l.toArray p,upd e d v s=e s:=fun v s hs=>g1a q0 hs;have t0:=f0 g0 H0 I0 F0;unfold T2a at t0 ⊢;rw[K0a (ha _),e1a (t0a c0 ho).1 (ha _)] at t0;rcases t0 with⟨hw,v,w',h4,h5,h6,-⟩|⟨hw,-⟩|⟨hw,f,args,Qp,Qw,hV,h4,-⟩
    rotate_right
    ·have D0:szE P l o e w=w.heap.size:=by unfold szE;rw[hw,h4];rfl
     refine .inr (.inr ⟨hw,f,args,Qp,Qw,hV,h4,fun x w' hx J0 y0 x0=>⟨p,c,hp,hc,v0,.inr (.inl ⟨mk,t,cs,by rw[K0a (r0 x)];exact h1,by rw[e1a (t0a c0 hp).1 (r0 x)];exact h2,fun g hg hn=>?_⟩)⟩⟩);have Z0:=x0.size;have hF:=f0 g (by omega) hn (by omega);unfold T2a at hF;rw[K0a (ha _),e1a (t0a c0 ho).1 (ha _)] at hF;rcases hF with⟨_,v',L0,d0,_⟩|⟨b0,_⟩|⟨_,f',s0,N0,O0,z0,_,h7⟩
     ·rw[h4] at d0;cases d0
     ·rw[hw] at b0;cases b0
     ·rw[hV] at z0;cases z0;rw[←e2a _ _ _ j0];exact FL.mono _ _ (g::gs) (g::gs) _ _ (fun x hx hn=>⟨hx,hn⟩) (fun w1 e0=>⟨⟨⟨e0.1.1.1,e0.2⟩,e0.1.1.2⟩,e0.1.2⟩) (h7 x w' hx J0 y0 x0)
    ·have D0:szE P l o e w=w'.heap.size:=by unfold szE;rw[hw,h4];rfl
     refine .inl ⟨hw,v,w',h4,h5,h6,p,c,hp,hc,v0,.inr (.inl ⟨mk,t,cs,by rw[K0a (r0 v)];exact h1,by rw[e1a (t0a c0 hp).1 (r0 v)];exact h2,fun g hg hn=>?_⟩)⟩;have hF:=f0 g (by have:=h6.size;omega) hn (by omega);unfold T2a at hF;rw[K0a (ha _),e1a (t0a c0 ho).1 (ha _)] at hF;rcases hF with⟨_,v',L0,d0,_,_,h7⟩|⟨b0,_⟩|⟨_,_,_,_,_,_,d0,_⟩
     rotate_right
     ·rw[h4] at d0;cases d0
     ·rw[h4] at d0;cases d0;rw[←e2a _ _ _ j0];exact FL.mono _ _ (g::gs) (g::gs) _ _ (fun x hx hn=>⟨hx,hn⟩) (fun w1 e0=>⟨⟨e0.1.1,e0.2⟩,e0.1.2⟩) h7
     ·rw[hw] at b0;cases b0
    ·refine .inr (.inl ⟨hw,p,c,hp,hc,v0,.inr (.inl ⟨mk,t,cs,by rw[K0a (r0 _)];exact h1,by rw[e1a (t0a c0 hp).1 (r0 _)];exact h2,fun g hg hn=>?_⟩)⟩);have D0:szE P l o e w=0:=by unfold szE;rw[hw];rfl
     have hF:=f0 g hg hn (by omega);unfold T2a at hF;rw[K0a (ha _),e1a (t0a c0 ho).1 (ha _)] at hF;rcases hF with⟨b0,_⟩|⟨_,h7⟩|⟨b0,_⟩
     rotate_right
     ·rw[hw] at b0;cases b0
     ·rw[hw] at b0;cases b0
     ·rw[←e2a _ _ _ j0];exact h7
variable {lo:Nat} {gs:List Nat} {Φ:World→Prop} {e:Env} {w w0:World} {L:List Ent} {M:List Nat}
theorem N0c(h:∀w,C w→Φ w→K e w):FL P N l C V K lo [] e gs Φ:=h
theorem f9b{i:Nat}{rest:List Nat}{o:Oper}(ho:l[i]?=some o)(hv:R2c o.op=true)(h:QL P N l.toArray C [o] (fun e'=>FL P N l C V K lo rest e' gs Φ) e):FL P N l C V K lo (i::rest) e gs Φ:=by
 unfold QL at h;obtain⟨pa,hl,hq,hk⟩:=h;obtain⟨d,v,h1,h2,h3,h4⟩:=hq 0 o Z;obtain rfl:pa=[(d,v)]:=by
  match pa,hl,h1 with
  | [x],_,h1=>simpa using h1
 refine⟨o,d,ho,h2,h3,.inl ⟨v,?_,hk⟩⟩;rcases h4 with⟨h5,h6⟩|h5
 ·refine .inl ⟨h5,fun w hw=>?_⟩;rcases h6 w hw with h7|⟨f,args,h7,_⟩
  ·exact h7
  ·obtain⟨_,hv'⟩:=y6a hv h7;cases hv'
 ·exact .inr h5
theorem W1d{i d t:Nat}{rest:List Nat}{o:Oper}{mk:Nat→Value}{cs:List Value}(ho:l[i]?=some o)(hd:o.dst=some d)(hN:Nat.ble (d+1) N=true)(hw:Z0a l.toArray e o=true)
 (a0:∀w1,Cl M w0 w L w1→(execOp (ev e) o).run P w1=.ok (.value (mk w1.heap.size)) (w1.alloc (.cells cs.toArray t (0,0))))
 (h:∀g,lo≤g→g∉gs→FL P N l (Cl M w0 w L) V K lo rest (upd e d (mk g)) (g::gs) (fun w=>Φ w∧m0a w (g,t,cs))):FL P N l (Cl M w0 w L) V K lo (i::rest) e gs Φ :=
 ⟨o,d,ho,hd,Nat.le_of_ble_eq_true hN,.inr (.inl ⟨mk,t,cs,hw,fun w1 hC=>⟨_,a0 w1 hC,Cl.alloc _ _ hC,B1a _ _ _,by simp,by unfold m0a;show(w1.heap.push _)[w1.heap.size]?=_;simp⟩,h⟩)⟩
theorem o7b{i d el:Nat}{t:TypeId}{p:String}{af:Array Edge}{gd:Option (Nat×Bool)}{z:Value}{cs:List Value}{rest:List Nat}
 (ho:l[i]?=some ⟨some d,.alloc el,t,p,af,gd⟩) (hN:Nat.ble (d+1) N=true) (hw:Z0a l.toArray e ⟨some d,.alloc el,t,p,af,gd⟩=true) (hz:∀w,(zeroValue el).run P w=.ok z w) (a0:z.cells.toList=cs)
 (h:∀g,lo≤g→g∉gs→FL P N l (Cl M w0 w L) V K lo rest (upd e d (.pointer (some ⟨g,0,none⟩))) (g::gs) (fun w=>Φ w∧m0a w (g,el,cs))):FL P N l (Cl M w0 w L) V K lo (i::rest) e gs Φ:=by
 refine W1d (mk:=fun g=>.pointer (some ⟨g,0,none⟩)) ho Z hN hw (fun w1 _=>?_) h;subst a0;simp[execOp,Instr.alloc,newVar,newRow,hz]
theorem r7b{i d:Nat}{rest:List Nat}{t:TypeId}{p:String}{af:Array Edge}{args:Array Operand}{at_:Array TypeId}{g:Operand}{caps:Array Value}{f:FuncId}{vs:List Value}{Qp:Value→Prop}{Qw:Value→World→Prop}(hH:Has P f)
 (ho:l[i]?=some ⟨some d,.call { callee:=.value g,args:=args,argTypes:=at_ },t,p,af,none⟩) (hN:Nat.ble (d+1) N=true)
 (hw:Z0a l.toArray e ⟨some d,.call { callee:=.value g,args:=args,argTypes:=at_ },t,p,af,none⟩=true) (hg:ev e g=.func (.func f) #[] caps) (a0:args.toList.map (ev e)++caps.toList=vs) (hV:V i=some (f,vs.toArray,Qp,Qw))
 (h:∀u,Qp u→FL P N l C V K lo rest (upd e d u) gs (fun w=>Φ w∧Qw u w)):FL P N l C V K lo (i::rest) e gs Φ:=by
 refine⟨_,d,ho,Z,Nat.le_of_ble_eq_true hN,.inr (.inr ⟨f,vs.toArray,Qp,Qw,hV,hw,fun w1 _=>?_,h⟩)⟩;subst a0;have:(args.map (ev e)++caps)=(args.toList.map (ev e)++caps.toList).toArray:=by apply Array.ext';simp
 simp[execOp,resolve,Deferred.ofValue,invoke,hg,hH _ w1,this]
def eqQ(v:Value):Value→Prop:=fun u=>u=v
def noQ:Value→World→Prop:=fun _ _=>True
theorem K5b{i d:Nat}{rest:List Nat}{t:TypeId}{p:String}{af:Array Edge}{args:Array Operand}{at_:Array TypeId}{f:FuncId}{vs:List Value}{v:Value}(hH:Has P f)
 (ho:l[i]?=some ⟨some d,.call { callee:=.value (.func f),args:=args,argTypes:=at_ },t,p,af,none⟩) (hN:Nat.ble (d+1) N=true)
 (hw:Z0a l.toArray e ⟨some d,.call { callee:=.value (.func f),args:=args,argTypes:=at_ },t,p,af,none⟩=true) (a0:args.toList.map (ev e)=vs) (hV:V i=some (f,vs.toArray,eqQ v,noQ))
 (h:FL P N l C V K lo rest (upd e d v) gs Φ):FL P N l C V K lo (i::rest) e gs Φ :=
 r7b (caps:=#[]) hH ho hN hw Z (by simpa using a0) hV fun u hu=>by
  cases hu;exact FL.mono _ _ gs gs _ _ (fun x hx hn=>⟨hx,hn⟩) (fun w1 b0=>b0.1) h
end
section
variable {α:Type}
def e6c(l:List α)(z:α)(k:Nat):List α:=l.take k++List.replicate (l.length-k) z
@[simp] theorem j3c(l:List α)(z:α)(k:Nat):(e6c l z k).length=l.length:=by
 unfold e6c;simp;omega
end
theorem c5b{α:Type}{M:List Nat}{w:World}{size:Nat}{R:List Value→α→Prop}:RdS M w size R (.slice none 0 0) []:=⟨none,0,0,Z,Z,Nat.le_refl _,by unfold maxLen;omega,by omega,fun h=>absurd h (by omega)⟩
@[simp] theorem L2c(p:o0a):(S0b p).mem.length=p.cells.length:=by simp[S0b]
@[simp] theorem Q3c(p:o0a):(S0b p).at_.length=p.threads.length:=by simp[S0b]
theorem G8b{size:Nat}:∀(css:List (List Value)) (i:Nat) (c:List Value),(∀x∈css,x.length=size)→css[i]?=some c→∀(j:Nat) (u:Value),c[j]?=some u→css.flatten[i*size+j]?=some u:=by
 intro css
 induction css with
 | nil=>intro i c _ h;simp at h
 | cons x xs ih =>
   intro i c h4 hi j u hj;have hx:=h4 x (by simp);cases i with
   | zero =>
     simp at hi;subst hi;have a0:j<x.length:=(List.getElem?_eq_some_iff.1 hj).1;rw[List.flatten_cons,Nat.zero_mul,Nat.zero_add,List.getElem?_append_left a0];exact hj
   | succ i =>
     have:=ih i c (fun y hy=>h4 y (by simp[hy])) (by simpa using hi) j u hj;have e:(i+1)*size+j=x.length+(i*size+j):=by rw[hx,Nat.add_mul];omega
     rw[List.flatten_cons,e,List.getElem?_append_right (by omega)];rw[show x.length+(i*size+j)-x.length=i*size+j by omega];exact this
theorem j4a{size:Nat}(css:List (List Value))(h4:∀x∈css,x.length=size):css.flatten.length=css.length*size:=by
 induction css with
 | nil=>simp
 | cons x xs ih=>rw[List.flatten_cons,List.length_append,ih (fun y hy=>h4 y (by simp[hy])),h4 x (by simp),List.length_cons,Nat.add_mul];omega
structure N6a {α:Type} (R:List Nat→World→List Value→α→Prop) (size:Nat):Prop where
 len:∀{M w cs x},R M w cs x→cs.length=size
 one:∀{M w cs x},R M w cs x→∀u∈cs,u.oneCell'=true
 keep:∀{M w w' cs x},u0a M w w'→R M w cs x→R M w' cs x
 more:∀{M M' w cs x},(∀g∈M',g∈M∨w.heap.size≤g)→R M w cs x→R M' w cs x
section
variable {α:Type} {R:List Nat→World→List Value→α→Prop} {size:Nat}
def Q1a(R:List Nat→World→List Value→α→Prop)(size:Nat)(M:List Nat)(w:World)(G:Option Nat)(cs:List Value)(v:Value)(l:List α):Prop :=
 ∃css:List (List Value),css.length=l.length∧(∀x∈css,x.length=size)∧t4a G size l.length cs v css.flatten∧∀(i:Nat) (x:α),l[i]?=some x→∃c,css[i]?=some c∧R (G.toList++M) w c x
theorem Q1a.keep(hL:N6a R size){M:List Nat}{w w':World}{G:Option Nat}{cs:List Value}{v:Value}{l:List α}(h:Q1a R size M w G cs v l)(hk:u0a (G.toList++M) w w'):Q1a R size M w' G cs v l:=by
 obtain⟨css,h1,h2,h3,h4⟩:=h;refine⟨css,h1,h2,h3,fun i x hi=>?_⟩;obtain⟨c,h5,h6⟩:=h4 i x hi;exact⟨c,h5,hL.keep hk h6⟩
theorem Q1a.nil{M:List Nat}{w:World}:Q1a R size M w none [] (.slice none 0 0) []:=⟨[],Z,by simp,t4a.nil size,fun i x hi=>by simp at hi⟩
theorem Q1a.new{M:List Nat}{w:World}{g:Nat}:Q1a R size M w (some g) [] (.slice (some ⟨g,0,none⟩) 0 0) [] :=
 ⟨[],Z,by simp,⟨by simp,.inr ⟨g,0,Z,Z,Nat.le_refl _,by unfold maxLen;omega,by simp,by simp⟩⟩,fun i x hi=>by simp at hi⟩
theorem Q1a.form{M:List Nat}{w:World}{G:Option Nat}{cs:List Value}{v:Value}{l:List α}(h:Q1a R size M w G cs v l):∃A c,v=.slice A l.length c:=by
 obtain⟨_,_,_,⟨_,hr⟩,_⟩:=h;rcases hr with⟨_,rfl,h0⟩|⟨g,a0,_,rfl,_⟩
 ·exact⟨_,_,by rw[h0]⟩
 ·exact⟨_,_,Z⟩
theorem Q1a.rd(hL:N6a R size){M M':List Nat}{w0 w:World}{L:List Ent}{k el:Nat}{G:Option Nat}{cs:List Value}{v:Value}{l:List α}(h:Q1a R size M w G cs v l)(S:St M' w0 w L)(hk:L[k]?=some (G,el,cs))(hM:∀g,G=some g→g∉M)(hl:l.length≤1000000):RdS M w size (R M w) v l:=by
 obtain⟨css,h1,h2,⟨_,hr⟩,h4⟩:=h;rcases hr with⟨rfl,rfl,h0⟩|⟨g,b0,rfl,rfl,q1,q2,q3,q4⟩
 ·exact⟨none,0,0,Z,by omega,by omega,by unfold maxLen;omega,by omega,fun h=>absurd h (by omega)⟩
 ·refine⟨_,_,_,Z,Z,q1,q2,by omega,fun _=>⟨g,0,Z,hM g Z,fun i x hi=>?_⟩⟩;obtain⟨c,h5,h6⟩:=h4 i x hi;refine⟨c,h2 c (List.mem_of_getElem? h5),fun j u hj=>?_,hL.more (fun x hx=>.inl (by simp[hx])) h6⟩;have hf:=G8b css i c h2 h5 j u hj;have a0:i*size+j<l.length*size:=by
   have:=(List.getElem?_eq_some_iff.1 hf).1;rw[j4a css h2,h1] at this;exact this
  rw[←q4,List.getElem?_take,if_pos a0] at hf;have:=S.cell k hk hf;simpa using this
theorem Q1a.get{M M':List Nat}{w0 w:World}{L:List Ent}{k el:Nat}{G:Option Nat}{cs:List Value}{v:Value}{l:List α}(h:Q1a R size M w G cs v l)(S:St M' w0 w L)(hk:L[k]?=some (G,el,cs)){i:Nat}{x:α}(hi:l[i]?=some x):
 ∃g a0 c,G=some g∧v=.slice (some ⟨g,0,none⟩) l.length a0∧c.length=size∧Cells w g (0+i*size) c∧R (G.toList++M) w c x:=by
 obtain⟨css,h1,h2,⟨_,hr⟩,h4⟩:=h;have c0:=(List.getElem?_eq_some_iff.1 hi).1;rcases hr with⟨rfl,rfl,h0⟩|⟨g,a0,rfl,rfl,q1,q2,q3,q4⟩
 ·omega
 ·obtain⟨c,h5,h6⟩:=h4 i x hi;refine⟨g,a0,c,Z,Z,h2 c (List.mem_of_getElem? h5),fun j u hj=>?_,h6⟩;have hf:=G8b css i c h2 h5 j u hj;have b0:i*size+j<l.length*size:=by
   have:=(List.getElem?_eq_some_iff.1 hf).1;rw[j4a css h2,h1] at this;exact this
  rw[←q4,List.getElem?_take,if_pos b0] at hf;have:=S.cell k hk hf;simpa using this
variable {P:Program} {r:Option Nat} {N:Nat} {D:List Deferred} {e:Env} {w w0:World} {ops:Array Oper} {rest:List Oper} {K:List Deferred→Env→World→Prop} {L:List Ent} {M:List Nat}
variable {d:Nat} {t:TypeId} {p:String} {af:Array Edge} {x y:Operand}
theorem Y3b(hL:N6a R size){M2:List Nat}{ty el b0 k c b o m:Nat}{z v:Value}{G:Option Nat}{cs:List Value}{cs2:List (List Value)}{l l2:List α}(S:St M w0 w L)(hS:SlZ P ty el size z b0)(C0:b0≤1000)(hk:L[k]?=some (G,el,cs))(hR:Q1a R size M2 w G cs v l)
 (hx:ev e x=v) (hy:ev e y=.slice (some ⟨b,o,none⟩) m c) (hm:m=l2.length) (x0:cs2.length=l2.length) (j0:Cells w b o cs2.flatten) (he:∀(i:Nat) (x:α),l2[i]?=some x→∃c,cs2[i]?=some c∧R (G.toList++M2) w c x) (H0:l.length+l2.length≤1000000) (hd:Nat.ble (d+1) N=true)
 (h:∀v' G' n0 w1,St M w0 w1 (L.set k (G',el,n0))→Q1a R size M2 w1 G' n0 v' (l++l2)→u0a G.toList w w1→(∀g∈G'.toList,g∈G.toList∨w.heap.size≤g)→WL P r N ops rest K D (upd e d v') w1) :
 WL P r N ops (⟨some d,.call { callee:=.builtin .append,args:=#[x,y],argTypes:=#[ty,ty] },t,p,af,none⟩::rest) K D e w:=by
 subst hm;obtain⟨css,c1,c2,c3,c4⟩:=hR;have u0:∀x∈cs2,∃a,R (G.toList++M2) w x a:=fun x hx=>by
  obtain⟨i,hi,rfl⟩:=List.getElem_of_mem hx;obtain⟨c,h5,h6⟩:=he i l2[i] (List.getElem?_eq_getElem (by omega));rw[List.getElem?_eq_getElem hi] at h5;cases h5;exact⟨_,h6⟩
 have i0:∀x∈cs2,x.length=size:=fun x hx=>let ⟨_,ha⟩:=u0 x hx;hL.len ha;have r0:∀u∈cs2.flatten,u.oneCell'=true:=fun u hu=>by
  obtain⟨x,hx,hu⟩:=List.mem_flatten.1 hu;obtain⟨_,ha⟩:=u0 x hx;exact hL.one ha u hu
 obtain⟨i,hi,hz,G0,B0⟩:=hS.parts;obtain⟨s0,hG⟩:=c3.own S hk;have A0:(l.length+l2.length)*b0≤140737488355328:=by
  have:(l.length+l2.length)*b0≤1000000*1000:=Nat.mul_le_mul (by omega) C0;omega
 obtain⟨v',w1,t0,m0,a0,_,g0⟩:=run_append_own_at (P:=P) w 0 ty t el i z size b0 hS.und hi hz G0 B0 hS.zs hS.pos v l.length css.flatten s0 ⟨b,o,none⟩ l2.length c cs2.flatten (by rw[j4a cs2 i0,x0])
  (fun j u hj=>by rw[Addr.add_lit];exact j0 j u hj) r0 (by unfold maxLen;omega) A0 (Nat.zero_le _)
 obtain⟨G',n0,z0,o0,q0⟩:=Q0b m0;have d0:∀q,q<w.heap.size→G≠some q→w1.heap[q]?=w.heap[q]?:=fun q hq F0=>a0.block q hq (fun hh=>F0 (by rw[←hG,←hh]));have f0:D0a M w0 w1:=⟨a0.os.trans S.below.os,a0.tape.trans S.below.tape,a0.output.trans S.below.output,Nat.le_trans S.size a0.size,fun q hq hm =>
  (d0 q (Nat.lt_of_lt_of_le hq S.size) (fun hh=>by
    subst hh;rcases S.new k hk with h'|h'
    ·omega
    ·exact hm h')).trans (S.below.block q hq hm)⟩
 have e0:u0a G.toList w w1:=⟨a0.size,fun q hq hm=>d0 q hq (fun hh=>hm (by rw[hh];simp))⟩;have c0:∀g∈G'.toList,g∈G.toList∨w.heap.size≤g:=by
  intro g hg;have v0:G'=some g:=by cases G' with
   | none=>simp at hg
   | some q=>simp at hg;rw[hg]
  rcases g0 with hb|hb
  ·left;have p0:G=some g:=by rw[←hG,←hb,o0];exact v0
   rw[p0];simp
  ·rw[o0,v0] at hb;cases hb;exact .inr (Nat.le_refl _)
 refine P0a (v:=v') (w':=w1) Z Z hd ?_ (h v' G' n0 w1 (S.replace k hk f0 d0 (fun g hg=>?_)) ?_ e0 c0)
 ·simp[execOp,resolve,invoke,builtin,hx,hy,t0]
 ·obtain⟨_,h3⟩:=q0 g hg;rcases g0 with hb|hb
  ·have p0:G=some g:=by rw[←hG,←hb,o0];exact hg
   subst p0;exact⟨S.new k hk,h3,.inl Z⟩
  ·have D0:G'=some g:=hg;rw[o0,D0] at hb;cases hb;exact⟨.inl S.size,h3,.inr (Nat.le_refl _)⟩
 ·have y0:∀(e2:α) (c:List Value),R (G.toList++M2) w c e2→R (G'.toList++M2) w1 c e2:=by
   intro e2 c hr;have h5:R (G.toList++(G'.toList++M2)) w c e2:=hL.more (fun g hg=>by
    rcases List.mem_append.1 hg with hg|hg
    ·exact .inl (List.mem_append_left _ hg)
    ·rcases List.mem_append.1 hg with hg|hg
     ·rcases c0 g hg with h|h
      ·exact .inl (List.mem_append_left _ h)
      ·exact .inr h
     ·exact .inl (List.mem_append_right _ hg)) hr
   exact hL.more (fun g hg=>.inl (List.mem_append_right _ hg)) (hL.keep (e0.mono (fun g hg=>List.mem_append_left _ hg)) h5)
  refine⟨css++cs2,by simp[c1,x0],fun x hx=>?_,?_,fun i x hi=>?_⟩
  ·rcases List.mem_append.1 hx with hx|hx
   ·exact c2 x hx
   ·exact i0 x hx
  ·have e1:(l++l2).length=l.length+l2.length:=by simp
   rw[e1,List.flatten_append];exact z0
  ·by_cases E0:i<l.length
   ·rw[List.getElem?_append_left E0] at hi;obtain⟨c,h5,h6⟩:=c4 i x hi;exact⟨c,by rw[List.getElem?_append_left (by omega)];exact h5,y0 _ _ h6⟩
   ·rw[List.getElem?_append_right (by omega)] at hi;obtain⟨c,h5,h6⟩:=he _ x hi;exact⟨c,by rw[List.getElem?_append_right (by omega),c1];exact h5,y0 _ _ h6⟩
theorem u1a(hL:N6a R size){M2:List Nat}{ty el a0 k c b o:Nat}{z v:Value}{G:Option Nat}{cs news:List Value}{l:List α}{e1:α}(S:St M w0 w L)(hS:SlZ P ty el size z a0)(hk:L[k]?=some (G,el,cs))(hR:Q1a R size M2 w G cs v l)
 (hx:ev e x=v) (hy:ev e y=.slice (some ⟨b,o,none⟩) 1 c) (b0:Cells w b o news) (he:R (G.toList++M2) w news e1) (e0:l.length+1≤1000000) (hd:Nat.ble (d+1) N=true)
 (h:∀v' G' c0 w1,St M w0 w1 (L.set k (G',el,c0))→Q1a R size M2 w1 G' c0 v' (l++[e1])→u0a G.toList w w1→(∀g∈G'.toList,g∈G.toList∨w.heap.size≤g)→WL P r N ops rest K D (upd e d v') w1) (d0:a0≤1000:=by decide) :
 WL P r N ops (⟨some d,.call { callee:=.builtin .append,args:=#[x,y],argTypes:=#[ty,ty] },t,p,af,none⟩::rest) K D e w :=
 Y3b hL (cs2:=[news]) (l2:=[e1]) S hS d0 hk hR hx hy Z Z (by simpa using b0) (fun i x hi=>by
  cases i with
  | zero=>simp at hi;subst hi;exact⟨news,Z,he⟩
  | succ i=>simp at hi) (by simpa using e0) hd h
end
theorem RdS.all{α:Type}{M:List Nat}{w:World}{size:Nat}{R:List Value→α→Prop}{A:Option Addr}{n c b o:Nat}{l:List α}(h:RdS M w size R (.slice A n c) l)(hA:A=some ⟨b,o,none⟩)(h0:0<l.length):
 ∃css:List (List Value),css.length=l.length∧Cells w b o css.flatten∧∀(i:Nat) (x:α),l[i]?=some x→∃c,css[i]?=some c∧R c x:=by
 obtain⟨h1,_,_,_,h5⟩:=h.at;obtain⟨_,_,a0,_,b0⟩:=h5 (by omega);rw[hA] at a0;cases a0;have key:∀(l2:List α) (q:Nat),(∀i x,l2[i]?=some x→∃cs,cs.length=size∧Cells w b (q+i*size) cs∧R cs x)→∃css:List (List Value),css.length=l2.length∧Cells w b q css.flatten∧∀(i:Nat) (x:α),l2[i]?=some x→∃c,css[i]?=some c∧R c x:=by
  intro l2
  induction l2 with
  | nil=>intro q _;exact⟨[],Z,fun j v hj=>by simp at hj,fun i x hi=>by simp at hi⟩
  | cons a l2 ih =>
    intro q hq;obtain⟨cs,_,k2,k3⟩:=hq 0 a Z;obtain⟨css,m1,m2,m3⟩:=ih (q+size) (fun i x hi=>by
     obtain⟨cs,n1,n2,n3⟩:=hq (i+1) x (by simpa using hi);exact⟨cs,n1,by rw[show q+size+i*size=q+(i+1)*size by rw[Nat.add_mul];omega];exact n2,n3⟩)
    refine⟨cs::css,by simp[m1],fun j v hj=>?_,fun i x hi=>?_⟩
    ·rw[List.flatten_cons] at hj;by_cases c0:j<cs.length
     ·rw[List.getElem?_append_left c0] at hj;have:=k2 j v hj;simpa using this
     ·rw[List.getElem?_append_right (by omega)] at hj;have:=m2 (j-cs.length) v hj;rw[show q+size+(j-cs.length)=q+j by omega] at this;exact this
    ·cases i with
     | zero=>simp at hi;subst hi;exact⟨cs,Z,k3⟩
     | succ i =>
       obtain⟨c,h1,h2⟩:=m3 i x (by simpa using hi);exact⟨c,by simpa using h1,h2⟩
 exact key l o b0
theorem v2c.of{t s c:Int}(h1:i64 t)(h2:i64 s)(h3:i64 c):v2c [.int .i64 t,.int .i64 s,.int .i64 c] ⟨t,s,c⟩:=⟨Z,h1,h2,h3⟩
theorem b5a:N6a (fun(_:List Nat) (_:World)=>M2c) 1 where
 len h:=by rw[h.1];rfl
 one h u hu:=by rw[h.1] at hu;simp at hu;subst hu;rfl
 keep _ h:=h
 more _ h:=h
theorem t3a:N6a C2a 2 where
 len h:=by obtain⟨_,_,rfl,_⟩:=h;rfl
 one h u hu:=by
  obtain⟨_,_,_,_,_,_,rfl,_⟩:=h.open_;simp at hu;rcases hu with rfl|rfl<;>rfl
 keep hk h:=C2a.keep hk _ _ h
 more hm h:=C2a.more hm _ _ h
def B8b(M:List Nat)(w:World)(cs:List Value)(c:u2a):Prop:=s2a M w c cs
theorem getD_some{α:Type}{l:List α}{i:Nat}{x d:α}(h:l[i]?=some x):l.getD i d=x:=by rw[List.getD_eq_getElem?_getD,h];rfl
def n0d(c:u2a):Prop:=∀b∈c.buf,b=[]
theorem n0d.getD{c:u2a}(h:n0d c)(t:Nat):c.buf.getD t []=[]:=by
 rw[List.getD_eq_getElem?_getD];cases hx:c.buf[t]? with
 | none=>rfl
 | some b=>exact h b (List.mem_of_getElem? hx)
@[simp] theorem H2d(l:List o3a)(v m:List Int):(B2d l v m).length=m.length:=by
 unfold B2d
 induction l generalizing m with
 | nil=>rfl
 | cons a l ih=>rw[List.foldl_cons,ih,List.length_set]
theorem Q9a{p:o0a}{t:Nat}{th:k1a}(h:p.threads[t]?=some th):q1b p t=th.steps:=by unfold q1b;rw[getD_some h]
theorem H9c{α:Type}{a b:List α}(hl:a.length=b.length){k:Nat}(hk:a.length≤k)(h:∀i x y,i<k→a[i]?=some x→b[i]?=some y→x=y):a=b:=by
 apply List.ext_getElem hl;intro i h1 h2;exact h i _ _ (by omega) (List.getElem?_eq_getElem h1) (List.getElem?_eq_getElem h2)
def O7c{α:Type}(a b:List α)(k:Nat):Prop:=∀i x y,i<k→a[i]?=some x→b[i]?=some y→x=y
theorem O7c.zero{α:Type}{a b:List α}:O7c a b 0:=fun i x y h=>absurd h (by omega)
theorem O7c.succ{α:Type}{a b:List α}{k:Nat}(h:O7c a b k){x y:α}(hx:a[k]?=some x)(hy:b[k]?=some y)(he:x=y):O7c a b (k+1):=fun i x' y' hi h1 h2=>by
 by_cases a0:i=k
 ·subst a0;rw[hx] at h1;rw[hy] at h2;cases h1;cases h2;exact he
 ·exact h i x' y' (by omega) h1 h2
theorem O7c.all{α:Type}{a b:List α}{k:Nat}(h:O7c a b k)(hl:a.length=b.length)(hk:a.length≤k):a=b:=H9c hl hk h
theorem A1a.ext'{a b:A1a}(h1:a.cells=b.cells)(h2:a.values=b.values):a=b:=by cases a;cases b;simp_all
theorem u2a.ext'{a b:u2a}(h1:a.mem=b.mem)(h2:a.at_=b.at_)(h3:a.buf=b.buf):a=b:=by cases a;cases b;simp_all
theorem D3a.ext'{a b:D3a}(h:a.thread=b.thread∧a.step=b.step∧a.cell=b.cell):a=b:=by cases a;cases b;simp_all
theorem B8b.keep{M:List Nat}{w w':World}(hk:u0a M w w'):∀cs c,B8b M w cs c→B8b M w' cs c:=fun _ _ h=>s2a.keep hk h
theorem B8b.less{M M':List Nat}{w:World}(hk:∀g∈M',g∈M):∀cs c,B8b M w cs c→B8b M' w cs c:=fun _ _ h=>s2a.less hk h
theorem RdS.take{α:Type}{M:List Nat}{w:World}{size:Nat}{R:List Value→α→Prop}{A:Option Addr}{n c:Nat}{l:List α}(h:RdS M w size R (.slice A n c) l)(i:Nat)(hi:i≤n):RdS M w size R (.slice A i c) (l.take i):=by
 obtain⟨_,_,_,he,_,_,h3,_,h5⟩:=h;cases he;refine⟨_,_,_,Z,by rw[List.length_take];omega,by omega,h3,by omega,fun h0=>?_⟩;obtain⟨b,o,hA,hb,a0⟩:=h5 (by omega);refine⟨b,o,hA,hb,fun j x hx=>a0 j x ?_⟩;rw[List.getElem?_take] at hx
 split at hx
 ·exact hx
 ·cases hx
theorem M1c(M:List Nat)(w0:World)(v:Value)(l:List Int)(a:Int)(hR:RdI M w0 v l):
 E0a prog 159 #[v,.int .i64 a] w0 fun v w'=>(∃n,v=.int .i64 n∧(0≤n↔a∈l))∧Below w0.heap.size w0 w':=by
 obtain⟨A,n,c,rfl⟩:=hR.form;obtain⟨_,_⟩:=hR.len;have S:=St.refl w0;refine a0a func159 Z ntmps159 Z ?_;refine wC0 Z U (wL (fun μk D ε w=>D=[]∧∃k:Nat,(k+μk=(l.length))∧(q1a (l) k (fun x=>a≠x))∧St [] w0 w []∧Sl ε [(0,.slice A n c),(1,.int .i64 a),(7,.int .i64 n),(8,.int .i64 k)]) (μ:=(l.length)) ⟨Z,0,by omega,q1a.zero,S,Z⟩ ?_);rintro μk D ε w ⟨rfl,k,_,ha,S,eZ⟩;refine wK eZ (wB0 Z U (fun h9=>?_) fun h9=>?_)
 ·obtain⟨x,f0,g0,_,e0,b0,_,_,c0,d0⟩:=RdS.get (hR) (k) (by omega);obtain⟨rfl,_⟩:=id d0;refine lB (S.k.a c0) [.x f0 g0,.f 0 0] Z ⟨Z,⟨b0,by omega⟩,U⟩ (fun a0=>?_) fun a0=>?_
  ·exact lT Z U Z ⟨⟨_,Z,⟨fun _=>a0▸d0a e0,fun _=>by omega⟩⟩,S.fin⟩
  refine lP0 Z ⟨by omega,U⟩ ⟨μk-1,by omega,Z,(k+1),(by omega),(ha.succ e0 (a0)),S,Z⟩
 exact lT Z U Z ⟨⟨_,Z,⟨fun h=>by omega,fun h=>absurd Z (ha.all (by omega) a h)⟩⟩,S.fin⟩
theorem v8a(M:List Nat)(w0:World)(v:Value)(l:List Int)(a:Int)(hR:RdI M w0 v l):
 E0a prog 107 #[v,.int .i64 a] w0 fun v w'=>v=.bool (decide (a∈l))∧Below w0.heap.size w0 w':=by
 obtain⟨_,_,_,rfl⟩:=hR.form;have S:=St.refl w0;refine a0a func107 Z ntmps107 Z ?_;refine wO0 Z U (j0a S U7c Z Z (M1c M _ _ l a (hR.keep (S.keep0 M))) ?_);rintro v7 w7 ⟨_,rfl,hm⟩ S7 X7;refine lB0 Z U (fun h8=>?_) fun h8=>?_
 ·refine lR0 Z U (s0a Z ?_);exact⟨by rw[decide_eq_true (hm.1 (by omega))],S7.fin⟩
 refine lR0 Z U (s0a Z ?_);exact⟨by rw[decide_eq_false (fun hh=>absurd (hm.2 hh) (by omega))],S7.fin⟩
section
variable {P:Program} {r:Option Nat} {N:Nat} {D:List Deferred} {e:Env} {w w0:World} {ops:Array Oper} {rest:List Oper} {K:List Deferred→Env→World→Prop} {L:List Ent} {M:List Nat}
variable {d:Nat} {t:TypeId} {p:String} {af:Array Edge} {x y:Operand} {yt:TypeId}
theorem W4c{ty size n c:Nat}{A:Option Addr}(hT:SlT P ty size)(hx:ev e x=.slice A n c)(hy:ev e y=.slice none 0 0)(hd:Nat.ble (d+1) N=true)
 (h1:A=none→WL P r N ops rest K D (upd e d (.bool true)) w) (h2:A.isSome=true→WL P r N ops rest K D (upd e d (.bool false)) w) :
 WL P r N ops (⟨some d,.binOp .eql ty x y yt,t,p,af,none⟩::rest) K D e w:=by
 obtain⟨el,hu,_⟩:=c6a hT;have hr:=Lib.run_eql_slice_nil (P:=P) w ty el A n c 0 0 hu;cases A with
 | none=>exact P0a Z Z hd (by simp[execOp,hx,hy,eqGuard,hr]) (h1 Z)
 | some a=>exact P0a Z Z hd (by simp[execOp,hx,hy,eqGuard,hr]) (h2 Z)
end
theorem t4a.pad{G:Option Nat}{n:Nat}{cs:List Value}{v:Value}{l:List Int}(h:t4a G 1 n cs v (l.map (Value.int .i64)))(h0:0<l.length):∃g pad,G=some g∧v=.slice (some ⟨g,0,none⟩) l.length (l.length+pad.length)∧cs=l.map (Value.int .i64)++pad∧l.length+pad.length≤maxLen:=by
 obtain⟨h1,h2⟩:=h;simp only[List.length_map,Nat.mul_one] at h1;rcases h2 with⟨_,_,h2⟩|⟨g,a0,rfl,rfl,h3,h4,h5,h6⟩
 ·omega
 ·simp only[Nat.mul_one] at h5 h6;refine⟨g,cs.drop n,Z,?_,?_,?_⟩
  ·rw[List.length_drop,h5,h1];congr 1;omega
  ·rw[←h6,List.take_append_drop]
  ·rw[List.length_drop,h5,h1];omega
theorem t4a.ofPad{g:Nat}{l:List Int}{pad:List Value}(h:l.length+pad.length≤maxLen):t4a (some g) 1 l.length (l.map (Value.int .i64)++pad) (.slice (some ⟨g,0,none⟩) l.length (l.length+pad.length)) (l.map (Value.int .i64)) :=
 ⟨by simp,.inr ⟨g,_,Z,Z,by omega,h,by simp,by simp⟩⟩
def x6c(mem:List Int)(e:A1a)(k:Nat):List Int:=((e.cells.zip e.values).take k).foldl (fun m x=>m.set x.1.toNat x.2) mem
theorem v6a:∀(l:List (Int×Int)) (mem:List Int),(l.foldl (fun m x=>m.set x.1.toNat x.2) mem).length=mem.length
 | [],_=>rfl
 | x::l,mem=>by rw[List.foldl_cons,v6a l,List.length_set]
@[simp] theorem I6c(mem:List Int)(e:A1a)(k:Nat):(x6c mem e k).length=mem.length:=v6a _ _
@[simp] theorem T8b(mem:List Int)(e:A1a):(v3b mem e).length=mem.length:=v6a _ _
theorem t7c{l:List Int}{pad:List Value}{i:Nat}{y:Int}(hi:i<l.length):(l.map (Value.int .i64)++pad).set i (.int .i64 y)=(l.set i y).map (Value.int .i64)++pad:=by
 rw[List.set_append_left _ _ (by simpa using hi),List.map_set]
def x1d(c:u2a)(b:List A1a)(k:Nat):List Int:=(b.take k).foldl v3b c.mem
theorem U3b:∀(l:List A1a) (m:List Int),(l.foldl v3b m).length=m.length
 | [],_=>rfl
 | x::l,m=>by rw[List.foldl_cons,U3b l,T8b]
@[simp] theorem f0d(c:u2a)(b:List A1a)(k:Nat):(x1d c b k).length=c.mem.length:=U3b _ _
theorem D5a(M:List Nat)(w0:World)(v:Value)(l:List Int)(hR:RdI M w0 v l)(hl:l.length≤100000000:=by omega):
 E0a prog 176 #[v] w0 fun v w'=>x4a 3 w0 w' v l∧Below w0.heap.size w0 w':=by
 obtain⟨_,n,_,rfl⟩:=hR.form;obtain⟨_,_⟩:=hR.len;have S:=St.refl w0;refine a0a func176 Z ntmps176 Z ?_;refine wOn 9 S.k [] Z U (W4c Y0a.slT Z Z Z (fun h4=>?_) fun h4=>?_)
 ·refine lR0 Z U (s0a Z ?_);subst h4;obtain⟨A',n',c',he,h1,h2,h3,h5,h6⟩:=hR;cases he;have h0:l.length=0:=by
   rcases Nat.eq_zero_or_pos n with h|h
   ·omega
   ·obtain⟨_,_,h7,_⟩:=h6 h;cases h7
  obtain rfl:=List.length_eq_zero_iff.1 h0;exact⟨⟨none,[],t4a.nil 1,fun g hg=>by cases hg⟩,S.fin⟩
 refine lO0 Z U (R6a S Y0a Z ?_);intro g5 w5 S5 X5 G5;refine lO0 Z U (P4a (hbytes:=(by decide)) (k:=0) (xs:=[]) S5 Y0a Z t4a.new Z Z (hR.keep (S5.keep0 M)) (by simpa using hl) Z ?_);intro v7 G7 a0 w7 S7 R7 X7;refine C0a Z ?_;refine lR0 Z U (s0a Z ?_);refine⟨⟨G7,a0,by simpa using R7,fun g hg=>?_⟩,S7.fin⟩;subst hg;exact⟨by simpa using S7.new 0 Z,S7.blk 0 Z⟩
theorem c0c.i64s{p:o0a}{e:A1a}(h:c0c p e):∀x∈e.cells,0≤x∧x<p.cells.length:=fun x hx=>by
 obtain⟨i,hi,rfl⟩:=List.getElem_of_mem hx;exact(h.cells i _ (List.getElem?_eq_getElem hi)).1
section
variable {M:List Nat} {w0 w w':World} {L:List Ent}
theorem St.join{L2:List Ent}(S:St M w0 w L)(S2:St [] w w' L2):St M w0 w' (L2++L):=by
 have a0:∀b∈L2,∀g,b.1=some g→w.heap.size≤g∧m0a w' (g,b.2):=fun b hb g hg=>by
  obtain⟨h1,h2⟩:=S2.own b hb g hg;rcases h1 with h1|h1
  ·exact⟨h1,h2⟩
  ·cases h1
 have S':=S.later S2.fin;refine⟨S'.below,fun b hb g hg=>?_,List.pairwise_append.2 ⟨S2.apart,S.apart,fun a ha b hb g hg b0=>?_⟩⟩
 ·rcases List.mem_append.1 hb with h|h
  ·obtain⟨h1,h2⟩:=a0 b h g hg;exact⟨.inl (Nat.le_trans S.size h1),h2⟩
  ·exact S'.own b h g hg
 ·have h1:=(a0 a ha g hg).1;have h2:=(S.own b hb g b0).2.lt;simp at h2;omega
theorem St.fill(S:St M w0 w L)(j:Nat){t':TypeId}{b0:List Value}{g:Nat}(hb:Below w.heap.size w w')(hg:m0a w' (g,t',b0))(d0:w.heap.size≤g):St M w0 w' (L.set j (some g,t',b0)):=by
 have S':=S.later hb;have a0:∀b∈L,b.1≠some g:=fun b hm hh=>by
  have:=(S.own b hm g hh).2.lt;simp at this;omega
 refine⟨S'.below,fun b hm x hx=>?_,?_⟩
 ·rcases List.mem_or_eq_of_mem_set hm with h|rfl
  ·exact S'.own b h x hx
  ·cases hx;exact⟨.inl (Nat.le_trans S.size d0),hg⟩
 ·rw[List.pairwise_iff_getElem];intro i k hi hk c0 x hx;rw[List.length_set] at hi hk;rw[List.getElem_set] at hx ⊢
  split at hx
  ·cases hx
   split
   ·omega
   ·exact a0 _ (List.getElem_mem hk)
  ·split
   ·intro hh;cases hh;exact a0 _ (List.getElem_mem hi) hx
   ·exact(List.pairwise_iff_getElem.1 S.apart) i k hi hk c0 x hx
theorem St.nils(S:St M w0 w L){R:List Ent}(hR:∀b∈R,b.1=none):St M w0 w (L++R):=by
 refine⟨S.below,fun b hb g hg=>?_,List.pairwise_append.2 ⟨S.apart,?_,fun a _ b hb g _ a0=>?_⟩⟩
 ·rcases List.mem_append.1 hb with h|h
  ·exact S.own b h g hg
  ·rw[hR b h] at hg;cases hg
 ·exact List.Pairwise.imp_of_mem (fun ha _ _ g hg=>(by rw[hR _ ha] at hg;cases hg)) (List.pairwise_of_forall (R:=fun _ _=>True) (fun _ _=>trivial))
 ·rw[hR b hb] at a0;cases a0
theorem St.front{A R:List Ent}(S:St M w0 w (A++R)):St M w0 w A :=
 ⟨S.below,fun b hm=>S.own b (List.mem_append_left _ hm),(List.pairwise_append.1 S.apart).1⟩
abbrev clF{A R:List Ent}(_:St M w0 w (A++R))(K:List Nat):World→Prop:=fun w1=>St M w0 w1 A∧u0a K w w1
end
theorem t4a.form{G:Option Nat}{size n:Nat}{cs xs:List Value}{v:Value}(h:t4a G size n cs v xs):∃A n c,v=.slice A n c:=by
 rcases h with⟨_,⟨_,rfl,_⟩|⟨g,a0,_,rfl,_⟩⟩
 ·exact⟨_,_,_,Z⟩
 ·exact⟨_,_,_,Z⟩
theorem z3d(A a0:List Ent)(k n:Nat)(hn:A.length=n):(A++a0)[n+k]?=a0[k]?:=by
 subst hn;rw[List.getElem?_append_right (by omega)];congr 1;omega
theorem T3d(A a0:List Ent)(k n:Nat)(hn:A.length=n)(x:Ent):(A++a0).set (n+k) x=A++a0.set k x:=by
 subst hn;rw[List.set_append_right _ _ (by omega)];congr 2;omega
theorem Q1a.more{α:Type}{R:List Nat→World→List Value→α→Prop}{size:Nat}(hL:N6a R size){M M':List Nat}{w:World}{G:Option Nat}{cs:List Value}{v:Value}{l:List α}(h:Q1a R size M w G cs v l)(hm:∀g∈M',(g∈G.toList∨g∈M)∨w.heap.size≤g):Q1a R size M' w G cs v l:=by
 obtain⟨css,h1,h2,h3,h4⟩:=h;refine⟨css,h1,h2,h3,fun i x hi=>?_⟩;obtain⟨c,h5,h6⟩:=h4 i x hi;refine⟨c,h5,hL.more (fun g hg=>?_) h6⟩;rcases List.mem_append.1 hg with hg|hg
 ·exact .inl (List.mem_append_left _ hg)
 ·rcases hm g hg with h|h
  ·exact .inl (List.mem_append.2 h)
  ·exact .inr h
def g3b(rows:List Ent):List Nat:=rows.filterMap (·.1)
theorem R3a{a0:List Ent}{g:Nat}:g∈g3b a0↔∃b∈a0,b.1=some g:=by unfold g3b;rw[List.mem_filterMap]
def K4a(tE:TypeId)(M:List Nat)(w:World)(rows:List Ent)(vs:List Value)(bs:List (List A1a)):Prop :=
 rows.length=bs.length∧vs.length=bs.length∧∀(i:Nat) (b:List A1a),bs[i]?=some b→∃G cs v,rows[i]?=some (G,tE,cs)∧vs[i]?=some v∧Q1a C2a 2 (M++g3b rows) w G cs v b
theorem K4a.keep{tE:TypeId}{M:List Nat}{w w':World}{a0:List Ent}{vs:List Value}{bs:List (List A1a)}(h:K4a tE M w a0 vs bs)(hk:u0a (M++g3b a0) w w'):K4a tE M w' a0 vs bs:=by
 obtain⟨h1,h2,h3⟩:=h;refine⟨h1,h2,fun i b hi=>?_⟩;obtain⟨G,cs,v,h4,h5,h6⟩:=h3 i b hi;exact⟨G,cs,v,h4,h5,h6.keep t3a (hk.mono fun g hg=>List.mem_append_right _ hg)⟩
theorem K4a.nil{tE:TypeId}{M:List Nat}{w:World}(n:Nat):K4a tE M w (List.replicate n (none,tE,[])) (List.replicate n (.slice none 0 0)) (List.replicate n []):=by
 refine⟨by simp,by simp,fun i b hi=>?_⟩;obtain⟨a0,rfl⟩:=List.getElem?_eq_some_iff.1 hi;simp only[List.length_replicate] at a0;refine⟨none,[],.slice none 0 0,by simp[a0],by simp[a0],?_⟩;simp only[List.getElem_replicate];exact Q1a.nil
theorem r7c{a0:List Ent}{k:Nat}{G':Option Nat}{tE:TypeId}{b0:List Value}{g:Nat}(h:g∈g3b (a0.set k (G',tE,b0))):g∈g3b a0∨g∈G'.toList:=by
 obtain⟨b,hb,hg⟩:=R3a.1 h;rcases List.mem_or_eq_of_mem_set hb with h|rfl
 ·exact .inl (R3a.2 ⟨b,h,hg⟩)
 ·right;cases hg;simp
theorem K4a.put{tE:TypeId}{M:List Nat}{w w1:World}{a0:List Ent}{vs:List Value}{bs:List (List A1a)}(h:K4a tE M w a0 vs bs){k:Nat}{G G':Option Nat}{cs b0:List Value}{v':Value}{b':List A1a}(hk:k<bs.length)
 (e0:Q1a C2a 2 (M++g3b a0) w1 G' b0 v' b') (X:u0a G.toList w w1) (F:∀g∈G'.toList,g∈G.toList∨w.heap.size≤g) (i0:a0[k]?=some (G,tE,cs)):K4a tE M w1 (a0.set k (G',tE,b0)) (vs.set k v') (bs.set k b'):=by
 obtain⟨h1,h2,h3⟩:=h;have g0:∀g∈G.toList,g∈g3b a0:=fun g hg=>R3a.2 ⟨_,List.mem_of_getElem? i0,by cases G<;>simp at hg ⊢;exact hg.symm⟩;have c0:∀g∈M++g3b (a0.set k (G',tE,b0)),(g∈M++g3b a0∨g∈G'.toList):=fun g hg=>by
  rcases List.mem_append.1 hg with h|h
  ·exact .inl (List.mem_append_left _ h)
  ·rcases r7c h with h|h
   ·exact .inl (List.mem_append_right _ h)
   ·exact .inr h
 refine⟨by simp[h1],by simp[h2],fun i b hi=>?_⟩;rw[List.getElem?_set] at hi;by_cases d0:k=i
 ·subst d0;rw[if_pos rfl,if_pos hk] at hi;cases hi;exact⟨G',b0,v',by rw[List.getElem?_set_self (by omega)],by rw[List.getElem?_set_self (by omega)],e0.more t3a fun g hg=>by
   rcases c0 g hg with h|h
   ·exact .inl (.inr h)
   ·exact .inl (.inl h)⟩
 ·rw[if_neg d0] at hi;obtain⟨Gi,f0,vi,h4,h5,h6⟩:=h3 i b hi;refine⟨Gi,f0,vi,by rw[List.getElem?_set_ne d0];exact h4,by rw[List.getElem?_set_ne d0];exact h5,?_⟩;have e1:Q1a C2a 2 (G.toList++(M++g3b (a0.set k (G',tE,b0)))) w Gi f0 vi b:=h6.more t3a fun g hg=>by
   rcases List.mem_append.1 hg with h|h
   ·exact .inl (.inr (List.mem_append_right _ (g0 g h)))
   ·rcases c0 g h with h|h
    ·exact .inl (.inr h)
    ·rcases F g h with h|h
     ·exact .inl (.inr (List.mem_append_right _ (g0 g h)))
     ·exact .inr h
  exact(e1.keep t3a (X.mono fun g hg=>List.mem_append_right _ (List.mem_append_left _ hg))).more t3a fun g hg=>.inl (.inr (List.mem_append_right _ hg))
theorem K4a.rd{tE:TypeId}{M M' Mx:List Nat}{w0 w:World}{A a0:List Ent}{vs:List Value}{bs:List (List A1a)}(h:K4a tE M w a0 vs bs)(S:St M' w0 w (A++a0))(hx:∀g∈Mx,g∈M)(hM:∀g∈Mx,g∉g3b a0)(hl:∀b∈bs,b.length≤1000):
 ∀(i:Nat) (b:List A1a),bs[i]?=some b→∃v,vs[i]?=some v∧P2d Mx w v b:=fun i b hi=>by
 obtain⟨_,_,h3⟩:=h;obtain⟨G,cs,v,h4,h5,h6⟩:=h3 i b hi;refine⟨v,h5,?_⟩;have h7:Q1a C2a 2 Mx w G cs v b:=h6.more t3a fun g hg=>.inl (.inr (List.mem_append_left _ (hx g hg)));refine h7.rd t3a S (k:=A.length+i) (el:=tE) (by rw[z3d A a0 i _ rfl];exact h4) (fun g hg hm=>hM g hm (R3a.2 ⟨_,List.mem_of_getElem? h4,hg⟩)) (by have:=hl b (List.mem_of_getElem? hi);omega)
theorem K4a.less{tE:TypeId}{M M':List Nat}{w:World}{a0:List Ent}{vs:List Value}{bs:List (List A1a)}(h:K4a tE M w a0 vs bs)(hm:∀g∈M',g∈M):K4a tE M' w a0 vs bs:=by
 obtain⟨h1,h2,h3⟩:=h;refine⟨h1,h2,fun i b hi=>?_⟩;obtain⟨G,cs,v,h4,h5,h6⟩:=h3 i b hi;exact⟨G,cs,v,h4,h5,h6.more t3a fun g hg=>.inl (.inr (by
  rcases List.mem_append.1 hg with h|h
  ·exact List.mem_append_left _ (hm g h)
  ·exact List.mem_append_right _ h))⟩
theorem y7b{α:Type}{l:List α}{k:Nat}{x:α}(h:l[k]?=some x):l.set k x=l:=by
 obtain⟨a0,rfl⟩:=List.getElem?_eq_some_iff.1 h;exact List.set_getElem_self a0
theorem RdI.i64s{M:List Nat}{w:World}{v:Value}{l:List Int}(h:RdI M w v l):∀x∈l,i64 x:=fun x hx=>by
 obtain⟨_,_,_,rfl⟩:=h.form;obtain⟨i,hi,rfl⟩:=List.getElem_of_mem hx;obtain⟨_,_,_,_,h5⟩:=h.at;obtain⟨_,_,_,_,a0⟩:=h5 (by omega);obtain⟨_,_,_,h6⟩:=a0 i _ (List.getElem?_eq_getElem hi);exact h6.2
theorem x4a.rd{el:Nat}{w w1:World}{v:Value}{l:List Int}(h:x4a el w w1 v l){M:List Nat}(hM:∀g∈M,g<w.heap.size)(hl:∀x∈l,i64 x)(hb:Below w.heap.size w w1)(hbig:l.length≤140737488355328):RdI M w1 v l:=by
 obtain⟨_,_,h1,S⟩:=h.open_ ((St.refl w).later hb) (St.refl w);exact h1.rdI S (k:=0) Z hM hl hbig
theorem St.sublist{M:List Nat}{w0 w:World}{L L':List Ent}(S:St M w0 w L)(h:L'.Sublist L):St M w0 w L':=⟨S.below,fun b hb=>S.own b (h.subset hb),S.apart.sublist h⟩
theorem St.perm{M:List Nat}{w0 w:World}{L L':List Ent}(S:St M w0 w L)(h:L.Perm L'):St M w0 w L' :=
 ⟨S.below,fun b hb=>S.own b (h.symm.subset hb),(h.pairwise_iff (fun b0 g hg a0=>b0 g a0 hg)).1 S.apart⟩
theorem St.joinR{M:List Nat}{w0 w w':World}{L A R:List Ent}(S:St M w0 w L)(S2:St [] w w' (A++R)):St M w0 w' ((A++L)++R):=by
 refine(S.join S2).perm ?_;rw[List.append_assoc,List.append_assoc];exact(List.perm_append_comm).append_left A
theorem Q1a.erase{α:Type}{R:List Nat→World→List Value→α→Prop}{size:Nat}(hL:N6a R size){M:List Nat}{w w1:World}{G:Option Nat}{a0:List Value}{v:Value}{l:List α}{css:List (List Value)}(l1:css.length=l.length)(l2:∀x∈css,x.length=size)(l4:∀(i:Nat) (x:α),l[i]?=some x→∃c,css[i]?=some c∧R (G.toList++M) w c x)
 {i:Nat} (hi:i<l.length) (rv:t4a G size (l.length-1) a0 v (css.eraseIdx i).flatten) (hk:u0a (G.toList++M) w w1):Q1a R size M w1 G a0 v (l.eraseIdx i):=by
 have b0:(l.eraseIdx i).length=l.length-1:=by rw[List.length_eraseIdx,if_pos hi]
 refine⟨css.eraseIdx i,by rw[b0,List.length_eraseIdx,if_pos (by omega),l1],fun x hx=>l2 x (List.mem_of_mem_eraseIdx hx),by rw[b0];exact rv,fun k x hx=>?_⟩;rw[List.getElem?_eraseIdx] at hx ⊢
 split
 ·rename_i h;rw[if_pos h] at hx;obtain⟨c,h5,h6⟩:=l4 k x hx;exact⟨c,h5,hL.keep hk h6⟩
 ·rename_i h;rw[if_neg h] at hx;obtain⟨c,h5,h6⟩:=l4 (k+1) x hx;exact⟨c,h5,hL.keep hk h6⟩
theorem u0a.fresh2{a b c:World}{Q:List Nat}{g:Nat}(h:u0a Q a b)(k:u0a [g] b c)(hg:a.heap.size≤g∨g∈Q):u0a Q a c :=
 ⟨Nat.le_trans h.size k.size,fun i hi hm=>(k.same i (Nat.lt_of_lt_of_le hi h.size) (fun hh=>by rw[List.mem_singleton] at hh;subst hh;rcases hg with hg|hg;omega;exact hm hg)).trans (h.same i hi hm)⟩
theorem u0a.freshL{a b c:World}{Q Gs:List Nat}(h:u0a Q a b)(k:u0a Gs b c)(hg:∀g∈Gs,a.heap.size≤g∨g∈Q):u0a Q a c :=
 ⟨Nat.le_trans h.size k.size,fun i hi hm=>(k.same i (Nat.lt_of_lt_of_le hi h.size) (fun hh=>by rcases hg i hh with hg|hg;omega;exact hm hg)).trans (h.same i hi hm)⟩
section
variable {P:Program} {r:Option Nat} {N:Nat} {D:List Deferred} {e:Env} {w w0:World} {ops:Array Oper} {rest:List Oper} {K:List Deferred→Env→World→Prop} {L:List Ent} {M:List Nat}
variable {d:Nat} {t:TypeId} {p:String} {af:Array Edge} {x y:Operand} {kd:IntKind}
theorem y7c{o:Oper}{v:Value}{w':World}(hg:o.guard=none)(b0:o.dst=none)(a0:∀c,o.op≠.defer c)
 (d0:(execOp (ev e) o).run P w=.ok (.value v) w') (h:WL P r N ops rest K D e w'):WL P r N ops (o::rest) K D e w:=by
 unfold WL at *;intro a Q hs e0 he hK;have c0:=h a Q hs e0 he hK;simp only[wpListIn,Region.wanted,hg,if_true];refine⟨A0a o w _,?_⟩;have:Oper.semAt (fc r).round a.eval o=execOp (ev e) o:=by rw[Oper.semAt_eq _ _ _ a0,h2a,he]
 rw[this,d0,Oper.uponIn_value,b0];exact c0
end
theorem C4b{size:Nat}:∀(css:List (List Value)) (i:Nat),(∀x∈css,x.length=size)→css.flatten.take (i*size)=(css.take i).flatten
 | [],i,_=>by simp
 | x::css,0,_=>by simp
 | x::css,i+1,h=>by
   have hx:=h x (by simp);rw[List.flatten_cons,List.take_succ_cons,List.flatten_cons,←C4b css i (fun y hy=>h y (by simp[hy])),Nat.add_mul,Nat.one_mul,List.take_append,hx,Nat.add_sub_cancel,List.take_of_length_le (by omega)]
theorem V3a:∀(vs cs:List Value) (o:Nat),(f0a cs o vs).length=cs.length
 | [],_,_=>rfl
 | v::vs,cs,o=>by rw[f0a,V3a vs,List.length_set]
theorem R9a:∀(vs cs:List Value) (o n:Nat),n≤o→(f0a cs o vs).take n=cs.take n
 | [],_,_,_,_=>rfl
 | v::vs,cs,o,n,h=>by rw[f0a,R9a vs _ _ _ (by omega),List.take_set_of_le h]
abbrev R7c:List Nat→World→List Value→Int→Prop:=fun _ _=>M2c
def NC(w:World)(rs:List (Nat×Obj)):Prop:=∀x∈rs,w.heap[x.1]?=some x.2∧∀a t f,x.2≠.cells a t f
theorem NC.nil{w:World}:NC w []:=fun x hx=>by cases hx
theorem NC.lt{w:World}{rs:List (Nat×Obj)}(h:NC w rs):∀x∈rs,x.1<w.heap.size:=fun x hx=>by
 have:=(h x hx).1;rcases Nat.lt_or_ge x.1 w.heap.size with h'|h'
 ·exact h'
 ·rw[Array.getElem?_eq_none h'] at this;cases this
theorem NC.keep{w w':World}{rs:List (Nat×Obj)}(h:NC w rs)(k:u0a [] w w'):NC w' rs:=fun x hx=>⟨(k.same x.1 (h.lt x hx) (by simp)).trans (h x hx).1,(h x hx).2⟩
theorem NC.ne{w:World}{rs:List (Nat×Obj)}(h:NC w rs){g t:Nat}{cs:List Value}(hg:m0a w (g,t,cs)):∀x∈rs,x.1≠g:=fun x hx he=>by
 have h1:=(h x hx).1;rw[he] at h1;unfold m0a at hg;rw[hg] at h1;exact(h x hx).2 _ _ _ (Option.some.inj h1).symm
theorem NC.keepS{w w':World}{rs:List (Nat×Obj)}(h:NC w rs){g t:Nat}{cs:List Value}(k:u0a [g] w w')(hg:m0a w (g,t,cs)):NC w' rs:=fun x hx =>
 ⟨(k.same x.1 (h.lt x hx) (by rw[List.mem_singleton];exact h.ne hg x hx)).trans (h x hx).1,(h x hx).2⟩
theorem NC.keepL{w w':World}{rs:List (Nat×Obj)}(h:NC w rs){Gs:List Nat}(k:u0a Gs w w')(hg:∀g∈Gs,∃t cs,m0a w (g,t,cs)):NC w' rs:=fun x hx =>
 ⟨(k.same x.1 (h.lt x hx) (fun hh=>by obtain⟨t,cs,hb⟩:=hg _ hh;exact h.ne hb x hx Z)).trans (h x hx).1,(h x hx).2⟩
theorem NC.tail{w:World}{x:Nat×Obj}{rs:List (Nat×Obj)}(h:NC w (x::rs)):NC w rs:=fun y hy=>h y (List.mem_cons_of_mem _ hy)
theorem NC.cons{w:World}{x:Nat×Obj}{rs:List (Nat×Obj)}(h:NC w rs)(h1:w.heap[x.1]?=some x.2)(h2:∀a t f,x.2≠.cells a t f):NC w (x::rs):=fun y hy=>by
 rcases List.mem_cons.1 hy with rfl|hy
 ·exact⟨h1,h2⟩
 ·exact h y hy
theorem NC.put{w:World}{l:Nat}{o o':Obj}{rs:List (Nat×Obj)}(h:NC w ((l,o)::rs))(hl:∀x∈rs,x.1≠l)(ho:∀a t f,o'≠.cells a t f):NC (w.putObj l o') ((l,o')::rs):=by
 have a0:=h.lt (l,o) (by simp);refine NC.cons (fun x hx=>⟨?_,(h.tail x hx).2⟩) (World.putObj_heap_same a0) ho;rw[World.putObj_heap_other (hl x hx)];exact(h.tail x hx).1
theorem St.putObj{M:List Nat}{w0 w:World}{L:List Ent}(S:St M w0 w L){l:Nat}(o:Obj){rs:List (Nat×Obj)}{o1:Obj}(h:NC w rs)(hx:(l,o1)∈rs)(hl:w0.heap.size≤l∨l∈M):St M w0 (w.putObj l o) L:=by
 refine⟨S.below.putObj o hl,fun b hb g hg=>⟨(S.own b hb g hg).1,(S.own b hb g hg).2.putObj (fun he=>?_)⟩,S.apart⟩;exact h.ne (S.own b hb g hg).2 _ hx he.symm
def D2b(rs:List Nat):List (Nat×Obj):=rs.map fun r=>(r,.deferred (some []))
theorem g0c{rs:List Nat}{x:Nat×Obj}(h:x∈D2b rs):x.1∈rs:=by
 obtain⟨_,hr,rfl⟩:=List.mem_map.1 h;exact hr
def Z6a(P:Program)(fn:Func)(R:Value→World→Prop)(D:List Deferred)(e:Env)(w:World):Prop :=
 ∃rs:List Nat,D=rs.map F9a∧rs.Nodup∧NC w (D2b rs)∧∀w',D0a rs w w'→w'.heap.size=w.heap.size→∀tmps:Array Value,L0a { tmps,defers:=[] }=e→∃v,(results fn tmps).run P w'=.ok v w'∧R v w'
theorem z8a{P:Program}{fn:Func}{tmps:Array Value}{R:Value→World→Prop}:∀(rs:List Nat) (w:World),rs.Nodup→NC w (D2b rs)→(∀w',D0a rs w w'→w'.heap.size=w.heap.size→∃v,(results fn tmps).run P w'=.ok v w'∧R v w') →
 LeavesInM Fence.wide 0 P fn tmps (fun en w'=>∃v,en=.returned v∧R v w') (rs.map F9a) .returning w
 | [],w,_,_,h=>by
   obtain⟨v,h1,h2⟩:=h w (D0a.refl _ _) Z;exact⟨v,h1,v,Z,h2⟩
 | r::rs,w,hn,hO,h=>by
   obtain⟨a0,b0⟩:=List.nodup_cons.1 hn;have hr:w.heap[r]?=some (.deferred (some [])):=(hO (r,.deferred (some [])) (by simp[D2b])).1;refine⟨by simp,.inl ⟨r,_,Z,run_takeDeferred hr,z8a rs _ b0 (fun x hx=>⟨?_,(hO x (by simp[D2b] at hx ⊢;exact .inr hx)).2⟩) fun w' hb hs=>?_⟩⟩
   ·rw[World.putObj_heap_other (show x.1≠r from fun he=>a0 (by rw[←he];exact g0c hx))];exact(hO x (by simp[D2b] at hx ⊢;exact .inr hx)).1
   ·refine h w' ⟨hb.os,hb.tape,hb.output,by simpa using hb.size,fun k hk hm=>?_⟩ (by simpa using hs);simp only[List.mem_cons,not_or] at hm;rw[hb.block k (by simpa using hk) hm.2,World.putObj_heap_other hm.1]
theorem x9a{P:Program}{N:Nat}{w:World}{f:FuncId}{fn:Func}{c:Code}{args:Array Value}{R:Value→World→Prop}(hf:P.funcs[f]?=some fn)(hb:fn.body=some c)(hN:fn.ntmps=N)(a0:Nat.ble args.size N=true)
 (h:W P none N c ⟨Z6a P fn R,fun _ _ _ _=>False,Z6a P fn R⟩ [] (S9a args) w):E0a P f args w R:=by
 subst hN;unfold W at h;have b0:(args++Array.replicate (fn.ntmps-args.size) undef).size=fn.ntmps:=by
  have:=Nat.le_of_ble_eq_true a0;simp;omega
 have h1:=h { tmps:=args++Array.replicate (fn.ntmps-args.size) undef,defers:=[] } b0 Z (a0b _ _);have key:∀(a:Act) (w:World),Z6a P fn R a.defers (L0a a) w→LeavesInM Fence.wide 0 P fn a.tmps (fun en w'=>∃v,en=.returned v∧R v w') a.defers .returning w:=by
  intro a w hq;obtain⟨rs,hD,hn,hO,hq⟩:=hq;rw[hD];exact z8a rs w hn hO fun w' hb hs=>hq w' hb hs a.tmps Z
 refine callsIn_wide (n:=0).1 (callsIn_of_wp_marks hf hb trivial (wpIn_mono h1 fun ex a w hq=>?_));cases ex with
 | normal=>exact key a w hq.2
 | ret=>exact key a w hq.2
 | exit id=>exact hq.2
 | goto l=>exact hq
 | panic c=>exact hq.elim
 | outgrown=>exact hq.elim
theorem u0a.of_belowM{M:List Nat}{w w':World}(h:D0a M w w'):u0a M w w':=⟨h.size,h.block⟩
theorem D9a{w wi:World}{rs:List (Nat×Obj)}{rc:Loop}(hO:NC w rs)(a0:wi.heap[w.heap.size]?=some (.deferred (some [])))(hl:wi.heap[w.heap.size+1]?=some (.loop rc))(hB:Below w.heap.size w wi):NC wi ((w.heap.size+1,.loop rc)::(w.heap.size,.deferred (some []))::rs) :=
 ((hO.keep (u0a.of_below hB)).cons a0 (by simp)).cons hl (by simp)
theorem R7b{rc:Loop}(b0:rc.state=.ready)(a0:rc.pending=none):({ ({ rc with state:=.busy }:Loop) with state:=if(none:Option Code).isNone then .ready else .done,pending:=none }:Loop)=rc:=by
 cases rc;simp at b0 a0 ⊢;exact⟨b0.symm,a0.symm⟩
theorem D1b{M:List Nat}{w0 w:World}{L:List Ent}(S:St M w0 w L)(k:Nat){G:Option Nat}{t:TypeId}{cs:List Value}(hk:L[k]?=some (G,t,cs)):∀g∈G.toList,∃t cs,m0a w (g,t,cs):=fun g hg=>by
 have:G=some g:=by cases G<;>simp at hg ⊢;exact hg.symm
 subst this;exact⟨_,_,S.blk k hk⟩
theorem z1c{w0 w:World}{L:List Ent}{M:List Nat}(S:St [] w0 w L){i j g g' t t':Nat}{cs a0:List Value}(h0:L[i]?=some (some g,t,cs))(h1:L[j]?=some (some g',t',a0)):∀x∈g::g'::M,x∈M∨w0.heap.size≤x:=fun x hx=>by
 rcases List.mem_cons.1 hx with rfl|hx
 ·exact .inr (by simpa using S.new i h0)
 ·rcases List.mem_cons.1 hx with rfl|hx
  ·exact .inr (by simpa using S.new j h1)
  ·exact .inl hx
theorem x0d{w0 w:World}{L:List Ent}{M:List Nat}(S:St [] w0 w L){i j g g' t t':Nat}{cs a0:List Value}(h0:L[i]?=some (some g,t,cs))(h1:L[j]?=some (some g',t',a0))(hM:∀g∈M,g<w0.heap.size):∀x∈g::g'::M,x<w.heap.size:=fun x hx=>by
 rcases List.mem_cons.1 hx with rfl|hx
 ·exact S.lt i h0
 ·rcases List.mem_cons.1 hx with rfl|hx
  ·exact S.lt j h1
  ·exact Nat.lt_of_lt_of_le (hM x hx) S.size
theorem InP.two{p:o0a}{M:List Nat}{w0 w:World}{cs:List Value}(h:InP p M w0 cs){L:List Ent}(S:St [] w0 w L){i j g g' t t':Nat}{ds a0:List Value}(h0:L[i]?=some (some g,t,ds))(h1:L[j]?=some (some g',t',a0)):InP p (g::g'::M) w cs :=
 ⟨(h.rd.more (z1c S h0 h1)).keep (S.keep0 _),h.ok,(h.msk.more (z1c S h0 h1)).keep (S.keep0 _),x0d S h0 h1 h.lt⟩
def Q1d(p:o0a)(m:Int)(c:u2a):List D3a→List u2a
 | []=>[]
 | x::l=>if x∈m3c p m c then doC p m c x::Q1d p m (doC p m c x) l else[]
def C2d(p:o0a)(m:Int)(run:List D3a):List u2a:=S0b p::Q1d p m (S0b p) run
theorem N3b{M:List Nat}{w w':World}{b:Blk}(hk:u0a M w w')(hm:b.1∉M)(h:m0a w b):m0a w' b:=by
 have:=h.lt;unfold m0a at *;rw[hk.same _ this hm];exact h
theorem InP.grow{p:o0a}{Bs0 M0 N:List Nat}{w0 w:World}{cs:List Value}(h:InP p (Bs0++M0) w0 cs)(hK:u0a Bs0 w0 w)(hN:∀g∈N,g∈Bs0++M0∨w0.heap.size≤g)(a0:∀g∈N,g<w.heap.size):InP p N w cs:=by
 have hm:∀g∈Bs0++N,g∈Bs0++M0∨w0.heap.size≤g:=fun g hg=>by
  rcases List.mem_append.1 hg with h|h
  ·exact .inl (List.mem_append_left _ h)
  ·exact hN g h
 have hk:u0a (Bs0++N) w0 w:=hK.mono fun g hg=>List.mem_append_left _ hg;exact⟨((h.rd.more hm).keep hk).less fun g hg=>List.mem_append_right _ hg,h.ok,⟨fun hh=>((h.msk.more hm).keep hk).1 (List.mem_append_right _ hh),((h.msk.more hm).keep hk).2⟩,a0⟩
structure H5c (p:o0a) (m:Int) (run:List D3a) (l:Nat) (Bs0 M0:List Nat) (w0:World) (J:Nat→Nat→List Nat→World→Prop) (Q:World→Prop):Prop where
 start:∀g5 w,w0.heap.size≤g5→Below w0.heap.size w0 w→J g5 0 Bs0 w
 own:∀g5 k Bs w w',w0.heap.size≤g5→g5∉Bs→J g5 k Bs w→D0a [g5] w w'→J g5 k Bs w'
 lt:∀g5 k Bs w,J g5 k Bs w→∀g∈Bs,g<w.heap.size
 each:∀g5 k Bs w c ys (err:Int),w0.heap.size≤g5→g5<w.heap.size→g5∉Bs→J g5 k Bs w→u0a Bs0 w0 w→((err=0∧(C2d p m run)[k]?=some c)∨(err=110∧k=(C2d p m run).length∧(C2d p m run).length≤run.length∧c=⟨[],[],[]⟩))→s2a (g5::(Bs++M0)) w c ys →
  Yld prog l #[.agg ys.toArray,.int .i64 err] w fun v w'=>(err=0∧v=.bool true∧∃Bs',J g5 (k+1) Bs' w'∧u0a Bs w w'∧∀g∈Bs',g∈Bs∨w.heap.size≤g)∨(err=110∧v=.bool false∧Q w')
section
variable {p:o0a} {m:Int} {run:List D3a} {l:Nat} {Bs0 M0:List Nat} {w0:World} {J:Nat→Nat→List Nat→World→Prop} {Q:World→Prop}
theorem H5c.round(h:H5c p m run l Bs0 M0 w0 J Q):∀g5 k Bs w c ys,w0.heap.size≤g5→g5<w.heap.size→g5∉Bs→J g5 k Bs w→u0a Bs0 w0 w→(C2d p m run)[k]?=some c→s2a (g5::(Bs++M0)) w c ys→Yld prog l #[.agg ys.toArray,.int .i64 0] w fun v w'=>v=.bool true∧∃a0,J g5 (k+1) a0 w'∧u0a Bs w w'∧∀g∈a0,g∈Bs∨w.heap.size≤g :=
 fun g5 k Bs w c ys h1 h2 h3 h4 h5 h6 h7=>(h.each g5 k Bs w c ys 0 h1 h2 h3 h4 h5 (.inl ⟨Z,h6⟩) h7).mono fun v w' hh=>by
  rcases hh with⟨_,hh⟩|⟨hh,_⟩
  ·exact hh
  ·omega
end
theorem s2a.grow{c:u2a}{ys:List Value}{g5:Nat}{Bs a0 M0:List Nat}{w w':World}(h:s2a (g5::(Bs++M0)) w c ys)(hk:u0a Bs w w')(hb:∀g∈a0,g∈Bs∨w.heap.size≤g):s2a (g5::(a0++M0)) w' c ys:=by
 have h1:s2a (Bs++(g5::(a0++M0))) w c ys:=h.more fun g hg=>by
  simp only[List.mem_append,List.mem_cons] at hg ⊢;rcases hg with hg|rfl|hg|hg
  ·exact .inl (.inr (.inl hg))
  ·exact .inl (.inl Z)
  ·rcases hb g hg with h|h
   ·exact .inl (.inr (.inl h))
   ·exact .inr h
  ·exact .inl (.inr (.inr hg))
 exact(h1.keep (hk.mono fun g hg=>List.mem_append_left _ hg)).less fun g hg=>List.mem_append_right _ hg
theorem St.other{M:List Nat}{w0 w w':World}{L:List Ent}(S:St M w0 w L){g:Nat}(hb:D0a [g] w w')(hg:w0.heap.size≤g)(hn:g∉g3b L):St M w0 w' L:=by
 refine⟨⟨hb.os.trans S.below.os,hb.tape.trans S.below.tape,hb.output.trans S.below.output,Nat.le_trans S.below.size hb.size,fun k hk hm=>?_⟩,fun b hm x hx=>?_,S.apart⟩
 ·rw[hb.block k (Nat.lt_of_lt_of_le hk S.below.size) (by rw[List.mem_singleton];omega)];exact S.below.block k hk hm
 ·obtain⟨h1,h2⟩:=S.own b hm x hx;refine⟨h1,?_⟩;have a0:=h2.lt;unfold m0a at *;rw[hb.block x a0 (by rw[List.mem_singleton];rintro rfl;exact hn (R3a.2 ⟨b,hm,hx⟩))];exact h2
section
variable {P:Program} {r:Option Nat} {N:Nat} {D:List Deferred} {e:Env} {w w0:World} {ops:Array Oper} {rest:List Oper} {K:List Deferred→Env→World→Prop} {L:List Ent} {M:List Nat}
variable {d:Nat} {t:TypeId} {p:String} {af:Array Edge} {x y:Operand} {yt:TypeId}
theorem I1c{ty te:TypeId}(hu:P.underlying ty=some (.pointer te))(w:World)(v:Option Addr):(binOp .eql ty (.pointer v) (.pointer none)).run P w=.ok (.bool v.isNone) w:=by
 have h:∀k:Nat,(Op.equalIn (k+1) ty (.pointer v) (.pointer none)).run P w=.ok v.isNone w:=fun k=>by
  cases v<;>simp[Op.equalIn,run_underlying hu]
 simp only[binOp];simp[Op.equal,Op.maxDepth,h 9999]
theorem L9b{ty te:TypeId}{v:Option Addr}(hu:P.underlying ty=some (.pointer te))(hx:ev e x=.pointer v)(hy:ev e y=.pointer none)(hd:Nat.ble (d+1) N=true)(h:WL P r N ops rest K D (upd e d (.bool v.isNone)) w):
 WL P r N ops (⟨some d,.binOp .eql ty x y yt,t,p,af,none⟩::rest) K D e w :=
 P0a Z Z hd (by simp[execOp,hx,hy,eqGuard,I1c hu]) h
theorem M6c{ty te:TypeId}{j:TypeInfo}{a:Addr}(hu:P.underlying ty=some (.pointer te))(hj:P.info? te=some j)(hx:ev e x=.pointer (some a))(hy:ev e y=.pointer (some a))(hd:Nat.ble (d+1) N=true)(h:WL P r N ops rest K D (upd e d (.bool false)) w):
 WL P r N ops (⟨some d,.binOp .neq ty x y yt,t,p,af,none⟩::rest) K D e w :=
 P0a Z Z hd (by simp[execOp,hx,hy,eqGuard,Lib.run_neq_ptr_same w a hu hj]) h
theorem t5c{src dst:TypeId}{v u:Value}(hx:ev e x=v)(hc:(convert src dst v).run P w=.ok u w)(hd:Nat.ble (d+1) N=true)(h:WL P r N ops rest K D (upd e d u) w):
 WL P r N ops (⟨some d,.convert src dst x,t,p,af,none⟩::rest) K D e w :=
 P0a Z Z hd (by simp[execOp,hx,hc]) h
theorem g3d{f:FuncId}{at_:Array TypeId}{v:Value}(hx:ev e x=v)(hc:(callFunc f #[v]).run P w=.ok (.value v) w)(hd:Nat.ble (d+1) N=true)(h:WL P r N ops rest K D (upd e d v) w):
 WL P r N ops (⟨some d,.call { callee:=.value (.func f),args:=#[x],argTypes:=at_ },t,p,af,none⟩::rest) K D e w :=
 P0a Z Z hd (by
  have h1:ev e (.func f)=.func (.func f) #[] #[]:=Z;simp[execOp,resolve,Deferred.ofValue,invoke,h1,hx,hc]) h
theorem t2c{ty u el c0 n B:Nat}{z v:Value}{xs:List Value}{s:ByteArray}(S:St M w0 w L)(hS:SlZ P ty el 1 z c0)(q0:z=.int .u8 0)(n0:c0=1)(hu:P.underlying u=some .string)(i0:w.ownsRow B el 1 v n xs)(m0:B≤w.heap.size)(hM:∀g,v.ownBlock=some g→w0.heap.size≤g∨g∈M)(g0:∀b∈L,∀g,b.1=some g→v.ownBlock≠some g)
 (hx:ev e x=v) (hy:ev e y=.string s) (hn:n+s.size≤140737488355328) (hd:Nat.ble (d+1) N=true)
 (h:∀A m c w1,w1.ownsRow B el 1 (.slice A m c) (n+s.size) (xs++Lib.strCells s)→St M w0 w1 L→u0a v.ownBlock.toList w w1→WL P r N ops rest K D (upd e d (.slice A m c)) w1) :
 WL P r N ops (⟨some d,.call { callee:=.builtin .append,args:=#[x,y],argTypes:=#[ty,u] },t,p,af,none⟩::rest) K D e w:=by
 subst q0;subst n0;obtain⟨i,hi,hz,p0,o0⟩:=hS.parts;obtain⟨v',w1,j0,d0,a0,_⟩:=Lib.run_append_own_string (P:=P) w B ty u t el i hS.und hu hi hz p0 o0 v n xs i0 s (by unfold maxLen;omega) hn m0;obtain⟨A,m,c,rfl⟩:∃A m c,v'=.slice A m c:=by
  rcases d0.2 with⟨hv,_⟩|⟨g,r0,s0,hv,_⟩
  ·exact⟨_,_,_,hv⟩
  ·exact⟨_,_,_,hv⟩
 have b0:∀q,q<w.heap.size→v.ownBlock≠some q→w1.heap[q]?=w.heap[q]?:=fun q hq g0=>a0.block q hq (fun hh=>g0 hh.symm);have f0:u0a v.ownBlock.toList w w1:=⟨a0.size,fun q hq hm=>b0 q hq (fun hh=>hm (by rw[hh];simp))⟩;have e0:D0a M w0 w1:=⟨a0.os.trans S.below.os,a0.tape.trans S.below.tape,a0.output.trans S.below.output,Nat.le_trans S.size a0.size,fun q hq hm =>
  (b0 q (Nat.lt_of_lt_of_le hq S.size) (fun hh=>by
    rcases hM q hh with h'|h'
    ·omega
    ·exact hm h')).trans (S.below.block q hq hm)⟩
 refine P0a (v:=.slice A m c) (w':=w1) Z Z hd ?_ (h A m c w1 d0 (S.keeps e0 fun b hb g hg=>?_) f0)
 ·simp[execOp,resolve,invoke,builtin,hx,hy,j0]
 ·exact b0 g (S.own b hb g hg).2.lt (g0 b hb g hg)
end
theorem G1a{w w':World}{B e n:Nat}{v:Value}{xs:List Value}(h:w.ownsRow B e 1 v n xs){Gs:List Nat}(k:u0a Gs w w')(hg:∀g∈Gs,g<B:=by simp):w'.ownsRow B e 1 v n xs:=by
 obtain⟨h1,h2⟩:=h;refine⟨h1,?_⟩;rcases h2 with h2|⟨g,a0,b0,q1,q2,q3,q4⟩
 ·exact .inl h2
 ·refine .inr ⟨g,a0,b0,q1,q2,?_,q4⟩;have c0:g<w.heap.size:=by
   rcases Nat.lt_or_ge g w.heap.size with h'|h'
   ·exact h'
   ·rw[Array.getElem?_eq_none h'] at q3;cases q3
  rw[k.same g c0 (fun hh=>by have:=hg g hh;omega)];exact q3
theorem O6a{w:World}{B e n:Nat}{v:Value}{xs:List Value}(h:w.ownsRow B e 1 v n xs){g:Nat}(hg:v.ownBlock=some g):B≤g∧g<w.heap.size:=by
 rcases h.2 with⟨rfl,_⟩|⟨g',a0,b0,rfl,q2,q3,q4⟩
 ·simp[Value.ownBlock] at hg
 ·simp[Value.ownBlock] at hg;subst hg;refine⟨q2,?_⟩;rcases Nat.lt_or_ge g' w.heap.size with h'|h'
  ·exact h'
  ·rw[Array.getElem?_eq_none h'] at q3;cases q3
theorem J4b(g:Nat)(pv vb:Value)(e0:pv=.pointer none∨pv=.pointer (some ⟨g,0,none⟩))(w0:World)(hb:m0a w0 (g,145,[pv,vb])):
 E0a prog 149 #[.pointer (some ⟨g,0,none⟩)] w0 fun _ w'=>m0a w' (g,145,[.pointer (some ⟨g,0,none⟩),vb])∧D0a [g] w0 w':=by
 have S:=St.borrow1 hb;obtain⟨j,hj,d0⟩:∃j,prog.info? 145=some j∧j.size=2:=by
  have:(prog.info? 145).map (·.size)=some 2:=by kernel_rfl
  obtain⟨j,h1,h2⟩:=Option.map_eq_some_iff.1 this;exact⟨j,h1,h2⟩
 have b0:∀w:World,m0a w (g,145,[pv,vb])→w.shape? g=some (145,2):=fun w h=>by
  unfold m0a at h;simp[World.shape?,h]
 rcases e0 with rfl|rfl;refine a0a func149 Z ntmps149 Z ?_;refine wO0 Z U (B0a r2b Z (by first|exact S.cell 0 Z Z) Z ?_);refine L9b Tryz.underlying143 Z Z Z ?_;refine lO0 Z U ?_;refine t5c Z (Lib.run_to_unsafe w0 ⟨g,0,none⟩ Tryz.underlying143 Tryz.underlying237 hj (by rw[d0];decide) (b0 _ (S.blk 0 Z)) (Nat.zero_lt_succ 1)) Z ?_;refine g3d Z (by rw[run_callFunc_extern func200 (by kernel_rfl) (by kernel_rfl) (by kernel_rfl) (e:=Extern.AbiNoEscape.same) (by kernel_rfl),Lib.run_noEscape];rfl) Z ?_;refine t5c Z (Lib.run_from_unsafe w0 ⟨g,0,none⟩ Tryz.underlying237 Tryz.underlying143 hj (b0 _ (S.blk 0 Z)) (by kernel_rfl)) Z ?_;refine lO0 Z U ?_
 first|refine c1a (kk:=0) S u2d Z Z Z (by exact Nat.le_of_ble_eq_true Z) ?_
 intro f0 a0 c0;refine lF0 Z U (C1a Z ?_);exact⟨a0.blk 0 Z,a0.below⟩;refine a0a func149 Z ntmps149 Z ?_;refine wO0 Z U (B0a r2b Z (by first|exact S.cell 0 Z Z) Z ?_);refine L9b Tryz.underlying143 Z Z Z ?_;refine lO0 Z U (B0a r2b Z (by first|exact S.cell 0 Z Z) Z ?_);refine lOn 1 S.k [] Z U (M6c Tryz.underlying143 hj Z Z Z ?_);refine lF0 Z U (C1a Z ?_);exact⟨S.blk 0 Z,S.below⟩
theorem n2a(B g:Nat)(t0:g<B)(pv vb:Value)(o0:pv=.pointer none∨pv=.pointer (some ⟨g,0,none⟩))(n:Nat)(bs:List Value)(s:ByteArray)(w0:World)(j0:B≤w0.heap.size)(hb:m0a w0 (g,145,[pv,vb]))(e0:w0.ownsRow B 5 1 vb n bs)(n0:n+s.size≤1000000):
 E0a prog 96 #[.pointer (some ⟨g,0,none⟩),.string s] w0 fun _ w'=>(∃g0,m0a w' (g,145,[.pointer (some ⟨g,0,none⟩),g0])∧w'.ownsRow B 5 1 g0 (n+s.size) (bs++Lib.strCells s))∧D0a (g::vb.ownBlock.toList) w0 w':=by
 have S:St (g::vb.ownBlock.toList) w0 w0 [(some g,145,[pv,vb])]:=(St.reflM _ w0).push hb (.inr (by simp)) (by simp);refine a0a func96 Z ntmps96 Z ?_;refine wO0 Z U (J1a p9c Z Z (J4b g pv vb o0 _ (S.blk 0 Z)) ?_);rintro v7 w7 ⟨m0,B7⟩;have S7:=S.changed1 0 Z B7 m0;have a0:=G1a (hg:=(fun x hx=>by rw[List.mem_singleton] at hx;omega)) e0 (u0a.of_belowM B7);refine lO0 Z U (B0a f5c Z (by first|exact S7.cell 0 Z Z) Z ?_);refine lO0 Z U ?_;refine t2c S7 g5c Z Z Tryz.underlying9 a0 (Nat.le_trans j0 S7.size) (fun x hx=>.inr (by simp[hx])) (fun b f0 x hx hh=>by simp at f0;subst f0;cases hx;have:=(O6a a0 hh).1;omega) Z Z (by omega) Z ?_;intro q0 u0 s0 v0 b0 i0 r0;refine lO0 Z U ?_
 first|refine c1a (kk:=0) i0 t3d Z Z Z (by exact Nat.le_of_ble_eq_true Z) ?_
 intro p0 c0 d0;refine lO0 Z U (y9a Tryz.underlying9 Z Z ?_);refine lR0 Z U (V4c Z ?_);exact⟨⟨_,c0.blk 0 Z,G1a (hg:=(fun x hx=>by rw[List.mem_singleton] at hx;omega)) b0 d0⟩,c0.below⟩
def i6a(l:List UInt8):ByteArray:=⟨l.toArray⟩
theorem J2a(l:List UInt8):(i6a l).size=l.length:=by simp[i6a,ByteArray.size]
theorem d6b(a b:List UInt8):i6a a++i6a b=i6a (a++b):=by
 apply ByteArray.ext;simp[i6a]
section
variable {P:Program} {r:Option Nat} {N:Nat} {D:List Deferred} {e:Env} {w w0:World} {ops:Array Oper} {rest:List Oper} {K:List Deferred→Env→World→Prop} {L:List Ent} {M:List Nat}
variable {d:Nat} {t:TypeId} {p:String} {af:Array Edge} {x y:Operand} {xt yt:TypeId} {C:World→Prop} {Kq:Env→Prop}
theorem N2c{xt:TypeId}(w:World)(a b:List UInt8)(h:a.length+b.length≤1000000):(binOp .add xt (.string (i6a a)) (.string (i6a b))).run P w=.ok (.string (i6a (a++b))) w:=by
 have h1:((i6a a).size:Int)≤8388608:=by rw[J2a];omega
 have h2:((i6a b).size:Int)≤8388608:=by rw[J2a];omega
 simp[binOp,run_string_add w (i6a a) (i6a b) h1 h2,d6b]
theorem u7a{a b:List UInt8}(hx:ev e x=.string (i6a a))(hy:ev e y=.string (i6a b))(hs:a.length+b.length≤1000000)(hd:Nat.ble (d+1) N=true)(h:QL P N ops C rest Kq (upd e d (.string (i6a (a++b))))):
 QL P N ops C (⟨some d,.binOp .add xt x y yt,t,p,af,none⟩::rest) Kq e :=
 D2a Z Z hd (fun w _=>by simp[execOp,hx,hy,eqGuard,N2c w a b hs]) h
end
def o8b(n:Int):List UInt8:=Lib.decDigits n.toNat
theorem a6a{n:Int}(h0:0≤n)(h:n<100):(o8b n).length≤2:=by
 unfold o8b;generalize hk:n.toNat=k;rw[Lib.decDigits]
 split
 ·simp
 ·rw[Lib.decDigits,dif_pos (by omega)];simp
def P0c(op:Int):List UInt8:=if op=2 then[99] else if op=3 then[111] else[]
theorem L1b(op:Int):(P0c op).length≤1:=by
 unfold P0c
 split
 ·simp
 ·split<;>simp
def P0b:List (List UInt8):=[[110,111,116],[97,110,100],[111,114],[120,111,114],[97,100,100],[115,117,98],[109,117,108],[101,113],[108,116],[108,101],[105,116,101]]
mutual
def E.txt:E→List UInt8
 | ⟨op,w,n,ks⟩=>if op=1∨op=2∨op=3 then P0c op++o8b n++[58]++o8b w else P0b.getD (op-4).toNat []++E.txts ks 40++[41]
def E.txts:List E→UInt8→List UInt8
 | [],_=>[]
 | k::ks,c=>c::(E.txt k++E.txts ks 44)
end
mutual
def E.txB:E→Bool
 | ⟨op,w,n,ks⟩=>if op=1∨op=2∨op=3 then decide (0≤n∧n<100∧0≤w∧w<100) else decide (4≤op∧op≤14)&&E.txBs ks
def E.txBs:List E→Bool
 | []=>true
 | k::ks=>E.txB k&&E.txBs ks
end
theorem E.txt_leaf{e:E}(h:e.op=1∨e.op=2∨e.op=3):e.txt=P0c e.op++o8b e.n++[58]++o8b e.w:=by cases e;simp only[E.txt];rw[if_pos h]
theorem E.txt_node{e:E}(h:¬(e.op=1∨e.op=2∨e.op=3)):e.txt=P0b.getD (e.op-4).toNat []++E.txts e.kids 40++[41]:=by cases e;simp only[E.txt];rw[if_neg h]
theorem E.txB_leaf{e:E}(h:e.op=1∨e.op=2∨e.op=3)(hb:e.txB=true):0≤e.n∧e.n<100∧0≤e.w∧e.w<100:=by
 cases e;simp only[E.txB] at hb;rw[if_pos h] at hb;exact of_decide_eq_true hb
theorem E.txBs_iff(ks:List E):E.txBs ks=true↔∀k∈ks,k.txB=true:=by
 induction ks with
 | nil=>simp[E.txBs]
 | cons k ks ih=>simp[E.txBs,ih]
theorem E.txB_node{e:E}(h:¬(e.op=1∨e.op=2∨e.op=3))(hb:e.txB=true):(4≤e.op∧e.op≤14)∧∀k∈e.kids,k.txB=true:=by
 cases e;simp only[E.txB] at hb;rw[if_neg h,Bool.and_eq_true,E.txBs_iff] at hb;exact⟨of_decide_eq_true hb.1,hb.2⟩
theorem E.txts_snoc:∀(l:List E) (x:E) (c:UInt8),E.txts (l++[x]) c=E.txts l c++((if l=[] then c else 44)::x.txt)
 | [],x,c=>by simp[E.txts]
 | y::l,x,c=>by
   rw[List.cons_append];simp only[E.txts];rw[E.txts_snoc l x 44];simp
theorem E.txts_take{ks:List E}{k:Nat}{x:E}(c:UInt8)(h:ks[k]?=some x):E.txts (ks.take (k+1)) c=E.txts (ks.take k) c++((if k=0 then c else 44)::x.txt):=by
 rw[F0a h,E.txts_snoc]
 congr 2
 have hl:k<ks.length:=(List.getElem?_eq_some_iff.1 h).1;by_cases hk:k=0
 ·subst hk;simp
 ·rw[if_neg hk,if_neg (fun hh=>hk (by have:=congrArg List.length hh;rw[List.length_take,List.length_nil] at this;omega))]
theorem E.txts_pre(ks:List E)(c:UInt8)(k:Nat):(E.txts (ks.take k) c).length≤(E.txts ks c).length:=by
 induction ks generalizing c k with
 | nil=>simp
 | cons y ks ih =>
   cases k with
   | zero=>simp[E.txts]
   | succ k =>
     have:=ih 44 k;simp only[List.take_succ_cons,E.txts,List.length_cons,List.length_append];omega
structure BX (B g:Nat) (w w':World):Prop where
 os:w'.os=w.os
 tape:w'.tape=w.tape
 output:w'.output=w.output
 size:w.heap.size≤w'.heap.size
 block:∀k,k<B→k≠g→w'.heap[k]?=w.heap[k]?
theorem BX.trans{B g:Nat}{a b c:World}(h:BX B g a b)(h2:BX B g b c):BX B g a c:=⟨h2.os.trans h.os,h2.tape.trans h.tape,h2.output.trans h.output,Nat.le_trans h.size h2.size,fun k h1 h3=>(h2.block k h1 h3).trans (h.block k h1 h3)⟩
def MB(B g:Nat)(w:World):List Nat:=g::List.range' B (w.heap.size-B)
theorem q7a{B g k:Nat}{w:World}:k∈MB B g w↔k=g∨(B≤k∧k<w.heap.size):=by
 unfold MB;rw[List.mem_cons,List.mem_range'_1];constructor
 ·rintro(h|h)
  ·exact .inl h
  ·exact .inr (by omega)
 ·rintro(h|h)
  ·exact .inl h
  ·exact .inr (by omega)
theorem BX.ofB{B g:Nat}{M:List Nat}{w w':World}(h:D0a M w w')(hM:∀x∈M,x=g∨B≤x)(hB:B≤w.heap.size):BX B g w w':=⟨h.os,h.tape,h.output,h.size,fun k h1 h2=>h.block k (by omega) fun hh=>by rcases hM k hh with h3|h3<;>omega⟩
theorem St.bx{B g:Nat}{w0 w:World}{L:List Ent}(S:St (MB B g w0) w0 w L)(hB:B≤w0.heap.size):BX B g w0 w:=BX.ofB S.below (fun _ hx=>(q7a.1 hx).imp id And.left) hB
theorem St.wrote{B g t:Nat}{w0 w w':World}{L:List Ent}{a0:List Value}(S:St (MB B g w0) w0 w L)(h:BX B g w w')(hb:m0a w' (g,t,a0)):St (MB B g w0) w0 w' [(some g,t,a0)]:=by
 have S1:St (MB B g w0) w0 w' []:=⟨⟨h.os.trans S.below.os,h.tape.trans S.below.tape,h.output.trans S.below.output,Nat.le_trans S.below.size h.size,fun k h1 h2=>by
  have h3:k<B∧k≠g:=by
   rcases Nat.lt_or_ge k B with h4|h4
   ·exact⟨h4,fun h5=>h2 (q7a.2 (.inl h5))⟩
   ·exact absurd (q7a.2 (.inr ⟨h4,h1⟩)) h2
  exact(h.block k h3.1 h3.2).trans (S.below.block k h1 h2)⟩,by simp,by simp⟩
 exact S1.push hb (.inr (q7a.2 (.inl Z))) (by simp)
end Go.Fw
namespace Go.Proofs
open Go.Fw Go.RowKit Go.ChangeShapes Go.WideShapes Go.Shelf Tryz
def Tryz.lays169_ren:Go.Shelf.Ren:=⟨fun|169=>99|n=>n,fun|70=>143|9=>9|0=>0|72=>145|37=>47|127=>199|3=>3|5=>5|n=>n,fun|n=>n⟩
theorem Tryz.lays169:Go.Proofs.Lays.n169 prog Tryz.lays169_ren:={
 mixed:=by kernel_rfl
 f169:=func99.trans (congrArg some (by kernel_rfl))
 t0:=Tryz.underlying0
 a0:=Tryz.isAgg0
 z0:=Tryz.sizeOf0
 v0:=Tryz.zeroValue0
 t3:=Tryz.underlying3
 a3:=Tryz.isAgg3
 z3:=Tryz.sizeOf3
 v3:=Tryz.zeroValue3
 t9:=Tryz.underlying9
 a9:=Tryz.isAgg9
 z9:=Tryz.sizeOf9
 v9:=Tryz.zeroValue9
 t37:=Tryz.underlying47
 a37:=Tryz.isAgg47
 z37:=Tryz.sizeOf47
 v37:=Tryz.zeroValue47
 t70:=Tryz.underlying143
 a70:=Tryz.isAgg143
 z70:=Tryz.sizeOf143
 v70:=Tryz.zeroValue143
 t72:=Tryz.underlying145
 a72:=Tryz.isAgg145
 z72:=Tryz.sizeOf145
 v72:=Tryz.zeroValue145
 t127:=Tryz.underlying199
 a127:=Tryz.isAgg199
 z127:=Tryz.sizeOf199
 v127:=Tryz.zeroValue199 }
theorem Tryz.Builder_Extra_169:Builder.Extra prog Tryz.lays169_ren:={
 sizeBuilder:=by kernel_rfl
 liesBuilder:=by kernel_rfl
 t5:=Tryz.underlying5
 a5:=Tryz.isAgg5
 z5:=Tryz.sizeOf5
 v5:=Tryz.zeroValue5
 infoByte:=by kernel_rfl
 cellsByte:=by kernel_rfl
 sizeByte:=by kernel_rfl
 neB5:=by decide }
open Go.RowKit in
theorem Tryz.Builder_String_any(B b:Nat)(l:List UInt8)(w:World)(h:Lib.IsBuilder 145 5 B b (Lib.byteCells l) w)(hBw:B≤w.heap.size):
 Calls prog 99 #[.pointer (some ⟨b,0,none⟩)] w fun e w'=>e=.returned (.string ⟨l.toArray⟩)∧Below B w w':=Any.Builder_String_any Tryz.lays169 Tryz.Builder_Extra_169 B b l w h hBw
def Tryz.lays122_ren:Go.Shelf.Ren:=⟨fun|122=>158|215=>223|n=>n,fun|3=>3|4=>4|n=>n,fun|n=>n⟩
theorem Tryz.lays122:Go.Proofs.Lays.n122 prog Tryz.lays122_ren:={
 mixed:=by kernel_rfl
 f122:=func158.trans (congrArg some (by kernel_rfl))
 f215:=func223.trans (congrArg some (by kernel_rfl))
 t3:=Tryz.underlying3
 a3:=Tryz.isAgg3
 z3:=Tryz.sizeOf3
 v3:=Tryz.zeroValue3
 t4:=Tryz.underlying4
 a4:=Tryz.isAgg4
 z4:=Tryz.sizeOf4
 v4:=Tryz.zeroValue4 }
open Go.RowKit in
theorem Tryz.cmp_Compare_int(x y:Int)(w:World):
 Calls prog 158 #[.int .i64 x,.int .i64 y] w fun e w'=>e=.returned (.int .i64 (Lib.compareInt x y))∧w'=w:=Any.cmp_Compare_int Tryz.lays122 x y w
def Tryz.lays171_ren:Go.Shelf.Ren:=⟨fun|171=>98|243=>150|246=>201|283=>242|284=>243|285=>244|286=>245|129=>188|317=>264|318=>265|319=>266|320=>267|337=>278|338=>258|n=>n,fun|3=>3|9=>9|2=>2|4=>4|171=>270|0=>0|53=>171|37=>47|5=>5|173=>272|212=>288|51=>67|20=>20|213=>289|46=>137|232=>296|233=>292|n=>n,fun|17=>2|18=>4|19=>3|n=>n⟩
theorem Tryz.lays171:Go.Proofs.Lays.n171 prog Tryz.lays171_ren:={
 mixed:=by kernel_rfl
 f129:=func188.trans (congrArg some (by kernel_rfl))
 f171:=func98.trans (congrArg some (by kernel_rfl))
 f243:=func150.trans (congrArg some (by kernel_rfl))
 f246:=func201.trans (congrArg some (by kernel_rfl))
 f283:=func242.trans (congrArg some (by kernel_rfl))
 f284:=func243.trans (congrArg some (by kernel_rfl))
 f285:=func244.trans (congrArg some (by kernel_rfl))
 f286:=func245.trans (congrArg some (by kernel_rfl))
 f317:=func264.trans (congrArg some (by kernel_rfl))
 f318:=func265.trans (congrArg some (by kernel_rfl))
 f319:=func266.trans (congrArg some (by kernel_rfl))
 f320:=func267.trans (congrArg some (by kernel_rfl))
 f337:=func278.trans (congrArg some (by kernel_rfl))
 f338:=func258.trans (congrArg some (by kernel_rfl))
 t0:=Tryz.underlying0
 a0:=Tryz.isAgg0
 z0:=Tryz.sizeOf0
 v0:=Tryz.zeroValue0
 t2:=Tryz.underlying2
 a2:=Tryz.isAgg2
 z2:=Tryz.sizeOf2
 v2:=Tryz.zeroValue2
 t3:=Tryz.underlying3
 a3:=Tryz.isAgg3
 z3:=Tryz.sizeOf3
 v3:=Tryz.zeroValue3
 t4:=Tryz.underlying4
 a4:=Tryz.isAgg4
 z4:=Tryz.sizeOf4
 v4:=Tryz.zeroValue4
 t5:=Tryz.underlying5
 a5:=Tryz.isAgg5
 z5:=Tryz.sizeOf5
 v5:=Tryz.zeroValue5
 t9:=Tryz.underlying9
 a9:=Tryz.isAgg9
 z9:=Tryz.sizeOf9
 v9:=Tryz.zeroValue9
 t20:=Tryz.underlying20
 a20:=Tryz.isAgg20
 z20:=Tryz.sizeOf20
 v20:=Tryz.zeroValue20
 t37:=Tryz.underlying47
 a37:=Tryz.isAgg47
 z37:=Tryz.sizeOf47
 v37:=Tryz.zeroValue47
 t46:=Tryz.underlying137
 a46:=Tryz.isAgg137
 z46:=Tryz.sizeOf137
 v46:=Tryz.zeroValue137
 t51:=Tryz.underlying67
 a51:=Tryz.isAgg67
 z51:=Tryz.sizeOf67
 v51:=Tryz.zeroValue67
 t53:=Tryz.underlying171
 a53:=Tryz.isAgg171
 z53:=Tryz.sizeOf171
 v53:=Tryz.zeroValue171
 t171:=Tryz.underlying270
 a171:=Tryz.isAgg270
 z171:=Tryz.sizeOf270
 v171:=Tryz.zeroValue270
 t173:=Tryz.underlying272
 a173:=Tryz.isAgg272
 z173:=Tryz.sizeOf272
 v173:=Tryz.zeroValue272
 t212:=Tryz.underlying288
 a212:=Tryz.isAgg288
 z212:=Tryz.sizeOf288
 v212:=Tryz.zeroValue288
 t213:=Tryz.underlying289
 a213:=Tryz.isAgg289
 z213:=Tryz.sizeOf289
 t232:=Tryz.underlying296
 a232:=Tryz.isAgg296
 z232:=Tryz.sizeOf296
 v232:=Tryz.zeroValue296
 t233:=Tryz.underlying292
 a233:=Tryz.isAgg292
 z233:=Tryz.sizeOf292
 v233:=Tryz.zeroValue292
 g17:=by kernel_rfl
 g18:=by kernel_rfl
 g19:=by kernel_rfl }
open Go.RowKit Go.Sort Go.Lib in
theorem Tryz.strconv_Itoa_small(i:Nat)(hi:i<100)(w:World):
 Calls prog 98 #[.int .i64 i] w fun e w'=>e=.returned (.string ⟨(Lib.decDigits i).toArray⟩)∧w'=w:=Any.strconv_Itoa_small Tryz.lays171 i hi w
def Tryz.lays189_ren:Go.Shelf.Ren:=⟨fun|189=>68|125=>124|257=>123|128=>187|129=>188|294=>178|295=>179|296=>180|297=>181|298=>182|299=>183|216=>184|300=>185|301=>186|328=>233|329=>234|330=>235|331=>236|332=>237|215=>223|343=>259|n=>n,fun|28=>28|3=>3|46=>137|0=>0|51=>67|53=>171|4=>4|183=>224|182=>223|131=>228|5=>5|9=>9|218=>262|222=>266|228=>284|229=>285|n=>n,fun|n=>n⟩
theorem Tryz.lays189:Go.Proofs.Lays.n189 prog Tryz.lays189_ren:={
 mixed:=by kernel_rfl
 f125:=func124.trans (congrArg some (by kernel_rfl))
 f128:=func187.trans (congrArg some (by kernel_rfl))
 f129:=func188.trans (congrArg some (by kernel_rfl))
 f189:=func68.trans (congrArg some (by kernel_rfl))
 f215:=func223.trans (congrArg some (by kernel_rfl))
 f216:=func184.trans (congrArg some (by kernel_rfl))
 f257:=func123.trans (congrArg some (by kernel_rfl))
 f294:=func178.trans (congrArg some (by kernel_rfl))
 f295:=func179.trans (congrArg some (by kernel_rfl))
 f296:=func180.trans (congrArg some (by kernel_rfl))
 f297:=func181.trans (congrArg some (by kernel_rfl))
 f298:=func182.trans (congrArg some (by kernel_rfl))
 f299:=func183.trans (congrArg some (by kernel_rfl))
 f300:=func185.trans (congrArg some (by kernel_rfl))
 f301:=func186.trans (congrArg some (by kernel_rfl))
 f328:=func233.trans (congrArg some (by kernel_rfl))
 f329:=func234.trans (congrArg some (by kernel_rfl))
 f330:=func235.trans (congrArg some (by kernel_rfl))
 f331:=func236.trans (congrArg some (by kernel_rfl))
 f332:=func237.trans (congrArg some (by kernel_rfl))
 f343:=func259.trans (congrArg some (by kernel_rfl))
 t0:=Tryz.underlying0
 a0:=Tryz.isAgg0
 z0:=Tryz.sizeOf0
 v0:=Tryz.zeroValue0
 t3:=Tryz.underlying3
 a3:=Tryz.isAgg3
 z3:=Tryz.sizeOf3
 v3:=Tryz.zeroValue3
 t4:=Tryz.underlying4
 a4:=Tryz.isAgg4
 z4:=Tryz.sizeOf4
 v4:=Tryz.zeroValue4
 t5:=Tryz.underlying5
 a5:=Tryz.isAgg5
 z5:=Tryz.sizeOf5
 v5:=Tryz.zeroValue5
 t9:=Tryz.underlying9
 a9:=Tryz.isAgg9
 z9:=Tryz.sizeOf9
 v9:=Tryz.zeroValue9
 t28:=Tryz.underlying28
 a28:=Tryz.isAgg28
 z28:=Tryz.sizeOf28
 v28:=Tryz.zeroValue28
 t46:=Tryz.underlying137
 a46:=Tryz.isAgg137
 z46:=Tryz.sizeOf137
 v46:=Tryz.zeroValue137
 t51:=Tryz.underlying67
 a51:=Tryz.isAgg67
 z51:=Tryz.sizeOf67
 v51:=Tryz.zeroValue67
 t53:=Tryz.underlying171
 a53:=Tryz.isAgg171
 z53:=Tryz.sizeOf171
 v53:=Tryz.zeroValue171
 t131:=Tryz.underlying228
 a131:=Tryz.isAgg228
 z131:=Tryz.sizeOf228
 v131:=Tryz.zeroValue228
 t182:=Tryz.underlying223
 a182:=Tryz.isAgg223
 z182:=Tryz.sizeOf223
 v182:=Tryz.zeroValue223
 t183:=Tryz.underlying224
 a183:=Tryz.isAgg224
 z183:=Tryz.sizeOf224
 v183:=Tryz.zeroValue224
 t218:=Tryz.underlying262
 a218:=Tryz.isAgg262
 z218:=Tryz.sizeOf262
 v218:=Tryz.zeroValue262
 t222:=Tryz.underlying266
 a222:=Tryz.isAgg266
 z222:=Tryz.sizeOf266
 v222:=Tryz.zeroValue266
 t228:=Tryz.underlying284
 a228:=Tryz.isAgg284
 z228:=Tryz.sizeOf284
 v228:=Tryz.zeroValue284
 t229:=Tryz.underlying285
 a229:=Tryz.isAgg285
 z229:=Tryz.sizeOf285
 v229:=Tryz.zeroValue285 }
open Go.Sort Go.RowKit in
theorem Tryz.slices_Sort_int(blk off cap:Nat)(zs:List Int)(w:World)(hH:Holds (Value.int .i64) w blk off zs.toArray)(hblk:blk<w.heap.size)(hsz:zs.length<4611686018427387904):
 Calls prog 68 #[.slice (some ⟨blk,off,none⟩) zs.length cap] w fun e w' =>
  e=.returned (.tuple #[])∧∃n os,w'=grow (putRow (Value.int .i64) (Sort.ahead w n) blk off (zs.mergeSort fun x y=>decide (x≤y)).toArray) os:=Any.slices_Sort_int Tryz.lays189 blk off cap zs w hH hblk hsz
def Tryz.laysNm220_ren:Go.Shelf.Ren:=⟨fun|20=>70|n=>n,fun|22=>28|3=>3|4=>4|0=>0|n=>n,fun|n=>n⟩
theorem Tryz.laysNm220:Go.Proofs.Lays2.n20 prog Tryz.laysNm220_ren:={
 mixed:=by kernel_rfl
 f20:=func70.trans (congrArg some (by kernel_rfl))
 t0:=Tryz.underlying0
 a0:=Tryz.isAgg0
 z0:=Tryz.sizeOf0
 v0:=Tryz.zeroValue0
 t3:=Tryz.underlying3
 a3:=Tryz.isAgg3
 z3:=Tryz.sizeOf3
 v3:=Tryz.zeroValue3
 t4:=Tryz.underlying4
 a4:=Tryz.isAgg4
 z4:=Tryz.sizeOf4
 v4:=Tryz.zeroValue4
 t22:=Tryz.underlying28
 a22:=Tryz.isAgg28
 z22:=Tryz.sizeOf28
 v22:=Tryz.zeroValue28
 i3:=by kernel_rfl }
open Go.RowKit Go.Lib Go.Sort in
theorem Tryz.slices_Compact_int(blk off cap:Nat)(zs:List Int)(w:World)(hH:Holds (Value.int .i64) w blk off zs.toArray)(hsz:zs.length≤9223372036854775807)(hcap:zs.length≤cap):
 Calls prog 70 #[.slice (some ⟨blk,off,none⟩) zs.length cap] w fun e w'=>e=.returned (.slice (some ⟨blk,off,none⟩) (Lib.compact zs).length cap)∧∃q,w'=putRow (Value.int .i64) (Sort.ahead w q) blk off (Lib.compact zs++List.replicate (zs.length-(Lib.compact zs).length) 0).toArray:=Any.slices_Compact_int Tryz.laysNm220 blk off cap zs w hH hsz hcap
open Go.RowKit Go.Lib Go.Sort in
theorem Tryz.slices_Compact_int_empty(a:Option Addr)(cap:Nat)(w:World):
 Calls prog 70 #[.slice a 0 cap] w fun e w'=>e=.returned (.slice a 0 cap)∧w'=w:=Any.slices_Compact_int_empty Tryz.laysNm220 a cap w
open Go.RowKit Go.Sort in
theorem Tryz.slices_Sort_int_none(p:Option Addr)(cap:Nat)(w:World):
 Calls prog 68 #[.slice p 0 cap] w fun e w'=>e=.returned (.tuple #[])∧w'=w:=Any.slices_Sort_int_none Tryz.lays189 p cap w
def Tryz.laysSlF06_f101_ren:Go.Shelf.Ren:=⟨fun|6=>101|15=>124|14=>156|28=>187|29=>188|20=>215|21=>216|22=>217|23=>218|24=>219|25=>220|26=>221|27=>222|46=>251|47=>234|48=>235|49=>252|50=>253|57=>277|n=>n,fun|22=>32|24=>72|25=>157|3=>3|39=>137|0=>0|53=>67|55=>171|4=>4|46=>224|45=>223|50=>228|5=>5|9=>9|66=>262|70=>266|76=>284|77=>285|n=>n,fun|n=>n⟩
theorem Tryz.laysSlF06_f101:Go.Proofs.SlLaysF0.n6 prog Tryz.laysSlF06_f101_ren:={
 mixed:=by kernel_rfl
 f6:=⟨Tryz.f101.name,by decide,func101.trans (congrArg some (by kernel_rfl))⟩
 f14:=⟨Tryz.f156.name,by decide,func156.trans (congrArg some (by kernel_rfl))⟩
 f15:=func124.trans (congrArg some (by kernel_rfl))
 f20:=⟨Tryz.f215.name,by decide,func215.trans (congrArg some (by kernel_rfl))⟩
 f21:=⟨Tryz.f216.name,by decide,func216.trans (congrArg some (by kernel_rfl))⟩
 f22:=⟨Tryz.f217.name,by decide,func217.trans (congrArg some (by kernel_rfl))⟩
 f23:=⟨Tryz.f218.name,by decide,func218.trans (congrArg some (by kernel_rfl))⟩
 f24:=⟨Tryz.f219.name,by decide,func219.trans (congrArg some (by kernel_rfl))⟩
 f25:=⟨Tryz.f220.name,by decide,func220.trans (congrArg some (by kernel_rfl))⟩
 f26:=⟨Tryz.f221.name,by decide,func221.trans (congrArg some (by kernel_rfl))⟩
 f27:=⟨Tryz.f222.name,by decide,func222.trans (congrArg some (by kernel_rfl))⟩
 f28:=func187.trans (congrArg some (by kernel_rfl))
 f29:=func188.trans (congrArg some (by kernel_rfl))
 f46:=⟨Tryz.f251.name,by decide,func251.trans (congrArg some (by kernel_rfl))⟩
 f47:=func234.trans (congrArg some (by kernel_rfl))
 f48:=func235.trans (congrArg some (by kernel_rfl))
 f49:=⟨Tryz.f252.name,by decide,func252.trans (congrArg some (by kernel_rfl))⟩
 f50:=⟨Tryz.f253.name,by decide,func253.trans (congrArg some (by kernel_rfl))⟩
 f57:=⟨Tryz.f277.name,by decide,func277.trans (congrArg some (by kernel_rfl))⟩
 t0:=Tryz.underlying0
 a0:=Tryz.isAgg0
 z0:=Tryz.sizeOf0
 v0:=Tryz.zeroValue0
 t3:=Tryz.underlying3
 a3:=Tryz.isAgg3
 z3:=Tryz.sizeOf3
 v3:=Tryz.zeroValue3
 t4:=Tryz.underlying4
 a4:=Tryz.isAgg4
 z4:=Tryz.sizeOf4
 v4:=Tryz.zeroValue4
 t5:=Tryz.underlying5
 a5:=Tryz.isAgg5
 z5:=Tryz.sizeOf5
 v5:=Tryz.zeroValue5
 t9:=Tryz.underlying9
 a9:=Tryz.isAgg9
 z9:=Tryz.sizeOf9
 v9:=Tryz.zeroValue9
 t22:=Tryz.underlying32
 a22:=Tryz.isAgg32
 z22:=Tryz.sizeOf32
 v22:=Tryz.zeroValue32
 t25:=Tryz.underlying157
 a25:=Tryz.isAgg157
 z25:=Tryz.sizeOf157
 v25:=Tryz.zeroValue157
 t39:=Tryz.underlying137
 a39:=Tryz.isAgg137
 z39:=Tryz.sizeOf137
 v39:=Tryz.zeroValue137
 t45:=Tryz.underlying223
 a45:=Tryz.isAgg223
 z45:=Tryz.sizeOf223
 v45:=Tryz.zeroValue223
 t46:=Tryz.underlying224
 a46:=Tryz.isAgg224
 z46:=Tryz.sizeOf224
 v46:=Tryz.zeroValue224
 t50:=Tryz.underlying228
 a50:=Tryz.isAgg228
 z50:=Tryz.sizeOf228
 v50:=Tryz.zeroValue228
 t53:=Tryz.underlying67
 a53:=Tryz.isAgg67
 z53:=Tryz.sizeOf67
 v53:=Tryz.zeroValue67
 t55:=Tryz.underlying171
 a55:=Tryz.isAgg171
 z55:=Tryz.sizeOf171
 v55:=Tryz.zeroValue171
 t66:=Tryz.underlying262
 a66:=Tryz.isAgg262
 z66:=Tryz.sizeOf262
 v66:=Tryz.zeroValue262
 t70:=Tryz.underlying266
 a70:=Tryz.isAgg266
 z70:=Tryz.sizeOf266
 v70:=Tryz.zeroValue266
 t76:=Tryz.underlying284
 a76:=Tryz.isAgg284
 z76:=Tryz.sizeOf284
 v76:=Tryz.zeroValue284
 t77:=Tryz.underlying285
 a77:=Tryz.isAgg285
 z77:=Tryz.sizeOf285
 v77:=Tryz.zeroValue285 }
open Go.RowKit Go.Lib Go.Sort in
theorem Tryz.slices_SortFunc_none{α:Type}[Inhabited α](p:Option Addr)(cap:Nat)(fv:Value)(w:World):
 Calls prog 101 #[.slice p 0 cap,fv] w fun e w'=>e=.returned (.tuple #[])∧w'=w:=AnyF.slices_SortFunc_none Tryz.laysSlF06_f101 p cap fv w
open Go.RowKit Go.Lib Go.Sort in
theorem Tryz.slices_SortFunc_total{α:Type}[Inhabited α](k:Nat)(aE:∀w,(isAgg 72).run prog w=.ok true w)(zE:∀w,(Go.sizeOf 72).run prog w=.ok k w)(enc:α→List Value)(hk:∀x,(enc x).length=k)(h1:∀x,∀v∈enc x,v.oneCell'=true)(cf:α→α→Int)(hO:SWO (ltOf cf))(g:Nat)(cb:Array Value)(blk off cap:Nat)(d:Array α)(w:World)(eg:∀args w,(callFunc g args).run prog w=.ok (.enter g args) w)(hcmp:CmpLays prog g cb enc k cf blk off d.size w)(hH:HoldsK enc k w blk off d)(hblk:blk<w.heap.size)(hsz:d.size<4611686018427387904)(hT:∀x y,(ltOf cf) x y=false→(ltOf cf) y x=false→x=y):
 Calls prog 101 #[.slice (some ⟨blk,off,none⟩) d.size cap,.func (.func g) #[] cb] w fun e w' =>
  e=.returned (.tuple #[])∧∃n os,w'=sortWorldK enc k w blk off n (d.toList.mergeSort fun x y=>!(ltOf cf) y x).toArray os:=AnyQ.slices_SortFunc_total Tryz.laysSlF06_f101 k aE zE enc hk h1 cf hO g cb blk off cap d w eg hcmp hH hblk hsz hT
end Go.Proofs
namespace Go.Fw
open Go.Proofs.YtlegngbbcckmnaaGreatDoor Go.Proofs Go.RowKit Go.ChangeShapes Go.WideShapes Go.Shelf Tryz
def v7a(M:List Nat)(w:World):Prop:=0∉M∧∀(i:Nat) (l:List UInt8),P0b[i]?=some l→w.cell? ⟨0,i,none⟩=some (.string (i6a l))
theorem v7a.keep{M:List Nat}{w w':World}(h:v7a M w)(hk:u0a M w w'):v7a M w':=⟨h.1,fun i l hi=>hk.cell (a:=⟨0,i,none⟩) h.1 (h.2 i l hi)⟩
theorem v7a.less{M M':List Nat}{w:World}(h:v7a M w)(hM:∀g∈M',g∈M):v7a M' w:=⟨fun hh=>h.1 (hM _ hh),h.2⟩
theorem v7a.more{M M':List Nat}{w:World}(h:v7a M w)(hM:∀g∈M',g∈M∨w.heap.size≤g):v7a M' w:=by
 refine⟨fun hh=>?_,h.2⟩;rcases hM _ hh with h'|h'
 ·exact h.1 h'
 ·have:=World.block_lt_of_cell? w _ (h.2 0 _ Z);simp at this;omega
def RB(B g:Nat)(w:World)(e:E)(b o:Nat):Prop:=∀M,(∀x∈M,x=g∨B≤x)→RdP M w e b o
def NB(B g:Nat)(w:World):Prop:=∀M,(∀x∈M,x=g∨B≤x)→v7a M w
theorem RB.keep{B g:Nat}{w w':World}{e:E}{b o:Nat}(h:RB B g w e b o)(k:u0a (MB B g w) w w'):RB B g w' e b o:=fun M hM =>
 (((h (M++MB B g w) (fun x hx=>by rcases List.mem_append.1 hx with h|h;exact hM x h;exact(q7a.1 h).imp id And.left)).keep (k.mono fun x hx=>List.mem_append_right _ hx))).less fun x hx=>List.mem_append_left _ hx
theorem NB.keep{B g:Nat}{w w':World}(h:NB B g w)(k:u0a (MB B g w) w w'):NB B g w':=fun M hM =>
 (((h (M++MB B g w) (fun x hx=>by rcases List.mem_append.1 hx with h|h;exact hM x h;exact(q7a.1 h).imp id And.left)).keep (k.mono fun x hx=>List.mem_append_right _ hx))).less fun x hx=>List.mem_append_left _ hx
theorem u1d{B g:Nat}{w:World}:∀x∈MB B g w,x=g∨B≤x:=fun _ hx=>(q7a.1 hx).imp id And.left
theorem RB.kid{B g:Nat}{w:World}{e:E}{b o:Nat}(h:RB B g w e b o){A:Option Addr}{n c:Nat}(h3:w.cell? ⟨b,o+3,none⟩=some (.slice A n c))(hn:n=e.kids.length)(i:Nat)(hi:i<e.kids.length):∃bk ok,A=some ⟨bk,ok,none⟩∧RB B g w e.kids[i] bk (ok+i*4):=by
 obtain⟨-,-,-,-,-,-,-,A1,n1,c1,hc,-,-,-,-,hk,-⟩:=(h [] (by simp)).open_;obtain⟨rfl,rfl,rfl⟩:A=A1∧n=n1∧c=c1:=by
  have:=h3.symm.trans hc;simpa using this
 obtain⟨bk,ok,rfl,-,-⟩:=hk (by omega);refine⟨bk,ok,Z,fun M hM=>?_⟩;obtain⟨-,-,-,-,-,-,-,A2,n2,c2,c0,-,-,-,-,d0,-⟩:=(h M hM).open_;obtain⟨rfl,rfl,rfl⟩:some ⟨bk,ok,none⟩=A2∧n=n2∧c=c2:=by
  have:=h3.symm.trans c0;simpa using this
 obtain⟨a0,f0,he,b0,e0⟩:=d0 (by omega);obtain⟨rfl,rfl⟩:bk=a0∧ok=f0:=by simpa using he
 exact RdP.kid b0 e0 i hi
theorem Y5a(n:Int)(h0:0≤n)(h1:n<100)(w0:World):
 E0a prog 98 #[.int .i64 n] w0 fun v w'=>v=.string (i6a (o8b n))∧Below w0.heap.size w0 w':=by
 obtain⟨k,rfl⟩:=Int.eq_ofNat_of_zero_le h0;refine Calls.mono (Tryz.strconv_Itoa_small k (by omega) w0) ?_;rintro e w' ⟨rfl,rfl⟩;exact⟨_,Z,Z,Below.refl _ _⟩
theorem H9a(op:Int)(w0:World):
 E0a prog 97 #[.int .i64 op] w0 fun v w'=>v=.string (i6a (P0c op))∧Below w0.heap.size w0 w':=by
 have S:=St.refl w0;refine a0a func97 Z ntmps97 Z ?_;refine wB0 Z U (fun h5=>?_) fun h5=>?_
 ·refine lR0 Z U (s0a Z ?_);refine⟨?_,S.fin⟩;unfold P0c;have z:op=2:=h5;rw[if_pos z];rfl
 refine lB0 Z U (fun h7=>?_) fun h7=>?_
 ·refine lR0 Z U (s0a Z ?_);refine⟨?_,S.fin⟩;unfold P0c;have z:¬op=2:=h5;have z2:op=3:=h7;rw[if_neg z,if_pos z2];rfl
 refine lR0 Z U (s0a Z ?_);refine⟨?_,S.fin⟩;unfold P0c;have z:¬op=2:=h5;have z2:¬op=3:=h7;rw[if_neg z,if_neg z2];rfl
theorem W0d:prog.globalNamed ((Rows.interfereMatchesReferenceRow.laid[4]?.map (·.1)).getD "")=some 0:=by kernel_rfl
theorem m2d:(prog.globals[0]?).map (·.type)=some 152:=by kernel_rfl
theorem I0d:prog.cellsOf 152=11:=by kernel_rfl
theorem c3d:prog.cellsOf 9=1:=by kernel_rfl
theorem Z6c{s:ByteArray}{l:List UInt8}(h:s.data.toList=l):s=i6a l:=by
 cases s;subst h;simp[i6a]
theorem J1b{W:World}(h:laidMetH prog Rows.interfereMatchesReferenceRow.laid W):v7a [] W:=by
 rw[MakeChecks.laidMetH_plain _ _ _ (by kernel_rfl)] at h;obtain⟨_,d0,-⟩:=h;obtain⟨_,_,c0,_,_,g0,o0,p0,m0⟩:=F5b d0 (i:=4) Z;obtain rfl:=Option.some.inj (W0d.symm.trans g0);obtain rfl:=Option.some.inj (m2d.symm.trans o0);obtain⟨xs,_,rfl,b0,e0,_,f0⟩:=DataW.trod_array Tryz.underlying152 m0;rw[I0d] at e0;simp only[c3d,Nat.mul_one] at f0;refine⟨by simp,fun i l hi=>?_⟩;have n0:i<11:=(List.getElem?_eq_some_iff.1 hi).1;have a0:=World.var?_cell g0 p0 i;have i0:i<xs.length:=by omega
 have he:=f0 i (by omega);rw[List.getElem?_eq_getElem i0] at he;obtain⟨k,e1,e2,-⟩:=DataW.trod_string Tryz.underlying9 he;have j0:c0.toList[i]?=some (.string k):=by
  have h1:((c0.toList.drop i).take 1)[0]?=some (Value.string k):=by rw[e1];rfl
  rw[List.getElem?_take,if_pos (by omega),List.getElem?_drop] at h1;simpa using h1
 rw[a0];have e3:c0[i]?=some (.string k):=by simpa using j0
 rw[e3];have b0:(DataW.agg _=DataW.agg _∧_):=Prod.mk.inj b0;have b0:=DataW.agg.inj b0.1;have e4:(xs.map (·.1))[i]?=some (.lit (.string k.data.toList)):=by rw[List.getElem?_map,List.getElem?_eq_getElem i0,e2];rfl
 rw[←b0] at e4;have key:l=k.data.toList:=by
  rcases(show i=0∨i=1∨i=2∨i=3∨i=4∨i=5∨i=6∨i=7∨i=8∨i=9∨i=10 by omega) with rfl|rfl|rfl|rfl|rfl|rfl|rfl|rfl|rfl|rfl|rfl<;>(cases hi;injection e4 with e4;injection e4 with e4;injection e4)
 rw[Z6c key.symm]
section
variable {P:Program} {r:Option Nat} {N:Nat} {D:List Deferred} {e:Env} {w w0:World} {ops:Array Oper} {rest:List Oper} {K:List Deferred→Env→World→Prop} {L:List Ent} {M:List Nat}
variable {d:Nat} {t:TypeId} {p:String} {af:Array Edge} {f:FuncId} {args:Array Operand} {at_:Array TypeId} {vs:List Value} {x:Operand}
theorem Z2c{α:Type}{l:List α}{k:Nat}{x:α}(h:l[k]?=some x):l.set k x=l:=by
 obtain⟨a0,he⟩:=List.getElem?_eq_some_iff.1 h;rw[←he];exact List.set_getElem_self a0
theorem c1c{α:Type}{R0:List Value→α→Prop}{size:Nat}(hL:N6a (fun(_:List Nat) (_:World)=>R0) size){M2 M3:List Nat}{ty el a0 k c m:Nat}{A2:Option Addr}{y:Operand}{z v:Value}{G:Option Nat}{cs:List Value}{l l2:List α}(S:St M w0 w L)(hS:SlZ P ty el size z a0)(e0:a0≤1000)(hk:L[k]?=some (G,el,cs))(hR:Q1a (fun _ _=>R0) size M2 w G cs v l)
 (hx:ev e x=v) (hy:ev e y=.slice A2 m c) (h2:RdS M3 w size R0 (.slice A2 m c) l2) (f0:l.length+l2.length≤1000000) (hd:Nat.ble (d+1) N=true)
 (h:∀v' G' c0 w1,St M w0 w1 (L.set k (G',el,c0))→Q1a (fun _ _=>R0) size M2 w1 G' c0 v' (l++l2)→u0a G.toList w w1→(∀g∈G'.toList,g∈G.toList∨w.heap.size≤g)→WL P r N ops rest K D (upd e d v') w1) :
 WL P r N ops (⟨some d,.call { callee:=.builtin .append,args:=#[x,y],argTypes:=#[ty,ty] },t,p,af,none⟩::rest) K D e w:=by
 obtain⟨hm,-,-⟩:=h2.len;by_cases h0:l2=[]
 ·subst h0;obtain⟨A,c',rfl⟩:=hR.form;have g0:m=0:=by simpa using hm
  subst g0;have i0:l.length≤c':=by
   obtain⟨css,_,_,q3,_⟩:=hR;rcases q3.2 with⟨-,q5,q6⟩|⟨g,j0,-,q5,q6,-⟩
   ·simp only[Value.slice.injEq] at q5;omega
   ·simp only[Value.slice.injEq] at q5;omega
  refine G4b hS hx i0 hy hd ?_;have:=h (.slice A l.length c') G cs w (by rw[Z2c hk];exact S) (by rw[List.append_nil];exact hR) (u0a.refl _ _) (fun g hg=>.inl hg);exact this
 ·have b0:0<l2.length:=List.length_pos_iff.2 h0;obtain⟨b,o,hA⟩:∃b o,A2=some ⟨b,o,none⟩:=by
   obtain⟨_,_,_,_,h5⟩:=h2.at;obtain⟨b',o',d0,-⟩:=h5 (by omega);exact⟨b',o',d0⟩
  obtain⟨css,c1,c2,c3⟩:=RdS.all h2 hA b0;subst hA;exact Y3b hL S hS e0 hk hR hx hy hm c1 c2 c3 f0 hd h
end
def Raw(size:Nat)(cs x:List Value):Prop:=cs=x∧x.length=size∧∀u∈x,u.oneCell'=true
theorem E2c(size:Nat):N6a (fun(_:List Nat) (_:World)=>Raw size) size where
 len h:=by rw[h.1];exact h.2.1
 one h u hu:=by rw[h.1] at hu;exact h.2.2 u hu
 keep _ h:=h
 more _ h:=h
abbrev I2b(size:Nat)(w0:World)(G:Option Nat)(cs:List Value)(v:Value)(css:List (List Value)):Prop:=Q1a (fun _ _=>Raw size) size [] w0 G cs v css
section
variable {size:Nat}
theorem Z6b{u:Value}:∀(css:List (List Value)) (i j:Nat) (c:List Value),(∀x∈css,x.length=size)→css[i]?=some c→j<size→css.flatten.set (i*size+j) u=(css.set i (c.set j u)).flatten
 | [],i,j,c,_,hi,_=>by simp at hi
 | x::css,0,j,c,hl,hi,hj=>by
   simp at hi;subst hi;have hx:=hl x (by simp);rw[List.flatten_cons,Nat.zero_mul,Nat.zero_add,List.set_append_left _ _ (by omega)];simp
 | x::css,i+1,j,c,hl,hi,hj=>by
   have hx:=hl x (by simp);have:=Z6b (u:=u) css i j c (fun y hy=>hl y (by simp[hy])) (by simpa using hi) hj;rw[List.flatten_cons,List.set_append_right _ _ (by rw[Nat.add_mul];omega),List.set_cons_succ,List.flatten_cons,←this]
   congr 2
   rw[Nat.add_mul];omega
theorem L6a:∀(us:List Value) (css:List (List Value)) (i j:Nat) (c:List Value),(∀x∈css,x.length=size)→css[i]?=some c→j+us.length≤size→f0a css.flatten (i*size+j) us=(css.set i (f0a c j us)).flatten
 | [],css,i,j,c,_,hi,_=>by rw[f0a,f0a,y7b hi]
 | u::us,css,i,j,c,hl,hi,hj=>by
   have b0:=(List.getElem?_eq_some_iff.1 hi).1;have a0:=hl c (List.mem_of_getElem? hi);simp only[List.length_cons] at hj;rw[f0a,Z6b css i j c hl hi (by omega),show i*size+j+1=i*size+(j+1) by omega];rw[L6a us (css.set i (c.set j u)) i (j+1) (c.set j u) (fun x hx=>by
    rcases List.mem_or_eq_of_mem_set hx with h|h
    ·exact hl x h
    ·rw[h,List.length_set];exact a0) (by rw[List.getElem?_set_self b0]) (by omega)]
   rw[List.set_set,f0a]
theorem x5a:∀(us cs:List Value) (o n:Nat),(f0a cs o us).take n=f0a (cs.take n) o us
 | [],_,_,_=>rfl
 | u::us,cs,o,n=>by rw[f0a,x5a us,f0a,List.take_set]
theorem n1b:∀(us cs:List Value) (o:Nat),(∀u∈cs,u.oneCell'=true)→(∀u∈us,u.oneCell'=true)→∀u∈f0a cs o us,u.oneCell'=true
 | [],_,_,h,_=>h
 | v::us,cs,o,h,h2=>by
   rw[f0a];refine n1b us _ _ (fun u hu=>?_) (fun u hu=>h2 u (by simp[hu]));rcases List.mem_or_eq_of_mem_set hu with hu|rfl
   ·exact h u hu
   ·exact h2 u (by simp)
theorem I2b.put{w0:World}{G:Option Nat}{cs us c:List Value}{v:Value}{css:List (List Value)}{i j o:Nat}(h:I2b size w0 G cs v css)(hi:css[i]?=some c)(ho:o=i*size+j)(hj:j+us.length≤size)(h1:∀u∈us,u.oneCell'=true):I2b size w0 G (f0a cs o us) v (css.set i (f0a c j us)):=by
 subst ho;obtain⟨xs,_,q2,⟨_,hr⟩,q4⟩:=h;have hx:xs=css:=by
  refine List.ext_getElem? fun k=>?_;cases hk:css[k]? with
  | none=>rw[List.getElem?_eq_none_iff] at hk ⊢;omega
  | some x=>obtain⟨y,h5,h6⟩:=q4 k x hk;rw[h5,h6.1]
 subst hx;have f0:=(List.getElem?_eq_some_iff.1 hi).1;have d0:∀u∈c,u.oneCell'=true:=by
  obtain⟨y,h5,h6⟩:=q4 i c hi;exact h6.2.2
 have c0:=q2 c (List.mem_of_getElem? hi);have e0:(f0a c j us).length=size:=by rw[V3a];exact c0
 have a0:∀x∈xs.set i (f0a c j us),x.length=size:=fun x hx=>by
  rcases List.mem_or_eq_of_mem_set hx with h|rfl
  ·exact q2 x h
  ·exact e0
 refine⟨xs.set i (f0a c j us),Z,a0,⟨?_,?_⟩,fun k x hk=>?_⟩
 ·rw[j4a _ a0]
 ·rcases hr with⟨rfl,rfl,h0⟩|⟨g,b0,rfl,rfl,r1,r2,r3,r4⟩
  ·omega
  ·refine .inr ⟨g,b0,Z,by rw[List.length_set],by rw[List.length_set];exact r1,r2,by rw[V3a];exact r3,?_⟩;rw[x5a,List.length_set,r4,L6a us xs i j c q2 hi hj]
 ·refine⟨x,hk,Z,?_,?_⟩
  ·exact a0 x (List.mem_of_getElem? hk)
  ·rcases List.mem_or_eq_of_mem_set (List.mem_of_getElem? hk) with h|rfl
   ·obtain⟨n,hn⟩:=List.getElem?_of_mem h;obtain⟨y,h5,h6⟩:=q4 n x hn;exact h6.2.2
   ·exact n1b us c j d0 h1
theorem I2b.len{w0:World}{G:Option Nat}{cs:List Value}{A:Option Addr}{n c:Nat}{css:List (List Value)}(h:I2b size w0 G cs (.slice A n c) css):n=css.length:=by
 obtain⟨_,_,he⟩:=h.form;simp only[Value.slice.injEq] at he;exact he.2.1
theorem I2b.at{w0:World}{G:Option Nat}{cs:List Value}{A:Option Addr}{n c:Nat}{css:List (List Value)}(h:I2b size w0 G cs (.slice A n c) css)(h0:0<n):∃g,G=some g∧A=some ⟨g,0,none⟩:=by
 have hn:=h.len;obtain⟨_,_,_,⟨_,hr⟩,_⟩:=h;rcases hr with⟨rfl,he,h5⟩|⟨g,a0,rfl,he,-⟩
 ·omega
 ·simp only[Value.slice.injEq] at he;exact⟨g,Z,he.1⟩
theorem I2b.cap{w0:World}{G:Option Nat}{cs:List Value}{v:Value}{css:List (List Value)}(h:I2b size w0 G cs v css):css.length*size≤cs.length∨css=[]:=by
 obtain⟨_,_,_,⟨_,hr⟩,_⟩:=h;rcases hr with⟨rfl,he,h5⟩|⟨g,a0,rfl,he,r1,r2,r3,r4⟩
 ·exact .inr (List.length_eq_zero_iff.1 h5)
 ·left;rw[r3];exact Nat.mul_le_mul_right _ r1
theorem I2b.rd{α:Type}{R:List Value→α→Prop}{M M':List Nat}{w0 w:World}{L:List Ent}{k el:Nat}{G:Option Nat}{cs:List Value}{v:Value}{css:List (List Value)}{l:List α}(h:I2b size w0 G cs v css)(S:St M' w0 w L)(hk:L[k]?=some (G,el,cs))(hM:∀g,G=some g→g∉M)(hl:l.length≤1000000)(b0:css.length=l.length)
 (he:∀(i:Nat) (x:α),l[i]?=some x→∃c,css[i]?=some c∧R c x):RdS M w size R v l:=by
 obtain⟨A,n,c,rfl,_,h2,h3,h4,h5⟩:=Q1a.rd (M:=M) (E2c size) (w:=w) (show Q1a (fun _ _=>Raw size) size M w G cs v css from h) S hk hM (by omega);refine⟨A,n,c,Z,by omega,h2,h3,h4,fun hp=>?_⟩;obtain⟨b,o,hA,hb,a0⟩:=h5 hp;refine⟨b,o,hA,hb,fun i x hi=>?_⟩;obtain⟨y,h6,h7⟩:=he i x hi;obtain⟨z,z1,z2,z3⟩:=a0 i y h6;exact⟨z,z1,z2,by rw[z3.1];exact h7⟩
theorem RdS.raw{α:Type}{R:List Value→α→Prop}{M:List Nat}{w:World}{v:Value}{l:List α}(h:RdS M w size R v l)(hR:∀cs x,R cs x→cs.length=size∧∀u∈cs,u.oneCell'=true):
 ∃css:List (List Value),css.length=l.length∧RdS M w size (Raw size) v css∧∀(i:Nat) (x:α),l[i]?=some x→∃c,css[i]?=some c∧R c x:=by
 obtain⟨A,n,c,rfl,h1,h2,h3,h4,h5⟩:=h;by_cases h0:l=[]
 ·subst h0;refine⟨[],Z,⟨A,n,c,Z,h1,h2,h3,h4,fun hp=>?_⟩,fun i x hi=>by simp at hi⟩;simp at h1;omega
 have b0:0<l.length:=List.length_pos_iff.2 h0;obtain⟨b,o,hA,hb,a0⟩:=h5 (by omega);have key:∀(l2:List α) (q:Nat),(∀i x,l2[i]?=some x→∃cs,cs.length=size∧Cells w b (o+(q+i)*size) cs∧R cs x)→∃css:List (List Value),css.length=l2.length∧∀(i:Nat) (x:α),l2[i]?=some x→∃c,css[i]?=some c∧Cells w b (o+(q+i)*size) c∧R c x:=by
  intro l2
  induction l2 with
  | nil=>intro q _;exact⟨[],Z,fun i x hi=>by simp at hi⟩
  | cons a l2 ih =>
    intro q hq;obtain⟨cs,_,k2,k3⟩:=hq 0 a Z;obtain⟨css,m1,m2⟩:=ih (q+1) (fun i x hi=>by
     obtain⟨cs,n1,n2,n3⟩:=hq (i+1) x (by simpa using hi);exact⟨cs,n1,by rw[show q+1+i=q+(i+1) by omega];exact n2,n3⟩)
    refine⟨cs::css,by simp[m1],fun i x hi=>?_⟩;cases i with
    | zero=>simp at hi;subst hi;exact⟨cs,Z,k2,k3⟩
    | succ i =>
      obtain⟨c,c1,c2,c3⟩:=m2 i x (by simpa using hi);exact⟨c,by simpa using c1,by rw[show q+(i+1)=q+1+i by omega];exact c2,c3⟩
 obtain⟨css,m1,m2⟩:=key l 0 (fun i x hi=>by simpa using a0 i x hi);refine⟨css,m1,⟨A,n,c,Z,by omega,h2,h3,h4,fun _=>⟨b,o,hA,hb,fun i x hi=>?_⟩⟩,fun i x hi=>?_⟩
 ·have c0:=(List.getElem?_eq_some_iff.1 hi).1;obtain⟨c',c1,c2,c3⟩:=m2 i (l[i]'(by omega)) (List.getElem?_eq_getElem _);rw[hi] at c1;cases c1;obtain⟨r1,r2⟩:=hR x _ c3;exact⟨x,r1,by simpa using c2,Z,r1,r2⟩
 ·obtain⟨c',c1,c2,c3⟩:=m2 i x hi;exact⟨c',c1,c3⟩
end
structure P9a (C W:List Int):Prop where
 len:W.length=C.length
 inc:C.Pairwise (·<·)
 cell:∀c∈C,0≤c∧c<32
 wid:∀x∈W,1≤x∧x≤8
def b2a:List Int→Int
 | []=>0
 | x::l=>x+b2a l
theorem c5a(a b:List Int):b2a (a++b)=b2a a+b2a b:=by
 induction a with
 | nil=>simp[b2a]
 | cons x l ih=>simp only[List.cons_append,b2a,ih];omega
theorem L4a{l:List Int}{k:Nat}{x:Int}(h:l[k]?=some x):b2a (l.take (k+1))=b2a (l.take k)+x:=by
 rw[F0a h,c5a];simp[b2a]
theorem k3a{l:List Int}(h:∀x∈l,1≤x∧x≤8):(l.length:Int)≤b2a l∧b2a l≤8*l.length:=by
 induction l with
 | nil=>simp[b2a]
 | cons x l ih =>
   have h1:=h x (by simp);have h2:=ih fun y hy=>h y (List.mem_cons_of_mem _ hy);simp only[b2a,List.length_cons];omega
theorem m2a{l:List Int}(h:∀x∈l,1≤x∧x≤8)(k:Nat):0≤b2a (l.take k)∧b2a (l.take k)≤b2a l:=by
 have h1:=c5a (l.take k) (l.drop k);rw[List.take_append_drop] at h1;have h2:=k3a (l:=l.take k) fun x hx=>h x (List.mem_of_mem_take hx);have h3:=k3a (l:=l.drop k) fun x hx=>h x (List.mem_of_mem_drop hx);omega
theorem g6c{C:List Int}(h:C.Pairwise (·<·))(hc:∀c∈C,0≤c∧c<32):C.length≤32:=by
 have key:∀(l:List Int) (m:Int),l.Pairwise (·<·)→(∀c∈l,m≤c∧c<32)→m≤32→(l.length:Int)≤32-m:=by
  intro l
  induction l with
  | nil=>intro m _ _ hm;simp;omega
  | cons x l ih =>
    intro m h1 h2 _;rw[List.pairwise_cons] at h1;have h3:=h2 x (by simp);have h4:=ih (x+1) h1.2 (fun c hc=>⟨by have:=h1.1 c hc;omega,(h2 c (List.mem_cons_of_mem _ hc)).2⟩) (by omega);simp only[List.length_cons];omega
 have:=key C 0 h hc (by omega);omega
theorem P9a.clen{C W:List Int}(h:P9a C W):C.length≤32:=g6c h.inc h.cell
abbrev wdL(p:List a1a)(C:List Int):List Int:=C.map (wAt p)
theorem r2c{p:List a1a}{c:Int}(hc:0≤c∧c<p.length)(hw:∀c∈p,1≤c.w∧c.w≤8):1≤wAt p c∧wAt p c≤8:=by
 have h2:c.toNat<p.length:=by omega
 unfold wAt;rw[if_pos hc.1,List.getElem?_eq_getElem h2];exact hw _ (List.getElem_mem h2)
theorem r6a{p:List a1a}{C:List Int}(hr:C.Pairwise (·<·))(hc:∀c∈C,0≤c∧c<p.length)(hp:p.length≤32)(hw:∀c∈p,1≤c.w∧c.w≤8):P9a C (wdL p C):=by
 refine⟨by simp,hr,fun c h=>?_,fun x hx=>?_⟩
 ·have:=hc c h;omega
 ·obtain⟨c,h,rfl⟩:=List.mem_map.1 hx;exact r2c (hc c h) hw
def stZ:List Int→List Int→Nat→List Int→List Int
 | c::C,x::W,n,s=>stZ C W (n / 2 ^ x.toNat) (s.set c.toNat ((n % 2 ^ x.toNat:Nat):Int))
 | _,_,_,s=>s
theorem h5b:∀(C W:List Int) (n:Nat) (s:List Int),(stZ C W n s).length=s.length
 | [],_,_,_=>rfl
 | _::_,[],_,_=>rfl
 | c::C,x::W,n,s=>by unfold stZ;rw[h5b];simp
theorem S3c{C W:List Int}{k:Nat}{c x:Int}(h1:C[k]?=some c)(h2:W[k]?=some x)(n:Nat)(s:List Int):stZ (C.drop k) (W.drop k) n s=stZ (C.drop (k+1)) (W.drop (k+1)) (n / 2 ^ x.toNat) (s.set c.toNat ((n % 2 ^ x.toNat:Nat):Int)):=by
 obtain⟨h3,h4⟩:=List.getElem?_eq_some_iff.1 h1;obtain⟨h5,h6⟩:=List.getElem?_eq_some_iff.1 h2;rw[List.drop_eq_getElem_cons h3,List.drop_eq_getElem_cons h5,h4,h6];rfl
theorem w2b:∀(C W:List Int) (n:Nat) (s:List Int),(∀x∈W,1≤x∧x≤8)→(∀x∈s,0≤x∧x<256)→∀x∈stZ C W n s,0≤x∧x<256
 | [],_,_,_,_,h=>h
 | _::_,[],_,_,_,h=>h
 | c::C,x::W,n,s,hW,h=>by
   unfold stZ;refine w2b C W _ _ (fun y hy=>hW y (List.mem_cons_of_mem _ hy)) fun y hy=>?_;rcases List.mem_or_eq_of_mem_set hy with h1|rfl
   ·exact h y h1
   ·have h2:=hW x (by simp);have h3:n % 2 ^ x.toNat<2 ^ x.toNat:=Nat.mod_lt _ (Nat.two_pow_pos _);have h4:2 ^ x.toNat≤2 ^ 8:=Nat.pow_le_pow_right (by omega) (by omega);omega
def k2a:List Int:=List.replicate 32 0
theorem k4a:k2a.length=32:=by simp[k2a]
theorem z3a:∀x∈k2a,0≤x∧x<256:=fun x hx=>by rw[(List.mem_replicate.1 hx).2];omega
theorem f2b{w:World}{g t:Nat}{M:List Nat}(hb:m0a w (g,t,List.replicate 32 (.int .i64 0)))(hg:g∉M):RdI M w (.slice (some ⟨g,0,none⟩) 32 32) k2a:=by
 refine⟨_,32,32,Z,k4a.symm,Nat.le_refl _,by unfold maxLen;omega,by omega,fun _=>⟨g,0,Z,hg,fun i x hi=>⟨[.int .i64 x],Z,fun j v hj=>?_,Z,?_⟩⟩⟩
 ·have a0:i<32:=by have:=(List.getElem?_eq_some_iff.1 hi).1;rwa [k4a] at this
  have hx:x=0:=(List.mem_replicate.1 (List.mem_of_getElem? hi)).2;cases j with
  | succ j=>simp at hj
  | zero =>
    simp at hj;subst hj;subst hx;exact hb.cell (by rw[List.getElem?_replicate,if_pos (by omega)])
 ·have:=z3a x (List.mem_of_getElem? hi);unfold i64;omega
def nuZ:List Int→List Int→List Int→Nat
 | c::C,x::W,s=>(s.getD c.toNat 0).toNat % 2 ^ x.toNat+2 ^ x.toNat*nuZ C W s
 | _,_,_=>0
theorem b4c{C W:List Int}{k:Nat}{c x:Int}(h1:C[k]?=some c)(h2:W[k]?=some x)(s:List Int):nuZ (C.drop k) (W.drop k) s=(s.getD c.toNat 0).toNat % 2 ^ x.toNat+2 ^ x.toNat*nuZ (C.drop (k+1)) (W.drop (k+1)) s:=by
 obtain⟨h3,h4⟩:=List.getElem?_eq_some_iff.1 h1;obtain⟨h5,h6⟩:=List.getElem?_eq_some_iff.1 h2;rw[List.drop_eq_getElem_cons h3,List.drop_eq_getElem_cons h5,h4,h6];rfl
theorem H3b:∀(C W:List Int) (s:List Int),(∀x∈W,1≤x∧x≤8)→nuZ C W s<2 ^ (b2a W).toNat
 | [],W,s,_=>by simp[nuZ];exact Nat.two_pow_pos _
 | _::_,[],s,_=>by simp[nuZ,b2a]
 | c::C,x::W,s,h=>by
   have h1:=H3b C W s fun y hy=>h y (List.mem_cons_of_mem _ hy);have hx:=h x (by simp);have h2:=k3a fun y hy=>h y (List.mem_cons_of_mem _ hy);unfold nuZ b2a;rw[Int.toNat_add (by omega) (by omega),Nat.pow_add];have h3:(s.getD c.toNat 0).toNat % 2 ^ x.toNat<2 ^ x.toNat:=Nat.mod_lt _ (Nat.two_pow_pos _);have h4:2 ^ x.toNat*(nuZ C W s+1)≤2 ^ x.toNat*2 ^ (b2a W).toNat:=Nat.mul_le_mul_left _ h1;rw[Nat.mul_add,Nat.mul_one] at h4;omega
def r5a(w0 w:World)(v:Value)(l:List Int):Prop:=∀M:List Nat,(∀g∈M,g<w0.heap.size)→RdI M w v l
theorem r5a.keep{w0 w w':World}{v:Value}{l:List Int}(h:r5a w0 w v l)(hk:u0a [] w w'):r5a w0 w' v l:=fun M hM=>(h M hM).keep hk.of_nil
theorem r5a.form{w0 w:World}{v:Value}{l:List Int}(h:r5a w0 w v l):∃A n c,v=.slice A n c:=(h [] (by simp)).form
theorem r5a.later{w0 w1 w w':World}{v:Value}{l:List Int}{G:List Nat}(h:r5a w1 w v l)(hk:u0a G w w')(hG:∀g∈G,g<w1.heap.size)(h0:w0.heap.size≤w1.heap.size):r5a w0 w' v l:=fun M hM =>
 ((h (G++M) (fun g hg=>by rcases List.mem_append.1 hg with h|h;exact hG g h;exact Nat.lt_of_lt_of_le (hM g h) h0)).keep (hk.mono fun g hg=>List.mem_append_left _ hg)).less fun g hg=>List.mem_append_right _ hg
theorem r5a.at_{w1 w w':World}{v:Value}{l:List Int}{G:List Nat}(h:r5a w1 w v l)(hk:u0a G w w')(hG:∀g∈G,g<w1.heap.size):RdI [] w' v l:=((h G hG).keep hk).less (by simp)
theorem K6b(n wd:Int)(hn:i64 n)(hw:i64 wd)(M:List Nat)(w0:World):
 E0a prog 39 #[.int .i64 n,.int .i64 wd] w0 fun v w'=>(∃cs:List Value,v=.agg cs.toArray∧RdE M w' ⟨1,wd,n,[]⟩ cs)∧Below w0.heap.size w0 w':=by
 have S:=St.refl w0;refine a0a func39 Z ntmps39 Z ?_;refine wO0 Z U (h0a S R1a Z Z ?_);intro g4 w4 S4 X4 G4;refine lO0 Z U (H0a W1a (vs:=[(0,.int .i64 _),(1,.int .i64 _),(2,.int .i64 _)]) (cs:=[_,_,_,_]) Z Z Z Z ?_)
 first|refine c0a (kk:=0) (vs:=[_,_,_,_]) S4 i1a Z Z Z Z Z Z Z ?_
 intro c0 a0 b0;dsimp only[f0a,List.set] at a0;refine lR0 Z U ?_;exact w0a Z G0a Z (a0.cells 0 Z) Z ⟨⟨_,Z,f1a (by unfold i64;omega) hw hn⟩,a0.fin⟩
theorem N2b{M M':List Nat}{w w':World}{op wd n:Int}{cs:List Value}(h:RdE M w ⟨op,wd,n,[]⟩ cs):RdE M' w' ⟨op,wd,n,[]⟩ cs:=by
 rw[RdE] at h ⊢;obtain⟨A,k,c,h1,h2,h3,h4,h5,h6,h7,h8,_⟩:=h;exact⟨A,k,c,h1,h2,h3,h4,h5,h6,h7,h8,fun hk=>absurd hk (by simp at h5;omega)⟩
def RdL(M:List Nat)(w:World)(v:Value)(l:List E):Prop:=RdE M w ⟨0,0,0,l⟩ [.int .i64 0,.int .i64 0,.int .i64 0,v]
theorem RdL.open_{M:List Nat}{w:World}{v:Value}{l:List E}(h:RdL M w v l):∃A n c,v=.slice A n c∧n=l.length∧n≤c∧c≤maxLen∧n≤140737488355328 ∧
 (0<n→∃b o,A=some ⟨b,o,none⟩∧b∉M∧∀(i:Nat) (h:i<l.length),∃a0,Cells w b (o+i*4) a0∧RdE M w l[i] a0):=by
 obtain⟨A,n,c,h1,-,-,-,h2,h3,h4,h5,h6⟩:=RdE.open_ h;cases h1;exact⟨A,n,c,Z,h2,h3,h4,h5,h6⟩
theorem RdL.at{M:List Nat}{w:World}{A:Option Addr}{n c:Nat}{l:List E}(h:RdL M w (.slice A n c) l):n=l.length∧n≤c∧c≤maxLen∧n≤140737488355328 ∧
 (0<n→∃b o,A=some ⟨b,o,none⟩∧b∉M∧∀(i:Nat) (h:i<l.length),∃a0,Cells w b (o+i*4) a0∧RdE M w l[i] a0):=by
 obtain⟨A,n,c,h1,h2⟩:=h.open_;cases h1;exact h2
theorem RdL.made{M:List Nat}{w:World}{A:Option Addr}{n c:Nat}{l:List E}(h2:n=l.length)(h3:n≤c)(h4:c≤maxLen)(h5:n≤140737488355328)
 (h6:0<n→∃b o,A=some ⟨b,o,none⟩∧b∉M∧∀(i:Nat) (h:i<l.length),∃a0,Cells w b (o+i*4) a0∧RdE M w l[i] a0):RdL M w (.slice A n c) l:=by
 unfold RdL;rw[RdE];exact⟨A,n,c,Z,by unfold i64;simp,by unfold i64;simp,by unfold i64;simp,h2,h3,h4,h5,h6⟩
theorem RdL.keep{M:List Nat}{w w':World}{v:Value}{l:List E}(h:RdL M w v l)(hk:u0a M w w'):RdL M w' v l:=RdE.keep hk _ _ h
theorem RdL.more{M M':List Nat}{w:World}{v:Value}{l:List E}(h:RdL M w v l)(hM:∀g∈M',g∈M∨w.heap.size≤g):RdL M' w v l:=RdE.more hM _ _ h
theorem p1b(a b:List E):E.cnts (a++b)=E.cnts a+E.cnts b:=by
 induction a with
 | nil=>simp[E.cnts]
 | cons x xs ih=>simp only[List.cons_append,E.cnts,ih];omega
theorem s0d(op wd:Int)(ho:i64 op)(hw:i64 wd)(a b:E)(ca cb:List Value)(M:List Nat)(w0:World)(hM:∀g∈M,g<w0.heap.size)(ha:RdE M w0 a ca)(hb:RdE M w0 b cb):
 E0a prog 92 #[.int .i64 op,.int .i64 wd,.agg ca.toArray,.agg cb.toArray] w0 fun v w'=>(∃cs:List Value,v=.agg cs.toArray∧RdE M w' ⟨op,wd,0,[a,b]⟩ cs)∧Below w0.heap.size w0 w':=by
 have S:=St.refl w0;obtain⟨_,_,_,rfl,-⟩:=ha.open_;obtain⟨_,_,_,rfl,-⟩:=hb.open_;refine a0a func92 Z ntmps92 Z ?_;refine wO0 Z U (p0a S Z ?_);intro g6 w6 S6 X6 G6;refine p0a S6 Z ?_;intro g7 w7 S7 X7 G7;refine h0a S7 R1a Z Z ?_;intro g8 w8 S8 X8 G8;refine lO S8.k [.w 2,.w 1] Z ⟨⟨Z,by rfl⟩,⟨Z,by rfl⟩,U⟩ (k0a S8 O0a (vs:=[.agg _,.agg _]) (cs:=[_,_,_,_,_,_,_,_]) Z Z Z Z Z Z ?_);intro g0 i0 b0 f0 e0;refine H0a W1a (vs:=[(0,.int .i64 _),(1,.int .i64 _),(3,.slice _ _ _)]) (cs:=[_,_,_,_]) Z Z Z Z ?_;refine c0a (kk:=1) (vs:=[_,_,_,_]) b0 i1a Z Z Z Z Z Z Z ?_;intro d0 a0 c0;dsimp only[f0a,List.set] at a0;refine lR0 Z U (w0a Z G0a Z (a0.cells 1 Z) Z ⟨⟨_,Z,t2b ho hw (fun hm=>?_) (a0.cells 0 Z) (RdE.keep (a0.keep0 M) _ _ ha) (RdE.keep (a0.keep0 M) _ _ hb)⟩,a0.fin⟩);have h1:=hM _ hm;have h2:=a0.new 0 Z;simp at h2;omega
theorem t3c(e:E)(M:List Nat)(w0:World)(cs:List Value)(hR:RdE M w0 e cs)(hc:e.cnt≤600):
 E0a prog 21 #[.agg cs.toArray,.int .i64 601] w0 fun v w'=>v=.int .i64 (e.cnt:Int)∧Below w0.heap.size w0 w':=by
 have h:=f3b e M w0 cs 601 hR (by unfold i64;omega);have he:e.size 601=(e.cnt:Int):=by rw[E.size_eq e 601 (by omega)];omega
 rwa [he] at h
def RX(M:List Nat)(w:World)(cs:List Value)(e:E):Prop:=RdE M w e cs
theorem j3a:N6a RX 4 where
 len h:=RdE.length h
 one h u hu:=by
  obtain⟨_,_,_,rfl,-⟩:=RdE.open_ h;simp at hu;rcases hu with rfl|rfl|rfl|rfl<;>rfl
 keep hk h:=RdE.keep hk _ _ h
 more hm h:=RdE.more hm _ _ h
theorem p3b:∀(us a r:List Value),r.length=us.length→f0a (a++r) a.length us=a++us
 | [],a,[],_=>rfl
 | [],_,_::_,h=>by simp at h
 | _::_,_,[],h=>by simp at h
 | u::us,a,x::r,h=>by
   have:=p3b us (a++[u]) r (by simpa using h);rw[f0a,List.set_append_right _ _ (Nat.le_refl _),Nat.sub_self,List.set_cons_zero];simpa using this
theorem Q1a.setM{α:Type}{R:List Nat→World→List Value→α→Prop}{size:Nat}{M:List Nat}{w:World}{G:Option Nat}{cs us:List Value}{v:Value}{l:List α}{i o:Nat}{x y:α}(hL:N6a R size)(h:Q1a R size M w G cs v l)(hi:l[i]?=some x)(ho:o=i*size)(hy:R (G.toList++M) w us y):
 Q1a R size M w G (f0a cs o us) v (l.set i y):=by
 obtain⟨css,q1,q2,q3,q4⟩:=h;have b0:=(List.getElem?_eq_some_iff.1 hi).1;have c0:I2b size w G cs v css:=⟨css,Z,q2,by rw[q1];exact q3,fun i x hi=>⟨x,hi,Z,q2 x (List.mem_of_getElem? hi),fun u hu=>by
  have d0:=(List.getElem?_eq_some_iff.1 hi).1;obtain⟨c,h5,h6⟩:=q4 i _ (List.getElem?_eq_getElem (by omega));obtain rfl:x=c:=Option.some.inj (hi.symm.trans h5);exact hL.one h6 u hu⟩⟩
 obtain⟨c,h4,h5⟩:=q4 i x hi;have f0:us.length=size:=hL.len hy;have e0:c.length=size:=hL.len h5;have hp:=c0.put h4 (us:=us) (j:=0) (o:=o) (by omega) (by omega) (hL.one hy);rw[show f0a c 0 us=us from p3b us [] c (by omega)] at hp;obtain⟨xs,r1,r2,r3,r4⟩:=hp;refine⟨xs,by simp[r1,q1],r2,by simpa[q1] using r3,fun k z hz=>?_⟩;have d0:=(List.getElem?_eq_some_iff.1 h4).1;have a0:∀c',(css.set i us)[k]?=some c'→xs[k]?=some c':=fun c' hc=>by
  obtain⟨c2,h7,h8⟩:=r4 k c' hc;rw[h7,h8.1]
 by_cases hk:i=k
 ·subst hk;rw[List.getElem?_set_self b0] at hz;obtain rfl:=Option.some.inj hz;exact⟨us,a0 us (List.getElem?_set_self d0),hy⟩
 ·rw[List.getElem?_set_ne hk] at hz;obtain⟨c2,h7,h8⟩:=q4 k z hz;exact⟨c2,a0 c2 (by rw[List.getElem?_set_ne hk];exact h7),h8⟩
theorem Q1a.own_{α:Type}{R:List Nat→World→List Value→α→Prop}{size:Nat}{M:List Nat}{w:World}{G:Option Nat}{cs:List Value}{A:Option Addr}{n c:Nat}{l:List α}(h:Q1a R size M w G cs (.slice A n c) l)(h0:0<l.length):∃g,G=some g∧A=some ⟨g,0,none⟩∧l.length*size≤cs.length:=by
 obtain⟨_,_,_,⟨_,hr⟩,_⟩:=h;rcases hr with⟨rfl,he,h5⟩|⟨g,a0,rfl,he,r1,r2,r3,r4⟩
 ·omega
 ·simp only[Value.slice.injEq] at he;exact⟨g,Z,he.1,by rw[r3];exact Nat.mul_le_mul_right _ r1⟩
theorem Q1a.mapR{α:Type}{R R2:List Nat→World→List Value→α→Prop}{size:Nat}{M M2:List Nat}{w w2:World}{G:Option Nat}{cs:List Value}{v:Value}{l:List α}(h:Q1a R size M w G cs v l)(hm:∀c x,x∈l→R (G.toList++M) w c x→R2 (G.toList++M2) w2 c x):Q1a R2 size M2 w2 G cs v l:=by
 obtain⟨css,q1,q2,q3,q4⟩:=h;refine⟨css,q1,q2,q3,fun i x hi=>?_⟩;obtain⟨c,h5,h6⟩:=q4 i x hi;exact⟨c,h5,hm c x (List.mem_of_getElem? hi) h6⟩
theorem RdL.rdS{M:List Nat}{w:World}{v:Value}{l:List E}(h:RdL M w v l):RdS M w 4 (RX M w) v l:=by
 obtain⟨A,n,c,rfl,h1,h2,h3,h4,h5⟩:=h.open_;refine⟨A,n,c,Z,h1,h2,h3,h4,fun h0=>?_⟩;obtain⟨b,o,hA,hb,hk⟩:=h5 h0;refine⟨b,o,hA,hb,fun i x hi=>?_⟩;have a0:=(List.getElem?_eq_some_iff.1 hi).1;obtain⟨c,h6,h7⟩:=hk i a0;rw[List.getElem?_eq_getElem a0] at hi;obtain rfl:=Option.some.inj hi;exact⟨c,h7.length,h6,h7⟩
theorem k0d{M:List Nat}{w:World}{v:Value}{l:List E}(h:RdS M w 4 (RX M w) v l):RdL M w v l:=by
 obtain⟨_,_,c,rfl,h1,h2,h3,h4,h5⟩:=h;refine RdL.made h1 h2 h3 h4 fun h0=>?_;obtain⟨b,o,hA,hb,hk⟩:=h5 h0;refine⟨b,o,hA,hb,fun i hi=>?_⟩;obtain⟨c,-,h6,h7⟩:=hk i _ (List.getElem?_eq_getElem hi);exact⟨c,h6,h7⟩
def zE:E:=⟨0,0,0,[]⟩
def jnE(op:Int)(a b:E):E:=⟨op,1,0,[a,b]⟩
def g3a(op unit:Int):List E→E
 | []=>⟨1,1,unit,[]⟩
 | e::es=>es.foldl (jnE op) e
def B3a(e:E):Bool:=decide (e.w=1)&&e.wf
def r1a(l:List E):List E:=l.filter fun e=>decide (e.op≠1)
def isC(e:E)(n:Int):Bool:=decide (e.op=1∧e.n=n)
def F2a(op unit:Int)(l:List E):E :=
 if l.all B3a then(if l.any (fun e=>isC e (1-unit)) then⟨1,1,1-unit,[]⟩ else if(g3a op unit (r1a l)).wf then g3a op unit (r1a l) else zE) else zE
theorem M0b(op unit:Int)(l:List E)(e:E):g3a op unit (l++[e])=if l=[] then e else jnE op (g3a op unit l) e:=by
 cases l with
 | nil=>simp[g3a]
 | cons x xs=>simp[g3a,List.foldl_append]
theorem c8b(op:Int):∀(es:List E) (acc:E) (d:Int),(es.foldl (jnE op) acc).good d=true→acc.good (d-es.length)=true
 | [],acc,d,h=>by simpa using h
 | e::es,acc,d,h=>by
   have h1:=c8b op es (jnE op acc e) d h;obtain⟨_,h2⟩:=B2a h1;have:=h2 acc (by simp[jnE]);rw[show d-((e::es).length:Nat)=d-(es.length:Nat)-1 by simp;omega];exact this
theorem C1d{op unit:Int}{l:List E}(h:(g3a op unit l).wf=true):l.length≤40:=by
 cases l with
 | nil=>simp
 | cons e es =>
   have h1:=c8b op es e 40 (k5a h);rw[E.good_def] at h1;simp only[Bool.and_eq_true,decide_eq_true_eq] at h1;simp;omega
theorem n5c(op:Int):∀(es:List E) (acc:E),(es.foldl (jnE op) acc).cnt=acc.cnt+E.cnts es+es.length
 | [],acc=>by simp[E.cnts]
 | e::es,acc=>by
   rw[List.foldl_cons,n5c op es,E.cnt_def (jnE op acc e)];simp only[jnE,E.cnts,List.length_cons];omega
theorem N9b{op unit:Int}{l:List E}(h:l≠[]):(g3a op unit l).cnt=E.cnts l+(l.length-1):=by
 cases l with
 | nil=>exact absurd Z h
 | cons e es=>show(es.foldl (jnE op) e).cnt=_;rw[n5c];simp[E.cnts]
theorem d8a(l:List E)(e:E):r1a (l++[e])=if e.op=1 then r1a l else r1a l++[e]:=by
 unfold r1a;rw[List.filter_append];by_cases h:e.op=1<;>simp[h]
theorem y2b{e:E}(h:B3a e=true)(ho:e.op=1):e.n=0∨e.n=1:=by
 unfold B3a at h;simp only[Bool.and_eq_true,decide_eq_true_eq] at h;have hs:=(X1b ho).1 (B2a (k5a h.2)).1;have hp:A3a e.w.toNat=2:=by rw[h.1];decide
 omega
theorem m1b(op unit:Int)(l:List E)(k:Nat)(hk:k<l.length):g3a op unit (l.take (k+1))=if k=0 then l[k] else jnE op (g3a op unit (l.take k)) l[k]:=by
 rw[List.take_add_one,List.getElem?_eq_getElem hk,Option.toList_some,M0b];by_cases h:k=0
 ·subst h;simp
 ·rw[if_neg h,if_neg];intro hh;have:=congrArg List.length hh;rw[List.length_take,List.length_nil] at this;omega
def v1b(s:ByteArray):Bool:=decide (1≤s.size)&&decide (s.size≤64)&&s.data.toList.all fun b=>decide (33≤b.toNat)&&decide (b.toNat≤126)
theorem x7a{s:ByteArray}(h:v1b s=true):K6a s:=by
 simp only[v1b,Bool.and_eq_true,decide_eq_true_eq,List.all_eq_true] at h;refine⟨h.1.1,h.1.2,fun i hi=>?_⟩;exact h.2 s[i] (by rw[ByteArray.getElem_eq_getElem_data];simp)
def inB(i:Int)(n:Nat):Bool:=decide (0≤i)&&decide (i<n)
theorem G8a{i:Int}{n:Nat}(h:inB i n=true):A2a i n:=by simpa[inB,A2a] using h
def V4b(cells:List a1a)(e:E)(sh:Bool)(t:Int):Bool:=(e.sup 3++e.sup 2).all fun x=>(decide (z1a cells x≠-1)||sh)&&(decide (z1a cells x<0)||decide (z1a cells x=t))
theorem T6a{cells:List a1a}{e:E}{sh:Bool}{t:Int}(h:V4b cells e sh t=true):Y4a cells e sh t:=fun x hx=>by
 have:=List.all_eq_true.1 h x hx;simp only[Bool.and_eq_true,Bool.or_eq_true,decide_eq_true_eq] at this;exact⟨fun e=>this.1.resolve_left (fun h=>h e),fun e=>this.2.resolve_left (by omega)⟩
def E0b(cells:List a1a)(e:E)(pair:Bool)(t:Int):Bool:=e.valid cells pair&&decide (e.w=1)&&V4b cells e true t
theorem k7a{cells:List a1a}{e:E}{a0:Bool}{t:Int}(h:E0b cells e a0 t=true):W6a cells e a0 t:=by
 simp only[E0b,Bool.and_eq_true,decide_eq_true_eq] at h;exact⟨h.1.1,h.1.2,T6a h.2⟩
def O9a:List Int→Bool
 | []=>true
 | x::l=>(l.all fun y=>decide (x<y))&&O9a l
theorem A7a:∀{l:List Int},O9a l=true→T1a l
 | [],_=>List.Pairwise.nil
 | x::l,h=>by
   simp only[O9a,Bool.and_eq_true,List.all_eq_true,decide_eq_true_eq] at h;exact List.Pairwise.cons h.1 (A7a h.2)
def pwB{α:Type}(r:α→α→Bool):List α→Bool
 | []=>true
 | x::l=>l.all (r x)&&pwB r l
theorem r1b{α:Type}{r:α→α→Bool}{R:α→α→Prop}(hr:∀a b,r a b=true→R a b):∀{l:List α},pwB r l=true→l.Pairwise R
 | [],_=>List.Pairwise.nil
 | x::l,h=>by
   simp only[pwB,Bool.and_eq_true,List.all_eq_true] at h;exact List.Pairwise.cons (fun y hy=>hr _ _ (h.1 y hy)) (r1b hr h.2)
def g6b(e:E):Bool:=decide (e.op=0)&&decide (e.w=0)&&decide (e.n=0)&&e.kids.isEmpty
theorem W8b{e:E}(h:g6b e=true):e.absent:=by
 simp only[g6b,Bool.and_eq_true,decide_eq_true_eq,List.isEmpty_iff] at h;exact⟨h.1.1.1,h.1.1.2,h.1.2,h.2⟩
def U2d(e:E):Bool:=decide (e.op=1)&&decide (e.w=1)&&decide (e.n=1)&&e.kids.isEmpty
theorem y6c{e:E}(h:U2d e=true):e=⟨1,1,1,[]⟩:=by
 simp only[U2d,Bool.and_eq_true,decide_eq_true_eq,List.isEmpty_iff] at h;cases e;simp_all
def ifB(c:Prop)[Decidable c](b:Bool):Bool:=!decide c||b
theorem p7a{c:Prop}[Decidable c]{b:Bool}(h:ifB c b=true)(hc:c):b=true:=by simpa[ifB,hc] using h
def n9c(p:o0a)(t:Int)(s:y2a):Bool :=
 V4b p.cells s.guard (decide (s.kind=4)) t &&
 ((List.range s.set.length).all fun i=>match s.set[i]? with|some a=>ifB (0<i∨s.kind≠2) (V4b p.cells a.to (decide (s.kind=4)) t)|none=>true) &&
 (s.set.all fun a=>decide (z1a p.cells a.cell=t∨z1a p.cells a.cell=-1)) &&
 ifB (s.kind=1) (s.set.all fun a=>decide (z1a p.cells a.cell=t)) &&
 ifB (s.kind=2) (match s.set with|[]=>false|a::l=>decide (z1a p.cells a.cell=t∧F0b p.cells a.cell=false∧a.to.op=2∧z1a p.cells a.to.n=-1∧F0b p.cells a.to.n=false)&&l.all fun b=>decide (z1a p.cells b.cell=t∧F0b p.cells b.cell=true)) &&
 ifB (s.kind=3) (match s.set with|[]=>false|a::l=>decide (z1a p.cells a.cell=-1∧F0b p.cells a.cell=false)&&l.all fun b=>decide (F0b p.cells b.cell=true)) &&
 ifB (5≤s.kind) (s.set.isEmpty&&U2d s.guard) &&
 ifB (6≤s.kind) (inB s.target p.threads.length&&decide (s.target≠t)) &&
 ifB (s.kind=6) (match p.threads[s.target.toNat]? with|some u=>u.asleep|none=>true)
theorem o4c{p:o0a}{t:Int}{s:y2a}(h:n9c p t s=true):Z3b p t s:=by
 simp only[n9c,Bool.and_eq_true] at h;obtain⟨⟨⟨⟨⟨⟨⟨⟨a1,a2⟩,a3⟩,a4⟩,a5⟩,a6⟩,a7⟩,a8⟩,a9⟩:=h;refine⟨T6a a1,fun i hi hc=>?_,fun a ha=>of_decide_eq_true (List.all_eq_true.1 a3 a ha),fun hk a ha=>of_decide_eq_true (List.all_eq_true.1 (p7a a4 hk) a ha),fun hk=>?_,fun hk=>?_,fun hk=>?_,fun hk=>?_,fun hk u hu=>?_⟩
 ·have:=List.all_eq_true.1 a2 i (List.mem_range.2 hi);rw[List.getElem?_eq_getElem hi] at this;exact T6a (p7a this hc)
 ·have:=p7a a5 hk
  split at this
  ·cases this
  ·rename_i a l hs;rw[Bool.and_eq_true] at this;obtain⟨b1,b2,b3,b4,b5⟩:=of_decide_eq_true this.1;exact⟨a,l,hs,b1,b2,b3,b4,b5,fun b hb=>of_decide_eq_true (List.all_eq_true.1 this.2 b hb)⟩
 ·have:=p7a a6 hk
  split at this
  ·cases this
  ·rename_i a l hs;rw[Bool.and_eq_true] at this;obtain⟨b1,b2⟩:=of_decide_eq_true this.1;exact⟨a,l,hs,b1,b2,fun b hb=>of_decide_eq_true (List.all_eq_true.1 this.2 b hb)⟩
 ·have:=p7a a7 hk;rw[Bool.and_eq_true,List.isEmpty_iff] at this;exact⟨this.1,y6c this.2⟩
 ·have:=p7a a8 hk;rw[Bool.and_eq_true] at this;exact⟨G8a this.1,of_decide_eq_true this.2⟩
 ·have:=p7a a9 hk;rw[hu] at this;exact this
def stepB(p:o0a)(t:Int)(points:Int)(s:y2a):Bool :=
 decide (1≤s.kind∧s.kind≤7)&&decide (0≤s.frm∧s.frm<points-1)&&decide (0≤s.to∧s.to<points)&&inB s.module_ p.modules.length&&ifB (s.release=true) (decide (s.kind=3)) &&
 ifB (s.target≠0) (decide (s.kind=6∨s.kind=7))&&(s.guard.valid p.cells false&&decide (s.guard.w=1)) &&
 (s.set.all fun a=>inB a.cell p.cells.length&&a.to.valid p.cells false&&decide (a.to.w=wAt p.cells a.cell))&&pwB (fun a b=>decide (a.cell≠b.cell)) s.set&&n9c p t s
theorem H3c{p:o0a}{t points:Int}{s:y2a}(h:stepB p t points s=true):G3b p t points s:=by
 simp only[stepB,Bool.and_eq_true] at h;obtain⟨⟨⟨⟨⟨⟨⟨⟨⟨a1,a2⟩,a3⟩,a4⟩,a5⟩,a6⟩,a7,b0⟩,a8⟩,a9⟩,a0⟩:=h;refine⟨of_decide_eq_true a1,of_decide_eq_true a2,of_decide_eq_true a3,G8a a4,fun hr=>of_decide_eq_true (p7a a5 hr),fun hr=>of_decide_eq_true (p7a a6 hr),⟨a7,of_decide_eq_true b0⟩,fun a ha=>?_,r1b (fun a b h=>of_decide_eq_true h) a9,o4c a0⟩;have:=List.all_eq_true.1 a8 a ha;simp only[Bool.and_eq_true] at this;exact⟨G8a this.1.1,this.1.2,of_decide_eq_true this.2⟩
def D7c(p:o0a)(t points:Int)(l:w6b):Bool:=decide (0≤l.head∧l.head<points)&&O9a l.body&&(l.body.all fun x=>decide (0≤x∧x<points∧x≠l.head))&&(l.variant.valid p.cells false&&V4b p.cells l.variant true t)
theorem w4c{p:o0a}{t points:Int}{l:w6b}(h:D7c p t points l=true):t0c p t points l:=by
 simp only[D7c,Bool.and_eq_true] at h;obtain⟨⟨⟨a1,a2⟩,a3⟩,a4,a5⟩:=h;exact⟨of_decide_eq_true a1,A7a a2,fun x hx=>of_decide_eq_true (List.all_eq_true.1 a3 x hx),a4,T6a a5⟩
def x6b(p:o0a)(t:Nat)(x:k1a):Bool :=
 v1b x.name&&decide (1≤x.points∧x.points≤48)&&decide (x.steps.length≤64)&&decide (x.loops.length≤8)&&decide ((x.asserts.length:Int)=x.points)&&decide ((x.modules.length:Int)=x.points) &&
 (x.modules.all fun m=>inB m p.modules.length)&&(x.asserts.all fun e=>E0b p.cells e false t)&&(x.steps.all fun s=>stepB p t x.points s)&&(x.loops.all fun l=>D7c p t x.points l)
theorem b9b{p:o0a}{t:Nat}{x:k1a}(h:x6b p t x=true):Z5a p t x:=by
 simp only[x6b,Bool.and_eq_true] at h;obtain⟨⟨⟨⟨⟨⟨⟨⟨⟨a1,a2⟩,a3⟩,a4⟩,a5⟩,a6⟩,a7⟩,a8⟩,a9⟩,a0⟩:=h;exact⟨x7a a1,of_decide_eq_true a2,of_decide_eq_true a3,of_decide_eq_true a4,of_decide_eq_true a5,of_decide_eq_true a6,fun m hm=>G8a (List.all_eq_true.1 a7 m hm),fun m hm=>k7a (List.all_eq_true.1 a8 m hm),
  fun m hm=>H3c (List.all_eq_true.1 a9 m hm),fun m hm=>w4c (List.all_eq_true.1 a0 m hm)⟩
def T7c(p:o0a)(c:a1a):Bool:=v1b c.name&&decide (1≤c.w∧c.w≤8)&&decide (0≤c.init∧c.init<A3a c.w.toNat)&&decide (-1≤c.thread∧c.thread<p.threads.length)&&inB c.module_ p.modules.length
theorem R3c{p:o0a}{c:a1a}(h:T7c p c=true):Y6b p c:=by
 simp only[T7c,Bool.and_eq_true] at h;obtain⟨⟨⟨⟨a1,a2⟩,a3⟩,a4⟩,a5⟩:=h;exact⟨x7a a1,of_decide_eq_true a2,of_decide_eq_true a3,of_decide_eq_true a4,G8a a5⟩
def j3d(p:o0a)(m:j1a):Bool:=v1b m.name&&v1b m.owner&&(g6b m.rely||E0b p.cells m.rely true (-1))&&E0b p.cells m.guar true (-1)&&(m.frame.all fun x=>inB x p.cells.length&&decide (z1a p.cells x=-1))&&O9a m.frame
theorem R8c{p:o0a}{m:j1a}(h:j3d p m=true):M4c p m:=by
 simp only[j3d,Bool.and_eq_true,Bool.or_eq_true] at h;obtain⟨⟨⟨⟨⟨a1,a2⟩,a3⟩,a4⟩,a5⟩,a6⟩:=h;refine⟨x7a a1,x7a a2,a3.imp W8b k7a,k7a a4,fun x hx=>?_,A7a a6⟩;have:=List.all_eq_true.1 a5 x hx;rw[Bool.and_eq_true] at this;exact⟨G8a this.1,of_decide_eq_true this.2⟩
def F9c(p:o0a)(l:a5b):Bool:=inB l.cell p.cells.length&&decide (z1a p.cells l.cell=-1∧wAt p.cells l.cell=1∧F0b p.cells l.cell=false)&&inB l.module_ p.modules.length&&E0b p.cells l.inv false (-1)
theorem F4c{p:o0a}{l:a5b}(h:F9c p l=true):V6b p l:=by
 simp only[F9c,Bool.and_eq_true] at h;obtain⟨⟨⟨a1,a2⟩,a3⟩,a4⟩:=h;exact⟨⟨G8a a1,of_decide_eq_true a2⟩,G8a a3,k7a a4⟩
def j0d(p:o0a):Bool :=
 decide (p.cells.length≤32)&&decide (p.modules.length≤6)&&decide (p.locks.length≤4)&&decide (p.threads.length≤4) &&
 p.cells.all (T7c p)&&pwB (fun a b=>decide (a.name≠b.name)) p.cells&&p.modules.all (j3d p)&&pwB (fun a b=>decide (a.name≠b.name)) p.modules&&p.locks.all (F9c p)&&pwB (fun a b=>decide (a.cell≠b.cell)) p.locks &&
 ((List.range p.threads.length).all fun t=>match p.threads[t]? with|some x=>x6b p t x|none=>true)&&pwB (fun a b=>decide (a.name≠b.name)) p.threads
theorem H4c{p:o0a}(h:j0d p=true):o1a p:=by
 simp only[j0d,Bool.and_eq_true] at h;obtain⟨⟨⟨⟨⟨⟨⟨⟨⟨⟨⟨a1,a2⟩,a3⟩,a4⟩,a5⟩,a6⟩,a7⟩,a8⟩,a9⟩,a0⟩,b0⟩,c0⟩:=h;refine⟨of_decide_eq_true a1,of_decide_eq_true a2,of_decide_eq_true a3,of_decide_eq_true a4,fun c hc=>R3c (List.all_eq_true.1 a5 c hc),r1b (fun _ _ h=>of_decide_eq_true h) a6,fun c hc=>R8c (List.all_eq_true.1 a7 c hc),
  r1b (fun _ _ h=>of_decide_eq_true h) a8,fun c hc=>F4c (List.all_eq_true.1 a9 c hc),r1b (fun _ _ h=>of_decide_eq_true h) a0,fun t ht=>?_,r1b (fun _ _ h=>of_decide_eq_true h) c0⟩
 have:=List.all_eq_true.1 b0 t (List.mem_range.2 ht);rw[List.getElem?_eq_getElem ht] at this;exact b9b this
section
variable {P:Program} {r:Option Nat} {N:Nat} {D:List Deferred} {e:Env} {w:World} {ops:Array Oper} {rest:List Oper} {K:List Deferred→Env→World→Prop}
variable {d:Nat} {t:TypeId} {p:String} {af:Array Edge} {x y:Operand} {xt yt:TypeId} {kd:IntKind} {a b:Int} {C:World→Prop} {Kq:Env→Prop}
theorem e3c(w:World)(h0:0≤a)(h1:0<b):(Op.intDiv .rem kd a b).run P w=.ok (.int kd (a % b)) w:=by
 have hb:b≠0:=by omega
 have ht:a.tmod b=a % b:=Int.tmod_eq_emod_of_nonneg h0;simp[Op.intDiv,hb,ht]
theorem A1d(hx:ev e x=.int kd a)(hy:ev e y=.int kd b)(hd:Nat.ble (d+1) N=true)(h:WL P r N ops rest K D (upd e d (.int kd (a % b))) w)(h0:0≤a:=by omega)(h1:0<b:=by omega):
 WL P r N ops (⟨some d,.binOp .rem xt x y yt,t,p,af,none⟩::rest) K D e w :=
 P0a Z Z hd (by simp[execOp,hx,hy,eqGuard,binOp,e3c w h0 h1]) h
end
section
variable {α:Type} {M:List Nat} {w:World} {size:Nat} {R:List Value→α→Prop} {g:Nat}
theorem j6b{css:List (List Value)}{l:List α}{n:Nat}(hg:g∉M)(hc:Cells w g 0 css.flatten)(hn:n=l.length)(hl:css.length=l.length)(h4:∀x∈css,x.length=size)(hR:∀(i:Nat) (x:α),l[i]?=some x→∃c,css[i]?=some c∧R c x)(a0:l.length≤1000000:=by simp):RdS M w size R (.slice (some ⟨g,0,none⟩) n n) l:=by
 subst hn;refine⟨_,_,_,Z,Z,Nat.le_refl _,by unfold maxLen;omega,by omega,fun _=>⟨g,0,Z,hg,fun i x hi=>?_⟩⟩;obtain⟨c,h5,h6⟩:=hR i x hi;exact⟨c,h4 c (List.mem_of_getElem? h5),fun j u hj=>by simpa using hc _ u (G8b css i c h4 h5 j u hj),h6⟩
theorem L3c{c:List Value}{x:α}(hc:Cells w g 0 c)(h4:c.length=size)(hr:R c x)(hg:g∉M:=by simp):RdS M w size R (.slice (some ⟨g,0,none⟩) 1 1) [x] :=
 j6b (css:=[c]) hg (by simpa using hc) Z Z (by simpa using h4) (fun i y hi=>by
  match i,hi with
  | 0,hi=>cases hi;exact⟨c,Z,hr⟩)
theorem U1b{c c2:List Value}{x x2:α}(hc:Cells w g 0 (c++c2))(h4:c.length=size)(h5:c2.length=size)(hr:R c x)(a0:R c2 x2)(hg:g∉M:=by simp):RdS M w size R (.slice (some ⟨g,0,none⟩) 2 2) [x,x2] :=
 j6b (css:=[c,c2]) hg (by simpa using hc) Z Z (by simpa using⟨h4,h5⟩) (fun i y hi=>by
  match i,hi with
  | 0,hi=>cases hi;exact⟨c,Z,hr⟩
  | 1,hi=>cases hi;exact⟨c2,Z,a0⟩)
theorem F1d{c c2 c3:List Value}{x x2 x3:α}(hc:Cells w g 0 (c++(c2++c3)))(h4:c.length=size)(h5:c2.length=size)(h6:c3.length=size)(hr:R c x)(a0:R c2 x2)(b0:R c3 x3)(hg:g∉M:=by simp):RdS M w size R (.slice (some ⟨g,0,none⟩) 3 3) [x,x2,x3] :=
 j6b (css:=[c,c2,c3]) hg (by simpa using hc) Z Z (by simpa using⟨h4,h5,h6⟩) (fun i y hi=>by
  match i,hi with
  | 0,hi=>cases hi;exact⟨c,Z,hr⟩
  | 1,hi=>cases hi;exact⟨c2,Z,a0⟩
  | 2,hi=>cases hi;exact⟨c3,Z,b0⟩)
end
theorem Y2a{P:Program}{f:FuncId}{args:Array Value}{w:World}{b:Bool}(h:E0a P f args w fun v w'=>v=.bool b∧Below w.heap.size w w')(hb:b=true):E0a P f args w fun v w'=>v=.bool true∧Below w.heap.size w w':=by
 subst hb;exact h
theorem P2b:∀(vs a r:List Value),vs.length≤r.length→f0a (a++r) a.length vs=a++vs++r.drop vs.length:=by
 intro vs
 induction vs with
 | nil=>intro a r _;simp[f0a]
 | cons v vs ih =>
   intro a r h;cases r with
   | nil=>simp at h
   | cons x r =>
     have h1:(a++x::r).set a.length v=(a++[v])++r:=by simp
     have:=ih (a++[v]) r (by simpa using h);simp only[f0a,h1];rw[show a.length+1=(a++[v]).length by simp,this];simp
section
variable {P:Program} {r:Option Nat} {N:Nat} {D:List Deferred} {e:Env} {w w0:World} {ops:Array Oper} {rest:List Oper} {K:List Deferred→Env→World→Prop} {L:List Ent} {M:List Nat}
variable {d:Nat} {t:TypeId} {p:String} {af:Array Edge} {x y:Operand}
theorem A8c{ty el a0 n:Nat}{z:Value}{kl kc:IntKind}(S:St M w0 w L)(hS:SlZ P ty el 4 z a0)(hx:ev e x=.int kl (n:Int))(hy:ev e y=.int kc (n:Int))(hb:a0*n≤140737488355328)(hc:n≤140737488355328)(hd:Nat.ble (d+1) N=true)
 (h:∀g w1 cs,cs.length=n*4→St M w0 w1 ((some g,el,cs)::L)→u0a [] w w1→w.heap.size≤g→WL P r N ops rest K D (upd e d (.slice (some ⟨g,0,none⟩) n n)) w1) :
 WL P r N ops (⟨some d,.makeSlice ty x y,t,p,af,none⟩::rest) K D e w:=by
 obtain⟨i,hi,hz,d0,c0⟩:=hS.parts;have b0:(i.bytes:Int)*(n:Int)≤281474976710656:=by
  have:((a0*n:Nat):Int)≤281474976710656:=by omega
  rw[c0];rwa [Int.natCast_mul] at this
 have hr:=run_make (P:=P) w ty el i z hS.und hi hz kl kc n n (by omega) (by omega) b0 (by omega);simp only[Int.toNat_natCast] at hr;have hm:madeCells z.cells (n*i.size)=(madeCells z.cells (n*i.size)).toList.toArray:=by simp
 rw[hm] at hr;refine P0a (v:=.slice (some ⟨w.heap.size,0,none⟩) n n) Z Z hd ?_ (h _ _ (madeCells z.cells (n*i.size)).toList (by rw[Array.length_toList,size_madeCells,d0]) (S.alloc el _) (B1a _ _ _) (Nat.le_refl _));simp only[execOp,hx,hy,Sem.run_bind,hr,Result.andThen_ok,Sem.run_pure]
end
theorem K7c{M:List Nat}{w:World}{op wd n:Int}{ks:List E}{g:Nat}{css:List (List Value)}{rest:List Value}(h1:i64 op)(h2:i64 wd)(h3:i64 n)(hg:g∉M)(hc:Cells w g 0 (css.flatten++rest))(hl:css.length=ks.length)(h4:∀x∈css,x.length=4)
 (hk:∀(i:Nat) (h:i<ks.length),∃c,css[i]?=some c∧RdE M w ks[i] c) (hb:ks.length≤1000):RdE M w ⟨op,wd,n,ks⟩ [.int .i64 op,.int .i64 wd,.int .i64 n,.slice (some ⟨g,0,none⟩) ks.length ks.length]:=by
 rw[RdE];refine⟨_,_,_,Z,h1,h2,h3,Z,Nat.le_refl _,by unfold maxLen;omega,by show ks.length≤_;omega,fun _=>⟨g,0,Z,hg,fun i hi=>?_⟩⟩;obtain⟨c,q1,q2⟩:=hk i hi;refine⟨c,fun j v hj=>?_,q2⟩;have hf:=G8b css i c h4 q1 j v hj;have a0:i*4+j<css.flatten.length:=(List.getElem?_eq_some_iff.1 hf).1;have:=hc (i*4+j) v (by rw[List.getElem?_append_left a0];exact hf);rw[←Nat.add_assoc] at this;exact this
theorem I8a(n wd:Int)(hn:i64 n)(hw:i64 wd)(M:List Nat)(w0:World):
 E0a prog 163 #[.int .i64 n,.int .i64 wd] w0 fun v w'=>(∃cs:List Value,v=.agg cs.toArray∧RdE M w' ⟨1,wd,n,[]⟩ cs)∧Below w0.heap.size w0 w':=by
 have S:=St.refl w0;refine a0a func163 Z ntmps163 Z ?_;refine wO0 Z U (h0a S R1a Z Z ?_);intro g4 w4 S4 X4 G4;refine lO0 Z U (H0a W1a (vs:=[(0,.int .i64 _),(1,.int .i64 _),(2,.int .i64 _)]) (cs:=[_,_,_,_]) Z Z Z Z ?_)
 first|refine c0a (kk:=0) (vs:=[_,_,_,_]) S4 i1a Z Z Z Z Z Z Z ?_
 intro c0 a0 b0;dsimp only[f0a,List.set] at a0;refine lR0 Z U ?_;exact w0a Z G0a Z (a0.cells 0 Z) Z ⟨⟨_,Z,f1a (by unfold i64;omega) hw hn⟩,a0.fin⟩
theorem I9a(e:E)(n:Int)(M:List Nat)(w0:World)(cs:List Value)(hR:RdE M w0 e cs):
 E0a prog 162 #[.agg cs.toArray,.int .i64 n] w0 fun v w'=>v=.bool (decide (e.op=1∧e.n=n))∧Below w0.heap.size w0 w':=by
 obtain⟨_,k,_,rfl,-⟩:=hR.open_;have S:=St.refl w0;refine a0a func162 Z ntmps162 Z ?_;refine wO0 Z U (p0a S Z ?_);intro g2 w2 S2 X2 G2;refine lB S2.k [.o 0] Z ⟨Z,U⟩ (fun h7=>?_) fun h7=>?_
 ·refine lB S2.k [.o 0] Z ⟨Z,U⟩ (fun a0=>?_) fun a0=>?_
  ·refine lT Z U Z ⟨congrArg Value.bool ?_,S2.fin⟩;exact(decide_eq_true ⟨h7,a0⟩).symm
  refine lT Z U Z ⟨congrArg Value.bool ?_,S2.fin⟩;exact(decide_eq_false (fun h=>a0 h.2)).symm
 refine lT Z U Z ⟨congrArg Value.bool ?_,S2.fin⟩;exact(decide_eq_false (fun h=>h7 h.1)).symm
theorem R2b(e:E)(M:List Nat)(w0:World)(cs:List Value)(hR:RdE M w0 e cs)(hK:i2a M w0):
 E0a prog 161 #[.agg cs.toArray] w0 fun v w'=>v=.bool (decide (e.w=1)&&e.wf)∧Below w0.heap.size w0 w':=by
 obtain⟨_,k,_,rfl,-⟩:=hR.open_;have S:=St.refl w0;refine a0a func161 Z ntmps161 Z ?_;refine wO0 Z U (p0a S Z ?_);intro g1 w1 S1 X1 G1;refine lB S1.k [.o 0] Z ⟨Z,U⟩ (fun h5=>?_) fun h5=>?_
 ·refine lO S1.k [.w 0] Z ⟨⟨Z,by rfl⟩,U⟩ (v0a S1 c1b Z Z (x2a e M _ _ (RdE.keep (S1.keep0 M) _ _ hR) (hK.keep (S1.keep0 M))) (fun h8 w8 S8 X8=>?_) (fun h8 w8 S8 X8=>?_))
  ·refine lT Z U Z ⟨congrArg Value.bool ?_,S8.fin⟩;simp[h5,h8];done
  refine lT Z U Z ⟨congrArg Value.bool ?_,S8.fin⟩;simp[h5,h8];done
 refine lT Z U Z ⟨congrArg Value.bool ?_,S1.fin⟩;simp[h5];done
theorem k8b(e:E)(M:List Nat)(w0:World)(cs:List Value)(hR:RdE M w0 e cs)(hK:i2a M w0):
 E0a prog 165 #[.agg cs.toArray] w0 fun v w'=>(∃cs:List Value,v=.agg cs.toArray∧RdE M w' (if e.wf=true then e else⟨0,0,0,[]⟩) cs)∧Below w0.heap.size w0 w':=by
 obtain⟨_,k,_,rfl,-⟩:=hR.open_;have S:=St.refl w0;refine a0a func165 Z ntmps165 Z ?_;refine wO0 Z U (p0a S Z ?_);intro g1 w1 S1 X1 G1;refine h0a S1 R1a Z Z ?_;intro g2 w2 S2 X2 G2;refine lO S2.k [.w 1] Z ⟨⟨Z,by rfl⟩,U⟩ (v0a S2 c1b Z Z (x2a e M _ _ (RdE.keep (S2.keep0 M) _ _ hR) (hK.keep (S2.keep0 M))) (fun h4 w4 S4 X4=>?_) (fun h4 w4 S4 X4=>?_))
 ·refine lO S4.k [.w 1] Z ⟨⟨Z,by rfl⟩,U⟩ (c0a (kk:=0) (vs:=[_,_,_,_]) S4 i1a Z Z Z Z Z Z Z ?_);intro f0 a0 d0;dsimp only[f0a,List.set] at a0;refine lR0 Z U ?_;exact w0a Z G0a Z (a0.cells 0 Z) Z ⟨⟨_,Z,by rw[if_pos h4];exact RdE.keep (a0.keep0 M) _ _ hR⟩,a0.fin⟩
 refine lO0 Z U (H0a W1a (vs:=[]) (cs:=[_,_,_,_]) Z Z Z Z ?_);refine c0a (kk:=0) (vs:=[_,_,_,_]) S4 i1a Z Z Z Z Z Z Z ?_;intro e0 b0 c0;dsimp only[f0a,List.set] at b0;refine lR0 Z U ?_;exact w0a Z G0a Z (b0.cells 0 Z) Z ⟨⟨_,Z,by rw[if_neg (by simp[h4])];exact f1a (by unfold i64;omega) (by unfold i64;omega) (by unfold i64;omega)⟩,b0.fin⟩
theorem n3c(e:E)(M:List Nat)(w0:World)(b o:Nat)(hR:RdP M w0 e b o)(hk:e.kids.length=0):
 E0a prog 225 #[.pointer (some ⟨b,o,none⟩)] w0 fun v w'=>(∃cs:List Value,v=.agg cs.toArray∧∀M',RdE M' w' e cs)∧Below w0.heap.size w0 w':=by
 obtain⟨_,o1,o2,o3,c0,c1,c2,-⟩:=hR.open_;have S:=St.refl w0;have he:e=⟨e.op,e.w,e.n,[]⟩:=by
  obtain⟨_,b,_⟩:=e;simp at hk;rw[hk]
 refine a0a func225 Z ntmps225 Z ?_;refine wO0 Z U (h0a S R1a Z Z ?_);intro g2 w2 S2 X2 G2;refine lC0 Z U (y0a b0a [0,1,2,3,4,5,6,7,8,9,10,11,12] [] [13] Z (Cl _ _ _ _) (Cl.start S2) ?_);refine qO0 Z U (i0a x0a Z (fun w1 hw=>by exact hw.1.old c0) Z ?_);refine qO0 Z U (i0a x0a Z (fun w1 hw=>by exact hw.1.old c1) Z ?_);refine qO0 Z U (i0a x0a Z (fun w1 hw=>by exact hw.1.old c2) Z ?_);refine G2a W1a (vs:=[(0,.int .i64 _),(1,.int .i64 _),(2,.int .i64 _)]) (cs:=[_,_,_,_]) Z Z Z Z ?_;refine qD Z U ?_;rintro f0 ⟨e0,_⟩
 first|refine c0a (kk:=0) (vs:=[_,_,_,_]) e0 i1a Z Z Z Z Z Z Z ?_
 intro d0 a0 b0;dsimp only[f0a,List.set] at a0;refine lR0 Z U ?_;exact w0a Z G0a Z (a0.cells 0 Z) Z ⟨⟨_,Z,fun M'=>by rw[he];exact f1a o1 o2 o3⟩,a0.fin⟩
theorem w5b:∀(e:E) (M:List Nat) (w0:World) (b o:Nat) (v0:Int),RdP M w0 e b o→e.good v0=true→(∀g∈M,g<w0.heap.size) →
 E0a prog 224 #[.pointer (some ⟨b,o,none⟩),.func (.func 225) #[] #[]] w0 fun v w'=>(∃cs:List Value,v=.agg cs.toArray∧RdE M w' e cs)∧Below w0.heap.size w0 w':=by
 intro e
 induction e using E.induct with
 | _ e ih =>
 intro M w0 b o v0 hR hg hM;obtain⟨_,o1,o2,o3,c0,c1,c2,_,n,c,c3,hn,_,hm,_,S0,_⟩:=hR.open_;obtain⟨V0,Q0⟩:=B2a hg;have a1:=(P3a V0).2.2.1;have O0:=S1a e.op;have h3:e.kids.length≤3:=by omega
 subst hn;have S:=St.refl w0;refine a0a func224 Z ntmps224 Z ?_;refine wO0 Z U (h0a S R1a Z Z ?_);intro g4 w4 S4 X4 G4;refine lO0 Z U (B0a F1a Z (by exact S4.old c3) Z ?_);refine lB0 Z U (fun J0=>?_) fun J0=>?_
 ·refine lO0 Z U (c7a S4 N9c Z Z Z (n3c e M _ b o (hR.keep (S4.keep0 M)) (by omega)) ?_);rintro d1 g1 ⟨_,rfl,D0⟩ E0 Y0;obtain⟨_,_,_,rfl,-⟩:=(D0 []).open_
  first|refine c0a (kk:=0) (vs:=[_,_,_,_]) E0 i1a Z Z Z Z Z Z Z ?_
  intro W0 f0 q0;dsimp only[f0a,List.set] at f0;exact lR0 Z U (w0a Z G0a Z (f0.cells 0 Z) Z ⟨⟨_,Z,RdE.more (fun g hg=>.inl (by simp[hg])) _ _ (RdE.keep (q0.mono (by simp)) _ _ (D0 (g4::M)))⟩,f0.fin⟩)
 refine lO0 Z U (B0a F1a Z (by exact S4.old c3) Z ?_);refine lO0 Z U (A8c (n:=e.kids.length) S4 O0a Z Z (by omega) (by omega) Z ?_);intro d0 i1 r0 C0 F0 Z0 X0;refine lC0 Z U (wL (fun μ D ε w=>D=[]∧∃k:Nat,∃css:List (List Value),∃rest:List Value,(k+μ=e.kids.length)∧(css.length=k)∧(∀x∈css,x.length=4)∧(rest.length=μ*4)∧(∀(i:Nat) (h:i<e.kids.length),i<k→∃c,css[i]?=some c∧RdE (d0::g4::M) w e.kids[i] c)∧St [] w0 w [(some d0,37,css.flatten++rest),(some g4,37,[.int .i64 0,.int .i64 0,.int .i64 0,.slice none 0 0])]∧ε 0=.pointer (some ⟨b,o,none⟩)∧ε 1=.func (.func 225) #[] #[]∧ε 4=.pointer (some ⟨g4,0,none⟩)∧ε 5=.slice (some ⟨d0,0,none⟩) e.kids.length e.kids.length∧ε 23=.int .i64 e.kids.length∧ε 24=.int .i64 k) (μ:=e.kids.length) ⟨Z,0,[],r0,by omega,Z,by simp,by omega,fun i h h0=>absurd h0 (by omega),F0,Z,Z,Z,Z,Z,Z⟩ ?_);rintro μ D ε w ⟨rfl,k,css,rest,_,hl,h4,T0,B0,S,e0,e1,e4,e5,z0,A0⟩;refine q0a 0 e0 (q0a 1 e1 (q0a 4 e4 (q0a 5 e5 (q0a 23 z0 (q0a 24 A0 ?_)))));clear e0 e1 e4 e5 z0 A0;have L0:∀g∈d0::g4::M,g∈M∨w0.heap.size≤g:=by
  intro g hg;simp at hg;rcases hg with rfl|rfl|hg
  ·right;simpa using S.new 0 Z
  ·right;simpa using S.new 1 Z
  ·exact .inl hg
 have N0:∀g∈d0::g4::M,g<w.heap.size:=by
  intro g hg;simp at hg;rcases hg with rfl|rfl|hg
  ·exact S.lt 0 Z
  ·exact S.lt 1 Z
  ·have:=hM g hg;have:=S.size;omega
 refine wB0 Z U (fun K0=>?_) fun K0=>?_
 ·refine lO0 Z U (B0a F1a Z (by exact S.old c3) Z ?_);refine lO0 Z U ?_;have u0:k<e.kids.length:=by omega
  obtain⟨bk,ok,_,s0,R0⟩:=S0 (by omega);refine N0a O0a.slT Z (by assumption) Z Z ?_;refine lO0 Z U (j0a S Z0c Z Z (ih e.kids[k] (List.getElem_mem u0) (d0::g4::M) _ bk (ok+k*4) (v0-1) (((RdP.kid s0 R0 k u0).more L0).keep (S.keep0 _)) (Q0 _ (List.getElem_mem u0)) N0) ?_);rintro f1 j1 ⟨g0,rfl,x0⟩ y0 H0;have i0:=x0.length;obtain⟨_,_,_,n0,-⟩:=x0.open_;refine lO y0.k [.i] Z ⟨by omega,U⟩ ?_;refine c0a (kk:=0) (vs:=g0) y0 i1a Z Z (by simp) i0 (by rw[n0];rfl) Z (by rw[Nat.ble_eq,List.length_append,j4a css h4,hl,T0];simp;omega) ?_;intro o0 S7 b0;have P0:css.flatten.length=k*4:=by rw[j4a css h4,hl]
  have U0:f0a (css.flatten++rest) (0+(k:Int).toNat*4) g0=(css++[g0]).flatten++rest.drop 4:=by
   rw[show(0+(k:Int).toNat*4)=css.flatten.length by simp[P0],P2b g0 css.flatten rest (by omega),i0];simp
  have j0:St [] w0 o0 [(some d0,37,(css++[g0]).flatten++rest.drop 4),(some g4,37,[.int .i64 0,.int .i64 0,.int .i64 0,.slice none 0 0])]:=by rw[←U0];exact S7
  refine lP0 Z ⟨by omega,U⟩ ?_;refine⟨μ-1,by omega,Z,k+1,css++[g0],rest.drop 4,by omega,by simp[hl],fun x hx=>?_,by rw[List.length_drop];omega,fun i hi b1=>?_,?_,Z,Z,Z,Z,Z,Z⟩
  ·rcases List.mem_append.1 hx with hx|hx
   ·exact h4 x hx
   ·simp at hx;subst hx;exact i0
  ·by_cases t0:i<k
   ·obtain⟨q,q1,q2⟩:=B0 i hi t0;exact⟨q,by rw[List.getElem?_append_left (by omega)];exact q1,RdE.keep (b0.mono (by simp)) _ _ (RdE.keep H0.of_nil _ _ q2)⟩
   ·obtain rfl:i=k:=by omega
    exact⟨g0,by rw[List.getElem?_append_right (by omega),hl];simp,RdE.keep (b0.mono (by simp)) _ _ x0⟩
  ·exact j0
 refine lC0 Z U (y0a b0a [0,1,2,3,4,5,6,7,8,9,10,11,12,13] [] [14] Z (Cl _ _ _ _) (Cl.start S) ?_);refine qO0 Z U (i0a x0a Z (fun w1 hw=>by exact hw.1.old c0) Z ?_);refine qO0 Z U (i0a x0a Z (fun w1 hw=>by exact hw.1.old c1) Z ?_);refine qO0 Z U (i0a x0a Z (fun w1 hw=>by exact hw.1.old c2) Z ?_);refine qO0 Z U (G2a W1a (vs:=[(0,.int .i64 _),(1,.int .i64 _),(2,.int .i64 _),(3,.slice _ _ _)]) (cs:=[_,_,_,_]) Z Z Z Z ?_);refine qD Z U ?_;rintro m1 ⟨G0,I0⟩;refine c0a (kk:=1) (vs:=[_,_,_,_]) G0 i1a Z Z Z Z Z Z Z ?_;intro p0 a0 m0;dsimp only[f0a,List.set] at a0;refine lR0 Z U (w0a Z G0a Z (a0.cells 1 Z) Z ⟨⟨_,Z,?_⟩,a0.fin⟩);have he:(⟨e.op,e.w,e.n,e.kids⟩:E)=e:=by cases e;rfl
 suffices hq:RdE M p0 ⟨e.op,e.w,e.n,e.kids⟩ [.int .i64 e.op,.int .i64 e.w,.int .i64 e.n,.slice (some ⟨d0,0,none⟩) e.kids.length e.kids.length] by rw[he] at hq;exact hq
 refine K7c (css:=css) (rest:=rest) o1 o2 o3 (fun hm=>?_) (a0.cells 0 Z) (by omega) h4 (fun i hi=>?_) (by omega)
 ·have h1:=hM _ hm;have h2:=a0.new 0 Z;simp at h2;omega
 ·obtain⟨q,q1,q2⟩:=B0 i hi (by omega);exact⟨q,q1,RdE.more (fun g hg=>.inl (by simp[hg])) _ _ (RdE.keep (m0.mono (by simp)) _ _ (RdE.keep I0.of_nil _ _ q2))⟩
theorem w2c(e:E)(M:List Nat)(w0:World)(cs:List Value)(c0:Int)(hR:RdE M w0 e cs)(hg:e.good c0=true)(hM:∀g∈M,g<w0.heap.size):
 E0a prog 164 #[.agg cs.toArray] w0 fun v w'=>(∃cs:List Value,v=.agg cs.toArray∧RdE M w' e cs)∧Below w0.heap.size w0 w':=by
 obtain⟨_,_,_,rfl,-⟩:=hR.open_;have S:=St.refl w0;refine a0a func164 Z ntmps164 Z ?_;refine wO0 Z U (p0a S Z ?_);intro g1 w1 S1 X1 G1;refine h0a S1 R1a Z Z ?_;intro g2 w2 S2 X2 G2;refine lO0 Z U ?_;have d0:∀g∈g2::M,g∈M∨w0.heap.size≤g:=by
  intro g hg;rcases List.mem_cons.1 hg with rfl|hg
  ·right;simpa using S2.new 0 Z
  ·exact .inl hg
 have hP:RdP (g2::M) w2 e g1 0:=⟨fun hm=>by
  rcases List.mem_cons.1 hm with hm|hm
  ·exact absurd (H6a S2.apart (i:=1) (j:=0) Z Z Z (congrArg some hm.symm)) (by decide)
  ·have h1:=hM _ hm;have h2:=S2.new 1 Z;simp at h2;omega,_,S2.cells 1 Z,RdE.keep (S2.keep0 _) _ _ (RdE.more d0 _ _ hR)⟩
 refine j0a S2 Z0c Z Z (w5b e (g2::M) _ g1 0 c0 hP hg (fun g hg=>by rcases List.mem_cons.1 hg with rfl|hg;exact S2.lt 0 Z;have:=hM g hg;have:=S2.size;omega)) ?_;rintro v3 w3 ⟨_,rfl,r3⟩ S3 X3;obtain⟨_,_,_,rfl,-⟩:=r3.open_;refine c0a (kk:=0) (vs:=[_,_,_,_]) S3 i1a Z Z Z Z Z Z Z ?_;intro e0 a0 b0;dsimp only[f0a,List.set] at a0;replace r3:=RdE.keep (b0.mono (by simp)) _ _ r3;exact lR0 Z U (w0a Z G0a Z (a0.cells 0 Z) Z ⟨⟨_,Z,RdE.more (fun g hg=>.inl (by simp[hg])) _ _ r3⟩,a0.nil.fin⟩)
def D3d(M:List Nat)(w0:World)(cs:List Value)(e:E):Prop:=RdE M w0 e cs
theorem y8c(M:List Nat)(w0:World):N6a (fun(_:List Nat) (_:World)=>D3d M w0) 4 where
 len h:=RdE.length h
 one h u hu:=by
  obtain⟨_,_,_,rfl,-⟩:=RdE.open_ h;simp at hu;rcases hu with rfl|rfl|rfl|rfl<;>rfl
 keep _ h:=h
 more _ h:=h
theorem M4a{op unit:Int}{l:List E}{e:E}(he:e∈l)(h:B3a e=false):F2a op unit l=zE:=by
 unfold F2a;rw[if_neg];intro hh;rw[List.all_eq_true.1 hh e he] at h;cases h
theorem e7a{op unit:Int}{l:List E}(h:∀e∈l,B3a e=true)(hd:l.any (fun e=>isC e (1-unit))=true):F2a op unit l=⟨1,1,1-unit,[]⟩:=by
 unfold F2a;rw[if_pos (List.all_eq_true.2 h),if_pos hd]
theorem z2a{op unit:Int}{l:List E}(h:∀e∈l,B3a e=true)(hd:l.any (fun e=>isC e (1-unit))=false):F2a op unit l=if(g3a op unit (r1a l)).wf then g3a op unit (r1a l) else zE:=by
 unfold F2a;rw[if_pos (List.all_eq_true.2 h),if_neg (by rw[hd];decide)]
theorem j8b{op unit:Int}{l:List E}(h:∀e∈l,B3a e=true)(hd:l.any (fun e=>isC e (1-unit))=false)(hk:40<(r1a l).length):F2a op unit l=zE:=by
 rw[z2a h hd,if_neg];intro hh;have:=C1d hh;omega
theorem d9b{op unit:Int}{l:List E}(hu:unit=0∨unit=1)(h:∀e∈l,B3a e=true)(hd:l.any (fun e=>isC e (1-unit))=false)(hk:r1a l=[]):F2a op unit l=⟨1,1,unit,[]⟩:=by
 rw[z2a h hd,hk];rcases hu with rfl|rfl
 ·rfl
 ·rfl
def S2a(l:List E)(k:Nat):List E:=(r1a (l.take k)).take 41
theorem a2c(l:List E)(k:Nat):(S2a l k).length≤41:=by unfold S2a;rw[List.length_take];omega
theorem x3b(l:List E):(S2a l l.length).length=min 41 (r1a l).length:=by unfold S2a;rw[List.length_take,List.take_length]
theorem b3b{l:List E}{k:Nat}{e:E}(h:l[k]?=some e)(hn:e.op=1∨41≤(S2a l k).length):S2a l (k+1)=S2a l k:=by
 unfold S2a at hn ⊢;rw[F0a h,d8a]
 split
 ·rfl
 ·rename_i ho;rw[List.length_take] at hn;rw[List.take_append_of_le_length (by omega)]
theorem D1c{l:List E}{k:Nat}{e:E}(h:l[k]?=some e)(ho:e.op≠1)(hn:(S2a l k).length≤40):S2a l (k+1)=S2a l k++[e]:=by
 unfold S2a at hn ⊢;rw[List.length_take] at hn;rw[F0a h,d8a,if_neg ho,List.take_of_length_le (l:=r1a (l.take k)) (by omega),List.take_of_length_le (by simp;omega)]
theorem g5a{α:Type}{l:List α}{k:Nat}{e:α}(f:α→Bool)(h:l[k]?=some e):(l.take (k+1)).any f=((l.take k).any f||f e):=by
 rw[F0a h];simp
theorem R4c(a b:E)(op:Int)(ho:i64 op)(ca cb:List Value)(g:Nat)(M:List Nat)(w0:World)(hM:∀g∈M,g<w0.heap.size)(ha:RdE M w0 a ca)(hb:RdE M w0 b cb)(hg:w0.cell? ⟨g,0,none⟩=some (.int .i64 op)):
 E0a prog 167 #[.agg ca.toArray,.agg cb.toArray,.pointer (some ⟨g,0,none⟩)] w0 fun v w'=>(∃cs:List Value,v=.agg cs.toArray∧RdE M w' (jnE op a b) cs)∧Below w0.heap.size w0 w':=by
 have S:=St.refl w0;obtain⟨_,_,_,rfl,-⟩:=ha.open_;obtain⟨_,_,_,rfl,-⟩:=hb.open_;refine a0a func167 Z ntmps167 Z ?_;refine wO0 Z U (p0a S Z ?_);intro g3 w3 S3 X3 G3;refine p0a S3 Z ?_;intro g4 w4 S4 X4 G4;refine h0a S4 R1a Z Z ?_;intro g5 w5 S5 X5 G5;refine lO0 Z U (B0a x0a Z (by exact S5.old hg) Z ?_);refine lO S5.k [.w 2,.w 1] Z ⟨⟨Z,by rfl⟩,⟨Z,by rfl⟩,U⟩ (k0a S5 O0a (vs:=[.agg _,.agg _]) (cs:=[_,_,_,_,_,_,_,_]) Z Z Z Z Z Z ?_);intro g9 w9 S9 X9 G9;refine H0a W1a (vs:=[(0,.int .i64 _),(1,.int .i64 _),(3,.slice _ _ _)]) (cs:=[_,_,_,_]) Z Z Z Z ?_;refine c0a (kk:=1) (vs:=[_,_,_,_]) S9 i1a Z Z Z Z Z Z Z ?_;intro c0 a0 b0;dsimp only[f0a,List.set] at a0;refine lR0 Z U ?_;refine w0a Z G0a Z (a0.cells 1 Z) Z ⟨⟨_,Z,t2b ho (by unfold i64;omega) (fun hm=>?_) (a0.cells 0 Z) (RdE.keep (a0.keep0 M) _ _ ha) (RdE.keep (a0.keep0 M) _ _ hb)⟩,a0.fin⟩;have h1:=hM _ hm;have h2:=a0.new 0 Z;simp at h2;omega
theorem c4c(l:List E)(op unit:Int)(ho:i64 op)(y0:0<l.length)(S0:l.length≤1000)(M:List Nat)(w0:World)(vl:Value)(g:Nat)(hL:RdL M w0 vl l)(hM:∀g∈M,g<w0.heap.size)(hg:w0.cell? ⟨g,0,none⟩=some (.int .i64 op)):
 E0a prog 166 #[vl,.func (.func 167) #[] #[.pointer (some ⟨g,0,none⟩)]] w0 fun v w'=>(∃cs:List Value,v=.agg cs.toArray∧RdE M w' (g3a op unit l) cs)∧Below w0.heap.size w0 w':=by
 obtain⟨_,n,c,rfl,_,hc,_,_,I0⟩:=hL.open_;obtain⟨b,o,rfl,u0,x0⟩:=I0 (by omega);have S:=St.refl w0;refine a0a func166 Z ntmps166 Z ?_;refine wO0 Z U (h0a S R1a Z Z ?_);intro g4 w4 S4 X4 G4;refine lO0 Z U ?_;obtain⟨_,p0,j0⟩:=x0 0 y0;obtain⟨_,_,_,rfl,-⟩:=j0.open_;refine N0a O0a.slT Z (by rfl) Z Z ?_;refine q2a G0a Z (p0.keep (S4.keep0 M) u0) (by rfl) Z ?_;refine h0a S4 R1a Z Z ?_;intro g5 w5 S5 X5 G5;refine c0a (kk:=0) (vs:=[_,_,_,_]) S5 i1a Z Z Z Z Z Z Z ?_;intro N0 b0 D0;dsimp only[f0a,List.set] at b0;refine lO0 Z U (z6a (lo:=1) (hi:=n) O0a.slT Z (.inr Z) (.inl ⟨Z,Z⟩) hc hc Z ?_);obtain⟨m0,i0⟩:∃m0:Addr,(if c=1 then(⟨b,o,none⟩:Addr) else⟨b,o+1*4,none⟩)=m0:=⟨_,Z⟩;rw[i0];have G0:1<n→some m0=some (⟨b,o+4,none⟩:Addr):=fun h=>by rw[←i0,if_neg (by omega)]
 refine lC0 Z U ?_;refine wL (fun μ D ε w=>D=[]∧∃k:Nat,∃co:List Value,∃out:E,(k+1+μ=l.length)∧(out=g3a op unit (l.take (k+1)))∧(RdE (g4::g5::M) w out co)∧St [] w0 w [(some g5,37,co),(some g4,37,[.int .i64 0,.int .i64 0,.int .i64 0,.slice none 0 0])]∧ε 0=.slice (some ⟨b,o,none⟩) n c∧ε 1=.func (.func 167) #[] #[.pointer (some ⟨g,0,none⟩)]∧ε 4=.pointer (some ⟨g4,0,none⟩)∧ε 5=.pointer (some ⟨g5,0,none⟩)∧ε 12=.slice (some m0) (n-1) (c-1)∧ε 13=.int .i64 ((n-1:Nat):Int)∧ε 14=.int .i64 k) (μ:=l.length-1) ⟨Z,0,_,l[0],by omega,by rw[m1b op unit l 0 y0,if_pos rfl],RdE.keep (b0.keep0 _) _ _ (RdE.more (fun x hx=>by simp at hx;rcases hx with rfl|rfl|hx;right;simpa using b0.new 1 Z;right;simpa using b0.new 0 Z;exact .inl hx) _ _ j0),b0,Z,Z,Z,Z,Z,Z,Z⟩ ?_;rintro μ D ε w ⟨rfl,k,co,out,_,d0,ro,S,e0,e1,e4,e5,r0,s0,t0⟩;refine q0a 0 e0 (q0a 1 e1 (q0a 4 e4 (q0a 5 e5 (q0a 12 r0 (q0a 13 s0 (q0a 14 t0 ?_))))));clear e0 e1 e4 e5 r0 s0 t0;obtain⟨_,_,_,rfl,-⟩:=ro.open_;have H0:∀x∈g4::g5::M,x<w.heap.size:=by
  intro x hx;simp at hx;rcases hx with rfl|rfl|hx
  ·exact S.lt 1 Z
  ·exact S.lt 0 Z
  ·have:=hM x hx;have:=S.size;omega
 refine wB0 Z U (fun E0=>?_) fun E0=>?_
 ·refine lO0 Z U ?_;have z0:k+1<l.length:=by omega
  have F0:=G0 (by omega);obtain⟨_,v0,A0⟩:=x0 (k+1) z0;obtain⟨_,_,_,rfl,-⟩:=A0.open_;rw[show o+(k+1)*4=o+4+k*4 by omega] at v0;refine N0a O0a.slT Z (by assumption) Z Z ?_;refine q2a G0a Z (v0.keep (S.keep0 M) u0) (by rfl) Z ?_;refine h0a S R1a Z Z ?_;intro g7 w7 S7 X7 G7;have L0:=RdE.keep X7.of_nil _ _ (RdE.more (M':=g7::g4::g5::M) (fun x hx=>by rcases List.mem_cons.1 hx with rfl|hx;exact .inr G7;exact .inl hx) _ _ ro);have T0:=X7.size;refine c0a (kk:=0) (vs:=[_,_,_,_]) S7 i1a Z Z Z Z Z Z Z ?_;intro O0 a0 g0;dsimp only[f0a,List.set] at a0;refine lO a0.k [.w 1] Z ⟨⟨Z,by rfl⟩,U⟩ (q2a G0a Z (a0.cells 0 Z) Z Z ?_);have K0:=RdE.more (M':=g4::g5::M) (fun x hx=>.inl (List.mem_cons_of_mem _ hx)) _ _ (RdE.keep (g0.mono (by simp)) _ _ L0);refine c7a a0 n6c Z Z Z (R4c out l[k+1] op ho _ _ g (g4::g5::M) _ (fun x hx=>by have:=H0 x hx;have:=g0.size;omega) K0 (RdE.keep (a0.keep0 _) _ _ (RdE.more (fun x hx=>by simp at hx;rcases hx with rfl|rfl|hx;right;simpa using a0.new 2 Z;right;simpa using a0.new 1 Z;exact .inl hx) _ _ A0)) (a0.old hg)) ?_;rintro U0 V0 ⟨_,rfl,B0⟩ C0 R0;obtain⟨_,_,_,rfl,-⟩:=B0.open_;refine c0a (kk:=1) (vs:=[_,_,_,_]) C0 i1a Z Z Z Z Z Z Z ?_;intro P0 f0 n0;dsimp only[f0a,List.set] at f0;have q0:=RdE.keep (n0.mono (by simp)) _ _ B0;refine lP0 Z ⟨by omega,U⟩ ?_;have hs:=m1b op unit l (k+1) z0;rw[if_neg (by omega),←d0] at hs;exact⟨μ-1,by omega,Z,k+1,_,jnE op out l[k+1],by omega,hs.symm,q0,f0.tail,Z,Z,Z,Z,Z,Z,Z⟩
 refine lO S.k [.w 0] Z ⟨⟨Z,by rfl⟩,U⟩ (c0a (kk:=1) (vs:=[_,_,_,_]) S i1a Z Z Z Z Z Z Z ?_);intro Q0 c0 o0;dsimp only[f0a,List.set] at c0;refine lR0 Z U ?_;have J0:l.take (k+1)=l:=List.take_of_length_le (by omega);rw[J0] at d0;exact w0a Z G0a Z (c0.cells 1 Z) Z ⟨⟨_,Z,by rw[←d0];exact RdE.more (fun x hx=>.inl (by simp[hx])) _ _ (RdE.keep (o0.mono (by simp)) _ _ ro)⟩,c0.fin⟩
theorem Y9a(l:List E)(op unit:Int)(ho:i64 op)(hu:unit=0∨unit=1)(M:List Nat)(w0:World)(vl:Value)(hL:RdL M w0 vl l)(hM:∀g∈M,g<w0.heap.size)(hK:i2a M w0):
 E0a prog 109 #[vl,.int .i64 op,.int .i64 unit] w0 fun v w'=>(∃cs:List Value,v=.agg cs.toArray∧RdE M w' (F2a op unit l) cs)∧Below w0.heap.size w0 w':=by
 have N0:=hL.rdS;obtain⟨A,n,c,rfl⟩:=N0.form;obtain⟨_,_⟩:=N0.len;have S:=(St.refl w0).nilEnt 37;refine a0a func109 Z ntmps109 Z ?_;refine wO0 Z U (a1b S (v:=.int .i64 _) Z Z Z ?_);intro g4 w4 S4 X4 G4;refine h0a S4 R1a Z Z ?_;intro g6 w6 S6 X6 G6;refine lOn 4 S6.k [] Z U (C0a Z ?_);refine lC0 Z U (wL (fun μk D ε w=>D=[]∧∃k:Nat,∃G:Option Nat,∃A0:List Value,∃v:Value,∃dc:Bool,(k+μk=(l.length))∧(q1a (l) k (fun e=>B3a e=true))∧(dc=(l.take k).any (fun e=>isC e (1-unit)))∧(Q1a (fun _ _=>D3d M w0) 4 [] w0 G A0 v (S2a l k))∧St [] w0 w [(some g6,37,[.int .i64 0,.int .i64 0,.int .i64 0,.slice none 0 0]),(some g4,3,[.int .i64 op]),(G,37,A0)]∧Sl ε [(2,.int .i64 unit),(4,.pointer (some ⟨g4,0,none⟩)),(6,.pointer (some ⟨g6,0,none⟩)),(7,v),(8,.bool dc),(12,.slice A n c),(13,.int .i64 n),(14,.int .i64 k)]) (μ:=(l.length)) ⟨Z,0,none,[],.slice none 0 0,false,by omega,q1a.zero,Z,Q1a.nil,S6,Z⟩ ?_);rintro μk D ε w ⟨rfl,k,G,A0,v,dc,_,D0,o0,b0,S,eZ⟩;refine wK eZ ?_;obtain⟨_,cv,rfl⟩:=b0.form;refine wB0 Z U (fun D1=>?_) fun D1=>?_
 ·obtain⟨e,A1,N1,_,c0,L0,_,R0,P0,G0⟩:=RdS.get (N0) (k) (by omega);obtain⟨_,_,_,rfl,_⟩:=RdE.cells G0;have J0:RdE M w0 e _:=G0;refine lO (S.k.a P0) [.x A1 N1,.v 0] Z ⟨⟨Z,R0⟩,⟨L0,by omega⟩,U⟩ (h0a S R1a Z Z ?_);intro h2 o2 p1 Z1 W1;refine c0a (kk:=0) (vs:=[_,_,_,_]) p1 i1a Z Z Z Z Z Z Z ?_;intro T1 i0 x1;dsimp only[f0a,List.set] at i0;refine lO i0.k [.w 0] Z ⟨⟨Z,by rfl⟩,U⟩ (v0a i0 F7c Z Z (R2b e M _ _ (RdE.keep (i0.keep0 M) _ _ J0) (hK.keep (i0.keep0 M))) (fun s0 P1 u0 u1=>?_) (fun s0 P1 u0 u1=>?_))
  ·refine lO u0.k [.w 0] Z ⟨by omega,⟨Z,by rfl⟩,U⟩ (v0a u0 d1c Z Z (I9a e (1-unit) M _ _ (RdE.keep (u0.keep0 M) _ _ J0)) (fun p0 Q1 x0 v1=>?_) (fun p0 Q1 x0 v1=>?_))
   ·refine lP0 Z ⟨by omega,U⟩ ⟨μk-1,by omega,Z,(k+1),(_),(_),(_),(_),(by omega),(D0.succ c0 (s0)),?_,?_,x0.tail,Z⟩
    ·rw[g5a _ c0,←o0];rw[show isC e (1-unit)=true from p0];simp;done
    ·rw[b3b c0 (.inl (of_decide_eq_true p0).1)];exact b0
   refine lO x0.k [.w 0] Z ⟨⟨Z,by rfl⟩,U⟩ (v0a x0 d1c Z Z (I9a e unit M _ _ (RdE.keep (x0.keep0 M) _ _ J0)) (fun I0 R1 q0 w1=>?_) (fun I0 R1 q0 w1=>?_))
   ·refine lP0 Z ⟨by omega,U⟩ ⟨μk-1,by omega,Z,(k+1),(_),(_),(_),(_),(by omega),(D0.succ c0 (s0)),?_,?_,q0.tail,Z⟩
    ·rw[g5a _ c0,←o0];rw[show isC e (1-unit)=false from p0];simp;done
    ·rw[b3b c0 (.inl (of_decide_eq_true I0).1)];exact b0
   refine lOn 2 q0.k [] Z U (w3a Z Z Z ?_);refine I0a Z ?_;refine lB0 Z U (fun E1=>?_) fun E1=>?_
   ·refine lOn 6 q0.k [] Z U (I0a Z ?_);refine lO q0.k [.w 0] Z ⟨⟨Z,by rfl⟩,U⟩ (k0a q0 O0a (vs:=[.agg _]) (cs:=[_,_,_,_]) Z Z Z Z Z Z ?_);intro i2 p2 T0 a2 X1;refine u1a (y8c M w0) (k:=4) (M2:=[]) (e1:=e) T0 O0a Z b0 Z Z (T0.cells 0 Z) J0 (by have:=a2c l k;omega) Z ?_;intro j2 Y1 C1 q2 q1 t0 b2 V1;refine C0a Z ?_;refine lP0 Z ⟨by omega,U⟩ ⟨μk-1,by omega,Z,(k+1),(_),(_),(_),(_),(by omega),(D0.succ c0 (s0)),?_,?_,q1.tail.tail,Z⟩
    ·rw[g5a _ c0,←o0];rw[show isC e (1-unit)=false from p0];simp;done
    ·rw[D1c c0 (fun F0=>(y2b s0 F0).elim (fun z=>hu.elim (fun u=>of_decide_eq_false I0 ⟨F0,by omega⟩) (fun u=>of_decide_eq_false p0 ⟨F0,by omega⟩)) (fun z=>hu.elim (fun u=>of_decide_eq_false p0 ⟨F0,by omega⟩) (fun u=>of_decide_eq_false I0 ⟨F0,by omega⟩))) (by omega)];exact t0
   refine lP0 Z ⟨by omega,U⟩ ⟨μk-1,by omega,Z,(k+1),(_),(_),(_),(_),(by omega),(D0.succ c0 (s0)),?_,?_,q0.tail,Z⟩
   ·rw[g5a _ c0,←o0];rw[show isC e (1-unit)=false from p0];simp;done
   ·rw[b3b c0 (.inr (by omega))];exact b0
  refine lO0 Z U (H0a W1a (vs:=[]) (cs:=[_,_,_,_]) Z Z Z Z ?_);refine c0a (kk:=1) (vs:=[_,_,_,_]) u0 i1a Z Z Z Z Z Z Z ?_;intro U1 r0 z1;dsimp only[f0a,List.set] at r0;refine lR0 Z U ?_;exact w0a Z G0a Z (r0.cells 1 Z) Z ⟨⟨_,Z,by rw[M4a (d0a c0) s0];exact f1a (by unfold i64;omega) (by unfold i64;omega) (by unfold i64;omega)⟩,r0.tail.tail.tail.nil.fin⟩
 obtain rfl:k=l.length:=by omega
 have j0:∀e∈l,B3a e=true:=D0.all (Nat.le_refl _);rw[List.take_length] at o0;refine lOn 10 S.k [] Z U ?_;cases n0:dc
 ·refine I0a (hv:=Z) (v:=.bool _) Z ?_;refine lOn 6 S.k [] Z U (I0a Z ?_);refine lB0 Z U (fun F1=>?_) fun F1=>?_
  ·refine lO0 Z U ?_;refine j0a S Q0c Z Z (I8a unit 1 (by unfold i64;omega) (by unfold i64;omega) [] _) ?_;rintro v53 s2 ⟨_,rfl,g1⟩ s1 e2;obtain⟨_,_,_,rfl,-⟩:=g1.open_;refine c0a (kk:=0) (vs:=[_,_,_,_]) s1 i1a Z Z Z Z Z Z Z ?_;intro j1 e0 X0;dsimp only[f0a,List.set] at e0;refine lR0 Z U ?_;exact w0a Z G0a Z (e0.cells 0 Z) Z ⟨⟨_,Z,by rw[d9b hu j0 (by rw[←o0,n0]) (List.length_eq_zero_iff.1 (by have:=x3b l;omega))];exact N2b g1⟩,e0.nil.fin⟩
  refine lOn 6 S.k [] Z U (I0a Z ?_);refine lB0 Z U (fun Z0=>?_) fun Z0=>?_
  ·refine lO0 Z U (H0a W1a (vs:=[]) (cs:=[_,_,_,_]) Z Z Z Z ?_);refine c0a (kk:=0) (vs:=[_,_,_,_]) S i1a Z Z Z Z Z Z Z ?_;intro m1 f0 Y0;dsimp only[f0a,List.set] at f0;refine lR0 Z U ?_;exact w0a Z G0a Z (f0.cells 0 Z) Z ⟨⟨_,Z,by rw[j8b j0 (by rw[←o0,n0]) (by have:=x3b l;omega)];exact f1a (by unfold i64;omega) (by unfold i64;omega) (by unfold i64;omega)⟩,f0.nil.fin⟩
  refine lCn 9 S.k [] Z U ?_;have b1:S2a l l.length=r1a l:=by
   have B0:=Z0;unfold S2a at B0 ⊢;rw[List.length_take,List.take_length] at B0;rw[List.take_length,List.take_of_length_le (by omega)]
  obtain⟨g,rfl,rfl,_⟩:=b0.own_ (by omega);have K1:w0.heap.size≤g:=by simpa using S.new 2 Z
  have c1:∀x∈g::g6::M,x∈M∨w0.heap.size≤x:=by
   intro x hx;simp at hx;rcases hx with rfl|rfl|hx
   ·exact .inr K1
   ·right;simpa using S.new 0 Z
   ·exact .inl hx
  have a0:Q1a RX 4 (g6::M) w (some g) A0 (.slice (some ⟨g,0,none⟩) (S2a l l.length).length cv) (S2a l l.length):=b0.mapR (fun c x _ hx=>RdE.keep (S.keep0 _) _ _ (RdE.more c1 _ _ hx));have E0:∀e∈S2a l l.length,e.good 40=true:=fun e he=>by
   rw[b1] at he;have:=j0 e (List.mem_filter.1 he).1;unfold B3a at this;simp only[Bool.and_eq_true] at this;exact k5a this.2
  refine wOn 1 S.k [] Z U (I0a Z ?_);refine lC0 Z U (wL (fun μj D ε w=>D=[]∧∃j:Nat,∃cs2:List Value,(j+μj=((S2a l l.length).length))∧(Q1a RX 4 (g6::M) w (some g) cs2 (.slice (some ⟨g,0,none⟩) (S2a l l.length).length cv) (S2a l l.length))∧St [] w0 w [(some g6,37,[.int .i64 0,.int .i64 0,.int .i64 0,.slice none 0 0]),(some g4,3,[.int .i64 op]),(some g,37,cs2)]∧Sl ε [(4,.pointer (some ⟨g4,0,none⟩)),(6,.pointer (some ⟨g6,0,none⟩)),(7,.slice (some ⟨g,0,none⟩) (S2a l l.length).length cv),(60,.int .i64 (S2a l l.length).length),(61,.int .i64 j)]) (μ:=((S2a l l.length).length)) ⟨Z,0,A0,by omega,a0,S,Z⟩ ?_);rintro μj D ε w ⟨rfl,j,cs2,_,a0,S,eZ⟩;refine wK eZ ?_;have a1:∀x∈g::g6::M,x<w.heap.size:=by
   intro x hx;simp at hx;rcases hx with rfl|rfl|hx
   ·exact S.lt 2 Z
   ·exact S.lt 0 Z
   ·have:=hM x hx;have:=S.size;omega
  obtain⟨_,_⟩:=a0.own_ (by omega);refine wB0 Z U (fun G1=>?_) fun G1=>?_
  ·have M1:j<(S2a l l.length).length:=by omega
   obtain⟨x,hx⟩:∃x,(S2a l l.length)[j]?=some x:=⟨_,List.getElem?_eq_getElem M1⟩;obtain⟨_,_,_,J1,_,_,H0,d1⟩:=a0.get (k:=2) S Z hx;cases J1;obtain⟨_,_,_,rfl,-⟩:=RdE.open_ d1;refine lO S.k [.i] Z ⟨by omega,U⟩ (q2a G0a Z (H0) (by rfl) Z ?_);refine j0a S J9c Z Z (w2c x (g::g6::M) _ _ 40 d1 (E0 _ (List.mem_of_getElem? hx)) a1) ?_;rintro v70 t2 ⟨B1,rfl,S0⟩ U0 y1;have Q0:=S0.length;obtain⟨_,_,_,C0,-⟩:=S0.open_;refine lO U0.k [.i] Z ⟨by omega,U⟩ ?_;refine c0a (kk:=2) (vs:=B1) U0 i1a Z Z (by simp) Q0 (by rw[C0];rfl) Z (by rw[Nat.ble_eq];simp;omega) ?_;intro n1 v0 y0;have m0:=((a0.keep j3a (y1.of_nil)).setM j3a hx (show 0+(j:Int).toNat*4=j*4 by simp) S0).keep j3a (y0.mono (by simp));rw[y7b hx] at m0;refine lP0 Z ⟨by omega,U⟩ ⟨μj-1,by omega,Z,(j+1),(_),(by omega),(m0),v0,Z⟩
  refine lCn 7 S.k [] Z U ?_;have I1:∀x∈g6::M,x<w.heap.size:=fun x hx=>a1 x (List.mem_cons_of_mem _ hx);have O0:RdL (g6::M) w (.slice (some ⟨g,0,none⟩) (S2a l l.length).length cv) (S2a l l.length):=k0d (Q1a.rd (M:=g6::M) j3a a0 S (k:=2) Z (fun x hx hm=>by
   cases hx;rcases List.mem_cons.1 hm with hm|hm
   ·exact absurd (H6a S.apart (i:=2) (j:=0) Z Z Z (congrArg some hm.symm)) (by decide)
   ·have h1:=hM _ hm;omega) (by omega))
  have H1:=hK.more (M':=g6::M) (fun x hx=>c1 x (List.mem_cons_of_mem _ hx));refine wOn 1 S.k [] Z U (I0a Z ?_);refine w1a Z Z ?_;refine j0a S Y8c Z Z (c4c (S2a l l.length) op unit ho (by omega) (by omega) (g6::M) _ (.slice (some ⟨g,0,none⟩) (S2a l l.length).length cv) g4 O0 I1 (S.cell 1 Z Z)) ?_;rintro n2 u2 ⟨_,rfl,O1⟩ V0 f2;refine j0a V0 L6c Z Z (k8b _ (g6::M) _ _ O1 (H1.keep (V0.keep0 _))) ?_;rintro v76 v2 ⟨_,rfl,K0⟩ t1 g2;obtain⟨_,_,_,rfl,-⟩:=K0.open_;refine c0a (kk:=0) (vs:=[_,_,_,_]) t1 i1a Z Z Z Z Z Z Z ?_;intro o1 g0 z0;dsimp only[f0a,List.set] at g0;replace K0:=RdE.keep (z0.mono (by simp)) _ _ K0;refine lR0 Z U (w0a Z G0a Z (g0.cells 0 Z) Z ⟨⟨_,Z,?_⟩,g0.nil.fin⟩);rw[z2a j0 (by rw[←o0,n0]),←b1];exact RdE.more (fun x hx=>.inl (by simp[hx])) _ _ K0
 refine I0a (hv:=Z) (v:=.bool _) Z ?_;refine lO0 Z ⟨by omega,U⟩ ?_;refine j0a S Q0c Z Z (I8a (1-unit) 1 (by unfold i64;omega) (by unfold i64;omega) [] _) ?_;rintro m2 r2 ⟨_,rfl,f1⟩ r1 d2;obtain⟨_,_,_,rfl,-⟩:=f1.open_;refine c0a (kk:=0) (vs:=[_,_,_,_]) r1 i1a Z Z Z Z Z Z Z ?_;intro i1 d0 W0;dsimp only[f0a,List.set] at d0;refine lR0 Z U ?_;exact w0a Z G0a Z (d0.cells 0 Z) Z ⟨⟨_,Z,by rw[e7a j0 (by rw[←o0,n0])];exact N2b f1⟩,d0.nil.fin⟩
theorem M9b(l:List E)(M:List Nat)(w0:World)(vl:Value)(hL:RdL M w0 vl l)(hM:∀g∈M,g<w0.heap.size)(hK:i2a M w0):
 E0a prog 62 #[vl] w0 fun v w'=>(∃cs:List Value,v=.agg cs.toArray∧RdE M w' (F2a 5 1 l) cs)∧Below w0.heap.size w0 w':=by
 obtain⟨_,_,_,rfl,-⟩:=hL.open_;have S:=St.refl w0;refine a0a func62 Z ntmps62 Z ?_;refine wO0 Z U (h0a S R1a Z Z ?_);intro g2 w2 S2 X2 G2;refine lO0 Z U ?_;have c0:∀g∈g2::M,g∈M∨w0.heap.size≤g:=E3a S2 (k:=0) Z;refine j0a S2 v9b Z Z (Y9a l 5 1 (by unfold i64;omega) (.inr Z) (g2::M) _ _ ((hL.more c0).keep (S2.keep0 _)) (fun g hg=>by rcases List.mem_cons.1 hg with rfl|hg;exact S2.lt 0 Z;have:=hM g hg;have:=S2.size;omega) ((hK.more c0).keep (S2.keep0 _))) ?_;rintro v4 w4 ⟨_,rfl,r4⟩ S4 X4;obtain⟨_,_,_,rfl,-⟩:=r4.open_
 first|refine c0a (kk:=0) (vs:=[_,_,_,_]) S4 i1a Z Z Z Z Z Z Z ?_
 intro d0 a0 b0;dsimp only[f0a,List.set] at a0;replace r4:=RdE.keep (b0.mono (by simp)) _ _ r4;exact lR0 Z U (w0a Z G0a Z (a0.cells 0 Z) Z ⟨⟨_,Z,RdE.more (fun g hg=>.inl (by simp[hg])) _ _ r4⟩,a0.nil.fin⟩)
theorem t1d(l:List E)(M:List Nat)(w0:World)(vl:Value)(hL:RdL M w0 vl l)(hM:∀g∈M,g<w0.heap.size)(hK:i2a M w0):
 E0a prog 59 #[vl] w0 fun v w'=>(∃cs:List Value,v=.agg cs.toArray∧RdE M w' (F2a 6 0 l) cs)∧Below w0.heap.size w0 w':=by
 obtain⟨_,_,_,rfl,-⟩:=hL.open_;have S:=St.refl w0;refine a0a func59 Z ntmps59 Z ?_;refine wO0 Z U (h0a S R1a Z Z ?_);intro g2 w2 S2 X2 G2;refine lO0 Z U ?_;have c0:∀g∈g2::M,g∈M∨w0.heap.size≤g:=E3a S2 (k:=0) Z;refine j0a S2 v9b Z Z (Y9a l 6 0 (by unfold i64;omega) (.inl Z) (g2::M) _ _ ((hL.more c0).keep (S2.keep0 _)) (fun g hg=>by rcases List.mem_cons.1 hg with rfl|hg;exact S2.lt 0 Z;have:=hM g hg;have:=S2.size;omega) ((hK.more c0).keep (S2.keep0 _))) ?_;rintro v4 w4 ⟨_,rfl,r4⟩ S4 X4;obtain⟨_,_,_,rfl,-⟩:=r4.open_
 first|refine c0a (kk:=0) (vs:=[_,_,_,_]) S4 i1a Z Z Z Z Z Z Z ?_
 intro d0 a0 b0;dsimp only[f0a,List.set] at a0;replace r4:=RdE.keep (b0.mono (by simp)) _ _ r4;exact lR0 Z U (w0a Z G0a Z (a0.cells 0 Z) Z ⟨⟨_,Z,RdE.more (fun g hg=>.inl (by simp[hg])) _ _ r4⟩,a0.nil.fin⟩)
theorem u1c(l:List E)(k:Nat):∃r,r1a l=r1a (l.take k)++r:=⟨r1a (l.drop k),by unfold r1a;rw[←List.filter_append,List.take_append_drop]⟩
theorem s0b{op unit:Int}{l:List E}{k:Nat}(h:∀e∈l,B3a e=true)(hd:l.any (fun e=>isC e (1-unit))=false)(hk:600<E.cnts (r1a (l.take k))+((r1a (l.take k)).length-1):=by omega):F2a op unit l=zE:=by
 rw[z2a h hd,if_neg];intro hh;obtain⟨r,hr⟩:=u1c l k;have a0:r1a l≠[]:=by
  intro hz;rw[hz] at hr;have h0:r1a (l.take k)=[]:=(List.append_eq_nil_iff.1 hr.symm).1;rw[h0] at hk;simp[E.cnts] at hk
 have h1:=N9b (op:=op) (unit:=unit) a0;have h2:=p1b (r1a (l.take k)) r;rw[←hr] at h2;have h3:(r1a l).length=(r1a (l.take k)).length+r.length:=by rw[hr,List.length_append]
 have h4:(g3a op unit (r1a l)).cnt≤600:=by
  unfold E.wf at hh;simp only[Bool.and_eq_true,decide_eq_true_eq] at hh;exact hh.1
 omega
theorem D0d{e:E}(h:e.wf=true):e.cnt≤600:=by
 unfold E.wf at h;simp only[Bool.and_eq_true,decide_eq_true_eq] at h;exact h.1
theorem u6a{e:E}(h:B3a e=true):e.w=1∧e.wf=true:=by
 unfold B3a at h;simpa using h
theorem Y5c(e:E)(n wd:Int)(M:List Nat)(w0:World)(cs:List Value)(hR:RdE M w0 e cs)(hw:e.w=wd):
 E0a prog 160 #[.agg cs.toArray,.int .i64 n,.int .i64 wd] w0 fun v w'=>v=.bool (isC e n)∧Below w0.heap.size w0 w':=by
 obtain⟨_,k,_,rfl,-⟩:=hR.open_;have S:=St.refl w0;refine a0a func160 Z ntmps160 Z ?_;refine wO0 Z U (p0a S Z ?_);intro g3 w3 S3 X3 G3;refine lB S3.k [.o 0] Z ⟨Z,U⟩ (fun h9=>?_) fun h9=>?_
 ·refine lB S3.k [.o 0] Z ⟨Z,U⟩ (fun a0=>?_) fun a0=>?_
  ·refine lB S3.k [.o 0] Z ⟨Z,U⟩ (fun b0=>?_) fun b0=>?_
   ·refine lT Z U Z ⟨congrArg Value.bool ?_,S3.fin⟩;unfold isC;exact(decide_eq_true (by omega)).symm
   refine lT Z U Z ⟨congrArg Value.bool ?_,S3.fin⟩;unfold isC;exact(decide_eq_false (by omega)).symm
  refine lT Z U Z ⟨congrArg Value.bool ?_,S3.fin⟩;unfold isC;exact(decide_eq_false (by omega)).symm
 refine lT Z U Z ⟨congrArg Value.bool ?_,S3.fin⟩;unfold isC;exact(decide_eq_false (by omega)).symm
theorem G7b(l:List E)(op unit:Int)(ho:i64 op)(hu:unit=0∨unit=1)(hl:l.length≤100000)(M:List Nat)(w0:World)(vl:Value)(hL:RdL M w0 vl l)(hM:∀g∈M,g<w0.heap.size):
 E0a prog 108 #[vl,.int .i64 op,.int .i64 unit] w0 fun v w'=>(∃cs:List Value,v=.agg cs.toArray∧RdE M w' (F2a op unit l) cs)∧Below w0.heap.size w0 w':=by
 have u0:=hL.rdS;obtain⟨A,n,c,rfl⟩:=u0.form;obtain⟨_,_⟩:=u0.len;have S:=St.refl w0;refine a0a func108 Z ntmps108 Z ?_;refine wO0 Z U (h0a S R1a Z Z ?_);intro g6 w6 S6 X6 G6;refine lC0 Z U (wL (fun μk D ε w=>D=[]∧∃k:Nat,∃dc:Bool,(k+μk=(l.length))∧(q1a (l) k (fun e=>B3a e=true))∧(dc=(l.take k).any (fun e=>isC e (1-unit)))∧St [] w0 w [(some g6,37,[.int .i64 0,.int .i64 0,.int .i64 0,.slice none 0 0])]∧Sl ε [(0,.slice A n c),(1,.int .i64 op),(2,.int .i64 unit),(6,.pointer (some ⟨g6,0,none⟩)),(7,.bool dc),(8,.int .i64 k)]) (μ:=(l.length)) ⟨Z,0,false,by omega,q1a.zero,Z,S6,Z⟩ ?_);rintro μk D ε w ⟨rfl,k,dc,_,S0,n0,S,eZ⟩;refine wK eZ (wB0 Z U (fun j2=>?_) fun j2=>?_)
 ·obtain⟨e,a2,s2,_,i0,b1,_,_,m1,A1⟩:=RdS.get (u0) (k) (by omega);obtain⟨_,_,_,rfl,_⟩:=RdE.cells A1;refine lB (S.k.a m1) [.x a2 s2,.f 0 1] Z ⟨Z,⟨b1,by omega⟩,U⟩ (fun m2=>?_) fun m2=>?_
  ·refine lO0 Z U (H0a W1a (vs:=[]) (cs:=[_,_,_,_]) Z Z Z Z ?_)
   first|refine c0a (kk:=0) (vs:=[_,_,_,_]) S i1a Z Z Z Z Z Z Z ?_
   intro G1 j0 X0;dsimp only[f0a,List.set] at j0;refine lR0 Z U ?_;exact w0a Z G0a Z (j0.cells 0 Z) Z ⟨⟨_,Z,by rw[M4a (d0a i0) (by unfold B3a;simp;omega)];exact f1a (by unfold i64;omega) (by unfold i64;omega) (by unfold i64;omega)⟩,j0.nil.fin⟩
  obtain⟨_,b2,t2,_,B1,c1,_,t1,n1,J0⟩:=RdS.get (u0) (k) (by omega);obtain rfl:=Option.some.inj (i0.symm.trans B1);obtain⟨_,_,_,rfl,_⟩:=RdE.cells J0;refine lO (S.k.a n1) [.x b2 t2,.v 0] Z ⟨⟨Z,t1⟩,⟨c1,by omega⟩,U⟩ (v0a S A9a Z Z (R5a e M _ _ (RdE.keep (S.keep0 M) _ _ J0)) (fun I0 z2 y0 V1=>?_) (fun I0 z2 y0 V1=>?_))
  ·refine lOn 9 y0.k [] Z U ?_;cases A0:dc
   ·refine I0a (hv:=Z) (v:=.bool _) Z ?_;obtain⟨_,d2,u2,_,C1,d1,_,u1,o1,K0⟩:=RdS.get (u0) (k) (by omega);obtain rfl:=Option.some.inj (i0.symm.trans C1);obtain⟨_,_,_,rfl,_⟩:=RdE.cells K0;refine lO (y0.k.a o1) [.x d2 u2,.v 0] Z ⟨by omega,⟨Z,u1⟩,⟨d1,by omega⟩,U⟩ (v0a y0 J0c Z Z (Y5c e (1-unit) 1 M _ _ (RdE.keep (y0.keep0 M) _ _ K0) (by omega)) (fun Z0 A2 V0 W1=>?_) (fun Z0 A2 V0 W1=>?_))
    ·refine lP0 Z ⟨by omega,U⟩ ?_;refine⟨μk-1,by omega,Z,(k+1),(_),(by omega),(S0.succ i0 ((by unfold B3a;simp;exact⟨by omega,I0⟩))),?_,V0,Z⟩;rw[g5a _ i0,←n0];rw[A0,Z0];rfl
    refine lP0 Z ⟨by omega,U⟩ ?_;refine⟨μk-1,by omega,Z,(k+1),(_),(by omega),(S0.succ i0 ((by unfold B3a;simp;exact⟨by omega,I0⟩))),?_,V0,Z⟩;rw[g5a _ i0,←n0];rw[A0,Z0];rfl
   refine I0a (hv:=Z) (v:=.bool _) Z ?_;refine lP0 Z ⟨by omega,U⟩ ?_;refine⟨μk-1,by omega,Z,(k+1),(_),(by omega),(S0.succ i0 ((by unfold B3a;simp;exact⟨by omega,I0⟩))),?_,y0,Z⟩;rw[g5a _ i0,←n0];rw[A0];simp;done
  refine lO0 Z U (H0a W1a (vs:=[]) (cs:=[_,_,_,_]) Z Z Z Z ?_)
  first|refine c0a (kk:=0) (vs:=[_,_,_,_]) y0 i1a Z Z Z Z Z Z Z ?_
  intro G1 j0 X0;dsimp only[f0a,List.set] at j0;refine lR0 Z U ?_;exact w0a Z G0a Z (j0.cells 0 Z) Z ⟨⟨_,Z,by rw[M4a (d0a i0) (by unfold B3a;simp;(intro;exact I0))];exact f1a (by unfold i64;omega) (by unfold i64;omega) (by unfold i64;omega)⟩,j0.nil.fin⟩
 obtain rfl:k=l.length:=by omega
 have f0:∀e∈l,B3a e=true:=S0.all (Nat.le_refl _);rw[List.take_length] at n0;refine lOn 8 S.k [] Z U ?_;cases e0:dc
 ·refine I0a (hv:=Z) (v:=.bool _) Z ?_;refine lCn 6 S.k [] Z U ?_;have r2:∀e∈l,¬(e.op=1∧e.n=1-unit):=fun e he hh=>by
   rw[e0] at n0;have:=List.any_eq_false.1 n0.symm e he;exact this (decide_eq_true hh)
  refine wO0 Z U ?_;refine j0a S W3b Z Z (K6b unit 1 (by unfold i64;omega) (by unfold i64;omega) [] _) ?_;rintro J2 N2 ⟨_,rfl,O1⟩ T1 F2;obtain⟨_,_,_,rfl,-⟩:=O1.open_;refine h0a T1 R1a Z Z ?_;intro g9 w9 S9 X9 G9;refine c0a (kk:=0) (vs:=[_,_,_,_]) S9 i1a Z Z Z Z Z Z Z ?_;intro Q0 b0 I1;dsimp only[f0a,List.set] at b0;refine lCn 8 b0.k [] Z U ?_;have J1:∀g∈g6::g9::M,g∈M∨w0.heap.size≤g:=by
   intro g hg;simp at hg;rcases hg with rfl|rfl|hg
   ·right;simpa using b0.new 1 Z
   ·right;simpa using b0.new 0 Z
   ·exact .inl hg
  have H2:∀g∈g6::g9::M,g<Q0.heap.size:=by
   intro g hg;simp at hg;rcases hg with rfl|rfl|hg
   ·exact b0.lt 1 Z
   ·exact b0.lt 0 Z
   ·have:=hM g hg;have:=b0.size;omega
  refine wC0 Z U (wL (fun μj D ε w=>D=[]∧∃j:Nat,∃co:List Value,∃out:E,∃fs:Bool,∃nn:Int,(j+μj=(l.length))∧(out=g3a op unit (r1a (l.take j)))∧(fs=decide (r1a (l.take j)=[]))∧(nn=(E.cnts (r1a (l.take j))+((r1a (l.take j)).length-1):Nat))∧(RdE (g6::g9::M) w out co)∧St [] w0 w [(some g9,37,co),(some g6,37,[.int .i64 0,.int .i64 0,.int .i64 0,.slice none 0 0])]∧Sl ε [(0,.slice A n c),(1,.int .i64 op),(2,.int .i64 unit),(6,.pointer (some ⟨g6,0,none⟩)),(9,.pointer (some ⟨g9,0,none⟩)),(10,.bool fs),(11,.int .i64 nn),(12,.int .i64 j)]) (μ:=(l.length)) ⟨Z,0,_,⟨1,1,unit,[]⟩,true,0,by omega,Z,Z,Z,N2b O1,b0,Z⟩ ?_);rintro μj D ε w ⟨rfl,j,co,out,fs,nn,hj,g0,B0,z1,ro,S,eZ⟩;refine wK eZ ?_;obtain⟨_,_,_,rfl,-⟩:=ro.open_;refine wB0 Z U (fun n2=>?_) fun n2=>?_
  ·refine lB0 Z U (fun o2=>?_) fun o2=>?_
   ·refine lOn 13 S.k [] Z U ?_;obtain⟨e,e2,v2,_,i0,f1,_,v1,p1,L0⟩:=RdS.get (u0) (j) (by omega);obtain⟨_,_,_,rfl,_⟩:=RdE.cells L0;have K1:=f0 e (d0a i0);have M1:=u6a K1;have q2:=D0d M1.2;have T0:r1a (l.take (j+1))=if e.op=1 then r1a (l.take j) else r1a (l.take j)++[e]:=by rw[F0a i0,d8a]
    have E0:isC e unit=false→r1a (l.take (j+1))=r1a (l.take j)++[e]:=fun h=>by
     rw[T0,if_neg];intro z;have h1:=of_decide_eq_false h;have h2:=r2 e (d0a i0);rcases y2b K1 z with u|u<;>rcases hu with t|t<;>exact h1 ⟨z,by omega⟩
    refine lO (S.k.a p1) [.x e2 v2,.v 0] Z ⟨⟨Z,v1⟩,⟨f1,by omega⟩,U⟩ (v0a S J0c Z Z (Y5c e unit 1 M _ _ (RdE.keep (S.keep0 M) _ _ L0) M1.1) (fun s0 B2 F0 W0=>?_) (fun s0 B2 F0 W0=>?_))
    ·replace ro:=RdE.keep (W0.of_nil) _ _ ro;refine lP0 Z ⟨by omega,U⟩ ⟨μj-1,by omega,Z,(j+1),(_),?_,(_),(_),(by omega),?_,?_,?_,?_,F0,Z⟩;exact out
     ·rw[T0,if_pos (of_decide_eq_true s0).1];exact g0
     ·rw[T0,if_pos (of_decide_eq_true s0).1];exact B0
     ·rw[T0,if_pos (of_decide_eq_true s0).1];exact z1
     ·exact ro
    replace ro:=RdE.keep (W0.of_nil) _ _ ro;obtain⟨_,f2,w2,_,D1,g1,_,w1,q1,N0⟩:=RdS.get (u0) (j) (by omega);obtain rfl:=Option.some.inj (i0.symm.trans D1);obtain⟨_,_,_,rfl,_⟩:=RdE.cells N0;refine lO (F0.k.a q1) [.x f2 w2,.v 0] Z ⟨⟨Z,w1⟩,⟨g1,by omega⟩,U⟩ (g0a F0 N4b Z Z (t3c e M _ _ (RdE.keep (F0.keep0 M) _ _ N0) q2) ?_);intro O2 G0 X1;replace ro:=RdE.keep (X1.of_nil) _ _ ro;refine lOn 6 G0.k [] Z ⟨by omega,U⟩ ?_;cases m0:fs
    ·refine I0a (hv:=Z) (v:=.bool _) Z ?_;refine lC0 Z U (y0a b0a [0,1,2,3,4,5] [] [6,7] Z (Cl _ _ _ _) (Cl.start G0) ?_);obtain⟨_,i2,y2,_,F1,j1,_,y1,s1,P0⟩:=RdS.get (u0) (j) (by omega);obtain rfl:=Option.some.inj (i0.symm.trans F1);obtain⟨_,_,_,rfl,_⟩:=RdE.cells P0;refine qN (G0.q.a s1) [.w 0,.x i2 y2,.v 0] Z ⟨⟨Z,y1⟩,⟨j1,by omega⟩,⟨Z,by rfl⟩,U⟩ (G5a ?_);refine v2a ?_;rintro D2 ⟨p0,Y0⟩;replace ro:=RdE.keep (Y0.of_nil) _ _ ro;refine j0a p0 C9b Z Z (s0d op 1 ho (by unfold i64;omega) out e _ _ (g6::g9::M) _ (fun g hg=>by simp at hg;rcases hg with rfl|rfl|hg;exact p0.lt 1 Z;exact p0.lt 0 Z;have:=hM g hg;have:=p0.size;omega) ro (RdE.keep (p0.keep0 _) _ _ (RdE.more J1 _ _ P0))) ?_;rintro K2 P2 ⟨_,rfl,U0⟩ U1 Y1;replace ro:=RdE.keep (Y1.of_nil) _ _ ro;obtain⟨_,_,_,rfl,-⟩:=U0.open_;refine c0a (kk:=0) (vs:=[_,_,_,_]) U1 i1a Z Z Z Z Z Z Z ?_;intro Q1 v0 x0;dsimp only[f0a,List.set] at v0;replace ro:=RdE.keep (x0.mono (by simp)) _ _ ro;replace U0:=RdE.keep (x0.mono (by simp)) _ _ U0;refine lP0 Z ⟨by omega,by omega,U⟩ ⟨μj-1,by omega,Z,(j+1),(_),?_,(_),(_),(by omega),?_,?_,?_,?_,v0,Z⟩;exact jnE op out e
     ·rw[E0 s0,M0b,if_neg (of_decide_eq_false (B0.symm.trans m0)),g0]
     ·rw[E0 s0];simp
     ·have G2:0<(r1a (l.take j)).length:=List.length_pos_iff.2 (of_decide_eq_false (B0.symm.trans m0));have p2:=p1b (r1a (l.take j)) [e];rw[E0 s0,p2,List.length_append];simp[E.cnts];omega
     ·exact U0
    refine I0a (hv:=Z) (v:=.bool _) Z ?_;obtain⟨_,g2,x2,_,E1,i1,_,x1,r1,O0⟩:=RdS.get (u0) (j) (by omega);obtain rfl:=Option.some.inj (i0.symm.trans E1);obtain⟨_,_,_,rfl,_⟩:=RdE.cells O0;refine lO (G0.k.a r1) [.x g2 x2,.v 0] Z ⟨⟨Z,x1⟩,⟨i1,by omega⟩,U⟩ (c0a (kk:=0) (vs:=[_,_,_,_]) G0 i1a Z Z Z Z Z Z Z ?_);intro P1 o0 H0;dsimp only[f0a,List.set] at o0;replace ro:=RdE.keep (H0.mono (by simp)) _ _ ro;refine lP0 Z ⟨by omega,U⟩ ⟨μj-1,by omega,Z,(j+1),(_),?_,(_),(_),(by omega),?_,?_,?_,?_,o0,Z⟩;exact e
    ·rw[E0 s0,(of_decide_eq_true (B0.symm.trans m0):r1a (l.take j)=[])];rfl
    ·rw[E0 s0,(of_decide_eq_true (B0.symm.trans m0):r1a (l.take j)=[])];rfl
    ·rw[(of_decide_eq_true (B0.symm.trans m0):r1a (l.take j)=[])] at z1;rw[E0 s0,(of_decide_eq_true (B0.symm.trans m0):r1a (l.take j)=[])];simp[E.cnts] at z1 ⊢;omega
    ·exact RdE.keep (o0.keep0 _) _ _ (RdE.more J1 _ _ O0)
   refine lB0 Z U (fun a1=>?_) fun a1=>?_
   ·refine lO0 Z U (H0a W1a (vs:=[]) (cs:=[_,_,_,_]) Z Z Z Z ?_);refine c0a (kk:=1) (vs:=[_,_,_,_]) S i1a Z Z Z Z Z Z Z ?_;intro r0 a0 d0;dsimp only[f0a,List.set] at a0;replace ro:=RdE.keep (d0.mono (by simp)) _ _ ro;refine lR0 Z U ?_;exact w0a Z G0a Z (a0.cells 1 Z) Z ⟨⟨_,Z,by rw[s0b (k:=j) f0 (by rw[←n0,e0])];exact f1a (by unfold i64;omega) (by unfold i64;omega) (by unfold i64;omega)⟩,a0.nil.fin⟩
   refine lO S.k [.w 0] Z ⟨⟨Z,by rfl⟩,U⟩ (v0a S A9a Z Z (R5a out (g6::g9::M) _ _ ro) (fun D0 H1 t0 C0=>?_) (fun D0 H1 t0 C0=>?_))
   ·replace ro:=RdE.keep (C0.of_nil) _ _ ro;refine lO t0.k [.w 0] Z ⟨⟨Z,by rfl⟩,U⟩ (c0a (kk:=1) (vs:=[_,_,_,_]) t0 i1a Z Z Z Z Z Z Z ?_);intro R0 c0 q0;dsimp only[f0a,List.set] at c0;replace ro:=RdE.keep (q0.mono (by simp)) _ _ ro;refine lR0 Z U ?_;have hj:l.take j=l:=List.take_of_length_le (by omega);rw[hj] at g0;exact w0a Z G0a Z (c0.cells 1 Z) Z ⟨⟨_,Z,by rw[z2a f0 (by rw[←n0,e0]),←g0,if_pos D0];exact RdE.more (fun g hg=>.inl (by simp[hg])) _ _ ro⟩,c0.nil.fin⟩
   replace ro:=RdE.keep (C0.of_nil) _ _ ro;refine lO0 Z U (H0a W1a (vs:=[]) (cs:=[_,_,_,_]) Z Z Z Z ?_);refine c0a (kk:=1) (vs:=[_,_,_,_]) t0 i1a Z Z Z Z Z Z Z ?_;intro r0 a0 d0;dsimp only[f0a,List.set] at a0;replace ro:=RdE.keep (d0.mono (by simp)) _ _ ro;refine lR0 Z U ?_;exact w0a Z G0a Z (a0.cells 1 Z) Z ⟨⟨_,Z,by rw[s0b (k:=j) f0 (by rw[←n0,e0])];exact f1a (by unfold i64;omega) (by unfold i64;omega) (by unfold i64;omega)⟩,a0.nil.fin⟩
  refine lB0 Z U (fun a1=>?_) fun a1=>?_
  ·refine lO0 Z U (H0a W1a (vs:=[]) (cs:=[_,_,_,_]) Z Z Z Z ?_);refine c0a (kk:=1) (vs:=[_,_,_,_]) S i1a Z Z Z Z Z Z Z ?_;intro r0 a0 d0;dsimp only[f0a,List.set] at a0;replace ro:=RdE.keep (d0.mono (by simp)) _ _ ro;refine lR0 Z U ?_;exact w0a Z G0a Z (a0.cells 1 Z) Z ⟨⟨_,Z,by rw[s0b (k:=j) f0 (by rw[←n0,e0])];exact f1a (by unfold i64;omega) (by unfold i64;omega) (by unfold i64;omega)⟩,a0.nil.fin⟩
  refine lO S.k [.w 0] Z ⟨⟨Z,by rfl⟩,U⟩ (v0a S A9a Z Z (R5a out (g6::g9::M) _ _ ro) (fun D0 H1 t0 C0=>?_) (fun D0 H1 t0 C0=>?_))
  ·replace ro:=RdE.keep (C0.of_nil) _ _ ro;refine lO t0.k [.w 0] Z ⟨⟨Z,by rfl⟩,U⟩ (c0a (kk:=1) (vs:=[_,_,_,_]) t0 i1a Z Z Z Z Z Z Z ?_);intro R0 c0 q0;dsimp only[f0a,List.set] at c0;replace ro:=RdE.keep (q0.mono (by simp)) _ _ ro;refine lR0 Z U ?_;have hj:l.take j=l:=List.take_of_length_le (by omega);rw[hj] at g0;exact w0a Z G0a Z (c0.cells 1 Z) Z ⟨⟨_,Z,by rw[z2a f0 (by rw[←n0,e0]),←g0,if_pos D0];exact RdE.more (fun g hg=>.inl (by simp[hg])) _ _ ro⟩,c0.nil.fin⟩
  refine lO0 Z U (H0a W1a (vs:=[]) (cs:=[_,_,_,_]) Z Z Z Z ?_);refine c0a (kk:=1) (vs:=[_,_,_,_]) t0 i1a Z Z Z Z Z Z Z ?_;intro r0 a0 d0;dsimp only[f0a,List.set] at a0;refine lR0 Z U ?_;have hj:l.take j=l:=List.take_of_length_le (by omega);rw[hj] at g0;exact w0a Z G0a Z (a0.cells 1 Z) Z ⟨⟨_,Z,by rw[z2a f0 (by rw[←n0,e0]),←g0,if_neg (by rw[D0];decide)];exact f1a (by unfold i64;omega) (by unfold i64;omega) (by unfold i64;omega)⟩,a0.nil.fin⟩
 refine I0a (hv:=Z) (v:=.bool _) Z ?_;refine lO0 Z ⟨by omega,U⟩ ?_;refine j0a S W3b Z Z (K6b (1-unit) 1 (by unfold i64;omega) (by unfold i64;omega) [] _) ?_;rintro I2 L2 ⟨_,rfl,N1⟩ R1 E2;obtain⟨_,_,_,rfl,-⟩:=N1.open_
 first|refine c0a (kk:=0) (vs:=[_,_,_,_]) R1 i1a Z Z Z Z Z Z Z ?_
 intro C2 z0 Z1;dsimp only[f0a,List.set] at z0;refine lR0 Z U ?_;exact w0a Z G0a Z (z0.cells 0 Z) Z ⟨⟨_,Z,by rw[e7a f0 (by rw[←n0,e0])];exact N2b N1⟩,z0.nil.fin⟩
theorem O9b(l:List E)(hl:l.length≤100000)(M:List Nat)(w0:World)(vl:Value)(hL:RdL M w0 vl l)(hM:∀g∈M,g<w0.heap.size):
 E0a prog 57 #[vl] w0 fun v w'=>(∃cs:List Value,v=.agg cs.toArray∧RdE M w' (F2a 5 1 l) cs)∧Below w0.heap.size w0 w':=by
 obtain⟨_,_,_,rfl,-⟩:=hL.open_;have S:=St.refl w0;refine a0a func57 Z ntmps57 Z ?_;refine wO0 Z U (h0a S R1a Z Z ?_);intro g2 w2 S2 X2 G2;refine lO0 Z U ?_;have c0:∀g∈g2::M,g∈M∨w0.heap.size≤g:=E3a S2 (k:=0) Z;refine j0a S2 A0c Z Z (G7b l 5 1 (by unfold i64;omega) (.inr Z) hl (g2::M) _ _ ((hL.more c0).keep (S2.keep0 _)) (fun g hg=>by rcases List.mem_cons.1 hg with rfl|hg;exact S2.lt 0 Z;have:=hM g hg;have:=S2.size;omega)) ?_;rintro v4 w4 ⟨_,rfl,r4⟩ S4 X4;obtain⟨_,_,_,rfl,-⟩:=r4.open_
 first|refine c0a (kk:=0) (vs:=[_,_,_,_]) S4 i1a Z Z Z Z Z Z Z ?_
 intro d0 a0 b0;dsimp only[f0a,List.set] at a0;replace r4:=RdE.keep (b0.mono (by simp)) _ _ r4;exact lR0 Z U (w0a Z G0a Z (a0.cells 0 Z) Z ⟨⟨_,Z,RdE.more (fun g hg=>.inl (by simp[hg])) _ _ r4⟩,a0.nil.fin⟩)
theorem q1d(l:List E)(hl:l.length≤100000)(M:List Nat)(w0:World)(vl:Value)(hL:RdL M w0 vl l)(hM:∀g∈M,g<w0.heap.size):
 E0a prog 63 #[vl] w0 fun v w'=>(∃cs:List Value,v=.agg cs.toArray∧RdE M w' (F2a 6 0 l) cs)∧Below w0.heap.size w0 w':=by
 obtain⟨_,_,_,rfl,-⟩:=hL.open_;have S:=St.refl w0;refine a0a func63 Z ntmps63 Z ?_;refine wO0 Z U (h0a S R1a Z Z ?_);intro g2 w2 S2 X2 G2;refine lO0 Z U ?_;have c0:∀g∈g2::M,g∈M∨w0.heap.size≤g:=E3a S2 (k:=0) Z;refine j0a S2 A0c Z Z (G7b l 6 0 (by unfold i64;omega) (.inl Z) hl (g2::M) _ _ ((hL.more c0).keep (S2.keep0 _)) (fun g hg=>by rcases List.mem_cons.1 hg with rfl|hg;exact S2.lt 0 Z;have:=hM g hg;have:=S2.size;omega)) ?_;rintro v4 w4 ⟨_,rfl,r4⟩ S4 X4;obtain⟨_,_,_,rfl,-⟩:=r4.open_
 first|refine c0a (kk:=0) (vs:=[_,_,_,_]) S4 i1a Z Z Z Z Z Z Z ?_
 intro d0 a0 b0;dsimp only[f0a,List.set] at a0;replace r4:=RdE.keep (b0.mono (by simp)) _ _ r4;exact lR0 Z U (w0a Z G0a Z (a0.cells 0 Z) Z ⟨⟨_,Z,RdE.more (fun g hg=>.inl (by simp[hg])) _ _ r4⟩,a0.nil.fin⟩)
theorem Q1a.newRow{M:List Nat}{w0 w1 w:World}{L:List Ent}{k el:Nat}{G:Option Nat}{cs:List Value}{v:Value}{l:List Int}(h:Q1a (fun _ _=>M2c) 1 M w1 G cs v l)(S:St [] w0 w L)(hk:L[k]?=some (G,el,cs)):x4a el w0 w v l:=by
 obtain⟨css,h1,_,h3,h4⟩:=h;have e1:css.flatten=l.map (Value.int .i64):=by
  have key:∀(css:List (List Value)) (l:List Int),css.length=l.length→(∀(i:Nat) (x:Int),l[i]?=some x→∃c,css[i]?=some c∧M2c c x)→css.flatten=l.map (Value.int .i64):=by
   intro css
   induction css with
   | nil=>intro l hl _;cases l with
     | nil=>rfl
     | cons=>simp at hl
   | cons c css ih =>
     intro l hl hx;cases l with
     | nil=>simp at hl
     | cons x l =>
       obtain⟨_,hc,hr⟩:=hx 0 x Z;simp at hc;subst hc;rw[List.flatten_cons,hr.1,ih l (by simpa using hl) (fun i y hy=>by simpa using hx (i+1) y (by simpa using hy))];rfl
  exact key css l h1 h4
 rw[e1] at h3;refine⟨G,cs,h3,fun g hg=>?_⟩;subst hg;exact⟨by simpa using S.new k hk,S.blk k hk⟩
theorem O3c{p:o0a}(hp:o1a p):T8a p where
 cells c hc:=by have:=(hp.cells c hc).name.2.1;omega
 mods m hm:=by have h1:=(hp.modules m hm).name.2.1;have h2:=(hp.modules m hm).owner.2.1;omega
 threads t ht:=by
  obtain⟨i,hi,rfl⟩:=List.getElem_of_mem ht;have:=(hp.threads i hi).name.2.1;omega
theorem r0b(p:o0a)(M:List Nat)(w0:World)(cs:List Value)(hI:InP p M w0 cs):
 E0a prog 20 #[.agg cs.toArray] w0 fun v w'=>v=.bool true∧Below w0.heap.size w0 w':=by
 obtain⟨_,_,_,_,_,_,_,_,_,_,_,_,rfl,-⟩:=hI.rd.open_;have S:=St.refl w0;refine a0a func20 Z ntmps20 Z ?_;refine wO0 Z U (p0a S Z ?_);intro g1 w1 S1 X1 G1;refine lO S1.k [.w 0] Z ⟨⟨Z,Z⟩,U⟩ (j0a S1 Z5c Z Z (i0b p M _ _ (hI.rd.keep (S1.keep0 M)) (hI.keep (S1.keep0 M)).lt (O3c hI.ok)) ?_);rintro v8 w8 ⟨_,_,_,rfl,hv⟩ S8 X8;obtain rfl:=hv.2 hI.ok;refine lB0 Z U (fun a0=>?_) (fun a0=>by exfalso;omega);exact lT Z U Z ⟨Z,S8.fin⟩
def k1b(M:List Nat)(w:World)(G:Option Nat)(cs:List Value)(v:Value)(l:List E):Prop:=Q1a RX 4 M w G cs v l
theorem k1b.keep{M:List Nat}{w w':World}{G:Option Nat}{cs:List Value}{v:Value}{l:List E}(h:k1b M w G cs v l)(hk:u0a (G.toList++M) w w'):k1b M w' G cs v l:=Q1a.keep j3a h hk
theorem k1b.nil{M:List Nat}{w:World}:k1b M w none [] (.slice none 0 0) []:=Q1a.nil
theorem k1b.rdL{M M':List Nat}{w0 w:World}{L:List Ent}{k el:Nat}{G:Option Nat}{cs:List Value}{v:Value}{l:List E}(h:k1b M w G cs v l)(S:St M' w0 w L)(hk:L[k]?=some (G,el,cs))(hM:∀g,G=some g→g∉M)(hl:l.length≤1000000):RdL M w v l:=k0d (Q1a.rd j3a h S hk hM hl)
theorem f9a{M:List Nat}{w:World}{g:Nat}{cs:List Value}{e:E}(h:RdE (g::M) w e cs):k1b M w (some g) cs (.slice (some ⟨g,0,none⟩) 1 1) [e]:=by
 have hl:=h.length;refine⟨[cs],Z,by simpa using hl,⟨by simp[hl],.inr ⟨g,1,Z,Z,Nat.le_refl _,by unfold maxLen;omega,by omega,by simp;exact List.take_of_length_le (by omega)⟩⟩,fun i x hi=>?_⟩;cases i with
 | zero=>simp at hi;subst hi;exact⟨cs,Z,h⟩
 | succ i=>simp at hi
theorem RdL.node{M:List Nat}{w:World}{v:Value}{l:List E}{op wd n:Int}(h:RdL M w v l)(h1:i64 op)(h2:i64 wd)(h3:i64 n):RdE M w ⟨op,wd,n,l⟩ [.int .i64 op,.int .i64 wd,.int .i64 n,v]:=by
 obtain⟨A,m,c,rfl,q1,q2,q3,q4,q5⟩:=h.open_;rw[RdE];exact⟨A,m,c,Z,h1,h2,h3,q1,q2,q3,q4,q5⟩
theorem J5a{M:List Nat}{w0 w:World}{L:List Ent}{g t k:Nat}{cs:List Value}(S:St [] w0 w L)(hk:L[k]?=some (some g,t,cs))(hM:∀g∈M,g<w0.heap.size):g∉M:=fun hh=>by
 rcases S.new k hk with h|h
 ·have:=hM g hh;omega
 ·cases h
theorem j7a{M M':List Nat}{w0 w:World}{L:List Ent}(S:St M' w0 w L)(hM:∀g∈M,g<w0.heap.size):∀x∈g3b L++M,x<w.heap.size:=fun x hx=>by
 rcases List.mem_append.1 hx with h|h
 ·obtain⟨b,hb,he⟩:=R3a.1 h;exact(S.own b hb x he).2.lt
 ·have:=hM x h;have:=S.size;omega
theorem e4a{M:List Nat}{w0 w:World}{L:List Ent}(S:St [] w0 w L):∀x∈g3b L++M,x∈M∨w0.heap.size≤x:=fun x hx=>by
 rcases List.mem_append.1 hx with h|h
 ·obtain⟨b,hb,he⟩:=R3a.1 h;rcases(S.own b hb x he).1 with h|h
  ·exact .inr h
  ·cases h
 ·exact .inl h
theorem m7a{M M':List Nat}{w0 w:World}{L:List Ent}(S:St M' w0 w L)(k:Nat){g t:Nat}{cs:List Value}(hk:L[k]?=some (some g,t,cs))(hM:∀g∈M,g<w0.heap.size):∀x∈g::M,x<w.heap.size:=fun x hx=>by
 rcases List.mem_cons.1 hx with rfl|h
 ·exact S.lt k hk
 ·have:=hM x h;have:=S.size;omega
theorem RdE.addNew{M:List Nat}{w w':World}{e:E}{cs:List Value}{g:Nat}(h:RdE M w e cs)(X:u0a [] w w')(hg:w.heap.size≤g):RdE (g::M) w' e cs :=
 RdE.keep X.of_nil _ _ (RdE.more (fun x hx=>by
  rcases List.mem_cons.1 hx with rfl|h
  ·exact .inr hg
  ·exact .inl h) _ _ h)
theorem k3b{M:List Nat}{L:List Ent}(j:Nat){g t':Nat}{a0:List Value}(hj:L[j]?=some (some g,t',a0)):∀x∈g::M,x∈g3b L++M:=fun x hx=>by
 rcases List.mem_cons.1 hx with rfl|h
 ·exact List.mem_append_left _ (R3a.2 ⟨_,List.mem_of_getElem? hj,Z⟩)
 ·exact List.mem_append_right _ h
theorem n3b{M M2:List Nat}{L:List Ent}(k:Nat){G:Option Nat}{t:Nat}{cs:List Value}(hk:L[k]?=some (G,t,cs))(h2:∀x∈M2,x∈g3b L++M):∀x∈G.toList++M2,x∈g3b L++M:=fun x hx=>by
 rcases List.mem_append.1 hx with h|h
 ·refine List.mem_append_left _ (R3a.2 ⟨_,List.mem_of_getElem? hk,?_⟩);cases G with
  | none=>cases h
  | some g=>rw[show x=g by simpa using h]
 ·exact h2 x h
theorem Q6b{P:Program}{f:FuncId}{args:Array Value}{w:World}{el:Nat}{l:List Int}{M:List Nat}(h:E0a P f args w fun v w'=>x4a el w w' v l∧Below w.heap.size w w')(hM:∀g∈M,g<w.heap.size)(hl:∀x∈l,i64 x)(hbig:l.length≤140737488355328:=by omega):
 E0a P f args w fun v w'=>RdI M w' v l∧Below w.heap.size w w':=h.mono fun _ _ ⟨h1,h2⟩=>⟨h1.rd hM hl h2 hbig,h2⟩
theorem RdE.addKeep{M:List Nat}{w w':World}{e:E}{cs:List Value}{g:Nat}(h:RdE M w e cs)(K:u0a M w w')(hg:w.heap.size≤g):RdE (g::M) w' e cs :=
 RdE.keep (K.mono fun _ hx=>List.mem_cons_of_mem _ hx) _ _ (RdE.more (fun x hx=>by
  rcases List.mem_cons.1 hx with rfl|h
  ·exact .inr hg
  ·exact .inl h) _ _ h)
def m3b(p:o0a)(t:Int)(k:Nat):List Int:=((List.range k).filter fun i=>z1a p.cells (i:Nat)=t).map Int.ofNat
def ofL(p:o0a)(t:Int):List Int:=m3b p t p.cells.length
theorem q4a{p:o0a}{t:Int}{k:Nat}{c:a1a}(h:p.cells[k]?=some c):m3b p t (k+1)=if c.thread=t then m3b p t k++[(k:Int)] else m3b p t k:=by
 unfold m3b;rw[List.range_succ,List.filter_append,List.map_append];have ht:z1a p.cells (k:Int)=c.thread:=b1a (by simpa using h);by_cases hc:c.thread=t
 ·simp[ht,hc]
 ·simp[ht,hc]
theorem r4c{p:o0a}{t:Int}{k:Nat}{x:Int}:x∈m3b p t k↔0≤x∧x<k∧z1a p.cells x=t:=by
 unfold m3b;simp only[List.mem_map,List.mem_filter,List.mem_range,decide_eq_true_eq];constructor
 ·rintro⟨i,⟨h1,h2⟩,rfl⟩;exact⟨Int.natCast_nonneg i,Int.ofNat_lt.2 h1,h2⟩
 ·rintro⟨h0,h1,h2⟩;obtain⟨i,rfl⟩:=Int.eq_ofNat_of_zero_le h0;exact⟨i,⟨by omega,h2⟩,Z⟩
theorem Z2a(p:o0a)(t:Int)(k:Nat):(m3b p t k).length≤k:=by
 unfold m3b;rw[List.length_map];exact Nat.le_trans (List.length_filter_le _ _) (by simp)
theorem i4a{p:o0a}{t:Int}{x:Int}:x∈ofL p t↔0≤x∧x<p.cells.length∧z1a p.cells x=t:=r4c
def F3a(p:o0a)(c:Int):E:=⟨11,1,0,[⟨3,wAt p.cells c,c,[]⟩,⟨2,wAt p.cells c,c,[]⟩]⟩
def h9b(f:List Int)(l:List Int):List Int:=l.filter fun c=>!decide (c∈f)
def C2b(p:o0a)(m:j1a):List E:=m.guar::(h9b m.frame (ofL p (-1))).map (F3a p)
theorem t4b{f l:List Int}{k:Nat}{c:Int}(h:l[k]?=some c):h9b f (l.take (k+1))=if c∈f then h9b f (l.take k) else h9b f (l.take k)++[c]:=by
 unfold h9b;rw[F0a h,List.filter_append];by_cases hc:c∈f<;>simp[hc]
theorem o7a(f l:List Int):(h9b f l).length≤l.length:=List.length_filter_le _ _
def J3c(p:o0a)(m:Nat):j1a:=p.modules.getD m ⟨ByteArray.empty,ByteArray.empty,zE,zE,[]⟩
def b3a(p:o0a)(m:Int):E:=F2a 5 1 (C2b p (J3c p m.toNat))
end Go.Fw
