/-
  Part 3 of 9 of the proof of InferFewer: what it leans on. No conditions.
-/
import Derived.Test.YtgjenhndpfcjkaaGreatDoorZInferFewer2
import Derived.Test.YtgjenhndpfcjkaaGreatDoorRows
import Derived.ProofKit
import Derived.LaidMore
import Derived.OpenShut
import Derived.Carry
import Derived.SizedLaws
import Derived.Stop.Joined
import Derived.Test.YtgjenhndpfcjkaaGreatDoorTie
import Derived.Test.YtgjenhndpfcjkaaGreatDoorCards
import Derived.SevenTiedAt
import Derived.Lib.SliceRun
import Derived.Laws.OwnMore
import Derived.Lib.Builder
import Derived.Lib.AppendStr
import Derived.Laws.Externs
import Derived.Laws.Concat
import Derived.Lib.ItoaNum
import Derived.Shelf.Strings.Builder1
import Derived.Shelf.Small.Bits
import Derived.Shelf.Small.Wraps
import Derived.Shelf.Strconv.Itoa0
import Derived.Shelf.Strconv.Itoa1
import Derived.Shelf.LaysM
import Derived.Shelf.Strconv.Itoa2
import Derived.Shelf.Strconv.Itoa3
import Derived.Shelf.Sort.Plain
import Derived.Ground.Names2Prog
import Derived.Shelf.Slices.Clone
import Derived.Shelf.Slices.CompactI
import Derived.Shelf.Slices.SearchI
import Derived.Shelf.Slices.Cells
import Derived.Shelf.Slices.In.SortNone
import Derived.Ground.SlgnProg
import Derived.Shelf.SlicesE.Clone
import Derived.Ground.SlsfProg
import Derived.Shelf.SlSortCmp.InsertionK
import Derived.Shelf.SlSortCmp.SiftDownK
import Derived.Shelf.SlSortCmp.HeapSortK
import Derived.Shelf.SlSortCmp.MedianK
import Derived.Shelf.SlSortCmp.PivotK
import Derived.Shelf.SlSortCmp.ReverseRangeK
import Derived.Shelf.SlSortCmp.PartialInsertionK
import Derived.Shelf.SlSortCmp.PartitionEqualK
import Derived.Shelf.SlSortCmp.PartitionK
import Derived.Shelf.SlSortCmp.PdqK
import Derived.Shelf.SlSortCmp.WholeK
import Derived.Shelf.SlSortCmp.NoneTotal
import Derived.Test.YtgjenhndpfcjkaaGreatDoorProg
set_option maxRecDepth 100000
set_option maxHeartbeats 4000000
namespace Go.Proofs.YtgjenhndpfcjkaaGreatDoor
end Go.Proofs.YtgjenhndpfcjkaaGreatDoor
namespace Go.Fw
open Go.Proofs.YtgjenhndpfcjkaaGreatDoor Go.Proofs Go.RowKit Go.ChangeShapes Go.WideShapes Go.Shelf Tryz
theorem O3a{p:i0a}(hc:a3a p){e:E}{a0:Bool}:(e.w=1∧e.valid p.cells a0=true∧y3a e (shQ p)=true)↔y5a p.cells e a0 (-1) :=
 ⟨fun⟨a,b,c⟩=>⟨b,a,(d5c hc b).1 c⟩,fun⟨b,a,c⟩=>⟨a,b,(d5c hc b).2 c⟩⟩
theorem V1b{p:i0a}(hc:a3a p){e:E}{a0:Bool}{t:Int}:(e.w=1∧e.valid p.cells a0=true∧y3a e (P0b p t)=true)↔y5a p.cells e a0 t :=
 ⟨fun⟨a,b,c⟩=>⟨b,a,(J6a hc b).1 c⟩,fun⟨b,a,c⟩=>⟨a,b,(J6a hc b).2 c⟩⟩
theorem C5b(p:i0a)(M:List Nat)(w0:World)(cs:List Value)(hP:X0a M w0 p cs)(hN:c5a p)(hc:a3a p)(hK:f2a M w0)(hM:∀g∈M,g<w0.heap.size):
 O0a prog 65 #[.agg cs.toArray] w0 fun v w'=>(∃a,v=.int .i64 a∧(a=0↔L4b p))∧Below w0.heap.size w0 w':=by
 obtain⟨Ac,nc,cc,Am,nm,cm,Al,nl,cl,At,nt,ct,rfl,_,Y0,_⟩:=hP.open_;have S:=St.refl w0;have t0:∀w':World,w0.heap.size≤w'.heap.size→∀g∈M,g<w'.heap.size:=fun w' h g hg=>by have:=hM g hg;omega
 refine a0a func65 Z ntmps65 Z ?_;refine wO0 Z U (q0a S Z ?_);intro g1 w1 S1 X1 G1;refine lO0 Z U (n3a (k:=9) S1 Z ?_);intro g6 w6 S6 X6 G6 a0;have Z0:w0.heap.size≤g6:=by have:=S1.size;omega
 refine lC S6.k [.o 0] Z ⟨Z,U⟩ (wL (fun μk D ε w=>D=[]∧∃k:Nat,(k+μk=(p.modules.length))∧(f1a (p.modules) k (fun x=>h1c p x))∧(((p.modules.take k).map fun c=>Value.string c.name).Nodup)∧(c3a prog 9 w g6 (B3a ((p.modules.take k).map fun c=>.string c.name)))∧St [] w0 w [(some g1,122,[.slice Ac nc cc,.slice Am nm cm,.slice Al nl cl,.slice At nt ct])]∧Sl ε [(1,.pointer (some ⟨g1,0,none⟩)),(3,.map (some g6)),(9,.slice Am nm cm),(10,.int .i64 nm),(11,.int .i64 k)]) (μ:=(p.modules.length)) ⟨Z,0,by omega,f1a.zero,(by simp),(by simpa[B3a] using a0),S6,Z⟩ ?_);rintro μk D ε w ⟨rfl,k,_,hs,hd,a0,S,eZ⟩;refine wK eZ (wB0 Z U (fun X0=>?_) fun X0=>?_)
 ·obtain⟨x,W0,a1,_,b0,H0,_,J0,I0,L0⟩:=RdS.get (Y0) (k) (by omega);obtain⟨_,_,_,_,_,_,_,_,_,rfl,u0,s0,i0,_⟩:=G0a.open_ L0;have T0:=(hN.mods x (e0a b0)).1;refine lO (S.k.a I0) [.x W0 a1,.v 0] Z ⟨⟨Z,J0⟩,⟨H0,by omega⟩,U⟩ (h0a S y1c Z Z ?_);intro g5 w5 S5 X5 G5;replace a0:=a0.keep X5 (List.not_mem_nil);refine b0a (kk:=0) (vs:=[_,_,_,_,_,_,_,_,_,_,_]) S5 H2c Z Z Z Z Z Z Z ?_;intro i1 j0 E0;dsimp only[d0a,List.set] at j0;replace a0:=a0.keep E0 (fun hh=>by rw[List.mem_singleton] at hh;exact a0.ne (S5.blk 0 Z) hh);refine lO j0.k [.o 0] Z ⟨Z,U⟩ (f0a j0 k3b Z Z (c7a _ _ T0) (fun B0 b1 y0 Q0=>?_) (fun B0 b1 y0 Q0=>?_))
  ·replace a0:=a0.keep Q0 (List.not_mem_nil);refine lO y0.k [.o 0] Z ⟨Z,U⟩ (f0a y0 k3b Z Z (c7a _ _ (hN.mods x (e0a b0)).2) (fun C0 c1 z0 R0=>?_) (fun C0 c1 z0 R0=>?_))
   ·replace a0:=a0.keep R0 (List.not_mem_nil);refine lO z0.k [.o 0] Z ⟨Z,U⟩ (V1a F2b Z Z (a7a g6 _ x.name _ a0 T0) ?_);rintro v28 j1 ⟨⟨z28,rfl,x0⟩,U0,V0⟩;have A0:=z0.turned a0 (.inl Z0) U0;clear a0;cases v0:z28
    ·refine D0a (hv:=Z) (v:=.bool _) Z ?_;have K0:Value.string x.name∉(p.modules.take k).map fun c=>Value.string c.name:=fun hh=>absurd (x0.2 hh) (by rw[v0];decide);have a0:=V0 K0;refine lO A0.k [.o 0] Z ⟨Z,U⟩ (f0a A0 K8c Z Z (y8b x.rely M _ _ (RdE.keep (A0.keep0 M) _ _ u0)) (fun F0 d1 c0 D0=>?_) (fun F0 d1 c0 D0=>?_))
     ·replace a0:=a0.keep D0 (List.not_mem_nil);refine lO c0.k [.w 1,.o 0,.w 1] Z ⟨⟨Z,Z⟩,Z,⟨Z,Z⟩,U⟩ (h2a Z Z Z ?_);refine f0a c0 N9a Z Z (q0b p x.guar M _ _ _ true _ (shQ p) (hP.keep (c0.keep0 M)) (RdE.keep (c0.keep0 M) _ _ s0) (D3a (hP.keep (c0.keep0 M))) (hK.keep (c0.keep0 M)) (t0 _ c0.size)) (fun n0 N0 e0 p0=>?_) (fun n0 N0 e0 p0=>?_)
      ·replace a0:=a0.keep p0 (List.not_mem_nil);refine lO e0.k [.o 0] Z ⟨Z,U⟩ (f0a e0 e7b Z Z (M4a M _ _ _ (i0.keep (e0.keep0 M))) (fun o0 O0 d0 q0=>?_) (fun o0 O0 d0 q0=>?_))
       ·replace a0:=a0.keep q0 (List.not_mem_nil);refine lO d0.k [.o 0,.w 1] Z ⟨⟨Z,Z⟩,Z,U⟩ (h2a Z Z Z ?_);refine f0a d0 I7a Z Z (Q4a M _ _ _ x.frame (shQ p) (i0.keep (d0.keep0 M)) (D3a (hP.keep (d0.keep0 M))) (t0 _ d0.size)) (fun g0 P0 m0 r0=>?_) (fun g0 P0 m0 r0=>?_)
        ·replace a0:=a0.keep r0 (List.not_mem_nil);refine lP0 Z ⟨by omega,U⟩ ?_;refine⟨μk-1,by omega,Z,(k+1),(by omega),?_,?_,((by rw[t0a b0,List.map_append];exact a0)),m0.tail,Z⟩
         ·exact hs.succ b0 ⟨d1a B0,d1a C0,by exact .inl (d1a F0),(O3a hc).1 (d1a n0),fun z hz=>of_decide_eq_true (p:=(0≤z∧z<p.cells.length)∧m1a p.cells z=-1) (List.all_eq_true.1 g0 z hz),d1a o0⟩
         ·rw[t0a b0,List.map_append,List.map_singleton,List.nodup_append];exact⟨hd,by simp,fun a ha b hb he=>by rw[List.mem_singleton.1 hb] at he;exact K0 (he▸ha)⟩
        replace a0:=a0.keep r0 (List.not_mem_nil);refine lT Z U Z ⟨⟨_,Z,iff_of_false (by omega) (fun h=>?_)⟩,m0.fin⟩;have h1:=h.1 x (e0a b0)
        (have q:x.frame.all (shQ p)=true:=List.all_eq_true.2 fun z hz=>decide_eq_true (h1.frame z hz)
         rw[q] at g0;cases g0;done)
       replace a0:=a0.keep q0 (List.not_mem_nil);refine lT Z U Z ⟨⟨_,Z,iff_of_false (by omega) (fun h=>?_)⟩,d0.fin⟩;have h1:=h.1 x (e0a b0);exact P0a o0 h1.up
      replace a0:=a0.keep p0 (List.not_mem_nil);refine lT Z U Z ⟨⟨_,Z,iff_of_false (by omega) (fun h=>?_)⟩,e0.fin⟩;have h1:=h.1 x (e0a b0);exact P0a n0 ((O3a hc).2 h1.guar)
     replace a0:=a0.keep D0 (List.not_mem_nil);refine lO c0.k [.w 1,.o 0,.w 1] Z ⟨⟨Z,Z⟩,Z,⟨Z,Z⟩,U⟩ (h2a Z Z Z ?_);refine lO0 Z U (f0a c0 N9a Z Z (q0b p x.rely M _ _ _ true _ (shQ p) (hP.keep (c0.keep0 M)) (RdE.keep (c0.keep0 M) _ _ u0) (D3a (hP.keep (c0.keep0 M))) (hK.keep (c0.keep0 M)) (t0 _ c0.size)) (fun G0 f1 f0 S0=>?_) (fun G0 f1 f0 S0=>?_))
     ·replace a0:=a0.keep S0 (List.not_mem_nil);refine lO f0.k [.w 1,.o 0,.w 1] Z ⟨⟨Z,Z⟩,Z,⟨Z,Z⟩,U⟩ (h2a Z Z Z ?_);refine f0a f0 N9a Z Z (q0b p x.guar M _ _ _ true _ (shQ p) (hP.keep (f0.keep0 M)) (RdE.keep (f0.keep0 M) _ _ s0) (D3a (hP.keep (f0.keep0 M))) (hK.keep (f0.keep0 M)) (t0 _ f0.size)) (fun n0 N0 e0 p0=>?_) (fun n0 N0 e0 p0=>?_)
      ·replace a0:=a0.keep p0 (List.not_mem_nil);refine lO e0.k [.o 0] Z ⟨Z,U⟩ (f0a e0 e7b Z Z (M4a M _ _ _ (i0.keep (e0.keep0 M))) (fun o0 O0 d0 q0=>?_) (fun o0 O0 d0 q0=>?_))
       ·replace a0:=a0.keep q0 (List.not_mem_nil);refine lO d0.k [.o 0,.w 1] Z ⟨⟨Z,Z⟩,Z,U⟩ (h2a Z Z Z ?_);refine f0a d0 I7a Z Z (Q4a M _ _ _ x.frame (shQ p) (i0.keep (d0.keep0 M)) (D3a (hP.keep (d0.keep0 M))) (t0 _ d0.size)) (fun g0 P0 m0 r0=>?_) (fun g0 P0 m0 r0=>?_)
        ·replace a0:=a0.keep r0 (List.not_mem_nil);refine lP0 Z ⟨by omega,U⟩ ?_;refine⟨μk-1,by omega,Z,(k+1),(by omega),?_,?_,((by rw[t0a b0,List.map_append];exact a0)),m0.tail,Z⟩
         ·exact hs.succ b0 ⟨d1a B0,d1a C0,by exact .inr ((O3a hc).1 (d1a G0)),(O3a hc).1 (d1a n0),fun z hz=>of_decide_eq_true (p:=(0≤z∧z<p.cells.length)∧m1a p.cells z=-1) (List.all_eq_true.1 g0 z hz),d1a o0⟩
         ·rw[t0a b0,List.map_append,List.map_singleton,List.nodup_append];exact⟨hd,by simp,fun a ha b hb he=>by rw[List.mem_singleton.1 hb] at he;exact K0 (he▸ha)⟩
        refine lT Z U Z ⟨⟨_,Z,iff_of_false (by omega) (fun h=>?_)⟩,m0.fin⟩;have h1:=h.1 x (e0a b0)
        (have q:x.frame.all (shQ p)=true:=List.all_eq_true.2 fun z hz=>decide_eq_true (h1.frame z hz)
         rw[q] at g0;cases g0;done)
       refine lT Z U Z ⟨⟨_,Z,iff_of_false (by omega) (fun h=>?_)⟩,d0.fin⟩;have h1:=h.1 x (e0a b0);exact P0a o0 h1.up
      refine lT Z U Z ⟨⟨_,Z,iff_of_false (by omega) (fun h=>?_)⟩,e0.fin⟩;have h1:=h.1 x (e0a b0);exact P0a n0 ((O3a hc).2 h1.guar)
     refine lT Z U Z ⟨⟨_,Z,iff_of_false (by omega) (fun h=>?_)⟩,f0.fin⟩;have h1:=h.1 x (e0a b0);exact h1.rely.elim (P0a F0) (fun hh=>P0a G0 ((O3a hc).2 hh))
    refine D0a (hv:=Z) (v:=.bool _) Z ?_;refine lT Z U Z ⟨⟨_,Z,iff_of_false (by omega) (fun h=>?_)⟩,A0.fin⟩;have h1:=h.1 x (e0a b0);exact absurd (x0.1 v0) (g4a (f:=fun(c:u1a)=>Value.string c.name) (h.2.imp fun h e=>h (by injection e)) b0)
   refine lT Z U Z ⟨⟨_,Z,iff_of_false (by omega) (fun h=>?_)⟩,z0.fin⟩;have h1:=h.1 x (e0a b0);exact P0a C0 h1.owner
  refine lT Z U Z ⟨⟨_,Z,iff_of_false (by omega) (fun h=>?_)⟩,y0.fin⟩;have h1:=h.1 x (e0a b0);exact P0a B0 h1.name
 refine lT Z U Z ?_;refine⟨⟨_,Z,iff_of_true (by omega) ⟨hs.all (by omega),?_⟩⟩,S.fin⟩;rw[List.take_of_length_le (by omega)] at hd;exact(List.pairwise_map.1 hd).imp fun h e=>h (by rw[e])
theorem d2c(p:i0a)(M:List Nat)(w0:World)(cs:List Value)(hP:X0a M w0 p cs)(hc:a3a p)(hK:f2a M w0)(hM:∀g∈M,g<w0.heap.size):
 O0a prog 66 #[.agg cs.toArray] w0 fun v w'=>(∃a,v=.int .i64 a∧(a=0↔v0b p))∧Below w0.heap.size w0 w':=by
 obtain⟨Ac,nc,cc,Am,nm,cm,Al,nl,cl,At,nt,ct,rfl,hC,_,S0,_⟩:=hP.open_;have S:=St.refl w0;have T0:∀w':World,w0.heap.size≤w'.heap.size→∀g∈M,g<w'.heap.size:=fun w' h g hg=>by have:=hM g hg;omega
 refine a0a func66 Z ntmps66 Z ?_;refine wO0 Z U (q0a S Z ?_);intro g1 w1 S1 X1 G1;refine lO0 Z U (n3a (k:=3) S1 Z ?_);intro g8 w8 S8 X8 G8 a0;have U0:w0.heap.size≤g8:=by have:=S1.size;omega
 refine lC S8.k [.o 0] Z ⟨Z,U⟩ (wL (fun μk D ε w=>D=[]∧∃k:Nat,(k+μk=(p.locks.length))∧(f1a (p.locks) k (fun x=>Y3b p x))∧(((p.locks.take k).map fun c=>Value.int .i64 c.cell).Nodup)∧(c3a prog 3 w g8 (B3a ((p.locks.take k).map fun c=>.int .i64 c.cell)))∧St [] w0 w [(some g1,122,[.slice Ac nc cc,.slice Am nm cm,.slice Al nl cl,.slice At nt ct])]∧Sl ε [(1,.pointer (some ⟨g1,0,none⟩)),(3,.map (some g8)),(11,.slice Al nl cl),(12,.int .i64 nl),(13,.int .i64 k)]) (μ:=(p.locks.length)) ⟨Z,0,by omega,f1a.zero,(by simp),(by simpa[B3a] using a0),S8,Z⟩ ?_);rintro μk D ε w ⟨rfl,k,_,hs,hd,a0,S,eZ⟩;refine wK eZ (wB0 Z U (fun Q0=>?_) fun Q0=>?_)
 ·obtain⟨x,N0,W0,_,d0,t0,_,A0,y0,B0⟩:=RdS.get (S0) (k) (by omega);obtain⟨_,_,_,rfl,F0,_,x0⟩:=H4a.open_ B0;refine lO (S.k.a y0) [.x N0 W0,.v 0] Z ⟨⟨Z,A0⟩,⟨t0,by omega⟩,U⟩ (h0a S R1d Z Z ?_);intro g5 w5 S5 X5 G5;replace a0:=a0.keep X5 (List.not_mem_nil);refine b0a (kk:=0) (vs:=[_,_,_,_,_,_]) S5 D0d Z Z Z Z Z Z Z ?_;intro a1 e0 p0;dsimp only[d0a,List.set] at e0;replace a0:=a0.keep p0 (fun hh=>by rw[List.mem_singleton] at hh;exact a0.ne (S5.blk 0 Z) hh);refine lO e0.k [.w 1,.o 0] Z ⟨Z,⟨Z,Z⟩,U⟩ (f0a e0 u9a Z Z (O4a p M _ _ _ (hP.keep (e0.keep0 M))) (fun q0 Z0 c0 H0=>?_) (fun q0 Z0 c0 H0=>?_))
  ·replace a0:=a0.keep H0 (List.not_mem_nil);have L0:=of_decide_eq_true q0;obtain⟨c,O0,X0,_,i0,u0,_,_,z0,C0⟩:=RdS.get (hC) (x.cell.toNat) (by omega);obtain⟨rfl,_⟩:=t2a.open_ C0;refine lB (c0.k.a z0) [.o 1,.o 0,.x O0 X0,.f 0 1] Z ⟨Z,⟨u0,by omega⟩,Z,Z,U⟩ (fun R0=>?_) fun R0=>?_
   ·refine lT Z U Z ⟨⟨_,Z,iff_of_false (by omega) (fun h=>?_)⟩,c0.fin⟩;have h1:=h.1 x (e0a d0)
    (have q:=h1.cell;rw[R4a i0,G2a i0] at q;omega)
   obtain⟨_,P0,Y0,_,E0,v0,_,_,j0,D0⟩:=RdS.get (hC) (x.cell.toNat) (by omega);obtain rfl:=Option.some.inj (i0.symm.trans E0);obtain⟨rfl,_⟩:=t2a.open_ D0;refine lO c0.k [.o 1,.o 0,.x P0 Y0] Z ⟨⟨v0,by omega⟩,Z,Z,U⟩ ?_;cases f0:c.ghost
   ·refine J0a L2a Z (by exact(c0.old (j0 _ _ Z)).trans (congrArg (fun b=>some (Value.bool b)) f0)) Z ?_;refine lO c0.k [.o 0] Z ⟨Z,U⟩ ?_;have m0:=x5a F0;refine w9a (Go.Maps.int_keyed Tryz.underlying3) Tryz.underlying183 A7a a0 Z Z m0 Z (fun V0=>?_) fun K0=>?_
    ·refine lO0 Z U (h0a c0 A7a Z Z ?_);intro g6 w6 S6 X6 G6;replace a0:=a0.keep X6 (List.not_mem_nil);refine b0a (kk:=0) (vs:=[]) S6 O1b Z Z Z Z Z Z Z ?_;intro G0 b0 g0;dsimp only[d0a,List.set] at b0;replace a0:=a0.keep g0 (fun hh=>by rw[List.mem_singleton] at hh;exact a0.ne (S6.blk 0 Z) hh);refine lT Z U Z ⟨⟨_,Z,iff_of_false (by omega) (fun h=>?_)⟩,b0.fin⟩;have h1:=h.1 x (e0a d0);exact absurd V0 (g4a (f:=fun(c:z4b)=>Value.int .i64 c.cell) (h.2.imp fun h e=>h (by injection e)) d0)
    refine lO0 Z U (h0a c0 A7a Z Z ?_);intro g6 w6 S6 X6 G6;replace a0:=a0.keep X6 (List.not_mem_nil);refine b0a (kk:=0) (vs:=[]) S6 O1b Z Z Z Z Z Z Z ?_;intro G0 b0 g0;dsimp only[d0a,List.set] at b0;replace a0:=a0.keep g0 (fun hh=>by rw[List.mem_singleton] at hh;exact a0.ne (S6.blk 0 Z) hh);refine lO b0.k [.o 1,.o 2] Z ⟨Z,Z,U⟩ (f0a b0 f3a Z Z (z2a _ _ _) (fun r0 b1 n0 I0=>?_) (fun r0 b1 n0 I0=>?_))
    ·replace a0:=a0.keep I0 (List.not_mem_nil);refine lO n0.k [.o 1] Z ⟨Z,U⟩ (i1a o3b (vs:=[]) (cs:=[]) Z Z Z Z ?_);refine j9a (key:=.int .i64 x.cell) n0 (Go.Maps.int_keyed Tryz.underlying3) Tryz.underlying183 a0 Z Z Z m0 (.inl U0) ?_;intro wm Sm Xm Mm;clear a0;have a0:=Mm K0;refine lO Sm.k [.w 2,.o 1,.w 2] Z ⟨⟨Z,Z⟩,Z,⟨Z,Z⟩,U⟩ (h2a Z Z Z ?_);refine f0a Sm N9a Z Z (q0b p x.inv M _ _ _ false _ (shQ p) (hP.keep (Sm.keep0 M)) (RdE.keep (Sm.keep0 M) _ _ x0) (D3a (hP.keep (Sm.keep0 M))) (hK.keep (Sm.keep0 M)) (T0 _ Sm.size)) (fun s0 c1 o0 J0=>?_) (fun s0 c1 o0 J0=>?_)
     ·replace a0:=a0.keep J0 (List.not_mem_nil);refine lP0 Z ⟨by omega,U⟩ ?_;refine⟨μk-1,by omega,Z,(k+1),(by omega),(hs.succ d0 (⟨⟨L0.1,L0.2,by rw[R4a i0];omega,by rw[G2a i0];exact f0⟩,by have:=of_decide_eq_true r0;unfold O1a;omega,(O3a hc).1 (d1a s0)⟩)),?_,((by rw[t0a d0,List.map_append];exact a0)),o0.tail.tail,Z⟩;rw[t0a d0,List.map_append,List.map_singleton,List.nodup_append];exact⟨hd,by simp,fun a ha b hb he=>by rw[List.mem_singleton.1 hb] at he;exact K0 (he▸ha)⟩
     refine lT Z U Z ⟨⟨_,Z,iff_of_false (by omega) (fun h=>?_)⟩,o0.fin⟩;have h1:=h.1 x (e0a d0);exact P0a s0 ((O3a hc).2 h1.inv)
    refine lT Z U Z ⟨⟨_,Z,iff_of_false (by omega) (fun h=>?_)⟩,n0.fin⟩;have h1:=h.1 x (e0a d0)
    (have q:=h1.mod;unfold O1a at q;have q5:=of_decide_eq_false r0;omega)
   refine J0a L2a Z (by exact(c0.old (j0 _ _ Z)).trans (congrArg (fun b=>some (Value.bool b)) f0)) Z ?_;refine lT Z U Z ⟨⟨_,Z,iff_of_false (by omega) (fun h=>?_)⟩,c0.fin⟩;have h1:=h.1 x (e0a d0)
   (have q:=h1.cell;rw[R4a i0,G2a i0] at q;(rw[f0] at q;cases q.2.2.2;done))
  refine lT Z U Z ⟨⟨_,Z,iff_of_false (by omega) (fun h=>?_)⟩,c0.fin⟩;have h1:=h.1 x (e0a d0);exact of_decide_eq_false q0 ⟨h1.cell.1,h1.cell.2.1⟩
 refine lT Z U Z ?_;refine⟨⟨_,Z,iff_of_true (by omega) ⟨hs.all (by omega),?_⟩⟩,S.fin⟩;rw[List.take_of_length_le (by omega)] at hd;exact(List.pairwise_map.1 hd).imp fun h e=>h (by rw[e])
section
variable {P:Program} {r:Option Nat} {N:Nat} {l:List Oper} {D:List Deferred} {C:World→Prop} {K:List Deferred→Env→World→Prop}
def k4b(l:List Oper)(pur:Nat→Bool)(m:Nat):Bool :=
 I3a l&&((List.range l.length).all fun i=>(g1a l i).all fun j=>decide (j<i))&&((List.range m).all fun i=>(List.range i).all fun j=>(m4a l i).contains j||R8a l pur j i)&&((List.range m).all fun j=>(m4a l m).contains j)&&decide (l.length=m+1)
abbrev d9c{M:List Nat}{w0 w:World}{L:List Ent}(_:St M w0 w L):World→Prop:=Cl M w0 w L
def y7a(m:Nat)(f:Nat→Bool):List Nat:=(List.range m).filter fun i=>!f i
theorem K0b{m:Nat}(f:Nat→Bool){i:Nat}(hi:i<m)(hf:f i=false):∃b0 a0,y7a m f=b0++i::a0∧y7a m (fun j=>f j||j==i)=b0++a0∧∀j∈b0,j<i∧f j=false:=by
 have hr:List.range m=List.range i++i::(List.range' (i+1) (m-(i+1))):=by
  have h1:m=i+(m-i):=by omega
  have h2:m-i=(m-(i+1))+1:=by omega
  rw[List.range_eq_range',List.range_eq_range',show List.range' 0 m=List.range' 0 (i+((m-(i+1))+1)) by rw[←h2,←h1],←List.range'_append_1];simp[List.range'_succ]
 refine⟨(List.range i).filter fun j=>!f j,(List.range' (i+1) (m-(i+1))).filter fun j=>!f j,?_,?_,?_⟩
 ·unfold y7a;rw[hr,List.filter_append,List.filter_cons];simp[hf]
 ·unfold y7a;rw[hr,List.filter_append,List.filter_cons];simp only[beq_self_eq_true,Bool.or_true,Bool.not_true,Bool.false_eq_true,if_false]
  congr 1
  ·apply List.filter_congr;intro j hj;have:=List.mem_range.1 hj;have:(j==i)=false:=by simp;omega
   simp[this]
  ·apply List.filter_congr;intro j hj;have:=List.mem_range'.1 hj;have:(j==i)=false:=by simp;omega
   simp[this]
 ·intro j hj;rw[List.mem_filter] at hj;exact⟨List.mem_range.1 hj.1,by simpa using hj.2⟩
theorem j0c{id:Nat}{n t:List Deferred→Env→World→Prop}{b:Nat→List Deferred→Env→World→Prop}{e:Env}{w:World}(hm:P.follows .mixedOrders=true)(pur:Nat→Bool)(ix:List Nat)
 (m:Nat) (C:World→Prop) (ol:Oper) (A0:l[m]?=some ol)
 (h:WM P r N l C pur (fun D e w=>WL P r N l.toArray [ol] (fun D' e' w'=>D'=D∧n D e' w') D e w) D ix e w.drew) (hok:k4b l pur m=true:=by kernel_rfl) (hix:(List.range m==ix)=true:=by kernel_rfl):W P r N (.region id l.toArray true) ⟨n,b,t⟩ D e w:=by
 obtain rfl:List.range m=ix:=eq_of_beq hix;generalize o0:(fun(D:List Deferred) (e:Env) (w:World)=>WL P r N l.toArray [ol] (fun D' e' w'=>D'=D∧n D e' w') D e w)=K' at h;unfold k4b at hok;simp only[Bool.and_eq_true,decide_eq_true_eq] at hok;obtain⟨⟨⟨⟨r0,u0⟩,y0⟩,f0⟩,_⟩:=hok;have q0:∀j,j<m→j∈m4a l m:=fun j hj=>by
  have:=List.all_eq_true.1 f0 j (List.mem_range.2 hj);simpa using this
 have hz:(∀i,N≤i→e i=undef)→W P r N (.region id l.toArray true) ⟨n,b,t⟩ D e w:=by
  intro hz;refine I4c hm u0 (fun f e w=>(∀i,N≤i→e i=undef)∧(∀i,f i=true→∀j∈g1a l i,f j=true)∧((f m=false∧WM P r N l C pur K' D (y7a m f) e w)∨(f m=true∧n D e w))) ⟨hz,by simp,.inl ⟨Z,?_⟩⟩ ?_ ?_
  ·have:y7a m (fun _=>false)=List.range m:=by unfold y7a;simp
   rw[this];exact h
  ·rintro f e w i o ⟨hz,e0,hM⟩ ho g0 i0;have v0:i<l.length:=(List.getElem?_eq_some_iff.1 ho).1;have a0:∀k,(f k||k==i)=true→∀j∈g1a l k,(f j||j==i)=true:=by
    intro k hk j hj;simp only[Bool.or_eq_true,beq_iff_eq] at hk ⊢;rcases hk with hk|rfl
    ·exact .inl (e0 k hk j hj)
    ·exact .inl (i0 j hj)
   rcases hM with⟨c0,hM⟩|⟨c0,-⟩
   rotate_left
   ·have:=Y2a e0 l.length (g1a l m) (e0 m c0) i (q0 i (by
     rcases Nat.lt_or_ge i m with h|h
     ·exact h
     ·have:i=m:=by omega
      subst this;rw[g0] at c0;cases c0))
    rw[g0] at this;cases this
   by_cases x0:i=m
   ·subst x0;obtain rfl:ol=o:=Option.some.inj (A0.symm.trans ho);have b0:∀j,j<i→f j=true:=fun j hj=>Y2a e0 _ _ i0 j (q0 j hj);have j0:y7a i f=[]:=by
     unfold y7a;rw[List.filter_eq_nil_iff];intro j hj;simp[b0 j (List.mem_range.1 hj)]
    rw[j0] at hM;have h4:=hM.2;rw[←o0] at h4;clear hM h o0;unfold WL at *;refine fun a Q hs hD he hK=>h4 a Q hs hD he (fun a' w' m0 hh=>hK a' w' m0 ?_);refine⟨hh.1,fun j hj=>?_,a0,.inr ⟨by simp,hh.2⟩⟩;simp only[V0a,Array.getD_eq_getD_getElem?];rw[Array.getElem?_eq_none (by omega)];rfl
   have p0:i<m:=by omega
   have d0:(f m||m==i)=false:=by simp[c0];omega
   obtain⟨D0,_,h1,h2,h3⟩:=K0b (m:=m) f p0 g0;rw[h1] at hM;have C0:∀j∈m4a l i,f j=true:=Y2a e0 _ _ i0;obtain⟨o',_,z0,hd,hN,h4⟩:=WM.first r0 D0 e w (fun j hj=>by
    have:=List.all_eq_true.1 (List.all_eq_true.1 y0 i (List.mem_range.2 p0)) j (List.mem_range.2 (h3 j hj).1);simp only[Bool.or_eq_true,List.contains_eq_mem,decide_eq_true_eq] at this;rcases this with h|h
    ·have:=C0 j h;rw[(h3 j hj).2] at this;cases this
    ·exact h) hz hM
   obtain rfl:o'=o:=Option.some.inj (z0.symm.trans ho);rcases h4 with⟨B0,v,hv,h4⟩|⟨B0,h4⟩
   ·have s0:=hM.inC;rcases hv with⟨hw,hv⟩|⟨hw,rfl⟩
    ·unfold WL;intro a Q hs hD he hK;simp only[wpListIn];have n0:Region.wanted o' (yielded l.toArray a.tmps)=true:=by rw[t1a,he];exact hw
     simp only[n0,if_true];refine⟨F0a _ _ _,?_⟩;rw[Oper.semAt_eq _ _ _ (x0a r0 ho).2,y2a,he,hv w s0,Oper.uponIn_value];refine hK _ _ (by simp[Act.put,hd,hs]) ⟨by simp[Act.put,hd,hD],?_⟩;rw[hd,k1a v (by rw[hs];exact hN),he];exact⟨F1a hN hz,a0,.inl ⟨d0,by rw[h2];exact h4⟩⟩
    ·unfold WL;intro a Q hs hD he hK;simp only[wpListIn];have n0:Region.wanted o' (yielded l.toArray a.tmps)=false:=by rw[t1a,he];exact hw
     simp only[n0];refine⟨F0a _ _ _,?_⟩;refine hK _ _ (by simp[Act.put,hd,hs]) ⟨by simp[Act.put,hd,hD],?_⟩;rw[hd,k1a undef (by rw[hs];exact hN),he];exact⟨F1a hN hz,a0,.inl ⟨d0,by rw[h2];exact h4⟩⟩
   ·unfold WL at *;refine fun a Q hs hD he hK=>h4 a Q hs hD he (fun a' w' m0 hh=>hK a' w' m0 ?_);obtain⟨t0,v,hv,h5⟩:=hh;exact⟨t0,by rw[hv];exact F1a hN hz,a0,.inl ⟨d0,by rw[h2];exact h5⟩⟩
  ·rintro f e w ⟨hz,e0,hM⟩ b0;rcases hM with⟨c0,-⟩|⟨-,hM⟩
   ·have:=b0 m (by omega);rw[c0] at this;cases this
   ·exact hM
 unfold W at *;intro a hs hd he;refine hz (fun i hi=>?_) a hs hd he;rw[←he];simp only[V0a,Array.getD_eq_getD_getElem?];rw[Array.getElem?_eq_none (by omega)];rfl
end
theorem RdS.dropped{α:Type}{M:List Nat}{w:World}{size b o n c:Nat}{R:List Value→α→Prop}{l:List α}(h:RdS M w size R (.slice (some ⟨b,o,none⟩) n c) l)(lo:Nat)(b0:lo≤n):
 RdS M w size R (.slice (some (if c=lo then⟨b,o,none⟩ else⟨b,o+lo*size,none⟩)) (n-lo) (c-lo)) (l.drop lo):=by
 obtain⟨_,_,_,_,h5⟩:=h.at;refine⟨_,_,_,Z,by simp;omega,by omega,by omega,by omega,fun h0=>?_⟩;obtain⟨_,_,hA,hb,a0⟩:=h5 (by omega);cases hA;rw[if_neg (by omega)];refine⟨b,o+lo*size,Z,hb,fun i x hx=>?_⟩;rw[List.getElem?_drop] at hx;obtain⟨cs,h6,h7,h8⟩:=a0 _ x hx;refine⟨cs,h6,?_,h8⟩;rw[Nat.add_mul,←Nat.add_assoc] at h7;exact h7
def K8b(s:h1a)(q:Int→Bool):Prop:=y3a s.guard q=true∧∀a∈s.set,y3a a.to q=true
def u3d(p:i0a)(t:Int)(s:h1a):Prop:=K8b s (Z7a p t)∧∀a∈s.set,Z7a p t a.cell=true
def X2d(p:i0a)(t:Int)(s:h1a):Prop:=K8b s (P0b p t)∧∀a∈s.set,P0b p t a.cell=true
def J2d(p:i0a)(t:Int)(s:h1a):Prop:=∃a l,s.set=a::l∧y3a s.guard (Z7a p t)=true∧Z7a p t a.cell=true∧d8a p.cells a.cell=false∧a.to.op=2∧shQ p a.to.n=true∧d8a p.cells a.to.n=false∧∀b∈l,Z7a p t b.cell=true∧d8a p.cells b.cell=true∧y3a b.to (Z7a p t)=true
def Y2d(p:i0a)(t:Int)(s:h1a):Prop:=∃a l,s.set=a::l∧K8b s (Z7a p t)∧shQ p a.cell=true∧d8a p.cells a.cell=false∧∀b∈l,(d8a p.cells b.cell&&P0b p t b.cell)=true
def w2d(s:h1a):Prop:=s.guard=⟨1,1,1,[]⟩∧s.set=[]
def j3d(p:i0a)(t:Int)(s:h1a):Prop:=w2d s∧s.target≠t∧O1a s.target p.threads.length
def K3d(p:i0a)(t:Int)(s:h1a):Prop:=j3d p t s∧∀u,p.threads[s.target.toNat]?=some u→u.asleep=true
def z1d(p:i0a)(t:Int)(s:h1a):Prop:=if s.kind=1 then u3d p t s else if s.kind=2 then J2d p t s else if s.kind=3 then Y2d p t s else if s.kind=4 then X2d p t s else if s.kind=5 then w2d s else if s.kind=6 then K3d p t s else j3d p t s
theorem D0b{cells:List z1a}{z:Bool}{t:Int}:f4a cells ⟨1,1,1,[]⟩ z t:=fun x hx=>by
 have h:(⟨1,1,1,[]⟩:E).wf=true:=by decide
 rcases List.mem_append.1 hx with hx|hx
 ·have:=((O7a h (.inr Z) x).1 hx).2.2;rw[E.occ_def] at this;simp at this;cases(show false=true from this)
 ·have:=((O7a h (.inl Z) x).1 hx).2.2;rw[E.occ_def] at this;simp at this;cases(show false=true from this)
section
variable {p:i0a} (hc:a3a p) {t:Nat} {s:h1a} (hg:s.guard.valid p.cells false=true) (hs:∀a∈s.set,O1a a.cell p.cells.length∧a.to.valid p.cells false=true)
include hc hg hs in
theorem Y2b:K8b s (Z7a p t)↔f4a p.cells s.guard false t∧∀a∈s.set,f4a p.cells a.to false t :=
 and_congr (D6a hc hg) ⟨fun h a ha=>(D6a hc (hs a ha).2).1 (h a ha),fun h a ha=>(D6a hc (hs a ha).2).2 (h a ha)⟩
include hc hg hs in
theorem d4c:K8b s (P0b p t)↔f4a p.cells s.guard true t∧∀a∈s.set,f4a p.cells a.to true t :=
 and_congr (J6a hc hg) ⟨fun h a ha=>(J6a hc (hs a ha).2).1 (h a ha),fun h a ha=>(J6a hc (hs a ha).2).2 (h a ha)⟩
theorem e4b{c:Int}(h:O1a c p.cells.length){t:Int}:Z7a p t c=true↔m1a p.cells c=t:=⟨fun hh=>(of_decide_eq_true hh).2,fun hh=>decide_eq_true ⟨h,hh⟩⟩
theorem F2d{c:Int}(h:O1a c p.cells.length):shQ p c=true↔m1a p.cells c=-1:=⟨fun hh=>(of_decide_eq_true hh).2,fun hh=>decide_eq_true ⟨h,hh⟩⟩
theorem V4c{c:Int}(h:O1a c p.cells.length){t:Int}:P0b p t c=true↔m1a p.cells c=t∨m1a p.cells c=-1:=by
 unfold P0b;rw[Bool.or_eq_true,e4b h,F2d h];exact or_comm
theorem B8a.all{t:Int}(h:B8a p t s)(hk:s.kind≠2):∀a∈s.set,f4a p.cells a.to (decide (s.kind=4)) t:=fun a ha=>by
 obtain⟨i,hi,rfl⟩:=List.getElem_of_mem ha;exact h.vals i hi (.inr hk)
include hc hg hs in
theorem j3c(hk:1≤s.kind∧s.kind≤7):z1d p t s↔B8a p t s:=by
 unfold z1d;rcases(show s.kind=1∨s.kind=2∨s.kind=3∨s.kind=4∨s.kind=5∨s.kind=6∨s.kind=7 by omega) with e|e|e|e|e|e|e<;>simp only[e,if_true,if_false,Int.reduceEq]
 ·unfold u3d;rw[Y2b hc hg hs];have e4:decide (s.kind=4)=false:=decide_eq_false (by omega);refine⟨fun⟨⟨h1,h2⟩,h3⟩=>?_,fun h=>⟨⟨e4▸h.guard,fun a ha=>e4▸h.all (by omega) a ha⟩,fun a ha=>(e4b (hs a ha).1).2 (h.k1 e a ha)⟩⟩;exact⟨e4.symm▸h1,fun i hi _=>e4.symm▸h2 _ (List.getElem_mem hi),fun a ha=>.inl ((e4b (hs a ha).1).1 (h3 a ha)),fun _ a ha=>(e4b (hs a ha).1).1 (h3 a ha),fun h=>by omega,fun h=>by omega,fun h=>by omega,fun h=>by omega,fun h=>by omega⟩
 ·have e4:decide (s.kind=4)=false:=decide_eq_false (by omega);constructor
  ·rintro⟨a,l,e1,h1,h2,h3,h4,h5,h6,h7⟩;have hl:∀b∈l,b∈s.set:=fun b hb=>by rw[e1];exact List.mem_cons_of_mem _ hb
   have ha:a∈s.set:=by rw[e1];simp
   have h7':∀b∈l,m1a p.cells b.cell=t∧d8a p.cells b.cell=true:=fun b hb=>⟨(e4b (hs b (hl b hb)).1).1 (h7 b hb).1,(h7 b hb).2.1⟩
   have h2':=(e4b (hs a ha).1).1 h2;refine⟨e4.symm▸(D6a hc hg).1 h1,fun i hi hor=>?_,fun b hb=>.inl ?_,fun h=>by omega,fun _=>⟨a,l,e1,h2',h3,h4,(of_decide_eq_true h5).2,h6,h7'⟩,fun h=>by omega,fun h=>by omega,fun h=>by omega,fun h=>by omega⟩
   ·obtain⟨j,rfl⟩:∃j,i=j+1:=⟨i-1,by omega⟩;have hm:s.set[j+1]∈l:=b9a e1 (List.getElem?_eq_getElem hi);exact e4.symm▸(D6a hc (hs _ (hl _ hm)).2).1 (h7 _ hm).2.2
   ·rw[e1] at hb;rcases List.mem_cons.1 hb with rfl|hb
    ·exact h2'
    ·exact(h7' b hb).1
  ·intro h;obtain⟨a,l,e1,h2,h3,h4,h5,h6,h7⟩:=h.k2 e;have hl:∀b∈l,b∈s.set:=fun b hb=>by rw[e1];exact List.mem_cons_of_mem _ hb
   have ha:a∈s.set:=by rw[e1];simp
   have hn:=K1b (hs a ha).2 h4;refine⟨a,l,e1,(D6a hc hg).2 (e4▸h.guard),(e4b (hs a ha).1).2 h2,h3,h4,decide_eq_true ⟨hn,h5⟩,h6,fun b hb=>⟨(e4b (hs b (hl b hb)).1).2 (h7 b hb).1,(h7 b hb).2,(D6a hc (hs b (hl b hb)).2).2 ?_⟩⟩;obtain⟨j,hj⟩:=List.getElem?_of_mem hb;exact e4▸h.val (k:=j+1) (by rw[e1];exact hj) (.inl (by omega))
 ·have e4:decide (s.kind=4)=false:=decide_eq_false (by omega);constructor
  ·rintro⟨a,l,e1,hv,h2,h3,h7⟩;have hl:∀b∈l,b∈s.set:=fun b hb=>by rw[e1];exact List.mem_cons_of_mem _ hb
   have ha:a∈s.set:=by rw[e1];simp
   obtain⟨h1,hv2⟩:=(Y2b hc hg hs).1 hv;refine⟨e4.symm▸h1,fun i hi _=>e4.symm▸hv2 _ (List.getElem_mem hi),fun b hb=>?_,fun h=>by omega,fun h=>by omega,fun _=>⟨a,l,e1,(F2d (hs a ha).1).1 h2,h3,fun b hb=>(Bool.and_eq_true _ _▸h7 b hb).1⟩,fun h=>by omega,fun h=>by omega,fun h=>by omega⟩;rw[e1] at hb;rcases List.mem_cons.1 hb with rfl|hb
   ·exact .inr ((F2d (hs b ha).1).1 h2)
   ·exact(V4c (hs b (hl b hb)).1).1 (Bool.and_eq_true _ _▸h7 b hb).2
  ·intro h;obtain⟨a,l,e1,h2,h3,h7⟩:=h.k3 e;have hl:∀b∈l,b∈s.set:=fun b hb=>by rw[e1];exact List.mem_cons_of_mem _ hb
   have ha:a∈s.set:=by rw[e1];simp
   exact⟨a,l,e1,(Y2b hc hg hs).2 ⟨e4▸h.guard,fun a ha=>e4▸h.all (by omega) a ha⟩,(F2d (hs a ha).1).2 h2,h3,fun b hb=>by rw[Bool.and_eq_true];exact⟨h7 b hb,(V4c (hs b (hl b hb)).1).2 (h.cells b (hl b hb))⟩⟩
 ·unfold X2d;rw[d4c hc hg hs];have e4:decide (s.kind=4)=true:=decide_eq_true e;refine⟨fun⟨⟨h1,h2⟩,h3⟩=>?_,fun h=>⟨⟨e4▸h.guard,fun a ha=>e4▸h.all (by omega) a ha⟩,fun a ha=>(V4c (hs a ha).1).2 (h.cells a ha)⟩⟩;exact⟨e4.symm▸h1,fun i hi _=>e4.symm▸h2 _ (List.getElem_mem hi),fun a ha=>(V4c (hs a ha).1).1 (h3 a ha),fun h=>by omega,fun h=>by omega,fun h=>by omega,fun h=>by omega,fun h=>by omega,fun h=>by omega⟩
 ·refine⟨fun⟨h1,h2⟩=>?_,fun h=>⟨(h.k5 (by omega)).2,(h.k5 (by omega)).1⟩⟩;exact⟨h1▸D0b,fun i hi _=>(by rw[h2] at hi;simp at hi),fun a ha=>(by rw[h2] at ha;cases ha),fun h=>by omega,fun h=>by omega,fun h=>by omega,fun _=>⟨h2,h1⟩,fun h=>by omega,fun h=>by omega⟩
 ·refine⟨fun⟨⟨⟨h1,h2⟩,h3,h4⟩,h5⟩=>?_,fun h=>⟨⟨⟨(h.k5 (by omega)).2,(h.k5 (by omega)).1⟩,(h.k6 (by omega)).2,(h.k6 (by omega)).1⟩,h.k7 e⟩⟩;exact⟨h1▸D0b,fun i hi _=>(by rw[h2] at hi;simp at hi),fun a ha=>(by rw[h2] at ha;cases ha),fun h=>by omega,fun h=>by omega,fun h=>by omega,fun _=>⟨h2,h1⟩,fun _=>⟨h4,h3⟩,fun _=>h5⟩
 ·refine⟨fun⟨⟨h1,h2⟩,h3,h4⟩=>?_,fun h=>⟨⟨(h.k5 (by omega)).2,(h.k5 (by omega)).1⟩,(h.k6 (by omega)).2,(h.k6 (by omega)).1⟩⟩;exact⟨h1▸D0b,fun i hi _=>(by rw[h2] at hi;simp at hi),fun a ha=>(by rw[h2] at ha;cases ha),fun h=>by omega,fun h=>by omega,fun h=>by omega,fun _=>⟨h2,h1⟩,fun _=>⟨h4,h3⟩,fun h=>by omega⟩
end
theorem j8a(s:h1a)(M:List Nat)(w0:World)(ss:List Value)(vf:Value)(q:Int→Bool)(hS:v1a M w0 ss s)(hp:M2a prog M w0 vf q)(hK:f2a M w0)(hM:∀g∈M,g<w0.heap.size):
 O0a prog 278 #[.agg ss.toArray,vf] w0 fun v w'=>v=.bool (dec (K8b s q))∧Below w0.heap.size w0 w':=by
 obtain⟨Ag,ng,cg,As,ns,o0,rfl,⟨_,_⟩,hG,i0,_⟩:=hS.open_;obtain⟨f,first,caps,rfl,_⟩:=id hp;have S:=St.refl w0;have p0:∀w':World,w0.heap.size≤w'.heap.size→∀g∈M,g<w'.heap.size:=fun w' h g hg=>by have:=hM g hg;omega
 refine a0a func278 Z ntmps278 Z ?_;refine wO0 Z U (q0a S Z ?_);intro g2 w2 S2 X2 G2;refine lOn 8 S2.k [.o 0] Z ⟨Z,U⟩ (L0a Z ?_);refine f0a S2 g8a Z Z (b6a _ M _ _ _ q (RdE.keep (S2.keep0 M) _ _ hG) (hp.keep (S2.keep0 M)) (hK.keep (S2.keep0 M)) (p0 _ S2.size)) (fun c0 y0 b0 r0=>?_) (fun c0 y0 b0 r0=>?_)
 ·refine lC b0.k [.o 0] Z ⟨Z,U⟩ (wL (fun μk D ε w=>D=[]∧∃k:Nat,(k+μk=(s.set.length))∧(f1a (s.set) k (fun a=>y3a a.to q=true))∧St [] w0 w [(some g2,61,[.int .i64 s.kind,.int .i64 s.frm,.int .i64 s.to,.int .i64 s.guard.op,.int .i64 s.guard.w,.int .i64 s.guard.n,.slice Ag ng cg,.slice As ns o0,.bool s.release,.int .i64 s.target,.int .i64 s.module_])]∧Sl ε [(1,.func (.func f) first caps),(13,.slice As ns o0),(14,.int .i64 ns),(15,.int .i64 k)]) (μ:=(s.set.length)) ⟨Z,0,by omega,f1a.zero,b0,Z⟩ ?_);rintro μk D ε w ⟨rfl,k,_,ha,S,eZ⟩;refine wK eZ (wB0 Z U (fun v0=>?_) fun v0=>?_)
  ·obtain⟨a,u0,x0,_,q0,f0,_,m0,j0,n0⟩:=RdS.get (i0) (k) (by omega);obtain⟨_,_,_,rfl,_,g0⟩:=I0a.open_ n0;refine lO (S.k.a j0) [.x u0 x0,.v 0] Z ⟨⟨Z,m0⟩,⟨f0,by omega⟩,U⟩ (h0a S j5b Z Z ?_);intro g6 w6 S6 X6 G6;refine b0a (kk:=0) (vs:=[_,_,_,_,_]) S6 M4b Z Z Z Z Z Z Z ?_;intro A0 a0 t0;dsimp only[d0a,List.set] at a0;refine lO a0.k [.o 0] Z ⟨Z,U⟩ (f0a a0 g8a Z Z (b6a _ M _ _ _ q (RdE.keep (a0.keep0 M) _ _ g0) (hp.keep (a0.keep0 M)) (hK.keep (a0.keep0 M)) (p0 _ a0.size)) (fun d0 z0 e0 s0=>?_) (fun d0 z0 e0 s0=>?_))
   ·refine lP0 Z ⟨by omega,U⟩ ⟨μk-1,by omega,Z,(k+1),(by omega),(ha.succ q0 (d0)),e0.tail,Z⟩
   refine lT Z U Z ?_;refine⟨E0a (fun h=>?_),e0.fin⟩;rw[h.2 a (e0a q0)] at d0;cases d0;done
  exact lT Z U Z ⟨n2a ⟨c0,ha.all (by omega)⟩,S.fin⟩
 refine lT Z U Z ?_;refine⟨E0a (fun h=>?_),b0.fin⟩;rw[h.1] at c0;cases c0;done
theorem b0b(l:List p1a)(M:List Nat)(w0:World)(v vf:Value)(q:Int→Bool)(hS:I7c M w0 v l)(hp:M2a prog M w0 vf q):
 O0a prog 279 #[v,vf] w0 fun v w'=>v=.bool (dec (∀a∈l,q a.cell=true))∧Below w0.heap.size w0 w':=by
 obtain⟨As,ns,p0,rfl⟩:=hS.form;obtain⟨_,_⟩:=hS.len;obtain⟨f,first,caps,rfl,_⟩:=id hp;have S:=St.refl w0;refine a0a func279 Z ntmps279 Z ?_;refine wC0 Z U (wL (fun μk D ε w=>D=[]∧∃k:Nat,(k+μk=(l.length))∧(f1a (l) k (fun a=>q a.cell=true))∧St [] w0 w []∧Sl ε [(1,.func (.func f) first caps),(7,.slice As ns p0),(8,.int .i64 ns),(9,.int .i64 k)]) (μ:=(l.length)) ⟨Z,0,by omega,f1a.zero,S,Z⟩ ?_);rintro μk D ε w ⟨rfl,k,_,ha,S,eZ⟩;refine wK eZ (wB0 Z U (fun q0=>?_) fun q0=>?_)
 ·obtain⟨a,o0,r0,_,j0,d0,_,f0,e0,g0⟩:=RdS.get (hS) (k) (by omega);obtain⟨_,_,_,rfl,i0,_⟩:=I0a.open_ g0;refine lO (S.k.a e0) [.x o0 r0,.v 0] Z ⟨⟨Z,f0⟩,⟨d0,by omega⟩,U⟩ (h0a S j5b Z Z ?_);intro g6 w6 S6 X6 G6
  first|refine b0a (kk:=0) (vs:=[_,_,_,_,_]) S6 M4b Z Z Z Z Z Z Z ?_
  intro t0 a0 n0;dsimp only[d0a,List.set] at a0;refine lO a0.k [.o 0] Z ⟨Z,U⟩ (N6a a0 (hp.keep (a0.keep0 M)) Z Z (i0) Z (fun b0 s0 c0 m0=>?_) (fun b0 s0 c0 m0=>?_))
  ·refine lP0 Z ⟨by omega,U⟩ ⟨μk-1,by omega,Z,(k+1),(by omega),(ha.succ j0 (b0)),c0.tail,Z⟩
  refine lT Z U Z ?_;refine⟨E0a (fun h=>?_),c0.fin⟩;rw[h a (e0a j0)] at b0;cases b0;done
 exact lT Z U Z ⟨n2a (ha.all (by omega)),S.fin⟩
theorem V6c(e:E)(M:List Nat)(w0:World)(cs:List Value)(hR:RdE M w0 e cs):O0a prog 308 #[.agg cs.toArray] w0 fun v w'=>v=.bool (dec (e=⟨1,1,1,[]⟩))∧Below w0.heap.size w0 w':=by
 obtain⟨_,n,_,rfl,_⟩:=hR.cells;have S:=St.refl w0;refine a0a func308 Z ntmps308 Z ?_;refine wO0 Z U (q0a S Z ?_);intro g1 w1 S1 X1 G1;refine lB S1.k [.o 0] Z ⟨Z,U⟩ (fun h5=>?_) fun h5=>?_
 ·refine lB S1.k [.o 0] Z ⟨Z,U⟩ (fun h9=>?_) fun h9=>?_
  ·refine lB S1.k [.o 0] Z ⟨Z,U⟩ (fun a0=>?_) fun a0=>?_
   ·refine lB S1.k [.o 0] Z ⟨Z,U⟩ (fun b0=>?_) fun b0=>?_
    ·refine lT Z U Z ?_;exact⟨n2a (E.ext (by simp only;omega) (by simp only;omega) (by simp only;omega) (List.length_eq_zero_iff.1 (by omega))),S1.fin⟩
    refine lT Z U Z ?_;refine⟨E0a (fun h=>?_),S1.fin⟩;obtain⟨a1,a2,a3,a4⟩:e.op=1∧e.w=1∧e.n=1∧e.kids.length=0:=(by rw[h];exact⟨Z,Z,Z,Z⟩);omega
   refine lT Z U Z ?_;refine⟨E0a (fun h=>?_),S1.fin⟩;obtain⟨a1,a2,a3,a4⟩:e.op=1∧e.w=1∧e.n=1∧e.kids.length=0:=(by rw[h];exact⟨Z,Z,Z,Z⟩);omega
  refine lT Z U Z ?_;refine⟨E0a (fun h=>?_),S1.fin⟩;obtain⟨a1,a2,a3,a4⟩:e.op=1∧e.w=1∧e.n=1∧e.kids.length=0:=(by rw[h];exact⟨Z,Z,Z,Z⟩);omega
 refine lT Z U Z ?_;refine⟨E0a (fun h=>?_),S1.fin⟩;obtain⟨a1,a2,a3,a4⟩:e.op=1∧e.w=1∧e.n=1∧e.kids.length=0:=(by rw[h];exact⟨Z,Z,Z,Z⟩);omega
theorem j8b(s:h1a)(M:List Nat)(w0:World)(ss:List Value)(hS:v1a M w0 ss s):
 O0a prog 282 #[.agg ss.toArray] w0 fun v w'=>v=.bool (dec (w2d s))∧Below w0.heap.size w0 w':=by
 obtain⟨_,_,_,_,_,_,rfl,⟨_,_⟩,hG,_,a0,_⟩:=hS.open_;have S:=St.refl w0;refine a0a func282 Z ntmps282 Z ?_;refine wO0 Z U (q0a S Z ?_);intro g1 w1 S1 X1 G1;refine lO S1.k [.o 0] Z ⟨Z,U⟩ (f0a S1 x7c Z Z (V6c _ M _ _ (RdE.keep (S1.keep0 M) _ _ hG)) (fun h5 w5 S5 X5=>?_) (fun h5 w5 S5 X5=>?_))
 ·refine lB S5.k [.o 0] Z ⟨Z,U⟩ (fun b0=>?_) fun b0=>?_
  ·exact lT Z U Z ⟨n2a ⟨d1a h5,List.length_eq_zero_iff.1 (by omega)⟩,S5.fin⟩
  refine lT Z U Z ?_;refine⟨E0a (fun h=>?_),S5.fin⟩;have:=h.2;rw[this] at a0;simp at a0;omega
 refine lT Z U Z ?_;refine⟨E0a (fun h=>P0a h5 h.1),S5.fin⟩;done
structure AtX (p:i0a) (s:h1a) (M:List Nat) (w:World) (cs ss:List Value):Prop where
 prog:X0a M w p cs
 step:v1a M w ss s
 rng:∀a∈s.set,O1a a.cell p.cells.length
 masks:f2a M w
 low:∀g∈M,g<w.heap.size
theorem w3b(p:i0a)(t:Nat)(s:h1a)(M:List Nat)(w0:World)(cs ss:List Value)(h:AtX p s M w0 cs ss):
 O0a prog 229 #[.agg cs.toArray,.int .i64 t,.agg ss.toArray] w0 fun v w'=>v=.bool (dec (u3d p t s))∧Below w0.heap.size w0 w':=by
 obtain⟨hP,hS,_,hK,hM⟩:=h;obtain⟨_,_,_,_,_,_,_,_,_,_,_,_,rfl,_⟩:=hP.open_;obtain⟨_,_,_,_,_,_,rfl,⟨_,_⟩,_,f0,_⟩:=hS.open_;have S:=St.refl w0;have j0:∀w':World,w0.heap.size≤w'.heap.size→∀g∈M,g<w'.heap.size:=fun w' h g hg=>by have:=hM g hg;omega
 refine a0a func229 Z ntmps229 Z ?_;refine wO0 Z U (q0a S Z ?_);intro g3 w3 S3 X3 G3;refine q0a S3 Z ?_;intro g5 w5 S5 X5 G5;refine lO S5.k [.w 1] Z ⟨⟨Z,by rfl⟩,U⟩ (p0a S5 R9a Z Z (C0b p t M _ _ (hP.keep (S5.keep0 M)) (j0 _ S5.size)) ?_);rintro p0 q0 hq b0 o0;obtain⟨_,_,_,rfl,_⟩:=id hq;refine lO b0.k [.w 0] Z ⟨⟨Z,by rfl⟩,U⟩ (f0a b0 Y6b Z Z (j8a s M _ _ _ (Z7a p t) (v1a.keep (b0.keep0 M) _ _ hS) hq (hK.keep (b0.keep0 M)) (j0 _ b0.size)) (fun d0 m0 a0 g0=>?_) (fun d0 m0 a0 g0=>?_))
 ·replace hq:=hq.keep (g0.of_nil);refine lO a0.k [.o 0] Z ⟨Z,U⟩ (f0a a0 W6b Z Z (b0b s.set M _ _ _ (Z7a p t) (RdS.keepW f0 (a0.keep0 M) (I0a.keep (a0.keep0 M))) hq) (fun e0 n0 c0 i0=>?_) (fun e0 n0 c0 i0=>?_))
  ·replace hq:=hq.keep (i0.of_nil);exact lT Z U Z ⟨n2a ⟨d1a d0,d1a e0⟩,c0.fin⟩
  refine lT Z U Z ?_;refine⟨E0a (fun h=>P0a e0 h.2),c0.fin⟩;done
 refine lT Z U Z ?_;refine⟨E0a (fun h=>P0a d0 h.1),a0.fin⟩;done
theorem X0b(p:i0a)(t:Nat)(s:h1a)(M:List Nat)(w0:World)(cs ss:List Value)(h:AtX p s M w0 cs ss):
 O0a prog 232 #[.agg cs.toArray,.int .i64 t,.agg ss.toArray] w0 fun v w'=>v=.bool (dec (X2d p t s))∧Below w0.heap.size w0 w':=by
 obtain⟨hP,hS,_,hK,hM⟩:=h;obtain⟨_,_,_,_,_,_,_,_,_,_,_,_,rfl,_⟩:=hP.open_;obtain⟨_,_,_,_,_,_,rfl,⟨_,_⟩,_,f0,_⟩:=hS.open_;have S:=St.refl w0;have j0:∀w':World,w0.heap.size≤w'.heap.size→∀g∈M,g<w'.heap.size:=fun w' h g hg=>by have:=hM g hg;omega
 refine a0a func232 Z ntmps232 Z ?_;refine wO0 Z U (q0a S Z ?_);intro g3 w3 S3 X3 G3;refine q0a S3 Z ?_;intro g5 w5 S5 X5 G5;refine lO S5.k [.w 1] Z ⟨⟨Z,by rfl⟩,U⟩ (p0a S5 R5b Z Z (C6a p t M _ _ (hP.keep (S5.keep0 M)) (j0 _ S5.size)) ?_);rintro p0 q0 hq b0 o0;obtain⟨_,_,_,rfl,_⟩:=id hq;refine lO b0.k [.w 0] Z ⟨⟨Z,by rfl⟩,U⟩ (f0a b0 Y6b Z Z (j8a s M _ _ _ (P0b p t) (v1a.keep (b0.keep0 M) _ _ hS) hq (hK.keep (b0.keep0 M)) (j0 _ b0.size)) (fun d0 m0 a0 g0=>?_) (fun d0 m0 a0 g0=>?_))
 ·replace hq:=hq.keep (g0.of_nil);refine lO a0.k [.o 0] Z ⟨Z,U⟩ (f0a a0 W6b Z Z (b0b s.set M _ _ _ (P0b p t) (RdS.keepW f0 (a0.keep0 M) (I0a.keep (a0.keep0 M))) hq) (fun e0 n0 c0 i0=>?_) (fun e0 n0 c0 i0=>?_))
  ·replace hq:=hq.keep (i0.of_nil);exact lT Z U Z ⟨n2a ⟨d1a d0,d1a e0⟩,c0.fin⟩
  refine lT Z U Z ?_;refine⟨E0a (fun h=>P0a e0 h.2),c0.fin⟩;done
 refine lT Z U Z ?_;refine⟨E0a (fun h=>P0a d0 h.1),a0.fin⟩;done
theorem c2b(p:i0a)(t:Nat)(s:h1a)(M:List Nat)(w0:World)(cs ss:List Value)(h:AtX p s M w0 cs ss):
 O0a prog 233 #[.agg cs.toArray,.int .i64 t,.agg ss.toArray] w0 fun v w'=>v=.bool (dec (w2d s))∧Below w0.heap.size w0 w':=by
 obtain⟨hP,hS,_⟩:=h;obtain⟨_,_,_,_,_,_,_,_,_,_,_,_,rfl,_⟩:=hP.open_;obtain⟨_,_,_,_,_,_,rfl,⟨_,_⟩,_⟩:=hS.open_;have S:=St.refl w0;refine a0a func233 Z ntmps233 Z ?_;refine wO0 Z U (q0a S Z ?_);intro g3 w3 S3 X3 G3;refine q0a S3 Z ?_;intro g5 w5 S5 X5 G5;refine lO S5.k [.w 0] Z ⟨⟨Z,by rfl⟩,U⟩ (f0a S5 Q1c Z Z (j8b s M _ _ (v1a.keep (S5.keep0 M) _ _ hS)) (fun h8 w8 S8 X8=>?_) (fun h8 w8 S8 X8=>?_))
 ·refine lR0 Z U (w0a Z ?_);exact⟨by rw[h8],S8.fin⟩
 refine lR0 Z U (w0a Z ?_);exact⟨by rw[h8],S8.fin⟩
theorem D8a(p:i0a)(t:Nat)(s:h1a)(M:List Nat)(w0:World)(cs ss:List Value)(h:AtX p s M w0 cs ss):
 O0a prog 235 #[.agg cs.toArray,.int .i64 t,.agg ss.toArray] w0 fun v w'=>v=.bool (dec (j3d p t s))∧Below w0.heap.size w0 w':=by
 obtain⟨hP,hS,_⟩:=h;obtain⟨_,_,_,_,_,_,_,_,_,_,_,_,rfl,_⟩:=hP.open_;obtain⟨_,_,_,_,_,_,rfl,⟨_,_⟩,_⟩:=hS.open_;have S:=St.refl w0;refine a0a func235 Z ntmps235 Z ?_;refine wO0 Z U (q0a S Z ?_);intro g3 w3 S3 X3 G3;refine q0a S3 Z ?_;intro g5 w5 S5 X5 G5;refine lO S5.k [.w 0] Z ⟨⟨Z,by rfl⟩,U⟩ (f0a S5 Q1c Z Z (j8b s M _ _ (v1a.keep (S5.keep0 M) _ _ hS)) (fun h8 w8 S8 X8=>?_) (fun h8 w8 S8 X8=>?_))
 ·refine lB S8.k [.o 0] Z ⟨Z,U⟩ (fun d0=>?_) fun d0=>?_
  ·refine lO S8.k [.o 0,.o 1] Z ⟨Z,Z,U⟩ (f0a S8 f3a Z Z (z2a _ _ _) (fun b0 e0 a0 c0=>?_) (fun b0 e0 a0 c0=>?_))
   ·refine lT Z U Z ?_;exact⟨n2a ⟨d1a h8,by omega,by have:=of_decide_eq_true b0;unfold O1a;omega⟩,a0.fin⟩
   refine lT Z U Z ?_;refine⟨E0a (fun h=>?_),a0.fin⟩;have:=h.2.2;unfold O1a at this;have:=of_decide_eq_false b0;omega
  refine lT Z U Z ?_;refine⟨E0a (fun h=>?_),S8.fin⟩;have:=h.2.1;omega
 refine lT Z U Z ?_;refine⟨E0a (fun h=>P0a h8 h.1),S8.fin⟩;done
theorem Y1b(p:i0a)(t:Nat)(s:h1a)(M:List Nat)(w0:World)(cs ss:List Value)(h:AtX p s M w0 cs ss):
 O0a prog 234 #[.agg cs.toArray,.int .i64 t,.agg ss.toArray] w0 fun v w'=>v=.bool (dec (K3d p t s))∧Below w0.heap.size w0 w':=by
 obtain⟨hP,hS,o0,hK,hM⟩:=h;obtain⟨_,_,_,_,_,_,_,_,_,_,_,_,rfl,_,_,_,n0,_⟩:=hP.open_;obtain⟨_,_,_,_,_,_,rfl,⟨_,_⟩,_⟩:=hS.open_;have S:=St.refl w0;have m0:∀w':World,w0.heap.size≤w'.heap.size→∀g∈M,g<w'.heap.size:=fun w' h g hg=>by have:=hM g hg;omega
 refine a0a func234 Z ntmps234 Z ?_;refine wO0 Z U (q0a S Z ?_);intro g3 w3 S3 X3 G3;refine q0a S3 Z ?_;intro g5 w5 S5 X5 G5;refine lO S5.k [.w 1,.w 0] Z ⟨⟨Z,by rfl⟩,⟨Z,by rfl⟩,U⟩ (f0a S5 n1c Z Z (D8a p t s M _ _ _ ⟨hP.keep (S5.keep0 M),v1a.keep (S5.keep0 M) _ _ hS,o0,hK.keep (S5.keep0 M),m0 _ S5.size⟩) (fun d0 r0 b0 i0=>?_) (fun d0 r0 b0 i0=>?_))
 ·have q0:=(d1a d0).2.2;unfold O1a at q0;obtain⟨u,j0,p0,_,g0,e0,_,_,c0,f0⟩:=RdS.get (n0) (s.target.toNat) (by omega);obtain⟨_,_,_,_,_,_,_,_,_,_,_,_,rfl,_⟩:=M0a.open_ f0;refine lO b0.k [.o 1,.o 0,.x j0 p0] Z ⟨⟨e0,by omega⟩,Z,Z,U⟩ ?_;cases a0:u.asleep
  ·refine J0a L2a Z (by exact(b0.old (c0 _ _ Z)).trans (congrArg (fun b=>some (Value.bool b)) a0)) Z ?_;refine lT Z U Z ?_;refine⟨E0a (fun h=>?_),b0.fin⟩;have:=h.2 u g0;rw[a0] at this;cases this;done
  refine J0a L2a Z (by exact(b0.old (c0 _ _ Z)).trans (congrArg (fun b=>some (Value.bool b)) a0)) Z ?_;refine lT Z U Z ?_;exact⟨n2a ⟨d1a d0,fun v hv=>by rw[g0] at hv;cases hv;exact a0⟩,b0.fin⟩
 refine lT Z U Z ?_;refine⟨E0a (fun h=>P0a d0 h.1),b0.fin⟩;done
theorem G4b(p:i0a)(t:Nat)(s:h1a)(M:List Nat)(w0:World)(cs ss:List Value)(h:AtX p s M w0 cs ss):
 O0a prog 230 #[.agg cs.toArray,.int .i64 t,.agg ss.toArray] w0 fun v w'=>v=.bool (dec (J2d p t s))∧Below w0.heap.size w0 w':=by
 obtain⟨hP,hS,p1,hK,hM⟩:=h;obtain⟨Ac,nc,cc,Am,nm,cm,Al,nl,cl,At,nt,ct,rfl,_⟩:=hP.open_;obtain⟨Ag,ng,cg,_,ns,S0,rfl,⟨_,_⟩,hG,i0,I1,_⟩:=hS.open_;have S:=St.refl w0;have K0:∀w':World,w0.heap.size≤w'.heap.size→∀g∈M,g<w'.heap.size:=fun w' h g hg=>by have:=hM g hg;omega
 cases d0:s.set with
 | nil =>
   have hz:ns=0:=by rw[I1,d0];rfl
   have H1:¬J2d p t s:=fun⟨a,l,e,_⟩=>by rw[d0] at e;cases e
   refine a0a func230 Z ntmps230 Z ?_;refine wO0 Z U (q0a S Z ?_);intro g3 w3 S3 X3 G3;refine q0a S3 Z ?_;intro g5 w5 S5 X5 G5;refine lO S5.k [.w 1] Z ⟨⟨Z,by rfl⟩,U⟩ (p0a S5 R9a Z Z (C0b p t M _ _ (hP.keep (S5.keep0 M)) (K0 _ S5.size)) ?_);rintro O1 L0 hq g0 y1;obtain⟨f,first,caps,rfl,hH,hf⟩:=id hq;have c0:=z0a.refl [] L0;refine lB g0.k [.o 0] Z ⟨Z,U⟩ (fun T0=>?_) (fun T0=>by exfalso;omega);exact lT Z U Z ⟨E0a H1,g0.fin⟩
 | cons a0 l =>
 have F1:s.set.length=l.length+1:=by rw[d0];rfl
 have G1:a0∈s.set:=by rw[d0];simp
 have X0:=p1 a0 G1;have b1:s.set[0]?=some a0:=by rw[d0];rfl
 unfold O1a at X0;obtain⟨_,b0,p0,_,c1,rfl,D1,_,z0,J1⟩:=RdS.get i0 0 (by omega);obtain rfl:=Option.some.inj (b1.symm.trans c1);obtain⟨t1,M1,A1,rfl,K1,_⟩:=I0a.open_ J1;have E1:s.set.drop 1=l:=by rw[d0];rfl
 have o1:=RdS.dropped i0 1 (by omega);rw[E1] at o1;refine a0a func230 Z ntmps230 Z ?_;refine wO0 Z U (q0a S Z ?_);intro g3 w3 S3 X3 G3;refine q0a S3 Z ?_;intro g5 w5 S5 X5 G5;refine lO S5.k [.w 1] Z ⟨⟨Z,Z⟩,U⟩ (p0a S5 R9a Z Z (C0b p t M _ _ (hP.keep (S5.keep0 M)) (K0 _ S5.size)) ?_);rintro O1 L0 hq g0 y1;obtain⟨f,first,caps,rfl,hH,hf⟩:=id hq;have c0:=z0a.refl [] L0;refine lB g0.k [.o 0] Z ⟨Z,U⟩ (fun T0=>by exfalso;omega) fun T0=>?_;refine lO g0.k [.o 0] Z ⟨Z,U⟩ (f0a g0 g8a Z Z (b6a _ M _ _ _ (Z7a p t) (RdE.keep (g0.keep0 M) _ _ hG) (hq.keep c0.of_nil) (hK.keep (g0.keep0 M)) (K0 _ g0.size)) (fun D0 N0 B0 f1=>?_) (fun D0 N0 B0 f1=>?_))
 ·replace c0:=c0.trans f1;refine lC0 Z U (j0c c0a (fun i=>[0,1,2,3,4,5,6,7,8,9,11].contains i) [0,1,2,3,4,5,6,7,8,9,10,11] 12 (d9c B0) _ Z ?_);have f0:=B0.drew;have e0:z0a [] N0 N0.drew:=B2a _ _;generalize N0.drew=a2 at f0 e0 ⊢;replace c0:=c0.trans e0;refine J8a ⟨f0,e0⟩ Z Z Z ?_;refine K0a c6b Z Z ?_;refine n0a ?_;refine J8a ⟨f0,e0⟩ Z Z Z ?_;refine m0a W7b Z (fun w1 hw=>by exact hw.1.cell 0 Z Z) Z ?_;refine n0a ?_;refine J8a ⟨f0,e0⟩ Z Z Z ?_;refine s0a w6a.slT Z (by rfl) Z Z ?_;refine n0a ?_;refine J8a ⟨f0,e0⟩ Z Z Z ?_;refine K0a z3b Z Z ?_;refine n0a ?_;refine J8a ⟨f0,e0⟩ Z Z Z ?_;refine m0a B0a Z (fun w1 hw=>by exact hw.1.old (z0 _ _ Z)) Z ?_;refine n0a ?_;refine J8a ⟨f0,e0⟩ Z Z Z ?_;refine K0a c6b Z Z ?_;refine n0a ?_;refine J8a ⟨f0,e0⟩ Z Z Z ?_;refine m0a W7b Z (fun w1 hw=>by exact hw.1.cell 0 Z Z) Z ?_;refine n0a ?_;refine J8a ⟨f0,e0⟩ Z Z Z ?_;refine s0a w6a.slT Z (by rfl) Z Z ?_;refine n0a ?_;refine J8a ⟨f0,e0⟩ Z Z Z ?_;refine K0a e3b Z Z ?_;refine n0a ?_;refine J8a ⟨f0,e0⟩ Z Z Z ?_;refine y1a k0a Z (fun w1 hw=>(Cells.sub z0 1 4).keep (hw.1.keep0 M) D1) (by rfl) Z ?_;refine n0a ?_;refine T2c ⟨f0,e0⟩ Z Z Z Z ?_;refine h0a f0 r1a Z Z ?_;intro g9 w9 S9 X9 G9;have r0:=Nat.le_trans c0.size G9;have x0:=e0.trans X9;replace c0:=c0.trans X9;refine A0a ⟨Z,?_⟩;refine J8a ⟨S9.tail,x0⟩ Z Z Z ?_;refine o5a (v:=.int .i64 _) Z Z ?_;refine n0a ?_;refine u7b ⟨S9.tail,x0⟩ ?_;refine b0a (kk:=0) (vs:=[_,_,_,_]) S9 v0a Z Z Z Z Z Z Z ?_;intro s1 j0 v0;dsimp only[d0a,List.set] at j0;replace c0:=c0.fresh v0 (by first|exact r0);refine A0a ⟨Z,?_⟩;refine fO0 Z U (N6a j0 (hq.keep c0.of_nil) Z Z (K1) Z (fun E0 P1 s0 g1=>?_) (fun E0 P1 s0 g1=>?_))
  ·replace c0:=c0.trans g1;refine lO s0.k [.w 2] Z ⟨⟨Z,Z⟩,U⟩ (f0a s0 g0b Z Z (P5a p M _ _ _ (hP.keep (s0.keep0 M)) X0.1 X0.2) (fun F0 Q1 n0 P0=>?_) (fun F0 Q1 n0 P0=>?_))
   ·replace c0:=c0.trans P0;refine lT Z U Z ⟨E0a (fun h=>?_),n0.fin⟩;obtain⟨b,l',e,q1,q2,q3,q4,q5,q6,q7⟩:=h;rw[d0] at e;cases e
    (rw[q3] at F0;cases F0;done)
   replace c0:=c0.trans P0;refine lB n0.k [.o 0] Z ⟨Z,U⟩ (fun B1=>?_) fun B1=>?_
   ·refine lT Z U Z ⟨E0a (fun h=>?_),n0.fin⟩;obtain⟨b,l',e,q1,q2,q3,q4,q5,q6,q7⟩:=h;rw[d0] at e;cases e;omega
   refine lO n0.k [.w 2,.o 0] Z ⟨Z,⟨Z,Z⟩,U⟩ (f0a n0 u9a Z Z (O4a p M _ _ _ (hP.keep (n0.keep0 M))) (fun y0 R1 t0 i1=>?_) (fun y0 R1 t0 i1=>?_))
   ·replace c0:=c0.trans i1;refine lO t0.k [.w 2,.o 0] Z ⟨Z,⟨Z,Z⟩,U⟩ ?_;have r1:=(of_decide_eq_true y0).1;refine f0a t0 g0b Z Z (P5a p M _ _ _ (hP.keep (t0.keep0 M)) r1.1 r1.2) (fun G0 T1 C0 Q0=>?_) (fun G0 T1 C0 Q0=>?_)
    ·replace c0:=c0.trans Q0;refine lT Z U Z ⟨E0a (fun h=>?_),C0.fin⟩;obtain⟨b,l',e,q1,q2,q3,q4,q5,q6,q7⟩:=h;rw[d0] at e;cases e
     (rw[q6] at G0;cases G0;done)
    replace c0:=c0.trans Q0;refine lO C0.k [.o 1] Z ⟨Z,U⟩ ?_;refine K6a (kd:=.i64) (lo:=1) (hi:=ns) w6a.slT Z (.inr Z) (.inl ⟨Z,Z⟩) (by have:=i0.len;omega) (by have:=i0.len;omega) Z ?_;refine lC0 Z U (wL (fun μk D ε w=>D=[]∧∃k:Nat,(k+μk=(l.length))∧(f1a (l) k (fun b=>Z7a p t b.cell=true∧d8a p.cells b.cell=true∧y3a b.to (Z7a p t)=true))∧(z0a [] L0 w)∧St [] w0 w [(some g9,38,[.int .i64 a0.to.op,.int .i64 a0.to.w,.int .i64 a0.to.n,.slice t1 M1 A1]),(some g5,61,[.int .i64 s.kind,.int .i64 s.frm,.int .i64 s.to,.int .i64 s.guard.op,.int .i64 s.guard.w,.int .i64 s.guard.n,.slice Ag ng cg,.slice (some ⟨b0,p0,none⟩) ns S0,.bool s.release,.int .i64 s.target,.int .i64 s.module_]),(some g3,122,[.slice Ac nc cc,.slice Am nm cm,.slice Al nl cl,.slice At nt ct])]∧Sl ε [(3,.pointer (some ⟨g3,0,none⟩)),(7,.func (.func f) first caps),(65,.slice (some (if S0=1 then⟨b0,p0,none⟩ else⟨b0,p0+1*5,none⟩)) (ns-1) (S0-1)),(66,.int .i64 (ns-1:Nat)),(67,.int .i64 k)]) (μ:=(l.length)) ⟨Z,0,by omega,f1a.zero,c0,C0,Z⟩ ?_);rintro μk D ε w ⟨rfl,k,_,ha,c0,S,eZ⟩;refine wK eZ (wB0 Z U (fun C1=>?_) fun C1=>?_)
    ·obtain⟨a,z1,N1,_,A0,U0,_,Z0,Y0,a1⟩:=RdS.get (o1) (k) (by omega);obtain⟨_,_,_,rfl,d1,V0⟩:=I0a.open_ a1;have W0:=p1 a (by rw[d0];exact List.mem_cons_of_mem _ (e0a A0));unfold O1a at W0;refine lO (S.k.a Y0) [.x z1 N1,.v 0] Z ⟨⟨Z,Z0⟩,⟨U0,by omega⟩,U⟩ (h0a S j5b Z Z ?_);intro Y1 Z1 v1 x1 u1;have m0:=Nat.le_trans c0.size u1;replace c0:=c0.trans x1;refine b0a (kk:=0) (vs:=[_,_,_,_,_]) v1 M4b Z Z Z Z Z Z Z ?_;intro X1 q0 R0;dsimp only[d0a,List.set] at q0;replace c0:=c0.fresh R0 (by exact m0);refine lO q0.k [.o 0] Z ⟨Z,U⟩ (N6a q0 (hq.keep c0.of_nil) Z Z (d1) Z (fun H0 U1 u0 j1=>?_) (fun H0 U1 u0 j1=>?_))
     ·replace c0:=c0.trans j1;refine lO u0.k [.w 3,.o 0] Z ⟨Z,⟨Z,Z⟩,U⟩ (f0a u0 g0b Z Z (P5a p M _ _ _ (hP.keep (u0.keep0 M)) W0.1 W0.2) (fun I0 V1 o0 m1=>?_) (fun I0 V1 o0 m1=>?_))
      ·replace c0:=c0.trans m1;refine lO o0.k [.o 0] Z ⟨Z,U⟩ (f0a o0 g8a Z Z (b6a _ M _ _ _ (Z7a p t) (RdE.keep (o0.keep0 M) _ _ V0) (hq.keep c0.of_nil) (hK.keep (o0.keep0 M)) (K0 _ o0.size)) (fun J0 W1 O0 n1=>?_) (fun J0 W1 O0 n1=>?_))
       ·replace c0:=c0.trans n1;refine lP0 Z ⟨by omega,U⟩ ⟨μk-1,by omega,Z,(k+1),(by omega),(ha.succ A0 (⟨H0,I0,J0⟩)),(c0),O0.tail,Z⟩
       refine lT Z U Z ⟨E0a (fun h=>?_),O0.fin⟩;obtain⟨b,l',e,q1,q2,q3,q4,q5,q6,q7⟩:=h;rw[d0] at e;cases e
       (have q8:=q7 a (e0a A0)
        (rw[q8.2.2] at J0;cases J0;done))
      refine lT Z U Z ⟨E0a (fun h=>?_),o0.fin⟩;obtain⟨b,l',e,q1,q2,q3,q4,q5,q6,q7⟩:=h;rw[d0] at e;cases e
      (have q8:=q7 a (e0a A0)
       (rw[q8.2.1] at I0;cases I0;done))
     refine lT Z U Z ⟨E0a (fun h=>?_),u0.fin⟩;obtain⟨b,l',e,q1,q2,q3,q4,q5,q6,q7⟩:=h;rw[d0] at e;cases e
     (have q8:=q7 a (e0a A0)
      (rw[q8.1] at H0;cases H0;done))
    exact lT Z U Z ⟨n2a ⟨a0,l,d0,D0,E0,F0,by omega,y0,G0,ha.all (by omega)⟩,S.fin⟩
   refine lT Z U Z ⟨E0a (fun h=>?_),t0.fin⟩;obtain⟨b,l',e,q1,q2,q3,q4,q5,q6,q7⟩:=h;rw[d0] at e;cases e
   (rw[q5] at y0;cases y0;done)
  refine lT Z U Z ⟨E0a (fun h=>?_),s0.fin⟩;obtain⟨b,l',e,q1,q2,q3,q4,q5,q6,q7⟩:=h;rw[d0] at e;cases e
  (rw[q2] at E0;cases E0;done)
 refine lT Z U Z ⟨E0a (fun h=>?_),B0.fin⟩;obtain⟨b,l',e,q1,q2,q3,q4,q5,q6,q7⟩:=h;rw[d0] at e;cases e
 (rw[q1] at D0;cases D0;done)
theorem d1b(p:i0a)(t c:Int)(g g':Nat)(M:List Nat)(w0:World)(cs:List Value)(vf:Value)(hP:X0a M w0 p cs)(hg:Cells w0 g 0 cs)(d0:w0.cell? ⟨g',0,none⟩=some vf)(hp:M2a prog M w0 vf (P0b p t))(hc:i64 c)(h0:0≤c∧c<p.cells.length):
 O0a prog 281 #[.int .i64 c,.pointer (some ⟨g,0,none⟩),.pointer (some ⟨g',0,none⟩)] w0 fun v w'=>v=.bool (d8a p.cells c&&P0b p t c)∧Below w0.heap.size w0 w':=by
 obtain⟨_,_,_,_,_,_,_,_,_,_,_,_,rfl,_⟩:=hP.open_;have S:=St.refl w0;refine a0a func281 Z ntmps281 Z ?_;refine wO0 Z U ?_
 first|refine O2a d3b Z ((fun j v hj=>S.old (hg j v hj))) Z ?_
 refine lO0 Z U (f0a S g0b Z Z (P5a p M _ _ _ (hP.keep (S.keep0 M)) h0.1 h0.2) (fun h7 w7 S7 X7=>?_) (fun h7 w7 S7 X7=>?_))
 ·refine lO0 Z U (J0a R2b Z (by first|exact S7.old d0) Z ?_);refine lO0 Z U (N6a S7 (hp.keep (S7.keep0 M)) Z Z (hc) Z (fun b0 e0 a0 c0=>?_) (fun b0 e0 a0 c0=>?_))
  ·refine lT Z U Z ⟨congrArg Value.bool ?_,a0.fin⟩;rw[h7,b0]<;>rfl
  refine lT Z U Z ⟨congrArg Value.bool ?_,a0.fin⟩;rw[h7,b0]<;>rfl
 refine lT Z U Z ⟨congrArg Value.bool ?_,S7.fin⟩;rw[h7]<;>rfl
theorem j4b(l:List p1a)(q:p1a→Bool)(M:List Nat)(w0:World)(v:Value)(f:FuncId)(first caps:Array Value)(hS:I7c M w0 v l)(hH:Has prog f)
 (hf:∀w',z0a M w0 w'→∀a∈l,i64 a.cell→O0a prog f (first.toList++[Value.int .i64 a.cell]++caps.toList).toArray w' fun v s0=>v=.bool (q a)∧Below w'.heap.size w' s0) :
 O0a prog 279 #[v,.func (.func f) first caps] w0 fun v w'=>v=.bool (dec (∀a∈l,q a=true))∧Below w0.heap.size w0 w':=by
 obtain⟨As,ns,p0,rfl⟩:=hS.form;obtain⟨_,_⟩:=hS.len;have S:=St.refl w0;refine a0a func279 Z ntmps279 Z ?_;refine wC0 Z U (wL (fun μk D ε w=>D=[]∧∃k:Nat,(k+μk=(l.length))∧(f1a (l) k (fun a=>q a=true))∧St [] w0 w []∧Sl ε [(1,.func (.func f) first caps),(7,.slice As ns p0),(8,.int .i64 ns),(9,.int .i64 k)]) (μ:=(l.length)) ⟨Z,0,by omega,f1a.zero,S,Z⟩ ?_);rintro μk D ε w ⟨rfl,k,_,ha,S,eZ⟩;refine wK eZ (wB0 Z U (fun q0=>?_) fun q0=>?_)
 ·obtain⟨a,o0,r0,_,g0,c0,_,e0,d0,f0⟩:=RdS.get (hS) (k) (by omega);obtain⟨_,_,_,rfl,i0,_⟩:=I0a.open_ f0;refine lO (S.k.a d0) [.x o0 r0,.v 0] Z ⟨⟨Z,e0⟩,⟨c0,by omega⟩,U⟩ (h0a S j5b Z Z ?_);intro g6 w6 S6 X6 G6
  first|refine b0a (kk:=0) (vs:=[_,_,_,_,_]) S6 M4b Z Z Z Z Z Z Z ?_
  intro t0 a0 n0;dsimp only[d0a,List.set] at a0;refine lO a0.k [.o 0] Z ⟨Z,U⟩ (Z1b (vs:=first.toList++[Value.int .i64 a.cell]++caps.toList) hH Z Z Z (hf _ (a0.keep0 M) a (e0a g0) i0) ?_);rintro u0 v0 ⟨rfl,m0⟩;have j0:=a0.later m0;cases b0:q a
  ·refine lT Z U Z ?_;refine⟨E0a (fun h=>?_),j0.fin⟩;rw[h a (e0a g0)] at b0;cases b0;done
  refine lP0 Z ⟨by omega,U⟩ ⟨μk-1,by omega,Z,(k+1),(by omega),(ha.succ g0 (b0)),j0.tail,Z⟩
 exact lT Z U Z ⟨n2a (ha.all (by omega)),S.fin⟩
theorem v3b(p:i0a)(t:Nat)(s:h1a)(M:List Nat)(w0:World)(cs ss:List Value)(h:AtX p s M w0 cs ss):
 O0a prog 231 #[.agg cs.toArray,.int .i64 t,.agg ss.toArray] w0 fun v w'=>v=.bool (dec (Y2d p t s))∧Below w0.heap.size w0 w':=by
 obtain⟨hP,hS,F0,hK,hM⟩:=h;obtain⟨_,_,_,_,_,_,_,_,_,_,_,_,rfl,_⟩:=hP.open_;obtain⟨_,_,_,_,ns,_,rfl,⟨_,_⟩,_,d0,Q0,_⟩:=hS.open_;have S:=St.refl w0;have u0:∀w':World,w0.heap.size≤w'.heap.size→∀g∈M,g<w'.heap.size:=fun w' h g hg=>by have:=hM g hg;omega
 cases b0:s.set with
 | nil =>
   have hz:ns=0:=by rw[Q0,b0];rfl
   have P0:¬Y2d p t s:=fun⟨a,l,e,_⟩=>by rw[b0] at e;cases e
   refine a0a func231 Z ntmps231 Z ?_;refine wO0 Z U (q0a S Z ?_);intro g3 w3 S3 X3 G3;refine q0a S3 Z ?_;intro g5 w5 S5 X5 G5;refine lC0 Z U (H0a c0a [0,1,2,3,4,5,6,7] [8] [9,10,11] Z (Cl _ _ _ _) (Cl.start S5) ?_);refine qB S5.q [.o 0] Z ⟨Z,U⟩ (fun r0=>?_) (fun r0=>by exfalso;omega);refine qN0 Z U (Q3a ?_);refine Z6c Z Z Z ?_;refine M1a ?_;rintro Y0 ⟨i0,I0⟩;dsimp only[x3a];exact lT Z U Z ⟨E0a P0,i0.fin⟩
 | cons a0 l =>
 have N0:s.set.length=l.length+1:=by rw[b0];rfl
 have O0:a0∈s.set:=by rw[b0];simp
 have v0:=F0 a0 O0;have y0:s.set[0]?=some a0:=by rw[b0];rfl
 unfold O1a at v0;obtain⟨_,_,_,_,z0,rfl,_,_,x0,R0⟩:=RdS.get d0 0 (by omega);obtain rfl:=Option.some.inj (y0.symm.trans z0);obtain⟨_,_,_,rfl,_⟩:=I0a.open_ R0;have K0:s.set.drop 1=l:=by rw[b0];rfl
 have E0:=RdS.dropped d0 1 (by omega);rw[K0] at E0;have J0:∀a∈l,0≤a.cell∧a.cell<p.cells.length:=fun a ha=>F0 a (by rw[b0];exact List.mem_cons_of_mem _ ha);refine a0a func231 Z ntmps231 Z ?_;refine wO0 Z U (q0a S Z ?_);intro g3 w3 S3 X3 G3;refine q0a S3 Z ?_;intro g5 w5 S5 X5 G5;refine lC0 Z U (H0a c0a [0,1,2,3,4,5,6,7] [8] [9,10,11] Z (Cl _ _ _ _) (Cl.start S5) ?_);refine qB S5.q [.o 0] Z ⟨Z,U⟩ (fun r0=>by exfalso;omega) fun r0=>?_;refine qN S5.q [.w 0,.w 1] Z ⟨⟨Z,by rfl⟩,⟨Z,by rfl⟩,U⟩ (Q3a ?_);refine e4a (fun v w=>M2a prog M w v (Z7a p t)) Z Z R9a Z (fun v w w' h hk=>h.keep hk.of_nil) (fun w1 S1 X1=>C0b p t M _ _ (hP.keep (S1.keep0 M)) (u0 _ S1.size)) ?_;refine M1a ?_;rintro Y0 ⟨i0,I0⟩;rintro a1 hq;dsimp only[x3a];obtain⟨_,first,_,rfl,_⟩:=id hq;refine lO0 Z U (f0a i0 Y6b Z Z (j8a s M _ _ _ (Z7a p t) (v1a.keep (i0.keep0 M) _ _ hS) hq (hK.keep (i0.keep0 M)) (u0 _ i0.size)) (fun s0 S0 f0 A0=>?_) (fun s0 S0 f0 A0=>?_))
 ·replace hq:=hq.keep (A0.of_nil);refine lO f0.k [.o 0] Z ⟨Z,U⟩ (N0a w6a.slT Z (by rfl) Z Z ?_);refine lO0 Z U (J0a B0a Z (by exact f0.old (x0 _ _ Z)) Z ?_);refine lO f0.k [.w 1] Z ⟨⟨Z,by rfl⟩,U⟩ (f0a f0 u9a Z Z (O4a p M _ _ _ (hP.keep (f0.keep0 M))) (fun n0 T0 m0 B0=>?_) (fun n0 T0 m0 B0=>?_))
  ·replace hq:=hq.keep (B0.of_nil);refine lO m0.k [.w 1] Z ⟨⟨Z,by rfl⟩,U⟩ (f0a m0 g0b Z Z (P5a p M _ _ _ (hP.keep (m0.keep0 M)) v0.1 v0.2) (fun o0 U0 g0 C0=>?_) (fun o0 U0 g0 C0=>?_))
   ·replace hq:=hq.keep (C0.of_nil);refine lT Z U Z ⟨E0a (fun h=>?_),g0.fin⟩;obtain⟨b,l',e,q1,q2,q3,q4⟩:=h;rw[b0] at e;cases e
    (rw[q3] at o0;cases o0;done)
   refine lO g0.k [.w 1] Z ⟨⟨Z,by rfl⟩,U⟩ (p0a g0 R5b Z Z (C6a p t M _ _ (hP.keep (g0.keep0 M)) (u0 _ g0.size)) ?_);rintro v37 V0 G0 H0 Z0;obtain⟨_,_,_,rfl,_⟩:=id G0;have e0:=z0a.refl [] V0;refine h0a H0 H5c Z Z ?_;intro g8 w8 S8 X8 G8;have j0:=Nat.le_trans e0.size G8;replace e0:=e0.trans X8;refine T0a (kk:=0) S8 j5c Z Z Z (by exact Nat.le_of_ble_eq_true Z) ?_;intro X0 c0 q0;replace e0:=e0.fresh q0 (by first|exact j0);refine lO c0.k [.o 1] Z ⟨Z,U⟩ ?_;refine K6a (kd:=.i64) (lo:=1) (hi:=ns) w6a.slT Z (.inr Z) (.inl ⟨Z,Z⟩) (by have:=d0.len;omega) (by have:=d0.len;omega) Z ?_;refine S1a Z Z ?_;refine f0a c0 W6b Z Z (j4b l (fun a=>d8a p.cells a.cell&&P0b p t a.cell) M _ _ _ _ _ (RdS.keepW E0 (c0.keep0 M) (I0a.keep (c0.keep0 M))) f9c (fun w' hk a ha L0=>d1b p t a.cell g3 g8 M w' _ _ (hP.keep ((c0.keep0 M).trans hk)) ((c0.cells 2 Z).keep hk (N2a hM (c0.new 2 Z))) (hk.cell (a:=⟨g8,0,none⟩) (N2a hM (c0.new 0 Z)) (c0.cell 0 Z Z)) (G0.keep (e0.of_nil.trans hk)) L0 (J0 a ha))) (fun t0 W0 p0 D0=>?_) (fun t0 W0 p0 D0=>?_)
   ·replace e0:=e0.trans D0;exact lT Z U Z ⟨n2a ⟨a0,l,b0,d1a s0,n0,o0,d1a t0⟩,p0.fin⟩
   refine lT Z U Z ⟨E0a (fun h=>?_),p0.fin⟩;obtain⟨b,l',e,q1,q2,q3,q4⟩:=h;rw[b0] at e;cases e;exact P0a t0 q4
  refine lT Z U Z ⟨E0a (fun h=>?_),m0.fin⟩;obtain⟨b,l',e,q1,q2,q3,q4⟩:=h;rw[b0] at e;cases e
  (rw[q2] at n0;cases n0;done)
 refine lT Z U Z ⟨E0a (fun h=>?_),f0.fin⟩;obtain⟨b,l',e,q1,q2,q3,q4⟩:=h;rw[b0] at e;cases e;exact P0a s0 q1
def o4b(k:Int):Nat:=if k=1 then 229 else if k=2 then 230 else if k=3 then 231 else if k=4 then 232 else if k=5 then 233 else if k=6 then 234 else 235
def I2c:Array Value:=#[.nilFunc,.func (.func 229) #[] #[],.func (.func 230) #[] #[],.func (.func 231) #[] #[],.func (.func 232) #[] #[],.func (.func 233) #[] #[],.func (.func 234) #[] #[],.func (.func 235) #[] #[]]
theorem D8b{k:Int}:Has prog (o4b k):=by
 unfold o4b
 repeat' split
 ·exact B7c
 ·exact t8c
 ·exact s8c
 ·exact G6c
 ·exact M8c
 ·exact A7c
 ·exact n1c
theorem c0c{k:Int}(h1:1≤k)(h7:k≤7):I2c.extract (k.toNat*1) (k.toNat*1+1)=#[.func (.func (o4b k)) #[] #[]]:=by
 rcases(show k=1∨k=2∨k=3∨k=4∨k=5∨k=6∨k=7 by omega) with e|e|e|e|e|e|e<;>subst e<;>rfl
theorem t3c(wz:World):O0a prog 179 #[] wz fun v w'=>v=.agg I2c∧Below wz.heap.size wz w':=by
 have S:=St.refl wz;refine a0a func179 Z ntmps179 Z ?_;refine wO0 Z U (h0a S F1d Z Z ?_);intro g0 w0 S0 X0 G0;refine lO0 Z U (i1a L6a (vs:=[(0,.func _ _ _)]) (cs:=[_]) Z Z Z Z ?_);refine i1a L6a (vs:=[(0,.func _ _ _)]) (cs:=[_]) Z Z Z Z ?_;refine i1a L6a (vs:=[(0,.func _ _ _)]) (cs:=[_]) Z Z Z Z ?_;refine i1a L6a (vs:=[(0,.func _ _ _)]) (cs:=[_]) Z Z Z Z ?_;refine i1a L6a (vs:=[(0,.func _ _ _)]) (cs:=[_]) Z Z Z Z ?_;refine i1a L6a (vs:=[(0,.func _ _ _)]) (cs:=[_]) Z Z Z Z ?_;refine i1a L6a (vs:=[(0,.func _ _ _)]) (cs:=[_]) Z Z Z Z ?_;refine W0a (v:=.agg I2c) (w':=w0) Z Z Z (by kernel_rfl) ?_
 first|refine b0a (kk:=0) (vs:=[_,_,_,_,_,_,_,_]) S0 y1d Z Z Z Z Z Z Z ?_
 intro c0 a0 b0;dsimp only[d0a,List.set] at a0;refine lR0 Z U ?_;exact g0a (n:=8) Z (K2a (by rw[Tryz.underlying230];simp)) Z (a0.cells 0 Z) Z ⟨Z,a0.fin⟩
section
variable {P:Program} {N:Nat} {ops:Array Oper} {C:World→Prop} {rest:List Oper} {K:Env→Prop} {e:Env} {d:Nat} {t:TypeId} {p:String} {af:Array Edge} {x y:Operand} {kd:IntKind} {a:Int}
theorem s4c{ty len el size:Nat}{cs a0:Array Value}(hu:P.underlying ty=some (.array len el))(b0:∀w:World,(sizeOf el).run P w=.ok size w)(ha:∀w:World,(isAgg el).run P w=.ok true w)(hx:ev e x=.agg cs)(hy:ev e y=.int kd a)(h0:0≤a)(h1:a<len)(hv:cs.extract (a.toNat*size) (a.toNat*size+size)=a0)(hd:Nat.ble (d+1) N=true)
 (h:QL P N ops C rest K (upd e d (.agg a0))):QL P N ops C (⟨some d,.index ty x y,t,p,af,none⟩::rest) K e :=
 k3a Z Z hd (fun w _=>by simp[execOp,Instr.index,hx,hy,asIntOf,run_underlying hu,h0,h1,b0,part,ha,hv]) h
end
theorem X7a{M:List Nat}{w:World}{g:Nat}(hM:∀g∈M,g<w.heap.size)(h:w.heap.size≤g):g∉M:=fun hh=>by have:=hM g hh;omega
theorem E1c:∀w:World,(sizeOf 229).run prog w=.ok 1 w:=fun _=>by kernel_rfl
theorem M4c:∀w:World,(isAgg 229).run prog w=.ok true w:=fun _=>by kernel_rfl
theorem B9b(c:Int)(g:Nat)(w0:World)(Ac Am Al At:Option Addr)(nc cc nm cm nl cl nt ct:Nat)(hg:Cells w0 g 0 [.slice Ac nc cc,.slice Am nm cm,.slice Al nl cl,.slice At nt ct]):
 O0a prog 122 #[.int .i64 c,.pointer (some ⟨g,0,none⟩)] w0 fun v w'=>v=.bool (decide (0≤c∧c<(nm:Int)))∧Below w0.heap.size w0 w':=by
 have S:=St.refl w0;refine a0a func122 Z ntmps122 Z ?_;refine wO0 Z U (J0a N1b Z (by first|exact S.old (hg 1 _ Z)) Z ?_);refine lO0 Z U (f0a S f3a Z Z (z2a _ _ _) (fun h9 w9 S9 X9=>?_) (fun h9 w9 S9 X9=>?_))
 ·refine lR0 Z U (w0a Z ?_);exact⟨by rw[h9],S9.fin⟩
 refine lR0 Z U (w0a Z ?_);exact⟨by rw[h9],S9.fin⟩
theorem i9b(c a0 hd:Int)(g g':Nat)(w0:World)(hg:w0.cell? ⟨g,1,none⟩=some (.int .i64 a0))(c0:w0.cell? ⟨g',0,none⟩=some (.int .i64 hd)):
 O0a prog 125 #[.int .i64 c,.pointer (some ⟨g,0,none⟩),.pointer (some ⟨g',0,none⟩)] w0 fun v w'=>v=.bool (decide ((0≤c∧c<a0)∧c≠hd))∧Below w0.heap.size w0 w':=by
 have S:=St.refl w0;refine a0a func125 Z ntmps125 Z ?_;refine wO0 Z U (J0a B0a Z (by exact S.old hg) Z ?_);refine f0a S f3a Z Z (z2a _ _ _) (fun h8 w8 S8 X8=>?_) (fun h8 w8 S8 X8=>?_)
 ·refine lO0 Z U (J0a B0a Z (by exact S8.old c0) Z ?_);refine lB0 Z U (fun b0=>?_) fun b0=>?_
  ·refine lT Z U Z ⟨congrArg Value.bool ?_,S8.fin⟩;exact(decide_eq_true ⟨of_decide_eq_true h8,by omega⟩).symm
  refine lT Z U Z ⟨congrArg Value.bool ?_,S8.fin⟩;exact(decide_eq_false fun h=>by omega).symm
 refine lT Z U Z ⟨congrArg Value.bool ?_,S8.fin⟩;exact(decide_eq_false fun h=>of_decide_eq_false h8 h.1).symm
theorem Z2c(p:i0a)(t:Nat)(s:h1a)(M:List Nat)(w0:World)(cs ss:List Value)(h:AtX p s M w0 cs ss)(hk:1≤s.kind∧s.kind≤7):
 O0a prog (o4b s.kind) #[.agg cs.toArray,.int .i64 t,.agg ss.toArray] w0 fun v w'=>v=.bool (dec (z1d p t s))∧Below w0.heap.size w0 w':=by
 unfold z1d o4b;rcases(show s.kind=1∨s.kind=2∨s.kind=3∨s.kind=4∨s.kind=5∨s.kind=6∨s.kind=7 by omega) with e|e|e|e|e|e|e<;>simp only[e,if_true,if_false,Int.reduceEq]
 ·exact w3b p t s M w0 cs ss h
 ·exact G4b p t s M w0 cs ss h
 ·exact v3b p t s M w0 cs ss h
 ·exact X0b p t s M w0 cs ss h
 ·exact c2b p t s M w0 cs ss h
 ·exact Y1b p t s M w0 cs ss h
 ·exact D8a p t s M w0 cs ss h
theorem h4c(p:i0a)(t:Nat)(x:G1a)(s:h1a)(M:List Nat)(w0:World)(cs ss ts:List Value)(hP:X0a M w0 p cs)(hS:v1a M w0 ss s)(hc:a3a p)(hK:f2a M w0)(hM:∀g∈M,g<w0.heap.size)(hT:M0a M w0 ts x)(t2:1≤x.points)(d2:x.points≤48):
 O0a prog 124 #[.agg cs.toArray,.int .i64 t,.agg ts.toArray,.agg ss.toArray] w0 fun v w'=>(∃a,v=.int .i64 a∧(a=0↔T6a p t x.points s))∧Below w0.heap.size w0 w':=by
 obtain⟨Ac,nc,cc,Am,nm,cm,Al,nl,cl,At,nt,ct,rfl,hC,_⟩:=hP.open_;obtain⟨Ag,ng,cg,As,ns,U0,rfl,⟨_,_⟩,hG,p1,_⟩:=hS.open_;obtain⟨V0,x1,c1,X0,A1,f1,Y0,B1,g1,W0,y1,d1,rfl,_⟩:=hT.open_;have S:=St.refl w0;have a2:∀w':World,w0.heap.size≤w'.heap.size→∀g∈M,g<w'.heap.size:=fun w' h g hg=>by have:=hM g hg;omega
 refine a0a func124 Z ntmps124 Z ?_;refine wO0 Z U (q0a S Z ?_);intro g4 w4 S4 X4 G4;refine q0a S4 Z ?_;intro g6 w6 S6 X6 G6;refine q0a S6 Z ?_;intro g7 w7 S7 X7 G7;refine lCn 3 S7.k [] Z U (wX (fun D ε w=>D=[]∧∃J0:Bool,(J0=true↔s.kind=6∨s.kind=7)∧St [] w0 w [(some g7,61,[.int .i64 s.kind,.int .i64 s.frm,.int .i64 s.to,.int .i64 s.guard.op,.int .i64 s.guard.w,.int .i64 s.guard.n,.slice Ag ng cg,.slice As ns U0,.bool s.release,.int .i64 s.target,.int .i64 s.module_]),(some g6,58,[.string x.name,.int .i64 x.points,.slice V0 x1 c1,.slice X0 A1 f1,.slice Y0 B1 g1,.slice W0 y1 d1,.bool x.asleep]),(some g4,122,[.slice Ac nc cc,.slice Am nm cm,.slice Al nl cl,.slice At nt ct])]∧Sl ε [(1,.int .i64 t),(4,.pointer (some ⟨g4,0,none⟩)),(6,.pointer (some ⟨g6,0,none⟩)),(7,.pointer (some ⟨g7,0,none⟩)),(9,.bool J0)]) ?_ ?_)
 ·refine wB S7.k [.o 0] Z ⟨Z,U⟩ (fun T1=>?_) fun T1=>?_
  ·refine lP0 Z U ⟨Z,(_),?_,S7,Z⟩;exact iff_of_true Z (by omega)
  refine lB S7.k [.o 0] Z ⟨Z,U⟩ (fun U1=>?_) fun U1=>?_
  ·refine lP0 Z U ⟨Z,(_),?_,S7,Z⟩;exact iff_of_true Z (by omega)
  refine lP0 Z U ⟨Z,(_),?_,S7,Z⟩;exact iff_of_false Bool.false_ne_true (by omega)
 rintro D ε w ⟨rfl,J0,s0,S,eZ⟩;refine wK eZ (wX (fun D ε w=>D=[]∧((1≤s.kind∧s.kind≤7)∧(0≤s.frm∧s.frm<x.points-1)∧(0≤s.to∧s.to<x.points)∧O1a s.module_ p.modules.length∧(s.release=true→s.kind=3)∧(s.target≠0→s.kind=6∨s.kind=7)∧s.guard.valid p.cells false=true∧s.guard.w=1)∧St [] w0 w [(some g7,61,[.int .i64 s.kind,.int .i64 s.frm,.int .i64 s.to,.int .i64 s.guard.op,.int .i64 s.guard.w,.int .i64 s.guard.n,.slice Ag ng cg,.slice As ns U0,.bool s.release,.int .i64 s.target,.int .i64 s.module_]),(some g6,58,[.string x.name,.int .i64 x.points,.slice V0 x1 c1,.slice X0 A1 f1,.slice Y0 B1 g1,.slice W0 y1 d1,.bool x.asleep]),(some g4,122,[.slice Ac nc cc,.slice Am nm cm,.slice Al nl cl,.slice At nt ct])]∧Sl ε [(1,.int .i64 t),(4,.pointer (some ⟨g4,0,none⟩)),(7,.pointer (some ⟨g7,0,none⟩))]) ?_ ?_)
 ·refine wB S.k [.o 0] Z ⟨Z,U⟩ (fun V1=>?_) fun V1=>?_
  ·refine lT Z U Z ⟨⟨_,Z,iff_of_false (by omega) (fun h=>?_)⟩,S.fin⟩
   (have z1:=h.kind;have z2:=h.frm;have z3:=h.to;have z4:=h.mod;unfold O1a at z4;have z7:=h.guard
    omega)
  refine lB S.k [.o 0] Z ⟨Z,U⟩ (fun W1=>?_) fun W1=>?_
  ·refine lT Z U Z ⟨⟨_,Z,iff_of_false (by omega) (fun h=>?_)⟩,S.fin⟩
   (have z1:=h.kind;have z2:=h.frm;have z3:=h.to;have z4:=h.mod;unfold O1a at z4;have z7:=h.guard
    omega)
  refine lO S.k [.o 0,.o 1] Z ⟨by omega,Z,Z,U⟩ (f0a S f3a Z Z (z2a _ _ _) (fun C0 i2 S0 N1=>?_) (fun C0 i2 S0 N1=>?_))
  ·refine lO S0.k [.o 0,.o 1] Z ⟨Z,Z,U⟩ (f0a S0 f3a Z Z (z2a _ _ _) (fun D0 j2 T0 O1=>?_) (fun D0 j2 T0 O1=>?_))
   ·refine lO T0.k [.o 0,.o 2] Z ⟨Z,Z,U⟩ (f0a T0 f3a Z Z (z2a _ _ _) (fun E0 m2 b0 P1=>?_) (fun E0 m2 b0 P1=>?_))
    ·refine lO0 Z U ?_;rcases(Bool.eq_false_or_eq_true (s.release)).symm with f0|f0
     ·refine J0a L2a Z (by exact(b0.cell 0 Z Z).trans (congrArg (fun b=>some (Value.bool b)) f0)) Z ?_;refine lB b0.k [.o 0] Z ⟨Z,U⟩ (fun m1=>?_) fun m1=>?_
      ·refine lOn 1 b0.k [] Z U (k5a Z Z Z ?_);cases o0:J0
       ·refine L0a (hv:=Z) (v:=.bool _) Z ?_;refine lT Z U Z ⟨⟨_,Z,iff_of_false (by omega) (fun h=>?_)⟩,b0.fin⟩
        (have z1:=h.kind;have z2:=h.frm;have z3:=h.to;have z4:=h.mod;unfold O1a at z4;have z7:=h.guard
         (have z:=s0.2 (h.tgt (by omega));rw[o0] at z;cases z;done))
       refine L0a (hv:=Z) (v:=.bool _) Z ?_;refine lB b0.k [.o 0] Z ⟨Z,U⟩ (fun z0=>?_) fun z0=>?_
       ·refine lT Z U Z ⟨⟨_,Z,iff_of_false (by omega) (fun h=>?_)⟩,b0.fin⟩
        (have z1:=h.kind;have z2:=h.frm;have z3:=h.to;have z4:=h.mod;unfold O1a at z4;have z7:=h.guard
         omega)
       refine lO b0.k [.o 0,.o 2] Z ⟨Z,Z,U⟩ (f0a b0 w0b Z Z (H3a s.guard M _ _ _ p.cells false (RdE.keep (b0.keep0 M) _ _ hG) (hC.keep (b0.keep0 M)) (hK.keep (b0.keep0 M))) (fun d0 B0 g0 v0=>?_) (fun d0 B0 g0 v0=>?_))
       ·refine lP0 Z U ⟨Z,?_,g0,Z⟩;refine⟨⟨by omega,by omega⟩,of_decide_eq_true C0,of_decide_eq_true D0,?_,?_,?_,d0,by omega⟩
        ·have:=of_decide_eq_true E0;unfold O1a;omega
        ·intro p0;rw[p0] at f0;cases f0;done
        ·intro u1;exact s0.1 o0
       refine lT Z U Z ⟨⟨_,Z,iff_of_false (by omega) (fun h=>?_)⟩,g0.fin⟩
       (have z1:=h.kind;have z2:=h.frm;have z3:=h.to;have z4:=h.mod;unfold O1a at z4;have z7:=h.guard
        (rw[z7.1] at d0;cases d0;done))
      refine lB b0.k [.o 0] Z ⟨Z,U⟩ (fun z0=>?_) fun z0=>?_
      ·refine lT Z U Z ⟨⟨_,Z,iff_of_false (by omega) (fun h=>?_)⟩,b0.fin⟩
       (have z1:=h.kind;have z2:=h.frm;have z3:=h.to;have z4:=h.mod;unfold O1a at z4;have z7:=h.guard
        omega)
      refine lO b0.k [.o 0,.o 2] Z ⟨Z,Z,U⟩ (f0a b0 w0b Z Z (H3a s.guard M _ _ _ p.cells false (RdE.keep (b0.keep0 M) _ _ hG) (hC.keep (b0.keep0 M)) (hK.keep (b0.keep0 M))) (fun d0 B0 g0 v0=>?_) (fun d0 B0 g0 v0=>?_))
      ·refine lP0 Z U ⟨Z,?_,g0,Z⟩;refine⟨⟨by omega,by omega⟩,of_decide_eq_true C0,of_decide_eq_true D0,?_,?_,?_,d0,by omega⟩
       ·have:=of_decide_eq_true E0;unfold O1a;omega
       ·intro p0;rw[p0] at f0;cases f0;done
       ·intro u1;omega
      refine lT Z U Z ⟨⟨_,Z,iff_of_false (by omega) (fun h=>?_)⟩,g0.fin⟩
      (have z1:=h.kind;have z2:=h.frm;have z3:=h.to;have z4:=h.mod;unfold O1a at z4;have z7:=h.guard
       (rw[z7.1] at d0;cases d0;done))
     refine J0a L2a Z (by exact(b0.cell 0 Z Z).trans (congrArg (fun b=>some (Value.bool b)) f0)) Z ?_;refine lB b0.k [.o 0] Z ⟨Z,U⟩ (fun Y1=>?_) fun Y1=>?_
     ·refine lT Z U Z ⟨⟨_,Z,iff_of_false (by omega) (fun h=>?_)⟩,b0.fin⟩
      (have z1:=h.kind;have z2:=h.frm;have z3:=h.to;have z4:=h.mod;unfold O1a at z4;have z7:=h.guard
       (have z:=h.rel f0;omega))
     refine lB b0.k [.o 0] Z ⟨Z,U⟩ (fun m1=>?_) fun m1=>?_
     ·refine lOn 1 b0.k [] Z U (k5a Z Z Z ?_);cases o0:J0
      ·refine L0a (hv:=Z) (v:=.bool _) Z ?_;refine lT Z U Z ⟨⟨_,Z,iff_of_false (by omega) (fun h=>?_)⟩,b0.fin⟩
       (have z1:=h.kind;have z2:=h.frm;have z3:=h.to;have z4:=h.mod;unfold O1a at z4;have z7:=h.guard
        (have z:=s0.2 (h.tgt (by omega));rw[o0] at z;cases z;done))
      refine L0a (hv:=Z) (v:=.bool _) Z ?_;refine lB b0.k [.o 0] Z ⟨Z,U⟩ (fun z0=>?_) fun z0=>?_
      ·refine lT Z U Z ⟨⟨_,Z,iff_of_false (by omega) (fun h=>?_)⟩,b0.fin⟩
       (have z1:=h.kind;have z2:=h.frm;have z3:=h.to;have z4:=h.mod;unfold O1a at z4;have z7:=h.guard
        omega)
      refine lO b0.k [.o 0,.o 2] Z ⟨Z,Z,U⟩ (f0a b0 w0b Z Z (H3a s.guard M _ _ _ p.cells false (RdE.keep (b0.keep0 M) _ _ hG) (hC.keep (b0.keep0 M)) (hK.keep (b0.keep0 M))) (fun d0 B0 g0 v0=>?_) (fun d0 B0 g0 v0=>?_))
      ·refine lP0 Z U ⟨Z,?_,g0,Z⟩;refine⟨⟨by omega,by omega⟩,of_decide_eq_true C0,of_decide_eq_true D0,?_,?_,?_,d0,by omega⟩
       ·have:=of_decide_eq_true E0;unfold O1a;omega
       ·intro p0;omega
       ·intro u1;exact s0.1 o0
      refine lT Z U Z ⟨⟨_,Z,iff_of_false (by omega) (fun h=>?_)⟩,g0.fin⟩
      (have z1:=h.kind;have z2:=h.frm;have z3:=h.to;have z4:=h.mod;unfold O1a at z4;have z7:=h.guard
       (rw[z7.1] at d0;cases d0;done))
     refine lB b0.k [.o 0] Z ⟨Z,U⟩ (fun z0=>?_) fun z0=>?_
     ·refine lT Z U Z ⟨⟨_,Z,iff_of_false (by omega) (fun h=>?_)⟩,b0.fin⟩
      (have z1:=h.kind;have z2:=h.frm;have z3:=h.to;have z4:=h.mod;unfold O1a at z4;have z7:=h.guard
       omega)
     refine lO b0.k [.o 0,.o 2] Z ⟨Z,Z,U⟩ (f0a b0 w0b Z Z (H3a s.guard M _ _ _ p.cells false (RdE.keep (b0.keep0 M) _ _ hG) (hC.keep (b0.keep0 M)) (hK.keep (b0.keep0 M))) (fun d0 B0 g0 v0=>?_) (fun d0 B0 g0 v0=>?_))
     ·refine lP0 Z U ⟨Z,?_,g0,Z⟩;refine⟨⟨by omega,by omega⟩,of_decide_eq_true C0,of_decide_eq_true D0,?_,?_,?_,d0,by omega⟩
      ·have:=of_decide_eq_true E0;unfold O1a;omega
      ·intro p0;omega
      ·intro u1;omega
     refine lT Z U Z ⟨⟨_,Z,iff_of_false (by omega) (fun h=>?_)⟩,g0.fin⟩
     (have z1:=h.kind;have z2:=h.frm;have z3:=h.to;have z4:=h.mod;unfold O1a at z4;have z7:=h.guard
      (rw[z7.1] at d0;cases d0;done))
    refine lT Z U Z ⟨⟨_,Z,iff_of_false (by omega) (fun h=>?_)⟩,b0.fin⟩
    (have z1:=h.kind;have z2:=h.frm;have z3:=h.to;have z4:=h.mod;unfold O1a at z4;have z7:=h.guard
     (have z:=of_decide_eq_false E0;omega))
   refine lT Z U Z ⟨⟨_,Z,iff_of_false (by omega) (fun h=>?_)⟩,T0.fin⟩
   (have z1:=h.kind;have z2:=h.frm;have z3:=h.to;have z4:=h.mod;unfold O1a at z4;have z7:=h.guard
    (have z:=of_decide_eq_false D0;omega))
  refine lT Z U Z ⟨⟨_,Z,iff_of_false (by omega) (fun h=>?_)⟩,S0.fin⟩
  (have z1:=h.kind;have z2:=h.frm;have z3:=h.to;have z4:=h.mod;unfold O1a at z4;have z7:=h.guard
   (have z:=of_decide_eq_false C0;omega))
 rintro D ε w ⟨rfl,e0,S,eZ⟩;refine wK eZ (wO0 Z U ?_);refine n3a (k:=3) S Z ?_;intro i1 v2 F1 r2 p2 a0;have r1:w0.heap.size≤i1:=by have:=S.size;omega
 refine lC F1.k [.o 0] Z ⟨Z,U⟩ (wL (fun μk D ε w=>D=[]∧∃k:Nat,(k+μk=(s.set.length))∧(f1a (s.set) k (fun a=>O1a a.cell p.cells.length∧a.to.valid p.cells false=true∧a.to.w=wAt p.cells a.cell))∧(((s.set.take k).map fun c=>Value.int .i64 c.cell).Nodup)∧(c3a prog 3 w i1 (B3a ((s.set.take k).map fun c=>.int .i64 c.cell)))∧St [] w0 w [(some g7,61,[.int .i64 s.kind,.int .i64 s.frm,.int .i64 s.to,.int .i64 s.guard.op,.int .i64 s.guard.w,.int .i64 s.guard.n,.slice Ag ng cg,.slice As ns U0,.bool s.release,.int .i64 s.target,.int .i64 s.module_]),(some g6,58,[.string x.name,.int .i64 x.points,.slice V0 x1 c1,.slice X0 A1 f1,.slice Y0 B1 g1,.slice W0 y1 d1,.bool x.asleep]),(some g4,122,[.slice Ac nc cc,.slice Am nm cm,.slice Al nl cl,.slice At nt ct])]∧Sl ε [(1,.int .i64 t),(4,.pointer (some ⟨g4,0,none⟩)),(7,.pointer (some ⟨g7,0,none⟩)),(10,.map (some i1)),(81,.slice As ns U0),(82,.int .i64 ns),(83,.int .i64 k)]) (μ:=(s.set.length)) ⟨Z,0,by omega,f1a.zero,(by simp),(by simpa[B3a] using a0),F1,Z⟩ ?_);rintro μk D ε w ⟨rfl,k,_,hs,hd,a0,S,eZ⟩;refine wK eZ (wB0 Z U (fun Z1=>?_) fun Z1=>?_)
 ·obtain⟨a,Q1,e2,_,A0,n1,_,s1,q1,t1⟩:=RdS.get (p1) (k) (by omega);obtain⟨_,_,_,rfl,v1,o1⟩:=I0a.open_ t1;refine lO (S.k.a q1) [.x Q1 e2,.v 0] Z ⟨⟨Z,s1⟩,⟨n1,by omega⟩,U⟩ (h0a S j5b Z Z ?_);intro s2 u2 E1 M1 o2;replace a0:=a0.keep M1 (List.not_mem_nil);refine b0a (kk:=0) (vs:=[_,_,_,_,_]) E1 M4b Z Z Z Z Z Z Z ?_;intro J1 i0 I0;dsimp only[d0a,List.set] at i0;replace a0:=a0.keep I0 (fun hh=>by rw[List.mem_singleton] at hh;exact a0.ne (E1.blk 0 Z) hh);refine lO i0.k [.o 0] Z ⟨Z,U⟩ ?_;have O0:=x5a v1;refine w9a (Go.Maps.int_keyed Tryz.underlying3) Tryz.underlying183 A7a a0 Z Z O0 Z (fun b2=>?_) fun H1=>?_
  ·refine lO0 Z U (h0a i0 A7a Z Z ?_);intro R1 g2 F0 a1 K1;replace a0:=a0.keep a1 (List.not_mem_nil);refine b0a (kk:=0) (vs:=[]) F0 O1b Z Z Z Z Z Z Z ?_;intro Q0 c0 n0;dsimp only[d0a,List.set] at c0;replace a0:=a0.keep n0 (fun hh=>by rw[List.mem_singleton] at hh;exact a0.ne (F0.blk 0 Z) hh);refine lT Z U Z ⟨⟨_,Z,iff_of_false (by omega) (fun h=>?_)⟩,c0.fin⟩;exact absurd b2 (g4a (f:=fun(c:p1a)=>Value.int .i64 c.cell) (h.once.imp fun h e=>h (by injection e)) A0)
  refine lO0 Z U (h0a i0 A7a Z Z ?_);intro R1 g2 F0 a1 K1;replace a0:=a0.keep a1 (List.not_mem_nil);refine b0a (kk:=0) (vs:=[]) F0 O1b Z Z Z Z Z Z Z ?_;intro Q0 c0 n0;dsimp only[d0a,List.set] at c0;replace a0:=a0.keep n0 (fun hh=>by rw[List.mem_singleton] at hh;exact a0.ne (F0.blk 0 Z) hh);refine lO c0.k [.o 1,.o 4] Z ⟨Z,Z,U⟩ (f0a c0 f3a Z Z (z2a _ _ _) (fun x0 D1 q0 H0=>?_) (fun x0 D1 q0 H0=>?_))
  ·replace a0:=a0.keep H0 (List.not_mem_nil);refine lO q0.k [.o 1] Z ⟨Z,U⟩ (i1a o3b (vs:=[]) (cs:=[]) Z Z Z Z ?_);have q2:=of_decide_eq_true x0;refine j9a (key:=.int .i64 a.cell) q0 (Go.Maps.int_keyed Tryz.underlying3) Tryz.underlying183 a0 Z Z Z O0 (.inl r1) ?_;intro wm Sm Xm Mm;clear a0;have a0:=Mm H1;refine lC0 Z U (H0a c0a [0,1,2,3,4,5,6,7,8,9,10,11,12,13,14,15,16,17,18,19,20] [] [] Z (Cl _ _ _ _) (Cl.start Sm) ?_);obtain⟨c,b1,C1,_,I1,K0,_,_,L0,P0⟩:=RdS.get (hC) (a.cell.toNat) (by omega);obtain⟨rfl,_⟩:=t2a.open_ P0;refine qB (Sm.q.a L0) [.o 1,.o 4,.o 1,.x b1 C1,.f 0 1] Z ⟨Z,⟨K0,by omega⟩,Z,Z,Z,U⟩ (fun j1=>?_) fun j1=>?_
   ·refine qD Z U ?_;rintro R0 ⟨j0,r0⟩;replace a0:=a0.keep r0 (List.not_mem_nil);refine lT Z U Z ⟨⟨_,Z,iff_of_false (by omega) (fun h=>?_)⟩,j0.fin⟩
    (have q:=(h.set a (e0a A0)).2.2;rw[R4a I1] at q;omega)
   refine qO Sm.q [.o 1,.o 4] Z ⟨Z,Z,U⟩ (P2a w0b Z Z (fun w1 S1 X1=>H3a a.to M _ _ _ p.cells false (RdE.keep (S1.keep0 M) _ _ o1) (hC.keep (S1.keep0 M)) (hK.keep (S1.keep0 M))) (fun y0=>?_) fun y0=>?_)
   ·refine qD Z U ?_;rintro R0 ⟨j0,r0⟩;replace a0:=a0.keep r0 (List.not_mem_nil);refine lP0 Z ⟨by omega,U⟩ ?_;refine⟨μk-1,by omega,Z,(k+1),(by omega),(hs.succ A0 (⟨by unfold O1a;omega,y0,by rw[R4a I1];omega⟩)),?_,((by rw[t0a A0,List.map_append];exact a0)),j0.tail.tail,Z⟩;rw[t0a A0,List.map_append,List.map_singleton,List.nodup_append];exact⟨hd,by simp,fun a ha b hb he=>by rw[List.mem_singleton.1 hb] at he;exact H1 (he▸ha)⟩
   refine qD Z U ?_;rintro R0 ⟨j0,r0⟩;refine lT Z U Z ⟨⟨_,Z,iff_of_false (by omega) (fun h=>?_)⟩,j0.fin⟩
   (have q:=(h.set a (e0a A0)).2.1;rw[y0] at q;cases q;done)
  refine lT Z U Z ⟨⟨_,Z,iff_of_false (by omega) (fun h=>?_)⟩,q0.fin⟩
  (have q:=(h.set a (e0a A0)).1;unfold O1a at q;have q5:=of_decide_eq_false x0;omega)
 have t0:=hs.all (show s.set.length≤k by omega);have N0:=e0.1;refine lC0 Z U (H0a c0a [0,1,2,3,4,5,6,7] [] [8,9] Z (Cl _ _ _ _) (Cl.start S) ?_);refine X1a E6c Z Z (fun w1 S1 X1=>t3c _) ?_;refine qO S.q [.o 0] Z ⟨Z,U⟩ (s4c Tryz.underlying230 E1c M4c Z Z (by omega) (by omega) (c0c (by omega) (by omega)) Z ?_);refine qN S.q [.w 2,.w 0] Z ⟨⟨Z,Z⟩,⟨Z,Z⟩,U⟩ (Q3a ?_);refine M1a ?_;rintro n2 ⟨m0,_⟩;refine H6a D8b Z Z Z (Z2c p t s M _ _ _ ⟨hP.keep (m0.keep0 M),v1a.keep (m0.keep0 M) _ _ hS,fun a ha=>(t0 a ha).1,hK.keep (m0.keep0 M),a2 _ m0.size⟩ N0) ?_;rintro f2 h2 ⟨rfl,Z0⟩;have G0:=m0.later Z0;have G1:=j3c (t:=t) hc e0.2.2.2.2.2.2.1 (fun a ha=>⟨(t0 a ha).1,(t0 a ha).2.1⟩) N0;cases u0:dec (z1d p t s)
 ·refine lT Z U Z ⟨⟨_,Z,iff_of_false (by omega) (fun h=>?_)⟩,G0.fin⟩;exact P0a u0 (G1.2 h.row)
 refine lT Z U Z ⟨⟨_,Z,iff_of_true (by omega) ⟨e0.1,e0.2.1,e0.2.2.1,e0.2.2.2.1,e0.2.2.2.2.1,e0.2.2.2.2.2.1,e0.2.2.2.2.2.2,t0,?_,G1.1 (d1a u0)⟩⟩,G0.fin⟩;rw[List.take_of_length_le (by omega)] at hd;exact(List.pairwise_map.1 hd).imp fun h e=>h (by rw[e])
def T2d(nm:Nat)(c:Int):Bool:=decide (0≤c∧c<(nm:Int))
def T9c(pts hd c:Int):Bool:=decide ((0≤c∧c<pts)∧c≠hd)
theorem Q4b{g:Nat}{M:List Nat}{w0:World}{Ac Am Al At:Option Addr}{nc cc nm cm nl cl nt ct:Nat}(hg:Cells w0 g 0 [.slice Ac nc cc,.slice Am nm cm,.slice Al nl cl,.slice At nt ct])(hM:g∉M):
 M2a prog M w0 (.func (.func 122) #[] #[.pointer (some ⟨g,0,none⟩)]) (T2d nm) :=
 ⟨_,_,_,Z,B9c,fun w' hk c _=>B9b c g w' Ac Am Al At nc cc nm cm nl cl nt ct (hg.keep hk hM)⟩
theorem Z3b{g g':Nat}{M:List Nat}{w0:World}{a0 hd:Int}(hg:w0.cell? ⟨g,1,none⟩=some (.int .i64 a0))(c0:w0.cell? ⟨g',0,none⟩=some (.int .i64 hd))(hM:g∉M)(b0:g'∉M):
 M2a prog M w0 (.func (.func 125) #[] #[.pointer (some ⟨g,0,none⟩),.pointer (some ⟨g',0,none⟩)]) (T9c a0 hd) :=
 ⟨_,_,_,Z,h9c,fun w' hk c _=>i9b c a0 hd g g' w' (hk.cell (a:=⟨g,1,none⟩) hM hg) (hk.cell (a:=⟨g',0,none⟩) b0 c0)⟩
def A3b(k:Nat):Nat:=if k=0 then 64 else if k=1 then 65 else 66
def F6b(cs:Array Value):Array Value:=#[.func (.func 64) #[.agg cs] #[],.func (.func 65) #[.agg cs] #[],.func (.func 66) #[.agg cs] #[]]
theorem C9b{cs:Array Value}{k:Nat}(h:k<3):(F6b cs)[(k:Int).toNat]?=some (.func (.func (A3b k)) #[.agg cs] #[]):=by
 rcases(show k=0∨k=1∨k=2 by omega) with e|e|e<;>subst e<;>rfl
theorem P5b{k:Nat}:Has prog (A3b k):=by
 unfold A3b
 repeat' split
 ·exact P1d
 ·exact H1d
 ·exact c1d
theorem A9b(p:i0a)(t:Nat)(x:G1a)(b:Nat)(l:List Value)(M:List Nat)(w0:World)(cs ts:List Value)(hP:X0a M w0 p cs)(hT:M0a M w0 ts x)(hN:c5a p)(hc:a3a p)(hL:N2c p)(hK:f2a M w0)(hM:∀g∈M,g<w0.heap.size)(hb:b∈M)
 (hx:p.threads[t]?=some x) (hm:c3a prog 9 w0 b (B3a l)) :
 O0a prog 67 #[.agg cs.toArray,.int .i64 t,.agg ts.toArray,.map (some b)] w0 fun v w'=>(∃a c,v=.tuple #[.int .i64 a,.int .i64 c]∧(a=0↔B4a p t x∧Value.string x.name∉l)∧(a=0→c3a prog 9 w' b (B3a (l++[.string x.name]))))∧C0a [b] w0 w':=by
 obtain⟨Ac,nc,cc,Am,nm,cm,Al,nl,cl,At,nt,ct,rfl,hC,_⟩:=hP.open_;obtain⟨S0,P0,X0,c1,H1,f1,U0,R0,Z0,T0,Q0,Y0,rfl,_,p1,w1,x1,s1,_⟩:=hT.open_;have S:=St.reflM [b] w0;have b0:∀g∈[b],g∈M:=fun g hg=>by rw[List.mem_singleton] at hg;subst hg;exact hb
 have E0:∀w':World,w0.heap.size≤w'.heap.size→∀g∈M,g<w'.heap.size:=fun w' h g hg=>by have:=hM g hg;omega
 have b2:=hL.2.2.2.2 x (e0a hx);have f2:x.name.size≤140737488355328:=hN.threads x (e0a hx);refine a0a func67 Z ntmps67 Z ?_;refine wO0 Z U (q0a S Z ?_);intro g4 w4 S4 X4 G4;replace hm:=hm.keep X4 (List.not_mem_nil);refine q0a S4 Z ?_;intro g6 w6 S6 X6 G6;replace hm:=hm.keep X6 (List.not_mem_nil);refine lO S6.k [.o 0] Z ⟨Z,U⟩ (f0a S6 k3b Z Z (c7a _ _ f2) (fun g1 I2 V0 W1=>?_) (fun g1 I2 V0 W1=>?_))
 ·replace hm:=hm.keep W1 (List.not_mem_nil);refine lO V0.k [.o 0] Z ⟨Z,U⟩ ?_;have E2:w0.heap.size≤g6:=by have:=S4.size;omega
  refine V1a F2b Z Z (a7a b _ x.name _ hm f2) ?_;rintro v28 T2 ⟨⟨z28,rfl,O0⟩,n2,s2⟩;have j0:=V0.turned hm (.inr (by simp)) n2;clear hm;cases J0:z28
  ·refine D0a (hv:=Z) (v:=.bool _) Z ?_;have d2:Value.string x.name∉l:=fun hh=>absurd (O0.2 hh) (by rw[J0];decide);have hm:=s2 d2;refine lB j0.k [.o 0] Z ⟨Z,U⟩ (fun x2=>?_) fun x2=>?_
   ·refine lT2 Z U Z ⟨⟨_,_,Z,iff_of_false (by omega) (fun hh=>?_),fun he=>absurd he (by omega)⟩,j0.below⟩;obtain⟨h,hn⟩:=hh;have q1:=h.points;have q2:=h.asserts;have q3:=h.nmod;omega
   refine lB j0.k [.o 0,.o 0] Z ⟨Z,Z,U⟩ (fun y2=>?_) fun y2=>?_
   ·refine lT2 Z U Z ⟨⟨_,_,Z,iff_of_false (by omega) (fun hh=>?_),fun he=>absurd he (by omega)⟩,j0.below⟩;obtain⟨h,hn⟩:=hh;have q1:=h.points;have q2:=h.asserts;have q3:=h.nmod;omega
   refine lB j0.k [.o 0,.o 0] Z ⟨Z,Z,U⟩ (fun z2=>?_) fun z2=>?_
   ·refine lT2 Z U Z ⟨⟨_,_,Z,iff_of_false (by omega) (fun hh=>?_),fun he=>absurd he (by omega)⟩,j0.below⟩;obtain⟨h,hn⟩:=hh;have q1:=h.points;have q2:=h.asserts;have q3:=h.nmod;omega
   refine lO j0.k [.o 0] Z ⟨Z,U⟩ (S1a Z Z ?_);refine f0a j0 I7a Z Z (Q4a M _ _ _ x.modules (T2d nm) (w1.keep (j0.keepM.mono b0)) (Q4b (j0.cells 1 Z) (X7a hM G4)) (E0 _ j0.size)) (fun a1 J2 D0 X1=>?_) (fun a1 J2 D0 X1=>?_)
   ·replace hm:=hm.keep X1 (List.not_mem_nil);refine lO D0.k [.w 1] Z ⟨⟨Z,Z⟩,U⟩ (p0a D0 R5b Z Z (C6a p t M _ _ (hP.keep (D0.keepM.mono b0)) (E0 _ D0.size)) ?_);rintro v53 b1 hq Q1 t2;replace hm:=hm.keep t2 (List.not_mem_nil);obtain⟨f,first,caps,rfl,_⟩:=id hq;have a0:=z0a.refl [] b1;refine lC Q1.k [.o 0] Z ⟨Z,U⟩ (wL (fun μk D ε w=>D=[]∧∃k:Nat,(k+μk=(x.asserts.length))∧(f1a (x.asserts) k (fun e=>y5a p.cells e false t))∧(c3a prog 9 w b (B3a (l++[.string x.name])))∧(z0a [] b1 w)∧St [b] w0 w [(some g6,58,[.string x.name,.int .i64 x.points,.slice S0 P0 X0,.slice c1 H1 f1,.slice U0 R0 Z0,.slice T0 Q0 Y0,.bool x.asleep]),(some g4,122,[.slice Ac nc cc,.slice Am nm cm,.slice Al nl cl,.slice At nt ct])]∧Sl ε [(1,.int .i64 t),(4,.pointer (some ⟨g4,0,none⟩)),(6,.pointer (some ⟨g6,0,none⟩)),(10,.func (.func f) first caps),(55,.slice S0 P0 X0),(56,.int .i64 P0),(57,.int .i64 k)]) (μ:=(x.asserts.length)) ⟨Z,0,by omega,f1a.zero,hm,a0,Q1,Z⟩ ?_);rintro μk D ε w ⟨rfl,k,hk,Z1,hm,a0,S,eZ⟩;refine wK eZ (wB0 Z U (fun A2=>?_) fun A2=>?_)
    ·obtain⟨e,u2,F2,_,g2,m1,t1,C1,z1,K0⟩:=RdS.get (p1) (k) (by omega);obtain⟨_,_,_,rfl,_⟩:=RdE.cells K0;refine lO (S.k.b (z1.keep (S.keepM.mono b0) t1)) [.x u2 F2,.v 0] Z ⟨⟨Z,C1⟩,⟨m1,by omega⟩,U⟩ (h0a S r1a Z Z ?_);intro N2 Q2 N1 T1 o2;have y0:=Nat.le_trans a0.size o2;replace a0:=a0.trans T1;replace hm:=hm.keep T1 (List.not_mem_nil);refine b0a (kk:=0) (vs:=[_,_,_,_]) N1 v0a Z Z Z Z Z Z Z ?_;intro i2 d0 u0;dsimp only[d0a,List.set] at d0;replace a0:=a0.fresh u0 (by first|exact y0);replace hm:=hm.keep u0 (fun hh=>by rw[List.mem_singleton] at hh;exact hm.ne (N1.blk 0 Z) hh);refine lO d0.k [.w 2,.w 0] Z ⟨⟨Z,by rfl⟩,⟨Z,Z⟩,U⟩ (f0a d0 N9a Z Z (q0b p e M _ _ _ false _ (P0b p t) (hP.keep (d0.keepM.mono b0)) (RdE.keep (d0.keepM.mono b0) _ _ K0) (hq.keep a0.of_nil) (hK.keep (d0.keepM.mono b0)) (E0 _ d0.size)) (fun i1 K2 d1 G0=>?_) (fun i1 K2 d1 G0=>?_))
     ·replace a0:=a0.trans G0;replace hm:=hm.keep G0 (List.not_mem_nil);refine lP0 Z ⟨by omega,U⟩ ⟨μk-1,by omega,Z,(k+1),(by omega),(Z1.succ g2 ((V1b hc).1 (d1a i1))),(hm),(a0),d1.tail,Z⟩
     replace a0:=a0.trans G0;replace hm:=hm.keep G0 (List.not_mem_nil);refine lT2 Z U Z ⟨⟨_,_,Z,iff_of_false (by omega) (fun hh=>?_),fun he=>absurd he (by omega)⟩,d1.below⟩;obtain⟨h,hn⟩:=hh;have q1:=h.points;have q2:=h.asserts;have q3:=h.nmod;exact P0a i1 ((V1b hc).2 (h.truth e (e0a g2)))
    refine lC S.k [.o 0] Z ⟨Z,U⟩ (wL (fun μk D ε w=>D=[]∧∃k:Nat,(k+μk=(x.steps.length))∧(f1a (x.steps) k (fun s=>T6a p t x.points s))∧(c3a prog 9 w b (B3a (l++[.string x.name])))∧(z0a [] b1 w)∧St [b] w0 w [(some g6,58,[.string x.name,.int .i64 x.points,.slice S0 P0 X0,.slice c1 H1 f1,.slice U0 R0 Z0,.slice T0 Q0 Y0,.bool x.asleep]),(some g4,122,[.slice Ac nc cc,.slice Am nm cm,.slice Al nl cl,.slice At nt ct])]∧Sl ε [(1,.int .i64 t),(4,.pointer (some ⟨g4,0,none⟩)),(6,.pointer (some ⟨g6,0,none⟩)),(10,.func (.func f) first caps),(68,.slice U0 R0 Z0),(69,.int .i64 R0),(70,.int .i64 k)]) (μ:=(x.steps.length)) ⟨Z,0,by omega,f1a.zero,hm,a0,S,Z⟩ ?_);rintro μk D ε w ⟨rfl,k,hk,e2,hm,a0,S,eZ⟩;refine wK eZ (wB0 Z U (fun B2=>?_) fun B2=>?_)
    ·obtain⟨s,v2,G2,_,h2,n1,u1,D1,A1,L0⟩:=RdS.get (x1) (k) (by omega);obtain⟨_,_,_,_,_,_,rfl,⟨_,_⟩,_⟩:=v1a.open_ L0;refine lO (S.k.b (A1.keep (S.keepM.mono b0) u1)) [.x v2 G2,.v 0] Z ⟨⟨Z,D1⟩,⟨n1,by omega⟩,U⟩ (h0a S e6b Z Z ?_);intro O2 R2 O1 U1 p2;have z0:=Nat.le_trans a0.size p2;replace a0:=a0.trans U1;replace hm:=hm.keep U1 (List.not_mem_nil);refine lO0 Z U (b0a (kk:=0) (vs:=[_,_,_,_,_,_,_,_,_,_,_]) O1 U6b Z Z Z Z Z Z Z ?_);intro j2 c0 v0;dsimp only[d0a,List.set] at c0;replace a0:=a0.fresh v0 (by first|exact z0);replace hm:=hm.keep v0 (fun hh=>by rw[List.mem_singleton] at hh;exact hm.ne (O1.blk 0 Z) hh);refine lO c0.k [.w 2,.w 1,.w 0] Z ⟨⟨Z,by rfl⟩,⟨Z,Z⟩,⟨Z,Z⟩,U⟩ (p0a c0 V7c Z Z (h4c p t x s M _ _ _ _ (hP.keep (c0.keepM.mono b0)) (v1a.keep (c0.keepM.mono b0) _ _ L0) hc (hK.keep (c0.keepM.mono b0)) (E0 _ c0.size) (M0a.keep (c0.keepM.mono b0) _ _ hT) (by omega) (by omega)) ?_);rintro P2 U2 ⟨_,rfl,N0⟩ R1 Y1;replace a0:=a0.trans Y1;replace hm:=hm.keep Y1 (List.not_mem_nil);refine lB0 Z U (fun C2=>?_) fun C2=>?_
     ·refine lT2 Z U Z ⟨⟨_,_,Z,iff_of_false (by omega) (fun hh=>?_),fun he=>absurd he (by omega)⟩,R1.below⟩;obtain⟨h,hn⟩:=hh;have q1:=h.points;have q2:=h.asserts;have q3:=h.nmod
      (have z:=N0.2 (h.steps s (e0a h2));omega)
     refine lP0 Z ⟨by omega,U⟩ ⟨μk-1,by omega,Z,(k+1),(by omega),(e2.succ h2 (N0.1 (by omega))),(hm),(a0),R1.tail,Z⟩
    refine lC S.k [.o 0] Z ⟨Z,U⟩ (wL (fun μk D ε w=>D=[]∧∃k:Nat,(k+μk=(x.loops.length))∧(f1a (x.loops) k (fun l=>J7b p t x.points l))∧(c3a prog 9 w b (B3a (l++[.string x.name])))∧(z0a [] b1 w)∧St [b] w0 w [(some g6,58,[.string x.name,.int .i64 x.points,.slice S0 P0 X0,.slice c1 H1 f1,.slice U0 R0 Z0,.slice T0 Q0 Y0,.bool x.asleep]),(some g4,122,[.slice Ac nc cc,.slice Am nm cm,.slice Al nl cl,.slice At nt ct])]∧Sl ε [(4,.pointer (some ⟨g4,0,none⟩)),(6,.pointer (some ⟨g6,0,none⟩)),(10,.func (.func f) first caps),(86,.slice T0 Q0 Y0),(87,.int .i64 Q0),(88,.int .i64 k)]) (μ:=(x.loops.length)) ⟨Z,0,by omega,f1a.zero,hm,a0,S,Z⟩ ?_);rintro μk D ε w ⟨rfl,k,hk,a2,hm,a0,S,eZ⟩;refine wK eZ (wB0 Z U (fun D2=>?_) fun D2=>?_)
    ·obtain⟨lp,w2,H2,_,i0,o1,v1,E1,B1,G1⟩:=RdS.get (s1) (k) (by omega);obtain⟨_,_,_,_,_,_,rfl,_,H0,I0,_⟩:=Y4a.open_ G1;refine lO (S.k.b (B1.keep (S.keepM.mono b0) v1)) [.x w2 H2,.v 0] Z ⟨⟨Z,E1⟩,⟨o1,by omega⟩,U⟩ (h0a S X0d Z Z ?_);intro g17 S2 P1 V1 r2;have A0:=Nat.le_trans a0.size r2;replace a0:=a0.trans V1;replace hm:=hm.keep V1 (List.not_mem_nil);refine b0a (kk:=0) (vs:=[_,_,_,_,_,_]) P1 O0d Z Z Z Z Z Z Z ?_;intro m2 m0 x0;dsimp only[d0a,List.set] at m0;replace a0:=a0.fresh x0 (by first|exact A0);replace hm:=hm.keep x0 (fun hh=>by rw[List.mem_singleton] at hh;exact hm.ne (P1.blk 0 Z) hh);refine lO0 Z U (S1a Z Z ?_);refine lO m0.k [.o 0,.o 1] Z ⟨Z,Z,U⟩ (f0a m0 f3a Z Z (z2a _ _ _) (fun j1 L2 F0 W0=>?_) (fun j1 L2 F0 W0=>?_))
     ·replace a0:=a0.trans W0;replace hm:=hm.keep W0 (List.not_mem_nil);refine lO F0.k [.o 0] Z ⟨Z,U⟩ (f0a F0 e7b Z Z (M4a M _ _ _ (H0.keep (F0.keepM.mono b0))) (fun C0 I1 e0 n0=>?_) (fun C0 I1 e0 n0=>?_))
      ·replace a0:=a0.trans n0;replace hm:=hm.keep n0 (List.not_mem_nil);refine lO e0.k [.o 0] Z ⟨Z,U⟩ ?_;have r1:w0.heap.size≤g17:=by have:=S.size;omega
       refine f0a e0 I7a Z Z (Q4a M _ _ _ lp.body (T9c x.points lp.head) (H0.keep (e0.keepM.mono b0)) (Z3b (e0.cell 1 Z Z) (e0.cell 0 Z Z) (X7a hM E2) (X7a hM r1)) (E0 _ e0.size)) (fun r0 J1 f0 o0=>?_) (fun r0 J1 f0 o0=>?_)
       ·replace a0:=a0.trans o0;replace hm:=hm.keep o0 (List.not_mem_nil);refine lO f0.k [.o 0,.o 2] Z ⟨Z,Z,U⟩ (f0a f0 w0b Z Z (H3a lp.variant M _ _ _ p.cells false (RdE.keep (f0.keepM.mono b0) _ _ I0) (hC.keep (f0.keepM.mono b0)) (hK.keep (f0.keepM.mono b0))) (fun s0 K1 g0 p0=>?_) (fun s0 K1 g0 p0=>?_))
        ·replace a0:=a0.trans p0;replace hm:=hm.keep p0 (List.not_mem_nil);refine lO g0.k [.o 0] Z ⟨Z,U⟩ (f0a g0 g8a Z Z (b6a lp.variant M _ _ _ (P0b p t) (RdE.keep (g0.keepM.mono b0) _ _ I0) (hq.keep a0.of_nil) (hK.keep (g0.keepM.mono b0)) (E0 _ g0.size)) (fun t0 M1 B0 q0=>?_) (fun t0 M1 B0 q0=>?_))
         ·replace a0:=a0.trans q0;replace hm:=hm.keep q0 (List.not_mem_nil);refine lP0 Z ⟨by omega,U⟩ ?_;refine⟨μk-1,by omega,Z,(k+1),(by omega),(a2.succ i0 (⟨of_decide_eq_true j1,d1a C0,fun c y1=>(by have z:=of_decide_eq_true (p:=(0≤c∧c<x.points)∧c≠lp.head) (List.all_eq_true.1 r0 c y1);omega),s0,(J6a hc s0).1 t0⟩)),(hm),(a0),B0.tail,Z⟩
         replace hm:=hm.keep q0 (List.not_mem_nil);refine lT2 Z U Z ⟨⟨_,_,Z,iff_of_false (by omega) (fun hh=>?_),fun he=>absurd he (by omega)⟩,B0.below⟩;obtain⟨h,hn⟩:=hh;have q1:=h.points;have q2:=h.asserts;have q3:=h.nmod
         (have zl:=h.loops lp (e0a i0)
          (have z:=(J6a hc zl.variant.1).2 zl.variant.2;rw[z] at t0;cases t0;done))
        replace hm:=hm.keep p0 (List.not_mem_nil);refine lT2 Z U Z ⟨⟨_,_,Z,iff_of_false (by omega) (fun hh=>?_),fun he=>absurd he (by omega)⟩,g0.below⟩;obtain⟨h,hn⟩:=hh;have q1:=h.points;have q2:=h.asserts;have q3:=h.nmod
        (have zl:=h.loops lp (e0a i0)
         (have z:=zl.variant.1;rw[s0] at z;cases z;done))
       replace hm:=hm.keep o0 (List.not_mem_nil);refine lT2 Z U Z ⟨⟨_,_,Z,iff_of_false (by omega) (fun hh=>?_),fun he=>absurd he (by omega)⟩,f0.below⟩;obtain⟨h,hn⟩:=hh;have q1:=h.points;have q2:=h.asserts;have q3:=h.nmod
       (have zl:=h.loops lp (e0a i0)
        (have z:lp.body.all (T9c x.points lp.head)=true:=List.all_eq_true.2 fun c y1=>decide_eq_true (by have:=zl.body c y1;omega)
         rw[z] at r0;cases r0;done))
      replace hm:=hm.keep n0 (List.not_mem_nil);refine lT2 Z U Z ⟨⟨_,_,Z,iff_of_false (by omega) (fun hh=>?_),fun he=>absurd he (by omega)⟩,e0.below⟩;obtain⟨h,hn⟩:=hh;have q1:=h.points;have q2:=h.asserts;have q3:=h.nmod
      (have zl:=h.loops lp (e0a i0)
       exact P0a C0 zl.up)
     replace hm:=hm.keep W0 (List.not_mem_nil);refine lT2 Z U Z ⟨⟨_,_,Z,iff_of_false (by omega) (fun hh=>?_),fun he=>absurd he (by omega)⟩,F0.below⟩;obtain⟨h,hn⟩:=hh;have q1:=h.points;have q2:=h.asserts;have q3:=h.nmod
     (have zl:=h.loops lp (e0a i0)
      exact of_decide_eq_false j1 zl.head)
    refine lT2 Z U Z ⟨⟨_,_,Z,iff_of_true (by omega) ⟨⟨d1a g1,⟨by omega,by omega⟩,b2.2.1,b2.2.2,by omega,by omega,fun m F1=>?_,Z1.all (by omega),e2.all (by omega),a2.all (by omega)⟩,d2⟩,fun _=>hm⟩,S.below⟩;have z:=of_decide_eq_true (p:=0≤m∧m<(nm:Int)) (List.all_eq_true.1 a1 m F1);unfold O1a;omega
   refine lT2 Z U Z ⟨⟨_,_,Z,iff_of_false (by omega) (fun hh=>?_),fun he=>absurd he (by omega)⟩,D0.below⟩;obtain⟨h,hn⟩:=hh;have q1:=h.points;have q2:=h.asserts;have q3:=h.nmod
   (have z:x.modules.all (T2d nm)=true:=List.all_eq_true.2 fun m F1=>decide_eq_true (by have:=h.modules m F1;unfold O1a at this;omega)
    rw[z] at a1;cases a1;done)
  refine D0a (hv:=Z) (v:=.bool _) Z ?_;refine lT2 Z U Z ⟨⟨_,_,Z,iff_of_false (by omega) (fun hh=>?_),fun he=>absurd he (by omega)⟩,j0.below⟩;obtain⟨h,hn⟩:=hh;have q1:=h.points;have q2:=h.asserts;have q3:=h.nmod;exact hn (O0.1 J0)
 refine lT2 Z U Z ⟨⟨_,_,Z,iff_of_false (by omega) (fun hh=>?_),fun he=>absurd he (by omega)⟩,V0.below⟩;obtain⟨h,hn⟩:=hh;have q1:=h.points;have q2:=h.asserts;have q3:=h.nmod;exact P0a g1 h.name
def g8b(p:i0a)(k:Nat):Prop:=if k=0 then k8a p else if k=1 then L4b p else v0b p
theorem P1c(k:Nat)(hk:k<3)(p:i0a)(M:List Nat)(w0:World)(cs:List Value)(hP:X0a M w0 p cs)(hN:c5a p)(hc:1≤k→k8a p)(hK:f2a M w0)(hM:∀g∈M,g<w0.heap.size):
 O0a prog (A3b k) #[.agg cs.toArray] w0 fun v w'=>(∃a,v=.int .i64 a∧(a=0↔g8b p k))∧Below w0.heap.size w0 w':=by
 rcases(show k=0∨k=1∨k=2 by omega) with e|e|e<;>subst e
 ·exact Z0c p M w0 cs hP hN
 ·exact C5b p M w0 cs hP hN (hc (by omega)).1 hK hM
 ·exact d2c p M w0 cs hP (hc (by omega)).1 hK hM
theorem i4b(p:i0a)(M:List Nat)(w0:World)(cs:List Value)(hP:X0a M w0 p cs)(hN:c5a p)(hK:f2a M w0)(hM:∀g∈M,g<w0.heap.size):
 O0a prog 30 #[.agg cs.toArray] w0 fun v w'=>(∃a b c,v=.tuple #[.int .i64 a,.int .i64 b,.int .i64 c]∧(a=0↔L1a p)∧(a=0→b=-1∧c=-1))∧Below w0.heap.size w0 w':=by
 obtain⟨Ac,nc,cc,Am,nm,cm,Al,nl,cl,At,nt,ct,rfl,_,_,_,R0,_⟩:=hP.open_;have S:=St.refl w0;have C0:∀w':World,w0.heap.size≤w'.heap.size→∀g∈M,g<w'.heap.size:=fun w' h g hg=>by have:=hM g hg;omega
 refine a0a func30 Z ntmps30 Z ?_;refine wO0 Z U (q0a S Z ?_);intro g1 w1 S1 X1 G1;refine lO S1.k [.w 0] Z ⟨⟨Z,Z⟩,U⟩ (i1a W6c (vs:=[(0,.agg _)]) (cs:=[_,_,_,_]) Z Z Z Z ?_);refine h0a S1 v2d Z Z ?_;intro g5 w5 S5 X5 G5;refine b0a (kk:=0) (vs:=[_,_,_,_]) S5 A1d Z Z Z Z Z Z Z ?_;intro U0 e0 J0;dsimp only[d0a,List.set] at e0;refine lO e0.k [.w 0] Z ⟨⟨Z,Z⟩,U⟩ (p0a e0 D1d Z Z (e9b p M _ _ (hP.keep (e0.keep0 M))) ?_);rintro v20 V0 ⟨_,_,rfl,d0⟩ j0 Y0;refine lB0 Z U (fun L0=>?_) fun L0=>?_
 ·refine lR0 Z U (U0b Z ?_);refine⟨⟨_,_,_,Z,iff_of_false (by omega) (fun h=>?_),fun h=>absurd h (by omega)⟩,j0.fin⟩;have z1:=d0.2 (G8a h);omega
 refine lO j0.k [.w 0] Z ⟨⟨Z,Z⟩,U⟩ (h2a Z Z Z ?_);refine lO j0.k [.w 0] Z ⟨⟨Z,Z⟩,U⟩ (h2a Z Z Z ?_);refine lO j0.k [.w 0] Z ⟨⟨Z,Z⟩,U⟩ (h2a Z Z Z ?_);refine W0a (v:=.agg (F6b #[.slice Ac nc cc,.slice Am nm cm,.slice Al nl cl,.slice At nt ct])) (w':=V0) Z Z Z (by kernel_rfl) ?_;refine lC0 Z U (wL (fun μk D ε w=>D=[]∧∃k:Nat,(k+μk=(3))∧(∀j,j<k→g8b p j)∧St [] w0 w [(some g5,122,[.slice Ac nc cc,.slice Am nm cm,.slice Al nl cl,.slice At nt ct]),(some g1,27,[.slice Ac nc cc,.slice Am nm cm,.slice Al nl cl,.slice At nt ct])]∧Sl ε [(1,.pointer (some ⟨g1,0,none⟩)),(5,.pointer (some ⟨g5,0,none⟩)),(33,.agg (F6b #[.slice Ac nc cc,.slice Am nm cm,.slice Al nl cl,.slice At nt ct])),(34,.int .i64 k)]) (μ:=(3)) ⟨Z,0,by omega,(fun j h=>absurd h (by omega)),j0,Z⟩ ?_);rintro μk D ε w ⟨rfl,k,hk,n0,S,eZ⟩;refine wK eZ (wB0 Z U (fun N0=>?_) fun N0=>?_)
 ·refine lO0 Z U (p0b P8c Z Z (C9b (by omega)) Z ?_);refine lO0 Z U (Z1b (vs:=[.agg #[.slice Ac nc cc,.slice Am nm cm,.slice Al nl cl,.slice At nt ct]]) P5b Z Z Z (P1c k (by omega) p M _ _ (hP.keep (S.keep0 M)) hN (fun h1=>n0 0 (by omega)) (hK.keep (S.keep0 M)) (C0 _ S.size)) ?_);rintro b1 f1 ⟨⟨_,rfl,o0⟩,F0⟩;have z0:=S.later F0;refine lB0 Z U (fun O0=>?_) fun O0=>?_
  ·refine lR0 Z U (U0b Z ?_);refine⟨⟨_,_,_,Z,iff_of_false (by omega) (fun h=>?_),fun h=>absurd h (by omega)⟩,z0.fin⟩;have z1:=d0.2 (G8a h)
   (have z2:g8b p k:=by
     unfold g8b
     split
     ·exact⟨h.cells,h.cellNames⟩
     split
     ·exact⟨h.modules,h.moduleNames⟩
     ·exact⟨h.locks,h.lockCells⟩
    have z3:=o0.2 z2;omega)
  refine lP0 Z ⟨by omega,U⟩ ⟨μk-1,by omega,Z,(k+1),(by omega),?_,z0,Z⟩;intro j hj;by_cases v0:j=k
  ·subst v0;exact o0.1 (by omega)
  ·exact n0 j (by omega)
 have t0:k8a p:=n0 0 (by omega);have E0:L4b p:=n0 1 (by omega);have D0:v0b p:=n0 2 (by omega);refine lO0 Z U (n3a (k:=9) S Z ?_);intro f0 i1 A0 Z0 X0 b0;have u0:w0.heap.size≤f0:=by have:=S.size;omega
 refine lC A0.k [.o 1] Z ⟨Z,U⟩ (wL (fun μk D ε w=>D=[]∧∃k:Nat,(k+μk=(p.threads.length))∧(∀j x,p.threads[j]?=some x→j<k→B4a p j x)∧(((p.threads.take k).map fun c=>Value.string c.name).Nodup)∧(c3a prog 9 w f0 (B3a ((p.threads.take k).map fun c=>.string c.name)))∧St [] w0 w [(some g5,122,[.slice Ac nc cc,.slice Am nm cm,.slice Al nl cl,.slice At nt ct]),(some g1,27,[.slice Ac nc cc,.slice Am nm cm,.slice Al nl cl,.slice At nt ct])]∧Sl ε [(5,.pointer (some ⟨g5,0,none⟩)),(11,.map (some f0)),(45,.slice At nt ct),(46,.int .i64 nt),(47,.int .i64 k)]) (μ:=(p.threads.length)) ⟨Z,0,by omega,(fun j x _ h=>absurd h (by omega)),(by simp),(by simpa[B3a] using b0),A0,Z⟩ ?_);rintro μk D ε w ⟨rfl,k,hk,ht,hd,b0,S,eZ⟩;refine wK eZ (wB0 Z U (fun P0=>?_) fun P0=>?_)
 ·obtain⟨x,K0,T0,_,i0,r0,_,x0,s0,p0⟩:=RdS.get (R0) (k) (by omega);obtain⟨_,_,_,_,_,_,_,_,_,_,_,_,rfl,_⟩:=M0a.open_ p0;refine lO (S.k.a s0) [.x K0 T0,.v 0] Z ⟨⟨Z,x0⟩,⟨r0,by omega⟩,U⟩ (h0a S e7a Z Z ?_);intro a1 d1 y0 I0 W0;replace b0:=b0.keep I0 (List.not_mem_nil);refine lO0 Z U (b0a (kk:=0) (vs:=[_,_,_,_,_,_,_]) y0 Y6a Z Z Z Z Z Z Z ?_);intro q0 a0 m0;dsimp only[d0a,List.set] at a0;replace b0:=b0.keep m0 (fun hh=>by rw[List.mem_singleton] at hh;exact b0.ne (y0.blk 0 Z) hh);refine lO a0.k [.w 1,.w 0] Z ⟨⟨Z,by rfl⟩,⟨Z,Z⟩,U⟩ ?_;have c0:∀g∈f0::M,g∈M∨w0.heap.size≤g:=fun g hg=>by exact(List.mem_cons.1 hg).elim (fun h=>.inr (by omega)) .inl
  have S0:∀g∈f0::M,g<q0.heap.size:=fun g hg=>by exact(List.mem_cons.1 hg).elim (fun h=>h▸b0.lt) (C0 _ a0.size g)
  refine V1a I1d Z Z (A9b p k x f0 _ (f0::M) _ _ _ ((hP.more c0).keep (a0.keep0 _)) (M0a.keep (a0.keep0 _) _ _ (M0a.more c0 _ _ p0)) hN t0.1 (d0.1 (by omega)) ((hK.more c0).keep (a0.keep0 _)) S0 (by simp) i0 b0) ?_;rintro c1 j1 ⟨⟨_,_,rfl,g0,H0⟩,G0⟩;have B0:=a0.turned b0 (.inl u0) G0;refine lB0 Z U (fun Q0=>?_) fun Q0=>?_
  ·refine lR0 Z U (U0b Z ?_);refine⟨⟨_,_,_,Z,iff_of_false (by omega) (fun h=>?_),fun h=>absurd h (by omega)⟩,B0.fin⟩;have z1:=d0.2 (G8a h)
   (have z3:=g0.2 ⟨h.thread i0,g4a (f:=fun(c:G1a)=>Value.string c.name) (h.threadNames.imp fun h e=>h (by injection e)) i0⟩;omega)
  refine lP0 Z ⟨by omega,U⟩ ?_;refine⟨μk-1,by omega,Z,(k+1),(by omega),?_,?_,((by rw[t0a i0,List.map_append];exact H0 (by omega))),B0.tail,Z⟩
  ·intro j y hy hj;by_cases v0:j=k
   ·subst v0;rw[i0] at hy;cases hy;exact(g0.1 (by omega)).1
   ·exact ht j y hy (by omega)
  ·rw[t0a i0,List.map_append,List.map_singleton,List.nodup_append];exact⟨hd,by simp,fun a ha b hb he=>by rw[List.mem_singleton.1 hb] at he;exact(g0.1 (by omega)).2 (he▸ha)⟩
 refine lR0 Z U (U0b Z ?_);refine⟨⟨_,_,_,Z,iff_of_true (by omega) ?_,fun _=>⟨Z,Z⟩⟩,S.fin⟩;have h1:=d0.1 (by omega);rw[List.take_of_length_le (by omega)] at hd;exact⟨h1.1,h1.2.1,h1.2.2.1,h1.2.2.2.1,t0.1,t0.2,E0.1,E0.2,D0.1,D0.2,fun t h=>ht t _ (List.getElem?_eq_getElem h) (by omega),(List.pairwise_map.1 hd).imp fun h e=>h (by rw[e])⟩
theorem L1a.named{p:i0a}(h:L1a p):c5a p:=by
 refine⟨fun c hc=>?_,fun m hm=>?_,fun t ht=>?_⟩
 ·have:=(h.cells c hc).name.2.1;omega
 ·have h1:=(h.modules m hm).name.2.1;have h2:=(h.modules m hm).owner.2.1;omega
 ·obtain⟨i,hi,rfl⟩:=List.getElem_of_mem ht;have:=(h.threads i hi).name.2.1;omega
theorem q7a(p:i0a)(M:List Nat)(w0:World)(cs:List Value)(hP:X0a M w0 p cs)(hp:L1a p)(hK:f2a M w0)(hM:∀g∈M,g<w0.heap.size):
 O0a prog 30 #[.agg cs.toArray] w0 fun v w'=>v=.tuple #[.int .i64 0,.int .i64 (-1),.int .i64 (-1)]∧Below w0.heap.size w0 w' :=
 (i4b p M w0 cs hP (L1a.named hp) hK hM).mono fun _ _ ⟨⟨a,b,c,h1,h2,h3⟩,hb⟩=>by
   obtain⟨rfl,rfl⟩:=h3 (h2.2 hp);obtain rfl:=h2.2 hp;exact⟨h1,hb⟩
def e2a(p:i0a):D1a:=⟨p.cells.map z1a.init,p.threads.map (fun t=>if t.asleep then -1 else 0),p.threads.map (fun _=>[])⟩
def q4b(mem:List Int)(e:B1a):List Int:=(e.cells.zip e.values).foldl (fun m x=>m.set x.1.toNat x.2) mem
def R6b(c:D1a)(t:Nat):List Int:=(c.buf.getD t []).foldl q4b c.mem
def D2d(s:List p1a)(v mem:List Int):List Int:=s.foldl (fun m a=>m.set a.cell.toNat (a.to.evl v v)) mem
def U2d(p:i0a)(s:List p1a)(v:List Int):B1a:=⟨(s.filter fun a=>m1a p.cells a.cell=-1).map p1a.cell,(s.filter fun a=>m1a p.cells a.cell=-1).map fun a=>a.to.evl v v⟩
def K3a(p:i0a)(model:Int)(c:D1a)(t:Nat)(s:h1a):Bool :=
 decide (c.at_.getD t 0=s.frm)&&(decide (s.guard.evl (R6b c t) (R6b c t)=1) &&
  (if s.kind=3 then decide (model=0∨((c.buf.getD t []).length<3∧(s.release=true→c.buf.getD t []=[])))
   else if s.kind=6 then decide (c.buf.getD t []=[]∧c.at_.getD s.target.toNat 0=-1)
   else if s.kind=7 then decide (c.buf.getD t []=[]∧c.at_.getD s.target.toNat 0=(p.threads.getD s.target.toNat ⟨ByteArray.empty,0,[],[],[],[],false⟩).points-1∧c.buf.getD s.target.toNat []=[])
   else if s.kind=1∨s.kind=2 then true else decide (c.buf.getD t []=[])))
def z3d(a b:B1a):Bool:=a.cells.any fun x=>b.cells.contains x
def U1c(model:Int)(l:List B1a)(i:Nat):Bool:=decide (i=0)||(decide (model=2)&&(List.range i).all fun k=>match l[k]?,l[i]? with|some a,some b=>!z3d a b|_,_=>true)
def z4a(p:i0a)(t:Nat):List h1a:=(p.threads.getD t ⟨ByteArray.empty,0,[],[],[],[],false⟩).steps
def n9a(p:i0a)(model:Int)(c:D1a)(t:Nat):List F2a :=
 ((List.range (z4a p t).length).filter fun i=>match (z4a p t)[i]? with|some s=>K3a p model c t s|none=>false).map (fun(i:Nat)=>(⟨t,i,0⟩:F2a)) ++
 ((List.range (c.buf.getD t []).length).filter (U1c model (c.buf.getD t []))).map (fun(i:Nat)=>(⟨t,-1,((c.buf.getD t []).getD i ⟨[],[]⟩).cells.getD 0 0⟩:F2a))
def X6a(p:i0a)(model:Int)(c:D1a):List F2a:=(List.range p.threads.length).flatMap (n9a p model c)
def atC(c:D1a)(t:Nat)(s:h1a):List Int:=if s.kind=6 then(c.at_.set t s.to).set s.target.toNat 0 else c.at_.set t s.to
def Q2d(p:i0a)(model:Int)(c:D1a)(t:Nat)(s:h1a):D1a :=
 if s.kind=3∧model≠0 then⟨D2d (s.set.filter fun a=>m1a p.cells a.cell≠-1) (R6b c t) c.mem,atC c t s,c.buf.set t (c.buf.getD t []++[U2d p s.set (R6b c t)])⟩
 else⟨D2d s.set (R6b c t) c.mem,atC c t s,c.buf⟩
def B6c(c:D1a)(t i:Nat):D1a:=⟨q4b c.mem ((c.buf.getD t []).getD i ⟨[],[]⟩),c.at_,c.buf.set t ((c.buf.getD t []).eraseIdx i)⟩
def doC(p:i0a)(model:Int)(c:D1a)(x:F2a):D1a :=
 if x.step=-1 then B6c c x.thread.toNat (((c.buf.getD x.thread.toNat []).findIdx? fun e=>e.cells.getD 0 0=x.cell).getD 0)
 else match (z4a p x.thread.toNat)[x.step.toNat]? with|some s=>Q2d p model c x.thread.toNat s|none=>c
section
variable {α:Type} [DecidableEq α] (succ:α→List α) (a:α)
inductive E2b (succ:α→List α) (a:α):α→Prop
 | start:E2b succ a a
 | next {c d:α} (h:E2b succ a c) (hd:d∈succ c):E2b succ a d
end
theorem E2b.to{α:Type}{succ a0:α→List α}{a x:α}(hx:E2b succ a x)(h:∀c d,E2b succ a c→E2b a0 a c→d∈succ c→E2b a0 a d):E2b a0 a x:=by
 induction hx with
 | start=>exact .start
 | next hc hd ih=>exact h _ _ hc ih hd
def O9b(e:B1a):List Int:=(e.cells.length:Int)::(e.cells.zip e.values).flatMap fun x=>[x.1,x.2]
def w1c(b:List B1a):List Int:=(b.length:Int)::b.flatMap O9b
def B1a.even(e:B1a):Prop:=e.values.length=e.cells.length
structure D1a.Shape (c:D1a) (n t:Nat):Prop where
 mem:c.mem.length=n
 at_:c.at_.length=t
 buf:c.buf.length=t
 even:∀b∈c.buf,∀e∈b,e.even
theorem m2a{e:E}{d0:Int}(h:e.good d0=true)(c0 b0:List Int):0≤e.val c0 b0∧e.val c0 b0<o2a e.w.toNat:=by
 obtain⟨a0,_⟩:=Z0a h;have hw:e.w≤8:=a0.2.1;have hb:∀a,0≤D3b a (o2a e.w.toNat-1)∧D3b a (o2a e.w.toNat-1)<o2a e.w.toNat:=fun a=>by
  rw[Z4a _ _ (by omega)];have:=t5a e.w.toNat;exact⟨Int.emod_nonneg _ (by omega),Int.emod_lt_of_pos _ this⟩
 rw[E.val_def];by_cases o1:e.op=1
 ·rw[if_pos o1];have:=(a0b o1).1 a0;omega
 ·rw[if_neg o1]
  split
  ·exact hb _
  ·split
   ·exact hb _
   ·exact hb _
structure c1c (p:i0a) (m:List Int):Prop where
 len:m.length=p.cells.length
 vals:∀(i:Nat) (v:Int),m[i]?=some v→0≤v∧v<o2a (wAt p.cells i).toNat
theorem c1c.set{p:i0a}{m:List Int}(h:c1c p m){k:Nat}{v:Int}(hv:0≤v∧v<o2a (wAt p.cells k).toNat):c1c p (m.set k v):=by
 refine⟨by rw[List.length_set];exact h.len,fun i x hi=>?_⟩;rw[List.getElem?_set] at hi
 split at hi
 ·rename_i hk;subst hk
  split at hi
  ·cases hi;exact hv
  ·cases hi
 ·exact h.vals i x hi
structure G1c (p:i0a) (e:B1a):Prop where
 some_:e.cells≠[]
 even:e.even
 cells:∀(i:Nat) (n:Int),e.cells[i]?=some n→O1a n p.cells.length∧m1a p.cells n=-1∧d8a p.cells n=decide (0<i)
 vals:∀x∈e.cells.zip e.values,0≤x.2∧x.2<o2a (wAt p.cells x.1).toNat
 once:e.cells.Nodup
structure U2c (p:i0a) (c:D1a):Prop where
 mem:c1c p c.mem
 nat:c.at_.length=p.threads.length
 atr:∀(t:Nat) (x:Int),c.at_[t]?=some x→∀th,p.threads[t]?=some th→-1≤x∧x<th.points∧(x=-1→th.asleep=true)
 nbuf:c.buf.length=p.threads.length
 bufs:∀(t:Nat) (b:List B1a),c.buf[t]?=some b→b.length≤3∧(∀e∈b,G1c p e)∧(c.at_[t]?=some (-1)→b=[])
theorem H4b{p:i0a}(hp:L1a p):U2c p (e2a p):=by
 refine⟨⟨by simp[e2a],fun i v hi=>?_⟩,by simp[e2a],fun t x hx th a0=>?_,by simp[e2a],fun t b hb=>?_⟩
 ·simp only[e2a,List.getElem?_map,Option.map_eq_some_iff] at hi;obtain⟨c,hc,rfl⟩:=hi;have h:=(hp.cells c (List.mem_of_getElem? hc)).init;have hw:wAt p.cells i=c.w:=by unfold wAt;simp[hc]
  rw[hw];exact h
 ·simp only[e2a,List.getElem?_map,a0,Option.map_some,Option.some.injEq] at hx;have b0:=(List.getElem?_eq_some_iff.1 a0).1;have he:=(List.getElem?_eq_some_iff.1 a0).2;have h:=(hp.threads t b0).points;rw[he] at h;subst hx;cases ha:th.asleep with
  | true=>simp;omega
  | false=>simp;omega
 ·simp only[e2a,List.getElem?_map,Option.map_eq_some_iff] at hb;obtain⟨_,_,rfl⟩:=hb;simp
theorem U2c.shape{p:i0a}{c:D1a}(hf:U2c p c):c.Shape p.cells.length p.threads.length :=
 ⟨hf.mem.len,hf.nat,hf.nbuf,fun b hb e he=>by
  obtain⟨t,ht,rfl⟩:=List.getElem_of_mem hb;exact((hf.bufs t _ (List.getElem?_eq_getElem ht)).2.1 e he).even⟩
theorem Z6a:∀(n:Nat) (l:List Int),l.Nodup→(∀x∈l,0≤x∧x<n)→l.length≤n
 | 0,l,_,h=>by
   cases l with
   | nil=>simp
   | cons x l=>have:=h x (by simp);omega
 | n+1,l,hd,h=>by
   by_cases hn:(n:Int)∈l
   ·have h1:=Z6a n (l.erase (n:Int)) (hd.erase _) (fun x hx=>by
     obtain⟨_,h3⟩:=(hd.mem_erase_iff).1 hx;have:=h x h3;omega)
    rw[List.length_erase_of_mem hn] at h1;omega
   ·have h1:=Z6a n l hd (fun x hx=>by
     have:=h x hx;have:x≠(n:Int):=fun e=>hn (e▸hx);omega)
    omega
theorem G1c.len{p:i0a}{e:B1a}(h:G1c p e):e.cells.length≤p.cells.length :=
 Z6a _ _ h.once fun x hx=>by
  obtain⟨i,hi,rfl⟩:=List.getElem_of_mem hx;exact(h.cells i _ (List.getElem?_eq_getElem hi)).1
theorem t0d{p:i0a}(hp:L1a p)(x:Int):wAt p.cells x≤8:=by
 unfold wAt
 split
 ·cases h:p.cells[x.toNat]? with
  | none=>simp
  | some c=>simpa using(hp.cells c (List.mem_of_getElem? h)).w.2
 ·omega
theorem a2c{p:i0a}(hp:L1a p)(x:Int):o2a (wAt p.cells x).toNat≤256:=by
 have h:=t0d hp x;have h2:(2:Nat) ^ (wAt p.cells x).toNat≤2 ^ 8:=Nat.pow_le_pow_right (by omega) (by omega);rw[D2a];omega
theorem I8b{p:i0a}(hp:L1a p){c:D1a}(hf:U2c p c):(∀x∈c.mem,0≤x∧x≤255)∧(∀x∈c.at_,-1≤x∧x≤47)∧∀x∈c.buf.flatMap w1c,0≤x∧x≤255:=by
 refine⟨fun x hx=>?_,fun x hx=>?_,fun x hx=>?_⟩
 ·obtain⟨i,hi,rfl⟩:=List.getElem_of_mem hx;have:=hf.mem.vals i _ (List.getElem?_eq_getElem hi);have:=a2c hp i;omega
 ·obtain⟨t,ht,rfl⟩:=List.getElem_of_mem hx;have a0:t<p.threads.length:=by rw[←hf.nat];exact ht
  have h1:=hf.atr t _ (List.getElem?_eq_getElem ht) _ (List.getElem?_eq_getElem a0);have h2:=(hp.threads t a0).points;omega
 ·obtain⟨b,hb,hx⟩:=List.mem_flatMap.1 hx;obtain⟨t,ht,rfl⟩:=List.getElem_of_mem hb;obtain⟨h1,h2,_⟩:=hf.bufs t _ (List.getElem?_eq_getElem ht);unfold w1c at hx;rcases List.mem_cons.1 hx with rfl|hx
  ·omega
  ·obtain⟨e,he,hx⟩:=List.mem_flatMap.1 hx;have hE:=h2 e he;unfold O9b at hx;rcases List.mem_cons.1 hx with rfl|hx
   ·have:=hE.len;have:=hp.ncells;omega
   ·obtain⟨y,hy,hx⟩:=List.mem_flatMap.1 hx;have h3:=hE.vals y hy;have h4:=a2c hp y.1;obtain⟨i,hi,b0⟩:=List.getElem_of_mem (List.of_mem_zip (a:=y.1) (b:=y.2) hy).1;have h5:=(hE.cells i y.1 (by rw[List.getElem?_eq_getElem hi,b0])).1;have h6:=hp.ncells;obtain⟨_,_⟩:=h5;simp only[List.mem_cons,List.not_mem_nil,or_false] at hx;rcases hx with rfl|rfl<;>omega
section
variable {M:List Nat} {w:World}
theorem i2a.open_{c:D1a}{cs:List Value}(h:i2a M w c cs):∃Am nm cm Aa na ca Ab nb cb,cs=[.slice Am nm cm,.slice Aa na ca,.slice Ab nb cb] ∧
 RdI M w (.slice Am nm cm) c.mem∧RdI M w (.slice Aa na ca) c.at_∧S2d M w (.slice Ab nb cb) c.buf ∧
 nm=c.mem.length∧na=c.at_.length∧nb=c.buf.length∧nm≤140737488355328∧na≤140737488355328∧nb≤140737488355328:=by
 obtain⟨_,_,_,rfl,h1,h2,h3⟩:=h;obtain⟨Am,nm,cm,rfl⟩:=h1.form;obtain⟨Aa,na,ca,rfl⟩:=h2.form;obtain⟨Ab,nb,cb,rfl⟩:=h3.form;exact⟨_,_,_,_,_,_,_,_,_,Z,h1,h2,h3,h1.len.1,h2.len.1,h3.len.1,h1.len.2.2,h2.len.2.2,h3.len.2.2⟩
theorem I3b.open_{b:List B1a}{cs:List Value}(h:I3b M w cs b):∃A n c,cs=[.slice A n c]∧C3d M w (.slice A n c) b∧n=b.length∧n≤140737488355328:=by
 obtain⟨_,rfl,h1⟩:=h;obtain⟨A,n,c,rfl⟩:=h1.form;exact⟨_,_,_,Z,h1,h1.len.1,h1.len.2.2⟩
theorem S2a.open_{e:B1a}{cs:List Value}(h:S2a M w cs e):∃Ac nc cc Av nv cv,cs=[.slice Ac nc cc,.slice Av nv cv]∧RdI M w (.slice Ac nc cc) e.cells∧RdI M w (.slice Av nv cv) e.values∧nc=e.cells.length∧nv=e.values.length∧nc≤140737488355328∧nv≤140737488355328:=by
 obtain⟨_,_,rfl,h1,h2⟩:=h;obtain⟨Ac,nc,cc,rfl⟩:=h1.form;obtain⟨Av,nv,cv,rfl⟩:=h2.form;exact⟨_,_,_,_,_,_,Z,h1,h2,h1.len.1,h2.len.1,h1.len.2.2,h2.len.2.2⟩
end
theorem W3d{cells:List z1a}{k:Nat}{c:z1a}(h:cells[k]?=some c):wAt cells (k:Int)=c.w:=R4a (by simpa using h)
structure InP (p:i0a) (M:List Nat) (w:World) (cs:List Value):Prop where
 rd:X0a M w p cs
 ok:L1a p
 msk:f2a M w
 lt:∀g∈M,g<w.heap.size
theorem InP.keep{p:i0a}{M:List Nat}{w w':World}{cs:List Value}(h:InP p M w cs)(hk:z0a M w w'):InP p M w' cs :=
 ⟨h.rd.keep hk,h.ok,h.msk.keep hk,fun g hg=>Nat.lt_of_lt_of_le (h.lt g hg) hk.size⟩
theorem i5a{w0 w:World}{L:List Ent}{g t k:Nat}{cs:List Value}{M:List Nat}(S:St [] w0 w L)(hk:L[k]?=some (some g,t,cs)):∀x∈g::M,x∈M∨w0.heap.size≤x:=fun x hx=>by
 rcases List.mem_cons.1 hx with rfl|h
 ·rcases S.new k hk with h|h
  ·exact .inr h
  ·cases h
 ·exact .inl h
theorem InP.add{p:i0a}{M:List Nat}{w0 w:World}{cs:List Value}(h:InP p M w0 cs){L:List Ent}{g t k:Nat}{a0:List Value}(S:St [] w0 w L)(hk:L[k]?=some (some g,t,a0)):InP p (g::M) w cs :=
 ⟨(h.rd.more (i5a S hk)).keep (S.keep0 _),h.ok,(h.msk.more (i5a S hk)).keep (S.keep0 _),fun x hx=>by
   rcases List.mem_cons.1 hx with rfl|hx
   ·exact S.lt k hk
   ·exact Nat.lt_of_lt_of_le (h.lt x hx) S.size⟩
theorem i2a.add{c:D1a}{M:List Nat}{w0 w:World}{cs:List Value}(h:i2a M w0 c cs){L:List Ent}{g t k:Nat}{a0:List Value}(S:St [] w0 w L)(hk:L[k]?=some (some g,t,a0)):i2a (g::M) w c cs :=
 (h.more (i5a S hk)).keep (S.keep0 _)
section
variable {H:Type} {enc:TypeId×Value→H} {P:Program} {W:World} {base:Nat} {sp:Nat→Bool} {held:Bool}
def E3a(P:Program)(t:TypeId)(d:DataW H):Prop:=∀m∈d.weights P t,m≤reachBytes
theorem u3a{n:Int}(h:(Lit.int .i64 n).wf=true):i64 n:=by
 simp[Lit.wf,IntKind.min,IntKind.max,IntKind.signed,IntKind.bits] at h;exact h
theorem o1c{a:Addr}{v:Value}(h:W.cell? a=some v):a=⟨a.block,a.off,none⟩:=by
 obtain⟨_,_,s⟩:=a;cases s with
 | none=>rfl
 | some x=>unfold World.cell? at h;split at h<;>simp at h
theorem S3b{e:TypeId}{l:List (DataW H)}{i:Nat}{d:DataW H}(hi:l[i]?=some d):∀m∈d.weights P e,m∈DataW.weightsAll P e l:=by
 induction l generalizing i with
 | nil=>simp at hi
 | cons x xs ih =>
   intro m hm;rw[DataW.weightsAll];cases i with
   | zero=>simp at hi;subst hi;exact List.mem_append_left _ hm
   | succ i=>exact List.mem_append_right _ (ih (by simpa using hi) m hm)
theorem Z2a{α:Type}{size t e:Nat}{fuel:Nat}{R:List Value→α→Prop}{v:Value}{x:DataW H×List MemPlace}(ht:P.underlying t=some (.slice e))(hc:P.cellsOf e=size)(m0:1≤P.bytesOf e)
 (n0:∀(n:Nat) (cs:List Value) (y:DataW H×List MemPlace),n<fuel→cs.length=size→DataW.trod enc P W base sp held n e cs=some y→E3a P e y.1→∃a,R cs a)
 (h:DataW.trod enc P W base sp held fuel t [v]=some x) (hw:E3a P t x.1) (hs:0<size:=by omega):∃l,RdS [] W size R v l:=by
 rcases DataW.trod_slice ht h with⟨h1,h2⟩|⟨a,len,f0,b0,rest,n,hf,h1,h2,hb,hl,hm,q0,e0,-,-⟩
 ·cases h1;exact⟨[],none,0,0,Z,Z,Nat.le_refl _,by unfold maxLen;omega,by omega,fun h=>absurd h (by omega)⟩
 ·cases h1;have j0:E3a P t (.slice (b0.map (·.1)) (rest.map (·.1))):=by rw[h2] at hw;exact hw
  have d0:len≤140737488355328:=by
   have:=j0 ((b0.length+rest.length)*P.bytesOf e) (by rw[DataW.weights,ht];simp);have h3:len*1≤(b0.length+rest.length)*P.bytesOf e:=Nat.mul_le_mul (by omega) m0;unfold reachBytes at this;omega
  have each:∀i,i<len→∃cs q,cs.length=size∧R cs q∧∀j,j<size→W.cell? ((a.add (i*size)).add j)=cs[j]?:=by
   intro i hi;have hg:=e0 i hi;have i0:i<b0.length:=by omega
   rw[List.getElem?_eq_getElem i0,Option.bind_eq_some_iff] at hg;obtain⟨cs,g0,s0⟩:=hg;rw[hc] at g0;obtain⟨-,c0,a0⟩:=World.cells?_some g0;obtain⟨q,hq⟩:=n0 n cs _ (by omega) c0 s0 (fun m r0=>by
    refine j0 m ?_;rw[DataW.weights,ht];refine List.mem_cons_of_mem _ (List.mem_append_left _ (S3b (i:=i) ?_ m r0));rw[List.getElem?_map,List.getElem?_eq_getElem i0];rfl)
   exact⟨cs,q,c0,hq,a0⟩
  by_cases h0:len=0
  ·subst h0;exact⟨[],some a,0,f0,Z,Z,hl,hm,by omega,fun h=>absurd h (by omega)⟩
  ·have ha:a=⟨a.block,a.off,none⟩:=by
    obtain⟨cs,q,c0,_,a0⟩:=each 0 (by omega);have:=a0 0 (by omega);rw[List.getElem?_eq_getElem (by omega)] at this;simp only[Nat.zero_mul,Addr.add_zero'] at this;exact o1c this
   let f:Fin len→α:=fun i=>Classical.choose (Classical.choose_spec (each i.1 i.2))
   have o0:∀i:Fin len,∃cs:List Value,cs.length=size∧R cs (f i)∧∀j,j<size→W.cell? ((a.add (i.1*size)).add j)=cs[j]?:=fun i =>
    ⟨Classical.choose (each i.1 i.2),Classical.choose_spec (Classical.choose_spec (each i.1 i.2))⟩
   refine⟨List.ofFn f,some a,len,f0,Z,by simp,hl,hm,d0,fun _=>⟨a.block,a.off,by rw[←ha],by simp,fun i x hx=>?_⟩⟩;have hi:i<len:=by have:=(List.getElem?_eq_some_iff.1 hx).1;simpa using this
   have t0:x=f ⟨i,hi⟩:=by
    rw[List.getElem?_eq_getElem (by simpa using hi)] at hx;simp at hx;exact hx.symm
   obtain⟨cs,c0,hR,a0⟩:=o0 ⟨i,hi⟩;refine⟨cs,c0,fun j u hj=>?_,by rw[t0];exact hR⟩;have p0:j<size:=by have:=(List.getElem?_eq_some_iff.1 hj).1;omega
   have:=a0 j p0;rw[hj] at this;rw[ha] at this;rw[Addr.add_lit,Addr.add_lit] at this;exact this
theorem n2b{t:TypeId}{fs:Array Field}{xs:List (DataW H×List MemPlace)}{i:Nat}{f:Field}{y:DataW H×List MemPlace}(ht:P.underlying t=some (.struct fs))(hw:E3a P t (.agg (xs.map (·.1))))(hf:fs[i]?=some f)(hy:xs[i]?=some y):E3a P f.type y.1:=fun m hm=>by
 refine hw m ?_;rw[DataW.weights,ht];refine DataW.weights_mem_each (j:=i) (t:=f.type) (d:=y.1) ?_ ?_ m hm
 ·rw[List.getElem?_map];simp[hf]
 ·rw[List.getElem?_map,hy];rfl
theorem E3d{l:List Value}(h:l.length=4):∃a0 a1 a2 a3,l=[a0,a1,a2,a3]:=by
 match l,h with
 | [a0,a1,a2,a3],_=>exact⟨a0,a1,a2,a3,Z⟩
theorem V3d{l:List Value}(h:l.length=5):∃a0 a1 a2 a3 a4,l=[a0,a1,a2,a3,a4]:=by
 match l,h with
 | [a0,a1,a2,a3,a4],_=>exact⟨a0,a1,a2,a3,a4,Z⟩
theorem Z2d{l:List Value}(h:l.length=6):∃a0 a1 a2 a3 a4 a5,l=[a0,a1,a2,a3,a4,a5]:=by
 match l,h with
 | [a0,a1,a2,a3,a4,a5],_=>exact⟨a0,a1,a2,a3,a4,a5,Z⟩
theorem S3d{l:List Value}(h:l.length=7):∃a0 a1 a2 a3 a4 a5 a6,l=[a0,a1,a2,a3,a4,a5,a6]:=by
 match l,h with
 | [a0,a1,a2,a3,a4,a5,a6],_=>exact⟨a0,a1,a2,a3,a4,a5,a6,Z⟩
theorem A0d{l:List Value}(h:l.length=11):∃a0 a1 a2 a3 a4 a5 a6 a7 a8 a9 b0,l=[a0,a1,a2,a3,a4,a5,a6,a7,a8,a9,b0]:=by
 match l,h with
 | [a0,a1,a2,a3,a4,a5,a6,a7,a8,a9,b0],_=>exact⟨a0,a1,a2,a3,a4,a5,a6,a7,a8,a9,b0,Z⟩
theorem R0a{t:TypeId}{fs:Array Field}{cs:List Value}{xs:List (DataW H×List MemPlace)}{n:Nat}(i ty d0:Nat)(c0:xs.length=fs.size)(b0:∀(i:Nat) (f:Field),fs[i]?=some f→DataW.trod enc P W base sp held n f.type ((cs.drop f.offset).take (P.cellsOf f.type))=xs[i]?)(ht:P.underlying t=some (.struct fs))(hw:E3a P t (.agg (xs.map (·.1))))(hf:(fs[i]?).map (fun f=>(f.type,f.offset))=some (ty,d0)):
 ∃y,DataW.trod enc P W base sp held n ty ((cs.drop d0).take (P.cellsOf ty))=some y∧E3a P ty y.1:=by
 cases a0:fs[i]? with
 | none=>rw[a0] at hf;cases hf
 | some f =>
   rw[a0] at hf;simp only[Option.map_some,Option.some.injEq,Prod.mk.injEq] at hf;obtain⟨rfl,rfl⟩:=hf;have hi:i<xs.length:=by rw[c0];exact(Array.getElem?_eq_some_iff.1 a0).1
   exact⟨xs[i],by rw[b0 i f a0,List.getElem?_eq_getElem hi],n2b ht hw a0 (List.getElem?_eq_getElem hi)⟩
end
section
variable {H:Type} {enc:TypeId×Value→H} {W:World} {base:Nat} {sp:Nat→Bool} {held:Bool}
theorem x3d{n:Int}(h:(Lit.int .u8 n).wf=true):0≤n∧n≤255:=by simpa[Lit.wf,IntKind.min,IntKind.max,IntKind.signed,IntKind.bits] using h
theorem L7b{t:TypeId}{s:ByteArray}{y:DataW H×List MemPlace}(hx:y=(.lit (.string s.data.toList),[]))(hw:E3a prog t y.1):s.size≤140737488355328:=by
 have h:=hw s.data.toList.length (by rw[hx];exact List.mem_singleton.2 Z);have e:s.data.toList.length=s.size:=Array.length_toList;unfold reachBytes at h;omega
theorem v5b{α:Type}{M:List Nat}{w:World}{size:Nat}{R:List Value→α→Prop}{Q:α→Prop}{v:Value}{l:List α}(h:RdS M w size R v l)(hq:∀cs x,R cs x→Q x):∀x∈l,Q x:=fun x hx=>by
 obtain⟨_,_,_,rfl⟩:=h.form;obtain⟨i,hi⟩:=List.mem_iff_getElem?.1 hx;obtain⟨_,_,_,cs,h1,-,-,-,-,h2⟩:=RdS.get h i (List.getElem?_eq_some_iff.1 hi).1;rw[hi] at h1;cases h1;exact hq _ _ h2
theorem g1b:prog.cellsOf 3=1:=by kernel_rfl
theorem O6b:prog.cellsOf 4=1:=by kernel_rfl
theorem A9a:prog.cellsOf 9=1:=by kernel_rfl
theorem c3:prog.cellsOf 3=1:=by kernel_rfl
theorem q0d:prog.cellsOf 36=1:=by kernel_rfl
theorem A6c:prog.cellsOf 38=4:=by kernel_rfl
theorem i0d:1≤prog.bytesOf 38:=of_decide_eq_true (by kernel_rfl)
theorem T3d:1≤prog.bytesOf 3:=of_decide_eq_true (by kernel_rfl)
theorem k4a:∀(fuel:Nat) (cs:List Value) (x:DataW H×List MemPlace),DataW.trod enc prog W base sp held fuel 38 cs=some x→E3a prog 38 x.1→∃e,RdE [] W e cs:=by
 intro fuel
 induction fuel using Nat.strongRecOn with
 | _ fuel ih =>
 intro cs x h hw;obtain⟨_,_,_,hx,hl,b0,a0⟩:=DataW.trod_struct Tryz.underlying38 h;rw[hx] at hw;rw[A6c] at hl;obtain⟨_,t0,-⟩:=R0a 0 3 0 b0 a0 Tryz.underlying38 hw Z;obtain⟨_,t1,-⟩:=R0a 1 3 1 b0 a0 Tryz.underlying38 hw Z;obtain⟨_,t2,-⟩:=R0a 2 3 2 b0 a0 Tryz.underlying38 hw Z;obtain⟨_,t3,w3⟩:=R0a 3 36 3 b0 a0 Tryz.underlying38 hw Z;simp only[c3,q0d] at t0 t1 t2 t3;obtain⟨_,_,_,_,rfl⟩:=E3d hl;simp only[List.drop_succ_cons,List.drop_zero,List.take_succ_cons,List.take_zero] at t0 t1 t2 t3;obtain⟨m0,e0,-,f0⟩:=DataW.trod_int Tryz.underlying3 t0;obtain⟨m1,e1,-,f1⟩:=DataW.trod_int Tryz.underlying3 t1;obtain⟨m2,e2,-,f2⟩:=DataW.trod_int Tryz.underlying3 t2;cases e0;cases e1;cases e2;obtain⟨ks,n0⟩:=Z2a (R:=fun cs e=>RdE [] W e cs) Tryz.underlying36 A6c i0d (fun k cs y hk _ hy hl=>ih k (by omega) cs y hy hl) t3 w3;obtain⟨A,k,c,rfl,hk,j0,i0,c0,d0⟩:=n0;refine⟨⟨m0,m1,m2,ks⟩,?_⟩;rw[RdE];refine⟨A,k,c,Z,u3a f0,u3a f1,u3a f2,hk,j0,i0,c0,fun h0=>?_⟩;obtain⟨b,o,hA,hb,d0⟩:=d0 h0;refine⟨b,o,hA,hb,fun i hi=>?_⟩;obtain⟨g0,-,hc,hr⟩:=d0 i ks[i] (List.getElem?_eq_getElem hi);exact⟨g0,hc,hr⟩
theorem n8a{fuel:Nat}{v:Value}{x:DataW H×List MemPlace}(h:DataW.trod enc prog W base sp held fuel 48 [v]=some x)(hw:E3a prog 48 x.1):∃l,RdI [] W v l :=
 Z2a Tryz.underlying48 c3 T3d (fun n cs y _ _ hy _=>by
  obtain⟨m,e,-,f⟩:=DataW.trod_int Tryz.underlying3 hy;exact⟨m,e,u3a f⟩) h hw
theorem m9b{fuel:Nat}{v:Value}{x:DataW H×List MemPlace}(h:DataW.trod enc prog W base sp held fuel 36 [v]=some x)(hw:E3a prog 36 x.1):∃l,B2d [] W v l :=
 Z2a Tryz.underlying36 A6c i0d (fun n cs y _ _ hy hl=>k4a n cs y hy hl) h hw
theorem s4a:prog.cellsOf 82=6:=by kernel_rfl
theorem t0c{fuel:Nat}{cs:List Value}{x:DataW H×List MemPlace}(h:DataW.trod enc prog W base sp held fuel 82 cs=some x)(hw:E3a prog 82 x.1):∃c,t2a cs c∧c.name.size≤140737488355328:=by
 obtain⟨_,_,_,hx,hl,b0,a0⟩:=DataW.trod_struct Tryz.underlying82 h;rw[hx] at hw;rw[s4a] at hl;obtain⟨_,t0,w0⟩:=R0a 0 9 0 b0 a0 Tryz.underlying82 hw Z;obtain⟨_,t1,-⟩:=R0a 1 3 1 b0 a0 Tryz.underlying82 hw Z;obtain⟨_,t2,-⟩:=R0a 2 3 2 b0 a0 Tryz.underlying82 hw Z;obtain⟨_,t3,-⟩:=R0a 3 3 3 b0 a0 Tryz.underlying82 hw Z;obtain⟨_,t4,-⟩:=R0a 4 4 4 b0 a0 Tryz.underlying82 hw Z;obtain⟨_,t5,-⟩:=R0a 5 3 5 b0 a0 Tryz.underlying82 hw Z;simp only[A9a,g1b,O6b] at t0 t1 t2 t3 t4 t5;obtain⟨_,_,_,_,_,_,rfl⟩:=Z2d hl;simp only[List.drop_succ_cons,List.drop_zero,List.take_succ_cons,List.take_zero] at t0 t1 t2 t3 t4 t5;obtain⟨m0,e0,s0,-⟩:=DataW.trod_string Tryz.underlying9 t0;obtain⟨m1,e1,-,f1⟩:=DataW.trod_int Tryz.underlying3 t1;obtain⟨m2,e2,-,f2⟩:=DataW.trod_int Tryz.underlying3 t2;obtain⟨m3,e3,-,f3⟩:=DataW.trod_int Tryz.underlying3 t3;obtain⟨m4,e4,-⟩:=DataW.trod_bool Tryz.underlying4 t4;obtain⟨m5,e5,-,f5⟩:=DataW.trod_int Tryz.underlying3 t5;cases e0;cases e1;cases e2;cases e3;cases e4;cases e5;exact⟨⟨m0,m1,m2,m3,m4,m5⟩,⟨Z,u3a f1,u3a f2,u3a f3,u3a f5⟩,L7b s0 w0⟩
theorem i3d:1≤prog.bytesOf 82:=of_decide_eq_true (by kernel_rfl)
theorem f9b{fuel:Nat}{v:Value}{x:DataW H×List MemPlace}(h:DataW.trod enc prog W base sp held fuel 22 [v]=some x)(hw:E3a prog 22 x.1):∃l,S2c [] W v l∧∀c∈l,c.name.size≤140737488355328:=by
 obtain⟨l,hl⟩:=Z2a Tryz.underlying22 s4a i3d (fun n cs y _ _ hy hl=>t0c hy hl) h hw;exact⟨l,hl.mono (fun _ _ h=>h.1),v5b hl (fun _ _ h=>h.2)⟩
theorem g2a:prog.cellsOf 38=4:=by kernel_rfl
theorem R3a:prog.cellsOf 63=5:=by kernel_rfl
theorem V6b{fuel:Nat}{cs:List Value}{x:DataW H×List MemPlace}(h:DataW.trod enc prog W base sp held fuel 63 cs=some x)(hw:E3a prog 63 x.1):∃c,I0a [] W cs c:=by
 obtain⟨_,_,_,hx,hl,b0,a0⟩:=DataW.trod_struct Tryz.underlying63 h;rw[hx] at hw;rw[R3a] at hl;obtain⟨_,t0,-⟩:=R0a 0 3 0 b0 a0 Tryz.underlying63 hw Z;obtain⟨_,t1,w1⟩:=R0a 1 38 1 b0 a0 Tryz.underlying63 hw Z;simp only[g1b,g2a] at t0 t1;obtain⟨_,_,_,_,_,rfl⟩:=V3d hl;simp only[List.drop_succ_cons,List.drop_zero,List.take_succ_cons,List.take_zero] at t0 t1;obtain⟨m0,e0,-,f0⟩:=DataW.trod_int Tryz.underlying3 t0;obtain⟨x1,h1⟩:=k4a _ _ _ t1 w1;cases e0;exact⟨⟨m0,x1⟩,_,Z,u3a f0,h1⟩
theorem t6c:1≤prog.bytesOf 63:=of_decide_eq_true (by kernel_rfl)
theorem T4b{fuel:Nat}{v:Value}{x:DataW H×List MemPlace}(h:DataW.trod enc prog W base sp held fuel 59 [v]=some x)(hw:E3a prog 59 x.1):∃l,I7c [] W v l :=
 Z2a Tryz.underlying59 R3a t6c (fun n cs y _ _ hy hl=>V6b hy hl) h hw
theorem A2b:prog.cellsOf 59=1:=by kernel_rfl
theorem p4a:prog.cellsOf 61=11:=by kernel_rfl
theorem u0c{fuel:Nat}{cs:List Value}{x:DataW H×List MemPlace}(h:DataW.trod enc prog W base sp held fuel 61 cs=some x)(hw:E3a prog 61 x.1):∃c,v1a [] W cs c:=by
 obtain⟨_,_,_,hx,hl,b0,a0⟩:=DataW.trod_struct Tryz.underlying61 h;rw[hx] at hw;rw[p4a] at hl;obtain⟨_,t0,-⟩:=R0a 0 3 0 b0 a0 Tryz.underlying61 hw Z;obtain⟨_,t1,-⟩:=R0a 1 3 1 b0 a0 Tryz.underlying61 hw Z;obtain⟨_,t2,-⟩:=R0a 2 3 2 b0 a0 Tryz.underlying61 hw Z;obtain⟨_,t3,w3⟩:=R0a 3 38 3 b0 a0 Tryz.underlying61 hw Z;obtain⟨_,t4,w4⟩:=R0a 4 59 7 b0 a0 Tryz.underlying61 hw Z;obtain⟨_,t5,-⟩:=R0a 5 4 8 b0 a0 Tryz.underlying61 hw Z;obtain⟨_,t6,-⟩:=R0a 6 3 9 b0 a0 Tryz.underlying61 hw Z;obtain⟨_,t7,-⟩:=R0a 7 3 10 b0 a0 Tryz.underlying61 hw Z;simp only[g1b,g2a,A2b,O6b] at t0 t1 t2 t3 t4 t5 t6 t7;obtain⟨_,_,_,_,_,_,_,_,_,_,_,rfl⟩:=A0d hl;simp only[List.drop_succ_cons,List.drop_zero,List.take_succ_cons,List.take_zero] at t0 t1 t2 t3 t4 t5 t6 t7;obtain⟨m0,e0,-,f0⟩:=DataW.trod_int Tryz.underlying3 t0;obtain⟨m1,e1,-,f1⟩:=DataW.trod_int Tryz.underlying3 t1;obtain⟨m2,e2,-,f2⟩:=DataW.trod_int Tryz.underlying3 t2;obtain⟨x3,h3⟩:=k4a _ _ _ t3 w3;obtain⟨x4,h4⟩:=T4b t4 w4;obtain⟨m5,e5,-⟩:=DataW.trod_bool Tryz.underlying4 t5;obtain⟨m6,e6,-,f6⟩:=DataW.trod_int Tryz.underlying3 t6;obtain⟨m7,e7,-,f7⟩:=DataW.trod_int Tryz.underlying3 t7;cases e0;cases e1;cases e2;cases e5;cases e6;cases e7;exact⟨⟨m0,m1,m2,x3,x4,m5,m6,m7⟩,_,_,_,_,_,Z,u3a f0,u3a f1,u3a f2,u3a f6,u3a f7,h3,h4⟩
theorem w3d:1≤prog.bytesOf 61:=of_decide_eq_true (by kernel_rfl)
theorem U8b{fuel:Nat}{v:Value}{x:DataW H×List MemPlace}(h:DataW.trod enc prog W base sp held fuel 55 [v]=some x)(hw:E3a prog 55 x.1):∃l,r3d [] W v l :=
 Z2a Tryz.underlying55 p4a w3d (fun n cs y _ _ hy hl=>u0c hy hl) h hw
theorem J6b:prog.cellsOf 48=1:=by kernel_rfl
theorem u4a:prog.cellsOf 87=6:=by kernel_rfl
theorem F9b{fuel:Nat}{cs:List Value}{x:DataW H×List MemPlace}(h:DataW.trod enc prog W base sp held fuel 87 cs=some x)(hw:E3a prog 87 x.1):∃c,Y4a [] W cs c:=by
 obtain⟨_,_,_,hx,hl,b0,a0⟩:=DataW.trod_struct Tryz.underlying87 h;rw[hx] at hw;rw[u4a] at hl;obtain⟨_,t0,-⟩:=R0a 0 3 0 b0 a0 Tryz.underlying87 hw Z;obtain⟨_,t1,w1⟩:=R0a 1 48 1 b0 a0 Tryz.underlying87 hw Z;obtain⟨_,t2,w2⟩:=R0a 2 38 2 b0 a0 Tryz.underlying87 hw Z;simp only[g1b,J6b,g2a] at t0 t1 t2;obtain⟨_,_,_,_,_,_,rfl⟩:=Z2d hl;simp only[List.drop_succ_cons,List.drop_zero,List.take_succ_cons,List.take_zero] at t0 t1 t2;obtain⟨m0,e0,-,f0⟩:=DataW.trod_int Tryz.underlying3 t0;obtain⟨x1,h1⟩:=n8a t1 w1;obtain⟨x2,h2⟩:=k4a _ _ _ t2 w2;cases e0;exact⟨⟨m0,x1,x2⟩,_,_,_,_,_,Z,u3a f0,h1,h2⟩
theorem m3d:1≤prog.bytesOf 87:=of_decide_eq_true (by kernel_rfl)
theorem D9b{fuel:Nat}{v:Value}{x:DataW H×List MemPlace}(h:DataW.trod enc prog W base sp held fuel 56 [v]=some x)(hw:E3a prog 56 x.1):∃l,t3d [] W v l :=
 Z2a Tryz.underlying56 u4a m3d (fun n cs y _ _ hy hl=>F9b hy hl) h hw
theorem x5b:prog.cellsOf 36=1:=by kernel_rfl
theorem v6b:prog.cellsOf 55=1:=by kernel_rfl
theorem E5b:prog.cellsOf 56=1:=by kernel_rfl
theorem L3a:prog.cellsOf 58=7:=by kernel_rfl
theorem Q6b{fuel:Nat}{cs:List Value}{x:DataW H×List MemPlace}(h:DataW.trod enc prog W base sp held fuel 58 cs=some x)(hw:E3a prog 58 x.1):∃c,M0a [] W cs c∧c.name.size≤140737488355328:=by
 obtain⟨_,_,_,hx,hl,b0,a0⟩:=DataW.trod_struct Tryz.underlying58 h;rw[hx] at hw;rw[L3a] at hl;obtain⟨_,t0,w0⟩:=R0a 0 9 0 b0 a0 Tryz.underlying58 hw Z;obtain⟨_,t1,-⟩:=R0a 1 3 1 b0 a0 Tryz.underlying58 hw Z;obtain⟨_,t2,w2⟩:=R0a 2 36 2 b0 a0 Tryz.underlying58 hw Z;obtain⟨_,t3,w3⟩:=R0a 3 48 3 b0 a0 Tryz.underlying58 hw Z;obtain⟨_,t4,w4⟩:=R0a 4 55 4 b0 a0 Tryz.underlying58 hw Z;obtain⟨_,t5,w5⟩:=R0a 5 56 5 b0 a0 Tryz.underlying58 hw Z;obtain⟨_,t6,-⟩:=R0a 6 4 6 b0 a0 Tryz.underlying58 hw Z;simp only[A9a,g1b,x5b,J6b,v6b,E5b,O6b] at t0 t1 t2 t3 t4 t5 t6;obtain⟨_,_,_,_,_,_,_,rfl⟩:=S3d hl;simp only[List.drop_succ_cons,List.drop_zero,List.take_succ_cons,List.take_zero] at t0 t1 t2 t3 t4 t5 t6;obtain⟨m0,e0,s0,-⟩:=DataW.trod_string Tryz.underlying9 t0;obtain⟨m1,e1,-,f1⟩:=DataW.trod_int Tryz.underlying3 t1;obtain⟨x2,h2⟩:=m9b t2 w2;obtain⟨x3,h3⟩:=n8a t3 w3;obtain⟨x4,h4⟩:=U8b t4 w4;obtain⟨x5,h5⟩:=D9b t5 w5;obtain⟨m6,e6,-⟩:=DataW.trod_bool Tryz.underlying4 t6;cases e0;cases e1;cases e6;exact⟨⟨m0,m1,x2,x3,x4,x5,m6⟩,⟨_,_,_,_,Z,u3a f1,h2,h3,h4,h5⟩,L7b s0 w0⟩
theorem F9c:1≤prog.bytesOf 58:=of_decide_eq_true (by kernel_rfl)
theorem y4b{fuel:Nat}{v:Value}{x:DataW H×List MemPlace}(h:DataW.trod enc prog W base sp held fuel 25 [v]=some x)(hw:E3a prog 25 x.1):∃l,H2d [] W v l∧∀c∈l,c.name.size≤140737488355328:=by
 obtain⟨l,hl⟩:=Z2a Tryz.underlying25 L3a F9c (fun n cs y _ _ hy hl=>Q6b hy hl) h hw;exact⟨l,hl.mono (fun _ _ h=>h.1),v5b hl (fun _ _ h=>h.2)⟩
theorem m3a:prog.cellsOf 66=11:=by kernel_rfl
theorem f2b{fuel:Nat}{cs:List Value}{x:DataW H×List MemPlace}(h:DataW.trod enc prog W base sp held fuel 66 cs=some x)(hw:E3a prog 66 x.1):∃c,G0a [] W cs c∧c.name.size≤140737488355328∧c.owner.size≤140737488355328:=by
 obtain⟨_,_,_,hx,hl,b0,a0⟩:=DataW.trod_struct Tryz.underlying66 h;rw[hx] at hw;rw[m3a] at hl;obtain⟨_,t0,w0⟩:=R0a 0 9 0 b0 a0 Tryz.underlying66 hw Z;obtain⟨_,t1,w1⟩:=R0a 1 9 1 b0 a0 Tryz.underlying66 hw Z;obtain⟨_,t2,w2⟩:=R0a 2 38 2 b0 a0 Tryz.underlying66 hw Z;obtain⟨_,t3,w3⟩:=R0a 3 38 6 b0 a0 Tryz.underlying66 hw Z;obtain⟨_,t4,w4⟩:=R0a 4 48 10 b0 a0 Tryz.underlying66 hw Z;simp only[A9a,g2a,J6b] at t0 t1 t2 t3 t4;obtain⟨_,_,_,_,_,_,_,_,_,_,_,rfl⟩:=A0d hl;simp only[List.drop_succ_cons,List.drop_zero,List.take_succ_cons,List.take_zero] at t0 t1 t2 t3 t4;obtain⟨m0,e0,s0,-⟩:=DataW.trod_string Tryz.underlying9 t0;obtain⟨m1,e1,s1,-⟩:=DataW.trod_string Tryz.underlying9 t1;obtain⟨x2,h2⟩:=k4a _ _ _ t2 w2;obtain⟨x3,h3⟩:=k4a _ _ _ t3 w3;obtain⟨x4,h4⟩:=n8a t4 w4;cases e0;cases e1;exact⟨⟨m0,m1,x2,x3,x4⟩,⟨_,_,_,_,_,_,_,_,_,Z,h2,h3,h4⟩,L7b s0 w0,L7b s1 w1⟩
theorem z1c:1≤prog.bytesOf 66:=of_decide_eq_true (by kernel_rfl)
theorem c1b{fuel:Nat}{v:Value}{x:DataW H×List MemPlace}(h:DataW.trod enc prog W base sp held fuel 23 [v]=some x)(hw:E3a prog 23 x.1):∃l,n3d [] W v l∧∀c∈l,c.name.size≤140737488355328∧c.owner.size≤140737488355328:=by
 obtain⟨l,hl⟩:=Z2a Tryz.underlying23 m3a z1c (fun n cs y _ _ hy hl=>f2b hy hl) h hw;exact⟨l,hl.mono (fun _ _ h=>h.1),v5b hl (fun _ _ h=>h.2)⟩
theorem j4a:prog.cellsOf 85=6:=by kernel_rfl
theorem p2c{fuel:Nat}{cs:List Value}{x:DataW H×List MemPlace}(h:DataW.trod enc prog W base sp held fuel 85 cs=some x)(hw:E3a prog 85 x.1):∃c,H4a [] W cs c:=by
 obtain⟨_,_,_,hx,hl,b0,a0⟩:=DataW.trod_struct Tryz.underlying85 h;rw[hx] at hw;rw[j4a] at hl;obtain⟨_,t0,-⟩:=R0a 0 3 0 b0 a0 Tryz.underlying85 hw Z;obtain⟨_,t1,w1⟩:=R0a 1 38 1 b0 a0 Tryz.underlying85 hw Z;obtain⟨_,t2,-⟩:=R0a 2 3 5 b0 a0 Tryz.underlying85 hw Z;simp only[g1b,g2a] at t0 t1 t2;obtain⟨_,_,_,_,_,_,rfl⟩:=Z2d hl;simp only[List.drop_succ_cons,List.drop_zero,List.take_succ_cons,List.take_zero] at t0 t1 t2;obtain⟨m0,e0,-,f0⟩:=DataW.trod_int Tryz.underlying3 t0;obtain⟨x1,h1⟩:=k4a _ _ _ t1 w1;obtain⟨m2,e2,-,f2⟩:=DataW.trod_int Tryz.underlying3 t2;cases e0;cases e2;exact⟨⟨m0,x1,m2⟩,_,_,_,_,Z,u3a f0,u3a f2,h1⟩
theorem h3d:1≤prog.bytesOf 85:=of_decide_eq_true (by kernel_rfl)
theorem t9b{fuel:Nat}{v:Value}{x:DataW H×List MemPlace}(h:DataW.trod enc prog W base sp held fuel 24 [v]=some x)(hw:E3a prog 24 x.1):∃l,O2d [] W v l :=
 Z2a Tryz.underlying24 j4a h3d (fun n cs y _ _ hy hl=>p2c hy hl) h hw
theorem t6b:prog.cellsOf 22=1:=by kernel_rfl
theorem c0b:prog.cellsOf 23=1:=by kernel_rfl
theorem b6b:prog.cellsOf 24=1:=by kernel_rfl
theorem M2b:prog.cellsOf 25=1:=by kernel_rfl
theorem B5a:prog.cellsOf 27=4:=by kernel_rfl
theorem B4b{fuel:Nat}{cs:List Value}{x:DataW H×List MemPlace}(h:DataW.trod enc prog W base sp held fuel 27 cs=some x)(hw:E3a prog 27 x.1):∃c,X0a [] W c cs∧c5a c:=by
 obtain⟨_,_,_,hx,hl,b0,a0⟩:=DataW.trod_struct Tryz.underlying27 h;rw[hx] at hw;rw[B5a] at hl;obtain⟨_,t0,w0⟩:=R0a 0 22 0 b0 a0 Tryz.underlying27 hw Z;obtain⟨_,t1,w1⟩:=R0a 1 23 1 b0 a0 Tryz.underlying27 hw Z;obtain⟨_,t2,w2⟩:=R0a 2 24 2 b0 a0 Tryz.underlying27 hw Z;obtain⟨_,t3,w3⟩:=R0a 3 25 3 b0 a0 Tryz.underlying27 hw Z;simp only[t6b,c0b,b6b,M2b] at t0 t1 t2 t3;obtain⟨_,_,_,_,rfl⟩:=E3d hl;simp only[List.drop_succ_cons,List.drop_zero,List.take_succ_cons,List.take_zero] at t0 t1 t2 t3;obtain⟨x0,h0⟩:=f9b t0 w0;obtain⟨x1,h1⟩:=c1b t1 w1;obtain⟨x2,h2⟩:=t9b t2 w2;obtain⟨x3,h3⟩:=y4b t3 w3;exact⟨⟨x0,x1,x2,x3⟩,⟨_,_,_,_,Z,h0.1,h1.1,h2,h3.1⟩,⟨h0.2,h1.2,h3.2⟩⟩
theorem S5b{W:World}:∀{l:List (String×DataW Unit)} {ps:List MemPlace},DataW.LaidVars prog W l ps→∀{i:Nat} {x:String×DataW Unit},l[i]?=some x →
 ∃g t cs fuel p,prog.globalNamed x.1=some g∧(prog.globals[g]?).map (·.type)=some t∧W.var? prog x.1=some cs∧DataW.trod (fun _=>()) prog W 0 (fun _=>true) false fuel t cs.toList=some (x.2,p)
 | [],_,_,_,_,hi=>by simp at hi
 | y::l,ps,h,0,x,hi=>by
   obtain⟨g0,t0,a0,f0,p0,q0,c0,d0,e0,b0,-⟩:=h;cases hi;exact⟨g0,t0,a0,f0,p0,c0,d0,e0,b0⟩
 | y::l,ps,h,i+1,x,hi=>by
   obtain⟨g0,t0,a0,f0,p0,q0,c0,d0,e0,b0,hr,-⟩:=h;exact S5b hr (by simpa using hi)
theorem X1d:prog.globalNamed ((Rows.inferInterferenceRow.laid[3]?.map (·.1)).getD "")=some 1:=by kernel_rfl
theorem o0d:(prog.globals[1]?).map (·.type)=some 168:=by kernel_rfl
theorem Z9c:prog.cellsOf 168=9:=by kernel_rfl
theorem C2b{W:World}(h:laidMetH prog Rows.inferInterferenceRow.laid W):f2a [] W:=by
 rw[MakeChecks.laidMetH_plain _ _ _ (by kernel_rfl)] at h;obtain⟨_,d0,-⟩:=h;obtain⟨_,_,c0,_,_,g0,n0,o0,m0⟩:=S5b d0 (i:=3) Z;obtain rfl:=Option.some.inj (X1d.symm.trans g0);obtain rfl:=Option.some.inj (o0d.symm.trans n0);obtain⟨xs,_,rfl,b0,e0,_,f0⟩:=DataW.trod_array Tryz.underlying168 m0;rw[Z9c] at e0;simp only[c3,Nat.mul_one] at f0;refine⟨by simp,fun i hi=>?_⟩;have a0:=World.var?_cell g0 o0 i;have i0:i<xs.length:=by omega
 have he:=f0 i (by omega);rw[List.getElem?_eq_getElem i0] at he;obtain⟨k,e1,e2,-⟩:=DataW.trod_int Tryz.underlying3 he;have p0:i<c0.toList.length:=by omega
 have j0:c0.toList[i]?=some (.int .i64 k):=by
  have h1:((c0.toList.drop i).take 1)[0]?=some (Value.int .i64 k):=by rw[e1];rfl
  rw[List.getElem?_take,if_pos (by omega),List.getElem?_drop] at h1;simpa using h1
 rw[a0];have e3:c0[i]?=some (.int .i64 k):=by simpa using j0
 rw[e3];have b0:(DataW.agg _=DataW.agg _∧_):=Prod.mk.inj b0;have b0:=DataW.agg.inj b0.1;have e4:(xs.map (·.1))[i]?=some (.lit (.int .i64 k)):=by rw[List.getElem?_map,List.getElem?_eq_getElem i0,e2];rfl
 rw[←b0] at e4;rcases(show i=0∨i=1∨i=2∨i=3∨i=4∨i=5∨i=6∨i=7∨i=8 by omega) with rfl|rfl|rfl|rfl|rfl|rfl|rfl|rfl|rfl<;>(cases e4;rfl)
end
theorem own:ownKnob prog.godebug=none:=by kernel_rfl
theorem r6c:laidOutB prog=true:=by kernel_rfl
abbrev f7a:List (String×DataW Unit):=Rows.inferInterferenceRow.laid
theorem h3c(os:Os)(args:Array Value):laidMetH prog f7a ((World.doorLaid prog 400 os).forCall (fun _ _=>0) ⟨#[],args,[]⟩).memory :=
 laidMetH_of_parts3 (fuel:=8) (laidMet_of_run' 8 (by kernel_rfl) (by kernel_rfl)) (by kernel_rfl) (by kernel_rfl)
theorem L2c{H:Type}{enc:TypeId×Value→H}{W W':World}(hb:Below W.heap.size W W'):∀(ts:List TypeId),(∀t∈ts,prog.readableRec t=true∧t<prog.types.size)→∀(vs:List Value) (ds:List (DataW H)) (p:List MemPlace),
 (∀x∈p,x.block<W.heap.size)→DataW.TrodAll enc prog W 0 (fun _=>true) true ts vs ds p→DataW.TrodAll enc prog W' 0 (fun b=>decide (b<W.heap.size)) true ts vs ds p:=by
 intro ts
 induction ts with
 | nil =>
   intro _ vs ds p _ h;cases vs<;>cases ds<;>exact h
 | cons t ts ih =>
   intro ht vs ds p hp h;cases vs with
   | nil=>exact h.elim
   | cons v vs =>
     cases ds with
     | nil=>exact h.elim
     | cons d ds =>
       obtain⟨q,r,h1,h2,rfl⟩:=h;obtain⟨r1,r2⟩:=ht t (by simp);exact⟨q,r,Below.trod r6c r1 r2 h1 hb (fun x hx=>hp x (List.mem_append_left _ hx)),ih (fun t a0=>ht t (by simp[a0])) vs ds r (fun x hx=>hp x (List.mem_append_right _ hx)) h2,Z⟩
theorem d1c{H:Type}{enc:TypeId×Value→H}{fn:Func}{s:ChangeSpec}{W W':World}{args:Array Value}{ds:List (DataW H)}{a0:List MemPlace}(hs:s.vars=[])(hr:fn.resultTypes=#[4])
 (d0:∀t∈fn.params.toList,prog.readableRec t=true∧t<prog.types.size) (hW:DataW.Whole enc prog fn.params.toList s.vars false W args.toList ds [] a0)
 (e1:(s.fn H (ds++[])).results=[.lit (.bool true)]) (e2:(s.fn H (ds++[])).args=ds) (e3:(s.fn H (ds++[])).vars=[]) (hb:Below W.heap.size W W') :
 s.post enc prog fn false true false false W args (.bool true) W':=by
 have c0:=hW.lt;obtain⟨_,_,hA,hV,b0,_⟩:=id hW;rw[hs] at hV;obtain⟨-,rfl⟩:=trodVars_none hV;rw[List.append_nil] at b0;subst b0;refine⟨ds,[],a0,[],a0,[],hW,?_,?_,?_,hb.frame _,fun h=>by cases h⟩
 ·rw[e1,hr];exact trodAll_mk1 (shut_bool Tryz.underlying4 true)
 ·rw[e2];exact L2c hb _ d0 _ _ _ c0 hA
 ·rw[e3,hs];rfl
theorem Z3c{H:Type}{ts:List TypeId}{ds:List (DataW H)}(h:(DataW.weightsEach prog ts ds).all (·≤reachBytes)=true){j:Nat}{t:TypeId}{d:DataW H}(ht:ts[j]?=some t)(hd:ds[j]?=some d):E3a prog t d:=fun m hm=>by
 have:=List.all_eq_true.1 h m (DataW.weights_mem_each ht hd m hm);simpa using this
theorem O2b{f:FuncId}{args:Array Value}{W:World}{R:Value→World→Prop}{Q:Ending→World→Prop}(h:O0a prog f args W R)(hQ:∀v W',R v W'→Q (.returned v) W'):Calls prog f args W Q :=
 Calls.mono h fun _ _ ⟨v,he,hv⟩=>he▸hQ v _ hv
abbrev Z1c:=Nat→Option (FuncId×Array Value×(Value→Prop)×(Value→World→Prop))
section
variable {P:Program} {r:Option Nat} {N:Nat} {l:List Oper} {D:List Deferred} {C:World→Prop} {V:Z1c} {K:Env→World→Prop}
def FL(P:Program)(N:Nat)(l:List Oper)(C:World→Prop)(V:Z1c)(K:Env→World→Prop)(lo:Nat):List Nat→Env→List Nat→(World→Prop)→Prop
 | [],e,_,Φ=>∀w,C w→Φ w→K e w
 | i::rest,e,gs,Φ=>∃o d,l[i]?=some o∧o.dst=some d∧d<N ∧
  ((∃v,PV P l C o e v∧FL P N l C V K lo rest (upd e d v) gs Φ) ∨
   (∃(mk:Nat→Value) (t:TypeId) (cs:List Value),a1a l.toArray e o=true ∧
     (∀w,C w→∃w',(execOp (ev e) o).run P w=.ok (.value (mk w.heap.size)) w'∧C w'∧z0a [] w w'∧w'.heap.size=w.heap.size+1∧o0a w' (w.heap.size,t,cs)) ∧
     ∀g,lo≤g→g∉gs→FL P N l C V K lo rest (upd e d (mk g)) (g::gs) (fun w=>Φ w∧o0a w (g,t,cs))) ∨
   (∃f args Qp Qw,V i=some (f,args,Qp,Qw)∧a1a l.toArray e o=true∧(∀w,C w→(execOp (ev e) o).run P w=.ok (.enter f args) w)∧∀u,Qp u→FL P N l C V K lo rest (upd e d u) gs (fun w=>Φ w∧Qw u w)))
theorem FL.mono{lo b0:Nat}:∀(R:List Nat) (e:Env) (gs a0:List Nat) (Φ Φ':World→Prop),(∀g,b0≤g→g∉a0→lo≤g∧g∉gs)→(∀w,Φ' w→Φ w)→FL P N l C V K lo R e gs Φ→FL P N l C V K b0 R e a0 Φ'
 | [],e,gs,a0,Φ,Φ',_,hΦ,h=>fun w hC hw=>h w hC (hΦ w hw)
 | i::R,e,gs,a0,Φ,Φ',hg,hΦ,h=>by
   obtain⟨o,d,h1,h2,h3,h4⟩:=h;refine⟨o,d,h1,h2,h3,?_⟩;rcases h4 with⟨v,h5,h6⟩|⟨mk,t,cs,h5,h6,h7⟩|⟨f,args,Qp,Qw,h5,h6,h7,h8⟩
   ·exact .inl ⟨v,h5,FL.mono R _ gs a0 Φ Φ' hg hΦ h6⟩
   rotate_left
   ·exact .inr (.inr ⟨f,args,Qp,Qw,h5,h6,h7,fun u hu=>FL.mono R _ gs a0 _ _ hg (fun w hw=>⟨hΦ w hw.1,hw.2⟩) (h8 u hu)⟩)
   ·refine .inr (.inl ⟨mk,t,cs,h5,h6,fun g h8 h9=>?_⟩);refine FL.mono R _ (g::gs) (g::a0) _ _ (fun x hx hn=>?_) (fun w hw=>⟨hΦ w hw.1,hw.2⟩) (h7 g (hg g h8 h9).1 (hg g h8 h9).2);simp only[List.mem_cons,not_or] at hn ⊢;exact⟨(hg x hx hn.2).1,hn.1,(hg x hx hn.2).2⟩
def O3d:Result Next→Nat
 | .ok _ w=>w.heap.size
 | _=>0
def szE(P:Program)(l:List Oper)(o:Oper)(e:Env)(w:World):Nat:=bif a1a l.toArray e o then O3d ((execOp (ev e) o).run P w) else 0
theorem x0b{o:Oper}{e e':Env}{w:World}(hs:Op.isSelect o.op=false)(h:∀s∈Oper.looksAt l.toArray o,e s=e' s):szE P l o e w=szE P l o e' w:=by
 unfold szE;rw[S0a h,o1a hs h]
theorem X3b(a b:Nat)(gs:List Nat):∃g,a≤g∧b≤g∧g∉gs:=by
 have:∀gs:List Nat,∃m,∀g∈gs,g<m:=by
  intro gs
  induction gs with
  | nil=>exact⟨0,by simp⟩
  | cons x gs ih =>
    obtain⟨m,hm⟩:=ih;refine⟨max m (x+1),fun g hg=>?_⟩;rcases List.mem_cons.1 hg with rfl|h
    ·omega
    ·have:=hm g h;omega
 obtain⟨m,hm⟩:=this gs;exact⟨max m (max a b),by omega,by omega,fun h=>by have:=hm _ h;omega⟩
def s3a(P:Program)(N:Nat)(l:List Oper)(C:World→Prop)(V:Z1c)(K:Env→World→Prop)(lo:Nat)(R:List Nat)(i:Nat)(o:Oper)(d:Nat)(e:Env)(gs:List Nat)(Φ:World→Prop)(w:World):Prop :=
 (a1a l.toArray e o=true∧∃v w',(execOp (ev e) o).run P w=.ok (.value v) w'∧C w'∧z0a [] w w'∧FL P N l C V K w'.heap.size R (upd e d v) gs (fun w1=>Φ w1∧z0a [] w' w1)) ∨
 (a1a l.toArray e o=false∧FL P N l C V K lo R (upd e d undef) gs Φ) ∨
 (a1a l.toArray e o=true∧∃f args Qp Qw,V i=some (f,args,Qp,Qw)∧(execOp (ev e) o).run P w=.ok (.enter f args) w∧∀u w',Qp u→Qw u w'→C w'→z0a [] w w'→FL P N l C V K w'.heap.size R (upd e d u) gs (fun w1=>(Φ w1∧Qw u w1)∧z0a [] w' w1))
theorem FL.first(c0:I3a l=true)(R0:∀i f args Qp Qw,V i=some (f,args,Qp,Qw)→∃u,Qp u){i:Nat}{i0:List Nat}{lo:Nat}{w:World}(hC:C w)(T0:lo≤w.heap.size):∀(m0:List Nat) (e:Env) (gs:List Nat) (Φ:World→Prop),(∀j∈m0,R8a l (fun _=>true) j i=true) →
 (∀o,l[i]?=some o→∀g∈gs,szE P l o e w≤g)→FL P N l C V K lo (m0++i::i0) e gs Φ →
 ∃o d,l[i]?=some o∧o.dst=some d∧d<N∧s3a P N l C V K lo (m0++i0) i o d e gs Φ w:=by
 intro m0
 induction m0 with
 | nil =>
   intro e gs Φ _ C0 h;obtain⟨o,d,ho,hd,hN,h⟩:=h;refine⟨o,d,ho,hd,hN,?_⟩;rcases h with⟨v,⟨h1,h2⟩|⟨h1,rfl⟩,h3⟩|⟨mk,t,cs,h1,h2,h3⟩|⟨f,args,Qp,Qw,h1,h2,h3,h4⟩
   rotate_right
   ·exact .inr (.inr ⟨h2,f,args,Qp,Qw,h1,h3 w hC,fun u w' hu _ _ hk=>FL.mono _ _ gs gs _ _ (fun g hg hn=>⟨by have:=hk.size;omega,hn⟩) (fun _ hw=>hw.1) (h4 u hu)⟩)
   ·exact .inl ⟨h1,v,w,h2 w hC,hC,z0a.refl _ _,FL.mono _ _ gs gs Φ _ (fun g hg hn=>⟨by omega,hn⟩) (fun _ hw=>hw.1) h3⟩
   ·exact .inr (.inl ⟨h1,h3⟩)
   ·obtain⟨w',h4,h5,h6,h7,h8⟩:=h2 w hC;refine .inl ⟨h1,_,w',h4,h5,h6,?_⟩;have hs:=C0 o ho;unfold szE at hs;rw[h1,h4] at hs;refine FL.mono _ _ (w.heap.size::gs) gs _ _ (fun g hg hn=>?_) (fun w1 hw=>⟨hw.1,s1a hw.2 h8⟩) (h3 w.heap.size T0 (fun hm=>by have:w'.heap.size≤w.heap.size:=hs _ hm;omega));simp only[List.mem_cons,not_or];exact⟨by omega,by omega,hn⟩
 | cons q m0 ih =>
   intro e gs Φ B0 C0 h;obtain⟨p,c,hp,hc,v0,h⟩:=h;have hq:=B0 q (by simp);have p0:∀j∈m0,R8a l (fun _=>true) j i=true:=fun j hj=>B0 j (by simp[hj]);have a0:∀{o:Oper} {d:Nat} (u:Value),l[i]?=some o→o.dst=some d→(∀s∈Oper.looksAt l.toArray o,upd e c u s=e s)∧c≠d∧d∉Oper.looksAt l.toArray p:=fun {o d} u ho hd=>by
    obtain⟨_,j0,q0,S0⟩:=f8a hq hp ho hc hd;exact⟨fun s hs=>q1a S0 hs,j0,q0⟩
   rcases h with⟨u,hu,h⟩|⟨mk,t,cs,h1,h2,h3⟩|⟨f,args,Qp,Qw,hV,X0,hu,h⟩
   rotate_right
   ·obtain⟨u0,W0⟩:=R0 _ _ _ _ _ hV;have key:∀u,Qp u→∃o d,l[i]?=some o∧o.dst=some d∧d<N∧s3a P N l C V K lo (m0++i0) i o d (upd e c u) gs (fun w=>Φ w∧Qw u w) w:=fun u hu=>ih (upd e c u) gs _ p0 (fun o ho g hg=>by
     cases hd:o.dst with
     | none =>
       exfalso;unfold R8a at hq;simp[hp,ho,hc,hd] at hq
     | some d=>rw[x0b (x0a c0 ho).1 (a0 u ho hd).1];exact C0 o ho g hg) (h u hu)
    obtain⟨o,d,ho,hd,hN,t0⟩:=key u0 W0;have f0:∀u,Qp u→s3a P N l C V K lo (m0++i0) i o d (upd e c u) gs (fun w=>Φ w∧Qw u w) w:=fun u hu=>by
     obtain⟨o',d',n0,G0,_,hF⟩:=key u hu;obtain rfl:o'=o:=Option.some.inj (n0.symm.trans ho);obtain rfl:d'=d:=Option.some.inj (G0.symm.trans hd);exact hF
    have j0:=(a0 .nilFunc ho hd).2.1;have q0:=(a0 .nilFunc ho hd).2.2;have ha:∀u,∀s∈Oper.looksAt l.toArray o,upd e c u s=e s:=fun u=>(a0 u ho hd).1;refine⟨o,d,ho,hd,hN,?_⟩;have r0:∀v,∀s∈Oper.looksAt l.toArray p,upd e d v s=e s:=fun v s hs=>q1a q0 hs;unfold s3a at t0 ⊢;rw[S0a (ha _),o1a (x0a c0 ho).1 (ha _)] at t0;have o0:∀v,∀K0 Φ',(∀u,Qp u→FL P N l C V K K0 (m0++i0) (upd (upd e d v) c u) gs (fun w=>Φ' w∧Qw u w))→FL P N l C V K K0 (q::(m0++i0)) (upd e d v) gs Φ':=fun v K0 Φ' h9 =>
     ⟨p,c,hp,hc,v0,.inr (.inr ⟨f,args,Qp,Qw,hV,by rw[S0a (r0 v)];exact X0,by rw[o1a (x0a c0 hp).1 (r0 v)];exact hu,h9⟩)⟩
    rcases t0 with⟨hw,v,w',h4,h5,h6,-⟩|⟨hw,-⟩|⟨hw,f',s0,N0,O0,z0,h4,-⟩
    ·refine .inl ⟨hw,v,w',h4,h5,h6,o0 v _ _ fun u hu=>?_⟩;have hF:=f0 u hu;unfold s3a at hF;rw[S0a (ha _),o1a (x0a c0 ho).1 (ha _)] at hF;rcases hF with⟨_,v',L0,d0,_,_,h7⟩|⟨b0,_⟩|⟨_,_,_,_,_,_,d0,_⟩
     ·rw[h4] at d0;cases d0;rw[←v2a _ _ _ j0];exact FL.mono _ _ gs gs _ _ (fun x hx hn=>⟨hx,hn⟩) (fun w1 e0=>⟨⟨e0.1.1,e0.2⟩,e0.1.2⟩) h7
     ·rw[hw] at b0;cases b0
     ·rw[h4] at d0;cases d0
    ·refine .inr (.inl ⟨hw,o0 _ _ _ fun u hu=>?_⟩);have hF:=f0 u hu;unfold s3a at hF;rw[S0a (ha _),o1a (x0a c0 ho).1 (ha _)] at hF;rcases hF with⟨b0,_⟩|⟨_,h7⟩|⟨b0,_⟩
     ·rw[hw] at b0;cases b0
     ·rw[←v2a _ _ _ j0];exact h7
     ·rw[hw] at b0;cases b0
    ·refine .inr (.inr ⟨hw,f',s0,N0,O0,z0,h4,fun u' w' V0 U0 y0 x0=>o0 u' _ _ fun u hu=>?_⟩);have hF:=f0 u hu;unfold s3a at hF;rw[S0a (ha _),o1a (x0a c0 ho).1 (ha _)] at hF;rcases hF with⟨_,v',L0,d0,_⟩|⟨b0,_⟩|⟨_,Y0,E0,P0,Q0,A0,_,h7⟩
     ·rw[h4] at d0;cases d0
     ·rw[hw] at b0;cases b0
     ·rw[z0] at A0;cases A0;rw[←v2a _ _ _ j0];exact FL.mono _ _ gs gs _ _ (fun x hx hn=>⟨hx,hn⟩) (fun w1 e0=>⟨⟨⟨e0.1.1.1,e0.2⟩,e0.1.1.2⟩,e0.1.2⟩) (h7 u' w' V0 U0 y0 x0)
   ·obtain⟨o,d,ho,hd,hN,hF⟩:=ih (upd e c u) gs Φ p0 (fun o ho g hg=>by
     cases hd:o.dst with
     | none =>
       exfalso;unfold R8a at hq;simp[hp,ho,hc,hd] at hq
     | some d=>rw[x0b (x0a c0 ho).1 (a0 u ho hd).1];exact C0 o ho g hg) h
    obtain⟨ha,j0,q0⟩:=a0 u ho hd;refine⟨o,d,ho,hd,hN,?_⟩;unfold s3a at hF ⊢;rw[S0a ha,o1a (x0a c0 ho).1 ha] at hF;rcases hF with⟨hw,v,w',h4,h5,h6,h7⟩|⟨hw,h7⟩|⟨hw,f,args,Qp,Qw,hV,h4,h7⟩
    rotate_right
    ·refine .inr (.inr ⟨hw,f,args,Qp,Qw,hV,h4,fun x w' hx J0 y0 x0=>⟨p,c,hp,hc,v0,.inl ⟨u,hu.congr (x0a c0 hp).1 (fun s hs=>(q1a q0 hs).symm),?_⟩⟩⟩);rw[←v2a _ _ _ j0];exact h7 x w' hx J0 y0 x0
    ·refine .inl ⟨hw,v,w',h4,h5,h6,p,c,hp,hc,v0,.inl ⟨u,hu.congr (x0a c0 hp).1 (fun s hs=>(q1a q0 hs).symm),?_⟩⟩;rw[←v2a _ _ _ j0];exact h7
    ·refine .inr (.inl ⟨hw,p,c,hp,hc,v0,.inl ⟨u,hu.congr (x0a c0 hp).1 (fun s hs=>(q1a q0 hs).symm),?_⟩⟩);rw[←v2a _ _ _ j0];exact h7
   ·have key:∀g,lo≤g→g∉gs→(∀o,l[i]?=some o→szE P l o e w≤g)→∃o d,l[i]?=some o∧o.dst=some d∧d<N∧s3a P N l C V K lo (m0++i0) i o d (upd e c (mk g)) (g::gs) (fun w=>Φ w∧o0a w (g,t,cs)) w:=fun g hg hn hs=>by
     refine ih (upd e c (mk g)) (g::gs) _ p0 (fun o ho x hx=>?_) (h3 g hg hn);cases hd:o.dst with
     | none =>
       exfalso;unfold R8a at hq;simp[hp,ho,hc,hd] at hq
     | some d =>
       rw[x0b (x0a c0 ho).1 (a0 (mk g) ho hd).1];rcases List.mem_cons.1 hx with rfl|hx
       ·exact hs o ho
       ·exact C0 o ho x hx
    have h4:∃o d,l[i]?=some o∧o.dst=some d∧d<N:=by
     cases ho:l[i]? with
     | none=>unfold R8a at hq;simp[ho] at hq
     | some o =>
       obtain⟨g0,H0,F0,I0⟩:=X3b lo (szE P l o e w) gs;obtain⟨o',d,n0,hd,hN,_⟩:=key g0 H0 I0 (fun o' n0=>by rw[ho] at n0;cases n0;exact F0);rw[ho] at n0;cases n0;exact⟨o,d,Z,hd,hN⟩
    obtain⟨o,d,ho,hd,hN⟩:=h4;have f0:∀g,lo≤g→g∉gs→szE P l o e w≤g→s3a P N l C V K lo (m0++i0) i o d (upd e c (mk g)) (g::gs) (fun w=>Φ w∧o0a w (g,t,cs)) w:=fun g hg hn hs=>by
     obtain⟨o',d',n0,G0,_,hF⟩:=key g hg hn (fun o' n0=>by rw[ho] at n0;cases n0;exact hs);obtain rfl:o'=o:=Option.some.inj (n0.symm.trans ho);obtain rfl:d'=d:=Option.some.inj (G0.symm.trans hd);exact hF
    refine⟨o,d,ho,hd,hN,?_⟩;obtain⟨g0,H0,F0,I0⟩:=X3b lo (szE P l o e w) gs;have j0:=(a0 .nilFunc ho hd).2.1;have q0:=(a0 .nilFunc ho hd).2.2;have ha:∀u,∀s∈Oper.looksAt l.toArray o,upd e c u s=e s:=fun u=>(a0 u ho hd).1;have r0:∀v,∀s∈Oper.looksAt l.toArray p,upd e d v s=e s:=fun v s hs=>q1a q0 hs;have t0:=f0 g0 H0 I0 F0;unfold s3a at t0 ⊢;rw[S0a (ha _),o1a (x0a c0 ho).1 (ha _)] at t0;rcases t0 with⟨hw,v,w',h4,h5,h6,-⟩|⟨hw,-⟩|⟨hw,f,args,Qp,Qw,hV,h4,-⟩
    rotate_right
    ·have D0:szE P l o e w=w.heap.size:=by unfold szE;rw[hw,h4];rfl
     refine .inr (.inr ⟨hw,f,args,Qp,Qw,hV,h4,fun x w' hx J0 y0 x0=>⟨p,c,hp,hc,v0,.inr (.inl ⟨mk,t,cs,by rw[S0a (r0 x)];exact h1,by rw[o1a (x0a c0 hp).1 (r0 x)];exact h2,fun g hg hn=>?_⟩)⟩⟩);have Z0:=x0.size;have hF:=f0 g (by omega) hn (by omega);unfold s3a at hF;rw[S0a (ha _),o1a (x0a c0 ho).1 (ha _)] at hF;rcases hF with⟨_,v',L0,d0,_⟩|⟨b0,_⟩|⟨_,f',s0,N0,O0,z0,_,h7⟩
     ·rw[h4] at d0;cases d0
     ·rw[hw] at b0;cases b0
     ·rw[hV] at z0;cases z0;rw[←v2a _ _ _ j0];exact FL.mono _ _ (g::gs) (g::gs) _ _ (fun x hx hn=>⟨hx,hn⟩) (fun w1 e0=>⟨⟨⟨e0.1.1.1,e0.2⟩,e0.1.1.2⟩,e0.1.2⟩) (h7 x w' hx J0 y0 x0)
    ·have D0:szE P l o e w=w'.heap.size:=by unfold szE;rw[hw,h4];rfl
     refine .inl ⟨hw,v,w',h4,h5,h6,p,c,hp,hc,v0,.inr (.inl ⟨mk,t,cs,by rw[S0a (r0 v)];exact h1,by rw[o1a (x0a c0 hp).1 (r0 v)];exact h2,fun g hg hn=>?_⟩)⟩;have hF:=f0 g (by have:=h6.size;omega) hn (by omega);unfold s3a at hF;rw[S0a (ha _),o1a (x0a c0 ho).1 (ha _)] at hF;rcases hF with⟨_,v',L0,d0,_,_,h7⟩|⟨b0,_⟩|⟨_,_,_,_,_,_,d0,_⟩
     rotate_right
     ·rw[h4] at d0;cases d0
     ·rw[h4] at d0;cases d0;rw[←v2a _ _ _ j0];exact FL.mono _ _ (g::gs) (g::gs) _ _ (fun x hx hn=>⟨hx,hn⟩) (fun w1 e0=>⟨⟨e0.1.1,e0.2⟩,e0.1.2⟩) h7
     ·rw[hw] at b0;cases b0
    ·refine .inr (.inl ⟨hw,p,c,hp,hc,v0,.inr (.inl ⟨mk,t,cs,by rw[S0a (r0 _)];exact h1,by rw[o1a (x0a c0 hp).1 (r0 _)];exact h2,fun g hg hn=>?_⟩)⟩);have D0:szE P l o e w=0:=by unfold szE;rw[hw];rfl
     have hF:=f0 g hg hn (by omega);unfold s3a at hF;rw[S0a (ha _),o1a (x0a c0 ho).1 (ha _)] at hF;rcases hF with⟨b0,_⟩|⟨_,h7⟩|⟨b0,_⟩
     rotate_right
     ·rw[hw] at b0;cases b0
     ·rw[hw] at b0;cases b0
     ·rw[←v2a _ _ _ j0];exact h7
theorem B6b{id:Nat}{n t:List Deferred→Env→World→Prop}{b:Nat→List Deferred→Env→World→Prop}{e:Env}{w:World}(hm:P.follows .mixedOrders=true)(ix:List Nat)
 (m:Nat) (C:World→Prop) (hC:C w.drew) (V:Z1c) (hV:∀i f args Qp Qw,V i=some (f,args,Qp,Qw)→(∃u,Qp u)∧(∀u w w',z0a [] w w'→Qw u w→Qw u w')∧∀w,C w→O0a P f args w fun u w'=>(Qp u∧Qw u w')∧C w'∧z0a [] w w') (ol:Oper) (E0:l[m]?=some ol)
 (h:FL P N l C V (fun e w=>WL P r N l.toArray [ol] (fun D' e' w'=>D'=D∧n D e' w') D e w) w.heap.size ix e [] (fun _=>True)) (hok:k4b l (fun _=>true) m=true:=by kernel_rfl) (hix:(List.range m==ix)=true:=by kernel_rfl):W P r N (.region id l.toArray true) ⟨n,b,t⟩ D e w:=by
 obtain rfl:List.range m=ix:=eq_of_beq hix;generalize s0:(fun(e:Env) (w:World)=>WL P r N l.toArray [ol] (fun D' e' w'=>D'=D∧n D e' w') D e w)=K' at h;unfold k4b at hok;simp only[Bool.and_eq_true,decide_eq_true_eq] at hok;obtain⟨⟨⟨⟨p0,z0⟩,C0⟩,f0⟩,_⟩:=hok;have x0:∀j,j<m→j∈m4a l m:=fun j hj=>by
  have:=List.all_eq_true.1 f0 j (List.mem_range.2 hj);simpa using this
 refine I4c hm z0 (fun f e w=>(∀i,f i=true→∀j∈g1a l i,f j=true)∧((f m=false∧C w∧∃lo Φ,lo≤w.heap.size∧(∀w w',Φ w→z0a [] w w'→Φ w')∧Φ w∧FL P N l C V K' lo (y7a m f) e [] Φ)∨(f m=true∧n D e w))) ⟨by simp,.inl ⟨Z,hC,w.heap.size,fun _=>True,Nat.le_refl _,fun _ _ _ _=>trivial,trivial,?_⟩⟩ ?_ ?_
 ·have:y7a m (fun _=>false)=List.range m:=by unfold y7a;simp
  rw[this];exact h
 ·rintro f e w i o ⟨e0,hM⟩ ho o0 q0;have A0:i<l.length:=(List.getElem?_eq_some_iff.1 ho).1;have a0:∀k,(f k||k==i)=true→∀j∈g1a l k,(f j||j==i)=true:=by
   intro k hk j hj;simp only[Bool.or_eq_true,beq_iff_eq] at hk ⊢;rcases hk with hk|rfl
   ·exact .inl (e0 k hk j hj)
   ·exact .inl (q0 j hj)
  rcases hM with⟨c0,m0,lo,Φ,v0,g0,hΦ,hM⟩|⟨c0,-⟩
  rotate_left
  ·have:=Y2a e0 l.length (g1a l m) (e0 m c0) i (x0 i (by
    rcases Nat.lt_or_ge i m with h|h
    ·exact h
    ·have:i=m:=by omega
     subst this;rw[o0] at c0;cases c0))
   rw[o0] at this;cases this
  by_cases B0:i=m
  ·subst B0;obtain rfl:ol=o:=Option.some.inj (E0.symm.trans ho);have b0:∀j,j<i→f j=true:=fun j hj=>Y2a e0 _ _ q0 j (x0 j hj);have r0:y7a i f=[]:=by
    unfold y7a;rw[List.filter_eq_nil_iff];intro j hj;simp[b0 j (List.mem_range.1 hj)]
   rw[r0] at hM;have h4:=hM w m0 hΦ;rw[←s0] at h4;clear hM h s0;unfold WL at *;refine fun a Q hs hD he hK=>h4 a Q hs hD he (fun a' w' F0 hh=>hK a' w' F0 ?_);exact⟨hh.1,a0,.inr ⟨by simp,hh.2⟩⟩
  have u0:i<m:=by omega
  have d0:(f m||m==i)=false:=by simp[c0];omega
  obtain⟨H0,_,h1,h2,h3⟩:=K0b (m:=m) f u0 o0;rw[h1] at hM;have G0:∀j∈m4a l i,f j=true:=Y2a e0 _ _ q0;obtain⟨o',_,D0,hd,hN,h4⟩:=FL.first p0 (fun i f args Qp Qw h=>(hV i f args Qp Qw h).1) m0 v0 H0 e [] Φ (fun j hj=>by
   have:=List.all_eq_true.1 (List.all_eq_true.1 C0 i (List.mem_range.2 u0)) j (List.mem_range.2 (h3 j hj).1);simp only[Bool.or_eq_true,List.contains_eq_mem,decide_eq_true_eq] at this;rcases this with h|h
   ·have:=G0 j h;rw[(h3 j hj).2] at this;cases this
   ·exact h) (by simp) hM
  obtain rfl:o'=o:=Option.some.inj (D0.symm.trans ho);rcases h4 with⟨hw,v,w',hv,j0,n0,h4⟩|⟨hw,h4⟩|⟨hw,f',args,Qp,Qw,t0,hv,h4⟩
  rotate_right
  ·unfold WL;intro a Q hs hD he hK;simp only[wpListIn];have i0:Region.wanted o' (yielded l.toArray a.tmps)=true:=by rw[t1a,he];exact hw
   simp only[i0,if_true];refine⟨F0a _ _ _,?_⟩;rw[Oper.semAt_eq _ _ _ (x0a p0 ho).2,y2a,he,hv,Oper.uponIn_enter];refine⟨fun hh=>by simp[fc,Fence.wide] at hh,f5a (Calls.mono ((hV _ _ _ _ _ t0).2.2 w m0) ?_)⟩;rintro en w' ⟨u,rfl,⟨hu,y0⟩,j0,n0⟩;rw[hd];refine hK _ _ (by simp[Act.put,hs]) ⟨by simp[Act.put,hD],?_⟩;rw[k1a u (by rw[hs];exact hN),he];exact⟨a0,.inl ⟨d0,j0,w'.heap.size,(fun w1=>(Φ w1∧Qw u w1)∧z0a [] w' w1),Nat.le_refl _,fun w1 w2 h5 h6=>⟨⟨g0 _ _ h5.1.1 h6,(hV _ _ _ _ _ t0).2.1 u _ _ h6 h5.1.2⟩,h5.2.trans h6⟩,⟨⟨g0 _ _ hΦ n0,y0⟩,z0a.refl _ _⟩,by rw[h2];exact h4 u w' hu y0 j0 n0⟩⟩
  ·unfold WL;intro a Q hs hD he hK;simp only[wpListIn];have i0:Region.wanted o' (yielded l.toArray a.tmps)=true:=by rw[t1a,he];exact hw
   simp only[i0,if_true];refine⟨F0a _ _ _,?_⟩;rw[Oper.semAt_eq _ _ _ (x0a p0 ho).2,y2a,he,hv,Oper.uponIn_value];refine hK _ _ (by simp[Act.put,hd,hs]) ⟨by simp[Act.put,hd,hD],?_⟩;rw[hd,k1a v (by rw[hs];exact hN),he];exact⟨a0,.inl ⟨d0,j0,w'.heap.size,(fun w1=>Φ w1∧z0a [] w' w1),Nat.le_refl _,fun w1 w2 h5 h6=>⟨g0 _ _ h5.1 h6,h5.2.trans h6⟩,⟨g0 _ _ hΦ n0,z0a.refl _ _⟩,by rw[h2];exact h4⟩⟩
  ·unfold WL;intro a Q hs hD he hK;simp only[wpListIn];have i0:Region.wanted o' (yielded l.toArray a.tmps)=false:=by rw[t1a,he];exact hw
   simp only[i0];refine⟨F0a _ _ _,?_⟩;refine hK _ _ (by simp[Act.put,hd,hs]) ⟨by simp[Act.put,hd,hD],?_⟩;rw[hd,k1a undef (by rw[hs];exact hN),he];exact⟨a0,.inl ⟨d0,m0,lo,Φ,v0,g0,hΦ,by rw[h2];exact h4⟩⟩
 ·rintro f e w ⟨e0,hM⟩ b0;rcases hM with⟨c0,-⟩|⟨-,hM⟩
  ·have:=b0 m (by omega);rw[c0] at this;cases this
  ·exact hM
theorem b5c{id:Nat}{n t:List Deferred→Env→World→Prop}{b:Nat→List Deferred→Env→World→Prop}{e:Env}{w:World}(hm:P.follows .mixedOrders=true)(ix:List Nat)
 (m:Nat) (C:World→Prop) (hC:C w.drew) (ol:Oper) (a0:l[m]?=some ol)
 (h:FL P N l C (fun _=>none) (fun e w=>WL P r N l.toArray [ol] (fun D' e' w'=>D'=D∧n D e' w') D e w) w.heap.size ix e [] (fun _=>True)) (hok:k4b l (fun _=>true) m=true:=by kernel_rfl) (hix:(List.range m==ix)=true:=by kernel_rfl):W P r N (.region id l.toArray true) ⟨n,b,t⟩ D e w :=
 B6b (hok:=hok) (hix:=hix) hm ix m C hC (fun _=>none) (fun _ _ _ _ _ h=>by cases h) ol a0 h
variable {lo:Nat} {gs:List Nat} {Φ:World→Prop} {e:Env} {w w0:World} {L:List Ent} {M:List Nat}
theorem A7b(h:∀w,C w→Φ w→K e w):FL P N l C V K lo [] e gs Φ:=h
theorem N8a{i:Nat}{rest:List Nat}{o:Oper}(ho:l[i]?=some o)(hv:W4c o.op=true)(h:QL P N l.toArray C [o] (fun e'=>FL P N l C V K lo rest e' gs Φ) e):FL P N l C V K lo (i::rest) e gs Φ:=by
 unfold QL at h;obtain⟨pa,hl,hq,hk⟩:=h;obtain⟨d,v,h1,h2,h3,h4⟩:=hq 0 o Z;obtain rfl:pa=[(d,v)]:=by
  match pa,hl,h1 with
  | [x],_,h1=>simpa using h1
 refine⟨o,d,ho,h2,h3,.inl ⟨v,?_,hk⟩⟩;rcases h4 with⟨h5,h6⟩|h5
 ·refine .inl ⟨h5,fun w hw=>?_⟩;rcases h6 w hw with h7|⟨f,args,h7,_⟩
  ·exact h7
  ·obtain⟨_,hv'⟩:=R6a hv h7;cases hv'
 ·exact .inr h5
theorem r8b{i d:Nat}{rest:List Nat}{x:Operand}{ty size n c:Nat}{t:TypeId}{p:String}{af:Array Edge}{A:Option Addr}(ho:l[i]?=some ⟨some d,.call { callee:=.builtin .len,args:=#[x],argTypes:=#[ty] },t,p,af,none⟩)(hT:SlT P ty size)(hx:ev e x=.slice A n c)(hd:Nat.ble (d+1) N=true)
 (h:FL P N l C V K lo rest (upd e d (.int .i64 n)) gs Φ):FL P N l C V K lo (i::rest) e gs Φ:=by
 obtain⟨_,hu,_⟩:=hT;exact⟨_,d,ho,Z,Nat.le_of_ble_eq_true hd,.inl ⟨_,.inl ⟨Z,fun w _=>by simp[execOp,resolve,invoke,builtin,Builtin.len_,hx,run_underlying hu,goInt]⟩,h⟩⟩
theorem x1c{i d t:Nat}{rest:List Nat}{o:Oper}{mk:Nat→Value}{cs:List Value}(ho:l[i]?=some o)(hd:o.dst=some d)(hN:Nat.ble (d+1) N=true)(hw:a1a l.toArray e o=true)
 (a0:∀w1,Cl M w0 w L w1→(execOp (ev e) o).run P w1=.ok (.value (mk w1.heap.size)) (w1.alloc (.cells cs.toArray t (0,0))))
 (h:∀g,lo≤g→g∉gs→FL P N l (Cl M w0 w L) V K lo rest (upd e d (mk g)) (g::gs) (fun w=>Φ w∧o0a w (g,t,cs))):FL P N l (Cl M w0 w L) V K lo (i::rest) e gs Φ :=
 ⟨o,d,ho,hd,Nat.le_of_ble_eq_true hN,.inr (.inl ⟨mk,t,cs,hw,fun w1 hC=>⟨_,a0 w1 hC,Cl.alloc _ _ hC,R1a _ _ _,by simp,by unfold o0a;show(w1.heap.push _)[w1.heap.size]?=_;simp⟩,h⟩)⟩
theorem i3b{i d el:Nat}{t:TypeId}{p:String}{af:Array Edge}{gd:Option (Nat×Bool)}{z:Value}{cs:List Value}{rest:List Nat}
 (ho:l[i]?=some ⟨some d,.alloc el,t,p,af,gd⟩) (hN:Nat.ble (d+1) N=true) (hw:a1a l.toArray e ⟨some d,.alloc el,t,p,af,gd⟩=true) (hz:∀w,(zeroValue el).run P w=.ok z w) (a0:z.cells.toList=cs)
 (h:∀g,lo≤g→g∉gs→FL P N l (Cl M w0 w L) V K lo rest (upd e d (.pointer (some ⟨g,0,none⟩))) (g::gs) (fun w=>Φ w∧o0a w (g,el,cs))):FL P N l (Cl M w0 w L) V K lo (i::rest) e gs Φ:=by
 refine x1c (mk:=fun g=>.pointer (some ⟨g,0,none⟩)) ho Z hN hw (fun w1 _=>?_) h;subst a0;simp[execOp,Instr.alloc,newVar,newRow,hz]
theorem d9a{i d:Nat}{rest:List Nat}{t:TypeId}{p:String}{af:Array Edge}{args:Array Operand}{at_:Array TypeId}{g:Operand}{caps:Array Value}{f:FuncId}{vs:List Value}{Qp:Value→Prop}{Qw:Value→World→Prop}(hH:Has P f)
 (ho:l[i]?=some ⟨some d,.call { callee:=.value g,args:=args,argTypes:=at_ },t,p,af,none⟩) (hN:Nat.ble (d+1) N=true)
 (hw:a1a l.toArray e ⟨some d,.call { callee:=.value g,args:=args,argTypes:=at_ },t,p,af,none⟩=true) (hg:ev e g=.func (.func f) #[] caps) (a0:args.toList.map (ev e)++caps.toList=vs) (hV:V i=some (f,vs.toArray,Qp,Qw))
 (h:∀u,Qp u→FL P N l C V K lo rest (upd e d u) gs (fun w=>Φ w∧Qw u w)):FL P N l C V K lo (i::rest) e gs Φ:=by
 refine⟨_,d,ho,Z,Nat.le_of_ble_eq_true hN,.inr (.inr ⟨f,vs.toArray,Qp,Qw,hV,hw,fun w1 _=>?_,h⟩)⟩;subst a0;have:(args.map (ev e)++caps)=(args.toList.map (ev e)++caps.toList).toArray:=by apply Array.ext';simp
 simp[execOp,resolve,Deferred.ofValue,invoke,hg,hH _ w1,this]
def eqQ(v:Value):Value→Prop:=fun u=>u=v
def noQ:Value→World→Prop:=fun _ _=>True
theorem I6b{i d:Nat}{rest:List Nat}{t:TypeId}{p:String}{af:Array Edge}{args:Array Operand}{at_:Array TypeId}{f:FuncId}{vs:List Value}{v:Value}(hH:Has P f)
 (ho:l[i]?=some ⟨some d,.call { callee:=.value (.func f),args:=args,argTypes:=at_ },t,p,af,none⟩) (hN:Nat.ble (d+1) N=true)
 (hw:a1a l.toArray e ⟨some d,.call { callee:=.value (.func f),args:=args,argTypes:=at_ },t,p,af,none⟩=true) (a0:args.toList.map (ev e)=vs) (hV:V i=some (f,vs.toArray,eqQ v,noQ))
 (h:FL P N l C V K lo rest (upd e d v) gs Φ):FL P N l C V K lo (i::rest) e gs Φ :=
 d9a (caps:=#[]) hH ho hN hw Z (by simpa using a0) hV fun u hu=>by
  cases hu;exact FL.mono _ _ gs gs _ _ (fun x hx hn=>⟨hx,hn⟩) (fun w1 b0=>b0.1) h
theorem m6a{i d ty el size b0 n:Nat}{t:TypeId}{p:String}{af:Array Edge}{gd:Option (Nat×Bool)}{z:Value}{a0:Array (Nat×Operand)}{vs:List Value}{cs:List Value}{rest:List Nat}
 (ho:l[i]?=some ⟨some d,.buildSlice ty n a0,t,p,af,gd⟩) (hN:Nat.ble (d+1) N=true) (hw:a1a l.toArray e ⟨some d,.buildSlice ty n a0,t,p,af,gd⟩=true) (hS:SlZ P ty el size z b0)
 (hn:vs.length=n) (h0:Nat.ble 1 n=true) (c0:Nat.ble (n*size) 16777216=true) (hv:vs.map (·.cells.size)=List.replicate n size)
 (e0:vs.flatMap (·.cells.toList)=cs)
 (h:∀g,lo≤g→g∉gs→FL P N l (Cl M w0 w L) V K lo rest (upd e d (.slice (some ⟨g,0,none⟩) n n)) (g::gs) (fun w=>Φ w∧o0a w (g,el,cs))) (f0:a0.toList.map (fun q=>(q.1,ev e q.2))=(vs.zipIdx 0).map fun q=>(q.2,q.1):=by rfl):FL P N l (Cl M w0 w L) V K lo (i::rest) e gs Φ:=by
 have hp:(a0.map fun(i,x)=>(i,ev e x))=((vs.zipIdx 0).map fun q=>(q.2,q.1)).toArray:=by rw[←f0];apply Array.ext';simp
 have hv':∀v∈vs,v.cells.size=size:=fun v hm=>by
  have:v.cells.size∈vs.map (·.cells.size):=List.mem_map.2 ⟨v,hm,Z⟩;rw[hv] at this;exact(List.mem_replicate.1 this).2
 refine x1c (mk:=fun g=>.slice (some ⟨g,0,none⟩) n n) (t:=el) (cs:=cs) ho Z hN hw (fun w1 _=>?_) h;have d0:=J3a hS hn (Nat.le_of_ble_eq_true h0) (Nat.le_of_ble_eq_true c0) hv' w1;subst e0;simp only[execOp,hp,Sem.run_bind,d0,Result.andThen_ok,Sem.run_pure]
theorem P2b{i d:Nat}{t:TypeId}{p:String}{af:Array Edge}{gd:Option (Nat×Bool)}{x y:Operand}{rest:List Nat}
 {ty el a0 n c:Nat} {z:Value} {kl kc:IntKind} (ho:l[i]?=some ⟨some d,.makeSlice ty x y,t,p,af,gd⟩) (hN:Nat.ble (d+1) N=true) (hw:a1a l.toArray e ⟨some d,.makeSlice ty x y,t,p,af,gd⟩=true)
 (hS:SlZ P ty el 1 z a0) (hx:ev e x=.int kl (n:Int)) (hy:ev e y=.int kc (c:Int))
 (e0:z.cells=#[z])
 (h:∀g,lo≤g→g∉gs→FL P N l (Cl M w0 w L) V K lo rest (upd e d (.slice (some ⟨g,0,none⟩) n c)) (g::gs) (fun w=>Φ w∧o0a w (g,el,List.replicate c z))) (f0:n≤c:=by omega) (hb:a0*c≤140737488355328:=by omega) (hc:c≤140737488355328:=by omega):FL P N l (Cl M w0 w L) V K lo (i::rest) e gs Φ:=by
 obtain⟨ii,hi,hz,d0,c0⟩:=hS.parts;have b0:(ii.bytes:Int)*(c:Int)≤281474976710656:=by
  have:((a0*c:Nat):Int)≤281474976710656:=by omega
  rw[c0];rwa [Int.natCast_mul] at this
 refine x1c (mk:=fun g=>.slice (some ⟨g,0,none⟩) n c) (t:=el) (cs:=List.replicate c z) ho Z hN hw (fun w1 _=>?_) h;have hr:=run_make (P:=P) w1 ty el ii z hS.und hi hz kl kc n c (by omega) (by omega) b0 (by omega);have hm:madeCells z.cells (c*ii.size)=(List.replicate c z).toArray:=by
  rw[e0,d0,Nat.mul_one];apply Array.ext
  ·simp[madeCells]
  ·intro j h1 h2;simp[madeCells,Nat.mod_one]
 simp only[Int.toNat_natCast,hm] at hr;simp only[execOp,hx,hy,Sem.run_bind,hr,Result.andThen_ok,Sem.run_pure]
end
section
variable {α:Type}
def A4a(l:List α)(z:α)(k:Nat):List α:=l.take k++List.replicate (l.length-k) z
theorem O9a(l:List α)(z:α):A4a l z 0=List.replicate l.length z:=by simp[A4a]
theorem T1b(l:List α)(z:α){k:Nat}(h:l.length≤k):A4a l z k=l:=by
 unfold A4a;rw[List.take_of_length_le h,Nat.sub_eq_zero_of_le h];simp
@[simp] theorem X2c(l:List α)(z:α)(k:Nat):(A4a l z k).length=l.length:=by
 unfold A4a;simp;omega
theorem I1b{l:List α}{z v:α}{k i:Nat}(h:l[k]?=some v)(hi:i=k:=by simp):(A4a l z k).set i v=A4a l z (k+1):=by
 subst hi;obtain⟨a0,rfl⟩:=List.getElem?_eq_some_iff.1 h;unfold A4a;rw[List.set_append_right _ _ (by simp;omega)];have h1:l.length-i=(l.length-(i+1))+1:=by omega
 rw[h1,List.replicate_succ];simp only[List.length_take,Nat.min_eq_left (Nat.le_of_lt a0),Nat.sub_self,List.set_cons_zero];rw[t0a h,List.append_assoc];rfl
theorem w6b{l:List α}{z:α}{k:Nat}(h:l[k]?=some z):A4a l z k=A4a l z (k+1):=by
 obtain⟨_,_⟩:=List.getElem?_eq_some_iff.1 h;unfold A4a;have h1:l.length-k=(l.length-(k+1))+1:=by omega
 rw[h1,List.replicate_succ,t0a h];simp
end
theorem St.setEnt{M:List Nat}{w0 w:World}{L:List Ent}(S:St M w0 w L)(j:Nat){G:Option Nat}{t:TypeId}{cs a0:List Value}(hj:L[j]?=some (G,t,cs))(h:cs=a0):St M w0 w (L.set j (G,t,a0)):=by
 subst h;have:L.set j (G,t,cs)=L:=by
  obtain⟨_,he⟩:=List.getElem?_eq_some_iff.1 hj;rw[←he];simp
 rw[this];exact S
theorem St.rdInts{M M':List Nat}{w0 w:World}{L:List Ent}(S:St M' w0 w L)(j:Nat){g t n:Nat}{l:List Int}(hj:L[j]?=some (some g,t,l.map (Value.int .i64)))(hg:g∉M)(hn:n=l.length)(a0:n≤140737488355328)(hl:∀x∈l,i64 x):RdI M w (.slice (some ⟨g,0,none⟩) n n) l :=
 S.rd1 hj hg hn a0 fun i x hi=>⟨.int .i64 x,by simp[hi],Z,hl x (List.mem_of_getElem? hi)⟩
theorem O5b{α:Type}{M:List Nat}{w:World}{size:Nat}{R:List Value→α→Prop}:RdS M w size R (.slice none 0 0) []:=⟨none,0,0,Z,Z,Nat.le_refl _,by unfold maxLen;omega,by omega,fun h=>absurd h (by omega)⟩
theorem St.rdBufs{M M':List Nat}{w0 w:World}{L:List Ent}(S:St M' w0 w L)(j:Nat){g t n:Nat}{l:List (List B1a)}(hj:L[j]?=some (some g,t,List.replicate n (.slice none 0 0)))(hg:g∉M)(hn:n=l.length)(a0:n≤140737488355328)(hl:∀b∈l,b=[]):S2d M w (.slice (some ⟨g,0,none⟩) n n) l :=
 S.rd1 hj hg hn a0 fun i x hi=>by
  obtain rfl:=hl x (List.mem_of_getElem? hi);have:=(List.getElem?_eq_some_iff.1 hi).1;exact⟨.slice none 0 0,by rw[List.getElem?_replicate,if_pos (by omega)],_,Z,O5b⟩
@[simp] theorem V2c(p:i0a):(e2a p).mem.length=p.cells.length:=by simp[e2a]
@[simp] theorem u3c(p:i0a):(e2a p).at_.length=p.threads.length:=by simp[e2a]
theorem T6c{p:i0a}(hp:L1a p){m:List Int}(h:c1c p m):∀x∈m,i64 x:=fun x hx=>by
 obtain⟨i,hi,rfl⟩:=List.getElem_of_mem hx;have:=h.vals i _ (List.getElem?_eq_getElem hi);have:=a2c hp i;unfold i64;omega
theorem e2d{p:i0a}(hp:L1a p){c:D1a}(h:U2c p c):∀x∈c.at_,i64 x:=fun x hx=>by
 have:=(I8b hp h).2.1 x hx;unfold i64;omega
theorem r9b{size:Nat}:∀(css:List (List Value)) (i:Nat) (c:List Value),(∀x∈css,x.length=size)→css[i]?=some c→∀(j:Nat) (u:Value),c[j]?=some u→css.flatten[i*size+j]?=some u:=by
 intro css
 induction css with
 | nil=>intro i c _ h;simp at h
 | cons x xs ih =>
   intro i c h4 hi j u hj;have hx:=h4 x (by simp);cases i with
   | zero =>
     simp at hi;subst hi;have a0:j<x.length:=(List.getElem?_eq_some_iff.1 hj).1;rw[List.flatten_cons,Nat.zero_mul,Nat.zero_add,List.getElem?_append_left a0];exact hj
   | succ i =>
     have:=ih i c (fun y hy=>h4 y (by simp[hy])) (by simpa using hi) j u hj;have e:(i+1)*size+j=x.length+(i*size+j):=by rw[hx,Nat.add_mul];omega
     rw[List.flatten_cons,e,List.getElem?_append_right (by omega)];rw[show x.length+(i*size+j)-x.length=i*size+j by omega];exact this
theorem j3a{size:Nat}(css:List (List Value))(h4:∀x∈css,x.length=size):css.flatten.length=css.length*size:=by
 induction css with
 | nil=>simp
 | cons x xs ih=>rw[List.flatten_cons,List.length_append,ih (fun y hy=>h4 y (by simp[hy])),h4 x (by simp),List.length_cons,Nat.add_mul];omega
structure L4a {α:Type} (R:List Nat→World→List Value→α→Prop) (size:Nat):Prop where
 len:∀{M w cs x},R M w cs x→cs.length=size
 one:∀{M w cs x},R M w cs x→∀u∈cs,u.oneCell'=true
 keep:∀{M w w' cs x},z0a M w w'→R M w cs x→R M w' cs x
 more:∀{M M' w cs x},(∀g∈M',g∈M∨w.heap.size≤g)→R M w cs x→R M' w cs x
section
variable {α:Type} {R:List Nat→World→List Value→α→Prop} {size:Nat}
def w1a(R:List Nat→World→List Value→α→Prop)(size:Nat)(M:List Nat)(w:World)(G:Option Nat)(cs:List Value)(v:Value)(l:List α):Prop :=
 ∃css:List (List Value),css.length=l.length∧(∀x∈css,x.length=size)∧Z3a G size l.length cs v css.flatten∧∀(i:Nat) (x:α),l[i]?=some x→∃c,css[i]?=some c∧R (G.toList++M) w c x
theorem w1a.keep(hL:L4a R size){M:List Nat}{w w':World}{G:Option Nat}{cs:List Value}{v:Value}{l:List α}(h:w1a R size M w G cs v l)(hk:z0a (G.toList++M) w w'):w1a R size M w' G cs v l:=by
 obtain⟨css,h1,h2,h3,h4⟩:=h;refine⟨css,h1,h2,h3,fun i x hi=>?_⟩;obtain⟨c,h5,h6⟩:=h4 i x hi;exact⟨c,h5,hL.keep hk h6⟩
theorem w1a.nil{M:List Nat}{w:World}:w1a R size M w none [] (.slice none 0 0) []:=⟨[],Z,by simp,Z3a.nil size,fun i x hi=>by simp at hi⟩
theorem w1a.new{M:List Nat}{w:World}{g:Nat}:w1a R size M w (some g) [] (.slice (some ⟨g,0,none⟩) 0 0) [] :=
 ⟨[],Z,by simp,⟨by simp,.inr ⟨g,0,Z,Z,Nat.le_refl _,by unfold maxLen;omega,by simp,by simp⟩⟩,fun i x hi=>by simp at hi⟩
theorem w1a.form{M:List Nat}{w:World}{G:Option Nat}{cs:List Value}{v:Value}{l:List α}(h:w1a R size M w G cs v l):∃A c,v=.slice A l.length c:=by
 obtain⟨_,_,_,⟨_,hr⟩,_⟩:=h;rcases hr with⟨_,rfl,h0⟩|⟨g,a0,_,rfl,_⟩
 ·exact⟨_,_,by rw[h0]⟩
 ·exact⟨_,_,Z⟩
theorem w1a.rd(hL:L4a R size){M M':List Nat}{w0 w:World}{L:List Ent}{k el:Nat}{G:Option Nat}{cs:List Value}{v:Value}{l:List α}(h:w1a R size M w G cs v l)(S:St M' w0 w L)(hk:L[k]?=some (G,el,cs))(hM:∀g,G=some g→g∉M)(hl:l.length≤1000000):RdS M w size (R M w) v l:=by
 obtain⟨css,h1,h2,⟨_,hr⟩,h4⟩:=h;rcases hr with⟨rfl,rfl,h0⟩|⟨g,b0,rfl,rfl,q1,q2,q3,q4⟩
 ·exact⟨none,0,0,Z,by omega,by omega,by unfold maxLen;omega,by omega,fun h=>absurd h (by omega)⟩
 ·refine⟨_,_,_,Z,Z,q1,q2,by omega,fun _=>⟨g,0,Z,hM g Z,fun i x hi=>?_⟩⟩;obtain⟨c,h5,h6⟩:=h4 i x hi;refine⟨c,h2 c (List.mem_of_getElem? h5),fun j u hj=>?_,hL.more (fun x hx=>.inl (by simp[hx])) h6⟩;have hf:=r9b css i c h2 h5 j u hj;have a0:i*size+j<l.length*size:=by
   have:=(List.getElem?_eq_some_iff.1 hf).1;rw[j3a css h2,h1] at this;exact this
  rw[←q4,List.getElem?_take,if_pos a0] at hf;have:=S.cell k hk hf;simpa using this
theorem w1a.get{M M':List Nat}{w0 w:World}{L:List Ent}{k el:Nat}{G:Option Nat}{cs:List Value}{v:Value}{l:List α}(h:w1a R size M w G cs v l)(S:St M' w0 w L)(hk:L[k]?=some (G,el,cs)){i:Nat}{x:α}(hi:l[i]?=some x):
 ∃g a0 c,G=some g∧v=.slice (some ⟨g,0,none⟩) l.length a0∧c.length=size∧Cells w g (0+i*size) c∧R (G.toList++M) w c x:=by
 obtain⟨css,h1,h2,⟨_,hr⟩,h4⟩:=h;have c0:=(List.getElem?_eq_some_iff.1 hi).1;rcases hr with⟨rfl,rfl,h0⟩|⟨g,a0,rfl,rfl,q1,q2,q3,q4⟩
 ·omega
 ·obtain⟨c,h5,h6⟩:=h4 i x hi;refine⟨g,a0,c,Z,Z,h2 c (List.mem_of_getElem? h5),fun j u hj=>?_,h6⟩;have hf:=r9b css i c h2 h5 j u hj;have b0:i*size+j<l.length*size:=by
   have:=(List.getElem?_eq_some_iff.1 hf).1;rw[j3a css h2,h1] at this;exact this
  rw[←q4,List.getElem?_take,if_pos b0] at hf;have:=S.cell k hk hf;simpa using this
variable {P:Program} {r:Option Nat} {N:Nat} {D:List Deferred} {e:Env} {w w0:World} {ops:Array Oper} {rest:List Oper} {K:List Deferred→Env→World→Prop} {L:List Ent} {M:List Nat}
variable {d:Nat} {t:TypeId} {p:String} {af:Array Edge} {x y:Operand}
theorem u4b(hL:L4a R size){M2:List Nat}{ty el b0 k c b o m:Nat}{z v:Value}{G:Option Nat}{cs:List Value}{cs2:List (List Value)}{l l2:List α}(S:St M w0 w L)(hS:SlZ P ty el size z b0)(C0:b0≤1000)(hk:L[k]?=some (G,el,cs))(hR:w1a R size M2 w G cs v l)
 (hx:ev e x=v) (hy:ev e y=.slice (some ⟨b,o,none⟩) m c) (hm:m=l2.length) (x0:cs2.length=l2.length) (j0:Cells w b o cs2.flatten) (he:∀(i:Nat) (x:α),l2[i]?=some x→∃c,cs2[i]?=some c∧R (G.toList++M2) w c x) (H0:l.length+l2.length≤1000000) (hd:Nat.ble (d+1) N=true)
 (h:∀v' G' n0 w1,St M w0 w1 (L.set k (G',el,n0))→w1a R size M2 w1 G' n0 v' (l++l2)→z0a G.toList w w1→(∀g∈G'.toList,g∈G.toList∨w.heap.size≤g)→WL P r N ops rest K D (upd e d v') w1) :
 WL P r N ops (⟨some d,.call { callee:=.builtin .append,args:=#[x,y],argTypes:=#[ty,ty] },t,p,af,none⟩::rest) K D e w:=by
 subst hm;obtain⟨css,c1,c2,c3,c4⟩:=hR;have u0:∀x∈cs2,∃a,R (G.toList++M2) w x a:=fun x hx=>by
  obtain⟨i,hi,rfl⟩:=List.getElem_of_mem hx;obtain⟨c,h5,h6⟩:=he i l2[i] (List.getElem?_eq_getElem (by omega));rw[List.getElem?_eq_getElem hi] at h5;cases h5;exact⟨_,h6⟩
 have i0:∀x∈cs2,x.length=size:=fun x hx=>let ⟨_,ha⟩:=u0 x hx;hL.len ha;have r0:∀u∈cs2.flatten,u.oneCell'=true:=fun u hu=>by
  obtain⟨x,hx,hu⟩:=List.mem_flatten.1 hu;obtain⟨_,ha⟩:=u0 x hx;exact hL.one ha u hu
 obtain⟨i,hi,hz,G0,B0⟩:=hS.parts;obtain⟨s0,hG⟩:=c3.own S hk;have A0:(l.length+l2.length)*b0≤140737488355328:=by
  have:(l.length+l2.length)*b0≤1000000*1000:=Nat.mul_le_mul (by omega) C0;omega
 obtain⟨v',w1,t0,m0,a0,_,g0⟩:=run_append_own_at (P:=P) w 0 ty t el i z size b0 hS.und hi hz G0 B0 hS.zs hS.pos v l.length css.flatten s0 ⟨b,o,none⟩ l2.length c cs2.flatten (by rw[j3a cs2 i0,x0])
  (fun j u hj=>by rw[Addr.add_lit];exact j0 j u hj) r0 (by unfold maxLen;omega) A0 (Nat.zero_le _)
 obtain⟨G',n0,z0,o0,q0⟩:=G1b m0;have d0:∀q,q<w.heap.size→G≠some q→w1.heap[q]?=w.heap[q]?:=fun q hq F0=>a0.block q hq (fun hh=>F0 (by rw[←hG,←hh]));have f0:C0a M w0 w1:=⟨a0.os.trans S.below.os,a0.tape.trans S.below.tape,a0.output.trans S.below.output,Nat.le_trans S.size a0.size,fun q hq hm =>
  (d0 q (Nat.lt_of_lt_of_le hq S.size) (fun hh=>by
    subst hh;rcases S.new k hk with h'|h'
    ·omega
    ·exact hm h')).trans (S.below.block q hq hm)⟩
 have e0:z0a G.toList w w1:=⟨a0.size,fun q hq hm=>d0 q hq (fun hh=>hm (by rw[hh];simp))⟩;have c0:∀g∈G'.toList,g∈G.toList∨w.heap.size≤g:=by
  intro g hg;have v0:G'=some g:=by cases G' with
   | none=>simp at hg
   | some q=>simp at hg;rw[hg]
  rcases g0 with hb|hb
  ·left;have p0:G=some g:=by rw[←hG,←hb,o0];exact v0
   rw[p0];simp
  ·rw[o0,v0] at hb;cases hb;exact .inr (Nat.le_refl _)
 refine W0a (v:=v') (w':=w1) Z Z hd ?_ (h v' G' n0 w1 (S.replace k hk f0 d0 (fun g hg=>?_)) ?_ e0 c0)
 ·simp[execOp,resolve,invoke,builtin,hx,hy,t0]
 ·obtain⟨_,h3⟩:=q0 g hg;rcases g0 with hb|hb
  ·have p0:G=some g:=by rw[←hG,←hb,o0];exact hg
   subst p0;exact⟨S.new k hk,h3,.inl Z⟩
  ·have D0:G'=some g:=hg;rw[o0,D0] at hb;cases hb;exact⟨.inl S.size,h3,.inr (Nat.le_refl _)⟩
 ·have y0:∀(e2:α) (c:List Value),R (G.toList++M2) w c e2→R (G'.toList++M2) w1 c e2:=by
   intro e2 c hr;have h5:R (G.toList++(G'.toList++M2)) w c e2:=hL.more (fun g hg=>by
    rcases List.mem_append.1 hg with hg|hg
    ·exact .inl (List.mem_append_left _ hg)
    ·rcases List.mem_append.1 hg with hg|hg
     ·rcases c0 g hg with h|h
      ·exact .inl (List.mem_append_left _ h)
      ·exact .inr h
     ·exact .inl (List.mem_append_right _ hg)) hr
   exact hL.more (fun g hg=>.inl (List.mem_append_right _ hg)) (hL.keep (e0.mono (fun g hg=>List.mem_append_left _ hg)) h5)
  refine⟨css++cs2,by simp[c1,x0],fun x hx=>?_,?_,fun i x hi=>?_⟩
  ·rcases List.mem_append.1 hx with hx|hx
   ·exact c2 x hx
   ·exact i0 x hx
  ·have e1:(l++l2).length=l.length+l2.length:=by simp
   rw[e1,List.flatten_append];exact z0
  ·by_cases E0:i<l.length
   ·rw[List.getElem?_append_left E0] at hi;obtain⟨c,h5,h6⟩:=c4 i x hi;exact⟨c,by rw[List.getElem?_append_left (by omega)];exact h5,y0 _ _ h6⟩
   ·rw[List.getElem?_append_right (by omega)] at hi;obtain⟨c,h5,h6⟩:=he _ x hi;exact⟨c,by rw[List.getElem?_append_right (by omega),c1];exact h5,y0 _ _ h6⟩
theorem E1a(hL:L4a R size){M2:List Nat}{ty el a0 k c b o:Nat}{z v:Value}{G:Option Nat}{cs news:List Value}{l:List α}{e1:α}(S:St M w0 w L)(hS:SlZ P ty el size z a0)(hk:L[k]?=some (G,el,cs))(hR:w1a R size M2 w G cs v l)
 (hx:ev e x=v) (hy:ev e y=.slice (some ⟨b,o,none⟩) 1 c) (b0:Cells w b o news) (he:R (G.toList++M2) w news e1) (e0:l.length+1≤1000000) (hd:Nat.ble (d+1) N=true)
 (h:∀v' G' c0 w1,St M w0 w1 (L.set k (G',el,c0))→w1a R size M2 w1 G' c0 v' (l++[e1])→z0a G.toList w w1→(∀g∈G'.toList,g∈G.toList∨w.heap.size≤g)→WL P r N ops rest K D (upd e d v') w1) (d0:a0≤1000:=by decide) :
 WL P r N ops (⟨some d,.call { callee:=.builtin .append,args:=#[x,y],argTypes:=#[ty,ty] },t,p,af,none⟩::rest) K D e w :=
 u4b hL (cs2:=[news]) (l2:=[e1]) S hS d0 hk hR hx hy Z Z (by simpa using b0) (fun i x hi=>by
  cases i with
  | zero=>simp at hi;subst hi;exact⟨news,Z,he⟩
  | succ i=>simp at hi) (by simpa using e0) hd h
end
theorem RdS.all{α:Type}{M:List Nat}{w:World}{size:Nat}{R:List Value→α→Prop}{A:Option Addr}{n c b o:Nat}{l:List α}(h:RdS M w size R (.slice A n c) l)(hA:A=some ⟨b,o,none⟩)(h0:0<l.length):
 ∃css:List (List Value),css.length=l.length∧Cells w b o css.flatten∧∀(i:Nat) (x:α),l[i]?=some x→∃c,css[i]?=some c∧R c x:=by
 obtain⟨h1,_,_,_,h5⟩:=h.at;obtain⟨_,_,a0,_,b0⟩:=h5 (by omega);rw[hA] at a0;cases a0;have key:∀(l2:List α) (q:Nat),(∀i x,l2[i]?=some x→∃cs,cs.length=size∧Cells w b (q+i*size) cs∧R cs x)→∃css:List (List Value),css.length=l2.length∧Cells w b q css.flatten∧∀(i:Nat) (x:α),l2[i]?=some x→∃c,css[i]?=some c∧R c x:=by
  intro l2
  induction l2 with
  | nil=>intro q _;exact⟨[],Z,fun j v hj=>by simp at hj,fun i x hi=>by simp at hi⟩
  | cons a l2 ih =>
    intro q hq;obtain⟨cs,_,k2,k3⟩:=hq 0 a Z;obtain⟨css,m1,m2,m3⟩:=ih (q+size) (fun i x hi=>by
     obtain⟨cs,n1,n2,n3⟩:=hq (i+1) x (by simpa using hi);exact⟨cs,n1,by rw[show q+size+i*size=q+(i+1)*size by rw[Nat.add_mul];omega];exact n2,n3⟩)
    refine⟨cs::css,by simp[m1],fun j v hj=>?_,fun i x hi=>?_⟩
    ·rw[List.flatten_cons] at hj;by_cases c0:j<cs.length
     ·rw[List.getElem?_append_left c0] at hj;have:=k2 j v hj;simpa using this
     ·rw[List.getElem?_append_right (by omega)] at hj;have:=m2 (j-cs.length) v hj;rw[show q+size+(j-cs.length)=q+j by omega] at this;exact this
    ·cases i with
     | zero=>simp at hi;subst hi;exact⟨cs,Z,k3⟩
     | succ i =>
       obtain⟨c,h1,h2⟩:=m3 i x (by simpa using hi);exact⟨c,by simpa using h1,h2⟩
 exact key l o b0
theorem y6a.of{t s c:Int}(h1:i64 t)(h2:i64 s)(h3:i64 c):y6a [.int .i64 t,.int .i64 s,.int .i64 c] ⟨t,s,c⟩:=⟨Z,h1,h2,h3⟩
theorem E1b:L4a (fun(_:List Nat) (_:World)=>y6a) 3 where
 len h:=by rw[h.1];rfl
 one h u hu:=by rw[h.1] at hu;simp at hu;rcases hu with rfl|rfl|rfl<;>rfl
 keep _ h:=h
 more _ h:=h
theorem U7a:L4a (fun(_:List Nat) (_:World)=>N7c) 1 where
 len h:=by rw[h.1];rfl
 one h u hu:=by rw[h.1] at hu;simp at hu;subst hu;rfl
 keep _ h:=h
 more _ h:=h
theorem P3a:L4a S2a 2 where
 len h:=by obtain⟨_,_,rfl,_⟩:=h;rfl
 one h u hu:=by
  obtain⟨_,_,_,_,_,_,rfl,_⟩:=h.open_;simp at hu;rcases hu with rfl|rfl<;>rfl
 keep hk h:=S2a.keep hk _ _ h
 more hm h:=S2a.more hm _ _ h
def Z8b(M:List Nat)(w:World)(cs:List Value)(c:D1a):Prop:=i2a M w c cs
theorem getD_some{α:Type}{l:List α}{i:Nat}{x d:α}(h:l[i]?=some x):l.getD i d=x:=by rw[List.getD_eq_getElem?_getD,h];rfl
def H2b(c:D1a):Prop:=∀b∈c.buf,b=[]
theorem H2b.getD{c:D1a}(h:H2b c)(t:Nat):c.buf.getD t []=[]:=by
 rw[List.getD_eq_getElem?_getD];cases hx:c.buf[t]? with
 | none=>rfl
 | some b=>exact h b (List.mem_of_getElem? hx)
theorem H2b.view{c:D1a}(h:H2b c)(t:Nat):R6b c t=c.mem:=by unfold R6b;rw[h.getD];rfl
theorem v4a{p:i0a}{c:D1a}(h:H2b c)(t:Nat)(s:h1a):K3a p 0 c t s=(decide (c.at_.getD t 0=s.frm)&&(decide (s.guard.evl c.mem c.mem=1) &&
 (if s.kind=6 then decide (c.at_.getD s.target.toNat 0=-1) else if s.kind=7 then decide (c.at_.getD s.target.toNat 0=(p.threads.getD s.target.toNat ⟨ByteArray.empty,0,[],[],[],[],false⟩).points-1) else true))):=by
 unfold K3a;rw[h.view,h.getD,h.getD]
 congr 2
 split
 ·rename_i h3;rw[if_neg (by omega),if_neg (by omega)];simp
 ·split
  ·simp
  ·split
   ·simp
   ·split
    ·rfl
    ·simp
@[simp] theorem E2d(l:List p1a)(v m:List Int):(D2d l v m).length=m.length:=by
 unfold D2d
 induction l generalizing m with
 | nil=>rfl
 | cons a l ih=>rw[List.foldl_cons,ih,List.length_set]
def m7b(p:i0a)(m:Int)(c:D1a)(t i:Nat):Bool:=match (z4a p t)[i]? with|some s=>K3a p m c t s|none=>false
def o3a(p:i0a)(m:Int)(c:D1a)(t j:Nat):List F2a:=((List.range j).filter (m7b p m c t)).map fun(i:Nat)=>(⟨t,i,0⟩:F2a)
def j0b(m:Int)(c:D1a)(t j:Nat):List F2a:=((List.range j).filter (U1c m (c.buf.getD t []))).map fun(i:Nat)=>(⟨t,-1,((c.buf.getD t []).getD i ⟨[],[]⟩).cells.getD 0 0⟩:F2a)
def M3a(p:i0a)(m:Int)(c:D1a)(k:Nat):List F2a:=(List.range k).flatMap (n9a p m c)
theorem Z9a(p:i0a)(m:Int)(c:D1a)(t:Nat):n9a p m c t=o3a p m c t (z4a p t).length++j0b m c t (c.buf.getD t []).length:=Z
theorem t6a(p:i0a)(m:Int)(c:D1a)(k:Nat):M3a p m c (k+1)=M3a p m c k++n9a p m c k:=by
 unfold M3a;rw[List.range_succ,List.flatMap_append];simp
theorem A8a{p:i0a}{m:Int}{c:D1a}{t j:Nat}{s:h1a}(h:(z4a p t)[j]?=some s):o3a p m c t (j+1)=o3a p m c t j++(if K3a p m c t s then[⟨t,j,0⟩] else[]):=by
 unfold o3a;rw[List.range_succ,List.filter_append,List.map_append];have:m7b p m c t j=K3a p m c t s:=by unfold m7b;rw[h]
 congr 1
 cases he:K3a p m c t s<;>simp[this,he]
theorem H5b{p:i0a}{m:Int}{c:D1a}{t j:Nat}{th:G1a}{s:h1a}(h:p.threads[t]?=some th)(hs:th.steps[j]?=some s)(he:K3a p m c t s=true):o3a p m c t (j+1)=o3a p m c t j++[⟨t,j,0⟩]:=by
 rw[A8a (by rw[show z4a p t=th.steps by unfold z4a;rw[getD_some h]];exact hs),he,if_pos rfl]
theorem y9b{p:i0a}{m:Int}{c:D1a}{t j:Nat}{th:G1a}{s:h1a}(h:p.threads[t]?=some th)(hs:th.steps[j]?=some s)(he:K3a p m c t s=false):o3a p m c t (j+1)=o3a p m c t j:=by
 rw[A8a (by rw[show z4a p t=th.steps by unfold z4a;rw[getD_some h]];exact hs),he];simp
theorem r0b(p:i0a)(m:Int)(c:D1a)(t j:Nat):(o3a p m c t j).length≤j:=by
 unfold o3a;have:=List.length_filter_le (m7b p m c t) (List.range j);simpa using this
theorem F5b(m:Int)(c:D1a)(t j:Nat):(j0b m c t j).length≤j:=by
 unfold j0b;have:=List.length_filter_le (U1c m (c.buf.getD t [])) (List.range j);simpa using this
theorem H9a{p:i0a}{t:Nat}{th:G1a}(h:p.threads[t]?=some th):z4a p t=th.steps:=by unfold z4a;rw[getD_some h]
theorem s5a{p:i0a}(hp:L1a p){c:D1a}(hf:U2c p c)(m:Int):∀k,k≤p.threads.length→(M3a p m c k).length≤k*67
 | 0,_=>by simp[M3a]
 | k+1,hk=>by
   have ih:=s5a hp hf m k (by omega);rw[t6a,Z9a];have h1:=r0b p m c k (z4a p k).length;have h2:=F5b m c k (c.buf.getD k []).length;have b0:p.threads[k]?=some p.threads[k]:=List.getElem?_eq_getElem hk;rw[H9a b0] at h1 ⊢;have h3:=(hp.threads k hk).nsteps;have a0:k<c.buf.length:=by rw[hf.nbuf];exact hk
   have hb:c.buf[k]?=some c.buf[k]:=List.getElem?_eq_getElem a0;rw[getD_some hb] at h2 ⊢;have h4:=(hf.bufs k _ hb).1;simp only[List.length_append];omega
theorem W2b(p:i0a)(m:Int)(c:D1a):M3a p m c p.threads.length=X6a p m c:=Z
theorem g9c{α:Type}{a b:List α}(hl:a.length=b.length){k:Nat}(hk:a.length≤k)(h:∀i x y,i<k→a[i]?=some x→b[i]?=some y→x=y):a=b:=by
 apply List.ext_getElem hl;intro i h1 h2;exact h i _ _ (by omega) (List.getElem?_eq_getElem h1) (List.getElem?_eq_getElem h2)
def k7c{α:Type}(a b:List α)(k:Nat):Prop:=∀i x y,i<k→a[i]?=some x→b[i]?=some y→x=y
theorem k7c.zero{α:Type}{a b:List α}:k7c a b 0:=fun i x y h=>absurd h (by omega)
theorem k7c.succ{α:Type}{a b:List α}{k:Nat}(h:k7c a b k){x y:α}(hx:a[k]?=some x)(hy:b[k]?=some y)(he:x=y):k7c a b (k+1):=fun i x' y' hi h1 h2=>by
 by_cases a0:i=k
 ·subst a0;rw[hx] at h1;rw[hy] at h2;cases h1;cases h2;exact he
 ·exact h i x' y' (by omega) h1 h2
theorem k7c.all{α:Type}{a b:List α}{k:Nat}(h:k7c a b k)(hl:a.length=b.length)(hk:a.length≤k):a=b:=g9c hl hk h
theorem B1a.ext'{a b:B1a}(h1:a.cells=b.cells)(h2:a.values=b.values):a=b:=by cases a;cases b;simp_all
theorem D1a.ext'{a b:D1a}(h1:a.mem=b.mem)(h2:a.at_=b.at_)(h3:a.buf=b.buf):a=b:=by cases a;cases b;simp_all
theorem F2a.ext'{a b:F2a}(h:a.thread=b.thread∧a.step=b.step∧a.cell=b.cell):a=b:=by cases a;cases b;simp_all
theorem Z8b.keep{M:List Nat}{w w':World}(hk:z0a M w w'):∀cs c,Z8b M w cs c→Z8b M w' cs c:=fun _ _ h=>i2a.keep hk h
theorem Z8b.less{M M':List Nat}{w:World}(hk:∀g∈M',g∈M):∀cs c,Z8b M w cs c→Z8b M' w cs c:=fun _ _ h=>i2a.less hk h
theorem w8a(p:i0a)(M:List Nat)(w0:World)(cs:List Value)(hI:InP p M w0 cs):
 O0a prog 68 #[.agg cs.toArray] w0 fun v w'=>v=.bool true∧Below w0.heap.size w0 w':=by
 obtain⟨_,_,_,_,_,_,_,_,_,_,_,_,rfl,_⟩:=hI.rd.open_;have S:=St.refl w0;refine a0a func68 Z ntmps68 Z ?_;refine wO0 Z U (q0a S Z ?_);intro g1 w1 S1 X1 G1;refine lO S1.k [.w 0] Z ⟨⟨Z,by rfl⟩,U⟩ (U0a S1 C4b Z Z (q7a p M _ _ (hI.keep (S1.keep0 M)).rd hI.ok (hI.keep (S1.keep0 M)).msk (hI.keep (S1.keep0 M)).lt) ?_);intro w8 S8 X8;refine lB0 Z U (fun a0=>?_) (fun a0=>by exfalso;omega);exact lT Z U Z ⟨Z,S8.fin⟩
theorem m6b(p:i0a)(c:D1a)(M:List Nat)(w0:World)(cs xs:List Value)(hI:InP p M w0 cs)(hX:i2a M w0 c xs)(hf:U2c p c)(he:∀b∈c.buf,b=[]):
 O0a prog 69 #[.agg cs.toArray,.agg xs.toArray] w0 fun v w'=>v=.bool true∧Below w0.heap.size w0 w':=by
 obtain⟨Ac,nc,cc,Am,nm,cm,Al,nl,cl,At,nt,ct,rfl,hC,_,_,j1,_⟩:=hI.rd.open_;obtain⟨Xm,xm,ym,Xa,xa,ya,Xb,xb,yb,rfl,x0,i1,i0,_,_,j0,_⟩:=hX.open_;have S:=St.refl w0;have f1:=hf.mem.len;have f2:=hf.nat;have f3:=hf.nbuf;refine a0a func69 Z ntmps69 Z ?_;refine wO0 Z U (q0a S Z ?_);intro g2 w2 S2 X2 G2;refine q0a S2 Z ?_;intro g3 w3 S3 X3 G3;refine lB S3.k [.o 0,.o 1] Z ⟨Z,Z,U⟩ (fun V0=>by exfalso;omega) fun V0=>?_;refine lB S3.k [.o 0,.o 1] Z ⟨Z,Z,U⟩ (fun W0=>by exfalso;omega) fun W0=>?_;refine lB S3.k [.o 0,.o 1] Z ⟨Z,Z,U⟩ (fun X0=>by exfalso;omega) fun X0=>?_;refine lC S3.k [.o 0] Z ⟨Z,U⟩ (wL (fun μk D ε w=>D=[]∧∃k:Nat,(k+μk=(c.mem.length))∧St [] w0 w [(some g3,71,[.slice Xm xm ym,.slice Xa xa ya,.slice Xb xb yb]),(some g2,27,[.slice Ac nc cc,.slice Am nm cm,.slice Al nl cl,.slice At nt ct])]∧Sl ε [(2,.pointer (some ⟨g2,0,none⟩)),(3,.pointer (some ⟨g3,0,none⟩)),(36,.slice Xm xm ym),(37,.int .i64 xm),(38,.int .i64 k)]) (μ:=(c.mem.length)) ⟨Z,0,by omega,S3,Z⟩ ?_);rintro μk D ε w ⟨rfl,k,hk,S,eZ⟩;refine wK eZ (wB0 Z U (fun Y0=>?_) fun Y0=>?_)
 ·obtain⟨v,Q0,m1,_,J0,r0,_,_,y0,E0⟩:=RdS.get (x0) (k) (by omega);obtain⟨rfl,_⟩:=id E0;have q1:=hf.mem.vals k v J0;refine lB (S.k.a y0) [.x Q0 m1,.f 0 0] Z ⟨Z,⟨r0,by omega⟩,U⟩ (fun Z0=>by exfalso;omega) fun Z0=>?_;obtain⟨x,R0,n1,_,O0,s0,_,_,z0,F0⟩:=RdS.get (hC) (k) (by omega);obtain⟨rfl,_⟩:=t2a.open_ F0;have q2:=(hI.ok.cells x (e0a O0)).w;rw[W3d O0,D2a] at q1;refine lO (S.k.a z0) [.o 1,.x R0 n1,.f 0 1] Z ⟨Z,⟨s0,by omega⟩,Z,U⟩ ?_;rw[show x.w=((x.w.toNat:Nat):Int) by omega];refine z5c (n:=x.w.toNat) Z (by rfl) Z ?_;refine lB0 Z U (fun a1=>by exfalso;omega) fun a1=>?_;refine lP0 Z ⟨by omega,U⟩ ⟨μk-1,by omega,Z,(k+1),(by omega),S,Z⟩
 refine lC S.k [.o 0] Z ⟨Z,U⟩ (wL (fun μk D ε w=>D=[]∧∃k:Nat,(k+μk=(c.at_.length))∧St [] w0 w [(some g3,71,[.slice Xm xm ym,.slice Xa xa ya,.slice Xb xb yb]),(some g2,27,[.slice Ac nc cc,.slice Am nm cm,.slice Al nl cl,.slice At nt ct])]∧Sl ε [(2,.pointer (some ⟨g2,0,none⟩)),(3,.pointer (some ⟨g3,0,none⟩)),(58,.slice Xa xa ya),(59,.int .i64 xa),(60,.int .i64 k)]) (μ:=(c.at_.length)) ⟨Z,0,by omega,S,Z⟩ ?_);rintro μk D ε w ⟨rfl,k,hk,S,eZ⟩;refine wK eZ (wB0 Z U (fun b1=>?_) fun b1=>?_)
 ·obtain⟨v,S0,o1,_,J0,t0,_,_,A0,G0⟩:=RdS.get (i1) (k) (by omega);obtain⟨rfl,_⟩:=id G0;obtain⟨th,T0,p1,_,I0,u0,_,C0,B0,H0⟩:=RdS.get (j1) (k) (by omega);obtain⟨_,_,_,_,_,_,_,_,_,_,_,_,rfl,_⟩:=M0a.open_ H0;have q1:=hf.atr k v J0 th I0;refine lO ((S.k.a B0).a A0) [.x S0 o1,.f 0 0,.o 1,.x T0 p1,.v 1] Z ⟨⟨Z,C0⟩,⟨u0,by omega⟩,Z,Z,⟨t0,by omega⟩,U⟩ (h0a S e7a Z Z ?_);intro g9 w9 S9 X9 G9;refine b0a (kk:=0) (vs:=[_,_,_,_,_,_,_]) S9 Y6a Z Z Z Z Z Z Z ?_;intro P0 a0 N0;dsimp only[d0a,List.set] at a0;refine lB0 Z U (fun c1=>by exfalso;omega) fun c1=>?_;refine lB a0.k [.o 0] Z ⟨Z,U⟩ (fun d1=>by exfalso;omega) fun d1=>?_;refine lB0 Z U (fun g1=>?_) fun g1=>?_
  ·refine lO0 Z U ?_;cases b0:th.asleep
   ·refine J0a L2a Z (by exact(a0.cell 0 Z Z).trans (congrArg (fun b=>some (Value.bool b)) b0)) Z ?_;rw[q1.2.2 (by omega)] at b0;refine lR0 Z U (w0a Z ?_);cases b0
   refine J0a L2a Z (by exact(a0.cell 0 Z Z).trans (congrArg (fun b=>some (Value.bool b)) b0)) Z ?_;rw[q1.2.2 (by omega)] at b0;obtain⟨b,n0,L0,U0,j0,d0,v0,D0,e0,f0⟩:=RdS.get (i0) (k) (by omega);obtain⟨m0,K0,p0,rfl,g0,c0,o0⟩:=I3b.open_ f0;have q2:=he b (e0a j0);subst q2;simp only[List.length_nil] at c0;refine lB (a0.k.a e0) [.o 1,.x n0 L0,.f 0 0] Z ⟨Z,⟨d0,by omega⟩,Z,U⟩ (fun q0=>by exfalso;omega) fun q0=>?_;refine lP0 Z ⟨by omega,U⟩ ⟨μk-1,by omega,Z,(k+1),(by omega),a0.tail,Z⟩
  obtain⟨b,n0,L0,U0,j0,d0,v0,D0,e0,f0⟩:=RdS.get (i0) (k) (by omega);obtain⟨m0,K0,p0,rfl,g0,c0,o0⟩:=I3b.open_ f0;have q2:=he b (e0a j0);subst q2;simp only[List.length_nil] at c0;refine lB (a0.k.a e0) [.o 1,.x n0 L0,.f 0 0] Z ⟨Z,⟨d0,by omega⟩,Z,U⟩ (fun q0=>by exfalso;omega) fun q0=>?_;refine lP0 Z ⟨by omega,U⟩ ⟨μk-1,by omega,Z,(k+1),(by omega),a0.tail,Z⟩
 exact lT Z U Z ⟨Z,S.fin⟩
theorem J3b(p:i0a)(M:List Nat)(w0:World)(cs:List Value)(hI:InP p M w0 cs):
 O0a prog 31 #[.agg cs.toArray] w0 fun v w'=>(∃xs,v=.agg xs.toArray∧i2a M w' (e2a p) xs)∧Below w0.heap.size w0 w':=by
 obtain⟨Ac,nc,cc,Am,nm,cm,Al,nl,cl,At,nt,ct,rfl,hC,_,_,S0,E0,_,_,t0,bc,_,_,bt⟩:=hI.rd.open_;have S:=St.refl w0;have hp:=hI.ok;have n1:=hp.ncells;have n2:=hp.nthreads;refine a0a func31 Z ntmps31 Z ?_;refine wO0 Z U (q0a S Z ?_);intro g1 w1 S1 X1 G1;refine h0a S1 V1d Z Z ?_;intro g2 w2 S2 X2 G2;refine lO S2.k [.w 1] Z ⟨⟨Z,Z⟩,U⟩ (U0a S2 U5c Z Z (w8a p M _ _ (hI.keep (S2.keep0 M))) ?_);intro w7 S7 X7;refine lC0 Z U (b5c c0a [0,1,2,3,4,5,6,7,8,9,10,11,12,13] 14 (Cl _ _ _ _) (Cl.start S7) _ Z ?_);refine N8a Z Z ?_;refine K0a P6b Z Z ?_;refine n0a ?_;refine N8a Z Z ?_;refine m0a y9a Z (fun w1 hw=>by exact hw.1.cell 1 Z Z) Z ?_;refine n0a ?_;refine r8b Z z3a.slT Z Z ?_;refine P2b (n:=nc) (c:=nc) Z Z Z Y0a Z Z Z ?_;intro j0 J0 x0;refine N8a Z Z ?_;refine K0a X9a Z Z ?_;refine n0a ?_;refine N8a Z Z ?_;refine m0a D7b Z (fun w1 hw=>by exact hw.1.cell 1 Z Z) Z ?_;refine n0a ?_;refine r8b Z v8a.slT Z Z ?_;refine P2b (n:=nt) (c:=nt) Z Z Z Y0a Z Z Z ?_;intro g17 K0 y0;refine N8a Z Z ?_;refine K0a X9a Z Z ?_;refine n0a ?_;refine N8a Z Z ?_;refine m0a D7b Z (fun w1 hw=>by exact hw.1.cell 1 Z Z) Z ?_;refine n0a ?_;refine r8b Z v8a.slT Z Z ?_;refine P2b (n:=nt) (c:=nt) Z Z Z X5c Z Z Z ?_;intro m0 L0 z0;refine N8a Z Z ?_;refine r3a M0d (vs:=[(0,.slice _ _ _),(1,.slice _ _ _),(2,.slice _ _ _)]) (cs:=[_,_,_]) Z Z Z Z ?_;refine n0a ?_;refine i3b Z Z Z V1d Z ?_;intro g3 G3 V0;refine A7b ?_;rintro Y0 ⟨b0,_⟩ ⟨⟨⟨⟨-,q0⟩,r0⟩,s0⟩,T0⟩;clear x0;replace b0:=b0.push_new S7 q0 J0;replace b0:=b0.push_more (L1:=[_]) S7 r0 K0 (by simpa[eq_comm] using y0);replace b0:=b0.push_more (L1:=[_,_]) S7 s0 L0 (by simpa[eq_comm] using z0);replace b0:=b0.push_more (L1:=[_,_,_]) S7 T0 G3 (by simpa[eq_comm] using V0);refine b0a (kk:=0) (vs:=[_,_,_]) b0 o1d Z Z Z Z Z Z Z ?_;intro H0 a0 C0;dsimp only[d0a,List.set] at a0;refine A0a ⟨Z,?_⟩;refine fC a0.k [.o 5] Z ⟨Z,U⟩ ?_;refine wL (fun μk D ε w=>D=[]∧∃k:Nat,(k+μk=(p.cells.length))∧St [] w0 w [(some g3,71,[.slice (some ⟨j0,0,none⟩) nc nc,.slice (some ⟨g17,0,none⟩) nt nt,.slice (some ⟨m0,0,none⟩) nt nt]),(some m0,189,(List.replicate nt (.slice none 0 0))),(some g17,3,(List.replicate nt (.int .i64 0))),(some j0,3,A4a ((e2a p).mem.map (Value.int .i64)) (.int .i64 0) k),(some g2,71,[.slice none 0 0,.slice none 0 0,.slice none 0 0]),(some g1,27,[.slice Ac nc cc,.slice Am nm cm,.slice Al nl cl,.slice At nt ct])]∧Sl ε [(1,.pointer (some ⟨g1,0,none⟩)),(2,.pointer (some ⟨g2,0,none⟩)),(3,.pointer (some ⟨g3,0,none⟩)),(25,.int .i64 nc),(26,.int .i64 k)]) (μ:=(p.cells.length)) ⟨Z,0,by omega,(a0.setEnt 3 Z (by rw[O9a];simp[e2a,E0])),Z⟩ ?_;rintro μk D ε w ⟨rfl,k,_,S,eZ⟩;refine wK eZ (wB0 Z U (fun Q0=>?_) fun Q0=>?_)
 ·refine lC0 Z U (H0a c0a [0,1,2,3,4,5,6,7,8,9] [] [10] Z (Cl _ _ _ _) (Cl.start S) ?_);obtain⟨x,O0,W0,_,U0,n0,_,_,p0,u0⟩:=RdS.get (hC) (k) (by omega);obtain⟨rfl,_⟩:=t2a.open_ u0;refine qO (S.q.a p0) [.o 0,.o 5,.x O0 W0,.f 0 2] Z ⟨Z,⟨n0,by omega⟩,Z,Z,U⟩ (s0a Y0a.slT Z (by rfl) Z Z ?_);refine qD Z U ?_;rintro Z0 ⟨N0,_⟩
  first|refine T0a (kk:=3) N0 R2c Z Z Z (by(simp;omega)) ?_
  intro I0 f0 D0;refine lP0 Z ⟨by omega,U⟩ ⟨μk-1,by omega,Z,(k+1),(by omega),(f0.setEnt 3 Z (I1b (by simp[e2a,U0]))),Z⟩
 refine lC S.k [.o 5] Z ⟨Z,U⟩ ?_;refine wL (fun μj D ε w=>D=[]∧∃j:Nat,(j+μj=(p.threads.length))∧St [] w0 w [(some g3,71,[.slice (some ⟨j0,0,none⟩) nc nc,.slice (some ⟨g17,0,none⟩) nt nt,.slice (some ⟨m0,0,none⟩) nt nt]),(some m0,189,(List.replicate nt (.slice none 0 0))),(some g17,3,A4a ((e2a p).at_.map (Value.int .i64)) (.int .i64 0) j),(some j0,3,(e2a p).mem.map (Value.int .i64)),(some g2,71,[.slice none 0 0,.slice none 0 0,.slice none 0 0]),(some g1,27,[.slice Ac nc cc,.slice Am nm cm,.slice Al nl cl,.slice At nt ct])]∧Sl ε [(1,.pointer (some ⟨g1,0,none⟩)),(2,.pointer (some ⟨g2,0,none⟩)),(3,.pointer (some ⟨g3,0,none⟩)),(42,.int .i64 nt),(43,.int .i64 j)]) (μ:=(p.threads.length)) ⟨Z,0,by omega,((S.setEnt 3 Z (T1b _ _ (by simp[e2a];omega))).setEnt 2 Z (by rw[O9a];simp[e2a,t0])),Z⟩ ?_;rintro μj D ε w ⟨rfl,j,_,S,eZ⟩;refine wK eZ (wB0 Z U (fun R0=>?_) fun R0=>?_)
 ·obtain⟨th,P0,X0,_,i0,o0,_,_,g0,v0⟩:=RdS.get (S0) (j) (by omega);obtain⟨_,_,_,_,_,_,_,_,_,_,_,_,rfl,_⟩:=M0a.open_ v0;refine lO S.k [.o 5,.x P0 X0] Z ⟨⟨o0,by omega⟩,Z,U⟩ ?_;cases c0:th.asleep
  ·refine J0a L2a Z (by exact(S.old (g0 _ _ Z)).trans (congrArg (fun b=>some (Value.bool b)) c0)) Z ?_;refine lP0 Z ⟨by omega,U⟩ ⟨μj-1,by omega,Z,(j+1),(by omega),(S.setEnt 2 Z (by exact w6b (by simp[e2a,i0,c0]))),Z⟩
  refine J0a L2a Z (by exact(S.old (g0 _ _ Z)).trans (congrArg (fun b=>some (Value.bool b)) c0)) Z ?_;refine lO S.k [.o 0] Z ⟨Z,U⟩ (N0a Y0a.slT Z (by rfl) Z Z ?_)
  first|refine T0a (kk:=2) S R2c Z Z Z (by(simp;omega)) ?_
  intro F0 e0 A0;refine lP0 Z ⟨by omega,U⟩ ⟨μj-1,by omega,Z,(j+1),(by omega),(e0.setEnt 2 Z (by exact I1b (by simp[e2a,i0,c0]))),Z⟩
 refine lO S.k [.w 0] Z ⟨⟨Z,Z⟩,U⟩ ?_
 first|refine b0a (kk:=4) (vs:=[_,_,_]) S o1d Z Z Z Z Z Z Z ?_
 intro G0 d0 B0;dsimp only[d0a,List.set] at d0;refine lR0 Z U ?_;have SF:=d0.setEnt 2 Z (T1b _ _ (by simp[e2a];omega));have hf:=H4b hp;exact g0a (n:=3) Z U0c Z (SF.cells 4 Z) Z ⟨⟨_,Z,_,_,_,Z,SF.rdInts 3 Z (N2a hI.lt (SF.new 3 Z)) (by simp[e2a,E0]) bc (T6c hp hf.mem),SF.rdInts 2 Z (N2a hI.lt (SF.new 2 Z)) (by simp[e2a,t0]) bt (e2d hp hf),SF.rdBufs 1 Z (N2a hI.lt (SF.new 1 Z)) (by simp[e2a,t0]) bt (by simp[e2a])⟩,SF.fin⟩
theorem b1b(p:i0a)(c:D1a)(t i:Nat)(th:G1a)(s:h1a)(M:List Nat)(w0:World)(cs xs:List Value)(hI:InP p M w0 cs)(hX:i2a M w0 c xs)(hf:U2c p c)(he:H2b c)(f0:p.threads[t]?=some th)(Q0:th.steps[i]?=some s):
 O0a prog 127 #[.agg cs.toArray,.agg xs.toArray,.int .i64 t,.int .i64 i] w0 fun v w'=>v=.bool (K3a p 0 c t s)∧Below w0.heap.size w0 w':=by
 obtain⟨_,_,_,_,_,_,_,_,_,_,_,_,rfl,_,_,_,U0,_⟩:=hI.rd.open_;obtain⟨_,_,_,_,_,_,_,_,_,rfl,i0,y0,_,_,d0,g0,_⟩:=hX.open_;have S:=St.refl w0;have f2:=hf.nat;have hp:=hI.ok;have ht:=t4a f0;have hi:=t4a Q0;have i1:=hp.thread f0;have g1:=i1.steps s (e0a Q0);have V0:6≤s.kind→0≤s.target∧s.target<p.threads.length:=fun h=>(g1.row.k6 h).1;refine a0a func127 Z ntmps127 Z ?_;refine wO0 Z U (q0a S Z ?_);intro g4 w4 S4 X4 G4;refine q0a S4 Z ?_;intro g5 w5 S5 X5 G5;obtain⟨_,Z0,j1,_,O0,r0,_,_,A0,H0⟩:=RdS.get (U0) (t) (by omega);obtain rfl:=Option.some.inj (f0.symm.trans O0);obtain⟨_,_,_,_,_,_,_,_,_,_,_,_,rfl,_,_,_,j0,_⟩:=M0a.open_ H0;obtain⟨_,a1,m1,_,P0,s0,_,G0,B0,I0⟩:=RdS.get (j0) (i) (by omega);obtain rfl:=Option.some.inj (Q0.symm.trans P0);obtain⟨_,_,_,_,_,_,rfl,⟨_,_⟩,z0,_⟩:=v1a.open_ I0;refine lO ((S5.k.a B0).a A0) [.o 1,.x Z0 j1,.f 0 4,.x a1 m1,.v 1] Z ⟨⟨Z,G0⟩,⟨s0,by omega⟩,Z,⟨r0,by omega⟩,Z,U⟩ (h0a S5 e6b Z Z ?_);intro g9 w9 S9 X9 G9;refine b0a (kk:=0) (vs:=[_,_,_,_,_,_,_,_,_,_,_]) S9 U6b Z Z Z Z Z Z Z ?_;intro W0 a0 S0;dsimp only[d0a,List.set] at a0;refine lC0 Z U (H0a c0a [0,1,2,3,4,5,6,7,8,9,10,11,12,13,14,15,16,17] [] [] Z (Cl _ _ _ _) (Cl.start a0) ?_);obtain⟨a,b1,n1,_,d0,t0,_,_,C0,J0⟩:=RdS.get (y0) (t) (by omega);obtain⟨rfl,_⟩:=id J0;refine qB (a0.q.a C0) [.o 1,.x b1 n1,.f 0 0,.o 0] Z ⟨Z,Z,⟨t0,by omega⟩,Z,U⟩ (fun c0=>?_) fun c0=>?_
 ·refine qD Z U ?_;rintro X0 ⟨b0,T0⟩;refine lT Z U Z ⟨congrArg Value.bool ?_,b0.fin⟩;rw[v4a he,getD_some d0];simp[c0];done
 refine qO a0.q [.o 0,.o 1,.o 1] Z ⟨Z,Z,Z,U⟩ (X1a Q3b Z Z (fun w1 S1 X1=>t0b s.guard M _ _ _ _ c.mem c.mem (RdE.keep (S1.keep0 M) _ _ z0) (hI.keep (S1.keep0 M)).msk (i0.keep (S1.keep0 M)) (i0.keep (S1.keep0 M))) ?_);refine qB0 Z U (fun e0=>?_) fun e0=>?_
 ·refine qD Z U ?_;rintro X0 ⟨b0,T0⟩;refine lT Z U Z ⟨congrArg Value.bool ?_,b0.fin⟩;rw[v4a he,getD_some d0];simp[c0,e0];done
 refine qD Z U ?_;rintro X0 ⟨b0,T0⟩;refine lB b0.k [.o 0] Z ⟨Z,U⟩ (fun m0=>?_) fun m0=>?_
 ·have q6:=V0 (by omega);obtain⟨b,c1,o1,_,g0,u0,_,_,D0,K0⟩:=RdS.get (y0) (s.target.toNat) (by omega);obtain⟨rfl,_⟩:=id K0;refine lB (b0.k.a D0) [.o 1,.o 0,.x c1 o1,.f 0 0] Z ⟨Z,⟨u0,by omega⟩,Z,Z,U⟩ (fun p0=>?_) fun p0=>?_
  ·refine lT Z U Z ⟨congrArg Value.bool ?_,b0.fin⟩;rw[v4a he,getD_some d0];simp[c0,e0,m0,g0,p0];done
  refine lT Z U Z ⟨congrArg Value.bool ?_,b0.fin⟩;rw[v4a he,getD_some d0];simp[c0,e0,m0,g0,p0];done
 refine lB0 Z U (fun n0=>?_) fun n0=>?_
 ·refine lC0 Z U (H0a c0a [0,1,2,3,4,5,6,7,8,9,10,11,12,13,14,15] [] [] Z (Cl _ _ _ _) (Cl.start b0) ?_);have q6:=V0 (by omega);obtain⟨b,d1,p1,_,g0,v0,_,_,E0,L0⟩:=RdS.get (y0) (s.target.toNat) (by omega);obtain⟨rfl,_⟩:=id L0;obtain⟨_,f1,q1,_,R0,x0,_,_,F0,N0⟩:=RdS.get (U0) (s.target.toNat) (by omega);obtain⟨_,_,_,_,_,_,_,_,_,_,_,_,rfl,_⟩:=M0a.open_ N0;have q7:=(hp.thread R0).points;refine qB ((b0.q.a F0).a E0) [.o 1,.o 0,.x d1 p1,.f 0 0,.o 2,.o 0,.x f1 q1,.f 1 1] Z ⟨by omega,Z,⟨x0,by omega⟩,Z,Z,Z,⟨v0,by omega⟩,Z,Z,U⟩ (fun q0=>?_) fun q0=>?_
  ·refine qD Z U ?_;rintro r1 ⟨o0,Y0⟩;refine lT Z U Z ⟨congrArg Value.bool ?_,o0.fin⟩;rw[v4a he,getD_some d0];simp[c0,e0,n0,g0,R0,q0];done
  refine qD Z U ?_;rintro r1 ⟨o0,Y0⟩;refine lT Z U Z ⟨congrArg Value.bool ?_,o0.fin⟩;rw[v4a he,getD_some d0];simp[c0,e0,n0,g0,R0,q0];done
 refine lT Z U Z ⟨congrArg Value.bool ?_,b0.fin⟩;rw[v4a he,getD_some d0];simp[c0,e0,m0,n0];done
theorem R0b(p:i0a)(c:D1a)(M:List Nat)(w0:World)(cs xs:List Value)(hI:InP p M w0 cs)(hX:i2a M w0 c xs)(hf:U2c p c)(he:H2b c):
 O0a prog 70 #[.agg cs.toArray,.agg xs.toArray] w0 fun v w'=>I3d M w' v (X6a p 0 c)∧Below w0.heap.size w0 w':=by
 obtain⟨Ac,nc,cc,Am,nm,cm,Al,nl,cl,At,nt,ct,rfl,_,_,_,x0,_⟩:=hI.rd.open_;obtain⟨Xm,xm,ym,Xa,xa,ya,Xb,xb,yb,rfl,_⟩:=hX.open_;have S:=(St.refl w0).nilEnt 75;have hp:=hI.ok;have n2:=hp.nthreads;refine a0a func70 Z ntmps70 Z ?_;refine wO0 Z U (q0a S Z ?_);intro g2 w2 S2 X2 G2;refine q0a S2 Z ?_;intro g3 w3 S3 X3 G3;refine lC S3.k [.o 1] Z ⟨Z,U⟩ (wL (fun μk D ε w=>D=[]∧∃k:Nat,∃G:Option Nat,∃f0:List Value,∃v:Value,(k+μk=(p.threads.length))∧(w1a (fun _ _=>y6a) 3 [] w0 G f0 v (M3a p 0 c k))∧St [] w0 w [(some g3,71,[.slice Xm xm ym,.slice Xa xa ya,.slice Xb xb yb]),(some g2,27,[.slice Ac nc cc,.slice Am nm cm,.slice Al nl cl,.slice At nt ct]),(G,75,f0)]∧Sl ε [(2,.pointer (some ⟨g2,0,none⟩)),(3,.pointer (some ⟨g3,0,none⟩)),(5,v),(10,.int .i64 nt),(11,.int .i64 k)]) (μ:=(p.threads.length)) ⟨Z,0,none,[],.slice none 0 0,by omega,w1a.nil,S3,Z⟩ ?_);rintro μk D ε w ⟨rfl,k,G,f0,v,_,d0,S,eZ⟩;refine wK eZ (wB0 Z U (fun u0=>?_) fun u0=>?_)
 ·obtain⟨th,s0,y0,_,b0,i0,_,_,j0,m0⟩:=RdS.get (x0) (k) (by omega);obtain⟨_,_,_,_,_,_,_,o0,_,_,_,_,rfl,_⟩:=M0a.open_ m0;have G0:=(hp.thread b0).nsteps;refine lC (S.k.a j0) [.o 1,.x s0 y0,.f 0 4] Z ⟨Z,⟨i0,by omega⟩,Z,U⟩ (wL (fun μj D ε w=>D=[]∧∃j:Nat,∃G2:Option Nat,∃cs2:List Value,∃v2:Value,(j+μj=(th.steps.length))∧(w1a (fun _ _=>y6a) 3 [] w0 G2 cs2 v2 (M3a p 0 c k++o3a p 0 c k j))∧St [] w0 w [(some g3,71,[.slice Xm xm ym,.slice Xa xa ya,.slice Xb xb yb]),(some g2,27,[.slice Ac nc cc,.slice Am nm cm,.slice Al nl cl,.slice At nt ct]),(G2,75,cs2)]∧Sl ε [(2,.pointer (some ⟨g2,0,none⟩)),(3,.pointer (some ⟨g3,0,none⟩)),(5,v2),(6,.int .i64 k),(10,.int .i64 nt),(11,.int .i64 k),(20,.int .i64 o0),(21,.int .i64 j)]) (μ:=(th.steps.length)) ⟨Z,0,G,f0,v,by omega,by simpa[o3a] using d0,S,Z⟩ ?_);rintro μj D ε w ⟨rfl,j,G2,cs2,v2,_,a0,S,eZ⟩;refine wK eZ (wB0 Z U (fun v0=>?_) fun v0=>?_)
  ·refine lO S.k [.w 1,.w 0] Z ⟨⟨Z,Z⟩,⟨Z,Z⟩,U⟩ ?_;obtain⟨s,n0⟩:∃s,th.steps[j]?=some s:=⟨th.steps[j]'(by omega),List.getElem?_eq_getElem _⟩;refine f0a S j9c Z Z (b1b p c k j th s M _ _ _ (hI.keep (S.keep0 M)) (hX.keep (S.keep0 M)) hf he b0 n0) (fun g0 z0 e0 r0=>?_) (fun g0 z0 e0 r0=>?_)
   ·refine lOn 4 e0.k [] Z U (L0a Z ?_);refine lO0 Z U (i1a d0d (vs:=[(0,.int .i64 _),(1,.int .i64 _)]) (cs:=[_,_,_]) Z Z Z Z ?_);refine y0a e0 t7b (vs:=[.agg _]) (cs:=[_,_,_]) Z Z Z Z Z Z ?_;intro F0 I0 p0 D0 B0;have l1:=s5a hp hf 0 k (by omega);have l2:=r0b p 0 c k j;refine E1a E1b (k:=3) (M2:=[]) (e1:=⟨k,j,0⟩) p0 t7b Z a0 Z Z (p0.cells 0 Z) (y6a.of (by unfold i64;omega) (by unfold i64;omega) (by unfold i64;omega)) (by rw[List.length_append];omega) Z ?_;intro H0 C0 t0 J0 q0 c0 E0 A0;refine D0a Z ?_;refine lP0 Z ⟨by omega,U⟩ ⟨μj-1,by omega,Z,(j+1),(_),(_),(_),(by omega),?_,q0.tail,Z⟩;rw[H5b b0 n0 g0,←List.append_assoc];exact c0
   refine lP0 Z ⟨by omega,U⟩ ⟨μj-1,by omega,Z,(j+1),(_),(_),(_),(by omega),?_,e0,Z⟩;rw[y9b b0 n0 g0];exact a0
  refine lP0 Z ⟨by omega,U⟩ ⟨μk-1,by omega,Z,(k+1),(_),(_),(_),(by omega),?_,S,Z⟩;rw[t6a,Z9a,H9a b0,he.getD];rw[show th.steps.length=j by omega];rw[show o3a p 0 c k j++j0b 0 c k ([]:List B1a).length=o3a p 0 c k j by simp[j0b]];exact a0
 refine lOn 8 S.k [] Z U (L0a Z ?_);refine D0a Z ?_;refine lR0 Z U (w0a Z ?_);obtain rfl:k=p.threads.length:=by omega
 have l1:=s5a hp hf 0 _ (Nat.le_refl _);rw[W2b] at l1;exact⟨w1a.rd (M:=M) E1b d0 S (k:=2) Z (fun g hg=>by subst hg;exact N2a hI.lt (S.new 2 Z)) (by omega),S.fin⟩
theorem Y7a(p:i0a)(c:D1a)(M:List Nat)(w0:World)(cs xs:List Value)(hI:InP p M w0 cs)(hX:i2a M w0 c xs)(hf:U2c p c)(he:H2b c):
 O0a prog 32 #[.agg cs.toArray,.agg xs.toArray] w0 fun v w'=>I3d M w' v (X6a p 0 c)∧Below w0.heap.size w0 w':=by
 obtain⟨_,_,_,_,_,_,_,_,_,_,_,_,rfl,_⟩:=hI.rd.open_;obtain⟨_,_,_,_,_,_,_,_,_,rfl,_⟩:=hX.open_;have S:=St.refl w0;refine a0a func32 Z ntmps32 Z ?_;refine wO0 Z U (q0a S Z ?_);intro g2 w2 S2 X2 G2;refine q0a S2 Z ?_;intro g3 w3 S3 X3 G3;refine lO S3.k [.w 1] Z ⟨⟨Z,by rfl⟩,U⟩ (U0a S3 U5c Z Z (w8a p M _ _ (hI.keep (S3.keep0 M))) ?_);intro w6 S6 X6;refine lO S6.k [.w 1,.w 0] Z ⟨⟨Z,by rfl⟩,⟨Z,by rfl⟩,U⟩ (U0a S6 a0d Z Z (m6b p c M _ _ _ (hI.keep (S6.keep0 M)) (hX.keep (S6.keep0 M)) hf he) ?_);intro f0 a0 c0;refine lO a0.k [.w 1,.w 0] Z ⟨⟨Z,by rfl⟩,⟨Z,by rfl⟩,U⟩ (p0a a0 T1d Z Z (R0b p c M _ _ _ (hI.keep (a0.keep0 M)) (hX.keep (a0.keep0 M)) hf he) ?_);rintro e0 g0 hr b0 d0;refine D0a Z ?_;refine lR0 Z U (w0a Z ?_);exact⟨hr,b0.fin⟩
theorem RdS.take{α:Type}{M:List Nat}{w:World}{size:Nat}{R:List Value→α→Prop}{A:Option Addr}{n c:Nat}{l:List α}(h:RdS M w size R (.slice A n c) l)(i:Nat)(hi:i≤n):RdS M w size R (.slice A i c) (l.take i):=by
 obtain⟨_,_,_,he,_,_,h3,_,h5⟩:=h;cases he;refine⟨_,_,_,Z,by rw[List.length_take];omega,by omega,h3,by omega,fun h0=>?_⟩;obtain⟨b,o,hA,hb,a0⟩:=h5 (by omega);refine⟨b,o,hA,hb,fun j x hx=>a0 j x ?_⟩;rw[List.getElem?_take] at hx
 split at hx
 ·exact hx
 ·cases hx
theorem b1c(M:List Nat)(w0:World)(v:Value)(l:List Int)(a:Int)(hR:RdI M w0 v l):
 O0a prog 165 #[v,.int .i64 a] w0 fun v w'=>(∃n,v=.int .i64 n∧(0≤n↔a∈l))∧Below w0.heap.size w0 w':=by
 obtain⟨A,n,c,rfl⟩:=hR.form;obtain⟨_,_⟩:=hR.len;have S:=St.refl w0;refine a0a func165 Z ntmps165 Z ?_;refine wC0 Z U (wL (fun μk D ε w=>D=[]∧∃k:Nat,(k+μk=(l.length))∧(f1a (l) k (fun x=>a≠x))∧St [] w0 w []∧Sl ε [(0,.slice A n c),(1,.int .i64 a),(7,.int .i64 n),(8,.int .i64 k)]) (μ:=(l.length)) ⟨Z,0,by omega,f1a.zero,S,Z⟩ ?_);rintro μk D ε w ⟨rfl,k,_,ha,S,eZ⟩;refine wK eZ (wB0 Z U (fun h9=>?_) fun h9=>?_)
 ·obtain⟨x,f0,g0,_,e0,b0,_,_,c0,d0⟩:=RdS.get (hR) (k) (by omega);obtain⟨rfl,_⟩:=id d0;refine lB (S.k.a c0) [.x f0 g0,.f 0 0] Z ⟨Z,⟨b0,by omega⟩,U⟩ (fun a0=>?_) fun a0=>?_
  ·exact lT Z U Z ⟨⟨_,Z,⟨fun _=>a0▸e0a e0,fun _=>by omega⟩⟩,S.fin⟩
  refine lP0 Z ⟨by omega,U⟩ ⟨μk-1,by omega,Z,(k+1),(by omega),(ha.succ e0 (a0)),S,Z⟩
 exact lT Z U Z ⟨⟨_,Z,⟨fun h=>by omega,fun h=>absurd Z (ha.all (by omega) a h)⟩⟩,S.fin⟩
theorem O3b(M:List Nat)(w0:World)(v:Value)(l:List Int)(a:Int)(hR:RdI M w0 v l):
 O0a prog 103 #[v,.int .i64 a] w0 fun v w'=>v=.bool (decide (a∈l))∧Below w0.heap.size w0 w':=by
 obtain⟨_,_,_,rfl⟩:=hR.form;have S:=St.refl w0;refine a0a func103 Z ntmps103 Z ?_;refine wO0 Z U (p0a S O8c Z Z (b1c M _ _ l a (hR.keep (S.keep0 M))) ?_);rintro v7 w7 ⟨_,rfl,hm⟩ S7 X7;refine lB0 Z U (fun h8=>?_) fun h8=>?_
 ·refine lR0 Z U (w0a Z ?_);exact⟨by rw[decide_eq_true (hm.1 (by omega))],S7.fin⟩
 refine lR0 Z U (w0a Z ?_);exact⟨by rw[decide_eq_false (fun hh=>absurd (hm.2 hh) (by omega))],S7.fin⟩
section
variable {P:Program} {r:Option Nat} {N:Nat} {D:List Deferred} {e:Env} {w w0:World} {ops:Array Oper} {rest:List Oper} {K:List Deferred→Env→World→Prop} {L:List Ent} {M:List Nat}
variable {d:Nat} {t:TypeId} {p:String} {af:Array Edge} {x y:Operand} {yt:TypeId}
theorem n8b{ty size n c:Nat}{A:Option Addr}(hT:SlT P ty size)(hx:ev e x=.slice A n c)(hy:ev e y=.slice none 0 0)(hd:Nat.ble (d+1) N=true)
 (h1:A=none→WL P r N ops rest K D (upd e d (.bool true)) w) (h2:A.isSome=true→WL P r N ops rest K D (upd e d (.bool false)) w) :
 WL P r N ops (⟨some d,.binOp .eql ty x y yt,t,p,af,none⟩::rest) K D e w:=by
 obtain⟨el,hu,_⟩:=D4a hT;have hr:=Lib.run_eql_slice_nil (P:=P) w ty el A n c 0 0 hu;cases A with
 | none=>exact W0a Z Z hd (by simp[execOp,hx,hy,eqGuard,hr]) (h1 Z)
 | some a=>exact W0a Z Z hd (by simp[execOp,hx,hy,eqGuard,hr]) (h2 Z)
end
def J7c(mem:List Int)(e:B1a)(k:Nat):List Int:=((e.cells.zip e.values).take k).foldl (fun m x=>m.set x.1.toNat x.2) mem
theorem A6a:∀(l:List (Int×Int)) (mem:List Int),(l.foldl (fun m x=>m.set x.1.toNat x.2) mem).length=mem.length
 | [],_=>rfl
 | x::l,mem=>by rw[List.foldl_cons,A6a l,List.length_set]
@[simp] theorem R7c(mem:List Int)(e:B1a)(k:Nat):(J7c mem e k).length=mem.length:=A6a _ _
@[simp] theorem h9b(mem:List Int)(e:B1a):(q4b mem e).length=mem.length:=A6a _ _
def W0d(c:D1a)(b:List B1a)(k:Nat):List Int:=(b.take k).foldl q4b c.mem
theorem n5b:∀(l:List B1a) (m:List Int),(l.foldl q4b m).length=m.length
 | [],_=>rfl
 | x::l,m=>by rw[List.foldl_cons,n5b l,h9b]
@[simp] theorem Y9c(c:D1a)(b:List B1a)(k:Nat):(W0d c b k).length=c.mem.length:=n5b _ _
theorem q0c(M:List Nat)(w0:World)(v:Value)(l:List Int)(hR:RdI M w0 v l)(hl:l.length≤100000000):
 O0a prog 145 #[v] w0 fun v w'=>v3a 3 w0 w' v l∧Below w0.heap.size w0 w':=by
 obtain⟨_,n,_,rfl⟩:=hR.form;obtain⟨_,_⟩:=hR.len;have S:=St.refl w0;refine a0a func145 Z ntmps145 Z ?_;refine wOn 9 S.k [] Z U (n8b Y0a.slT Z Z Z (fun h4=>?_) fun h4=>?_)
 ·refine lR0 Z U (w0a Z ?_);subst h4;obtain⟨A',n',c',he,h1,h2,h3,h5,h6⟩:=hR;cases he;have h0:l.length=0:=by
   rcases Nat.eq_zero_or_pos n with h|h
   ·omega
   ·obtain⟨_,_,h7,_⟩:=h6 h;cases h7
  obtain rfl:=List.length_eq_zero_iff.1 h0;exact⟨⟨none,[],Z3a.nil 1,fun g hg=>by cases hg⟩,S.fin⟩
 refine lO0 Z U (e9a S Y0a Z ?_);intro g5 w5 S5 X5 G5;refine lO0 Z U (X4a (hbytes:=(by decide)) (k:=0) (xs:=[]) S5 Y0a Z Z3a.new Z Z (hR.keep (S5.keep0 M)) (by simpa using hl) Z ?_);intro v7 G7 a0 w7 S7 R7 X7;refine D0a Z ?_;refine lR0 Z U (w0a Z ?_);refine⟨⟨G7,a0,by simpa using R7,fun g hg=>?_⟩,S7.fin⟩;subst hg;exact⟨by simpa using S7.new 0 Z,S7.blk 0 Z⟩
theorem G1c.i64s{p:i0a}{e:B1a}(h:G1c p e):∀x∈e.cells,0≤x∧x<p.cells.length:=fun x hx=>by
 obtain⟨i,hi,rfl⟩:=List.getElem_of_mem hx;exact(h.cells i _ (List.getElem?_eq_getElem hi)).1
section
variable {M:List Nat} {w0 w w':World} {L:List Ent}
theorem St.fill(S:St M w0 w L)(j:Nat){t':TypeId}{b0:List Value}{g:Nat}(hb:Below w.heap.size w w')(hg:o0a w' (g,t',b0))(d0:w.heap.size≤g):St M w0 w' (L.set j (some g,t',b0)):=by
 have S':=S.later hb;have a0:∀b∈L,b.1≠some g:=fun b hm hh=>by
  have:=(S.own b hm g hh).2.lt;simp at this;omega
 refine⟨S'.below,fun b hm x hx=>?_,?_⟩
 ·rcases List.mem_or_eq_of_mem_set hm with h|rfl
  ·exact S'.own b h x hx
  ·cases hx;exact⟨.inl (Nat.le_trans S.size d0),hg⟩
 ·rw[List.pairwise_iff_getElem];intro i k hi hk c0 x hx;rw[List.length_set] at hi hk;rw[List.getElem_set] at hx ⊢
  split at hx
  ·cases hx
   split
   ·omega
   ·exact a0 _ (List.getElem_mem hk)
  ·split
   ·intro hh;cases hh;exact a0 _ (List.getElem_mem hi) hx
   ·exact(List.pairwise_iff_getElem.1 S.apart) i k hi hk c0 x hx
end
theorem Z3a.form{G:Option Nat}{size n:Nat}{cs xs:List Value}{v:Value}(h:Z3a G size n cs v xs):∃A n c,v=.slice A n c:=by
 rcases h with⟨_,⟨_,rfl,_⟩|⟨g,a0,_,rfl,_⟩⟩
 ·exact⟨_,_,_,Z⟩
 ·exact⟨_,_,_,Z⟩
theorem U3d(A a0:List Ent)(k n:Nat)(hn:A.length=n):(A++a0)[n+k]?=a0[k]?:=by
 subst hn;rw[List.getElem?_append_right (by omega)];congr 1;omega
theorem w1a.more{α:Type}{R:List Nat→World→List Value→α→Prop}{size:Nat}(hL:L4a R size){M M':List Nat}{w:World}{G:Option Nat}{cs:List Value}{v:Value}{l:List α}(h:w1a R size M w G cs v l)(hm:∀g∈M',(g∈G.toList∨g∈M)∨w.heap.size≤g):w1a R size M' w G cs v l:=by
 obtain⟨css,h1,h2,h3,h4⟩:=h;refine⟨css,h1,h2,h3,fun i x hi=>?_⟩;obtain⟨c,h5,h6⟩:=h4 i x hi;refine⟨c,h5,hL.more (fun g hg=>?_) h6⟩;rcases List.mem_append.1 hg with hg|hg
 ·exact .inl (List.mem_append_left _ hg)
 ·rcases hm g hg with h|h
  ·exact .inl (List.mem_append.2 h)
  ·exact .inr h
def O0b(rows:List Ent):List Nat:=rows.filterMap (·.1)
theorem d4a{a0:List Ent}{g:Nat}:g∈O0b a0↔∃b∈a0,b.1=some g:=by unfold O0b;rw[List.mem_filterMap]
def T4a(tE:TypeId)(M:List Nat)(w:World)(rows:List Ent)(vs:List Value)(bs:List (List B1a)):Prop :=
 rows.length=bs.length∧vs.length=bs.length∧∀(i:Nat) (b:List B1a),bs[i]?=some b→∃G cs v,rows[i]?=some (G,tE,cs)∧vs[i]?=some v∧w1a S2a 2 (M++O0b rows) w G cs v b
theorem T4a.keep{tE:TypeId}{M:List Nat}{w w':World}{a0:List Ent}{vs:List Value}{bs:List (List B1a)}(h:T4a tE M w a0 vs bs)(hk:z0a (M++O0b a0) w w'):T4a tE M w' a0 vs bs:=by
 obtain⟨h1,h2,h3⟩:=h;refine⟨h1,h2,fun i b hi=>?_⟩;obtain⟨G,cs,v,h4,h5,h6⟩:=h3 i b hi;exact⟨G,cs,v,h4,h5,h6.keep P3a (hk.mono fun g hg=>List.mem_append_right _ hg)⟩
theorem T4a.nil{tE:TypeId}{M:List Nat}{w:World}(n:Nat):T4a tE M w (List.replicate n (none,tE,[])) (List.replicate n (.slice none 0 0)) (List.replicate n []):=by
 refine⟨by simp,by simp,fun i b hi=>?_⟩;obtain⟨a0,rfl⟩:=List.getElem?_eq_some_iff.1 hi;simp only[List.length_replicate] at a0;refine⟨none,[],.slice none 0 0,by simp[a0],by simp[a0],?_⟩;simp only[List.getElem_replicate];exact w1a.nil
theorem n7c{a0:List Ent}{k:Nat}{G':Option Nat}{tE:TypeId}{b0:List Value}{g:Nat}(h:g∈O0b (a0.set k (G',tE,b0))):g∈O0b a0∨g∈G'.toList:=by
 obtain⟨b,hb,hg⟩:=d4a.1 h;rcases List.mem_or_eq_of_mem_set hb with h|rfl
 ·exact .inl (d4a.2 ⟨b,h,hg⟩)
 ·right;cases hg;simp
theorem T4a.put{tE:TypeId}{M:List Nat}{w w1:World}{a0:List Ent}{vs:List Value}{bs:List (List B1a)}(h:T4a tE M w a0 vs bs){k:Nat}{G G':Option Nat}{cs b0:List Value}{v':Value}{b':List B1a}(hk:k<bs.length)
 (e0:w1a S2a 2 (M++O0b a0) w1 G' b0 v' b') (X:z0a G.toList w w1) (F:∀g∈G'.toList,g∈G.toList∨w.heap.size≤g) (i0:a0[k]?=some (G,tE,cs)):T4a tE M w1 (a0.set k (G',tE,b0)) (vs.set k v') (bs.set k b'):=by
 obtain⟨h1,h2,h3⟩:=h;have g0:∀g∈G.toList,g∈O0b a0:=fun g hg=>d4a.2 ⟨_,List.mem_of_getElem? i0,by cases G<;>simp at hg ⊢;exact hg.symm⟩;have c0:∀g∈M++O0b (a0.set k (G',tE,b0)),(g∈M++O0b a0∨g∈G'.toList):=fun g hg=>by
  rcases List.mem_append.1 hg with h|h
  ·exact .inl (List.mem_append_left _ h)
  ·rcases n7c h with h|h
   ·exact .inl (List.mem_append_right _ h)
   ·exact .inr h
 refine⟨by simp[h1],by simp[h2],fun i b hi=>?_⟩;rw[List.getElem?_set] at hi;by_cases d0:k=i
 ·subst d0;rw[if_pos rfl,if_pos hk] at hi;cases hi;exact⟨G',b0,v',by rw[List.getElem?_set_self (by omega)],by rw[List.getElem?_set_self (by omega)],e0.more P3a fun g hg=>by
   rcases c0 g hg with h|h
   ·exact .inl (.inr h)
   ·exact .inl (.inl h)⟩
 ·rw[if_neg d0] at hi;obtain⟨Gi,f0,vi,h4,h5,h6⟩:=h3 i b hi;refine⟨Gi,f0,vi,by rw[List.getElem?_set_ne d0];exact h4,by rw[List.getElem?_set_ne d0];exact h5,?_⟩;have e1:w1a S2a 2 (G.toList++(M++O0b (a0.set k (G',tE,b0)))) w Gi f0 vi b:=h6.more P3a fun g hg=>by
   rcases List.mem_append.1 hg with h|h
   ·exact .inl (.inr (List.mem_append_right _ (g0 g h)))
   ·rcases c0 g h with h|h
    ·exact .inl (.inr h)
    ·rcases F g h with h|h
     ·exact .inl (.inr (List.mem_append_right _ (g0 g h)))
     ·exact .inr h
  exact(e1.keep P3a (X.mono fun g hg=>List.mem_append_right _ (List.mem_append_left _ hg))).more P3a fun g hg=>.inl (.inr (List.mem_append_right _ hg))
theorem T4a.rd{tE:TypeId}{M M' Mx:List Nat}{w0 w:World}{A a0:List Ent}{vs:List Value}{bs:List (List B1a)}(h:T4a tE M w a0 vs bs)(S:St M' w0 w (A++a0))(hx:∀g∈Mx,g∈M)(hM:∀g∈Mx,g∉O0b a0)(hl:∀b∈bs,b.length≤1000):
 ∀(i:Nat) (b:List B1a),bs[i]?=some b→∃v,vs[i]?=some v∧C3d Mx w v b:=fun i b hi=>by
 obtain⟨_,_,h3⟩:=h;obtain⟨G,cs,v,h4,h5,h6⟩:=h3 i b hi;refine⟨v,h5,?_⟩;have h7:w1a S2a 2 Mx w G cs v b:=h6.more P3a fun g hg=>.inl (.inr (List.mem_append_left _ (hx g hg)));refine h7.rd P3a S (k:=A.length+i) (el:=tE) (by rw[U3d A a0 i _ rfl];exact h4) (fun g hg hm=>hM g hm (d4a.2 ⟨_,List.mem_of_getElem? h4,hg⟩)) (by have:=hl b (List.mem_of_getElem? hi);omega)
theorem T4a.less{tE:TypeId}{M M':List Nat}{w:World}{a0:List Ent}{vs:List Value}{bs:List (List B1a)}(h:T4a tE M w a0 vs bs)(hm:∀g∈M',g∈M):T4a tE M' w a0 vs bs:=by
 obtain⟨h1,h2,h3⟩:=h;refine⟨h1,h2,fun i b hi=>?_⟩;obtain⟨G,cs,v,h4,h5,h6⟩:=h3 i b hi;exact⟨G,cs,v,h4,h5,h6.more P3a fun g hg=>.inl (.inr (by
  rcases List.mem_append.1 hg with h|h
  ·exact List.mem_append_left _ (hm g h)
  ·exact List.mem_append_right _ h))⟩
theorem w8b{α:Type}{l:List α}{k:Nat}{x:α}(h:l[k]?=some x):l.set k x=l:=by
 obtain⟨a0,rfl⟩:=List.getElem?_eq_some_iff.1 h;exact List.set_getElem_self a0
theorem RdI.i64s{M:List Nat}{w:World}{v:Value}{l:List Int}(h:RdI M w v l):∀x∈l,i64 x:=fun x hx=>by
 obtain⟨_,_,_,rfl⟩:=h.form;obtain⟨i,hi,rfl⟩:=List.getElem_of_mem hx;obtain⟨_,_,_,_,h5⟩:=h.at;obtain⟨_,_,_,_,a0⟩:=h5 (by omega);obtain⟨_,_,_,h6⟩:=a0 i _ (List.getElem?_eq_getElem hi);exact h6.2
theorem v3a.rd{el:Nat}{w w1:World}{v:Value}{l:List Int}(h:v3a el w w1 v l){M:List Nat}(hM:∀g∈M,g<w.heap.size)(hl:∀x∈l,i64 x)(hb:Below w.heap.size w w1)(a0:l.length≤140737488355328):RdI M w1 v l:=by
 obtain⟨_,_,h1,S⟩:=h.open_ ((St.refl w).later hb) (St.refl w);exact h1.rdI S (k:=0) Z hM hl a0
theorem St.sublist{M:List Nat}{w0 w:World}{L L':List Ent}(S:St M w0 w L)(h:L'.Sublist L):St M w0 w L':=⟨S.below,fun b hb=>S.own b (h.subset hb),S.apart.sublist h⟩
theorem St.perm{M:List Nat}{w0 w:World}{L L':List Ent}(S:St M w0 w L)(h:L.Perm L'):St M w0 w L' :=
 ⟨S.below,fun b hb=>S.own b (h.symm.subset hb),(h.pairwise_iff (fun b0 g hg a0=>b0 g a0 hg)).1 S.apart⟩
theorem w1a.erase{α:Type}{R:List Nat→World→List Value→α→Prop}{size:Nat}(hL:L4a R size){M:List Nat}{w w1:World}{G:Option Nat}{a0:List Value}{v:Value}{l:List α}{css:List (List Value)}(l1:css.length=l.length)(l2:∀x∈css,x.length=size)(l4:∀(i:Nat) (x:α),l[i]?=some x→∃c,css[i]?=some c∧R (G.toList++M) w c x)
 {i:Nat} (hi:i<l.length) (rv:Z3a G size (l.length-1) a0 v (css.eraseIdx i).flatten) (hk:z0a (G.toList++M) w w1):w1a R size M w1 G a0 v (l.eraseIdx i):=by
 have b0:(l.eraseIdx i).length=l.length-1:=by rw[List.length_eraseIdx,if_pos hi]
 refine⟨css.eraseIdx i,by rw[b0,List.length_eraseIdx,if_pos (by omega),l1],fun x hx=>l2 x (List.mem_of_mem_eraseIdx hx),by rw[b0];exact rv,fun k x hx=>?_⟩;rw[List.getElem?_eraseIdx] at hx ⊢
 split
 ·rename_i h;rw[if_pos h] at hx;obtain⟨c,h5,h6⟩:=l4 k x hx;exact⟨c,h5,hL.keep hk h6⟩
 ·rename_i h;rw[if_neg h] at hx;obtain⟨c,h5,h6⟩:=l4 (k+1) x hx;exact⟨c,h5,hL.keep hk h6⟩
theorem z0a.fresh2{a b c:World}{Q:List Nat}{g:Nat}(h:z0a Q a b)(k:z0a [g] b c)(hg:a.heap.size≤g∨g∈Q):z0a Q a c :=
 ⟨Nat.le_trans h.size k.size,fun i hi hm=>(k.same i (Nat.lt_of_lt_of_le hi h.size) (fun hh=>by rw[List.mem_singleton] at hh;subst hh;rcases hg with hg|hg;omega;exact hm hg)).trans (h.same i hi hm)⟩
theorem z0a.freshL{a b c:World}{Q Gs:List Nat}(h:z0a Q a b)(k:z0a Gs b c)(hg:∀g∈Gs,a.heap.size≤g∨g∈Q):z0a Q a c :=
 ⟨Nat.le_trans h.size k.size,fun i hi hm=>(k.same i (Nat.lt_of_lt_of_le hi h.size) (fun hh=>by rcases hg i hh with hg|hg;omega;exact hm hg)).trans (h.same i hi hm)⟩
theorem H0d{M:List Nat}{w0 w:World}{L:List Ent}(S:St M w0 w L){G:Option Nat}{t:TypeId}{cs:List Value}{k:Nat}(hk:L[k]?=some (G,t,cs)):∀g∈G.toList,g<w.heap.size:=fun g hg=>by
 have:G=some g:=by cases G<;>simp at hg ⊢;exact hg.symm
 subst this;exact S.lt k hk
theorem a5b(Mx M:List Nat)(w0:World)(v:Value)(l:List Int)(hR:RdI M w0 v l)(hl:l.length≤100000000)(hM:∀g∈Mx,g<w0.heap.size):
 O0a prog 145 #[v] w0 fun v w'=>RdI Mx w' v l∧Below w0.heap.size w0 w' :=
 (q0c M w0 v l hR hl).mono fun _ _ h=>⟨h.1.rd hM hR.i64s h.2 (by omega),h.2⟩
section
variable {P:Program} {r:Option Nat} {N:Nat} {D:List Deferred} {e:Env} {w w0:World} {ops:Array Oper} {rest:List Oper} {K:List Deferred→Env→World→Prop} {L:List Ent} {M:List Nat}
variable {d:Nat} {t:TypeId} {p:String} {af:Array Edge} {x y:Operand} {kd:IntKind}
theorem j7c{o:Oper}{v:Value}{w':World}(hg:o.guard=none)(b0:o.dst=none)(a0:∀c,o.op≠.defer c)
 (d0:(execOp (ev e) o).run P w=.ok (.value v) w') (h:WL P r N ops rest K D e w'):WL P r N ops (o::rest) K D e w:=by
 unfold WL at *;intro a Q hs e0 he hK;have c0:=h a Q hs e0 he hK;simp only[wpListIn,Region.wanted,hg,if_true];refine⟨F0a o w _,?_⟩;have:Oper.semAt (fc r).round a.eval o=execOp (ev e) o:=by rw[Oper.semAt_eq _ _ _ a0,y2a,he]
 rw[this,d0,Oper.uponIn_value,b0];exact c0
end
theorem m5b{size:Nat}:∀(css:List (List Value)) (i:Nat),(∀x∈css,x.length=size)→css.flatten.take (i*size)=(css.take i).flatten
 | [],i,_=>by simp
 | x::css,0,_=>by simp
 | x::css,i+1,h=>by
   have hx:=h x (by simp);rw[List.flatten_cons,List.take_succ_cons,List.flatten_cons,←m5b css i (fun y hy=>h y (by simp[hy])),Nat.add_mul,Nat.one_mul,List.take_append,hx,Nat.add_sub_cancel,List.take_of_length_le (by omega)]
theorem b5a:∀(vs cs:List Value) (o:Nat),(d0a cs o vs).length=cs.length
 | [],_,_=>rfl
 | v::vs,cs,o=>by rw[d0a,b5a vs,List.length_set]
theorem h0b:∀(vs cs:List Value) (o n:Nat),n≤o→(d0a cs o vs).take n=cs.take n
 | [],_,_,_,_=>rfl
 | v::vs,cs,o,n,h=>by rw[d0a,h0b vs _ _ _ (by omega),List.take_set_of_le h]
theorem N0c{p:i0a}{t n:Int}{s:h1a}(h:T6a p t n s):s.set.length≤p.cells.length:=by
 have:=Z6a p.cells.length (s.set.map p1a.cell) (by unfold List.Nodup;rw[List.pairwise_map];exact h.once) (fun x hx=>by
  obtain⟨a,ha,rfl⟩:=List.mem_map.1 hx;exact(h.set a ha).1)
 simpa using this
abbrev H6b:List Nat→World→List Value→Int→Prop:=fun _ _=>N7c
def NC(w:World)(rs:List (Nat×Obj)):Prop:=∀x∈rs,w.heap[x.1]?=some x.2∧∀a t f,x.2≠.cells a t f
theorem NC.nil{w:World}:NC w []:=fun x hx=>by cases hx
theorem NC.lt{w:World}{rs:List (Nat×Obj)}(h:NC w rs):∀x∈rs,x.1<w.heap.size:=fun x hx=>by
 have:=(h x hx).1;rcases Nat.lt_or_ge x.1 w.heap.size with h'|h'
 ·exact h'
 ·rw[Array.getElem?_eq_none h'] at this;cases this
theorem NC.keep{w w':World}{rs:List (Nat×Obj)}(h:NC w rs)(k:z0a [] w w'):NC w' rs:=fun x hx=>⟨(k.same x.1 (h.lt x hx) (by simp)).trans (h x hx).1,(h x hx).2⟩
theorem NC.ne{w:World}{rs:List (Nat×Obj)}(h:NC w rs){g t:Nat}{cs:List Value}(hg:o0a w (g,t,cs)):∀x∈rs,x.1≠g:=fun x hx he=>by
 have h1:=(h x hx).1;rw[he] at h1;unfold o0a at hg;rw[hg] at h1;exact(h x hx).2 _ _ _ (Option.some.inj h1).symm
theorem NC.keepS{w w':World}{rs:List (Nat×Obj)}(h:NC w rs){g t:Nat}{cs:List Value}(k:z0a [g] w w')(hg:o0a w (g,t,cs)):NC w' rs:=fun x hx =>
 ⟨(k.same x.1 (h.lt x hx) (by rw[List.mem_singleton];exact h.ne hg x hx)).trans (h x hx).1,(h x hx).2⟩
theorem NC.tail{w:World}{x:Nat×Obj}{rs:List (Nat×Obj)}(h:NC w (x::rs)):NC w rs:=fun y hy=>h y (List.mem_cons_of_mem _ hy)
theorem NC.cons{w:World}{x:Nat×Obj}{rs:List (Nat×Obj)}(h:NC w rs)(h1:w.heap[x.1]?=some x.2)(h2:∀a t f,x.2≠.cells a t f):NC w (x::rs):=fun y hy=>by
 rcases List.mem_cons.1 hy with rfl|hy
 ·exact⟨h1,h2⟩
 ·exact h y hy
theorem NC.put{w:World}{l:Nat}{o o':Obj}{rs:List (Nat×Obj)}(h:NC w ((l,o)::rs))(hl:∀x∈rs,x.1≠l)(ho:∀a t f,o'≠.cells a t f):NC (w.putObj l o') ((l,o')::rs):=by
 have a0:=h.lt (l,o) (by simp);refine NC.cons (fun x hx=>⟨?_,(h.tail x hx).2⟩) (World.putObj_heap_same a0) ho;rw[World.putObj_heap_other (hl x hx)];exact(h.tail x hx).1
theorem St.putObj{M:List Nat}{w0 w:World}{L:List Ent}(S:St M w0 w L){l:Nat}(o:Obj){rs:List (Nat×Obj)}{o1:Obj}(h:NC w rs)(hx:(l,o1)∈rs)(hl:w0.heap.size≤l∨l∈M):St M w0 (w.putObj l o) L:=by
 refine⟨S.below.putObj o hl,fun b hb g hg=>⟨(S.own b hb g hg).1,(S.own b hb g hg).2.putObj (fun he=>?_)⟩,S.apart⟩;exact h.ne (S.own b hb g hg).2 _ hx he.symm
def L6b(rs:List Nat):List (Nat×Obj):=rs.map fun r=>(r,.deferred (some []))
theorem o0c{rs:List Nat}{x:Nat×Obj}(h:x∈L6b rs):x.1∈rs:=by
 obtain⟨_,hr,rfl⟩:=List.mem_map.1 h;exact hr
def p9a(P:Program)(fn:Func)(R:Value→World→Prop)(D:List Deferred)(e:Env)(w:World):Prop :=
 ∃rs:List Nat,D=rs.map W0b∧rs.Nodup∧NC w (L6b rs)∧∀w',C0a rs w w'→w'.heap.size=w.heap.size→∀tmps:Array Value,V0a { tmps,defers:=[] }=e→∃v,(results fn tmps).run P w'=.ok v w'∧R v w'
theorem r8a{P:Program}{fn:Func}{tmps:Array Value}{R:Value→World→Prop}:∀(rs:List Nat) (w:World),rs.Nodup→NC w (L6b rs)→(∀w',C0a rs w w'→w'.heap.size=w.heap.size→∃v,(results fn tmps).run P w'=.ok v w'∧R v w') →
 LeavesInM Fence.wide 0 P fn tmps (fun en w'=>∃v,en=.returned v∧R v w') (rs.map W0b) .returning w
 | [],w,_,_,h=>by
   obtain⟨v,h1,h2⟩:=h w (C0a.refl _ _) Z;exact⟨v,h1,v,Z,h2⟩
 | r::rs,w,hn,hO,h=>by
   obtain⟨a0,b0⟩:=List.nodup_cons.1 hn;have hr:w.heap[r]?=some (.deferred (some [])):=(hO (r,.deferred (some [])) (by simp[L6b])).1;refine⟨by simp,.inl ⟨r,_,Z,run_takeDeferred hr,r8a rs _ b0 (fun x hx=>⟨?_,(hO x (by simp[L6b] at hx ⊢;exact .inr hx)).2⟩) fun w' hb hs=>?_⟩⟩
   ·rw[World.putObj_heap_other (show x.1≠r from fun he=>a0 (by rw[←he];exact o0c hx))];exact(hO x (by simp[L6b] at hx ⊢;exact .inr hx)).1
   ·refine h w' ⟨hb.os,hb.tape,hb.output,by simpa using hb.size,fun k hk hm=>?_⟩ (by simpa using hs);simp only[List.mem_cons,not_or] at hm;rw[hb.block k (by simpa using hk) hm.2,World.putObj_heap_other hm.1]
theorem r6b{P:Program}{N:Nat}{w:World}{f:FuncId}{fn:Func}{c:Code}{args:Array Value}{R:Value→World→Prop}(hf:P.funcs[f]?=some fn)(hb:fn.body=some c)(hN:fn.ntmps=N)(a0:Nat.ble args.size N=true)
 (h:W P none N c ⟨p9a P fn R,fun _ _ _ _=>False,p9a P fn R⟩ [] (K9a args) w):O0a P f args w R:=by
 subst hN;unfold W at h;have b0:(args++Array.replicate (fn.ntmps-args.size) undef).size=fn.ntmps:=by
  have:=Nat.le_of_ble_eq_true a0;simp;omega
 have h1:=h { tmps:=args++Array.replicate (fn.ntmps-args.size) undef,defers:=[] } b0 Z (I9a _ _);have key:∀(a:Act) (w:World),p9a P fn R a.defers (V0a a) w→LeavesInM Fence.wide 0 P fn a.tmps (fun en w'=>∃v,en=.returned v∧R v w') a.defers .returning w:=by
  intro a w hq;obtain⟨rs,hD,hn,hO,hq⟩:=hq;rw[hD];exact r8a rs w hn hO fun w' hb hs=>hq w' hb hs a.tmps Z
 refine callsIn_wide (n:=0).1 (callsIn_of_wp_marks hf hb trivial (wpIn_mono h1 fun ex a w hq=>?_));cases ex with
 | normal=>exact key a w hq.2
 | ret=>exact key a w hq.2
 | exit id=>exact hq.2
 | goto l=>exact hq
 | panic c=>exact hq.elim
 | outgrown=>exact hq.elim
theorem z0a.of_belowM{M:List Nat}{w w':World}(h:C0a M w w'):z0a M w w':=⟨h.size,h.block⟩
theorem c7b{w wi:World}{rs:List (Nat×Obj)}{rc:Loop}(hO:NC w rs)(a0:wi.heap[w.heap.size]?=some (.deferred (some [])))(hl:wi.heap[w.heap.size+1]?=some (.loop rc))(hB:Below w.heap.size w wi):NC wi ((w.heap.size+1,.loop rc)::(w.heap.size,.deferred (some []))::rs) :=
 ((hO.keep (z0a.of_below hB)).cons a0 (by simp)).cons hl (by simp)
theorem j2c{w0 w:World}{L:List Ent}{M:List Nat}(S:St [] w0 w L){i j g g' t t':Nat}{cs a0:List Value}(h0:L[i]?=some (some g,t,cs))(h1:L[j]?=some (some g',t',a0)):∀x∈g::g'::M,x∈M∨w0.heap.size≤x:=fun x hx=>by
 rcases List.mem_cons.1 hx with rfl|hx
 ·exact .inr (by simpa using S.new i h0)
 ·rcases List.mem_cons.1 hx with rfl|hx
  ·exact .inr (by simpa using S.new j h1)
  ·exact .inl hx
theorem a1d{w0 w:World}{L:List Ent}{M:List Nat}(S:St [] w0 w L){i j g g' t t':Nat}{cs a0:List Value}(h0:L[i]?=some (some g,t,cs))(h1:L[j]?=some (some g',t',a0))(hM:∀g∈M,g<w0.heap.size):∀x∈g::g'::M,x<w.heap.size:=fun x hx=>by
 rcases List.mem_cons.1 hx with rfl|hx
 ·exact S.lt i h0
 ·rcases List.mem_cons.1 hx with rfl|hx
  ·exact S.lt j h1
  ·exact Nat.lt_of_lt_of_le (hM x hx) S.size
theorem InP.two{p:i0a}{M:List Nat}{w0 w:World}{cs:List Value}(h:InP p M w0 cs){L:List Ent}(S:St [] w0 w L){i j g g' t t':Nat}{ds a0:List Value}(h0:L[i]?=some (some g,t,ds))(h1:L[j]?=some (some g',t',a0)):InP p (g::g'::M) w cs :=
 ⟨(h.rd.more (j2c S h0 h1)).keep (S.keep0 _),h.ok,(h.msk.more (j2c S h0 h1)).keep (S.keep0 _),a1d S h0 h1 h.lt⟩
def q1d(p:i0a)(m:Int)(c:D1a):List F2a→List D1a
 | []=>[]
 | x::l=>if x∈X6a p m c then doC p m c x::q1d p m (doC p m c x) l else[]
def V9c(p:i0a)(m:Int)(run:List F2a):List D1a:=e2a p::q1d p m (e2a p) run
theorem InP.grow{p:i0a}{Bs0 M0 N:List Nat}{w0 w:World}{cs:List Value}(h:InP p (Bs0++M0) w0 cs)(hK:z0a Bs0 w0 w)(hN:∀g∈N,g∈Bs0++M0∨w0.heap.size≤g)(a0:∀g∈N,g<w.heap.size):InP p N w cs:=by
 have hm:∀g∈Bs0++N,g∈Bs0++M0∨w0.heap.size≤g:=fun g hg=>by
  rcases List.mem_append.1 hg with h|h
  ·exact .inl (List.mem_append_left _ h)
  ·exact hN g h
 have hk:z0a (Bs0++N) w0 w:=hK.mono fun g hg=>List.mem_append_left _ hg;exact⟨((h.rd.more hm).keep hk).less fun g hg=>List.mem_append_right _ hg,h.ok,⟨fun hh=>((h.msk.more hm).keep hk).1 (List.mem_append_right _ hh),((h.msk.more hm).keep hk).2⟩,a0⟩
structure i8b (p:i0a) (m:Int) (run:List F2a) (l:Nat) (Bs0 M0:List Nat) (w0:World) (J:Nat→Nat→List Nat→World→Prop) (Q:World→Prop):Prop where
 start:∀g5 w,w0.heap.size≤g5→Below w0.heap.size w0 w→J g5 0 Bs0 w
 own:∀g5 k Bs w w',w0.heap.size≤g5→g5∉Bs→J g5 k Bs w→C0a [g5] w w'→J g5 k Bs w'
 lt:∀g5 k Bs w,J g5 k Bs w→∀g∈Bs,g<w.heap.size
 each:∀g5 k Bs w c ys (err:Int),w0.heap.size≤g5→g5<w.heap.size→g5∉Bs→J g5 k Bs w→z0a Bs0 w0 w→((err=0∧(V9c p m run)[k]?=some c)∨(err=110∧k=(V9c p m run).length∧(V9c p m run).length≤run.length∧c=⟨[],[],[]⟩))→i2a (g5::(Bs++M0)) w c ys →
  Yld prog l #[.agg ys.toArray,.int .i64 err] w fun v w'=>(err=0∧v=.bool true∧∃Bs',J g5 (k+1) Bs' w'∧z0a Bs w w'∧∀g∈Bs',g∈Bs∨w.heap.size≤g)∨(err=110∧v=.bool false∧Q w')
section
variable {p:i0a} {m:Int} {run:List F2a} {l:Nat} {Bs0 M0:List Nat} {w0:World} {J:Nat→Nat→List Nat→World→Prop} {Q:World→Prop}
theorem i8b.round(h:i8b p m run l Bs0 M0 w0 J Q):∀g5 k Bs w c ys,w0.heap.size≤g5→g5<w.heap.size→g5∉Bs→J g5 k Bs w→z0a Bs0 w0 w→(V9c p m run)[k]?=some c→i2a (g5::(Bs++M0)) w c ys→Yld prog l #[.agg ys.toArray,.int .i64 0] w fun v w'=>v=.bool true∧∃a0,J g5 (k+1) a0 w'∧z0a Bs w w'∧∀g∈a0,g∈Bs∨w.heap.size≤g :=
 fun g5 k Bs w c ys h1 h2 h3 h4 h5 h6 h7=>(h.each g5 k Bs w c ys 0 h1 h2 h3 h4 h5 (.inl ⟨Z,h6⟩) h7).mono fun v w' hh=>by
  rcases hh with⟨_,hh⟩|⟨hh,_⟩
  ·exact hh
  ·omega
theorem i8b.last(h:i8b p m run l Bs0 M0 w0 J Q):∀g5 Bs w ys,w0.heap.size≤g5→g5<w.heap.size→g5∉Bs→z0a Bs0 w0 w→(V9c p m run).length≤run.length→J g5 (V9c p m run).length Bs w→i2a (g5::(Bs++M0)) w ⟨[],[],[]⟩ ys→Yld prog l #[.agg ys.toArray,.int .i64 110] w fun v w'=>v=.bool false∧Q w' :=
 fun g5 Bs w ys h1 h2 h3 h4 h5 h6 h7=>(h.each g5 _ Bs w _ ys 110 h1 h2 h3 h6 h4 (.inr ⟨Z,Z,h5,Z⟩) h7).mono fun v w' hh=>by
  rcases hh with⟨hh,_⟩|⟨_,hh⟩
  ·omega
  ·exact hh
end
theorem i2a.grow{c:D1a}{ys:List Value}{g5:Nat}{Bs a0 M0:List Nat}{w w':World}(h:i2a (g5::(Bs++M0)) w c ys)(hk:z0a Bs w w')(hb:∀g∈a0,g∈Bs∨w.heap.size≤g):i2a (g5::(a0++M0)) w' c ys:=by
 have h1:i2a (Bs++(g5::(a0++M0))) w c ys:=h.more fun g hg=>by
  simp only[List.mem_append,List.mem_cons] at hg ⊢;rcases hg with hg|rfl|hg|hg
  ·exact .inl (.inr (.inl hg))
  ·exact .inl (.inl Z)
  ·rcases hb g hg with h|h
   ·exact .inl (.inr (.inl h))
   ·exact .inr h
  ·exact .inl (.inr (.inr hg))
 exact(h1.keep (hk.mono fun g hg=>List.mem_append_left _ hg)).less fun g hg=>List.mem_append_right _ hg
theorem St.other{M:List Nat}{w0 w w':World}{L:List Ent}(S:St M w0 w L){g:Nat}(hb:C0a [g] w w')(hg:w0.heap.size≤g)(hn:g∉O0b L):St M w0 w' L:=by
 refine⟨⟨hb.os.trans S.below.os,hb.tape.trans S.below.tape,hb.output.trans S.below.output,Nat.le_trans S.below.size hb.size,fun k hk hm=>?_⟩,fun b hm x hx=>?_,S.apart⟩
 ·rw[hb.block k (Nat.lt_of_lt_of_le hk S.below.size) (by rw[List.mem_singleton];omega)];exact S.below.block k hk hm
 ·obtain⟨h1,h2⟩:=S.own b hm x hx;refine⟨h1,?_⟩;have a0:=h2.lt;unfold o0a at *;rw[hb.block x a0 (by rw[List.mem_singleton];rintro rfl;exact hn (d4a.2 ⟨b,hm,hx⟩))];exact h2
section
variable {P:Program} {r:Option Nat} {N:Nat} {D:List Deferred} {e:Env} {w w0:World} {ops:Array Oper} {rest:List Oper} {K:List Deferred→Env→World→Prop} {L:List Ent} {M:List Nat}
variable {d:Nat} {t:TypeId} {p:String} {af:Array Edge} {x y:Operand} {yt:TypeId}
theorem K2c{ty te:TypeId}(hu:P.underlying ty=some (.pointer te))(w:World)(v:Option Addr):(binOp .eql ty (.pointer v) (.pointer none)).run P w=.ok (.bool v.isNone) w:=by
 have h:∀k:Nat,(Op.equalIn (k+1) ty (.pointer v) (.pointer none)).run P w=.ok v.isNone w:=fun k=>by
  cases v<;>simp[Op.equalIn,run_underlying hu]
 simp only[binOp];simp[Op.equal,Op.maxDepth,h 9999]
theorem x0c{ty te:TypeId}{v:Option Addr}(hu:P.underlying ty=some (.pointer te))(hx:ev e x=.pointer v)(hy:ev e y=.pointer none)(hd:Nat.ble (d+1) N=true)(h:WL P r N ops rest K D (upd e d (.bool v.isNone)) w):
 WL P r N ops (⟨some d,.binOp .eql ty x y yt,t,p,af,none⟩::rest) K D e w :=
 W0a Z Z hd (by simp[execOp,hx,hy,eqGuard,K2c hu]) h
theorem M6c{ty te:TypeId}{j:TypeInfo}{a:Addr}(hu:P.underlying ty=some (.pointer te))(hj:P.info? te=some j)(hx:ev e x=.pointer (some a))(hy:ev e y=.pointer (some a))(hd:Nat.ble (d+1) N=true)(h:WL P r N ops rest K D (upd e d (.bool false)) w):
 WL P r N ops (⟨some d,.binOp .neq ty x y yt,t,p,af,none⟩::rest) K D e w :=
 W0a Z Z hd (by simp[execOp,hx,hy,eqGuard,Lib.run_neq_ptr_same w a hu hj]) h
theorem k5c{src dst:TypeId}{v u:Value}(hx:ev e x=v)(hc:(convert src dst v).run P w=.ok u w)(hd:Nat.ble (d+1) N=true)(h:WL P r N ops rest K D (upd e d u) w):
 WL P r N ops (⟨some d,.convert src dst x,t,p,af,none⟩::rest) K D e w :=
 W0a Z Z hd (by simp[execOp,hx,hc]) h
theorem f3d{f:FuncId}{at_:Array TypeId}{v:Value}(hx:ev e x=v)(hc:(callFunc f #[v]).run P w=.ok (.value v) w)(hd:Nat.ble (d+1) N=true)(h:WL P r N ops rest K D (upd e d v) w):
 WL P r N ops (⟨some d,.call { callee:=.value (.func f),args:=#[x],argTypes:=at_ },t,p,af,none⟩::rest) K D e w :=
 W0a Z Z hd (by
  have h1:ev e (.func f)=.func (.func f) #[] #[]:=Z;simp[execOp,resolve,Deferred.ofValue,invoke,h1,hx,hc]) h
theorem O2c{ty u el c0 n B:Nat}{z v:Value}{xs:List Value}{s:ByteArray}(S:St M w0 w L)(hS:SlZ P ty el 1 z c0)(q0:z=.int .u8 0)(n0:c0=1)(hu:P.underlying u=some .string)(i0:w.ownsRow B el 1 v n xs)(m0:B≤w.heap.size)(hM:∀g,v.ownBlock=some g→w0.heap.size≤g∨g∈M)(g0:∀b∈L,∀g,b.1=some g→v.ownBlock≠some g)
 (hx:ev e x=v) (hy:ev e y=.string s) (hn:n+s.size≤140737488355328) (hd:Nat.ble (d+1) N=true)
 (h:∀A m c w1,w1.ownsRow B el 1 (.slice A m c) (n+s.size) (xs++Lib.strCells s)→St M w0 w1 L→z0a v.ownBlock.toList w w1→WL P r N ops rest K D (upd e d (.slice A m c)) w1) :
 WL P r N ops (⟨some d,.call { callee:=.builtin .append,args:=#[x,y],argTypes:=#[ty,u] },t,p,af,none⟩::rest) K D e w:=by
 subst q0;subst n0;obtain⟨i,hi,hz,p0,o0⟩:=hS.parts;obtain⟨v',w1,j0,d0,a0,_⟩:=Lib.run_append_own_string (P:=P) w B ty u t el i hS.und hu hi hz p0 o0 v n xs i0 s (by unfold maxLen;omega) hn m0;obtain⟨A,m,c,rfl⟩:∃A m c,v'=.slice A m c:=by
  rcases d0.2 with⟨hv,_⟩|⟨g,r0,s0,hv,_⟩
  ·exact⟨_,_,_,hv⟩
  ·exact⟨_,_,_,hv⟩
 have b0:∀q,q<w.heap.size→v.ownBlock≠some q→w1.heap[q]?=w.heap[q]?:=fun q hq g0=>a0.block q hq (fun hh=>g0 hh.symm);have f0:z0a v.ownBlock.toList w w1:=⟨a0.size,fun q hq hm=>b0 q hq (fun hh=>hm (by rw[hh];simp))⟩;have e0:C0a M w0 w1:=⟨a0.os.trans S.below.os,a0.tape.trans S.below.tape,a0.output.trans S.below.output,Nat.le_trans S.size a0.size,fun q hq hm =>
  (b0 q (Nat.lt_of_lt_of_le hq S.size) (fun hh=>by
    rcases hM q hh with h'|h'
    ·omega
    ·exact hm h')).trans (S.below.block q hq hm)⟩
 refine W0a (v:=.slice A m c) (w':=w1) Z Z hd ?_ (h A m c w1 d0 (S.keeps e0 fun b hb g hg=>?_) f0)
 ·simp[execOp,resolve,invoke,builtin,hx,hy,j0]
 ·exact b0 g (S.own b hb g hg).2.lt (g0 b hb g hg)
end
theorem Z1a{w w':World}{B e n:Nat}{v:Value}{xs:List Value}(h:w.ownsRow B e 1 v n xs){Gs:List Nat}(k:z0a Gs w w')(hg:∀g∈Gs,g<B:=by simp):w'.ownsRow B e 1 v n xs:=by
 obtain⟨h1,h2⟩:=h;refine⟨h1,?_⟩;rcases h2 with h2|⟨g,a0,b0,q1,q2,q3,q4⟩
 ·exact .inl h2
 ·refine .inr ⟨g,a0,b0,q1,q2,?_,q4⟩;have c0:g<w.heap.size:=by
   rcases Nat.lt_or_ge g w.heap.size with h'|h'
   ·exact h'
   ·rw[Array.getElem?_eq_none h'] at q3;cases q3
  rw[k.same g c0 (fun hh=>by have:=hg g hh;omega)];exact q3
theorem o7a{w:World}{B e n:Nat}{v:Value}{xs:List Value}(h:w.ownsRow B e 1 v n xs){g:Nat}(hg:v.ownBlock=some g):B≤g∧g<w.heap.size:=by
 rcases h.2 with⟨rfl,_⟩|⟨g',a0,b0,rfl,q2,q3,q4⟩
 ·simp[Value.ownBlock] at hg
 ·simp[Value.ownBlock] at hg;subst hg;refine⟨q2,?_⟩;rcases Nat.lt_or_ge g' w.heap.size with h'|h'
  ·exact h'
  ·rw[Array.getElem?_eq_none h'] at q3;cases q3
theorem D4b(g:Nat)(pv vb:Value)(e0:pv=.pointer none∨pv=.pointer (some ⟨g,0,none⟩))(w0:World)(hb:o0a w0 (g,148,[pv,vb])):
 O0a prog 141 #[.pointer (some ⟨g,0,none⟩)] w0 fun _ w'=>o0a w' (g,148,[.pointer (some ⟨g,0,none⟩),vb])∧C0a [g] w0 w':=by
 have S:=St.borrow1 hb;obtain⟨j,hj,d0⟩:∃j,prog.info? 148=some j∧j.size=2:=by
  have:(prog.info? 148).map (·.size)=some 2:=by kernel_rfl
  obtain⟨j,h1,h2⟩:=Option.map_eq_some_iff.1 this;exact⟨j,h1,h2⟩
 have b0:∀w:World,o0a w (g,148,[pv,vb])→w.shape? g=some (148,2):=fun w h=>by
  unfold o0a at h;simp[World.shape?,h]
 rcases e0 with rfl|rfl;refine a0a func141 Z ntmps141 Z ?_;refine wO0 Z U (J0a K2b Z (by first|exact S.cell 0 Z Z) Z ?_);refine x0c Tryz.underlying146 Z Z Z ?_;refine lO0 Z U ?_;refine k5c Z (Lib.run_to_unsafe w0 ⟨g,0,none⟩ Tryz.underlying146 Tryz.underlying244 hj (by rw[d0];decide) (b0 _ (S.blk 0 Z)) (Nat.zero_lt_succ 1)) Z ?_;refine f3d Z (by rw[run_callFunc_extern func197 (by kernel_rfl) (by kernel_rfl) (by kernel_rfl) (e:=Extern.AbiNoEscape.same) (by kernel_rfl),Lib.run_noEscape];rfl) Z ?_;refine k5c Z (Lib.run_from_unsafe w0 ⟨g,0,none⟩ Tryz.underlying244 Tryz.underlying146 hj (b0 _ (S.blk 0 Z)) (by kernel_rfl)) Z ?_;refine lO0 Z U ?_
 first|refine T0a (kk:=0) S W1d Z Z Z (by exact Nat.le_of_ble_eq_true Z) ?_
 intro f0 a0 c0;refine lF0 Z U (H1a Z ?_);exact⟨a0.blk 0 Z,a0.below⟩;refine a0a func141 Z ntmps141 Z ?_;refine wO0 Z U (J0a K2b Z (by first|exact S.cell 0 Z Z) Z ?_);refine x0c Tryz.underlying146 Z Z Z ?_;refine lO0 Z U (J0a K2b Z (by first|exact S.cell 0 Z Z) Z ?_);refine lOn 1 S.k [] Z U (M6c Tryz.underlying146 hj Z Z Z ?_);refine lF0 Z U (H1a Z ?_);exact⟨S.blk 0 Z,S.below⟩
theorem C2a(B g:Nat)(t0:g<B)(pv vb:Value)(o0:pv=.pointer none∨pv=.pointer (some ⟨g,0,none⟩))(n:Nat)(bs:List Value)(s:ByteArray)(w0:World)(j0:B≤w0.heap.size)(hb:o0a w0 (g,148,[pv,vb]))(e0:w0.ownsRow B 5 1 vb n bs)(n0:n+s.size≤1000000):
 O0a prog 87 #[.pointer (some ⟨g,0,none⟩),.string s] w0 fun _ w'=>(∃g0,o0a w' (g,148,[.pointer (some ⟨g,0,none⟩),g0])∧w'.ownsRow B 5 1 g0 (n+s.size) (bs++Lib.strCells s))∧C0a (g::vb.ownBlock.toList) w0 w':=by
 have S:St (g::vb.ownBlock.toList) w0 w0 [(some g,148,[pv,vb])]:=(St.reflM _ w0).push hb (.inr (by simp)) (by simp);refine a0a func87 Z ntmps87 Z ?_;refine wO0 Z U (V1a j8c Z Z (D4b g pv vb o0 _ (S.blk 0 Z)) ?_);rintro v7 w7 ⟨m0,B7⟩;have S7:=S.changed1 0 Z B7 m0;have a0:=Z1a (hg:=(fun x hx=>by rw[List.mem_singleton] at hx;omega)) e0 (z0a.of_belowM B7);refine lO0 Z U (J0a u5c Z (by first|exact S7.cell 0 Z Z) Z ?_);refine lO0 Z U ?_;refine O2c S7 m5c Z Z Tryz.underlying9 a0 (Nat.le_trans j0 S7.size) (fun x hx=>.inr (by simp[hx])) (fun b f0 x hx hh=>by simp at f0;subst f0;cases hx;have:=(o7a a0 hh).1;omega) Z Z (by omega) Z ?_;intro q0 u0 s0 v0 b0 i0 r0;refine lO0 Z U ?_
 first|refine T0a (kk:=0) i0 c3d Z Z Z (by exact Nat.le_of_ble_eq_true Z) ?_
 intro p0 c0 d0;refine lO0 Z U (z9a Tryz.underlying9 Z Z ?_);refine lR0 Z U (T4c Z ?_);exact⟨⟨_,c0.blk 0 Z,Z1a (hg:=(fun x hx=>by rw[List.mem_singleton] at hx;omega)) b0 d0⟩,c0.below⟩
def r6a(l:List UInt8):ByteArray:=⟨l.toArray⟩
theorem U2a(l:List UInt8):(r6a l).size=l.length:=by simp[r6a,ByteArray.size]
theorem M5b(a b:List UInt8):r6a a++r6a b=r6a (a++b):=by
 apply ByteArray.ext;simp[r6a]
section
variable {P:Program} {r:Option Nat} {N:Nat} {D:List Deferred} {e:Env} {w w0:World} {ops:Array Oper} {rest:List Oper} {K:List Deferred→Env→World→Prop} {L:List Ent} {M:List Nat}
variable {d:Nat} {t:TypeId} {p:String} {af:Array Edge} {x y:Operand} {xt yt:TypeId} {C:World→Prop} {Kq:Env→Prop}
theorem w3c{xt:TypeId}(w:World)(a b:List UInt8)(h:a.length+b.length≤1000000):(binOp .add xt (.string (r6a a)) (.string (r6a b))).run P w=.ok (.string (r6a (a++b))) w:=by
 have h1:((r6a a).size:Int)≤8388608:=by rw[U2a];omega
 have h2:((r6a b).size:Int)≤8388608:=by rw[U2a];omega
 simp[binOp,run_string_add w (r6a a) (r6a b) h1 h2,M5b]
theorem V6a{a b:List UInt8}(hx:ev e x=.string (r6a a))(hy:ev e y=.string (r6a b))(hs:a.length+b.length≤1000000)(hd:Nat.ble (d+1) N=true)(h:QL P N ops C rest Kq (upd e d (.string (r6a (a++b))))):
 QL P N ops C (⟨some d,.binOp .add xt x y yt,t,p,af,none⟩::rest) Kq e :=
 k3a Z Z hd (fun w _=>by simp[execOp,hx,hy,eqGuard,w3c w a b hs]) h
end
def G8b(n:Int):List UInt8:=Lib.decDigits n.toNat
theorem d6a{n:Int}(h0:0≤n)(h:n<100):(G8b n).length≤2:=by
 unfold G8b;generalize hk:n.toNat=k;rw[Lib.decDigits]
 split
 ·simp
 ·rw[Lib.decDigits,dif_pos (by omega)];simp
def T1c(op:Int):List UInt8:=if op=2 then[99] else if op=3 then[111] else[]
theorem c3b(op:Int):(T1c op).length≤1:=by
 unfold T1c
 split
 ·simp
 ·split<;>simp
def Q1b:List (List UInt8):=[[110,111,116],[97,110,100],[111,114],[120,111,114],[97,100,100],[115,117,98],[109,117,108],[101,113],[108,116],[108,101],[105,116,101]]
mutual
def E.txt:E→List UInt8
 | ⟨op,w,n,ks⟩=>if op=1∨op=2∨op=3 then T1c op++G8b n++[58]++G8b w else Q1b.getD (op-4).toNat []++E.txts ks 40++[41]
def E.txts:List E→UInt8→List UInt8
 | [],_=>[]
 | k::ks,c=>c::(E.txt k++E.txts ks 44)
end
mutual
def E.txB:E→Bool
 | ⟨op,w,n,ks⟩=>if op=1∨op=2∨op=3 then decide (0≤n∧n<100∧0≤w∧w<100) else decide (4≤op∧op≤14)&&E.txBs ks
def E.txBs:List E→Bool
 | []=>true
 | k::ks=>E.txB k&&E.txBs ks
end
theorem E.txt_leaf{e:E}(h:e.op=1∨e.op=2∨e.op=3):e.txt=T1c e.op++G8b e.n++[58]++G8b e.w:=by cases e;simp only[E.txt];rw[if_pos h]
theorem E.txt_node{e:E}(h:¬(e.op=1∨e.op=2∨e.op=3)):e.txt=Q1b.getD (e.op-4).toNat []++E.txts e.kids 40++[41]:=by cases e;simp only[E.txt];rw[if_neg h]
theorem E.txB_leaf{e:E}(h:e.op=1∨e.op=2∨e.op=3)(hb:e.txB=true):0≤e.n∧e.n<100∧0≤e.w∧e.w<100:=by
 cases e;simp only[E.txB] at hb;rw[if_pos h] at hb;exact of_decide_eq_true hb
theorem E.txBs_iff(ks:List E):E.txBs ks=true↔∀k∈ks,k.txB=true:=by
 induction ks with
 | nil=>simp[E.txBs]
 | cons k ks ih=>simp[E.txBs,ih]
theorem E.txB_node{e:E}(h:¬(e.op=1∨e.op=2∨e.op=3))(hb:e.txB=true):(4≤e.op∧e.op≤14)∧∀k∈e.kids,k.txB=true:=by
 cases e;simp only[E.txB] at hb;rw[if_neg h,Bool.and_eq_true,E.txBs_iff] at hb;exact⟨of_decide_eq_true hb.1,hb.2⟩
theorem E.txts_snoc:∀(l:List E) (x:E) (c:UInt8),E.txts (l++[x]) c=E.txts l c++((if l=[] then c else 44)::x.txt)
 | [],x,c=>by simp[E.txts]
 | y::l,x,c=>by
   rw[List.cons_append];simp only[E.txts];rw[E.txts_snoc l x 44];simp
theorem E.txts_take{ks:List E}{k:Nat}{x:E}(c:UInt8)(h:ks[k]?=some x):E.txts (ks.take (k+1)) c=E.txts (ks.take k) c++((if k=0 then c else 44)::x.txt):=by
 rw[t0a h,E.txts_snoc]
 congr 2
 have hl:k<ks.length:=(List.getElem?_eq_some_iff.1 h).1;by_cases hk:k=0
 ·subst hk;simp
 ·rw[if_neg hk,if_neg (fun hh=>hk (by have:=congrArg List.length hh;rw[List.length_take,List.length_nil] at this;omega))]
theorem E.txts_pre(ks:List E)(c:UInt8)(k:Nat):(E.txts (ks.take k) c).length≤(E.txts ks c).length:=by
 induction ks generalizing c k with
 | nil=>simp
 | cons y ks ih =>
   cases k with
   | zero=>simp[E.txts]
   | succ k =>
     have:=ih 44 k;simp only[List.take_succ_cons,E.txts,List.length_cons,List.length_append];omega
structure BX (B g:Nat) (w w':World):Prop where
 os:w'.os=w.os
 tape:w'.tape=w.tape
 output:w'.output=w.output
 size:w.heap.size≤w'.heap.size
 block:∀k,k<B→k≠g→w'.heap[k]?=w.heap[k]?
theorem BX.trans{B g:Nat}{a b c:World}(h:BX B g a b)(h2:BX B g b c):BX B g a c:=⟨h2.os.trans h.os,h2.tape.trans h.tape,h2.output.trans h.output,Nat.le_trans h.size h2.size,fun k h1 h3=>(h2.block k h1 h3).trans (h.block k h1 h3)⟩
def MB(B g:Nat)(w:World):List Nat:=g::List.range' B (w.heap.size-B)
theorem m7a{B g k:Nat}{w:World}:k∈MB B g w↔k=g∨(B≤k∧k<w.heap.size):=by
 unfold MB;rw[List.mem_cons,List.mem_range'_1];constructor
 ·rintro(h|h)
  ·exact .inl h
  ·exact .inr (by omega)
 ·rintro(h|h)
  ·exact .inl h
  ·exact .inr (by omega)
theorem BX.ofB{B g:Nat}{M:List Nat}{w w':World}(h:C0a M w w')(hM:∀x∈M,x=g∨B≤x)(hB:B≤w.heap.size):BX B g w w':=⟨h.os,h.tape,h.output,h.size,fun k h1 h2=>h.block k (by omega) fun hh=>by rcases hM k hh with h3|h3<;>omega⟩
theorem St.bx{B g:Nat}{w0 w:World}{L:List Ent}(S:St (MB B g w0) w0 w L)(hB:B≤w0.heap.size):BX B g w0 w:=BX.ofB S.below (fun _ hx=>(m7a.1 hx).imp id And.left) hB
theorem St.wrote{B g t:Nat}{w0 w w':World}{L:List Ent}{a0:List Value}(S:St (MB B g w0) w0 w L)(h:BX B g w w')(hb:o0a w' (g,t,a0)):St (MB B g w0) w0 w' [(some g,t,a0)]:=by
 have S1:St (MB B g w0) w0 w' []:=⟨⟨h.os.trans S.below.os,h.tape.trans S.below.tape,h.output.trans S.below.output,Nat.le_trans S.below.size h.size,fun k h1 h2=>by
  have h3:k<B∧k≠g:=by
   rcases Nat.lt_or_ge k B with h4|h4
   ·exact⟨h4,fun h5=>h2 (m7a.2 (.inl h5))⟩
   ·exact absurd (m7a.2 (.inr ⟨h4,h1⟩)) h2
  exact(h.block k h3.1 h3.2).trans (S.below.block k h1 h2)⟩,by simp,by simp⟩
 exact S1.push hb (.inr (m7a.2 (.inl Z))) (by simp)
end Go.Fw
namespace Go.Proofs
open Go.Fw Go.RowKit Go.ChangeShapes Go.WideShapes Go.Shelf Tryz
def Tryz.lays169_ren:Go.Shelf.Ren:=⟨fun|169=>90|n=>n,fun|70=>146|9=>9|0=>0|72=>148|37=>54|127=>213|3=>3|5=>5|n=>n,fun|n=>n⟩
theorem Tryz.lays169:Go.Proofs.Lays.n169 prog Tryz.lays169_ren:={
 mixed:=by kernel_rfl
 f169:=func90.trans (congrArg some (by kernel_rfl))
 t0:=Tryz.underlying0
 a0:=Tryz.isAgg0
 z0:=Tryz.sizeOf0
 v0:=Tryz.zeroValue0
 t3:=Tryz.underlying3
 a3:=Tryz.isAgg3
 z3:=Tryz.sizeOf3
 v3:=Tryz.zeroValue3
 t9:=Tryz.underlying9
 a9:=Tryz.isAgg9
 z9:=Tryz.sizeOf9
 v9:=Tryz.zeroValue9
 t37:=Tryz.underlying54
 a37:=Tryz.isAgg54
 z37:=Tryz.sizeOf54
 v37:=Tryz.zeroValue54
 t70:=Tryz.underlying146
 a70:=Tryz.isAgg146
 z70:=Tryz.sizeOf146
 v70:=Tryz.zeroValue146
 t72:=Tryz.underlying148
 a72:=Tryz.isAgg148
 z72:=Tryz.sizeOf148
 v72:=Tryz.zeroValue148
 t127:=Tryz.underlying213
 a127:=Tryz.isAgg213
 z127:=Tryz.sizeOf213
 v127:=Tryz.zeroValue213 }
theorem Tryz.Builder_Extra_169:Builder.Extra prog Tryz.lays169_ren:={
 sizeBuilder:=by kernel_rfl
 liesBuilder:=by kernel_rfl
 t5:=Tryz.underlying5
 a5:=Tryz.isAgg5
 z5:=Tryz.sizeOf5
 v5:=Tryz.zeroValue5
 infoByte:=by kernel_rfl
 cellsByte:=by kernel_rfl
 sizeByte:=by kernel_rfl
 neB5:=by decide }
open Go.RowKit in
theorem Tryz.Builder_String_any(B b:Nat)(l:List UInt8)(w:World)(h:Lib.IsBuilder 148 5 B b (Lib.byteCells l) w)(hBw:B≤w.heap.size):
 Calls prog 90 #[.pointer (some ⟨b,0,none⟩)] w fun e w'=>e=.returned (.string ⟨l.toArray⟩)∧Below B w w':=Any.Builder_String_any Tryz.lays169 Tryz.Builder_Extra_169 B b l w h hBw
def Tryz.lays122_ren:Go.Shelf.Ren:=⟨fun|122=>162|215=>222|n=>n,fun|3=>3|4=>4|n=>n,fun|n=>n⟩
theorem Tryz.lays122:Go.Proofs.Lays.n122 prog Tryz.lays122_ren:={
 mixed:=by kernel_rfl
 f122:=func162.trans (congrArg some (by kernel_rfl))
 f215:=func222.trans (congrArg some (by kernel_rfl))
 t3:=Tryz.underlying3
 a3:=Tryz.isAgg3
 z3:=Tryz.sizeOf3
 v3:=Tryz.zeroValue3
 t4:=Tryz.underlying4
 a4:=Tryz.isAgg4
 z4:=Tryz.sizeOf4
 v4:=Tryz.zeroValue4 }
open Go.RowKit in
theorem Tryz.cmp_Compare_int(x y:Int)(w:World):
 Calls prog 162 #[.int .i64 x,.int .i64 y] w fun e w'=>e=.returned (.int .i64 (Lib.compareInt x y))∧w'=w:=Any.cmp_Compare_int Tryz.lays122 x y w
def Tryz.lays171_ren:Go.Shelf.Ren:=⟨fun|171=>89|243=>142|246=>198|283=>261|284=>262|285=>263|286=>264|129=>209|317=>301|318=>302|319=>303|320=>304|337=>315|338=>316|n=>n,fun|3=>3|9=>9|2=>2|4=>4|171=>292|0=>0|53=>258|37=>54|5=>5|173=>294|212=>321|51=>256|20=>20|213=>322|46=>177|232=>332|233=>333|n=>n,fun|17=>2|18=>3|19=>4|n=>n⟩
theorem Tryz.lays171:Go.Proofs.Lays.n171 prog Tryz.lays171_ren:={
 mixed:=by kernel_rfl
 f129:=func209.trans (congrArg some (by kernel_rfl))
 f171:=func89.trans (congrArg some (by kernel_rfl))
 f243:=func142.trans (congrArg some (by kernel_rfl))
 f246:=func198.trans (congrArg some (by kernel_rfl))
 f283:=func261.trans (congrArg some (by kernel_rfl))
 f284:=func262.trans (congrArg some (by kernel_rfl))
 f285:=func263.trans (congrArg some (by kernel_rfl))
 f286:=func264.trans (congrArg some (by kernel_rfl))
 f317:=func301.trans (congrArg some (by kernel_rfl))
 f318:=func302.trans (congrArg some (by kernel_rfl))
 f319:=func303.trans (congrArg some (by kernel_rfl))
 f320:=func304.trans (congrArg some (by kernel_rfl))
 f337:=func315.trans (congrArg some (by kernel_rfl))
 f338:=func316.trans (congrArg some (by kernel_rfl))
 t0:=Tryz.underlying0
 a0:=Tryz.isAgg0
 z0:=Tryz.sizeOf0
 v0:=Tryz.zeroValue0
 t2:=Tryz.underlying2
 a2:=Tryz.isAgg2
 z2:=Tryz.sizeOf2
 v2:=Tryz.zeroValue2
 t3:=Tryz.underlying3
 a3:=Tryz.isAgg3
 z3:=Tryz.sizeOf3
 v3:=Tryz.zeroValue3
 t4:=Tryz.underlying4
 a4:=Tryz.isAgg4
 z4:=Tryz.sizeOf4
 v4:=Tryz.zeroValue4
 t5:=Tryz.underlying5
 a5:=Tryz.isAgg5
 z5:=Tryz.sizeOf5
 v5:=Tryz.zeroValue5
 t9:=Tryz.underlying9
 a9:=Tryz.isAgg9
 z9:=Tryz.sizeOf9
 v9:=Tryz.zeroValue9
 t20:=Tryz.underlying20
 a20:=Tryz.isAgg20
 z20:=Tryz.sizeOf20
 v20:=Tryz.zeroValue20
 t37:=Tryz.underlying54
 a37:=Tryz.isAgg54
 z37:=Tryz.sizeOf54
 v37:=Tryz.zeroValue54
 t46:=Tryz.underlying177
 a46:=Tryz.isAgg177
 z46:=Tryz.sizeOf177
 v46:=Tryz.zeroValue177
 t51:=Tryz.underlying256
 a51:=Tryz.isAgg256
 z51:=Tryz.sizeOf256
 v51:=Tryz.zeroValue256
 t53:=Tryz.underlying258
 a53:=Tryz.isAgg258
 z53:=Tryz.sizeOf258
 v53:=Tryz.zeroValue258
 t171:=Tryz.underlying292
 a171:=Tryz.isAgg292
 z171:=Tryz.sizeOf292
 v171:=Tryz.zeroValue292
 t173:=Tryz.underlying294
 a173:=Tryz.isAgg294
 z173:=Tryz.sizeOf294
 v173:=Tryz.zeroValue294
 t212:=Tryz.underlying321
 a212:=Tryz.isAgg321
 z212:=Tryz.sizeOf321
 v212:=Tryz.zeroValue321
 t213:=Tryz.underlying322
 a213:=Tryz.isAgg322
 z213:=Tryz.sizeOf322
 t232:=Tryz.underlying332
 a232:=Tryz.isAgg332
 z232:=Tryz.sizeOf332
 v232:=Tryz.zeroValue332
 t233:=Tryz.underlying333
 a233:=Tryz.isAgg333
 z233:=Tryz.sizeOf333
 v233:=Tryz.zeroValue333
 g17:=by kernel_rfl
 g18:=by kernel_rfl
 g19:=by kernel_rfl }
open Go.RowKit Go.Sort Go.Lib in
theorem Tryz.strconv_Itoa_small(i:Nat)(hi:i<100)(w:World):
 Calls prog 89 #[.int .i64 i] w fun e w'=>e=.returned (.string ⟨(Lib.decDigits i).toArray⟩)∧w'=w:=Any.strconv_Itoa_small Tryz.lays171 i hi w
def Tryz.lays189_ren:Go.Shelf.Ren:=⟨fun|189=>92|125=>148|257=>147|128=>208|129=>209|294=>199|295=>200|296=>201|297=>202|298=>203|299=>204|216=>205|300=>206|301=>207|328=>265|329=>266|330=>267|331=>268|332=>269|215=>222|343=>305|n=>n,fun|28=>48|3=>3|46=>177|0=>0|51=>256|53=>258|4=>4|183=>249|182=>248|131=>253|5=>5|9=>9|218=>296|222=>300|228=>323|229=>324|n=>n,fun|n=>n⟩
theorem Tryz.lays189:Go.Proofs.Lays.n189 prog Tryz.lays189_ren:={
 mixed:=by kernel_rfl
 f125:=func148.trans (congrArg some (by kernel_rfl))
 f128:=func208.trans (congrArg some (by kernel_rfl))
 f129:=func209.trans (congrArg some (by kernel_rfl))
 f189:=func92.trans (congrArg some (by kernel_rfl))
 f215:=func222.trans (congrArg some (by kernel_rfl))
 f216:=func205.trans (congrArg some (by kernel_rfl))
 f257:=func147.trans (congrArg some (by kernel_rfl))
 f294:=func199.trans (congrArg some (by kernel_rfl))
 f295:=func200.trans (congrArg some (by kernel_rfl))
 f296:=func201.trans (congrArg some (by kernel_rfl))
 f297:=func202.trans (congrArg some (by kernel_rfl))
 f298:=func203.trans (congrArg some (by kernel_rfl))
 f299:=func204.trans (congrArg some (by kernel_rfl))
 f300:=func206.trans (congrArg some (by kernel_rfl))
 f301:=func207.trans (congrArg some (by kernel_rfl))
 f328:=func265.trans (congrArg some (by kernel_rfl))
 f329:=func266.trans (congrArg some (by kernel_rfl))
 f330:=func267.trans (congrArg some (by kernel_rfl))
 f331:=func268.trans (congrArg some (by kernel_rfl))
 f332:=func269.trans (congrArg some (by kernel_rfl))
 f343:=func305.trans (congrArg some (by kernel_rfl))
 t0:=Tryz.underlying0
 a0:=Tryz.isAgg0
 z0:=Tryz.sizeOf0
 v0:=Tryz.zeroValue0
 t3:=Tryz.underlying3
 a3:=Tryz.isAgg3
 z3:=Tryz.sizeOf3
 v3:=Tryz.zeroValue3
 t4:=Tryz.underlying4
 a4:=Tryz.isAgg4
 z4:=Tryz.sizeOf4
 v4:=Tryz.zeroValue4
 t5:=Tryz.underlying5
 a5:=Tryz.isAgg5
 z5:=Tryz.sizeOf5
 v5:=Tryz.zeroValue5
 t9:=Tryz.underlying9
 a9:=Tryz.isAgg9
 z9:=Tryz.sizeOf9
 v9:=Tryz.zeroValue9
 t28:=Tryz.underlying48
 a28:=Tryz.isAgg48
 z28:=Tryz.sizeOf48
 v28:=Tryz.zeroValue48
 t46:=Tryz.underlying177
 a46:=Tryz.isAgg177
 z46:=Tryz.sizeOf177
 v46:=Tryz.zeroValue177
 t51:=Tryz.underlying256
 a51:=Tryz.isAgg256
 z51:=Tryz.sizeOf256
 v51:=Tryz.zeroValue256
 t53:=Tryz.underlying258
 a53:=Tryz.isAgg258
 z53:=Tryz.sizeOf258
 v53:=Tryz.zeroValue258
 t131:=Tryz.underlying253
 a131:=Tryz.isAgg253
 z131:=Tryz.sizeOf253
 v131:=Tryz.zeroValue253
 t182:=Tryz.underlying248
 a182:=Tryz.isAgg248
 z182:=Tryz.sizeOf248
 v182:=Tryz.zeroValue248
 t183:=Tryz.underlying249
 a183:=Tryz.isAgg249
 z183:=Tryz.sizeOf249
 v183:=Tryz.zeroValue249
 t218:=Tryz.underlying296
 a218:=Tryz.isAgg296
 z218:=Tryz.sizeOf296
 v218:=Tryz.zeroValue296
 t222:=Tryz.underlying300
 a222:=Tryz.isAgg300
 z222:=Tryz.sizeOf300
 v222:=Tryz.zeroValue300
 t228:=Tryz.underlying323
 a228:=Tryz.isAgg323
 z228:=Tryz.sizeOf323
 v228:=Tryz.zeroValue323
 t229:=Tryz.underlying324
 a229:=Tryz.isAgg324
 z229:=Tryz.sizeOf324
 v229:=Tryz.zeroValue324 }
open Go.Sort Go.RowKit in
theorem Tryz.slices_Sort_int(blk off cap:Nat)(zs:List Int)(w:World)(hH:Holds (Value.int .i64) w blk off zs.toArray)(hblk:blk<w.heap.size)(hsz:zs.length<4611686018427387904):
 Calls prog 92 #[.slice (some ⟨blk,off,none⟩) zs.length cap] w fun e w' =>
  e=.returned (.tuple #[])∧∃n os,w'=grow (putRow (Value.int .i64) (Sort.ahead w n) blk off (zs.mergeSort fun x y=>decide (x≤y)).toArray) os:=Any.slices_Sort_int Tryz.lays189 blk off cap zs w hH hblk hsz
def Tryz.laysNm220_ren:Go.Shelf.Ren:=⟨fun|20=>132|n=>n,fun|22=>48|3=>3|4=>4|0=>0|n=>n,fun|n=>n⟩
theorem Tryz.laysNm220:Go.Proofs.Lays2.n20 prog Tryz.laysNm220_ren:={
 mixed:=by kernel_rfl
 f20:=func132.trans (congrArg some (by kernel_rfl))
 t0:=Tryz.underlying0
 a0:=Tryz.isAgg0
 z0:=Tryz.sizeOf0
 v0:=Tryz.zeroValue0
 t3:=Tryz.underlying3
 a3:=Tryz.isAgg3
 z3:=Tryz.sizeOf3
 v3:=Tryz.zeroValue3
 t4:=Tryz.underlying4
 a4:=Tryz.isAgg4
 z4:=Tryz.sizeOf4
 v4:=Tryz.zeroValue4
 t22:=Tryz.underlying48
 a22:=Tryz.isAgg48
 z22:=Tryz.sizeOf48
 v22:=Tryz.zeroValue48
 i3:=by kernel_rfl }
open Go.RowKit Go.Lib Go.Sort in
theorem Tryz.slices_Compact_int(blk off cap:Nat)(zs:List Int)(w:World)(hH:Holds (Value.int .i64) w blk off zs.toArray)(hsz:zs.length≤9223372036854775807)(hcap:zs.length≤cap):
 Calls prog 132 #[.slice (some ⟨blk,off,none⟩) zs.length cap] w fun e w'=>e=.returned (.slice (some ⟨blk,off,none⟩) (Lib.compact zs).length cap)∧∃q,w'=putRow (Value.int .i64) (Sort.ahead w q) blk off (Lib.compact zs++List.replicate (zs.length-(Lib.compact zs).length) 0).toArray:=Any.slices_Compact_int Tryz.laysNm220 blk off cap zs w hH hsz hcap
open Go.RowKit Go.Lib Go.Sort in
theorem Tryz.slices_Compact_int_empty(a:Option Addr)(cap:Nat)(w:World):
 Calls prog 132 #[.slice a 0 cap] w fun e w'=>e=.returned (.slice a 0 cap)∧w'=w:=Any.slices_Compact_int_empty Tryz.laysNm220 a cap w
open Go.RowKit Go.Sort in
theorem Tryz.slices_Sort_int_none(p:Option Addr)(cap:Nat)(w:World):
 Calls prog 92 #[.slice p 0 cap] w fun e w'=>e=.returned (.tuple #[])∧w'=w:=Any.slices_Sort_int_none Tryz.lays189 p cap w
def Tryz.laysSlF06_f95_ren:Go.Shelf.Ren:=⟨fun|6=>95|15=>148|14=>160|28=>208|29=>209|20=>214|21=>215|22=>216|23=>217|24=>218|25=>219|26=>220|27=>221|46=>270|47=>266|48=>267|49=>271|50=>272|57=>306|n=>n,fun|22=>41|24=>44|25=>161|3=>3|39=>177|0=>0|53=>256|55=>258|4=>4|46=>249|45=>248|50=>253|5=>5|9=>9|66=>296|70=>300|76=>323|77=>324|n=>n,fun|n=>n⟩
theorem Tryz.laysSlF06_f95:Go.Proofs.SlLaysF0.n6 prog Tryz.laysSlF06_f95_ren:={
 mixed:=by kernel_rfl
 f6:=⟨Tryz.f95.name,by decide,func95.trans (congrArg some (by kernel_rfl))⟩
 f14:=⟨Tryz.f160.name,by decide,func160.trans (congrArg some (by kernel_rfl))⟩
 f15:=func148.trans (congrArg some (by kernel_rfl))
 f20:=⟨Tryz.f214.name,by decide,func214.trans (congrArg some (by kernel_rfl))⟩
 f21:=⟨Tryz.f215.name,by decide,func215.trans (congrArg some (by kernel_rfl))⟩
 f22:=⟨Tryz.f216.name,by decide,func216.trans (congrArg some (by kernel_rfl))⟩
 f23:=⟨Tryz.f217.name,by decide,func217.trans (congrArg some (by kernel_rfl))⟩
 f24:=⟨Tryz.f218.name,by decide,func218.trans (congrArg some (by kernel_rfl))⟩
 f25:=⟨Tryz.f219.name,by decide,func219.trans (congrArg some (by kernel_rfl))⟩
 f26:=⟨Tryz.f220.name,by decide,func220.trans (congrArg some (by kernel_rfl))⟩
 f27:=⟨Tryz.f221.name,by decide,func221.trans (congrArg some (by kernel_rfl))⟩
 f28:=func208.trans (congrArg some (by kernel_rfl))
 f29:=func209.trans (congrArg some (by kernel_rfl))
 f46:=⟨Tryz.f270.name,by decide,func270.trans (congrArg some (by kernel_rfl))⟩
 f47:=func266.trans (congrArg some (by kernel_rfl))
 f48:=func267.trans (congrArg some (by kernel_rfl))
 f49:=⟨Tryz.f271.name,by decide,func271.trans (congrArg some (by kernel_rfl))⟩
 f50:=⟨Tryz.f272.name,by decide,func272.trans (congrArg some (by kernel_rfl))⟩
 f57:=⟨Tryz.f306.name,by decide,func306.trans (congrArg some (by kernel_rfl))⟩
 t0:=Tryz.underlying0
 a0:=Tryz.isAgg0
 z0:=Tryz.sizeOf0
 v0:=Tryz.zeroValue0
 t3:=Tryz.underlying3
 a3:=Tryz.isAgg3
 z3:=Tryz.sizeOf3
 v3:=Tryz.zeroValue3
 t4:=Tryz.underlying4
 a4:=Tryz.isAgg4
 z4:=Tryz.sizeOf4
 v4:=Tryz.zeroValue4
 t5:=Tryz.underlying5
 a5:=Tryz.isAgg5
 z5:=Tryz.sizeOf5
 v5:=Tryz.zeroValue5
 t9:=Tryz.underlying9
 a9:=Tryz.isAgg9
 z9:=Tryz.sizeOf9
 v9:=Tryz.zeroValue9
 t22:=Tryz.underlying41
 a22:=Tryz.isAgg41
 z22:=Tryz.sizeOf41
 v22:=Tryz.zeroValue41
 t25:=Tryz.underlying161
 a25:=Tryz.isAgg161
 z25:=Tryz.sizeOf161
 v25:=Tryz.zeroValue161
 t39:=Tryz.underlying177
 a39:=Tryz.isAgg177
 z39:=Tryz.sizeOf177
 v39:=Tryz.zeroValue177
 t45:=Tryz.underlying248
 a45:=Tryz.isAgg248
 z45:=Tryz.sizeOf248
 v45:=Tryz.zeroValue248
 t46:=Tryz.underlying249
 a46:=Tryz.isAgg249
 z46:=Tryz.sizeOf249
 v46:=Tryz.zeroValue249
 t50:=Tryz.underlying253
 a50:=Tryz.isAgg253
 z50:=Tryz.sizeOf253
 v50:=Tryz.zeroValue253
 t53:=Tryz.underlying256
 a53:=Tryz.isAgg256
 z53:=Tryz.sizeOf256
 v53:=Tryz.zeroValue256
 t55:=Tryz.underlying258
 a55:=Tryz.isAgg258
 z55:=Tryz.sizeOf258
 v55:=Tryz.zeroValue258
 t66:=Tryz.underlying296
 a66:=Tryz.isAgg296
 z66:=Tryz.sizeOf296
 v66:=Tryz.zeroValue296
 t70:=Tryz.underlying300
 a70:=Tryz.isAgg300
 z70:=Tryz.sizeOf300
 v70:=Tryz.zeroValue300
 t76:=Tryz.underlying323
 a76:=Tryz.isAgg323
 z76:=Tryz.sizeOf323
 v76:=Tryz.zeroValue323
 t77:=Tryz.underlying324
 a77:=Tryz.isAgg324
 z77:=Tryz.sizeOf324
 v77:=Tryz.zeroValue324 }
open Go.RowKit Go.Lib Go.Sort in
theorem Tryz.slices_SortFunc_none{α:Type}[Inhabited α](p:Option Addr)(cap:Nat)(fv:Value)(w:World):
 Calls prog 95 #[.slice p 0 cap,fv] w fun e w'=>e=.returned (.tuple #[])∧w'=w:=AnyF.slices_SortFunc_none Tryz.laysSlF06_f95 p cap fv w
open Go.RowKit Go.Lib Go.Sort in
theorem Tryz.slices_SortFunc_total{α:Type}[Inhabited α](k:Nat)(aE:∀w,(isAgg 44).run prog w=.ok true w)(zE:∀w,(Go.sizeOf 44).run prog w=.ok k w)(enc:α→List Value)(hk:∀x,(enc x).length=k)(h1:∀x,∀v∈enc x,v.oneCell'=true)(cf:α→α→Int)(hO:SWO (ltOf cf))(g:Nat)(cb:Array Value)(blk off cap:Nat)(d:Array α)(w:World)(eg:∀args w,(callFunc g args).run prog w=.ok (.enter g args) w)(hcmp:CmpLays prog g cb enc k cf blk off d.size w)(hH:HoldsK enc k w blk off d)(hblk:blk<w.heap.size)(hsz:d.size<4611686018427387904)(hT:∀x y,(ltOf cf) x y=false→(ltOf cf) y x=false→x=y):
 Calls prog 95 #[.slice (some ⟨blk,off,none⟩) d.size cap,.func (.func g) #[] cb] w fun e w' =>
  e=.returned (.tuple #[])∧∃n os,w'=sortWorldK enc k w blk off n (d.toList.mergeSort fun x y=>!(ltOf cf) y x).toArray os:=AnyQ.slices_SortFunc_total Tryz.laysSlF06_f95 k aE zE enc hk h1 cf hO g cb blk off cap d w eg hcmp hH hblk hsz hT
end Go.Proofs
namespace Go.Fw
open Go.Proofs.YtgjenhndpfcjkaaGreatDoor Go.Proofs Go.RowKit Go.ChangeShapes Go.WideShapes Go.Shelf Tryz
def D7a(M:List Nat)(w:World):Prop:=0∉M∧∀(i:Nat) (l:List UInt8),Q1b[i]?=some l→w.cell? ⟨0,i,none⟩=some (.string (r6a l))
theorem D7a.keep{M:List Nat}{w w':World}(h:D7a M w)(hk:z0a M w w'):D7a M w':=⟨h.1,fun i l hi=>hk.cell (a:=⟨0,i,none⟩) h.1 (h.2 i l hi)⟩
theorem D7a.less{M M':List Nat}{w:World}(h:D7a M w)(hM:∀g∈M',g∈M):D7a M' w:=⟨fun hh=>h.1 (hM _ hh),h.2⟩
theorem D7a.more{M M':List Nat}{w:World}(h:D7a M w)(hM:∀g∈M',g∈M∨w.heap.size≤g):D7a M' w:=by
 refine⟨fun hh=>?_,h.2⟩;rcases hM _ hh with h'|h'
 ·exact h.1 h'
 ·have:=World.block_lt_of_cell? w _ (h.2 0 _ Z);simp at this;omega
def RB(B g:Nat)(w:World)(e:E)(b o:Nat):Prop:=∀M,(∀x∈M,x=g∨B≤x)→RdP M w e b o
def NB(B g:Nat)(w:World):Prop:=∀M,(∀x∈M,x=g∨B≤x)→D7a M w
theorem RB.keep{B g:Nat}{w w':World}{e:E}{b o:Nat}(h:RB B g w e b o)(k:z0a (MB B g w) w w'):RB B g w' e b o:=fun M hM =>
 (((h (M++MB B g w) (fun x hx=>by rcases List.mem_append.1 hx with h|h;exact hM x h;exact(m7a.1 h).imp id And.left)).keep (k.mono fun x hx=>List.mem_append_right _ hx))).less fun x hx=>List.mem_append_left _ hx
theorem NB.keep{B g:Nat}{w w':World}(h:NB B g w)(k:z0a (MB B g w) w w'):NB B g w':=fun M hM =>
 (((h (M++MB B g w) (fun x hx=>by rcases List.mem_append.1 hx with h|h;exact hM x h;exact(m7a.1 h).imp id And.left)).keep (k.mono fun x hx=>List.mem_append_right _ hx))).less fun x hx=>List.mem_append_left _ hx
theorem s1d{B g:Nat}{w:World}:∀x∈MB B g w,x=g∨B≤x:=fun _ hx=>(m7a.1 hx).imp id And.left
theorem RB.kid{B g:Nat}{w:World}{e:E}{b o:Nat}(h:RB B g w e b o){A:Option Addr}{n c:Nat}(h3:w.cell? ⟨b,o+3,none⟩=some (.slice A n c))(hn:n=e.kids.length)(i:Nat)(hi:i<e.kids.length):∃bk ok,A=some ⟨bk,ok,none⟩∧RB B g w e.kids[i] bk (ok+i*4):=by
 obtain⟨-,-,-,-,-,-,-,A1,n1,c1,hc,-,-,-,-,hk,-⟩:=(h [] (by simp)).open_;obtain⟨rfl,rfl,rfl⟩:A=A1∧n=n1∧c=c1:=by
  have:=h3.symm.trans hc;simpa using this
 obtain⟨bk,ok,rfl,-,-⟩:=hk (by omega);refine⟨bk,ok,Z,fun M hM=>?_⟩;obtain⟨-,-,-,-,-,-,-,A2,n2,c2,c0,-,-,-,-,d0,-⟩:=(h M hM).open_;obtain⟨rfl,rfl,rfl⟩:some ⟨bk,ok,none⟩=A2∧n=n2∧c=c2:=by
  have:=h3.symm.trans c0;simpa using this
 obtain⟨a0,f0,he,b0,e0⟩:=d0 (by omega);obtain⟨rfl,rfl⟩:bk=a0∧ok=f0:=by simpa using he
 exact RdP.kid b0 e0 i hi
theorem e6a(n:Int)(h0:0≤n)(h1:n<100)(w0:World):
 O0a prog 89 #[.int .i64 n] w0 fun v w'=>v=.string (r6a (G8b n))∧Below w0.heap.size w0 w':=by
 obtain⟨k,rfl⟩:=Int.eq_ofNat_of_zero_le h0;refine Calls.mono (Tryz.strconv_Itoa_small k (by omega) w0) ?_;rintro e w' ⟨rfl,rfl⟩;exact⟨_,Z,Z,Below.refl _ _⟩
theorem y0b(op:Int)(w0:World):
 O0a prog 88 #[.int .i64 op] w0 fun v w'=>v=.string (r6a (T1c op))∧Below w0.heap.size w0 w':=by
 have S:=St.refl w0;refine a0a func88 Z ntmps88 Z ?_;refine wB0 Z U (fun h5=>?_) fun h5=>?_
 ·refine lR0 Z U (w0a Z ?_);refine⟨?_,S.fin⟩;unfold T1c;have z:op=2:=h5;rw[if_pos z];rfl
 refine lB0 Z U (fun h7=>?_) fun h7=>?_
 ·refine lR0 Z U (w0a Z ?_);refine⟨?_,S.fin⟩;unfold T1c;have z:¬op=2:=h5;have z2:op=3:=h7;rw[if_neg z,if_pos z2];rfl
 refine lR0 Z U (w0a Z ?_);refine⟨?_,S.fin⟩;unfold T1c;have z:¬op=2:=h5;have z2:¬op=3:=h7;rw[if_neg z,if_neg z2];rfl
theorem f0d:prog.globalNamed ((Rows.inferInterferenceRow.laid[4]?.map (·.1)).getD "")=some 0:=by kernel_rfl
theorem s0d:(prog.globals[0]?).map (·.type)=some 154:=by kernel_rfl
theorem G1d:prog.cellsOf 154=11:=by kernel_rfl
theorem N2d:prog.cellsOf 9=1:=by kernel_rfl
theorem F6c{s:ByteArray}{l:List UInt8}(h:s.data.toList=l):s=r6a l:=by
 cases s;subst h;simp[r6a]
theorem L2b{W:World}(h:laidMetH prog Rows.inferInterferenceRow.laid W):D7a [] W:=by
 rw[MakeChecks.laidMetH_plain _ _ _ (by kernel_rfl)] at h;obtain⟨_,d0,-⟩:=h;obtain⟨_,_,c0,_,_,g0,o0,p0,m0⟩:=S5b d0 (i:=4) Z;obtain rfl:=Option.some.inj (f0d.symm.trans g0);obtain rfl:=Option.some.inj (s0d.symm.trans o0);obtain⟨xs,_,rfl,b0,e0,_,f0⟩:=DataW.trod_array Tryz.underlying154 m0;rw[G1d] at e0;simp only[N2d,Nat.mul_one] at f0;refine⟨by simp,fun i l hi=>?_⟩;have n0:i<11:=(List.getElem?_eq_some_iff.1 hi).1;have a0:=World.var?_cell g0 p0 i;have i0:i<xs.length:=by omega
 have he:=f0 i (by omega);rw[List.getElem?_eq_getElem i0] at he;obtain⟨k,e1,e2,-⟩:=DataW.trod_string Tryz.underlying9 he;have j0:c0.toList[i]?=some (.string k):=by
  have h1:((c0.toList.drop i).take 1)[0]?=some (Value.string k):=by rw[e1];rfl
  rw[List.getElem?_take,if_pos (by omega),List.getElem?_drop] at h1;simpa using h1
 rw[a0];have e3:c0[i]?=some (.string k):=by simpa using j0
 rw[e3];have b0:(DataW.agg _=DataW.agg _∧_):=Prod.mk.inj b0;have b0:=DataW.agg.inj b0.1;have e4:(xs.map (·.1))[i]?=some (.lit (.string k.data.toList)):=by rw[List.getElem?_map,List.getElem?_eq_getElem i0,e2];rfl
 rw[←b0] at e4;have key:l=k.data.toList:=by
  rcases(show i=0∨i=1∨i=2∨i=3∨i=4∨i=5∨i=6∨i=7∨i=8∨i=9∨i=10 by omega) with rfl|rfl|rfl|rfl|rfl|rfl|rfl|rfl|rfl|rfl|rfl<;>(cases hi;injection e4 with e4;injection e4 with e4;injection e4)
 rw[F6c key.symm]
def h9a:List Int→Int
 | []=>0
 | x::l=>x+h9a l
theorem Q6a(a b:List Int):h9a (a++b)=h9a a+h9a b:=by
 induction a with
 | nil=>simp[h9a]
 | cons x l ih=>simp only[List.cons_append,h9a,ih];omega
theorem P0c{l:List Int}{k:Nat}{x:Int}(h:l[k]?=some x):h9a (l.take (k+1))=h9a (l.take k)+x:=by
 rw[t0a h,Q6a];simp[h9a]
theorem s6b{l:List Int}(h:∀x∈l,1≤x∧x≤8):(l.length:Int)≤h9a l∧h9a l≤8*l.length:=by
 induction l with
 | nil=>simp[h9a]
 | cons x l ih =>
   have h1:=h x (by simp);have h2:=ih fun y hy=>h y (List.mem_cons_of_mem _ hy);simp only[h9a,List.length_cons];omega
theorem c4b{l:List Int}(h:∀x∈l,1≤x∧x≤8)(k:Nat):0≤h9a (l.take k)∧h9a (l.take k)≤h9a l:=by
 have h1:=Q6a (l.take k) (l.drop k);rw[List.take_append_drop] at h1;have h2:=s6b (l:=l.take k) fun x hx=>h x (List.mem_of_mem_take hx);have h3:=s6b (l:=l.drop k) fun x hx=>h x (List.mem_of_mem_drop hx);omega
theorem f6b{C:List Int}(h:C.Pairwise (·<·))(hc:∀c∈C,0≤c∧c<32):C.length≤32:=by
 have key:∀(l:List Int) (m:Int),l.Pairwise (·<·)→(∀c∈l,m≤c∧c<32)→m≤32→(l.length:Int)≤32-m:=by
  intro l
  induction l with
  | nil=>intro m _ _ hm;simp;omega
  | cons x l ih =>
    intro m h1 h2 _;rw[List.pairwise_cons] at h1;have h3:=h2 x (by simp);have h4:=ih (x+1) h1.2 (fun c hc=>⟨by have:=h1.1 c hc;omega,(h2 c (List.mem_cons_of_mem _ hc)).2⟩) (by omega);simp only[List.length_cons];omega
 have:=key C 0 h hc (by omega);omega
theorem r5c{p:List z1a}{c:Int}(hc:0≤c∧c<p.length)(hw:∀c∈p,1≤c.w∧c.w≤8):1≤wAt p c∧wAt p c≤8:=by
 have h2:c.toNat<p.length:=by omega
 unfold wAt;rw[if_pos hc.1,List.getElem?_eq_getElem h2];exact hw _ (List.getElem_mem h2)
def E7b(w0 w:World)(v:Value)(l:List Int):Prop:=∀M:List Nat,(∀g∈M,g<w0.heap.size)→RdI M w v l
theorem E7b.keep{w0 w w':World}{v:Value}{l:List Int}(h:E7b w0 w v l)(hk:z0a [] w w'):E7b w0 w' v l:=fun M hM=>(h M hM).keep hk.of_nil
theorem E7b.form{w0 w:World}{v:Value}{l:List Int}(h:E7b w0 w v l):∃A n c,v=.slice A n c:=(h [] (by simp)).form
theorem E7b.later{w0 w1 w w':World}{v:Value}{l:List Int}{G:List Nat}(h:E7b w1 w v l)(hk:z0a G w w')(hG:∀g∈G,g<w1.heap.size)(h0:w0.heap.size≤w1.heap.size):E7b w0 w' v l:=fun M hM =>
 ((h (G++M) (fun g hg=>by rcases List.mem_append.1 hg with h|h;exact hG g h;exact Nat.lt_of_lt_of_le (hM g h) h0)).keep (hk.mono fun g hg=>List.mem_append_left _ hg)).less fun g hg=>List.mem_append_right _ hg
theorem E7b.at_{w1 w w':World}{v:Value}{l:List Int}{G:List Nat}(h:E7b w1 w v l)(hk:z0a G w w')(hG:∀g∈G,g<w1.heap.size):RdI [] w' v l:=((h G hG).keep hk).less (by simp)
theorem A9c{M:List Nat}{w:World}{op wd:Int}{a:E}{ca:List Value}{g:Nat}(h1:i64 op)(h2:i64 wd)(hg:g∉M)(hc:Cells w g 0 ca)(ha:RdE M w a ca):
 RdE M w ⟨op,wd,0,[a]⟩ [.int .i64 op,.int .i64 wd,.int .i64 0,.slice (some ⟨g,0,none⟩) 1 1]:=by
 rw[RdE];refine⟨_,1,1,Z,h1,h2,by unfold i64;simp,Z,Nat.le_refl _,by unfold maxLen;omega,by omega,fun _=>⟨g,0,Z,hg,fun i hi=>?_⟩⟩;have a0:i<1:=hi;obtain rfl:i=0:=by omega
 exact⟨ca,by simpa using hc,ha⟩
theorem J2c{M M':List Nat}{w w':World}{op wd n:Int}{cs:List Value}(h:RdE M w ⟨op,wd,n,[]⟩ cs):RdE M' w' ⟨op,wd,n,[]⟩ cs:=by
 rw[RdE] at h ⊢;obtain⟨A,k,c,h1,h2,h3,h4,h5,h6,h7,h8,_⟩:=h;exact⟨A,k,c,h1,h2,h3,h4,h5,h6,h7,h8,fun hk=>absurd hk (by simp at h5;omega)⟩
def RdL(M:List Nat)(w:World)(v:Value)(l:List E):Prop:=RdE M w ⟨0,0,0,l⟩ [.int .i64 0,.int .i64 0,.int .i64 0,v]
theorem RdL.open_{M:List Nat}{w:World}{v:Value}{l:List E}(h:RdL M w v l):∃A n c,v=.slice A n c∧n=l.length∧n≤c∧c≤maxLen∧n≤140737488355328 ∧
 (0<n→∃b o,A=some ⟨b,o,none⟩∧b∉M∧∀(i:Nat) (h:i<l.length),∃a0,Cells w b (o+i*4) a0∧RdE M w l[i] a0):=by
 obtain⟨A,n,c,h1,-,-,-,h2,h3,h4,h5,h6⟩:=RdE.open_ h;cases h1;exact⟨A,n,c,Z,h2,h3,h4,h5,h6⟩
theorem RdL.at{M:List Nat}{w:World}{A:Option Addr}{n c:Nat}{l:List E}(h:RdL M w (.slice A n c) l):n=l.length∧n≤c∧c≤maxLen∧n≤140737488355328 ∧
 (0<n→∃b o,A=some ⟨b,o,none⟩∧b∉M∧∀(i:Nat) (h:i<l.length),∃a0,Cells w b (o+i*4) a0∧RdE M w l[i] a0):=by
 obtain⟨A,n,c,h1,h2⟩:=h.open_;cases h1;exact h2
theorem RdL.made{M:List Nat}{w:World}{A:Option Addr}{n c:Nat}{l:List E}(h2:n=l.length)(h3:n≤c)(h4:c≤maxLen)(h5:n≤140737488355328)
 (h6:0<n→∃b o,A=some ⟨b,o,none⟩∧b∉M∧∀(i:Nat) (h:i<l.length),∃a0,Cells w b (o+i*4) a0∧RdE M w l[i] a0):RdL M w (.slice A n c) l:=by
 unfold RdL;rw[RdE];exact⟨A,n,c,Z,by unfold i64;simp,by unfold i64;simp,by unfold i64;simp,h2,h3,h4,h5,h6⟩
theorem RdL.keep{M:List Nat}{w w':World}{v:Value}{l:List E}(h:RdL M w v l)(hk:z0a M w w'):RdL M w' v l:=RdE.keep hk _ _ h
theorem RdL.more{M M':List Nat}{w:World}{v:Value}{l:List E}(h:RdL M w v l)(hM:∀g∈M',g∈M∨w.heap.size≤g):RdL M' w v l:=RdE.more hM _ _ h
section
variable {P:Program} {r:Option Nat} {N:Nat} {D:List Deferred} {e:Env} {w w0:World} {ops:Array Oper} {rest:List Oper} {K:List Deferred→Env→World→Prop} {L:List Ent} {M:List Nat}
variable {d:Nat} {t:TypeId} {p:String} {af:Array Edge} {f:FuncId} {args:Array Operand} {at_:Array TypeId} {vs:List Value} {x:Operand}
theorem x3c{α:Type}{l:List α}{k:Nat}{x:α}(h:l[k]?=some x):l.set k x=l:=by
 obtain⟨a0,he⟩:=List.getElem?_eq_some_iff.1 h;rw[←he];exact List.set_getElem_self a0
theorem O4b{α:Type}{R0:List Value→α→Prop}{size:Nat}(hL:L4a (fun(_:List Nat) (_:World)=>R0) size){M2 M3:List Nat}{ty el a0 k c m:Nat}{A2:Option Addr}{y:Operand}{z v:Value}{G:Option Nat}{cs:List Value}{l l2:List α}(S:St M w0 w L)(hS:SlZ P ty el size z a0)(hk:L[k]?=some (G,el,cs))(hR:w1a (fun _ _=>R0) size M2 w G cs v l)
 (hx:ev e x=v) (hy:ev e y=.slice A2 m c) (h2:RdS M3 w size R0 (.slice A2 m c) l2) (f0:l.length+l2.length≤1000000) (hd:Nat.ble (d+1) N=true)
 (h:∀v' G' c0 w1,St M w0 w1 (L.set k (G',el,c0))→w1a (fun _ _=>R0) size M2 w1 G' c0 v' (l++l2)→z0a G.toList w w1→(∀g∈G'.toList,g∈G.toList∨w.heap.size≤g)→WL P r N ops rest K D (upd e d v') w1) (e0:a0≤1000:=by decide) :
 WL P r N ops (⟨some d,.call { callee:=.builtin .append,args:=#[x,y],argTypes:=#[ty,ty] },t,p,af,none⟩::rest) K D e w:=by
 obtain⟨hm,-,-⟩:=h2.len;by_cases h0:l2=[]
 ·subst h0;obtain⟨A,c',rfl⟩:=hR.form;have g0:m=0:=by simpa using hm
  subst g0;have i0:l.length≤c':=by
   obtain⟨css,_,_,q3,_⟩:=hR;rcases q3.2 with⟨-,q5,q6⟩|⟨g,j0,-,q5,q6,-⟩
   ·simp only[Value.slice.injEq] at q5;omega
   ·simp only[Value.slice.injEq] at q5;omega
  refine x4b hS hx i0 hy hd ?_;have:=h (.slice A l.length c') G cs w (by rw[x3c hk];exact S) (by rw[List.append_nil];exact hR) (z0a.refl _ _) (fun g hg=>.inl hg);exact this
 ·have b0:0<l2.length:=List.length_pos_iff.2 h0;obtain⟨b,o,hA⟩:∃b o,A2=some ⟨b,o,none⟩:=by
   obtain⟨_,_,_,_,h5⟩:=h2.at;obtain⟨b',o',d0,-⟩:=h5 (by omega);exact⟨b',o',d0⟩
  obtain⟨css,c1,c2,c3⟩:=RdS.all h2 hA b0;subst hA;exact u4b hL S hS e0 hk hR hx hy hm c1 c2 c3 f0 hd h
end
def Raw(size:Nat)(cs x:List Value):Prop:=cs=x∧x.length=size∧∀u∈x,u.oneCell'=true
theorem o7c(size:Nat):L4a (fun(_:List Nat) (_:World)=>Raw size) size where
 len h:=by rw[h.1];exact h.2.1
 one h u hu:=by rw[h.1] at hu;exact h.2.2 u hu
 keep _ h:=h
 more _ h:=h
abbrev w9b(size:Nat)(w0:World)(G:Option Nat)(cs:List Value)(v:Value)(css:List (List Value)):Prop:=w1a (fun _ _=>Raw size) size [] w0 G cs v css
section
variable {size:Nat}
theorem q7b{u:Value}:∀(css:List (List Value)) (i j:Nat) (c:List Value),(∀x∈css,x.length=size)→css[i]?=some c→j<size→css.flatten.set (i*size+j) u=(css.set i (c.set j u)).flatten
 | [],i,j,c,_,hi,_=>by simp at hi
 | x::css,0,j,c,hl,hi,hj=>by
   simp at hi;subst hi;have hx:=hl x (by simp);rw[List.flatten_cons,Nat.zero_mul,Nat.zero_add,List.set_append_left _ _ (by omega)];simp
 | x::css,i+1,j,c,hl,hi,hj=>by
   have hx:=hl x (by simp);have:=q7b (u:=u) css i j c (fun y hy=>hl y (by simp[hy])) (by simpa using hi) hj;rw[List.flatten_cons,List.set_append_right _ _ (by rw[Nat.add_mul];omega),List.set_cons_succ,List.flatten_cons,←this]
   congr 2
   rw[Nat.add_mul];omega
theorem O6a:∀(us:List Value) (css:List (List Value)) (i j:Nat) (c:List Value),(∀x∈css,x.length=size)→css[i]?=some c→j+us.length≤size→d0a css.flatten (i*size+j) us=(css.set i (d0a c j us)).flatten
 | [],css,i,j,c,_,hi,_=>by rw[d0a,d0a,w8b hi]
 | u::us,css,i,j,c,hl,hi,hj=>by
   have b0:=(List.getElem?_eq_some_iff.1 hi).1;have a0:=hl c (List.mem_of_getElem? hi);simp only[List.length_cons] at hj;rw[d0a,q7b css i j c hl hi (by omega),show i*size+j+1=i*size+(j+1) by omega];rw[O6a us (css.set i (c.set j u)) i (j+1) (c.set j u) (fun x hx=>by
    rcases List.mem_or_eq_of_mem_set hx with h|h
    ·exact hl x h
    ·rw[h,List.length_set];exact a0) (by rw[List.getElem?_set_self b0]) (by omega)]
   rw[List.set_set,d0a]
theorem Z5a:∀(us cs:List Value) (o n:Nat),(d0a cs o us).take n=d0a (cs.take n) o us
 | [],_,_,_=>rfl
 | u::us,cs,o,n=>by rw[d0a,Z5a us,d0a,List.take_set]
theorem F1b:∀(us cs:List Value) (o:Nat),(∀u∈cs,u.oneCell'=true)→(∀u∈us,u.oneCell'=true)→∀u∈d0a cs o us,u.oneCell'=true
 | [],_,_,h,_=>h
 | v::us,cs,o,h,h2=>by
   rw[d0a];refine F1b us _ _ (fun u hu=>?_) (fun u hu=>h2 u (by simp[hu]));rcases List.mem_or_eq_of_mem_set hu with hu|rfl
   ·exact h u hu
   ·exact h2 u (by simp)
theorem w9b.put{w0:World}{G:Option Nat}{cs us c:List Value}{v:Value}{css:List (List Value)}{i j o:Nat}(h:w9b size w0 G cs v css)(hi:css[i]?=some c)(ho:o=i*size+j)(hj:j+us.length≤size)(h1:∀u∈us,u.oneCell'=true):w9b size w0 G (d0a cs o us) v (css.set i (d0a c j us)):=by
 subst ho;obtain⟨xs,_,q2,⟨_,hr⟩,q4⟩:=h;have hx:xs=css:=by
  refine List.ext_getElem? fun k=>?_;cases hk:css[k]? with
  | none=>rw[List.getElem?_eq_none_iff] at hk ⊢;omega
  | some x=>obtain⟨y,h5,h6⟩:=q4 k x hk;rw[h5,h6.1]
 subst hx;have f0:=(List.getElem?_eq_some_iff.1 hi).1;have d0:∀u∈c,u.oneCell'=true:=by
  obtain⟨y,h5,h6⟩:=q4 i c hi;exact h6.2.2
 have c0:=q2 c (List.mem_of_getElem? hi);have e0:(d0a c j us).length=size:=by rw[b5a];exact c0
 have a0:∀x∈xs.set i (d0a c j us),x.length=size:=fun x hx=>by
  rcases List.mem_or_eq_of_mem_set hx with h|rfl
  ·exact q2 x h
  ·exact e0
 refine⟨xs.set i (d0a c j us),Z,a0,⟨?_,?_⟩,fun k x hk=>?_⟩
 ·rw[j3a _ a0]
 ·rcases hr with⟨rfl,rfl,h0⟩|⟨g,b0,rfl,rfl,r1,r2,r3,r4⟩
  ·omega
  ·refine .inr ⟨g,b0,Z,by rw[List.length_set],by rw[List.length_set];exact r1,r2,by rw[b5a];exact r3,?_⟩;rw[Z5a,List.length_set,r4,O6a us xs i j c q2 hi hj]
 ·refine⟨x,hk,Z,?_,?_⟩
  ·exact a0 x (List.mem_of_getElem? hk)
  ·rcases List.mem_or_eq_of_mem_set (List.mem_of_getElem? hk) with h|rfl
   ·obtain⟨n,hn⟩:=List.getElem?_of_mem h;obtain⟨y,h5,h6⟩:=q4 n x hn;exact h6.2.2
   ·exact F1b us c j d0 h1
theorem w9b.len{w0:World}{G:Option Nat}{cs:List Value}{A:Option Addr}{n c:Nat}{css:List (List Value)}(h:w9b size w0 G cs (.slice A n c) css):n=css.length:=by
 obtain⟨_,_,he⟩:=h.form;simp only[Value.slice.injEq] at he;exact he.2.1
theorem w9b.at{w0:World}{G:Option Nat}{cs:List Value}{A:Option Addr}{n c:Nat}{css:List (List Value)}(h:w9b size w0 G cs (.slice A n c) css)(h0:0<n):∃g,G=some g∧A=some ⟨g,0,none⟩:=by
 have hn:=h.len;obtain⟨_,_,_,⟨_,hr⟩,_⟩:=h;rcases hr with⟨rfl,he,h5⟩|⟨g,a0,rfl,he,-⟩
 ·omega
 ·simp only[Value.slice.injEq] at he;exact⟨g,Z,he.1⟩
theorem w9b.cap{w0:World}{G:Option Nat}{cs:List Value}{v:Value}{css:List (List Value)}(h:w9b size w0 G cs v css):css.length*size≤cs.length∨css=[]:=by
 obtain⟨_,_,_,⟨_,hr⟩,_⟩:=h;rcases hr with⟨rfl,he,h5⟩|⟨g,a0,rfl,he,r1,r2,r3,r4⟩
 ·exact .inr (List.length_eq_zero_iff.1 h5)
 ·left;rw[r3];exact Nat.mul_le_mul_right _ r1
theorem w9b.rd{α:Type}{R:List Value→α→Prop}{M M':List Nat}{w0 w:World}{L:List Ent}{k el:Nat}{G:Option Nat}{cs:List Value}{v:Value}{css:List (List Value)}{l:List α}(h:w9b size w0 G cs v css)(S:St M' w0 w L)(hk:L[k]?=some (G,el,cs))(hM:∀g,G=some g→g∉M)(hl:l.length≤1000000)(b0:css.length=l.length)
 (he:∀(i:Nat) (x:α),l[i]?=some x→∃c,css[i]?=some c∧R c x):RdS M w size R v l:=by
 obtain⟨A,n,c,rfl,_,h2,h3,h4,h5⟩:=w1a.rd (M:=M) (o7c size) (w:=w) (show w1a (fun _ _=>Raw size) size M w G cs v css from h) S hk hM (by omega);refine⟨A,n,c,Z,by omega,h2,h3,h4,fun hp=>?_⟩;obtain⟨b,o,hA,hb,a0⟩:=h5 hp;refine⟨b,o,hA,hb,fun i x hi=>?_⟩;obtain⟨y,h6,h7⟩:=he i x hi;obtain⟨z,z1,z2,z3⟩:=a0 i y h6;exact⟨z,z1,z2,by rw[z3.1];exact h7⟩
end
def RX(M:List Nat)(w:World)(cs:List Value)(e:E):Prop:=RdE M w e cs
theorem V3a:L4a RX 4 where
 len h:=RdE.length h
 one h u hu:=by
  obtain⟨_,_,_,rfl,-⟩:=RdE.open_ h;simp at hu;rcases hu with rfl|rfl|rfl|rfl<;>rfl
 keep hk h:=RdE.keep hk _ _ h
 more hm h:=RdE.more hm _ _ h
theorem r4b:∀(us a r:List Value),r.length=us.length→d0a (a++r) a.length us=a++us
 | [],a,[],_=>rfl
 | [],_,_::_,h=>by simp at h
 | _::_,_,[],h=>by simp at h
 | u::us,a,x::r,h=>by
   have:=r4b us (a++[u]) r (by simpa using h);rw[d0a,List.set_append_right _ _ (Nat.le_refl _),Nat.sub_self,List.set_cons_zero];simpa using this
theorem w1a.setM{α:Type}{R:List Nat→World→List Value→α→Prop}{size:Nat}{M:List Nat}{w:World}{G:Option Nat}{cs us:List Value}{v:Value}{l:List α}{i o:Nat}{x y:α}(hL:L4a R size)(h:w1a R size M w G cs v l)(hi:l[i]?=some x)(ho:o=i*size)(hy:R (G.toList++M) w us y):
 w1a R size M w G (d0a cs o us) v (l.set i y):=by
 obtain⟨css,q1,q2,q3,q4⟩:=h;have b0:=(List.getElem?_eq_some_iff.1 hi).1;have c0:w9b size w G cs v css:=⟨css,Z,q2,by rw[q1];exact q3,fun i x hi=>⟨x,hi,Z,q2 x (List.mem_of_getElem? hi),fun u hu=>by
  have d0:=(List.getElem?_eq_some_iff.1 hi).1;obtain⟨c,h5,h6⟩:=q4 i _ (List.getElem?_eq_getElem (by omega));obtain rfl:x=c:=Option.some.inj (hi.symm.trans h5);exact hL.one h6 u hu⟩⟩
 obtain⟨c,h4,h5⟩:=q4 i x hi;have f0:us.length=size:=hL.len hy;have e0:c.length=size:=hL.len h5;have hp:=c0.put h4 (us:=us) (j:=0) (o:=o) (by omega) (by omega) (hL.one hy);rw[show d0a c 0 us=us from r4b us [] c (by omega)] at hp;obtain⟨xs,r1,r2,r3,r4⟩:=hp;refine⟨xs,by simp[r1,q1],r2,by simpa[q1] using r3,fun k z hz=>?_⟩;have d0:=(List.getElem?_eq_some_iff.1 h4).1;have a0:∀c',(css.set i us)[k]?=some c'→xs[k]?=some c':=fun c' hc=>by
  obtain⟨c2,h7,h8⟩:=r4 k c' hc;rw[h7,h8.1]
 by_cases hk:i=k
 ·subst hk;rw[List.getElem?_set_self b0] at hz;obtain rfl:=Option.some.inj hz;exact⟨us,a0 us (List.getElem?_set_self d0),hy⟩
 ·rw[List.getElem?_set_ne hk] at hz;obtain⟨c2,h7,h8⟩:=q4 k z hz;exact⟨c2,a0 c2 (by rw[List.getElem?_set_ne hk];exact h7),h8⟩
theorem w1a.own_{α:Type}{R:List Nat→World→List Value→α→Prop}{size:Nat}{M:List Nat}{w:World}{G:Option Nat}{cs:List Value}{A:Option Addr}{n c:Nat}{l:List α}(h:w1a R size M w G cs (.slice A n c) l)(h0:0<l.length):∃g,G=some g∧A=some ⟨g,0,none⟩∧l.length*size≤cs.length:=by
 obtain⟨_,_,_,⟨_,hr⟩,_⟩:=h;rcases hr with⟨rfl,he,h5⟩|⟨g,a0,rfl,he,r1,r2,r3,r4⟩
 ·omega
 ·simp only[Value.slice.injEq] at he;exact⟨g,Z,he.1,by rw[r3];exact Nat.mul_le_mul_right _ r1⟩
theorem w1a.mapR{α:Type}{R R2:List Nat→World→List Value→α→Prop}{size:Nat}{M M2:List Nat}{w w2:World}{G:Option Nat}{cs:List Value}{v:Value}{l:List α}(h:w1a R size M w G cs v l)(hm:∀c x,x∈l→R (G.toList++M) w c x→R2 (G.toList++M2) w2 c x):w1a R2 size M2 w2 G cs v l:=by
 obtain⟨css,q1,q2,q3,q4⟩:=h;refine⟨css,q1,q2,q3,fun i x hi=>?_⟩;obtain⟨c,h5,h6⟩:=q4 i x hi;exact⟨c,h5,hm c x (List.mem_of_getElem? hi) h6⟩
theorem RdL.rdS{M:List Nat}{w:World}{v:Value}{l:List E}(h:RdL M w v l):RdS M w 4 (RX M w) v l:=by
 obtain⟨A,n,c,rfl,h1,h2,h3,h4,h5⟩:=h.open_;refine⟨A,n,c,Z,h1,h2,h3,h4,fun h0=>?_⟩;obtain⟨b,o,hA,hb,hk⟩:=h5 h0;refine⟨b,o,hA,hb,fun i x hi=>?_⟩;have a0:=(List.getElem?_eq_some_iff.1 hi).1;obtain⟨c,h6,h7⟩:=hk i a0;rw[List.getElem?_eq_getElem a0] at hi;obtain rfl:=Option.some.inj hi;exact⟨c,h7.length,h6,h7⟩
theorem j2d{M:List Nat}{w:World}{v:Value}{l:List E}(h:RdS M w 4 (RX M w) v l):RdL M w v l:=by
 obtain⟨_,_,c,rfl,h1,h2,h3,h4,h5⟩:=h;refine RdL.made h1 h2 h3 h4 fun h0=>?_;obtain⟨b,o,hA,hb,hk⟩:=h5 h0;refine⟨b,o,hA,hb,fun i hi=>?_⟩;obtain⟨c,-,h6,h7⟩:=hk i _ (List.getElem?_eq_getElem hi);exact⟨c,h6,h7⟩
def zE:E:=⟨0,0,0,[]⟩
def jnE(op:Int)(a b:E):E:=⟨op,1,0,[a,b]⟩
def q5a(op unit:Int):List E→E
 | []=>⟨1,1,unit,[]⟩
 | e::es=>es.foldl (jnE op) e
def o6a(e:E):Bool:=decide (e.w=1)&&e.wf
def c4a(l:List E):List E:=l.filter fun e=>decide (e.op≠1)
def isC(e:E)(n:Int):Bool:=decide (e.op=1∧e.n=n)
def x2a(op unit:Int)(l:List E):E :=
 if l.all o6a then(if l.any (fun e=>isC e (1-unit)) then⟨1,1,1-unit,[]⟩ else if(q5a op unit (c4a l)).wf then q5a op unit (c4a l) else zE) else zE
theorem u9b(op unit:Int)(l:List E)(e:E):q5a op unit (l++[e])=if l=[] then e else jnE op (q5a op unit l) e:=by
 cases l with
 | nil=>simp[q5a]
 | cons x xs=>simp[q5a,List.foldl_append]
theorem m8b(op:Int):∀(es:List E) (acc:E) (d:Int),(es.foldl (jnE op) acc).good d=true→acc.good (d-es.length)=true
 | [],acc,d,h=>by simpa using h
 | e::es,acc,d,h=>by
   have h1:=m8b op es (jnE op acc e) d h;obtain⟨_,h2⟩:=Z0a h1;have:=h2 acc (by simp[jnE]);rw[show d-((e::es).length:Nat)=d-(es.length:Nat)-1 by simp;omega];exact this
theorem Q1d{op unit:Int}{l:List E}(h:(q5a op unit l).wf=true):l.length≤40:=by
 cases l with
 | nil=>simp
 | cons e es =>
   have h1:=m8b op es e 40 (N4a h);rw[E.good_def] at h1;simp only[Bool.and_eq_true,decide_eq_true_eq] at h1;simp;omega
theorem j1b(l:List E)(e:E):c4a (l++[e])=if e.op=1 then c4a l else c4a l++[e]:=by
 unfold c4a;rw[List.filter_append];by_cases h:e.op=1<;>simp[h]
theorem I3c{e:E}(h:o6a e=true)(ho:e.op=1):e.n=0∨e.n=1:=by
 unfold o6a at h;simp only[Bool.and_eq_true,decide_eq_true_eq] at h;have hs:=(a0b ho).1 (Z0a (N4a h.2)).1;have hp:o2a e.w.toNat=2:=by rw[h.1];decide
 omega
theorem u1b(op unit:Int)(l:List E)(k:Nat)(hk:k<l.length):q5a op unit (l.take (k+1))=if k=0 then l[k] else jnE op (q5a op unit (l.take k)) l[k]:=by
 rw[List.take_add_one,List.getElem?_eq_getElem hk,Option.toList_some,u9b];by_cases h:k=0
 ·subst h;simp
 ·rw[if_neg h,if_neg];intro hh;have:=congrArg List.length hh;rw[List.length_take,List.length_nil] at this;omega
end Go.Fw
