/-
  Part 3 of 9 of the proof of InterfereMatchesReference: what it leans on. No conditions.
-/
import Derived.Test.YtlegngbbcckmnaaGreatDoorZInterfereMatchesReference2
import Derived.Test.YtlegngbbcckmnaaGreatDoorRows
import Derived.ProofKit
import Derived.LaidMore
import Derived.OpenShut
import Derived.Carry
import Derived.SizedLaws
import Derived.Stop.Joined
import Derived.Test.YtlegngbbcckmnaaGreatDoorTie
import Derived.Test.YtlegngbbcckmnaaGreatDoorCards
import Derived.SevenTiedAt
import Derived.Lib.SliceRun
import Derived.Laws.OwnMore
import Derived.Lib.Builder
import Derived.Lib.AppendStr
import Derived.Laws.Externs
import Derived.Laws.Concat
import Derived.Lib.ItoaNum
import Derived.Shelf.Strings.Builder1
import Derived.Shelf.Small.Bits
import Derived.Shelf.Small.Wraps
import Derived.Shelf.Strconv.Itoa0
import Derived.Shelf.Strconv.Itoa1
import Derived.Shelf.LaysM
import Derived.Shelf.Strconv.Itoa2
import Derived.Shelf.Strconv.Itoa3
import Derived.Shelf.Sort.Plain
import Derived.Shelf.Slices.Equal
import Derived.Ground.Names2Prog
import Derived.Shelf.Slices.Clone
import Derived.Shelf.Slices.CompactI
import Derived.Shelf.Slices.SearchI
import Derived.Shelf.Slices.Cells
import Derived.Shelf.Slices.In.SortNone
import Derived.Ground.SlgnProg
import Derived.Shelf.SlicesE.Clone
import Derived.Ground.SlsfProg
import Derived.Shelf.SlSortCmp.InsertionK
import Derived.Shelf.SlSortCmp.SiftDownK
import Derived.Shelf.SlSortCmp.HeapSortK
import Derived.Shelf.SlSortCmp.MedianK
import Derived.Shelf.SlSortCmp.PivotK
import Derived.Shelf.SlSortCmp.ReverseRangeK
import Derived.Shelf.SlSortCmp.PartialInsertionK
import Derived.Shelf.SlSortCmp.PartitionEqualK
import Derived.Shelf.SlSortCmp.PartitionK
import Derived.Shelf.SlSortCmp.PdqK
import Derived.Shelf.SlSortCmp.WholeK
import Derived.Shelf.SlSortCmp.NoneTotal
import Derived.Test.YtlegngbbcckmnaaGreatDoorProg
set_option maxRecDepth 100000
set_option maxHeartbeats 4000000
namespace Go.Proofs.YtlegngbbcckmnaaGreatDoor
end Go.Proofs.YtlegngbbcckmnaaGreatDoor
namespace Go.Fw
open Go.Proofs.YtlegngbbcckmnaaGreatDoor Go.Proofs Go.RowKit Go.ChangeShapes Go.WideShapes Go.Shelf Tryz
theorem S3a{p:m0a}(hc:X2a p){e:E}{a0:Bool}:(e.w=1∧e.valid p.cells a0=true∧x3a e (shQ p)=true)↔n6a p.cells e a0 (-1) :=
 ⟨fun⟨a,b,c⟩=>⟨b,a,(I6c hc b).1 c⟩,fun⟨b,a,c⟩=>⟨a,b,(I6c hc b).2 c⟩⟩
theorem D2b{p:m0a}(hc:X2a p){e:E}{a0:Bool}{t:Int}:(e.w=1∧e.valid p.cells a0=true∧x3a e (H1b p t)=true)↔n6a p.cells e a0 t :=
 ⟨fun⟨a,b,c⟩=>⟨b,a,(F7a hc b).1 c⟩,fun⟨b,a,c⟩=>⟨a,b,(F7a hc b).2 c⟩⟩
theorem p6b(p:m0a)(M:List Nat)(w0:World)(cs:LV)(hP:e1a M w0 p cs)(hN:n8a p)(hc:X2a p)(hK:W1a M w0)(hM:∀g∈M,g<w0.heap.size):
 A0a prog 153 #[.agg cs.toArray] w0 fun v w'=>(∃a,v=.int .i64 a∧(a=0↔k5b p))∧Bw w0 w':=by
 obtain⟨Ac,nc,cc,Am,nm,cm,Al,nl,cl,At,nt,ct,rfl,_,Y0,_⟩:=hP.open_;have S:=St.refl w0;have t0:∀w':World,w0.heap.size≤w'.heap.size→∀g∈M,g<w'.heap.size:=fun w' h g hg=>by have:=hM g hg;omega
 refine a0a func153 Z ntmps153 Z ?_;refine wO1 Z (o0a S Z ?_);intro g1 w1 S1 X1 G1;refine lO1 Z (T4a (k:=9) S1 Z ?_);intro g6 w6 S6 X6 G6 a0;have Z0:w0.heap.size≤g6:=by have:=S1.size;omega
 refine lC S6.k [.o 0] Z ⟨Z,U⟩ (wL (fun μk D ε w=>D=[]∧∃k:Nat,(k+μk=(p.modules.length))∧(Y0a (p.modules) k (fun x=>H1c p x))∧(((p.modules.take k).map fun c=>Value.string c.name).Nodup)∧(g3a prog 9 w g6 (D3a ((p.modules.take k).map fun c=>.string c.name)))∧St [] w0 w [(some g1,201,pL Ac nc cc Am nm cm Al nl cl At nt ct)]∧Sl ε [(1,.pointer (some ⟨g1,0,none⟩)),(3,.map (some g6)),(9,.slice Am nm cm),(10,.int .i64 nm),(11,.int .i64 k)]) (μ:=(p.modules.length)) ⟨Z,0,by omega,Y0a.zero,(by simp),(by simpa[D3a] using a0),S6,Z⟩ ?_);rintro μk D ε w ⟨rfl,k,_,hs,hd,a0,S,eZ⟩;refine wK eZ (wB1 Z (fun X0=>?_) fun X0=>?_)
 ·obtain⟨x,W0,a1,_,b0,H0,_,J0,I0,L0⟩:=RdS.get (Y0) (k) (by omega);obtain⟨_,_,_,_,_,_,_,_,_,rfl,u0,s0,i0,_⟩:=f1a.open_ L0;have T0:=(hN.mods x (c0a b0)).1;refine lO (S.k.a I0) [.x W0 a1,.v 0] Z ⟨⟨Z,J0⟩,⟨H0,by omega⟩,U⟩ (g0a S R0d Z Z ?_);intro g5 w5 S5 X5 G5;replace a0:=a0.keep X5 (List.not_mem_nil);refine d0a (kk:=0) (vs:=[_,_,_,_,_,_,_,_,_,_,_]) S5 H9c Z Z Z Z Z Z Z ?_;intro i1 j0 E0;dsimp only[e0a,List.set] at j0;replace a0:=a0.keep E0 (fun hh=>by rw[List.mem_singleton] at hh;exact a0.ne (S5.blk 0 Z) hh);refine lO j0.k [.o 0] Z ⟨Z,U⟩ (i0a j0 M3b Z Z (p8a _ _ T0) (fun B0 b1 y0 Q0=>?_) (fun B0 b1 y0 Q0=>?_))
  ·replace a0:=a0.keep Q0 (List.not_mem_nil);refine lO y0.k [.o 0] Z ⟨Z,U⟩ (i0a y0 M3b Z Z (p8a _ _ (hN.mods x (c0a b0)).2) (fun C0 c1 z0 R0=>?_) (fun C0 c1 z0 R0=>?_))
   ·replace a0:=a0.keep R0 (List.not_mem_nil);refine lO z0.k [.o 0] Z ⟨Z,U⟩ (a2a h4b Z Z (r8a g6 _ x.name _ a0 T0) ?_);rintro v28 j1 ⟨⟨z28,rfl,x0⟩,U0,V0⟩;have A0:=z0.turned a0 (.inl Z0) U0;clear a0;cases v0:z28
    ·refine B0a (hv:=Z) (v:=.bool _) Z ?_;have K0:Value.string x.name∉(p.modules.take k).map fun c=>Value.string c.name:=fun hh=>absurd (x0.2 hh) (by rw[v0];decide);have a0:=V0 K0;refine lO A0.k [.o 0] Z ⟨Z,U⟩ (i0a A0 n0d Z Z (m9b x.rely M _ _ (RdE.keep (A0.keep0 M) _ _ u0)) (fun F0 d1 c0 D0=>?_) (fun F0 d1 c0 D0=>?_))
     ·replace a0:=a0.keep D0 (List.not_mem_nil);refine lO c0.k [.w 1,.o 0,.w 1] Z ⟨⟨Z,Z⟩,Z,⟨Z,Z⟩,U⟩ (s2a Z Z Z ?_);refine i0a c0 F1b Z Z (h1b p x.guar M _ _ _ true _ (shQ p) (hP.keep (c0.keep0 M)) (RdE.keep (c0.keep0 M) _ _ s0) (y3a (hP.keep (c0.keep0 M))) (hK.keep (c0.keep0 M)) (t0 _ c0.size)) (fun n0 N0 e0 p0=>?_) (fun n0 N0 e0 p0=>?_)
      ·replace a0:=a0.keep p0 (List.not_mem_nil);refine lO e0.k [.o 0] Z ⟨Z,U⟩ (i0a e0 m7b Z Z (u5a M _ _ _ (i0.keep (e0.keep0 M))) (fun o0 O0 d0 q0=>?_) (fun o0 O0 d0 q0=>?_))
       ·replace a0:=a0.keep q0 (List.not_mem_nil);refine lO d0.k [.o 0,.w 1] Z ⟨⟨Z,Z⟩,Z,U⟩ (s2a Z Z Z ?_);refine i0a d0 y9a Z Z (W5a M _ _ _ x.frame (shQ p) (i0.keep (d0.keep0 M)) (y3a (hP.keep (d0.keep0 M))) (t0 _ d0.size)) (fun g0 P0 m0 r0=>?_) (fun g0 P0 m0 r0=>?_)
        ·replace a0:=a0.keep r0 (List.not_mem_nil);refine lP1 Z ?_;refine⟨μk-1,by omega,Z,k+1,by omega,?_,?_,((by rw[u0a b0,List.map_append];exact a0)),m0.tail,Z⟩
         ·exact hs.succ b0 ⟨Q0a B0,Q0a C0,by exact .inl (Q0a F0),(S3a hc).1 (Q0a n0),fun z hz=>of_decide_eq_true (p:=(0≤z∧z<p.cells.length)∧u1a p.cells z=-1) (List.all_eq_true.1 g0 z hz),Q0a o0⟩
         ·rw[u0a b0,List.map_append,List.map_singleton,List.nodup_append];exact⟨hd,by simp,fun a ha b hb he=>by rw[List.mem_singleton.1 hb] at he;exact K0 (he▸ha)⟩
        replace a0:=a0.keep r0 (List.not_mem_nil);refine lU Z Z ⟨⟨_,Z,iF (fun h=>?_)⟩,m0.fin⟩;have h1:=h.1 x (c0a b0)
        (have q:x.frame.all (shQ p)=true:=List.all_eq_true.2 fun z hz=>decide_eq_true (h1.frame z hz)
         rw[q] at g0;cases g0;done)
       replace a0:=a0.keep q0 (List.not_mem_nil);refine lU Z Z ⟨⟨_,Z,iF (fun h=>?_)⟩,d0.fin⟩;have h1:=h.1 x (c0a b0);exact K0a o0 h1.up
      replace a0:=a0.keep p0 (List.not_mem_nil);refine lU Z Z ⟨⟨_,Z,iF (fun h=>?_)⟩,e0.fin⟩;have h1:=h.1 x (c0a b0);exact K0a n0 ((S3a hc).2 h1.guar)
     replace a0:=a0.keep D0 (List.not_mem_nil);refine lO c0.k [.w 1,.o 0,.w 1] Z ⟨⟨Z,Z⟩,Z,⟨Z,Z⟩,U⟩ (s2a Z Z Z ?_);refine lO1 Z (i0a c0 F1b Z Z (h1b p x.rely M _ _ _ true _ (shQ p) (hP.keep (c0.keep0 M)) (RdE.keep (c0.keep0 M) _ _ u0) (y3a (hP.keep (c0.keep0 M))) (hK.keep (c0.keep0 M)) (t0 _ c0.size)) (fun G0 f1 f0 S0=>?_) (fun G0 f1 f0 S0=>?_))
     ·replace a0:=a0.keep S0 (List.not_mem_nil);refine lO f0.k [.w 1,.o 0,.w 1] Z ⟨⟨Z,Z⟩,Z,⟨Z,Z⟩,U⟩ (s2a Z Z Z ?_);refine i0a f0 F1b Z Z (h1b p x.guar M _ _ _ true _ (shQ p) (hP.keep (f0.keep0 M)) (RdE.keep (f0.keep0 M) _ _ s0) (y3a (hP.keep (f0.keep0 M))) (hK.keep (f0.keep0 M)) (t0 _ f0.size)) (fun n0 N0 e0 p0=>?_) (fun n0 N0 e0 p0=>?_)
      ·replace a0:=a0.keep p0 (List.not_mem_nil);refine lO e0.k [.o 0] Z ⟨Z,U⟩ (i0a e0 m7b Z Z (u5a M _ _ _ (i0.keep (e0.keep0 M))) (fun o0 O0 d0 q0=>?_) (fun o0 O0 d0 q0=>?_))
       ·replace a0:=a0.keep q0 (List.not_mem_nil);refine lO d0.k [.o 0,.w 1] Z ⟨⟨Z,Z⟩,Z,U⟩ (s2a Z Z Z ?_);refine i0a d0 y9a Z Z (W5a M _ _ _ x.frame (shQ p) (i0.keep (d0.keep0 M)) (y3a (hP.keep (d0.keep0 M))) (t0 _ d0.size)) (fun g0 P0 m0 r0=>?_) (fun g0 P0 m0 r0=>?_)
        ·replace a0:=a0.keep r0 (List.not_mem_nil);refine lP1 Z ?_;refine⟨μk-1,by omega,Z,k+1,by omega,?_,?_,((by rw[u0a b0,List.map_append];exact a0)),m0.tail,Z⟩
         ·exact hs.succ b0 ⟨Q0a B0,Q0a C0,by exact .inr ((S3a hc).1 (Q0a G0)),(S3a hc).1 (Q0a n0),fun z hz=>of_decide_eq_true (p:=(0≤z∧z<p.cells.length)∧u1a p.cells z=-1) (List.all_eq_true.1 g0 z hz),Q0a o0⟩
         ·rw[u0a b0,List.map_append,List.map_singleton,List.nodup_append];exact⟨hd,by simp,fun a ha b hb he=>by rw[List.mem_singleton.1 hb] at he;exact K0 (he▸ha)⟩
        refine lU Z Z ⟨⟨_,Z,iF (fun h=>?_)⟩,m0.fin⟩;have h1:=h.1 x (c0a b0)
        (have q:x.frame.all (shQ p)=true:=List.all_eq_true.2 fun z hz=>decide_eq_true (h1.frame z hz)
         rw[q] at g0;cases g0;done)
       refine lU Z Z ⟨⟨_,Z,iF (fun h=>?_)⟩,d0.fin⟩;have h1:=h.1 x (c0a b0);exact K0a o0 h1.up
      refine lU Z Z ⟨⟨_,Z,iF (fun h=>?_)⟩,e0.fin⟩;have h1:=h.1 x (c0a b0);exact K0a n0 ((S3a hc).2 h1.guar)
     refine lU Z Z ⟨⟨_,Z,iF (fun h=>?_)⟩,f0.fin⟩;have h1:=h.1 x (c0a b0);exact h1.rely.elim (K0a F0) (fun hh=>K0a G0 ((S3a hc).2 hh))
    refine B0a (hv:=Z) (v:=.bool _) Z ?_;refine lU Z Z ⟨⟨_,Z,iF (fun h=>?_)⟩,A0.fin⟩;have h1:=h.1 x (c0a b0);exact absurd (x0.1 v0) (H4a (f:=fun(c:k2a)=>Value.string c.name) (h.2.imp fun h e=>h (by injection e)) b0)
   refine lU Z Z ⟨⟨_,Z,iF (fun h=>?_)⟩,z0.fin⟩;have h1:=h.1 x (c0a b0);exact K0a C0 h1.owner
  refine lU Z Z ⟨⟨_,Z,iF (fun h=>?_)⟩,y0.fin⟩;have h1:=h.1 x (c0a b0);exact K0a B0 h1.name
 refine lU Z Z ?_;refine⟨⟨_,Z,iff_of_true (by omega) ⟨hs.all (by omega),?_⟩⟩,S.fin⟩;rw[List.take_of_length_le (by omega)] at hd;exact(List.pairwise_map.1 hd).imp fun h e=>h (by rw[e])
theorem X0c(p:m0a)(M:List Nat)(w0:World)(cs:LV)(hP:e1a M w0 p cs)(hc:X2a p)(hK:W1a M w0)(hM:∀g∈M,g<w0.heap.size):
 A0a prog 154 #[.agg cs.toArray] w0 fun v w'=>(∃a,v=.int .i64 a∧(a=0↔e1b p))∧Bw w0 w':=by
 obtain⟨Ac,nc,cc,Am,nm,cm,Al,nl,cl,At,nt,ct,rfl,hC,_,S0,_⟩:=hP.open_;have S:=St.refl w0;have T0:∀w':World,w0.heap.size≤w'.heap.size→∀g∈M,g<w'.heap.size:=fun w' h g hg=>by have:=hM g hg;omega
 refine a0a func154 Z ntmps154 Z ?_;refine wO1 Z (o0a S Z ?_);intro g1 w1 S1 X1 G1;refine lO1 Z (T4a (k:=3) S1 Z ?_);intro g8 w8 S8 X8 G8 a0;have U0:w0.heap.size≤g8:=by have:=S1.size;omega
 refine lC S8.k [.o 0] Z ⟨Z,U⟩ (wL (fun μk D ε w=>D=[]∧∃k:Nat,(k+μk=(p.locks.length))∧(Y0a (p.locks) k (fun x=>w4b p x))∧(((p.locks.take k).map fun c=>Value.int .i64 c.cell).Nodup)∧(g3a prog 3 w g8 (D3a ((p.locks.take k).map fun c=>.int .i64 c.cell)))∧St [] w0 w [(some g1,201,pL Ac nc cc Am nm cm Al nl cl At nt ct)]∧Sl ε [(1,.pointer (some ⟨g1,0,none⟩)),(3,.map (some g8)),(11,.slice Al nl cl),(12,.int .i64 nl),(13,.int .i64 k)]) (μ:=(p.locks.length)) ⟨Z,0,by omega,Y0a.zero,(by simp),(by simpa[D3a] using a0),S8,Z⟩ ?_);rintro μk D ε w ⟨rfl,k,_,hs,hd,a0,S,eZ⟩;refine wK eZ (wB1 Z (fun Q0=>?_) fun Q0=>?_)
 ·obtain⟨x,N0,W0,_,d0,t0,_,A0,y0,B0⟩:=RdS.get (S0) (k) (by omega);obtain⟨_,_,_,rfl,F0,_,x0⟩:=X5a.open_ B0;refine lO (S.k.a y0) [.x N0 W0,.v 0] Z ⟨⟨Z,A0⟩,⟨t0,by omega⟩,U⟩ (g0a S I7c Z Z ?_);intro g5 w5 S5 X5 G5;replace a0:=a0.keep X5 (List.not_mem_nil);refine d0a (kk:=0) (vs:=[_,_,_,_,_,_]) S5 y6c Z Z Z Z Z Z Z ?_;intro a1 e0 p0;dsimp only[e0a,List.set] at e0;replace a0:=a0.keep p0 (fun hh=>by rw[List.mem_singleton] at hh;exact a0.ne (S5.blk 0 Z) hh);refine lO e0.k [.w 1,.o 0] Z ⟨Z,⟨Z,Z⟩,U⟩ (i0a e0 x0b Z Z (J5a p M _ _ _ (hP.keep (e0.keep0 M))) (fun q0 Z0 c0 H0=>?_) (fun q0 Z0 c0 H0=>?_))
  ·replace a0:=a0.keep H0 (List.not_mem_nil);have L0:=of_decide_eq_true q0;obtain⟨c,O0,X0,_,i0,u0,_,_,z0,C0⟩:=RdS.get (hC) (x.cell.toNat) (by omega);obtain⟨rfl,_⟩:=P2a.open_ C0;refine lB (c0.k.a z0) [.o 1,.o 0,.x O0 X0,.f 0 1] Z ⟨Z,⟨u0,by omega⟩,Z,Z,U⟩ (fun R0=>?_) fun R0=>?_
   ·refine lU Z Z ⟨⟨_,Z,iF (fun h=>?_)⟩,c0.fin⟩;have h1:=h.1 x (c0a d0)
    (have q:=h1.cell;rw[c5a i0,y2a i0] at q;omega)
   obtain⟨_,P0,Y0,_,E0,v0,_,_,j0,D0⟩:=RdS.get (hC) (x.cell.toNat) (by omega);obtain rfl:=Option.some.inj (i0.symm.trans E0);obtain⟨rfl,_⟩:=P2a.open_ D0;refine lO c0.k [.o 1,.o 0,.x P0 Y0] Z ⟨⟨v0,by omega⟩,Z,Z,U⟩ ?_;cases f0:c.ghost
   ·refine G0a E2a Z (by exact(c0.old (j0 _ _ Z)).trans (congrArg (fun b=>some (Value.bool b)) f0)) Z ?_;refine lO c0.k [.o 0] Z ⟨Z,U⟩ ?_;have m0:=h8b F0;refine O0b (Go.Maps.int_keyed Tryz.underlying3) Tryz.underlying244 W7a a0 Z Z m0 Z (fun V0=>?_) fun K0=>?_
    ·refine lO1 Z (g0a c0 W7a Z Z ?_);intro g6 w6 S6 X6 G6;replace a0:=a0.keep X6 (List.not_mem_nil);refine d0a (kk:=0) (vs:=[]) S6 G2b Z Z Z Z Z Z Z ?_;intro G0 b0 g0;dsimp only[e0a,List.set] at b0;replace a0:=a0.keep g0 (fun hh=>by rw[List.mem_singleton] at hh;exact a0.ne (S6.blk 0 Z) hh);refine lU Z Z ⟨⟨_,Z,iF (fun h=>?_)⟩,b0.fin⟩;have h1:=h.1 x (c0a d0);exact absurd V0 (H4a (f:=fun(c:I5b)=>Value.int .i64 c.cell) (h.2.imp fun h e=>h (by injection e)) d0)
    refine lO1 Z (g0a c0 W7a Z Z ?_);intro g6 w6 S6 X6 G6;replace a0:=a0.keep X6 (List.not_mem_nil);refine d0a (kk:=0) (vs:=[]) S6 G2b Z Z Z Z Z Z Z ?_;intro G0 b0 g0;dsimp only[e0a,List.set] at b0;replace a0:=a0.keep g0 (fun hh=>by rw[List.mem_singleton] at hh;exact a0.ne (S6.blk 0 Z) hh);refine lO b0.k [.o 1,.o 2] Z ⟨Z,Z,U⟩ (i0a b0 a3a Z Z (t2a _ _ _) (fun r0 b1 n0 I0=>?_) (fun r0 b1 n0 I0=>?_))
    ·replace a0:=a0.keep I0 (List.not_mem_nil);refine lO n0.k [.o 1] Z ⟨Z,U⟩ (s0a R2b (vs:=[]) (cs:=[]) Z Z Z Z ?_);refine Y9a (key:=.int .i64 x.cell) n0 (Go.Maps.int_keyed Tryz.underlying3) Tryz.underlying244 a0 Z Z Z m0 (.inl U0) ?_;intro wm Sm Xm Mm;clear a0;have a0:=Mm K0;refine lO Sm.k [.w 2,.o 1,.w 2] Z ⟨⟨Z,Z⟩,Z,⟨Z,Z⟩,U⟩ (s2a Z Z Z ?_);refine i0a Sm F1b Z Z (h1b p x.inv M _ _ _ false _ (shQ p) (hP.keep (Sm.keep0 M)) (RdE.keep (Sm.keep0 M) _ _ x0) (y3a (hP.keep (Sm.keep0 M))) (hK.keep (Sm.keep0 M)) (T0 _ Sm.size)) (fun s0 c1 o0 J0=>?_) (fun s0 c1 o0 J0=>?_)
     ·replace a0:=a0.keep J0 (List.not_mem_nil);refine lP1 Z ?_;refine⟨μk-1,by omega,Z,k+1,by omega,(hs.succ d0 (⟨⟨L0.1,L0.2,by rw[c5a i0];omega,by rw[y2a i0];exact f0⟩,by have:=of_decide_eq_true r0;unfold F1a;omega,(S3a hc).1 (Q0a s0)⟩)),?_,((by rw[u0a d0,List.map_append];exact a0)),o0.tail.tail,Z⟩;rw[u0a d0,List.map_append,List.map_singleton,List.nodup_append];exact⟨hd,by simp,fun a ha b hb he=>by rw[List.mem_singleton.1 hb] at he;exact K0 (he▸ha)⟩
     refine lU Z Z ⟨⟨_,Z,iF (fun h=>?_)⟩,o0.fin⟩;have h1:=h.1 x (c0a d0);exact K0a s0 ((S3a hc).2 h1.inv)
    refine lU Z Z ⟨⟨_,Z,iF (fun h=>?_)⟩,n0.fin⟩;have h1:=h.1 x (c0a d0)
    (have q:=h1.mod;unfold F1a at q;have q5:=of_decide_eq_false r0;omega)
   refine G0a E2a Z (by exact(c0.old (j0 _ _ Z)).trans (congrArg (fun b=>some (Value.bool b)) f0)) Z ?_;refine lU Z Z ⟨⟨_,Z,iF (fun h=>?_)⟩,c0.fin⟩;have h1:=h.1 x (c0a d0)
   (have q:=h1.cell;rw[c5a i0,y2a i0] at q;(rw[f0] at q;cases q.2.2.2;done))
  refine lU Z Z ⟨⟨_,Z,iF (fun h=>?_)⟩,c0.fin⟩;have h1:=h.1 x (c0a d0);exact of_decide_eq_false q0 ⟨h1.cell.1,h1.cell.2.1⟩
 refine lU Z Z ?_;refine⟨⟨_,Z,iff_of_true (by omega) ⟨hs.all (by omega),?_⟩⟩,S.fin⟩;rw[List.take_of_length_le (by omega)] at hd;exact(List.pairwise_map.1 hd).imp fun h e=>h (by rw[e])
section
variable {P:Program} {r:Option Nat} {N:Nat} {l:List Oper} {D:List Deferred} {C:World→Prop} {K:List Deferred→Env→World→Prop}
def r7c(l:List Oper)(pur:Nat→Bool)(m:Nat):Bool :=
 q3a l&&((List.range l.length).all fun i=>(d1a l i).all fun j=>decide (j<i))&&((List.range m).all fun i=>(List.range i).all fun j=>(f4a l i).contains j||u9a l pur j i)&&((List.range m).all fun j=>(f4a l m).contains j)&&decide (l.length=m+1)
abbrev M4d{M:List Nat}{w0 w:World}{L:List Ent}(_:St M w0 w L):World→Prop:=Cl M w0 w L
def B7a(m:Nat)(f:Nat→Bool):List Nat:=(List.range m).filter fun i=>!f i
theorem M0b{m:Nat}(f:Nat→Bool){i:Nat}(hi:i<m)(hf:f i=false):∃b0 a0,B7a m f=b0++i::a0∧B7a m (fun j=>f j||j==i)=b0++a0∧∀j∈b0,j<i∧f j=false:=by
 have hr:List.range m=List.range i++i::(List.range' (i+1) (m-(i+1))):=by
  have h1:m=i+(m-i):=by omega
  have h2:m-i=(m-(i+1))+1:=by omega
  rw[List.range_eq_range',List.range_eq_range',show List.range' 0 m=List.range' 0 (i+((m-(i+1))+1)) by rw[←h2,←h1],←List.range'_append_1];simp[List.range'_succ]
 refine⟨(List.range i).filter fun j=>!f j,(List.range' (i+1) (m-(i+1))).filter fun j=>!f j,?_,?_,?_⟩
 ·unfold B7a;rw[hr,List.filter_append,List.filter_cons];simp[hf]
 ·unfold B7a;rw[hr,List.filter_append,List.filter_cons];simp only[beq_self_eq_true,Bool.or_true,Bool.not_true,Bool.false_eq_true,if_false]
  congr 1
  ·apply List.filter_congr;intro j hj;have:=List.mem_range.1 hj;have:(j==i)=false:=by simp;omega
   simp[this]
  ·apply List.filter_congr;intro j hj;have:=List.mem_range'.1 hj;have:(j==i)=false:=by simp;omega
   simp[this]
 ·intro j hj;rw[List.mem_filter] at hj;exact⟨List.mem_range.1 hj.1,by simpa using hj.2⟩
theorem Y6c{id:Nat}{n t:List Deferred→Env→World→Prop}{b:Nat→List Deferred→Env→World→Prop}{e:Env}{w:World}(hm:P.follows .mixedOrders=true)(pur:Nat→Bool)(ix:List Nat)
 (m:Nat) (C:World→Prop) (ol:Oper) (B0:l[m]?=some ol)
 (h:WM P r N l C pur (fun D e w=>WL P r N l.toArray [ol] (fun D' e' w'=>D'=D∧n D e' w') D e w) D ix e w.drew) (i0:r7c l pur m=true:=by kernel_rfl) (hix:(List.range m==ix)=true:=by kernel_rfl):W P r N (.region id l.toArray true) ⟨n,b,t⟩ D e w:=by
 obtain rfl:List.range m=ix:=eq_of_beq hix;generalize p0:(fun(D:List Deferred) (e:Env) (w:World)=>WL P r N l.toArray [ol] (fun D' e' w'=>D'=D∧n D e' w') D e w)=K' at h;unfold r7c at i0;simp only[Bool.and_eq_true,decide_eq_true_eq] at i0;obtain⟨⟨⟨⟨s0,v0⟩,z0⟩,f0⟩,_⟩:=i0;have r0:∀j,j<m→j∈f4a l m:=fun j hj=>by
  have:=List.all_eq_true.1 f0 j (List.mem_range.2 hj);simpa using this
 have hz:(∀i,N≤i→e i=undef)→W P r N (.region id l.toArray true) ⟨n,b,t⟩ D e w:=by
  intro hz;refine V4c hm v0 (fun f e w=>(∀i,N≤i→e i=undef)∧(∀i,f i=true→∀j∈d1a l i,f j=true)∧((f m=false∧WM P r N l C pur K' D (B7a m f) e w)∨(f m=true∧n D e w))) ⟨hz,by simp,.inl ⟨Z,?_⟩⟩ ?_ ?_
  ·have:B7a m (fun _=>false)=List.range m:=by unfold B7a;simp
   rw[this];exact h
  ·rintro f e w i o ⟨hz,e0,hM⟩ ho g0 j0;have x0:i<l.length:=(List.getElem?_eq_some_iff.1 ho).1;have a0:∀k,(f k||k==i)=true→∀j∈d1a l k,(f j||j==i)=true:=by
    intro k hk j hj;simp only[Bool.or_eq_true,beq_iff_eq] at hk ⊢;rcases hk with hk|rfl
    ·exact .inl (e0 k hk j hj)
    ·exact .inl (j0 j hj)
   rcases hM with⟨c0,hM⟩|⟨c0,-⟩
   rotate_left
   ·have:=s3a e0 l.length (d1a l m) (e0 m c0) i (r0 i (by
     rcases Nat.lt_or_ge i m with h|h
     ·exact h
     ·have:i=m:=by omega
      subst this;rw[g0] at c0;cases c0))
    rw[g0] at this;cases this
   by_cases y0:i=m
   ·subst y0;obtain rfl:ol=o:=Option.some.inj (B0.symm.trans ho);have b0:∀j,j<i→f j=true:=fun j hj=>s3a e0 _ _ j0 j (r0 j hj);have m0:B7a i f=[]:=by
     unfold B7a;rw[List.filter_eq_nil_iff];intro j hj;simp[b0 j (List.mem_range.1 hj)]
    rw[m0] at hM;have h4:=hM.2;rw[←p0] at h4;clear hM h p0;unfold WL at *;refine fun a Q hs hD he hK=>h4 a Q hs hD he (fun a' w' n0 hh=>hK a' w' n0 ?_);refine⟨hh.1,fun j hj=>?_,a0,.inr ⟨by simp,hh.2⟩⟩;simp only[P0a,Array.getD_eq_getD_getElem?];rw[Array.getElem?_eq_none (by omega)];rfl
   have q0:i<m:=by omega
   have d0:(f m||m==i)=false:=by simp[c0];omega
   obtain⟨E0,_,h1,h2,h3⟩:=M0b (m:=m) f q0 g0;rw[h1] at hM;have D0:∀j∈f4a l i,f j=true:=s3a e0 _ _ j0;obtain⟨o',_,A0,hd,hN,h4⟩:=WM.first s0 E0 e w (fun j hj=>by
    have:=List.all_eq_true.1 (List.all_eq_true.1 z0 i (List.mem_range.2 q0)) j (List.mem_range.2 (h3 j hj).1);simp only[Bool.or_eq_true,List.contains_eq_mem,decide_eq_true_eq] at this;rcases this with h|h
    ·have:=D0 j h;rw[(h3 j hj).2] at this;cases this
    ·exact h) hz hM
   obtain rfl:o'=o:=Option.some.inj (A0.symm.trans ho);rcases h4 with⟨C0,v,hv,h4⟩|⟨C0,h4⟩
   ·have t0:=hM.inC;rcases hv with⟨hw,hv⟩|⟨hw,rfl⟩
    ·unfold WL;intro a Q hs hD he hK;simp only[wpListIn];have o0:Region.wanted o' (yielded l.toArray a.tmps)=true:=by rw[p1a,he];exact hw
     simp only[o0,if_true];refine⟨I0a _ _ _,?_⟩;rw[Oper.semAt_eq _ _ _ (z0a s0 ho).2,v2a,he,hv w t0,Oper.uponIn_value];refine hK _ _ (by simp[Act.put,hd,hs]) ⟨by simp[Act.put,hd,hD],?_⟩;rw[hd,b1a v (by rw[hs];exact hN),he];exact⟨A1a hN hz,a0,.inl ⟨d0,by rw[h2];exact h4⟩⟩
    ·unfold WL;intro a Q hs hD he hK;simp only[wpListIn];have o0:Region.wanted o' (yielded l.toArray a.tmps)=false:=by rw[p1a,he];exact hw
     simp only[o0];refine⟨I0a _ _ _,?_⟩;refine hK _ _ (by simp[Act.put,hd,hs]) ⟨by simp[Act.put,hd,hD],?_⟩;rw[hd,b1a undef (by rw[hs];exact hN),he];exact⟨A1a hN hz,a0,.inl ⟨d0,by rw[h2];exact h4⟩⟩
   ·unfold WL at *;refine fun a Q hs hD he hK=>h4 a Q hs hD he (fun a' w' n0 hh=>hK a' w' n0 ?_);obtain⟨u0,v,hv,h5⟩:=hh;exact⟨u0,by rw[hv];exact A1a hN hz,a0,.inl ⟨d0,by rw[h2];exact h5⟩⟩
  ·rintro f e w ⟨hz,e0,hM⟩ b0;rcases hM with⟨c0,-⟩|⟨-,hM⟩
   ·have:=b0 m (by omega);rw[c0] at this;cases this
   ·exact hM
 unfold W at *;intro a hs hd he;refine hz (fun i hi=>?_) a hs hd he;rw[←he];simp only[P0a,Array.getD_eq_getD_getElem?];rw[Array.getElem?_eq_none (by omega)];rfl
end
theorem RdS.dropped{α:Type}{M:List Nat}{w:World}{size b o n c:Nat}{R:LV→α→Prop}{l:List α}(h:RdS M w size R (.slice (some ⟨b,o,none⟩) n c) l)(lo:Nat)(b0:lo≤n):
 RdS M w size R (.slice (some (if c=lo then⟨b,o,none⟩ else⟨b,o+lo*size,none⟩)) (n-lo) (c-lo)) (l.drop lo):=by
 obtain⟨_,_,_,_,h5⟩:=h.at;refine⟨_,_,_,Z,by simp;omega,by omega,by omega,by omega,fun h0=>?_⟩;obtain⟨_,_,hA,hb,a0⟩:=h5 (by omega);cases hA;rw[if_neg (by omega)];refine⟨b,o+lo*size,Z,hb,fun i x hx=>?_⟩;rw[List.getElem?_drop] at hx;obtain⟨cs,h6,h7,h8⟩:=a0 _ x hx;refine⟨cs,h6,?_,h8⟩;rw[Nat.add_mul,←Nat.add_assoc] at h7;exact h7
def s0c(s:i2a)(q:Int→Bool):Prop:=x3a s.guard q=true∧∀a∈s.set,x3a a.to q=true
def Z4d(p:m0a)(t:Int)(s:i2a):Prop:=s0c s (d9a p t)∧∀a∈s.set,d9a p t a.cell=true
def C4d(p:m0a)(t:Int)(s:i2a):Prop:=s0c s (H1b p t)∧∀a∈s.set,H1b p t a.cell=true
def G4d(p:m0a)(t:Int)(s:i2a):Prop:=∃a l,s.set=a::l∧x3a s.guard (d9a p t)=true∧d9a p t a.cell=true∧i9a p.cells a.cell=false∧a.to.op=2∧shQ p a.to.n=true∧i9a p.cells a.to.n=false∧∀b∈l,d9a p t b.cell=true∧i9a p.cells b.cell=true∧x3a b.to (d9a p t)=true
def A4d(p:m0a)(t:Int)(s:i2a):Prop:=∃a l,s.set=a::l∧s0c s (d9a p t)∧shQ p a.cell=true∧i9a p.cells a.cell=false∧∀b∈l,(i9a p.cells b.cell&&H1b p t b.cell)=true
def W3d(s:i2a):Prop:=s.guard=⟨1,1,1,[]⟩∧s.set=[]
def O4d(p:m0a)(t:Int)(s:i2a):Prop:=W3d s∧s.target≠t∧F1a s.target p.threads.length
def h5d(p:m0a)(t:Int)(s:i2a):Prop:=O4d p t s∧∀u,p.threads[s.target.toNat]?=some u→u.asleep=true
def N2d(p:m0a)(t:Int)(s:i2a):Prop:=if s.kind=1 then Z4d p t s else if s.kind=2 then G4d p t s else if s.kind=3 then A4d p t s else if s.kind=4 then C4d p t s else if s.kind=5 then W3d s else if s.kind=6 then h5d p t s else O4d p t s
theorem P0b{cells:List g1a}{z:Bool}{t:Int}:v4a cells ⟨1,1,1,[]⟩ z t:=fun x hx=>by
 have h:(⟨1,1,1,[]⟩:E).wf=true:=by decide
 rcases List.mem_append.1 hx with hx|hx
 ·have:=((N7a h (.inr Z) x).1 hx).2.2;rw[E.occ_def] at this;simp at this;cases(show false=true from this)
 ·have:=((N7a h (.inl Z) x).1 hx).2.2;rw[E.occ_def] at this;simp at this;cases(show false=true from this)
section
variable {p:m0a} (hc:X2a p) {t:Nat} {s:i2a} (hg:s.guard.valid p.cells false=true) (hs:∀a∈s.set,F1a a.cell p.cells.length∧a.to.valid p.cells false=true)
include hc hg hs in
theorem v3b:s0c s (d9a p t)↔v4a p.cells s.guard false t∧∀a∈s.set,v4a p.cells a.to false t :=
 and_congr (G7a hc hg) ⟨fun h a ha=>(G7a hc (hs a ha).2).1 (h a ha),fun h a ha=>(G7a hc (hs a ha).2).2 (h a ha)⟩
include hc hg hs in
theorem V5c:s0c s (H1b p t)↔v4a p.cells s.guard true t∧∀a∈s.set,v4a p.cells a.to true t :=
 and_congr (F7a hc hg) ⟨fun h a ha=>(F7a hc (hs a ha).2).1 (h a ha),fun h a ha=>(F7a hc (hs a ha).2).2 (h a ha)⟩
theorem m5b{c:Int}(h:F1a c p.cells.length){t:Int}:d9a p t c=true↔u1a p.cells c=t:=⟨fun hh=>(of_decide_eq_true hh).2,fun hh=>decide_eq_true ⟨h,hh⟩⟩
theorem c4d{c:Int}(h:F1a c p.cells.length):shQ p c=true↔u1a p.cells c=-1:=⟨fun hh=>(of_decide_eq_true hh).2,fun hh=>decide_eq_true ⟨h,hh⟩⟩
theorem k4c{c:Int}(h:F1a c p.cells.length){t:Int}:H1b p t c=true↔u1a p.cells c=t∨u1a p.cells c=-1:=by
 unfold H1b;rw[Bool.or_eq_true,m5b h,c4d h];exact or_comm
theorem K9a.all{t:Int}(h:K9a p t s)(hk:s.kind≠2):∀a∈s.set,v4a p.cells a.to (decide (s.kind=4)) t:=fun a ha=>by
 obtain⟨i,hi,rfl⟩:=List.getElem_of_mem ha;exact h.vals i hi (.inr hk)
include hc hg hs in
theorem d6c(hk:1≤s.kind∧s.kind≤7):N2d p t s↔K9a p t s:=by
 unfold N2d;rcases(show s.kind=1∨s.kind=2∨s.kind=3∨s.kind=4∨s.kind=5∨s.kind=6∨s.kind=7 by omega) with e|e|e|e|e|e|e<;>simp only[e,if_true,if_false,Int.reduceEq]
 ·unfold Z4d;rw[v3b hc hg hs];have e4:decide (s.kind=4)=false:=decide_eq_false (by omega);refine⟨fun⟨⟨h1,h2⟩,h3⟩=>?_,fun h=>⟨⟨e4▸h.guard,fun a ha=>e4▸h.all (by omega) a ha⟩,fun a ha=>(m5b (hs a ha).1).2 (h.k1 e a ha)⟩⟩;exact⟨e4.symm▸h1,fun i hi _=>e4.symm▸h2 _ (List.getElem_mem hi),fun a ha=>.inl ((m5b (hs a ha).1).1 (h3 a ha)),fun _ a ha=>(m5b (hs a ha).1).1 (h3 a ha),fun h=>by omega,fun h=>by omega,fun h=>by omega,fun h=>by omega,fun h=>by omega⟩
 ·have e4:decide (s.kind=4)=false:=decide_eq_false (by omega);constructor
  ·rintro⟨a,l,e1,h1,h2,h3,h4,h5,h6,h7⟩;have hl:∀b∈l,b∈s.set:=fun b hb=>by rw[e1];exact List.mem_cons_of_mem _ hb
   have ha:a∈s.set:=by rw[e1];simp
   have h7':∀b∈l,u1a p.cells b.cell=t∧i9a p.cells b.cell=true:=fun b hb=>⟨(m5b (hs b (hl b hb)).1).1 (h7 b hb).1,(h7 b hb).2.1⟩
   have h2':=(m5b (hs a ha).1).1 h2;refine⟨e4.symm▸(G7a hc hg).1 h1,fun i hi hor=>?_,fun b hb=>.inl ?_,fun h=>by omega,fun _=>⟨a,l,e1,h2',h3,h4,(of_decide_eq_true h5).2,h6,h7'⟩,fun h=>by omega,fun h=>by omega,fun h=>by omega,fun h=>by omega⟩
   ·obtain⟨j,rfl⟩:∃j,i=j+1:=⟨i-1,by omega⟩;have hm:s.set[j+1]∈l:=Z9a e1 (List.getElem?_eq_getElem hi);exact e4.symm▸(G7a hc (hs _ (hl _ hm)).2).1 (h7 _ hm).2.2
   ·rw[e1] at hb;rcases List.mem_cons.1 hb with rfl|hb
    ·exact h2'
    ·exact(h7' b hb).1
  ·intro h;obtain⟨a,l,e1,h2,h3,h4,h5,h6,h7⟩:=h.k2 e;have hl:∀b∈l,b∈s.set:=fun b hb=>by rw[e1];exact List.mem_cons_of_mem _ hb
   have ha:a∈s.set:=by rw[e1];simp
   have hn:=A2b (hs a ha).2 h4;refine⟨a,l,e1,(G7a hc hg).2 (e4▸h.guard),(m5b (hs a ha).1).2 h2,h3,h4,decide_eq_true ⟨hn,h5⟩,h6,fun b hb=>⟨(m5b (hs b (hl b hb)).1).2 (h7 b hb).1,(h7 b hb).2,(G7a hc (hs b (hl b hb)).2).2 ?_⟩⟩;obtain⟨j,hj⟩:=List.getElem?_of_mem hb;exact e4▸h.val (k:=j+1) (by rw[e1];exact hj) (.inl (by omega))
 ·have e4:decide (s.kind=4)=false:=decide_eq_false (by omega);constructor
  ·rintro⟨a,l,e1,hv,h2,h3,h7⟩;have hl:∀b∈l,b∈s.set:=fun b hb=>by rw[e1];exact List.mem_cons_of_mem _ hb
   have ha:a∈s.set:=by rw[e1];simp
   obtain⟨h1,hv2⟩:=(v3b hc hg hs).1 hv;refine⟨e4.symm▸h1,fun i hi _=>e4.symm▸hv2 _ (List.getElem_mem hi),fun b hb=>?_,fun h=>by omega,fun h=>by omega,fun _=>⟨a,l,e1,(c4d (hs a ha).1).1 h2,h3,fun b hb=>(Bool.and_eq_true _ _▸h7 b hb).1⟩,fun h=>by omega,fun h=>by omega,fun h=>by omega⟩;rw[e1] at hb;rcases List.mem_cons.1 hb with rfl|hb
   ·exact .inr ((c4d (hs b ha).1).1 h2)
   ·exact(k4c (hs b (hl b hb)).1).1 (Bool.and_eq_true _ _▸h7 b hb).2
  ·intro h;obtain⟨a,l,e1,h2,h3,h7⟩:=h.k3 e;have hl:∀b∈l,b∈s.set:=fun b hb=>by rw[e1];exact List.mem_cons_of_mem _ hb
   have ha:a∈s.set:=by rw[e1];simp
   exact⟨a,l,e1,(v3b hc hg hs).2 ⟨e4▸h.guard,fun a ha=>e4▸h.all (by omega) a ha⟩,(c4d (hs a ha).1).2 h2,h3,fun b hb=>by rw[Bool.and_eq_true];exact⟨h7 b hb,(k4c (hs b (hl b hb)).1).2 (h.cells b (hl b hb))⟩⟩
 ·unfold C4d;rw[V5c hc hg hs];have e4:decide (s.kind=4)=true:=decide_eq_true e;refine⟨fun⟨⟨h1,h2⟩,h3⟩=>?_,fun h=>⟨⟨e4▸h.guard,fun a ha=>e4▸h.all (by omega) a ha⟩,fun a ha=>(k4c (hs a ha).1).2 (h.cells a ha)⟩⟩;exact⟨e4.symm▸h1,fun i hi _=>e4.symm▸h2 _ (List.getElem_mem hi),fun a ha=>(k4c (hs a ha).1).1 (h3 a ha),fun h=>by omega,fun h=>by omega,fun h=>by omega,fun h=>by omega,fun h=>by omega,fun h=>by omega⟩
 ·refine⟨fun⟨h1,h2⟩=>?_,fun h=>⟨(h.k5 (by omega)).2,(h.k5 (by omega)).1⟩⟩;exact⟨h1▸P0b,fun i hi _=>(by rw[h2] at hi;simp at hi),fun a ha=>(by rw[h2] at ha;cases ha),fun h=>by omega,fun h=>by omega,fun h=>by omega,fun _=>⟨h2,h1⟩,fun h=>by omega,fun h=>by omega⟩
 ·refine⟨fun⟨⟨⟨h1,h2⟩,h3,h4⟩,h5⟩=>?_,fun h=>⟨⟨⟨(h.k5 (by omega)).2,(h.k5 (by omega)).1⟩,(h.k6 (by omega)).2,(h.k6 (by omega)).1⟩,h.k7 e⟩⟩;exact⟨h1▸P0b,fun i hi _=>(by rw[h2] at hi;simp at hi),fun a ha=>(by rw[h2] at ha;cases ha),fun h=>by omega,fun h=>by omega,fun h=>by omega,fun _=>⟨h2,h1⟩,fun _=>⟨h4,h3⟩,fun _=>h5⟩
 ·refine⟨fun⟨⟨h1,h2⟩,h3,h4⟩=>?_,fun h=>⟨⟨(h.k5 (by omega)).2,(h.k5 (by omega)).1⟩,(h.k6 (by omega)).2,(h.k6 (by omega)).1⟩⟩;exact⟨h1▸P0b,fun i hi _=>(by rw[h2] at hi;simp at hi),fun a ha=>(by rw[h2] at ha;cases ha),fun h=>by omega,fun h=>by omega,fun h=>by omega,fun _=>⟨h2,h1⟩,fun _=>⟨h4,h3⟩,fun h=>by omega⟩
end
theorem Y8a(s:i2a)(M:List Nat)(w0:World)(ss:LV)(vf:Value)(q:Int→Bool)(hS:n2a M w0 ss s)(hp:G2a prog M w0 vf q)(hK:W1a M w0)(hM:∀g∈M,g<w0.heap.size):
 A0a prog 279 #[.agg ss.toArray,vf] w0 fun v w'=>v=.bool (dec (s0c s q))∧Bw w0 w':=by
 obtain⟨Ag,ng,cg,As,ns,o0,rfl,⟨_,_⟩,hG,i0,_⟩:=hS.open_;obtain⟨f,first,caps,rfl,_⟩:=id hp;have S:=St.refl w0;have p0:∀w':World,w0.heap.size≤w'.heap.size→∀g∈M,g<w'.heap.size:=fun w' h g hg=>by have:=hM g hg;omega
 refine a0a func279 Z ntmps279 Z ?_;refine wO1 Z (o0a S Z ?_);intro g2 w2 S2 X2 G2;refine lOn 8 S2.k [.o 0] Z ⟨Z,U⟩ (J0a Z ?_);refine i0a S2 W8a Z Z (f7a _ M _ _ _ q (RdE.keep (S2.keep0 M) _ _ hG) (hp.keep (S2.keep0 M)) (hK.keep (S2.keep0 M)) (p0 _ S2.size)) (fun c0 y0 b0 r0=>?_) (fun c0 y0 b0 r0=>?_)
 ·refine lC b0.k [.o 0] Z ⟨Z,U⟩ (wL (fun μk D ε w=>D=[]∧∃k:Nat,(k+μk=(s.set.length))∧(Y0a (s.set) k (fun a=>x3a a.to q=true))∧St [] w0 w [(some g2,60,[.int .i64 s.kind,.int .i64 s.frm,.int .i64 s.to,.int .i64 s.guard.op,.int .i64 s.guard.w,.int .i64 s.guard.n,.slice Ag ng cg,.slice As ns o0,.bool s.release,.int .i64 s.target,.int .i64 s.module_])]∧Sl ε [(1,.func (.func f) first caps),(13,.slice As ns o0),(14,.int .i64 ns),(15,.int .i64 k)]) (μ:=(s.set.length)) ⟨Z,0,by omega,Y0a.zero,b0,Z⟩ ?_);rintro μk D ε w ⟨rfl,k,_,ha,S,eZ⟩;refine wK eZ (wB1 Z (fun v0=>?_) fun v0=>?_)
  ·obtain⟨a,u0,x0,_,q0,f0,_,m0,j0,n0⟩:=RdS.get (i0) (k) (by omega);obtain⟨_,_,_,rfl,_,g0⟩:=V0a.open_ n0;refine lO (S.k.a j0) [.x u0 x0,.v 0] Z ⟨⟨Z,m0⟩,⟨f0,by omega⟩,U⟩ (g0a S z4b Z Z ?_);intro g6 w6 S6 X6 G6;refine d0a (kk:=0) (vs:=[_,_,_,_,_]) S6 K4b Z Z Z Z Z Z Z ?_;intro A0 a0 t0;dsimp only[e0a,List.set] at a0;refine lO a0.k [.o 0] Z ⟨Z,U⟩ (i0a a0 W8a Z Z (f7a _ M _ _ _ q (RdE.keep (a0.keep0 M) _ _ g0) (hp.keep (a0.keep0 M)) (hK.keep (a0.keep0 M)) (p0 _ a0.size)) (fun d0 z0 e0 s0=>?_) (fun d0 z0 e0 s0=>?_))
   ·refine lP1 Z ⟨μk-1,by omega,Z,k+1,by omega,(ha.succ q0 (d0)),e0.tail,Z⟩
   refine lU Z Z ?_;refine⟨C0a (fun h=>?_),e0.fin⟩;rw[h.2 a (c0a q0)] at d0;cases d0;done
  exact lU Z Z ⟨H1a ⟨c0,ha.all (by omega)⟩,S.fin⟩
 refine lU Z Z ?_;refine⟨C0a (fun h=>?_),b0.fin⟩;rw[h.1] at c0;cases c0;done
theorem p1b(l:List o3a)(M:List Nat)(w0:World)(v vf:Value)(q:Int→Bool)(hS:d9c M w0 v l)(hp:G2a prog M w0 vf q):
 A0a prog 280 #[v,vf] w0 fun v w'=>v=.bool (dec (∀a∈l,q a.cell=true))∧Bw w0 w':=by
 obtain⟨As,ns,p0,rfl⟩:=hS.form;obtain⟨_,_⟩:=hS.len;obtain⟨f,first,caps,rfl,_⟩:=id hp;have S:=St.refl w0;refine a0a func280 Z ntmps280 Z ?_;refine wC1 Z (wL (fun μk D ε w=>D=[]∧∃k:Nat,(k+μk=(l.length))∧(Y0a (l) k (fun a=>q a.cell=true))∧St [] w0 w []∧Sl ε [(1,.func (.func f) first caps),(7,.slice As ns p0),(8,.int .i64 ns),(9,.int .i64 k)]) (μ:=(l.length)) ⟨Z,0,by omega,Y0a.zero,S,Z⟩ ?_);rintro μk D ε w ⟨rfl,k,_,ha,S,eZ⟩;refine wK eZ (wB1 Z (fun q0=>?_) fun q0=>?_)
 ·obtain⟨a,o0,r0,_,j0,d0,_,f0,e0,g0⟩:=RdS.get (hS) (k) (by omega);obtain⟨_,_,_,rfl,i0,_⟩:=V0a.open_ g0;refine lO (S.k.a e0) [.x o0 r0,.v 0] Z ⟨⟨Z,f0⟩,⟨d0,by omega⟩,U⟩ (g0a S z4b Z Z ?_);intro g6 w6 S6 X6 G6
  first|refine d0a (kk:=0) (vs:=[_,_,_,_,_]) S6 K4b Z Z Z Z Z Z Z ?_
  intro t0 a0 n0;dsimp only[e0a,List.set] at a0;refine lO a0.k [.o 0] Z ⟨Z,U⟩ (K7a a0 (hp.keep (a0.keep0 M)) Z Z (i0) Z (fun b0 s0 c0 m0=>?_) (fun b0 s0 c0 m0=>?_))
  ·refine lP1 Z ⟨μk-1,by omega,Z,k+1,by omega,(ha.succ j0 (b0)),c0.tail,Z⟩
  refine lU Z Z ?_;refine⟨C0a (fun h=>?_),c0.fin⟩;rw[h a (c0a j0)] at b0;cases b0;done
 exact lU Z Z ⟨H1a (ha.all (by omega)),S.fin⟩
theorem K7c(e:E)(M:List Nat)(w0:World)(cs:LV)(hR:RdE M w0 e cs):A0a prog 284 #[.agg cs.toArray] w0 fun v w'=>v=.bool (dec (e=⟨1,1,1,[]⟩))∧Bw w0 w':=by
 obtain⟨_,n,_,rfl,_⟩:=hR.cells;have S:=St.refl w0;refine a0a func284 Z ntmps284 Z ?_;refine wO1 Z (o0a S Z ?_);intro g1 w1 S1 X1 G1;refine lB S1.k [.o 0] Z ⟨Z,U⟩ (fun h5=>?_) fun h5=>?_
 ·refine lB S1.k [.o 0] Z ⟨Z,U⟩ (fun h9=>?_) fun h9=>?_
  ·refine lB S1.k [.o 0] Z ⟨Z,U⟩ (fun a0=>?_) fun a0=>?_
   ·refine lB S1.k [.o 0] Z ⟨Z,U⟩ (fun b0=>?_) fun b0=>?_
    ·refine lU Z Z ?_;exact⟨H1a (E.ext (by simp only;omega) (by simp only;omega) (by simp only;omega) (List.length_eq_zero_iff.1 (by omega))),S1.fin⟩
    refine lU Z Z ?_;refine⟨C0a (fun h=>?_),S1.fin⟩;obtain⟨a1,a2,a3,a4⟩:e.op=1∧e.w=1∧e.n=1∧e.kids.length=0:=(by rw[h];exact⟨Z,Z,Z,Z⟩);omega
   refine lU Z Z ?_;refine⟨C0a (fun h=>?_),S1.fin⟩;obtain⟨a1,a2,a3,a4⟩:e.op=1∧e.w=1∧e.n=1∧e.kids.length=0:=(by rw[h];exact⟨Z,Z,Z,Z⟩);omega
  refine lU Z Z ?_;refine⟨C0a (fun h=>?_),S1.fin⟩;obtain⟨a1,a2,a3,a4⟩:e.op=1∧e.w=1∧e.n=1∧e.kids.length=0:=(by rw[h];exact⟨Z,Z,Z,Z⟩);omega
 refine lU Z Z ?_;refine⟨C0a (fun h=>?_),S1.fin⟩;obtain⟨a1,a2,a3,a4⟩:e.op=1∧e.w=1∧e.n=1∧e.kids.length=0:=(by rw[h];exact⟨Z,Z,Z,Z⟩);omega
theorem n8b(s:i2a)(M:List Nat)(w0:World)(ss:LV)(hS:n2a M w0 ss s):
 A0a prog 283 #[.agg ss.toArray] w0 fun v w'=>v=.bool (dec (W3d s))∧Bw w0 w':=by
 obtain⟨_,_,_,_,_,_,rfl,⟨_,_⟩,hG,_,a0,_⟩:=hS.open_;have S:=St.refl w0;refine a0a func283 Z ntmps283 Z ?_;refine wO1 Z (o0a S Z ?_);intro g1 w1 S1 X1 G1;refine lO S1.k [.o 0] Z ⟨Z,U⟩ (i0a S1 g0d Z Z (K7c _ M _ _ (RdE.keep (S1.keep0 M) _ _ hG)) (fun h5 w5 S5 X5=>?_) (fun h5 w5 S5 X5=>?_))
 ·refine lB S5.k [.o 0] Z ⟨Z,U⟩ (fun b0=>?_) fun b0=>?_
  ·exact lU Z Z ⟨H1a ⟨Q0a h5,List.length_eq_zero_iff.1 (by omega)⟩,S5.fin⟩
  refine lU Z Z ?_;refine⟨C0a (fun h=>?_),S5.fin⟩;have:=h.2;rw[this] at a0;simp at a0;omega
 refine lU Z Z ?_;refine⟨C0a (fun h=>K0a h5 h.1),S5.fin⟩;done
structure AtX (p:m0a) (s:i2a) (M:List Nat) (w:World) (cs ss:LV):Prop where
 prog:e1a M w p cs
 step:n2a M w ss s
 rng:∀a∈s.set,F1a a.cell p.cells.length
 masks:W1a M w
 low:∀g∈M,g<w.heap.size
theorem Q3b(p:m0a)(t:Nat)(s:i2a)(M:List Nat)(w0:World)(cs ss:LV)(h:AtX p s M w0 cs ss):
 A0a prog 270 #[.agg cs.toArray,.int .i64 t,.agg ss.toArray] w0 fun v w'=>v=.bool (dec (Z4d p t s))∧Bw w0 w':=by
 obtain⟨hP,hS,_,hK,hM⟩:=h;obtain⟨_,_,_,_,_,_,_,_,_,_,_,_,rfl,_⟩:=hP.open_;obtain⟨_,_,_,_,_,_,rfl,⟨_,_⟩,_,f0,_⟩:=hS.open_;have S:=St.refl w0;have j0:∀w':World,w0.heap.size≤w'.heap.size→∀g∈M,g<w'.heap.size:=fun w' h g hg=>by have:=hM g hg;omega
 refine a0a func270 Z ntmps270 Z ?_;refine wO1 Z (o0a S Z ?_);intro g3 w3 S3 X3 G3;refine o0a S3 Z ?_;intro g5 w5 S5 X5 G5;refine lO S5.k [.w 1] Z ⟨⟨Z,by rfl⟩,U⟩ (h0a S5 X0b Z Z (m1b p t M _ _ (hP.keep (S5.keep0 M)) (j0 _ S5.size)) ?_);rintro p0 q0 hq b0 o0;obtain⟨_,_,_,rfl,_⟩:=id hq;refine lO b0.k [.w 0] Z ⟨⟨Z,by rfl⟩,U⟩ (i0a b0 w6b Z Z (Y8a s M _ _ _ (d9a p t) (n2a.keep (b0.keep0 M) _ _ hS) hq (hK.keep (b0.keep0 M)) (j0 _ b0.size)) (fun d0 m0 a0 g0=>?_) (fun d0 m0 a0 g0=>?_))
 ·replace hq:=hq.keep (g0.of_nil);refine lO a0.k [.o 0] Z ⟨Z,U⟩ (i0a a0 q7b Z Z (p1b s.set M _ _ _ (d9a p t) (RdS.keepW f0 (a0.keep0 M) (V0a.keep (a0.keep0 M))) hq) (fun e0 n0 c0 i0=>?_) (fun e0 n0 c0 i0=>?_))
  ·replace hq:=hq.keep (i0.of_nil);exact lU Z Z ⟨H1a ⟨Q0a d0,Q0a e0⟩,c0.fin⟩
  refine lU Z Z ?_;refine⟨C0a (fun h=>K0a e0 h.2),c0.fin⟩;done
 refine lU Z Z ?_;refine⟨C0a (fun h=>K0a d0 h.1),a0.fin⟩;done
theorem K1b(p:m0a)(t:Nat)(s:i2a)(M:List Nat)(w0:World)(cs ss:LV)(h:AtX p s M w0 cs ss):
 A0a prog 273 #[.agg cs.toArray,.int .i64 t,.agg ss.toArray] w0 fun v w'=>v=.bool (dec (C4d p t s))∧Bw w0 w':=by
 obtain⟨hP,hS,_,hK,hM⟩:=h;obtain⟨_,_,_,_,_,_,_,_,_,_,_,_,rfl,_⟩:=hP.open_;obtain⟨_,_,_,_,_,_,rfl,⟨_,_⟩,_,f0,_⟩:=hS.open_;have S:=St.refl w0;have j0:∀w':World,w0.heap.size≤w'.heap.size→∀g∈M,g<w'.heap.size:=fun w' h g hg=>by have:=hM g hg;omega
 refine a0a func273 Z ntmps273 Z ?_;refine wO1 Z (o0a S Z ?_);intro g3 w3 S3 X3 G3;refine o0a S3 Z ?_;intro g5 w5 S5 X5 G5;refine lO S5.k [.w 1] Z ⟨⟨Z,by rfl⟩,U⟩ (h0a S5 D7b Z Z (T7a p t M _ _ (hP.keep (S5.keep0 M)) (j0 _ S5.size)) ?_);rintro p0 q0 hq b0 o0;obtain⟨_,_,_,rfl,_⟩:=id hq;refine lO b0.k [.w 0] Z ⟨⟨Z,by rfl⟩,U⟩ (i0a b0 w6b Z Z (Y8a s M _ _ _ (H1b p t) (n2a.keep (b0.keep0 M) _ _ hS) hq (hK.keep (b0.keep0 M)) (j0 _ b0.size)) (fun d0 m0 a0 g0=>?_) (fun d0 m0 a0 g0=>?_))
 ·replace hq:=hq.keep (g0.of_nil);refine lO a0.k [.o 0] Z ⟨Z,U⟩ (i0a a0 q7b Z Z (p1b s.set M _ _ _ (H1b p t) (RdS.keepW f0 (a0.keep0 M) (V0a.keep (a0.keep0 M))) hq) (fun e0 n0 c0 i0=>?_) (fun e0 n0 c0 i0=>?_))
  ·replace hq:=hq.keep (i0.of_nil);exact lU Z Z ⟨H1a ⟨Q0a d0,Q0a e0⟩,c0.fin⟩
  refine lU Z Z ?_;refine⟨C0a (fun h=>K0a e0 h.2),c0.fin⟩;done
 refine lU Z Z ?_;refine⟨C0a (fun h=>K0a d0 h.1),a0.fin⟩;done
theorem W2b(p:m0a)(t:Nat)(s:i2a)(M:List Nat)(w0:World)(cs ss:LV)(h:AtX p s M w0 cs ss):
 A0a prog 274 #[.agg cs.toArray,.int .i64 t,.agg ss.toArray] w0 fun v w'=>v=.bool (dec (W3d s))∧Bw w0 w':=by
 obtain⟨hP,hS,_⟩:=h;obtain⟨_,_,_,_,_,_,_,_,_,_,_,_,rfl,_⟩:=hP.open_;obtain⟨_,_,_,_,_,_,rfl,⟨_,_⟩,_⟩:=hS.open_;have S:=St.refl w0;refine a0a func274 Z ntmps274 Z ?_;refine wO1 Z (o0a S Z ?_);intro g3 w3 S3 X3 G3;refine o0a S3 Z ?_;intro g5 w5 S5 X5 G5;refine lO S5.k [.w 0] Z ⟨⟨Z,by rfl⟩,U⟩ (i0a S5 d2c Z Z (n8b s M _ _ (n2a.keep (S5.keep0 M) _ _ hS)) (fun h8 w8 S8 X8=>?_) (fun h8 w8 S8 X8=>?_))
 ·refine lR1 Z (w0a Z ?_);exact⟨by rw[h8],S8.fin⟩
 refine lR1 Z (w0a Z ?_);exact⟨by rw[h8],S8.fin⟩
theorem P9a(p:m0a)(t:Nat)(s:i2a)(M:List Nat)(w0:World)(cs ss:LV)(h:AtX p s M w0 cs ss):
 A0a prog 276 #[.agg cs.toArray,.int .i64 t,.agg ss.toArray] w0 fun v w'=>v=.bool (dec (O4d p t s))∧Bw w0 w':=by
 obtain⟨hP,hS,_⟩:=h;obtain⟨_,_,_,_,_,_,_,_,_,_,_,_,rfl,_⟩:=hP.open_;obtain⟨_,_,_,_,_,_,rfl,⟨_,_⟩,_⟩:=hS.open_;have S:=St.refl w0;refine a0a func276 Z ntmps276 Z ?_;refine wO1 Z (o0a S Z ?_);intro g3 w3 S3 X3 G3;refine o0a S3 Z ?_;intro g5 w5 S5 X5 G5;refine lO S5.k [.w 0] Z ⟨⟨Z,by rfl⟩,U⟩ (i0a S5 d2c Z Z (n8b s M _ _ (n2a.keep (S5.keep0 M) _ _ hS)) (fun h8 w8 S8 X8=>?_) (fun h8 w8 S8 X8=>?_))
 ·refine lB S8.k [.o 0] Z ⟨Z,U⟩ (fun d0=>?_) fun d0=>?_
  ·refine lO S8.k [.o 0,.o 1] Z ⟨Z,Z,U⟩ (i0a S8 a3a Z Z (t2a _ _ _) (fun b0 e0 a0 c0=>?_) (fun b0 e0 a0 c0=>?_))
   ·refine lU Z Z ?_;exact⟨H1a ⟨Q0a h8,by omega,by have:=of_decide_eq_true b0;unfold F1a;omega⟩,a0.fin⟩
   refine lU Z Z ?_;refine⟨C0a (fun h=>?_),a0.fin⟩;have:=h.2.2;unfold F1a at this;have:=of_decide_eq_false b0;omega
  refine lU Z Z ?_;refine⟨C0a (fun h=>?_),S8.fin⟩;have:=h.2.1;omega
 refine lU Z Z ?_;refine⟨C0a (fun h=>K0a h8 h.1),S8.fin⟩;done
theorem n3b(p:m0a)(t:Nat)(s:i2a)(M:List Nat)(w0:World)(cs ss:LV)(h:AtX p s M w0 cs ss):
 A0a prog 275 #[.agg cs.toArray,.int .i64 t,.agg ss.toArray] w0 fun v w'=>v=.bool (dec (h5d p t s))∧Bw w0 w':=by
 obtain⟨hP,hS,o0,hK,hM⟩:=h;obtain⟨_,_,_,_,_,_,_,_,_,_,_,_,rfl,_,_,_,n0,_⟩:=hP.open_;obtain⟨_,_,_,_,_,_,rfl,⟨_,_⟩,_⟩:=hS.open_;have S:=St.refl w0;have m0:∀w':World,w0.heap.size≤w'.heap.size→∀g∈M,g<w'.heap.size:=fun w' h g hg=>by have:=hM g hg;omega
 refine a0a func275 Z ntmps275 Z ?_;refine wO1 Z (o0a S Z ?_);intro g3 w3 S3 X3 G3;refine o0a S3 Z ?_;intro g5 w5 S5 X5 G5;refine lO S5.k [.w 1,.w 0] Z ⟨⟨Z,by rfl⟩,⟨Z,by rfl⟩,U⟩ (i0a S5 B2c Z Z (P9a p t s M _ _ _ ⟨hP.keep (S5.keep0 M),n2a.keep (S5.keep0 M) _ _ hS,o0,hK.keep (S5.keep0 M),m0 _ S5.size⟩) (fun d0 r0 b0 i0=>?_) (fun d0 r0 b0 i0=>?_))
 ·have q0:=(Q0a d0).2.2;unfold F1a at q0;obtain⟨u,j0,p0,_,g0,e0,_,_,c0,f0⟩:=RdS.get (n0) (s.target.toNat) (by omega);obtain⟨_,_,_,_,_,_,_,_,_,_,_,_,rfl,_⟩:=Z0a.open_ f0;refine lO b0.k [.o 1,.o 0,.x j0 p0] Z ⟨⟨e0,by omega⟩,Z,Z,U⟩ ?_;cases a0:u.asleep
  ·refine G0a E2a Z (by exact(b0.old (c0 _ _ Z)).trans (congrArg (fun b=>some (Value.bool b)) a0)) Z ?_;refine lU Z Z ?_;refine⟨C0a (fun h=>?_),b0.fin⟩;have:=h.2 u g0;rw[a0] at this;cases this;done
  refine G0a E2a Z (by exact(b0.old (c0 _ _ Z)).trans (congrArg (fun b=>some (Value.bool b)) a0)) Z ?_;refine lU Z Z ?_;exact⟨H1a ⟨Q0a d0,fun v hv=>by rw[g0] at hv;cases hv;exact a0⟩,b0.fin⟩
 refine lU Z Z ?_;refine⟨C0a (fun h=>K0a d0 h.1),b0.fin⟩;done
theorem z5b(p:m0a)(t:Nat)(s:i2a)(M:List Nat)(w0:World)(cs ss:LV)(h:AtX p s M w0 cs ss):
 A0a prog 271 #[.agg cs.toArray,.int .i64 t,.agg ss.toArray] w0 fun v w'=>v=.bool (dec (G4d p t s))∧Bw w0 w':=by
 obtain⟨hP,hS,p1,hK,hM⟩:=h;obtain⟨Ac,nc,cc,Am,nm,cm,Al,nl,cl,At,nt,ct,rfl,_⟩:=hP.open_;obtain⟨Ag,ng,cg,_,ns,S0,rfl,⟨_,_⟩,hG,i0,I1,_⟩:=hS.open_;have S:=St.refl w0;have K0:∀w':World,w0.heap.size≤w'.heap.size→∀g∈M,g<w'.heap.size:=fun w' h g hg=>by have:=hM g hg;omega
 cases d0:s.set with
 | nil =>
   have hz:ns=0:=by rw[I1,d0];rfl
   have H1:¬G4d p t s:=fun⟨a,l,e,_⟩=>by rw[d0] at e;cases e
   refine a0a func271 Z ntmps271 Z ?_;refine wO1 Z (o0a S Z ?_);intro g3 w3 S3 X3 G3;refine o0a S3 Z ?_;intro g5 w5 S5 X5 G5;refine lO S5.k [.w 1] Z ⟨⟨Z,by rfl⟩,U⟩ (h0a S5 X0b Z Z (m1b p t M _ _ (hP.keep (S5.keep0 M)) (K0 _ S5.size)) ?_);rintro O1 L0 hq g0 y1;obtain⟨f,first,caps,rfl,hH,hf⟩:=id hq;have c0:=x0a.refl [] L0;refine lB g0.k [.o 0] Z ⟨Z,U⟩ (fun T0=>?_) (fun T0=>by exfalso;omega);exact lU Z Z ⟨C0a H1,g0.fin⟩
 | cons a0 l =>
 have F1:s.set.length=l.length+1:=by rw[d0];rfl
 have G1:a0∈s.set:=by rw[d0];simp
 have X0:=p1 a0 G1;have b1:s.set[0]?=some a0:=by rw[d0];rfl
 unfold F1a at X0;obtain⟨_,b0,p0,_,c1,rfl,D1,_,z0,J1⟩:=RdS.get i0 0 (by omega);obtain rfl:=Option.some.inj (b1.symm.trans c1);obtain⟨t1,M1,A1,rfl,K1,_⟩:=V0a.open_ J1;have E1:s.set.drop 1=l:=by rw[d0];rfl
 have o1:=RdS.dropped i0 1 (by omega);rw[E1] at o1;refine a0a func271 Z ntmps271 Z ?_;refine wO1 Z (o0a S Z ?_);intro g3 w3 S3 X3 G3;refine o0a S3 Z ?_;intro g5 w5 S5 X5 G5;refine lO S5.k [.w 1] Z ⟨⟨Z,Z⟩,U⟩ (h0a S5 X0b Z Z (m1b p t M _ _ (hP.keep (S5.keep0 M)) (K0 _ S5.size)) ?_);rintro O1 L0 hq g0 y1;obtain⟨f,first,caps,rfl,hH,hf⟩:=id hq;have c0:=x0a.refl [] L0;refine lB g0.k [.o 0] Z ⟨Z,U⟩ (fun T0=>by exfalso;omega) fun T0=>?_;refine lO g0.k [.o 0] Z ⟨Z,U⟩ (i0a g0 W8a Z Z (f7a _ M _ _ _ (d9a p t) (RdE.keep (g0.keep0 M) _ _ hG) (hq.keep c0.of_nil) (hK.keep (g0.keep0 M)) (K0 _ g0.size)) (fun D0 N0 B0 f1=>?_) (fun D0 N0 B0 f1=>?_))
 ·replace c0:=c0.trans f1;refine lC1 Z (Y6c b0a (fun i=>[0,1,2,3,4,5,6,7,8,9,11].contains i) [0,1,2,3,4,5,6,7,8,9,10,11] 12 (M4d B0) _ Z ?_);have f0:=B0.drew;have e0:x0a [] N0 N0.drew:=Z4a _ _;generalize N0.drew=a2 at f0 e0 ⊢;replace c0:=c0.trans e0;refine f3a ⟨f0,e0⟩ Z Z Z ?_;refine q1a d7b Z Z ?_;refine n0a ?_;refine f3a ⟨f0,e0⟩ Z Z Z ?_;refine j0a W0c Z (fun w1 hw=>by exact hw.1.cell 0 Z Z) Z ?_;refine n0a ?_;refine f3a ⟨f0,e0⟩ Z Z Z ?_;refine F0a H9a.slT Z (by rfl) Z Z ?_;refine n0a ?_;refine f3a ⟨f0,e0⟩ Z Z Z ?_;refine q1a P7b Z Z ?_;refine n0a ?_;refine f3a ⟨f0,e0⟩ Z Z Z ?_;refine j0a E0a Z (fun w1 hw=>by exact hw.1.old (z0 _ _ Z)) Z ?_;refine n0a ?_;refine f3a ⟨f0,e0⟩ Z Z Z ?_;refine q1a d7b Z Z ?_;refine n0a ?_;refine f3a ⟨f0,e0⟩ Z Z Z ?_;refine j0a W0c Z (fun w1 hw=>by exact hw.1.cell 0 Z Z) Z ?_;refine n0a ?_;refine f3a ⟨f0,e0⟩ Z Z Z ?_;refine F0a H9a.slT Z (by rfl) Z Z ?_;refine n0a ?_;refine f3a ⟨f0,e0⟩ Z Z Z ?_;refine q1a h9b Z Z ?_;refine n0a ?_;refine f3a ⟨f0,e0⟩ Z Z Z ?_;refine z1a D0a Z (fun w1 hw=>(Cells.sub z0 1 4).keep (hw.1.keep0 M) D1) (by rfl) Z ?_;refine n0a ?_;refine q8b ⟨f0,e0⟩ Z Z Z Z ?_;refine g0a f0 X1a Z Z ?_;intro g9 w9 S9 X9 G9;have r0:=Nat.le_trans c0.size G9;have x0:=e0.trans X9;replace c0:=c0.trans X9;refine S0a ⟨Z,?_⟩;refine f3a ⟨S9.tail,x0⟩ Z Z Z ?_;refine n5a (v:=.int .i64 _) Z Z ?_;refine n0a ?_;refine K7b ⟨S9.tail,x0⟩ ?_;refine d0a (kk:=0) (vs:=[_,_,_,_]) S9 h1a Z Z Z Z Z Z Z ?_;intro s1 j0 v0;dsimp only[e0a,List.set] at j0;replace c0:=c0.fresh v0 (by first|exact r0);refine S0a ⟨Z,?_⟩;refine fO0 Z U (K7a j0 (hq.keep c0.of_nil) Z Z (K1) Z (fun E0 P1 s0 g1=>?_) (fun E0 P1 s0 g1=>?_))
  ·replace c0:=c0.trans g1;refine lO s0.k [.w 2] Z ⟨⟨Z,Z⟩,U⟩ (i0a s0 Q0b Z Z (K6a p M _ _ _ (hP.keep (s0.keep0 M)) X0.1 X0.2) (fun F0 Q1 n0 P0=>?_) (fun F0 Q1 n0 P0=>?_))
   ·replace c0:=c0.trans P0;refine lU Z Z ⟨C0a (fun h=>?_),n0.fin⟩;obtain⟨b,l',e,q1,q2,q3,q4,q5,q6,q7⟩:=h;rw[d0] at e;cases e
    (rw[q3] at F0;cases F0;done)
   replace c0:=c0.trans P0;refine lB n0.k [.o 0] Z ⟨Z,U⟩ (fun B1=>?_) fun B1=>?_
   ·refine lU Z Z ⟨C0a (fun h=>?_),n0.fin⟩;obtain⟨b,l',e,q1,q2,q3,q4,q5,q6,q7⟩:=h;rw[d0] at e;cases e;omega
   refine lO n0.k [.w 2,.o 0] Z ⟨Z,⟨Z,Z⟩,U⟩ (i0a n0 x0b Z Z (J5a p M _ _ _ (hP.keep (n0.keep0 M))) (fun y0 R1 t0 i1=>?_) (fun y0 R1 t0 i1=>?_))
   ·replace c0:=c0.trans i1;refine lO t0.k [.w 2,.o 0] Z ⟨Z,⟨Z,Z⟩,U⟩ ?_;have r1:=(of_decide_eq_true y0).1;refine i0a t0 Q0b Z Z (K6a p M _ _ _ (hP.keep (t0.keep0 M)) r1.1 r1.2) (fun G0 T1 C0 Q0=>?_) (fun G0 T1 C0 Q0=>?_)
    ·replace c0:=c0.trans Q0;refine lU Z Z ⟨C0a (fun h=>?_),C0.fin⟩;obtain⟨b,l',e,q1,q2,q3,q4,q5,q6,q7⟩:=h;rw[d0] at e;cases e
     (rw[q6] at G0;cases G0;done)
    replace c0:=c0.trans Q0;refine lO C0.k [.o 1] Z ⟨Z,U⟩ ?_;refine u7a (kd:=.i64) (lo:=1) (hi:=ns) H9a.slT Z (.inr Z) (.inl ⟨Z,Z⟩) (by have:=i0.len;omega) (by have:=i0.len;omega) Z ?_;refine lC1 Z (wL (fun μk D ε w=>D=[]∧∃k:Nat,(k+μk=(l.length))∧(Y0a (l) k (fun b=>d9a p t b.cell=true∧i9a p.cells b.cell=true∧x3a b.to (d9a p t)=true))∧(x0a [] L0 w)∧St [] w0 w [(some g9,37,[.int .i64 a0.to.op,.int .i64 a0.to.w,.int .i64 a0.to.n,.slice t1 M1 A1]),(some g5,60,[.int .i64 s.kind,.int .i64 s.frm,.int .i64 s.to,.int .i64 s.guard.op,.int .i64 s.guard.w,.int .i64 s.guard.n,.slice Ag ng cg,.slice (some ⟨b0,p0,none⟩) ns S0,.bool s.release,.int .i64 s.target,.int .i64 s.module_]),(some g3,201,pL Ac nc cc Am nm cm Al nl cl At nt ct)]∧Sl ε [(3,.pointer (some ⟨g3,0,none⟩)),(7,.func (.func f) first caps),(65,.slice (some (if S0=1 then⟨b0,p0,none⟩ else⟨b0,p0+1*5,none⟩)) (ns-1) (S0-1)),(66,.int .i64 (ns-1:Nat)),(67,.int .i64 k)]) (μ:=(l.length)) ⟨Z,0,by omega,Y0a.zero,c0,C0,Z⟩ ?_);rintro μk D ε w ⟨rfl,k,_,ha,c0,S,eZ⟩;refine wK eZ (wB1 Z (fun C1=>?_) fun C1=>?_)
    ·obtain⟨a,z1,N1,_,A0,U0,_,Z0,Y0,a1⟩:=RdS.get (o1) (k) (by omega);obtain⟨_,_,_,rfl,d1,V0⟩:=V0a.open_ a1;have W0:=p1 a (by rw[d0];exact List.mem_cons_of_mem _ (c0a A0));unfold F1a at W0;refine lO (S.k.a Y0) [.x z1 N1,.v 0] Z ⟨⟨Z,Z0⟩,⟨U0,by omega⟩,U⟩ (g0a S z4b Z Z ?_);intro Y1 Z1 v1 x1 u1;have m0:=Nat.le_trans c0.size u1;replace c0:=c0.trans x1;refine d0a (kk:=0) (vs:=[_,_,_,_,_]) v1 K4b Z Z Z Z Z Z Z ?_;intro X1 q0 R0;dsimp only[e0a,List.set] at q0;replace c0:=c0.fresh R0 (by exact m0);refine lO q0.k [.o 0] Z ⟨Z,U⟩ (K7a q0 (hq.keep c0.of_nil) Z Z (d1) Z (fun H0 U1 u0 j1=>?_) (fun H0 U1 u0 j1=>?_))
     ·replace c0:=c0.trans j1;refine lO u0.k [.w 3,.o 0] Z ⟨Z,⟨Z,Z⟩,U⟩ (i0a u0 Q0b Z Z (K6a p M _ _ _ (hP.keep (u0.keep0 M)) W0.1 W0.2) (fun I0 V1 o0 m1=>?_) (fun I0 V1 o0 m1=>?_))
      ·replace c0:=c0.trans m1;refine lO o0.k [.o 0] Z ⟨Z,U⟩ (i0a o0 W8a Z Z (f7a _ M _ _ _ (d9a p t) (RdE.keep (o0.keep0 M) _ _ V0) (hq.keep c0.of_nil) (hK.keep (o0.keep0 M)) (K0 _ o0.size)) (fun J0 W1 O0 n1=>?_) (fun J0 W1 O0 n1=>?_))
       ·replace c0:=c0.trans n1;refine lP1 Z ⟨μk-1,by omega,Z,k+1,by omega,(ha.succ A0 (⟨H0,I0,J0⟩)),(c0),O0.tail,Z⟩
       refine lU Z Z ⟨C0a (fun h=>?_),O0.fin⟩;obtain⟨b,l',e,q1,q2,q3,q4,q5,q6,q7⟩:=h;rw[d0] at e;cases e
       (have q8:=q7 a (c0a A0)
        (rw[q8.2.2] at J0;cases J0;done))
      refine lU Z Z ⟨C0a (fun h=>?_),o0.fin⟩;obtain⟨b,l',e,q1,q2,q3,q4,q5,q6,q7⟩:=h;rw[d0] at e;cases e
      (have q8:=q7 a (c0a A0)
       (rw[q8.2.1] at I0;cases I0;done))
     refine lU Z Z ⟨C0a (fun h=>?_),u0.fin⟩;obtain⟨b,l',e,q1,q2,q3,q4,q5,q6,q7⟩:=h;rw[d0] at e;cases e
     (have q8:=q7 a (c0a A0)
      (rw[q8.1] at H0;cases H0;done))
    exact lU Z Z ⟨H1a ⟨a0,l,d0,D0,E0,F0,by omega,y0,G0,ha.all (by omega)⟩,S.fin⟩
   refine lU Z Z ⟨C0a (fun h=>?_),t0.fin⟩;obtain⟨b,l',e,q1,q2,q3,q4,q5,q6,q7⟩:=h;rw[d0] at e;cases e
   (rw[q5] at y0;cases y0;done)
  refine lU Z Z ⟨C0a (fun h=>?_),s0.fin⟩;obtain⟨b,l',e,q1,q2,q3,q4,q5,q6,q7⟩:=h;rw[d0] at e;cases e
  (rw[q2] at E0;cases E0;done)
 refine lU Z Z ⟨C0a (fun h=>?_),B0.fin⟩;obtain⟨b,l',e,q1,q2,q3,q4,q5,q6,q7⟩:=h;rw[d0] at e;cases e
 (rw[q1] at D0;cases D0;done)
theorem O1b(p:m0a)(t c:Int)(g g':Nat)(M:List Nat)(w0:World)(cs:LV)(vf:Value)(hP:e1a M w0 p cs)(hg:Cells w0 g 0 cs)(d0:w0.cell? ⟨g',0,none⟩=some vf)(hp:G2a prog M w0 vf (H1b p t))(hc:i64 c)(h0:0≤c∧c<p.cells.length):
 A0a prog 282 #[.int .i64 c,.pointer (some ⟨g,0,none⟩),.pointer (some ⟨g',0,none⟩)] w0 fun v w'=>v=.bool (i9a p.cells c&&H1b p t c)∧Bw w0 w':=by
 obtain⟨_,_,_,_,_,_,_,_,_,_,_,_,rfl,_⟩:=hP.open_;have S:=St.refl w0;refine a0a func282 Z ntmps282 Z ?_;refine wO1 Z ?_
 first|refine k3a K3b Z ((fun j v hj=>S.old (hg j v hj))) (by rfl) Z ?_
 refine lO1 Z (i0a S Q0b Z Z (K6a p M _ _ _ (hP.keep (S.keep0 M)) h0.1 h0.2) (fun h7 w7 S7 X7=>?_) (fun h7 w7 S7 X7=>?_))
 ·refine lO1 Z (G0a i3b Z (by first|exact S7.old d0) Z ?_);refine lO1 Z (K7a S7 (hp.keep (S7.keep0 M)) Z Z (hc) Z (fun b0 e0 a0 c0=>?_) (fun b0 e0 a0 c0=>?_))
  ·refine lU Z Z ⟨cB ?_,a0.fin⟩;rw[h7,b0]<;>rfl
  refine lU Z Z ⟨cB ?_,a0.fin⟩;rw[h7,b0]<;>rfl
 refine lU Z Z ⟨cB ?_,S7.fin⟩;rw[h7]<;>rfl
theorem B4b(l:List o3a)(q:o3a→Bool)(M:List Nat)(w0:World)(v:Value)(f:FuncId)(first caps:Array Value)(hS:d9c M w0 v l)(hH:Has prog f)
 (hf:∀w',x0a M w0 w'→∀a∈l,i64 a.cell→A0a prog f (first.toList++[Value.int .i64 a.cell]++caps.toList).toArray w' fun v s0=>v=.bool (q a)∧Below w'.heap.size w' s0) :
 A0a prog 280 #[v,.func (.func f) first caps] w0 fun v w'=>v=.bool (dec (∀a∈l,q a=true))∧Bw w0 w':=by
 obtain⟨As,ns,p0,rfl⟩:=hS.form;obtain⟨_,_⟩:=hS.len;have S:=St.refl w0;refine a0a func280 Z ntmps280 Z ?_;refine wC1 Z (wL (fun μk D ε w=>D=[]∧∃k:Nat,(k+μk=(l.length))∧(Y0a (l) k (fun a=>q a=true))∧St [] w0 w []∧Sl ε [(1,.func (.func f) first caps),(7,.slice As ns p0),(8,.int .i64 ns),(9,.int .i64 k)]) (μ:=(l.length)) ⟨Z,0,by omega,Y0a.zero,S,Z⟩ ?_);rintro μk D ε w ⟨rfl,k,_,ha,S,eZ⟩;refine wK eZ (wB1 Z (fun q0=>?_) fun q0=>?_)
 ·obtain⟨a,o0,r0,_,g0,c0,_,e0,d0,f0⟩:=RdS.get (hS) (k) (by omega);obtain⟨_,_,_,rfl,i0,_⟩:=V0a.open_ f0;refine lO (S.k.a d0) [.x o0 r0,.v 0] Z ⟨⟨Z,e0⟩,⟨c0,by omega⟩,U⟩ (g0a S z4b Z Z ?_);intro g6 w6 S6 X6 G6
  first|refine d0a (kk:=0) (vs:=[_,_,_,_,_]) S6 K4b Z Z Z Z Z Z Z ?_
  intro t0 a0 n0;dsimp only[e0a,List.set] at a0;refine lO a0.k [.o 0] Z ⟨Z,U⟩ (O6b (vs:=first.toList++[Value.int .i64 a.cell]++caps.toList) hH Z Z Z (hf _ (a0.keep0 M) a (c0a g0) i0) ?_);rintro u0 v0 ⟨rfl,m0⟩;have j0:=a0.later m0;cases b0:q a
  ·refine lU Z Z ?_;refine⟨C0a (fun h=>?_),j0.fin⟩;rw[h a (c0a g0)] at b0;cases b0;done
  refine lP1 Z ⟨μk-1,by omega,Z,k+1,by omega,(ha.succ g0 (b0)),j0.tail,Z⟩
 exact lU Z Z ⟨H1a (ha.all (by omega)),S.fin⟩
theorem k4b(p:m0a)(t:Nat)(s:i2a)(M:List Nat)(w0:World)(cs ss:LV)(h:AtX p s M w0 cs ss):
 A0a prog 272 #[.agg cs.toArray,.int .i64 t,.agg ss.toArray] w0 fun v w'=>v=.bool (dec (A4d p t s))∧Bw w0 w':=by
 obtain⟨hP,hS,F0,hK,hM⟩:=h;obtain⟨_,_,_,_,_,_,_,_,_,_,_,_,rfl,_⟩:=hP.open_;obtain⟨_,_,_,_,ns,_,rfl,⟨_,_⟩,_,d0,Q0,_⟩:=hS.open_;have S:=St.refl w0;have u0:∀w':World,w0.heap.size≤w'.heap.size→∀g∈M,g<w'.heap.size:=fun w' h g hg=>by have:=hM g hg;omega
 cases b0:s.set with
 | nil =>
   have hz:ns=0:=by rw[Q0,b0];rfl
   have P0:¬A4d p t s:=fun⟨a,l,e,_⟩=>by rw[b0] at e;cases e
   refine a0a func272 Z ntmps272 Z ?_;refine wO1 Z (o0a S Z ?_);intro g3 w3 S3 X3 G3;refine o0a S3 Z ?_;intro g5 w5 S5 X5 G5;refine lC1 Z (y0a b0a [0,1,2,3,4,5,6,7] [8] [9,10,11] Z (Cl _ _ _ _) (Cl.start S5) ?_);refine qB S5.q [.o 0] Z ⟨Z,U⟩ (fun r0=>?_) (fun r0=>by exfalso;omega);refine qN1 Z (h4a ?_);refine Q0d Z Z Z ?_;refine O1a ?_;rintro Y0 ⟨i0,I0⟩;dsimp only[V3a];exact lU Z Z ⟨C0a P0,i0.fin⟩
 | cons a0 l =>
 have N0:s.set.length=l.length+1:=by rw[b0];rfl
 have O0:a0∈s.set:=by rw[b0];simp
 have v0:=F0 a0 O0;have y0:s.set[0]?=some a0:=by rw[b0];rfl
 unfold F1a at v0;obtain⟨_,_,_,_,z0,rfl,_,_,x0,R0⟩:=RdS.get d0 0 (by omega);obtain rfl:=Option.some.inj (y0.symm.trans z0);obtain⟨_,_,_,rfl,_⟩:=V0a.open_ R0;have K0:s.set.drop 1=l:=by rw[b0];rfl
 have E0:=RdS.dropped d0 1 (by omega);rw[K0] at E0;have J0:∀a∈l,0≤a.cell∧a.cell<p.cells.length:=fun a ha=>F0 a (by rw[b0];exact List.mem_cons_of_mem _ ha);refine a0a func272 Z ntmps272 Z ?_;refine wO1 Z (o0a S Z ?_);intro g3 w3 S3 X3 G3;refine o0a S3 Z ?_;intro g5 w5 S5 X5 G5;refine lC1 Z (y0a b0a [0,1,2,3,4,5,6,7] [8] [9,10,11] Z (Cl _ _ _ _) (Cl.start S5) ?_);refine qB S5.q [.o 0] Z ⟨Z,U⟩ (fun r0=>by exfalso;omega) fun r0=>?_;refine qN S5.q [.w 0,.w 1] Z ⟨⟨Z,by rfl⟩,⟨Z,by rfl⟩,U⟩ (h4a ?_);refine z8b (fun v w=>G2a prog M w v (d9a p t)) Z Z X0b Z (fun v w w' h hk=>h.keep hk.of_nil) (fun w1 S1 X1=>m1b p t M _ _ (hP.keep (S1.keep0 M)) (u0 _ S1.size)) ?_;refine O1a ?_;rintro Y0 ⟨i0,I0⟩;rintro a1 hq;dsimp only[V3a];obtain⟨_,first,_,rfl,_⟩:=id hq;refine lO1 Z (i0a i0 w6b Z Z (Y8a s M _ _ _ (d9a p t) (n2a.keep (i0.keep0 M) _ _ hS) hq (hK.keep (i0.keep0 M)) (u0 _ i0.size)) (fun s0 S0 f0 A0=>?_) (fun s0 S0 f0 A0=>?_))
 ·replace hq:=hq.keep (A0.of_nil);refine lO f0.k [.o 0] Z ⟨Z,U⟩ (N0a H9a.slT Z (by rfl) Z Z ?_);refine lO1 Z (G0a E0a Z (by exact f0.old (x0 _ _ Z)) Z ?_);refine lO f0.k [.w 1] Z ⟨⟨Z,by rfl⟩,U⟩ (i0a f0 x0b Z Z (J5a p M _ _ _ (hP.keep (f0.keep0 M))) (fun n0 T0 m0 B0=>?_) (fun n0 T0 m0 B0=>?_))
  ·replace hq:=hq.keep (B0.of_nil);refine lO m0.k [.w 1] Z ⟨⟨Z,by rfl⟩,U⟩ (i0a m0 Q0b Z Z (K6a p M _ _ _ (hP.keep (m0.keep0 M)) v0.1 v0.2) (fun o0 U0 g0 C0=>?_) (fun o0 U0 g0 C0=>?_))
   ·replace hq:=hq.keep (C0.of_nil);refine lU Z Z ⟨C0a (fun h=>?_),g0.fin⟩;obtain⟨b,l',e,q1,q2,q3,q4⟩:=h;rw[b0] at e;cases e
    (rw[q3] at o0;cases o0;done)
   refine lO g0.k [.w 1] Z ⟨⟨Z,by rfl⟩,U⟩ (h0a g0 D7b Z Z (T7a p t M _ _ (hP.keep (g0.keep0 M)) (u0 _ g0.size)) ?_);rintro v37 V0 G0 H0 Z0;obtain⟨_,_,_,rfl,_⟩:=id G0;have e0:=x0a.refl [] V0;refine g0a H0 h7c Z Z ?_;intro g8 w8 S8 X8 G8;have j0:=Nat.le_trans e0.size G8;replace e0:=e0.trans X8;refine X0a (kk:=0) S8 T6c Z Z Z (by exact Nat.le_of_ble_eq_true Z) ?_;intro X0 c0 q0;replace e0:=e0.fresh q0 (by first|exact j0);refine lO c0.k [.o 1] Z ⟨Z,U⟩ ?_;refine u7a (kd:=.i64) (lo:=1) (hi:=ns) H9a.slT Z (.inr Z) (.inl ⟨Z,Z⟩) (by have:=d0.len;omega) (by have:=d0.len;omega) Z ?_;refine B1a Z Z ?_;refine i0a c0 q7b Z Z (B4b l (fun a=>i9a p.cells a.cell&&H1b p t a.cell) M _ _ _ _ _ (RdS.keepW E0 (c0.keep0 M) (V0a.keep (c0.keep0 M))) X8c (fun w' hk a ha L0=>O1b p t a.cell g3 g8 M w' _ _ (hP.keep ((c0.keep0 M).trans hk)) ((c0.cells 2 Z).keep hk (W4a hM (c0.new 2 Z))) (hk.cell (a:=⟨g8,0,none⟩) (W4a hM (c0.new 0 Z)) (c0.cell 0 Z Z)) (G0.keep (e0.of_nil.trans hk)) L0 (J0 a ha))) (fun t0 W0 p0 D0=>?_) (fun t0 W0 p0 D0=>?_)
   ·replace e0:=e0.trans D0;exact lU Z Z ⟨H1a ⟨a0,l,b0,Q0a s0,n0,o0,Q0a t0⟩,p0.fin⟩
   refine lU Z Z ⟨C0a (fun h=>?_),p0.fin⟩;obtain⟨b,l',e,q1,q2,q3,q4⟩:=h;rw[b0] at e;cases e;exact K0a t0 q4
  refine lU Z Z ⟨C0a (fun h=>?_),m0.fin⟩;obtain⟨b,l',e,q1,q2,q3,q4⟩:=h;rw[b0] at e;cases e
  (rw[q2] at n0;cases n0;done)
 refine lU Z Z ⟨C0a (fun h=>?_),f0.fin⟩;obtain⟨b,l',e,q1,q2,q3,q4⟩:=h;rw[b0] at e;cases e;exact K0a s0 q1
def e6b(k:Int):Nat:=if k=1 then 270 else if k=2 then 271 else if k=3 then 272 else if k=4 then 273 else if k=5 then 274 else if k=6 then 275 else 276
def v2c:Array Value:=#[.nilFunc,.func (.func 270) #[] #[],.func (.func 271) #[] #[],.func (.func 272) #[] #[],.func (.func 273) #[] #[],.func (.func 274) #[] #[],.func (.func 275) #[] #[],.func (.func 276) #[] #[]]
theorem i0c{k:Int}:Has prog (e6b k):=by
 unfold e6b
 repeat' split
 ·exact W9c
 ·exact a9c
 ·exact R8c
 ·exact J0d
 ·exact I8c
 ·exact K9c
 ·exact B2c
theorem G1c{k:Int}(h1:1≤k)(h7:k≤7):v2c.extract (k.toNat*1) (k.toNat*1+1)=#[.func (.func (e6b k)) #[] #[]]:=by
 rcases(show k=1∨k=2∨k=3∨k=4∨k=5∨k=6∨k=7 by omega) with e|e|e|e|e|e|e<;>subst e<;>rfl
theorem A5c(wz:World):A0a prog 250 #[] wz fun v w'=>v=.agg v2c∧Below wz.heap.size wz w':=by
 have S:=St.refl wz;refine a0a func250 Z ntmps250 Z ?_;refine wO1 Z (g0a S n3d Z Z ?_);intro g0 w0 S0 X0 G0;refine lO1 Z (s0a I7a (vs:=[(0,.func _ _ _)]) (cs:=[_]) Z Z Z Z ?_);refine s0a I7a (vs:=[(0,.func _ _ _)]) (cs:=[_]) Z Z Z Z ?_;refine s0a I7a (vs:=[(0,.func _ _ _)]) (cs:=[_]) Z Z Z Z ?_;refine s0a I7a (vs:=[(0,.func _ _ _)]) (cs:=[_]) Z Z Z Z ?_;refine s0a I7a (vs:=[(0,.func _ _ _)]) (cs:=[_]) Z Z Z Z ?_;refine s0a I7a (vs:=[(0,.func _ _ _)]) (cs:=[_]) Z Z Z Z ?_;refine s0a I7a (vs:=[(0,.func _ _ _)]) (cs:=[_]) Z Z Z Z ?_;refine U0a (v:=.agg v2c) (w':=w0) Z Z Z (by kernel_rfl) ?_
 first|refine d0a (kk:=0) (vs:=[_,_,_,_,_,_,_,_]) S0 M3d Z Z Z Z Z Z Z ?_
 intro c0 a0 b0;dsimp only[e0a,List.set] at a0;refine lR1 Z ?_;exact t0a (n:=8) Z (C2a (by rw[Tryz.underlying277];simp)) Z (a0.cells 0 Z) Z ⟨Z,a0.fin⟩
section
variable {P:Program} {N:Nat} {ops:Array Oper} {C:World→Prop} {rest:List Oper} {K:Env→Prop} {e:Env} {d:Nat} {t:TypeId} {p:String} {af:Array Edge} {x y:Operand} {kd:IntKind} {a:Int}
theorem y5c{ty len el size:Nat}{cs a0:Array Value}(hu:P.underlying ty=some (.array len el))(b0:∀w:World,(sizeOf el).run P w=.ok size w)(ha:∀w:World,(isAgg el).run P w=.ok true w)(hx:ev e x=.agg cs)(hy:ev e y=.int kd a)(h0:0≤a)(h1:a<len)(hv:cs.extract (a.toNat*size) (a.toNat*size+size)=a0)(hd:Nat.ble (d+1) N=true)
 (h:QL P N ops C rest K (upd e d (.agg a0))):QL P N ops C (⟨some d,.index ty x y,t,p,af,none⟩::rest) K e :=
 D2a Z Z hd (fun w _=>by simp[execOp,Instr.index,hx,hy,asIntOf,run_underlying hu,h0,h1,b0,part,ha,hv]) h
end
theorem Q8a{M:List Nat}{w:World}{g:Nat}(hM:∀g∈M,g<w.heap.size)(h:w.heap.size≤g):g∉M:=fun hh=>by have:=hM g hh;omega
theorem p3c:∀w:World,(sizeOf 276).run prog w=.ok 1 w:=fun _=>by kernel_rfl
theorem X5c:∀w:World,(isAgg 276).run prog w=.ok true w:=fun _=>by kernel_rfl
theorem S9b(c:Int)(g:Nat)(w0:World)(Ac Am Al At:Option Addr)(nc cc nm cm nl cl nt ct:Nat)(hg:Cells w0 g 0 (pL Ac nc cc Am nm cm Al nl cl At nt ct)):
 A0a prog 210 #[.int .i64 c,.pointer (some ⟨g,0,none⟩)] w0 fun v w'=>v=.bool (decide (0≤c∧c<(nm:Int)))∧Bw w0 w':=by
 have S:=St.refl w0;refine a0a func210 Z ntmps210 Z ?_;refine wO1 Z (G0a x6c Z (by first|exact S.old (hg 1 _ Z)) Z ?_);refine lO1 Z (i0a S a3a Z Z (t2a _ _ _) (fun h9 w9 S9 X9=>?_) (fun h9 w9 S9 X9=>?_))
 ·refine lR1 Z (w0a Z ?_);exact⟨by rw[h9],S9.fin⟩
 refine lR1 Z (w0a Z ?_);exact⟨by rw[h9],S9.fin⟩
theorem g0c(c a0 hd:Int)(g g':Nat)(w0:World)(hg:w0.cell? ⟨g,1,none⟩=some (.int .i64 a0))(c0:w0.cell? ⟨g',0,none⟩=some (.int .i64 hd)):
 A0a prog 213 #[.int .i64 c,.pointer (some ⟨g,0,none⟩),.pointer (some ⟨g',0,none⟩)] w0 fun v w'=>v=.bool (decide ((0≤c∧c<a0)∧c≠hd))∧Bw w0 w':=by
 have S:=St.refl w0;refine a0a func213 Z ntmps213 Z ?_;refine wO1 Z (G0a E0a Z (by exact S.old hg) Z ?_);refine i0a S a3a Z Z (t2a _ _ _) (fun h8 w8 S8 X8=>?_) (fun h8 w8 S8 X8=>?_)
 ·refine lO1 Z (G0a E0a Z (by exact S8.old c0) Z ?_);refine lB1 Z (fun b0=>?_) fun b0=>?_
  ·refine lU Z Z ⟨cB ?_,S8.fin⟩;exact(decide_eq_true ⟨of_decide_eq_true h8,by omega⟩).symm
  refine lU Z Z ⟨cB ?_,S8.fin⟩;exact(decide_eq_false fun h=>by omega).symm
 refine lU Z Z ⟨cB ?_,S8.fin⟩;exact(decide_eq_false fun h=>of_decide_eq_false h8 h.1).symm
theorem R4c(p:m0a)(t:Nat)(s:i2a)(M:List Nat)(w0:World)(cs ss:LV)(h:AtX p s M w0 cs ss)(hk:1≤s.kind∧s.kind≤7):
 A0a prog (e6b s.kind) #[.agg cs.toArray,.int .i64 t,.agg ss.toArray] w0 fun v w'=>v=.bool (dec (N2d p t s))∧Bw w0 w':=by
 unfold N2d e6b;rcases(show s.kind=1∨s.kind=2∨s.kind=3∨s.kind=4∨s.kind=5∨s.kind=6∨s.kind=7 by omega) with e|e|e|e|e|e|e<;>simp only[e,if_true,if_false,Int.reduceEq]
 ·exact Q3b p t s M w0 cs ss h
 ·exact z5b p t s M w0 cs ss h
 ·exact k4b p t s M w0 cs ss h
 ·exact K1b p t s M w0 cs ss h
 ·exact W2b p t s M w0 cs ss h
 ·exact n3b p t s M w0 cs ss h
 ·exact P9a p t s M w0 cs ss h
theorem U4c(p:m0a)(t:Nat)(x:D1a)(s:i2a)(M:List Nat)(w0:World)(cs ss ts:LV)(hP:e1a M w0 p cs)(hS:n2a M w0 ss s)(hc:X2a p)(hK:W1a M w0)(hM:∀g∈M,g<w0.heap.size)(hT:Z0a M w0 ts x)(t2:1≤x.points)(d2:x.points≤48):
 A0a prog 212 #[.agg cs.toArray,.int .i64 t,.agg ts.toArray,.agg ss.toArray] w0 fun v w'=>(∃a,v=.int .i64 a∧(a=0↔d2b p t x.points s))∧Bw w0 w':=by
 obtain⟨Ac,nc,cc,Am,nm,cm,Al,nl,cl,At,nt,ct,rfl,hC,_⟩:=hP.open_;obtain⟨Ag,ng,cg,As,ns,U0,rfl,⟨_,_⟩,hG,p1,_⟩:=hS.open_;obtain⟨V0,x1,c1,X0,A1,f1,Y0,B1,g1,W0,y1,d1,rfl,_⟩:=hT.open_;have S:=St.refl w0;have a2:∀w':World,w0.heap.size≤w'.heap.size→∀g∈M,g<w'.heap.size:=fun w' h g hg=>by have:=hM g hg;omega
 refine a0a func212 Z ntmps212 Z ?_;refine wO1 Z (o0a S Z ?_);intro g4 w4 S4 X4 G4;refine o0a S4 Z ?_;intro g6 w6 S6 X6 G6;refine o0a S6 Z ?_;intro g7 w7 S7 X7 G7;refine lCn 3 S7.k [] Z U (wX (fun D ε w=>D=[]∧∃J0:Bool,(J0=true↔s.kind=6∨s.kind=7)∧St [] w0 w [(some g7,60,[.int .i64 s.kind,.int .i64 s.frm,.int .i64 s.to,.int .i64 s.guard.op,.int .i64 s.guard.w,.int .i64 s.guard.n,.slice Ag ng cg,.slice As ns U0,.bool s.release,.int .i64 s.target,.int .i64 s.module_]),(some g6,64,[.string x.name,.int .i64 x.points,.slice V0 x1 c1,.slice X0 A1 f1,.slice Y0 B1 g1,.slice W0 y1 d1,.bool x.asleep]),(some g4,201,pL Ac nc cc Am nm cm Al nl cl At nt ct)]∧Sl ε [(1,.int .i64 t),(4,.pointer (some ⟨g4,0,none⟩)),(6,.pointer (some ⟨g6,0,none⟩)),(7,.pointer (some ⟨g7,0,none⟩)),(9,.bool J0)]) ?_ ?_)
 ·refine wB S7.k [.o 0] Z ⟨Z,U⟩ (fun T1=>?_) fun T1=>?_
  ·refine lP0 Z U ⟨Z,_,?_,S7,Z⟩;exact iff_of_true Z (by omega)
  refine lB S7.k [.o 0] Z ⟨Z,U⟩ (fun U1=>?_) fun U1=>?_
  ·refine lP0 Z U ⟨Z,_,?_,S7,Z⟩;exact iff_of_true Z (by omega)
  refine lP0 Z U ⟨Z,_,?_,S7,Z⟩;exact iff_of_false Bool.false_ne_true (by omega)
 rintro D ε w ⟨rfl,J0,s0,S,eZ⟩;refine wK eZ (wX (fun D ε w=>D=[]∧((1≤s.kind∧s.kind≤7)∧(0≤s.frm∧s.frm<x.points-1)∧(0≤s.to∧s.to<x.points)∧F1a s.module_ p.modules.length∧(s.release=true→s.kind=3)∧(s.target≠0→s.kind=6∨s.kind=7)∧s.guard.valid p.cells false=true∧s.guard.w=1)∧St [] w0 w [(some g7,60,[.int .i64 s.kind,.int .i64 s.frm,.int .i64 s.to,.int .i64 s.guard.op,.int .i64 s.guard.w,.int .i64 s.guard.n,.slice Ag ng cg,.slice As ns U0,.bool s.release,.int .i64 s.target,.int .i64 s.module_]),(some g6,64,[.string x.name,.int .i64 x.points,.slice V0 x1 c1,.slice X0 A1 f1,.slice Y0 B1 g1,.slice W0 y1 d1,.bool x.asleep]),(some g4,201,pL Ac nc cc Am nm cm Al nl cl At nt ct)]∧Sl ε [(1,.int .i64 t),(4,.pointer (some ⟨g4,0,none⟩)),(7,.pointer (some ⟨g7,0,none⟩))]) ?_ ?_)
 ·refine wB S.k [.o 0] Z ⟨Z,U⟩ (fun V1=>?_) fun V1=>?_
  ·refine lU Z Z ⟨⟨_,Z,iF (fun h=>?_)⟩,S.fin⟩
   (have z1:=h.kind;have z2:=h.frm;have z3:=h.to;have z4:=h.mod;unfold F1a at z4;have z7:=h.guard
    omega)
  refine lB S.k [.o 0] Z ⟨Z,U⟩ (fun W1=>?_) fun W1=>?_
  ·refine lU Z Z ⟨⟨_,Z,iF (fun h=>?_)⟩,S.fin⟩
   (have z1:=h.kind;have z2:=h.frm;have z3:=h.to;have z4:=h.mod;unfold F1a at z4;have z7:=h.guard
    omega)
  refine lO S.k [.o 0,.o 1] Z ⟨by omega,Z,Z,U⟩ (i0a S a3a Z Z (t2a _ _ _) (fun C0 i2 S0 N1=>?_) (fun C0 i2 S0 N1=>?_))
  ·refine lO S0.k [.o 0,.o 1] Z ⟨Z,Z,U⟩ (i0a S0 a3a Z Z (t2a _ _ _) (fun D0 j2 T0 O1=>?_) (fun D0 j2 T0 O1=>?_))
   ·refine lO T0.k [.o 0,.o 2] Z ⟨Z,Z,U⟩ (i0a T0 a3a Z Z (t2a _ _ _) (fun E0 m2 b0 P1=>?_) (fun E0 m2 b0 P1=>?_))
    ·refine lO1 Z ?_;rcases(Bool.eq_false_or_eq_true (s.release)).symm with f0|f0
     ·refine G0a E2a Z (by exact(b0.cell 0 Z Z).trans (congrArg (fun b=>some (Value.bool b)) f0)) Z ?_;refine lB b0.k [.o 0] Z ⟨Z,U⟩ (fun m1=>?_) fun m1=>?_
      ·refine lOn 1 b0.k [] Z U (T2a Z Z Z ?_);cases o0:J0
       ·refine J0a (hv:=Z) (v:=.bool _) Z ?_;refine lU Z Z ⟨⟨_,Z,iF (fun h=>?_)⟩,b0.fin⟩
        (have z1:=h.kind;have z2:=h.frm;have z3:=h.to;have z4:=h.mod;unfold F1a at z4;have z7:=h.guard
         (have z:=s0.2 (h.tgt (by omega));rw[o0] at z;cases z;done))
       refine J0a (hv:=Z) (v:=.bool _) Z ?_;refine lB b0.k [.o 0] Z ⟨Z,U⟩ (fun z0=>?_) fun z0=>?_
       ·refine lU Z Z ⟨⟨_,Z,iF (fun h=>?_)⟩,b0.fin⟩
        (have z1:=h.kind;have z2:=h.frm;have z3:=h.to;have z4:=h.mod;unfold F1a at z4;have z7:=h.guard
         omega)
       refine lO b0.k [.o 0,.o 2] Z ⟨Z,Z,U⟩ (i0a b0 b6a Z Z (N2a s.guard M _ _ _ p.cells false (RdE.keep (b0.keep0 M) _ _ hG) (hC.keep (b0.keep0 M)) (hK.keep (b0.keep0 M))) (fun d0 B0 g0 v0=>?_) (fun d0 B0 g0 v0=>?_))
       ·refine lP0 Z U ⟨Z,?_,g0,Z⟩;refine⟨⟨by omega,by omega⟩,of_decide_eq_true C0,of_decide_eq_true D0,?_,?_,?_,d0,by omega⟩
        ·have:=of_decide_eq_true E0;unfold F1a;omega
        ·intro p0;rw[p0] at f0;cases f0;done
        ·intro u1;exact s0.1 o0
       refine lU Z Z ⟨⟨_,Z,iF (fun h=>?_)⟩,g0.fin⟩
       (have z1:=h.kind;have z2:=h.frm;have z3:=h.to;have z4:=h.mod;unfold F1a at z4;have z7:=h.guard
        (rw[z7.1] at d0;cases d0;done))
      refine lB b0.k [.o 0] Z ⟨Z,U⟩ (fun z0=>?_) fun z0=>?_
      ·refine lU Z Z ⟨⟨_,Z,iF (fun h=>?_)⟩,b0.fin⟩
       (have z1:=h.kind;have z2:=h.frm;have z3:=h.to;have z4:=h.mod;unfold F1a at z4;have z7:=h.guard
        omega)
      refine lO b0.k [.o 0,.o 2] Z ⟨Z,Z,U⟩ (i0a b0 b6a Z Z (N2a s.guard M _ _ _ p.cells false (RdE.keep (b0.keep0 M) _ _ hG) (hC.keep (b0.keep0 M)) (hK.keep (b0.keep0 M))) (fun d0 B0 g0 v0=>?_) (fun d0 B0 g0 v0=>?_))
      ·refine lP0 Z U ⟨Z,?_,g0,Z⟩;refine⟨⟨by omega,by omega⟩,of_decide_eq_true C0,of_decide_eq_true D0,?_,?_,?_,d0,by omega⟩
       ·have:=of_decide_eq_true E0;unfold F1a;omega
       ·intro p0;rw[p0] at f0;cases f0;done
       ·intro u1;omega
      refine lU Z Z ⟨⟨_,Z,iF (fun h=>?_)⟩,g0.fin⟩
      (have z1:=h.kind;have z2:=h.frm;have z3:=h.to;have z4:=h.mod;unfold F1a at z4;have z7:=h.guard
       (rw[z7.1] at d0;cases d0;done))
     refine G0a E2a Z (by exact(b0.cell 0 Z Z).trans (congrArg (fun b=>some (Value.bool b)) f0)) Z ?_;refine lB b0.k [.o 0] Z ⟨Z,U⟩ (fun Y1=>?_) fun Y1=>?_
     ·refine lU Z Z ⟨⟨_,Z,iF (fun h=>?_)⟩,b0.fin⟩
      (have z1:=h.kind;have z2:=h.frm;have z3:=h.to;have z4:=h.mod;unfold F1a at z4;have z7:=h.guard
       (have z:=h.rel f0;omega))
     refine lB b0.k [.o 0] Z ⟨Z,U⟩ (fun m1=>?_) fun m1=>?_
     ·refine lOn 1 b0.k [] Z U (T2a Z Z Z ?_);cases o0:J0
      ·refine J0a (hv:=Z) (v:=.bool _) Z ?_;refine lU Z Z ⟨⟨_,Z,iF (fun h=>?_)⟩,b0.fin⟩
       (have z1:=h.kind;have z2:=h.frm;have z3:=h.to;have z4:=h.mod;unfold F1a at z4;have z7:=h.guard
        (have z:=s0.2 (h.tgt (by omega));rw[o0] at z;cases z;done))
      refine J0a (hv:=Z) (v:=.bool _) Z ?_;refine lB b0.k [.o 0] Z ⟨Z,U⟩ (fun z0=>?_) fun z0=>?_
      ·refine lU Z Z ⟨⟨_,Z,iF (fun h=>?_)⟩,b0.fin⟩
       (have z1:=h.kind;have z2:=h.frm;have z3:=h.to;have z4:=h.mod;unfold F1a at z4;have z7:=h.guard
        omega)
      refine lO b0.k [.o 0,.o 2] Z ⟨Z,Z,U⟩ (i0a b0 b6a Z Z (N2a s.guard M _ _ _ p.cells false (RdE.keep (b0.keep0 M) _ _ hG) (hC.keep (b0.keep0 M)) (hK.keep (b0.keep0 M))) (fun d0 B0 g0 v0=>?_) (fun d0 B0 g0 v0=>?_))
      ·refine lP0 Z U ⟨Z,?_,g0,Z⟩;refine⟨⟨by omega,by omega⟩,of_decide_eq_true C0,of_decide_eq_true D0,?_,?_,?_,d0,by omega⟩
       ·have:=of_decide_eq_true E0;unfold F1a;omega
       ·intro p0;omega
       ·intro u1;exact s0.1 o0
      refine lU Z Z ⟨⟨_,Z,iF (fun h=>?_)⟩,g0.fin⟩
      (have z1:=h.kind;have z2:=h.frm;have z3:=h.to;have z4:=h.mod;unfold F1a at z4;have z7:=h.guard
       (rw[z7.1] at d0;cases d0;done))
     refine lB b0.k [.o 0] Z ⟨Z,U⟩ (fun z0=>?_) fun z0=>?_
     ·refine lU Z Z ⟨⟨_,Z,iF (fun h=>?_)⟩,b0.fin⟩
      (have z1:=h.kind;have z2:=h.frm;have z3:=h.to;have z4:=h.mod;unfold F1a at z4;have z7:=h.guard
       omega)
     refine lO b0.k [.o 0,.o 2] Z ⟨Z,Z,U⟩ (i0a b0 b6a Z Z (N2a s.guard M _ _ _ p.cells false (RdE.keep (b0.keep0 M) _ _ hG) (hC.keep (b0.keep0 M)) (hK.keep (b0.keep0 M))) (fun d0 B0 g0 v0=>?_) (fun d0 B0 g0 v0=>?_))
     ·refine lP0 Z U ⟨Z,?_,g0,Z⟩;refine⟨⟨by omega,by omega⟩,of_decide_eq_true C0,of_decide_eq_true D0,?_,?_,?_,d0,by omega⟩
      ·have:=of_decide_eq_true E0;unfold F1a;omega
      ·intro p0;omega
      ·intro u1;omega
     refine lU Z Z ⟨⟨_,Z,iF (fun h=>?_)⟩,g0.fin⟩
     (have z1:=h.kind;have z2:=h.frm;have z3:=h.to;have z4:=h.mod;unfold F1a at z4;have z7:=h.guard
      (rw[z7.1] at d0;cases d0;done))
    refine lU Z Z ⟨⟨_,Z,iF (fun h=>?_)⟩,b0.fin⟩
    (have z1:=h.kind;have z2:=h.frm;have z3:=h.to;have z4:=h.mod;unfold F1a at z4;have z7:=h.guard
     (have z:=of_decide_eq_false E0;omega))
   refine lU Z Z ⟨⟨_,Z,iF (fun h=>?_)⟩,T0.fin⟩
   (have z1:=h.kind;have z2:=h.frm;have z3:=h.to;have z4:=h.mod;unfold F1a at z4;have z7:=h.guard
    (have z:=of_decide_eq_false D0;omega))
  refine lU Z Z ⟨⟨_,Z,iF (fun h=>?_)⟩,S0.fin⟩
  (have z1:=h.kind;have z2:=h.frm;have z3:=h.to;have z4:=h.mod;unfold F1a at z4;have z7:=h.guard
   (have z:=of_decide_eq_false C0;omega))
 rintro D ε w ⟨rfl,e0,S,eZ⟩;refine wK eZ (wO1 Z ?_);refine T4a (k:=3) S Z ?_;intro i1 v2 F1 r2 p2 a0;have r1:w0.heap.size≤i1:=by have:=S.size;omega
 refine lC F1.k [.o 0] Z ⟨Z,U⟩ (wL (fun μk D ε w=>D=[]∧∃k:Nat,(k+μk=(s.set.length))∧(Y0a (s.set) k (fun a=>F1a a.cell p.cells.length∧a.to.valid p.cells false=true∧a.to.w=wAt p.cells a.cell))∧(((s.set.take k).map fun c=>Value.int .i64 c.cell).Nodup)∧(g3a prog 3 w i1 (D3a ((s.set.take k).map fun c=>.int .i64 c.cell)))∧St [] w0 w [(some g7,60,[.int .i64 s.kind,.int .i64 s.frm,.int .i64 s.to,.int .i64 s.guard.op,.int .i64 s.guard.w,.int .i64 s.guard.n,.slice Ag ng cg,.slice As ns U0,.bool s.release,.int .i64 s.target,.int .i64 s.module_]),(some g6,64,[.string x.name,.int .i64 x.points,.slice V0 x1 c1,.slice X0 A1 f1,.slice Y0 B1 g1,.slice W0 y1 d1,.bool x.asleep]),(some g4,201,pL Ac nc cc Am nm cm Al nl cl At nt ct)]∧Sl ε [(1,.int .i64 t),(4,.pointer (some ⟨g4,0,none⟩)),(7,.pointer (some ⟨g7,0,none⟩)),(10,.map (some i1)),(81,.slice As ns U0),(82,.int .i64 ns),(83,.int .i64 k)]) (μ:=(s.set.length)) ⟨Z,0,by omega,Y0a.zero,(by simp),(by simpa[D3a] using a0),F1,Z⟩ ?_);rintro μk D ε w ⟨rfl,k,_,hs,hd,a0,S,eZ⟩;refine wK eZ (wB1 Z (fun Z1=>?_) fun Z1=>?_)
 ·obtain⟨a,Q1,e2,_,A0,n1,_,s1,q1,t1⟩:=RdS.get (p1) (k) (by omega);obtain⟨_,_,_,rfl,v1,o1⟩:=V0a.open_ t1;refine lO (S.k.a q1) [.x Q1 e2,.v 0] Z ⟨⟨Z,s1⟩,⟨n1,by omega⟩,U⟩ (g0a S z4b Z Z ?_);intro s2 u2 E1 M1 o2;replace a0:=a0.keep M1 (List.not_mem_nil);refine d0a (kk:=0) (vs:=[_,_,_,_,_]) E1 K4b Z Z Z Z Z Z Z ?_;intro J1 i0 I0;dsimp only[e0a,List.set] at i0;replace a0:=a0.keep I0 (fun hh=>by rw[List.mem_singleton] at hh;exact a0.ne (E1.blk 0 Z) hh);refine lO i0.k [.o 0] Z ⟨Z,U⟩ ?_;have O0:=h8b v1;refine O0b (Go.Maps.int_keyed Tryz.underlying3) Tryz.underlying244 W7a a0 Z Z O0 Z (fun b2=>?_) fun H1=>?_
  ·refine lO1 Z (g0a i0 W7a Z Z ?_);intro R1 g2 F0 a1 K1;replace a0:=a0.keep a1 (List.not_mem_nil);refine d0a (kk:=0) (vs:=[]) F0 G2b Z Z Z Z Z Z Z ?_;intro Q0 c0 n0;dsimp only[e0a,List.set] at c0;replace a0:=a0.keep n0 (fun hh=>by rw[List.mem_singleton] at hh;exact a0.ne (F0.blk 0 Z) hh);refine lU Z Z ⟨⟨_,Z,iF (fun h=>?_)⟩,c0.fin⟩;exact absurd b2 (H4a (f:=fun(c:o3a)=>Value.int .i64 c.cell) (h.once.imp fun h e=>h (by injection e)) A0)
  refine lO1 Z (g0a i0 W7a Z Z ?_);intro R1 g2 F0 a1 K1;replace a0:=a0.keep a1 (List.not_mem_nil);refine d0a (kk:=0) (vs:=[]) F0 G2b Z Z Z Z Z Z Z ?_;intro Q0 c0 n0;dsimp only[e0a,List.set] at c0;replace a0:=a0.keep n0 (fun hh=>by rw[List.mem_singleton] at hh;exact a0.ne (F0.blk 0 Z) hh);refine lO c0.k [.o 1,.o 4] Z ⟨Z,Z,U⟩ (i0a c0 a3a Z Z (t2a _ _ _) (fun x0 D1 q0 H0=>?_) (fun x0 D1 q0 H0=>?_))
  ·replace a0:=a0.keep H0 (List.not_mem_nil);refine lO q0.k [.o 1] Z ⟨Z,U⟩ (s0a R2b (vs:=[]) (cs:=[]) Z Z Z Z ?_);have q2:=of_decide_eq_true x0;refine Y9a (key:=.int .i64 a.cell) q0 (Go.Maps.int_keyed Tryz.underlying3) Tryz.underlying244 a0 Z Z Z O0 (.inl r1) ?_;intro wm Sm Xm Mm;clear a0;have a0:=Mm H1;refine lC1 Z (y0a b0a [0,1,2,3,4,5,6,7,8,9,10,11,12,13,14,15,16,17,18,19,20] [] [] Z (Cl _ _ _ _) (Cl.start Sm) ?_);obtain⟨c,b1,C1,_,I1,K0,_,_,L0,P0⟩:=RdS.get (hC) (a.cell.toNat) (by omega);obtain⟨rfl,_⟩:=P2a.open_ P0;refine qB (Sm.q.a L0) [.o 1,.o 4,.o 1,.x b1 C1,.f 0 1] Z ⟨Z,⟨K0,by omega⟩,Z,Z,Z,U⟩ (fun j1=>?_) fun j1=>?_
   ·refine lV Z ?_;rintro R0 ⟨j0,r0⟩;replace a0:=a0.keep r0 (List.not_mem_nil);refine lU Z Z ⟨⟨_,Z,iF (fun h=>?_)⟩,j0.fin⟩
    (have q:=(h.set a (c0a A0)).2.2;rw[c5a I1] at q;omega)
   refine qO Sm.q [.o 1,.o 4] Z ⟨Z,Z,U⟩ (H2a b6a Z Z (fun w1 S1 X1=>N2a a.to M _ _ _ p.cells false (RdE.keep (S1.keep0 M) _ _ o1) (hC.keep (S1.keep0 M)) (hK.keep (S1.keep0 M))) (fun y0=>?_) fun y0=>?_)
   ·refine lV Z ?_;rintro R0 ⟨j0,r0⟩;replace a0:=a0.keep r0 (List.not_mem_nil);refine lP1 Z ?_;refine⟨μk-1,by omega,Z,k+1,by omega,(hs.succ A0 (⟨by unfold F1a;omega,y0,by rw[c5a I1];omega⟩)),?_,((by rw[u0a A0,List.map_append];exact a0)),j0.tail.tail,Z⟩;rw[u0a A0,List.map_append,List.map_singleton,List.nodup_append];exact⟨hd,by simp,fun a ha b hb he=>by rw[List.mem_singleton.1 hb] at he;exact H1 (he▸ha)⟩
   refine lV Z ?_;rintro R0 ⟨j0,r0⟩;refine lU Z Z ⟨⟨_,Z,iF (fun h=>?_)⟩,j0.fin⟩
   (have q:=(h.set a (c0a A0)).2.1;rw[y0] at q;cases q;done)
  refine lU Z Z ⟨⟨_,Z,iF (fun h=>?_)⟩,q0.fin⟩
  (have q:=(h.set a (c0a A0)).1;unfold F1a at q;have q5:=of_decide_eq_false x0;omega)
 have t0:=hs.all (show s.set.length≤k by omega);have N0:=e0.1;refine lC1 Z (y0a b0a [0,1,2,3,4,5,6,7] [] [8,9] Z (Cl _ _ _ _) (Cl.start S) ?_);refine k1a B0d Z Z (fun w1 S1 X1=>A5c _) ?_;refine qO S.q [.o 0] Z ⟨Z,U⟩ (y5c Tryz.underlying277 p3c X5c Z Z (by omega) (by omega) (G1c (by omega) (by omega)) Z ?_);refine qN S.q [.w 2,.w 0] Z ⟨⟨Z,Z⟩,⟨Z,Z⟩,U⟩ (h4a ?_);refine O1a ?_;rintro n2 ⟨m0,_⟩;refine M7a i0c Z Z Z (R4c p t s M _ _ _ ⟨hP.keep (m0.keep0 M),n2a.keep (m0.keep0 M) _ _ hS,fun a ha=>(t0 a ha).1,hK.keep (m0.keep0 M),a2 _ m0.size⟩ N0) ?_;rintro f2 h2 ⟨rfl,Z0⟩;have G0:=m0.later Z0;have G1:=d6c (t:=t) hc e0.2.2.2.2.2.2.1 (fun a ha=>⟨(t0 a ha).1,(t0 a ha).2.1⟩) N0;cases u0:dec (N2d p t s)
 ·refine lU Z Z ⟨⟨_,Z,iF (fun h=>?_)⟩,G0.fin⟩;exact K0a u0 (G1.2 h.row)
 refine lU Z Z ⟨⟨_,Z,iff_of_true (by omega) ⟨e0.1,e0.2.1,e0.2.2.1,e0.2.2.2.1,e0.2.2.2.2.1,e0.2.2.2.2.2.1,e0.2.2.2.2.2.2,t0,?_,G1.1 (Q0a u0)⟩⟩,G0.fin⟩;rw[List.take_of_length_le (by omega)] at hd;exact(List.pairwise_map.1 hd).imp fun h e=>h (by rw[e])
def T4d(nm:Nat)(c:Int):Bool:=decide (0≤c∧c<(nm:Int))
def V9c(pts hd c:Int):Bool:=decide ((0≤c∧c<pts)∧c≠hd)
theorem A5b{g:Nat}{M:List Nat}{w0:World}{Ac Am Al At:Option Addr}{nc cc nm cm nl cl nt ct:Nat}(hg:Cells w0 g 0 (pL Ac nc cc Am nm cm Al nl cl At nt ct))(hM:g∉M):
 G2a prog M w0 (.func (.func 210) #[] #[.pointer (some ⟨g,0,none⟩)]) (T4d nm) :=
 ⟨_,_,_,Z,h8c,fun w' hk c _=>S9b c g w' Ac Am Al At nc cc nm cm nl cl nt ct (hg.keep hk hM)⟩
theorem N5b{g g':Nat}{M:List Nat}{w0:World}{a0 hd:Int}(hg:w0.cell? ⟨g,1,none⟩=some (.int .i64 a0))(c0:w0.cell? ⟨g',0,none⟩=some (.int .i64 hd))(hM:g∉M)(b0:g'∉M):
 G2a prog M w0 (.func (.func 213) #[] #[.pointer (some ⟨g,0,none⟩),.pointer (some ⟨g',0,none⟩)]) (V9c a0 hd) :=
 ⟨_,_,_,Z,m1d,fun w' hk c _=>g0c c a0 hd g g' w' (hk.cell (a:=⟨g,1,none⟩) hM hg) (hk.cell (a:=⟨g',0,none⟩) b0 c0)⟩
def a4b(k:Nat):Nat:=if k=0 then 152 else if k=1 then 153 else 154
def c7b(cs:Array Value):Array Value:=#[.func (.func 152) #[.agg cs] #[],.func (.func 153) #[.agg cs] #[],.func (.func 154) #[.agg cs] #[]]
theorem N9b{cs:Array Value}{k:Nat}(h:k<3):(c7b cs)[(k:Int).toNat]?=some (.func (.func (a4b k)) #[.agg cs] #[]):=by
 rcases(show k=0∨k=1∨k=2 by omega) with e|e|e<;>subst e<;>rfl
theorem u7b{k:Nat}:Has prog (a4b k):=by
 unfold a4b
 repeat' split
 ·exact O0d
 ·exact r9c
 ·exact u0d
theorem x9b(p:m0a)(t:Nat)(x:D1a)(b:Nat)(l:LV)(M:List Nat)(w0:World)(cs ts:LV)(hP:e1a M w0 p cs)(hT:Z0a M w0 ts x)(hN:n8a p)(hc:X2a p)(hL:X1c p)(hK:W1a M w0)(hM:∀g∈M,g<w0.heap.size)(hb:b∈M)
 (hx:p.threads[t]?=some x) (hm:g3a prog 9 w0 b (D3a l)) :
 A0a prog 155 #[.agg cs.toArray,.int .i64 t,.agg ts.toArray,.map (some b)] w0 fun v w'=>(∃a c,v=.tuple #[.int .i64 a,.int .i64 c]∧(a=0↔p5a p t x∧Value.string x.name∉l)∧(a=0→g3a prog 9 w' b (D3a (l++[.string x.name]))))∧H0a [b] w0 w':=by
 obtain⟨Ac,nc,cc,Am,nm,cm,Al,nl,cl,At,nt,ct,rfl,hC,_⟩:=hP.open_;obtain⟨S0,P0,X0,c1,H1,f1,U0,R0,Z0,T0,Q0,Y0,rfl,_,p1,w1,x1,s1,_⟩:=hT.open_;have S:=St.reflM [b] w0;have b0:∀g∈[b],g∈M:=fun g hg=>by rw[List.mem_singleton] at hg;subst hg;exact hb
 have E0:∀w':World,w0.heap.size≤w'.heap.size→∀g∈M,g<w'.heap.size:=fun w' h g hg=>by have:=hM g hg;omega
 have b2:=hL.2.2.2.2 x (c0a hx);have f2:x.name.size≤140737488355328:=hN.threads x (c0a hx);refine a0a func155 Z ntmps155 Z ?_;refine wO1 Z (o0a S Z ?_);intro g4 w4 S4 X4 G4;replace hm:=hm.keep X4 (List.not_mem_nil);refine o0a S4 Z ?_;intro g6 w6 S6 X6 G6;replace hm:=hm.keep X6 (List.not_mem_nil);refine lO S6.k [.o 0] Z ⟨Z,U⟩ (i0a S6 M3b Z Z (p8a _ _ f2) (fun g1 I2 V0 W1=>?_) (fun g1 I2 V0 W1=>?_))
 ·replace hm:=hm.keep W1 (List.not_mem_nil);refine lO V0.k [.o 0] Z ⟨Z,U⟩ ?_;have E2:w0.heap.size≤g6:=by have:=S4.size;omega
  refine a2a h4b Z Z (r8a b _ x.name _ hm f2) ?_;rintro v28 T2 ⟨⟨z28,rfl,O0⟩,n2,s2⟩;have j0:=V0.turned hm (.inr (by simp)) n2;clear hm;cases J0:z28
  ·refine B0a (hv:=Z) (v:=.bool _) Z ?_;have d2:Value.string x.name∉l:=fun hh=>absurd (O0.2 hh) (by rw[J0];decide);have hm:=s2 d2;refine lB j0.k [.o 0] Z ⟨Z,U⟩ (fun x2=>?_) fun x2=>?_
   ·refine lT1 Z Z ⟨⟨_,_,Z,iF (fun hh=>?_),fun he=>absurd he (by omega)⟩,j0.below⟩;obtain⟨h,hn⟩:=hh;have q1:=h.points;have q2:=h.asserts;have q3:=h.nmod;omega
   refine lB j0.k [.o 0,.o 0] Z ⟨Z,Z,U⟩ (fun y2=>?_) fun y2=>?_
   ·refine lT1 Z Z ⟨⟨_,_,Z,iF (fun hh=>?_),fun he=>absurd he (by omega)⟩,j0.below⟩;obtain⟨h,hn⟩:=hh;have q1:=h.points;have q2:=h.asserts;have q3:=h.nmod;omega
   refine lB j0.k [.o 0,.o 0] Z ⟨Z,Z,U⟩ (fun z2=>?_) fun z2=>?_
   ·refine lT1 Z Z ⟨⟨_,_,Z,iF (fun hh=>?_),fun he=>absurd he (by omega)⟩,j0.below⟩;obtain⟨h,hn⟩:=hh;have q1:=h.points;have q2:=h.asserts;have q3:=h.nmod;omega
   refine lO j0.k [.o 0] Z ⟨Z,U⟩ (B1a Z Z ?_);refine i0a j0 y9a Z Z (W5a M _ _ _ x.modules (T4d nm) (w1.keep (j0.keepM.mono b0)) (A5b (j0.cells 1 Z) (Q8a hM G4)) (E0 _ j0.size)) (fun a1 J2 D0 X1=>?_) (fun a1 J2 D0 X1=>?_)
   ·replace hm:=hm.keep X1 (List.not_mem_nil);refine lO D0.k [.w 1] Z ⟨⟨Z,Z⟩,U⟩ (h0a D0 D7b Z Z (T7a p t M _ _ (hP.keep (D0.keepM.mono b0)) (E0 _ D0.size)) ?_);rintro v53 b1 hq Q1 t2;replace hm:=hm.keep t2 (List.not_mem_nil);obtain⟨f,first,caps,rfl,_⟩:=id hq;have a0:=x0a.refl [] b1;refine lC Q1.k [.o 0] Z ⟨Z,U⟩ (wL (fun μk D ε w=>D=[]∧∃k:Nat,(k+μk=(x.asserts.length))∧(Y0a (x.asserts) k (fun e=>n6a p.cells e false t))∧(g3a prog 9 w b (D3a (l++[.string x.name])))∧(x0a [] b1 w)∧St [b] w0 w [(some g6,64,[.string x.name,.int .i64 x.points,.slice S0 P0 X0,.slice c1 H1 f1,.slice U0 R0 Z0,.slice T0 Q0 Y0,.bool x.asleep]),(some g4,201,pL Ac nc cc Am nm cm Al nl cl At nt ct)]∧Sl ε [(1,.int .i64 t),(4,.pointer (some ⟨g4,0,none⟩)),(6,.pointer (some ⟨g6,0,none⟩)),(10,.func (.func f) first caps),(55,.slice S0 P0 X0),(56,.int .i64 P0),(57,.int .i64 k)]) (μ:=(x.asserts.length)) ⟨Z,0,by omega,Y0a.zero,hm,a0,Q1,Z⟩ ?_);rintro μk D ε w ⟨rfl,k,hk,Z1,hm,a0,S,eZ⟩;refine wK eZ (wB1 Z (fun A2=>?_) fun A2=>?_)
    ·obtain⟨e,u2,F2,_,g2,m1,t1,C1,z1,K0⟩:=RdS.get (p1) (k) (by omega);obtain⟨_,_,_,rfl,_⟩:=RdE.cells K0;refine lO (S.k.b (z1.keep (S.keepM.mono b0) t1)) [.x u2 F2,.v 0] Z ⟨⟨Z,C1⟩,⟨m1,by omega⟩,U⟩ (g0a S X1a Z Z ?_);intro N2 Q2 N1 T1 o2;have y0:=Nat.le_trans a0.size o2;replace a0:=a0.trans T1;replace hm:=hm.keep T1 (List.not_mem_nil);refine d0a (kk:=0) (vs:=[_,_,_,_]) N1 h1a Z Z Z Z Z Z Z ?_;intro i2 d0 u0;dsimp only[e0a,List.set] at d0;replace a0:=a0.fresh u0 (by first|exact y0);replace hm:=hm.keep u0 (fun hh=>by rw[List.mem_singleton] at hh;exact hm.ne (N1.blk 0 Z) hh);refine lO d0.k [.w 2,.w 0] Z ⟨⟨Z,by rfl⟩,⟨Z,Z⟩,U⟩ (i0a d0 F1b Z Z (h1b p e M _ _ _ false _ (H1b p t) (hP.keep (d0.keepM.mono b0)) (RdE.keep (d0.keepM.mono b0) _ _ K0) (hq.keep a0.of_nil) (hK.keep (d0.keepM.mono b0)) (E0 _ d0.size)) (fun i1 K2 d1 G0=>?_) (fun i1 K2 d1 G0=>?_))
     ·replace a0:=a0.trans G0;replace hm:=hm.keep G0 (List.not_mem_nil);refine lP1 Z ⟨μk-1,by omega,Z,k+1,by omega,(Z1.succ g2 ((D2b hc).1 (Q0a i1))),(hm),(a0),d1.tail,Z⟩
     replace a0:=a0.trans G0;replace hm:=hm.keep G0 (List.not_mem_nil);refine lT1 Z Z ⟨⟨_,_,Z,iF (fun hh=>?_),fun he=>absurd he (by omega)⟩,d1.below⟩;obtain⟨h,hn⟩:=hh;have q1:=h.points;have q2:=h.asserts;have q3:=h.nmod;exact K0a i1 ((D2b hc).2 (h.truth e (c0a g2)))
    refine lC S.k [.o 0] Z ⟨Z,U⟩ (wL (fun μk D ε w=>D=[]∧∃k:Nat,(k+μk=(x.steps.length))∧(Y0a (x.steps) k (fun s=>d2b p t x.points s))∧(g3a prog 9 w b (D3a (l++[.string x.name])))∧(x0a [] b1 w)∧St [b] w0 w [(some g6,64,[.string x.name,.int .i64 x.points,.slice S0 P0 X0,.slice c1 H1 f1,.slice U0 R0 Z0,.slice T0 Q0 Y0,.bool x.asleep]),(some g4,201,pL Ac nc cc Am nm cm Al nl cl At nt ct)]∧Sl ε [(1,.int .i64 t),(4,.pointer (some ⟨g4,0,none⟩)),(6,.pointer (some ⟨g6,0,none⟩)),(10,.func (.func f) first caps),(68,.slice U0 R0 Z0),(69,.int .i64 R0),(70,.int .i64 k)]) (μ:=(x.steps.length)) ⟨Z,0,by omega,Y0a.zero,hm,a0,S,Z⟩ ?_);rintro μk D ε w ⟨rfl,k,hk,e2,hm,a0,S,eZ⟩;refine wK eZ (wB1 Z (fun B2=>?_) fun B2=>?_)
    ·obtain⟨s,v2,G2,_,h2,n1,u1,D1,A1,L0⟩:=RdS.get (x1) (k) (by omega);obtain⟨_,_,_,_,_,_,rfl,⟨_,_⟩,_⟩:=n2a.open_ L0;refine lO (S.k.b (A1.keep (S.keepM.mono b0) u1)) [.x v2 G2,.v 0] Z ⟨⟨Z,D1⟩,⟨n1,by omega⟩,U⟩ (g0a S Y0d Z Z ?_);intro O2 R2 O1 U1 p2;have z0:=Nat.le_trans a0.size p2;replace a0:=a0.trans U1;replace hm:=hm.keep U1 (List.not_mem_nil);refine lO1 Z (d0a (kk:=0) (vs:=[_,_,_,_,_,_,_,_,_,_,_]) O1 t1d Z Z Z Z Z Z Z ?_);intro j2 c0 v0;dsimp only[e0a,List.set] at c0;replace a0:=a0.fresh v0 (by first|exact z0);replace hm:=hm.keep v0 (fun hh=>by rw[List.mem_singleton] at hh;exact hm.ne (O1.blk 0 Z) hh);refine lO c0.k [.w 2,.w 1,.w 0] Z ⟨⟨Z,by rfl⟩,⟨Z,Z⟩,⟨Z,Z⟩,U⟩ (h0a c0 q0d Z Z (U4c p t x s M _ _ _ _ (hP.keep (c0.keepM.mono b0)) (n2a.keep (c0.keepM.mono b0) _ _ L0) hc (hK.keep (c0.keepM.mono b0)) (E0 _ c0.size) (Z0a.keep (c0.keepM.mono b0) _ _ hT) (by omega) (by omega)) ?_);rintro P2 U2 ⟨_,rfl,N0⟩ R1 Y1;replace a0:=a0.trans Y1;replace hm:=hm.keep Y1 (List.not_mem_nil);refine lB1 Z (fun C2=>?_) fun C2=>?_
     ·refine lT1 Z Z ⟨⟨_,_,Z,iF (fun hh=>?_),fun he=>absurd he (by omega)⟩,R1.below⟩;obtain⟨h,hn⟩:=hh;have q1:=h.points;have q2:=h.asserts;have q3:=h.nmod
      (have z:=N0.2 (h.steps s (c0a h2));omega)
     refine lP1 Z ⟨μk-1,by omega,Z,k+1,by omega,(e2.succ h2 (N0.1 (by omega))),(hm),(a0),R1.tail,Z⟩
    refine lC S.k [.o 0] Z ⟨Z,U⟩ (wL (fun μk D ε w=>D=[]∧∃k:Nat,(k+μk=(x.loops.length))∧(Y0a (x.loops) k (fun l=>M7b p t x.points l))∧(g3a prog 9 w b (D3a (l++[.string x.name])))∧(x0a [] b1 w)∧St [b] w0 w [(some g6,64,[.string x.name,.int .i64 x.points,.slice S0 P0 X0,.slice c1 H1 f1,.slice U0 R0 Z0,.slice T0 Q0 Y0,.bool x.asleep]),(some g4,201,pL Ac nc cc Am nm cm Al nl cl At nt ct)]∧Sl ε [(4,.pointer (some ⟨g4,0,none⟩)),(6,.pointer (some ⟨g6,0,none⟩)),(10,.func (.func f) first caps),(86,.slice T0 Q0 Y0),(87,.int .i64 Q0),(88,.int .i64 k)]) (μ:=(x.loops.length)) ⟨Z,0,by omega,Y0a.zero,hm,a0,S,Z⟩ ?_);rintro μk D ε w ⟨rfl,k,hk,a2,hm,a0,S,eZ⟩;refine wK eZ (wB1 Z (fun D2=>?_) fun D2=>?_)
    ·obtain⟨lp,w2,H2,_,i0,o1,v1,E1,B1,G1⟩:=RdS.get (s1) (k) (by omega);obtain⟨_,_,_,_,_,_,rfl,_,H0,I0,_⟩:=H5a.open_ G1;refine lO (S.k.b (B1.keep (S.keepM.mono b0) v1)) [.x w2 H2,.v 0] Z ⟨⟨Z,E1⟩,⟨o1,by omega⟩,U⟩ (g0a S A6c Z Z ?_);intro g17 S2 P1 V1 r2;have A0:=Nat.le_trans a0.size r2;replace a0:=a0.trans V1;replace hm:=hm.keep V1 (List.not_mem_nil);refine d0a (kk:=0) (vs:=[_,_,_,_,_,_]) P1 M6c Z Z Z Z Z Z Z ?_;intro m2 m0 x0;dsimp only[e0a,List.set] at m0;replace a0:=a0.fresh x0 (by first|exact A0);replace hm:=hm.keep x0 (fun hh=>by rw[List.mem_singleton] at hh;exact hm.ne (P1.blk 0 Z) hh);refine lO1 Z (B1a Z Z ?_);refine lO m0.k [.o 0,.o 1] Z ⟨Z,Z,U⟩ (i0a m0 a3a Z Z (t2a _ _ _) (fun j1 L2 F0 W0=>?_) (fun j1 L2 F0 W0=>?_))
     ·replace a0:=a0.trans W0;replace hm:=hm.keep W0 (List.not_mem_nil);refine lO F0.k [.o 0] Z ⟨Z,U⟩ (i0a F0 m7b Z Z (u5a M _ _ _ (H0.keep (F0.keepM.mono b0))) (fun C0 I1 e0 n0=>?_) (fun C0 I1 e0 n0=>?_))
      ·replace a0:=a0.trans n0;replace hm:=hm.keep n0 (List.not_mem_nil);refine lO e0.k [.o 0] Z ⟨Z,U⟩ ?_;have r1:w0.heap.size≤g17:=by have:=S.size;omega
       refine i0a e0 y9a Z Z (W5a M _ _ _ lp.body (V9c x.points lp.head) (H0.keep (e0.keepM.mono b0)) (N5b (e0.cell 1 Z Z) (e0.cell 0 Z Z) (Q8a hM E2) (Q8a hM r1)) (E0 _ e0.size)) (fun r0 J1 f0 o0=>?_) (fun r0 J1 f0 o0=>?_)
       ·replace a0:=a0.trans o0;replace hm:=hm.keep o0 (List.not_mem_nil);refine lO f0.k [.o 0,.o 2] Z ⟨Z,Z,U⟩ (i0a f0 b6a Z Z (N2a lp.variant M _ _ _ p.cells false (RdE.keep (f0.keepM.mono b0) _ _ I0) (hC.keep (f0.keepM.mono b0)) (hK.keep (f0.keepM.mono b0))) (fun s0 K1 g0 p0=>?_) (fun s0 K1 g0 p0=>?_))
        ·replace a0:=a0.trans p0;replace hm:=hm.keep p0 (List.not_mem_nil);refine lO g0.k [.o 0] Z ⟨Z,U⟩ (i0a g0 W8a Z Z (f7a lp.variant M _ _ _ (H1b p t) (RdE.keep (g0.keepM.mono b0) _ _ I0) (hq.keep a0.of_nil) (hK.keep (g0.keepM.mono b0)) (E0 _ g0.size)) (fun t0 M1 B0 q0=>?_) (fun t0 M1 B0 q0=>?_))
         ·replace a0:=a0.trans q0;replace hm:=hm.keep q0 (List.not_mem_nil);refine lP1 Z ?_;refine⟨μk-1,by omega,Z,k+1,by omega,(a2.succ i0 (⟨of_decide_eq_true j1,Q0a C0,fun c y1=>(by have z:=of_decide_eq_true (p:=(0≤c∧c<x.points)∧c≠lp.head) (List.all_eq_true.1 r0 c y1);omega),s0,(F7a hc s0).1 t0⟩)),(hm),(a0),B0.tail,Z⟩
         replace hm:=hm.keep q0 (List.not_mem_nil);refine lT1 Z Z ⟨⟨_,_,Z,iF (fun hh=>?_),fun he=>absurd he (by omega)⟩,B0.below⟩;obtain⟨h,hn⟩:=hh;have q1:=h.points;have q2:=h.asserts;have q3:=h.nmod
         (have zl:=h.loops lp (c0a i0)
          (have z:=(F7a hc zl.variant.1).2 zl.variant.2;rw[z] at t0;cases t0;done))
        replace hm:=hm.keep p0 (List.not_mem_nil);refine lT1 Z Z ⟨⟨_,_,Z,iF (fun hh=>?_),fun he=>absurd he (by omega)⟩,g0.below⟩;obtain⟨h,hn⟩:=hh;have q1:=h.points;have q2:=h.asserts;have q3:=h.nmod
        (have zl:=h.loops lp (c0a i0)
         (have z:=zl.variant.1;rw[s0] at z;cases z;done))
       replace hm:=hm.keep o0 (List.not_mem_nil);refine lT1 Z Z ⟨⟨_,_,Z,iF (fun hh=>?_),fun he=>absurd he (by omega)⟩,f0.below⟩;obtain⟨h,hn⟩:=hh;have q1:=h.points;have q2:=h.asserts;have q3:=h.nmod
       (have zl:=h.loops lp (c0a i0)
        (have z:lp.body.all (V9c x.points lp.head)=true:=List.all_eq_true.2 fun c y1=>decide_eq_true (by have:=zl.body c y1;omega)
         rw[z] at r0;cases r0;done))
      replace hm:=hm.keep n0 (List.not_mem_nil);refine lT1 Z Z ⟨⟨_,_,Z,iF (fun hh=>?_),fun he=>absurd he (by omega)⟩,e0.below⟩;obtain⟨h,hn⟩:=hh;have q1:=h.points;have q2:=h.asserts;have q3:=h.nmod
      (have zl:=h.loops lp (c0a i0)
       exact K0a C0 zl.up)
     replace hm:=hm.keep W0 (List.not_mem_nil);refine lT1 Z Z ⟨⟨_,_,Z,iF (fun hh=>?_),fun he=>absurd he (by omega)⟩,F0.below⟩;obtain⟨h,hn⟩:=hh;have q1:=h.points;have q2:=h.asserts;have q3:=h.nmod
     (have zl:=h.loops lp (c0a i0)
      exact of_decide_eq_false j1 zl.head)
    refine lT1 Z Z ⟨⟨_,_,Z,iff_of_true (by omega) ⟨⟨Q0a g1,⟨by omega,by omega⟩,b2.2.1,b2.2.2,by omega,by omega,fun m F1=>?_,Z1.all (by omega),e2.all (by omega),a2.all (by omega)⟩,d2⟩,fun _=>hm⟩,S.below⟩;have z:=of_decide_eq_true (p:=0≤m∧m<(nm:Int)) (List.all_eq_true.1 a1 m F1);unfold F1a;omega
   refine lT1 Z Z ⟨⟨_,_,Z,iF (fun hh=>?_),fun he=>absurd he (by omega)⟩,D0.below⟩;obtain⟨h,hn⟩:=hh;have q1:=h.points;have q2:=h.asserts;have q3:=h.nmod
   (have z:x.modules.all (T4d nm)=true:=List.all_eq_true.2 fun m F1=>decide_eq_true (by have:=h.modules m F1;unfold F1a at this;omega)
    rw[z] at a1;cases a1;done)
  refine B0a (hv:=Z) (v:=.bool _) Z ?_;refine lT1 Z Z ⟨⟨_,_,Z,iF (fun hh=>?_),fun he=>absurd he (by omega)⟩,j0.below⟩;obtain⟨h,hn⟩:=hh;have q1:=h.points;have q2:=h.asserts;have q3:=h.nmod;exact hn (O0.1 J0)
 refine lT1 Z Z ⟨⟨_,_,Z,iF (fun hh=>?_),fun he=>absurd he (by omega)⟩,V0.below⟩;obtain⟨h,hn⟩:=hh;have q1:=h.points;have q2:=h.asserts;have q3:=h.nmod;exact K0a g1 h.name
def Y8b(p:m0a)(k:Nat):Prop:=if k=0 then f9a p else if k=1 then k5b p else e1b p
theorem k3c(k:Nat)(hk:k<3)(p:m0a)(M:List Nat)(w0:World)(cs:LV)(hP:e1a M w0 p cs)(hN:n8a p)(hc:1≤k→f9a p)(hK:W1a M w0)(hM:∀g∈M,g<w0.heap.size):
 A0a prog (a4b k) #[.agg cs.toArray] w0 fun v w'=>(∃a,v=.int .i64 a∧(a=0↔Y8b p k))∧Bw w0 w':=by
 rcases(show k=0∨k=1∨k=2 by omega) with e|e|e<;>subst e
 ·exact C3c p M w0 cs hP hN
 ·exact p6b p M w0 cs hP hN (hc (by omega)).1 hK hM
 ·exact X0c p M w0 cs hP (hc (by omega)).1 hK hM
theorem C4b(p:m0a)(M:List Nat)(w0:World)(cs:LV)(hP:e1a M w0 p cs)(hN:n8a p)(hK:W1a M w0)(hM:∀g∈M,g<w0.heap.size):
 A0a prog 100 #[.agg cs.toArray] w0 fun v w'=>(∃a b c,v=.tuple #[.int .i64 a,.int .i64 b,.int .i64 c]∧(a=0↔W0a p)∧(a=0→b=-1∧c=-1))∧Bw w0 w':=by
 obtain⟨Ac,nc,cc,Am,nm,cm,Al,nl,cl,At,nt,ct,rfl,_,_,_,R0,_⟩:=hP.open_;have S:=St.refl w0;have C0:∀w':World,w0.heap.size≤w'.heap.size→∀g∈M,g<w'.heap.size:=fun w' h g hg=>by have:=hM g hg;omega
 refine a0a func100 Z ntmps100 Z ?_;refine wO1 Z (o0a S Z ?_);intro g1 w1 S1 X1 G1;refine lO S1.k [.w 0] Z ⟨⟨Z,Z⟩,U⟩ (s0a X0d (vs:=[(0,.agg _)]) (cs:=[_,_,_,_]) Z Z Z Z ?_);refine g0a S1 P1d Z Z ?_;intro g5 w5 S5 X5 G5;refine d0a (kk:=0) (vs:=[_,_,_,_]) S5 C2d Z Z Z Z Z Z Z ?_;intro U0 e0 J0;dsimp only[e0a,List.set] at e0;refine lO e0.k [.w 0] Z ⟨⟨Z,Z⟩,U⟩ (h0a e0 E8c Z Z (H9b p M _ _ (hP.keep (e0.keep0 M))) ?_);rintro v20 V0 ⟨_,_,rfl,d0⟩ j0 Y0;refine lB1 Z (fun L0=>?_) fun L0=>?_
 ·refine lR1 Z (Q1b Z ?_);refine⟨⟨_,_,_,Z,iF (fun h=>?_),fun h=>absurd h (by omega)⟩,j0.fin⟩;have z1:=d0.2 (L9a h);omega
 refine lO j0.k [.w 0] Z ⟨⟨Z,Z⟩,U⟩ (s2a Z Z Z ?_);refine lO j0.k [.w 0] Z ⟨⟨Z,Z⟩,U⟩ (s2a Z Z Z ?_);refine lO j0.k [.w 0] Z ⟨⟨Z,Z⟩,U⟩ (s2a Z Z Z ?_);refine U0a (v:=.agg (c7b #[.slice Ac nc cc,.slice Am nm cm,.slice Al nl cl,.slice At nt ct])) (w':=V0) Z Z Z (by kernel_rfl) ?_;refine lC1 Z (wL (fun μk D ε w=>D=[]∧∃k:Nat,(k+μk=(3))∧(∀j,j<k→Y8b p j)∧St [] w0 w [(some g5,201,pL Ac nc cc Am nm cm Al nl cl At nt ct),(some g1,27,pL Ac nc cc Am nm cm Al nl cl At nt ct)]∧Sl ε [(1,.pointer (some ⟨g1,0,none⟩)),(5,.pointer (some ⟨g5,0,none⟩)),(33,.agg (c7b #[.slice Ac nc cc,.slice Am nm cm,.slice Al nl cl,.slice At nt ct])),(34,.int .i64 k)]) (μ:=(3)) ⟨Z,0,by omega,(fun j h=>absurd h (by omega)),j0,Z⟩ ?_);rintro μk D ε w ⟨rfl,k,hk,n0,S,eZ⟩;refine wK eZ (wB1 Z (fun N0=>?_) fun N0=>?_)
 ·refine lO1 Z (o6b U7c Z Z (N9b (by omega)) Z ?_);refine lO1 Z (O6b (vs:=[.agg #[.slice Ac nc cc,.slice Am nm cm,.slice Al nl cl,.slice At nt ct]]) u7b Z Z Z (k3c k (by omega) p M _ _ (hP.keep (S.keep0 M)) hN (fun h1=>n0 0 (by omega)) (hK.keep (S.keep0 M)) (C0 _ S.size)) ?_);rintro b1 f1 ⟨⟨_,rfl,o0⟩,F0⟩;have z0:=S.later F0;refine lB1 Z (fun O0=>?_) fun O0=>?_
  ·refine lR1 Z (Q1b Z ?_);refine⟨⟨_,_,_,Z,iF (fun h=>?_),fun h=>absurd h (by omega)⟩,z0.fin⟩;have z1:=d0.2 (L9a h)
   (have z2:Y8b p k:=by
     unfold Y8b
     split
     ·exact⟨h.cells,h.cellNames⟩
     split
     ·exact⟨h.modules,h.moduleNames⟩
     ·exact⟨h.locks,h.lockCells⟩
    have z3:=o0.2 z2;omega)
  refine lP1 Z ⟨μk-1,by omega,Z,k+1,by omega,?_,z0,Z⟩;intro j hj;by_cases v0:j=k
  ·subst v0;exact o0.1 (by omega)
  ·exact n0 j (by omega)
 have t0:f9a p:=n0 0 (by omega);have E0:k5b p:=n0 1 (by omega);have D0:e1b p:=n0 2 (by omega);refine lO1 Z (T4a (k:=9) S Z ?_);intro f0 i1 A0 Z0 X0 b0;have u0:w0.heap.size≤f0:=by have:=S.size;omega
 refine lC A0.k [.o 1] Z ⟨Z,U⟩ (wL (fun μk D ε w=>D=[]∧∃k:Nat,(k+μk=(p.threads.length))∧(∀j x,p.threads[j]?=some x→j<k→p5a p j x)∧(((p.threads.take k).map fun c=>Value.string c.name).Nodup)∧(g3a prog 9 w f0 (D3a ((p.threads.take k).map fun c=>.string c.name)))∧St [] w0 w [(some g5,201,pL Ac nc cc Am nm cm Al nl cl At nt ct),(some g1,27,pL Ac nc cc Am nm cm Al nl cl At nt ct)]∧Sl ε [(5,.pointer (some ⟨g5,0,none⟩)),(11,.map (some f0)),(45,.slice At nt ct),(46,.int .i64 nt),(47,.int .i64 k)]) (μ:=(p.threads.length)) ⟨Z,0,by omega,(fun j x _ h=>absurd h (by omega)),(by simp),(by simpa[D3a] using b0),A0,Z⟩ ?_);rintro μk D ε w ⟨rfl,k,hk,ht,hd,b0,S,eZ⟩;refine wK eZ (wB1 Z (fun P0=>?_) fun P0=>?_)
 ·obtain⟨x,K0,T0,_,i0,r0,_,x0,s0,p0⟩:=RdS.get (R0) (k) (by omega);obtain⟨_,_,_,_,_,_,_,_,_,_,_,_,rfl,_⟩:=Z0a.open_ p0;refine lO (S.k.a s0) [.x K0 T0,.v 0] Z ⟨⟨Z,x0⟩,⟨r0,by omega⟩,U⟩ (g0a S M1b Z Z ?_);intro a1 d1 y0 I0 W0;replace b0:=b0.keep I0 (List.not_mem_nil);refine lO1 Z (d0a (kk:=0) (vs:=[_,_,_,_,_,_,_]) y0 I1b Z Z Z Z Z Z Z ?_);intro q0 a0 m0;dsimp only[e0a,List.set] at a0;replace b0:=b0.keep m0 (fun hh=>by rw[List.mem_singleton] at hh;exact b0.ne (y0.blk 0 Z) hh);refine lO a0.k [.w 1,.w 0] Z ⟨⟨Z,by rfl⟩,⟨Z,Z⟩,U⟩ ?_;have c0:∀g∈f0::M,g∈M∨w0.heap.size≤g:=fun g hg=>by exact(List.mem_cons.1 hg).elim (fun h=>.inr (by omega)) .inl
  have S0:∀g∈f0::M,g<q0.heap.size:=fun g hg=>by exact(List.mem_cons.1 hg).elim (fun h=>h▸b0.lt) (C0 _ a0.size g)
  refine a2a V0d Z Z (x9b p k x f0 _ (f0::M) _ _ _ ((hP.more c0).keep (a0.keep0 _)) (Z0a.keep (a0.keep0 _) _ _ (Z0a.more c0 _ _ p0)) hN t0.1 (d0.1 (by omega)) ((hK.more c0).keep (a0.keep0 _)) S0 (by simp) i0 b0) ?_;rintro c1 j1 ⟨⟨_,_,rfl,g0,H0⟩,G0⟩;have B0:=a0.turned b0 (.inl u0) G0;refine lB1 Z (fun Q0=>?_) fun Q0=>?_
  ·refine lR1 Z (Q1b Z ?_);refine⟨⟨_,_,_,Z,iF (fun h=>?_),fun h=>absurd h (by omega)⟩,B0.fin⟩;have z1:=d0.2 (L9a h)
   (have z3:=g0.2 ⟨h.thread i0,H4a (f:=fun(c:D1a)=>Value.string c.name) (h.threadNames.imp fun h e=>h (by injection e)) i0⟩;omega)
  refine lP1 Z ?_;refine⟨μk-1,by omega,Z,k+1,by omega,?_,?_,((by rw[u0a i0,List.map_append];exact H0 (by omega))),B0.tail,Z⟩
  ·intro j y hy hj;by_cases v0:j=k
   ·subst v0;rw[i0] at hy;cases hy;exact(g0.1 (by omega)).1
   ·exact ht j y hy (by omega)
  ·rw[u0a i0,List.map_append,List.map_singleton,List.nodup_append];exact⟨hd,by simp,fun a ha b hb he=>by rw[List.mem_singleton.1 hb] at he;exact(g0.1 (by omega)).2 (he▸ha)⟩
 refine lR1 Z (Q1b Z ?_);refine⟨⟨_,_,_,Z,iff_of_true (by omega) ?_,fun _=>⟨Z,Z⟩⟩,S.fin⟩;have h1:=d0.1 (by omega);rw[List.take_of_length_le (by omega)] at hd;exact⟨h1.1,h1.2.1,h1.2.2.1,h1.2.2.2.1,t0.1,t0.2,E0.1,E0.2,D0.1,D0.2,fun t h=>ht t _ (List.getElem?_eq_getElem h) (by omega),(List.pairwise_map.1 hd).imp fun h e=>h (by rw[e])⟩
theorem W0a.named{p:m0a}(h:W0a p):n8a p:=by
 refine⟨fun c hc=>?_,fun m hm=>?_,fun t ht=>?_⟩
 ·have:=(h.cells c hc).name.2.1;omega
 ·have h1:=(h.modules m hm).name.2.1;have h2:=(h.modules m hm).owner.2.1;omega
 ·obtain⟨i,hi,rfl⟩:=List.getElem_of_mem ht;have:=(h.threads i hi).name.2.1;omega
theorem t2c(p:m0a)(M:List Nat)(w0:World)(cs:LV)(hP:e1a M w0 p cs)(hp:W0a p)(hK:W1a M w0)(hM:∀g∈M,g<w0.heap.size):
 A0a prog 100 #[.agg cs.toArray] w0 fun v w'=>v=.tuple #[.int .i64 0,.int .i64 (-1),.int .i64 (-1)]∧Below w0.heap.size w0 w' :=
 (C4b p M w0 cs hP (W0a.named hp) hK hM).mono fun _ _ ⟨⟨a,b,c,h1,h2,h3⟩,hb⟩=>by
   obtain⟨rfl,rfl⟩:=h3 (h2.2 hp);obtain rfl:=h2.2 hp;exact⟨h1,hb⟩
def q2b(p:m0a):J2a:=⟨p.cells.map g1a.init,p.threads.map (fun t=>if t.asleep then -1 else 0),p.threads.map (fun _=>[])⟩
def o5b(mem:List Int)(e:E1a):List Int:=(e.cells.zip e.values).foldl (fun m x=>m.set x.1.toNat x.2) mem
def A1c(c:J2a)(t:Nat):List Int:=(c.buf.getD t []).foldl o5b c.mem
def Y3d(s:List o3a)(v mem:List Int):List Int:=s.foldl (fun m a=>m.set a.cell.toNat (a.to.evl v v)) mem
def K4d(p:m0a)(s:List o3a)(v:List Int):E1a:=⟨(s.filter fun a=>u1a p.cells a.cell=-1).map o3a.cell,(s.filter fun a=>u1a p.cells a.cell=-1).map fun a=>a.to.evl v v⟩
def u5c(p:m0a)(model:Int)(c:J2a)(t:Nat)(s:i2a):Bool :=
 decide (c.at_.getD t 0=s.frm)&&(decide (s.guard.evl (A1c c t) (A1c c t)=1) &&
  (if s.kind=3 then decide (model=0∨((c.buf.getD t []).length<3∧(s.release=true→c.buf.getD t []=[])))
   else if s.kind=6 then decide (c.buf.getD t []=[]∧c.at_.getD s.target.toNat 0=-1)
   else if s.kind=7 then decide (c.buf.getD t []=[]∧c.at_.getD s.target.toNat 0=(p.threads.getD s.target.toNat ⟨ByteArray.empty,0,[],[],[],[],false⟩).points-1∧c.buf.getD s.target.toNat []=[])
   else if s.kind=1∨s.kind=2 then true else decide (c.buf.getD t []=[])))
def Y4d(a b:E1a):Bool:=a.cells.any fun x=>b.cells.contains x
def H2d(model:Int)(l:List E1a)(i:Nat):Bool:=decide (i=0)||(decide (model=2)&&(List.range i).all fun k=>match l[k]?,l[i]? with|some a,some b=>!Y4d a b|_,_=>true)
def e2b(p:m0a)(t:Nat):List i2a:=(p.threads.getD t ⟨ByteArray.empty,0,[],[],[],[],false⟩).steps
def z4c(p:m0a)(model:Int)(c:J2a)(t:Nat):List b4a :=
 ((List.range (e2b p t).length).filter fun i=>match (e2b p t)[i]? with|some s=>u5c p model c t s|none=>false).map (fun(i:Nat)=>(⟨t,i,0⟩:b4a)) ++
 ((List.range (c.buf.getD t []).length).filter (H2d model (c.buf.getD t []))).map (fun(i:Nat)=>(⟨t,-1,((c.buf.getD t []).getD i ⟨[],[]⟩).cells.getD 0 0⟩:b4a))
def t5c(p:m0a)(model:Int)(c:J2a):List b4a:=(List.range p.threads.length).flatMap (z4c p model c)
def atC(c:J2a)(t:Nat)(s:i2a):List Int:=if s.kind=6 then(c.at_.set t s.to).set s.target.toNat 0 else c.at_.set t s.to
def H4d(p:m0a)(model:Int)(c:J2a)(t:Nat)(s:i2a):J2a :=
 if s.kind=3∧model≠0 then⟨Y3d (s.set.filter fun a=>u1a p.cells a.cell≠-1) (A1c c t) c.mem,atC c t s,c.buf.set t (c.buf.getD t []++[K4d p s.set (A1c c t)])⟩
 else⟨Y3d s.set (A1c c t) c.mem,atC c t s,c.buf⟩
def X9c(c:J2a)(t i:Nat):J2a:=⟨o5b c.mem ((c.buf.getD t []).getD i ⟨[],[]⟩),c.at_,c.buf.set t ((c.buf.getD t []).eraseIdx i)⟩
def doC(p:m0a)(model:Int)(c:J2a)(x:b4a):J2a :=
 if x.step=-1 then X9c c x.thread.toNat (((c.buf.getD x.thread.toNat []).findIdx? fun e=>e.cells.getD 0 0=x.cell).getD 0)
 else match (e2b p x.thread.toNat)[x.step.toNat]? with|some s=>H4d p model c x.thread.toNat s|none=>c
section
variable {α:Type} [DecidableEq α] (succ:α→List α) (a:α)
inductive W3b (succ:α→List α) (a:α):α→Prop
 | start:W3b succ a a
 | next {c d:α} (h:W3b succ a c) (hd:d∈succ c):W3b succ a d
end
theorem W3b.to{α:Type}{succ a0:α→List α}{a x:α}(hx:W3b succ a x)(h:∀c d,W3b succ a c→W3b a0 a c→d∈succ c→W3b a0 a d):W3b a0 a x:=by
 induction hx with
 | start=>exact .start
 | next hc hd ih=>exact h _ _ hc ih hd
def E1a.even(e:E1a):Prop:=e.values.length=e.cells.length
structure J2a.Shape (c:J2a) (n t:Nat):Prop where
 mem:c.mem.length=n
 at_:c.at_.length=t
 buf:c.buf.length=t
 even:∀b∈c.buf,∀e∈b,e.even
theorem y0b{e:E}{d0:Int}(h:e.good d0=true)(c0 b0:List Int):0≤e.val c0 b0∧e.val c0 b0<H3a e.w.toNat:=by
 obtain⟨a0,_⟩:=I1a h;have hw:e.w≤8:=a0.2.1;have hb:∀a,0≤N8a a (H3a e.w.toNat-1)∧N8a a (H3a e.w.toNat-1)<H3a e.w.toNat:=fun a=>by
  rw[M5a _ _];have:=D8a e.w.toNat;exact⟨Int.emod_nonneg _ (by omega),Int.emod_lt_of_pos _ this⟩
 rw[E.val_def];by_cases o1:e.op=1
 ·rw[if_pos o1];have:=(g4b o1).1 a0;omega
 ·rw[if_neg o1]
  split
  ·exact hb _
  ·split
   ·exact hb _
   ·exact hb _
structure q4c (p:m0a) (m:List Int):Prop where
 len:m.length=p.cells.length
 vals:∀(i:Nat) (v:Int),m[i]?=some v→0≤v∧v<H3a (wAt p.cells i).toNat
theorem q4c.set{p:m0a}{m:List Int}(h:q4c p m){k:Nat}{v:Int}(hv:0≤v∧v<H3a (wAt p.cells k).toNat):q4c p (m.set k v):=by
 refine⟨by rw[List.length_set];exact h.len,fun i x hi=>?_⟩;rw[List.getElem?_set] at hi
 split at hi
 ·rename_i hk;subst hk
  split at hi
  ·cases hi;exact hv
  ·cases hi
 ·exact h.vals i x hi
structure T3c (p:m0a) (e:E1a):Prop where
 some_:e.cells≠[]
 even:e.even
 cells:∀(i:Nat) (n:Int),e.cells[i]?=some n→F1a n p.cells.length∧u1a p.cells n=-1∧i9a p.cells n=decide (0<i)
 vals:∀x∈e.cells.zip e.values,0≤x.2∧x.2<H3a (wAt p.cells x.1).toNat
 once:e.cells.Nodup
structure a5d (p:m0a) (c:J2a):Prop where
 mem:q4c p c.mem
 nat:c.at_.length=p.threads.length
 atr:∀(t:Nat) (x:Int),c.at_[t]?=some x→∀th,p.threads[t]?=some th→-1≤x∧x<th.points∧(x=-1→th.asleep=true)
 nbuf:c.buf.length=p.threads.length
 bufs:∀(t:Nat) (b:List E1a),c.buf[t]?=some b→b.length≤3∧(∀e∈b,T3c p e)∧(c.at_[t]?=some (-1)→b=[])
theorem a5d.shape{p:m0a}{c:J2a}(hf:a5d p c):c.Shape p.cells.length p.threads.length :=
 ⟨hf.mem.len,hf.nat,hf.nbuf,fun b hb e he=>by
  obtain⟨t,ht,rfl⟩:=List.getElem_of_mem hb;exact((hf.bufs t _ (List.getElem?_eq_getElem ht)).2.1 e he).even⟩
theorem o0b:∀(n:Nat) (l:List Int),l.Nodup→(∀x∈l,0≤x∧x<n)→l.length≤n
 | 0,l,_,h=>by
   cases l with
   | nil=>simp
   | cons x l=>have:=h x (by simp);omega
 | n+1,l,hd,h=>by
   by_cases hn:(n:Int)∈l
   ·have h1:=o0b n (l.erase (n:Int)) (hd.erase _) (fun x hx=>by
     obtain⟨_,h3⟩:=(hd.mem_erase_iff).1 hx;have:=h x h3;omega)
    rw[List.length_erase_of_mem hn] at h1;omega
   ·have h1:=o0b n l hd (fun x hx=>by
     have:=h x hx;have:x≠(n:Int):=fun e=>hn (e▸hx);omega)
    omega
theorem T3c.len{p:m0a}{e:E1a}(h:T3c p e):e.cells.length≤p.cells.length :=
 o0b _ _ h.once fun x hx=>by
  obtain⟨i,hi,rfl⟩:=List.getElem_of_mem hx;exact(h.cells i _ (List.getElem?_eq_getElem hi)).1
section
variable {M:List Nat} {w:World}
theorem F2a.open_{c:J2a}{cs:LV}(h:F2a M w c cs):∃Am nm cm Aa na ca Ab nb cb,cs=[.slice Am nm cm,.slice Aa na ca,.slice Ab nb cb] ∧
 RdI M w (.slice Am nm cm) c.mem∧RdI M w (.slice Aa na ca) c.at_∧b5d M w (.slice Ab nb cb) c.buf ∧
 nm=c.mem.length∧na=c.at_.length∧nb=c.buf.length∧nm≤140737488355328∧na≤140737488355328∧nb≤140737488355328:=by
 obtain⟨_,_,_,rfl,h1,h2,h3⟩:=h;obtain⟨Am,nm,cm,rfl⟩:=h1.form;obtain⟨Aa,na,ca,rfl⟩:=h2.form;obtain⟨Ab,nb,cb,rfl⟩:=h3.form;exact⟨_,_,_,_,_,_,_,_,_,Z,h1,h2,h3,h1.len.1,h2.len.1,h3.len.1,h1.len.2.2,h2.len.2.2,h3.len.2.2⟩
theorem q6b.open_{b:List E1a}{cs:LV}(h:q6b M w cs b):∃A n c,cs=[.slice A n c]∧w4d M w (.slice A n c) b∧n=b.length∧n≤140737488355328:=by
 obtain⟨_,rfl,h1⟩:=h;obtain⟨A,n,c,rfl⟩:=h1.form;exact⟨_,_,_,Z,h1,h1.len.1,h1.len.2.2⟩
theorem O2a.open_{e:E1a}{cs:LV}(h:O2a M w cs e):∃Ac nc cc Av nv cv,cs=[.slice Ac nc cc,.slice Av nv cv]∧RdI M w (.slice Ac nc cc) e.cells∧RdI M w (.slice Av nv cv) e.values∧nc=e.cells.length∧nv=e.values.length∧nc≤140737488355328∧nv≤140737488355328:=by
 obtain⟨_,_,rfl,h1,h2⟩:=h;obtain⟨Ac,nc,cc,rfl⟩:=h1.form;obtain⟨Av,nv,cv,rfl⟩:=h2.form;exact⟨_,_,_,_,_,_,Z,h1,h2,h1.len.1,h2.len.1,h1.len.2.2,h2.len.2.2⟩
end
structure InP (p:m0a) (M:List Nat) (w:World) (cs:LV):Prop where
 rd:e1a M w p cs
 ok:W0a p
 msk:W1a M w
 lt:∀g∈M,g<w.heap.size
theorem InP.keep{p:m0a}{M:List Nat}{w w':World}{cs:LV}(h:InP p M w cs)(hk:x0a M w w'):InP p M w' cs :=
 ⟨h.rd.keep hk,h.ok,h.msk.keep hk,fun g hg=>Nat.lt_of_lt_of_le (h.lt g hg) hk.size⟩
theorem W3a{w0 w:World}{L:List Ent}{g t k:Nat}{cs:LV}{M:List Nat}(S:St [] w0 w L)(hk:L[k]?=some (some g,t,cs)):∀x∈g::M,x∈M∨w0.heap.size≤x:=fun x hx=>by
 rcases List.mem_cons.1 hx with rfl|h
 ·rcases S.new k hk with h|h
  ·exact .inr h
  ·cases h
 ·exact .inl h
theorem InP.add{p:m0a}{M:List Nat}{w0 w:World}{cs:LV}(h:InP p M w0 cs){L:List Ent}{g t k:Nat}{a0:LV}(S:St [] w0 w L)(hk:L[k]?=some (some g,t,a0)):InP p (g::M) w cs :=
 ⟨(h.rd.more (W3a S hk)).keep (S.keep0 _),h.ok,(h.msk.more (W3a S hk)).keep (S.keep0 _),fun x hx=>by
   rcases List.mem_cons.1 hx with rfl|hx
   ·exact S.lt k hk
   ·exact Nat.lt_of_lt_of_le (h.lt x hx) S.size⟩
theorem F2a.add{c:J2a}{M:List Nat}{w0 w:World}{cs:LV}(h:F2a M w0 c cs){L:List Ent}{g t k:Nat}{a0:LV}(S:St [] w0 w L)(hk:L[k]?=some (some g,t,a0)):F2a (g::M) w c cs :=
 (h.more (W3a S hk)).keep (S.keep0 _)
section
variable {H:Type} {enc:TypeId×Value→H} {P:Program} {W:World} {base:Nat} {sp:Nat→Bool} {held:Bool}
def G3a(P:Program)(t:TypeId)(d:DataW H):Prop:=∀m∈d.weights P t,m≤reachBytes
theorem e3a{n:Int}(h:(Lit.int .i64 n).wf=true):i64 n:=by
 simp[Lit.wf,IntKind.min,IntKind.max,IntKind.signed,IntKind.bits] at h;exact h
theorem u2c{a:Addr}{v:Value}(h:W.cell? a=some v):a=⟨a.block,a.off,none⟩:=by
 obtain⟨_,_,s⟩:=a;cases s with
 | none=>rfl
 | some x=>unfold World.cell? at h;split at h<;>simp at h
theorem X5b{e:TypeId}{l:List (DataW H)}{i:Nat}{d:DataW H}(hi:l[i]?=some d):∀m∈d.weights P e,m∈DataW.weightsAll P e l:=by
 induction l generalizing i with
 | nil=>simp at hi
 | cons x xs ih =>
   intro m hm;rw[DataW.weightsAll];cases i with
   | zero=>simp at hi;subst hi;exact List.mem_append_left _ hm
   | succ i=>exact List.mem_append_right _ (ih (by simpa using hi) m hm)
theorem U2a{α:Type}{size t e:Nat}{fuel:Nat}{R:LV→α→Prop}{v:Value}{x:DataW H×List MemPlace}(ht:P.underlying t=some (.slice e))(hc:P.cellsOf e=size)(m0:1≤P.bytesOf e)
 (n0:∀(n:Nat) (cs:LV) (y:DataW H×List MemPlace),n<fuel→cs.length=size→DataW.trod enc P W base sp held n e cs=some y→G3a P e y.1→∃a,R cs a)
 (h:DataW.trod enc P W base sp held fuel t [v]=some x) (hw:G3a P t x.1) (hs:0<size:=by omega):∃l,RdS [] W size R v l:=by
 rcases DataW.trod_slice ht h with⟨h1,h2⟩|⟨a,len,f0,b0,rest,n,hf,h1,h2,hb,hl,hm,q0,e0,-,-⟩
 ·cases h1;exact⟨[],none,0,0,Z,Z,Nat.le_refl _,by unfold maxLen;omega,by omega,fun h=>absurd h (by omega)⟩
 ·cases h1;have j0:G3a P t (.slice (b0.map (·.1)) (rest.map (·.1))):=by rw[h2] at hw;exact hw
  have d0:len≤140737488355328:=by
   have:=j0 ((b0.length+rest.length)*P.bytesOf e) (by rw[DataW.weights,ht];simp);have h3:len*1≤(b0.length+rest.length)*P.bytesOf e:=Nat.mul_le_mul (by omega) m0;unfold reachBytes at this;omega
  have each:∀i,i<len→∃cs q,cs.length=size∧R cs q∧∀j,j<size→W.cell? ((a.add (i*size)).add j)=cs[j]?:=by
   intro i hi;have hg:=e0 i hi;have i0:i<b0.length:=by omega
   rw[List.getElem?_eq_getElem i0,Option.bind_eq_some_iff] at hg;obtain⟨cs,g0,s0⟩:=hg;rw[hc] at g0;obtain⟨-,c0,a0⟩:=World.cells?_some g0;obtain⟨q,hq⟩:=n0 n cs _ (by omega) c0 s0 (fun m r0=>by
    refine j0 m ?_;rw[DataW.weights,ht];refine List.mem_cons_of_mem _ (List.mem_append_left _ (X5b (i:=i) ?_ m r0));rw[List.getElem?_map,List.getElem?_eq_getElem i0];rfl)
   exact⟨cs,q,c0,hq,a0⟩
  by_cases h0:len=0
  ·subst h0;exact⟨[],some a,0,f0,Z,Z,hl,hm,by omega,fun h=>absurd h (by omega)⟩
  ·have ha:a=⟨a.block,a.off,none⟩:=by
    obtain⟨cs,q,c0,_,a0⟩:=each 0 (by omega);have:=a0 0 (by omega);rw[List.getElem?_eq_getElem (by omega)] at this;simp only[Nat.zero_mul,Addr.add_zero'] at this;exact u2c this
   let f:Fin len→α:=fun i=>Classical.choose (Classical.choose_spec (each i.1 i.2))
   have o0:∀i:Fin len,∃cs:LV,cs.length=size∧R cs (f i)∧∀j,j<size→W.cell? ((a.add (i.1*size)).add j)=cs[j]?:=fun i =>
    ⟨Classical.choose (each i.1 i.2),Classical.choose_spec (Classical.choose_spec (each i.1 i.2))⟩
   refine⟨List.ofFn f,some a,len,f0,Z,by simp,hl,hm,d0,fun _=>⟨a.block,a.off,by rw[←ha],by simp,fun i x hx=>?_⟩⟩;have hi:i<len:=by have:=(List.getElem?_eq_some_iff.1 hx).1;simpa using this
   have t0:x=f ⟨i,hi⟩:=by
    rw[List.getElem?_eq_getElem (by simpa using hi)] at hx;simp at hx;exact hx.symm
   obtain⟨cs,c0,hR,a0⟩:=o0 ⟨i,hi⟩;refine⟨cs,c0,fun j u hj=>?_,by rw[t0];exact hR⟩;have p0:j<size:=by have:=(List.getElem?_eq_some_iff.1 hj).1;omega
   have:=a0 j p0;rw[hj] at this;rw[ha] at this;rw[Addr.add_lit,Addr.add_lit] at this;exact this
theorem V2b{t:TypeId}{fs:Array Field}{xs:List (DataW H×List MemPlace)}{i:Nat}{f:Field}{y:DataW H×List MemPlace}(ht:P.underlying t=some (.struct fs))(hw:G3a P t (.agg (xs.map (·.1))))(hf:fs[i]?=some f)(hy:xs[i]?=some y):G3a P f.type y.1:=fun m hm=>by
 refine hw m ?_;rw[DataW.weights,ht];refine DataW.weights_mem_each (j:=i) (t:=f.type) (d:=y.1) ?_ ?_ m hm
 ·rw[List.getElem?_map];simp[hf]
 ·rw[List.getElem?_map,hy];rfl
theorem d5d{l:LV}(h:l.length=4):∃a0 a1 a2 a3,l=[a0,a1,a2,a3]:=by
 match l,h with
 | [a0,a1,a2,a3],_=>exact⟨a0,a1,a2,a3,Z⟩
theorem j5d{l:LV}(h:l.length=5):∃a0 a1 a2 a3 a4,l=[a0,a1,a2,a3,a4]:=by
 match l,h with
 | [a0,a1,a2,a3,a4],_=>exact⟨a0,a1,a2,a3,a4,Z⟩
theorem V4d{l:LV}(h:l.length=6):∃a0 a1 a2 a3 a4 a5,l=[a0,a1,a2,a3,a4,a5]:=by
 match l,h with
 | [a0,a1,a2,a3,a4,a5],_=>exact⟨a0,a1,a2,a3,a4,a5,Z⟩
theorem m5d{l:LV}(h:l.length=7):∃a0 a1 a2 a3 a4 a5 a6,l=[a0,a1,a2,a3,a4,a5,a6]:=by
 match l,h with
 | [a0,a1,a2,a3,a4,a5,a6],_=>exact⟨a0,a1,a2,a3,a4,a5,a6,Z⟩
theorem s2d{l:LV}(h:l.length=11):∃a0 a1 a2 a3 a4 a5 a6 a7 a8 a9 b0,l=[a0,a1,a2,a3,a4,a5,a6,a7,a8,a9,b0]:=by
 match l,h with
 | [a0,a1,a2,a3,a4,a5,a6,a7,a8,a9,b0],_=>exact⟨a0,a1,a2,a3,a4,a5,a6,a7,a8,a9,b0,Z⟩
theorem M0a{t:TypeId}{fs:Array Field}{cs:LV}{xs:List (DataW H×List MemPlace)}{n:Nat}(i ty d0:Nat)(c0:xs.length=fs.size)(b0:∀(i:Nat) (f:Field),fs[i]?=some f→DataW.trod enc P W base sp held n f.type ((cs.drop f.offset).take (P.cellsOf f.type))=xs[i]?)(ht:P.underlying t=some (.struct fs))(hw:G3a P t (.agg (xs.map (·.1))))(hf:(fs[i]?).map (fun f=>(f.type,f.offset))=some (ty,d0)):
 ∃y,DataW.trod enc P W base sp held n ty ((cs.drop d0).take (P.cellsOf ty))=some y∧G3a P ty y.1:=by
 cases a0:fs[i]? with
 | none=>rw[a0] at hf;cases hf
 | some f =>
   rw[a0] at hf;simp only[Option.map_some,Option.some.injEq,Prod.mk.injEq] at hf;obtain⟨rfl,rfl⟩:=hf;have hi:i<xs.length:=by rw[c0];exact(Array.getElem?_eq_some_iff.1 a0).1
   exact⟨xs[i],by rw[b0 i f a0,List.getElem?_eq_getElem hi],V2b ht hw a0 (List.getElem?_eq_getElem hi)⟩
end
section
variable {H:Type} {enc:TypeId×Value→H} {W:World} {base:Nat} {sp:Nat→Bool} {held:Bool}
theorem L8b{t:TypeId}{s:ByteArray}{y:DataW H×List MemPlace}(hx:y=(.lit (.string s.data.toList),[]))(hw:G3a prog t y.1):s.size≤140737488355328:=by
 have h:=hw s.data.toList.length (by rw[hx];exact List.mem_singleton.2 Z);have e:s.data.toList.length=s.size:=Array.length_toList;unfold reachBytes at h;omega
theorem B7b{α:Type}{M:List Nat}{w:World}{size:Nat}{R:LV→α→Prop}{Q:α→Prop}{v:Value}{l:List α}(h:RdS M w size R v l)(hq:∀cs x,R cs x→Q x):∀x∈l,Q x:=fun x hx=>by
 obtain⟨_,_,_,rfl⟩:=h.form;obtain⟨i,hi⟩:=List.mem_iff_getElem?.1 hx;obtain⟨_,_,_,cs,h1,-,-,-,-,h2⟩:=RdS.get h i (List.getElem?_eq_some_iff.1 hi).1;rw[hi] at h1;cases h1;exact hq _ _ h2
theorem f2b:prog.cellsOf 3=1:=by kernel_rfl
theorem Z6b:prog.cellsOf 4=1:=by kernel_rfl
theorem x1b:prog.cellsOf 9=1:=by kernel_rfl
theorem c3:prog.cellsOf 3=1:=by kernel_rfl
theorem T3d:prog.cellsOf 35=1:=by kernel_rfl
theorem O9c:prog.cellsOf 37=4:=by kernel_rfl
theorem V2d:1≤prog.bytesOf 37:=of_decide_eq_true (by kernel_rfl)
theorem z5d:1≤prog.bytesOf 3:=of_decide_eq_true (by kernel_rfl)
theorem N4a:∀(fuel:Nat) (cs:LV) (x:DataW H×List MemPlace),DataW.trod enc prog W base sp held fuel 37 cs=some x→G3a prog 37 x.1→∃e,RdE [] W e cs:=by
 intro fuel
 induction fuel using Nat.strongRecOn with
 | _ fuel ih =>
 intro cs x h hw;obtain⟨_,_,_,hx,hl,b0,a0⟩:=DataW.trod_struct Tryz.underlying37 h;rw[hx] at hw;rw[O9c] at hl;obtain⟨_,t0,-⟩:=M0a 0 3 0 b0 a0 Tryz.underlying37 hw Z;obtain⟨_,t1,-⟩:=M0a 1 3 1 b0 a0 Tryz.underlying37 hw Z;obtain⟨_,t2,-⟩:=M0a 2 3 2 b0 a0 Tryz.underlying37 hw Z;obtain⟨_,t3,w3⟩:=M0a 3 35 3 b0 a0 Tryz.underlying37 hw Z;simp only[c3,T3d] at t0 t1 t2 t3;obtain⟨_,_,_,_,rfl⟩:=d5d hl;simp only[List.drop_succ_cons,List.drop_zero,List.take_succ_cons,List.take_zero] at t0 t1 t2 t3;obtain⟨m0,e0,-,f0⟩:=DataW.trod_int Tryz.underlying3 t0;obtain⟨m1,e1,-,f1⟩:=DataW.trod_int Tryz.underlying3 t1;obtain⟨m2,e2,-,f2⟩:=DataW.trod_int Tryz.underlying3 t2;cases e0;cases e1;cases e2;obtain⟨ks,j0⟩:=U2a (R:=fun cs e=>RdE [] W e cs) Tryz.underlying35 O9c V2d (fun k cs y hk _ hy hl=>ih k (by omega) cs y hy hl) t3 w3;obtain⟨A,k,c,rfl,hk,i0,g0,hbig,c0⟩:=j0;refine⟨⟨m0,m1,m2,ks⟩,?_⟩;rw[RdE];refine⟨A,k,c,Z,e3a f0,e3a f1,e3a f2,hk,i0,g0,hbig,fun h0=>?_⟩;obtain⟨b,o,hA,hb,c0⟩:=c0 h0;refine⟨b,o,hA,hb,fun i hi=>?_⟩;obtain⟨d0,-,hc,hr⟩:=c0 i ks[i] (List.getElem?_eq_getElem hi);exact⟨d0,hc,hr⟩
theorem b7a{fuel:Nat}{v:Value}{x:DataW H×List MemPlace}(h:DataW.trod enc prog W base sp held fuel 28 [v]=some x)(hw:G3a prog 28 x.1):∃l,RdI [] W v l :=
 U2a Tryz.underlying28 c3 z5d (fun n cs y _ _ hy _=>by
  obtain⟨m,e,-,f⟩:=DataW.trod_int Tryz.underlying3 hy;exact⟨m,e,e3a f⟩) h hw
theorem j9b{fuel:Nat}{v:Value}{x:DataW H×List MemPlace}(h:DataW.trod enc prog W base sp held fuel 35 [v]=some x)(hw:G3a prog 35 x.1):∃l,D1d [] W v l :=
 U2a Tryz.underlying35 O9c V2d (fun n cs y _ _ hy hl=>N4a n cs y hy hl) h hw
theorem R4a:prog.cellsOf 83=6:=by kernel_rfl
theorem P1c{fuel:Nat}{cs:LV}{x:DataW H×List MemPlace}(h:DataW.trod enc prog W base sp held fuel 83 cs=some x)(hw:G3a prog 83 x.1):∃c,P2a cs c∧c.name.size≤140737488355328:=by
 obtain⟨_,_,_,hx,hl,b0,a0⟩:=DataW.trod_struct Tryz.underlying83 h;rw[hx] at hw;rw[R4a] at hl;obtain⟨_,t0,w0⟩:=M0a 0 9 0 b0 a0 Tryz.underlying83 hw Z;obtain⟨_,t1,-⟩:=M0a 1 3 1 b0 a0 Tryz.underlying83 hw Z;obtain⟨_,t2,-⟩:=M0a 2 3 2 b0 a0 Tryz.underlying83 hw Z;obtain⟨_,t3,-⟩:=M0a 3 3 3 b0 a0 Tryz.underlying83 hw Z;obtain⟨_,t4,-⟩:=M0a 4 4 4 b0 a0 Tryz.underlying83 hw Z;obtain⟨_,t5,-⟩:=M0a 5 3 5 b0 a0 Tryz.underlying83 hw Z;simp only[x1b,f2b,Z6b] at t0 t1 t2 t3 t4 t5;obtain⟨_,_,_,_,_,_,rfl⟩:=V4d hl;simp only[List.drop_succ_cons,List.drop_zero,List.take_succ_cons,List.take_zero] at t0 t1 t2 t3 t4 t5;obtain⟨m0,e0,s0,-⟩:=DataW.trod_string Tryz.underlying9 t0;obtain⟨m1,e1,-,f1⟩:=DataW.trod_int Tryz.underlying3 t1;obtain⟨m2,e2,-,f2⟩:=DataW.trod_int Tryz.underlying3 t2;obtain⟨m3,e3,-,f3⟩:=DataW.trod_int Tryz.underlying3 t3;obtain⟨m4,e4,-⟩:=DataW.trod_bool Tryz.underlying4 t4;obtain⟨m5,e5,-,f5⟩:=DataW.trod_int Tryz.underlying3 t5;cases e0;cases e1;cases e2;cases e3;cases e4;cases e5;exact⟨⟨m0,m1,m2,m3,m4,m5⟩,⟨Z,e3a f1,e3a f2,e3a f3,e3a f5⟩,L8b s0 w0⟩
theorem y4d:1≤prog.bytesOf 83:=of_decide_eq_true (by kernel_rfl)
theorem A9b{fuel:Nat}{v:Value}{x:DataW H×List MemPlace}(h:DataW.trod enc prog W base sp held fuel 22 [v]=some x)(hw:G3a prog 22 x.1):∃l,i0b [] W v l∧∀c∈l,c.name.size≤140737488355328:=by
 obtain⟨l,hl⟩:=U2a Tryz.underlying22 R4a y4d (fun n cs y _ _ hy hl=>P1c hy hl) h hw;exact⟨l,hl.mono (fun _ _ h=>h.1),B7b hl (fun _ _ h=>h.2)⟩
theorem b2a:prog.cellsOf 37=4:=by kernel_rfl
theorem M3a:prog.cellsOf 142=5:=by kernel_rfl
theorem S6b{fuel:Nat}{cs:LV}{x:DataW H×List MemPlace}(h:DataW.trod enc prog W base sp held fuel 142 cs=some x)(hw:G3a prog 142 x.1):∃c,V0a [] W cs c:=by
 obtain⟨_,_,_,hx,hl,b0,a0⟩:=DataW.trod_struct Tryz.underlying142 h;rw[hx] at hw;rw[M3a] at hl;obtain⟨_,t0,-⟩:=M0a 0 3 0 b0 a0 Tryz.underlying142 hw Z;obtain⟨_,t1,w1⟩:=M0a 1 37 1 b0 a0 Tryz.underlying142 hw Z;simp only[f2b,b2a] at t0 t1;obtain⟨_,_,_,_,_,rfl⟩:=j5d hl;simp only[List.drop_succ_cons,List.drop_zero,List.take_succ_cons,List.take_zero] at t0 t1;obtain⟨m0,e0,-,f0⟩:=DataW.trod_int Tryz.underlying3 t0;obtain⟨x1,h1⟩:=N4a _ _ _ t1 w1;cases e0;exact⟨⟨m0,x1⟩,_,Z,e3a f0,h1⟩
theorem B1d:1≤prog.bytesOf 142:=of_decide_eq_true (by kernel_rfl)
theorem b6b{fuel:Nat}{v:Value}{x:DataW H×List MemPlace}(h:DataW.trod enc prog W base sp held fuel 58 [v]=some x)(hw:G3a prog 58 x.1):∃l,d9c [] W v l :=
 U2a Tryz.underlying58 M3a B1d (fun n cs y _ _ hy hl=>S6b hy hl) h hw
theorem k3b:prog.cellsOf 58=1:=by kernel_rfl
theorem a5a:prog.cellsOf 60=11:=by kernel_rfl
theorem s3c{fuel:Nat}{cs:LV}{x:DataW H×List MemPlace}(h:DataW.trod enc prog W base sp held fuel 60 cs=some x)(hw:G3a prog 60 x.1):∃c,n2a [] W cs c:=by
 obtain⟨_,_,_,hx,hl,b0,a0⟩:=DataW.trod_struct Tryz.underlying60 h;rw[hx] at hw;rw[a5a] at hl;obtain⟨_,t0,-⟩:=M0a 0 3 0 b0 a0 Tryz.underlying60 hw Z;obtain⟨_,t1,-⟩:=M0a 1 3 1 b0 a0 Tryz.underlying60 hw Z;obtain⟨_,t2,-⟩:=M0a 2 3 2 b0 a0 Tryz.underlying60 hw Z;obtain⟨_,t3,w3⟩:=M0a 3 37 3 b0 a0 Tryz.underlying60 hw Z;obtain⟨_,t4,w4⟩:=M0a 4 58 7 b0 a0 Tryz.underlying60 hw Z;obtain⟨_,t5,-⟩:=M0a 5 4 8 b0 a0 Tryz.underlying60 hw Z;obtain⟨_,t6,-⟩:=M0a 6 3 9 b0 a0 Tryz.underlying60 hw Z;obtain⟨_,t7,-⟩:=M0a 7 3 10 b0 a0 Tryz.underlying60 hw Z;simp only[f2b,b2a,k3b,Z6b] at t0 t1 t2 t3 t4 t5 t6 t7;obtain⟨_,_,_,_,_,_,_,_,_,_,_,rfl⟩:=s2d hl;simp only[List.drop_succ_cons,List.drop_zero,List.take_succ_cons,List.take_zero] at t0 t1 t2 t3 t4 t5 t6 t7;obtain⟨m0,e0,-,f0⟩:=DataW.trod_int Tryz.underlying3 t0;obtain⟨m1,e1,-,f1⟩:=DataW.trod_int Tryz.underlying3 t1;obtain⟨m2,e2,-,f2⟩:=DataW.trod_int Tryz.underlying3 t2;obtain⟨x3,h3⟩:=N4a _ _ _ t3 w3;obtain⟨x4,h4⟩:=b6b t4 w4;obtain⟨m5,e5,-⟩:=DataW.trod_bool Tryz.underlying4 t5;obtain⟨m6,e6,-,f6⟩:=DataW.trod_int Tryz.underlying3 t6;obtain⟨m7,e7,-,f7⟩:=DataW.trod_int Tryz.underlying3 t7;cases e0;cases e1;cases e2;cases e5;cases e6;cases e7;exact⟨⟨m0,m1,m2,x3,x4,m5,m6,m7⟩,_,_,_,_,_,Z,e3a f0,e3a f1,e3a f2,e3a f6,e3a f7,h3,h4⟩
theorem o4d:1≤prog.bytesOf 60:=of_decide_eq_true (by kernel_rfl)
theorem J9b{fuel:Nat}{v:Value}{x:DataW H×List MemPlace}(h:DataW.trod enc prog W base sp held fuel 61 [v]=some x)(hw:G3a prog 61 x.1):∃l,a2d [] W v l :=
 U2a Tryz.underlying61 a5a o4d (fun n cs y _ _ hy hl=>s3c hy hl) h hw
theorem n7b:prog.cellsOf 28=1:=by kernel_rfl
theorem f5a:prog.cellsOf 155=6:=by kernel_rfl
theorem t3c{fuel:Nat}{cs:LV}{x:DataW H×List MemPlace}(h:DataW.trod enc prog W base sp held fuel 155 cs=some x)(hw:G3a prog 155 x.1):∃c,H5a [] W cs c:=by
 obtain⟨_,_,_,hx,hl,b0,a0⟩:=DataW.trod_struct Tryz.underlying155 h;rw[hx] at hw;rw[f5a] at hl;obtain⟨_,t0,-⟩:=M0a 0 3 0 b0 a0 Tryz.underlying155 hw Z;obtain⟨_,t1,w1⟩:=M0a 1 28 1 b0 a0 Tryz.underlying155 hw Z;obtain⟨_,t2,w2⟩:=M0a 2 37 2 b0 a0 Tryz.underlying155 hw Z;simp only[f2b,n7b,b2a] at t0 t1 t2;obtain⟨_,_,_,_,_,_,rfl⟩:=V4d hl;simp only[List.drop_succ_cons,List.drop_zero,List.take_succ_cons,List.take_zero] at t0 t1 t2;obtain⟨m0,e0,-,f0⟩:=DataW.trod_int Tryz.underlying3 t0;obtain⟨x1,h1⟩:=b7a t1 w1;obtain⟨x2,h2⟩:=N4a _ _ _ t2 w2;cases e0;exact⟨⟨m0,x1,x2⟩,_,_,_,_,_,Z,e3a f0,h1,h2⟩
theorem Q4d:1≤prog.bytesOf 155:=of_decide_eq_true (by kernel_rfl)
theorem q9b{fuel:Nat}{v:Value}{x:DataW H×List MemPlace}(h:DataW.trod enc prog W base sp held fuel 62 [v]=some x)(hw:G3a prog 62 x.1):∃l,x4d [] W v l :=
 U2a Tryz.underlying62 f5a Q4d (fun n cs y _ _ hy hl=>t3c hy hl) h hw
theorem i7b:prog.cellsOf 35=1:=by kernel_rfl
theorem y6b:prog.cellsOf 61=1:=by kernel_rfl
theorem g7b:prog.cellsOf 62=1:=by kernel_rfl
theorem Q3a:prog.cellsOf 64=7:=by kernel_rfl
theorem F7b{fuel:Nat}{cs:LV}{x:DataW H×List MemPlace}(h:DataW.trod enc prog W base sp held fuel 64 cs=some x)(hw:G3a prog 64 x.1):∃c,Z0a [] W cs c∧c.name.size≤140737488355328:=by
 obtain⟨_,_,_,hx,hl,b0,a0⟩:=DataW.trod_struct Tryz.underlying64 h;rw[hx] at hw;rw[Q3a] at hl;obtain⟨_,t0,w0⟩:=M0a 0 9 0 b0 a0 Tryz.underlying64 hw Z;obtain⟨_,t1,-⟩:=M0a 1 3 1 b0 a0 Tryz.underlying64 hw Z;obtain⟨_,t2,w2⟩:=M0a 2 35 2 b0 a0 Tryz.underlying64 hw Z;obtain⟨_,t3,w3⟩:=M0a 3 28 3 b0 a0 Tryz.underlying64 hw Z;obtain⟨_,t4,w4⟩:=M0a 4 61 4 b0 a0 Tryz.underlying64 hw Z;obtain⟨_,t5,w5⟩:=M0a 5 62 5 b0 a0 Tryz.underlying64 hw Z;obtain⟨_,t6,-⟩:=M0a 6 4 6 b0 a0 Tryz.underlying64 hw Z;simp only[x1b,f2b,i7b,n7b,y6b,g7b,Z6b] at t0 t1 t2 t3 t4 t5 t6;obtain⟨_,_,_,_,_,_,_,rfl⟩:=m5d hl;simp only[List.drop_succ_cons,List.drop_zero,List.take_succ_cons,List.take_zero] at t0 t1 t2 t3 t4 t5 t6;obtain⟨m0,e0,s0,-⟩:=DataW.trod_string Tryz.underlying9 t0;obtain⟨m1,e1,-,f1⟩:=DataW.trod_int Tryz.underlying3 t1;obtain⟨x2,h2⟩:=j9b t2 w2;obtain⟨x3,h3⟩:=b7a t3 w3;obtain⟨x4,h4⟩:=J9b t4 w4;obtain⟨x5,h5⟩:=q9b t5 w5;obtain⟨m6,e6,-⟩:=DataW.trod_bool Tryz.underlying4 t6;cases e0;cases e1;cases e6;exact⟨⟨m0,m1,x2,x3,x4,x5,m6⟩,⟨_,_,_,_,Z,e3a f1,h2,h3,h4,h5⟩,L8b s0 w0⟩
theorem e9c:1≤prog.bytesOf 64:=of_decide_eq_true (by kernel_rfl)
theorem D4b{fuel:Nat}{v:Value}{x:DataW H×List MemPlace}(h:DataW.trod enc prog W base sp held fuel 25 [v]=some x)(hw:G3a prog 25 x.1):∃l,X4d [] W v l∧∀c∈l,c.name.size≤140737488355328:=by
 obtain⟨l,hl⟩:=U2a Tryz.underlying25 Q3a e9c (fun n cs y _ _ hy hl=>F7b hy hl) h hw;exact⟨l,hl.mono (fun _ _ h=>h.1),B7b hl (fun _ _ h=>h.2)⟩
theorem n3a:prog.cellsOf 81=11:=by kernel_rfl
theorem b3b{fuel:Nat}{cs:LV}{x:DataW H×List MemPlace}(h:DataW.trod enc prog W base sp held fuel 81 cs=some x)(hw:G3a prog 81 x.1):∃c,f1a [] W cs c∧c.name.size≤140737488355328∧c.owner.size≤140737488355328:=by
 obtain⟨_,_,_,hx,hl,b0,a0⟩:=DataW.trod_struct Tryz.underlying81 h;rw[hx] at hw;rw[n3a] at hl;obtain⟨_,t0,w0⟩:=M0a 0 9 0 b0 a0 Tryz.underlying81 hw Z;obtain⟨_,t1,w1⟩:=M0a 1 9 1 b0 a0 Tryz.underlying81 hw Z;obtain⟨_,t2,w2⟩:=M0a 2 37 2 b0 a0 Tryz.underlying81 hw Z;obtain⟨_,t3,w3⟩:=M0a 3 37 6 b0 a0 Tryz.underlying81 hw Z;obtain⟨_,t4,w4⟩:=M0a 4 28 10 b0 a0 Tryz.underlying81 hw Z;simp only[x1b,b2a,n7b] at t0 t1 t2 t3 t4;obtain⟨_,_,_,_,_,_,_,_,_,_,_,rfl⟩:=s2d hl;simp only[List.drop_succ_cons,List.drop_zero,List.take_succ_cons,List.take_zero] at t0 t1 t2 t3 t4;obtain⟨m0,e0,s0,-⟩:=DataW.trod_string Tryz.underlying9 t0;obtain⟨m1,e1,s1,-⟩:=DataW.trod_string Tryz.underlying9 t1;obtain⟨x2,h2⟩:=N4a _ _ _ t2 w2;obtain⟨x3,h3⟩:=N4a _ _ _ t3 w3;obtain⟨x4,h4⟩:=b7a t4 w4;cases e0;cases e1;exact⟨⟨m0,m1,x2,x3,x4⟩,⟨_,_,_,_,_,_,_,_,_,Z,h2,h3,h4⟩,L8b s0 w0,L8b s1 w1⟩
theorem V0c:1≤prog.bytesOf 81:=of_decide_eq_true (by kernel_rfl)
theorem N1b{fuel:Nat}{v:Value}{x:DataW H×List MemPlace}(h:DataW.trod enc prog W base sp held fuel 23 [v]=some x)(hw:G3a prog 23 x.1):∃l,L4d [] W v l∧∀c∈l,c.name.size≤140737488355328∧c.owner.size≤140737488355328:=by
 obtain⟨l,hl⟩:=U2a Tryz.underlying23 n3a V0c (fun n cs y _ _ hy hl=>b3b hy hl) h hw;exact⟨l,hl.mono (fun _ _ h=>h.1),B7b hl (fun _ _ h=>h.2)⟩
theorem V4a:prog.cellsOf 103=6:=by kernel_rfl
theorem F2c{fuel:Nat}{cs:LV}{x:DataW H×List MemPlace}(h:DataW.trod enc prog W base sp held fuel 103 cs=some x)(hw:G3a prog 103 x.1):∃c,X5a [] W cs c:=by
 obtain⟨_,_,_,hx,hl,b0,a0⟩:=DataW.trod_struct Tryz.underlying103 h;rw[hx] at hw;rw[V4a] at hl;obtain⟨_,t0,-⟩:=M0a 0 3 0 b0 a0 Tryz.underlying103 hw Z;obtain⟨_,t1,w1⟩:=M0a 1 37 1 b0 a0 Tryz.underlying103 hw Z;obtain⟨_,t2,-⟩:=M0a 2 3 5 b0 a0 Tryz.underlying103 hw Z;simp only[f2b,b2a] at t0 t1 t2;obtain⟨_,_,_,_,_,_,rfl⟩:=V4d hl;simp only[List.drop_succ_cons,List.drop_zero,List.take_succ_cons,List.take_zero] at t0 t1 t2;obtain⟨m0,e0,-,f0⟩:=DataW.trod_int Tryz.underlying3 t0;obtain⟨x1,h1⟩:=N4a _ _ _ t1 w1;obtain⟨m2,e2,-,f2⟩:=DataW.trod_int Tryz.underlying3 t2;cases e0;cases e2;exact⟨⟨m0,x1,m2⟩,_,_,_,_,Z,e3a f0,e3a f2,h1⟩
theorem F4d:1≤prog.bytesOf 103:=of_decide_eq_true (by kernel_rfl)
theorem P9b{fuel:Nat}{v:Value}{x:DataW H×List MemPlace}(h:DataW.trod enc prog W base sp held fuel 24 [v]=some x)(hw:G3a prog 24 x.1):∃l,u4d [] W v l :=
 U2a Tryz.underlying24 V4a F4d (fun n cs y _ _ hy hl=>F2c hy hl) h hw
theorem F6b:prog.cellsOf 22=1:=by kernel_rfl
theorem D1b:prog.cellsOf 23=1:=by kernel_rfl
theorem I6b:prog.cellsOf 24=1:=by kernel_rfl
theorem s3b:prog.cellsOf 25=1:=by kernel_rfl
theorem t6a:prog.cellsOf 27=4:=by kernel_rfl
theorem n5b{fuel:Nat}{cs:LV}{x:DataW H×List MemPlace}(h:DataW.trod enc prog W base sp held fuel 27 cs=some x)(hw:G3a prog 27 x.1):∃c,e1a [] W c cs∧n8a c:=by
 obtain⟨_,_,_,hx,hl,b0,a0⟩:=DataW.trod_struct Tryz.underlying27 h;rw[hx] at hw;rw[t6a] at hl;obtain⟨_,t0,w0⟩:=M0a 0 22 0 b0 a0 Tryz.underlying27 hw Z;obtain⟨_,t1,w1⟩:=M0a 1 23 1 b0 a0 Tryz.underlying27 hw Z;obtain⟨_,t2,w2⟩:=M0a 2 24 2 b0 a0 Tryz.underlying27 hw Z;obtain⟨_,t3,w3⟩:=M0a 3 25 3 b0 a0 Tryz.underlying27 hw Z;simp only[F6b,D1b,I6b,s3b] at t0 t1 t2 t3;obtain⟨_,_,_,_,rfl⟩:=d5d hl;simp only[List.drop_succ_cons,List.drop_zero,List.take_succ_cons,List.take_zero] at t0 t1 t2 t3;obtain⟨x0,h0⟩:=A9b t0 w0;obtain⟨x1,h1⟩:=N1b t1 w1;obtain⟨x2,h2⟩:=P9b t2 w2;obtain⟨x3,h3⟩:=D4b t3 w3;exact⟨⟨x0,x1,x2,x3⟩,⟨_,_,_,_,Z,h0.1,h1.1,h2,h3.1⟩,⟨h0.2,h1.2,h3.2⟩⟩
theorem H6b{W:World}:∀{l:List (String×DataW Unit)} {ps:List MemPlace},DataW.LaidVars prog W l ps→∀{i:Nat} {x:String×DataW Unit},l[i]?=some x →
 ∃g t cs fuel p,prog.globalNamed x.1=some g∧(prog.globals[g]?).map (·.type)=some t∧W.var? prog x.1=some cs∧DataW.trod (fun _=>()) prog W 0 (fun _=>true) false fuel t cs.toList=some (x.2,p)
 | [],_,_,_,_,hi=>by simp at hi
 | y::l,ps,h,0,x,hi=>by
   obtain⟨g0,t0,a0,f0,p0,q0,c0,d0,e0,b0,-⟩:=h;cases hi;exact⟨g0,t0,a0,f0,p0,c0,d0,e0,b0⟩
 | y::l,ps,h,i+1,x,hi=>by
   obtain⟨g0,t0,a0,f0,p0,q0,c0,d0,e0,b0,hr,-⟩:=h;exact H6b hr (by simpa using hi)
theorem m2d:prog.globalNamed ((Rows.interfereMatchesReferenceRow.laid[3]?.map (·.1)).getD "")=some 1:=by kernel_rfl
theorem V1d:(prog.globals[1]?).map (·.type)=some 196:=by kernel_rfl
theorem K2d:prog.cellsOf 196=9:=by kernel_rfl
theorem Y2b{W:World}(h:laidMetH prog Rows.interfereMatchesReferenceRow.laid W):W1a [] W:=by
 rw[MakeChecks.laidMetH_plain _ _ _ (by kernel_rfl)] at h;obtain⟨_,d0,-⟩:=h;obtain⟨_,_,c0,_,_,g0,n0,o0,m0⟩:=H6b d0 (i:=3) Z;obtain rfl:=Option.some.inj (m2d.symm.trans g0);obtain rfl:=Option.some.inj (V1d.symm.trans n0);obtain⟨xs,_,rfl,b0,e0,_,f0⟩:=DataW.trod_array Tryz.underlying196 m0;rw[K2d] at e0;simp only[c3,Nat.mul_one] at f0;refine⟨by simp,fun i hi=>?_⟩;have a0:=World.var?_cell g0 o0 i;have i0:i<xs.length:=by omega
 have he:=f0 i (by omega);rw[List.getElem?_eq_getElem i0] at he;obtain⟨k,e1,e2,-⟩:=DataW.trod_int Tryz.underlying3 he;have p0:i<c0.toList.length:=by omega
 have j0:c0.toList[i]?=some (.int .i64 k):=by
  have h1:((c0.toList.drop i).take 1)[0]?=some (Value.int .i64 k):=by rw[e1];rfl
  rw[List.getElem?_take,if_pos (by omega),List.getElem?_drop] at h1;simpa using h1
 rw[a0];have e3:c0[i]?=some (.int .i64 k):=by simpa using j0
 rw[e3];have b0:(DataW.agg _=DataW.agg _∧_):=Prod.mk.inj b0;have b0:=DataW.agg.inj b0.1;have e4:(xs.map (·.1))[i]?=some (.lit (.int .i64 k)):=by rw[List.getElem?_map,List.getElem?_eq_getElem i0,e2];rfl
 rw[←b0] at e4;rcases(show i=0∨i=1∨i=2∨i=3∨i=4∨i=5∨i=6∨i=7∨i=8 by omega) with rfl|rfl|rfl|rfl|rfl|rfl|rfl|rfl|rfl<;>(cases e4;rfl)
end
theorem own:ownKnob prog.godebug=none:=by kernel_rfl
theorem u8c:laidOutB prog=true:=by kernel_rfl
abbrev k8a:List (String×DataW Unit):=Rows.interfereMatchesReferenceRow.laid
theorem U5c(os:Os)(args:Array Value):laidMetH prog k8a ((World.doorLaid prog 400 os).forCall (fun _ _=>0) ⟨#[],args,[]⟩).memory :=
 laidMetH_of_parts3 (fuel:=8) (laidMet_of_run' 8 (by kernel_rfl) (by kernel_rfl)) (by kernel_rfl) (by kernel_rfl)
theorem r2c{H:Type}{enc:TypeId×Value→H}{W W':World}(hb:Below W.heap.size W W'):∀(ts:List TypeId),(∀t∈ts,prog.readableRec t=true∧t<prog.types.size)→∀(vs:LV) (ds:List (DataW H)) (p:List MemPlace),
 (∀x∈p,x.block<W.heap.size)→DataW.TrodAll enc prog W 0 (fun _=>true) true ts vs ds p→DataW.TrodAll enc prog W' 0 (fun b=>decide (b<W.heap.size)) true ts vs ds p:=by
 intro ts
 induction ts with
 | nil =>
   intro _ vs ds p _ h;cases vs<;>cases ds<;>exact h
 | cons t ts ih =>
   intro ht vs ds p hp h;cases vs with
   | nil=>exact h.elim
   | cons v vs =>
     cases ds with
     | nil=>exact h.elim
     | cons d ds =>
       obtain⟨q,r,h1,h2,rfl⟩:=h;obtain⟨r1,r2⟩:=ht t (by simp);exact⟨q,r,Below.trod u8c r1 r2 h1 hb (fun x hx=>hp x (List.mem_append_left _ hx)),ih (fun t a0=>ht t (by simp[a0])) vs ds r (fun x hx=>hp x (List.mem_append_right _ hx)) h2,Z⟩
theorem S3c{H:Type}{enc:TypeId×Value→H}{fn:Func}{s:ChangeSpec}{W W':World}{args:Array Value}{ds:List (DataW H)}{a0:List MemPlace}(hs:s.vars=[])(hr:fn.resultTypes=#[4])
 (d0:∀t∈fn.params.toList,prog.readableRec t=true∧t<prog.types.size) (hW:DataW.Whole enc prog fn.params.toList s.vars false W args.toList ds [] a0)
 (e1:(s.fn H (ds++[])).results=[.lit (.bool true)]) (e2:(s.fn H (ds++[])).args=ds) (e3:(s.fn H (ds++[])).vars=[]) (hb:Below W.heap.size W W') :
 s.post enc prog fn false true false false W args (.bool true) W':=by
 have c0:=hW.lt;obtain⟨_,_,hA,hV,b0,_⟩:=id hW;rw[hs] at hV;obtain⟨-,rfl⟩:=trodVars_none hV;rw[List.append_nil] at b0;subst b0;refine⟨ds,[],a0,[],a0,[],hW,?_,?_,?_,hb.frame _,fun h=>by cases h⟩
 ·rw[e1,hr];exact trodAll_mk1 (shut_bool Tryz.underlying4 true)
 ·rw[e2];exact r2c hb _ d0 _ _ _ c0 hA
 ·rw[e3,hs];rfl
theorem k8b{H:Type}{ts:List TypeId}{ds:List (DataW H)}(h:(DataW.weightsEach prog ts ds).all (·≤reachBytes)=true){j:Nat}{t:TypeId}{d:DataW H}(ht:ts[j]?=some t)(hd:ds[j]?=some d):G3a prog t d:=fun m hm=>by
 have:=List.all_eq_true.1 h m (DataW.weights_mem_each ht hd m hm);simpa using this
theorem g3b{f:FuncId}{args:Array Value}{W:World}{R:Value→World→Prop}{Q:Ending→World→Prop}(h:A0a prog f args W R)(hQ:∀v W',R v W'→Q (.returned v) W'):Calls prog f args W Q :=
 Calls.mono h fun _ _ ⟨v,he,hv⟩=>he▸hQ v _ hv
abbrev s2c:=Nat→Option (FuncId×Array Value×(Value→Prop)×(Value→World→Prop))
section
variable {P:Program} {r:Option Nat} {N:Nat} {l:List Oper} {D:List Deferred} {C:World→Prop} {V:s2c} {K:Env→World→Prop}
def FL(P:Program)(N:Nat)(l:List Oper)(C:World→Prop)(V:s2c)(K:Env→World→Prop)(lo:Nat):List Nat→Env→List Nat→(World→Prop)→Prop
 | [],e,_,Φ=>∀w,C w→Φ w→K e w
 | i::rest,e,gs,Φ=>∃o d,l[i]?=some o∧o.dst=some d∧d<N ∧
  ((∃v,PV P l C o e v∧FL P N l C V K lo rest (upd e d v) gs Φ) ∨
   (∃(mk:Nat→Value) (t:TypeId) (cs:LV),a1a l.toArray e o=true ∧
     (∀w,C w→∃w',(execOp (ev e) o).run P w=.ok (.value (mk w.heap.size)) w'∧C w'∧x0a [] w w'∧w'.heap.size=w.heap.size+1∧p0a w' (w.heap.size,t,cs)) ∧
     ∀g,lo≤g→g∉gs→FL P N l C V K lo rest (upd e d (mk g)) (g::gs) (fun w=>Φ w∧p0a w (g,t,cs))) ∨
   (∃f args Qp Qw,V i=some (f,args,Qp,Qw)∧a1a l.toArray e o=true∧(∀w,C w→(execOp (ev e) o).run P w=.ok (.enter f args) w)∧∀u,Qp u→FL P N l C V K lo rest (upd e d u) gs (fun w=>Φ w∧Qw u w)))
theorem FL.mono{lo b0:Nat}:∀(R:List Nat) (e:Env) (gs a0:List Nat) (Φ Φ':World→Prop),(∀g,b0≤g→g∉a0→lo≤g∧g∉gs)→(∀w,Φ' w→Φ w)→FL P N l C V K lo R e gs Φ→FL P N l C V K b0 R e a0 Φ'
 | [],e,gs,a0,Φ,Φ',_,hΦ,h=>fun w hC hw=>h w hC (hΦ w hw)
 | i::R,e,gs,a0,Φ,Φ',hg,hΦ,h=>by
   obtain⟨o,d,h1,h2,h3,h4⟩:=h;refine⟨o,d,h1,h2,h3,?_⟩;rcases h4 with⟨v,h5,h6⟩|⟨mk,t,cs,h5,h6,h7⟩|⟨f,args,Qp,Qw,h5,h6,h7,h8⟩
   ·exact .inl ⟨v,h5,FL.mono R _ gs a0 Φ Φ' hg hΦ h6⟩
   rotate_left
   ·exact .inr (.inr ⟨f,args,Qp,Qw,h5,h6,h7,fun u hu=>FL.mono R _ gs a0 _ _ hg (fun w hw=>⟨hΦ w hw.1,hw.2⟩) (h8 u hu)⟩)
   ·refine .inr (.inl ⟨mk,t,cs,h5,h6,fun g h8 h9=>?_⟩);refine FL.mono R _ (g::gs) (g::a0) _ _ (fun x hx hn=>?_) (fun w hw=>⟨hΦ w hw.1,hw.2⟩) (h7 g (hg g h8 h9).1 (hg g h8 h9).2);simp only[List.mem_cons,not_or] at hn ⊢;exact⟨(hg x hx hn.2).1,hn.1,(hg x hx hn.2).2⟩
def o5d:Result Next→Nat
 | .ok _ w=>w.heap.size
 | _=>0
def szE(P:Program)(l:List Oper)(o:Oper)(e:Env)(w:World):Nat:=bif a1a l.toArray e o then o5d ((execOp (ev e) o).run P w) else 0
theorem z1b{o:Oper}{e e':Env}{w:World}(hs:Op.isSelect o.op=false)(h:∀s∈Oper.looksAt l.toArray o,e s=e' s):szE P l o e w=szE P l o e' w:=by
 unfold szE;rw[O0a h,n1a hs h]
theorem F4b(a b:Nat)(gs:List Nat):∃g,a≤g∧b≤g∧g∉gs:=by
 have:∀gs:List Nat,∃m,∀g∈gs,g<m:=by
  intro gs
  induction gs with
  | nil=>exact⟨0,by simp⟩
  | cons x gs ih =>
    obtain⟨m,hm⟩:=ih;refine⟨max m (x+1),fun g hg=>?_⟩;rcases List.mem_cons.1 hg with rfl|h
    ·omega
    ·have:=hm g h;omega
 obtain⟨m,hm⟩:=this gs;exact⟨max m (max a b),by omega,by omega,fun h=>by have:=hm _ h;omega⟩
def m3a(P:Program)(N:Nat)(l:List Oper)(C:World→Prop)(V:s2c)(K:Env→World→Prop)(lo:Nat)(R:List Nat)(i:Nat)(o:Oper)(d:Nat)(e:Env)(gs:List Nat)(Φ:World→Prop)(w:World):Prop :=
 (a1a l.toArray e o=true∧∃v w',(execOp (ev e) o).run P w=.ok (.value v) w'∧C w'∧x0a [] w w'∧FL P N l C V K w'.heap.size R (upd e d v) gs (fun w1=>Φ w1∧x0a [] w' w1)) ∨
 (a1a l.toArray e o=false∧FL P N l C V K lo R (upd e d undef) gs Φ) ∨
 (a1a l.toArray e o=true∧∃f args Qp Qw,V i=some (f,args,Qp,Qw)∧(execOp (ev e) o).run P w=.ok (.enter f args) w∧∀u w',Qp u→Qw u w'→C w'→x0a [] w w'→FL P N l C V K w'.heap.size R (upd e d u) gs (fun w1=>(Φ w1∧Qw u w1)∧x0a [] w' w1))
theorem FL.first(c0:q3a l=true)(R0:∀i f args Qp Qw,V i=some (f,args,Qp,Qw)→∃u,Qp u){i:Nat}{i0:List Nat}{lo:Nat}{w:World}(hC:C w)(T0:lo≤w.heap.size):∀(m0:List Nat) (e:Env) (gs:List Nat) (Φ:World→Prop),(∀j∈m0,u9a l (fun _=>true) j i=true) →
 (∀o,l[i]?=some o→∀g∈gs,szE P l o e w≤g)→FL P N l C V K lo (m0++i::i0) e gs Φ →
 ∃o d,l[i]?=some o∧o.dst=some d∧d<N∧m3a P N l C V K lo (m0++i0) i o d e gs Φ w:=by
 intro m0
 induction m0 with
 | nil =>
   intro e gs Φ _ C0 h;obtain⟨o,d,ho,hd,hN,h⟩:=h;refine⟨o,d,ho,hd,hN,?_⟩;rcases h with⟨v,⟨h1,h2⟩|⟨h1,rfl⟩,h3⟩|⟨mk,t,cs,h1,h2,h3⟩|⟨f,args,Qp,Qw,h1,h2,h3,h4⟩
   rotate_right
   ·exact .inr (.inr ⟨h2,f,args,Qp,Qw,h1,h3 w hC,fun u w' hu _ _ hk=>FL.mono _ _ gs gs _ _ (fun g hg hn=>⟨by have:=hk.size;omega,hn⟩) (fun _ hw=>hw.1) (h4 u hu)⟩)
   ·exact .inl ⟨h1,v,w,h2 w hC,hC,x0a.refl _ _,FL.mono _ _ gs gs Φ _ (fun g hg hn=>⟨by omega,hn⟩) (fun _ hw=>hw.1) h3⟩
   ·exact .inr (.inl ⟨h1,h3⟩)
   ·obtain⟨w',h4,h5,h6,h7,h8⟩:=h2 w hC;refine .inl ⟨h1,_,w',h4,h5,h6,?_⟩;have hs:=C0 o ho;unfold szE at hs;rw[h1,h4] at hs;refine FL.mono _ _ (w.heap.size::gs) gs _ _ (fun g hg hn=>?_) (fun w1 hw=>⟨hw.1,c1a hw.2 h8⟩) (h3 w.heap.size T0 (fun hm=>by have:w'.heap.size≤w.heap.size:=hs _ hm;omega));simp only[List.mem_cons,not_or];exact⟨by omega,by omega,hn⟩
 | cons q m0 ih =>
   intro e gs Φ B0 C0 h;obtain⟨p,c,hp,hc,v0,h⟩:=h;have hq:=B0 q (by simp);have p0:∀j∈m0,u9a l (fun _=>true) j i=true:=fun j hj=>B0 j (by simp[hj]);have a0:∀{o:Oper} {d:Nat} (u:Value),l[i]?=some o→o.dst=some d→(∀s∈Oper.looksAt l.toArray o,upd e c u s=e s)∧c≠d∧d∉Oper.looksAt l.toArray p:=fun {o d} u ho hd=>by
    obtain⟨_,j0,q0,S0⟩:=U8a hq hp ho hc hd;exact⟨fun s hs=>o1a S0 hs,j0,q0⟩
   rcases h with⟨u,hu,h⟩|⟨mk,t,cs,h1,h2,h3⟩|⟨f,args,Qp,Qw,hV,X0,hu,h⟩
   rotate_right
   ·obtain⟨u0,W0⟩:=R0 _ _ _ _ _ hV;have key:∀u,Qp u→∃o d,l[i]?=some o∧o.dst=some d∧d<N∧m3a P N l C V K lo (m0++i0) i o d (upd e c u) gs (fun w=>Φ w∧Qw u w) w:=fun u hu=>ih (upd e c u) gs _ p0 (fun o ho g hg=>by
     cases hd:o.dst with
     | none =>
       exfalso;unfold u9a at hq;simp[hp,ho,hc,hd] at hq
     | some d=>rw[z1b (z0a c0 ho).1 (a0 u ho hd).1];exact C0 o ho g hg) (h u hu)
    obtain⟨o,d,ho,hd,hN,t0⟩:=key u0 W0;have f0:∀u,Qp u→m3a P N l C V K lo (m0++i0) i o d (upd e c u) gs (fun w=>Φ w∧Qw u w) w:=fun u hu=>by
     obtain⟨o',d',n0,G0,_,hF⟩:=key u hu;obtain rfl:o'=o:=Option.some.inj (n0.symm.trans ho);obtain rfl:d'=d:=Option.some.inj (G0.symm.trans hd);exact hF
    have j0:=(a0 .nilFunc ho hd).2.1;have q0:=(a0 .nilFunc ho hd).2.2;have ha:∀u,∀s∈Oper.looksAt l.toArray o,upd e c u s=e s:=fun u=>(a0 u ho hd).1;refine⟨o,d,ho,hd,hN,?_⟩;have r0:∀v,∀s∈Oper.looksAt l.toArray p,upd e d v s=e s:=fun v s hs=>o1a q0 hs;unfold m3a at t0 ⊢;rw[O0a (ha _),n1a (z0a c0 ho).1 (ha _)] at t0;have o0:∀v,∀K0 Φ',(∀u,Qp u→FL P N l C V K K0 (m0++i0) (upd (upd e d v) c u) gs (fun w=>Φ' w∧Qw u w))→FL P N l C V K K0 (q::(m0++i0)) (upd e d v) gs Φ':=fun v K0 Φ' h9 =>
     ⟨p,c,hp,hc,v0,.inr (.inr ⟨f,args,Qp,Qw,hV,by rw[O0a (r0 v)];exact X0,by rw[n1a (z0a c0 hp).1 (r0 v)];exact hu,h9⟩)⟩
    rcases t0 with⟨hw,v,w',h4,h5,h6,-⟩|⟨hw,-⟩|⟨hw,f',s0,N0,O0,z0,h4,-⟩
    ·refine .inl ⟨hw,v,w',h4,h5,h6,o0 v _ _ fun u hu=>?_⟩;have hF:=f0 u hu;unfold m3a at hF;rw[O0a (ha _),n1a (z0a c0 ho).1 (ha _)] at hF;rcases hF with⟨_,v',L0,d0,_,_,h7⟩|⟨b0,_⟩|⟨_,_,_,_,_,_,d0,_⟩
     ·rw[h4] at d0;cases d0;rw[←r2a _ _ _ j0];exact FL.mono _ _ gs gs _ _ (fun x hx hn=>⟨hx,hn⟩) (fun w1 e0=>⟨⟨e0.1.1,e0.2⟩,e0.1.2⟩) h7
     ·rw[hw] at b0;cases b0
     ·rw[h4] at d0;cases d0
    ·refine .inr (.inl ⟨hw,o0 _ _ _ fun u hu=>?_⟩);have hF:=f0 u hu;unfold m3a at hF;rw[O0a (ha _),n1a (z0a c0 ho).1 (ha _)] at hF;rcases hF with⟨b0,_⟩|⟨_,h7⟩|⟨b0,_⟩
     ·rw[hw] at b0;cases b0
     ·rw[←r2a _ _ _ j0];exact h7
     ·rw[hw] at b0;cases b0
    ·refine .inr (.inr ⟨hw,f',s0,N0,O0,z0,h4,fun u' w' V0 U0 y0 x0=>o0 u' _ _ fun u hu=>?_⟩);have hF:=f0 u hu;unfold m3a at hF;rw[O0a (ha _),n1a (z0a c0 ho).1 (ha _)] at hF;rcases hF with⟨_,v',L0,d0,_⟩|⟨b0,_⟩|⟨_,Y0,E0,P0,Q0,A0,_,h7⟩
     ·rw[h4] at d0;cases d0
     ·rw[hw] at b0;cases b0
     ·rw[z0] at A0;cases A0;rw[←r2a _ _ _ j0];exact FL.mono _ _ gs gs _ _ (fun x hx hn=>⟨hx,hn⟩) (fun w1 e0=>⟨⟨⟨e0.1.1.1,e0.2⟩,e0.1.1.2⟩,e0.1.2⟩) (h7 u' w' V0 U0 y0 x0)
   ·obtain⟨o,d,ho,hd,hN,hF⟩:=ih (upd e c u) gs Φ p0 (fun o ho g hg=>by
     cases hd:o.dst with
     | none =>
       exfalso;unfold u9a at hq;simp[hp,ho,hc,hd] at hq
     | some d=>rw[z1b (z0a c0 ho).1 (a0 u ho hd).1];exact C0 o ho g hg) h
    obtain⟨ha,j0,q0⟩:=a0 u ho hd;refine⟨o,d,ho,hd,hN,?_⟩;unfold m3a at hF ⊢;rw[O0a ha,n1a (z0a c0 ho).1 ha] at hF;rcases hF with⟨hw,v,w',h4,h5,h6,h7⟩|⟨hw,h7⟩|⟨hw,f,args,Qp,Qw,hV,h4,h7⟩
    rotate_right
    ·refine .inr (.inr ⟨hw,f,args,Qp,Qw,hV,h4,fun x w' hx J0 y0 x0=>⟨p,c,hp,hc,v0,.inl ⟨u,hu.congr (z0a c0 hp).1 (fun s hs=>(o1a q0 hs).symm),?_⟩⟩⟩);rw[←r2a _ _ _ j0];exact h7 x w' hx J0 y0 x0
    ·refine .inl ⟨hw,v,w',h4,h5,h6,p,c,hp,hc,v0,.inl ⟨u,hu.congr (z0a c0 hp).1 (fun s hs=>(o1a q0 hs).symm),?_⟩⟩;rw[←r2a _ _ _ j0];exact h7
    ·refine .inr (.inl ⟨hw,p,c,hp,hc,v0,.inl ⟨u,hu.congr (z0a c0 hp).1 (fun s hs=>(o1a q0 hs).symm),?_⟩⟩);rw[←r2a _ _ _ j0];exact h7
   ·have key:∀g,lo≤g→g∉gs→(∀o,l[i]?=some o→szE P l o e w≤g)→∃o d,l[i]?=some o∧o.dst=some d∧d<N∧m3a P N l C V K lo (m0++i0) i o d (upd e c (mk g)) (g::gs) (fun w=>Φ w∧p0a w (g,t,cs)) w:=fun g hg hn hs=>by
     refine ih (upd e c (mk g)) (g::gs) _ p0 (fun o ho x hx=>?_) (h3 g hg hn);cases hd:o.dst with
     | none =>
       exfalso;unfold u9a at hq;simp[hp,ho,hc,hd] at hq
     | some d =>
       rw[z1b (z0a c0 ho).1 (a0 (mk g) ho hd).1];rcases List.mem_cons.1 hx with rfl|hx
       ·exact hs o ho
       ·exact C0 o ho x hx
    have h4:∃o d,l[i]?=some o∧o.dst=some d∧d<N:=by
     cases ho:l[i]? with
     | none=>unfold u9a at hq;simp[ho] at hq
     | some o =>
       obtain⟨g0,H0,F0,I0⟩:=F4b lo (szE P l o e w) gs;obtain⟨o',d,n0,hd,hN,_⟩:=key g0 H0 I0 (fun o' n0=>by rw[ho] at n0;cases n0;exact F0);rw[ho] at n0;cases n0;exact⟨o,d,Z,hd,hN⟩
    obtain⟨o,d,ho,hd,hN⟩:=h4;have f0:∀g,lo≤g→g∉gs→szE P l o e w≤g→m3a P N l C V K lo (m0++i0) i o d (upd e c (mk g)) (g::gs) (fun w=>Φ w∧p0a w (g,t,cs)) w:=fun g hg hn hs=>by
     obtain⟨o',d',n0,G0,_,hF⟩:=key g hg hn (fun o' n0=>by rw[ho] at n0;cases n0;exact hs);obtain rfl:o'=o:=Option.some.inj (n0.symm.trans ho);obtain rfl:d'=d:=Option.some.inj (G0.symm.trans hd);exact hF
    refine⟨o,d,ho,hd,hN,?_⟩;obtain⟨g0,H0,F0,I0⟩:=F4b lo (szE P l o e w) gs;have j0:=(a0 .nilFunc ho hd).2.1;have q0:=(a0 .nilFunc ho hd).2.2;have ha:∀u,∀s∈Oper.looksAt l.toArray o,upd e c u s=e s:=fun u=>(a0 u ho hd).1;have r0:∀v,∀s∈Oper.looksAt l.toArray p,upd e d v s=e s:=fun v s hs=>o1a q0 hs;have t0:=f0 g0 H0 I0 F0;unfold m3a at t0 ⊢;rw[O0a (ha _),n1a (z0a c0 ho).1 (ha _)] at t0;rcases t0 with⟨hw,v,w',h4,h5,h6,-⟩|⟨hw,-⟩|⟨hw,f,args,Qp,Qw,hV,h4,-⟩
    rotate_right
    ·have D0:szE P l o e w=w.heap.size:=by unfold szE;rw[hw,h4];rfl
     refine .inr (.inr ⟨hw,f,args,Qp,Qw,hV,h4,fun x w' hx J0 y0 x0=>⟨p,c,hp,hc,v0,.inr (.inl ⟨mk,t,cs,by rw[O0a (r0 x)];exact h1,by rw[n1a (z0a c0 hp).1 (r0 x)];exact h2,fun g hg hn=>?_⟩)⟩⟩);have Z0:=x0.size;have hF:=f0 g (by omega) hn (by omega);unfold m3a at hF;rw[O0a (ha _),n1a (z0a c0 ho).1 (ha _)] at hF;rcases hF with⟨_,v',L0,d0,_⟩|⟨b0,_⟩|⟨_,f',s0,N0,O0,z0,_,h7⟩
     ·rw[h4] at d0;cases d0
     ·rw[hw] at b0;cases b0
     ·rw[hV] at z0;cases z0;rw[←r2a _ _ _ j0];exact FL.mono _ _ (g::gs) (g::gs) _ _ (fun x hx hn=>⟨hx,hn⟩) (fun w1 e0=>⟨⟨⟨e0.1.1.1,e0.2⟩,e0.1.1.2⟩,e0.1.2⟩) (h7 x w' hx J0 y0 x0)
    ·have D0:szE P l o e w=w'.heap.size:=by unfold szE;rw[hw,h4];rfl
     refine .inl ⟨hw,v,w',h4,h5,h6,p,c,hp,hc,v0,.inr (.inl ⟨mk,t,cs,by rw[O0a (r0 v)];exact h1,by rw[n1a (z0a c0 hp).1 (r0 v)];exact h2,fun g hg hn=>?_⟩)⟩;have hF:=f0 g (by have:=h6.size;omega) hn (by omega);unfold m3a at hF;rw[O0a (ha _),n1a (z0a c0 ho).1 (ha _)] at hF;rcases hF with⟨_,v',L0,d0,_,_,h7⟩|⟨b0,_⟩|⟨_,_,_,_,_,_,d0,_⟩
     rotate_right
     ·rw[h4] at d0;cases d0
     ·rw[h4] at d0;cases d0;rw[←r2a _ _ _ j0];exact FL.mono _ _ (g::gs) (g::gs) _ _ (fun x hx hn=>⟨hx,hn⟩) (fun w1 e0=>⟨⟨e0.1.1,e0.2⟩,e0.1.2⟩) h7
     ·rw[hw] at b0;cases b0
    ·refine .inr (.inl ⟨hw,p,c,hp,hc,v0,.inr (.inl ⟨mk,t,cs,by rw[O0a (r0 _)];exact h1,by rw[n1a (z0a c0 hp).1 (r0 _)];exact h2,fun g hg hn=>?_⟩)⟩);have D0:szE P l o e w=0:=by unfold szE;rw[hw];rfl
     have hF:=f0 g hg hn (by omega);unfold m3a at hF;rw[O0a (ha _),n1a (z0a c0 ho).1 (ha _)] at hF;rcases hF with⟨b0,_⟩|⟨_,h7⟩|⟨b0,_⟩
     rotate_right
     ·rw[hw] at b0;cases b0
     ·rw[hw] at b0;cases b0
     ·rw[←r2a _ _ _ j0];exact h7
variable {lo:Nat} {gs:List Nat} {Φ:World→Prop} {e:Env} {w w0:World} {L:List Ent} {M:List Nat}
theorem y3c(h:∀w,C w→Φ w→K e w):FL P N l C V K lo [] e gs Φ:=h
theorem y0c{i:Nat}{rest:List Nat}{o:Oper}(ho:l[i]?=some o)(hv:X4c o.op=true)(h:QL P N l.toArray C [o] (fun e'=>FL P N l C V K lo rest e' gs Φ) e):FL P N l C V K lo (i::rest) e gs Φ:=by
 unfold QL at h;obtain⟨pa,hl,hq,hk⟩:=h;obtain⟨d,v,h1,h2,h3,h4⟩:=hq 0 o Z;obtain rfl:pa=[(d,v)]:=by
  match pa,hl,h1 with
  | [x],_,h1=>simpa using h1
 refine⟨o,d,ho,h2,h3,.inl ⟨v,?_,hk⟩⟩;rcases h4 with⟨h5,h6⟩|h5
 ·refine .inl ⟨h5,fun w hw=>?_⟩;rcases h6 w hw with h7|⟨f,args,h7,_⟩
  ·exact h7
  ·obtain⟨_,hv'⟩:=R7a hv h7;cases hv'
 ·exact .inr h5
theorem Z1d{i d t:Nat}{rest:List Nat}{o:Oper}{mk:Nat→Value}{cs:LV}(ho:l[i]?=some o)(hd:o.dst=some d)(hN:Nat.ble (d+1) N=true)(hw:a1a l.toArray e o=true)
 (a0:∀w1,Cl M w0 w L w1→(execOp (ev e) o).run P w1=.ok (.value (mk w1.heap.size)) (w1.alloc (.cells cs.toArray t (0,0))))
 (h:∀g,lo≤g→g∉gs→FL P N l (Cl M w0 w L) V K lo rest (upd e d (mk g)) (g::gs) (fun w=>Φ w∧p0a w (g,t,cs))):FL P N l (Cl M w0 w L) V K lo (i::rest) e gs Φ :=
 ⟨o,d,ho,hd,Nat.le_of_ble_eq_true hN,.inr (.inl ⟨mk,t,cs,hw,fun w1 hC=>⟨_,a0 w1 hC,Cl.alloc _ _ hC,G1a _ _ _,by simp,by unfold p0a;show(w1.heap.push _)[w1.heap.size]?=_;simp⟩,h⟩)⟩
theorem N7b{i d el:Nat}{t:TypeId}{p:String}{af:Array Edge}{gd:Option (Nat×Bool)}{z:Value}{cs:LV}{rest:List Nat}
 (ho:l[i]?=some ⟨some d,.alloc el,t,p,af,gd⟩) (hN:Nat.ble (d+1) N=true) (hw:a1a l.toArray e ⟨some d,.alloc el,t,p,af,gd⟩=true) (hz:∀w,(zeroValue el).run P w=.ok z w) (a0:z.cells.toList=cs)
 (h:∀g,lo≤g→g∉gs→FL P N l (Cl M w0 w L) V K lo rest (upd e d (.pointer (some ⟨g,0,none⟩))) (g::gs) (fun w=>Φ w∧p0a w (g,el,cs))):FL P N l (Cl M w0 w L) V K lo (i::rest) e gs Φ:=by
 refine Z1d (mk:=fun g=>.pointer (some ⟨g,0,none⟩)) ho Z hN hw (fun w1 _=>?_) h;subst a0;simp[execOp,Instr.alloc,newVar,newRow,hz]
theorem Z8b{i d:Nat}{rest:List Nat}{t:TypeId}{p:String}{af:Array Edge}{args:Array Operand}{at_:Array TypeId}{g:Operand}{caps:Array Value}{f:FuncId}{vs:LV}{Qp:Value→Prop}{Qw:Value→World→Prop}(hH:Has P f)
 (ho:l[i]?=some ⟨some d,.call { callee:=.value g,args:=args,argTypes:=at_ },t,p,af,none⟩) (hN:Nat.ble (d+1) N=true)
 (hw:a1a l.toArray e ⟨some d,.call { callee:=.value g,args:=args,argTypes:=at_ },t,p,af,none⟩=true) (hg:ev e g=.func (.func f) #[] caps) (a0:args.toList.map (ev e)++caps.toList=vs) (hV:V i=some (f,vs.toArray,Qp,Qw))
 (h:∀u,Qp u→FL P N l C V K lo rest (upd e d u) gs (fun w=>Φ w∧Qw u w)):FL P N l C V K lo (i::rest) e gs Φ:=by
 refine⟨_,d,ho,Z,Nat.le_of_ble_eq_true hN,.inr (.inr ⟨f,vs.toArray,Qp,Qw,hV,hw,fun w1 _=>?_,h⟩)⟩;subst a0;have:(args.map (ev e)++caps)=(args.toList.map (ev e)++caps.toList).toArray:=by apply Array.ext';simp
 simp[execOp,resolve,Deferred.ofValue,invoke,hg,hH _ w1,this]
def eqQ(v:Value):Value→Prop:=fun u=>u=v
def noQ:Value→World→Prop:=fun _ _=>True
theorem Q6b{i d:Nat}{rest:List Nat}{t:TypeId}{p:String}{af:Array Edge}{args:Array Operand}{at_:Array TypeId}{f:FuncId}{vs:LV}{v:Value}(hH:Has P f)
 (ho:l[i]?=some ⟨some d,.call { callee:=.value (.func f),args:=args,argTypes:=at_ },t,p,af,none⟩) (hN:Nat.ble (d+1) N=true)
 (hw:a1a l.toArray e ⟨some d,.call { callee:=.value (.func f),args:=args,argTypes:=at_ },t,p,af,none⟩=true) (a0:args.toList.map (ev e)=vs) (hV:V i=some (f,vs.toArray,eqQ v,noQ))
 (h:FL P N l C V K lo rest (upd e d v) gs Φ):FL P N l C V K lo (i::rest) e gs Φ :=
 Z8b (caps:=#[]) hH ho hN hw Z (by simpa using a0) hV fun u hu=>by
  cases hu;exact FL.mono _ _ gs gs _ _ (fun x hx hn=>⟨hx,hn⟩) (fun w1 b0=>b0.1) h
end
section
variable {α:Type}
def b7c(l:List α)(z:α)(k:Nat):List α:=l.take k++List.replicate (l.length-k) z
@[simp] theorem m4c(l:List α)(z:α)(k:Nat):(b7c l z k).length=l.length:=by
 unfold b7c;simp;omega
end
theorem V6a{α:Type}{M:List Nat}{w:World}{size:Nat}{R:LV→α→Prop}:RdS M w size R (.slice none 0 0) []:=⟨none,0,0,Z,Z,Nat.le_refl _,by unfold maxLen;omega,by omega,fun h=>absurd h (by omega)⟩
@[simp] theorem a4c(p:m0a):(q2b p).mem.length=p.cells.length:=by simp[q2b]
@[simp] theorem v6c(p:m0a):(q2b p).at_.length=p.threads.length:=by simp[q2b]
theorem M3c{size:Nat}:∀(css:List LV) (i:Nat) (c:LV),(∀x∈css,x.length=size)→css[i]?=some c→∀(j:Nat) (u:Value),c[j]?=some u→css.flatten[i*size+j]?=some u:=by
 intro css
 induction css with
 | nil=>intro i c _ h;simp at h
 | cons x xs ih =>
   intro i c h4 hi j u hj;have hx:=h4 x (by simp);cases i with
   | zero =>
     simp at hi;subst hi;have a0:j<x.length:=(List.getElem?_eq_some_iff.1 hj).1;rw[List.flatten_cons,Nat.zero_mul,Nat.zero_add,List.getElem?_append_left a0];exact hj
   | succ i =>
     have:=ih i c (fun y hy=>h4 y (by simp[hy])) (by simpa using hi) j u hj;have e:(i+1)*size+j=x.length+(i*size+j):=by rw[hx,Nat.add_mul];omega
     rw[List.flatten_cons,e,List.getElem?_append_right (by omega)];rw[show x.length+(i*size+j)-x.length=i*size+j by omega];exact this
theorem M4a{size:Nat}(css:List LV)(h4:∀x∈css,x.length=size):css.flatten.length=css.length*size:=by
 induction css with
 | nil=>simp
 | cons x xs ih=>rw[List.flatten_cons,List.length_append,ih (fun y hy=>h4 y (by simp[hy])),h4 x (by simp),List.length_cons,Nat.add_mul];omega
structure D7a {α:Type} (R:List Nat→World→LV→α→Prop) (size:Nat):Prop where
 len:∀{M w cs x},R M w cs x→cs.length=size
 one:∀{M w cs x},R M w cs x→∀u∈cs,u.oneCell'=true
 keep:∀{M w w' cs x},x0a M w w'→R M w cs x→R M w' cs x
 more:∀{M M' w cs x},(∀g∈M',g∈M∨w.heap.size≤g)→R M w cs x→R M' w cs x
section
variable {α:Type} {R:List Nat→World→LV→α→Prop} {size:Nat}
def T1a(R:List Nat→World→LV→α→Prop)(size:Nat)(M:List Nat)(w:World)(G:Option Nat)(cs:LV)(v:Value)(l:List α):Prop :=
 ∃css:List LV,css.length=l.length∧(∀x∈css,x.length=size)∧S4a G size l.length cs v css.flatten∧∀(i:Nat) (x:α),l[i]?=some x→∃c,css[i]?=some c∧R (G.toList++M) w c x
theorem T1a.keep(hL:D7a R size){M:List Nat}{w w':World}{G:Option Nat}{cs:LV}{v:Value}{l:List α}(h:T1a R size M w G cs v l)(hk:x0a (G.toList++M) w w'):T1a R size M w' G cs v l:=by
 obtain⟨css,h1,h2,h3,h4⟩:=h;refine⟨css,h1,h2,h3,fun i x hi=>?_⟩;obtain⟨c,h5,h6⟩:=h4 i x hi;exact⟨c,h5,hL.keep hk h6⟩
theorem T1a.nil{M:List Nat}{w:World}:T1a R size M w none [] (.slice none 0 0) []:=⟨[],Z,by simp,S4a.nil size,fun i x hi=>by simp at hi⟩
theorem T1a.new{M:List Nat}{w:World}{g:Nat}:T1a R size M w (some g) [] (.slice (some ⟨g,0,none⟩) 0 0) [] :=
 ⟨[],Z,by simp,⟨by simp,.inr ⟨g,0,Z,Z,Nat.le_refl _,by unfold maxLen;omega,by simp,by simp⟩⟩,fun i x hi=>by simp at hi⟩
theorem T1a.form{M:List Nat}{w:World}{G:Option Nat}{cs:LV}{v:Value}{l:List α}(h:T1a R size M w G cs v l):∃A c,v=.slice A l.length c:=by
 obtain⟨_,_,_,⟨_,hr⟩,_⟩:=h;rcases hr with⟨_,rfl,h0⟩|⟨g,a0,_,rfl,_⟩
 ·exact⟨_,_,by rw[h0]⟩
 ·exact⟨_,_,Z⟩
theorem T1a.rd(hL:D7a R size){M M':List Nat}{w0 w:World}{L:List Ent}{k el:Nat}{G:Option Nat}{cs:LV}{v:Value}{l:List α}(h:T1a R size M w G cs v l)(S:St M' w0 w L)(hk:L[k]?=some (G,el,cs))(hM:∀g,G=some g→g∉M)(hl:l.length≤1000000):RdS M w size (R M w) v l:=by
 obtain⟨css,h1,h2,⟨_,hr⟩,h4⟩:=h;rcases hr with⟨rfl,rfl,h0⟩|⟨g,b0,rfl,rfl,q1,q2,q3,q4⟩
 ·exact⟨none,0,0,Z,by omega,by omega,by unfold maxLen;omega,by omega,fun h=>absurd h (by omega)⟩
 ·refine⟨_,_,_,Z,Z,q1,q2,by omega,fun _=>⟨g,0,Z,hM g Z,fun i x hi=>?_⟩⟩;obtain⟨c,h5,h6⟩:=h4 i x hi;refine⟨c,h2 c (List.mem_of_getElem? h5),fun j u hj=>?_,hL.more (fun x hx=>.inl (by simp[hx])) h6⟩;have hf:=M3c css i c h2 h5 j u hj;have a0:i*size+j<l.length*size:=by
   have:=(List.getElem?_eq_some_iff.1 hf).1;rw[M4a css h2,h1] at this;exact this
  rw[←q4,List.getElem?_take,if_pos a0] at hf;have:=S.cell k hk hf;simpa using this
theorem T1a.get{M M':List Nat}{w0 w:World}{L:List Ent}{k el:Nat}{G:Option Nat}{cs:LV}{v:Value}{l:List α}(h:T1a R size M w G cs v l)(S:St M' w0 w L)(hk:L[k]?=some (G,el,cs)){i:Nat}{x:α}(hi:l[i]?=some x):
 ∃g a0 c,G=some g∧v=.slice (some ⟨g,0,none⟩) l.length a0∧c.length=size∧Cells w g (0+i*size) c∧R (G.toList++M) w c x:=by
 obtain⟨css,h1,h2,⟨_,hr⟩,h4⟩:=h;have c0:=(List.getElem?_eq_some_iff.1 hi).1;rcases hr with⟨rfl,rfl,h0⟩|⟨g,a0,rfl,rfl,q1,q2,q3,q4⟩
 ·omega
 ·obtain⟨c,h5,h6⟩:=h4 i x hi;refine⟨g,a0,c,Z,Z,h2 c (List.mem_of_getElem? h5),fun j u hj=>?_,h6⟩;have hf:=M3c css i c h2 h5 j u hj;have b0:i*size+j<l.length*size:=by
   have:=(List.getElem?_eq_some_iff.1 hf).1;rw[M4a css h2,h1] at this;exact this
  rw[←q4,List.getElem?_take,if_pos b0] at hf;have:=S.cell k hk hf;simpa using this
variable {P:Program} {r:Option Nat} {N:Nat} {D:List Deferred} {e:Env} {w w0:World} {ops:Array Oper} {rest:List Oper} {K:List Deferred→Env→World→Prop} {L:List Ent} {M:List Nat}
variable {d:Nat} {t:TypeId} {p:String} {af:Array Edge} {x y:Operand}
theorem O4b(hL:D7a R size){M2:List Nat}{ty el b0 k c b o m:Nat}{z v:Value}{G:Option Nat}{cs:LV}{cs2:List LV}{l l2:List α}(S:St M w0 w L)(hS:SlZ P ty el size z b0)(C0:b0≤1000)(hk:L[k]?=some (G,el,cs))(hR:T1a R size M2 w G cs v l)
 (hx:ev e x=v) (hy:ev e y=.slice (some ⟨b,o,none⟩) m c) (hm:m=l2.length) (x0:cs2.length=l2.length) (j0:Cells w b o cs2.flatten) (he:∀(i:Nat) (x:α),l2[i]?=some x→∃c,cs2[i]?=some c∧R (G.toList++M2) w c x) (H0:l.length+l2.length≤1000000) (hd:Nat.ble (d+1) N=true)
 (h:∀v' G' n0 w1,St M w0 w1 (L.set k (G',el,n0))→T1a R size M2 w1 G' n0 v' (l++l2)→x0a G.toList w w1→(∀g∈G'.toList,g∈G.toList∨w.heap.size≤g)→WL P r N ops rest K D (upd e d v') w1) :
 WL P r N ops (⟨some d,.call { callee:=.builtin .append,args:=#[x,y],argTypes:=#[ty,ty] },t,p,af,none⟩::rest) K D e w:=by
 subst hm;obtain⟨css,c1,c2,c3,c4⟩:=hR;have u0:∀x∈cs2,∃a,R (G.toList++M2) w x a:=fun x hx=>by
  obtain⟨i,hi,rfl⟩:=List.getElem_of_mem hx;obtain⟨c,h5,h6⟩:=he i l2[i] (List.getElem?_eq_getElem (by omega));rw[List.getElem?_eq_getElem hi] at h5;cases h5;exact⟨_,h6⟩
 have i0:∀x∈cs2,x.length=size:=fun x hx=>let ⟨_,ha⟩:=u0 x hx;hL.len ha;have r0:∀u∈cs2.flatten,u.oneCell'=true:=fun u hu=>by
  obtain⟨x,hx,hu⟩:=List.mem_flatten.1 hu;obtain⟨_,ha⟩:=u0 x hx;exact hL.one ha u hu
 obtain⟨i,hi,hz,G0,B0⟩:=hS.parts;obtain⟨s0,hG⟩:=c3.own S hk;have A0:(l.length+l2.length)*b0≤140737488355328:=by
  have:(l.length+l2.length)*b0≤1000000*1000:=Nat.mul_le_mul (by omega) C0;omega
 obtain⟨v',w1,t0,m0,a0,_,g0⟩:=run_append_own_at (P:=P) w 0 ty t el i z size b0 hS.und hi hz G0 B0 hS.zs hS.pos v l.length css.flatten s0 ⟨b,o,none⟩ l2.length c cs2.flatten (by rw[M4a cs2 i0,x0])
  (fun j u hj=>by rw[Addr.add_lit];exact j0 j u hj) r0 (by unfold maxLen;omega) A0 (Nat.zero_le _)
 obtain⟨G',n0,z0,o0,q0⟩:=b2b m0;have d0:∀q,q<w.heap.size→G≠some q→w1.heap[q]?=w.heap[q]?:=fun q hq F0=>a0.block q hq (fun hh=>F0 (by rw[←hG,←hh]));have f0:H0a M w0 w1:=⟨a0.os.trans S.below.os,a0.tape.trans S.below.tape,a0.output.trans S.below.output,Nat.le_trans S.size a0.size,fun q hq hm =>
  (d0 q (Nat.lt_of_lt_of_le hq S.size) (fun hh=>by
    subst hh;rcases S.new k hk with h'|h'
    ·omega
    ·exact hm h')).trans (S.below.block q hq hm)⟩
 have e0:x0a G.toList w w1:=⟨a0.size,fun q hq hm=>d0 q hq (fun hh=>hm (by rw[hh];simp))⟩;have c0:∀g∈G'.toList,g∈G.toList∨w.heap.size≤g:=by
  intro g hg;have v0:G'=some g:=by cases G' with
   | none=>simp at hg
   | some q=>simp at hg;rw[hg]
  rcases g0 with hb|hb
  ·left;have p0:G=some g:=by rw[←hG,←hb,o0];exact v0
   rw[p0];simp
  ·rw[o0,v0] at hb;cases hb;exact .inr (Nat.le_refl _)
 refine U0a (v:=v') (w':=w1) Z Z hd ?_ (h v' G' n0 w1 (S.replace k hk f0 d0 (fun g hg=>?_)) ?_ e0 c0)
 ·simp[execOp,resolve,invoke,builtin,hx,hy,t0]
 ·obtain⟨_,h3⟩:=q0 g hg;rcases g0 with hb|hb
  ·have p0:G=some g:=by rw[←hG,←hb,o0];exact hg
   subst p0;exact⟨S.new k hk,h3,.inl Z⟩
  ·have D0:G'=some g:=hg;rw[o0,D0] at hb;cases hb;exact⟨.inl S.size,h3,.inr (Nat.le_refl _)⟩
 ·have y0:∀(e2:α) (c:LV),R (G.toList++M2) w c e2→R (G'.toList++M2) w1 c e2:=by
   intro e2 c hr;have h5:R (G.toList++(G'.toList++M2)) w c e2:=hL.more (fun g hg=>by
    rcases List.mem_append.1 hg with hg|hg
    ·exact .inl (List.mem_append_left _ hg)
    ·rcases List.mem_append.1 hg with hg|hg
     ·rcases c0 g hg with h|h
      ·exact .inl (List.mem_append_left _ h)
      ·exact .inr h
     ·exact .inl (List.mem_append_right _ hg)) hr
   exact hL.more (fun g hg=>.inl (List.mem_append_right _ hg)) (hL.keep (e0.mono (fun g hg=>List.mem_append_left _ hg)) h5)
  refine⟨css++cs2,by simp[c1,x0],fun x hx=>?_,?_,fun i x hi=>?_⟩
  ·rcases List.mem_append.1 hx with hx|hx
   ·exact c2 x hx
   ·exact i0 x hx
  ·have e1:(l++l2).length=l.length+l2.length:=by simp
   rw[e1,List.flatten_append];exact z0
  ·by_cases E0:i<l.length
   ·rw[List.getElem?_append_left E0] at hi;obtain⟨c,h5,h6⟩:=c4 i x hi;exact⟨c,by rw[List.getElem?_append_left (by omega)];exact h5,y0 _ _ h6⟩
   ·rw[List.getElem?_append_right (by omega)] at hi;obtain⟨c,h5,h6⟩:=he _ x hi;exact⟨c,by rw[List.getElem?_append_right (by omega),c1];exact h5,y0 _ _ h6⟩
theorem r1a(hL:D7a R size){M2:List Nat}{ty el a0 k c b o:Nat}{z v:Value}{G:Option Nat}{cs news:LV}{l:List α}{e1:α}(S:St M w0 w L)(hS:SlZ P ty el size z a0)(hk:L[k]?=some (G,el,cs))(hR:T1a R size M2 w G cs v l)
 (hx:ev e x=v) (hy:ev e y=.slice (some ⟨b,o,none⟩) 1 c) (b0:Cells w b o news) (he:R (G.toList++M2) w news e1) (e0:l.length+1≤1000000) (hd:Nat.ble (d+1) N=true)
 (h:∀v' G' c0 w1,St M w0 w1 (L.set k (G',el,c0))→T1a R size M2 w1 G' c0 v' (l++[e1])→x0a G.toList w w1→(∀g∈G'.toList,g∈G.toList∨w.heap.size≤g)→WL P r N ops rest K D (upd e d v') w1) (d0:a0≤1000:=by decide) :
 WL P r N ops (⟨some d,.call { callee:=.builtin .append,args:=#[x,y],argTypes:=#[ty,ty] },t,p,af,none⟩::rest) K D e w :=
 O4b hL (cs2:=[news]) (l2:=[e1]) S hS d0 hk hR hx hy Z Z (by simpa using b0) (fun i x hi=>by
  cases i with
  | zero=>simp at hi;subst hi;exact⟨news,Z,he⟩
  | succ i=>simp at hi) (by simpa using e0) hd h
end
theorem RdS.all{α:Type}{M:List Nat}{w:World}{size:Nat}{R:LV→α→Prop}{A:Option Addr}{n c b o:Nat}{l:List α}(h:RdS M w size R (.slice A n c) l)(hA:A=some ⟨b,o,none⟩)(h0:0<l.length):
 ∃css:List LV,css.length=l.length∧Cells w b o css.flatten∧∀(i:Nat) (x:α),l[i]?=some x→∃c,css[i]?=some c∧R c x:=by
 obtain⟨h1,_,_,_,h5⟩:=h.at;obtain⟨_,_,a0,_,b0⟩:=h5 (by omega);rw[hA] at a0;cases a0;have key:∀(l2:List α) (q:Nat),(∀i x,l2[i]?=some x→∃cs,cs.length=size∧Cells w b (q+i*size) cs∧R cs x)→∃css:List LV,css.length=l2.length∧Cells w b q css.flatten∧∀(i:Nat) (x:α),l2[i]?=some x→∃c,css[i]?=some c∧R c x:=by
  intro l2
  induction l2 with
  | nil=>intro q _;exact⟨[],Z,fun j v hj=>by simp at hj,fun i x hi=>by simp at hi⟩
  | cons a l2 ih =>
    intro q hq;obtain⟨cs,_,k2,k3⟩:=hq 0 a Z;obtain⟨css,m1,m2,m3⟩:=ih (q+size) (fun i x hi=>by
     obtain⟨cs,n1,n2,n3⟩:=hq (i+1) x (by simpa using hi);exact⟨cs,n1,by rw[show q+size+i*size=q+(i+1)*size by rw[Nat.add_mul];omega];exact n2,n3⟩)
    refine⟨cs::css,by simp[m1],fun j v hj=>?_,fun i x hi=>?_⟩
    ·rw[List.flatten_cons] at hj;by_cases c0:j<cs.length
     ·rw[List.getElem?_append_left c0] at hj;have:=k2 j v hj;simpa using this
     ·rw[List.getElem?_append_right (by omega)] at hj;have:=m2 (j-cs.length) v hj;rw[show q+size+(j-cs.length)=q+j by omega] at this;exact this
    ·cases i with
     | zero=>simp at hi;subst hi;exact⟨cs,Z,k3⟩
     | succ i =>
       obtain⟨c,h1,h2⟩:=m3 i x (by simpa using hi);exact⟨c,by simpa using h1,h2⟩
 exact key l o b0
theorem Q0c.of{t s c:Int}(h1:i64 t)(h2:i64 s)(h3:i64 c):Q0c [.int .i64 t,.int .i64 s,.int .i64 c] ⟨t,s,c⟩:=⟨Z,h1,h2,h3⟩
theorem v5a:D7a (fun(_:List Nat) (_:World)=>r9b) 1 where
 len h:=by rw[h.1];rfl
 one h u hu:=by rw[h.1] at hu;simp at hu;subst hu;rfl
 keep _ h:=h
 more _ h:=h
theorem L3a:D7a O2a 2 where
 len h:=by obtain⟨_,_,rfl,_⟩:=h;rfl
 one h u hu:=by
  obtain⟨_,_,_,_,_,_,rfl,_⟩:=h.open_;simp at hu;rcases hu with rfl|rfl<;>rfl
 keep hk h:=O2a.keep hk _ _ h
 more hm h:=O2a.more hm _ _ h
def b0c(M:List Nat)(w:World)(cs:LV)(c:J2a):Prop:=F2a M w c cs
theorem getD_some{α:Type}{l:List α}{i:Nat}{x d:α}(h:l[i]?=some x):l.getD i d=x:=by rw[List.getD_eq_getElem?_getD,h];rfl
def h2d(c:J2a):Prop:=∀b∈c.buf,b=[]
theorem h2d.getD{c:J2a}(h:h2d c)(t:Nat):c.buf.getD t []=[]:=by
 rw[List.getD_eq_getElem?_getD];cases hx:c.buf[t]? with
 | none=>rfl
 | some b=>exact h b (List.mem_of_getElem? hx)
@[simp] theorem U3d(l:List o3a)(v m:List Int):(Y3d l v m).length=m.length:=by
 unfold Y3d
 induction l generalizing m with
 | nil=>rfl
 | cons a l ih=>rw[List.foldl_cons,ih,List.length_set]
theorem k1b{p:m0a}{t:Nat}{th:D1a}(h:p.threads[t]?=some th):e2b p t=th.steps:=by unfold e2b;rw[getD_some h]
theorem d8c{α:Type}{a b:List α}(hl:a.length=b.length){k:Nat}(hk:a.length≤k)(h:∀i x y,i<k→a[i]?=some x→b[i]?=some y→x=y):a=b:=by
 apply List.ext_getElem hl;intro i h1 h2;exact h i _ _ (by omega) (List.getElem?_eq_getElem h1) (List.getElem?_eq_getElem h2)
def P9c{α:Type}(a b:List α)(k:Nat):Prop:=∀i x y,i<k→a[i]?=some x→b[i]?=some y→x=y
theorem P9c.zero{α:Type}{a b:List α}:P9c a b 0:=fun i x y h=>absurd h (by omega)
theorem P9c.succ{α:Type}{a b:List α}{k:Nat}(h:P9c a b k){x y:α}(hx:a[k]?=some x)(hy:b[k]?=some y)(he:x=y):P9c a b (k+1):=fun i x' y' hi h1 h2=>by
 by_cases a0:i=k
 ·subst a0;rw[hx] at h1;rw[hy] at h2;cases h1;cases h2;exact he
 ·exact h i x' y' (by omega) h1 h2
theorem P9c.all{α:Type}{a b:List α}{k:Nat}(h:P9c a b k)(hl:a.length=b.length)(hk:a.length≤k):a=b:=d8c hl hk h
theorem E1a.ext'{a b:E1a}(h1:a.cells=b.cells)(h2:a.values=b.values):a=b:=by cases a;cases b;simp_all
theorem J2a.ext'{a b:J2a}(h1:a.mem=b.mem)(h2:a.at_=b.at_)(h3:a.buf=b.buf):a=b:=by cases a;cases b;simp_all
theorem b4a.ext'{a b:b4a}(h:a.thread=b.thread∧a.step=b.step∧a.cell=b.cell):a=b:=by cases a;cases b;simp_all
theorem b0c.keep{M:List Nat}{w w':World}(hk:x0a M w w'):∀cs c,b0c M w cs c→b0c M w' cs c:=fun _ _ h=>F2a.keep hk h
theorem b0c.less{M M':List Nat}{w:World}(hk:∀g∈M',g∈M):∀cs c,b0c M w cs c→b0c M' w cs c:=fun _ _ h=>F2a.less hk h
theorem RdS.take{α:Type}{M:List Nat}{w:World}{size:Nat}{R:LV→α→Prop}{A:Option Addr}{n c:Nat}{l:List α}(h:RdS M w size R (.slice A n c) l)(i:Nat)(hi:i≤n):RdS M w size R (.slice A i c) (l.take i):=by
 obtain⟨_,_,_,he,_,_,h3,_,h5⟩:=h;cases he;refine⟨_,_,_,Z,by rw[List.length_take];omega,by omega,h3,by omega,fun h0=>?_⟩;obtain⟨b,o,hA,hb,a0⟩:=h5 (by omega);refine⟨b,o,hA,hb,fun j x hx=>a0 j x ?_⟩;rw[List.getElem?_take] at hx
 split at hx
 ·exact hx
 ·cases hx
theorem Y0c(M:List Nat)(w0:World)(v:Value)(l:List Int)(a:Int)(hR:RdI M w0 v l):
 A0a prog 159 #[v,.int .i64 a] w0 fun v w'=>(∃n,v=.int .i64 n∧(0≤n↔a∈l))∧Bw w0 w':=by
 obtain⟨A,n,c,rfl⟩:=hR.form;obtain⟨_,_⟩:=hR.len;have S:=St.refl w0;refine a0a func159 Z ntmps159 Z ?_;refine wC1 Z (wL (fun μk D ε w=>D=[]∧∃k:Nat,(k+μk=(l.length))∧(Y0a (l) k (fun x=>a≠x))∧St [] w0 w []∧Sl ε [(0,.slice A n c),(1,.int .i64 a),(7,.int .i64 n),(8,.int .i64 k)]) (μ:=(l.length)) ⟨Z,0,by omega,Y0a.zero,S,Z⟩ ?_);rintro μk D ε w ⟨rfl,k,_,ha,S,eZ⟩;refine wK eZ (wB1 Z (fun h9=>?_) fun h9=>?_)
 ·obtain⟨x,f0,g0,_,e0,b0,_,_,c0,d0⟩:=RdS.get (hR) (k) (by omega);obtain⟨rfl,_⟩:=id d0;refine lB (S.k.a c0) [.x f0 g0,.f 0 0] Z ⟨Z,⟨b0,by omega⟩,U⟩ (fun a0=>?_) fun a0=>?_
  ·exact lU Z Z ⟨⟨_,Z,⟨fun _=>a0▸c0a e0,fun _=>by omega⟩⟩,S.fin⟩
  refine lP1 Z ⟨μk-1,by omega,Z,k+1,by omega,(ha.succ e0 (a0)),S,Z⟩
 exact lU Z Z ⟨⟨_,Z,⟨fun h=>by omega,fun h=>absurd Z (ha.all (by omega) a h)⟩⟩,S.fin⟩
theorem M9a(M:List Nat)(w0:World)(v:Value)(l:List Int)(a:Int)(hR:RdI M w0 v l):
 A0a prog 107 #[v,.int .i64 a] w0 fun v w'=>v=.bool (decide (a∈l))∧Bw w0 w':=by
 obtain⟨_,_,_,rfl⟩:=hR.form;have S:=St.refl w0;refine a0a func107 Z ntmps107 Z ?_;refine wO1 Z (h0a S N7c Z Z (Y0c M _ _ l a (hR.keep (S.keep0 M))) ?_);rintro v7 w7 ⟨_,rfl,hm⟩ S7 X7;refine lB1 Z (fun h8=>?_) fun h8=>?_
 ·refine lR1 Z (w0a Z ?_);exact⟨by rw[decide_eq_true (hm.1 (by omega))],S7.fin⟩
 refine lR1 Z (w0a Z ?_);exact⟨by rw[decide_eq_false (fun hh=>absurd (hm.2 hh) (by omega))],S7.fin⟩
section
variable {P:Program} {r:Option Nat} {N:Nat} {D:List Deferred} {e:Env} {w w0:World} {ops:Array Oper} {rest:List Oper} {K:List Deferred→Env→World→Prop} {L:List Ent} {M:List Nat}
variable {d:Nat} {t:TypeId} {p:String} {af:Array Edge} {x y:Operand} {yt:TypeId}
theorem C4c{ty size n c:Nat}{A:Option Addr}(hT:SlT P ty size)(hx:ev e x=.slice A n c)(hy:ev e y=.slice none 0 0)(hd:Nat.ble (d+1) N=true)
 (h1:A=none→WL P r N ops rest K D (upd e d (.bool true)) w) (h2:A.isSome=true→WL P r N ops rest K D (upd e d (.bool false)) w) :
 WL P r N ops (⟨some d,.binOp .eql ty x y yt,t,p,af,none⟩::rest) K D e w:=by
 obtain⟨el,hu,_⟩:=e7a hT;have hr:=Lib.run_eql_slice_nil (P:=P) w ty el A n c 0 0 hu;cases A with
 | none=>exact U0a Z Z hd (by simp[execOp,hx,hy,eqGuard,hr]) (h1 Z)
 | some a=>exact U0a Z Z hd (by simp[execOp,hx,hy,eqGuard,hr]) (h2 Z)
end
theorem S4a.pad{G:Option Nat}{n:Nat}{cs:LV}{v:Value}{l:List Int}(h:S4a G 1 n cs v (l.map (Value.int .i64)))(h0:0<l.length):∃g pad,G=some g∧v=.slice (some ⟨g,0,none⟩) l.length (l.length+pad.length)∧cs=l.map (Value.int .i64)++pad∧l.length+pad.length≤maxLen:=by
 obtain⟨h1,h2⟩:=h;simp only[List.length_map,Nat.mul_one] at h1;rcases h2 with⟨_,_,h2⟩|⟨g,a0,rfl,rfl,h3,h4,h5,h6⟩
 ·omega
 ·simp only[Nat.mul_one] at h5 h6;refine⟨g,cs.drop n,Z,?_,?_,?_⟩
  ·rw[List.length_drop,h5,h1];congr 1;omega
  ·rw[←h6,List.take_append_drop]
  ·rw[List.length_drop,h5,h1];omega
theorem S4a.ofPad{g:Nat}{l:List Int}{pad:LV}(h:l.length+pad.length≤maxLen):S4a (some g) 1 l.length (l.map (Value.int .i64)++pad) (.slice (some ⟨g,0,none⟩) l.length (l.length+pad.length)) (l.map (Value.int .i64)) :=
 ⟨by simp,.inr ⟨g,_,Z,Z,by omega,h,by simp,by simp⟩⟩
def Q8c(mem:List Int)(e:E1a)(k:Nat):List Int:=((e.cells.zip e.values).take k).foldl (fun m x=>m.set x.1.toNat x.2) mem
theorem L7a:∀(l:List (Int×Int)) (mem:List Int),(l.foldl (fun m x=>m.set x.1.toNat x.2) mem).length=mem.length
 | [],_=>rfl
 | x::l,mem=>by rw[List.foldl_cons,L7a l,List.length_set]
@[simp] theorem g9c(mem:List Int)(e:E1a)(k:Nat):(Q8c mem e k).length=mem.length:=L7a _ _
@[simp] theorem k0c(mem:List Int)(e:E1a):(o5b mem e).length=mem.length:=L7a _ _
theorem v1c{l:List Int}{pad:LV}{i:Nat}{y:Int}(hi:i<l.length:=by omega):(l.map (Value.int .i64)++pad).set i (.int .i64 y)=(l.set i y).map (Value.int .i64)++pad:=by
 rw[List.set_append_left _ _ (by simpa using hi),List.map_set]
def L3d(c:J2a)(b:List E1a)(k:Nat):List Int:=(b.take k).foldl o5b c.mem
theorem P5b:∀(l:List E1a) (m:List Int),(l.foldl o5b m).length=m.length
 | [],_=>rfl
 | x::l,m=>by rw[List.foldl_cons,P5b l,k0c]
@[simp] theorem E1d(c:J2a)(b:List E1a)(k:Nat):(L3d c b k).length=c.mem.length:=P5b _ _
theorem w6a(M:List Nat)(w0:World)(v:Value)(l:List Int)(hR:RdI M w0 v l)(hl:l.length≤100000000:=by omega):
 A0a prog 176 #[v] w0 fun v w'=>d5a 3 w0 w' v l∧Bw w0 w':=by
 obtain⟨_,n,_,rfl⟩:=hR.form;obtain⟨_,_⟩:=hR.len;have S:=St.refl w0;refine a0a func176 Z ntmps176 Z ?_;refine wOn 9 S.k [] Z U (C4c R0a.slT Z Z Z (fun h4=>?_) fun h4=>?_)
 ·refine lR1 Z (w0a Z ?_);subst h4;obtain⟨A',n',c',he,h1,h2,h3,h5,h6⟩:=hR;cases he;have h0:l.length=0:=by
   rcases Nat.eq_zero_or_pos n with h|h
   ·omega
   ·obtain⟨_,_,h7,_⟩:=h6 h;cases h7
  obtain rfl:=List.length_eq_zero_iff.1 h0;exact⟨⟨none,[],S4a.nil 1,fun g hg=>by cases hg⟩,S.fin⟩
 refine lO1 Z (m6a S R0a Z ?_);intro g5 w5 S5 X5 G5;refine lO1 Z (U5a (hbytes:=(by decide)) (k:=0) (xs:=[]) S5 R0a Z S4a.new Z Z (hR.keep (S5.keep0 M)) (by simpa using hl) Z ?_);intro v7 G7 a0 w7 S7 R7 X7;refine B0a Z ?_;refine lR1 Z (w0a Z ?_);refine⟨⟨G7,a0,by simpa using R7,fun g hg=>?_⟩,S7.fin⟩;subst hg;exact⟨by simpa using S7.new 0 Z,S7.blk 0 Z⟩
theorem T3c.i64s{p:m0a}{e:E1a}(h:T3c p e):∀x∈e.cells,0≤x∧x<p.cells.length:=fun x hx=>by
 obtain⟨i,hi,rfl⟩:=List.getElem_of_mem hx;exact(h.cells i _ (List.getElem?_eq_getElem hi)).1
section
variable {M:List Nat} {w0 w w':World} {L:List Ent}
theorem St.join{L2:List Ent}(S:St M w0 w L)(S2:St [] w w' L2):St M w0 w' (L2++L):=by
 have a0:∀b∈L2,∀g,b.1=some g→w.heap.size≤g∧p0a w' (g,b.2):=fun b hb g hg=>by
  obtain⟨h1,h2⟩:=S2.own b hb g hg;rcases h1 with h1|h1
  ·exact⟨h1,h2⟩
  ·cases h1
 have S':=S.later S2.fin;refine⟨S'.below,fun b hb g hg=>?_,List.pairwise_append.2 ⟨S2.apart,S.apart,fun a ha b hb g hg b0=>?_⟩⟩
 ·rcases List.mem_append.1 hb with h|h
  ·obtain⟨h1,h2⟩:=a0 b h g hg;exact⟨.inl (Nat.le_trans S.size h1),h2⟩
  ·exact S'.own b h g hg
 ·have h1:=(a0 a ha g hg).1;have h2:=(S.own b hb g b0).2.lt;simp at h2;omega
theorem St.fill(S:St M w0 w L)(j:Nat){t':TypeId}{b0:LV}{g:Nat}(hb:Below w.heap.size w w')(hg:p0a w' (g,t',b0))(d0:w.heap.size≤g):St M w0 w' (L.set j (some g,t',b0)):=by
 have S':=S.later hb;have a0:∀b∈L,b.1≠some g:=fun b hm hh=>by
  have:=(S.own b hm g hh).2.lt;simp at this;omega
 refine⟨S'.below,fun b hm x hx=>?_,?_⟩
 ·rcases List.mem_or_eq_of_mem_set hm with h|rfl
  ·exact S'.own b h x hx
  ·cases hx;exact⟨.inl (Nat.le_trans S.size d0),hg⟩
 ·rw[List.pairwise_iff_getElem];intro i k hi hk c0 x hx;rw[List.length_set] at hi hk;rw[List.getElem_set] at hx ⊢
  split at hx
  ·cases hx
   split
   ·omega
   ·exact a0 _ (List.getElem_mem hk)
  ·split
   ·intro hh;cases hh;exact a0 _ (List.getElem_mem hi) hx
   ·exact(List.pairwise_iff_getElem.1 S.apart) i k hi hk c0 x hx
end
theorem S4a.form{G:Option Nat}{size n:Nat}{cs xs:LV}{v:Value}(h:S4a G size n cs v xs):∃A n c,v=.slice A n c:=by
 rcases h with⟨_,⟨_,rfl,_⟩|⟨g,a0,_,rfl,_⟩⟩
 ·exact⟨_,_,_,Z⟩
 ·exact⟨_,_,_,Z⟩
theorem g7c(A a0:List Ent)(k n:Nat)(hn:A.length=n):(A++a0)[n+k]?=a0[k]?:=by
 subst hn;rw[List.getElem?_append_right (by omega)];congr 1;omega
theorem y2d(A a0:List Ent)(k n:Nat)(hn:A.length=n)(x:Ent):(A++a0).set (n+k) x=A++a0.set k x:=by
 subst hn;rw[List.set_append_right _ _ (by omega)];congr 2;omega
theorem T1a.more{α:Type}{R:List Nat→World→LV→α→Prop}{size:Nat}(hL:D7a R size){M M':List Nat}{w:World}{G:Option Nat}{cs:LV}{v:Value}{l:List α}(h:T1a R size M w G cs v l)(hm:∀g∈M',(g∈G.toList∨g∈M)∨w.heap.size≤g):T1a R size M' w G cs v l:=by
 obtain⟨css,h1,h2,h3,h4⟩:=h;refine⟨css,h1,h2,h3,fun i x hi=>?_⟩;obtain⟨c,h5,h6⟩:=h4 i x hi;refine⟨c,h5,hL.more (fun g hg=>?_) h6⟩;rcases List.mem_append.1 hg with hg|hg
 ·exact .inl (List.mem_append_left _ hg)
 ·rcases hm g hg with h|h
  ·exact .inl (List.mem_append.2 h)
  ·exact .inr h
def w3b(rows:List Ent):List Nat:=rows.filterMap (·.1)
theorem D4a{a0:List Ent}{g:Nat}:g∈w3b a0↔∃b∈a0,b.1=some g:=by unfold w3b;rw[List.mem_filterMap]
def R5a(tE:TypeId)(M:List Nat)(w:World)(rows:List Ent)(vs:LV)(bs:List (List E1a)):Prop :=
 rows.length=bs.length∧vs.length=bs.length∧∀(i:Nat) (b:List E1a),bs[i]?=some b→∃G cs v,rows[i]?=some (G,tE,cs)∧vs[i]?=some v∧T1a O2a 2 (M++w3b rows) w G cs v b
theorem R5a.keep{tE:TypeId}{M:List Nat}{w w':World}{a0:List Ent}{vs:LV}{bs:List (List E1a)}(h:R5a tE M w a0 vs bs)(hk:x0a (M++w3b a0) w w'):R5a tE M w' a0 vs bs:=by
 obtain⟨h1,h2,h3⟩:=h;refine⟨h1,h2,fun i b hi=>?_⟩;obtain⟨G,cs,v,h4,h5,h6⟩:=h3 i b hi;exact⟨G,cs,v,h4,h5,h6.keep L3a (hk.mono fun g hg=>List.mem_append_right _ hg)⟩
theorem R5a.nil{tE:TypeId}{M:List Nat}{w:World}(n:Nat):R5a tE M w (List.replicate n (none,tE,[])) (List.replicate n (.slice none 0 0)) (List.replicate n []):=by
 refine⟨by simp,by simp,fun i b hi=>?_⟩;obtain⟨a0,rfl⟩:=List.getElem?_eq_some_iff.1 hi;simp only[List.length_replicate] at a0;refine⟨none,[],.slice none 0 0,by simp[a0],by simp[a0],?_⟩;simp only[List.getElem_replicate];exact T1a.nil
theorem s0d{a0:List Ent}{k:Nat}{G':Option Nat}{tE:TypeId}{b0:LV}{g:Nat}(h:g∈w3b (a0.set k (G',tE,b0))):g∈w3b a0∨g∈G'.toList:=by
 obtain⟨b,hb,hg⟩:=D4a.1 h;rcases List.mem_or_eq_of_mem_set hb with h|rfl
 ·exact .inl (D4a.2 ⟨b,h,hg⟩)
 ·right;cases hg;simp
theorem R5a.put{tE:TypeId}{M:List Nat}{w w1:World}{a0:List Ent}{vs:LV}{bs:List (List E1a)}(h:R5a tE M w a0 vs bs){k:Nat}{G G':Option Nat}{cs b0:LV}{v':Value}{b':List E1a}(hk:k<bs.length)
 (e0:T1a O2a 2 (M++w3b a0) w1 G' b0 v' b') (X:x0a G.toList w w1) (F:∀g∈G'.toList,g∈G.toList∨w.heap.size≤g) (i0:a0[k]?=some (G,tE,cs)):R5a tE M w1 (a0.set k (G',tE,b0)) (vs.set k v') (bs.set k b'):=by
 obtain⟨h1,h2,h3⟩:=h;have g0:∀g∈G.toList,g∈w3b a0:=fun g hg=>D4a.2 ⟨_,List.mem_of_getElem? i0,by cases G<;>simp at hg ⊢;exact hg.symm⟩;have c0:∀g∈M++w3b (a0.set k (G',tE,b0)),(g∈M++w3b a0∨g∈G'.toList):=fun g hg=>by
  rcases List.mem_append.1 hg with h|h
  ·exact .inl (List.mem_append_left _ h)
  ·rcases s0d h with h|h
   ·exact .inl (List.mem_append_right _ h)
   ·exact .inr h
 refine⟨by simp[h1],by simp[h2],fun i b hi=>?_⟩;rw[List.getElem?_set] at hi;by_cases d0:k=i
 ·subst d0;rw[if_pos rfl,if_pos hk] at hi;cases hi;exact⟨G',b0,v',by rw[List.getElem?_set_self (by omega)],by rw[List.getElem?_set_self (by omega)],e0.more L3a fun g hg=>by
   rcases c0 g hg with h|h
   ·exact .inl (.inr h)
   ·exact .inl (.inl h)⟩
 ·rw[if_neg d0] at hi;obtain⟨Gi,f0,vi,h4,h5,h6⟩:=h3 i b hi;refine⟨Gi,f0,vi,by rw[List.getElem?_set_ne d0];exact h4,by rw[List.getElem?_set_ne d0];exact h5,?_⟩;have e1:T1a O2a 2 (G.toList++(M++w3b (a0.set k (G',tE,b0)))) w Gi f0 vi b:=h6.more L3a fun g hg=>by
   rcases List.mem_append.1 hg with h|h
   ·exact .inl (.inr (List.mem_append_right _ (g0 g h)))
   ·rcases c0 g h with h|h
    ·exact .inl (.inr h)
    ·rcases F g h with h|h
     ·exact .inl (.inr (List.mem_append_right _ (g0 g h)))
     ·exact .inr h
  exact(e1.keep L3a (X.mono fun g hg=>List.mem_append_right _ (List.mem_append_left _ hg))).more L3a fun g hg=>.inl (.inr (List.mem_append_right _ hg))
theorem R5a.rd{tE:TypeId}{M M' Mx:List Nat}{w0 w:World}{A a0:List Ent}{vs:LV}{bs:List (List E1a)}(h:R5a tE M w a0 vs bs)(S:St M' w0 w (A++a0))(hx:∀g∈Mx,g∈M)(hM:∀g∈Mx,g∉w3b a0)(hl:∀b∈bs,b.length≤1000):
 ∀(i:Nat) (b:List E1a),bs[i]?=some b→∃v,vs[i]?=some v∧w4d Mx w v b:=fun i b hi=>by
 obtain⟨_,_,h3⟩:=h;obtain⟨G,cs,v,h4,h5,h6⟩:=h3 i b hi;refine⟨v,h5,?_⟩;have h7:T1a O2a 2 Mx w G cs v b:=h6.more L3a fun g hg=>.inl (.inr (List.mem_append_left _ (hx g hg)));refine h7.rd L3a S (k:=A.length+i) (el:=tE) (by rw[g7c A a0 i _ rfl];exact h4) (fun g hg hm=>hM g hm (D4a.2 ⟨_,List.mem_of_getElem? h4,hg⟩)) (by have:=hl b (List.mem_of_getElem? hi);omega)
theorem R5a.less{tE:TypeId}{M M':List Nat}{w:World}{a0:List Ent}{vs:LV}{bs:List (List E1a)}(h:R5a tE M w a0 vs bs)(hm:∀g∈M',g∈M):R5a tE M' w a0 vs bs:=by
 obtain⟨h1,h2,h3⟩:=h;refine⟨h1,h2,fun i b hi=>?_⟩;obtain⟨G,cs,v,h4,h5,h6⟩:=h3 i b hi;exact⟨G,cs,v,h4,h5,h6.more L3a fun g hg=>.inl (.inr (by
  rcases List.mem_append.1 hg with h|h
  ·exact List.mem_append_left _ (hm g h)
  ·exact List.mem_append_right _ h))⟩
theorem a9b{α:Type}{l:List α}{k:Nat}{x:α}(h:l[k]?=some x):l.set k x=l:=by
 obtain⟨a0,rfl⟩:=List.getElem?_eq_some_iff.1 h;exact List.set_getElem_self a0
theorem RdI.i64s{M:List Nat}{w:World}{v:Value}{l:List Int}(h:RdI M w v l):∀x∈l,i64 x:=fun x hx=>by
 obtain⟨_,_,_,rfl⟩:=h.form;obtain⟨i,hi,rfl⟩:=List.getElem_of_mem hx;obtain⟨_,_,_,_,h5⟩:=h.at;obtain⟨_,_,_,_,a0⟩:=h5 (by omega);obtain⟨_,_,_,h6⟩:=a0 i _ (List.getElem?_eq_getElem hi);exact h6.2
theorem d5a.rd{el:Nat}{w w1:World}{v:Value}{l:List Int}(h:d5a el w w1 v l){M:List Nat}(hM:∀g∈M,g<w.heap.size)(hl:∀x∈l,i64 x)(hb:Below w.heap.size w w1)(hbig:l.length≤140737488355328):RdI M w1 v l:=by
 obtain⟨_,_,h1,S⟩:=h.open_ ((St.refl w).later hb) (St.refl w);exact h1.rdI S (k:=0) Z hM hl hbig
theorem St.sublist{M:List Nat}{w0 w:World}{L L':List Ent}(S:St M w0 w L)(h:L'.Sublist L):St M w0 w L':=⟨S.below,fun b hb=>S.own b (h.subset hb),S.apart.sublist h⟩
theorem St.perm{M:List Nat}{w0 w:World}{L L':List Ent}(S:St M w0 w L)(h:L.Perm L'):St M w0 w L' :=
 ⟨S.below,fun b hb=>S.own b (h.symm.subset hb),(h.pairwise_iff (fun b0 g hg a0=>b0 g a0 hg)).1 S.apart⟩
theorem St.joinR{M:List Nat}{w0 w w':World}{L A R:List Ent}(S:St M w0 w L)(S2:St [] w w' (A++R)):St M w0 w' ((A++L)++R):=by
 refine(S.join S2).perm ?_;rw[List.append_assoc,List.append_assoc];exact(List.perm_append_comm).append_left A
theorem T1a.erase{α:Type}{R:List Nat→World→LV→α→Prop}{size:Nat}(hL:D7a R size){M:List Nat}{w w1:World}{G:Option Nat}{a0:LV}{v:Value}{l:List α}{css:List LV}(l1:css.length=l.length)(l2:∀x∈css,x.length=size)(l4:∀(i:Nat) (x:α),l[i]?=some x→∃c,css[i]?=some c∧R (G.toList++M) w c x)
 {i:Nat} (hi:i<l.length) (rv:S4a G size (l.length-1) a0 v (css.eraseIdx i).flatten) (hk:x0a (G.toList++M) w w1):T1a R size M w1 G a0 v (l.eraseIdx i):=by
 have b0:(l.eraseIdx i).length=l.length-1:=by rw[List.length_eraseIdx,if_pos hi]
 refine⟨css.eraseIdx i,by rw[b0,List.length_eraseIdx,if_pos (by omega),l1],fun x hx=>l2 x (List.mem_of_mem_eraseIdx hx),by rw[b0];exact rv,fun k x hx=>?_⟩;rw[List.getElem?_eraseIdx] at hx ⊢
 split
 ·rename_i h;rw[if_pos h] at hx;obtain⟨c,h5,h6⟩:=l4 k x hx;exact⟨c,h5,hL.keep hk h6⟩
 ·rename_i h;rw[if_neg h] at hx;obtain⟨c,h5,h6⟩:=l4 (k+1) x hx;exact⟨c,h5,hL.keep hk h6⟩
theorem x0a.fresh2{a b c:World}{Q:List Nat}{g:Nat}(h:x0a Q a b)(k:x0a [g] b c)(hg:a.heap.size≤g∨g∈Q):x0a Q a c :=
 ⟨Nat.le_trans h.size k.size,fun i hi hm=>(k.same i (Nat.lt_of_lt_of_le hi h.size) (fun hh=>by rw[List.mem_singleton] at hh;subst hh;rcases hg with hg|hg;omega;exact hm hg)).trans (h.same i hi hm)⟩
theorem x0a.freshL{a b c:World}{Q Gs:List Nat}(h:x0a Q a b)(k:x0a Gs b c)(hg:∀g∈Gs,a.heap.size≤g∨g∈Q):x0a Q a c :=
 ⟨Nat.le_trans h.size k.size,fun i hi hm=>(k.same i (Nat.lt_of_lt_of_le hi h.size) (fun hh=>by rcases hg i hh with hg|hg;omega;exact hm hg)).trans (h.same i hi hm)⟩
section
variable {P:Program} {r:Option Nat} {N:Nat} {D:List Deferred} {e:Env} {w w0:World} {ops:Array Oper} {rest:List Oper} {K:List Deferred→Env→World→Prop} {L:List Ent} {M:List Nat}
variable {d:Nat} {t:TypeId} {p:String} {af:Array Edge} {x y:Operand} {kd:IntKind}
theorem Z8c{o:Oper}{v:Value}{w':World}(hg:o.guard=none)(b0:o.dst=none)(a0:∀c,o.op≠.defer c)
 (d0:(execOp (ev e) o).run P w=.ok (.value v) w') (h:WL P r N ops rest K D e w'):WL P r N ops (o::rest) K D e w:=by
 unfold WL at *;intro a Q hs e0 he hK;have c0:=h a Q hs e0 he hK;simp only[wpListIn,Region.wanted,hg,if_true];refine⟨I0a o w _,?_⟩;have:Oper.semAt (fc r).round a.eval o=execOp (ev e) o:=by rw[Oper.semAt_eq _ _ _ a0,v2a,he]
 rw[this,d0,Oper.uponIn_value,b0];exact c0
end
theorem W5b{size:Nat}:∀(css:List LV) (i:Nat),(∀x∈css,x.length=size)→css.flatten.take (i*size)=(css.take i).flatten
 | [],i,_=>by simp
 | x::css,0,_=>by simp
 | x::css,i+1,h=>by
   have hx:=h x (by simp);rw[List.flatten_cons,List.take_succ_cons,List.flatten_cons,←W5b css i (fun y hy=>h y (by simp[hy])),Nat.add_mul,Nat.one_mul,List.take_append,hx,Nat.add_sub_cancel,List.take_of_length_le (by omega)]
theorem P5a:∀(vs cs:LV) (o:Nat),(e0a cs o vs).length=cs.length
 | [],_,_=>rfl
 | v::vs,cs,o=>by rw[e0a,P5a vs,List.length_set]
theorem n0b:∀(vs cs:LV) (o n:Nat),n≤o→(e0a cs o vs).take n=cs.take n
 | [],_,_,_,_=>rfl
 | v::vs,cs,o,n,h=>by rw[e0a,n0b vs _ _ _ (by omega),List.take_set_of_le h]
abbrev u3d:List Nat→World→LV→Int→Prop:=fun _ _=>r9b
def NC(w:World)(rs:List (Nat×Obj)):Prop:=∀x∈rs,w.heap[x.1]?=some x.2∧∀a t f,x.2≠.cells a t f
theorem NC.nil{w:World}:NC w []:=fun x hx=>by cases hx
theorem NC.lt{w:World}{rs:List (Nat×Obj)}(h:NC w rs):∀x∈rs,x.1<w.heap.size:=fun x hx=>by
 have:=(h x hx).1;rcases Nat.lt_or_ge x.1 w.heap.size with h'|h'
 ·exact h'
 ·rw[Array.getElem?_eq_none h'] at this;cases this
theorem NC.keep{w w':World}{rs:List (Nat×Obj)}(h:NC w rs)(k:x0a [] w w'):NC w' rs:=fun x hx=>⟨(k.same x.1 (h.lt x hx) (by simp)).trans (h x hx).1,(h x hx).2⟩
theorem NC.ne{w:World}{rs:List (Nat×Obj)}(h:NC w rs){g t:Nat}{cs:LV}(hg:p0a w (g,t,cs)):∀x∈rs,x.1≠g:=fun x hx he=>by
 have h1:=(h x hx).1;rw[he] at h1;unfold p0a at hg;rw[hg] at h1;exact(h x hx).2 _ _ _ (Option.some.inj h1).symm
theorem NC.keepS{w w':World}{rs:List (Nat×Obj)}(h:NC w rs){g t:Nat}{cs:LV}(k:x0a [g] w w')(hg:p0a w (g,t,cs)):NC w' rs:=fun x hx =>
 ⟨(k.same x.1 (h.lt x hx) (by rw[List.mem_singleton];exact h.ne hg x hx)).trans (h x hx).1,(h x hx).2⟩
theorem NC.keepL{w w':World}{rs:List (Nat×Obj)}(h:NC w rs){Gs:List Nat}(k:x0a Gs w w')(hg:∀g∈Gs,∃t cs,p0a w (g,t,cs)):NC w' rs:=fun x hx =>
 ⟨(k.same x.1 (h.lt x hx) (fun hh=>by obtain⟨t,cs,hb⟩:=hg _ hh;exact h.ne hb x hx Z)).trans (h x hx).1,(h x hx).2⟩
theorem NC.tail{w:World}{x:Nat×Obj}{rs:List (Nat×Obj)}(h:NC w (x::rs)):NC w rs:=fun y hy=>h y (List.mem_cons_of_mem _ hy)
theorem NC.cons{w:World}{x:Nat×Obj}{rs:List (Nat×Obj)}(h:NC w rs)(h1:w.heap[x.1]?=some x.2)(h2:∀a t f,x.2≠.cells a t f):NC w (x::rs):=fun y hy=>by
 rcases List.mem_cons.1 hy with rfl|hy
 ·exact⟨h1,h2⟩
 ·exact h y hy
theorem NC.put{w:World}{l:Nat}{o o':Obj}{rs:List (Nat×Obj)}(h:NC w ((l,o)::rs))(hl:∀x∈rs,x.1≠l)(ho:∀a t f,o'≠.cells a t f):NC (w.putObj l o') ((l,o')::rs):=by
 have a0:=h.lt (l,o) (by simp);refine NC.cons (fun x hx=>⟨?_,(h.tail x hx).2⟩) (World.putObj_heap_same a0) ho;rw[World.putObj_heap_other (hl x hx)];exact(h.tail x hx).1
theorem St.putObj{M:List Nat}{w0 w:World}{L:List Ent}(S:St M w0 w L){l:Nat}(o:Obj){rs:List (Nat×Obj)}{o1:Obj}(h:NC w rs)(hx:(l,o1)∈rs)(hl:w0.heap.size≤l∨l∈M):St M w0 (w.putObj l o) L:=by
 refine⟨S.below.putObj o hl,fun b hb g hg=>⟨(S.own b hb g hg).1,(S.own b hb g hg).2.putObj (fun he=>?_)⟩,S.apart⟩;exact h.ne (S.own b hb g hg).2 _ hx he.symm
def d3b(rs:List Nat):List (Nat×Obj):=rs.map fun r=>(r,.deferred (some []))
theorem Q3c{rs:List Nat}{x:Nat×Obj}(h:x∈d3b rs):x.1∈rs:=by
 obtain⟨_,hr,rfl⟩:=List.mem_map.1 h;exact hr
def G8a(P:Program)(fn:Func)(R:Value→World→Prop)(D:List Deferred)(e:Env)(w:World):Prop :=
 ∃rs:List Nat,D=rs.map W0b∧rs.Nodup∧NC w (d3b rs)∧∀w',H0a rs w w'→w'.heap.size=w.heap.size→∀tmps:Array Value,P0a { tmps,defers:=[] }=e→∃v,(results fn tmps).run P w'=.ok v w'∧R v w'
theorem B9a{P:Program}{fn:Func}{tmps:Array Value}{R:Value→World→Prop}:∀(rs:List Nat) (w:World),rs.Nodup→NC w (d3b rs)→(∀w',H0a rs w w'→w'.heap.size=w.heap.size→∃v,(results fn tmps).run P w'=.ok v w'∧R v w') →
 LeavesInM Fence.wide 0 P fn tmps (fun en w'=>∃v,en=.returned v∧R v w') (rs.map W0b) .returning w
 | [],w,_,_,h=>by
   obtain⟨v,h1,h2⟩:=h w (H0a.refl _ _) Z;exact⟨v,h1,v,Z,h2⟩
 | r::rs,w,hn,hO,h=>by
   obtain⟨a0,b0⟩:=List.nodup_cons.1 hn;have hr:w.heap[r]?=some (.deferred (some [])):=(hO (r,.deferred (some [])) (by simp[d3b])).1;refine⟨by simp,.inl ⟨r,_,Z,run_takeDeferred hr,B9a rs _ b0 (fun x hx=>⟨?_,(hO x (by simp[d3b] at hx ⊢;exact .inr hx)).2⟩) fun w' hb hs=>?_⟩⟩
   ·rw[World.putObj_heap_other (show x.1≠r from fun he=>a0 (by rw[←he];exact Q3c hx))];exact(hO x (by simp[d3b] at hx ⊢;exact .inr hx)).1
   ·refine h w' ⟨hb.os,hb.tape,hb.output,by simpa using hb.size,fun k hk hm=>?_⟩ (by simpa using hs);simp only[List.mem_cons,not_or] at hm;rw[hb.block k (by simpa using hk) hm.2,World.putObj_heap_other hm.1]
theorem S7a{P:Program}{N:Nat}{w:World}{f:FuncId}{fn:Func}{c:Code}{args:Array Value}{R:Value→World→Prop}(hf:P.funcs[f]?=some fn)(hb:fn.body=some c)(hN:fn.ntmps=N)(a0:Nat.ble args.size N=true)
 (h:W P none N c ⟨G8a P fn R,fun _ _ _ _=>False,G8a P fn R⟩ [] (T0b args) w):A0a P f args w R:=by
 subst hN;unfold W at h;have b0:(args++Array.replicate (fn.ntmps-args.size) undef).size=fn.ntmps:=by
  have:=Nat.le_of_ble_eq_true a0;simp;omega
 have h1:=h { tmps:=args++Array.replicate (fn.ntmps-args.size) undef,defers:=[] } b0 Z (C1b _ _);have key:∀(a:Act) (w:World),G8a P fn R a.defers (P0a a) w→LeavesInM Fence.wide 0 P fn a.tmps (fun en w'=>∃v,en=.returned v∧R v w') a.defers .returning w:=by
  intro a w hq;obtain⟨rs,hD,hn,hO,hq⟩:=hq;rw[hD];exact B9a rs w hn hO fun w' hb hs=>hq w' hb hs a.tmps Z
 refine callsIn_wide (n:=0).1 (callsIn_of_wp_marks hf hb trivial (wpIn_mono h1 fun ex a w hq=>?_));cases ex with
 | normal=>exact key a w hq.2
 | ret=>exact key a w hq.2
 | exit id=>exact hq.2
 | goto l=>exact hq
 | panic c=>exact hq.elim
 | outgrown=>exact hq.elim
theorem x0a.of_belowM{M:List Nat}{w w':World}(h:H0a M w w'):x0a M w w':=⟨h.size,h.block⟩
theorem b1b{w wi:World}{rs:List (Nat×Obj)}{rc:Loop}(hO:NC w rs)(a0:wi.heap[w.heap.size]?=some (.deferred (some [])))(hl:wi.heap[w.heap.size+1]?=some (.loop rc))(hB:Below w.heap.size w wi):NC wi ((w.heap.size+1,.loop rc)::(w.heap.size,.deferred (some []))::rs) :=
 ((hO.keep (x0a.of_below hB)).cons a0 (by simp)).cons hl (by simp)
theorem O7b{rc:Loop}(b0:rc.state=.ready)(a0:rc.pending=none):({ ({ rc with state:=.busy }:Loop) with state:=if(none:Option Code).isNone then .ready else .done,pending:=none }:Loop)=rc:=by
 cases rc;simp at b0 a0 ⊢;exact⟨b0.symm,a0.symm⟩
theorem f3b{M:List Nat}{w0 w:World}{L:List Ent}(S:St M w0 w L)(k:Nat){G:Option Nat}{t:TypeId}{cs:LV}(hk:L[k]?=some (G,t,cs)):∀g∈G.toList,∃t cs,p0a w (g,t,cs):=fun g hg=>by
 have:G=some g:=by cases G<;>simp at hg ⊢;exact hg.symm
 subst this;exact⟨_,_,S.blk k hk⟩
theorem A0c{w0 w:World}{L:List Ent}{M:List Nat}(S:St [] w0 w L){i j g g' t t':Nat}{cs a0:LV}(h0:L[i]?=some (some g,t,cs))(h1:L[j]?=some (some g',t',a0)):∀x∈g::g'::M,x∈M∨w0.heap.size≤x:=fun x hx=>by
 rcases List.mem_cons.1 hx with rfl|hx
 ·exact .inr (by simpa using S.new i h0)
 ·rcases List.mem_cons.1 hx with rfl|hx
  ·exact .inr (by simpa using S.new j h1)
  ·exact .inl hx
theorem z2d{w0 w:World}{L:List Ent}{M:List Nat}(S:St [] w0 w L){i j g g' t t':Nat}{cs a0:LV}(h0:L[i]?=some (some g,t,cs))(h1:L[j]?=some (some g',t',a0))(hM:∀g∈M,g<w0.heap.size):∀x∈g::g'::M,x<w.heap.size:=fun x hx=>by
 rcases List.mem_cons.1 hx with rfl|hx
 ·exact S.lt i h0
 ·rcases List.mem_cons.1 hx with rfl|hx
  ·exact S.lt j h1
  ·exact Nat.lt_of_lt_of_le (hM x hx) S.size
theorem InP.two{p:m0a}{M:List Nat}{w0 w:World}{cs:LV}(h:InP p M w0 cs){L:List Ent}(S:St [] w0 w L){i j g g' t t':Nat}{ds a0:LV}(h0:L[i]?=some (some g,t,ds))(h1:L[j]?=some (some g',t',a0)):InP p (g::g'::M) w cs :=
 ⟨(h.rd.more (A0c S h0 h1)).keep (S.keep0 _),h.ok,(h.msk.more (A0c S h0 h1)).keep (S.keep0 _),z2d S h0 h1 h.lt⟩
def K3d(p:m0a)(m:Int)(c:J2a):List b4a→List J2a
 | []=>[]
 | x::l=>if x∈t5c p m c then doC p m c x::K3d p m (doC p m c x) l else[]
def a4d(p:m0a)(m:Int)(run:List b4a):List J2a:=q2b p::K3d p m (q2b p) run
theorem V5b{M:List Nat}{w w':World}{b:Blk}(hk:x0a M w w')(hm:b.1∉M)(h:p0a w b):p0a w' b:=by
 have:=h.lt;unfold p0a at *;rw[hk.same _ this hm];exact h
theorem InP.grow{p:m0a}{Bs0 M0 N:List Nat}{w0 w:World}{cs:LV}(h:InP p (Bs0++M0) w0 cs)(hK:x0a Bs0 w0 w)(hN:∀g∈N,g∈Bs0++M0∨w0.heap.size≤g)(a0:∀g∈N,g<w.heap.size):InP p N w cs:=by
 have hm:∀g∈Bs0++N,g∈Bs0++M0∨w0.heap.size≤g:=fun g hg=>by
  rcases List.mem_append.1 hg with h|h
  ·exact .inl (List.mem_append_left _ h)
  ·exact hN g h
 have hk:x0a (Bs0++N) w0 w:=hK.mono fun g hg=>List.mem_append_left _ hg;exact⟨((h.rd.more hm).keep hk).less fun g hg=>List.mem_append_right _ hg,h.ok,⟨fun hh=>((h.msk.more hm).keep hk).1 (List.mem_append_right _ hh),((h.msk.more hm).keep hk).2⟩,a0⟩
structure W6c (p:m0a) (m:Int) (run:List b4a) (l:Nat) (Bs0 M0:List Nat) (w0:World) (J:Nat→Nat→List Nat→World→Prop) (Q:World→Prop):Prop where
 start:∀g5 w,w0.heap.size≤g5→Below w0.heap.size w0 w→J g5 0 Bs0 w
 own:∀g5 k Bs w w',w0.heap.size≤g5→g5∉Bs→J g5 k Bs w→H0a [g5] w w'→J g5 k Bs w'
 lt:∀g5 k Bs w,J g5 k Bs w→∀g∈Bs,g<w.heap.size
 each:∀g5 k Bs w c ys (err:Int),w0.heap.size≤g5→g5<w.heap.size→g5∉Bs→J g5 k Bs w→x0a Bs0 w0 w→((err=0∧(a4d p m run)[k]?=some c)∨(err=110∧k=(a4d p m run).length∧(a4d p m run).length≤run.length∧c=⟨[],[],[]⟩))→F2a (g5::(Bs++M0)) w c ys →
  Yld prog l #[.agg ys.toArray,.int .i64 err] w fun v w'=>(err=0∧v=.bool true∧∃Bs',J g5 (k+1) Bs' w'∧x0a Bs w w'∧∀g∈Bs',g∈Bs∨w.heap.size≤g)∨(err=110∧v=.bool false∧Q w')
section
variable {p:m0a} {m:Int} {run:List b4a} {l:Nat} {Bs0 M0:List Nat} {w0:World} {J:Nat→Nat→List Nat→World→Prop} {Q:World→Prop}
theorem W6c.round(h:W6c p m run l Bs0 M0 w0 J Q):∀g5 k Bs w c ys,w0.heap.size≤g5→g5<w.heap.size→g5∉Bs→J g5 k Bs w→x0a Bs0 w0 w→(a4d p m run)[k]?=some c→F2a (g5::(Bs++M0)) w c ys→Yld prog l #[.agg ys.toArray,.int .i64 0] w fun v w'=>v=.bool true∧∃a0,J g5 (k+1) a0 w'∧x0a Bs w w'∧∀g∈a0,g∈Bs∨w.heap.size≤g :=
 fun g5 k Bs w c ys h1 h2 h3 h4 h5 h6 h7=>(h.each g5 k Bs w c ys 0 h1 h2 h3 h4 h5 (.inl ⟨Z,h6⟩) h7).mono fun v w' hh=>by
  rcases hh with⟨_,hh⟩|⟨hh,_⟩
  ·exact hh
  ·omega
end
theorem F2a.grow{c:J2a}{ys:LV}{g5:Nat}{Bs a0 M0:List Nat}{w w':World}(h:F2a (g5::(Bs++M0)) w c ys)(hk:x0a Bs w w')(hb:∀g∈a0,g∈Bs∨w.heap.size≤g):F2a (g5::(a0++M0)) w' c ys:=by
 have h1:F2a (Bs++(g5::(a0++M0))) w c ys:=h.more fun g hg=>by
  simp only[List.mem_append,List.mem_cons] at hg ⊢;rcases hg with hg|rfl|hg|hg
  ·exact .inl (.inr (.inl hg))
  ·exact .inl (.inl Z)
  ·rcases hb g hg with h|h
   ·exact .inl (.inr (.inl h))
   ·exact .inr h
  ·exact .inl (.inr (.inr hg))
 exact(h1.keep (hk.mono fun g hg=>List.mem_append_left _ hg)).less fun g hg=>List.mem_append_right _ hg
theorem St.other{M:List Nat}{w0 w w':World}{L:List Ent}(S:St M w0 w L){g:Nat}(hb:H0a [g] w w')(hg:w0.heap.size≤g)(hn:g∉w3b L):St M w0 w' L:=by
 refine⟨⟨hb.os.trans S.below.os,hb.tape.trans S.below.tape,hb.output.trans S.below.output,Nat.le_trans S.below.size hb.size,fun k hk hm=>?_⟩,fun b hm x hx=>?_,S.apart⟩
 ·rw[hb.block k (Nat.lt_of_lt_of_le hk S.below.size) (by rw[List.mem_singleton];omega)];exact S.below.block k hk hm
 ·obtain⟨h1,h2⟩:=S.own b hm x hx;refine⟨h1,?_⟩;have a0:=h2.lt;unfold p0a at *;rw[hb.block x a0 (by rw[List.mem_singleton];rintro rfl;exact hn (D4a.2 ⟨b,hm,hx⟩))];exact h2
section
variable {P:Program} {r:Option Nat} {N:Nat} {D:List Deferred} {e:Env} {w w0:World} {ops:Array Oper} {rest:List Oper} {K:List Deferred→Env→World→Prop} {L:List Ent} {M:List Nat}
variable {d:Nat} {t:TypeId} {p:String} {af:Array Edge} {x y:Operand} {yt:TypeId}
theorem D2c{ty te:TypeId}(hu:P.underlying ty=some (.pointer te))(w:World)(v:Option Addr):(binOp .eql ty (.pointer v) (.pointer none)).run P w=.ok (.bool v.isNone) w:=by
 have h:∀k:Nat,(Op.equalIn (k+1) ty (.pointer v) (.pointer none)).run P w=.ok v.isNone w:=fun k=>by
  cases v<;>simp[Op.equalIn,run_underlying hu]
 simp only[binOp];simp[Op.equal,Op.maxDepth,h 9999]
theorem w3c{ty te:TypeId}{v:Option Addr}(hu:P.underlying ty=some (.pointer te))(hx:ev e x=.pointer v)(hy:ev e y=.pointer none)(hd:Nat.ble (d+1) N=true)(h:WL P r N ops rest K D (upd e d (.bool v.isNone)) w):
 WL P r N ops (⟨some d,.binOp .eql ty x y yt,t,p,af,none⟩::rest) K D e w :=
 U0a Z Z hd (by simp[execOp,hx,hy,eqGuard,D2c hu]) h
theorem N0d{ty te:TypeId}{j:TypeInfo}{a:Addr}(hu:P.underlying ty=some (.pointer te))(hj:P.info? te=some j)(hx:ev e x=.pointer (some a))(hy:ev e y=.pointer (some a))(hd:Nat.ble (d+1) N=true)(h:WL P r N ops rest K D (upd e d (.bool false)) w):
 WL P r N ops (⟨some d,.binOp .neq ty x y yt,t,p,af,none⟩::rest) K D e w :=
 U0a Z Z hd (by simp[execOp,hx,hy,eqGuard,Lib.run_neq_ptr_same w a hu hj]) h
theorem Z6c{src dst:TypeId}{v u:Value}(hx:ev e x=v)(hc:(convert src dst v).run P w=.ok u w)(hd:Nat.ble (d+1) N=true)(h:WL P r N ops rest K D (upd e d u) w):
 WL P r N ops (⟨some d,.convert src dst x,t,p,af,none⟩::rest) K D e w :=
 U0a Z Z hd (by simp[execOp,hx,hc]) h
theorem J4d{f:FuncId}{at_:Array TypeId}{v:Value}(hx:ev e x=v)(hc:(callFunc f #[v]).run P w=.ok (.value v) w)(hd:Nat.ble (d+1) N=true)(h:WL P r N ops rest K D (upd e d v) w):
 WL P r N ops (⟨some d,.call { callee:=.value (.func f),args:=#[x],argTypes:=at_ },t,p,af,none⟩::rest) K D e w :=
 U0a Z Z hd (by
  have h1:ev e (.func f)=.func (.func f) #[] #[]:=Z;simp[execOp,resolve,Deferred.ofValue,invoke,h1,hx,hc]) h
theorem c1c{ty u el c0 n B:Nat}{z v:Value}{xs:LV}{s:ByteArray}(S:St M w0 w L)(hS:SlZ P ty el 1 z c0)(q0:z=.int .u8 0)(n0:c0=1)(hu:P.underlying u=some .string)(i0:w.ownsRow B el 1 v n xs)(m0:B≤w.heap.size)(hM:∀g,v.ownBlock=some g→w0.heap.size≤g∨g∈M)(g0:∀b∈L,∀g,b.1=some g→v.ownBlock≠some g)
 (hx:ev e x=v) (hy:ev e y=.string s) (hn:n+s.size≤140737488355328) (hd:Nat.ble (d+1) N=true)
 (h:∀A m c w1,w1.ownsRow B el 1 (.slice A m c) (n+s.size) (xs++Lib.strCells s)→St M w0 w1 L→x0a v.ownBlock.toList w w1→WL P r N ops rest K D (upd e d (.slice A m c)) w1) :
 WL P r N ops (⟨some d,.call { callee:=.builtin .append,args:=#[x,y],argTypes:=#[ty,u] },t,p,af,none⟩::rest) K D e w:=by
 subst q0;subst n0;obtain⟨i,hi,hz,p0,o0⟩:=hS.parts;obtain⟨v',w1,j0,d0,a0,_⟩:=Lib.run_append_own_string (P:=P) w B ty u t el i hS.und hu hi hz p0 o0 v n xs i0 s (by unfold maxLen;omega) hn m0;obtain⟨A,m,c,rfl⟩:∃A m c,v'=.slice A m c:=by
  rcases d0.2 with⟨hv,_⟩|⟨g,r0,cur,hv,_⟩
  ·exact⟨_,_,_,hv⟩
  ·exact⟨_,_,_,hv⟩
 have b0:∀q,q<w.heap.size→v.ownBlock≠some q→w1.heap[q]?=w.heap[q]?:=fun q hq g0=>a0.block q hq (fun hh=>g0 hh.symm);have f0:x0a v.ownBlock.toList w w1:=⟨a0.size,fun q hq hm=>b0 q hq (fun hh=>hm (by rw[hh];simp))⟩;have e0:H0a M w0 w1:=⟨a0.os.trans S.below.os,a0.tape.trans S.below.tape,a0.output.trans S.below.output,Nat.le_trans S.size a0.size,fun q hq hm =>
  (b0 q (Nat.lt_of_lt_of_le hq S.size) (fun hh=>by
    rcases hM q hh with h'|h'
    ·omega
    ·exact hm h')).trans (S.below.block q hq hm)⟩
 refine U0a (v:=.slice A m c) (w':=w1) Z Z hd ?_ (h A m c w1 d0 (S.keeps e0 fun b hb g hg=>?_) f0)
 ·simp[execOp,resolve,invoke,builtin,hx,hy,j0]
 ·exact b0 g (S.own b hb g hg).2.lt (g0 b hb g hg)
end
theorem U1a{w w':World}{B e n:Nat}{v:Value}{xs:LV}(h:w.ownsRow B e 1 v n xs){Gs:List Nat}(k:x0a Gs w w')(hg:∀g∈Gs,g<B:=by simp):w'.ownsRow B e 1 v n xs:=by
 obtain⟨h1,h2⟩:=h;refine⟨h1,?_⟩;rcases h2 with h2|⟨g,a0,cur,q1,q2,q3,q4⟩
 ·exact .inl h2
 ·refine .inr ⟨g,a0,cur,q1,q2,?_,q4⟩;have b0:g<w.heap.size:=by
   rcases Nat.lt_or_ge g w.heap.size with h'|h'
   ·exact h'
   ·rw[Array.getElem?_eq_none h'] at q3;cases q3
  rw[k.same g b0 (fun hh=>by have:=hg g hh;omega)];exact q3
theorem u8a{w:World}{B e n:Nat}{v:Value}{xs:LV}(h:w.ownsRow B e 1 v n xs){g:Nat}(hg:v.ownBlock=some g):B≤g∧g<w.heap.size:=by
 rcases h.2 with⟨rfl,_⟩|⟨g',a0,cur,rfl,q2,q3,q4⟩
 ·simp[Value.ownBlock] at hg
 ·simp[Value.ownBlock] at hg;subst hg;refine⟨q2,?_⟩;rcases Nat.lt_or_ge g' w.heap.size with h'|h'
  ·exact h'
  ·rw[Array.getElem?_eq_none h'] at q3;cases q3
theorem Q4b(g:Nat)(pv vb:Value)(e0:pv=.pointer none∨pv=.pointer (some ⟨g,0,none⟩))(w0:World)(hb:p0a w0 (g,145,[pv,vb])):
 A0a prog 149 #[.pointer (some ⟨g,0,none⟩)] w0 fun _ w'=>p0a w' (g,145,[.pointer (some ⟨g,0,none⟩),vb])∧H0a [g] w0 w':=by
 have S:=St.borrow1 hb;obtain⟨j,hj,d0⟩:∃j,prog.info? 145=some j∧j.size=2:=by
  have:(prog.info? 145).map (·.size)=some 2:=by kernel_rfl
  obtain⟨j,h1,h2⟩:=Option.map_eq_some_iff.1 this;exact⟨j,h1,h2⟩
 have b0:∀w:World,p0a w (g,145,[pv,vb])→w.shape? g=some (145,2):=fun w h=>by
  unfold p0a at h;simp[World.shape?,h]
 rcases e0 with rfl|rfl;refine a0a func149 Z ntmps149 Z ?_;refine wO1 Z (G0a Z2b Z (by first|exact S.cell 0 Z Z) Z ?_);refine w3c Tryz.underlying143 Z Z Z ?_;refine lO1 Z ?_;refine Z6c Z (Lib.run_to_unsafe w0 ⟨g,0,none⟩ Tryz.underlying143 Tryz.underlying237 hj (by rw[d0];decide) (b0 _ (S.blk 0 Z)) (Nat.zero_lt_succ 1)) Z ?_;refine J4d Z (by rw[run_callFunc_extern func200 (by kernel_rfl) (by kernel_rfl) (by kernel_rfl) (e:=Extern.AbiNoEscape.same) (by kernel_rfl),Lib.run_noEscape];rfl) Z ?_;refine Z6c Z (Lib.run_from_unsafe w0 ⟨g,0,none⟩ Tryz.underlying237 Tryz.underlying143 hj (b0 _ (S.blk 0 Z)) (by kernel_rfl)) Z ?_;refine lO1 Z ?_
 first|refine X0a (kk:=0) S H3d Z Z Z (by exact Nat.le_of_ble_eq_true Z) ?_
 intro f0 a0 c0;refine lF1 Z (J1a Z ?_);exact⟨a0.blk 0 Z,a0.below⟩;refine a0a func149 Z ntmps149 Z ?_;refine wO1 Z (G0a Z2b Z (by first|exact S.cell 0 Z Z) Z ?_);refine w3c Tryz.underlying143 Z Z Z ?_;refine lO1 Z (G0a Z2b Z (by first|exact S.cell 0 Z Z) Z ?_);refine lOn 1 S.k [] Z U (N0d Tryz.underlying143 hj Z Z Z ?_);refine lF1 Z (J1a Z ?_);exact⟨S.blk 0 Z,S.below⟩
theorem x2a(B g:Nat)(t0:g<B)(pv vb:Value)(o0:pv=.pointer none∨pv=.pointer (some ⟨g,0,none⟩))(n:Nat)(bs:LV)(s:ByteArray)(w0:World)(j0:B≤w0.heap.size)(hb:p0a w0 (g,145,[pv,vb]))(e0:w0.ownsRow B 5 1 vb n bs)(n0:n+s.size≤1000000):
 A0a prog 96 #[.pointer (some ⟨g,0,none⟩),.string s] w0 fun _ w'=>(∃g0,p0a w' (g,145,[.pointer (some ⟨g,0,none⟩),g0])∧w'.ownsRow B 5 1 g0 (n+s.size) (bs++Lib.strCells s))∧H0a (g::vb.ownBlock.toList) w0 w':=by
 have S:St (g::vb.ownBlock.toList) w0 w0 [(some g,145,[pv,vb])]:=(St.reflM _ w0).push hb (.inr (by simp)) (by simp);refine a0a func96 Z ntmps96 Z ?_;refine wO1 Z (a2a z1d Z Z (Q4b g pv vb o0 _ (S.blk 0 Z)) ?_);rintro v7 w7 ⟨m0,B7⟩;have S7:=S.changed1 0 Z B7 m0;have a0:=U1a (hg:=(fun x hx=>by rw[List.mem_singleton] at hx;omega)) e0 (x0a.of_belowM B7);refine lO1 Z (G0a F7c Z (by first|exact S7.cell 0 Z Z) Z ?_);refine lO1 Z ?_;refine c1c S7 z7c Z Z Tryz.underlying9 a0 (Nat.le_trans j0 S7.size) (fun x hx=>.inr (by simp[hx])) (fun b f0 x hx hh=>by simp at f0;subst f0;cases hx;have:=(u8a a0 hh).1;omega) Z Z (by omega) Z ?_;intro q0 u0 s0 v0 b0 i0 r0;refine lO1 Z ?_
 first|refine X0a (kk:=0) i0 D4d Z Z Z (by exact Nat.le_of_ble_eq_true Z) ?_
 intro p0 c0 d0;refine lO1 Z (z0b Tryz.underlying9 Z Z ?_);refine lR1 Z (o3b Z ?_);exact⟨⟨_,c0.blk 0 Z,U1a (hg:=(fun x hx=>by rw[List.mem_singleton] at hx;omega)) b0 d0⟩,c0.below⟩
def o7a(l:List UInt8):ByteArray:=⟨l.toArray⟩
theorem V2a(l:List UInt8):(o7a l).size=l.length:=by simp[o7a,ByteArray.size]
theorem t7b(a b:List UInt8):o7a a++o7a b=o7a (a++b):=by
 apply ByteArray.ext;simp[o7a]
section
variable {P:Program} {r:Option Nat} {N:Nat} {D:List Deferred} {e:Env} {w w0:World} {ops:Array Oper} {rest:List Oper} {K:List Deferred→Env→World→Prop} {L:List Ent} {M:List Nat}
variable {d:Nat} {t:TypeId} {p:String} {af:Array Edge} {x y:Operand} {xt yt:TypeId} {C:World→Prop} {Kq:Env→Prop}
theorem I4c{xt:TypeId}(w:World)(a b:List UInt8)(h:a.length+b.length≤1000000):(binOp .add xt (.string (o7a a)) (.string (o7a b))).run P w=.ok (.string (o7a (a++b))) w:=by
 have h1:((o7a a).size:Int)≤8388608:=by rw[V2a];omega
 have h2:((o7a b).size:Int)≤8388608:=by rw[V2a];omega
 simp[binOp,run_string_add w (o7a a) (o7a b) h1 h2,t7b]
theorem c8a{a b:List UInt8}(hx:ev e x=.string (o7a a))(hy:ev e y=.string (o7a b))(hs:a.length+b.length≤1000000)(hd:Nat.ble (d+1) N=true)(h:QL P N ops C rest Kq (upd e d (.string (o7a (a++b))))):
 QL P N ops C (⟨some d,.binOp .add xt x y yt,t,p,af,none⟩::rest) Kq e :=
 D2a Z Z hd (fun w _=>by simp[execOp,hx,hy,eqGuard,I4c w a b hs]) h
end
def Q9b(n:Int):List UInt8:=Lib.decDigits n.toNat
theorem i7a{n:Int}(h0:0≤n)(h:n<100):(Q9b n).length≤2:=by
 unfold Q9b;generalize hk:n.toNat=k;rw[Lib.decDigits]
 split
 ·simp
 ·rw[Lib.decDigits,dif_pos (by omega)];simp
def h2c(op:Int):List UInt8:=if op=2 then[99] else if op=3 then[111] else[]
theorem G3b(op:Int):(h2c op).length≤1:=by
 unfold h2c
 split
 ·simp
 ·split<;>simp
def h2b:List (List UInt8):=[[110,111,116],[97,110,100],[111,114],[120,111,114],[97,100,100],[115,117,98],[109,117,108],[101,113],[108,116],[108,101],[105,116,101]]
mutual
def E.txt:E→List UInt8
 | ⟨op,w,n,ks⟩=>if op=1∨op=2∨op=3 then h2c op++Q9b n++[58]++Q9b w else h2b.getD (op-4).toNat []++E.txts ks 40++[41]
def E.txts:List E→UInt8→List UInt8
 | [],_=>[]
 | k::ks,c=>c::(E.txt k++E.txts ks 44)
end
mutual
def E.txB:E→Bool
 | ⟨op,w,n,ks⟩=>if op=1∨op=2∨op=3 then decide (0≤n∧n<100∧0≤w∧w<100) else decide (4≤op∧op≤14)&&E.txBs ks
def E.txBs:List E→Bool
 | []=>true
 | k::ks=>E.txB k&&E.txBs ks
end
theorem E.txt_leaf{e:E}(h:e.op=1∨e.op=2∨e.op=3):e.txt=h2c e.op++Q9b e.n++[58]++Q9b e.w:=by cases e;simp only[E.txt];rw[if_pos h]
theorem E.txt_node{e:E}(h:¬(e.op=1∨e.op=2∨e.op=3)):e.txt=h2b.getD (e.op-4).toNat []++E.txts e.kids 40++[41]:=by cases e;simp only[E.txt];rw[if_neg h]
theorem E.txB_leaf{e:E}(h:e.op=1∨e.op=2∨e.op=3)(hb:e.txB=true):0≤e.n∧e.n<100∧0≤e.w∧e.w<100:=by
 cases e;simp only[E.txB] at hb;rw[if_pos h] at hb;exact of_decide_eq_true hb
theorem E.txBs_iff(ks:List E):E.txBs ks=true↔∀k∈ks,k.txB=true:=by
 induction ks with
 | nil=>simp[E.txBs]
 | cons k ks ih=>simp[E.txBs,ih]
theorem E.txB_node{e:E}(h:¬(e.op=1∨e.op=2∨e.op=3))(hb:e.txB=true):(4≤e.op∧e.op≤14)∧∀k∈e.kids,k.txB=true:=by
 cases e;simp only[E.txB] at hb;rw[if_neg h,Bool.and_eq_true,E.txBs_iff] at hb;exact⟨of_decide_eq_true hb.1,hb.2⟩
theorem E.txts_snoc:∀(l:List E) (x:E) (c:UInt8),E.txts (l++[x]) c=E.txts l c++((if l=[] then c else 44)::x.txt)
 | [],x,c=>by simp[E.txts]
 | y::l,x,c=>by
   rw[List.cons_append];simp only[E.txts];rw[E.txts_snoc l x 44];simp
theorem E.txts_take{ks:List E}{k:Nat}{x:E}(c:UInt8)(h:ks[k]?=some x):E.txts (ks.take (k+1)) c=E.txts (ks.take k) c++((if k=0 then c else 44)::x.txt):=by
 rw[u0a h,E.txts_snoc]
 congr 2
 have hl:k<ks.length:=(List.getElem?_eq_some_iff.1 h).1;by_cases hk:k=0
 ·subst hk;simp
 ·rw[if_neg hk,if_neg (fun hh=>hk (by have:=congrArg List.length hh;rw[List.length_take,List.length_nil] at this;omega))]
theorem E.txts_pre(ks:List E)(c:UInt8)(k:Nat):(E.txts (ks.take k) c).length≤(E.txts ks c).length:=by
 induction ks generalizing c k with
 | nil=>simp
 | cons y ks ih =>
   cases k with
   | zero=>simp[E.txts]
   | succ k =>
     have:=ih 44 k;simp only[List.take_succ_cons,E.txts,List.length_cons,List.length_append];omega
structure BX (B g:Nat) (w w':World):Prop where
 os:w'.os=w.os
 tape:w'.tape=w.tape
 output:w'.output=w.output
 size:w.heap.size≤w'.heap.size
 block:∀k,k<B→k≠g→w'.heap[k]?=w.heap[k]?
theorem BX.trans{B g:Nat}{a b c:World}(h:BX B g a b)(h2:BX B g b c):BX B g a c:=⟨h2.os.trans h.os,h2.tape.trans h.tape,h2.output.trans h.output,Nat.le_trans h.size h2.size,fun k h1 h3=>(h2.block k h1 h3).trans (h.block k h1 h3)⟩
def MB(B g:Nat)(w:World):List Nat:=g::List.range' B (w.heap.size-B)
theorem a8a{B g k:Nat}{w:World}:k∈MB B g w↔k=g∨(B≤k∧k<w.heap.size):=by
 unfold MB;rw[List.mem_cons,List.mem_range'_1];constructor
 ·rintro(h|h)
  ·exact .inl h
  ·exact .inr (by omega)
 ·rintro(h|h)
  ·exact .inl h
  ·exact .inr (by omega)
theorem BX.ofB{B g:Nat}{M:List Nat}{w w':World}(h:H0a M w w')(hM:∀x∈M,x=g∨B≤x)(hB:B≤w.heap.size):BX B g w w':=⟨h.os,h.tape,h.output,h.size,fun k h1 h2=>h.block k (by omega) fun hh=>by rcases hM k hh with h3|h3<;>omega⟩
theorem St.bx{B g:Nat}{w0 w:World}{L:List Ent}(S:St (MB B g w0) w0 w L)(hB:B≤w0.heap.size):BX B g w0 w:=BX.ofB S.below (fun _ hx=>(a8a.1 hx).imp id And.left) hB
theorem St.wrote{B g t:Nat}{w0 w w':World}{L:List Ent}{a0:LV}(S:St (MB B g w0) w0 w L)(h:BX B g w w')(hb:p0a w' (g,t,a0)):St (MB B g w0) w0 w' [(some g,t,a0)]:=by
 have S1:St (MB B g w0) w0 w' []:=⟨⟨h.os.trans S.below.os,h.tape.trans S.below.tape,h.output.trans S.below.output,Nat.le_trans S.below.size h.size,fun k h1 h2=>by
  have h3:k<B∧k≠g:=by
   rcases Nat.lt_or_ge k B with h4|h4
   ·exact⟨h4,fun h5=>h2 (a8a.2 (.inl h5))⟩
   ·exact absurd (a8a.2 (.inr ⟨h4,h1⟩)) h2
  exact(h.block k h3.1 h3.2).trans (S.below.block k h1 h2)⟩,by simp,by simp⟩
 exact S1.push hb (.inr (a8a.2 (.inl Z))) (by simp)
end Go.Fw
namespace Go.Proofs
open Go.Fw Go.RowKit Go.ChangeShapes Go.WideShapes Go.Shelf Tryz
def Tryz.lays169_ren:Go.Shelf.Ren:=⟨fun|169=>99|n=>n,fun|70=>143|9=>9|0=>0|72=>145|37=>47|127=>199|3=>3|5=>5|n=>n,fun|n=>n⟩
theorem Tryz.lays169:Go.Proofs.Lays.n169 prog Tryz.lays169_ren:={
 mixed:=by kernel_rfl
 f169:=func99.trans (congrArg some (by kernel_rfl))
 t0:=Tryz.underlying0
 a0:=Tryz.isAgg0
 z0:=Tryz.sizeOf0
 v0:=Tryz.zeroValue0
 t3:=Tryz.underlying3
 a3:=Tryz.isAgg3
 z3:=Tryz.sizeOf3
 v3:=Tryz.zeroValue3
 t9:=Tryz.underlying9
 a9:=Tryz.isAgg9
 z9:=Tryz.sizeOf9
 v9:=Tryz.zeroValue9
 t37:=Tryz.underlying47
 a37:=Tryz.isAgg47
 z37:=Tryz.sizeOf47
 v37:=Tryz.zeroValue47
 t70:=Tryz.underlying143
 a70:=Tryz.isAgg143
 z70:=Tryz.sizeOf143
 v70:=Tryz.zeroValue143
 t72:=Tryz.underlying145
 a72:=Tryz.isAgg145
 z72:=Tryz.sizeOf145
 v72:=Tryz.zeroValue145
 t127:=Tryz.underlying199
 a127:=Tryz.isAgg199
 z127:=Tryz.sizeOf199
 v127:=Tryz.zeroValue199 }
theorem Tryz.Builder_Extra_169:Builder.Extra prog Tryz.lays169_ren:={
 sizeBuilder:=by kernel_rfl
 liesBuilder:=by kernel_rfl
 t5:=Tryz.underlying5
 a5:=Tryz.isAgg5
 z5:=Tryz.sizeOf5
 v5:=Tryz.zeroValue5
 infoByte:=by kernel_rfl
 cellsByte:=by kernel_rfl
 sizeByte:=by kernel_rfl
 neB5:=by decide }
open Go.RowKit in
theorem Tryz.Builder_String_any(B b:Nat)(l:List UInt8)(w:World)(h:Lib.IsBuilder 145 5 B b (Lib.byteCells l) w)(hBw:B≤w.heap.size):
 Calls prog 99 #[.pointer (some ⟨b,0,none⟩)] w fun e w'=>e=.returned (.string ⟨l.toArray⟩)∧Below B w w':=Any.Builder_String_any Tryz.lays169 Tryz.Builder_Extra_169 B b l w h hBw
def Tryz.lays122_ren:Go.Shelf.Ren:=⟨fun|122=>158|215=>223|n=>n,fun|3=>3|4=>4|n=>n,fun|n=>n⟩
theorem Tryz.lays122:Go.Proofs.Lays.n122 prog Tryz.lays122_ren:={
 mixed:=by kernel_rfl
 f122:=func158.trans (congrArg some (by kernel_rfl))
 f215:=func223.trans (congrArg some (by kernel_rfl))
 t3:=Tryz.underlying3
 a3:=Tryz.isAgg3
 z3:=Tryz.sizeOf3
 v3:=Tryz.zeroValue3
 t4:=Tryz.underlying4
 a4:=Tryz.isAgg4
 z4:=Tryz.sizeOf4
 v4:=Tryz.zeroValue4 }
open Go.RowKit in
theorem Tryz.cmp_Compare_int(x y:Int)(w:World):
 Calls prog 158 #[.int .i64 x,.int .i64 y] w fun e w'=>e=.returned (.int .i64 (Lib.compareInt x y))∧w'=w:=Any.cmp_Compare_int Tryz.lays122 x y w
def Tryz.lays171_ren:Go.Shelf.Ren:=⟨fun|171=>98|243=>150|246=>201|283=>242|284=>243|285=>244|286=>245|129=>188|317=>264|318=>265|319=>266|320=>267|337=>278|338=>258|n=>n,fun|3=>3|9=>9|2=>2|4=>4|171=>270|0=>0|53=>171|37=>47|5=>5|173=>272|212=>288|51=>67|20=>20|213=>289|46=>137|232=>296|233=>292|n=>n,fun|17=>2|18=>4|19=>3|n=>n⟩
theorem Tryz.lays171:Go.Proofs.Lays.n171 prog Tryz.lays171_ren:={
 mixed:=by kernel_rfl
 f129:=func188.trans (congrArg some (by kernel_rfl))
 f171:=func98.trans (congrArg some (by kernel_rfl))
 f243:=func150.trans (congrArg some (by kernel_rfl))
 f246:=func201.trans (congrArg some (by kernel_rfl))
 f283:=func242.trans (congrArg some (by kernel_rfl))
 f284:=func243.trans (congrArg some (by kernel_rfl))
 f285:=func244.trans (congrArg some (by kernel_rfl))
 f286:=func245.trans (congrArg some (by kernel_rfl))
 f317:=func264.trans (congrArg some (by kernel_rfl))
 f318:=func265.trans (congrArg some (by kernel_rfl))
 f319:=func266.trans (congrArg some (by kernel_rfl))
 f320:=func267.trans (congrArg some (by kernel_rfl))
 f337:=func278.trans (congrArg some (by kernel_rfl))
 f338:=func258.trans (congrArg some (by kernel_rfl))
 t0:=Tryz.underlying0
 a0:=Tryz.isAgg0
 z0:=Tryz.sizeOf0
 v0:=Tryz.zeroValue0
 t2:=Tryz.underlying2
 a2:=Tryz.isAgg2
 z2:=Tryz.sizeOf2
 v2:=Tryz.zeroValue2
 t3:=Tryz.underlying3
 a3:=Tryz.isAgg3
 z3:=Tryz.sizeOf3
 v3:=Tryz.zeroValue3
 t4:=Tryz.underlying4
 a4:=Tryz.isAgg4
 z4:=Tryz.sizeOf4
 v4:=Tryz.zeroValue4
 t5:=Tryz.underlying5
 a5:=Tryz.isAgg5
 z5:=Tryz.sizeOf5
 v5:=Tryz.zeroValue5
 t9:=Tryz.underlying9
 a9:=Tryz.isAgg9
 z9:=Tryz.sizeOf9
 v9:=Tryz.zeroValue9
 t20:=Tryz.underlying20
 a20:=Tryz.isAgg20
 z20:=Tryz.sizeOf20
 v20:=Tryz.zeroValue20
 t37:=Tryz.underlying47
 a37:=Tryz.isAgg47
 z37:=Tryz.sizeOf47
 v37:=Tryz.zeroValue47
 t46:=Tryz.underlying137
 a46:=Tryz.isAgg137
 z46:=Tryz.sizeOf137
 v46:=Tryz.zeroValue137
 t51:=Tryz.underlying67
 a51:=Tryz.isAgg67
 z51:=Tryz.sizeOf67
 v51:=Tryz.zeroValue67
 t53:=Tryz.underlying171
 a53:=Tryz.isAgg171
 z53:=Tryz.sizeOf171
 v53:=Tryz.zeroValue171
 t171:=Tryz.underlying270
 a171:=Tryz.isAgg270
 z171:=Tryz.sizeOf270
 v171:=Tryz.zeroValue270
 t173:=Tryz.underlying272
 a173:=Tryz.isAgg272
 z173:=Tryz.sizeOf272
 v173:=Tryz.zeroValue272
 t212:=Tryz.underlying288
 a212:=Tryz.isAgg288
 z212:=Tryz.sizeOf288
 v212:=Tryz.zeroValue288
 t213:=Tryz.underlying289
 a213:=Tryz.isAgg289
 z213:=Tryz.sizeOf289
 t232:=Tryz.underlying296
 a232:=Tryz.isAgg296
 z232:=Tryz.sizeOf296
 v232:=Tryz.zeroValue296
 t233:=Tryz.underlying292
 a233:=Tryz.isAgg292
 z233:=Tryz.sizeOf292
 v233:=Tryz.zeroValue292
 g17:=by kernel_rfl
 g18:=by kernel_rfl
 g19:=by kernel_rfl }
open Go.RowKit Go.Sort Go.Lib in
theorem Tryz.strconv_Itoa_small(i:Nat)(hi:i<100)(w:World):
 Calls prog 98 #[.int .i64 i] w fun e w'=>e=.returned (.string ⟨(Lib.decDigits i).toArray⟩)∧w'=w:=Any.strconv_Itoa_small Tryz.lays171 i hi w
def Tryz.lays189_ren:Go.Shelf.Ren:=⟨fun|189=>68|125=>124|257=>123|128=>187|129=>188|294=>178|295=>179|296=>180|297=>181|298=>182|299=>183|216=>184|300=>185|301=>186|328=>233|329=>234|330=>235|331=>236|332=>237|215=>223|343=>259|n=>n,fun|28=>28|3=>3|46=>137|0=>0|51=>67|53=>171|4=>4|183=>224|182=>223|131=>228|5=>5|9=>9|218=>262|222=>266|228=>284|229=>285|n=>n,fun|n=>n⟩
theorem Tryz.lays189:Go.Proofs.Lays.n189 prog Tryz.lays189_ren:={
 mixed:=by kernel_rfl
 f125:=func124.trans (congrArg some (by kernel_rfl))
 f128:=func187.trans (congrArg some (by kernel_rfl))
 f129:=func188.trans (congrArg some (by kernel_rfl))
 f189:=func68.trans (congrArg some (by kernel_rfl))
 f215:=func223.trans (congrArg some (by kernel_rfl))
 f216:=func184.trans (congrArg some (by kernel_rfl))
 f257:=func123.trans (congrArg some (by kernel_rfl))
 f294:=func178.trans (congrArg some (by kernel_rfl))
 f295:=func179.trans (congrArg some (by kernel_rfl))
 f296:=func180.trans (congrArg some (by kernel_rfl))
 f297:=func181.trans (congrArg some (by kernel_rfl))
 f298:=func182.trans (congrArg some (by kernel_rfl))
 f299:=func183.trans (congrArg some (by kernel_rfl))
 f300:=func185.trans (congrArg some (by kernel_rfl))
 f301:=func186.trans (congrArg some (by kernel_rfl))
 f328:=func233.trans (congrArg some (by kernel_rfl))
 f329:=func234.trans (congrArg some (by kernel_rfl))
 f330:=func235.trans (congrArg some (by kernel_rfl))
 f331:=func236.trans (congrArg some (by kernel_rfl))
 f332:=func237.trans (congrArg some (by kernel_rfl))
 f343:=func259.trans (congrArg some (by kernel_rfl))
 t0:=Tryz.underlying0
 a0:=Tryz.isAgg0
 z0:=Tryz.sizeOf0
 v0:=Tryz.zeroValue0
 t3:=Tryz.underlying3
 a3:=Tryz.isAgg3
 z3:=Tryz.sizeOf3
 v3:=Tryz.zeroValue3
 t4:=Tryz.underlying4
 a4:=Tryz.isAgg4
 z4:=Tryz.sizeOf4
 v4:=Tryz.zeroValue4
 t5:=Tryz.underlying5
 a5:=Tryz.isAgg5
 z5:=Tryz.sizeOf5
 v5:=Tryz.zeroValue5
 t9:=Tryz.underlying9
 a9:=Tryz.isAgg9
 z9:=Tryz.sizeOf9
 v9:=Tryz.zeroValue9
 t28:=Tryz.underlying28
 a28:=Tryz.isAgg28
 z28:=Tryz.sizeOf28
 v28:=Tryz.zeroValue28
 t46:=Tryz.underlying137
 a46:=Tryz.isAgg137
 z46:=Tryz.sizeOf137
 v46:=Tryz.zeroValue137
 t51:=Tryz.underlying67
 a51:=Tryz.isAgg67
 z51:=Tryz.sizeOf67
 v51:=Tryz.zeroValue67
 t53:=Tryz.underlying171
 a53:=Tryz.isAgg171
 z53:=Tryz.sizeOf171
 v53:=Tryz.zeroValue171
 t131:=Tryz.underlying228
 a131:=Tryz.isAgg228
 z131:=Tryz.sizeOf228
 v131:=Tryz.zeroValue228
 t182:=Tryz.underlying223
 a182:=Tryz.isAgg223
 z182:=Tryz.sizeOf223
 v182:=Tryz.zeroValue223
 t183:=Tryz.underlying224
 a183:=Tryz.isAgg224
 z183:=Tryz.sizeOf224
 v183:=Tryz.zeroValue224
 t218:=Tryz.underlying262
 a218:=Tryz.isAgg262
 z218:=Tryz.sizeOf262
 v218:=Tryz.zeroValue262
 t222:=Tryz.underlying266
 a222:=Tryz.isAgg266
 z222:=Tryz.sizeOf266
 v222:=Tryz.zeroValue266
 t228:=Tryz.underlying284
 a228:=Tryz.isAgg284
 z228:=Tryz.sizeOf284
 v228:=Tryz.zeroValue284
 t229:=Tryz.underlying285
 a229:=Tryz.isAgg285
 z229:=Tryz.sizeOf285
 v229:=Tryz.zeroValue285 }
open Go.Sort Go.RowKit in
theorem Tryz.slices_Sort_int(blk off cap:Nat)(zs:List Int)(w:World)(hH:Holds (Value.int .i64) w blk off zs.toArray)(hblk:blk<w.heap.size)(hsz:zs.length<4611686018427387904):
 Calls prog 68 #[.slice (some ⟨blk,off,none⟩) zs.length cap] w fun e w' =>
  e=.returned (.tuple #[])∧∃n os,w'=grow (putRow (Value.int .i64) (Sort.ahead w n) blk off (zs.mergeSort fun x y=>decide (x≤y)).toArray) os:=Any.slices_Sort_int Tryz.lays189 blk off cap zs w hH hblk hsz
def Tryz.laysNm220_ren:Go.Shelf.Ren:=⟨fun|20=>70|n=>n,fun|22=>28|3=>3|4=>4|0=>0|n=>n,fun|n=>n⟩
theorem Tryz.laysNm220:Go.Proofs.Lays2.n20 prog Tryz.laysNm220_ren:={
 mixed:=by kernel_rfl
 f20:=func70.trans (congrArg some (by kernel_rfl))
 t0:=Tryz.underlying0
 a0:=Tryz.isAgg0
 z0:=Tryz.sizeOf0
 v0:=Tryz.zeroValue0
 t3:=Tryz.underlying3
 a3:=Tryz.isAgg3
 z3:=Tryz.sizeOf3
 v3:=Tryz.zeroValue3
 t4:=Tryz.underlying4
 a4:=Tryz.isAgg4
 z4:=Tryz.sizeOf4
 v4:=Tryz.zeroValue4
 t22:=Tryz.underlying28
 a22:=Tryz.isAgg28
 z22:=Tryz.sizeOf28
 v22:=Tryz.zeroValue28
 i3:=by kernel_rfl }
open Go.RowKit Go.Lib Go.Sort in
theorem Tryz.slices_Compact_int(blk off cap:Nat)(zs:List Int)(w:World)(hH:Holds (Value.int .i64) w blk off zs.toArray)(hsz:zs.length≤9223372036854775807)(hcap:zs.length≤cap):
 Calls prog 70 #[.slice (some ⟨blk,off,none⟩) zs.length cap] w fun e w'=>e=.returned (.slice (some ⟨blk,off,none⟩) (Lib.compact zs).length cap)∧∃q,w'=putRow (Value.int .i64) (Sort.ahead w q) blk off (Lib.compact zs++List.replicate (zs.length-(Lib.compact zs).length) 0).toArray:=Any.slices_Compact_int Tryz.laysNm220 blk off cap zs w hH hsz hcap
open Go.RowKit Go.Lib Go.Sort in
theorem Tryz.slices_Compact_int_empty(a:Option Addr)(cap:Nat)(w:World):
 Calls prog 70 #[.slice a 0 cap] w fun e w'=>e=.returned (.slice a 0 cap)∧w'=w:=Any.slices_Compact_int_empty Tryz.laysNm220 a cap w
open Go.RowKit Go.Sort in
theorem Tryz.slices_Sort_int_none(p:Option Addr)(cap:Nat)(w:World):
 Calls prog 68 #[.slice p 0 cap] w fun e w'=>e=.returned (.tuple #[])∧w'=w:=Any.slices_Sort_int_none Tryz.lays189 p cap w
def Tryz.laysSlF06_f101_ren:Go.Shelf.Ren:=⟨fun|6=>101|15=>124|14=>156|28=>187|29=>188|20=>215|21=>216|22=>217|23=>218|24=>219|25=>220|26=>221|27=>222|46=>251|47=>234|48=>235|49=>252|50=>253|57=>277|n=>n,fun|22=>32|24=>72|25=>157|3=>3|39=>137|0=>0|53=>67|55=>171|4=>4|46=>224|45=>223|50=>228|5=>5|9=>9|66=>262|70=>266|76=>284|77=>285|n=>n,fun|n=>n⟩
theorem Tryz.laysSlF06_f101:Go.Proofs.SlLaysF0.n6 prog Tryz.laysSlF06_f101_ren:={
 mixed:=by kernel_rfl
 f6:=⟨Tryz.f101.name,by decide,func101.trans (congrArg some (by kernel_rfl))⟩
 f14:=⟨Tryz.f156.name,by decide,func156.trans (congrArg some (by kernel_rfl))⟩
 f15:=func124.trans (congrArg some (by kernel_rfl))
 f20:=⟨Tryz.f215.name,by decide,func215.trans (congrArg some (by kernel_rfl))⟩
 f21:=⟨Tryz.f216.name,by decide,func216.trans (congrArg some (by kernel_rfl))⟩
 f22:=⟨Tryz.f217.name,by decide,func217.trans (congrArg some (by kernel_rfl))⟩
 f23:=⟨Tryz.f218.name,by decide,func218.trans (congrArg some (by kernel_rfl))⟩
 f24:=⟨Tryz.f219.name,by decide,func219.trans (congrArg some (by kernel_rfl))⟩
 f25:=⟨Tryz.f220.name,by decide,func220.trans (congrArg some (by kernel_rfl))⟩
 f26:=⟨Tryz.f221.name,by decide,func221.trans (congrArg some (by kernel_rfl))⟩
 f27:=⟨Tryz.f222.name,by decide,func222.trans (congrArg some (by kernel_rfl))⟩
 f28:=func187.trans (congrArg some (by kernel_rfl))
 f29:=func188.trans (congrArg some (by kernel_rfl))
 f46:=⟨Tryz.f251.name,by decide,func251.trans (congrArg some (by kernel_rfl))⟩
 f47:=func234.trans (congrArg some (by kernel_rfl))
 f48:=func235.trans (congrArg some (by kernel_rfl))
 f49:=⟨Tryz.f252.name,by decide,func252.trans (congrArg some (by kernel_rfl))⟩
 f50:=⟨Tryz.f253.name,by decide,func253.trans (congrArg some (by kernel_rfl))⟩
 f57:=⟨Tryz.f277.name,by decide,func277.trans (congrArg some (by kernel_rfl))⟩
 t0:=Tryz.underlying0
 a0:=Tryz.isAgg0
 z0:=Tryz.sizeOf0
 v0:=Tryz.zeroValue0
 t3:=Tryz.underlying3
 a3:=Tryz.isAgg3
 z3:=Tryz.sizeOf3
 v3:=Tryz.zeroValue3
 t4:=Tryz.underlying4
 a4:=Tryz.isAgg4
 z4:=Tryz.sizeOf4
 v4:=Tryz.zeroValue4
 t5:=Tryz.underlying5
 a5:=Tryz.isAgg5
 z5:=Tryz.sizeOf5
 v5:=Tryz.zeroValue5
 t9:=Tryz.underlying9
 a9:=Tryz.isAgg9
 z9:=Tryz.sizeOf9
 v9:=Tryz.zeroValue9
 t22:=Tryz.underlying32
 a22:=Tryz.isAgg32
 z22:=Tryz.sizeOf32
 v22:=Tryz.zeroValue32
 t25:=Tryz.underlying157
 a25:=Tryz.isAgg157
 z25:=Tryz.sizeOf157
 v25:=Tryz.zeroValue157
 t39:=Tryz.underlying137
 a39:=Tryz.isAgg137
 z39:=Tryz.sizeOf137
 v39:=Tryz.zeroValue137
 t45:=Tryz.underlying223
 a45:=Tryz.isAgg223
 z45:=Tryz.sizeOf223
 v45:=Tryz.zeroValue223
 t46:=Tryz.underlying224
 a46:=Tryz.isAgg224
 z46:=Tryz.sizeOf224
 v46:=Tryz.zeroValue224
 t50:=Tryz.underlying228
 a50:=Tryz.isAgg228
 z50:=Tryz.sizeOf228
 v50:=Tryz.zeroValue228
 t53:=Tryz.underlying67
 a53:=Tryz.isAgg67
 z53:=Tryz.sizeOf67
 v53:=Tryz.zeroValue67
 t55:=Tryz.underlying171
 a55:=Tryz.isAgg171
 z55:=Tryz.sizeOf171
 v55:=Tryz.zeroValue171
 t66:=Tryz.underlying262
 a66:=Tryz.isAgg262
 z66:=Tryz.sizeOf262
 v66:=Tryz.zeroValue262
 t70:=Tryz.underlying266
 a70:=Tryz.isAgg266
 z70:=Tryz.sizeOf266
 v70:=Tryz.zeroValue266
 t76:=Tryz.underlying284
 a76:=Tryz.isAgg284
 z76:=Tryz.sizeOf284
 v76:=Tryz.zeroValue284
 t77:=Tryz.underlying285
 a77:=Tryz.isAgg285
 z77:=Tryz.sizeOf285
 v77:=Tryz.zeroValue285 }
open Go.RowKit Go.Lib Go.Sort in
theorem Tryz.slices_SortFunc_none{α:Type}[Inhabited α](p:Option Addr)(cap:Nat)(fv:Value)(w:World):
 Calls prog 101 #[.slice p 0 cap,fv] w fun e w'=>e=.returned (.tuple #[])∧w'=w:=AnyF.slices_SortFunc_none Tryz.laysSlF06_f101 p cap fv w
open Go.RowKit Go.Lib Go.Sort in
theorem Tryz.slices_SortFunc_total{α:Type}[Inhabited α](k:Nat)(aE:∀w,(isAgg 72).run prog w=.ok true w)(zE:∀w,(Go.sizeOf 72).run prog w=.ok k w)(enc:α→LV)(hk:∀x,(enc x).length=k)(h1:∀x,∀v∈enc x,v.oneCell'=true)(cf:α→α→Int)(hO:SWO (ltOf cf))(g:Nat)(cb:Array Value)(blk off cap:Nat)(d:Array α)(w:World)(eg:∀args w,(callFunc g args).run prog w=.ok (.enter g args) w)(hcmp:CmpLays prog g cb enc k cf blk off d.size w)(hH:HoldsK enc k w blk off d)(hblk:blk<w.heap.size)(hsz:d.size<4611686018427387904)(hT:∀x y,(ltOf cf) x y=false→(ltOf cf) y x=false→x=y):
 Calls prog 101 #[.slice (some ⟨blk,off,none⟩) d.size cap,.func (.func g) #[] cb] w fun e w' =>
  e=.returned (.tuple #[])∧∃n os,w'=sortWorldK enc k w blk off n (d.toList.mergeSort fun x y=>!(ltOf cf) y x).toArray os:=AnyQ.slices_SortFunc_total Tryz.laysSlF06_f101 k aE zE enc hk h1 cf hO g cb blk off cap d w eg hcmp hH hblk hsz hT
end Go.Proofs
namespace Go.Fw
open Go.Proofs.YtlegngbbcckmnaaGreatDoor Go.Proofs Go.RowKit Go.ChangeShapes Go.WideShapes Go.Shelf Tryz
def L8a(M:List Nat)(w:World):Prop:=0∉M∧∀(i:Nat) (l:List UInt8),h2b[i]?=some l→w.cell? ⟨0,i,none⟩=some (.string (o7a l))
theorem L8a.keep{M:List Nat}{w w':World}(h:L8a M w)(hk:x0a M w w'):L8a M w':=⟨h.1,fun i l hi=>hk.cell (a:=⟨0,i,none⟩) h.1 (h.2 i l hi)⟩
theorem L8a.less{M M':List Nat}{w:World}(h:L8a M w)(hM:∀g∈M',g∈M):L8a M' w:=⟨fun hh=>h.1 (hM _ hh),h.2⟩
theorem L8a.more{M M':List Nat}{w:World}(h:L8a M w)(hM:∀g∈M',g∈M∨w.heap.size≤g):L8a M' w:=by
 refine⟨fun hh=>?_,h.2⟩;rcases hM _ hh with h'|h'
 ·exact h.1 h'
 ·have:=World.block_lt_of_cell? w _ (h.2 0 _ Z);simp at this;omega
def RB(B g:Nat)(w:World)(e:E)(b o:Nat):Prop:=∀M,(∀x∈M,x=g∨B≤x)→RdP M w e b o
def NB(B g:Nat)(w:World):Prop:=∀M,(∀x∈M,x=g∨B≤x)→L8a M w
theorem RB.keep{B g:Nat}{w w':World}{e:E}{b o:Nat}(h:RB B g w e b o)(k:x0a (MB B g w) w w'):RB B g w' e b o:=fun M hM =>
 (((h (M++MB B g w) (fun x hx=>by rcases List.mem_append.1 hx with h|h;exact hM x h;exact(a8a.1 h).imp id And.left)).keep (k.mono fun x hx=>List.mem_append_right _ hx))).less fun x hx=>List.mem_append_left _ hx
theorem NB.keep{B g:Nat}{w w':World}(h:NB B g w)(k:x0a (MB B g w) w w'):NB B g w':=fun M hM =>
 (((h (M++MB B g w) (fun x hx=>by rcases List.mem_append.1 hx with h|h;exact hM x h;exact(a8a.1 h).imp id And.left)).keep (k.mono fun x hx=>List.mem_append_right _ hx))).less fun x hx=>List.mem_append_left _ hx
theorem f3d{B g:Nat}{w:World}:∀x∈MB B g w,x=g∨B≤x:=fun _ hx=>(a8a.1 hx).imp id And.left
theorem RB.kid{B g:Nat}{w:World}{e:E}{b o:Nat}(h:RB B g w e b o){A:Option Addr}{n c:Nat}(h3:w.cell? ⟨b,o+3,none⟩=some (.slice A n c))(hn:n=e.kids.length)(i:Nat)(hi:i<e.kids.length):∃bk ok,A=some ⟨bk,ok,none⟩∧RB B g w e.kids[i] bk (ok+i*4):=by
 obtain⟨-,-,-,-,-,-,-,A1,n1,c1,hc,-,-,-,-,hk,-⟩:=(h [] (by simp)).open_;obtain⟨rfl,rfl,rfl⟩:A=A1∧n=n1∧c=c1:=by
  have:=h3.symm.trans hc;simpa using this
 obtain⟨bk,ok,rfl,-,-⟩:=hk (by omega);refine⟨bk,ok,Z,fun M hM=>?_⟩;obtain⟨-,-,-,-,-,-,-,A2,n2,c2,c0,-,-,-,-,d0,-⟩:=(h M hM).open_;obtain⟨rfl,rfl,rfl⟩:some ⟨bk,ok,none⟩=A2∧n=n2∧c=c2:=by
  have:=h3.symm.trans c0;simpa using this
 obtain⟨a0,f0,he,b0,e0⟩:=d0 (by omega);obtain⟨rfl,rfl⟩:bk=a0∧ok=f0:=by simpa using he
 exact RdP.kid b0 e0 i hi
theorem c7a(n:Int)(h0:0≤n)(h1:n<100)(w0:World):
 A0a prog 98 #[.int .i64 n] w0 fun v w'=>v=.string (o7a (Q9b n))∧Bw w0 w':=by
 obtain⟨k,rfl⟩:=Int.eq_ofNat_of_zero_le h0;refine Calls.mono (Tryz.strconv_Itoa_small k (by omega) w0) ?_;rintro e w' ⟨rfl,rfl⟩;exact⟨_,Z,Z,Below.refl _ _⟩
theorem Y0b(op:Int)(w0:World):
 A0a prog 97 #[.int .i64 op] w0 fun v w'=>v=.string (o7a (h2c op))∧Bw w0 w':=by
 have S:=St.refl w0;refine a0a func97 Z ntmps97 Z ?_;refine wB1 Z (fun h5=>?_) fun h5=>?_
 ·refine lR1 Z (w0a Z ?_);refine⟨?_,S.fin⟩;unfold h2c;have z:op=2:=h5;rw[if_pos z];rfl
 refine lB1 Z (fun h7=>?_) fun h7=>?_
 ·refine lR1 Z (w0a Z ?_);refine⟨?_,S.fin⟩;unfold h2c;have z:¬op=2:=h5;have z2:op=3:=h7;rw[if_neg z,if_pos z2];rfl
 refine lR1 Z (w0a Z ?_);refine⟨?_,S.fin⟩;unfold h2c;have z:¬op=2:=h5;have z2:¬op=3:=h7;rw[if_neg z,if_neg z2];rfl
theorem s3d:prog.globalNamed ((Rows.interfereMatchesReferenceRow.laid[4]?.map (·.1)).getD "")=some 0:=by kernel_rfl
theorem I1d:(prog.globals[0]?).map (·.type)=some 152:=by kernel_rfl
theorem o2d:prog.cellsOf 152=11:=by kernel_rfl
theorem t4d:prog.cellsOf 9=1:=by kernel_rfl
theorem c9c{s:ByteArray}{l:List UInt8}(h:s.data.toList=l):s=o7a l:=by
 cases s;subst h;simp[o7a]
theorem a3b{W:World}(h:laidMetH prog Rows.interfereMatchesReferenceRow.laid W):L8a [] W:=by
 rw[MakeChecks.laidMetH_plain _ _ _ (by kernel_rfl)] at h;obtain⟨_,d0,-⟩:=h;obtain⟨_,_,c0,_,_,g0,o0,p0,m0⟩:=H6b d0 (i:=4) Z;obtain rfl:=Option.some.inj (s3d.symm.trans g0);obtain rfl:=Option.some.inj (I1d.symm.trans o0);obtain⟨xs,_,rfl,b0,e0,_,f0⟩:=DataW.trod_array Tryz.underlying152 m0;rw[o2d] at e0;simp only[t4d,Nat.mul_one] at f0;refine⟨by simp,fun i l hi=>?_⟩;have n0:i<11:=(List.getElem?_eq_some_iff.1 hi).1;have a0:=World.var?_cell g0 p0 i;have i0:i<xs.length:=by omega
 have he:=f0 i (by omega);rw[List.getElem?_eq_getElem i0] at he;obtain⟨k,e1,e2,-⟩:=DataW.trod_string Tryz.underlying9 he;have j0:c0.toList[i]?=some (.string k):=by
  have h1:((c0.toList.drop i).take 1)[0]?=some (Value.string k):=by rw[e1];rfl
  rw[List.getElem?_take,if_pos (by omega),List.getElem?_drop] at h1;simpa using h1
 rw[a0];have e3:c0[i]?=some (.string k):=by simpa using j0
 rw[e3];have b0:(DataW.agg _=DataW.agg _∧_):=Prod.mk.inj b0;have b0:=DataW.agg.inj b0.1;have e4:(xs.map (·.1))[i]?=some (.lit (.string k.data.toList)):=by rw[List.getElem?_map,List.getElem?_eq_getElem i0,e2];rfl
 rw[←b0] at e4;have key:l=k.data.toList:=by
  rcases(show i=0∨i=1∨i=2∨i=3∨i=4∨i=5∨i=6∨i=7∨i=8∨i=9∨i=10 by omega) with rfl|rfl|rfl|rfl|rfl|rfl|rfl|rfl|rfl|rfl|rfl<;>(cases hi;injection e4 with e4;injection e4 with e4;injection e4)
 rw[c9c key.symm]
structure V9a (C W:List Int):Prop where
 len:W.length=C.length
 inc:C.Pairwise (·<·)
 cell:∀c∈C,0≤c∧c<32
 wid:∀x∈W,1≤x∧x≤8
def c2a:List Int→Int
 | []=>0
 | x::l=>x+c2a l
theorem j6a(a b:List Int):c2a (a++b)=c2a a+c2a b:=by
 induction a with
 | nil=>simp[c2a]
 | cons x l ih=>simp only[List.cons_append,c2a,ih];omega
theorem Q4a{l:List Int}{k:Nat}{x:Int}(h:l[k]?=some x):c2a (l.take (k+1))=c2a (l.take k)+x:=by
 rw[u0a h,j6a];simp[c2a]
theorem Q2a{l:List Int}(h:∀x∈l,1≤x∧x≤8):(l.length:Int)≤c2a l∧c2a l≤8*l.length:=by
 induction l with
 | nil=>simp[c2a]
 | cons x l ih =>
   have h1:=h x (by simp);have h2:=ih fun y hy=>h y (List.mem_cons_of_mem _ hy);simp only[c2a,List.length_cons];omega
theorem e2a{l:List Int}(h:∀x∈l,1≤x∧x≤8)(k:Nat):0≤c2a (l.take k)∧c2a (l.take k)≤c2a l:=by
 have h1:=j6a (l.take k) (l.drop k);rw[List.take_append_drop] at h1;have h2:=Q2a (l:=l.take k) fun x hx=>h x (List.mem_of_mem_take hx);have h3:=Q2a (l:=l.drop k) fun x hx=>h x (List.mem_of_mem_drop hx);omega
theorem M7c{C:List Int}(h:C.Pairwise (·<·))(hc:∀c∈C,0≤c∧c<32):C.length≤32:=by
 have key:∀(l:List Int) (m:Int),l.Pairwise (·<·)→(∀c∈l,m≤c∧c<32)→m≤32→(l.length:Int)≤32-m:=by
  intro l
  induction l with
  | nil=>intro m _ _ hm;simp;omega
  | cons x l ih =>
    intro m h1 h2 _;rw[List.pairwise_cons] at h1;have h3:=h2 x (by simp);have h4:=ih (x+1) h1.2 (fun c hc=>⟨by have:=h1.1 c hc;omega,(h2 c (List.mem_cons_of_mem _ hc)).2⟩) (by omega);simp only[List.length_cons];omega
 have:=key C 0 h hc (by omega);omega
theorem V9a.clen{C W:List Int}(h:V9a C W):C.length≤32:=M7c h.inc h.cell
abbrev wdL(p:List g1a)(C:List Int):List Int:=C.map (wAt p)
theorem U1c{p:List g1a}{c:Int}(hc:0≤c∧c<p.length)(hw:∀c∈p,1≤c.w∧c.w≤8):1≤wAt p c∧wAt p c≤8:=by
 have h2:c.toNat<p.length:=by omega
 unfold wAt;rw[if_pos hc.1,List.getElem?_eq_getElem h2];exact hw _ (List.getElem_mem h2)
theorem j4a{p:List g1a}{C:List Int}(hr:C.Pairwise (·<·))(hc:∀c∈C,0≤c∧c<p.length)(hp:p.length≤32)(hw:∀c∈p,1≤c.w∧c.w≤8):V9a C (wdL p C):=by
 refine⟨by simp,hr,fun c h=>?_,fun x hx=>?_⟩
 ·have:=hc c h;omega
 ·obtain⟨c,h,rfl⟩:=List.mem_map.1 hx;exact U1c (hc c h) hw
def stZ:List Int→List Int→Nat→List Int→List Int
 | c::C,x::W,n,s=>stZ C W (n / 2 ^ x.toNat) (s.set c.toNat ((n % 2 ^ x.toNat:Nat):Int))
 | _,_,_,s=>s
theorem a1b:∀(C W:List Int) (n:Nat) (s:List Int),(stZ C W n s).length=s.length
 | [],_,_,_=>rfl
 | _::_,[],_,_=>rfl
 | c::C,x::W,n,s=>by unfold stZ;rw[a1b];simp
theorem o8b{C W:List Int}{k:Nat}{c x:Int}(h1:C[k]?=some c)(h2:W[k]?=some x)(n:Nat)(s:List Int):stZ (C.drop k) (W.drop k) n s=stZ (C.drop (k+1)) (W.drop (k+1)) (n / 2 ^ x.toNat) (s.set c.toNat ((n % 2 ^ x.toNat:Nat):Int)):=by
 obtain⟨h3,h4⟩:=List.getElem?_eq_some_iff.1 h1;obtain⟨h5,h6⟩:=List.getElem?_eq_some_iff.1 h2;rw[List.drop_eq_getElem_cons h3,List.drop_eq_getElem_cons h5,h4,h6];rfl
theorem y1b:∀(C W:List Int) (n:Nat) (s:List Int),(∀x∈W,1≤x∧x≤8)→(∀x∈s,0≤x∧x<256)→∀x∈stZ C W n s,0≤x∧x<256
 | [],_,_,_,_,h=>h
 | _::_,[],_,_,_,h=>h
 | c::C,x::W,n,s,hW,h=>by
   unfold stZ;refine y1b C W _ _ (fun y hy=>hW y (List.mem_cons_of_mem _ hy)) fun y hy=>?_;rcases List.mem_or_eq_of_mem_set hy with h1|rfl
   ·exact h y h1
   ·have h2:=hW x (by simp);have h3:n % 2 ^ x.toNat<2 ^ x.toNat:=Nat.mod_lt _ (Nat.two_pow_pos _);have h4:2 ^ x.toNat≤2 ^ 8:=Nat.pow_le_pow_right (by omega) (by omega);omega
def R1a:List Int:=List.replicate 32 0
theorem W2a:R1a.length=32:=by simp[R1a]
theorem i3a:∀x∈R1a,0≤x∧x<256:=fun x hx=>by rw[(List.mem_replicate.1 hx).2];omega
theorem k6a{w:World}{g t:Nat}{M:List Nat}(hb:p0a w (g,t,List.replicate 32 (.int .i64 0)))(hg:g∉M:=by simp):RdI M w (.slice (some ⟨g,0,none⟩) 32 32) R1a:=by
 refine⟨_,32,32,Z,W2a.symm,Nat.le_refl _,by unfold maxLen;omega,by omega,fun _=>⟨g,0,Z,hg,fun i x hi=>⟨[.int .i64 x],Z,fun j v hj=>?_,Z,?_⟩⟩⟩
 ·have a0:i<32:=by have:=(List.getElem?_eq_some_iff.1 hi).1;rwa [W2a] at this
  have hx:x=0:=(List.mem_replicate.1 (List.mem_of_getElem? hi)).2;cases j with
  | succ j=>simp at hj
  | zero =>
    simp at hj;subst hj;subst hx;exact hb.cell (by rw[List.getElem?_replicate,if_pos (by omega)])
 ·have:=i3a x (List.mem_of_getElem? hi);unfold i64;omega
def nuZ:List Int→List Int→List Int→Nat
 | c::C,x::W,s=>(s.getD c.toNat 0).toNat % 2 ^ x.toNat+2 ^ x.toNat*nuZ C W s
 | _,_,_=>0
theorem U7b{C W:List Int}{k:Nat}{c x:Int}(h1:C[k]?=some c)(h2:W[k]?=some x)(s:List Int):nuZ (C.drop k) (W.drop k) s=(s.getD c.toNat 0).toNat % 2 ^ x.toNat+2 ^ x.toNat*nuZ (C.drop (k+1)) (W.drop (k+1)) s:=by
 obtain⟨h3,h4⟩:=List.getElem?_eq_some_iff.1 h1;obtain⟨h5,h6⟩:=List.getElem?_eq_some_iff.1 h2;rw[List.drop_eq_getElem_cons h3,List.drop_eq_getElem_cons h5,h4,h6];rfl
theorem P8b:∀(C W:List Int) (s:List Int),(∀x∈W,1≤x∧x≤8)→nuZ C W s<2 ^ (c2a W).toNat
 | [],W,s,_=>by simp[nuZ];exact Nat.two_pow_pos _
 | _::_,[],s,_=>by simp[nuZ,c2a]
 | c::C,x::W,s,h=>by
   have h1:=P8b C W s fun y hy=>h y (List.mem_cons_of_mem _ hy);have hx:=h x (by simp);have h2:=Q2a fun y hy=>h y (List.mem_cons_of_mem _ hy);unfold nuZ c2a;rw[Int.toNat_add (by omega) (by omega),Nat.pow_add];have h3:(s.getD c.toNat 0).toNat % 2 ^ x.toNat<2 ^ x.toNat:=Nat.mod_lt _ (Nat.two_pow_pos _);have h4:2 ^ x.toNat*(nuZ C W s+1)≤2 ^ x.toNat*2 ^ (c2a W).toNat:=Nat.mul_le_mul_left _ h1;rw[Nat.mul_add,Nat.mul_one] at h4;omega
def X3a(w0 w:World)(v:Value)(l:List Int):Prop:=∀M:List Nat,(∀g∈M,g<w0.heap.size)→RdI M w v l
theorem X3a.keep{w0 w w':World}{v:Value}{l:List Int}(h:X3a w0 w v l)(hk:x0a [] w w'):X3a w0 w' v l:=fun M hM=>(h M hM).keep hk.of_nil
theorem X3a.form{w0 w:World}{v:Value}{l:List Int}(h:X3a w0 w v l):∃A n c,v=.slice A n c:=(h [] (by simp)).form
theorem X3a.later{w0 w1 w w':World}{v:Value}{l:List Int}{G:List Nat}(h:X3a w1 w v l)(hk:x0a G w w')(hG:∀g∈G,g<w1.heap.size)(h0:w0.heap.size≤w1.heap.size):X3a w0 w' v l:=fun M hM =>
 ((h (G++M) (fun g hg=>by rcases List.mem_append.1 hg with h|h;exact hG g h;exact Nat.lt_of_lt_of_le (hM g h) h0)).keep (hk.mono fun g hg=>List.mem_append_left _ hg)).less fun g hg=>List.mem_append_right _ hg
theorem X3a.at_{w1 w w':World}{v:Value}{l:List Int}{G:List Nat}(h:X3a w1 w v l)(hk:x0a G w w')(hG:∀g∈G,g<w1.heap.size):RdI [] w' v l:=((h G hG).keep hk).less (by simp)
theorem x8b(n wd:Int)(hn:i64 n)(hw:i64 wd)(M:List Nat)(w0:World):
 A0a prog 39 #[.int .i64 n,.int .i64 wd] w0 fun v w'=>(∃cs:LV,v=.agg cs.toArray∧RdE M w' ⟨1,wd,n,[]⟩ cs)∧Bw w0 w':=by
 have S:=St.refl w0;refine a0a func39 Z ntmps39 Z ?_;refine wO1 Z (g0a S X1a Z Z ?_);intro g4 w4 S4 X4 G4;refine lO1 Z (s0a s1a (vs:=[(0,.int .i64 _),(1,.int .i64 _),(2,.int .i64 _)]) (cs:=[_,_,_,_]) Z Z Z Z ?_)
 first|refine d0a (kk:=0) (vs:=[_,_,_,_]) S4 h1a Z Z Z Z Z Z Z ?_
 intro c0 a0 b0;dsimp only[e0a,List.set] at a0;refine lR1 Z ?_;exact t0a Z D0a Z (a0.cells 0 Z) Z ⟨⟨_,Z,m1a iO hw hn⟩,a0.fin⟩
theorem X2b{M M':List Nat}{w w':World}{op wd n:Int}{cs:LV}(h:RdE M w ⟨op,wd,n,[]⟩ cs):RdE M' w' ⟨op,wd,n,[]⟩ cs:=by
 rw[RdE] at h ⊢;obtain⟨A,k,c,h1,h2,h3,h4,h5,h6,h7,h8,_⟩:=h;exact⟨A,k,c,h1,h2,h3,h4,h5,h6,h7,h8,fun hk=>absurd hk (by simp at h5;omega)⟩
def RdL(M:List Nat)(w:World)(v:Value)(l:List E):Prop:=RdE M w ⟨0,0,0,l⟩ [.int .i64 0,.int .i64 0,.int .i64 0,v]
theorem RdL.open_{M:List Nat}{w:World}{v:Value}{l:List E}(h:RdL M w v l):∃A n c,v=.slice A n c∧n=l.length∧n≤c∧c≤maxLen∧n≤140737488355328 ∧
 (0<n→∃b o,A=some ⟨b,o,none⟩∧b∉M∧∀(i:Nat) (h:i<l.length),∃a0,Cells w b (o+i*4) a0∧RdE M w l[i] a0):=by
 obtain⟨A,n,c,h1,-,-,-,h2,h3,h4,h5,h6⟩:=RdE.open_ h;cases h1;exact⟨A,n,c,Z,h2,h3,h4,h5,h6⟩
theorem RdL.at{M:List Nat}{w:World}{A:Option Addr}{n c:Nat}{l:List E}(h:RdL M w (.slice A n c) l):n=l.length∧n≤c∧c≤maxLen∧n≤140737488355328 ∧
 (0<n→∃b o,A=some ⟨b,o,none⟩∧b∉M∧∀(i:Nat) (h:i<l.length),∃a0,Cells w b (o+i*4) a0∧RdE M w l[i] a0):=by
 obtain⟨A,n,c,h1,h2⟩:=h.open_;cases h1;exact h2
theorem RdL.made{M:List Nat}{w:World}{A:Option Addr}{n c:Nat}{l:List E}(h2:n=l.length)(h3:n≤c)(h4:c≤maxLen)(h5:n≤140737488355328)
 (h6:0<n→∃b o,A=some ⟨b,o,none⟩∧b∉M∧∀(i:Nat) (h:i<l.length),∃a0,Cells w b (o+i*4) a0∧RdE M w l[i] a0):RdL M w (.slice A n c) l:=by
 unfold RdL;rw[RdE];exact⟨A,n,c,Z,by unfold i64;simp,by unfold i64;simp,by unfold i64;simp,h2,h3,h4,h5,h6⟩
theorem RdL.keep{M:List Nat}{w w':World}{v:Value}{l:List E}(h:RdL M w v l)(hk:x0a M w w'):RdL M w' v l:=RdE.keep hk _ _ h
theorem RdL.more{M M':List Nat}{w:World}{v:Value}{l:List E}(h:RdL M w v l)(hM:∀g∈M',g∈M∨w.heap.size≤g):RdL M' w v l:=RdE.more hM _ _ h
theorem B2b(a b:List E):E.cnts (a++b)=E.cnts a+E.cnts b:=by
 induction a with
 | nil=>simp[E.cnts]
 | cons x xs ih=>simp only[List.cons_append,E.cnts,ih];omega
theorem d2d(op wd:Int)(ho:i64 op)(hw:i64 wd)(a b:E)(ca cb:LV)(M:List Nat)(w0:World)(hM:∀g∈M,g<w0.heap.size)(ha:RdE M w0 a ca)(hb:RdE M w0 b cb):
 A0a prog 92 #[.int .i64 op,.int .i64 wd,.agg ca.toArray,.agg cb.toArray] w0 fun v w'=>(∃cs:LV,v=.agg cs.toArray∧RdE M w' ⟨op,wd,0,[a,b]⟩ cs)∧Bw w0 w':=by
 have S:=St.refl w0;obtain⟨_,_,_,rfl,-⟩:=ha.open_;obtain⟨_,_,_,rfl,-⟩:=hb.open_;refine a0a func92 Z ntmps92 Z ?_;refine wO1 Z (o0a S Z ?_);intro g6 w6 S6 X6 G6;refine o0a S6 Z ?_;intro g7 w7 S7 X7 G7;refine g0a S7 X1a Z Z ?_;intro g8 w8 S8 X8 G8;refine lO S8.k [.w 2,.w 1] Z ⟨⟨Z,by rfl⟩,⟨Z,by rfl⟩,U⟩ (k0a S8 T0a (vs:=[.agg _,.agg _]) (cs:=[_,_,_,_,_,_,_,_]) Z Z Z Z Z Z ?_);intro g0 i0 b0 f0 e0;refine s0a s1a (vs:=[(0,.int .i64 _),(1,.int .i64 _),(3,.slice _ _ _)]) (cs:=[_,_,_,_]) Z Z Z Z ?_;refine d0a (kk:=1) (vs:=[_,_,_,_]) b0 h1a Z Z Z Z Z Z Z ?_;intro d0 a0 c0;dsimp only[e0a,List.set] at a0;refine lR1 Z (t0a Z D0a Z (a0.cells 1 Z) Z ⟨⟨_,Z,X3b ho hw (fun hm=>?_) (a0.cells 0 Z) (RdE.keep (a0.keep0 M) _ _ ha) (RdE.keep (a0.keep0 M) _ _ hb)⟩,a0.fin⟩);have h1:=hM _ hm;have h2:=a0.new 0 Z;simp at h2;omega
theorem L5c(e:E)(M:List Nat)(w0:World)(cs:LV)(hR:RdE M w0 e cs)(hc:e.cnt≤600):
 A0a prog 21 #[.agg cs.toArray,.int .i64 601] w0 fun v w'=>v=.int .i64 (e.cnt:Int)∧Bw w0 w':=by
 have h:=I3b e M w0 cs 601 hR (by unfold i64;omega);have he:e.size 601=(e.cnt:Int):=by rw[E.size_eq e 601 (by omega)];omega
 rwa [he] at h
section
variable {P:Program} {r:Option Nat} {N:Nat} {D:List Deferred} {e:Env} {w w0:World} {ops:Array Oper} {rest:List Oper} {K:List Deferred→Env→World→Prop} {L:List Ent} {M:List Nat}
variable {d:Nat} {t:TypeId} {p:String} {af:Array Edge} {f:FuncId} {args:Array Operand} {at_:Array TypeId} {vs:LV} {x:Operand}
theorem z5c{α:Type}{l:List α}{k:Nat}{x:α}(h:l[k]?=some x):l.set k x=l:=by
 obtain⟨a0,he⟩:=List.getElem?_eq_some_iff.1 h;rw[←he];exact List.set_getElem_self a0
theorem t0b{α:Type}{R0:LV→α→Prop}{size:Nat}(hL:D7a (fun(_:List Nat) (_:World)=>R0) size){M2 M3:List Nat}{ty el a0 k c m:Nat}{A2:Option Addr}{y:Operand}{z v:Value}{G:Option Nat}{cs:LV}{l l2:List α}(S:St M w0 w L)(hS:SlZ P ty el size z a0)(hk:L[k]?=some (G,el,cs))(hR:T1a (fun _ _=>R0) size M2 w G cs v l)
 (hx:ev e x=v) (hy:ev e y=.slice A2 m c) (h2:RdS M3 w size R0 (.slice A2 m c) l2) (f0:l.length+l2.length≤1000000) (hd:Nat.ble (d+1) N=true)
 (h:∀v' G' c0 w1,St M w0 w1 (L.set k (G',el,c0))→T1a (fun _ _=>R0) size M2 w1 G' c0 v' (l++l2)→x0a G.toList w w1→(∀g∈G'.toList,g∈G.toList∨w.heap.size≤g)→WL P r N ops rest K D (upd e d v') w1) (e0:a0≤1000:=by decide) :
 WL P r N ops (⟨some d,.call { callee:=.builtin .append,args:=#[x,y],argTypes:=#[ty,ty] },t,p,af,none⟩::rest) K D e w:=by
 obtain⟨hm,-,-⟩:=h2.len;by_cases h0:l2=[]
 ·subst h0;obtain⟨A,c',rfl⟩:=hR.form;have g0:m=0:=by simpa using hm
  subst g0;have i0:l.length≤c':=by
   obtain⟨css,_,_,q3,_⟩:=hR;rcases q3.2 with⟨-,q5,q6⟩|⟨g,j0,-,q5,q6,-⟩
   ·simp only[Value.slice.injEq] at q5;omega
   ·simp only[Value.slice.injEq] at q5;omega
  refine b5b hS hx i0 hy hd ?_;have:=h (.slice A l.length c') G cs w (by rw[z5c hk];exact S) (by rw[List.append_nil];exact hR) (x0a.refl _ _) (fun g hg=>.inl hg);exact this
 ·have b0:0<l2.length:=List.length_pos_iff.2 h0;obtain⟨b,o,hA⟩:∃b o,A2=some ⟨b,o,none⟩:=by
   obtain⟨_,_,_,_,h5⟩:=h2.at;obtain⟨b',o',d0,-⟩:=h5 (by omega);exact⟨b',o',d0⟩
  obtain⟨css,c1,c2,c3⟩:=RdS.all h2 hA b0;subst hA;exact O4b hL S hS e0 hk hR hx hy hm c1 c2 c3 f0 hd h
end
def Raw(size:Nat)(cs x:LV):Prop:=cs=x∧x.length=size∧∀u∈x,u.oneCell'=true
theorem R9c(size:Nat):D7a (fun(_:List Nat) (_:World)=>Raw size) size where
 len h:=by rw[h.1];exact h.2.1
 one h u hu:=by rw[h.1] at hu;exact h.2.2 u hu
 keep _ h:=h
 more _ h:=h
abbrev z0c(size:Nat)(w0:World)(G:Option Nat)(cs:LV)(v:Value)(css:List LV):Prop:=T1a (fun _ _=>Raw size) size [] w0 G cs v css
section
variable {size:Nat}
theorem Z7b{u:Value}:∀(css:List LV) (i j:Nat) (c:LV),(∀x∈css,x.length=size)→css[i]?=some c→j<size→css.flatten.set (i*size+j) u=(css.set i (c.set j u)).flatten
 | [],i,j,c,_,hi,_=>by simp at hi
 | x::css,0,j,c,hl,hi,hj=>by
   simp at hi;subst hi;have hx:=hl x (by simp);rw[List.flatten_cons,Nat.zero_mul,Nat.zero_add,List.set_append_left _ _ (by omega)];simp
 | x::css,i+1,j,c,hl,hi,hj=>by
   have hx:=hl x (by simp);have:=Z7b (u:=u) css i j c (fun y hy=>hl y (by simp[hy])) (by simpa using hi) hj;rw[List.flatten_cons,List.set_append_right _ _ (by rw[Nat.add_mul];omega),List.set_cons_succ,List.flatten_cons,←this]
   congr 2
   rw[Nat.add_mul];omega
theorem Q7a:∀(us:LV) (css:List LV) (i j:Nat) (c:LV),(∀x∈css,x.length=size)→css[i]?=some c→j+us.length≤size→e0a css.flatten (i*size+j) us=(css.set i (e0a c j us)).flatten
 | [],css,i,j,c,_,hi,_=>by rw[e0a,e0a,a9b hi]
 | u::us,css,i,j,c,hl,hi,hj=>by
   have b0:=(List.getElem?_eq_some_iff.1 hi).1;have a0:=hl c (List.mem_of_getElem? hi);simp only[List.length_cons] at hj;rw[e0a,Z7b css i j c hl hi (by omega),show i*size+j+1=i*size+(j+1) by omega];rw[Q7a us (css.set i (c.set j u)) i (j+1) (c.set j u) (fun x hx=>by
    rcases List.mem_or_eq_of_mem_set hx with h|h
    ·exact hl x h
    ·rw[h,List.length_set];exact a0) (by rw[List.getElem?_set_self b0]) (by omega)]
   rw[List.set_set,e0a]
theorem H6a:∀(us cs:LV) (o n:Nat),(e0a cs o us).take n=e0a (cs.take n) o us
 | [],_,_,_=>rfl
 | u::us,cs,o,n=>by rw[e0a,H6a us,e0a,List.take_set]
theorem V1b:∀(us cs:LV) (o:Nat),(∀u∈cs,u.oneCell'=true)→(∀u∈us,u.oneCell'=true)→∀u∈e0a cs o us,u.oneCell'=true
 | [],_,_,h,_=>h
 | v::us,cs,o,h,h2=>by
   rw[e0a];refine V1b us _ _ (fun u hu=>?_) (fun u hu=>h2 u (by simp[hu]));rcases List.mem_or_eq_of_mem_set hu with hu|rfl
   ·exact h u hu
   ·exact h2 u (by simp)
theorem z0c.put{w0:World}{G:Option Nat}{cs us c:LV}{v:Value}{css:List LV}{i j o:Nat}(h:z0c size w0 G cs v css)(hi:css[i]?=some c)(ho:o=i*size+j)(hj:j+us.length≤size)(h1:∀u∈us,u.oneCell'=true):z0c size w0 G (e0a cs o us) v (css.set i (e0a c j us)):=by
 subst ho;obtain⟨xs,_,q2,⟨_,hr⟩,q4⟩:=h;have hx:xs=css:=by
  refine List.ext_getElem? fun k=>?_;cases hk:css[k]? with
  | none=>rw[List.getElem?_eq_none_iff] at hk ⊢;omega
  | some x=>obtain⟨y,h5,h6⟩:=q4 k x hk;rw[h5,h6.1]
 subst hx;have f0:=(List.getElem?_eq_some_iff.1 hi).1;have d0:∀u∈c,u.oneCell'=true:=by
  obtain⟨y,h5,h6⟩:=q4 i c hi;exact h6.2.2
 have c0:=q2 c (List.mem_of_getElem? hi);have e0:(e0a c j us).length=size:=by rw[P5a];exact c0
 have a0:∀x∈xs.set i (e0a c j us),x.length=size:=fun x hx=>by
  rcases List.mem_or_eq_of_mem_set hx with h|rfl
  ·exact q2 x h
  ·exact e0
 refine⟨xs.set i (e0a c j us),Z,a0,⟨?_,?_⟩,fun k x hk=>?_⟩
 ·rw[M4a _ a0]
 ·rcases hr with⟨rfl,rfl,h0⟩|⟨g,b0,rfl,rfl,r1,r2,r3,r4⟩
  ·omega
  ·refine .inr ⟨g,b0,Z,by rw[List.length_set],by rw[List.length_set];exact r1,r2,by rw[P5a];exact r3,?_⟩;rw[H6a,List.length_set,r4,Q7a us xs i j c q2 hi hj]
 ·refine⟨x,hk,Z,?_,?_⟩
  ·exact a0 x (List.mem_of_getElem? hk)
  ·rcases List.mem_or_eq_of_mem_set (List.mem_of_getElem? hk) with h|rfl
   ·obtain⟨n,hn⟩:=List.getElem?_of_mem h;obtain⟨y,h5,h6⟩:=q4 n x hn;exact h6.2.2
   ·exact V1b us c j d0 h1
theorem z0c.len{w0:World}{G:Option Nat}{cs:LV}{A:Option Addr}{n c:Nat}{css:List LV}(h:z0c size w0 G cs (.slice A n c) css):n=css.length:=by
 obtain⟨_,_,he⟩:=h.form;simp only[Value.slice.injEq] at he;exact he.2.1
theorem z0c.at{w0:World}{G:Option Nat}{cs:LV}{A:Option Addr}{n c:Nat}{css:List LV}(h:z0c size w0 G cs (.slice A n c) css)(h0:0<n):∃g,G=some g∧A=some ⟨g,0,none⟩:=by
 have hn:=h.len;obtain⟨_,_,_,⟨_,hr⟩,_⟩:=h;rcases hr with⟨rfl,he,h5⟩|⟨g,a0,rfl,he,-⟩
 ·omega
 ·simp only[Value.slice.injEq] at he;exact⟨g,Z,he.1⟩
theorem z0c.cap{w0:World}{G:Option Nat}{cs:LV}{v:Value}{css:List LV}(h:z0c size w0 G cs v css):css.length*size≤cs.length∨css=[]:=by
 obtain⟨_,_,_,⟨_,hr⟩,_⟩:=h;rcases hr with⟨rfl,he,h5⟩|⟨g,a0,rfl,he,r1,r2,r3,r4⟩
 ·exact .inr (List.length_eq_zero_iff.1 h5)
 ·left;rw[r3];exact Nat.mul_le_mul_right _ r1
theorem z0c.rd{α:Type}{R:LV→α→Prop}{M M':List Nat}{w0 w:World}{L:List Ent}{k el:Nat}{G:Option Nat}{cs:LV}{v:Value}{css:List LV}{l:List α}(h:z0c size w0 G cs v css)(S:St M' w0 w L)(hk:L[k]?=some (G,el,cs))(hM:∀g,G=some g→g∉M)(hl:l.length≤1000000)(b0:css.length=l.length)
 (he:∀(i:Nat) (x:α),l[i]?=some x→∃c,css[i]?=some c∧R c x):RdS M w size R v l:=by
 obtain⟨A,n,c,rfl,_,h2,h3,h4,h5⟩:=T1a.rd (M:=M) (R9c size) (w:=w) (show T1a (fun _ _=>Raw size) size M w G cs v css from h) S hk hM (by omega);refine⟨A,n,c,Z,by omega,h2,h3,h4,fun hp=>?_⟩;obtain⟨b,o,hA,hb,a0⟩:=h5 hp;refine⟨b,o,hA,hb,fun i x hi=>?_⟩;obtain⟨y,h6,h7⟩:=he i x hi;obtain⟨z,z1,z2,z3⟩:=a0 i y h6;exact⟨z,z1,z2,by rw[z3.1];exact h7⟩
end
def RX(M:List Nat)(w:World)(cs:LV)(e:E):Prop:=RdE M w e cs
theorem F3a:D7a RX 4 where
 len h:=RdE.length h
 one h u hu:=by
  obtain⟨_,_,_,rfl,-⟩:=RdE.open_ h;simp at hu;rcases hu with rfl|rfl|rfl|rfl<;>rfl
 keep hk h:=RdE.keep hk _ _ h
 more hm h:=RdE.more hm _ _ h
theorem w5b:∀(us a r:LV),r.length=us.length→e0a (a++r) a.length us=a++us
 | [],a,[],_=>rfl
 | [],_,_::_,h=>by simp at h
 | _::_,_,[],h=>by simp at h
 | u::us,a,x::r,h=>by
   have:=w5b us (a++[u]) r (by simpa using h);rw[e0a,List.set_append_right _ _ (Nat.le_refl _),Nat.sub_self,List.set_cons_zero];simpa using this
theorem T1a.setM{α:Type}{R:List Nat→World→LV→α→Prop}{size:Nat}{M:List Nat}{w:World}{G:Option Nat}{cs us:LV}{v:Value}{l:List α}{i o:Nat}{x y:α}(hL:D7a R size)(h:T1a R size M w G cs v l)(hi:l[i]?=some x)(ho:o=i*size)(hy:R (G.toList++M) w us y):
 T1a R size M w G (e0a cs o us) v (l.set i y):=by
 obtain⟨css,q1,q2,q3,q4⟩:=h;have b0:=(List.getElem?_eq_some_iff.1 hi).1;have c0:z0c size w G cs v css:=⟨css,Z,q2,by rw[q1];exact q3,fun i x hi=>⟨x,hi,Z,q2 x (List.mem_of_getElem? hi),fun u hu=>by
  have d0:=(List.getElem?_eq_some_iff.1 hi).1;obtain⟨c,h5,h6⟩:=q4 i _ (List.getElem?_eq_getElem (by omega));obtain rfl:x=c:=Option.some.inj (hi.symm.trans h5);exact hL.one h6 u hu⟩⟩
 obtain⟨c,h4,h5⟩:=q4 i x hi;have f0:us.length=size:=hL.len hy;have e0:c.length=size:=hL.len h5;have hp:=c0.put h4 (us:=us) (j:=0) (o:=o) (by omega) (by omega) (hL.one hy);rw[show e0a c 0 us=us from w5b us [] c (by omega)] at hp;obtain⟨xs,r1,r2,r3,r4⟩:=hp;refine⟨xs,by simp[r1,q1],r2,by simpa[q1] using r3,fun k z hz=>?_⟩;have d0:=(List.getElem?_eq_some_iff.1 h4).1;have a0:∀c',(css.set i us)[k]?=some c'→xs[k]?=some c':=fun c' hc=>by
  obtain⟨c2,h7,h8⟩:=r4 k c' hc;rw[h7,h8.1]
 by_cases hk:i=k
 ·subst hk;rw[List.getElem?_set_self b0] at hz;obtain rfl:=Option.some.inj hz;exact⟨us,a0 us (List.getElem?_set_self d0),hy⟩
 ·rw[List.getElem?_set_ne hk] at hz;obtain⟨c2,h7,h8⟩:=q4 k z hz;exact⟨c2,a0 c2 (by rw[List.getElem?_set_ne hk];exact h7),h8⟩
theorem T1a.own_{α:Type}{R:List Nat→World→LV→α→Prop}{size:Nat}{M:List Nat}{w:World}{G:Option Nat}{cs:LV}{A:Option Addr}{n c:Nat}{l:List α}(h:T1a R size M w G cs (.slice A n c) l)(h0:0<l.length):∃g,G=some g∧A=some ⟨g,0,none⟩∧l.length*size≤cs.length:=by
 obtain⟨_,_,_,⟨_,hr⟩,_⟩:=h;rcases hr with⟨rfl,he,h5⟩|⟨g,a0,rfl,he,r1,r2,r3,r4⟩
 ·omega
 ·simp only[Value.slice.injEq] at he;exact⟨g,Z,he.1,by rw[r3];exact Nat.mul_le_mul_right _ r1⟩
theorem T1a.mapR{α:Type}{R R2:List Nat→World→LV→α→Prop}{size:Nat}{M M2:List Nat}{w w2:World}{G:Option Nat}{cs:LV}{v:Value}{l:List α}(h:T1a R size M w G cs v l)(hm:∀c x,x∈l→R (G.toList++M) w c x→R2 (G.toList++M2) w2 c x):T1a R2 size M2 w2 G cs v l:=by
 obtain⟨css,q1,q2,q3,q4⟩:=h;refine⟨css,q1,q2,q3,fun i x hi=>?_⟩;obtain⟨c,h5,h6⟩:=q4 i x hi;exact⟨c,h5,hm c x (List.mem_of_getElem? hi) h6⟩
theorem RdL.rdS{M:List Nat}{w:World}{v:Value}{l:List E}(h:RdL M w v l):RdS M w 4 (RX M w) v l:=by
 obtain⟨A,n,c,rfl,h1,h2,h3,h4,h5⟩:=h.open_;refine⟨A,n,c,Z,h1,h2,h3,h4,fun h0=>?_⟩;obtain⟨b,o,hA,hb,hk⟩:=h5 h0;refine⟨b,o,hA,hb,fun i x hi=>?_⟩;have a0:=(List.getElem?_eq_some_iff.1 hi).1;obtain⟨c,h6,h7⟩:=hk i a0;rw[List.getElem?_eq_getElem a0] at hi;obtain rfl:=Option.some.inj hi;exact⟨c,h7.length,h6,h7⟩
theorem c3d{M:List Nat}{w:World}{v:Value}{l:List E}(h:RdS M w 4 (RX M w) v l):RdL M w v l:=by
 obtain⟨_,_,c,rfl,h1,h2,h3,h4,h5⟩:=h;refine RdL.made h1 h2 h3 h4 fun h0=>?_;obtain⟨b,o,hA,hb,hk⟩:=h5 h0;refine⟨b,o,hA,hb,fun i hi=>?_⟩;obtain⟨c,-,h6,h7⟩:=hk i _ (List.getElem?_eq_getElem hi);exact⟨c,h6,h7⟩
def zE:E:=⟨0,0,0,[]⟩
def jnE(op:Int)(a b:E):E:=⟨op,1,0,[a,b]⟩
def U6a(op unit:Int):List E→E
 | []=>⟨1,1,unit,[]⟩
 | e::es=>es.foldl (jnE op) e
def h5a(e:E):Bool:=decide (e.w=1)&&e.wf
def d2a(l:List E):List E:=l.filter fun e=>decide (e.op≠1)
def isC(e:E)(n:Int):Bool:=decide (e.op=1∧e.n=n)
def u3a(op unit:Int)(l:List E):E :=
 if l.all h5a then(if l.any (fun e=>isC e (1-unit)) then⟨1,1,1-unit,[]⟩ else if(U6a op unit (d2a l)).wf then U6a op unit (d2a l) else zE) else zE
theorem j2b(op unit:Int)(l:List E)(e:E):U6a op unit (l++[e])=if l=[] then e else jnE op (U6a op unit l) e:=by
 cases l with
 | nil=>simp[U6a]
 | cons x xs=>simp[U6a,List.foldl_append]
theorem m8b(op:Int):∀(es:List E) (acc:E) (d:Int),(es.foldl (jnE op) acc).good d=true→acc.good (d-es.length)=true
 | [],acc,d,h=>by simpa using h
 | e::es,acc,d,h=>by
   have h1:=m8b op es (jnE op acc e) d h;obtain⟨_,h2⟩:=I1a h1;have:=h2 acc (by simp[jnE]);rw[show d-((e::es).length:Nat)=d-(es.length:Nat)-1 by simp;omega];exact this
theorem I2d{op unit:Int}{l:List E}(h:(U6a op unit l).wf=true):l.length≤40:=by
 cases l with
 | nil=>simp
 | cons e es =>
   have h1:=m8b op es e 40 (J6a h);rw[E.good_def] at h1;simp only[Bool.and_eq_true,decide_eq_true_eq] at h1;simp;omega
theorem L6c(op:Int):∀(es:List E) (acc:E),(es.foldl (jnE op) acc).cnt=acc.cnt+E.cnts es+es.length
 | [],acc=>by simp[E.cnts]
 | e::es,acc=>by
   rw[List.foldl_cons,L6c op es,E.cnt_def (jnE op acc e)];simp only[jnE,E.cnts,List.length_cons];omega
theorem W3c{op unit:Int}{l:List E}(h:l≠[]):(U6a op unit l).cnt=E.cnts l+(l.length-1):=by
 cases l with
 | nil=>exact absurd Z h
 | cons e es=>show(es.foldl (jnE op) e).cnt=_;rw[L6c];simp[E.cnts]
theorem V8a(l:List E)(e:E):d2a (l++[e])=if e.op=1 then d2a l else d2a l++[e]:=by
 unfold d2a;rw[List.filter_append];by_cases h:e.op=1<;>simp[h]
theorem K8b{e:E}(h:h5a e=true)(ho:e.op=1):e.n=0∨e.n=1:=by
 unfold h5a at h;simp only[Bool.and_eq_true,decide_eq_true_eq] at h;have hs:=(g4b ho).1 (I1a (J6a h.2)).1;have hp:H3a e.w.toNat=2:=by rw[h.1];decide
 omega
theorem Z1b(op unit:Int)(l:List E)(k:Nat)(hk:k<l.length):U6a op unit (l.take (k+1))=if k=0 then l[k] else jnE op (U6a op unit (l.take k)) l[k]:=by
 rw[List.take_add_one,List.getElem?_eq_getElem hk,Option.toList_some,j2b];by_cases h:k=0
 ·subst h;simp
 ·rw[if_neg h,if_neg];intro hh;have:=congrArg List.length hh;rw[List.length_take,List.length_nil] at this;omega
section
variable {x y:Nat}
theorem g6b{n:Nat}(h:n<2 ^ 62):(BitVec.ofInt 64 (n:Int)).toNat=n:=by
 rw[BitVec.ofInt_natCast,BitVec.toNat_ofNat,Nat.mod_eq_of_lt (by omega)]
theorem H5c(hx:x<2 ^ 62)(hy:y<2 ^ 62):N8a x y=((x &&& y:Nat):Int):=by
 have hb:N8a x y=IntKind.i64.wrap ((BitVec.ofInt 64 (x:Int) &&& BitVec.ofInt 64 (y:Int)).toNat:Int):=Z;rw[hb,BitVec.toNat_and,g6b hx,g6b hy];have:=Nat.and_lt_two_pow x hy;exact L2a _
theorem o1d(hx:x<2 ^ 62)(hy:y<2 ^ 62):bor x y=((x ||| y:Nat):Int):=by
 have hb:bor x y=IntKind.i64.wrap ((BitVec.ofInt 64 (x:Int) ||| BitVec.ofInt 64 (y:Int)).toNat:Int):=Z;rw[hb,BitVec.toNat_or,g6b hx,g6b hy];have:=Nat.or_lt_two_pow hx hy;exact L2a _
theorem x4c(hx:x<2 ^ 62)(hy:y<2 ^ 62):b3c x y=((x ^^^ y:Nat):Int):=by
 have hb:b3c x y=IntKind.i64.wrap ((BitVec.ofInt 64 (x:Int) ^^^ BitVec.ofInt 64 (y:Int)).toNat:Int):=Z;rw[hb,BitVec.toNat_xor,g6b hx,g6b hy];have:=Nat.xor_lt_two_pow hx hy;exact L2a _
theorem u4c(hx:x<2 ^ 62):b3c (-1) x=-1-(x:Int):=by
 have hb:b3c (-1) x=IntKind.i64.wrap ((BitVec.ofInt 64 (-1) ^^^ BitVec.ofInt 64 (x:Int)).toNat:Int):=Z;have h1:BitVec.ofInt 64 (-1)=BitVec.allOnes 64:=by decide
 have h2:(BitVec.allOnes 64 ^^^ BitVec.ofInt 64 (x:Int)).toNat=2 ^ 64-1-x:=by
  rw[BitVec.allOnes_xor,BitVec.toNat_not,g6b hx]
 rw[hb,h1,h2];have h3:(((2 ^ 64-1-x:Nat)):Int)=18446744073709551615-(x:Int):=by omega
 rw[h3];unfold IntKind.wrap;have hm:((18446744073709551615:Int)-x) % (2 ^ IntKind.i64.bits:Int)=18446744073709551615-x:=Int.emod_eq_of_lt (by omega) (by simp[IntKind.bits];omega);simp only[hm];rw[if_pos]
 ·simp[IntKind.bits];omega
 ·simp[IntKind.bits,IntKind.signed];omega
end
theorem E0c{a:Int}{n:Nat}(h0:0≤a)(h1:a<H3a n)(hn:n≤8):∃x:Nat,a=x∧x<2 ^ n∧x<256:=by
 rw[u2a] at h1;have h2:(2:Nat) ^ n≤2 ^ 8:=Nat.pow_le_pow_right (by omega) hn;exact⟨a.toNat,by omega,by omega,by omega⟩
theorem w0b{x n:Nat}(hn:n≤8)(h:x<2 ^ n):N8a (x:Int) (H3a n-1)=x:=by
 rw[M5a _ _,u2a,Int.emod_eq_of_lt (by omega) (by omega)]
theorem r4d{e:E}{p0:Int}(hg:e.good p0=true)(d0 c0:List Int){v0 v1 v2:Int}(h0:(e.kids.map (E.val d0 c0)).getD 0 0=v0)(h1:(e.kids.map (E.val d0 c0)).getD 1 0=v1)(h2:(e.kids.map (E.val d0 c0)).getD 2 0=v2):
 (e.op=4→0≤v0∧v0<256∧e.val d0 c0=H3a e.w.toNat-1-v0)∧(e.op=5→e.val d0 c0=N8a v0 v1)∧(e.op=6→e.val d0 c0=bor v0 v1)∧(e.op=7→e.val d0 c0=b3c v0 v1) ∧
 (5≤e.op∧e.op≤13→0≤v0∧v0<256∧0≤v1∧v1<256)∧(e.op=8→e.val d0 c0=N8a (v0+v1) (H3a e.w.toNat-1))∧(e.op=9→e.val d0 c0=N8a (v0-v1+H3a e.w.toNat) (H3a e.w.toNat-1))∧(e.op=10→e.val d0 c0=N8a (v0*v1) (H3a e.w.toNat-1)) ∧
 (e.op=11→e.val d0 c0=if v0=v1 then 1 else 0)∧(e.op=12→e.val d0 c0=if v0<v1 then 1 else 0)∧(e.op=13→e.val d0 c0=if v0≤v1 then 1 else 0)∧(e.op=14→(v0=1∧e.val d0 c0=v1)∨(v0=0∧e.val d0 c0=v2)):=by
 obtain⟨g0,hk⟩:=I1a hg;have hw:=g0.1;have q0:=g0.2.1;obtain⟨n,_⟩:=Int.eq_ofNat_of_zero_le (show 0≤e.w by omega);have f0:n≤8:=by omega
 have b0:∀(i:Nat) (v:Int),i<e.kids.length→(e.kids.map (E.val d0 c0)).getD i 0=v→0≤v∧v<H3a (e.kw i).toNat:=fun i v hi hv=>by
  have hx:e.kids[i]?=some e.kids[i]:=List.getElem?_eq_getElem hi;have hr:=y0b (hk _ (List.getElem_mem hi)) d0 c0;rw[List.getD_eq_getElem?_getD,List.getElem?_map,hx] at hv;simp only[Option.map_some,Option.getD_some] at hv;have j0:e.kw i=e.kids[i].w:=by unfold E.kw;rw[hx];rfl
  rw[j0,←hv];exact hr
 have a0:=E.val_def d0 c0 e;rw[h0,h1,h2] at a0;have e0:e.w.toNat=n:=by omega
 rw[e0] at a0 ⊢;have o0:H3a n≤256:=by rw[u2a];have:=Nat.pow_le_pow_right (show 0<2 by omega) f0;omega
 refine⟨fun o=>?_,fun o=>?_,fun o=>?_,fun o=>?_,fun o=>?_,fun o=>?_,fun o=>?_,fun o=>?_,fun o=>?_,fun o=>?_,fun o=>?_,fun o=>?_⟩
 ·have hs:=(H7b o).1 g0;have r0:=b0 0 v0 (by omega) h0;rw[hs.2.2.2.2,e0] at r0;obtain⟨x,rfl,x1,x2⟩:=E0c r0.1 r0.2 f0;refine⟨by omega,by omega,?_⟩;rw[a0,if_neg (by omega),if_neg (by omega),if_neg (by omega)];unfold Y1a;rw[if_pos o,u4c (by omega),M5a _ _,u2a];have n0:0<(2:Nat) ^ n:=Nat.pow_pos (by omega);rw[←Int.add_emod_right,Int.emod_eq_of_lt (by omega) (by omega)];omega
 ·have hs:=(e6a (e:=e)).1 g0;have r0:=b0 0 v0 (by omega) h0;have r1:=b0 1 v1 (by omega) h1;rw[hs.2.2.2.2.1,e0] at r0;rw[hs.2.2.2.2.2,e0] at r1;obtain⟨x,rfl,x1,x2⟩:=E0c r0.1 r0.2 f0;obtain⟨y,rfl,y1,y2⟩:=E0c r1.1 r1.2 f0;rw[a0,if_neg (by omega),if_neg (by omega),if_neg (by omega)];unfold Y1a;rw[if_neg (by omega),if_pos o,H5c (by omega) (by omega)];exact w0b f0 (Nat.and_lt_two_pow x y1)
 ·have hs:=(e6a (e:=e)).1 g0;have r0:=b0 0 v0 (by omega) h0;have r1:=b0 1 v1 (by omega) h1;rw[hs.2.2.2.2.1,e0] at r0;rw[hs.2.2.2.2.2,e0] at r1;obtain⟨x,rfl,x1,x2⟩:=E0c r0.1 r0.2 f0;obtain⟨y,rfl,y1,y2⟩:=E0c r1.1 r1.2 f0;rw[a0,if_neg (by omega),if_neg (by omega),if_neg (by omega)];unfold Y1a;rw[if_neg (by omega),if_neg (by omega),if_pos o,o1d (by omega) (by omega)];exact w0b f0 (Nat.or_lt_two_pow x1 y1)
 ·have hs:=(e6a (e:=e)).1 g0;have r0:=b0 0 v0 (by omega) h0;have r1:=b0 1 v1 (by omega) h1;rw[hs.2.2.2.2.1,e0] at r0;rw[hs.2.2.2.2.2,e0] at r1;obtain⟨x,rfl,x1,x2⟩:=E0c r0.1 r0.2 f0;obtain⟨y,rfl,y1,y2⟩:=E0c r1.1 r1.2 f0;rw[a0,if_neg (by omega),if_neg (by omega),if_neg (by omega)];unfold Y1a;rw[if_neg (by omega),if_neg (by omega),if_neg (by omega),if_pos o,x4c (by omega) (by omega)];exact w0b f0 (Nat.xor_lt_two_pow x1 y1)
 ·have hl:e.kids.length=2:=by
   by_cases o2:e.op≤10
   ·exact((e6a (e:=e)).1 g0).2.2.1
   ·exact((Z6a (e:=e)).1 g0).1
  have i0:∀i,i<e.kids.length→(e.kw i).toNat≤8:=fun i hi=>by
   have hx:e.kids[i]?=some e.kids[i]:=List.getElem?_eq_getElem hi;have j0:e.kw i=e.kids[i].w:=by unfold E.kw;rw[hx];rfl
   have:=(I1a (hk _ (List.getElem_mem hi))).1.2.1;omega
  have r0:=b0 0 v0 (by omega) h0;have r1:=b0 1 v1 (by omega) h1;obtain⟨x,rfl,x1,x2⟩:=E0c r0.1 r0.2 (i0 0 (by omega));obtain⟨y,rfl,y1,y2⟩:=E0c r1.1 r1.2 (i0 1 (by omega));omega
 ·have hs:=(e6a (e:=e)).1 g0;have r0:=b0 0 v0 (by omega) h0;have r1:=b0 1 v1 (by omega) h1;rw[hs.2.2.2.2.1,e0] at r0;rw[hs.2.2.2.2.2,e0] at r1;rw[a0,if_neg (by omega),if_neg (by omega),if_neg (by omega)];unfold Y1a;rw[if_neg (by omega),if_neg (by omega),if_neg (by omega),if_neg (by omega),if_neg (by omega),if_pos o,show wr (v0+v1)=v0+v1 from L2a _]
 ·have hs:=(e6a (e:=e)).1 g0;have r0:=b0 0 v0 (by omega) h0;have r1:=b0 1 v1 (by omega) h1;rw[hs.2.2.2.2.1,e0] at r0;rw[hs.2.2.2.2.2,e0] at r1;rw[a0,if_neg (by omega),if_neg (by omega),if_neg (by omega)];unfold Y1a;rw[if_neg (by omega),if_neg (by omega),if_neg (by omega),if_neg (by omega),if_pos o,show wr (0-v1)=0-v1 from Z5a iO,show wr (v0+(0-v1))=v0+(0-v1) from Z5a iO,M5a _ _,M5a _ _,Int.add_emod_right]
  congr 1;omega
 ·have hs:=(e6a (e:=e)).1 g0;have r0:=b0 0 v0 (by omega) h0;have r1:=b0 1 v1 (by omega) h1;rw[hs.2.2.2.2.1,e0] at r0;rw[hs.2.2.2.2.2,e0] at r1;have m0:=Int.mul_nonneg r0.1 r1.1;have m1:v0*v1≤256*256:=Int.mul_le_mul (by omega) (by omega) r1.1 (by omega);rw[a0,if_neg (by omega),if_neg (by omega),if_neg (by omega)];unfold Y1a;rw[if_neg (by omega),if_neg (by omega),if_neg (by omega),if_neg (by omega),if_neg (by omega),if_neg (by omega),if_pos o,show wr (v0*v1)=v0*v1 from L2a (h0:=m0) _]
 ·have hs:=(Z6a (e:=e)).1 g0;obtain rfl:n=1:=by omega
  rw[a0,if_neg (by omega),if_neg (by omega),if_neg (by omega)];unfold Y1a;rw[if_neg (by omega),if_neg (by omega),if_neg (by omega),if_neg (by omega),if_neg (by omega),if_neg (by omega),if_neg (by omega),if_pos o]
  split<;>rfl
 ·have hs:=(Z6a (e:=e)).1 g0;obtain rfl:n=1:=by omega
  rw[a0,if_neg (by omega),if_neg (by omega),if_neg (by omega)];unfold Y1a;rw[if_neg (by omega),if_neg (by omega),if_neg (by omega),if_neg (by omega),if_neg (by omega),if_neg (by omega),if_neg (by omega),if_neg (by omega),if_neg (by omega),if_pos o]
  split<;>rfl
 ·have hs:=(Z6a (e:=e)).1 g0;obtain rfl:n=1:=by omega
  rw[a0,if_neg (by omega),if_neg (by omega),if_neg (by omega)];unfold Y1a;rw[if_neg (by omega),if_neg (by omega),if_neg (by omega),if_neg (by omega),if_neg (by omega),if_neg (by omega),if_neg (by omega),if_neg (by omega),if_pos o];by_cases c1:v0=v1
  ·rw[if_pos c1,if_pos (by omega)];rfl
  ·rw[if_neg c1];by_cases c2:v0<v1
   ·rw[if_pos c2,if_pos (by omega)];rfl
   ·rw[if_neg c2,if_neg (by omega)];rfl
 ·have hs:=(P2b o).1 g0;have r0:=b0 0 v0 (by omega) h0;have r1:=b0 1 v1 (by omega) h1;have r2:=b0 2 v2 (by omega) h2;rw[hs.2.2.2.2.1] at r0;rw[hs.2.2.2.2.2.1,e0] at r1;rw[hs.2.2.2.2.2.2,e0] at r2;have e2:H3a (1:Int).toNat=2:=Z;rw[e2] at r0;obtain⟨y,rfl,y1,y2⟩:=E0c r1.1 r1.2 f0;obtain⟨_,rfl,z1,_⟩:=E0c r2.1 r2.2 f0;rw[if_neg (by omega),if_neg (by omega),if_neg (by omega)] at a0;unfold Y1a at a0;rw[if_neg (by omega),if_neg (by omega),if_neg (by omega),if_neg (by omega),if_neg (by omega),if_neg (by omega),if_neg (by omega),if_neg (by omega),if_neg (by omega),if_neg (by omega),if_pos o] at a0;by_cases c1:v0=1
  ·rw[if_pos c1,w0b f0 y1] at a0;exact .inl ⟨c1,a0⟩
  ·rw[if_neg c1,w0b f0 z1] at a0;exact .inr ⟨by omega,a0⟩
def g2b(s:ByteArray):Bool:=decide (1≤s.size)&&decide (s.size≤64)&&s.data.toList.all fun b=>decide (33≤b.toNat)&&decide (b.toNat≤126)
theorem K8a{s:ByteArray}(h:g2b s=true):z7a s:=by
 simp only[g2b,Bool.and_eq_true,decide_eq_true_eq,List.all_eq_true] at h;refine⟨h.1.1,h.1.2,fun i hi=>?_⟩;exact h.2 s[i] (by rw[ByteArray.getElem_eq_getElem_data];simp)
def inB(i:Int)(n:Nat):Bool:=decide (0≤i)&&decide (i<n)
theorem D9a{i:Int}{n:Nat}(h:inB i n=true):F1a i n:=by simpa[inB,F1a] using h
def Y4b(cells:List g1a)(e:E)(sh:Bool)(t:Int):Bool:=(e.sup 3++e.sup 2).all fun x=>(decide (u1a cells x≠-1)||sh)&&(decide (u1a cells x<0)||decide (u1a cells x=t))
theorem C8a{cells:List g1a}{e:E}{sh:Bool}{t:Int}(h:Y4b cells e sh t=true):v4a cells e sh t:=fun x hx=>by
 have:=List.all_eq_true.1 h x hx;simp only[Bool.and_eq_true,Bool.or_eq_true,decide_eq_true_eq] at this;exact⟨fun e=>this.1.resolve_left (fun h=>h e),fun e=>this.2.resolve_left (by omega)⟩
def T1b(cells:List g1a)(e:E)(pair:Bool)(t:Int):Bool:=e.valid cells pair&&decide (e.w=1)&&Y4b cells e true t
theorem e8a{cells:List g1a}{e:E}{a0:Bool}{t:Int}(h:T1b cells e a0 t=true):n6a cells e a0 t:=by
 simp only[T1b,Bool.and_eq_true,decide_eq_true_eq] at h;exact⟨h.1.1,h.1.2,C8a h.2⟩
def v0b:List Int→Bool
 | []=>true
 | x::l=>(l.all fun y=>decide (x<y))&&v0b l
theorem n9a:∀{l:List Int},v0b l=true→t1a l
 | [],_=>List.Pairwise.nil
 | x::l,h=>by
   simp only[v0b,Bool.and_eq_true,List.all_eq_true,decide_eq_true_eq] at h;exact List.Pairwise.cons h.1 (n9a h.2)
def pwB{α:Type}(r:α→α→Bool):List α→Bool
 | []=>true
 | x::l=>l.all (r x)&&pwB r l
theorem p2b{α:Type}{r:α→α→Bool}{R:α→α→Prop}(hr:∀a b,r a b=true→R a b):∀{l:List α},pwB r l=true→l.Pairwise R
 | [],_=>List.Pairwise.nil
 | x::l,h=>by
   simp only[pwB,Bool.and_eq_true,List.all_eq_true] at h;exact List.Pairwise.cons (fun y hy=>hr _ _ (h.1 y hy)) (p2b hr h.2)
def I7b(e:E):Bool:=decide (e.op=0)&&decide (e.w=0)&&decide (e.n=0)&&e.kids.isEmpty
theorem G9b{e:E}(h:I7b e=true):e.absent:=by
 simp only[I7b,Bool.and_eq_true,decide_eq_true_eq,List.isEmpty_iff] at h;exact⟨h.1.1.1,h.1.1.2,h.1.2,h.2⟩
def j4d(e:E):Bool:=decide (e.op=1)&&decide (e.w=1)&&decide (e.n=1)&&e.kids.isEmpty
theorem N8c{e:E}(h:j4d e=true):e=⟨1,1,1,[]⟩:=by
 simp only[j4d,Bool.and_eq_true,decide_eq_true_eq,List.isEmpty_iff] at h;cases e;simp_all
def ifB(c:Prop)[Decidable c](b:Bool):Bool:=!decide c||b
theorem E8a{c:Prop}[Decidable c]{b:Bool}(h:ifB c b=true)(hc:c):b=true:=by simpa[ifB,hc] using h
def X7c(p:m0a)(t:Int)(s:i2a):Bool :=
 Y4b p.cells s.guard (decide (s.kind=4)) t &&
 ((List.range s.set.length).all fun i=>match s.set[i]? with|some a=>ifB (0<i∨s.kind≠2) (Y4b p.cells a.to (decide (s.kind=4)) t)|none=>true) &&
 (s.set.all fun a=>decide (u1a p.cells a.cell=t∨u1a p.cells a.cell=-1)) &&
 ifB (s.kind=1) (s.set.all fun a=>decide (u1a p.cells a.cell=t)) &&
 ifB (s.kind=2) (match s.set with|[]=>false|a::l=>decide (u1a p.cells a.cell=t∧i9a p.cells a.cell=false∧a.to.op=2∧u1a p.cells a.to.n=-1∧i9a p.cells a.to.n=false)&&l.all fun b=>decide (u1a p.cells b.cell=t∧i9a p.cells b.cell=true)) &&
 ifB (s.kind=3) (match s.set with|[]=>false|a::l=>decide (u1a p.cells a.cell=-1∧i9a p.cells a.cell=false)&&l.all fun b=>decide (i9a p.cells b.cell=true)) &&
 ifB (5≤s.kind) (s.set.isEmpty&&j4d s.guard) &&
 ifB (6≤s.kind) (inB s.target p.threads.length&&decide (s.target≠t)) &&
 ifB (s.kind=6) (match p.threads[s.target.toNat]? with|some u=>u.asleep|none=>true)
theorem O4c{p:m0a}{t:Int}{s:i2a}(h:X7c p t s=true):K9a p t s:=by
 simp only[X7c,Bool.and_eq_true] at h;obtain⟨⟨⟨⟨⟨⟨⟨⟨a1,a2⟩,a3⟩,a4⟩,a5⟩,a6⟩,a7⟩,a8⟩,a9⟩:=h;refine⟨C8a a1,fun i hi hc=>?_,fun a ha=>of_decide_eq_true (List.all_eq_true.1 a3 a ha),fun hk a ha=>of_decide_eq_true (List.all_eq_true.1 (E8a a4 hk) a ha),fun hk=>?_,fun hk=>?_,fun hk=>?_,fun hk=>?_,fun hk u hu=>?_⟩
 ·have:=List.all_eq_true.1 a2 i (List.mem_range.2 hi);rw[List.getElem?_eq_getElem hi] at this;exact C8a (E8a this hc)
 ·have:=E8a a5 hk
  split at this
  ·cases this
  ·rename_i a l hs;rw[Bool.and_eq_true] at this;obtain⟨b1,b2,b3,b4,b5⟩:=of_decide_eq_true this.1;exact⟨a,l,hs,b1,b2,b3,b4,b5,fun b hb=>of_decide_eq_true (List.all_eq_true.1 this.2 b hb)⟩
 ·have:=E8a a6 hk
  split at this
  ·cases this
  ·rename_i a l hs;rw[Bool.and_eq_true] at this;obtain⟨b1,b2⟩:=of_decide_eq_true this.1;exact⟨a,l,hs,b1,b2,fun b hb=>of_decide_eq_true (List.all_eq_true.1 this.2 b hb)⟩
 ·have:=E8a a7 hk;rw[Bool.and_eq_true,List.isEmpty_iff] at this;exact⟨this.1,N8c this.2⟩
 ·have:=E8a a8 hk;rw[Bool.and_eq_true] at this;exact⟨D9a this.1,of_decide_eq_true this.2⟩
 ·have:=E8a a9 hk;rw[hu] at this;exact this
def stepB(p:m0a)(t:Int)(points:Int)(s:i2a):Bool :=
 decide (1≤s.kind∧s.kind≤7)&&decide (0≤s.frm∧s.frm<points-1)&&decide (0≤s.to∧s.to<points)&&inB s.module_ p.modules.length&&ifB (s.release=true) (decide (s.kind=3)) &&
 ifB (s.target≠0) (decide (s.kind=6∨s.kind=7))&&(s.guard.valid p.cells false&&decide (s.guard.w=1)) &&
 (s.set.all fun a=>inB a.cell p.cells.length&&a.to.valid p.cells false&&decide (a.to.w=wAt p.cells a.cell))&&pwB (fun a b=>decide (a.cell≠b.cell)) s.set&&X7c p t s
theorem p6c{p:m0a}{t points:Int}{s:i2a}(h:stepB p t points s=true):d2b p t points s:=by
 simp only[stepB,Bool.and_eq_true] at h;obtain⟨⟨⟨⟨⟨⟨⟨⟨⟨a1,a2⟩,a3⟩,a4⟩,a5⟩,a6⟩,a7,b0⟩,a8⟩,a9⟩,a0⟩:=h;refine⟨of_decide_eq_true a1,of_decide_eq_true a2,of_decide_eq_true a3,D9a a4,fun hr=>of_decide_eq_true (E8a a5 hr),fun hr=>of_decide_eq_true (E8a a6 hr),⟨a7,of_decide_eq_true b0⟩,fun a ha=>?_,p2b (fun a b h=>of_decide_eq_true h) a9,O4c a0⟩;have:=List.all_eq_true.1 a8 a ha;simp only[Bool.and_eq_true] at this;exact⟨D9a this.1.1,this.1.2,of_decide_eq_true this.2⟩
def a1d(p:m0a)(t points:Int)(l:C6b):Bool:=decide (0≤l.head∧l.head<points)&&v0b l.body&&(l.body.all fun x=>decide (0≤x∧x<points∧x≠l.head))&&(l.variant.valid p.cells false&&Y4b p.cells l.variant true t)
theorem s5c{p:m0a}{t points:Int}{l:C6b}(h:a1d p t points l=true):M7b p t points l:=by
 simp only[a1d,Bool.and_eq_true] at h;obtain⟨⟨⟨a1,a2⟩,a3⟩,a4,a5⟩:=h;exact⟨of_decide_eq_true a1,n9a a2,fun x hx=>of_decide_eq_true (List.all_eq_true.1 a3 x hx),a4,C8a a5⟩
def h7b(p:m0a)(t:Nat)(x:D1a):Bool :=
 g2b x.name&&decide (1≤x.points∧x.points≤48)&&decide (x.steps.length≤64)&&decide (x.loops.length≤8)&&decide ((x.asserts.length:Int)=x.points)&&decide ((x.modules.length:Int)=x.points) &&
 (x.modules.all fun m=>inB m p.modules.length)&&(x.asserts.all fun e=>T1b p.cells e false t)&&(x.steps.all fun s=>stepB p t x.points s)&&(x.loops.all fun l=>a1d p t x.points l)
theorem m0c{p:m0a}{t:Nat}{x:D1a}(h:h7b p t x=true):p5a p t x:=by
 simp only[h7b,Bool.and_eq_true] at h;obtain⟨⟨⟨⟨⟨⟨⟨⟨⟨a1,a2⟩,a3⟩,a4⟩,a5⟩,a6⟩,a7⟩,a8⟩,a9⟩,a0⟩:=h;exact⟨K8a a1,of_decide_eq_true a2,of_decide_eq_true a3,of_decide_eq_true a4,of_decide_eq_true a5,of_decide_eq_true a6,fun m hm=>D9a (List.all_eq_true.1 a7 m hm),fun m hm=>e8a (List.all_eq_true.1 a8 m hm),
  fun m hm=>p6c (List.all_eq_true.1 a9 m hm),fun m hm=>s5c (List.all_eq_true.1 a0 m hm)⟩
def U9c(p:m0a)(c:g1a):Bool:=g2b c.name&&decide (1≤c.w∧c.w≤8)&&decide (0≤c.init∧c.init<H3a c.w.toNat)&&decide (-1≤c.thread∧c.thread<p.threads.length)&&inB c.module_ p.modules.length
theorem T4c{p:m0a}{c:g1a}(h:U9c p c=true):S1b p c:=by
 simp only[U9c,Bool.and_eq_true] at h;obtain⟨⟨⟨⟨a1,a2⟩,a3⟩,a4⟩,a5⟩:=h;exact⟨K8a a1,of_decide_eq_true a2,of_decide_eq_true a3,of_decide_eq_true a4,D9a a5⟩
def E4d(p:m0a)(m:k2a):Bool:=g2b m.name&&g2b m.owner&&(I7b m.rely||T1b p.cells m.rely true (-1))&&T1b p.cells m.guar true (-1)&&(m.frame.all fun x=>inB x p.cells.length&&decide (u1a p.cells x=-1))&&v0b m.frame
theorem D8c{p:m0a}{m:k2a}(h:E4d p m=true):H1c p m:=by
 simp only[E4d,Bool.and_eq_true,Bool.or_eq_true] at h;obtain⟨⟨⟨⟨⟨a1,a2⟩,a3⟩,a4⟩,a5⟩,a6⟩:=h;refine⟨K8a a1,K8a a2,a3.imp G9b e8a,e8a a4,fun x hx=>?_,n9a a6⟩;have:=List.all_eq_true.1 a5 x hx;rw[Bool.and_eq_true] at this;exact⟨D9a this.1,of_decide_eq_true this.2⟩
def f8c(p:m0a)(l:I5b):Bool:=inB l.cell p.cells.length&&decide (u1a p.cells l.cell=-1∧wAt p.cells l.cell=1∧i9a p.cells l.cell=false)&&inB l.module_ p.modules.length&&T1b p.cells l.inv false (-1)
theorem a6c{p:m0a}{l:I5b}(h:f8c p l=true):w4b p l:=by
 simp only[f8c,Bool.and_eq_true] at h;obtain⟨⟨⟨a1,a2⟩,a3⟩,a4⟩:=h;exact⟨⟨D9a a1,of_decide_eq_true a2⟩,D9a a3,e8a a4⟩
def T1d(p:m0a):Bool :=
 decide (p.cells.length≤32)&&decide (p.modules.length≤6)&&decide (p.locks.length≤4)&&decide (p.threads.length≤4) &&
 p.cells.all (U9c p)&&pwB (fun a b=>decide (a.name≠b.name)) p.cells&&p.modules.all (E4d p)&&pwB (fun a b=>decide (a.name≠b.name)) p.modules&&p.locks.all (f8c p)&&pwB (fun a b=>decide (a.cell≠b.cell)) p.locks &&
 ((List.range p.threads.length).all fun t=>match p.threads[t]? with|some x=>h7b p t x|none=>true)&&pwB (fun a b=>decide (a.name≠b.name)) p.threads
theorem e5c{p:m0a}(h:T1d p=true):W0a p:=by
 simp only[T1d,Bool.and_eq_true] at h;obtain⟨⟨⟨⟨⟨⟨⟨⟨⟨⟨⟨a1,a2⟩,a3⟩,a4⟩,a5⟩,a6⟩,a7⟩,a8⟩,a9⟩,a0⟩,b0⟩,c0⟩:=h;refine⟨of_decide_eq_true a1,of_decide_eq_true a2,of_decide_eq_true a3,of_decide_eq_true a4,fun c hc=>T4c (List.all_eq_true.1 a5 c hc),p2b (fun _ _ h=>of_decide_eq_true h) a6,fun c hc=>D8c (List.all_eq_true.1 a7 c hc),
  p2b (fun _ _ h=>of_decide_eq_true h) a8,fun c hc=>a6c (List.all_eq_true.1 a9 c hc),p2b (fun _ _ h=>of_decide_eq_true h) a0,fun t ht=>?_,p2b (fun _ _ h=>of_decide_eq_true h) c0⟩
 have:=List.all_eq_true.1 b0 t (List.mem_range.2 ht);rw[List.getElem?_eq_getElem ht] at this;exact m0c this
section
variable {P:Program} {r:Option Nat} {N:Nat} {D:List Deferred} {e:Env} {w:World} {ops:Array Oper} {rest:List Oper} {K:List Deferred→Env→World→Prop}
variable {d:Nat} {t:TypeId} {p:String} {af:Array Edge} {x y:Operand} {xt yt:TypeId} {kd:IntKind} {a b:Int} {C:World→Prop} {Kq:Env→Prop}
theorem Q4c(w:World)(h0:0≤a)(h1:0<b):(Op.intDiv .rem kd a b).run P w=.ok (.int kd (a % b)) w:=by
 have hb:b≠0:=by omega
 have ht:a.tmod b=a % b:=Int.tmod_eq_emod_of_nonneg h0;simp[Op.intDiv,hb,ht]
theorem g4d(hx:ev e x=.int kd a)(hy:ev e y=.int kd b)(h0:0≤a)(h1:0<b)(hd:Nat.ble (d+1) N=true)(h:QL P N ops C rest Kq (upd e d (.int kd (a % b)))):
 QL P N ops C (⟨some d,.binOp .rem xt x y yt,t,p,af,none⟩::rest) Kq e :=
 D2a Z Z hd (fun w _=>by simp[execOp,hx,hy,eqGuard,binOp,Q4c w h0 h1]) h
end
section
variable {α:Type} {M:List Nat} {w:World} {size:Nat} {R:LV→α→Prop} {g:Nat}
theorem N6b{css:List LV}{l:List α}{n:Nat}(hg:g∉M)(hc:Cells w g 0 css.flatten)(hn:n=l.length)(hl:css.length=l.length)(h4:∀x∈css,x.length=size)(hR:∀(i:Nat) (x:α),l[i]?=some x→∃c,css[i]?=some c∧R c x)(a0:l.length≤1000000:=by simp):RdS M w size R (.slice (some ⟨g,0,none⟩) n n) l:=by
 subst hn;refine⟨_,_,_,Z,Z,Nat.le_refl _,by unfold maxLen;omega,by omega,fun _=>⟨g,0,Z,hg,fun i x hi=>?_⟩⟩;obtain⟨c,h5,h6⟩:=hR i x hi;exact⟨c,h4 c (List.mem_of_getElem? h5),fun j u hj=>by simpa using hc _ u (M3c css i c h4 h5 j u hj),h6⟩
theorem n6c{c:LV}{x:α}(hc:Cells w g 0 c)(h4:c.length=size)(hr:R c x)(hg:g∉M:=by simp):RdS M w size R (.slice (some ⟨g,0,none⟩) 1 1) [x] :=
 N6b (css:=[c]) hg (by simpa using hc) Z Z (by simpa using h4) (fun i y hi=>by
  match i,hi with
  | 0,hi=>cases hi;exact⟨c,Z,hr⟩)
theorem c3b{c c2:LV}{x x2:α}(hc:Cells w g 0 (c++c2))(h4:c.length=size)(h5:c2.length=size)(hr:R c x)(a0:R c2 x2)(hg:g∉M:=by simp):RdS M w size R (.slice (some ⟨g,0,none⟩) 2 2) [x,x2] :=
 N6b (css:=[c,c2]) hg (by simpa using hc) Z Z (by simpa using⟨h4,h5⟩) (fun i y hi=>by
  match i,hi with
  | 0,hi=>cases hi;exact⟨c,Z,hr⟩
  | 1,hi=>cases hi;exact⟨c2,Z,a0⟩)
theorem e2d{c c2 c3:LV}{x x2 x3:α}(hc:Cells w g 0 (c++(c2++c3)))(h4:c.length=size)(h5:c2.length=size)(h6:c3.length=size)(hr:R c x)(a0:R c2 x2)(b0:R c3 x3)(hg:g∉M:=by simp):RdS M w size R (.slice (some ⟨g,0,none⟩) 3 3) [x,x2,x3] :=
 N6b (css:=[c,c2,c3]) hg (by simpa using hc) Z Z (by simpa using⟨h4,h5,h6⟩) (fun i y hi=>by
  match i,hi with
  | 0,hi=>cases hi;exact⟨c,Z,hr⟩
  | 1,hi=>cases hi;exact⟨c2,Z,a0⟩
  | 2,hi=>cases hi;exact⟨c3,Z,b0⟩)
end
theorem Z1a{P:Program}{f:FuncId}{args:Array Value}{w:World}{b:Bool}(h:A0a P f args w fun v w'=>v=.bool b∧Below w.heap.size w w')(hb:b=true):A0a P f args w fun v w'=>v=.bool true∧Below w.heap.size w w':=by
 subst hb;exact h
theorem I4a{P:Program}{f:FuncId}{args:Array Value}{w:World}{b:Bool}(h:A0a P f args w fun v w'=>v=.bool b∧Below w.heap.size w w')(hb:b=false):A0a P f args w fun v w'=>v=.bool false∧Below w.heap.size w w':=by
 subst hb;exact h
end Go.Fw
