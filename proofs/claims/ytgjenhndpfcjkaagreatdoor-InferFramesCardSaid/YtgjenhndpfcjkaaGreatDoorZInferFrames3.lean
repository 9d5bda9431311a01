/-
  Part 3 of 9 of the proof of InferFrames: what it leans on. No conditions.
-/
import Derived.Test.YtgjenhndpfcjkaaGreatDoorZInferFrames2
import Derived.Test.YtgjenhndpfcjkaaGreatDoorRows
import Derived.ProofKit
import Derived.LaidMore
import Derived.OpenShut
import Derived.Carry
import Derived.SizedLaws
import Derived.Stop.Joined
import Derived.Test.YtgjenhndpfcjkaaGreatDoorTie
import Derived.Test.YtgjenhndpfcjkaaGreatDoorCards
import Derived.SevenTiedAt
import Derived.Laws.CopyRow
import Derived.Laws.IdiomCopy
import Derived.Laws.StructEq
import Derived.Lib.SliceRun
import Derived.Laws.OwnMore
import Derived.Lib.Builder
import Derived.Lib.AppendStr
import Derived.Laws.Externs
import Derived.Laws.Concat
import Derived.Lib.ItoaNum
set_option maxRecDepth 100000
set_option maxHeartbeats 4000000
namespace Go.Proofs.YtgjenhndpfcjkaaGreatDoor
end Go.Proofs.YtgjenhndpfcjkaaGreatDoor
namespace Go.Fw
open Go.Proofs.YtgjenhndpfcjkaaGreatDoor Go.Proofs Go.RowKit Go.ChangeShapes Go.WideShapes Tryz
variable {P:Program} {r:Option Nat} {N:Nat} {D:List Deferred} {e:Env} {w w0:World} {ops:Array Oper} {rest:List Oper} {K:List Deferred→Env→World→Prop} {L:List Ent} {M:List Nat}
theorem M3a{p:j0a}(hc:g3a p){e:E}{a0:Bool}:(e.w=1∧e.valid p.cells a0=true∧A3a e (shQ p)=true)↔Y4a p.cells e a0 (-1) :=
 ⟨fun⟨a,b,c⟩=>⟨b,a,(J5c hc b).1 c⟩,fun⟨b,a,c⟩=>⟨a,b,(J5c hc b).2 c⟩⟩
theorem Q1b{p:j0a}(hc:g3a p){e:E}{a0:Bool}{t:Int}:(e.w=1∧e.valid p.cells a0=true∧A3a e (c1b p t)=true)↔Y4a p.cells e a0 t :=
 ⟨fun⟨a,b,c⟩=>⟨b,a,(L6a hc b).1 c⟩,fun⟨b,a,c⟩=>⟨a,b,(L6a hc b).2 c⟩⟩
theorem H5b(p:j0a)(M:List Nat)(w0:World)(cs:List Value)(hP:a1a M w0 p cs)(hN:S5a p)(hc:g3a p)(hK:k2a M w0)(hM:∀g∈M,g<w0.heap.size):
 O0a prog 65 #[.agg cs.toArray] w0 fun v w'=>(∃a,v=.int .i64 a∧(a=0↔j4b p))∧Bw w0 w':=by
 obtain⟨Ac,nc,cc,Am,nm,cm,Al,nl,cl,At,nt,ct,rfl,_,Y0,_⟩:=hP.open_;have S:=St.refl w0;have t0:∀w':World,w0.heap.size≤w'.heap.size→∀g∈M,g<w'.heap.size:=fun w' h g hg=>by have:=hM g hg;omega
 refine a0a func65 Z ntmps65 Z ?_;refine wO0 Z U (r0a S Z ?_);intro g1 w1 S1 X1 G1;refine lO0 Z U (s3a (k:=9) S1 Z ?_);intro g6 w6 S6 X6 G6 a0;have Z0:w0.heap.size≤g6:=by have:=S1.size;omega
 refine lC S6.k [.o 0] Z ⟨Z,U⟩ (wL (fun μk D ε w=>D=[]∧∃k:Nat,(k+μk=(p.modules.length))∧(e1a (p.modules) k (fun x=>q3c p x))∧(((p.modules.take k).map fun c=>Value.string c.name).Nodup)∧(i3a prog 9 w g6 (J3a ((p.modules.take k).map fun c=>.string c.name)))∧St [] w0 w [(some g1,122,[.slice Ac nc cc,.slice Am nm cm,.slice Al nl cl,.slice At nt ct])]∧Sl ε [(1,.pointer (some ⟨g1,0,none⟩)),(3,.map (some g6)),(9,.slice Am nm cm),(10,.int .i64 nm),(11,.int .i64 k)]) (μ:=(p.modules.length)) ⟨Z,0,by omega,e1a.zero,(by simp),(by simpa[J3a] using a0),S6,Z⟩ ?_);rintro μk D ε w ⟨rfl,k,_,hs,hd,a0,S,eZ⟩;refine wK eZ (wB0 Z U (fun X0=>?_) fun X0=>?_)
 ·obtain⟨x,W0,a1,_,b0,H0,_,J0,I0,L0⟩:=RdS.get (Y0) (k) (by omega);obtain⟨_,_,_,_,_,_,_,_,_,rfl,u0,s0,i0,_⟩:=x0a.open_ L0;have T0:=(hN.mods x (e0a b0)).1;refine lO (S.k.a I0) [.x W0 a1,.v 0] Z ⟨⟨Z,J0⟩,⟨H0,by omega⟩,U⟩ (h0a S m2c Z Z ?_);intro g5 w5 S5 X5 G5;replace a0:=a0.keep X5 (List.not_mem_nil);refine b0a (kk:=0) (vs:=[_,_,_,_,_,_,_,_,_,_,_]) S5 p0c Z Z Z Z Z Z Z ?_;intro i1 j0 E0;dsimp only[d0a,List.set] at j0;replace a0:=a0.keep E0 (fun hh=>by rw[List.mem_singleton] at hh;exact a0.ne (S5.blk 0 Z) hh);refine lO j0.k [.o 0] Z ⟨Z,U⟩ (f0a j0 j3b Z Z (i7a _ _ T0) (fun B0 b1 y0 Q0=>?_) (fun B0 b1 y0 Q0=>?_))
  ·replace a0:=a0.keep Q0 (List.not_mem_nil);refine lO y0.k [.o 0] Z ⟨Z,U⟩ (f0a y0 j3b Z Z (i7a _ _ (hN.mods x (e0a b0)).2) (fun C0 c1 z0 R0=>?_) (fun C0 c1 z0 R0=>?_))
   ·replace a0:=a0.keep R0 (List.not_mem_nil);refine lO z0.k [.o 0] Z ⟨Z,U⟩ (a2a P2b Z Z (B7a g6 _ x.name _ a0 T0) ?_);rintro v28 j1 ⟨⟨z28,rfl,x0⟩,U0,V0⟩;have A0:=z0.turned a0 (.inl Z0) U0;clear a0;cases v0:z28
    ·refine G0a (hv:=Z) (v:=.bool _) Z ?_;have K0:Value.string x.name∉(p.modules.take k).map fun c=>Value.string c.name:=fun hh=>absurd (x0.2 hh) (by rw[v0];decide);have a0:=V0 K0;refine lO A0.k [.o 0] Z ⟨Z,U⟩ (f0a A0 z9c Z Z (h9b x.rely M _ _ (RdE.keep (A0.keep0 M) _ _ u0)) (fun F0 d1 c0 D0=>?_) (fun F0 d1 c0 D0=>?_))
     ·replace a0:=a0.keep D0 (List.not_mem_nil);refine lO c0.k [.w 1,.o 0,.w 1] Z ⟨⟨Z,Z⟩,Z,⟨Z,Z⟩,U⟩ (h2a Z Z Z ?_);refine f0a c0 s0b Z Z (n0b p x.guar M _ _ _ true _ (shQ p) (hP.keep (c0.keep0 M)) (RdE.keep (c0.keep0 M) _ _ s0) (H3a (hP.keep (c0.keep0 M))) (hK.keep (c0.keep0 M)) (t0 _ c0.size)) (fun n0 N0 e0 p0=>?_) (fun n0 N0 e0 p0=>?_)
      ·replace a0:=a0.keep p0 (List.not_mem_nil);refine lO e0.k [.o 0] Z ⟨Z,U⟩ (f0a e0 v6b Z Z (N4a M _ _ _ (i0.keep (e0.keep0 M))) (fun o0 O0 d0 q0=>?_) (fun o0 O0 d0 q0=>?_))
       ·replace a0:=a0.keep q0 (List.not_mem_nil);refine lO d0.k [.o 0,.w 1] Z ⟨⟨Z,Z⟩,Z,U⟩ (h2a Z Z Z ?_);refine f0a d0 i8a Z Z (Z4a M _ _ _ x.frame (shQ p) (i0.keep (d0.keep0 M)) (H3a (hP.keep (d0.keep0 M))) (t0 _ d0.size)) (fun g0 P0 m0 r0=>?_) (fun g0 P0 m0 r0=>?_)
        ·replace a0:=a0.keep r0 (List.not_mem_nil);refine lP0 Z ⟨by omega,U⟩ ?_;refine⟨μk-1,by omega,Z,(k+1),(by omega),?_,?_,((by rw[t0a b0,List.map_append];exact a0)),m0.tail,Z⟩
         ·exact hs.succ b0 ⟨f1a B0,f1a C0,by exact .inl (f1a F0),(M3a hc).1 (f1a n0),fun z hz=>of_decide_eq_true (p:=(0≤z∧z<p.cells.length)∧q1a p.cells z=-1) (List.all_eq_true.1 g0 z hz),f1a o0⟩
         ·rw[t0a b0,List.map_append,List.map_singleton,List.nodup_append];exact⟨hd,by simp,fun a ha b hb he=>by rw[List.mem_singleton.1 hb] at he;exact K0 (he▸ha)⟩
        replace a0:=a0.keep r0 (List.not_mem_nil);refine lT Z U Z ⟨⟨_,Z,iF (fun h=>?_)⟩,m0.fin⟩;have h1:=h.1 x (e0a b0)
        (have q:x.frame.all (shQ p)=true:=List.all_eq_true.2 fun z hz=>decide_eq_true (h1.frame z hz)
         rw[q] at g0;cases g0;done)
       replace a0:=a0.keep q0 (List.not_mem_nil);refine lT Z U Z ⟨⟨_,Z,iF (fun h=>?_)⟩,d0.fin⟩;have h1:=h.1 x (e0a b0);exact Q0a o0 h1.up
      replace a0:=a0.keep p0 (List.not_mem_nil);refine lT Z U Z ⟨⟨_,Z,iF (fun h=>?_)⟩,e0.fin⟩;have h1:=h.1 x (e0a b0);exact Q0a n0 ((M3a hc).2 h1.guar)
     replace a0:=a0.keep D0 (List.not_mem_nil);refine lO c0.k [.w 1,.o 0,.w 1] Z ⟨⟨Z,Z⟩,Z,⟨Z,Z⟩,U⟩ (h2a Z Z Z ?_);refine lO0 Z U (f0a c0 s0b Z Z (n0b p x.rely M _ _ _ true _ (shQ p) (hP.keep (c0.keep0 M)) (RdE.keep (c0.keep0 M) _ _ u0) (H3a (hP.keep (c0.keep0 M))) (hK.keep (c0.keep0 M)) (t0 _ c0.size)) (fun G0 f1 f0 S0=>?_) (fun G0 f1 f0 S0=>?_))
     ·replace a0:=a0.keep S0 (List.not_mem_nil);refine lO f0.k [.w 1,.o 0,.w 1] Z ⟨⟨Z,Z⟩,Z,⟨Z,Z⟩,U⟩ (h2a Z Z Z ?_);refine f0a f0 s0b Z Z (n0b p x.guar M _ _ _ true _ (shQ p) (hP.keep (f0.keep0 M)) (RdE.keep (f0.keep0 M) _ _ s0) (H3a (hP.keep (f0.keep0 M))) (hK.keep (f0.keep0 M)) (t0 _ f0.size)) (fun n0 N0 e0 p0=>?_) (fun n0 N0 e0 p0=>?_)
      ·replace a0:=a0.keep p0 (List.not_mem_nil);refine lO e0.k [.o 0] Z ⟨Z,U⟩ (f0a e0 v6b Z Z (N4a M _ _ _ (i0.keep (e0.keep0 M))) (fun o0 O0 d0 q0=>?_) (fun o0 O0 d0 q0=>?_))
       ·replace a0:=a0.keep q0 (List.not_mem_nil);refine lO d0.k [.o 0,.w 1] Z ⟨⟨Z,Z⟩,Z,U⟩ (h2a Z Z Z ?_);refine f0a d0 i8a Z Z (Z4a M _ _ _ x.frame (shQ p) (i0.keep (d0.keep0 M)) (H3a (hP.keep (d0.keep0 M))) (t0 _ d0.size)) (fun g0 P0 m0 r0=>?_) (fun g0 P0 m0 r0=>?_)
        ·replace a0:=a0.keep r0 (List.not_mem_nil);refine lP0 Z ⟨by omega,U⟩ ?_;refine⟨μk-1,by omega,Z,(k+1),(by omega),?_,?_,((by rw[t0a b0,List.map_append];exact a0)),m0.tail,Z⟩
         ·exact hs.succ b0 ⟨f1a B0,f1a C0,by exact .inr ((M3a hc).1 (f1a G0)),(M3a hc).1 (f1a n0),fun z hz=>of_decide_eq_true (p:=(0≤z∧z<p.cells.length)∧q1a p.cells z=-1) (List.all_eq_true.1 g0 z hz),f1a o0⟩
         ·rw[t0a b0,List.map_append,List.map_singleton,List.nodup_append];exact⟨hd,by simp,fun a ha b hb he=>by rw[List.mem_singleton.1 hb] at he;exact K0 (he▸ha)⟩
        refine lT Z U Z ⟨⟨_,Z,iF (fun h=>?_)⟩,m0.fin⟩;have h1:=h.1 x (e0a b0)
        (have q:x.frame.all (shQ p)=true:=List.all_eq_true.2 fun z hz=>decide_eq_true (h1.frame z hz)
         rw[q] at g0;cases g0;done)
       refine lT Z U Z ⟨⟨_,Z,iF (fun h=>?_)⟩,d0.fin⟩;have h1:=h.1 x (e0a b0);exact Q0a o0 h1.up
      refine lT Z U Z ⟨⟨_,Z,iF (fun h=>?_)⟩,e0.fin⟩;have h1:=h.1 x (e0a b0);exact Q0a n0 ((M3a hc).2 h1.guar)
     refine lT Z U Z ⟨⟨_,Z,iF (fun h=>?_)⟩,f0.fin⟩;have h1:=h.1 x (e0a b0);exact h1.rely.elim (Q0a F0) (fun hh=>Q0a G0 ((M3a hc).2 hh))
    refine G0a (hv:=Z) (v:=.bool _) Z ?_;refine lT Z U Z ⟨⟨_,Z,iF (fun h=>?_)⟩,A0.fin⟩;have h1:=h.1 x (e0a b0);exact absurd (x0.1 v0) (k4a (f:=fun(c:P0a)=>Value.string c.name) (h.2.imp fun h e=>h (by injection e)) b0)
   refine lT Z U Z ⟨⟨_,Z,iF (fun h=>?_)⟩,z0.fin⟩;have h1:=h.1 x (e0a b0);exact Q0a C0 h1.owner
  refine lT Z U Z ⟨⟨_,Z,iF (fun h=>?_)⟩,y0.fin⟩;have h1:=h.1 x (e0a b0);exact Q0a B0 h1.name
 refine lT Z U Z ?_;refine⟨⟨_,Z,iff_of_true (by omega) ⟨hs.all (by omega),?_⟩⟩,S.fin⟩;rw[List.take_of_length_le (by omega)] at hd;exact(List.pairwise_map.1 hd).imp fun h e=>h (by rw[e])
theorem n2c(p:j0a)(M:List Nat)(w0:World)(cs:List Value)(hP:a1a M w0 p cs)(hc:g3a p)(hK:k2a M w0)(hM:∀g∈M,g<w0.heap.size):
 O0a prog 66 #[.agg cs.toArray] w0 fun v w'=>(∃a,v=.int .i64 a∧(a=0↔k0b p))∧Bw w0 w':=by
 obtain⟨Ac,nc,cc,Am,nm,cm,Al,nl,cl,At,nt,ct,rfl,hC,_,S0,_⟩:=hP.open_;have S:=St.refl w0;have T0:∀w':World,w0.heap.size≤w'.heap.size→∀g∈M,g<w'.heap.size:=fun w' h g hg=>by have:=hM g hg;omega
 refine a0a func66 Z ntmps66 Z ?_;refine wO0 Z U (r0a S Z ?_);intro g1 w1 S1 X1 G1;refine lO0 Z U (s3a (k:=3) S1 Z ?_);intro g8 w8 S8 X8 G8 a0;have U0:w0.heap.size≤g8:=by have:=S1.size;omega
 refine lC S8.k [.o 0] Z ⟨Z,U⟩ (wL (fun μk D ε w=>D=[]∧∃k:Nat,(k+μk=(p.locks.length))∧(e1a (p.locks) k (fun x=>k5b p x))∧(((p.locks.take k).map fun c=>Value.int .i64 c.cell).Nodup)∧(i3a prog 3 w g8 (J3a ((p.locks.take k).map fun c=>.int .i64 c.cell)))∧St [] w0 w [(some g1,122,[.slice Ac nc cc,.slice Am nm cm,.slice Al nl cl,.slice At nt ct])]∧Sl ε [(1,.pointer (some ⟨g1,0,none⟩)),(3,.map (some g8)),(11,.slice Al nl cl),(12,.int .i64 nl),(13,.int .i64 k)]) (μ:=(p.locks.length)) ⟨Z,0,by omega,e1a.zero,(by simp),(by simpa[J3a] using a0),S8,Z⟩ ?_);rintro μk D ε w ⟨rfl,k,_,hs,hd,a0,S,eZ⟩;refine wK eZ (wB0 Z U (fun Q0=>?_) fun Q0=>?_)
 ·obtain⟨x,N0,W0,_,d0,t0,_,A0,y0,B0⟩:=RdS.get (S0) (k) (by omega);obtain⟨_,_,_,rfl,F0,_,x0⟩:=O4a.open_ B0;refine lO (S.k.a y0) [.x N0 W0,.v 0] Z ⟨⟨Z,A0⟩,⟨t0,by omega⟩,U⟩ (h0a S I0d Z Z ?_);intro g5 w5 S5 X5 G5;replace a0:=a0.keep X5 (List.not_mem_nil);refine b0a (kk:=0) (vs:=[_,_,_,_,_,_]) S5 K2d Z Z Z Z Z Z Z ?_;intro a1 e0 p0;dsimp only[d0a,List.set] at e0;replace a0:=a0.keep p0 (fun hh=>by rw[List.mem_singleton] at hh;exact a0.ne (S5.blk 0 Z) hh);refine lO e0.k [.w 1,.o 0] Z ⟨Z,⟨Z,Z⟩,U⟩ (f0a e0 X0b Z Z (d5a p M _ _ _ (hP.keep (e0.keep0 M))) (fun q0 Z0 c0 H0=>?_) (fun q0 Z0 c0 H0=>?_))
  ·replace a0:=a0.keep H0 (List.not_mem_nil);have L0:=of_decide_eq_true q0;obtain⟨c,O0,X0,_,i0,u0,_,_,z0,C0⟩:=RdS.get (hC) (x.cell.toNat) (by omega);obtain⟨rfl,_⟩:=U2a.open_ C0;refine lB (c0.k.a z0) [.o 1,.o 0,.x O0 X0,.f 0 1] Z ⟨Z,⟨u0,by omega⟩,Z,Z,U⟩ (fun R0=>?_) fun R0=>?_
   ·refine lT Z U Z ⟨⟨_,Z,iF (fun h=>?_)⟩,c0.fin⟩;have h1:=h.1 x (e0a d0)
    (have q:=h1.cell;rw[S4a i0,H2a i0] at q;omega)
   obtain⟨_,P0,Y0,_,E0,v0,_,_,j0,D0⟩:=RdS.get (hC) (x.cell.toNat) (by omega);obtain rfl:=Option.some.inj (i0.symm.trans E0);obtain⟨rfl,_⟩:=U2a.open_ D0;refine lO c0.k [.o 1,.o 0,.x P0 Y0] Z ⟨⟨v0,by omega⟩,Z,Z,U⟩ ?_;cases f0:c.ghost
   ·refine L0a S2a Z (by exact(c0.old (j0 _ _ Z)).trans (congrArg (fun b=>some (Value.bool b)) f0)) Z ?_;refine lO c0.k [.o 0] Z ⟨Z,U⟩ ?_;have m0:=C5a F0;refine R9a (Go.Maps.int_keyed Tryz.underlying3) Tryz.underlying183 j7a a0 Z Z m0 Z (fun V0=>?_) fun K0=>?_
    ·refine lO0 Z U (h0a c0 j7a Z Z ?_);intro g6 w6 S6 X6 G6;replace a0:=a0.keep X6 (List.not_mem_nil);refine b0a (kk:=0) (vs:=[]) S6 r2b Z Z Z Z Z Z Z ?_;intro G0 b0 g0;dsimp only[d0a,List.set] at b0;replace a0:=a0.keep g0 (fun hh=>by rw[List.mem_singleton] at hh;exact a0.ne (S6.blk 0 Z) hh);refine lT Z U Z ⟨⟨_,Z,iF (fun h=>?_)⟩,b0.fin⟩;have h1:=h.1 x (e0a d0);exact absurd V0 (k4a (f:=fun(c:e5b)=>Value.int .i64 c.cell) (h.2.imp fun h e=>h (by injection e)) d0)
    refine lO0 Z U (h0a c0 j7a Z Z ?_);intro g6 w6 S6 X6 G6;replace a0:=a0.keep X6 (List.not_mem_nil);refine b0a (kk:=0) (vs:=[]) S6 r2b Z Z Z Z Z Z Z ?_;intro G0 b0 g0;dsimp only[d0a,List.set] at b0;replace a0:=a0.keep g0 (fun hh=>by rw[List.mem_singleton] at hh;exact a0.ne (S6.blk 0 Z) hh);refine lO b0.k [.o 1,.o 2] Z ⟨Z,Z,U⟩ (f0a b0 k3a Z Z (y2a _ _ _) (fun r0 b1 n0 I0=>?_) (fun r0 b1 n0 I0=>?_))
    ·replace a0:=a0.keep I0 (List.not_mem_nil);refine lO n0.k [.o 1] Z ⟨Z,U⟩ (j1a O2b (vs:=[]) (cs:=[]) Z Z Z Z ?_);refine v9a (key:=.int .i64 x.cell) n0 (Go.Maps.int_keyed Tryz.underlying3) Tryz.underlying183 a0 Z Z Z m0 (.inl U0) ?_;intro wm Sm Xm Mm;clear a0;have a0:=Mm K0;refine lO Sm.k [.w 2,.o 1,.w 2] Z ⟨⟨Z,Z⟩,Z,⟨Z,Z⟩,U⟩ (h2a Z Z Z ?_);refine f0a Sm s0b Z Z (n0b p x.inv M _ _ _ false _ (shQ p) (hP.keep (Sm.keep0 M)) (RdE.keep (Sm.keep0 M) _ _ x0) (H3a (hP.keep (Sm.keep0 M))) (hK.keep (Sm.keep0 M)) (T0 _ Sm.size)) (fun s0 c1 o0 J0=>?_) (fun s0 c1 o0 J0=>?_)
     ·replace a0:=a0.keep J0 (List.not_mem_nil);refine lP0 Z ⟨by omega,U⟩ ?_;refine⟨μk-1,by omega,Z,(k+1),(by omega),(hs.succ d0 (⟨⟨L0.1,L0.2,by rw[S4a i0];omega,by rw[H2a i0];exact f0⟩,by have:=of_decide_eq_true r0;unfold K1a;omega,(M3a hc).1 (f1a s0)⟩)),?_,((by rw[t0a d0,List.map_append];exact a0)),o0.tail.tail,Z⟩;rw[t0a d0,List.map_append,List.map_singleton,List.nodup_append];exact⟨hd,by simp,fun a ha b hb he=>by rw[List.mem_singleton.1 hb] at he;exact K0 (he▸ha)⟩
     refine lT Z U Z ⟨⟨_,Z,iF (fun h=>?_)⟩,o0.fin⟩;have h1:=h.1 x (e0a d0);exact Q0a s0 ((M3a hc).2 h1.inv)
    refine lT Z U Z ⟨⟨_,Z,iF (fun h=>?_)⟩,n0.fin⟩;have h1:=h.1 x (e0a d0)
    (have q:=h1.mod;unfold K1a at q;have q5:=of_decide_eq_false r0;omega)
   refine L0a S2a Z (by exact(c0.old (j0 _ _ Z)).trans (congrArg (fun b=>some (Value.bool b)) f0)) Z ?_;refine lT Z U Z ⟨⟨_,Z,iF (fun h=>?_)⟩,c0.fin⟩;have h1:=h.1 x (e0a d0)
   (have q:=h1.cell;rw[S4a i0,H2a i0] at q;(rw[f0] at q;cases q.2.2.2;done))
  refine lT Z U Z ⟨⟨_,Z,iF (fun h=>?_)⟩,c0.fin⟩;have h1:=h.1 x (e0a d0);exact of_decide_eq_false q0 ⟨h1.cell.1,h1.cell.2.1⟩
 refine lT Z U Z ?_;refine⟨⟨_,Z,iff_of_true (by omega) ⟨hs.all (by omega),?_⟩⟩,S.fin⟩;rw[List.take_of_length_le (by omega)] at hd;exact(List.pairwise_map.1 hd).imp fun h e=>h (by rw[e])
section
variable {P:Program} {r:Option Nat} {N:Nat} {l:List Oper} {D:List Deferred} {C:World→Prop} {K:List Deferred→Env→World→Prop}
def w4b(l:List Oper)(pur:Nat→Bool)(m:Nat):Bool :=
 L3a l&&((List.range l.length).all fun i=>(k1a l i).all fun j=>decide (j<i))&&((List.range m).all fun i=>(List.range i).all fun j=>(x4a l i).contains j||g9a l pur j i)&&((List.range m).all fun j=>(x4a l m).contains j)&&decide (l.length=m+1)
abbrev b6c{M:List Nat}{w0 w:World}{L:List Ent}(_:St M w0 w L):World→Prop:=Cl M w0 w L
def q7a(m:Nat)(f:Nat→Bool):List Nat:=(List.range m).filter fun i=>!f i
theorem r0b{m:Nat}(f:Nat→Bool){i:Nat}(hi:i<m)(hf:f i=false):∃b0 a0,q7a m f=b0++i::a0∧q7a m (fun j=>f j||j==i)=b0++a0∧∀j∈b0,j<i∧f j=false:=by
 have hr:List.range m=List.range i++i::(List.range' (i+1) (m-(i+1))):=by
  have h1:m=i+(m-i):=by omega
  have h2:m-i=(m-(i+1))+1:=by omega
  rw[List.range_eq_range',List.range_eq_range',show List.range' 0 m=List.range' 0 (i+((m-(i+1))+1)) by rw[←h2,←h1],←List.range'_append_1];simp[List.range'_succ]
 refine⟨(List.range i).filter fun j=>!f j,(List.range' (i+1) (m-(i+1))).filter fun j=>!f j,?_,?_,?_⟩
 ·unfold q7a;rw[hr,List.filter_append,List.filter_cons];simp[hf]
 ·unfold q7a;rw[hr,List.filter_append,List.filter_cons];simp only[beq_self_eq_true,Bool.or_true,Bool.not_true,Bool.false_eq_true,if_false]
  congr 1
  ·apply List.filter_congr;intro j hj;have:=List.mem_range.1 hj;have:(j==i)=false:=by simp;omega
   simp[this]
  ·apply List.filter_congr;intro j hj;have:=List.mem_range'.1 hj;have:(j==i)=false:=by simp;omega
   simp[this]
 ·intro j hj;rw[List.mem_filter] at hj;exact⟨List.mem_range.1 hj.1,by simpa using hj.2⟩
theorem b0c{id:Nat}{n t:List Deferred→Env→World→Prop}{b:Nat→List Deferred→Env→World→Prop}{e:Env}{w:World}(hm:P.follows .mixedOrders=true)(pur:Nat→Bool)(ix:List Nat)
 (m:Nat) (C:World→Prop) (ol:Oper) (A0:l[m]?=some ol)
 (h:WM P r N l C pur (fun D e w=>WL P r N l.toArray [ol] (fun D' e' w'=>D'=D∧n D e' w') D e w) D ix e w.drew) (hok:w4b l pur m=true:=by kernel_rfl) (hix:(List.range m==ix)=true:=by kernel_rfl):W P r N (.region id l.toArray true) ⟨n,b,t⟩ D e w:=by
 obtain rfl:List.range m=ix:=eq_of_beq hix;generalize o0:(fun(D:List Deferred) (e:Env) (w:World)=>WL P r N l.toArray [ol] (fun D' e' w'=>D'=D∧n D e' w') D e w)=K' at h;unfold w4b at hok;simp only[Bool.and_eq_true,decide_eq_true_eq] at hok;obtain⟨⟨⟨⟨r0,u0⟩,y0⟩,f0⟩,_⟩:=hok;have q0:∀j,j<m→j∈x4a l m:=fun j hj=>by
  have:=List.all_eq_true.1 f0 j (List.mem_range.2 hj);simpa using this
 have hz:(∀i,N≤i→e i=undef)→W P r N (.region id l.toArray true) ⟨n,b,t⟩ D e w:=by
  intro hz;refine V4c hm u0 (fun f e w=>(∀i,N≤i→e i=undef)∧(∀i,f i=true→∀j∈k1a l i,f j=true)∧((f m=false∧WM P r N l C pur K' D (q7a m f) e w)∨(f m=true∧n D e w))) ⟨hz,by simp,.inl ⟨Z,?_⟩⟩ ?_ ?_
  ·have:q7a m (fun _=>false)=List.range m:=by unfold q7a;simp
   rw[this];exact h
  ·rintro f e w i o ⟨hz,e0,hM⟩ ho g0 i0;have v0:i<l.length:=(List.getElem?_eq_some_iff.1 ho).1;have a0:∀k,(f k||k==i)=true→∀j∈k1a l k,(f j||j==i)=true:=by
    intro k hk j hj;simp only[Bool.or_eq_true,beq_iff_eq] at hk ⊢;rcases hk with hk|rfl
    ·exact .inl (e0 k hk j hj)
    ·exact .inl (i0 j hj)
   rcases hM with⟨c0,hM⟩|⟨c0,-⟩
   rotate_left
   ·have:=a3a e0 l.length (k1a l m) (e0 m c0) i (q0 i (by
     rcases Nat.lt_or_ge i m with h|h
     ·exact h
     ·have:i=m:=by omega
      subst this;rw[g0] at c0;cases c0))
    rw[g0] at this;cases this
   by_cases x0:i=m
   ·subst x0;obtain rfl:ol=o:=Option.some.inj (A0.symm.trans ho);have b0:∀j,j<i→f j=true:=fun j hj=>a3a e0 _ _ i0 j (q0 j hj);have j0:q7a i f=[]:=by
     unfold q7a;rw[List.filter_eq_nil_iff];intro j hj;simp[b0 j (List.mem_range.1 hj)]
    rw[j0] at hM;have h4:=hM.2;rw[←o0] at h4;clear hM h o0;unfold WL at *;refine fun a Q hs hD he hK=>h4 a Q hs hD he (fun a' w' m0 hh=>hK a' w' m0 ?_);refine⟨hh.1,fun j hj=>?_,a0,.inr ⟨by simp,hh.2⟩⟩;simp only[Y0a,Array.getD_eq_getD_getElem?];rw[Array.getElem?_eq_none (by omega)];rfl
   have p0:i<m:=by omega
   have d0:(f m||m==i)=false:=by simp[c0];omega
   obtain⟨D0,_,h1,h2,h3⟩:=r0b (m:=m) f p0 g0;rw[h1] at hM;have C0:∀j∈x4a l i,f j=true:=a3a e0 _ _ i0;obtain⟨o',_,z0,hd,hN,h4⟩:=WM.first r0 D0 e w (fun j hj=>by
    have:=List.all_eq_true.1 (List.all_eq_true.1 y0 i (List.mem_range.2 p0)) j (List.mem_range.2 (h3 j hj).1);simp only[Bool.or_eq_true,List.contains_eq_mem,decide_eq_true_eq] at this;rcases this with h|h
    ·have:=C0 j h;rw[(h3 j hj).2] at this;cases this
    ·exact h) hz hM
   obtain rfl:o'=o:=Option.some.inj (z0.symm.trans ho);rcases h4 with⟨B0,v,hv,h4⟩|⟨B0,h4⟩
   ·have s0:=hM.inC;rcases hv with⟨hw,hv⟩|⟨hw,rfl⟩
    ·unfold WL;intro a Q hs hD he hK;simp only[wpListIn];have n0:Region.wanted o' (yielded l.toArray a.tmps)=true:=by rw[A1a,he];exact hw
     simp only[n0,if_true];refine⟨I0a _ _ _,?_⟩;rw[Oper.semAt_eq _ _ _ (z0a r0 ho).2,C2a,he,hv w s0,Oper.uponIn_value];refine hK _ _ (by simp[Act.put,hd,hs]) ⟨by simp[Act.put,hd,hD],?_⟩;rw[hd,n1a v (by rw[hs];exact hN),he];exact⟨J1a hN hz,a0,.inl ⟨d0,by rw[h2];exact h4⟩⟩
    ·unfold WL;intro a Q hs hD he hK;simp only[wpListIn];have n0:Region.wanted o' (yielded l.toArray a.tmps)=false:=by rw[A1a,he];exact hw
     simp only[n0];refine⟨I0a _ _ _,?_⟩;refine hK _ _ (by simp[Act.put,hd,hs]) ⟨by simp[Act.put,hd,hD],?_⟩;rw[hd,n1a undef (by rw[hs];exact hN),he];exact⟨J1a hN hz,a0,.inl ⟨d0,by rw[h2];exact h4⟩⟩
   ·unfold WL at *;refine fun a Q hs hD he hK=>h4 a Q hs hD he (fun a' w' m0 hh=>hK a' w' m0 ?_);obtain⟨t0,v,hv,h5⟩:=hh;exact⟨t0,by rw[hv];exact J1a hN hz,a0,.inl ⟨d0,by rw[h2];exact h5⟩⟩
  ·rintro f e w ⟨hz,e0,hM⟩ b0;rcases hM with⟨c0,-⟩|⟨-,hM⟩
   ·have:=b0 m (by omega);rw[c0] at this;cases this
   ·exact hM
 unfold W at *;intro a hs hd he;refine hz (fun i hi=>?_) a hs hd he;rw[←he];simp only[Y0a,Array.getD_eq_getD_getElem?];rw[Array.getElem?_eq_none (by omega)];rfl
end
theorem RdS.dropped{α:Type}{M:List Nat}{w:World}{size b o n c:Nat}{R:List Value→α→Prop}{l:List α}(h:RdS M w size R (.slice (some ⟨b,o,none⟩) n c) l)(lo:Nat)(b0:lo≤n):
 RdS M w size R (.slice (some (if c=lo then⟨b,o,none⟩ else⟨b,o+lo*size,none⟩)) (n-lo) (c-lo)) (l.drop lo):=by
 obtain⟨_,_,_,_,h5⟩:=h.at;refine⟨_,_,_,Z,by simp;omega,by omega,by omega,by omega,fun h0=>?_⟩;obtain⟨_,_,hA,hb,a0⟩:=h5 (by omega);cases hA;rw[if_neg (by omega)];refine⟨b,o+lo*size,Z,hb,fun i x hx=>?_⟩;rw[List.getElem?_drop] at hx;obtain⟨cs,h6,h7,h8⟩:=a0 _ x hx;refine⟨cs,h6,?_,h8⟩;rw[Nat.add_mul,←Nat.add_assoc] at h7;exact h7
def L9b(s:Z0a)(q:Int→Bool):Prop:=A3a s.guard q=true∧∀a∈s.set,A3a a.to q=true
def P3d(p:j0a)(t:Int)(s:Z0a):Prop:=L9b s (x8a p t)∧∀a∈s.set,x8a p t a.cell=true
def X3d(p:j0a)(t:Int)(s:Z0a):Prop:=L9b s (c1b p t)∧∀a∈s.set,c1b p t a.cell=true
def F3d(p:j0a)(t:Int)(s:Z0a):Prop:=∃a l,s.set=a::l∧A3a s.guard (x8a p t)=true∧x8a p t a.cell=true∧W7a p.cells a.cell=false∧a.to.op=2∧shQ p a.to.n=true∧W7a p.cells a.to.n=false∧∀b∈l,x8a p t b.cell=true∧W7a p.cells b.cell=true∧A3a b.to (x8a p t)=true
def n3d(p:j0a)(t:Int)(s:Z0a):Prop:=∃a l,s.set=a::l∧L9b s (x8a p t)∧shQ p a.cell=true∧W7a p.cells a.cell=false∧∀b∈l,(W7a p.cells b.cell&&c1b p t b.cell)=true
def V2d(s:Z0a):Prop:=s.guard=⟨1,1,1,[]⟩∧s.set=[]
def V3d(p:j0a)(t:Int)(s:Z0a):Prop:=V2d s∧s.target≠t∧K1a s.target p.threads.length
def d4d(p:j0a)(t:Int)(s:Z0a):Prop:=V3d p t s∧∀u,p.threads[s.target.toNat]?=some u→u.asleep=true
def R1d(p:j0a)(t:Int)(s:Z0a):Prop:=if s.kind=1 then P3d p t s else if s.kind=2 then F3d p t s else if s.kind=3 then n3d p t s else if s.kind=4 then X3d p t s else if s.kind=5 then V2d s else if s.kind=6 then d4d p t s else V3d p t s
theorem Q9a{cells:List I1a}{z:Bool}{t:Int}:h4a cells ⟨1,1,1,[]⟩ z t:=fun x hx=>by
 have h:(⟨1,1,1,[]⟩:E).wf=true:=by decide
 rcases List.mem_append.1 hx with hx|hx
 ·have:=((j8a h (.inr Z) x).1 hx).2.2;rw[E.occ_def] at this;simp at this;cases(show false=true from this)
 ·have:=((j8a h (.inl Z) x).1 hx).2.2;rw[E.occ_def] at this;simp at this;cases(show false=true from this)
section
variable {p:j0a} (hc:g3a p) {t:Nat} {s:Z0a} (hg:s.guard.valid p.cells false=true) (hs:∀a∈s.set,K1a a.cell p.cells.length∧a.to.valid p.cells false=true)
include hc hg hs in
theorem Y2b:L9b s (x8a p t)↔h4a p.cells s.guard false t∧∀a∈s.set,h4a p.cells a.to false t :=
 and_congr (M6a hc hg) ⟨fun h a ha=>(M6a hc (hs a ha).2).1 (h a ha),fun h a ha=>(M6a hc (hs a ha).2).2 (h a ha)⟩
include hc hg hs in
theorem t5c:L9b s (c1b p t)↔h4a p.cells s.guard true t∧∀a∈s.set,h4a p.cells a.to true t :=
 and_congr (L6a hc hg) ⟨fun h a ha=>(L6a hc (hs a ha).2).1 (h a ha),fun h a ha=>(L6a hc (hs a ha).2).2 (h a ha)⟩
theorem G4b{c:Int}(h:K1a c p.cells.length){t:Int}:x8a p t c=true↔q1a p.cells c=t:=⟨fun hh=>(of_decide_eq_true hh).2,fun hh=>decide_eq_true ⟨h,hh⟩⟩
theorem i3d{c:Int}(h:K1a c p.cells.length):shQ p c=true↔q1a p.cells c=-1:=⟨fun hh=>(of_decide_eq_true hh).2,fun hh=>decide_eq_true ⟨h,hh⟩⟩
theorem U4c{c:Int}(h:K1a c p.cells.length){t:Int}:c1b p t c=true↔q1a p.cells c=t∨q1a p.cells c=-1:=by
 unfold c1b;rw[Bool.or_eq_true,G4b h,i3d h];exact or_comm
theorem L8a.all{t:Int}(h:L8a p t s)(hk:s.kind≠2):∀a∈s.set,h4a p.cells a.to (decide (s.kind=4)) t:=fun a ha=>by
 obtain⟨i,hi,rfl⟩:=List.getElem_of_mem ha;exact h.vals i hi (.inr hk)
include hc hg hs in
theorem w4c(hk:1≤s.kind∧s.kind≤7):R1d p t s↔L8a p t s:=by
 unfold R1d;rcases(show s.kind=1∨s.kind=2∨s.kind=3∨s.kind=4∨s.kind=5∨s.kind=6∨s.kind=7 by omega) with e|e|e|e|e|e|e<;>simp only[e,if_true,if_false,Int.reduceEq]
 ·unfold P3d;rw[Y2b hc hg hs];have e4:decide (s.kind=4)=false:=decide_eq_false (by omega);refine⟨fun⟨⟨h1,h2⟩,h3⟩=>?_,fun h=>⟨⟨e4▸h.guard,fun a ha=>e4▸h.all (by omega) a ha⟩,fun a ha=>(G4b (hs a ha).1).2 (h.k1 e a ha)⟩⟩;exact⟨e4.symm▸h1,fun i hi _=>e4.symm▸h2 _ (List.getElem_mem hi),fun a ha=>.inl ((G4b (hs a ha).1).1 (h3 a ha)),fun _ a ha=>(G4b (hs a ha).1).1 (h3 a ha),fun h=>by omega,fun h=>by omega,fun h=>by omega,fun h=>by omega,fun h=>by omega⟩
 ·have e4:decide (s.kind=4)=false:=decide_eq_false (by omega);constructor
  ·rintro⟨a,l,e1,h1,h2,h3,h4,h5,h6,h7⟩;have hl:∀b∈l,b∈s.set:=fun b hb=>by rw[e1];exact List.mem_cons_of_mem _ hb
   have ha:a∈s.set:=by rw[e1];simp
   have h7':∀b∈l,q1a p.cells b.cell=t∧W7a p.cells b.cell=true:=fun b hb=>⟨(G4b (hs b (hl b hb)).1).1 (h7 b hb).1,(h7 b hb).2.1⟩
   have h2':=(G4b (hs a ha).1).1 h2;refine⟨e4.symm▸(M6a hc hg).1 h1,fun i hi hor=>?_,fun b hb=>.inl ?_,fun h=>by omega,fun _=>⟨a,l,e1,h2',h3,h4,(of_decide_eq_true h5).2,h6,h7'⟩,fun h=>by omega,fun h=>by omega,fun h=>by omega,fun h=>by omega⟩
   ·obtain⟨j,rfl⟩:∃j,i=j+1:=⟨i-1,by omega⟩;have hm:s.set[j+1]∈l:=t9a e1 (List.getElem?_eq_getElem hi);exact e4.symm▸(M6a hc (hs _ (hl _ hm)).2).1 (h7 _ hm).2.2
   ·rw[e1] at hb;rcases List.mem_cons.1 hb with rfl|hb
    ·exact h2'
    ·exact(h7' b hb).1
  ·intro h;obtain⟨a,l,e1,h2,h3,h4,h5,h6,h7⟩:=h.k2 e;have hl:∀b∈l,b∈s.set:=fun b hb=>by rw[e1];exact List.mem_cons_of_mem _ hb
   have ha:a∈s.set:=by rw[e1];simp
   have hn:=v2b (hs a ha).2 h4;refine⟨a,l,e1,(M6a hc hg).2 (e4▸h.guard),(G4b (hs a ha).1).2 h2,h3,h4,decide_eq_true ⟨hn,h5⟩,h6,fun b hb=>⟨(G4b (hs b (hl b hb)).1).2 (h7 b hb).1,(h7 b hb).2,(M6a hc (hs b (hl b hb)).2).2 ?_⟩⟩;obtain⟨j,hj⟩:=List.getElem?_of_mem hb;exact e4▸h.val (k:=j+1) (by rw[e1];exact hj) (.inl (by omega))
 ·have e4:decide (s.kind=4)=false:=decide_eq_false (by omega);constructor
  ·rintro⟨a,l,e1,hv,h2,h3,h7⟩;have hl:∀b∈l,b∈s.set:=fun b hb=>by rw[e1];exact List.mem_cons_of_mem _ hb
   have ha:a∈s.set:=by rw[e1];simp
   obtain⟨h1,hv2⟩:=(Y2b hc hg hs).1 hv;refine⟨e4.symm▸h1,fun i hi _=>e4.symm▸hv2 _ (List.getElem_mem hi),fun b hb=>?_,fun h=>by omega,fun h=>by omega,fun _=>⟨a,l,e1,(i3d (hs a ha).1).1 h2,h3,fun b hb=>(Bool.and_eq_true _ _▸h7 b hb).1⟩,fun h=>by omega,fun h=>by omega,fun h=>by omega⟩;rw[e1] at hb;rcases List.mem_cons.1 hb with rfl|hb
   ·exact .inr ((i3d (hs b ha).1).1 h2)
   ·exact(U4c (hs b (hl b hb)).1).1 (Bool.and_eq_true _ _▸h7 b hb).2
  ·intro h;obtain⟨a,l,e1,h2,h3,h7⟩:=h.k3 e;have hl:∀b∈l,b∈s.set:=fun b hb=>by rw[e1];exact List.mem_cons_of_mem _ hb
   have ha:a∈s.set:=by rw[e1];simp
   exact⟨a,l,e1,(Y2b hc hg hs).2 ⟨e4▸h.guard,fun a ha=>e4▸h.all (by omega) a ha⟩,(i3d (hs a ha).1).2 h2,h3,fun b hb=>by rw[Bool.and_eq_true];exact⟨h7 b hb,(U4c (hs b (hl b hb)).1).2 (h.cells b (hl b hb))⟩⟩
 ·unfold X3d;rw[t5c hc hg hs];have e4:decide (s.kind=4)=true:=decide_eq_true e;refine⟨fun⟨⟨h1,h2⟩,h3⟩=>?_,fun h=>⟨⟨e4▸h.guard,fun a ha=>e4▸h.all (by omega) a ha⟩,fun a ha=>(U4c (hs a ha).1).2 (h.cells a ha)⟩⟩;exact⟨e4.symm▸h1,fun i hi _=>e4.symm▸h2 _ (List.getElem_mem hi),fun a ha=>(U4c (hs a ha).1).1 (h3 a ha),fun h=>by omega,fun h=>by omega,fun h=>by omega,fun h=>by omega,fun h=>by omega,fun h=>by omega⟩
 ·refine⟨fun⟨h1,h2⟩=>?_,fun h=>⟨(h.k5 (by omega)).2,(h.k5 (by omega)).1⟩⟩;exact⟨h1▸Q9a,fun i hi _=>(by rw[h2] at hi;simp at hi),fun a ha=>(by rw[h2] at ha;cases ha),fun h=>by omega,fun h=>by omega,fun h=>by omega,fun _=>⟨h2,h1⟩,fun h=>by omega,fun h=>by omega⟩
 ·refine⟨fun⟨⟨⟨h1,h2⟩,h3,h4⟩,h5⟩=>?_,fun h=>⟨⟨⟨(h.k5 (by omega)).2,(h.k5 (by omega)).1⟩,(h.k6 (by omega)).2,(h.k6 (by omega)).1⟩,h.k7 e⟩⟩;exact⟨h1▸Q9a,fun i hi _=>(by rw[h2] at hi;simp at hi),fun a ha=>(by rw[h2] at ha;cases ha),fun h=>by omega,fun h=>by omega,fun h=>by omega,fun _=>⟨h2,h1⟩,fun _=>⟨h4,h3⟩,fun _=>h5⟩
 ·refine⟨fun⟨⟨h1,h2⟩,h3,h4⟩=>?_,fun h=>⟨⟨(h.k5 (by omega)).2,(h.k5 (by omega)).1⟩,(h.k6 (by omega)).2,(h.k6 (by omega)).1⟩⟩;exact⟨h1▸Q9a,fun i hi _=>(by rw[h2] at hi;simp at hi),fun a ha=>(by rw[h2] at ha;cases ha),fun h=>by omega,fun h=>by omega,fun h=>by omega,fun _=>⟨h2,h1⟩,fun _=>⟨h4,h3⟩,fun h=>by omega⟩
end
theorem B8a(s:Z0a)(M:List Nat)(w0:World)(ss:List Value)(vf:Value)(q:Int→Bool)(hS:z1a M w0 ss s)(hp:N2a prog M w0 vf q)(hK:k2a M w0)(hM:∀g∈M,g<w0.heap.size):
 O0a prog 278 #[.agg ss.toArray,vf] w0 fun v w'=>v=.bool (dec (L9b s q))∧Bw w0 w':=by
 obtain⟨Ag,ng,cg,As,ns,o0,rfl,⟨_,_⟩,hG,i0,_⟩:=hS.open_;obtain⟨f,first,caps,rfl,_⟩:=id hp;have S:=St.refl w0;have p0:∀w':World,w0.heap.size≤w'.heap.size→∀g∈M,g<w'.heap.size:=fun w' h g hg=>by have:=hM g hg;omega
 refine a0a func278 Z ntmps278 Z ?_;refine wO0 Z U (r0a S Z ?_);intro g2 w2 S2 X2 G2;refine lOn 8 S2.k [.o 0] Z ⟨Z,U⟩ (N0a Z ?_);refine f0a S2 A8a Z Z (h6a _ M _ _ _ q (RdE.keep (S2.keep0 M) _ _ hG) (hp.keep (S2.keep0 M)) (hK.keep (S2.keep0 M)) (p0 _ S2.size)) (fun c0 y0 b0 r0=>?_) (fun c0 y0 b0 r0=>?_)
 ·refine lC b0.k [.o 0] Z ⟨Z,U⟩ (wL (fun μk D ε w=>D=[]∧∃k:Nat,(k+μk=(s.set.length))∧(e1a (s.set) k (fun a=>A3a a.to q=true))∧St [] w0 w [(some g2,61,[.int .i64 s.kind,.int .i64 s.frm,.int .i64 s.to,.int .i64 s.guard.op,.int .i64 s.guard.w,.int .i64 s.guard.n,.slice Ag ng cg,.slice As ns o0,.bool s.release,.int .i64 s.target,.int .i64 s.module_])]∧Sl ε [(1,.func (.func f) first caps),(13,.slice As ns o0),(14,.int .i64 ns),(15,.int .i64 k)]) (μ:=(s.set.length)) ⟨Z,0,by omega,e1a.zero,b0,Z⟩ ?_);rintro μk D ε w ⟨rfl,k,_,ha,S,eZ⟩;refine wK eZ (wB0 Z U (fun v0=>?_) fun v0=>?_)
  ·obtain⟨a,u0,x0,_,q0,f0,_,m0,j0,n0⟩:=RdS.get (i0) (k) (by omega);obtain⟨_,_,_,rfl,_,g0⟩:=J0a.open_ n0;refine lO (S.k.a j0) [.x u0 x0,.v 0] Z ⟨⟨Z,m0⟩,⟨f0,by omega⟩,U⟩ (h0a S I3b Z Z ?_);intro g6 w6 S6 X6 G6;refine b0a (kk:=0) (vs:=[_,_,_,_,_]) S6 x3b Z Z Z Z Z Z Z ?_;intro A0 a0 t0;dsimp only[d0a,List.set] at a0;refine lO a0.k [.o 0] Z ⟨Z,U⟩ (f0a a0 A8a Z Z (h6a _ M _ _ _ q (RdE.keep (a0.keep0 M) _ _ g0) (hp.keep (a0.keep0 M)) (hK.keep (a0.keep0 M)) (p0 _ a0.size)) (fun d0 z0 e0 s0=>?_) (fun d0 z0 e0 s0=>?_))
   ·refine lP0 Z ⟨by omega,U⟩ ⟨μk-1,by omega,Z,(k+1),(by omega),(ha.succ q0 (d0)),e0.tail,Z⟩
   refine lT Z U Z ?_;refine⟨F0a (fun h=>?_),e0.fin⟩;rw[h.2 a (e0a q0)] at d0;cases d0;done
  exact lT Z U Z ⟨r2a ⟨c0,ha.all (by omega)⟩,S.fin⟩
 refine lT Z U Z ?_;refine⟨F0a (fun h=>?_),b0.fin⟩;rw[h.1] at c0;cases c0;done
theorem K9a(l:List i1a)(M:List Nat)(w0:World)(v vf:Value)(q:Int→Bool)(hS:c8c M w0 v l)(hp:N2a prog M w0 vf q):
 O0a prog 279 #[v,vf] w0 fun v w'=>v=.bool (dec (∀a∈l,q a.cell=true))∧Bw w0 w':=by
 obtain⟨As,ns,p0,rfl⟩:=hS.form;obtain⟨_,_⟩:=hS.len;obtain⟨f,first,caps,rfl,_⟩:=id hp;have S:=St.refl w0;refine a0a func279 Z ntmps279 Z ?_;refine wC0 Z U (wL (fun μk D ε w=>D=[]∧∃k:Nat,(k+μk=(l.length))∧(e1a (l) k (fun a=>q a.cell=true))∧St [] w0 w []∧Sl ε [(1,.func (.func f) first caps),(7,.slice As ns p0),(8,.int .i64 ns),(9,.int .i64 k)]) (μ:=(l.length)) ⟨Z,0,by omega,e1a.zero,S,Z⟩ ?_);rintro μk D ε w ⟨rfl,k,_,ha,S,eZ⟩;refine wK eZ (wB0 Z U (fun q0=>?_) fun q0=>?_)
 ·obtain⟨a,o0,r0,_,j0,d0,_,f0,e0,g0⟩:=RdS.get (hS) (k) (by omega);obtain⟨_,_,_,rfl,i0,_⟩:=J0a.open_ g0;refine lO (S.k.a e0) [.x o0 r0,.v 0] Z ⟨⟨Z,f0⟩,⟨d0,by omega⟩,U⟩ (h0a S I3b Z Z ?_);intro g6 w6 S6 X6 G6
  first|refine b0a (kk:=0) (vs:=[_,_,_,_,_]) S6 x3b Z Z Z Z Z Z Z ?_
  intro t0 a0 n0;dsimp only[d0a,List.set] at a0;refine lO a0.k [.o 0] Z ⟨Z,U⟩ (S6a a0 (hp.keep (a0.keep0 M)) Z Z (i0) Z (fun b0 s0 c0 m0=>?_) (fun b0 s0 c0 m0=>?_))
  ·refine lP0 Z ⟨by omega,U⟩ ⟨μk-1,by omega,Z,(k+1),(by omega),(ha.succ j0 (b0)),c0.tail,Z⟩
  refine lT Z U Z ?_;refine⟨F0a (fun h=>?_),c0.fin⟩;rw[h a (e0a j0)] at b0;cases b0;done
 exact lT Z U Z ⟨r2a (ha.all (by omega)),S.fin⟩
theorem R8c(e:E)(M:List Nat)(w0:World)(cs:List Value)(hR:RdE M w0 e cs):O0a prog 308 #[.agg cs.toArray] w0 fun v w'=>v=.bool (dec (e=⟨1,1,1,[]⟩))∧Bw w0 w':=by
 obtain⟨_,n,_,rfl,_⟩:=hR.cells;have S:=St.refl w0;refine a0a func308 Z ntmps308 Z ?_;refine wO0 Z U (r0a S Z ?_);intro g1 w1 S1 X1 G1;refine lB S1.k [.o 0] Z ⟨Z,U⟩ (fun h5=>?_) fun h5=>?_
 ·refine lB S1.k [.o 0] Z ⟨Z,U⟩ (fun h9=>?_) fun h9=>?_
  ·refine lB S1.k [.o 0] Z ⟨Z,U⟩ (fun a0=>?_) fun a0=>?_
   ·refine lB S1.k [.o 0] Z ⟨Z,U⟩ (fun b0=>?_) fun b0=>?_
    ·refine lT Z U Z ?_;exact⟨r2a (E.ext (by simp only;omega) (by simp only;omega) (by simp only;omega) (List.length_eq_zero_iff.1 (by omega))),S1.fin⟩
    refine lT Z U Z ?_;refine⟨F0a (fun h=>?_),S1.fin⟩;obtain⟨a1,a2,a3,a4⟩:e.op=1∧e.w=1∧e.n=1∧e.kids.length=0:=(by rw[h];exact⟨Z,Z,Z,Z⟩);omega
   refine lT Z U Z ?_;refine⟨F0a (fun h=>?_),S1.fin⟩;obtain⟨a1,a2,a3,a4⟩:e.op=1∧e.w=1∧e.n=1∧e.kids.length=0:=(by rw[h];exact⟨Z,Z,Z,Z⟩);omega
  refine lT Z U Z ?_;refine⟨F0a (fun h=>?_),S1.fin⟩;obtain⟨a1,a2,a3,a4⟩:e.op=1∧e.w=1∧e.n=1∧e.kids.length=0:=(by rw[h];exact⟨Z,Z,Z,Z⟩);omega
 refine lT Z U Z ?_;refine⟨F0a (fun h=>?_),S1.fin⟩;obtain⟨a1,a2,a3,a4⟩:e.op=1∧e.w=1∧e.n=1∧e.kids.length=0:=(by rw[h];exact⟨Z,Z,Z,Z⟩);omega
theorem J7b(s:Z0a)(M:List Nat)(w0:World)(ss:List Value)(hS:z1a M w0 ss s):
 O0a prog 282 #[.agg ss.toArray] w0 fun v w'=>v=.bool (dec (V2d s))∧Bw w0 w':=by
 obtain⟨_,_,_,_,_,_,rfl,⟨_,_⟩,hG,_,a0,_⟩:=hS.open_;have S:=St.refl w0;refine a0a func282 Z ntmps282 Z ?_;refine wO0 Z U (r0a S Z ?_);intro g1 w1 S1 X1 G1;refine lO S1.k [.o 0] Z ⟨Z,U⟩ (f0a S1 z7c Z Z (R8c _ M _ _ (RdE.keep (S1.keep0 M) _ _ hG)) (fun h5 w5 S5 X5=>?_) (fun h5 w5 S5 X5=>?_))
 ·refine lB S5.k [.o 0] Z ⟨Z,U⟩ (fun b0=>?_) fun b0=>?_
  ·exact lT Z U Z ⟨r2a ⟨f1a h5,List.length_eq_zero_iff.1 (by omega)⟩,S5.fin⟩
  refine lT Z U Z ?_;refine⟨F0a (fun h=>?_),S5.fin⟩;have:=h.2;rw[this] at a0;simp at a0;omega
 refine lT Z U Z ?_;refine⟨F0a (fun h=>Q0a h5 h.1),S5.fin⟩;done
structure AtX (p:j0a) (s:Z0a) (M:List Nat) (w:World) (cs ss:List Value):Prop where
 prog:a1a M w p cs
 step:z1a M w ss s
 rng:∀a∈s.set,K1a a.cell p.cells.length
 masks:k2a M w
 low:∀g∈M,g<w.heap.size
theorem r3b(p:j0a)(t:Nat)(s:Z0a)(M:List Nat)(w0:World)(cs ss:List Value)(h:AtX p s M w0 cs ss):
 O0a prog 229 #[.agg cs.toArray,.int .i64 t,.agg ss.toArray] w0 fun v w'=>v=.bool (dec (P3d p t s))∧Bw w0 w':=by
 obtain⟨hP,hS,_,hK,hM⟩:=h;obtain⟨_,_,_,_,_,_,_,_,_,_,_,_,rfl,_⟩:=hP.open_;obtain⟨_,_,_,_,_,_,rfl,⟨_,_⟩,_,f0,_⟩:=hS.open_;have S:=St.refl w0;have j0:∀w':World,w0.heap.size≤w'.heap.size→∀g∈M,g<w'.heap.size:=fun w' h g hg=>by have:=hM g hg;omega
 refine a0a func229 Z ntmps229 Z ?_;refine wO0 Z U (r0a S Z ?_);intro g3 w3 S3 X3 G3;refine r0a S3 Z ?_;intro g5 w5 S5 X5 G5;refine lO S5.k [.w 1] Z ⟨⟨Z,by rfl⟩,U⟩ (o0a S5 w0b Z Z (x0b p t M _ _ (hP.keep (S5.keep0 M)) (j0 _ S5.size)) ?_);rintro p0 q0 hq b0 o0;obtain⟨_,_,_,rfl,_⟩:=id hq;refine lO b0.k [.w 0] Z ⟨⟨Z,by rfl⟩,U⟩ (f0a b0 H6b Z Z (B8a s M _ _ _ (x8a p t) (z1a.keep (b0.keep0 M) _ _ hS) hq (hK.keep (b0.keep0 M)) (j0 _ b0.size)) (fun d0 m0 a0 g0=>?_) (fun d0 m0 a0 g0=>?_))
 ·replace hq:=hq.keep (g0.of_nil);refine lO a0.k [.o 0] Z ⟨Z,U⟩ (f0a a0 a6b Z Z (K9a s.set M _ _ _ (x8a p t) (RdS.keepW f0 (a0.keep0 M) (J0a.keep (a0.keep0 M))) hq) (fun e0 n0 c0 i0=>?_) (fun e0 n0 c0 i0=>?_))
  ·replace hq:=hq.keep (i0.of_nil);exact lT Z U Z ⟨r2a ⟨f1a d0,f1a e0⟩,c0.fin⟩
  refine lT Z U Z ?_;refine⟨F0a (fun h=>Q0a e0 h.2),c0.fin⟩;done
 refine lT Z U Z ?_;refine⟨F0a (fun h=>Q0a d0 h.1),a0.fin⟩;done
theorem D1b(p:j0a)(t:Nat)(s:Z0a)(M:List Nat)(w0:World)(cs ss:List Value)(h:AtX p s M w0 cs ss):
 O0a prog 232 #[.agg cs.toArray,.int .i64 t,.agg ss.toArray] w0 fun v w'=>v=.bool (dec (X3d p t s))∧Bw w0 w':=by
 obtain⟨hP,hS,_,hK,hM⟩:=h;obtain⟨_,_,_,_,_,_,_,_,_,_,_,_,rfl,_⟩:=hP.open_;obtain⟨_,_,_,_,_,_,rfl,⟨_,_⟩,_,f0,_⟩:=hS.open_;have S:=St.refl w0;have j0:∀w':World,w0.heap.size≤w'.heap.size→∀g∈M,g<w'.heap.size:=fun w' h g hg=>by have:=hM g hg;omega
 refine a0a func232 Z ntmps232 Z ?_;refine wO0 Z U (r0a S Z ?_);intro g3 w3 S3 X3 G3;refine r0a S3 Z ?_;intro g5 w5 S5 X5 G5;refine lO S5.k [.w 1] Z ⟨⟨Z,by rfl⟩,U⟩ (o0a S5 j7b Z Z (R6a p t M _ _ (hP.keep (S5.keep0 M)) (j0 _ S5.size)) ?_);rintro p0 q0 hq b0 o0;obtain⟨_,_,_,rfl,_⟩:=id hq;refine lO b0.k [.w 0] Z ⟨⟨Z,by rfl⟩,U⟩ (f0a b0 H6b Z Z (B8a s M _ _ _ (c1b p t) (z1a.keep (b0.keep0 M) _ _ hS) hq (hK.keep (b0.keep0 M)) (j0 _ b0.size)) (fun d0 m0 a0 g0=>?_) (fun d0 m0 a0 g0=>?_))
 ·replace hq:=hq.keep (g0.of_nil);refine lO a0.k [.o 0] Z ⟨Z,U⟩ (f0a a0 a6b Z Z (K9a s.set M _ _ _ (c1b p t) (RdS.keepW f0 (a0.keep0 M) (J0a.keep (a0.keep0 M))) hq) (fun e0 n0 c0 i0=>?_) (fun e0 n0 c0 i0=>?_))
  ·replace hq:=hq.keep (i0.of_nil);exact lT Z U Z ⟨r2a ⟨f1a d0,f1a e0⟩,c0.fin⟩
  refine lT Z U Z ?_;refine⟨F0a (fun h=>Q0a e0 h.2),c0.fin⟩;done
 refine lT Z U Z ?_;refine⟨F0a (fun h=>Q0a d0 h.1),a0.fin⟩;done
theorem V3b(p:j0a)(t:Nat)(s:Z0a)(M:List Nat)(w0:World)(cs ss:List Value)(h:AtX p s M w0 cs ss):
 O0a prog 233 #[.agg cs.toArray,.int .i64 t,.agg ss.toArray] w0 fun v w'=>v=.bool (dec (V2d s))∧Bw w0 w':=by
 obtain⟨hP,hS,_⟩:=h;obtain⟨_,_,_,_,_,_,_,_,_,_,_,_,rfl,_⟩:=hP.open_;obtain⟨_,_,_,_,_,_,rfl,⟨_,_⟩,_⟩:=hS.open_;have S:=St.refl w0;refine a0a func233 Z ntmps233 Z ?_;refine wO0 Z U (r0a S Z ?_);intro g3 w3 S3 X3 G3;refine r0a S3 Z ?_;intro g5 w5 S5 X5 G5;refine lO S5.k [.w 0] Z ⟨⟨Z,by rfl⟩,U⟩ (f0a S5 W0c Z Z (J7b s M _ _ (z1a.keep (S5.keep0 M) _ _ hS)) (fun h8 w8 S8 X8=>?_) (fun h8 w8 S8 X8=>?_))
 ·refine lR0 Z U (A0a Z ?_);exact⟨by rw[h8],S8.fin⟩
 refine lR0 Z U (A0a Z ?_);exact⟨by rw[h8],S8.fin⟩
theorem M8a(p:j0a)(t:Nat)(s:Z0a)(M:List Nat)(w0:World)(cs ss:List Value)(h:AtX p s M w0 cs ss):
 O0a prog 235 #[.agg cs.toArray,.int .i64 t,.agg ss.toArray] w0 fun v w'=>v=.bool (dec (V3d p t s))∧Bw w0 w':=by
 obtain⟨hP,hS,_⟩:=h;obtain⟨_,_,_,_,_,_,_,_,_,_,_,_,rfl,_⟩:=hP.open_;obtain⟨_,_,_,_,_,_,rfl,⟨_,_⟩,_⟩:=hS.open_;have S:=St.refl w0;refine a0a func235 Z ntmps235 Z ?_;refine wO0 Z U (r0a S Z ?_);intro g3 w3 S3 X3 G3;refine r0a S3 Z ?_;intro g5 w5 S5 X5 G5;refine lO S5.k [.w 0] Z ⟨⟨Z,by rfl⟩,U⟩ (f0a S5 W0c Z Z (J7b s M _ _ (z1a.keep (S5.keep0 M) _ _ hS)) (fun h8 w8 S8 X8=>?_) (fun h8 w8 S8 X8=>?_))
 ·refine lB S8.k [.o 0] Z ⟨Z,U⟩ (fun d0=>?_) fun d0=>?_
  ·refine lO S8.k [.o 0,.o 1] Z ⟨Z,Z,U⟩ (f0a S8 k3a Z Z (y2a _ _ _) (fun b0 e0 a0 c0=>?_) (fun b0 e0 a0 c0=>?_))
   ·refine lT Z U Z ?_;exact⟨r2a ⟨f1a h8,by omega,by have:=of_decide_eq_true b0;unfold K1a;omega⟩,a0.fin⟩
   refine lT Z U Z ?_;refine⟨F0a (fun h=>?_),a0.fin⟩;have:=h.2.2;unfold K1a at this;have:=of_decide_eq_false b0;omega
  refine lT Z U Z ?_;refine⟨F0a (fun h=>?_),S8.fin⟩;have:=h.2.1;omega
 refine lT Z U Z ?_;refine⟨F0a (fun h=>Q0a h8 h.1),S8.fin⟩;done
theorem L2b(p:j0a)(t:Nat)(s:Z0a)(M:List Nat)(w0:World)(cs ss:List Value)(h:AtX p s M w0 cs ss):
 O0a prog 234 #[.agg cs.toArray,.int .i64 t,.agg ss.toArray] w0 fun v w'=>v=.bool (dec (d4d p t s))∧Bw w0 w':=by
 obtain⟨hP,hS,o0,hK,hM⟩:=h;obtain⟨_,_,_,_,_,_,_,_,_,_,_,_,rfl,_,_,_,n0,_⟩:=hP.open_;obtain⟨_,_,_,_,_,_,rfl,⟨_,_⟩,_⟩:=hS.open_;have S:=St.refl w0;have m0:∀w':World,w0.heap.size≤w'.heap.size→∀g∈M,g<w'.heap.size:=fun w' h g hg=>by have:=hM g hg;omega
 refine a0a func234 Z ntmps234 Z ?_;refine wO0 Z U (r0a S Z ?_);intro g3 w3 S3 X3 G3;refine r0a S3 Z ?_;intro g5 w5 S5 X5 G5;refine lO S5.k [.w 1,.w 0] Z ⟨⟨Z,by rfl⟩,⟨Z,by rfl⟩,U⟩ (f0a S5 Z0c Z Z (M8a p t s M _ _ _ ⟨hP.keep (S5.keep0 M),z1a.keep (S5.keep0 M) _ _ hS,o0,hK.keep (S5.keep0 M),m0 _ S5.size⟩) (fun d0 r0 b0 i0=>?_) (fun d0 r0 b0 i0=>?_))
 ·have q0:=(f1a d0).2.2;unfold K1a at q0;obtain⟨u,j0,p0,_,g0,e0,_,_,c0,f0⟩:=RdS.get (n0) (s.target.toNat) (by omega);obtain⟨_,_,_,_,_,_,_,_,_,_,_,_,rfl,_⟩:=K0a.open_ f0;refine lO b0.k [.o 1,.o 0,.x j0 p0] Z ⟨⟨e0,by omega⟩,Z,Z,U⟩ ?_;cases a0:u.asleep
  ·refine L0a S2a Z (by exact(b0.old (c0 _ _ Z)).trans (congrArg (fun b=>some (Value.bool b)) a0)) Z ?_;refine lT Z U Z ?_;refine⟨F0a (fun h=>?_),b0.fin⟩;have:=h.2 u g0;rw[a0] at this;cases this;done
  refine L0a S2a Z (by exact(b0.old (c0 _ _ Z)).trans (congrArg (fun b=>some (Value.bool b)) a0)) Z ?_;refine lT Z U Z ?_;exact⟨r2a ⟨f1a d0,fun v hv=>by rw[g0] at hv;cases hv;exact a0⟩,b0.fin⟩
 refine lT Z U Z ?_;refine⟨F0a (fun h=>Q0a d0 h.1),b0.fin⟩;done
theorem v5b(p:j0a)(t:Nat)(s:Z0a)(M:List Nat)(w0:World)(cs ss:List Value)(h:AtX p s M w0 cs ss):
 O0a prog 230 #[.agg cs.toArray,.int .i64 t,.agg ss.toArray] w0 fun v w'=>v=.bool (dec (F3d p t s))∧Bw w0 w':=by
 obtain⟨hP,hS,p1,hK,hM⟩:=h;obtain⟨Ac,nc,cc,Am,nm,cm,Al,nl,cl,At,nt,ct,rfl,_⟩:=hP.open_;obtain⟨Ag,ng,cg,_,ns,S0,rfl,⟨_,_⟩,hG,i0,I1,_⟩:=hS.open_;have S:=St.refl w0;have K0:∀w':World,w0.heap.size≤w'.heap.size→∀g∈M,g<w'.heap.size:=fun w' h g hg=>by have:=hM g hg;omega
 cases d0:s.set with
 | nil =>
   have hz:ns=0:=by rw[I1,d0];rfl
   have H1:¬F3d p t s:=fun⟨a,l,e,_⟩=>by rw[d0] at e;cases e
   refine a0a func230 Z ntmps230 Z ?_;refine wO0 Z U (r0a S Z ?_);intro g3 w3 S3 X3 G3;refine r0a S3 Z ?_;intro g5 w5 S5 X5 G5;refine lO S5.k [.w 1] Z ⟨⟨Z,by rfl⟩,U⟩ (o0a S5 w0b Z Z (x0b p t M _ _ (hP.keep (S5.keep0 M)) (K0 _ S5.size)) ?_);rintro O1 L0 hq g0 y1;obtain⟨f,first,caps,rfl,hH,hf⟩:=id hq;have c0:=y0a.refl [] L0;refine lB g0.k [.o 0] Z ⟨Z,U⟩ (fun T0=>?_) (fun T0=>by exfalso;omega);exact lT Z U Z ⟨F0a H1,g0.fin⟩
 | cons a0 l =>
 have F1:s.set.length=l.length+1:=by rw[d0];rfl
 have G1:a0∈s.set:=by rw[d0];simp
 have X0:=p1 a0 G1;have b1:s.set[0]?=some a0:=by rw[d0];rfl
 unfold K1a at X0;obtain⟨_,b0,p0,_,c1,rfl,D1,_,z0,J1⟩:=RdS.get i0 0 (by omega);obtain rfl:=Option.some.inj (b1.symm.trans c1);obtain⟨t1,M1,A1,rfl,K1,_⟩:=J0a.open_ J1;have E1:s.set.drop 1=l:=by rw[d0];rfl
 have o1:=RdS.dropped i0 1 (by omega);rw[E1] at o1;refine a0a func230 Z ntmps230 Z ?_;refine wO0 Z U (r0a S Z ?_);intro g3 w3 S3 X3 G3;refine r0a S3 Z ?_;intro g5 w5 S5 X5 G5;refine lO S5.k [.w 1] Z ⟨⟨Z,Z⟩,U⟩ (o0a S5 w0b Z Z (x0b p t M _ _ (hP.keep (S5.keep0 M)) (K0 _ S5.size)) ?_);rintro O1 L0 hq g0 y1;obtain⟨f,first,caps,rfl,hH,hf⟩:=id hq;have c0:=y0a.refl [] L0;refine lB g0.k [.o 0] Z ⟨Z,U⟩ (fun T0=>by exfalso;omega) fun T0=>?_;refine lO g0.k [.o 0] Z ⟨Z,U⟩ (f0a g0 A8a Z Z (h6a _ M _ _ _ (x8a p t) (RdE.keep (g0.keep0 M) _ _ hG) (hq.keep c0.of_nil) (hK.keep (g0.keep0 M)) (K0 _ g0.size)) (fun D0 N0 B0 f1=>?_) (fun D0 N0 B0 f1=>?_))
 ·replace c0:=c0.trans f1;refine lC0 Z U (b0c c0a (fun i=>[0,1,2,3,4,5,6,7,8,9,11].contains i) [0,1,2,3,4,5,6,7,8,9,10,11] 12 (b6c B0) _ Z ?_);have f0:=B0.drew;have e0:y0a [] N0 N0.drew:=o2a _ _;generalize N0.drew=a2 at f0 e0 ⊢;replace c0:=c0.trans e0;refine J8a ⟨f0,e0⟩ Z Z Z ?_;refine u0a n7b Z Z ?_;refine i0a ?_;refine J8a ⟨f0,e0⟩ Z Z Z ?_;refine k0a f8b Z (fun w1 hw=>by exact hw.1.cell 0 Z Z) Z ?_;refine i0a ?_;refine J8a ⟨f0,e0⟩ Z Z Z ?_;refine q0a F6a.slT Z (by rfl) Z Z ?_;refine i0a ?_;refine J8a ⟨f0,e0⟩ Z Z Z ?_;refine u0a S2b Z Z ?_;refine i0a ?_;refine J8a ⟨f0,e0⟩ Z Z Z ?_;refine k0a D0a Z (fun w1 hw=>by exact hw.1.old (z0 _ _ Z)) Z ?_;refine i0a ?_;refine J8a ⟨f0,e0⟩ Z Z Z ?_;refine u0a n7b Z Z ?_;refine i0a ?_;refine J8a ⟨f0,e0⟩ Z Z Z ?_;refine k0a f8b Z (fun w1 hw=>by exact hw.1.cell 0 Z Z) Z ?_;refine i0a ?_;refine J8a ⟨f0,e0⟩ Z Z Z ?_;refine q0a F6a.slT Z (by rfl) Z Z ?_;refine i0a ?_;refine J8a ⟨f0,e0⟩ Z Z Z ?_;refine u0a t3b Z Z ?_;refine i0a ?_;refine J8a ⟨f0,e0⟩ Z Z Z ?_;refine C1a m0a Z (fun w1 hw=>(Cells.sub z0 1 4).keep (hw.1.keep0 M) D1) (by rfl) Z ?_;refine i0a ?_;refine D3c ⟨f0,e0⟩ Z Z Z Z ?_;refine h0a f0 w1a Z Z ?_;intro g9 w9 S9 X9 G9;have r0:=Nat.le_trans c0.size G9;have x0:=e0.trans X9;replace c0:=c0.trans X9;refine B0a ⟨Z,?_⟩;refine J8a ⟨S9.tail,x0⟩ Z Z Z ?_;refine x5a (v:=.int .i64 _) Z Z ?_;refine i0a ?_;refine v8b ⟨S9.tail,x0⟩ ?_;refine b0a (kk:=0) (vs:=[_,_,_,_]) S9 w0a Z Z Z Z Z Z Z ?_;intro s1 j0 v0;dsimp only[d0a,List.set] at j0;replace c0:=c0.fresh v0 (by first|exact r0);refine B0a ⟨Z,?_⟩;refine fO0 Z U (S6a j0 (hq.keep c0.of_nil) Z Z (K1) Z (fun E0 P1 s0 g1=>?_) (fun E0 P1 s0 g1=>?_))
  ·replace c0:=c0.trans g1;refine lO s0.k [.w 2] Z ⟨⟨Z,Z⟩,U⟩ (f0a s0 V0b Z Z (b6a p M _ _ _ (hP.keep (s0.keep0 M)) X0.1 X0.2) (fun F0 Q1 n0 P0=>?_) (fun F0 Q1 n0 P0=>?_))
   ·replace c0:=c0.trans P0;refine lT Z U Z ⟨F0a (fun h=>?_),n0.fin⟩;obtain⟨b,l',e,q1,q2,q3,q4,q5,q6,q7⟩:=h;rw[d0] at e;cases e
    (rw[q3] at F0;cases F0;done)
   replace c0:=c0.trans P0;refine lB n0.k [.o 0] Z ⟨Z,U⟩ (fun B1=>?_) fun B1=>?_
   ·refine lT Z U Z ⟨F0a (fun h=>?_),n0.fin⟩;obtain⟨b,l',e,q1,q2,q3,q4,q5,q6,q7⟩:=h;rw[d0] at e;cases e;omega
   refine lO n0.k [.w 2,.o 0] Z ⟨Z,⟨Z,Z⟩,U⟩ (f0a n0 X0b Z Z (d5a p M _ _ _ (hP.keep (n0.keep0 M))) (fun y0 R1 t0 i1=>?_) (fun y0 R1 t0 i1=>?_))
   ·replace c0:=c0.trans i1;refine lO t0.k [.w 2,.o 0] Z ⟨Z,⟨Z,Z⟩,U⟩ ?_;have r1:=(of_decide_eq_true y0).1;refine f0a t0 V0b Z Z (b6a p M _ _ _ (hP.keep (t0.keep0 M)) r1.1 r1.2) (fun G0 T1 C0 Q0=>?_) (fun G0 T1 C0 Q0=>?_)
    ·replace c0:=c0.trans Q0;refine lT Z U Z ⟨F0a (fun h=>?_),C0.fin⟩;obtain⟨b,l',e,q1,q2,q3,q4,q5,q6,q7⟩:=h;rw[d0] at e;cases e
     (rw[q6] at G0;cases G0;done)
    replace c0:=c0.trans Q0;refine lO C0.k [.o 1] Z ⟨Z,U⟩ ?_;refine K6a (kd:=.i64) (lo:=1) (hi:=ns) F6a.slT Z (.inr Z) (.inl ⟨Z,Z⟩) (by have:=i0.len;omega) (by have:=i0.len;omega) Z ?_;refine lC0 Z U (wL (fun μk D ε w=>D=[]∧∃k:Nat,(k+μk=(l.length))∧(e1a (l) k (fun b=>x8a p t b.cell=true∧W7a p.cells b.cell=true∧A3a b.to (x8a p t)=true))∧(y0a [] L0 w)∧St [] w0 w [(some g9,38,[.int .i64 a0.to.op,.int .i64 a0.to.w,.int .i64 a0.to.n,.slice t1 M1 A1]),(some g5,61,[.int .i64 s.kind,.int .i64 s.frm,.int .i64 s.to,.int .i64 s.guard.op,.int .i64 s.guard.w,.int .i64 s.guard.n,.slice Ag ng cg,.slice (some ⟨b0,p0,none⟩) ns S0,.bool s.release,.int .i64 s.target,.int .i64 s.module_]),(some g3,122,[.slice Ac nc cc,.slice Am nm cm,.slice Al nl cl,.slice At nt ct])]∧Sl ε [(3,.pointer (some ⟨g3,0,none⟩)),(7,.func (.func f) first caps),(65,.slice (some (if S0=1 then⟨b0,p0,none⟩ else⟨b0,p0+1*5,none⟩)) (ns-1) (S0-1)),(66,.int .i64 (ns-1:Nat)),(67,.int .i64 k)]) (μ:=(l.length)) ⟨Z,0,by omega,e1a.zero,c0,C0,Z⟩ ?_);rintro μk D ε w ⟨rfl,k,_,ha,c0,S,eZ⟩;refine wK eZ (wB0 Z U (fun C1=>?_) fun C1=>?_)
    ·obtain⟨a,z1,N1,_,A0,U0,_,Z0,Y0,a1⟩:=RdS.get (o1) (k) (by omega);obtain⟨_,_,_,rfl,d1,V0⟩:=J0a.open_ a1;have W0:=p1 a (by rw[d0];exact List.mem_cons_of_mem _ (e0a A0));unfold K1a at W0;refine lO (S.k.a Y0) [.x z1 N1,.v 0] Z ⟨⟨Z,Z0⟩,⟨U0,by omega⟩,U⟩ (h0a S I3b Z Z ?_);intro Y1 Z1 v1 x1 u1;have m0:=Nat.le_trans c0.size u1;replace c0:=c0.trans x1;refine b0a (kk:=0) (vs:=[_,_,_,_,_]) v1 x3b Z Z Z Z Z Z Z ?_;intro X1 q0 R0;dsimp only[d0a,List.set] at q0;replace c0:=c0.fresh R0 (by exact m0);refine lO q0.k [.o 0] Z ⟨Z,U⟩ (S6a q0 (hq.keep c0.of_nil) Z Z (d1) Z (fun H0 U1 u0 j1=>?_) (fun H0 U1 u0 j1=>?_))
     ·replace c0:=c0.trans j1;refine lO u0.k [.w 3,.o 0] Z ⟨Z,⟨Z,Z⟩,U⟩ (f0a u0 V0b Z Z (b6a p M _ _ _ (hP.keep (u0.keep0 M)) W0.1 W0.2) (fun I0 V1 o0 m1=>?_) (fun I0 V1 o0 m1=>?_))
      ·replace c0:=c0.trans m1;refine lO o0.k [.o 0] Z ⟨Z,U⟩ (f0a o0 A8a Z Z (h6a _ M _ _ _ (x8a p t) (RdE.keep (o0.keep0 M) _ _ V0) (hq.keep c0.of_nil) (hK.keep (o0.keep0 M)) (K0 _ o0.size)) (fun J0 W1 O0 n1=>?_) (fun J0 W1 O0 n1=>?_))
       ·replace c0:=c0.trans n1;refine lP0 Z ⟨by omega,U⟩ ⟨μk-1,by omega,Z,(k+1),(by omega),(ha.succ A0 (⟨H0,I0,J0⟩)),(c0),O0.tail,Z⟩
       refine lT Z U Z ⟨F0a (fun h=>?_),O0.fin⟩;obtain⟨b,l',e,q1,q2,q3,q4,q5,q6,q7⟩:=h;rw[d0] at e;cases e
       (have q8:=q7 a (e0a A0)
        (rw[q8.2.2] at J0;cases J0;done))
      refine lT Z U Z ⟨F0a (fun h=>?_),o0.fin⟩;obtain⟨b,l',e,q1,q2,q3,q4,q5,q6,q7⟩:=h;rw[d0] at e;cases e
      (have q8:=q7 a (e0a A0)
       (rw[q8.2.1] at I0;cases I0;done))
     refine lT Z U Z ⟨F0a (fun h=>?_),u0.fin⟩;obtain⟨b,l',e,q1,q2,q3,q4,q5,q6,q7⟩:=h;rw[d0] at e;cases e
     (have q8:=q7 a (e0a A0)
      (rw[q8.1] at H0;cases H0;done))
    exact lT Z U Z ⟨r2a ⟨a0,l,d0,D0,E0,F0,by omega,y0,G0,ha.all (by omega)⟩,S.fin⟩
   refine lT Z U Z ⟨F0a (fun h=>?_),t0.fin⟩;obtain⟨b,l',e,q1,q2,q3,q4,q5,q6,q7⟩:=h;rw[d0] at e;cases e
   (rw[q5] at y0;cases y0;done)
  refine lT Z U Z ⟨F0a (fun h=>?_),s0.fin⟩;obtain⟨b,l',e,q1,q2,q3,q4,q5,q6,q7⟩:=h;rw[d0] at e;cases e
  (rw[q2] at E0;cases E0;done)
 refine lT Z U Z ⟨F0a (fun h=>?_),B0.fin⟩;obtain⟨b,l',e,q1,q2,q3,q4,q5,q6,q7⟩:=h;rw[d0] at e;cases e
 (rw[q1] at D0;cases D0;done)
theorem o1b(p:j0a)(t c:Int)(g g':Nat)(M:List Nat)(w0:World)(cs:List Value)(vf:Value)(hP:a1a M w0 p cs)(hg:Cells w0 g 0 cs)(d0:w0.cell? ⟨g',0,none⟩=some vf)(hp:N2a prog M w0 vf (c1b p t))(hc:i64 c)(h0:0≤c∧c<p.cells.length):
 O0a prog 281 #[.int .i64 c,.pointer (some ⟨g,0,none⟩),.pointer (some ⟨g',0,none⟩)] w0 fun v w'=>v=.bool (W7a p.cells c&&c1b p t c)∧Bw w0 w':=by
 obtain⟨_,_,_,_,_,_,_,_,_,_,_,_,rfl,_⟩:=hP.open_;have S:=St.refl w0;refine a0a func281 Z ntmps281 Z ?_;refine wO0 Z U ?_
 first|refine L2a I2b Z ((fun j v hj=>S.old (hg j v hj))) Z ?_
 refine lO0 Z U (f0a S V0b Z Z (b6a p M _ _ _ (hP.keep (S.keep0 M)) h0.1 h0.2) (fun h7 w7 S7 X7=>?_) (fun h7 w7 S7 X7=>?_))
 ·refine lO0 Z U (L0a f3b Z (by first|exact S7.old d0) Z ?_);refine lO0 Z U (S6a S7 (hp.keep (S7.keep0 M)) Z Z (hc) Z (fun b0 e0 a0 c0=>?_) (fun b0 e0 a0 c0=>?_))
  ·refine lT Z U Z ⟨congrArg Value.bool ?_,a0.fin⟩;rw[h7,b0]<;>rfl
  refine lT Z U Z ⟨congrArg Value.bool ?_,a0.fin⟩;rw[h7,b0]<;>rfl
 refine lT Z U Z ⟨congrArg Value.bool ?_,S7.fin⟩;rw[h7]<;>rfl
theorem f4b(l:List i1a)(q:i1a→Bool)(M:List Nat)(w0:World)(v:Value)(f:FuncId)(first caps:Array Value)(hS:c8c M w0 v l)(hH:Has prog f)
 (hf:∀w',y0a M w0 w'→∀a∈l,i64 a.cell→O0a prog f (first.toList++[Value.int .i64 a.cell]++caps.toList).toArray w' fun v s0=>v=.bool (q a)∧Below w'.heap.size w' s0) :
 O0a prog 279 #[v,.func (.func f) first caps] w0 fun v w'=>v=.bool (dec (∀a∈l,q a=true))∧Bw w0 w':=by
 obtain⟨As,ns,p0,rfl⟩:=hS.form;obtain⟨_,_⟩:=hS.len;have S:=St.refl w0;refine a0a func279 Z ntmps279 Z ?_;refine wC0 Z U (wL (fun μk D ε w=>D=[]∧∃k:Nat,(k+μk=(l.length))∧(e1a (l) k (fun a=>q a=true))∧St [] w0 w []∧Sl ε [(1,.func (.func f) first caps),(7,.slice As ns p0),(8,.int .i64 ns),(9,.int .i64 k)]) (μ:=(l.length)) ⟨Z,0,by omega,e1a.zero,S,Z⟩ ?_);rintro μk D ε w ⟨rfl,k,_,ha,S,eZ⟩;refine wK eZ (wB0 Z U (fun q0=>?_) fun q0=>?_)
 ·obtain⟨a,o0,r0,_,g0,c0,_,e0,d0,f0⟩:=RdS.get (hS) (k) (by omega);obtain⟨_,_,_,rfl,i0,_⟩:=J0a.open_ f0;refine lO (S.k.a d0) [.x o0 r0,.v 0] Z ⟨⟨Z,e0⟩,⟨c0,by omega⟩,U⟩ (h0a S I3b Z Z ?_);intro g6 w6 S6 X6 G6
  first|refine b0a (kk:=0) (vs:=[_,_,_,_,_]) S6 x3b Z Z Z Z Z Z Z ?_
  intro t0 a0 n0;dsimp only[d0a,List.set] at a0;refine lO a0.k [.o 0] Z ⟨Z,U⟩ (X2b (vs:=first.toList++[Value.int .i64 a.cell]++caps.toList) hH Z Z Z (hf _ (a0.keep0 M) a (e0a g0) i0) ?_);rintro u0 v0 ⟨rfl,m0⟩;have j0:=a0.later m0;cases b0:q a
  ·refine lT Z U Z ?_;refine⟨F0a (fun h=>?_),j0.fin⟩;rw[h a (e0a g0)] at b0;cases b0;done
  refine lP0 Z ⟨by omega,U⟩ ⟨μk-1,by omega,Z,(k+1),(by omega),(ha.succ g0 (b0)),j0.tail,Z⟩
 exact lT Z U Z ⟨r2a (ha.all (by omega)),S.fin⟩
theorem Q3b(p:j0a)(t:Nat)(s:Z0a)(M:List Nat)(w0:World)(cs ss:List Value)(h:AtX p s M w0 cs ss):
 O0a prog 231 #[.agg cs.toArray,.int .i64 t,.agg ss.toArray] w0 fun v w'=>v=.bool (dec (n3d p t s))∧Bw w0 w':=by
 obtain⟨hP,hS,F0,hK,hM⟩:=h;obtain⟨_,_,_,_,_,_,_,_,_,_,_,_,rfl,_⟩:=hP.open_;obtain⟨_,_,_,_,ns,_,rfl,⟨_,_⟩,_,d0,Q0,_⟩:=hS.open_;have S:=St.refl w0;have u0:∀w':World,w0.heap.size≤w'.heap.size→∀g∈M,g<w'.heap.size:=fun w' h g hg=>by have:=hM g hg;omega
 cases b0:s.set with
 | nil =>
   have hz:ns=0:=by rw[Q0,b0];rfl
   have P0:¬n3d p t s:=fun⟨a,l,e,_⟩=>by rw[b0] at e;cases e
   refine a0a func231 Z ntmps231 Z ?_;refine wO0 Z U (r0a S Z ?_);intro g3 w3 S3 X3 G3;refine r0a S3 Z ?_;intro g5 w5 S5 X5 G5;refine lC0 Z U (H0a c0a [0,1,2,3,4,5,6,7] [8] [9,10,11] Z (Cl _ _ _ _) (Cl.start S5) ?_);refine qB S5.q [.o 0] Z ⟨Z,U⟩ (fun r0=>?_) (fun r0=>by exfalso;omega);refine qN0 Z U (R3a ?_);refine E7c Z Z Z ?_;refine O1a ?_;rintro Y0 ⟨i0,I0⟩;dsimp only[y3a];exact lT Z U Z ⟨F0a P0,i0.fin⟩
 | cons a0 l =>
 have N0:s.set.length=l.length+1:=by rw[b0];rfl
 have O0:a0∈s.set:=by rw[b0];simp
 have v0:=F0 a0 O0;have y0:s.set[0]?=some a0:=by rw[b0];rfl
 unfold K1a at v0;obtain⟨_,_,_,_,z0,rfl,_,_,x0,R0⟩:=RdS.get d0 0 (by omega);obtain rfl:=Option.some.inj (y0.symm.trans z0);obtain⟨_,_,_,rfl,_⟩:=J0a.open_ R0;have K0:s.set.drop 1=l:=by rw[b0];rfl
 have E0:=RdS.dropped d0 1 (by omega);rw[K0] at E0;have J0:∀a∈l,0≤a.cell∧a.cell<p.cells.length:=fun a ha=>F0 a (by rw[b0];exact List.mem_cons_of_mem _ ha);refine a0a func231 Z ntmps231 Z ?_;refine wO0 Z U (r0a S Z ?_);intro g3 w3 S3 X3 G3;refine r0a S3 Z ?_;intro g5 w5 S5 X5 G5;refine lC0 Z U (H0a c0a [0,1,2,3,4,5,6,7] [8] [9,10,11] Z (Cl _ _ _ _) (Cl.start S5) ?_);refine qB S5.q [.o 0] Z ⟨Z,U⟩ (fun r0=>by exfalso;omega) fun r0=>?_;refine qN S5.q [.w 0,.w 1] Z ⟨⟨Z,by rfl⟩,⟨Z,by rfl⟩,U⟩ (R3a ?_);refine E4a (fun v w=>N2a prog M w v (x8a p t)) Z Z w0b Z (fun v w w' h hk=>h.keep hk.of_nil) (fun w1 S1 X1=>x0b p t M _ _ (hP.keep (S1.keep0 M)) (u0 _ S1.size)) ?_;refine O1a ?_;rintro Y0 ⟨i0,I0⟩;rintro a1 hq;dsimp only[y3a];obtain⟨_,first,_,rfl,_⟩:=id hq;refine lO0 Z U (f0a i0 H6b Z Z (B8a s M _ _ _ (x8a p t) (z1a.keep (i0.keep0 M) _ _ hS) hq (hK.keep (i0.keep0 M)) (u0 _ i0.size)) (fun s0 S0 f0 A0=>?_) (fun s0 S0 f0 A0=>?_))
 ·replace hq:=hq.keep (A0.of_nil);refine lO f0.k [.o 0] Z ⟨Z,U⟩ (M0a F6a.slT Z (by rfl) Z Z ?_);refine lO0 Z U (L0a D0a Z (by exact f0.old (x0 _ _ Z)) Z ?_);refine lO f0.k [.w 1] Z ⟨⟨Z,by rfl⟩,U⟩ (f0a f0 X0b Z Z (d5a p M _ _ _ (hP.keep (f0.keep0 M))) (fun n0 T0 m0 B0=>?_) (fun n0 T0 m0 B0=>?_))
  ·replace hq:=hq.keep (B0.of_nil);refine lO m0.k [.w 1] Z ⟨⟨Z,by rfl⟩,U⟩ (f0a m0 V0b Z Z (b6a p M _ _ _ (hP.keep (m0.keep0 M)) v0.1 v0.2) (fun o0 U0 g0 C0=>?_) (fun o0 U0 g0 C0=>?_))
   ·replace hq:=hq.keep (C0.of_nil);refine lT Z U Z ⟨F0a (fun h=>?_),g0.fin⟩;obtain⟨b,l',e,q1,q2,q3,q4⟩:=h;rw[b0] at e;cases e
    (rw[q3] at o0;cases o0;done)
   refine lO g0.k [.w 1] Z ⟨⟨Z,by rfl⟩,U⟩ (o0a g0 j7b Z Z (R6a p t M _ _ (hP.keep (g0.keep0 M)) (u0 _ g0.size)) ?_);rintro v37 V0 G0 H0 Z0;obtain⟨_,_,_,rfl,_⟩:=id G0;have e0:=y0a.refl [] V0;refine h0a H0 P5c Z Z ?_;intro g8 w8 S8 X8 G8;have j0:=Nat.le_trans e0.size G8;replace e0:=e0.trans X8;refine U0a (kk:=0) S8 z6c Z Z Z (by exact Nat.le_of_ble_eq_true Z) ?_;intro X0 c0 q0;replace e0:=e0.fresh q0 (by first|exact j0);refine lO c0.k [.o 1] Z ⟨Z,U⟩ ?_;refine K6a (kd:=.i64) (lo:=1) (hi:=ns) F6a.slT Z (.inr Z) (.inl ⟨Z,Z⟩) (by have:=d0.len;omega) (by have:=d0.len;omega) Z ?_;refine U1a Z Z ?_;refine f0a c0 a6b Z Z (f4b l (fun a=>W7a p.cells a.cell&&c1b p t a.cell) M _ _ _ _ _ (RdS.keepW E0 (c0.keep0 M) (J0a.keep (c0.keep0 M))) A9c (fun w' hk a ha L0=>o1b p t a.cell g3 g8 M w' _ _ (hP.keep ((c0.keep0 M).trans hk)) ((c0.cells 2 Z).keep hk (S1a hM (c0.new 2 Z))) (hk.cell (a:=⟨g8,0,none⟩) (S1a hM (c0.new 0 Z)) (c0.cell 0 Z Z)) (G0.keep (e0.of_nil.trans hk)) L0 (J0 a ha))) (fun t0 W0 p0 D0=>?_) (fun t0 W0 p0 D0=>?_)
   ·replace e0:=e0.trans D0;exact lT Z U Z ⟨r2a ⟨a0,l,b0,f1a s0,n0,o0,f1a t0⟩,p0.fin⟩
   refine lT Z U Z ⟨F0a (fun h=>?_),p0.fin⟩;obtain⟨b,l',e,q1,q2,q3,q4⟩:=h;rw[b0] at e;cases e;exact Q0a t0 q4
  refine lT Z U Z ⟨F0a (fun h=>?_),m0.fin⟩;obtain⟨b,l',e,q1,q2,q3,q4⟩:=h;rw[b0] at e;cases e
  (rw[q2] at n0;cases n0;done)
 refine lT Z U Z ⟨F0a (fun h=>?_),f0.fin⟩;obtain⟨b,l',e,q1,q2,q3,q4⟩:=h;rw[b0] at e;cases e;exact Q0a s0 q1
def A5b(k:Int):Nat:=if k=1 then 229 else if k=2 then 230 else if k=3 then 231 else if k=4 then 232 else if k=5 then 233 else if k=6 then 234 else 235
def d1c:Array Value:=#[.nilFunc,.func (.func 229) #[] #[],.func (.func 230) #[] #[],.func (.func 231) #[] #[],.func (.func 232) #[] #[],.func (.func 233) #[] #[],.func (.func 234) #[] #[],.func (.func 235) #[] #[]]
theorem v9b{k:Int}:Has prog (A5b k):=by
 unfold A5b
 repeat' split
 ·exact V8c
 ·exact P8c
 ·exact Q8c
 ·exact y9c
 ·exact s9c
 ·exact R7c
 ·exact Z0c
theorem h3c{k:Int}(h1:1≤k)(h7:k≤7):d1c.extract (k.toNat*1) (k.toNat*1+1)=#[.func (.func (A5b k)) #[] #[]]:=by
 rcases(show k=1∨k=2∨k=3∨k=4∨k=5∨k=6∨k=7 by omega) with e|e|e|e|e|e|e<;>subst e<;>rfl
theorem i5c(wz:World):O0a prog 179 #[] wz fun v w'=>v=.agg d1c∧Below wz.heap.size wz w':=by
 have S:=St.refl wz;refine a0a func179 Z ntmps179 Z ?_;refine wO0 Z U (h0a S t2d Z Z ?_);intro g0 w0 S0 X0 G0;refine lO0 Z U (j1a b7a (vs:=[(0,.func _ _ _)]) (cs:=[_]) Z Z Z Z ?_);refine j1a b7a (vs:=[(0,.func _ _ _)]) (cs:=[_]) Z Z Z Z ?_;refine j1a b7a (vs:=[(0,.func _ _ _)]) (cs:=[_]) Z Z Z Z ?_;refine j1a b7a (vs:=[(0,.func _ _ _)]) (cs:=[_]) Z Z Z Z ?_;refine j1a b7a (vs:=[(0,.func _ _ _)]) (cs:=[_]) Z Z Z Z ?_;refine j1a b7a (vs:=[(0,.func _ _ _)]) (cs:=[_]) Z Z Z Z ?_;refine j1a b7a (vs:=[(0,.func _ _ _)]) (cs:=[_]) Z Z Z Z ?_;refine X0a (v:=.agg d1c) (w':=w0) Z Z Z (by kernel_rfl) ?_
 first|refine b0a (kk:=0) (vs:=[_,_,_,_,_,_,_,_]) S0 U0d Z Z Z Z Z Z Z ?_
 intro c0 a0 b0;dsimp only[d0a,List.set] at a0;refine lR0 Z U ?_;exact g0a (n:=8) Z (G2a (by rw[Tryz.underlying230];simp)) Z (a0.cells 0 Z) Z ⟨Z,a0.fin⟩
section
variable {P:Program} {N:Nat} {ops:Array Oper} {C:World→Prop} {rest:List Oper} {K:Env→Prop} {e:Env} {d:Nat} {t:TypeId} {p:String} {af:Array Edge} {x y:Operand} {kd:IntKind} {a:Int}
theorem g4c{ty len el size:Nat}{cs a0:Array Value}(hu:P.underlying ty=some (.array len el))(b0:∀w:World,(sizeOf el).run P w=.ok size w)(ha:∀w:World,(isAgg el).run P w=.ok true w)(hx:ev e x=.agg cs)(hy:ev e y=.int kd a)(h0:0≤a)(h1:a<len)(hv:cs.extract (a.toNat*size) (a.toNat*size+size)=a0)(hd:Nat.ble (d+1) N=true)
 (h:QL P N ops C rest K (upd e d (.agg a0))):QL P N ops C (⟨some d,.index ty x y,t,p,af,none⟩::rest) K e :=
 r3a Z Z hd (fun w _=>by simp[execOp,Instr.index,hx,hy,asIntOf,run_underlying hu,h0,h1,b0,part,ha,hv]) h
end
theorem r8a{M:List Nat}{w:World}{g:Nat}(hM:∀g∈M,g<w.heap.size)(h:w.heap.size≤g):g∉M:=fun hh=>by have:=hM g hh;omega
theorem t1c:∀w:World,(sizeOf 229).run prog w=.ok 1 w:=fun _=>by kernel_rfl
theorem h4c:∀w:World,(isAgg 229).run prog w=.ok true w:=fun _=>by kernel_rfl
theorem V8b(c:Int)(g:Nat)(w0:World)(Ac Am Al At:Option Addr)(nc cc nm cm nl cl nt ct:Nat)(hg:Cells w0 g 0 [.slice Ac nc cc,.slice Am nm cm,.slice Al nl cl,.slice At nt ct]):
 O0a prog 122 #[.int .i64 c,.pointer (some ⟨g,0,none⟩)] w0 fun v w'=>v=.bool (decide (0≤c∧c<(nm:Int)))∧Bw w0 w':=by
 have S:=St.refl w0;refine a0a func122 Z ntmps122 Z ?_;refine wO0 Z U (L0a K8a Z (by first|exact S.old (hg 1 _ Z)) Z ?_);refine lO0 Z U (f0a S k3a Z Z (y2a _ _ _) (fun h9 w9 S9 X9=>?_) (fun h9 w9 S9 X9=>?_))
 ·refine lR0 Z U (A0a Z ?_);exact⟨by rw[h9],S9.fin⟩
 refine lR0 Z U (A0a Z ?_);exact⟨by rw[h9],S9.fin⟩
theorem K9b(c a0 hd:Int)(g g':Nat)(w0:World)(hg:w0.cell? ⟨g,1,none⟩=some (.int .i64 a0))(c0:w0.cell? ⟨g',0,none⟩=some (.int .i64 hd)):
 O0a prog 125 #[.int .i64 c,.pointer (some ⟨g,0,none⟩),.pointer (some ⟨g',0,none⟩)] w0 fun v w'=>v=.bool (decide ((0≤c∧c<a0)∧c≠hd))∧Bw w0 w':=by
 have S:=St.refl w0;refine a0a func125 Z ntmps125 Z ?_;refine wO0 Z U (L0a D0a Z (by exact S.old hg) Z ?_);refine f0a S k3a Z Z (y2a _ _ _) (fun h8 w8 S8 X8=>?_) (fun h8 w8 S8 X8=>?_)
 ·refine lO0 Z U (L0a D0a Z (by exact S8.old c0) Z ?_);refine lB0 Z U (fun b0=>?_) fun b0=>?_
  ·refine lT Z U Z ⟨congrArg Value.bool ?_,S8.fin⟩;exact(decide_eq_true ⟨of_decide_eq_true h8,by omega⟩).symm
  refine lT Z U Z ⟨congrArg Value.bool ?_,S8.fin⟩;exact(decide_eq_false fun h=>by omega).symm
 refine lT Z U Z ⟨congrArg Value.bool ?_,S8.fin⟩;exact(decide_eq_false fun h=>of_decide_eq_false h8 h.1).symm
theorem B5c(p:j0a)(t:Nat)(s:Z0a)(M:List Nat)(w0:World)(cs ss:List Value)(h:AtX p s M w0 cs ss)(hk:1≤s.kind∧s.kind≤7):
 O0a prog (A5b s.kind) #[.agg cs.toArray,.int .i64 t,.agg ss.toArray] w0 fun v w'=>v=.bool (dec (R1d p t s))∧Bw w0 w':=by
 unfold R1d A5b;rcases(show s.kind=1∨s.kind=2∨s.kind=3∨s.kind=4∨s.kind=5∨s.kind=6∨s.kind=7 by omega) with e|e|e|e|e|e|e<;>simp only[e,if_true,if_false,Int.reduceEq]
 ·exact r3b p t s M w0 cs ss h
 ·exact v5b p t s M w0 cs ss h
 ·exact Q3b p t s M w0 cs ss h
 ·exact D1b p t s M w0 cs ss h
 ·exact V3b p t s M w0 cs ss h
 ·exact L2b p t s M w0 cs ss h
 ·exact M8a p t s M w0 cs ss h
theorem I3c(p:j0a)(t:Nat)(x:s1a)(s:Z0a)(M:List Nat)(w0:World)(cs ss ts:List Value)(hP:a1a M w0 p cs)(hS:z1a M w0 ss s)(hc:g3a p)(hK:k2a M w0)(hM:∀g∈M,g<w0.heap.size)(hT:K0a M w0 ts x)(t2:1≤x.points)(d2:x.points≤48):
 O0a prog 124 #[.agg cs.toArray,.int .i64 t,.agg ts.toArray,.agg ss.toArray] w0 fun v w'=>(∃a,v=.int .i64 a∧(a=0↔G4a p t x.points s))∧Bw w0 w':=by
 obtain⟨Ac,nc,cc,Am,nm,cm,Al,nl,cl,At,nt,ct,rfl,hC,_⟩:=hP.open_;obtain⟨Ag,ng,cg,As,ns,U0,rfl,⟨_,_⟩,hG,p1,_⟩:=hS.open_;obtain⟨V0,x1,c1,X0,A1,f1,Y0,B1,g1,W0,y1,d1,rfl,_⟩:=hT.open_;have S:=St.refl w0;have a2:∀w':World,w0.heap.size≤w'.heap.size→∀g∈M,g<w'.heap.size:=fun w' h g hg=>by have:=hM g hg;omega
 refine a0a func124 Z ntmps124 Z ?_;refine wO0 Z U (r0a S Z ?_);intro g4 w4 S4 X4 G4;refine r0a S4 Z ?_;intro g6 w6 S6 X6 G6;refine r0a S6 Z ?_;intro g7 w7 S7 X7 G7;refine lCn 3 S7.k [] Z U (wX (fun D ε w=>D=[]∧∃J0:Bool,(J0=true↔s.kind=6∨s.kind=7)∧St [] w0 w [(some g7,61,[.int .i64 s.kind,.int .i64 s.frm,.int .i64 s.to,.int .i64 s.guard.op,.int .i64 s.guard.w,.int .i64 s.guard.n,.slice Ag ng cg,.slice As ns U0,.bool s.release,.int .i64 s.target,.int .i64 s.module_]),(some g6,58,[.string x.name,.int .i64 x.points,.slice V0 x1 c1,.slice X0 A1 f1,.slice Y0 B1 g1,.slice W0 y1 d1,.bool x.asleep]),(some g4,122,[.slice Ac nc cc,.slice Am nm cm,.slice Al nl cl,.slice At nt ct])]∧Sl ε [(1,.int .i64 t),(4,.pointer (some ⟨g4,0,none⟩)),(6,.pointer (some ⟨g6,0,none⟩)),(7,.pointer (some ⟨g7,0,none⟩)),(9,.bool J0)]) ?_ ?_)
 ·refine wB S7.k [.o 0] Z ⟨Z,U⟩ (fun T1=>?_) fun T1=>?_
  ·refine lP0 Z U ⟨Z,(_),?_,S7,Z⟩;exact iff_of_true Z (by omega)
  refine lB S7.k [.o 0] Z ⟨Z,U⟩ (fun U1=>?_) fun U1=>?_
  ·refine lP0 Z U ⟨Z,(_),?_,S7,Z⟩;exact iff_of_true Z (by omega)
  refine lP0 Z U ⟨Z,(_),?_,S7,Z⟩;exact iff_of_false Bool.false_ne_true (by omega)
 rintro D ε w ⟨rfl,J0,s0,S,eZ⟩;refine wK eZ (wX (fun D ε w=>D=[]∧((1≤s.kind∧s.kind≤7)∧(0≤s.frm∧s.frm<x.points-1)∧(0≤s.to∧s.to<x.points)∧K1a s.module_ p.modules.length∧(s.release=true→s.kind=3)∧(s.target≠0→s.kind=6∨s.kind=7)∧s.guard.valid p.cells false=true∧s.guard.w=1)∧St [] w0 w [(some g7,61,[.int .i64 s.kind,.int .i64 s.frm,.int .i64 s.to,.int .i64 s.guard.op,.int .i64 s.guard.w,.int .i64 s.guard.n,.slice Ag ng cg,.slice As ns U0,.bool s.release,.int .i64 s.target,.int .i64 s.module_]),(some g6,58,[.string x.name,.int .i64 x.points,.slice V0 x1 c1,.slice X0 A1 f1,.slice Y0 B1 g1,.slice W0 y1 d1,.bool x.asleep]),(some g4,122,[.slice Ac nc cc,.slice Am nm cm,.slice Al nl cl,.slice At nt ct])]∧Sl ε [(1,.int .i64 t),(4,.pointer (some ⟨g4,0,none⟩)),(7,.pointer (some ⟨g7,0,none⟩))]) ?_ ?_)
 ·refine wB S.k [.o 0] Z ⟨Z,U⟩ (fun V1=>?_) fun V1=>?_
  ·refine lT Z U Z ⟨⟨_,Z,iF (fun h=>?_)⟩,S.fin⟩
   (have z1:=h.kind;have z2:=h.frm;have z3:=h.to;have z4:=h.mod;unfold K1a at z4;have z7:=h.guard
    omega)
  refine lB S.k [.o 0] Z ⟨Z,U⟩ (fun W1=>?_) fun W1=>?_
  ·refine lT Z U Z ⟨⟨_,Z,iF (fun h=>?_)⟩,S.fin⟩
   (have z1:=h.kind;have z2:=h.frm;have z3:=h.to;have z4:=h.mod;unfold K1a at z4;have z7:=h.guard
    omega)
  refine lO S.k [.o 0,.o 1] Z ⟨by omega,Z,Z,U⟩ (f0a S k3a Z Z (y2a _ _ _) (fun C0 i2 S0 N1=>?_) (fun C0 i2 S0 N1=>?_))
  ·refine lO S0.k [.o 0,.o 1] Z ⟨Z,Z,U⟩ (f0a S0 k3a Z Z (y2a _ _ _) (fun D0 j2 T0 O1=>?_) (fun D0 j2 T0 O1=>?_))
   ·refine lO T0.k [.o 0,.o 2] Z ⟨Z,Z,U⟩ (f0a T0 k3a Z Z (y2a _ _ _) (fun E0 m2 b0 P1=>?_) (fun E0 m2 b0 P1=>?_))
    ·refine lO0 Z U ?_;rcases(Bool.eq_false_or_eq_true (s.release)).symm with f0|f0
     ·refine L0a S2a Z (by exact(b0.cell 0 Z Z).trans (congrArg (fun b=>some (Value.bool b)) f0)) Z ?_;refine lB b0.k [.o 0] Z ⟨Z,U⟩ (fun m1=>?_) fun m1=>?_
      ·refine lOn 1 b0.k [] Z U (n5a Z Z Z ?_);cases o0:J0
       ·refine N0a (hv:=Z) (v:=.bool _) Z ?_;refine lT Z U Z ⟨⟨_,Z,iF (fun h=>?_)⟩,b0.fin⟩
        (have z1:=h.kind;have z2:=h.frm;have z3:=h.to;have z4:=h.mod;unfold K1a at z4;have z7:=h.guard
         (have z:=s0.2 (h.tgt (by omega));rw[o0] at z;cases z;done))
       refine N0a (hv:=Z) (v:=.bool _) Z ?_;refine lB b0.k [.o 0] Z ⟨Z,U⟩ (fun z0=>?_) fun z0=>?_
       ·refine lT Z U Z ⟨⟨_,Z,iF (fun h=>?_)⟩,b0.fin⟩
        (have z1:=h.kind;have z2:=h.frm;have z3:=h.to;have z4:=h.mod;unfold K1a at z4;have z7:=h.guard
         omega)
       refine lO b0.k [.o 0,.o 2] Z ⟨Z,Z,U⟩ (f0a b0 a1b Z Z (E3a s.guard M _ _ _ p.cells false (RdE.keep (b0.keep0 M) _ _ hG) (hC.keep (b0.keep0 M)) (hK.keep (b0.keep0 M))) (fun d0 B0 g0 v0=>?_) (fun d0 B0 g0 v0=>?_))
       ·refine lP0 Z U ⟨Z,?_,g0,Z⟩;refine⟨⟨by omega,by omega⟩,of_decide_eq_true C0,of_decide_eq_true D0,?_,?_,?_,d0,by omega⟩
        ·have:=of_decide_eq_true E0;unfold K1a;omega
        ·intro p0;rw[p0] at f0;cases f0;done
        ·intro u1;exact s0.1 o0
       refine lT Z U Z ⟨⟨_,Z,iF (fun h=>?_)⟩,g0.fin⟩
       (have z1:=h.kind;have z2:=h.frm;have z3:=h.to;have z4:=h.mod;unfold K1a at z4;have z7:=h.guard
        (rw[z7.1] at d0;cases d0;done))
      refine lB b0.k [.o 0] Z ⟨Z,U⟩ (fun z0=>?_) fun z0=>?_
      ·refine lT Z U Z ⟨⟨_,Z,iF (fun h=>?_)⟩,b0.fin⟩
       (have z1:=h.kind;have z2:=h.frm;have z3:=h.to;have z4:=h.mod;unfold K1a at z4;have z7:=h.guard
        omega)
      refine lO b0.k [.o 0,.o 2] Z ⟨Z,Z,U⟩ (f0a b0 a1b Z Z (E3a s.guard M _ _ _ p.cells false (RdE.keep (b0.keep0 M) _ _ hG) (hC.keep (b0.keep0 M)) (hK.keep (b0.keep0 M))) (fun d0 B0 g0 v0=>?_) (fun d0 B0 g0 v0=>?_))
      ·refine lP0 Z U ⟨Z,?_,g0,Z⟩;refine⟨⟨by omega,by omega⟩,of_decide_eq_true C0,of_decide_eq_true D0,?_,?_,?_,d0,by omega⟩
       ·have:=of_decide_eq_true E0;unfold K1a;omega
       ·intro p0;rw[p0] at f0;cases f0;done
       ·intro u1;omega
      refine lT Z U Z ⟨⟨_,Z,iF (fun h=>?_)⟩,g0.fin⟩
      (have z1:=h.kind;have z2:=h.frm;have z3:=h.to;have z4:=h.mod;unfold K1a at z4;have z7:=h.guard
       (rw[z7.1] at d0;cases d0;done))
     refine L0a S2a Z (by exact(b0.cell 0 Z Z).trans (congrArg (fun b=>some (Value.bool b)) f0)) Z ?_;refine lB b0.k [.o 0] Z ⟨Z,U⟩ (fun Y1=>?_) fun Y1=>?_
     ·refine lT Z U Z ⟨⟨_,Z,iF (fun h=>?_)⟩,b0.fin⟩
      (have z1:=h.kind;have z2:=h.frm;have z3:=h.to;have z4:=h.mod;unfold K1a at z4;have z7:=h.guard
       (have z:=h.rel f0;omega))
     refine lB b0.k [.o 0] Z ⟨Z,U⟩ (fun m1=>?_) fun m1=>?_
     ·refine lOn 1 b0.k [] Z U (n5a Z Z Z ?_);cases o0:J0
      ·refine N0a (hv:=Z) (v:=.bool _) Z ?_;refine lT Z U Z ⟨⟨_,Z,iF (fun h=>?_)⟩,b0.fin⟩
       (have z1:=h.kind;have z2:=h.frm;have z3:=h.to;have z4:=h.mod;unfold K1a at z4;have z7:=h.guard
        (have z:=s0.2 (h.tgt (by omega));rw[o0] at z;cases z;done))
      refine N0a (hv:=Z) (v:=.bool _) Z ?_;refine lB b0.k [.o 0] Z ⟨Z,U⟩ (fun z0=>?_) fun z0=>?_
      ·refine lT Z U Z ⟨⟨_,Z,iF (fun h=>?_)⟩,b0.fin⟩
       (have z1:=h.kind;have z2:=h.frm;have z3:=h.to;have z4:=h.mod;unfold K1a at z4;have z7:=h.guard
        omega)
      refine lO b0.k [.o 0,.o 2] Z ⟨Z,Z,U⟩ (f0a b0 a1b Z Z (E3a s.guard M _ _ _ p.cells false (RdE.keep (b0.keep0 M) _ _ hG) (hC.keep (b0.keep0 M)) (hK.keep (b0.keep0 M))) (fun d0 B0 g0 v0=>?_) (fun d0 B0 g0 v0=>?_))
      ·refine lP0 Z U ⟨Z,?_,g0,Z⟩;refine⟨⟨by omega,by omega⟩,of_decide_eq_true C0,of_decide_eq_true D0,?_,?_,?_,d0,by omega⟩
       ·have:=of_decide_eq_true E0;unfold K1a;omega
       ·intro p0;omega
       ·intro u1;exact s0.1 o0
      refine lT Z U Z ⟨⟨_,Z,iF (fun h=>?_)⟩,g0.fin⟩
      (have z1:=h.kind;have z2:=h.frm;have z3:=h.to;have z4:=h.mod;unfold K1a at z4;have z7:=h.guard
       (rw[z7.1] at d0;cases d0;done))
     refine lB b0.k [.o 0] Z ⟨Z,U⟩ (fun z0=>?_) fun z0=>?_
     ·refine lT Z U Z ⟨⟨_,Z,iF (fun h=>?_)⟩,b0.fin⟩
      (have z1:=h.kind;have z2:=h.frm;have z3:=h.to;have z4:=h.mod;unfold K1a at z4;have z7:=h.guard
       omega)
     refine lO b0.k [.o 0,.o 2] Z ⟨Z,Z,U⟩ (f0a b0 a1b Z Z (E3a s.guard M _ _ _ p.cells false (RdE.keep (b0.keep0 M) _ _ hG) (hC.keep (b0.keep0 M)) (hK.keep (b0.keep0 M))) (fun d0 B0 g0 v0=>?_) (fun d0 B0 g0 v0=>?_))
     ·refine lP0 Z U ⟨Z,?_,g0,Z⟩;refine⟨⟨by omega,by omega⟩,of_decide_eq_true C0,of_decide_eq_true D0,?_,?_,?_,d0,by omega⟩
      ·have:=of_decide_eq_true E0;unfold K1a;omega
      ·intro p0;omega
      ·intro u1;omega
     refine lT Z U Z ⟨⟨_,Z,iF (fun h=>?_)⟩,g0.fin⟩
     (have z1:=h.kind;have z2:=h.frm;have z3:=h.to;have z4:=h.mod;unfold K1a at z4;have z7:=h.guard
      (rw[z7.1] at d0;cases d0;done))
    refine lT Z U Z ⟨⟨_,Z,iF (fun h=>?_)⟩,b0.fin⟩
    (have z1:=h.kind;have z2:=h.frm;have z3:=h.to;have z4:=h.mod;unfold K1a at z4;have z7:=h.guard
     (have z:=of_decide_eq_false E0;omega))
   refine lT Z U Z ⟨⟨_,Z,iF (fun h=>?_)⟩,T0.fin⟩
   (have z1:=h.kind;have z2:=h.frm;have z3:=h.to;have z4:=h.mod;unfold K1a at z4;have z7:=h.guard
    (have z:=of_decide_eq_false D0;omega))
  refine lT Z U Z ⟨⟨_,Z,iF (fun h=>?_)⟩,S0.fin⟩
  (have z1:=h.kind;have z2:=h.frm;have z3:=h.to;have z4:=h.mod;unfold K1a at z4;have z7:=h.guard
   (have z:=of_decide_eq_false C0;omega))
 rintro D ε w ⟨rfl,e0,S,eZ⟩;refine wK eZ (wO0 Z U ?_);refine s3a (k:=3) S Z ?_;intro i1 v2 F1 r2 p2 a0;have r1:w0.heap.size≤i1:=by have:=S.size;omega
 refine lC F1.k [.o 0] Z ⟨Z,U⟩ (wL (fun μk D ε w=>D=[]∧∃k:Nat,(k+μk=(s.set.length))∧(e1a (s.set) k (fun a=>K1a a.cell p.cells.length∧a.to.valid p.cells false=true∧a.to.w=wAt p.cells a.cell))∧(((s.set.take k).map fun c=>Value.int .i64 c.cell).Nodup)∧(i3a prog 3 w i1 (J3a ((s.set.take k).map fun c=>.int .i64 c.cell)))∧St [] w0 w [(some g7,61,[.int .i64 s.kind,.int .i64 s.frm,.int .i64 s.to,.int .i64 s.guard.op,.int .i64 s.guard.w,.int .i64 s.guard.n,.slice Ag ng cg,.slice As ns U0,.bool s.release,.int .i64 s.target,.int .i64 s.module_]),(some g6,58,[.string x.name,.int .i64 x.points,.slice V0 x1 c1,.slice X0 A1 f1,.slice Y0 B1 g1,.slice W0 y1 d1,.bool x.asleep]),(some g4,122,[.slice Ac nc cc,.slice Am nm cm,.slice Al nl cl,.slice At nt ct])]∧Sl ε [(1,.int .i64 t),(4,.pointer (some ⟨g4,0,none⟩)),(7,.pointer (some ⟨g7,0,none⟩)),(10,.map (some i1)),(81,.slice As ns U0),(82,.int .i64 ns),(83,.int .i64 k)]) (μ:=(s.set.length)) ⟨Z,0,by omega,e1a.zero,(by simp),(by simpa[J3a] using a0),F1,Z⟩ ?_);rintro μk D ε w ⟨rfl,k,_,hs,hd,a0,S,eZ⟩;refine wK eZ (wB0 Z U (fun Z1=>?_) fun Z1=>?_)
 ·obtain⟨a,Q1,e2,_,A0,n1,_,s1,q1,t1⟩:=RdS.get (p1) (k) (by omega);obtain⟨_,_,_,rfl,v1,o1⟩:=J0a.open_ t1;refine lO (S.k.a q1) [.x Q1 e2,.v 0] Z ⟨⟨Z,s1⟩,⟨n1,by omega⟩,U⟩ (h0a S I3b Z Z ?_);intro s2 u2 E1 M1 o2;replace a0:=a0.keep M1 (List.not_mem_nil);refine b0a (kk:=0) (vs:=[_,_,_,_,_]) E1 x3b Z Z Z Z Z Z Z ?_;intro J1 i0 I0;dsimp only[d0a,List.set] at i0;replace a0:=a0.keep I0 (fun hh=>by rw[List.mem_singleton] at hh;exact a0.ne (E1.blk 0 Z) hh);refine lO i0.k [.o 0] Z ⟨Z,U⟩ ?_;have O0:=C5a v1;refine R9a (Go.Maps.int_keyed Tryz.underlying3) Tryz.underlying183 j7a a0 Z Z O0 Z (fun b2=>?_) fun H1=>?_
  ·refine lO0 Z U (h0a i0 j7a Z Z ?_);intro R1 g2 F0 a1 K1;replace a0:=a0.keep a1 (List.not_mem_nil);refine b0a (kk:=0) (vs:=[]) F0 r2b Z Z Z Z Z Z Z ?_;intro Q0 c0 n0;dsimp only[d0a,List.set] at c0;replace a0:=a0.keep n0 (fun hh=>by rw[List.mem_singleton] at hh;exact a0.ne (F0.blk 0 Z) hh);refine lT Z U Z ⟨⟨_,Z,iF (fun h=>?_)⟩,c0.fin⟩;exact absurd b2 (k4a (f:=fun(c:i1a)=>Value.int .i64 c.cell) (h.once.imp fun h e=>h (by injection e)) A0)
  refine lO0 Z U (h0a i0 j7a Z Z ?_);intro R1 g2 F0 a1 K1;replace a0:=a0.keep a1 (List.not_mem_nil);refine b0a (kk:=0) (vs:=[]) F0 r2b Z Z Z Z Z Z Z ?_;intro Q0 c0 n0;dsimp only[d0a,List.set] at c0;replace a0:=a0.keep n0 (fun hh=>by rw[List.mem_singleton] at hh;exact a0.ne (F0.blk 0 Z) hh);refine lO c0.k [.o 1,.o 4] Z ⟨Z,Z,U⟩ (f0a c0 k3a Z Z (y2a _ _ _) (fun x0 D1 q0 H0=>?_) (fun x0 D1 q0 H0=>?_))
  ·replace a0:=a0.keep H0 (List.not_mem_nil);refine lO q0.k [.o 1] Z ⟨Z,U⟩ (j1a O2b (vs:=[]) (cs:=[]) Z Z Z Z ?_);have q2:=of_decide_eq_true x0;refine v9a (key:=.int .i64 a.cell) q0 (Go.Maps.int_keyed Tryz.underlying3) Tryz.underlying183 a0 Z Z Z O0 (.inl r1) ?_;intro wm Sm Xm Mm;clear a0;have a0:=Mm H1;refine lC0 Z U (H0a c0a [0,1,2,3,4,5,6,7,8,9,10,11,12,13,14,15,16,17,18,19,20] [] [] Z (Cl _ _ _ _) (Cl.start Sm) ?_);obtain⟨c,b1,C1,_,I1,K0,_,_,L0,P0⟩:=RdS.get (hC) (a.cell.toNat) (by omega);obtain⟨rfl,_⟩:=U2a.open_ P0;refine qB (Sm.q.a L0) [.o 1,.o 4,.o 1,.x b1 C1,.f 0 1] Z ⟨Z,⟨K0,by omega⟩,Z,Z,Z,U⟩ (fun j1=>?_) fun j1=>?_
   ·refine qD Z U ?_;rintro R0 ⟨j0,r0⟩;replace a0:=a0.keep r0 (List.not_mem_nil);refine lT Z U Z ⟨⟨_,Z,iF (fun h=>?_)⟩,j0.fin⟩
    (have q:=(h.set a (e0a A0)).2.2;rw[S4a I1] at q;omega)
   refine qO Sm.q [.o 1,.o 4] Z ⟨Z,Z,U⟩ (R2a a1b Z Z (fun w1 S1 X1=>E3a a.to M _ _ _ p.cells false (RdE.keep (S1.keep0 M) _ _ o1) (hC.keep (S1.keep0 M)) (hK.keep (S1.keep0 M))) (fun y0=>?_) fun y0=>?_)
   ·refine qD Z U ?_;rintro R0 ⟨j0,r0⟩;replace a0:=a0.keep r0 (List.not_mem_nil);refine lP0 Z ⟨by omega,U⟩ ?_;refine⟨μk-1,by omega,Z,(k+1),(by omega),(hs.succ A0 (⟨by unfold K1a;omega,y0,by rw[S4a I1];omega⟩)),?_,((by rw[t0a A0,List.map_append];exact a0)),j0.tail.tail,Z⟩;rw[t0a A0,List.map_append,List.map_singleton,List.nodup_append];exact⟨hd,by simp,fun a ha b hb he=>by rw[List.mem_singleton.1 hb] at he;exact H1 (he▸ha)⟩
   refine qD Z U ?_;rintro R0 ⟨j0,r0⟩;refine lT Z U Z ⟨⟨_,Z,iF (fun h=>?_)⟩,j0.fin⟩
   (have q:=(h.set a (e0a A0)).2.1;rw[y0] at q;cases q;done)
  refine lT Z U Z ⟨⟨_,Z,iF (fun h=>?_)⟩,q0.fin⟩
  (have q:=(h.set a (e0a A0)).1;unfold K1a at q;have q5:=of_decide_eq_false x0;omega)
 have t0:=hs.all (show s.set.length≤k by omega);have N0:=e0.1;refine lC0 Z U (H0a c0a [0,1,2,3,4,5,6,7] [] [8,9] Z (Cl _ _ _ _) (Cl.start S) ?_);refine g2a s7c Z Z (fun w1 S1 X1=>i5c _) ?_;refine qO S.q [.o 0] Z ⟨Z,U⟩ (g4c Tryz.underlying230 t1c h4c Z Z (by omega) (by omega) (h3c (by omega) (by omega)) Z ?_);refine qN S.q [.w 2,.w 0] Z ⟨⟨Z,Z⟩,⟨Z,Z⟩,U⟩ (R3a ?_);refine O1a ?_;rintro n2 ⟨m0,_⟩;refine e7a v9b Z Z Z (B5c p t s M _ _ _ ⟨hP.keep (m0.keep0 M),z1a.keep (m0.keep0 M) _ _ hS,fun a ha=>(t0 a ha).1,hK.keep (m0.keep0 M),a2 _ m0.size⟩ N0) ?_;rintro f2 h2 ⟨rfl,Z0⟩;have G0:=m0.later Z0;have G1:=w4c (t:=t) hc e0.2.2.2.2.2.2.1 (fun a ha=>⟨(t0 a ha).1,(t0 a ha).2.1⟩) N0;cases u0:dec (R1d p t s)
 ·refine lT Z U Z ⟨⟨_,Z,iF (fun h=>?_)⟩,G0.fin⟩;exact Q0a u0 (G1.2 h.row)
 refine lT Z U Z ⟨⟨_,Z,iff_of_true (by omega) ⟨e0.1,e0.2.1,e0.2.2.1,e0.2.2.2.1,e0.2.2.2.2.1,e0.2.2.2.2.2.1,e0.2.2.2.2.2.2,t0,?_,G1.1 (f1a u0)⟩⟩,G0.fin⟩;rw[List.take_of_length_le (by omega)] at hd;exact(List.pairwise_map.1 hd).imp fun h e=>h (by rw[e])
def K3d(nm:Nat)(c:Int):Bool:=decide (0≤c∧c<(nm:Int))
def K8c(pts hd c:Int):Bool:=decide ((0≤c∧c<pts)∧c≠hd)
theorem C4b{g:Nat}{M:List Nat}{w0:World}{Ac Am Al At:Option Addr}{nc cc nm cm nl cl nt ct:Nat}(hg:Cells w0 g 0 [.slice Ac nc cc,.slice Am nm cm,.slice Al nl cl,.slice At nt ct])(hM:g∉M):
 N2a prog M w0 (.func (.func 122) #[] #[.pointer (some ⟨g,0,none⟩)]) (K3d nm) :=
 ⟨_,_,_,Z,E8c,fun w' hk c _=>V8b c g w' Ac Am Al At nc cc nm cm nl cl nt ct (hg.keep hk hM)⟩
theorem V4b{g g':Nat}{M:List Nat}{w0:World}{a0 hd:Int}(hg:w0.cell? ⟨g,1,none⟩=some (.int .i64 a0))(c0:w0.cell? ⟨g',0,none⟩=some (.int .i64 hd))(hM:g∉M)(b0:g'∉M):
 N2a prog M w0 (.func (.func 125) #[] #[.pointer (some ⟨g,0,none⟩),.pointer (some ⟨g',0,none⟩)]) (K8c a0 hd) :=
 ⟨_,_,_,Z,q8c,fun w' hk c _=>K9b c a0 hd g g' w' (hk.cell (a:=⟨g,1,none⟩) hM hg) (hk.cell (a:=⟨g',0,none⟩) b0 c0)⟩
def B3b(k:Nat):Nat:=if k=0 then 64 else if k=1 then 65 else 66
def z6b(cs:Array Value):Array Value:=#[.func (.func 64) #[.agg cs] #[],.func (.func 65) #[.agg cs] #[],.func (.func 66) #[.agg cs] #[]]
theorem I9b{cs:Array Value}{k:Nat}(h:k<3):(z6b cs)[(k:Int).toNat]?=some (.func (.func (B3b k)) #[.agg cs] #[]):=by
 rcases(show k=0∨k=1∨k=2 by omega) with e|e|e<;>subst e<;>rfl
theorem d6b{k:Nat}:Has prog (B3b k):=by
 unfold B3b
 repeat' split
 ·exact Y0d
 ·exact q2d
 ·exact v2d
theorem U8b(p:j0a)(t:Nat)(x:s1a)(b:Nat)(l:List Value)(M:List Nat)(w0:World)(cs ts:List Value)(hP:a1a M w0 p cs)(hT:K0a M w0 ts x)(hN:S5a p)(hc:g3a p)(hL:P1c p)(hK:k2a M w0)(hM:∀g∈M,g<w0.heap.size)(hb:b∈M)
 (hx:p.threads[t]?=some x) (hm:i3a prog 9 w0 b (J3a l)) :
 O0a prog 67 #[.agg cs.toArray,.int .i64 t,.agg ts.toArray,.map (some b)] w0 fun v w'=>(∃a c,v=.tuple #[.int .i64 a,.int .i64 c]∧(a=0↔D4a p t x∧Value.string x.name∉l)∧(a=0→i3a prog 9 w' b (J3a (l++[.string x.name]))))∧E0a [b] w0 w':=by
 obtain⟨Ac,nc,cc,Am,nm,cm,Al,nl,cl,At,nt,ct,rfl,hC,_⟩:=hP.open_;obtain⟨S0,P0,X0,c1,H1,f1,U0,R0,Z0,T0,Q0,Y0,rfl,_,p1,w1,x1,s1,_⟩:=hT.open_;have S:=St.reflM [b] w0;have b0:∀g∈[b],g∈M:=fun g hg=>by rw[List.mem_singleton] at hg;subst hg;exact hb
 have E0:∀w':World,w0.heap.size≤w'.heap.size→∀g∈M,g<w'.heap.size:=fun w' h g hg=>by have:=hM g hg;omega
 have b2:=hL.2.2.2.2 x (e0a hx);have f2:x.name.size≤140737488355328:=hN.threads x (e0a hx);refine a0a func67 Z ntmps67 Z ?_;refine wO0 Z U (r0a S Z ?_);intro g4 w4 S4 X4 G4;replace hm:=hm.keep X4 (List.not_mem_nil);refine r0a S4 Z ?_;intro g6 w6 S6 X6 G6;replace hm:=hm.keep X6 (List.not_mem_nil);refine lO S6.k [.o 0] Z ⟨Z,U⟩ (f0a S6 j3b Z Z (i7a _ _ f2) (fun g1 I2 V0 W1=>?_) (fun g1 I2 V0 W1=>?_))
 ·replace hm:=hm.keep W1 (List.not_mem_nil);refine lO V0.k [.o 0] Z ⟨Z,U⟩ ?_;have E2:w0.heap.size≤g6:=by have:=S4.size;omega
  refine a2a P2b Z Z (B7a b _ x.name _ hm f2) ?_;rintro v28 T2 ⟨⟨z28,rfl,O0⟩,n2,s2⟩;have j0:=V0.turned hm (.inr (by simp)) n2;clear hm;cases J0:z28
  ·refine G0a (hv:=Z) (v:=.bool _) Z ?_;have d2:Value.string x.name∉l:=fun hh=>absurd (O0.2 hh) (by rw[J0];decide);have hm:=s2 d2;refine lB j0.k [.o 0] Z ⟨Z,U⟩ (fun x2=>?_) fun x2=>?_
   ·refine lT2 Z U Z ⟨⟨_,_,Z,iF (fun hh=>?_),fun he=>absurd he (by omega)⟩,j0.below⟩;obtain⟨h,hn⟩:=hh;have q1:=h.points;have q2:=h.asserts;have q3:=h.nmod;omega
   refine lB j0.k [.o 0,.o 0] Z ⟨Z,Z,U⟩ (fun y2=>?_) fun y2=>?_
   ·refine lT2 Z U Z ⟨⟨_,_,Z,iF (fun hh=>?_),fun he=>absurd he (by omega)⟩,j0.below⟩;obtain⟨h,hn⟩:=hh;have q1:=h.points;have q2:=h.asserts;have q3:=h.nmod;omega
   refine lB j0.k [.o 0,.o 0] Z ⟨Z,Z,U⟩ (fun z2=>?_) fun z2=>?_
   ·refine lT2 Z U Z ⟨⟨_,_,Z,iF (fun hh=>?_),fun he=>absurd he (by omega)⟩,j0.below⟩;obtain⟨h,hn⟩:=hh;have q1:=h.points;have q2:=h.asserts;have q3:=h.nmod;omega
   refine lO j0.k [.o 0] Z ⟨Z,U⟩ (U1a Z Z ?_);refine f0a j0 i8a Z Z (Z4a M _ _ _ x.modules (K3d nm) (w1.keep (j0.keepM.mono b0)) (C4b (j0.cells 1 Z) (r8a hM G4)) (E0 _ j0.size)) (fun a1 J2 D0 X1=>?_) (fun a1 J2 D0 X1=>?_)
   ·replace hm:=hm.keep X1 (List.not_mem_nil);refine lO D0.k [.w 1] Z ⟨⟨Z,Z⟩,U⟩ (o0a D0 j7b Z Z (R6a p t M _ _ (hP.keep (D0.keepM.mono b0)) (E0 _ D0.size)) ?_);rintro v53 b1 hq Q1 t2;replace hm:=hm.keep t2 (List.not_mem_nil);obtain⟨f,first,caps,rfl,_⟩:=id hq;have a0:=y0a.refl [] b1;refine lC Q1.k [.o 0] Z ⟨Z,U⟩ (wL (fun μk D ε w=>D=[]∧∃k:Nat,(k+μk=(x.asserts.length))∧(e1a (x.asserts) k (fun e=>Y4a p.cells e false t))∧(i3a prog 9 w b (J3a (l++[.string x.name])))∧(y0a [] b1 w)∧St [b] w0 w [(some g6,58,[.string x.name,.int .i64 x.points,.slice S0 P0 X0,.slice c1 H1 f1,.slice U0 R0 Z0,.slice T0 Q0 Y0,.bool x.asleep]),(some g4,122,[.slice Ac nc cc,.slice Am nm cm,.slice Al nl cl,.slice At nt ct])]∧Sl ε [(1,.int .i64 t),(4,.pointer (some ⟨g4,0,none⟩)),(6,.pointer (some ⟨g6,0,none⟩)),(10,.func (.func f) first caps),(55,.slice S0 P0 X0),(56,.int .i64 P0),(57,.int .i64 k)]) (μ:=(x.asserts.length)) ⟨Z,0,by omega,e1a.zero,hm,a0,Q1,Z⟩ ?_);rintro μk D ε w ⟨rfl,k,hk,Z1,hm,a0,S,eZ⟩;refine wK eZ (wB0 Z U (fun A2=>?_) fun A2=>?_)
    ·obtain⟨e,u2,F2,_,g2,m1,t1,C1,z1,K0⟩:=RdS.get (p1) (k) (by omega);obtain⟨_,_,_,rfl,_⟩:=RdE.cells K0;refine lO (S.k.b (z1.keep (S.keepM.mono b0) t1)) [.x u2 F2,.v 0] Z ⟨⟨Z,C1⟩,⟨m1,by omega⟩,U⟩ (h0a S w1a Z Z ?_);intro N2 Q2 N1 T1 o2;have y0:=Nat.le_trans a0.size o2;replace a0:=a0.trans T1;replace hm:=hm.keep T1 (List.not_mem_nil);refine b0a (kk:=0) (vs:=[_,_,_,_]) N1 w0a Z Z Z Z Z Z Z ?_;intro i2 d0 u0;dsimp only[d0a,List.set] at d0;replace a0:=a0.fresh u0 (by first|exact y0);replace hm:=hm.keep u0 (fun hh=>by rw[List.mem_singleton] at hh;exact hm.ne (N1.blk 0 Z) hh);refine lO d0.k [.w 2,.w 0] Z ⟨⟨Z,by rfl⟩,⟨Z,Z⟩,U⟩ (f0a d0 s0b Z Z (n0b p e M _ _ _ false _ (c1b p t) (hP.keep (d0.keepM.mono b0)) (RdE.keep (d0.keepM.mono b0) _ _ K0) (hq.keep a0.of_nil) (hK.keep (d0.keepM.mono b0)) (E0 _ d0.size)) (fun i1 K2 d1 G0=>?_) (fun i1 K2 d1 G0=>?_))
     ·replace a0:=a0.trans G0;replace hm:=hm.keep G0 (List.not_mem_nil);refine lP0 Z ⟨by omega,U⟩ ⟨μk-1,by omega,Z,(k+1),(by omega),(Z1.succ g2 ((Q1b hc).1 (f1a i1))),(hm),(a0),d1.tail,Z⟩
     replace a0:=a0.trans G0;replace hm:=hm.keep G0 (List.not_mem_nil);refine lT2 Z U Z ⟨⟨_,_,Z,iF (fun hh=>?_),fun he=>absurd he (by omega)⟩,d1.below⟩;obtain⟨h,hn⟩:=hh;have q1:=h.points;have q2:=h.asserts;have q3:=h.nmod;exact Q0a i1 ((Q1b hc).2 (h.truth e (e0a g2)))
    refine lC S.k [.o 0] Z ⟨Z,U⟩ (wL (fun μk D ε w=>D=[]∧∃k:Nat,(k+μk=(x.steps.length))∧(e1a (x.steps) k (fun s=>G4a p t x.points s))∧(i3a prog 9 w b (J3a (l++[.string x.name])))∧(y0a [] b1 w)∧St [b] w0 w [(some g6,58,[.string x.name,.int .i64 x.points,.slice S0 P0 X0,.slice c1 H1 f1,.slice U0 R0 Z0,.slice T0 Q0 Y0,.bool x.asleep]),(some g4,122,[.slice Ac nc cc,.slice Am nm cm,.slice Al nl cl,.slice At nt ct])]∧Sl ε [(1,.int .i64 t),(4,.pointer (some ⟨g4,0,none⟩)),(6,.pointer (some ⟨g6,0,none⟩)),(10,.func (.func f) first caps),(68,.slice U0 R0 Z0),(69,.int .i64 R0),(70,.int .i64 k)]) (μ:=(x.steps.length)) ⟨Z,0,by omega,e1a.zero,hm,a0,S,Z⟩ ?_);rintro μk D ε w ⟨rfl,k,hk,e2,hm,a0,S,eZ⟩;refine wK eZ (wB0 Z U (fun B2=>?_) fun B2=>?_)
    ·obtain⟨s,v2,G2,_,h2,n1,u1,D1,A1,L0⟩:=RdS.get (x1) (k) (by omega);obtain⟨_,_,_,_,_,_,rfl,⟨_,_⟩,_⟩:=z1a.open_ L0;refine lO (S.k.b (A1.keep (S.keepM.mono b0) u1)) [.x v2 G2,.v 0] Z ⟨⟨Z,D1⟩,⟨n1,by omega⟩,U⟩ (h0a S J3b Z Z ?_);intro O2 R2 O1 U1 p2;have z0:=Nat.le_trans a0.size p2;replace a0:=a0.trans U1;replace hm:=hm.keep U1 (List.not_mem_nil);refine lO0 Z U (b0a (kk:=0) (vs:=[_,_,_,_,_,_,_,_,_,_,_]) O1 O3b Z Z Z Z Z Z Z ?_);intro j2 c0 v0;dsimp only[d0a,List.set] at c0;replace a0:=a0.fresh v0 (by first|exact z0);replace hm:=hm.keep v0 (fun hh=>by rw[List.mem_singleton] at hh;exact hm.ne (O1.blk 0 Z) hh);refine lO c0.k [.w 2,.w 1,.w 0] Z ⟨⟨Z,by rfl⟩,⟨Z,Z⟩,⟨Z,Z⟩,U⟩ (o0a c0 h9c Z Z (I3c p t x s M _ _ _ _ (hP.keep (c0.keepM.mono b0)) (z1a.keep (c0.keepM.mono b0) _ _ L0) hc (hK.keep (c0.keepM.mono b0)) (E0 _ c0.size) (K0a.keep (c0.keepM.mono b0) _ _ hT) (by omega) (by omega)) ?_);rintro P2 U2 ⟨_,rfl,N0⟩ R1 Y1;replace a0:=a0.trans Y1;replace hm:=hm.keep Y1 (List.not_mem_nil);refine lB0 Z U (fun C2=>?_) fun C2=>?_
     ·refine lT2 Z U Z ⟨⟨_,_,Z,iF (fun hh=>?_),fun he=>absurd he (by omega)⟩,R1.below⟩;obtain⟨h,hn⟩:=hh;have q1:=h.points;have q2:=h.asserts;have q3:=h.nmod
      (have z:=N0.2 (h.steps s (e0a h2));omega)
     refine lP0 Z ⟨by omega,U⟩ ⟨μk-1,by omega,Z,(k+1),(by omega),(e2.succ h2 (N0.1 (by omega))),(hm),(a0),R1.tail,Z⟩
    refine lC S.k [.o 0] Z ⟨Z,U⟩ (wL (fun μk D ε w=>D=[]∧∃k:Nat,(k+μk=(x.loops.length))∧(e1a (x.loops) k (fun l=>K7b p t x.points l))∧(i3a prog 9 w b (J3a (l++[.string x.name])))∧(y0a [] b1 w)∧St [b] w0 w [(some g6,58,[.string x.name,.int .i64 x.points,.slice S0 P0 X0,.slice c1 H1 f1,.slice U0 R0 Z0,.slice T0 Q0 Y0,.bool x.asleep]),(some g4,122,[.slice Ac nc cc,.slice Am nm cm,.slice Al nl cl,.slice At nt ct])]∧Sl ε [(4,.pointer (some ⟨g4,0,none⟩)),(6,.pointer (some ⟨g6,0,none⟩)),(10,.func (.func f) first caps),(86,.slice T0 Q0 Y0),(87,.int .i64 Q0),(88,.int .i64 k)]) (μ:=(x.loops.length)) ⟨Z,0,by omega,e1a.zero,hm,a0,S,Z⟩ ?_);rintro μk D ε w ⟨rfl,k,hk,a2,hm,a0,S,eZ⟩;refine wK eZ (wB0 Z U (fun D2=>?_) fun D2=>?_)
    ·obtain⟨lp,w2,H2,_,i0,o1,v1,E1,B1,G1⟩:=RdS.get (s1) (k) (by omega);obtain⟨_,_,_,_,_,_,rfl,_,H0,I0,_⟩:=W4a.open_ G1;refine lO (S.k.b (B1.keep (S.keepM.mono b0) v1)) [.x w2 H2,.v 0] Z ⟨⟨Z,E1⟩,⟨o1,by omega⟩,U⟩ (h0a S u1d Z Z ?_);intro g17 S2 P1 V1 r2;have A0:=Nat.le_trans a0.size r2;replace a0:=a0.trans V1;replace hm:=hm.keep V1 (List.not_mem_nil);refine b0a (kk:=0) (vs:=[_,_,_,_,_,_]) P1 N2d Z Z Z Z Z Z Z ?_;intro m2 m0 x0;dsimp only[d0a,List.set] at m0;replace a0:=a0.fresh x0 (by first|exact A0);replace hm:=hm.keep x0 (fun hh=>by rw[List.mem_singleton] at hh;exact hm.ne (P1.blk 0 Z) hh);refine lO0 Z U (U1a Z Z ?_);refine lO m0.k [.o 0,.o 1] Z ⟨Z,Z,U⟩ (f0a m0 k3a Z Z (y2a _ _ _) (fun j1 L2 F0 W0=>?_) (fun j1 L2 F0 W0=>?_))
     ·replace a0:=a0.trans W0;replace hm:=hm.keep W0 (List.not_mem_nil);refine lO F0.k [.o 0] Z ⟨Z,U⟩ (f0a F0 v6b Z Z (N4a M _ _ _ (H0.keep (F0.keepM.mono b0))) (fun C0 I1 e0 n0=>?_) (fun C0 I1 e0 n0=>?_))
      ·replace a0:=a0.trans n0;replace hm:=hm.keep n0 (List.not_mem_nil);refine lO e0.k [.o 0] Z ⟨Z,U⟩ ?_;have r1:w0.heap.size≤g17:=by have:=S.size;omega
       refine f0a e0 i8a Z Z (Z4a M _ _ _ lp.body (K8c x.points lp.head) (H0.keep (e0.keepM.mono b0)) (V4b (e0.cell 1 Z Z) (e0.cell 0 Z Z) (r8a hM E2) (r8a hM r1)) (E0 _ e0.size)) (fun r0 J1 f0 o0=>?_) (fun r0 J1 f0 o0=>?_)
       ·replace a0:=a0.trans o0;replace hm:=hm.keep o0 (List.not_mem_nil);refine lO f0.k [.o 0,.o 2] Z ⟨Z,Z,U⟩ (f0a f0 a1b Z Z (E3a lp.variant M _ _ _ p.cells false (RdE.keep (f0.keepM.mono b0) _ _ I0) (hC.keep (f0.keepM.mono b0)) (hK.keep (f0.keepM.mono b0))) (fun s0 K1 g0 p0=>?_) (fun s0 K1 g0 p0=>?_))
        ·replace a0:=a0.trans p0;replace hm:=hm.keep p0 (List.not_mem_nil);refine lO g0.k [.o 0] Z ⟨Z,U⟩ (f0a g0 A8a Z Z (h6a lp.variant M _ _ _ (c1b p t) (RdE.keep (g0.keepM.mono b0) _ _ I0) (hq.keep a0.of_nil) (hK.keep (g0.keepM.mono b0)) (E0 _ g0.size)) (fun t0 M1 B0 q0=>?_) (fun t0 M1 B0 q0=>?_))
         ·replace a0:=a0.trans q0;replace hm:=hm.keep q0 (List.not_mem_nil);refine lP0 Z ⟨by omega,U⟩ ?_;refine⟨μk-1,by omega,Z,(k+1),(by omega),(a2.succ i0 (⟨of_decide_eq_true j1,f1a C0,fun c y1=>(by have z:=of_decide_eq_true (p:=(0≤c∧c<x.points)∧c≠lp.head) (List.all_eq_true.1 r0 c y1);omega),s0,(L6a hc s0).1 t0⟩)),(hm),(a0),B0.tail,Z⟩
         replace hm:=hm.keep q0 (List.not_mem_nil);refine lT2 Z U Z ⟨⟨_,_,Z,iF (fun hh=>?_),fun he=>absurd he (by omega)⟩,B0.below⟩;obtain⟨h,hn⟩:=hh;have q1:=h.points;have q2:=h.asserts;have q3:=h.nmod
         (have zl:=h.loops lp (e0a i0)
          (have z:=(L6a hc zl.variant.1).2 zl.variant.2;rw[z] at t0;cases t0;done))
        replace hm:=hm.keep p0 (List.not_mem_nil);refine lT2 Z U Z ⟨⟨_,_,Z,iF (fun hh=>?_),fun he=>absurd he (by omega)⟩,g0.below⟩;obtain⟨h,hn⟩:=hh;have q1:=h.points;have q2:=h.asserts;have q3:=h.nmod
        (have zl:=h.loops lp (e0a i0)
         (have z:=zl.variant.1;rw[s0] at z;cases z;done))
       replace hm:=hm.keep o0 (List.not_mem_nil);refine lT2 Z U Z ⟨⟨_,_,Z,iF (fun hh=>?_),fun he=>absurd he (by omega)⟩,f0.below⟩;obtain⟨h,hn⟩:=hh;have q1:=h.points;have q2:=h.asserts;have q3:=h.nmod
       (have zl:=h.loops lp (e0a i0)
        (have z:lp.body.all (K8c x.points lp.head)=true:=List.all_eq_true.2 fun c y1=>decide_eq_true (by have:=zl.body c y1;omega)
         rw[z] at r0;cases r0;done))
      replace hm:=hm.keep n0 (List.not_mem_nil);refine lT2 Z U Z ⟨⟨_,_,Z,iF (fun hh=>?_),fun he=>absurd he (by omega)⟩,e0.below⟩;obtain⟨h,hn⟩:=hh;have q1:=h.points;have q2:=h.asserts;have q3:=h.nmod
      (have zl:=h.loops lp (e0a i0)
       exact Q0a C0 zl.up)
     replace hm:=hm.keep W0 (List.not_mem_nil);refine lT2 Z U Z ⟨⟨_,_,Z,iF (fun hh=>?_),fun he=>absurd he (by omega)⟩,F0.below⟩;obtain⟨h,hn⟩:=hh;have q1:=h.points;have q2:=h.asserts;have q3:=h.nmod
     (have zl:=h.loops lp (e0a i0)
      exact of_decide_eq_false j1 zl.head)
    refine lT2 Z U Z ⟨⟨_,_,Z,iff_of_true (by omega) ⟨⟨f1a g1,⟨by omega,by omega⟩,b2.2.1,b2.2.2,by omega,by omega,fun m F1=>?_,Z1.all (by omega),e2.all (by omega),a2.all (by omega)⟩,d2⟩,fun _=>hm⟩,S.below⟩;have z:=of_decide_eq_true (p:=0≤m∧m<(nm:Int)) (List.all_eq_true.1 a1 m F1);unfold K1a;omega
   refine lT2 Z U Z ⟨⟨_,_,Z,iF (fun hh=>?_),fun he=>absurd he (by omega)⟩,D0.below⟩;obtain⟨h,hn⟩:=hh;have q1:=h.points;have q2:=h.asserts;have q3:=h.nmod
   (have z:x.modules.all (K3d nm)=true:=List.all_eq_true.2 fun m F1=>decide_eq_true (by have:=h.modules m F1;unfold K1a at this;omega)
    rw[z] at a1;cases a1;done)
  refine G0a (hv:=Z) (v:=.bool _) Z ?_;refine lT2 Z U Z ⟨⟨_,_,Z,iF (fun hh=>?_),fun he=>absurd he (by omega)⟩,j0.below⟩;obtain⟨h,hn⟩:=hh;have q1:=h.points;have q2:=h.asserts;have q3:=h.nmod;exact hn (O0.1 J0)
 refine lT2 Z U Z ⟨⟨_,_,Z,iF (fun hh=>?_),fun he=>absurd he (by omega)⟩,V0.below⟩;obtain⟨h,hn⟩:=hh;have q1:=h.points;have q2:=h.asserts;have q3:=h.nmod;exact Q0a g1 h.name
def L8b(p:j0a)(k:Nat):Prop:=if k=0 then Y7a p else if k=1 then j4b p else k0b p
theorem e3c(k:Nat)(hk:k<3)(p:j0a)(M:List Nat)(w0:World)(cs:List Value)(hP:a1a M w0 p cs)(hN:S5a p)(hc:1≤k→Y7a p)(hK:k2a M w0)(hM:∀g∈M,g<w0.heap.size):
 O0a prog (B3b k) #[.agg cs.toArray] w0 fun v w'=>(∃a,v=.int .i64 a∧(a=0↔L8b p k))∧Bw w0 w':=by
 rcases(show k=0∨k=1∨k=2 by omega) with e|e|e<;>subst e
 ·exact X1c p M w0 cs hP hN
 ·exact H5b p M w0 cs hP hN (hc (by omega)).1 hK hM
 ·exact n2c p M w0 cs hP (hc (by omega)).1 hK hM
theorem a4b(p:j0a)(M:List Nat)(w0:World)(cs:List Value)(hP:a1a M w0 p cs)(hN:S5a p)(hK:k2a M w0)(hM:∀g∈M,g<w0.heap.size):
 O0a prog 30 #[.agg cs.toArray] w0 fun v w'=>(∃a b c,v=.tuple #[.int .i64 a,.int .i64 b,.int .i64 c]∧(a=0↔p1a p)∧(a=0→b=-1∧c=-1))∧Bw w0 w':=by
 obtain⟨Ac,nc,cc,Am,nm,cm,Al,nl,cl,At,nt,ct,rfl,_,_,_,R0,_⟩:=hP.open_;have S:=St.refl w0;have C0:∀w':World,w0.heap.size≤w'.heap.size→∀g∈M,g<w'.heap.size:=fun w' h g hg=>by have:=hM g hg;omega
 refine a0a func30 Z ntmps30 Z ?_;refine wO0 Z U (r0a S Z ?_);intro g1 w1 S1 X1 G1;refine lO S1.k [.w 0] Z ⟨⟨Z,Z⟩,U⟩ (j1a f8c (vs:=[(0,.agg _)]) (cs:=[_,_,_,_]) Z Z Z Z ?_);refine h0a S1 C2d Z Z ?_;intro g5 w5 S5 X5 G5;refine b0a (kk:=0) (vs:=[_,_,_,_]) S5 F1d Z Z Z Z Z Z Z ?_;intro U0 e0 J0;dsimp only[d0a,List.set] at e0;refine lO e0.k [.w 0] Z ⟨⟨Z,Z⟩,U⟩ (o0a e0 g1d Z Z (a9b p M _ _ (hP.keep (e0.keep0 M))) ?_);rintro v20 V0 ⟨_,_,rfl,d0⟩ j0 Y0;refine lB0 Z U (fun L0=>?_) fun L0=>?_
 ·refine lR0 Z U (I1b Z ?_);refine⟨⟨_,_,_,Z,iF (fun h=>?_),fun h=>absurd h (by omega)⟩,j0.fin⟩;have z1:=d0.2 (V8a h);omega
 refine lO j0.k [.w 0] Z ⟨⟨Z,Z⟩,U⟩ (h2a Z Z Z ?_);refine lO j0.k [.w 0] Z ⟨⟨Z,Z⟩,U⟩ (h2a Z Z Z ?_);refine lO j0.k [.w 0] Z ⟨⟨Z,Z⟩,U⟩ (h2a Z Z Z ?_);refine X0a (v:=.agg (z6b #[.slice Ac nc cc,.slice Am nm cm,.slice Al nl cl,.slice At nt ct])) (w':=V0) Z Z Z (by kernel_rfl) ?_;refine lC0 Z U (wL (fun μk D ε w=>D=[]∧∃k:Nat,(k+μk=(3))∧(∀j,j<k→L8b p j)∧St [] w0 w [(some g5,122,[.slice Ac nc cc,.slice Am nm cm,.slice Al nl cl,.slice At nt ct]),(some g1,27,[.slice Ac nc cc,.slice Am nm cm,.slice Al nl cl,.slice At nt ct])]∧Sl ε [(1,.pointer (some ⟨g1,0,none⟩)),(5,.pointer (some ⟨g5,0,none⟩)),(33,.agg (z6b #[.slice Ac nc cc,.slice Am nm cm,.slice Al nl cl,.slice At nt ct])),(34,.int .i64 k)]) (μ:=(3)) ⟨Z,0,by omega,(fun j h=>absurd h (by omega)),j0,Z⟩ ?_);rintro μk D ε w ⟨rfl,k,hk,n0,S,eZ⟩;refine wK eZ (wB0 Z U (fun N0=>?_) fun N0=>?_)
 ·refine lO0 Z U (o0b g8c Z Z (I9b (by omega)) Z ?_);refine lO0 Z U (X2b (vs:=[.agg #[.slice Ac nc cc,.slice Am nm cm,.slice Al nl cl,.slice At nt ct]]) d6b Z Z Z (e3c k (by omega) p M _ _ (hP.keep (S.keep0 M)) hN (fun h1=>n0 0 (by omega)) (hK.keep (S.keep0 M)) (C0 _ S.size)) ?_);rintro b1 f1 ⟨⟨_,rfl,o0⟩,F0⟩;have z0:=S.later F0;refine lB0 Z U (fun O0=>?_) fun O0=>?_
  ·refine lR0 Z U (I1b Z ?_);refine⟨⟨_,_,_,Z,iF (fun h=>?_),fun h=>absurd h (by omega)⟩,z0.fin⟩;have z1:=d0.2 (V8a h)
   (have z2:L8b p k:=by
     unfold L8b
     split
     ·exact⟨h.cells,h.cellNames⟩
     split
     ·exact⟨h.modules,h.moduleNames⟩
     ·exact⟨h.locks,h.lockCells⟩
    have z3:=o0.2 z2;omega)
  refine lP0 Z ⟨by omega,U⟩ ⟨μk-1,by omega,Z,(k+1),(by omega),?_,z0,Z⟩;intro j hj;by_cases v0:j=k
  ·subst v0;exact o0.1 (by omega)
  ·exact n0 j (by omega)
 have t0:Y7a p:=n0 0 (by omega);have E0:j4b p:=n0 1 (by omega);have D0:k0b p:=n0 2 (by omega);refine lO0 Z U (s3a (k:=9) S Z ?_);intro f0 i1 A0 Z0 X0 b0;have u0:w0.heap.size≤f0:=by have:=S.size;omega
 refine lC A0.k [.o 1] Z ⟨Z,U⟩ (wL (fun μk D ε w=>D=[]∧∃k:Nat,(k+μk=(p.threads.length))∧(∀j x,p.threads[j]?=some x→j<k→D4a p j x)∧(((p.threads.take k).map fun c=>Value.string c.name).Nodup)∧(i3a prog 9 w f0 (J3a ((p.threads.take k).map fun c=>.string c.name)))∧St [] w0 w [(some g5,122,[.slice Ac nc cc,.slice Am nm cm,.slice Al nl cl,.slice At nt ct]),(some g1,27,[.slice Ac nc cc,.slice Am nm cm,.slice Al nl cl,.slice At nt ct])]∧Sl ε [(5,.pointer (some ⟨g5,0,none⟩)),(11,.map (some f0)),(45,.slice At nt ct),(46,.int .i64 nt),(47,.int .i64 k)]) (μ:=(p.threads.length)) ⟨Z,0,by omega,(fun j x _ h=>absurd h (by omega)),(by simp),(by simpa[J3a] using b0),A0,Z⟩ ?_);rintro μk D ε w ⟨rfl,k,hk,ht,hd,b0,S,eZ⟩;refine wK eZ (wB0 Z U (fun P0=>?_) fun P0=>?_)
 ·obtain⟨x,K0,T0,_,i0,r0,_,x0,s0,p0⟩:=RdS.get (R0) (k) (by omega);obtain⟨_,_,_,_,_,_,_,_,_,_,_,_,rfl,_⟩:=K0a.open_ p0;refine lO (S.k.a s0) [.x K0 T0,.v 0] Z ⟨⟨Z,x0⟩,⟨r0,by omega⟩,U⟩ (h0a S g7a Z Z ?_);intro a1 d1 y0 I0 W0;replace b0:=b0.keep I0 (List.not_mem_nil);refine lO0 Z U (b0a (kk:=0) (vs:=[_,_,_,_,_,_,_]) y0 r7a Z Z Z Z Z Z Z ?_);intro q0 a0 m0;dsimp only[d0a,List.set] at a0;replace b0:=b0.keep m0 (fun hh=>by rw[List.mem_singleton] at hh;exact b0.ne (y0.blk 0 Z) hh);refine lO a0.k [.w 1,.w 0] Z ⟨⟨Z,by rfl⟩,⟨Z,Z⟩,U⟩ ?_;have c0:∀g∈f0::M,g∈M∨w0.heap.size≤g:=fun g hg=>by exact(List.mem_cons.1 hg).elim (fun h=>.inr (by omega)) .inl
  have S0:∀g∈f0::M,g<q0.heap.size:=fun g hg=>by exact(List.mem_cons.1 hg).elim (fun h=>h▸b0.lt) (C0 _ a0.size g)
  refine a2a O0d Z Z (U8b p k x f0 _ (f0::M) _ _ _ ((hP.more c0).keep (a0.keep0 _)) (K0a.keep (a0.keep0 _) _ _ (K0a.more c0 _ _ p0)) hN t0.1 (d0.1 (by omega)) ((hK.more c0).keep (a0.keep0 _)) S0 (by simp) i0 b0) ?_;rintro c1 j1 ⟨⟨_,_,rfl,g0,H0⟩,G0⟩;have B0:=a0.turned b0 (.inl u0) G0;refine lB0 Z U (fun Q0=>?_) fun Q0=>?_
  ·refine lR0 Z U (I1b Z ?_);refine⟨⟨_,_,_,Z,iF (fun h=>?_),fun h=>absurd h (by omega)⟩,B0.fin⟩;have z1:=d0.2 (V8a h)
   (have z3:=g0.2 ⟨h.thread i0,k4a (f:=fun(c:s1a)=>Value.string c.name) (h.threadNames.imp fun h e=>h (by injection e)) i0⟩;omega)
  refine lP0 Z ⟨by omega,U⟩ ?_;refine⟨μk-1,by omega,Z,(k+1),(by omega),?_,?_,((by rw[t0a i0,List.map_append];exact H0 (by omega))),B0.tail,Z⟩
  ·intro j y hy hj;by_cases v0:j=k
   ·subst v0;rw[i0] at hy;cases hy;exact(g0.1 (by omega)).1
   ·exact ht j y hy (by omega)
  ·rw[t0a i0,List.map_append,List.map_singleton,List.nodup_append];exact⟨hd,by simp,fun a ha b hb he=>by rw[List.mem_singleton.1 hb] at he;exact(g0.1 (by omega)).2 (he▸ha)⟩
 refine lR0 Z U (I1b Z ?_);refine⟨⟨_,_,_,Z,iff_of_true (by omega) ?_,fun _=>⟨Z,Z⟩⟩,S.fin⟩;have h1:=d0.1 (by omega);rw[List.take_of_length_le (by omega)] at hd;exact⟨h1.1,h1.2.1,h1.2.2.1,h1.2.2.2.1,t0.1,t0.2,E0.1,E0.2,D0.1,D0.2,fun t h=>ht t _ (List.getElem?_eq_getElem h) (by omega),(List.pairwise_map.1 hd).imp fun h e=>h (by rw[e])⟩
theorem p1a.named{p:j0a}(h:p1a p):S5a p:=by
 refine⟨fun c hc=>?_,fun m hm=>?_,fun t ht=>?_⟩
 ·have:=(h.cells c hc).name.2.1;omega
 ·have h1:=(h.modules m hm).name.2.1;have h2:=(h.modules m hm).owner.2.1;omega
 ·obtain⟨i,hi,rfl⟩:=List.getElem_of_mem ht;have:=(h.threads i hi).name.2.1;omega
theorem M5a(p:j0a)(M:List Nat)(w0:World)(cs:List Value)(hP:a1a M w0 p cs)(hp:p1a p)(hK:k2a M w0)(hM:∀g∈M,g<w0.heap.size):
 O0a prog 30 #[.agg cs.toArray] w0 fun v w'=>v=.tuple #[.int .i64 0,.int .i64 (-1),.int .i64 (-1)]∧Below w0.heap.size w0 w' :=
 (a4b p M w0 cs hP (p1a.named hp) hK hM).mono fun _ _ ⟨⟨a,b,c,h1,h2,h3⟩,hb⟩=>by
   obtain⟨rfl,rfl⟩:=h3 (h2.2 hp);obtain rfl:=h2.2 hp;exact⟨h1,hb⟩
def V1a(p:j0a):o1a:=⟨p.cells.map I1a.init,p.threads.map (fun t=>if t.asleep then -1 else 0),p.threads.map (fun _=>[])⟩
def u0b(mem:List Int)(e:D1a):List Int:=(e.cells.zip e.values).foldl (fun m x=>m.set x.1.toNat x.2) mem
def w6b(c:o1a)(t:Nat):List Int:=(c.buf.getD t []).foldl u0b c.mem
def F5b(s:List i1a)(v mem:List Int):List Int:=s.foldl (fun m a=>m.set a.cell.toNat (a.to.evl v v)) mem
def k6b(p:j0a)(s:List i1a)(v:List Int):D1a:=⟨(s.filter fun a=>q1a p.cells a.cell=-1).map i1a.cell,(s.filter fun a=>q1a p.cells a.cell=-1).map fun a=>a.to.evl v v⟩
def z2a(p:j0a)(model:Int)(c:o1a)(t:Nat)(s:Z0a):Bool :=
 decide (c.at_.getD t 0=s.frm)&&(decide (s.guard.evl (w6b c t) (w6b c t)=1) &&
  (if s.kind=3 then decide (model=0∨((c.buf.getD t []).length<3∧(s.release=true→c.buf.getD t []=[])))
   else if s.kind=6 then decide (c.buf.getD t []=[]∧c.at_.getD s.target.toNat 0=-1)
   else if s.kind=7 then decide (c.buf.getD t []=[]∧c.at_.getD s.target.toNat 0=(p.threads.getD s.target.toNat ⟨ByteArray.empty,0,[],[],[],[],false⟩).points-1∧c.buf.getD s.target.toNat []=[])
   else if s.kind=1∨s.kind=2 then true else decide (c.buf.getD t []=[])))
def L3d(a b:D1a):Bool:=a.cells.any fun x=>b.cells.contains x
def b8b(model:Int)(l:List D1a)(i:Nat):Bool:=decide (i=0)||(decide (model=2)&&(List.range i).all fun k=>match l[k]?,l[i]? with|some a,some b=>!L3d a b|_,_=>true)
def b3a(p:j0a)(t:Nat):List Z0a:=(p.threads.getD t ⟨ByteArray.empty,0,[],[],[],[],false⟩).steps
def n6a(p:j0a)(model:Int)(c:o1a)(t:Nat):List Y1a :=
 ((List.range (b3a p t).length).filter fun i=>match (b3a p t)[i]? with|some s=>z2a p model c t s|none=>false).map (fun(i:Nat)=>(⟨t,i,0⟩:Y1a)) ++
 ((List.range (c.buf.getD t []).length).filter (b8b model (c.buf.getD t []))).map (fun(i:Nat)=>(⟨t,-1,((c.buf.getD t []).getD i ⟨[],[]⟩).cells.getD 0 0⟩:Y1a))
def B2a(p:j0a)(model:Int)(c:o1a):List Y1a:=(List.range p.threads.length).flatMap (n6a p model c)
def atC(c:o1a)(t:Nat)(s:Z0a):List Int:=if s.kind=6 then(c.at_.set t s.to).set s.target.toNat 0 else c.at_.set t s.to
def n3c(p:j0a)(model:Int)(c:o1a)(t:Nat)(s:Z0a):o1a :=
 if s.kind=3∧model≠0 then⟨F5b (s.set.filter fun a=>q1a p.cells a.cell≠-1) (w6b c t) c.mem,atC c t s,c.buf.set t (c.buf.getD t []++[k6b p s.set (w6b c t)])⟩
 else⟨F5b s.set (w6b c t) c.mem,atC c t s,c.buf⟩
def x6b(c:o1a)(t i:Nat):o1a:=⟨u0b c.mem ((c.buf.getD t []).getD i ⟨[],[]⟩),c.at_,c.buf.set t ((c.buf.getD t []).eraseIdx i)⟩
def doC(p:j0a)(model:Int)(c:o1a)(x:Y1a):o1a :=
 if x.step=-1 then x6b c x.thread.toNat (((c.buf.getD x.thread.toNat []).findIdx? fun e=>e.cells.getD 0 0=x.cell).getD 0)
 else match (b3a p x.thread.toNat)[x.step.toNat]? with|some s=>n3c p model c x.thread.toNat s|none=>c
section
variable {α:Type} [DecidableEq α] (succ:α→List α) (a:α)
inductive P3b (succ:α→List α) (a:α):α→Prop
 | start:P3b succ a a
 | next {c d:α} (h:P3b succ a c) (hd:d∈succ c):P3b succ a d
end
theorem T6a{p:j0a}{m:Int}{c:o1a}{x:Y1a}:x∈B2a p m c↔∃t,t<p.threads.length ∧
 ((∃(i:Nat) (s:Z0a),(b3a p t)[i]?=some s∧z2a p m c t s=true∧x=⟨t,i,0⟩) ∨
  (∃i:Nat,i<(c.buf.getD t []).length∧b8b m (c.buf.getD t []) i=true∧x=⟨t,-1,((c.buf.getD t []).getD i ⟨[],[]⟩).cells.getD 0 0⟩)):=by
 unfold B2a;rw[List.mem_flatMap];constructor
 ·rintro⟨t,ht,h⟩;refine⟨t,List.mem_range.1 ht,?_⟩;unfold n6a at h;rcases List.mem_append.1 h with h|h
  ·obtain⟨i,hi,rfl⟩:=List.mem_map.1 h;obtain⟨hi,he⟩:=List.mem_filter.1 hi
   split at he
   ·rename_i s hs;exact .inl ⟨i,s,hs,he,Z⟩
   ·cases he
  ·obtain⟨i,hi,rfl⟩:=List.mem_map.1 h;obtain⟨hi,he⟩:=List.mem_filter.1 hi;exact .inr ⟨i,List.mem_range.1 hi,he,Z⟩
 ·rintro⟨t,ht,h⟩;refine⟨t,List.mem_range.2 ht,?_⟩;unfold n6a;rw[List.mem_append];rcases h with⟨i,s,hs,he,rfl⟩|⟨i,hi,he,rfl⟩
  ·refine .inl (List.mem_map.2 ⟨i,List.mem_filter.2 ⟨List.mem_range.2 (List.getElem?_eq_some_iff.1 hs).1,?_⟩,Z⟩);simp only[hs];exact he
  ·exact .inr (List.mem_map.2 ⟨i,List.mem_filter.2 ⟨List.mem_range.2 hi,he⟩,Z⟩)
theorem P3b.to{α:Type}{succ a0:α→List α}{a x:α}(hx:P3b succ a x)(h:∀c d,P3b succ a c→P3b a0 a c→d∈succ c→P3b a0 a d):P3b a0 a x:=by
 induction hx with
 | start=>exact .start
 | next hc hd ih=>exact h _ _ hc ih hd
theorem u9c{p:j0a}{m:Int}{c:o1a}{t i:Nat}{s:Z0a}(hs:(b3a p t)[i]?=some s):doC p m c ⟨t,i,0⟩=n3c p m c t s:=by
 unfold doC;rw[if_neg (by simp)];simp only[Int.toNat_natCast,hs]
theorem q5c{p:j0a}(hp:p1a p){t i:Nat}{s:Z0a}(ht:t<p.threads.length)(hs:(b3a p t)[i]?=some s):G4a p t (p.threads[t]).points s:=by
 have:=(hp.threads t ht).steps s;unfold b3a at hs;rw[List.getD_eq_getElem?_getD,List.getElem?_eq_getElem ht] at hs;exact this (List.mem_of_getElem? hs)
def K2c(e:D1a):List Int:=(e.cells.length:Int)::(e.cells.zip e.values).flatMap fun x=>[x.1,x.2]
def N1c(b:List D1a):List Int:=(b.length:Int)::b.flatMap K2c
def D1a.even(e:D1a):Prop:=e.values.length=e.cells.length
structure o1a.Shape (c:o1a) (n t:Nat):Prop where
 mem:c.mem.length=n
 at_:c.at_.length=t
 buf:c.buf.length=t
 even:∀b∈c.buf,∀e∈b,e.even
theorem i2a{e:E}{d0:Int}(h:e.good d0=true)(c0 b0:List Int):0≤e.val c0 b0∧e.val c0 b0<m2a e.w.toNat:=by
 obtain⟨a0,_⟩:=b1a h;have hw:e.w≤8:=a0.2.1;have hb:∀a,0≤f1b a (m2a e.w.toNat-1)∧f1b a (m2a e.w.toNat-1)<m2a e.w.toNat:=fun a=>by
  rw[U3a _ _];have:=m5a e.w.toNat;exact⟨Int.emod_nonneg _ (by omega),Int.emod_lt_of_pos _ this⟩
 rw[E.val_def];by_cases o1:e.op=1
 ·rw[if_pos o1];have:=(C9a o1).1 a0;omega
 ·rw[if_neg o1]
  split
  ·exact hb _
  ·split
   ·exact hb _
   ·exact hb _
theorem W4b{cells:List I1a}{c0:Bool}{e:E}(h:e.valid cells c0=true)(b0 a0:List Int):0≤e.evl b0 a0∧e.evl b0 a0<m2a e.w.toNat:=by
 obtain⟨h1,h2,_⟩:=O2a h;unfold E.evl;rw[if_pos h1];exact i2a h2 b0 a0
structure D6a (p:j0a) (m:List Int):Prop where
 len:m.length=p.cells.length
 vals:∀(i:Nat) (v:Int),m[i]?=some v→0≤v∧v<m2a (wAt p.cells i).toNat
theorem D6a.set{p:j0a}{m:List Int}(h:D6a p m){k:Nat}{v:Int}(hv:0≤v∧v<m2a (wAt p.cells k).toNat):D6a p (m.set k v):=by
 refine⟨by rw[List.length_set];exact h.len,fun i x hi=>?_⟩;rw[List.getElem?_set] at hi
 split at hi
 ·rename_i hk;subst hk
  split at hi
  ·cases hi;exact hv
  ·cases hi
 ·exact h.vals i x hi
structure A6b (p:j0a) (e:D1a):Prop where
 some_:e.cells≠[]
 even:e.even
 cells:∀(i:Nat) (n:Int),e.cells[i]?=some n→K1a n p.cells.length∧q1a p.cells n=-1∧W7a p.cells n=decide (0<i)
 vals:∀x∈e.cells.zip e.values,0≤x.2∧x.2<m2a (wAt p.cells x.1).toNat
 once:e.cells.Nodup
theorem D6a.write{p:j0a}{m:List Int}(h:D6a p m){e:D1a}(he:A6b p e):D6a p (u0b m e):=by
 unfold u0b;have key:∀(l:List (Int×Int)) (m:List Int),D6a p m→(∀x∈l,0≤x.1∧0≤x.2∧x.2<m2a (wAt p.cells x.1).toNat)→D6a p (l.foldl (fun m x=>m.set x.1.toNat x.2) m):=by
  intro l
  induction l with
  | nil=>intro m h _;exact h
  | cons x l ih =>
    intro m h hl;rw[List.foldl_cons];obtain⟨h0,h1⟩:=hl x (by simp);exact ih _ (h.set (by rw[Int.toNat_of_nonneg h0];exact h1)) fun y hy=>hl y (by simp[hy])
 refine key _ m h fun x hx=>?_;have b0:=List.of_mem_zip (a:=x.1) (b:=x.2) hx;obtain⟨i,hi,a0⟩:=List.getElem_of_mem b0.1;have:=he.cells i x.1 (by rw[List.getElem?_eq_getElem hi,a0]);exact⟨this.1.1,he.vals x hx⟩
theorem U1d{p:j0a}{t:Nat}{n:Int}{s:Z0a}(hs:G4a p t n s)(hk:s.kind=3)(v:List Int):A6b p (k6b p s.set v):=by
 obtain⟨a,l,b0,c0,d0,hl⟩:=hs.row.k3 hk;have hf:(s.set.filter fun a=>q1a p.cells a.cell=-1)=a::l.filter fun a=>q1a p.cells a.cell=-1:=by
  rw[b0,List.filter_cons_of_pos (by simp[c0])]
 have a0:∀b∈s.set.filter fun a=>q1a p.cells a.cell=-1,b∈s.set∧q1a p.cells b.cell=-1:=fun b hb=>by
  obtain⟨h1,h2⟩:=List.mem_filter.1 hb;exact⟨h1,by simpa using h2⟩
 refine⟨?_,?_,fun i x hi=>?_,fun x hx=>?_,?_⟩
 ·unfold k6b;rw[hf];simp
 ·unfold k6b D1a.even;simp
 ·unfold k6b at hi;simp only[List.getElem?_map,Option.map_eq_some_iff] at hi;obtain⟨b,hb,rfl⟩:=hi;obtain⟨h1,h2⟩:=a0 b (List.mem_of_getElem? hb);refine⟨(hs.set b h1).1,h2,?_⟩;rw[hf] at hb;cases i with
  | zero=>simp at hb;subst hb;simpa using d0
  | succ i =>
    rw[List.getElem?_cons_succ] at hb;have:=hl b (List.mem_filter.1 (List.mem_of_getElem? hb)).1;rw[this];simp
 ·unfold k6b at hx;simp only[List.zip_map'] at hx;obtain⟨b,hb,rfl⟩:=List.mem_map.1 hx;obtain⟨h1,h2⟩:=a0 b hb;obtain⟨_,h3,h4⟩:=hs.set b h1;have:=W4b h3 v v;rw[h4] at this;exact this
 ·unfold k6b List.Nodup;simp only;rw[List.pairwise_map];exact hs.once.filter _
theorem D6a.sets{p:j0a}{v:List Int}:∀(l:List i1a) (m:List Int),D6a p m→(∀a∈l,K1a a.cell p.cells.length∧a.to.valid p.cells false=true∧a.to.w=wAt p.cells a.cell)→D6a p (F5b l v m)
 | [],_,h,_=>h
 | a::l,m,h,hl=>by
   obtain⟨h1,h2,h3⟩:=hl a (by simp);have hr:=W4b h2 v v;rw[h3] at hr;exact D6a.sets l _ (h.set (by rw[Int.toNat_of_nonneg h1.1];exact hr)) fun b hb=>hl b (by simp[hb])
structure g1b (p:j0a) (c:o1a):Prop where
 mem:D6a p c.mem
 nat:c.at_.length=p.threads.length
 atr:∀(t:Nat) (x:Int),c.at_[t]?=some x→∀th,p.threads[t]?=some th→-1≤x∧x<th.points∧(x=-1→th.asleep=true)
 nbuf:c.buf.length=p.threads.length
 bufs:∀(t:Nat) (b:List D1a),c.buf[t]?=some b→b.length≤3∧(∀e∈b,A6b p e)∧(c.at_[t]?=some (-1)→b=[])
theorem Y0b{p:j0a}(hp:p1a p):g1b p (V1a p):=by
 refine⟨⟨by simp[V1a],fun i v hi=>?_⟩,by simp[V1a],fun t x hx th a0=>?_,by simp[V1a],fun t b hb=>?_⟩
 ·simp only[V1a,List.getElem?_map,Option.map_eq_some_iff] at hi;obtain⟨c,hc,rfl⟩:=hi;have h:=(hp.cells c (List.mem_of_getElem? hc)).init;have hw:wAt p.cells i=c.w:=by unfold wAt;simp[hc]
  rw[hw];exact h
 ·simp only[V1a,List.getElem?_map,a0,Option.map_some,Option.some.injEq] at hx;have b0:=(List.getElem?_eq_some_iff.1 a0).1;have he:=(List.getElem?_eq_some_iff.1 a0).2;have h:=(hp.threads t b0).points;rw[he] at h;subst hx;cases ha:th.asleep with
  | true=>simp;omega
  | false=>simp;omega
 ·simp only[V1a,List.getElem?_map,Option.map_eq_some_iff] at hb;obtain⟨_,_,rfl⟩:=hb;simp
theorem s7b{c:o1a}{t:Nat}{s:Z0a}{u:Nat}{x:Int}(h:(atC c t s)[u]?=some x):(u≠t∧c.at_[u]?=some x)∨(u=t∧x=s.to)∨(s.kind=6∧u=s.target.toNat∧x=0):=by
 have key:∀x,(c.at_.set t s.to)[u]?=some x→(u≠t∧c.at_[u]?=some x)∨(u=t∧x=s.to):=fun x h=>by
  rw[List.getElem?_set] at h
  split at h
  ·rename_i hh
   split at h
   ·cases h;exact .inr ⟨hh.symm,Z⟩
   ·cases h
  ·rename_i hh;exact .inl ⟨fun e=>hh e.symm,h⟩
 unfold atC at h
 split at h
 ·rename_i hk;rw[List.getElem?_set] at h
  split at h
  ·rename_i hh
   split at h
   ·cases h;exact .inr (.inr ⟨hk,hh.symm,Z⟩)
   ·cases h
  ·rcases key x h with h|h
   ·exact .inl h
   ·exact .inr (.inl h)
 ·rcases key x h with h|h
  ·exact .inl h
  ·exact .inr (.inl h)
theorem T3b(c:o1a)(t:Nat)(s:Z0a):(atC c t s).length=c.at_.length:=by
 unfold atC;split<;>simp
theorem M2b{p:j0a}(hp:p1a p){t:Nat}{th:s1a}(h:p.threads[t]?=some th):1≤th.points:=by
 obtain⟨a0,rfl⟩:=List.getElem?_eq_some_iff.1 h;exact(hp.threads t a0).points.1
theorem R5c{p:j0a}(hp:p1a p){c:o1a}(hf:g1b p c){t:Nat}{s:Z0a}(ht:t<p.threads.length)(hs:G4a p t (p.threads[t]).points s):
 ∀(u:Nat) (x:Int),(atC c t s)[u]?=some x→∀th,p.threads[u]?=some th→-1≤x∧x<th.points∧(x=-1→th.asleep=true):=by
 intro u x hx th a0;rcases s7b hx with⟨_,h⟩|⟨rfl,rfl⟩|⟨_,_,rfl⟩
 ·exact hf.atr u x h th a0
 ·obtain⟨_,rfl⟩:=List.getElem?_eq_some_iff.1 a0;have:=hs.to;omega
 ·have:=M2b hp a0;omega
theorem z4c{p:j0a}(hp:p1a p){m:Int}{c:o1a}(hf:g1b p c){t i:Nat}{s:Z0a}(ht:t<p.threads.length)(hs:(b3a p t)[i]?=some s)(he:z2a p m c t s=true):g1b p (n3c p m c t s):=by
 have hok:=q5c hp ht hs;have a0:∀u b,c.buf[u]?=some b→(atC c t s)[u]?=some (-1)→b=[]:=fun u b hb hu=>by
  rcases s7b hu with⟨_,h⟩|⟨rfl,h⟩|⟨_,_,h⟩
  ·exact(hf.bufs u b hb).2.2 h
  ·have:=hok.to;omega
  ·omega
 unfold n3c
 split
 ·rename_i hk;have c0:(c.buf.getD t []).length<3:=by
   unfold z2a at he;simp only[Bool.and_eq_true,if_pos hk.1,decide_eq_true_eq] at he;rcases he.2.2 with h|h
   ·exact absurd h hk.2
   ·exact h.1
  have d0:t<c.buf.length:=by rw[hf.nbuf];exact ht
  have hb:=hf.bufs t (c.buf.getD t []) (by rw[List.getD_eq_getElem?_getD,List.getElem?_eq_getElem d0];rfl);refine⟨D6a.sets _ _ hf.mem (fun a ha=>hok.set a (List.mem_filter.1 ha).1),by simp only[T3b];exact hf.nat,R5c hp hf ht hok,by simp only[List.length_set];exact hf.nbuf,fun u b hu=>?_⟩;simp only[List.getElem?_set] at hu
  split at hu
  ·rename_i e0;subst e0;cases hu;refine⟨by rw[List.length_append,List.length_singleton];omega,fun e b0=>?_,fun hu=>?_⟩
   ·rcases List.mem_append.1 b0 with h|h
    ·exact hb.2.1 e h
    ·rw[List.mem_singleton.1 h];exact U1d hok hk.1 _
   ·exfalso;rcases s7b hu with⟨h,_⟩|⟨_,h⟩|⟨_,_,h⟩
    ·exact h Z
    ·have:=hok.to;omega
    ·omega
  ·exact⟨(hf.bufs u b hu).1,(hf.bufs u b hu).2.1,a0 u b hu⟩
 ·exact⟨D6a.sets _ _ hf.mem (fun a ha=>hok.set a ha),by simp only[T3b];exact hf.nat,R5c hp hf ht hok,hf.nbuf,fun u b hu=>⟨(hf.bufs u b hu).1,(hf.bufs u b hu).2.1,a0 u b hu⟩⟩
theorem u9b{p:j0a}{c:o1a}(hf:g1b p c)(t i:Nat):g1b p (x6b c t i):=by
 unfold x6b;refine⟨?_,hf.nat,hf.atr,by simp only[List.length_set];exact hf.nbuf,fun u b hu=>?_⟩
 ·by_cases a0:t<c.buf.length
  ·have hb:=hf.bufs t (c.buf.getD t []) (by rw[List.getD_eq_getElem?_getD,List.getElem?_eq_getElem a0];rfl);by_cases hi:i<(c.buf.getD t []).length
   ·rw[List.getD_eq_getElem?_getD (i:=i),List.getElem?_eq_getElem hi];exact hf.mem.write (hb.2.1 _ (List.getElem_mem hi))
   ·rw[List.getD_eq_getElem?_getD (i:=i),List.getElem?_eq_none (by omega)];exact hf.mem
  ·have h0:c.buf.getD t []=[]:=by rw[List.getD_eq_getElem?_getD,List.getElem?_eq_none (by omega)];rfl
   rw[h0];exact hf.mem
 ·simp only[List.getElem?_set] at hu
  split at hu
  ·rename_i b0;subst b0
   split at hu
   ·rename_i a0;cases hu;have hb:=hf.bufs t (c.buf.getD t []) (by rw[List.getD_eq_getElem?_getD,List.getElem?_eq_getElem a0];rfl);refine⟨Nat.le_trans (List.length_eraseIdx_le _ _) hb.1,fun e he=>hb.2.1 e (List.mem_of_mem_eraseIdx he),fun h=>?_⟩;rw[hb.2.2 h];rfl
   ·cases hu
  ·exact hf.bufs u b hu
theorem p6c{p:j0a}(hp:p1a p){m:Int}{c:o1a}(hf:g1b p c){x:Y1a}(hx:x∈B2a p m c):g1b p (doC p m c x):=by
 obtain⟨_,ht,h|h⟩:=T6a.1 hx
 ·obtain⟨i,_,hs,he,rfl⟩:=h;rw[u9c hs];exact z4c hp hf ht hs he
 ·obtain⟨i,_,he,rfl⟩:=h;unfold doC;rw[if_pos rfl];exact u9b hf _ _
theorem g1b.shape{p:j0a}{c:o1a}(hf:g1b p c):c.Shape p.cells.length p.threads.length :=
 ⟨hf.mem.len,hf.nat,hf.nbuf,fun b hb e he=>by
  obtain⟨t,ht,rfl⟩:=List.getElem_of_mem hb;exact((hf.bufs t _ (List.getElem?_eq_getElem ht)).2.1 e he).even⟩
theorem k7a:∀(n:Nat) (l:List Int),l.Nodup→(∀x∈l,0≤x∧x<n)→l.length≤n
 | 0,l,_,h=>by
   cases l with
   | nil=>simp
   | cons x l=>have:=h x (by simp);omega
 | n+1,l,hd,h=>by
   by_cases hn:(n:Int)∈l
   ·have h1:=k7a n (l.erase (n:Int)) (hd.erase _) (fun x hx=>by
     obtain⟨_,h3⟩:=(hd.mem_erase_iff).1 hx;have:=h x h3;omega)
    rw[List.length_erase_of_mem hn] at h1;omega
   ·have h1:=k7a n l hd (fun x hx=>by
     have:=h x hx;have:x≠(n:Int):=fun e=>hn (e▸hx);omega)
    omega
theorem A6b.len{p:j0a}{e:D1a}(h:A6b p e):e.cells.length≤p.cells.length :=
 k7a _ _ h.once fun x hx=>by
  obtain⟨i,hi,rfl⟩:=List.getElem_of_mem hx;exact(h.cells i _ (List.getElem?_eq_getElem hi)).1
theorem H1d{p:j0a}(hp:p1a p)(x:Int):wAt p.cells x≤8:=by
 unfold wAt
 split
 ·cases h:p.cells[x.toNat]? with
  | none=>simp
  | some c=>simpa using(hp.cells c (List.mem_of_getElem? h)).w.2
 ·omega
theorem v3c{p:j0a}(hp:p1a p)(x:Int):m2a (wAt p.cells x).toNat≤256:=by
 have h:=H1d hp x;have h2:(2:Nat) ^ (wAt p.cells x).toNat≤2 ^ 8:=Nat.pow_le_pow_right (by omega) (by omega);rw[X2a];omega
theorem X8b{p:j0a}(hp:p1a p){c:o1a}(hf:g1b p c):(∀x∈c.mem,0≤x∧x≤255)∧(∀x∈c.at_,-1≤x∧x≤47)∧∀x∈c.buf.flatMap N1c,0≤x∧x≤255:=by
 refine⟨fun x hx=>?_,fun x hx=>?_,fun x hx=>?_⟩
 ·obtain⟨i,hi,rfl⟩:=List.getElem_of_mem hx;have:=hf.mem.vals i _ (List.getElem?_eq_getElem hi);have:=v3c hp i;omega
 ·obtain⟨t,ht,rfl⟩:=List.getElem_of_mem hx;have a0:t<p.threads.length:=by rw[←hf.nat];exact ht
  have h1:=hf.atr t _ (List.getElem?_eq_getElem ht) _ (List.getElem?_eq_getElem a0);have h2:=(hp.threads t a0).points;omega
 ·obtain⟨b,hb,hx⟩:=List.mem_flatMap.1 hx;obtain⟨t,ht,rfl⟩:=List.getElem_of_mem hb;obtain⟨h1,h2,_⟩:=hf.bufs t _ (List.getElem?_eq_getElem ht);unfold N1c at hx;rcases List.mem_cons.1 hx with rfl|hx
  ·omega
  ·obtain⟨e,he,hx⟩:=List.mem_flatMap.1 hx;have hE:=h2 e he;unfold K2c at hx;rcases List.mem_cons.1 hx with rfl|hx
   ·have:=hE.len;have:=hp.ncells;omega
   ·obtain⟨y,hy,hx⟩:=List.mem_flatMap.1 hx;have h3:=hE.vals y hy;have h4:=v3c hp y.1;obtain⟨i,hi,b0⟩:=List.getElem_of_mem (List.of_mem_zip (a:=y.1) (b:=y.2) hy).1;have h5:=(hE.cells i y.1 (by rw[List.getElem?_eq_getElem hi,b0])).1;have h6:=hp.ncells;obtain⟨_,_⟩:=h5;simp only[List.mem_cons,List.not_mem_nil,or_false] at hx;rcases hx with rfl|rfl<;>omega
section
variable {M:List Nat} {w:World}
theorem Q1a.open_{c:o1a}{cs:List Value}(h:Q1a M w c cs):∃Am nm cm Aa na ca Ab nb cb,cs=[.slice Am nm cm,.slice Aa na ca,.slice Ab nb cb] ∧
 RdI M w (.slice Am nm cm) c.mem∧RdI M w (.slice Aa na ca) c.at_∧s3d M w (.slice Ab nb cb) c.buf ∧
 nm=c.mem.length∧na=c.at_.length∧nb=c.buf.length∧nm≤140737488355328∧na≤140737488355328∧nb≤140737488355328:=by
 obtain⟨_,_,_,rfl,h1,h2,h3⟩:=h;obtain⟨Am,nm,cm,rfl⟩:=h1.form;obtain⟨Aa,na,ca,rfl⟩:=h2.form;obtain⟨Ab,nb,cb,rfl⟩:=h3.form;exact⟨_,_,_,_,_,_,_,_,_,Z,h1,h2,h3,h1.len.1,h2.len.1,h3.len.1,h1.len.2.2,h2.len.2.2,h3.len.2.2⟩
theorem P4b.open_{b:List D1a}{cs:List Value}(h:P4b M w cs b):∃A n c,cs=[.slice A n c]∧G3d M w (.slice A n c) b∧n=b.length∧n≤140737488355328:=by
 obtain⟨_,rfl,h1⟩:=h;obtain⟨A,n,c,rfl⟩:=h1.form;exact⟨_,_,_,Z,h1,h1.len.1,h1.len.2.2⟩
theorem V2a.open_{e:D1a}{cs:List Value}(h:V2a M w cs e):∃Ac nc cc Av nv cv,cs=[.slice Ac nc cc,.slice Av nv cv]∧RdI M w (.slice Ac nc cc) e.cells∧RdI M w (.slice Av nv cv) e.values∧nc=e.cells.length∧nv=e.values.length∧nc≤140737488355328∧nv≤140737488355328:=by
 obtain⟨_,_,rfl,h1,h2⟩:=h;obtain⟨Ac,nc,cc,rfl⟩:=h1.form;obtain⟨Av,nv,cv,rfl⟩:=h2.form;exact⟨_,_,_,_,_,_,Z,h1,h2,h1.len.1,h2.len.1,h1.len.2.2,h2.len.2.2⟩
end
theorem w4d{cells:List I1a}{k:Nat}{c:I1a}(h:cells[k]?=some c):wAt cells (k:Int)=c.w:=S4a (by simpa using h)
structure InP (p:j0a) (M:List Nat) (w:World) (cs:List Value):Prop where
 rd:a1a M w p cs
 ok:p1a p
 msk:k2a M w
 lt:∀g∈M,g<w.heap.size
theorem InP.keep{p:j0a}{M:List Nat}{w w':World}{cs:List Value}(h:InP p M w cs)(hk:y0a M w w'):InP p M w' cs :=
 ⟨h.rd.keep hk,h.ok,h.msk.keep hk,fun g hg=>Nat.lt_of_lt_of_le (h.lt g hg) hk.size⟩
theorem o5a{w0 w:World}{L:List Ent}{g t k:Nat}{cs:List Value}{M:List Nat}(S:St [] w0 w L)(hk:L[k]?=some (some g,t,cs)):∀x∈g::M,x∈M∨w0.heap.size≤x:=fun x hx=>by
 rcases List.mem_cons.1 hx with rfl|h
 ·rcases S.new k hk with h|h
  ·exact .inr h
  ·cases h
 ·exact .inl h
theorem InP.add{p:j0a}{M:List Nat}{w0 w:World}{cs:List Value}(h:InP p M w0 cs){L:List Ent}{g t k:Nat}{a0:List Value}(S:St [] w0 w L)(hk:L[k]?=some (some g,t,a0)):InP p (g::M) w cs :=
 ⟨(h.rd.more (o5a S hk)).keep (S.keep0 _),h.ok,(h.msk.more (o5a S hk)).keep (S.keep0 _),fun x hx=>by
   rcases List.mem_cons.1 hx with rfl|hx
   ·exact S.lt k hk
   ·exact Nat.lt_of_lt_of_le (h.lt x hx) S.size⟩
theorem Q1a.add{c:o1a}{M:List Nat}{w0 w:World}{cs:List Value}(h:Q1a M w0 c cs){L:List Ent}{g t k:Nat}{a0:List Value}(S:St [] w0 w L)(hk:L[k]?=some (some g,t,a0)):Q1a (g::M) w c cs :=
 (h.more (o5a S hk)).keep (S.keep0 _)
def RU8(cs:List Value)(n:Int):Prop:=cs=[.int .u8 n]∧0≤n∧n≤255
abbrev h4d(M:List Nat)(w:World)(v:Value)(l:List Int):Prop:=RdS M w 1 RU8 v l
section
variable {H:Type} {enc:TypeId×Value→H} {P:Program} {W:World} {base:Nat} {sp:Nat→Bool} {held:Bool}
def x3a(P:Program)(t:TypeId)(d:DataW H):Prop:=∀m∈d.weights P t,m≤reachBytes
theorem C3a{n:Int}(h:(Lit.int .i64 n).wf=true):i64 n:=by
 simp[Lit.wf,IntKind.min,IntKind.max,IntKind.signed,IntKind.bits] at h;exact h
theorem E2c{a:Addr}{v:Value}(h:W.cell? a=some v):a=⟨a.block,a.off,none⟩:=by
 obtain⟨_,_,s⟩:=a;cases s with
 | none=>rfl
 | some x=>unfold World.cell? at h;split at h<;>simp at h
theorem L4b{e:TypeId}{l:List (DataW H)}{i:Nat}{d:DataW H}(hi:l[i]?=some d):∀m∈d.weights P e,m∈DataW.weightsAll P e l:=by
 induction l generalizing i with
 | nil=>simp at hi
 | cons x xs ih =>
   intro m hm;rw[DataW.weightsAll];cases i with
   | zero=>simp at hi;subst hi;exact List.mem_append_left _ hm
   | succ i=>exact List.mem_append_right _ (ih (by simpa using hi) m hm)
theorem P2a{α:Type}{size t e:Nat}{fuel:Nat}{R:List Value→α→Prop}{v:Value}{x:DataW H×List MemPlace}(ht:P.underlying t=some (.slice e))(hc:P.cellsOf e=size)(m0:1≤P.bytesOf e)
 (n0:∀(n:Nat) (cs:List Value) (y:DataW H×List MemPlace),n<fuel→cs.length=size→DataW.trod enc P W base sp held n e cs=some y→x3a P e y.1→∃a,R cs a)
 (h:DataW.trod enc P W base sp held fuel t [v]=some x) (hw:x3a P t x.1) (hs:0<size:=by omega):∃l,RdS [] W size R v l:=by
 rcases DataW.trod_slice ht h with⟨h1,h2⟩|⟨a,len,f0,b0,rest,n,hf,h1,h2,hb,hl,hm,q0,e0,-,-⟩
 ·cases h1;exact⟨[],none,0,0,Z,Z,Nat.le_refl _,by unfold maxLen;omega,by omega,fun h=>absurd h (by omega)⟩
 ·cases h1;have j0:x3a P t (.slice (b0.map (·.1)) (rest.map (·.1))):=by rw[h2] at hw;exact hw
  have d0:len≤140737488355328:=by
   have:=j0 ((b0.length+rest.length)*P.bytesOf e) (by rw[DataW.weights,ht];simp);have h3:len*1≤(b0.length+rest.length)*P.bytesOf e:=Nat.mul_le_mul (by omega) m0;unfold reachBytes at this;omega
  have each:∀i,i<len→∃cs q,cs.length=size∧R cs q∧∀j,j<size→W.cell? ((a.add (i*size)).add j)=cs[j]?:=by
   intro i hi;have hg:=e0 i hi;have i0:i<b0.length:=by omega
   rw[List.getElem?_eq_getElem i0,Option.bind_eq_some_iff] at hg;obtain⟨cs,g0,s0⟩:=hg;rw[hc] at g0;obtain⟨-,c0,a0⟩:=World.cells?_some g0;obtain⟨q,hq⟩:=n0 n cs _ (by omega) c0 s0 (fun m r0=>by
    refine j0 m ?_;rw[DataW.weights,ht];refine List.mem_cons_of_mem _ (List.mem_append_left _ (L4b (i:=i) ?_ m r0));rw[List.getElem?_map,List.getElem?_eq_getElem i0];rfl)
   exact⟨cs,q,c0,hq,a0⟩
  by_cases h0:len=0
  ·subst h0;exact⟨[],some a,0,f0,Z,Z,hl,hm,by omega,fun h=>absurd h (by omega)⟩
  ·have ha:a=⟨a.block,a.off,none⟩:=by
    obtain⟨cs,q,c0,_,a0⟩:=each 0 (by omega);have:=a0 0 (by omega);rw[List.getElem?_eq_getElem (by omega)] at this;simp only[Nat.zero_mul,Addr.add_zero'] at this;exact E2c this
   let f:Fin len→α:=fun i=>Classical.choose (Classical.choose_spec (each i.1 i.2))
   have o0:∀i:Fin len,∃cs:List Value,cs.length=size∧R cs (f i)∧∀j,j<size→W.cell? ((a.add (i.1*size)).add j)=cs[j]?:=fun i =>
    ⟨Classical.choose (each i.1 i.2),Classical.choose_spec (Classical.choose_spec (each i.1 i.2))⟩
   refine⟨List.ofFn f,some a,len,f0,Z,by simp,hl,hm,d0,fun _=>⟨a.block,a.off,by rw[←ha],by simp,fun i x hx=>?_⟩⟩;have hi:i<len:=by have:=(List.getElem?_eq_some_iff.1 hx).1;simpa using this
   have t0:x=f ⟨i,hi⟩:=by
    rw[List.getElem?_eq_getElem (by simpa using hi)] at hx;simp at hx;exact hx.symm
   obtain⟨cs,c0,hR,a0⟩:=o0 ⟨i,hi⟩;refine⟨cs,c0,fun j u hj=>?_,by rw[t0];exact hR⟩;have p0:j<size:=by have:=(List.getElem?_eq_some_iff.1 hj).1;omega
   have:=a0 j p0;rw[hj] at this;rw[ha] at this;rw[Addr.add_lit,Addr.add_lit] at this;exact this
theorem W3b{t:TypeId}{fs:Array Field}{xs:List (DataW H×List MemPlace)}{i:Nat}{f:Field}{y:DataW H×List MemPlace}(ht:P.underlying t=some (.struct fs))(hw:x3a P t (.agg (xs.map (·.1))))(hf:fs[i]?=some f)(hy:xs[i]?=some y):x3a P f.type y.1:=fun m hm=>by
 refine hw m ?_;rw[DataW.weights,ht];refine DataW.weights_mem_each (j:=i) (t:=f.type) (d:=y.1) ?_ ?_ m hm
 ·rw[List.getElem?_map];simp[hf]
 ·rw[List.getElem?_map,hy];rfl
theorem i4d{l:List Value}(h:l.length=4):∃a0 a1 a2 a3,l=[a0,a1,a2,a3]:=by
 match l,h with
 | [a0,a1,a2,a3],_=>exact⟨a0,a1,a2,a3,Z⟩
theorem y4d{l:List Value}(h:l.length=5):∃a0 a1 a2 a3 a4,l=[a0,a1,a2,a3,a4]:=by
 match l,h with
 | [a0,a1,a2,a3,a4],_=>exact⟨a0,a1,a2,a3,a4,Z⟩
theorem U3d{l:List Value}(h:l.length=6):∃a0 a1 a2 a3 a4 a5,l=[a0,a1,a2,a3,a4,a5]:=by
 match l,h with
 | [a0,a1,a2,a3,a4,a5],_=>exact⟨a0,a1,a2,a3,a4,a5,Z⟩
theorem x4d{l:List Value}(h:l.length=7):∃a0 a1 a2 a3 a4 a5 a6,l=[a0,a1,a2,a3,a4,a5,a6]:=by
 match l,h with
 | [a0,a1,a2,a3,a4,a5,a6],_=>exact⟨a0,a1,a2,a3,a4,a5,a6,Z⟩
theorem L0d{l:List Value}(h:l.length=11):∃a0 a1 a2 a3 a4 a5 a6 a7 a8 a9 b0,l=[a0,a1,a2,a3,a4,a5,a6,a7,a8,a9,b0]:=by
 match l,h with
 | [a0,a1,a2,a3,a4,a5,a6,a7,a8,a9,b0],_=>exact⟨a0,a1,a2,a3,a4,a5,a6,a7,a8,a9,b0,Z⟩
theorem S0a{t:TypeId}{fs:Array Field}{cs:List Value}{xs:List (DataW H×List MemPlace)}{n:Nat}(i ty d0:Nat)(c0:xs.length=fs.size)(b0:∀(i:Nat) (f:Field),fs[i]?=some f→DataW.trod enc P W base sp held n f.type ((cs.drop f.offset).take (P.cellsOf f.type))=xs[i]?)(ht:P.underlying t=some (.struct fs))(hw:x3a P t (.agg (xs.map (·.1))))(hf:(fs[i]?).map (fun f=>(f.type,f.offset))=some (ty,d0)):
 ∃y,DataW.trod enc P W base sp held n ty ((cs.drop d0).take (P.cellsOf ty))=some y∧x3a P ty y.1:=by
 cases a0:fs[i]? with
 | none=>rw[a0] at hf;cases hf
 | some f =>
   rw[a0] at hf;simp only[Option.map_some,Option.some.injEq,Prod.mk.injEq] at hf;obtain⟨rfl,rfl⟩:=hf;have hi:i<xs.length:=by rw[c0];exact(Array.getElem?_eq_some_iff.1 a0).1
   exact⟨xs[i],by rw[b0 i f a0,List.getElem?_eq_getElem hi],W3b ht hw a0 (List.getElem?_eq_getElem hi)⟩
end
section
variable {H:Type} {enc:TypeId×Value→H} {W:World} {base:Nat} {sp:Nat→Bool} {held:Bool}
theorem z3d{n:Int}(h:(Lit.int .u8 n).wf=true):0≤n∧n≤255:=by simpa[Lit.wf,IntKind.min,IntKind.max,IntKind.signed,IntKind.bits] using h
theorem A7b{t:TypeId}{s:ByteArray}{y:DataW H×List MemPlace}(hx:y=(.lit (.string s.data.toList),[]))(hw:x3a prog t y.1):s.size≤140737488355328:=by
 have h:=hw s.data.toList.length (by rw[hx];exact List.mem_singleton.2 Z);have e:s.data.toList.length=s.size:=Array.length_toList;unfold reachBytes at h;omega
theorem r7b{α:Type}{M:List Nat}{w:World}{size:Nat}{R:List Value→α→Prop}{Q:α→Prop}{v:Value}{l:List α}(h:RdS M w size R v l)(hq:∀cs x,R cs x→Q x):∀x∈l,Q x:=fun x hx=>by
 obtain⟨_,_,_,rfl⟩:=h.form;obtain⟨i,hi⟩:=List.mem_iff_getElem?.1 hx;obtain⟨_,_,_,cs,h1,-,-,-,-,h2⟩:=RdS.get h i (List.getElem?_eq_some_iff.1 hi).1;rw[hi] at h1;cases h1;exact hq _ _ h2
theorem c2b:prog.cellsOf 3=1:=by kernel_rfl
theorem i6b:prog.cellsOf 4=1:=by kernel_rfl
theorem Z9a:prog.cellsOf 9=1:=by kernel_rfl
theorem c3:prog.cellsOf 3=1:=by kernel_rfl
theorem B2d:prog.cellsOf 36=1:=by kernel_rfl
theorem X9c:prog.cellsOf 38=4:=by kernel_rfl
theorem E2d:1≤prog.bytesOf 38:=of_decide_eq_true (by kernel_rfl)
theorem p4d:1≤prog.bytesOf 3:=of_decide_eq_true (by kernel_rfl)
theorem n4a:∀(fuel:Nat) (cs:List Value) (x:DataW H×List MemPlace),DataW.trod enc prog W base sp held fuel 38 cs=some x→x3a prog 38 x.1→∃e,RdE [] W e cs:=by
 intro fuel
 induction fuel using Nat.strongRecOn with
 | _ fuel ih =>
 intro cs x h hw;obtain⟨_,_,_,hx,hl,b0,a0⟩:=DataW.trod_struct Tryz.underlying38 h;rw[hx] at hw;rw[X9c] at hl;obtain⟨_,t0,-⟩:=S0a 0 3 0 b0 a0 Tryz.underlying38 hw Z;obtain⟨_,t1,-⟩:=S0a 1 3 1 b0 a0 Tryz.underlying38 hw Z;obtain⟨_,t2,-⟩:=S0a 2 3 2 b0 a0 Tryz.underlying38 hw Z;obtain⟨_,t3,w3⟩:=S0a 3 36 3 b0 a0 Tryz.underlying38 hw Z;simp only[c3,B2d] at t0 t1 t2 t3;obtain⟨_,_,_,_,rfl⟩:=i4d hl;simp only[List.drop_succ_cons,List.drop_zero,List.take_succ_cons,List.take_zero] at t0 t1 t2 t3;obtain⟨m0,e0,-,f0⟩:=DataW.trod_int Tryz.underlying3 t0;obtain⟨m1,e1,-,f1⟩:=DataW.trod_int Tryz.underlying3 t1;obtain⟨m2,e2,-,f2⟩:=DataW.trod_int Tryz.underlying3 t2;cases e0;cases e1;cases e2;obtain⟨ks,n0⟩:=P2a (R:=fun cs e=>RdE [] W e cs) Tryz.underlying36 X9c E2d (fun k cs y hk _ hy hl=>ih k (by omega) cs y hy hl) t3 w3;obtain⟨A,k,c,rfl,hk,j0,i0,c0,d0⟩:=n0;refine⟨⟨m0,m1,m2,ks⟩,?_⟩;rw[RdE];refine⟨A,k,c,Z,C3a f0,C3a f1,C3a f2,hk,j0,i0,c0,fun h0=>?_⟩;obtain⟨b,o,hA,hb,d0⟩:=d0 h0;refine⟨b,o,hA,hb,fun i hi=>?_⟩;obtain⟨g0,-,hc,hr⟩:=d0 i ks[i] (List.getElem?_eq_getElem hi);exact⟨g0,hc,hr⟩
theorem z8a{fuel:Nat}{v:Value}{x:DataW H×List MemPlace}(h:DataW.trod enc prog W base sp held fuel 48 [v]=some x)(hw:x3a prog 48 x.1):∃l,RdI [] W v l :=
 P2a Tryz.underlying48 c3 p4d (fun n cs y _ _ hy _=>by
  obtain⟨m,e,-,f⟩:=DataW.trod_int Tryz.underlying3 hy;exact⟨m,e,C3a f⟩) h hw
theorem i9b{fuel:Nat}{v:Value}{x:DataW H×List MemPlace}(h:DataW.trod enc prog W base sp held fuel 36 [v]=some x)(hw:x3a prog 36 x.1):∃l,f3d [] W v l :=
 P2a Tryz.underlying36 X9c E2d (fun n cs y _ _ hy hl=>n4a n cs y hy hl) h hw
theorem t4a:prog.cellsOf 82=6:=by kernel_rfl
theorem x0c{fuel:Nat}{cs:List Value}{x:DataW H×List MemPlace}(h:DataW.trod enc prog W base sp held fuel 82 cs=some x)(hw:x3a prog 82 x.1):∃c,U2a cs c∧c.name.size≤140737488355328:=by
 obtain⟨_,_,_,hx,hl,b0,a0⟩:=DataW.trod_struct Tryz.underlying82 h;rw[hx] at hw;rw[t4a] at hl;obtain⟨_,t0,w0⟩:=S0a 0 9 0 b0 a0 Tryz.underlying82 hw Z;obtain⟨_,t1,-⟩:=S0a 1 3 1 b0 a0 Tryz.underlying82 hw Z;obtain⟨_,t2,-⟩:=S0a 2 3 2 b0 a0 Tryz.underlying82 hw Z;obtain⟨_,t3,-⟩:=S0a 3 3 3 b0 a0 Tryz.underlying82 hw Z;obtain⟨_,t4,-⟩:=S0a 4 4 4 b0 a0 Tryz.underlying82 hw Z;obtain⟨_,t5,-⟩:=S0a 5 3 5 b0 a0 Tryz.underlying82 hw Z;simp only[Z9a,c2b,i6b] at t0 t1 t2 t3 t4 t5;obtain⟨_,_,_,_,_,_,rfl⟩:=U3d hl;simp only[List.drop_succ_cons,List.drop_zero,List.take_succ_cons,List.take_zero] at t0 t1 t2 t3 t4 t5;obtain⟨m0,e0,s0,-⟩:=DataW.trod_string Tryz.underlying9 t0;obtain⟨m1,e1,-,f1⟩:=DataW.trod_int Tryz.underlying3 t1;obtain⟨m2,e2,-,f2⟩:=DataW.trod_int Tryz.underlying3 t2;obtain⟨m3,e3,-,f3⟩:=DataW.trod_int Tryz.underlying3 t3;obtain⟨m4,e4,-⟩:=DataW.trod_bool Tryz.underlying4 t4;obtain⟨m5,e5,-,f5⟩:=DataW.trod_int Tryz.underlying3 t5;cases e0;cases e1;cases e2;cases e3;cases e4;cases e5;exact⟨⟨m0,m1,m2,m3,m4,m5⟩,⟨Z,C3a f1,C3a f2,C3a f3,C3a f5⟩,A7b s0 w0⟩
theorem A3d:1≤prog.bytesOf 82:=of_decide_eq_true (by kernel_rfl)
theorem R8b{fuel:Nat}{v:Value}{x:DataW H×List MemPlace}(h:DataW.trod enc prog W base sp held fuel 22 [v]=some x)(hw:x3a prog 22 x.1):∃l,A3c [] W v l∧∀c∈l,c.name.size≤140737488355328:=by
 obtain⟨l,hl⟩:=P2a Tryz.underlying22 t4a A3d (fun n cs y _ _ hy hl=>x0c hy hl) h hw;exact⟨l,hl.mono (fun _ _ h=>h.1),r7b hl (fun _ _ h=>h.2)⟩
theorem j2a:prog.cellsOf 38=4:=by kernel_rfl
theorem O3a:prog.cellsOf 63=5:=by kernel_rfl
theorem L5b{fuel:Nat}{cs:List Value}{x:DataW H×List MemPlace}(h:DataW.trod enc prog W base sp held fuel 63 cs=some x)(hw:x3a prog 63 x.1):∃c,J0a [] W cs c:=by
 obtain⟨_,_,_,hx,hl,b0,a0⟩:=DataW.trod_struct Tryz.underlying63 h;rw[hx] at hw;rw[O3a] at hl;obtain⟨_,t0,-⟩:=S0a 0 3 0 b0 a0 Tryz.underlying63 hw Z;obtain⟨_,t1,w1⟩:=S0a 1 38 1 b0 a0 Tryz.underlying63 hw Z;simp only[c2b,j2a] at t0 t1;obtain⟨_,_,_,_,_,rfl⟩:=y4d hl;simp only[List.drop_succ_cons,List.drop_zero,List.take_succ_cons,List.take_zero] at t0 t1;obtain⟨m0,e0,-,f0⟩:=DataW.trod_int Tryz.underlying3 t0;obtain⟨x1,h1⟩:=n4a _ _ _ t1 w1;cases e0;exact⟨⟨m0,x1⟩,_,Z,C3a f0,h1⟩
theorem b8c:1≤prog.bytesOf 63:=of_decide_eq_true (by kernel_rfl)
theorem d4b{fuel:Nat}{v:Value}{x:DataW H×List MemPlace}(h:DataW.trod enc prog W base sp held fuel 59 [v]=some x)(hw:x3a prog 59 x.1):∃l,c8c [] W v l :=
 P2a Tryz.underlying59 O3a b8c (fun n cs y _ _ hy hl=>L5b hy hl) h hw
theorem M3b:prog.cellsOf 59=1:=by kernel_rfl
theorem y4a:prog.cellsOf 61=11:=by kernel_rfl
theorem u0c{fuel:Nat}{cs:List Value}{x:DataW H×List MemPlace}(h:DataW.trod enc prog W base sp held fuel 61 cs=some x)(hw:x3a prog 61 x.1):∃c,z1a [] W cs c:=by
 obtain⟨_,_,_,hx,hl,b0,a0⟩:=DataW.trod_struct Tryz.underlying61 h;rw[hx] at hw;rw[y4a] at hl;obtain⟨_,t0,-⟩:=S0a 0 3 0 b0 a0 Tryz.underlying61 hw Z;obtain⟨_,t1,-⟩:=S0a 1 3 1 b0 a0 Tryz.underlying61 hw Z;obtain⟨_,t2,-⟩:=S0a 2 3 2 b0 a0 Tryz.underlying61 hw Z;obtain⟨_,t3,w3⟩:=S0a 3 38 3 b0 a0 Tryz.underlying61 hw Z;obtain⟨_,t4,w4⟩:=S0a 4 59 7 b0 a0 Tryz.underlying61 hw Z;obtain⟨_,t5,-⟩:=S0a 5 4 8 b0 a0 Tryz.underlying61 hw Z;obtain⟨_,t6,-⟩:=S0a 6 3 9 b0 a0 Tryz.underlying61 hw Z;obtain⟨_,t7,-⟩:=S0a 7 3 10 b0 a0 Tryz.underlying61 hw Z;simp only[c2b,j2a,M3b,i6b] at t0 t1 t2 t3 t4 t5 t6 t7;obtain⟨_,_,_,_,_,_,_,_,_,_,_,rfl⟩:=L0d hl;simp only[List.drop_succ_cons,List.drop_zero,List.take_succ_cons,List.take_zero] at t0 t1 t2 t3 t4 t5 t6 t7;obtain⟨m0,e0,-,f0⟩:=DataW.trod_int Tryz.underlying3 t0;obtain⟨m1,e1,-,f1⟩:=DataW.trod_int Tryz.underlying3 t1;obtain⟨m2,e2,-,f2⟩:=DataW.trod_int Tryz.underlying3 t2;obtain⟨x3,h3⟩:=n4a _ _ _ t3 w3;obtain⟨x4,h4⟩:=d4b t4 w4;obtain⟨m5,e5,-⟩:=DataW.trod_bool Tryz.underlying4 t5;obtain⟨m6,e6,-,f6⟩:=DataW.trod_int Tryz.underlying3 t6;obtain⟨m7,e7,-,f7⟩:=DataW.trod_int Tryz.underlying3 t7;cases e0;cases e1;cases e2;cases e5;cases e6;cases e7;exact⟨⟨m0,m1,m2,x3,x4,m5,m6,m7⟩,_,_,_,_,_,Z,C3a f0,C3a f1,C3a f2,C3a f6,C3a f7,h3,h4⟩
theorem x3d:1≤prog.bytesOf 61:=of_decide_eq_true (by kernel_rfl)
theorem B9b{fuel:Nat}{v:Value}{x:DataW H×List MemPlace}(h:DataW.trod enc prog W base sp held fuel 55 [v]=some x)(hw:x3a prog 55 x.1):∃l,Q3d [] W v l :=
 P2a Tryz.underlying55 y4a x3d (fun n cs y _ _ hy hl=>u0c hy hl) h hw
theorem n6b:prog.cellsOf 48=1:=by kernel_rfl
theorem p4a:prog.cellsOf 87=6:=by kernel_rfl
theorem M0c{fuel:Nat}{cs:List Value}{x:DataW H×List MemPlace}(h:DataW.trod enc prog W base sp held fuel 87 cs=some x)(hw:x3a prog 87 x.1):∃c,W4a [] W cs c:=by
 obtain⟨_,_,_,hx,hl,b0,a0⟩:=DataW.trod_struct Tryz.underlying87 h;rw[hx] at hw;rw[p4a] at hl;obtain⟨_,t0,-⟩:=S0a 0 3 0 b0 a0 Tryz.underlying87 hw Z;obtain⟨_,t1,w1⟩:=S0a 1 48 1 b0 a0 Tryz.underlying87 hw Z;obtain⟨_,t2,w2⟩:=S0a 2 38 2 b0 a0 Tryz.underlying87 hw Z;simp only[c2b,n6b,j2a] at t0 t1 t2;obtain⟨_,_,_,_,_,_,rfl⟩:=U3d hl;simp only[List.drop_succ_cons,List.drop_zero,List.take_succ_cons,List.take_zero] at t0 t1 t2;obtain⟨m0,e0,-,f0⟩:=DataW.trod_int Tryz.underlying3 t0;obtain⟨x1,h1⟩:=z8a t1 w1;obtain⟨x2,h2⟩:=n4a _ _ _ t2 w2;cases e0;exact⟨⟨m0,x1,x2⟩,_,_,_,_,_,Z,C3a f0,h1,h2⟩
theorem p3d:1≤prog.bytesOf 87:=of_decide_eq_true (by kernel_rfl)
theorem Y8b{fuel:Nat}{v:Value}{x:DataW H×List MemPlace}(h:DataW.trod enc prog W base sp held fuel 56 [v]=some x)(hw:x3a prog 56 x.1):∃l,O3d [] W v l :=
 P2a Tryz.underlying56 p4a p3d (fun n cs y _ _ hy hl=>M0c hy hl) h hw
theorem t6b:prog.cellsOf 36=1:=by kernel_rfl
theorem m6b:prog.cellsOf 55=1:=by kernel_rfl
theorem u6b:prog.cellsOf 56=1:=by kernel_rfl
theorem N3a:prog.cellsOf 58=7:=by kernel_rfl
theorem P5b{fuel:Nat}{cs:List Value}{x:DataW H×List MemPlace}(h:DataW.trod enc prog W base sp held fuel 58 cs=some x)(hw:x3a prog 58 x.1):∃c,K0a [] W cs c∧c.name.size≤140737488355328:=by
 obtain⟨_,_,_,hx,hl,b0,a0⟩:=DataW.trod_struct Tryz.underlying58 h;rw[hx] at hw;rw[N3a] at hl;obtain⟨_,t0,w0⟩:=S0a 0 9 0 b0 a0 Tryz.underlying58 hw Z;obtain⟨_,t1,-⟩:=S0a 1 3 1 b0 a0 Tryz.underlying58 hw Z;obtain⟨_,t2,w2⟩:=S0a 2 36 2 b0 a0 Tryz.underlying58 hw Z;obtain⟨_,t3,w3⟩:=S0a 3 48 3 b0 a0 Tryz.underlying58 hw Z;obtain⟨_,t4,w4⟩:=S0a 4 55 4 b0 a0 Tryz.underlying58 hw Z;obtain⟨_,t5,w5⟩:=S0a 5 56 5 b0 a0 Tryz.underlying58 hw Z;obtain⟨_,t6,-⟩:=S0a 6 4 6 b0 a0 Tryz.underlying58 hw Z;simp only[Z9a,c2b,t6b,n6b,m6b,u6b,i6b] at t0 t1 t2 t3 t4 t5 t6;obtain⟨_,_,_,_,_,_,_,rfl⟩:=x4d hl;simp only[List.drop_succ_cons,List.drop_zero,List.take_succ_cons,List.take_zero] at t0 t1 t2 t3 t4 t5 t6;obtain⟨m0,e0,s0,-⟩:=DataW.trod_string Tryz.underlying9 t0;obtain⟨m1,e1,-,f1⟩:=DataW.trod_int Tryz.underlying3 t1;obtain⟨x2,h2⟩:=i9b t2 w2;obtain⟨x3,h3⟩:=z8a t3 w3;obtain⟨x4,h4⟩:=B9b t4 w4;obtain⟨x5,h5⟩:=Y8b t5 w5;obtain⟨m6,e6,-⟩:=DataW.trod_bool Tryz.underlying4 t6;cases e0;cases e1;cases e6;exact⟨⟨m0,m1,x2,x3,x4,x5,m6⟩,⟨_,_,_,_,Z,C3a f1,h2,h3,h4,h5⟩,A7b s0 w0⟩
theorem X7c:1≤prog.bytesOf 58:=of_decide_eq_true (by kernel_rfl)
theorem q5b{fuel:Nat}{v:Value}{x:DataW H×List MemPlace}(h:DataW.trod enc prog W base sp held fuel 25 [v]=some x)(hw:x3a prog 25 x.1):∃l,Z2d [] W v l∧∀c∈l,c.name.size≤140737488355328:=by
 obtain⟨l,hl⟩:=P2a Tryz.underlying25 N3a X7c (fun n cs y _ _ hy hl=>P5b hy hl) h hw;exact⟨l,hl.mono (fun _ _ h=>h.1),r7b hl (fun _ _ h=>h.2)⟩
theorem t3a:prog.cellsOf 66=11:=by kernel_rfl
theorem H2b{fuel:Nat}{cs:List Value}{x:DataW H×List MemPlace}(h:DataW.trod enc prog W base sp held fuel 66 cs=some x)(hw:x3a prog 66 x.1):∃c,x0a [] W cs c∧c.name.size≤140737488355328∧c.owner.size≤140737488355328:=by
 obtain⟨_,_,_,hx,hl,b0,a0⟩:=DataW.trod_struct Tryz.underlying66 h;rw[hx] at hw;rw[t3a] at hl;obtain⟨_,t0,w0⟩:=S0a 0 9 0 b0 a0 Tryz.underlying66 hw Z;obtain⟨_,t1,w1⟩:=S0a 1 9 1 b0 a0 Tryz.underlying66 hw Z;obtain⟨_,t2,w2⟩:=S0a 2 38 2 b0 a0 Tryz.underlying66 hw Z;obtain⟨_,t3,w3⟩:=S0a 3 38 6 b0 a0 Tryz.underlying66 hw Z;obtain⟨_,t4,w4⟩:=S0a 4 48 10 b0 a0 Tryz.underlying66 hw Z;simp only[Z9a,j2a,n6b] at t0 t1 t2 t3 t4;obtain⟨_,_,_,_,_,_,_,_,_,_,_,rfl⟩:=L0d hl;simp only[List.drop_succ_cons,List.drop_zero,List.take_succ_cons,List.take_zero] at t0 t1 t2 t3 t4;obtain⟨m0,e0,s0,-⟩:=DataW.trod_string Tryz.underlying9 t0;obtain⟨m1,e1,s1,-⟩:=DataW.trod_string Tryz.underlying9 t1;obtain⟨x2,h2⟩:=n4a _ _ _ t2 w2;obtain⟨x3,h3⟩:=n4a _ _ _ t3 w3;obtain⟨x4,h4⟩:=z8a t4 w4;cases e0;cases e1;exact⟨⟨m0,m1,x2,x3,x4⟩,⟨_,_,_,_,_,_,_,_,_,Z,h2,h3,h4⟩,A7b s0 w0,A7b s1 w1⟩
theorem a0c:1≤prog.bytesOf 66:=of_decide_eq_true (by kernel_rfl)
theorem J1b{fuel:Nat}{v:Value}{x:DataW H×List MemPlace}(h:DataW.trod enc prog W base sp held fuel 23 [v]=some x)(hw:x3a prog 23 x.1):∃l,S3d [] W v l∧∀c∈l,c.name.size≤140737488355328∧c.owner.size≤140737488355328:=by
 obtain⟨l,hl⟩:=P2a Tryz.underlying23 t3a a0c (fun n cs y _ _ hy hl=>H2b hy hl) h hw;exact⟨l,hl.mono (fun _ _ h=>h.1),r7b hl (fun _ _ h=>h.2)⟩
theorem q4a:prog.cellsOf 85=6:=by kernel_rfl
theorem I2c{fuel:Nat}{cs:List Value}{x:DataW H×List MemPlace}(h:DataW.trod enc prog W base sp held fuel 85 cs=some x)(hw:x3a prog 85 x.1):∃c,O4a [] W cs c:=by
 obtain⟨_,_,_,hx,hl,b0,a0⟩:=DataW.trod_struct Tryz.underlying85 h;rw[hx] at hw;rw[q4a] at hl;obtain⟨_,t0,-⟩:=S0a 0 3 0 b0 a0 Tryz.underlying85 hw Z;obtain⟨_,t1,w1⟩:=S0a 1 38 1 b0 a0 Tryz.underlying85 hw Z;obtain⟨_,t2,-⟩:=S0a 2 3 5 b0 a0 Tryz.underlying85 hw Z;simp only[c2b,j2a] at t0 t1 t2;obtain⟨_,_,_,_,_,_,rfl⟩:=U3d hl;simp only[List.drop_succ_cons,List.drop_zero,List.take_succ_cons,List.take_zero] at t0 t1 t2;obtain⟨m0,e0,-,f0⟩:=DataW.trod_int Tryz.underlying3 t0;obtain⟨x1,h1⟩:=n4a _ _ _ t1 w1;obtain⟨m2,e2,-,f2⟩:=DataW.trod_int Tryz.underlying3 t2;cases e0;cases e2;exact⟨⟨m0,x1,m2⟩,_,_,_,_,Z,C3a f0,C3a f2,h1⟩
theorem a4d:1≤prog.bytesOf 85:=of_decide_eq_true (by kernel_rfl)
theorem U9b{fuel:Nat}{v:Value}{x:DataW H×List MemPlace}(h:DataW.trod enc prog W base sp held fuel 24 [v]=some x)(hw:x3a prog 24 x.1):∃l,r3d [] W v l :=
 P2a Tryz.underlying24 q4a a4d (fun n cs y _ _ hy hl=>I2c hy hl) h hw
theorem P6b:prog.cellsOf 22=1:=by kernel_rfl
theorem K0b:prog.cellsOf 23=1:=by kernel_rfl
theorem h6b:prog.cellsOf 24=1:=by kernel_rfl
theorem V2b:prog.cellsOf 25=1:=by kernel_rfl
theorem E5a:prog.cellsOf 27=4:=by kernel_rfl
theorem b4b{fuel:Nat}{cs:List Value}{x:DataW H×List MemPlace}(h:DataW.trod enc prog W base sp held fuel 27 cs=some x)(hw:x3a prog 27 x.1):∃c,a1a [] W c cs∧S5a c:=by
 obtain⟨_,_,_,hx,hl,b0,a0⟩:=DataW.trod_struct Tryz.underlying27 h;rw[hx] at hw;rw[E5a] at hl;obtain⟨_,t0,w0⟩:=S0a 0 22 0 b0 a0 Tryz.underlying27 hw Z;obtain⟨_,t1,w1⟩:=S0a 1 23 1 b0 a0 Tryz.underlying27 hw Z;obtain⟨_,t2,w2⟩:=S0a 2 24 2 b0 a0 Tryz.underlying27 hw Z;obtain⟨_,t3,w3⟩:=S0a 3 25 3 b0 a0 Tryz.underlying27 hw Z;simp only[P6b,K0b,h6b,V2b] at t0 t1 t2 t3;obtain⟨_,_,_,_,rfl⟩:=i4d hl;simp only[List.drop_succ_cons,List.drop_zero,List.take_succ_cons,List.take_zero] at t0 t1 t2 t3;obtain⟨x0,h0⟩:=R8b t0 w0;obtain⟨x1,h1⟩:=J1b t1 w1;obtain⟨x2,h2⟩:=U9b t2 w2;obtain⟨x3,h3⟩:=q5b t3 w3;exact⟨⟨x0,x1,x2,x3⟩,⟨_,_,_,_,Z,h0.1,h1.1,h2,h3.1⟩,⟨h0.2,h1.2,h3.2⟩⟩
theorem bU8:1≤prog.bytesOf 5:=of_decide_eq_true (by kernel_rfl)
theorem cU8:prog.cellsOf 5=1:=by kernel_rfl
theorem M9b{fuel:Nat}{v:Value}{x:DataW H×List MemPlace}(h:DataW.trod enc prog W base sp held fuel 54 [v]=some x)(hw:x3a prog 54 x.1):∃l,h4d [] W v l :=
 P2a Tryz.underlying54 cU8 bU8 (fun n cs y _ _ hy _=>by
  obtain⟨m,e,-,f⟩:=DataW.trod_int Tryz.underlying5 hy;exact⟨m,e,z3d f⟩) h hw
theorem Q5b{W:World}:∀{l:List (String×DataW Unit)} {ps:List MemPlace},DataW.LaidVars prog W l ps→∀{i:Nat} {x:String×DataW Unit},l[i]?=some x →
 ∃g t cs fuel p,prog.globalNamed x.1=some g∧(prog.globals[g]?).map (·.type)=some t∧W.var? prog x.1=some cs∧DataW.trod (fun _=>()) prog W 0 (fun _=>true) false fuel t cs.toList=some (x.2,p)
 | [],_,_,_,_,hi=>by simp at hi
 | y::l,ps,h,0,x,hi=>by
   obtain⟨g0,t0,a0,f0,p0,q0,c0,d0,e0,b0,-⟩:=h;cases hi;exact⟨g0,t0,a0,f0,p0,c0,d0,e0,b0⟩
 | y::l,ps,h,i+1,x,hi=>by
   obtain⟨g0,t0,a0,f0,p0,q0,c0,d0,e0,b0,hr,-⟩:=h;exact Q5b hr (by simpa using hi)
theorem r2d:prog.globalNamed ((Rows.inferInterferenceRow.laid[3]?.map (·.1)).getD "")=some 1:=by kernel_rfl
theorem X1d:(prog.globals[1]?).map (·.type)=some 168:=by kernel_rfl
theorem q1d:prog.cellsOf 168=9:=by kernel_rfl
theorem e3b{W:World}(h:laidMetH prog Rows.inferInterferenceRow.laid W):k2a [] W:=by
 rw[MakeChecks.laidMetH_plain _ _ _ (by kernel_rfl)] at h;obtain⟨_,d0,-⟩:=h;obtain⟨_,_,c0,_,_,g0,n0,o0,m0⟩:=Q5b d0 (i:=3) Z;obtain rfl:=Option.some.inj (r2d.symm.trans g0);obtain rfl:=Option.some.inj (X1d.symm.trans n0);obtain⟨xs,_,rfl,b0,e0,_,f0⟩:=DataW.trod_array Tryz.underlying168 m0;rw[q1d] at e0;simp only[c3,Nat.mul_one] at f0;refine⟨by simp,fun i hi=>?_⟩;have a0:=World.var?_cell g0 o0 i;have i0:i<xs.length:=by omega
 have he:=f0 i (by omega);rw[List.getElem?_eq_getElem i0] at he;obtain⟨k,e1,e2,-⟩:=DataW.trod_int Tryz.underlying3 he;have p0:i<c0.toList.length:=by omega
 have j0:c0.toList[i]?=some (.int .i64 k):=by
  have h1:((c0.toList.drop i).take 1)[0]?=some (Value.int .i64 k):=by rw[e1];rfl
  rw[List.getElem?_take,if_pos (by omega),List.getElem?_drop] at h1;simpa using h1
 rw[a0];have e3:c0[i]?=some (.int .i64 k):=by simpa using j0
 rw[e3];have b0:(DataW.agg _=DataW.agg _∧_):=Prod.mk.inj b0;have b0:=DataW.agg.inj b0.1;have e4:(xs.map (·.1))[i]?=some (.lit (.int .i64 k)):=by rw[List.getElem?_map,List.getElem?_eq_getElem i0,e2];rfl
 rw[←b0] at e4;rcases(show i=0∨i=1∨i=2∨i=3∨i=4∨i=5∨i=6∨i=7∨i=8 by omega) with rfl|rfl|rfl|rfl|rfl|rfl|rfl|rfl|rfl<;>(cases e4;rfl)
end
theorem own:ownKnob prog.godebug=none:=by kernel_rfl
theorem z0d:laidOutB prog=true:=by kernel_rfl
abbrev A7a:List (String×DataW Unit):=Rows.inferInterferenceRow.laid
theorem R3c(os:Os)(args:Array Value):laidMetH prog A7a ((World.doorLaid prog 400 os).forCall (fun _ _=>0) ⟨#[],args,[]⟩).memory :=
 laidMetH_of_parts3 (fuel:=8) (laidMet_of_run' 8 (by kernel_rfl) (by kernel_rfl)) (by kernel_rfl) (by kernel_rfl)
theorem G0c{H:Type}{enc:TypeId×Value→H}{W W':World}(hb:Below W.heap.size W W'):∀(ts:List TypeId),(∀t∈ts,prog.readableRec t=true∧t<prog.types.size)→∀(vs:List Value) (ds:List (DataW H)) (p:List MemPlace),
 (∀x∈p,x.block<W.heap.size)→DataW.TrodAll enc prog W 0 (fun _=>true) true ts vs ds p→DataW.TrodAll enc prog W' 0 (fun b=>decide (b<W.heap.size)) true ts vs ds p:=by
 intro ts
 induction ts with
 | nil =>
   intro _ vs ds p _ h;cases vs<;>cases ds<;>exact h
 | cons t ts ih =>
   intro ht vs ds p hp h;cases vs with
   | nil=>exact h.elim
   | cons v vs =>
     cases ds with
     | nil=>exact h.elim
     | cons d ds =>
       obtain⟨q,r,h1,h2,rfl⟩:=h;obtain⟨r1,r2⟩:=ht t (by simp);exact⟨q,r,Below.trod z0d r1 r2 h1 hb (fun x hx=>hp x (List.mem_append_left _ hx)),ih (fun t a0=>ht t (by simp[a0])) vs ds r (fun x hx=>hp x (List.mem_append_right _ hx)) h2,Z⟩
theorem k0c{H:Type}{enc:TypeId×Value→H}{fn:Func}{s:ChangeSpec}{W W':World}{args:Array Value}{ds:List (DataW H)}{a0:List MemPlace}(hs:s.vars=[])(hr:fn.resultTypes=#[4])
 (d0:∀t∈fn.params.toList,prog.readableRec t=true∧t<prog.types.size) (hW:DataW.Whole enc prog fn.params.toList s.vars false W args.toList ds [] a0)
 (e1:(s.fn H (ds++[])).results=[.lit (.bool true)]) (e2:(s.fn H (ds++[])).args=ds) (e3:(s.fn H (ds++[])).vars=[]) (hb:Below W.heap.size W W') :
 s.post enc prog fn false true false false W args (.bool true) W':=by
 have c0:=hW.lt;obtain⟨_,_,hA,hV,b0,_⟩:=id hW;rw[hs] at hV;obtain⟨-,rfl⟩:=trodVars_none hV;rw[List.append_nil] at b0;subst b0;refine⟨ds,[],a0,[],a0,[],hW,?_,?_,?_,hb.frame _,fun h=>by cases h⟩
 ·rw[e1,hr];exact trodAll_mk1 (shut_bool Tryz.underlying4 true)
 ·rw[e2];exact G0c hb _ d0 _ _ _ c0 hA
 ·rw[e3,hs];rfl
theorem h8b{H:Type}{ts:List TypeId}{ds:List (DataW H)}(h:(DataW.weightsEach prog ts ds).all (·≤reachBytes)=true){j:Nat}{t:TypeId}{d:DataW H}(ht:ts[j]?=some t)(hd:ds[j]?=some d):x3a prog t d:=fun m hm=>by
 have:=List.all_eq_true.1 h m (DataW.weights_mem_each ht hd m hm);simpa using this
theorem J2b{f:FuncId}{args:Array Value}{W:World}{R:Value→World→Prop}{Q:Ending→World→Prop}(h:O0a prog f args W R)(hQ:∀v W',R v W'→Q (.returned v) W'):Calls prog f args W Q :=
 Calls.mono h fun _ _ ⟨v,he,hv⟩=>he▸hQ v _ hv
abbrev a3c:=Nat→Option (FuncId×Array Value×(Value→Prop)×(Value→World→Prop))
section
variable {P:Program} {r:Option Nat} {N:Nat} {l:List Oper} {D:List Deferred} {C:World→Prop} {V:a3c} {K:Env→World→Prop}
def FL(P:Program)(N:Nat)(l:List Oper)(C:World→Prop)(V:a3c)(K:Env→World→Prop)(lo:Nat):List Nat→Env→List Nat→(World→Prop)→Prop
 | [],e,_,Φ=>∀w,C w→Φ w→K e w
 | i::rest,e,gs,Φ=>∃o d,l[i]?=some o∧o.dst=some d∧d<N ∧
  ((∃v,PV P l C o e v∧FL P N l C V K lo rest (upd e d v) gs Φ) ∨
   (∃(mk:Nat→Value) (t:TypeId) (cs:List Value),d1a l.toArray e o=true ∧
     (∀w,C w→∃w',(execOp (ev e) o).run P w=.ok (.value (mk w.heap.size)) w'∧C w'∧y0a [] w w'∧w'.heap.size=w.heap.size+1∧p0a w' (w.heap.size,t,cs)) ∧
     ∀g,lo≤g→g∉gs→FL P N l C V K lo rest (upd e d (mk g)) (g::gs) (fun w=>Φ w∧p0a w (g,t,cs))) ∨
   (∃f args Qp Qw,V i=some (f,args,Qp,Qw)∧d1a l.toArray e o=true∧(∀w,C w→(execOp (ev e) o).run P w=.ok (.enter f args) w)∧∀u,Qp u→FL P N l C V K lo rest (upd e d u) gs (fun w=>Φ w∧Qw u w)))
theorem FL.mono{lo b0:Nat}:∀(R:List Nat) (e:Env) (gs a0:List Nat) (Φ Φ':World→Prop),(∀g,b0≤g→g∉a0→lo≤g∧g∉gs)→(∀w,Φ' w→Φ w)→FL P N l C V K lo R e gs Φ→FL P N l C V K b0 R e a0 Φ'
 | [],e,gs,a0,Φ,Φ',_,hΦ,h=>fun w hC hw=>h w hC (hΦ w hw)
 | i::R,e,gs,a0,Φ,Φ',hg,hΦ,h=>by
   obtain⟨o,d,h1,h2,h3,h4⟩:=h;refine⟨o,d,h1,h2,h3,?_⟩;rcases h4 with⟨v,h5,h6⟩|⟨mk,t,cs,h5,h6,h7⟩|⟨f,args,Qp,Qw,h5,h6,h7,h8⟩
   ·exact .inl ⟨v,h5,FL.mono R _ gs a0 Φ Φ' hg hΦ h6⟩
   rotate_left
   ·exact .inr (.inr ⟨f,args,Qp,Qw,h5,h6,h7,fun u hu=>FL.mono R _ gs a0 _ _ hg (fun w hw=>⟨hΦ w hw.1,hw.2⟩) (h8 u hu)⟩)
   ·refine .inr (.inl ⟨mk,t,cs,h5,h6,fun g h8 h9=>?_⟩);refine FL.mono R _ (g::gs) (g::a0) _ _ (fun x hx hn=>?_) (fun w hw=>⟨hΦ w hw.1,hw.2⟩) (h7 g (hg g h8 h9).1 (hg g h8 h9).2);simp only[List.mem_cons,not_or] at hn ⊢;exact⟨(hg x hx hn.2).1,hn.1,(hg x hx hn.2).2⟩
def z4d:Result Next→Nat
 | .ok _ w=>w.heap.size
 | _=>0
def szE(P:Program)(l:List Oper)(o:Oper)(e:Env)(w:World):Nat:=bif d1a l.toArray e o then z4d ((execOp (ev e) o).run P w) else 0
theorem A0b{o:Oper}{e e':Env}{w:World}(hs:Op.isSelect o.op=false)(h:∀s∈Oper.looksAt l.toArray o,e s=e' s):szE P l o e w=szE P l o e' w:=by
 unfold szE;rw[V0a h,t1a hs h]
theorem o4b(a b:Nat)(gs:List Nat):∃g,a≤g∧b≤g∧g∉gs:=by
 have:∀gs:List Nat,∃m,∀g∈gs,g<m:=by
  intro gs
  induction gs with
  | nil=>exact⟨0,by simp⟩
  | cons x gs ih =>
    obtain⟨m,hm⟩:=ih;refine⟨max m (x+1),fun g hg=>?_⟩;rcases List.mem_cons.1 hg with rfl|h
    ·omega
    ·have:=hm g h;omega
 obtain⟨m,hm⟩:=this gs;exact⟨max m (max a b),by omega,by omega,fun h=>by have:=hm _ h;omega⟩
def q3a(P:Program)(N:Nat)(l:List Oper)(C:World→Prop)(V:a3c)(K:Env→World→Prop)(lo:Nat)(R:List Nat)(i:Nat)(o:Oper)(d:Nat)(e:Env)(gs:List Nat)(Φ:World→Prop)(w:World):Prop :=
 (d1a l.toArray e o=true∧∃v w',(execOp (ev e) o).run P w=.ok (.value v) w'∧C w'∧y0a [] w w'∧FL P N l C V K w'.heap.size R (upd e d v) gs (fun w1=>Φ w1∧y0a [] w' w1)) ∨
 (d1a l.toArray e o=false∧FL P N l C V K lo R (upd e d undef) gs Φ) ∨
 (d1a l.toArray e o=true∧∃f args Qp Qw,V i=some (f,args,Qp,Qw)∧(execOp (ev e) o).run P w=.ok (.enter f args) w∧∀u w',Qp u→Qw u w'→C w'→y0a [] w w'→FL P N l C V K w'.heap.size R (upd e d u) gs (fun w1=>(Φ w1∧Qw u w1)∧y0a [] w' w1))
theorem FL.first(c0:L3a l=true)(R0:∀i f args Qp Qw,V i=some (f,args,Qp,Qw)→∃u,Qp u){i:Nat}{i0:List Nat}{lo:Nat}{w:World}(hC:C w)(T0:lo≤w.heap.size):∀(m0:List Nat) (e:Env) (gs:List Nat) (Φ:World→Prop),(∀j∈m0,g9a l (fun _=>true) j i=true) →
 (∀o,l[i]?=some o→∀g∈gs,szE P l o e w≤g)→FL P N l C V K lo (m0++i::i0) e gs Φ →
 ∃o d,l[i]?=some o∧o.dst=some d∧d<N∧q3a P N l C V K lo (m0++i0) i o d e gs Φ w:=by
 intro m0
 induction m0 with
 | nil =>
   intro e gs Φ _ C0 h;obtain⟨o,d,ho,hd,hN,h⟩:=h;refine⟨o,d,ho,hd,hN,?_⟩;rcases h with⟨v,⟨h1,h2⟩|⟨h1,rfl⟩,h3⟩|⟨mk,t,cs,h1,h2,h3⟩|⟨f,args,Qp,Qw,h1,h2,h3,h4⟩
   rotate_right
   ·exact .inr (.inr ⟨h2,f,args,Qp,Qw,h1,h3 w hC,fun u w' hu _ _ hk=>FL.mono _ _ gs gs _ _ (fun g hg hn=>⟨by have:=hk.size;omega,hn⟩) (fun _ hw=>hw.1) (h4 u hu)⟩)
   ·exact .inl ⟨h1,v,w,h2 w hC,hC,y0a.refl _ _,FL.mono _ _ gs gs Φ _ (fun g hg hn=>⟨by omega,hn⟩) (fun _ hw=>hw.1) h3⟩
   ·exact .inr (.inl ⟨h1,h3⟩)
   ·obtain⟨w',h4,h5,h6,h7,h8⟩:=h2 w hC;refine .inl ⟨h1,_,w',h4,h5,h6,?_⟩;have hs:=C0 o ho;unfold szE at hs;rw[h1,h4] at hs;refine FL.mono _ _ (w.heap.size::gs) gs _ _ (fun g hg hn=>?_) (fun w1 hw=>⟨hw.1,v1a hw.2 h8⟩) (h3 w.heap.size T0 (fun hm=>by have:w'.heap.size≤w.heap.size:=hs _ hm;omega));simp only[List.mem_cons,not_or];exact⟨by omega,by omega,hn⟩
 | cons q m0 ih =>
   intro e gs Φ B0 C0 h;obtain⟨p,c,hp,hc,v0,h⟩:=h;have hq:=B0 q (by simp);have p0:∀j∈m0,g9a l (fun _=>true) j i=true:=fun j hj=>B0 j (by simp[hj]);have a0:∀{o:Oper} {d:Nat} (u:Value),l[i]?=some o→o.dst=some d→(∀s∈Oper.looksAt l.toArray o,upd e c u s=e s)∧c≠d∧d∉Oper.looksAt l.toArray p:=fun {o d} u ho hd=>by
    obtain⟨_,j0,q0,S0⟩:=a8a hq hp ho hc hd;exact⟨fun s hs=>u1a S0 hs,j0,q0⟩
   rcases h with⟨u,hu,h⟩|⟨mk,t,cs,h1,h2,h3⟩|⟨f,args,Qp,Qw,hV,X0,hu,h⟩
   rotate_right
   ·obtain⟨u0,W0⟩:=R0 _ _ _ _ _ hV;have key:∀u,Qp u→∃o d,l[i]?=some o∧o.dst=some d∧d<N∧q3a P N l C V K lo (m0++i0) i o d (upd e c u) gs (fun w=>Φ w∧Qw u w) w:=fun u hu=>ih (upd e c u) gs _ p0 (fun o ho g hg=>by
     cases hd:o.dst with
     | none =>
       exfalso;unfold g9a at hq;simp[hp,ho,hc,hd] at hq
     | some d=>rw[A0b (z0a c0 ho).1 (a0 u ho hd).1];exact C0 o ho g hg) (h u hu)
    obtain⟨o,d,ho,hd,hN,t0⟩:=key u0 W0;have f0:∀u,Qp u→q3a P N l C V K lo (m0++i0) i o d (upd e c u) gs (fun w=>Φ w∧Qw u w) w:=fun u hu=>by
     obtain⟨o',d',n0,G0,_,hF⟩:=key u hu;obtain rfl:o'=o:=Option.some.inj (n0.symm.trans ho);obtain rfl:d'=d:=Option.some.inj (G0.symm.trans hd);exact hF
    have j0:=(a0 .nilFunc ho hd).2.1;have q0:=(a0 .nilFunc ho hd).2.2;have ha:∀u,∀s∈Oper.looksAt l.toArray o,upd e c u s=e s:=fun u=>(a0 u ho hd).1;refine⟨o,d,ho,hd,hN,?_⟩;have r0:∀v,∀s∈Oper.looksAt l.toArray p,upd e d v s=e s:=fun v s hs=>u1a q0 hs;unfold q3a at t0 ⊢;rw[V0a (ha _),t1a (z0a c0 ho).1 (ha _)] at t0;have o0:∀v,∀K0 Φ',(∀u,Qp u→FL P N l C V K K0 (m0++i0) (upd (upd e d v) c u) gs (fun w=>Φ' w∧Qw u w))→FL P N l C V K K0 (q::(m0++i0)) (upd e d v) gs Φ':=fun v K0 Φ' h9 =>
     ⟨p,c,hp,hc,v0,.inr (.inr ⟨f,args,Qp,Qw,hV,by rw[V0a (r0 v)];exact X0,by rw[t1a (z0a c0 hp).1 (r0 v)];exact hu,h9⟩)⟩
    rcases t0 with⟨hw,v,w',h4,h5,h6,-⟩|⟨hw,-⟩|⟨hw,f',s0,N0,O0,z0,h4,-⟩
    ·refine .inl ⟨hw,v,w',h4,h5,h6,o0 v _ _ fun u hu=>?_⟩;have hF:=f0 u hu;unfold q3a at hF;rw[V0a (ha _),t1a (z0a c0 ho).1 (ha _)] at hF;rcases hF with⟨_,v',L0,d0,_,_,h7⟩|⟨b0,_⟩|⟨_,_,_,_,_,_,d0,_⟩
     ·rw[h4] at d0;cases d0;rw[←A2a _ _ _ j0];exact FL.mono _ _ gs gs _ _ (fun x hx hn=>⟨hx,hn⟩) (fun w1 e0=>⟨⟨e0.1.1,e0.2⟩,e0.1.2⟩) h7
     ·rw[hw] at b0;cases b0
     ·rw[h4] at d0;cases d0
    ·refine .inr (.inl ⟨hw,o0 _ _ _ fun u hu=>?_⟩);have hF:=f0 u hu;unfold q3a at hF;rw[V0a (ha _),t1a (z0a c0 ho).1 (ha _)] at hF;rcases hF with⟨b0,_⟩|⟨_,h7⟩|⟨b0,_⟩
     ·rw[hw] at b0;cases b0
     ·rw[←A2a _ _ _ j0];exact h7
     ·rw[hw] at b0;cases b0
    ·refine .inr (.inr ⟨hw,f',s0,N0,O0,z0,h4,fun u' w' V0 U0 y0 x0=>o0 u' _ _ fun u hu=>?_⟩);have hF:=f0 u hu;unfold q3a at hF;rw[V0a (ha _),t1a (z0a c0 ho).1 (ha _)] at hF;rcases hF with⟨_,v',L0,d0,_⟩|⟨b0,_⟩|⟨_,Y0,E0,P0,Q0,A0,_,h7⟩
     ·rw[h4] at d0;cases d0
     ·rw[hw] at b0;cases b0
     ·rw[z0] at A0;cases A0;rw[←A2a _ _ _ j0];exact FL.mono _ _ gs gs _ _ (fun x hx hn=>⟨hx,hn⟩) (fun w1 e0=>⟨⟨⟨e0.1.1.1,e0.2⟩,e0.1.1.2⟩,e0.1.2⟩) (h7 u' w' V0 U0 y0 x0)
   ·obtain⟨o,d,ho,hd,hN,hF⟩:=ih (upd e c u) gs Φ p0 (fun o ho g hg=>by
     cases hd:o.dst with
     | none =>
       exfalso;unfold g9a at hq;simp[hp,ho,hc,hd] at hq
     | some d=>rw[A0b (z0a c0 ho).1 (a0 u ho hd).1];exact C0 o ho g hg) h
    obtain⟨ha,j0,q0⟩:=a0 u ho hd;refine⟨o,d,ho,hd,hN,?_⟩;unfold q3a at hF ⊢;rw[V0a ha,t1a (z0a c0 ho).1 ha] at hF;rcases hF with⟨hw,v,w',h4,h5,h6,h7⟩|⟨hw,h7⟩|⟨hw,f,args,Qp,Qw,hV,h4,h7⟩
    rotate_right
    ·refine .inr (.inr ⟨hw,f,args,Qp,Qw,hV,h4,fun x w' hx J0 y0 x0=>⟨p,c,hp,hc,v0,.inl ⟨u,hu.congr (z0a c0 hp).1 (fun s hs=>(u1a q0 hs).symm),?_⟩⟩⟩);rw[←A2a _ _ _ j0];exact h7 x w' hx J0 y0 x0
    ·refine .inl ⟨hw,v,w',h4,h5,h6,p,c,hp,hc,v0,.inl ⟨u,hu.congr (z0a c0 hp).1 (fun s hs=>(u1a q0 hs).symm),?_⟩⟩;rw[←A2a _ _ _ j0];exact h7
    ·refine .inr (.inl ⟨hw,p,c,hp,hc,v0,.inl ⟨u,hu.congr (z0a c0 hp).1 (fun s hs=>(u1a q0 hs).symm),?_⟩⟩);rw[←A2a _ _ _ j0];exact h7
   ·have key:∀g,lo≤g→g∉gs→(∀o,l[i]?=some o→szE P l o e w≤g)→∃o d,l[i]?=some o∧o.dst=some d∧d<N∧q3a P N l C V K lo (m0++i0) i o d (upd e c (mk g)) (g::gs) (fun w=>Φ w∧p0a w (g,t,cs)) w:=fun g hg hn hs=>by
     refine ih (upd e c (mk g)) (g::gs) _ p0 (fun o ho x hx=>?_) (h3 g hg hn);cases hd:o.dst with
     | none =>
       exfalso;unfold g9a at hq;simp[hp,ho,hc,hd] at hq
     | some d =>
       rw[A0b (z0a c0 ho).1 (a0 (mk g) ho hd).1];rcases List.mem_cons.1 hx with rfl|hx
       ·exact hs o ho
       ·exact C0 o ho x hx
    have h4:∃o d,l[i]?=some o∧o.dst=some d∧d<N:=by
     cases ho:l[i]? with
     | none=>unfold g9a at hq;simp[ho] at hq
     | some o =>
       obtain⟨g0,H0,F0,I0⟩:=o4b lo (szE P l o e w) gs;obtain⟨o',d,n0,hd,hN,_⟩:=key g0 H0 I0 (fun o' n0=>by rw[ho] at n0;cases n0;exact F0);rw[ho] at n0;cases n0;exact⟨o,d,Z,hd,hN⟩
    obtain⟨o,d,ho,hd,hN⟩:=h4;have f0:∀g,lo≤g→g∉gs→szE P l o e w≤g→q3a P N l C V K lo (m0++i0) i o d (upd e c (mk g)) (g::gs) (fun w=>Φ w∧p0a w (g,t,cs)) w:=fun g hg hn hs=>by
     obtain⟨o',d',n0,G0,_,hF⟩:=key g hg hn (fun o' n0=>by rw[ho] at n0;cases n0;exact hs);obtain rfl:o'=o:=Option.some.inj (n0.symm.trans ho);obtain rfl:d'=d:=Option.some.inj (G0.symm.trans hd);exact hF
    refine⟨o,d,ho,hd,hN,?_⟩;obtain⟨g0,H0,F0,I0⟩:=o4b lo (szE P l o e w) gs;have j0:=(a0 .nilFunc ho hd).2.1;have q0:=(a0 .nilFunc ho hd).2.2;have ha:∀u,∀s∈Oper.looksAt l.toArray o,upd e c u s=e s:=fun u=>(a0 u ho hd).1;have r0:∀v,∀s∈Oper.looksAt l.toArray p,upd e d v s=e s:=fun v s hs=>u1a q0 hs;have t0:=f0 g0 H0 I0 F0;unfold q3a at t0 ⊢;rw[V0a (ha _),t1a (z0a c0 ho).1 (ha _)] at t0;rcases t0 with⟨hw,v,w',h4,h5,h6,-⟩|⟨hw,-⟩|⟨hw,f,args,Qp,Qw,hV,h4,-⟩
    rotate_right
    ·have D0:szE P l o e w=w.heap.size:=by unfold szE;rw[hw,h4];rfl
     refine .inr (.inr ⟨hw,f,args,Qp,Qw,hV,h4,fun x w' hx J0 y0 x0=>⟨p,c,hp,hc,v0,.inr (.inl ⟨mk,t,cs,by rw[V0a (r0 x)];exact h1,by rw[t1a (z0a c0 hp).1 (r0 x)];exact h2,fun g hg hn=>?_⟩)⟩⟩);have Z0:=x0.size;have hF:=f0 g (by omega) hn (by omega);unfold q3a at hF;rw[V0a (ha _),t1a (z0a c0 ho).1 (ha _)] at hF;rcases hF with⟨_,v',L0,d0,_⟩|⟨b0,_⟩|⟨_,f',s0,N0,O0,z0,_,h7⟩
     ·rw[h4] at d0;cases d0
     ·rw[hw] at b0;cases b0
     ·rw[hV] at z0;cases z0;rw[←A2a _ _ _ j0];exact FL.mono _ _ (g::gs) (g::gs) _ _ (fun x hx hn=>⟨hx,hn⟩) (fun w1 e0=>⟨⟨⟨e0.1.1.1,e0.2⟩,e0.1.1.2⟩,e0.1.2⟩) (h7 x w' hx J0 y0 x0)
    ·have D0:szE P l o e w=w'.heap.size:=by unfold szE;rw[hw,h4];rfl
     refine .inl ⟨hw,v,w',h4,h5,h6,p,c,hp,hc,v0,.inr (.inl ⟨mk,t,cs,by rw[V0a (r0 v)];exact h1,by rw[t1a (z0a c0 hp).1 (r0 v)];exact h2,fun g hg hn=>?_⟩)⟩;have hF:=f0 g (by have:=h6.size;omega) hn (by omega);unfold q3a at hF;rw[V0a (ha _),t1a (z0a c0 ho).1 (ha _)] at hF;rcases hF with⟨_,v',L0,d0,_,_,h7⟩|⟨b0,_⟩|⟨_,_,_,_,_,_,d0,_⟩
     rotate_right
     ·rw[h4] at d0;cases d0
     ·rw[h4] at d0;cases d0;rw[←A2a _ _ _ j0];exact FL.mono _ _ (g::gs) (g::gs) _ _ (fun x hx hn=>⟨hx,hn⟩) (fun w1 e0=>⟨⟨e0.1.1,e0.2⟩,e0.1.2⟩) h7
     ·rw[hw] at b0;cases b0
    ·refine .inr (.inl ⟨hw,p,c,hp,hc,v0,.inr (.inl ⟨mk,t,cs,by rw[V0a (r0 _)];exact h1,by rw[t1a (z0a c0 hp).1 (r0 _)];exact h2,fun g hg hn=>?_⟩)⟩);have D0:szE P l o e w=0:=by unfold szE;rw[hw];rfl
     have hF:=f0 g hg hn (by omega);unfold q3a at hF;rw[V0a (ha _),t1a (z0a c0 ho).1 (ha _)] at hF;rcases hF with⟨b0,_⟩|⟨_,h7⟩|⟨b0,_⟩
     rotate_right
     ·rw[hw] at b0;cases b0
     ·rw[hw] at b0;cases b0
     ·rw[←A2a _ _ _ j0];exact h7
theorem t7b{id:Nat}{n t:List Deferred→Env→World→Prop}{b:Nat→List Deferred→Env→World→Prop}{e:Env}{w:World}(hm:P.follows .mixedOrders=true)(ix:List Nat)
 (m:Nat) (C:World→Prop) (hC:C w.drew) (V:a3c) (hV:∀i f args Qp Qw,V i=some (f,args,Qp,Qw)→(∃u,Qp u)∧(∀u w w',y0a [] w w'→Qw u w→Qw u w')∧∀w,C w→O0a P f args w fun u w'=>(Qp u∧Qw u w')∧C w'∧y0a [] w w') (ol:Oper) (E0:l[m]?=some ol)
 (h:FL P N l C V (fun e w=>WL P r N l.toArray [ol] (fun D' e' w'=>D'=D∧n D e' w') D e w) w.heap.size ix e [] (fun _=>True)) (hok:w4b l (fun _=>true) m=true:=by kernel_rfl) (hix:(List.range m==ix)=true:=by kernel_rfl):W P r N (.region id l.toArray true) ⟨n,b,t⟩ D e w:=by
 obtain rfl:List.range m=ix:=eq_of_beq hix;generalize s0:(fun(e:Env) (w:World)=>WL P r N l.toArray [ol] (fun D' e' w'=>D'=D∧n D e' w') D e w)=K' at h;unfold w4b at hok;simp only[Bool.and_eq_true,decide_eq_true_eq] at hok;obtain⟨⟨⟨⟨p0,z0⟩,C0⟩,f0⟩,_⟩:=hok;have x0:∀j,j<m→j∈x4a l m:=fun j hj=>by
  have:=List.all_eq_true.1 f0 j (List.mem_range.2 hj);simpa using this
 refine V4c hm z0 (fun f e w=>(∀i,f i=true→∀j∈k1a l i,f j=true)∧((f m=false∧C w∧∃lo Φ,lo≤w.heap.size∧(∀w w',Φ w→y0a [] w w'→Φ w')∧Φ w∧FL P N l C V K' lo (q7a m f) e [] Φ)∨(f m=true∧n D e w))) ⟨by simp,.inl ⟨Z,hC,w.heap.size,fun _=>True,Nat.le_refl _,fun _ _ _ _=>trivial,trivial,?_⟩⟩ ?_ ?_
 ·have:q7a m (fun _=>false)=List.range m:=by unfold q7a;simp
  rw[this];exact h
 ·rintro f e w i o ⟨e0,hM⟩ ho o0 q0;have A0:i<l.length:=(List.getElem?_eq_some_iff.1 ho).1;have a0:∀k,(f k||k==i)=true→∀j∈k1a l k,(f j||j==i)=true:=by
   intro k hk j hj;simp only[Bool.or_eq_true,beq_iff_eq] at hk ⊢;rcases hk with hk|rfl
   ·exact .inl (e0 k hk j hj)
   ·exact .inl (q0 j hj)
  rcases hM with⟨c0,m0,lo,Φ,v0,g0,hΦ,hM⟩|⟨c0,-⟩
  rotate_left
  ·have:=a3a e0 l.length (k1a l m) (e0 m c0) i (x0 i (by
    rcases Nat.lt_or_ge i m with h|h
    ·exact h
    ·have:i=m:=by omega
     subst this;rw[o0] at c0;cases c0))
   rw[o0] at this;cases this
  by_cases B0:i=m
  ·subst B0;obtain rfl:ol=o:=Option.some.inj (E0.symm.trans ho);have b0:∀j,j<i→f j=true:=fun j hj=>a3a e0 _ _ q0 j (x0 j hj);have r0:q7a i f=[]:=by
    unfold q7a;rw[List.filter_eq_nil_iff];intro j hj;simp[b0 j (List.mem_range.1 hj)]
   rw[r0] at hM;have h4:=hM w m0 hΦ;rw[←s0] at h4;clear hM h s0;unfold WL at *;refine fun a Q hs hD he hK=>h4 a Q hs hD he (fun a' w' F0 hh=>hK a' w' F0 ?_);exact⟨hh.1,a0,.inr ⟨by simp,hh.2⟩⟩
  have u0:i<m:=by omega
  have d0:(f m||m==i)=false:=by simp[c0];omega
  obtain⟨H0,_,h1,h2,h3⟩:=r0b (m:=m) f u0 o0;rw[h1] at hM;have G0:∀j∈x4a l i,f j=true:=a3a e0 _ _ q0;obtain⟨o',_,D0,hd,hN,h4⟩:=FL.first p0 (fun i f args Qp Qw h=>(hV i f args Qp Qw h).1) m0 v0 H0 e [] Φ (fun j hj=>by
   have:=List.all_eq_true.1 (List.all_eq_true.1 C0 i (List.mem_range.2 u0)) j (List.mem_range.2 (h3 j hj).1);simp only[Bool.or_eq_true,List.contains_eq_mem,decide_eq_true_eq] at this;rcases this with h|h
   ·have:=G0 j h;rw[(h3 j hj).2] at this;cases this
   ·exact h) (by simp) hM
  obtain rfl:o'=o:=Option.some.inj (D0.symm.trans ho);rcases h4 with⟨hw,v,w',hv,j0,n0,h4⟩|⟨hw,h4⟩|⟨hw,f',args,Qp,Qw,t0,hv,h4⟩
  rotate_right
  ·unfold WL;intro a Q hs hD he hK;simp only[wpListIn];have i0:Region.wanted o' (yielded l.toArray a.tmps)=true:=by rw[A1a,he];exact hw
   simp only[i0,if_true];refine⟨I0a _ _ _,?_⟩;rw[Oper.semAt_eq _ _ _ (z0a p0 ho).2,C2a,he,hv,Oper.uponIn_enter];refine⟨fun hh=>by simp[fc,Fence.wide] at hh,R4a (Calls.mono ((hV _ _ _ _ _ t0).2.2 w m0) ?_)⟩;rintro en w' ⟨u,rfl,⟨hu,y0⟩,j0,n0⟩;rw[hd];refine hK _ _ (by simp[Act.put,hs]) ⟨by simp[Act.put,hD],?_⟩;rw[n1a u (by rw[hs];exact hN),he];exact⟨a0,.inl ⟨d0,j0,w'.heap.size,(fun w1=>(Φ w1∧Qw u w1)∧y0a [] w' w1),Nat.le_refl _,fun w1 w2 h5 h6=>⟨⟨g0 _ _ h5.1.1 h6,(hV _ _ _ _ _ t0).2.1 u _ _ h6 h5.1.2⟩,h5.2.trans h6⟩,⟨⟨g0 _ _ hΦ n0,y0⟩,y0a.refl _ _⟩,by rw[h2];exact h4 u w' hu y0 j0 n0⟩⟩
  ·unfold WL;intro a Q hs hD he hK;simp only[wpListIn];have i0:Region.wanted o' (yielded l.toArray a.tmps)=true:=by rw[A1a,he];exact hw
   simp only[i0,if_true];refine⟨I0a _ _ _,?_⟩;rw[Oper.semAt_eq _ _ _ (z0a p0 ho).2,C2a,he,hv,Oper.uponIn_value];refine hK _ _ (by simp[Act.put,hd,hs]) ⟨by simp[Act.put,hd,hD],?_⟩;rw[hd,n1a v (by rw[hs];exact hN),he];exact⟨a0,.inl ⟨d0,j0,w'.heap.size,(fun w1=>Φ w1∧y0a [] w' w1),Nat.le_refl _,fun w1 w2 h5 h6=>⟨g0 _ _ h5.1 h6,h5.2.trans h6⟩,⟨g0 _ _ hΦ n0,y0a.refl _ _⟩,by rw[h2];exact h4⟩⟩
  ·unfold WL;intro a Q hs hD he hK;simp only[wpListIn];have i0:Region.wanted o' (yielded l.toArray a.tmps)=false:=by rw[A1a,he];exact hw
   simp only[i0];refine⟨I0a _ _ _,?_⟩;refine hK _ _ (by simp[Act.put,hd,hs]) ⟨by simp[Act.put,hd,hD],?_⟩;rw[hd,n1a undef (by rw[hs];exact hN),he];exact⟨a0,.inl ⟨d0,m0,lo,Φ,v0,g0,hΦ,by rw[h2];exact h4⟩⟩
 ·rintro f e w ⟨e0,hM⟩ b0;rcases hM with⟨c0,-⟩|⟨-,hM⟩
  ·have:=b0 m (by omega);rw[c0] at this;cases this
  ·exact hM
theorem d0c{id:Nat}{n t:List Deferred→Env→World→Prop}{b:Nat→List Deferred→Env→World→Prop}{e:Env}{w:World}(hm:P.follows .mixedOrders=true)(ix:List Nat)
 (m:Nat) (C:World→Prop) (hC:C w.drew) (ol:Oper) (a0:l[m]?=some ol)
 (h:FL P N l C (fun _=>none) (fun e w=>WL P r N l.toArray [ol] (fun D' e' w'=>D'=D∧n D e' w') D e w) w.heap.size ix e [] (fun _=>True)) (hok:w4b l (fun _=>true) m=true:=by kernel_rfl) (hix:(List.range m==ix)=true:=by kernel_rfl):W P r N (.region id l.toArray true) ⟨n,b,t⟩ D e w :=
 t7b (hok:=hok) (hix:=hix) hm ix m C hC (fun _=>none) (fun _ _ _ _ _ h=>by cases h) ol a0 h
variable {lo:Nat} {gs:List Nat} {Φ:World→Prop} {e:Env} {w w0:World} {L:List Ent} {M:List Nat}
theorem M4b(h:∀w,C w→Φ w→K e w):FL P N l C V K lo [] e gs Φ:=h
theorem I6a{i:Nat}{rest:List Nat}{o:Oper}(ho:l[i]?=some o)(hv:L3c o.op=true)(h:QL P N l.toArray C [o] (fun e'=>FL P N l C V K lo rest e' gs Φ) e):FL P N l C V K lo (i::rest) e gs Φ:=by
 unfold QL at h;obtain⟨pa,hl,hq,hk⟩:=h;obtain⟨d,v,h1,h2,h3,h4⟩:=hq 0 o Z;obtain rfl:pa=[(d,v)]:=by
  match pa,hl,h1 with
  | [x],_,h1=>simpa using h1
 refine⟨o,d,ho,h2,h3,.inl ⟨v,?_,hk⟩⟩;rcases h4 with⟨h5,h6⟩|h5
 ·refine .inl ⟨h5,fun w hw=>?_⟩;rcases h6 w hw with h7|⟨f,args,h7,_⟩
  ·exact h7
  ·obtain⟨_,hv'⟩:=a7a hv h7;cases hv'
 ·exact .inr h5
theorem e0b{i d:Nat}{rest:List Nat}{x:Operand}{ty size n c:Nat}{t:TypeId}{p:String}{af:Array Edge}{A:Option Addr}(ho:l[i]?=some ⟨some d,.call { callee:=.builtin .len,args:=#[x],argTypes:=#[ty] },t,p,af,none⟩)(hT:SlT P ty size)(hx:ev e x=.slice A n c)(hd:Nat.ble (d+1) N=true)
 (h:FL P N l C V K lo rest (upd e d (.int .i64 n)) gs Φ):FL P N l C V K lo (i::rest) e gs Φ:=by
 obtain⟨_,hu,_⟩:=hT;exact⟨_,d,ho,Z,Nat.le_of_ble_eq_true hd,.inl ⟨_,.inl ⟨Z,fun w _=>by simp[execOp,resolve,invoke,builtin,Builtin.len_,hx,run_underlying hu,goInt]⟩,h⟩⟩
theorem A0c{i d t:Nat}{rest:List Nat}{o:Oper}{mk:Nat→Value}{cs:List Value}(ho:l[i]?=some o)(hd:o.dst=some d)(hN:Nat.ble (d+1) N=true)(hw:d1a l.toArray e o=true)
 (a0:∀w1,Cl M w0 w L w1→(execOp (ev e) o).run P w1=.ok (.value (mk w1.heap.size)) (w1.alloc (.cells cs.toArray t (0,0))))
 (h:∀g,lo≤g→g∉gs→FL P N l (Cl M w0 w L) V K lo rest (upd e d (mk g)) (g::gs) (fun w=>Φ w∧p0a w (g,t,cs))):FL P N l (Cl M w0 w L) V K lo (i::rest) e gs Φ :=
 ⟨o,d,ho,hd,Nat.le_of_ble_eq_true hN,.inr (.inl ⟨mk,t,cs,hw,fun w1 hC=>⟨_,a0 w1 hC,Cl.alloc _ _ hC,W1a _ _ _,by simp,by unfold p0a;show(w1.heap.push _)[w1.heap.size]?=_;simp⟩,h⟩)⟩
theorem A9a{i d el:Nat}{t:TypeId}{p:String}{af:Array Edge}{gd:Option (Nat×Bool)}{z:Value}{cs:List Value}{rest:List Nat}
 (ho:l[i]?=some ⟨some d,.alloc el,t,p,af,gd⟩) (hN:Nat.ble (d+1) N=true) (hw:d1a l.toArray e ⟨some d,.alloc el,t,p,af,gd⟩=true) (hz:∀w,(zeroValue el).run P w=.ok z w) (a0:z.cells.toList=cs)
 (h:∀g,lo≤g→g∉gs→FL P N l (Cl M w0 w L) V K lo rest (upd e d (.pointer (some ⟨g,0,none⟩))) (g::gs) (fun w=>Φ w∧p0a w (g,el,cs))):FL P N l (Cl M w0 w L) V K lo (i::rest) e gs Φ:=by
 refine A0c (mk:=fun g=>.pointer (some ⟨g,0,none⟩)) ho Z hN hw (fun w1 _=>?_) h;subst a0;simp[execOp,Instr.alloc,newVar,newRow,hz]
theorem m9a{i d:Nat}{rest:List Nat}{t:TypeId}{p:String}{af:Array Edge}{args:Array Operand}{at_:Array TypeId}{g:Operand}{caps:Array Value}{f:FuncId}{vs:List Value}{Qp:Value→Prop}{Qw:Value→World→Prop}(hH:Has P f)
 (ho:l[i]?=some ⟨some d,.call { callee:=.value g,args:=args,argTypes:=at_ },t,p,af,none⟩) (hN:Nat.ble (d+1) N=true)
 (hw:d1a l.toArray e ⟨some d,.call { callee:=.value g,args:=args,argTypes:=at_ },t,p,af,none⟩=true) (hg:ev e g=.func (.func f) #[] caps) (a0:args.toList.map (ev e)++caps.toList=vs) (hV:V i=some (f,vs.toArray,Qp,Qw))
 (h:∀u,Qp u→FL P N l C V K lo rest (upd e d u) gs (fun w=>Φ w∧Qw u w)):FL P N l C V K lo (i::rest) e gs Φ:=by
 refine⟨_,d,ho,Z,Nat.le_of_ble_eq_true hN,.inr (.inr ⟨f,vs.toArray,Qp,Qw,hV,hw,fun w1 _=>?_,h⟩)⟩;subst a0;have:(args.map (ev e)++caps)=(args.toList.map (ev e)++caps.toList).toArray:=by apply Array.ext';simp
 simp[execOp,resolve,Deferred.ofValue,invoke,hg,hH _ w1,this]
def eqQ(v:Value):Value→Prop:=fun u=>u=v
def noQ:Value→World→Prop:=fun _ _=>True
theorem q6b{i d:Nat}{rest:List Nat}{t:TypeId}{p:String}{af:Array Edge}{args:Array Operand}{at_:Array TypeId}{f:FuncId}{vs:List Value}{v:Value}(hH:Has P f)
 (ho:l[i]?=some ⟨some d,.call { callee:=.value (.func f),args:=args,argTypes:=at_ },t,p,af,none⟩) (hN:Nat.ble (d+1) N=true)
 (hw:d1a l.toArray e ⟨some d,.call { callee:=.value (.func f),args:=args,argTypes:=at_ },t,p,af,none⟩=true) (a0:args.toList.map (ev e)=vs) (hV:V i=some (f,vs.toArray,eqQ v,noQ))
 (h:FL P N l C V K lo rest (upd e d v) gs Φ):FL P N l C V K lo (i::rest) e gs Φ :=
 m9a (caps:=#[]) hH ho hN hw Z (by simpa using a0) hV fun u hu=>by
  cases hu;exact FL.mono _ _ gs gs _ _ (fun x hx hn=>⟨hx,hn⟩) (fun w1 b0=>b0.1) h
theorem o6a{i d ty el size b0 n:Nat}{t:TypeId}{p:String}{af:Array Edge}{gd:Option (Nat×Bool)}{z:Value}{a0:Array (Nat×Operand)}{vs:List Value}{cs:List Value}{rest:List Nat}
 (ho:l[i]?=some ⟨some d,.buildSlice ty n a0,t,p,af,gd⟩) (hN:Nat.ble (d+1) N=true) (hw:d1a l.toArray e ⟨some d,.buildSlice ty n a0,t,p,af,gd⟩=true) (hS:SlZ P ty el size z b0)
 (hn:vs.length=n) (h0:Nat.ble 1 n=true) (c0:Nat.ble (n*size) 16777216=true) (hv:vs.map (·.cells.size)=List.replicate n size)
 (e0:vs.flatMap (·.cells.toList)=cs)
 (h:∀g,lo≤g→g∉gs→FL P N l (Cl M w0 w L) V K lo rest (upd e d (.slice (some ⟨g,0,none⟩) n n)) (g::gs) (fun w=>Φ w∧p0a w (g,el,cs))) (f0:a0.toList.map (fun q=>(q.1,ev e q.2))=(vs.zipIdx 0).map fun q=>(q.2,q.1):=by rfl):FL P N l (Cl M w0 w L) V K lo (i::rest) e gs Φ:=by
 have hp:(a0.map fun(i,x)=>(i,ev e x))=((vs.zipIdx 0).map fun q=>(q.2,q.1)).toArray:=by rw[←f0];apply Array.ext';simp
 have hv':∀v∈vs,v.cells.size=size:=fun v hm=>by
  have:v.cells.size∈vs.map (·.cells.size):=List.mem_map.2 ⟨v,hm,Z⟩;rw[hv] at this;exact(List.mem_replicate.1 this).2
 refine A0c (mk:=fun g=>.slice (some ⟨g,0,none⟩) n n) (t:=el) (cs:=cs) ho Z hN hw (fun w1 _=>?_) h;have d0:=K3a hS hn (Nat.le_of_ble_eq_true h0) (Nat.le_of_ble_eq_true c0) hv' w1;subst e0;simp only[execOp,hp,Sem.run_bind,d0,Result.andThen_ok,Sem.run_pure]
theorem Y6a{i d:Nat}{t:TypeId}{p:String}{af:Array Edge}{gd:Option (Nat×Bool)}{x y:Operand}{rest:List Nat}
 {ty el a0 n c:Nat} {z:Value} {kl kc:IntKind} (ho:l[i]?=some ⟨some d,.makeSlice ty x y,t,p,af,gd⟩) (hN:Nat.ble (d+1) N=true) (hw:d1a l.toArray e ⟨some d,.makeSlice ty x y,t,p,af,gd⟩=true)
 (hS:SlZ P ty el 1 z a0) (hx:ev e x=.int kl (n:Int)) (hy:ev e y=.int kc (c:Int))
 (e0:z.cells=#[z])
 (h:∀g,lo≤g→g∉gs→FL P N l (Cl M w0 w L) V K lo rest (upd e d (.slice (some ⟨g,0,none⟩) n c)) (g::gs) (fun w=>Φ w∧p0a w (g,el,List.replicate c z))) (f0:n≤c:=by omega) (hb:a0*c≤140737488355328:=by omega) (hc:c≤140737488355328:=by omega):FL P N l (Cl M w0 w L) V K lo (i::rest) e gs Φ:=by
 obtain⟨ii,hi,hz,d0,c0⟩:=hS.parts;have b0:(ii.bytes:Int)*(c:Int)≤281474976710656:=by
  have:((a0*c:Nat):Int)≤281474976710656:=by omega
  rw[c0];rwa [Int.natCast_mul] at this
 refine A0c (mk:=fun g=>.slice (some ⟨g,0,none⟩) n c) (t:=el) (cs:=List.replicate c z) ho Z hN hw (fun w1 _=>?_) h;have hr:=run_make (P:=P) w1 ty el ii z hS.und hi hz kl kc n c (by omega) (by omega) b0 (by omega);have hm:madeCells z.cells (c*ii.size)=(List.replicate c z).toArray:=by
  rw[e0,d0,Nat.mul_one];apply Array.ext
  ·simp[madeCells]
  ·intro j h1 h2;simp[madeCells,Nat.mod_one]
 simp only[Int.toNat_natCast,hm] at hr;simp only[execOp,hx,hy,Sem.run_bind,hr,Result.andThen_ok,Sem.run_pure]
end
section
variable {α:Type}
def H4a(l:List α)(z:α)(k:Nat):List α:=l.take k++List.replicate (l.length-k) z
theorem X9a(l:List α)(z:α):H4a l z 0=List.replicate l.length z:=by simp[H4a]
theorem M1b(l:List α)(z:α){k:Nat}(h:l.length≤k):H4a l z k=l:=by
 unfold H4a;rw[List.take_of_length_le h,Nat.sub_eq_zero_of_le h];simp
@[simp] theorem X4c(l:List α)(z:α)(k:Nat):(H4a l z k).length=l.length:=by
 unfold H4a;simp;omega
theorem d2b{l:List α}{z v:α}{k i:Nat}(h:l[k]?=some v)(hi:i=k:=by simp):(H4a l z k).set i v=H4a l z (k+1):=by
 subst hi;obtain⟨a0,rfl⟩:=List.getElem?_eq_some_iff.1 h;unfold H4a;rw[List.set_append_right _ _ (by simp;omega)];have h1:l.length-i=(l.length-(i+1))+1:=by omega
 rw[h1,List.replicate_succ];simp only[List.length_take,Nat.min_eq_left (Nat.le_of_lt a0),Nat.sub_self,List.set_cons_zero];rw[t0a h,List.append_assoc];rfl
theorem J6b{l:List α}{z:α}{k:Nat}(h:l[k]?=some z):H4a l z k=H4a l z (k+1):=by
 obtain⟨_,_⟩:=List.getElem?_eq_some_iff.1 h;unfold H4a;have h1:l.length-k=(l.length-(k+1))+1:=by omega
 rw[h1,List.replicate_succ,t0a h];simp
end
theorem St.setEnt{M:List Nat}{w0 w:World}{L:List Ent}(S:St M w0 w L)(j:Nat){G:Option Nat}{t:TypeId}{cs a0:List Value}(hj:L[j]?=some (G,t,cs))(h:cs=a0):St M w0 w (L.set j (G,t,a0)):=by
 subst h;have:L.set j (G,t,cs)=L:=by
  obtain⟨_,he⟩:=List.getElem?_eq_some_iff.1 hj;rw[←he];simp
 rw[this];exact S
theorem St.rdInts{M M':List Nat}{w0 w:World}{L:List Ent}(S:St M' w0 w L)(j:Nat){g t n:Nat}{l:List Int}(hj:L[j]?=some (some g,t,l.map (Value.int .i64)))(hg:g∉M)(hn:n=l.length)(a0:n≤140737488355328)(hl:∀x∈l,i64 x):RdI M w (.slice (some ⟨g,0,none⟩) n n) l :=
 S.rd1 hj hg hn a0 fun i x hi=>⟨.int .i64 x,by simp[hi],Z,hl x (List.mem_of_getElem? hi)⟩
theorem f7b{α:Type}{M:List Nat}{w:World}{size:Nat}{R:List Value→α→Prop}:RdS M w size R (.slice none 0 0) []:=⟨none,0,0,Z,Z,Nat.le_refl _,by unfold maxLen;omega,by omega,fun h=>absurd h (by omega)⟩
theorem St.rdBufs{M M':List Nat}{w0 w:World}{L:List Ent}(S:St M' w0 w L)(j:Nat){g t n:Nat}{l:List (List D1a)}(hj:L[j]?=some (some g,t,List.replicate n (.slice none 0 0)))(hg:g∉M)(hn:n=l.length)(a0:n≤140737488355328)(hl:∀b∈l,b=[]):s3d M w (.slice (some ⟨g,0,none⟩) n n) l :=
 S.rd1 hj hg hn a0 fun i x hi=>by
  obtain rfl:=hl x (List.mem_of_getElem? hi);have:=(List.getElem?_eq_some_iff.1 hi).1;exact⟨.slice none 0 0,by rw[List.getElem?_replicate,if_pos (by omega)],_,Z,f7b⟩
@[simp] theorem E3c(p:j0a):(V1a p).mem.length=p.cells.length:=by simp[V1a]
@[simp] theorem A5c(p:j0a):(V1a p).at_.length=p.threads.length:=by simp[V1a]
theorem b7b{p:j0a}(hp:p1a p){m:List Int}(h:D6a p m):∀x∈m,i64 x:=fun x hx=>by
 obtain⟨i,hi,rfl⟩:=List.getElem_of_mem hx;have:=h.vals i _ (List.getElem?_eq_getElem hi);have:=v3c hp i;unfold i64;omega
theorem k2c{p:j0a}(hp:p1a p){c:o1a}(h:g1b p c):∀x∈c.at_,i64 x:=fun x hx=>by
 have:=(X8b hp h).2.1 x hx;unfold i64;omega
theorem o9b{size:Nat}:∀(css:List (List Value)) (i:Nat) (c:List Value),(∀x∈css,x.length=size)→css[i]?=some c→∀(j:Nat) (u:Value),c[j]?=some u→css.flatten[i*size+j]?=some u:=by
 intro css
 induction css with
 | nil=>intro i c _ h;simp at h
 | cons x xs ih =>
   intro i c h4 hi j u hj;have hx:=h4 x (by simp);cases i with
   | zero =>
     simp at hi;subst hi;have a0:j<x.length:=(List.getElem?_eq_some_iff.1 hj).1;rw[List.flatten_cons,Nat.zero_mul,Nat.zero_add,List.getElem?_append_left a0];exact hj
   | succ i =>
     have:=ih i c (fun y hy=>h4 y (by simp[hy])) (by simpa using hi) j u hj;have e:(i+1)*size+j=x.length+(i*size+j):=by rw[hx,Nat.add_mul];omega
     rw[List.flatten_cons,e,List.getElem?_append_right (by omega)];rw[show x.length+(i*size+j)-x.length=i*size+j by omega];exact this
theorem v3a{size:Nat}(css:List (List Value))(h4:∀x∈css,x.length=size):css.flatten.length=css.length*size:=by
 induction css with
 | nil=>simp
 | cons x xs ih=>rw[List.flatten_cons,List.length_append,ih (fun y hy=>h4 y (by simp[hy])),h4 x (by simp),List.length_cons,Nat.add_mul];omega
structure M4a {α:Type} (R:List Nat→World→List Value→α→Prop) (size:Nat):Prop where
 len:∀{M w cs x},R M w cs x→cs.length=size
 one:∀{M w cs x},R M w cs x→∀u∈cs,u.oneCell'=true
 keep:∀{M w w' cs x},y0a M w w'→R M w cs x→R M w' cs x
 more:∀{M M' w cs x},(∀g∈M',g∈M∨w.heap.size≤g)→R M w cs x→R M' w cs x
section
variable {α:Type} {R:List Nat→World→List Value→α→Prop} {size:Nat}
def y1a(R:List Nat→World→List Value→α→Prop)(size:Nat)(M:List Nat)(w:World)(G:Option Nat)(cs:List Value)(v:Value)(l:List α):Prop :=
 ∃css:List (List Value),css.length=l.length∧(∀x∈css,x.length=size)∧b4a G size l.length cs v css.flatten∧∀(i:Nat) (x:α),l[i]?=some x→∃c,css[i]?=some c∧R (G.toList++M) w c x
theorem y1a.keep(hL:M4a R size){M:List Nat}{w w':World}{G:Option Nat}{cs:List Value}{v:Value}{l:List α}(h:y1a R size M w G cs v l)(hk:y0a (G.toList++M) w w'):y1a R size M w' G cs v l:=by
 obtain⟨css,h1,h2,h3,h4⟩:=h;refine⟨css,h1,h2,h3,fun i x hi=>?_⟩;obtain⟨c,h5,h6⟩:=h4 i x hi;exact⟨c,h5,hL.keep hk h6⟩
theorem y1a.nil{M:List Nat}{w:World}:y1a R size M w none [] (.slice none 0 0) []:=⟨[],Z,by simp,b4a.nil size,fun i x hi=>by simp at hi⟩
theorem y1a.new{M:List Nat}{w:World}{g:Nat}:y1a R size M w (some g) [] (.slice (some ⟨g,0,none⟩) 0 0) [] :=
 ⟨[],Z,by simp,⟨by simp,.inr ⟨g,0,Z,Z,Nat.le_refl _,by unfold maxLen;omega,by simp,by simp⟩⟩,fun i x hi=>by simp at hi⟩
theorem y1a.form{M:List Nat}{w:World}{G:Option Nat}{cs:List Value}{v:Value}{l:List α}(h:y1a R size M w G cs v l):∃A c,v=.slice A l.length c:=by
 obtain⟨_,_,_,⟨_,hr⟩,_⟩:=h;rcases hr with⟨_,rfl,h0⟩|⟨g,a0,_,rfl,_⟩
 ·exact⟨_,_,by rw[h0]⟩
 ·exact⟨_,_,Z⟩
theorem y1a.rd(hL:M4a R size){M M':List Nat}{w0 w:World}{L:List Ent}{k el:Nat}{G:Option Nat}{cs:List Value}{v:Value}{l:List α}(h:y1a R size M w G cs v l)(S:St M' w0 w L)(hk:L[k]?=some (G,el,cs))(hM:∀g,G=some g→g∉M)(hl:l.length≤1000000):RdS M w size (R M w) v l:=by
 obtain⟨css,h1,h2,⟨_,hr⟩,h4⟩:=h;rcases hr with⟨rfl,rfl,h0⟩|⟨g,b0,rfl,rfl,q1,q2,q3,q4⟩
 ·exact⟨none,0,0,Z,by omega,by omega,by unfold maxLen;omega,by omega,fun h=>absurd h (by omega)⟩
 ·refine⟨_,_,_,Z,Z,q1,q2,by omega,fun _=>⟨g,0,Z,hM g Z,fun i x hi=>?_⟩⟩;obtain⟨c,h5,h6⟩:=h4 i x hi;refine⟨c,h2 c (List.mem_of_getElem? h5),fun j u hj=>?_,hL.more (fun x hx=>.inl (by simp[hx])) h6⟩;have hf:=o9b css i c h2 h5 j u hj;have a0:i*size+j<l.length*size:=by
   have:=(List.getElem?_eq_some_iff.1 hf).1;rw[v3a css h2,h1] at this;exact this
  rw[←q4,List.getElem?_take,if_pos a0] at hf;have:=S.cell k hk hf;simpa using this
theorem y1a.get{M M':List Nat}{w0 w:World}{L:List Ent}{k el:Nat}{G:Option Nat}{cs:List Value}{v:Value}{l:List α}(h:y1a R size M w G cs v l)(S:St M' w0 w L)(hk:L[k]?=some (G,el,cs)){i:Nat}{x:α}(hi:l[i]?=some x):
 ∃g a0 c,G=some g∧v=.slice (some ⟨g,0,none⟩) l.length a0∧c.length=size∧Cells w g (0+i*size) c∧R (G.toList++M) w c x:=by
 obtain⟨css,h1,h2,⟨_,hr⟩,h4⟩:=h;have c0:=(List.getElem?_eq_some_iff.1 hi).1;rcases hr with⟨rfl,rfl,h0⟩|⟨g,a0,rfl,rfl,q1,q2,q3,q4⟩
 ·omega
 ·obtain⟨c,h5,h6⟩:=h4 i x hi;refine⟨g,a0,c,Z,Z,h2 c (List.mem_of_getElem? h5),fun j u hj=>?_,h6⟩;have hf:=o9b css i c h2 h5 j u hj;have b0:i*size+j<l.length*size:=by
   have:=(List.getElem?_eq_some_iff.1 hf).1;rw[v3a css h2,h1] at this;exact this
  rw[←q4,List.getElem?_take,if_pos b0] at hf;have:=S.cell k hk hf;simpa using this
variable {d:Nat} {t:TypeId} {p:String} {af:Array Edge} {x y:Operand}
theorem N4b(hL:M4a R size){M2:List Nat}{ty el b0 k c b o m:Nat}{z v:Value}{G:Option Nat}{cs:List Value}{cs2:List (List Value)}{l l2:List α}(S:St M w0 w L)(hS:SlZ P ty el size z b0)(C0:b0≤1000)(hk:L[k]?=some (G,el,cs))(hR:y1a R size M2 w G cs v l)
 (hx:ev e x=v) (hy:ev e y=.slice (some ⟨b,o,none⟩) m c) (hm:m=l2.length) (x0:cs2.length=l2.length) (j0:Cells w b o cs2.flatten) (he:∀(i:Nat) (x:α),l2[i]?=some x→∃c,cs2[i]?=some c∧R (G.toList++M2) w c x) (H0:l.length+l2.length≤1000000) (hd:Nat.ble (d+1) N=true)
 (h:∀v' G' n0 w1,St M w0 w1 (L.set k (G',el,n0))→y1a R size M2 w1 G' n0 v' (l++l2)→y0a G.toList w w1→(∀g∈G'.toList,g∈G.toList∨w.heap.size≤g)→WL P r N ops rest K D (upd e d v') w1) :
 WL P r N ops (⟨some d,.call { callee:=.builtin .append,args:=#[x,y],argTypes:=#[ty,ty] },t,p,af,none⟩::rest) K D e w:=by
 subst hm;obtain⟨css,c1,c2,c3,c4⟩:=hR;have u0:∀x∈cs2,∃a,R (G.toList++M2) w x a:=fun x hx=>by
  obtain⟨i,hi,rfl⟩:=List.getElem_of_mem hx;obtain⟨c,h5,h6⟩:=he i l2[i] (List.getElem?_eq_getElem (by omega));rw[List.getElem?_eq_getElem hi] at h5;cases h5;exact⟨_,h6⟩
 have i0:∀x∈cs2,x.length=size:=fun x hx=>let ⟨_,ha⟩:=u0 x hx;hL.len ha;have r0:∀u∈cs2.flatten,u.oneCell'=true:=fun u hu=>by
  obtain⟨x,hx,hu⟩:=List.mem_flatten.1 hu;obtain⟨_,ha⟩:=u0 x hx;exact hL.one ha u hu
 obtain⟨i,hi,hz,G0,B0⟩:=hS.parts;obtain⟨s0,hG⟩:=c3.own S hk;have A0:(l.length+l2.length)*b0≤140737488355328:=by
  have:(l.length+l2.length)*b0≤1000000*1000:=Nat.mul_le_mul (by omega) C0;omega
 obtain⟨v',w1,t0,m0,a0,_,g0⟩:=run_append_own_at (P:=P) w 0 ty t el i z size b0 hS.und hi hz G0 B0 hS.zs hS.pos v l.length css.flatten s0 ⟨b,o,none⟩ l2.length c cs2.flatten (by rw[v3a cs2 i0,x0])
  (fun j u hj=>by rw[Addr.add_lit];exact j0 j u hj) r0 (by unfold maxLen;omega) A0 (Nat.zero_le _)
 obtain⟨G',n0,z0,o0,q0⟩:=w2b m0;have d0:∀q,q<w.heap.size→G≠some q→w1.heap[q]?=w.heap[q]?:=fun q hq F0=>a0.block q hq (fun hh=>F0 (by rw[←hG,←hh]));have f0:E0a M w0 w1:=⟨a0.os.trans S.below.os,a0.tape.trans S.below.tape,a0.output.trans S.below.output,Nat.le_trans S.size a0.size,fun q hq hm =>
  (d0 q (Nat.lt_of_lt_of_le hq S.size) (fun hh=>by
    subst hh;rcases S.new k hk with h'|h'
    ·omega
    ·exact hm h')).trans (S.below.block q hq hm)⟩
 have e0:y0a G.toList w w1:=⟨a0.size,fun q hq hm=>d0 q hq (fun hh=>hm (by rw[hh];simp))⟩;have c0:∀g∈G'.toList,g∈G.toList∨w.heap.size≤g:=by
  intro g hg;have v0:G'=some g:=by cases G' with
   | none=>simp at hg
   | some q=>simp at hg;rw[hg]
  rcases g0 with hb|hb
  ·left;have p0:G=some g:=by rw[←hG,←hb,o0];exact v0
   rw[p0];simp
  ·rw[o0,v0] at hb;cases hb;exact .inr (Nat.le_refl _)
 refine X0a (v:=v') (w':=w1) Z Z hd ?_ (h v' G' n0 w1 (S.replace k hk f0 d0 (fun g hg=>?_)) ?_ e0 c0)
 ·simp[execOp,resolve,invoke,builtin,hx,hy,t0]
 ·obtain⟨_,h3⟩:=q0 g hg;rcases g0 with hb|hb
  ·have p0:G=some g:=by rw[←hG,←hb,o0];exact hg
   subst p0;exact⟨S.new k hk,h3,.inl Z⟩
  ·have D0:G'=some g:=hg;rw[o0,D0] at hb;cases hb;exact⟨.inl S.size,h3,.inr (Nat.le_refl _)⟩
 ·have y0:∀(e2:α) (c:List Value),R (G.toList++M2) w c e2→R (G'.toList++M2) w1 c e2:=by
   intro e2 c hr;have h5:R (G.toList++(G'.toList++M2)) w c e2:=hL.more (fun g hg=>by
    rcases List.mem_append.1 hg with hg|hg
    ·exact .inl (List.mem_append_left _ hg)
    ·rcases List.mem_append.1 hg with hg|hg
     ·rcases c0 g hg with h|h
      ·exact .inl (List.mem_append_left _ h)
      ·exact .inr h
     ·exact .inl (List.mem_append_right _ hg)) hr
   exact hL.more (fun g hg=>.inl (List.mem_append_right _ hg)) (hL.keep (e0.mono (fun g hg=>List.mem_append_left _ hg)) h5)
  refine⟨css++cs2,by simp[c1,x0],fun x hx=>?_,?_,fun i x hi=>?_⟩
  ·rcases List.mem_append.1 hx with hx|hx
   ·exact c2 x hx
   ·exact i0 x hx
  ·have e1:(l++l2).length=l.length+l2.length:=by simp
   rw[e1,List.flatten_append];exact z0
  ·by_cases E0:i<l.length
   ·rw[List.getElem?_append_left E0] at hi;obtain⟨c,h5,h6⟩:=c4 i x hi;exact⟨c,by rw[List.getElem?_append_left (by omega)];exact h5,y0 _ _ h6⟩
   ·rw[List.getElem?_append_right (by omega)] at hi;obtain⟨c,h5,h6⟩:=he _ x hi;exact⟨c,by rw[List.getElem?_append_right (by omega),c1];exact h5,y0 _ _ h6⟩
theorem P1a(hL:M4a R size){M2:List Nat}{ty el a0 k c b o:Nat}{z v:Value}{G:Option Nat}{cs news:List Value}{l:List α}{e1:α}(S:St M w0 w L)(hS:SlZ P ty el size z a0)(hk:L[k]?=some (G,el,cs))(hR:y1a R size M2 w G cs v l)
 (hx:ev e x=v) (hy:ev e y=.slice (some ⟨b,o,none⟩) 1 c) (b0:Cells w b o news) (he:R (G.toList++M2) w news e1) (e0:l.length+1≤1000000) (hd:Nat.ble (d+1) N=true)
 (h:∀v' G' c0 w1,St M w0 w1 (L.set k (G',el,c0))→y1a R size M2 w1 G' c0 v' (l++[e1])→y0a G.toList w w1→(∀g∈G'.toList,g∈G.toList∨w.heap.size≤g)→WL P r N ops rest K D (upd e d v') w1) (d0:a0≤1000:=by decide) :
 WL P r N ops (⟨some d,.call { callee:=.builtin .append,args:=#[x,y],argTypes:=#[ty,ty] },t,p,af,none⟩::rest) K D e w :=
 N4b hL (cs2:=[news]) (l2:=[e1]) S hS d0 hk hR hx hy Z Z (by simpa using b0) (fun i x hi=>by
  cases i with
  | zero=>simp at hi;subst hi;exact⟨news,Z,he⟩
  | succ i=>simp at hi) (by simpa using e0) hd h
end
theorem RdS.all{α:Type}{M:List Nat}{w:World}{size:Nat}{R:List Value→α→Prop}{A:Option Addr}{n c b o:Nat}{l:List α}(h:RdS M w size R (.slice A n c) l)(hA:A=some ⟨b,o,none⟩)(h0:0<l.length):
 ∃css:List (List Value),css.length=l.length∧Cells w b o css.flatten∧∀(i:Nat) (x:α),l[i]?=some x→∃c,css[i]?=some c∧R c x:=by
 obtain⟨h1,_,_,_,h5⟩:=h.at;obtain⟨_,_,a0,_,b0⟩:=h5 (by omega);rw[hA] at a0;cases a0;have key:∀(l2:List α) (q:Nat),(∀i x,l2[i]?=some x→∃cs,cs.length=size∧Cells w b (q+i*size) cs∧R cs x)→∃css:List (List Value),css.length=l2.length∧Cells w b q css.flatten∧∀(i:Nat) (x:α),l2[i]?=some x→∃c,css[i]?=some c∧R c x:=by
  intro l2
  induction l2 with
  | nil=>intro q _;exact⟨[],Z,fun j v hj=>by simp at hj,fun i x hi=>by simp at hi⟩
  | cons a l2 ih =>
    intro q hq;obtain⟨cs,_,k2,k3⟩:=hq 0 a Z;obtain⟨css,m1,m2,m3⟩:=ih (q+size) (fun i x hi=>by
     obtain⟨cs,n1,n2,n3⟩:=hq (i+1) x (by simpa using hi);exact⟨cs,n1,by rw[show q+size+i*size=q+(i+1)*size by rw[Nat.add_mul];omega];exact n2,n3⟩)
    refine⟨cs::css,by simp[m1],fun j v hj=>?_,fun i x hi=>?_⟩
    ·rw[List.flatten_cons] at hj;by_cases c0:j<cs.length
     ·rw[List.getElem?_append_left c0] at hj;have:=k2 j v hj;simpa using this
     ·rw[List.getElem?_append_right (by omega)] at hj;have:=m2 (j-cs.length) v hj;rw[show q+size+(j-cs.length)=q+j by omega] at this;exact this
    ·cases i with
     | zero=>simp at hi;subst hi;exact⟨cs,Z,k3⟩
     | succ i =>
       obtain⟨c,h1,h2⟩:=m3 i x (by simpa using hi);exact⟨c,by simpa using h1,h2⟩
 exact key l o b0
theorem Z6a.of{t s c:Int}(h1:i64 t)(h2:i64 s)(h3:i64 c):Z6a [.int .i64 t,.int .i64 s,.int .i64 c] ⟨t,s,c⟩:=⟨Z,h1,h2,h3⟩
theorem Y1b:M4a (fun(_:List Nat) (_:World)=>Z6a) 3 where
 len h:=by rw[h.1];rfl
 one h u hu:=by rw[h.1] at hu;simp at hu;rcases hu with rfl|rfl|rfl<;>rfl
 keep _ h:=h
 more _ h:=h
theorem p8a:M4a (fun(_:List Nat) (_:World)=>e9c) 1 where
 len h:=by rw[h.1];rfl
 one h u hu:=by rw[h.1] at hu;simp at hu;subst hu;rfl
 keep _ h:=h
 more _ h:=h
theorem Q3a:M4a V2a 2 where
 len h:=by obtain⟨_,_,rfl,_⟩:=h;rfl
 one h u hu:=by
  obtain⟨_,_,_,_,_,_,rfl,_⟩:=h.open_;simp at hu;rcases hu with rfl|rfl<;>rfl
 keep hk h:=V2a.keep hk _ _ h
 more hm h:=V2a.more hm _ _ h
def P8b(M:List Nat)(w:World)(cs:List Value)(c:o1a):Prop:=Q1a M w c cs
theorem getD_some{α:Type}{l:List α}{i:Nat}{x d:α}(h:l[i]?=some x):l.getD i d=x:=by rw[List.getD_eq_getElem?_getD,h];rfl
def A6a(c:o1a):Prop:=∀b∈c.buf,b=[]
theorem A6a.getD{c:o1a}(h:A6a c)(t:Nat):c.buf.getD t []=[]:=by
 rw[List.getD_eq_getElem?_getD];cases hx:c.buf[t]? with
 | none=>rfl
 | some b=>exact h b (List.mem_of_getElem? hx)
theorem A6a.view{c:o1a}(h:A6a c)(t:Nat):w6b c t=c.mem:=by unfold w6b;rw[h.getD];rfl
theorem v4a{p:j0a}{c:o1a}(h:A6a c)(t:Nat)(s:Z0a):z2a p 0 c t s=(decide (c.at_.getD t 0=s.frm)&&(decide (s.guard.evl c.mem c.mem=1) &&
 (if s.kind=6 then decide (c.at_.getD s.target.toNat 0=-1) else if s.kind=7 then decide (c.at_.getD s.target.toNat 0=(p.threads.getD s.target.toNat ⟨ByteArray.empty,0,[],[],[],[],false⟩).points-1) else true))):=by
 unfold z2a;rw[h.view,h.getD,h.getD]
 congr 2
 split
 ·rename_i h3;rw[if_neg (by omega),if_neg (by omega)];simp
 ·split
  ·simp
  ·split
   ·simp
   ·split
    ·rfl
    ·simp
@[simp] theorem b3d(l:List i1a)(v m:List Int):(F5b l v m).length=m.length:=by
 unfold F5b
 induction l generalizing m with
 | nil=>rfl
 | cons a l ih=>rw[List.foldl_cons,ih,List.length_set]
theorem n0c(l:List i1a)(a:i1a)(v m:List Int):F5b (l++[a]) v m=(F5b l v m).set a.cell.toNat (a.to.evl v v):=by unfold F5b;rw[List.foldl_append];rfl
theorem S0c{l:List i1a}{a:i1a}{v m:List Int}{k i:Nat}(hx:l[k]?=some a)(hi:i=a.cell.toNat):((F5b (l.take k) v m).map (Value.int .i64)).set i (.int .i64 (a.to.evl v v))=(F5b (l.take (k+1)) v m).map (Value.int .i64):=by
 subst hi;rw[t0a hx,n0c,List.map_set]
theorem a3d{p:j0a}{c:o1a}{t i:Nat}{th:s1a}{s:Z0a}(h:A6a c)(ht:p.threads[t]?=some th)(hs:th.steps[i]?=some s):doC p 0 c ⟨t,i,0⟩=⟨F5b s.set c.mem c.mem,atC c t s,c.buf⟩:=by
 unfold doC;have e1:b3a p t=th.steps:=by unfold b3a;rw[getD_some ht]
 rw[if_neg (by show ¬((i:Int)=-1);omega)];simp only[Int.toNat_natCast,e1,hs,n3c,h.view];simp
def V7b(p:j0a)(m:Int)(c:o1a)(t i:Nat):Bool:=match (b3a p t)[i]? with|some s=>z2a p m c t s|none=>false
def w3a(p:j0a)(m:Int)(c:o1a)(t j:Nat):List Y1a:=((List.range j).filter (V7b p m c t)).map fun(i:Nat)=>(⟨t,i,0⟩:Y1a)
def I9a(m:Int)(c:o1a)(t j:Nat):List Y1a:=((List.range j).filter (b8b m (c.buf.getD t []))).map fun(i:Nat)=>(⟨t,-1,((c.buf.getD t []).getD i ⟨[],[]⟩).cells.getD 0 0⟩:Y1a)
def S3a(p:j0a)(m:Int)(c:o1a)(k:Nat):List Y1a:=(List.range k).flatMap (n6a p m c)
theorem t0b(p:j0a)(m:Int)(c:o1a)(t:Nat):n6a p m c t=w3a p m c t (b3a p t).length++I9a m c t (c.buf.getD t []).length:=Z
theorem J6a(p:j0a)(m:Int)(c:o1a)(k:Nat):S3a p m c (k+1)=S3a p m c k++n6a p m c k:=by
 unfold S3a;rw[List.range_succ,List.flatMap_append];simp
theorem Z8a{p:j0a}{m:Int}{c:o1a}{t j:Nat}{s:Z0a}(h:(b3a p t)[j]?=some s):w3a p m c t (j+1)=w3a p m c t j++(if z2a p m c t s then[⟨t,j,0⟩] else[]):=by
 unfold w3a;rw[List.range_succ,List.filter_append,List.map_append];have:V7b p m c t j=z2a p m c t s:=by unfold V7b;rw[h]
 congr 1
 cases he:z2a p m c t s<;>simp[this,he]
theorem k7b{p:j0a}{m:Int}{c:o1a}{t j:Nat}{th:s1a}{s:Z0a}(h:p.threads[t]?=some th)(hs:th.steps[j]?=some s)(he:z2a p m c t s=true):w3a p m c t (j+1)=w3a p m c t j++[⟨t,j,0⟩]:=by
 rw[Z8a (by rw[show b3a p t=th.steps by unfold b3a;rw[getD_some h]];exact hs),he,if_pos rfl]
theorem C9b{p:j0a}{m:Int}{c:o1a}{t j:Nat}{th:s1a}{s:Z0a}(h:p.threads[t]?=some th)(hs:th.steps[j]?=some s)(he:z2a p m c t s=false):w3a p m c t (j+1)=w3a p m c t j:=by
 rw[Z8a (by rw[show b3a p t=th.steps by unfold b3a;rw[getD_some h]];exact hs),he];simp
theorem z0b(p:j0a)(m:Int)(c:o1a)(t j:Nat):(w3a p m c t j).length≤j:=by
 unfold w3a;have:=List.length_filter_le (V7b p m c t) (List.range j);simpa using this
theorem J5b(m:Int)(c:o1a)(t j:Nat):(I9a m c t j).length≤j:=by
 unfold I9a;have:=List.length_filter_le (b8b m (c.buf.getD t [])) (List.range j);simpa using this
theorem s5a{p:j0a}{t:Nat}{th:s1a}(h:p.threads[t]?=some th):b3a p t=th.steps:=by unfold b3a;rw[getD_some h]
theorem k5a{p:j0a}(hp:p1a p){c:o1a}(hf:g1b p c)(m:Int):∀k,k≤p.threads.length→(S3a p m c k).length≤k*67
 | 0,_=>by simp[S3a]
 | k+1,hk=>by
   have ih:=k5a hp hf m k (by omega);rw[J6a,t0b];have h1:=z0b p m c k (b3a p k).length;have h2:=J5b m c k (c.buf.getD k []).length;have b0:p.threads[k]?=some p.threads[k]:=List.getElem?_eq_getElem hk;rw[s5a b0] at h1 ⊢;have h3:=(hp.threads k hk).nsteps;have a0:k<c.buf.length:=by rw[hf.nbuf];exact hk
   have hb:c.buf[k]?=some c.buf[k]:=List.getElem?_eq_getElem a0;rw[getD_some hb] at h2 ⊢;have h4:=(hf.bufs k _ hb).1;simp only[List.length_append];omega
theorem H3b(p:j0a)(m:Int)(c:o1a):S3a p m c p.threads.length=B2a p m c:=Z
section
variable {d:Nat} {t:TypeId} {p:String} {af:Array Edge} {x y:Operand}
theorem RdI.oneCells{M':List Nat}{A:Option Addr}{m c:Nat}{l:List Int}(h:RdI M' w (.slice A m c) l)(hm:0<m):∃b o,A=some ⟨b,o,none⟩∧Cells w b o (l.map (Value.int .i64)):=by
 obtain⟨_,_,_,_,h5⟩:=h.at;obtain⟨b,o,h6,_,h8⟩:=h5 hm;refine⟨b,o,h6,fun j v hj=>?_⟩;rw[List.getElem?_map,Option.map_eq_some_iff] at hj;obtain⟨a,ha,rfl⟩:=hj;obtain⟨_,_,a0,b0⟩:=h8 j a ha;rw[b0.1] at a0;have:=a0 0 _ Z;simpa using this
theorem T0c{ty el b0 k n c g tb:Nat}{z:Value}{A:Option Addr}{cs:List Value}{l:List Int}{M':List Nat}(S:St M w0 w L)(hS:SlZ P ty el 1 z b0)(hk:L[k]?=some (some g,tb,cs))(hx:ev e x=.slice (some ⟨g,0,none⟩) n n)(hy:ev e y=.slice A n c)
 (hR:RdI M' w (.slice A n c) l) (hd:Nat.ble (d+1) N=true)
 (h:∀w1,St M w0 w1 (L.set k (some g,tb,l.map (Value.int .i64)))→y0a [g] w w1→WL P r N ops rest K D (upd e d (.int .i64 n)) w1) (e0:cs.length=n:=by simp) :
 WL P r N ops (⟨some d,.call { callee:=.builtin .copy,args:=#[x,y],argTypes:=#[ty,ty] },t,p,af,none⟩::rest) K D e w:=by
 obtain⟨_,hi,_,d0,_⟩:=hS.parts;have c0:(P.info? el).map (·.size)=some 1:=by rw[hi];simp[d0]
 have hn:n=l.length:=hR.len.1;by_cases h0:n=0
 ·have e1:l.map (Value.int .i64)=cs:=by
   have a1:l=[]:=List.eq_nil_of_length_eq_zero (by omega);have a2:cs=[]:=List.eq_nil_of_length_eq_zero (by omega);rw[a1,a2];rfl
  have a0:=run_copy_none (P:=P) w ty ty t el (some ⟨g,0,none⟩) A n n n c hS.und c0 (by rw[h0];rfl);have S':=S.setEnt k hk e1.symm;refine X0a (v:=.int .i64 n) (w':=w) Z Z hd ?_ (h w S' (y0a.refl _ _));subst h0;simp[execOp,resolve,invoke,builtin,hx,hy,a0,goInt]
 ·obtain⟨b,o,rfl,hc⟩:=hR.oneCells (by omega);have a0:=run_copy_row (P:=P) w ty ty t el g 0 n n ⟨b,o,none⟩ n c cs.toArray tb (l.map (Value.int .i64)) hS.und c0 (S.blk k hk) (by simp[hn]) (fun j v hj=>by rw[Addr.add_lit];exact hc j v hj) (by simp;omega)
   (fun v hv=>by obtain⟨a,_,rfl⟩:=List.mem_map.1 hv;rfl)
  have e1:(cs.toArray.toList.take 0++l.map (Value.int .i64)++cs.toArray.toList.drop (0+(l.map (Value.int .i64)).length)).toArray=(l.map (Value.int .i64)).toArray:=by
   have:cs.length≤l.length:=by omega
   simp[List.drop_of_length_le this]
  rw[e1] at a0;have hb:E0a [g] w (w.setRow g (l.map (Value.int .i64)).toArray):=⟨Z,Z,Z,by simp[World.setRow],fun q hq hm=>setRow_other w g q _ (by simpa using hm)⟩;refine X0a (v:=.int .i64 n) Z Z hd ?_ (h _ (S.changed1 k hk hb (setRow_heap w g _ _ tb _ (S.blk k hk))) ⟨hb.size,fun q hq hm=>hb.block q hq hm⟩);rw[List.length_map,←hn] at a0;simp[execOp,resolve,invoke,builtin,hx,hy,a0,goInt]
def Eq3(P:Program)(ty:TypeId):Prop:=P.eqGuardType P.depth ty=false∧∀(w:World) (a b c a' b' c':Int),
 (binOp .eql ty (.agg #[.int .i64 a,.int .i64 b,.int .i64 c]) (.agg #[.int .i64 a',.int .i64 b',.int .i64 c'])).run P w=.ok (.bool (decide (a=a'∧b=b'∧c=c'))) w
theorem Z1d{ty:TypeId}{a b c a' b' c':Int}(hE:Eq3 P ty)(hx:ev e x=.agg #[.int .i64 a,.int .i64 b,.int .i64 c])(hy:ev e y=.agg #[.int .i64 a',.int .i64 b',.int .i64 c'])(hd:Nat.ble (d+1) N=true)
 (h1:a=a'∧b=b'∧c=c'→WL P r N ops rest K D (upd e d (.bool true)) w) (h2:¬(a=a'∧b=b'∧c=c')→WL P r N ops rest K D (upd e d (.bool false)) w) {yt:TypeId} :
 WL P r N ops (⟨some d,.binOp .eql ty x y yt,t,p,af,none⟩::rest) K D e w:=by
 by_cases hh:a=a'∧b=b'∧c=c'
 ·exact X0a Z Z hd (by simp only[execOp,hx,hy,Sem.run_bind,run_eqGuard_agg w _ _ _ _ _ _ hE.1,Result.andThen_ok,hE.2,Sem.run_pure,decide_eq_true hh]) (h1 hh)
 ·exact X0a Z Z hd (by simp only[execOp,hx,hy,Sem.run_bind,run_eqGuard_agg w _ _ _ _ _ _ hE.1,Result.andThen_ok,hE.2,Sem.run_pure,decide_eq_false hh]) (h2 hh)
end
theorem v2c:Eq3 prog 75:=by
 refine⟨Tryz.eqGuardType75,fun w a b c a' b' c'=>?_⟩;have ht:prog.underlying 75=some (.struct (prog.fieldsOf 75)):=by unfold Program.fieldsOf;rw[Tryz.underlying75]
 have a0:∀w,(isAgg 3).run prog w=.ok false w:=fun w=>by simp[isAgg,run_underlying Tryz.underlying3]
 rw[run_eql_struct,run_equalIn_struct w 9999 _ _ _ ht Tryz.stoodInHeld75];unfold Program.fieldsOf;rw[Tryz.underlying75];by_cases h1:a=a'<;>by_cases h2:b=b'<;>by_cases h3:c=c'<;>simp[Op.eqFields,part,a0,run_equalIn_int _ 9998 _ .i64 .i64 _ _ Tryz.underlying3,h1,h2,h3]
theorem E9c{α:Type}{a b:List α}(hl:a.length=b.length){k:Nat}(hk:a.length≤k)(h:∀i x y,i<k→a[i]?=some x→b[i]?=some y→x=y):a=b:=by
 apply List.ext_getElem hl;intro i h1 h2;exact h i _ _ (by omega) (List.getElem?_eq_getElem h1) (List.getElem?_eq_getElem h2)
def w7c{α:Type}(a b:List α)(k:Nat):Prop:=∀i x y,i<k→a[i]?=some x→b[i]?=some y→x=y
theorem w7c.zero{α:Type}{a b:List α}:w7c a b 0:=fun i x y h=>absurd h (by omega)
theorem w7c.succ{α:Type}{a b:List α}{k:Nat}(h:w7c a b k){x y:α}(hx:a[k]?=some x)(hy:b[k]?=some y)(he:x=y):w7c a b (k+1):=fun i x' y' hi h1 h2=>by
 by_cases a0:i=k
 ·subst a0;rw[hx] at h1;rw[hy] at h2;cases h1;cases h2;exact he
 ·exact h i x' y' (by omega) h1 h2
theorem w7c.all{α:Type}{a b:List α}{k:Nat}(h:w7c a b k)(hl:a.length=b.length)(hk:a.length≤k):a=b:=E9c hl hk h
theorem D1a.ext'{a b:D1a}(h1:a.cells=b.cells)(h2:a.values=b.values):a=b:=by cases a;cases b;simp_all
theorem o1a.ext'{a b:o1a}(h1:a.mem=b.mem)(h2:a.at_=b.at_)(h3:a.buf=b.buf):a=b:=by cases a;cases b;simp_all
theorem Y1a.ext'{a b:Y1a}(h:a.thread=b.thread∧a.step=b.step∧a.cell=b.cell):a=b:=by cases a;cases b;simp_all
theorem P8b.keep{M:List Nat}{w w':World}(hk:y0a M w w'):∀cs c,P8b M w cs c→P8b M w' cs c:=fun _ _ h=>Q1a.keep hk h
theorem P8b.less{M M':List Nat}{w:World}(hk:∀g∈M',g∈M):∀cs c,P8b M w cs c→P8b M' w cs c:=fun _ _ h=>Q1a.less hk h
theorem P5a(p:j0a)(M:List Nat)(w0:World)(cs:List Value)(hI:InP p M w0 cs):
 O0a prog 68 #[.agg cs.toArray] w0 fun v w'=>v=.bool true∧Bw w0 w':=by
 obtain⟨_,_,_,_,_,_,_,_,_,_,_,_,rfl,_⟩:=hI.rd.open_;have S:=St.refl w0;refine a0a func68 Z ntmps68 Z ?_;refine wO0 Z U (r0a S Z ?_);intro g1 w1 S1 X1 G1;refine lO S1.k [.w 0] Z ⟨⟨Z,by rfl⟩,U⟩ (W0a S1 p2b Z Z (M5a p M _ _ (hI.keep (S1.keep0 M)).rd hI.ok (hI.keep (S1.keep0 M)).msk (hI.keep (S1.keep0 M)).lt) ?_);intro w8 S8 X8;refine lB0 Z U (fun a0=>?_) (fun a0=>by exfalso;omega);exact lT Z U Z ⟨Z,S8.fin⟩
theorem G9a(p:j0a)(c:o1a)(M:List Nat)(w0:World)(cs xs:List Value)(hI:InP p M w0 cs)(hX:Q1a M w0 c xs)(hf:g1b p c)(he:∀b∈c.buf,b=[]):
 O0a prog 69 #[.agg cs.toArray,.agg xs.toArray] w0 fun v w'=>v=.bool true∧Bw w0 w':=by
 obtain⟨Ac,nc,cc,Am,nm,cm,Al,nl,cl,At,nt,ct,rfl,hC,_,_,j1,_⟩:=hI.rd.open_;obtain⟨Xm,xm,ym,Xa,xa,ya,Xb,xb,yb,rfl,x0,i1,i0,_,_,j0,_⟩:=hX.open_;have S:=St.refl w0;have f1:=hf.mem.len;have f2:=hf.nat;have f3:=hf.nbuf;refine a0a func69 Z ntmps69 Z ?_;refine wO0 Z U (r0a S Z ?_);intro g2 w2 S2 X2 G2;refine r0a S2 Z ?_;intro g3 w3 S3 X3 G3;refine lB S3.k [.o 0,.o 1] Z ⟨Z,Z,U⟩ (fun V0=>by exfalso;omega) fun V0=>?_;refine lB S3.k [.o 0,.o 1] Z ⟨Z,Z,U⟩ (fun W0=>by exfalso;omega) fun W0=>?_;refine lB S3.k [.o 0,.o 1] Z ⟨Z,Z,U⟩ (fun X0=>by exfalso;omega) fun X0=>?_;refine lC S3.k [.o 0] Z ⟨Z,U⟩ (wL (fun μk D ε w=>D=[]∧∃k:Nat,(k+μk=(c.mem.length))∧St [] w0 w [(some g3,71,[.slice Xm xm ym,.slice Xa xa ya,.slice Xb xb yb]),(some g2,27,[.slice Ac nc cc,.slice Am nm cm,.slice Al nl cl,.slice At nt ct])]∧Sl ε [(2,.pointer (some ⟨g2,0,none⟩)),(3,.pointer (some ⟨g3,0,none⟩)),(36,.slice Xm xm ym),(37,.int .i64 xm),(38,.int .i64 k)]) (μ:=(c.mem.length)) ⟨Z,0,by omega,S3,Z⟩ ?_);rintro μk D ε w ⟨rfl,k,hk,S,eZ⟩;refine wK eZ (wB0 Z U (fun Y0=>?_) fun Y0=>?_)
 ·obtain⟨v,Q0,m1,_,J0,r0,_,_,y0,E0⟩:=RdS.get (x0) (k) (by omega);obtain⟨rfl,_⟩:=id E0;have q1:=hf.mem.vals k v J0;refine lB (S.k.a y0) [.x Q0 m1,.f 0 0] Z ⟨Z,⟨r0,by omega⟩,U⟩ (fun Z0=>by exfalso;omega) fun Z0=>?_;obtain⟨x,R0,n1,_,O0,s0,_,_,z0,F0⟩:=RdS.get (hC) (k) (by omega);obtain⟨rfl,_⟩:=U2a.open_ F0;have q2:=(hI.ok.cells x (e0a O0)).w;rw[w4d O0,X2a] at q1;refine lO (S.k.a z0) [.o 1,.x R0 n1,.f 0 1] Z ⟨Z,⟨s0,by omega⟩,Z,U⟩ ?_;rw[show x.w=((x.w.toNat:Nat):Int) by omega];refine V5c (n:=x.w.toNat) Z (by rfl) Z ?_;refine lB0 Z U (fun a1=>by exfalso;omega) fun a1=>?_;refine lP0 Z ⟨by omega,U⟩ ⟨μk-1,by omega,Z,(k+1),(by omega),S,Z⟩
 refine lC S.k [.o 0] Z ⟨Z,U⟩ (wL (fun μk D ε w=>D=[]∧∃k:Nat,(k+μk=(c.at_.length))∧St [] w0 w [(some g3,71,[.slice Xm xm ym,.slice Xa xa ya,.slice Xb xb yb]),(some g2,27,[.slice Ac nc cc,.slice Am nm cm,.slice Al nl cl,.slice At nt ct])]∧Sl ε [(2,.pointer (some ⟨g2,0,none⟩)),(3,.pointer (some ⟨g3,0,none⟩)),(58,.slice Xa xa ya),(59,.int .i64 xa),(60,.int .i64 k)]) (μ:=(c.at_.length)) ⟨Z,0,by omega,S,Z⟩ ?_);rintro μk D ε w ⟨rfl,k,hk,S,eZ⟩;refine wK eZ (wB0 Z U (fun b1=>?_) fun b1=>?_)
 ·obtain⟨v,S0,o1,_,J0,t0,_,_,A0,G0⟩:=RdS.get (i1) (k) (by omega);obtain⟨rfl,_⟩:=id G0;obtain⟨th,T0,p1,_,I0,u0,_,C0,B0,H0⟩:=RdS.get (j1) (k) (by omega);obtain⟨_,_,_,_,_,_,_,_,_,_,_,_,rfl,_⟩:=K0a.open_ H0;have q1:=hf.atr k v J0 th I0;refine lO ((S.k.a B0).a A0) [.x S0 o1,.f 0 0,.o 1,.x T0 p1,.v 1] Z ⟨⟨Z,C0⟩,⟨u0,by omega⟩,Z,Z,⟨t0,by omega⟩,U⟩ (h0a S g7a Z Z ?_);intro g9 w9 S9 X9 G9;refine b0a (kk:=0) (vs:=[_,_,_,_,_,_,_]) S9 r7a Z Z Z Z Z Z Z ?_;intro P0 a0 N0;dsimp only[d0a,List.set] at a0;refine lB0 Z U (fun c1=>by exfalso;omega) fun c1=>?_;refine lB a0.k [.o 0] Z ⟨Z,U⟩ (fun d1=>by exfalso;omega) fun d1=>?_;refine lB0 Z U (fun g1=>?_) fun g1=>?_
  ·refine lO0 Z U ?_;cases b0:th.asleep
   ·refine L0a S2a Z (by exact(a0.cell 0 Z Z).trans (congrArg (fun b=>some (Value.bool b)) b0)) Z ?_;rw[q1.2.2 (by omega)] at b0;refine lR0 Z U (A0a Z ?_);cases b0
   refine L0a S2a Z (by exact(a0.cell 0 Z Z).trans (congrArg (fun b=>some (Value.bool b)) b0)) Z ?_;rw[q1.2.2 (by omega)] at b0;obtain⟨b,n0,L0,U0,j0,d0,v0,D0,e0,f0⟩:=RdS.get (i0) (k) (by omega);obtain⟨m0,K0,p0,rfl,g0,c0,o0⟩:=P4b.open_ f0;have q2:=he b (e0a j0);subst q2;simp only[List.length_nil] at c0;refine lB (a0.k.a e0) [.o 1,.x n0 L0,.f 0 0] Z ⟨Z,⟨d0,by omega⟩,Z,U⟩ (fun q0=>by exfalso;omega) fun q0=>?_;refine lP0 Z ⟨by omega,U⟩ ⟨μk-1,by omega,Z,(k+1),(by omega),a0.tail,Z⟩
  obtain⟨b,n0,L0,U0,j0,d0,v0,D0,e0,f0⟩:=RdS.get (i0) (k) (by omega);obtain⟨m0,K0,p0,rfl,g0,c0,o0⟩:=P4b.open_ f0;have q2:=he b (e0a j0);subst q2;simp only[List.length_nil] at c0;refine lB (a0.k.a e0) [.o 1,.x n0 L0,.f 0 0] Z ⟨Z,⟨d0,by omega⟩,Z,U⟩ (fun q0=>by exfalso;omega) fun q0=>?_;refine lP0 Z ⟨by omega,U⟩ ⟨μk-1,by omega,Z,(k+1),(by omega),a0.tail,Z⟩
 exact lT Z U Z ⟨Z,S.fin⟩
theorem X8a(p:j0a)(M:List Nat)(w0:World)(cs:List Value)(hI:InP p M w0 cs):
 O0a prog 31 #[.agg cs.toArray] w0 fun v w'=>(∃xs,v=.agg xs.toArray∧Q1a M w' (V1a p) xs)∧Bw w0 w':=by
 obtain⟨Ac,nc,cc,Am,nm,cm,Al,nl,cl,At,nt,ct,rfl,hC,_,_,S0,E0,_,_,t0,bc,_,_,bt⟩:=hI.rd.open_;have S:=St.refl w0;have hp:=hI.ok;have n1:=hp.ncells;have n2:=hp.nthreads;refine a0a func31 Z ntmps31 Z ?_;refine wO0 Z U (r0a S Z ?_);intro g1 w1 S1 X1 G1;refine h0a S1 R6b Z Z ?_;intro g2 w2 S2 X2 G2;refine lO S2.k [.w 1] Z ⟨⟨Z,Z⟩,U⟩ (W0a S2 t2c Z Z (P5a p M _ _ (hI.keep (S2.keep0 M))) ?_);intro w7 S7 X7;refine lC0 Z U (d0c c0a [0,1,2,3,4,5,6,7,8,9,10,11,12,13] 14 (Cl _ _ _ _) (Cl.start S7) _ Z ?_);refine I6a Z Z ?_;refine u0a c6b Z Z ?_;refine i0a ?_;refine I6a Z Z ?_;refine k0a Z0b Z (fun w1 hw=>by exact hw.1.cell 1 Z Z) Z ?_;refine i0a ?_;refine e0b Z c4a.slT Z Z ?_;refine Y6a (n:=nc) (c:=nc) Z Z Z T0a Z Z Z ?_;intro j0 J0 x0;refine I6a Z Z ?_;refine u0a e8a Z Z ?_;refine i0a ?_;refine I6a Z Z ?_;refine k0a D4b Z (fun w1 hw=>by exact hw.1.cell 1 Z Z) Z ?_;refine i0a ?_;refine e0b Z G8a.slT Z Z ?_;refine Y6a (n:=nt) (c:=nt) Z Z Z T0a Z Z Z ?_;intro g17 K0 y0;refine I6a Z Z ?_;refine u0a e8a Z Z ?_;refine i0a ?_;refine I6a Z Z ?_;refine k0a D4b Z (fun w1 hw=>by exact hw.1.cell 1 Z Z) Z ?_;refine i0a ?_;refine e0b Z G8a.slT Z Z ?_;refine Y6a (n:=nt) (c:=nt) Z Z Z t8b Z Z Z ?_;intro m0 L0 z0;refine I6a Z Z ?_;refine m3a g2c (vs:=[(0,.slice _ _ _),(1,.slice _ _ _),(2,.slice _ _ _)]) (cs:=[_,_,_]) Z Z Z Z ?_;refine i0a ?_;refine A9a Z Z Z R6b Z ?_;intro g3 G3 V0;refine M4b ?_;rintro Y0 ⟨b0,_⟩ ⟨⟨⟨⟨-,q0⟩,r0⟩,s0⟩,T0⟩;clear x0;replace b0:=b0.push_new S7 q0 J0;replace b0:=b0.push_more (L1:=[_]) S7 r0 K0 (by simpa[eq_comm] using y0);replace b0:=b0.push_more (L1:=[_,_]) S7 s0 L0 (by simpa[eq_comm] using z0);replace b0:=b0.push_more (L1:=[_,_,_]) S7 T0 G3 (by simpa[eq_comm] using V0);refine b0a (kk:=0) (vs:=[_,_,_]) b0 z1b Z Z Z Z Z Z Z ?_;intro H0 a0 C0;dsimp only[d0a,List.set] at a0;refine B0a ⟨Z,?_⟩;refine fC a0.k [.o 5] Z ⟨Z,U⟩ ?_;refine wL (fun μk D ε w=>D=[]∧∃k:Nat,(k+μk=(p.cells.length))∧St [] w0 w [(some g3,71,[.slice (some ⟨j0,0,none⟩) nc nc,.slice (some ⟨g17,0,none⟩) nt nt,.slice (some ⟨m0,0,none⟩) nt nt]),(some m0,189,(List.replicate nt (.slice none 0 0))),(some g17,3,(List.replicate nt (.int .i64 0))),(some j0,3,H4a ((V1a p).mem.map (Value.int .i64)) (.int .i64 0) k),(some g2,71,[.slice none 0 0,.slice none 0 0,.slice none 0 0]),(some g1,27,[.slice Ac nc cc,.slice Am nm cm,.slice Al nl cl,.slice At nt ct])]∧Sl ε [(1,.pointer (some ⟨g1,0,none⟩)),(2,.pointer (some ⟨g2,0,none⟩)),(3,.pointer (some ⟨g3,0,none⟩)),(25,.int .i64 nc),(26,.int .i64 k)]) (μ:=(p.cells.length)) ⟨Z,0,by omega,(a0.setEnt 3 Z (by rw[X9a];simp[V1a,E0])),Z⟩ ?_;rintro μk D ε w ⟨rfl,k,_,S,eZ⟩;refine wK eZ (wB0 Z U (fun Q0=>?_) fun Q0=>?_)
 ·refine lC0 Z U (H0a c0a [0,1,2,3,4,5,6,7,8,9] [] [10] Z (Cl _ _ _ _) (Cl.start S) ?_);obtain⟨x,O0,W0,_,U0,n0,_,_,p0,u0⟩:=RdS.get (hC) (k) (by omega);obtain⟨rfl,_⟩:=U2a.open_ u0;refine qO (S.q.a p0) [.o 0,.o 5,.x O0 W0,.f 0 2] Z ⟨Z,⟨n0,by omega⟩,Z,Z,U⟩ (q0a T0a.slT Z (by rfl) Z Z ?_);refine qD Z U ?_;rintro Z0 ⟨N0,_⟩
  first|refine U0a (kk:=3) N0 W9b Z Z Z (by(simp;omega)) ?_
  intro I0 f0 D0;refine lP0 Z ⟨by omega,U⟩ ⟨μk-1,by omega,Z,(k+1),(by omega),(f0.setEnt 3 Z (d2b (by simp[V1a,U0]))),Z⟩
 refine lC S.k [.o 5] Z ⟨Z,U⟩ ?_;refine wL (fun μj D ε w=>D=[]∧∃j:Nat,(j+μj=(p.threads.length))∧St [] w0 w [(some g3,71,[.slice (some ⟨j0,0,none⟩) nc nc,.slice (some ⟨g17,0,none⟩) nt nt,.slice (some ⟨m0,0,none⟩) nt nt]),(some m0,189,(List.replicate nt (.slice none 0 0))),(some g17,3,H4a ((V1a p).at_.map (Value.int .i64)) (.int .i64 0) j),(some j0,3,(V1a p).mem.map (Value.int .i64)),(some g2,71,[.slice none 0 0,.slice none 0 0,.slice none 0 0]),(some g1,27,[.slice Ac nc cc,.slice Am nm cm,.slice Al nl cl,.slice At nt ct])]∧Sl ε [(1,.pointer (some ⟨g1,0,none⟩)),(2,.pointer (some ⟨g2,0,none⟩)),(3,.pointer (some ⟨g3,0,none⟩)),(42,.int .i64 nt),(43,.int .i64 j)]) (μ:=(p.threads.length)) ⟨Z,0,by omega,((S.setEnt 3 Z (M1b _ _ (by simp[V1a];omega))).setEnt 2 Z (by rw[X9a];simp[V1a,t0])),Z⟩ ?_;rintro μj D ε w ⟨rfl,j,_,S,eZ⟩;refine wK eZ (wB0 Z U (fun R0=>?_) fun R0=>?_)
 ·obtain⟨th,P0,X0,_,i0,o0,_,_,g0,v0⟩:=RdS.get (S0) (j) (by omega);obtain⟨_,_,_,_,_,_,_,_,_,_,_,_,rfl,_⟩:=K0a.open_ v0;refine lO S.k [.o 5,.x P0 X0] Z ⟨⟨o0,by omega⟩,Z,U⟩ ?_;cases c0:th.asleep
  ·refine L0a S2a Z (by exact(S.old (g0 _ _ Z)).trans (congrArg (fun b=>some (Value.bool b)) c0)) Z ?_;refine lP0 Z ⟨by omega,U⟩ ⟨μj-1,by omega,Z,(j+1),(by omega),(S.setEnt 2 Z (by exact J6b (by simp[V1a,i0,c0]))),Z⟩
  refine L0a S2a Z (by exact(S.old (g0 _ _ Z)).trans (congrArg (fun b=>some (Value.bool b)) c0)) Z ?_;refine lO S.k [.o 0] Z ⟨Z,U⟩ (M0a T0a.slT Z (by rfl) Z Z ?_)
  first|refine U0a (kk:=2) S W9b Z Z Z (by(simp;omega)) ?_
  intro F0 e0 A0;refine lP0 Z ⟨by omega,U⟩ ⟨μj-1,by omega,Z,(j+1),(by omega),(e0.setEnt 2 Z (by exact d2b (by simp[V1a,i0,c0]))),Z⟩
 refine lO S.k [.w 0] Z ⟨⟨Z,Z⟩,U⟩ ?_
 first|refine b0a (kk:=4) (vs:=[_,_,_]) S z1b Z Z Z Z Z Z Z ?_
 intro G0 d0 B0;dsimp only[d0a,List.set] at d0;refine lR0 Z U ?_;have SF:=d0.setEnt 2 Z (M1b _ _ (by simp[V1a];omega));have hf:=Y0b hp;exact g0a (n:=3) Z c0b Z (SF.cells 4 Z) Z ⟨⟨_,Z,_,_,_,Z,SF.rdInts 3 Z (S1a hI.lt (SF.new 3 Z)) (by simp[V1a,E0]) bc (b7b hp hf.mem),SF.rdInts 2 Z (S1a hI.lt (SF.new 2 Z)) (by simp[V1a,t0]) bt (k2c hp hf),SF.rdBufs 1 Z (S1a hI.lt (SF.new 1 Z)) (by simp[V1a,t0]) bt (by simp[V1a])⟩,SF.fin⟩
theorem q1b(p:j0a)(c:o1a)(t i:Nat)(th:s1a)(s:Z0a)(M:List Nat)(w0:World)(cs xs:List Value)(hI:InP p M w0 cs)(hX:Q1a M w0 c xs)(hf:g1b p c)(he:A6a c)(f0:p.threads[t]?=some th)(Q0:th.steps[i]?=some s):
 O0a prog 127 #[.agg cs.toArray,.agg xs.toArray,.int .i64 t,.int .i64 i] w0 fun v w'=>v=.bool (z2a p 0 c t s)∧Bw w0 w':=by
 obtain⟨_,_,_,_,_,_,_,_,_,_,_,_,rfl,_,_,_,U0,_⟩:=hI.rd.open_;obtain⟨_,_,_,_,_,_,_,_,_,rfl,i0,y0,_,_,d0,g0,_⟩:=hX.open_;have S:=St.refl w0;have f2:=hf.nat;have hp:=hI.ok;have ht:=M2a f0;have hi:=M2a Q0;have i1:=hp.thread f0;have g1:=i1.steps s (e0a Q0);have V0:6≤s.kind→0≤s.target∧s.target<p.threads.length:=fun h=>(g1.row.k6 h).1;refine a0a func127 Z ntmps127 Z ?_;refine wO0 Z U (r0a S Z ?_);intro g4 w4 S4 X4 G4;refine r0a S4 Z ?_;intro g5 w5 S5 X5 G5;obtain⟨_,Z0,j1,_,O0,r0,_,_,A0,H0⟩:=RdS.get (U0) (t) (by omega);obtain rfl:=Option.some.inj (f0.symm.trans O0);obtain⟨_,_,_,_,_,_,_,_,_,_,_,_,rfl,_,_,_,j0,_⟩:=K0a.open_ H0;obtain⟨_,a1,m1,_,P0,s0,_,G0,B0,I0⟩:=RdS.get (j0) (i) (by omega);obtain rfl:=Option.some.inj (Q0.symm.trans P0);obtain⟨_,_,_,_,_,_,rfl,⟨_,_⟩,z0,_⟩:=z1a.open_ I0;refine lO ((S5.k.a B0).a A0) [.o 1,.x Z0 j1,.f 0 4,.x a1 m1,.v 1] Z ⟨⟨Z,G0⟩,⟨s0,by omega⟩,Z,⟨r0,by omega⟩,Z,U⟩ (h0a S5 J3b Z Z ?_);intro g9 w9 S9 X9 G9;refine b0a (kk:=0) (vs:=[_,_,_,_,_,_,_,_,_,_,_]) S9 O3b Z Z Z Z Z Z Z ?_;intro W0 a0 S0;dsimp only[d0a,List.set] at a0;refine lC0 Z U (H0a c0a [0,1,2,3,4,5,6,7,8,9,10,11,12,13,14,15,16,17] [] [] Z (Cl _ _ _ _) (Cl.start a0) ?_);obtain⟨a,b1,n1,_,d0,t0,_,_,C0,J0⟩:=RdS.get (y0) (t) (by omega);obtain⟨rfl,_⟩:=id J0;refine qB (a0.q.a C0) [.o 1,.x b1 n1,.f 0 0,.o 0] Z ⟨Z,Z,⟨t0,by omega⟩,Z,U⟩ (fun c0=>?_) fun c0=>?_
 ·refine qD Z U ?_;rintro X0 ⟨b0,T0⟩;refine lT Z U Z ⟨congrArg Value.bool ?_,b0.fin⟩;rw[v4a he,getD_some d0];simp[c0];done
 refine qO a0.q [.o 0,.o 1,.o 1] Z ⟨Z,Z,Z,U⟩ (g2a d5b Z Z (fun w1 S1 X1=>S0b s.guard M _ _ _ _ c.mem c.mem (RdE.keep (S1.keep0 M) _ _ z0) (hI.keep (S1.keep0 M)).msk (i0.keep (S1.keep0 M)) (i0.keep (S1.keep0 M))) ?_);refine qB0 Z U (fun e0=>?_) fun e0=>?_
 ·refine qD Z U ?_;rintro X0 ⟨b0,T0⟩;refine lT Z U Z ⟨congrArg Value.bool ?_,b0.fin⟩;rw[v4a he,getD_some d0];simp[c0,e0];done
 refine qD Z U ?_;rintro X0 ⟨b0,T0⟩;refine lB b0.k [.o 0] Z ⟨Z,U⟩ (fun m0=>?_) fun m0=>?_
 ·have q6:=V0 (by omega);obtain⟨b,c1,o1,_,g0,u0,_,_,D0,K0⟩:=RdS.get (y0) (s.target.toNat) (by omega);obtain⟨rfl,_⟩:=id K0;refine lB (b0.k.a D0) [.o 1,.o 0,.x c1 o1,.f 0 0] Z ⟨Z,⟨u0,by omega⟩,Z,Z,U⟩ (fun p0=>?_) fun p0=>?_
  ·refine lT Z U Z ⟨congrArg Value.bool ?_,b0.fin⟩;rw[v4a he,getD_some d0];simp[c0,e0,m0,g0,p0];done
  refine lT Z U Z ⟨congrArg Value.bool ?_,b0.fin⟩;rw[v4a he,getD_some d0];simp[c0,e0,m0,g0,p0];done
 refine lB0 Z U (fun n0=>?_) fun n0=>?_
 ·refine lC0 Z U (H0a c0a [0,1,2,3,4,5,6,7,8,9,10,11,12,13,14,15] [] [] Z (Cl _ _ _ _) (Cl.start b0) ?_);have q6:=V0 (by omega);obtain⟨b,d1,p1,_,g0,v0,_,_,E0,L0⟩:=RdS.get (y0) (s.target.toNat) (by omega);obtain⟨rfl,_⟩:=id L0;obtain⟨_,f1,q1,_,R0,x0,_,_,F0,N0⟩:=RdS.get (U0) (s.target.toNat) (by omega);obtain⟨_,_,_,_,_,_,_,_,_,_,_,_,rfl,_⟩:=K0a.open_ N0;have q7:=(hp.thread R0).points;refine qB ((b0.q.a F0).a E0) [.o 1,.o 0,.x d1 p1,.f 0 0,.o 2,.o 0,.x f1 q1,.f 1 1] Z ⟨by omega,Z,⟨x0,by omega⟩,Z,Z,Z,⟨v0,by omega⟩,Z,Z,U⟩ (fun q0=>?_) fun q0=>?_
  ·refine qD Z U ?_;rintro r1 ⟨o0,Y0⟩;refine lT Z U Z ⟨congrArg Value.bool ?_,o0.fin⟩;rw[v4a he,getD_some d0];simp[c0,e0,n0,g0,R0,q0];done
  refine qD Z U ?_;rintro r1 ⟨o0,Y0⟩;refine lT Z U Z ⟨congrArg Value.bool ?_,o0.fin⟩;rw[v4a he,getD_some d0];simp[c0,e0,n0,g0,R0,q0];done
 refine lT Z U Z ⟨congrArg Value.bool ?_,b0.fin⟩;rw[v4a he,getD_some d0];simp[c0,e0,m0,n0];done
theorem E6a(p:j0a)(c:o1a)(M:List Nat)(w0:World)(cs xs:List Value)(hI:InP p M w0 cs)(hX:Q1a M w0 c xs)(hf:g1b p c)(he:A6a c):
 O0a prog 70 #[.agg cs.toArray,.agg xs.toArray] w0 fun v w'=>e4d M w' v (B2a p 0 c)∧Bw w0 w':=by
 obtain⟨Ac,nc,cc,Am,nm,cm,Al,nl,cl,At,nt,ct,rfl,_,_,_,x0,_⟩:=hI.rd.open_;obtain⟨Xm,xm,ym,Xa,xa,ya,Xb,xb,yb,rfl,_⟩:=hX.open_;have S:=(St.refl w0).nilEnt 75;have hp:=hI.ok;have n2:=hp.nthreads;refine a0a func70 Z ntmps70 Z ?_;refine wO0 Z U (r0a S Z ?_);intro g2 w2 S2 X2 G2;refine r0a S2 Z ?_;intro g3 w3 S3 X3 G3;refine lC S3.k [.o 1] Z ⟨Z,U⟩ (wL (fun μk D ε w=>D=[]∧∃k:Nat,∃G:Option Nat,∃f0:List Value,∃v:Value,(k+μk=(p.threads.length))∧(y1a (fun _ _=>Z6a) 3 [] w0 G f0 v (S3a p 0 c k))∧St [] w0 w [(some g3,71,[.slice Xm xm ym,.slice Xa xa ya,.slice Xb xb yb]),(some g2,27,[.slice Ac nc cc,.slice Am nm cm,.slice Al nl cl,.slice At nt ct]),(G,75,f0)]∧Sl ε [(2,.pointer (some ⟨g2,0,none⟩)),(3,.pointer (some ⟨g3,0,none⟩)),(5,v),(10,.int .i64 nt),(11,.int .i64 k)]) (μ:=(p.threads.length)) ⟨Z,0,none,[],.slice none 0 0,by omega,y1a.nil,S3,Z⟩ ?_);rintro μk D ε w ⟨rfl,k,G,f0,v,_,d0,S,eZ⟩;refine wK eZ (wB0 Z U (fun u0=>?_) fun u0=>?_)
 ·obtain⟨th,s0,y0,_,b0,i0,_,_,j0,m0⟩:=RdS.get (x0) (k) (by omega);obtain⟨_,_,_,_,_,_,_,o0,_,_,_,_,rfl,_⟩:=K0a.open_ m0;have G0:=(hp.thread b0).nsteps;refine lC (S.k.a j0) [.o 1,.x s0 y0,.f 0 4] Z ⟨Z,⟨i0,by omega⟩,Z,U⟩ (wL (fun μj D ε w=>D=[]∧∃j:Nat,∃G2:Option Nat,∃cs2:List Value,∃v2:Value,(j+μj=(th.steps.length))∧(y1a (fun _ _=>Z6a) 3 [] w0 G2 cs2 v2 (S3a p 0 c k++w3a p 0 c k j))∧St [] w0 w [(some g3,71,[.slice Xm xm ym,.slice Xa xa ya,.slice Xb xb yb]),(some g2,27,[.slice Ac nc cc,.slice Am nm cm,.slice Al nl cl,.slice At nt ct]),(G2,75,cs2)]∧Sl ε [(2,.pointer (some ⟨g2,0,none⟩)),(3,.pointer (some ⟨g3,0,none⟩)),(5,v2),(6,.int .i64 k),(10,.int .i64 nt),(11,.int .i64 k),(20,.int .i64 o0),(21,.int .i64 j)]) (μ:=(th.steps.length)) ⟨Z,0,G,f0,v,by omega,by simpa[w3a] using d0,S,Z⟩ ?_);rintro μj D ε w ⟨rfl,j,G2,cs2,v2,_,a0,S,eZ⟩;refine wK eZ (wB0 Z U (fun v0=>?_) fun v0=>?_)
  ·refine lO S.k [.w 1,.w 0] Z ⟨⟨Z,Z⟩,⟨Z,Z⟩,U⟩ ?_;obtain⟨s,n0⟩:∃s,th.steps[j]?=some s:=⟨th.steps[j]'(by omega),List.getElem?_eq_getElem _⟩;refine f0a S I8c Z Z (q1b p c k j th s M _ _ _ (hI.keep (S.keep0 M)) (hX.keep (S.keep0 M)) hf he b0 n0) (fun g0 z0 e0 r0=>?_) (fun g0 z0 e0 r0=>?_)
   ·refine lOn 4 e0.k [] Z U (N0a Z ?_);refine lO0 Z U (j1a v1d (vs:=[(0,.int .i64 _),(1,.int .i64 _)]) (cs:=[_,_,_]) Z Z Z Z ?_);refine C0a e0 x8b (vs:=[.agg _]) (cs:=[_,_,_]) Z Z Z Z Z Z ?_;intro F0 I0 p0 D0 B0;have l1:=k5a hp hf 0 k (by omega);have l2:=z0b p 0 c k j;refine P1a Y1b (k:=3) (M2:=[]) (e1:=⟨k,j,0⟩) p0 x8b Z a0 Z Z (p0.cells 0 Z) (Z6a.of (by unfold i64;omega) (by unfold i64;omega) (by unfold i64;omega)) (by rw[List.length_append];omega) Z ?_;intro H0 C0 t0 J0 q0 c0 E0 A0;refine G0a Z ?_;refine lP0 Z ⟨by omega,U⟩ ⟨μj-1,by omega,Z,(j+1),(_),(_),(_),(by omega),?_,q0.tail,Z⟩;rw[k7b b0 n0 g0,←List.append_assoc];exact c0
   refine lP0 Z ⟨by omega,U⟩ ⟨μj-1,by omega,Z,(j+1),(_),(_),(_),(by omega),?_,e0,Z⟩;rw[C9b b0 n0 g0];exact a0
  refine lP0 Z ⟨by omega,U⟩ ⟨μk-1,by omega,Z,(k+1),(_),(_),(_),(by omega),?_,S,Z⟩;rw[J6a,t0b,s5a b0,he.getD];rw[show th.steps.length=j by omega];rw[show w3a p 0 c k j++I9a 0 c k ([]:List D1a).length=w3a p 0 c k j by simp[I9a]];exact a0
 refine lOn 8 S.k [] Z U (N0a Z ?_);refine G0a Z ?_;refine lR0 Z U (A0a Z ?_);obtain rfl:k=p.threads.length:=by omega
 have l1:=k5a hp hf 0 _ (Nat.le_refl _);rw[H3b] at l1;exact⟨y1a.rd (M:=M) Y1b d0 S (k:=2) Z (fun g hg=>by subst hg;exact S1a hI.lt (S.new 2 Z)) (by omega),S.fin⟩
theorem T4a(p:j0a)(c:o1a)(M:List Nat)(w0:World)(cs xs:List Value)(hI:InP p M w0 cs)(hX:Q1a M w0 c xs)(hf:g1b p c)(he:A6a c):
 O0a prog 32 #[.agg cs.toArray,.agg xs.toArray] w0 fun v w'=>e4d M w' v (B2a p 0 c)∧Bw w0 w':=by
 obtain⟨_,_,_,_,_,_,_,_,_,_,_,_,rfl,_⟩:=hI.rd.open_;obtain⟨_,_,_,_,_,_,_,_,_,rfl,_⟩:=hX.open_;have S:=St.refl w0;refine a0a func32 Z ntmps32 Z ?_;refine wO0 Z U (r0a S Z ?_);intro g2 w2 S2 X2 G2;refine r0a S2 Z ?_;intro g3 w3 S3 X3 G3;refine lO S3.k [.w 1] Z ⟨⟨Z,by rfl⟩,U⟩ (W0a S3 t2c Z Z (P5a p M _ _ (hI.keep (S3.keep0 M))) ?_);intro w6 S6 X6;refine lO S6.k [.w 1,.w 0] Z ⟨⟨Z,by rfl⟩,⟨Z,by rfl⟩,U⟩ (W0a S6 u6c Z Z (G9a p c M _ _ _ (hI.keep (S6.keep0 M)) (hX.keep (S6.keep0 M)) hf he) ?_);intro f0 a0 c0;refine lO a0.k [.w 1,.w 0] Z ⟨⟨Z,by rfl⟩,⟨Z,by rfl⟩,U⟩ (o0a a0 s6c Z Z (E6a p c M _ _ _ (hI.keep (a0.keep0 M)) (hX.keep (a0.keep0 M)) hf he) ?_);rintro e0 g0 hr b0 d0;refine G0a Z ?_;refine lR0 Z U (A0a Z ?_);exact⟨hr,b0.fin⟩
theorem y1b(p:j0a)(c:o1a)(t i:Nat)(th:s1a)(s:Z0a)(M:List Nat)(w0:World)(cs xs:List Value)(hI:InP p M w0 cs)(hX:Q1a M w0 c xs)(hf:g1b p c)(he:A6a c)(e0:p.threads[t]?=some th)(v0:th.steps[i]?=some s)(o0:g1b p (doC p 0 c ⟨t,i,0⟩)):
 O0a prog 71 #[.agg cs.toArray,.agg xs.toArray,.agg #[.int .i64 t,.int .i64 i,.int .i64 0]] w0 fun v w'=>(∃ys,v=.agg ys.toArray∧Q1a M w' (doC p 0 c ⟨t,i,0⟩) ys)∧Bw w0 w':=by
 obtain⟨Ac,nc,cc,Am,nm,cm,Al,nl,cl,At,nt,ct,rfl,_,_,_,J1,_⟩:=hI.rd.open_;obtain⟨Xm,xm,ym,Xa,xa,ya,Xb,xb,yb,rfl,j0,I1,_,r1,u0,p1,b1,b2,b3⟩:=hX.open_;have S:=St.refl w0;have f1:=hf.mem.len;have f2:=hf.nat;have f3:=hf.nbuf;have hp:=hI.ok;have n1:=hp.ncells;have n2:=hp.nthreads;have ht:=M2a e0;have hi:=M2a v0;have o1:=(hp.thread e0).steps s (e0a v0);have N1:6≤s.kind→0≤s.target∧s.target<p.threads.length:=fun h=>(o1.row.k6 h).1;refine a0a func71 Z ntmps71 Z ?_;refine wO0 Z U (r0a S Z ?_);intro g3 w3 S3 X3 G3;refine r0a S3 Z ?_;intro g4 w4 S4 X4 G4;refine r0a S4 Z ?_;intro g5 w5 S5 X5 G5;refine h0a S5 R6b Z Z ?_;intro g6 w6 S6 X6 G6;refine lC0 Z U (d0c c0a [0,1,2,3,4,5,6,7,8,9,10,11,12,13] 14 (Cl _ _ _ _) (Cl.start S6) _ Z ?_);refine I6a Z Z ?_;refine u0a s3c Z Z ?_;refine i0a ?_;refine I6a Z Z ?_;refine k0a L5a Z (fun w1 hw=>by exact hw.1.cell 2 Z Z) Z ?_;refine i0a ?_;refine e0b Z T0a.slT Z Z ?_;refine Y6a (n:=xm) (c:=xm) Z Z Z T0a Z Z Z ?_;intro j1 y1 W0;refine I6a Z Z ?_;refine u0a Y0c Z Z ?_;refine i0a ?_;refine I6a Z Z ?_;refine k0a L5a Z (fun w1 hw=>by exact hw.1.cell 2 Z Z) Z ?_;refine i0a ?_;refine e0b Z T0a.slT Z Z ?_;refine Y6a (n:=xa) (c:=xa) Z Z Z T0a Z Z Z ?_;intro g18 z1 X0;refine I6a Z Z ?_;refine u0a g3c Z Z ?_;refine i0a ?_;refine I6a Z Z ?_;refine k0a I5c Z (fun w1 hw=>by exact hw.1.cell 2 Z Z) Z ?_;refine i0a ?_;refine e0b Z t8b.slT Z Z ?_;refine Y6a (n:=xb) (c:=xb) Z Z Z t8b Z Z Z ?_;intro m1 A1 Y0;refine I6a Z Z ?_;refine m3a g2c (vs:=[(0,.slice _ _ _),(1,.slice _ _ _),(2,.slice _ _ _)]) (cs:=[_,_,_]) Z Z Z Z ?_;refine i0a ?_;refine A9a Z Z Z R6b Z ?_;intro g7 G7 O1;refine M4b ?_;rintro h2 ⟨f0,_⟩ ⟨⟨⟨⟨-,L0⟩,N0⟩,O0⟩,K1⟩;clear W0;replace f0:=f0.push_new S6 L0 y1;replace f0:=f0.push_more (L1:=[_]) S6 N0 z1 (by simpa[eq_comm] using X0);replace f0:=f0.push_more (L1:=[_,_]) S6 O0 A1 (by simpa[eq_comm] using Y0);replace f0:=f0.push_more (L1:=[_,_,_]) S6 K1 G7 (by simpa[eq_comm] using O1);refine b0a (kk:=0) (vs:=[_,_,_]) f0 z1b Z Z Z Z Z Z Z ?_;intro u1 c0 d1;dsimp only[d0a,List.set] at c0;refine B0a ⟨Z,?_⟩;refine fO c0.k [.o 0,.o 6] Z ⟨Z,Z,U⟩ (T0c (k:=3) c0 T0a Z Z Z (j0.keep (c0.keep0 M)) Z ?_);intro e2 z0 Y1;refine lO z0.k [.o 0,.o 6] Z ⟨Z,Z,U⟩ (T0c (k:=2) z0 T0a Z Z Z (I1.keep (z0.keep0 M)) Z ?_);intro g2 A0 Z1;refine lC0 Z U (H0a c0a [0,1,2,3,4,5,6,7,8,9,10] [11] [12] Z (Cl _ _ _ _) (Cl.start A0) ?_);obtain⟨_,E1,Q1,_,U0,E0,_,_,I0,R0⟩:=RdS.get (J1) (t) (by omega);obtain rfl:=Option.some.inj (e0.symm.trans U0);obtain⟨_,_,_,_,_,_,_,_,_,_,_,_,rfl,_,_,_,t0,_⟩:=K0a.open_ R0;obtain⟨_,F1,R1,_,V0,F0,_,P0,J0,S0⟩:=RdS.get (t0) (i) (by omega);obtain rfl:=Option.some.inj (v0.symm.trans V0);obtain⟨y0,Z0,C0,p0,n0,s0,rfl,⟨_,_⟩,_,m0,_⟩:=z1a.open_ S0;refine qN ((A0.q.a J0).a I0) [.o 7,.o 5,.x E1 Q1,.f 0 4,.o 5,.x F1 R1,.v 1] Z ⟨⟨Z,P0⟩,⟨F0,by omega⟩,Z,Z,⟨E0,by omega⟩,Z,Z,U⟩ (R3a ?_);refine g6a Z Z J3b Z ?_;refine O1a ?_;rintro i2 ⟨B0,_⟩;intro g8 M1 G8 P1;dsimp only[y3a];clear P1;replace B0:=B0.push_new A0 M1 G8;refine b0a (kk:=0) (vs:=[_,_,_,_,_,_,_,_,_,_,_]) B0 O3b Z Z Z Z Z Z Z ?_;intro v1 d0 g1;dsimp only[d0a,List.set] at d0;refine lC d0.k [.o 0] Z ⟨Z,U⟩ (wL (fun μk D ε w=>D=[]∧∃k:Nat,(k+μk=(s.set.length))∧St [] w0 w [(some g8,61,[.int .i64 s.kind,.int .i64 s.frm,.int .i64 s.to,.int .i64 s.guard.op,.int .i64 s.guard.w,.int .i64 s.guard.n,.slice y0 Z0 C0,.slice p0 n0 s0,.bool s.release,.int .i64 s.target,.int .i64 s.module_]),(some g7,71,[.slice (some ⟨j1,0,none⟩) xm xm,.slice (some ⟨g18,0,none⟩) xa xa,.slice (some ⟨m1,0,none⟩) xb xb]),(some m1,189,List.replicate xb (.slice none 0 0)),(some g18,3,c.at_.map (Value.int .i64)),(some j1,3,(F5b (s.set.take k) c.mem c.mem).map (Value.int .i64)),(some g6,71,[.slice none 0 0,.slice none 0 0,.slice none 0 0]),(some g5,75,[.int .i64 t,.int .i64 i,.int .i64 0]),(some g4,71,[.slice Xm xm ym,.slice Xa xa ya,.slice Xb xb yb]),(some g3,27,[.slice Ac nc cc,.slice Am nm cm,.slice Al nl cl,.slice At nt ct])]∧Sl ε [(4,.pointer (some ⟨g4,0,none⟩)),(5,.pointer (some ⟨g5,0,none⟩)),(6,.pointer (some ⟨g6,0,none⟩)),(7,.pointer (some ⟨g7,0,none⟩)),(8,.pointer (some ⟨g8,0,none⟩)),(46,.slice p0 n0 s0),(47,.int .i64 n0),(48,.int .i64 k)]) (μ:=(s.set.length)) ⟨Z,0,by omega,d0,Z⟩ ?_);rintro μk D ε w ⟨rfl,k,_,S,eZ⟩;refine wK eZ (wB0 Z U (fun H1=>?_) fun H1=>?_)
 ·obtain⟨a,G1,T1,_,u0,G0,_,Q0,K0,T0⟩:=RdS.get (m0) (k) (by omega);obtain⟨_,_,_,rfl,_,H0⟩:=J0a.open_ T0;have q1:=(o1.set a (e0a u0)).1;unfold K1a at q1;refine lO (S.k.a K0) [.x G1 T1,.v 0] Z ⟨⟨Z,Q0⟩,⟨G0,by omega⟩,U⟩ (h0a S I3b Z Z ?_);intro a2 d2 B1 W1 V1;refine b0a (kk:=0) (vs:=[_,_,_,_,_]) B1 x3b Z Z Z Z Z Z Z ?_;intro U1 i0 D1;dsimp only[d0a,List.set] at i0;refine lC0 Z U (H0a c0a [0,1,2,3,4,5,6,7,8,9,10,11] [] [12] Z (Cl _ _ _ _) (Cl.start i0) ?_);refine qO i0.q [.o 2,.o 0,.o 0,.o 8,.o 8] Z ⟨Z,Z,Z,Z,Z,U⟩ (g2a d5b Z Z (fun w1 S1 X1=>S0b a.to M _ _ _ _ c.mem c.mem (RdE.keep (S1.keep0 M) _ _ H0) (hI.keep (S1.keep0 M)).msk (j0.keep (S1.keep0 M)) (j0.keep (S1.keep0 M))) ?_);refine q0a T0a.slT Z (by rfl) Z Z ?_;refine qD Z U ?_;rintro j2 ⟨C1,_⟩
  first|refine U0a (kk:=5) C1 W9b Z Z Z (by(simp;omega)) ?_
  intro x1 q0 i1;refine lP0 Z ⟨by omega,U⟩ ⟨μk-1,by omega,Z,(k+1),(by omega),(q0.tail.setEnt 4 Z (S0c u0 (by simp))),Z⟩
 refine lO S.k [.o 1,.o 6,.o 0] Z ⟨Z,Z,Z,U⟩ (M0a T0a.slT Z (by rfl) Z Z ?_)
 first|refine U0a (kk:=3) S W9b Z Z Z (by(simp;omega)) ?_
 intro s1 a0 a1;refine lB a0.k [.o 0] Z ⟨Z,U⟩ (fun D0=>?_) fun D0=>?_
 ·refine lO a0.k [.o 1,.o 0] Z ⟨Z,Z,U⟩ ?_;have q6:=N1 (by omega);refine M0a T0a.slT Z (by rfl) Z Z ?_
  first|refine U0a (kk:=3) a0 W9b Z Z Z (by(simp;omega)) ?_
  intro t1 g0 c1;refine lO g0.k [.w 1] Z ⟨⟨Z,Z⟩,U⟩ ?_
  first|refine b0a (kk:=5) (vs:=[_,_,_]) g0 z1b Z Z Z Z Z Z Z ?_
  intro x0 b0 r0;dsimp only[d0a,List.set] at b0;refine lR0 Z U ?_;have SF:=(b0.setEnt 3 Z (show _=(atC c t s).map (Value.int .i64) by simp[atC,D0,List.map_set])).setEnt 4 Z (show _=(F5b s.set c.mem c.mem).map (Value.int .i64) by rw[List.take_of_length_le (by omega)]);rw[a3d he e0 v0] at o0 ⊢;exact g0a (n:=3) Z c0b Z (SF.cells 5 Z) Z ⟨⟨_,Z,_,_,_,Z,SF.rdInts 4 Z (S1a hI.lt (SF.new 4 Z)) (by simp[r1]) b1 (b7b hp o0.mem),SF.rdInts 3 Z (S1a hI.lt (SF.new 3 Z)) (by rw[T3b];exact u0) b2 (k2c hp o0),SF.rdBufs 2 Z (S1a hI.lt (SF.new 2 Z)) p1 b3 he⟩,SF.fin⟩
 refine lO a0.k [.w 1] Z ⟨⟨Z,Z⟩,U⟩ ?_
 first|refine b0a (kk:=5) (vs:=[_,_,_]) a0 z1b Z Z Z Z Z Z Z ?_
 intro x0 b0 r0;dsimp only[d0a,List.set] at b0;refine lR0 Z U ?_;have SF:=(b0.setEnt 3 Z (show _=(atC c t s).map (Value.int .i64) by simp[atC,D0,List.map_set])).setEnt 4 Z (show _=(F5b s.set c.mem c.mem).map (Value.int .i64) by rw[List.take_of_length_le (by omega)]);rw[a3d he e0 v0] at o0 ⊢;exact g0a (n:=3) Z c0b Z (SF.cells 5 Z) Z ⟨⟨_,Z,_,_,_,Z,SF.rdInts 4 Z (S1a hI.lt (SF.new 4 Z)) (by simp[r1]) b1 (b7b hp o0.mem),SF.rdInts 3 Z (S1a hI.lt (SF.new 3 Z)) (by rw[T3b];exact u0) b2 (k2c hp o0),SF.rdBufs 2 Z (S1a hI.lt (SF.new 2 Z)) p1 b3 he⟩,SF.fin⟩
theorem I2d{p:j0a}{m:Int}{c:o1a}(he:A6a c){x:Y1a}(hx:x∈B2a p m c):∃(t i:Nat) (th:s1a) (s:Z0a),x=⟨t,i,0⟩∧p.threads[t]?=some th∧th.steps[i]?=some s∧z2a p m c t s=true:=by
 obtain⟨t,ht,h|h⟩:=T6a.1 hx
 ·obtain⟨i,s,hs,he,rfl⟩:=h;have a0:p.threads[t]?=some p.threads[t]:=List.getElem?_eq_getElem ht;rw[s5a a0] at hs;exact⟨t,i,_,s,Z,a0,hs,he⟩
 ·obtain⟨i,h1,-⟩:=h;rw[he.getD] at h1;simp at h1
theorem f6b(p:j0a)(c:o1a)(x:Y1a)(M:List Nat)(w0:World)(cs xs:List Value)(hI:InP p M w0 cs)(hX:Q1a M w0 c xs)(hf:g1b p c)(he:A6a c)(hx:x∈B2a p 0 c):
 O0a prog 33 #[.agg cs.toArray,.agg xs.toArray,.agg #[.int .i64 x.thread,.int .i64 x.step,.int .i64 x.cell]] w0 fun v w'=>(∃ys,v=.tuple #[.agg ys.toArray,.int .i64 0]∧Q1a M w' (doC p 0 c x) ys)∧Bw w0 w':=by
 obtain⟨t,i,th,s,rfl,q0,A0,_⟩:=I2d he hx;have z0:=p6c hI.ok hf hx;obtain⟨Ac,nc,cc,Am,nm,cm,Al,nl,cl,At,nt,ct,rfl,_⟩:=hI.rd.open_;obtain⟨Xm,xm,ym,Xa,xa,ya,Xb,xb,yb,rfl,_⟩:=hX.open_;have S:=St.refl w0;refine a0a func33 Z ntmps33 Z ?_;refine wO0 Z U (r0a S Z ?_);intro g3 w3 S3 X3 G3;refine r0a S3 Z ?_;intro g4 w4 S4 X4 G4;refine r0a S4 Z ?_;intro g5 w5 S5 X5 G5;refine h0a S5 R6b Z Z ?_;intro g6 w6 S6 X6 G6;refine lO S6.k [.w 3] Z ⟨⟨Z,Z⟩,U⟩ (W0a S6 t2c Z Z (P5a p M _ _ (hI.keep (S6.keep0 M))) ?_);intro L0 e0 G0;refine lO e0.k [.w 3,.w 2] Z ⟨⟨Z,Z⟩,⟨Z,Z⟩,U⟩ (W0a e0 u6c Z Z (G9a p c M _ _ _ (hI.keep (e0.keep0 M)) (hX.keep (e0.keep0 M)) hf he) ?_);intro N0 f0 H0;refine lO f0.k [.w 3,.w 2] Z ⟨⟨Z,Z⟩,⟨Z,Z⟩,U⟩ (o0a f0 s6c Z Z (E6a p c M _ _ _ (hI.keep (f0.keep0 M)) (hX.keep (f0.keep0 M)) hf he) ?_);rintro v22 s0 hr t0 I0;obtain⟨Ar,nr,cr,rfl⟩:=hr.form;obtain⟨_,-,_⟩:=hr.len;have b0:=y0a.refl [] s0;refine lC0 Z U (wL (fun μk D ε w=>D=[]∧∃k:Nat,(k+μk=((B2a p 0 c).length))∧(y0a [] s0 w)∧(e1a (B2a p 0 c) k (fun y=>y≠⟨t,i,0⟩))∧St [] w0 w [(some g6,71,[.slice none 0 0,.slice none 0 0,.slice none 0 0]),(some g5,75,[.int .i64 t,.int .i64 i,.int .i64 0]),(some g4,71,[.slice Xm xm ym,.slice Xa xa ya,.slice Xb xb yb]),(some g3,27,[.slice Ac nc cc,.slice Am nm cm,.slice Al nl cl,.slice At nt ct])]∧Sl ε [(3,.pointer (some ⟨g3,0,none⟩)),(4,.pointer (some ⟨g4,0,none⟩)),(5,.pointer (some ⟨g5,0,none⟩)),(6,.pointer (some ⟨g6,0,none⟩)),(22,.slice Ar nr cr),(23,.int .i64 nr),(24,.int .i64 k)]) (μ:=((B2a p 0 c).length)) ⟨Z,0,by omega,b0,e1a.zero,t0,Z⟩ ?_);rintro μk D ε w ⟨rfl,k,_,b0,hs,S,eZ⟩;refine wK eZ (wB0 Z U (fun y0=>?_) fun y0=>?_)
 ·obtain⟨y,x0,C0,_,B0,m0,_,o0,n0,p0⟩:=RdS.get ((hr.keep b0.of_nil)) (k) (by omega);obtain⟨rfl,_⟩:=id p0;refine lO (S.k.b n0) [.x x0 C0,.v 0] Z ⟨⟨Z,o0⟩,⟨m0,by omega⟩,U⟩ (h0a S V1d Z Z ?_);intro g9 w9 S9 X9 G9;have d0:=Nat.le_trans b0.size G9;replace b0:=b0.trans X9;refine b0a (kk:=0) (vs:=[_,_,_]) S9 x2d Z Z Z Z Z Z Z ?_;intro D0 a0 i0;dsimp only[d0a,List.set] at a0;replace b0:=b0.fresh i0 (by first|exact d0);refine lOn 6 a0.k [.w 2,.w 0] Z ⟨⟨Z,by rfl⟩,⟨Z,Z⟩,U⟩ (Z1d v2c Z Z Z (fun r0=>?_) fun r0=>?_)
  ·refine lO a0.k [.w 4,.w 3,.w 2] Z ⟨⟨Z,Z⟩,⟨Z,Z⟩,⟨Z,Z⟩,U⟩ (o0a a0 b1d Z Z (y1b p c t i th s (g6::M) _ _ _ (hI.add a0 (k:=1) Z) (Q1a.add hX a0 (k:=1) Z) hf he q0 A0 z0) ?_);rintro K0 O0 ⟨ys,rfl,hy⟩ u0 J0;obtain⟨_,_,_,_,_,_,_,_,_,rfl,-⟩:=hy.open_
   first|refine b0a (kk:=1) (vs:=[_,_,_]) u0 z1b Z Z Z Z Z Z Z ?_
   intro E0 c0 j0;dsimp only[d0a,List.set] at c0;replace hy:=hy.keep (j0.mono (by simp));exact lR0 Z U (Q2a (n:=3) Z c0b Z (c0.cells 1 Z) Z Z ⟨⟨_,Z,hy.less (fun g hg=>List.mem_cons_of_mem _ hg)⟩,c0.fin⟩)
  refine lP0 Z ⟨by omega,U⟩ ?_;refine⟨μk-1,by omega,Z,(k+1),(by omega),(b0),(hs.succ B0 (fun h=>r0 (by rw[h];exact⟨Z,Z,Z⟩))),a0.tail,Z⟩
 refine lO0 Z U (j1a g2c (vs:=[]) (cs:=[_,_,_]) Z Z Z Z ?_);refine b0a (kk:=0) (vs:=[_,_,_]) S z1b Z Z Z Z Z Z Z ?_;intro F0 g0 v0;dsimp only[d0a,List.set] at g0;exact lR0 Z U (absurd Z (hs.all (by omega) _ hx))
theorem RdS.take{α:Type}{M:List Nat}{w:World}{size:Nat}{R:List Value→α→Prop}{A:Option Addr}{n c:Nat}{l:List α}(h:RdS M w size R (.slice A n c) l)(i:Nat)(hi:i≤n):RdS M w size R (.slice A i c) (l.take i):=by
 obtain⟨_,_,_,he,_,_,h3,_,h5⟩:=h;cases he;refine⟨_,_,_,Z,by rw[List.length_take];omega,by omega,h3,by omega,fun h0=>?_⟩;obtain⟨b,o,hA,hb,a0⟩:=h5 (by omega);refine⟨b,o,hA,hb,fun j x hx=>a0 j x ?_⟩;rw[List.getElem?_take] at hx
 split at hx
 ·exact hx
 ·cases hx
theorem m3c(M:List Nat)(w0:World)(v:Value)(l:List Int)(a:Int)(hR:RdI M w0 v l):
 O0a prog 165 #[v,.int .i64 a] w0 fun v w'=>(∃n,v=.int .i64 n∧(0≤n↔a∈l))∧Bw w0 w':=by
 obtain⟨A,n,c,rfl⟩:=hR.form;obtain⟨_,_⟩:=hR.len;have S:=St.refl w0;refine a0a func165 Z ntmps165 Z ?_;refine wC0 Z U (wL (fun μk D ε w=>D=[]∧∃k:Nat,(k+μk=(l.length))∧(e1a (l) k (fun x=>a≠x))∧St [] w0 w []∧Sl ε [(0,.slice A n c),(1,.int .i64 a),(7,.int .i64 n),(8,.int .i64 k)]) (μ:=(l.length)) ⟨Z,0,by omega,e1a.zero,S,Z⟩ ?_);rintro μk D ε w ⟨rfl,k,_,ha,S,eZ⟩;refine wK eZ (wB0 Z U (fun h9=>?_) fun h9=>?_)
 ·obtain⟨x,f0,g0,_,e0,b0,_,_,c0,d0⟩:=RdS.get (hR) (k) (by omega);obtain⟨rfl,_⟩:=id d0;refine lB (S.k.a c0) [.x f0 g0,.f 0 0] Z ⟨Z,⟨b0,by omega⟩,U⟩ (fun a0=>?_) fun a0=>?_
  ·exact lT Z U Z ⟨⟨_,Z,⟨fun _=>a0▸e0a e0,fun _=>by omega⟩⟩,S.fin⟩
  refine lP0 Z ⟨by omega,U⟩ ⟨μk-1,by omega,Z,(k+1),(by omega),(ha.succ e0 (a0)),S,Z⟩
 exact lT Z U Z ⟨⟨_,Z,⟨fun h=>by omega,fun h=>absurd Z (ha.all (by omega) a h)⟩⟩,S.fin⟩
theorem Q4b(M:List Nat)(w0:World)(v:Value)(l:List Int)(a:Int)(hR:RdI M w0 v l):
 O0a prog 103 #[v,.int .i64 a] w0 fun v w'=>v=.bool (decide (a∈l))∧Bw w0 w':=by
 obtain⟨_,_,_,rfl⟩:=hR.form;have S:=St.refl w0;refine a0a func103 Z ntmps103 Z ?_;refine wO0 Z U (o0a S T9c Z Z (m3c M _ _ l a (hR.keep (S.keep0 M))) ?_);rintro v7 w7 ⟨_,rfl,hm⟩ S7 X7;refine lB0 Z U (fun h8=>?_) fun h8=>?_
 ·refine lR0 Z U (A0a Z ?_);exact⟨by rw[decide_eq_true (hm.1 (by omega))],S7.fin⟩
 refine lR0 Z U (A0a Z ?_);exact⟨by rw[decide_eq_false (fun hh=>absurd (hm.2 hh) (by omega))],S7.fin⟩
section
variable {d:Nat} {t:TypeId} {p:String} {af:Array Edge} {x y:Operand} {yt:TypeId}
theorem i8b{ty size n c:Nat}{A:Option Addr}(hT:SlT P ty size)(hx:ev e x=.slice A n c)(hy:ev e y=.slice none 0 0)(hd:Nat.ble (d+1) N=true)
 (h1:A=none→WL P r N ops rest K D (upd e d (.bool true)) w) (h2:A.isSome=true→WL P r N ops rest K D (upd e d (.bool false)) w) :
 WL P r N ops (⟨some d,.binOp .eql ty x y yt,t,p,af,none⟩::rest) K D e w:=by
 obtain⟨el,hu,_⟩:=y6a hT;have hr:=Lib.run_eql_slice_nil (P:=P) w ty el A n c 0 0 hu;cases A with
 | none=>exact X0a Z Z hd (by simp[execOp,hx,hy,eqGuard,hr]) (h1 Z)
 | some a=>exact X0a Z Z hd (by simp[execOp,hx,hy,eqGuard,hr]) (h2 Z)
end
def f0d(mem:List Int)(e:D1a)(k:Nat):List Int:=((e.cells.zip e.values).take k).foldl (fun m x=>m.set x.1.toNat x.2) mem
theorem c7a:∀(l:List (Int×Int)) (mem:List Int),(l.foldl (fun m x=>m.set x.1.toNat x.2) mem).length=mem.length
 | [],_=>rfl
 | x::l,mem=>by rw[List.foldl_cons,c7a l,List.length_set]
@[simp] theorem m8c(mem:List Int)(e:D1a)(k:Nat):(f0d mem e k).length=mem.length:=c7a _ _
@[simp] theorem Q8b(mem:List Int)(e:D1a):(u0b mem e).length=mem.length:=c7a _ _
def s1d(c:o1a)(b:List D1a)(k:Nat):List Int:=(b.take k).foldl u0b c.mem
theorem o5b:∀(l:List D1a) (m:List Int),(l.foldl u0b m).length=m.length
 | [],_=>rfl
 | x::l,m=>by rw[List.foldl_cons,o5b l,Q8b]
@[simp] theorem B0d(c:o1a)(b:List D1a)(k:Nat):(s1d c b k).length=c.mem.length:=o5b _ _
theorem Q0c(M:List Nat)(w0:World)(v:Value)(l:List Int)(hR:RdI M w0 v l)(hl:l.length≤100000000):
 O0a prog 145 #[v] w0 fun v w'=>z3a 3 w0 w' v l∧Bw w0 w':=by
 obtain⟨_,n,_,rfl⟩:=hR.form;obtain⟨_,_⟩:=hR.len;have S:=St.refl w0;refine a0a func145 Z ntmps145 Z ?_;refine wOn 9 S.k [] Z U (i8b T0a.slT Z Z Z (fun h4=>?_) fun h4=>?_)
 ·refine lR0 Z U (A0a Z ?_);subst h4;obtain⟨A',n',c',he,h1,h2,h3,h5,h6⟩:=hR;cases he;have h0:l.length=0:=by
   rcases Nat.eq_zero_or_pos n with h|h
   ·omega
   ·obtain⟨_,_,h7,_⟩:=h6 h;cases h7
  obtain rfl:=List.length_eq_zero_iff.1 h0;exact⟨⟨none,[],b4a.nil 1,fun g hg=>by cases hg⟩,S.fin⟩
 refine lO0 Z U (D7a S T0a Z ?_);intro g5 w5 S5 X5 G5;refine lO0 Z U (h5a (hbytes:=(by decide)) (k:=0) (xs:=[]) S5 T0a Z b4a.new Z Z (hR.keep (S5.keep0 M)) (by simpa using hl) Z ?_);intro v7 G7 a0 w7 S7 R7 X7;refine G0a Z ?_;refine lR0 Z U (A0a Z ?_);refine⟨⟨G7,a0,by simpa using R7,fun g hg=>?_⟩,S7.fin⟩;subst hg;exact⟨by simpa using S7.new 0 Z,S7.blk 0 Z⟩
theorem A6b.i64s{p:j0a}{e:D1a}(h:A6b p e):∀x∈e.cells,0≤x∧x<p.cells.length:=fun x hx=>by
 obtain⟨i,hi,rfl⟩:=List.getElem_of_mem hx;exact(h.cells i _ (List.getElem?_eq_getElem hi)).1
section
variable {M:List Nat} {w0 w w':World} {L:List Ent}
theorem St.fill(S:St M w0 w L)(j:Nat){t':TypeId}{b0:List Value}{g:Nat}(hb:Below w.heap.size w w')(hg:p0a w' (g,t',b0))(d0:w.heap.size≤g):St M w0 w' (L.set j (some g,t',b0)):=by
 have S':=S.later hb;have a0:∀b∈L,b.1≠some g:=fun b hm hh=>by
  have:=(S.own b hm g hh).2.lt;simp at this;omega
 refine⟨S'.below,fun b hm x hx=>?_,?_⟩
 ·rcases List.mem_or_eq_of_mem_set hm with h|rfl
  ·exact S'.own b h x hx
  ·cases hx;exact⟨.inl (Nat.le_trans S.size d0),hg⟩
 ·rw[List.pairwise_iff_getElem];intro i k hi hk c0 x hx;rw[List.length_set] at hi hk;rw[List.getElem_set] at hx ⊢
  split at hx
  ·cases hx
   split
   ·omega
   ·exact a0 _ (List.getElem_mem hk)
  ·split
   ·intro hh;cases hh;exact a0 _ (List.getElem_mem hi) hx
   ·exact(List.pairwise_iff_getElem.1 S.apart) i k hi hk c0 x hx
end
theorem b4a.form{G:Option Nat}{size n:Nat}{cs xs:List Value}{v:Value}(h:b4a G size n cs v xs):∃A n c,v=.slice A n c:=by
 rcases h with⟨_,⟨_,rfl,_⟩|⟨g,a0,_,rfl,_⟩⟩
 ·exact⟨_,_,_,Z⟩
 ·exact⟨_,_,_,Z⟩
theorem n4d(A a0:List Ent)(k n:Nat)(hn:A.length=n):(A++a0)[n+k]?=a0[k]?:=by
 subst hn;rw[List.getElem?_append_right (by omega)];congr 1;omega
theorem y1a.more{α:Type}{R:List Nat→World→List Value→α→Prop}{size:Nat}(hL:M4a R size){M M':List Nat}{w:World}{G:Option Nat}{cs:List Value}{v:Value}{l:List α}(h:y1a R size M w G cs v l)(hm:∀g∈M',(g∈G.toList∨g∈M)∨w.heap.size≤g):y1a R size M' w G cs v l:=by
 obtain⟨css,h1,h2,h3,h4⟩:=h;refine⟨css,h1,h2,h3,fun i x hi=>?_⟩;obtain⟨c,h5,h6⟩:=h4 i x hi;refine⟨c,h5,hL.more (fun g hg=>?_) h6⟩;rcases List.mem_append.1 hg with hg|hg
 ·exact .inl (List.mem_append_left _ hg)
 ·rcases hm g hg with h|h
  ·exact .inl (List.mem_append.2 h)
  ·exact .inr h
def b1b(rows:List Ent):List Nat:=rows.filterMap (·.1)
theorem i4a{a0:List Ent}{g:Nat}:g∈b1b a0↔∃b∈a0,b.1=some g:=by unfold b1b;rw[List.mem_filterMap]
def V4a(tE:TypeId)(M:List Nat)(w:World)(rows:List Ent)(vs:List Value)(bs:List (List D1a)):Prop :=
 rows.length=bs.length∧vs.length=bs.length∧∀(i:Nat) (b:List D1a),bs[i]?=some b→∃G cs v,rows[i]?=some (G,tE,cs)∧vs[i]?=some v∧y1a V2a 2 (M++b1b rows) w G cs v b
theorem V4a.keep{tE:TypeId}{M:List Nat}{w w':World}{a0:List Ent}{vs:List Value}{bs:List (List D1a)}(h:V4a tE M w a0 vs bs)(hk:y0a (M++b1b a0) w w'):V4a tE M w' a0 vs bs:=by
 obtain⟨h1,h2,h3⟩:=h;refine⟨h1,h2,fun i b hi=>?_⟩;obtain⟨G,cs,v,h4,h5,h6⟩:=h3 i b hi;exact⟨G,cs,v,h4,h5,h6.keep Q3a (hk.mono fun g hg=>List.mem_append_right _ hg)⟩
theorem V4a.nil{tE:TypeId}{M:List Nat}{w:World}(n:Nat):V4a tE M w (List.replicate n (none,tE,[])) (List.replicate n (.slice none 0 0)) (List.replicate n []):=by
 refine⟨by simp,by simp,fun i b hi=>?_⟩;obtain⟨a0,rfl⟩:=List.getElem?_eq_some_iff.1 hi;simp only[List.length_replicate] at a0;refine⟨none,[],.slice none 0 0,by simp[a0],by simp[a0],?_⟩;simp only[List.getElem_replicate];exact y1a.nil
theorem Z7c{a0:List Ent}{k:Nat}{G':Option Nat}{tE:TypeId}{b0:List Value}{g:Nat}(h:g∈b1b (a0.set k (G',tE,b0))):g∈b1b a0∨g∈G'.toList:=by
 obtain⟨b,hb,hg⟩:=i4a.1 h;rcases List.mem_or_eq_of_mem_set hb with h|rfl
 ·exact .inl (i4a.2 ⟨b,h,hg⟩)
 ·right;cases hg;simp
theorem V4a.put{tE:TypeId}{M:List Nat}{w w1:World}{a0:List Ent}{vs:List Value}{bs:List (List D1a)}(h:V4a tE M w a0 vs bs){k:Nat}{G G':Option Nat}{cs b0:List Value}{v':Value}{b':List D1a}(hk:k<bs.length)
 (e0:y1a V2a 2 (M++b1b a0) w1 G' b0 v' b') (X:y0a G.toList w w1) (F:∀g∈G'.toList,g∈G.toList∨w.heap.size≤g) (i0:a0[k]?=some (G,tE,cs)):V4a tE M w1 (a0.set k (G',tE,b0)) (vs.set k v') (bs.set k b'):=by
 obtain⟨h1,h2,h3⟩:=h;have g0:∀g∈G.toList,g∈b1b a0:=fun g hg=>i4a.2 ⟨_,List.mem_of_getElem? i0,by cases G<;>simp at hg ⊢;exact hg.symm⟩;have c0:∀g∈M++b1b (a0.set k (G',tE,b0)),(g∈M++b1b a0∨g∈G'.toList):=fun g hg=>by
  rcases List.mem_append.1 hg with h|h
  ·exact .inl (List.mem_append_left _ h)
  ·rcases Z7c h with h|h
   ·exact .inl (List.mem_append_right _ h)
   ·exact .inr h
 refine⟨by simp[h1],by simp[h2],fun i b hi=>?_⟩;rw[List.getElem?_set] at hi;by_cases d0:k=i
 ·subst d0;rw[if_pos rfl,if_pos hk] at hi;cases hi;exact⟨G',b0,v',by rw[List.getElem?_set_self (by omega)],by rw[List.getElem?_set_self (by omega)],e0.more Q3a fun g hg=>by
   rcases c0 g hg with h|h
   ·exact .inl (.inr h)
   ·exact .inl (.inl h)⟩
 ·rw[if_neg d0] at hi;obtain⟨Gi,f0,vi,h4,h5,h6⟩:=h3 i b hi;refine⟨Gi,f0,vi,by rw[List.getElem?_set_ne d0];exact h4,by rw[List.getElem?_set_ne d0];exact h5,?_⟩;have e1:y1a V2a 2 (G.toList++(M++b1b (a0.set k (G',tE,b0)))) w Gi f0 vi b:=h6.more Q3a fun g hg=>by
   rcases List.mem_append.1 hg with h|h
   ·exact .inl (.inr (List.mem_append_right _ (g0 g h)))
   ·rcases c0 g h with h|h
    ·exact .inl (.inr h)
    ·rcases F g h with h|h
     ·exact .inl (.inr (List.mem_append_right _ (g0 g h)))
     ·exact .inr h
  exact(e1.keep Q3a (X.mono fun g hg=>List.mem_append_right _ (List.mem_append_left _ hg))).more Q3a fun g hg=>.inl (.inr (List.mem_append_right _ hg))
theorem V4a.rd{tE:TypeId}{M M' Mx:List Nat}{w0 w:World}{A a0:List Ent}{vs:List Value}{bs:List (List D1a)}(h:V4a tE M w a0 vs bs)(S:St M' w0 w (A++a0))(hx:∀g∈Mx,g∈M)(hM:∀g∈Mx,g∉b1b a0)(hl:∀b∈bs,b.length≤1000):
 ∀(i:Nat) (b:List D1a),bs[i]?=some b→∃v,vs[i]?=some v∧G3d Mx w v b:=fun i b hi=>by
 obtain⟨_,_,h3⟩:=h;obtain⟨G,cs,v,h4,h5,h6⟩:=h3 i b hi;refine⟨v,h5,?_⟩;have h7:y1a V2a 2 Mx w G cs v b:=h6.more Q3a fun g hg=>.inl (.inr (List.mem_append_left _ (hx g hg)));refine h7.rd Q3a S (k:=A.length+i) (el:=tE) (by rw[n4d A a0 i _ rfl];exact h4) (fun g hg hm=>hM g hm (i4a.2 ⟨_,List.mem_of_getElem? h4,hg⟩)) (by have:=hl b (List.mem_of_getElem? hi);omega)
theorem V4a.less{tE:TypeId}{M M':List Nat}{w:World}{a0:List Ent}{vs:List Value}{bs:List (List D1a)}(h:V4a tE M w a0 vs bs)(hm:∀g∈M',g∈M):V4a tE M' w a0 vs bs:=by
 obtain⟨h1,h2,h3⟩:=h;refine⟨h1,h2,fun i b hi=>?_⟩;obtain⟨G,cs,v,h4,h5,h6⟩:=h3 i b hi;exact⟨G,cs,v,h4,h5,h6.more Q3a fun g hg=>.inl (.inr (by
  rcases List.mem_append.1 hg with h|h
  ·exact List.mem_append_left _ (hm g h)
  ·exact List.mem_append_right _ h))⟩
theorem B7b{α:Type}{l:List α}{k:Nat}{x:α}(h:l[k]?=some x):l.set k x=l:=by
 obtain⟨a0,rfl⟩:=List.getElem?_eq_some_iff.1 h;exact List.set_getElem_self a0
theorem RdI.i64s{M:List Nat}{w:World}{v:Value}{l:List Int}(h:RdI M w v l):∀x∈l,i64 x:=fun x hx=>by
 obtain⟨_,_,_,rfl⟩:=h.form;obtain⟨i,hi,rfl⟩:=List.getElem_of_mem hx;obtain⟨_,_,_,_,h5⟩:=h.at;obtain⟨_,_,_,_,a0⟩:=h5 (by omega);obtain⟨_,_,_,h6⟩:=a0 i _ (List.getElem?_eq_getElem hi);exact h6.2
theorem z3a.rd{el:Nat}{w w1:World}{v:Value}{l:List Int}(h:z3a el w w1 v l){M:List Nat}(hM:∀g∈M,g<w.heap.size)(hl:∀x∈l,i64 x)(hb:Below w.heap.size w w1)(a0:l.length≤140737488355328):RdI M w1 v l:=by
 obtain⟨_,_,h1,S⟩:=h.open_ ((St.refl w).later hb) (St.refl w);exact h1.rdI S (k:=0) Z hM hl a0
theorem St.sublist{M:List Nat}{w0 w:World}{L L':List Ent}(S:St M w0 w L)(h:L'.Sublist L):St M w0 w L':=⟨S.below,fun b hb=>S.own b (h.subset hb),S.apart.sublist h⟩
theorem St.perm{M:List Nat}{w0 w:World}{L L':List Ent}(S:St M w0 w L)(h:L.Perm L'):St M w0 w L' :=
 ⟨S.below,fun b hb=>S.own b (h.symm.subset hb),(h.pairwise_iff (fun b0 g hg a0=>b0 g a0 hg)).1 S.apart⟩
theorem y1a.erase{α:Type}{R:List Nat→World→List Value→α→Prop}{size:Nat}(hL:M4a R size){M:List Nat}{w w1:World}{G:Option Nat}{a0:List Value}{v:Value}{l:List α}{css:List (List Value)}(l1:css.length=l.length)(l2:∀x∈css,x.length=size)(l4:∀(i:Nat) (x:α),l[i]?=some x→∃c,css[i]?=some c∧R (G.toList++M) w c x)
 {i:Nat} (hi:i<l.length) (rv:b4a G size (l.length-1) a0 v (css.eraseIdx i).flatten) (hk:y0a (G.toList++M) w w1):y1a R size M w1 G a0 v (l.eraseIdx i):=by
 have b0:(l.eraseIdx i).length=l.length-1:=by rw[List.length_eraseIdx,if_pos hi]
 refine⟨css.eraseIdx i,by rw[b0,List.length_eraseIdx,if_pos (by omega),l1],fun x hx=>l2 x (List.mem_of_mem_eraseIdx hx),by rw[b0];exact rv,fun k x hx=>?_⟩;rw[List.getElem?_eraseIdx] at hx ⊢
 split
 ·rename_i h;rw[if_pos h] at hx;obtain⟨c,h5,h6⟩:=l4 k x hx;exact⟨c,h5,hL.keep hk h6⟩
 ·rename_i h;rw[if_neg h] at hx;obtain⟨c,h5,h6⟩:=l4 (k+1) x hx;exact⟨c,h5,hL.keep hk h6⟩
theorem y0a.fresh2{a b c:World}{Q:List Nat}{g:Nat}(h:y0a Q a b)(k:y0a [g] b c)(hg:a.heap.size≤g∨g∈Q):y0a Q a c :=
 ⟨Nat.le_trans h.size k.size,fun i hi hm=>(k.same i (Nat.lt_of_lt_of_le hi h.size) (fun hh=>by rw[List.mem_singleton] at hh;subst hh;rcases hg with hg|hg;omega;exact hm hg)).trans (h.same i hi hm)⟩
theorem y0a.freshL{a b c:World}{Q Gs:List Nat}(h:y0a Q a b)(k:y0a Gs b c)(hg:∀g∈Gs,a.heap.size≤g∨g∈Q):y0a Q a c :=
 ⟨Nat.le_trans h.size k.size,fun i hi hm=>(k.same i (Nat.lt_of_lt_of_le hi h.size) (fun hh=>by rcases hg i hh with hg|hg;omega;exact hm hg)).trans (h.same i hi hm)⟩
theorem i1d{M:List Nat}{w0 w:World}{L:List Ent}(S:St M w0 w L){G:Option Nat}{t:TypeId}{cs:List Value}{k:Nat}(hk:L[k]?=some (G,t,cs)):∀g∈G.toList,g<w.heap.size:=fun g hg=>by
 have:G=some g:=by cases G<;>simp at hg ⊢;exact hg.symm
 subst this;exact S.lt k hk
theorem y5b(Mx M:List Nat)(w0:World)(v:Value)(l:List Int)(hR:RdI M w0 v l)(hl:l.length≤100000000)(hM:∀g∈Mx,g<w0.heap.size):
 O0a prog 145 #[v] w0 fun v w'=>RdI Mx w' v l∧Below w0.heap.size w0 w' :=
 (Q0c M w0 v l hR hl).mono fun _ _ h=>⟨h.1.rd hM hR.i64s h.2 (by omega),h.2⟩
section
variable {d:Nat} {t:TypeId} {p:String} {af:Array Edge} {x y:Operand} {kd:IntKind}
theorem U8c{o:Oper}{v:Value}{w':World}(hg:o.guard=none)(b0:o.dst=none)(a0:∀c,o.op≠.defer c)
 (d0:(execOp (ev e) o).run P w=.ok (.value v) w') (h:WL P r N ops rest K D e w'):WL P r N ops (o::rest) K D e w:=by
 unfold WL at *;intro a Q hs e0 he hK;have c0:=h a Q hs e0 he hK;simp only[wpListIn,Region.wanted,hg,if_true];refine⟨I0a o w _,?_⟩;have:Oper.semAt (fc r).round a.eval o=execOp (ev e) o:=by rw[Oper.semAt_eq _ _ _ a0,C2a,he]
 rw[this,d0,Oper.uponIn_value,b0];exact c0
end
theorem f5b{size:Nat}:∀(css:List (List Value)) (i:Nat),(∀x∈css,x.length=size)→css.flatten.take (i*size)=(css.take i).flatten
 | [],i,_=>by simp
 | x::css,0,_=>by simp
 | x::css,i+1,h=>by
   have hx:=h x (by simp);rw[List.flatten_cons,List.take_succ_cons,List.flatten_cons,←f5b css i (fun y hy=>h y (by simp[hy])),Nat.add_mul,Nat.one_mul,List.take_append,hx,Nat.add_sub_cancel,List.take_of_length_le (by omega)]
theorem a5a:∀(vs cs:List Value) (o:Nat),(d0a cs o vs).length=cs.length
 | [],_,_=>rfl
 | v::vs,cs,o=>by rw[d0a,a5a vs,List.length_set]
theorem i0b:∀(vs cs:List Value) (o n:Nat),n≤o→(d0a cs o vs).take n=cs.take n
 | [],_,_,_,_=>rfl
 | v::vs,cs,o,n,h=>by rw[d0a,i0b vs _ _ _ (by omega),List.take_set_of_le h]
theorem C6b{p:j0a}{t n:Int}{s:Z0a}(h:G4a p t n s):s.set.length≤p.cells.length:=by
 have:=k7a p.cells.length (s.set.map i1a.cell) (by unfold List.Nodup;rw[List.pairwise_map];exact h.once) (fun x hx=>by
  obtain⟨a,ha,rfl⟩:=List.mem_map.1 hx;exact(h.set a ha).1)
 simpa using this
abbrev u7b:List Nat→World→List Value→Int→Prop:=fun _ _=>e9c
def NC(w:World)(rs:List (Nat×Obj)):Prop:=∀x∈rs,w.heap[x.1]?=some x.2∧∀a t f,x.2≠.cells a t f
theorem NC.nil{w:World}:NC w []:=fun x hx=>by cases hx
theorem NC.lt{w:World}{rs:List (Nat×Obj)}(h:NC w rs):∀x∈rs,x.1<w.heap.size:=fun x hx=>by
 have:=(h x hx).1;rcases Nat.lt_or_ge x.1 w.heap.size with h'|h'
 ·exact h'
 ·rw[Array.getElem?_eq_none h'] at this;cases this
theorem NC.keep{w w':World}{rs:List (Nat×Obj)}(h:NC w rs)(k:y0a [] w w'):NC w' rs:=fun x hx=>⟨(k.same x.1 (h.lt x hx) (by simp)).trans (h x hx).1,(h x hx).2⟩
theorem NC.ne{w:World}{rs:List (Nat×Obj)}(h:NC w rs){g t:Nat}{cs:List Value}(hg:p0a w (g,t,cs)):∀x∈rs,x.1≠g:=fun x hx he=>by
 have h1:=(h x hx).1;rw[he] at h1;unfold p0a at hg;rw[hg] at h1;exact(h x hx).2 _ _ _ (Option.some.inj h1).symm
theorem NC.keepS{w w':World}{rs:List (Nat×Obj)}(h:NC w rs){g t:Nat}{cs:List Value}(k:y0a [g] w w')(hg:p0a w (g,t,cs)):NC w' rs:=fun x hx =>
 ⟨(k.same x.1 (h.lt x hx) (by rw[List.mem_singleton];exact h.ne hg x hx)).trans (h x hx).1,(h x hx).2⟩
theorem NC.tail{w:World}{x:Nat×Obj}{rs:List (Nat×Obj)}(h:NC w (x::rs)):NC w rs:=fun y hy=>h y (List.mem_cons_of_mem _ hy)
theorem NC.cons{w:World}{x:Nat×Obj}{rs:List (Nat×Obj)}(h:NC w rs)(h1:w.heap[x.1]?=some x.2)(h2:∀a t f,x.2≠.cells a t f):NC w (x::rs):=fun y hy=>by
 rcases List.mem_cons.1 hy with rfl|hy
 ·exact⟨h1,h2⟩
 ·exact h y hy
theorem NC.put{w:World}{l:Nat}{o o':Obj}{rs:List (Nat×Obj)}(h:NC w ((l,o)::rs))(hl:∀x∈rs,x.1≠l)(ho:∀a t f,o'≠.cells a t f):NC (w.putObj l o') ((l,o')::rs):=by
 have a0:=h.lt (l,o) (by simp);refine NC.cons (fun x hx=>⟨?_,(h.tail x hx).2⟩) (World.putObj_heap_same a0) ho;rw[World.putObj_heap_other (hl x hx)];exact(h.tail x hx).1
theorem St.putObj{M:List Nat}{w0 w:World}{L:List Ent}(S:St M w0 w L){l:Nat}(o:Obj){rs:List (Nat×Obj)}{o1:Obj}(h:NC w rs)(hx:(l,o1)∈rs)(hl:w0.heap.size≤l∨l∈M):St M w0 (w.putObj l o) L:=by
 refine⟨S.below.putObj o hl,fun b hb g hg=>⟨(S.own b hb g hg).1,(S.own b hb g hg).2.putObj (fun he=>?_)⟩,S.apart⟩;exact h.ne (S.own b hb g hg).2 _ hx he.symm
def R5b(rs:List Nat):List (Nat×Obj):=rs.map fun r=>(r,.deferred (some []))
theorem x2c{rs:List Nat}{x:Nat×Obj}(h:x∈R5b rs):x.1∈rs:=by
 obtain⟨_,hr,rfl⟩:=List.mem_map.1 h;exact hr
def p9a(P:Program)(fn:Func)(R:Value→World→Prop)(D:List Deferred)(e:Env)(w:World):Prop :=
 ∃rs:List Nat,D=rs.map G1b∧rs.Nodup∧NC w (R5b rs)∧∀w',E0a rs w w'→w'.heap.size=w.heap.size→∀tmps:Array Value,Y0a { tmps,defers:=[] }=e→∃v,(results fn tmps).run P w'=.ok v w'∧R v w'
theorem P8a{P:Program}{fn:Func}{tmps:Array Value}{R:Value→World→Prop}:∀(rs:List Nat) (w:World),rs.Nodup→NC w (R5b rs)→(∀w',E0a rs w w'→w'.heap.size=w.heap.size→∃v,(results fn tmps).run P w'=.ok v w'∧R v w') →
 LeavesInM Fence.wide 0 P fn tmps (fun en w'=>∃v,en=.returned v∧R v w') (rs.map G1b) .returning w
 | [],w,_,_,h=>by
   obtain⟨v,h1,h2⟩:=h w (E0a.refl _ _) Z;exact⟨v,h1,v,Z,h2⟩
 | r::rs,w,hn,hO,h=>by
   obtain⟨a0,b0⟩:=List.nodup_cons.1 hn;have hr:w.heap[r]?=some (.deferred (some [])):=(hO (r,.deferred (some [])) (by simp[R5b])).1;refine⟨by simp,.inl ⟨r,_,Z,run_takeDeferred hr,P8a rs _ b0 (fun x hx=>⟨?_,(hO x (by simp[R5b] at hx ⊢;exact .inr hx)).2⟩) fun w' hb hs=>?_⟩⟩
   ·rw[World.putObj_heap_other (show x.1≠r from fun he=>a0 (by rw[←he];exact x2c hx))];exact(hO x (by simp[R5b] at hx ⊢;exact .inr hx)).1
   ·refine h w' ⟨hb.os,hb.tape,hb.output,by simpa using hb.size,fun k hk hm=>?_⟩ (by simpa using hs);simp only[List.mem_cons,not_or] at hm;rw[hb.block k (by simpa using hk) hm.2,World.putObj_heap_other hm.1]
theorem U5b{P:Program}{N:Nat}{w:World}{f:FuncId}{fn:Func}{c:Code}{args:Array Value}{R:Value→World→Prop}(hf:P.funcs[f]?=some fn)(hb:fn.body=some c)(hN:fn.ntmps=N)(a0:Nat.ble args.size N=true)
 (h:W P none N c ⟨p9a P fn R,fun _ _ _ _=>False,p9a P fn R⟩ [] (d0b args) w):O0a P f args w R:=by
 subst hN;unfold W at h;have b0:(args++Array.replicate (fn.ntmps-args.size) undef).size=fn.ntmps:=by
  have:=Nat.le_of_ble_eq_true a0;simp;omega
 have h1:=h { tmps:=args++Array.replicate (fn.ntmps-args.size) undef,defers:=[] } b0 Z (W0b _ _);have key:∀(a:Act) (w:World),p9a P fn R a.defers (Y0a a) w→LeavesInM Fence.wide 0 P fn a.tmps (fun en w'=>∃v,en=.returned v∧R v w') a.defers .returning w:=by
  intro a w hq;obtain⟨rs,hD,hn,hO,hq⟩:=hq;rw[hD];exact P8a rs w hn hO fun w' hb hs=>hq w' hb hs a.tmps Z
 refine callsIn_wide (n:=0).1 (callsIn_of_wp_marks hf hb trivial (wpIn_mono h1 fun ex a w hq=>?_));cases ex with
 | normal=>exact key a w hq.2
 | ret=>exact key a w hq.2
 | exit id=>exact hq.2
 | goto l=>exact hq
 | panic c=>exact hq.elim
 | outgrown=>exact hq.elim
theorem y0a.of_belowM{M:List Nat}{w w':World}(h:E0a M w w'):y0a M w w':=⟨h.size,h.block⟩
theorem c7b{w wi:World}{rs:List (Nat×Obj)}{rc:Loop}(hO:NC w rs)(a0:wi.heap[w.heap.size]?=some (.deferred (some [])))(hl:wi.heap[w.heap.size+1]?=some (.loop rc))(hB:Below w.heap.size w wi):NC wi ((w.heap.size+1,.loop rc)::(w.heap.size,.deferred (some []))::rs) :=
 ((hO.keep (y0a.of_below hB)).cons a0 (by simp)).cons hl (by simp)
theorem q1c{w0 w:World}{L:List Ent}{M:List Nat}(S:St [] w0 w L){i j g g' t t':Nat}{cs a0:List Value}(h0:L[i]?=some (some g,t,cs))(h1:L[j]?=some (some g',t',a0)):∀x∈g::g'::M,x∈M∨w0.heap.size≤x:=fun x hx=>by
 rcases List.mem_cons.1 hx with rfl|hx
 ·exact .inr (by simpa using S.new i h0)
 ·rcases List.mem_cons.1 hx with rfl|hx
  ·exact .inr (by simpa using S.new j h1)
  ·exact .inl hx
theorem J2d{w0 w:World}{L:List Ent}{M:List Nat}(S:St [] w0 w L){i j g g' t t':Nat}{cs a0:List Value}(h0:L[i]?=some (some g,t,cs))(h1:L[j]?=some (some g',t',a0))(hM:∀g∈M,g<w0.heap.size):∀x∈g::g'::M,x<w.heap.size:=fun x hx=>by
 rcases List.mem_cons.1 hx with rfl|hx
 ·exact S.lt i h0
 ·rcases List.mem_cons.1 hx with rfl|hx
  ·exact S.lt j h1
  ·exact Nat.lt_of_lt_of_le (hM x hx) S.size
theorem InP.two{p:j0a}{M:List Nat}{w0 w:World}{cs:List Value}(h:InP p M w0 cs){L:List Ent}(S:St [] w0 w L){i j g g' t t':Nat}{ds a0:List Value}(h0:L[i]?=some (some g,t,ds))(h1:L[j]?=some (some g',t',a0)):InP p (g::g'::M) w cs :=
 ⟨(h.rd.more (q1c S h0 h1)).keep (S.keep0 _),h.ok,(h.msk.more (q1c S h0 h1)).keep (S.keep0 _),J2d S h0 h1 h.lt⟩
def M1d(p:j0a)(m:Int)(c:o1a):List Y1a→List o1a
 | []=>[]
 | x::l=>if x∈B2a p m c then doC p m c x::M1d p m (doC p m c x) l else[]
def X2d(p:j0a)(m:Int)(run:List Y1a):List o1a:=V1a p::M1d p m (V1a p) run
theorem I0c{p:j0a}{m:Int}{c:o1a}(he:A6a c){x:Y1a}(hx:x∈B2a p m c):∃(t i:Nat) (th:s1a) (s:Z0a),x=⟨t,i,0⟩∧p.threads[t]?=some th∧th.steps[i]?=some s∧z2a p m c t s=true:=by
 obtain⟨t,ht,h|h⟩:=T6a.1 hx
 ·obtain⟨i,s,hs,he,rfl⟩:=h;have a0:p.threads[t]?=some p.threads[t]:=List.getElem?_eq_getElem ht;rw[s5a a0] at hs;exact⟨t,i,_,s,Z,a0,hs,he⟩
 ·obtain⟨i,h1,-⟩:=h;rw[he.getD] at h1;simp at h1
section
variable {p:j0a} {m:Int}
def Good(p:j0a)(m:Int)(c:o1a):Prop:=g1b p c∧(m=0→A6a c)
theorem V9b(hp:p1a p):Good p m (V1a p):=⟨Y0b hp,fun _ b hb=>by
 simp only[V1a,List.mem_map] at hb;obtain⟨_,_,rfl⟩:=hb;rfl⟩
theorem W9c(hp:p1a p){c:o1a}(h:Good p m c){x:Y1a}(hx:x∈B2a p m c):Good p m (doC p m c x):=⟨p6c hp h.1 hx,fun h0=>by
 subst h0;obtain⟨_,_,_,_,rfl,a0,hs,_⟩:=I0c (h.2 Z) hx;rw[a3d (h.2 rfl) a0 hs];exact h.2 Z⟩
end
theorem InP.grow{p:j0a}{Bs0 M0 N:List Nat}{w0 w:World}{cs:List Value}(h:InP p (Bs0++M0) w0 cs)(hK:y0a Bs0 w0 w)(hN:∀g∈N,g∈Bs0++M0∨w0.heap.size≤g)(a0:∀g∈N,g<w.heap.size):InP p N w cs:=by
 have hm:∀g∈Bs0++N,g∈Bs0++M0∨w0.heap.size≤g:=fun g hg=>by
  rcases List.mem_append.1 hg with h|h
  ·exact .inl (List.mem_append_left _ h)
  ·exact hN g h
 have hk:y0a (Bs0++N) w0 w:=hK.mono fun g hg=>List.mem_append_left _ hg;exact⟨((h.rd.more hm).keep hk).less fun g hg=>List.mem_append_right _ hg,h.ok,⟨fun hh=>((h.msk.more hm).keep hk).1 (List.mem_append_right _ hh),((h.msk.more hm).keep hk).2⟩,a0⟩
structure o6c (p:j0a) (m:Int) (run:List Y1a) (l:Nat) (Bs0 M0:List Nat) (w0:World) (J:Nat→Nat→List Nat→World→Prop) (Q:World→Prop):Prop where
 start:∀g5 w,w0.heap.size≤g5→Below w0.heap.size w0 w→J g5 0 Bs0 w
 own:∀g5 k Bs w w',w0.heap.size≤g5→g5∉Bs→J g5 k Bs w→E0a [g5] w w'→J g5 k Bs w'
 lt:∀g5 k Bs w,J g5 k Bs w→∀g∈Bs,g<w.heap.size
 each:∀g5 k Bs w c ys (err:Int),w0.heap.size≤g5→g5<w.heap.size→g5∉Bs→J g5 k Bs w→y0a Bs0 w0 w→((err=0∧(X2d p m run)[k]?=some c)∨(err=110∧k=(X2d p m run).length∧(X2d p m run).length≤run.length∧c=⟨[],[],[]⟩))→Q1a (g5::(Bs++M0)) w c ys →
  Yld prog l #[.agg ys.toArray,.int .i64 err] w fun v w'=>(err=0∧v=.bool true∧∃Bs',J g5 (k+1) Bs' w'∧y0a Bs w w'∧∀g∈Bs',g∈Bs∨w.heap.size≤g)∨(err=110∧v=.bool false∧Q w')
section
variable {p:j0a} {m:Int} {run:List Y1a} {l:Nat} {Bs0 M0:List Nat} {w0:World} {J:Nat→Nat→List Nat→World→Prop} {Q:World→Prop}
theorem o6c.round(h:o6c p m run l Bs0 M0 w0 J Q):∀g5 k Bs w c ys,w0.heap.size≤g5→g5<w.heap.size→g5∉Bs→J g5 k Bs w→y0a Bs0 w0 w→(X2d p m run)[k]?=some c→Q1a (g5::(Bs++M0)) w c ys→Yld prog l #[.agg ys.toArray,.int .i64 0] w fun v w'=>v=.bool true∧∃a0,J g5 (k+1) a0 w'∧y0a Bs w w'∧∀g∈a0,g∈Bs∨w.heap.size≤g :=
 fun g5 k Bs w c ys h1 h2 h3 h4 h5 h6 h7=>(h.each g5 k Bs w c ys 0 h1 h2 h3 h4 h5 (.inl ⟨Z,h6⟩) h7).mono fun v w' hh=>by
  rcases hh with⟨_,hh⟩|⟨hh,_⟩
  ·exact hh
  ·omega
end
theorem Q1a.grow{c:o1a}{ys:List Value}{g5:Nat}{Bs a0 M0:List Nat}{w w':World}(h:Q1a (g5::(Bs++M0)) w c ys)(hk:y0a Bs w w')(hb:∀g∈a0,g∈Bs∨w.heap.size≤g):Q1a (g5::(a0++M0)) w' c ys:=by
 have h1:Q1a (Bs++(g5::(a0++M0))) w c ys:=h.more fun g hg=>by
  simp only[List.mem_append,List.mem_cons] at hg ⊢;rcases hg with hg|rfl|hg|hg
  ·exact .inl (.inr (.inl hg))
  ·exact .inl (.inl Z)
  ·rcases hb g hg with h|h
   ·exact .inl (.inr (.inl h))
   ·exact .inr h
  ·exact .inl (.inr (.inr hg))
 exact(h1.keep (hk.mono fun g hg=>List.mem_append_left _ hg)).less fun g hg=>List.mem_append_right _ hg
theorem St.other{M:List Nat}{w0 w w':World}{L:List Ent}(S:St M w0 w L){g:Nat}(hb:E0a [g] w w')(hg:w0.heap.size≤g)(hn:g∉b1b L):St M w0 w' L:=by
 refine⟨⟨hb.os.trans S.below.os,hb.tape.trans S.below.tape,hb.output.trans S.below.output,Nat.le_trans S.below.size hb.size,fun k hk hm=>?_⟩,fun b hm x hx=>?_,S.apart⟩
 ·rw[hb.block k (Nat.lt_of_lt_of_le hk S.below.size) (by rw[List.mem_singleton];omega)];exact S.below.block k hk hm
 ·obtain⟨h1,h2⟩:=S.own b hm x hx;refine⟨h1,?_⟩;have a0:=h2.lt;unfold p0a at *;rw[hb.block x a0 (by rw[List.mem_singleton];rintro rfl;exact hn (i4a.2 ⟨b,hm,hx⟩))];exact h2
section
variable {d:Nat} {t:TypeId} {p:String} {af:Array Edge} {x y:Operand} {yt:TypeId}
theorem F0c{ty te:TypeId}(hu:P.underlying ty=some (.pointer te))(w:World)(v:Option Addr):(binOp .eql ty (.pointer v) (.pointer none)).run P w=.ok (.bool v.isNone) w:=by
 have h:∀k:Nat,(Op.equalIn (k+1) ty (.pointer v) (.pointer none)).run P w=.ok v.isNone w:=fun k=>by
  cases v<;>simp[Op.equalIn,run_underlying hu]
 simp only[binOp];simp[Op.equal,Op.maxDepth,h 9999]
theorem k3c{ty te:TypeId}{v:Option Addr}(hu:P.underlying ty=some (.pointer te))(hx:ev e x=.pointer v)(hy:ev e y=.pointer none)(hd:Nat.ble (d+1) N=true)(h:WL P r N ops rest K D (upd e d (.bool v.isNone)) w):
 WL P r N ops (⟨some d,.binOp .eql ty x y yt,t,p,af,none⟩::rest) K D e w :=
 X0a Z Z hd (by simp[execOp,hx,hy,eqGuard,F0c hu]) h
theorem q7c{ty te:TypeId}{j:TypeInfo}{a:Addr}(hu:P.underlying ty=some (.pointer te))(hj:P.info? te=some j)(hx:ev e x=.pointer (some a))(hy:ev e y=.pointer (some a))(hd:Nat.ble (d+1) N=true)(h:WL P r N ops rest K D (upd e d (.bool false)) w):
 WL P r N ops (⟨some d,.binOp .neq ty x y yt,t,p,af,none⟩::rest) K D e w :=
 X0a Z Z hd (by simp[execOp,hx,hy,eqGuard,Lib.run_neq_ptr_same w a hu hj]) h
theorem x6c{src dst:TypeId}{v u:Value}(hx:ev e x=v)(hc:(convert src dst v).run P w=.ok u w)(hd:Nat.ble (d+1) N=true)(h:WL P r N ops rest K D (upd e d u) w):
 WL P r N ops (⟨some d,.convert src dst x,t,p,af,none⟩::rest) K D e w :=
 X0a Z Z hd (by simp[execOp,hx,hc]) h
theorem M3d{f:FuncId}{at_:Array TypeId}{v:Value}(hx:ev e x=v)(hc:(callFunc f #[v]).run P w=.ok (.value v) w)(hd:Nat.ble (d+1) N=true)(h:WL P r N ops rest K D (upd e d v) w):
 WL P r N ops (⟨some d,.call { callee:=.value (.func f),args:=#[x],argTypes:=at_ },t,p,af,none⟩::rest) K D e w :=
 X0a Z Z hd (by
  have h1:ev e (.func f)=.func (.func f) #[] #[]:=Z;simp[execOp,resolve,Deferred.ofValue,invoke,h1,hx,hc]) h
theorem b1c{ty u el c0 n B:Nat}{z v:Value}{xs:List Value}{s:ByteArray}(S:St M w0 w L)(hS:SlZ P ty el 1 z c0)(q0:z=.int .u8 0)(n0:c0=1)(hu:P.underlying u=some .string)(i0:w.ownsRow B el 1 v n xs)(m0:B≤w.heap.size)(hM:∀g,v.ownBlock=some g→w0.heap.size≤g∨g∈M)(g0:∀b∈L,∀g,b.1=some g→v.ownBlock≠some g)
 (hx:ev e x=v) (hy:ev e y=.string s) (hn:n+s.size≤140737488355328) (hd:Nat.ble (d+1) N=true)
 (h:∀A m c w1,w1.ownsRow B el 1 (.slice A m c) (n+s.size) (xs++Lib.strCells s)→St M w0 w1 L→y0a v.ownBlock.toList w w1→WL P r N ops rest K D (upd e d (.slice A m c)) w1) :
 WL P r N ops (⟨some d,.call { callee:=.builtin .append,args:=#[x,y],argTypes:=#[ty,u] },t,p,af,none⟩::rest) K D e w:=by
 subst q0;subst n0;obtain⟨i,hi,hz,p0,o0⟩:=hS.parts;obtain⟨v',w1,j0,d0,a0,_⟩:=Lib.run_append_own_string (P:=P) w B ty u t el i hS.und hu hi hz p0 o0 v n xs i0 s (by unfold maxLen;omega) hn m0;obtain⟨A,m,c,rfl⟩:∃A m c,v'=.slice A m c:=by
  rcases d0.2 with⟨hv,_⟩|⟨g,r0,s0,hv,_⟩
  ·exact⟨_,_,_,hv⟩
  ·exact⟨_,_,_,hv⟩
 have b0:∀q,q<w.heap.size→v.ownBlock≠some q→w1.heap[q]?=w.heap[q]?:=fun q hq g0=>a0.block q hq (fun hh=>g0 hh.symm);have f0:y0a v.ownBlock.toList w w1:=⟨a0.size,fun q hq hm=>b0 q hq (fun hh=>hm (by rw[hh];simp))⟩;have e0:E0a M w0 w1:=⟨a0.os.trans S.below.os,a0.tape.trans S.below.tape,a0.output.trans S.below.output,Nat.le_trans S.size a0.size,fun q hq hm =>
  (b0 q (Nat.lt_of_lt_of_le hq S.size) (fun hh=>by
    rcases hM q hh with h'|h'
    ·omega
    ·exact hm h')).trans (S.below.block q hq hm)⟩
 refine X0a (v:=.slice A m c) (w':=w1) Z Z hd ?_ (h A m c w1 d0 (S.keeps e0 fun b hb g hg=>?_) f0)
 ·simp[execOp,resolve,invoke,builtin,hx,hy,j0]
 ·exact b0 g (S.own b hb g hg).2.lt (g0 b hb g hg)
end
theorem c2a{w w':World}{B e n:Nat}{v:Value}{xs:List Value}(h:w.ownsRow B e 1 v n xs){Gs:List Nat}(k:y0a Gs w w')(hg:∀g∈Gs,g<B:=by simp):w'.ownsRow B e 1 v n xs:=by
 obtain⟨h1,h2⟩:=h;refine⟨h1,?_⟩;rcases h2 with h2|⟨g,a0,b0,q1,q2,q3,q4⟩
 ·exact .inl h2
 ·refine .inr ⟨g,a0,b0,q1,q2,?_,q4⟩;have c0:g<w.heap.size:=by
   rcases Nat.lt_or_ge g w.heap.size with h'|h'
   ·exact h'
   ·rw[Array.getElem?_eq_none h'] at q3;cases q3
  rw[k.same g c0 (fun hh=>by have:=hg g hh;omega)];exact q3
theorem p7a{w:World}{B e n:Nat}{v:Value}{xs:List Value}(h:w.ownsRow B e 1 v n xs){g:Nat}(hg:v.ownBlock=some g):B≤g∧g<w.heap.size:=by
 rcases h.2 with⟨rfl,_⟩|⟨g',a0,b0,rfl,q2,q3,q4⟩
 ·simp[Value.ownBlock] at hg
 ·simp[Value.ownBlock] at hg;subst hg;refine⟨q2,?_⟩;rcases Nat.lt_or_ge g' w.heap.size with h'|h'
  ·exact h'
  ·rw[Array.getElem?_eq_none h'] at q3;cases q3
theorem y4b(g:Nat)(pv vb:Value)(e0:pv=.pointer none∨pv=.pointer (some ⟨g,0,none⟩))(w0:World)(hb:p0a w0 (g,148,[pv,vb])):
 O0a prog 141 #[.pointer (some ⟨g,0,none⟩)] w0 fun _ w'=>p0a w' (g,148,[.pointer (some ⟨g,0,none⟩),vb])∧E0a [g] w0 w':=by
 have S:=St.borrow1 hb;obtain⟨j,hj,d0⟩:∃j,prog.info? 148=some j∧j.size=2:=by
  have:(prog.info? 148).map (·.size)=some 2:=by kernel_rfl
  obtain⟨j,h1,h2⟩:=Option.map_eq_some_iff.1 this;exact⟨j,h1,h2⟩
 have b0:∀w:World,p0a w (g,148,[pv,vb])→w.shape? g=some (148,2):=fun w h=>by
  unfold p0a at h;simp[World.shape?,h]
 rcases e0 with rfl|rfl;refine a0a func141 Z ntmps141 Z ?_;refine wO0 Z U (L0a p3b Z (by first|exact S.cell 0 Z Z) Z ?_);refine k3c Tryz.underlying146 Z Z Z ?_;refine lO0 Z U ?_;refine x6c Z (Lib.run_to_unsafe w0 ⟨g,0,none⟩ Tryz.underlying146 Tryz.underlying244 hj (by rw[d0];decide) (b0 _ (S.blk 0 Z)) (Nat.zero_lt_succ 1)) Z ?_;refine M3d Z (by rw[run_callFunc_extern func197 (by kernel_rfl) (by kernel_rfl) (by kernel_rfl) (e:=Extern.AbiNoEscape.same) (by kernel_rfl),Lib.run_noEscape];rfl) Z ?_;refine x6c Z (Lib.run_from_unsafe w0 ⟨g,0,none⟩ Tryz.underlying244 Tryz.underlying146 hj (b0 _ (S.blk 0 Z)) (by kernel_rfl)) Z ?_;refine lO0 Z U ?_
 first|refine U0a (kk:=0) S S0d Z Z Z (by exact Nat.le_of_ble_eq_true Z) ?_
 intro f0 a0 c0;refine lF0 Z U (N1a Z ?_);exact⟨a0.blk 0 Z,a0.below⟩;refine a0a func141 Z ntmps141 Z ?_;refine wO0 Z U (L0a p3b Z (by first|exact S.cell 0 Z Z) Z ?_);refine k3c Tryz.underlying146 Z Z Z ?_;refine lO0 Z U (L0a p3b Z (by first|exact S.cell 0 Z Z) Z ?_);refine lOn 1 S.k [] Z U (q7c Tryz.underlying146 hj Z Z Z ?_);refine lF0 Z U (N1a Z ?_);exact⟨S.blk 0 Z,S.below⟩
theorem E2a(B g:Nat)(t0:g<B)(pv vb:Value)(o0:pv=.pointer none∨pv=.pointer (some ⟨g,0,none⟩))(n:Nat)(bs:List Value)(s:ByteArray)(w0:World)(j0:B≤w0.heap.size)(hb:p0a w0 (g,148,[pv,vb]))(e0:w0.ownsRow B 5 1 vb n bs)(n0:n+s.size≤1000000):
 O0a prog 87 #[.pointer (some ⟨g,0,none⟩),.string s] w0 fun _ w'=>(∃g0,p0a w' (g,148,[.pointer (some ⟨g,0,none⟩),g0])∧w'.ownsRow B 5 1 g0 (n+s.size) (bs++Lib.strCells s))∧E0a (g::vb.ownBlock.toList) w0 w':=by
 have S:St (g::vb.ownBlock.toList) w0 w0 [(some g,148,[pv,vb])]:=(St.reflM _ w0).push hb (.inr (by simp)) (by simp);refine a0a func87 Z ntmps87 Z ?_;refine wO0 Z U (a2a w9c Z Z (y4b g pv vb o0 _ (S.blk 0 Z)) ?_);rintro v7 w7 ⟨m0,B7⟩;have S7:=S.changed1 0 Z B7 m0;have a0:=c2a (hg:=(fun x hx=>by rw[List.mem_singleton] at hx;omega)) e0 (y0a.of_belowM B7);refine lO0 Z U (L0a h6c Z (by first|exact S7.cell 0 Z Z) Z ?_);refine lO0 Z U ?_;refine b1c S7 q6c Z Z Tryz.underlying9 a0 (Nat.le_trans j0 S7.size) (fun x hx=>.inr (by simp[hx])) (fun b f0 x hx hh=>by simp at f0;subst f0;cases hx;have:=(p7a a0 hh).1;omega) Z Z (by omega) Z ?_;intro q0 u0 s0 v0 b0 i0 r0;refine lO0 Z U ?_
 first|refine U0a (kk:=0) i0 j3d Z Z Z (by exact Nat.le_of_ble_eq_true Z) ?_
 intro p0 c0 d0;refine lO0 Z U (J9a Tryz.underlying9 Z Z ?_);refine lR0 Z U (i4c Z ?_);exact⟨⟨_,c0.blk 0 Z,c2a (hg:=(fun x hx=>by rw[List.mem_singleton] at hx;omega)) b0 d0⟩,c0.below⟩
def B6a(l:List UInt8):ByteArray:=⟨l.toArray⟩
theorem Z2a(l:List UInt8):(B6a l).size=l.length:=by simp[B6a,ByteArray.size]
theorem G6b(a b:List UInt8):B6a a++B6a b=B6a (a++b):=by
 apply ByteArray.ext;simp[B6a]
section
variable {d:Nat} {t:TypeId} {p:String} {af:Array Edge} {x y:Operand} {xt yt:TypeId} {C:World→Prop} {Kq:Env→Prop}
theorem v5c{xt:TypeId}(w:World)(a b:List UInt8)(h:a.length+b.length≤1000000):(binOp .add xt (.string (B6a a)) (.string (B6a b))).run P w=.ok (.string (B6a (a++b))) w:=by
 have h1:((B6a a).size:Int)≤8388608:=by rw[Z2a];omega
 have h2:((B6a b).size:Int)≤8388608:=by rw[Z2a];omega
 simp[binOp,run_string_add w (B6a a) (B6a b) h1 h2,G6b]
theorem F7a{a b:List UInt8}(hx:ev e x=.string (B6a a))(hy:ev e y=.string (B6a b))(hs:a.length+b.length≤1000000)(hd:Nat.ble (d+1) N=true)(h:QL P N ops C rest Kq (upd e d (.string (B6a (a++b))))):
 QL P N ops C (⟨some d,.binOp .add xt x y yt,t,p,af,none⟩::rest) Kq e :=
 r3a Z Z hd (fun w _=>by simp[execOp,hx,hy,eqGuard,v5c w a b hs]) h
end
def z9b(n:Int):List UInt8:=Lib.decDigits n.toNat
theorem r6a{n:Int}(h0:0≤n)(h:n<100):(z9b n).length≤2:=by
 unfold z9b;generalize hk:n.toNat=k;rw[Lib.decDigits]
 split
 ·simp
 ·rw[Lib.decDigits,dif_pos (by omega)];simp
def H0c(op:Int):List UInt8:=if op=2 then[99] else if op=3 then[111] else[]
theorem A3b(op:Int):(H0c op).length≤1:=by
 unfold H0c
 split
 ·simp
 ·split<;>simp
def f2b:List (List UInt8):=[[110,111,116],[97,110,100],[111,114],[120,111,114],[97,100,100],[115,117,98],[109,117,108],[101,113],[108,116],[108,101],[105,116,101]]
mutual
def E.txt:E→List UInt8
 | ⟨op,w,n,ks⟩=>if op=1∨op=2∨op=3 then H0c op++z9b n++[58]++z9b w else f2b.getD (op-4).toNat []++E.txts ks 40++[41]
def E.txts:List E→UInt8→List UInt8
 | [],_=>[]
 | k::ks,c=>c::(E.txt k++E.txts ks 44)
end
mutual
def E.txB:E→Bool
 | ⟨op,w,n,ks⟩=>if op=1∨op=2∨op=3 then decide (0≤n∧n<100∧0≤w∧w<100) else decide (4≤op∧op≤14)&&E.txBs ks
def E.txBs:List E→Bool
 | []=>true
 | k::ks=>E.txB k&&E.txBs ks
end
theorem E.txt_leaf{e:E}(h:e.op=1∨e.op=2∨e.op=3):e.txt=H0c e.op++z9b e.n++[58]++z9b e.w:=by cases e;simp only[E.txt];rw[if_pos h]
theorem E.txt_node{e:E}(h:¬(e.op=1∨e.op=2∨e.op=3)):e.txt=f2b.getD (e.op-4).toNat []++E.txts e.kids 40++[41]:=by cases e;simp only[E.txt];rw[if_neg h]
theorem E.txB_leaf{e:E}(h:e.op=1∨e.op=2∨e.op=3)(hb:e.txB=true):0≤e.n∧e.n<100∧0≤e.w∧e.w<100:=by
 cases e;simp only[E.txB] at hb;rw[if_pos h] at hb;exact of_decide_eq_true hb
theorem E.txBs_iff(ks:List E):E.txBs ks=true↔∀k∈ks,k.txB=true:=by
 induction ks with
 | nil=>simp[E.txBs]
 | cons k ks ih=>simp[E.txBs,ih]
theorem E.txB_node{e:E}(h:¬(e.op=1∨e.op=2∨e.op=3))(hb:e.txB=true):(4≤e.op∧e.op≤14)∧∀k∈e.kids,k.txB=true:=by
 cases e;simp only[E.txB] at hb;rw[if_neg h,Bool.and_eq_true,E.txBs_iff] at hb;exact⟨of_decide_eq_true hb.1,hb.2⟩
theorem E.txts_snoc:∀(l:List E) (x:E) (c:UInt8),E.txts (l++[x]) c=E.txts l c++((if l=[] then c else 44)::x.txt)
 | [],x,c=>by simp[E.txts]
 | y::l,x,c=>by
   rw[List.cons_append];simp only[E.txts];rw[E.txts_snoc l x 44];simp
theorem E.txts_take{ks:List E}{k:Nat}{x:E}(c:UInt8)(h:ks[k]?=some x):E.txts (ks.take (k+1)) c=E.txts (ks.take k) c++((if k=0 then c else 44)::x.txt):=by
 rw[t0a h,E.txts_snoc]
 congr 2
 have hl:k<ks.length:=(List.getElem?_eq_some_iff.1 h).1;by_cases hk:k=0
 ·subst hk;simp
 ·rw[if_neg hk,if_neg (fun hh=>hk (by have:=congrArg List.length hh;rw[List.length_take,List.length_nil] at this;omega))]
theorem E.txts_pre(ks:List E)(c:UInt8)(k:Nat):(E.txts (ks.take k) c).length≤(E.txts ks c).length:=by
 induction ks generalizing c k with
 | nil=>simp
 | cons y ks ih =>
   cases k with
   | zero=>simp[E.txts]
   | succ k =>
     have:=ih 44 k;simp only[List.take_succ_cons,E.txts,List.length_cons,List.length_append];omega
structure BX (B g:Nat) (w w':World):Prop where
 os:w'.os=w.os
 tape:w'.tape=w.tape
 output:w'.output=w.output
 size:w.heap.size≤w'.heap.size
 block:∀k,k<B→k≠g→w'.heap[k]?=w.heap[k]?
theorem BX.trans{B g:Nat}{a b c:World}(h:BX B g a b)(h2:BX B g b c):BX B g a c:=⟨h2.os.trans h.os,h2.tape.trans h.tape,h2.output.trans h.output,Nat.le_trans h.size h2.size,fun k h1 h3=>(h2.block k h1 h3).trans (h.block k h1 h3)⟩
def MB(B g:Nat)(w:World):List Nat:=g::List.range' B (w.heap.size-B)
theorem E7a{B g k:Nat}{w:World}:k∈MB B g w↔k=g∨(B≤k∧k<w.heap.size):=by
 unfold MB;rw[List.mem_cons,List.mem_range'_1];constructor
 ·rintro(h|h)
  ·exact .inl h
  ·exact .inr (by omega)
 ·rintro(h|h)
  ·exact .inl h
  ·exact .inr (by omega)
theorem BX.ofB{B g:Nat}{M:List Nat}{w w':World}(h:E0a M w w')(hM:∀x∈M,x=g∨B≤x)(hB:B≤w.heap.size):BX B g w w':=⟨h.os,h.tape,h.output,h.size,fun k h1 h2=>h.block k (by omega) fun hh=>by rcases hM k hh with h3|h3<;>omega⟩
theorem St.bx{B g:Nat}{w0 w:World}{L:List Ent}(S:St (MB B g w0) w0 w L)(hB:B≤w0.heap.size):BX B g w0 w:=BX.ofB S.below (fun _ hx=>(E7a.1 hx).imp id And.left) hB
theorem St.wrote{B g t:Nat}{w0 w w':World}{L:List Ent}{a0:List Value}(S:St (MB B g w0) w0 w L)(h:BX B g w w')(hb:p0a w' (g,t,a0)):St (MB B g w0) w0 w' [(some g,t,a0)]:=by
 have S1:St (MB B g w0) w0 w' []:=⟨⟨h.os.trans S.below.os,h.tape.trans S.below.tape,h.output.trans S.below.output,Nat.le_trans S.below.size h.size,fun k h1 h2=>by
  have h3:k<B∧k≠g:=by
   rcases Nat.lt_or_ge k B with h4|h4
   ·exact⟨h4,fun h5=>h2 (E7a.2 (.inl h5))⟩
   ·exact absurd (E7a.2 (.inr ⟨h4,h1⟩)) h2
  exact(h.block k h3.1 h3.2).trans (S.below.block k h1 h2)⟩,by simp,by simp⟩
 exact S1.push hb (.inr (E7a.2 (.inl Z))) (by simp)
end Go.Fw
