/-
  Part 3 of 9 of the proof of ShrinkMatchesReference: what it leans on. No conditions.
-/
import Derived.Test.YtgjenhndpfcjkaaGreatDoorZShrinkMatchesReference2
import Derived.Test.YtgjenhndpfcjkaaGreatDoorRows
import Derived.ProofKit
import Derived.LaidMore
import Derived.OpenShut
import Derived.Carry
import Derived.SizedLaws
import Derived.Stop.Joined
import Derived.Test.YtgjenhndpfcjkaaGreatDoorTie
import Derived.Test.YtgjenhndpfcjkaaGreatDoorCards
import Derived.SevenTiedAt
import Derived.Laws.CopyRow
import Derived.Laws.IdiomCopy
import Derived.Laws.StructEq
import Derived.Lib.SliceRun
set_option maxRecDepth 100000
set_option maxHeartbeats 4000000
namespace Go.Proofs.YtgjenhndpfcjkaaGreatDoor
end Go.Proofs.YtgjenhndpfcjkaaGreatDoor
namespace Go.Fw
open Go.Proofs.YtgjenhndpfcjkaaGreatDoor Go.Proofs Go.RowKit Go.ChangeShapes Go.WideShapes Tryz
theorem F4a{p:g0a}(hc:K3a p){e:E}{a0:Bool}:(e.w=1∧e.valid p.cells a0=true∧n4a e (shQ p)=true)↔a7a p.cells e a0 (-1) :=
 ⟨fun⟨a,b,c⟩=>⟨b,a,(m6c hc b).1 c⟩,fun⟨b,a,c⟩=>⟨a,b,(m6c hc b).2 c⟩⟩
theorem M3b{p:g0a}(hc:K3a p){e:E}{a0:Bool}{t:Int}:(e.w=1∧e.valid p.cells a0=true∧n4a e (H2b p t)=true)↔a7a p.cells e a0 t :=
 ⟨fun⟨a,b,c⟩=>⟨b,a,(x8a hc b).1 c⟩,fun⟨b,a,c⟩=>⟨a,b,(x8a hc b).2 c⟩⟩
theorem n8b(p:g0a)(M:List Nat)(w0:World)(cs:LV)(hP:C1a M w0 p cs)(hN:j9a p)(hc:K3a p)(hK:H3a M w0)(hM:∀g∈M,g<w0.heap.size):
 M0a prog 65 #[.agg cs.toArray] w0 fun v w'=>(∃a,v=.int .i64 a∧(a=0↔Z5b p))∧Bw w0 w':=by
 obtain⟨Ac,nc,cc,Am,nm,cm,Al,nl,cl,At,nt,ct,rfl,_,Y0,_⟩:=hP.open_;have S:=St.refl w0;have t0:∀w':World,w0.heap.size≤w'.heap.size→∀g∈M,g<w'.heap.size:=fun w' h g hg=>by have:=hM g hg;omega
 refine a0a func65 Z ntmps65 Z ?_;refine wO1 Z (i0a S Z ?_);intro g1 w1 S1 X1 G1;refine lO1 Z (p7a (k:=9) S1 Z ?_);intro g6 w6 S6 X6 G6 a0;have Z0:w0.heap.size≤g6:=by have:=S1.size;omega
 refine lC S6.k [.o 0] Z ⟨Z,U⟩ (wL (fun μk D ε w=>D=[]∧∃k:Nat,(k+μk=(p.modules.length))∧(g1a (p.modules) k (fun x=>w3c p x))∧(((p.modules.take k).map fun c=>Value.string c.name).Nodup)∧(Z3a prog 9 w g6 (s4a ((p.modules.take k).map fun c=>.string c.name)))∧St [] w0 w [(some g1,122,pL Ac nc cc Am nm cm Al nl cl At nt ct)]∧Sl ε [(1,.pointer (some ⟨g1,0,none⟩)),(3,.map (some g6)),(9,.slice Am nm cm),(10,.int .i64 nm),(11,.int .i64 k)]) (μ:=(p.modules.length)) ⟨Z,0,by omega,g1a.zero,(by simp),(by simpa[s4a] using a0),S6,Z⟩ ?_);rintro μk D ε w ⟨rfl,k,_,hs,hd,a0,S,eZ⟩;refine wK eZ (wB1 Z (fun X0=>?_) fun X0=>?_)
 ·obtain⟨x,W0,a1,_,b0,H0,_,J0,I0,L0⟩:=RdS.get (Y0) (k) (by omega);obtain⟨_,_,_,_,_,_,_,_,_,rfl,u0,s0,i0,_⟩:=n1a.open_ L0;have T0:=(hN.mods x (c0a b0)).1;refine lO (S.k.a I0) [.x W0 a1,.v 0] Z ⟨⟨Z,J0⟩,⟨H0,by omega⟩,U⟩ (m0a S n7c Z Z ?_);intro g5 w5 S5 X5 G5;replace a0:=a0.keep X5 (List.not_mem_nil);refine f0a (kk:=0) (vs:=[_,_,_,_,_,_,_,_,_,_,_]) S5 Z7c Z Z Z Z Z Z Z ?_;intro i1 j0 E0;dsimp only[o0a,List.set] at j0;replace a0:=a0.keep E0 (fun hh=>by rw[List.mem_singleton] at hh;exact a0.ne (S5.blk 0 Z) hh);refine lO j0.k [.o 0] Z ⟨Z,U⟩ (k0a j0 O4b Z Z (S8a _ _ T0) (fun B0 b1 y0 Q0=>?_) (fun B0 b1 y0 Q0=>?_))
  ·replace a0:=a0.keep Q0 (List.not_mem_nil);refine lO y0.k [.o 0] Z ⟨Z,U⟩ (k0a y0 O4b Z Z (S8a _ _ (hN.mods x (c0a b0)).2) (fun C0 c1 z0 R0=>?_) (fun C0 c1 z0 R0=>?_))
   ·replace a0:=a0.keep R0 (List.not_mem_nil);refine lO z0.k [.o 0] Z ⟨Z,U⟩ (O2a I4b Z Z (f9a g6 _ x.name _ a0 T0) ?_);rintro m1 n1 ⟨⟨j1,rfl,x0⟩,U0,V0⟩;have A0:=z0.turned a0 (.inl Z0) U0;clear a0;cases v0:j1
    ·refine n0a (hv:=Z) (v:=.bool _) Z ?_;have K0:Value.string x.name∉(p.modules.take k).map fun c=>Value.string c.name:=fun hh=>absurd (x0.2 hh) (by rw[v0];decide);have a0:=V0 K0;refine lO A0.k [.o 0] Z ⟨Z,U⟩ (k0a A0 I8c Z Z (r0c x.rely M _ _ (RdE.keep (A0.keep0 M) _ _ u0)) (fun F0 d1 c0 D0=>?_) (fun F0 d1 c0 D0=>?_))
     ·replace a0:=a0.keep D0 (List.not_mem_nil);refine lO c0.k [.w 1,.o 0,.w 1] Z ⟨⟨Z,Z⟩,Z,⟨Z,Z⟩,U⟩ (P2a Z Z Z ?_);refine k0a c0 I1b Z Z (Z1b p x.guar M _ _ _ true _ (shQ p) (hP.keep (c0.keep0 M)) (RdE.keep (c0.keep0 M) _ _ s0) (w4a (hP.keep (c0.keep0 M))) (hK.keep (c0.keep0 M)) (t0 _ c0.size)) (fun n0 N0 e0 p0=>?_) (fun n0 N0 e0 p0=>?_)
      ·replace a0:=a0.keep p0 (List.not_mem_nil);refine lO e0.k [.o 0] Z ⟨Z,U⟩ (k0a e0 M7b Z Z (a6a M _ _ _ (i0.keep (e0.keep0 M))) (fun o0 O0 d0 q0=>?_) (fun o0 O0 d0 q0=>?_))
       ·replace a0:=a0.keep q0 (List.not_mem_nil);refine lO d0.k [.o 0,.w 1] Z ⟨⟨Z,Z⟩,Z,U⟩ (P2a Z Z Z ?_);refine k0a d0 c0b Z Z (t6a M _ _ _ x.frame (shQ p) (i0.keep (d0.keep0 M)) (w4a (hP.keep (d0.keep0 M))) (t0 _ d0.size)) (fun g0 P0 m0 r0=>?_) (fun g0 P0 m0 r0=>?_)
        ·replace a0:=a0.keep r0 (List.not_mem_nil);refine lP1 Z ?_;refine⟨μk-1,by omega,Z,k+1,by omega,?_,?_,((by rw[O0a b0,List.map_append];exact a0)),m0.tail,Z⟩
         ·exact hs.succ b0 ⟨x1a B0,x1a C0,by exact .inl (x1a F0),(F4a hc).1 (x1a n0),fun z hz=>of_decide_eq_true (p:=(0≤z∧z<p.cells.length)∧K1a p.cells z=-1) (List.all_eq_true.1 g0 z hz),x1a o0⟩
         ·rw[O0a b0,List.map_append,List.map_singleton,List.nodup_append];exact⟨hd,by simp,fun a ha b hb he=>by rw[List.mem_singleton.1 hb] at he;exact K0 (he▸ha)⟩
        replace a0:=a0.keep r0 (List.not_mem_nil);refine lU Z Z ⟨⟨_,Z,iF (fun h=>?_)⟩,m0.fin⟩;have h1:=h.1 x (c0a b0)
        (have q:x.frame.all (shQ p)=true:=List.all_eq_true.2 fun z hz=>decide_eq_true (h1.frame z hz)
         rw[q] at g0;cases g0;done)
       replace a0:=a0.keep q0 (List.not_mem_nil);refine lU Z Z ⟨⟨_,Z,iF (fun h=>?_)⟩,d0.fin⟩;have h1:=h.1 x (c0a b0);exact Z0a o0 h1.up
      replace a0:=a0.keep p0 (List.not_mem_nil);refine lU Z Z ⟨⟨_,Z,iF (fun h=>?_)⟩,e0.fin⟩;have h1:=h.1 x (c0a b0);exact Z0a n0 ((F4a hc).2 h1.guar)
     replace a0:=a0.keep D0 (List.not_mem_nil);refine lO c0.k [.w 1,.o 0,.w 1] Z ⟨⟨Z,Z⟩,Z,⟨Z,Z⟩,U⟩ (P2a Z Z Z ?_);refine lO1 Z (k0a c0 I1b Z Z (Z1b p x.rely M _ _ _ true _ (shQ p) (hP.keep (c0.keep0 M)) (RdE.keep (c0.keep0 M) _ _ u0) (w4a (hP.keep (c0.keep0 M))) (hK.keep (c0.keep0 M)) (t0 _ c0.size)) (fun G0 f1 f0 S0=>?_) (fun G0 f1 f0 S0=>?_))
     ·replace a0:=a0.keep S0 (List.not_mem_nil);refine lO f0.k [.w 1,.o 0,.w 1] Z ⟨⟨Z,Z⟩,Z,⟨Z,Z⟩,U⟩ (P2a Z Z Z ?_);refine k0a f0 I1b Z Z (Z1b p x.guar M _ _ _ true _ (shQ p) (hP.keep (f0.keep0 M)) (RdE.keep (f0.keep0 M) _ _ s0) (w4a (hP.keep (f0.keep0 M))) (hK.keep (f0.keep0 M)) (t0 _ f0.size)) (fun n0 N0 e0 p0=>?_) (fun n0 N0 e0 p0=>?_)
      ·replace a0:=a0.keep p0 (List.not_mem_nil);refine lO e0.k [.o 0] Z ⟨Z,U⟩ (k0a e0 M7b Z Z (a6a M _ _ _ (i0.keep (e0.keep0 M))) (fun o0 O0 d0 q0=>?_) (fun o0 O0 d0 q0=>?_))
       ·replace a0:=a0.keep q0 (List.not_mem_nil);refine lO d0.k [.o 0,.w 1] Z ⟨⟨Z,Z⟩,Z,U⟩ (P2a Z Z Z ?_);refine k0a d0 c0b Z Z (t6a M _ _ _ x.frame (shQ p) (i0.keep (d0.keep0 M)) (w4a (hP.keep (d0.keep0 M))) (t0 _ d0.size)) (fun g0 P0 m0 r0=>?_) (fun g0 P0 m0 r0=>?_)
        ·replace a0:=a0.keep r0 (List.not_mem_nil);refine lP1 Z ?_;refine⟨μk-1,by omega,Z,k+1,by omega,?_,?_,((by rw[O0a b0,List.map_append];exact a0)),m0.tail,Z⟩
         ·exact hs.succ b0 ⟨x1a B0,x1a C0,by exact .inr ((F4a hc).1 (x1a G0)),(F4a hc).1 (x1a n0),fun z hz=>of_decide_eq_true (p:=(0≤z∧z<p.cells.length)∧K1a p.cells z=-1) (List.all_eq_true.1 g0 z hz),x1a o0⟩
         ·rw[O0a b0,List.map_append,List.map_singleton,List.nodup_append];exact⟨hd,by simp,fun a ha b hb he=>by rw[List.mem_singleton.1 hb] at he;exact K0 (he▸ha)⟩
        refine lU Z Z ⟨⟨_,Z,iF (fun h=>?_)⟩,m0.fin⟩;have h1:=h.1 x (c0a b0)
        (have q:x.frame.all (shQ p)=true:=List.all_eq_true.2 fun z hz=>decide_eq_true (h1.frame z hz)
         rw[q] at g0;cases g0;done)
       refine lU Z Z ⟨⟨_,Z,iF (fun h=>?_)⟩,d0.fin⟩;have h1:=h.1 x (c0a b0);exact Z0a o0 h1.up
      refine lU Z Z ⟨⟨_,Z,iF (fun h=>?_)⟩,e0.fin⟩;have h1:=h.1 x (c0a b0);exact Z0a n0 ((F4a hc).2 h1.guar)
     refine lU Z Z ⟨⟨_,Z,iF (fun h=>?_)⟩,f0.fin⟩;have h1:=h.1 x (c0a b0);exact h1.rely.elim (Z0a F0) (fun hh=>Z0a G0 ((F4a hc).2 hh))
    refine n0a (hv:=Z) (v:=.bool _) Z ?_;refine lU Z Z ⟨⟨_,Z,iF (fun h=>?_)⟩,A0.fin⟩;have h1:=h.1 x (c0a b0);exact absurd (x0.1 v0) (k5a (f:=fun(c:J2a)=>Value.string c.name) (h.2.imp fun h e=>h (by injection e)) b0)
   refine lU Z Z ⟨⟨_,Z,iF (fun h=>?_)⟩,z0.fin⟩;have h1:=h.1 x (c0a b0);exact Z0a C0 h1.owner
  refine lU Z Z ⟨⟨_,Z,iF (fun h=>?_)⟩,y0.fin⟩;have h1:=h.1 x (c0a b0);exact Z0a B0 h1.name
 refine lU Z Z ?_;refine⟨⟨_,Z,iff_of_true (by omega) ⟨hs.all (by omega),?_⟩⟩,S.fin⟩;rw[List.take_of_length_le (by omega)] at hd;exact(List.pairwise_map.1 hd).imp fun h e=>h (by rw[e])
theorem R0c(p:g0a)(M:List Nat)(w0:World)(cs:LV)(hP:C1a M w0 p cs)(hc:K3a p)(hK:H3a M w0)(hM:∀g∈M,g<w0.heap.size):
 M0a prog 66 #[.agg cs.toArray] w0 fun v w'=>(∃a,v=.int .i64 a∧(a=0↔G2b p))∧Bw w0 w':=by
 obtain⟨Ac,nc,cc,Am,nm,cm,Al,nl,cl,At,nt,ct,rfl,hC,_,S0,_⟩:=hP.open_;have S:=St.refl w0;have T0:∀w':World,w0.heap.size≤w'.heap.size→∀g∈M,g<w'.heap.size:=fun w' h g hg=>by have:=hM g hg;omega
 refine a0a func66 Z ntmps66 Z ?_;refine wO1 Z (i0a S Z ?_);intro g1 w1 S1 X1 G1;refine lO1 Z (p7a (k:=3) S1 Z ?_);intro g8 w8 S8 X8 G8 a0;have U0:w0.heap.size≤g8:=by have:=S1.size;omega
 refine lC S8.k [.o 0] Z ⟨Z,U⟩ (wL (fun μk D ε w=>D=[]∧∃k:Nat,(k+μk=(p.locks.length))∧(g1a (p.locks) k (fun x=>J6b p x))∧(((p.locks.take k).map fun c=>Value.int .i64 c.cell).Nodup)∧(Z3a prog 3 w g8 (s4a ((p.locks.take k).map fun c=>.int .i64 c.cell)))∧St [] w0 w [(some g1,122,pL Ac nc cc Am nm cm Al nl cl At nt ct)]∧Sl ε [(1,.pointer (some ⟨g1,0,none⟩)),(3,.map (some g8)),(11,.slice Al nl cl),(12,.int .i64 nl),(13,.int .i64 k)]) (μ:=(p.locks.length)) ⟨Z,0,by omega,g1a.zero,(by simp),(by simpa[s4a] using a0),S8,Z⟩ ?_);rintro μk D ε w ⟨rfl,k,_,hs,hd,a0,S,eZ⟩;refine wK eZ (wB1 Z (fun Q0=>?_) fun Q0=>?_)
 ·obtain⟨x,N0,W0,_,d0,t0,_,A0,y0,B0⟩:=RdS.get (S0) (k) (by omega);obtain⟨_,_,_,rfl,F0,_,x0⟩:=E5a.open_ B0;refine lO (S.k.a y0) [.x N0 W0,.v 0] Z ⟨⟨Z,A0⟩,⟨t0,by omega⟩,U⟩ (m0a S L3c Z Z ?_);intro g5 w5 S5 X5 G5;replace a0:=a0.keep X5 (List.not_mem_nil);refine f0a (kk:=0) (vs:=[_,_,_,_,_,_]) S5 U0c Z Z Z Z Z Z Z ?_;intro a1 e0 p0;dsimp only[o0a,List.set] at e0;replace a0:=a0.keep p0 (fun hh=>by rw[List.mem_singleton] at hh;exact a0.ne (S5.blk 0 Z) hh);refine lO e0.k [.w 1,.o 0] Z ⟨Z,⟨Z,Z⟩,U⟩ (k0a e0 D1b Z Z (s6a p M _ _ _ (hP.keep (e0.keep0 M))) (fun q0 Z0 c0 H0=>?_) (fun q0 Z0 c0 H0=>?_))
  ·replace a0:=a0.keep H0 (List.not_mem_nil);have L0:=of_decide_eq_true q0;obtain⟨c,O0,X0,_,i0,u0,_,_,z0,C0⟩:=RdS.get (hC) (x.cell.toNat) (by omega);obtain⟨rfl,_⟩:=U2a.open_ C0;refine lB (c0.k.a z0) [.o 1,.o 0,.x O0 X0,.f 0 1] Z ⟨Z,⟨u0,by omega⟩,Z,Z,U⟩ (fun R0=>?_) fun R0=>?_
   ·refine lU Z Z ⟨⟨_,Z,iF (fun h=>?_)⟩,c0.fin⟩;have h1:=h.1 x (c0a d0)
    (have q:=h1.cell;rw[W4a i0,L2a i0] at q;omega)
   obtain⟨_,P0,Y0,_,E0,v0,_,_,j0,D0⟩:=RdS.get (hC) (x.cell.toNat) (by omega);obtain rfl:=Option.some.inj (i0.symm.trans E0);obtain⟨rfl,_⟩:=U2a.open_ D0;refine lO c0.k [.o 1,.o 0,.x P0 Y0] Z ⟨⟨v0,by omega⟩,Z,Z,U⟩ ?_;cases f0:c.ghost
   ·refine v0a d2a Z (by exact(c0.old (j0 _ _ Z)).trans (congrArg (fun b=>some (Value.bool b)) f0)) Z ?_;refine lO c0.k [.o 0] Z ⟨Z,U⟩ ?_;have m0:=E6c F0;refine m2b (Go.Maps.int_keyed Tryz.underlying3) Tryz.underlying183 P8a a0 Z Z m0 Z (fun V0=>?_) fun K0=>?_
    ·refine lO1 Z (m0a c0 P8a Z Z ?_);intro g6 w6 S6 X6 G6;replace a0:=a0.keep X6 (List.not_mem_nil);refine f0a (kk:=0) (vs:=[]) S6 m3b Z Z Z Z Z Z Z ?_;intro G0 b0 g0;dsimp only[o0a,List.set] at b0;replace a0:=a0.keep g0 (fun hh=>by rw[List.mem_singleton] at hh;exact a0.ne (S6.blk 0 Z) hh);refine lU Z Z ⟨⟨_,Z,iF (fun h=>?_)⟩,b0.fin⟩;have h1:=h.1 x (c0a d0);exact absurd V0 (k5a (f:=fun(c:m0b)=>Value.int .i64 c.cell) (h.2.imp fun h e=>h (by injection e)) d0)
    refine lO1 Z (m0a c0 P8a Z Z ?_);intro g6 w6 S6 X6 G6;replace a0:=a0.keep X6 (List.not_mem_nil);refine f0a (kk:=0) (vs:=[]) S6 m3b Z Z Z Z Z Z Z ?_;intro G0 b0 g0;dsimp only[o0a,List.set] at b0;replace a0:=a0.keep g0 (fun hh=>by rw[List.mem_singleton] at hh;exact a0.ne (S6.blk 0 Z) hh);refine lO b0.k [.o 1,.o 2] Z ⟨Z,Z,U⟩ (k0a b0 R3a Z Z (Q2a _ _ _) (fun r0 b1 n0 I0=>?_) (fun r0 b1 n0 I0=>?_))
    ·replace a0:=a0.keep I0 (List.not_mem_nil);refine lO n0.k [.o 1] Z ⟨Z,U⟩ (e1a Y3b (vs:=[]) (cs:=[]) Z Z Z Z ?_);refine f1b (key:=.int .i64 x.cell) n0 (Go.Maps.int_keyed Tryz.underlying3) Tryz.underlying183 a0 Z Z Z m0 (.inl U0) ?_;intro wm Sm Xm Mm;clear a0;have a0:=Mm K0;refine lO Sm.k [.w 2,.o 1,.w 2] Z ⟨⟨Z,Z⟩,Z,⟨Z,Z⟩,U⟩ (P2a Z Z Z ?_);refine k0a Sm I1b Z Z (Z1b p x.inv M _ _ _ false _ (shQ p) (hP.keep (Sm.keep0 M)) (RdE.keep (Sm.keep0 M) _ _ x0) (w4a (hP.keep (Sm.keep0 M))) (hK.keep (Sm.keep0 M)) (T0 _ Sm.size)) (fun s0 c1 o0 J0=>?_) (fun s0 c1 o0 J0=>?_)
     ·replace a0:=a0.keep J0 (List.not_mem_nil);refine lP1 Z ?_;refine⟨μk-1,by omega,Z,k+1,by omega,(hs.succ d0 (⟨⟨L0.1,L0.2,by rw[W4a i0];omega,by rw[L2a i0];exact f0⟩,by have:=of_decide_eq_true r0;unfold M1a;omega,(F4a hc).1 (x1a s0)⟩)),?_,((by rw[O0a d0,List.map_append];exact a0)),o0.tail.tail,Z⟩;rw[O0a d0,List.map_append,List.map_singleton,List.nodup_append];exact⟨hd,by simp,fun a ha b hb he=>by rw[List.mem_singleton.1 hb] at he;exact K0 (he▸ha)⟩
     refine lU Z Z ⟨⟨_,Z,iF (fun h=>?_)⟩,o0.fin⟩;have h1:=h.1 x (c0a d0);exact Z0a s0 ((F4a hc).2 h1.inv)
    refine lU Z Z ⟨⟨_,Z,iF (fun h=>?_)⟩,n0.fin⟩;have h1:=h.1 x (c0a d0)
    (have q:=h1.mod;unfold M1a at q;have q5:=of_decide_eq_false r0;omega)
   refine v0a d2a Z (by exact(c0.old (j0 _ _ Z)).trans (congrArg (fun b=>some (Value.bool b)) f0)) Z ?_;refine lU Z Z ⟨⟨_,Z,iF (fun h=>?_)⟩,c0.fin⟩;have h1:=h.1 x (c0a d0)
   (have q:=h1.cell;rw[W4a i0,L2a i0] at q;(rw[f0] at q;cases q.2.2.2;done))
  refine lU Z Z ⟨⟨_,Z,iF (fun h=>?_)⟩,c0.fin⟩;have h1:=h.1 x (c0a d0);exact of_decide_eq_false q0 ⟨h1.cell.1,h1.cell.2.1⟩
 refine lU Z Z ?_;refine⟨⟨_,Z,iff_of_true (by omega) ⟨hs.all (by omega),?_⟩⟩,S.fin⟩;rw[List.take_of_length_le (by omega)] at hd;exact(List.pairwise_map.1 hd).imp fun h e=>h (by rw[e])
section
variable {P:Program} {r:Option Nat} {N:Nat} {l:List Oper} {D:List Deferred} {C:World→Prop} {K:List Deferred→Env→World→Prop}
def v6b(l:List Oper)(pur:Nat→Bool)(m:Nat):Bool :=
 P5a l&&((List.range l.length).all fun i=>(E1a l i).all fun j=>decide (j<i))&&((List.range m).all fun i=>(List.range i).all fun j=>(a5a l i).contains j||O0b l pur j i)&&((List.range m).all fun j=>(a5a l m).contains j)&&decide (l.length=m+1)
abbrev T3d{M:List Nat}{w0 w:World}{L:List Ent}(_:St M w0 w L):World→Prop:=Cl M w0 w L
def X8a(m:Nat)(f:Nat→Bool):List Nat:=(List.range m).filter fun i=>!f i
theorem h2b{m:Nat}(f:Nat→Bool){i:Nat}(hi:i<m)(hf:f i=false):∃pre a0,X8a m f=pre++i::a0∧X8a m (fun j=>f j||j==i)=pre++a0∧∀j∈pre,j<i∧f j=false:=by
 have hr:List.range m=List.range i++i::(List.range' (i+1) (m-(i+1))):=by
  have h1:m=i+(m-i):=by omega
  have h2:m-i=(m-(i+1))+1:=by omega
  rw[List.range_eq_range',List.range_eq_range',show List.range' 0 m=List.range' 0 (i+((m-(i+1))+1)) by rw[←h2,←h1],←List.range'_append_1];simp[List.range'_succ]
 refine⟨(List.range i).filter fun j=>!f j,(List.range' (i+1) (m-(i+1))).filter fun j=>!f j,?_,?_,?_⟩
 ·unfold X8a;rw[hr,List.filter_append,List.filter_cons];simp[hf]
 ·unfold X8a;rw[hr,List.filter_append,List.filter_cons];simp only[beq_self_eq_true,Bool.or_true,Bool.not_true,Bool.false_eq_true,if_false]
  congr 1
  ·apply List.filter_congr;intro j hj;have:=List.mem_range.1 hj;have:(j==i)=false:=by simp;omega
   simp[this]
  ·apply List.filter_congr;intro j hj;have:=List.mem_range'.1 hj;have:(j==i)=false:=by simp;omega
   simp[this]
 ·intro j hj;rw[List.mem_filter] at hj;exact⟨List.mem_range.1 hj.1,by simpa using hj.2⟩
theorem i3b{id:Nat}{n t:List Deferred→Env→World→Prop}{b:Nat→List Deferred→Env→World→Prop}{e:Env}{w:World}(hm:P.follows .mixedOrders=true)(pur:Nat→Bool)(ix:List Nat)
 (m:Nat) (C:World→Prop) (ol:Oper) (A0:l[m]?=some ol)
 (h:WM P r N l C pur (fun D e w=>WL P r N l.toArray [ol] (fun D' e' w'=>D'=D∧n D e' w') D e w) D ix e w.drew) (hok:v6b l pur m=true:=by kernel_rfl) (hix:(List.range m==ix)=true:=by kernel_rfl):W P r N (.region id l.toArray true) ⟨n,b,t⟩ D e w:=by
 obtain rfl:List.range m=ix:=eq_of_beq hix;generalize o0:(fun(D:List Deferred) (e:Env) (w:World)=>WL P r N l.toArray [ol] (fun D' e' w'=>D'=D∧n D e' w') D e w)=K' at h;unfold v6b at hok;simp only[Bool.and_eq_true,decide_eq_true_eq] at hok;obtain⟨⟨⟨⟨r0,u0⟩,y0⟩,f0⟩,_⟩:=hok;have q0:∀j,j<m→j∈a5a l m:=fun j hj=>by
  have:=List.all_eq_true.1 f0 j (List.mem_range.2 hj);simpa using this
 have hz:(∀i,N≤i→e i=undef)→W P r N (.region id l.toArray true) ⟨n,b,t⟩ D e w:=by
  intro hz;refine o8b hm u0 (fun f e w=>(∀i,N≤i→e i=undef)∧(∀i,f i=true→∀j∈E1a l i,f j=true)∧((f m=false∧WM P r N l C pur K' D (X8a m f) e w)∨(f m=true∧n D e w))) ⟨hz,by simp,.inl ⟨Z,?_⟩⟩ ?_ ?_
  ·have:X8a m (fun _=>false)=List.range m:=by unfold X8a;simp
   rw[this];exact h
  ·rintro f e w i o ⟨hz,e0,hM⟩ ho g0 i0;have v0:i<l.length:=(List.getElem?_eq_some_iff.1 ho).1;have a0:∀k,(f k||k==i)=true→∀j∈E1a l k,(f j||j==i)=true:=by
    intro k hk j hj;simp only[Bool.or_eq_true,beq_iff_eq] at hk ⊢;rcases hk with hk|rfl
    ·exact .inl (e0 k hk j hj)
    ·exact .inl (i0 j hj)
   rcases hM with⟨c0,hM⟩|⟨c0,-⟩
   rotate_left
   ·have:=c4a e0 l.length (E1a l m) (e0 m c0) i (q0 i (by
     rcases Nat.lt_or_ge i m with h|h
     ·exact h
     ·have:i=m:=by omega
      subst this;rw[g0] at c0;cases c0))
    rw[g0] at this;cases this
   by_cases x0:i=m
   ·subst x0;obtain rfl:ol=o:=Option.some.inj (A0.symm.trans ho);have b0:∀j,j<i→f j=true:=fun j hj=>c4a e0 _ _ i0 j (q0 j hj);have j0:X8a i f=[]:=by
     unfold X8a;rw[List.filter_eq_nil_iff];intro j hj;simp[b0 j (List.mem_range.1 hj)]
    rw[j0] at hM;have h4:=hM.2;rw[←o0] at h4;clear hM h o0;unfold WL at *;refine fun a Q hs hD he hK=>h4 a Q hs hD he (fun a' w' m0 hh=>hK a' w' m0 ?_);refine⟨hh.1,fun j hj=>?_,a0,.inr ⟨by simp,hh.2⟩⟩;simp only[c1a,Array.getD_eq_getD_getElem?];rw[Array.getElem?_eq_none (by omega)];rfl
   have p0:i<m:=by omega
   have d0:(f m||m==i)=false:=by simp[c0];omega
   obtain⟨pre,_,h1,h2,h3⟩:=h2b (m:=m) f p0 g0;rw[h1] at hM;have C0:∀j∈a5a l i,f j=true:=c4a e0 _ _ i0;obtain⟨o',_,z0,hd,hN,h4⟩:=WM.first r0 pre e w (fun j hj=>by
    have:=List.all_eq_true.1 (List.all_eq_true.1 y0 i (List.mem_range.2 p0)) j (List.mem_range.2 (h3 j hj).1);simp only[Bool.or_eq_true,List.contains_eq_mem,decide_eq_true_eq] at this;rcases this with h|h
    ·have:=C0 j h;rw[(h3 j hj).2] at this;cases this
    ·exact h) hz hM
   obtain rfl:o'=o:=Option.some.inj (z0.symm.trans ho);rcases h4 with⟨B0,v,hv,h4⟩|⟨B0,h4⟩
   ·have s0:=hM.inC;rcases hv with⟨hw,hv⟩|⟨hw,rfl⟩
    ·unfold WL;intro a Q hs hD he hK;simp only[wpListIn];have n0:Region.wanted o' (yielded l.toArray a.tmps)=true:=by rw[G1a,he];exact hw
     simp only[n0,if_true];refine⟨G0a _ _ _,?_⟩;rw[Oper.semAt_eq _ _ _ (N0a r0 ho).2,E2a,he,hv w s0,Oper.uponIn_value];refine hK _ _ (by simp[Act.put,hd,hs]) ⟨by simp[Act.put,hd,hD],?_⟩;rw[hd,v1a v (by rw[hs];exact hN),he];exact⟨f2a hN hz,a0,.inl ⟨d0,by rw[h2];exact h4⟩⟩
    ·unfold WL;intro a Q hs hD he hK;simp only[wpListIn];have n0:Region.wanted o' (yielded l.toArray a.tmps)=false:=by rw[G1a,he];exact hw
     simp only[n0];refine⟨G0a _ _ _,?_⟩;refine hK _ _ (by simp[Act.put,hd,hs]) ⟨by simp[Act.put,hd,hD],?_⟩;rw[hd,v1a undef (by rw[hs];exact hN),he];exact⟨f2a hN hz,a0,.inl ⟨d0,by rw[h2];exact h4⟩⟩
   ·unfold WL at *;refine fun a Q hs hD he hK=>h4 a Q hs hD he (fun a' w' m0 hh=>hK a' w' m0 ?_);obtain⟨t0,v,hv,h5⟩:=hh;exact⟨t0,by rw[hv];exact f2a hN hz,a0,.inl ⟨d0,by rw[h2];exact h5⟩⟩
  ·rintro f e w ⟨hz,e0,hM⟩ b0;rcases hM with⟨c0,-⟩|⟨-,hM⟩
   ·have:=b0 m (by omega);rw[c0] at this;cases this
   ·exact hM
 unfold W at *;intro a hs hd he;refine hz (fun i hi=>?_) a hs hd he;rw[←he];simp only[c1a,Array.getD_eq_getD_getElem?];rw[Array.getElem?_eq_none (by omega)];rfl
end
theorem RdS.dropped{α:Type}{M:List Nat}{w:World}{size b o n c:Nat}{R:LV→α→Prop}{l:List α}(h:RdS M w size R (.slice (some ⟨b,o,none⟩) n c) l)(lo:Nat)(b0:lo≤n):
 RdS M w size R (.slice (some (if c=lo then⟨b,o,none⟩ else⟨b,o+lo*size,none⟩)) (n-lo) (c-lo)) (l.drop lo):=by
 obtain⟨_,_,_,_,h5⟩:=h.at;refine⟨_,_,_,Z,by simp;omega,by omega,by omega,by omega,fun h0=>?_⟩;obtain⟨_,_,hA,hb,a0⟩:=h5 (by omega);cases hA;rw[if_neg (by omega)];refine⟨b,o+lo*size,Z,hb,fun i x hx=>?_⟩;rw[List.getElem?_drop] at hx;obtain⟨cs,h6,h7,h8⟩:=a0 _ x hx;refine⟨cs,h6,?_,h8⟩;rw[Nat.add_mul,←Nat.add_assoc] at h7;exact h7
def B0c(s:p1a)(q:Int→Bool):Prop:=n4a s.guard q=true∧∀a∈s.set,n4a a.to q=true
def G3d(p:g0a)(t:Int)(s:p1a):Prop:=B0c s (V9a p t)∧∀a∈s.set,V9a p t a.cell=true
def F3d(p:g0a)(t:Int)(s:p1a):Prop:=B0c s (H2b p t)∧∀a∈s.set,H2b p t a.cell=true
def D3d(p:g0a)(t:Int)(s:p1a):Prop:=∃a l,s.set=a::l∧n4a s.guard (V9a p t)=true∧V9a p t a.cell=true∧h0b p.cells a.cell=false∧a.to.op=2∧shQ p a.to.n=true∧h0b p.cells a.to.n=false∧∀b∈l,V9a p t b.cell=true∧h0b p.cells b.cell=true∧n4a b.to (V9a p t)=true
def X2d(p:g0a)(t:Int)(s:p1a):Prop:=∃a l,s.set=a::l∧B0c s (V9a p t)∧shQ p a.cell=true∧h0b p.cells a.cell=false∧∀b∈l,(h0b p.cells b.cell&&H2b p t b.cell)=true
def P2d(s:p1a):Prop:=s.guard=⟨1,1,1,[]⟩∧s.set=[]
def C3d(p:g0a)(t:Int)(s:p1a):Prop:=P2d s∧s.target≠t∧M1a s.target p.threads.length
def S3d(p:g0a)(t:Int)(s:p1a):Prop:=C3d p t s∧∀u,p.threads[s.target.toNat]?=some u→u.asleep=true
def F1d(p:g0a)(t:Int)(s:p1a):Prop:=if s.kind=1 then G3d p t s else if s.kind=2 then D3d p t s else if s.kind=3 then X2d p t s else if s.kind=4 then F3d p t s else if s.kind=5 then P2d s else if s.kind=6 then S3d p t s else C3d p t s
theorem u2b{cells:List t2a}{z:Bool}{t:Int}:d5a cells ⟨1,1,1,[]⟩ z t:=fun x hx=>by
 have h:(⟨1,1,1,[]⟩:E).wf=true:=by decide
 rcases List.mem_append.1 hx with hx|hx
 ·have:=((R9a h (.inr Z) x).1 hx).2.2;rw[E.occ_def] at this;simp at this;cases(show false=true from this)
 ·have:=((R9a h (.inl Z) x).1 hx).2.2;rw[E.occ_def] at this;simp at this;cases(show false=true from this)
section
variable {p:g0a} (hc:K3a p) {t:Nat} {s:p1a} (hg:s.guard.valid p.cells false=true) (hs:∀a∈s.set,M1a a.cell p.cells.length∧a.to.valid p.cells false=true)
include hc hg hs in
theorem x4b:B0c s (V9a p t)↔d5a p.cells s.guard false t∧∀a∈s.set,d5a p.cells a.to false t :=
 and_congr (D8a hc hg) ⟨fun h a ha=>(D8a hc (hs a ha).2).1 (h a ha),fun h a ha=>(D8a hc (hs a ha).2).2 (h a ha)⟩
include hc hg hs in
theorem i5c:B0c s (H2b p t)↔d5a p.cells s.guard true t∧∀a∈s.set,d5a p.cells a.to true t :=
 and_congr (x8a hc hg) ⟨fun h a ha=>(x8a hc (hs a ha).2).1 (h a ha),fun h a ha=>(x8a hc (hs a ha).2).2 (h a ha)⟩
theorem w6b{c:Int}(h:M1a c p.cells.length){t:Int}:V9a p t c=true↔K1a p.cells c=t:=⟨fun hh=>(of_decide_eq_true hh).2,fun hh=>decide_eq_true ⟨h,hh⟩⟩
theorem V2d{c:Int}(h:M1a c p.cells.length):shQ p c=true↔K1a p.cells c=-1:=⟨fun hh=>(of_decide_eq_true hh).2,fun hh=>decide_eq_true ⟨h,hh⟩⟩
theorem D5c{c:Int}(h:M1a c p.cells.length){t:Int}:H2b p t c=true↔K1a p.cells c=t∨K1a p.cells c=-1:=by
 unfold H2b;rw[Bool.or_eq_true,w6b h,V2d h];exact or_comm
theorem x0b.all{t:Int}(h:x0b p t s)(hk:s.kind≠2):∀a∈s.set,d5a p.cells a.to (decide (s.kind=4)) t:=fun a ha=>by
 obtain⟨i,hi,rfl⟩:=List.getElem_of_mem ha;exact h.vals i hi (.inr hk)
include hc hg hs in
theorem Z3c(hk:1≤s.kind∧s.kind≤7):F1d p t s↔x0b p t s:=by
 unfold F1d;rcases(show s.kind=1∨s.kind=2∨s.kind=3∨s.kind=4∨s.kind=5∨s.kind=6∨s.kind=7 by omega) with e|e|e|e|e|e|e<;>simp only[e,if_true,if_false,Int.reduceEq]
 ·unfold G3d;rw[x4b hc hg hs];have e4:decide (s.kind=4)=false:=decide_eq_false (by omega);refine⟨fun⟨⟨h1,h2⟩,h3⟩=>?_,fun h=>⟨⟨e4▸h.guard,fun a ha=>e4▸h.all (by omega) a ha⟩,fun a ha=>(w6b (hs a ha).1).2 (h.k1 e a ha)⟩⟩;exact⟨e4.symm▸h1,fun i hi _=>e4.symm▸h2 _ (List.getElem_mem hi),fun a ha=>.inl ((w6b (hs a ha).1).1 (h3 a ha)),fun _ a ha=>(w6b (hs a ha).1).1 (h3 a ha),fun h=>by omega,fun h=>by omega,fun h=>by omega,fun h=>by omega,fun h=>by omega⟩
 ·have e4:decide (s.kind=4)=false:=decide_eq_false (by omega);constructor
  ·rintro⟨a,l,e1,h1,h2,h3,h4,h5,h6,h7⟩;have hl:∀b∈l,b∈s.set:=fun b hb=>by rw[e1];exact List.mem_cons_of_mem _ hb
   have ha:a∈s.set:=by rw[e1];simp
   have h7':∀b∈l,K1a p.cells b.cell=t∧h0b p.cells b.cell=true:=fun b hb=>⟨(w6b (hs b (hl b hb)).1).1 (h7 b hb).1,(h7 b hb).2.1⟩
   have h2':=(w6b (hs a ha).1).1 h2;refine⟨e4.symm▸(D8a hc hg).1 h1,fun i hi hor=>?_,fun b hb=>.inl ?_,fun h=>by omega,fun _=>⟨a,l,e1,h2',h3,h4,(of_decide_eq_true h5).2,h6,h7'⟩,fun h=>by omega,fun h=>by omega,fun h=>by omega,fun h=>by omega⟩
   ·obtain⟨j,rfl⟩:∃j,i=j+1:=⟨i-1,by omega⟩;have hm:s.set[j+1]∈l:=X0b e1 (List.getElem?_eq_getElem hi);exact e4.symm▸(D8a hc (hs _ (hl _ hm)).2).1 (h7 _ hm).2.2
   ·rw[e1] at hb;rcases List.mem_cons.1 hb with rfl|hb
    ·exact h2'
    ·exact(h7' b hb).1
  ·intro h;obtain⟨a,l,e1,h2,h3,h4,h5,h6,h7⟩:=h.k2 e;have hl:∀b∈l,b∈s.set:=fun b hb=>by rw[e1];exact List.mem_cons_of_mem _ hb
   have ha:a∈s.set:=by rw[e1];simp
   have hn:=s3b (hs a ha).2 h4;refine⟨a,l,e1,(D8a hc hg).2 (e4▸h.guard),(w6b (hs a ha).1).2 h2,h3,h4,decide_eq_true ⟨hn,h5⟩,h6,fun b hb=>⟨(w6b (hs b (hl b hb)).1).2 (h7 b hb).1,(h7 b hb).2,(D8a hc (hs b (hl b hb)).2).2 ?_⟩⟩;obtain⟨j,hj⟩:=List.getElem?_of_mem hb;exact e4▸h.val (k:=j+1) (by rw[e1];exact hj) (.inl (by omega))
 ·have e4:decide (s.kind=4)=false:=decide_eq_false (by omega);constructor
  ·rintro⟨a,l,e1,hv,h2,h3,h7⟩;have hl:∀b∈l,b∈s.set:=fun b hb=>by rw[e1];exact List.mem_cons_of_mem _ hb
   have ha:a∈s.set:=by rw[e1];simp
   obtain⟨h1,hv2⟩:=(x4b hc hg hs).1 hv;refine⟨e4.symm▸h1,fun i hi _=>e4.symm▸hv2 _ (List.getElem_mem hi),fun b hb=>?_,fun h=>by omega,fun h=>by omega,fun _=>⟨a,l,e1,(V2d (hs a ha).1).1 h2,h3,fun b hb=>(Bool.and_eq_true _ _▸h7 b hb).1⟩,fun h=>by omega,fun h=>by omega,fun h=>by omega⟩;rw[e1] at hb;rcases List.mem_cons.1 hb with rfl|hb
   ·exact .inr ((V2d (hs b ha).1).1 h2)
   ·exact(D5c (hs b (hl b hb)).1).1 (Bool.and_eq_true _ _▸h7 b hb).2
  ·intro h;obtain⟨a,l,e1,h2,h3,h7⟩:=h.k3 e;have hl:∀b∈l,b∈s.set:=fun b hb=>by rw[e1];exact List.mem_cons_of_mem _ hb
   have ha:a∈s.set:=by rw[e1];simp
   exact⟨a,l,e1,(x4b hc hg hs).2 ⟨e4▸h.guard,fun a ha=>e4▸h.all (by omega) a ha⟩,(V2d (hs a ha).1).2 h2,h3,fun b hb=>by rw[Bool.and_eq_true];exact⟨h7 b hb,(D5c (hs b (hl b hb)).1).2 (h.cells b (hl b hb))⟩⟩
 ·unfold F3d;rw[i5c hc hg hs];have e4:decide (s.kind=4)=true:=decide_eq_true e;refine⟨fun⟨⟨h1,h2⟩,h3⟩=>?_,fun h=>⟨⟨e4▸h.guard,fun a ha=>e4▸h.all (by omega) a ha⟩,fun a ha=>(D5c (hs a ha).1).2 (h.cells a ha)⟩⟩;exact⟨e4.symm▸h1,fun i hi _=>e4.symm▸h2 _ (List.getElem_mem hi),fun a ha=>(D5c (hs a ha).1).1 (h3 a ha),fun h=>by omega,fun h=>by omega,fun h=>by omega,fun h=>by omega,fun h=>by omega,fun h=>by omega⟩
 ·refine⟨fun⟨h1,h2⟩=>?_,fun h=>⟨(h.k5 (by omega)).2,(h.k5 (by omega)).1⟩⟩;exact⟨h1▸u2b,fun i hi _=>(by rw[h2] at hi;simp at hi),fun a ha=>(by rw[h2] at ha;cases ha),fun h=>by omega,fun h=>by omega,fun h=>by omega,fun _=>⟨h2,h1⟩,fun h=>by omega,fun h=>by omega⟩
 ·refine⟨fun⟨⟨⟨h1,h2⟩,h3,h4⟩,h5⟩=>?_,fun h=>⟨⟨⟨(h.k5 (by omega)).2,(h.k5 (by omega)).1⟩,(h.k6 (by omega)).2,(h.k6 (by omega)).1⟩,h.k7 e⟩⟩;exact⟨h1▸u2b,fun i hi _=>(by rw[h2] at hi;simp at hi),fun a ha=>(by rw[h2] at ha;cases ha),fun h=>by omega,fun h=>by omega,fun h=>by omega,fun _=>⟨h2,h1⟩,fun _=>⟨h4,h3⟩,fun _=>h5⟩
 ·refine⟨fun⟨⟨h1,h2⟩,h3,h4⟩=>?_,fun h=>⟨⟨(h.k5 (by omega)).2,(h.k5 (by omega)).1⟩,(h.k6 (by omega)).2,(h.k6 (by omega)).1⟩⟩;exact⟨h1▸u2b,fun i hi _=>(by rw[h2] at hi;simp at hi),fun a ha=>(by rw[h2] at ha;cases ha),fun h=>by omega,fun h=>by omega,fun h=>by omega,fun _=>⟨h2,h1⟩,fun _=>⟨h4,h3⟩,fun h=>by omega⟩
end
theorem P9a(s:p1a)(M:List Nat)(w0:World)(ss:LV)(vf:Value)(q:Int→Bool)(hS:D1a M w0 ss s)(hp:i3a prog M w0 vf q)(hK:H3a M w0)(hM:∀g∈M,g<w0.heap.size):
 M0a prog 278 #[.agg ss.toArray,vf] w0 fun v w'=>v=.bool (dec (B0c s q))∧Bw w0 w':=by
 obtain⟨Ag,ng,cg,As,ns,o0,rfl,⟨_,_⟩,hG,i0,_⟩:=hS.open_;obtain⟨f,first,caps,rfl,_⟩:=id hp;have S:=St.refl w0;have p0:∀w':World,w0.heap.size≤w'.heap.size→∀g∈M,g<w'.heap.size:=fun w' h g hg=>by have:=hM g hg;omega
 refine a0a func278 Z ntmps278 Z ?_;refine wO1 Z (i0a S Z ?_);intro g2 w2 S2 X2 G2;refine lOn 8 S2.k [.o 0] Z ⟨Z,U⟩ (w0a Z ?_);refine k0a S2 k0b Z Z (a8a _ M _ _ _ q (RdE.keep (S2.keep0 M) _ _ hG) (hp.keep (S2.keep0 M)) (hK.keep (S2.keep0 M)) (p0 _ S2.size)) (fun c0 y0 b0 r0=>?_) (fun c0 y0 b0 r0=>?_)
 ·refine lC b0.k [.o 0] Z ⟨Z,U⟩ (wL (fun μk D ε w=>D=[]∧∃k:Nat,(k+μk=(s.set.length))∧(g1a (s.set) k (fun a=>n4a a.to q=true))∧St [] w0 w [(some g2,61,[.int .i64 s.kind,.int .i64 s.frm,.int .i64 s.to,.int .i64 s.guard.op,.int .i64 s.guard.w,.int .i64 s.guard.n,.slice Ag ng cg,.slice As ns o0,.bool s.release,.int .i64 s.target,.int .i64 s.module_])]∧Sl ε [(1,.func (.func f) first caps),(13,.slice As ns o0),(14,.int .i64 ns),(15,.int .i64 k)]) (μ:=(s.set.length)) ⟨Z,0,by omega,g1a.zero,b0,Z⟩ ?_);rintro μk D ε w ⟨rfl,k,_,ha,S,eZ⟩;refine wK eZ (wB1 Z (fun v0=>?_) fun v0=>?_)
  ·obtain⟨a,u0,x0,_,q0,f0,_,m0,j0,n0⟩:=RdS.get (i0) (k) (by omega);obtain⟨_,_,_,rfl,_,g0⟩:=b1a.open_ n0;refine lO (S.k.a j0) [.x u0 x0,.v 0] Z ⟨⟨Z,m0⟩,⟨f0,by omega⟩,U⟩ (m0a S K2b Z Z ?_);intro g6 w6 S6 X6 G6;refine f0a (kk:=0) (vs:=[_,_,_,_,_]) S6 R2b Z Z Z Z Z Z Z ?_;intro A0 a0 t0;dsimp only[o0a,List.set] at a0;refine lO a0.k [.o 0] Z ⟨Z,U⟩ (k0a a0 k0b Z Z (a8a _ M _ _ _ q (RdE.keep (a0.keep0 M) _ _ g0) (hp.keep (a0.keep0 M)) (hK.keep (a0.keep0 M)) (p0 _ a0.size)) (fun d0 z0 e0 s0=>?_) (fun d0 z0 e0 s0=>?_))
   ·refine lP1 Z ⟨μk-1,by omega,Z,k+1,by omega,(ha.succ q0 (d0)),e0.tail,Z⟩
   refine lU Z Z ?_;refine⟨I0a (fun h=>?_),e0.fin⟩;rw[h.2 a (c0a q0)] at d0;cases d0;done
  exact lU Z Z ⟨s2a ⟨c0,ha.all (by omega)⟩,S.fin⟩
 refine lU Z Z ?_;refine⟨I0a (fun h=>?_),b0.fin⟩;rw[h.1] at c0;cases c0;done
theorem N1b(l:List U1a)(M:List Nat)(w0:World)(v vf:Value)(q:Int→Bool)(hS:X8c M w0 v l)(hp:i3a prog M w0 vf q):
 M0a prog 279 #[v,vf] w0 fun v w'=>v=.bool (dec (∀a∈l,q a.cell=true))∧Bw w0 w':=by
 obtain⟨As,ns,p0,rfl⟩:=hS.form;obtain⟨_,_⟩:=hS.len;obtain⟨f,first,caps,rfl,_⟩:=id hp;have S:=St.refl w0;refine a0a func279 Z ntmps279 Z ?_;refine wC1 Z (wL (fun μk D ε w=>D=[]∧∃k:Nat,(k+μk=(l.length))∧(g1a (l) k (fun a=>q a.cell=true))∧St [] w0 w []∧Sl ε [(1,.func (.func f) first caps),(7,.slice As ns p0),(8,.int .i64 ns),(9,.int .i64 k)]) (μ:=(l.length)) ⟨Z,0,by omega,g1a.zero,S,Z⟩ ?_);rintro μk D ε w ⟨rfl,k,_,ha,S,eZ⟩;refine wK eZ (wB1 Z (fun q0=>?_) fun q0=>?_)
 ·obtain⟨a,o0,r0,_,j0,d0,_,f0,e0,g0⟩:=RdS.get (hS) (k) (by omega);obtain⟨_,_,_,rfl,i0,_⟩:=b1a.open_ g0;refine lO (S.k.a e0) [.x o0 r0,.v 0] Z ⟨⟨Z,f0⟩,⟨d0,by omega⟩,U⟩ (m0a S K2b Z Z ?_);intro g6 w6 S6 X6 G6
  first|refine f0a (kk:=0) (vs:=[_,_,_,_,_]) S6 R2b Z Z Z Z Z Z Z ?_
  intro t0 a0 n0;dsimp only[o0a,List.set] at a0;refine lO a0.k [.o 0] Z ⟨Z,U⟩ (z8a a0 (hp.keep (a0.keep0 M)) Z Z (i0) Z (fun b0 s0 c0 m0=>?_) (fun b0 s0 c0 m0=>?_))
  ·refine lP1 Z ⟨μk-1,by omega,Z,k+1,by omega,(ha.succ j0 (b0)),c0.tail,Z⟩
  refine lU Z Z ?_;refine⟨I0a (fun h=>?_),c0.fin⟩;rw[h a (c0a j0)] at b0;cases b0;done
 exact lU Z Z ⟨s2a (ha.all (by omega)),S.fin⟩
theorem S6c(e:E)(M:List Nat)(w0:World)(cs:LV)(hR:RdE M w0 e cs):M0a prog 308 #[.agg cs.toArray] w0 fun v w'=>v=.bool (dec (e=⟨1,1,1,[]⟩))∧Bw w0 w':=by
 obtain⟨_,n,_,rfl,_⟩:=hR.cells;have S:=St.refl w0;refine a0a func308 Z ntmps308 Z ?_;refine wO1 Z (i0a S Z ?_);intro g1 w1 S1 X1 G1;refine lB S1.k [.o 0] Z ⟨Z,U⟩ (fun h5=>?_) fun h5=>?_
 ·refine lB S1.k [.o 0] Z ⟨Z,U⟩ (fun h9=>?_) fun h9=>?_
  ·refine lB S1.k [.o 0] Z ⟨Z,U⟩ (fun a0=>?_) fun a0=>?_
   ·refine lB S1.k [.o 0] Z ⟨Z,U⟩ (fun b0=>?_) fun b0=>?_
    ·refine lU Z Z ?_;exact⟨s2a (E.ext (by simp only;omega) (by simp only;omega) (by simp only;omega) (List.length_eq_zero_iff.1 (by omega))),S1.fin⟩
    refine lU Z Z ?_;refine⟨I0a (fun h=>?_),S1.fin⟩;obtain⟨a1,a2,a3,a4⟩:e.op=1∧e.w=1∧e.n=1∧e.kids.length=0:=(by rw[h];exact⟨Z,Z,Z,Z⟩);omega
   refine lU Z Z ?_;refine⟨I0a (fun h=>?_),S1.fin⟩;obtain⟨a1,a2,a3,a4⟩:e.op=1∧e.w=1∧e.n=1∧e.kids.length=0:=(by rw[h];exact⟨Z,Z,Z,Z⟩);omega
  refine lU Z Z ?_;refine⟨I0a (fun h=>?_),S1.fin⟩;obtain⟨a1,a2,a3,a4⟩:e.op=1∧e.w=1∧e.n=1∧e.kids.length=0:=(by rw[h];exact⟨Z,Z,Z,Z⟩);omega
 refine lU Z Z ?_;refine⟨I0a (fun h=>?_),S1.fin⟩;obtain⟨a1,a2,a3,a4⟩:e.op=1∧e.w=1∧e.n=1∧e.kids.length=0:=(by rw[h];exact⟨Z,Z,Z,Z⟩);omega
theorem O8b(s:p1a)(M:List Nat)(w0:World)(ss:LV)(hS:D1a M w0 ss s):
 M0a prog 282 #[.agg ss.toArray] w0 fun v w'=>v=.bool (dec (P2d s))∧Bw w0 w':=by
 obtain⟨_,_,_,_,_,_,rfl,⟨_,_⟩,hG,_,a0,_⟩:=hS.open_;have S:=St.refl w0;refine a0a func282 Z ntmps282 Z ?_;refine wO1 Z (i0a S Z ?_);intro g1 w1 S1 X1 G1;refine lO S1.k [.o 0] Z ⟨Z,U⟩ (k0a S1 c0d Z Z (S6c _ M _ _ (RdE.keep (S1.keep0 M) _ _ hG)) (fun h5 w5 S5 X5=>?_) (fun h5 w5 S5 X5=>?_))
 ·refine lB S5.k [.o 0] Z ⟨Z,U⟩ (fun b0=>?_) fun b0=>?_
  ·exact lU Z Z ⟨s2a ⟨x1a h5,List.length_eq_zero_iff.1 (by omega)⟩,S5.fin⟩
  refine lU Z Z ?_;refine⟨I0a (fun h=>?_),S5.fin⟩;have:=h.2;rw[this] at a0;simp at a0;omega
 refine lU Z Z ?_;refine⟨I0a (fun h=>Z0a h5 h.1),S5.fin⟩;done
structure AtX (p:g0a) (s:p1a) (M:List Nat) (w:World) (cs ss:LV):Prop where
 prog:C1a M w p cs
 step:D1a M w ss s
 rng:∀a∈s.set,M1a a.cell p.cells.length
 masks:H3a M w
 low:∀g∈M,g<w.heap.size
theorem s4b(p:g0a)(t:Nat)(s:p1a)(M:List Nat)(w0:World)(cs ss:LV)(h:AtX p s M w0 cs ss):
 M0a prog 229 #[.agg cs.toArray,.int .i64 t,.agg ss.toArray] w0 fun v w'=>v=.bool (dec (G3d p t s))∧Bw w0 w':=by
 obtain⟨hP,hS,_,hK,hM⟩:=h;obtain⟨_,_,_,_,_,_,_,_,_,_,_,_,rfl,_⟩:=hP.open_;obtain⟨_,_,_,_,_,_,rfl,⟨_,_⟩,_,f0,_⟩:=hS.open_;have S:=St.refl w0;have j0:∀w':World,w0.heap.size≤w'.heap.size→∀g∈M,g<w'.heap.size:=fun w' h g hg=>by have:=hM g hg;omega
 refine a0a func229 Z ntmps229 Z ?_;refine wO1 Z (i0a S Z ?_);intro g3 w3 S3 X3 G3;refine i0a S3 Z ?_;intro g5 w5 S5 X5 G5;refine lO S5.k [.w 1] Z ⟨⟨Z,by rfl⟩,U⟩ (s0a S5 j2b Z Z (B2b p t M _ _ (hP.keep (S5.keep0 M)) (j0 _ S5.size)) ?_);rintro p0 q0 hq b0 o0;obtain⟨_,_,_,rfl,_⟩:=id hq;refine lO b0.k [.w 0] Z ⟨⟨Z,by rfl⟩,U⟩ (k0a b0 x7b Z Z (P9a s M _ _ _ (V9a p t) (D1a.keep (b0.keep0 M) _ _ hS) hq (hK.keep (b0.keep0 M)) (j0 _ b0.size)) (fun d0 m0 a0 g0=>?_) (fun d0 m0 a0 g0=>?_))
 ·replace hq:=hq.keep (g0.of_nil);refine lO a0.k [.o 0] Z ⟨Z,U⟩ (k0a a0 i8b Z Z (N1b s.set M _ _ _ (V9a p t) (RdS.keepW f0 (a0.keep0 M) (b1a.keep (a0.keep0 M))) hq) (fun e0 n0 c0 i0=>?_) (fun e0 n0 c0 i0=>?_))
  ·replace hq:=hq.keep (i0.of_nil);exact lU Z Z ⟨s2a ⟨x1a d0,x1a e0⟩,c0.fin⟩
  refine lU Z Z ?_;refine⟨I0a (fun h=>Z0a e0 h.2),c0.fin⟩;done
 refine lU Z Z ?_;refine⟨I0a (fun h=>Z0a d0 h.1),a0.fin⟩;done
theorem L2b(p:g0a)(t:Nat)(s:p1a)(M:List Nat)(w0:World)(cs ss:LV)(h:AtX p s M w0 cs ss):
 M0a prog 232 #[.agg cs.toArray,.int .i64 t,.agg ss.toArray] w0 fun v w'=>v=.bool (dec (F3d p t s))∧Bw w0 w':=by
 obtain⟨hP,hS,_,hK,hM⟩:=h;obtain⟨_,_,_,_,_,_,_,_,_,_,_,_,rfl,_⟩:=hP.open_;obtain⟨_,_,_,_,_,_,rfl,⟨_,_⟩,_,f0,_⟩:=hS.open_;have S:=St.refl w0;have j0:∀w':World,w0.heap.size≤w'.heap.size→∀g∈M,g<w'.heap.size:=fun w' h g hg=>by have:=hM g hg;omega
 refine a0a func232 Z ntmps232 Z ?_;refine wO1 Z (i0a S Z ?_);intro g3 w3 S3 X3 G3;refine i0a S3 Z ?_;intro g5 w5 S5 X5 G5;refine lO S5.k [.w 1] Z ⟨⟨Z,by rfl⟩,U⟩ (s0a S5 F7b Z Z (y8a p t M _ _ (hP.keep (S5.keep0 M)) (j0 _ S5.size)) ?_);rintro p0 q0 hq b0 o0;obtain⟨_,_,_,rfl,_⟩:=id hq;refine lO b0.k [.w 0] Z ⟨⟨Z,by rfl⟩,U⟩ (k0a b0 x7b Z Z (P9a s M _ _ _ (H2b p t) (D1a.keep (b0.keep0 M) _ _ hS) hq (hK.keep (b0.keep0 M)) (j0 _ b0.size)) (fun d0 m0 a0 g0=>?_) (fun d0 m0 a0 g0=>?_))
 ·replace hq:=hq.keep (g0.of_nil);refine lO a0.k [.o 0] Z ⟨Z,U⟩ (k0a a0 i8b Z Z (N1b s.set M _ _ _ (H2b p t) (RdS.keepW f0 (a0.keep0 M) (b1a.keep (a0.keep0 M))) hq) (fun e0 n0 c0 i0=>?_) (fun e0 n0 c0 i0=>?_))
  ·replace hq:=hq.keep (i0.of_nil);exact lU Z Z ⟨s2a ⟨x1a d0,x1a e0⟩,c0.fin⟩
  refine lU Z Z ?_;refine⟨I0a (fun h=>Z0a e0 h.2),c0.fin⟩;done
 refine lU Z Z ?_;refine⟨I0a (fun h=>Z0a d0 h.1),a0.fin⟩;done
theorem p4b(p:g0a)(t:Nat)(s:p1a)(M:List Nat)(w0:World)(cs ss:LV)(h:AtX p s M w0 cs ss):
 M0a prog 233 #[.agg cs.toArray,.int .i64 t,.agg ss.toArray] w0 fun v w'=>v=.bool (dec (P2d s))∧Bw w0 w':=by
 obtain⟨hP,hS,_⟩:=h;obtain⟨_,_,_,_,_,_,_,_,_,_,_,_,rfl,_⟩:=hP.open_;obtain⟨_,_,_,_,_,_,rfl,⟨_,_⟩,_⟩:=hS.open_;have S:=St.refl w0;refine a0a func233 Z ntmps233 Z ?_;refine wO1 Z (i0a S Z ?_);intro g3 w3 S3 X3 G3;refine i0a S3 Z ?_;intro g5 w5 S5 X5 G5;refine lO S5.k [.w 0] Z ⟨⟨Z,by rfl⟩,U⟩ (k0a S5 Y2c Z Z (O8b s M _ _ (D1a.keep (S5.keep0 M) _ _ hS)) (fun h8 w8 S8 X8=>?_) (fun h8 w8 S8 X8=>?_))
 ·refine lR1 Z (t0a Z ?_);exact⟨by rw[h8],S8.fin⟩
 refine lR1 Z (t0a Z ?_);exact⟨by rw[h8],S8.fin⟩
theorem u0b(p:g0a)(t:Nat)(s:p1a)(M:List Nat)(w0:World)(cs ss:LV)(h:AtX p s M w0 cs ss):
 M0a prog 235 #[.agg cs.toArray,.int .i64 t,.agg ss.toArray] w0 fun v w'=>v=.bool (dec (C3d p t s))∧Bw w0 w':=by
 obtain⟨hP,hS,_⟩:=h;obtain⟨_,_,_,_,_,_,_,_,_,_,_,_,rfl,_⟩:=hP.open_;obtain⟨_,_,_,_,_,_,rfl,⟨_,_⟩,_⟩:=hS.open_;have S:=St.refl w0;refine a0a func235 Z ntmps235 Z ?_;refine wO1 Z (i0a S Z ?_);intro g3 w3 S3 X3 G3;refine i0a S3 Z ?_;intro g5 w5 S5 X5 G5;refine lO S5.k [.w 0] Z ⟨⟨Z,by rfl⟩,U⟩ (k0a S5 Y2c Z Z (O8b s M _ _ (D1a.keep (S5.keep0 M) _ _ hS)) (fun h8 w8 S8 X8=>?_) (fun h8 w8 S8 X8=>?_))
 ·refine lB S8.k [.o 0] Z ⟨Z,U⟩ (fun d0=>?_) fun d0=>?_
  ·refine lO S8.k [.o 0,.o 1] Z ⟨Z,Z,U⟩ (k0a S8 R3a Z Z (Q2a _ _ _) (fun b0 e0 a0 c0=>?_) (fun b0 e0 a0 c0=>?_))
   ·refine lU Z Z ?_;exact⟨s2a ⟨x1a h8,by omega,by have:=of_decide_eq_true b0;unfold M1a;omega⟩,a0.fin⟩
   refine lU Z Z ?_;refine⟨I0a (fun h=>?_),a0.fin⟩;have:=h.2.2;unfold M1a at this;have:=of_decide_eq_false b0;omega
  refine lU Z Z ?_;refine⟨I0a (fun h=>?_),S8.fin⟩;have:=h.2.1;omega
 refine lU Z Z ?_;refine⟨I0a (fun h=>Z0a h8 h.1),S8.fin⟩;done
theorem b5b(p:g0a)(t:Nat)(s:p1a)(M:List Nat)(w0:World)(cs ss:LV)(h:AtX p s M w0 cs ss):
 M0a prog 234 #[.agg cs.toArray,.int .i64 t,.agg ss.toArray] w0 fun v w'=>v=.bool (dec (S3d p t s))∧Bw w0 w':=by
 obtain⟨hP,hS,o0,hK,hM⟩:=h;obtain⟨_,_,_,_,_,_,_,_,_,_,_,_,rfl,_,_,_,n0,_⟩:=hP.open_;obtain⟨_,_,_,_,_,_,rfl,⟨_,_⟩,_⟩:=hS.open_;have S:=St.refl w0;have m0:∀w':World,w0.heap.size≤w'.heap.size→∀g∈M,g<w'.heap.size:=fun w' h g hg=>by have:=hM g hg;omega
 refine a0a func234 Z ntmps234 Z ?_;refine wO1 Z (i0a S Z ?_);intro g3 w3 S3 X3 G3;refine i0a S3 Z ?_;intro g5 w5 S5 X5 G5;refine lO S5.k [.w 1,.w 0] Z ⟨⟨Z,by rfl⟩,⟨Z,by rfl⟩,U⟩ (k0a S5 c2c Z Z (u0b p t s M _ _ _ ⟨hP.keep (S5.keep0 M),D1a.keep (S5.keep0 M) _ _ hS,o0,hK.keep (S5.keep0 M),m0 _ S5.size⟩) (fun d0 r0 b0 i0=>?_) (fun d0 r0 b0 i0=>?_))
 ·have q0:=(x1a d0).2.2;unfold M1a at q0;obtain⟨u,j0,p0,_,g0,e0,_,_,c0,f0⟩:=RdS.get (n0) (s.target.toNat) (by omega);obtain⟨_,_,_,_,_,_,_,_,_,_,_,_,rfl,_⟩:=S0a.open_ f0;refine lO b0.k [.o 1,.o 0,.x j0 p0] Z ⟨⟨e0,by omega⟩,Z,Z,U⟩ ?_;cases a0:u.asleep
  ·refine v0a d2a Z (by exact(b0.old (c0 _ _ Z)).trans (congrArg (fun b=>some (Value.bool b)) a0)) Z ?_;refine lU Z Z ?_;refine⟨I0a (fun h=>?_),b0.fin⟩;have:=h.2 u g0;rw[a0] at this;cases this;done
  refine v0a d2a Z (by exact(b0.old (c0 _ _ Z)).trans (congrArg (fun b=>some (Value.bool b)) a0)) Z ?_;refine lU Z Z ?_;exact⟨s2a ⟨x1a d0,fun v hv=>by rw[g0] at hv;cases hv;exact a0⟩,b0.fin⟩
 refine lU Z Z ?_;refine⟨I0a (fun h=>Z0a d0 h.1),b0.fin⟩;done
theorem H5b(p:g0a)(t:Nat)(s:p1a)(M:List Nat)(w0:World)(cs ss:LV)(h:AtX p s M w0 cs ss):
 M0a prog 230 #[.agg cs.toArray,.int .i64 t,.agg ss.toArray] w0 fun v w'=>v=.bool (dec (D3d p t s))∧Bw w0 w':=by
 obtain⟨hP,hS,p1,hK,hM⟩:=h;obtain⟨Ac,nc,cc,Am,nm,cm,Al,nl,cl,At,nt,ct,rfl,_⟩:=hP.open_;obtain⟨Ag,ng,cg,_,ns,S0,rfl,⟨_,_⟩,hG,i0,H1,_⟩:=hS.open_;have S:=St.refl w0;have K0:∀w':World,w0.heap.size≤w'.heap.size→∀g∈M,g<w'.heap.size:=fun w' h g hg=>by have:=hM g hg;omega
 cases d0:s.set with
 | nil =>
   have hz:ns=0:=by rw[H1,d0];rfl
   have G1:¬D3d p t s:=fun⟨a,l,e,_⟩=>by rw[d0] at e;cases e
   refine a0a func230 Z ntmps230 Z ?_;refine wO1 Z (i0a S Z ?_);intro g3 w3 S3 X3 G3;refine i0a S3 Z ?_;intro g5 w5 S5 X5 G5;refine lO S5.k [.w 1] Z ⟨⟨Z,by rfl⟩,U⟩ (s0a S5 j2b Z Z (B2b p t M _ _ (hP.keep (S5.keep0 M)) (K0 _ S5.size)) ?_);rintro N1 L0 hq g0 y1;obtain⟨f,first,caps,rfl,hH,hf⟩:=id hq;have c0:=A0a.refl [] L0;refine lB g0.k [.o 0] Z ⟨Z,U⟩ (fun T0=>?_) (fun T0=>by exfalso;omega);exact lU Z Z ⟨I0a G1,g0.fin⟩
 | cons a0 l =>
 have hlen:s.set.length=l.length+1:=by rw[d0];rfl
 have F1:a0∈s.set:=by rw[d0];simp
 have X0:=p1 a0 F1;have b1:s.set[0]?=some a0:=by rw[d0];rfl
 unfold M1a at X0;obtain⟨_,b0,p0,_,c1,rfl,D1,_,z0,I1⟩:=RdS.get i0 0 (by omega);obtain rfl:=Option.some.inj (b1.symm.trans c1);obtain⟨t1,K1,A1,rfl,J1,_⟩:=b1a.open_ I1;have E1:s.set.drop 1=l:=by rw[d0];rfl
 have o1:=RdS.dropped i0 1 (by omega);rw[E1] at o1;refine a0a func230 Z ntmps230 Z ?_;refine wO1 Z (i0a S Z ?_);intro g3 w3 S3 X3 G3;refine i0a S3 Z ?_;intro g5 w5 S5 X5 G5;refine lO S5.k [.w 1] Z ⟨⟨Z,Z⟩,U⟩ (s0a S5 j2b Z Z (B2b p t M _ _ (hP.keep (S5.keep0 M)) (K0 _ S5.size)) ?_);rintro N1 L0 hq g0 y1;obtain⟨f,first,caps,rfl,hH,hf⟩:=id hq;have c0:=A0a.refl [] L0;refine lB g0.k [.o 0] Z ⟨Z,U⟩ (fun T0=>by exfalso;omega) fun T0=>?_;refine lO g0.k [.o 0] Z ⟨Z,U⟩ (k0a g0 k0b Z Z (a8a _ M _ _ _ (V9a p t) (RdE.keep (g0.keep0 M) _ _ hG) (hq.keep c0.of_nil) (hK.keep (g0.keep0 M)) (K0 _ g0.size)) (fun D0 N0 B0 f1=>?_) (fun D0 N0 B0 f1=>?_))
 ·replace c0:=c0.trans f1;refine lC1 Z (i3b b0a (fun i=>[0,1,2,3,4,5,6,7,8,9,11].contains i) [0,1,2,3,4,5,6,7,8,9,10,11] 12 (T3d B0) _ Z ?_);have f0:=B0.drew;have e0:A0a [] N0 N0.drew:=p2a _ _;generalize N0.drew=Z1 at f0 e0 ⊢;replace c0:=c0.trans e0;refine t1a ⟨f0,e0⟩ Z Z Z ?_;refine H0a r8b Z Z ?_;refine e0a ?_;refine t1a ⟨f0,e0⟩ Z Z Z ?_;refine p0a I6b Z (fun w1 hw=>by exact hw.1.cell 0 Z Z) Z ?_;refine e0a ?_;refine t1a ⟨f0,e0⟩ Z Z Z ?_;refine q0a h1b.slT Z (by rfl) Z Z ?_;refine e0a ?_;refine t1a ⟨f0,e0⟩ Z Z Z ?_;refine H0a x3c Z Z ?_;refine e0a ?_;refine t1a ⟨f0,e0⟩ Z Z Z ?_;refine p0a K0a Z (fun w1 hw=>by exact hw.1.old (z0 _ _ Z)) Z ?_;refine e0a ?_;refine t1a ⟨f0,e0⟩ Z Z Z ?_;refine H0a r8b Z Z ?_;refine e0a ?_;refine t1a ⟨f0,e0⟩ Z Z Z ?_;refine p0a I6b Z (fun w1 hw=>by exact hw.1.cell 0 Z Z) Z ?_;refine e0a ?_;refine t1a ⟨f0,e0⟩ Z Z Z ?_;refine q0a h1b.slT Z (by rfl) Z Z ?_;refine e0a ?_;refine t1a ⟨f0,e0⟩ Z Z Z ?_;refine H0a j1c Z Z ?_;refine e0a ?_;refine t1a ⟨f0,e0⟩ Z Z Z ?_;refine w1a B2a Z (fun w1 hw=>(O1a.sub z0 1 4).keep (hw.1.keep0 M) D1) (by rfl) Z ?_;refine e0a ?_;refine j8a ⟨f0,e0⟩ Z Z Z Z ?_;refine m0a f0 h9a Z Z ?_;intro g9 w9 S9 X9 G9;have r0:=Nat.le_trans c0.size G9;have x0:=e0.trans X9;replace c0:=c0.trans X9;refine D0a ⟨Z,?_⟩;refine t1a ⟨S9.tail,x0⟩ Z Z Z ?_;refine e3a (v:=.int .i64 _) Z Z ?_;refine e0a ?_;refine K5a ⟨S9.tail,x0⟩ ?_;refine f0a (kk:=0) (vs:=[_,_,_,_]) S9 D9a Z Z Z Z Z Z Z ?_;intro s1 j0 v0;dsimp only[o0a,List.set] at j0;replace c0:=c0.fresh v0 (by first|exact r0);refine D0a ⟨Z,?_⟩;refine fO0 Z U (z8a j0 (hq.keep c0.of_nil) Z Z (J1) Z (fun E0 O1 s0 g1=>?_) (fun E0 O1 s0 g1=>?_))
  ·replace c0:=c0.trans g1;refine lO s0.k [.w 2] Z ⟨⟨Z,Z⟩,U⟩ (k0a s0 m1b Z Z (n7a p M _ _ _ (hP.keep (s0.keep0 M)) X0.1 X0.2) (fun F0 P1 n0 P0=>?_) (fun F0 P1 n0 P0=>?_))
   ·replace c0:=c0.trans P0;refine lU Z Z ⟨I0a (fun h=>?_),n0.fin⟩;obtain⟨b,l',e,q1,q2,q3,q4,q5,q6,q7⟩:=h;rw[d0] at e;cases e
    (rw[q3] at F0;cases F0;done)
   replace c0:=c0.trans P0;refine lB n0.k [.o 0] Z ⟨Z,U⟩ (fun B1=>?_) fun B1=>?_
   ·refine lU Z Z ⟨I0a (fun h=>?_),n0.fin⟩;obtain⟨b,l',e,q1,q2,q3,q4,q5,q6,q7⟩:=h;rw[d0] at e;cases e;omega
   refine lO n0.k [.w 2,.o 0] Z ⟨Z,⟨Z,Z⟩,U⟩ (k0a n0 D1b Z Z (s6a p M _ _ _ (hP.keep (n0.keep0 M))) (fun y0 Q1 t0 i1=>?_) (fun y0 Q1 t0 i1=>?_))
   ·replace c0:=c0.trans i1;refine lO t0.k [.w 2,.o 0] Z ⟨Z,⟨Z,Z⟩,U⟩ ?_;have r1:=(of_decide_eq_true y0).1;refine k0a t0 m1b Z Z (n7a p M _ _ _ (hP.keep (t0.keep0 M)) r1.1 r1.2) (fun G0 R1 C0 Q0=>?_) (fun G0 R1 C0 Q0=>?_)
    ·replace c0:=c0.trans Q0;refine lU Z Z ⟨I0a (fun h=>?_),C0.fin⟩;obtain⟨b,l',e,q1,q2,q3,q4,q5,q6,q7⟩:=h;rw[d0] at e;cases e
     (rw[q6] at G0;cases G0;done)
    replace c0:=c0.trans Q0;refine lO C0.k [.o 1] Z ⟨Z,U⟩ ?_;refine d5b (kd:=.i64) (lo:=1) (hi:=ns) h1b.slT Z (.inr Z) (.inl ⟨Z,Z⟩) (by have:=i0.len;omega) (by have:=i0.len;omega) Z ?_;refine lC1 Z (wL (fun μk D ε w=>D=[]∧∃k:Nat,(k+μk=(l.length))∧(g1a (l) k (fun b=>V9a p t b.cell=true∧h0b p.cells b.cell=true∧n4a b.to (V9a p t)=true))∧(A0a [] L0 w)∧St [] w0 w [(some g9,38,[.int .i64 a0.to.op,.int .i64 a0.to.w,.int .i64 a0.to.n,.slice t1 K1 A1]),(some g5,61,[.int .i64 s.kind,.int .i64 s.frm,.int .i64 s.to,.int .i64 s.guard.op,.int .i64 s.guard.w,.int .i64 s.guard.n,.slice Ag ng cg,.slice (some ⟨b0,p0,none⟩) ns S0,.bool s.release,.int .i64 s.target,.int .i64 s.module_]),(some g3,122,pL Ac nc cc Am nm cm Al nl cl At nt ct)]∧Sl ε [(3,.pointer (some ⟨g3,0,none⟩)),(7,.func (.func f) first caps),(65,.slice (some (if S0=1 then⟨b0,p0,none⟩ else⟨b0,p0+1*5,none⟩)) (ns-1) (S0-1)),(66,.int .i64 (ns-1:Nat)),(67,.int .i64 k)]) (μ:=(l.length)) ⟨Z,0,by omega,g1a.zero,c0,C0,Z⟩ ?_);rintro μk D ε w ⟨rfl,k,_,ha,c0,S,eZ⟩;refine wK eZ (wB1 Z (fun C1=>?_) fun C1=>?_)
    ·obtain⟨a,z1,M1,_,A0,U0,_,Z0,Y0,a1⟩:=RdS.get (o1) (k) (by omega);obtain⟨_,_,_,rfl,d1,V0⟩:=b1a.open_ a1;have W0:=p1 a (by rw[d0];exact List.mem_cons_of_mem _ (c0a A0));unfold M1a at W0;refine lO (S.k.a Y0) [.x z1 M1,.v 0] Z ⟨⟨Z,Z0⟩,⟨U0,by omega⟩,U⟩ (m0a S K2b Z Z ?_);intro X1 Y1 v1 x1 u1;have m0:=Nat.le_trans c0.size u1;replace c0:=c0.trans x1;refine f0a (kk:=0) (vs:=[_,_,_,_,_]) v1 R2b Z Z Z Z Z Z Z ?_;intro W1 q0 R0;dsimp only[o0a,List.set] at q0;replace c0:=c0.fresh R0 (by exact m0);refine lO q0.k [.o 0] Z ⟨Z,U⟩ (z8a q0 (hq.keep c0.of_nil) Z Z (d1) Z (fun H0 T1 u0 j1=>?_) (fun H0 T1 u0 j1=>?_))
     ·replace c0:=c0.trans j1;refine lO u0.k [.w 3,.o 0] Z ⟨Z,⟨Z,Z⟩,U⟩ (k0a u0 m1b Z Z (n7a p M _ _ _ (hP.keep (u0.keep0 M)) W0.1 W0.2) (fun I0 U1 o0 m1=>?_) (fun I0 U1 o0 m1=>?_))
      ·replace c0:=c0.trans m1;refine lO o0.k [.o 0] Z ⟨Z,U⟩ (k0a o0 k0b Z Z (a8a _ M _ _ _ (V9a p t) (RdE.keep (o0.keep0 M) _ _ V0) (hq.keep c0.of_nil) (hK.keep (o0.keep0 M)) (K0 _ o0.size)) (fun J0 V1 O0 n1=>?_) (fun J0 V1 O0 n1=>?_))
       ·replace c0:=c0.trans n1;refine lP1 Z ⟨μk-1,by omega,Z,k+1,by omega,(ha.succ A0 (⟨H0,I0,J0⟩)),(c0),O0.tail,Z⟩
       refine lU Z Z ⟨I0a (fun h=>?_),O0.fin⟩;obtain⟨b,l',e,q1,q2,q3,q4,q5,q6,q7⟩:=h;rw[d0] at e;cases e
       (have q8:=q7 a (c0a A0)
        (rw[q8.2.2] at J0;cases J0;done))
      refine lU Z Z ⟨I0a (fun h=>?_),o0.fin⟩;obtain⟨b,l',e,q1,q2,q3,q4,q5,q6,q7⟩:=h;rw[d0] at e;cases e
      (have q8:=q7 a (c0a A0)
       (rw[q8.2.1] at I0;cases I0;done))
     refine lU Z Z ⟨I0a (fun h=>?_),u0.fin⟩;obtain⟨b,l',e,q1,q2,q3,q4,q5,q6,q7⟩:=h;rw[d0] at e;cases e
     (have q8:=q7 a (c0a A0)
      (rw[q8.1] at H0;cases H0;done))
    exact lU Z Z ⟨s2a ⟨a0,l,d0,D0,E0,F0,by omega,y0,G0,ha.all (by omega)⟩,S.fin⟩
   refine lU Z Z ⟨I0a (fun h=>?_),t0.fin⟩;obtain⟨b,l',e,q1,q2,q3,q4,q5,q6,q7⟩:=h;rw[d0] at e;cases e
   (rw[q5] at y0;cases y0;done)
  refine lU Z Z ⟨I0a (fun h=>?_),s0.fin⟩;obtain⟨b,l',e,q1,q2,q3,q4,q5,q6,q7⟩:=h;rw[d0] at e;cases e
  (rw[q2] at E0;cases E0;done)
 refine lU Z Z ⟨I0a (fun h=>?_),B0.fin⟩;obtain⟨b,l',e,q1,q2,q3,q4,q5,q6,q7⟩:=h;rw[d0] at e;cases e
 (rw[q1] at D0;cases D0;done)
theorem M2b(p:g0a)(t c:Int)(g g':Nat)(M:List Nat)(w0:World)(cs:LV)(vf:Value)(hP:C1a M w0 p cs)(hg:O1a w0 g 0 cs)(d0:w0.cell? ⟨g',0,none⟩=some vf)(hp:i3a prog M w0 vf (H2b p t))(hc:i64 c)(h0:0≤c∧c<p.cells.length):
 M0a prog 281 #[.int .i64 c,.pointer (some ⟨g,0,none⟩),.pointer (some ⟨g',0,none⟩)] w0 fun v w'=>v=.bool (h0b p.cells c&&H2b p t c)∧Bw w0 w':=by
 obtain⟨_,_,_,_,_,_,_,_,_,_,_,_,rfl,_⟩:=hP.open_;have S:=St.refl w0;refine a0a func281 Z ntmps281 Z ?_;refine wO1 Z ?_
 first|refine N1a i4b Z ((fun j v hj=>S.old (hg j v hj))) (by rfl) Z ?_
 refine lO1 Z (k0a S m1b Z Z (n7a p M _ _ _ (hP.keep (S.keep0 M)) h0.1 h0.2) (fun h7 w7 S7 X7=>?_) (fun h7 w7 S7 X7=>?_))
 ·refine lO1 Z (v0a f5b Z (by first|exact S7.old d0) Z ?_);refine lO1 Z (z8a S7 (hp.keep (S7.keep0 M)) Z Z (hc) Z (fun b0 e0 a0 c0=>?_) (fun b0 e0 a0 c0=>?_))
  ·refine lU Z Z ⟨cB ?_,a0.fin⟩;rw[h7,b0]<;>rfl
  refine lU Z Z ⟨cB ?_,a0.fin⟩;rw[h7,b0]<;>rfl
 refine lU Z Z ⟨cB ?_,S7.fin⟩;rw[h7]<;>rfl
theorem c6b(l:List U1a)(q:U1a→Bool)(M:List Nat)(w0:World)(v:Value)(f:FuncId)(first caps:Array Value)(hS:X8c M w0 v l)(hH:Has prog f)
 (hf:∀w',A0a M w0 w'→∀a∈l,i64 a.cell→M0a prog f (first.toList++[Value.int .i64 a.cell]++caps.toList).toArray w' fun v s0=>v=.bool (q a)∧Below w'.heap.size w' s0) :
 M0a prog 279 #[v,.func (.func f) first caps] w0 fun v w'=>v=.bool (dec (∀a∈l,q a=true))∧Bw w0 w':=by
 obtain⟨As,ns,p0,rfl⟩:=hS.form;obtain⟨_,_⟩:=hS.len;have S:=St.refl w0;refine a0a func279 Z ntmps279 Z ?_;refine wC1 Z (wL (fun μk D ε w=>D=[]∧∃k:Nat,(k+μk=(l.length))∧(g1a (l) k (fun a=>q a=true))∧St [] w0 w []∧Sl ε [(1,.func (.func f) first caps),(7,.slice As ns p0),(8,.int .i64 ns),(9,.int .i64 k)]) (μ:=(l.length)) ⟨Z,0,by omega,g1a.zero,S,Z⟩ ?_);rintro μk D ε w ⟨rfl,k,_,ha,S,eZ⟩;refine wK eZ (wB1 Z (fun q0=>?_) fun q0=>?_)
 ·obtain⟨a,o0,r0,_,g0,c0,_,e0,d0,f0⟩:=RdS.get (hS) (k) (by omega);obtain⟨_,_,_,rfl,i0,_⟩:=b1a.open_ f0;refine lO (S.k.a d0) [.x o0 r0,.v 0] Z ⟨⟨Z,e0⟩,⟨c0,by omega⟩,U⟩ (m0a S K2b Z Z ?_);intro g6 w6 S6 X6 G6
  first|refine f0a (kk:=0) (vs:=[_,_,_,_,_]) S6 R2b Z Z Z Z Z Z Z ?_
  intro t0 a0 n0;dsimp only[o0a,List.set] at a0;refine lO a0.k [.o 0] Z ⟨Z,U⟩ (k2b (vs:=first.toList++[Value.int .i64 a.cell]++caps.toList) hH Z Z Z (hf _ (a0.keep0 M) a (c0a g0) i0) ?_);rintro u0 v0 ⟨rfl,m0⟩;have j0:=a0.later m0;cases b0:q a
  ·refine lU Z Z ?_;refine⟨I0a (fun h=>?_),j0.fin⟩;rw[h a (c0a g0)] at b0;cases b0;done
  refine lP1 Z ⟨μk-1,by omega,Z,k+1,by omega,(ha.succ g0 (b0)),j0.tail,Z⟩
 exact lU Z Z ⟨s2a (ha.all (by omega)),S.fin⟩
theorem J4b(p:g0a)(t:Nat)(s:p1a)(M:List Nat)(w0:World)(cs ss:LV)(h:AtX p s M w0 cs ss):
 M0a prog 231 #[.agg cs.toArray,.int .i64 t,.agg ss.toArray] w0 fun v w'=>v=.bool (dec (X2d p t s))∧Bw w0 w':=by
 obtain⟨hP,hS,F0,hK,hM⟩:=h;obtain⟨_,_,_,_,_,_,_,_,_,_,_,_,rfl,_⟩:=hP.open_;obtain⟨_,_,_,_,ns,_,rfl,⟨_,_⟩,_,d0,P0,_⟩:=hS.open_;have S:=St.refl w0;have u0:∀w':World,w0.heap.size≤w'.heap.size→∀g∈M,g<w'.heap.size:=fun w' h g hg=>by have:=hM g hg;omega
 cases b0:s.set with
 | nil =>
   have hz:ns=0:=by rw[P0,b0];rfl
   have O0:¬X2d p t s:=fun⟨a,l,e,_⟩=>by rw[b0] at e;cases e
   refine a0a func231 Z ntmps231 Z ?_;refine wO1 Z (i0a S Z ?_);intro g3 w3 S3 X3 G3;refine i0a S3 Z ?_;intro g5 w5 S5 X5 G5;refine lC1 Z (x0a b0a [0,1,2,3,4,5,6,7] [8] [9,10,11] Z (Cl _ _ _ _) (Cl.start S5) ?_);refine qB S5.q [.o 0] Z ⟨Z,U⟩ (fun r0=>?_) (fun r0=>by exfalso;omega);refine qN0 Z U (u3a ?_);refine Z8c Z Z Z ?_;refine J1a ?_;rintro X0 ⟨i0,I0⟩;dsimp only[X3a];exact lU Z Z ⟨I0a O0,i0.fin⟩
 | cons a0 l =>
 have hlen:s.set.length=l.length+1:=by rw[b0];rfl
 have N0:a0∈s.set:=by rw[b0];simp
 have v0:=F0 a0 N0;have y0:s.set[0]?=some a0:=by rw[b0];rfl
 unfold M1a at v0;obtain⟨_,_,_,_,z0,rfl,_,_,x0,Q0⟩:=RdS.get d0 0 (by omega);obtain rfl:=Option.some.inj (y0.symm.trans z0);obtain⟨_,_,_,rfl,_⟩:=b1a.open_ Q0;have K0:s.set.drop 1=l:=by rw[b0];rfl
 have E0:=RdS.dropped d0 1 (by omega);rw[K0] at E0;have J0:∀a∈l,0≤a.cell∧a.cell<p.cells.length:=fun a ha=>F0 a (by rw[b0];exact List.mem_cons_of_mem _ ha);refine a0a func231 Z ntmps231 Z ?_;refine wO1 Z (i0a S Z ?_);intro g3 w3 S3 X3 G3;refine i0a S3 Z ?_;intro g5 w5 S5 X5 G5;refine lC1 Z (x0a b0a [0,1,2,3,4,5,6,7] [8] [9,10,11] Z (Cl _ _ _ _) (Cl.start S5) ?_);refine qB S5.q [.o 0] Z ⟨Z,U⟩ (fun r0=>by exfalso;omega) fun r0=>?_;refine qN S5.q [.w 0,.w 1] Z ⟨⟨Z,by rfl⟩,⟨Z,by rfl⟩,U⟩ (u3a ?_);refine M4b (fun v w=>i3a prog M w v (V9a p t)) Z Z j2b Z (fun v w w' h hk=>h.keep hk.of_nil) (fun w1 S1 X1=>B2b p t M _ _ (hP.keep (S1.keep0 M)) (u0 _ S1.size)) ?_;refine J1a ?_;rintro X0 ⟨i0,I0⟩;rintro Z0 hq;dsimp only[X3a];obtain⟨_,first,_,rfl,_⟩:=id hq;refine lO1 Z (k0a i0 x7b Z Z (P9a s M _ _ _ (V9a p t) (D1a.keep (i0.keep0 M) _ _ hS) hq (hK.keep (i0.keep0 M)) (u0 _ i0.size)) (fun s0 R0 f0 A0=>?_) (fun s0 R0 f0 A0=>?_))
 ·replace hq:=hq.keep (A0.of_nil);refine lO f0.k [.o 0] Z ⟨Z,U⟩ (L0a h1b.slT Z Z Z ?_);refine lO1 Z (v0a K0a Z (by exact f0.old (x0 _ _ Z)) Z ?_);refine lO f0.k [.w 1] Z ⟨⟨Z,by rfl⟩,U⟩ (k0a f0 D1b Z Z (s6a p M _ _ _ (hP.keep (f0.keep0 M))) (fun n0 S0 m0 B0=>?_) (fun n0 S0 m0 B0=>?_))
  ·replace hq:=hq.keep (B0.of_nil);refine lO m0.k [.w 1] Z ⟨⟨Z,by rfl⟩,U⟩ (k0a m0 m1b Z Z (n7a p M _ _ _ (hP.keep (m0.keep0 M)) v0.1 v0.2) (fun o0 T0 g0 C0=>?_) (fun o0 T0 g0 C0=>?_))
   ·replace hq:=hq.keep (C0.of_nil);refine lU Z Z ⟨I0a (fun h=>?_),g0.fin⟩;obtain⟨b,l',e,q1,q2,q3,q4⟩:=h;rw[b0] at e;cases e
    (rw[q3] at o0;cases o0;done)
   refine lO g0.k [.w 1] Z ⟨⟨Z,by rfl⟩,U⟩ (s0a g0 F7b Z Z (y8a p t M _ _ (hP.keep (g0.keep0 M)) (u0 _ g0.size)) ?_);rintro a1 U0 G0 H0 Y0;obtain⟨_,_,_,rfl,_⟩:=id G0;have e0:=A0a.refl [] U0;refine m0a H0 G6c Z Z ?_;intro g8 w8 S8 X8 G8;have j0:=Nat.le_trans e0.size G8;replace e0:=e0.trans X8;refine r0a (kk:=0) S8 I6c Z Z Z (by exact Nat.le_of_ble_eq_true Z) ?_;intro W0 c0 q0;replace e0:=e0.fresh q0 (by first|exact j0);refine lO c0.k [.o 1] Z ⟨Z,U⟩ ?_;refine d5b (kd:=.i64) (lo:=1) (hi:=ns) h1b.slT Z (.inr Z) (.inl ⟨Z,Z⟩) (by have:=d0.len;omega) (by have:=d0.len;omega) Z ?_;refine h2a Z Z ?_;refine k0a c0 i8b Z Z (c6b l (fun a=>h0b p.cells a.cell&&H2b p t a.cell) M _ _ _ _ _ (RdS.keepW E0 (c0.keep0 M) (b1a.keep (c0.keep0 M))) m8c (fun w' hk a ha L0=>M2b p t a.cell g3 g8 M w' _ _ (hP.keep ((c0.keep0 M).trans hk)) ((c0.cells 2 Z).keep hk (Y0a hM (c0.new 2 Z))) (hk.cell (a:=⟨g8,0,none⟩) (Y0a hM (c0.new 0 Z)) (c0.cell 0 Z Z)) (G0.keep (e0.of_nil.trans hk)) L0 (J0 a ha))) (fun t0 V0 p0 D0=>?_) (fun t0 V0 p0 D0=>?_)
   ·replace e0:=e0.trans D0;exact lU Z Z ⟨s2a ⟨a0,l,b0,x1a s0,n0,o0,x1a t0⟩,p0.fin⟩
   refine lU Z Z ⟨I0a (fun h=>?_),p0.fin⟩;obtain⟨b,l',e,q1,q2,q3,q4⟩:=h;rw[b0] at e;cases e;exact Z0a t0 q4
  refine lU Z Z ⟨I0a (fun h=>?_),m0.fin⟩;obtain⟨b,l',e,q1,q2,q3,q4⟩:=h;rw[b0] at e;cases e
  (rw[q2] at n0;cases n0;done)
 refine lU Z Z ⟨I0a (fun h=>?_),f0.fin⟩;obtain⟨b,l',e,q1,q2,q3,q4⟩:=h;rw[b0] at e;cases e;exact Z0a s0 q1
def J5b(k:Int):Nat:=if k=1 then 229 else if k=2 then 230 else if k=3 then 231 else if k=4 then 232 else if k=5 then 233 else if k=6 then 234 else 235
def M2c:Array Value:=#[.nilFunc,.func (.func 229) #[] #[],.func (.func 230) #[] #[],.func (.func 231) #[] #[],.func (.func 232) #[] #[],.func (.func 233) #[] #[],.func (.func 234) #[] #[],.func (.func 235) #[] #[]]
theorem O9b{k:Int}:Has prog (J5b k):=by
 unfold J5b
 repeat' split
 ·exact n9c
 ·exact Y7c
 ·exact r9c
 ·exact f9c
 ·exact R7c
 ·exact k9c
 ·exact c2c
theorem J3c{k:Int}(h1:1≤k)(h7:k≤7):M2c.extract (k.toNat*1) (k.toNat*1+1)=#[.func (.func (J5b k)) #[] #[]]:=by
 rcases(show k=1∨k=2∨k=3∨k=4∨k=5∨k=6∨k=7 by omega) with e|e|e|e|e|e|e<;>subst e<;>rfl
theorem z4c(wz:World):M0a prog 179 #[] wz fun v w'=>v=.agg M2c∧Below wz.heap.size wz w':=by
 have S:=St.refl wz;refine a0a func179 Z ntmps179 Z ?_;refine wO1 Z (m0a S t1d Z Z ?_);intro g0 w0 S0 X0 G0;refine lO1 Z (e1a C8a (vs:=[(0,.func _ _ _)]) (cs:=[_]) Z Z Z Z ?_);refine e1a C8a (vs:=[(0,.func _ _ _)]) (cs:=[_]) Z Z Z Z ?_;refine e1a C8a (vs:=[(0,.func _ _ _)]) (cs:=[_]) Z Z Z Z ?_;refine e1a C8a (vs:=[(0,.func _ _ _)]) (cs:=[_]) Z Z Z Z ?_;refine e1a C8a (vs:=[(0,.func _ _ _)]) (cs:=[_]) Z Z Z Z ?_;refine e1a C8a (vs:=[(0,.func _ _ _)]) (cs:=[_]) Z Z Z Z ?_;refine e1a C8a (vs:=[(0,.func _ _ _)]) (cs:=[_]) Z Z Z Z ?_;refine y1a (v:=.agg M2c) (w':=w0) Z Z Z (by kernel_rfl) ?_
 first|refine f0a (kk:=0) (vs:=[_,_,_,_,_,_,_,_]) S0 B2d Z Z Z Z Z Z Z ?_
 intro c0 a0 b0;dsimp only[o0a,List.set] at a0;refine lR1 Z ?_;exact L1a (n:=8) Z (M2a (by rw[Tryz.underlying230];simp)) Z (a0.cells 0 Z) Z ⟨Z,a0.fin⟩
section
variable {P:Program} {N:Nat} {ops:Array Oper} {C:World→Prop} {rest:List Oper} {K:Env→Prop} {e:Env} {d:Nat} {t:TypeId} {p:String} {af:Array Edge} {x y:Operand} {kd:IntKind} {a:Int}
theorem o5c{ty len el size:Nat}{cs a0:Array Value}(hu:P.underlying ty=some (.array len el))(b0:∀w:World,(sizeOf el).run P w=.ok size w)(ha:∀w:World,(isAgg el).run P w=.ok true w)(hx:ev e x=.agg cs)(hy:ev e y=.int kd a)(h0:0≤a)(h1:a<len)(hv:cs.extract (a.toNat*size) (a.toNat*size+size)=a0)(hd:Nat.ble (d+1) N=true)
 (h:QL P N ops C rest K (upd e d (.agg a0))):QL P N ops C (⟨some d,.index ty x y,t,p,af,none⟩::rest) K e :=
 V2a Z Z hd (fun w _=>by simp[execOp,Instr.index,hx,hy,asIntOf,run_underlying hu,h0,h1,b0,part,ha,hv]) h
end
theorem n0b{M:List Nat}{w:World}{g:Nat}(hM:∀g∈M,g<w.heap.size)(h:w.heap.size≤g):g∉M:=fun hh=>by have:=hM g hh;omega
theorem y3c:∀w:World,(sizeOf 229).run prog w=.ok 1 w:=fun _=>by kernel_rfl
theorem F4c:∀w:World,(isAgg 229).run prog w=.ok true w:=fun _=>by kernel_rfl
theorem Q9b(c:Int)(g:Nat)(w0:World)(Ac Am Al At:Option Addr)(nc cc nm cm nl cl nt ct:Nat)(hg:O1a w0 g 0 (pL Ac nc cc Am nm cm Al nl cl At nt ct)):
 M0a prog 122 #[.int .i64 c,.pointer (some ⟨g,0,none⟩)] w0 fun v w'=>v=.bool (decide (0≤c∧c<(nm:Int)))∧Bw w0 w':=by
 have S:=St.refl w0;refine a0a func122 Z ntmps122 Z ?_;refine wO1 Z (v0a y6c Z (by first|exact S.old (hg 1 _ Z)) Z ?_);refine lO1 Z (k0a S R3a Z Z (Q2a _ _ _) (fun h9 w9 S9 X9=>?_) (fun h9 w9 S9 X9=>?_))
 ·refine lR1 Z (t0a Z ?_);exact⟨by rw[h9],S9.fin⟩
 refine lR1 Z (t0a Z ?_);exact⟨by rw[h9],S9.fin⟩
theorem W9b(c a0 hd:Int)(g g':Nat)(w0:World)(hg:w0.cell? ⟨g,1,none⟩=some (.int .i64 a0))(c0:w0.cell? ⟨g',0,none⟩=some (.int .i64 hd)):
 M0a prog 125 #[.int .i64 c,.pointer (some ⟨g,0,none⟩),.pointer (some ⟨g',0,none⟩)] w0 fun v w'=>v=.bool (decide ((0≤c∧c<a0)∧c≠hd))∧Bw w0 w':=by
 have S:=St.refl w0;refine a0a func125 Z ntmps125 Z ?_;refine wO1 Z (v0a K0a Z (by exact S.old hg) Z ?_);refine k0a S R3a Z Z (Q2a _ _ _) (fun h8 w8 S8 X8=>?_) (fun h8 w8 S8 X8=>?_)
 ·refine lO1 Z (v0a K0a Z (by exact S8.old c0) Z ?_);refine lB1 Z (fun b0=>?_) fun b0=>?_
  ·refine lU Z Z ⟨cB ?_,S8.fin⟩;exact(decide_eq_true ⟨of_decide_eq_true h8,by omega⟩).symm
  refine lU Z Z ⟨cB ?_,S8.fin⟩;exact(decide_eq_false fun h=>by omega).symm
 refine lU Z Z ⟨cB ?_,S8.fin⟩;exact(decide_eq_false fun h=>of_decide_eq_false h8 h.1).symm
theorem U4c(p:g0a)(t:Nat)(s:p1a)(M:List Nat)(w0:World)(cs ss:LV)(h:AtX p s M w0 cs ss)(hk:1≤s.kind∧s.kind≤7):
 M0a prog (J5b s.kind) #[.agg cs.toArray,.int .i64 t,.agg ss.toArray] w0 fun v w'=>v=.bool (dec (F1d p t s))∧Bw w0 w':=by
 unfold F1d J5b;rcases(show s.kind=1∨s.kind=2∨s.kind=3∨s.kind=4∨s.kind=5∨s.kind=6∨s.kind=7 by omega) with e|e|e|e|e|e|e<;>simp only[e,if_true,if_false,Int.reduceEq]
 ·exact s4b p t s M w0 cs ss h
 ·exact H5b p t s M w0 cs ss h
 ·exact J4b p t s M w0 cs ss h
 ·exact L2b p t s M w0 cs ss h
 ·exact p4b p t s M w0 cs ss h
 ·exact b5b p t s M w0 cs ss h
 ·exact u0b p t s M w0 cs ss h
theorem C4c(p:g0a)(t:Nat)(x:i1a)(s:p1a)(M:List Nat)(w0:World)(cs ss ts:LV)(hP:C1a M w0 p cs)(hS:D1a M w0 ss s)(hc:K3a p)(hK:H3a M w0)(hM:∀g∈M,g<w0.heap.size)(hT:S0a M w0 ts x)(v2:1≤x.points)(d2:x.points≤48):
 M0a prog 124 #[.agg cs.toArray,.int .i64 t,.agg ts.toArray,.agg ss.toArray] w0 fun v w'=>(∃a,v=.int .i64 a∧(a=0↔c7a p t x.points s))∧Bw w0 w':=by
 obtain⟨Ac,nc,cc,Am,nm,cm,Al,nl,cl,At,nt,ct,rfl,hC,_⟩:=hP.open_;obtain⟨Ag,ng,cg,As,ns,U0,rfl,⟨_,_⟩,hG,p1,_⟩:=hS.open_;obtain⟨V0,x1,c1,X0,A1,f1,Y0,B1,g1,W0,y1,d1,rfl,_⟩:=hT.open_;have S:=St.refl w0;have a2:∀w':World,w0.heap.size≤w'.heap.size→∀g∈M,g<w'.heap.size:=fun w' h g hg=>by have:=hM g hg;omega
 refine a0a func124 Z ntmps124 Z ?_;refine wO1 Z (i0a S Z ?_);intro g4 w4 S4 X4 G4;refine i0a S4 Z ?_;intro g6 w6 S6 X6 G6;refine i0a S6 Z ?_;intro g7 w7 S7 X7 G7;refine lCn 3 S7.k [] Z U (wX (fun D ε w=>D=[]∧∃J0:Bool,(J0=true↔s.kind=6∨s.kind=7)∧St [] w0 w [(some g7,61,[.int .i64 s.kind,.int .i64 s.frm,.int .i64 s.to,.int .i64 s.guard.op,.int .i64 s.guard.w,.int .i64 s.guard.n,.slice Ag ng cg,.slice As ns U0,.bool s.release,.int .i64 s.target,.int .i64 s.module_]),(some g6,58,[.string x.name,.int .i64 x.points,.slice V0 x1 c1,.slice X0 A1 f1,.slice Y0 B1 g1,.slice W0 y1 d1,.bool x.asleep]),(some g4,122,pL Ac nc cc Am nm cm Al nl cl At nt ct)]∧Sl ε [(1,.int .i64 t),(4,.pointer (some ⟨g4,0,none⟩)),(6,.pointer (some ⟨g6,0,none⟩)),(7,.pointer (some ⟨g7,0,none⟩)),(9,.bool J0)]) ?_ ?_)
 ·refine wB S7.k [.o 0] Z ⟨Z,U⟩ (fun T1=>?_) fun T1=>?_
  ·refine lP0 Z U ⟨Z,_,?_,S7,Z⟩;exact iff_of_true Z (by omega)
  refine lB S7.k [.o 0] Z ⟨Z,U⟩ (fun U1=>?_) fun U1=>?_
  ·refine lP0 Z U ⟨Z,_,?_,S7,Z⟩;exact iff_of_true Z (by omega)
  refine lP0 Z U ⟨Z,_,?_,S7,Z⟩;exact iff_of_false Bool.false_ne_true (by omega)
 rintro D ε w ⟨rfl,J0,s0,S,eZ⟩;refine wK eZ (wX (fun D ε w=>D=[]∧((1≤s.kind∧s.kind≤7)∧(0≤s.frm∧s.frm<x.points-1)∧(0≤s.to∧s.to<x.points)∧M1a s.module_ p.modules.length∧(s.release=true→s.kind=3)∧(s.target≠0→s.kind=6∨s.kind=7)∧s.guard.valid p.cells false=true∧s.guard.w=1)∧St [] w0 w [(some g7,61,[.int .i64 s.kind,.int .i64 s.frm,.int .i64 s.to,.int .i64 s.guard.op,.int .i64 s.guard.w,.int .i64 s.guard.n,.slice Ag ng cg,.slice As ns U0,.bool s.release,.int .i64 s.target,.int .i64 s.module_]),(some g6,58,[.string x.name,.int .i64 x.points,.slice V0 x1 c1,.slice X0 A1 f1,.slice Y0 B1 g1,.slice W0 y1 d1,.bool x.asleep]),(some g4,122,pL Ac nc cc Am nm cm Al nl cl At nt ct)]∧Sl ε [(1,.int .i64 t),(4,.pointer (some ⟨g4,0,none⟩)),(7,.pointer (some ⟨g7,0,none⟩))]) ?_ ?_)
 ·refine wB S.k [.o 0] Z ⟨Z,U⟩ (fun V1=>?_) fun V1=>?_
  ·refine lU Z Z ⟨⟨_,Z,iF (fun h=>?_)⟩,S.fin⟩
   (have z1:=h.kind;have z2:=h.frm;have z3:=h.to;have z4:=h.mod;unfold M1a at z4;have z7:=h.guard
    omega)
  refine lB S.k [.o 0] Z ⟨Z,U⟩ (fun W1=>?_) fun W1=>?_
  ·refine lU Z Z ⟨⟨_,Z,iF (fun h=>?_)⟩,S.fin⟩
   (have z1:=h.kind;have z2:=h.frm;have z3:=h.to;have z4:=h.mod;unfold M1a at z4;have z7:=h.guard
    omega)
  refine lO S.k [.o 0,.o 1] Z ⟨by omega,Z,Z,U⟩ (k0a S R3a Z Z (Q2a _ _ _) (fun C0 m2 S0 N1=>?_) (fun C0 m2 S0 N1=>?_))
  ·refine lO S0.k [.o 0,.o 1] Z ⟨Z,Z,U⟩ (k0a S0 R3a Z Z (Q2a _ _ _) (fun D0 n2 T0 O1=>?_) (fun D0 n2 T0 O1=>?_))
   ·refine lO T0.k [.o 0,.o 2] Z ⟨Z,Z,U⟩ (k0a T0 R3a Z Z (Q2a _ _ _) (fun E0 o2 b0 P1=>?_) (fun E0 o2 b0 P1=>?_))
    ·refine lO1 Z ?_;rcases(Bool.eq_false_or_eq_true (s.release)).symm with f0|f0
     ·refine v0a d2a Z (by exact(b0.cell 0 Z Z).trans (congrArg (fun b=>some (Value.bool b)) f0)) Z ?_;refine lB b0.k [.o 0] Z ⟨Z,U⟩ (fun m1=>?_) fun m1=>?_
      ·refine lOn 1 b0.k [] Z U (s8a Z Z Z ?_);cases o0:J0
       ·refine w0a (hv:=Z) (v:=.bool _) Z ?_;refine lU Z Z ⟨⟨_,Z,iF (fun h=>?_)⟩,b0.fin⟩
        (have z1:=h.kind;have z2:=h.frm;have z3:=h.to;have z4:=h.mod;unfold M1a at z4;have z7:=h.guard
         (have z:=s0.2 (h.tgt (by omega));rw[o0] at z;cases z;done))
       refine w0a (hv:=Z) (v:=.bool _) Z ?_;refine lB b0.k [.o 0] Z ⟨Z,U⟩ (fun z0=>?_) fun z0=>?_
       ·refine lU Z Z ⟨⟨_,Z,iF (fun h=>?_)⟩,b0.fin⟩
        (have z1:=h.kind;have z2:=h.frm;have z3:=h.to;have z4:=h.mod;unfold M1a at z4;have z7:=h.guard
         omega)
       refine lO b0.k [.o 0,.o 2] Z ⟨Z,Z,U⟩ (k0a b0 w1b Z Z (u4a s.guard M _ _ _ p.cells false (RdE.keep (b0.keep0 M) _ _ hG) (hC.keep (b0.keep0 M)) (hK.keep (b0.keep0 M))) (fun d0 B0 g0 v0=>?_) (fun d0 B0 g0 v0=>?_))
       ·refine lP0 Z U ⟨Z,?_,g0,Z⟩;refine⟨⟨by omega,by omega⟩,of_decide_eq_true C0,of_decide_eq_true D0,?_,?_,?_,d0,by omega⟩
        ·have:=of_decide_eq_true E0;unfold M1a;omega
        ·intro p0;rw[p0] at f0;cases f0;done
        ·intro u1;exact s0.1 o0
       refine lU Z Z ⟨⟨_,Z,iF (fun h=>?_)⟩,g0.fin⟩
       (have z1:=h.kind;have z2:=h.frm;have z3:=h.to;have z4:=h.mod;unfold M1a at z4;have z7:=h.guard
        (rw[z7.1] at d0;cases d0;done))
      refine lB b0.k [.o 0] Z ⟨Z,U⟩ (fun z0=>?_) fun z0=>?_
      ·refine lU Z Z ⟨⟨_,Z,iF (fun h=>?_)⟩,b0.fin⟩
       (have z1:=h.kind;have z2:=h.frm;have z3:=h.to;have z4:=h.mod;unfold M1a at z4;have z7:=h.guard
        omega)
      refine lO b0.k [.o 0,.o 2] Z ⟨Z,Z,U⟩ (k0a b0 w1b Z Z (u4a s.guard M _ _ _ p.cells false (RdE.keep (b0.keep0 M) _ _ hG) (hC.keep (b0.keep0 M)) (hK.keep (b0.keep0 M))) (fun d0 B0 g0 v0=>?_) (fun d0 B0 g0 v0=>?_))
      ·refine lP0 Z U ⟨Z,?_,g0,Z⟩;refine⟨⟨by omega,by omega⟩,of_decide_eq_true C0,of_decide_eq_true D0,?_,?_,?_,d0,by omega⟩
       ·have:=of_decide_eq_true E0;unfold M1a;omega
       ·intro p0;rw[p0] at f0;cases f0;done
       ·intro u1;omega
      refine lU Z Z ⟨⟨_,Z,iF (fun h=>?_)⟩,g0.fin⟩
      (have z1:=h.kind;have z2:=h.frm;have z3:=h.to;have z4:=h.mod;unfold M1a at z4;have z7:=h.guard
       (rw[z7.1] at d0;cases d0;done))
     refine v0a d2a Z (by exact(b0.cell 0 Z Z).trans (congrArg (fun b=>some (Value.bool b)) f0)) Z ?_;refine lB b0.k [.o 0] Z ⟨Z,U⟩ (fun Y1=>?_) fun Y1=>?_
     ·refine lU Z Z ⟨⟨_,Z,iF (fun h=>?_)⟩,b0.fin⟩
      (have z1:=h.kind;have z2:=h.frm;have z3:=h.to;have z4:=h.mod;unfold M1a at z4;have z7:=h.guard
       (have z:=h.rel f0;omega))
     refine lB b0.k [.o 0] Z ⟨Z,U⟩ (fun m1=>?_) fun m1=>?_
     ·refine lOn 1 b0.k [] Z U (s8a Z Z Z ?_);cases o0:J0
      ·refine w0a (hv:=Z) (v:=.bool _) Z ?_;refine lU Z Z ⟨⟨_,Z,iF (fun h=>?_)⟩,b0.fin⟩
       (have z1:=h.kind;have z2:=h.frm;have z3:=h.to;have z4:=h.mod;unfold M1a at z4;have z7:=h.guard
        (have z:=s0.2 (h.tgt (by omega));rw[o0] at z;cases z;done))
      refine w0a (hv:=Z) (v:=.bool _) Z ?_;refine lB b0.k [.o 0] Z ⟨Z,U⟩ (fun z0=>?_) fun z0=>?_
      ·refine lU Z Z ⟨⟨_,Z,iF (fun h=>?_)⟩,b0.fin⟩
       (have z1:=h.kind;have z2:=h.frm;have z3:=h.to;have z4:=h.mod;unfold M1a at z4;have z7:=h.guard
        omega)
      refine lO b0.k [.o 0,.o 2] Z ⟨Z,Z,U⟩ (k0a b0 w1b Z Z (u4a s.guard M _ _ _ p.cells false (RdE.keep (b0.keep0 M) _ _ hG) (hC.keep (b0.keep0 M)) (hK.keep (b0.keep0 M))) (fun d0 B0 g0 v0=>?_) (fun d0 B0 g0 v0=>?_))
      ·refine lP0 Z U ⟨Z,?_,g0,Z⟩;refine⟨⟨by omega,by omega⟩,of_decide_eq_true C0,of_decide_eq_true D0,?_,?_,?_,d0,by omega⟩
       ·have:=of_decide_eq_true E0;unfold M1a;omega
       ·intro p0;omega
       ·intro u1;exact s0.1 o0
      refine lU Z Z ⟨⟨_,Z,iF (fun h=>?_)⟩,g0.fin⟩
      (have z1:=h.kind;have z2:=h.frm;have z3:=h.to;have z4:=h.mod;unfold M1a at z4;have z7:=h.guard
       (rw[z7.1] at d0;cases d0;done))
     refine lB b0.k [.o 0] Z ⟨Z,U⟩ (fun z0=>?_) fun z0=>?_
     ·refine lU Z Z ⟨⟨_,Z,iF (fun h=>?_)⟩,b0.fin⟩
      (have z1:=h.kind;have z2:=h.frm;have z3:=h.to;have z4:=h.mod;unfold M1a at z4;have z7:=h.guard
       omega)
     refine lO b0.k [.o 0,.o 2] Z ⟨Z,Z,U⟩ (k0a b0 w1b Z Z (u4a s.guard M _ _ _ p.cells false (RdE.keep (b0.keep0 M) _ _ hG) (hC.keep (b0.keep0 M)) (hK.keep (b0.keep0 M))) (fun d0 B0 g0 v0=>?_) (fun d0 B0 g0 v0=>?_))
     ·refine lP0 Z U ⟨Z,?_,g0,Z⟩;refine⟨⟨by omega,by omega⟩,of_decide_eq_true C0,of_decide_eq_true D0,?_,?_,?_,d0,by omega⟩
      ·have:=of_decide_eq_true E0;unfold M1a;omega
      ·intro p0;omega
      ·intro u1;omega
     refine lU Z Z ⟨⟨_,Z,iF (fun h=>?_)⟩,g0.fin⟩
     (have z1:=h.kind;have z2:=h.frm;have z3:=h.to;have z4:=h.mod;unfold M1a at z4;have z7:=h.guard
      (rw[z7.1] at d0;cases d0;done))
    refine lU Z Z ⟨⟨_,Z,iF (fun h=>?_)⟩,b0.fin⟩
    (have z1:=h.kind;have z2:=h.frm;have z3:=h.to;have z4:=h.mod;unfold M1a at z4;have z7:=h.guard
     (have z:=of_decide_eq_false E0;omega))
   refine lU Z Z ⟨⟨_,Z,iF (fun h=>?_)⟩,T0.fin⟩
   (have z1:=h.kind;have z2:=h.frm;have z3:=h.to;have z4:=h.mod;unfold M1a at z4;have z7:=h.guard
    (have z:=of_decide_eq_false D0;omega))
  refine lU Z Z ⟨⟨_,Z,iF (fun h=>?_)⟩,S0.fin⟩
  (have z1:=h.kind;have z2:=h.frm;have z3:=h.to;have z4:=h.mod;unfold M1a at z4;have z7:=h.guard
   (have z:=of_decide_eq_false C0;omega))
 rintro D ε w ⟨rfl,e0,S,eZ⟩;refine wK eZ (wO1 Z ?_);refine p7a (k:=3) S Z ?_;intro i1 x2 F1 t2 s2 a0;have r1:w0.heap.size≤i1:=by have:=S.size;omega
 refine lC F1.k [.o 0] Z ⟨Z,U⟩ (wL (fun μk D ε w=>D=[]∧∃k:Nat,(k+μk=(s.set.length))∧(g1a (s.set) k (fun a=>M1a a.cell p.cells.length∧a.to.valid p.cells false=true∧a.to.w=wAt p.cells a.cell))∧(((s.set.take k).map fun c=>Value.int .i64 c.cell).Nodup)∧(Z3a prog 3 w i1 (s4a ((s.set.take k).map fun c=>.int .i64 c.cell)))∧St [] w0 w [(some g7,61,[.int .i64 s.kind,.int .i64 s.frm,.int .i64 s.to,.int .i64 s.guard.op,.int .i64 s.guard.w,.int .i64 s.guard.n,.slice Ag ng cg,.slice As ns U0,.bool s.release,.int .i64 s.target,.int .i64 s.module_]),(some g6,58,[.string x.name,.int .i64 x.points,.slice V0 x1 c1,.slice X0 A1 f1,.slice Y0 B1 g1,.slice W0 y1 d1,.bool x.asleep]),(some g4,122,pL Ac nc cc Am nm cm Al nl cl At nt ct)]∧Sl ε [(1,.int .i64 t),(4,.pointer (some ⟨g4,0,none⟩)),(7,.pointer (some ⟨g7,0,none⟩)),(10,.map (some i1)),(81,.slice As ns U0),(82,.int .i64 ns),(83,.int .i64 k)]) (μ:=(s.set.length)) ⟨Z,0,by omega,g1a.zero,(by simp),(by simpa[s4a] using a0),F1,Z⟩ ?_);rintro μk D ε w ⟨rfl,k,_,hs,hd,a0,S,eZ⟩;refine wK eZ (wB1 Z (fun Z1=>?_) fun Z1=>?_)
 ·obtain⟨a,Q1,f2,_,A0,n1,_,s1,q1,t1⟩:=RdS.get (p1) (k) (by omega);obtain⟨_,_,_,rfl,v1,o1⟩:=b1a.open_ t1;refine lO (S.k.a q1) [.x Q1 f2,.v 0] Z ⟨⟨Z,s1⟩,⟨n1,by omega⟩,U⟩ (m0a S K2b Z Z ?_);intro u2 w2 E1 M1 r2;replace a0:=a0.keep M1 (List.not_mem_nil);refine f0a (kk:=0) (vs:=[_,_,_,_,_]) E1 R2b Z Z Z Z Z Z Z ?_;intro J1 i0 I0;dsimp only[o0a,List.set] at i0;replace a0:=a0.keep I0 (fun hh=>by rw[List.mem_singleton] at hh;exact a0.ne (E1.blk 0 Z) hh);refine lO i0.k [.o 0] Z ⟨Z,U⟩ ?_;have O0:=E6c v1;refine m2b (Go.Maps.int_keyed Tryz.underlying3) Tryz.underlying183 P8a a0 Z Z O0 Z (fun b2=>?_) fun H1=>?_
  ·refine lO1 Z (m0a i0 P8a Z Z ?_);intro R1 i2 F0 a1 K1;replace a0:=a0.keep a1 (List.not_mem_nil);refine f0a (kk:=0) (vs:=[]) F0 m3b Z Z Z Z Z Z Z ?_;intro Q0 c0 n0;dsimp only[o0a,List.set] at c0;replace a0:=a0.keep n0 (fun hh=>by rw[List.mem_singleton] at hh;exact a0.ne (F0.blk 0 Z) hh);refine lU Z Z ⟨⟨_,Z,iF (fun h=>?_)⟩,c0.fin⟩;exact absurd b2 (k5a (f:=fun(c:U1a)=>Value.int .i64 c.cell) (h.once.imp fun h e=>h (by injection e)) A0)
  refine lO1 Z (m0a i0 P8a Z Z ?_);intro R1 i2 F0 a1 K1;replace a0:=a0.keep a1 (List.not_mem_nil);refine f0a (kk:=0) (vs:=[]) F0 m3b Z Z Z Z Z Z Z ?_;intro Q0 c0 n0;dsimp only[o0a,List.set] at c0;replace a0:=a0.keep n0 (fun hh=>by rw[List.mem_singleton] at hh;exact a0.ne (F0.blk 0 Z) hh);refine lO c0.k [.o 1,.o 4] Z ⟨Z,Z,U⟩ (k0a c0 R3a Z Z (Q2a _ _ _) (fun x0 D1 q0 H0=>?_) (fun x0 D1 q0 H0=>?_))
  ·replace a0:=a0.keep H0 (List.not_mem_nil);refine lO q0.k [.o 1] Z ⟨Z,U⟩ (e1a Y3b (vs:=[]) (cs:=[]) Z Z Z Z ?_);have q2:=of_decide_eq_true x0;refine f1b (key:=.int .i64 a.cell) q0 (Go.Maps.int_keyed Tryz.underlying3) Tryz.underlying183 a0 Z Z Z O0 (.inl r1) ?_;intro wm Sm Xm Mm;clear a0;have a0:=Mm H1;refine lC1 Z (x0a b0a [0,1,2,3,4,5,6,7,8,9,10,11,12,13,14,15,16,17,18,19,20] [] [] Z (Cl _ _ _ _) (Cl.start Sm) ?_);obtain⟨c,b1,C1,_,I1,K0,_,_,L0,P0⟩:=RdS.get (hC) (a.cell.toNat) (by omega);obtain⟨rfl,_⟩:=U2a.open_ P0;refine qB (Sm.q.a L0) [.o 1,.o 4,.o 1,.x b1 C1,.f 0 1] Z ⟨Z,⟨K0,by omega⟩,Z,Z,Z,U⟩ (fun j1=>?_) fun j1=>?_
   ·refine lV Z ?_;rintro R0 ⟨j0,r0⟩;replace a0:=a0.keep r0 (List.not_mem_nil);refine lU Z Z ⟨⟨_,Z,iF (fun h=>?_)⟩,j0.fin⟩
    (have q:=(h.set a (c0a A0)).2.2;rw[W4a I1] at q;omega)
   refine qO Sm.q [.o 1,.o 4] Z ⟨Z,Z,U⟩ (X1a w1b Z Z (fun w1 S1 X1=>u4a a.to M _ _ _ p.cells false (RdE.keep (S1.keep0 M) _ _ o1) (hC.keep (S1.keep0 M)) (hK.keep (S1.keep0 M))) (fun y0=>?_) fun y0=>?_)
   ·refine lV Z ?_;rintro R0 ⟨j0,r0⟩;replace a0:=a0.keep r0 (List.not_mem_nil);refine lP1 Z ?_;refine⟨μk-1,by omega,Z,k+1,by omega,(hs.succ A0 (⟨by unfold M1a;omega,y0,by rw[W4a I1];omega⟩)),?_,((by rw[O0a A0,List.map_append];exact a0)),j0.tail.tail,Z⟩;rw[O0a A0,List.map_append,List.map_singleton,List.nodup_append];exact⟨hd,by simp,fun a ha b hb he=>by rw[List.mem_singleton.1 hb] at he;exact H1 (he▸ha)⟩
   refine lV Z ?_;rintro R0 ⟨j0,r0⟩;refine lU Z Z ⟨⟨_,Z,iF (fun h=>?_)⟩,j0.fin⟩
   (have q:=(h.set a (c0a A0)).2.1;rw[y0] at q;cases q;done)
  refine lU Z Z ⟨⟨_,Z,iF (fun h=>?_)⟩,q0.fin⟩
  (have q:=(h.set a (c0a A0)).1;unfold M1a at q;have q5:=of_decide_eq_false x0;omega)
 have t0:=hs.all (show s.set.length≤k by omega);have N0:=e0.1;refine lC1 Z (x0a b0a [0,1,2,3,4,5,6,7] [] [8,9] Z (Cl _ _ _ _) (Cl.start S) ?_);refine F1a y9c Z Z (fun w1 S1 X1=>z4c _) ?_;refine qO S.q [.o 0] Z ⟨Z,U⟩ (o5c Tryz.underlying230 y3c F4c Z Z (by omega) (by omega) (J3c (by omega) (by omega)) Z ?_);refine qN S.q [.w 2,.w 0] Z ⟨⟨Z,Z⟩,⟨Z,Z⟩,U⟩ (u3a ?_);refine J1a ?_;rintro p2 ⟨m0,_⟩;refine f2b O9b Z Z Z (U4c p t s M _ _ _ ⟨hP.keep (m0.keep0 M),D1a.keep (m0.keep0 M) _ _ hS,fun a ha=>(t0 a ha).1,hK.keep (m0.keep0 M),a2 _ m0.size⟩ N0) ?_;rintro g2 j2 ⟨rfl,Z0⟩;have G0:=m0.later Z0;have G1:=Z3c (t:=t) hc e0.2.2.2.2.2.2.1 (fun a ha=>⟨(t0 a ha).1,(t0 a ha).2.1⟩) N0;cases u0:dec (F1d p t s)
 ·refine lU Z Z ⟨⟨_,Z,iF (fun h=>?_)⟩,G0.fin⟩;exact Z0a u0 (G1.2 h.row)
 refine lU Z Z ⟨⟨_,Z,iff_of_true (by omega) ⟨e0.1,e0.2.1,e0.2.2.1,e0.2.2.2.1,e0.2.2.2.2.1,e0.2.2.2.2.2.1,e0.2.2.2.2.2.2,t0,?_,G1.1 (x1a u0)⟩⟩,G0.fin⟩;rw[List.take_of_length_le (by omega)] at hd;exact(List.pairwise_map.1 hd).imp fun h e=>h (by rw[e])
def k3d(nm:Nat)(c:Int):Bool:=decide (0≤c∧c<(nm:Int))
def T6c(pts hd c:Int):Bool:=decide ((0≤c∧c<pts)∧c≠hd)
theorem Q5b{g:Nat}{M:List Nat}{w0:World}{Ac Am Al At:Option Addr}{nc cc nm cm nl cl nt ct:Nat}(hg:O1a w0 g 0 (pL Ac nc cc Am nm cm Al nl cl At nt ct))(hM:g∉M):
 i3a prog M w0 (.func (.func 122) #[] #[.pointer (some ⟨g,0,none⟩)]) (k3d nm) :=
 ⟨_,_,_,Z,B9c,fun w' hk c _=>Q9b c g w' Ac Am Al At nc cc nm cm nl cl nt ct (hg.keep hk hM)⟩
theorem g6b{g g':Nat}{M:List Nat}{w0:World}{a0 hd:Int}(hg:w0.cell? ⟨g,1,none⟩=some (.int .i64 a0))(c0:w0.cell? ⟨g',0,none⟩=some (.int .i64 hd))(hM:g∉M)(b0:g'∉M):
 i3a prog M w0 (.func (.func 125) #[] #[.pointer (some ⟨g,0,none⟩),.pointer (some ⟨g',0,none⟩)]) (T6c a0 hd) :=
 ⟨_,_,_,Z,r7c,fun w' hk c _=>W9b c a0 hd g g' w' (hk.cell (a:=⟨g,1,none⟩) hM hg) (hk.cell (a:=⟨g',0,none⟩) b0 c0)⟩
def V4b(k:Nat):Nat:=if k=0 then 64 else if k=1 then 65 else 66
def q7b(cs:Array Value):Array Value:=#[.func (.func 64) #[.agg cs] #[],.func (.func 65) #[.agg cs] #[],.func (.func 66) #[.agg cs] #[]]
theorem S9b{cs:Array Value}{k:Nat}(h:k<3):(q7b cs)[(k:Int).toNat]?=some (.func (.func (V4b k)) #[.agg cs] #[]):=by
 rcases(show k=0∨k=1∨k=2 by omega) with e|e|e<;>subst e<;>rfl
theorem g8b{k:Nat}:Has prog (V4b k):=by
 unfold V4b
 repeat' split
 ·exact c1d
 ·exact k2d
 ·exact U1d
theorem M9b(p:g0a)(t:Nat)(x:i1a)(b:Nat)(l:LV)(M:List Nat)(w0:World)(cs ts:LV)(hP:C1a M w0 p cs)(hT:S0a M w0 ts x)(hN:j9a p)(hc:K3a p)(hL:u3c p)(hK:H3a M w0)(hM:∀g∈M,g<w0.heap.size)(hb:b∈M)
 (hx:p.threads[t]?=some x) (hm:Z3a prog 9 w0 b (s4a l)) :
 M0a prog 67 #[.agg cs.toArray,.int .i64 t,.agg ts.toArray,.map (some b)] w0 fun v w'=>(∃a c,v=.tuple #[.int .i64 a,.int .i64 c]∧(a=0↔L5a p t x∧Value.string x.name∉l)∧(a=0→Z3a prog 9 w' b (s4a (l++[.string x.name]))))∧W0a [b] w0 w':=by
 obtain⟨Ac,nc,cc,Am,nm,cm,Al,nl,cl,At,nt,ct,rfl,hC,_⟩:=hP.open_;obtain⟨S0,P0,X0,c1,H1,f1,U0,R0,Z0,T0,Q0,Y0,rfl,_,p1,w1,x1,s1,_⟩:=hT.open_;have S:=St.reflM [b] w0;have b0:∀g∈[b],g∈M:=fun g hg=>by rw[List.mem_singleton] at hg;subst hg;exact hb
 have E0:∀w':World,w0.heap.size≤w'.heap.size→∀g∈M,g<w'.heap.size:=fun w' h g hg=>by have:=hM g hg;omega
 have b2:=hL.2.2.2.2 x (c0a hx);have g2:x.name.size≤140737488355328:=hN.threads x (c0a hx);refine a0a func67 Z ntmps67 Z ?_;refine wO1 Z (i0a S Z ?_);intro g4 w4 S4 X4 G4;replace hm:=hm.keep X4 (List.not_mem_nil);refine i0a S4 Z ?_;intro g6 w6 S6 X6 G6;replace hm:=hm.keep X6 (List.not_mem_nil);refine lO S6.k [.o 0] Z ⟨Z,U⟩ (k0a S6 O4b Z Z (S8a _ _ g2) (fun g1 L2 V0 W1=>?_) (fun g1 L2 V0 W1=>?_))
 ·replace hm:=hm.keep W1 (List.not_mem_nil);refine lO V0.k [.o 0] Z ⟨Z,U⟩ ?_;have H2:w0.heap.size≤g6:=by have:=S4.size;omega
  refine O2a I4b Z Z (f9a b _ x.name _ hm g2) ?_;rintro T2 Z2 ⟨⟨Q2,rfl,O0⟩,p2,u2⟩;have j0:=V0.turned hm (.inr (by simp)) p2;clear hm;cases J0:Q2
  ·refine n0a (hv:=Z) (v:=.bool _) Z ?_;have d2:Value.string x.name∉l:=fun hh=>absurd (O0.2 hh) (by rw[J0];decide);have hm:=u2 d2;refine lB j0.k [.o 0] Z ⟨Z,U⟩ (fun A2=>?_) fun A2=>?_
   ·refine lT1 Z Z ⟨⟨_,_,Z,iF (fun hh=>?_),fun he=>absurd he (by omega)⟩,j0.below⟩;obtain⟨h,hn⟩:=hh;have q1:=h.points;have q2:=h.asserts;have q3:=h.nmod;omega
   refine lB j0.k [.o 0,.o 0] Z ⟨Z,Z,U⟩ (fun B2=>?_) fun B2=>?_
   ·refine lT1 Z Z ⟨⟨_,_,Z,iF (fun hh=>?_),fun he=>absurd he (by omega)⟩,j0.below⟩;obtain⟨h,hn⟩:=hh;have q1:=h.points;have q2:=h.asserts;have q3:=h.nmod;omega
   refine lB j0.k [.o 0,.o 0] Z ⟨Z,Z,U⟩ (fun C2=>?_) fun C2=>?_
   ·refine lT1 Z Z ⟨⟨_,_,Z,iF (fun hh=>?_),fun he=>absurd he (by omega)⟩,j0.below⟩;obtain⟨h,hn⟩:=hh;have q1:=h.points;have q2:=h.asserts;have q3:=h.nmod;omega
   refine lO j0.k [.o 0] Z ⟨Z,U⟩ (h2a Z Z ?_);refine k0a j0 c0b Z Z (t6a M _ _ _ x.modules (k3d nm) (w1.keep (j0.keepM.mono b0)) (Q5b (j0.cells 1 Z) (n0b hM G4)) (E0 _ j0.size)) (fun a1 N2 D0 X1=>?_) (fun a1 N2 D0 X1=>?_)
   ·replace hm:=hm.keep X1 (List.not_mem_nil);refine lO D0.k [.w 1] Z ⟨⟨Z,Z⟩,U⟩ (s0a D0 F7b Z Z (y8a p t M _ _ (hP.keep (D0.keepM.mono b0)) (E0 _ D0.size)) ?_);rintro U2 b1 hq Q1 v2;replace hm:=hm.keep v2 (List.not_mem_nil);obtain⟨f,first,caps,rfl,_⟩:=id hq;have a0:=A0a.refl [] b1;refine lC Q1.k [.o 0] Z ⟨Z,U⟩ (wL (fun μk D ε w=>D=[]∧∃k:Nat,(k+μk=(x.asserts.length))∧(g1a (x.asserts) k (fun e=>a7a p.cells e false t))∧(Z3a prog 9 w b (s4a (l++[.string x.name])))∧(A0a [] b1 w)∧St [b] w0 w [(some g6,58,[.string x.name,.int .i64 x.points,.slice S0 P0 X0,.slice c1 H1 f1,.slice U0 R0 Z0,.slice T0 Q0 Y0,.bool x.asleep]),(some g4,122,pL Ac nc cc Am nm cm Al nl cl At nt ct)]∧Sl ε [(1,.int .i64 t),(4,.pointer (some ⟨g4,0,none⟩)),(6,.pointer (some ⟨g6,0,none⟩)),(10,.func (.func f) first caps),(55,.slice S0 P0 X0),(56,.int .i64 P0),(57,.int .i64 k)]) (μ:=(x.asserts.length)) ⟨Z,0,by omega,g1a.zero,hm,a0,Q1,Z⟩ ?_);rintro μk D ε w ⟨rfl,k,hk,Z1,hm,a0,S,eZ⟩;refine wK eZ (wB1 Z (fun D2=>?_) fun D2=>?_)
    ·obtain⟨e,w2,I2,_,i2,m1,t1,C1,z1,K0⟩:=RdS.get (p1) (k) (by omega);obtain⟨_,_,_,rfl,_⟩:=RdE.cells K0;refine lO (S.k.b (z1.keep (S.keepM.mono b0) t1)) [.x w2 I2,.v 0] Z ⟨⟨Z,C1⟩,⟨m1,by omega⟩,U⟩ (m0a S h9a Z Z ?_);intro R2 W2 N1 T1 r2;have y0:=Nat.le_trans a0.size r2;replace a0:=a0.trans T1;replace hm:=hm.keep T1 (List.not_mem_nil);refine f0a (kk:=0) (vs:=[_,_,_,_]) N1 D9a Z Z Z Z Z Z Z ?_;intro m2 d0 u0;dsimp only[o0a,List.set] at d0;replace a0:=a0.fresh u0 (by first|exact y0);replace hm:=hm.keep u0 (fun hh=>by rw[List.mem_singleton] at hh;exact hm.ne (N1.blk 0 Z) hh);refine lO d0.k [.w 2,.w 0] Z ⟨⟨Z,by rfl⟩,⟨Z,Z⟩,U⟩ (k0a d0 I1b Z Z (Z1b p e M _ _ _ false _ (H2b p t) (hP.keep (d0.keepM.mono b0)) (RdE.keep (d0.keepM.mono b0) _ _ K0) (hq.keep a0.of_nil) (hK.keep (d0.keepM.mono b0)) (E0 _ d0.size)) (fun i1 O2 d1 G0=>?_) (fun i1 O2 d1 G0=>?_))
     ·replace a0:=a0.trans G0;replace hm:=hm.keep G0 (List.not_mem_nil);refine lP1 Z ⟨μk-1,by omega,Z,k+1,by omega,(Z1.succ i2 ((M3b hc).1 (x1a i1))),(hm),(a0),d1.tail,Z⟩
     replace a0:=a0.trans G0;replace hm:=hm.keep G0 (List.not_mem_nil);refine lT1 Z Z ⟨⟨_,_,Z,iF (fun hh=>?_),fun he=>absurd he (by omega)⟩,d1.below⟩;obtain⟨h,hn⟩:=hh;have q1:=h.points;have q2:=h.asserts;have q3:=h.nmod;exact Z0a i1 ((M3b hc).2 (h.truth e (c0a i2)))
    refine lC S.k [.o 0] Z ⟨Z,U⟩ (wL (fun μk D ε w=>D=[]∧∃k:Nat,(k+μk=(x.steps.length))∧(g1a (x.steps) k (fun s=>c7a p t x.points s))∧(Z3a prog 9 w b (s4a (l++[.string x.name])))∧(A0a [] b1 w)∧St [b] w0 w [(some g6,58,[.string x.name,.int .i64 x.points,.slice S0 P0 X0,.slice c1 H1 f1,.slice U0 R0 Z0,.slice T0 Q0 Y0,.bool x.asleep]),(some g4,122,pL Ac nc cc Am nm cm Al nl cl At nt ct)]∧Sl ε [(1,.int .i64 t),(4,.pointer (some ⟨g4,0,none⟩)),(6,.pointer (some ⟨g6,0,none⟩)),(10,.func (.func f) first caps),(68,.slice U0 R0 Z0),(69,.int .i64 R0),(70,.int .i64 k)]) (μ:=(x.steps.length)) ⟨Z,0,by omega,g1a.zero,hm,a0,S,Z⟩ ?_);rintro μk D ε w ⟨rfl,k,hk,f2,hm,a0,S,eZ⟩;refine wK eZ (wB1 Z (fun E2=>?_) fun E2=>?_)
    ·obtain⟨s,x2,J2,_,j2,n1,u1,D1,A1,L0⟩:=RdS.get (x1) (k) (by omega);obtain⟨_,_,_,_,_,_,rfl,⟨_,_⟩,_⟩:=D1a.open_ L0;refine lO (S.k.b (A1.keep (S.keepM.mono b0) u1)) [.x x2 J2,.v 0] Z ⟨⟨Z,D1⟩,⟨n1,by omega⟩,U⟩ (m0a S X9a Z Z ?_);intro S2 X2 O1 U1 s2;have z0:=Nat.le_trans a0.size s2;replace a0:=a0.trans U1;replace hm:=hm.keep U1 (List.not_mem_nil);refine lO1 Z (f0a (kk:=0) (vs:=[_,_,_,_,_,_,_,_,_,_,_]) O1 Y9a Z Z Z Z Z Z Z ?_);intro n2 c0 v0;dsimp only[o0a,List.set] at c0;replace a0:=a0.fresh v0 (by first|exact z0);replace hm:=hm.keep v0 (fun hh=>by rw[List.mem_singleton] at hh;exact hm.ne (O1.blk 0 Z) hh);refine lO c0.k [.w 2,.w 1,.w 0] Z ⟨⟨Z,by rfl⟩,⟨Z,Z⟩,⟨Z,Z⟩,U⟩ (s0a c0 K7c Z Z (C4c p t x s M _ _ _ _ (hP.keep (c0.keepM.mono b0)) (D1a.keep (c0.keepM.mono b0) _ _ L0) hc (hK.keep (c0.keepM.mono b0)) (E0 _ c0.size) (S0a.keep (c0.keepM.mono b0) _ _ hT) (by omega) (by omega)) ?_);rintro V2 a3 ⟨_,rfl,N0⟩ R1 Y1;replace a0:=a0.trans Y1;replace hm:=hm.keep Y1 (List.not_mem_nil);refine lB1 Z (fun F2=>?_) fun F2=>?_
     ·refine lT1 Z Z ⟨⟨_,_,Z,iF (fun hh=>?_),fun he=>absurd he (by omega)⟩,R1.below⟩;obtain⟨h,hn⟩:=hh;have q1:=h.points;have q2:=h.asserts;have q3:=h.nmod
      (have z:=N0.2 (h.steps s (c0a j2));omega)
     refine lP1 Z ⟨μk-1,by omega,Z,k+1,by omega,(f2.succ j2 (N0.1 (by omega))),(hm),(a0),R1.tail,Z⟩
    refine lC S.k [.o 0] Z ⟨Z,U⟩ (wL (fun μk D ε w=>D=[]∧∃k:Nat,(k+μk=(x.loops.length))∧(g1a (x.loops) k (fun l=>Y8b p t x.points l))∧(Z3a prog 9 w b (s4a (l++[.string x.name])))∧(A0a [] b1 w)∧St [b] w0 w [(some g6,58,[.string x.name,.int .i64 x.points,.slice S0 P0 X0,.slice c1 H1 f1,.slice U0 R0 Z0,.slice T0 Q0 Y0,.bool x.asleep]),(some g4,122,pL Ac nc cc Am nm cm Al nl cl At nt ct)]∧Sl ε [(4,.pointer (some ⟨g4,0,none⟩)),(6,.pointer (some ⟨g6,0,none⟩)),(10,.func (.func f) first caps),(86,.slice T0 Q0 Y0),(87,.int .i64 Q0),(88,.int .i64 k)]) (μ:=(x.loops.length)) ⟨Z,0,by omega,g1a.zero,hm,a0,S,Z⟩ ?_);rintro μk D ε w ⟨rfl,k,hk,a2,hm,a0,S,eZ⟩;refine wK eZ (wB1 Z (fun G2=>?_) fun G2=>?_)
    ·obtain⟨lp,y2,K2,_,i0,o1,v1,E1,B1,G1⟩:=RdS.get (s1) (k) (by omega);obtain⟨_,_,_,_,_,_,rfl,_,H0,I0,_⟩:=K6a.open_ G1;refine lO (S.k.b (B1.keep (S.keepM.mono b0) v1)) [.x y2 K2,.v 0] Z ⟨⟨Z,E1⟩,⟨o1,by omega⟩,U⟩ (m0a S U7c Z Z ?_);intro z2 Y2 P1 V1 t2;have A0:=Nat.le_trans a0.size t2;replace a0:=a0.trans V1;replace hm:=hm.keep V1 (List.not_mem_nil);refine f0a (kk:=0) (vs:=[_,_,_,_,_,_]) P1 o7c Z Z Z Z Z Z Z ?_;intro o2 m0 x0;dsimp only[o0a,List.set] at m0;replace a0:=a0.fresh x0 (by first|exact A0);replace hm:=hm.keep x0 (fun hh=>by rw[List.mem_singleton] at hh;exact hm.ne (P1.blk 0 Z) hh);refine lO1 Z (h2a Z Z ?_);refine lO m0.k [.o 0,.o 1] Z ⟨Z,Z,U⟩ (k0a m0 R3a Z Z (Q2a _ _ _) (fun j1 P2 F0 W0=>?_) (fun j1 P2 F0 W0=>?_))
     ·replace a0:=a0.trans W0;replace hm:=hm.keep W0 (List.not_mem_nil);refine lO F0.k [.o 0] Z ⟨Z,U⟩ (k0a F0 M7b Z Z (a6a M _ _ _ (H0.keep (F0.keepM.mono b0))) (fun C0 I1 e0 n0=>?_) (fun C0 I1 e0 n0=>?_))
      ·replace a0:=a0.trans n0;replace hm:=hm.keep n0 (List.not_mem_nil);refine lO e0.k [.o 0] Z ⟨Z,U⟩ ?_;have r1:w0.heap.size≤z2:=by have:=S.size;omega
       refine k0a e0 c0b Z Z (t6a M _ _ _ lp.body (T6c x.points lp.head) (H0.keep (e0.keepM.mono b0)) (g6b (e0.cell 1 Z Z) (e0.cell 0 Z Z) (n0b hM H2) (n0b hM r1)) (E0 _ e0.size)) (fun r0 J1 f0 o0=>?_) (fun r0 J1 f0 o0=>?_)
       ·replace a0:=a0.trans o0;replace hm:=hm.keep o0 (List.not_mem_nil);refine lO f0.k [.o 0,.o 2] Z ⟨Z,Z,U⟩ (k0a f0 w1b Z Z (u4a lp.variant M _ _ _ p.cells false (RdE.keep (f0.keepM.mono b0) _ _ I0) (hC.keep (f0.keepM.mono b0)) (hK.keep (f0.keepM.mono b0))) (fun s0 K1 g0 p0=>?_) (fun s0 K1 g0 p0=>?_))
        ·replace a0:=a0.trans p0;replace hm:=hm.keep p0 (List.not_mem_nil);refine lO g0.k [.o 0] Z ⟨Z,U⟩ (k0a g0 k0b Z Z (a8a lp.variant M _ _ _ (H2b p t) (RdE.keep (g0.keepM.mono b0) _ _ I0) (hq.keep a0.of_nil) (hK.keep (g0.keepM.mono b0)) (E0 _ g0.size)) (fun t0 M1 B0 q0=>?_) (fun t0 M1 B0 q0=>?_))
         ·replace a0:=a0.trans q0;replace hm:=hm.keep q0 (List.not_mem_nil);refine lP1 Z ?_;refine⟨μk-1,by omega,Z,k+1,by omega,(a2.succ i0 (⟨of_decide_eq_true j1,x1a C0,fun c y1=>(by have z:=of_decide_eq_true (p:=(0≤c∧c<x.points)∧c≠lp.head) (List.all_eq_true.1 r0 c y1);omega),s0,(x8a hc s0).1 t0⟩)),(hm),(a0),B0.tail,Z⟩
         replace hm:=hm.keep q0 (List.not_mem_nil);refine lT1 Z Z ⟨⟨_,_,Z,iF (fun hh=>?_),fun he=>absurd he (by omega)⟩,B0.below⟩;obtain⟨h,hn⟩:=hh;have q1:=h.points;have q2:=h.asserts;have q3:=h.nmod
         (have zl:=h.loops lp (c0a i0)
          (have z:=(x8a hc zl.variant.1).2 zl.variant.2;rw[z] at t0;cases t0;done))
        replace hm:=hm.keep p0 (List.not_mem_nil);refine lT1 Z Z ⟨⟨_,_,Z,iF (fun hh=>?_),fun he=>absurd he (by omega)⟩,g0.below⟩;obtain⟨h,hn⟩:=hh;have q1:=h.points;have q2:=h.asserts;have q3:=h.nmod
        (have zl:=h.loops lp (c0a i0)
         (have z:=zl.variant.1;rw[s0] at z;cases z;done))
       replace hm:=hm.keep o0 (List.not_mem_nil);refine lT1 Z Z ⟨⟨_,_,Z,iF (fun hh=>?_),fun he=>absurd he (by omega)⟩,f0.below⟩;obtain⟨h,hn⟩:=hh;have q1:=h.points;have q2:=h.asserts;have q3:=h.nmod
       (have zl:=h.loops lp (c0a i0)
        (have z:lp.body.all (T6c x.points lp.head)=true:=List.all_eq_true.2 fun c y1=>decide_eq_true (by have:=zl.body c y1;omega)
         rw[z] at r0;cases r0;done))
      replace hm:=hm.keep n0 (List.not_mem_nil);refine lT1 Z Z ⟨⟨_,_,Z,iF (fun hh=>?_),fun he=>absurd he (by omega)⟩,e0.below⟩;obtain⟨h,hn⟩:=hh;have q1:=h.points;have q2:=h.asserts;have q3:=h.nmod
      (have zl:=h.loops lp (c0a i0)
       exact Z0a C0 zl.up)
     replace hm:=hm.keep W0 (List.not_mem_nil);refine lT1 Z Z ⟨⟨_,_,Z,iF (fun hh=>?_),fun he=>absurd he (by omega)⟩,F0.below⟩;obtain⟨h,hn⟩:=hh;have q1:=h.points;have q2:=h.asserts;have q3:=h.nmod
     (have zl:=h.loops lp (c0a i0)
      exact of_decide_eq_false j1 zl.head)
    refine lT1 Z Z ⟨⟨_,_,Z,iff_of_true (by omega) ⟨⟨x1a g1,⟨by omega,by omega⟩,b2.2.1,b2.2.2,by omega,by omega,fun m F1=>?_,Z1.all (by omega),f2.all (by omega),a2.all (by omega)⟩,d2⟩,fun _=>hm⟩,S.below⟩;have z:=of_decide_eq_true (p:=0≤m∧m<(nm:Int)) (List.all_eq_true.1 a1 m F1);unfold M1a;omega
   refine lT1 Z Z ⟨⟨_,_,Z,iF (fun hh=>?_),fun he=>absurd he (by omega)⟩,D0.below⟩;obtain⟨h,hn⟩:=hh;have q1:=h.points;have q2:=h.asserts;have q3:=h.nmod
   (have z:x.modules.all (k3d nm)=true:=List.all_eq_true.2 fun m F1=>decide_eq_true (by have:=h.modules m F1;unfold M1a at this;omega)
    rw[z] at a1;cases a1;done)
  refine n0a (hv:=Z) (v:=.bool _) Z ?_;refine lT1 Z Z ⟨⟨_,_,Z,iF (fun hh=>?_),fun he=>absurd he (by omega)⟩,j0.below⟩;obtain⟨h,hn⟩:=hh;have q1:=h.points;have q2:=h.asserts;have q3:=h.nmod;exact hn (O0.1 J0)
 refine lT1 Z Z ⟨⟨_,_,Z,iF (fun hh=>?_),fun he=>absurd he (by omega)⟩,V0.below⟩;obtain⟨h,hn⟩:=hh;have q1:=h.points;have q2:=h.asserts;have q3:=h.nmod;exact Z0a g1 h.name
def G8b(p:g0a)(k:Nat):Prop:=if k=0 then L9a p else if k=1 then Z5b p else G2b p
theorem m1c(k:Nat)(hk:k<3)(p:g0a)(M:List Nat)(w0:World)(cs:LV)(hP:C1a M w0 p cs)(hN:j9a p)(hc:1≤k→L9a p)(hK:H3a M w0)(hM:∀g∈M,g<w0.heap.size):
 M0a prog (V4b k) #[.agg cs.toArray] w0 fun v w'=>(∃a,v=.int .i64 a∧(a=0↔G8b p k))∧Bw w0 w':=by
 rcases(show k=0∨k=1∨k=2 by omega) with e|e|e<;>subst e
 ·exact T0c p M w0 cs hP hN
 ·exact n8b p M w0 cs hP hN (hc (by omega)).1 hK hM
 ·exact R0c p M w0 cs hP (hc (by omega)).1 hK hM
theorem p5b(p:g0a)(M:List Nat)(w0:World)(cs:LV)(hP:C1a M w0 p cs)(hN:j9a p)(hK:H3a M w0)(hM:∀g∈M,g<w0.heap.size):
 M0a prog 30 #[.agg cs.toArray] w0 fun v w'=>(∃a b c,v=.tuple #[.int .i64 a,.int .i64 b,.int .i64 c]∧(a=0↔q1a p)∧(a=0→b=-1∧c=-1))∧Bw w0 w':=by
 obtain⟨Ac,nc,cc,Am,nm,cm,Al,nl,cl,At,nt,ct,rfl,_,_,_,R0,_⟩:=hP.open_;have S:=St.refl w0;have C0:∀w':World,w0.heap.size≤w'.heap.size→∀g∈M,g<w'.heap.size:=fun w' h g hg=>by have:=hM g hg;omega
 refine a0a func30 Z ntmps30 Z ?_;refine wO1 Z (i0a S Z ?_);intro g1 w1 S1 X1 G1;refine lO S1.k [.w 0] Z ⟨⟨Z,Z⟩,U⟩ (e1a P9c (vs:=[(0,.agg _)]) (cs:=[_,_,_,_]) Z Z Z Z ?_);refine m0a S1 d2d Z Z ?_;intro g5 w5 S5 X5 G5;refine f0a (kk:=0) (vs:=[_,_,_,_]) S5 u2d Z Z Z Z Z Z Z ?_;intro U0 e0 J0;dsimp only[o0a,List.set] at e0;refine lO e0.k [.w 0] Z ⟨⟨Z,Z⟩,U⟩ (s0a e0 a1d Z Z (q0c p M _ _ (hP.keep (e0.keep0 M))) ?_);rintro b1 V0 ⟨_,_,rfl,d0⟩ j0 Y0;refine lB1 Z (fun L0=>?_) fun L0=>?_
 ·refine lR1 Z (I6a Z ?_);refine⟨⟨_,_,_,Z,iF (fun h=>?_),fun h=>absurd h (by omega)⟩,j0.fin⟩;have z1:=d0.2 (E0b h);omega
 refine lO j0.k [.w 0] Z ⟨⟨Z,Z⟩,U⟩ (P2a Z Z Z ?_);refine lO j0.k [.w 0] Z ⟨⟨Z,Z⟩,U⟩ (P2a Z Z Z ?_);refine lO j0.k [.w 0] Z ⟨⟨Z,Z⟩,U⟩ (P2a Z Z Z ?_);refine y1a (v:=.agg (q7b #[.slice Ac nc cc,.slice Am nm cm,.slice Al nl cl,.slice At nt ct])) (w':=V0) Z Z Z (by kernel_rfl) ?_;refine lC1 Z (wL (fun μk D ε w=>D=[]∧∃k:Nat,(k+μk=(3))∧(∀j,j<k→G8b p j)∧St [] w0 w [(some g5,122,pL Ac nc cc Am nm cm Al nl cl At nt ct),(some g1,27,pL Ac nc cc Am nm cm Al nl cl At nt ct)]∧Sl ε [(1,.pointer (some ⟨g1,0,none⟩)),(5,.pointer (some ⟨g5,0,none⟩)),(33,.agg (q7b #[.slice Ac nc cc,.slice Am nm cm,.slice Al nl cl,.slice At nt ct])),(34,.int .i64 k)]) (μ:=(3)) ⟨Z,0,by omega,(fun j h=>absurd h (by omega)),j0,Z⟩ ?_);rintro μk D ε w ⟨rfl,k,hk,n0,S,eZ⟩;refine wK eZ (wB1 Z (fun N0=>?_) fun N0=>?_)
 ·refine lO1 Z (o7b F7c Z Z (S9b (by omega)) Z ?_);refine lO1 Z (k2b (vs:=[.agg #[.slice Ac nc cc,.slice Am nm cm,.slice Al nl cl,.slice At nt ct]]) g8b Z Z Z (m1c k (by omega) p M _ _ (hP.keep (S.keep0 M)) hN (fun h1=>n0 0 (by omega)) (hK.keep (S.keep0 M)) (C0 _ S.size)) ?_);rintro c1 i1 ⟨⟨_,rfl,o0⟩,F0⟩;have z0:=S.later F0;refine lB1 Z (fun O0=>?_) fun O0=>?_
  ·refine lR1 Z (I6a Z ?_);refine⟨⟨_,_,_,Z,iF (fun h=>?_),fun h=>absurd h (by omega)⟩,z0.fin⟩;have z1:=d0.2 (E0b h)
   (have z2:G8b p k:=by
     unfold G8b
     split
     ·exact⟨h.cells,h.cellNames⟩
     split
     ·exact⟨h.modules,h.moduleNames⟩
     ·exact⟨h.locks,h.lockCells⟩
    have z3:=o0.2 z2;omega)
  refine lP1 Z ⟨μk-1,by omega,Z,k+1,by omega,?_,z0,Z⟩;intro j hj;by_cases v0:j=k
  ·subst v0;exact o0.1 (by omega)
  ·exact n0 j (by omega)
 have t0:L9a p:=n0 0 (by omega);have E0:Z5b p:=n0 1 (by omega);have D0:G2b p:=n0 2 (by omega);refine lO1 Z (p7a (k:=9) S Z ?_);intro f0 j1 A0 Z0 X0 b0;have u0:w0.heap.size≤f0:=by have:=S.size;omega
 refine lC A0.k [.o 1] Z ⟨Z,U⟩ (wL (fun μk D ε w=>D=[]∧∃k:Nat,(k+μk=(p.threads.length))∧(∀j x,p.threads[j]?=some x→j<k→L5a p j x)∧(((p.threads.take k).map fun c=>Value.string c.name).Nodup)∧(Z3a prog 9 w f0 (s4a ((p.threads.take k).map fun c=>.string c.name)))∧St [] w0 w [(some g5,122,pL Ac nc cc Am nm cm Al nl cl At nt ct),(some g1,27,pL Ac nc cc Am nm cm Al nl cl At nt ct)]∧Sl ε [(5,.pointer (some ⟨g5,0,none⟩)),(11,.map (some f0)),(45,.slice At nt ct),(46,.int .i64 nt),(47,.int .i64 k)]) (μ:=(p.threads.length)) ⟨Z,0,by omega,(fun j x _ h=>absurd h (by omega)),(by simp),(by simpa[s4a] using b0),A0,Z⟩ ?_);rintro μk D ε w ⟨rfl,k,hk,ht,hd,b0,S,eZ⟩;refine wK eZ (wB1 Z (fun P0=>?_) fun P0=>?_)
 ·obtain⟨x,K0,T0,_,i0,r0,_,x0,s0,p0⟩:=RdS.get (R0) (k) (by omega);obtain⟨_,_,_,_,_,_,_,_,_,_,_,_,rfl,_⟩:=S0a.open_ p0;refine lO (S.k.a s0) [.x K0 T0,.v 0] Z ⟨⟨Z,x0⟩,⟨r0,by omega⟩,U⟩ (m0a S o4b Z Z ?_);intro a1 f1 y0 I0 W0;replace b0:=b0.keep I0 (List.not_mem_nil);refine lO1 Z (f0a (kk:=0) (vs:=[_,_,_,_,_,_,_]) y0 P4b Z Z Z Z Z Z Z ?_);intro q0 a0 m0;dsimp only[o0a,List.set] at a0;replace b0:=b0.keep m0 (fun hh=>by rw[List.mem_singleton] at hh;exact b0.ne (y0.blk 0 Z) hh);refine lO a0.k [.w 1,.w 0] Z ⟨⟨Z,by rfl⟩,⟨Z,Z⟩,U⟩ ?_;have c0:∀g∈f0::M,g∈M∨w0.heap.size≤g:=fun g hg=>by exact(List.mem_cons.1 hg).elim (fun h=>.inr (by omega)) .inl
  have S0:∀g∈f0::M,g<q0.heap.size:=fun g hg=>by exact(List.mem_cons.1 hg).elim (fun h=>h▸b0.lt) (C0 _ a0.size g)
  refine O2a L1d Z Z (M9b p k x f0 _ (f0::M) _ _ _ ((hP.more c0).keep (a0.keep0 _)) (S0a.keep (a0.keep0 _) _ _ (S0a.more c0 _ _ p0)) hN t0.1 (d0.1 (by omega)) ((hK.more c0).keep (a0.keep0 _)) S0 (by simp) i0 b0) ?_;rintro d1 m1 ⟨⟨_,_,rfl,g0,H0⟩,G0⟩;have B0:=a0.turned b0 (.inl u0) G0;refine lB1 Z (fun Q0=>?_) fun Q0=>?_
  ·refine lR1 Z (I6a Z ?_);refine⟨⟨_,_,_,Z,iF (fun h=>?_),fun h=>absurd h (by omega)⟩,B0.fin⟩;have z1:=d0.2 (E0b h)
   (have z3:=g0.2 ⟨h.thread i0,k5a (f:=fun(c:i1a)=>Value.string c.name) (h.threadNames.imp fun h e=>h (by injection e)) i0⟩;omega)
  refine lP1 Z ?_;refine⟨μk-1,by omega,Z,k+1,by omega,?_,?_,((by rw[O0a i0,List.map_append];exact H0 (by omega))),B0.tail,Z⟩
  ·intro j y hy hj;by_cases v0:j=k
   ·subst v0;rw[i0] at hy;cases hy;exact(g0.1 (by omega)).1
   ·exact ht j y hy (by omega)
  ·rw[O0a i0,List.map_append,List.map_singleton,List.nodup_append];exact⟨hd,by simp,fun a ha b hb he=>by rw[List.mem_singleton.1 hb] at he;exact(g0.1 (by omega)).2 (he▸ha)⟩
 refine lR1 Z (I6a Z ?_);refine⟨⟨_,_,_,Z,iff_of_true (by omega) ?_,fun _=>⟨Z,Z⟩⟩,S.fin⟩;have h1:=d0.1 (by omega);rw[List.take_of_length_le (by omega)] at hd;exact⟨h1.1,h1.2.1,h1.2.2.1,h1.2.2.2.1,t0.1,t0.2,E0.1,E0.2,D0.1,D0.2,fun t h=>ht t _ (List.getElem?_eq_getElem h) (by omega),(List.pairwise_map.1 hd).imp fun h e=>h (by rw[e])⟩
theorem q1a.named{p:g0a}(h:q1a p):j9a p:=by
 refine⟨fun c hc=>?_,fun m hm=>?_,fun t ht=>?_⟩
 ·have:=(h.cells c hc).name.2.1;omega
 ·have h1:=(h.modules m hm).name.2.1;have h2:=(h.modules m hm).owner.2.1;omega
 ·obtain⟨i,hi,rfl⟩:=List.getElem_of_mem ht;have:=(h.threads i hi).name.2.1;omega
theorem k1b(p:g0a)(M:List Nat)(w0:World)(cs:LV)(hP:C1a M w0 p cs)(hp:q1a p)(hK:H3a M w0)(hM:∀g∈M,g<w0.heap.size):
 M0a prog 30 #[.agg cs.toArray] w0 fun v w'=>v=.tuple #[.int .i64 0,.int .i64 (-1),.int .i64 (-1)]∧Below w0.heap.size w0 w' :=
 (p5b p M w0 cs hP (q1a.named hp) hK hM).mono fun _ _ ⟨⟨a,b,c,h1,h2,h3⟩,hb⟩=>by
   obtain⟨rfl,rfl⟩:=h3 (h2.2 hp);obtain rfl:=h2.2 hp;exact⟨h1,hb⟩
def k1a(p:g0a):E0a:=⟨p.cells.map t2a.init,p.threads.map (fun t=>if t.asleep then -1 else 0),p.threads.map (fun _=>[])⟩
def w2a(mem:List Int)(e:J0a):List Int:=(e.cells.zip e.values).foldl (fun m x=>m.set x.1.toNat x.2) mem
def r1a(c:E0a)(t:Nat):List Int:=(c.buf.getD t []).foldl w2a c.mem
def N8a(s:List U1a)(v mem:List Int):List Int:=s.foldl (fun m a=>m.set a.cell.toNat (a.to.evl v v)) mem
def p6b(p:g0a)(s:List U1a)(v:List Int):J0a:=⟨(s.filter fun a=>K1a p.cells a.cell=-1).map U1a.cell,(s.filter fun a=>K1a p.cells a.cell=-1).map fun a=>a.to.evl v v⟩
def d1a(p:g0a)(model:Int)(c:E0a)(t:Nat)(s:p1a):Bool :=
 decide (c.at_.getD t 0=s.frm)&&(decide (s.guard.evl (r1a c t) (r1a c t)=1) &&
  (if s.kind=3 then decide (model=0∨((c.buf.getD t []).length<3∧(s.release=true→c.buf.getD t []=[])))
   else if s.kind=6 then decide (c.buf.getD t []=[]∧c.at_.getD s.target.toNat 0=-1)
   else if s.kind=7 then decide (c.buf.getD t []=[]∧c.at_.getD s.target.toNat 0=(p.threads.getD s.target.toNat ⟨ByteArray.empty,0,[],[],[],[],false⟩).points-1∧c.buf.getD s.target.toNat []=[])
   else if s.kind=1∨s.kind=2 then true else decide (c.buf.getD t []=[])))
def N9a(a b:J0a):Bool:=a.cells.any fun x=>b.cells.contains x
def e4a(model:Int)(l:List J0a)(i:Nat):Bool:=decide (i=0)||(decide (model=2)&&(List.range i).all fun k=>match l[k]?,l[i]? with|some a,some b=>!N9a a b|_,_=>true)
def f3a(p:g0a)(t:Nat):List p1a:=(p.threads.getD t ⟨ByteArray.empty,0,[],[],[],[],false⟩).steps
def Z7a(p:g0a)(model:Int)(c:E0a)(t:Nat):List d0a :=
 ((List.range (f3a p t).length).filter fun i=>match (f3a p t)[i]? with|some s=>d1a p model c t s|none=>false).map (fun(i:Nat)=>(⟨t,i,0⟩:d0a)) ++
 ((List.range (c.buf.getD t []).length).filter (e4a model (c.buf.getD t []))).map (fun(i:Nat)=>(⟨t,-1,((c.buf.getD t []).getD i ⟨[],[]⟩).cells.getD 0 0⟩:d0a))
def P0a(p:g0a)(model:Int)(c:E0a):List d0a:=(List.range p.threads.length).flatMap (Z7a p model c)
def atC(c:E0a)(t:Nat)(s:p1a):List Int:=if s.kind=6 then(c.at_.set t s.to).set s.target.toNat 0 else c.at_.set t s.to
def i7a(p:g0a)(model:Int)(c:E0a)(t:Nat)(s:p1a):E0a :=
 if s.kind=3∧model≠0 then⟨N8a (s.set.filter fun a=>K1a p.cells a.cell≠-1) (r1a c t) c.mem,atC c t s,c.buf.set t (c.buf.getD t []++[p6b p s.set (r1a c t)])⟩
 else⟨N8a s.set (r1a c t) c.mem,atC c t s,c.buf⟩
def Q4a(c:E0a)(t i:Nat):E0a:=⟨w2a c.mem ((c.buf.getD t []).getD i ⟨[],[]⟩),c.at_,c.buf.set t ((c.buf.getD t []).eraseIdx i)⟩
def doC(p:g0a)(model:Int)(c:E0a)(x:d0a):E0a :=
 if x.step=-1 then Q4a c x.thread.toNat (((c.buf.getD x.thread.toNat []).findIdx? fun e=>e.cells.getD 0 0=x.cell).getD 0)
 else match (f3a p x.thread.toNat)[x.step.toNat]? with|some s=>i7a p model c x.thread.toNat s|none=>c
section
variable {α:Type} [DecidableEq α] (succ:α→List α) (a:α)
inductive Q4b (succ:α→List α) (a:α):α→Prop
 | start:Q4b succ a a
 | next {c d:α} (h:Q4b succ a c) (hd:d∈succ c):Q4b succ a d
end
theorem Y1a{p:g0a}{m:Int}{c:E0a}{x:d0a}:x∈P0a p m c↔∃t,t<p.threads.length ∧
 ((∃(i:Nat) (s:p1a),(f3a p t)[i]?=some s∧d1a p m c t s=true∧x=⟨t,i,0⟩) ∨
  (∃i:Nat,i<(c.buf.getD t []).length∧e4a m (c.buf.getD t []) i=true∧x=⟨t,-1,((c.buf.getD t []).getD i ⟨[],[]⟩).cells.getD 0 0⟩)):=by
 unfold P0a;rw[List.mem_flatMap];constructor
 ·rintro⟨t,ht,h⟩;refine⟨t,List.mem_range.1 ht,?_⟩;unfold Z7a at h;rcases List.mem_append.1 h with h|h
  ·obtain⟨i,hi,rfl⟩:=List.mem_map.1 h;obtain⟨hi,he⟩:=List.mem_filter.1 hi
   split at he
   ·rename_i s hs;exact .inl ⟨i,s,hs,he,Z⟩
   ·cases he
  ·obtain⟨i,hi,rfl⟩:=List.mem_map.1 h;obtain⟨hi,he⟩:=List.mem_filter.1 hi;exact .inr ⟨i,List.mem_range.1 hi,he,Z⟩
 ·rintro⟨t,ht,h⟩;refine⟨t,List.mem_range.2 ht,?_⟩;unfold Z7a;rw[List.mem_append];rcases h with⟨i,s,hs,he,rfl⟩|⟨i,hi,he,rfl⟩
  ·refine .inl (List.mem_map.2 ⟨i,List.mem_filter.2 ⟨List.mem_range.2 (List.getElem?_eq_some_iff.1 hs).1,?_⟩,Z⟩);simp only[hs];exact he
  ·exact .inr (List.mem_map.2 ⟨i,List.mem_filter.2 ⟨List.mem_range.2 hi,he⟩,Z⟩)
theorem Q4b.to{α:Type}{succ a0:α→List α}{a x:α}(hx:Q4b succ a x)(h:∀c d,Q4b succ a c→Q4b a0 a c→d∈succ c→Q4b a0 a d):Q4b a0 a x:=by
 induction hx with
 | start=>exact .start
 | next hc hd ih=>exact h _ _ hc ih hd
theorem v8b{p:g0a}{m:Int}{c:E0a}{t i:Nat}{s:p1a}(hs:(f3a p t)[i]?=some s):doC p m c ⟨t,i,0⟩=i7a p m c t s:=by
 unfold doC;rw[if_neg (by simp)];simp only[Int.toNat_natCast,hs]
theorem f5c{p:g0a}(hp:q1a p){t i:Nat}{s:p1a}(ht:t<p.threads.length)(hs:(f3a p t)[i]?=some s):c7a p t (p.threads[t]).points s:=by
 have:=(hp.threads t ht).steps s;unfold f3a at hs;rw[List.getD_eq_getElem?_getD,List.getElem?_eq_getElem ht] at hs;exact this (List.mem_of_getElem? hs)
def G2c(e:J0a):List Int:=(e.cells.length:Int)::(e.cells.zip e.values).flatMap fun x=>[x.1,x.2]
def D2c(b:List J0a):List Int:=(b.length:Int)::b.flatMap G2c
def J0a.even(e:J0a):Prop:=e.values.length=e.cells.length
structure E0a.Shape (c:E0a) (n t:Nat):Prop where
 mem:c.mem.length=n
 at_:c.at_.length=t
 buf:c.buf.length=t
 even:∀b∈c.buf,∀e∈b,e.even
theorem F2b{e:E}{lim:Int}(h:e.good lim=true)(c0 b0:List Int):0≤e.val c0 b0∧e.val c0 b0<V3a e.w.toNat:=by
 obtain⟨a0,_⟩:=v3a h;have hw:e.w≤8:=a0.2.1;have hb:∀a,0≤W2b a (V3a e.w.toNat-1)∧W2b a (V3a e.w.toNat-1)<V3a e.w.toNat:=fun a=>by
  rw[K7a _ _];have:=V8a e.w.toNat;exact⟨Int.emod_nonneg _ (by omega),Int.emod_lt_of_pos _ this⟩
 rw[E.val_def];by_cases o1:e.op=1
 ·rw[if_pos o1];have:=(I7b o1).1 a0;omega
 ·rw[if_neg o1]
  split
  ·exact hb _
  ·split
   ·exact hb _
   ·exact hb _
theorem x5a{cells:List t2a}{c0:Bool}{e:E}(h:e.valid cells c0=true)(b0 a0:List Int):0≤e.evl b0 a0∧e.evl b0 a0<V3a e.w.toNat:=by
 obtain⟨h1,h2,_⟩:=q4a h;unfold E.evl;rw[if_pos h1];exact F2b h2 b0 a0
structure M6a (p:g0a) (m:List Int):Prop where
 len:m.length=p.cells.length
 vals:∀(i:Nat) (v:Int),m[i]?=some v→0≤v∧v<V3a (wAt p.cells i).toNat
theorem M6a.set{p:g0a}{m:List Int}(h:M6a p m){k:Nat}{v:Int}(hv:0≤v∧v<V3a (wAt p.cells k).toNat):M6a p (m.set k v):=by
 refine⟨by rw[List.length_set];exact h.len,fun i x hi=>?_⟩;rw[List.getElem?_set] at hi
 split at hi
 ·rename_i hk;subst hk
  split at hi
  ·cases hi;exact hv
  ·cases hi
 ·exact h.vals i x hi
structure d2b (p:g0a) (e:J0a):Prop where
 some_:e.cells≠[]
 even:e.even
 cells:∀(i:Nat) (n:Int),e.cells[i]?=some n→M1a n p.cells.length∧K1a p.cells n=-1∧h0b p.cells n=decide (0<i)
 vals:∀x∈e.cells.zip e.values,0≤x.2∧x.2<V3a (wAt p.cells x.1).toNat
 once:e.cells.Nodup
theorem M6a.write{p:g0a}{m:List Int}(h:M6a p m){e:J0a}(he:d2b p e):M6a p (w2a m e):=by
 unfold w2a;have key:∀(l:List (Int×Int)) (m:List Int),M6a p m→(∀x∈l,0≤x.1∧0≤x.2∧x.2<V3a (wAt p.cells x.1).toNat)→M6a p (l.foldl (fun m x=>m.set x.1.toNat x.2) m):=by
  intro l
  induction l with
  | nil=>intro m h _;exact h
  | cons x l ih =>
    intro m h hl;rw[List.foldl_cons];obtain⟨h0,h1⟩:=hl x (by simp);exact ih _ (h.set (by rw[Int.toNat_of_nonneg h0];exact h1)) fun y hy=>hl y (by simp[hy])
 refine key _ m h fun x hx=>?_;have b0:=List.of_mem_zip (a:=x.1) (b:=x.2) hx;obtain⟨i,hi,a0⟩:=List.getElem_of_mem b0.1;have:=he.cells i x.1 (by rw[List.getElem?_eq_getElem hi,a0]);exact⟨this.1.1,he.vals x hx⟩
theorem e1d{p:g0a}{t:Nat}{n:Int}{s:p1a}(hs:c7a p t n s)(hk:s.kind=3)(v:List Int):d2b p (p6b p s.set v):=by
 obtain⟨a,l,b0,c0,d0,hl⟩:=hs.row.k3 hk;have hf:(s.set.filter fun a=>K1a p.cells a.cell=-1)=a::l.filter fun a=>K1a p.cells a.cell=-1:=by
  rw[b0,List.filter_cons_of_pos (by simp[c0])]
 have a0:∀b∈s.set.filter fun a=>K1a p.cells a.cell=-1,b∈s.set∧K1a p.cells b.cell=-1:=fun b hb=>by
  obtain⟨h1,h2⟩:=List.mem_filter.1 hb;exact⟨h1,by simpa using h2⟩
 refine⟨?_,?_,fun i x hi=>?_,fun x hx=>?_,?_⟩
 ·unfold p6b;rw[hf];simp
 ·unfold p6b J0a.even;simp
 ·unfold p6b at hi;simp only[List.getElem?_map,Option.map_eq_some_iff] at hi;obtain⟨b,hb,rfl⟩:=hi;obtain⟨h1,h2⟩:=a0 b (List.mem_of_getElem? hb);refine⟨(hs.set b h1).1,h2,?_⟩;rw[hf] at hb;cases i with
  | zero=>simp at hb;subst hb;simpa using d0
  | succ i =>
    rw[List.getElem?_cons_succ] at hb;have:=hl b (List.mem_filter.1 (List.mem_of_getElem? hb)).1;rw[this];simp
 ·unfold p6b at hx;simp only[List.zip_map'] at hx;obtain⟨b,hb,rfl⟩:=List.mem_map.1 hx;obtain⟨h1,h2⟩:=a0 b hb;obtain⟨_,h3,h4⟩:=hs.set b h1;have:=x5a h3 v v;rw[h4] at this;exact this
 ·unfold p6b List.Nodup;simp only;rw[List.pairwise_map];exact hs.once.filter _
theorem M6a.sets{p:g0a}{v:List Int}:∀(l:List U1a) (m:List Int),M6a p m→(∀a∈l,M1a a.cell p.cells.length∧a.to.valid p.cells false=true∧a.to.w=wAt p.cells a.cell)→M6a p (N8a l v m)
 | [],_,h,_=>h
 | a::l,m,h,hl=>by
   obtain⟨h1,h2,h3⟩:=hl a (by simp);have hr:=x5a h2 v v;rw[h3] at hr;exact M6a.sets l _ (h.set (by rw[Int.toNat_of_nonneg h1.1];exact hr)) fun b hb=>hl b (by simp[hb])
structure U5a (p:g0a) (c:E0a):Prop where
 mem:M6a p c.mem
 nat:c.at_.length=p.threads.length
 atr:∀(t:Nat) (x:Int),c.at_[t]?=some x→∀th,p.threads[t]?=some th→-1≤x∧x<th.points∧(x=-1→th.asleep=true)
 nbuf:c.buf.length=p.threads.length
 bufs:∀(t:Nat) (b:List J0a),c.buf[t]?=some b→b.length≤3∧(∀e∈b,d2b p e)∧(c.at_[t]?=some (-1)→b=[])
theorem A9a{p:g0a}(hp:q1a p):U5a p (k1a p):=by
 refine⟨⟨by simp[k1a],fun i v hi=>?_⟩,by simp[k1a],fun t x hx th a0=>?_,by simp[k1a],fun t b hb=>?_⟩
 ·simp only[k1a,List.getElem?_map,Option.map_eq_some_iff] at hi;obtain⟨c,hc,rfl⟩:=hi;have h:=(hp.cells c (List.mem_of_getElem? hc)).init;have hw:wAt p.cells i=c.w:=by unfold wAt;simp[hc]
  rw[hw];exact h
 ·simp only[k1a,List.getElem?_map,a0,Option.map_some,Option.some.injEq] at hx;have b0:=(List.getElem?_eq_some_iff.1 a0).1;have he:=(List.getElem?_eq_some_iff.1 a0).2;have h:=(hp.threads t b0).points;rw[he] at h;subst hx;cases ha:th.asleep with
  | true=>simp;omega
  | false=>simp;omega
 ·simp only[k1a,List.getElem?_map,Option.map_eq_some_iff] at hb;obtain⟨_,_,rfl⟩:=hb;simp
theorem k7b{c:E0a}{t:Nat}{s:p1a}{u:Nat}{x:Int}(h:(atC c t s)[u]?=some x):(u≠t∧c.at_[u]?=some x)∨(u=t∧x=s.to)∨(s.kind=6∧u=s.target.toNat∧x=0):=by
 have key:∀x,(c.at_.set t s.to)[u]?=some x→(u≠t∧c.at_[u]?=some x)∨(u=t∧x=s.to):=fun x h=>by
  rw[List.getElem?_set] at h
  split at h
  ·rename_i hh
   split at h
   ·cases h;exact .inr ⟨hh.symm,Z⟩
   ·cases h
  ·rename_i hh;exact .inl ⟨fun e=>hh e.symm,h⟩
 unfold atC at h
 split at h
 ·rename_i hk;rw[List.getElem?_set] at h
  split at h
  ·rename_i hh
   split at h
   ·cases h;exact .inr (.inr ⟨hk,hh.symm,Z⟩)
   ·cases h
  ·rcases key x h with h|h
   ·exact .inl h
   ·exact .inr (.inl h)
 ·rcases key x h with h|h
  ·exact .inl h
  ·exact .inr (.inl h)
theorem E6a(c:E0a)(t:Nat)(s:p1a):(atC c t s).length=c.at_.length:=by
 unfold atC;split<;>simp
theorem V3b{p:g0a}(hp:q1a p){t:Nat}{th:i1a}(h:p.threads[t]?=some th):1≤th.points:=by
 obtain⟨a0,rfl⟩:=List.getElem?_eq_some_iff.1 h;exact(hp.threads t a0).points.1
theorem L6c{p:g0a}(hp:q1a p){c:E0a}(hf:U5a p c){t:Nat}{s:p1a}(ht:t<p.threads.length)(hs:c7a p t (p.threads[t]).points s):
 ∀(u:Nat) (x:Int),(atC c t s)[u]?=some x→∀th,p.threads[u]?=some th→-1≤x∧x<th.points∧(x=-1→th.asleep=true):=by
 intro u x hx th a0;rcases k7b hx with⟨_,h⟩|⟨rfl,rfl⟩|⟨_,_,rfl⟩
 ·exact hf.atr u x h th a0
 ·obtain⟨_,rfl⟩:=List.getElem?_eq_some_iff.1 a0;have:=hs.to;omega
 ·have:=V3b hp a0;omega
theorem Y4c{p:g0a}(hp:q1a p){m:Int}{c:E0a}(hf:U5a p c){t i:Nat}{s:p1a}(ht:t<p.threads.length)(hs:(f3a p t)[i]?=some s)(he:d1a p m c t s=true):U5a p (i7a p m c t s):=by
 have hok:=f5c hp ht hs;have a0:∀u b,c.buf[u]?=some b→(atC c t s)[u]?=some (-1)→b=[]:=fun u b hb hu=>by
  rcases k7b hu with⟨_,h⟩|⟨rfl,h⟩|⟨_,_,h⟩
  ·exact(hf.bufs u b hb).2.2 h
  ·have:=hok.to;omega
  ·omega
 unfold i7a
 split
 ·rename_i hk;have hlen:(c.buf.getD t []).length<3:=by
   unfold d1a at he;simp only[Bool.and_eq_true,if_pos hk.1,decide_eq_true_eq] at he;rcases he.2.2 with h|h
   ·exact absurd h hk.2
   ·exact h.1
  have c0:t<c.buf.length:=by rw[hf.nbuf];exact ht
  have hb:=hf.bufs t (c.buf.getD t []) (by rw[List.getD_eq_getElem?_getD,List.getElem?_eq_getElem c0];rfl);refine⟨M6a.sets _ _ hf.mem (fun a ha=>hok.set a (List.mem_filter.1 ha).1),by simp only[E6a];exact hf.nat,L6c hp hf ht hok,by simp only[List.length_set];exact hf.nbuf,fun u b hu=>?_⟩;simp only[List.getElem?_set] at hu
  split at hu
  ·rename_i d0;subst d0;cases hu;refine⟨by rw[List.length_append,List.length_singleton];omega,fun e b0=>?_,fun hu=>?_⟩
   ·rcases List.mem_append.1 b0 with h|h
    ·exact hb.2.1 e h
    ·rw[List.mem_singleton.1 h];exact e1d hok hk.1 _
   ·exfalso;rcases k7b hu with⟨h,_⟩|⟨_,h⟩|⟨_,_,h⟩
    ·exact h Z
    ·have:=hok.to;omega
    ·omega
  ·exact⟨(hf.bufs u b hu).1,(hf.bufs u b hu).2.1,a0 u b hu⟩
 ·exact⟨M6a.sets _ _ hf.mem (fun a ha=>hok.set a ha),by simp only[E6a];exact hf.nat,L6c hp hf ht hok,hf.nbuf,fun u b hu=>⟨(hf.bufs u b hu).1,(hf.bufs u b hu).2.1,a0 u b hu⟩⟩
theorem M9a{p:g0a}{c:E0a}(hf:U5a p c)(t i:Nat):U5a p (Q4a c t i):=by
 unfold Q4a;refine⟨?_,hf.nat,hf.atr,by simp only[List.length_set];exact hf.nbuf,fun u b hu=>?_⟩
 ·by_cases a0:t<c.buf.length
  ·have hb:=hf.bufs t (c.buf.getD t []) (by rw[List.getD_eq_getElem?_getD,List.getElem?_eq_getElem a0];rfl);by_cases hi:i<(c.buf.getD t []).length
   ·rw[List.getD_eq_getElem?_getD (i:=i),List.getElem?_eq_getElem hi];exact hf.mem.write (hb.2.1 _ (List.getElem_mem hi))
   ·rw[List.getD_eq_getElem?_getD (i:=i),List.getElem?_eq_none (by omega)];exact hf.mem
  ·have h0:c.buf.getD t []=[]:=by rw[List.getD_eq_getElem?_getD,List.getElem?_eq_none (by omega)];rfl
   rw[h0];exact hf.mem
 ·simp only[List.getElem?_set] at hu
  split at hu
  ·rename_i b0;subst b0
   split at hu
   ·rename_i a0;cases hu;have hb:=hf.bufs t (c.buf.getD t []) (by rw[List.getD_eq_getElem?_getD,List.getElem?_eq_getElem a0];rfl);refine⟨Nat.le_trans (List.length_eraseIdx_le _ _) hb.1,fun e he=>hb.2.1 e (List.mem_of_mem_eraseIdx he),fun h=>?_⟩;rw[hb.2.2 h];rfl
   ·cases hu
  ·exact hf.bufs u b hu
theorem Y5b{p:g0a}(hp:q1a p){m:Int}{c:E0a}(hf:U5a p c){x:d0a}(hx:x∈P0a p m c):U5a p (doC p m c x):=by
 obtain⟨_,ht,h|h⟩:=Y1a.1 hx
 ·obtain⟨i,_,hs,he,rfl⟩:=h;rw[v8b hs];exact Y4c hp hf ht hs he
 ·obtain⟨i,_,he,rfl⟩:=h;unfold doC;rw[if_pos rfl];exact M9a hf _ _
theorem v9a:∀(n:Nat) (l:List Int),l.Nodup→(∀x∈l,0≤x∧x<n)→l.length≤n
 | 0,l,_,h=>by
   cases l with
   | nil=>simp
   | cons x l=>have:=h x (by simp);omega
 | n+1,l,hd,h=>by
   by_cases hn:(n:Int)∈l
   ·have h1:=v9a n (l.erase (n:Int)) (hd.erase _) (fun x hx=>by
     obtain⟨_,h3⟩:=(hd.mem_erase_iff).1 hx;have:=h x h3;omega)
    rw[List.length_erase_of_mem hn] at h1;omega
   ·have h1:=v9a n l hd (fun x hx=>by
     have:=h x hx;have:x≠(n:Int):=fun e=>hn (e▸hx);omega)
    omega
theorem d2b.len{p:g0a}{e:J0a}(h:d2b p e):e.cells.length≤p.cells.length :=
 v9a _ _ h.once fun x hx=>by
  obtain⟨i,hi,rfl⟩:=List.getElem_of_mem hx;exact(h.cells i _ (List.getElem?_eq_getElem hi)).1
theorem X1d{p:g0a}(hp:q1a p)(x:Int):wAt p.cells x≤8:=by
 unfold wAt
 split
 ·cases h:p.cells[x.toNat]? with
  | none=>simp
  | some c=>simpa using(hp.cells c (List.mem_of_getElem? h)).w.2
 ·omega
theorem v0b{p:g0a}(hp:q1a p)(x:Int):V3a (wAt p.cells x).toNat≤256:=by
 have h:=X1d hp x;have h2:(2:Nat) ^ (wAt p.cells x).toNat≤2 ^ 8:=Nat.pow_le_pow_right (by omega) (by omega);rw[G2a];omega
theorem T9b{p:g0a}(hp:q1a p){c:E0a}(hf:U5a p c):(∀x∈c.mem,0≤x∧x≤255)∧(∀x∈c.at_,-1≤x∧x≤47)∧∀x∈c.buf.flatMap D2c,0≤x∧x≤255:=by
 refine⟨fun x hx=>?_,fun x hx=>?_,fun x hx=>?_⟩
 ·obtain⟨i,hi,rfl⟩:=List.getElem_of_mem hx;have:=hf.mem.vals i _ (List.getElem?_eq_getElem hi);have:=v0b hp i;omega
 ·obtain⟨t,ht,rfl⟩:=List.getElem_of_mem hx;have a0:t<p.threads.length:=by rw[←hf.nat];exact ht
  have h1:=hf.atr t _ (List.getElem?_eq_getElem ht) _ (List.getElem?_eq_getElem a0);have h2:=(hp.threads t a0).points;omega
 ·obtain⟨b,hb,hx⟩:=List.mem_flatMap.1 hx;obtain⟨t,ht,rfl⟩:=List.getElem_of_mem hb;obtain⟨h1,h2,_⟩:=hf.bufs t _ (List.getElem?_eq_getElem ht);unfold D2c at hx;rcases List.mem_cons.1 hx with rfl|hx
  ·omega
  ·obtain⟨e,he,hx⟩:=List.mem_flatMap.1 hx;have hE:=h2 e he;unfold G2c at hx;rcases List.mem_cons.1 hx with rfl|hx
   ·have:=hE.len;have:=hp.ncells;omega
   ·obtain⟨y,hy,hx⟩:=List.mem_flatMap.1 hx;have h3:=hE.vals y hy;have h4:=v0b hp y.1;obtain⟨i,hi,b0⟩:=List.getElem_of_mem (List.of_mem_zip (a:=y.1) (b:=y.2) hy).1;have h5:=(hE.cells i y.1 (by rw[List.getElem?_eq_getElem hi,b0])).1;have h6:=hp.ncells;obtain⟨_,_⟩:=h5;simp only[List.mem_cons,List.not_mem_nil,or_false] at hx;rcases hx with rfl|rfl<;>omega
section
variable {M:List Nat} {w:World}
theorem B0a.open_{c:E0a}{cs:LV}(h:B0a M w c cs):∃Am nm cm Aa na ca Ab nb cb,cs=[.slice Am nm cm,.slice Aa na ca,.slice Ab nb cb] ∧
 RdI M w (.slice Am nm cm) c.mem∧RdI M w (.slice Aa na ca) c.at_∧V0d M w (.slice Ab nb cb) c.buf ∧
 nm=c.mem.length∧na=c.at_.length∧nb=c.buf.length∧nm≤140737488355328∧na≤140737488355328∧nb≤140737488355328:=by
 obtain⟨_,_,_,rfl,h1,h2,h3⟩:=h;obtain⟨Am,nm,cm,rfl⟩:=h1.form;obtain⟨Aa,na,ca,rfl⟩:=h2.form;obtain⟨Ab,nb,cb,rfl⟩:=h3.form;exact⟨_,_,_,_,_,_,_,_,_,Z,h1,h2,h3,h1.len.1,h2.len.1,h3.len.1,h1.len.2.2,h2.len.2.2,h3.len.2.2⟩
theorem V4a.open_{b:List J0a}{cs:LV}(h:V4a M w cs b):∃A n c,cs=[.slice A n c]∧W5c M w (.slice A n c) b∧n=b.length∧n≤140737488355328:=by
 obtain⟨_,rfl,h1⟩:=h;obtain⟨A,n,c,rfl⟩:=h1.form;exact⟨_,_,_,Z,h1,h1.len.1,h1.len.2.2⟩
theorem Q0a.open_{e:J0a}{cs:LV}(h:Q0a M w cs e):∃Ac nc cc Av nv cv,cs=[.slice Ac nc cc,.slice Av nv cv]∧RdI M w (.slice Ac nc cc) e.cells∧RdI M w (.slice Av nv cv) e.values∧nc=e.cells.length∧nv=e.values.length∧nc≤140737488355328∧nv≤140737488355328:=by
 obtain⟨_,_,rfl,h1,h2⟩:=h;obtain⟨Ac,nc,cc,rfl⟩:=h1.form;obtain⟨Av,nv,cv,rfl⟩:=h2.form;exact⟨_,_,_,_,_,_,Z,h1,h2,h1.len.1,h2.len.1,h1.len.2.2,h2.len.2.2⟩
end
theorem w3d{cells:List t2a}{k:Nat}{c:t2a}(h:cells[k]?=some c):wAt cells (k:Int)=c.w:=W4a (by simpa using h)
structure InP (p:g0a) (M:List Nat) (w:World) (cs:LV):Prop where
 rd:C1a M w p cs
 ok:q1a p
 msk:H3a M w
 lt:∀g∈M,g<w.heap.size
theorem InP.keep{p:g0a}{M:List Nat}{w w':World}{cs:LV}(h:InP p M w cs)(hk:A0a M w w'):InP p M w' cs :=
 ⟨h.rd.keep hk,h.ok,h.msk.keep hk,fun g hg=>Nat.lt_of_lt_of_le (h.lt g hg) hk.size⟩
theorem X3b{w0 w:World}{L:List Ent}{g t k:Nat}{cs:LV}{M:List Nat}(S:St [] w0 w L)(hk:L[k]?=some (some g,t,cs)):∀x∈g::M,x∈M∨w0.heap.size≤x:=fun x hx=>by
 rcases List.mem_cons.1 hx with rfl|h
 ·rcases S.new k hk with h|h
  ·exact .inr h
  ·cases h
 ·exact .inl h
theorem InP.add{p:g0a}{M:List Nat}{w0 w:World}{cs:LV}(h:InP p M w0 cs){L:List Ent}{g t k:Nat}{a0:LV}(S:St [] w0 w L)(hk:L[k]?=some (some g,t,a0)):InP p (g::M) w cs :=
 ⟨(h.rd.more (X3b S hk)).keep (S.keep0 _),h.ok,(h.msk.more (X3b S hk)).keep (S.keep0 _),fun x hx=>by
   rcases List.mem_cons.1 hx with rfl|hx
   ·exact S.lt k hk
   ·exact Nat.lt_of_lt_of_le (h.lt x hx) S.size⟩
theorem B0a.add{c:E0a}{M:List Nat}{w0 w:World}{cs:LV}(h:B0a M w0 c cs){L:List Ent}{g t k:Nat}{a0:LV}(S:St [] w0 w L)(hk:L[k]?=some (some g,t,a0)):B0a (g::M) w c cs :=
 (h.more (X3b S hk)).keep (S.keep0 _)
section
variable {H:Type} {enc:TypeId×Value→H} {P:Program} {W:World} {base:Nat} {sp:Nat→Bool} {held:Bool}
def h4a(P:Program)(t:TypeId)(d:DataW H):Prop:=∀m∈d.weights P t,m≤reachBytes
theorem y3a{n:Int}(h:(Lit.int .i64 n).wf=true):i64 n:=by
 simp[Lit.wf,IntKind.min,IntKind.max,IntKind.signed,IntKind.bits] at h;exact h
theorem D1c{a:Addr}{v:Value}(h:W.cell? a=some v):a=⟨a.block,a.off,none⟩:=by
 obtain⟨_,_,s⟩:=a;cases s with
 | none=>rfl
 | some x=>unfold World.cell? at h;split at h<;>simp at h
theorem o5b{e:TypeId}{l:List (DataW H)}{i:Nat}{d:DataW H}(hi:l[i]?=some d):∀m∈d.weights P e,m∈DataW.weightsAll P e l:=by
 induction l generalizing i with
 | nil=>simp at hi
 | cons x xs ih =>
   intro m hm;rw[DataW.weightsAll];cases i with
   | zero=>simp at hi;subst hi;exact List.mem_append_left _ hm
   | succ i=>exact List.mem_append_right _ (ih (by simpa using hi) m hm)
theorem h3a{α:Type}{size t e:Nat}{fuel:Nat}{R:LV→α→Prop}{v:Value}{x:DataW H×List MemPlace}(ht:P.underlying t=some (.slice e))(hc:P.cellsOf e=size)(hby:1≤P.bytesOf e)
 (m0:∀(n:Nat) (cs:LV) (y:DataW H×List MemPlace),n<fuel→cs.length=size→DataW.trod enc P W base sp held n e cs=some y→h4a P e y.1→∃a,R cs a)
 (h:DataW.trod enc P W base sp held fuel t [v]=some x) (hw:h4a P t x.1) (hs:0<size:=by omega):∃l,RdS [] W size R v l:=by
 rcases DataW.trod_slice ht h with⟨h1,h2⟩|⟨a,len,f0,b0,rest,n,hf,h1,h2,hb,hl,hm,hlen,e0,-,-⟩
 ·cases h1;exact⟨[],none,0,0,Z,Z,Nat.le_refl _,by unfold maxLen;omega,by omega,fun h=>absurd h (by omega)⟩
 ·cases h1;have j0:h4a P t (.slice (b0.map (·.1)) (rest.map (·.1))):=by rw[h2] at hw;exact hw
  have d0:len≤140737488355328:=by
   have:=j0 ((b0.length+rest.length)*P.bytesOf e) (by rw[DataW.weights,ht];simp);have h3:len*1≤(b0.length+rest.length)*P.bytesOf e:=Nat.mul_le_mul (by omega) hby;unfold reachBytes at this;omega
  have each:∀i,i<len→∃cs q,cs.length=size∧R cs q∧∀j,j<size→W.cell? ((a.add (i*size)).add j)=cs[j]?:=by
   intro i hi;have hg:=e0 i hi;have i0:i<b0.length:=by omega
   rw[List.getElem?_eq_getElem i0,Option.bind_eq_some_iff] at hg;obtain⟨cs,g0,q0⟩:=hg;rw[hc] at g0;obtain⟨-,c0,a0⟩:=World.cells?_some g0;obtain⟨q,hq⟩:=m0 n cs _ (by omega) c0 q0 (fun m p0=>by
    refine j0 m ?_;rw[DataW.weights,ht];refine List.mem_cons_of_mem _ (List.mem_append_left _ (o5b (i:=i) ?_ m p0));rw[List.getElem?_map,List.getElem?_eq_getElem i0];rfl)
   exact⟨cs,q,c0,hq,a0⟩
  by_cases h0:len=0
  ·subst h0;exact⟨[],some a,0,f0,Z,Z,hl,hm,by omega,fun h=>absurd h (by omega)⟩
  ·have ha:a=⟨a.block,a.off,none⟩:=by
    obtain⟨cs,q,c0,_,a0⟩:=each 0 (by omega);have:=a0 0 (by omega);rw[List.getElem?_eq_getElem (by omega)] at this;simp only[Nat.zero_mul,Addr.add_zero'] at this;exact D1c this
   let f:Fin len→α:=fun i=>Classical.choose (Classical.choose_spec (each i.1 i.2))
   have n0:∀i:Fin len,∃cs:LV,cs.length=size∧R cs (f i)∧∀j,j<size→W.cell? ((a.add (i.1*size)).add j)=cs[j]?:=fun i =>
    ⟨Classical.choose (each i.1 i.2),Classical.choose_spec (Classical.choose_spec (each i.1 i.2))⟩
   refine⟨List.ofFn f,some a,len,f0,Z,by simp,hl,hm,d0,fun _=>⟨a.block,a.off,by rw[←ha],by simp,fun i x hx=>?_⟩⟩;have hi:i<len:=by have:=(List.getElem?_eq_some_iff.1 hx).1;simpa using this
   have r0:x=f ⟨i,hi⟩:=by
    rw[List.getElem?_eq_getElem (by simpa using hi)] at hx;simp at hx;exact hx.symm
   obtain⟨cs,c0,hR,a0⟩:=n0 ⟨i,hi⟩;refine⟨cs,c0,fun j u hj=>?_,by rw[r0];exact hR⟩;have o0:j<size:=by have:=(List.getElem?_eq_some_iff.1 hj).1;omega
   have:=a0 j o0;rw[hj] at this;rw[ha] at this;rw[Addr.add_lit,Addr.add_lit] at this;exact this
theorem Z4b{t:TypeId}{fs:Array Field}{xs:List (DataW H×List MemPlace)}{i:Nat}{f:Field}{y:DataW H×List MemPlace}(ht:P.underlying t=some (.struct fs))(hw:h4a P t (.agg (xs.map (·.1))))(hf:fs[i]?=some f)(hy:xs[i]?=some y):h4a P f.type y.1:=fun m hm=>by
 refine hw m ?_;rw[DataW.weights,ht];refine DataW.weights_mem_each (j:=i) (t:=f.type) (d:=y.1) ?_ ?_ m hm
 ·rw[List.getElem?_map];simp[hf]
 ·rw[List.getElem?_map,hy];rfl
theorem d4d{l:LV}(h:l.length=3):∃a0 a1 a2,l=[a0,a1,a2]:=by
 match l,h with
 | [a0,a1,a2],_=>exact⟨a0,a1,a2,Z⟩
theorem U3d{l:LV}(h:l.length=4):∃a0 a1 a2 a3,l=[a0,a1,a2,a3]:=by
 match l,h with
 | [a0,a1,a2,a3],_=>exact⟨a0,a1,a2,a3,Z⟩
theorem W3d{l:LV}(h:l.length=5):∃a0 a1 a2 a3 a4,l=[a0,a1,a2,a3,a4]:=by
 match l,h with
 | [a0,a1,a2,a3,a4],_=>exact⟨a0,a1,a2,a3,a4,Z⟩
theorem L3d{l:LV}(h:l.length=6):∃a0 a1 a2 a3 a4 a5,l=[a0,a1,a2,a3,a4,a5]:=by
 match l,h with
 | [a0,a1,a2,a3,a4,a5],_=>exact⟨a0,a1,a2,a3,a4,a5,Z⟩
theorem X3d{l:LV}(h:l.length=7):∃a0 a1 a2 a3 a4 a5 a6,l=[a0,a1,a2,a3,a4,a5,a6]:=by
 match l,h with
 | [a0,a1,a2,a3,a4,a5,a6],_=>exact⟨a0,a1,a2,a3,a4,a5,a6,Z⟩
theorem A2d{l:LV}(h:l.length=11):∃a0 a1 a2 a3 a4 a5 a6 a7 a8 a9 b0,l=[a0,a1,a2,a3,a4,a5,a6,a7,a8,a9,b0]:=by
 match l,h with
 | [a0,a1,a2,a3,a4,a5,a6,a7,a8,a9,b0],_=>exact⟨a0,a1,a2,a3,a4,a5,a6,a7,a8,a9,b0,Z⟩
theorem U0a{t:TypeId}{fs:Array Field}{cs:LV}{xs:List (DataW H×List MemPlace)}{n:Nat}(i ty c0:Nat)(hlen:xs.length=fs.size)(b0:∀(i:Nat) (f:Field),fs[i]?=some f→DataW.trod enc P W base sp held n f.type ((cs.drop f.offset).take (P.cellsOf f.type))=xs[i]?)(ht:P.underlying t=some (.struct fs))(hw:h4a P t (.agg (xs.map (·.1))))(hf:(fs[i]?).map (fun f=>(f.type,f.offset))=some (ty,c0)):
 ∃y,DataW.trod enc P W base sp held n ty ((cs.drop c0).take (P.cellsOf ty))=some y∧h4a P ty y.1:=by
 cases a0:fs[i]? with
 | none=>rw[a0] at hf;cases hf
 | some f =>
   rw[a0] at hf;simp only[Option.map_some,Option.some.injEq,Prod.mk.injEq] at hf;obtain⟨rfl,rfl⟩:=hf;have hi:i<xs.length:=by rw[hlen];exact(Array.getElem?_eq_some_iff.1 a0).1
   exact⟨xs[i],by rw[b0 i f a0,List.getElem?_eq_getElem hi],Z4b ht hw a0 (List.getElem?_eq_getElem hi)⟩
end
section
variable {H:Type} {enc:TypeId×Value→H} {W:World} {base:Nat} {sp:Nat→Bool} {held:Bool}
theorem s9b{t:TypeId}{s:ByteArray}{y:DataW H×List MemPlace}(hx:y=(.lit (.string s.data.toList),[]))(hw:h4a prog t y.1):s.size≤140737488355328:=by
 have h:=hw s.data.toList.length (by rw[hx];exact List.mem_singleton.2 Z);have e:s.data.toList.length=s.size:=Array.length_toList;unfold reachBytes at h;omega
theorem n7b{α:Type}{M:List Nat}{w:World}{size:Nat}{R:LV→α→Prop}{Q:α→Prop}{v:Value}{l:List α}(h:RdS M w size R v l)(hq:∀cs x,R cs x→Q x):∀x∈l,Q x:=fun x hx=>by
 obtain⟨_,_,_,rfl⟩:=h.form;obtain⟨i,hi⟩:=List.mem_iff_getElem?.1 hx;obtain⟨_,_,_,cs,h1,-,-,-,-,h2⟩:=RdS.get h i (List.getElem?_eq_some_iff.1 hi).1;rw[hi] at h1;cases h1;exact hq _ _ h2
theorem r2b:prog.cellsOf 3=1:=by kernel_rfl
theorem e8b:prog.cellsOf 4=1:=by kernel_rfl
theorem x2b:prog.cellsOf 9=1:=by kernel_rfl
theorem c3:prog.cellsOf 3=1:=by kernel_rfl
theorem s2d:prog.cellsOf 36=1:=by kernel_rfl
theorem L0d:prog.cellsOf 38=4:=by kernel_rfl
theorem F2d:1≤prog.bytesOf 38:=of_decide_eq_true (by kernel_rfl)
theorem c4d:1≤prog.bytesOf 3:=of_decide_eq_true (by kernel_rfl)
theorem n5a:∀(fuel:Nat) (cs:LV) (x:DataW H×List MemPlace),DataW.trod enc prog W base sp held fuel 38 cs=some x→h4a prog 38 x.1→∃e,RdE [] W e cs:=by
 intro fuel
 induction fuel using Nat.strongRecOn with
 | _ fuel ih =>
 intro cs x h hw;obtain⟨_,_,_,hx,hl,hlen,a0⟩:=DataW.trod_struct Tryz.underlying38 h;rw[hx] at hw;rw[L0d] at hl;obtain⟨_,t0,-⟩:=U0a 0 3 0 hlen a0 Tryz.underlying38 hw Z;obtain⟨_,t1,-⟩:=U0a 1 3 1 hlen a0 Tryz.underlying38 hw Z;obtain⟨_,t2,-⟩:=U0a 2 3 2 hlen a0 Tryz.underlying38 hw Z;obtain⟨_,t3,w3⟩:=U0a 3 36 3 hlen a0 Tryz.underlying38 hw Z;simp only[c3,s2d] at t0 t1 t2 t3;obtain⟨_,_,_,_,rfl⟩:=U3d hl;simp only[List.drop_succ_cons,List.drop_zero,List.take_succ_cons,List.take_zero] at t0 t1 t2 t3;obtain⟨m0,e0,-,f0⟩:=DataW.trod_int Tryz.underlying3 t0;obtain⟨m1,e1,-,f1⟩:=DataW.trod_int Tryz.underlying3 t1;obtain⟨m2,e2,-,f2⟩:=DataW.trod_int Tryz.underlying3 t2;cases e0;cases e1;cases e2;obtain⟨ks,j0⟩:=h3a (R:=fun cs e=>RdE [] W e cs) Tryz.underlying36 L0d F2d (fun k cs y hk _ hy hl=>ih k (by omega) cs y hy hl) t3 w3;obtain⟨A,k,c,rfl,hk,i0,g0,b0,c0⟩:=j0;refine⟨⟨m0,m1,m2,ks⟩,?_⟩;rw[RdE];refine⟨A,k,c,Z,y3a f0,y3a f1,y3a f2,hk,i0,g0,b0,fun h0=>?_⟩;obtain⟨b,o,hA,hb,c0⟩:=c0 h0;refine⟨b,o,hA,hb,fun i hi=>?_⟩;obtain⟨d0,-,hc,hr⟩:=c0 i ks[i] (List.getElem?_eq_getElem hi);exact⟨d0,hc,hr⟩
theorem o0b{fuel:Nat}{v:Value}{x:DataW H×List MemPlace}(h:DataW.trod enc prog W base sp held fuel 48 [v]=some x)(hw:h4a prog 48 x.1):∃l,RdI [] W v l :=
 h3a Tryz.underlying48 c3 c4d (fun n cs y _ _ hy _=>by
  obtain⟨m,e,-,f⟩:=DataW.trod_int Tryz.underlying3 hy;exact⟨m,e,y3a f⟩) h hw
theorem x0c{fuel:Nat}{v:Value}{x:DataW H×List MemPlace}(h:DataW.trod enc prog W base sp held fuel 36 [v]=some x)(hw:h4a prog 36 x.1):∃l,k7c [] W v l :=
 h3a Tryz.underlying36 L0d F2d (fun n cs y _ _ hy hl=>n5a n cs y hy hl) h hw
theorem p5a:prog.cellsOf 82=6:=by kernel_rfl
theorem J1c{fuel:Nat}{cs:LV}{x:DataW H×List MemPlace}(h:DataW.trod enc prog W base sp held fuel 82 cs=some x)(hw:h4a prog 82 x.1):∃c,U2a cs c∧c.name.size≤140737488355328:=by
 obtain⟨_,_,_,hx,hl,hlen,a0⟩:=DataW.trod_struct Tryz.underlying82 h;rw[hx] at hw;rw[p5a] at hl;obtain⟨_,t0,w0⟩:=U0a 0 9 0 hlen a0 Tryz.underlying82 hw Z;obtain⟨_,t1,-⟩:=U0a 1 3 1 hlen a0 Tryz.underlying82 hw Z;obtain⟨_,t2,-⟩:=U0a 2 3 2 hlen a0 Tryz.underlying82 hw Z;obtain⟨_,t3,-⟩:=U0a 3 3 3 hlen a0 Tryz.underlying82 hw Z;obtain⟨_,t4,-⟩:=U0a 4 4 4 hlen a0 Tryz.underlying82 hw Z;obtain⟨_,t5,-⟩:=U0a 5 3 5 hlen a0 Tryz.underlying82 hw Z;simp only[x2b,r2b,e8b] at t0 t1 t2 t3 t4 t5;obtain⟨_,_,_,_,_,_,rfl⟩:=L3d hl;simp only[List.drop_succ_cons,List.drop_zero,List.take_succ_cons,List.take_zero] at t0 t1 t2 t3 t4 t5;obtain⟨m0,e0,s0,-⟩:=DataW.trod_string Tryz.underlying9 t0;obtain⟨m1,e1,-,f1⟩:=DataW.trod_int Tryz.underlying3 t1;obtain⟨m2,e2,-,f2⟩:=DataW.trod_int Tryz.underlying3 t2;obtain⟨m3,e3,-,f3⟩:=DataW.trod_int Tryz.underlying3 t3;obtain⟨m4,e4,-⟩:=DataW.trod_bool Tryz.underlying4 t4;obtain⟨m5,e5,-,f5⟩:=DataW.trod_int Tryz.underlying3 t5;cases e0;cases e1;cases e2;cases e3;cases e4;cases e5;exact⟨⟨m0,m1,m2,m3,m4,m5⟩,⟨Z,y3a f1,y3a f2,y3a f3,y3a f5⟩,s9b s0 w0⟩
theorem J3d:1≤prog.bytesOf 82:=of_decide_eq_true (by kernel_rfl)
theorem w0c{fuel:Nat}{v:Value}{x:DataW H×List MemPlace}(h:DataW.trod enc prog W base sp held fuel 22 [v]=some x)(hw:h4a prog 22 x.1):∃l,u7c [] W v l∧∀c∈l,c.name.size≤140737488355328:=by
 obtain⟨l,hl⟩:=h3a Tryz.underlying22 p5a J3d (fun n cs y _ _ hy hl=>J1c hy hl) h hw;exact⟨l,hl.mono (fun _ _ h=>h.1),n7b hl (fun _ _ h=>h.2)⟩
theorem o2a:prog.cellsOf 38=4:=by kernel_rfl
theorem H4a:prog.cellsOf 63=5:=by kernel_rfl
theorem Y7b{fuel:Nat}{cs:LV}{x:DataW H×List MemPlace}(h:DataW.trod enc prog W base sp held fuel 63 cs=some x)(hw:h4a prog 63 x.1):∃c,b1a [] W cs c:=by
 obtain⟨_,_,_,hx,hl,hlen,a0⟩:=DataW.trod_struct Tryz.underlying63 h;rw[hx] at hw;rw[H4a] at hl;obtain⟨_,t0,-⟩:=U0a 0 3 0 hlen a0 Tryz.underlying63 hw Z;obtain⟨_,t1,w1⟩:=U0a 1 38 1 hlen a0 Tryz.underlying63 hw Z;simp only[r2b,o2a] at t0 t1;obtain⟨_,_,_,_,_,rfl⟩:=W3d hl;simp only[List.drop_succ_cons,List.drop_zero,List.take_succ_cons,List.take_zero] at t0 t1;obtain⟨m0,e0,-,f0⟩:=DataW.trod_int Tryz.underlying3 t0;obtain⟨x1,h1⟩:=n5a _ _ _ t1 w1;cases e0;exact⟨⟨m0,x1⟩,_,Z,y3a f0,h1⟩
theorem E7c:1≤prog.bytesOf 63:=of_decide_eq_true (by kernel_rfl)
theorem s5b{fuel:Nat}{v:Value}{x:DataW H×List MemPlace}(h:DataW.trod enc prog W base sp held fuel 59 [v]=some x)(hw:h4a prog 59 x.1):∃l,X8c [] W v l :=
 h3a Tryz.underlying59 H4a E7c (fun n cs y _ _ hy hl=>Y7b hy hl) h hw
theorem L4b:prog.cellsOf 59=1:=by kernel_rfl
theorem s5a:prog.cellsOf 61=11:=by kernel_rfl
theorem L0c{fuel:Nat}{cs:LV}{x:DataW H×List MemPlace}(h:DataW.trod enc prog W base sp held fuel 61 cs=some x)(hw:h4a prog 61 x.1):∃c,D1a [] W cs c:=by
 obtain⟨_,_,_,hx,hl,hlen,a0⟩:=DataW.trod_struct Tryz.underlying61 h;rw[hx] at hw;rw[s5a] at hl;obtain⟨_,t0,-⟩:=U0a 0 3 0 hlen a0 Tryz.underlying61 hw Z;obtain⟨_,t1,-⟩:=U0a 1 3 1 hlen a0 Tryz.underlying61 hw Z;obtain⟨_,t2,-⟩:=U0a 2 3 2 hlen a0 Tryz.underlying61 hw Z;obtain⟨_,t3,w3⟩:=U0a 3 38 3 hlen a0 Tryz.underlying61 hw Z;obtain⟨_,t4,w4⟩:=U0a 4 59 7 hlen a0 Tryz.underlying61 hw Z;obtain⟨_,t5,-⟩:=U0a 5 4 8 hlen a0 Tryz.underlying61 hw Z;obtain⟨_,t6,-⟩:=U0a 6 3 9 hlen a0 Tryz.underlying61 hw Z;obtain⟨_,t7,-⟩:=U0a 7 3 10 hlen a0 Tryz.underlying61 hw Z;simp only[r2b,o2a,L4b,e8b] at t0 t1 t2 t3 t4 t5 t6 t7;obtain⟨_,_,_,_,_,_,_,_,_,_,_,rfl⟩:=A2d hl;simp only[List.drop_succ_cons,List.drop_zero,List.take_succ_cons,List.take_zero] at t0 t1 t2 t3 t4 t5 t6 t7;obtain⟨m0,e0,-,f0⟩:=DataW.trod_int Tryz.underlying3 t0;obtain⟨m1,e1,-,f1⟩:=DataW.trod_int Tryz.underlying3 t1;obtain⟨m2,e2,-,f2⟩:=DataW.trod_int Tryz.underlying3 t2;obtain⟨x3,h3⟩:=n5a _ _ _ t3 w3;obtain⟨x4,h4⟩:=s5b t4 w4;obtain⟨m5,e5,-⟩:=DataW.trod_bool Tryz.underlying4 t5;obtain⟨m6,e6,-,f6⟩:=DataW.trod_int Tryz.underlying3 t6;obtain⟨m7,e7,-,f7⟩:=DataW.trod_int Tryz.underlying3 t7;cases e0;cases e1;cases e2;cases e5;cases e6;cases e7;exact⟨⟨m0,m1,m2,x3,x4,m5,m6,m7⟩,_,_,_,_,_,Z,y3a f0,y3a f1,y3a f2,y3a f6,y3a f7,h3,h4⟩
theorem x3d:1≤prog.bytesOf 61:=of_decide_eq_true (by kernel_rfl)
theorem o0c{fuel:Nat}{v:Value}{x:DataW H×List MemPlace}(h:DataW.trod enc prog W base sp held fuel 55 [v]=some x)(hw:h4a prog 55 x.1):∃l,w1d [] W v l :=
 h3a Tryz.underlying55 s5a x3d (fun n cs y _ _ hy hl=>L0c hy hl) h hw
theorem S7b:prog.cellsOf 48=1:=by kernel_rfl
theorem m5a:prog.cellsOf 87=6:=by kernel_rfl
theorem r3c{fuel:Nat}{cs:LV}{x:DataW H×List MemPlace}(h:DataW.trod enc prog W base sp held fuel 87 cs=some x)(hw:h4a prog 87 x.1):∃c,K6a [] W cs c:=by
 obtain⟨_,_,_,hx,hl,hlen,a0⟩:=DataW.trod_struct Tryz.underlying87 h;rw[hx] at hw;rw[m5a] at hl;obtain⟨_,t0,-⟩:=U0a 0 3 0 hlen a0 Tryz.underlying87 hw Z;obtain⟨_,t1,w1⟩:=U0a 1 48 1 hlen a0 Tryz.underlying87 hw Z;obtain⟨_,t2,w2⟩:=U0a 2 38 2 hlen a0 Tryz.underlying87 hw Z;simp only[r2b,S7b,o2a] at t0 t1 t2;obtain⟨_,_,_,_,_,_,rfl⟩:=L3d hl;simp only[List.drop_succ_cons,List.drop_zero,List.take_succ_cons,List.take_zero] at t0 t1 t2;obtain⟨m0,e0,-,f0⟩:=DataW.trod_int Tryz.underlying3 t0;obtain⟨x1,h1⟩:=o0b t1 w1;obtain⟨x2,h2⟩:=n5a _ _ _ t2 w2;cases e0;exact⟨⟨m0,x1,x2⟩,_,_,_,_,_,Z,y3a f0,h1,h2⟩
theorem E3d:1≤prog.bytesOf 87:=of_decide_eq_true (by kernel_rfl)
theorem k0c{fuel:Nat}{v:Value}{x:DataW H×List MemPlace}(h:DataW.trod enc prog W base sp held fuel 56 [v]=some x)(hw:h4a prog 56 x.1):∃l,q3d [] W v l :=
 h3a Tryz.underlying56 m5a E3d (fun n cs y _ _ hy hl=>r3c hy hl) h hw
theorem D7b:prog.cellsOf 36=1:=by kernel_rfl
theorem w8b:prog.cellsOf 55=1:=by kernel_rfl
theorem c8b:prog.cellsOf 56=1:=by kernel_rfl
theorem I4a:prog.cellsOf 58=7:=by kernel_rfl
theorem r7b{fuel:Nat}{cs:LV}{x:DataW H×List MemPlace}(h:DataW.trod enc prog W base sp held fuel 58 cs=some x)(hw:h4a prog 58 x.1):∃c,S0a [] W cs c∧c.name.size≤140737488355328:=by
 obtain⟨_,_,_,hx,hl,hlen,a0⟩:=DataW.trod_struct Tryz.underlying58 h;rw[hx] at hw;rw[I4a] at hl;obtain⟨_,t0,w0⟩:=U0a 0 9 0 hlen a0 Tryz.underlying58 hw Z;obtain⟨_,t1,-⟩:=U0a 1 3 1 hlen a0 Tryz.underlying58 hw Z;obtain⟨_,t2,w2⟩:=U0a 2 36 2 hlen a0 Tryz.underlying58 hw Z;obtain⟨_,t3,w3⟩:=U0a 3 48 3 hlen a0 Tryz.underlying58 hw Z;obtain⟨_,t4,w4⟩:=U0a 4 55 4 hlen a0 Tryz.underlying58 hw Z;obtain⟨_,t5,w5⟩:=U0a 5 56 5 hlen a0 Tryz.underlying58 hw Z;obtain⟨_,t6,-⟩:=U0a 6 4 6 hlen a0 Tryz.underlying58 hw Z;simp only[x2b,r2b,D7b,S7b,w8b,c8b,e8b] at t0 t1 t2 t3 t4 t5 t6;obtain⟨_,_,_,_,_,_,_,rfl⟩:=X3d hl;simp only[List.drop_succ_cons,List.drop_zero,List.take_succ_cons,List.take_zero] at t0 t1 t2 t3 t4 t5 t6;obtain⟨m0,e0,s0,-⟩:=DataW.trod_string Tryz.underlying9 t0;obtain⟨m1,e1,-,f1⟩:=DataW.trod_int Tryz.underlying3 t1;obtain⟨x2,h2⟩:=x0c t2 w2;obtain⟨x3,h3⟩:=o0b t3 w3;obtain⟨x4,h4⟩:=o0c t4 w4;obtain⟨x5,h5⟩:=k0c t5 w5;obtain⟨m6,e6,-⟩:=DataW.trod_bool Tryz.underlying4 t6;cases e0;cases e1;cases e6;exact⟨⟨m0,m1,x2,x3,x4,x5,m6⟩,⟨_,_,_,_,Z,y3a f1,h2,h3,h4,h5⟩,s9b s0 w0⟩
theorem M9c:1≤prog.bytesOf 58:=of_decide_eq_true (by kernel_rfl)
theorem W5b{fuel:Nat}{v:Value}{x:DataW H×List MemPlace}(h:DataW.trod enc prog W base sp held fuel 25 [v]=some x)(hw:h4a prog 25 x.1):∃l,u3d [] W v l∧∀c∈l,c.name.size≤140737488355328:=by
 obtain⟨l,hl⟩:=h3a Tryz.underlying25 I4a M9c (fun n cs y _ _ hy hl=>r7b hy hl) h hw;exact⟨l,hl.mono (fun _ _ h=>h.1),n7b hl (fun _ _ h=>h.2)⟩
theorem g4a:prog.cellsOf 66=11:=by kernel_rfl
theorem g4b{fuel:Nat}{cs:LV}{x:DataW H×List MemPlace}(h:DataW.trod enc prog W base sp held fuel 66 cs=some x)(hw:h4a prog 66 x.1):∃c,n1a [] W cs c∧c.name.size≤140737488355328∧c.owner.size≤140737488355328:=by
 obtain⟨_,_,_,hx,hl,hlen,a0⟩:=DataW.trod_struct Tryz.underlying66 h;rw[hx] at hw;rw[g4a] at hl;obtain⟨_,t0,w0⟩:=U0a 0 9 0 hlen a0 Tryz.underlying66 hw Z;obtain⟨_,t1,w1⟩:=U0a 1 9 1 hlen a0 Tryz.underlying66 hw Z;obtain⟨_,t2,w2⟩:=U0a 2 38 2 hlen a0 Tryz.underlying66 hw Z;obtain⟨_,t3,w3⟩:=U0a 3 38 6 hlen a0 Tryz.underlying66 hw Z;obtain⟨_,t4,w4⟩:=U0a 4 48 10 hlen a0 Tryz.underlying66 hw Z;simp only[x2b,o2a,S7b] at t0 t1 t2 t3 t4;obtain⟨_,_,_,_,_,_,_,_,_,_,_,rfl⟩:=A2d hl;simp only[List.drop_succ_cons,List.drop_zero,List.take_succ_cons,List.take_zero] at t0 t1 t2 t3 t4;obtain⟨m0,e0,s0,-⟩:=DataW.trod_string Tryz.underlying9 t0;obtain⟨m1,e1,s1,-⟩:=DataW.trod_string Tryz.underlying9 t1;obtain⟨x2,h2⟩:=n5a _ _ _ t2 w2;obtain⟨x3,h3⟩:=n5a _ _ _ t3 w3;obtain⟨x4,h4⟩:=o0b t4 w4;cases e0;cases e1;exact⟨⟨m0,m1,x2,x3,x4⟩,⟨_,_,_,_,_,_,_,_,_,Z,h2,h3,h4⟩,s9b s0 w0,s9b s1 w1⟩
theorem e1c:1≤prog.bytesOf 66:=of_decide_eq_true (by kernel_rfl)
theorem O2b{fuel:Nat}{v:Value}{x:DataW H×List MemPlace}(h:DataW.trod enc prog W base sp held fuel 23 [v]=some x)(hw:h4a prog 23 x.1):∃l,m3d [] W v l∧∀c∈l,c.name.size≤140737488355328∧c.owner.size≤140737488355328:=by
 obtain⟨l,hl⟩:=h3a Tryz.underlying23 g4a e1c (fun n cs y _ _ hy hl=>g4b hy hl) h hw;exact⟨l,hl.mono (fun _ _ h=>h.1),n7b hl (fun _ _ h=>h.2)⟩
theorem v5a:prog.cellsOf 85=6:=by kernel_rfl
theorem k1c{fuel:Nat}{cs:LV}{x:DataW H×List MemPlace}(h:DataW.trod enc prog W base sp held fuel 85 cs=some x)(hw:h4a prog 85 x.1):∃c,E5a [] W cs c:=by
 obtain⟨_,_,_,hx,hl,hlen,a0⟩:=DataW.trod_struct Tryz.underlying85 h;rw[hx] at hw;rw[v5a] at hl;obtain⟨_,t0,-⟩:=U0a 0 3 0 hlen a0 Tryz.underlying85 hw Z;obtain⟨_,t1,w1⟩:=U0a 1 38 1 hlen a0 Tryz.underlying85 hw Z;obtain⟨_,t2,-⟩:=U0a 2 3 5 hlen a0 Tryz.underlying85 hw Z;simp only[r2b,o2a] at t0 t1 t2;obtain⟨_,_,_,_,_,_,rfl⟩:=L3d hl;simp only[List.drop_succ_cons,List.drop_zero,List.take_succ_cons,List.take_zero] at t0 t1 t2;obtain⟨m0,e0,-,f0⟩:=DataW.trod_int Tryz.underlying3 t0;obtain⟨x1,h1⟩:=n5a _ _ _ t1 w1;obtain⟨m2,e2,-,f2⟩:=DataW.trod_int Tryz.underlying3 t2;cases e0;cases e2;exact⟨⟨m0,x1,m2⟩,_,_,_,_,Z,y3a f0,y3a f2,h1⟩
theorem y3d:1≤prog.bytesOf 85:=of_decide_eq_true (by kernel_rfl)
theorem R9b{fuel:Nat}{v:Value}{x:DataW H×List MemPlace}(h:DataW.trod enc prog W base sp held fuel 24 [v]=some x)(hw:h4a prog 24 x.1):∃l,Z2d [] W v l :=
 h3a Tryz.underlying24 v5a y3d (fun n cs y _ _ hy hl=>k1c hy hl) h hw
theorem v7b:prog.cellsOf 22=1:=by kernel_rfl
theorem C2b:prog.cellsOf 23=1:=by kernel_rfl
theorem f7b:prog.cellsOf 24=1:=by kernel_rfl
theorem d4b:prog.cellsOf 25=1:=by kernel_rfl
theorem g7a:prog.cellsOf 27=4:=by kernel_rfl
theorem q6b{fuel:Nat}{cs:LV}{x:DataW H×List MemPlace}(h:DataW.trod enc prog W base sp held fuel 27 cs=some x)(hw:h4a prog 27 x.1):∃c,C1a [] W c cs∧j9a c:=by
 obtain⟨_,_,_,hx,hl,hlen,a0⟩:=DataW.trod_struct Tryz.underlying27 h;rw[hx] at hw;rw[g7a] at hl;obtain⟨_,t0,w0⟩:=U0a 0 22 0 hlen a0 Tryz.underlying27 hw Z;obtain⟨_,t1,w1⟩:=U0a 1 23 1 hlen a0 Tryz.underlying27 hw Z;obtain⟨_,t2,w2⟩:=U0a 2 24 2 hlen a0 Tryz.underlying27 hw Z;obtain⟨_,t3,w3⟩:=U0a 3 25 3 hlen a0 Tryz.underlying27 hw Z;simp only[v7b,C2b,f7b,d4b] at t0 t1 t2 t3;obtain⟨_,_,_,_,rfl⟩:=U3d hl;simp only[List.drop_succ_cons,List.drop_zero,List.take_succ_cons,List.take_zero] at t0 t1 t2 t3;obtain⟨x0,h0⟩:=w0c t0 w0;obtain⟨x1,h1⟩:=O2b t1 w1;obtain⟨x2,h2⟩:=R9b t2 w2;obtain⟨x3,h3⟩:=W5b t3 w3;exact⟨⟨x0,x1,x2,x3⟩,⟨_,_,_,_,Z,h0.1,h1.1,h2,h3.1⟩,⟨h0.2,h1.2,h3.2⟩⟩
theorem G4a:prog.cellsOf 75=3:=by kernel_rfl
theorem a8b{fuel:Nat}{cs:LV}{x:DataW H×List MemPlace}(h:DataW.trod enc prog W base sp held fuel 75 cs=some x)(hw:h4a prog 75 x.1):∃c,S3a cs c:=by
 obtain⟨_,_,_,hx,hl,hlen,a0⟩:=DataW.trod_struct Tryz.underlying75 h;rw[hx] at hw;rw[G4a] at hl;obtain⟨_,t0,-⟩:=U0a 0 3 0 hlen a0 Tryz.underlying75 hw Z;obtain⟨_,t1,-⟩:=U0a 1 3 1 hlen a0 Tryz.underlying75 hw Z;obtain⟨_,t2,-⟩:=U0a 2 3 2 hlen a0 Tryz.underlying75 hw Z;simp only[r2b] at t0 t1 t2;obtain⟨_,_,_,rfl⟩:=d4d hl;simp only[List.drop_succ_cons,List.drop_zero,List.take_succ_cons,List.take_zero] at t0 t1 t2;obtain⟨m0,e0,-,f0⟩:=DataW.trod_int Tryz.underlying3 t0;obtain⟨m1,e1,-,f1⟩:=DataW.trod_int Tryz.underlying3 t1;obtain⟨m2,e2,-,f2⟩:=DataW.trod_int Tryz.underlying3 t2;cases e0;cases e1;cases e2;exact⟨⟨m0,m1,m2⟩,Z,y3a f0,y3a f1,y3a f2⟩
theorem u0d:1≤prog.bytesOf 75:=of_decide_eq_true (by kernel_rfl)
theorem w5b{fuel:Nat}{v:Value}{x:DataW H×List MemPlace}(h:DataW.trod enc prog W base sp held fuel 28 [v]=some x)(hw:h4a prog 28 x.1):∃l,z4a [] W v l :=
 h3a Tryz.underlying28 G4a u0d (fun n cs y _ _ hy hl=>a8b hy hl) h hw
theorem G3c{W:World}:∀{l:List (String×DataW Unit)} {ps:List MemPlace},DataW.LaidVars prog W l ps→∀{i:Nat} {x:String×DataW Unit},l[i]?=some x →
 ∃g t cs fuel p,prog.globalNamed x.1=some g∧(prog.globals[g]?).map (·.type)=some t∧W.var? prog x.1=some cs∧DataW.trod (fun _=>()) prog W 0 (fun _=>true) false fuel t cs.toList=some (x.2,p)
 | [],_,_,_,_,hi=>by simp at hi
 | y::l,ps,h,0,x,hi=>by
   obtain⟨g0,t0,a0,f0,p0,q0,c0,d0,e0,b0,-⟩:=h;cases hi;exact⟨g0,t0,a0,f0,p0,c0,d0,e0,b0⟩
 | y::l,ps,h,i+1,x,hi=>by
   obtain⟨g0,t0,a0,f0,p0,q0,c0,d0,e0,b0,hr,-⟩:=h;exact G3c hr (by simpa using hi)
theorem B1d:prog.globalNamed ((Rows.shrinkMatchesReferenceRow.laid[0]?.map (·.1)).getD "")=some 1:=by kernel_rfl
theorem z2d:(prog.globals[1]?).map (·.type)=some 168:=by kernel_rfl
theorem Y1d:prog.cellsOf 168=9:=by kernel_rfl
theorem D4b{W:World}(h:laidMetH prog Rows.shrinkMatchesReferenceRow.laid W):H3a [] W:=by
 rw[MakeChecks.laidMetH_plain _ _ _ (by kernel_rfl)] at h;obtain⟨_,d0,-⟩:=h;obtain⟨_,_,c0,_,_,f0,m0,n0,j0⟩:=G3c d0 (i:=0) Z;obtain rfl:=Option.some.inj (B1d.symm.trans f0);obtain rfl:=Option.some.inj (z2d.symm.trans m0);obtain⟨xs,_,rfl,b0,hlen,_,e0⟩:=DataW.trod_array Tryz.underlying168 j0;rw[Y1d] at hlen;simp only[c3,Nat.mul_one] at e0;refine⟨by simp,fun i hi=>?_⟩;have a0:=World.var?_cell f0 n0 i;have g0:i<xs.length:=by omega
 have he:=e0 i (by omega);rw[List.getElem?_eq_getElem g0] at he;obtain⟨k,e1,e2,-⟩:=DataW.trod_int Tryz.underlying3 he;have o0:i<c0.toList.length:=by omega
 have i0:c0.toList[i]?=some (.int .i64 k):=by
  have h1:((c0.toList.drop i).take 1)[0]?=some (Value.int .i64 k):=by rw[e1];rfl
  rw[List.getElem?_take,if_pos (by omega),List.getElem?_drop] at h1;simpa using h1
 rw[a0];have e3:c0[i]?=some (.int .i64 k):=by simpa using i0
 rw[e3];have b0:(DataW.agg _=DataW.agg _∧_):=Prod.mk.inj b0;have b0:=DataW.agg.inj b0.1;have e4:(xs.map (·.1))[i]?=some (.lit (.int .i64 k)):=by rw[List.getElem?_map,List.getElem?_eq_getElem g0,e2];rfl
 rw[←b0] at e4;rcases(show i=0∨i=1∨i=2∨i=3∨i=4∨i=5∨i=6∨i=7∨i=8 by omega) with rfl|rfl|rfl|rfl|rfl|rfl|rfl|rfl|rfl<;>(cases e4;rfl)
end
theorem own:ownKnob prog.godebug=none:=by kernel_rfl
theorem j8c:laidOutB prog=true:=by kernel_rfl
abbrev s9a:List (String×DataW Unit):=Rows.shrinkMatchesReferenceRow.laid
theorem w5c(os:Os)(args:Array Value):laidMetH prog s9a ((World.doorLaid prog 400 os).forCall (fun _ _=>0) ⟨#[],args,[]⟩).memory :=
 laidMetH_of_parts3 (fuel:=8) (laidMet_of_run' 8 (by kernel_rfl) (by kernel_rfl)) (by kernel_rfl) (by kernel_rfl)
theorem d2c{H:Type}{enc:TypeId×Value→H}{W W':World}(hb:Below W.heap.size W W'):∀(ts:List TypeId),(∀t∈ts,prog.readableRec t=true∧t<prog.types.size)→∀(vs:LV) (ds:List (DataW H)) (p:List MemPlace),
 (∀x∈p,x.block<W.heap.size)→DataW.TrodAll enc prog W 0 (fun _=>true) true ts vs ds p→DataW.TrodAll enc prog W' 0 (fun b=>decide (b<W.heap.size)) true ts vs ds p:=by
 intro ts
 induction ts with
 | nil =>
   intro _ vs ds p _ h;cases vs<;>cases ds<;>exact h
 | cons t ts ih =>
   intro ht vs ds p hp h;cases vs with
   | nil=>exact h.elim
   | cons v vs =>
     cases ds with
     | nil=>exact h.elim
     | cons d ds =>
       obtain⟨q,r,h1,h2,rfl⟩:=h;obtain⟨r1,r2⟩:=ht t (by simp);exact⟨q,r,Below.trod j8c r1 r2 h1 hb (fun x hx=>hp x (List.mem_append_left _ hx)),ih (fun t a0=>ht t (by simp[a0])) vs ds r (fun x hx=>hp x (List.mem_append_right _ hx)) h2,Z⟩
theorem B2c{H:Type}{enc:TypeId×Value→H}{fn:Func}{s:ChangeSpec}{W W':World}{args:Array Value}{ds:List (DataW H)}{a0:List MemPlace}(hs:s.vars=[])(hr:fn.resultTypes=#[4])
 (d0:∀t∈fn.params.toList,prog.readableRec t=true∧t<prog.types.size) (hW:DataW.Whole enc prog fn.params.toList s.vars false W args.toList ds [] a0)
 (e1:(s.fn H (ds++[])).results=[.lit (.bool true)]) (e2:(s.fn H (ds++[])).args=ds) (e3:(s.fn H (ds++[])).vars=[]) (hb:Below W.heap.size W W') :
 s.post enc prog fn false true false false W args (.bool true) W':=by
 have c0:=hW.lt;obtain⟨_,_,hA,hV,b0,_⟩:=id hW;rw[hs] at hV;obtain⟨-,rfl⟩:=trodVars_none hV;rw[List.append_nil] at b0;subst b0;refine⟨ds,[],a0,[],a0,[],hW,?_,?_,?_,hb.frame _,fun h=>by cases h⟩
 ·rw[e1,hr];exact trodAll_mk1 (shut_bool Tryz.underlying4 true)
 ·rw[e2];exact d2c hb _ d0 _ _ _ c0 hA
 ·rw[e3,hs];rfl
theorem v9b{H:Type}{ts:List TypeId}{ds:List (DataW H)}(h:(DataW.weightsEach prog ts ds).all (·≤reachBytes)=true){j:Nat}{t:TypeId}{d:DataW H}(ht:ts[j]?=some t)(hd:ds[j]?=some d):h4a prog t d:=fun m hm=>by
 have:=List.all_eq_true.1 h m (DataW.weights_mem_each ht hd m hm);simpa using this
theorem f4b{f:FuncId}{args:Array Value}{W:World}{R:Value→World→Prop}{Q:Ending→World→Prop}(h:M0a prog f args W R)(hQ:∀v W',R v W'→Q (.returned v) W'):Calls prog f args W Q :=
 Calls.mono h fun _ _ ⟨v,he,hv⟩=>he▸hQ v _ hv
abbrev Q3c:=Nat→Option (FuncId×Array Value×(Value→Prop)×(Value→World→Prop))
section
variable {P:Program} {r:Option Nat} {N:Nat} {l:List Oper} {D:List Deferred} {C:World→Prop} {V:Q3c} {K:Env→World→Prop}
def FL(P:Program)(N:Nat)(l:List Oper)(C:World→Prop)(V:Q3c)(K:Env→World→Prop)(lo:Nat):List Nat→Env→List Nat→(World→Prop)→Prop
 | [],e,_,Φ=>∀w,C w→Φ w→K e w
 | i::rest,e,gs,Φ=>∃o d,l[i]?=some o∧o.dst=some d∧d<N ∧
  ((∃v,PV P l C o e v∧FL P N l C V K lo rest (upd e d v) gs Φ) ∨
   (∃(mk:Nat→Value) (t:TypeId) (cs:LV),u1a l.toArray e o=true ∧
     (∀w,C w→∃w',(execOp (ev e) o).run P w=.ok (.value (mk w.heap.size)) w'∧C w'∧A0a [] w w'∧w'.heap.size=w.heap.size+1∧z0a w' (w.heap.size,t,cs)) ∧
     ∀g,lo≤g→g∉gs→FL P N l C V K lo rest (upd e d (mk g)) (g::gs) (fun w=>Φ w∧z0a w (g,t,cs))) ∨
   (∃f args Qp Qw,V i=some (f,args,Qp,Qw)∧u1a l.toArray e o=true∧(∀w,C w→(execOp (ev e) o).run P w=.ok (.enter f args) w)∧∀u,Qp u→FL P N l C V K lo rest (upd e d u) gs (fun w=>Φ w∧Qw u w)))
theorem FL.mono{lo b0:Nat}:∀(R:List Nat) (e:Env) (gs a0:List Nat) (Φ Φ':World→Prop),(∀g,b0≤g→g∉a0→lo≤g∧g∉gs)→(∀w,Φ' w→Φ w)→FL P N l C V K lo R e gs Φ→FL P N l C V K b0 R e a0 Φ'
 | [],e,gs,a0,Φ,Φ',_,hΦ,h=>fun w hC hw=>h w hC (hΦ w hw)
 | i::R,e,gs,a0,Φ,Φ',hg,hΦ,h=>by
   obtain⟨o,d,h1,h2,h3,h4⟩:=h;refine⟨o,d,h1,h2,h3,?_⟩;rcases h4 with⟨v,h5,h6⟩|⟨mk,t,cs,h5,h6,h7⟩|⟨f,args,Qp,Qw,h5,h6,h7,h8⟩
   ·exact .inl ⟨v,h5,FL.mono R _ gs a0 Φ Φ' hg hΦ h6⟩
   rotate_left
   ·exact .inr (.inr ⟨f,args,Qp,Qw,h5,h6,h7,fun u hu=>FL.mono R _ gs a0 _ _ hg (fun w hw=>⟨hΦ w hw.1,hw.2⟩) (h8 u hu)⟩)
   ·refine .inr (.inl ⟨mk,t,cs,h5,h6,fun g h8 h9=>?_⟩);refine FL.mono R _ (g::gs) (g::a0) _ _ (fun x hx hn=>?_) (fun w hw=>⟨hΦ w hw.1,hw.2⟩) (h7 g (hg g h8 h9).1 (hg g h8 h9).2);simp only[List.mem_cons,not_or] at hn ⊢;exact⟨(hg x hx hn.2).1,hn.1,(hg x hx hn.2).2⟩
def b4d:Result Next→Nat
 | .ok _ w=>w.heap.size
 | _=>0
def szE(P:Program)(l:List Oper)(o:Oper)(e:Env)(w:World):Nat:=bif u1a l.toArray e o then b4d ((execOp (ev e) o).run P w) else 0
theorem H1b{o:Oper}{e e':Env}{w:World}(hs:Op.isSelect o.op=false)(h:∀s∈Oper.looksAt l.toArray o,e s=e' s):szE P l o e w=szE P l o e' w:=by
 unfold szE;rw[h1a h,I1a hs h]
theorem Q6b(a b:Nat)(gs:List Nat):∃g,a≤g∧b≤g∧g∉gs:=by
 have:∀gs:List Nat,∃m,∀g∈gs,g<m:=by
  intro gs
  induction gs with
  | nil=>exact⟨0,by simp⟩
  | cons x gs ih =>
    obtain⟨m,hm⟩:=ih;refine⟨max m (x+1),fun g hg=>?_⟩;rcases List.mem_cons.1 hg with rfl|h
    ·omega
    ·have:=hm g h;omega
 obtain⟨m,hm⟩:=this gs;exact⟨max m (max a b),by omega,by omega,fun h=>by have:=hm _ h;omega⟩
def W3a(P:Program)(N:Nat)(l:List Oper)(C:World→Prop)(V:Q3c)(K:Env→World→Prop)(lo:Nat)(R:List Nat)(i:Nat)(o:Oper)(d:Nat)(e:Env)(gs:List Nat)(Φ:World→Prop)(w:World):Prop :=
 (u1a l.toArray e o=true∧∃v w',(execOp (ev e) o).run P w=.ok (.value v) w'∧C w'∧A0a [] w w'∧FL P N l C V K w'.heap.size R (upd e d v) gs (fun w1=>Φ w1∧A0a [] w' w1)) ∨
 (u1a l.toArray e o=false∧FL P N l C V K lo R (upd e d undef) gs Φ) ∨
 (u1a l.toArray e o=true∧∃f args Qp Qw,V i=some (f,args,Qp,Qw)∧(execOp (ev e) o).run P w=.ok (.enter f args) w∧∀u w',Qp u→Qw u w'→C w'→A0a [] w w'→FL P N l C V K w'.heap.size R (upd e d u) gs (fun w1=>(Φ w1∧Qw u w1)∧A0a [] w' w1))
theorem FL.first(c0:P5a l=true)(Q0:∀i f args Qp Qw,V i=some (f,args,Qp,Qw)→∃u,Qp u){i:Nat}{i0:List Nat}{lo:Nat}{w:World}(hC:C w)(S0:lo≤w.heap.size):∀(pre:List Nat) (e:Env) (gs:List Nat) (Φ:World→Prop),(∀j∈pre,O0b l (fun _=>true) j i=true) →
 (∀o,l[i]?=some o→∀g∈gs,szE P l o e w≤g)→FL P N l C V K lo (pre++i::i0) e gs Φ →
 ∃o d,l[i]?=some o∧o.dst=some d∧d<N∧W3a P N l C V K lo (pre++i0) i o d e gs Φ w:=by
 intro pre
 induction pre with
 | nil =>
   intro e gs Φ _ B0 h;obtain⟨o,d,ho,hd,hN,h⟩:=h;refine⟨o,d,ho,hd,hN,?_⟩;rcases h with⟨v,⟨h1,h2⟩|⟨h1,rfl⟩,h3⟩|⟨mk,t,cs,h1,h2,h3⟩|⟨f,args,Qp,Qw,h1,h2,h3,h4⟩
   rotate_right
   ·exact .inr (.inr ⟨h2,f,args,Qp,Qw,h1,h3 w hC,fun u w' hu _ _ hk=>FL.mono _ _ gs gs _ _ (fun g hg hn=>⟨by have:=hk.size;omega,hn⟩) (fun _ hw=>hw.1) (h4 u hu)⟩)
   ·exact .inl ⟨h1,v,w,h2 w hC,hC,A0a.refl _ _,FL.mono _ _ gs gs Φ _ (fun g hg hn=>⟨by omega,hn⟩) (fun _ hw=>hw.1) h3⟩
   ·exact .inr (.inl ⟨h1,h3⟩)
   ·obtain⟨w',h4,h5,h6,h7,h8⟩:=h2 w hC;refine .inl ⟨h1,_,w',h4,h5,h6,?_⟩;have hs:=B0 o ho;unfold szE at hs;rw[h1,h4] at hs;refine FL.mono _ _ (w.heap.size::gs) gs _ _ (fun g hg hn=>?_) (fun w1 hw=>⟨hw.1,z1a hw.2 h8⟩) (h3 w.heap.size S0 (fun hm=>by have:w'.heap.size≤w.heap.size:=hs _ hm;omega));simp only[List.mem_cons,not_or];exact⟨by omega,by omega,hn⟩
 | cons q pre ih =>
   intro e gs Φ A0 B0 h;obtain⟨p,c,hp,hc,t0,h⟩:=h;have hq:=A0 q (by simp);have o0:∀j∈pre,O0b l (fun _=>true) j i=true:=fun j hj=>A0 j (by simp[hj]);have a0:∀{o:Oper} {d:Nat} (u:Value),l[i]?=some o→o.dst=some d→(∀s∈Oper.looksAt l.toArray o,upd e c u s=e s)∧c≠d∧d∉Oper.looksAt l.toArray p:=fun {o d} u ho hd=>by
    obtain⟨_,j0,p0,R0⟩:=S9a hq hp ho hc hd;exact⟨fun s hs=>b2a R0 hs,j0,p0⟩
   rcases h with⟨u,hu,h⟩|⟨mk,t,cs,h1,h2,h3⟩|⟨f,args,Qp,Qw,hV,W0,hu,h⟩
   rotate_right
   ·obtain⟨u0,V0⟩:=Q0 _ _ _ _ _ hV;have key:∀u,Qp u→∃o d,l[i]?=some o∧o.dst=some d∧d<N∧W3a P N l C V K lo (pre++i0) i o d (upd e c u) gs (fun w=>Φ w∧Qw u w) w:=fun u hu=>ih (upd e c u) gs _ o0 (fun o ho g hg=>by
     cases hd:o.dst with
     | none =>
       exfalso;unfold O0b at hq;simp[hp,ho,hc,hd] at hq
     | some d=>rw[H1b (N0a c0 ho).1 (a0 u ho hd).1];exact B0 o ho g hg) (h u hu)
    obtain⟨o,d,ho,hd,hN,s0⟩:=key u0 V0;have f0:∀u,Qp u→W3a P N l C V K lo (pre++i0) i o d (upd e c u) gs (fun w=>Φ w∧Qw u w) w:=fun u hu=>by
     obtain⟨o',d',m0,F0,_,hF⟩:=key u hu;obtain rfl:o'=o:=Option.some.inj (m0.symm.trans ho);obtain rfl:d'=d:=Option.some.inj (F0.symm.trans hd);exact hF
    have j0:=(a0 .nilFunc ho hd).2.1;have p0:=(a0 .nilFunc ho hd).2.2;have ha:∀u,∀s∈Oper.looksAt l.toArray o,upd e c u s=e s:=fun u=>(a0 u ho hd).1;refine⟨o,d,ho,hd,hN,?_⟩;have q0:∀v,∀s∈Oper.looksAt l.toArray p,upd e d v s=e s:=fun v s hs=>b2a p0 hs;unfold W3a at s0 ⊢;rw[h1a (ha _),I1a (N0a c0 ho).1 (ha _)] at s0;have n0:∀v,∀J0 Φ',(∀u,Qp u→FL P N l C V K J0 (pre++i0) (upd (upd e d v) c u) gs (fun w=>Φ' w∧Qw u w))→FL P N l C V K J0 (q::(pre++i0)) (upd e d v) gs Φ':=fun v J0 Φ' h9 =>
     ⟨p,c,hp,hc,t0,.inr (.inr ⟨f,args,Qp,Qw,hV,by rw[h1a (q0 v)];exact W0,by rw[I1a (N0a c0 hp).1 (q0 v)];exact hu,h9⟩)⟩
    rcases s0 with⟨hw,v,w',h4,h5,h6,-⟩|⟨hw,-⟩|⟨hw,f',r0,L0,N0,y0,h4,-⟩
    ·refine .inl ⟨hw,v,w',h4,h5,h6,n0 v _ _ fun u hu=>?_⟩;have hF:=f0 u hu;unfold W3a at hF;rw[h1a (ha _),I1a (N0a c0 ho).1 (ha _)] at hF;rcases hF with⟨_,v',K0,d0,_,_,h7⟩|⟨b0,_⟩|⟨_,_,_,_,_,_,d0,_⟩
     ·rw[h4] at d0;cases d0;rw[←c3a _ _ _ j0];exact FL.mono _ _ gs gs _ _ (fun x hx hn=>⟨hx,hn⟩) (fun w1 e0=>⟨⟨e0.1.1,e0.2⟩,e0.1.2⟩) h7
     ·rw[hw] at b0;cases b0
     ·rw[h4] at d0;cases d0
    ·refine .inr (.inl ⟨hw,n0 _ _ _ fun u hu=>?_⟩);have hF:=f0 u hu;unfold W3a at hF;rw[h1a (ha _),I1a (N0a c0 ho).1 (ha _)] at hF;rcases hF with⟨b0,_⟩|⟨_,h7⟩|⟨b0,_⟩
     ·rw[hw] at b0;cases b0
     ·rw[←c3a _ _ _ j0];exact h7
     ·rw[hw] at b0;cases b0
    ·refine .inr (.inr ⟨hw,f',r0,L0,N0,y0,h4,fun u' w' U0 T0 x0 v0=>n0 u' _ _ fun u hu=>?_⟩);have hF:=f0 u hu;unfold W3a at hF;rw[h1a (ha _),I1a (N0a c0 ho).1 (ha _)] at hF;rcases hF with⟨_,v',K0,d0,_⟩|⟨b0,_⟩|⟨_,X0,D0,O0,P0,z0,_,h7⟩
     ·rw[h4] at d0;cases d0
     ·rw[hw] at b0;cases b0
     ·rw[y0] at z0;cases z0;rw[←c3a _ _ _ j0];exact FL.mono _ _ gs gs _ _ (fun x hx hn=>⟨hx,hn⟩) (fun w1 e0=>⟨⟨⟨e0.1.1.1,e0.2⟩,e0.1.1.2⟩,e0.1.2⟩) (h7 u' w' U0 T0 x0 v0)
   ·obtain⟨o,d,ho,hd,hN,hF⟩:=ih (upd e c u) gs Φ o0 (fun o ho g hg=>by
     cases hd:o.dst with
     | none =>
       exfalso;unfold O0b at hq;simp[hp,ho,hc,hd] at hq
     | some d=>rw[H1b (N0a c0 ho).1 (a0 u ho hd).1];exact B0 o ho g hg) h
    obtain⟨ha,j0,p0⟩:=a0 u ho hd;refine⟨o,d,ho,hd,hN,?_⟩;unfold W3a at hF ⊢;rw[h1a ha,I1a (N0a c0 ho).1 ha] at hF;rcases hF with⟨hw,v,w',h4,h5,h6,h7⟩|⟨hw,h7⟩|⟨hw,f,args,Qp,Qw,hV,h4,h7⟩
    rotate_right
    ·refine .inr (.inr ⟨hw,f,args,Qp,Qw,hV,h4,fun x w' hx I0 x0 v0=>⟨p,c,hp,hc,t0,.inl ⟨u,hu.congr (N0a c0 hp).1 (fun s hs=>(b2a p0 hs).symm),?_⟩⟩⟩);rw[←c3a _ _ _ j0];exact h7 x w' hx I0 x0 v0
    ·refine .inl ⟨hw,v,w',h4,h5,h6,p,c,hp,hc,t0,.inl ⟨u,hu.congr (N0a c0 hp).1 (fun s hs=>(b2a p0 hs).symm),?_⟩⟩;rw[←c3a _ _ _ j0];exact h7
    ·refine .inr (.inl ⟨hw,p,c,hp,hc,t0,.inl ⟨u,hu.congr (N0a c0 hp).1 (fun s hs=>(b2a p0 hs).symm),?_⟩⟩);rw[←c3a _ _ _ j0];exact h7
   ·have key:∀g,lo≤g→g∉gs→(∀o,l[i]?=some o→szE P l o e w≤g)→∃o d,l[i]?=some o∧o.dst=some d∧d<N∧W3a P N l C V K lo (pre++i0) i o d (upd e c (mk g)) (g::gs) (fun w=>Φ w∧z0a w (g,t,cs)) w:=fun g hg hn hs=>by
     refine ih (upd e c (mk g)) (g::gs) _ o0 (fun o ho x hx=>?_) (h3 g hg hn);cases hd:o.dst with
     | none =>
       exfalso;unfold O0b at hq;simp[hp,ho,hc,hd] at hq
     | some d =>
       rw[H1b (N0a c0 ho).1 (a0 (mk g) ho hd).1];rcases List.mem_cons.1 hx with rfl|hx
       ·exact hs o ho
       ·exact B0 o ho x hx
    have h4:∃o d,l[i]?=some o∧o.dst=some d∧d<N:=by
     cases ho:l[i]? with
     | none=>unfold O0b at hq;simp[ho] at hq
     | some o =>
       obtain⟨g0,G0,E0,H0⟩:=Q6b lo (szE P l o e w) gs;obtain⟨o',d,m0,hd,hN,_⟩:=key g0 G0 H0 (fun o' m0=>by rw[ho] at m0;cases m0;exact E0);rw[ho] at m0;cases m0;exact⟨o,d,Z,hd,hN⟩
    obtain⟨o,d,ho,hd,hN⟩:=h4;have f0:∀g,lo≤g→g∉gs→szE P l o e w≤g→W3a P N l C V K lo (pre++i0) i o d (upd e c (mk g)) (g::gs) (fun w=>Φ w∧z0a w (g,t,cs)) w:=fun g hg hn hs=>by
     obtain⟨o',d',m0,F0,_,hF⟩:=key g hg hn (fun o' m0=>by rw[ho] at m0;cases m0;exact hs);obtain rfl:o'=o:=Option.some.inj (m0.symm.trans ho);obtain rfl:d'=d:=Option.some.inj (F0.symm.trans hd);exact hF
    refine⟨o,d,ho,hd,hN,?_⟩;obtain⟨g0,G0,E0,H0⟩:=Q6b lo (szE P l o e w) gs;have j0:=(a0 .nilFunc ho hd).2.1;have p0:=(a0 .nilFunc ho hd).2.2;have ha:∀u,∀s∈Oper.looksAt l.toArray o,upd e c u s=e s:=fun u=>(a0 u ho hd).1;have q0:∀v,∀s∈Oper.looksAt l.toArray p,upd e d v s=e s:=fun v s hs=>b2a p0 hs;have s0:=f0 g0 G0 H0 E0;unfold W3a at s0 ⊢;rw[h1a (ha _),I1a (N0a c0 ho).1 (ha _)] at s0;rcases s0 with⟨hw,v,w',h4,h5,h6,-⟩|⟨hw,-⟩|⟨hw,f,args,Qp,Qw,hV,h4,-⟩
    rotate_right
    ·have C0:szE P l o e w=w.heap.size:=by unfold szE;rw[hw,h4];rfl
     refine .inr (.inr ⟨hw,f,args,Qp,Qw,hV,h4,fun x w' hx I0 x0 v0=>⟨p,c,hp,hc,t0,.inr (.inl ⟨mk,t,cs,by rw[h1a (q0 x)];exact h1,by rw[I1a (N0a c0 hp).1 (q0 x)];exact h2,fun g hg hn=>?_⟩)⟩⟩);have Y0:=v0.size;have hF:=f0 g (by omega) hn (by omega);unfold W3a at hF;rw[h1a (ha _),I1a (N0a c0 ho).1 (ha _)] at hF;rcases hF with⟨_,v',K0,d0,_⟩|⟨b0,_⟩|⟨_,f',r0,L0,N0,y0,_,h7⟩
     ·rw[h4] at d0;cases d0
     ·rw[hw] at b0;cases b0
     ·rw[hV] at y0;cases y0;rw[←c3a _ _ _ j0];exact FL.mono _ _ (g::gs) (g::gs) _ _ (fun x hx hn=>⟨hx,hn⟩) (fun w1 e0=>⟨⟨⟨e0.1.1.1,e0.2⟩,e0.1.1.2⟩,e0.1.2⟩) (h7 x w' hx I0 x0 v0)
    ·have C0:szE P l o e w=w'.heap.size:=by unfold szE;rw[hw,h4];rfl
     refine .inl ⟨hw,v,w',h4,h5,h6,p,c,hp,hc,t0,.inr (.inl ⟨mk,t,cs,by rw[h1a (q0 v)];exact h1,by rw[I1a (N0a c0 hp).1 (q0 v)];exact h2,fun g hg hn=>?_⟩)⟩;have hF:=f0 g (by have:=h6.size;omega) hn (by omega);unfold W3a at hF;rw[h1a (ha _),I1a (N0a c0 ho).1 (ha _)] at hF;rcases hF with⟨_,v',K0,d0,_,_,h7⟩|⟨b0,_⟩|⟨_,_,_,_,_,_,d0,_⟩
     rotate_right
     ·rw[h4] at d0;cases d0
     ·rw[h4] at d0;cases d0;rw[←c3a _ _ _ j0];exact FL.mono _ _ (g::gs) (g::gs) _ _ (fun x hx hn=>⟨hx,hn⟩) (fun w1 e0=>⟨⟨e0.1.1,e0.2⟩,e0.1.2⟩) h7
     ·rw[hw] at b0;cases b0
    ·refine .inr (.inl ⟨hw,p,c,hp,hc,t0,.inr (.inl ⟨mk,t,cs,by rw[h1a (q0 _)];exact h1,by rw[I1a (N0a c0 hp).1 (q0 _)];exact h2,fun g hg hn=>?_⟩)⟩);have C0:szE P l o e w=0:=by unfold szE;rw[hw];rfl
     have hF:=f0 g hg hn (by omega);unfold W3a at hF;rw[h1a (ha _),I1a (N0a c0 ho).1 (ha _)] at hF;rcases hF with⟨b0,_⟩|⟨_,h7⟩|⟨b0,_⟩
     rotate_right
     ·rw[hw] at b0;cases b0
     ·rw[hw] at b0;cases b0
     ·rw[←c3a _ _ _ j0];exact h7
theorem j7b{id:Nat}{n t:List Deferred→Env→World→Prop}{b:Nat→List Deferred→Env→World→Prop}{e:Env}{w:World}(hm:P.follows .mixedOrders=true)(ix:List Nat)
 (m:Nat) (C:World→Prop) (hC:C w.drew) (V:Q3c) (hV:∀i f args Qp Qw,V i=some (f,args,Qp,Qw)→(∃u,Qp u)∧(∀u w w',A0a [] w w'→Qw u w→Qw u w')∧∀w,C w→M0a P f args w fun u w'=>(Qp u∧Qw u w')∧C w'∧A0a [] w w') (ol:Oper) (E0:l[m]?=some ol)
 (h:FL P N l C V (fun e w=>WL P r N l.toArray [ol] (fun D' e' w'=>D'=D∧n D e' w') D e w) w.heap.size ix e [] (fun _=>True)) (hok:v6b l (fun _=>true) m=true:=by kernel_rfl) (hix:(List.range m==ix)=true:=by kernel_rfl):W P r N (.region id l.toArray true) ⟨n,b,t⟩ D e w:=by
 obtain rfl:List.range m=ix:=eq_of_beq hix;generalize s0:(fun(e:Env) (w:World)=>WL P r N l.toArray [ol] (fun D' e' w'=>D'=D∧n D e' w') D e w)=K' at h;unfold v6b at hok;simp only[Bool.and_eq_true,decide_eq_true_eq] at hok;obtain⟨⟨⟨⟨p0,z0⟩,C0⟩,f0⟩,_⟩:=hok;have x0:∀j,j<m→j∈a5a l m:=fun j hj=>by
  have:=List.all_eq_true.1 f0 j (List.mem_range.2 hj);simpa using this
 refine o8b hm z0 (fun f e w=>(∀i,f i=true→∀j∈E1a l i,f j=true)∧((f m=false∧C w∧∃lo Φ,lo≤w.heap.size∧(∀w w',Φ w→A0a [] w w'→Φ w')∧Φ w∧FL P N l C V K' lo (X8a m f) e [] Φ)∨(f m=true∧n D e w))) ⟨by simp,.inl ⟨Z,hC,w.heap.size,fun _=>True,Nat.le_refl _,fun _ _ _ _=>trivial,trivial,?_⟩⟩ ?_ ?_
 ·have:X8a m (fun _=>false)=List.range m:=by unfold X8a;simp
  rw[this];exact h
 ·rintro f e w i o ⟨e0,hM⟩ ho o0 q0;have A0:i<l.length:=(List.getElem?_eq_some_iff.1 ho).1;have a0:∀k,(f k||k==i)=true→∀j∈E1a l k,(f j||j==i)=true:=by
   intro k hk j hj;simp only[Bool.or_eq_true,beq_iff_eq] at hk ⊢;rcases hk with hk|rfl
   ·exact .inl (e0 k hk j hj)
   ·exact .inl (q0 j hj)
  rcases hM with⟨c0,m0,lo,Φ,v0,g0,hΦ,hM⟩|⟨c0,-⟩
  rotate_left
  ·have:=c4a e0 l.length (E1a l m) (e0 m c0) i (x0 i (by
    rcases Nat.lt_or_ge i m with h|h
    ·exact h
    ·have:i=m:=by omega
     subst this;rw[o0] at c0;cases c0))
   rw[o0] at this;cases this
  by_cases B0:i=m
  ·subst B0;obtain rfl:ol=o:=Option.some.inj (E0.symm.trans ho);have b0:∀j,j<i→f j=true:=fun j hj=>c4a e0 _ _ q0 j (x0 j hj);have r0:X8a i f=[]:=by
    unfold X8a;rw[List.filter_eq_nil_iff];intro j hj;simp[b0 j (List.mem_range.1 hj)]
   rw[r0] at hM;have h4:=hM w m0 hΦ;rw[←s0] at h4;clear hM h s0;unfold WL at *;refine fun a Q hs hD he hK=>h4 a Q hs hD he (fun a' w' F0 hh=>hK a' w' F0 ?_);exact⟨hh.1,a0,.inr ⟨by simp,hh.2⟩⟩
  have u0:i<m:=by omega
  have d0:(f m||m==i)=false:=by simp[c0];omega
  obtain⟨pre,_,h1,h2,h3⟩:=h2b (m:=m) f u0 o0;rw[h1] at hM;have G0:∀j∈a5a l i,f j=true:=c4a e0 _ _ q0;obtain⟨o',_,D0,hd,hN,h4⟩:=FL.first p0 (fun i f args Qp Qw h=>(hV i f args Qp Qw h).1) m0 v0 pre e [] Φ (fun j hj=>by
   have:=List.all_eq_true.1 (List.all_eq_true.1 C0 i (List.mem_range.2 u0)) j (List.mem_range.2 (h3 j hj).1);simp only[Bool.or_eq_true,List.contains_eq_mem,decide_eq_true_eq] at this;rcases this with h|h
   ·have:=G0 j h;rw[(h3 j hj).2] at this;cases this
   ·exact h) (by simp) hM
  obtain rfl:o'=o:=Option.some.inj (D0.symm.trans ho);rcases h4 with⟨hw,v,w',hv,j0,n0,h4⟩|⟨hw,h4⟩|⟨hw,f',args,Qp,Qw,t0,hv,h4⟩
  rotate_right
  ·unfold WL;intro a Q hs hD he hK;simp only[wpListIn];have i0:Region.wanted o' (yielded l.toArray a.tmps)=true:=by rw[G1a,he];exact hw
   simp only[i0,if_true];refine⟨G0a _ _ _,?_⟩;rw[Oper.semAt_eq _ _ _ (N0a p0 ho).2,E2a,he,hv,Oper.uponIn_enter];refine⟨fun hh=>by simp[fc,Fence.wide] at hh,j5a (Calls.mono ((hV _ _ _ _ _ t0).2.2 w m0) ?_)⟩;rintro en w' ⟨u,rfl,⟨hu,y0⟩,j0,n0⟩;rw[hd];refine hK _ _ (by simp[Act.put,hs]) ⟨by simp[Act.put,hD],?_⟩;rw[v1a u (by rw[hs];exact hN),he];exact⟨a0,.inl ⟨d0,j0,w'.heap.size,(fun w1=>(Φ w1∧Qw u w1)∧A0a [] w' w1),Nat.le_refl _,fun w1 w2 h5 h6=>⟨⟨g0 _ _ h5.1.1 h6,(hV _ _ _ _ _ t0).2.1 u _ _ h6 h5.1.2⟩,h5.2.trans h6⟩,⟨⟨g0 _ _ hΦ n0,y0⟩,A0a.refl _ _⟩,by rw[h2];exact h4 u w' hu y0 j0 n0⟩⟩
  ·unfold WL;intro a Q hs hD he hK;simp only[wpListIn];have i0:Region.wanted o' (yielded l.toArray a.tmps)=true:=by rw[G1a,he];exact hw
   simp only[i0,if_true];refine⟨G0a _ _ _,?_⟩;rw[Oper.semAt_eq _ _ _ (N0a p0 ho).2,E2a,he,hv,Oper.uponIn_value];refine hK _ _ (by simp[Act.put,hd,hs]) ⟨by simp[Act.put,hd,hD],?_⟩;rw[hd,v1a v (by rw[hs];exact hN),he];exact⟨a0,.inl ⟨d0,j0,w'.heap.size,(fun w1=>Φ w1∧A0a [] w' w1),Nat.le_refl _,fun w1 w2 h5 h6=>⟨g0 _ _ h5.1 h6,h5.2.trans h6⟩,⟨g0 _ _ hΦ n0,A0a.refl _ _⟩,by rw[h2];exact h4⟩⟩
  ·unfold WL;intro a Q hs hD he hK;simp only[wpListIn];have i0:Region.wanted o' (yielded l.toArray a.tmps)=false:=by rw[G1a,he];exact hw
   simp only[i0];refine⟨G0a _ _ _,?_⟩;refine hK _ _ (by simp[Act.put,hd,hs]) ⟨by simp[Act.put,hd,hD],?_⟩;rw[hd,v1a undef (by rw[hs];exact hN),he];exact⟨a0,.inl ⟨d0,m0,lo,Φ,v0,g0,hΦ,by rw[h2];exact h4⟩⟩
 ·rintro f e w ⟨e0,hM⟩ b0;rcases hM with⟨c0,-⟩|⟨-,hM⟩
  ·have:=b0 m (by omega);rw[c0] at this;cases this
  ·exact hM
theorem x6c{id:Nat}{n t:List Deferred→Env→World→Prop}{b:Nat→List Deferred→Env→World→Prop}{e:Env}{w:World}(hm:P.follows .mixedOrders=true)(ix:List Nat)
 (m:Nat) (C:World→Prop) (hC:C w.drew) (ol:Oper) (a0:l[m]?=some ol)
 (h:FL P N l C (fun _=>none) (fun e w=>WL P r N l.toArray [ol] (fun D' e' w'=>D'=D∧n D e' w') D e w) w.heap.size ix e [] (fun _=>True)) (hok:v6b l (fun _=>true) m=true:=by kernel_rfl) (hix:(List.range m==ix)=true:=by kernel_rfl):W P r N (.region id l.toArray true) ⟨n,b,t⟩ D e w :=
 j7b (hok:=hok) (hix:=hix) hm ix m C hC (fun _=>none) (fun _ _ _ _ _ h=>by cases h) ol a0 h
variable {lo:Nat} {gs:List Nat} {Φ:World→Prop} {e:Env} {w w0:World} {L:List Ent} {M:List Nat}
theorem J8b(h:∀w,C w→Φ w→K e w):FL P N l C V K lo [] e gs Φ:=h
theorem e7a{i:Nat}{rest:List Nat}{o:Oper}(ho:l[i]?=some o)(hv:Y3c o.op=true)(h:QL P N l.toArray C [o] (fun e'=>FL P N l C V K lo rest e' gs Φ) e):FL P N l C V K lo (i::rest) e gs Φ:=by
 unfold QL at h;obtain⟨pa,hl,hq,hk⟩:=h;obtain⟨d,v,h1,h2,h3,h4⟩:=hq 0 o Z;obtain rfl:pa=[(d,v)]:=by
  match pa,hl,h1 with
  | [x],_,h1=>simpa using h1
 refine⟨o,d,ho,h2,h3,.inl ⟨v,?_,hk⟩⟩;rcases h4 with⟨h5,h6⟩|h5
 ·refine .inl ⟨h5,fun w hw=>?_⟩;rcases h6 w hw with h7|⟨f,args,h7,_⟩
  ·exact h7
  ·obtain⟨_,hv'⟩:=v8a hv h7;cases hv'
 ·exact .inr h5
theorem G3b{i d:Nat}{rest:List Nat}{x:Operand}{ty size n c:Nat}{t:TypeId}{p:String}{af:Array Edge}{A:Option Addr}(ho:l[i]?=some ⟨some d,.call { callee:=.builtin .len,args:=#[x],argTypes:=#[ty] },t,p,af,none⟩)(hT:SlT P ty size)(hx:ev e x=.slice A n c)(hd:Nat.ble (d+1) N=true)
 (h:FL P N l C V K lo rest (upd e d (.int .i64 n)) gs Φ):FL P N l C V K lo (i::rest) e gs Φ:=by
 obtain⟨_,hu,_⟩:=hT;exact⟨_,d,ho,Z,Nat.le_of_ble_eq_true hd,.inl ⟨_,.inl ⟨Z,fun w _=>by simp[execOp,resolve,invoke,builtin,Builtin.len_,hx,run_underlying hu,goInt]⟩,h⟩⟩
theorem r2c{i d t:Nat}{rest:List Nat}{o:Oper}{mk:Nat→Value}{cs:LV}(ho:l[i]?=some o)(hd:o.dst=some d)(hN:Nat.ble (d+1) N=true)(hw:u1a l.toArray e o=true)
 (a0:∀w1,Cl M w0 w L w1→(execOp (ev e) o).run P w1=.ok (.value (mk w1.heap.size)) (w1.alloc (.cells cs.toArray t (0,0))))
 (h:∀g,lo≤g→g∉gs→FL P N l (Cl M w0 w L) V K lo rest (upd e d (mk g)) (g::gs) (fun w=>Φ w∧z0a w (g,t,cs))):FL P N l (Cl M w0 w L) V K lo (i::rest) e gs Φ :=
 ⟨o,d,ho,hd,Nat.le_of_ble_eq_true hN,.inr (.inl ⟨mk,t,cs,hw,fun w1 hC=>⟨_,a0 w1 hC,Cl.alloc _ _ hC,W2a _ _ _,by simp,by unfold z0a;show(w1.heap.push _)[w1.heap.size]?=_;simp⟩,h⟩)⟩
theorem L8b{i d el:Nat}{t:TypeId}{p:String}{af:Array Edge}{gd:Option (Nat×Bool)}{z:Value}{cs:LV}{rest:List Nat}
 (ho:l[i]?=some ⟨some d,.alloc el,t,p,af,gd⟩) (hN:Nat.ble (d+1) N=true) (hw:u1a l.toArray e ⟨some d,.alloc el,t,p,af,gd⟩=true) (hz:∀w,(zeroValue el).run P w=.ok z w) (a0:z.cells.toList=cs)
 (h:∀g,lo≤g→g∉gs→FL P N l (Cl M w0 w L) V K lo rest (upd e d (.pointer (some ⟨g,0,none⟩))) (g::gs) (fun w=>Φ w∧z0a w (g,el,cs))):FL P N l (Cl M w0 w L) V K lo (i::rest) e gs Φ:=by
 refine r2c (mk:=fun g=>.pointer (some ⟨g,0,none⟩)) ho Z hN hw (fun w1 _=>?_) h;subst a0;simp[execOp,Instr.alloc,newVar,newRow,hz]
theorem Z8a{i d:Nat}{rest:List Nat}{t:TypeId}{p:String}{af:Array Edge}{args:Array Operand}{at_:Array TypeId}{g:Operand}{caps:Array Value}{f:FuncId}{vs:LV}{Qp:Value→Prop}{Qw:Value→World→Prop}(hH:Has P f)
 (ho:l[i]?=some ⟨some d,.call { callee:=.value g,args:=args,argTypes:=at_ },t,p,af,none⟩) (hN:Nat.ble (d+1) N=true)
 (hw:u1a l.toArray e ⟨some d,.call { callee:=.value g,args:=args,argTypes:=at_ },t,p,af,none⟩=true) (hg:ev e g=.func (.func f) #[] caps) (a0:args.toList.map (ev e)++caps.toList=vs) (hV:V i=some (f,vs.toArray,Qp,Qw))
 (h:∀u,Qp u→FL P N l C V K lo rest (upd e d u) gs (fun w=>Φ w∧Qw u w)):FL P N l C V K lo (i::rest) e gs Φ:=by
 refine⟨_,d,ho,Z,Nat.le_of_ble_eq_true hN,.inr (.inr ⟨f,vs.toArray,Qp,Qw,hV,hw,fun w1 _=>?_,h⟩)⟩;subst a0;have:(args.map (ev e)++caps)=(args.toList.map (ev e)++caps.toList).toArray:=by apply Array.ext';simp
 simp[execOp,resolve,Deferred.ofValue,invoke,hg,hH _ w1,this]
def eqQ(v:Value):Value→Prop:=fun u=>u=v
def noQ:Value→World→Prop:=fun _ _=>True
theorem U3b{i d:Nat}{rest:List Nat}{t:TypeId}{p:String}{af:Array Edge}{args:Array Operand}{at_:Array TypeId}{f:FuncId}{vs:LV}{v:Value}(hH:Has P f)
 (ho:l[i]?=some ⟨some d,.call { callee:=.value (.func f),args:=args,argTypes:=at_ },t,p,af,none⟩) (hN:Nat.ble (d+1) N=true)
 (hw:u1a l.toArray e ⟨some d,.call { callee:=.value (.func f),args:=args,argTypes:=at_ },t,p,af,none⟩=true) (a0:args.toList.map (ev e)=vs) (hV:V i=some (f,vs.toArray,eqQ v,noQ))
 (h:FL P N l C V K lo rest (upd e d v) gs Φ):FL P N l C V K lo (i::rest) e gs Φ :=
 Z8a (caps:=#[]) hH ho hN hw Z (by simpa using a0) hV fun u hu=>by
  cases hu;exact FL.mono _ _ gs gs _ _ (fun x hx hn=>⟨hx,hn⟩) (fun w1 b0=>b0.1) h
theorem q3a{i d ty el size b0 n:Nat}{t:TypeId}{p:String}{af:Array Edge}{gd:Option (Nat×Bool)}{z:Value}{a0:Array (Nat×Operand)}{vs:LV}{cs:LV}{rest:List Nat}
 (ho:l[i]?=some ⟨some d,.buildSlice ty n a0,t,p,af,gd⟩) (hN:Nat.ble (d+1) N=true) (hw:u1a l.toArray e ⟨some d,.buildSlice ty n a0,t,p,af,gd⟩=true) (hS:SlZ P ty el size z b0)
 (hn:vs.length=n) (h0:Nat.ble 1 n=true) (c0:Nat.ble (n*size) 16777216=true) (hv:vs.map (·.cells.size)=List.replicate n size)
 (e0:vs.flatMap (·.cells.toList)=cs)
 (h:∀g,lo≤g→g∉gs→FL P N l (Cl M w0 w L) V K lo rest (upd e d (.slice (some ⟨g,0,none⟩) n n)) (g::gs) (fun w=>Φ w∧z0a w (g,el,cs))) (f0:a0.toList.map (fun q=>(q.1,ev e q.2))=(vs.zipIdx 0).map fun q=>(q.2,q.1):=by rfl):FL P N l (Cl M w0 w L) V K lo (i::rest) e gs Φ:=by
 have hp:(a0.map fun(i,x)=>(i,ev e x))=((vs.zipIdx 0).map fun q=>(q.2,q.1)).toArray:=by rw[←f0];apply Array.ext';simp
 have hv':∀v∈vs,v.cells.size=size:=fun v hm=>by
  have:v.cells.size∈vs.map (·.cells.size):=List.mem_map.2 ⟨v,hm,Z⟩;rw[hv] at this;exact(List.mem_replicate.1 this).2
 refine r2c (mk:=fun g=>.slice (some ⟨g,0,none⟩) n n) (t:=el) (cs:=cs) ho Z hN hw (fun w1 _=>?_) h;have d0:=V5a hS hn (Nat.le_of_ble_eq_true h0) (Nat.le_of_ble_eq_true c0) hv' w1;subst e0;simp only[execOp,hp,Sem.run_bind,d0,Result.andThen_ok,Sem.run_pure]
theorem j0b{i d:Nat}{t:TypeId}{p:String}{af:Array Edge}{gd:Option (Nat×Bool)}{x y:Operand}{rest:List Nat}
 {ty el a0 n c:Nat} {z:Value} {kl kc:IntKind} (ho:l[i]?=some ⟨some d,.makeSlice ty x y,t,p,af,gd⟩) (hN:Nat.ble (d+1) N=true) (hw:u1a l.toArray e ⟨some d,.makeSlice ty x y,t,p,af,gd⟩=true)
 (hS:SlZ P ty el 1 z a0) (hx:ev e x=.int kl (n:Int)) (hy:ev e y=.int kc (c:Int))
 (d0:z.cells=#[z])
 (h:∀g,lo≤g→g∉gs→FL P N l (Cl M w0 w L) V K lo rest (upd e d (.slice (some ⟨g,0,none⟩) n c)) (g::gs) (fun w=>Φ w∧z0a w (g,el,List.replicate c z))) (e0:n≤c:=by omega) (hb:a0*c≤140737488355328:=by omega) (hc:c≤140737488355328:=by omega):FL P N l (Cl M w0 w L) V K lo (i::rest) e gs Φ:=by
 obtain⟨ii,hi,hz,c0,hby⟩:=hS.parts;have b0:(ii.bytes:Int)*(c:Int)≤281474976710656:=by
  have:((a0*c:Nat):Int)≤281474976710656:=by omega
  rw[hby];rwa [Int.natCast_mul] at this
 refine r2c (mk:=fun g=>.slice (some ⟨g,0,none⟩) n c) (t:=el) (cs:=List.replicate c z) ho Z hN hw (fun w1 _=>?_) h;have hr:=run_make (P:=P) w1 ty el ii z hS.und hi hz kl kc n c (by omega) (by omega) b0 (by omega);have hm:madeCells z.cells (c*ii.size)=(List.replicate c z).toArray:=by
  rw[d0,c0,Nat.mul_one];apply Array.ext
  ·simp[madeCells]
  ·intro j h1 h2;simp[madeCells,Nat.mod_one]
 simp only[Int.toNat_natCast,hm] at hr;simp only[execOp,hx,hy,Sem.run_bind,hr,Result.andThen_ok,Sem.run_pure]
end
section
variable {α:Type}
def b3a(l:List α)(z:α)(k:Nat):List α:=l.take k++List.replicate (l.length-k) z
theorem F6a(l:List α)(z:α):b3a l z 0=List.replicate l.length z:=by simp[b3a]
theorem X7a(l:List α)(z:α){k:Nat}(h:l.length≤k):b3a l z k=l:=by
 unfold b3a;rw[List.take_of_length_le h,Nat.sub_eq_zero_of_le h];simp
@[simp] theorem R3c(l:List α)(z:α)(k:Nat):(b3a l z k).length=l.length:=by
 unfold b3a;simp;omega
theorem Q7a{l:List α}{z v:α}{k i:Nat}(h:l[k]?=some v)(hi:i=k):(b3a l z k).set i v=b3a l z (k+1):=by
 subst hi;obtain⟨a0,rfl⟩:=List.getElem?_eq_some_iff.1 h;unfold b3a;rw[List.set_append_right _ _ (by simp;omega)];have h1:l.length-i=(l.length-(i+1))+1:=by omega
 rw[h1,List.replicate_succ];simp only[List.length_take,Nat.min_eq_left (Nat.le_of_lt a0),Nat.sub_self,List.set_cons_zero];rw[O0a h,List.append_assoc];rfl
theorem A7b{l:List α}{z:α}{k:Nat}(h:l[k]?=some z):b3a l z k=b3a l z (k+1):=by
 obtain⟨_,_⟩:=List.getElem?_eq_some_iff.1 h;unfold b3a;have h1:l.length-k=(l.length-(k+1))+1:=by omega
 rw[h1,List.replicate_succ,O0a h];simp
end
theorem St.setEnt{M:List Nat}{w0 w:World}{L:List Ent}(S:St M w0 w L)(j:Nat){G:Option Nat}{t:TypeId}{cs a0:LV}(hj:L[j]?=some (G,t,cs))(h:cs=a0):St M w0 w (L.set j (G,t,a0)):=by
 subst h;have:L.set j (G,t,cs)=L:=by
  obtain⟨_,he⟩:=List.getElem?_eq_some_iff.1 hj;rw[←he];simp
 rw[this];exact S
theorem St.rdInts{M M':List Nat}{w0 w:World}{L:List Ent}(S:St M' w0 w L)(j:Nat){g t n:Nat}{l:List Int}(hj:L[j]?=some (some g,t,l.map (Value.int .i64)))(hg:g∉M)(hn:n=l.length)(a0:n≤140737488355328)(hl:∀x∈l,i64 x):RdI M w (.slice (some ⟨g,0,none⟩) n n) l :=
 S.rd1 hj hg hn a0 fun i x hi=>⟨.int .i64 x,by simp[hi],Z,hl x (List.mem_of_getElem? hi)⟩
theorem a2a{α:Type}{M:List Nat}{w:World}{size:Nat}{R:LV→α→Prop}:RdS M w size R (.slice none 0 0) []:=⟨none,0,0,Z,Z,Nat.le_refl _,by unfold maxLen;omega,by omega,fun h=>absurd h (by omega)⟩
theorem St.rdBufs{M M':List Nat}{w0 w:World}{L:List Ent}(S:St M' w0 w L)(j:Nat){g t n:Nat}{l:List (List J0a)}(hj:L[j]?=some (some g,t,List.replicate n (.slice none 0 0)))(hg:g∉M)(hn:n=l.length)(a0:n≤140737488355328)(hl:∀b∈l,b=[]):V0d M w (.slice (some ⟨g,0,none⟩) n n) l :=
 S.rd1 hj hg hn a0 fun i x hi=>by
  obtain rfl:=hl x (List.mem_of_getElem? hi);have:=(List.getElem?_eq_some_iff.1 hi).1;exact⟨.slice none 0 0,by rw[List.getElem?_replicate,if_pos (by omega)],_,Z,a2a⟩
@[simp] theorem N3c(p:g0a):(k1a p).mem.length=p.cells.length:=by simp[k1a]
@[simp] theorem e5c(p:g0a):(k1a p).at_.length=p.threads.length:=by simp[k1a]
theorem B3a{p:g0a}(hp:q1a p){m:List Int}(h:M6a p m):∀x∈m,i64 x:=fun x hx=>by
 obtain⟨i,hi,rfl⟩:=List.getElem_of_mem hx;have:=h.vals i _ (List.getElem?_eq_getElem hi);have:=v0b hp i;unfold i64;omega
theorem b7a{p:g0a}(hp:q1a p){c:E0a}(h:U5a p c):∀x∈c.at_,i64 x:=fun x hx=>by
 have:=(T9b hp h).2.1 x hx;unfold i64;omega
theorem I7a(p:g0a)(M:List Nat)(w0:World)(cs:LV)(hI:InP p M w0 cs):
 M0a prog 68 #[.agg cs.toArray] w0 fun v w'=>v=.bool true∧Bw w0 w':=by
 obtain⟨_,_,_,_,_,_,_,_,_,_,_,_,rfl,_⟩:=hI.rd.open_;have S:=St.refl w0;refine a0a func68 Z ntmps68 Z ?_;refine wO1 Z (i0a S Z ?_);intro g1 w1 S1 X1 G1;refine lO S1.k [.w 0] Z ⟨⟨Z,by rfl⟩,U⟩ (y0a S1 x9b Z Z (k1b p M _ _ (hI.keep (S1.keep0 M)).rd hI.ok (hI.keep (S1.keep0 M)).msk (hI.keep (S1.keep0 M)).lt) ?_);intro w8 S8 X8;refine lB1 Z (fun a0=>?_) (fun a0=>by exfalso;omega);exact lU Z Z ⟨Z,S8.fin⟩
theorem A1b(p:g0a)(c:E0a)(M:List Nat)(w0:World)(cs xs:LV)(hI:InP p M w0 cs)(hX:B0a M w0 c xs)(hf:U5a p c)(he:∀b∈c.buf,b=[]):
 M0a prog 69 #[.agg cs.toArray,.agg xs.toArray] w0 fun v w'=>v=.bool true∧Bw w0 w':=by
 obtain⟨Ac,nc,cc,Am,nm,cm,Al,nl,cl,At,nt,ct,rfl,hC,_,_,j1,_⟩:=hI.rd.open_;obtain⟨Xm,xm,ym,Xa,xa,ya,Xb,xb,yb,rfl,x0,i1,i0,_,_,j0,_⟩:=hX.open_;have S:=St.refl w0;have f1:=hf.mem.len;have f2:=hf.nat;have f3:=hf.nbuf;refine a0a func69 Z ntmps69 Z ?_;refine wO1 Z (i0a S Z ?_);intro g2 w2 S2 X2 G2;refine i0a S2 Z ?_;intro g3 w3 S3 X3 G3;refine lB S3.k [.o 0,.o 1] Z ⟨Z,Z,U⟩ (fun V0=>by exfalso;omega) fun V0=>?_;refine lB S3.k [.o 0,.o 1] Z ⟨Z,Z,U⟩ (fun W0=>by exfalso;omega) fun W0=>?_;refine lB S3.k [.o 0,.o 1] Z ⟨Z,Z,U⟩ (fun X0=>by exfalso;omega) fun X0=>?_;refine lC S3.k [.o 0] Z ⟨Z,U⟩ (wL (fun μk D ε w=>D=[]∧∃k:Nat,(k+μk=(c.mem.length))∧St [] w0 w [(some g3,71,[.slice Xm xm ym,.slice Xa xa ya,.slice Xb xb yb]),(some g2,27,pL Ac nc cc Am nm cm Al nl cl At nt ct)]∧Sl ε [(2,.pointer (some ⟨g2,0,none⟩)),(3,.pointer (some ⟨g3,0,none⟩)),(36,.slice Xm xm ym),(37,.int .i64 xm),(38,.int .i64 k)]) (μ:=(c.mem.length)) ⟨Z,0,by omega,S3,Z⟩ ?_);rintro μk D ε w ⟨rfl,k,hk,S,eZ⟩;refine wK eZ (wB1 Z (fun Y0=>?_) fun Y0=>?_)
 ·obtain⟨v,Q0,m1,_,J0,r0,_,_,y0,E0⟩:=RdS.get (x0) (k) (by omega);obtain⟨rfl,_⟩:=id E0;have q1:=hf.mem.vals k v J0;refine lB (S.k.a y0) [.x Q0 m1,.f 0 0] Z ⟨Z,⟨r0,by omega⟩,U⟩ (fun Z0=>by exfalso;omega) fun Z0=>?_;obtain⟨x,R0,n1,_,O0,s0,_,_,z0,F0⟩:=RdS.get (hC) (k) (by omega);obtain⟨rfl,_⟩:=U2a.open_ F0;have q2:=(hI.ok.cells x (c0a O0)).w;rw[w3d O0,G2a] at q1;refine lO (S.k.a z0) [.o 1,.x R0 n1,.f 0 1] Z ⟨Z,⟨s0,by omega⟩,Z,U⟩ ?_;rw[show x.w=((x.w.toNat:Nat):Int) by omega];refine r6c (n:=x.w.toNat) Z Z ?_;refine lB1 Z (fun a1=>by exfalso;omega) fun a1=>?_;refine lP1 Z ⟨μk-1,by omega,Z,k+1,by omega,S,Z⟩
 refine lC S.k [.o 0] Z ⟨Z,U⟩ (wL (fun μk D ε w=>D=[]∧∃k:Nat,(k+μk=(c.at_.length))∧St [] w0 w [(some g3,71,[.slice Xm xm ym,.slice Xa xa ya,.slice Xb xb yb]),(some g2,27,pL Ac nc cc Am nm cm Al nl cl At nt ct)]∧Sl ε [(2,.pointer (some ⟨g2,0,none⟩)),(3,.pointer (some ⟨g3,0,none⟩)),(58,.slice Xa xa ya),(59,.int .i64 xa),(60,.int .i64 k)]) (μ:=(c.at_.length)) ⟨Z,0,by omega,S,Z⟩ ?_);rintro μk D ε w ⟨rfl,k,hk,S,eZ⟩;refine wK eZ (wB1 Z (fun b1=>?_) fun b1=>?_)
 ·obtain⟨v,S0,o1,_,J0,t0,_,_,A0,G0⟩:=RdS.get (i1) (k) (by omega);obtain⟨rfl,_⟩:=id G0;obtain⟨th,T0,p1,_,I0,u0,_,C0,B0,H0⟩:=RdS.get (j1) (k) (by omega);obtain⟨_,_,_,_,_,_,_,_,_,_,_,_,rfl,_⟩:=S0a.open_ H0;have q1:=hf.atr k v J0 th I0;refine lO ((S.k.a B0).a A0) [.x S0 o1,.f 0 0,.o 1,.x T0 p1,.v 1] Z ⟨⟨Z,C0⟩,⟨u0,by omega⟩,Z,Z,⟨t0,by omega⟩,U⟩ (m0a S o4b Z Z ?_);intro g9 w9 S9 X9 G9;refine f0a (kk:=0) (vs:=[_,_,_,_,_,_,_]) S9 P4b Z Z Z Z Z Z Z ?_;intro P0 a0 N0;dsimp only[o0a,List.set] at a0;refine lB1 Z (fun c1=>by exfalso;omega) fun c1=>?_;refine lB a0.k [.o 0] Z ⟨Z,U⟩ (fun d1=>by exfalso;omega) fun d1=>?_;refine lB1 Z (fun g1=>?_) fun g1=>?_
  ·refine lO1 Z ?_;cases b0:th.asleep
   ·refine v0a d2a Z (by exact(a0.cell 0 Z Z).trans (congrArg (fun b=>some (Value.bool b)) b0)) Z ?_;rw[q1.2.2 (by omega)] at b0;refine lR1 Z (t0a Z ?_);cases b0
   refine v0a d2a Z (by exact(a0.cell 0 Z Z).trans (congrArg (fun b=>some (Value.bool b)) b0)) Z ?_;rw[q1.2.2 (by omega)] at b0;obtain⟨b,n0,L0,U0,j0,d0,v0,D0,e0,f0⟩:=RdS.get (i0) (k) (by omega);obtain⟨m0,K0,p0,rfl,g0,c0,o0⟩:=V4a.open_ f0;have q2:=he b (c0a j0);subst q2;simp only[List.length_nil] at c0;refine lB (a0.k.a e0) [.o 1,.x n0 L0,.f 0 0] Z ⟨Z,⟨d0,by omega⟩,Z,U⟩ (fun q0=>by exfalso;omega) fun q0=>?_;refine lP1 Z ⟨μk-1,by omega,Z,k+1,by omega,a0.tail,Z⟩
  obtain⟨b,n0,L0,U0,j0,d0,v0,D0,e0,f0⟩:=RdS.get (i0) (k) (by omega);obtain⟨m0,K0,p0,rfl,g0,c0,o0⟩:=V4a.open_ f0;have q2:=he b (c0a j0);subst q2;simp only[List.length_nil] at c0;refine lB (a0.k.a e0) [.o 1,.x n0 L0,.f 0 0] Z ⟨Z,⟨d0,by omega⟩,Z,U⟩ (fun q0=>by exfalso;omega) fun q0=>?_;refine lP1 Z ⟨μk-1,by omega,Z,k+1,by omega,a0.tail,Z⟩
 exact lU Z Z ⟨Z,S.fin⟩
theorem k6b(p:g0a)(M:List Nat)(w0:World)(cs:LV)(hI:InP p M w0 cs):
 M0a prog 31 #[.agg cs.toArray] w0 fun v w'=>(∃xs,v=.agg xs.toArray∧B0a M w' (k1a p) xs)∧Bw w0 w':=by
 obtain⟨Ac,nc,cc,Am,nm,cm,Al,nl,cl,At,nt,ct,rfl,hC,_,_,T0,F0,_,_,u0,bc,_,_,bt⟩:=hI.rd.open_;have S:=St.refl w0;have hp:=hI.ok;have n1:=hp.ncells;have n2:=hp.nthreads;refine a0a func31 Z ntmps31 Z ?_;refine wO1 Z (i0a S Z ?_);intro g1 w1 S1 X1 G1;refine m0a S1 t4a Z Z ?_;intro g2 w2 S2 X2 G2;refine lO S2.k [.w 1] Z ⟨⟨Z,Z⟩,U⟩ (y0a S2 z3c Z Z (I7a p M _ _ (hI.keep (S2.keep0 M))) ?_);intro w7 S7 X7;refine lC1 Z (x6c b0a [0,1,2,3,4,5,6,7,8,9,10,11,12,13] 14 (Cl _ _ _ _) (Cl.start S7) _ Z ?_);refine e7a Z Z ?_;refine H0a t3c Z Z ?_;refine e0a ?_;refine e7a Z Z ?_;refine p0a t0b Z (fun w1 hw=>by exact hw.1.cell 1 Z Z) Z ?_;refine e0a ?_;refine G3b Z Y6a.slT Z Z ?_;refine j0b (n:=nc) (c:=nc) Z Z Z X0a Z Z Z ?_;intro j0 K0 y0;refine e7a Z Z ?_;refine H0a g7b Z Z ?_;refine e0a ?_;refine e7a Z Z ?_;refine p0a C5b Z (fun w1 hw=>by exact hw.1.cell 1 Z Z) Z ?_;refine e0a ?_;refine G3b Z a9b.slT Z Z ?_;refine j0b (n:=nt) (c:=nt) Z Z Z X0a Z Z Z ?_;intro m0 L0 z0;refine e7a Z Z ?_;refine H0a g7b Z Z ?_;refine e0a ?_;refine e7a Z Z ?_;refine p0a C5b Z (fun w1 hw=>by exact hw.1.cell 1 Z Z) Z ?_;refine e0a ?_;refine G3b Z a9b.slT Z Z ?_;refine j0b (n:=nt) (c:=nt) Z Z Z A3a Z Z Z ?_;intro n0 N0 A0;refine e7a Z Z ?_;refine D3a B5a (vs:=[(0,.slice _ _ _),(1,.slice _ _ _),(2,.slice _ _ _)]) (cs:=[_,_,_]) Z Z Z Z ?_;refine e0a ?_;refine L8b Z Z Z t4a Z ?_;intro g3 G3 W0;refine J8b ?_;rintro Z0 ⟨b0,_⟩ ⟨⟨⟨⟨-,r0⟩,s0⟩,t0⟩,U0⟩;clear y0;replace b0:=b0.push_new S7 r0 K0;replace b0:=b0.push_more (L1:=[_]) S7 s0 L0 (by simpa[eq_comm] using z0);replace b0:=b0.push_more (L1:=[_,_]) S7 t0 N0 (by simpa[eq_comm] using A0);replace b0:=b0.push_more (L1:=[_,_,_]) S7 U0 G3 (by simpa[eq_comm] using W0);refine f0a (kk:=0) (vs:=[_,_,_]) b0 n2a Z Z Z Z Z Z Z ?_;intro I0 a0 D0;dsimp only[o0a,List.set] at a0;refine D0a ⟨Z,?_⟩;refine fC a0.k [.o 5] Z ⟨Z,U⟩ ?_;refine wL (fun μk D ε w=>D=[]∧∃k:Nat,(k+μk=(p.cells.length))∧St [] w0 w [(some g3,71,[.slice (some ⟨j0,0,none⟩) nc nc,.slice (some ⟨m0,0,none⟩) nt nt,.slice (some ⟨n0,0,none⟩) nt nt]),(some n0,189,(List.replicate nt (.slice none 0 0))),(some m0,3,(List.replicate nt (.int .i64 0))),(some j0,3,b3a ((k1a p).mem.map (Value.int .i64)) (.int .i64 0) k),(some g2,71,[.slice none 0 0,.slice none 0 0,.slice none 0 0]),(some g1,27,pL Ac nc cc Am nm cm Al nl cl At nt ct)]∧Sl ε [(1,.pointer (some ⟨g1,0,none⟩)),(2,.pointer (some ⟨g2,0,none⟩)),(3,.pointer (some ⟨g3,0,none⟩)),(25,.int .i64 nc),(26,.int .i64 k)]) (μ:=(p.cells.length)) ⟨Z,0,by omega,(a0.setEnt 3 Z (by rw[F6a];simp[k1a,F0])),Z⟩ ?_;rintro μk D ε w ⟨rfl,k,_,S,eZ⟩;refine wK eZ (wB1 Z (fun R0=>?_) fun R0=>?_)
 ·refine lC1 Z (x0a b0a [0,1,2,3,4,5,6,7,8,9] [] [10] Z (Cl _ _ _ _) (Cl.start S) ?_);obtain⟨x,P0,X0,_,V0,o0,_,_,q0,v0⟩:=RdS.get (hC) (k) (by omega);obtain⟨rfl,_⟩:=U2a.open_ v0;refine qO (S.q.a q0) [.o 0,.o 5,.x P0 X0,.f 0 2] Z ⟨Z,⟨o0,by omega⟩,Z,Z,U⟩ (q0a X0a.slT Z (by rfl) Z Z ?_);refine lV Z ?_;rintro a1 ⟨O0,_⟩
  first|refine r0a (kk:=3) O0 h8a Z Z Z (by(simp;omega)) ?_
  intro J0 f0 E0;refine lP1 Z ⟨μk-1,by omega,Z,k+1,by omega,(f0.setEnt 3 Z (Q7a (by simp[k1a,V0]) (by simp))),Z⟩
 refine lC S.k [.o 5] Z ⟨Z,U⟩ ?_;refine wL (fun μj D ε w=>D=[]∧∃j:Nat,(j+μj=(p.threads.length))∧St [] w0 w [(some g3,71,[.slice (some ⟨j0,0,none⟩) nc nc,.slice (some ⟨m0,0,none⟩) nt nt,.slice (some ⟨n0,0,none⟩) nt nt]),(some n0,189,(List.replicate nt (.slice none 0 0))),(some m0,3,b3a ((k1a p).at_.map (Value.int .i64)) (.int .i64 0) j),(some j0,3,(k1a p).mem.map (Value.int .i64)),(some g2,71,[.slice none 0 0,.slice none 0 0,.slice none 0 0]),(some g1,27,pL Ac nc cc Am nm cm Al nl cl At nt ct)]∧Sl ε [(1,.pointer (some ⟨g1,0,none⟩)),(2,.pointer (some ⟨g2,0,none⟩)),(3,.pointer (some ⟨g3,0,none⟩)),(42,.int .i64 nt),(43,.int .i64 j)]) (μ:=(p.threads.length)) ⟨Z,0,by omega,((S.setEnt 3 Z (X7a _ _ (by simp[k1a];omega))).setEnt 2 Z (by rw[F6a];simp[k1a,u0])),Z⟩ ?_;rintro μj D ε w ⟨rfl,j,_,S,eZ⟩;refine wK eZ (wB1 Z (fun S0=>?_) fun S0=>?_)
 ·obtain⟨th,Q0,Y0,_,i0,p0,_,_,g0,x0⟩:=RdS.get (T0) (j) (by omega);obtain⟨_,_,_,_,_,_,_,_,_,_,_,_,rfl,_⟩:=S0a.open_ x0;refine lO S.k [.o 5,.x Q0 Y0] Z ⟨⟨p0,by omega⟩,Z,U⟩ ?_;cases c0:th.asleep
  ·refine v0a d2a Z (by exact(S.old (g0 _ _ Z)).trans (congrArg (fun b=>some (Value.bool b)) c0)) Z ?_;refine lP1 Z ⟨μj-1,by omega,Z,j+1,by omega,(S.setEnt 2 Z (by exact A7b (by simp[k1a,i0,c0]))),Z⟩
  refine v0a d2a Z (by exact(S.old (g0 _ _ Z)).trans (congrArg (fun b=>some (Value.bool b)) c0)) Z ?_;refine lO S.k [.o 0] Z ⟨Z,U⟩ (L0a X0a.slT Z Z Z ?_)
  first|refine r0a (kk:=2) S h8a Z Z Z (by(simp;omega)) ?_
  intro G0 e0 B0;refine lP1 Z ⟨μj-1,by omega,Z,j+1,by omega,(e0.setEnt 2 Z (by exact Q7a (by simp[k1a,i0,c0]) (by simp))),Z⟩
 refine lO S.k [.w 0] Z ⟨⟨Z,Z⟩,U⟩ ?_
 first|refine f0a (kk:=4) (vs:=[_,_,_]) S n2a Z Z Z Z Z Z Z ?_
 intro H0 d0 C0;dsimp only[o0a,List.set] at d0;refine lR1 Z ?_;have SF:=d0.setEnt 2 Z (X7a _ _ (by simp[k1a];omega));have hf:=A9a hp;exact L1a (n:=3) Z V0a Z (SF.cells 4 Z) Z ⟨⟨_,Z,_,_,_,Z,SF.rdInts 3 Z (Y0a hI.lt (SF.new 3 Z)) (by simp[k1a,F0]) bc (B3a hp hf.mem),SF.rdInts 2 Z (Y0a hI.lt (SF.new 2 Z)) (by simp[k1a,u0]) bt (b7a hp hf),SF.rdBufs 1 Z (Y0a hI.lt (SF.new 1 Z)) (by simp[k1a,u0]) bt (by simp[k1a])⟩,SF.fin⟩
theorem u4c{size:Nat}:∀(css:List LV) (i:Nat) (c:LV),(∀x∈css,x.length=size)→css[i]?=some c→∀(j:Nat) (u:Value),c[j]?=some u→css.flatten[i*size+j]?=some u:=by
 intro css
 induction css with
 | nil=>intro i c _ h;simp at h
 | cons x xs ih =>
   intro i c h4 hi j u hj;have hx:=h4 x (by simp);cases i with
   | zero =>
     simp at hi;subst hi;have a0:j<x.length:=(List.getElem?_eq_some_iff.1 hj).1;rw[List.flatten_cons,Nat.zero_mul,Nat.zero_add,List.getElem?_append_left a0];exact hj
   | succ i =>
     have:=ih i c (fun y hy=>h4 y (by simp[hy])) (by simpa using hi) j u hj;have e:(i+1)*size+j=x.length+(i*size+j):=by rw[hx,Nat.add_mul];omega
     rw[List.flatten_cons,e,List.getElem?_append_right (by omega)];rw[show x.length+(i*size+j)-x.length=i*size+j by omega];exact this
theorem u5a{size:Nat}(css:List LV)(h4:∀x∈css,x.length=size):css.flatten.length=css.length*size:=by
 induction css with
 | nil=>simp
 | cons x xs ih=>rw[List.flatten_cons,List.length_append,ih (fun y hy=>h4 y (by simp[hy])),h4 x (by simp),List.length_cons,Nat.add_mul];omega
structure E8a {α:Type} (R:List Nat→World→LV→α→Prop) (size:Nat):Prop where
 len:∀{M w cs x},R M w cs x→cs.length=size
 one:∀{M w cs x},R M w cs x→∀u∈cs,u.oneCell'=true
 keep:∀{M w w' cs x},A0a M w w'→R M w cs x→R M w' cs x
 more:∀{M M' w cs x},(∀g∈M',g∈M∨w.heap.size≤g)→R M w cs x→R M' w cs x
variable {P:Program} {r:Option Nat} {N:Nat} {D:List Deferred} {e:Env} {w w0:World} {ops:Array Oper} {rest:List Oper} {K:List Deferred→Env→World→Prop} {L:List Ent} {M:List Nat}
section
variable {α:Type} {R:List Nat→World→LV→α→Prop} {size:Nat}
def A1a(R:List Nat→World→LV→α→Prop)(size:Nat)(M:List Nat)(w:World)(G:Option Nat)(cs:LV)(v:Value)(l:List α):Prop :=
 ∃css:List LV,css.length=l.length∧(∀x∈css,x.length=size)∧E3a G size l.length cs v css.flatten∧∀(i:Nat) (x:α),l[i]?=some x→∃c,css[i]?=some c∧R (G.toList++M) w c x
theorem A1a.keep(hL:E8a R size){M:List Nat}{w w':World}{G:Option Nat}{cs:LV}{v:Value}{l:List α}(h:A1a R size M w G cs v l)(hk:A0a (G.toList++M) w w'):A1a R size M w' G cs v l:=by
 obtain⟨css,h1,h2,h3,h4⟩:=h;refine⟨css,h1,h2,h3,fun i x hi=>?_⟩;obtain⟨c,h5,h6⟩:=h4 i x hi;exact⟨c,h5,hL.keep hk h6⟩
theorem A1a.nil{M:List Nat}{w:World}:A1a R size M w none [] (.slice none 0 0) []:=⟨[],Z,by simp,E3a.nil size,fun i x hi=>by simp at hi⟩
theorem A1a.new{M:List Nat}{w:World}{g:Nat}:A1a R size M w (some g) [] (.slice (some ⟨g,0,none⟩) 0 0) [] :=
 ⟨[],Z,by simp,⟨by simp,.inr ⟨g,0,Z,Z,Nat.le_refl _,by unfold maxLen;omega,by simp,by simp⟩⟩,fun i x hi=>by simp at hi⟩
theorem A1a.form{M:List Nat}{w:World}{G:Option Nat}{cs:LV}{v:Value}{l:List α}(h:A1a R size M w G cs v l):∃A c,v=.slice A l.length c:=by
 obtain⟨_,_,_,⟨_,hr⟩,_⟩:=h;rcases hr with⟨_,rfl,h0⟩|⟨g,a0,_,rfl,_⟩
 ·exact⟨_,_,by rw[h0]⟩
 ·exact⟨_,_,Z⟩
theorem A1a.rd(hL:E8a R size){M M':List Nat}{w0 w:World}{L:List Ent}{k el:Nat}{G:Option Nat}{cs:LV}{v:Value}{l:List α}(h:A1a R size M w G cs v l)(S:St M' w0 w L)(hk:L[k]?=some (G,el,cs))(hM:∀g,G=some g→g∉M)(hl:l.length≤1000000):RdS M w size (R M w) v l:=by
 obtain⟨css,h1,h2,⟨_,hr⟩,h4⟩:=h;rcases hr with⟨rfl,rfl,h0⟩|⟨g,b0,rfl,rfl,q1,q2,q3,q4⟩
 ·exact⟨none,0,0,Z,by omega,by omega,by unfold maxLen;omega,by omega,fun h=>absurd h (by omega)⟩
 ·refine⟨_,_,_,Z,Z,q1,q2,by omega,fun _=>⟨g,0,Z,hM g Z,fun i x hi=>?_⟩⟩;obtain⟨c,h5,h6⟩:=h4 i x hi;refine⟨c,h2 c (List.mem_of_getElem? h5),fun j u hj=>?_,hL.more (fun x hx=>.inl (by simp[hx])) h6⟩;have hf:=u4c css i c h2 h5 j u hj;have a0:i*size+j<l.length*size:=by
   have:=(List.getElem?_eq_some_iff.1 hf).1;rw[u5a css h2,h1] at this;exact this
  rw[←q4,List.getElem?_take,if_pos a0] at hf;have:=S.cell k hk hf;simpa using this
theorem A1a.get{M M':List Nat}{w0 w:World}{L:List Ent}{k el:Nat}{G:Option Nat}{cs:LV}{v:Value}{l:List α}(h:A1a R size M w G cs v l)(S:St M' w0 w L)(hk:L[k]?=some (G,el,cs)){i:Nat}{x:α}(hi:l[i]?=some x):
 ∃g a0 c,G=some g∧v=.slice (some ⟨g,0,none⟩) l.length a0∧c.length=size∧O1a w g (0+i*size) c∧R (G.toList++M) w c x:=by
 obtain⟨css,h1,h2,⟨_,hr⟩,h4⟩:=h;have c0:=(List.getElem?_eq_some_iff.1 hi).1;rcases hr with⟨rfl,rfl,h0⟩|⟨g,a0,rfl,rfl,q1,q2,q3,q4⟩
 ·omega
 ·obtain⟨c,h5,h6⟩:=h4 i x hi;refine⟨g,a0,c,Z,Z,h2 c (List.mem_of_getElem? h5),fun j u hj=>?_,h6⟩;have hf:=u4c css i c h2 h5 j u hj;have b0:i*size+j<l.length*size:=by
   have:=(List.getElem?_eq_some_iff.1 hf).1;rw[u5a css h2,h1] at this;exact this
  rw[←q4,List.getElem?_take,if_pos b0] at hf;have:=S.cell k hk hf;simpa using this
variable {d:Nat} {t:TypeId} {p:String} {af:Array Edge} {x y:Operand}
theorem w2b(hL:E8a R size){M2:List Nat}{ty el b0 k c b o m:Nat}{z v:Value}{G:Option Nat}{cs:LV}{cs2:List LV}{l l2:List α}(S:St M w0 w L)(hS:SlZ P ty el size z b0)(hby:b0≤1000)(hk:L[k]?=some (G,el,cs))(hR:A1a R size M2 w G cs v l)
 (hx:ev e x=v) (hy:ev e y=.slice (some ⟨b,o,none⟩) m c) (hm:m=l2.length) (u0:cs2.length=l2.length) (i0:O1a w b o cs2.flatten) (he:∀(i:Nat) (x:α),l2[i]?=some x→∃c,cs2[i]?=some c∧R (G.toList++M2) w c x) (hll:l.length+l2.length≤1000000) (hd:Nat.ble (d+1) N=true)
 (h:∀v' G' m0 w1,St M w0 w1 (L.set k (G',el,m0))→A1a R size M2 w1 G' m0 v' (l++l2)→A0a G.toList w w1→(∀g∈G'.toList,g∈G.toList∨w.heap.size≤g)→WL P r N ops rest K D (upd e d v') w1) :
 WL P r N ops (⟨some d,.call { callee:=.builtin .append,args:=#[x,y],argTypes:=#[ty,ty] },t,p,af,none⟩::rest) K D e w:=by
 subst hm;obtain⟨css,c1,c2,c3,c4⟩:=hR;have s0:∀x∈cs2,∃a,R (G.toList++M2) w x a:=fun x hx=>by
  obtain⟨i,hi,rfl⟩:=List.getElem_of_mem hx;obtain⟨c,h5,h6⟩:=he i l2[i] (List.getElem?_eq_getElem (by omega));rw[List.getElem?_eq_getElem hi] at h5;cases h5;exact⟨_,h6⟩
 have hlen:∀x∈cs2,x.length=size:=fun x hx=>let ⟨_,ha⟩:=s0 x hx;hL.len ha;have q0:∀u∈cs2.flatten,u.oneCell'=true:=fun u hu=>by
  obtain⟨x,hx,hu⟩:=List.mem_flatten.1 hu;obtain⟨_,ha⟩:=s0 x hx;exact hL.one ha u hu
 obtain⟨i,hi,hz,C0,z0⟩:=hS.parts;obtain⟨hown,hG⟩:=c3.own S hk;have y0:(l.length+l2.length)*b0≤140737488355328:=by
  have:(l.length+l2.length)*b0≤1000000*1000:=Nat.mul_le_mul (by omega) hby;omega
 obtain⟨v',w1,r0,j0,a0,_,g0⟩:=run_append_own_at (P:=P) w 0 ty t el i z size b0 hS.und hi hz C0 z0 hS.zs hS.pos v l.length css.flatten hown ⟨b,o,none⟩ l2.length c cs2.flatten (by rw[u5a cs2 hlen,u0])
  (fun j u hj=>by rw[Addr.add_lit];exact i0 j u hj) q0 (by unfold maxLen;omega) y0 (Nat.zero_le _)
 obtain⟨G',m0,x0,n0,p0⟩:=r0b j0;have d0:∀q,q<w.heap.size→G≠some q→w1.heap[q]?=w.heap[q]?:=fun q hq B0=>a0.block q hq (fun hh=>B0 (by rw[←hG,←hh]));have f0:W0a M w0 w1:=⟨a0.os.trans S.below.os,a0.tape.trans S.below.tape,a0.output.trans S.below.output,Nat.le_trans S.size a0.size,fun q hq hm =>
  (d0 q (Nat.lt_of_lt_of_le hq S.size) (fun hh=>by
    subst hh;rcases S.new k hk with h'|h'
    ·omega
    ·exact hm h')).trans (S.below.block q hq hm)⟩
 have e0:A0a G.toList w w1:=⟨a0.size,fun q hq hm=>d0 q hq (fun hh=>hm (by rw[hh];simp))⟩;have c0:∀g∈G'.toList,g∈G.toList∨w.heap.size≤g:=by
  intro g hg;have t0:G'=some g:=by cases G' with
   | none=>simp at hg
   | some q=>simp at hg;rw[hg]
  rcases g0 with hb|hb
  ·left;have o0:G=some g:=by rw[←hG,←hb,n0];exact t0
   rw[o0];simp
  ·rw[n0,t0] at hb;cases hb;exact .inr (Nat.le_refl _)
 refine y1a (v:=v') (w':=w1) Z Z hd ?_ (h v' G' m0 w1 (S.replace k hk f0 d0 (fun g hg=>?_)) ?_ e0 c0)
 ·simp[execOp,resolve,invoke,builtin,hx,hy,r0]
 ·obtain⟨_,h3⟩:=p0 g hg;rcases g0 with hb|hb
  ·have o0:G=some g:=by rw[←hG,←hb,n0];exact hg
   subst o0;exact⟨S.new k hk,h3,.inl Z⟩
  ·have hg2:G'=some g:=hg;rw[n0,hg2] at hb;cases hb;exact⟨.inl S.size,h3,.inr (Nat.le_refl _)⟩
 ·have v0:∀(e2:α) (c:LV),R (G.toList++M2) w c e2→R (G'.toList++M2) w1 c e2:=by
   intro e2 c hr;have h5:R (G.toList++(G'.toList++M2)) w c e2:=hL.more (fun g hg=>by
    rcases List.mem_append.1 hg with hg|hg
    ·exact .inl (List.mem_append_left _ hg)
    ·rcases List.mem_append.1 hg with hg|hg
     ·rcases c0 g hg with h|h
      ·exact .inl (List.mem_append_left _ h)
      ·exact .inr h
     ·exact .inl (List.mem_append_right _ hg)) hr
   exact hL.more (fun g hg=>.inl (List.mem_append_right _ hg)) (hL.keep (e0.mono (fun g hg=>List.mem_append_left _ hg)) h5)
  refine⟨css++cs2,by simp[c1,u0],fun x hx=>?_,?_,fun i x hi=>?_⟩
  ·rcases List.mem_append.1 hx with hx|hx
   ·exact c2 x hx
   ·exact hlen x hx
  ·have e1:(l++l2).length=l.length+l2.length:=by simp
   rw[e1,List.flatten_append];exact x0
  ·by_cases A0:i<l.length
   ·rw[List.getElem?_append_left A0] at hi;obtain⟨c,h5,h6⟩:=c4 i x hi;exact⟨c,by rw[List.getElem?_append_left (by omega)];exact h5,v0 _ _ h6⟩
   ·rw[List.getElem?_append_right (by omega)] at hi;obtain⟨c,h5,h6⟩:=he _ x hi;exact⟨c,by rw[List.getElem?_append_right (by omega),c1];exact h5,v0 _ _ h6⟩
theorem C0a(hL:E8a R size){M2:List Nat}{ty el a0 k c b o:Nat}{z v:Value}{G:Option Nat}{cs news:LV}{l:List α}{e1:α}(S:St M w0 w L)(hS:SlZ P ty el size z a0)(hk:L[k]?=some (G,el,cs))(hR:A1a R size M2 w G cs v l)
 (hx:ev e x=v) (hy:ev e y=.slice (some ⟨b,o,none⟩) 1 c) (b0:O1a w b o news) (he:R (G.toList++M2) w news e1) (hd:Nat.ble (d+1) N=true)
 (h:∀v' G' c0 w1,St M w0 w1 (L.set k (G',el,c0))→A1a R size M2 w1 G' c0 v' (l++[e1])→A0a G.toList w w1→(∀g∈G'.toList,g∈G.toList∨w.heap.size≤g)→WL P r N ops rest K D (upd e d v') w1) (hby:a0≤1000:=by decide) (hll:l.length+1≤1000000:=by omega) :
 WL P r N ops (⟨some d,.call { callee:=.builtin .append,args:=#[x,y],argTypes:=#[ty,ty] },t,p,af,none⟩::rest) K D e w :=
 w2b hL (cs2:=[news]) (l2:=[e1]) S hS hby hk hR hx hy Z Z (by simpa using b0) (fun i x hi=>by
  cases i with
  | zero=>simp at hi;subst hi;exact⟨news,Z,he⟩
  | succ i=>simp at hi) (by simpa using hll) hd h
end
theorem RdS.all{α:Type}{M:List Nat}{w:World}{size:Nat}{R:LV→α→Prop}{A:Option Addr}{n c b o:Nat}{l:List α}(h:RdS M w size R (.slice A n c) l)(hA:A=some ⟨b,o,none⟩)(h0:0<l.length):
 ∃css:List LV,css.length=l.length∧O1a w b o css.flatten∧∀(i:Nat) (x:α),l[i]?=some x→∃c,css[i]?=some c∧R c x:=by
 obtain⟨h1,_,_,_,h5⟩:=h.at;obtain⟨_,_,a0,_,b0⟩:=h5 (by omega);rw[hA] at a0;cases a0;have key:∀(l2:List α) (q:Nat),(∀i x,l2[i]?=some x→∃cs,cs.length=size∧O1a w b (q+i*size) cs∧R cs x)→∃css:List LV,css.length=l2.length∧O1a w b q css.flatten∧∀(i:Nat) (x:α),l2[i]?=some x→∃c,css[i]?=some c∧R c x:=by
  intro l2
  induction l2 with
  | nil=>intro q _;exact⟨[],Z,fun j v hj=>by simp at hj,fun i x hi=>by simp at hi⟩
  | cons a l2 ih =>
    intro q hq;obtain⟨cs,_,k2,k3⟩:=hq 0 a Z;obtain⟨css,m1,m2,m3⟩:=ih (q+size) (fun i x hi=>by
     obtain⟨cs,n1,n2,n3⟩:=hq (i+1) x (by simpa using hi);exact⟨cs,n1,by rw[show q+size+i*size=q+(i+1)*size by rw[Nat.add_mul];omega];exact n2,n3⟩)
    refine⟨cs::css,by simp[m1],fun j v hj=>?_,fun i x hi=>?_⟩
    ·rw[List.flatten_cons] at hj;by_cases c0:j<cs.length
     ·rw[List.getElem?_append_left c0] at hj;have:=k2 j v hj;simpa using this
     ·rw[List.getElem?_append_right (by omega)] at hj;have:=m2 (j-cs.length) v hj;rw[show q+size+(j-cs.length)=q+j by omega] at this;exact this
    ·cases i with
     | zero=>simp at hi;subst hi;exact⟨cs,Z,k3⟩
     | succ i =>
       obtain⟨c,h1,h2⟩:=m3 i x (by simpa using hi);exact⟨c,by simpa using h1,h2⟩
 exact key l o b0
theorem S3a.of{t s c:Int}(h1:i64 t)(h2:i64 s)(h3:i64 c):S3a [.int .i64 t,.int .i64 s,.int .i64 c] ⟨t,s,c⟩:=⟨Z,h1,h2,h3⟩
theorem N2a:E8a (fun(_:List Nat) (_:World)=>S3a) 3 where
 len h:=by rw[h.1];rfl
 one h u hu:=by rw[h.1] at hu;simp at hu;rcases hu with rfl|rfl|rfl<;>rfl
 keep _ h:=h
 more _ h:=h
theorem C3a:E8a (fun(_:List Nat) (_:World)=>Q4c) 1 where
 len h:=by rw[h.1];rfl
 one h u hu:=by rw[h.1] at hu;simp at hu;subst hu;rfl
 keep _ h:=h
 more _ h:=h
theorem R1a:E8a Q0a 2 where
 len h:=by obtain⟨_,_,rfl,_⟩:=h;rfl
 one h u hu:=by
  obtain⟨_,_,_,_,_,_,rfl,_⟩:=h.open_;simp at hu;rcases hu with rfl|rfl<;>rfl
 keep hk h:=Q0a.keep hk _ _ h
 more hm h:=Q0a.more hm _ _ h
def P4a(M:List Nat)(w:World)(cs:LV)(c:E0a):Prop:=B0a M w c cs
theorem T1a:E8a P4a 3 where
 len h:=by obtain⟨_,_,_,rfl,_⟩:=h;rfl
 one h u hu:=by
  obtain⟨_,_,_,_,_,_,_,_,_,rfl,_⟩:=B0a.open_ h;simp at hu;rcases hu with rfl|rfl|rfl<;>rfl
 keep hk h:=B0a.keep hk h
 more hm h:=B0a.more hm h
theorem getD_some{α:Type}{l:List α}{i:Nat}{x d:α}(h:l[i]?=some x):l.getD i d=x:=by rw[List.getD_eq_getElem?_getD,h];rfl
def G5a(c:E0a):Prop:=∀b∈c.buf,b=[]
theorem G5a.getD{c:E0a}(h:G5a c)(t:Nat):c.buf.getD t []=[]:=by
 rw[List.getD_eq_getElem?_getD];cases hx:c.buf[t]? with
 | none=>rfl
 | some b=>exact h b (List.mem_of_getElem? hx)
theorem G5a.view{c:E0a}(h:G5a c)(t:Nat):r1a c t=c.mem:=by unfold r1a;rw[h.getD];rfl
theorem y5a{p:g0a}{c:E0a}(h:G5a c)(t:Nat)(s:p1a):d1a p 0 c t s=(decide (c.at_.getD t 0=s.frm)&&(decide (s.guard.evl c.mem c.mem=1) &&
 (if s.kind=6 then decide (c.at_.getD s.target.toNat 0=-1) else if s.kind=7 then decide (c.at_.getD s.target.toNat 0=(p.threads.getD s.target.toNat ⟨ByteArray.empty,0,[],[],[],[],false⟩).points-1) else true))):=by
 unfold d1a;rw[h.view,h.getD,h.getD]
 congr 2
 split
 ·rename_i h3;rw[if_neg (by omega),if_neg (by omega)];simp
 ·split
  ·simp
  ·split
   ·simp
   ·split
    ·rfl
    ·simp
@[simp] theorem O2d(l:List U1a)(v m:List Int):(N8a l v m).length=m.length:=by
 unfold N8a
 induction l generalizing m with
 | nil=>rfl
 | cons a l ih=>rw[List.foldl_cons,ih,List.length_set]
theorem u7a(l:List U1a)(a:U1a)(v m:List Int):N8a (l++[a]) v m=(N8a l v m).set a.cell.toNat (a.to.evl v v):=by unfold N8a;rw[List.foldl_append];rfl
theorem X2c{l:List U1a}{a:U1a}{v m:List Int}{k i:Nat}(hx:l[k]?=some a)(hi:i=a.cell.toNat):((N8a (l.take k) v m).map (Value.int .i64)).set i (.int .i64 (a.to.evl v v))=(N8a (l.take (k+1)) v m).map (Value.int .i64):=by
 subst hi;rw[O0a hx,u7a,List.map_set]
theorem P3d{p:g0a}{c:E0a}{t i:Nat}{th:i1a}{s:p1a}(h:G5a c)(ht:p.threads[t]?=some th)(hs:th.steps[i]?=some s):doC p 0 c ⟨t,i,0⟩=⟨N8a s.set c.mem c.mem,atC c t s,c.buf⟩:=by
 unfold doC;have e1:f3a p t=th.steps:=by unfold f3a;rw[getD_some ht]
 rw[if_neg (by show ¬((i:Int)=-1);omega)];simp only[Int.toNat_natCast,e1,hs,i7a,h.view];simp
def o9b(p:g0a)(m:Int)(c:E0a)(t i:Nat):Bool:=match (f3a p t)[i]? with|some s=>d1a p m c t s|none=>false
def j3a(p:g0a)(m:Int)(c:E0a)(t j:Nat):List d0a:=((List.range j).filter (o9b p m c t)).map fun(i:Nat)=>(⟨t,i,0⟩:d0a)
def p4a(m:Int)(c:E0a)(t j:Nat):List d0a:=((List.range j).filter (e4a m (c.buf.getD t []))).map fun(i:Nat)=>(⟨t,-1,((c.buf.getD t []).getD i ⟨[],[]⟩).cells.getD 0 0⟩:d0a)
def m3a(p:g0a)(m:Int)(c:E0a)(k:Nat):List d0a:=(List.range k).flatMap (Z7a p m c)
theorem w8a(p:g0a)(m:Int)(c:E0a)(t:Nat):Z7a p m c t=j3a p m c t (f3a p t).length++p4a m c t (c.buf.getD t []).length:=Z
theorem X5a(p:g0a)(m:Int)(c:E0a)(k:Nat):m3a p m c (k+1)=m3a p m c k++Z7a p m c k:=by
 unfold m3a;rw[List.range_succ,List.flatMap_append];simp
theorem J0b{p:g0a}{m:Int}{c:E0a}{t j:Nat}{s:p1a}(h:(f3a p t)[j]?=some s):j3a p m c t (j+1)=j3a p m c t j++(if d1a p m c t s then[⟨t,j,0⟩] else[]):=by
 unfold j3a;rw[List.range_succ,List.filter_append,List.map_append];have:o9b p m c t j=d1a p m c t s:=by unfold o9b;rw[h]
 congr 1
 cases he:d1a p m c t s<;>simp[this,he]
theorem c2b{p:g0a}{m:Int}{c:E0a}{t j:Nat}{th:i1a}{s:p1a}(h:p.threads[t]?=some th)(hs:th.steps[j]?=some s)(he:d1a p m c t s=true):j3a p m c t (j+1)=j3a p m c t j++[⟨t,j,0⟩]:=by
 rw[J0b (by rw[show f3a p t=th.steps by unfold f3a;rw[getD_some h]];exact hs),he,if_pos rfl]
theorem g3b{p:g0a}{m:Int}{c:E0a}{t j:Nat}{th:i1a}{s:p1a}(h:p.threads[t]?=some th)(hs:th.steps[j]?=some s)(he:d1a p m c t s=false):j3a p m c t (j+1)=j3a p m c t j:=by
 rw[J0b (by rw[show f3a p t=th.steps by unfold f3a;rw[getD_some h]];exact hs),he];simp
theorem p7b{m:Int}{c:E0a}{t j:Nat}(he:e4a m (c.buf.getD t []) j=true):p4a m c t (j+1)=p4a m c t j++[⟨t,-1,((c.buf.getD t []).getD j ⟨[],[]⟩).cells.getD 0 0⟩]:=by
 unfold p4a;generalize c.buf.getD t []=b at *;rw[List.range_succ,List.filter_append,List.map_append];simp[he]
theorem I9b{m:Int}{c:E0a}{t j:Nat}(he:e4a m (c.buf.getD t []) j=false):p4a m c t (j+1)=p4a m c t j:=by
 unfold p4a;generalize c.buf.getD t []=b at *;rw[List.range_succ,List.filter_append,List.map_append];simp[he]
theorem D6a(p:g0a)(m:Int)(c:E0a)(t j:Nat):(j3a p m c t j).length≤j:=by
 unfold j3a;have:=List.length_filter_le (o9b p m c t) (List.range j);simpa using this
theorem U1b(m:Int)(c:E0a)(t j:Nat):(p4a m c t j).length≤j:=by
 unfold p4a;have:=List.length_filter_le (e4a m (c.buf.getD t [])) (List.range j);simpa using this
theorem Q1a{p:g0a}{t:Nat}{th:i1a}(h:p.threads[t]?=some th):f3a p t=th.steps:=by unfold f3a;rw[getD_some h]
theorem r3a{p:g0a}(hp:q1a p){c:E0a}(hf:U5a p c)(m:Int):∀k,k≤p.threads.length→(m3a p m c k).length≤k*67
 | 0,_=>by simp[m3a]
 | k+1,hk=>by
   have ih:=r3a hp hf m k (by omega);rw[X5a,w8a];have h1:=D6a p m c k (f3a p k).length;have h2:=U1b m c k (c.buf.getD k []).length;have b0:p.threads[k]?=some p.threads[k]:=List.getElem?_eq_getElem hk;rw[Q1a b0] at h1 ⊢;have h3:=(hp.threads k hk).nsteps;have a0:k<c.buf.length:=by rw[hf.nbuf];exact hk
   have hb:c.buf[k]?=some c.buf[k]:=List.getElem?_eq_getElem a0;rw[getD_some hb] at h2 ⊢;have h4:=(hf.bufs k _ hb).1;simp only[List.length_append];omega
theorem t9a(p:g0a)(m:Int)(c:E0a):m3a p m c p.threads.length=P0a p m c:=Z
theorem J2b(p:g0a)(c:E0a)(t i:Nat)(th:i1a)(s:p1a)(M:List Nat)(w0:World)(cs xs:LV)(hI:InP p M w0 cs)(hX:B0a M w0 c xs)(hf:U5a p c)(he:G5a c)(f0:p.threads[t]?=some th)(Q0:th.steps[i]?=some s):
 M0a prog 127 #[.agg cs.toArray,.agg xs.toArray,.int .i64 t,.int .i64 i] w0 fun v w'=>v=.bool (d1a p 0 c t s)∧Bw w0 w':=by
 obtain⟨_,_,_,_,_,_,_,_,_,_,_,_,rfl,_,_,_,U0,_⟩:=hI.rd.open_;obtain⟨_,_,_,_,_,_,_,_,_,rfl,i0,y0,_,_,d0,g0,_⟩:=hX.open_;have S:=St.refl w0;have f2:=hf.nat;have hp:=hI.ok;have ht:=m1a f0;have hi:=m1a Q0;have i1:=hp.thread f0;have g1:=i1.steps s (c0a Q0);have V0:6≤s.kind→0≤s.target∧s.target<p.threads.length:=fun h=>(g1.row.k6 h).1;refine a0a func127 Z ntmps127 Z ?_;refine wO1 Z (i0a S Z ?_);intro g4 w4 S4 X4 G4;refine i0a S4 Z ?_;intro g5 w5 S5 X5 G5;obtain⟨_,Z0,j1,_,O0,r0,_,_,A0,H0⟩:=RdS.get (U0) (t) (by omega);obtain rfl:=Option.some.inj (f0.symm.trans O0);obtain⟨_,_,_,_,_,_,_,_,_,_,_,_,rfl,_,_,_,j0,_⟩:=S0a.open_ H0;obtain⟨_,a1,m1,_,P0,s0,_,G0,B0,I0⟩:=RdS.get (j0) (i) (by omega);obtain rfl:=Option.some.inj (Q0.symm.trans P0);obtain⟨_,_,_,_,_,_,rfl,⟨_,_⟩,z0,_⟩:=D1a.open_ I0;refine lO ((S5.k.a B0).a A0) [.o 1,.x Z0 j1,.f 0 4,.x a1 m1,.v 1] Z ⟨⟨Z,G0⟩,⟨s0,by omega⟩,Z,⟨r0,by omega⟩,Z,U⟩ (m0a S5 X9a Z Z ?_);intro g9 w9 S9 X9 G9;refine f0a (kk:=0) (vs:=[_,_,_,_,_,_,_,_,_,_,_]) S9 Y9a Z Z Z Z Z Z Z ?_;intro W0 a0 S0;dsimp only[o0a,List.set] at a0;refine lC1 Z (x0a b0a [0,1,2,3,4,5,6,7,8,9,10,11,12,13,14,15,16,17] [] [] Z (Cl _ _ _ _) (Cl.start a0) ?_);obtain⟨a,b1,n1,_,d0,t0,_,_,C0,J0⟩:=RdS.get (y0) (t) (by omega);obtain⟨rfl,_⟩:=id J0;refine qB (a0.q.a C0) [.o 1,.x b1 n1,.f 0 0,.o 0] Z ⟨Z,Z,⟨t0,by omega⟩,Z,U⟩ (fun c0=>?_) fun c0=>?_
 ·refine lV Z ?_;rintro X0 ⟨b0,T0⟩;refine lU Z Z ⟨cB ?_,b0.fin⟩;rw[y5a he,getD_some d0];simp[c0];done
 refine qO a0.q [.o 0,.o 1,.o 1] Z ⟨Z,Z,Z,U⟩ (F1a i1b Z Z (fun w1 S1 X1=>o8a s.guard M _ _ _ _ c.mem c.mem (RdE.keep (S1.keep0 M) _ _ z0) (hI.keep (S1.keep0 M)).msk (i0.keep (S1.keep0 M)) (i0.keep (S1.keep0 M))) ?_);refine qB1 Z (fun e0=>?_) fun e0=>?_
 ·refine lV Z ?_;rintro X0 ⟨b0,T0⟩;refine lU Z Z ⟨cB ?_,b0.fin⟩;rw[y5a he,getD_some d0];simp[c0,e0];done
 refine lV Z ?_;rintro X0 ⟨b0,T0⟩;refine lB b0.k [.o 0] Z ⟨Z,U⟩ (fun m0=>?_) fun m0=>?_
 ·have q6:=V0 (by omega);obtain⟨b,c1,o1,_,g0,u0,_,_,D0,K0⟩:=RdS.get (y0) (s.target.toNat) (by omega);obtain⟨rfl,_⟩:=id K0;refine lB (b0.k.a D0) [.o 1,.o 0,.x c1 o1,.f 0 0] Z ⟨Z,⟨u0,by omega⟩,Z,Z,U⟩ (fun p0=>?_) fun p0=>?_
  ·refine lU Z Z ⟨cB ?_,b0.fin⟩;rw[y5a he,getD_some d0];simp[c0,e0,m0,g0,p0];done
  refine lU Z Z ⟨cB ?_,b0.fin⟩;rw[y5a he,getD_some d0];simp[c0,e0,m0,g0,p0];done
 refine lB1 Z (fun n0=>?_) fun n0=>?_
 ·refine lC1 Z (x0a b0a [0,1,2,3,4,5,6,7,8,9,10,11,12,13,14,15] [] [] Z (Cl _ _ _ _) (Cl.start b0) ?_);have q6:=V0 (by omega);obtain⟨b,d1,p1,_,g0,v0,_,_,E0,L0⟩:=RdS.get (y0) (s.target.toNat) (by omega);obtain⟨rfl,_⟩:=id L0;obtain⟨_,f1,q1,_,R0,x0,_,_,F0,N0⟩:=RdS.get (U0) (s.target.toNat) (by omega);obtain⟨_,_,_,_,_,_,_,_,_,_,_,_,rfl,_⟩:=S0a.open_ N0;have q7:=(hp.thread R0).points;refine qB ((b0.q.a F0).a E0) [.o 1,.o 0,.x d1 p1,.f 0 0,.o 2,.o 0,.x f1 q1,.f 1 1] Z ⟨by omega,Z,⟨x0,by omega⟩,Z,Z,Z,⟨v0,by omega⟩,Z,Z,U⟩ (fun q0=>?_) fun q0=>?_
  ·refine lV Z ?_;rintro r1 ⟨o0,Y0⟩;refine lU Z Z ⟨cB ?_,o0.fin⟩;rw[y5a he,getD_some d0];simp[c0,e0,n0,g0,R0,q0];done
  refine lV Z ?_;rintro r1 ⟨o0,Y0⟩;refine lU Z Z ⟨cB ?_,o0.fin⟩;rw[y5a he,getD_some d0];simp[c0,e0,n0,g0,R0,q0];done
 refine lU Z Z ⟨cB ?_,b0.fin⟩;rw[y5a he,getD_some d0];simp[c0,e0,m0,n0];done
theorem n8a(p:g0a)(c:E0a)(M:List Nat)(w0:World)(cs xs:LV)(hI:InP p M w0 cs)(hX:B0a M w0 c xs)(hf:U5a p c)(he:G5a c):
 M0a prog 70 #[.agg cs.toArray,.agg xs.toArray] w0 fun v w'=>z4a M w' v (P0a p 0 c)∧Bw w0 w':=by
 obtain⟨Ac,nc,cc,Am,nm,cm,Al,nl,cl,At,nt,ct,rfl,_,_,_,x0,_⟩:=hI.rd.open_;obtain⟨Xm,xm,ym,Xa,xa,ya,Xb,xb,yb,rfl,_⟩:=hX.open_;have S:=(St.refl w0).nilEnt 75;have hp:=hI.ok;have n2:=hp.nthreads;refine a0a func70 Z ntmps70 Z ?_;refine wO1 Z (i0a S Z ?_);intro g2 w2 S2 X2 G2;refine i0a S2 Z ?_;intro g3 w3 S3 X3 G3;refine lC S3.k [.o 1] Z ⟨Z,U⟩ (wL (fun μk D ε w=>D=[]∧∃k:Nat,∃G:Option Nat,∃f0:LV,∃v:Value,(k+μk=(p.threads.length))∧(A1a (fun _ _=>S3a) 3 [] w0 G f0 v (m3a p 0 c k))∧St [] w0 w [(some g3,71,[.slice Xm xm ym,.slice Xa xa ya,.slice Xb xb yb]),(some g2,27,pL Ac nc cc Am nm cm Al nl cl At nt ct),(G,75,f0)]∧Sl ε [(2,.pointer (some ⟨g2,0,none⟩)),(3,.pointer (some ⟨g3,0,none⟩)),(5,v),(10,.int .i64 nt),(11,.int .i64 k)]) (μ:=(p.threads.length)) ⟨Z,0,none,[],.slice none 0 0,by omega,A1a.nil,S3,Z⟩ ?_);rintro μk D ε w ⟨rfl,k,G,f0,v,_,d0,S,eZ⟩;refine wK eZ (wB1 Z (fun u0=>?_) fun u0=>?_)
 ·obtain⟨th,s0,y0,_,b0,i0,_,_,j0,m0⟩:=RdS.get (x0) (k) (by omega);obtain⟨_,_,_,_,_,_,_,o0,_,_,_,_,rfl,_⟩:=S0a.open_ m0;have G0:=(hp.thread b0).nsteps;refine lC (S.k.a j0) [.o 1,.x s0 y0,.f 0 4] Z ⟨Z,⟨i0,by omega⟩,Z,U⟩ (wL (fun μj D ε w=>D=[]∧∃j:Nat,∃G2:Option Nat,∃cs2:LV,∃v2:Value,(j+μj=(th.steps.length))∧(A1a (fun _ _=>S3a) 3 [] w0 G2 cs2 v2 (m3a p 0 c k++j3a p 0 c k j))∧St [] w0 w [(some g3,71,[.slice Xm xm ym,.slice Xa xa ya,.slice Xb xb yb]),(some g2,27,pL Ac nc cc Am nm cm Al nl cl At nt ct),(G2,75,cs2)]∧Sl ε [(2,.pointer (some ⟨g2,0,none⟩)),(3,.pointer (some ⟨g3,0,none⟩)),(5,v2),(6,.int .i64 k),(10,.int .i64 nt),(11,.int .i64 k),(20,.int .i64 o0),(21,.int .i64 j)]) (μ:=(th.steps.length)) ⟨Z,0,G,f0,v,by omega,by simpa[j3a] using d0,S,Z⟩ ?_);rintro μj D ε w ⟨rfl,j,G2,cs2,v2,_,a0,S,eZ⟩;refine wK eZ (wB1 Z (fun v0=>?_) fun v0=>?_)
  ·refine lO S.k [.w 1,.w 0] Z ⟨⟨Z,Z⟩,⟨Z,Z⟩,U⟩ ?_;obtain⟨s,n0⟩:∃s,th.steps[j]?=some s:=⟨th.steps[j]'(by omega),List.getElem?_eq_getElem _⟩;refine k0a S J9c Z Z (J2b p c k j th s M _ _ _ (hI.keep (S.keep0 M)) (hX.keep (S.keep0 M)) hf he b0 n0) (fun g0 z0 e0 r0=>?_) (fun g0 z0 e0 r0=>?_)
   ·refine lOn 4 e0.k [] Z U (w0a Z ?_);refine lO1 Z (e1a F3b (vs:=[(0,.int .i64 _),(1,.int .i64 _)]) (cs:=[_,_,_]) Z Z Z Z ?_);refine h0a e0 K2a (vs:=[.agg _]) (cs:=[_,_,_]) Z Z Z Z Z Z ?_;intro F0 I0 p0 D0 B0;have l1:=r3a hp hf 0 k (by omega);have l2:=D6a p 0 c k j;refine C0a (hll:=(by rw[List.length_append];omega)) N2a (k:=3) (M2:=[]) (e1:=⟨k,j,0⟩) p0 K2a Z a0 Z Z (p0.cells 0 Z) (S3a.of iO iO iO) Z ?_;intro H0 C0 t0 J0 q0 c0 E0 A0;refine n0a Z ?_;refine lP1 Z ⟨μj-1,by omega,Z,j+1,_,_,_,by omega,?_,q0.tail,Z⟩;rw[c2b b0 n0 g0,←List.append_assoc];exact c0
   refine lP1 Z ⟨μj-1,by omega,Z,j+1,_,_,_,by omega,?_,e0,Z⟩;rw[g3b b0 n0 g0];exact a0
  refine lP1 Z ⟨μk-1,by omega,Z,k+1,_,_,_,by omega,?_,S,Z⟩;rw[X5a,w8a,Q1a b0,he.getD];rw[show th.steps.length=j by omega];rw[show j3a p 0 c k j++p4a 0 c k ([]:List J0a).length=j3a p 0 c k j by simp[p4a]];exact a0
 refine lOn 8 S.k [] Z U (w0a Z ?_);refine n0a Z ?_;refine lR1 Z (t0a Z ?_);obtain rfl:k=p.threads.length:=by omega
 have l1:=r3a hp hf 0 _ (Nat.le_refl _);rw[t9a] at l1;exact⟨A1a.rd (M:=M) N2a d0 S (k:=2) Z (fun g hg=>by subst hg;exact Y0a hI.lt (S.new 2 Z)) (by omega),S.fin⟩
section
variable {d:Nat} {t:TypeId} {p:String} {af:Array Edge} {x y:Operand}
theorem RdI.oneCells{M':List Nat}{A:Option Addr}{m c:Nat}{l:List Int}(h:RdI M' w (.slice A m c) l)(hm:0<m):∃b o,A=some ⟨b,o,none⟩∧O1a w b o (l.map (Value.int .i64)):=by
 obtain⟨_,_,_,_,h5⟩:=h.at;obtain⟨b,o,h6,_,h8⟩:=h5 hm;refine⟨b,o,h6,fun j v hj=>?_⟩;rw[List.getElem?_map,Option.map_eq_some_iff] at hj;obtain⟨a,ha,rfl⟩:=hj;obtain⟨_,_,a0,b0⟩:=h8 j a ha;rw[b0.1] at a0;have:=a0 0 _ Z;simpa using this
theorem s3c{ty el b0 k n c g tb:Nat}{z:Value}{A:Option Addr}{cs:LV}{l:List Int}{M':List Nat}(S:St M w0 w L)(hS:SlZ P ty el 1 z b0)(hk:L[k]?=some (some g,tb,cs))(hx:ev e x=.slice (some ⟨g,0,none⟩) n n)(hy:ev e y=.slice A n c)
 (hR:RdI M' w (.slice A n c) l) (hd:Nat.ble (d+1) N=true)
 (h:∀w1,St M w0 w1 (L.set k (some g,tb,l.map (Value.int .i64)))→A0a [g] w w1→WL P r N ops rest K D (upd e d (.int .i64 n)) w1) (e0:cs.length=n:=by simp) :
 WL P r N ops (⟨some d,.call { callee:=.builtin .copy,args:=#[x,y],argTypes:=#[ty,ty] },t,p,af,none⟩::rest) K D e w:=by
 obtain⟨_,hi,_,d0,_⟩:=hS.parts;have c0:(P.info? el).map (·.size)=some 1:=by rw[hi];simp[d0]
 have hn:n=l.length:=hR.len.1;by_cases h0:n=0
 ·have e1:l.map (Value.int .i64)=cs:=by
   have a1:l=[]:=List.eq_nil_of_length_eq_zero (by omega);have a2:cs=[]:=List.eq_nil_of_length_eq_zero (by omega);rw[a1,a2];rfl
  have a0:=run_copy_none (P:=P) w ty ty t el (some ⟨g,0,none⟩) A n n n c hS.und c0 (by rw[h0];rfl);have S':=S.setEnt k hk e1.symm;refine y1a (v:=.int .i64 n) (w':=w) Z Z hd ?_ (h w S' (A0a.refl _ _));subst h0;simp[execOp,resolve,invoke,builtin,hx,hy,a0,goInt]
 ·obtain⟨b,o,rfl,hc⟩:=hR.oneCells (by omega);have a0:=run_copy_row (P:=P) w ty ty t el g 0 n n ⟨b,o,none⟩ n c cs.toArray tb (l.map (Value.int .i64)) hS.und c0 (S.blk k hk) (by simp[hn]) (fun j v hj=>by rw[Addr.add_lit];exact hc j v hj) (by simp;omega)
   (fun v hv=>by obtain⟨a,_,rfl⟩:=List.mem_map.1 hv;rfl)
  have e1:(cs.toArray.toList.take 0++l.map (Value.int .i64)++cs.toArray.toList.drop (0+(l.map (Value.int .i64)).length)).toArray=(l.map (Value.int .i64)).toArray:=by
   have:cs.length≤l.length:=by omega
   simp[List.drop_of_length_le this]
  rw[e1] at a0;have hb:W0a [g] w (w.setRow g (l.map (Value.int .i64)).toArray):=⟨Z,Z,Z,by simp[World.setRow],fun q hq hm=>setRow_other w g q _ (by simpa using hm)⟩;refine y1a (v:=.int .i64 n) Z Z hd ?_ (h _ (S.changed1 k hk hb (setRow_heap w g _ _ tb _ (S.blk k hk))) ⟨hb.size,fun q hq hm=>hb.block q hq hm⟩);rw[List.length_map,←hn] at a0;simp[execOp,resolve,invoke,builtin,hx,hy,a0,goInt]
def Eq3(P:Program)(ty:TypeId):Prop:=P.eqGuardType P.depth ty=false∧∀(w:World) (a b c a' b' c':Int),
 (binOp .eql ty (.agg #[.int .i64 a,.int .i64 b,.int .i64 c]) (.agg #[.int .i64 a',.int .i64 b',.int .i64 c'])).run P w=.ok (.bool (decide (a=a'∧b=b'∧c=c'))) w
theorem K6c{ty:TypeId}{a b c a' b' c':Int}(hE:Eq3 P ty)(hx:ev e x=.agg #[.int .i64 a,.int .i64 b,.int .i64 c])(hy:ev e y=.agg #[.int .i64 a',.int .i64 b',.int .i64 c'])(hd:Nat.ble (d+1) N=true)
 (h1:a=a'∧b=b'∧c=c'→WL P r N ops rest K D (upd e d (.bool true)) w) (h2:¬(a=a'∧b=b'∧c=c')→WL P r N ops rest K D (upd e d (.bool false)) w) {yt:TypeId} :
 WL P r N ops (⟨some d,.binOp .eql ty x y yt,t,p,af,none⟩::rest) K D e w:=by
 by_cases hh:a=a'∧b=b'∧c=c'
 ·exact y1a Z Z hd (by simp only[execOp,hx,hy,Sem.run_bind,run_eqGuard_agg w _ _ _ _ _ _ hE.1,Result.andThen_ok,hE.2,Sem.run_pure,decide_eq_true hh]) (h1 hh)
 ·exact y1a Z Z hd (by simp only[execOp,hx,hy,Sem.run_bind,run_eqGuard_agg w _ _ _ _ _ _ hE.1,Result.andThen_ok,hE.2,Sem.run_pure,decide_eq_false hh]) (h2 hh)
end
theorem c9a:Eq3 prog 75:=by
 refine⟨Tryz.eqGuardType75,fun w a b c a' b' c'=>?_⟩;have ht:prog.underlying 75=some (.struct (prog.fieldsOf 75)):=by unfold Program.fieldsOf;rw[Tryz.underlying75]
 have a0:∀w,(isAgg 3).run prog w=.ok false w:=fun w=>by simp[isAgg,run_underlying Tryz.underlying3]
 rw[run_eql_struct,run_equalIn_struct w 9999 _ _ _ ht Tryz.stoodInHeld75];unfold Program.fieldsOf;rw[Tryz.underlying75];by_cases h1:a=a'<;>by_cases h2:b=b'<;>by_cases h3:c=c'<;>simp[Op.eqFields,part,a0,run_equalIn_int _ 9998 _ .i64 .i64 _ _ Tryz.underlying3,h1,h2,h3]
theorem S2b(p:g0a)(c:E0a)(t i:Nat)(th:i1a)(s:p1a)(M:List Nat)(w0:World)(cs xs:LV)(hI:InP p M w0 cs)(hX:B0a M w0 c xs)(hf:U5a p c)(he:G5a c)(e0:p.threads[t]?=some th)(v0:th.steps[i]?=some s)(o0:U5a p (doC p 0 c ⟨t,i,0⟩)):
 M0a prog 71 #[.agg cs.toArray,.agg xs.toArray,.agg #[.int .i64 t,.int .i64 i,.int .i64 0]] w0 fun v w'=>(∃ys,v=.agg ys.toArray∧B0a M w' (doC p 0 c ⟨t,i,0⟩) ys)∧Bw w0 w':=by
 obtain⟨Ac,nc,cc,Am,nm,cm,Al,nl,cl,At,nt,ct,rfl,_,_,_,K1,_⟩:=hI.rd.open_;obtain⟨Xm,xm,ym,Xa,xa,ya,Xb,xb,yb,rfl,j0,J1,_,s1,u0,r1,b1,b2,b3⟩:=hX.open_;have S:=St.refl w0;have f1:=hf.mem.len;have f2:=hf.nat;have f3:=hf.nbuf;have hp:=hI.ok;have n1:=hp.ncells;have n2:=hp.nthreads;have ht:=m1a e0;have hi:=m1a v0;have p1:=(hp.thread e0).steps s (c0a v0);have O1:6≤s.kind→0≤s.target∧s.target<p.threads.length:=fun h=>(p1.row.k6 h).1;refine a0a func71 Z ntmps71 Z ?_;refine wO1 Z (i0a S Z ?_);intro g3 w3 S3 X3 G3;refine i0a S3 Z ?_;intro g4 w4 S4 X4 G4;refine i0a S4 Z ?_;intro g5 w5 S5 X5 G5;refine m0a S5 t4a Z Z ?_;intro g6 w6 S6 X6 G6;refine lC1 Z (x6c b0a [0,1,2,3,4,5,6,7,8,9,10,11,12,13] 14 (Cl _ _ _ _) (Cl.start S6) _ Z ?_);refine e7a Z Z ?_;refine H0a Z3b Z Z ?_;refine e0a ?_;refine e7a Z Z ?_;refine p0a z3a Z (fun w1 hw=>by exact hw.1.cell 2 Z Z) Z ?_;refine e0a ?_;refine G3b Z X0a.slT Z Z ?_;refine j0b (n:=xm) (c:=xm) Z Z Z X0a Z Z Z ?_;intro j1 z1 W0;refine e7a Z Z ?_;refine H0a T4b Z Z ?_;refine e0a ?_;refine e7a Z Z ?_;refine p0a z3a Z (fun w1 hw=>by exact hw.1.cell 2 Z Z) Z ?_;refine e0a ?_;refine G3b Z X0a.slT Z Z ?_;refine j0b (n:=xa) (c:=xa) Z Z Z X0a Z Z Z ?_;intro m1 A1 X0;refine e7a Z Z ?_;refine H0a d4a Z Z ?_;refine e0a ?_;refine e7a Z Z ?_;refine p0a m4a Z (fun w1 hw=>by exact hw.1.cell 2 Z Z) Z ?_;refine e0a ?_;refine G3b Z A3a.slT Z Z ?_;refine j0b (n:=xb) (c:=xb) Z Z Z A3a Z Z Z ?_;intro o1 B1 Y0;refine e7a Z Z ?_;refine D3a B5a (vs:=[(0,.slice _ _ _),(1,.slice _ _ _),(2,.slice _ _ _)]) (cs:=[_,_,_]) Z Z Z Z ?_;refine e0a ?_;refine L8b Z Z Z t4a Z ?_;intro g7 G7 P1;refine J8b ?_;rintro m2 ⟨f0,_⟩ ⟨⟨⟨⟨-,L0⟩,N0⟩,O0⟩,M1⟩;clear W0;replace f0:=f0.push_new S6 L0 z1;replace f0:=f0.push_more (L1:=[_]) S6 N0 A1 (by simpa[eq_comm] using X0);replace f0:=f0.push_more (L1:=[_,_]) S6 O0 B1 (by simpa[eq_comm] using Y0);replace f0:=f0.push_more (L1:=[_,_,_]) S6 M1 G7 (by simpa[eq_comm] using P1);refine f0a (kk:=0) (vs:=[_,_,_]) f0 n2a Z Z Z Z Z Z Z ?_;intro v1 c0 d1;dsimp only[o0a,List.set] at c0;refine D0a ⟨Z,?_⟩;refine fO c0.k [.o 0,.o 6] Z ⟨Z,Z,U⟩ (s3c (k:=3) c0 X0a Z Z Z (j0.keep (c0.keep0 M)) Z ?_);intro i2 z0 Z1;refine lO z0.k [.o 0,.o 6] Z ⟨Z,Z,U⟩ (s3c (k:=2) z0 X0a Z Z Z (J1.keep (z0.keep0 M)) Z ?_);intro j2 A0 a2;refine lC1 Z (x0a b0a [0,1,2,3,4,5,6,7,8,9,10] [11] [12] Z (Cl _ _ _ _) (Cl.start A0) ?_);obtain⟨_,F1,R1,_,U0,E0,_,_,I0,R0⟩:=RdS.get (K1) (t) (by omega);obtain rfl:=Option.some.inj (e0.symm.trans U0);obtain⟨_,_,_,_,_,_,_,_,_,_,_,_,rfl,_,_,_,t0,_⟩:=S0a.open_ R0;obtain⟨_,G1,T1,_,V0,F0,_,P0,J0,S0⟩:=RdS.get (t0) (i) (by omega);obtain rfl:=Option.some.inj (v0.symm.trans V0);obtain⟨y0,Z0,C0,p0,n0,s0,rfl,⟨_,_⟩,_,m0,_⟩:=D1a.open_ S0;refine qN ((A0.q.a J0).a I0) [.o 7,.o 5,.x F1 R1,.f 0 4,.o 5,.x G1 T1,.v 1] Z ⟨⟨Z,P0⟩,⟨F0,by omega⟩,Z,Z,⟨E0,by omega⟩,Z,Z,U⟩ (u3a ?_);refine C4a Z Z X9a Z ?_;refine J1a ?_;rintro o2 ⟨B0,_⟩;intro g8 N1 G8 Q1;dsimp only[X3a];clear Q1;replace B0:=B0.push_new A0 N1 G8;refine f0a (kk:=0) (vs:=[_,_,_,_,_,_,_,_,_,_,_]) B0 Y9a Z Z Z Z Z Z Z ?_;intro x1 d0 g1;dsimp only[o0a,List.set] at d0;refine lC d0.k [.o 0] Z ⟨Z,U⟩ (wL (fun μk D ε w=>D=[]∧∃k:Nat,(k+μk=(s.set.length))∧St [] w0 w [(some g8,61,[.int .i64 s.kind,.int .i64 s.frm,.int .i64 s.to,.int .i64 s.guard.op,.int .i64 s.guard.w,.int .i64 s.guard.n,.slice y0 Z0 C0,.slice p0 n0 s0,.bool s.release,.int .i64 s.target,.int .i64 s.module_]),(some g7,71,[.slice (some ⟨j1,0,none⟩) xm xm,.slice (some ⟨m1,0,none⟩) xa xa,.slice (some ⟨o1,0,none⟩) xb xb]),(some o1,189,List.replicate xb (.slice none 0 0)),(some m1,3,c.at_.map (Value.int .i64)),(some j1,3,(N8a (s.set.take k) c.mem c.mem).map (Value.int .i64)),(some g6,71,[.slice none 0 0,.slice none 0 0,.slice none 0 0]),(some g5,75,[.int .i64 t,.int .i64 i,.int .i64 0]),(some g4,71,[.slice Xm xm ym,.slice Xa xa ya,.slice Xb xb yb]),(some g3,27,pL Ac nc cc Am nm cm Al nl cl At nt ct)]∧Sl ε [(4,.pointer (some ⟨g4,0,none⟩)),(5,.pointer (some ⟨g5,0,none⟩)),(6,.pointer (some ⟨g6,0,none⟩)),(7,.pointer (some ⟨g7,0,none⟩)),(8,.pointer (some ⟨g8,0,none⟩)),(46,.slice p0 n0 s0),(47,.int .i64 n0),(48,.int .i64 k)]) (μ:=(s.set.length)) ⟨Z,0,by omega,d0,Z⟩ ?_);rintro μk D ε w ⟨rfl,k,_,S,eZ⟩;refine wK eZ (wB1 Z (fun I1=>?_) fun I1=>?_)
 ·obtain⟨a,H1,U1,_,u0,G0,_,Q0,K0,T0⟩:=RdS.get (m0) (k) (by omega);obtain⟨_,_,_,rfl,_,H0⟩:=b1a.open_ T0;have q1:=(p1.set a (c0a u0)).1;unfold M1a at q1;refine lO (S.k.a K0) [.x H1 U1,.v 0] Z ⟨⟨Z,Q0⟩,⟨G0,by omega⟩,U⟩ (m0a S K2b Z Z ?_);intro d2 g2 C1 Y1 W1;refine f0a (kk:=0) (vs:=[_,_,_,_,_]) C1 R2b Z Z Z Z Z Z Z ?_;intro V1 i0 E1;dsimp only[o0a,List.set] at i0;refine lC1 Z (x0a b0a [0,1,2,3,4,5,6,7,8,9,10,11] [] [12] Z (Cl _ _ _ _) (Cl.start i0) ?_);refine qO i0.q [.o 2,.o 0,.o 0,.o 8,.o 8] Z ⟨Z,Z,Z,Z,Z,U⟩ (F1a i1b Z Z (fun w1 S1 X1=>o8a a.to M _ _ _ _ c.mem c.mem (RdE.keep (S1.keep0 M) _ _ H0) (hI.keep (S1.keep0 M)).msk (j0.keep (S1.keep0 M)) (j0.keep (S1.keep0 M))) ?_);refine q0a X0a.slT Z (by rfl) Z Z ?_;refine lV Z ?_;rintro p2 ⟨D1,_⟩
  first|refine r0a (kk:=5) D1 h8a Z Z Z (by(simp;omega)) ?_
  intro y1 q0 i1;refine lP1 Z ⟨μk-1,by omega,Z,k+1,by omega,(q0.tail.setEnt 4 Z (X2c u0 (by simp))),Z⟩
 refine lO S.k [.o 1,.o 6,.o 0] Z ⟨Z,Z,Z,U⟩ (L0a X0a.slT Z Z Z ?_)
 first|refine r0a (kk:=3) S h8a Z Z Z (by(simp;omega)) ?_
 intro t1 a0 a1;refine lB a0.k [.o 0] Z ⟨Z,U⟩ (fun D0=>?_) fun D0=>?_
 ·refine lO a0.k [.o 1,.o 0] Z ⟨Z,Z,U⟩ ?_;have q6:=O1 (by omega);refine L0a X0a.slT Z Z Z ?_
  first|refine r0a (kk:=3) a0 h8a Z Z Z (by(simp;omega)) ?_
  intro u1 g0 c1;refine lO g0.k [.w 1] Z ⟨⟨Z,Z⟩,U⟩ ?_
  first|refine f0a (kk:=5) (vs:=[_,_,_]) g0 n2a Z Z Z Z Z Z Z ?_
  intro x0 b0 r0;dsimp only[o0a,List.set] at b0;refine lR1 Z ?_;have SF:=(b0.setEnt 3 Z (show _=(atC c t s).map (Value.int .i64) by simp[atC,D0,List.map_set])).setEnt 4 Z (show _=(N8a s.set c.mem c.mem).map (Value.int .i64) by rw[List.take_of_length_le (by omega)]);rw[P3d he e0 v0] at o0 ⊢;exact L1a (n:=3) Z V0a Z (SF.cells 5 Z) Z ⟨⟨_,Z,_,_,_,Z,SF.rdInts 4 Z (Y0a hI.lt (SF.new 4 Z)) (by simp[s1]) b1 (B3a hp o0.mem),SF.rdInts 3 Z (Y0a hI.lt (SF.new 3 Z)) (by rw[E6a];exact u0) b2 (b7a hp o0),SF.rdBufs 2 Z (Y0a hI.lt (SF.new 2 Z)) r1 b3 he⟩,SF.fin⟩
 refine lO a0.k [.w 1] Z ⟨⟨Z,Z⟩,U⟩ ?_
 first|refine f0a (kk:=5) (vs:=[_,_,_]) a0 n2a Z Z Z Z Z Z Z ?_
 intro x0 b0 r0;dsimp only[o0a,List.set] at b0;refine lR1 Z ?_;have SF:=(b0.setEnt 3 Z (show _=(atC c t s).map (Value.int .i64) by simp[atC,D0,List.map_set])).setEnt 4 Z (show _=(N8a s.set c.mem c.mem).map (Value.int .i64) by rw[List.take_of_length_le (by omega)]);rw[P3d he e0 v0] at o0 ⊢;exact L1a (n:=3) Z V0a Z (SF.cells 5 Z) Z ⟨⟨_,Z,_,_,_,Z,SF.rdInts 4 Z (Y0a hI.lt (SF.new 4 Z)) (by simp[s1]) b1 (B3a hp o0.mem),SF.rdInts 3 Z (Y0a hI.lt (SF.new 3 Z)) (by rw[E6a];exact u0) b2 (b7a hp o0),SF.rdBufs 2 Z (Y0a hI.lt (SF.new 2 Z)) r1 b3 he⟩,SF.fin⟩
theorem f2d{p:g0a}{m:Int}{c:E0a}(he:G5a c){x:d0a}(hx:x∈P0a p m c):∃(t i:Nat) (th:i1a) (s:p1a),x=⟨t,i,0⟩∧p.threads[t]?=some th∧th.steps[i]?=some s∧d1a p m c t s=true:=by
 obtain⟨t,ht,h|h⟩:=Y1a.1 hx
 ·obtain⟨i,s,hs,he,rfl⟩:=h;have a0:p.threads[t]?=some p.threads[t]:=List.getElem?_eq_getElem ht;rw[Q1a a0] at hs;exact⟨t,i,_,s,Z,a0,hs,he⟩
 ·obtain⟨i,h1,-⟩:=h;rw[he.getD] at h1;simp at h1
theorem G7b(p:g0a)(c:E0a)(x:d0a)(M:List Nat)(w0:World)(cs xs:LV)(hI:InP p M w0 cs)(hX:B0a M w0 c xs)(hf:U5a p c)(he:G5a c)(hx:x∈P0a p 0 c):
 M0a prog 33 #[.agg cs.toArray,.agg xs.toArray,.agg #[.int .i64 x.thread,.int .i64 x.step,.int .i64 x.cell]] w0 fun v w'=>(∃ys,v=.tuple #[.agg ys.toArray,.int .i64 0]∧B0a M w' (doC p 0 c x) ys)∧Bw w0 w':=by
 obtain⟨t,i,th,s,rfl,q0,A0,_⟩:=f2d he hx;have z0:=Y5b hI.ok hf hx;obtain⟨Ac,nc,cc,Am,nm,cm,Al,nl,cl,At,nt,ct,rfl,_⟩:=hI.rd.open_;obtain⟨Xm,xm,ym,Xa,xa,ya,Xb,xb,yb,rfl,_⟩:=hX.open_;have S:=St.refl w0;refine a0a func33 Z ntmps33 Z ?_;refine wO1 Z (i0a S Z ?_);intro g3 w3 S3 X3 G3;refine i0a S3 Z ?_;intro g4 w4 S4 X4 G4;refine i0a S4 Z ?_;intro g5 w5 S5 X5 G5;refine m0a S5 t4a Z Z ?_;intro g6 w6 S6 X6 G6;refine lO S6.k [.w 3] Z ⟨⟨Z,Z⟩,U⟩ (y0a S6 z3c Z Z (I7a p M _ _ (hI.keep (S6.keep0 M))) ?_);intro N0 e0 G0;refine lO e0.k [.w 3,.w 2] Z ⟨⟨Z,Z⟩,⟨Z,Z⟩,U⟩ (y0a e0 h6c Z Z (A1b p c M _ _ _ (hI.keep (e0.keep0 M)) (hX.keep (e0.keep0 M)) hf he) ?_);intro O0 f0 H0;refine lO f0.k [.w 3,.w 2] Z ⟨⟨Z,Z⟩,⟨Z,Z⟩,U⟩ (s0a f0 D6c Z Z (n8a p c M _ _ _ (hI.keep (f0.keep0 M)) (hX.keep (f0.keep0 M)) hf he) ?_);rintro K0 s0 hr t0 I0;obtain⟨Ar,nr,cr,rfl⟩:=hr.form;obtain⟨_,-,_⟩:=hr.len;have b0:=A0a.refl [] s0;refine lC1 Z (wL (fun μk D ε w=>D=[]∧∃k:Nat,(k+μk=((P0a p 0 c).length))∧(A0a [] s0 w)∧(g1a (P0a p 0 c) k (fun y=>y≠⟨t,i,0⟩))∧St [] w0 w [(some g6,71,[.slice none 0 0,.slice none 0 0,.slice none 0 0]),(some g5,75,[.int .i64 t,.int .i64 i,.int .i64 0]),(some g4,71,[.slice Xm xm ym,.slice Xa xa ya,.slice Xb xb yb]),(some g3,27,pL Ac nc cc Am nm cm Al nl cl At nt ct)]∧Sl ε [(3,.pointer (some ⟨g3,0,none⟩)),(4,.pointer (some ⟨g4,0,none⟩)),(5,.pointer (some ⟨g5,0,none⟩)),(6,.pointer (some ⟨g6,0,none⟩)),(22,.slice Ar nr cr),(23,.int .i64 nr),(24,.int .i64 k)]) (μ:=((P0a p 0 c).length)) ⟨Z,0,by omega,b0,g1a.zero,t0,Z⟩ ?_);rintro μk D ε w ⟨rfl,k,_,b0,hs,S,eZ⟩;refine wK eZ (wB1 Z (fun y0=>?_) fun y0=>?_)
 ·obtain⟨y,x0,C0,_,B0,m0,_,o0,n0,p0⟩:=RdS.get ((hr.keep b0.of_nil)) (k) (by omega);obtain⟨rfl,_⟩:=id p0;refine lO (S.k.b n0) [.x x0 C0,.v 0] Z ⟨⟨Z,o0⟩,⟨m0,by omega⟩,U⟩ (m0a S i5b Z Z ?_);intro g9 w9 S9 X9 G9;have d0:=Nat.le_trans b0.size G9;replace b0:=b0.trans X9;refine f0a (kk:=0) (vs:=[_,_,_]) S9 U2b Z Z Z Z Z Z Z ?_;intro D0 a0 i0;dsimp only[o0a,List.set] at a0;replace b0:=b0.fresh i0 (by first|exact d0);refine lOn 6 a0.k [.w 2,.w 0] Z ⟨⟨Z,by rfl⟩,⟨Z,Z⟩,U⟩ (K6c c9a Z Z Z (fun r0=>?_) fun r0=>?_)
  ·refine lO a0.k [.w 4,.w 3,.w 2] Z ⟨⟨Z,Z⟩,⟨Z,Z⟩,⟨Z,Z⟩,U⟩ (s0a a0 e2d Z Z (S2b p c t i th s (g6::M) _ _ _ (hI.add a0 (k:=1) Z) (B0a.add hX a0 (k:=1) Z) hf he q0 A0 z0) ?_);rintro L0 P0 ⟨ys,rfl,hy⟩ u0 J0;obtain⟨_,_,_,_,_,_,_,_,_,rfl,-⟩:=hy.open_
   first|refine f0a (kk:=1) (vs:=[_,_,_]) u0 n2a Z Z Z Z Z Z Z ?_
   intro E0 c0 j0;dsimp only[o0a,List.set] at c0;replace hy:=hy.keep (j0.mono (by simp));exact lR1 Z (x2a (n:=3) Z V0a Z (c0.cells 1 Z) Z Z ⟨⟨_,Z,hy.less (fun g hg=>List.mem_cons_of_mem _ hg)⟩,c0.fin⟩)
  refine lP1 Z ?_;refine⟨μk-1,by omega,Z,k+1,by omega,(b0),(hs.succ B0 (fun h=>r0 (by rw[h];exact⟨Z,Z,Z⟩))),a0.tail,Z⟩
 refine lO1 Z (e1a B5a (vs:=[]) (cs:=[_,_,_]) Z Z Z Z ?_);refine f0a (kk:=0) (vs:=[_,_,_]) S n2a Z Z Z Z Z Z Z ?_;intro F0 g0 v0;dsimp only[o0a,List.set] at g0;exact lR1 Z (absurd Z (hs.all (by omega) _ hx))
theorem RdS.take{α:Type}{M:List Nat}{w:World}{size:Nat}{R:LV→α→Prop}{A:Option Addr}{n c:Nat}{l:List α}(h:RdS M w size R (.slice A n c) l)(i:Nat)(hi:i≤n):RdS M w size R (.slice A i c) (l.take i):=by
 obtain⟨_,_,_,he,_,_,h3,_,h5⟩:=h;cases he;refine⟨_,_,_,Z,by rw[List.length_take];omega,by omega,h3,by omega,fun h0=>?_⟩;obtain⟨b,o,hA,hb,a0⟩:=h5 (by omega);refine⟨b,o,hA,hb,fun j x hx=>a0 j x ?_⟩;rw[List.getElem?_take] at hx
 split at hx
 ·exact hx
 ·cases hx
theorem x5c{l:List Int}(h:l.Nodup){k:Nat}{x:Int}(hx:l[k]?=some x):x∉l.take k:=fun hh=>by
 obtain⟨i,hi,he⟩:=List.getElem_of_mem hh;rw[List.length_take] at hi;obtain⟨hk,hx⟩:=List.getElem?_eq_some_iff.1 hx;rw[List.getElem_take] at he;exact(List.pairwise_iff_getElem.1 h i k (by omega) hk (by omega)) (he.trans hx.symm)
theorem I8b{a b:List Int}{k:Nat}{x y:Int}(hx:a[k]?=some x)(hy:b[k]?=some y):(x,y)∈a.zip b:=List.mem_of_getElem? (i:=k) (by rw[List.getElem?_zip_eq_some];exact⟨hx,hy⟩)
theorem O2c(M:List Nat)(w0:World)(v:Value)(l:List Int)(a:Int)(hR:RdI M w0 v l):
 M0a prog 165 #[v,.int .i64 a] w0 fun v w'=>(∃n,v=.int .i64 n∧(0≤n↔a∈l))∧Bw w0 w':=by
 obtain⟨A,n,c,rfl⟩:=hR.form;obtain⟨_,_⟩:=hR.len;have S:=St.refl w0;refine a0a func165 Z ntmps165 Z ?_;refine wC1 Z (wL (fun μk D ε w=>D=[]∧∃k:Nat,(k+μk=(l.length))∧(g1a (l) k (fun x=>a≠x))∧St [] w0 w []∧Sl ε [(0,.slice A n c),(1,.int .i64 a),(7,.int .i64 n),(8,.int .i64 k)]) (μ:=(l.length)) ⟨Z,0,by omega,g1a.zero,S,Z⟩ ?_);rintro μk D ε w ⟨rfl,k,_,ha,S,eZ⟩;refine wK eZ (wB1 Z (fun h9=>?_) fun h9=>?_)
 ·obtain⟨x,f0,g0,_,e0,b0,_,_,c0,d0⟩:=RdS.get (hR) (k) (by omega);obtain⟨rfl,_⟩:=id d0;refine lB (S.k.a c0) [.x f0 g0,.f 0 0] Z ⟨Z,⟨b0,by omega⟩,U⟩ (fun a0=>?_) fun a0=>?_
  ·exact lU Z Z ⟨⟨_,Z,⟨fun _=>a0▸c0a e0,fun _=>by omega⟩⟩,S.fin⟩
  refine lP1 Z ⟨μk-1,by omega,Z,k+1,by omega,(ha.succ e0 (a0)),S,Z⟩
 exact lU Z Z ⟨⟨_,Z,⟨fun h=>by omega,fun h=>absurd Z (ha.all (by omega) a h)⟩⟩,S.fin⟩
theorem r7a(M:List Nat)(w0:World)(v:Value)(l:List Int)(a:Int)(hR:RdI M w0 v l):
 M0a prog 103 #[v,.int .i64 a] w0 fun v w'=>v=.bool (decide (a∈l))∧Bw w0 w':=by
 obtain⟨_,_,_,rfl⟩:=hR.form;have S:=St.refl w0;refine a0a func103 Z ntmps103 Z ?_;refine wO1 Z (s0a S u8c Z Z (O2c M _ _ l a (hR.keep (S.keep0 M))) ?_);rintro v7 w7 ⟨_,rfl,hm⟩ S7 X7;refine lB1 Z (fun h8=>?_) fun h8=>?_
 ·refine lR1 Z (t0a Z ?_);exact⟨by rw[decide_eq_true (hm.1 (by omega))],S7.fin⟩
 refine lR1 Z (t0a Z ?_);exact⟨by rw[decide_eq_false (fun hh=>absurd (hm.2 hh) (by omega))],S7.fin⟩
theorem R1b(p:g0a)(M:List Nat)(w0:World)(cs:LV)(hI:InP p M w0 cs):
 M0a prog 283 #[.agg cs.toArray] w0 fun v w'=>v=.bool true∧Bw w0 w':=by
 obtain⟨_,_,_,_,_,_,_,_,_,_,_,_,rfl,_⟩:=hI.rd.open_;have S:=St.refl w0;refine a0a func283 Z ntmps283 Z ?_;refine wO1 Z (i0a S Z ?_);intro g1 w1 S1 X1 G1;refine lO S1.k [.w 0] Z ⟨⟨Z,by rfl⟩,U⟩ (y0a S1 x9b Z Z (k1b p M _ _ (hI.keep (S1.keep0 M)).rd hI.ok (hI.keep (S1.keep0 M)).msk (hI.keep (S1.keep0 M)).lt) ?_);intro w8 S8 X8;refine lB1 Z (fun a0=>?_) (fun a0=>by exfalso;omega);exact lU Z Z ⟨Z,S8.fin⟩
theorem R5b(p:g0a)(en:J0a)(M:List Nat)(w0:World)(cs es:LV)(hI:InP p M w0 cs)(hE:Q0a M w0 es en)(ho:d2b p en):
 M0a prog 309 #[.agg cs.toArray,.agg es.toArray] w0 fun v w'=>v=.bool true∧Bw w0 w':=by
 obtain⟨Ac,nc,cc,Am,nm,cm,Al,nl,cl,At,nt,ct,rfl,hC,_⟩:=hI.rd.open_;obtain⟨Ec,ec,fc,Ev,P0,fv,rfl,m0,K0,_⟩:=hE.open_;have S:=St.refl w0;have l1:=ho.len;have l2:en.values.length=en.cells.length:=ho.even;have l3:en.cells.length≠0:=fun h=>ho.some_ (List.length_eq_zero_iff.1 h);refine a0a func309 Z ntmps309 Z ?_;refine wO1 Z (i0a S Z ?_);intro g2 w2 S2 X2 G2;refine i0a S2 Z ?_;intro g3 w3 S3 X3 G3;refine lB S3.k [.o 0] Z ⟨Z,U⟩ (fun Q0=>by exfalso;omega) fun Q0=>?_;refine lB S3.k [.o 0,.o 1] Z ⟨Z,Z,U⟩ (fun R0=>by exfalso;omega) fun R0=>?_;refine lB S3.k [.o 0,.o 0] Z ⟨Z,Z,U⟩ (fun S0=>by exfalso;omega) fun S0=>?_;refine lC S3.k [.o 0] Z ⟨Z,U⟩ (wL (fun μk D ε w=>D=[]∧∃k:Nat,(k+μk=(en.cells.length))∧St [] w0 w [(some g3,278,[.slice Ec ec fc,.slice Ev P0 fv]),(some g2,27,pL Ac nc cc Am nm cm Al nl cl At nt ct)]∧Sl ε [(2,.pointer (some ⟨g2,0,none⟩)),(3,.pointer (some ⟨g3,0,none⟩)),(31,.slice Ec ec fc),(32,.int .i64 ec),(33,.int .i64 k)]) (μ:=(en.cells.length)) ⟨Z,0,by omega,S3,Z⟩ ?_);rintro μk D ε w ⟨rfl,k,_,S,eZ⟩;refine wK eZ (wB1 Z (fun T0=>?_) fun T0=>?_)
 ·obtain⟨x,p0,G0,_,n0,f0,_,_,y0,C0⟩:=RdS.get (m0) (k) (by omega);obtain⟨rfl,_⟩:=id C0;have q1:=ho.cells k x n0;obtain⟨q2,q3,q4⟩:=q1;unfold M1a at q2;have v0:RdI M w0 (.slice (some ⟨p0,G0,none⟩) ec fc) en.cells:=f0▸m0;refine lB (S.k.a y0) [.x p0 G0,.f 0 0] Z ⟨Z,⟨f0,by omega⟩,U⟩ (fun U0=>by exfalso;omega) fun U0=>?_;refine lB S.k [.o 1] Z ⟨Z,U⟩ (fun V0=>by exfalso;omega) fun V0=>?_;refine lO S.k [.o 0] Z ⟨Z,U⟩ ?_;refine b0d (k:=k) X0a.slT (show _=Value.slice (some ⟨p0,G0,none⟩) ec fc by rw[←f0];rfl) Z (by have:=m0.len;omega) m0.len.2.1 Z ?_;refine lO1 Z (y0a S t7b Z Z ((r7a M _ _ (en.cells.take k) x (RdS.take (v0.keep (S.keep0 M)) k (by omega))).mono (fun v w' h=>⟨h.1.trans (by rw[decide_eq_false (x5c ho.once n0)]),h.2⟩)) ?_);intro a1 J0 Z0;obtain⟨e0,N0,X0,_,b0,u0,_,A0,z0,D0⟩:=RdS.get (hC) (x.toNat) (by omega);obtain⟨rfl,_⟩:=U2a.open_ D0;rw[j1a b0] at q3;rw[L2a b0] at q4;have q5:=(hI.ok.cells e0 (c0a b0)).w;refine lO (J0.k.a z0) [.o 1,.x N0 X0,.v 0] Z ⟨⟨Z,A0⟩,⟨u0,by omega⟩,Z,U⟩ (m0a J0 w0d Z Z ?_);intro g7 w7 S7 X7 G7;refine f0a (kk:=0) (vs:=[_,_,_,_,_,_]) S7 P7c Z Z Z Z Z Z Z ?_;intro Y0 a0 L0;dsimp only[o0a,List.set] at a0;refine lC1 Z (x0a b0a [0,1,2,3,4,5,6,7,8,9,10,11,12,13,14,15,16,17,18,19,20,21,22,23,24,25,26,27,28] [] [] Z (Cl _ _ _ _) (Cl.start a0) ?_);refine qB a0.q [.o 0] Z ⟨Z,U⟩ (fun W0=>by exfalso;omega) fun W0=>?_;refine qO1 Z ?_;rcases(Bool.eq_false_or_eq_true (e0.ghost)).symm with c0|c0
  ·refine p0a d2a Z (fun w1 hw=>by exact(hw.1.cell 0 Z Z).trans (congrArg (fun b=>some (Value.bool b)) c0)) Z ?_;refine qB1 Z (fun r0=>?_) fun r0=>?_
   ·refine lV Z ?_;rintro I0 ⟨j0,o0⟩;refine lR1 Z (t0a Z ?_);exfalso;rw[c0] at q4;simp at q4;omega
   obtain⟨y,q0,H0,O0,E0,g0,x0,B0,d0,i0⟩:=RdS.get (K0) (k) (by omega);obtain⟨rfl,F0⟩:=id i0;have q6:=ho.vals (x,y) (I8b n0 E0);simp only at q6;rw[W4a (h0:=q2.1) b0,G2a] at q6;refine qB (a0.q.a d0) [.o 1,.x q0 H0,.f 0 0] Z ⟨Z,⟨g0,by omega⟩,Z,U⟩ (fun s0=>by exfalso;omega) fun s0=>?_;refine qO a0.q [.o 1] Z ⟨Z,U⟩ (q0a X0a.slT Z (by assumption) Z Z ?_);refine qO1 Z (p0a K0a Z (fun w1 hw=>by exact hw.1.old (d0 0 _ Z)) Z ?_);refine qO a0.q [.o 0] Z ⟨Z,U⟩ ?_;rw[show e0.w=((e0.w.toNat:Nat):Int) by omega];refine s6c (n:=e0.w.toNat) Z Z ?_;refine qB1 Z (fun t0=>by exfalso;omega) fun t0=>?_;refine lV Z ?_;rintro I0 ⟨j0,o0⟩;refine lP1 Z ⟨μk-1,by omega,Z,k+1,by omega,j0.tail,Z⟩
  refine p0a d2a Z (fun w1 hw=>by exact(hw.1.cell 0 Z Z).trans (congrArg (fun b=>some (Value.bool b)) c0)) Z ?_;refine qB1 Z (fun r0=>?_) fun r0=>?_
  ·obtain⟨y,q0,H0,O0,E0,g0,x0,B0,d0,i0⟩:=RdS.get (K0) (k) (by omega);obtain⟨rfl,F0⟩:=id i0;have q6:=ho.vals (x,y) (I8b n0 E0);simp only at q6;rw[W4a (h0:=q2.1) b0,G2a] at q6;refine qB (a0.q.a d0) [.o 1,.x q0 H0,.f 0 0] Z ⟨Z,⟨g0,by omega⟩,Z,U⟩ (fun s0=>by exfalso;omega) fun s0=>?_;refine qO a0.q [.o 1] Z ⟨Z,U⟩ (q0a X0a.slT Z (by assumption) Z Z ?_);refine qO1 Z (p0a K0a Z (fun w1 hw=>by exact hw.1.old (d0 0 _ Z)) Z ?_);refine qO a0.q [.o 0] Z ⟨Z,U⟩ ?_;rw[show e0.w=((e0.w.toNat:Nat):Int) by omega];refine s6c (n:=e0.w.toNat) Z Z ?_;refine qB1 Z (fun t0=>by exfalso;omega) fun t0=>?_;refine lV Z ?_;rintro I0 ⟨j0,o0⟩;refine lP1 Z ⟨μk-1,by omega,Z,k+1,by omega,j0.tail,Z⟩
  refine lV Z ?_;rintro I0 ⟨j0,o0⟩;refine lR1 Z (t0a Z ?_);exfalso;rw[c0] at q4;simp at q4;omega
 exact lU Z Z ⟨Z,S.fin⟩
theorem R3b(p:g0a)(c:E0a)(M:List Nat)(w0:World)(cs xs:LV)(hI:InP p M w0 cs)(hX:B0a M w0 c xs)(hf:U5a p c):
 M0a prog 284 #[.agg cs.toArray,.agg xs.toArray] w0 fun v w'=>v=.bool true∧Bw w0 w':=by
 obtain⟨Ac,nc,cc,Am,nm,cm,Al,nl,cl,At,nt,ct,rfl,hC,_,_,B2,_⟩:=hI.rd.open_;obtain⟨Xm,xm,ym,Xa,xa,ya,Xb,xb,yb,rfl,A1,A2,s0,_,_,a1,_⟩:=hX.open_;have S:=St.refl w0;have f1:=hf.mem.len;have f2:=hf.nat;have f3:=hf.nbuf;refine a0a func284 Z ntmps284 Z ?_;refine wO1 Z (i0a S Z ?_);intro g2 w2 S2 X2 G2;refine i0a S2 Z ?_;intro g3 w3 S3 X3 G3;refine lB S3.k [.o 0,.o 1] Z ⟨Z,Z,U⟩ (fun n2=>by exfalso;omega) fun n2=>?_;refine lB S3.k [.o 0,.o 1] Z ⟨Z,Z,U⟩ (fun o2=>by exfalso;omega) fun o2=>?_;refine lB S3.k [.o 0,.o 1] Z ⟨Z,Z,U⟩ (fun p2=>by exfalso;omega) fun p2=>?_;refine lC S3.k [.o 0] Z ⟨Z,U⟩ (wL (fun μk D ε w=>D=[]∧∃k:Nat,(k+μk=(c.mem.length))∧St [] w0 w [(some g3,71,[.slice Xm xm ym,.slice Xa xa ya,.slice Xb xb yb]),(some g2,27,pL Ac nc cc Am nm cm Al nl cl At nt ct)]∧Sl ε [(2,.pointer (some ⟨g2,0,none⟩)),(3,.pointer (some ⟨g3,0,none⟩)),(38,.slice Xm xm ym),(39,.int .i64 xm),(40,.int .i64 k)]) (μ:=(c.mem.length)) ⟨Z,0,by omega,S3,Z⟩ ?_);rintro μk D ε w ⟨rfl,k,hk,S,eZ⟩;refine wK eZ (wB1 Z (fun r2=>?_) fun r2=>?_)
 ·obtain⟨v,Z1,C2,_,n1,u1,_,_,B1,I1⟩:=RdS.get (A1) (k) (by omega);obtain⟨rfl,_⟩:=id I1;have q1:=hf.mem.vals k v n1;refine lB (S.k.a B1) [.x Z1 C2,.f 0 0] Z ⟨Z,⟨u1,by omega⟩,U⟩ (fun s2=>by exfalso;omega) fun s2=>?_;obtain⟨x,a2,D2,_,V1,v1,_,_,C1,J1⟩:=RdS.get (hC) (k) (by omega);obtain⟨rfl,_⟩:=U2a.open_ J1;have q2:=(hI.ok.cells x (c0a V1)).w;rw[w3d V1,G2a] at q1;refine lO (S.k.a C1) [.o 1,.x a2 D2,.f 0 1] Z ⟨Z,⟨v1,by omega⟩,Z,U⟩ ?_;rw[show x.w=((x.w.toNat:Nat):Int) by omega];refine r6c (n:=x.w.toNat) Z Z ?_;refine lB1 Z (fun t2=>by exfalso;omega) fun t2=>?_;refine lP1 Z ⟨μk-1,by omega,Z,k+1,by omega,S,Z⟩
 refine lC S.k [.o 0] Z ⟨Z,U⟩ (wL (fun μk D ε w=>D=[]∧∃k:Nat,(k+μk=(c.at_.length))∧St [] w0 w [(some g3,71,[.slice Xm xm ym,.slice Xa xa ya,.slice Xb xb yb]),(some g2,27,pL Ac nc cc Am nm cm Al nl cl At nt ct)]∧Sl ε [(2,.pointer (some ⟨g2,0,none⟩)),(3,.pointer (some ⟨g3,0,none⟩)),(60,.slice Xa xa ya),(61,.int .i64 xa),(62,.int .i64 k)]) (μ:=(c.at_.length)) ⟨Z,0,by omega,S,Z⟩ ?_);rintro μk D ε w ⟨rfl,k,hk,S,eZ⟩;refine wK eZ (wB1 Z (fun u2=>?_) fun u2=>?_)
 ·obtain⟨v,b2,E2,_,n1,w1,_,_,D1,K1⟩:=RdS.get (A2) (k) (by omega);obtain⟨rfl,_⟩:=id K1;obtain⟨th,d2,F2,_,Q1,x1,_,H1,E1,M1⟩:=RdS.get (B2) (k) (by omega);obtain⟨G0,b1,R0,J0,g1,U0,K0,i1,V0,I0,d1,T0,rfl,_⟩:=S0a.open_ M1;have q1:=hf.atr k v n1 th Q1;refine lO ((S.k.a E1).a D1) [.x b2 E2,.f 0 0,.o 1,.x d2 F2,.v 1] Z ⟨⟨Z,H1⟩,⟨x1,by omega⟩,Z,Z,⟨w1,by omega⟩,U⟩ (m0a S o4b Z Z ?_);intro g9 w9 S9 X9 G9;refine f0a (kk:=0) (vs:=[_,_,_,_,_,_,_]) S9 P4b Z Z Z Z Z Z Z ?_;intro W1 b0 U1;dsimp only[o0a,List.set] at b0;refine lB1 Z (fun v2=>by exfalso;omega) fun v2=>?_;refine lB b0.k [.o 0] Z ⟨Z,U⟩ (fun x2=>by exfalso;omega) fun x2=>?_;obtain⟨b,i2,H2,_,a1,y1,_,_,F1,N1⟩:=RdS.get (s0) (k) (by omega);obtain⟨_,_,_,rfl,_⟩:=V4a.open_ N1;have q3:=hf.bufs k b a1;refine lB (b0.k.a F1) [.o 1,.x i2 H2,.f 0 0] Z ⟨Z,⟨y1,by omega⟩,Z,U⟩ (fun y2=>by exfalso;omega) fun y2=>?_;refine lB1 Z (fun z2=>?_) fun z2=>?_
  ·refine lO1 Z ?_;cases m0:th.asleep
   ·refine v0a d2a Z (by exact(b0.cell 0 Z Z).trans (congrArg (fun b=>some (Value.bool b)) m0)) Z ?_;rw[q1.2.2 (by omega)] at m0;refine lR1 Z (t0a Z ?_);cases m0
   refine v0a d2a Z (by exact(b0.cell 0 Z Z).trans (congrArg (fun b=>some (Value.bool b)) m0)) Z ?_;rw[q1.2.2 (by omega)] at m0;have q4:=q3.2.2 (by rw[n1];exact congrArg some (by omega));have q4:b.length=0:=by rw[q4];rfl
   obtain⟨_,j2,I2,_,P1,z1,_,_,G1,O1⟩:=RdS.get (s0) (k) (by omega);obtain rfl:=Option.some.inj (a1.symm.trans P1);obtain⟨_,_,_,rfl,_⟩:=V4a.open_ O1;refine lB (b0.k.a G1) [.o 1,.x j2 I2,.f 0 0] Z ⟨Z,⟨z1,by omega⟩,Z,U⟩ (fun t1=>by exfalso;omega) fun t1=>?_;obtain⟨T1,u0,E0,r1,r0,i0,X0,Z0,n0,q0⟩:=RdS.get (s0) (k) (by omega);obtain rfl:=Option.some.inj (a1.symm.trans r0);obtain⟨f0,d0,g0,rfl,e0,A0,O0⟩:=V4a.open_ q0;refine lC (b0.k.a n0) [.o 1,.x u0 E0,.f 0 0] Z ⟨Z,⟨i0,by omega⟩,Z,U⟩ (wL (fun μj D ε w=>D=[]∧∃j:Nat,(j+μj=(b.length))∧St [] w0 w [(some g9,58,[.string th.name,.int .i64 th.points,.slice G0 b1 R0,.slice J0 g1 U0,.slice K0 i1 V0,.slice I0 d1 T0,.bool th.asleep]),(some g3,71,[.slice Xm xm ym,.slice Xa xa ya,.slice Xb xb yb]),(some g2,27,pL Ac nc cc Am nm cm Al nl cl At nt ct)]∧Sl ε [(2,.pointer (some ⟨g2,0,none⟩)),(3,.pointer (some ⟨g3,0,none⟩)),(60,.slice Xa xa ya),(61,.int .i64 xa),(62,.int .i64 k),(109,.slice f0 d0 g0),(110,.int .i64 d0),(111,.int .i64 j)]) (μ:=(b.length)) ⟨Z,0,by omega,b0,Z⟩ ?_);rintro μj D ε w ⟨rfl,j,hj,S,eZ⟩;refine wK eZ (wB1 Z (fun x0=>?_) fun x0=>?_)
   ·obtain⟨en,v0,F0,s1,D0,j0,Y0,p0,o0,c0⟩:=RdS.get (e0) (j) (by omega);obtain⟨H0,c1,S0,L0,j1,W0,rfl,y0,z0,B0,C0,P0,Q0⟩:=Q0a.open_ c0;have q5:=q3.2.1 en (c0a D0);refine lO (S.k.a o0) [.x v0 F0,.v 0] Z ⟨⟨Z,p0⟩,⟨j0,by omega⟩,U⟩ (m0a S H7a Z Z ?_);intro m2 J2 o1 Y1 X1;refine f0a (kk:=0) (vs:=[_,_]) o1 Q8a Z Z Z Z Z Z Z ?_;intro m1 a0 N0;dsimp only[o0a,List.set] at a0;refine lO a0.k [.w 3,.w 0] Z ⟨⟨Z,by rfl⟩,⟨Z,Z⟩,U⟩ (y0a a0 n2c Z Z (R5b p en M _ _ _ (hI.keep (a0.keep0 M)) (Q0a.keep (a0.keep0 M) _ _ c0) q5) ?_);intro R1 t0 p1;refine lP1 Z ⟨μj-1,by omega,Z,j+1,by omega,t0.tail,Z⟩
   refine lP1 Z ⟨μk-1,by omega,Z,k+1,by omega,S.tail,Z⟩
  obtain⟨T1,u0,E0,r1,r0,i0,X0,Z0,n0,q0⟩:=RdS.get (s0) (k) (by omega);obtain rfl:=Option.some.inj (a1.symm.trans r0);obtain⟨f0,d0,g0,rfl,e0,A0,O0⟩:=V4a.open_ q0;refine lC (b0.k.a n0) [.o 1,.x u0 E0,.f 0 0] Z ⟨Z,⟨i0,by omega⟩,Z,U⟩ (wL (fun μj D ε w=>D=[]∧∃j:Nat,(j+μj=(b.length))∧St [] w0 w [(some g9,58,[.string th.name,.int .i64 th.points,.slice G0 b1 R0,.slice J0 g1 U0,.slice K0 i1 V0,.slice I0 d1 T0,.bool th.asleep]),(some g3,71,[.slice Xm xm ym,.slice Xa xa ya,.slice Xb xb yb]),(some g2,27,pL Ac nc cc Am nm cm Al nl cl At nt ct)]∧Sl ε [(2,.pointer (some ⟨g2,0,none⟩)),(3,.pointer (some ⟨g3,0,none⟩)),(60,.slice Xa xa ya),(61,.int .i64 xa),(62,.int .i64 k),(109,.slice f0 d0 g0),(110,.int .i64 d0),(111,.int .i64 j)]) (μ:=(b.length)) ⟨Z,0,by omega,b0,Z⟩ ?_);rintro μj D ε w ⟨rfl,j,hj,S,eZ⟩;refine wK eZ (wB1 Z (fun x0=>?_) fun x0=>?_)
  ·obtain⟨en,v0,F0,s1,D0,j0,Y0,p0,o0,c0⟩:=RdS.get (e0) (j) (by omega);obtain⟨H0,c1,S0,L0,j1,W0,rfl,y0,z0,B0,C0,P0,Q0⟩:=Q0a.open_ c0;have q5:=q3.2.1 en (c0a D0);refine lO (S.k.a o0) [.x v0 F0,.v 0] Z ⟨⟨Z,p0⟩,⟨j0,by omega⟩,U⟩ (m0a S H7a Z Z ?_);intro m2 J2 o1 Y1 X1;refine f0a (kk:=0) (vs:=[_,_]) o1 Q8a Z Z Z Z Z Z Z ?_;intro m1 a0 N0;dsimp only[o0a,List.set] at a0;refine lO a0.k [.w 3,.w 0] Z ⟨⟨Z,by rfl⟩,⟨Z,Z⟩,U⟩ (y0a a0 n2c Z Z (R5b p en M _ _ _ (hI.keep (a0.keep0 M)) (Q0a.keep (a0.keep0 M) _ _ c0) q5) ?_);intro R1 t0 p1;refine lP1 Z ⟨μj-1,by omega,Z,j+1,by omega,t0.tail,Z⟩
  refine lP1 Z ⟨μk-1,by omega,Z,k+1,by omega,S.tail,Z⟩
 exact lU Z Z ⟨Z,S.fin⟩
theorem L9c(p:g0a)(c:E0a)(m:Int)(hm:m=1∨m=2)(M:List Nat)(w0:World)(cs xs:LV)(hI:InP p M w0 cs)(hX:B0a M w0 c xs)(hf:U5a p c):
 M0a prog 238 #[.agg cs.toArray,.int .i64 m,.agg xs.toArray] w0 fun v w'=>v=.tuple #[.agg (xs++(cs++[Value.int .i64 m])).toArray,.bool true]∧Bw w0 w':=by
 obtain⟨_,_,_,_,_,_,_,_,_,_,_,_,rfl,_⟩:=hI.rd.open_;obtain⟨_,_,_,_,_,_,_,_,_,rfl,_⟩:=hX.open_;have S:=St.refl w0;refine a0a func238 Z ntmps238 Z ?_;refine wO1 Z (i0a S Z ?_);intro g3 w3 S3 X3 G3;refine i0a S3 Z ?_;intro g5 w5 S5 X5 G5;refine m0a S5 w6c Z Z ?_;intro g6 w6 S6 X6 G6;refine lB1 Z (fun h9=>?_) fun h9=>?_
 ·refine lB1 Z (fun i0=>by exfalso;omega) fun i0=>?_;refine lO S6.k [.w 2] Z ⟨⟨Z,by rfl⟩,U⟩ (y0a S6 d3c Z Z (R1b p M _ _ (hI.keep (S6.keep0 M))) ?_);intro j0 b0 f0;refine lO b0.k [.w 2,.w 1] Z ⟨⟨Z,by rfl⟩,⟨Z,by rfl⟩,U⟩ (y0a b0 t2c Z Z (R3b p c M _ _ _ (hI.keep (b0.keep0 M)) (hX.keep (b0.keep0 M)) hf) ?_);intro m0 c0 g0;refine lO c0.k [.w 1,.w 2] Z ⟨⟨Z,by rfl⟩,⟨Z,by rfl⟩,U⟩ (e1a u1c (vs:=[(0,.agg _),(1,.agg _),(2,.int .i64 _)]) (cs:=[_,_,_,_,_,_,_,_]) Z Z Z Z ?_);refine f0a (kk:=0) (vs:=[_,_,_,_,_,_,_,_]) c0 F1c Z Z Z Z Z Z Z ?_;intro e0 a0 d0;dsimp only[o0a,List.set] at a0;exact lR1 Z (x2a (n:=8) Z b1b Z (a0.cells 0 Z) Z Z ⟨Z,a0.fin⟩)
 refine lO S6.k [.w 2] Z ⟨⟨Z,by rfl⟩,U⟩ (y0a S6 d3c Z Z (R1b p M _ _ (hI.keep (S6.keep0 M))) ?_);intro j0 b0 f0;refine lO b0.k [.w 2,.w 1] Z ⟨⟨Z,by rfl⟩,⟨Z,by rfl⟩,U⟩ (y0a b0 t2c Z Z (R3b p c M _ _ _ (hI.keep (b0.keep0 M)) (hX.keep (b0.keep0 M)) hf) ?_);intro m0 c0 g0;refine lO c0.k [.w 1,.w 2] Z ⟨⟨Z,by rfl⟩,⟨Z,by rfl⟩,U⟩ (e1a u1c (vs:=[(0,.agg _),(1,.agg _),(2,.int .i64 _)]) (cs:=[_,_,_,_,_,_,_,_]) Z Z Z Z ?_);refine f0a (kk:=0) (vs:=[_,_,_,_,_,_,_,_]) c0 F1c Z Z Z Z Z Z Z ?_;intro e0 a0 d0;dsimp only[o0a,List.set] at a0;exact lR1 Z (x2a (n:=8) Z b1b Z (a0.cells 0 Z) Z Z ⟨Z,a0.fin⟩)
section
variable {d:Nat} {t:TypeId} {p:String} {af:Array Edge} {x y:Operand} {yt:TypeId}
theorem f9b{ty size n c:Nat}{A:Option Addr}(hT:SlT P ty size)(hx:ev e x=.slice A n c)(hy:ev e y=.slice none 0 0)(hd:Nat.ble (d+1) N=true)
 (h1:A=none→WL P r N ops rest K D (upd e d (.bool true)) w) (h2:A.isSome=true→WL P r N ops rest K D (upd e d (.bool false)) w) :
 WL P r N ops (⟨some d,.binOp .eql ty x y yt,t,p,af,none⟩::rest) K D e w:=by
 obtain⟨el,hu,_⟩:=y4a hT;have hr:=Lib.run_eql_slice_nil (P:=P) w ty el A n c 0 0 hu;cases A with
 | none=>exact y1a Z Z hd (by simp[execOp,hx,hy,eqGuard,hr]) (h1 Z)
 | some a=>exact y1a Z Z hd (by simp[execOp,hx,hy,eqGuard,hr]) (h2 Z)
end
theorem E3a.pad{G:Option Nat}{n:Nat}{cs:LV}{v:Value}{l:List Int}(h:E3a G 1 n cs v (l.map (Value.int .i64)))(h0:0<l.length):∃g pad,G=some g∧v=.slice (some ⟨g,0,none⟩) l.length (l.length+pad.length)∧cs=l.map (Value.int .i64)++pad∧l.length+pad.length≤maxLen:=by
 obtain⟨h1,h2⟩:=h;simp only[List.length_map,Nat.mul_one] at h1;rcases h2 with⟨_,_,h2⟩|⟨g,a0,rfl,rfl,h3,h4,h5,h6⟩
 ·omega
 ·simp only[Nat.mul_one] at h5 h6;refine⟨g,cs.drop n,Z,?_,?_,?_⟩
  ·rw[List.length_drop,h5,h1];congr 1;omega
  ·rw[←h6,List.take_append_drop]
  ·rw[List.length_drop,h5,h1];omega
theorem E3a.ofPad{g:Nat}{l:List Int}{pad:LV}(h:l.length+pad.length≤maxLen):E3a (some g) 1 l.length (l.map (Value.int .i64)++pad) (.slice (some ⟨g,0,none⟩) l.length (l.length+pad.length)) (l.map (Value.int .i64)) :=
 ⟨by simp,.inr ⟨g,_,Z,Z,by omega,h,by simp,by simp⟩⟩
def S4a(mem:List Int)(e:J0a)(k:Nat):List Int:=((e.cells.zip e.values).take k).foldl (fun m x=>m.set x.1.toNat x.2) mem
theorem H0b(mem:List Int)(e:J0a):S4a mem e 0=mem:=by simp[S4a]
theorem C1b(mem:List Int)(e:J0a){k:Nat}(h:e.cells.length≤k:=by omega):S4a mem e k=w2a mem e:=by
 unfold S4a w2a;rw[List.take_of_length_le (by rw[List.length_zip];omega)]
theorem A0b{mem:List Int}{e:J0a}{k:Nat}{x y:Int}(hx:e.cells[k]?=some x)(hy:e.values[k]?=some y):S4a mem e (k+1)=(S4a mem e k).set x.toNat y:=by
 unfold S4a;rw[O0a (x:=(x,y)) (by rw[List.getElem?_zip_eq_some];exact⟨hx,hy⟩),List.foldl_append];rfl
theorem w5a:∀(l:List (Int×Int)) (mem:List Int),(l.foldl (fun m x=>m.set x.1.toNat x.2) mem).length=mem.length
 | [],_=>rfl
 | x::l,mem=>by rw[List.foldl_cons,w5a l,List.length_set]
@[simp] theorem G0d(mem:List Int)(e:J0a)(k:Nat):(S4a mem e k).length=mem.length:=w5a _ _
@[simp] theorem y0c(mem:List Int)(e:J0a):(w2a mem e).length=mem.length:=w5a _ _
theorem L6a{l:List Int}{pad:LV}{i:Nat}{y:Int}(hi:i<l.length):(l.map (Value.int .i64)++pad).set i (.int .i64 y)=(l.set i y).map (Value.int .i64)++pad:=by
 rw[List.set_append_left _ _ (by simpa using hi),List.map_set]
def t5a(c:E0a)(b:List J0a)(k:Nat):List Int:=(b.take k).foldl w2a c.mem
theorem J8a{c:E0a}{b:List J0a}{k:Nat}{e:J0a}(h:b[k]?=some e):t5a c b (k+1)=w2a (t5a c b k) e:=by
 unfold t5a;rw[O0a h,List.foldl_append];rfl
theorem a0b{c:E0a}{t:Nat}{b:List J0a}(h:c.buf[t]?=some b){k:Nat}(hk:b.length≤k):t5a c b k=r1a c t:=by
 unfold t5a r1a;rw[List.take_of_length_le hk,getD_some h]
theorem A6b:∀(l:List J0a) (m:List Int),(l.foldl w2a m).length=m.length
 | [],_=>rfl
 | x::l,m=>by rw[List.foldl_cons,A6b l,y0c]
@[simp] theorem S0d(c:E0a)(b:List J0a)(k:Nat):(t5a c b k).length=c.mem.length:=A6b _ _
theorem m6b{p:g0a}{c:E0a}(hf:U5a p c){b:List J0a}(hb:∀e∈b,d2b p e)(k:Nat):M6a p (t5a c b k):=by
 unfold t5a;have key:∀(l:List J0a) (m:List Int),M6a p m→(∀e∈l,d2b p e)→M6a p (l.foldl w2a m):=by
  intro l
  induction l with
  | nil=>intro m h _;exact h
  | cons e l ih=>intro m h hl;rw[List.foldl_cons];exact ih _ (h.write (hl e (by simp))) fun x hx=>hl x (by simp[hx])
 exact key _ _ hf.mem fun e he=>hb e (List.mem_of_mem_take he)
theorem I9a(M:List Nat)(w0:World)(v:Value)(l:List Int)(hR:RdI M w0 v l)(hl:l.length≤100000000:=by omega):
 M0a prog 145 #[v] w0 fun v w'=>o7a 3 w0 w' v l∧Bw w0 w':=by
 obtain⟨_,n,_,rfl⟩:=hR.form;obtain⟨_,_⟩:=hR.len;have S:=St.refl w0;refine a0a func145 Z ntmps145 Z ?_;refine wOn 9 S.k [] Z U (f9b X0a.slT Z Z Z (fun h4=>?_) fun h4=>?_)
 ·refine lR1 Z (t0a Z ?_);subst h4;obtain⟨A',n',c',he,h1,h2,h3,h5,h6⟩:=hR;cases he;have h0:l.length=0:=by
   rcases Nat.eq_zero_or_pos n with h|h
   ·omega
   ·obtain⟨_,_,h7,_⟩:=h6 h;cases h7
  obtain rfl:=List.length_eq_zero_iff.1 h0;exact⟨⟨none,[],E3a.nil 1,fun g hg=>by cases hg⟩,S.fin⟩
 refine lO1 Z (Q0b S X0a Z ?_);intro g5 w5 S5 X5 G5;refine lO1 Z (v7a (hbytes:=(by decide)) (k:=0) (xs:=[]) S5 X0a Z E3a.new Z Z (hR.keep (S5.keep0 M)) (by simpa using hl) Z ?_);intro v7 G7 a0 w7 S7 R7 X7;refine n0a Z ?_;refine lR1 Z (t0a Z ?_);refine⟨⟨G7,a0,by simpa using R7,fun g hg=>?_⟩,S7.fin⟩;subst hg;exact⟨by simpa using S7.new 0 Z,S7.blk 0 Z⟩
theorem H9b(en:J0a)(mem:List Int)(g n0:Nat)(pad:LV)(M:List Nat)(w0:World)(es:LV)(hE:Q0a M w0 es en)(hB:z0a w0 (g,3,mem.map (Value.int .i64)++pad))(o0:en.even)(z0:∀x∈en.cells,0≤x∧x<mem.length)(y0:g∈M:=by simp):
 M0a prog 288 #[.slice (some ⟨g,0,none⟩) mem.length n0,.agg es.toArray] w0 fun _ w'=>z0a w' (g,3,(w2a mem en).map (Value.int .i64)++pad)∧W0a [g] w0 w':=by
 obtain⟨Ec,ec,fc,Ev,t0,fv,rfl,v0,x0,_⟩:=hE.open_;have S:=St.borrow1 hB;have a0:∀x∈[g],x∈M:=fun x hx=>by rw[List.mem_singleton] at hx;subst hx;exact y0
 have o0:en.values.length=en.cells.length:=o0;refine a0a func288 Z ntmps288 Z ?_;refine wO1 Z (i0a S Z ?_);intro g3 w3 S3 X3 G3;refine lC S3.k [.o 0] Z ⟨Z,U⟩ (wL (fun μk D ε w=>D=[]∧∃k:Nat,(k+μk=(en.cells.length))∧St [g] w0 w [(some g3,278,[.slice Ec ec fc,.slice Ev t0 fv]),(some g,3,(S4a mem en k).map (Value.int .i64)++pad)]∧Sl ε [(0,.slice (some ⟨g,0,none⟩) mem.length n0),(3,.pointer (some ⟨g3,0,none⟩)),(7,.slice Ec ec fc),(8,.int .i64 ec),(9,.int .i64 k)]) (μ:=(en.cells.length)) ⟨Z,0,by omega,(S3.setEnt 1 Z (by rw[H0b])),Z⟩ ?_);rintro μk D ε w ⟨rfl,k,_,S,eZ⟩;refine wK eZ (wB1 Z (fun u0=>?_) fun u0=>?_)
 ·obtain⟨x,r0,B0,_,p0,c0,e0,_,g0,j0⟩:=RdS.get (v0) (k) (by omega);obtain⟨rfl,_⟩:=id j0;have q1:=z0 x (c0a p0);obtain⟨_,s0,C0,_,A0,d0,f0,_,i0,m0⟩:=RdS.get (x0) (k) (by omega);obtain⟨rfl,_⟩:=id m0;refine lO ((S.k.b (i0.keep (S.keepM.mono a0) f0)).b (g0.keep (S.keepM.mono a0) e0)) [.x r0 B0,.f 0 0,.o 0,.x s0 C0,.f 1 0,.i] Z ⟨by omega,Z,⟨d0,by omega⟩,Z,Z,⟨c0,by omega⟩,U⟩ ?_
  first|refine r0a (kk:=1) S h8a Z Z Z (by(simp;omega)) ?_
  intro D0 b0 q0;refine lP1 Z ?_;refine⟨μk-1,by omega,Z,k+1,by omega,(b0.setEnt 1 Z (by rw[A0b p0 A0];simp only[Nat.zero_add,Nat.mul_one];exact L6a (by simp;omega))),Z⟩
 refine lF1 Z (c2a Z ?_);have SF:=S.setEnt 1 Z (show _=(w2a mem en).map (Value.int .i64)++pad by rw[C1b _ _]);exact⟨SF.blk 1 Z,SF.below⟩
theorem f8a{o e:J0a}:N9a o e=true↔∃c∈e.cells,c∈o.cells:=by
 unfold N9a;rw[List.any_eq_true];constructor
 ·rintro⟨x,h1,h2⟩;exact⟨x,by simpa using h2,h1⟩
 ·rintro⟨x,h1,h2⟩;exact⟨x,h2,by simpa using h1⟩
theorem R2c{o e:J0a}(h:∀c∈e.cells,c∉o.cells):N9a o e=false:=by
 cases hm:N9a o e with
 | false=>rfl
 | true=>obtain⟨c,h1,h2⟩:=f8a.1 hm;exact absurd h2 (h c h1)
section
variable {p:g0a} {m:Int} {c:E0a} {t:Nat} {s:p1a} {a:Int} {b:List J0a} {nb:Nat}
theorem n3c(hx:c.at_[t]?=some a)(h1:¬a=s.frm):d1a p m c t s=false:=by unfold d1a;rw[getD_some hx];simp[h1]
theorem G9b(h2:¬s.guard.evl (r1a c t) (r1a c t)=1):d1a p m c t s=false:=by unfold d1a;simp[h2]
theorem L2d(hm:¬m=0)(hx:c.at_[t]?=some a)(h1:a=s.frm)(h2:s.guard.evl (r1a c t) (r1a c t)=1)(hb:c.buf[t]?=some b)(hn:nb=b.length)(hk:s.kind=3)(hr:s.release=false):d1a p m c t s=decide ((nb:Int)<3):=by
 unfold d1a;rw[getD_some hx,getD_some hb];subst hn;simp[h1,h2,hk,hr,hm];omega
theorem Y0c(hm:¬m=0)(hx:c.at_[t]?=some a)(h1:a=s.frm)(h2:s.guard.evl (r1a c t) (r1a c t)=1)(hb:c.buf[t]?=some b)(hn:nb=b.length)(hk:s.kind=3)(hr:s.release=true):d1a p m c t s=decide ((nb:Int)=0):=by
 unfold d1a;rw[getD_some hx,getD_some hb];subst hn;cases b<;>simp[h1,h2,hk,hr,hm];omega
theorem U9b(hx:c.at_[t]?=some a)(h1:a=s.frm)(h2:s.guard.evl (r1a c t) (r1a c t)=1)(hb:c.buf[t]?=some b)(hn:nb=b.length)(hk:s.kind=4∨s.kind=5):d1a p m c t s=decide ((nb:Int)=0):=by
 unfold d1a;rw[getD_some hx,getD_some hb];subst hn;rw[if_neg (by omega),if_neg (by omega),if_neg (by omega),if_neg (by omega)];cases b<;>simp[h1,h2];omega
theorem N2d(hx:c.at_[t]?=some a)(h1:a=s.frm)(h2:s.guard.evl (r1a c t) (r1a c t)=1)(hb:c.buf[t]?=some b)(hn:nb=b.length)(hk:s.kind=6){a2:Int}(a0:c.at_[s.target.toNat]?=some a2):d1a p m c t s=(decide ((nb:Int)=0)&&decide (a2=-1)):=by
 unfold d1a;rw[getD_some hx,getD_some hb,getD_some a0];subst hn;cases b<;>simp[h1,h2,hk];omega
theorem L4c(hb:c.buf[t]?=some b)(hn:nb=b.length)(hk:s.kind=6∨s.kind=7)(h0:¬(nb:Int)=0):d1a p m c t s=false:=by
 unfold d1a;rw[getD_some hb];subst hn;cases b with
 | nil=>simp at h0
 | cons e b=>rcases hk with hk|hk<;>simp[hk]
theorem Q2d(hx:c.at_[t]?=some a)(h1:a=s.frm)(h2:s.guard.evl (r1a c t) (r1a c t)=1)(hb:c.buf[t]?=some b)(hn:nb=b.length)(hk:s.kind=7){a2:Int}(d0:c.at_[s.target.toNat]?=some a2){u:i1a}(hu:p.threads[s.target.toNat]?=some u){b2:List J0a}{a0:Nat}(b0:c.buf[s.target.toNat]?=some b2)(c0:a0=b2.length):d1a p m c t s=(decide ((nb:Int)=0)&&(decide (a2=u.points-1)&&decide ((a0:Int)=0))):=by
 unfold d1a;rw[getD_some hx,getD_some hb,getD_some d0,getD_some hu,getD_some b0];subst hn;subst c0;cases b with
 | nil=>cases b2 with
   | nil=>simp[h1,h2,hk]
   | cons e b2=>simp[h1,h2,hk];omega
 | cons e b=>simp[h1,h2,hk];omega
theorem p1d(hk:s.kind=7){a2:Int}(a0:c.at_[s.target.toNat]?=some a2){u:i1a}(hu:p.threads[s.target.toNat]?=some u)(h0:¬a2=u.points-1):d1a p m c t s=false:=by
 unfold d1a;rw[getD_some a0,getD_some hu];simp[hk,h0]
theorem e0d(hx:c.at_[t]?=some a)(h1:a=s.frm)(h2:s.guard.evl (r1a c t) (r1a c t)=1)(hk:s.kind=1∨s.kind=2):d1a p m c t s=true:=by
 unfold d1a;rw[getD_some hx];rw[if_neg (by omega),if_neg (by omega),if_neg (by omega),if_pos hk];simp[h1,h2]
end
theorem d2b.i64s{p:g0a}{e:J0a}(h:d2b p e):∀x∈e.cells,0≤x∧x<p.cells.length:=fun x hx=>by
 obtain⟨i,hi,rfl⟩:=List.getElem_of_mem hx;exact(h.cells i _ (List.getElem?_eq_getElem hi)).1
theorem D8c(p:g0a)(hp:q1a p)(c:E0a)(t:Nat)(b:List J0a)(M:List Nat)(w0:World)(hM:∀g∈M,g<w0.heap.size)(xs:LV)(hX:B0a M w0 c xs)(hf:U5a p c)(f0:c.buf[t]?=some b):
 M0a prog 241 #[.agg xs.toArray,.int .i64 t] w0 fun v w'=>RdI M w' v (r1a c t)∧Bw w0 w':=by
 obtain⟨Xm,xm,ym,Xa,xa,ya,Xb,xb,yb,rfl,s0,_,r0,_⟩:=hX.open_;have S:=St.refl w0;have f1:=hf.mem.len;have n1:=hp.ncells;have n2:=hp.nthreads;have f3:=hf.nbuf;have ht:=m1a f0;have A0:=(hf.bufs t b f0).2.1;refine a0a func241 Z ntmps241 Z ?_;refine wO1 Z (i0a S Z ?_);intro g2 w2 S2 X2 G2;refine lO S2.k [.o 0] Z ⟨Z,U⟩ (s0a S2 D2b Z Z (I9a M _ _ c.mem (s0.keep (S2.keep0 M))) ?_);rintro C0 T0 hN G0 R0;obtain⟨E0,o0,F0,c0⟩:=hN.open_ G0 S2;refine n0a Z ?_;obtain⟨_,J0,O0,_,z0,p0,_,_,u0,y0⟩:=RdS.get (r0) (t) (by omega);obtain rfl:=Option.some.inj (f0.symm.trans z0);obtain⟨j0,i0,m0,rfl,d0,_⟩:=V4a.open_ y0;refine lC (c0.k.a u0) [.o 1,.x J0 O0,.f 0 0] Z ⟨Z,⟨p0,by omega⟩,Z,U⟩ (wL (fun μk D ε w=>D=[]∧∃k:Nat,∃G:Option Nat,∃n0:LV,(k+μk=(b.length))∧(E3a G 1 c.mem.length n0 C0 ((t5a c b k).map (Value.int .i64)))∧St [] w0 w [(G,3,n0),(some g2,71,[.slice Xm xm ym,.slice Xa xa ya,.slice Xb xb yb])]∧Sl ε [(5,C0),(15,.slice j0 i0 m0),(16,.int .i64 i0),(17,.int .i64 k)]) (μ:=(b.length)) ⟨Z,0,E0,o0,by omega,by simpa[t5a] using F0,c0,Z⟩ ?_);rintro μk D ε w ⟨rfl,k,G,n0,_,b0,S,eZ⟩;refine wK eZ (wB1 Z (fun L0=>?_) fun L0=>?_)
 ·obtain⟨en,K0,P0,_,g0,q0,_,x0,v0,e0⟩:=RdS.get (d0) (k) (by omega);obtain⟨_,_,_,_,_,_,rfl,_⟩:=Q0a.open_ e0;have q1:=A0 en (c0a g0);have q2:=q1.i64s;have q3:0<c.mem.length:=by
   have:=q1.some_;cases B0:en.cells with
   | nil=>exact absurd B0 this
   | cons x l=>have:=q2 x (by rw[B0];simp);omega
  refine lO (S.k.a v0) [.x K0 P0,.v 0] Z ⟨⟨Z,x0⟩,⟨q0,by omega⟩,U⟩ (m0a S H7a Z Z ?_);intro g7 w7 S7 X7 G7;refine f0a (kk:=0) (vs:=[_,_]) S7 Q8a Z Z Z Z Z Z Z ?_;intro Q0 a0 I0;dsimp only[o0a,List.set] at a0;refine lOn 3 a0.k [] Z U (w0a Z ?_);refine lO a0.k [.w 0] Z ⟨⟨Z,by rfl⟩,U⟩ ?_;obtain⟨g,pad,rfl,hv,rfl,N0⟩:=b0.pad (by simpa using q3);subst hv;refine O2a K1c Z Z (H9b en (t5a c b k) g _ pad (g::M) _ _ (Q0a.keep (a0.keep0 _) _ _ (Q0a.more (X3b a0 (k:=1) Z) _ _ e0)) (a0.blk 1 Z) q1.even (fun x hx=>by have:=q2 x hx;simp;omega)) ?_;rintro S0 U0 ⟨t0,D0⟩;have H0:=a0.changed1 1 Z D0 t0;refine lP1 Z ?_;refine⟨μk-1,by omega,Z,k+1,(some g),_,by omega,(by rw[J8a g0];have:=E3a.ofPad (g:=g) (l:=w2a (t5a c b k) en) (pad:=pad) (by simpa using N0);simpa using this),H0.tail,Z⟩
 refine lOn 8 S.k [] Z U (w0a Z ?_);refine n0a Z ?_;refine lR1 Z (t0a Z ?_);obtain rfl:k=b.length:=by omega
 rw[a0b f0 (Nat.le_refl _)] at b0;have hok:=m6b hf A0 b.length;rw[a0b f0 (Nat.le_refl _)] at hok;exact⟨b0.rdI S (k:=0) Z hM (B3a hp hok) (by have:=hok.len;omega),S.fin⟩
theorem n0c(c0:List J0a)(en:J0a)(M:List Nat)(w0:World)(v:Value)(es:LV)(hO:W5c M w0 v c0)(hE:Q0a M w0 es en):
 M0a prog 286 #[v,.agg es.toArray] w0 fun v w'=>v=.bool (c0.any fun o=>N9a o en)∧Bw w0 w':=by
 obtain⟨A,n,cc,rfl⟩:=hO.form;obtain⟨_,_⟩:=hO.len;obtain⟨Ec,ec,fc,Ev,v0,fv,rfl,G0,_⟩:=hE.open_;have S:=St.refl w0;refine a0a func286 Z ntmps286 Z ?_;refine wO1 Z (i0a S Z ?_);intro g3 w3 S3 X3 G3;refine lC1 Z (wL (fun μk D ε w=>D=[]∧∃k:Nat,(k+μk=(c0.length))∧(g1a (c0) k (fun o=>N9a o en=false))∧St [] w0 w [(some g3,278,[.slice Ec ec fc,.slice Ev v0 fv])]∧Sl ε [(3,.pointer (some ⟨g3,0,none⟩)),(9,.slice A n cc),(10,.int .i64 n),(11,.int .i64 k)]) (μ:=(c0.length)) ⟨Z,0,by omega,g1a.zero,S3,Z⟩ ?_);rintro μk D ε w ⟨rfl,k,_,ha,S,eZ⟩;refine wK eZ (wB1 Z (fun E0=>?_) fun E0=>?_)
 ·obtain⟨o,C0,H0,_,y0,m0,_,q0,o0,r0⟩:=RdS.get (hO) (k) (by omega);obtain⟨d0,t0,g0,e0,u0,i0,rfl,b0,_⟩:=Q0a.open_ r0;refine lO (S.k.a o0) [.x C0 H0,.v 0] Z ⟨⟨Z,q0⟩,⟨m0,by omega⟩,U⟩ (m0a S H7a Z Z ?_);intro g6 w6 S6 X6 G6;refine f0a (kk:=0) (vs:=[_,_]) S6 Q8a Z Z Z Z Z Z Z ?_;intro K0 a0 B0;dsimp only[o0a,List.set] at a0;refine lC a0.k [.o 1] Z ⟨Z,U⟩ (wL (fun μj D ε w=>D=[]∧∃j:Nat,(j+μj=(en.cells.length))∧(g1a (en.cells) j (fun x=>x∉o.cells))∧St [] w0 w [(some g6,278,[.slice d0 t0 g0,.slice e0 u0 i0]),(some g3,278,[.slice Ec ec fc,.slice Ev v0 fv])]∧Sl ε [(3,.pointer (some ⟨g3,0,none⟩)),(6,.pointer (some ⟨g6,0,none⟩)),(9,.slice A n cc),(10,.int .i64 n),(11,.int .i64 k),(16,.slice Ec ec fc),(17,.int .i64 ec),(18,.int .i64 j)]) (μ:=(en.cells.length)) ⟨Z,0,by omega,g1a.zero,a0,Z⟩ ?_);rintro μj D ε w ⟨rfl,j,_,x0,S,eZ⟩;refine wK eZ (wB1 Z (fun F0=>?_) fun F0=>?_)
  ·obtain⟨x,D0,I0,_,z0,n0,_,_,p0,s0⟩:=RdS.get (G0) (j) (by omega);obtain⟨rfl,_⟩:=id s0;refine lO (S.k.a p0) [.x D0 I0,.f 0 0,.o 0] Z ⟨Z,Z,⟨n0,by omega⟩,U⟩ (k0a S t7b Z Z (r7a M _ _ o.cells x (b0.keep (S.keep0 M))) (fun j0 J0 f0 A0=>?_) (fun j0 J0 f0 A0=>?_))
   ·exact lU Z Z ⟨cB (Eq.symm (List.any_eq_true.2 ⟨o,c0a y0,f8a.2 ⟨x,c0a z0,of_decide_eq_true j0⟩⟩)),f0.fin⟩
   refine lP1 Z ⟨μj-1,by omega,Z,j+1,by omega,(x0.succ z0 (of_decide_eq_false j0)),f0,Z⟩
  refine lP1 Z ⟨μk-1,by omega,Z,k+1,by omega,(ha.succ y0 (R2c (x0.all (by omega)))),S.tail,Z⟩
 refine lU Z Z ?_;refine⟨cB ?_,S.fin⟩;symm;rw[List.any_eq_false];intro o ho;rw[ha.all (by omega) o ho];simp
theorem A4b(p:g0a)(c:E0a)(m:Int)(hm:m=1∨m=2)(t i:Nat)(th:i1a)(s:p1a)(M:List Nat)(w0:World)(cs xs:LV)(vs:Value)(hI:InP p M w0 cs)(hX:B0a M w0 c xs)(hV:RdI M w0 vs (r1a c t))(hf:U5a p c)(p0:p.threads[t]?=some th)(q1:th.steps[i]?=some s):
 M0a prog 242 #[.agg (xs++(cs++[Value.int .i64 m])).toArray,.int .i64 t,.int .i64 i,vs] w0 fun v w'=>v=.bool (d1a p m c t s)∧Bw w0 w':=by
 obtain⟨_,_,_,_,_,_,_,_,_,_,_,_,rfl,_,_,_,u1,_⟩:=hI.rd.open_;obtain⟨_,_,_,_,_,_,_,_,_,rfl,_,S0,t0,_,e0,_,_,b2,_⟩:=hX.open_;obtain⟨_,_,_,rfl⟩:=hV.form;have S:=St.refl w0;have f2:=hf.nat;have f3:=hf.nbuf;have hp:=hI.ok;have ht:=m1a p0;have hi:=m1a q1;have H1:=hp.thread p0;have n1:=H1.steps s (c0a q1);have Q1:=n1.kind;have v1:6≤s.kind→0≤s.target∧s.target<p.threads.length:=fun h=>(n1.row.k6 h).1;have G1:=n1.rel;have D0:¬m=0:=by omega
 refine a0a func242 Z ntmps242 Z ?_;refine wO1 Z (i0a S Z ?_);intro g4 w4 S4 X4 G4;obtain⟨_,z1,I1,_,o1,K0,_,_,U0,c1⟩:=RdS.get (u1) (t) (by omega);obtain rfl:=Option.some.inj (p0.symm.trans o1);obtain⟨_,_,_,_,_,_,_,_,_,_,_,_,rfl,_,_,_,u0,_⟩:=S0a.open_ c1;obtain⟨_,A1,J1,_,p1,L0,_,b1,V0,d1⟩:=RdS.get (u0) (i) (by omega);obtain rfl:=Option.some.inj (q1.symm.trans p1);obtain⟨_,_,_,_,_,_,rfl,⟨_,_⟩,T0,_⟩:=D1a.open_ d1;refine lO ((S4.k.a V0).a U0) [.o 0,.x z1 I1,.f 0 4,.x A1 J1,.v 1] Z ⟨⟨Z,b1⟩,⟨L0,by omega⟩,Z,⟨K0,by omega⟩,Z,U⟩ (m0a S4 X9a Z Z ?_);intro g9 w9 S9 X9 G9;refine f0a (kk:=0) (vs:=[_,_,_,_,_,_,_,_,_,_,_]) S9 Y9a Z Z Z Z Z Z Z ?_;intro x1 g0 s1;dsimp only[o0a,List.set] at g0;refine lC1 Z (x0a b0a [0,1,2,3,4,5,6,7,8,9,10,11,12,13,14,15,16] [] [] Z (Cl _ _ _ _) (Cl.start g0) ?_);obtain⟨a,B1,K1,_,e0,N0,_,_,W0,f1⟩:=RdS.get (S0) (t) (by omega);obtain⟨rfl,_⟩:=id f1;refine qB (g0.q.a W0) [.o 1,.x B1 K1,.f 0 0,.o 0] Z ⟨Z,Z,⟨N0,by omega⟩,Z,U⟩ (fun c0=>?_) fun c0=>?_
 ·refine lV Z ?_;rintro y1 ⟨b0,t1⟩;refine lU Z Z ⟨cB ?_,b0.fin⟩;rw[n3c e0 c0];done
 refine qO g0.q [.o 0] Z ⟨Z,U⟩ (F1a i1b Z Z (fun w1 S1 X1=>o8a s.guard M _ _ _ _ (r1a c t) (r1a c t) (RdE.keep (S1.keep0 M) _ _ T0) (hI.keep (S1.keep0 M)).msk (hV.keep (S1.keep0 M)) (hV.keep (S1.keep0 M))) ?_);refine qB1 Z (fun d0=>?_) fun d0=>?_
 ·refine lV Z ?_;rintro y1 ⟨b0,t1⟩;refine lU Z Z ⟨cB ?_,b0.fin⟩;rw[G9b d0];done
 refine lV Z ?_;rintro y1 ⟨b0,t1⟩;obtain⟨b,C1,M1,_,f0,O0,_,_,X0,g1⟩:=RdS.get (t0) (t) (by omega);obtain⟨_,_,_,rfl,_,a0,_⟩:=V4a.open_ g1;have q3:=(hf.bufs t b f0).1;refine lB (b0.k.a X0) [.o 1,.x C1 M1,.f 0 0,.o 0] Z ⟨Z,Z,⟨O0,by omega⟩,Z,U⟩ (fun q0=>?_) fun q0=>?_
 ·refine lO1 Z ?_;cases i0:s.release
  ·refine v0a d2a Z (by exact(b0.cell 0 Z Z).trans (congrArg (fun b=>some (Value.bool b)) i0)) Z ?_;refine lB1 Z (fun I0=>?_) fun I0=>?_
   ·refine lU Z Z ⟨cB ?_,b0.fin⟩;rw[L2d D0 e0 c0 d0 f0 a0 q0 i0];exact(decide_eq_true I0).symm
   refine lU Z Z ⟨cB ?_,b0.fin⟩;rw[L2d D0 e0 c0 d0 f0 a0 q0 i0];exact(decide_eq_false (Int.not_lt.2 I0)).symm
  refine v0a d2a Z (by exact(b0.cell 0 Z Z).trans (congrArg (fun b=>some (Value.bool b)) i0)) Z ?_;refine lB1 Z (fun m0=>?_) fun m0=>?_
  ·refine lU Z Z ⟨cB ?_,b0.fin⟩;rw[Y0c D0 e0 c0 d0 f0 a0 q0 i0];exact(decide_eq_true m0).symm
  refine lU Z Z ⟨cB ?_,b0.fin⟩;rw[Y0c D0 e0 c0 d0 f0 a0 q0 i0];exact(decide_eq_false m0).symm
 refine lB1 Z (fun G0=>?_) fun G0=>?_
 ·refine lB1 Z (fun m0=>?_) fun m0=>?_
  ·refine lU Z Z ⟨cB ?_,b0.fin⟩;rw[U9b e0 c0 d0 f0 a0 (.inl G0)];exact(decide_eq_true m0).symm
  refine lU Z Z ⟨cB ?_,b0.fin⟩;rw[U9b e0 c0 d0 f0 a0 (.inl G0)];exact(decide_eq_false m0).symm
 refine lB1 Z (fun H0=>?_) fun H0=>?_
 ·refine lB1 Z (fun m0=>?_) fun m0=>?_
  ·refine lU Z Z ⟨cB ?_,b0.fin⟩;rw[U9b e0 c0 d0 f0 a0 (.inr H0)];exact(decide_eq_true m0).symm
  refine lU Z Z ⟨cB ?_,b0.fin⟩;rw[U9b e0 c0 d0 f0 a0 (.inr H0)];exact(decide_eq_false m0).symm
 refine lB1 Z (fun z0=>?_) fun z0=>?_
 ·refine lB1 Z (fun A0=>?_) fun A0=>?_
  ·have q6:=v1 (by omega);obtain⟨a2,D1,N1,_,j0,P0,_,_,Y0,i1⟩:=RdS.get (S0) (s.target.toNat) (by omega);obtain⟨rfl,_⟩:=id i1;refine lB (b0.k.a Y0) [.o 1,.o 0,.x D1 N1,.f 0 0] Z ⟨Z,⟨P0,by omega⟩,Z,Z,U⟩ (fun J0=>?_) fun J0=>?_
   ·refine lU Z Z ⟨cB ?_,b0.fin⟩;rw[N2d e0 c0 d0 f0 a0 z0 j0];rw[decide_eq_true A0];(rw[decide_eq_true J0];rfl)
   refine lU Z Z ⟨cB ?_,b0.fin⟩;rw[N2d e0 c0 d0 f0 a0 z0 j0];rw[decide_eq_true A0];(rw[decide_eq_false J0];rfl)
  refine lU Z Z ⟨cB ?_,b0.fin⟩;rw[L4c f0 a0 (.inl z0) A0];done
 refine lB1 Z (fun r0=>?_) fun r0=>?_
 ·have q6:=v1 (by omega);obtain⟨_,E1,O1,_,E0,Q0,_,_,Z0,j1⟩:=RdS.get (u1) (s.target.toNat) (by omega);obtain⟨_,_,_,_,_,_,_,_,_,_,_,_,rfl,_⟩:=S0a.open_ j1;have q7:=(hp.thread E0).points;refine lB (b0.k.a Z0) [.o 1,.o 0,.x E1 O1,.f 0 1] Z ⟨by omega,Z,⟨Q0,by omega⟩,Z,Z,U⟩ (fun B0=>?_) fun B0=>?_
  ·obtain⟨a2,F1,P1,_,j0,R0,_,_,a1,m1⟩:=RdS.get (S0) (s.target.toNat) (by omega);obtain⟨rfl,_⟩:=id m1;refine lB (b0.k.a a1) [.o 1,.o 0,.x F1 P1,.f 0 0] Z ⟨Z,⟨R0,by omega⟩,Z,Z,U⟩ (fun C0=>?_) fun C0=>?_
   ·obtain⟨b2,F0,r1,_,y0,s0,_,_,v0,x0⟩:=RdS.get (t0) (s.target.toNat) (by omega);obtain⟨_,_,_,rfl,_,n0,_⟩:=V4a.open_ x0;refine lB (b0.k.a v0) [.o 1,.o 0,.x F0 r1,.f 0 0] Z ⟨Z,⟨s0,by omega⟩,Z,Z,U⟩ (fun o0=>?_) fun o0=>?_
    ·refine lU Z Z ⟨cB ?_,b0.fin⟩;rw[Q2d e0 c0 d0 f0 a0 r0 j0 E0 y0 n0];rw[decide_eq_true B0,decide_eq_true C0];(rw[decide_eq_true o0];rfl)
    refine lU Z Z ⟨cB ?_,b0.fin⟩;rw[Q2d e0 c0 d0 f0 a0 r0 j0 E0 y0 n0];rw[decide_eq_true B0,decide_eq_true C0];(rw[decide_eq_false o0];rfl)
   refine lU Z Z ⟨cB ?_,b0.fin⟩;rw[p1d r0 j0 E0 C0];done
  refine lU Z Z ⟨cB ?_,b0.fin⟩;rw[L4c f0 a0 (.inr r0) B0];done
 refine lU Z Z ⟨cB ?_,b0.fin⟩;rw[e0d e0 c0 d0 (by omega)];done
section
variable {M:List Nat} {w0 w w':World} {L:List Ent}
theorem St.join{L2:List Ent}(S:St M w0 w L)(S2:St [] w w' L2):St M w0 w' (L2++L):=by
 have a0:∀b∈L2,∀g,b.1=some g→w.heap.size≤g∧z0a w' (g,b.2):=fun b hb g hg=>by
  obtain⟨h1,h2⟩:=S2.own b hb g hg;rcases h1 with h1|h1
  ·exact⟨h1,h2⟩
  ·cases h1
 have S':=S.later S2.fin;refine⟨S'.below,fun b hb g hg=>?_,List.pairwise_append.2 ⟨S2.apart,S.apart,fun a ha b hb g hg b0=>?_⟩⟩
 ·rcases List.mem_append.1 hb with h|h
  ·obtain⟨h1,h2⟩:=a0 b h g hg;exact⟨.inl (Nat.le_trans S.size h1),h2⟩
  ·exact S'.own b h g hg
 ·have h1:=(a0 a ha g hg).1;have h2:=(S.own b hb g b0).2.lt;simp at h2;omega
theorem St.fill(S:St M w0 w L)(j:Nat){t':TypeId}{b0:LV}{g:Nat}(hb:Below w.heap.size w w')(hg:z0a w' (g,t',b0))(d0:w.heap.size≤g):St M w0 w' (L.set j (some g,t',b0)):=by
 have S':=S.later hb;have a0:∀b∈L,b.1≠some g:=fun b hm hh=>by
  have:=(S.own b hm g hh).2.lt;simp at this;omega
 refine⟨S'.below,fun b hm x hx=>?_,?_⟩
 ·rcases List.mem_or_eq_of_mem_set hm with h|rfl
  ·exact S'.own b h x hx
  ·cases hx;exact⟨.inl (Nat.le_trans S.size d0),hg⟩
 ·rw[List.pairwise_iff_getElem];intro i k hi hk c0 x hx;rw[List.length_set] at hi hk;rw[List.getElem_set] at hx ⊢
  split at hx
  ·cases hx
   split
   ·omega
   ·exact a0 _ (List.getElem_mem hk)
  ·split
   ·intro hh;cases hh;exact a0 _ (List.getElem_mem hi) hx
   ·exact(List.pairwise_iff_getElem.1 S.apart) i k hi hk c0 x hx
theorem St.nils(S:St M w0 w L){R:List Ent}(hR:∀b∈R,b.1=none):St M w0 w (L++R):=by
 refine⟨S.below,fun b hb g hg=>?_,List.pairwise_append.2 ⟨S.apart,?_,fun a _ b hb g _ a0=>?_⟩⟩
 ·rcases List.mem_append.1 hb with h|h
  ·exact S.own b h g hg
  ·rw[hR b h] at hg;cases hg
 ·exact List.Pairwise.imp_of_mem (fun ha _ _ g hg=>(by rw[hR _ ha] at hg;cases hg)) (List.pairwise_of_forall (R:=fun _ _=>True) (fun _ _=>trivial))
 ·rw[hR b hb] at a0;cases a0
theorem St.place{x:Ent}(S:St M w0 w (x::L))(j:Nat):St M w0 w (L.set j x):=by
 obtain⟨h1,h2⟩:=List.pairwise_cons.1 S.apart;refine⟨S.below,fun b hm g hg=>?_,?_⟩
 ·rcases List.mem_or_eq_of_mem_set hm with h|rfl
  ·exact S.own b (List.mem_cons_of_mem _ h) g hg
  ·exact S.own _ (by simp) g hg
 ·rw[List.pairwise_iff_getElem];intro i k hi hk a0 g hg;rw[List.length_set] at hi hk;rw[List.getElem_set] at hg ⊢
  split at hg
  ·split
   ·omega
   ·exact h1 _ (List.getElem_mem hk) g hg
  ·split
   ·intro hh;exact h1 _ (List.getElem_mem hi) g hh hg
   ·exact(List.pairwise_iff_getElem.1 h2) i k hi hk a0 g hg
theorem St.front{A R:List Ent}(S:St M w0 w (A++R)):St M w0 w A :=
 ⟨S.below,fun b hm=>S.own b (List.mem_append_left _ hm),(List.pairwise_append.1 S.apart).1⟩
abbrev clF{A R:List Ent}(_:St M w0 w (A++R))(K:List Nat):World→Prop:=fun w1=>St M w0 w1 A∧A0a K w w1
end
theorem E3a.form{G:Option Nat}{size n:Nat}{cs xs:LV}{v:Value}(h:E3a G size n cs v xs):∃A n c,v=.slice A n c:=by
 rcases h with⟨_,⟨_,rfl,_⟩|⟨g,a0,_,rfl,_⟩⟩
 ·exact⟨_,_,_,Z⟩
 ·exact⟨_,_,_,Z⟩
theorem N6c(A a0:List Ent)(k n:Nat)(hn:A.length=n):(A++a0)[n+k]?=a0[k]?:=by
 subst hn;rw[List.getElem?_append_right (by omega)];congr 1;omega
theorem W1d(A a0:List Ent)(k n:Nat)(hn:A.length=n)(x:Ent):(A++a0).set (n+k) x=A++a0.set k x:=by
 subst hn;rw[List.set_append_right _ _ (by omega)];congr 2;omega
theorem A1a.more{α:Type}{R:List Nat→World→LV→α→Prop}{size:Nat}(hL:E8a R size){M M':List Nat}{w:World}{G:Option Nat}{cs:LV}{v:Value}{l:List α}(h:A1a R size M w G cs v l)(hm:∀g∈M',(g∈G.toList∨g∈M)∨w.heap.size≤g):A1a R size M' w G cs v l:=by
 obtain⟨css,h1,h2,h3,h4⟩:=h;refine⟨css,h1,h2,h3,fun i x hi=>?_⟩;obtain⟨c,h5,h6⟩:=h4 i x hi;refine⟨c,h5,hL.more (fun g hg=>?_) h6⟩;rcases List.mem_append.1 hg with hg|hg
 ·exact .inl (List.mem_append_left _ hg)
 ·rcases hm g hg with h|h
  ·exact .inl (List.mem_append.2 h)
  ·exact .inr h
def z6a(rows:List Ent):List Nat:=rows.filterMap (·.1)
theorem v2a{a0:List Ent}{g:Nat}:g∈z6a a0↔∃b∈a0,b.1=some g:=by unfold z6a;rw[List.mem_filterMap]
def d3a(tE:TypeId)(M:List Nat)(w:World)(rows:List Ent)(vs:LV)(bs:List (List J0a)):Prop :=
 rows.length=bs.length∧vs.length=bs.length∧∀(i:Nat) (b:List J0a),bs[i]?=some b→∃G cs v,rows[i]?=some (G,tE,cs)∧vs[i]?=some v∧A1a Q0a 2 (M++z6a rows) w G cs v b
theorem d3a.keep{tE:TypeId}{M:List Nat}{w w':World}{a0:List Ent}{vs:LV}{bs:List (List J0a)}(h:d3a tE M w a0 vs bs)(hk:A0a (M++z6a a0) w w'):d3a tE M w' a0 vs bs:=by
 obtain⟨h1,h2,h3⟩:=h;refine⟨h1,h2,fun i b hi=>?_⟩;obtain⟨G,cs,v,h4,h5,h6⟩:=h3 i b hi;exact⟨G,cs,v,h4,h5,h6.keep R1a (hk.mono fun g hg=>List.mem_append_right _ hg)⟩
theorem d3a.nil{tE:TypeId}{M:List Nat}{w:World}(n:Nat):d3a tE M w (List.replicate n (none,tE,[])) (List.replicate n (.slice none 0 0)) (List.replicate n []):=by
 refine⟨by simp,by simp,fun i b hi=>?_⟩;obtain⟨a0,rfl⟩:=List.getElem?_eq_some_iff.1 hi;simp only[List.length_replicate] at a0;refine⟨none,[],.slice none 0 0,by simp[a0],by simp[a0],?_⟩;simp only[List.getElem_replicate];exact A1a.nil
theorem d7c{a0:List Ent}{k:Nat}{G':Option Nat}{tE:TypeId}{b0:LV}{g:Nat}(h:g∈z6a (a0.set k (G',tE,b0))):g∈z6a a0∨g∈G'.toList:=by
 obtain⟨b,hb,hg⟩:=v2a.1 h;rcases List.mem_or_eq_of_mem_set hb with h|rfl
 ·exact .inl (v2a.2 ⟨b,h,hg⟩)
 ·right;cases hg;simp
theorem d3a.put{tE:TypeId}{M:List Nat}{w w1:World}{a0:List Ent}{vs:LV}{bs:List (List J0a)}(h:d3a tE M w a0 vs bs){k:Nat}{G G':Option Nat}{cs b0:LV}{v':Value}{b':List J0a}(hk:k<bs.length)
 (e0:A1a Q0a 2 (M++z6a a0) w1 G' b0 v' b') (X:A0a G.toList w w1) (F:∀g∈G'.toList,g∈G.toList∨w.heap.size≤g) (i0:a0[k]?=some (G,tE,cs)):d3a tE M w1 (a0.set k (G',tE,b0)) (vs.set k v') (bs.set k b'):=by
 obtain⟨h1,h2,h3⟩:=h;have g0:∀g∈G.toList,g∈z6a a0:=fun g hg=>v2a.2 ⟨_,List.mem_of_getElem? i0,by cases G<;>simp at hg ⊢;exact hg.symm⟩;have c0:∀g∈M++z6a (a0.set k (G',tE,b0)),(g∈M++z6a a0∨g∈G'.toList):=fun g hg=>by
  rcases List.mem_append.1 hg with h|h
  ·exact .inl (List.mem_append_left _ h)
  ·rcases d7c h with h|h
   ·exact .inl (List.mem_append_right _ h)
   ·exact .inr h
 refine⟨by simp[h1],by simp[h2],fun i b hi=>?_⟩;rw[List.getElem?_set] at hi;by_cases d0:k=i
 ·subst d0;rw[if_pos rfl,if_pos hk] at hi;cases hi;exact⟨G',b0,v',by rw[List.getElem?_set_self (by omega)],by rw[List.getElem?_set_self (by omega)],e0.more R1a fun g hg=>by
   rcases c0 g hg with h|h
   ·exact .inl (.inr h)
   ·exact .inl (.inl h)⟩
 ·rw[if_neg d0] at hi;obtain⟨Gi,f0,vi,h4,h5,h6⟩:=h3 i b hi;refine⟨Gi,f0,vi,by rw[List.getElem?_set_ne d0];exact h4,by rw[List.getElem?_set_ne d0];exact h5,?_⟩;have e1:A1a Q0a 2 (G.toList++(M++z6a (a0.set k (G',tE,b0)))) w Gi f0 vi b:=h6.more R1a fun g hg=>by
   rcases List.mem_append.1 hg with h|h
   ·exact .inl (.inr (List.mem_append_right _ (g0 g h)))
   ·rcases c0 g h with h|h
    ·exact .inl (.inr h)
    ·rcases F g h with h|h
     ·exact .inl (.inr (List.mem_append_right _ (g0 g h)))
     ·exact .inr h
  exact(e1.keep R1a (X.mono fun g hg=>List.mem_append_right _ (List.mem_append_left _ hg))).more R1a fun g hg=>.inl (.inr (List.mem_append_right _ hg))
theorem d3a.rd{tE:TypeId}{M M' Mx:List Nat}{w0 w:World}{A a0:List Ent}{vs:LV}{bs:List (List J0a)}(h:d3a tE M w a0 vs bs)(S:St M' w0 w (A++a0))(hx:∀g∈Mx,g∈M)(hM:∀g∈Mx,g∉z6a a0)(hl:∀b∈bs,b.length≤1000):
 ∀(i:Nat) (b:List J0a),bs[i]?=some b→∃v,vs[i]?=some v∧W5c Mx w v b:=fun i b hi=>by
 obtain⟨_,_,h3⟩:=h;obtain⟨G,cs,v,h4,h5,h6⟩:=h3 i b hi;refine⟨v,h5,?_⟩;have h7:A1a Q0a 2 Mx w G cs v b:=h6.more R1a fun g hg=>.inl (.inr (List.mem_append_left _ (hx g hg)));refine h7.rd R1a S (k:=A.length+i) (el:=tE) (by rw[N6c A a0 i _ rfl];exact h4) (fun g hg hm=>hM g hm (v2a.2 ⟨_,List.mem_of_getElem? h4,hg⟩)) (by have:=hl b (List.mem_of_getElem? hi);omega)
theorem St.rdBs{M M':List Nat}{w0 w:World}{L:List Ent}(S:St M' w0 w L)(j:Nat){g t:Nat}{vs:LV}{bs:List (List J0a)}(hj:L[j]?=some (some g,t,vs))(hg:g∉M)(a0:bs.length≤140737488355328)(h:∀(i:Nat) (b:List J0a),bs[i]?=some b→∃v,vs[i]?=some v∧W5c M w v b):V0d M w (.slice (some ⟨g,0,none⟩) bs.length bs.length) bs :=
 S.rd1 hj hg Z a0 fun i x hi=>by
  obtain⟨v,h1,h2⟩:=h i x hi;exact⟨v,h1,v,Z,h2⟩
theorem d3a.less{tE:TypeId}{M M':List Nat}{w:World}{a0:List Ent}{vs:LV}{bs:List (List J0a)}(h:d3a tE M w a0 vs bs)(hm:∀g∈M',g∈M):d3a tE M' w a0 vs bs:=by
 obtain⟨h1,h2,h3⟩:=h;refine⟨h1,h2,fun i b hi=>?_⟩;obtain⟨G,cs,v,h4,h5,h6⟩:=h3 i b hi;exact⟨G,cs,v,h4,h5,h6.more R1a fun g hg=>.inl (.inr (by
  rcases List.mem_append.1 hg with h|h
  ·exact List.mem_append_left _ (hm g h)
  ·exact List.mem_append_right _ h))⟩
theorem r9b{α:Type}{l:List α}{k:Nat}{x:α}(h:l[k]?=some x):l.set k x=l:=by
 obtain⟨a0,rfl⟩:=List.getElem?_eq_some_iff.1 h;exact List.set_getElem_self a0
theorem Y2b{α:Type}{l:List α}{z:α}{k:Nat}(h:k<l.length):(b3a l z k)[k]?=some z:=by
 unfold b3a;rw[List.getElem?_append_right (by simp;omega),List.getElem?_replicate,if_pos (by simp;omega)]
theorem RdI.i64s{M:List Nat}{w:World}{v:Value}{l:List Int}(h:RdI M w v l):∀x∈l,i64 x:=fun x hx=>by
 obtain⟨_,_,_,rfl⟩:=h.form;obtain⟨i,hi,rfl⟩:=List.getElem_of_mem hx;obtain⟨_,_,_,_,h5⟩:=h.at;obtain⟨_,_,_,_,a0⟩:=h5 (by omega);obtain⟨_,_,_,h6⟩:=a0 i _ (List.getElem?_eq_getElem hi);exact h6.2
theorem o7a.rd{el:Nat}{w w1:World}{v:Value}{l:List Int}(h:o7a el w w1 v l){M:List Nat}(hM:∀g∈M,g<w.heap.size)(hl:∀x∈l,i64 x)(hb:Below w.heap.size w w1)(a0:l.length≤140737488355328):RdI M w1 v l:=by
 obtain⟨_,_,h1,S⟩:=h.open_ ((St.refl w).later hb) (St.refl w);exact h1.rdI S (k:=0) Z hM hl a0
theorem St.sublist{M:List Nat}{w0 w:World}{L L':List Ent}(S:St M w0 w L)(h:L'.Sublist L):St M w0 w L':=⟨S.below,fun b hb=>S.own b (h.subset hb),S.apart.sublist h⟩
theorem St.perm{M:List Nat}{w0 w:World}{L L':List Ent}(S:St M w0 w L)(h:L.Perm L'):St M w0 w L' :=
 ⟨S.below,fun b hb=>S.own b (h.symm.subset hb),(h.pairwise_iff (fun b0 g hg a0=>b0 g a0 hg)).1 S.apart⟩
theorem St.joinR{M:List Nat}{w0 w w':World}{L A R:List Ent}(S:St M w0 w L)(S2:St [] w w' (A++R)):St M w0 w' ((A++L)++R):=by
 refine(S.join S2).perm ?_;rw[List.append_assoc,List.append_assoc];exact(List.perm_append_comm).append_left A
theorem A1a.erase{α:Type}{R:List Nat→World→LV→α→Prop}{size:Nat}(hL:E8a R size){M:List Nat}{w w1:World}{G:Option Nat}{a0:LV}{v:Value}{l:List α}{css:List LV}(l1:css.length=l.length)(l2:∀x∈css,x.length=size)(l4:∀(i:Nat) (x:α),l[i]?=some x→∃c,css[i]?=some c∧R (G.toList++M) w c x)
 {i:Nat} (hi:i<l.length) (rv:E3a G size (l.length-1) a0 v (css.eraseIdx i).flatten) (hk:A0a (G.toList++M) w w1):A1a R size M w1 G a0 v (l.eraseIdx i):=by
 have b0:(l.eraseIdx i).length=l.length-1:=by rw[List.length_eraseIdx,if_pos hi]
 refine⟨css.eraseIdx i,by rw[b0,List.length_eraseIdx,if_pos (by omega),l1],fun x hx=>l2 x (List.mem_of_mem_eraseIdx hx),by rw[b0];exact rv,fun k x hx=>?_⟩;rw[List.getElem?_eraseIdx] at hx ⊢
 split
 ·rename_i h;rw[if_pos h] at hx;obtain⟨c,h5,h6⟩:=l4 k x hx;exact⟨c,h5,hL.keep hk h6⟩
 ·rename_i h;rw[if_neg h] at hx;obtain⟨c,h5,h6⟩:=l4 (k+1) x hx;exact⟨c,h5,hL.keep hk h6⟩
theorem Q0d{M:List Nat}{w:World}{G:Option Nat}{l:List J0a}{css:List LV}(l1:css.length=l.length)(l4:∀(i:Nat) (x:J0a),l[i]?=some x→∃c,css[i]?=some c∧Q0a (G.toList++M) w c x):∀u∈css.flatten,u.oneCell'=true:=fun u hu=>by
 obtain⟨x,hx,hu⟩:=List.mem_flatten.1 hu;obtain⟨i,hi,rfl⟩:=List.getElem_of_mem hx;obtain⟨c,h5,h6⟩:=l4 i l[i] (List.getElem?_eq_getElem (by omega));rw[List.getElem?_eq_getElem hi] at h5;cases h5;exact R1a.one h6 u hu
theorem St.apartM{w0 w:World}{A a0:List Ent}(S:St [] w0 w (A++a0)){M:List Nat}(hM:∀g∈M,g<w0.heap.size):∀g∈M,g∉z6a a0:=fun g hg hb=>by
 obtain⟨x,hx,b0⟩:=v2a.1 hb;have h2:=hM g hg;rcases(S.own x (List.mem_append_right _ hx) g b0).1 with h|h
 ·omega
 ·cases h
theorem A0a.fresh2{a b c:World}{Q:List Nat}{g:Nat}(h:A0a Q a b)(k:A0a [g] b c)(hg:a.heap.size≤g∨g∈Q):A0a Q a c :=
 ⟨Nat.le_trans h.size k.size,fun i hi hm=>(k.same i (Nat.lt_of_lt_of_le hi h.size) (fun hh=>by rw[List.mem_singleton] at hh;subst hh;rcases hg with hg|hg;omega;exact hm hg)).trans (h.same i hi hm)⟩
theorem A0a.freshL{a b c:World}{Q Gs:List Nat}(h:A0a Q a b)(k:A0a Gs b c)(hg:∀g∈Gs,a.heap.size≤g∨g∈Q):A0a Q a c :=
 ⟨Nat.le_trans h.size k.size,fun i hi hm=>(k.same i (Nat.lt_of_lt_of_le hi h.size) (fun hh=>by rcases hg i hh with hg|hg;omega;exact hm hg)).trans (h.same i hi hm)⟩
end Go.Fw
