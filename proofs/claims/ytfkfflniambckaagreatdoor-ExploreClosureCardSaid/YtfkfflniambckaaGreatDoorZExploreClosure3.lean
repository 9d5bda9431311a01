/-
  Part 3 of 9 of the proof of ExploreClosure: what it leans on. No conditions.
-/
import Derived.Test.YtfkfflniambckaaGreatDoorZExploreClosure2
import Derived.StringKeys
import Derived.Test.YtfkfflniambckaaGreatDoorRows
import Derived.ProofKit
import Derived.LaidMore
import Derived.OpenShut
import Derived.Carry
import Derived.SizedLaws
import Derived.Stop.Joined
import Derived.Test.YtfkfflniambckaaGreatDoorTie
import Derived.Test.YtfkfflniambckaaGreatDoorCards
import Derived.SevenTiedAt
import Derived.Laws.CopyRow
import Derived.Laws.IdiomCopy
import Derived.Laws.StructEq
import Derived.Lib.SliceRun
set_option maxRecDepth 100000
set_option maxHeartbeats 4000000
namespace Go.Proofs.YtfkfflniambckaaGreatDoor
end Go.Proofs.YtfkfflniambckaaGreatDoor
namespace Go.Fw
open Go.Proofs.YtfkfflniambckaaGreatDoor Go.Proofs Go.RowKit Go.ChangeShapes Go.WideShapes
theorem d1a.thread{p:f0a}(hp:d1a p){k:Nat}{x:X0a}(hx:p.threads[k]?=some x):V6a p k x:=by
 obtain⟨h,rfl⟩:=List.getElem?_eq_some_iff.1 hx;exact hp.threads k h
theorem q4c{a:Int}(h0:0≤a)(h1:a<18446744073709551616):IntKind.u64.wrap a=a:=by
 unfold IntKind.wrap;have hm:a % (2 ^ IntKind.u64.bits:Int)=a:=Int.emod_eq_of_lt h0 (by simp[IntKind.bits];omega);simp only[hm];rw[if_neg];simp[IntKind.bits,IntKind.signed]
def Z4a(l:List Value):List (Value×Value):=l.map fun x=>(x,.agg #[])
theorem R8a(l:List Value)(x:Value):Z4a (l++[x])=Z4a l++[(x,.agg #[])]:=by simp[Z4a]
theorem A5a{l:List Value}{x:Value}(h:x∉l):∀y∈Z4a l,y.1≠x:=fun y hy e=>by
 obtain⟨_,hz,rfl⟩:=List.mem_map.1 hy;simp only at e;subst e;exact h hz
theorem q4a{α:Type}{l:List α}{k:Nat}{x:α}{f:α→Value}(hp:l.Pairwise fun a b=>f a≠f b)(hx:l[k]?=some x):f x∉(l.take k).map f:=fun hm=>by
 obtain⟨_,hy,he⟩:=List.mem_map.1 hm;obtain⟨j,_,rfl⟩:=List.mem_take_iff_getElem.1 hy;obtain⟨hk,rfl⟩:=List.getElem?_eq_some_iff.1 hx;exact(List.pairwise_iff_getElem.1 hp) j k _ hk (by omega) he
theorem H7b(p:f0a)(M:List Nat)(w0:World)(cs:List Value)(hP:q1a M w0 p cs)(hp:d1a p):
 M0a Tryz.prog 131 #[.agg cs.toArray] w0 fun v w'=>v=.tuple #[.int .i64 0,.int .i64 (-1)]∧Below w0.heap.size w0 w':=by
 obtain⟨Ac,nc,cc,Am,nm,cm,Al,nl,cl,At,nt,ct,rfl,_,_,_,x0,_,_,_,_,_,_,_,_⟩:=hP.open_;have S:=St.refl w0;have q1:=hp.ncells;have q2:=hp.nmodules;have q3:=hp.nlocks;have q4:=hp.nthreads;refine a0a Tryz.func131 rfl Tryz.ntmps131 rfl ?_;refine wO0 rfl ⟨⟩ (h0a S (by conv=>lhs;whnf) rfl ?_);intro g1 w1 S1 X1 G1;refine lO S1.k [.w 0] rfl ⟨⟨rfl,rfl⟩,⟨⟩⟩ (m0a S1 n8c rfl rfl ?_);intro g4 w4 S4 X4 G4;refine e0a (kk:=0) (vs:=[_,_,_,_]) S4 b7c rfl rfl rfl rfl rfl rfl rfl ?_;intro A0 a0 i0;dsimp only[k0a,List.set] at a0;refine lB a0.k [.o 0] rfl ⟨rfl,⟨⟩⟩ (fun o0=>by exfalso;omega) fun o0=>?_;refine lB a0.k [.o 0] rfl ⟨rfl,⟨⟩⟩ (fun p0=>by exfalso;omega) fun p0=>?_;refine lB a0.k [.o 0] rfl ⟨rfl,⟨⟩⟩ (fun q0=>by exfalso;omega) fun q0=>?_;refine lB a0.k [.o 0] rfl ⟨rfl,⟨⟩⟩ (fun r0=>by exfalso;omega) fun r0=>?_;refine lC a0.k [.o 0] rfl ⟨rfl,⟨⟩⟩ (wL (fun μk D ε w=>D=[]∧∃k:Nat,(k+μk=(p.threads.length))∧St [] w0 w [(some g4,27,[.slice Ac nc cc,.slice Am nm cm,.slice Al nl cl,.slice At nt ct]),(some g1,195,[.slice Ac nc cc,.slice Am nm cm,.slice Al nl cl,.slice At nt ct])]∧Sl ε [(32,.slice At nt ct),(33,.int .i64 nt),(34,.int .i64 k)]) (μ:=(p.threads.length)) ⟨rfl,0,by omega,a0,rfl⟩ ?_);rintro μk D ε w ⟨rfl,k,_,S,eZ⟩;refine wK eZ (wB0 rfl ⟨⟩ (fun s0=>?_) fun s0=>?_)
 ·obtain⟨x,n0,z0,_,y0,d0,_,f0,e0,g0⟩:=RdS.get (x0) (k) (by omega);obtain⟨_,_,_,_,_,_,_,_,_,_,_,_,rfl,_,_,_,_,_,_,_,_,_,_,_,_,_⟩:=N0a.open_ g0;have h0:=hp.thread y0;have q5:=h0.points;have q6:=h0.nsteps;have q7:=h0.nloops;refine lO (S.k.a e0) [.x n0 z0,.v 0] rfl ⟨⟨rfl,f0⟩,⟨d0,by omega⟩,⟨⟩⟩ (m0a S F4b rfl rfl ?_);intro g6 w6 S6 X6 G6;refine lO0 rfl ⟨⟩ (e0a (kk:=0) (vs:=[_,_,_,_,_,_,_]) S6 O3b rfl rfl rfl rfl rfl rfl rfl ?_);intro B0 b0 j0;dsimp only[k0a,List.set] at b0;refine lB b0.k [.o 0] rfl ⟨rfl,⟨⟩⟩ (fun t0=>by exfalso;omega) fun t0=>?_;refine lB b0.k [.o 0] rfl ⟨rfl,⟨⟩⟩ (fun u0=>by exfalso;omega) fun u0=>?_;refine lB b0.k [.o 0] rfl ⟨rfl,⟨⟩⟩ (fun v0=>by exfalso;omega) fun v0=>?_;refine lP0 rfl ⟨by omega,⟨⟩⟩ ⟨μk-1,by omega,rfl,(k+1),(by omega),b0.tail,rfl⟩
 exact lT2 rfl ⟨⟩ rfl ⟨rfl,S.fin⟩
theorem K9a(b:Nat)(l:List Value)(s:ByteArray)(w0:World)(hm:B3a Tryz.prog 9 w0 b (Z4a l))(hs:s.size≤140737488355328)(b0:Value.string s∉l):
 M0a Tryz.prog 161 #[.map (some b),.string s] w0 fun v w'=>v=.bool false∧F0a [b] w0 w'∧B3a Tryz.prog 9 w' b (Z4a (l++[.string s])):=by
 have S:=St.reflM [b] w0;have hk:keyOf Tryz.prog 9 (.string s)=some (.string s.data.toList):=Go.WideMaps.keyOf_string_mk Tryz.underlying9 (by unfold maxLen;omega);refine a0a Tryz.func161 rfl Tryz.ntmps161 rfl ?_;refine wO0 rfl ⟨⟩ (C6a (Go.Maps.string_keyed Tryz.underlying9) Tryz.underlying199 W1b hm rfl rfl hk rfl (fun v hv=>absurd rfl (A5a b0 _ hv)) (fun _=>?_));refine lO0 rfl ⟨⟩ (m0a S W1b rfl rfl ?_);intro g5 w5 S5 X5 G5;replace hm:=hm.keep X5 (List.not_mem_nil)
 first|refine e0a (kk:=0) (vs:=[]) S5 V8b rfl rfl rfl rfl rfl rfl rfl ?_
 intro e0 a0 d0;dsimp only[k0a,List.set] at a0;replace hm:=hm.keep d0 (fun hh=>by rw[List.mem_singleton] at hh;first|exact hm.ne (S5.blk 0 rfl) hh);refine lO0 rfl ⟨⟩ (f1a B6b (vs:=[]) (cs:=[]) rfl rfl rfl rfl ?_);refine m8a a0 (Go.Maps.string_keyed Tryz.underlying9) Tryz.underlying199 hm rfl rfl rfl hk (A5a b0) (.inr (by simp)) ?_;intro wm Sm Xm Mm;refine lT rfl ⟨⟩ rfl ?_;exact⟨rfl,Sm.below,by rw[R8a];exact Mm⟩
theorem S9b(p:f0a)(M:List Nat)(w0:World)(cs:List Value)(hP:q1a M w0 p cs)(hp:d1a p):
 M0a Tryz.prog 132 #[.agg cs.toArray] w0 fun v w'=>v=.int .i64 0∧Below w0.heap.size w0 w':=by
 obtain⟨Ac,nc,cc,Am,nm,cm,Al,nl,cl,At,nt,ct,rfl,hC,_,_,_,_,_,_,_,_,_,_,_⟩:=hP.open_;have S:=St.refl w0;have g0:p.cells.Pairwise fun a b=>Value.string a.name≠.string b.name:=hp.cellNames.imp fun h e=>h (by injection e);refine a0a Tryz.func132 rfl Tryz.ntmps132 rfl ?_;refine wO0 rfl ⟨⟩ (h0a S (by conv=>lhs;whnf) rfl ?_);intro g1 w1 S1 X1 G1;refine lO0 rfl ⟨⟩ (G4a (k:=9) S1 rfl ?_);intro g6 w6 S6 X6 G6 a0;have y0:w0.heap.size≤g6:=by have:=S1.size;omega
 refine lC S6.k [.o 0] rfl ⟨rfl,⟨⟩⟩ (wL (fun μk D ε w=>D=[]∧∃k:Nat,(k+μk=(p.cells.length))∧(B3a Tryz.prog 9 w g6 (Z4a ((p.cells.take k).map fun c=>.string c.name)))∧St [] w0 w [(some g1,195,[.slice Ac nc cc,.slice Am nm cm,.slice Al nl cl,.slice At nt ct])]∧Sl ε [(1,.pointer (some ⟨g1,0,none⟩)),(3,.map (some g6)),(9,.slice Ac nc cc),(10,.int .i64 nc),(11,.int .i64 k)]) (μ:=(p.cells.length)) ⟨rfl,0,by omega,(by simpa[Z4a] using a0),S6,rfl⟩ ?_);rintro μk D ε w ⟨rfl,k,_,a0,S,eZ⟩;refine wK eZ (wB0 rfl ⟨⟩ (fun D0=>?_) fun D0=>?_)
 ·obtain⟨x,C0,H0,_,h0,r0,_,t0,s0,u0⟩:=RdS.get (hC) (k) (by omega);obtain⟨rfl,_,_,_,_⟩:=F2a.open_ u0;have q1:=hp.cells x (c0a h0);have q2:=q1.w;have q3:=q1.init;have q4:=q1.thread;refine lO (S.k.a s0) [.x C0 H0,.v 0] rfl ⟨⟨rfl,t0⟩,⟨r0,by omega⟩,⟨⟩⟩ (m0a S p0c rfl rfl ?_);intro g5 w5 S5 X5 G5;replace a0:=a0.keep X5 (List.not_mem_nil);refine e0a (kk:=0) (vs:=[_,_,_,_,_,_]) S5 f0c rfl rfl rfl rfl rfl rfl rfl ?_;intro J0 b0 p0;dsimp only[k0a,List.set] at b0;replace a0:=a0.keep p0 (fun hh=>by rw[List.mem_singleton] at hh;exact a0.ne (S5.blk 0 rfl) hh);refine lO b0.k [.o 0] rfl ⟨rfl,⟨⟩⟩ (g0a b0 b3b rfl rfl (T7a _ _ q1.name) ?_);intro N0 i0 z0;replace a0:=a0.keep z0 (List.not_mem_nil);refine lB i0.k [.o 0] rfl ⟨rfl,⟨⟩⟩ (fun E0=>by exfalso;omega) fun E0=>?_;refine lB i0.k [.o 0] rfl ⟨rfl,⟨⟩⟩ (fun F0=>by exfalso;omega) fun F0=>?_;refine lO i0.k [.o 0,.o 0] rfl ⟨rfl,rfl,⟨⟩⟩ (U5b Tryz.underlying3 Tryz.underlying144 rfl rfl ?_);rw[q4c (by omega) (by omega),show x.w=((x.w.toNat:Nat):Int) by omega];refine V7c (n:=x.w.toNat) rfl (by rfl) (by omega) rfl ?_;refine g0a i0 k3a rfl rfl ((show decide (0≤x.init∧x.init<((2 ^ x.w.toNat:Nat):Int))=true from decide_eq_true (by rw[←a3a];exact q3))▸y2a _ _ _) ?_;intro O0 e0 A0;replace a0:=a0.keep A0 (List.not_mem_nil);refine lB e0.k [.o 0] rfl ⟨rfl,⟨⟩⟩ (fun G0=>?_) fun G0=>?_
  ·refine lO e0.k [.o 0,.o 1] rfl ⟨rfl,rfl,⟨⟩⟩ (g0a e0 k3a rfl rfl ((show decide (0≤x.thread∧x.thread<(nt:Int))=true from decide_eq_true (by omega))▸y2a _ _ _) ?_);intro P0 x0 B0;replace a0:=a0.keep B0 (List.not_mem_nil);refine lO x0.k [.o 0,.o 1] rfl ⟨rfl,rfl,⟨⟩⟩ ?_;refine g0a x0 k3a rfl rfl ((show decide (0≤x.module_∧x.module_<(nm:Int))=true from decide_eq_true (by have:=q1.mod;unfold D2a at this;omega))▸y2a _ _ _) ?_;intro K0 f0 q0;replace a0:=a0.keep q0 (List.not_mem_nil);refine lO f0.k [.o 0] rfl ⟨rfl,⟨⟩⟩ ?_;have d0:=q4a g0 h0;have v0:x.name.size≤140737488355328:=by have:=q1.name.2.1;omega
   refine c2a i2b rfl rfl (K9a g6 _ x.name _ a0 v0 d0) ?_;rintro I0 L0 ⟨rfl,j0,n0⟩;have o0:=f0.turned a0 (.inl y0) j0;refine lP0 rfl ⟨by omega,⟨⟩⟩ ?_;refine⟨μk-1,by omega,rfl,(k+1),(by omega),((by rw[H0a h0,List.map_append];exact n0)),o0.tail,rfl⟩
  refine lO e0.k [.o 0,.o 1] rfl ⟨rfl,rfl,⟨⟩⟩ ?_;refine g0a e0 k3a rfl rfl ((show decide (0≤x.module_∧x.module_<(nm:Int))=true from decide_eq_true (by have:=q1.mod;unfold D2a at this;omega))▸y2a _ _ _) ?_;intro K0 f0 q0;replace a0:=a0.keep q0 (List.not_mem_nil);refine lO f0.k [.o 0] rfl ⟨rfl,⟨⟩⟩ ?_;have d0:=q4a g0 h0;have v0:x.name.size≤140737488355328:=by have:=q1.name.2.1;omega
  refine c2a i2b rfl rfl (K9a g6 _ x.name _ a0 v0 d0) ?_;rintro I0 L0 ⟨rfl,j0,n0⟩;have o0:=f0.turned a0 (.inl y0) j0;refine lP0 rfl ⟨by omega,⟨⟩⟩ ?_;refine⟨μk-1,by omega,rfl,(k+1),(by omega),((by rw[H0a h0,List.map_append];exact n0)),o0.tail,rfl⟩
 exact lT rfl ⟨⟩ rfl ⟨rfl,S.fin⟩
theorem u5b(p:f0a)(M:List Nat)(w0:World)(cs:List Value)(hP:q1a M w0 p cs)(hp:d1a p)(hK:q3a M w0)(hM:∀g∈M,g<w0.heap.size):
 M0a Tryz.prog 133 #[.agg cs.toArray] w0 fun v w'=>v=.int .i64 0∧Below w0.heap.size w0 w':=by
 obtain⟨Ac,nc,cc,Am,nm,cm,Al,nl,cl,At,nt,ct,rfl,_,P0,_,_,_,_,_,_,_,_,_,_⟩:=hP.open_;have S:=St.refl w0;have n0:∀w':World,w0.heap.size≤w'.heap.size→∀g∈M,g<w'.heap.size:=fun w' h g hg=>by have:=hM g hg;omega
 have A0:p.modules.Pairwise fun a b=>Value.string a.name≠.string b.name:=hp.moduleNames.imp fun h e=>h (by injection e);refine a0a Tryz.func133 rfl Tryz.ntmps133 rfl ?_;refine wO0 rfl ⟨⟩ (h0a S (by conv=>lhs;whnf) rfl ?_);intro g1 w1 S1 X1 G1;refine lO0 rfl ⟨⟩ (G4a (k:=9) S1 rfl ?_);intro g6 w6 S6 X6 G6 a0;have Q0:w0.heap.size≤g6:=by have:=S1.size;omega
 refine lC S6.k [.o 0] rfl ⟨rfl,⟨⟩⟩ (wL (fun μk D ε w=>D=[]∧∃k:Nat,(k+μk=(p.modules.length))∧(B3a Tryz.prog 9 w g6 (Z4a ((p.modules.take k).map fun c=>.string c.name)))∧St [] w0 w [(some g1,195,[.slice Ac nc cc,.slice Am nm cm,.slice Al nl cl,.slice At nt ct])]∧Sl ε [(1,.pointer (some ⟨g1,0,none⟩)),(3,.map (some g6)),(9,.slice Am nm cm),(10,.int .i64 nm),(11,.int .i64 k)]) (μ:=(p.modules.length)) ⟨rfl,0,by omega,(by simpa[Z4a] using a0),S6,rfl⟩ ?_);rintro μk D ε w ⟨rfl,k,_,a0,S,eZ⟩;refine wK eZ (wB0 rfl ⟨⟩ (fun O0=>?_) fun O0=>?_)
 ·obtain⟨x,N0,S0,_,p0,y0,_,B0,z0,D0⟩:=RdS.get (P0) (k) (by omega);obtain⟨_,_,_,_,_,_,_,_,_,rfl,o0,j0,e0,_,_⟩:=C1a.open_ D0;have q1:=hp.modules x (c0a p0);refine lO (S.k.a z0) [.x N0 S0,.v 0] rfl ⟨⟨rfl,B0⟩,⟨y0,by omega⟩,⟨⟩⟩ (m0a S O0c rfl rfl ?_);intro g5 w5 S5 X5 G5;replace a0:=a0.keep X5 (List.not_mem_nil);refine e0a (kk:=0) (vs:=[_,_,_,_,_,_,_,_,_,_,_]) S5 B1c rfl rfl rfl rfl rfl rfl rfl ?_;intro V0 i0 u0;dsimp only[k0a,List.set] at i0;replace a0:=a0.keep u0 (fun hh=>by rw[List.mem_singleton] at hh;exact a0.ne (S5.blk 0 rfl) hh);refine lO i0.k [.o 0] rfl ⟨rfl,⟨⟩⟩ (g0a i0 b3b rfl rfl (T7a _ _ q1.name) ?_);intro Z0 E0 J0;replace a0:=a0.keep J0 (List.not_mem_nil);refine lO E0.k [.o 0] rfl ⟨rfl,⟨⟩⟩ (g0a E0 b3b rfl rfl (T7a _ _ q1.owner) ?_);intro a1 F0 K0;replace a0:=a0.keep K0 (List.not_mem_nil);refine lO F0.k [.o 0] rfl ⟨rfl,⟨⟩⟩ ?_;have C0:=q4a A0 p0;have R0:x.name.size≤140737488355328:=by have:=q1.name.2.1;omega
  refine c2a i2b rfl rfl (K9a g6 _ x.name _ a0 R0 C0) ?_;rintro Y0 b1 ⟨rfl,H0,I0⟩;have q0:=F0.turned a0 (.inl Q0) H0;clear a0;have a0:=I0;refine lO q0.k [.o 0] rfl ⟨rfl,⟨⟩⟩ (C0a q0 s5c rfl rfl (L8b x.rely M _ _ (RdE.keep (q0.keep0 M) _ _ o0)) (fun G0 T0 b0 s0=>?_) (fun G0 T0 b0 s0=>?_))
  ·replace a0:=a0.keep s0 (List.not_mem_nil);refine lO b0.k [.w 1,.o 0,.w 1] rfl ⟨⟨rfl,rfl⟩,rfl,⟨rfl,rfl⟩,⟨⟩⟩ (z2a rfl rfl rfl ?_);refine g0a b0 Q9a rfl rfl (L0b p x.guar M _ _ _ true _ (shQ p) (hP.keep (b0.keep0 M)) (RdE.keep (b0.keep0 M) _ _ j0) (N3a (hP.keep (b0.keep0 M))) (hK.keep (b0.keep0 M)) (n0 _ b0.size) q1.guar.2.1 q1.guar.1 (D7b hp q1.guar.1 q1.guar.2.2)) ?_;intro U0 h0 t0;replace a0:=a0.keep t0 (List.not_mem_nil);refine lO h0.k [.o 0] rfl ⟨rfl,⟨⟩⟩ (g0a h0 V5b rfl rfl (N5a M _ _ _ (e0.keep (h0.keep0 M)) q1.up) ?_);intro W0 d0 v0;replace a0:=a0.keep v0 (List.not_mem_nil);refine lO d0.k [.o 0,.w 1] rfl ⟨⟨rfl,rfl⟩,rfl,⟨⟩⟩ (z2a rfl rfl rfl ?_);refine g0a d0 S8a rfl rfl ((show x.frame.all (shQ p)=true from List.all_eq_true.2 fun z hz=>decide_eq_true (q1.frame z hz))▸p6a M _ _ _ x.frame (shQ p) (e0.keep (d0.keep0 M)) (N3a (hP.keep (d0.keep0 M))) (n0 _ d0.size)) ?_;intro X0 r0 x0;replace a0:=a0.keep x0 (List.not_mem_nil);refine lP0 rfl ⟨by omega,⟨⟩⟩ ?_;refine⟨μk-1,by omega,rfl,(k+1),(by omega),((by rw[H0a p0,List.map_append];exact a0)),r0.tail,rfl⟩
  replace a0:=a0.keep s0 (List.not_mem_nil);refine lO b0.k [.w 1,.o 0,.w 1] rfl ⟨⟨rfl,rfl⟩,rfl,⟨rfl,rfl⟩,⟨⟩⟩ (z2a rfl rfl rfl ?_);refine lO0 rfl ⟨⟩ ?_;have f0:=q1.rely.resolve_left (P1a G0);refine g0a b0 Q9a rfl rfl (L0b p x.rely M _ _ _ true _ (shQ p) (hP.keep (b0.keep0 M)) (RdE.keep (b0.keep0 M) _ _ o0) (N3a (hP.keep (b0.keep0 M))) (hK.keep (b0.keep0 M)) (n0 _ b0.size) f0.2.1 f0.1 (D7b hp f0.1 f0.2.2)) ?_;intro d1 g0 L0;replace a0:=a0.keep L0 (List.not_mem_nil);refine lO g0.k [.w 1,.o 0,.w 1] rfl ⟨⟨rfl,rfl⟩,rfl,⟨rfl,rfl⟩,⟨⟩⟩ (z2a rfl rfl rfl ?_);refine g0a g0 Q9a rfl rfl (L0b p x.guar M _ _ _ true _ (shQ p) (hP.keep (g0.keep0 M)) (RdE.keep (g0.keep0 M) _ _ j0) (N3a (hP.keep (g0.keep0 M))) (hK.keep (g0.keep0 M)) (n0 _ g0.size) q1.guar.2.1 q1.guar.1 (D7b hp q1.guar.1 q1.guar.2.2)) ?_;intro U0 h0 t0;replace a0:=a0.keep t0 (List.not_mem_nil);refine lO h0.k [.o 0] rfl ⟨rfl,⟨⟩⟩ (g0a h0 V5b rfl rfl (N5a M _ _ _ (e0.keep (h0.keep0 M)) q1.up) ?_);intro W0 d0 v0;replace a0:=a0.keep v0 (List.not_mem_nil);refine lO d0.k [.o 0,.w 1] rfl ⟨⟨rfl,rfl⟩,rfl,⟨⟩⟩ (z2a rfl rfl rfl ?_);refine g0a d0 S8a rfl rfl ((show x.frame.all (shQ p)=true from List.all_eq_true.2 fun z hz=>decide_eq_true (q1.frame z hz))▸p6a M _ _ _ x.frame (shQ p) (e0.keep (d0.keep0 M)) (N3a (hP.keep (d0.keep0 M))) (n0 _ d0.size)) ?_;intro X0 r0 x0;replace a0:=a0.keep x0 (List.not_mem_nil);refine lP0 rfl ⟨by omega,⟨⟩⟩ ?_;refine⟨μk-1,by omega,rfl,(k+1),(by omega),((by rw[H0a p0,List.map_append];exact a0)),r0.tail,rfl⟩
 exact lT rfl ⟨⟩ rfl ⟨rfl,S.fin⟩
theorem O4c{x:Int}(h:i64 x):keyOf Tryz.prog 3 (.int .i64 x)=some (.int .i64 x):=Go.Maps.keyOf_int_mk Tryz.underlying3 (by unfold i64 at h;simp[Lit.wf,IntKind.min,IntKind.max,IntKind.signed,IntKind.bits];omega)
theorem H9b(p:f0a)(M:List Nat)(w0:World)(cs:List Value)(hP:q1a M w0 p cs)(hp:d1a p)(hK:q3a M w0)(hM:∀g∈M,g<w0.heap.size):
 M0a Tryz.prog 134 #[.agg cs.toArray] w0 fun v w'=>v=.int .i64 0∧Below w0.heap.size w0 w':=by
 obtain⟨Ac,nc,cc,Am,nm,cm,Al,nl,cl,At,nt,ct,rfl,hC,_,O0,_,_,_,_,_,_,_,_,_⟩:=hP.open_;have S:=St.refl w0;have P0:∀w':World,w0.heap.size≤w'.heap.size→∀g∈M,g<w'.heap.size:=fun w' h g hg=>by have:=hM g hg;omega
 have t0:p.locks.Pairwise fun a b=>Value.int .i64 a.cell≠.int .i64 b.cell:=hp.lockCells.imp fun h e=>h (by injection e);refine a0a Tryz.func134 rfl Tryz.ntmps134 rfl ?_;refine wO0 rfl ⟨⟩ (h0a S (by conv=>lhs;whnf) rfl ?_);intro g1 w1 S1 X1 G1;refine lO0 rfl ⟨⟩ (G4a (k:=3) S1 rfl ?_);intro g8 w8 S8 X8 G8 a0;have Q0:w0.heap.size≤g8:=by have:=S1.size;omega
 refine lC S8.k [.o 0] rfl ⟨rfl,⟨⟩⟩ (wL (fun μk D ε w=>D=[]∧∃k:Nat,(k+μk=(p.locks.length))∧(B3a Tryz.prog 3 w g8 (Z4a ((p.locks.take k).map fun c=>.int .i64 c.cell)))∧St [] w0 w [(some g1,195,[.slice Ac nc cc,.slice Am nm cm,.slice Al nl cl,.slice At nt ct])]∧Sl ε [(1,.pointer (some ⟨g1,0,none⟩)),(3,.map (some g8)),(11,.slice Al nl cl),(12,.int .i64 nl),(13,.int .i64 k)]) (μ:=(p.locks.length)) ⟨rfl,0,by omega,(by simpa[Z4a] using a0),S8,rfl⟩ ?_);rintro μk D ε w ⟨rfl,k,_,a0,S,eZ⟩;refine wK eZ (wB0 rfl ⟨⟩ (fun L0=>?_) fun L0=>?_)
 ·obtain⟨x,I0,R0,_,B0,j0,_,u0,q0,v0⟩:=RdS.get (O0) (k) (by omega);obtain⟨_,_,_,rfl,C0,_,p0⟩:=w5a.open_ v0;have q1:=hp.locks x (c0a B0);have q2:=q1.cell;have q3:=q2.1;unfold D2a at q3;refine lO (S.k.a q0) [.x I0 R0,.v 0] rfl ⟨⟨rfl,u0⟩,⟨j0,by omega⟩,⟨⟩⟩ (m0a S N1c rfl rfl ?_);intro g5 w5 S5 X5 G5;replace a0:=a0.keep X5 (List.not_mem_nil);refine e0a (kk:=0) (vs:=[_,_,_,_,_,_]) S5 s0c rfl rfl rfl rfl rfl rfl rfl ?_;intro U0 b0 h0;dsimp only[k0a,List.set] at b0;replace a0:=a0.keep h0 (fun hh=>by rw[List.mem_singleton] at hh;exact a0.ne (S5.blk 0 rfl) hh);refine lO b0.k [.w 1,.o 0] rfl ⟨rfl,⟨rfl,rfl⟩,⟨⟩⟩ (g0a b0 A0b rfl rfl ((show shQ p x.cell=true from decide_eq_true ⟨q3,q2.2.1⟩)▸x5a p M _ _ _ (hP.keep (b0.keep0 M))) ?_);intro W0 e0 F0;replace a0:=a0.keep F0 (List.not_mem_nil);obtain⟨c,J0,S0,_,A0,n0,_,_,r0,x0⟩:=RdS.get (hC) (x.cell.toNat) (by omega);obtain⟨rfl,_,_,_,_⟩:=F2a.open_ x0;have q4:=q2.2.2.1;rw[i5a q3.1 A0] at q4;refine lB (e0.k.a r0) [.o 1,.o 0,.x J0 S0,.f 0 1] rfl ⟨rfl,⟨n0,by omega⟩,rfl,rfl,⟨⟩⟩ (fun N0=>by exfalso;omega) fun N0=>?_;obtain⟨_,K0,T0,_,z0,o0,_,_,s0,y0⟩:=RdS.get (hC) (x.cell.toNat) (by omega);obtain rfl:=Option.some.inj (A0.symm.trans z0);obtain⟨rfl,_,_,_,_⟩:=F2a.open_ y0;refine lO e0.k [.o 1,.o 0,.x K0 T0] rfl ⟨⟨o0,by omega⟩,rfl,rfl,⟨⟩⟩ ?_;refine s0a m2a rfl (v:=.bool false) (by have h4:=e0.old (s0 4 _ rfl);rw[←G2a A0,q2.2.2.2] at h4;exact h4) rfl ?_;refine lO e0.k [.o 0] rfl ⟨rfl,⟨⟩⟩ ?_;have f0:=O4c C0;have g0:=q4a t0 B0;refine C6a (Go.Maps.int_keyed Tryz.underlying3) Tryz.underlying227 W1b a0 rfl rfl f0 rfl (fun v hv=>absurd rfl (A5a g0 _ hv)) (fun _=>?_);refine lO0 rfl ⟨⟩ (m0a e0 W1b rfl rfl ?_);intro g6 w6 S6 X6 G6;replace a0:=a0.keep X6 (List.not_mem_nil);refine e0a (kk:=0) (vs:=[]) S6 V8b rfl rfl rfl rfl rfl rfl rfl ?_;intro V0 d0 i0;dsimp only[k0a,List.set] at d0;replace a0:=a0.keep i0 (fun hh=>by rw[List.mem_singleton] at hh;exact a0.ne (S6.blk 0 rfl) hh);refine lO d0.k [.o 1,.o 2] rfl ⟨rfl,rfl,⟨⟩⟩ ?_;refine g0a d0 k3a rfl rfl ((show decide (0≤x.module_∧x.module_<(nm:Int))=true from decide_eq_true (by have:=q1.mod;unfold D2a at this;omega))▸y2a _ _ _) ?_;intro X0 D0 G0;replace a0:=a0.keep G0 (List.not_mem_nil);refine lO D0.k [.o 1] rfl ⟨rfl,⟨⟩⟩ (f1a B6b (vs:=[]) (cs:=[]) rfl rfl rfl rfl ?_);refine m8a (key:=.int .i64 x.cell) (v:=.agg #[]) D0 (Go.Maps.int_keyed Tryz.underlying3) Tryz.underlying227 a0 rfl rfl rfl f0 (A5a g0) (.inl Q0) ?_;intro wm Sm Xm Mm;clear a0;have a0:=Mm;refine lO Sm.k [.w 2,.o 1,.w 2] rfl ⟨⟨rfl,rfl⟩,rfl,⟨rfl,rfl⟩,⟨⟩⟩ (z2a rfl rfl rfl ?_);refine g0a Sm Q9a rfl rfl (L0b p x.inv M _ _ _ false _ (shQ p) (hP.keep (Sm.keep0 M)) (RdE.keep (Sm.keep0 M) _ _ p0) (N3a (hP.keep (Sm.keep0 M))) (hK.keep (Sm.keep0 M)) (P0 _ Sm.size) q1.inv.2.1 q1.inv.1 (D7b hp q1.inv.1 q1.inv.2.2)) ?_;intro Y0 E0 H0;replace a0:=a0.keep H0 (List.not_mem_nil);refine lP0 rfl ⟨by omega,⟨⟩⟩ ?_;refine⟨μk-1,by omega,rfl,(k+1),(by omega),((by rw[H0a B0,List.map_append,List.map_singleton,R8a];exact a0)),E0.tail.tail,rfl⟩
 exact lT rfl ⟨⟩ rfl ⟨rfl,S.fin⟩
section
variable {P:Program} {r:Option Nat} {N:Nat} {l:List Oper} {D:List Deferred} {C:World→Prop} {K:List Deferred→Env→World→Prop}
def z3b(l:List Oper)(pur:Nat→Bool)(m:Nat):Bool :=
 S4a l&&((List.range l.length).all fun i=>(m1a l i).all fun j=>decide (j<i))&&((List.range m).all fun i=>(List.range i).all fun j=>(j4a l i).contains j||z9a l pur j i)&&((List.range m).all fun j=>(j4a l m).contains j)&&decide (l.length=m+1)
abbrev G1d{M:List Nat}{w0 w:World}{L:List Ent}(_:St M w0 w L):World→Prop:=Cl M w0 w L
def a8a(m:Nat)(f:Nat→Bool):List Nat:=(List.range m).filter fun i=>!f i
theorem w0b{m:Nat}(f:Nat→Bool){i:Nat}(hi:i<m)(hf:f i=false):∃b0 a0,a8a m f=b0++i::a0∧a8a m (fun j=>f j||j==i)=b0++a0∧∀j∈b0,j<i∧f j=false:=by
 have hr:List.range m=List.range i++i::(List.range' (i+1) (m-(i+1))):=by
  have h1:m=i+(m-i):=by omega
  have h2:m-i=(m-(i+1))+1:=by omega
  rw[List.range_eq_range',List.range_eq_range',show List.range' 0 m=List.range' 0 (i+((m-(i+1))+1)) by rw[←h2,←h1],←List.range'_append_1];simp[List.range'_succ]
 refine⟨(List.range i).filter fun j=>!f j,(List.range' (i+1) (m-(i+1))).filter fun j=>!f j,?_,?_,?_⟩
 ·unfold a8a;rw[hr,List.filter_append,List.filter_cons];simp[hf]
 ·unfold a8a;rw[hr,List.filter_append,List.filter_cons];simp only[beq_self_eq_true,Bool.or_true,Bool.not_true,Bool.false_eq_true,if_false]
  congr 1
  ·apply List.filter_congr;intro j hj;have:=List.mem_range.1 hj;have:(j==i)=false:=by simp;omega
   simp[this]
  ·apply List.filter_congr;intro j hj;have:=List.mem_range'.1 hj;have:(j==i)=false:=by simp;omega
   simp[this]
 ·intro j hj;rw[List.mem_filter] at hj;exact⟨List.mem_range.1 hj.1,by simpa using hj.2⟩
theorem g9a{id:Nat}{n t:List Deferred→Env→World→Prop}{b:Nat→List Deferred→Env→World→Prop}{e:Env}{w:World}(hm:P.follows .mixedOrders=true)(pur:Nat→Bool)(ix:List Nat)
 (m:Nat) (i0:z3b l pur m=true) (B0:(List.range m==ix)=true) (C:World→Prop) (ol:Oper) (D0:l[m]?=some ol)
 (h:WM P r N l C pur (fun D e w=>WL P r N l.toArray [ol] (fun D' e' w'=>D'=D∧n D e' w') D e w) D ix e w.drew):W P r N (.region id l.toArray true) ⟨n,b,t⟩ D e w:=by
 obtain rfl:List.range m=ix:=eq_of_beq B0;generalize q0:(fun(D:List Deferred) (e:Env) (w:World)=>WL P r N l.toArray [ol] (fun D' e' w'=>D'=D∧n D e' w') D e w)=K' at h;unfold z3b at i0;simp only[Bool.and_eq_true,decide_eq_true_eq] at i0;obtain⟨⟨⟨⟨t0,x0⟩,A0⟩,g0⟩,_⟩:=i0;have s0:∀j,j<m→j∈j4a l m:=fun j hj=>by
  have:=List.all_eq_true.1 g0 j (List.mem_range.2 hj);simpa using this
 have hz:(∀i,N≤i→e i=undef)→W P r N (.region id l.toArray true) ⟨n,b,t⟩ D e w:=by
  intro hz;refine H8b hm x0 (fun f e w=>(∀i,N≤i→e i=undef)∧(∀i,f i=true→∀j∈m1a l i,f j=true)∧((f m=false∧WM P r N l C pur K' D (a8a m f) e w)∨(f m=true∧n D e w))) ⟨hz,by simp,.inl ⟨rfl,?_⟩⟩ ?_ ?_
  ·have:a8a m (fun _=>false)=List.range m:=by unfold a8a;simp
   rw[this];exact h
  ·rintro f e w i o ⟨hz,f0,hM⟩ ho h0 j0;have y0:i<l.length:=(List.getElem?_eq_some_iff.1 ho).1;have a0:∀k,(f k||k==i)=true→∀j∈m1a l k,(f j||j==i)=true:=by
    intro k hk j hj;simp only[Bool.or_eq_true,beq_iff_eq] at hk ⊢;rcases hk with hk|rfl
    ·exact .inl (f0 k hk j hj)
    ·exact .inl (j0 j hj)
   rcases hM with⟨d0,hM⟩|⟨d0,-⟩
   rotate_left
   ·have:=v3a f0 l.length (m1a l m) (f0 m d0) i (s0 i (by
     rcases Nat.lt_or_ge i m with h|h
     ·exact h
     ·have:i=m:=by omega
      subst this;rw[h0] at d0;cases d0))
    rw[h0] at this;cases this
   by_cases z0:i=m
   ·subst z0;obtain rfl:ol=o:=Option.some.inj (D0.symm.trans ho);have b0:∀j,j<i→f j=true:=fun j hj=>v3a f0 _ _ j0 j (s0 j hj);have n0:a8a i f=[]:=by
     unfold a8a;rw[List.filter_eq_nil_iff];intro j hj;simp[b0 j (List.mem_range.1 hj)]
    rw[n0] at hM;have h4:=hM.2;rw[←q0] at h4;clear hM h q0;unfold WL at *;refine fun a Q hs hD he hK=>h4 a Q hs hD he (fun a' w' o0 hh=>hK a' w' o0 ?_);refine⟨hh.1,fun j hj=>?_,a0,.inr ⟨by simp,hh.2⟩⟩;simp only[W0a,Array.getD_eq_getD_getElem?];rw[Array.getElem?_eq_none (by omega)];rfl
   have r0:i<m:=by omega
   have e0:(f m||m==i)=false:=by simp[d0];omega
   obtain⟨G0,_,h1,h2,h3⟩:=w0b (m:=m) f r0 h0;rw[h1] at hM;have F0:∀j∈j4a l i,f j=true:=v3a f0 _ _ j0;obtain⟨o',_,C0,hd,hN,h4⟩:=WM.first t0 G0 e w (fun j hj=>by
    have:=List.all_eq_true.1 (List.all_eq_true.1 A0 i (List.mem_range.2 r0)) j (List.mem_range.2 (h3 j hj).1);simp only[Bool.or_eq_true,List.contains_eq_mem,decide_eq_true_eq] at this;rcases this with h|h
    ·have:=F0 j h;rw[(h3 j hj).2] at this;cases this
    ·exact h) hz hM
   obtain rfl:o'=o:=Option.some.inj (C0.symm.trans ho);rcases h4 with⟨E0,v,hv,h4⟩|⟨E0,h4⟩
   ·have u0:=hM.inC;rcases hv with⟨hw,hv⟩|⟨hw,rfl⟩
    ·unfold WL;intro a Q hs hD he hK;simp only[wpListIn];have p0:Region.wanted o' (yielded l.toArray a.tmps)=true:=by rw[s1a,he];exact hw
     simp only[p0,if_true];refine⟨D0a _ _ _,?_⟩;rw[Oper.semAt_eq _ _ _ (J0a t0 ho).2,v2a,he,hv w u0,Oper.uponIn_value];refine hK _ _ (by simp[Act.put,hd,hs]) ⟨by simp[Act.put,hd,hD],?_⟩;rw[hd,e1a v (by rw[hs];exact hN),he];exact⟨Q1a hN hz,a0,.inl ⟨e0,by rw[h2];exact h4⟩⟩
    ·unfold WL;intro a Q hs hD he hK;simp only[wpListIn];have p0:Region.wanted o' (yielded l.toArray a.tmps)=false:=by rw[s1a,he];exact hw
     simp only[p0];refine⟨D0a _ _ _,?_⟩;refine hK _ _ (by simp[Act.put,hd,hs]) ⟨by simp[Act.put,hd,hD],?_⟩;rw[hd,e1a undef (by rw[hs];exact hN),he];exact⟨Q1a hN hz,a0,.inl ⟨e0,by rw[h2];exact h4⟩⟩
   ·unfold WL at *;refine fun a Q hs hD he hK=>h4 a Q hs hD he (fun a' w' o0 hh=>hK a' w' o0 ?_);obtain⟨v0,v,hv,h5⟩:=hh;exact⟨v0,by rw[hv];exact Q1a hN hz,a0,.inl ⟨e0,by rw[h2];exact h5⟩⟩
  ·rintro f e w ⟨hz,f0,hM⟩ b0;rcases hM with⟨d0,-⟩|⟨-,hM⟩
   ·have:=b0 m (by omega);rw[d0] at this;cases this
   ·exact hM
 unfold W at *;intro a hs hd he;refine hz (fun i hi=>?_) a hs hd he;rw[←he];simp only[W0a,Array.getD_eq_getD_getElem?];rw[Array.getElem?_eq_none (by omega)];rfl
end
theorem RdS.dropped{α:Type}{M:List Nat}{w:World}{size b o n c:Nat}{R:List Value→α→Prop}{l:List α}(h:RdS M w size R (.slice (some ⟨b,o,none⟩) n c) l)(lo:Nat)(b0:lo≤n):
 RdS M w size R (.slice (some (if c=lo then⟨b,o,none⟩ else⟨b,o+lo*size,none⟩)) (n-lo) (c-lo)) (l.drop lo):=by
 obtain⟨_,_,_,_,h5⟩:=h.at;refine⟨_,_,_,rfl,by simp;omega,by omega,by omega,by omega,fun h0=>?_⟩;obtain⟨_,_,hA,hb,a0⟩:=h5 (by omega);cases hA;rw[if_neg (by omega)];refine⟨b,o+lo*size,rfl,hb,fun i x hx=>?_⟩;rw[List.getElem?_drop] at hx;obtain⟨cs,h6,h7,h8⟩:=a0 _ x hx;refine⟨cs,h6,?_,h8⟩;rw[Nat.add_mul,←Nat.add_assoc] at h7;exact h7
theorem Y8a(s:y1a)(M:List Nat)(w0:World)(ss:List Value)(vf:Value)(q:Int→Bool)(hS:q2a M w0 ss s)(hp:A2a Tryz.prog M w0 vf q)(hK:q3a M w0)(hM:∀g∈M,g<w0.heap.size)
 (hg:p3a s.guard q=true) (hs:∀a∈s.set,p3a a.to q=true) :
 M0a Tryz.prog 222 #[.agg ss.toArray,vf] w0 fun v w'=>v=.bool true∧Below w0.heap.size w0 w':=by
 obtain⟨Ag,ng,cg,As,ns,j0,rfl,⟨_,_,_,_,_⟩,hG,e0,_,_⟩:=hS.open_;obtain⟨f,first,caps,rfl,_,_⟩:=id hp;have S:=St.refl w0;have n0:∀w':World,w0.heap.size≤w'.heap.size→∀g∈M,g<w'.heap.size:=fun w' h g hg=>by have:=hM g hg;omega
 refine a0a Tryz.func222 rfl Tryz.ntmps222 rfl ?_;refine wO0 rfl ⟨⟩ (h0a S (by conv=>lhs;whnf) rfl ?_);intro g2 w2 S2 X2 G2;refine lOn 8 S2.k [.o 0] rfl ⟨rfl,⟨⟩⟩ (Z0a (by conv=>lhs;whnf) rfl ?_);refine g0a S2 H8a rfl rfl (hg▸G6a _ M _ _ _ q (RdE.keep (S2.keep0 M) _ _ hG) (hp.keep (S2.keep0 M)) (hK.keep (S2.keep0 M)) (n0 _ S2.size)) ?_;intro y0 i0 v0;refine lC i0.k [.o 0] rfl ⟨rfl,⟨⟩⟩ (wL (fun μk D ε w=>D=[]∧∃k:Nat,(k+μk=(s.set.length))∧St [] w0 w [(some g2,97,[.int .i64 s.kind,.int .i64 s.frm,.int .i64 s.to,.int .i64 s.guard.op,.int .i64 s.guard.w,.int .i64 s.guard.n,.slice Ag ng cg,.slice As ns j0,.bool s.release,.int .i64 s.target,.int .i64 s.module_])]∧Sl ε [(1,.func (.func f) first caps),(13,.slice As ns j0),(14,.int .i64 ns),(15,.int .i64 k)]) (μ:=(s.set.length)) ⟨rfl,0,by omega,i0,rfl⟩ ?_);rintro μk D ε w ⟨rfl,k,_,S,eZ⟩;refine wK eZ (wB0 rfl ⟨⟩ (fun r0=>?_) fun r0=>?_)
 ·obtain⟨a,q0,t0,_,s0,b0,_,g0,f0,h0⟩:=RdS.get (e0) (k) (by omega);obtain⟨_,_,_,rfl,_,d0⟩:=U0a.open_ h0;refine lO (S.k.a f0) [.x q0 t0,.v 0] rfl ⟨⟨rfl,g0⟩,⟨b0,by omega⟩,⟨⟩⟩ (m0a S c8a rfl rfl ?_);intro g6 w6 S6 X6 G6;refine e0a (kk:=0) (vs:=[_,_,_,_,_]) S6 d8a rfl rfl rfl rfl rfl rfl rfl ?_;intro u0 a0 p0;dsimp only[k0a,List.set] at a0;refine lO a0.k [.o 0] rfl ⟨rfl,⟨⟩⟩ (g0a a0 H8a rfl rfl ((hs a (c0a s0))▸G6a _ M _ _ _ q (RdE.keep (a0.keep0 M) _ _ d0) (hp.keep (a0.keep0 M)) (hK.keep (a0.keep0 M)) (n0 _ a0.size)) ?_);intro z0 o0 x0;refine lP0 rfl ⟨by omega,⟨⟩⟩ ⟨μk-1,by omega,rfl,(k+1),(by omega),o0.tail,rfl⟩
 exact lT rfl ⟨⟩ rfl ⟨rfl,S.fin⟩
theorem T0b(l:List L1a)(M:List Nat)(w0:World)(v vf:Value)(q:Int→Bool)(hS:k5c M w0 v l)(hp:A2a Tryz.prog M w0 vf q)(hs:∀a∈l,q a.cell=true):
 M0a Tryz.prog 223 #[v,vf] w0 fun v w'=>v=.bool true∧Below w0.heap.size w0 w':=by
 obtain⟨As,ns,n0,rfl⟩:=hS.form;obtain⟨_,_,_⟩:=hS.len;obtain⟨f,first,caps,rfl,_,_⟩:=id hp;have S:=St.refl w0;refine a0a Tryz.func223 rfl Tryz.ntmps223 rfl ?_;refine wC0 rfl ⟨⟩ (wL (fun μk D ε w=>D=[]∧∃k:Nat,(k+μk=(l.length))∧St [] w0 w []∧Sl ε [(1,.func (.func f) first caps),(7,.slice As ns n0),(8,.int .i64 ns),(9,.int .i64 k)]) (μ:=(l.length)) ⟨rfl,0,by omega,S,rfl⟩ ?_);rintro μk D ε w ⟨rfl,k,_,S,eZ⟩;refine wK eZ (wB0 rfl ⟨⟩ (fun o0=>?_) fun o0=>?_)
 ·obtain⟨a,j0,q0,_,p0,b0,_,e0,d0,f0⟩:=RdS.get (hS) (k) (by omega);obtain⟨_,_,_,rfl,g0,_⟩:=U0a.open_ f0;refine lO (S.k.a d0) [.x j0 q0,.v 0] rfl ⟨⟨rfl,e0⟩,⟨b0,by omega⟩,⟨⟩⟩ (m0a S c8a rfl rfl ?_);intro g6 w6 S6 X6 G6
  first|refine e0a (kk:=0) (vs:=[_,_,_,_,_]) S6 d8a rfl rfl rfl rfl rfl rfl rfl ?_
  intro r0 a0 i0;dsimp only[k0a,List.set] at a0;refine lO a0.k [.o 0] rfl ⟨rfl,⟨⟩⟩ (F9a a0 (hp.keep (a0.keep0 M)) rfl rfl (g0) (hs a (c0a p0)) rfl (fun t0 h0 s0=>?_));refine lP0 rfl ⟨by omega,⟨⟩⟩ ⟨μk-1,by omega,rfl,(k+1),(by omega),h0.tail,rfl⟩
 exact lT rfl ⟨⟩ rfl ⟨rfl,S.fin⟩
theorem n6c(e:E)(M:List Nat)(w0:World)(cs:List Value)(hR:RdE M w0 e cs)(he:e=⟨1,1,1,[]⟩):M0a Tryz.prog 227 #[.agg cs.toArray] w0 fun v w'=>v=.bool true∧Below w0.heap.size w0 w':=by
 obtain⟨_,n,_,rfl,_,_,_,_,_⟩:=hR.cells;have e1:e.op=1:=by rw[he]
 have e2:e.w=1:=by rw[he]
 have e3:e.n=1:=by rw[he]
 have e4:e.kids.length=0:=by rw[he];rfl
 have S:=St.refl w0;refine a0a Tryz.func227 rfl Tryz.ntmps227 rfl ?_;refine wO0 rfl ⟨⟩ (h0a S (by conv=>lhs;whnf) rfl ?_);intro g1 w1 S1 X1 G1;refine lB S1.k [.o 0] rfl ⟨rfl,⟨⟩⟩ (fun h5=>?_) (fun h5=>by exfalso;omega);refine lB S1.k [.o 0] rfl ⟨rfl,⟨⟩⟩ (fun h9=>?_) (fun h9=>by exfalso;omega);refine lB S1.k [.o 0] rfl ⟨rfl,⟨⟩⟩ (fun a0=>?_) (fun a0=>by exfalso;omega);refine lB S1.k [.o 0] rfl ⟨rfl,⟨⟩⟩ (fun b0=>?_) (fun b0=>by exfalso;omega);exact lT rfl ⟨⟩ rfl ⟨rfl,S1.fin⟩
theorem R6b(s:y1a)(M:List Nat)(w0:World)(ss:List Value)(hS:q2a M w0 ss s)(hg:s.guard=⟨1,1,1,[]⟩)(hs:s.set=[]):
 M0a Tryz.prog 226 #[.agg ss.toArray] w0 fun v w'=>v=.bool true∧Below w0.heap.size w0 w':=by
 obtain⟨_,_,_,_,_,_,rfl,⟨_,_,_,_,_⟩,hG,_,a0,_⟩:=hS.open_;have S:=St.refl w0;rw[hs] at a0;simp only[List.length_nil] at a0;refine a0a Tryz.func226 rfl Tryz.ntmps226 rfl ?_;refine wO0 rfl ⟨⟩ (h0a S (by conv=>lhs;whnf) rfl ?_);intro g1 w1 S1 X1 G1;refine lO S1.k [.o 0] rfl ⟨rfl,⟨⟩⟩ (g0a S1 U6c rfl rfl (n6c _ M _ _ (RdE.keep (S1.keep0 M) _ _ hG) hg) ?_);intro w5 S5 X5;refine lB S5.k [.o 0] rfl ⟨rfl,⟨⟩⟩ (fun b0=>?_) (fun b0=>by exfalso;omega);exact lT rfl ⟨⟩ rfl ⟨rfl,S5.fin⟩
theorem z2c{p:f0a}{s:y1a}{t:Int}{z:Bool}(h:∀(i:Nat) (hi:i<s.set.length),0<i∨s.kind≠2→s5a p.cells (s.set[i]).to z t){k:Nat}{a:L1a}(ha:s.set[k+1]?=some a):s5a p.cells a.to z t:=by
 obtain⟨h1,rfl⟩:=List.getElem?_eq_some_iff.1 ha;exact h _ h1 (.inl (by omega))
structure e8a (p:f0a) (t:Nat) (x:X0a) (s:y1a) (M:List Nat) (w:World) (cs ss:List Value):Prop where
 prog:q1a M w p cs
 step:q2a M w ss s
 ok:d1a p
 sok:p8a p t x.points s
 masks:q3a M w
 low:∀g∈M,g<w.heap.size
theorem L4b(p:f0a)(t:Nat)(x:X0a)(s:y1a)(M:List Nat)(w0:World)(cs ss:List Value)(h:e8a p t x s M w0 cs ss)(hk:s.kind=1):
 M0a Tryz.prog 212 #[.agg cs.toArray,.int .i64 t,.agg ss.toArray] w0 fun v w'=>v=.bool true∧Below w0.heap.size w0 w':=by
 obtain⟨hP,hS,hp,a0,hK,hM⟩:=h;obtain⟨_,_,_,_,_,_,_,_,_,_,_,_,rfl,_,_,_,_,_,_,_,_,_,_,_,_⟩:=hP.open_;obtain⟨_,_,_,_,_,_,rfl,⟨_,_,_,_,_⟩,_,e0,_,_⟩:=hS.open_;have S:=St.refl w0;have f0:∀w':World,w0.heap.size≤w'.heap.size→∀g∈M,g<w'.heap.size:=fun w' h g hg=>by have:=hM g hg;omega
 have h4:decide (s.kind=4)=false:=decide_eq_false (by omega);have j0:p3a s.guard (E9a p t)=true:=A8a hp a0.guard.1 (h4▸a0.row.guard);have n0:∀a∈s.set,p3a a.to (E9a p t)=true:=fun a ha=>by
  obtain⟨i,hi,rfl⟩:=List.getElem_of_mem ha;exact A8a hp (a0.set _ ha).2.1 (h4▸a0.row.vals i hi (.inr (by omega)))
 have i0:∀a∈s.set,E9a p t a.cell=true:=fun a ha=>decide_eq_true ⟨(a0.set a ha).1,a0.row.k1 hk a ha⟩;refine a0a Tryz.func212 rfl Tryz.ntmps212 rfl ?_;refine wO0 rfl ⟨⟩ (h0a S (by conv=>lhs;whnf) rfl ?_);intro g3 w3 S3 X3 G3;refine h0a S3 (by conv=>lhs;whnf) rfl ?_;intro g5 w5 S5 X5 G5;refine lO S5.k [.w 1] rfl ⟨⟨rfl,by rfl⟩,⟨⟩⟩ (x0a S5 b2b rfl rfl (G2b p t M _ _ (hP.keep (S5.keep0 M)) (f0 _ S5.size)) ?_);rintro q0 r0 hq b0 o0;obtain⟨_,_,_,rfl,_,_⟩:=id hq;refine lO b0.k [.w 0] rfl ⟨⟨rfl,by rfl⟩,⟨⟩⟩ (g0a b0 P5b rfl rfl (Y8a s M _ _ _ (E9a p t) (q2a.keep (b0.keep0 M) _ _ hS) hq (hK.keep (b0.keep0 M)) (f0 _ b0.size) j0 n0) ?_);intro s0 d0 h0;replace hq:=hq.keep (h0.of_nil);refine lO d0.k [.o 0] rfl ⟨rfl,⟨⟩⟩ (g0a d0 y5b rfl rfl (T0b s.set M _ _ _ (E9a p t) (RdS.keepW e0 (d0.keep0 M) (U0a.keep (d0.keep0 M))) hq i0) ?_);intro t0 g0 p0;exact lT rfl ⟨⟩ rfl ⟨rfl,g0.fin⟩
theorem k3b(p:f0a)(t:Nat)(x:X0a)(s:y1a)(M:List Nat)(w0:World)(cs ss:List Value)(h:e8a p t x s M w0 cs ss)(hk:s.kind=4):
 M0a Tryz.prog 215 #[.agg cs.toArray,.int .i64 t,.agg ss.toArray] w0 fun v w'=>v=.bool true∧Below w0.heap.size w0 w':=by
 obtain⟨hP,hS,hp,a0,hK,hM⟩:=h;obtain⟨_,_,_,_,_,_,_,_,_,_,_,_,rfl,_,_,_,_,_,_,_,_,_,_,_,_⟩:=hP.open_;obtain⟨_,_,_,_,_,_,rfl,⟨_,_,_,_,_⟩,_,e0,_,_⟩:=hS.open_;have S:=St.refl w0;have f0:∀w':World,w0.heap.size≤w'.heap.size→∀g∈M,g<w'.heap.size:=fun w' h g hg=>by have:=hM g hg;omega
 have h4:decide (s.kind=4)=true:=decide_eq_true (by omega);have j0:p3a s.guard (R2b p t)=true:=h2b hp a0.guard.1 (h4▸a0.row.guard);have n0:∀a∈s.set,p3a a.to (R2b p t)=true:=fun a ha=>by
  obtain⟨i,hi,rfl⟩:=List.getElem_of_mem ha;exact h2b hp (a0.set _ ha).2.1 (h4▸a0.row.vals i hi (.inr (by omega)))
 have i0:∀a∈s.set,R2b p t a.cell=true:=fun a ha=>by
  unfold R2b shQ E9a;rw[Bool.or_eq_true,decide_eq_true_eq,decide_eq_true_eq];rcases a0.row.cells a ha with h|h
  ·exact .inr ⟨(a0.set a ha).1,h⟩
  ·exact .inl ⟨(a0.set a ha).1,h⟩
 refine a0a Tryz.func215 rfl Tryz.ntmps215 rfl ?_;refine wO0 rfl ⟨⟩ (h0a S (by conv=>lhs;whnf) rfl ?_);intro g3 w3 S3 X3 G3;refine h0a S3 (by conv=>lhs;whnf) rfl ?_;intro g5 w5 S5 X5 G5;refine lO S5.k [.w 1] rfl ⟨⟨rfl,by rfl⟩,⟨⟩⟩ (x0a S5 j6b rfl rfl (r7a p t M _ _ (hP.keep (S5.keep0 M)) (f0 _ S5.size)) ?_);rintro q0 r0 hq b0 o0;obtain⟨_,_,_,rfl,_,_⟩:=id hq;refine lO b0.k [.w 0] rfl ⟨⟨rfl,by rfl⟩,⟨⟩⟩ (g0a b0 P5b rfl rfl (Y8a s M _ _ _ (R2b p t) (q2a.keep (b0.keep0 M) _ _ hS) hq (hK.keep (b0.keep0 M)) (f0 _ b0.size) j0 n0) ?_);intro s0 d0 h0;replace hq:=hq.keep (h0.of_nil);refine lO d0.k [.o 0] rfl ⟨rfl,⟨⟩⟩ (g0a d0 y5b rfl rfl (T0b s.set M _ _ _ (R2b p t) (RdS.keepW e0 (d0.keep0 M) (U0a.keep (d0.keep0 M))) hq i0) ?_);intro t0 g0 p0;exact lT rfl ⟨⟩ rfl ⟨rfl,g0.fin⟩
theorem S4b(p:f0a)(t:Nat)(x:X0a)(s:y1a)(M:List Nat)(w0:World)(cs ss:List Value)(h:e8a p t x s M w0 cs ss)(hk:5≤s.kind):
 M0a Tryz.prog 216 #[.agg cs.toArray,.int .i64 t,.agg ss.toArray] w0 fun v w'=>v=.bool true∧Below w0.heap.size w0 w':=by
 obtain⟨hP,hS,_,a0,_,_⟩:=h;obtain⟨_,_,_,_,_,_,_,_,_,_,_,_,rfl,_,_,_,_,_,_,_,_,_,_,_,_⟩:=hP.open_;obtain⟨_,_,_,_,_,_,rfl,⟨_,_,_,_,_⟩,_,_,_,_⟩:=hS.open_;have S:=St.refl w0;refine a0a Tryz.func216 rfl Tryz.ntmps216 rfl ?_;refine wO0 rfl ⟨⟩ (h0a S (by conv=>lhs;whnf) rfl ?_);intro g3 w3 S3 X3 G3;refine h0a S3 (by conv=>lhs;whnf) rfl ?_;intro g5 w5 S5 X5 G5;refine lO S5.k [.w 0] rfl ⟨⟨rfl,by rfl⟩,⟨⟩⟩ (g0a S5 F9b rfl rfl (R6b s M _ _ (q2a.keep (S5.keep0 M) _ _ hS) (a0.row.k5 hk).2 (a0.row.k5 hk).1) ?_);intro w8 S8 X8;exact lT rfl ⟨⟩ rfl ⟨rfl,S8.fin⟩
theorem y0b(p:f0a)(t:Nat)(x:X0a)(s:y1a)(M:List Nat)(w0:World)(cs ss:List Value)(h:e8a p t x s M w0 cs ss)(hk:6≤s.kind):
 M0a Tryz.prog 218 #[.agg cs.toArray,.int .i64 t,.agg ss.toArray] w0 fun v w'=>v=.bool true∧Below w0.heap.size w0 w':=by
 obtain⟨hP,hS,_,a0,_,_⟩:=h;obtain⟨_,_,_,_,_,_,_,_,_,_,nt,_,rfl,_,_,_,_,_,_,_,_,_,_,_,_⟩:=hP.open_;obtain⟨_,_,_,_,_,_,rfl,⟨_,_,_,_,_⟩,_,_,_,_⟩:=hS.open_;have S:=St.refl w0;have h6:=a0.row.k6 hk;have e0:=h6.1;have g0:=h6.2;unfold D2a at e0;refine a0a Tryz.func218 rfl Tryz.ntmps218 rfl ?_;refine wO0 rfl ⟨⟩ (h0a S (by conv=>lhs;whnf) rfl ?_);intro g3 w3 S3 X3 G3;refine h0a S3 (by conv=>lhs;whnf) rfl ?_;intro g5 w5 S5 X5 G5;refine lO S5.k [.w 0] rfl ⟨⟨rfl,by rfl⟩,⟨⟩⟩ (g0a S5 F9b rfl rfl (R6b s M _ _ (q2a.keep (S5.keep0 M) _ _ hS) (a0.row.k5 (by omega)).2 (a0.row.k5 (by omega)).1) ?_);intro w8 S8 X8;refine lB S8.k [.o 0] rfl ⟨rfl,⟨⟩⟩ (fun d0=>?_) (fun d0=>by exfalso;omega);refine lO S8.k [.o 0,.o 1] rfl ⟨rfl,rfl,⟨⟩⟩ (g0a S8 k3a rfl rfl ((show decide (0≤s.target∧s.target<(nt:Int))=true from decide_eq_true (by omega))▸y2a _ _ _) ?_);intro h0 b0 f0;exact lT rfl ⟨⟩ rfl ⟨rfl,b0.fin⟩
theorem m4b(p:f0a)(t:Nat)(x:X0a)(s:y1a)(M:List Nat)(w0:World)(cs ss:List Value)(h:e8a p t x s M w0 cs ss)(hk:s.kind=6):
 M0a Tryz.prog 217 #[.agg cs.toArray,.int .i64 t,.agg ss.toArray] w0 fun v w'=>v=.bool true∧Below w0.heap.size w0 w':=by
 have h0:=h;obtain⟨hP,hS,hp,f0,hK,hM⟩:=h;obtain⟨_,_,_,_,_,_,_,_,_,_,_,_,rfl,_,_,_,n0,_,_,_,_,_,_,_,_⟩:=hP.open_;obtain⟨_,_,_,_,_,_,rfl,⟨_,_,_,_,_⟩,_,_,_,_⟩:=hS.open_;have S:=St.refl w0;have j0:∀w':World,w0.heap.size≤w'.heap.size→∀g∈M,g<w'.heap.size:=fun w' h g hg=>by have:=hM g hg;omega
 have h6:=f0.row.k6 (by omega);have i0:=h6.1;unfold D2a at i0;refine a0a Tryz.func217 rfl Tryz.ntmps217 rfl ?_;refine wO0 rfl ⟨⟩ (h0a S (by conv=>lhs;whnf) rfl ?_);intro g3 w3 S3 X3 G3;refine h0a S3 (by conv=>lhs;whnf) rfl ?_;intro g5 w5 S5 X5 G5;refine lO S5.k [.w 1,.w 0] rfl ⟨⟨rfl,by rfl⟩,⟨rfl,by rfl⟩,⟨⟩⟩ (g0a S5 a1c rfl rfl (y0b p t x s M _ _ _ ⟨hP.keep (S5.keep0 M),q2a.keep (S5.keep0 M) _ _ hS,hp,f0,hK.keep (S5.keep0 M),j0 _ S5.size⟩ (by omega)) ?_);intro r0 a0 q0;obtain⟨u,g0,p0,_,o0,b0,_,_,d0,e0⟩:=RdS.get (n0) (s.target.toNat) (by omega);obtain⟨_,_,_,_,_,_,_,_,_,_,_,_,rfl,_,_,_,_,_,_,_,_,_,_,_,_,_⟩:=N0a.open_ e0;refine lO a0.k [.o 1,.o 0,.x g0 p0] rfl ⟨⟨b0,by omega⟩,rfl,rfl,⟨⟩⟩ ?_;refine s0a m2a rfl (v:=.bool true) (by have h4:=a0.old (d0 6 _ rfl);rw[f0.row.k7 hk u o0] at h4;exact h4) rfl ?_;exact lT rfl ⟨⟩ rfl ⟨rfl,a0.fin⟩
theorem T5b(p:f0a)(t:Nat)(x:X0a)(s:y1a)(M:List Nat)(w0:World)(cs ss:List Value)(h:e8a p t x s M w0 cs ss)(hk:s.kind=2):
 M0a Tryz.prog 213 #[.agg cs.toArray,.int .i64 t,.agg ss.toArray] w0 fun v w'=>v=.bool true∧Below w0.heap.size w0 w':=by
 obtain⟨hP,hS,hp,j0,hK,hM⟩:=h;obtain⟨Ac,nc,cc,Am,nm,cm,Al,nl,cl,At,nt,ct,rfl,_,_,_,_,_,_,_,_,_,_,_,_⟩:=hP.open_;obtain⟨Ag,ng,cg,_,ns,F0,rfl,⟨_,_,_,_,_⟩,hG,h0,_,_⟩:=hS.open_;have S:=St.refl w0;have I0:∀w':World,w0.heap.size≤w'.heap.size→∀g∈M,g<w'.heap.size:=fun w' h g hg=>by have:=hM g hg;omega
 have h4:decide (s.kind=4)=false:=decide_eq_false (by omega);have H1:p3a s.guard (E9a p t)=true:=A8a hp j0.guard.1 (h4▸j0.row.guard);obtain⟨a0,l,g0,G1,A1,D1,F1,B1,hl⟩:=j0.row.k2 hk;have C1:s.set.length=l.length+1:=by rw[g0];rfl
 have X0:a0∈s.set:=by rw[g0];simp
 have A0:=(j0.set a0 X0).1;have L0:=e1b (j0.set a0 X0).2.1 D1;have P0:s.set[0]?=some a0:=by rw[g0];rfl
 unfold D2a at A0;obtain⟨_,b0,p0,_,Q0,rfl,x1,_,x0,E1⟩:=RdS.get h0 0 (by omega);obtain rfl:=Option.some.inj (P0.symm.trans Q0);obtain⟨a1,J1,s1,rfl,I1,_⟩:=U0a.open_ E1;have z1:s.set.drop 1=l:=by rw[g0];rfl
 have V0:=RdS.dropped h0 1 (by omega);rw[z1] at V0;refine a0a Tryz.func213 rfl Tryz.ntmps213 rfl ?_;refine wO0 rfl ⟨⟩ (h0a S (by conv=>lhs;whnf) rfl ?_);intro g3 w3 S3 X3 G3;refine h0a S3 (by conv=>lhs;whnf) rfl ?_;intro g5 w5 S5 X5 G5;refine lO S5.k [.w 1] rfl ⟨⟨rfl,rfl⟩,⟨⟩⟩ (x0a S5 b2b rfl rfl (G2b p t M _ _ (hP.keep (S5.keep0 M)) (I0 _ S5.size)) ?_);rintro P1 Y0 hq q0 N1;obtain⟨f,first,caps,rfl,_,_⟩:=id hq;have d0:=y0a.refl [] Y0;refine lB q0.k [.o 0] rfl ⟨rfl,⟨⟩⟩ (fun t1=>by exfalso;omega) fun t1=>?_;refine lO q0.k [.o 0] rfl ⟨rfl,⟨⟩⟩ (g0a q0 H8a rfl rfl (H1▸G6a _ M _ _ _ (E9a p t) (RdE.keep (q0.keep0 M) _ _ hG) (hq.keep d0.of_nil) (hK.keep (q0.keep0 M)) (I0 _ q0.size)) ?_);intro S0 T0 h1;replace d0:=d0.trans h1;refine lC0 rfl ⟨⟩ (g9a b0a (fun i=>[0,1,2,3,4,5,6,7,8,9,11].contains i) [0,1,2,3,4,5,6,7,8,9,10,11] 12 (by kernel_rfl) (by kernel_rfl) (G1d T0) _ rfl ?_);have f0:=T0.drew;have e0:y0a [] S0 S0.drew:=s2a _ _;generalize S0.drew=Z1 at f0 e0 ⊢;replace d0:=d0.trans e0;refine z1a ⟨f0,e0⟩ rfl rfl rfl ?_;refine z0a a6b rfl rfl ?_;refine d0a ?_;refine z1a ⟨f0,e0⟩ rfl rfl rfl ?_;refine j0a W3b rfl (fun w1 hw=>by exact hw.1.cell 0 rfl rfl) rfl ?_;refine d0a ?_;refine z1a ⟨f0,e0⟩ rfl rfl rfl ?_;refine n0a n9a.slT rfl (by rfl) rfl (by omega) (by omega) rfl ?_;refine d0a ?_;refine z1a ⟨f0,e0⟩ rfl rfl rfl ?_;refine z0a N6b rfl rfl ?_;refine d0a ?_;refine z1a ⟨f0,e0⟩ rfl rfl rfl ?_;refine j0a K0a rfl (fun w1 hw=>by exact hw.1.old (x0 _ _ rfl)) rfl ?_;refine d0a ?_;refine z1a ⟨f0,e0⟩ rfl rfl rfl ?_;refine z0a a6b rfl rfl ?_;refine d0a ?_;refine z1a ⟨f0,e0⟩ rfl rfl rfl ?_;refine j0a W3b rfl (fun w1 hw=>by exact hw.1.cell 0 rfl rfl) rfl ?_;refine d0a ?_;refine z1a ⟨f0,e0⟩ rfl rfl rfl ?_;refine n0a n9a.slT rfl (by rfl) rfl (by omega) (by omega) rfl ?_;refine d0a ?_;refine z1a ⟨f0,e0⟩ rfl rfl rfl ?_;refine z0a n7b rfl rfl ?_;refine d0a ?_;refine z1a ⟨f0,e0⟩ rfl rfl rfl ?_;refine J1a E1a rfl (fun w1 hw=>(t1a.sub x0 1 4).keep (hw.1.keep0 M) x1) (by rfl) rfl ?_;refine d0a ?_;refine q8a ⟨f0,e0⟩ rfl rfl rfl rfl ?_;refine m0a f0 j8a rfl rfl ?_;intro g9 w9 S9 X9 G9;have r0:=Nat.le_trans d0.size G9;have u0:=e0.trans X9;replace d0:=d0.trans X9;refine L0a ⟨rfl,?_⟩;refine z1a ⟨S9.tail,u0⟩ rfl rfl rfl ?_;refine z3a (v:=.int .i64 _) rfl rfl ?_;refine d0a ?_;refine j5a ⟨S9.tail,u0⟩ ?_;refine e0a (kk:=0) (vs:=[_,_,_,_]) S9 t6a rfl rfl rfl rfl rfl rfl rfl ?_;intro Z0 i0 t0;dsimp only[k0a,List.set] at i0;replace d0:=d0.fresh t0 (by first|exact r0);refine L0a ⟨rfl,?_⟩;refine fO0 rfl ⟨⟩ (F9a i0 (hq.keep d0.of_nil) rfl rfl (I1) (decide_eq_true ⟨A0,G1⟩) rfl (fun R1 B0 i1=>?_));replace d0:=d0.trans i1;refine lO B0.k [.w 2] rfl ⟨⟨rfl,rfl⟩,⟨⟩⟩ (g0a B0 R9a rfl rfl (A1▸r6a p M _ _ _ (hP.keep (B0.keep0 M)) A0.1 A0.2) ?_);intro T1 y0 j1;replace d0:=d0.trans j1;refine lB y0.k [.o 0] rfl ⟨rfl,⟨⟩⟩ (fun u1=>by exfalso;omega) fun u1=>?_;refine lO y0.k [.w 2,.o 0] rfl ⟨rfl,⟨rfl,rfl⟩,⟨⟩⟩ (g0a y0 A0b rfl rfl ((show shQ p a0.to.n=true from decide_eq_true ⟨L0,F1⟩)▸x5a p M _ _ _ (hP.keep (y0.keep0 M))) ?_);intro U1 C0 m1;replace d0:=d0.trans m1;refine lO C0.k [.w 2,.o 0] rfl ⟨rfl,⟨rfl,rfl⟩,⟨⟩⟩ (g0a C0 R9a rfl rfl (B1▸r6a p M _ _ _ (hP.keep (C0.keep0 M)) L0.1 L0.2) ?_);intro V1 U0 n1;replace d0:=d0.trans n1;refine lO U0.k [.o 1] rfl ⟨rfl,⟨⟩⟩ ?_;refine c3b (kd:=.i64) (lo:=1) (hi:=ns) n9a.slT rfl (.inr rfl) (.inl ⟨rfl,rfl⟩) (by omega) (by have:=h0.len;omega) (by have:=h0.len;omega) rfl ?_;refine lC0 rfl ⟨⟩ (wL (fun μk D ε w=>D=[]∧∃k:Nat,(k+μk=(l.length))∧(y0a [] Y0 w)∧St [] w0 w [(some g9,68,[.int .i64 a0.to.op,.int .i64 a0.to.w,.int .i64 a0.to.n,.slice a1 J1 s1]),(some g5,97,[.int .i64 s.kind,.int .i64 s.frm,.int .i64 s.to,.int .i64 s.guard.op,.int .i64 s.guard.w,.int .i64 s.guard.n,.slice Ag ng cg,.slice (some ⟨b0,p0,none⟩) ns F0,.bool s.release,.int .i64 s.target,.int .i64 s.module_]),(some g3,195,[.slice Ac nc cc,.slice Am nm cm,.slice Al nl cl,.slice At nt ct])]∧Sl ε [(3,.pointer (some ⟨g3,0,none⟩)),(7,.func (.func f) first caps),(65,.slice (some (if F0=1 then⟨b0,p0,none⟩ else⟨b0,p0+1*5,none⟩)) (ns-1) (F0-1)),(66,.int .i64 (ns-1:Nat)),(67,.int .i64 k)]) (μ:=(l.length)) ⟨rfl,0,by omega,d0,U0,rfl⟩ ?_);rintro μk D ε w ⟨rfl,k,hk,d0,S,eZ⟩;refine wK eZ (wB0 rfl ⟨⟩ (fun v1=>?_) fun v1=>?_)
 ·obtain⟨a,r1,K1,_,O0,G0,_,K0,J0,N0⟩:=RdS.get (V0) (k) (by omega);obtain⟨_,_,_,rfl,R0,H0⟩:=U0a.open_ N0;have W0:=hl a (c0a O0);have v0:a∈s.set:=by rw[g0];exact List.mem_cons_of_mem _ (c0a O0)
  have z0:=(j0.set a v0).1;unfold D2a at z0;have y1:p3a a.to (E9a p t)=true:=A8a hp (j0.set a v0).2.1 (h4▸z2c j0.row.vals (k:=k) (a:=a) (by rw[g0];exact O0));refine lO (S.k.a J0) [.x r1 K1,.v 0] rfl ⟨⟨rfl,K0⟩,⟨G0,by omega⟩,⟨⟩⟩ (m0a S c8a rfl rfl ?_);intro O1 Q1 d1 g1 b1;have n0:=Nat.le_trans d0.size b1;replace d0:=d0.trans g1;refine e0a (kk:=0) (vs:=[_,_,_,_,_]) d1 d8a rfl rfl rfl rfl rfl rfl rfl ?_;intro M1 o0 E0;dsimp only[k0a,List.set] at o0;replace d0:=d0.fresh E0 (by exact n0);refine lO o0.k [.o 0] rfl ⟨rfl,⟨⟩⟩ (F9a o0 (hq.keep d0.of_nil) rfl rfl (R0) (decide_eq_true ⟨z0,W0.1⟩) rfl (fun W1 D0 o1=>?_));replace d0:=d0.trans o1;refine lO D0.k [.w 3,.o 0] rfl ⟨rfl,⟨rfl,rfl⟩,⟨⟩⟩ (g0a D0 R9a rfl rfl (W0.2▸r6a p M _ _ _ (hP.keep (D0.keep0 M)) z0.1 z0.2) ?_);intro X1 s0 p1;replace d0:=d0.trans p1;refine lO s0.k [.o 0] rfl ⟨rfl,⟨⟩⟩ (g0a s0 H8a rfl rfl (y1▸G6a _ M _ _ _ (E9a p t) (RdE.keep (s0.keep0 M) _ _ H0) (hq.keep d0.of_nil) (hK.keep (s0.keep0 M)) (I0 _ s0.size)) ?_);intro Y1 f1 q1;replace d0:=d0.trans q1;refine lP0 rfl ⟨by omega,⟨⟩⟩ ⟨μk-1,by omega,rfl,(k+1),(by omega),(d0),f1.tail,rfl⟩
 exact lT rfl ⟨⟩ rfl ⟨rfl,S.fin⟩
theorem p2b(p:f0a)(t c:Int)(g g':Nat)(M:List Nat)(w0:World)(cs:List Value)(vf:Value)(hP:q1a M w0 p cs)(hg:t1a w0 g 0 cs)(b0:w0.cell? ⟨g',0,none⟩=some vf)(hp:A2a Tryz.prog M w0 vf (R2b p t))(hc:i64 c)(h0:0≤c∧c<p.cells.length)(h1:E1b p.cells c=true)(h2:R2b p t c=true):
 M0a Tryz.prog 225 #[.int .i64 c,.pointer (some ⟨g,0,none⟩),.pointer (some ⟨g',0,none⟩)] w0 fun v w'=>v=.bool true∧Below w0.heap.size w0 w':=by
 obtain⟨_,_,_,_,_,_,_,_,_,_,_,_,rfl,_,_,_,_,_,_,_,_,_,_,_,_⟩:=hP.open_;have S:=St.refl w0;refine a0a Tryz.func225 rfl Tryz.ntmps225 rfl ?_;refine wO0 rfl ⟨⟩ ?_
 first|refine w1a m3b rfl ((fun j v hj=>S.old (hg j v hj))) (by rfl) rfl ?_
 refine lO0 rfl ⟨⟩ (g0a S R9a rfl rfl (h1▸r6a p M _ _ _ (hP.keep (S.keep0 M)) h0.1 h0.2) ?_);intro w7 S7 X7;refine lO0 rfl ⟨⟩ (s0a Q0b rfl (by first|exact S7.old b0) rfl ?_);refine lO0 rfl ⟨⟩ (F9a S7 (hp.keep (S7.keep0 M)) rfl rfl (hc) (h2) rfl (fun e0 a0 d0=>?_));exact lT rfl ⟨⟩ rfl ⟨rfl,a0.fin⟩
theorem v6b(l:List L1a)(M:List Nat)(w0:World)(v:Value)(f:FuncId)(first caps:Array Value)(hS:k5c M w0 v l)(hH:Has Tryz.prog f)
 (hf:∀w',y0a M w0 w'→∀a∈l,i64 a.cell→M0a Tryz.prog f (first.toList++[Value.int .i64 a.cell]++caps.toList).toArray w' fun v s0=>v=.bool true∧Below w'.heap.size w' s0) :
 M0a Tryz.prog 223 #[v,.func (.func f) first caps] w0 fun v w'=>v=.bool true∧Below w0.heap.size w0 w':=by
 obtain⟨As,ns,o0,rfl⟩:=hS.form;obtain⟨_,_,_⟩:=hS.len;have S:=St.refl w0;refine a0a Tryz.func223 rfl Tryz.ntmps223 rfl ?_;refine wC0 rfl ⟨⟩ (wL (fun μk D ε w=>D=[]∧∃k:Nat,(k+μk=(l.length))∧St [] w0 w []∧Sl ε [(1,.func (.func f) first caps),(7,.slice As ns o0),(8,.int .i64 ns),(9,.int .i64 k)]) (μ:=(l.length)) ⟨rfl,0,by omega,S,rfl⟩ ?_);rintro μk D ε w ⟨rfl,k,_,S,eZ⟩;refine wK eZ (wB0 rfl ⟨⟩ (fun p0=>?_) fun p0=>?_)
 ·obtain⟨a,n0,r0,_,q0,b0,_,e0,d0,f0⟩:=RdS.get (hS) (k) (by omega);obtain⟨_,_,_,rfl,g0,_⟩:=U0a.open_ f0;refine lO (S.k.a d0) [.x n0 r0,.v 0] rfl ⟨⟨rfl,e0⟩,⟨b0,by omega⟩,⟨⟩⟩ (m0a S c8a rfl rfl ?_);intro g6 w6 S6 X6 G6
  first|refine e0a (kk:=0) (vs:=[_,_,_,_,_]) S6 d8a rfl rfl rfl rfl rfl rfl rfl ?_
  intro t0 a0 j0;dsimp only[k0a,List.set] at a0;refine lO a0.k [.o 0] rfl ⟨rfl,⟨⟩⟩ (e5a (vs:=first.toList++[Value.int .i64 a.cell]++caps.toList) hH rfl rfl rfl (hf _ (a0.keep0 M) a (c0a q0) g0) ?_);rintro u0 v0 ⟨rfl,h0⟩;have i0:=a0.later h0;refine lP0 rfl ⟨by omega,⟨⟩⟩ ⟨μk-1,by omega,rfl,(k+1),(by omega),i0.tail,rfl⟩
 exact lT rfl ⟨⟩ rfl ⟨rfl,S.fin⟩
theorem p4b(p:f0a)(t:Nat)(x:X0a)(s:y1a)(M:List Nat)(w0:World)(cs ss:List Value)(h:e8a p t x s M w0 cs ss)(hk:s.kind=3):
 M0a Tryz.prog 214 #[.agg cs.toArray,.int .i64 t,.agg ss.toArray] w0 fun v w'=>v=.bool true∧Below w0.heap.size w0 w':=by
 obtain⟨hP,hS,hp,e0,hK,hM⟩:=h;obtain⟨_,_,_,_,_,_,_,_,_,_,_,_,rfl,_,_,_,_,_,_,_,_,_,_,_,_⟩:=hP.open_;obtain⟨_,_,_,_,ns,_,rfl,⟨_,_,_,_,_⟩,_,f0,_,_⟩:=hS.open_;have S:=St.refl w0;have s0:∀w':World,w0.heap.size≤w'.heap.size→∀g∈M,g<w'.heap.size:=fun w' h g hg=>by have:=hM g hg;omega
 have h4:decide (s.kind=4)=false:=decide_eq_false (by omega);have K0:p3a s.guard (E9a p t)=true:=A8a hp e0.guard.1 (h4▸e0.row.guard);have L0:∀a∈s.set,p3a a.to (E9a p t)=true:=fun a ha=>by
  obtain⟨i,hi,rfl⟩:=List.getElem_of_mem ha;exact A8a hp (e0.set _ ha).2.1 (h4▸e0.row.vals i hi (.inr (by omega)))
 obtain⟨a0,l,d0,J0,E0,hl⟩:=e0.row.k3 hk;have G0:s.set.length=l.length+1:=by rw[d0];rfl
 have H0:a0∈s.set:=by rw[d0];simp
 have p0:=(e0.set a0 H0).1;have v0:s.set[0]?=some a0:=by rw[d0];rfl
 unfold D2a at p0;obtain⟨_,_,_,_,x0,rfl,_,_,t0,I0⟩:=RdS.get f0 0 (by omega);obtain rfl:=Option.some.inj (v0.symm.trans x0);obtain⟨_,_,_,rfl,_,_⟩:=U0a.open_ I0;have D0:s.set.drop 1=l:=by rw[d0];rfl
 have y0:=RdS.dropped f0 1 (by omega);rw[D0] at y0;have u0:∀a∈l,(0≤a.cell∧a.cell<p.cells.length)∧E1b p.cells a.cell=true∧R2b p t a.cell=true:=fun a ha=>by
  have g0:a∈s.set:=by rw[d0];exact List.mem_cons_of_mem _ ha
  refine⟨(e0.set a g0).1,hl a ha,?_⟩;unfold R2b shQ E9a;rw[Bool.or_eq_true,decide_eq_true_eq,decide_eq_true_eq];rcases e0.row.cells a g0 with h|h
  ·exact .inr ⟨(e0.set a g0).1,h⟩
  ·exact .inl ⟨(e0.set a g0).1,h⟩
 refine a0a Tryz.func214 rfl Tryz.ntmps214 rfl ?_;refine wO0 rfl ⟨⟩ (h0a S (by conv=>lhs;whnf) rfl ?_);intro g3 w3 S3 X3 G3;refine h0a S3 (by conv=>lhs;whnf) rfl ?_;intro g5 w5 S5 X5 G5;refine lC0 rfl ⟨⟩ (v0a b0a [0,1,2,3,4,5,6,7] [8] [9,10,11] (by kernel_rfl) rfl (Cl _ _ _ _) (Cl.start S5) ?_);refine qB S5.q [.o 0] rfl ⟨rfl,⟨⟩⟩ (fun C0=>by exfalso;omega) fun C0=>?_;refine qN S5.q [.w 0,.w 1] rfl ⟨⟨rfl,by rfl⟩,⟨rfl,by rfl⟩,⟨⟩⟩ (V3a ?_);refine o8a (fun v w=>A2a Tryz.prog M w v (E9a p t)) rfl rfl b2b rfl (fun v w w' h hk=>h.keep hk.of_nil) (fun w1 S1 X1=>G2b p t M _ _ (hP.keep (S1.keep0 M)) (s0 _ S1.size)) ?_;refine R1a ?_;rintro a1 ⟨o0,_⟩;rintro U0 hq;dsimp only[R3a];obtain⟨_,first,_,rfl,_,_⟩:=id hq;refine lO0 rfl ⟨⟩ (g0a o0 P5b rfl rfl (Y8a s M _ _ _ (E9a p t) (q2a.keep (o0.keep0 M) _ _ hS) hq (hK.keep (o0.keep0 M)) (s0 _ o0.size) K0 L0) ?_);intro W0 j0 P0;refine lO j0.k [.o 0] rfl ⟨rfl,⟨⟩⟩ (w0a n9a.slT rfl (by rfl) rfl (by omega) (by omega) rfl ?_);refine lO0 rfl ⟨⟩ (s0a K0a rfl (by exact j0.old (t0 _ _ rfl)) rfl ?_);refine lO j0.k [.w 1] rfl ⟨⟨rfl,by rfl⟩,⟨⟩⟩ (g0a j0 A0b rfl rfl ((show shQ p a0.cell=true from decide_eq_true ⟨p0,J0⟩)▸x5a p M _ _ _ (hP.keep (j0.keep0 M))) ?_);intro X0 q0 Q0;refine lO q0.k [.w 1] rfl ⟨⟨rfl,by rfl⟩,⟨⟩⟩ (g0a q0 R9a rfl rfl (E0▸r6a p M _ _ _ (hP.keep (q0.keep0 M)) p0.1 p0.2) ?_);intro Y0 n0 R0;refine lO n0.k [.w 1] rfl ⟨⟨rfl,by rfl⟩,⟨⟩⟩ (x0a n0 j6b rfl rfl (r7a p t M _ _ (hP.keep (n0.keep0 M)) (s0 _ n0.size)) ?_);rintro V0 N0 z0 A0 S0;obtain⟨_,_,_,rfl,_,_⟩:=id z0;have h0:=y0a.refl [] N0;refine m0a A0 v4c rfl rfl ?_;intro g8 w8 S8 X8 G8;have i0:=Nat.le_trans h0.size G8;replace h0:=h0.trans X8;refine B0a (kk:=0) S8 R4c rfl (by conv=>lhs;whnf) rfl rfl (by exact Nat.le_of_ble_eq_true rfl) ?_;intro O0 b0 r0;replace h0:=h0.fresh r0 (by first|exact i0);refine lO b0.k [.o 1] rfl ⟨rfl,⟨⟩⟩ ?_;refine c3b (kd:=.i64) (lo:=1) (hi:=ns) n9a.slT rfl (.inr rfl) (.inl ⟨rfl,rfl⟩) (by omega) (by have:=f0.len;omega) (by have:=f0.len;omega) rfl ?_;refine N1a rfl rfl ?_;refine g0a b0 y5b rfl rfl (v6b l M _ _ _ _ _ (RdS.keepW y0 (b0.keep0 M) (U0a.keep (b0.keep0 M))) O6c (fun w' hk a ha F0=>p2b p t a.cell g3 g8 M w' _ _ (hP.keep ((b0.keep0 M).trans hk)) ((b0.cells 2 rfl).keep hk (Q0a hM (b0.new 2 rfl))) (hk.cell (a:=⟨g8,0,none⟩) (Q0a hM (b0.new 0 rfl)) (b0.cell 0 rfl rfl)) (z0.keep (h0.of_nil.trans hk)) F0 (u0 a ha).1 (u0 a ha).2.1 (u0 a ha).2.2)) ?_;intro Z0 B0 T0;exact lT rfl ⟨⟩ rfl ⟨rfl,B0.fin⟩
def H6b(k:Int):Nat:=if k=1 then 212 else if k=2 then 213 else if k=3 then 214 else if k=4 then 215 else if k=5 then 216 else if k=6 then 217 else 218
def m0c:Array Value:=#[.nilFunc,.func (.func 212) #[] #[],.func (.func 213) #[] #[],.func (.func 214) #[] #[],.func (.func 215) #[] #[],.func (.func 216) #[] #[],.func (.func 217) #[] #[],.func (.func 218) #[] #[]]
theorem S5c(p:f0a)(t:Nat)(x:X0a)(s:y1a)(M:List Nat)(w0:World)(cs ss:List Value)(h:e8a p t x s M w0 cs ss):
 M0a Tryz.prog (H6b s.kind) #[.agg cs.toArray,.int .i64 t,.agg ss.toArray] w0 fun v w'=>v=.bool true∧Below w0.heap.size w0 w':=by
 have hk:=h.sok.kind;rcases(show s.kind=1∨s.kind=2∨s.kind=3∨s.kind=4∨s.kind=5∨s.kind=6∨s.kind=7 by omega) with e|e|e|e|e|e|e<;>rw[e]
 ·exact L4b p t x s M w0 cs ss h e
 ·exact T5b p t x s M w0 cs ss h e
 ·exact p4b p t x s M w0 cs ss h e
 ·exact k3b p t x s M w0 cs ss h e
 ·exact S4b p t x s M w0 cs ss h (by omega)
 ·exact m4b p t x s M w0 cs ss h e
 ·exact y0b p t x s M w0 cs ss h (by omega)
theorem N8b{k:Int}:Has Tryz.prog (H6b k):=by
 unfold H6b
 repeat' split
 ·exact X5c
 ·exact N5c
 ·exact d8c
 ·exact V5c
 ·exact F5c
 ·exact n7c
 ·exact a1c
theorem G1c{k:Int}(h1:1≤k)(h7:k≤7):m0c.extract (k.toNat*1) (k.toNat*1+1)=#[.func (.func (H6b k)) #[] #[]]:=by
 rcases(show k=1∨k=2∨k=3∨k=4∨k=5∨k=6∨k=7 by omega) with e|e|e|e|e|e|e<;>subst e<;>rfl
theorem A3c(wz:World):M0a Tryz.prog 203 #[] wz fun v w'=>v=.agg m0c∧Below wz.heap.size wz w':=by
 have S:=St.refl wz;refine a0a Tryz.func203 rfl Tryz.ntmps203 rfl ?_;refine wO0 rfl ⟨⟩ (m0a S Q8c rfl rfl ?_);intro g0 w0 S0 X0 G0;refine lO0 rfl ⟨⟩ (f1a A7a (vs:=[(0,.func _ _ _)]) (cs:=[_]) rfl rfl rfl rfl ?_);refine f1a A7a (vs:=[(0,.func _ _ _)]) (cs:=[_]) rfl rfl rfl rfl ?_;refine f1a A7a (vs:=[(0,.func _ _ _)]) (cs:=[_]) rfl rfl rfl rfl ?_;refine f1a A7a (vs:=[(0,.func _ _ _)]) (cs:=[_]) rfl rfl rfl rfl ?_;refine f1a A7a (vs:=[(0,.func _ _ _)]) (cs:=[_]) rfl rfl rfl rfl ?_;refine f1a A7a (vs:=[(0,.func _ _ _)]) (cs:=[_]) rfl rfl rfl rfl ?_;refine f1a A7a (vs:=[(0,.func _ _ _)]) (cs:=[_]) rfl rfl rfl rfl ?_;refine k1a (v:=.agg m0c) (w':=w0) rfl rfl rfl (by simp) (by kernel_rfl) ?_
 first|refine e0a (kk:=0) (vs:=[_,_,_,_,_,_,_,_]) S0 I9c rfl rfl rfl rfl rfl rfl rfl ?_
 intro d0 a0 b0;dsimp only[k0a,List.set] at a0;refine lR0 rfl ⟨⟩ ?_;exact n1a (n:=8) rfl (u2a (by rw[Tryz.underlying253];simp) (by kernel_rfl)) rfl (a0.cells 0 rfl) rfl ⟨rfl,a0.fin⟩
section
variable {P:Program} {N:Nat} {ops:Array Oper} {C:World→Prop} {rest:List Oper} {K:Env→Prop} {e:Env} {d:Nat} {t:TypeId} {p:String} {af:Array Edge} {x y:Operand} {kd:IntKind} {a:Int}
theorem r3c{ty len el size:Nat}{cs a0:Array Value}(hu:P.underlying ty=some (.array len el))(b0:∀w:World,(sizeOf el).run P w=.ok size w)(ha:∀w:World,(isAgg el).run P w=.ok true w)(hx:ev e x=.agg cs)(hy:ev e y=.int kd a)(h0:0≤a)(h1:a<len)(hv:cs.extract (a.toNat*size) (a.toNat*size+size)=a0)(hd:Nat.ble (d+1) N=true)
 (h:QL P N ops C rest K (upd e d (.agg a0))):QL P N ops C (⟨some d,.index ty x y,t,p,af,none⟩::rest) K e :=
 C3a rfl rfl hd (fun w _=>by simp[execOp,Instr.index,hx,hy,asIntOf,run_underlying hu,h0,h1,b0,part,ha,hv]) h
end
theorem V8a{M:List Nat}{w:World}{g:Nat}(hM:∀g∈M,g<w.heap.size)(h:w.heap.size≤g):g∉M:=fun hh=>by have:=hM g hh;omega
theorem X9b:∀w:World,(sizeOf 252).run Tryz.prog w=.ok 1 w:=fun _=>by kernel_rfl
theorem V3c:∀w:World,(isAgg 252).run Tryz.prog w=.ok true w:=fun _=>by kernel_rfl
theorem y3c(p:f0a)(t:Nat)(x:X0a)(s:y1a)(M:List Nat)(w0:World)(cs ss ts:List Value)(h:e8a p t x s M w0 cs ss)(hT:N0a M w0 ts x)(a2:1≤x.points)(G1:x.points≤48):
 M0a Tryz.prog 169 #[.agg cs.toArray,.int .i64 t,.agg ts.toArray,.agg ss.toArray] w0 fun v w'=>v=.int .i64 0∧Below w0.heap.size w0 w':=by
 obtain⟨hP,hS,hp,h0,hK,hM⟩:=h;obtain⟨Ac,nc,cc,Am,nm,cm,Al,nl,cl,At,nt,ct,rfl,hC,_,_,_,_,_,_,_,_,_,_,_⟩:=hP.open_;obtain⟨Ag,ng,cg,As,ns,z0,rfl,⟨_,_,_,_,_⟩,hG,V0,_,_⟩:=hS.open_;obtain⟨A0,f1,N0,C0,h1,P0,D0,i1,Q0,B0,g1,O0,rfl,_,_,_,_,_,_,_,_,_,_,_,_,_⟩:=hT.open_;have S:=St.refl w0;have F1:∀w':World,w0.heap.size≤w'.heap.size→∀g∈M,g<w'.heap.size:=fun w' h g hg=>by have:=hM g hg;omega
 have k0:=h0.kind;have k1:=h0.frm;have k2:=h0.to;have k3:=h0.mod;have k4:=h0.rel;have k5:=h0.tgt;have k6:=h0.guard;unfold D2a at k3;have X0:s.set.Pairwise fun a b=>Value.int .i64 a.cell≠.int .i64 b.cell:=h0.once.imp fun h e=>h (by injection e);refine a0a Tryz.func169 rfl Tryz.ntmps169 rfl ?_;refine wO0 rfl ⟨⟩ (h0a S (by conv=>lhs;whnf) rfl ?_);intro g4 w4 S4 X4 G4;refine h0a S4 (by conv=>lhs;whnf) rfl ?_;intro g6 w6 S6 X6 G6;refine h0a S6 (by conv=>lhs;whnf) rfl ?_;intro g7 w7 S7 X7 G7;refine lCn 3 S7.k [] rfl ⟨⟩ (wX (fun D ε w=>D=[]∧∃K0:Bool,(s.kind=6∨s.kind=7→K0=true)∧St [] w0 w [(some g7,97,[.int .i64 s.kind,.int .i64 s.frm,.int .i64 s.to,.int .i64 s.guard.op,.int .i64 s.guard.w,.int .i64 s.guard.n,.slice Ag ng cg,.slice As ns z0,.bool s.release,.int .i64 s.target,.int .i64 s.module_]),(some g6,93,[.string x.name,.int .i64 x.points,.slice A0 f1 N0,.slice C0 h1 P0,.slice D0 i1 Q0,.slice B0 g1 O0,.bool x.asleep]),(some g4,195,[.slice Ac nc cc,.slice Am nm cm,.slice Al nl cl,.slice At nt ct])]∧Sl ε [(1,.int .i64 t),(4,.pointer (some ⟨g4,0,none⟩)),(6,.pointer (some ⟨g6,0,none⟩)),(7,.pointer (some ⟨g7,0,none⟩)),(9,.bool K0)]) ?_ ?_)
 ·refine wB S7.k [.o 0] rfl ⟨rfl,⟨⟩⟩ (fun A1=>?_) fun A1=>?_
  ·refine lP0 rfl ⟨⟩ ⟨rfl,(_),?_,S7,rfl⟩;exact fun _=>rfl
  refine lB S7.k [.o 0] rfl ⟨rfl,⟨⟩⟩ (fun B1=>?_) fun B1=>?_
  ·refine lP0 rfl ⟨⟩ ⟨rfl,(_),?_,S7,rfl⟩;exact fun _=>rfl
  refine lP0 rfl ⟨⟩ ⟨rfl,(_),?_,S7,rfl⟩;exact fun h=>absurd h (by omega)
 rintro D ε w ⟨rfl,K0,t0,S,eZ⟩;refine wK eZ (wX (fun D ε w=>D=[]∧St [] w0 w [(some g7,97,[.int .i64 s.kind,.int .i64 s.frm,.int .i64 s.to,.int .i64 s.guard.op,.int .i64 s.guard.w,.int .i64 s.guard.n,.slice Ag ng cg,.slice As ns z0,.bool s.release,.int .i64 s.target,.int .i64 s.module_]),(some g6,93,[.string x.name,.int .i64 x.points,.slice A0 f1 N0,.slice C0 h1 P0,.slice D0 i1 Q0,.slice B0 g1 O0,.bool x.asleep]),(some g4,195,[.slice Ac nc cc,.slice Am nm cm,.slice Al nl cl,.slice At nt ct])]∧Sl ε [(1,.int .i64 t),(4,.pointer (some ⟨g4,0,none⟩)),(7,.pointer (some ⟨g7,0,none⟩))]) ?_ ?_)
 ·refine wB S.k [.o 0] rfl ⟨rfl,⟨⟩⟩ (fun C1=>by exfalso;omega) fun C1=>?_;refine lB S.k [.o 0] rfl ⟨rfl,⟨⟩⟩ (fun D1=>by exfalso;omega) fun D1=>?_;refine lO S.k [.o 0,.o 1] rfl ⟨by omega,rfl,rfl,⟨⟩⟩ (g0a S k3a rfl rfl ((show decide (0≤s.frm∧s.frm<x.points-1)=true from decide_eq_true (by omega))▸y2a _ _ _) ?_);intro f2 p1 T1;refine lO p1.k [.o 0,.o 1] rfl ⟨rfl,rfl,⟨⟩⟩ (g0a p1 k3a rfl rfl ((show decide (0≤s.to∧s.to<x.points)=true from decide_eq_true (by omega))▸y2a _ _ _) ?_);intro g2 r1 U1;refine lO r1.k [.o 0,.o 2] rfl ⟨rfl,rfl,⟨⟩⟩ (g0a r1 k3a rfl rfl ((show decide (0≤s.module_∧s.module_<(nm:Int))=true from decide_eq_true (by omega))▸y2a _ _ _) ?_);intro h2 b0 V1;refine lO0 rfl ⟨⟩ ?_;rcases(Bool.eq_false_or_eq_true (s.release)).symm with i0|i0
  ·refine s0a m2a rfl (by exact(b0.cell 0 rfl rfl).trans (congrArg (fun b=>some (Value.bool b)) i0)) rfl ?_;refine lB b0.k [.o 0] rfl ⟨rfl,⟨⟩⟩ (fun r0=>?_) fun r0=>?_
   ·refine lOn 1 b0.k [] rfl ⟨⟩ (s6b rfl rfl rfl ?_);have g0:=t0 (k5 r0);subst g0;refine Z0a (v:=.bool true) rfl rfl ?_;refine lB b0.k [.o 0] rfl ⟨rfl,⟨⟩⟩ (fun n0=>by exfalso;omega) fun n0=>?_;refine lO b0.k [.o 0,.o 2] rfl ⟨rfl,rfl,⟨⟩⟩ (g0a b0 O7a rfl rfl (k6.1▸S2a s.guard M _ _ _ p.cells false (RdE.keep (b0.keep0 M) _ _ hG) (hC.keep (b0.keep0 M)) (hK.keep (b0.keep0 M))) ?_);intro m1 j0 I0;refine lP0 rfl ⟨⟩ ⟨rfl,j0,rfl⟩
   refine lB b0.k [.o 0] rfl ⟨rfl,⟨⟩⟩ (fun n0=>by exfalso;omega) fun n0=>?_;refine lO b0.k [.o 0,.o 2] rfl ⟨rfl,rfl,⟨⟩⟩ (g0a b0 O7a rfl rfl (k6.1▸S2a s.guard M _ _ _ p.cells false (RdE.keep (b0.keep0 M) _ _ hG) (hC.keep (b0.keep0 M)) (hK.keep (b0.keep0 M))) ?_);intro m1 j0 I0;refine lP0 rfl ⟨⟩ ⟨rfl,j0,rfl⟩
  refine s0a m2a rfl (by exact(b0.cell 0 rfl rfl).trans (congrArg (fun b=>some (Value.bool b)) i0)) rfl ?_;refine lB b0.k [.o 0] rfl ⟨rfl,⟨⟩⟩ (fun t1=>by exact absurd (k4 i0) t1) (fun t1=>?_);refine lB b0.k [.o 0] rfl ⟨rfl,⟨⟩⟩ (fun r0=>?_) fun r0=>?_
  ·refine lOn 1 b0.k [] rfl ⟨⟩ (s6b rfl rfl rfl ?_);have g0:=t0 (k5 r0);subst g0;refine Z0a (v:=.bool true) rfl rfl ?_;refine lB b0.k [.o 0] rfl ⟨rfl,⟨⟩⟩ (fun n0=>by exfalso;omega) fun n0=>?_;refine lO b0.k [.o 0,.o 2] rfl ⟨rfl,rfl,⟨⟩⟩ (g0a b0 O7a rfl rfl (k6.1▸S2a s.guard M _ _ _ p.cells false (RdE.keep (b0.keep0 M) _ _ hG) (hC.keep (b0.keep0 M)) (hK.keep (b0.keep0 M))) ?_);intro m1 j0 I0;refine lP0 rfl ⟨⟩ ⟨rfl,j0,rfl⟩
  refine lB b0.k [.o 0] rfl ⟨rfl,⟨⟩⟩ (fun n0=>by exfalso;omega) fun n0=>?_;refine lO b0.k [.o 0,.o 2] rfl ⟨rfl,rfl,⟨⟩⟩ (g0a b0 O7a rfl rfl (k6.1▸S2a s.guard M _ _ _ p.cells false (RdE.keep (b0.keep0 M) _ _ hG) (hC.keep (b0.keep0 M)) (hK.keep (b0.keep0 M))) ?_);intro m1 j0 I0;refine lP0 rfl ⟨⟩ ⟨rfl,j0,rfl⟩
 rintro D ε w ⟨rfl,S,eZ⟩;refine wK eZ (wO0 rfl ⟨⟩ ?_);refine G4a (k:=3) S rfl ?_;intro R0 i2 s1 W1 R1 a0;have Y0:w0.heap.size≤R0:=by have:=S.size;omega
 refine lC s1.k [.o 0] rfl ⟨rfl,⟨⟩⟩ (wL (fun μk D ε w=>D=[]∧∃k:Nat,(k+μk=(s.set.length))∧(B3a Tryz.prog 3 w R0 (Z4a ((s.set.take k).map fun c=>.int .i64 c.cell)))∧St [] w0 w [(some g7,97,[.int .i64 s.kind,.int .i64 s.frm,.int .i64 s.to,.int .i64 s.guard.op,.int .i64 s.guard.w,.int .i64 s.guard.n,.slice Ag ng cg,.slice As ns z0,.bool s.release,.int .i64 s.target,.int .i64 s.module_]),(some g6,93,[.string x.name,.int .i64 x.points,.slice A0 f1 N0,.slice C0 h1 P0,.slice D0 i1 Q0,.slice B0 g1 O0,.bool x.asleep]),(some g4,195,[.slice Ac nc cc,.slice Am nm cm,.slice Al nl cl,.slice At nt ct])]∧Sl ε [(1,.int .i64 t),(4,.pointer (some ⟨g4,0,none⟩)),(7,.pointer (some ⟨g7,0,none⟩)),(10,.map (some R0)),(81,.slice As ns z0),(82,.int .i64 ns),(83,.int .i64 k)]) (μ:=(s.set.length)) ⟨rfl,0,by omega,(by simpa[Z4a] using a0),s1,rfl⟩ ?_);rintro μk D ε w ⟨rfl,k,_,a0,S,eZ⟩;refine wK eZ (wB0 rfl ⟨⟩ (fun E1=>?_) fun E1=>?_)
 ·obtain⟨a,z1,I1,_,b1,T0,_,Z0,W0,a1⟩:=RdS.get (V0) (k) (by omega);obtain⟨_,_,_,rfl,d1,U0⟩:=U0a.open_ a1;have q1:=h0.set a (c0a b1);have q2:=q1.1;unfold D2a at q2;have q3:=q1.2.2;refine lO (S.k.a W0) [.x z1 I1,.v 0] rfl ⟨⟨rfl,Z0⟩,⟨T0,by omega⟩,⟨⟩⟩ (m0a S c8a rfl rfl ?_);intro Y1 b2 n1 x1 P1;replace a0:=a0.keep x1 (List.not_mem_nil);refine e0a (kk:=0) (vs:=[_,_,_,_,_]) n1 d8a rfl rfl rfl rfl rfl rfl rfl ?_;intro u1 d0 p0;dsimp only[k0a,List.set] at d0;replace a0:=a0.keep p0 (fun hh=>by rw[List.mem_singleton] at hh;exact a0.ne (n1.blk 0 rfl) hh);refine lO d0.k [.o 0] rfl ⟨rfl,⟨⟩⟩ ?_;have v0:=O4c d1;have x0:=q4a X0 b1;refine C6a (Go.Maps.int_keyed Tryz.underlying3) Tryz.underlying227 W1b a0 rfl rfl v0 rfl (fun v hv=>absurd rfl (A5a x0 _ hv)) (fun _=>?_);refine lO0 rfl ⟨⟩ (m0a d0 W1b rfl rfl ?_);intro Z1 d2 o1 y1 Q1;replace a0:=a0.keep y1 (List.not_mem_nil);refine e0a (kk:=0) (vs:=[]) o1 V8b rfl rfl rfl rfl rfl rfl rfl ?_;intro v1 e0 q0;dsimp only[k0a,List.set] at e0;replace a0:=a0.keep q0 (fun hh=>by rw[List.mem_singleton] at hh;exact a0.ne (o1.blk 0 rfl) hh);refine lO e0.k [.o 1,.o 4] rfl ⟨rfl,rfl,⟨⟩⟩ (g0a e0 k3a rfl rfl ((show decide (0≤a.cell∧a.cell<(nc:Int))=true from decide_eq_true (by omega))▸y2a _ _ _) ?_);intro K1 o0 H0;replace a0:=a0.keep H0 (List.not_mem_nil);refine lO o0.k [.o 1] rfl ⟨rfl,⟨⟩⟩ (f1a B6b (vs:=[]) (cs:=[]) rfl rfl rfl rfl ?_);refine m8a (key:=.int .i64 a.cell) (v:=.agg #[]) o0 (Go.Maps.int_keyed Tryz.underlying3) Tryz.underlying227 a0 rfl rfl rfl v0 (A5a x0) (.inl Y0) ?_;intro wm Sm Xm Mm;clear a0;have a0:=Mm;refine lC0 rfl ⟨⟩ (v0a b0a [0,1,2,3,4,5,6,7,8,9,10,11,12,13,14,15,16,17,18,19,20] [] [] (by kernel_rfl) rfl (Cl _ _ _ _) (Cl.start Sm) ?_);obtain⟨c,L0,j1,_,H1,s0,_,_,u0,y0⟩:=RdS.get (hC) (a.cell.toNat) (by omega);obtain⟨rfl,_,_,_,_⟩:=F2a.open_ y0;rw[i5a q2.1 H1] at q3;refine qB (Sm.q.a u0) [.o 1,.o 4,.o 1,.x L0 j1,.f 0 1] rfl ⟨rfl,⟨s0,by omega⟩,rfl,rfl,rfl,⟨⟩⟩ (fun S0=>by exfalso;omega) fun S0=>?_;refine qO Sm.q [.o 1,.o 4] rfl ⟨rfl,rfl,⟨⟩⟩ (r1a O7a rfl rfl (fun w1 S1 X1=>q1.2.1▸S2a a.to M _ _ _ p.cells false (RdE.keep (S1.keep0 M) _ _ U0) (hC.keep (S1.keep0 M)) (hK.keep (S1.keep0 M))) ?_);refine qD rfl ⟨⟩ ?_;rintro N1 ⟨G0,J0⟩;replace a0:=a0.keep J0 (List.not_mem_nil);refine lP0 rfl ⟨by omega,⟨⟩⟩ ?_;refine⟨μk-1,by omega,rfl,(k+1),(by omega),((by rw[H0a b1,List.map_append,List.map_singleton,R8a];exact a0)),G0.tail.tail,rfl⟩
 refine lC0 rfl ⟨⟩ (v0a b0a [0,1,2,3,4,5,6,7] [] [8,9] (by kernel_rfl) rfl (Cl _ _ _ _) (Cl.start S) ?_);refine r1a C7c rfl rfl (fun w1 S1 X1=>A3c _) ?_;refine qO S.q [.o 0] rfl ⟨rfl,⟨⟩⟩ (r3c Tryz.underlying253 X9b V3c rfl rfl (by omega) (by omega) (G1c (by omega) (by omega)) rfl ?_);refine qN S.q [.w 2,.w 0] rfl ⟨⟨rfl,rfl⟩,⟨rfl,rfl⟩,⟨⟩⟩ (V3a ?_);refine R1a ?_;rintro O1 ⟨f0,_⟩;refine r2b N8b rfl rfl rfl (S5c p t x s M _ _ _ ⟨hP.keep (f0.keep0 M),q2a.keep (f0.keep0 M) _ _ hS,hp,h0,hK.keep (f0.keep0 M),F1 _ f0.size⟩) ?_;rintro J1 M1 ⟨rfl,E0⟩;have F0:=f0.later E0;exact lT rfl ⟨⟩ rfl ⟨rfl,F0.fin⟩
theorem B8b(c:Int)(g:Nat)(w0:World)(Ac Am Al At:Option Addr)(nc cc nm cm nl cl nt ct:Nat)(hg:t1a w0 g 0 [.slice Ac nc cc,.slice Am nm cm,.slice Al nl cl,.slice At nt ct]):
 M0a Tryz.prog 167 #[.int .i64 c,.pointer (some ⟨g,0,none⟩)] w0 fun v w'=>v=.bool (decide (0≤c∧c<(nm:Int)))∧Below w0.heap.size w0 w':=by
 have S:=St.refl w0;refine a0a Tryz.func167 rfl Tryz.ntmps167 rfl ?_;refine wO0 rfl ⟨⟩ (s0a h5c rfl (by first|exact S.old (hg 1 _ rfl)) rfl ?_);refine lO0 rfl ⟨⟩ (C0a S k3a rfl rfl (y2a _ _ _) (fun h9 w9 S9 X9=>?_) (fun h9 w9 S9 X9=>?_))
 ·refine lR0 rfl ⟨⟩ (o0a rfl (by conv=>lhs;whnf) ?_);exact⟨by rw[h9],S9.fin⟩
 refine lR0 rfl ⟨⟩ (o0a rfl (by conv=>lhs;whnf) ?_);exact⟨by rw[h9],S9.fin⟩
theorem O8b(c a0 hd:Int)(g g':Nat)(w0:World)(hg:w0.cell? ⟨g,1,none⟩=some (.int .i64 a0))(d0:w0.cell? ⟨g',0,none⟩=some (.int .i64 hd)):
 M0a Tryz.prog 170 #[.int .i64 c,.pointer (some ⟨g,0,none⟩),.pointer (some ⟨g',0,none⟩)] w0 fun v w'=>v=.bool (decide ((0≤c∧c<a0)∧c≠hd))∧Below w0.heap.size w0 w':=by
 have S:=St.refl w0;refine a0a Tryz.func170 rfl Tryz.ntmps170 rfl ?_;refine wO0 rfl ⟨⟩ (s0a K0a rfl (by exact S.old hg) rfl ?_);refine C0a S k3a rfl rfl (y2a _ _ _) (fun h8 w8 S8 X8=>?_) (fun h8 w8 S8 X8=>?_)
 ·refine lO0 rfl ⟨⟩ (s0a K0a rfl (by exact S8.old d0) rfl ?_);refine lB0 rfl ⟨⟩ (fun b0=>?_) fun b0=>?_
  ·refine lT rfl ⟨⟩ rfl ⟨congrArg Value.bool ?_,S8.fin⟩;exact(decide_eq_true ⟨of_decide_eq_true h8,by omega⟩).symm
  refine lT rfl ⟨⟩ rfl ⟨congrArg Value.bool ?_,S8.fin⟩;exact(decide_eq_false fun h=>by omega).symm
 refine lT rfl ⟨⟩ rfl ⟨congrArg Value.bool ?_,S8.fin⟩;exact(decide_eq_false fun h=>of_decide_eq_false h8 h.1).symm
theorem P1b(M:List Nat)(w0:World)(v vf:Value)(l:List Int)(q:Int→Bool)(hR:RdI M w0 v l)(hp:A2a Tryz.prog M w0 vf q)(hM:∀g∈M,g<w0.heap.size)(hq:∀c∈l,q c=true):
 M0a Tryz.prog 166 #[v,vf] w0 fun v w'=>v=.bool true∧Below w0.heap.size w0 w' :=
 (p6a M w0 v vf l q hR hp hM).mono fun v w' h=>⟨by rw[h.1,List.all_eq_true.2 hq],h.2⟩
def D1d(nm:Nat)(c:Int):Bool:=decide (0≤c∧c<(nm:Int))
def Y8c(pts hd c:Int):Bool:=decide ((0≤c∧c<pts)∧c≠hd)
theorem K3b{g:Nat}{M:List Nat}{w0:World}{Ac Am Al At:Option Addr}{nc cc nm cm nl cl nt ct:Nat}(hg:t1a w0 g 0 [.slice Ac nc cc,.slice Am nm cm,.slice Al nl cl,.slice At nt ct])(hM:g∉M):
 A2a Tryz.prog M w0 (.func (.func 167) #[] #[.pointer (some ⟨g,0,none⟩)]) (D1d nm) :=
 ⟨_,_,_,rfl,H5c,fun w' hk c _=>B8b c g w' Ac Am Al At nc cc nm cm nl cl nt ct (hg.keep hk hM)⟩
theorem I4b{g g':Nat}{M:List Nat}{w0:World}{a0 hd:Int}(hg:w0.cell? ⟨g,1,none⟩=some (.int .i64 a0))(d0:w0.cell? ⟨g',0,none⟩=some (.int .i64 hd))(hM:g∉M)(b0:g'∉M):
 A2a Tryz.prog M w0 (.func (.func 170) #[] #[.pointer (some ⟨g,0,none⟩),.pointer (some ⟨g',0,none⟩)]) (Y8c a0 hd) :=
 ⟨_,_,_,rfl,A7c,fun w' hk c _=>O8b c a0 hd g g' w' (hk.cell (a:=⟨g,1,none⟩) hM hg) (hk.cell (a:=⟨g',0,none⟩) b0 d0)⟩
theorem i8b(p:f0a)(t:Nat)(x:X0a)(b:Nat)(l:List Value)(M:List Nat)(w0:World)(cs ts:List Value)(hP:q1a M w0 p cs)(hT:N0a M w0 ts x)(hp:d1a p)(hK:q3a M w0)(hM:∀g∈M,g<w0.heap.size)(hb:b∈M)
 (hx:p.threads[t]?=some x) (hm:B3a Tryz.prog 9 w0 b (Z4a l)) (p1:Value.string x.name∉l) :
 M0a Tryz.prog 135 #[.agg cs.toArray,.int .i64 t,.agg ts.toArray,.map (some b)] w0 fun v w'=>v=.tuple #[.int .i64 0,.int .i64 (-1)]∧F0a [b] w0 w'∧B3a Tryz.prog 9 w' b (Z4a (l++[.string x.name])):=by
 obtain⟨Ac,nc,cc,Am,nm,cm,Al,nl,cl,At,nt,ct,rfl,hC,_,_,_,_,_,_,_,_,_,_,_⟩:=hP.open_;obtain⟨H0,E0,L0,Q0,t1,T0,J0,G0,O0,I0,F0,N0,rfl,_,X0,f1,g1,Z0,_,_,_,_,_,_,_,_⟩:=hT.open_;have S:=St.reflM [b] w0;have b0:∀g∈[b],g∈M:=fun g hg=>by rw[List.mem_singleton] at hg;subst hg;exact hb
 have u0:∀w':World,w0.heap.size≤w'.heap.size→∀g∈M,g<w'.heap.size:=fun w' h g hg=>by have:=hM g hg;omega
 have j0:=hp.thread hx;have k1:=j0.points;have k2:=j0.asserts;have k3:=j0.nmod;have i2:x.name.size≤140737488355328:=by have:=j0.name.2.1;omega
 refine a0a Tryz.func135 rfl Tryz.ntmps135 rfl ?_;refine wO0 rfl ⟨⟩ (h0a S (by conv=>lhs;whnf) rfl ?_);intro g4 w4 S4 X4 G4;replace hm:=hm.keep X4 (List.not_mem_nil);refine h0a S4 (by conv=>lhs;whnf) rfl ?_;intro g6 w6 S6 X6 G6;replace hm:=hm.keep X6 (List.not_mem_nil);refine lO S6.k [.o 0] rfl ⟨rfl,⟨⟩⟩ (g0a S6 b3b rfl rfl (T7a _ _ j0.name) ?_);intro C2 x1 Q1;replace hm:=hm.keep Q1 (List.not_mem_nil);refine lO x1.k [.o 0] rfl ⟨rfl,⟨⟩⟩ ?_;have h2:w0.heap.size≤g6:=by have:=S4.size;omega
 refine c2a i2b rfl rfl (K9a b _ x.name _ hm i2 p1) ?_;rintro x2 D2 ⟨rfl,I1,N1⟩;have n0:=x1.turned hm (.inr (by simp)) I1;clear hm;have hm:=N1;refine lB n0.k [.o 0] rfl ⟨rfl,⟨⟩⟩ (fun Y1=>by exfalso;omega) fun Y1=>?_;refine lB n0.k [.o 0,.o 0] rfl ⟨rfl,rfl,⟨⟩⟩ (fun Z1=>by exfalso;omega) fun Z1=>?_;refine lB n0.k [.o 0,.o 0] rfl ⟨rfl,rfl,⟨⟩⟩ (fun a2=>by exfalso;omega) fun a2=>?_;refine lO n0.k [.o 0] rfl ⟨rfl,⟨⟩⟩ (N1a rfl rfl ?_);refine g0a n0 S8a rfl rfl (P1b M _ _ _ x.modules (D1d nm) (f1.keep (n0.keepM.mono b0)) (K3b (n0.cells 1 rfl) (V8a hM G4)) (u0 _ n0.size) (fun c hc=>decide_eq_true (by have:=j0.modules c hc;unfold D2a at this;omega))) ?_;intro E2 K0 R1;replace hm:=hm.keep R1 (List.not_mem_nil);refine lO K0.k [.w 1] rfl ⟨⟨rfl,rfl⟩,⟨⟩⟩ (x0a K0 j6b rfl rfl (r7a p t M _ _ (hP.keep (K0.keepM.mono b0)) (u0 _ K0.size)) ?_);rintro y2 P0 hq y1 T1;replace hm:=hm.keep T1 (List.not_mem_nil);obtain⟨f,first,caps,rfl,_,_⟩:=id hq;have a0:=y0a.refl [] P0;refine lC y1.k [.o 0] rfl ⟨rfl,⟨⟩⟩ (wL (fun μk D ε w=>D=[]∧∃k:Nat,(k+μk=(x.asserts.length))∧(B3a Tryz.prog 9 w b (Z4a (l++[.string x.name])))∧(y0a [] P0 w)∧St [b] w0 w [(some g6,93,[.string x.name,.int .i64 x.points,.slice H0 E0 L0,.slice Q0 t1 T0,.slice J0 G0 O0,.slice I0 F0 N0,.bool x.asleep]),(some g4,195,[.slice Ac nc cc,.slice Am nm cm,.slice Al nl cl,.slice At nt ct])]∧Sl ε [(1,.int .i64 t),(4,.pointer (some ⟨g4,0,none⟩)),(6,.pointer (some ⟨g6,0,none⟩)),(10,.func (.func f) first caps),(55,.slice H0 E0 L0),(56,.int .i64 E0),(57,.int .i64 k)]) (μ:=(x.asserts.length)) ⟨rfl,0,by omega,hm,a0,y1,rfl⟩ ?_);rintro μk D ε w ⟨rfl,k,hk,hm,a0,S,eZ⟩;refine wK eZ (wB0 rfl ⟨⟩ (fun b2=>?_) fun b2=>?_)
 ·obtain⟨e,U1,n2,_,j2,U0,a1,m1,h1,C0⟩:=RdS.get (X0) (k) (by omega);obtain⟨_,_,_,rfl,_,_,_,_,_⟩:=RdE.cells C0;have q1:=j0.truth e (c0a j2);refine lO (S.k.b (h1.keep (S.keepM.mono b0) a1)) [.x U1 n2,.v 0] rfl ⟨⟨rfl,m1⟩,⟨U0,by omega⟩,⟨⟩⟩ (m0a S j8a rfl rfl ?_);intro v2 z2 u1 z1 J1;have r0:=Nat.le_trans a0.size J1;replace a0:=a0.trans z1;replace hm:=hm.keep z1 (List.not_mem_nil);refine e0a (kk:=0) (vs:=[_,_,_,_]) u1 t6a rfl rfl rfl rfl rfl rfl rfl ?_;intro F1 e0 o0;dsimp only[k0a,List.set] at e0;replace a0:=a0.fresh o0 (by first|exact r0);replace hm:=hm.keep o0 (fun hh=>by rw[List.mem_singleton] at hh;exact hm.ne (u1.blk 0 rfl) hh);refine lO e0.k [.w 2,.w 0] rfl ⟨⟨rfl,by rfl⟩,⟨rfl,rfl⟩,⟨⟩⟩ (g0a e0 Q9a rfl rfl (L0b p e M _ _ _ false _ (R2b p t) (hP.keep (e0.keepM.mono b0)) (RdE.keep (e0.keepM.mono b0) _ _ C0) (hq.keep a0.of_nil) (hK.keep (e0.keepM.mono b0)) (u0 _ e0.size) q1.2.1 q1.1 (h2b hp q1.1 q1.2.2)) ?_);intro F2 O1 C1;replace a0:=a0.trans C1;replace hm:=hm.keep C1 (List.not_mem_nil);refine lP0 rfl ⟨by omega,⟨⟩⟩ ⟨μk-1,by omega,rfl,(k+1),(by omega),(hm),(a0),O1.tail,rfl⟩
 refine lC S.k [.o 0] rfl ⟨rfl,⟨⟩⟩ (wL (fun μk D ε w=>D=[]∧∃k:Nat,(k+μk=(x.steps.length))∧(B3a Tryz.prog 9 w b (Z4a (l++[.string x.name])))∧(y0a [] P0 w)∧St [b] w0 w [(some g6,93,[.string x.name,.int .i64 x.points,.slice H0 E0 L0,.slice Q0 t1 T0,.slice J0 G0 O0,.slice I0 F0 N0,.bool x.asleep]),(some g4,195,[.slice Ac nc cc,.slice Am nm cm,.slice Al nl cl,.slice At nt ct])]∧Sl ε [(1,.int .i64 t),(4,.pointer (some ⟨g4,0,none⟩)),(6,.pointer (some ⟨g6,0,none⟩)),(10,.func (.func f) first caps),(68,.slice J0 G0 O0),(69,.int .i64 G0),(70,.int .i64 k)]) (μ:=(x.steps.length)) ⟨rfl,0,by omega,hm,a0,S,rfl⟩ ?_);rintro μk D ε w ⟨rfl,k,hk,hm,a0,S,eZ⟩;refine wK eZ (wB0 rfl ⟨⟩ (fun d2=>?_) fun d2=>?_)
 ·obtain⟨s,V1,o2,_,m2,V0,b1,n1,i1,D0⟩:=RdS.get (g1) (k) (by omega);obtain⟨_,_,_,_,_,_,rfl,⟨_,_,_,_,_⟩,_,_,_,_⟩:=q2a.open_ D0;refine lO (S.k.b (i1.keep (S.keepM.mono b0) b1)) [.x V1 o2,.v 0] rfl ⟨⟨rfl,n1⟩,⟨V0,by omega⟩,⟨⟩⟩ (m0a S S5b rfl rfl ?_);intro w2 A2 v1 A1 K1;have s0:=Nat.le_trans a0.size K1;replace a0:=a0.trans A1;replace hm:=hm.keep A1 (List.not_mem_nil);refine lO0 rfl ⟨⟩ (e0a (kk:=0) (vs:=[_,_,_,_,_,_,_,_,_,_,_]) v1 x6b rfl rfl rfl rfl rfl rfl rfl ?_);intro G1 d0 p0;dsimp only[k0a,List.set] at d0;replace a0:=a0.fresh p0 (by first|exact s0);replace hm:=hm.keep p0 (fun hh=>by rw[List.mem_singleton] at hh;exact hm.ne (v1.blk 0 rfl) hh);refine lO d0.k [.w 2,.w 1,.w 0] rfl ⟨⟨rfl,by rfl⟩,⟨rfl,rfl⟩,⟨rfl,rfl⟩,⟨⟩⟩ (g0a d0 p5c rfl rfl (y3c p t x s M _ _ _ _ ⟨hP.keep (d0.keepM.mono b0),q2a.keep (d0.keepM.mono b0) _ _ D0,hp,j0.steps s (c0a m2),hK.keep (d0.keepM.mono b0),u0 _ d0.size⟩ (N0a.keep (d0.keepM.mono b0) _ _ hT) k1.1 k1.2) ?_);intro G2 P1 D1;replace a0:=a0.trans D1;replace hm:=hm.keep D1 (List.not_mem_nil);refine lB0 rfl ⟨⟩ (fun f2=>by exfalso;omega) fun f2=>?_;refine lP0 rfl ⟨by omega,⟨⟩⟩ ⟨μk-1,by omega,rfl,(k+1),(by omega),(hm),(a0),P1.tail,rfl⟩
 refine lC S.k [.o 0] rfl ⟨rfl,⟨⟩⟩ (wL (fun μk D ε w=>D=[]∧∃k:Nat,(k+μk=(x.loops.length))∧(B3a Tryz.prog 9 w b (Z4a (l++[.string x.name])))∧(y0a [] P0 w)∧St [b] w0 w [(some g6,93,[.string x.name,.int .i64 x.points,.slice H0 E0 L0,.slice Q0 t1 T0,.slice J0 G0 O0,.slice I0 F0 N0,.bool x.asleep]),(some g4,195,[.slice Ac nc cc,.slice Am nm cm,.slice Al nl cl,.slice At nt ct])]∧Sl ε [(4,.pointer (some ⟨g4,0,none⟩)),(6,.pointer (some ⟨g6,0,none⟩)),(10,.func (.func f) first caps),(86,.slice I0 F0 N0),(87,.int .i64 F0),(88,.int .i64 k)]) (μ:=(x.loops.length)) ⟨rfl,0,by omega,hm,a0,S,rfl⟩ ?_);rintro μk D ε w ⟨rfl,k,hk,hm,a0,S,eZ⟩;refine wK eZ (wB0 rfl ⟨⟩ (fun g2=>?_) fun g2=>?_)
 ·obtain⟨lp,W1,p2,_,s1,W0,d1,o1,j1,r1⟩:=RdS.get (Z0) (k) (by omega);obtain⟨_,_,_,_,_,_,rfl,_,A0,B0,_,_⟩:=E5a.open_ r1;have q1:=j0.loops lp (c0a s1);have q2:=q1.head;refine lO (S.k.b (j1.keep (S.keepM.mono b0) d1)) [.x W1 p2,.v 0] rfl ⟨⟨rfl,o1⟩,⟨W0,by omega⟩,⟨⟩⟩ (m0a S o9b rfl rfl ?_);intro X1 B2 w1 B1 M1;have t0:=Nat.le_trans a0.size M1;replace a0:=a0.trans B1;replace hm:=hm.keep B1 (List.not_mem_nil);refine e0a (kk:=0) (vs:=[_,_,_,_,_,_]) w1 M9b rfl rfl rfl rfl rfl rfl rfl ?_;intro H1 i0 q0;dsimp only[k0a,List.set] at i0;replace a0:=a0.fresh q0 (by first|exact t0);replace hm:=hm.keep q0 (fun hh=>by rw[List.mem_singleton] at hh;exact hm.ne (w1.blk 0 rfl) hh);refine lO0 rfl ⟨⟩ (N1a rfl rfl ?_);refine lO i0.k [.o 0,.o 1] rfl ⟨rfl,rfl,⟨⟩⟩ (g0a i0 k3a rfl rfl ((show decide (0≤lp.head∧lp.head<x.points)=true from decide_eq_true (by omega))▸y2a _ _ _) ?_);intro H2 S0 E1;replace a0:=a0.trans E1;replace hm:=hm.keep E1 (List.not_mem_nil);refine lO S0.k [.o 0] rfl ⟨rfl,⟨⟩⟩ (g0a S0 V5b rfl rfl (N5a M _ _ _ (A0.keep (S0.keepM.mono b0)) q1.up) ?_);intro r2 f0 v0;replace a0:=a0.trans v0;replace hm:=hm.keep v0 (List.not_mem_nil);refine lO f0.k [.o 0] rfl ⟨rfl,⟨⟩⟩ ?_;have Y0:w0.heap.size≤X1:=by have:=S.size;omega
  refine g0a f0 S8a rfl rfl (P1b M _ _ _ lp.body (Y8c x.points lp.head) (A0.keep (f0.keepM.mono b0)) (I4b (f0.cell 1 rfl rfl) (f0.cell 0 rfl rfl) (V8a hM h2) (V8a hM Y0)) (u0 _ f0.size) (fun c hc=>decide_eq_true (by have:=q1.body c hc;omega))) ?_;intro s2 g0 x0;replace a0:=a0.trans x0;replace hm:=hm.keep x0 (List.not_mem_nil);refine lO g0.k [.o 0,.o 2] rfl ⟨rfl,rfl,⟨⟩⟩ (g0a g0 O7a rfl rfl (q1.variant.1▸S2a lp.variant M _ _ _ p.cells false (RdE.keep (g0.keepM.mono b0) _ _ B0) (hC.keep (g0.keepM.mono b0)) (hK.keep (g0.keepM.mono b0))) ?_);intro t2 h0 y0;replace a0:=a0.trans y0;replace hm:=hm.keep y0 (List.not_mem_nil);refine lO h0.k [.o 0] rfl ⟨rfl,⟨⟩⟩ (g0a h0 H8a rfl rfl ((h2b hp q1.variant.1 q1.variant.2)▸G6a lp.variant M _ _ _ (R2b p t) (RdE.keep (h0.keepM.mono b0) _ _ B0) (hq.keep a0.of_nil) (hK.keep (h0.keepM.mono b0)) (u0 _ h0.size)) ?_);intro u2 R0 z0;replace a0:=a0.trans z0;replace hm:=hm.keep z0 (List.not_mem_nil);refine lP0 rfl ⟨by omega,⟨⟩⟩ ⟨μk-1,by omega,rfl,(k+1),(by omega),(hm),(a0),R0.tail,rfl⟩
 exact lT2 rfl ⟨⟩ rfl ⟨rfl,S.below,hm⟩
def A2b(k:Nat):Nat:=if k=0 then 132 else if k=1 then 133 else 134
def w5b(cs:Array Value):Array Value:=#[.func (.func 132) #[.agg cs] #[],.func (.func 133) #[.agg cs] #[],.func (.func 134) #[.agg cs] #[]]
theorem w8b{cs:Array Value}{k:Nat}(h:k<3):(w5b cs)[(k:Int).toNat]?=some (.func (.func (A2b k)) #[.agg cs] #[]):=by
 rcases(show k=0∨k=1∨k=2 by omega) with e|e|e<;>subst e<;>rfl
theorem z6b{k:Nat}:Has Tryz.prog (A2b k):=by
 unfold A2b
 repeat' split
 ·exact I6c
 ·exact H7c
 ·exact z5c
theorem m2c(k:Nat)(hk:k<3)(p:f0a)(M:List Nat)(w0:World)(cs:List Value)(hP:q1a M w0 p cs)(hp:d1a p)(hK:q3a M w0)(hM:∀g∈M,g<w0.heap.size):
 M0a Tryz.prog (A2b k) #[.agg cs.toArray] w0 fun v w'=>v=.int .i64 0∧Below w0.heap.size w0 w':=by
 rcases(show k=0∨k=1∨k=2 by omega) with e|e|e<;>subst e
 ·exact S9b p M w0 cs hP hp
 ·exact u5b p M w0 cs hP hp hK hM
 ·exact H9b p M w0 cs hP hp hK hM
theorem d0b(p:f0a)(M:List Nat)(w0:World)(cs:List Value)(hP:q1a M w0 p cs)(hp:d1a p)(hK:q3a M w0)(hM:∀g∈M,g<w0.heap.size):
 M0a Tryz.prog 100 #[.agg cs.toArray] w0 fun v w'=>v=.tuple #[.int .i64 0,.int .i64 (-1),.int .i64 (-1)]∧Below w0.heap.size w0 w':=by
 obtain⟨Ac,nc,cc,Am,nm,cm,Al,nl,cl,At,nt,ct,rfl,_,_,_,L0,_,_,_,_,_,_,_,_⟩:=hP.open_;have S:=St.refl w0;have x0:∀w':World,w0.heap.size≤w'.heap.size→∀g∈M,g<w'.heap.size:=fun w' h g hg=>by have:=hM g hg;omega
 have p0:p.threads.Pairwise fun a b=>Value.string a.name≠.string b.name:=hp.threadNames.imp fun h e=>h (by injection e);refine a0a Tryz.func100 rfl Tryz.ntmps100 rfl ?_;refine wO0 rfl ⟨⟩ (h0a S (by conv=>lhs;whnf) rfl ?_);intro g1 w1 S1 X1 G1;refine lO S1.k [.w 0] rfl ⟨⟨rfl,rfl⟩,⟨⟩⟩ (f1a M6c (vs:=[(0,.agg _)]) (cs:=[_,_,_,_]) rfl rfl rfl rfl ?_);refine m0a S1 N9c rfl rfl ?_;intro g5 w5 S5 X5 G5;refine e0a (kk:=0) (vs:=[_,_,_,_]) S5 Q9c rfl rfl rfl rfl rfl rfl rfl ?_;intro P0 e0 E0;dsimp only[k0a,List.set] at e0;refine lO e0.k [.w 0] rfl ⟨⟨rfl,rfl⟩,⟨⟩⟩ (g0a e0 z7c rfl rfl (H7b p M _ _ (hP.keep (e0.keep0 M)) hp) ?_);intro Q0 j0 T0;refine lB0 rfl ⟨⟩ (fun G0=>by exfalso;omega) fun G0=>?_;refine lO j0.k [.w 0] rfl ⟨⟨rfl,rfl⟩,⟨⟩⟩ (z2a rfl rfl rfl ?_);refine lO j0.k [.w 0] rfl ⟨⟨rfl,rfl⟩,⟨⟩⟩ (z2a rfl rfl rfl ?_);refine lO j0.k [.w 0] rfl ⟨⟨rfl,rfl⟩,⟨⟩⟩ (z2a rfl rfl rfl ?_);refine k1a (v:=.agg (w5b #[.slice Ac nc cc,.slice Am nm cm,.slice Al nl cl,.slice At nt ct])) (w':=Q0) rfl rfl rfl (by simp) (by kernel_rfl) ?_;refine lC0 rfl ⟨⟩ (wL (fun μk D ε w=>D=[]∧∃k:Nat,(k+μk=(3))∧St [] w0 w [(some g5,195,[.slice Ac nc cc,.slice Am nm cm,.slice Al nl cl,.slice At nt ct]),(some g1,27,[.slice Ac nc cc,.slice Am nm cm,.slice Al nl cl,.slice At nt ct])]∧Sl ε [(1,.pointer (some ⟨g1,0,none⟩)),(5,.pointer (some ⟨g5,0,none⟩)),(33,.agg (w5b #[.slice Ac nc cc,.slice Am nm cm,.slice Al nl cl,.slice At nt ct])),(34,.int .i64 k)]) (μ:=(3)) ⟨rfl,0,by omega,j0,rfl⟩ ?_);rintro μk D ε w ⟨rfl,k,hk,S,eZ⟩;refine wK eZ (wB0 rfl ⟨⟩ (fun H0=>?_) fun H0=>?_)
 ·refine lO0 rfl ⟨⟩ (w6b c6c rfl rfl (by omega) (by omega) (w8b (by omega)) rfl ?_);refine lO0 rfl ⟨⟩ (e5a (vs:=[.agg #[.slice Ac nc cc,.slice Am nm cm,.slice Al nl cl,.slice At nt ct]]) z6b rfl rfl rfl (m2c k (by omega) p M _ _ (hP.keep (S.keep0 M)) hp (hK.keep (S.keep0 M)) (x0 _ S.size)) ?_);rintro W0 Z0 ⟨rfl,y0⟩;have B0:=S.later y0;refine lB0 rfl ⟨⟩ (fun I0=>by exfalso;omega) fun I0=>?_;refine lP0 rfl ⟨by omega,⟨⟩⟩ ⟨μk-1,by omega,rfl,(k+1),(by omega),B0,rfl⟩
 refine lO0 rfl ⟨⟩ (G4a (k:=9) S rfl ?_);intro f0 a1 v0 U0 S0 b0;have q0:w0.heap.size≤f0:=by have:=S.size;omega
 refine lC v0.k [.o 1] rfl ⟨rfl,⟨⟩⟩ (wL (fun μk D ε w=>D=[]∧∃k:Nat,(k+μk=(p.threads.length))∧(B3a Tryz.prog 9 w f0 (Z4a ((p.threads.take k).map fun c=>.string c.name)))∧St [] w0 w [(some g5,195,[.slice Ac nc cc,.slice Am nm cm,.slice Al nl cl,.slice At nt ct]),(some g1,27,[.slice Ac nc cc,.slice Am nm cm,.slice Al nl cl,.slice At nt ct])]∧Sl ε [(5,.pointer (some ⟨g5,0,none⟩)),(11,.map (some f0)),(45,.slice At nt ct),(46,.int .i64 nt),(47,.int .i64 k)]) (μ:=(p.threads.length)) ⟨rfl,0,by omega,(by simpa[Z4a] using b0),v0,rfl⟩ ?_);rintro μk D ε w ⟨rfl,k,hk,b0,S,eZ⟩;refine wK eZ (wB0 rfl ⟨⟩ (fun J0=>?_) fun J0=>?_)
 ·obtain⟨x,F0,O0,_,t0,n0,_,r0,o0,h0⟩:=RdS.get (L0) (k) (by omega);obtain⟨_,_,_,_,_,_,_,_,_,_,_,_,rfl,_,_,_,_,_,_,_,_,_,_,_,_,_⟩:=N0a.open_ h0;refine lO (S.k.a o0) [.x F0 O0,.v 0] rfl ⟨⟨rfl,r0⟩,⟨n0,by omega⟩,⟨⟩⟩ (m0a S F4b rfl rfl ?_);intro V0 Y0 u0 D0 R0;replace b0:=b0.keep D0 (List.not_mem_nil);refine lO0 rfl ⟨⟩ (e0a (kk:=0) (vs:=[_,_,_,_,_,_,_]) u0 O3b rfl rfl rfl rfl rfl rfl rfl ?_);intro i0 a0 g0;dsimp only[k0a,List.set] at a0;replace b0:=b0.keep g0 (fun hh=>by rw[List.mem_singleton] at hh;exact b0.ne (u0.blk 0 rfl) hh);refine lO a0.k [.w 1,.w 0] rfl ⟨⟨rfl,by rfl⟩,⟨rfl,rfl⟩,⟨⟩⟩ ?_;have s0:=q4a p0 t0;have d0:∀g∈f0::M,g∈M∨w0.heap.size≤g:=fun g hg=>by exact(List.mem_cons.1 hg).elim (fun h=>.inr (by omega)) .inl
  have N0:∀g∈f0::M,g<i0.heap.size:=fun g hg=>by exact(List.mem_cons.1 hg).elim (fun h=>h▸b0.lt) (x0 _ a0.size g)
  refine c2a n5c rfl rfl (i8b p k x f0 _ (f0::M) _ _ _ ((hP.more d0).keep (a0.keep0 _)) (N0a.keep (a0.keep0 _) _ _ (N0a.more d0 _ _ h0)) hp ((hK.more d0).keep (a0.keep0 _)) N0 (by simp) t0 b0 s0) ?_;rintro X0 b1 ⟨rfl,z0,A0⟩;have C0:=a0.turned b0 (.inl q0) z0;refine lB0 rfl ⟨⟩ (fun K0=>by exfalso;omega) fun K0=>?_;refine lP0 rfl ⟨by omega,⟨⟩⟩ ?_;refine⟨μk-1,by omega,rfl,(k+1),(by omega),((by rw[H0a t0,List.map_append];exact A0)),C0.tail,rfl⟩
 refine lR0 rfl ⟨⟩ (Y5b rfl (by conv=>lhs;whnf) (by conv=>lhs;whnf) (by conv=>lhs;whnf) ?_);exact⟨rfl,S.fin⟩
def T0a(p:f0a):q0a:=⟨p.cells.map w2a.init,p.threads.map (fun t=>if t.asleep then -1 else 0),p.threads.map (fun _=>[])⟩
def f2a(mem:List Int)(e:E0a):List Int:=(e.cells.zip e.values).foldl (fun m x=>m.set x.1.toNat x.2) mem
def c1a(c:q0a)(t:Nat):List Int:=(c.buf.getD t []).foldl f2a c.mem
def B7a(s:List L1a)(v mem:List Int):List Int:=s.foldl (fun m a=>m.set a.cell.toNat (a.to.evl v v)) mem
def M3b(p:f0a)(s:List L1a)(v:List Int):E0a:=⟨(s.filter fun a=>I1a p.cells a.cell=-1).map L1a.cell,(s.filter fun a=>I1a p.cells a.cell=-1).map fun a=>a.to.evl v v⟩
def S0a(p:f0a)(model:Int)(c:q0a)(t:Nat)(s:y1a):Bool :=
 decide (c.at_.getD t 0=s.frm)&&(decide (s.guard.evl (c1a c t) (c1a c t)=1) &&
  (if s.kind=3 then decide (model=0∨((c.buf.getD t []).length<3∧(s.release=true→c.buf.getD t []=[])))
   else if s.kind=6 then decide (c.buf.getD t []=[]∧c.at_.getD s.target.toNat 0=-1)
   else if s.kind=7 then decide (c.buf.getD t []=[]∧c.at_.getD s.target.toNat 0=(p.threads.getD s.target.toNat ⟨ByteArray.empty,0,[],[],[],[],false⟩).points-1∧c.buf.getD s.target.toNat []=[])
   else if s.kind=1∨s.kind=2 then true else decide (c.buf.getD t []=[])))
def W8a(a b:E0a):Bool:=a.cells.any fun x=>b.cells.contains x
def s3a(model:Int)(l:List E0a)(i:Nat):Bool:=decide (i=0)||(decide (model=2)&&(List.range i).all fun k=>match l[k]?,l[i]? with|some a,some b=>!W8a a b|_,_=>true)
def n3a(p:f0a)(t:Nat):List y1a:=(p.threads.getD t ⟨ByteArray.empty,0,[],[],[],[],false⟩).steps
def W6a(p:f0a)(model:Int)(c:q0a)(t:Nat):List A0a :=
 ((List.range (n3a p t).length).filter fun i=>match (n3a p t)[i]? with|some s=>S0a p model c t s|none=>false).map (fun(i:Nat)=>(⟨t,i,0⟩:A0a)) ++
 ((List.range (c.buf.getD t []).length).filter (s3a model (c.buf.getD t []))).map (fun(i:Nat)=>(⟨t,-1,((c.buf.getD t []).getD i ⟨[],[]⟩).cells.getD 0 0⟩:A0a))
def G0a(p:f0a)(model:Int)(c:q0a):List A0a:=(List.range p.threads.length).flatMap (W6a p model c)
def atC(c:q0a)(t:Nat)(s:y1a):List Int:=if s.kind=6 then(c.at_.set t s.to).set s.target.toNat 0 else c.at_.set t s.to
def j6a(p:f0a)(model:Int)(c:q0a)(t:Nat)(s:y1a):q0a :=
 if s.kind=3∧model≠0 then⟨B7a (s.set.filter fun a=>I1a p.cells a.cell≠-1) (c1a c t) c.mem,atC c t s,c.buf.set t (c.buf.getD t []++[M3b p s.set (c1a c t)])⟩
 else⟨B7a s.set (c1a c t) c.mem,atC c t s,c.buf⟩
def g4a(c:q0a)(t i:Nat):q0a:=⟨f2a c.mem ((c.buf.getD t []).getD i ⟨[],[]⟩),c.at_,c.buf.set t ((c.buf.getD t []).eraseIdx i)⟩
def doC(p:f0a)(model:Int)(c:q0a)(x:A0a):q0a :=
 if x.step=-1 then g4a c x.thread.toNat (((c.buf.getD x.thread.toNat []).findIdx? fun e=>e.cells.getD 0 0=x.cell).getD 0)
 else match (n3a p x.thread.toNat)[x.step.toNat]? with|some s=>j6a p model c x.thread.toNat s|none=>c
def Z5a(p:f0a)(model:Int)(c:q0a):List q0a:=(G0a p model c).map (doC p model c)
section
variable {α:Type} [DecidableEq α]
def Y1c(l ds:List α):List α:=ds.foldl (fun l d=>if d∈l then l else l++[d]) l
def bfs(succ:α→List α)(a:α):Nat→List α
 | 0=>[a]
 | n+1=>match (bfs succ a n)[n]? with
   | some c=>Y1c (bfs succ a n) (succ c)
   | none=>bfs succ a n
theorem H7a(l:List α)(d:α)(ds:List α):Y1c l (d::ds)=Y1c (if d∈l then l else l++[d]) ds:=rfl
theorem f2b:∀(ds l:List α),∃m,Y1c l ds=l++m
 | [],l=>⟨[],by simp[Y1c]⟩
 | d::ds,l=>by
   rw[H7a];obtain⟨m,h⟩:=f2b ds (if d∈l then l else l++[d]);rw[h];by_cases hd:d∈l
   ·exact⟨m,by rw[if_pos hd]⟩
   ·exact⟨d::m,by rw[if_neg hd];simp⟩
theorem H9a:∀(ds l:List α) (x:α),x∈Y1c l ds↔x∈l∨x∈ds
 | [],l,x=>by simp[Y1c]
 | d::ds,l,x=>by
   rw[H7a,H9a ds];by_cases hd:d∈l
   ·rw[if_pos hd];constructor
    ·rintro(h|h)
     ·exact .inl h
     ·exact .inr (by simp[h])
    ·rintro(h|h)
     ·exact .inl h
     ·rcases List.mem_cons.1 h with rfl|h
      ·exact .inl hd
      ·exact .inr h
   ·rw[if_neg hd];simp[or_assoc]
theorem B1b:∀(ds l:List α),l.Nodup→(Y1c l ds).Nodup
 | [],l,h=>by simpa[Y1c] using h
 | d::ds,l,h=>by
   rw[H7a];refine B1b ds _ ?_;by_cases hd:d∈l
   ·rw[if_pos hd];exact h
   ·rw[if_neg hd];rw[List.nodup_append];exact⟨h,by simp,fun a ha b hb=>by rw[List.mem_singleton.1 hb];exact fun e=>hd (e▸ha)⟩
variable (succ:α→List α) (a:α)
theorem J6b(n:Nat):∃m,bfs succ a (n+1)=bfs succ a n++m:=by
 rw[bfs]
 split
 ·exact f2b _ _
 ·exact⟨[],by simp⟩
theorem X2b(n:Nat):∀k,∃m,bfs succ a (n+k)=bfs succ a n++m
 | 0=>⟨[],by simp⟩
 | k+1=>by
   obtain⟨m,h⟩:=X2b n k;obtain⟨m',h'⟩:=J6b succ a (n+k);exact⟨m++m',by rw[←Nat.add_assoc,h',h,List.append_assoc]⟩
theorem Y7a:∀n,(bfs succ a n).Nodup
 | 0=>by simp[bfs]
 | n+1=>by
   rw[bfs]
   split
   ·exact B1b _ _ (Y7a n)
   ·exact Y7a n
theorem M1b(n i:Nat)(hi:i<n)(c:α)(hc:(bfs succ a n)[i]?=some c)(d:α)(hd:d∈succ c):d∈bfs succ a n:=by
 induction n with
 | zero=>omega
 | succ n ih =>
   obtain⟨_,hm⟩:=J6b succ a n;by_cases d0:i=n
   ·subst d0;rw[bfs];rw[bfs] at hc
    split at hc
    ·rename_i c' a0;obtain⟨_,e0⟩:=f2b (succ c') (bfs succ a i);have b0:i<(bfs succ a i).length:=(List.getElem?_eq_some_iff.1 a0).1;rw[e0,List.getElem?_append_left b0,a0] at hc;cases hc;exact(H9a _ _ _).2 (.inr hd)
    ·rename_i hn;rw[hn] at hc;cases hc
   ·by_cases b0:i<(bfs succ a n).length
    ·rw[hm,List.getElem?_append_left b0] at hc;rw[hm];exact List.mem_append_left _ (ih (by omega) hc)
    ·exfalso;rw[bfs] at hc
     split at hc
     ·rename_i c' a0;have:=(List.getElem?_eq_some_iff.1 a0).1;omega
     ·have:=(List.getElem?_eq_some_iff.1 hc).1;omega
end
section
variable {α:Type} [DecidableEq α] (succ:α→List α) (a:α)
theorem a4b{n m:Nat}(h:n≤m):(bfs succ a n).length≤(bfs succ a m).length:=by
 obtain⟨k,rfl⟩:=Nat.exists_eq_add_of_le h;obtain⟨_,hl⟩:=X2b succ a n k;rw[hl];simp
theorem O9a{n m i:Nat}(h:n≤m)(hi:i<(bfs succ a n).length):(bfs succ a m)[i]?=(bfs succ a n)[i]?:=by
 obtain⟨k,rfl⟩:=Nat.exists_eq_add_of_le h;obtain⟨_,hl⟩:=X2b succ a n k;rw[hl,List.getElem?_append_left hi]
theorem p7b(n:Nat):(bfs succ a n)[0]?=some a:=by
 rw[O9a succ a (Nat.zero_le n) (by simp[bfs])];rfl
theorem t6c{i k:Nat}{x:α}(h1:(bfs succ a i).length≤k)(h2:(bfs succ a (i+1))[k]?=some x):
 ∃c,(bfs succ a i)[i]?=some c∧x∈succ c∧i<k∧∀j,j<i→∀c',(bfs succ a i)[j]?=some c'→x∉succ c':=by
 have g0:=Y7a succ a (i+1);have hx:x∉bfs succ a i:=by
  intro hm;obtain⟨j,hj,f0⟩:=List.getElem_of_mem hm;have b0:(bfs succ a (i+1))[j]?=some x:=by
   rw[O9a succ a (Nat.le_succ i) hj,List.getElem?_eq_getElem hj,f0]
  have hk:=(List.getElem?_eq_some_iff.1 h2).1;have e0:=(List.getElem?_eq_some_iff.1 b0).1;have:=(List.getElem?_inj e0 g0).1 (b0.trans h2.symm);omega
 have a0:x∈bfs succ a (i+1):=List.mem_of_getElem? h2;rw[bfs] at a0
 split at a0
 ·rename_i c hc;have h0:=(List.getElem?_eq_some_iff.1 hc).1;rcases(H9a _ _ _).1 a0 with h|h
  ·exact absurd h hx
  ·exact⟨c,hc,h,by omega,fun j hj c' d0 hs=>hx (M1b succ a i j hj c' d0 x hs)⟩
 ·exact absurd a0 hx
theorem C3b:∀(n k:Nat),1≤k→k<(bfs succ a n).length→∃i,i<n∧(bfs succ a i).length≤k∧k<(bfs succ a (i+1)).length
 | 0,k,h1,h2=>by simp[bfs] at h2;omega
 | n+1,k,h1,h2=>by
   by_cases h:k<(bfs succ a n).length
   ·obtain⟨i,_,h4,h5⟩:=C3b n k h1 h;exact⟨i,by omega,h4,h5⟩
   ·exact⟨n,by omega,by omega,h2⟩
theorem W1c{i j k l:Nat}(a0:k≤l)(h1:(bfs succ a i).length≤k)(h2:l<(bfs succ a (j+1)).length):i≤j:=by
 rcases Nat.lt_or_ge j i with h|h
 ·have:=a4b succ a (show j+1≤i by omega);omega
 ·exact h
inductive y6a (succ:α→List α) (a:α):α→Prop
 | start:y6a succ a a
 | next {c d:α} (h:y6a succ a c) (hd:d∈succ c):y6a succ a d
theorem F6a:∀(n:Nat) (x:α),x∈bfs succ a n→y6a succ a x
 | 0,x,h=>by simp[bfs] at h;subst h;exact .start
 | n+1,x,h=>by
   rw[bfs] at h
   split at h
   ·rename_i c hc;rcases(H9a _ _ _).1 h with h|h
    ·exact F6a n x h
    ·exact .next (F6a n c (List.mem_of_getElem? hc)) h
   ·exact F6a n x h
theorem p9b{n:Nat}(h:(bfs succ a n).length≤n){x:α}(hx:y6a succ a x):x∈bfs succ a n:=by
 induction hx with
 | start=>exact List.mem_of_getElem? (p7b succ a n)
 | next _ hd ih =>
   obtain⟨i,hi,he⟩:=List.getElem_of_mem ih;exact M1b succ a n i (by omega) _ (by rw[List.getElem?_eq_getElem hi,he]) _ hd
end
theorem O1a{p:f0a}{m:Int}{c:q0a}{x:A0a}:x∈G0a p m c↔∃t,t<p.threads.length ∧
 ((∃(i:Nat) (s:y1a),(n3a p t)[i]?=some s∧S0a p m c t s=true∧x=⟨t,i,0⟩) ∨
  (∃i:Nat,i<(c.buf.getD t []).length∧s3a m (c.buf.getD t []) i=true∧x=⟨t,-1,((c.buf.getD t []).getD i ⟨[],[]⟩).cells.getD 0 0⟩)):=by
 unfold G0a;rw[List.mem_flatMap];constructor
 ·rintro⟨t,ht,h⟩;refine⟨t,List.mem_range.1 ht,?_⟩;unfold W6a at h;rcases List.mem_append.1 h with h|h
  ·obtain⟨i,hi,rfl⟩:=List.mem_map.1 h;obtain⟨hi,he⟩:=List.mem_filter.1 hi
   split at he
   ·rename_i s hs;exact .inl ⟨i,s,hs,he,rfl⟩
   ·cases he
  ·obtain⟨i,hi,rfl⟩:=List.mem_map.1 h;obtain⟨hi,he⟩:=List.mem_filter.1 hi;exact .inr ⟨i,List.mem_range.1 hi,he,rfl⟩
 ·rintro⟨t,ht,h⟩;refine⟨t,List.mem_range.2 ht,?_⟩;unfold W6a;rw[List.mem_append];rcases h with⟨i,s,hs,he,rfl⟩|⟨i,hi,he,rfl⟩
  ·refine .inl (List.mem_map.2 ⟨i,List.mem_filter.2 ⟨List.mem_range.2 (List.getElem?_eq_some_iff.1 hs).1,?_⟩,rfl⟩);simp only[hs];exact he
  ·exact .inr (List.mem_map.2 ⟨i,List.mem_filter.2 ⟨List.mem_range.2 hi,he⟩,rfl⟩)
theorem y6a.to{α:Type}{succ a0:α→List α}{a x:α}(hx:y6a succ a x)(h:∀c d,y6a succ a c→y6a a0 a c→d∈succ c→y6a a0 a d):y6a a0 a x:=by
 induction hx with
 | start=>exact .start
 | next hc hd ih=>exact h _ _ hc ih hd
theorem y4b{α β:Type}(l:List α)(t:Nat):(l.map fun _=>([]:List β)).getD t []=[]:=by
 rw[List.getD_eq_getElem?_getD,List.getElem?_map];cases l[t]?<;>rfl
theorem i7c{p:f0a}{c:q0a}(h:y6a (Z5a p 0) (T0a p) c):c.buf.length=p.threads.length∧∀t,c.buf.getD t []=[]:=by
 induction h with
 | start=>exact⟨by simp[T0a],fun t=>y4b _ _⟩
 | next _ hd ih =>
   obtain⟨_,hx,rfl⟩:=List.mem_map.1 hd;obtain⟨t,_,h|h⟩:=O1a.1 hx
   ·obtain⟨i,_,hs,_,rfl⟩:=h;unfold doC;rw[if_neg (by simp)];simp only[Int.toNat_natCast,hs];unfold j6a;rw[if_neg (by simp)];exact ih
   ·obtain⟨i,hi,_⟩:=h;rw[ih.2 t] at hi;simp at hi
theorem q1c{p:f0a}{m:Int}{c:q0a}{t i:Nat}{s:y1a}(hs:(n3a p t)[i]?=some s):doC p m c ⟨t,i,0⟩=j6a p m c t s:=by
 unfold doC;rw[if_neg (by simp)];simp only[Int.toNat_natCast,hs]
theorem d2c{p:f0a}(hp:d1a p){t i:Nat}{s:y1a}(ht:t<p.threads.length)(hs:(n3a p t)[i]?=some s):p8a p t (p.threads[t]).points s:=by
 have:=(hp.threads t ht).steps s;unfold n3a at hs;rw[List.getD_eq_getElem?_getD,List.getElem?_eq_getElem ht] at hs;exact this (List.mem_of_getElem? hs)
def X4a(e:E0a):List Int:=(e.cells.length:Int)::(e.cells.zip e.values).flatMap fun x=>[x.1,x.2]
def P2a(b:List E0a):List Int:=(b.length:Int)::b.flatMap X4a
def K5a(c:q0a):List Int:=c.mem++(c.at_++c.buf.flatMap P2a)
theorem B9a{α β:Type}(G:α→Prop)(f:α→List β)(hf:∀a b r r',G a→G b→f a++r=f b++r'→a=b∧r=r'):
 ∀(l l':List α) (r r':List β),(∀a∈l,G a)→(∀a∈l',G a)→l.length=l'.length→l.flatMap f++r=l'.flatMap f++r'→l=l'∧r=r'
 | [],[],r,r',_,_,_,h=>⟨rfl,by simpa using h⟩
 | [],b::l',_,_,_,_,h,_=>by simp at h
 | a::l,[],_,_,_,_,h,_=>by simp at h
 | a::l,b::l',r,r',h1,h2,h3,h=>by
   rw[List.flatMap_cons,List.flatMap_cons,List.append_assoc,List.append_assoc] at h;obtain⟨rfl,h4⟩:=hf a b _ _ (h1 a (by simp)) (h2 b (by simp)) h;obtain⟨rfl,h5⟩:=B9a G f hf l l' r r' (fun x hx=>h1 x (by simp[hx])) (fun x hx=>h2 x (by simp[hx])) (by simpa using h3) h4;exact⟨rfl,h5⟩
def E0a.even(e:E0a):Prop:=e.values.length=e.cells.length
theorem M0c:∀(a b c d:List Int),a.length=b.length→c.length=d.length→a.zip b=c.zip d→a=c∧b=d
 | [],[],[],[],_,_,_=>⟨rfl,rfl⟩
 | [],[],c::zs,[],_,h,_=>by simp at h
 | [],[],[],d::us,_,h,_=>by simp at h
 | [],[],c::zs,d::us,_,_,h=>by simp at h
 | a::xs,[],_,_,h,_,_=>by simp at h
 | [],b::ys,_,_,h,_,_=>by simp at h
 | a::xs,b::ys,[],[],_,_,h=>by simp at h
 | a::xs,b::ys,c::zs,[],_,h,_=>by simp at h
 | a::xs,b::ys,[],d::us,_,h,_=>by simp at h
 | a::xs,b::ys,c::zs,d::us,h1,h2,h=>by
   simp only[List.zip_cons_cons,List.cons.injEq,Prod.mk.injEq] at h;obtain⟨⟨rfl,rfl⟩,h⟩:=h;obtain⟨rfl,rfl⟩:=M0c xs ys zs us (by simpa using h1) (by simpa using h2) h;exact⟨rfl,rfl⟩
theorem A5c(e f:E0a)(r r':List Int)(he:e.even)(hf:f.even)(h:X4a e++r=X4a f++r'):e=f∧r=r':=by
 unfold X4a at h;simp only[List.cons_append,List.cons.injEq] at h;obtain⟨_,h2⟩:=h;have hl:(e.cells.zip e.values).length=(f.cells.zip f.values).length:=by
  rw[List.length_zip,List.length_zip,he,hf];omega
 obtain⟨h3,h4⟩:=B9a (fun _=>True) (fun x:Int×Int=>[x.1,x.2]) (fun a b r r' _ _ h=>by
  obtain⟨_,_⟩:=a;obtain⟨_,_⟩:=b;simp only[List.cons_append,List.nil_append,List.cons.injEq] at h;obtain⟨rfl,rfl,h⟩:=h;exact⟨rfl,h⟩) _ _ r r' (fun _ _=>trivial) (fun _ _=>trivial) hl h2
 obtain⟨h5,h6⟩:=M0c _ _ _ _ he.symm hf.symm h3;cases e;cases f;simp only at h5 h6;subst h5;subst h6;exact⟨rfl,h4⟩
theorem M5c(b b':List E0a)(r r':List Int)(h1:∀e∈b,e.even)(h2:∀e∈b',e.even)(h:P2a b++r=P2a b'++r'):b=b'∧r=r':=by
 unfold P2a at h;simp only[List.cons_append,List.cons.injEq] at h;exact B9a E0a.even X4a A5c b b' r r' h1 h2 (by omega) h.2
structure q0a.Shape (c:q0a) (n t:Nat):Prop where
 mem:c.mem.length=n
 at_:c.at_.length=t
 buf:c.buf.length=t
 even:∀b∈c.buf,∀e∈b,e.even
theorem I6b{c d:q0a}{n t:Nat}(hc:c.Shape n t)(hd:d.Shape n t)(h:K5a c=K5a d):c=d:=by
 unfold K5a at h;obtain⟨h1,h2⟩:=List.append_inj h (hc.mem.trans hd.mem.symm);obtain⟨h3,h4⟩:=List.append_inj h2 (hc.at_.trans hd.at_.symm);obtain⟨h5,_⟩:=B9a (fun b:List E0a=>∀e∈b,e.even) P2a M5c c.buf d.buf [] [] hc.even hd.even (hc.buf.trans hd.buf.symm) (by simpa using h4);cases c;cases d;simp only at h1 h3 h5;subst h1;subst h3;subst h5;rfl
theorem W9a{e:E}{d0:Int}(h:e.good d0=true)(old b0:List Int):0≤e.val old b0∧e.val old b0<G3a e.w.toNat:=by
 obtain⟨a0,_⟩:=U2a h;have hw:e.w≤8:=a0.2.1;have hb:∀a,0≤s0b a (G3a e.w.toNat-1)∧s0b a (G3a e.w.toNat-1)<G3a e.w.toNat:=fun a=>by
  rw[A4a _ _ (by omega)];have:=I7a e.w.toNat;exact⟨Int.emod_nonneg _ (by omega),Int.emod_lt_of_pos _ this⟩
 rw[E.val_def];by_cases o1:e.op=1
 ·rw[if_pos o1];have:=(O5b o1).1 a0;omega
 ·rw[if_neg o1]
  split
  ·exact hb _
  ·split
   ·exact hb _
   ·exact hb _
theorem q5a{cells:List w2a}{b0:Bool}{e:E}(h:e.valid cells b0=true)(old a0:List Int):0≤e.evl old a0∧e.evl old a0<G3a e.w.toNat:=by
 obtain⟨h1,h2,_⟩:=S5a h;unfold E.evl;rw[if_pos h1];exact W9a h2 old a0
structure L5a (p:f0a) (m:List Int):Prop where
 len:m.length=p.cells.length
 vals:∀(i:Nat) (v:Int),m[i]?=some v→0≤v∧v<G3a (wAt p.cells i).toNat
theorem L5a.set{p:f0a}{m:List Int}(h:L5a p m){k:Nat}{v:Int}(hv:0≤v∧v<G3a (wAt p.cells k).toNat):L5a p (m.set k v):=by
 refine⟨by rw[List.length_set];exact h.len,fun i x hi=>?_⟩;rw[List.getElem?_set] at hi
 split at hi
 ·rename_i hk;subst hk
  split at hi
  ·cases hi;exact hv
  ·cases hi
 ·exact h.vals i x hi
structure J0b (p:f0a) (e:E0a):Prop where
 some_:e.cells≠[]
 even:e.even
 cells:∀(i:Nat) (n:Int),e.cells[i]?=some n→D2a n p.cells.length∧I1a p.cells n=-1∧E1b p.cells n=decide (0<i)
 vals:∀x∈e.cells.zip e.values,0≤x.2∧x.2<G3a (wAt p.cells x.1).toNat
 once:e.cells.Nodup
theorem L5a.write{p:f0a}{m:List Int}(h:L5a p m){e:E0a}(he:J0b p e):L5a p (f2a m e):=by
 unfold f2a;have key:∀(l:List (Int×Int)) (m:List Int),L5a p m→(∀x∈l,0≤x.1∧0≤x.2∧x.2<G3a (wAt p.cells x.1).toNat)→L5a p (l.foldl (fun m x=>m.set x.1.toNat x.2) m):=by
  intro l
  induction l with
  | nil=>intro m h _;exact h
  | cons x l ih =>
    intro m h hl;rw[List.foldl_cons];obtain⟨h0,h1⟩:=hl x (by simp);exact ih _ (h.set (by rw[Int.toNat_of_nonneg h0];exact h1)) fun y hy=>hl y (by simp[hy])
 refine key _ m h fun x hx=>?_;have b0:=List.of_mem_zip (a:=x.1) (b:=x.2) hx;obtain⟨i,hi,a0⟩:=List.getElem_of_mem b0.1;have:=he.cells i x.1 (by rw[List.getElem?_eq_getElem hi,a0]);exact⟨this.1.1,he.vals x hx⟩
theorem d0d{p:f0a}{t:Nat}{n:Int}{s:y1a}(hs:p8a p t n s)(hk:s.kind=3)(v:List Int):J0b p (M3b p s.set v):=by
 obtain⟨a,l,b0,d0,e0,hl⟩:=hs.row.k3 hk;have hf:(s.set.filter fun a=>I1a p.cells a.cell=-1)=a::l.filter fun a=>I1a p.cells a.cell=-1:=by
  rw[b0,List.filter_cons_of_pos (by simp[d0])]
 have a0:∀b∈s.set.filter fun a=>I1a p.cells a.cell=-1,b∈s.set∧I1a p.cells b.cell=-1:=fun b hb=>by
  obtain⟨h1,h2⟩:=List.mem_filter.1 hb;exact⟨h1,by simpa using h2⟩
 refine⟨?_,?_,fun i x hi=>?_,fun x hx=>?_,?_⟩
 ·unfold M3b;rw[hf];simp
 ·unfold M3b E0a.even;simp
 ·unfold M3b at hi;simp only[List.getElem?_map,Option.map_eq_some_iff] at hi;obtain⟨b,hb,rfl⟩:=hi;obtain⟨h1,h2⟩:=a0 b (List.mem_of_getElem? hb);refine⟨(hs.set b h1).1,h2,?_⟩;rw[hf] at hb;cases i with
  | zero=>simp at hb;subst hb;simpa using e0
  | succ i =>
    rw[List.getElem?_cons_succ] at hb;have:=hl b (List.mem_filter.1 (List.mem_of_getElem? hb)).1;rw[this];simp
 ·unfold M3b at hx;simp only[List.zip_map'] at hx;obtain⟨b,hb,rfl⟩:=List.mem_map.1 hx;obtain⟨h1,h2⟩:=a0 b hb;obtain⟨_,h3,h4⟩:=hs.set b h1;have:=q5a h3 v v;rw[h4] at this;exact this
 ·unfold M3b List.Nodup;simp only;rw[List.pairwise_map];exact hs.once.filter _
theorem L5a.sets{p:f0a}{v:List Int}:∀(l:List L1a) (m:List Int),L5a p m→(∀a∈l,D2a a.cell p.cells.length∧a.to.valid p.cells false=true∧a.to.w=wAt p.cells a.cell)→L5a p (B7a l v m)
 | [],_,h,_=>h
 | a::l,m,h,hl=>by
   obtain⟨h1,h2,h3⟩:=hl a (by simp);have hr:=q5a h2 v v;rw[h3] at hr;exact L5a.sets l _ (h.set (by rw[Int.toNat_of_nonneg h1.1];exact hr)) fun b hb=>hl b (by simp[hb])
structure c3a (p:f0a) (c:q0a):Prop where
 mem:L5a p c.mem
 nat:c.at_.length=p.threads.length
 atr:∀(t:Nat) (x:Int),c.at_[t]?=some x→∀th,p.threads[t]?=some th→-1≤x∧x<th.points∧(x=-1→th.asleep=true)
 nbuf:c.buf.length=p.threads.length
 bufs:∀(t:Nat) (b:List E0a),c.buf[t]?=some b→b.length≤3∧(∀e∈b,J0b p e)∧(c.at_[t]?=some (-1)→b=[])
theorem y5a{p:f0a}(hp:d1a p):c3a p (T0a p):=by
 refine⟨⟨by simp[T0a],fun i v hi=>?_⟩,by simp[T0a],fun t x hx th a0=>?_,by simp[T0a],fun t b hb=>?_⟩
 ·simp only[T0a,List.getElem?_map,Option.map_eq_some_iff] at hi;obtain⟨c,hc,rfl⟩:=hi;have h:=(hp.cells c (List.mem_of_getElem? hc)).init;have hw:wAt p.cells i=c.w:=by unfold wAt;simp[hc]
  rw[hw];exact h
 ·simp only[T0a,List.getElem?_map,a0,Option.map_some,Option.some.injEq] at hx;have b0:=(List.getElem?_eq_some_iff.1 a0).1;have he:=(List.getElem?_eq_some_iff.1 a0).2;have h:=(hp.threads t b0).points;rw[he] at h;subst hx;cases ha:th.asleep with
  | true=>simp;omega
  | false=>simp;omega
 ·simp only[T0a,List.getElem?_map,Option.map_eq_some_iff] at hb;obtain⟨_,_,rfl⟩:=hb;simp
theorem r6b{c:q0a}{t:Nat}{s:y1a}{u:Nat}{x:Int}(h:(atC c t s)[u]?=some x):(u≠t∧c.at_[u]?=some x)∨(u=t∧x=s.to)∨(s.kind=6∧u=s.target.toNat∧x=0):=by
 have key:∀x,(c.at_.set t s.to)[u]?=some x→(u≠t∧c.at_[u]?=some x)∨(u=t∧x=s.to):=fun x h=>by
  rw[List.getElem?_set] at h
  split at h
  ·rename_i hh
   split at h
   ·cases h;exact .inr ⟨hh.symm,rfl⟩
   ·cases h
  ·rename_i hh;exact .inl ⟨fun e=>hh e.symm,h⟩
 unfold atC at h
 split at h
 ·rename_i hk;rw[List.getElem?_set] at h
  split at h
  ·rename_i hh
   split at h
   ·cases h;exact .inr (.inr ⟨hk,hh.symm,rfl⟩)
   ·cases h
  ·rcases key x h with h|h
   ·exact .inl h
   ·exact .inr (.inl h)
 ·rcases key x h with h|h
  ·exact .inl h
  ·exact .inr (.inl h)
theorem P5a(c:q0a)(t:Nat)(s:y1a):(atC c t s).length=c.at_.length:=by
 unfold atC;split<;>simp
theorem a2b{p:f0a}(hp:d1a p){t:Nat}{th:X0a}(h:p.threads[t]?=some th):1≤th.points:=by
 obtain⟨a0,rfl⟩:=List.getElem?_eq_some_iff.1 h;exact(hp.threads t a0).points.1
theorem W4c{p:f0a}(hp:d1a p){c:q0a}(hf:c3a p c){t:Nat}{s:y1a}(ht:t<p.threads.length)(hs:p8a p t (p.threads[t]).points s):
 ∀(u:Nat) (x:Int),(atC c t s)[u]?=some x→∀th,p.threads[u]?=some th→-1≤x∧x<th.points∧(x=-1→th.asleep=true):=by
 intro u x hx th a0;rcases r6b hx with⟨_,h⟩|⟨rfl,rfl⟩|⟨_,_,rfl⟩
 ·exact hf.atr u x h th a0
 ·obtain⟨_,rfl⟩:=List.getElem?_eq_some_iff.1 a0;have:=hs.to;omega
 ·have:=a2b hp a0;omega
theorem O2c{p:f0a}(hp:d1a p){m:Int}{c:q0a}(hf:c3a p c){t i:Nat}{s:y1a}(ht:t<p.threads.length)(hs:(n3a p t)[i]?=some s)(he:S0a p m c t s=true):c3a p (j6a p m c t s):=by
 have b0:=d2c hp ht hs;have a0:∀u b,c.buf[u]?=some b→(atC c t s)[u]?=some (-1)→b=[]:=fun u b hb hu=>by
  rcases r6b hu with⟨_,h⟩|⟨rfl,h⟩|⟨_,_,h⟩
  ·exact(hf.bufs u b hb).2.2 h
  ·have:=b0.to;omega
  ·omega
 unfold j6a
 split
 ·rename_i hk;have e0:(c.buf.getD t []).length<3:=by
   unfold S0a at he;simp only[Bool.and_eq_true,if_pos hk.1,decide_eq_true_eq] at he;rcases he.2.2 with h|h
   ·exact absurd h hk.2
   ·exact h.1
  have f0:t<c.buf.length:=by rw[hf.nbuf];exact ht
  have hb:=hf.bufs t (c.buf.getD t []) (by rw[List.getD_eq_getElem?_getD,List.getElem?_eq_getElem f0];rfl);refine⟨L5a.sets _ _ hf.mem (fun a ha=>b0.set a (List.mem_filter.1 ha).1),by simp only[P5a];exact hf.nat,W4c hp hf ht b0,by simp only[List.length_set];exact hf.nbuf,fun u b hu=>?_⟩;simp only[List.getElem?_set] at hu
  split at hu
  ·rename_i g0;subst g0;cases hu;refine⟨by rw[List.length_append,List.length_singleton];omega,fun e d0=>?_,fun hu=>?_⟩
   ·rcases List.mem_append.1 d0 with h|h
    ·exact hb.2.1 e h
    ·rw[List.mem_singleton.1 h];exact d0d b0 hk.1 _
   ·exfalso;rcases r6b hu with⟨h,_⟩|⟨_,h⟩|⟨_,_,h⟩
    ·exact h rfl
    ·have:=b0.to;omega
    ·omega
  ·exact⟨(hf.bufs u b hu).1,(hf.bufs u b hu).2.1,a0 u b hu⟩
 ·exact⟨L5a.sets _ _ hf.mem (fun a ha=>b0.set a ha),by simp only[P5a];exact hf.nat,W4c hp hf ht b0,hf.nbuf,fun u b hu=>⟨(hf.bufs u b hu).1,(hf.bufs u b hu).2.1,a0 u b hu⟩⟩
theorem u8a{p:f0a}{c:q0a}(hf:c3a p c)(t i:Nat):c3a p (g4a c t i):=by
 unfold g4a;refine⟨?_,hf.nat,hf.atr,by simp only[List.length_set];exact hf.nbuf,fun u b hu=>?_⟩
 ·by_cases a0:t<c.buf.length
  ·have hb:=hf.bufs t (c.buf.getD t []) (by rw[List.getD_eq_getElem?_getD,List.getElem?_eq_getElem a0];rfl);by_cases hi:i<(c.buf.getD t []).length
   ·rw[List.getD_eq_getElem?_getD (i:=i),List.getElem?_eq_getElem hi];exact hf.mem.write (hb.2.1 _ (List.getElem_mem hi))
   ·rw[List.getD_eq_getElem?_getD (i:=i),List.getElem?_eq_none (by omega)];exact hf.mem
  ·have h0:c.buf.getD t []=[]:=by rw[List.getD_eq_getElem?_getD,List.getElem?_eq_none (by omega)];rfl
   rw[h0];exact hf.mem
 ·simp only[List.getElem?_set] at hu
  split at hu
  ·rename_i b0;subst b0
   split at hu
   ·rename_i a0;cases hu;have hb:=hf.bufs t (c.buf.getD t []) (by rw[List.getD_eq_getElem?_getD,List.getElem?_eq_getElem a0];rfl);refine⟨Nat.le_trans (List.length_eraseIdx_le _ _) hb.1,fun e he=>hb.2.1 e (List.mem_of_mem_eraseIdx he),fun h=>?_⟩;rw[hb.2.2 h];rfl
   ·cases hu
  ·exact hf.bufs u b hu
theorem R4b{p:f0a}(hp:d1a p){m:Int}{c:q0a}(hf:c3a p c){x:A0a}(hx:x∈G0a p m c):c3a p (doC p m c x):=by
 obtain⟨_,ht,h|h⟩:=O1a.1 hx
 ·obtain⟨i,_,hs,he,rfl⟩:=h;rw[q1c hs];exact O2c hp hf ht hs he
 ·obtain⟨i,_,he,rfl⟩:=h;unfold doC;rw[if_pos rfl];exact u8a hf _ _
theorem E4a{p:f0a}(hp:d1a p){m:Int}{c:q0a}(h:y6a (Z5a p m) (T0a p) c):c3a p c:=by
 induction h with
 | start=>exact y5a hp
 | next _ hd ih =>
   obtain⟨_,hx,rfl⟩:=List.mem_map.1 hd;exact R4b hp ih hx
theorem c3a.shape{p:f0a}{c:q0a}(hf:c3a p c):c.Shape p.cells.length p.threads.length :=
 ⟨hf.mem.len,hf.nat,hf.nbuf,fun b hb e he=>by
  obtain⟨t,ht,rfl⟩:=List.getElem_of_mem hb;exact((hf.bufs t _ (List.getElem?_eq_getElem ht)).2.1 e he).even⟩
theorem U7a:∀(n:Nat) (l:List Int),l.Nodup→(∀x∈l,0≤x∧x<n)→l.length≤n
 | 0,l,_,h=>by
   cases l with
   | nil=>simp
   | cons x l=>have:=h x (by simp);omega
 | n+1,l,hd,h=>by
   by_cases hn:(n:Int)∈l
   ·have h1:=U7a n (l.erase (n:Int)) (hd.erase _) (fun x hx=>by
     obtain⟨_,h3⟩:=(hd.mem_erase_iff).1 hx;have:=h x h3;omega)
    rw[List.length_erase_of_mem hn] at h1;omega
   ·have h1:=U7a n l hd (fun x hx=>by
     have:=h x hx;have:x≠(n:Int):=fun e=>hn (e▸hx);omega)
    omega
theorem J0b.len{p:f0a}{e:E0a}(h:J0b p e):e.cells.length≤p.cells.length :=
 U7a _ _ h.once fun x hx=>by
  obtain⟨i,hi,rfl⟩:=List.getElem_of_mem hx;exact(h.cells i _ (List.getElem?_eq_getElem hi)).1
theorem k9c{p:f0a}(hp:d1a p)(x:Int):wAt p.cells x≤8:=by
 unfold wAt
 split
 ·cases h:p.cells[x.toNat]? with
  | none=>simp
  | some c=>simpa using(hp.cells c (List.mem_of_getElem? h)).w.2
 ·omega
theorem j9a{p:f0a}(hp:d1a p)(x:Int):G3a (wAt p.cells x).toNat≤256:=by
 have h:=k9c hp x;have h2:(2:Nat) ^ (wAt p.cells x).toNat≤2 ^ 8:=Nat.pow_le_pow_right (by omega) (by omega);rw[a3a];omega
theorem L6a{p:f0a}(hp:d1a p){c:q0a}(hf:c3a p c):(∀x∈c.mem,0≤x∧x≤255)∧(∀x∈c.at_,-1≤x∧x≤47)∧∀x∈c.buf.flatMap P2a,0≤x∧x≤255:=by
 refine⟨fun x hx=>?_,fun x hx=>?_,fun x hx=>?_⟩
 ·obtain⟨i,hi,rfl⟩:=List.getElem_of_mem hx;have:=hf.mem.vals i _ (List.getElem?_eq_getElem hi);have:=j9a hp i;omega
 ·obtain⟨t,ht,rfl⟩:=List.getElem_of_mem hx;have a0:t<p.threads.length:=by rw[←hf.nat];exact ht
  have h1:=hf.atr t _ (List.getElem?_eq_getElem ht) _ (List.getElem?_eq_getElem a0);have h2:=(hp.threads t a0).points;omega
 ·obtain⟨b,hb,hx⟩:=List.mem_flatMap.1 hx;obtain⟨t,ht,rfl⟩:=List.getElem_of_mem hb;obtain⟨h1,h2,_⟩:=hf.bufs t _ (List.getElem?_eq_getElem ht);unfold P2a at hx;rcases List.mem_cons.1 hx with rfl|hx
  ·omega
  ·obtain⟨e,he,hx⟩:=List.mem_flatMap.1 hx;have hE:=h2 e he;unfold X4a at hx;rcases List.mem_cons.1 hx with rfl|hx
   ·have:=hE.len;have:=hp.ncells;omega
   ·obtain⟨y,hy,hx⟩:=List.mem_flatMap.1 hx;have h3:=hE.vals y hy;have h4:=j9a hp y.1;obtain⟨i,hi,b0⟩:=List.getElem_of_mem (List.of_mem_zip (a:=y.1) (b:=y.2) hy).1;have h5:=(hE.cells i y.1 (by rw[List.getElem?_eq_getElem hi,b0])).1;have h6:=hp.ncells;obtain⟨_,_⟩:=h5;simp only[List.mem_cons,List.not_mem_nil,or_false] at hx;rcases hx with rfl|rfl<;>omega
section
variable {M:List Nat} {w:World}
theorem t0a.open_{c:q0a}{cs:List Value}(h:t0a M w c cs):∃Am nm cm Aa na ca Ab nb cb,cs=[.slice Am nm cm,.slice Aa na ca,.slice Ab nb cb] ∧
 RdI M w (.slice Am nm cm) c.mem∧RdI M w (.slice Aa na ca) c.at_∧u0d M w (.slice Ab nb cb) c.buf ∧
 nm=c.mem.length∧na=c.at_.length∧nb=c.buf.length∧nm≤140737488355328∧na≤140737488355328∧nb≤140737488355328:=by
 obtain⟨_,_,_,rfl,h1,h2,h3⟩:=h;obtain⟨Am,nm,cm,rfl⟩:=h1.form;obtain⟨Aa,na,ca,rfl⟩:=h2.form;obtain⟨Ab,nb,cb,rfl⟩:=h3.form;exact⟨_,_,_,_,_,_,_,_,_,rfl,h1,h2,h3,h1.len.1,h2.len.1,h3.len.1,h1.len.2.2,h2.len.2.2,h3.len.2.2⟩
theorem F3a.open_{b:List E0a}{cs:List Value}(h:F3a M w cs b):∃A n c,cs=[.slice A n c]∧j7c M w (.slice A n c) b∧n=b.length∧n≤140737488355328:=by
 obtain⟨_,rfl,h1⟩:=h;obtain⟨A,n,c,rfl⟩:=h1.form;exact⟨_,_,_,rfl,h1,h1.len.1,h1.len.2.2⟩
theorem I0a.open_{e:E0a}{cs:List Value}(h:I0a M w cs e):∃Ac nc cc Av nv cv,cs=[.slice Ac nc cc,.slice Av nv cv]∧RdI M w (.slice Ac nc cc) e.cells∧RdI M w (.slice Av nv cv) e.values∧nc=e.cells.length∧nv=e.values.length∧nc≤140737488355328∧nv≤140737488355328:=by
 obtain⟨_,_,rfl,h1,h2⟩:=h;obtain⟨Ac,nc,cc,rfl⟩:=h1.form;obtain⟨Av,nv,cv,rfl⟩:=h2.form;exact⟨_,_,_,_,_,_,rfl,h1,h2,h1.len.1,h2.len.1,h1.len.2.2,h2.len.2.2⟩
end
theorem a1d{cells:List w2a}{k:Nat}{c:w2a}(h:cells[k]?=some c):wAt cells (k:Int)=c.w:=i5a (by omega) (by simpa using h)
structure InP (p:f0a) (M:List Nat) (w:World) (cs:List Value):Prop where
 rd:q1a M w p cs
 ok:d1a p
 msk:q3a M w
 lt:∀g∈M,g<w.heap.size
theorem InP.keep{p:f0a}{M:List Nat}{w w':World}{cs:List Value}(h:InP p M w cs)(hk:y0a M w w'):InP p M w' cs :=
 ⟨h.rd.keep hk,h.ok,h.msk.keep hk,fun g hg=>Nat.lt_of_lt_of_le (h.lt g hg) hk.size⟩
theorem t2b{w0 w:World}{L:List Ent}{g t k:Nat}{cs:List Value}{M:List Nat}(S:St [] w0 w L)(hk:L[k]?=some (some g,t,cs)):∀x∈g::M,x∈M∨w0.heap.size≤x:=fun x hx=>by
 rcases List.mem_cons.1 hx with rfl|h
 ·rcases S.new k hk with h|h
  ·exact .inr h
  ·cases h
 ·exact .inl h
theorem InP.add{p:f0a}{M:List Nat}{w0 w:World}{cs:List Value}(h:InP p M w0 cs){L:List Ent}{g t k:Nat}{a0:List Value}(S:St [] w0 w L)(hk:L[k]?=some (some g,t,a0)):InP p (g::M) w cs :=
 ⟨(h.rd.more (t2b S hk)).keep (S.keep0 _),h.ok,(h.msk.more (t2b S hk)).keep (S.keep0 _),fun x hx=>by
   rcases List.mem_cons.1 hx with rfl|hx
   ·exact S.lt k hk
   ·exact Nat.lt_of_lt_of_le (h.lt x hx) S.size⟩
theorem t0a.add{c:q0a}{M:List Nat}{w0 w:World}{cs:List Value}(h:t0a M w0 c cs){L:List Ent}{g t k:Nat}{a0:List Value}(S:St [] w0 w L)(hk:L[k]?=some (some g,t,a0)):t0a (g::M) w c cs :=
 (h.more (t2b S hk)).keep (S.keep0 _)
section
variable {H:Type} {enc:TypeId×Value→H} {P:Program} {W:World} {base:Nat} {sp:Nat→Bool} {held:Bool}
def M3a(P:Program)(t:TypeId)(d:DataW H):Prop:=∀m∈d.weights P t,m≤reachBytes
theorem I3a{n:Int}(h:(Lit.int .i64 n).wf=true):i64 n:=by
 simp[Lit.wf,IntKind.min,IntKind.max,IntKind.signed,IntKind.bits] at h;exact h
theorem d9b{a:Addr}{v:Value}(h:W.cell? a=some v):a=⟨a.block,a.off,none⟩:=by
 obtain⟨_,_,s⟩:=a;cases s with
 | none=>rfl
 | some x=>unfold World.cell? at h;split at h<;>simp at h
theorem o4b{e:TypeId}{l:List (DataW H)}{i:Nat}{d:DataW H}(hi:l[i]?=some d):∀m∈d.weights P e,m∈DataW.weightsAll P e l:=by
 induction l generalizing i with
 | nil=>simp at hi
 | cons x xs ih =>
   intro m hm;rw[DataW.weightsAll];cases i with
   | zero=>simp at hi;subst hi;exact List.mem_append_left _ hm
   | succ i=>exact List.mem_append_right _ (ih (by simpa using hi) m hm)
theorem i3a{α:Type}{size t e:Nat}{fuel:Nat}{R:List Value→α→Prop}{v:Value}{x:DataW H×List MemPlace}(ht:P.underlying t=some (.slice e))(hc:P.cellsOf e=size)(hs:0<size)(o0:1≤P.bytesOf e)
 (p0:∀(n:Nat) (cs:List Value) (y:DataW H×List MemPlace),n<fuel→cs.length=size→DataW.trod enc P W base sp held n e cs=some y→M3a P e y.1→∃a,R cs a)
 (h:DataW.trod enc P W base sp held fuel t [v]=some x) (hw:M3a P t x.1):∃l,RdS [] W size R v l:=by
 rcases DataW.trod_slice ht h with⟨h1,h2⟩|⟨a,len,g0,b0,rest,n,hf,h1,h2,hb,hl,hm,s0,f0,-,-⟩
 ·cases h1;exact⟨[],none,0,0,rfl,rfl,Nat.le_refl _,by unfold maxLen;omega,by omega,fun h=>absurd h (by omega)⟩
 ·cases h1;have n0:M3a P t (.slice (b0.map (·.1)) (rest.map (·.1))):=by rw[h2] at hw;exact hw
  have e0:len≤140737488355328:=by
   have:=n0 ((b0.length+rest.length)*P.bytesOf e) (by rw[DataW.weights,ht];simp);have h3:len*1≤(b0.length+rest.length)*P.bytesOf e:=Nat.mul_le_mul (by omega) o0;unfold reachBytes at this;omega
  have each:∀i,i<len→∃cs q,cs.length=size∧R cs q∧∀j,j<size→W.cell? ((a.add (i*size)).add j)=cs[j]?:=by
   intro i hi;have hg:=f0 i hi;have j0:i<b0.length:=by omega
   rw[List.getElem?_eq_getElem j0,Option.bind_eq_some_iff] at hg;obtain⟨cs,i0,u0⟩:=hg;rw[hc] at i0;obtain⟨-,d0,a0⟩:=World.cells?_some i0;obtain⟨q,hq⟩:=p0 n cs _ (by omega) d0 u0 (fun m t0=>by
    refine n0 m ?_;rw[DataW.weights,ht];refine List.mem_cons_of_mem _ (List.mem_append_left _ (o4b (i:=i) ?_ m t0));rw[List.getElem?_map,List.getElem?_eq_getElem j0];rfl)
   exact⟨cs,q,d0,hq,a0⟩
  by_cases h0:len=0
  ·subst h0;exact⟨[],some a,0,g0,rfl,rfl,hl,hm,by omega,fun h=>absurd h (by omega)⟩
  ·have ha:a=⟨a.block,a.off,none⟩:=by
    obtain⟨cs,q,d0,_,a0⟩:=each 0 (by omega);have:=a0 0 (by omega);rw[List.getElem?_eq_getElem (by omega)] at this;simp only[Nat.zero_mul,Addr.add_zero'] at this;exact d9b this
   let f:Fin len→α:=fun i=>Classical.choose (Classical.choose_spec (each i.1 i.2))
   have q0:∀i:Fin len,∃cs:List Value,cs.length=size∧R cs (f i)∧∀j,j<size→W.cell? ((a.add (i.1*size)).add j)=cs[j]?:=fun i =>
    ⟨Classical.choose (each i.1 i.2),Classical.choose_spec (Classical.choose_spec (each i.1 i.2))⟩
   refine⟨List.ofFn f,some a,len,g0,rfl,by simp,hl,hm,e0,fun _=>⟨a.block,a.off,by rw[←ha],by simp,fun i x hx=>?_⟩⟩;have hi:i<len:=by have:=(List.getElem?_eq_some_iff.1 hx).1;simpa using this
   have v0:x=f ⟨i,hi⟩:=by
    rw[List.getElem?_eq_getElem (by simpa using hi)] at hx;simp at hx;exact hx.symm
   obtain⟨cs,d0,hR,a0⟩:=q0 ⟨i,hi⟩;refine⟨cs,d0,fun j u hj=>?_,by rw[v0];exact hR⟩;have r0:j<size:=by have:=(List.getElem?_eq_some_iff.1 hj).1;omega
   have:=a0 j r0;rw[hj] at this;rw[ha] at this;rw[Addr.add_lit,Addr.add_lit] at this;exact this
theorem V2b{t:TypeId}{fs:Array Field}{xs:List (DataW H×List MemPlace)}{i:Nat}{f:Field}{y:DataW H×List MemPlace}(ht:P.underlying t=some (.struct fs))(hw:M3a P t (.agg (xs.map (·.1))))(hf:fs[i]?=some f)(hy:xs[i]?=some y):M3a P f.type y.1:=fun m hm=>by
 refine hw m ?_;rw[DataW.weights,ht];refine DataW.weights_mem_each (j:=i) (t:=f.type) (d:=y.1) ?_ ?_ m hm
 ·rw[List.getElem?_map];simp[hf]
 ·rw[List.getElem?_map,hy];rfl
theorem I1d{l:List Value}(h:l.length=4):∃a0 a1 a2 a3,l=[a0,a1,a2,a3]:=by
 match l,h with
 | [a0,a1,a2,a3],_=>exact⟨a0,a1,a2,a3,rfl⟩
theorem M1d{l:List Value}(h:l.length=5):∃a0 a1 a2 a3 a4,l=[a0,a1,a2,a3,a4]:=by
 match l,h with
 | [a0,a1,a2,a3,a4],_=>exact⟨a0,a1,a2,a3,a4,rfl⟩
theorem q1d{l:List Value}(h:l.length=6):∃a0 a1 a2 a3 a4 a5,l=[a0,a1,a2,a3,a4,a5]:=by
 match l,h with
 | [a0,a1,a2,a3,a4,a5],_=>exact⟨a0,a1,a2,a3,a4,a5,rfl⟩
theorem L1d{l:List Value}(h:l.length=7):∃a0 a1 a2 a3 a4 a5 a6,l=[a0,a1,a2,a3,a4,a5,a6]:=by
 match l,h with
 | [a0,a1,a2,a3,a4,a5,a6],_=>exact⟨a0,a1,a2,a3,a4,a5,a6,rfl⟩
theorem A9c{l:List Value}(h:l.length=11):∃a0 a1 a2 a3 a4 a5 a6 a7 a8 a9 b0,l=[a0,a1,a2,a3,a4,a5,a6,a7,a8,a9,b0]:=by
 match l,h with
 | [a0,a1,a2,a3,a4,a5,a6,a7,a8,a9,b0],_=>exact⟨a0,a1,a2,a3,a4,a5,a6,a7,a8,a9,b0,rfl⟩
theorem R0a{t:TypeId}{fs:Array Field}{cs:List Value}{xs:List (DataW H×List MemPlace)}{n:Nat}(i ty e0:Nat)(d0:xs.length=fs.size)(b0:∀(i:Nat) (f:Field),fs[i]?=some f→DataW.trod enc P W base sp held n f.type ((cs.drop f.offset).take (P.cellsOf f.type))=xs[i]?)(ht:P.underlying t=some (.struct fs))(hw:M3a P t (.agg (xs.map (·.1))))(hf:(fs[i]?).map (fun f=>(f.type,f.offset))=some (ty,e0)):
 ∃y,DataW.trod enc P W base sp held n ty ((cs.drop e0).take (P.cellsOf ty))=some y∧M3a P ty y.1:=by
 cases a0:fs[i]? with
 | none=>rw[a0] at hf;cases hf
 | some f =>
   rw[a0] at hf;simp only[Option.map_some,Option.some.injEq,Prod.mk.injEq] at hf;obtain⟨rfl,rfl⟩:=hf;have hi:i<xs.length:=by rw[d0];exact(Array.getElem?_eq_some_iff.1 a0).1
   exact⟨xs[i],by rw[b0 i f a0,List.getElem?_eq_getElem hi],V2b ht hw a0 (List.getElem?_eq_getElem hi)⟩
end
section
variable {H:Type} {enc:TypeId×Value→H} {W:World} {base:Nat} {sp:Nat→Bool} {held:Bool}
theorem p1d{n:Int}(h:(Lit.int .u8 n).wf=true):0≤n∧n≤255:=by simpa[Lit.wf,IntKind.min,IntKind.max,IntKind.signed,IntKind.bits] using h
theorem w7b{t:TypeId}{s:ByteArray}{y:DataW H×List MemPlace}(hx:y=(.lit (.string s.data.toList),[]))(hw:M3a Tryz.prog t y.1):s.size≤140737488355328:=by
 have h:=hw s.data.toList.length (by rw[hx];exact List.mem_singleton.2 rfl);have e:s.data.toList.length=s.size:=Array.length_toList;unfold reachBytes at h;omega
theorem u6b{α:Type}{M:List Nat}{w:World}{size:Nat}{R:List Value→α→Prop}{Q:α→Prop}{v:Value}{l:List α}(h:RdS M w size R v l)(hq:∀cs x,R cs x→Q x):∀x∈l,Q x:=fun x hx=>by
 obtain⟨_,_,_,rfl⟩:=h.form;obtain⟨i,hi⟩:=List.mem_iff_getElem?.1 hx;obtain⟨_,_,_,cs,h1,-,-,-,-,h2⟩:=RdS.get h i (List.getElem?_eq_some_iff.1 hi).1;rw[hi] at h1;cases h1;exact hq _ _ h2
theorem m1b:Tryz.prog.cellsOf 3=1:=by kernel_rfl
theorem N5b:Tryz.prog.cellsOf 4=1:=by kernel_rfl
theorem f0b:Tryz.prog.cellsOf 9=1:=by kernel_rfl
theorem c3:Tryz.prog.cellsOf 3=1:=by kernel_rfl
theorem y8c:Tryz.prog.cellsOf 66=1:=by kernel_rfl
theorem e6c:Tryz.prog.cellsOf 68=4:=by kernel_rfl
theorem y9c:1≤Tryz.prog.bytesOf 68:=of_decide_eq_true (by kernel_rfl)
theorem J1d:1≤Tryz.prog.bytesOf 3:=of_decide_eq_true (by kernel_rfl)
theorem D4a:∀(fuel:Nat) (cs:List Value) (x:DataW H×List MemPlace),DataW.trod enc Tryz.prog W base sp held fuel 68 cs=some x→M3a Tryz.prog 68 x.1→∃e,RdE [] W e cs:=by
 intro fuel
 induction fuel using Nat.strongRecOn with
 | _ fuel ih =>
 intro cs x h hw;obtain⟨_,_,_,hx,hl,b0,a0⟩:=DataW.trod_struct Tryz.underlying68 h;rw[hx] at hw;rw[e6c] at hl;obtain⟨_,t0,-⟩:=R0a 0 3 0 b0 a0 Tryz.underlying68 hw rfl;obtain⟨_,t1,-⟩:=R0a 1 3 1 b0 a0 Tryz.underlying68 hw rfl;obtain⟨_,t2,-⟩:=R0a 2 3 2 b0 a0 Tryz.underlying68 hw rfl;obtain⟨_,t3,w3⟩:=R0a 3 66 3 b0 a0 Tryz.underlying68 hw rfl;simp only[c3,y8c] at t0 t1 t2 t3;obtain⟨_,_,_,_,rfl⟩:=I1d hl;simp only[List.drop_succ_cons,List.drop_zero,List.take_succ_cons,List.take_zero] at t0 t1 t2 t3;obtain⟨m0,e0,-,f0⟩:=DataW.trod_int Tryz.underlying3 t0;obtain⟨m1,e1,-,f1⟩:=DataW.trod_int Tryz.underlying3 t1;obtain⟨m2,e2,-,f2⟩:=DataW.trod_int Tryz.underlying3 t2;cases e0;cases e1;cases e2;obtain⟨ks,o0⟩:=i3a (R:=fun cs e=>RdE [] W e cs) Tryz.underlying66 e6c (by omega) y9c (fun k cs y hk _ hy hl=>ih k (by omega) cs y hy hl) t3 w3;obtain⟨A,k,c,rfl,hk,n0,j0,d0,g0⟩:=o0;refine⟨⟨m0,m1,m2,ks⟩,?_⟩;rw[RdE];refine⟨A,k,c,rfl,I3a f0,I3a f1,I3a f2,hk,n0,j0,d0,fun h0=>?_⟩;obtain⟨b,o,hA,hb,g0⟩:=g0 h0;refine⟨b,o,hA,hb,fun i hi=>?_⟩;obtain⟨i0,-,hc,hr⟩:=g0 i ks[i] (List.getElem?_eq_getElem hi);exact⟨i0,hc,hr⟩
theorem x8a{fuel:Nat}{v:Value}{x:DataW H×List MemPlace}(h:DataW.trod enc Tryz.prog W base sp held fuel 35 [v]=some x)(hw:M3a Tryz.prog 35 x.1):∃l,RdI [] W v l :=
 i3a Tryz.underlying35 c3 (by omega) J1d (fun n cs y _ _ hy _=>by
  obtain⟨m,e,-,f⟩:=DataW.trod_int Tryz.underlying3 hy;exact⟨m,e,I3a f⟩) h hw
theorem s8b{fuel:Nat}{v:Value}{x:DataW H×List MemPlace}(h:DataW.trod enc Tryz.prog W base sp held fuel 66 [v]=some x)(hw:M3a Tryz.prog 66 x.1):∃l,V9c [] W v l :=
 i3a Tryz.underlying66 e6c (by omega) y9c (fun n cs y _ _ hy hl=>D4a n cs y hy hl) h hw
theorem x4a:Tryz.prog.cellsOf 108=6:=by kernel_rfl
theorem f1c{fuel:Nat}{cs:List Value}{x:DataW H×List MemPlace}(h:DataW.trod enc Tryz.prog W base sp held fuel 108 cs=some x)(hw:M3a Tryz.prog 108 x.1):∃c,F2a cs c∧c.name.size≤140737488355328:=by
 obtain⟨_,_,_,hx,hl,b0,a0⟩:=DataW.trod_struct Tryz.underlying108 h;rw[hx] at hw;rw[x4a] at hl;obtain⟨_,t0,w0⟩:=R0a 0 9 0 b0 a0 Tryz.underlying108 hw rfl;obtain⟨_,t1,-⟩:=R0a 1 3 1 b0 a0 Tryz.underlying108 hw rfl;obtain⟨_,t2,-⟩:=R0a 2 3 2 b0 a0 Tryz.underlying108 hw rfl;obtain⟨_,t3,-⟩:=R0a 3 3 3 b0 a0 Tryz.underlying108 hw rfl;obtain⟨_,t4,-⟩:=R0a 4 4 4 b0 a0 Tryz.underlying108 hw rfl;obtain⟨_,t5,-⟩:=R0a 5 3 5 b0 a0 Tryz.underlying108 hw rfl;simp only[f0b,m1b,N5b] at t0 t1 t2 t3 t4 t5;obtain⟨_,_,_,_,_,_,rfl⟩:=q1d hl;simp only[List.drop_succ_cons,List.drop_zero,List.take_succ_cons,List.take_zero] at t0 t1 t2 t3 t4 t5;obtain⟨m0,e0,s0,-⟩:=DataW.trod_string Tryz.underlying9 t0;obtain⟨m1,e1,-,f1⟩:=DataW.trod_int Tryz.underlying3 t1;obtain⟨m2,e2,-,f2⟩:=DataW.trod_int Tryz.underlying3 t2;obtain⟨m3,e3,-,f3⟩:=DataW.trod_int Tryz.underlying3 t3;obtain⟨m4,e4,-⟩:=DataW.trod_bool Tryz.underlying4 t4;obtain⟨m5,e5,-,f5⟩:=DataW.trod_int Tryz.underlying3 t5;cases e0;cases e1;cases e2;cases e3;cases e4;cases e5;exact⟨⟨m0,m1,m2,m3,m4,m5⟩,⟨rfl,I3a f1,I3a f2,I3a f3,I3a f5⟩,w7b s0 w0⟩
theorem U0d:1≤Tryz.prog.bytesOf 108:=of_decide_eq_true (by kernel_rfl)
theorem o8b{fuel:Nat}{v:Value}{x:DataW H×List MemPlace}(h:DataW.trod enc Tryz.prog W base sp held fuel 22 [v]=some x)(hw:M3a Tryz.prog 22 x.1):∃l,q7c [] W v l∧∀c∈l,c.name.size≤140737488355328:=by
 obtain⟨l,hl⟩:=i3a Tryz.underlying22 x4a (by omega) U0d (fun n cs y _ _ hy hl=>f1c hy hl) h hw;exact⟨l,hl.mono (fun _ _ h=>h.1),u6b hl (fun _ _ h=>h.2)⟩
theorem a2a:Tryz.prog.cellsOf 68=4:=by kernel_rfl
theorem W3a:Tryz.prog.cellsOf 105=5:=by kernel_rfl
theorem a5b{fuel:Nat}{cs:List Value}{x:DataW H×List MemPlace}(h:DataW.trod enc Tryz.prog W base sp held fuel 105 cs=some x)(hw:M3a Tryz.prog 105 x.1):∃c,U0a [] W cs c:=by
 obtain⟨_,_,_,hx,hl,b0,a0⟩:=DataW.trod_struct Tryz.underlying105 h;rw[hx] at hw;rw[W3a] at hl;obtain⟨_,t0,-⟩:=R0a 0 3 0 b0 a0 Tryz.underlying105 hw rfl;obtain⟨_,t1,w1⟩:=R0a 1 68 1 b0 a0 Tryz.underlying105 hw rfl;simp only[m1b,a2a] at t0 t1;obtain⟨_,_,_,_,_,rfl⟩:=M1d hl;simp only[List.drop_succ_cons,List.drop_zero,List.take_succ_cons,List.take_zero] at t0 t1;obtain⟨m0,e0,-,f0⟩:=DataW.trod_int Tryz.underlying3 t0;obtain⟨x1,h1⟩:=D4a _ _ _ t1 w1;cases e0;exact⟨⟨m0,x1⟩,_,rfl,I3a f0,h1⟩
theorem h6c:1≤Tryz.prog.bytesOf 105:=of_decide_eq_true (by kernel_rfl)
theorem R3b{fuel:Nat}{v:Value}{x:DataW H×List MemPlace}(h:DataW.trod enc Tryz.prog W base sp held fuel 95 [v]=some x)(hw:M3a Tryz.prog 95 x.1):∃l,k5c [] W v l :=
 i3a Tryz.underlying95 W3a (by omega) h6c (fun n cs y _ _ hy hl=>a5b hy hl) h hw
theorem P2b:Tryz.prog.cellsOf 95=1:=by kernel_rfl
theorem H4a:Tryz.prog.cellsOf 97=11:=by kernel_rfl
theorem d1c{fuel:Nat}{cs:List Value}{x:DataW H×List MemPlace}(h:DataW.trod enc Tryz.prog W base sp held fuel 97 cs=some x)(hw:M3a Tryz.prog 97 x.1):∃c,q2a [] W cs c:=by
 obtain⟨_,_,_,hx,hl,b0,a0⟩:=DataW.trod_struct Tryz.underlying97 h;rw[hx] at hw;rw[H4a] at hl;obtain⟨_,t0,-⟩:=R0a 0 3 0 b0 a0 Tryz.underlying97 hw rfl;obtain⟨_,t1,-⟩:=R0a 1 3 1 b0 a0 Tryz.underlying97 hw rfl;obtain⟨_,t2,-⟩:=R0a 2 3 2 b0 a0 Tryz.underlying97 hw rfl;obtain⟨_,t3,w3⟩:=R0a 3 68 3 b0 a0 Tryz.underlying97 hw rfl;obtain⟨_,t4,w4⟩:=R0a 4 95 7 b0 a0 Tryz.underlying97 hw rfl;obtain⟨_,t5,-⟩:=R0a 5 4 8 b0 a0 Tryz.underlying97 hw rfl;obtain⟨_,t6,-⟩:=R0a 6 3 9 b0 a0 Tryz.underlying97 hw rfl;obtain⟨_,t7,-⟩:=R0a 7 3 10 b0 a0 Tryz.underlying97 hw rfl;simp only[m1b,a2a,P2b,N5b] at t0 t1 t2 t3 t4 t5 t6 t7;obtain⟨_,_,_,_,_,_,_,_,_,_,_,rfl⟩:=A9c hl;simp only[List.drop_succ_cons,List.drop_zero,List.take_succ_cons,List.take_zero] at t0 t1 t2 t3 t4 t5 t6 t7;obtain⟨m0,e0,-,f0⟩:=DataW.trod_int Tryz.underlying3 t0;obtain⟨m1,e1,-,f1⟩:=DataW.trod_int Tryz.underlying3 t1;obtain⟨m2,e2,-,f2⟩:=DataW.trod_int Tryz.underlying3 t2;obtain⟨x3,h3⟩:=D4a _ _ _ t3 w3;obtain⟨x4,h4⟩:=R3b t4 w4;obtain⟨m5,e5,-⟩:=DataW.trod_bool Tryz.underlying4 t5;obtain⟨m6,e6,-,f6⟩:=DataW.trod_int Tryz.underlying3 t6;obtain⟨m7,e7,-,f7⟩:=DataW.trod_int Tryz.underlying3 t7;cases e0;cases e1;cases e2;cases e5;cases e6;cases e7;exact⟨⟨m0,m1,m2,x3,x4,m5,m6,m7⟩,_,_,_,_,_,rfl,I3a f0,I3a f1,I3a f2,I3a f6,I3a f7,h3,h4⟩
theorem h1d:1≤Tryz.prog.bytesOf 97:=of_decide_eq_true (by kernel_rfl)
theorem L7b{fuel:Nat}{v:Value}{x:DataW H×List MemPlace}(h:DataW.trod enc Tryz.prog W base sp held fuel 90 [v]=some x)(hw:M3a Tryz.prog 90 x.1):∃l,E0d [] W v l :=
 i3a Tryz.underlying90 H4a (by omega) h1d (fun n cs y _ _ hy hl=>d1c hy hl) h hw
theorem g5b:Tryz.prog.cellsOf 35=1:=by kernel_rfl
theorem w4a:Tryz.prog.cellsOf 115=6:=by kernel_rfl
theorem G9b{fuel:Nat}{cs:List Value}{x:DataW H×List MemPlace}(h:DataW.trod enc Tryz.prog W base sp held fuel 115 cs=some x)(hw:M3a Tryz.prog 115 x.1):∃c,E5a [] W cs c:=by
 obtain⟨_,_,_,hx,hl,b0,a0⟩:=DataW.trod_struct Tryz.underlying115 h;rw[hx] at hw;rw[w4a] at hl;obtain⟨_,t0,-⟩:=R0a 0 3 0 b0 a0 Tryz.underlying115 hw rfl;obtain⟨_,t1,w1⟩:=R0a 1 35 1 b0 a0 Tryz.underlying115 hw rfl;obtain⟨_,t2,w2⟩:=R0a 2 68 2 b0 a0 Tryz.underlying115 hw rfl;simp only[m1b,g5b,a2a] at t0 t1 t2;obtain⟨_,_,_,_,_,_,rfl⟩:=q1d hl;simp only[List.drop_succ_cons,List.drop_zero,List.take_succ_cons,List.take_zero] at t0 t1 t2;obtain⟨m0,e0,-,f0⟩:=DataW.trod_int Tryz.underlying3 t0;obtain⟨x1,h1⟩:=x8a t1 w1;obtain⟨x2,h2⟩:=D4a _ _ _ t2 w2;cases e0;exact⟨⟨m0,x1,x2⟩,_,_,_,_,_,rfl,I3a f0,h1,h2⟩
theorem O0d:1≤Tryz.prog.bytesOf 115:=of_decide_eq_true (by kernel_rfl)
theorem u8b{fuel:Nat}{v:Value}{x:DataW H×List MemPlace}(h:DataW.trod enc Tryz.prog W base sp held fuel 91 [v]=some x)(hw:M3a Tryz.prog 91 x.1):∃l,w1d [] W v l :=
 i3a Tryz.underlying91 w4a (by omega) O0d (fun n cs y _ _ hy hl=>G9b hy hl) h hw
theorem b5b:Tryz.prog.cellsOf 66=1:=by kernel_rfl
theorem h6b:Tryz.prog.cellsOf 90=1:=by kernel_rfl
theorem X5b:Tryz.prog.cellsOf 91=1:=by kernel_rfl
theorem a4a:Tryz.prog.cellsOf 93=7:=by kernel_rfl
theorem J5b{fuel:Nat}{cs:List Value}{x:DataW H×List MemPlace}(h:DataW.trod enc Tryz.prog W base sp held fuel 93 cs=some x)(hw:M3a Tryz.prog 93 x.1):∃c,N0a [] W cs c∧c.name.size≤140737488355328:=by
 obtain⟨_,_,_,hx,hl,b0,a0⟩:=DataW.trod_struct Tryz.underlying93 h;rw[hx] at hw;rw[a4a] at hl;obtain⟨_,t0,w0⟩:=R0a 0 9 0 b0 a0 Tryz.underlying93 hw rfl;obtain⟨_,t1,-⟩:=R0a 1 3 1 b0 a0 Tryz.underlying93 hw rfl;obtain⟨_,t2,w2⟩:=R0a 2 66 2 b0 a0 Tryz.underlying93 hw rfl;obtain⟨_,t3,w3⟩:=R0a 3 35 3 b0 a0 Tryz.underlying93 hw rfl;obtain⟨_,t4,w4⟩:=R0a 4 90 4 b0 a0 Tryz.underlying93 hw rfl;obtain⟨_,t5,w5⟩:=R0a 5 91 5 b0 a0 Tryz.underlying93 hw rfl;obtain⟨_,t6,-⟩:=R0a 6 4 6 b0 a0 Tryz.underlying93 hw rfl;simp only[f0b,m1b,b5b,g5b,h6b,X5b,N5b] at t0 t1 t2 t3 t4 t5 t6;obtain⟨_,_,_,_,_,_,_,rfl⟩:=L1d hl;simp only[List.drop_succ_cons,List.drop_zero,List.take_succ_cons,List.take_zero] at t0 t1 t2 t3 t4 t5 t6;obtain⟨m0,e0,s0,-⟩:=DataW.trod_string Tryz.underlying9 t0;obtain⟨m1,e1,-,f1⟩:=DataW.trod_int Tryz.underlying3 t1;obtain⟨x2,h2⟩:=s8b t2 w2;obtain⟨x3,h3⟩:=x8a t3 w3;obtain⟨x4,h4⟩:=L7b t4 w4;obtain⟨x5,h5⟩:=u8b t5 w5;obtain⟨m6,e6,-⟩:=DataW.trod_bool Tryz.underlying4 t6;cases e0;cases e1;cases e6;exact⟨⟨m0,m1,x2,x3,x4,x5,m6⟩,⟨_,_,_,_,rfl,I3a f1,h2,h3,h4,h5⟩,w7b s0 w0⟩
theorem G7c:1≤Tryz.prog.bytesOf 93:=of_decide_eq_true (by kernel_rfl)
theorem G4b{fuel:Nat}{v:Value}{x:DataW H×List MemPlace}(h:DataW.trod enc Tryz.prog W base sp held fuel 25 [v]=some x)(hw:M3a Tryz.prog 25 x.1):∃l,V0d [] W v l∧∀c∈l,c.name.size≤140737488355328:=by
 obtain⟨l,hl⟩:=i3a Tryz.underlying25 a4a (by omega) G7c (fun n cs y _ _ hy hl=>J5b hy hl) h hw;exact⟨l,hl.mono (fun _ _ h=>h.1),u6b hl (fun _ _ h=>h.2)⟩
theorem D3a:Tryz.prog.cellsOf 111=11:=by kernel_rfl
theorem z2b{fuel:Nat}{cs:List Value}{x:DataW H×List MemPlace}(h:DataW.trod enc Tryz.prog W base sp held fuel 111 cs=some x)(hw:M3a Tryz.prog 111 x.1):∃c,C1a [] W cs c∧c.name.size≤140737488355328∧c.owner.size≤140737488355328:=by
 obtain⟨_,_,_,hx,hl,b0,a0⟩:=DataW.trod_struct Tryz.underlying111 h;rw[hx] at hw;rw[D3a] at hl;obtain⟨_,t0,w0⟩:=R0a 0 9 0 b0 a0 Tryz.underlying111 hw rfl;obtain⟨_,t1,w1⟩:=R0a 1 9 1 b0 a0 Tryz.underlying111 hw rfl;obtain⟨_,t2,w2⟩:=R0a 2 68 2 b0 a0 Tryz.underlying111 hw rfl;obtain⟨_,t3,w3⟩:=R0a 3 68 6 b0 a0 Tryz.underlying111 hw rfl;obtain⟨_,t4,w4⟩:=R0a 4 35 10 b0 a0 Tryz.underlying111 hw rfl;simp only[f0b,a2a,g5b] at t0 t1 t2 t3 t4;obtain⟨_,_,_,_,_,_,_,_,_,_,_,rfl⟩:=A9c hl;simp only[List.drop_succ_cons,List.drop_zero,List.take_succ_cons,List.take_zero] at t0 t1 t2 t3 t4;obtain⟨m0,e0,s0,-⟩:=DataW.trod_string Tryz.underlying9 t0;obtain⟨m1,e1,s1,-⟩:=DataW.trod_string Tryz.underlying9 t1;obtain⟨x2,h2⟩:=D4a _ _ _ t2 w2;obtain⟨x3,h3⟩:=D4a _ _ _ t3 w3;obtain⟨x4,h4⟩:=x8a t4 w4;cases e0;cases e1;exact⟨⟨m0,m1,x2,x3,x4⟩,⟨_,_,_,_,_,_,_,_,_,rfl,h2,h3,h4⟩,w7b s0 w0,w7b s1 w1⟩
theorem i9b:1≤Tryz.prog.bytesOf 111:=of_decide_eq_true (by kernel_rfl)
theorem V0b{fuel:Nat}{v:Value}{x:DataW H×List MemPlace}(h:DataW.trod enc Tryz.prog W base sp held fuel 23 [v]=some x)(hw:M3a Tryz.prog 23 x.1):∃l,d1d [] W v l∧∀c∈l,c.name.size≤140737488355328∧c.owner.size≤140737488355328:=by
 obtain⟨l,hl⟩:=i3a Tryz.underlying23 D3a (by omega) i9b (fun n cs y _ _ hy hl=>z2b hy hl) h hw;exact⟨l,hl.mono (fun _ _ h=>h.1),u6b hl (fun _ _ h=>h.2)⟩
theorem K4a:Tryz.prog.cellsOf 113=6:=by kernel_rfl
theorem q0c{fuel:Nat}{cs:List Value}{x:DataW H×List MemPlace}(h:DataW.trod enc Tryz.prog W base sp held fuel 113 cs=some x)(hw:M3a Tryz.prog 113 x.1):∃c,w5a [] W cs c:=by
 obtain⟨_,_,_,hx,hl,b0,a0⟩:=DataW.trod_struct Tryz.underlying113 h;rw[hx] at hw;rw[K4a] at hl;obtain⟨_,t0,-⟩:=R0a 0 3 0 b0 a0 Tryz.underlying113 hw rfl;obtain⟨_,t1,w1⟩:=R0a 1 68 1 b0 a0 Tryz.underlying113 hw rfl;obtain⟨_,t2,-⟩:=R0a 2 3 5 b0 a0 Tryz.underlying113 hw rfl;simp only[m1b,a2a] at t0 t1 t2;obtain⟨_,_,_,_,_,_,rfl⟩:=q1d hl;simp only[List.drop_succ_cons,List.drop_zero,List.take_succ_cons,List.take_zero] at t0 t1 t2;obtain⟨m0,e0,-,f0⟩:=DataW.trod_int Tryz.underlying3 t0;obtain⟨x1,h1⟩:=D4a _ _ _ t1 w1;obtain⟨m2,e2,-,f2⟩:=DataW.trod_int Tryz.underlying3 t2;cases e0;cases e2;exact⟨⟨m0,x1,m2⟩,_,_,_,_,rfl,I3a f0,I3a f2,h1⟩
theorem M0d:1≤Tryz.prog.bytesOf 113:=of_decide_eq_true (by kernel_rfl)
theorem S7b{fuel:Nat}{v:Value}{x:DataW H×List MemPlace}(h:DataW.trod enc Tryz.prog W base sp held fuel 24 [v]=some x)(hw:M3a Tryz.prog 24 x.1):∃l,j1d [] W v l :=
 i3a Tryz.underlying24 K4a (by omega) M0d (fun n cs y _ _ hy hl=>q0c hy hl) h hw
theorem b6b:Tryz.prog.cellsOf 22=1:=by kernel_rfl
theorem S0b:Tryz.prog.cellsOf 23=1:=by kernel_rfl
theorem R5b:Tryz.prog.cellsOf 24=1:=by kernel_rfl
theorem x2b:Tryz.prog.cellsOf 25=1:=by kernel_rfl
theorem X5a:Tryz.prog.cellsOf 27=4:=by kernel_rfl
theorem x3b{fuel:Nat}{cs:List Value}{x:DataW H×List MemPlace}(h:DataW.trod enc Tryz.prog W base sp held fuel 27 cs=some x)(hw:M3a Tryz.prog 27 x.1):∃c,q1a [] W c cs∧y2b c:=by
 obtain⟨_,_,_,hx,hl,b0,a0⟩:=DataW.trod_struct Tryz.underlying27 h;rw[hx] at hw;rw[X5a] at hl;obtain⟨_,t0,w0⟩:=R0a 0 22 0 b0 a0 Tryz.underlying27 hw rfl;obtain⟨_,t1,w1⟩:=R0a 1 23 1 b0 a0 Tryz.underlying27 hw rfl;obtain⟨_,t2,w2⟩:=R0a 2 24 2 b0 a0 Tryz.underlying27 hw rfl;obtain⟨_,t3,w3⟩:=R0a 3 25 3 b0 a0 Tryz.underlying27 hw rfl;simp only[b6b,S0b,R5b,x2b] at t0 t1 t2 t3;obtain⟨_,_,_,_,rfl⟩:=I1d hl;simp only[List.drop_succ_cons,List.drop_zero,List.take_succ_cons,List.take_zero] at t0 t1 t2 t3;obtain⟨x0,h0⟩:=o8b t0 w0;obtain⟨x1,h1⟩:=V0b t1 w1;obtain⟨x2,h2⟩:=S7b t2 w2;obtain⟨x3,h3⟩:=G4b t3 w3;exact⟨⟨x0,x1,x2,x3⟩,⟨_,_,_,_,rfl,h0.1,h1.1,h2,h3.1⟩,⟨h0.2,h1.2,h3.2⟩⟩
theorem Z9b{W:World}:∀{l:List (String×DataW Unit)} {ps:List MemPlace},DataW.LaidVars Tryz.prog W l ps→∀{i:Nat} {x:String×DataW Unit},l[i]?=some x →
 ∃g t cs fuel p,Tryz.prog.globalNamed x.1=some g∧(Tryz.prog.globals[g]?).map (·.type)=some t∧W.var? Tryz.prog x.1=some cs∧DataW.trod (fun _=>()) Tryz.prog W 0 (fun _=>true) false fuel t cs.toList=some (x.2,p)
 | [],_,_,_,_,hi=>by simp at hi
 | y::l,ps,h,0,x,hi=>by
   obtain⟨g0,t0,a0,f0,p0,q0,d0,e0,h0,b0,-⟩:=h;cases hi;exact⟨g0,t0,a0,f0,p0,d0,e0,h0,b0⟩
 | y::l,ps,h,i+1,x,hi=>by
   obtain⟨g0,t0,a0,f0,p0,q0,d0,e0,h0,b0,hr,-⟩:=h;exact Z9b hr (by simpa using hi)
theorem g0d:Tryz.prog.globalNamed ((Rows.exploreClosureRow.laid[0]?.map (·.1)).getD "")=some 0:=by kernel_rfl
theorem G8c:(Tryz.prog.globals[0]?).map (·.type)=some 221:=by kernel_rfl
theorem F9c:Tryz.prog.cellsOf 221=9:=by kernel_rfl
theorem c2b{W:World}(h:laidMetH Tryz.prog Rows.exploreClosureRow.laid W):q3a [] W:=by
 rw[MakeChecks.laidMetH_plain _ _ _ (by kernel_rfl)] at h;obtain⟨_,e0,-⟩:=h;obtain⟨_,_,d0,_,_,h0,o0,p0,n0⟩:=Z9b e0 (i:=0) rfl;obtain rfl:=Option.some.inj (g0d.symm.trans h0);obtain rfl:=Option.some.inj (G8c.symm.trans o0);obtain⟨xs,_,rfl,b0,f0,_,g0⟩:=DataW.trod_array Tryz.underlying221 n0;rw[F9c] at f0;simp only[c3,Nat.mul_one] at g0;refine⟨by simp,fun i hi=>?_⟩;have a0:=World.var?_cell h0 p0 i;have i0:i<xs.length:=by omega
 have he:=g0 i (by omega);rw[List.getElem?_eq_getElem i0] at he;obtain⟨k,e1,e2,-⟩:=DataW.trod_int Tryz.underlying3 he;have q0:i<d0.toList.length:=by omega
 have j0:d0.toList[i]?=some (.int .i64 k):=by
  have h1:((d0.toList.drop i).take 1)[0]?=some (Value.int .i64 k):=by rw[e1];rfl
  rw[List.getElem?_take,if_pos (by omega),List.getElem?_drop] at h1;simpa using h1
 rw[a0];have e3:d0[i]?=some (.int .i64 k):=by simpa using j0
 rw[e3];have b0:(DataW.agg _=DataW.agg _∧_):=Prod.mk.inj b0;have b0:=DataW.agg.inj b0.1;have e4:(xs.map (·.1))[i]?=some (.lit (.int .i64 k)):=by rw[List.getElem?_map,List.getElem?_eq_getElem i0,e2];rfl
 rw[←b0] at e4;rcases(show i=0∨i=1∨i=2∨i=3∨i=4∨i=5∨i=6∨i=7∨i=8 by omega) with rfl|rfl|rfl|rfl|rfl|rfl|rfl|rfl|rfl<;>(cases e4;rfl)
end
theorem own:ownKnob Tryz.prog.godebug=none:=by kernel_rfl
theorem w6c:laidOutB Tryz.prog=true:=by kernel_rfl
abbrev C7a:List (String×DataW Unit):=Rows.exploreClosureRow.laid
theorem t4c(os:Os)(args:Array Value):laidMetH Tryz.prog C7a ((World.doorLaid Tryz.prog 400 os).forCall (fun _ _=>0) ⟨#[],args,[]⟩).memory :=
 laidMetH_of_parts3 (fuel:=8) (laidMet_of_run' 8 (by kernel_rfl) (by kernel_rfl)) (by kernel_rfl) (by kernel_rfl)
theorem k1c{H:Type}{enc:TypeId×Value→H}{W W':World}(hb:Below W.heap.size W W'):∀(ts:List TypeId),(∀t∈ts,Tryz.prog.readableRec t=true∧t<Tryz.prog.types.size)→∀(vs:List Value) (ds:List (DataW H)) (p:List MemPlace),
 (∀x∈p,x.block<W.heap.size)→DataW.TrodAll enc Tryz.prog W 0 (fun _=>true) true ts vs ds p→DataW.TrodAll enc Tryz.prog W' 0 (fun b=>decide (b<W.heap.size)) true ts vs ds p:=by
 intro ts
 induction ts with
 | nil =>
   intro _ vs ds p _ h;cases vs<;>cases ds<;>exact h
 | cons t ts ih =>
   intro ht vs ds p hp h;cases vs with
   | nil=>exact h.elim
   | cons v vs =>
     cases ds with
     | nil=>exact h.elim
     | cons d ds =>
       obtain⟨q,r,h1,h2,rfl⟩:=h;obtain⟨r1,r2⟩:=ht t (by simp);exact⟨q,r,Below.trod w6c r1 r2 h1 hb (fun x hx=>hp x (List.mem_append_left _ hx)),ih (fun t a0=>ht t (by simp[a0])) vs ds r (fun x hx=>hp x (List.mem_append_right _ hx)) h2,rfl⟩
theorem B9b{H:Type}{enc:TypeId×Value→H}{fn:Func}{s:ChangeSpec}{W W':World}{args:Array Value}{ds:List (DataW H)}{a0:List MemPlace}(hs:s.vars=[])(hr:fn.resultTypes=#[4])
 (e0:∀t∈fn.params.toList,Tryz.prog.readableRec t=true∧t<Tryz.prog.types.size) (hW:DataW.Whole enc Tryz.prog fn.params.toList s.vars false W args.toList ds [] a0)
 (e1:(s.fn H (ds++[])).results=[.lit (.bool true)]) (e2:(s.fn H (ds++[])).args=ds) (e3:(s.fn H (ds++[])).vars=[]) (hb:Below W.heap.size W W') :
 s.post enc Tryz.prog fn false true false false W args (.bool true) W':=by
 have d0:=hW.lt;obtain⟨_,_,hA,hV,b0,_,_⟩:=id hW;rw[hs] at hV;obtain⟨-,rfl⟩:=trodVars_none hV;rw[List.append_nil] at b0;subst b0;refine⟨ds,[],a0,[],a0,[],hW,?_,?_,?_,hb.frame _,fun h=>by cases h⟩
 ·rw[e1,hr];exact trodAll_mk1 (shut_bool Tryz.underlying4 true)
 ·rw[e2];exact k1c hb _ e0 _ _ _ d0 hA
 ·rw[e3,hs];rfl
theorem a3c{H:Type}{ts:List TypeId}{ds:List (DataW H)}(h:(DataW.weightsEach Tryz.prog ts ds).all (·≤reachBytes)=true){j:Nat}{t:TypeId}{d:DataW H}(ht:ts[j]?=some t)(hd:ds[j]?=some d):M3a Tryz.prog t d:=fun m hm=>by
 have:=List.all_eq_true.1 h m (DataW.weights_mem_each ht hd m hm);simpa using this
theorem E2b{f:FuncId}{args:Array Value}{W:World}{R:Value→World→Prop}{Q:Ending→World→Prop}(h:M0a Tryz.prog f args W R)(hQ:∀v W',R v W'→Q (.returned v) W'):Calls Tryz.prog f args W Q :=
 Calls.mono h fun _ _ ⟨v,he,hv⟩=>he▸hQ v _ hv
theorem z0c{size:Nat}:∀(css:List (List Value)) (i:Nat) (c:List Value),(∀x∈css,x.length=size)→css[i]?=some c→∀(j:Nat) (u:Value),c[j]?=some u→css.flatten[i*size+j]?=some u:=by
 intro css
 induction css with
 | nil=>intro i c _ h;simp at h
 | cons x xs ih =>
   intro i c h4 hi j u hj;have hx:=h4 x (by simp);cases i with
   | zero =>
     simp at hi;subst hi;have a0:j<x.length:=(List.getElem?_eq_some_iff.1 hj).1;rw[List.flatten_cons,Nat.zero_mul,Nat.zero_add,List.getElem?_append_left a0];exact hj
   | succ i =>
     have:=ih i c (fun y hy=>h4 y (by simp[hy])) (by simpa using hi) j u hj;have e:(i+1)*size+j=x.length+(i*size+j):=by rw[hx,Nat.add_mul];omega
     rw[List.flatten_cons,e,List.getElem?_append_right (by omega)];rw[show x.length+(i*size+j)-x.length=i*size+j by omega];exact this
theorem u3a{size:Nat}(css:List (List Value))(h4:∀x∈css,x.length=size):css.flatten.length=css.length*size:=by
 induction css with
 | nil=>simp
 | cons x xs ih=>rw[List.flatten_cons,List.length_append,ih (fun y hy=>h4 y (by simp[hy])),h4 x (by simp),List.length_cons,Nat.add_mul];omega
structure R5a {α:Type} (R:List Nat→World→List Value→α→Prop) (size:Nat):Prop where
 len:∀{M w cs x},R M w cs x→cs.length=size
 one:∀{M w cs x},R M w cs x→∀u∈cs,u.oneCell'=true
 keep:∀{M w w' cs x},y0a M w w'→R M w cs x→R M w' cs x
 more:∀{M M' w cs x},(∀g∈M',g∈M∨w.heap.size≤g)→R M w cs x→R M' w cs x
section
variable {α:Type} {R:List Nat→World→List Value→α→Prop} {size:Nat}
def B1a(R:List Nat→World→List Value→α→Prop)(size:Nat)(M:List Nat)(w:World)(G:Option Nat)(cs:List Value)(v:Value)(l:List α):Prop :=
 ∃css:List (List Value),css.length=l.length∧(∀x∈css,x.length=size)∧d3a G size l.length cs v css.flatten∧∀(i:Nat) (x:α),l[i]?=some x→∃c,css[i]?=some c∧R (G.toList++M) w c x
theorem B1a.keep(hL:R5a R size){M:List Nat}{w w':World}{G:Option Nat}{cs:List Value}{v:Value}{l:List α}(h:B1a R size M w G cs v l)(hk:y0a (G.toList++M) w w'):B1a R size M w' G cs v l:=by
 obtain⟨css,h1,h2,h3,h4⟩:=h;refine⟨css,h1,h2,h3,fun i x hi=>?_⟩;obtain⟨c,h5,h6⟩:=h4 i x hi;exact⟨c,h5,hL.keep hk h6⟩
theorem B1a.nil{M:List Nat}{w:World}:B1a R size M w none [] (.slice none 0 0) []:=⟨[],rfl,by simp,d3a.nil size,fun i x hi=>by simp at hi⟩
theorem B1a.new{M:List Nat}{w:World}{g:Nat}:B1a R size M w (some g) [] (.slice (some ⟨g,0,none⟩) 0 0) [] :=
 ⟨[],rfl,by simp,⟨by simp,.inr ⟨g,0,rfl,rfl,Nat.le_refl _,by unfold maxLen;omega,by simp,by simp⟩⟩,fun i x hi=>by simp at hi⟩
theorem B1a.form{M:List Nat}{w:World}{G:Option Nat}{cs:List Value}{v:Value}{l:List α}(h:B1a R size M w G cs v l):∃A c,v=.slice A l.length c:=by
 obtain⟨_,_,_,⟨_,hr⟩,_⟩:=h;rcases hr with⟨_,rfl,h0⟩|⟨g,a0,_,rfl,_⟩
 ·exact⟨_,_,by rw[h0]⟩
 ·exact⟨_,_,rfl⟩
theorem B1a.rd(hL:R5a R size){M M':List Nat}{w0 w:World}{L:List Ent}{k el:Nat}{G:Option Nat}{cs:List Value}{v:Value}{l:List α}(h:B1a R size M w G cs v l)(S:St M' w0 w L)(hk:L[k]?=some (G,el,cs))(hM:∀g,G=some g→g∉M)(hl:l.length≤1000000):RdS M w size (R M w) v l:=by
 obtain⟨css,h1,h2,⟨_,hr⟩,h4⟩:=h;rcases hr with⟨rfl,rfl,h0⟩|⟨g,b0,rfl,rfl,q1,q2,q3,q4⟩
 ·exact⟨none,0,0,rfl,by omega,by omega,by unfold maxLen;omega,by omega,fun h=>absurd h (by omega)⟩
 ·refine⟨_,_,_,rfl,rfl,q1,q2,by omega,fun _=>⟨g,0,rfl,hM g rfl,fun i x hi=>?_⟩⟩;obtain⟨c,h5,h6⟩:=h4 i x hi;refine⟨c,h2 c (List.mem_of_getElem? h5),fun j u hj=>?_,hL.more (fun x hx=>.inl (by simp[hx])) h6⟩;have hf:=z0c css i c h2 h5 j u hj;have a0:i*size+j<l.length*size:=by
   have:=(List.getElem?_eq_some_iff.1 hf).1;rw[u3a css h2,h1] at this;exact this
  rw[←q4,List.getElem?_take,if_pos a0] at hf;have:=S.cell k hk hf;simpa using this
theorem B1a.get{M M':List Nat}{w0 w:World}{L:List Ent}{k el:Nat}{G:Option Nat}{cs:List Value}{v:Value}{l:List α}(h:B1a R size M w G cs v l)(S:St M' w0 w L)(hk:L[k]?=some (G,el,cs)){i:Nat}{x:α}(hi:l[i]?=some x):
 ∃g a0 c,G=some g∧v=.slice (some ⟨g,0,none⟩) l.length a0∧c.length=size∧t1a w g (0+i*size) c∧R (G.toList++M) w c x:=by
 obtain⟨css,h1,h2,⟨_,hr⟩,h4⟩:=h;have d0:=(List.getElem?_eq_some_iff.1 hi).1;rcases hr with⟨rfl,rfl,h0⟩|⟨g,a0,rfl,rfl,q1,q2,q3,q4⟩
 ·omega
 ·obtain⟨c,h5,h6⟩:=h4 i x hi;refine⟨g,a0,c,rfl,rfl,h2 c (List.mem_of_getElem? h5),fun j u hj=>?_,h6⟩;have hf:=z0c css i c h2 h5 j u hj;have b0:i*size+j<l.length*size:=by
   have:=(List.getElem?_eq_some_iff.1 hf).1;rw[u3a css h2,h1] at this;exact this
  rw[←q4,List.getElem?_take,if_pos b0] at hf;have:=S.cell k hk hf;simpa using this
variable {P:Program} {r:Option Nat} {N:Nat} {D:List Deferred} {e:Env} {w w0:World} {ops:Array Oper} {rest:List Oper} {K:List Deferred→Env→World→Prop} {L:List Ent} {M:List Nat}
variable {d:Nat} {t:TypeId} {p:String} {af:Array Edge} {x y:Operand}
theorem D0b(hL:R5a R size){M2:List Nat}{ty el b0 k c b o m:Nat}{z v:Value}{G:Option Nat}{cs:List Value}{cs2:List (List Value)}{l l2:List α}(S:St M w0 w L)(hS:SlZ P ty el size z b0)(D0:b0≤1000)(hk:L[k]?=some (G,el,cs))(hR:B1a R size M2 w G cs v l)
 (hx:ev e x=v) (hy:ev e y=.slice (some ⟨b,o,none⟩) m c) (hm:m=l2.length) (y0:cs2.length=l2.length) (j0:t1a w b o cs2.flatten) (he:∀(i:Nat) (x:α),l2[i]?=some x→∃c,cs2[i]?=some c∧R (G.toList++M2) w c x) (I0:l.length+l2.length≤1000000) (hd:Nat.ble (d+1) N=true)
 (h:∀v' G' o0 w1,St M w0 w1 (L.set k (G',el,o0))→B1a R size M2 w1 G' o0 v' (l++l2)→y0a G.toList w w1→(∀g∈G'.toList,g∈G.toList∨w.heap.size≤g)→WL P r N ops rest K D (upd e d v') w1) :
 WL P r N ops (⟨some d,.call { callee:=.builtin .append,args:=#[x,y],argTypes:=#[ty,ty] },t,p,af,none⟩::rest) K D e w:=by
 subst hm;obtain⟨css,c1,c2,c3,c4⟩:=hR;have v0:∀x∈cs2,∃a,R (G.toList++M2) w x a:=fun x hx=>by
  obtain⟨i,hi,rfl⟩:=List.getElem_of_mem hx;obtain⟨c,h5,h6⟩:=he i l2[i] (List.getElem?_eq_getElem (by omega));rw[List.getElem?_eq_getElem hi] at h5;cases h5;exact⟨_,h6⟩
 have i0:∀x∈cs2,x.length=size:=fun x hx=>let ⟨_,ha⟩:=v0 x hx;hL.len ha;have s0:∀u∈cs2.flatten,u.oneCell'=true:=fun u hu=>by
  obtain⟨x,hx,hu⟩:=List.mem_flatten.1 hu;obtain⟨_,ha⟩:=v0 x hx;exact hL.one ha u hu
 obtain⟨i,hi,hz,H0,C0⟩:=hS.parts;obtain⟨t0,hG⟩:=c3.own S hk;have B0:(l.length+l2.length)*b0≤140737488355328:=by
  have:(l.length+l2.length)*b0≤1000000*1000:=Nat.mul_le_mul (by omega) D0;omega
 obtain⟨v',w1,u0,n0,a0,_,h0⟩:=run_append_own_at (P:=P) w 0 ty t el i z size b0 hS.und hi hz H0 C0 hS.zs hS.pos v l.length css.flatten t0 ⟨b,o,none⟩ l2.length c cs2.flatten (by rw[u3a cs2 i0,y0])
  (fun j u hj=>by rw[Addr.add_lit];exact j0 j u hj) s0 (by unfold maxLen;omega) B0 (Nat.zero_le _)
 obtain⟨G',o0,A0,p0,r0⟩:=E8a n0;have e0:∀q,q<w.heap.size→G≠some q→w1.heap[q]?=w.heap[q]?:=fun q hq G0=>a0.block q hq (fun hh=>G0 (by rw[←hG,←hh]));have g0:F0a M w0 w1:=⟨a0.os.trans S.below.os,a0.tape.trans S.below.tape,a0.output.trans S.below.output,Nat.le_trans S.size a0.size,fun q hq hm =>
  (e0 q (Nat.lt_of_lt_of_le hq S.size) (fun hh=>by
    subst hh;rcases S.new k hk with h'|h'
    ·omega
    ·exact hm h')).trans (S.below.block q hq hm)⟩
 have f0:y0a G.toList w w1:=⟨a0.size,fun q hq hm=>e0 q hq (fun hh=>hm (by rw[hh];simp))⟩;have d0:∀g∈G'.toList,g∈G.toList∨w.heap.size≤g:=by
  intro g hg;have x0:G'=some g:=by cases G' with
   | none=>simp at hg
   | some q=>simp at hg;rw[hg]
  rcases h0 with hb|hb
  ·left;have q0:G=some g:=by rw[←hG,←hb,p0];exact x0
   rw[q0];simp
  ·rw[p0,x0] at hb;cases hb;exact .inr (Nat.le_refl _)
 refine k1a (v:=v') (w':=w1) rfl rfl hd (by simp) ?_ (h v' G' o0 w1 (S.replace k hk g0 e0 (fun g hg=>?_)) ?_ f0 d0)
 ·simp[execOp,resolve,invoke,builtin,hx,hy,u0]
 ·obtain⟨_,h3⟩:=r0 g hg;rcases h0 with hb|hb
  ·have q0:G=some g:=by rw[←hG,←hb,p0];exact hg
   subst q0;exact⟨S.new k hk,h3,.inl rfl⟩
  ·have E0:G'=some g:=hg;rw[p0,E0] at hb;cases hb;exact⟨.inl S.size,h3,.inr (Nat.le_refl _)⟩
 ·have z0:∀(e2:α) (c:List Value),R (G.toList++M2) w c e2→R (G'.toList++M2) w1 c e2:=by
   intro e2 c hr;have h5:R (G.toList++(G'.toList++M2)) w c e2:=hL.more (fun g hg=>by
    rcases List.mem_append.1 hg with hg|hg
    ·exact .inl (List.mem_append_left _ hg)
    ·rcases List.mem_append.1 hg with hg|hg
     ·rcases d0 g hg with h|h
      ·exact .inl (List.mem_append_left _ h)
      ·exact .inr h
     ·exact .inl (List.mem_append_right _ hg)) hr
   exact hL.more (fun g hg=>.inl (List.mem_append_right _ hg)) (hL.keep (f0.mono (fun g hg=>List.mem_append_left _ hg)) h5)
  refine⟨css++cs2,by simp[c1,y0],fun x hx=>?_,?_,fun i x hi=>?_⟩
  ·rcases List.mem_append.1 hx with hx|hx
   ·exact c2 x hx
   ·exact i0 x hx
  ·have e1:(l++l2).length=l.length+l2.length:=by simp
   rw[e1,List.flatten_append];exact A0
  ·by_cases F0:i<l.length
   ·rw[List.getElem?_append_left F0] at hi;obtain⟨c,h5,h6⟩:=c4 i x hi;exact⟨c,by rw[List.getElem?_append_left (by omega)];exact h5,z0 _ _ h6⟩
   ·rw[List.getElem?_append_right (by omega)] at hi;obtain⟨c,h5,h6⟩:=he _ x hi;exact⟨c,by rw[List.getElem?_append_right (by omega),c1];exact h5,z0 _ _ h6⟩
theorem Y0a(hL:R5a R size){M2:List Nat}{ty el a0 k c b o:Nat}{z v:Value}{G:Option Nat}{cs news:List Value}{l:List α}{e1:α}(S:St M w0 w L)(hS:SlZ P ty el size z a0)(e0:a0≤1000)(hk:L[k]?=some (G,el,cs))(hR:B1a R size M2 w G cs v l)
 (hx:ev e x=v) (hy:ev e y=.slice (some ⟨b,o,none⟩) 1 c) (b0:t1a w b o news) (he:R (G.toList++M2) w news e1) (f0:l.length+1≤1000000) (hd:Nat.ble (d+1) N=true)
 (h:∀v' G' d0 w1,St M w0 w1 (L.set k (G',el,d0))→B1a R size M2 w1 G' d0 v' (l++[e1])→y0a G.toList w w1→(∀g∈G'.toList,g∈G.toList∨w.heap.size≤g)→WL P r N ops rest K D (upd e d v') w1) :
 WL P r N ops (⟨some d,.call { callee:=.builtin .append,args:=#[x,y],argTypes:=#[ty,ty] },t,p,af,none⟩::rest) K D e w :=
 D0b hL (cs2:=[news]) (l2:=[e1]) S hS e0 hk hR hx hy rfl rfl (by simpa using b0) (fun i x hi=>by
  cases i with
  | zero=>simp at hi;subst hi;exact⟨news,rfl,he⟩
  | succ i=>simp at hi) (by simpa using f0) hd h
end
theorem RdS.all{α:Type}{M:List Nat}{w:World}{size:Nat}{R:List Value→α→Prop}{A:Option Addr}{n c b o:Nat}{l:List α}(h:RdS M w size R (.slice A n c) l)(hA:A=some ⟨b,o,none⟩)(h0:0<l.length):
 ∃css:List (List Value),css.length=l.length∧t1a w b o css.flatten∧∀(i:Nat) (x:α),l[i]?=some x→∃c,css[i]?=some c∧R c x:=by
 obtain⟨h1,_,_,_,h5⟩:=h.at;obtain⟨_,_,a0,_,b0⟩:=h5 (by omega);rw[hA] at a0;cases a0;have key:∀(l2:List α) (q:Nat),(∀i x,l2[i]?=some x→∃cs,cs.length=size∧t1a w b (q+i*size) cs∧R cs x)→∃css:List (List Value),css.length=l2.length∧t1a w b q css.flatten∧∀(i:Nat) (x:α),l2[i]?=some x→∃c,css[i]?=some c∧R c x:=by
  intro l2
  induction l2 with
  | nil=>intro q _;exact⟨[],rfl,fun j v hj=>by simp at hj,fun i x hi=>by simp at hi⟩
  | cons a l2 ih =>
    intro q hq;obtain⟨cs,_,k2,k3⟩:=hq 0 a rfl;obtain⟨css,m1,m2,m3⟩:=ih (q+size) (fun i x hi=>by
     obtain⟨cs,n1,n2,n3⟩:=hq (i+1) x (by simpa using hi);exact⟨cs,n1,by rw[show q+size+i*size=q+(i+1)*size by rw[Nat.add_mul];omega];exact n2,n3⟩)
    refine⟨cs::css,by simp[m1],fun j v hj=>?_,fun i x hi=>?_⟩
    ·rw[List.flatten_cons] at hj;by_cases d0:j<cs.length
     ·rw[List.getElem?_append_left d0] at hj;have:=k2 j v hj;simpa using this
     ·rw[List.getElem?_append_right (by omega)] at hj;have:=m2 (j-cs.length) v hj;rw[show q+size+(j-cs.length)=q+j by omega] at this;exact this
    ·cases i with
     | zero=>simp at hi;subst hi;exact⟨cs,rfl,k3⟩
     | succ i =>
       obtain⟨c,h1,h2⟩:=m3 i x (by simpa using hi);exact⟨c,by simpa using h1,h2⟩
 exact key l o b0
section
variable {α:Type} {R:List Nat→World→List Value→α→Prop} {size:Nat}
variable {P:Program} {r:Option Nat} {N:Nat} {D:List Deferred} {e:Env} {w w0:World} {ops:Array Oper} {rest:List Oper} {K:List Deferred→Env→World→Prop} {L:List Ent} {M:List Nat}
variable {d:Nat} {t:TypeId} {p:String} {af:Array Edge} {x y:Operand}
theorem t0b(hL:R5a R size){M2:List Nat}{ty el d0 k c b o:Nat}{z v:Value}{G:Option Nat}{cs a0 b0:List Value}{l:List α}{e1 e2:α}(S:St M w0 w L)(hS:SlZ P ty el size z d0)(g0:d0≤1000)(hk:L[k]?=some (G,el,cs))(hR:B1a R size M2 w G cs v l)
 (hx:ev e x=v) (hy:ev e y=.slice (some ⟨b,o,none⟩) 2 c) (e0:t1a w b o (a0++b0)) (h1:R (G.toList++M2) w a0 e1) (h2:R (G.toList++M2) w b0 e2) (h0:l.length+2≤1000000) (hd:Nat.ble (d+1) N=true)
 (h:∀v' G' f0 w1,St M w0 w1 (L.set k (G',el,f0))→B1a R size M2 w1 G' f0 v' (l++[e1,e2])→y0a G.toList w w1→(∀g∈G'.toList,g∈G.toList∨w.heap.size≤g)→WL P r N ops rest K D (upd e d v') w1) :
 WL P r N ops (⟨some d,.call { callee:=.builtin .append,args:=#[x,y],argTypes:=#[ty,ty] },t,p,af,none⟩::rest) K D e w :=
 D0b hL (cs2:=[a0,b0]) (l2:=[e1,e2]) S hS g0 hk hR hx hy rfl rfl (by simpa using e0) (fun i x hi=>by
  match i,hi with
  | 0,hi=>simp at hi;subst hi;exact⟨a0,rfl,h1⟩
  | 1,hi=>simp at hi;subst hi;exact⟨b0,rfl,h2⟩
  | i+2,hi=>simp at hi) (by simpa using h0) hd h
end
def p7c(M:List Nat)(w0:World)(cs:List Value)(e:E):Prop:=RdE M w0 e cs
theorem o7a(M:List Nat)(w0:World):R5a (fun(_:List Nat) (_:World)=>p7c M w0) 4 where
 len h:=RdE.length h
 one h u hu:=by
  obtain⟨_,_,_,rfl,-⟩:=RdE.open_ h;simp at hu;rcases hu with rfl|rfl|rfl|rfl<;>rfl
 keep _ h:=h
 more _ h:=h
section
variable {P:Program} {r:Option Nat} {N:Nat} {D:List Deferred} {e:Env} {w w0:World} {ops:Array Oper} {rest:List Oper} {K:List Deferred→Env→World→Prop} {L:List Ent} {M:List Nat}
variable {d:Nat} {t:TypeId} {p:String} {af:Array Edge} {f:FuncId} {args:Array Operand} {at_:Array TypeId} {vs:List Value} {x:Operand}
theorem x3c{α:Type}{l:List α}{k:Nat}{x:α}(h:l[k]?=some x):l.set k x=l:=by
 obtain⟨a0,he⟩:=List.getElem?_eq_some_iff.1 h;rw[←he];exact List.set_getElem_self a0
theorem D0c{α:Type}{R0:List Value→α→Prop}{size:Nat}(hL:R5a (fun(_:List Nat) (_:World)=>R0) size){M2 M3:List Nat}{ty el a0 k c m:Nat}{A2:Option Addr}{y:Operand}{z v:Value}{G:Option Nat}{cs:List Value}{l l2:List α}(S:St M w0 w L)(hS:SlZ P ty el size z a0)(f0:a0≤1000)(hk:L[k]?=some (G,el,cs))(hR:B1a (fun _ _=>R0) size M2 w G cs v l)
 (hx:ev e x=v) (hy:ev e y=.slice A2 m c) (h2:RdS M3 w size R0 (.slice A2 m c) l2) (g0:l.length+l2.length≤1000000) (hd:Nat.ble (d+1) N=true)
 (h:∀v' G' d0 w1,St M w0 w1 (L.set k (G',el,d0))→B1a (fun _ _=>R0) size M2 w1 G' d0 v' (l++l2)→y0a G.toList w w1→(∀g∈G'.toList,g∈G.toList∨w.heap.size≤g)→WL P r N ops rest K D (upd e d v') w1) :
 WL P r N ops (⟨some d,.call { callee:=.builtin .append,args:=#[x,y],argTypes:=#[ty,ty] },t,p,af,none⟩::rest) K D e w:=by
 obtain⟨hm,-,-⟩:=h2.len;by_cases h0:l2=[]
 ·subst h0;obtain⟨A,c',rfl⟩:=hR.form;have i0:m=0:=by simpa using hm
  subst i0;have j0:l.length≤c':=by
   obtain⟨css,_,_,q3,_⟩:=hR;rcases q3.2 with⟨-,q5,q6⟩|⟨g,n0,-,q5,q6,-⟩
   ·simp only[Value.slice.injEq] at q5;omega
   ·simp only[Value.slice.injEq] at q5;omega
  refine U4b hS hx j0 hy hd ?_;have:=h (.slice A l.length c') G cs w (by rw[x3c hk];exact S) (by rw[List.append_nil];exact hR) (y0a.refl _ _) (fun g hg=>.inl hg);exact this
 ·have b0:0<l2.length:=List.length_pos_iff.2 h0;obtain⟨b,o,hA⟩:∃b o,A2=some ⟨b,o,none⟩:=by
   obtain⟨_,_,_,_,h5⟩:=h2.at;obtain⟨b',o',e0,-⟩:=h5 (by omega);exact⟨b',o',e0⟩
  obtain⟨css,c1,c2,c3⟩:=RdS.all h2 hA b0;subst hA;exact D0b hL S hS f0 hk hR hx hy hm c1 c2 c3 g0 hd h
end
theorem x8b(p:f0a)(M:List Nat)(w0:World)(cs:List Value)(hP:q1a M w0 p cs):
 M0a Tryz.prog 32 #[.agg cs.toArray] w0 fun v w'=>(∃b,v=.bool b∧(b=true→True))∧Below w0.heap.size w0 w':=by
 obtain⟨Ac,nc,cc,Am,nm,cm,Al,nl,cl,At,nt,ct,rfl,_,G3,F3,H3,_,_,_,_,_,_,_,_⟩:=hP.open_;have S:=(St.refl w0).nilEnt 68;refine a0a Tryz.func32 rfl Tryz.ntmps32 rfl ?_;refine wO0 rfl ⟨⟩ (h0a S (by conv=>lhs;whnf) rfl ?_);intro g1 w1 S1 X1 G1;refine lB S1.k [.o 0] rfl ⟨rfl,⟨⟩⟩ (fun u3=>?_) fun u3=>?_
 ·exact lT rfl ⟨⟩ rfl ⟨⟨_,rfl,fun _=>trivial⟩,S1.fin⟩
 refine lB S1.k [.o 0] rfl ⟨rfl,⟨⟩⟩ (fun v3=>?_) fun v3=>?_
 ·exact lT rfl ⟨⟩ rfl ⟨⟨_,rfl,fun _=>trivial⟩,S1.fin⟩
 refine lB S1.k [.o 0] rfl ⟨rfl,⟨⟩⟩ (fun w3=>?_) fun w3=>?_
 ·exact lT rfl ⟨⟩ rfl ⟨⟨_,rfl,fun _=>trivial⟩,S1.fin⟩
 refine lB S1.k [.o 0] rfl ⟨rfl,⟨⟩⟩ (fun x3=>?_) fun x3=>?_
 ·exact lT rfl ⟨⟩ rfl ⟨⟨_,rfl,fun _=>trivial⟩,S1.fin⟩
 refine lC S1.k [.o 0] rfl ⟨rfl,⟨⟩⟩ (wL (fun μk D ε w=>D=[]∧∃k:Nat,∃G:Option Nat,∃j0:List Value,∃v:Value,∃l:List E,(k+μk=(p.modules.length))∧(l.length≤2*k)∧(B1a (fun _ _=>p7c M w0) 4 [] w0 G j0 v l)∧St [] w0 w [(some g1,27,[.slice Ac nc cc,.slice Am nm cm,.slice Al nl cl,.slice At nt ct]),(G,68,j0)]∧Sl ε [(1,.pointer (some ⟨g1,0,none⟩)),(3,v),(41,.slice Am nm cm),(42,.int .i64 nm),(43,.int .i64 k)]) (μ:=(p.modules.length)) ⟨rfl,0,none,[],.slice none 0 0,[],by omega,by simp,B1a.nil,S1,rfl⟩ ?_);rintro μk D ε w ⟨rfl,k,G,j0,v,l,hk,hl,d0,S,eZ⟩;refine wK eZ (wB0 rfl ⟨⟩ (fun y3=>?_) fun y3=>?_)
 ·obtain⟨mo,m3,I3,_,_,U1,_,g2,b2,j2⟩:=RdS.get (G3) (k) (by omega);obtain⟨_,_,_,_,_,_,_,_,_,rfl,a2,Z1,_,_,_⟩:=C1a.open_ j2;refine lO (S.k.a b2) [.x m3 I3,.v 0] rfl ⟨⟨rfl,g2⟩,⟨U1,by omega⟩,⟨⟩⟩ (m0a S O0c rfl rfl ?_);intro g5 w5 S5 X5 G5;refine e0a (kk:=0) (vs:=[_,_,_,_,_,_,_,_,_,_,_]) S5 B1c rfl rfl rfl rfl rfl rfl rfl ?_;intro U3 s0 j3;dsimp only[k0a,List.set] at s0;refine lOn 3 s0.k [] rfl ⟨⟩ (Z0a (by conv=>lhs;whnf) rfl ?_);refine lO s0.k [.o 0,.o 0] rfl ⟨rfl,rfl,⟨⟩⟩ (u0a s0 j1a (vs:=[.agg _,.agg _]) (cs:=[_,_,_,_,_,_,_,_]) (by rfl) rfl rfl rfl rfl rfl rfl ?_);intro u4 D4 u2 m4 d4;refine t0b (o7a M w0) (k:=3) (M2:=[]) (e1:=mo.rely) (e2:=mo.guar) u2 j1a (by decide) rfl d0 rfl rfl (u2.cells 0 rfl) a2 Z1 (by omega) rfl ?_;intro x4 e4 p3 E4 Z2 O0 n4 V3;refine P0a (by conv=>lhs;whnf) rfl ?_;refine lP0 rfl ⟨by omega,⟨⟩⟩ ?_;refine⟨μk-1,by omega,rfl,(k+1),(_),(_),(_),(l++[mo.rely,mo.guar]),(by omega),(by simp;omega),(O0),Z2.tail.tail,rfl⟩
 refine lC S.k [.o 0] rfl ⟨rfl,⟨⟩⟩ (wL (fun μk D ε w=>D=[]∧∃k:Nat,∃G:Option Nat,∃j0:List Value,∃v:Value,∃l:List E,(k+μk=(p.locks.length))∧(l.length≤8+k)∧(B1a (fun _ _=>p7c M w0) 4 [] w0 G j0 v l)∧St [] w0 w [(some g1,27,[.slice Ac nc cc,.slice Am nm cm,.slice Al nl cl,.slice At nt ct]),(G,68,j0)]∧Sl ε [(1,.pointer (some ⟨g1,0,none⟩)),(3,v),(56,.slice Al nl cl),(57,.int .i64 nl),(58,.int .i64 k)]) (μ:=(p.locks.length)) ⟨rfl,0,G,j0,v,l,by omega,by omega,d0,S,rfl⟩ ?_);rintro μk D ε w ⟨rfl,k,G,j0,v,l,hk,hl,d0,S,eZ⟩;refine wK eZ (wB0 rfl ⟨⟩ (fun z3=>?_) fun z3=>?_)
 ·obtain⟨lk,n3,J3,_,_,V1,_,h2,d2,m2⟩:=RdS.get (F3) (k) (by omega);obtain⟨_,_,_,rfl,_,_,Y1⟩:=w5a.open_ m2;refine lO (S.k.a d2) [.x n3 J3,.v 0] rfl ⟨⟨rfl,h2⟩,⟨V1,by omega⟩,⟨⟩⟩ (m0a S N1c rfl rfl ?_);intro g7 w7 S7 X7 G7;refine e0a (kk:=0) (vs:=[_,_,_,_,_,_]) S7 s0c rfl rfl rfl rfl rfl rfl rfl ?_;intro F2 f0 x2;dsimp only[k0a,List.set] at f0;refine lOn 3 f0.k [] rfl ⟨⟩ (Z0a (by conv=>lhs;whnf) rfl ?_);refine lO f0.k [.o 0] rfl ⟨rfl,⟨⟩⟩ (u0a f0 j1a (vs:=[.agg _]) (cs:=[_,_,_,_]) (by rfl) rfl rfl rfl rfl rfl rfl ?_);intro w4 F4 v2 o4 f4;refine Y0a (o7a M w0) (k:=3) (M2:=[]) (e1:=lk.inv) v2 j1a (by decide) rfl d0 rfl rfl (v2.cells 0 rfl) Y1 (by omega) rfl ?_;intro y4 g4 q3 H4 a3 P0 p4 W3;refine P0a (by conv=>lhs;whnf) rfl ?_;refine lP0 rfl ⟨by omega,⟨⟩⟩ ?_;refine⟨μk-1,by omega,rfl,(k+1),(_),(_),(_),(l++[lk.inv]),(by omega),(by simp;omega),(P0),a3.tail.tail,rfl⟩
 refine lC S.k [.o 0] rfl ⟨rfl,⟨⟩⟩ (wL (fun μk D ε w=>D=[]∧∃k:Nat,∃G:Option Nat,∃j0:List Value,∃v:Value,∃l:List E,(k+μk=(p.threads.length))∧(l.length≤11+100*k)∧(B1a (fun _ _=>p7c M w0) 4 [] w0 G j0 v l)∧St [] w0 w [(some g1,27,[.slice Ac nc cc,.slice Am nm cm,.slice Al nl cl,.slice At nt ct]),(G,68,j0)]∧Sl ε [(3,v),(69,.slice At nt ct),(70,.int .i64 nt),(71,.int .i64 k)]) (μ:=(p.threads.length)) ⟨rfl,0,G,j0,v,l,by omega,by omega,d0,S,rfl⟩ ?_);rintro μk D ε w ⟨rfl,k,G,j0,v,l,hk,hl,d0,S,eZ⟩;refine wK eZ (wB0 rfl ⟨⟩ (fun A3=>?_) fun A3=>?_)
 ·obtain⟨th,o3,K3,_,_,W1,_,i2,f2,n2⟩:=RdS.get (H3) (k) (by omega);obtain⟨I0,R0,L0,J0,S0,N0,n0,e0,o0,r0,p0,t0,rfl,_,h1,_,m1,j1,_,_,_,_,_,_,_,_⟩:=N0a.open_ n2;refine lO (S.k.a f2) [.x o3 K3,.v 0] rfl ⟨⟨rfl,i2⟩,⟨W1,by omega⟩,⟨⟩⟩ (m0a S F4b rfl rfl ?_);intro g9 w9 S9 X9 G9;refine e0a (kk:=0) (vs:=[_,_,_,_,_,_,_]) S9 O3b rfl rfl rfl rfl rfl rfl rfl ?_;intro G2 a0 y2;dsimp only[k0a,List.set] at a0;refine lB a0.k [.o 0] rfl ⟨rfl,⟨⟩⟩ (fun B3=>?_) fun B3=>?_
  ·exact lT rfl ⟨⟩ rfl ⟨⟨_,rfl,fun _=>trivial⟩,a0.fin⟩
  refine lB a0.k [.o 0] rfl ⟨rfl,⟨⟩⟩ (fun C3=>?_) fun C3=>?_
  ·exact lT rfl ⟨⟩ rfl ⟨⟨_,rfl,fun _=>trivial⟩,a0.fin⟩
  refine lB a0.k [.o 0] rfl ⟨rfl,⟨⟩⟩ (fun D3=>?_) fun D3=>?_
  ·exact lT rfl ⟨⟩ rfl ⟨⟨_,rfl,fun _=>trivial⟩,a0.fin⟩
  refine lOn 8 a0.k [] rfl ⟨⟩ (Z0a (by conv=>lhs;whnf) rfl ?_);refine lO a0.k [.o 0] rfl ⟨rfl,⟨⟩⟩ (D0c (o7a M w0) (k:=2) (M2:=[]) a0 j1a (by decide) rfl d0 rfl rfl (RdS.keepW h1 (a0.keep0 M) (fun _ _ h=>h)) (by omega) rfl ?_);intro N3 U2 M1 I4 w2 Q0 q4 X3;refine P0a (by conv=>lhs;whnf) rfl ?_;refine lC w2.k [.o 0] rfl ⟨rfl,⟨⟩⟩ ?_;refine wL (fun μj D ε w=>D=[]∧∃j:Nat,∃G4:Option Nat,∃z1:List Value,∃v4:Value,∃l4:List E,(j+μj=(th.steps.length))∧(l4.length≤23+100*k+7*j)∧(B1a (fun _ _=>p7c M w0) 4 [] w0 G4 z1 v4 l4)∧St [] w0 w [(some g9,93,[.string th.name,.int .i64 th.points,.slice I0 R0 L0,.slice J0 S0 N0,.slice n0 e0 o0,.slice r0 p0 t0,.bool th.asleep]),(some g1,27,[.slice Ac nc cc,.slice Am nm cm,.slice Al nl cl,.slice At nt ct]),(G4,68,z1)]∧Sl ε [(3,v4),(9,.pointer (some ⟨g9,0,none⟩)),(69,.slice At nt ct),(70,.int .i64 nt),(71,.int .i64 k),(96,.slice n0 e0 o0),(97,.int .i64 e0),(98,.int .i64 j)]) (μ:=(th.steps.length)) ⟨rfl,0,U2,M1,N3,l++th.asserts,by omega,by simp;omega,Q0,w2,rfl⟩ ?_;rintro μj D ε w ⟨rfl,j,G4,z1,v4,l4,hj,_,E0,S,eZ⟩;refine wK eZ (wB0 rfl ⟨⟩ (fun E3=>?_) fun E3=>?_)
  ·obtain⟨s,E1,o2,_,_,Y0,_,r1,n1,v1⟩:=RdS.get (m1) (j) (by omega);obtain⟨z0,H0,B0,A0,q0,C0,rfl,⟨_,_,_,_,_⟩,i1,u0,_,_⟩:=q2a.open_ v1;refine lO (S.k.a n1) [.x E1 o2,.v 0] rfl ⟨⟨rfl,r1⟩,⟨Y0,by omega⟩,⟨⟩⟩ (m0a S S5b rfl rfl ?_);intro r3 z4 V2 h4 Y3;refine e0a (kk:=0) (vs:=[_,_,_,_,_,_,_,_,_,_,_]) V2 x6b rfl rfl rfl rfl rfl rfl rfl ?_;intro H2 b0 z2;dsimp only[k0a,List.set] at b0;refine lB b0.k [.o 0] rfl ⟨rfl,⟨⟩⟩ (fun O1=>?_) fun O1=>?_
   ·exact lT rfl ⟨⟩ rfl ⟨⟨_,rfl,fun _=>trivial⟩,b0.fin⟩
   refine lOn 7 b0.k [] rfl ⟨⟩ (Z0a (by conv=>lhs;whnf) rfl ?_);refine lO b0.k [.o 0] rfl ⟨rfl,⟨⟩⟩ (u0a b0 j1a (vs:=[.agg _]) (cs:=[_,_,_,_]) (by rfl) rfl rfl rfl rfl rfl rfl ?_);intro N1 O3 T0 b3 P2;refine Y0a (o7a M w0) (k:=4) (M2:=[]) (e1:=s.guard) T0 j1a (by decide) rfl E0 rfl rfl (T0.cells 0 rfl) i1 (by omega) rfl ?_;intro s2 A1 X0 P3 U0 v0 d3 L2;refine P0a (by conv=>lhs;whnf) rfl ?_;refine lC U0.k [.o 1] rfl ⟨rfl,⟨⟩⟩ ?_;refine wL (fun μi D ε w=>D=[]∧∃i:Nat,∃G5:Option Nat,∃J1:List Value,∃v5:Value,∃l5:List E,(i+μi=(s.set.length))∧(l5.length≤23+100*k+7*j+1+i)∧(B1a (fun _ _=>p7c M w0) 4 [] w0 G5 J1 v5 l5)∧St [] w0 w [(some N1,68,[.int .i64 s.guard.op,.int .i64 s.guard.w,.int .i64 s.guard.n,.slice z0 H0 B0]),(some r3,97,[.int .i64 s.kind,.int .i64 s.frm,.int .i64 s.to,.int .i64 s.guard.op,.int .i64 s.guard.w,.int .i64 s.guard.n,.slice z0 H0 B0,.slice A0 q0 C0,.bool s.release,.int .i64 s.target,.int .i64 s.module_]),(some g9,93,[.string th.name,.int .i64 th.points,.slice I0 R0 L0,.slice J0 S0 N0,.slice n0 e0 o0,.slice r0 p0 t0,.bool th.asleep]),(some g1,27,[.slice Ac nc cc,.slice Am nm cm,.slice Al nl cl,.slice At nt ct]),(G5,68,J1)]∧Sl ε [(3,v5),(9,.pointer (some ⟨g9,0,none⟩)),(69,.slice At nt ct),(70,.int .i64 nt),(71,.int .i64 k),(96,.slice n0 e0 o0),(97,.int .i64 e0),(98,.int .i64 j),(112,.slice A0 q0 C0),(113,.int .i64 q0),(114,.int .i64 i)]) (μ:=(s.set.length)) ⟨rfl,0,A1,X0,s2,l4++[s.guard],by omega,by simp;omega,v0,U0,rfl⟩ ?_;rintro μi D ε w ⟨rfl,i,G5,J1,v5,l5,_,_,F0,S,eZ⟩;refine wK eZ (wB0 rfl ⟨⟩ (fun P1=>?_) fun P1=>?_)
   ·obtain⟨a,F1,p2,_,_,Z0,_,s1,o1,x1⟩:=RdS.get (u0) (i) (by omega);obtain⟨_,_,_,rfl,_,d1⟩:=U0a.open_ x1;refine lO (S.k.a o1) [.x F1 p2,.v 0] rfl ⟨⟨rfl,s1⟩,⟨Z0,by omega⟩,⟨⟩⟩ (m0a S c8a rfl rfl ?_);intro r4 A4 W2 i4 Z3;refine e0a (kk:=0) (vs:=[_,_,_,_,_]) W2 d8a rfl rfl rfl rfl rfl rfl rfl ?_;intro I2 g0 A2;dsimp only[k0a,List.set] at g0;refine lOn 3 g0.k [] rfl ⟨⟩ (Z0a (by conv=>lhs;whnf) rfl ?_);refine lO g0.k [.o 0] rfl ⟨rfl,⟨⟩⟩ (u0a g0 j1a (vs:=[.agg _]) (cs:=[_,_,_,_]) (by rfl) rfl rfl rfl rfl rfl rfl ?_);intro s3 Q3 V0 e3 Q2;refine Y0a (o7a M w0) (k:=6) (M2:=[]) (e1:=a.to) V0 j1a (by decide) rfl F0 rfl rfl (V0.cells 0 rfl) d1 (by omega) rfl ?_;intro L3 R2 D2 R3 B1 x0 g3 N2;refine P0a (by conv=>lhs;whnf) rfl ?_;refine lP0 rfl ⟨by omega,⟨⟩⟩ ?_;refine⟨μi-1,by omega,rfl,(i+1),(_),(_),(_),(l5++[a.to]),(by omega),(by simp;omega),(x0),B1.tail.tail,rfl⟩
   refine lP0 rfl ⟨by omega,⟨⟩⟩ ⟨μj-1,by omega,rfl,(j+1),(_),(_),(_),(l5),(by omega),(by omega),(F0),S.tail.tail,rfl⟩
  refine lC S.k [.o 0] rfl ⟨rfl,⟨⟩⟩ (wL (fun μj D ε w=>D=[]∧∃j:Nat,∃G6:Option Nat,∃K1:List Value,∃v6:Value,∃l6:List E,(j+μj=(th.loops.length))∧(l6.length≤93+100*k+j)∧(B1a (fun _ _=>p7c M w0) 4 [] w0 G6 K1 v6 l6)∧St [] w0 w [(some g9,93,[.string th.name,.int .i64 th.points,.slice I0 R0 L0,.slice J0 S0 N0,.slice n0 e0 o0,.slice r0 p0 t0,.bool th.asleep]),(some g1,27,[.slice Ac nc cc,.slice Am nm cm,.slice Al nl cl,.slice At nt ct]),(G6,68,K1)]∧Sl ε [(3,v6),(69,.slice At nt ct),(70,.int .i64 nt),(71,.int .i64 k),(126,.slice r0 p0 t0),(127,.int .i64 p0),(128,.int .i64 j)]) (μ:=(th.loops.length)) ⟨rfl,0,G4,z1,v4,l4,by omega,by omega,E0,S,rfl⟩ ?_);rintro μj D ε w ⟨rfl,j,G6,K1,v6,l6,hj,_,G0,S,eZ⟩;refine wK eZ (wB0 rfl ⟨⟩ (fun Q1=>?_) fun Q1=>?_)
  ·obtain⟨lo,H1,q2,_,_,a1,_,t1,p1,y1⟩:=RdS.get (j1) (j) (by omega);obtain⟨_,_,_,_,_,_,rfl,_,_,f1,_,_⟩:=E5a.open_ y1;refine lO (S.k.a p1) [.x H1 q2,.v 0] rfl ⟨⟨rfl,t1⟩,⟨a1,by omega⟩,⟨⟩⟩ (m0a S o9b rfl rfl ?_);intro s4 B4 X2 j4 a4;refine e0a (kk:=0) (vs:=[_,_,_,_,_,_]) X2 M9b rfl rfl rfl rfl rfl rfl rfl ?_;intro J2 h0 B2;dsimp only[k0a,List.set] at h0;refine lOn 3 h0.k [] rfl ⟨⟩ (Z0a (by conv=>lhs;whnf) rfl ?_);refine lO h0.k [.o 0] rfl ⟨rfl,⟨⟩⟩ (u0a h0 j1a (vs:=[.agg _]) (cs:=[_,_,_,_]) (by rfl) rfl rfl rfl rfl rfl rfl ?_);intro t3 S3 W0 h3 S2;refine Y0a (o7a M w0) (k:=4) (M2:=[]) (e1:=lo.variant) W0 j1a (by decide) rfl G0 rfl rfl (W0.cells 0 rfl) f1 (by omega) rfl ?_;intro M3 T2 E2 T3 C1 y0 i3 O2;refine P0a (by conv=>lhs;whnf) rfl ?_;refine lP0 rfl ⟨by omega,⟨⟩⟩ ?_;refine⟨μj-1,by omega,rfl,(j+1),(_),(_),(_),(l6++[lo.variant]),(by omega),(by simp;omega),(y0),C1.tail.tail,rfl⟩
  refine lP0 rfl ⟨by omega,⟨⟩⟩ ⟨μk-1,by omega,rfl,(k+1),(_),(_),(_),(l6),(by omega),(by omega),(G0),S.tail,rfl⟩
 refine lOn 9 S.k [] rfl ⟨⟩ ?_;obtain⟨A,c,rfl⟩:=d0.form;refine Z0a (v:=.slice _ _ _) rfl rfl ?_;refine lC0 rfl ⟨⟩ (wL (fun μk D ε w=>D=[]∧∃k:Nat,(k+μk=(l.length))∧St [] w0 w [(some g1,27,[.slice Ac nc cc,.slice Am nm cm,.slice Al nl cl,.slice At nt ct]),(G,68,j0)]∧Sl ε [(139,.slice A l.length c),(140,.int .i64 l.length),(141,.int .i64 k)]) (μ:=(l.length)) ⟨rfl,0,by omega,S,rfl⟩ ?_);rintro μk D ε w ⟨rfl,k,hk,S,eZ⟩;refine wK eZ (wB0 rfl ⟨⟩ (fun R1=>?_) fun R1=>?_)
 ·obtain⟨x,I1,r2,_,_,b1,_,u1,q1,D0⟩:=RdS.get ((B1a.rd (o7a M w0) (M:=[]) (w:=w) d0 S (k:=1) rfl (fun g hg=>by simp) (by omega))) (k) (by omega);obtain⟨_,_,_,rfl,_,_,_,_,_⟩:=RdE.cells D0;refine lO (S.k.b q1) [.x I1 r2,.v 0] rfl ⟨⟨rfl,u1⟩,⟨b1,by omega⟩,⟨⟩⟩ (m0a S j8a rfl rfl ?_);intro t4 C4 Y2 k4 b4;refine e0a (kk:=0) (vs:=[_,_,_,_]) Y2 t6a rfl rfl rfl rfl rfl rfl rfl ?_;intro K2 i0 C2;dsimp only[k0a,List.set] at i0;refine lO i0.k [.w 0] rfl ⟨⟨rfl,by rfl⟩,⟨⟩⟩ (C0a i0 M9c rfl rfl (s2c x M _ _ _ (RdE.keep (i0.keep0 M) _ _ D0) (by omega) (by omega)) (fun T1 t2 K0 D1=>?_) (fun T1 t2 K0 D1=>?_))
  ·refine lP0 rfl ⟨by omega,⟨⟩⟩ ⟨μk-1,by omega,rfl,(k+1),(by omega),K0.tail,rfl⟩
  exact lT rfl ⟨⟩ rfl ⟨⟨_,rfl,fun _=>trivial⟩,K0.fin⟩
 exact lT rfl ⟨⟩ rfl ⟨⟨_,rfl,fun _=>trivial⟩,S.fin⟩
theorem Y7b(p:f0a)(M:List Nat)(w0:World)(cs:List Value)(hP:q1a M w0 p cs)(hM:∀g∈M,g<w0.heap.size)(hN:y2b p):
 M0a Tryz.prog 9 #[.agg cs.toArray] w0 fun v w'=>(∃b,v=.bool b∧(b=true→d1a p))∧Below w0.heap.size w0 w':=by
 obtain⟨_,_,_,_,_,_,_,_,_,_,_,_,rfl,-⟩:=hP.open_;have S:=St.refl w0;refine a0a Tryz.func9 rfl Tryz.ntmps9 rfl ?_;refine wO0 rfl ⟨⟩ (h0a S (by conv=>lhs;whnf) rfl ?_);intro g1 w1 S1 X1 G1;refine lO S1.k [.w 0] rfl ⟨⟨rfl,by rfl⟩,⟨⟩⟩ (S1c S1 n0d rfl rfl (x8b p M _ _ (hP.keep (S1.keep0 M))) (fun h7 w7 S7 X7=>?_) (fun w7 S7 X7=>?_))
 ·refine lO S7.k [.w 0] rfl ⟨⟨rfl,by rfl⟩,⟨⟩⟩ (x0a S7 X0c rfl rfl (G8b p M _ _ (hP.keep (S7.keep0 M)) (fun g hg=>Nat.lt_of_lt_of_le (hM g hg) S7.size) hN) ?_);rintro e0 f0 ⟨_,_,_,rfl,hv⟩ a0 d0;refine lB0 rfl ⟨⟩ (fun b0=>?_) fun b0=>?_
  ·exact lT rfl ⟨⟩ rfl ⟨⟨_,rfl,fun _=>hv b0⟩,a0.fin⟩
  exact lT rfl ⟨⟩ rfl ⟨⟨_,rfl,fun h=>by cases h⟩,a0.fin⟩
 exact lT rfl ⟨⟩ rfl ⟨⟨_,rfl,fun h=>by cases h⟩,S7.fin⟩
abbrev W2c:=Nat→Option (FuncId×Array Value×(Value→Prop)×(Value→World→Prop))
section
variable {P:Program} {r:Option Nat} {N:Nat} {l:List Oper} {D:List Deferred} {C:World→Prop} {V:W2c} {K:Env→World→Prop}
def FL(P:Program)(N:Nat)(l:List Oper)(C:World→Prop)(V:W2c)(K:Env→World→Prop)(lo:Nat):List Nat→Env→List Nat→(World→Prop)→Prop
 | [],e,_,Φ=>∀w,C w→Φ w→K e w
 | i::rest,e,gs,Φ=>∃o d,l[i]?=some o∧o.dst=some d∧d<N ∧
  ((∃v,PV P l C o e v∧FL P N l C V K lo rest (upd e d v) gs Φ) ∨
   (∃(mk:Nat→Value) (t:TypeId) (cs:List Value),g1a l.toArray e o=true ∧
     (∀w,C w→∃w',(execOp (ev e) o).run P w=.ok (.value (mk w.heap.size)) w'∧C w'∧y0a [] w w'∧w'.heap.size=w.heap.size+1∧p0a w' (w.heap.size,t,cs)) ∧
     ∀g,lo≤g→g∉gs→FL P N l C V K lo rest (upd e d (mk g)) (g::gs) (fun w=>Φ w∧p0a w (g,t,cs))) ∨
   (∃f args Qp Qw,V i=some (f,args,Qp,Qw)∧g1a l.toArray e o=true∧(∀w,C w→(execOp (ev e) o).run P w=.ok (.enter f args) w)∧∀u,Qp u→FL P N l C V K lo rest (upd e d u) gs (fun w=>Φ w∧Qw u w)))
theorem FL.mono{lo b0:Nat}:∀(R:List Nat) (e:Env) (gs a0:List Nat) (Φ Φ':World→Prop),(∀g,b0≤g→g∉a0→lo≤g∧g∉gs)→(∀w,Φ' w→Φ w)→FL P N l C V K lo R e gs Φ→FL P N l C V K b0 R e a0 Φ'
 | [],e,gs,a0,Φ,Φ',_,hΦ,h=>fun w hC hw=>h w hC (hΦ w hw)
 | i::R,e,gs,a0,Φ,Φ',hg,hΦ,h=>by
   obtain⟨o,d,h1,h2,h3,h4⟩:=h;refine⟨o,d,h1,h2,h3,?_⟩;rcases h4 with⟨v,h5,h6⟩|⟨mk,t,cs,h5,h6,h7⟩|⟨f,args,Qp,Qw,h5,h6,h7,h8⟩
   ·exact .inl ⟨v,h5,FL.mono R _ gs a0 Φ Φ' hg hΦ h6⟩
   rotate_left
   ·exact .inr (.inr ⟨f,args,Qp,Qw,h5,h6,h7,fun u hu=>FL.mono R _ gs a0 _ _ hg (fun w hw=>⟨hΦ w hw.1,hw.2⟩) (h8 u hu)⟩)
   ·refine .inr (.inl ⟨mk,t,cs,h5,h6,fun g h8 h9=>?_⟩);refine FL.mono R _ (g::gs) (g::a0) _ _ (fun x hx hn=>?_) (fun w hw=>⟨hΦ w hw.1,hw.2⟩) (h7 g (hg g h8 h9).1 (hg g h8 h9).2);simp only[List.mem_cons,not_or] at hn ⊢;exact⟨(hg x hx hn.2).1,hn.1,(hg x hx hn.2).2⟩
def O1d:Result Next→Nat
 | .ok _ w=>w.heap.size
 | _=>0
def szE(P:Program)(l:List Oper)(o:Oper)(e:Env)(w:World):Nat:=bif g1a l.toArray e o then O1d ((execOp (ev e) o).run P w) else 0
theorem C0b{o:Oper}{e e':Env}{w:World}(hs:Op.isSelect o.op=false)(h:∀s∈Oper.looksAt l.toArray o,e s=e' s):szE P l o e w=szE P l o e' w:=by
 unfold szE;rw[V0a h,v1a hs h]
theorem P3b(a b:Nat)(gs:List Nat):∃g,a≤g∧b≤g∧g∉gs:=by
 have:∀gs:List Nat,∃m,∀g∈gs,g<m:=by
  intro gs
  induction gs with
  | nil=>exact⟨0,by simp⟩
  | cons x gs ih =>
    obtain⟨m,hm⟩:=ih;refine⟨max m (x+1),fun g hg=>?_⟩;rcases List.mem_cons.1 hg with rfl|h
    ·omega
    ·have:=hm g h;omega
 obtain⟨m,hm⟩:=this gs;exact⟨max m (max a b),by omega,by omega,fun h=>by have:=hm _ h;omega⟩
def w3a(P:Program)(N:Nat)(l:List Oper)(C:World→Prop)(V:W2c)(K:Env→World→Prop)(lo:Nat)(R:List Nat)(i:Nat)(o:Oper)(d:Nat)(e:Env)(gs:List Nat)(Φ:World→Prop)(w:World):Prop :=
 (g1a l.toArray e o=true∧∃v w',(execOp (ev e) o).run P w=.ok (.value v) w'∧C w'∧y0a [] w w'∧FL P N l C V K w'.heap.size R (upd e d v) gs (fun w1=>Φ w1∧y0a [] w' w1)) ∨
 (g1a l.toArray e o=false∧FL P N l C V K lo R (upd e d undef) gs Φ) ∨
 (g1a l.toArray e o=true∧∃f args Qp Qw,V i=some (f,args,Qp,Qw)∧(execOp (ev e) o).run P w=.ok (.enter f args) w∧∀u w',Qp u→Qw u w'→C w'→y0a [] w w'→FL P N l C V K w'.heap.size R (upd e d u) gs (fun w1=>(Φ w1∧Qw u w1)∧y0a [] w' w1))
theorem FL.first(d0:S4a l=true)(S0:∀i f args Qp Qw,V i=some (f,args,Qp,Qw)→∃u,Qp u){i:Nat}{i0:List Nat}{lo:Nat}{w:World}(hC:C w)(U0:lo≤w.heap.size):∀(n0:List Nat) (e:Env) (gs:List Nat) (Φ:World→Prop),(∀j∈n0,z9a l (fun _=>true) j i=true) →
 (∀o,l[i]?=some o→∀g∈gs,szE P l o e w≤g)→FL P N l C V K lo (n0++i::i0) e gs Φ →
 ∃o d,l[i]?=some o∧o.dst=some d∧d<N∧w3a P N l C V K lo (n0++i0) i o d e gs Φ w:=by
 intro n0
 induction n0 with
 | nil =>
   intro e gs Φ _ D0 h;obtain⟨o,d,ho,hd,hN,h⟩:=h;refine⟨o,d,ho,hd,hN,?_⟩;rcases h with⟨v,⟨h1,h2⟩|⟨h1,rfl⟩,h3⟩|⟨mk,t,cs,h1,h2,h3⟩|⟨f,args,Qp,Qw,h1,h2,h3,h4⟩
   rotate_right
   ·exact .inr (.inr ⟨h2,f,args,Qp,Qw,h1,h3 w hC,fun u w' hu _ _ hk=>FL.mono _ _ gs gs _ _ (fun g hg hn=>⟨by have:=hk.size;omega,hn⟩) (fun _ hw=>hw.1) (h4 u hu)⟩)
   ·exact .inl ⟨h1,v,w,h2 w hC,hC,y0a.refl _ _,FL.mono _ _ gs gs Φ _ (fun g hg hn=>⟨by omega,hn⟩) (fun _ hw=>hw.1) h3⟩
   ·exact .inr (.inl ⟨h1,h3⟩)
   ·obtain⟨w',h4,h5,h6,h7,h8⟩:=h2 w hC;refine .inl ⟨h1,_,w',h4,h5,h6,?_⟩;have hs:=D0 o ho;unfold szE at hs;rw[h1,h4] at hs;refine FL.mono _ _ (w.heap.size::gs) gs _ _ (fun g hg hn=>?_) (fun w1 hw=>⟨hw.1,S3a hw.2 h8⟩) (h3 w.heap.size U0 (fun hm=>by have:w'.heap.size≤w.heap.size:=hs _ hm;omega));simp only[List.mem_cons,not_or];exact⟨by omega,by omega,hn⟩
 | cons q n0 ih =>
   intro e gs Φ C0 D0 h;obtain⟨p,c,hp,hc,x0,h⟩:=h;have hq:=C0 q (by simp);have q0:∀j∈n0,z9a l (fun _=>true) j i=true:=fun j hj=>C0 j (by simp[hj]);have a0:∀{o:Oper} {d:Nat} (u:Value),l[i]?=some o→o.dst=some d→(∀s∈Oper.looksAt l.toArray o,upd e c u s=e s)∧c≠d∧d∉Oper.looksAt l.toArray p:=fun {o d} u ho hd=>by
    obtain⟨_,j0,r0,T0⟩:=U8a hq hp ho hc hd;exact⟨fun s hs=>H1a T0 hs,j0,r0⟩
   rcases h with⟨u,hu,h⟩|⟨mk,t,cs,h1,h2,h3⟩|⟨f,args,Qp,Qw,hV,Y0,hu,h⟩
   rotate_right
   ·obtain⟨u0,X0⟩:=S0 _ _ _ _ _ hV;have key:∀u,Qp u→∃o d,l[i]?=some o∧o.dst=some d∧d<N∧w3a P N l C V K lo (n0++i0) i o d (upd e c u) gs (fun w=>Φ w∧Qw u w) w:=fun u hu=>ih (upd e c u) gs _ q0 (fun o ho g hg=>by
     cases hd:o.dst with
     | none =>
       exfalso;unfold z9a at hq;simp[hp,ho,hc,hd] at hq
     | some d=>rw[C0b (J0a d0 ho).1 (a0 u ho hd).1];exact D0 o ho g hg) (h u hu)
    obtain⟨o,d,ho,hd,hN,v0⟩:=key u0 X0;have h0:∀u,Qp u→w3a P N l C V K lo (n0++i0) i o d (upd e c u) gs (fun w=>Φ w∧Qw u w) w:=fun u hu=>by
     obtain⟨o',d',o0,H0,_,hF⟩:=key u hu;obtain rfl:o'=o:=Option.some.inj (o0.symm.trans ho);obtain rfl:d'=d:=Option.some.inj (H0.symm.trans hd);exact hF
    have j0:=(a0 .nilFunc ho hd).2.1;have r0:=(a0 .nilFunc ho hd).2.2;have ha:∀u,∀s∈Oper.looksAt l.toArray o,upd e c u s=e s:=fun u=>(a0 u ho hd).1;refine⟨o,d,ho,hd,hN,?_⟩;have s0:∀v,∀s∈Oper.looksAt l.toArray p,upd e d v s=e s:=fun v s hs=>H1a r0 hs;unfold w3a at v0 ⊢;rw[V0a (ha _),v1a (J0a d0 ho).1 (ha _)] at v0;have p0:∀v,∀L0 Φ',(∀u,Qp u→FL P N l C V K L0 (n0++i0) (upd (upd e d v) c u) gs (fun w=>Φ' w∧Qw u w))→FL P N l C V K L0 (q::(n0++i0)) (upd e d v) gs Φ':=fun v L0 Φ' h9 =>
     ⟨p,c,hp,hc,x0,.inr (.inr ⟨f,args,Qp,Qw,hV,by rw[V0a (s0 v)];exact Y0,by rw[v1a (J0a d0 hp).1 (s0 v)];exact hu,h9⟩)⟩
    rcases v0 with⟨hw,v,w',h4,h5,h6,-⟩|⟨hw,-⟩|⟨hw,f',t0,O0,P0,A0,h4,-⟩
    ·refine .inl ⟨hw,v,w',h4,h5,h6,p0 v _ _ fun u hu=>?_⟩;have hF:=h0 u hu;unfold w3a at hF;rw[V0a (ha _),v1a (J0a d0 ho).1 (ha _)] at hF;rcases hF with⟨_,v',N0,e0,_,_,h7⟩|⟨b0,_⟩|⟨_,_,_,_,_,_,e0,_⟩
     ·rw[h4] at e0;cases e0;rw[←I2a _ _ _ j0];exact FL.mono _ _ gs gs _ _ (fun x hx hn=>⟨hx,hn⟩) (fun w1 f0=>⟨⟨f0.1.1,f0.2⟩,f0.1.2⟩) h7
     ·rw[hw] at b0;cases b0
     ·rw[h4] at e0;cases e0
    ·refine .inr (.inl ⟨hw,p0 _ _ _ fun u hu=>?_⟩);have hF:=h0 u hu;unfold w3a at hF;rw[V0a (ha _),v1a (J0a d0 ho).1 (ha _)] at hF;rcases hF with⟨b0,_⟩|⟨_,h7⟩|⟨b0,_⟩
     ·rw[hw] at b0;cases b0
     ·rw[←I2a _ _ _ j0];exact h7
     ·rw[hw] at b0;cases b0
    ·refine .inr (.inr ⟨hw,f',t0,O0,P0,A0,h4,fun u' w' W0 V0 z0 y0=>p0 u' _ _ fun u hu=>?_⟩);have hF:=h0 u hu;unfold w3a at hF;rw[V0a (ha _),v1a (J0a d0 ho).1 (ha _)] at hF;rcases hF with⟨_,v',N0,e0,_⟩|⟨b0,_⟩|⟨_,Z0,F0,Q0,R0,B0,_,h7⟩
     ·rw[h4] at e0;cases e0
     ·rw[hw] at b0;cases b0
     ·rw[A0] at B0;cases B0;rw[←I2a _ _ _ j0];exact FL.mono _ _ gs gs _ _ (fun x hx hn=>⟨hx,hn⟩) (fun w1 f0=>⟨⟨⟨f0.1.1.1,f0.2⟩,f0.1.1.2⟩,f0.1.2⟩) (h7 u' w' W0 V0 z0 y0)
   ·obtain⟨o,d,ho,hd,hN,hF⟩:=ih (upd e c u) gs Φ q0 (fun o ho g hg=>by
     cases hd:o.dst with
     | none =>
       exfalso;unfold z9a at hq;simp[hp,ho,hc,hd] at hq
     | some d=>rw[C0b (J0a d0 ho).1 (a0 u ho hd).1];exact D0 o ho g hg) h
    obtain⟨ha,j0,r0⟩:=a0 u ho hd;refine⟨o,d,ho,hd,hN,?_⟩;unfold w3a at hF ⊢;rw[V0a ha,v1a (J0a d0 ho).1 ha] at hF;rcases hF with⟨hw,v,w',h4,h5,h6,h7⟩|⟨hw,h7⟩|⟨hw,f,args,Qp,Qw,hV,h4,h7⟩
    rotate_right
    ·refine .inr (.inr ⟨hw,f,args,Qp,Qw,hV,h4,fun x w' hx K0 z0 y0=>⟨p,c,hp,hc,x0,.inl ⟨u,hu.congr (J0a d0 hp).1 (fun s hs=>(H1a r0 hs).symm),?_⟩⟩⟩);rw[←I2a _ _ _ j0];exact h7 x w' hx K0 z0 y0
    ·refine .inl ⟨hw,v,w',h4,h5,h6,p,c,hp,hc,x0,.inl ⟨u,hu.congr (J0a d0 hp).1 (fun s hs=>(H1a r0 hs).symm),?_⟩⟩;rw[←I2a _ _ _ j0];exact h7
    ·refine .inr (.inl ⟨hw,p,c,hp,hc,x0,.inl ⟨u,hu.congr (J0a d0 hp).1 (fun s hs=>(H1a r0 hs).symm),?_⟩⟩);rw[←I2a _ _ _ j0];exact h7
   ·have key:∀g,lo≤g→g∉gs→(∀o,l[i]?=some o→szE P l o e w≤g)→∃o d,l[i]?=some o∧o.dst=some d∧d<N∧w3a P N l C V K lo (n0++i0) i o d (upd e c (mk g)) (g::gs) (fun w=>Φ w∧p0a w (g,t,cs)) w:=fun g hg hn hs=>by
     refine ih (upd e c (mk g)) (g::gs) _ q0 (fun o ho x hx=>?_) (h3 g hg hn);cases hd:o.dst with
     | none =>
       exfalso;unfold z9a at hq;simp[hp,ho,hc,hd] at hq
     | some d =>
       rw[C0b (J0a d0 ho).1 (a0 (mk g) ho hd).1];rcases List.mem_cons.1 hx with rfl|hx
       ·exact hs o ho
       ·exact D0 o ho x hx
    have h4:∃o d,l[i]?=some o∧o.dst=some d∧d<N:=by
     cases ho:l[i]? with
     | none=>unfold z9a at hq;simp[ho] at hq
     | some o =>
       obtain⟨g0,I0,G0,J0⟩:=P3b lo (szE P l o e w) gs;obtain⟨o',d,o0,hd,hN,_⟩:=key g0 I0 J0 (fun o' o0=>by rw[ho] at o0;cases o0;exact G0);rw[ho] at o0;cases o0;exact⟨o,d,rfl,hd,hN⟩
    obtain⟨o,d,ho,hd,hN⟩:=h4;have h0:∀g,lo≤g→g∉gs→szE P l o e w≤g→w3a P N l C V K lo (n0++i0) i o d (upd e c (mk g)) (g::gs) (fun w=>Φ w∧p0a w (g,t,cs)) w:=fun g hg hn hs=>by
     obtain⟨o',d',o0,H0,_,hF⟩:=key g hg hn (fun o' o0=>by rw[ho] at o0;cases o0;exact hs);obtain rfl:o'=o:=Option.some.inj (o0.symm.trans ho);obtain rfl:d'=d:=Option.some.inj (H0.symm.trans hd);exact hF
    refine⟨o,d,ho,hd,hN,?_⟩;obtain⟨g0,I0,G0,J0⟩:=P3b lo (szE P l o e w) gs;have j0:=(a0 .nilFunc ho hd).2.1;have r0:=(a0 .nilFunc ho hd).2.2;have ha:∀u,∀s∈Oper.looksAt l.toArray o,upd e c u s=e s:=fun u=>(a0 u ho hd).1;have s0:∀v,∀s∈Oper.looksAt l.toArray p,upd e d v s=e s:=fun v s hs=>H1a r0 hs;have v0:=h0 g0 I0 J0 G0;unfold w3a at v0 ⊢;rw[V0a (ha _),v1a (J0a d0 ho).1 (ha _)] at v0;rcases v0 with⟨hw,v,w',h4,h5,h6,-⟩|⟨hw,-⟩|⟨hw,f,args,Qp,Qw,hV,h4,-⟩
    rotate_right
    ·have E0:szE P l o e w=w.heap.size:=by unfold szE;rw[hw,h4];rfl
     refine .inr (.inr ⟨hw,f,args,Qp,Qw,hV,h4,fun x w' hx K0 z0 y0=>⟨p,c,hp,hc,x0,.inr (.inl ⟨mk,t,cs,by rw[V0a (s0 x)];exact h1,by rw[v1a (J0a d0 hp).1 (s0 x)];exact h2,fun g hg hn=>?_⟩)⟩⟩);have a1:=y0.size;have hF:=h0 g (by omega) hn (by omega);unfold w3a at hF;rw[V0a (ha _),v1a (J0a d0 ho).1 (ha _)] at hF;rcases hF with⟨_,v',N0,e0,_⟩|⟨b0,_⟩|⟨_,f',t0,O0,P0,A0,_,h7⟩
     ·rw[h4] at e0;cases e0
     ·rw[hw] at b0;cases b0
     ·rw[hV] at A0;cases A0;rw[←I2a _ _ _ j0];exact FL.mono _ _ (g::gs) (g::gs) _ _ (fun x hx hn=>⟨hx,hn⟩) (fun w1 f0=>⟨⟨⟨f0.1.1.1,f0.2⟩,f0.1.1.2⟩,f0.1.2⟩) (h7 x w' hx K0 z0 y0)
    ·have E0:szE P l o e w=w'.heap.size:=by unfold szE;rw[hw,h4];rfl
     refine .inl ⟨hw,v,w',h4,h5,h6,p,c,hp,hc,x0,.inr (.inl ⟨mk,t,cs,by rw[V0a (s0 v)];exact h1,by rw[v1a (J0a d0 hp).1 (s0 v)];exact h2,fun g hg hn=>?_⟩)⟩;have hF:=h0 g (by have:=h6.size;omega) hn (by omega);unfold w3a at hF;rw[V0a (ha _),v1a (J0a d0 ho).1 (ha _)] at hF;rcases hF with⟨_,v',N0,e0,_,_,h7⟩|⟨b0,_⟩|⟨_,_,_,_,_,_,e0,_⟩
     rotate_right
     ·rw[h4] at e0;cases e0
     ·rw[h4] at e0;cases e0;rw[←I2a _ _ _ j0];exact FL.mono _ _ (g::gs) (g::gs) _ _ (fun x hx hn=>⟨hx,hn⟩) (fun w1 f0=>⟨⟨f0.1.1,f0.2⟩,f0.1.2⟩) h7
     ·rw[hw] at b0;cases b0
    ·refine .inr (.inl ⟨hw,p,c,hp,hc,x0,.inr (.inl ⟨mk,t,cs,by rw[V0a (s0 _)];exact h1,by rw[v1a (J0a d0 hp).1 (s0 _)];exact h2,fun g hg hn=>?_⟩)⟩);have E0:szE P l o e w=0:=by unfold szE;rw[hw];rfl
     have hF:=h0 g hg hn (by omega);unfold w3a at hF;rw[V0a (ha _),v1a (J0a d0 ho).1 (ha _)] at hF;rcases hF with⟨b0,_⟩|⟨_,h7⟩|⟨b0,_⟩
     rotate_right
     ·rw[hw] at b0;cases b0
     ·rw[hw] at b0;cases b0
     ·rw[←I2a _ _ _ j0];exact h7
theorem g6b{id:Nat}{n t:List Deferred→Env→World→Prop}{b:Nat→List Deferred→Env→World→Prop}{e:Env}{w:World}(hm:P.follows .mixedOrders=true)(ix:List Nat)
 (m:Nat) (q0:z3b l (fun _=>true) m=true) (F0:(List.range m==ix)=true) (C:World→Prop) (hC:C w.drew) (V:W2c) (hV:∀i f args Qp Qw,V i=some (f,args,Qp,Qw)→(∃u,Qp u)∧(∀u w w',y0a [] w w'→Qw u w→Qw u w')∧∀w,C w→M0a P f args w fun u w'=>(Qp u∧Qw u w')∧C w'∧y0a [] w w') (ol:Oper) (H0:l[m]?=some ol)
 (h:FL P N l C V (fun e w=>WL P r N l.toArray [ol] (fun D' e' w'=>D'=D∧n D e' w') D e w) w.heap.size ix e [] (fun _=>True)):W P r N (.region id l.toArray true) ⟨n,b,t⟩ D e w:=by
 obtain rfl:List.range m=ix:=eq_of_beq F0;generalize u0:(fun(e:Env) (w:World)=>WL P r N l.toArray [ol] (fun D' e' w'=>D'=D∧n D e' w') D e w)=K' at h;unfold z3b at q0;simp only[Bool.and_eq_true,decide_eq_true_eq] at q0;obtain⟨⟨⟨⟨r0,B0⟩,E0⟩,g0⟩,_⟩:=q0;have z0:∀j,j<m→j∈j4a l m:=fun j hj=>by
  have:=List.all_eq_true.1 g0 j (List.mem_range.2 hj);simpa using this
 refine H8b hm B0 (fun f e w=>(∀i,f i=true→∀j∈m1a l i,f j=true)∧((f m=false∧C w∧∃lo Φ,lo≤w.heap.size∧(∀w w',Φ w→y0a [] w w'→Φ w')∧Φ w∧FL P N l C V K' lo (a8a m f) e [] Φ)∨(f m=true∧n D e w))) ⟨by simp,.inl ⟨rfl,hC,w.heap.size,fun _=>True,Nat.le_refl _,fun _ _ _ _=>trivial,trivial,?_⟩⟩ ?_ ?_
 ·have:a8a m (fun _=>false)=List.range m:=by unfold a8a;simp
  rw[this];exact h
 ·rintro f e w i o ⟨f0,hM⟩ ho p0 s0;have C0:i<l.length:=(List.getElem?_eq_some_iff.1 ho).1;have a0:∀k,(f k||k==i)=true→∀j∈m1a l k,(f j||j==i)=true:=by
   intro k hk j hj;simp only[Bool.or_eq_true,beq_iff_eq] at hk ⊢;rcases hk with hk|rfl
   ·exact .inl (f0 k hk j hj)
   ·exact .inl (s0 j hj)
  rcases hM with⟨d0,n0,lo,Φ,y0,h0,hΦ,hM⟩|⟨d0,-⟩
  rotate_left
  ·have:=v3a f0 l.length (m1a l m) (f0 m d0) i (z0 i (by
    rcases Nat.lt_or_ge i m with h|h
    ·exact h
    ·have:i=m:=by omega
     subst this;rw[p0] at d0;cases d0))
   rw[p0] at this;cases this
  by_cases D0:i=m
  ·subst D0;obtain rfl:ol=o:=Option.some.inj (H0.symm.trans ho);have b0:∀j,j<i→f j=true:=fun j hj=>v3a f0 _ _ s0 j (z0 j hj);have t0:a8a i f=[]:=by
    unfold a8a;rw[List.filter_eq_nil_iff];intro j hj;simp[b0 j (List.mem_range.1 hj)]
   rw[t0] at hM;have h4:=hM w n0 hΦ;rw[←u0] at h4;clear hM h u0;unfold WL at *;refine fun a Q hs hD he hK=>h4 a Q hs hD he (fun a' w' I0 hh=>hK a' w' I0 ?_);exact⟨hh.1,a0,.inr ⟨by simp,hh.2⟩⟩
  have x0:i<m:=by omega
  have e0:(f m||m==i)=false:=by simp[d0];omega
  obtain⟨K0,_,h1,h2,h3⟩:=w0b (m:=m) f x0 p0;rw[h1] at hM;have J0:∀j∈j4a l i,f j=true:=v3a f0 _ _ s0;obtain⟨o',_,G0,hd,hN,h4⟩:=FL.first r0 (fun i f args Qp Qw h=>(hV i f args Qp Qw h).1) n0 y0 K0 e [] Φ (fun j hj=>by
   have:=List.all_eq_true.1 (List.all_eq_true.1 E0 i (List.mem_range.2 x0)) j (List.mem_range.2 (h3 j hj).1);simp only[Bool.or_eq_true,List.contains_eq_mem,decide_eq_true_eq] at this;rcases this with h|h
   ·have:=J0 j h;rw[(h3 j hj).2] at this;cases this
   ·exact h) (by simp) hM
  obtain rfl:o'=o:=Option.some.inj (G0.symm.trans ho);rcases h4 with⟨hw,v,w',hv,j0,o0,h4⟩|⟨hw,h4⟩|⟨hw,f',args,Qp,Qw,v0,hv,h4⟩
  rotate_right
  ·unfold WL;intro a Q hs hD he hK;simp only[wpListIn];have i0:Region.wanted o' (yielded l.toArray a.tmps)=true:=by rw[s1a,he];exact hw
   simp only[i0,if_true];refine⟨D0a _ _ _,?_⟩;rw[Oper.semAt_eq _ _ _ (J0a r0 ho).2,v2a,he,hv,Oper.uponIn_enter];refine⟨fun hh=>by simp[fc,Fence.wide] at hh,u5a (Calls.mono ((hV _ _ _ _ _ v0).2.2 w n0) ?_)⟩;rintro en w' ⟨u,rfl,⟨hu,A0⟩,j0,o0⟩;rw[hd];refine hK _ _ (by simp[Act.put,hs]) ⟨by simp[Act.put,hD],?_⟩;rw[e1a u (by rw[hs];exact hN),he];exact⟨a0,.inl ⟨e0,j0,w'.heap.size,(fun w1=>(Φ w1∧Qw u w1)∧y0a [] w' w1),Nat.le_refl _,fun w1 w2 h5 h6=>⟨⟨h0 _ _ h5.1.1 h6,(hV _ _ _ _ _ v0).2.1 u _ _ h6 h5.1.2⟩,h5.2.trans h6⟩,⟨⟨h0 _ _ hΦ o0,A0⟩,y0a.refl _ _⟩,by rw[h2];exact h4 u w' hu A0 j0 o0⟩⟩
  ·unfold WL;intro a Q hs hD he hK;simp only[wpListIn];have i0:Region.wanted o' (yielded l.toArray a.tmps)=true:=by rw[s1a,he];exact hw
   simp only[i0,if_true];refine⟨D0a _ _ _,?_⟩;rw[Oper.semAt_eq _ _ _ (J0a r0 ho).2,v2a,he,hv,Oper.uponIn_value];refine hK _ _ (by simp[Act.put,hd,hs]) ⟨by simp[Act.put,hd,hD],?_⟩;rw[hd,e1a v (by rw[hs];exact hN),he];exact⟨a0,.inl ⟨e0,j0,w'.heap.size,(fun w1=>Φ w1∧y0a [] w' w1),Nat.le_refl _,fun w1 w2 h5 h6=>⟨h0 _ _ h5.1 h6,h5.2.trans h6⟩,⟨h0 _ _ hΦ o0,y0a.refl _ _⟩,by rw[h2];exact h4⟩⟩
  ·unfold WL;intro a Q hs hD he hK;simp only[wpListIn];have i0:Region.wanted o' (yielded l.toArray a.tmps)=false:=by rw[s1a,he];exact hw
   simp only[i0];refine⟨D0a _ _ _,?_⟩;refine hK _ _ (by simp[Act.put,hd,hs]) ⟨by simp[Act.put,hd,hD],?_⟩;rw[hd,e1a undef (by rw[hs];exact hN),he];exact⟨a0,.inl ⟨e0,n0,lo,Φ,y0,h0,hΦ,by rw[h2];exact h4⟩⟩
 ·rintro f e w ⟨f0,hM⟩ b0;rcases hM with⟨d0,-⟩|⟨-,hM⟩
  ·have:=b0 m (by omega);rw[d0] at this;cases this
  ·exact hM
theorem D4c{id:Nat}{n t:List Deferred→Env→World→Prop}{b:Nat→List Deferred→Env→World→Prop}{e:Env}{w:World}(hm:P.follows .mixedOrders=true)(ix:List Nat)
 (m:Nat) (b0:z3b l (fun _=>true) m=true) (a0:(List.range m==ix)=true) (C:World→Prop) (hC:C w.drew) (ol:Oper) (d0:l[m]?=some ol)
 (h:FL P N l C (fun _=>none) (fun e w=>WL P r N l.toArray [ol] (fun D' e' w'=>D'=D∧n D e' w') D e w) w.heap.size ix e [] (fun _=>True)):W P r N (.region id l.toArray true) ⟨n,b,t⟩ D e w :=
 g6b hm ix m b0 a0 C hC (fun _=>none) (fun _ _ _ _ _ h=>by cases h) ol d0 h
variable {lo:Nat} {gs:List Nat} {Φ:World→Prop} {e:Env} {w w0:World} {L:List Ent} {M:List Nat}
theorem x7b(h:∀w,C w→Φ w→K e w):FL P N l C V K lo [] e gs Φ:=h
theorem M5a{i:Nat}{rest:List Nat}{o:Oper}(ho:l[i]?=some o)(hv:E2c o.op=true)(h:QL P N l.toArray C [o] (fun e'=>FL P N l C V K lo rest e' gs Φ) e):FL P N l C V K lo (i::rest) e gs Φ:=by
 unfold QL at h;obtain⟨pa,hl,hq,hk⟩:=h;obtain⟨d,v,h1,h2,h3,h4⟩:=hq 0 o rfl;obtain rfl:pa=[(d,v)]:=by
  match pa,hl,h1 with
  | [x],_,h1=>simpa using h1
 refine⟨o,d,ho,h2,h3,.inl ⟨v,?_,hk⟩⟩;rcases h4 with⟨h5,h6⟩|h5
 ·refine .inl ⟨h5,fun w hw=>?_⟩;rcases h6 w hw with h7|⟨f,args,h7,_⟩
  ·exact h7
  ·obtain⟨_,a0⟩:=j7a hv h7;cases a0
 ·exact .inr h5
theorem I1b{i d:Nat}{rest:List Nat}{x:Operand}{ty size n c:Nat}{t:TypeId}{p:String}{af:Array Edge}{A:Option Addr}(ho:l[i]?=some ⟨some d,.call { callee:=.builtin .len,args:=#[x],argTypes:=#[ty] },t,p,af,none⟩)(hT:SlT P ty size)(hx:ev e x=.slice A n c)(hd:Nat.ble (d+1) N=true)
 (h:FL P N l C V K lo rest (upd e d (.int .i64 n)) gs Φ):FL P N l C V K lo (i::rest) e gs Φ:=by
 obtain⟨_,hu,_⟩:=hT;exact⟨_,d,ho,rfl,Nat.le_of_ble_eq_true hd,.inl ⟨_,.inl ⟨rfl,fun w _=>by simp[execOp,resolve,invoke,builtin,Builtin.len_,hx,run_underlying hu,goInt]⟩,h⟩⟩
theorem W0c{i d t:Nat}{rest:List Nat}{o:Oper}{mk:Nat→Value}{cs:List Value}(ho:l[i]?=some o)(hd:o.dst=some d)(hN:Nat.ble (d+1) N=true)(hw:g1a l.toArray e o=true)
 (a0:∀w1,Cl M w0 w L w1→(execOp (ev e) o).run P w1=.ok (.value (mk w1.heap.size)) (w1.alloc (.cells cs.toArray t (0,0))))
 (h:∀g,lo≤g→g∉gs→FL P N l (Cl M w0 w L) V K lo rest (upd e d (mk g)) (g::gs) (fun w=>Φ w∧p0a w (g,t,cs))):FL P N l (Cl M w0 w L) V K lo (i::rest) e gs Φ :=
 ⟨o,d,ho,hd,Nat.le_of_ble_eq_true hN,.inr (.inl ⟨mk,t,cs,hw,fun w1 hC=>⟨_,a0 w1 hC,Cl.alloc _ _ hC,T2a _ _ _,by simp,by unfold p0a;show(w1.heap.push _)[w1.heap.size]?=_;simp⟩,h⟩)⟩
theorem E7b{i d el:Nat}{t:TypeId}{p:String}{af:Array Edge}{gd:Option (Nat×Bool)}{z:Value}{cs:List Value}{rest:List Nat}
 (ho:l[i]?=some ⟨some d,.alloc el,t,p,af,gd⟩) (hN:Nat.ble (d+1) N=true) (hw:g1a l.toArray e ⟨some d,.alloc el,t,p,af,gd⟩=true) (hz:∀w,(zeroValue el).run P w=.ok z w) (a0:z.cells.toList=cs)
 (h:∀g,lo≤g→g∉gs→FL P N l (Cl M w0 w L) V K lo rest (upd e d (.pointer (some ⟨g,0,none⟩))) (g::gs) (fun w=>Φ w∧p0a w (g,el,cs))):FL P N l (Cl M w0 w L) V K lo (i::rest) e gs Φ:=by
 refine W0c (mk:=fun g=>.pointer (some ⟨g,0,none⟩)) ho rfl hN hw (fun w1 _=>?_) h;subst a0;simp[execOp,Instr.alloc,newVar,newRow,hz]
theorem u2b{i d:Nat}{rest:List Nat}{t:TypeId}{p:String}{af:Array Edge}{args:Array Operand}{at_:Array TypeId}{g:Operand}{caps:Array Value}{f:FuncId}{vs:List Value}{Qp:Value→Prop}{Qw:Value→World→Prop}(hH:Has P f)
 (ho:l[i]?=some ⟨some d,.call { callee:=.value g,args:=args,argTypes:=at_ },t,p,af,none⟩) (hN:Nat.ble (d+1) N=true)
 (hw:g1a l.toArray e ⟨some d,.call { callee:=.value g,args:=args,argTypes:=at_ },t,p,af,none⟩=true) (hg:ev e g=.func (.func f) #[] caps) (a0:args.toList.map (ev e)++caps.toList=vs) (hV:V i=some (f,vs.toArray,Qp,Qw))
 (h:∀u,Qp u→FL P N l C V K lo rest (upd e d u) gs (fun w=>Φ w∧Qw u w)):FL P N l C V K lo (i::rest) e gs Φ:=by
 refine⟨_,d,ho,rfl,Nat.le_of_ble_eq_true hN,.inr (.inr ⟨f,vs.toArray,Qp,Qw,hV,hw,fun w1 _=>?_,h⟩)⟩;subst a0;have:(args.map (ev e)++caps)=(args.toList.map (ev e)++caps.toList).toArray:=by apply Array.ext';simp
 simp[execOp,resolve,Deferred.ofValue,invoke,hg,hH _ w1,this]
def eqQ(v:Value):Value→Prop:=fun u=>u=v
def noQ:Value→World→Prop:=fun _ _=>True
theorem b8c{i d:Nat}{rest:List Nat}{t:TypeId}{p:String}{af:Array Edge}{args:Array Operand}{at_:Array TypeId}{f:FuncId}{vs:List Value}{v:Value}(hH:Has P f)
 (ho:l[i]?=some ⟨some d,.call { callee:=.value (.func f),args:=args,argTypes:=at_ },t,p,af,none⟩) (hN:Nat.ble (d+1) N=true)
 (hw:g1a l.toArray e ⟨some d,.call { callee:=.value (.func f),args:=args,argTypes:=at_ },t,p,af,none⟩=true) (a0:args.toList.map (ev e)=vs) (hV:V i=some (f,vs.toArray,eqQ v,noQ))
 (h:FL P N l C V K lo rest (upd e d v) gs Φ):FL P N l C V K lo (i::rest) e gs Φ :=
 u2b (caps:=#[]) hH ho hN hw rfl (by simpa using a0) hV fun u hu=>by
  cases hu;exact FL.mono _ _ gs gs _ _ (fun x hx hn=>⟨hx,hn⟩) (fun w1 b0=>b0.1) h
theorem n4a{i d ty el size b0 n:Nat}{t:TypeId}{p:String}{af:Array Edge}{gd:Option (Nat×Bool)}{z:Value}{a0:Array (Nat×Operand)}{vs:List Value}{cs:List Value}{rest:List Nat}
 (ho:l[i]?=some ⟨some d,.buildSlice ty n a0,t,p,af,gd⟩) (hN:Nat.ble (d+1) N=true) (hw:g1a l.toArray e ⟨some d,.buildSlice ty n a0,t,p,af,gd⟩=true) (hS:SlZ P ty el size z b0)
 (i0:a0.toList.map (fun q=>(q.1,ev e q.2))=(vs.zipIdx 0).map fun q=>(q.2,q.1)) (hn:vs.length=n) (h0:Nat.ble 1 n=true) (d0:Nat.ble (n*size) 16777216=true) (hv:vs.map (·.cells.size)=List.replicate n size)
 (f0:vs.flatMap (·.cells.toList)=cs)
 (h:∀g,lo≤g→g∉gs→FL P N l (Cl M w0 w L) V K lo rest (upd e d (.slice (some ⟨g,0,none⟩) n n)) (g::gs) (fun w=>Φ w∧p0a w (g,el,cs))):FL P N l (Cl M w0 w L) V K lo (i::rest) e gs Φ:=by
 have hp:(a0.map fun(i,x)=>(i,ev e x))=((vs.zipIdx 0).map fun q=>(q.2,q.1)).toArray:=by rw[←i0];apply Array.ext';simp
 have g0:∀v∈vs,v.cells.size=size:=fun v hm=>by
  have:v.cells.size∈vs.map (·.cells.size):=List.mem_map.2 ⟨v,hm,rfl⟩;rw[hv] at this;exact(List.mem_replicate.1 this).2
 refine W0c (mk:=fun g=>.slice (some ⟨g,0,none⟩) n n) (t:=el) (cs:=cs) ho rfl hN hw (fun w1 _=>?_) h;have e0:=U4a hS hn (Nat.le_of_ble_eq_true h0) (Nat.le_of_ble_eq_true d0) g0 w1;subst f0;simp only[execOp,hp,Sem.run_bind,e0,Result.andThen_ok,Sem.run_pure]
theorem N8a{i d:Nat}{t:TypeId}{p:String}{af:Array Edge}{gd:Option (Nat×Bool)}{x y:Operand}{rest:List Nat}
 {ty el a0 n c:Nat} {z:Value} {kl kc:IntKind} (ho:l[i]?=some ⟨some d,.makeSlice ty x y,t,p,af,gd⟩) (hN:Nat.ble (d+1) N=true) (hw:g1a l.toArray e ⟨some d,.makeSlice ty x y,t,p,af,gd⟩=true)
 (hS:SlZ P ty el 1 z a0) (hx:ev e x=.int kl (n:Int)) (hy:ev e y=.int kc (c:Int)) (g0:n≤c) (hb:a0*c≤140737488355328) (hc:c≤140737488355328)
 (f0:z.cells=#[z])
 (h:∀g,lo≤g→g∉gs→FL P N l (Cl M w0 w L) V K lo rest (upd e d (.slice (some ⟨g,0,none⟩) n c)) (g::gs) (fun w=>Φ w∧p0a w (g,el,List.replicate c z))):FL P N l (Cl M w0 w L) V K lo (i::rest) e gs Φ:=by
 obtain⟨ii,hi,hz,e0,d0⟩:=hS.parts;have b0:(ii.bytes:Int)*(c:Int)≤281474976710656:=by
  have:((a0*c:Nat):Int)≤281474976710656:=by omega
  rw[d0];rwa [Int.natCast_mul] at this
 refine W0c (mk:=fun g=>.slice (some ⟨g,0,none⟩) n c) (t:=el) (cs:=List.replicate c z) ho rfl hN hw (fun w1 _=>?_) h;have hr:=run_make (P:=P) w1 ty el ii z hS.und hi hz kl kc n c (by omega) (by omega) b0 (by omega);have hm:madeCells z.cells (c*ii.size)=(List.replicate c z).toArray:=by
  rw[f0,e0,Nat.mul_one];apply Array.ext
  ·simp[madeCells]
  ·intro j h1 h2;simp[madeCells,Nat.mod_one]
 simp only[Int.toNat_natCast,hm] at hr;simp only[execOp,hx,hy,Sem.run_bind,hr,Result.andThen_ok,Sem.run_pure]
end
section
variable {α:Type}
def C2a(l:List α)(z:α)(k:Nat):List α:=l.take k++List.replicate (l.length-k) z
theorem I4a(l:List α)(z:α):C2a l z 0=List.replicate l.length z:=by simp[C2a]
theorem o5a(l:List α)(z:α){k:Nat}(h:l.length≤k):C2a l z k=l:=by
 unfold C2a;rw[List.take_of_length_le h,Nat.sub_eq_zero_of_le h];simp
@[simp] theorem S3c(l:List α)(z:α)(k:Nat):(C2a l z k).length=l.length:=by
 unfold C2a;simp;omega
theorem m5a{l:List α}{z v:α}{k i:Nat}(h:l[k]?=some v)(hi:i=k):(C2a l z k).set i v=C2a l z (k+1):=by
 subst hi;obtain⟨a0,rfl⟩:=List.getElem?_eq_some_iff.1 h;unfold C2a;rw[List.set_append_right _ _ (by simp;omega)];have h1:l.length-i=(l.length-(i+1))+1:=by omega
 rw[h1,List.replicate_succ];simp only[List.length_take,Nat.min_eq_left (Nat.le_of_lt a0),Nat.sub_self,List.set_cons_zero];rw[H0a h,List.append_assoc];rfl
theorem c5b{l:List α}{z:α}{k:Nat}(h:l[k]?=some z):C2a l z k=C2a l z (k+1):=by
 obtain⟨_,_⟩:=List.getElem?_eq_some_iff.1 h;unfold C2a;have h1:l.length-k=(l.length-(k+1))+1:=by omega
 rw[h1,List.replicate_succ,H0a h];simp
end
theorem St.setEnt{M:List Nat}{w0 w:World}{L:List Ent}(S:St M w0 w L)(j:Nat){G:Option Nat}{t:TypeId}{cs a0:List Value}(hj:L[j]?=some (G,t,cs))(h:cs=a0):St M w0 w (L.set j (G,t,a0)):=by
 subst h;have:L.set j (G,t,cs)=L:=by
  obtain⟨_,he⟩:=List.getElem?_eq_some_iff.1 hj;rw[←he];simp
 rw[this];exact S
theorem St.rdInts{M M':List Nat}{w0 w:World}{L:List Ent}(S:St M' w0 w L)(j:Nat){g t n:Nat}{l:List Int}(hj:L[j]?=some (some g,t,l.map (Value.int .i64)))(hg:g∉M)(hn:n=l.length)(a0:n≤140737488355328)(hl:∀x∈l,i64 x):RdI M w (.slice (some ⟨g,0,none⟩) n n) l :=
 S.rd1 hj hg hn a0 fun i x hi=>⟨.int .i64 x,by simp[hi],rfl,hl x (List.mem_of_getElem? hi)⟩
theorem V4a{α:Type}{M:List Nat}{w:World}{size:Nat}{R:List Value→α→Prop}:RdS M w size R (.slice none 0 0) []:=⟨none,0,0,rfl,rfl,Nat.le_refl _,by unfold maxLen;omega,by omega,fun h=>absurd h (by omega)⟩
theorem St.rdBufs{M M':List Nat}{w0 w:World}{L:List Ent}(S:St M' w0 w L)(j:Nat){g t n:Nat}{l:List (List E0a)}(hj:L[j]?=some (some g,t,List.replicate n (.slice none 0 0)))(hg:g∉M)(hn:n=l.length)(a0:n≤140737488355328)(hl:∀b∈l,b=[]):u0d M w (.slice (some ⟨g,0,none⟩) n n) l :=
 S.rd1 hj hg hn a0 fun i x hi=>by
  obtain rfl:=hl x (List.mem_of_getElem? hi);have:=(List.getElem?_eq_some_iff.1 hi).1;exact⟨.slice none 0 0,by rw[List.getElem?_replicate,if_pos (by omega)],_,rfl,V4a⟩
@[simp] theorem Z1c(p:f0a):(T0a p).mem.length=p.cells.length:=by simp[T0a]
@[simp] theorem M2c(p:f0a):(T0a p).at_.length=p.threads.length:=by simp[T0a]
theorem X2a{p:f0a}(hp:d1a p){m:List Int}(h:L5a p m):∀x∈m,i64 x:=fun x hx=>by
 obtain⟨i,hi,rfl⟩:=List.getElem_of_mem hx;have:=h.vals i _ (List.getElem?_eq_getElem hi);have:=j9a hp i;unfold i64;omega
theorem W5a{p:f0a}(hp:d1a p){c:q0a}(h:c3a p c):∀x∈c.at_,i64 x:=fun x hx=>by
 have:=(L6a hp h).2.1 x hx;unfold i64;omega
theorem M1a.of{t s c:Int}(h1:i64 t)(h2:i64 s)(h3:i64 c):M1a [.int .i64 t,.int .i64 s,.int .i64 c] ⟨t,s,c⟩:=⟨rfl,h1,h2,h3⟩
theorem K1a:R5a (fun(_:List Nat) (_:World)=>M1a) 3 where
 len h:=by rw[h.1];rfl
 one h u hu:=by rw[h.1] at hu;simp at hu;rcases hu with rfl|rfl|rfl<;>rfl
 keep _ h:=h
 more _ h:=h
theorem Z2a:R5a (fun(_:List Nat) (_:World)=>P2c) 1 where
 len h:=by rw[h.1];rfl
 one h u hu:=by rw[h.1] at hu;simp at hu;subst hu;rfl
 keep _ h:=h
 more _ h:=h
theorem D1a:R5a I0a 2 where
 len h:=by obtain⟨_,_,rfl,_⟩:=h;rfl
 one h u hu:=by
  obtain⟨_,_,_,_,_,_,rfl,_⟩:=h.open_;simp at hu;rcases hu with rfl|rfl<;>rfl
 keep hk h:=I0a.keep hk _ _ h
 more hm h:=I0a.more hm _ _ h
def g3a(M:List Nat)(w:World)(cs:List Value)(c:q0a):Prop:=t0a M w c cs
theorem G9a:R5a g3a 3 where
 len h:=by obtain⟨_,_,_,rfl,_⟩:=h;rfl
 one h u hu:=by
  obtain⟨_,_,_,_,_,_,_,_,_,rfl,_⟩:=t0a.open_ h;simp at hu;rcases hu with rfl|rfl|rfl<;>rfl
 keep hk h:=t0a.keep hk h
 more hm h:=t0a.more hm h
theorem getD_some{α:Type}{l:List α}{i:Nat}{x d:α}(h:l[i]?=some x):l.getD i d=x:=by rw[List.getD_eq_getElem?_getD,h];rfl
def t3a(c:q0a):Prop:=∀b∈c.buf,b=[]
theorem t3a.getD{c:q0a}(h:t3a c)(t:Nat):c.buf.getD t []=[]:=by
 rw[List.getD_eq_getElem?_getD];cases hx:c.buf[t]? with
 | none=>rfl
 | some b=>exact h b (List.mem_of_getElem? hx)
theorem t3a.view{c:q0a}(h:t3a c)(t:Nat):c1a c t=c.mem:=by unfold c1a;rw[h.getD];rfl
theorem B4a{p:f0a}{c:q0a}(h:t3a c)(t:Nat)(s:y1a):S0a p 0 c t s=(decide (c.at_.getD t 0=s.frm)&&(decide (s.guard.evl c.mem c.mem=1) &&
 (if s.kind=6 then decide (c.at_.getD s.target.toNat 0=-1) else if s.kind=7 then decide (c.at_.getD s.target.toNat 0=(p.threads.getD s.target.toNat ⟨ByteArray.empty,0,[],[],[],[],false⟩).points-1) else true))):=by
 unfold S0a;rw[h.view,h.getD,h.getD]
 congr 2
 split
 ·rename_i h3;rw[if_neg (by omega),if_neg (by omega)];simp
 ·split
  ·simp
  ·split
   ·simp
   ·split
    ·rfl
    ·simp
@[simp] theorem x0d(l:List L1a)(v m:List Int):(B7a l v m).length=m.length:=by
 unfold B7a
 induction l generalizing m with
 | nil=>rfl
 | cons a l ih=>rw[List.foldl_cons,ih,List.length_set]
theorem f6a(l:List L1a)(a:L1a)(v m:List Int):B7a (l++[a]) v m=(B7a l v m).set a.cell.toNat (a.to.evl v v):=by unfold B7a;rw[List.foldl_append];rfl
theorem A9b{l:List L1a}{a:L1a}{v m:List Int}{k i:Nat}(hx:l[k]?=some a)(hi:i=a.cell.toNat):((B7a (l.take k) v m).map (Value.int .i64)).set i (.int .i64 (a.to.evl v v))=(B7a (l.take (k+1)) v m).map (Value.int .i64):=by
 subst hi;rw[H0a hx,f6a,List.map_set]
theorem F1d{p:f0a}{c:q0a}{t i:Nat}{th:X0a}{s:y1a}(h:t3a c)(ht:p.threads[t]?=some th)(hs:th.steps[i]?=some s):doC p 0 c ⟨t,i,0⟩=⟨B7a s.set c.mem c.mem,atC c t s,c.buf⟩:=by
 unfold doC;have e1:n3a p t=th.steps:=by unfold n3a;rw[getD_some ht]
 rw[if_neg (by show ¬((i:Int)=-1);omega)];simp only[Int.toNat_natCast,e1,hs,j6a,h.view];simp
def m7b(p:f0a)(m:Int)(c:q0a)(t i:Nat):Bool:=match (n3a p t)[i]? with|some s=>S0a p m c t s|none=>false
def k2a(p:f0a)(m:Int)(c:q0a)(t j:Nat):List A0a:=((List.range j).filter (m7b p m c t)).map fun(i:Nat)=>(⟨t,i,0⟩:A0a)
def Y2a(m:Int)(c:q0a)(t j:Nat):List A0a:=((List.range j).filter (s3a m (c.buf.getD t []))).map fun(i:Nat)=>(⟨t,-1,((c.buf.getD t []).getD i ⟨[],[]⟩).cells.getD 0 0⟩:A0a)
def Z1a(p:f0a)(m:Int)(c:q0a)(k:Nat):List A0a:=(List.range k).flatMap (W6a p m c)
theorem J5a(p:f0a)(m:Int)(c:q0a)(t:Nat):W6a p m c t=k2a p m c t (n3a p t).length++Y2a m c t (c.buf.getD t []).length:=rfl
theorem U3a(p:f0a)(m:Int)(c:q0a)(k:Nat):Z1a p m c (k+1)=Z1a p m c k++W6a p m c k:=by
 unfold Z1a;rw[List.range_succ,List.flatMap_append];simp
theorem w9a{p:f0a}{m:Int}{c:q0a}{t j:Nat}{s:y1a}(h:(n3a p t)[j]?=some s):k2a p m c t (j+1)=k2a p m c t j++(if S0a p m c t s then[⟨t,j,0⟩] else[]):=by
 unfold k2a;rw[List.range_succ,List.filter_append,List.map_append];have:m7b p m c t j=S0a p m c t s:=by unfold m7b;rw[h]
 congr 1
 cases he:S0a p m c t s<;>simp[this,he]
theorem i7a{p:f0a}{m:Int}{c:q0a}{t j:Nat}{th:X0a}{s:y1a}(h:p.threads[t]?=some th)(hs:th.steps[j]?=some s)(he:S0a p m c t s=true):k2a p m c t (j+1)=k2a p m c t j++[⟨t,j,0⟩]:=by
 rw[w9a (by rw[show n3a p t=th.steps by unfold n3a;rw[getD_some h]];exact hs),he,if_pos rfl]
theorem I8a{p:f0a}{m:Int}{c:q0a}{t j:Nat}{th:X0a}{s:y1a}(h:p.threads[t]?=some th)(hs:th.steps[j]?=some s)(he:S0a p m c t s=false):k2a p m c t (j+1)=k2a p m c t j:=by
 rw[w9a (by rw[show n3a p t=th.steps by unfold n3a;rw[getD_some h]];exact hs),he];simp
theorem G0b{m:Int}{c:q0a}{t j:Nat}(he:s3a m (c.buf.getD t []) j=true):Y2a m c t (j+1)=Y2a m c t j++[⟨t,-1,((c.buf.getD t []).getD j ⟨[],[]⟩).cells.getD 0 0⟩]:=by
 unfold Y2a;generalize c.buf.getD t []=b at *;rw[List.range_succ,List.filter_append,List.map_append];simp[he]
theorem f1b{m:Int}{c:q0a}{t j:Nat}(he:s3a m (c.buf.getD t []) j=false):Y2a m c t (j+1)=Y2a m c t j:=by
 unfold Y2a;generalize c.buf.getD t []=b at *;rw[List.range_succ,List.filter_append,List.map_append];simp[he]
theorem O3a(p:f0a)(m:Int)(c:q0a)(t j:Nat):(k2a p m c t j).length≤j:=by
 unfold k2a;have:=List.length_filter_le (m7b p m c t) (List.range j);simpa using this
theorem w7a(m:Int)(c:q0a)(t j:Nat):(Y2a m c t j).length≤j:=by
 unfold Y2a;have:=List.length_filter_le (s3a m (c.buf.getD t [])) (List.range j);simpa using this
theorem j2a{p:f0a}{t:Nat}{th:X0a}(h:p.threads[t]?=some th):n3a p t=th.steps:=by unfold n3a;rw[getD_some h]
theorem X1a{p:f0a}(hp:d1a p){c:q0a}(hf:c3a p c)(m:Int):∀k,k≤p.threads.length→(Z1a p m c k).length≤k*67
 | 0,_=>by simp[Z1a]
 | k+1,hk=>by
   have ih:=X1a hp hf m k (by omega);rw[U3a,J5a];have h1:=O3a p m c k (n3a p k).length;have h2:=w7a m c k (c.buf.getD k []).length;have b0:p.threads[k]?=some p.threads[k]:=List.getElem?_eq_getElem hk;rw[j2a b0] at h1 ⊢;have h3:=(hp.threads k hk).nsteps;have a0:k<c.buf.length:=by rw[hf.nbuf];exact hk
   have hb:c.buf[k]?=some c.buf[k]:=List.getElem?_eq_getElem a0;rw[getD_some hb] at h2 ⊢;have h4:=(hf.bufs k _ hb).1;simp only[List.length_append];omega
theorem C5a(p:f0a)(m:Int)(c:q0a):Z1a p m c p.threads.length=G0a p m c:=rfl
section
variable {P:Program} {r:Option Nat} {N:Nat} {D:List Deferred} {e:Env} {w w0:World} {ops:Array Oper} {rest:List Oper} {K:List Deferred→Env→World→Prop} {L:List Ent} {M:List Nat}
variable {d:Nat} {t:TypeId} {p:String} {af:Array Edge} {x y:Operand}
theorem RdI.oneCells{M':List Nat}{A:Option Addr}{m c:Nat}{l:List Int}(h:RdI M' w (.slice A m c) l)(hm:0<m):∃b o,A=some ⟨b,o,none⟩∧t1a w b o (l.map (Value.int .i64)):=by
 obtain⟨_,_,_,_,h5⟩:=h.at;obtain⟨b,o,h6,_,h8⟩:=h5 hm;refine⟨b,o,h6,fun j v hj=>?_⟩;rw[List.getElem?_map,Option.map_eq_some_iff] at hj;obtain⟨a,ha,rfl⟩:=hj;obtain⟨_,_,a0,b0⟩:=h8 j a ha;rw[b0.1] at a0;have:=a0 0 _ rfl;simpa using this
theorem G0c{ty el b0 k n c g tb:Nat}{z:Value}{A:Option Addr}{cs:List Value}{l:List Int}{M':List Nat}(S:St M w0 w L)(hS:SlZ P ty el 1 z b0)(hk:L[k]?=some (some g,tb,cs))(hx:ev e x=.slice (some ⟨g,0,none⟩) n n)(hy:ev e y=.slice A n c)(f0:cs.length=n)
 (hR:RdI M' w (.slice A n c) l) (hd:Nat.ble (d+1) N=true)
 (h:∀w1,St M w0 w1 (L.set k (some g,tb,l.map (Value.int .i64)))→y0a [g] w w1→WL P r N ops rest K D (upd e d (.int .i64 n)) w1) :
 WL P r N ops (⟨some d,.call { callee:=.builtin .copy,args:=#[x,y],argTypes:=#[ty,ty] },t,p,af,none⟩::rest) K D e w:=by
 obtain⟨_,hi,_,e0,_⟩:=hS.parts;have d0:(P.info? el).map (·.size)=some 1:=by rw[hi];simp[e0]
 have hn:n=l.length:=hR.len.1;by_cases h0:n=0
 ·have e1:l.map (Value.int .i64)=cs:=by
   have a1:l=[]:=List.eq_nil_of_length_eq_zero (by omega);have a2:cs=[]:=List.eq_nil_of_length_eq_zero (by omega);rw[a1,a2];rfl
  have a0:=run_copy_none (P:=P) w ty ty t el (some ⟨g,0,none⟩) A n n n c hS.und d0 (by rw[h0];rfl);have S':=S.setEnt k hk e1.symm;refine k1a (v:=.int .i64 n) (w':=w) rfl rfl hd (by simp) ?_ (h w S' (y0a.refl _ _));subst h0;simp[execOp,resolve,invoke,builtin,hx,hy,a0,goInt]
 ·obtain⟨b,o,rfl,hc⟩:=hR.oneCells (by omega);have a0:=run_copy_row (P:=P) w ty ty t el g 0 n n ⟨b,o,none⟩ n c cs.toArray tb (l.map (Value.int .i64)) hS.und d0 (S.blk k hk) (by simp[hn]) (fun j v hj=>by rw[Addr.add_lit];exact hc j v hj) (by simp;omega)
   (fun v hv=>by obtain⟨a,_,rfl⟩:=List.mem_map.1 hv;rfl)
  have e1:(cs.toArray.toList.take 0++l.map (Value.int .i64)++cs.toArray.toList.drop (0+(l.map (Value.int .i64)).length)).toArray=(l.map (Value.int .i64)).toArray:=by
   have:cs.length≤l.length:=by omega
   simp[List.drop_of_length_le this]
  rw[e1] at a0;have hb:F0a [g] w (w.setRow g (l.map (Value.int .i64)).toArray):=⟨rfl,rfl,rfl,by simp[World.setRow],fun q hq hm=>setRow_other w g q _ (by simpa using hm)⟩;refine k1a (v:=.int .i64 n) rfl rfl hd (by simp) ?_ (h _ (S.changed1 k hk hb (setRow_heap w g _ _ tb _ (S.blk k hk))) ⟨hb.size,fun q hq hm=>hb.block q hq hm⟩);rw[List.length_map,←hn] at a0;simp[execOp,resolve,invoke,builtin,hx,hy,a0,goInt]
def Eq3(P:Program)(ty:TypeId):Prop:=P.eqGuardType P.depth ty=false∧∀(w:World) (a b c a' b' c':Int),
 (binOp .eql ty (.agg #[.int .i64 a,.int .i64 b,.int .i64 c]) (.agg #[.int .i64 a',.int .i64 b',.int .i64 c'])).run P w=.ok (.bool (decide (a=a'∧b=b'∧c=c'))) w
theorem g5c{ty:TypeId}{a b c a' b' c':Int}(hE:Eq3 P ty)(hx:ev e x=.agg #[.int .i64 a,.int .i64 b,.int .i64 c])(hy:ev e y=.agg #[.int .i64 a',.int .i64 b',.int .i64 c'])(hd:Nat.ble (d+1) N=true)
 (h1:a=a'∧b=b'∧c=c'→WL P r N ops rest K D (upd e d (.bool true)) w) (h2:¬(a=a'∧b=b'∧c=c')→WL P r N ops rest K D (upd e d (.bool false)) w) {yt:TypeId} :
 WL P r N ops (⟨some d,.binOp .eql ty x y yt,t,p,af,none⟩::rest) K D e w:=by
 by_cases hh:a=a'∧b=b'∧c=c'
 ·exact k1a rfl rfl hd (by simp) (by simp only[execOp,hx,hy,Sem.run_bind,run_eqGuard_agg w _ _ _ _ _ _ hE.1,Result.andThen_ok,hE.2,Sem.run_pure,decide_eq_true hh]) (h1 hh)
 ·exact k1a rfl rfl hd (by simp) (by simp only[execOp,hx,hy,Sem.run_bind,run_eqGuard_agg w _ _ _ _ _ _ hE.1,Result.andThen_ok,hE.2,Sem.run_pure,decide_eq_false hh]) (h2 hh)
end
theorem Z9a:Eq3 Tryz.prog 44:=by
 refine⟨Tryz.eqGuardType44,fun w a b c a' b' c'=>?_⟩;have ht:Tryz.prog.underlying 44=some (.struct (Tryz.prog.fieldsOf 44)):=by unfold Program.fieldsOf;rw[Tryz.underlying44]
 have a0:∀w,(isAgg 3).run Tryz.prog w=.ok false w:=fun w=>by simp[isAgg,run_underlying Tryz.underlying3]
 rw[run_eql_struct,run_equalIn_struct w 9999 _ _ _ ht Tryz.stoodInHeld44];unfold Program.fieldsOf;rw[Tryz.underlying44];by_cases h1:a=a'<;>by_cases h2:b=b'<;>by_cases h3:c=c'<;>simp[Op.eqFields,part,a0,run_equalIn_int _ 9998 _ .i64 .i64 _ _ Tryz.underlying3,h1,h2,h3]
theorem K5c{α:Type}{a b:List α}(hl:a.length=b.length){k:Nat}(hk:a.length≤k)(h:∀i x y,i<k→a[i]?=some x→b[i]?=some y→x=y):a=b:=by
 apply List.ext_getElem hl;intro i h1 h2;exact h i _ _ (by omega) (List.getElem?_eq_getElem h1) (List.getElem?_eq_getElem h2)
def n8b{α:Type}(a b:List α)(k:Nat):Prop:=∀i x y,i<k→a[i]?=some x→b[i]?=some y→x=y
theorem n8b.zero{α:Type}{a b:List α}:n8b a b 0:=fun i x y h=>absurd h (by omega)
theorem n8b.succ{α:Type}{a b:List α}{k:Nat}(h:n8b a b k){x y:α}(hx:a[k]?=some x)(hy:b[k]?=some y)(he:x=y):n8b a b (k+1):=fun i x' y' hi h1 h2=>by
 by_cases a0:i=k
 ·subst a0;rw[hx] at h1;rw[hy] at h2;cases h1;cases h2;exact he
 ·exact h i x' y' (by omega) h1 h2
theorem n8b.all{α:Type}{a b:List α}{k:Nat}(h:n8b a b k)(hl:a.length=b.length)(hk:a.length≤k):a=b:=K5c hl hk h
theorem T0c{α:Type}{a b:List α}(h:¬a.length=b.length):a≠b:=fun e=>h (by rw[e])
theorem G7b{α:Type}{a b:List α}{k:Nat}{x y:α}(hx:a[k]?=some x)(hy:b[k]?=some y)(h:x≠y):a≠b:=fun e=>by subst e;rw[hx] at hy;cases hy;exact h rfl
theorem E0a.ext'{a b:E0a}(h1:a.cells=b.cells)(h2:a.values=b.values):a=b:=by cases a;cases b;simp_all
theorem q0a.ext'{a b:q0a}(h1:a.mem=b.mem)(h2:a.at_=b.at_)(h3:a.buf=b.buf):a=b:=by cases a;cases b;simp_all
theorem A0a.ext'{a b:A0a}(h:a.thread=b.thread∧a.step=b.step∧a.cell=b.cell):a=b:=by cases a;cases b;simp_all
abbrev A1d(M:List Nat)(w:World)(v:Value)(l:List q0a):Prop:=RdS M w 3 (g3a M w) v l
theorem g3a.keep{M:List Nat}{w w':World}(hk:y0a M w w'):∀cs c,g3a M w cs c→g3a M w' cs c:=fun _ _ h=>t0a.keep hk h
theorem g3a.less{M M':List Nat}{w:World}(hk:∀g∈M',g∈M):∀cs c,g3a M w cs c→g3a M' w cs c:=fun _ _ h=>t0a.less hk h
section
variable {P:Program} {N:Nat} {ops:Array Oper} {rest:List Oper} {C:World→Prop} {K:Env→Prop} {e:Env} {d:Nat} {t:TypeId} {p:String} {af:Array Edge} {x y:Operand} {yt:TypeId}
theorem f9c{ty:TypeId}{a b c a' b' c':Int}(hE:Eq3 P ty)(hx:ev e x=.agg #[.int .i64 a,.int .i64 b,.int .i64 c])(hy:ev e y=.agg #[.int .i64 a',.int .i64 b',.int .i64 c'])(hd:Nat.ble (d+1) N=true)
 (h1:(a=a'∧b=b'∧c=c')→QL P N ops C rest K (upd e d (.bool true))) (h2:¬(a=a'∧b=b'∧c=c')→QL P N ops C rest K (upd e d (.bool false))) :
 QL P N ops C (⟨some d,.binOp .eql ty x y yt,t,p,af,none⟩::rest) K e:=by
 by_cases hh:a=a'∧b=b'∧c=c'
 ·exact C3a rfl rfl hd (fun w _=>by simp only[execOp,hx,hy,Sem.run_bind,run_eqGuard_agg w _ _ _ _ _ _ hE.1,Result.andThen_ok,hE.2,Sem.run_pure,decide_eq_true hh]) (h1 hh)
 ·exact C3a rfl rfl hd (fun w _=>by simp only[execOp,hx,hy,Sem.run_bind,run_eqGuard_agg w _ _ _ _ _ _ hE.1,Result.andThen_ok,hE.2,Sem.run_pure,decide_eq_false hh]) (h2 hh)
end
def f4a(ns:List Int):ByteArray:=ns.foldl (fun r n=>r.push (UInt8.ofNat n.toNat)) ByteArray.empty
theorem P4a:∀(ns:List Int) (s:ByteArray),(ns.foldl (fun r n=>r.push (UInt8.ofNat n.toNat)) s).data.toList=s.data.toList++ns.map fun n=>UInt8.ofNat n.toNat
 | [],s=>by simp
 | n::ns,s=>by
   rw[List.foldl_cons,P4a ns];simp[ByteArray.push]
theorem r0b{a b:List Int}(ha:∀x∈a,0≤x∧x≤255)(hb:∀x∈b,0≤x∧x≤255)(h:f4a a=f4a b):a=b:=by
 have h1:(f4a a).data.toList=(f4a b).data.toList:=by rw[h]
 unfold f4a at h1;rw[P4a,P4a] at h1;have h2:a.map (fun n=>UInt8.ofNat n.toNat)=b.map fun n=>UInt8.ofNat n.toNat:=by simpa using h1
 clear h h1
 induction a generalizing b with
 | nil=>cases b with
   | nil=>rfl
   | cons y b=>simp at h2
 | cons x a ih=>cases b with
   | nil=>simp at h2
   | cons y b =>
     simp only[List.map_cons,List.cons.injEq] at h2;have hx:=ha x (by simp);have hy:=hb y (by simp);have h3:x.toNat=y.toNat:=by
      have:=congrArg UInt8.toNat h2.1;simp only[UInt8.toNat_ofNat'] at this;omega
     rw[ih (fun z hz=>ha z (by simp[hz])) (fun z hz=>hb z (by simp[hz])) h2.2,show x=y by omega]
def z8a(c:q0a):List Int:=c.mem++(c.at_.map (fun x=>x+1)++c.buf.flatMap P2a)
def c8b(c:q0a):ByteArray:=f4a (z8a c)
theorem u1b{p:f0a}(hp:d1a p){c:q0a}(hf:c3a p c):∀x∈z8a c,0≤x∧x≤255:=by
 obtain⟨h1,h2,h3⟩:=L6a hp hf;intro x hx;simp only[z8a,List.mem_append,List.mem_map] at hx;rcases hx with hx|⟨y,hy,rfl⟩|hx
 ·exact h1 x hx
 ·have:=h2 y hy;omega
 ·exact h3 x hx
theorem Z3c{p:f0a}(hp:d1a p){c d:q0a}(hc:c3a p c)(hd:c3a p d)(h:c8b c=c8b d):c=d:=by
 have h1:=r0b (u1b hp hc) (u1b hp hd) h;unfold z8a at h1;obtain⟨h2,h3⟩:=List.append_inj h1 (hc.shape.mem.trans hd.shape.mem.symm);obtain⟨h4,h5⟩:=List.append_inj h3 (by simp[hc.shape.at_,hd.shape.at_]);have h6:c.at_=d.at_:=by
  have:=congrArg (List.map fun x:Int=>x-1) h4;simpa[List.map_map,Function.comp_def] using this
 refine I6b hc.shape hd.shape ?_;unfold K5a;rw[h2,h6,h5]
def two(n:Int):List Int:=[n % 256,n / 256 % 256]
def p5b(c:q0a):List Int:=(K5a c).flatMap two
def d1b(c:q0a):ByteArray:=f4a (p5b c)
theorem w9b:∀(a b:List Int),(∀x∈a,-1≤x∧x≤255)→(∀x∈b,-1≤x∧x≤255)→a.flatMap two=b.flatMap two→a=b
 | [],[],_,_,_=>rfl
 | [],y::b,_,_,h=>by simp[two] at h
 | x::a,[],_,_,h=>by simp[two] at h
 | x::a,y::b,h1,h2,h=>by
   simp only[List.flatMap_cons,two,List.cons_append,List.nil_append,List.cons.injEq] at h;have hx:=h1 x (by simp);have hy:=h2 y (by simp);rw[w9b a b (fun z hz=>h1 z (by simp[hz])) (fun z hz=>h2 z (by simp[hz])) h.2.2,show x=y by omega]
theorem i5c(a:List Int):∀x∈a.flatMap two,0≤x∧x≤255:=by
 intro x hx;obtain⟨_,_,hx⟩:=List.mem_flatMap.1 hx;simp only[two,List.mem_cons,List.not_mem_nil,or_false] at hx;rcases hx with rfl|rfl<;>omega
theorem S9a{p:f0a}(hp:d1a p){c:q0a}(hf:c3a p c):∀x∈K5a c,-1≤x∧x≤255:=by
 obtain⟨h1,h2,h3⟩:=L6a hp hf;intro x hx;simp only[K5a,List.mem_append] at hx;rcases hx with hx|hx|hx
 ·have:=h1 x hx;omega
 ·have:=h2 x hx;omega
 ·have:=h3 x hx;omega
theorem h7b{p:f0a}(hp:d1a p){c d:q0a}(hc:c3a p c)(hd:c3a p d)(h:d1b c=d1b d):c=d :=
 I6b hc.shape hd.shape (w9b _ _ (S9a hp hc) (S9a hp hd) (r0b (i5c _) (i5c _) h))
structure K2a where
 conf:q0a
 frm:Int
 ch:A0a
abbrev n2a(V:List K2a):List q0a:=V.map K2a.conf
def M2a(V:List K2a)(v:K2a):List K2a:=if v.conf∈n2a V then V else V++[v]
def i1b(p:f0a)(m:Int)(i:Nat)(c:q0a)(V:List K2a)(xs:List A0a):List K2a:=xs.foldl (fun V x=>M2a V ⟨doC p m c x,i,x⟩) V
def s0d(p:f0a):List K2a:=[⟨T0a p,-1,⟨0,0,0⟩⟩]
def e3a(p:f0a)(m:Int):Nat→List K2a
 | 0=>s0d p
 | n+1=>match (e3a p m n)[n]? with
   | some v=>i1b p m n v.conf (e3a p m n) (G0a p m v.conf)
   | none=>e3a p m n
theorem G3b(V:List K2a)(v:K2a):n2a (M2a V v)=if v.conf∈n2a V then n2a V else n2a V++[v.conf]:=by
 unfold M2a;split<;>simp
theorem Q1b(p:f0a)(m:Int)(i:Nat)(c:q0a):∀(xs:List A0a) (V:List K2a),n2a (i1b p m i c V xs)=Y1c (n2a V) (xs.map (doC p m c))
 | [],_=>rfl
 | x::xs,V=>by
   show n2a (i1b p m i c (M2a V ⟨doC p m c x,i,x⟩) xs)=_
   rw[Q1b p m i c xs,List.map_cons,H7a,G3b]
theorem t4a(p:f0a)(m:Int):∀n,n2a (e3a p m n)=bfs (Z5a p m) (T0a p) n
 | 0=>rfl
 | n+1=>by
   rw[e3a,bfs,←t4a p m n];rw[List.getElem?_map];rcases h:(e3a p m n)[n]? with _|v
   ·rfl
   ·exact Q1b p m n v.conf _ _
theorem o1b(V:List K2a)(v:K2a):V <+: M2a V v:=by
 unfold M2a;split
 ·exact List.prefix_refl _
 ·exact List.prefix_append _ _
theorem H2b(p:f0a)(m:Int)(i:Nat)(c:q0a):∀(xs:List A0a) (V:List K2a),V <+: i1b p m i c V xs
 | [],_=>List.prefix_refl _
 | _::xs,V=>(o1b V _).trans (H2b p m i c xs _)
theorem x9b(p:f0a)(m:Int)(i:Nat)(c:q0a)(V:List K2a)(xs:List A0a)(x:A0a):i1b p m i c V (xs++[x])=M2a (i1b p m i c V xs) ⟨doC p m c x,i,x⟩:=by
 unfold i1b;rw[List.foldl_append];rfl
theorem B2c(p:f0a)(m:Int)(i:Nat)(c:q0a)(V:List K2a)(xs ys:List A0a):i1b p m i c V (xs++ys)=i1b p m i c (i1b p m i c V xs) ys:=by
 unfold i1b;rw[List.foldl_append]
theorem b9b(p:f0a)(m:Int)(n:Nat):e3a p m n <+: e3a p m (n+1):=by
 rw[e3a]
 split
 ·exact H2b ..
 ·exact List.prefix_refl _
theorem B2b(p:f0a)(m:Int){n k:Nat}(h:n≤k):e3a p m n <+: e3a p m k:=by
 induction h with
 | refl=>exact List.prefix_refl _
 | step _ ih=>exact ih.trans (b9b p m _)
theorem c0c{p:f0a}{m:Int}{n:Nat}{v:K2a}(h:(e3a p m n)[n]?=some v)(j:Nat):i1b p m n v.conf (e3a p m n) ((G0a p m v.conf).take j) <+: e3a p m (n+1):=by
 have e:e3a p m (n+1)=i1b p m n v.conf (e3a p m n) (G0a p m v.conf):=by rw[e3a,h]
 rw[e]
 conv=>rhs;rw[←List.take_append_drop j (G0a p m v.conf),B2c]
 exact H2b ..
theorem Q4b{p:f0a}{m:Int}{n:Nat}{v:K2a}(h:(e3a p m n)[n]?=some v):e3a p m (n+1)=i1b p m n v.conf (e3a p m n) (G0a p m v.conf):=by rw[e3a,h]
theorem N3b{p:f0a}{m:Int}{n:Nat}(h:(e3a p m n).length≤n):∀k,e3a p m (n+k)=e3a p m n
 | 0=>rfl
 | k+1=>by
   rw[←Nat.add_assoc,e3a,N3b h k];rw[List.getElem?_eq_none (by omega)]
def X3a(p:f0a)(m:Int)(V:List K2a):Prop:=∃n,V <+: e3a p m n
theorem X3a.done{p:f0a}{m:Int}{V:List K2a}(h:X3a p m V){n:Nat}(hn:(e3a p m n).length≤n):V <+: e3a p m n:=by
 obtain⟨k,hk⟩:=h;rcases Nat.le_total k n with a0|a0
 ·exact hk.trans (B2b p m a0)
 ·obtain⟨_,rfl⟩:=Nat.exists_eq_add_of_le a0
  rwa [N3b hn] at hk
theorem X3a.cmp{p:f0a}{m:Int}{V W:List K2a}(h1:X3a p m V)(h2:X3a p m W)(hl:V.length≤W.length):V <+: W:=by
 obtain⟨k,hk⟩:=h1;obtain⟨j,hj⟩:=h2;exact List.prefix_of_prefix_length_le (hk.trans (B2b p m (Nat.le_max_left k j))) (hj.trans (B2b p m (Nat.le_max_right k j))) hl
theorem q0b{p:f0a}{m:Int}{V:List K2a}(h:X3a p m V){v:K2a}(hv:v∈V):y6a (Z5a p m) (T0a p) v.conf:=by
 obtain⟨n,hn⟩:=h;exact F6a _ _ n _ (by rw[←t4a];exact List.mem_map.2 ⟨v,hn.subset hv,rfl⟩)
structure w6a (V:List K2a):Prop where
 one:∀(k:Nat) (v:K2a),V[k]?=some v→(k=0∧v.frm=-1)∨(0≤v.frm∧v.frm<(k:Int))
theorem w6a.found{V:List K2a}{v:K2a}(h:w6a V)(h1:0≤v.frm)(h2:v.frm<(V.length:Int)):w6a (M2a V v):=by
 unfold M2a
 split
 ·exact h
 ·refine⟨fun k u hu=>?_⟩;rcases Nat.lt_or_ge k V.length with hk|hk
  ·rw[List.getElem?_append_left hk] at hu;exact h.one k u hu
  ·rw[List.getElem?_append_right hk] at hu;have a0:k-V.length=0:=by
    have:=(List.getElem?_eq_some_iff.1 hu).1;simp at this;omega
   rw[a0] at hu;simp at hu;subst hu;exact .inr ⟨h1,by omega⟩
theorem w6a.ext{p:f0a}{m:Int}{i:Nat}{c:q0a}:∀(xs:List A0a) (V:List K2a),w6a V→i<V.length→w6a (i1b p m i c V xs)
 | [],_,h,_=>h
 | _::xs,V,h,hi=>w6a.ext xs _ (h.found (by simp) (by simpa using hi)) (Nat.lt_of_lt_of_le hi (o1b V _).length_le)
theorem C8a(p:f0a)(m:Int):∀n,w6a (e3a p m n)
 | 0=>⟨fun k v h=>by
   match k,h with
   | 0,h=>simp[e3a,s0d] at h;subst h;exact .inl ⟨rfl,rfl⟩
   | k+1,h=>simp[e3a,s0d] at h⟩
 | n+1=>by
   rw[e3a];rcases h:(e3a p m n)[n]? with _|v
   ·exact C8a p m n
   ·exact(C8a p m n).ext _ _ (List.getElem?_eq_some_iff.1 h).1
theorem q7a{α:Type}{V W:List α}(h:V <+: W){k:Nat}{v:α}(hv:V[k]?=some v):W[k]?=some v:=by
 obtain⟨_,rfl⟩:=h;rw[List.getElem?_append_left (List.getElem?_eq_some_iff.1 hv).1];exact hv
theorem X3a.from{p:f0a}{m:Int}{V:List K2a}(h:X3a p m V):w6a V:=by
 obtain⟨n,hn⟩:=h;exact⟨fun k v hv=>(C8a p m n).one k v (q7a hn hv)⟩
theorem M4a(p:f0a)(M:List Nat)(w0:World)(cs:List Value)(hI:InP p M w0 cs):
 M0a Tryz.prog 139 #[.agg cs.toArray] w0 fun v w'=>v=.bool true∧Below w0.heap.size w0 w':=by
 obtain⟨_,_,_,_,_,_,_,_,_,_,_,_,rfl,_,_,_,_,_,_,_,_,_,_,_,_⟩:=hI.rd.open_;have S:=St.refl w0;refine a0a Tryz.func139 rfl Tryz.ntmps139 rfl ?_;refine wO0 rfl ⟨⟩ (h0a S (by conv=>lhs;whnf) rfl ?_);intro g1 w1 S1 X1 G1;refine lO S1.k [.w 0] rfl ⟨⟨rfl,by rfl⟩,⟨⟩⟩ (g0a S1 E5b rfl rfl (d0b p M _ _ (hI.keep (S1.keep0 M)).rd hI.ok (hI.keep (S1.keep0 M)).msk (hI.keep (S1.keep0 M)).lt) ?_);intro w8 S8 X8;refine lB0 rfl ⟨⟩ (fun a0=>?_) (fun a0=>by exfalso;omega);exact lT rfl ⟨⟩ rfl ⟨rfl,S8.fin⟩
theorem h7a(p:f0a)(c:q0a)(M:List Nat)(w0:World)(cs xs:List Value)(hI:InP p M w0 cs)(hX:t0a M w0 c xs)(hf:c3a p c)(he:∀b∈c.buf,b=[]):
 M0a Tryz.prog 178 #[.agg cs.toArray,.agg xs.toArray] w0 fun v w'=>v=.bool true∧Below w0.heap.size w0 w':=by
 obtain⟨Ac,nc,cc,Am,nm,cm,Al,nl,cl,At,nt,ct,rfl,hC,_,_,m1,_,_,_,_,_,_,_,_⟩:=hI.rd.open_;obtain⟨Xm,xm,ym,Xa,xa,ya,Xb,xb,yb,rfl,y0,j1,i0,_,_,j0,_,_,_⟩:=hX.open_;have S:=St.refl w0;have f1:=hf.mem.len;have f2:=hf.nat;have f3:=hf.nbuf;refine a0a Tryz.func178 rfl Tryz.ntmps178 rfl ?_;refine wO0 rfl ⟨⟩ (h0a S (by conv=>lhs;whnf) rfl ?_);intro g2 w2 S2 X2 G2;refine h0a S2 (by conv=>lhs;whnf) rfl ?_;intro g3 w3 S3 X3 G3;refine lB S3.k [.o 0,.o 1] rfl ⟨rfl,rfl,⟨⟩⟩ (fun W0=>by exfalso;omega) fun W0=>?_;refine lB S3.k [.o 0,.o 1] rfl ⟨rfl,rfl,⟨⟩⟩ (fun X0=>by exfalso;omega) fun X0=>?_;refine lB S3.k [.o 0,.o 1] rfl ⟨rfl,rfl,⟨⟩⟩ (fun Y0=>by exfalso;omega) fun Y0=>?_;refine lC S3.k [.o 0] rfl ⟨rfl,⟨⟩⟩ (wL (fun μk D ε w=>D=[]∧∃k:Nat,(k+μk=(c.mem.length))∧St [] w0 w [(some g3,38,[.slice Xm xm ym,.slice Xa xa ya,.slice Xb xb yb]),(some g2,27,[.slice Ac nc cc,.slice Am nm cm,.slice Al nl cl,.slice At nt ct])]∧Sl ε [(2,.pointer (some ⟨g2,0,none⟩)),(3,.pointer (some ⟨g3,0,none⟩)),(36,.slice Xm xm ym),(37,.int .i64 xm),(38,.int .i64 k)]) (μ:=(c.mem.length)) ⟨rfl,0,by omega,S3,rfl⟩ ?_);rintro μk D ε w ⟨rfl,k,hk,S,eZ⟩;refine wK eZ (wB0 rfl ⟨⟩ (fun Z0=>?_) fun Z0=>?_)
 ·obtain⟨v,R0,n1,_,K0,s0,_,_,z0,F0⟩:=RdS.get (y0) (k) (by omega);obtain⟨rfl,_⟩:=id F0;have q1:=hf.mem.vals k v K0;refine lB (S.k.a z0) [.x R0 n1,.f 0 0] rfl ⟨rfl,⟨s0,by omega⟩,⟨⟩⟩ (fun a1=>by exfalso;omega) fun a1=>?_;obtain⟨x,S0,o1,_,P0,t0,_,_,A0,G0⟩:=RdS.get (hC) (k) (by omega);obtain⟨rfl,_,_,_,_⟩:=F2a.open_ G0;have q2:=(hI.ok.cells x (c0a P0)).w;rw[a1d P0,a3a] at q1;refine lO (S.k.a A0) [.o 1,.x S0 o1,.f 0 1] rfl ⟨rfl,⟨t0,by omega⟩,rfl,⟨⟩⟩ ?_;rw[show x.w=((x.w.toNat:Nat):Int) by omega];refine w4c (n:=x.w.toNat) rfl (by rfl) (by omega) rfl ?_;refine lB0 rfl ⟨⟩ (fun b1=>by exfalso;omega) fun b1=>?_;refine lP0 rfl ⟨by omega,⟨⟩⟩ ⟨μk-1,by omega,rfl,(k+1),(by omega),S,rfl⟩
 refine lC S.k [.o 0] rfl ⟨rfl,⟨⟩⟩ (wL (fun μk D ε w=>D=[]∧∃k:Nat,(k+μk=(c.at_.length))∧St [] w0 w [(some g3,38,[.slice Xm xm ym,.slice Xa xa ya,.slice Xb xb yb]),(some g2,27,[.slice Ac nc cc,.slice Am nm cm,.slice Al nl cl,.slice At nt ct])]∧Sl ε [(2,.pointer (some ⟨g2,0,none⟩)),(3,.pointer (some ⟨g3,0,none⟩)),(58,.slice Xa xa ya),(59,.int .i64 xa),(60,.int .i64 k)]) (μ:=(c.at_.length)) ⟨rfl,0,by omega,S,rfl⟩ ?_);rintro μk D ε w ⟨rfl,k,hk,S,eZ⟩;refine wK eZ (wB0 rfl ⟨⟩ (fun d1=>?_) fun d1=>?_)
 ·obtain⟨v,T0,p1,_,K0,u0,_,_,B0,H0⟩:=RdS.get (j1) (k) (by omega);obtain⟨rfl,_⟩:=id H0;obtain⟨th,U0,r1,_,J0,v0,_,D0,C0,I0⟩:=RdS.get (m1) (k) (by omega);obtain⟨_,_,_,_,_,_,_,_,_,_,_,_,rfl,_,_,_,_,_,_,_,_,_,_,_,_,_⟩:=N0a.open_ I0;have q1:=hf.atr k v K0 th J0;refine lO ((S.k.a C0).a B0) [.x T0 p1,.f 0 0,.o 1,.x U0 r1,.v 1] rfl ⟨⟨rfl,D0⟩,⟨v0,by omega⟩,rfl,rfl,⟨u0,by omega⟩,⟨⟩⟩ (m0a S F4b rfl rfl ?_);intro g9 w9 S9 X9 G9;refine e0a (kk:=0) (vs:=[_,_,_,_,_,_,_]) S9 O3b rfl rfl rfl rfl rfl rfl rfl ?_;intro Q0 a0 O0;dsimp only[k0a,List.set] at a0;refine lB0 rfl ⟨⟩ (fun g1=>by exfalso;omega) fun g1=>?_;refine lB a0.k [.o 0] rfl ⟨rfl,⟨⟩⟩ (fun h1=>by exfalso;omega) fun h1=>?_;refine lB0 rfl ⟨⟩ (fun i1=>?_) fun i1=>?_
  ·refine lO0 rfl ⟨⟩ ?_;cases b0:th.asleep
   ·refine s0a m2a rfl (by exact(a0.cell 0 rfl rfl).trans (congrArg (fun b=>some (Value.bool b)) b0)) rfl ?_;rw[q1.2.2 (by omega)] at b0;refine lR0 rfl ⟨⟩ (o0a rfl (by conv=>lhs;whnf) ?_);cases b0
   refine s0a m2a rfl (by exact(a0.cell 0 rfl rfl).trans (congrArg (fun b=>some (Value.bool b)) b0)) rfl ?_;rw[q1.2.2 (by omega)] at b0;obtain⟨b,o0,N0,V0,j0,e0,x0,E0,f0,g0⟩:=RdS.get (i0) (k) (by omega);obtain⟨n0,L0,q0,rfl,h0,d0,p0⟩:=F3a.open_ g0;have q2:=he b (c0a j0);subst q2;simp only[List.length_nil] at d0;refine lB (a0.k.a f0) [.o 1,.x o0 N0,.f 0 0] rfl ⟨rfl,⟨e0,by omega⟩,rfl,⟨⟩⟩ (fun r0=>by exfalso;omega) fun r0=>?_;refine lP0 rfl ⟨by omega,⟨⟩⟩ ⟨μk-1,by omega,rfl,(k+1),(by omega),a0.tail,rfl⟩
  obtain⟨b,o0,N0,V0,j0,e0,x0,E0,f0,g0⟩:=RdS.get (i0) (k) (by omega);obtain⟨n0,L0,q0,rfl,h0,d0,p0⟩:=F3a.open_ g0;have q2:=he b (c0a j0);subst q2;simp only[List.length_nil] at d0;refine lB (a0.k.a f0) [.o 1,.x o0 N0,.f 0 0] rfl ⟨rfl,⟨e0,by omega⟩,rfl,⟨⟩⟩ (fun r0=>by exfalso;omega) fun r0=>?_;refine lP0 rfl ⟨by omega,⟨⟩⟩ ⟨μk-1,by omega,rfl,(k+1),(by omega),a0.tail,rfl⟩
 exact lT rfl ⟨⟩ rfl ⟨rfl,S.fin⟩
theorem B4b(p:f0a)(M:List Nat)(w0:World)(cs:List Value)(hI:InP p M w0 cs):
 M0a Tryz.prog 113 #[.agg cs.toArray] w0 fun v w'=>(∃xs,v=.agg xs.toArray∧t0a M w' (T0a p) xs)∧Below w0.heap.size w0 w':=by
 obtain⟨Ac,nc,cc,Am,nm,cm,Al,nl,cl,At,nt,ct,rfl,hC,_,_,U0,G0,_,_,v0,bc,_,_,bt⟩:=hI.rd.open_;have S:=St.refl w0;have hp:=hI.ok;have n1:=hp.ncells;have n2:=hp.nthreads;refine a0a Tryz.func113 rfl Tryz.ntmps113 rfl ?_;refine wO0 rfl ⟨⟩ (h0a S (by conv=>lhs;whnf) rfl ?_);intro g1 w1 S1 X1 G1;refine m0a S1 Q3a rfl rfl ?_;intro g2 w2 S2 X2 G2;refine lO S2.k [.w 1] rfl ⟨⟨rfl,rfl⟩,⟨⟩⟩ (g0a S2 h3b rfl rfl (M4a p M _ _ (hI.keep (S2.keep0 M))) ?_);intro w7 S7 X7;refine lC0 rfl ⟨⟩ (D4c b0a [0,1,2,3,4,5,6,7,8,9,10,11,12,13] 14 (by kernel_rfl) (by kernel_rfl) (Cl _ _ _ _) (Cl.start S7) _ rfl ?_);refine M5a rfl rfl ?_;refine z0a y1c rfl rfl ?_;refine d0a ?_;refine M5a rfl rfl ?_;refine j0a t9a rfl (fun w1 hw=>by exact hw.1.cell 1 rfl rfl) rfl ?_;refine d0a ?_;refine I1b rfl U5a.slT rfl rfl ?_;refine N8a (n:=nc) (c:=nc) rfl rfl rfl O0a rfl rfl (by omega) (by omega) (by omega) rfl ?_;intro j0 L0 z0;refine M5a rfl rfl ?_;refine z0a A5b rfl rfl ?_;refine d0a ?_;refine M5a rfl rfl ?_;refine j0a C6b rfl (fun w1 hw=>by exact hw.1.cell 1 rfl rfl) rfl ?_;refine d0a ?_;refine I1b rfl j7b.slT rfl rfl ?_;refine N8a (n:=nt) (c:=nt) rfl rfl rfl O0a rfl rfl (by omega) (by omega) (by omega) rfl ?_;intro n0 N0 A0;refine M5a rfl rfl ?_;refine z0a A5b rfl rfl ?_;refine d0a ?_;refine M5a rfl rfl ?_;refine j0a C6b rfl (fun w1 hw=>by exact hw.1.cell 1 rfl rfl) rfl ?_;refine d0a ?_;refine I1b rfl j7b.slT rfl rfl ?_;refine N8a (n:=nt) (c:=nt) rfl rfl rfl V2a rfl rfl (by omega) (by omega) (by omega) rfl ?_;intro o0 O0 B0;refine M5a rfl rfl ?_;refine t2a u4a (vs:=[(0,.slice _ _ _),(1,.slice _ _ _),(2,.slice _ _ _)]) (cs:=[_,_,_]) rfl rfl rfl rfl ?_;refine d0a ?_;refine E7b rfl rfl rfl Q3a rfl ?_;intro g3 G3 X0;refine x7b ?_;rintro a1 ⟨b0,_⟩ ⟨⟨⟨⟨-,s0⟩,t0⟩,u0⟩,V0⟩;clear z0;replace b0:=b0.push_new S7 s0 L0;replace b0:=b0.push_more (L1:=[_]) S7 t0 N0 (by simpa[eq_comm] using A0);replace b0:=b0.push_more (L1:=[_,_]) S7 u0 O0 (by simpa[eq_comm] using B0);replace b0:=b0.push_more (L1:=[_,_,_]) S7 V0 G3 (by simpa[eq_comm] using X0);refine e0a (kk:=0) (vs:=[_,_,_]) b0 e2a rfl rfl rfl rfl rfl rfl rfl ?_;intro J0 a0 E0;dsimp only[k0a,List.set] at a0;refine L0a ⟨rfl,?_⟩;refine fC a0.k [.o 5] rfl ⟨rfl,⟨⟩⟩ ?_;refine wL (fun μk D ε w=>D=[]∧∃k:Nat,(k+μk=(p.cells.length))∧St [] w0 w [(some g3,38,[.slice (some ⟨j0,0,none⟩) nc nc,.slice (some ⟨n0,0,none⟩) nt nt,.slice (some ⟨o0,0,none⟩) nt nt]),(some o0,86,(List.replicate nt (.slice none 0 0))),(some n0,3,(List.replicate nt (.int .i64 0))),(some j0,3,C2a ((T0a p).mem.map (Value.int .i64)) (.int .i64 0) k),(some g2,38,[.slice none 0 0,.slice none 0 0,.slice none 0 0]),(some g1,27,[.slice Ac nc cc,.slice Am nm cm,.slice Al nl cl,.slice At nt ct])]∧Sl ε [(1,.pointer (some ⟨g1,0,none⟩)),(2,.pointer (some ⟨g2,0,none⟩)),(3,.pointer (some ⟨g3,0,none⟩)),(25,.int .i64 nc),(26,.int .i64 k)]) (μ:=(p.cells.length)) ⟨rfl,0,by omega,(a0.setEnt 3 rfl (by rw[I4a];simp[T0a,G0])),rfl⟩ ?_;rintro μk D ε w ⟨rfl,k,_,S,eZ⟩;refine wK eZ (wB0 rfl ⟨⟩ (fun S0=>?_) fun S0=>?_)
 ·refine lC0 rfl ⟨⟩ (v0a b0a [0,1,2,3,4,5,6,7,8,9] [] [10] (by kernel_rfl) rfl (Cl _ _ _ _) (Cl.start S) ?_);obtain⟨x,Q0,Y0,_,W0,p0,_,_,r0,x0⟩:=RdS.get (hC) (k) (by omega);obtain⟨rfl,_,_,_,_⟩:=F2a.open_ x0;refine qO (S.q.a r0) [.o 0,.o 5,.x Q0 Y0,.f 0 2] rfl ⟨rfl,⟨p0,by omega⟩,rfl,rfl,⟨⟩⟩ (n0a O0a.slT rfl (by rfl) rfl (by omega) (by omega) rfl ?_);refine qD rfl ⟨⟩ ?_;rintro b1 ⟨P0,_⟩
  first|refine B0a (kk:=3) P0 u9a rfl (by conv=>lhs;whnf) rfl rfl (by(simp;omega)) ?_
  intro K0 g0 F0;refine lP0 rfl ⟨by omega,⟨⟩⟩ ⟨μk-1,by omega,rfl,(k+1),(by omega),(g0.setEnt 3 rfl (m5a (by simp[T0a,W0]) (by simp))),rfl⟩
 refine lC S.k [.o 5] rfl ⟨rfl,⟨⟩⟩ ?_;refine wL (fun μj D ε w=>D=[]∧∃j:Nat,(j+μj=(p.threads.length))∧St [] w0 w [(some g3,38,[.slice (some ⟨j0,0,none⟩) nc nc,.slice (some ⟨n0,0,none⟩) nt nt,.slice (some ⟨o0,0,none⟩) nt nt]),(some o0,86,(List.replicate nt (.slice none 0 0))),(some n0,3,C2a ((T0a p).at_.map (Value.int .i64)) (.int .i64 0) j),(some j0,3,(T0a p).mem.map (Value.int .i64)),(some g2,38,[.slice none 0 0,.slice none 0 0,.slice none 0 0]),(some g1,27,[.slice Ac nc cc,.slice Am nm cm,.slice Al nl cl,.slice At nt ct])]∧Sl ε [(1,.pointer (some ⟨g1,0,none⟩)),(2,.pointer (some ⟨g2,0,none⟩)),(3,.pointer (some ⟨g3,0,none⟩)),(42,.int .i64 nt),(43,.int .i64 j)]) (μ:=(p.threads.length)) ⟨rfl,0,by omega,((S.setEnt 3 rfl (o5a _ _ (by simp[T0a];omega))).setEnt 2 rfl (by rw[I4a];simp[T0a,v0])),rfl⟩ ?_;rintro μj D ε w ⟨rfl,j,_,S,eZ⟩;refine wK eZ (wB0 rfl ⟨⟩ (fun T0=>?_) fun T0=>?_)
 ·obtain⟨th,R0,Z0,_,i0,q0,_,_,h0,y0⟩:=RdS.get (U0) (j) (by omega);obtain⟨_,_,_,_,_,_,_,_,_,_,_,_,rfl,_,_,_,_,_,_,_,_,_,_,_,_,_⟩:=N0a.open_ y0;refine lO S.k [.o 5,.x R0 Z0] rfl ⟨⟨q0,by omega⟩,rfl,⟨⟩⟩ ?_;cases d0:th.asleep
  ·refine s0a m2a rfl (by exact(S.old (h0 _ _ rfl)).trans (congrArg (fun b=>some (Value.bool b)) d0)) rfl ?_;refine lP0 rfl ⟨by omega,⟨⟩⟩ ⟨μj-1,by omega,rfl,(j+1),(by omega),(S.setEnt 2 rfl (by exact c5b (by simp[T0a,i0,d0]))),rfl⟩
  refine s0a m2a rfl (by exact(S.old (h0 _ _ rfl)).trans (congrArg (fun b=>some (Value.bool b)) d0)) rfl ?_;refine lO S.k [.o 0] rfl ⟨rfl,⟨⟩⟩ (w0a O0a.slT rfl (by rfl) rfl (by omega) (by omega) rfl ?_)
  first|refine B0a (kk:=2) S u9a rfl (by conv=>lhs;whnf) rfl rfl (by(simp;omega)) ?_
  intro H0 f0 C0;refine lP0 rfl ⟨by omega,⟨⟩⟩ ⟨μj-1,by omega,rfl,(j+1),(by omega),(f0.setEnt 2 rfl (by exact m5a (by simp[T0a,i0,d0]) (by simp))),rfl⟩
 refine lO S.k [.w 0] rfl ⟨⟨rfl,rfl⟩,⟨⟩⟩ ?_
 first|refine e0a (kk:=4) (vs:=[_,_,_]) S e2a rfl rfl rfl rfl rfl rfl rfl ?_
 intro I0 e0 D0;dsimp only[k0a,List.set] at e0;refine lR0 rfl ⟨⟩ ?_;have SF:=e0.setEnt 2 rfl (o5a _ _ (by simp[T0a];omega));have hf:=y5a hp;exact n1a (n:=3) rfl a1a rfl (SF.cells 4 rfl) rfl ⟨⟨_,rfl,_,_,_,rfl,SF.rdInts 3 rfl (Q0a hI.lt (SF.new 3 rfl)) (by simp[T0a,G0]) bc (X2a hp hf.mem),SF.rdInts 2 rfl (Q0a hI.lt (SF.new 2 rfl)) (by simp[T0a,v0]) bt (W5a hp hf),SF.rdBufs 1 rfl (Q0a hI.lt (SF.new 1 rfl)) (by simp[T0a,v0]) bt (by simp[T0a])⟩,SF.fin⟩
theorem b1b(p:f0a)(c:q0a)(t i:Nat)(th:X0a)(s:y1a)(M:List Nat)(w0:World)(cs xs:List Value)(hI:InP p M w0 cs)(hX:t0a M w0 c xs)(hf:c3a p c)(he:t3a c)(g0:p.threads[t]?=some th)(R0:th.steps[i]?=some s):
 M0a Tryz.prog 205 #[.agg cs.toArray,.agg xs.toArray,.int .i64 t,.int .i64 i] w0 fun v w'=>v=.bool (S0a p 0 c t s)∧Below w0.heap.size w0 w':=by
 obtain⟨_,_,_,_,_,_,_,_,_,_,_,_,rfl,_,_,_,V0,_,_,_,_,_,_,_,_⟩:=hI.rd.open_;obtain⟨_,_,_,_,_,_,_,_,_,rfl,i0,z0,_,_,e0,h0,_,_,_⟩:=hX.open_;have S:=St.refl w0;have f2:=hf.nat;have hp:=hI.ok;have ht:=u1a g0;have hi:=u1a R0;have j1:=hp.thread g0;have i1:=j1.steps s (c0a R0);have W0:6≤s.kind→0≤s.target∧s.target<p.threads.length:=fun h=>(i1.row.k6 h).1;refine a0a Tryz.func205 rfl Tryz.ntmps205 rfl ?_;refine wO0 rfl ⟨⟩ (h0a S (by conv=>lhs;whnf) rfl ?_);intro g4 w4 S4 X4 G4;refine h0a S4 (by conv=>lhs;whnf) rfl ?_;intro g5 w5 S5 X5 G5;obtain⟨_,a1,m1,_,P0,s0,_,_,B0,I0⟩:=RdS.get (V0) (t) (by omega);obtain rfl:=Option.some.inj (g0.symm.trans P0);obtain⟨_,_,_,_,_,_,_,_,_,_,_,_,rfl,_,_,_,j0,_,_,_,_,_,_,_,_,_⟩:=N0a.open_ I0;obtain⟨_,b1,n1,_,Q0,t0,_,H0,C0,J0⟩:=RdS.get (j0) (i) (by omega);obtain rfl:=Option.some.inj (R0.symm.trans Q0);obtain⟨_,_,_,_,_,_,rfl,⟨_,_,_,_,_⟩,A0,_,_,_⟩:=q2a.open_ J0;refine lO ((S5.k.a C0).a B0) [.o 1,.x a1 m1,.f 0 4,.x b1 n1,.v 1] rfl ⟨⟨rfl,H0⟩,⟨t0,by omega⟩,rfl,⟨s0,by omega⟩,rfl,⟨⟩⟩ (m0a S5 S5b rfl rfl ?_);intro g9 w9 S9 X9 G9;refine e0a (kk:=0) (vs:=[_,_,_,_,_,_,_,_,_,_,_]) S9 x6b rfl rfl rfl rfl rfl rfl rfl ?_;intro X0 a0 T0;dsimp only[k0a,List.set] at a0;refine lC0 rfl ⟨⟩ (v0a b0a [0,1,2,3,4,5,6,7,8,9,10,11,12,13,14,15,16,17] [] [] (by kernel_rfl) rfl (Cl _ _ _ _) (Cl.start a0) ?_);obtain⟨a,d1,o1,_,e0,u0,_,_,D0,K0⟩:=RdS.get (z0) (t) (by omega);obtain⟨rfl,_⟩:=id K0;refine qB (a0.q.a D0) [.o 1,.x d1 o1,.f 0 0,.o 0] rfl ⟨rfl,rfl,⟨u0,by omega⟩,rfl,⟨⟩⟩ (fun d0=>?_) fun d0=>?_
 ·refine qD rfl ⟨⟩ ?_;rintro Y0 ⟨b0,U0⟩;refine lT rfl ⟨⟩ rfl ⟨congrArg Value.bool ?_,b0.fin⟩;rw[B4a he,getD_some e0];simp[d0];done
 refine qO a0.q [.o 0,.o 1,.o 1] rfl ⟨rfl,rfl,rfl,⟨⟩⟩ (r1a k1b rfl rfl (fun w1 S1 X1=>O8a s.guard M _ _ _ _ c.mem c.mem (RdE.keep (S1.keep0 M) _ _ A0) (hI.keep (S1.keep0 M)).msk (i0.keep (S1.keep0 M)) (i0.keep (S1.keep0 M))) ?_);refine qB0 rfl ⟨⟩ (fun f0=>?_) fun f0=>?_
 ·refine qD rfl ⟨⟩ ?_;rintro Y0 ⟨b0,U0⟩;refine lT rfl ⟨⟩ rfl ⟨congrArg Value.bool ?_,b0.fin⟩;rw[B4a he,getD_some e0];simp[d0,f0];done
 refine qD rfl ⟨⟩ ?_;rintro Y0 ⟨b0,U0⟩;refine lB b0.k [.o 0] rfl ⟨rfl,⟨⟩⟩ (fun n0=>?_) fun n0=>?_
 ·have q6:=W0 (by omega);obtain⟨b,f1,p1,_,h0,v0,_,_,E0,L0⟩:=RdS.get (z0) (s.target.toNat) (by omega);obtain⟨rfl,_⟩:=id L0;refine lB (b0.k.a E0) [.o 1,.o 0,.x f1 p1,.f 0 0] rfl ⟨rfl,⟨v0,by omega⟩,rfl,rfl,⟨⟩⟩ (fun q0=>?_) fun q0=>?_
  ·refine lT rfl ⟨⟩ rfl ⟨congrArg Value.bool ?_,b0.fin⟩;rw[B4a he,getD_some e0];simp[d0,f0,n0,h0,q0];done
  refine lT rfl ⟨⟩ rfl ⟨congrArg Value.bool ?_,b0.fin⟩;rw[B4a he,getD_some e0];simp[d0,f0,n0,h0,q0];done
 refine lB0 rfl ⟨⟩ (fun o0=>?_) fun o0=>?_
 ·refine lC0 rfl ⟨⟩ (v0a b0a [0,1,2,3,4,5,6,7,8,9,10,11,12,13,14,15] [] [] (by kernel_rfl) rfl (Cl _ _ _ _) (Cl.start b0) ?_);have q6:=W0 (by omega);obtain⟨b,g1,q1,_,h0,x0,_,_,F0,N0⟩:=RdS.get (z0) (s.target.toNat) (by omega);obtain⟨rfl,_⟩:=id N0;obtain⟨_,h1,r1,_,S0,y0,_,_,G0,O0⟩:=RdS.get (V0) (s.target.toNat) (by omega);obtain⟨_,_,_,_,_,_,_,_,_,_,_,_,rfl,_,_,_,_,_,_,_,_,_,_,_,_,_⟩:=N0a.open_ O0;have q7:=(hp.thread S0).points;refine qB ((b0.q.a G0).a F0) [.o 1,.o 0,.x g1 q1,.f 0 0,.o 2,.o 0,.x h1 r1,.f 1 1] rfl ⟨by omega,rfl,⟨y0,by omega⟩,rfl,rfl,rfl,⟨x0,by omega⟩,rfl,rfl,⟨⟩⟩ (fun r0=>?_) fun r0=>?_
  ·refine qD rfl ⟨⟩ ?_;rintro s1 ⟨p0,Z0⟩;refine lT rfl ⟨⟩ rfl ⟨congrArg Value.bool ?_,p0.fin⟩;rw[B4a he,getD_some e0];simp[d0,f0,o0,h0,S0,r0];done
  refine qD rfl ⟨⟩ ?_;rintro s1 ⟨p0,Z0⟩;refine lT rfl ⟨⟩ rfl ⟨congrArg Value.bool ?_,p0.fin⟩;rw[B4a he,getD_some e0];simp[d0,f0,o0,h0,S0,r0];done
 refine lT rfl ⟨⟩ rfl ⟨congrArg Value.bool ?_,b0.fin⟩;rw[B4a he,getD_some e0];simp[d0,f0,n0,o0];done
theorem c5a(p:f0a)(c:q0a)(M:List Nat)(w0:World)(cs xs:List Value)(hI:InP p M w0 cs)(hX:t0a M w0 c xs)(hf:c3a p c)(he:t3a c):
 M0a Tryz.prog 179 #[.agg cs.toArray,.agg xs.toArray] w0 fun v w'=>Q8b M w' v (G0a p 0 c)∧Below w0.heap.size w0 w':=by
 obtain⟨Ac,nc,cc,Am,nm,cm,Al,nl,cl,At,nt,ct,rfl,_,_,_,y0,_,_,_,_,_,_,_,_⟩:=hI.rd.open_;obtain⟨Xm,xm,ym,Xa,xa,ya,Xb,xb,yb,rfl,_,_,_,_,_,_,_,_,_⟩:=hX.open_;have S:=(St.refl w0).nilEnt 44;have hp:=hI.ok;have n2:=hp.nthreads;refine a0a Tryz.func179 rfl Tryz.ntmps179 rfl ?_;refine wO0 rfl ⟨⟩ (h0a S (by conv=>lhs;whnf) rfl ?_);intro g2 w2 S2 X2 G2;refine h0a S2 (by conv=>lhs;whnf) rfl ?_;intro g3 w3 S3 X3 G3;refine lC S3.k [.o 1] rfl ⟨rfl,⟨⟩⟩ (wL (fun μk D ε w=>D=[]∧∃k:Nat,∃G:Option Nat,∃g0:List Value,∃v:Value,(k+μk=(p.threads.length))∧(B1a (fun _ _=>M1a) 3 [] w0 G g0 v (Z1a p 0 c k))∧St [] w0 w [(some g3,38,[.slice Xm xm ym,.slice Xa xa ya,.slice Xb xb yb]),(some g2,27,[.slice Ac nc cc,.slice Am nm cm,.slice Al nl cl,.slice At nt ct]),(G,44,g0)]∧Sl ε [(2,.pointer (some ⟨g2,0,none⟩)),(3,.pointer (some ⟨g3,0,none⟩)),(5,v),(10,.int .i64 nt),(11,.int .i64 k)]) (μ:=(p.threads.length)) ⟨rfl,0,none,[],.slice none 0 0,by omega,B1a.nil,S3,rfl⟩ ?_);rintro μk D ε w ⟨rfl,k,G,g0,v,_,e0,S,eZ⟩;refine wK eZ (wB0 rfl ⟨⟩ (fun v0=>?_) fun v0=>?_)
 ·obtain⟨th,t0,z0,_,b0,i0,_,_,j0,n0⟩:=RdS.get (y0) (k) (by omega);obtain⟨_,_,_,_,_,_,_,p0,_,_,_,_,rfl,_,_,_,_,_,_,_,_,_,_,_,_,_⟩:=N0a.open_ n0;have H0:=(hp.thread b0).nsteps;refine lC (S.k.a j0) [.o 1,.x t0 z0,.f 0 4] rfl ⟨rfl,⟨i0,by omega⟩,rfl,⟨⟩⟩ (wL (fun μj D ε w=>D=[]∧∃j:Nat,∃G2:Option Nat,∃cs2:List Value,∃v2:Value,(j+μj=(th.steps.length))∧(B1a (fun _ _=>M1a) 3 [] w0 G2 cs2 v2 (Z1a p 0 c k++k2a p 0 c k j))∧St [] w0 w [(some g3,38,[.slice Xm xm ym,.slice Xa xa ya,.slice Xb xb yb]),(some g2,27,[.slice Ac nc cc,.slice Am nm cm,.slice Al nl cl,.slice At nt ct]),(G2,44,cs2)]∧Sl ε [(2,.pointer (some ⟨g2,0,none⟩)),(3,.pointer (some ⟨g3,0,none⟩)),(5,v2),(6,.int .i64 k),(10,.int .i64 nt),(11,.int .i64 k),(20,.int .i64 p0),(21,.int .i64 j)]) (μ:=(th.steps.length)) ⟨rfl,0,G,g0,v,by omega,by simpa[k2a] using e0,S,rfl⟩ ?_);rintro μj D ε w ⟨rfl,j,G2,cs2,v2,_,a0,S,eZ⟩;refine wK eZ (wB0 rfl ⟨⟩ (fun x0=>?_) fun x0=>?_)
  ·refine lO S.k [.w 1,.w 0] rfl ⟨⟨rfl,rfl⟩,⟨rfl,rfl⟩,⟨⟩⟩ ?_;obtain⟨s,o0⟩:∃s,th.steps[j]?=some s:=⟨th.steps[j]'(by omega),List.getElem?_eq_getElem _⟩;refine C0a S Y7c rfl rfl (b1b p c k j th s M _ _ _ (hI.keep (S.keep0 M)) (hX.keep (S.keep0 M)) hf he b0 o0) (fun h0 A0 f0 s0=>?_) (fun h0 A0 f0 s0=>?_)
   ·refine lOn 4 f0.k [] rfl ⟨⟩ (Z0a (by conv=>lhs;whnf) rfl ?_);refine lO0 rfl ⟨⟩ (f1a f4b (vs:=[(0,.int .i64 _),(1,.int .i64 _)]) (cs:=[_,_,_]) rfl rfl rfl rfl ?_);refine u0a f0 W2a (vs:=[.agg _]) (cs:=[_,_,_]) (by rfl) rfl rfl rfl rfl rfl rfl ?_;intro G0 J0 q0 E0 C0;have l1:=X1a hp hf 0 k (by omega);have l2:=O3a p 0 c k j;refine Y0a K1a (k:=3) (M2:=[]) (e1:=⟨k,j,0⟩) q0 W2a (by decide) rfl a0 rfl rfl (q0.cells 0 rfl) (M1a.of (by unfold i64;omega) (by unfold i64;omega) (by unfold i64;omega)) (by rw[List.length_append];omega) rfl ?_;intro I0 D0 u0 K0 r0 d0 F0 B0;refine P0a (by conv=>lhs;whnf) rfl ?_;refine lP0 rfl ⟨by omega,⟨⟩⟩ ⟨μj-1,by omega,rfl,(j+1),(_),(_),(_),(by omega),?_,r0.tail,rfl⟩;rw[i7a b0 o0 h0,←List.append_assoc];exact d0
   refine lP0 rfl ⟨by omega,⟨⟩⟩ ⟨μj-1,by omega,rfl,(j+1),(_),(_),(_),(by omega),?_,f0,rfl⟩;rw[I8a b0 o0 h0];exact a0
  refine lP0 rfl ⟨by omega,⟨⟩⟩ ⟨μk-1,by omega,rfl,(k+1),(_),(_),(_),(by omega),?_,S,rfl⟩;rw[U3a,J5a,j2a b0,he.getD];rw[show th.steps.length=j by omega];rw[show k2a p 0 c k j++Y2a 0 c k ([]:List E0a).length=k2a p 0 c k j by simp[Y2a]];exact a0
 refine lOn 8 S.k [] rfl ⟨⟩ (Z0a (by conv=>lhs;whnf) rfl ?_);refine P0a (by conv=>lhs;whnf) rfl ?_;refine lR0 rfl ⟨⟩ (o0a rfl (by conv=>lhs;whnf) ?_);obtain rfl:k=p.threads.length:=by omega
 have l1:=X1a hp hf 0 _ (Nat.le_refl _);rw[C5a] at l1;exact⟨B1a.rd (M:=M) K1a e0 S (k:=2) rfl (fun g hg=>by subst hg;exact Q0a hI.lt (S.new 2 rfl)) (by omega),S.fin⟩
theorem T8a(p:f0a)(c:q0a)(M:List Nat)(w0:World)(cs xs:List Value)(hI:InP p M w0 cs)(hX:t0a M w0 c xs)(hf:c3a p c)(he:t3a c):
 M0a Tryz.prog 140 #[.agg cs.toArray,.agg xs.toArray] w0 fun v w'=>Q8b M w' v (G0a p 0 c)∧Below w0.heap.size w0 w':=by
 obtain⟨_,_,_,_,_,_,_,_,_,_,_,_,rfl,_,_,_,_,_,_,_,_,_,_,_,_⟩:=hI.rd.open_;obtain⟨_,_,_,_,_,_,_,_,_,rfl,_,_,_,_,_,_,_,_,_⟩:=hX.open_;have S:=St.refl w0;refine a0a Tryz.func140 rfl Tryz.ntmps140 rfl ?_;refine wO0 rfl ⟨⟩ (h0a S (by conv=>lhs;whnf) rfl ?_);intro g2 w2 S2 X2 G2;refine h0a S2 (by conv=>lhs;whnf) rfl ?_;intro g3 w3 S3 X3 G3;refine lO S3.k [.w 1] rfl ⟨⟨rfl,by rfl⟩,⟨⟩⟩ (g0a S3 h3b rfl rfl (M4a p M _ _ (hI.keep (S3.keep0 M))) ?_);intro w6 S6 X6;refine lO S6.k [.w 1,.w 0] rfl ⟨⟨rfl,by rfl⟩,⟨rfl,by rfl⟩,⟨⟩⟩ (g0a S6 v5b rfl rfl (h7a p c M _ _ _ (hI.keep (S6.keep0 M)) (hX.keep (S6.keep0 M)) hf he) ?_);intro g0 a0 d0;refine lO a0.k [.w 1,.w 0] rfl ⟨⟨rfl,by rfl⟩,⟨rfl,by rfl⟩,⟨⟩⟩ (x0a a0 I5b rfl rfl (c5a p c M _ _ _ (hI.keep (a0.keep0 M)) (hX.keep (a0.keep0 M)) hf he) ?_);rintro f0 h0 hr b0 e0;refine P0a (by conv=>lhs;whnf) rfl ?_;refine lR0 rfl ⟨⟩ (o0a rfl (by conv=>lhs;whnf) ?_);exact⟨hr,b0.fin⟩
theorem a1b(p:f0a)(c:q0a)(t i:Nat)(th:X0a)(s:y1a)(M:List Nat)(w0:World)(cs xs:List Value)(hI:InP p M w0 cs)(hX:t0a M w0 c xs)(hf:c3a p c)(he:t3a c)(f0:p.threads[t]?=some th)(x0:th.steps[i]?=some s)(p0:c3a p (doC p 0 c ⟨t,i,0⟩)):
 M0a Tryz.prog 186 #[.agg cs.toArray,.agg xs.toArray,.agg #[.int .i64 t,.int .i64 i,.int .i64 0]] w0 fun v w'=>(∃ys,v=.agg ys.toArray∧t0a M w' (doC p 0 c ⟨t,i,0⟩) ys)∧Below w0.heap.size w0 w':=by
 obtain⟨Ac,nc,cc,Am,nm,cm,Al,nl,cl,At,nt,ct,rfl,_,_,_,M1,_,_,_,_,_,_,_,_⟩:=hI.rd.open_;obtain⟨Xm,xm,ym,Xa,xa,ya,Xb,xb,yb,rfl,j0,K1,_,t1,v0,s1,b1,b2,b3⟩:=hX.open_;have S:=St.refl w0;have f1:=hf.mem.len;have f2:=hf.nat;have f3:=hf.nbuf;have hp:=hI.ok;have n1:=hp.ncells;have n2:=hp.nthreads;have ht:=u1a f0;have hi:=u1a x0;have r1:=(hp.thread f0).steps s (c0a x0);have P1:6≤s.kind→0≤s.target∧s.target<p.threads.length:=fun h=>(r1.row.k6 h).1;refine a0a Tryz.func186 rfl Tryz.ntmps186 rfl ?_;refine wO0 rfl ⟨⟩ (h0a S (by conv=>lhs;whnf) rfl ?_);intro g3 w3 S3 X3 G3;refine h0a S3 (by conv=>lhs;whnf) rfl ?_;intro g4 w4 S4 X4 G4;refine h0a S4 (by conv=>lhs;whnf) rfl ?_;intro g5 w5 S5 X5 G5;refine m0a S5 Q3a rfl rfl ?_;intro g6 w6 S6 X6 G6;refine lC0 rfl ⟨⟩ (D4c b0a [0,1,2,3,4,5,6,7,8,9,10,11,12,13] 14 (by kernel_rfl) (by kernel_rfl) (Cl _ _ _ _) (Cl.start S6) _ rfl ?_);refine M5a rfl rfl ?_;refine z0a M2b rfl rfl ?_;refine d0a ?_;refine M5a rfl rfl ?_;refine j0a O2a rfl (fun w1 hw=>by exact hw.1.cell 2 rfl rfl) rfl ?_;refine d0a ?_;refine I1b rfl O0a.slT rfl rfl ?_;refine N8a (n:=xm) (c:=xm) rfl rfl rfl O0a rfl rfl (by omega) (by omega) (by omega) rfl ?_;intro m1 A1 X0;refine M5a rfl rfl ?_;refine z0a j3b rfl rfl ?_;refine d0a ?_;refine M5a rfl rfl ?_;refine j0a O2a rfl (fun w1 hw=>by exact hw.1.cell 2 rfl rfl) rfl ?_;refine d0a ?_;refine I1b rfl O0a.slT rfl rfl ?_;refine N8a (n:=xa) (c:=xa) rfl rfl rfl O0a rfl rfl (by omega) (by omega) (by omega) rfl ?_;intro o1 B1 Y0;refine M5a rfl rfl ?_;refine z0a y3a rfl rfl ?_;refine d0a ?_;refine M5a rfl rfl ?_;refine j0a K3a rfl (fun w1 hw=>by exact hw.1.cell 2 rfl rfl) rfl ?_;refine d0a ?_;refine I1b rfl V2a.slT rfl rfl ?_;refine N8a (n:=xb) (c:=xb) rfl rfl rfl V2a rfl rfl (by omega) (by omega) (by omega) rfl ?_;intro p1 C1 Z0;refine M5a rfl rfl ?_;refine t2a u4a (vs:=[(0,.slice _ _ _),(1,.slice _ _ _),(2,.slice _ _ _)]) (cs:=[_,_,_]) rfl rfl rfl rfl ?_;refine d0a ?_;refine E7b rfl rfl rfl Q3a rfl ?_;intro g7 G7 Q1;refine x7b ?_;rintro m2 ⟨g0,_⟩ ⟨⟨⟨⟨-,N0⟩,O0⟩,P0⟩,N1⟩;clear X0;replace g0:=g0.push_new S6 N0 A1;replace g0:=g0.push_more (L1:=[_]) S6 O0 B1 (by simpa[eq_comm] using Y0);replace g0:=g0.push_more (L1:=[_,_]) S6 P0 C1 (by simpa[eq_comm] using Z0);replace g0:=g0.push_more (L1:=[_,_,_]) S6 N1 G7 (by simpa[eq_comm] using Q1);refine e0a (kk:=0) (vs:=[_,_,_]) g0 e2a rfl rfl rfl rfl rfl rfl rfl ?_;intro x1 d0 h1;dsimp only[k0a,List.set] at d0;refine L0a ⟨rfl,?_⟩;refine fO d0.k [.o 0,.o 6] rfl ⟨rfl,rfl,⟨⟩⟩ (G0c (k:=3) d0 O0a rfl rfl rfl (by simp) (j0.keep (d0.keep0 M)) rfl ?_);intro i2 A0 a2;refine lO A0.k [.o 0,.o 6] rfl ⟨rfl,rfl,⟨⟩⟩ (G0c (k:=2) A0 O0a rfl rfl rfl (by simp) (K1.keep (A0.keep0 M)) rfl ?_);intro j2 B0 d2;refine lC0 rfl ⟨⟩ (v0a b0a [0,1,2,3,4,5,6,7,8,9,10] [11] [12] (by kernel_rfl) rfl (Cl _ _ _ _) (Cl.start B0) ?_);obtain⟨_,G1,T1,_,V0,F0,_,_,J0,S0⟩:=RdS.get (M1) (t) (by omega);obtain rfl:=Option.some.inj (f0.symm.trans V0);obtain⟨_,_,_,_,_,_,_,_,_,_,_,_,rfl,_,_,_,u0,_,_,_,_,_,_,_,_,_⟩:=N0a.open_ S0;obtain⟨_,H1,U1,_,W0,G0,_,Q0,K0,T0⟩:=RdS.get (u0) (i) (by omega);obtain rfl:=Option.some.inj (x0.symm.trans W0);obtain⟨z0,a1,D0,q0,o0,t0,rfl,⟨_,_,_,_,_⟩,_,n0,_,_⟩:=q2a.open_ T0;refine qN ((B0.q.a K0).a J0) [.o 7,.o 5,.x G1 T1,.f 0 4,.o 5,.x H1 U1,.v 1] rfl ⟨⟨rfl,Q0⟩,⟨G0,by omega⟩,rfl,rfl,⟨F0,by omega⟩,rfl,rfl,⟨⟩⟩ (V3a ?_);refine b0b rfl rfl S5b rfl ?_;refine R1a ?_;rintro o2 ⟨C0,_⟩;intro g8 O1 G8 R1;dsimp only[R3a];clear R1;replace C0:=C0.push_new B0 O1 G8;refine e0a (kk:=0) (vs:=[_,_,_,_,_,_,_,_,_,_,_]) C0 x6b rfl rfl rfl rfl rfl rfl rfl ?_;intro y1 e0 i1;dsimp only[k0a,List.set] at e0;refine lC e0.k [.o 0] rfl ⟨rfl,⟨⟩⟩ (wL (fun μk D ε w=>D=[]∧∃k:Nat,(k+μk=(s.set.length))∧St [] w0 w [(some g8,97,[.int .i64 s.kind,.int .i64 s.frm,.int .i64 s.to,.int .i64 s.guard.op,.int .i64 s.guard.w,.int .i64 s.guard.n,.slice z0 a1 D0,.slice q0 o0 t0,.bool s.release,.int .i64 s.target,.int .i64 s.module_]),(some g7,38,[.slice (some ⟨m1,0,none⟩) xm xm,.slice (some ⟨o1,0,none⟩) xa xa,.slice (some ⟨p1,0,none⟩) xb xb]),(some p1,86,List.replicate xb (.slice none 0 0)),(some o1,3,c.at_.map (Value.int .i64)),(some m1,3,(B7a (s.set.take k) c.mem c.mem).map (Value.int .i64)),(some g6,38,[.slice none 0 0,.slice none 0 0,.slice none 0 0]),(some g5,44,[.int .i64 t,.int .i64 i,.int .i64 0]),(some g4,38,[.slice Xm xm ym,.slice Xa xa ya,.slice Xb xb yb]),(some g3,27,[.slice Ac nc cc,.slice Am nm cm,.slice Al nl cl,.slice At nt ct])]∧Sl ε [(4,.pointer (some ⟨g4,0,none⟩)),(5,.pointer (some ⟨g5,0,none⟩)),(6,.pointer (some ⟨g6,0,none⟩)),(7,.pointer (some ⟨g7,0,none⟩)),(8,.pointer (some ⟨g8,0,none⟩)),(46,.slice q0 o0 t0),(47,.int .i64 o0),(48,.int .i64 k)]) (μ:=(s.set.length)) ⟨rfl,0,by omega,e0,rfl⟩ ?_);rintro μk D ε w ⟨rfl,k,_,S,eZ⟩;refine wK eZ (wB0 rfl ⟨⟩ (fun J1=>?_) fun J1=>?_)
 ·obtain⟨a,I1,V1,_,v0,H0,_,R0,L0,U0⟩:=RdS.get (n0) (k) (by omega);obtain⟨_,_,_,rfl,_,I0⟩:=U0a.open_ U0;have q1:=(r1.set a (c0a v0)).1;unfold D2a at q1;refine lO (S.k.a L0) [.x I1 V1,.v 0] rfl ⟨⟨rfl,R0⟩,⟨H0,by omega⟩,⟨⟩⟩ (m0a S c8a rfl rfl ?_);intro g2 h2 D1 Z1 Y1;refine e0a (kk:=0) (vs:=[_,_,_,_,_]) D1 d8a rfl rfl rfl rfl rfl rfl rfl ?_;intro W1 i0 F1;dsimp only[k0a,List.set] at i0;refine lC0 rfl ⟨⟩ (v0a b0a [0,1,2,3,4,5,6,7,8,9,10,11] [] [12] (by kernel_rfl) rfl (Cl _ _ _ _) (Cl.start i0) ?_);refine qO i0.q [.o 2,.o 0,.o 0,.o 8,.o 8] rfl ⟨rfl,rfl,rfl,rfl,rfl,⟨⟩⟩ (r1a k1b rfl rfl (fun w1 S1 X1=>O8a a.to M _ _ _ _ c.mem c.mem (RdE.keep (S1.keep0 M) _ _ I0) (hI.keep (S1.keep0 M)).msk (j0.keep (S1.keep0 M)) (j0.keep (S1.keep0 M))) ?_);refine n0a O0a.slT rfl (by rfl) rfl (by omega) (by omega) rfl ?_;refine qD rfl ⟨⟩ ?_;rintro p2 ⟨E1,_⟩
  first|refine B0a (kk:=5) E1 u9a rfl (by conv=>lhs;whnf) rfl rfl (by(simp;omega)) ?_
  intro z1 r0 j1;refine lP0 rfl ⟨by omega,⟨⟩⟩ ⟨μk-1,by omega,rfl,(k+1),(by omega),(r0.tail.setEnt 4 rfl (A9b v0 (by simp))),rfl⟩
 refine lO S.k [.o 1,.o 6,.o 0] rfl ⟨rfl,rfl,rfl,⟨⟩⟩ (w0a O0a.slT rfl (by rfl) rfl (by omega) (by omega) rfl ?_)
 first|refine B0a (kk:=3) S u9a rfl (by conv=>lhs;whnf) rfl rfl (by(simp;omega)) ?_
 intro u1 a0 d1;refine lB a0.k [.o 0] rfl ⟨rfl,⟨⟩⟩ (fun E0=>?_) fun E0=>?_
 ·refine lO a0.k [.o 1,.o 0] rfl ⟨rfl,rfl,⟨⟩⟩ ?_;have q6:=P1 (by omega);refine w0a O0a.slT rfl (by rfl) rfl (by omega) (by omega) rfl ?_
  first|refine B0a (kk:=3) a0 u9a rfl (by conv=>lhs;whnf) rfl rfl (by(simp;omega)) ?_
  intro v1 h0 g1;refine lO h0.k [.w 1] rfl ⟨⟨rfl,rfl⟩,⟨⟩⟩ ?_
  first|refine e0a (kk:=5) (vs:=[_,_,_]) h0 e2a rfl rfl rfl rfl rfl rfl rfl ?_
  intro y0 b0 s0;dsimp only[k0a,List.set] at b0;refine lR0 rfl ⟨⟩ ?_;have SF:=(b0.setEnt 3 rfl (show _=(atC c t s).map (Value.int .i64) by simp[atC,E0,List.map_set])).setEnt 4 rfl (show _=(B7a s.set c.mem c.mem).map (Value.int .i64) by rw[List.take_of_length_le (by omega)]);rw[F1d he f0 x0] at p0 ⊢;exact n1a (n:=3) rfl a1a rfl (SF.cells 5 rfl) rfl ⟨⟨_,rfl,_,_,_,rfl,SF.rdInts 4 rfl (Q0a hI.lt (SF.new 4 rfl)) (by simp[t1]) b1 (X2a hp p0.mem),SF.rdInts 3 rfl (Q0a hI.lt (SF.new 3 rfl)) (by rw[P5a];exact v0) b2 (W5a hp p0),SF.rdBufs 2 rfl (Q0a hI.lt (SF.new 2 rfl)) s1 b3 he⟩,SF.fin⟩
 refine lO a0.k [.w 1] rfl ⟨⟨rfl,rfl⟩,⟨⟩⟩ ?_
 first|refine e0a (kk:=5) (vs:=[_,_,_]) a0 e2a rfl rfl rfl rfl rfl rfl rfl ?_
 intro y0 b0 s0;dsimp only[k0a,List.set] at b0;refine lR0 rfl ⟨⟩ ?_;have SF:=(b0.setEnt 3 rfl (show _=(atC c t s).map (Value.int .i64) by simp[atC,E0,List.map_set])).setEnt 4 rfl (show _=(B7a s.set c.mem c.mem).map (Value.int .i64) by rw[List.take_of_length_le (by omega)]);rw[F1d he f0 x0] at p0 ⊢;exact n1a (n:=3) rfl a1a rfl (SF.cells 5 rfl) rfl ⟨⟨_,rfl,_,_,_,rfl,SF.rdInts 4 rfl (Q0a hI.lt (SF.new 4 rfl)) (by simp[t1]) b1 (X2a hp p0.mem),SF.rdInts 3 rfl (Q0a hI.lt (SF.new 3 rfl)) (by rw[P5a];exact v0) b2 (W5a hp p0),SF.rdBufs 2 rfl (Q0a hI.lt (SF.new 2 rfl)) s1 b3 he⟩,SF.fin⟩
theorem H8c{p:f0a}{m:Int}{c:q0a}(he:t3a c){x:A0a}(hx:x∈G0a p m c):∃(t i:Nat) (th:X0a) (s:y1a),x=⟨t,i,0⟩∧p.threads[t]?=some th∧th.steps[i]?=some s∧S0a p m c t s=true:=by
 obtain⟨t,ht,h|h⟩:=O1a.1 hx
 ·obtain⟨i,s,hs,he,rfl⟩:=h;have a0:p.threads[t]?=some p.threads[t]:=List.getElem?_eq_getElem ht;rw[j2a a0] at hs;exact⟨t,i,_,s,rfl,a0,hs,he⟩
 ·obtain⟨i,h1,-⟩:=h;rw[he.getD] at h1;simp at h1
theorem m5b(p:f0a)(c:q0a)(x:A0a)(M:List Nat)(w0:World)(cs xs:List Value)(hI:InP p M w0 cs)(hX:t0a M w0 c xs)(hf:c3a p c)(he:t3a c)(hx:x∈G0a p 0 c):
 M0a Tryz.prog 145 #[.agg cs.toArray,.agg xs.toArray,.agg #[.int .i64 x.thread,.int .i64 x.step,.int .i64 x.cell]] w0 fun v w'=>(∃ys,v=.tuple #[.agg ys.toArray,.int .i64 0]∧t0a M w' (doC p 0 c x) ys)∧Below w0.heap.size w0 w':=by
 obtain⟨t,i,th,s,rfl,r0,B0,_⟩:=H8c he hx;have A0:=R4b hI.ok hf hx;obtain⟨Ac,nc,cc,Am,nm,cm,Al,nl,cl,At,nt,ct,rfl,_,_,_,_,_,_,_,_,_,_,_,_⟩:=hI.rd.open_;obtain⟨Xm,xm,ym,Xa,xa,ya,Xb,xb,yb,rfl,_,_,_,_,_,_,_,_,_⟩:=hX.open_;have S:=St.refl w0;refine a0a Tryz.func145 rfl Tryz.ntmps145 rfl ?_;refine wO0 rfl ⟨⟩ (h0a S (by conv=>lhs;whnf) rfl ?_);intro g3 w3 S3 X3 G3;refine h0a S3 (by conv=>lhs;whnf) rfl ?_;intro g4 w4 S4 X4 G4;refine h0a S4 (by conv=>lhs;whnf) rfl ?_;intro g5 w5 S5 X5 G5;refine m0a S5 Q3a rfl rfl ?_;intro g6 w6 S6 X6 G6;refine lO S6.k [.w 3] rfl ⟨⟨rfl,rfl⟩,⟨⟩⟩ (g0a S6 h3b rfl rfl (M4a p M _ _ (hI.keep (S6.keep0 M))) ?_);intro O0 f0 H0;refine lO f0.k [.w 3,.w 2] rfl ⟨⟨rfl,rfl⟩,⟨rfl,rfl⟩,⟨⟩⟩ (g0a f0 v5b rfl rfl (h7a p c M _ _ _ (hI.keep (f0.keep0 M)) (hX.keep (f0.keep0 M)) hf he) ?_);intro P0 g0 I0;refine lO g0.k [.w 3,.w 2] rfl ⟨⟨rfl,rfl⟩,⟨rfl,rfl⟩,⟨⟩⟩ (x0a g0 I5b rfl rfl (c5a p c M _ _ _ (hI.keep (g0.keep0 M)) (hX.keep (g0.keep0 M)) hf he) ?_);rintro L0 t0 hr u0 J0;obtain⟨Ar,nr,cr,rfl⟩:=hr.form;obtain⟨_,-,_⟩:=hr.len;have b0:=y0a.refl [] t0;refine lC0 rfl ⟨⟩ (wL (fun μk D ε w=>D=[]∧∃k:Nat,(k+μk=((G0a p 0 c).length))∧(y0a [] t0 w)∧(o1a (G0a p 0 c) k (fun y=>y≠⟨t,i,0⟩))∧St [] w0 w [(some g6,38,[.slice none 0 0,.slice none 0 0,.slice none 0 0]),(some g5,44,[.int .i64 t,.int .i64 i,.int .i64 0]),(some g4,38,[.slice Xm xm ym,.slice Xa xa ya,.slice Xb xb yb]),(some g3,27,[.slice Ac nc cc,.slice Am nm cm,.slice Al nl cl,.slice At nt ct])]∧Sl ε [(3,.pointer (some ⟨g3,0,none⟩)),(4,.pointer (some ⟨g4,0,none⟩)),(5,.pointer (some ⟨g5,0,none⟩)),(6,.pointer (some ⟨g6,0,none⟩)),(22,.slice Ar nr cr),(23,.int .i64 nr),(24,.int .i64 k)]) (μ:=((G0a p 0 c).length)) ⟨rfl,0,by omega,b0,o1a.zero,u0,rfl⟩ ?_);rintro μk D ε w ⟨rfl,k,_,b0,hs,S,eZ⟩;refine wK eZ (wB0 rfl ⟨⟩ (fun z0=>?_) fun z0=>?_)
 ·obtain⟨y,y0,D0,_,C0,n0,_,p0,o0,q0⟩:=RdS.get ((hr.keep b0.of_nil)) (k) (by omega);obtain⟨rfl,_,_,_⟩:=id q0;refine lO (S.k.b o0) [.x y0 D0,.v 0] rfl ⟨⟨rfl,p0⟩,⟨n0,by omega⟩,⟨⟩⟩ (m0a S H2c rfl rfl ?_);intro g9 w9 S9 X9 G9;have e0:=Nat.le_trans b0.size G9;replace b0:=b0.trans X9;refine e0a (kk:=0) (vs:=[_,_,_]) S9 i4b rfl rfl rfl rfl rfl rfl rfl ?_;intro E0 a0 i0;dsimp only[k0a,List.set] at a0;replace b0:=b0.fresh i0 (by first|exact e0);refine lOn 6 a0.k [.w 2,.w 0] rfl ⟨⟨rfl,by rfl⟩,⟨rfl,rfl⟩,⟨⟩⟩ (g5c Z9a rfl rfl rfl (fun s0=>?_) fun s0=>?_)
  ·refine lO a0.k [.w 4,.w 3,.w 2] rfl ⟨⟨rfl,rfl⟩,⟨rfl,rfl⟩,⟨rfl,rfl⟩,⟨⟩⟩ (x0a a0 C5c rfl rfl (a1b p c t i th s (g6::M) _ _ _ (hI.add a0 (k:=1) rfl) (t0a.add hX a0 (k:=1) rfl) hf he r0 B0 A0) ?_);rintro N0 Q0 ⟨ys,rfl,hy⟩ v0 K0;obtain⟨_,_,_,_,_,_,_,_,_,rfl,-⟩:=hy.open_
   first|refine e0a (kk:=1) (vs:=[_,_,_]) v0 e2a rfl rfl rfl rfl rfl rfl rfl ?_
   intro F0 d0 j0;dsimp only[k0a,List.set] at d0;replace hy:=hy.keep (j0.mono (by simp));exact lR0 rfl ⟨⟩ (g2a (n:=3) rfl a1a rfl (d0.cells 1 rfl) rfl rfl ⟨⟨_,rfl,hy.less (fun g hg=>List.mem_cons_of_mem _ hg)⟩,d0.fin⟩)
  refine lP0 rfl ⟨by omega,⟨⟩⟩ ?_;refine⟨μk-1,by omega,rfl,(k+1),(by omega),(b0),(hs.succ C0 (fun h=>s0 (by rw[h];exact⟨rfl,rfl,rfl⟩))),a0.tail,rfl⟩
 refine lO0 rfl ⟨⟩ (f1a u4a (vs:=[]) (cs:=[_,_,_]) rfl rfl rfl rfl ?_);refine e0a (kk:=0) (vs:=[_,_,_]) S e2a rfl rfl rfl rfl rfl rfl rfl ?_;intro G0 h0 x0;dsimp only[k0a,List.set] at h0;exact lR0 rfl ⟨⟩ (absurd rfl (hs.all (by omega) _ hx))
theorem RdS.take{α:Type}{M:List Nat}{w:World}{size:Nat}{R:List Value→α→Prop}{A:Option Addr}{n c:Nat}{l:List α}(h:RdS M w size R (.slice A n c) l)(i:Nat)(hi:i≤n):RdS M w size R (.slice A i c) (l.take i):=by
 obtain⟨_,_,_,he,_,_,h3,_,h5⟩:=h;cases he;refine⟨_,_,_,rfl,by rw[List.length_take];omega,by omega,h3,by omega,fun h0=>?_⟩;obtain⟨b,o,hA,hb,a0⟩:=h5 (by omega);refine⟨b,o,hA,hb,fun j x hx=>a0 j x ?_⟩;rw[List.getElem?_take] at hx
 split at hx
 ·exact hx
 ·cases hx
theorem b3c{l:List Int}(h:l.Nodup){k:Nat}{x:Int}(hx:l[k]?=some x):x∉l.take k:=fun hh=>by
 obtain⟨i,hi,he⟩:=List.getElem_of_mem hh;rw[List.length_take] at hi;obtain⟨hk,hx⟩:=List.getElem?_eq_some_iff.1 hx;rw[List.getElem_take] at he;exact(List.pairwise_iff_getElem.1 h i k (by omega) hk (by omega)) (he.trans hx.symm)
theorem A7b{a b:List Int}{k:Nat}{x y:Int}(hx:a[k]?=some x)(hy:b[k]?=some y):(x,y)∈a.zip b:=List.mem_of_getElem? (i:=k) (by rw[List.getElem?_zip_eq_some];exact⟨hx,hy⟩)
theorem N9b(M:List Nat)(w0:World)(v:Value)(l:List Int)(a:Int)(hR:RdI M w0 v l):
 M0a Tryz.prog 207 #[v,.int .i64 a] w0 fun v w'=>(∃n,v=.int .i64 n∧(0≤n↔a∈l))∧Below w0.heap.size w0 w':=by
 obtain⟨A,n,c,rfl⟩:=hR.form;obtain⟨_,_,_⟩:=hR.len;have S:=St.refl w0;refine a0a Tryz.func207 rfl Tryz.ntmps207 rfl ?_;refine wC0 rfl ⟨⟩ (wL (fun μk D ε w=>D=[]∧∃k:Nat,(k+μk=(l.length))∧(o1a (l) k (fun x=>a≠x))∧St [] w0 w []∧Sl ε [(0,.slice A n c),(1,.int .i64 a),(7,.int .i64 n),(8,.int .i64 k)]) (μ:=(l.length)) ⟨rfl,0,by omega,o1a.zero,S,rfl⟩ ?_);rintro μk D ε w ⟨rfl,k,_,ha,S,eZ⟩;refine wK eZ (wB0 rfl ⟨⟩ (fun h9=>?_) fun h9=>?_)
 ·obtain⟨x,g0,h0,_,f0,b0,_,_,d0,e0⟩:=RdS.get (hR) (k) (by omega);obtain⟨rfl,_⟩:=id e0;refine lB (S.k.a d0) [.x g0 h0,.f 0 0] rfl ⟨rfl,⟨b0,by omega⟩,⟨⟩⟩ (fun a0=>?_) fun a0=>?_
  ·exact lT rfl ⟨⟩ rfl ⟨⟨_,rfl,⟨fun _=>a0▸c0a f0,fun _=>by omega⟩⟩,S.fin⟩
  refine lP0 rfl ⟨by omega,⟨⟩⟩ ⟨μk-1,by omega,rfl,(k+1),(by omega),(ha.succ f0 (a0)),S,rfl⟩
 exact lT rfl ⟨⟩ rfl ⟨⟨_,rfl,⟨fun h=>by omega,fun h=>absurd rfl (ha.all (by omega) a h)⟩⟩,S.fin⟩
theorem s9a(M:List Nat)(w0:World)(v:Value)(l:List Int)(a:Int)(hR:RdI M w0 v l):
 M0a Tryz.prog 192 #[v,.int .i64 a] w0 fun v w'=>v=.bool (decide (a∈l))∧Below w0.heap.size w0 w':=by
 obtain⟨_,_,_,rfl⟩:=hR.form;have S:=St.refl w0;refine a0a Tryz.func192 rfl Tryz.ntmps192 rfl ?_;refine wO0 rfl ⟨⟩ (x0a S a8c rfl rfl (N9b M _ _ l a (hR.keep (S.keep0 M))) ?_);rintro v7 w7 ⟨_,rfl,hm⟩ S7 X7;refine lB0 rfl ⟨⟩ (fun h8=>?_) fun h8=>?_
 ·refine lR0 rfl ⟨⟩ (o0a rfl (by conv=>lhs;whnf) ?_);exact⟨by rw[decide_eq_true (hm.1 (by omega))],S7.fin⟩
 refine lR0 rfl ⟨⟩ (o0a rfl (by conv=>lhs;whnf) ?_);exact⟨by rw[decide_eq_false (fun hh=>absurd (hm.2 hh) (by omega))],S7.fin⟩
theorem z0b(p:f0a)(M:List Nat)(w0:World)(cs:List Value)(hI:InP p M w0 cs):
 M0a Tryz.prog 180 #[.agg cs.toArray] w0 fun v w'=>v=.bool true∧Below w0.heap.size w0 w':=by
 obtain⟨_,_,_,_,_,_,_,_,_,_,_,_,rfl,_,_,_,_,_,_,_,_,_,_,_,_⟩:=hI.rd.open_;have S:=St.refl w0;refine a0a Tryz.func180 rfl Tryz.ntmps180 rfl ?_;refine wO0 rfl ⟨⟩ (h0a S (by conv=>lhs;whnf) rfl ?_);intro g1 w1 S1 X1 G1;refine lO S1.k [.w 0] rfl ⟨⟨rfl,by rfl⟩,⟨⟩⟩ (g0a S1 E5b rfl rfl (d0b p M _ _ (hI.keep (S1.keep0 M)).rd hI.ok (hI.keep (S1.keep0 M)).msk (hI.keep (S1.keep0 M)).lt) ?_);intro w8 S8 X8;refine lB0 rfl ⟨⟩ (fun a0=>?_) (fun a0=>by exfalso;omega);exact lT rfl ⟨⟩ rfl ⟨rfl,S8.fin⟩
theorem h4b(p:f0a)(en:E0a)(M:List Nat)(w0:World)(cs es:List Value)(hI:InP p M w0 cs)(hE:I0a M w0 es en)(ho:J0b p en):
 M0a Tryz.prog 206 #[.agg cs.toArray,.agg es.toArray] w0 fun v w'=>v=.bool true∧Below w0.heap.size w0 w':=by
 obtain⟨Ac,nc,cc,Am,nm,cm,Al,nl,cl,At,nt,ct,rfl,hC,_,_,_,_,_,_,_,_,_,_,_⟩:=hI.rd.open_;obtain⟨Ec,ec,fc,Ev,Q0,fv,rfl,n0,L0,_,_,_,_⟩:=hE.open_;have S:=St.refl w0;have l1:=ho.len;have l2:en.values.length=en.cells.length:=ho.even;have l3:en.cells.length≠0:=fun h=>ho.some_ (List.length_eq_zero_iff.1 h);refine a0a Tryz.func206 rfl Tryz.ntmps206 rfl ?_;refine wO0 rfl ⟨⟩ (h0a S (by conv=>lhs;whnf) rfl ?_);intro g2 w2 S2 X2 G2;refine h0a S2 (by conv=>lhs;whnf) rfl ?_;intro g3 w3 S3 X3 G3;refine lB S3.k [.o 0] rfl ⟨rfl,⟨⟩⟩ (fun R0=>by exfalso;omega) fun R0=>?_;refine lB S3.k [.o 0,.o 1] rfl ⟨rfl,rfl,⟨⟩⟩ (fun S0=>by exfalso;omega) fun S0=>?_;refine lB S3.k [.o 0,.o 0] rfl ⟨rfl,rfl,⟨⟩⟩ (fun T0=>by exfalso;omega) fun T0=>?_;refine lC S3.k [.o 0] rfl ⟨rfl,⟨⟩⟩ (wL (fun μk D ε w=>D=[]∧∃k:Nat,(k+μk=(en.cells.length))∧St [] w0 w [(some g3,88,[.slice Ec ec fc,.slice Ev Q0 fv]),(some g2,27,[.slice Ac nc cc,.slice Am nm cm,.slice Al nl cl,.slice At nt ct])]∧Sl ε [(2,.pointer (some ⟨g2,0,none⟩)),(3,.pointer (some ⟨g3,0,none⟩)),(31,.slice Ec ec fc),(32,.int .i64 ec),(33,.int .i64 k)]) (μ:=(en.cells.length)) ⟨rfl,0,by omega,S3,rfl⟩ ?_);rintro μk D ε w ⟨rfl,k,_,S,eZ⟩;refine wK eZ (wB0 rfl ⟨⟩ (fun U0=>?_) fun U0=>?_)
 ·obtain⟨x,q0,H0,_,o0,g0,_,_,z0,D0⟩:=RdS.get (n0) (k) (by omega);obtain⟨rfl,_⟩:=id D0;have q1:=ho.cells k x o0;obtain⟨q2,q3,q4⟩:=q1;unfold D2a at q2;have x0:RdI M w0 (.slice (some ⟨q0,H0,none⟩) ec fc) en.cells:=g0▸n0;refine lB (S.k.a z0) [.x q0 H0,.f 0 0] rfl ⟨rfl,⟨g0,by omega⟩,⟨⟩⟩ (fun V0=>by exfalso;omega) fun V0=>?_;refine lB S.k [.o 1] rfl ⟨rfl,⟨⟩⟩ (fun W0=>by exfalso;omega) fun W0=>?_;refine lO S.k [.o 0] rfl ⟨rfl,⟨⟩⟩ ?_;refine B5c (k:=k) O0a.slT (show _=Value.slice (some ⟨q0,H0,none⟩) ec fc by rw[←g0];rfl) rfl (by have:=n0.len;omega) n0.len.2.1 rfl ?_;refine lO0 rfl ⟨⟩ (g0a S h9b rfl rfl ((s9a M _ _ (en.cells.take k) x (RdS.take (x0.keep (S.keep0 M)) k (by omega))).mono (fun v w' h=>⟨h.1.trans (by rw[decide_eq_false (b3c ho.once o0)]),h.2⟩)) ?_);intro b1 K0 a1;obtain⟨f0,O0,Y0,_,b0,v0,_,B0,A0,E0⟩:=RdS.get (hC) (x.toNat) (by omega);obtain⟨rfl,_,_,_,_⟩:=F2a.open_ E0;rw[i1a b0] at q3;rw[G2a b0] at q4;have q5:=(hI.ok.cells f0 (c0a b0)).w;refine lO (K0.k.a A0) [.o 1,.x O0 Y0,.v 0] rfl ⟨⟨rfl,B0⟩,⟨v0,by omega⟩,rfl,⟨⟩⟩ (m0a K0 p0c rfl rfl ?_);intro g7 w7 S7 X7 G7;refine e0a (kk:=0) (vs:=[_,_,_,_,_,_]) S7 f0c rfl rfl rfl rfl rfl rfl rfl ?_;intro Z0 a0 N0;dsimp only[k0a,List.set] at a0;refine lC0 rfl ⟨⟩ (v0a b0a [0,1,2,3,4,5,6,7,8,9,10,11,12,13,14,15,16,17,18,19,20,21,22,23,24,25,26,27,28] [] [] (by kernel_rfl) rfl (Cl _ _ _ _) (Cl.start a0) ?_);refine qB a0.q [.o 0] rfl ⟨rfl,⟨⟩⟩ (fun X0=>by exfalso;omega) fun X0=>?_;refine qO0 rfl ⟨⟩ ?_;rcases(Bool.eq_false_or_eq_true (f0.ghost)).symm with d0|d0
  ·refine j0a m2a rfl (fun w1 hw=>by exact(hw.1.cell 0 rfl rfl).trans (congrArg (fun b=>some (Value.bool b)) d0)) rfl ?_;refine qB0 rfl ⟨⟩ (fun s0=>?_) fun s0=>?_
   ·refine qD rfl ⟨⟩ ?_;rintro J0 ⟨j0,p0⟩;refine lR0 rfl ⟨⟩ (o0a rfl (by conv=>lhs;whnf) ?_);exfalso;rw[d0] at q4;simp at q4;omega
   obtain⟨y,r0,I0,P0,F0,h0,y0,C0,e0,i0⟩:=RdS.get (L0) (k) (by omega);obtain⟨rfl,G0⟩:=id i0;have q6:=ho.vals (x,y) (A7b o0 F0);simp only at q6;rw[i5a q2.1 b0,a3a] at q6;refine qB (a0.q.a e0) [.o 1,.x r0 I0,.f 0 0] rfl ⟨rfl,⟨h0,by omega⟩,rfl,⟨⟩⟩ (fun t0=>by exfalso;omega) fun t0=>?_;refine qO a0.q [.o 1] rfl ⟨rfl,⟨⟩⟩ (n0a O0a.slT rfl (by assumption) rfl (by omega) (by omega) rfl ?_);refine qO0 rfl ⟨⟩ (j0a K0a rfl (fun w1 hw=>by exact hw.1.old (e0 0 _ rfl)) rfl ?_);refine qO a0.q [.o 0] rfl ⟨rfl,⟨⟩⟩ ?_;rw[show f0.w=((f0.w.toNat:Nat):Int) by omega];refine T4c (n:=f0.w.toNat) rfl (by rfl) (by omega) rfl ?_;refine qB0 rfl ⟨⟩ (fun u0=>by exfalso;omega) fun u0=>?_;refine qD rfl ⟨⟩ ?_;rintro J0 ⟨j0,p0⟩;refine lP0 rfl ⟨by omega,⟨⟩⟩ ⟨μk-1,by omega,rfl,(k+1),(by omega),j0.tail,rfl⟩
  refine j0a m2a rfl (fun w1 hw=>by exact(hw.1.cell 0 rfl rfl).trans (congrArg (fun b=>some (Value.bool b)) d0)) rfl ?_;refine qB0 rfl ⟨⟩ (fun s0=>?_) fun s0=>?_
  ·obtain⟨y,r0,I0,P0,F0,h0,y0,C0,e0,i0⟩:=RdS.get (L0) (k) (by omega);obtain⟨rfl,G0⟩:=id i0;have q6:=ho.vals (x,y) (A7b o0 F0);simp only at q6;rw[i5a q2.1 b0,a3a] at q6;refine qB (a0.q.a e0) [.o 1,.x r0 I0,.f 0 0] rfl ⟨rfl,⟨h0,by omega⟩,rfl,⟨⟩⟩ (fun t0=>by exfalso;omega) fun t0=>?_;refine qO a0.q [.o 1] rfl ⟨rfl,⟨⟩⟩ (n0a O0a.slT rfl (by assumption) rfl (by omega) (by omega) rfl ?_);refine qO0 rfl ⟨⟩ (j0a K0a rfl (fun w1 hw=>by exact hw.1.old (e0 0 _ rfl)) rfl ?_);refine qO a0.q [.o 0] rfl ⟨rfl,⟨⟩⟩ ?_;rw[show f0.w=((f0.w.toNat:Nat):Int) by omega];refine T4c (n:=f0.w.toNat) rfl (by rfl) (by omega) rfl ?_;refine qB0 rfl ⟨⟩ (fun u0=>by exfalso;omega) fun u0=>?_;refine qD rfl ⟨⟩ ?_;rintro J0 ⟨j0,p0⟩;refine lP0 rfl ⟨by omega,⟨⟩⟩ ⟨μk-1,by omega,rfl,(k+1),(by omega),j0.tail,rfl⟩
  refine qD rfl ⟨⟩ ?_;rintro J0 ⟨j0,p0⟩;refine lR0 rfl ⟨⟩ (o0a rfl (by conv=>lhs;whnf) ?_);exfalso;rw[d0] at q4;simp at q4;omega
 exact lT rfl ⟨⟩ rfl ⟨rfl,S.fin⟩
theorem c1b(p:f0a)(c:q0a)(M:List Nat)(w0:World)(cs xs:List Value)(hI:InP p M w0 cs)(hX:t0a M w0 c xs)(hf:c3a p c):
 M0a Tryz.prog 181 #[.agg cs.toArray,.agg xs.toArray] w0 fun v w'=>v=.bool true∧Below w0.heap.size w0 w':=by
 obtain⟨Ac,nc,cc,Am,nm,cm,Al,nl,cl,At,nt,ct,rfl,hC,_,_,B2,_,_,_,_,_,_,_,_⟩:=hI.rd.open_;obtain⟨Xm,xm,ym,Xa,xa,ya,Xb,xb,yb,rfl,B1,A2,t0,_,_,b1,_,_,_⟩:=hX.open_;have S:=St.refl w0;have f1:=hf.mem.len;have f2:=hf.nat;have f3:=hf.nbuf;refine a0a Tryz.func181 rfl Tryz.ntmps181 rfl ?_;refine wO0 rfl ⟨⟩ (h0a S (by conv=>lhs;whnf) rfl ?_);intro g2 w2 S2 X2 G2;refine h0a S2 (by conv=>lhs;whnf) rfl ?_;intro g3 w3 S3 X3 G3;refine lB S3.k [.o 0,.o 1] rfl ⟨rfl,rfl,⟨⟩⟩ (fun n2=>by exfalso;omega) fun n2=>?_;refine lB S3.k [.o 0,.o 1] rfl ⟨rfl,rfl,⟨⟩⟩ (fun o2=>by exfalso;omega) fun o2=>?_;refine lB S3.k [.o 0,.o 1] rfl ⟨rfl,rfl,⟨⟩⟩ (fun p2=>by exfalso;omega) fun p2=>?_;refine lC S3.k [.o 0] rfl ⟨rfl,⟨⟩⟩ (wL (fun μk D ε w=>D=[]∧∃k:Nat,(k+μk=(c.mem.length))∧St [] w0 w [(some g3,38,[.slice Xm xm ym,.slice Xa xa ya,.slice Xb xb yb]),(some g2,27,[.slice Ac nc cc,.slice Am nm cm,.slice Al nl cl,.slice At nt ct])]∧Sl ε [(2,.pointer (some ⟨g2,0,none⟩)),(3,.pointer (some ⟨g3,0,none⟩)),(38,.slice Xm xm ym),(39,.int .i64 xm),(40,.int .i64 k)]) (μ:=(c.mem.length)) ⟨rfl,0,by omega,S3,rfl⟩ ?_);rintro μk D ε w ⟨rfl,k,hk,S,eZ⟩;refine wK eZ (wB0 rfl ⟨⟩ (fun r2=>?_) fun r2=>?_)
 ·obtain⟨v,a2,C2,_,o1,v1,_,_,C1,J1⟩:=RdS.get (B1) (k) (by omega);obtain⟨rfl,_⟩:=id J1;have q1:=hf.mem.vals k v o1;refine lB (S.k.a C1) [.x a2 C2,.f 0 0] rfl ⟨rfl,⟨v1,by omega⟩,⟨⟩⟩ (fun s2=>by exfalso;omega) fun s2=>?_;obtain⟨x,b2,D2,_,W1,w1,_,_,D1,K1⟩:=RdS.get (hC) (k) (by omega);obtain⟨rfl,_,_,_,_⟩:=F2a.open_ K1;have q2:=(hI.ok.cells x (c0a W1)).w;rw[a1d W1,a3a] at q1;refine lO (S.k.a D1) [.o 1,.x b2 D2,.f 0 1] rfl ⟨rfl,⟨w1,by omega⟩,rfl,⟨⟩⟩ ?_;rw[show x.w=((x.w.toNat:Nat):Int) by omega];refine w4c (n:=x.w.toNat) rfl (by rfl) (by omega) rfl ?_;refine lB0 rfl ⟨⟩ (fun t2=>by exfalso;omega) fun t2=>?_;refine lP0 rfl ⟨by omega,⟨⟩⟩ ⟨μk-1,by omega,rfl,(k+1),(by omega),S,rfl⟩
 refine lC S.k [.o 0] rfl ⟨rfl,⟨⟩⟩ (wL (fun μk D ε w=>D=[]∧∃k:Nat,(k+μk=(c.at_.length))∧St [] w0 w [(some g3,38,[.slice Xm xm ym,.slice Xa xa ya,.slice Xb xb yb]),(some g2,27,[.slice Ac nc cc,.slice Am nm cm,.slice Al nl cl,.slice At nt ct])]∧Sl ε [(2,.pointer (some ⟨g2,0,none⟩)),(3,.pointer (some ⟨g3,0,none⟩)),(60,.slice Xa xa ya),(61,.int .i64 xa),(62,.int .i64 k)]) (μ:=(c.at_.length)) ⟨rfl,0,by omega,S,rfl⟩ ?_);rintro μk D ε w ⟨rfl,k,hk,S,eZ⟩;refine wK eZ (wB0 rfl ⟨⟩ (fun u2=>?_) fun u2=>?_)
 ·obtain⟨v,d2,E2,_,o1,x1,_,_,E1,M1⟩:=RdS.get (A2) (k) (by omega);obtain⟨rfl,_⟩:=id M1;obtain⟨th,h2,F2,_,R1,y1,_,I1,F1,N1⟩:=RdS.get (B2) (k) (by omega);obtain⟨H0,d1,S0,K0,i1,V0,L0,j1,W0,J0,h1,U0,rfl,_,_,_,_,_,_,_,_,_,_,_,_,_⟩:=N0a.open_ N1;have q1:=hf.atr k v o1 th R1;refine lO ((S.k.a F1).a E1) [.x d2 E2,.f 0 0,.o 1,.x h2 F2,.v 1] rfl ⟨⟨rfl,I1⟩,⟨y1,by omega⟩,rfl,rfl,⟨x1,by omega⟩,⟨⟩⟩ (m0a S F4b rfl rfl ?_);intro g9 w9 S9 X9 G9;refine e0a (kk:=0) (vs:=[_,_,_,_,_,_,_]) S9 O3b rfl rfl rfl rfl rfl rfl rfl ?_;intro X1 b0 V1;dsimp only[k0a,List.set] at b0;refine lB0 rfl ⟨⟩ (fun v2=>by exfalso;omega) fun v2=>?_;refine lB b0.k [.o 0] rfl ⟨rfl,⟨⟩⟩ (fun x2=>by exfalso;omega) fun x2=>?_;obtain⟨b,i2,H2,_,b1,z1,_,_,G1,O1⟩:=RdS.get (t0) (k) (by omega);obtain⟨_,_,_,rfl,_,_,_⟩:=F3a.open_ O1;have q3:=hf.bufs k b b1;refine lB (b0.k.a G1) [.o 1,.x i2 H2,.f 0 0] rfl ⟨rfl,⟨z1,by omega⟩,rfl,⟨⟩⟩ (fun y2=>by exfalso;omega) fun y2=>?_;refine lB0 rfl ⟨⟩ (fun z2=>?_) fun z2=>?_
  ·refine lO0 rfl ⟨⟩ ?_;cases n0:th.asleep
   ·refine s0a m2a rfl (by exact(b0.cell 0 rfl rfl).trans (congrArg (fun b=>some (Value.bool b)) n0)) rfl ?_;rw[q1.2.2 (by omega)] at n0;refine lR0 rfl ⟨⟩ (o0a rfl (by conv=>lhs;whnf) ?_);cases n0
   refine s0a m2a rfl (by exact(b0.cell 0 rfl rfl).trans (congrArg (fun b=>some (Value.bool b)) n0)) rfl ?_;rw[q1.2.2 (by omega)] at n0;have q4:=q3.2.2 (by rw[o1];exact congrArg some (by omega));have q4:b.length=0:=by rw[q4];rfl
   obtain⟨_,j2,I2,_,Q1,A1,_,_,H1,P1⟩:=RdS.get (t0) (k) (by omega);obtain rfl:=Option.some.inj (b1.symm.trans Q1);obtain⟨_,_,_,rfl,_,_,_⟩:=F3a.open_ P1;refine lB (b0.k.a H1) [.o 1,.x j2 I2,.f 0 0] rfl ⟨rfl,⟨A1,by omega⟩,rfl,⟨⟩⟩ (fun u1=>by exfalso;omega) fun u1=>?_;obtain⟨U1,v0,F0,s1,s0,i0,Y0,a1,o0,r0⟩:=RdS.get (t0) (k) (by omega);obtain rfl:=Option.some.inj (b1.symm.trans s0);obtain⟨g0,e0,h0,rfl,f0,B0,P0⟩:=F3a.open_ r0;refine lC (b0.k.a o0) [.o 1,.x v0 F0,.f 0 0] rfl ⟨rfl,⟨i0,by omega⟩,rfl,⟨⟩⟩ (wL (fun μj D ε w=>D=[]∧∃j:Nat,(j+μj=(b.length))∧St [] w0 w [(some g9,93,[.string th.name,.int .i64 th.points,.slice H0 d1 S0,.slice K0 i1 V0,.slice L0 j1 W0,.slice J0 h1 U0,.bool th.asleep]),(some g3,38,[.slice Xm xm ym,.slice Xa xa ya,.slice Xb xb yb]),(some g2,27,[.slice Ac nc cc,.slice Am nm cm,.slice Al nl cl,.slice At nt ct])]∧Sl ε [(2,.pointer (some ⟨g2,0,none⟩)),(3,.pointer (some ⟨g3,0,none⟩)),(60,.slice Xa xa ya),(61,.int .i64 xa),(62,.int .i64 k),(109,.slice g0 e0 h0),(110,.int .i64 e0),(111,.int .i64 j)]) (μ:=(b.length)) ⟨rfl,0,by omega,b0,rfl⟩ ?_);rintro μj D ε w ⟨rfl,j,hj,S,eZ⟩;refine wK eZ (wB0 rfl ⟨⟩ (fun y0=>?_) fun y0=>?_)
   ·obtain⟨en,x0,G0,t1,E0,j0,Z0,q0,p0,d0⟩:=RdS.get (f0) (j) (by omega);obtain⟨I0,g1,T0,N0,m1,X0,rfl,z0,A0,C0,D0,Q0,R0⟩:=I0a.open_ d0;have q5:=q3.2.1 en (c0a E0);refine lO (S.k.a p0) [.x x0 G0,.v 0] rfl ⟨⟨rfl,q0⟩,⟨j0,by omega⟩,⟨⟩⟩ (m0a S W7a rfl rfl ?_);intro m2 J2 p1 Z1 Y1;refine e0a (kk:=0) (vs:=[_,_]) p1 y9a rfl rfl rfl rfl rfl rfl rfl ?_;intro n1 a0 O0;dsimp only[k0a,List.set] at a0;refine lO a0.k [.w 3,.w 0] rfl ⟨⟨rfl,by rfl⟩,⟨rfl,rfl⟩,⟨⟩⟩ (g0a a0 U9b rfl rfl (h4b p en M _ _ _ (hI.keep (a0.keep0 M)) (I0a.keep (a0.keep0 M) _ _ d0) q5) ?_);intro T1 u0 r1;refine lP0 rfl ⟨by omega,⟨⟩⟩ ⟨μj-1,by omega,rfl,(j+1),(by omega),u0.tail,rfl⟩
   refine lP0 rfl ⟨by omega,⟨⟩⟩ ⟨μk-1,by omega,rfl,(k+1),(by omega),S.tail,rfl⟩
  obtain⟨U1,v0,F0,s1,s0,i0,Y0,a1,o0,r0⟩:=RdS.get (t0) (k) (by omega);obtain rfl:=Option.some.inj (b1.symm.trans s0);obtain⟨g0,e0,h0,rfl,f0,B0,P0⟩:=F3a.open_ r0;refine lC (b0.k.a o0) [.o 1,.x v0 F0,.f 0 0] rfl ⟨rfl,⟨i0,by omega⟩,rfl,⟨⟩⟩ (wL (fun μj D ε w=>D=[]∧∃j:Nat,(j+μj=(b.length))∧St [] w0 w [(some g9,93,[.string th.name,.int .i64 th.points,.slice H0 d1 S0,.slice K0 i1 V0,.slice L0 j1 W0,.slice J0 h1 U0,.bool th.asleep]),(some g3,38,[.slice Xm xm ym,.slice Xa xa ya,.slice Xb xb yb]),(some g2,27,[.slice Ac nc cc,.slice Am nm cm,.slice Al nl cl,.slice At nt ct])]∧Sl ε [(2,.pointer (some ⟨g2,0,none⟩)),(3,.pointer (some ⟨g3,0,none⟩)),(60,.slice Xa xa ya),(61,.int .i64 xa),(62,.int .i64 k),(109,.slice g0 e0 h0),(110,.int .i64 e0),(111,.int .i64 j)]) (μ:=(b.length)) ⟨rfl,0,by omega,b0,rfl⟩ ?_);rintro μj D ε w ⟨rfl,j,hj,S,eZ⟩;refine wK eZ (wB0 rfl ⟨⟩ (fun y0=>?_) fun y0=>?_)
  ·obtain⟨en,x0,G0,t1,E0,j0,Z0,q0,p0,d0⟩:=RdS.get (f0) (j) (by omega);obtain⟨I0,g1,T0,N0,m1,X0,rfl,z0,A0,C0,D0,Q0,R0⟩:=I0a.open_ d0;have q5:=q3.2.1 en (c0a E0);refine lO (S.k.a p0) [.x x0 G0,.v 0] rfl ⟨⟨rfl,q0⟩,⟨j0,by omega⟩,⟨⟩⟩ (m0a S W7a rfl rfl ?_);intro m2 J2 p1 Z1 Y1;refine e0a (kk:=0) (vs:=[_,_]) p1 y9a rfl rfl rfl rfl rfl rfl rfl ?_;intro n1 a0 O0;dsimp only[k0a,List.set] at a0;refine lO a0.k [.w 3,.w 0] rfl ⟨⟨rfl,by rfl⟩,⟨rfl,rfl⟩,⟨⟩⟩ (g0a a0 U9b rfl rfl (h4b p en M _ _ _ (hI.keep (a0.keep0 M)) (I0a.keep (a0.keep0 M) _ _ d0) q5) ?_);intro T1 u0 r1;refine lP0 rfl ⟨by omega,⟨⟩⟩ ⟨μj-1,by omega,rfl,(j+1),(by omega),u0.tail,rfl⟩
  refine lP0 rfl ⟨by omega,⟨⟩⟩ ⟨μk-1,by omega,rfl,(k+1),(by omega),S.tail,rfl⟩
 exact lT rfl ⟨⟩ rfl ⟨rfl,S.fin⟩
theorem n0c(p:f0a)(c:q0a)(m:Int)(hm:m=1∨m=2)(M:List Nat)(w0:World)(cs xs:List Value)(hI:InP p M w0 cs)(hX:t0a M w0 c xs)(hf:c3a p c):
 M0a Tryz.prog 141 #[.agg cs.toArray,.int .i64 m,.agg xs.toArray] w0 fun v w'=>v=.tuple #[.agg (xs++(cs++[Value.int .i64 m])).toArray,.bool true]∧Below w0.heap.size w0 w':=by
 obtain⟨_,_,_,_,_,_,_,_,_,_,_,_,rfl,_,_,_,_,_,_,_,_,_,_,_,_⟩:=hI.rd.open_;obtain⟨_,_,_,_,_,_,_,_,_,rfl,_,_,_,_,_,_,_,_,_⟩:=hX.open_;have S:=St.refl w0;refine a0a Tryz.func141 rfl Tryz.ntmps141 rfl ?_;refine wO0 rfl ⟨⟩ (h0a S (by conv=>lhs;whnf) rfl ?_);intro g3 w3 S3 X3 G3;refine h0a S3 (by conv=>lhs;whnf) rfl ?_;intro g5 w5 S5 X5 G5;refine m0a S5 t1c rfl rfl ?_;intro g6 w6 S6 X6 G6;refine lB0 rfl ⟨⟩ (fun h9=>?_) fun h9=>?_
 ·refine lB0 rfl ⟨⟩ (fun i0=>by exfalso;omega) fun i0=>?_;refine lO S6.k [.w 2] rfl ⟨⟨rfl,by rfl⟩,⟨⟩⟩ (g0a S6 K9b rfl rfl (z0b p M _ _ (hI.keep (S6.keep0 M))) ?_);intro j0 b0 g0;refine lO b0.k [.w 2,.w 1] rfl ⟨⟨rfl,by rfl⟩,⟨rfl,by rfl⟩,⟨⟩⟩ (g0a b0 D9b rfl rfl (c1b p c M _ _ _ (hI.keep (b0.keep0 M)) (hX.keep (b0.keep0 M)) hf) ?_);intro n0 d0 h0;refine lO d0.k [.w 1,.w 2] rfl ⟨⟨rfl,by rfl⟩,⟨rfl,by rfl⟩,⟨⟩⟩ (f1a b1c (vs:=[(0,.agg _),(1,.agg _),(2,.int .i64 _)]) (cs:=[_,_,_,_,_,_,_,_]) rfl rfl rfl rfl ?_);refine e0a (kk:=0) (vs:=[_,_,_,_,_,_,_,_]) d0 G6b rfl rfl rfl rfl rfl rfl rfl ?_;intro f0 a0 e0;dsimp only[k0a,List.set] at a0;exact lR0 rfl ⟨⟩ (g2a (n:=8) rfl Q6a rfl (a0.cells 0 rfl) rfl rfl ⟨rfl,a0.fin⟩)
 refine lO S6.k [.w 2] rfl ⟨⟨rfl,by rfl⟩,⟨⟩⟩ (g0a S6 K9b rfl rfl (z0b p M _ _ (hI.keep (S6.keep0 M))) ?_);intro j0 b0 g0;refine lO b0.k [.w 2,.w 1] rfl ⟨⟨rfl,by rfl⟩,⟨rfl,by rfl⟩,⟨⟩⟩ (g0a b0 D9b rfl rfl (c1b p c M _ _ _ (hI.keep (b0.keep0 M)) (hX.keep (b0.keep0 M)) hf) ?_);intro n0 d0 h0;refine lO d0.k [.w 1,.w 2] rfl ⟨⟨rfl,by rfl⟩,⟨rfl,by rfl⟩,⟨⟩⟩ (f1a b1c (vs:=[(0,.agg _),(1,.agg _),(2,.int .i64 _)]) (cs:=[_,_,_,_,_,_,_,_]) rfl rfl rfl rfl ?_);refine e0a (kk:=0) (vs:=[_,_,_,_,_,_,_,_]) d0 G6b rfl rfl rfl rfl rfl rfl rfl ?_;intro f0 a0 e0;dsimp only[k0a,List.set] at a0;exact lR0 rfl ⟨⟩ (g2a (n:=8) rfl Q6a rfl (a0.cells 0 rfl) rfl rfl ⟨rfl,a0.fin⟩)
section
variable {P:Program} {r:Option Nat} {N:Nat} {D:List Deferred} {e:Env} {w w0:World} {ops:Array Oper} {rest:List Oper} {K:List Deferred→Env→World→Prop} {L:List Ent} {M:List Nat}
variable {d:Nat} {t:TypeId} {p:String} {af:Array Edge} {x y:Operand} {yt:TypeId}
theorem m3c{ty size n c:Nat}{A:Option Addr}(hT:SlT P ty size)(hx:ev e x=.slice A n c)(hy:ev e y=.slice none 0 0)(hd:Nat.ble (d+1) N=true)
 (h1:A=none→WL P r N ops rest K D (upd e d (.bool true)) w) (h2:A.isSome=true→WL P r N ops rest K D (upd e d (.bool false)) w) :
 WL P r N ops (⟨some d,.binOp .eql ty x y yt,t,p,af,none⟩::rest) K D e w:=by
 obtain⟨el,hu,_⟩:=O5a hT;have hr:=Lib.run_eql_slice_nil (P:=P) w ty el A n c 0 0 hu;cases A with
 | none=>exact k1a rfl rfl hd (by simp) (by simp[execOp,hx,hy,eqGuard,hr]) (h1 rfl)
 | some a=>exact k1a rfl rfl hd (by simp) (by simp[execOp,hx,hy,eqGuard,hr]) (h2 rfl)
end
theorem d3a.pad{G:Option Nat}{n:Nat}{cs:List Value}{v:Value}{l:List Int}(h:d3a G 1 n cs v (l.map (Value.int .i64)))(h0:0<l.length):∃g pad,G=some g∧v=.slice (some ⟨g,0,none⟩) l.length (l.length+pad.length)∧cs=l.map (Value.int .i64)++pad∧l.length+pad.length≤maxLen:=by
 obtain⟨h1,h2⟩:=h;simp only[List.length_map,Nat.mul_one] at h1;rcases h2 with⟨_,_,h2⟩|⟨g,a0,rfl,rfl,h3,h4,h5,h6⟩
 ·omega
 ·simp only[Nat.mul_one] at h5 h6;refine⟨g,cs.drop n,rfl,?_,?_,?_⟩
  ·rw[List.length_drop,h5,h1];congr 1;omega
  ·rw[←h6,List.take_append_drop]
  ·rw[List.length_drop,h5,h1];omega
theorem d3a.ofPad{g:Nat}{l:List Int}{pad:List Value}(h:l.length+pad.length≤maxLen):d3a (some g) 1 l.length (l.map (Value.int .i64)++pad) (.slice (some ⟨g,0,none⟩) l.length (l.length+pad.length)) (l.map (Value.int .i64)) :=
 ⟨by simp,.inr ⟨g,_,rfl,rfl,by omega,h,by simp,by simp⟩⟩
def d4a(mem:List Int)(e:E0a)(k:Nat):List Int:=((e.cells.zip e.values).take k).foldl (fun m x=>m.set x.1.toNat x.2) mem
theorem f9a(mem:List Int)(e:E0a):d4a mem e 0=mem:=by simp[d4a]
theorem k0b(mem:List Int)(e:E0a){k:Nat}(h:e.cells.length≤k):d4a mem e k=f2a mem e:=by
 unfold d4a f2a;rw[List.take_of_length_le (by rw[List.length_zip];omega)]
theorem o9a{mem:List Int}{e:E0a}{k:Nat}{x y:Int}(hx:e.cells[k]?=some x)(hy:e.values[k]?=some y):d4a mem e (k+1)=(d4a mem e k).set x.toNat y:=by
 unfold d4a;rw[H0a (x:=(x,y)) (by rw[List.getElem?_zip_eq_some];exact⟨hx,hy⟩),List.foldl_append];rfl
theorem C4a:∀(l:List (Int×Int)) (mem:List Int),(l.foldl (fun m x=>m.set x.1.toNat x.2) mem).length=mem.length
 | [],_=>rfl
 | x::l,mem=>by rw[List.foldl_cons,C4a l,List.length_set]
@[simp] theorem r6c(mem:List Int)(e:E0a)(k:Nat):(d4a mem e k).length=mem.length:=C4a _ _
@[simp] theorem J8b(mem:List Int)(e:E0a):(f2a mem e).length=mem.length:=C4a _ _
theorem H5a{l:List Int}{pad:List Value}{i:Nat}{y:Int}(hi:i<l.length):(l.map (Value.int .i64)++pad).set i (.int .i64 y)=(l.set i y).map (Value.int .i64)++pad:=by
 rw[List.set_append_left _ _ (by simpa using hi),List.map_set]
def z4a(c:q0a)(b:List E0a)(k:Nat):List Int:=(b.take k).foldl f2a c.mem
theorem s7a{c:q0a}{b:List E0a}{k:Nat}{e:E0a}(h:b[k]?=some e):z4a c b (k+1)=f2a (z4a c b k) e:=by
 unfold z4a;rw[H0a h,List.foldl_append];rfl
theorem Z8a{c:q0a}{t:Nat}{b:List E0a}(h:c.buf[t]?=some b){k:Nat}(hk:b.length≤k):z4a c b k=c1a c t:=by
 unfold z4a c1a;rw[List.take_of_length_le hk,getD_some h]
theorem v3b:∀(l:List E0a) (m:List Int),(l.foldl f2a m).length=m.length
 | [],_=>rfl
 | x::l,m=>by rw[List.foldl_cons,v3b l,J8b]
@[simp] theorem t8c(c:q0a)(b:List E0a)(k:Nat):(z4a c b k).length=c.mem.length:=v3b _ _
theorem u3b{p:f0a}{c:q0a}(hf:c3a p c){b:List E0a}(hb:∀e∈b,J0b p e)(k:Nat):L5a p (z4a c b k):=by
 unfold z4a;have key:∀(l:List E0a) (m:List Int),L5a p m→(∀e∈l,J0b p e)→L5a p (l.foldl f2a m):=by
  intro l
  induction l with
  | nil=>intro m h _;exact h
  | cons e l ih=>intro m h hl;rw[List.foldl_cons];exact ih _ (h.write (hl e (by simp))) fun x hx=>hl x (by simp[hx])
 exact key _ _ hf.mem fun e he=>hb e (List.mem_of_mem_take he)
theorem M7a(M:List Nat)(w0:World)(v:Value)(l:List Int)(hR:RdI M w0 v l)(hl:l.length≤100000000):
 M0a Tryz.prog 182 #[v] w0 fun v w'=>x6a 3 w0 w' v l∧Below w0.heap.size w0 w':=by
 obtain⟨_,n,_,rfl⟩:=hR.form;obtain⟨_,_,_⟩:=hR.len;have S:=St.refl w0;refine a0a Tryz.func182 rfl Tryz.ntmps182 rfl ?_;refine wOn 9 S.k [] rfl ⟨⟩ (m3c O0a.slT rfl rfl rfl (fun h4=>?_) fun h4=>?_)
 ·refine lR0 rfl ⟨⟩ (o0a rfl (by conv=>lhs;whnf) ?_);subst h4;obtain⟨A',n',c',he,h1,h2,h3,h5,h6⟩:=hR;cases he;have h0:l.length=0:=by
   rcases Nat.eq_zero_or_pos n with h|h
   ·omega
   ·obtain⟨_,_,h7,_⟩:=h6 h;cases h7
  obtain rfl:=List.length_eq_zero_iff.1 h0;exact⟨⟨none,[],d3a.nil 1,fun g hg=>by cases hg⟩,S.fin⟩
 refine lO0 rfl ⟨⟩ (O2b S O0a rfl ?_);intro g5 w5 S5 X5 G5;refine lO0 rfl ⟨⟩ (o6a (k:=0) (xs:=[]) S5 O0a rfl d3a.new rfl rfl (hR.keep (S5.keep0 M)) (by simpa using hl) (by decide) rfl ?_);intro v7 G7 a0 w7 S7 R7 X7;refine P0a (by conv=>lhs;whnf) rfl ?_;refine lR0 rfl ⟨⟩ (o0a rfl (by conv=>lhs;whnf) ?_);refine⟨⟨G7,a0,by simpa using R7,fun g hg=>?_⟩,S7.fin⟩;subst hg;exact⟨by simpa using S7.new 0 rfl,S7.blk 0 rfl⟩
theorem S6b(en:E0a)(mem:List Int)(g o0:Nat)(pad:List Value)(M:List Nat)(w0:World)(es:List Value)(hE:I0a M w0 es en)(z0:g∈M)(hB:p0a w0 (g,3,mem.map (Value.int .i64)++pad))(p0:en.even)(A0:∀x∈en.cells,0≤x∧x<mem.length):
 M0a Tryz.prog 183 #[.slice (some ⟨g,0,none⟩) mem.length o0,.agg es.toArray] w0 fun _ w'=>p0a w' (g,3,(f2a mem en).map (Value.int .i64)++pad)∧F0a [g] w0 w':=by
 obtain⟨Ec,ec,fc,Ev,u0,fv,rfl,x0,y0,_,_,_,_⟩:=hE.open_;have S:=St.borrow1 hB;have a0:∀x∈[g],x∈M:=fun x hx=>by rw[List.mem_singleton] at hx;subst hx;exact z0
 have p0:en.values.length=en.cells.length:=p0;refine a0a Tryz.func183 rfl Tryz.ntmps183 rfl ?_;refine wO0 rfl ⟨⟩ (h0a S (by conv=>lhs;whnf) rfl ?_);intro g3 w3 S3 X3 G3;refine lC S3.k [.o 0] rfl ⟨rfl,⟨⟩⟩ (wL (fun μk D ε w=>D=[]∧∃k:Nat,(k+μk=(en.cells.length))∧St [g] w0 w [(some g3,88,[.slice Ec ec fc,.slice Ev u0 fv]),(some g,3,(d4a mem en k).map (Value.int .i64)++pad)]∧Sl ε [(0,.slice (some ⟨g,0,none⟩) mem.length o0),(3,.pointer (some ⟨g3,0,none⟩)),(7,.slice Ec ec fc),(8,.int .i64 ec),(9,.int .i64 k)]) (μ:=(en.cells.length)) ⟨rfl,0,by omega,(S3.setEnt 1 rfl (by rw[f9a])),rfl⟩ ?_);rintro μk D ε w ⟨rfl,k,_,S,eZ⟩;refine wK eZ (wB0 rfl ⟨⟩ (fun v0=>?_) fun v0=>?_)
 ·obtain⟨x,s0,C0,_,q0,d0,f0,_,h0,j0⟩:=RdS.get (x0) (k) (by omega);obtain⟨rfl,_⟩:=id j0;have q1:=A0 x (c0a q0);obtain⟨_,t0,D0,_,B0,e0,g0,_,i0,n0⟩:=RdS.get (y0) (k) (by omega);obtain⟨rfl,_⟩:=id n0;refine lO ((S.k.b (i0.keep (S.keepM.mono a0) g0)).b (h0.keep (S.keepM.mono a0) f0)) [.x s0 C0,.f 0 0,.o 0,.x t0 D0,.f 1 0,.i] rfl ⟨by omega,rfl,⟨e0,by omega⟩,rfl,rfl,⟨d0,by omega⟩,⟨⟩⟩ ?_
  first|refine B0a (kk:=1) S u9a rfl (by conv=>lhs;whnf) rfl rfl (by(simp;omega)) ?_
  intro E0 b0 r0;refine lP0 rfl ⟨by omega,⟨⟩⟩ ?_;refine⟨μk-1,by omega,rfl,(k+1),(by omega),(b0.setEnt 1 rfl (by rw[o9a q0 B0];simp only[Nat.zero_add,Nat.mul_one];exact H5a (by simp;omega))),rfl⟩
 refine lF0 rfl ⟨⟩ (T1a rfl ?_);have SF:=S.setEnt 1 rfl (show _=(f2a mem en).map (Value.int .i64)++pad by rw[k0b _ _ (by omega)]);exact⟨SF.blk 1 rfl,SF.below⟩
end Go.Fw
