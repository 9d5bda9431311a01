/-
  Part 6 of 9 of the proof of InferFrames: what it leans on. No conditions.
-/
import Derived.Test.YtgjenhndpfcjkaaGreatDoorZInferFrames5
set_option maxRecDepth 100000
set_option maxHeartbeats 4000000
namespace Go.Proofs.YtgjenhndpfcjkaaGreatDoor
end Go.Proofs.YtgjenhndpfcjkaaGreatDoor
namespace Go.Fw
open Go.Proofs.YtgjenhndpfcjkaaGreatDoor Go.Proofs Go.RowKit Tryz
theorem t8a{B g t n:Nat}{w:World}{vb:Value}{bs:List Value}(h:w.ownsRow B t 1 vb n bs):∀x∈g::vb.ownBlock.toList,x=g∨B≤x:=fun x hx=>by
 rcases List.mem_cons.1 hx with h1|h1
 ·exact .inl h1
 ·cases hv:vb.ownBlock with
  | none=>rw[hv] at h1;simp at h1
  | some y =>
    rw[hv] at h1;simp at h1;subst h1;exact .inr (p7a h hv).1
theorem w5a{B t n:Nat}{w:World}{vb:Value}{bs:List Value}{a l:List UInt8}(h:w.ownsRow B t 1 vb (n+a.length+(B6a l).size) (bs++Lib.byteCells a++Lib.strCells (B6a l))):w.ownsRow B t 1 vb (n+(a++l).length) (bs++Lib.byteCells (a++l)):=by
 rw[Z2a,Nat.add_assoc,←List.length_append] at h;have e:bs++Lib.byteCells a++Lib.strCells (B6a l)=bs++Lib.byteCells (a++l):=by
  rw[List.append_assoc]
  congr 1
  show Lib.byteCells a++Lib.byteCells l=_
  simp[Lib.byteCells]
 rw[e] at h;exact h
theorem w8c{B t n:Nat}{w:World}{vb:Value}{bs:List Value}{a l:List UInt8}(h:w.ownsRow B t 1 vb (n+a.length+l.length) (bs++Lib.byteCells a++Lib.byteCells l)):w.ownsRow B t 1 vb (n+(a++l).length) (bs++Lib.byteCells (a++l)) :=
 w5a (by rw[Z2a];exact h)
theorem N2b{B t n:Nat}{w:World}{vb:Value}{bs:List Value}(h:w.ownsRow B t 1 vb n bs):w.ownsRow B t 1 vb (n+([]:List UInt8).length) (bs++Lib.byteCells []):=by
 have e:bs++Lib.byteCells []=bs:=by simp[Lib.byteCells]
 rw[e];exact h
theorem e4c:∀(e:E) (B g gw:Nat) (w0:World) (b o:Nat) (pv vb:Value) (n:Nat) (bs:List Value),g<B→gw<B→gw≠g→B≤w0.heap.size→RB B g w0 e b o→NB B g w0 →
 w0.cell? ⟨gw,0,none⟩=some (.func (.func 86) #[] #[.pointer (some ⟨g,0,none⟩),.pointer (some ⟨gw,0,none⟩)])→(pv=.pointer none∨pv=.pointer (some ⟨g,0,none⟩)) →
 p0a w0 (g,148,[pv,vb])→w0.ownsRow B 5 1 vb n bs→e.txB=true→n+e.txt.length≤900000 →
 O0a prog 86 #[.pointer (some ⟨b,o,none⟩),.pointer (some ⟨g,0,none⟩),.pointer (some ⟨gw,0,none⟩)] w0 fun _ w' =>
  (∃i1,p0a w' (g,148,[.pointer (some ⟨g,0,none⟩),i1])∧w'.ownsRow B 5 1 i1 (n+e.txt.length) (bs++Lib.byteCells e.txt))∧BX B g w0 w':=by
 intro e
 induction e using E.induct with
 | _ e ih =>
 intro B g gw w0 b o pv vb n bs y0 A1 B1 hB hE hN a1 J0 U0 r0 K0 n0;obtain⟨j0,_,_,_,c0,c1,c2,_,nk,_,c3,hn,_,_,_,-,-⟩:=(hE (MB B g w0) R2d).open_;have f1:gw∉MB B g w0:=fun h=>by rcases E7a.1 h with h|h<;>omega
 have Y0:=hN (MB B g w0) R2d;have S:St (MB B g w0) w0 w0 [(some g,148,[pv,vb])]:=(St.reflM _ w0).push U0 (.inr (E7a.2 (.inl Z))) (by simp);have V0:=fun k hk=>hE.kid c3 hn k hk;by_cases s0:e.op=1∨e.op=2∨e.op=3;refine a0a func86 Z ntmps86 Z ?_;refine wO0 Z U (L0a D0a Z (by exact S.oldM j0 c0) Z ?_);refine lB0 Z U (fun O0=>?_) fun O0=>?_
 ·obtain⟨t0,u0,v0,x0⟩:=E.txB_leaf s0 K0;have KC:=y0a.refl [] w0;have l1:=A3b e.op;have l2:=r6a t0 u0;have l3:=r6a v0 x0;have o0:=E.txt_leaf s0;rw[o0] at n0;simp only[List.length_append,List.length_cons,List.length_nil] at n0;refine lC0 Z U (H0a c0a [0,1,2,3,4,5,6,7,8,9,10,11,12,13,14,15,16,17] [] [18] Z (Cl _ _ _ _) (Cl.start S) ?_);refine qO0 Z U (k0a D0a Z (fun w1 hw=>by exact hw.1.oldM j0 c0) Z ?_);refine g2a r1c Z Z (fun w1 S1 X1=>U9a e.op _) ?_;refine qO0 Z U (k0a D0a Z (fun w1 hw=>by exact hw.1.oldM j0 c2) Z ?_);refine g2a h2b Z Z (fun w1 S1 X1=>m6a e.n t0 u0 _) ?_;refine F7a Z Z (by omega) Z ?_;refine F7a (b:=[58]) Z Z (by simp;omega) Z ?_;refine qO0 Z U (k0a D0a Z (fun w1 hw=>by exact hw.1.oldM j0 c1) Z ?_);refine g2a h2b Z Z (fun w1 S1 X1=>m6a e.w v0 x0 _) ?_;refine F7a Z Z (by simp;omega) Z ?_;refine qD Z U ?_;rintro m1 ⟨i0,C0⟩;replace KC:=KC.trans C0;have d0:=c2a (N2b r0) KC;refine a2a b2b Z Z (E2a B g y0 pv vb J0 _ _ (B6a (H0c e.op++z9b e.n++[58]++z9b e.w)) _ (Nat.le_trans hB i0.size) (i0.blk 0 Z) d0 (by rw[Z2a];simp;omega)) ?_;rintro g1 j1 ⟨⟨q0,b0,a0⟩,A0⟩;have B0:=St.wrote i0 (BX.ofB A0 (t8a d0) (Nat.le_trans hB i0.size)) b0;refine lR0 Z U (N1a Z ?_);rw[o0];exact⟨⟨q0,b0,by simpa using w5a a0⟩,B0.bx hB⟩
 refine lB0 Z U (fun P0=>?_) fun P0=>?_
 ·obtain⟨t0,u0,v0,x0⟩:=E.txB_leaf s0 K0;have KC:=y0a.refl [] w0;have l1:=A3b e.op;have l2:=r6a t0 u0;have l3:=r6a v0 x0;have o0:=E.txt_leaf s0;rw[o0] at n0;simp only[List.length_append,List.length_cons,List.length_nil] at n0;refine lC0 Z U (H0a c0a [0,1,2,3,4,5,6,7,8,9,10,11,12,13,14,15,16,17] [] [18] Z (Cl _ _ _ _) (Cl.start S) ?_);refine qO0 Z U (k0a D0a Z (fun w1 hw=>by exact hw.1.oldM j0 c0) Z ?_);refine g2a r1c Z Z (fun w1 S1 X1=>U9a e.op _) ?_;refine qO0 Z U (k0a D0a Z (fun w1 hw=>by exact hw.1.oldM j0 c2) Z ?_);refine g2a h2b Z Z (fun w1 S1 X1=>m6a e.n t0 u0 _) ?_;refine F7a Z Z (by omega) Z ?_;refine F7a (b:=[58]) Z Z (by simp;omega) Z ?_;refine qO0 Z U (k0a D0a Z (fun w1 hw=>by exact hw.1.oldM j0 c1) Z ?_);refine g2a h2b Z Z (fun w1 S1 X1=>m6a e.w v0 x0 _) ?_;refine F7a Z Z (by simp;omega) Z ?_;refine qD Z U ?_;rintro m1 ⟨i0,C0⟩;replace KC:=KC.trans C0;have d0:=c2a (N2b r0) KC;refine a2a b2b Z Z (E2a B g y0 pv vb J0 _ _ (B6a (H0c e.op++z9b e.n++[58]++z9b e.w)) _ (Nat.le_trans hB i0.size) (i0.blk 0 Z) d0 (by rw[Z2a];simp;omega)) ?_;rintro g1 j1 ⟨⟨q0,b0,a0⟩,A0⟩;have B0:=St.wrote i0 (BX.ofB A0 (t8a d0) (Nat.le_trans hB i0.size)) b0;refine lR0 Z U (N1a Z ?_);rw[o0];exact⟨⟨q0,b0,by simpa using w5a a0⟩,B0.bx hB⟩
 refine lB0 Z U (fun Q0=>?_) (fun Q0=>by exfalso;omega);obtain⟨t0,u0,v0,x0⟩:=E.txB_leaf s0 K0;have KC:=y0a.refl [] w0;have l1:=A3b e.op;have l2:=r6a t0 u0;have l3:=r6a v0 x0;have o0:=E.txt_leaf s0;rw[o0] at n0;simp only[List.length_append,List.length_cons,List.length_nil] at n0;refine lC0 Z U (H0a c0a [0,1,2,3,4,5,6,7,8,9,10,11,12,13,14,15,16,17] [] [18] Z (Cl _ _ _ _) (Cl.start S) ?_);refine qO0 Z U (k0a D0a Z (fun w1 hw=>by exact hw.1.oldM j0 c0) Z ?_);refine g2a r1c Z Z (fun w1 S1 X1=>U9a e.op _) ?_;refine qO0 Z U (k0a D0a Z (fun w1 hw=>by exact hw.1.oldM j0 c2) Z ?_);refine g2a h2b Z Z (fun w1 S1 X1=>m6a e.n t0 u0 _) ?_;refine F7a Z Z (by omega) Z ?_;refine F7a (b:=[58]) Z Z (by simp;omega) Z ?_;refine qO0 Z U (k0a D0a Z (fun w1 hw=>by exact hw.1.oldM j0 c1) Z ?_);refine g2a h2b Z Z (fun w1 S1 X1=>m6a e.w v0 x0 _) ?_;refine F7a Z Z (by simp;omega) Z ?_;refine qD Z U ?_;rintro m1 ⟨i0,C0⟩;replace KC:=KC.trans C0;have d0:=c2a (N2b r0) KC;refine a2a b2b Z Z (E2a B g y0 pv vb J0 _ _ (B6a (H0c e.op++z9b e.n++[58]++z9b e.w)) _ (Nat.le_trans hB i0.size) (i0.blk 0 Z) d0 (by rw[Z2a];simp;omega)) ?_;rintro g1 j1 ⟨⟨q0,b0,a0⟩,A0⟩;have B0:=St.wrote i0 (BX.ofB A0 (t8a d0) (Nat.le_trans hB i0.size)) b0;refine lR0 Z U (N1a Z ?_);rw[o0];exact⟨⟨q0,b0,by simpa using w5a a0⟩,B0.bx hB⟩;refine a0a func86 Z ntmps86 Z ?_;refine wO0 Z U (L0a D0a Z (by exact S.oldM j0 c0) Z ?_);refine lB0 Z U (fun O0=>by exfalso;omega) fun O0=>?_;refine lB0 Z U (fun P0=>by exfalso;omega) fun P0=>?_;refine lB0 Z U (fun Q0=>by exfalso;omega) fun Q0=>?_;obtain⟨_,x1⟩:=E.txB_node s0 K0;have o0:=E.txt_node s0;obtain⟨nm,b1⟩:∃x,x=f2b.getD (e.op-4).toNat []:=⟨_,Z⟩;rw[←b1] at o0;have v1:(e.op-4).toNat<f2b.length:=by show _<11;omega
 have y1:f2b[(e.op-4).toNat]?=some nm:=by rw[b1,List.getD_eq_getElem?_getD,List.getElem?_eq_getElem v1];rfl
 have cN:=Y0.2 _ _ y1;have H1:e.txt.length=nm.length+(E.txts e.kids 40).length+1:=by rw[o0];simp;omega
 refine lO0 Z U (L0a D0a Z (by exact S.oldM j0 c0) Z ?_);refine lO0 Z ⟨by omega,U⟩ (G3a o0d Z Z Z ?_);refine L0a y2d Z (S.oldM Y0.1 (by simpa using cN)) Z ?_;have E0:=N2b r0;refine a2a b2b Z Z (E2a B g y0 pv vb J0 _ _ (B6a nm) _ (Nat.le_trans hB S.size) (S.blk 0 Z) E0 (by rw[Z2a];simp;omega)) ?_;rintro I1 D1 ⟨⟨q0,R0,e0⟩,n1⟩;have X0:=St.wrote S (BX.ofB n1 (t8a E0) (Nat.le_trans hB S.size)) R0;have e0:=w5a e0;have KD:=y0a.refl [] D1;refine lO0 Z U (L0a r1a Z (by exact X0.oldM j0 c3) Z ?_);refine lC0 Z U (wL (fun μk D ε w=>D=[]∧∃k:Nat,∃I0:Value,(k+μk=(e.kids.length))∧(w.ownsRow B 5 1 I0 (n+(nm++E.txts (e.kids.take k) 40).length) (bs++Lib.byteCells (nm++E.txts (e.kids.take k) 40)))∧St (MB B g w0) w0 w [(some g,148,[.pointer (some ⟨g,0,none⟩),I0])]∧Sl ε [(0,.pointer (some ⟨b,o,none⟩)),(1,.pointer (some ⟨g,0,none⟩)),(2,.pointer (some ⟨gw,0,none⟩)),(4,.string (B6a (if k=0 then[40] else[44]))),(45,.int .i64 nk),(46,.int .i64 k)]) (μ:=(e.kids.length)) ⟨Z,0,_,by omega,(by simpa[E.txts] using c2a e0 KD),X0,Z⟩ ?_);rintro μk D ε w ⟨rfl,k,I0,hk,p0,S,eZ⟩;refine wK eZ ?_;have KL:=y0a.refl [] w;refine wB0 Z U (fun u1=>?_) fun u1=>?_
 ·refine lO0 Z U ?_;obtain⟨x,H0⟩:∃x,e.kids[k]?=some x:=⟨e.kids[k]'(by omega),List.getElem?_eq_getElem _⟩;have z1:=E.txts_pre e.kids 40 (k+1);rw[E.txts_take 40 H0,List.length_append,List.length_cons] at z1;have d1:(if k=0 then[(40:UInt8)] else[44]).length=1:=by split<;>rfl
  have F0:=c2a p0 KL;refine a2a b2b Z Z (E2a B g y0 _ I0 (.inr Z) _ _ (B6a (if k=0 then[40] else[44])) _ (Nat.le_trans hB S.size) (S.blk 0 Z) F0 (by rw[Z2a,d1,List.length_append];omega)) ?_;rintro v50 E1 ⟨⟨q0,S0,f0⟩,o1⟩;have r1:=St.wrote S (BX.ofB o1 (t8a F0) (Nat.le_trans hB S.size)) S0;have f0:=w5a f0;have L0:=y0a.refl [] E1;obtain⟨bk,ok,_,Z0⟩:=V0 k (by omega);have C1:e.kids[k]'(by omega)=x:=by have:=List.getElem?_eq_getElem (l:=e.kids) (i:=k) (by omega);rw[H0] at this;exact(Option.some.inj this).symm
  rw[C1] at Z0;refine lC0 Z U (H0a c0a [0,1,2,3,4,5,6] [] [7] Z (Cl _ _ _ _) (Cl.start r1) ?_);refine k0a p3c Z (fun w1 hw=>by exact hw.1.oldM f1 a1) Z ?_;refine qO0 Z U (k0a r1a Z (fun w1 hw=>by exact hw.1.oldM j0 c3) Z ?_);refine qO0 Z U (q0a R0a.slT Z (by assumption) Z Z ?_);refine qD Z U ?_;rintro G1 ⟨m0,N0⟩;replace L0:=L0.trans N0;have W0:=c2a f0 L0;refine e7a F5c Z Z Z (ih x (List.mem_of_getElem? H0) B g gw _ bk (ok+k*4) _ q0 _ _ y0 A1 B1 (Nat.le_trans hB m0.size) (Z0.keep m0.keepM) (hN.keep m0.keepM) (m0.oldM f1 a1) (.inr Z) (m0.blk 0 Z) W0 (x1 x (List.mem_of_getElem? H0)) (by rw[List.length_append,List.length_append,d1];omega)) ?_;rintro J1 F1 ⟨⟨_,T0,z0⟩,p1⟩;have s1:=St.wrote m0 p1 T0;have KQ:=y0a.refl [] F1;refine lP0 Z ⟨by omega,U⟩ ⟨μk-1,by omega,Z,(k+1),(_),(by omega),?_,s1,Z⟩;rw[E.txts_take 40 H0];have z:=c2a z0 KQ;have e1:nm++(E.txts (e.kids.take k) 40++((if k=0 then 40 else 44)::x.txt))=nm++E.txts (e.kids.take k) 40++(if k=0 then[40] else[44])++x.txt:=by split<;>simp
  rw[e1];exact w8c z
 refine lO0 Z U ?_;obtain rfl:k=e.kids.length:=by omega
 rw[List.take_length] at p0;have G0:=c2a p0 KL;refine a2a b2b Z Z (E2a B g y0 _ I0 (.inr Z) _ _ (B6a [41]) _ (Nat.le_trans hB S.size) (S.blk 0 Z) G0 (by rw[Z2a,List.length_append];simp;omega)) ?_;rintro K1 M1 ⟨⟨q0,D0,g0⟩,q1⟩;have t1:=St.wrote S (BX.ofB q1 (t8a G0) (Nat.le_trans hB S.size)) D0;have g0:=w5a g0;refine lF0 Z U (N1a Z ?_);rw[o0];exact⟨⟨q0,D0,g0⟩,t1.bx hB⟩
theorem G2b{w:World}{B C e n:Nat}{v:Value}{xs:List Value}(h:w.ownsRow B e 1 v n xs)(hc:C≤B):w.ownsRow C e 1 v n xs:=by
 obtain⟨h1,h2⟩:=h;refine⟨h1,h2.imp id ?_⟩;rintro⟨g,a0,b0,q1,q2,q3⟩;exact⟨g,a0,b0,q1,Nat.le_trans hc q2,q3⟩
theorem Y7b(e:E)(w0:World)(cs:List Value)(hR:RdE [] w0 e cs)(hK:k2a [] w0)(hN:I7a [] w0)(y0:e.wf=true)(x0:e.txB=true)(u0:e.txt.length≤800000):
 O0a prog 44 #[.agg cs.toArray] w0 fun v w'=>v=.string (B6a e.txt)∧Bw w0 w':=by
 obtain⟨_,_,_,rfl,-⟩:=hR.open_;have S:=St.refl w0;refine a0a func44 Z ntmps44 Z ?_;refine wO0 Z U (r0a S Z ?_);intro g1 w1 S1 X1 G1;refine lO S1.k [.w 0] Z ⟨⟨Z,Z⟩,U⟩ (W0a S1 I8a Z Z (h7a (p2a e [] _ _ (RdE.keep (S1.keep0 []) _ _ hR) (hK.keep (S1.keep0 []))) y0) ?_);intro w6 S6 X6;refine lO0 Z U (h0a S6 e1d Z Z ?_);intro g3 w3 S3 X3 G3;refine lO0 Z U (h0a S3 s2d Z Z ?_);intro g4 w4 S4 X4 G4;refine lO0 Z U (U1a Z Z ?_);refine U0a (kk:=0) S4 o2d Z Z Z (by exact Nat.le_of_ble_eq_true Z) ?_;intro b0 a0 p0;refine lO a0.k [.o 0] Z ⟨Z,U⟩ ?_;have f0:∀M:List Nat,(∀x∈M,x=g3∨b0.heap.size≤x)→∀g∈M,g∈([]:List Nat)∨w0.heap.size≤g:=fun M hM g hg=>.inr (by
  rcases hM g hg with rfl|h
  ·simpa using a0.new 1 Z
  ·have:=a0.size;omega)
 have s0:RB b0.heap.size g3 b0 e g1 0:=fun M hM=>⟨fun hh=>by
  rcases hM g1 hh with h|h
  ·exact a0.ne 1 2 Z Z (by decide) h.symm
  ·have:=a0.lt 2 Z;omega,_,a0.cells 2 Z,RdE.keep (a0.keep0 M) _ _ (RdE.more (f0 M hM) _ _ hR)⟩
 have r0:NB b0.heap.size g3 b0:=fun M hM=>(hN.more (f0 M hM)).keep (a0.keep0 M);have g0:b0.ownsRow b0.heap.size 5 1 (.slice none 0 0) 0 []:=⟨Z,.inl ⟨Z,Z⟩⟩;refine e7a F5c Z Z Z (e4c e b0.heap.size g3 g4 b0 g1 0 (.pointer none) (.slice none 0 0) 0 [] (a0.lt 1 Z) (a0.lt 0 Z) (a0.ne 0 1 Z Z (by decide)) (Nat.le_refl _) s0 r0 (a0.cell 0 Z Z) (.inl Z) (a0.blk 1 Z) g0 x0 (by omega)) ?_;have t0:=a0.size;rintro z0 i0 ⟨⟨vb,m0,c0⟩,e0⟩;have o0:E0a [g3] b0 i0:=⟨e0.os,e0.tape,e0.output,e0.size,fun k h1 h2=>e0.block k h1 fun h=>h2 (by rw[h];simp)⟩;have d0:=a0.changed1 1 Z o0 m0;dsimp only[List.set] at d0;refine lO0 Z U ?_;have q0:Lib.IsBuilder 148 5 w0.heap.size g3 (Lib.byteCells e.txt) i0:=by
  have n0:i0.heap[g3]?=some (.cells #[.pointer (some ⟨g3,0,none⟩),vb] 148 (0,0)):=d0.blk 1 Z;have v0:vb.ownBlock≠some g3:=Lib.ownBlock_ne c0 n0 (by decide);have hz:=G2b c0 t0;rw[Nat.zero_add,List.nil_append] at hz;exact .inr ⟨by simpa using d0.new 1 Z,vb,n0,by rw[Lib.byteCells_length];exact hz,v0⟩
 refine a2a (R:=fun v w'=>v=.string (B6a e.txt)∧Below w0.heap.size i0 w') T2d Z Z (Calls.mono (Tryz.Builder_String_any w0.heap.size g3 e.txt i0 q0 d0.size) (fun e w' h=>⟨_,h.1,Z,h.2⟩)) ?_;rintro A0 B0 ⟨rfl,j0⟩;exact lT Z U Z ⟨Z,d0.fin.trans j0⟩
theorem Clo.inv{R Q:Nat→Nat→Prop}{n x y:Nat}(h:Clo R n x y)(hr:∀x,Q x x)(ht:∀x y z,Q x y→R y z→Q x z):Q x y:=by
 induction h with
 | refl h=>exact hr _
 | tail h h2 h3 ih=>exact ht _ _ _ ih h2
theorem d5c:(B2a j3a 0 (V1a j3a)).length=2:=by kernel_rfl
theorem U6c(e:E):S5a (E1b e):=by
 obtain⟨h1,h2,h3⟩:=p1a.named n3b;refine⟨h1,h2,fun t ht=>?_⟩;simp only[E1b,List.mem_cons,List.not_mem_nil,or_false] at ht;rcases ht with rfl|rfl
 ·exact h3 _ List.mem_cons_self
 ·exact h3 (e4a ⟨#[117]⟩ 1 1 (x9b 1 0)) (List.mem_cons_of_mem _ List.mem_cons_self)
theorem m5c:A6a (V1a j3a):=fun b hb=>by
 obtain⟨_,-,rfl⟩:=List.mem_map.1 hb;rfl
theorem S1c(M:List Nat)(w0:World)(va vb:Value)(a b:List Int)(ha:RdI M w0 va a)(hb:RdI M w0 vb b):
 O0a prog 45 #[va,vb] w0 fun v w'=>v=.bool (decide (a=b))∧Bw w0 w':=by
 obtain⟨Aa,na,ca,rfl⟩:=ha.form;obtain⟨_,-,-,_,f0⟩:=ha.at;obtain⟨Ab,nb,cb,rfl⟩:=hb.form;obtain⟨_,-,-,_,g0⟩:=hb.at;have S:=St.refl w0;refine a0a func45 Z ntmps45 Z ?_;refine wB0 Z U (fun q0=>?_) fun q0=>?_
 ·refine lT Z U Z ⟨congrArg Value.bool ?_,S.fin⟩;exact(decide_eq_false (fun h=>by subst h;omega)).symm
 refine lC0 Z U (wL (fun μ D ε w=>D=[]∧∃k:Nat,(k+μ=a.length)∧(∀j:Nat,j<k→a[j]?=b[j]?)∧St [] w0 w []∧ε 0=.slice Aa na ca∧ε 1=.slice Ab nb cb∧ε 5=.int .i64 k) (μ:=a.length) ⟨Z,0,by omega,fun j h=>absurd h (by omega),S,Z,Z,Z⟩ ?_);rintro μ D ε w ⟨rfl,k,_,hs,S,e0,e1,e5⟩;refine s0a 0 e0 (s0a 1 e1 (s0a 5 e5 ?_));clear e0 e1 e5;refine wB0 Z U (fun r0=>?_) fun r0=>?_
 ·have o0:k<a.length:=by omega
  have a0:k<b.length:=by omega
  obtain⟨ba,oa,_,_,c0⟩:=f0 (by omega);obtain⟨_,-,i0,j0⟩:=c0 k a[k] (List.getElem?_eq_getElem o0);have t0:w0.cell? ⟨ba,oa+k*1,none⟩=some (.int .i64 a[k]):=i0 0 _ (by rw[j0.1];rfl);obtain⟨bb,ob,_,_,d0⟩:=g0 (by omega);obtain⟨_,-,m0,n0⟩:=d0 k b[k] (List.getElem?_eq_getElem a0);have u0:w0.cell? ⟨bb,ob+k*1,none⟩=some (.int .i64 b[k]):=m0 0 _ (by rw[n0.1];rfl);refine lC0 Z U (H0a c0a [0,1,2,3,4,5,6,7,8] [] [] Z (Cl _ _ _ _) (Cl.start S) ?_);refine qO0 Z U (q0a T0a.slT Z (by assumption) Z Z ?_);refine k0a D0a Z (fun w1 hw=>by exact hw.1.old t0) Z ?_;refine qO0 Z U (q0a T0a.slT Z (by assumption) Z Z ?_);refine k0a D0a Z (fun w1 hw=>by exact hw.1.old u0) Z ?_;refine qB0 Z U (fun s0=>?_) fun s0=>?_
  ·refine qD Z U ?_;rintro x0 ⟨b0,p0⟩;refine lT Z U Z ⟨congrArg Value.bool ?_,b0.fin⟩;exact(decide_eq_false (fun h=>by subst h;omega)).symm
  refine qD Z U ?_;rintro x0 ⟨b0,p0⟩;refine lP0 Z ⟨by omega,U⟩ ⟨μ-1,by omega,Z,k+1,by omega,fun j hj=>?_,b0,Z,Z,Z⟩;by_cases v0:j=k
  ·subst v0;rw[List.getElem?_eq_getElem o0,List.getElem?_eq_getElem a0];exact congrArg some (by omega)
  ·exact hs j (by omega)
 refine lT Z U Z ⟨congrArg Value.bool ?_,S.fin⟩;exact(decide_eq_true (List.ext_getElem? (fun j=>by
  by_cases hj:j<k
  ·exact hs j hj
  ·rw[List.getElem?_eq_none (by omega),List.getElem?_eq_none (by omega)]))).symm
theorem j2c(wS:World)(hK:k2a [] wS)(hN:I7a [] wS):
 O0a prog 15 #[] wS fun v w'=>v=.bool true∧Below wS.heap.size wS w':=by
 have S:=St.refl wS;have i0:i64 0:=by unfold i64;omega
 have i1:i64 1:=by unfold i64;omega
 have i2:i64 2:=by unfold i64;omega
 refine a0a func15 Z ntmps15 Z ?_;refine wO0 Z U ?_;have Sb:=S;refine o0a S S1d Z Z (w5b _) ?_;rintro q3 o2 ⟨cs,_,rfl,hE,I2,m2⟩ R1 m3;have n1:=R1.push_new Sb m2 I2;have T2:=hE.rd m2 (e:=x9b 1 0) (L1a i1 i1 i0);have G2:=hE;obtain⟨_,_,_,_,_,_,_,_,_,_,_,_,_,rfl,-⟩:=G2;have a0:=y0a.refl [] o2;have hI:InP j3a [] o2 _:=⟨T2,n3b,hK.keep (R1.keep0 []),by simp⟩;refine h0a n1 A1b Z Z ?_;intro g1 w1 S1 X1 G1;have L0:=Nat.le_trans a0.size G1;replace a0:=a0.trans X1;refine b0a (kk:=0) (vs:=[_,_,_,_]) S1 u1b Z Z Z Z Z Z Z ?_;intro Z2 C0 q1;dsimp only[d0a,List.set] at C0;replace a0:=a0.fresh q1 (by first|exact L0);refine lO C0.k [.w 0] Z ⟨⟨Z,by rfl⟩,U⟩ (W0a C0 p2b Z Z (M5a j3a [] _ _ (hI.keep a0).rd n3b (hI.keep a0).msk (by simp)) ?_);intro Q1 T1 v2;replace a0:=a0.trans v2;refine lC0 Z U (U8a c0a (fun i=>[0,1,2,3,6,7,8,9,10,14,15,16].contains i) (.op 0 (.op 1 (.op 2 (.op 3 (.op 4 (.op 5 (.op 6 (.op 7 (.op 8 (.op 9 (.op 10 (.op 11 (.op 12 (.op 13 (.op 14 (.op 15 (.op 16 .nil))))))))))))))))) (b6c T1) ?_);have G0:=T1.drew;have u0:y0a [] Q1 Q1.drew:=o2a _ _;generalize Q1.drew=G3 at G0 u0 ⊢;replace a0:=a0.trans u0;refine B1a ⟨G0,u0⟩ Z Z Z ?_;refine F1a (hv:=Z) (v:=.int .i64 _) Z ?_;refine i0a ?_;refine B1a ⟨G0,u0⟩ Z Z Z ?_;refine O1c Z Z Z (fun y2=>?_) fun y2=>?_
 ·refine i0a ?_;refine B1a ⟨G0,u0⟩ Z Z Z ?_;refine F1a (hv:=Z) (v:=.bool _) Z ?_;refine i0a ?_;refine B1a ⟨G0,u0⟩ Z Z Z ?_;refine f2a Z Z ?_;refine C1a P4a Z (fun w1 hw=>hw.1.cells 0 Z) Z Z ?_;refine i0a ?_;refine u2a ⟨G0,u0⟩ Z Z Z ?_;refine n5a Z Z Z ?_;refine o0a G0 Y5c Z Z (x2b j3a [] _ _ (hI.keep a0)) ?_;rintro r3 y3 ⟨_,f2,M1,H1,-⟩ s0 a2;have e0:=u0.trans a2;replace a0:=a0.trans a2;obtain rfl:=h7c M1 H1;obtain⟨_,P2,_,rfl⟩:=f2.form;have L2:P2=2:=f2.len.1;refine B0a ⟨Z,?_⟩;refine u2a ⟨s0,e0⟩ Z Z Z ?_;refine n5a Z Z Z ?_;refine w0d Q8a.slT Z Z ?_;refine B0a ⟨Z,?_⟩;refine B1a ⟨s0,e0⟩ Z Z Z ?_;refine f2a Z Z ?_;refine O1c Z Z Z (fun z2=>?_) fun z2=>?_
  ·refine i0a ?_;refine B1a ⟨s0,e0⟩ Z Z Z ?_;refine m7a Z (v:=.bool _) Z Z ?_;refine i0a ?_;refine B1a ⟨s0,e0⟩ Z Z Z ?_;refine F1a (hv:=Z) (v:=.bool _) Z ?_;refine i0a ?_;refine B1a ⟨s0,e0⟩ Z Z Z ?_;refine f2a Z Z ?_;refine C1a P4a Z (fun w1 hw=>hw.1.cells 0 Z) Z Z ?_;refine i0a ?_;refine B1a ⟨s0,e0⟩ Z Z Z ?_;refine f2a Z Z ?_;refine C1a P4a Z (fun w1 hw=>hw.1.cells 0 Z) Z Z ?_;refine i0a ?_;refine u2a ⟨s0,e0⟩ Z Z Z ?_;refine n5a Z Z Z ?_;refine o0a s0 A6c Z Z (X8a j3a [] _ _ (hI.keep a0)) ?_;rintro s3 a3 ⟨_,rfl,g2⟩ U1 b2;have t0:=e0.trans b2;replace a0:=a0.trans b2;obtain⟨_,_,_,_,xa,_,_,xb,_,rfl,-⟩:=g2.open_;have p2:=y0a.refl [] a3;refine B0a ⟨Z,?_⟩;refine u2a ⟨U1,t0⟩ Z Z Z ?_;refine n5a Z Z Z ?_;refine o0a U1 S5c Z Z (T4a j3a (V1a j3a) [] _ _ _ (hI.keep a0) (Q1a.keep p2 g2) (Y0b n3b) m5c) ?_;rintro t3 z3 h2 D0 d2;have n0:=t0.trans d2;replace a0:=a0.trans d2;obtain⟨_,Q2,_,rfl⟩:=h2.form;have N2:Q2=2:=h2.len.1.trans d5c;refine B0a ⟨Z,?_⟩;refine u2a ⟨D0,n0⟩ Z Z Z ?_;refine n5a Z Z Z ?_;refine w0d x8b.slT Z Z ?_;refine B0a ⟨Z,?_⟩;refine B1a ⟨D0,n0⟩ Z Z Z ?_;refine f2a Z Z ?_;refine O1c Z Z Z (fun A2=>?_) fun A2=>?_
   ·refine i0a ?_;refine B1a ⟨D0,n0⟩ Z Z Z ?_;refine m7a Z (v:=.bool _) Z Z ?_;refine i0a ?_;refine B1a ⟨D0,n0⟩ Z Z Z ?_;refine x5a (v:=.bool _) Z Z ?_;refine i0a ?_;refine e3a ⟨D0,n0⟩ ?_;refine fO D0.k [.w 0] Z ⟨⟨Z,by rfl⟩,U⟩ (o0a D0 r2c Z Z (E0b j3a 0 [] _ _ (hI.keep a0)) ?_);rintro v37 d3 ⟨_,_,J1,rfl,a1⟩ q2 w2;replace a0:=a0.trans w2;obtain rfl:=Y6b J1;rw[Y5b] at a1 ⊢;dsimp only at a1 ⊢;obtain⟨_,_,_,rfl,-⟩:=a1.open_;have c0:=y0a.refl [] d3;refine lO0 Z U (h0a q2 w1a Z Z ?_);intro g6 w6 S6 X6 G6;have N0:=Nat.le_trans a0.size G6;have P0:=Nat.le_trans c0.size G6;replace a0:=a0.trans X6;replace c0:=c0.trans X6;refine b0a (kk:=0) (vs:=[_,_,_,_]) S6 w0a Z Z Z Z Z Z Z ?_;intro f3 E0 U0;dsimp only[d0a,List.set] at E0;replace a0:=a0.fresh U0 (by exact N0);replace c0:=c0.fresh U0 (by exact P0);refine lO E0.k [.w 1] Z ⟨⟨Z,by rfl⟩,U⟩ (o0a E0 r2c Z Z (E0b j3a 1 [] _ _ (hI.keep a0)) ?_);rintro u3 e3 ⟨_,_,K1,rfl,b1⟩ r2 e2;replace a0:=a0.trans e2;replace c0:=c0.trans e2;obtain rfl:=X5b K1;rw[M5b] at b1 ⊢;dsimp only at b1 ⊢;obtain⟨_,_,_,rfl,-⟩:=b1.open_;have d0:=y0a.refl [] e3;refine lO0 Z U (h0a r2 w1a Z Z ?_);intro g8 w8 S8 X8 G8;have O0:=Nat.le_trans a0.size G8;have Q0:=Nat.le_trans c0.size G8;have R0:=Nat.le_trans d0.size G8;replace a0:=a0.trans X8;replace c0:=c0.trans X8;replace d0:=d0.trans X8;refine b0a (kk:=0) (vs:=[_,_,_,_]) S8 w0a Z Z Z Z Z Z Z ?_;intro g3 q0 I0;dsimp only[d0a,List.set] at q0;replace a0:=a0.fresh I0 (by exact O0);replace c0:=c0.fresh I0 (by exact Q0);replace d0:=d0.fresh I0 (by exact R0);refine lB0 Z U (fun B2=>?_) (fun B2=>by exfalso;omega);refine lB0 Z U (fun C2=>?_) (fun C2=>by exfalso;omega);refine lO q0.k [.w 1] Z ⟨⟨Z,by rfl⟩,U⟩ ?_;refine W0a q0 H5c Z Z (Y7b W5c _ _ (RdE.keep c0 _ _ a1) (hI.keep a0).msk (hN.keep (q0.keep0 [])) q0d H4c (by rw[C7b];decide)) ?_;intro A3 o1 r1;replace a0:=a0.trans r1;replace c0:=c0.trans r1;replace d0:=d0.trans r1;refine n5a Z Z Z ?_;refine H6c Z Z Z (fun _=>?_) (fun h=>absurd (by rw[C7b];rfl) h);refine lO o1.k [.w 0] Z ⟨⟨Z,by rfl⟩,U⟩ ?_;refine W0a o1 H5c Z Z (Y7b D6c _ _ (RdE.keep d0 _ _ b1) (hI.keep a0).msk (hN.keep (o1.keep0 [])) k8c n5c (by rw[g8b];decide)) ?_;intro B3 V1 s1;replace a0:=a0.trans s1;replace c0:=c0.trans s1;replace d0:=d0.trans s1;refine n5a Z Z Z ?_;refine H6c Z Z Z (fun _=>?_) (fun h=>absurd (by rw[g8b];rfl) h);refine lO V1.k [.w 2] Z ⟨⟨Z,by rfl⟩,U⟩ ?_;refine o0a V1 a6c Z Z ((P1b j3a 1 (by decide) [] _ _ (hI.keep a0)).mono (fun v w' ⟨⟨l,hl,hN⟩,hB⟩=>show RdI [] w' v [1]∧_ from⟨(s6b hl)▸hN.rd (M:=[]) (by simp) (fun x hx=>by rw[s6b hl] at hx;simp at hx;subst hx;exact i1) hB (by rw[s6b hl];decide),hB⟩)) ?_;rintro v3 C3 f1 s2 t1;replace a0:=a0.trans t1;replace c0:=c0.trans t1;replace d0:=d0.trans t1;obtain⟨_,_,_,rfl⟩:=f1.form;refine lO0 Z U (C0a s2 T0a (vs:=[.int .i64 _]) (cs:=[_]) Z Z Z Z Z Z ?_);intro o3 D3 W1 d1 j3;replace a0:=a0.trans d1;replace c0:=c0.trans d1;replace d0:=d0.trans d1;replace f1:=f1.keep (d1.of_nil);refine lO0 Z U (W0a W1 G0d Z Z (h7a (S1c [] _ _ _ [1] [1] f1 (s4a W1 (k:=0) (l:=[1]) Z Z (by simp[i1]))) (decide_eq_true Z)) ?_);intro E3 Y1 u1;replace a0:=a0.trans u1;replace c0:=c0.trans u1;replace d0:=d0.trans u1;refine lO Y1.k [.w 3] Z ⟨⟨Z,by rfl⟩,U⟩ ?_;refine o0a Y1 c2d Z Z ((K1c j3a [] _ _ (hI.keep a0)).mono (fun v w' ⟨⟨l,hl,hN⟩,hB⟩=>show RdI [] w' v []∧_ from⟨(U0b hl)▸hN.rd (M:=[]) (by simp) (fun x hx=>by rw[U0b hl] at hx;cases hx) hB (by rw[U0b hl];decide),hB⟩)) ?_;rintro w3 F3 j2 Z1 v1;replace a0:=a0.trans v1;replace c0:=c0.trans v1;replace d0:=d0.trans v1;obtain⟨_,R2,_,rfl⟩:=j2.form;have O2:R2=0:=j2.len.1;refine lB0 Z U (fun D2=>?_) (fun D2=>by exfalso;omega);refine lO Z1.k [.w 3] Z ⟨⟨Z,by rfl⟩,U⟩ (o0a Z1 I6c Z Z (T7c j3a p7b u2d e2d [] _ _ (hI.keep a0)) ?_);rintro x3 h3 ⟨_,_,_,_,nv,_,_,_,_,_,rfl,n2,H2⟩ t2 x1;replace a0:=a0.trans x1;replace c0:=c0.trans x1;replace d0:=d0.trans x1;obtain⟨m0,m1,rfl,J2,K2⟩:=U2c H2;have p3:nv=2:=n2.len.1;have A0:=y0a.refl [] h3;refine lO0 Z U (h0a t2 A1b Z Z ?_);intro n3 V2 B0 K0 c1;have v0:=Nat.le_trans a0.size c1;have x0:=Nat.le_trans c0.size c1;have y0:=Nat.le_trans d0.size c1;have z0:=Nat.le_trans A0.size c1;replace a0:=a0.trans K0;replace c0:=c0.trans K0;replace d0:=d0.trans K0;replace A0:=A0.trans K0;refine b0a (kk:=0) (vs:=[_,_,_,_]) B0 u1b Z Z Z Z Z Z Z ?_;intro J0 F0 r0;dsimp only[d0a,List.set] at F0;replace a0:=a0.fresh r0 (by exact v0);replace c0:=c0.fresh r0 (by exact x0);replace d0:=d0.fresh r0 (by exact y0);replace A0:=A0.fresh r0 (by exact z0);have Y0:=RdS.keepW n2 A0 (x0a.keep A0);obtain⟨xa,x2,S2,_,N1,B1,_,_,F1,I1⟩:=RdS.get Y0 0 (show 0<2 by omega);obtain⟨xb,z1,P1,_,O1,V0,_,_,X0,Z0⟩:=RdS.get Y0 1 (show 1<2 by omega);subst B1;obtain⟨rfl,rfl⟩:x2=z1∧S2=P1:=by simpa using V0
    obtain rfl:m0=xa:=by simpa using N1
    obtain rfl:m1=xb:=by simpa using O1
    obtain⟨_,_,_,_,_,_,_,_,_,rfl,E1,_⟩:=x0a.open_ I1;obtain⟨_,_,_,_,_,_,_,_,_,rfl,W0,_⟩:=x0a.open_ Z0;refine lC0 Z U (U8a c0a (fun i=>[0,1,2,3,4,5,6,7,9,10,11,12,13,14,15,16,17,19,20,21,22,23,24,25,26,28,29].contains i) (.op 0 (.op 1 (.op 2 (.op 3 (.op 4 (.op 5 (.op 6 (.op 7 (.op 8 (.op 9 (.op 10 (.op 11 (.op 12 (.op 13 (.op 14 (.op 15 (.op 16 (.op 17 (.op 18 (.op 19 (.op 20 (.op 21 (.op 22 (.op 23 (.op 24 (.op 25 (.op 26 (.op 27 (.op 28 (.op 29 .nil)))))))))))))))))))))))))))))) (b6c F0) ?_);have j0:=F0.drew;have f0:y0a [] J0 J0.drew:=o2a _ _;generalize J0.drew=H3 at j0 f0 ⊢;replace a0:=a0.trans f0;replace c0:=c0.trans f0;replace d0:=d0.trans f0;refine B1a ⟨j0,f0⟩ Z Z Z ?_;refine F1a (hv:=Z) (v:=.bool _) Z ?_;refine i0a ?_;refine B1a ⟨j0,f0⟩ Z Z Z ?_;refine F1a (hv:=Z) (v:=.bool _) Z ?_;refine i0a ?_;refine B1a ⟨j0,f0⟩ Z Z Z ?_;refine f2a Z Z ?_;refine F1a (hv:=Z) (v:=.int .i64 _) Z ?_;refine i0a ?_;refine B1a ⟨j0,f0⟩ Z Z Z ?_;refine f2a Z Z ?_;refine O1c Z Z Z (fun E2=>?_) fun E2=>?_
    ·refine i0a ?_;refine B1a ⟨j0,f0⟩ Z Z Z ?_;refine m7a Z (v:=.bool _) Z Z ?_;refine i0a ?_;refine B1a ⟨j0,f0⟩ Z Z Z ?_;refine F1a (hv:=Z) (v:=.bool _) Z ?_;refine i0a ?_;refine B1a ⟨j0,f0⟩ Z Z Z ?_;refine f2a Z Z ?_;refine u0a u8a Z Z ?_;refine i0a ?_;refine B1a ⟨j0,f0⟩ Z Z Z ?_;refine f2a Z Z ?_;refine k0a K8a Z (fun w1 hw=>by exact hw.1.cell 0 Z Z) Z ?_;refine i0a ?_;refine u2a ⟨j0,f0⟩ Z Z Z ?_;refine n5a Z Z Z ?_;refine w0d B5a.slT Z Z ?_;refine B0a ⟨Z,?_⟩;refine B1a ⟨j0,f0⟩ Z Z Z ?_;refine f2a Z Z ?_;refine O1c Z Z Z (fun F2=>?_) fun F2=>?_
     ·refine i0a ?_;refine B1a ⟨j0,f0⟩ Z Z Z ?_;refine m7a Z (v:=.bool _) Z Z ?_;refine i0a ?_;refine B1a ⟨j0,f0⟩ Z Z Z ?_;refine F1a (hv:=Z) (v:=.bool _) Z ?_;refine i0a ?_;refine B1a ⟨j0,f0⟩ Z Z Z ?_;refine f2a Z Z ?_;refine u0a u8a Z Z ?_;refine i0a ?_;refine B1a ⟨j0,f0⟩ Z Z Z ?_;refine f2a Z Z ?_;refine k0a K8a Z (fun w1 hw=>by exact hw.1.cell 0 Z Z) Z ?_;refine i0a ?_;refine B1a ⟨j0,f0⟩ Z Z Z ?_;refine f2a Z Z ?_;refine q0a B5a.slT Z (by rfl) Z Z ?_;refine i0a ?_;refine B1a ⟨j0,f0⟩ Z Z Z ?_;refine f2a Z Z ?_;refine u0a i7b Z Z ?_;refine i0a ?_;refine B1a ⟨j0,f0⟩ Z Z Z ?_;refine f2a Z Z ?_;refine C1a m0a Z (fun w1 hw=>(Cells.sub F1 2 4).keep hw.2 List.not_mem_nil) Z Z ?_;refine i0a ?_;refine B1a ⟨j0,f0⟩ Z Z Z ?_;refine f2a Z Z ?_;refine C1a m0a Z (fun w1 hw=>hw.1.cells 3 Z) Z Z ?_;refine i0a ?_;refine u2a ⟨j0,f0⟩ Z Z Z ?_;refine n5a Z Z Z ?_;refine W0a j0 y8b Z Z (h7a (O0b W5c W5c [] _ _ _ (by rw[←J2];exact RdE.keep f0 _ _ E1) (RdE.keep c0 _ _ a1)) (Y9c Z)) ?_;intro W2 g0 H0;have b0:=f0.trans H0;replace a0:=a0.trans H0;replace d0:=d0.trans H0;refine B0a ⟨Z,?_⟩;refine B1a ⟨g0,b0⟩ Z Z Z ?_;refine m7a Z (v:=.bool _) Z Z ?_;refine i0a ?_;refine B1a ⟨g0,b0⟩ Z Z Z ?_;refine F1a (hv:=Z) (v:=.bool _) Z ?_;refine i0a ?_;refine B1a ⟨g0,b0⟩ Z Z Z ?_;refine f2a Z Z ?_;refine u0a u8a Z Z ?_;refine i0a ?_;refine B1a ⟨g0,b0⟩ Z Z Z ?_;refine f2a Z Z ?_;refine k0a K8a Z (fun w1 hw=>by exact hw.1.cell 0 Z Z) Z ?_;refine i0a ?_;refine B1a ⟨g0,b0⟩ Z Z Z ?_;refine f2a Z Z ?_;refine q0a B5a.slT Z (by rfl) Z Z ?_;refine i0a ?_;refine B1a ⟨g0,b0⟩ Z Z Z ?_;refine f2a Z Z ?_;refine u0a i7b Z Z ?_;refine i0a ?_;refine B1a ⟨g0,b0⟩ Z Z Z ?_;refine f2a Z Z ?_;refine C1a m0a Z (fun w1 hw=>(Cells.sub X0 2 4).keep hw.2 List.not_mem_nil) Z Z ?_;refine i0a ?_;refine B1a ⟨g0,b0⟩ Z Z Z ?_;refine f2a Z Z ?_;refine C1a m0a Z (fun w1 hw=>hw.1.cells 2 Z) Z Z ?_;refine i0a ?_;refine u2a ⟨g0,b0⟩ Z Z Z ?_;refine n5a Z Z Z ?_;refine W0a g0 y8b Z Z (h7a (O0b D6c D6c [] _ _ _ (by rw[←K2];exact RdE.keep b0 _ _ W0) (RdE.keep d0 _ _ b1)) (Y9c Z)) ?_;intro X2 p0 T0;have o0:=b0.trans T0;replace a0:=a0.trans T0;refine B0a ⟨Z,?_⟩;refine B1a ⟨p0,o0⟩ Z Z Z ?_;refine m7a Z (v:=.bool _) Z Z ?_;refine i0a ?_;refine B1a ⟨p0,o0⟩ Z Z Z ?_;refine x5a (v:=.bool _) Z Z ?_;refine i0a ?_;refine e3a ⟨p0,o0⟩ ?_;have C1:=hE.keep a0;obtain⟨_,_,_,_,_,_,_,_,_,_,_,_,_,he,-,-,-,-,-,-,-,-,b3,h6⟩:=C1;simp only[List.cons.injEq,Value.slice.injEq,Option.some.injEq,Addr.mk.injEq,and_true] at he;obtain⟨-,-,-,rfl⟩:=he;have ct:=h6.cell (o:=11) Z;have cT:=b3.cell (o:=7) Z;refine fC0 Z U (H0a c0a [0,1,2,3,4,5,6,7,8,9,10] [] [11] Z (Cl _ _ _ _) (Cl.start p0) ?_);refine qO p0.q [.o 4] Z ⟨Z,U⟩ (q0a G8a.slT Z (by rfl) Z Z ?_);refine qO0 Z U (k0a I8b Z (fun w1 hw=>by exact hw.2.cell List.not_mem_nil ct) Z ?_);refine q0a q2b.slT Z (by rfl) Z Z ?_;refine qO0 Z U (k0a f8b Z (fun w1 hw=>by exact hw.2.cell List.not_mem_nil cT) Z ?_);refine g2a D1c Z Z (fun w1 S1 X1=>o2b _ _ _) ?_;refine q0a F6a.slT Z (by rfl) Z Z ?_;refine qD Z U ?_;rintro i3 ⟨S0,y1⟩;replace a0:=a0.trans y1;have p1:=S0;refine b0a (kk:=5) (vs:=[_,_,_,_]) S0 w0a Z Z Z Z Z Z Z ?_;intro V2 B0 K0;dsimp only[d0a,List.set] at B0;have D1:=(hE.keep a0).keepS (p1.blk 5 Z) K0;have rB:=D1.rd (B0.blk 5 Z) (e:=x9b 2 0) (L1a i1 i2 i0);refine lO B0.k [.w 4] Z ⟨⟨Z,by rfl⟩,U⟩ (o0a B0 I6c Z Z (N9b (E1b (x9b 2 0)) M3c [] _ _ rB (U6c _) (hK.keep (B0.keep0 [])) (by simp)) ?_);rintro U2 Y2 ⟨_,rfl⟩ j1 u2;refine lB0 Z U (fun A1=>?_) (fun A1=>by exfalso;omega);exact lT Z U Z ⟨Z,j1.fin⟩
     exfalso;omega
    exfalso;omega
   exfalso;omega
  exfalso;omega
 exfalso;omega
def P9a(C:List Int)(n:Nat):Prop:=C.Pairwise (·<·)∧∀c∈C,0≤c∧c<n
theorem P9a.tail{c:Int}{C:List Int}{n:Nat}(h:P9a (c::C) n):P9a C n:=⟨(List.pairwise_cons.1 h.1).2,fun x hx=>h.2 x (List.mem_cons_of_mem _ hx)⟩
theorem P9a.ne{c:Int}{C:List Int}{n:Nat}(h:P9a (c::C) n):∀x∈C,x.toNat≠c.toNat:=fun x hx=>by
 have h1:=(List.pairwise_cons.1 h.1).1 x hx;have h2:=h.2 c (by simp);omega
theorem D2c(x:s1a)(M:List Nat)(w0:World)(ts:List Value)(hT:K0a M w0 ts x):
 O0a prog 61 #[.agg ts.toArray] w0 fun v w'=>(∃b,v=.bool b∧(b=true→True))∧Bw w0 w':=by
 obtain⟨Aa,na,ca,Am,nm,cm,As,ns,cn,Al,nl,cl,rfl,-,u1,_,e0,S0,_⟩:=K0a.open_ hT;have S:=St.refl w0;refine a0a func61 Z ntmps61 Z ?_;refine wO0 Z U (r0a S Z ?_);intro g1 w1 S1 X1 G1;refine lC0 Z U (wL (fun μk D ε w=>D=[]∧∃k:Nat,(k+μk=(x.steps.length))∧St [] w0 w [(some g1,58,[.string x.name,.int .i64 x.points,.slice Aa na ca,.slice Am nm cm,.slice As ns cn,.slice Al nl cl,.bool x.asleep])]∧Sl ε [(1,.pointer (some ⟨g1,0,none⟩)),(3,.int .i64 k)]) (μ:=(x.steps.length)) ⟨Z,0,by omega,S1,Z⟩ ?_);rintro μk D ε w ⟨rfl,k,hk,S,eZ⟩;refine wK eZ (wB S.k [.o 0] Z ⟨Z,U⟩ (fun i1=>?_) fun i1=>?_)
 ·obtain⟨s,X0,x1,_,R0,i0,_,_,v0,F0⟩:=RdS.get (e0) (k) (by omega);obtain⟨_,_,_,_,_,_,rfl,⟨_,_⟩,u0,_⟩:=z1a.open_ F0;refine lO (S.k.a v0) [.o 0,.x X0 x1,.f 0 3] Z ⟨Z,⟨i0,by omega⟩,Z,U⟩ (f0a S L9a Z Z (y5a s.guard M _ _ _ (RdE.keep (S.keep0 M) _ _ u0)) (fun j1 F1 b0 T0=>?_) (fun j1 F1 b0 T0=>?_))
  ·obtain⟨_,Y0,y1,_,N0,j0,_,_,x0,G0⟩:=RdS.get (e0) (k) (by omega);obtain rfl:=Option.some.inj (R0.symm.trans N0);obtain⟨_,_,_,_,_,_,rfl,⟨_,_⟩,_⟩:=z1a.open_ G0;refine lB (b0.k.a x0) [.o 0,.x Y0 y1,.f 0 7] Z ⟨Z,⟨j0,by omega⟩,Z,U⟩ (fun m1=>?_) fun m1=>?_
   ·exact lT Z U Z ⟨⟨_,Z,fun _=>trivial⟩,b0.fin⟩
   refine lC0 Z U (wL (fun μj D ε w=>D=[]∧∃j:Nat,(j+μj=(s.set.length))∧St [] w0 w [(some g1,58,[.string x.name,.int .i64 x.points,.slice Aa na ca,.slice Am nm cm,.slice As ns cn,.slice Al nl cl,.bool x.asleep])]∧Sl ε [(1,.pointer (some ⟨g1,0,none⟩)),(3,.int .i64 k),(4,.int .i64 j)]) (μ:=(s.set.length)) ⟨Z,0,by omega,b0,Z⟩ ?_);rintro μj D ε w ⟨rfl,j,_,S,eZ⟩;refine wK eZ ?_;obtain⟨_,Z0,z1,_,O0,m0,_,_,y0,H0⟩:=RdS.get (e0) (k) (by omega);obtain rfl:=Option.some.inj (R0.symm.trans O0);obtain⟨_,_,_,_,_,_,rfl,⟨_,_⟩,_⟩:=z1a.open_ H0;refine wB (S.k.a y0) [.o 0,.x Z0 z1,.f 0 7] Z ⟨Z,⟨m0,by omega⟩,Z,U⟩ (fun n1=>?_) fun n1=>?_
   ·obtain⟨_,a1,A1,_,P0,n0,_,_,z0,I0⟩:=RdS.get (e0) (k) (by omega);obtain rfl:=Option.some.inj (R0.symm.trans P0);obtain⟨_,_,_,_,_,_,rfl,⟨_,_⟩,_,a0,_⟩:=z1a.open_ I0;obtain⟨a,b1,B1,_,_,o0,_,_,A0,J0⟩:=RdS.get (a0) (j) (by omega);obtain⟨_,_,_,rfl,_,s0⟩:=J0a.open_ J0;refine lO ((S.k.a A0).a z0) [.o 0,.x a1 A1,.f 0 7,.x b1 B1,.f 1 1] Z ⟨Z,⟨o0,by omega⟩,Z,⟨n0,by omega⟩,Z,U⟩ (f0a S L9a Z Z (y5a a.to M _ _ _ (RdE.keep (S.keep0 M) _ _ s0)) (fun o1 H1 f0 U0=>?_) (fun o1 H1 f0 U0=>?_))
    ·refine lP0 Z ⟨by omega,U⟩ ⟨μj-1,by omega,Z,(j+1),(by omega),f0,Z⟩
    exact lT Z U Z ⟨⟨_,Z,fun _=>trivial⟩,f0.fin⟩
   refine lP0 Z ⟨by omega,U⟩ ⟨μk-1,by omega,Z,(k+1),(by omega),S,Z⟩
  exact lT Z U Z ⟨⟨_,Z,fun _=>trivial⟩,b0.fin⟩
 refine lC0 Z U (wL (fun μk D ε w=>D=[]∧∃k:Nat,(k+μk=(x.asserts.length))∧St [] w0 w [(some g1,58,[.string x.name,.int .i64 x.points,.slice Aa na ca,.slice Am nm cm,.slice As ns cn,.slice Al nl cl,.bool x.asleep])]∧Sl ε [(1,.pointer (some ⟨g1,0,none⟩)),(5,.int .i64 k)]) (μ:=(x.asserts.length)) ⟨Z,0,by omega,S,Z⟩ ?_);rintro μk D ε w ⟨rfl,k,hk,S,eZ⟩;refine wK eZ (wB S.k [.o 0] Z ⟨Z,U⟩ (fun p1=>?_) fun p1=>?_)
 ·obtain⟨e,c1,C1,_,_,p0,_,E0,B0,d0⟩:=RdS.get (u1) (k) (by omega);obtain⟨_,_,_,rfl,_⟩:=RdE.cells d0;refine lO (S.k.a B0) [.o 0,.x c1 C1,.v 0] Z ⟨⟨Z,E0⟩,⟨p0,by omega⟩,Z,U⟩ (f0a S L9a Z Z (y5a e M _ _ _ (RdE.keep (S.keep0 M) _ _ d0)) (fun q1 I1 g0 V0=>?_) (fun q1 I1 g0 V0=>?_))
  ·refine lP0 Z ⟨by omega,U⟩ ⟨μk-1,by omega,Z,(k+1),(by omega),g0,Z⟩
  exact lT Z U Z ⟨⟨_,Z,fun _=>trivial⟩,g0.fin⟩
 refine lC0 Z U (wL (fun μk D ε w=>D=[]∧∃k:Nat,(k+μk=(x.loops.length))∧St [] w0 w [(some g1,58,[.string x.name,.int .i64 x.points,.slice Aa na ca,.slice Am nm cm,.slice As ns cn,.slice Al nl cl,.bool x.asleep])]∧Sl ε [(1,.pointer (some ⟨g1,0,none⟩)),(6,.int .i64 k)]) (μ:=(x.loops.length)) ⟨Z,0,by omega,S,Z⟩ ?_);rintro μk D ε w ⟨rfl,k,hk,S,eZ⟩;refine wK eZ (wB S.k [.o 0] Z ⟨Z,U⟩ (fun r1=>?_) fun r1=>?_)
 ·obtain⟨o,d1,D1,_,v1,q0,_,_,C0,K0⟩:=RdS.get (S0) (k) (by omega);obtain⟨_,_,_,_,_,_,rfl,_,_,t0,_⟩:=W4a.open_ K0;refine lO (S.k.a C0) [.o 0,.x d1 D1,.f 0 2] Z ⟨Z,⟨q0,by omega⟩,Z,U⟩ (f0a S L9a Z Z (y5a o.variant M _ _ _ (RdE.keep (S.keep0 M) _ _ t0)) (fun s1 J1 c0 W0=>?_) (fun s1 J1 c0 W0=>?_))
  ·obtain⟨_,f1,E1,_,Q0,r0,_,_,D0,L0⟩:=RdS.get (S0) (k) (by omega);obtain rfl:=Option.some.inj (v1.symm.trans Q0);obtain⟨_,_,_,_,_,_,rfl,_⟩:=W4a.open_ L0;refine lB (c0.k.a D0) [.o 0,.x f1 E1,.f 0 1] Z ⟨Z,⟨r0,by omega⟩,Z,U⟩ (fun t1=>?_) fun t1=>?_
   ·exact lT Z U Z ⟨⟨_,Z,fun _=>trivial⟩,c0.fin⟩
   refine lP0 Z ⟨by omega,U⟩ ⟨μk-1,by omega,Z,(k+1),(by omega),c0,Z⟩
  exact lT Z U Z ⟨⟨_,Z,fun _=>trivial⟩,c0.fin⟩
 exact lT Z U Z ⟨⟨_,Z,fun _=>trivial⟩,S.fin⟩
theorem u5c(p:j0a)(M:List Nat)(w0:World)(cs:List Value)(hP:a1a M w0 p cs):
 O0a prog 27 #[.agg cs.toArray] w0 fun v w'=>(∃b,v=.bool b∧(b=true→True))∧Bw w0 w':=by
 obtain⟨Ac,nc,cc,Am,nm,cm,Al,nl,cl,At,nt,ct,rfl,_,D0,o1,p1,_⟩:=hP.open_;have S:=St.refl w0;refine a0a func27 Z ntmps27 Z ?_;refine wO0 Z U (r0a S Z ?_);intro g1 w1 S1 X1 G1;refine lB S1.k [.o 0] Z ⟨Z,U⟩ (fun X0=>?_) fun X0=>?_
 ·exact lT Z U Z ⟨⟨_,Z,fun _=>trivial⟩,S1.fin⟩
 refine lB S1.k [.o 0] Z ⟨Z,U⟩ (fun Y0=>?_) fun Y0=>?_
 ·exact lT Z U Z ⟨⟨_,Z,fun _=>trivial⟩,S1.fin⟩
 refine lB S1.k [.o 0] Z ⟨Z,U⟩ (fun Z0=>?_) fun Z0=>?_
 ·exact lT Z U Z ⟨⟨_,Z,fun _=>trivial⟩,S1.fin⟩
 refine lB S1.k [.o 0] Z ⟨Z,U⟩ (fun a1=>?_) fun a1=>?_
 ·exact lT Z U Z ⟨⟨_,Z,fun _=>trivial⟩,S1.fin⟩
 refine lC0 Z U (wL (fun μk D ε w=>D=[]∧∃k:Nat,∃n:Int,(k+μk=(p.threads.length))∧(0≤n∧n≤24)∧St [] w0 w [(some g1,27,[.slice Ac nc cc,.slice Am nm cm,.slice Al nl cl,.slice At nt ct])]∧Sl ε [(1,.pointer (some ⟨g1,0,none⟩)),(3,.int .i64 n),(4,.int .i64 k)]) (μ:=(p.threads.length)) ⟨Z,0,0,by omega,by omega,S1,Z⟩ ?_);rintro μk D ε w ⟨rfl,k,n,hk,_,S,eZ⟩;refine wK eZ (wB S.k [.o 0] Z ⟨Z,U⟩ (fun b1=>?_) fun b1=>?_)
 ·obtain⟨th,U0,q1,_,_,z0,_,I0,F0,o0⟩:=RdS.get (p1) (k) (by omega);obtain⟨_,_,_,_,_,_,_,_,_,_,_,_,rfl,_⟩:=K0a.open_ o0;refine lO (S.k.a F0) [.o 0,.x U0 q1,.v 0] Z ⟨⟨Z,I0⟩,⟨z0,by omega⟩,Z,U⟩ (h0a S g7a Z Z ?_);intro g5 w5 S5 X5 G5;refine b0a (kk:=0) (vs:=[_,_,_,_,_,_,_]) S5 r7a Z Z Z Z Z Z Z ?_;intro u1 a0 R0;dsimp only[d0a,List.set] at a0;refine lB a0.k [.o 0] Z ⟨by omega,Z,U⟩ (fun c1=>?_) fun c1=>?_
  ·exact lT Z U Z ⟨⟨_,Z,fun _=>trivial⟩,a0.fin⟩
  refine lB a0.k [.o 0] Z ⟨Z,U⟩ (fun d1=>?_) fun d1=>?_
  ·exact lT Z U Z ⟨⟨_,Z,fun _=>trivial⟩,a0.fin⟩
  refine lB a0.k [.o 0] Z ⟨Z,U⟩ (fun f1=>?_) fun f1=>?_
  ·exact lT Z U Z ⟨⟨_,Z,fun _=>trivial⟩,a0.fin⟩
  refine lB a0.k [.o 0] Z ⟨Z,U⟩ (fun i1=>?_) fun i1=>?_
  ·exact lT Z U Z ⟨⟨_,Z,fun _=>trivial⟩,a0.fin⟩
  refine lO a0.k [.w 0] Z ⟨⟨Z,Z⟩,U⟩ (N5b a0 o1d Z Z (D2c th M _ _ (K0a.keep (a0.keep0 M) _ _ o0)) (fun y1 t1 r0 Q0=>?_) (fun t1 r0 Q0=>?_))
  ·refine lP0 Z ⟨by omega,U⟩ ⟨μk-1,by omega,Z,(k+1),(_),(by omega),(by omega),r0.tail,Z⟩
  exact lT Z U Z ⟨⟨_,Z,fun _=>trivial⟩,r0.fin⟩
 refine lC0 Z U (wL (fun μk D ε w=>D=[]∧∃k:Nat,(k+μk=(p.modules.length))∧St [] w0 w [(some g1,27,[.slice Ac nc cc,.slice Am nm cm,.slice Al nl cl,.slice At nt ct])]∧Sl ε [(1,.pointer (some ⟨g1,0,none⟩)),(6,.int .i64 k)]) (μ:=(p.modules.length)) ⟨Z,0,by omega,S,Z⟩ ?_);rintro μk D ε w ⟨rfl,k,hk,S,eZ⟩;refine wK eZ (wB S.k [.o 0] Z ⟨Z,U⟩ (fun j1=>?_) fun j1=>?_)
 ·obtain⟨mo,V0,r1,_,q0,A0,_,_,G0,J0⟩:=RdS.get (D0) (k) (by omega);obtain⟨_,_,_,_,_,_,_,_,_,rfl,E0,_⟩:=x0a.open_ J0;refine lO (S.k.a G0) [.o 0,.x V0 r1,.f 0 2] Z ⟨Z,⟨A0,by omega⟩,Z,U⟩ (f0a S L9a Z Z (y5a mo.rely M _ _ _ (RdE.keep (S.keep0 M) _ _ E0)) (fun m1 v1 c0 S0=>?_) (fun m1 v1 c0 S0=>?_))
  ·obtain⟨_,W0,s1,_,L0,B0,_,_,H0,K0⟩:=RdS.get (D0) (k) (by omega);obtain rfl:=Option.some.inj (q0.symm.trans L0);obtain⟨_,_,_,_,_,_,_,_,_,rfl,_,C0,_⟩:=x0a.open_ K0;refine lO (c0.k.a H0) [.o 0,.x W0 s1,.f 0 6] Z ⟨Z,⟨B0,by omega⟩,Z,U⟩ (f0a c0 L9a Z Z (y5a mo.guar M _ _ _ (RdE.keep (c0.keep0 M) _ _ C0)) (fun n1 x1 d0 T0=>?_) (fun n1 x1 d0 T0=>?_))
   ·obtain⟨_,t0,N0,_,p0,e0,_,_,i0,m0⟩:=RdS.get (D0) (k) (by omega);obtain rfl:=Option.some.inj (q0.symm.trans p0);obtain⟨_,_,_,_,_,_,_,_,_,rfl,_⟩:=x0a.open_ m0;refine lB (d0.k.a i0) [.o 0,.x t0 N0,.f 0 10] Z ⟨Z,⟨e0,by omega⟩,Z,U⟩ (fun v0=>?_) fun v0=>?_
    ·exact lT Z U Z ⟨⟨_,Z,fun _=>trivial⟩,d0.fin⟩
    refine lP0 Z ⟨by omega,U⟩ ⟨μk-1,by omega,Z,(k+1),(by omega),d0,Z⟩
   exact lT Z U Z ⟨⟨_,Z,fun _=>trivial⟩,d0.fin⟩
  exact lT Z U Z ⟨⟨_,Z,fun _=>trivial⟩,c0.fin⟩
 refine lC0 Z U (wL (fun μk D ε w=>D=[]∧∃k:Nat,(k+μk=(p.locks.length))∧St [] w0 w [(some g1,27,[.slice Ac nc cc,.slice Am nm cm,.slice Al nl cl,.slice At nt ct])]∧Sl ε [(1,.pointer (some ⟨g1,0,none⟩)),(7,.int .i64 k)]) (μ:=(p.locks.length)) ⟨Z,0,by omega,S,Z⟩ ?_);rintro μk D ε w ⟨rfl,k,hk,S,eZ⟩;refine wK eZ (wB S.k [.o 0] Z ⟨Z,U⟩ (fun x0=>?_) fun x0=>?_)
 ·obtain⟨lk,u0,O0,_,_,f0,_,_,j0,n0⟩:=RdS.get (o1) (k) (by omega);obtain⟨_,_,_,rfl,_,_,g0⟩:=O4a.open_ n0;refine lO (S.k.a j0) [.o 0,.x u0 O0,.f 0 1] Z ⟨Z,⟨f0,by omega⟩,Z,U⟩ (f0a S L9a Z Z (y5a lk.inv M _ _ _ (RdE.keep (S.keep0 M) _ _ g0)) (fun y0 P0 b0 s0=>?_) (fun y0 P0 b0 s0=>?_))
  ·refine lP0 Z ⟨by omega,U⟩ ⟨μk-1,by omega,Z,(k+1),(by omega),b0,Z⟩
  exact lT Z U Z ⟨⟨_,Z,fun _=>trivial⟩,b0.fin⟩
 exact lT Z U Z ⟨⟨_,Z,fun _=>trivial⟩,S.fin⟩
theorem H9c{a b:Int}(hb:0<b):∃k:Nat,a % b=k∧(k:Int)<b:=by
 have h0:=Int.emod_nonneg a (show b≠0 by omega);have h1:=Int.emod_lt_of_pos a hb;obtain⟨k,hk⟩:=Int.eq_ofNat_of_zero_le h0;exact⟨k,hk,by omega⟩
def F1c(p:j0a)(t k j:Nat)(bs:List Bool):Prop:=bs.length=p.modules.length∧∀m:Nat,m<p.modules.length→(bs.getD m false=true↔R3b p t k j (m:Int))
theorem F1c.zero{p:j0a}{t:Nat}:F1c p t 0 0 (List.replicate p.modules.length false):=by
 refine⟨by simp,fun m hm=>?_⟩;rw[List.getD_eq_getElem?_getD,List.getElem?_replicate,if_pos hm];exact⟨fun h=>(by cases h),fun h=>absurd h R3b.zero⟩
theorem F1c.step{p:j0a}{t k j:Nat}{bs:List Bool}{th:s1a}{s:Z0a}(h:F1c p t k j bs)(ht:p.threads[k]?=some th)(hs:th.steps[j]?=some s)(hm:0≤s.module_∧s.module_<p.modules.length):F1c p t k (j+1) (bs.set s.module_.toNat true):=by
 refine⟨by rw[List.length_set];exact h.1,fun m a0=>?_⟩;rw[R3b.step ht hs,←h.2 m a0];by_cases he:s.module_.toNat=m
 ·rw[List.getD_eq_getElem?_getD,he,List.getElem?_set_self (by rw[h.1];exact a0)];exact⟨fun _=>.inr (by omega),fun _=>rfl⟩
 ·rw[List.getD_eq_getElem?_getD,List.getElem?_set_ne he,←List.getD_eq_getElem?_getD];exact⟨.inl,fun hh=>hh.elim id fun hh=>absurd hh (by omega)⟩
theorem F1c.next{p:j0a}{t k:Nat}{bs:List Bool}{th:s1a}(h:F1c p t k th.steps.length bs)(ht:p.threads[k]?=some th)(hk:k≠t):F1c p t (k+1) 0 bs :=
 ⟨h.1,fun m hm=>(h.2 m hm).trans (R3b.next ht hk).symm⟩
theorem F1c.skip{p:j0a}{t k:Nat}{bs:List Bool}(h:F1c p t k 0 bs)(hk:k=t):F1c p t (k+1) 0 bs :=
 ⟨h.1,fun m hm=>(h.2 m hm).trans (R3b.skip hk).symm⟩
def moreW(p:j0a)(t:Nat)(l:List Int)(k:Nat):Int:=W1b (((List.range k).filter fun(c:Nat)=>!decide ((c:Int)∈l)&&(decide ((c:Int)∈(onE p t).sup 3)||decide ((c:Int)∈(onE p t).sup 2))).map fun(c:Nat)=>wAt p.cells (c:Int))
theorem s2b{i:Nat}:∀{s:List i1a} {v m:List Int},(∀a∈s,a.cell.toNat≠i)→(F5b s v m).getD i 0=m.getD i 0
 | [],_,_,_=>rfl
 | a::s,v,m,h=>by
   show(F5b s v (m.set a.cell.toNat (a.to.evl v v))).getD i 0=_
   rw[s2b fun b hb=>h b (List.mem_cons_of_mem _ hb),List.getD_eq_getElem?_getD,List.getElem?_set_ne (h a (by simp)),List.getD_eq_getElem?_getD]
theorem C5c{p:j0a}{e:E}(hv:e.valid p.cells true=true)(hw:e.w=1)(o n:List Int):(e.evl o n=1↔e.val o n=1)∧(e.evl o n≠0↔e.val o n=1):=by
 have h1:=(O2a hv).1;have he:e.evl o n=e.val o n:=by unfold E.evl;rw[if_pos h1]
 have hr:=i2a (O2a hv).2.1 o n;rw[hw] at hr;have h2:m2a (1:Int).toNat=2:=by decide
 rw[he];constructor<;>omega
theorem a2d{op unit:Int}(hu:unit=0∨unit=1){l:List E}(h:d3a op unit l≠zE):(d3a op unit l).w=1:=by
 rcases S9a (op:=op) hu l with h1|h1
 ·exact absurd h1 h
 ·exact h1.2
theorem G5c{p:j0a}(hp:p1a p){t i:Nat}{th:s1a}{s:Z0a}(a0:p.threads[t]?=some th)(b0:th.steps[i]?=some s):0≤s.module_∧s.module_<p.modules.length:=by
 have h:=((hp.thread a0).steps s (e0a b0)).mod;unfold K1a at h;exact h
theorem w8b{p:j0a}(hp:p1a p){m:Int}{f:List Int}(hf:r5a p m f):∀x∈f,0≤x∧x<p.cells.length:=fun x hx=>by
 obtain⟨_,a0,s,hs,_,h2,_⟩:=(hf.2 x).1 hx;obtain⟨t,ht,rfl⟩:=List.getElem_of_mem a0;exact u6a ((hp.threads t ht).steps s hs) h2
theorem J4b{p:j0a}(hp:p1a p){m:Int}{f:List Int}(hf:r5a p m f):f.length≤32:=b3b hf.1 fun c hc=>by have:=w8b hp hf c hc;have:=hp.ncells;omega
theorem b9c(p:j0a)(M:List Nat)(w0:World)(cs:List Value)(hP:a1a M w0 p cs)(hM:∀g∈M,g<w0.heap.size)(hN:S5a p):
 O0a prog 26 #[.agg cs.toArray] w0 fun v w'=>(∃b,v=.bool b∧(b=true→p1a p))∧Bw w0 w':=by
 obtain⟨_,_,_,_,_,_,_,_,_,_,_,_,rfl,-⟩:=hP.open_;have S:=St.refl w0;refine a0a func26 Z ntmps26 Z ?_;refine wO0 Z U (r0a S Z ?_);intro g1 w1 S1 X1 G1;refine lO S1.k [.w 0] Z ⟨⟨Z,Z⟩,U⟩ (o0a S1 w1d Z Z (d9b p M _ _ (hP.keep (S1.keep0 M)) (fun g hg=>Nat.lt_of_lt_of_le (hM g hg) S1.size) hN) ?_);rintro v8 w8 ⟨_,_,_,rfl,hv⟩ S8 X8;refine lB0 Z U (fun a0=>?_) fun a0=>?_
 ·exact lT Z U Z ⟨⟨_,Z,fun _=>hv a0⟩,S8.fin⟩
 exact lT Z U Z ⟨⟨_,Z,fun h=>by cases h⟩,S8.fin⟩
theorem e2c:∀(e:E) (d d':Int),d≤d'→e.good d=true→e.good d'=true:=by
 intro e
 induction e using E.induct with
 | _ e ih =>
   intro d d' hd h;rw[E.good_def] at h ⊢;simp only[Bool.and_eq_true,decide_eq_true_eq] at h ⊢;exact⟨⟨by omega,h.1.2⟩,(E.goods_iff _ _).2 fun k hk=>ih k hk _ _ (by omega) ((E.goods_iff _ _).1 h.2 k hk)⟩
def FrM(p:j0a)(k:Nat)(ms:List P0a):Prop:=ms.length=p.modules.length∧(∀(i:Nat) (m:P0a),i<k→p.modules[i]?=some m→∃f,r5a p i f∧ms[i]?=some ⟨m.name,m.owner,m.rely,v2a,f⟩)∧∀i:Nat,k≤i→ms[i]?=p.modules[i]?
theorem FrM.zero(p:j0a):FrM p 0 p.modules:=⟨Z,fun i m h=>absurd h (by omega),fun i _=>rfl⟩
theorem FrM.next{p:j0a}{k:Nat}{ms:List P0a}(h:FrM p k ms){m:P0a}(hm:p.modules[k]?=some m){f:List Int}(hf:r5a p k f):FrM p (k+1) (ms.set k ⟨m.name,m.owner,m.rely,v2a,f⟩):=by
 obtain⟨h1,h2,h3⟩:=h;have hk:=M2a hm;refine⟨by simpa using h1,fun i m' hi a0=>?_,fun i hi=>?_⟩
 ·by_cases e:i=k
  ·subst e;rw[hm] at a0;cases a0;exact⟨f,hf,List.getElem?_set_self (by omega)⟩
  ·obtain⟨s',h4,h5⟩:=h2 i m' (by omega) a0;exact⟨s',h4,by rw[List.getElem?_set_ne (fun h=>e h.symm)];exact h5⟩
 ·rw[List.getElem?_set_ne (by omega)];exact h3 i (by omega)
def frP(p:j0a)(ms:List P0a):j0a:=⟨p.cells,ms,p.locks,p.threads⟩
theorem O2c(cells:List I1a)(b:Bool)(t:Int):Y4a cells v2a b t:=by
 refine⟨?_,Z,?_⟩
 ·cases b<;>rfl
 ·intro x hx;have h3:v2a.sup 3=[]:=by kernel_rfl
  have h2:v2a.sup 2=[]:=by kernel_rfl
  rw[h3,h2] at hx;cases hx
section
variable {p:j0a} {ms:List P0a}
theorem w2c(h:FrM p p.modules.length ms){i:Nat}{x:P0a}(hx:ms[i]?=some x):∃m f,p.modules[i]?=some m∧r5a p i f∧x=⟨m.name,m.owner,m.rely,v2a,f⟩:=by
 have hi:i<p.modules.length:=by have:=M2a hx;have:=h.1;omega
 obtain⟨f,hf,he⟩:=h.2.1 i p.modules[i] hi (List.getElem?_eq_getElem hi);rw[hx] at he;cases he;exact⟨_,f,List.getElem?_eq_getElem hi,hf,Z⟩
theorem B1c(h:FrM p p.modules.length ms){t n:Int}{s:Z0a}(hs:G4a p t n s):G4a (frP p ms) t n s:=by
 have r:=hs.row;refine⟨hs.kind,hs.frm,hs.to,?_,hs.rel,hs.tgt,hs.guard,hs.set,hs.once,⟨r.guard,r.vals,r.cells,r.k1,r.k2,r.k3,r.k5,r.k6,r.k7⟩⟩;have:=hs.mod;unfold K1a at this ⊢;show 0≤s.module_∧s.module_<(ms.length:Int);rw[h.1];exact this
theorem S3b(h:FrM p p.modules.length ms){i:Int}(hi:K1a i p.modules.length):K1a i (frP p ms).modules.length:=by
 unfold K1a at *;show 0≤i∧i<(ms.length:Int);rw[h.1];exact hi
theorem R0d(hp:p1a p)(h:FrM p p.modules.length ms):p1a (frP p ms) where
 ncells:=hp.ncells
 nmodules:=by show ms.length≤6;rw[h.1];exact hp.nmodules
 nlocks:=hp.nlocks
 nthreads:=hp.nthreads
 cells c hc:=by
  have h1:=hp.cells c hc;exact⟨h1.name,h1.w,h1.init,h1.thread,S3b h h1.mod⟩
 cellNames:=hp.cellNames
 modules x hx:=by
  obtain⟨i,hi,rfl⟩:=List.getElem_of_mem hx;obtain⟨m,f,hm,hf,he⟩:=w2c h (List.getElem?_eq_getElem (show i<ms.length from hi));have h1:=hp.modules m (e0a hm);have a0:(frP p ms).modules[i]=⟨m.name,m.owner,m.rely,v2a,f⟩:=he;rw[a0];refine⟨h1.name,h1.owner,h1.rely,O2c _ _ _,fun x hx=>?_,hf.1⟩;obtain⟨_,b0,s,hs,_,h3,h4⟩:=(hf.2 x).1 hx;obtain⟨t,ht,rfl⟩:=List.getElem_of_mem b0;exact⟨u6a ((hp.threads t ht).steps s hs) h3,h4⟩
 moduleNames:=by
  have e:ms.map P0a.name=p.modules.map P0a.name:=by
   refine List.ext_getElem? fun i=>?_;rw[List.getElem?_map,List.getElem?_map];cases hx:ms[i]? with
   | none =>
     rw[List.getElem?_eq_none_iff] at hx;rw[List.getElem?_eq_none (by rw[←h.1];exact hx)]
   | some x =>
     obtain⟨m,f,hm,-,rfl⟩:=w2c h hx;rw[hm];rfl
  have h1:(p.modules.map P0a.name).Pairwise (·≠·):=List.pairwise_map.2 hp.moduleNames;rw[←e] at h1;exact List.pairwise_map.1 h1
 locks l hl:=by
  have h1:=hp.locks l hl;exact⟨h1.cell,S3b h h1.mod,h1.inv⟩
 lockCells:=hp.lockCells
 threads t ht:=by
  have h1:=hp.threads t ht;exact⟨h1.name,h1.points,h1.nsteps,h1.nloops,h1.asserts,h1.nmod,fun m hm=>S3b h (h1.modules m hm),h1.truth,fun s hs=>B1c h (h1.steps s hs),fun l hl=>⟨(h1.loops l hl).head,(h1.loops l hl).up,(h1.loops l hl).body,(h1.loops l hl).variant⟩⟩
 threadNames:=hp.threadNames
end
theorem L0c:∀(c:Fin 32) (w:Fin 8),b5a ⟨11,1,0,[⟨3,((w.1+1:Nat):Int),((c.1:Nat):Int),[]⟩,⟨2,((w.1+1:Nat):Int),((c.1:Nat):Int),[]⟩]⟩=true∧E.good ⟨11,1,0,[⟨3,((w.1+1:Nat):Int),((c.1:Nat):Int),[]⟩,⟨2,((w.1+1:Nat):Int),((c.1:Nat):Int),[]⟩]⟩ 2=true:=by decide +kernel
theorem b3c{p:j0a}(hp:p1a p){c:Int}(hc:0≤c∧c<p.cells.length):b5a (g4a p c)=true∧(g4a p c).good 2=true∧(g4a p c).cnt=3:=by
 have hw:=Z2b hp hc;have hn:=hp.ncells;obtain⟨c',a0⟩:=Int.eq_ofNat_of_zero_le hc.1;obtain⟨w',_⟩:=Int.eq_ofNat_of_zero_le (show 0≤wAt p.cells c-1 by omega);have h:=L0c ⟨c',by omega⟩ ⟨w',by omega⟩;have e1:wAt p.cells c=((w'+1:Nat):Int):=by omega
 refine⟨?_,?_,Z⟩
 ·unfold g4a;rw[e1,a0];exact h.1
 ·unfold g4a;rw[e1,a0];exact h.2
theorem Y1c:∀(es:List E) (acc:E) (d:Int),2≤d→acc.good d=true→acc.w=1→(∀e∈es,e.good 2=true∧e.w=1)→(es.foldl (jnE 5) acc).good (d+es.length)=true
 | [],acc,d,_,h,_,_=>by simpa using h
 | e::es,acc,d,hd,h,hw,he=>by
   have h1:=he e (by simp);have h2:(jnE 5 acc e).good (d+1)=true:=by
    rw[E.good_def];simp only[Bool.and_eq_true,decide_eq_true_eq];refine⟨⟨by omega,?_⟩,(E.goods_iff _ _).2 fun k hk=>?_⟩
    ·unfold E.shapeB;rw[decide_eq_true_eq];refine⟨by show(1:Int)≤1;omega,by show(1:Int)≤8;omega,.inr (.inr (.inr (.inl ⟨by show(5:Int)≤5;omega,by show(5:Int)≤10;omega,Z,Z,?_,?_⟩)))⟩
     ·show acc.w=1;exact hw
     ·show e.w=1;exact h1.2
    ·rw[show d+1-1=d by omega];simp only[jnE,List.mem_cons,List.not_mem_nil,or_false] at hk;rcases hk with rfl|rfl
     ·exact h
     ·exact e2c _ 2 d hd h1.1
   have h3:=Y1c es (jnE 5 acc e) (d+1) (by omega) h2 Z fun x hx=>he x (List.mem_cons_of_mem _ hx);rw[List.foldl_cons,show d+((e::es).length:Int)=d+1+(es.length:Int) by simp;omega];exact h3
theorem E9b{es:List E}(h:∀e∈es,e.cnt=3):E.cnts es=3*es.length:=by
 induction es with
 | nil=>rfl
 | cons e es ih =>
   simp only[E.cnts,List.length_cons];rw[h e (by simp),ih fun x hx=>h x (List.mem_cons_of_mem _ hx)];omega
theorem R3d{p:j0a}(hp:p1a p){m:P0a}(hg:m.guar=v2a):d3a 5 1 (m8a p m)≠zE:=by
 have hl:∀c∈C3c m.frame (ofL p (-1)),0≤c∧c<p.cells.length:=fun c hc=>by
  have:=V7a.1 (List.mem_filter.1 hc).1;exact⟨this.1,this.2.1⟩
 have hn:(C3c m.frame (ofL p (-1))).length≤32:=by
  refine Nat.le_trans (List.length_filter_le _ _) ?_;unfold ofL r3c;rw[List.length_map];refine Nat.le_trans (List.length_filter_le _ _) ?_;rw[List.length_range];exact hp.ncells
 obtain⟨cl,c0⟩:∃cl,cl=C3c m.frame (ofL p (-1)):=⟨_,Z⟩;have hk:T3a (m8a p m)=cl.map (g4a p):=by
  unfold m8a T3a;rw[hg,List.filter_cons_of_neg (by decide),←c0,List.filter_eq_self];intro e he;obtain⟨c,hc,rfl⟩:=List.mem_map.1 he;exact decide_eq_true (show(11:Int)≠1 by omega)
 have ha:(m8a p m).all b5a=true:=List.all_eq_true.2 fun e he=>by
  unfold m8a at he;rcases List.mem_cons.1 he with rfl|he
  ·rw[hg];decide
  ·obtain⟨c,hc,rfl⟩:=List.mem_map.1 he;exact(b3c hp (hl c hc)).1
 have hz:(m8a p m).any (fun e=>isC e (1-1))=false:=List.any_eq_false.2 fun e he=>by
  unfold m8a at he;rcases List.mem_cons.1 he with rfl|he
  ·rw[hg];decide
  ·obtain⟨c,hc,rfl⟩:=List.mem_map.1 he;unfold isC g4a;simp
 rw[←c0] at hl hn;have b0:(C4a 5 1 (cl.map (g4a p))).wf=true:=by
  cases hc:cl with
  | nil=>show(C4a 5 1 []).wf=true;decide
  | cons c cs =>
    have a0:∀x∈c::cs,b5a (g4a p x)=true∧(g4a p x).good 2=true∧(g4a p x).cnt=3:=fun x hx=>b3c hp (hl x (hc▸hx));unfold E.wf;rw[Bool.and_eq_true,decide_eq_true_eq];have d0:cs.length≤31:=by rw[hc] at hn;simp at hn;omega
    constructor
    ·rw[W2c (by simp),E9b fun e he=>by
      obtain⟨x,hx,rfl⟩:=List.mem_map.1 he;exact(a0 x hx).2.2]
     simp;omega
    ·have h1:=Y1c (cs.map (g4a p)) (g4a p c) 2 (by omega) (a0 c (by simp)).2.1 Z fun e he=>by
      obtain⟨x,hx,rfl⟩:=List.mem_map.1 he;exact⟨(a0 x (List.mem_cons_of_mem _ hx)).2.1,Z⟩
     exact e2c _ _ _ (by rw[List.length_map];omega) h1
 unfold d3a;rw[if_pos ha,hz,hk];simp only[Bool.false_eq_true,if_false];rw[if_pos b0];intro e;rw[e] at b0;exact absurd b0 (by decide)
theorem P2d{p:j0a}(hp:p1a p){ms:List P0a}(h:FrM p p.modules.length ms){c:o1a}(hb:A6a c){t i:Nat}{th:s1a}{s:Z0a}(a0:p.threads[t]?=some th)(c0:th.steps[i]?=some s){x:Y1a}(hx:x=⟨t,i,0⟩):(q2a (frP p ms) s.module_).evl c.mem (doC (frP p ms) 0 c x).mem=1:=by
 subst hx;have hq:=R0d hp h;have g0:=G5c hp a0 c0;have b0:0≤s.module_∧s.module_<(frP p ms).modules.length:=S3b h g0;obtain⟨md,f0,e0⟩:=k4b b0;obtain⟨_,_,_,hf,he⟩:=w2c h (show ms[s.module_.toNat]?=some md from f0);have d0:q2a (frP p ms) s.module_≠zE:=by
  unfold q2a;exact R3d hq (by rw[e0,he])
 rw[(C5c (j9b hq b0 d0) (a2d (.inr rfl) d0) _ _).1,z5c hq d0,e0,he];refine⟨?_,fun y h0 hy m0 i0=>?_⟩
 ·show v2a.val _ _=1
  unfold v2a;exact P0b _ _ _ _
 ·unfold o4c;rw[a3d hb (p:=frP p ms) a0 c0];have j0:=(hp.thread a0).steps s (e0a c0);rw[s2b fun a ha o0=>?_];have h1:=(j0.set a ha).1;unfold K1a at h1;have n0:a.cell=y:=by omega
  refine i0 ((hf.2 y).2 ⟨th,e0a a0,s,e0a c0,by omega,D3a.2 ⟨a,ha,n0⟩,m0⟩)
theorem T1c{M:List Nat}{w:World}{c:List Value}{m:P0a}(h:x0a M w c m):c.length=11∧∀u∈c,u.oneCell'=true:=by
 obtain⟨_,_,_,_,_,_,_,_,_,rfl,-⟩:=h.open_;exact⟨Z,by intro u hu;simp at hu;rcases hu with rfl|rfl|rfl|rfl|rfl|rfl|rfl|rfl|rfl|rfl|rfl<;>rfl⟩
theorem z8c{α:Type}{R:List Nat→World→List Value→α→Prop}{size:Nat}{M:List Nat}{w w':World}{G:Option Nat}{cs:List Value}{v:Value}{css:List (List Value)}{l:List α}(h:M8b size w' G cs v css)(hl:css.length=l.length)(he:∀(i:Nat) (x:α),l[i]?=some x→∃c,css[i]?=some c∧R (G.toList++M) w c x):y1a R size M w G cs v l:=by
 obtain⟨xs,_,q2,q3,q4⟩:=h;have hx:xs=css:=by
  refine List.ext_getElem? fun k=>?_;cases hk:css[k]? with
  | none=>rw[List.getElem?_eq_none_iff] at hk ⊢;omega
  | some x=>obtain⟨y,h5,h6⟩:=q4 k x hk;rw[h5,h6.1]
 subst hx;exact⟨xs,hl,q2,by rw[←hl];exact q3,he⟩
theorem S6b{M:List Nat}{w w':World}{c:List Value}{m:P0a}{v:Value}{l:List Int}(h:x0a M w c m)(hk:y0a M w w')(hf:RdI M w' v l):x0a M w' (d0a c 10 [v]) ⟨m.name,m.owner,m.rely,m.guar,l⟩:=by
 obtain⟨g0,g1,g2,g3,k0,k1,k2,k3,_,rfl,h1,h2,_⟩:=x0a.keep hk _ _ h;exact⟨g0,g1,g2,g3,k0,k1,k2,k3,v,Z,h1,h2,hf⟩
abbrev w3d:List Value:=[.int .i64 1,.int .i64 1,.int .i64 1,.slice none 0 0]
theorem n9b{M:List Nat}{w w':World}{c:List Value}{m:P0a}(h:x0a M w c m)(hk:y0a M w w'):x0a M w' (d0a c 6 w3d) ⟨m.name,m.owner,m.rely,v2a,m.frame⟩:=by
 obtain⟨g0,g1,g2,g3,_,_,_,_,vf,rfl,h1,_,h3⟩:=x0a.keep hk _ _ h;exact⟨g0,g1,g2,g3,_,_,_,_,vf,Z,h1,L1a (by unfold i64;omega) (by unfold i64;omega) (by unfold i64;omega),h3⟩
def E0d(m:Nat)(x:Int)(s:Z0a):Prop:=s.module_=m∧∃a∈s.set,a.cell=x
theorem x0d{p:j0a}{m:Nat}{f:List Int}(hf:r5a p m f){x:Int}(hx:x∈f){so:Bool}(h:so=false→∀th∈p.threads,∀s∈th.steps,¬E0d m x s):so=true:=by
 cases so with
 | true=>rfl
 | false =>
   obtain⟨th,a0,s,hs,h1,h2,-⟩:=(hf.2 x).1 hx;exact absurd ⟨h1,D3a.1 h2⟩ (h Z th a0 s hs)
theorem n1b(p:j0a)(E0:List Int)(w0:World)(cs:List Value)(vp:Value)(hP:a1a [] w0 p cs)(o5:S5a p)(hK:k2a [] w0)(hN:I7a [] w0)(L3:h4d [] w0 vp E0):
 O0a prog 6 #[.agg cs.toArray,vp] w0 fun v w'=>v=.bool true∧Bw w0 w':=by
 obtain⟨Ac,nc,cc,Am,nm,cm,Al,nl,cl,At,nt,ct,rfl,hC,n5,j5,Z1,_⟩:=hP.open_;obtain⟨Ar,nr,cr,rfl⟩:=L3.form;obtain⟨_,-,_⟩:=L3.len;obtain⟨x3,a1,a2,a3⟩:=RdS.raw (size:=11) n5 (fun _ _ h=>T1c h);have S:=St.refl w0;refine a0a func6 Z ntmps6 Z ?_;refine wO0 Z U (r0a S Z ?_);intro g2 w2 S2 X2 G2;refine lO0 Z U (W0a S2 a1d Z Z (j2c _ (hK.keep (S2.keep0 [])) (hN.keep (S2.keep0 []))) ?_);intro e6 h3 N5;refine lO h3.k [.w 0] Z ⟨⟨Z,Z⟩,U⟩ (N5b h3 J0d Z Z (u5c p [] _ _ (hP.keep (h3.keep0 []))) (fun R5 D5 I1 R4=>?_) (fun D5 I1 R4=>?_))
 ·refine lO I1.k [.w 0] Z ⟨⟨Z,Z⟩,U⟩ (N5b I1 K1d Z Z (b9c p [] _ _ (hP.keep (I1.keep0 [])) (by simp) o5) (fun b5 E5 N2 S4=>?_) (fun E5 N2 S4=>?_))
  ·have hI:InP p [] w0 [.slice Ac nc cc,.slice Am nm cm,.slice Al nl cl,.slice At nt ct]:=⟨hP,b5,hK,by simp⟩;have hp:=hI.ok;have q5:=hp.ncells;have U5:=hp.nthreads;have V5:=hp.nmodules;refine lO N2.k [.w 0] Z ⟨⟨Z,Z⟩,U⟩ (h0a N2 A1b Z Z ?_);intro g6 w6 S6 X6 G6;refine b0a (kk:=0) (vs:=[_,_,_,_]) S6 u1b Z Z Z Z Z Z Z ?_;intro F5 K1 T4;dsimp only[d0a,List.set] at K1;refine lO0 Z U (D7a K1 B5a Z ?_);intro Q5 h6 v1 O5 M5;refine lO v1.k [.o 2] Z ⟨Z,U⟩ ?_;refine g0b (J1c 11) (M2:=[]) (k:=0) v1 B5a Z y1a.new Z Z (RdS.keep a2 (v1.keep0 [])) (by simp;omega) Z ?_;intro v39 GM z4 J4 i3 R2 P5 L4;dsimp only[List.set] at i3;have i5:∀g∈GM.toList++[g6],w0.heap.size≤g:=fun g hg=>by
    have z:=v1.new 0 Z;have z6:=v1.new 1 Z;have z2:=v1.size;rcases List.mem_append.1 hg with hg|hg
    ·rcases L4 g hg with h|h
     ·simp at h z;omega
     ·omega
    ·rw[List.mem_singleton] at hg;subst hg;simpa using z6
   obtain⟨AM,cM,rfl⟩:=R2.form;rw[List.nil_append] at R2 ⊢;rw[show x3.length=nm by omega] at R2 ⊢;have n1:y1a x0a 11 [g6] J4 GM z4 (.slice AM nm cM) p.modules:=z8c R2 a1 (fun i x hi=>by
    obtain⟨c,h1,h2⟩:=a3 i x hi;exact⟨c,h1,x0a.keep (i3.keep0 _) _ _ (x0a.more (fun g hg=>.inr (i5 g hg)) _ _ h2)⟩)
   have KR:=y0a.refl (GM.toList++[g6]) J4;refine lO0 Z U (U0a (kk:=1) i3 t1d Z Z Z (by exact Nat.le_of_ble_eq_true Z) ?_);intro G5 j3 p3;replace KR:=KR.fresh2 p3 (by first  | exact .inr (by simp));refine lC0 Z U (wL (fun μm D ε w=>D=[]∧∃m:Nat,∃H0:List Value,∃ms:List P0a,(m+μm=(p.modules.length))∧(y1a x0a 11 [g6] w GM H0 (.slice AM nm cM) ms)∧(FrM p m ms)∧St [] w0 w [(GM,66,H0),(some g6,27,[.slice Ac nc cc,.slice AM nm cM,.slice Al nl cl,.slice At nt ct]),(some g2,27,[.slice Ac nc cc,.slice Am nm cm,.slice Al nl cl,.slice At nt ct])]∧Sl ε [(1,.slice Ar nr cr),(2,.pointer (some ⟨g2,0,none⟩)),(5,.bool true),(6,.pointer (some ⟨g6,0,none⟩)),(7,.int .i64 m)]) (μ:=(p.modules.length)) ⟨Z,0,z4,p.modules,by omega,y1a.keep x1a n1 KR,FrM.zero p,j3,Z⟩ ?_);rintro μm D ε w ⟨rfl,m,H0,ms,_,A2,T2,S,eZ⟩;refine wK eZ ?_;obtain⟨wm,E4⟩:∃x:World,x=w:=⟨_,Z⟩;have KR:y0a (GM.toList++[g6]) wm w:=E4▸y0a.refl _ _;have U0:y1a x0a 11 [g6] wm GM H0 (.slice AM nm cM) ms:=E4▸A2;have T5:=T2.1;refine wB S.k [.o 2] Z ⟨Z,U⟩ (fun c5=>?_) fun c5=>?_
   ·refine lO S.k [.w 2] Z ⟨⟨Z,Z⟩,U⟩ ?_;refine o0a S a6c Z Z ((P1b p m (by omega) [] _ _ (hI.keep (S.keep0 []))).mono (fun v w' ⟨⟨f,hf,hN⟩,hB⟩=>show(∃f,r5a p m f∧RdI (GM.toList++[g6]) w' v f)∧_ from⟨⟨f,hf,hN.rd (M:=GM.toList++[g6]) (fun g hg=>A4a (M:=[]) S (by simp) g (D5a 0 Z (S1b 1 Z) g hg)) (fun x hx=>by have:=w8b hp hf x hx;unfold i64;omega) hB (by have:=J4b hp hf;omega)⟩,hB⟩)) ?_;rintro v50 L2 ⟨f,hf,P2⟩ Q4 U4;replace KR:=KR.trans (U4.of_nil);obtain⟨Af,nf,cf,rfl⟩:=P2.form;have W5:=P2.len.1;have S5:=J4b hp hf;have KF:=y0a.refl (GM.toList++[g6]) L2;obtain⟨md,G4⟩:∃md,p.modules[m]?=some md:=⟨_,List.getElem?_eq_getElem (by omega)⟩;refine lC0 Z U (wL (fun μi D ε w=>D=[]∧∃i:Nat,(i+μi=(f.length))∧(y0a (GM.toList++[g6]) wm w)∧(y0a (GM.toList++[g6]) L2 w)∧St [] w0 w [(GM,66,H0),(some g6,27,[.slice Ac nc cc,.slice AM nm cM,.slice Al nl cl,.slice At nt ct]),(some g2,27,[.slice Ac nc cc,.slice Am nm cm,.slice Al nl cl,.slice At nt ct])]∧Sl ε [(1,.slice Ar nr cr),(2,.pointer (some ⟨g2,0,none⟩)),(5,.bool true),(6,.pointer (some ⟨g6,0,none⟩)),(7,.int .i64 m),(8,.slice Af nf cf),(9,.int .i64 i)]) (μ:=(f.length)) ⟨Z,0,by omega,KR,KF,Q4,Z⟩ ?_);rintro μi D ε w ⟨rfl,i,hi,KR,KF,S,eZ⟩;refine wK eZ (wB0 Z U (fun d5=>?_) fun d5=>?_)
    ·obtain⟨x,V2⟩:∃x,f[i]?=some x:=⟨_,List.getElem?_eq_getElem (by omega)⟩;refine lC0 Z U (wL (fun μt D ε w=>D=[]∧∃t:Nat,∃so:Bool,(t+μt=(p.threads.length))∧(so=false→∀th∈p.threads.take t,∀s∈th.steps,¬E0d m x s)∧(y0a (GM.toList++[g6]) wm w)∧(y0a (GM.toList++[g6]) L2 w)∧St [] w0 w [(GM,66,H0),(some g6,27,[.slice Ac nc cc,.slice AM nm cM,.slice Al nl cl,.slice At nt ct]),(some g2,27,[.slice Ac nc cc,.slice Am nm cm,.slice Al nl cl,.slice At nt ct])]∧Sl ε [(1,.slice Ar nr cr),(2,.pointer (some ⟨g2,0,none⟩)),(5,.bool true),(6,.pointer (some ⟨g6,0,none⟩)),(7,.int .i64 m),(8,.slice Af nf cf),(9,.int .i64 i),(10,.bool so),(11,.int .i64 t)]) (μ:=(p.threads.length)) ⟨Z,0,false,by omega,(by simp),KR,KF,S,Z⟩ ?_);rintro μt D ε w ⟨rfl,t,so,_,D4,KR,KF,S,eZ⟩;refine wK eZ (wB S.k [.o 2] Z ⟨Z,U⟩ (fun e5=>?_) fun e5=>?_)
     ·obtain⟨th,p0⟩:∃th,p.threads[t]?=some th:=⟨_,List.getElem?_eq_getElem (by omega)⟩;refine lC0 Z U (wL (fun μk D ε w=>D=[]∧∃k:Nat,∃W2:Bool,(k+μk=(th.steps.length))∧(W2=false→(∀th∈p.threads.take t,∀s∈th.steps,¬E0d m x s)∧∀s∈th.steps.take k,¬E0d m x s)∧(y0a (GM.toList++[g6]) wm w)∧(y0a (GM.toList++[g6]) L2 w)∧St [] w0 w [(GM,66,H0),(some g6,27,[.slice Ac nc cc,.slice AM nm cM,.slice Al nl cl,.slice At nt ct]),(some g2,27,[.slice Ac nc cc,.slice Am nm cm,.slice Al nl cl,.slice At nt ct])]∧Sl ε [(1,.slice Ar nr cr),(2,.pointer (some ⟨g2,0,none⟩)),(5,.bool true),(6,.pointer (some ⟨g6,0,none⟩)),(7,.int .i64 m),(8,.slice Af nf cf),(9,.int .i64 i),(10,.bool W2),(11,.int .i64 t),(12,.int .i64 k)]) (μ:=(th.steps.length)) ⟨Z,0,so,by omega,(fun h=>⟨D4 h,by simp⟩),KR,KF,S,Z⟩ ?_);rintro μk D ε w ⟨rfl,k,W2,hk,V3,KR,KF,S,eZ⟩;refine wK eZ ?_;obtain⟨_,W4,u5,_,X3,I3,_,_,O3,S3⟩:=RdS.get (Z1) (t) (by omega);obtain rfl:=Option.some.inj (p0.symm.trans X3);obtain⟨_,_,_,_,_,_,_,_,_,_,_,_,rfl,_⟩:=K0a.open_ S3;refine wB (S.k.a O3) [.o 2,.x W4 u5,.f 0 4] Z ⟨Z,⟨I3,by omega⟩,Z,U⟩ (fun f5=>?_) fun f5=>?_
      ·obtain⟨_,X4,v5,_,Y3,J3,_,_,P3,T3⟩:=RdS.get (Z1) (t) (by omega);obtain rfl:=Option.some.inj (p0.symm.trans Y3);obtain⟨_,_,_,_,_,_,_,_,_,_,_,_,rfl,_,_,_,Y1,_⟩:=K0a.open_ T3;obtain⟨s,Y4,w5,_,U2,K3,_,R3,Q3,U3⟩:=RdS.get (Y1) (k) (by omega);obtain⟨Z2,a4,v3,b3,b4,w3,rfl,⟨_,_⟩,_,g1,_⟩:=z1a.open_ U3;have X5:=C6b ((hp.thread p0).steps s (e0a U2));refine lO ((S.k.a Q3).a P3) [.o 2,.x X4 v5,.f 0 4,.x Y4 w5,.v 1] Z ⟨⟨Z,R3⟩,⟨K3,by omega⟩,Z,⟨J3,by omega⟩,Z,U⟩ (h0a S J3b Z Z ?_);intro A4 a6 M4 w4 s4;have D1:=Nat.le_trans KR.size s4;have z1:=Nat.le_trans KF.size s4;replace KR:=KR.trans (w4.of_nil);replace KF:=KF.trans (w4.of_nil);refine b0a (kk:=0) (vs:=[_,_,_,_,_,_,_,_,_,_,_]) M4 O3b Z Z Z Z Z Z Z ?_;intro n4 x0 z0;dsimp only[d0a,List.set] at x0;replace KR:=KR.fresh2 z0 (by exact .inl D1);replace KF:=KF.fresh2 z0 (by exact .inl z1);refine lC0 Z U (wL (fun μj D ε w=>D=[]∧∃j:Nat,∃Y2:Bool,(j+μj=(s.set.length))∧(Y2=false→((∀th∈p.threads.take t,∀s∈th.steps,¬E0d m x s)∧∀s∈th.steps.take k,¬E0d m x s)∧¬(s.module_=m∧∃a∈s.set.take j,a.cell=x))∧(y0a (GM.toList++[g6]) wm w)∧(y0a (GM.toList++[g6]) L2 w)∧St [] w0 w [(some A4,61,[.int .i64 s.kind,.int .i64 s.frm,.int .i64 s.to,.int .i64 s.guard.op,.int .i64 s.guard.w,.int .i64 s.guard.n,.slice Z2 a4 v3,.slice b3 b4 w3,.bool s.release,.int .i64 s.target,.int .i64 s.module_]),(GM,66,H0),(some g6,27,[.slice Ac nc cc,.slice AM nm cM,.slice Al nl cl,.slice At nt ct]),(some g2,27,[.slice Ac nc cc,.slice Am nm cm,.slice Al nl cl,.slice At nt ct])]∧Sl ε [(1,.slice Ar nr cr),(2,.pointer (some ⟨g2,0,none⟩)),(5,.bool true),(6,.pointer (some ⟨g6,0,none⟩)),(7,.int .i64 m),(8,.slice Af nf cf),(9,.int .i64 i),(10,.bool Y2),(11,.int .i64 t),(12,.int .i64 k),(13,.pointer (some ⟨A4,0,none⟩)),(14,.int .i64 j)]) (μ:=(s.set.length)) ⟨Z,0,W2,by omega,(fun h=>⟨V3 h,by simp⟩),KR,KF,x0,Z⟩ ?_);rintro μj D ε w ⟨rfl,j,Y2,_,x1,KR,KF,S,eZ⟩;refine wK eZ (wB S.k [.o 0] Z ⟨Z,U⟩ (fun g5=>?_) fun g5=>?_)
       ·refine lC0 Z U (H0a c0a [0,1,2,3,4,5,6,7,8,9,10,11,12,13,14,15,16,17,18,19,20] [] [] Z (Cl _ _ _ _) (Cl.start S) ?_);rcases(Bool.eq_false_or_eq_true (Y2)).symm with j1|j1
        ·subst j1;refine F1a (hv:=Z) (v:=.bool _) Z ?_;refine qB S.q [.o 0] Z ⟨Z,U⟩ (fun C4=>?_) fun C4=>?_
         ·obtain⟨a,q3,c4,_,t5,R1,_,_,b2,q2⟩:=RdS.get (g1) (j) (by omega);obtain⟨_,_,_,rfl,_⟩:=J0a.open_ q2;obtain⟨_,r3,d4,_,D2,T1,_,_,d2,r2⟩:=RdS.get (P2.keep KF) (i) (by omega);obtain rfl:=Option.some.inj (V2.symm.trans D2);obtain⟨rfl,_⟩:=id r2;refine qB ((S.q.b d2).a b2) [.o 0,.x q3 c4,.f 0 0,.x r3 d4,.f 1 0] Z ⟨Z,⟨T1,by omega⟩,Z,⟨R1,by omega⟩,Z,U⟩ (fun P1=>?_) fun P1=>?_
          ·refine qD Z U ?_;rintro s1 ⟨o0,d0⟩;replace KR:=KR.trans (d0.of_nil);replace KF:=KF.trans (d0.of_nil);refine lP0 Z ⟨by omega,U⟩ ⟨μj-1,by omega,Z,(j+1),(_),(by omega),?_,(KR),(KF),o0,Z⟩;intro h0;cases h0;done
          refine qD Z U ?_;rintro s1 ⟨o0,d0⟩;replace KR:=KR.trans (d0.of_nil);replace KF:=KF.trans (d0.of_nil);refine lP0 Z ⟨by omega,U⟩ ⟨μj-1,by omega,Z,(j+1),(_),(by omega),?_,(KR),(KF),o0,Z⟩;intro _;refine⟨(x1 Z).1,fun hh=>?_⟩;obtain⟨e,a2,M3,N3⟩:=hh
          (rw[t0a t5,List.mem_append,List.mem_singleton] at M3
           rcases M3 with h|rfl
           ·exact(x1 Z).2 ⟨e,a2,h,N3⟩
           ·exact P1 N3)
         refine qD Z U ?_;rintro s1 ⟨o0,d0⟩;replace KR:=KR.trans (d0.of_nil);replace KF:=KF.trans (d0.of_nil);refine lP0 Z ⟨by omega,U⟩ ⟨μj-1,by omega,Z,(j+1),(_),(by omega),?_,(KR),(KF),o0,Z⟩;intro _;refine⟨(x1 Z).1,fun hh=>?_⟩;obtain⟨e,a2,M3,N3⟩:=hh;exact C4 e
        subst j1;refine F1a (hv:=Z) (v:=.bool _) Z ?_;refine qD Z U ?_;rintro s1 ⟨o0,d0⟩;replace KR:=KR.trans (d0.of_nil);replace KF:=KF.trans (d0.of_nil);refine lP0 Z ⟨by omega,U⟩ ⟨μj-1,by omega,Z,(j+1),(_),(by omega),?_,(KR),(KF),o0,Z⟩;intro h0;cases h0;done
       refine lP0 Z ⟨by omega,U⟩ ⟨μk-1,by omega,Z,(k+1),(_),(by omega),?_,(KR),(KF),S.tail,Z⟩;intro h0;refine⟨(x1 h0).1.1,fun s2 B2=>?_⟩;rw[t0a U2,List.mem_append,List.mem_singleton] at B2;rcases B2 with h|rfl
       ·exact(x1 h0).1.2 s2 h
       ·have h5:=(x1 h0).2;rwa [List.take_of_length_le (by omega)] at h5
      refine lP0 Z ⟨by omega,U⟩ ⟨μt-1,by omega,Z,(t+1),(_),(by omega),?_,(KR),(KF),S,Z⟩;intro h0 x5 C2;rw[t0a p0,List.mem_append,List.mem_singleton] at C2;rcases C2 with h|rfl
      ·exact(V3 h0).1 x5 h
      ·have h5:=(V3 h0).2;rwa [List.take_of_length_le (by omega)] at h5
     have W3:so=true:=x0d hf (e0a V2) (fun h0=>by
      have h5:=D4 h0
      rwa [List.take_of_length_le (by omega)] at h5)
     subst W3;refine lOn 7 S.k [] Z U (N0a (hv:=Z) (v:=.bool _) Z ?_);refine lP0 Z ⟨by omega,U⟩ ⟨μi-1,by omega,Z,(i+1),(by omega),(KR),(KF),S,Z⟩
    obtain⟨_,S0,_,-,_⟩:=y1a.at U0 (by omega);have p2:ms[m]?=some md:=by rw[T2.2.2 m (Nat.le_refl _)];exact G4
    refine lC0 Z U (U8a c0a (fun i=>[0,1,2,3,4,5,6,8,9,11,12].contains i) (.op 0 (.op 1 (.op 2 (.op 3 (.op 4 (.op 5 (.op 6 (.op 7 (.op 8 (.op 9 (.op 10 (.op 11 (.op 12 (.op 13 .nil)))))))))))))) (clE S 0 GM.toList) ?_);have e0:=S.drew;have J0:y0a [] w w.drew:=o2a _ _;generalize w.drew=H5 at e0 J0 ⊢;have m0:y0a (GM.toList) _ _:=J0.of_nil;replace KR:=KR.trans J0.of_nil;replace KF:=KF.trans J0.of_nil;refine B1a ⟨St.er (e0) 0,m0⟩ Z Z Z ?_;refine u0a u8a Z Z ?_;refine i0a ?_;refine B1a ⟨St.er (e0) 0,m0⟩ Z Z Z ?_;refine k0a K8a Z (fun w1 hw=>by exact hw.1.cell 0 Z Z) Z ?_;refine i0a ?_;refine B1a ⟨St.er (e0) 0,m0⟩ Z Z Z ?_;refine F1a (hv:=Z) (v:=.int .i64 _) Z ?_;refine i0a ?_;refine B1a ⟨St.er (e0) 0,m0⟩ Z Z Z ?_;refine u0a u8a Z Z ?_;refine i0a ?_;refine B1a ⟨St.er (e0) 0,m0⟩ Z Z Z ?_;refine k0a K8a Z (fun w1 hw=>by exact hw.1.cell 0 Z Z) Z ?_;refine i0a ?_;refine B1a ⟨St.er (e0) 0,m0⟩ Z Z Z ?_;refine F1a (hv:=Z) (v:=.int .i64 _) Z ?_;refine i0a ?_;refine B1a ⟨St.er (e0) 0,m0⟩ Z Z Z ?_;refine F1a (hv:=Z) (v:=.slice _ _ _) Z ?_;refine i0a ?_;refine u2a ⟨St.er (e0) 0,m0⟩ Z Z Z ?_;refine W0a e0 o0c Z Z (k3b _) ?_;intro j4 I0 b1;have j0:=m0.trans (b1.mono (by simp));replace KR:=KR.trans (b1.of_nil);replace KF:=KF.trans (b1.of_nil);refine B0a ⟨Z,?_⟩;refine B1a ⟨St.er (I0) 0,j0⟩ Z Z Z ?_;refine q0a B5a.slT Z (by assumption) Z Z ?_;refine i0a ?_;refine B1a ⟨St.er (I0) 0,j0⟩ Z Z Z ?_;refine u0a X0c Z Z ?_;refine i0a ?_;refine u2a ⟨St.er (I0) 0,j0⟩ Z Z Z ?_;refine U0a (hy:=Z) (kk:=0) (v:=.slice Af nf cf) I0 y3b Z Z (by rw[←S0];rfl) (by omega) ?_;intro wa Sa Xa;rw[←S0] at Sa;have O2:=j0.trans (Xa.mono (by rw[S0];simp));have e3:y0a (GM.toList++[g6]) j4 wa:=Xa.mono (fun g hg=>by rw[S0];simp at hg ⊢;exact .inl hg);have m1:=y1a.put x1a U0 (i:=m) (j:=10) (us:=[.slice Af nf cf]) (o:=0+(m:Int).toNat*11+10) (x':=⟨md.name,md.owner,md.rely,md.guar,f⟩) p2 (by omega) (by simp) (by simp[Value.oneCell']) (fun c hc=>S6b hc (KR.trans e3) (P2.keep (KF.trans e3))) (KR.trans e3);refine B0a ⟨Z,?_⟩;refine B1a ⟨St.er (Sa) 0,O2⟩ Z Z Z ?_;refine q0a B5a.slT Z (by assumption) Z Z ?_;refine i0a ?_;refine B1a ⟨St.er (Sa) 0,O2⟩ Z Z Z ?_;refine u0a b2c Z Z ?_;refine i0a ?_;refine u2a ⟨St.er (Sa) 0,O2⟩ Z Z Z ?_;refine b0a (kk:=0) (vs:=w3d) Sa w0a Z Z Z Z Z (by rw[←S0];rfl) (by rw[Nat.ble_eq,List.length_set];omega) ?_;intro wb Sb Xb;rw[←S0] at Sb;have V4:=O2.trans (Xb.mono (by rw[S0];simp));have v4:y0a (GM.toList++[g6]) wa wb:=Xb.mono (fun g hg=>by rw[S0];simp at hg ⊢;exact .inl hg);have D0:=y1a.put x1a m1 (i:=m) (j:=6) (us:=w3d) (o:=0+(m:Int).toNat*11+6) (x':=⟨md.name,md.owner,md.rely,v2a,f⟩) (List.getElem?_set_self (by have:=M2a p2;omega)) (by omega) (by simp) (by intro u hu;simp at hu;rcases hu with rfl|rfl<;>rfl) (fun c hc=>n9b hc v4) v4;rw[List.set_set] at D0;refine B0a ⟨Z,?_⟩;refine e3a ⟨St.er (Sb) 0,V4⟩ ?_;refine fP0 Z ⟨by omega,U⟩ ⟨μm-1,by omega,Z,(m+1),(_),(_),(by omega),(D0),(T2.next G4 hf),Sb,Z⟩
   refine lCn 6 S.k [] Z U ?_;have Q2:FrM p p.modules.length ms:=by have h:=T2;rwa [show m=p.modules.length by omega] at h
   have hq:=R0d hp Q2;have hQ:a1a [] w (frP p ms) [.slice Ac nc cc,.slice AM nm cM,.slice Al nl cl,.slice At nt ct]:=⟨_,_,_,_,Z,hC.keep (S.keep0 []),RdS.lessW (y1a.rd x1a A2 S (k:=0) Z (fun g hg hh=>by
    subst hg;rw[List.mem_singleton] at hh;exact S.ne 0 1 Z Z (by omega) hh) (Nat.le_trans (Nat.le_of_eq Q2.1) (by omega))) (by simp) (x0a.less (by simp)),RdS.keepW j5 (S.keep0 []) (O4a.keep (S.keep0 [])),RdS.keepW Z1 (S.keep0 []) (K0a.keep (S.keep0 []))⟩
   obtain⟨wq,F4⟩:∃x:World,x=w:=⟨_,Z⟩;have f1:InP (frP p ms) [] wq [.slice Ac nc cc,.slice AM nm cM,.slice Al nl cl,.slice At nt ct]:=F4▸⟨hQ,hq,hK.keep (S.keep0 []),by simp⟩;have KQ:y0a [] wq w:=F4▸y0a.refl _ _;refine wO S.k [.w 1] Z ⟨⟨Z,Z⟩,U⟩ (W0a S p2b Z Z (M5a (frP p ms) [] _ _ (f1.keep KQ).rd hq (f1.keep KQ).msk (by simp)) ?_);intro A5 G1 m3;replace KQ:=KQ.trans m3;refine lB0 Z U (fun y3=>by exfalso;omega) fun y3=>?_;refine lO G1.k [.w 1] Z ⟨⟨Z,Z⟩,U⟩ (o0a G1 A6c Z Z (X8a (frP p ms) [] _ _ (f1.keep KQ)) ?_);rintro y5 k4 ⟨_,rfl,hX⟩ f3 n3;replace KQ:=KQ.trans n3;obtain⟨_,_,_,Xa,_,_,Xb,_,_,rfl,_,-⟩:=hX.open_;have KX:=y0a.refl [] k4;refine h0a f3 R6b Z Z ?_;intro g18 b6 N4 x4 t4;have t0:=Nat.le_trans KQ.size t4;have L0:=Nat.le_trans KX.size t4;replace KQ:=KQ.trans x4;replace KX:=KX.trans x4;refine b0a (kk:=0) (vs:=[_,_,_]) N4 z1b Z Z Z Z Z Z Z ?_;intro H4 N0 P0;dsimp only[d0a,List.set] at N0;replace KQ:=KQ.fresh P0 (by exact t0);replace KX:=KX.fresh P0 (by exact L0);refine lC0 Z U ?_;refine wL (fun r4 D ε w=>D=[]∧∃i2:Nat,∃c:o1a,∃ys:List Value,(i2+r4=(E0.length))∧(Go.Fw.Good (frP p ms) 0 c)∧(Q1a [g18] w c ys)∧(y0a [] wq w)∧St [] w0 w [(some g18,71,ys),(GM,66,H0),(some g6,27,[.slice Ac nc cc,.slice AM nm cM,.slice Al nl cl,.slice At nt ct]),(some g2,27,[.slice Ac nc cc,.slice Am nm cm,.slice Al nl cl,.slice At nt ct])]∧Sl ε [(1,.slice Ar nr cr),(5,.bool true),(6,.pointer (some ⟨g6,0,none⟩)),(18,.pointer (some ⟨g18,0,none⟩)),(19,.int .i64 i2)]) (μ:=(E0.length)) ⟨Z,0,V1a (frP p ms),_,by omega,V9b hq,(hX.more (fun g (hg:g∈[g18])=>.inr (by rw[List.mem_singleton.1 hg];exact L0))).keep KX.of_nil,KQ,N0,Z⟩ ?_;rintro r4 D ε w ⟨rfl,i2,c,ys,_,hg,hY,KQ,S,eZ⟩;refine wK eZ ?_;obtain⟨Ua,ua,va,Ub,ub,vb,Uc,uc,vc,rfl,T0,-,-,_,-⟩:=hY.open_;have KY:=y0a.refl [g18] w;refine wB0 Z U (fun z3=>?_) fun z3=>?_
   ·refine lB0 Z U (fun A3=>?_) fun A3=>?_
    ·refine lO S.k [.w 2,.w 0] Z ⟨⟨Z,by rfl⟩,⟨Z,Z⟩,U⟩ (o0a S S5c Z Z (T4a (frP p ms) c [] _ _ _ (f1.keep KQ) ((hY.keep KY).less (by simp)) hg.1 (hg.2 Z)) ?_);rintro z5 m4 hE v0 M1;replace KQ:=KQ.trans M1;replace KY:=KY.trans (M1.of_nil);obtain⟨_,ne,_,rfl⟩:=hE.form;obtain⟨_,-,_⟩:=hE.len;have KE:=y0a.refl [] m4;refine lB0 Z U (fun B3=>?_) fun B3=>?_
     ·exact lT Z U Z ⟨Z,v0.fin⟩
     refine lB0 Z U (fun C3=>?_) fun C3=>?_
     ·exact lT Z U Z ⟨Z,v0.fin⟩
     obtain⟨pk,s3,e4,_,_,U1,_,_,e2,t2⟩:=RdS.get (L3) (i2) (by omega);obtain⟨rfl,_⟩:=t2;refine lO (v0.k.a e2) [.x s3 e4,.f 0 0] Z ⟨Z,⟨U1,by omega⟩,U⟩ (w0c Tryz.underlying5 Tryz.underlying3 Z Z ?_);rw[W2a (by unfold i64;omega)];refine lO0 Z U (Z3d Z Z (by omega) (by omega) Z ?_);obtain⟨k,hk,_⟩:=H9c (a:=pk) (b:=(ne:Int)) (by omega);rw[hk];obtain⟨x,t3,f4,_,V2,V1,_,o2,f2,u2⟩:=RdS.get (hE.keep KE.of_nil) (k) (by omega);obtain⟨rfl,_⟩:=u2;have o1:=e0a V2;obtain⟨tq,iq,th,s,Z3,r0,K0,_⟩:=I0c (hg.2 Z) o1;have r5:x.thread=(tq:Int):=by rw[Z3]
     have s5:x.step=(iq:Int):=by rw[Z3]
     have p0:p.threads[x.thread.toNat]?=some th:=by rw[r5,Int.toNat_natCast];exact r0
     have U2:th.steps[x.step.toNat]?=some s:=by rw[s5,Int.toNat_natCast];exact K0
     have Z5:tq<p.threads.length:=M2a r0;have Y5:=M2a K0;refine lO (v0.k.b f2) [.x t3 f4,.v 0] Z ⟨⟨Z,o2⟩,⟨V1,by omega⟩,U⟩ (h0a v0 V1d Z Z ?_);intro a5 c6 O4 y4 u4;have E1:=Nat.le_trans KY.size u4;have B1:=Nat.le_trans KQ.size u4;replace KQ:=KQ.trans y4;replace KY:=KY.trans (y4.of_nil);refine b0a (kk:=0) (vs:=[_,_,_]) O4 x2d Z Z Z Z Z Z Z ?_;intro p4 g0 A0;dsimp only[d0a,List.set] at g0;replace KQ:=KQ.fresh A0 (by exact B1);replace KY:=KY.fresh2 A0 (by exact .inl E1);refine lO g0.k [.w 3,.w 1,.w 0] Z ⟨⟨Z,by rfl⟩,⟨Z,by rfl⟩,⟨Z,Z⟩,U⟩ ?_;refine o0a g0 h2d Z Z (f6b (frP p ms) c x [g18] _ _ _ (InP.newL f1 KQ.of_nil (fun g hg=>.inr (by rw[List.mem_singleton.1 hg];exact t0)) (fun g hg=>by rw[List.mem_singleton.1 hg];exact g0.lt 1 Z)) (hY.keep KY) hg.1 (hg.2 Z) o1) ?_;rintro v171 J2 ⟨_,rfl,hZ⟩ g3 N1;replace KQ:=KQ.trans N1;replace KY:=KY.trans (N1.of_nil);have KN:=y0a.refl [g18] J2;obtain⟨Za,za,J5,Zb,zb,K5,Zc,zc,L5,rfl,X1,-,-,_,-⟩:=hZ.open_;refine lO0 Z U (h0a g3 R6b Z Z ?_);intro B4 d6 P4 o3 d3;have F1:=Nat.le_trans KY.size d3;have C1:=Nat.le_trans KQ.size d3;have A1:=Nat.le_trans KN.size d3;replace KQ:=KQ.trans o3;replace KY:=KY.trans (o3.of_nil);replace KN:=KN.trans (o3.of_nil);refine b0a (kk:=0) (vs:=[_,_,_]) P4 z1b Z Z Z Z Z Z Z ?_;intro I4 f0 B0;dsimp only[d0a,List.set] at f0;replace KQ:=KQ.fresh B0 (by exact C1);replace KY:=KY.fresh2 B0 (by exact .inl F1);replace KN:=KN.fresh2 B0 (by exact .inl A1);refine lC0 Z U (H0a c0a [0,1,2,3,4,5,6,7,8,9,10,11,12,13,14,15,16,17,18,19,20,21,22,23,24,25,26,27,28,29,30,31,32] [] [] Z (Cl _ _ _ _) (Cl.start f0) ?_);refine qB0 Z U (fun D3=>by exfalso;omega) fun D3=>?_;refine qB f0.q [.o 1] Z ⟨Z,U⟩ (fun E3=>by exfalso;omega) fun E3=>?_;refine qB f0.q [.o 1,.o 4] Z ⟨Z,Z,U⟩ (fun F3=>by exfalso;omega) fun F3=>?_;refine qB f0.q [.o 1] Z ⟨Z,U⟩ (fun G3=>by exfalso;omega) fun G3=>?_;obtain⟨_,u3,g4,_,E2,W1,_,_,j2,v2⟩:=RdS.get (Z1) (x.thread.toNat) (by omega);obtain rfl:=Option.some.inj (p0.symm.trans E2);obtain⟨_,_,_,_,_,_,_,_,_,_,_,_,rfl,_⟩:=K0a.open_ v2;refine qB (f0.q.a j2) [.o 1,.o 4,.o 1,.x u3 g4,.f 0 4] Z ⟨Z,⟨W1,by omega⟩,Z,Z,Z,U⟩ (fun H3=>by exfalso;omega) fun H3=>?_;refine qD Z U ?_;rintro t1 ⟨Z0,d1⟩;replace KQ:=KQ.trans d1;replace KY:=KY.trans (d1.of_nil);replace KN:=KN.trans (d1.of_nil);refine lCn 5 Z0.k [] Z U (wX (fun D ε w=>D=[]∧∃R0:Nat,∃V0:Option Addr,∃p1:Nat,∃q1:Nat,(RdE [] w (q2a (frP p ms) s.module_) [.int .i64 (q2a (frP p ms) s.module_).op,.int .i64 (q2a (frP p ms) s.module_).w,.int .i64 (q2a (frP p ms) s.module_).n,.slice V0 p1 q1])∧(y0a [] wq w)∧(y0a [g18] J2 w)∧(RdI [g18] w (.slice Ua ua va) c.mem)∧St [] w0 w [(some R0,38,[.int .i64 (q2a (frP p ms) s.module_).op,.int .i64 (q2a (frP p ms) s.module_).w,.int .i64 (q2a (frP p ms) s.module_).n,.slice V0 p1 q1]),(some B4,71,[.slice Za za J5,.slice Zb zb K5,.slice Zc zc L5]),(some a5,75,[.int .i64 x.thread,.int .i64 x.step,.int .i64 x.cell]),(some g18,71,[.slice Ua ua va,.slice Ub ub vb,.slice Uc uc vc]),(GM,66,H0),(some g6,27,[.slice Ac nc cc,.slice AM nm cM,.slice Al nl cl,.slice At nt ct]),(some g2,27,[.slice Ac nc cc,.slice Am nm cm,.slice Al nl cl,.slice At nt ct])]∧Sl ε [(1,.slice Ar nr cr),(5,.bool true),(6,.pointer (some ⟨g6,0,none⟩)),(18,.pointer (some ⟨g18,0,none⟩)),(19,.int .i64 i2),(22,.pointer (some ⟨B4,0,none⟩)),(24,.pointer (some ⟨R0,0,none⟩))]) ?_ ?_)
     ·have p5:0≤s.module_∧s.module_<p.modules.length:=G5c hp r0 K0;obtain⟨mm,p2⟩:=Int.eq_ofNat_of_zero_le p5.1;obtain⟨md,I2⟩:∃md,(frP p ms).modules[mm]?=some md:=⟨_,List.getElem?_eq_getElem (by show mm<ms.length;rw[Q2.1];omega)⟩;refine U8a c0a (fun i=>[0,1,2,3,4,5,6,7,8,9,10,11,12].contains i) (.op 0 (.op 1 (.op 2 (.op 3 (.op 4 (.op 5 (.op 6 (.op 7 (.op 8 (.op 9 (.op 10 (.op 11 (.op 12 (.two (.op 13 (.op 14 (.op 15 .nil))) (.op 14 (.op 13 (.op 15 .nil))))))))))))))))) (b6c Z0) ?_;have b0:=Z0.drew;have a0:y0a [] t1 t1.drew:=o2a _ _;generalize t1.drew=I5 at b0 a0 ⊢;replace KQ:=KQ.trans a0;replace KY:=KY.trans (a0.of_nil);replace KN:=KN.trans (a0.of_nil);refine B1a ⟨b0,a0⟩ Z Z Z ?_;refine C1a P4a Z (fun w1 hw=>hw.1.cells 4 Z) Z Z ?_;refine i0a ?_;refine B1a ⟨b0,a0⟩ Z Z Z ?_;refine u0a e8a Z Z ?_;refine i0a ?_;refine B1a ⟨b0,a0⟩ Z Z Z ?_;refine k0a D4b Z (fun w1 hw=>by exact hw.1.cell 4 Z Z) Z ?_;refine i0a ?_;refine B1a ⟨b0,a0⟩ Z Z Z ?_;refine u0a W1c Z Z ?_;refine i0a ?_;refine B1a ⟨b0,a0⟩ Z Z Z ?_;refine k0a D0a Z (fun w1 hw=>by exact hw.1.cell 1 Z Z) Z ?_;refine i0a ?_;refine B1a ⟨b0,a0⟩ Z Z Z ?_;obtain⟨_,_,_,_,F2,_,_,_,m2,x2⟩:=RdS.get (Z1) (x.thread.toNat) (by omega);obtain rfl:=Option.some.inj (p0.symm.trans F2);obtain⟨_,_,_,_,_,_,_,_,_,_,_,_,rfl,_,_,_,i1,_⟩:=K0a.open_ x2;refine q0a G8a.slT Z (by assumption) Z Z ?_;refine i0a ?_;refine B1a ⟨b0,a0⟩ Z Z Z ?_;refine u0a j0c Z Z ?_;refine i0a ?_;refine B1a ⟨b0,a0⟩ Z Z Z ?_;refine k0a I8b Z (fun w1 hw=>by exact hw.1.old (m2 _ _ Z)) Z ?_;refine i0a ?_;refine B1a ⟨b0,a0⟩ Z Z Z ?_;refine u0a c3c Z Z ?_;refine i0a ?_;refine B1a ⟨b0,a0⟩ Z Z Z ?_;refine k0a D0a Z (fun w1 hw=>by exact hw.1.cell 1 Z Z) Z ?_;refine i0a ?_;refine B1a ⟨b0,a0⟩ Z Z Z ?_;obtain⟨_,_,_,_,H2,_,_,_,n2,y2⟩:=RdS.get (i1) (x.step.toNat) (by omega);obtain rfl:=Option.some.inj (U2.symm.trans H2);obtain⟨_,_,_,_,_,_,rfl,⟨_,_⟩,_⟩:=z1a.open_ y2;refine q0a q2b.slT Z (by assumption) Z Z ?_;refine i0a ?_;refine B1a ⟨b0,a0⟩ Z Z Z ?_;refine u0a G2c Z Z ?_;refine i0a ?_;refine B1a ⟨b0,a0⟩ Z Z Z ?_;refine k0a D0a Z (fun w1 hw=>by exact hw.1.old (n2 _ _ Z)) Z ?_;refine i0a ?_;refine Z5a ?_ ?_
      ·refine u2a ⟨b0,a0⟩ Z Z Z ?_;refine o0a b0 Z9b Z Z ((by have z:=w8a (frP p ms) mm md I2 [] _ _ (f1.keep KQ);rw[←p2] at z;exact z)) ?_;rintro i4 K2 ⟨Z4,rfl,r1⟩ y0 i0;have c0:=a0.trans i0;replace KQ:=KQ.trans i0;replace KY:=KY.trans (i0.of_nil);replace KN:=KN.trans (i0.of_nil);have KD:=y0a.refl [] K2;obtain⟨V0,p1,q1,rfl,-⟩:=r1.cells;refine B0a ⟨Z,?_⟩;refine u2a ⟨y0,c0⟩ Z Z Z ?_;refine h0a y0 w1a Z Z ?_;intro R0 C5 u1 G0 F0;have u0:=Nat.le_trans KY.size F0;have q0:=Nat.le_trans KQ.size F0;have s0:=Nat.le_trans KN.size F0;have y1:=Nat.le_trans KD.size F0;have n0:=c0.trans G0;replace KQ:=KQ.trans G0;replace KD:=KD.trans G0;replace KY:=KY.trans (G0.of_nil);replace KN:=KN.trans (G0.of_nil);refine B0a ⟨Z,?_⟩;refine u2a ⟨u1.tail,n0⟩ Z Z Z ?_;refine b0a (kk:=0) (vs:=[_,_,_,_]) u1 w0a Z Z Z Z Z Z Z ?_;intro q4 J1 C0;have c1:=n0.freshL C0 (fun g hg=>.inl (by rw[List.mem_singleton.1 hg];exact Nat.le_trans c0.size F0));have X0:=KQ.fresh C0 q0;have W0:=KN.freshL C0 (fun g hg=>.inl (by rw[List.mem_singleton.1 hg];exact s0));have Y0:=KY.freshL C0 (fun g hg=>.inl (by rw[List.mem_singleton.1 hg];exact u0));have h4:RdE [] q4 (q2a (frP p ms) s.module_) [.int .i64 (q2a (frP p ms) s.module_).op,.int .i64 (q2a (frP p ms) s.module_).w,.int .i64 (q2a (frP p ms) s.module_).n,.slice V0 p1 q1]:=by
        exact RdE.keep (KD.fresh C0 y1).of_nil _ _ r1
       refine B0a ⟨Z,?_⟩;refine e3a ⟨J1.tail,c1⟩ ?_;refine fP0 Z U ⟨Z,(R0),(_),(_),(_),(h4),(X0),(W0),(T0.keep Y0),J1,Z⟩
      refine u2a ⟨b0,a0⟩ Z Z Z ?_;refine h0a b0 w1a Z Z ?_;intro R0 C5 u1 G0 F0;have u0:=Nat.le_trans KY.size F0;have q0:=Nat.le_trans KQ.size F0;have s0:=Nat.le_trans KN.size F0;have n0:=a0.trans G0;replace KQ:=KQ.trans G0;replace KY:=KY.trans (G0.of_nil);replace KN:=KN.trans (G0.of_nil);refine B0a ⟨Z,?_⟩;refine u2a ⟨u1.tail,n0⟩ Z Z Z ?_;refine o0a u1 Z9b Z Z ((by have z:=w8a (frP p ms) mm md I2 (R0::[]) _ _ (InP.newL f1 KQ.of_nil (fun g hg=>.inr (by rw[List.mem_singleton.1 hg];exact q0)) (fun g hg=>by rw[List.mem_singleton.1 hg];exact u1.lt 0 Z));rw[←p2] at z;exact z)) ?_;rintro i4 K2 ⟨Z4,rfl,r1⟩ y0 i0;have c0:=n0.trans i0;replace KQ:=KQ.trans i0;replace KY:=KY.trans (i0.of_nil);replace KN:=KN.trans (i0.of_nil);obtain⟨V0,p1,q1,rfl,-⟩:=r1.cells;refine B0a ⟨Z,?_⟩;refine u2a ⟨y0.tail,c0⟩ Z Z Z ?_;refine b0a (kk:=0) (vs:=[_,_,_,_]) y0 w0a Z Z Z Z Z Z Z ?_;intro q4 J1 C0;have c1:=c0.freshL C0 (fun g hg=>.inl (by rw[List.mem_singleton.1 hg];exact Nat.le_trans a0.size F0));have X0:=KQ.fresh C0 q0;have W0:=KN.freshL C0 (fun g hg=>.inl (by rw[List.mem_singleton.1 hg];exact s0));have Y0:=KY.freshL C0 (fun g hg=>.inl (by rw[List.mem_singleton.1 hg];exact u0));have h4:RdE [] q4 (q2a (frP p ms) s.module_) [.int .i64 (q2a (frP p ms) s.module_).op,.int .i64 (q2a (frP p ms) s.module_).w,.int .i64 (q2a (frP p ms) s.module_).n,.slice V0 p1 q1]:=by
       exact RdE.less (by simp) _ _ (RdE.keep C0 _ _ r1)
      refine B0a ⟨Z,?_⟩;refine e3a ⟨J1.tail,c1⟩ ?_;refine fP0 Z U ⟨Z,(R0),(_),(_),(_),(h4),(X0),(W0),(T0.keep Y0),J1,Z⟩
     rintro D ε w ⟨rfl,R0,V0,p1,q1,r1,KQ,KN,m5,S,eZ⟩;refine wK eZ ?_;have KU:=y0a.refl [] w;refine wO S.k [.w 0,.o 3,.o 1] Z ⟨Z,Z,⟨Z,by rfl⟩,U⟩ (W0a S d5b Z Z (S0b (q2a (frP p ms) s.module_) [] _ _ _ _ c.mem (doC (frP p ms) 0 c x).mem (RdE.keep KU _ _ r1) (hK.keep (S.keep0 [])) (m5.less (by simp)) ((X1.keep KN).less (by simp))) ?_);intro B5 H1 O1;replace KQ:=KQ.trans O1;replace KN:=KN.trans (O1.of_nil);refine lB0 Z U (fun Q1=>by exact absurd (P2d hp Q2 (hg.2 Z) r0 K0 Z3) Q1) (fun Q1=>?_);refine lO H1.k [.w 1] Z ⟨⟨Z,by rfl⟩,U⟩ (b0a (kk:=3) (vs:=[_,_,_]) H1 z1b Z Z Z Z Z Z Z ?_);intro K4 O0 Q0;dsimp only[d0a,List.set] at O0;replace KQ:=KQ.fresh Q0 (by exact t0);replace KN:=KN.fresh2 Q0 (by exact .inr (by simp));refine lP0 Z ⟨by omega,U⟩ ⟨r4-1,by omega,Z,(i2+1),(doC (frP p ms) 0 c x),(_),(by omega),(W9c hq hg o1),(hZ.keep KN),(KQ),O0.tail.tail.tail,Z⟩
    exact lT Z U Z ⟨Z,S.fin⟩
   exact lT Z U Z ⟨Z,S.fin⟩
  exact lT Z U Z ⟨Z,N2.fin⟩
 exact lT Z U Z ⟨Z,I1.fin⟩
end Go.Fw
