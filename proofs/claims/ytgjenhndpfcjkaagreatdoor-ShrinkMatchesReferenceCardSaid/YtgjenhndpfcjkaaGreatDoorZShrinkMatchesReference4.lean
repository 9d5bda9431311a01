/-
  Part 4 of 9 of the proof of ShrinkMatchesReference: what it leans on. No conditions.
-/
import Derived.Test.YtgjenhndpfcjkaaGreatDoorZShrinkMatchesReference3
import Derived.Laws.OwnMore
set_option maxRecDepth 100000
set_option maxHeartbeats 4000000
namespace Go.Proofs.YtgjenhndpfcjkaaGreatDoor
end Go.Proofs.YtgjenhndpfcjkaaGreatDoor
namespace Go.Fw
open Go.Proofs.YtgjenhndpfcjkaaGreatDoor Go.Proofs Go.RowKit Tryz
def Z2c(M:List Nat)(w0 w:World)(c:E0a)(v:Value):Prop :=
 ∃(Gm Ga:Option Nat) (csm csa:LV) (vm va:Value) (gb:Nat) (rows:List Ent) (vs:LV),v=.agg #[vm,va,.slice (some ⟨gb,0,none⟩) c.buf.length c.buf.length]∧E3a Gm 1 c.mem.length csm vm (c.mem.map (Value.int .i64))∧E3a Ga 1 c.at_.length csa va (c.at_.map (Value.int .i64)) ∧
  St [] w0 w ([(some gb,189,vs),(Ga,3,csa),(Gm,3,csm)]++rows)∧d3a 278 (Gm.toList++(Ga.toList++(gb::M))) w rows vs c.buf
theorem B7a{M:List Nat}{w0 w:World}{L:List Ent}(S:St M w0 w L){G:Option Nat}{t:TypeId}{cs:LV}{k:Nat}(hk:L[k]?=some (G,t,cs)):∀g∈G.toList,g<w.heap.size:=fun g hg=>by
 have:G=some g:=by cases G<;>simp at hg ⊢;exact hg.symm
 subst this;exact S.lt k hk
theorem u5b(Mx M:List Nat)(w0:World)(v:Value)(l:List Int)(hR:RdI M w0 v l)(hM:∀g∈Mx,g<w0.heap.size)(hl:l.length≤100000000:=by omega):
 M0a prog 145 #[v] w0 fun v w'=>RdI Mx w' v l∧Below w0.heap.size w0 w' :=
 (I9a (hl:=hl) M w0 v l hR).mono fun _ _ h=>⟨h.1.rd hM hR.i64s h.2 (by omega),h.2⟩
theorem F8b(p:g0a)(hp:q1a p)(c:E0a)(M:List Nat)(w0:World)(hM:∀g∈M,g<w0.heap.size)(xs:LV)(hX:B0a M w0 c xs)(hf:U5a p c):
 M0a prog 287 #[.agg xs.toArray] w0 fun v w'=>Z2c M w0 w' c v∧Bw w0 w':=by
 obtain⟨Xm,xm,ym,Xa,xa,ya,Xb,xb,yb,rfl,u1,j2,r1,_,_,N1,_⟩:=hX.open_;have S:=St.refl w0;have f1:=hf.mem.len;have f2:=hf.nat;have n1:=hp.ncells;have n2:=hp.nthreads;have f3:=hf.nbuf;refine a0a func287 Z ntmps287 Z ?_;refine wO1 Z (i0a S Z ?_);intro g1 w1 S1 X1 G1;refine m0a S1 t4a Z Z ?_;intro g2 w2 S2 X2 G2;refine lC1 Z (o8b b0a (by kernel_rfl) (fun f ε w=>ε 1=.pointer (some ⟨g1,0,none⟩)∧ε 2=.pointer (some ⟨g2,0,none⟩)∧∃e0 E9 E5 E2:Ent,St [] w0 w [e0,E9,E5,E2,(some g2,71,[.slice none 0 0,.slice none 0 0,.slice none 0 0]),(some g1,71,[.slice Xm xm ym,.slice Xa xa ya,.slice Xb xb yb])]∧(f 0=true→ε 8=.pointer (some ⟨g1,0,none⟩))∧(f 1=true→ε 9=.slice Xm xm ym)∧(f 2=true→∃G cs A n c',ε 10=.slice A n c'∧E2=(G,3,cs)∧E3a G 1 c.mem.length cs (.slice A n c') (c.mem.map (Value.int .i64)))∧(f 3=true→ε 11=.pointer (some ⟨g1,1,none⟩))∧(f 4=true→ε 12=.slice Xa xa ya)∧(f 5=true→∃G cs A n c',ε 13=.slice A n c'∧E5=(G,3,cs)∧E3a G 1 c.at_.length cs (.slice A n c') (c.at_.map (Value.int .i64)))∧(f 6=true→ε 14=.pointer (some ⟨g1,2,none⟩))∧(f 7=true→ε 15=.slice Xb xb yb)∧(f 8=true→ε 16=.int .i64 xb)∧(f 9=true→∃g,ε 17=.slice (some ⟨g,0,none⟩) xb xb∧E9=(some g,189,List.replicate xb (.slice none 0 0)))∧(f 10=true→(f 2=true∧f 5=true∧f 9=true)∧ε 18=.agg #[ε 10,ε 13,ε 17])∧(f 11=true→f 12=false→∃g,ε 3=.pointer (some ⟨g,0,none⟩)∧e0=(some g,71,[.slice none 0 0,.slice none 0 0,.slice none 0 0]))∧(f 12=true→(∀k,k<12→f k=true)∧∃g,ε 3=.pointer (some ⟨g,0,none⟩)∧e0=(some g,71,[ε 10,ε 13,ε 17]))) ?_ ?_ ?_)
 ·exact⟨Z,Z,(none,0,[]),(none,0,[]),(none,0,[]),(none,0,[]),((((S2.drew.nilEnt 0).nilEnt 0).nilEnt 0).nilEnt 0),by simp,by simp,by simp,by simp,by simp,by simp,by simp,by simp,by simp,by simp,by simp,by simp,by simp⟩
 ·rintro f ε w i o ⟨e1,e2,e0,E9,E5,E2,S,h0,h1,h2,h3,h4,h5,h6,h7,h8,h9,b0,n0,g0⟩ ho f0 o0;have hi:i<13:=(List.getElem?_eq_some_iff.1 ho).1;refine a1a 1 e1 (a1a 2 e2 ?_);rcases(show i=0∨i=1∨i=2∨i=3∨i=4∨i=5∨i=6∨i=7∨i=8∨i=9∨i=10∨i=11∨i=12 by omega) with rfl|rfl|rfl|rfl|rfl|rfl|rfl|rfl|rfl|rfl|rfl|rfl|rfl
  ·cases ho;refine v4a Z3b Z Z ?_;refine D0a ⟨Z,Z,Z,e0,E9,E5,E2,S,fun _=>rfl,h_ h1,h_ h2,h_ h3,h_ h4,h_ h5,h_ h6,h_ h7,h_ h8,h_ h9,fun hh=>have z:=b0 (by simpa using hh);⟨⟨by simp[z.1.1],by simp[z.1.2.1],by simp[z.1.2.2]⟩,z.2⟩,fun hh d0=>n0 (by simpa using hh) (by simpa using d0),fun hh=>absurd ((g0 (by simpa using hh)).1 0 (by omega)) (by simp[f0])⟩
  ·cases ho;refine a1a 8 (h0 (o0 0 (by decide))) ?_;refine v0a z3a Z (S.cell 5 Z Z) Z ?_;refine D0a ⟨Z,Z,Z,e0,E9,E5,E2,S,fun _=>rfl,fun _=>rfl,h_ h2,h_ h3,h_ h4,h_ h5,h_ h6,h_ h7,h_ h8,h_ h9,fun hh=>have z:=b0 (by simpa using hh);⟨⟨by simp[z.1.1],by simp[z.1.2.1],by simp[z.1.2.2]⟩,z.2⟩,fun hh d0=>n0 (by simpa using hh) (by simpa using d0),fun hh=>absurd ((g0 (by simpa using hh)).1 1 (by omega)) (by simp[f0])⟩
  ·cases ho;refine a1a 9 (h1 (o0 1 (by decide))) ?_;refine O2a D2b Z Z (I9a M _ _ c.mem (u1.keep (S.keep0 M))) ?_;rintro v w1 ⟨hN,hB⟩;obtain⟨G,A0,R1,S1⟩:=hN.open_ (S.later hB) S;obtain⟨A,n,c',rfl⟩:=R1.form;refine D0a ⟨Z,Z,Z,e0,E9,E5,(G,3,A0),S1.place 3,h_ h0,fun _=>rfl,fun _=>⟨G,A0,A,n,c',Z,Z,R1⟩,h_ h3,h_ h4,h_ h5,h_ h6,h_ h7,h_ h8,h_ h9,fun hh=>absurd (b0 (by simpa using hh)).1.1 (by simp[f0]),fun hh d0=>n0 (by simpa using hh) (by simpa using d0),fun hh=>absurd ((g0 (by simpa using hh)).1 2 (by omega)) (by simp[f0])⟩
  ·cases ho;refine v4a T4b Z Z ?_;refine D0a ⟨Z,Z,Z,e0,E9,E5,E2,S,h_ h0,h_ h1,h_ h2,fun _=>rfl,h_ h4,h_ h5,h_ h6,h_ h7,h_ h8,h_ h9,fun hh=>have z:=b0 (by simpa using hh);⟨⟨by simp[z.1.1],by simp[z.1.2.1],by simp[z.1.2.2]⟩,z.2⟩,fun hh d0=>n0 (by simpa using hh) (by simpa using d0),fun hh=>absurd ((g0 (by simpa using hh)).1 3 (by omega)) (by simp[f0])⟩
  ·cases ho;refine a1a 11 (h3 (o0 3 (by decide))) ?_;refine v0a z3a Z (S.cell 5 Z Z) Z ?_;refine D0a ⟨Z,Z,Z,e0,E9,E5,E2,S,h_ h0,h_ h1,h_ h2,fun _=>rfl,fun _=>rfl,h_ h5,h_ h6,h_ h7,h_ h8,h_ h9,fun hh=>have z:=b0 (by simpa using hh);⟨⟨by simp[z.1.1],by simp[z.1.2.1],by simp[z.1.2.2]⟩,z.2⟩,fun hh d0=>n0 (by simpa using hh) (by simpa using d0),fun hh=>absurd ((g0 (by simpa using hh)).1 4 (by omega)) (by simp[f0])⟩
  ·cases ho;refine a1a 12 (h4 (o0 4 (by decide))) ?_;refine O2a D2b Z Z (I9a M _ _ c.at_ (j2.keep (S.keep0 M))) ?_;rintro v w1 ⟨hN,hB⟩;obtain⟨G,A0,R1,S1⟩:=hN.open_ (S.later hB) S;obtain⟨A,n,c',rfl⟩:=R1.form;refine D0a ⟨Z,Z,Z,e0,E9,(G,3,A0),E2,S1.place 2,h_ h0,h_ h1,h_ h2,h_ h3,fun _=>rfl,fun _=>⟨G,A0,A,n,c',Z,Z,R1⟩,h_ h6,h_ h7,h_ h8,h_ h9,fun hh=>absurd (b0 (by simpa using hh)).1.2.1 (by simp[f0]),fun hh d0=>n0 (by simpa using hh) (by simpa using d0),fun hh=>absurd ((g0 (by simpa using hh)).1 5 (by omega)) (by simp[f0])⟩
  ·cases ho;refine v4a d4a Z Z ?_;refine D0a ⟨Z,Z,Z,e0,E9,E5,E2,S,h_ h0,h_ h1,h_ h2,h_ h3,h_ h4,h_ h5,fun _=>rfl,h_ h7,h_ h8,h_ h9,fun hh=>have z:=b0 (by simpa using hh);⟨⟨by simp[z.1.1],by simp[z.1.2.1],by simp[z.1.2.2]⟩,z.2⟩,fun hh d0=>n0 (by simpa using hh) (by simpa using d0),fun hh=>absurd ((g0 (by simpa using hh)).1 6 (by omega)) (by simp[f0])⟩
  ·cases ho;refine a1a 14 (h6 (o0 6 (by decide))) ?_;refine v0a m4a Z (S.cell 5 Z Z) Z ?_;refine D0a ⟨Z,Z,Z,e0,E9,E5,E2,S,h_ h0,h_ h1,h_ h2,h_ h3,h_ h4,h_ h5,fun _=>rfl,fun _=>rfl,h_ h8,h_ h9,fun hh=>have z:=b0 (by simpa using hh);⟨⟨by simp[z.1.1],by simp[z.1.2.1],by simp[z.1.2.2]⟩,z.2⟩,fun hh d0=>n0 (by simpa using hh) (by simpa using d0),fun hh=>absurd ((g0 (by simpa using hh)).1 7 (by omega)) (by simp[f0])⟩
  ·cases ho;refine a1a 15 (h7 (o0 7 (by decide))) ?_;refine y0d A3a.slT Z Z ?_;refine D0a ⟨Z,Z,Z,e0,E9,E5,E2,S,h_ h0,h_ h1,h_ h2,h_ h3,h_ h4,h_ h5,h_ h6,fun _=>rfl,fun _=>rfl,h_ h9,fun hh=>have z:=b0 (by simpa using hh);⟨⟨by simp[z.1.1],by simp[z.1.2.1],by simp[z.1.2.2]⟩,z.2⟩,fun hh d0=>n0 (by simpa using hh) (by simpa using d0),fun hh=>absurd ((g0 (by simpa using hh)).1 8 (by omega)) (by simp[f0])⟩
  ·cases ho;refine a1a 16 (h8 (o0 8 (by decide))) ?_;refine x6b (n:=xb) (c:=xb) S A3a Z Z Z Z ?_;intro g w1 S1 X1 G1;refine D0a ⟨Z,Z,Z,e0,(some g,189,List.replicate xb (.slice none 0 0)),E5,E2,S1.place 1,h_ h0,h_ h1,h_ h2,h_ h3,h_ h4,h_ h5,h_ h6,h_ h7,fun _=>rfl,fun _=>⟨g,Z,Z⟩,fun hh=>absurd (b0 (by simpa using hh)).1.2.2 (by simp[f0]),fun hh d0=>n0 (by simpa using hh) (by simpa using d0),fun hh=>absurd ((g0 (by simpa using hh)).1 9 (by omega)) (by simp[f0])⟩
  ·cases ho;obtain⟨G2,cs2,A2,n2,c2,q2,r2⟩:=h2 (o0 2 (by decide));obtain⟨G5,j1,A5,n5,c5,q5,r5⟩:=h5 (o0 5 (by decide));obtain⟨g9,q9,r9⟩:=h9 (o0 9 (by decide));refine a1a 10 q2 (a1a 13 q5 (a1a 17 q9 ?_));refine e1a B5a (vs:=[(0,.slice _ _ _),(1,.slice _ _ _),(2,.slice _ _ _)]) (cs:=[_,_,_]) Z Z Z Z ?_;refine D0a ⟨Z,Z,Z,e0,E9,E5,E2,S,h_ h0,h_ h1,fun _=>⟨G2,cs2,A2,n2,c2,Z,r2⟩,h_ h3,h_ h4,fun _=>⟨G5,j1,A5,n5,c5,Z,r5⟩,h_ h6,h_ h7,h_ h8,fun _=>⟨g9,Z,r9⟩,fun _=>⟨⟨by simp[o0 2 (by decide)],by simp[o0 5 (by decide)],by simp[o0 9 (by decide)]⟩,Z⟩,fun hh d0=>n0 (by simpa using hh) (by simpa using d0),fun hh=>absurd ((g0 (by simpa using hh)).1 10 (by omega)) (by simp[f0])⟩
  ·cases ho;refine m0a S t4a Z Z ?_;intro g w1 S1 X1 G1;refine D0a ⟨Z,Z,Z,(some g,71,[.slice none 0 0,.slice none 0 0,.slice none 0 0]),E9,E5,E2,S1.place 0,h_ h0,h_ h1,h_ h2,h_ h3,h_ h4,h_ h5,h_ h6,h_ h7,h_ h8,h_ h9,fun hh=>have z:=b0 (by simpa using hh);⟨⟨by simp[z.1.1],by simp[z.1.2.1],by simp[z.1.2.2]⟩,z.2⟩,fun _ _=>⟨g,Z,Z⟩,fun hh=>absurd ((g0 (by simpa using hh)).1 11 (by omega)) (by simp[f0])⟩
  ·cases ho;have c0:∀k,k<12→f k=true:=fun k hk=>o0 k (by revert k;decide);obtain⟨g,q3,rfl⟩:=n0 (c0 11 (by omega)) f0;have S0:=(b0 (c0 10 (by omega))).2;obtain⟨G2,cs2,A2,n2,c2,q2,r2⟩:=h2 (c0 2 (by omega));obtain⟨G5,j1,A5,n5,c5,q5,r5⟩:=h5 (c0 5 (by omega));obtain⟨g9,q9,r9⟩:=h9 (c0 9 (by omega));rw[q2,q5,q9] at S0;refine a1a 10 q2 (a1a 13 q5 (a1a 17 q9 (a1a 3 q3 (a1a 18 S0 ?_))));refine f0a (kk:=0) (vs:=[_,_,_]) S n2a Z Z Z Z Z Z Z ?_;intro w1 S1 X1;dsimp only[o0a,List.set] at S1;refine D0a ⟨Z,Z,Z,(some g,71,[.slice A2 n2 c2,.slice A5 n5 c5,.slice (some ⟨g9,0,none⟩) xb xb]),E9,E5,E2,S1,h_ h0,h_ h1,fun _=>⟨G2,cs2,A2,n2,c2,Z,r2⟩,h_ h3,h_ h4,fun _=>⟨G5,j1,A5,n5,c5,Z,r5⟩,h_ h6,h_ h7,h_ h8,fun _=>⟨g9,Z,r9⟩,fun _=>⟨⟨by simp[c0 2 (by omega)],by simp[c0 5 (by omega)],by simp[c0 9 (by omega)]⟩,Z⟩,fun _ hh=>by simp at hh,fun _=>⟨fun k hk=>by simp[c0 k hk],g,Z,Z⟩⟩
 rintro f ε w ⟨e1,e2,e0,E9,E5,E2,S,h0,h1,h2,h3,h4,h5,h6,h7,h8,h9,b0,n0,g0⟩ c0;obtain⟨-,g3,q3,rfl⟩:=g0 (c0 12 (by decide));obtain⟨Gm,o1,Am,nm,cm,S0,rfl,Rm⟩:=h2 (c0 2 (by decide));obtain⟨Ga,m1,Aa,na,ca,P1,rfl,Ra⟩:=h5 (c0 5 (by decide));obtain⟨gb,Q1,rfl⟩:=h9 (c0 9 (by decide));rw[S0,P1,Q1] at S;clear c0 h0 h1 h2 h3 h4 h5 h6 h7 h8 h9 b0 n0 g0 S0 P1 Q1;refine fN 1 e1 (fN 2 e2 (fN 3 q3 ?_));replace S:=S.nils (R:=List.replicate xb (none,278,[])) (fun b hb=>by rw[List.eq_of_mem_replicate hb]);refine fC S.k [.o 5] Z ⟨Z,U⟩ ?_;refine wL (fun μk D ε w=>D=[]∧∃k:Nat,∃q0:List Ent,∃vs:LV,(k+μk=(c.buf.length))∧(d3a 278 (Gm.toList++(Ga.toList++([gb,g3,g2]++M))) w q0 vs (b3a c.buf [] k))∧St [] w0 w ([(some g3,71,[.slice Am nm cm,.slice Aa na ca,.slice (some ⟨gb,0,none⟩) xb xb]),(some gb,189,vs),(Ga,3,m1),(Gm,3,o1),(some g2,71,[.slice none 0 0,.slice none 0 0,.slice none 0 0]),(some g1,71,[.slice Xm xm ym,.slice Xa xa ya,.slice Xb xb yb])]++q0)∧Sl ε [(2,.pointer (some ⟨g2,0,none⟩)),(3,.pointer (some ⟨g3,0,none⟩)),(20,.slice Xb xb yb),(21,.int .i64 xb),(22,.int .i64 k)]) (μ:=(c.buf.length)) ⟨Z,0,List.replicate xb (none,278,[]),List.replicate xb (.slice none 0 0),by omega,by rw[F6a,←N1];exact d3a.nil xb,S,Z⟩ ?_;rintro μk D ε w ⟨rfl,k,q0,vs,hk,hR,S,eZ⟩;refine wK eZ (wB1 Z (fun d2=>?_) fun d2=>?_)
 ·obtain⟨b,a2,o2,_,E1,p1,_,_,v1,z1⟩:=RdS.get (r1) (k) (by omega);obtain⟨V0,R0,d1,rfl,K0,_⟩:=V4a.open_ z1;have q3:=(hf.bufs k b E1);have m2:d3a 278 (Gm.toList++(Ga.toList++([gb,g3,g2]++M))) w q0 vs ((b3a c.buf [] k).set k (b.take 0)):=by rw[List.take_zero,r9b (Y2b (m1a E1))];exact hR
  refine lC (S.k.a v1) [.x a2 o2,.f 0 0] Z ⟨Z,⟨p1,by omega⟩,U⟩ (wL (fun μj D ε w=>D=[]∧∃j:Nat,∃a0:List Ent,∃x0:LV,(j+μj=(b.length))∧(d3a 278 (Gm.toList++(Ga.toList++([gb,g3,g2]++M))) w a0 x0 ((b3a c.buf [] k).set k (b.take j)))∧St [] w0 w ([(some g3,71,[.slice Am nm cm,.slice Aa na ca,.slice (some ⟨gb,0,none⟩) xb xb]),(some gb,189,x0),(Ga,3,m1),(Gm,3,o1),(some g2,71,[.slice none 0 0,.slice none 0 0,.slice none 0 0]),(some g1,71,[.slice Xm xm ym,.slice Xa xa ya,.slice Xb xb yb])]++a0)∧Sl ε [(2,.pointer (some ⟨g2,0,none⟩)),(3,.pointer (some ⟨g3,0,none⟩)),(4,.int .i64 k),(20,.slice Xb xb yb),(21,.int .i64 xb),(22,.int .i64 k),(27,.slice V0 R0 d1),(28,.int .i64 R0),(29,.int .i64 j)]) (μ:=(b.length)) ⟨Z,0,q0,vs,by omega,m2,S,Z⟩ ?_);rintro μj D ε w ⟨rfl,j,a0,x0,_,N0,S,eZ⟩;refine wK eZ ?_;have K:=A0a.refl [] w;have J1:∀g∈(Gm.toList++(Ga.toList++([gb,g3,g2]++M)))++z6a a0,g<w.heap.size:=by
   intro g hg;simp only[List.mem_append,List.mem_cons,List.not_mem_nil,or_false] at hg;rcases hg with(hg|hg|(rfl|rfl|rfl)|hg)|hg
   ·exact B7a S (k:=3) Z g hg
   ·exact B7a S (k:=2) Z g hg
   ·exact S.lt 1 Z
   ·exact S.lt 0 Z
   ·exact S.lt 4 Z
   ·have:=hM g hg;have:=S.size;omega
   ·obtain⟨x,hx,hg⟩:=v2a.1 hg;exact(S.own x (List.mem_append_right _ hx) g hg).2.lt
  refine wB1 Z (fun i2=>?_) fun i2=>?_
  ·obtain⟨en,b2,p2,_,D0,q1,_,y1,x1,A1⟩:=RdS.get (K0) (j) (by omega);obtain⟨_,_,_,_,_,_,rfl,L0,O0,_⟩:=Q0a.open_ A1;have q4:=(q3.2.1 en (c0a D0)).len;have q5:=(q3.2.1 en (c0a D0)).even;unfold J0a.even at q5;refine lO (S.k.a x1) [.x b2 p2,.v 0] Z ⟨⟨Z,y1⟩,⟨q1,by omega⟩,U⟩ (m0a S H7a Z Z ?_);intro g7 w7 S7 X7 G7;have Y1:=Nat.le_trans K.size G7;replace K:=K.trans X7;refine f0a (kk:=0) (vs:=[_,_]) S7 Q8a Z Z Z Z Z Z Z ?_;intro E0 z0 b1;dsimp only[o0a,List.set] at z0;replace K:=K.fresh b1 (by first|exact Y1);obtain⟨G,A0,v,U0,O1,B1⟩:=N0.2.2 k (b.take j) (by rw[List.getElem?_set_self (by simp;omega)]);obtain⟨_,_,rfl⟩:=B1.form;have y2:x0.length=c.buf.length:=by have:=N0.2.1;simpa using this
   have M1:(b.take j).length=j:=by rw[List.length_take];omega
   have I1:∀g∈G.toList,g∈(Gm.toList++(Ga.toList++([gb,g3,g2]++M)))++z6a a0:=fun g hg=>List.mem_append_right _ (v2a.2 ⟨_,List.mem_of_getElem? U0,by cases G<;>simp at hg ⊢;exact hg.symm⟩);refine lC1 Z (i3b b0a (fun i=>[0,1,2,3,4,5,6,7,8,9,11,12,14,17].contains i) [0,1,2,3,4,5,6,7,8,9,10,11,12,13,14,15,16,17] 18 (clF (A:=[_,_,_,_,_,_,_]) (R:=a0) z0 G.toList) _ Z ?_);have j0:=z0.drew;have c1:A0a [] E0 E0.drew:=p2a _ _;generalize E0.drew=u2 at j0 c1 ⊢;have r0:A0a (G.toList) _ _:=c1.of_nil;replace K:=K.trans c1;refine t1a ⟨(St.front (A:=[_,_,_,_,_,_,_]) j0),r0⟩ Z Z Z ?_;refine H0a d4a Z Z ?_;refine e0a ?_;refine t1a ⟨(St.front (A:=[_,_,_,_,_,_,_]) j0),r0⟩ Z Z Z ?_;refine p0a m4a Z (fun w1 hw=>by exact hw.1.cell 1 Z Z) Z ?_;refine e0a ?_;refine t1a ⟨(St.front (A:=[_,_,_,_,_,_,_]) j0),r0⟩ Z Z Z ?_;refine R0a (hv:=Z) (v:=.int .i64 _) Z ?_;refine e0a ?_;refine t1a ⟨(St.front (A:=[_,_,_,_,_,_,_]) j0),r0⟩ Z Z Z ?_;refine H0a d4a Z Z ?_;refine e0a ?_;refine t1a ⟨(St.front (A:=[_,_,_,_,_,_,_]) j0),r0⟩ Z Z Z ?_;refine p0a m4a Z (fun w1 hw=>by exact hw.1.cell 1 Z Z) Z ?_;refine e0a ?_;refine t1a ⟨(St.front (A:=[_,_,_,_,_,_,_]) j0),r0⟩ Z Z Z ?_;refine R0a (hv:=Z) (v:=.int .i64 _) Z ?_;refine e0a ?_;refine t1a ⟨(St.front (A:=[_,_,_,_,_,_,_]) j0),r0⟩ Z Z Z ?_;refine q0a A3a.slT Z (by rfl) Z Z ?_;refine e0a ?_;refine t1a ⟨(St.front (A:=[_,_,_,_,_,_,_]) j0),r0⟩ Z Z Z ?_;refine p0a M7a Z (fun w1 hw=>by exact hw.1.cell 2 Z ((congrArg (x0[·]?) (show 0+(k:Int).toNat*1=k by simp)).trans O1)) Z ?_;refine e0a ?_;refine t1a ⟨(St.front (A:=[_,_,_,_,_,_,_]) j0),r0⟩ Z Z Z ?_;refine H0a m4b Z Z ?_;refine e0a ?_;refine t1a ⟨(St.front (A:=[_,_,_,_,_,_,_]) j0),r0⟩ Z Z Z ?_;refine p0a z3a Z (fun w1 hw=>by exact hw.1.cell 0 Z Z) Z ?_;refine e0a ?_;refine j8a ⟨(St.front (A:=[_,_,_,_,_,_,_]) j0),r0⟩ Z Z Z Z ?_;have s1:∀g∈(Gm.toList++(Ga.toList++([gb,g3,g2]++M)))++z6a a0,g<u2.heap.size:=fun g hg=>Nat.lt_of_lt_of_le (J1 g hg) K.size;refine s0a j0 D2b Z Z (u5b _ M _ _ en.cells (L0.keep (j0.keep0 M)) s1) ?_;rintro z2 t2 p0 F0 F1;have m0:=r0.trans (F1.mono (by simp));replace K:=K.trans F1;obtain⟨_,_,_,rfl⟩:=p0.form;refine D0a ⟨Z,?_⟩;refine t1a ⟨(St.front (A:=[_,_,_,_,_,_,_]) F0),m0⟩ Z Z Z ?_;refine H0a j5b Z Z ?_;refine e0a ?_;refine t1a ⟨(St.front (A:=[_,_,_,_,_,_,_]) F0),m0⟩ Z Z Z ?_;refine p0a z3a Z (fun w1 hw=>by exact hw.1.cell 0 Z Z) Z ?_;refine e0a ?_;refine j8a ⟨(St.front (A:=[_,_,_,_,_,_,_]) F0),m0⟩ Z Z Z Z ?_;have t1:∀g∈(Gm.toList++(Ga.toList++([gb,g3,g2]++M)))++z6a a0,g<t2.heap.size:=fun g hg=>Nat.lt_of_lt_of_le (J1 g hg) K.size;refine s0a F0 D2b Z Z (u5b _ M _ _ en.values (O0.keep (F0.keep0 M)) t1) ?_;rintro B2 C2 u0 X0 a1;have s0:=m0.trans (a1.mono (by simp));replace K:=K.trans a1;replace p0:=p0.keep (a1.of_nil);obtain⟨_,_,_,rfl⟩:=u0.form;refine D0a ⟨Z,?_⟩;refine t1a ⟨(St.front (A:=[_,_,_,_,_,_,_]) X0),s0⟩ Z Z Z ?_;refine D3a g3c (vs:=[(0,.slice _ _ _),(1,.slice _ _ _)]) (cs:=[_,_]) Z Z Z Z ?_;refine e0a ?_;refine j8a ⟨(St.front (A:=[_,_,_,_,_,_,_]) X0),s0⟩ Z Z Z Z ?_;refine h0a X0 F2a (vs:=[.agg _]) (cs:=[_,_]) Z Z Z Z Z Z ?_;intro x2 D2 Y0 T0 v2;have v0:=s0.trans (T0.mono (by simp));replace K:=K.trans T0;replace p0:=p0.keep (T0.of_nil);replace u0:=u0.keep (T0.of_nil);refine D0a ⟨Z,?_⟩;refine j8a ⟨(St.front (A:=[_,_,_,_,_,_,_,_]) Y0).tail,v0⟩ Z Z Z Z ?_;have K1:=N0.keep (K.of_nil);obtain⟨G',i1,_,P0,D1,Q0⟩:=K1.2.2 k (b.take j) (by rw[List.getElem?_set_self (by simp;omega)]);obtain⟨rfl,rfl⟩:G=G'∧A0=i1:=by rw[U0] at P0;cases P0;exact⟨Z,Z⟩
   obtain rfl:=Option.some.inj (O1.symm.trans D1);refine C0a R1a (k:=8+k) (e1:=en) Y0 F2a ((N6c [_,_,_,_,_,_,_,_] a0 k 8 Z).trans U0) Q0 Z Z (Y0.cells 0 Z) ⟨_,_,Z,p0.more (by omega) (fun g hg=>.inl (by rcases List.mem_append.1 hg with h|h;exact I1 g h;exact h)),u0.more (by omega) (fun g hg=>.inl (by rcases List.mem_append.1 hg with h|h;exact I1 g h;exact h))⟩ Z ?_;intro s2 W0 B0 U1 Z0 t0 H1 W1;have Z1:St [] w0 U1 ([_,_,_,_,_,_,_,_]++a0.set k (W0,278,B0)):=(W1d [_,_,_,_,_,_,_,_] a0 k 8 Z _)▸Z0;have y0:=Z1.tail;have J0:=v0.trans H1;have C0:d3a 278 (Gm.toList++(Ga.toList++([gb,g3,g2]++M))) U1 (a0.set k (W0,278,B0)) (x0.set k s2) ((b3a c.buf [] k).set k (b.take (j+1))):=by
    have:=K1.put (k:=k) (by simp;omega) t0 H1 W1 U0;rw[List.set_set] at this;rw[O0a D0];exact this
   obtain⟨_,_,C1⟩:=t0.form;subst C1;refine D0a ⟨Z,?_⟩;refine t1a ⟨(St.front (A:=[_,_,_,_,_,_,_]) y0),J0⟩ Z Z Z ?_;refine q0a A3a.slT Z (by rfl) Z Z ?_;refine e0a ?_;refine K5a ⟨(St.front (A:=[_,_,_,_,_,_,_]) y0),J0⟩ ?_
   first|refine r0a (kk:=2) y0 c3b Z Z Z (by(simp;omega)) ?_
   intro V1 G0 I0;replace C0:=C0.keep (I0.mono (by simp));refine D0a ⟨Z,?_⟩;refine fP0 Z ⟨by omega,U⟩ ⟨μj-1,by omega,Z,j+1,(a0.set k (W0,278,B0)),(x0.set k _),by omega,(C0),(G0.tail.setEnt 1 Z (by simp)),Z⟩
  refine lP1 Z ?_;refine⟨μk-1,by omega,Z,k+1,(a0),(x0),by omega,(by rw[←Q7a E1 rfl];rw[List.take_of_length_le (by omega)] at N0;exact N0),S,Z⟩
 refine lO1 Z (N1a V0a Z (S.cells 0 Z) Z Z ?_)
 first|refine f0a (kk:=4) (vs:=[_,_,_]) S n2a Z Z Z Z Z Z Z ?_
 intro T1 i0 H0;dsimp only[o0a,List.set] at i0;replace hR:=hR.keep (H0.mono (by simp));refine lR1 Z ?_;rw[X7a _ _ (by omega)] at hR;refine L1a (n:=3) Z V0a Z (i0.cells 4 Z) Z ⟨⟨Gm,Ga,o1,m1,_,_,gb,q0,vs,by rw[←N1],Rm,Ra,i0.sublist ?_,hR.less ?_⟩,i0.fin⟩
 ·exact .cons _ (.cons_cons _ (.cons_cons _ (.cons_cons _ (.cons _ (.cons _ (List.Sublist.refl _))))))
 ·intro g hg;simp only[List.mem_append,List.mem_cons] at hg ⊢;rcases hg with h|h|h|h<;>simp[h]
variable {P:Program} {r:Option Nat} {N:Nat} {D:List Deferred} {e:Env} {w w0:World} {ops:Array Oper} {rest:List Oper} {K:List Deferred→Env→World→Prop} {L:List Ent} {M:List Nat}
section
variable {d:Nat} {t:TypeId} {p:String} {af:Array Edge} {x y:Operand} {kd:IntKind}
theorem n0d{o:Oper}{v:Value}{w':World}(hg:o.guard=none)(b0:o.dst=none)(a0:∀c,o.op≠.defer c)
 (d0:(execOp (ev e) o).run P w=.ok (.value v) w') (h:WL P r N ops rest K D e w'):WL P r N ops (o::rest) K D e w:=by
 unfold WL at *;intro a Q hs e0 he hK;have c0:=h a Q hs e0 he hK;simp only[wpListIn,Region.wanted,hg,if_true];refine⟨G0a o w _,?_⟩;have:Oper.semAt (fc r).round a.eval o=execOp (ev e) o:=by rw[Oper.semAt_eq _ _ _ a0,E2a,he]
 rw[this,d0,Oper.uponIn_value,b0];exact c0
theorem o6b{ty el size d0 k n m c b o g c0:Nat}{z:Value}{cs xs news:LV}(S:St M w0 w L)(hS:SlZ P ty el size z d0)(hk:L[k]?=some (some g,el,cs))(hR:E3a (some g) size n cs (.slice (some ⟨g,0,none⟩) n c0) xs)
 (hx:ev e x=.slice (some ⟨g,0,none⟩) n c0) (hy:ev e y=.slice (some ⟨b,o,none⟩) m c) (e0:O1a w b o news) (hl:news.length=m*size) (h1:∀u∈news,u.oneCell'=true) (g0:n+m≤c0) (hd:Nat.ble (d+1) N=true)
 (h:∀i0 w1,St M w0 w1 (L.set k (some g,el,i0))→E3a (some g) size (n+m) i0 (.slice (some ⟨g,0,none⟩) (n+m) c0) (xs++news)→A0a [g] w w1→WL P r N ops rest K D (upd e d (.slice (some ⟨g,0,none⟩) (n+m) c0)) w1) :
 WL P r N ops (⟨some d,.call { callee:=.builtin .append,args:=#[x,y],argTypes:=#[ty,ty] },t,p,af,none⟩::rest) K D e w:=by
 obtain⟨i,hi,_,r0,_⟩:=hS.parts;obtain⟨hown,_⟩:=hR.own S hk;obtain⟨w1,n0,f0,a0⟩:=run_append_fits (P:=P) w 0 ty t el i size hS.und hi r0 g n c0 xs hown ⟨b,o,none⟩ m c news hl (fun j u hj=>by rw[Addr.add_lit];exact e0 j u hj) h1 g0;obtain⟨G',i0,p0,o0,m0⟩:=r0b f0;obtain rfl:G'=some g:=o0.symm;obtain⟨_,j0⟩:=m0 g Z;have b0:∀q,q<w.heap.size→some g≠some q→w1.heap[q]?=w.heap[q]?:=fun q hq q0=>a0.block q hq q0.symm;have hB:W0a [g] w w1:=⟨a0.os,a0.tape,a0.output,a0.size,fun q hq hm=>b0 q hq (fun hh=>hm (by cases hh;simp))⟩;refine y1a (v:=.slice (some ⟨g,0,none⟩) (n+m) c0) (w':=w1) Z Z hd ?_ (h i0 w1 (S.changed1 k hk hB j0) p0 ⟨a0.size,fun q hq hm=>b0 q hq (fun hh=>hm (by cases hh;simp))⟩);simp[execOp,resolve,invoke,builtin,hx,hy,n0]
theorem Q5c{ty el size a0 g o c tb kk:Nat}{z:Value}{cs:LV}(S:St M w0 w L)(hS:SlZ P ty el size z a0)(hx:ev e x=.slice (some ⟨g,o,none⟩) 1 c)(hk:L[kk]?=some (some g,tb,cs))(ho:o+z.cells.toList.length≤cs.length)(h1:∀v∈z.cells.toList,J7c v=true)
 (h:∀w1,St M w0 w1 (L.set kk (some g,tb,o0a cs o z.cells.toList))→A0a [g] w w1→WL P r N ops rest K D e w1) :
 WL P r N ops (⟨none,.call { callee:=.builtin .clear,args:=#[x],argTypes:=#[ty] },t,p,af,none⟩::rest) K D e w:=by
 obtain⟨_,hi,hz,_⟩:=hS.parts;obtain⟨w1,h2,h3,h4⟩:=St.setN (P:=P) (o:=o) z.cells.toList 0 cs w L hk S (by simpa using ho) h1;have b0:(Builtin.zeroCells z.cells 1).toList=z.cells.toList:=by
  apply List.ext_getElem
  ·simp[Builtin.zeroCells]
  ·intro j q1 q2;simp[Builtin.zeroCells] at q1 q2 ⊢;simp[Nat.mod_eq_of_lt q2,q2]
 have c0:∀w,(zeroValue el).run P w=.ok z w:=fun w=>by simp[zeroValue,typeInfo,hi,hz]
 refine n0d (v:=.tuple #[]) Z Z (by simp) ?_ (h w1 h3 h4);simp[execOp,resolve,invoke,builtin,Builtin.clear_,hx,run_underlying hS.und,c0,b0,h2]
theorem e4c{ty size lo hi mx c n o b:Nat}{xl xh xm:Operand}(hT:SlT P ty size)(hx:ev e x=.slice (some ⟨b,o,none⟩) n c)(hl:ev e xl=.int kd (lo:Int))(hh:ev e xh=.int kd (hi:Int))(hm:ev e xm=.int kd (mx:Int))(h1:lo≤hi)(h2:hi≤mx)(h3:mx≤c)(hd:Nat.ble (d+1) N=true)
 (h:∀v,WL P r N ops rest K D (upd e d v) w) :
 WL P r N ops (⟨some d,.slice ty x (some xl) (some xh) (some xm),t,p,af,none⟩::rest) K D e w:=by
 obtain⟨_,hu,b0⟩:=y4a hT;have e0:(0:Int)≤(mx:Int)∧(mx:Int)≤(c:Int):=by omega
 have e1:(0:Int)≤(lo:Int)∧(lo:Int)≤(hi:Int):=by omega
 have e2:(0:Int)≤(hi:Int)∧(hi:Int)≤(mx:Int):=by omega
 refine y1a (v:=.slice (if mx=lo then some ⟨b,o,none⟩ else some ⟨b,o+lo*size,none⟩) (hi-lo) (mx-lo)) Z Z hd ?_ (h _);have a0:(Instr.slice ty (.slice (some ⟨b,o,none⟩) n c) (some (.int kd (lo:Int))) (some (.int kd (hi:Int))) (some (.int kd (mx:Int)))).run P w=.ok (.slice (if mx=lo then some ⟨b,o,none⟩ else some ⟨b,o+lo*size,none⟩) (hi-lo) (mx-lo)) w:=by
  simp[Instr.slice,Instr.sliceBounds,Instr.sliceBound,asIntOf,run_underlying hu,b0,e0,e1,e2,h1,h2,h3,Addr.add_lit]
 simp only[execOp,Instr.sliceAt,Sem.run_bind,run_underlying hu,Result.andThen_ok,hx,Option.map_some,hl,hh,hm,a0,Sem.run_pure]
end
theorem B5b{size:Nat}:∀(css:List LV) (i:Nat),(∀x∈css,x.length=size)→css.flatten.take (i*size)=(css.take i).flatten
 | [],i,_=>by simp
 | x::css,0,_=>by simp
 | x::css,i+1,h=>by
   have hx:=h x (by simp);rw[List.flatten_cons,List.take_succ_cons,List.flatten_cons,←B5b css i (fun y hy=>h y (by simp[hy])),Nat.add_mul,Nat.one_mul,List.take_append,hx,Nat.add_sub_cancel,List.take_of_length_le (by omega)]
theorem P6b{size:Nat}:∀(css:List LV) (i:Nat),(∀x∈css,x.length=size)→css.flatten.drop (i*size)=(css.drop i).flatten
 | [],i,_=>by simp
 | x::css,0,_=>by simp
 | x::css,i+1,h=>by
   have hx:=h x (by simp);rw[List.flatten_cons,List.drop_succ_cons,←P6b css i (fun y hy=>h y (by simp[hy])),Nat.add_mul,Nat.one_mul,List.drop_append,hx,Nat.add_sub_cancel,List.drop_eq_nil_of_le (by omega),List.nil_append]
theorem d3b:∀(vs cs:LV) (o:Nat),(o0a cs o vs).length=cs.length
 | [],_,_=>rfl
 | v::vs,cs,o=>by rw[o0a,d3b vs,List.length_set]
theorem q2b:∀(vs cs:LV) (o n:Nat),n≤o→(o0a cs o vs).take n=cs.take n
 | [],_,_,_,_=>rfl
 | v::vs,cs,o,n,h=>by rw[o0a,q2b vs _ _ _ (by omega),List.take_set_of_le h]
theorem L2c(g a0 n i:Nat)(css:List LV)(cs:LV)(w0:World)(hB:z0a w0 (g,278,cs))(hR:E3a (some g) 2 n cs (.slice (some ⟨g,0,none⟩) n a0) css.flatten)(hn:css.length=n)(h2:∀x∈css,x.length=2)(h1:∀u∈css.flatten,u.oneCell'=true)(hi:i<n)(x0:n≤1000000):
 M0a prog 289 #[.slice (some ⟨g,0,none⟩) n a0,.int .i64 i,.int .i64 ((i:Int)+1)] w0 fun v w'=>v=.slice (some ⟨g,0,none⟩) (n-1) a0∧W0a [g] w0 w'∧∃p0,z0a w' (g,278,p0)∧E3a (some g) 2 (n-1) p0 (.slice (some ⟨g,0,none⟩) (n-1) a0) (css.eraseIdx i).flatten:=by
 have S:=St.borrow1 hB;obtain⟨_,r2⟩:=hR;obtain⟨c0,f0,y0,q0⟩:n≤a0∧a0≤maxLen∧cs.length=a0*2∧cs.take (n*2)=css.flatten:=by
  rcases r2 with⟨h,_⟩|⟨g',g0,h,h',a,b,c,d⟩
  ·cases h
  ·cases h;cases h';exact⟨a,b,c,d⟩
 have j0:E3a (some g) 2 i cs (.slice (some ⟨g,0,none⟩) i a0) (css.take i).flatten:=by
  refine⟨?_,.inr ⟨g,a0,Z,Z,by omega,f0,y0,?_⟩⟩
  ·rw[u5a _ (fun x hx=>h2 x (List.mem_of_mem_take hx)),List.length_take];congr 1;omega
  ·rw[←B5b css i h2,←q0,List.take_take];congr 1;omega
 have m0:∃o,(if a0=i+1 then(⟨g,0,none⟩:Addr) else⟨g,0+(i+1)*2,none⟩)=⟨g,o,none⟩∧O1a w0 g o (css.drop (i+1)).flatten:=by
  by_cases hc:a0=i+1
  ·refine⟨0,by rw[if_pos hc],?_⟩;rw[List.drop_eq_nil_of_le (by omega)];intro j v hj;simp at hj
  ·refine⟨0+(i+1)*2,by rw[if_neg hc],fun j v hj=>?_⟩;rw[←P6b css (i+1) h2,←q0,List.getElem?_drop,List.getElem?_take] at hj
   split at hj
   ·exact hB.cell (by rw[Nat.zero_add];exact hj)
   ·cases hj
 obtain⟨_,A0,d0⟩:=m0;have z0:(css.drop (i+1)).flatten.length=(n-(i+1))*2:=by rw[u5a _ (fun x hx=>h2 x (List.mem_of_mem_drop hx)),List.length_drop,hn]
 have i0:∀u∈(css.drop (i+1)).flatten,u.oneCell'=true:=fun u hu=>h1 u (by
  obtain⟨x,hx,hu⟩:=List.mem_flatten.1 hu;exact List.mem_flatten.2 ⟨x,List.mem_of_mem_drop hx,hu⟩)
 have b0:((i:Int)+1)=((i+1:Nat):Int):=by omega
 refine a0a func289 Z ntmps289 Z ?_;refine wO1 Z ?_;refine e4c (lo:=i) (hi:=i+1) (mx:=n) F2a.slT Z Z (by rw[←b0];rfl) Z (by omega) (by omega) c0 Z ?_;intro D0;refine lB1 Z (fun v0=>by exfalso;omega) fun v0=>?_;refine lC1 Z (x0a b0a [0,1,2,3,4,5] [] [6,7] Z (Cl _ _ _ _) (Cl.start S) ?_);refine qO1 Z (c7b (lo:=0) (hi:=i) (kd:=.i64) F2a.slT Z (.inl ⟨Z,Z⟩) (.inr Z) c0 Z ?_);simp only[Nat.zero_mul,Nat.add_zero,Nat.sub_zero,ite_self];refine qO1 Z ?_;refine c7b (lo:=i+1) (hi:=n) (kd:=.i64) F2a.slT Z (.inr (by rw[←b0];rfl)) (.inl ⟨Z,Z⟩) c0 Z ?_;rw[A0];refine lV Z ?_;rintro G0 ⟨s0,t0⟩;refine o6b (k:=0) s0 F2a Z j0 Z Z (d0.keep (M:=[]) t0 (by simp)) z0 i0 (by omega) Z ?_;intro e0 E0 r0 n0 B0;have u0:i+(n-(i+1))=n-1:=by omega
 rw[u0] at n0 ⊢;refine lO1 Z (d5b (lo:=n-1) (hi:=n) (kd:=.i64) F2a.slT Z (.inr Z) (.inr Z) (by omega) (by omega) Z ?_);rw[if_neg (show ¬a0=n-1 by omega),show n-(n-1)=1 by omega];obtain⟨rc,rt⟩:e0.length=a0*2∧e0.take ((n-1)*2)=(css.take i).flatten++(css.drop (i+1)).flatten:=by
  rcases n0.2 with⟨h,_⟩|⟨g',g0,h,h',a,b,c,d⟩
  ·cases h
  ·cases h;cases h';exact⟨c,d⟩
 refine Q5c (kk:=0) r0 F2a Z Z (by rw[rc];simp[Value.cells];omega) (by simp[Value.cells,J7c]) ?_;intro F0 o0 C0;refine lU Z Z ⟨Z,o0.below,_,o0.blk 0 Z,?_,.inr ⟨g,a0,Z,Z,by omega,f0,?_,?_⟩⟩
 ·rw[u5a _ (fun x hx=>h2 x (List.mem_of_mem_eraseIdx hx)),List.length_eraseIdx,if_pos (by omega),hn]
 ·rw[d3b];exact rc
 ·rw[q2b _ _ _ _ (by omega),rt,List.eraseIdx_eq_take_drop_succ,List.flatten_append]
theorem o1c(p:g0a)(hp:q1a p)(c:E0a)(t i:Nat)(b:List J0a)(M:List Nat)(w0:World)(hM:∀g∈M,g<w0.heap.size)(cs xs:LV)(m:Int)(hI:InP p M w0 cs)(hX:B0a M w0 c xs)(hf:U5a p c)(q0:c.buf[t]?=some b)(hi:i<b.length):
 M0a prog 240 #[.agg (xs++(cs++[Value.int .i64 m])).toArray,.int .i64 t,.int .i64 i] w0 fun v w'=>(∃ys,v=.agg ys.toArray∧B0a M w' (Q4a c t i) ys)∧Bw w0 w':=by
 obtain⟨_,_,_,_,_,_,_,_,_,_,_,_,rfl,-⟩:=hI.rd.open_;obtain⟨_,_,_,_,_,_,_,_,_,rfl,_⟩:=hX.open_;have S:=St.refl w0;have f1:=hf.mem.len;have n1:=hp.ncells;have n2:=hp.nthreads;have f3:=hf.nbuf;have ht:=m1a q0;have c1:=hf.bufs t b q0;have E0:=M9a hf t i;obtain⟨en,f0⟩:∃en,b[i]?=some en:=⟨b[i],List.getElem?_eq_getElem hi⟩;have q1:=c1.2.1 en (c0a f0);have q2:=q1.i64s;have q3:0<c.mem.length:=by
  cases R0:en.cells with
  | nil=>exact absurd R0 q1.some_
  | cons x l=>have:=q2 x (by rw[R0];simp);omega
 have g1:Q4a c t i=⟨w2a c.mem en,c.at_,c.buf.set t (b.eraseIdx i)⟩:=by unfold Q4a;rw[getD_some q0,getD_some f0]
 rw[g1] at E0 ⊢;refine a0a func240 Z ntmps240 Z ?_;refine wO1 Z (i0a S Z ?_);intro g3 w3 S3 X3 G3;refine m0a S3 t4a Z Z ?_;intro g6 w6 S6 X6 G6;refine lO S6.k [.o 1] Z ⟨Z,U⟩ ?_;have b1:B0a (g6::g3::M) w6 c _:=(hX.more (fun g hg=>by rcases List.mem_cons.1 hg with rfl|hg;exact .inr (by simpa using S6.new 0 Z);rcases List.mem_cons.1 hg with rfl|hg;exact .inr (by simpa using S6.new 1 Z);exact .inl hg)).keep (S6.keep0 _);have Z0:∀g∈g6::g3::M,g<w6.heap.size:=fun g hg=>by
  rcases List.mem_cons.1 hg with rfl|hg
  ·exact S6.lt 0 Z
  ·rcases List.mem_cons.1 hg with rfl|hg
   ·exact S6.lt 1 Z
   ·have:=hM g hg;have:=S6.size;omega
 refine O2a Q1c Z Z (F8b p hp c (g6::g3::M) _ Z0 _ b1 hf) ?_;rintro r1 j1 ⟨⟨_,_,_,_,_,_,_,c0,vs,rfl,Rm,Ra,s0,hR⟩,-⟩;have X0:=S6.joinR s0;obtain⟨gm,pad,rfl,rfl,rfl,i1⟩:=Rm.pad q3;obtain⟨_,_,_,rfl⟩:=Ra.form;have K:=A0a.refl [] j1;refine m0a X0 t4a Z Z ?_;intro g7 w7 S7 X7 G7;have V0:=Nat.le_trans K.size G7;replace K:=K.trans X7;refine f0a (kk:=0) (vs:=[_,_,_]) S7 n2a Z Z Z Z Z Z Z ?_;intro m1 d0 u0;dsimp only[o0a,List.set] at d0;replace K:=K.fresh u0 (by first|exact V0);have B0:=hR.keep (K.of_nil);obtain⟨G,P0,v,n0,G0,F0⟩:=B0.2.2 t b q0;obtain⟨g,O0,_,rfl,rfl,_,d1,S0⟩:=F0.get d0 (k:=6+t) ((N6c [_,_,_,_,_,_] c0 t 6 Z).trans n0) f0;obtain⟨_,_,_,_,_,_,rfl,-⟩:=S0.open_;have p1:vs.length=c.buf.length:=B0.2.1;refine lC1 Z (x0a b0a [0,1,2,3,4,5,6,7,8,9] [] [10] Z (Cl _ _ _ _) (Cl.start d0) ?_);refine qO d0.q [.o 0,.o 0] Z ⟨Z,Z,U⟩ (q0a A3a.slT Z (by rfl) Z Z ?_);refine p0a M7a Z (fun w1 hw=>by exact hw.1.cell 1 Z ((congrArg (vs[·]?) (show 0+(t:Int).toNat*1=t by simp)).trans G0)) Z ?_;refine qO1 Z (q0a F2a.slT Z (by rfl) Z Z ?_);refine w1a g1b Z (fun w1 hw=>d1.keep (M:=[]) hw.2 (by simp)) (by rfl) Z ?_;refine lV Z ?_;rintro u1 ⟨L0,N0⟩;refine O2a K1c Z Z (H9b en c.mem gm _ pad (gm::[]) _ _ (Q0a.keep N0.of_nil _ _ (Q0a.more (fun x hx=>by simp at hx;subst hx;simp) _ _ S0)) (L0.blk 3 Z) q1.even (fun x hx=>by have:=q2 x hx;omega)) ?_;rintro s1 r0 ⟨C0,I0⟩;have K0:=L0.changed1 3 Z I0 C0;have Y0:A0a [gm] _ r0:=A0a.of_belowB I0;have a1:=(B0.keep N0.of_nil).keep (Y0.mono (by simp));refine lC1 Z (i3b b0a (fun i=>[0,1,2,3,4,5,6,7,8,9,10,12].contains i) [0,1,2,3,4,5,6,7,8,9,10,11,12] 13 (clF (A:=[_,_,_,_,_,_]) (R:=c0) K0 [g]) _ Z ?_);have a0:=K0.drew;have y0:A0a [] r0 r0.drew:=p2a _ _;generalize r0.drew=v1 at a0 y0 ⊢;have b0:A0a ([g]) _ _:=y0.of_nil;refine t1a ⟨(St.front (A:=[_,_,_,_,_,_]) a0),b0⟩ Z Z Z ?_;refine H0a d4a Z Z ?_;refine e0a ?_;refine t1a ⟨(St.front (A:=[_,_,_,_,_,_]) a0),b0⟩ Z Z Z ?_;refine p0a m4a Z (fun w1 hw=>by exact hw.1.cell 0 Z Z) Z ?_;refine e0a ?_;refine t1a ⟨(St.front (A:=[_,_,_,_,_,_]) a0),b0⟩ Z Z Z ?_;refine R0a (hv:=Z) (v:=.int .i64 _) Z ?_;refine e0a ?_;refine t1a ⟨(St.front (A:=[_,_,_,_,_,_]) a0),b0⟩ Z Z Z ?_;refine H0a d4a Z Z ?_;refine e0a ?_;refine t1a ⟨(St.front (A:=[_,_,_,_,_,_]) a0),b0⟩ Z Z Z ?_;refine p0a m4a Z (fun w1 hw=>by exact hw.1.cell 0 Z Z) Z ?_;refine e0a ?_;refine t1a ⟨(St.front (A:=[_,_,_,_,_,_]) a0),b0⟩ Z Z Z ?_;refine R0a (hv:=Z) (v:=.int .i64 _) Z ?_;refine e0a ?_;refine t1a ⟨(St.front (A:=[_,_,_,_,_,_]) a0),b0⟩ Z Z Z ?_;refine q0a A3a.slT Z (by rfl) Z Z ?_;refine e0a ?_;refine t1a ⟨(St.front (A:=[_,_,_,_,_,_]) a0),b0⟩ Z Z Z ?_;refine p0a M7a Z (fun w1 hw=>by exact hw.1.cell 1 Z ((congrArg (vs[·]?) (show 0+(t:Int).toNat*1=t by simp)).trans G0)) Z ?_;refine e0a ?_;refine t1a ⟨(St.front (A:=[_,_,_,_,_,_]) a0),b0⟩ Z Z Z ?_;refine R0a (hv:=Z) (v:=.int .i64 _) Z ?_;refine e0a ?_;refine t1a ⟨(St.front (A:=[_,_,_,_,_,_]) a0),b0⟩ Z Z Z ?_;refine R0a (hv:=Z) (v:=.int .i64 _) Z ?_;refine e0a ?_;refine t1a ⟨(St.front (A:=[_,_,_,_,_,_]) a0),b0⟩ Z Z Z ?_;refine A0d Z Z iO Z ?_;refine e0a ?_;refine j8a ⟨(St.front (A:=[_,_,_,_,_,_]) a0),b0⟩ Z Z Z Z ?_;have Q0:=a1.keep y0.of_nil;obtain⟨G',z0,_,o0,H0,p0⟩:=Q0.2.2 t b q0;obtain⟨rfl,rfl⟩:some g=G'∧P0=z0:=by rw[n0] at o0;cases o0;exact⟨Z,Z⟩
 obtain rfl:=Option.some.inj (G0.symm.trans H0);obtain⟨css,l1,l2,rv,l4⟩:=p0;refine O2a C7c Z Z (L2c g O0 b.length i css P0 _ (a0.blk (6+t) ((N6c [_,_,_,_,_,_] c0 t 6 Z).trans n0)) rv l1 l2 (Q0d l1 l4) hi (by omega)) ?_;rintro t1 T0 ⟨rfl,J0,A0,D0,W0⟩;have v0:A0a [g] _ T0:=A0a.of_belowB J0;have t0:St [] w0 T0 ([_,_,_,_,_,_]++c0.set t (some g,278,A0)):=(W1d [_,_,_,_,_,_] c0 t 6 Z _)▸a0.changed1 (6+t) ((N6c [_,_,_,_,_,_] c0 t 6 Z).trans n0) J0 D0;have j0:=b0.trans v0;have m0:=Q0.put (k:=t) ht (A1a.erase R1a l1 l2 l4 hi W0 (v0.mono (by simp))) (G:=some g) (by simpa using v0) (fun g hg=>.inl hg) n0;refine D0a ⟨Z,?_⟩;refine t1a ⟨(St.front (A:=[_,_,_,_,_,_]) t0),j0⟩ Z Z Z ?_;refine q0a A3a.slT Z (by rfl) Z Z ?_;refine e0a ?_;refine K5a ⟨(St.front (A:=[_,_,_,_,_,_]) t0),j0⟩ ?_
 first|refine r0a (kk:=1) t0 c3b Z Z Z (by(simp;omega)) ?_
 intro U0 e0 i0;replace m0:=m0.keep (i0.mono (by simp));refine D0a ⟨Z,?_⟩;refine fO e0.k [.w 0] Z ⟨⟨Z,by rfl⟩,U⟩ ?_
 first|refine f0a (kk:=4) (vs:=[_,_,_]) e0 n2a Z Z Z Z Z Z Z ?_
 intro o1 g0 x0;dsimp only[o0a,List.set] at g0;replace m0:=m0.keep (x0.mono (by simp));refine lR1 Z ?_;have SF:=g0.setEnt 1 Z (show _=vs.set t (.slice (some ⟨g,0,none⟩) (b.length-1) O0) by simp);refine L1a (n:=3) Z V0a Z (SF.cells 4 Z) Z ⟨⟨_,Z,_,_,_,Z,?_,Ra.rdI SF (k:=2) Z hM (b7a hp hf) (by omega),?_⟩,SF.fin⟩
 ·have:=(E3a.ofPad (g:=gm) (l:=w2a c.mem en) (pad:=pad) (by simpa using i1)).rdI SF (k:=3) Z hM (B3a hp E0.mem) (by simp;omega);simpa using this
 ·have hA:=SF.apartM (A:=[_,_,_,_,_,_]) hM;have:=SF.rdBs (M:=M) 1 Z (Y0a hM (SF.new 1 Z)) (bs:=c.buf.set t (b.eraseIdx i)) (by simp;omega) (m0.rd (A:=[_,_,_,_,_,_]) SF (Mx:=M) (fun g hg=>by simp[hg]) hA (fun x hx=>by
   obtain⟨k,hk,rfl⟩:=List.getElem_of_mem hx;have:=(E0.bufs k _ (List.getElem?_eq_getElem hk)).1;omega))
  rw[List.length_set] at this;exact this
def T2b(p:g0a)(s:p1a)(k:Nat):List U1a:=if s.kind=3 then(s.set.take k).filter (fun a=>K1a p.cells a.cell=-1) else[]
def F0b(p:g0a)(s:p1a)(k:Nat):List U1a:=if s.kind=3 then(s.set.take k).filter (fun a=>K1a p.cells a.cell≠-1) else s.set.take k
section
variable {p:g0a} {s:p1a} {k:Nat} {a:U1a}
theorem p9a:T2b p s 0=[]:=by unfold T2b;simp
theorem u6b:F0b p s 0=[]:=by unfold F0b;simp
theorem S7a(h3:s.kind=3)(hx:s.set[k]?=some a)(ht:K1a p.cells a.cell=-1):T2b p s (k+1)=T2b p s k++[a]∧F0b p s (k+1)=F0b p s k:=by
 unfold T2b F0b;rw[if_pos h3,if_pos h3,if_pos h3,if_pos h3,O0a hx,List.filter_append,List.filter_append];simp[ht]
theorem U6a(hx:s.set[k]?=some a)(ht:s.kind=3→¬K1a p.cells a.cell=-1):T2b p s (k+1)=T2b p s k∧F0b p s (k+1)=F0b p s k++[a]:=by
 unfold T2b F0b;by_cases h3:s.kind=3
 ·rw[if_pos h3,if_pos h3,if_pos h3,if_pos h3,O0a hx,List.filter_append,List.filter_append];simp[ht h3]
 ·rw[if_neg h3,if_neg h3,if_neg h3,if_neg h3,O0a hx];simp
theorem N5a:(T2b p s k).length≤s.set.length:=by
 unfold T2b
 split
 ·exact Nat.le_trans (List.length_filter_le _ _) (by rw[List.length_take];omega)
 ·simp
end
theorem K0c{p:g0a}{t n:Int}{s:p1a}(h:c7a p t n s):s.set.length≤p.cells.length:=by
 have:=v9a p.cells.length (s.set.map U1a.cell) (by unfold List.Nodup;rw[List.pairwise_map];exact h.once) (fun x hx=>by
  obtain⟨a,ha,rfl⟩:=List.mem_map.1 hx;exact(h.set a ha).1)
 simpa using this
theorem c8a{p:g0a}{m:Int}(hm:¬m=0){c:E0a}{t:Nat}{s:p1a}{b:List J0a}(h3:s.kind=3)(hb:c.buf[t]?=some b){k:Nat}(hk:s.set.length≤k:=by omega):i7a p m c t s=⟨N8a (F0b p s k) (r1a c t) c.mem,atC c t s,c.buf.set t (b++[⟨(T2b p s k).map U1a.cell,(T2b p s k).map fun a=>a.to.evl (r1a c t) (r1a c t)⟩])⟩:=by
 unfold i7a T2b F0b p6b;rw[if_pos ⟨h3,hm⟩,if_pos h3,if_pos h3,List.take_of_length_le hk,getD_some hb]
theorem B3b{p:g0a}{m:Int}{c:E0a}{t:Nat}{s:p1a}(h3:¬s.kind=3){k:Nat}(hk:s.set.length≤k:=by omega):i7a p m c t s=⟨N8a (F0b p s k) (r1a c t) c.mem,atC c t s,c.buf⟩:=by
 unfold i7a F0b;rw[if_neg (fun h=>h3 h.1),if_neg h3,List.take_of_length_le hk]
theorem F3c{c:E0a}{t:Nat}{s:p1a}{pad:LV}(h:¬s.kind=6){i:Nat}(ht:t<c.at_.length:=by omega)(hi:i=t:=by simp):(c.at_.map (Value.int .i64)++pad).set i (.int .i64 s.to)=(atC c t s).map (Value.int .i64)++pad:=by
 subst hi;rw[L6a ht];unfold atC;rw[if_neg h]
theorem y7b{c:E0a}{t:Nat}{s:p1a}{pad:LV}(h:s.kind=6){i j:Nat}(ht:t<c.at_.length:=by omega)(hg:s.target.toNat<c.at_.length:=by omega)(hi:i=t:=by simp)(hj:j=s.target.toNat:=by simp):((c.at_.map (Value.int .i64)++pad).set i (.int .i64 s.to)).set j (.int .i64 0)=(atC c t s).map (Value.int .i64)++pad:=by
 subst hi;subst hj;rw[L6a ht,L6a (by simpa using hg)];unfold atC;rw[if_pos h]
abbrev T4c:List Nat→World→LV→Int→Prop:=fun _ _=>Q4c
theorem s0c(p:g0a)(c:E0a)(m:Int)(hm:m=1∨m=2)(t i:Nat)(th:i1a)(s:p1a)(M:List Nat)(w0:World)(cs xs:LV)(L2:Value)(hI:InP p M w0 cs)(hX:B0a M w0 c xs)(hV:RdI M w0 L2 (r1a c t))(hf:U5a p c)(R0:p.threads[t]?=some th)(z2:th.steps[i]?=some s)(o0:U5a p (i7a p m c t s)):
 M0a prog 243 #[.agg (xs++(cs++[Value.int .i64 m])).toArray,.agg #[.int .i64 t,.int .i64 i,.int .i64 0],L2] w0 fun v w'=>(∃ys,v=.agg ys.toArray∧B0a M w' (i7a p m c t s) ys)∧Bw w0 w':=by
 obtain⟨Ac,nc,cc,Am,nm,cm,Al,nl,cl,At,nt,ct,rfl,hC,_,_,v3,_⟩:=hI.rd.open_;obtain⟨Xm,xm,ym,Xa,xa,ya,Xb,xb,yb,rfl,_⟩:=hX.open_;obtain⟨Av,nv,cv,rfl⟩:=hV.form;have S:=St.refl w0;have hM:=hI.lt;have f1:=hf.mem.len;have f2:=hf.nat;have f3:=hf.nbuf;have hp:=hI.ok;have n1:=hp.ncells;have n2:=hp.nthreads;have ht:=m1a R0;have hi:=m1a z2;have u1:=(hp.thread R0).steps s (c0a z2);have a4:=K0c u1;have I2:6≤s.kind→0≤s.target∧s.target<p.threads.length:=fun h=>(u1.row.k6 h).1;have J2:¬m=0:=by omega
 obtain⟨b,v1⟩:∃b,c.buf[t]?=some b:=⟨c.buf[t]'(by omega),List.getElem?_eq_getElem _⟩;have Z3:=hf.bufs t b v1;refine a0a func243 Z ntmps243 Z ?_;refine wO1 Z (i0a S Z ?_);intro g3 w3 S3 X3 G3;refine i0a S3 Z ?_;intro g4 w4 S4 X4 G4;refine m0a S4 t4a Z Z ?_;intro g6 w6 S6 X6 G6;refine lO S6.k [.o 2] Z ⟨Z,U⟩ ?_;have x3:B0a (g6::g4::g3::M) w6 c _:=(hX.more (fun g hg=>by rcases List.mem_cons.1 hg with rfl|hg;exact .inr (by simpa using S6.new 0 Z);rcases List.mem_cons.1 hg with rfl|hg;exact .inr (by simpa using S6.new 1 Z);rcases List.mem_cons.1 hg with rfl|hg;exact .inr (by simpa using S6.new 2 Z);exact .inl hg)).keep (S6.keep0 _);have u3:∀g∈g6::g4::g3::M,g<w6.heap.size:=fun g hg=>by
  rcases List.mem_cons.1 hg with rfl|hg
  ·exact S6.lt 0 Z
  ·rcases List.mem_cons.1 hg with rfl|hg
   ·exact S6.lt 1 Z
   ·rcases List.mem_cons.1 hg with rfl|hg
    ·exact S6.lt 2 Z
    ·have:=hM g hg;have:=S6.size;omega
 refine O2a Q1c Z Z (F8b p hp c (g6::g4::g3::M) _ u3 _ x3 hf) ?_;rintro d4 D1 ⟨⟨Gm,_,r3,_,_,_,gb,i0,vs,rfl,Rm,Ra,H1,hR⟩,-⟩;have C0:=S6.joinR H1;obtain⟨ga,j0,rfl,rfl,rfl,E0⟩:=Ra.pad (by omega);obtain⟨Bm,G2,dm,rfl⟩:=Rm.form;have KM:=A0a.refl Gm.toList D1;have i1:∀g∈(Gm.toList++((some ga).toList++(gb::g6::g4::g3::M)))++z6a i0,g<D1.heap.size:=by
  intro g hg;simp only[List.mem_append,List.mem_cons] at hg;rcases hg with(hg|hg|rfl|rfl|rfl|rfl|hg)|hg
  ·exact B7a C0 (k:=2) Z g hg
  ·exact B7a C0 (k:=1) Z g hg
  ·exact C0.lt 0 Z
  ·exact C0.lt 3 Z
  ·exact C0.lt 4 Z
  ·exact C0.lt 5 Z
  ·have:=hM g hg;have:=C0.size;omega
  ·obtain⟨x,hx,hg⟩:=v2a.1 hg;exact(C0.own x (List.mem_append_right _ hx) g hg).2.lt
 refine m0a C0 t4a Z Z ?_;intro g7 w7 S7 X7 G7;have F1:=Nat.le_trans KM.size G7;replace KM:=KM.trans (X7.of_nil);refine f0a (kk:=0) (vs:=[_,_,_]) S7 n2a Z Z Z Z Z Z Z ?_;intro H3 D0 M1;dsimp only[o0a,List.set] at D0;replace KM:=KM.fresh2 M1 (by exact .inl F1);refine lC1 Z (x0a b0a [0,1,2,3,4,5,6,7,8,9,10,11] [12] [13] Z (Cl _ _ _ _) (Cl.start D0) ?_);obtain⟨_,i3,C3,_,x2,V1,_,_,a2,o2⟩:=RdS.get (v3) (t) (by omega);obtain rfl:=Option.some.inj (R0.symm.trans x2);obtain⟨_,_,_,_,_,_,_,_,_,_,_,_,rfl,_,_,_,j1,_⟩:=S0a.open_ o2;obtain⟨_,j3,D3,_,y2,W1,_,i2,b2,p2⟩:=RdS.get (j1) (i) (by omega);obtain rfl:=Option.some.inj (z2.symm.trans y2);obtain⟨E1,B2,P1,T0,S0,b1,rfl,⟨_,_⟩,_,P0,_⟩:=D1a.open_ p2;refine qN ((D0.q.a b2).a a2) [.o 6,.o 5,.x i3 C3,.f 0 4,.o 5,.x j3 D3,.v 1] Z ⟨⟨Z,i2⟩,⟨W1,by omega⟩,Z,Z,⟨V1,by omega⟩,Z,Z,U⟩ (u3a ?_);refine C4a Z Z X9a Z ?_;refine J1a ?_;rintro q4 ⟨K1,h3⟩;intro g8 y3 G8 B3;dsimp only[X3a];have G1:=Nat.le_trans KM.size G8;replace KM:=KM.trans (h3.of_nil);clear B3;replace K1:=K1.push_new D0 y3 G8;refine f0a (kk:=0) (vs:=[_,_,_,_,_,_,_,_,_,_,_]) K1 Y9a Z Z Z Z Z Z Z ?_;intro O2 F0 Z0;dsimp only[o0a,List.set] at F0;replace KM:=KM.fresh2 Z0 (by exact .inl G1);refine lO1 Z (m0a F0 H7a Z Z ?_);intro g9 w9 S9 X9 G9;have V0:=Nat.le_trans KM.size G9;replace KM:=KM.trans (X9.of_nil);refine lC S9.k [.o 1] Z ⟨Z,U⟩ ?_;refine wL (fun μk D ε w=>D=[]∧∃k:Nat,∃Gc:Option Nat,∃T1:LV,∃vc:Value,∃Gv:Option Nat,∃U1:LV,∃vv:Value,∃L0:LV,(k+μk=(s.set.length))∧(A1a T4c 1 [] w0 Gc T1 vc ((T2b p s k).map U1a.cell))∧(A1a T4c 1 [] w0 Gv U1 vv ((T2b p s k).map fun a=>a.to.evl (r1a c t) (r1a c t)))∧(∀g∈Gc.toList++Gv.toList,D1.heap.size≤g)∧(E3a Gm 1 c.mem.length L0 (.slice Bm G2 dm) ((N8a (F0b p s k) (r1a c t) c.mem).map (Value.int .i64)))∧(A0a Gm.toList D1 w)∧St [] w0 w ([(Gc,3,T1),(Gv,3,U1),(some g9,278,[vc,vv]),(some g8,61,[.int .i64 s.kind,.int .i64 s.frm,.int .i64 s.to,.int .i64 s.guard.op,.int .i64 s.guard.w,.int .i64 s.guard.n,.slice E1 B2 P1,.slice T0 S0 b1,.bool s.release,.int .i64 s.target,.int .i64 s.module_]),(some g7,71,[.slice Bm G2 dm,.slice (some ⟨ga,0,none⟩) c.at_.length (c.at_.length+j0.length),.slice (some ⟨gb,0,none⟩) c.buf.length c.buf.length]),(some gb,189,vs),(some ga,3,c.at_.map (Value.int .i64)++j0),(Gm,3,L0),(some g6,71,[.slice none 0 0,.slice none 0 0,.slice none 0 0]),(some g4,75,[.int .i64 t,.int .i64 i,.int .i64 0]),(some g3,271,[.slice Xm xm ym,.slice Xa xa ya,.slice Xb xb yb,.slice Ac nc cc,.slice Am nm cm,.slice Al nl cl,.slice At nt ct,.int .i64 m])]++i0)∧Sl ε [(2,.slice Av nv cv),(3,.pointer (some ⟨g3,0,none⟩)),(4,.pointer (some ⟨g4,0,none⟩)),(6,.pointer (some ⟨g6,0,none⟩)),(7,.pointer (some ⟨g7,0,none⟩)),(8,.pointer (some ⟨g8,0,none⟩)),(9,.pointer (some ⟨g9,0,none⟩)),(29,.slice T0 S0 b1),(30,.int .i64 S0),(31,.int .i64 k)]) (μ:=(s.set.length)) ⟨Z,0,none,[],.slice none 0 0,none,[],.slice none 0 0,r3,by omega,by rw[p9a];exact A1a.nil,by rw[p9a];exact A1a.nil,by simp,by rw[u6b];exact Rm,KM,((S9.nilEnt 3).nilEnt 3),Z⟩ ?_;rintro μk D ε w ⟨rfl,k,Gc,T1,vc,Gv,U1,vv,L0,_,m1,s1,I0,Q0,KM,S,eZ⟩;refine wK eZ (wB1 Z (fun t3=>?_) fun t3=>?_)
 ·obtain⟨a,m3,E3,_,A3,X1,_,j2,d2,r2⟩:=RdS.get (P0) (k) (by omega);obtain⟨_,_,_,rfl,A2,Z1⟩:=b1a.open_ r2;have e0:=A3;have q1:=(u1.set a (c0a e0)).1;unfold M1a at q1;have q2:=x5a (u1.set a (c0a e0)).2.1 (r1a c t) (r1a c t);rw[(u1.set a (c0a e0)).2.2] at q2;have c4:=v0b hp a.cell;have q3:i64 (a.to.evl (r1a c t) (r1a c t)):=by unfold i64;omega
  refine lO (S.k.a d2) [.x m3 E3,.v 0] Z ⟨⟨Z,j2⟩,⟨X1,by omega⟩,U⟩ (m0a S K2b Z Z ?_);intro U3 i4 U2 Y2 S2;have U0:=Nat.le_trans KM.size S2;replace KM:=KM.trans (Y2.of_nil);refine f0a (kk:=0) (vs:=[_,_,_,_,_]) U2 R2b Z Z Z Z Z Z Z ?_;intro I3 p0 N1;dsimp only[o0a,List.set] at p0;replace KM:=KM.fresh2 N1 (by exact .inl U0);refine lO p0.k [.o 0] Z ⟨Z,U⟩ (y0a p0 i1b Z Z (o8a a.to M _ _ _ _ (r1a c t) (r1a c t) (RdE.keep (p0.keep0 M) _ _ Z1) (hI.keep (p0.keep0 M)).msk (hV.keep (p0.keep0 M)) (hV.keep (p0.keep0 M))) ?_);intro j4 t0 Z2;replace KM:=KM.trans (Z2.of_nil);refine lO1 Z (v0a K0a Z (by exact t0.cell 4 Z Z) Z ?_);refine lB1 Z (fun N0=>?_) fun N0=>?_
  ·refine lO1 Z (v0a t0b Z (by exact t0.cell 11 Z Z) Z ?_);obtain⟨_,n3,F3,_,x1,Y1,_,_,g2,s2⟩:=RdS.get (hC) (a.cell.toNat) (by omega);obtain⟨rfl,_⟩:=U2a.open_ s2;have s0:=j1a x1;refine lB (t0.k.a g2) [.o 0,.x n3 F3,.f 0 3] Z ⟨Z,⟨Y1,by omega⟩,Z,U⟩ (fun O0=>?_) fun O0=>?_
   ·refine lO1 Z (v0a z3a Z (by exact t0.cell 3 Z Z) Z ?_);refine lO t0.k [.o 0] Z ⟨Z,U⟩ (h0a t0 X0a (vs:=[.int .i64 _]) (cs:=[_]) Z Z Z Z Z Z ?_);intro V3 k4 D2 a3 M3;replace KM:=KM.trans (a3.of_nil);refine C0a (hll:=(by have:=N5a (p:=p) (s:=s) (k:=k);simp;omega)) C3a (k:=2) (M2:=[]) (e1:=a.cell) D2 X0a Z m1 Z Z (D2.cells 0 Z) ⟨Z,A2⟩ Z ?_;intro e4 P3 p3 m4 V2 o1 b3 P2;have R3:=KM.size;obtain⟨_,_,rfl⟩:=o1.form;replace KM:=KM.freshL b3 (fun g hg=>.inl (I0 g (List.mem_append_left _ hg)));refine lO1 Z ?_
    first|refine r0a (kk:=4) V2 Q2b Z Z Z (by exact Nat.le_of_ble_eq_true Z) ?_
    intro K3 X0 O1;replace KM:=KM.fresh2 O1 (by exact .inl V0);refine lO1 Z (v0a z3a Z (by exact X0.cell 4 Z Z) Z ?_);refine lO1 Z (h0a X0 X0a (vs:=[.int .i64 _]) (cs:=[_]) Z Z Z Z Z Z ?_);intro W3 n4 E2 d3 N3;replace KM:=KM.trans (d3.of_nil);refine C0a (hll:=(by have:=N5a (p:=p) (s:=s) (k:=k);simp;omega)) C3a (k:=4) (M2:=[]) (e1:=a.to.evl (r1a c t) (r1a c t)) E2 X0a Z s1 Z Z (E2.cells 0 Z) ⟨Z,q3⟩ Z ?_;intro f4 Q3 s3 o4 W2 t1 e3 Q2;have T3:=KM.size;obtain⟨_,_,rfl⟩:=t1.form;replace KM:=KM.freshL e3 (fun g hg=>.inl (I0 g (List.mem_append_right _ hg)));refine lO1 Z ?_
    first|refine r0a (kk:=5) W2 Q2b Z Z Z (by exact Nat.le_of_ble_eq_true Z) ?_
    intro N2 W0 Y0;replace KM:=KM.fresh2 Y0 (by exact .inl V0);refine lP1 Z ⟨μk-1,by omega,Z,k+1,_,_,_,_,_,_,_,by omega,?_,?_,?_,?_,(KM),W0.tail.tail.tail,Z⟩
    ·rw[(S7a N0 e0 (s0.trans O0)).1,List.map_append];exact o1
    ·rw[(S7a N0 e0 (s0.trans O0)).1,List.map_append];exact t1
    ·intro g hg;rcases List.mem_append.1 hg with hg|hg
     ·rcases P2 g hg with h|h
      ·exact I0 g (List.mem_append_left _ h)
      ·omega
     ·rcases Q2 g hg with h|h
      ·exact I0 g (List.mem_append_right _ h)
      ·omega
    ·rw[(S7a N0 e0 (s0.trans O0)).2];exact Q0
   obtain⟨gm,pad,rfl,w2,rfl,m2⟩:=Q0.pad (by simp;omega);have z3:(N8a (F0b p s k) (r1a c t) c.mem).length=c.mem.length:=by simp
   cases w2;refine lO1 Z (v0a z3a Z (by exact t0.cell 5 Z Z) Z ?_);refine lO t0.k [.o 0] Z ⟨Z,U⟩ (L0a X0a.slT Z Z Z ?_)
   first|refine r0a (kk:=8) t0 h8a Z Z Z (by(simp;omega)) ?_
   intro y1 u0 v0;replace KM:=KM.fresh2 v0 (by exact .inr (by simp));refine lP1 Z ⟨μk-1,by omega,Z,k+1,_,_,_,_,_,_,_,by omega,?_,?_,?_,?_,(KM),u0.tail,Z⟩
   ·rw[(U6a e0 (fun _=>by rw[s0];exact O0)).1];exact m1
   ·rw[(U6a e0 (fun _=>by rw[s0];exact O0)).1];exact s1
   ·exact I0
   ·have e2:F0b p s (k+1)=F0b p s k++[a]:=by exact(U6a e0 (fun _=>by rw[s0];exact O0)).2
    rw[e2,u7a];have:=E3a.ofPad (g:=gm) (l:=(N8a (F0b p s k) (r1a c t) c.mem).set a.cell.toNat (a.to.evl (r1a c t) (r1a c t))) (pad:=pad) (by simpa using m2);rw[←L6a (by omega)] at this;simpa using this
  obtain⟨gm,pad,rfl,w2,rfl,m2⟩:=Q0.pad (by simp;omega);have z3:(N8a (F0b p s k) (r1a c t) c.mem).length=c.mem.length:=by simp
  cases w2;refine lO1 Z (v0a z3a Z (by exact t0.cell 5 Z Z) Z ?_);refine lO t0.k [.o 0] Z ⟨Z,U⟩ (L0a X0a.slT Z Z Z ?_)
  first|refine r0a (kk:=8) t0 h8a Z Z Z (by(simp;omega)) ?_
  intro y1 u0 v0;replace KM:=KM.fresh2 v0 (by exact .inr (by simp));refine lP1 Z ⟨μk-1,by omega,Z,k+1,_,_,_,_,_,_,_,by omega,?_,?_,?_,?_,(KM),u0.tail,Z⟩
  ·rw[(U6a e0 (fun h=>absurd h N0)).1];exact m1
  ·rw[(U6a e0 (fun h=>absurd h N0)).1];exact s1
  ·exact I0
  ·have e2:F0b p s (k+1)=F0b p s k++[a]:=by exact(U6a e0 (fun h=>absurd h N0)).2
   rw[e2,u7a];have:=E3a.ofPad (g:=gm) (l:=(N8a (F0b p s k) (r1a c t) c.mem).set a.cell.toNat (a.to.evl (r1a c t) (r1a c t))) (pad:=pad) (by simpa using m2);rw[←L6a (by omega)] at this;simpa using this
 refine lO1 Z (v0a K0a Z (by exact S.cell 3 Z Z) Z ?_);refine lB1 Z (fun c1=>?_) fun c1=>?_
 ·have H0:=hR.keep (KM.mono (fun g hg=>List.mem_append_left _ (List.mem_append_left _ hg)));obtain⟨G,o3,v,C1,K2,t2⟩:=H0.2.2 t b v1;obtain⟨_,_,rfl⟩:=t2.form;obtain⟨_,_,rfl⟩:=m1.form;obtain⟨_,_,rfl⟩:=s1.form;have b4:vs.length=c.buf.length:=H0.2.1;have H2:∀g∈G.toList,g∈(Gm.toList++((some ga).toList++(gb::g6::g4::g3::M)))++z6a i0:=fun g hg=>List.mem_append_right _ (v2a.2 ⟨_,List.mem_of_getElem? C1,by cases G<;>simp at hg ⊢;exact hg.symm⟩);have d1:RdI ((Gm.toList++((some ga).toList++(gb::g6::g4::g3::M)))++z6a i0) w _ _:=A1a.rd (M:=(Gm.toList++((some ga).toList++(gb::g6::g4::g3::M)))++z6a i0) (w:=w) C3a m1 S (k:=0) Z (fun g hg hm=>by have:=I0 g (by rw[hg];simp);have:=i1 g hm;omega) (by have:=N5a (p:=p) (s:=s) (k:=k);simp;omega);have g1:RdI ((Gm.toList++((some ga).toList++(gb::g6::g4::g3::M)))++z6a i0) w _ _:=A1a.rd (M:=(Gm.toList++((some ga).toList++(gb::g6::g4::g3::M)))++z6a i0) (w:=w) C3a s1 S (k:=1) Z (fun g hg hm=>by have:=I0 g (by rw[hg];simp);have:=i1 g hm;omega) (by have:=N5a (p:=p) (s:=s) (k:=k);simp;omega);refine lC1 Z (i3b b0a (fun i=>[0,1,2,3,4,5,6,7,8,9,10,13].contains i) [0,1,2,3,4,5,6,7,8,9,10,11,12,13] 14 (clF (A:=[_,_,_,_,_,_,_,_,_,_,_]) (R:=i0) S G.toList) _ Z ?_);have c0:=S.drew;have z0:A0a [] w w.drew:=p2a _ _;generalize w.drew=L3 at c0 z0 ⊢;have d0:A0a (G.toList) _ _:=z0.of_nil;replace H0:=H0.keep z0.of_nil;replace d1:=d1.keep z0.of_nil;replace g1:=g1.keep z0.of_nil;refine t1a ⟨(St.front (A:=[_,_,_,_,_,_,_,_,_,_,_]) c0),d0⟩ Z Z Z ?_;refine H0a d4a Z Z ?_;refine e0a ?_;refine t1a ⟨(St.front (A:=[_,_,_,_,_,_,_,_,_,_,_]) c0),d0⟩ Z Z Z ?_;refine p0a m4a Z (fun w1 hw=>by exact hw.1.cell 4 Z Z) Z ?_;refine e0a ?_;refine t1a ⟨(St.front (A:=[_,_,_,_,_,_,_,_,_,_,_]) c0),d0⟩ Z Z Z ?_;refine H0a S6a Z Z ?_;refine e0a ?_;refine t1a ⟨(St.front (A:=[_,_,_,_,_,_,_,_,_,_,_]) c0),d0⟩ Z Z Z ?_;refine p0a K0a Z (fun w1 hw=>by exact hw.1.cell 9 Z Z) Z ?_;refine e0a ?_;refine t1a ⟨(St.front (A:=[_,_,_,_,_,_,_,_,_,_,_]) c0),d0⟩ Z Z Z ?_;refine H0a d4a Z Z ?_;refine e0a ?_;refine t1a ⟨(St.front (A:=[_,_,_,_,_,_,_,_,_,_,_]) c0),d0⟩ Z Z Z ?_;refine p0a m4a Z (fun w1 hw=>by exact hw.1.cell 4 Z Z) Z ?_;refine e0a ?_;refine t1a ⟨(St.front (A:=[_,_,_,_,_,_,_,_,_,_,_]) c0),d0⟩ Z Z Z ?_;refine H0a S6a Z Z ?_;refine e0a ?_;refine t1a ⟨(St.front (A:=[_,_,_,_,_,_,_,_,_,_,_]) c0),d0⟩ Z Z Z ?_;refine p0a K0a Z (fun w1 hw=>by exact hw.1.cell 9 Z Z) Z ?_;refine e0a ?_;refine t1a ⟨(St.front (A:=[_,_,_,_,_,_,_,_,_,_,_]) c0),d0⟩ Z Z Z ?_;refine q0a A3a.slT Z (by rfl) Z Z ?_;refine e0a ?_;refine t1a ⟨(St.front (A:=[_,_,_,_,_,_,_,_,_,_,_]) c0),d0⟩ Z Z Z ?_;refine p0a M7a Z (fun w1 hw=>by exact hw.1.cell 5 Z ((congrArg (vs[·]?) (show 0+(t:Int).toNat*1=t by simp)).trans K2)) Z ?_;refine e0a ?_;refine t1a ⟨(St.front (A:=[_,_,_,_,_,_,_,_,_,_,_]) c0),d0⟩ Z Z Z ?_;refine w1a g1b Z (fun w1 hw=>hw.1.cells 2 Z) Z Z ?_;refine e0a ?_;refine j8a ⟨(St.front (A:=[_,_,_,_,_,_,_,_,_,_,_]) c0),d0⟩ Z Z Z Z ?_;refine h0a c0 F2a (vs:=[.agg _]) (cs:=[_,_]) Z Z Z Z Z Z ?_;intro Y3 p4 I1 B1 O3;have G0:=d0.trans (B1.mono (by simp));replace H0:=H0.keep (B1.of_nil);replace d1:=d1.keep (B1.of_nil);replace g1:=g1.keep (B1.of_nil);refine D0a ⟨Z,?_⟩;refine j8a ⟨(St.front (A:=[_,_,_,_,_,_,_,_,_,_,_,_]) I1).tail,G0⟩ Z Z Z Z ?_;obtain⟨G',Q1,_,p1,v2,r1⟩:=H0.2.2 t b v1;obtain⟨rfl,rfl⟩:G=G'∧o3=Q1:=by rw[C1] at p1;cases p1;exact⟨Z,Z⟩
  obtain rfl:=Option.some.inj (K2.symm.trans v2);refine C0a R1a (k:=12+t) (e1:=⟨(T2b p s k).map U1a.cell,(T2b p s k).map fun a=>a.to.evl (r1a c t) (r1a c t)⟩) I1 F2a ((N6c [_,_,_,_,_,_,_,_,_,_,_,_] i0 t 12 Z).trans C1) r1 Z Z (I1.cells 0 Z) ⟨_,_,Z,d1.more (by omega) (fun g hg=>.inl (by rcases List.mem_append.1 hg with h|h;exact H2 g h;exact h)),g1.more (by omega) (fun g hg=>.inl (by rcases List.mem_append.1 hg with h|h;exact H2 g h;exact h))⟩ Z ?_;intro h4 T2 R1 J3 J1 A0 F2 R2;have X2:St [] w0 J3 ([_,_,_,_,_,_,_,_,_,_,_,_]++i0.set t (T2,278,R1)):=(W1d [_,_,_,_,_,_,_,_,_,_,_,_] i0 t 12 Z _)▸J1;have J0:=X2.tail;have a1:=G0.trans F2;have f0:=H0.put (k:=t) (by omega) A0 F2 R2 C1;obtain⟨_,_,u2⟩:=A0.form;subst u2;clear hR;refine D0a ⟨Z,?_⟩;refine t1a ⟨(St.front (A:=[_,_,_,_,_,_,_,_,_,_,_]) J0),a1⟩ Z Z Z ?_;refine q0a A3a.slT Z (by rfl) Z Z ?_;refine e0a ?_;refine K5a ⟨(St.front (A:=[_,_,_,_,_,_,_,_,_,_,_]) J0),a1⟩ ?_
  first|refine r0a (kk:=5) J0 c3b Z Z Z (by(simp;omega)) ?_
  intro C2 m0 K0;replace f0:=f0.keep (K0.mono (by simp));refine D0a ⟨Z,?_⟩
  try have f0:=hR.keep (KM.mono (fun g hg=>List.mem_append_left _ (List.mem_append_left _ hg)))
  refine fO0 Z U (v0a z3a Z (by exact m0.cell 4 Z Z) Z ?_);refine lO1 Z (v0a K0a Z (by exact m0.cell 9 Z Z) Z ?_);refine lO1 Z (v0a K0a Z (by exact m0.cell 3 Z Z) Z ?_);refine L0a X0a.slT Z Z Z ?_
  first|refine r0a (kk:=6) m0 h8a Z Z Z (by(simp;omega)) ?_
  intro z1 a0 x0;replace f0:=f0.keep (x0.mono (by simp));refine lO1 Z (v0a K0a Z (by exact a0.cell 3 Z Z) Z ?_);refine lB1 Z (fun q0=>?_) fun q0=>?_
  ·refine lO1 Z (v0a z3a Z (by exact a0.cell 4 Z Z) Z ?_);refine lO1 Z (v0a K0a Z (by exact a0.cell 3 Z Z) Z ?_);have q6:=I2 (by omega);refine L0a X0a.slT Z Z Z ?_
   first|refine r0a (kk:=6) a0 h8a Z Z Z (by(simp;omega)) ?_
   intro A1 n0 y0;replace f0:=f0.keep (y0.mono (by simp));refine lO1 Z (N1a V0a Z (n0.cells 4 Z) Z Z ?_)
   first|refine f0a (kk:=8) (vs:=[_,_,_]) n0 n2a Z Z Z Z Z Z Z ?_
   intro B0 b0 g0;dsimp only[o0a,List.set] at b0;replace f0:=f0.keep (g0.mono (by simp));refine lR1 Z ?_;have SF:=b0.setEnt 6 Z (show _=(atC c t s).map (Value.int .i64)++j0 by exact y7b q0);have r0:=E6a c t s;rw[c8a J2 c1 v1 (k:=k)] at o0 ⊢;have SG:=SF.setEnt 5 Z (congrArg (fun i=>vs.set i _) (show 0+(t:Int).toNat*1=t by simp));refine L1a (n:=3) Z V0a Z (SG.cells 8 Z) Z ⟨⟨_,Z,_,_,_,Z,Q0.rdI SG (k:=7) Z hM (B3a hp o0.mem) (by simp;omega),?_,?_⟩,SG.fin⟩
   ·have:=(E3a.ofPad (g:=ga) (l:=atC c t s) (pad:=j0) (by rw[r0];exact E0)).rdI SG (k:=6) Z hM (b7a hp o0) (by rw[r0];omega);rw[r0] at this;exact this
   ·have hA:=SG.apartM (A:=[_,_,_,_,_,_,_,_,_,_,_]) hM;have:=SG.rdBs (M:=M) 5 Z (Y0a hM (SG.new 5 Z)) (bs:=c.buf.set t _) (by simp;omega) (f0.rd (A:=[_,_,_,_,_,_,_,_,_,_,_]) SG (Mx:=M) (fun g hg=>by simp[hg]) hA (fun x hx=>by
     obtain⟨q,hq,rfl⟩:=List.getElem_of_mem hx;have:=(o0.bufs q _ (List.getElem?_eq_getElem hq)).1;omega))
    rw[List.length_set] at this;exact this
  refine lO1 Z (N1a V0a Z (a0.cells 4 Z) Z Z ?_)
  first|refine f0a (kk:=8) (vs:=[_,_,_]) a0 n2a Z Z Z Z Z Z Z ?_
  intro B0 b0 g0;dsimp only[o0a,List.set] at b0;replace f0:=f0.keep (g0.mono (by simp));refine lR1 Z ?_;have SF:=b0.setEnt 6 Z (show _=(atC c t s).map (Value.int .i64)++j0 by exact F3c q0);have r0:=E6a c t s;rw[c8a J2 c1 v1 (k:=k)] at o0 ⊢;have SG:=SF.setEnt 5 Z (congrArg (fun i=>vs.set i _) (show 0+(t:Int).toNat*1=t by simp));refine L1a (n:=3) Z V0a Z (SG.cells 8 Z) Z ⟨⟨_,Z,_,_,_,Z,Q0.rdI SG (k:=7) Z hM (B3a hp o0.mem) (by simp;omega),?_,?_⟩,SG.fin⟩
  ·have:=(E3a.ofPad (g:=ga) (l:=atC c t s) (pad:=j0) (by rw[r0];exact E0)).rdI SG (k:=6) Z hM (b7a hp o0) (by rw[r0];omega);rw[r0] at this;exact this
  ·have hA:=SG.apartM (A:=[_,_,_,_,_,_,_,_,_,_,_]) hM;have:=SG.rdBs (M:=M) 5 Z (Y0a hM (SG.new 5 Z)) (bs:=c.buf.set t _) (by simp;omega) (f0.rd (A:=[_,_,_,_,_,_,_,_,_,_,_]) SG (Mx:=M) (fun g hg=>by simp[hg]) hA (fun x hx=>by
    obtain⟨q,hq,rfl⟩:=List.getElem_of_mem hx;have:=(o0.bufs q _ (List.getElem?_eq_getElem hq)).1;omega))
   rw[List.length_set] at this;exact this
 try have f0:=hR.keep (KM.mono (fun g hg=>List.mem_append_left _ (List.mem_append_left _ hg)))
 refine lO1 Z (v0a z3a Z (by exact S.cell 4 Z Z) Z ?_);refine lO1 Z (v0a K0a Z (by exact S.cell 9 Z Z) Z ?_);refine lO1 Z (v0a K0a Z (by exact S.cell 3 Z Z) Z ?_);refine L0a X0a.slT Z Z Z ?_
 first|refine r0a (kk:=6) S h8a Z Z Z (by(simp;omega)) ?_
 intro z1 a0 x0;replace f0:=f0.keep (x0.mono (by simp));refine lO1 Z (v0a K0a Z (by exact a0.cell 3 Z Z) Z ?_);refine lB1 Z (fun q0=>?_) fun q0=>?_
 ·refine lO1 Z (v0a z3a Z (by exact a0.cell 4 Z Z) Z ?_);refine lO1 Z (v0a K0a Z (by exact a0.cell 3 Z Z) Z ?_);have q6:=I2 (by omega);refine L0a X0a.slT Z Z Z ?_
  first|refine r0a (kk:=6) a0 h8a Z Z Z (by(simp;omega)) ?_
  intro A1 n0 y0;replace f0:=f0.keep (y0.mono (by simp));refine lO1 Z (N1a V0a Z (n0.cells 4 Z) Z Z ?_)
  first|refine f0a (kk:=8) (vs:=[_,_,_]) n0 n2a Z Z Z Z Z Z Z ?_
  intro B0 b0 g0;dsimp only[o0a,List.set] at b0;replace f0:=f0.keep (g0.mono (by simp));refine lR1 Z ?_;have SF:=b0.setEnt 6 Z (show _=(atC c t s).map (Value.int .i64)++j0 by exact y7b q0);have r0:=E6a c t s;rw[B3b c1 (k:=k)] at o0 ⊢;have SG:=SF;refine L1a (n:=3) Z V0a Z (SG.cells 8 Z) Z ⟨⟨_,Z,_,_,_,Z,Q0.rdI SG (k:=7) Z hM (B3a hp o0.mem) (by simp;omega),?_,?_⟩,SG.fin⟩
  ·have:=(E3a.ofPad (g:=ga) (l:=atC c t s) (pad:=j0) (by rw[r0];exact E0)).rdI SG (k:=6) Z hM (b7a hp o0) (by rw[r0];omega);rw[r0] at this;exact this
  ·have hA:=SG.apartM (A:=[_,_,_,_,_,_,_,_,_,_,_]) hM;have:=SG.rdBs (M:=M) 5 Z (Y0a hM (SG.new 5 Z)) (bs:=c.buf) (by omega) (f0.rd (A:=[_,_,_,_,_,_,_,_,_,_,_]) SG (Mx:=M) (fun g hg=>by simp[hg]) hA (fun x hx=>by
    obtain⟨q,hq,rfl⟩:=List.getElem_of_mem hx;have:=(o0.bufs q _ (List.getElem?_eq_getElem hq)).1;omega))
   exact this
 refine lO1 Z (N1a V0a Z (a0.cells 4 Z) Z Z ?_)
 first|refine f0a (kk:=8) (vs:=[_,_,_]) a0 n2a Z Z Z Z Z Z Z ?_
 intro B0 b0 g0;dsimp only[o0a,List.set] at b0;replace f0:=f0.keep (g0.mono (by simp));refine lR1 Z ?_;have SF:=b0.setEnt 6 Z (show _=(atC c t s).map (Value.int .i64)++j0 by exact F3c q0);have r0:=E6a c t s;rw[B3b c1 (k:=k)] at o0 ⊢;have SG:=SF;refine L1a (n:=3) Z V0a Z (SG.cells 8 Z) Z ⟨⟨_,Z,_,_,_,Z,Q0.rdI SG (k:=7) Z hM (B3a hp o0.mem) (by simp;omega),?_,?_⟩,SG.fin⟩
 ·have:=(E3a.ofPad (g:=ga) (l:=atC c t s) (pad:=j0) (by rw[r0];exact E0)).rdI SG (k:=6) Z hM (b7a hp o0) (by rw[r0];omega);rw[r0] at this;exact this
 ·have hA:=SG.apartM (A:=[_,_,_,_,_,_,_,_,_,_,_]) hM;have:=SG.rdBs (M:=M) 5 Z (Y0a hM (SG.new 5 Z)) (bs:=c.buf) (by omega) (f0.rd (A:=[_,_,_,_,_,_,_,_,_,_,_]) SG (Mx:=M) (fun g hg=>by simp[hg]) hA (fun x hx=>by
   obtain⟨q,hq,rfl⟩:=List.getElem_of_mem hx;have:=(o0.bufs q _ (List.getElem?_eq_getElem hq)).1;omega))
  exact this
def NC(w:World)(rs:List (Nat×Obj)):Prop:=∀x∈rs,w.heap[x.1]?=some x.2∧∀a t f,x.2≠.cells a t f
theorem NC.nil{w:World}:NC w []:=fun x hx=>by cases hx
theorem NC.lt{w:World}{rs:List (Nat×Obj)}(h:NC w rs):∀x∈rs,x.1<w.heap.size:=fun x hx=>by
 have:=(h x hx).1;rcases Nat.lt_or_ge x.1 w.heap.size with h'|h'
 ·exact h'
 ·rw[Array.getElem?_eq_none h'] at this;cases this
theorem NC.keep{w w':World}{rs:List (Nat×Obj)}(h:NC w rs)(k:A0a [] w w'):NC w' rs:=fun x hx=>⟨(k.same x.1 (h.lt x hx) (by simp)).trans (h x hx).1,(h x hx).2⟩
theorem NC.ne{w:World}{rs:List (Nat×Obj)}(h:NC w rs){g t:Nat}{cs:LV}(hg:z0a w (g,t,cs)):∀x∈rs,x.1≠g:=fun x hx he=>by
 have h1:=(h x hx).1;rw[he] at h1;unfold z0a at hg;rw[hg] at h1;exact(h x hx).2 _ _ _ (Option.some.inj h1).symm
theorem NC.keepS{w w':World}{rs:List (Nat×Obj)}(h:NC w rs){g t:Nat}{cs:LV}(k:A0a [g] w w')(hg:z0a w (g,t,cs)):NC w' rs:=fun x hx =>
 ⟨(k.same x.1 (h.lt x hx) (by rw[List.mem_singleton];exact h.ne hg x hx)).trans (h x hx).1,(h x hx).2⟩
theorem NC.keepL{w w':World}{rs:List (Nat×Obj)}(h:NC w rs){Gs:List Nat}(k:A0a Gs w w')(hg:∀g∈Gs,∃t cs,z0a w (g,t,cs)):NC w' rs:=fun x hx =>
 ⟨(k.same x.1 (h.lt x hx) (fun hh=>by obtain⟨t,cs,hb⟩:=hg _ hh;exact h.ne hb x hx Z)).trans (h x hx).1,(h x hx).2⟩
theorem NC.tail{w:World}{x:Nat×Obj}{rs:List (Nat×Obj)}(h:NC w (x::rs)):NC w rs:=fun y hy=>h y (List.mem_cons_of_mem _ hy)
theorem NC.cons{w:World}{x:Nat×Obj}{rs:List (Nat×Obj)}(h:NC w rs)(h1:w.heap[x.1]?=some x.2)(h2:∀a t f,x.2≠.cells a t f):NC w (x::rs):=fun y hy=>by
 rcases List.mem_cons.1 hy with rfl|hy
 ·exact⟨h1,h2⟩
 ·exact h y hy
theorem NC.put{w:World}{l:Nat}{o o':Obj}{rs:List (Nat×Obj)}(h:NC w ((l,o)::rs))(hl:∀x∈rs,x.1≠l)(ho:∀a t f,o'≠.cells a t f):NC (w.putObj l o') ((l,o')::rs):=by
 have a0:=h.lt (l,o) (by simp);refine NC.cons (fun x hx=>⟨?_,(h.tail x hx).2⟩) (World.putObj_heap_same a0) ho;rw[World.putObj_heap_other (hl x hx)];exact(h.tail x hx).1
theorem St.putObj{M:List Nat}{w0 w:World}{L:List Ent}(S:St M w0 w L){l:Nat}(o:Obj){rs:List (Nat×Obj)}{o1:Obj}(h:NC w rs)(hx:(l,o1)∈rs)(hl:w0.heap.size≤l∨l∈M):St M w0 (w.putObj l o) L:=by
 refine⟨S.below.putObj o hl,fun b hb g hg=>⟨(S.own b hb g hg).1,(S.own b hb g hg).2.putObj (fun he=>?_)⟩,S.apart⟩;exact h.ne (S.own b hb g hg).2 _ hx he.symm
def t8a(rs:List Nat):List (Nat×Obj):=rs.map fun r=>(r,.deferred (some []))
theorem c3c{rs:List Nat}{x:Nat×Obj}(h:x∈t8a rs):x.1∈rs:=by
 obtain⟨_,hr,rfl⟩:=List.mem_map.1 h;exact hr
def T6a(P:Program)(fn:Func)(R:Value→World→Prop)(D:List Deferred)(e:Env)(w:World):Prop :=
 ∃rs:List Nat,D=rs.map H5a∧rs.Nodup∧NC w (t8a rs)∧∀w',W0a rs w w'→w'.heap.size=w.heap.size→∀tmps:Array Value,c1a { tmps,defers:=[] }=e→∃v,(results fn tmps).run P w'=.ok v w'∧R v w'
theorem C0b{P:Program}{fn:Func}{tmps:Array Value}{R:Value→World→Prop}:∀(rs:List Nat) (w:World),rs.Nodup→NC w (t8a rs)→(∀w',W0a rs w w'→w'.heap.size=w.heap.size→∃v,(results fn tmps).run P w'=.ok v w'∧R v w') →
 LeavesInM Fence.wide 0 P fn tmps (fun en w'=>∃v,en=.returned v∧R v w') (rs.map H5a) .returning w
 | [],w,_,_,h=>by
   obtain⟨v,h1,h2⟩:=h w (W0a.refl _ _) Z;exact⟨v,h1,v,Z,h2⟩
 | r::rs,w,hn,hO,h=>by
   obtain⟨a0,b0⟩:=List.nodup_cons.1 hn;have hr:w.heap[r]?=some (.deferred (some [])):=(hO (r,.deferred (some [])) (by simp[t8a])).1;refine⟨by simp,.inl ⟨r,_,Z,run_takeDeferred hr,C0b rs _ b0 (fun x hx=>⟨?_,(hO x (by simp[t8a] at hx ⊢;exact .inr hx)).2⟩) fun w' hb hs=>?_⟩⟩
   ·rw[World.putObj_heap_other (show x.1≠r from fun he=>a0 (by rw[←he];exact c3c hx))];exact(hO x (by simp[t8a] at hx ⊢;exact .inr hx)).1
   ·refine h w' ⟨hb.os,hb.tape,hb.output,by simpa using hb.size,fun k hk hm=>?_⟩ (by simpa using hs);simp only[List.mem_cons,not_or] at hm;rw[hb.block k (by simpa using hk) hm.2,World.putObj_heap_other hm.1]
theorem M3a{P:Program}{N:Nat}{w:World}{f:FuncId}{fn:Func}{c:Code}{args:Array Value}{R:Value→World→Prop}(hf:P.funcs[f]?=some fn)(hb:fn.body=some c)(hN:fn.ntmps=N)(a0:Nat.ble args.size N=true)
 (h:W P none N c ⟨T6a P fn R,fun _ _ _ _=>False,T6a P fn R⟩ [] (p1b args) w):M0a P f args w R:=by
 subst hN;unfold W at h;have b0:(args++Array.replicate (fn.ntmps-args.size) undef).size=fn.ntmps:=by
  have:=Nat.le_of_ble_eq_true a0;simp;omega
 have h1:=h { tmps:=args++Array.replicate (fn.ntmps-args.size) undef,defers:=[] } b0 Z (V1b _ _);have key:∀(a:Act) (w:World),T6a P fn R a.defers (c1a a) w→LeavesInM Fence.wide 0 P fn a.tmps (fun en w'=>∃v,en=.returned v∧R v w') a.defers .returning w:=by
  intro a w hq;obtain⟨rs,hD,hn,hO,hq⟩:=hq;rw[hD];exact C0b rs w hn hO fun w' hb hs=>hq w' hb hs a.tmps Z
 refine callsIn_wide (n:=0).1 (callsIn_of_wp_marks hf hb trivial (wpIn_mono h1 fun ex a w hq=>?_));cases ex with
 | normal=>exact key a w hq.2
 | ret=>exact key a w hq.2
 | exit id=>exact hq.2
 | goto l=>exact hq
 | panic c=>exact hq.elim
 | outgrown=>exact hq.elim
section
variable {P:Program} {fn:Func} {R:Value→World→Prop} {D:List Deferred} {e:Env} {w:World}
theorem C2a{a1 t1 n a2 t2 g1 g2:Nat}{cs:LV}{v2:Value}(h:fn.results=#[.cell a1 t1,.cell a2 t2])(hM:q9a P t1 n)(a0:One P t2)(e1:e a1=.pointer (some ⟨g1,0,none⟩))(e2:e a2=.pointer (some ⟨g2,0,none⟩))(d0:cs.length=n)
 (rs:List Nat) (hD:D=rs.map H5a) (hn:rs.Nodup) (hO:NC w (t8a rs)) (b0:O1a w g1 0 cs) (c0:w.cell? ⟨g2,0,none⟩=some v2) (hR:∀w',W0a rs w w'→R (.tuple #[.agg cs.toArray,v2]) w') (hg1:g1∉rs:=by simp) (hg2:g2∉rs:=by simp):T6a P fn R D e w :=
 ⟨rs,hD,hn,hO,fun w' hb _ tmps he=>by
  have hk:A0a rs w w':=⟨hb.size,hb.block⟩;have c1:=b0.keep hk hg1;have c2:=hk.cell (a:=⟨g2,0,none⟩) hg2 c0;subst he;subst d0;simp only[c1a,Array.getD_eq_getD_getElem?] at e1 e2;have h1:=run_loadCells_list (P:=P) w' ⟨g1,0,none⟩ cs (fun j v hj=>by rw[Addr.add_lit];exact c1 j v hj);have h2:(loadVar t2 ⟨g2,0,none⟩).run P w'=.ok v2 w':=by rw[a0 w'];simp[load,Sem.run,c2]
  exact⟨_,by simp[results,h,asAddr,e1,e2,hM w',h1,h2],hR w' hb⟩⟩
end
theorem A0a.of_belowM{M:List Nat}{w w':World}(h:W0a M w w'):A0a M w w':=⟨h.size,h.block⟩
theorem Q6a{w wi:World}{rs:List (Nat×Obj)}{rc:Loop}(hO:NC w rs)(a0:wi.heap[w.heap.size]?=some (.deferred (some [])))(hl:wi.heap[w.heap.size+1]?=some (.loop rc))(hB:Below w.heap.size w wi):NC wi ((w.heap.size+1,.loop rc)::(w.heap.size,.deferred (some []))::rs) :=
 ((hO.keep (A0a.of_below hB)).cons a0 (by simp)).cons hl (by simp)
theorem A4a{m:Int}{b:List J0a}{i:Nat}{en:J0a}(h:b[i]?=some en):e4a m b i=(decide (i=0)||(decide (m=2)&&!((b.take i).any fun o=>N9a o en))):=by
 unfold e4a
 congr 2
 rw[Bool.eq_iff_iff];rw[List.all_eq_true,Bool.not_eq_true',List.any_eq_false];have a0:=m1a h;constructor
 ·intro h1 o ho;obtain⟨j,hj,rfl⟩:=List.getElem_of_mem ho;rw[List.length_take] at hj;have:=h1 j (List.mem_range.2 (by omega));rw[h,List.getElem?_eq_getElem (by omega)] at this;rw[List.getElem_take];simpa using this
 ·intro h1 j hj;have hj:=List.mem_range.1 hj;rw[h,List.getElem?_eq_getElem (show j<b.length by omega)];have:=h1 b[j] (by rw[List.mem_take_iff_getElem];exact⟨j,by omega,Z⟩);simpa using this
theorem c8c(cs:LV)(h8:cs.length=8)(t:Int)(w0:World):
 M0a prog 239 #[.agg cs.toArray,.int .i64 t] w0 fun v w'=>(∃gs gt,v=.func (.func 285) #[] #[.pointer (some ⟨gs,0,none⟩),.pointer (some ⟨gt,0,none⟩)]∧w0.heap.size≤gs∧w0.heap.size≤gt∧z0a w' (gs,271,cs)∧z0a w' (gt,3,[.int .i64 t]))∧Bw w0 w':=by
 have S:=St.refl w0
 match cs,h8 with
 | [c0,c1,c2,c3,c4,c5,c6,c7],_ =>
 refine a0a func239 Z ntmps239 Z ?_;refine wO1 Z (i0a S Z ?_);intro g2 w2 S2 X2 G2;refine H9a S2 (v:=.int .i64 _) Z Z Z ?_;intro g3 w3 S3 X3 G3;refine lO1 Z (h2a Z Z ?_);refine lR1 Z (t0a Z ?_);exact⟨⟨g2,g3,Z,by simpa using S3.new 1 Z,by simpa using S3.new 0 Z,S3.blk 1 Z,S3.blk 0 Z⟩,S3.fin⟩
theorem m5c(c:E0a)(m:Int)(t:Nat)(b:List J0a)(R0:c.buf[t]?=some b)(gs gt l:Nat)(Mf:List Nat)(w0:World)(xs ps:LV)(b1:ps.length=4)(J:Nat→World→Prop)(Q:World→Prop)
 (hX:B0a Mf w0 c xs) (a1:gs∉Mf) (P0:z0a w0 (gs,271,xs++(ps++[.int .i64 m]))) (Z0:z0a w0 (gt,3,[.int .i64 t]))
 (X0:J 0 w0) (Y0:∀i w,J i w→A0a Mf w0 w) (r0:∀i w w',J i w→Below w.heap.size w w'→J i w') (O0:∀i w,J i w→i<b.length→e4a m b i=false→J (i+1) w)
 (hY:∀(i:Nat) (en:J0a) (w:World) (es:LV),b[i]?=some en→e4a m b i=true→J i w→(∀(M':List Nat) (w':World),(∀g∈M',g∈Mf∨w0.heap.size≤g)→A0a M' w0 w'→Q0a M' w' es en)→Yld prog l #[.int .i64 i,.agg es.toArray] w fun v w'=>(v=.bool true∧J (i+1) w')∨(v=.bool false∧Q w')) :
 M0a prog 285 #[.func (.yield l) #[] #[],.pointer (some ⟨gs,0,none⟩),.pointer (some ⟨gt,0,none⟩)] w0 fun _ w'=>J b.length w'∨Q w':=by
 obtain⟨_,_,_,_,_,_,Xb,xb,yb,rfl,_,_,x0,_⟩:=hX.open_
 match ps,b1 with
 | [c3,c4,c5,c6],_ =>
 have S:=St.refl w0;have z0:w0.cell? ⟨gs,2,none⟩=some (.slice Xb xb yb):=P0.cell Z;have A0:w0.cell? ⟨gt,0,none⟩=some (.int .i64 t):=Z0.cell Z;have ht:=m1a R0;refine a0a func285 Z ntmps285 Z ?_;refine wO1 Z (v0a m4a Z (by exact S.old z0) Z ?_);refine v0a K0a Z (by exact S.old A0) Z ?_;obtain⟨_,U0,c1,_,G0,u0,_,_,B0,E0⟩:=RdS.get (x0) (t) (by omega);obtain rfl:=Option.some.inj (R0.symm.trans G0);obtain⟨p0,c0,g0,rfl,d0,_⟩:=V4a.open_ E0;refine lC (S.k.a B0) [.x U0 c1,.f 0 0] Z ⟨Z,⟨u0,by omega⟩,U⟩ (wL (fun μ D ε w=>D=[]∧∃k:Nat,(k+μ=b.length)∧(J k w)∧ε 0=.func (.yield l) #[] #[]∧ε 1=.pointer (some ⟨gs,0,none⟩)∧ε 4=.slice p0 c0 g0∧ε 13=.slice p0 c0 g0∧ε 14=.int .i64 c0∧ε 15=.int .i64 k) (μ:=b.length) ⟨Z,0,by omega,X0,Z,Z,Z,Z,Z,Z⟩ ?_);rintro μ D ε w ⟨rfl,k,hk,hJ,e0,e1,e4,J0,K0,L0⟩;refine u0a 0 e0 (u0a 1 e1 (u0a 4 e4 (u0a 13 J0 (u0a 14 K0 (u0a 15 L0 ?_)))));clear e0 e1 e4 J0 K0 L0;have q0:=Y0 _ _ hJ;have v0:=RdS.keepW d0 q0 (Q0a.keep q0);have j0:=(RdS.mono d0 (R':=fun cs x=>∀(M':List Nat) (w':World),(∀g∈M',g∈Mf∨w0.heap.size≤g)→A0a M' w0 w'→Q0a M' w' cs x) (fun cs x h M' w' hm hk=>Q0a.keep hk _ _ (Q0a.more hm _ _ h))).keep q0;have y0:w.cell? ⟨gs,7,none⟩=some (.int .i64 m):=q0.cell (a:=⟨gs,7,none⟩) a1 (P0.cell Z);replace S:=St.refl w;refine wB1 Z (fun V0=>?_) fun V0=>?_
 ·obtain⟨en,I0,S0,_,a0,i0,_,D0,C0,o0⟩:=RdS.get (j0) (k) (by omega);have Q0:=o0 Mf _ (fun g hg=>.inl hg) q0;obtain⟨_,_,_,_,_,_,rfl,-⟩:=Q0a.open_ Q0;refine lO (S.k.a C0) [.x I0 S0,.v 0] Z ⟨⟨Z,D0⟩,⟨i0,by omega⟩,U⟩ (m0a S H7a Z Z ?_);intro g6 w6 S6 X6 G6;refine lO1 Z ?_
  first|refine f0a (kk:=0) (vs:=[_,_]) S6 Q8a Z Z Z Z Z Z Z ?_
  intro g1 f0 T0;dsimp only[o0a,List.set] at f0;refine lC1 Z (x0a b0a [0,1,2,3,4,5,6,7,8,9,10,11,12,13] [] [] Z (Cl _ _ _ _) (Cl.start f0) ?_);refine qB1 Z (fun W0=>?_) fun W0=>?_
  ·refine qO1 Z (p0a K0a Z (fun w1 hw=>by exact hw.1.old y0) Z ?_);refine qB1 Z (fun N0=>?_) fun N0=>?_
   ·refine lV Z ?_;rintro H0 ⟨b0,s0⟩;refine lP1 Z ?_;exact⟨μ-1,by omega,Z,k+1,by omega,r0 _ _ _ (O0 _ _ hJ (by omega) (by rw[A4a a0,decide_eq_false (show ¬k=0 by omega),decide_eq_false (show ¬m=2 from N0)];rfl)) b0.fin,Z,Z,Z,Z,Z,Z⟩
   refine qO1 Z ?_;refine c7b (h2:=(by have:=j0.len;omega)) (lo:=0) (hi:=k) (kd:=.i64) F2a.slT (show _=Value.slice (some ⟨I0,S0,none⟩) c0 g0 by rw[←i0];rfl) (.inl ⟨Z,Z⟩) (.inr Z) j0.len.2.1 Z ?_;simp only[Nat.zero_mul,Nat.add_zero,Nat.sub_zero,ite_self];refine qO f0.q [.w 0] Z ⟨⟨Z,by rfl⟩,U⟩ (X1a z7c Z Z (fun w1 S1 X1=>n0c (b.take k) en Mf _ _ _ (RdS.take (RdS.keepW (i0▸v0) (S1.keep0 Mf) (Q0a.keep (S1.keep0 Mf))) k (by omega)) (Q0a.keep (S1.keep0 Mf) _ _ Q0)) (fun t0=>?_) fun t0=>?_)
   ·refine lV Z ?_;rintro H0 ⟨b0,s0⟩;refine lP1 Z ?_;exact⟨μ-1,by omega,Z,k+1,by omega,r0 _ _ _ (O0 _ _ hJ (by omega) (by rw[A4a a0,decide_eq_false (show ¬k=0 by omega),t0];simp)) b0.fin,Z,Z,Z,Z,Z,Z⟩
   refine lV Z ?_;rintro H0 ⟨b0,s0⟩;refine lO b0.k [.w 0] Z ⟨⟨Z,by rfl⟩,U⟩ ?_;have F0:e4a m b k=true:=by
    rw[A4a a0];rw[decide_eq_true (show m=2 by omega),t0];simp
   refine e0b Z Z Z (hY k en _ _ a0 F0 (r0 _ _ _ hJ b0.fin) o0) ?_;rintro d1 f1 (⟨rfl,m0⟩|⟨rfl,n0⟩)
   ·exact lP1 Z ⟨μ-1,by omega,Z,k+1,by omega,m0,Z,Z,Z,Z,Z,Z⟩
   refine lR1 Z (c2a Z ?_);exact .inr n0
  refine lV Z ?_;rintro H0 ⟨b0,s0⟩;refine lO b0.k [.w 0] Z ⟨⟨Z,by rfl⟩,U⟩ ?_;have F0:e4a m b k=true:=by
   rw[A4a a0];rw[decide_eq_true (show k=0 by omega)];rfl
  refine e0b Z Z Z (hY k en _ _ a0 F0 (r0 _ _ _ hJ b0.fin) o0) ?_;rintro d1 f1 (⟨rfl,m0⟩|⟨rfl,n0⟩)
  ·exact lP1 Z ⟨μ-1,by omega,Z,k+1,by omega,m0,Z,Z,Z,Z,Z,Z⟩
  refine lR1 Z (c2a Z ?_);exact .inr n0
 refine lF1 Z (c2a Z ?_);obtain rfl:k=b.length:=by omega
 exact .inl hJ
theorem a1b{rc:Loop}(b0:rc.state=.ready)(a0:rc.pending=none):({ ({ rc with state:=.busy }:Loop) with state:=if(none:Option Code).isNone then .ready else .done,pending:=none }:Loop)=rc:=by
 cases rc;simp at b0 a0 ⊢;exact⟨b0.symm,a0.symm⟩
theorem G9c{M:List Nat}{w0 w:World}{L:List Ent}(S:St M w0 w L)(k:Nat){G:Option Nat}{t:TypeId}{cs:LV}(hk:L[k]?=some (G,t,cs)):∀g∈G.toList,∃t cs,z0a w (g,t,cs):=fun g hg=>by
 have:G=some g:=by cases G<;>simp at hg ⊢;exact hg.symm
 subst this;exact⟨_,_,S.blk k hk⟩
theorem v1c{w0 w:World}{L:List Ent}(S:St [] w0 w L)(k:Nat){G:Option Nat}{t:TypeId}{cs:LV}(hk:L[k]?=some (G,t,cs)):∀g∈G.toList,w0.heap.size≤g:=fun g hg=>by
 have:G=some g:=by cases G<;>simp at hg ⊢;exact hg.symm
 subst this;simpa using S.new k hk
def N0b(p:g0a)(m:Int)(c:E0a)(x:d0a):E0a×Int:=if x∈P0a p m c then(doC p m c x,0) else(⟨[],[],[]⟩,110)
theorem J3a{p:g0a}{m:Int}{c:E0a}{x:d0a}(h:x∈P0a p m c):N0b p m c x=(doC p m c x,0):=if_pos h
theorem p3a{p:g0a}{m:Int}{c:E0a}{x:d0a}(h:x∉P0a p m c):N0b p m c x=(⟨[],[],[]⟩,110):=if_neg h
theorem S2a{M:List Nat}{w:World}:B0a M w ⟨[],[],[]⟩ [.slice none 0 0,.slice none 0 0,.slice none 0 0]:=⟨_,_,_,Z,a2a,a2a,a2a⟩
section
variable {p:g0a} {m:Int} {c:E0a} {t:Nat} {b:List J0a}
theorem u3b{x:d0a}(h:x.thread<0∨p.threads.length≤x.thread):x∉P0a p m c:=fun hx=>by
 obtain⟨_,_,⟨i,_,_,_,rfl⟩|⟨i,_,_,rfl⟩⟩:=Y1a.1 hx
 ·simp at h;omega
 ·simp at h;omega
theorem g4c{x:d0a}(h:x.step < -1):x∉P0a p m c:=fun hx=>by
 obtain⟨_,_,⟨i,_,_,_,rfl⟩|⟨i,_,_,rfl⟩⟩:=Y1a.1 hx
 ·simp at h;omega
 ·simp at h
theorem I5c{st cell:Int}(hs:0≤st)(h:¬cell=0):(⟨t,st,cell⟩:d0a)∉P0a p m c:=fun hx=>by
 obtain⟨t,_,⟨i,_,_,_,h1⟩|⟨i,_,_,h1⟩⟩:=Y1a.1 hx
 ·simp at h1;omega
 ·simp at h1;omega
theorem v4c{th:i1a}(a0:p.threads[t]?=some th){st cell:Int}(hs:0≤st)(h:th.steps.length≤st):(⟨t,st,cell⟩:d0a)∉P0a p m c:=fun hx=>by
 obtain⟨t',_,⟨i,_,h1,_,h2⟩|⟨i,_,_,h1⟩⟩:=Y1a.1 hx
 ·simp only[d0a.mk.injEq] at h2;obtain⟨_,rfl,rfl⟩:=h2;obtain rfl:t=t':=by omega
  rw[Q1a a0] at h1;have:=m1a h1;omega
 ·simp at h1;omega
theorem i0d{th:i1a}(a0:p.threads[t]?=some th){i:Nat}{s:p1a}(hs:th.steps[i]?=some s){cell:Int}(h:d1a p m c t s=false):(⟨t,i,cell⟩:d0a)∉P0a p m c:=fun hx=>by
 obtain⟨t',_,⟨i',_,h1,h2,h3⟩|⟨i',_,_,h1⟩⟩:=Y1a.1 hx
 ·simp only[d0a.mk.injEq] at h3;obtain⟨_,_,rfl⟩:=h3;obtain rfl:t=t':=by omega
  obtain rfl:i=i':=by omega
  rw[Q1a a0,hs] at h1;cases h1;rw[h] at h2;cases h2
 ·simp only[d0a.mk.injEq] at h1;omega
theorem S8c{th:i1a}(a0:p.threads[t]?=some th){i:Nat}{s:p1a}(hs:th.steps[i]?=some s)(h:d1a p m c t s=true):(⟨t,i,0⟩:d0a)∈P0a p m c :=
 Y1a.2 ⟨t,m1a a0,.inl ⟨i,s,by rw[Q1a a0];exact hs,h,Z⟩⟩
theorem s1d{th:i1a}(a0:p.threads[t]?=some th){i:Nat}{s:p1a}(hs:th.steps[i]?=some s):doC p m c ⟨t,i,0⟩=i7a p m c t s:=v8b (by rw[Q1a a0];exact hs)
theorem X4c(hb:c.buf[t]?=some b){xc:Int}(h:∀q en,q<b.length→b[q]?=some en→e4a m b q=true→en.cells.getD 0 0≠xc):(⟨t,-1,xc⟩:d0a)∉P0a p m c:=fun hx=>by
 obtain⟨t',_,⟨_,_,h1,h2,h3⟩|⟨i,h1,h2,h3⟩⟩:=Y1a.1 hx
 ·simp only[d0a.mk.injEq] at h3;omega
 ·simp only[d0a.mk.injEq] at h3;obtain⟨_,-,h3⟩:=h3;obtain rfl:t=t':=by omega
  rw[getD_some hb] at h1 h2 h3;have hx:b[i]?=some b[i]:=List.getElem?_eq_getElem h1;rw[getD_some hx] at h3;exact h i _ h1 hx h2 h3.symm
theorem V8c(ht:t<p.threads.length)(hb:c.buf[t]?=some b){i:Nat}{en:J0a}(hx:b[i]?=some en)(hr:e4a m b i=true):(⟨t,-1,en.cells.getD 0 0⟩:d0a)∈P0a p m c :=
 Y1a.2 ⟨t,ht,.inr ⟨i,by rw[getD_some hb];exact m1a hx,by rw[getD_some hb];exact hr,by rw[getD_some hb,getD_some hx]⟩⟩
theorem C9c(hb:c.buf[t]?=some b)(a0:∀e∈b,e.cells≠[]){i:Nat}{en:J0a}(hx:b[i]?=some en)(hr:e4a m b i=true):doC p m c ⟨t,-1,en.cells.getD 0 0⟩=Q4a c t i:=by
 unfold doC;rw[if_pos rfl];simp only[Int.toNat_natCast];rw[getD_some hb];have:(b.findIdx? fun e=>decide (e.cells.getD 0 0=en.cells.getD 0 0))=some i:=by
  rw[List.findIdx?_eq_some_iff_getElem];refine⟨m1a hx,?_,fun j hj=>?_⟩
  ·have:=(List.getElem?_eq_some_iff.1 hx).2;rw[this];simp
  ·simp only[decide_eq_true_eq];intro he;have f0:=m1a hx;have e0:b[j]?=some b[j]:=List.getElem?_eq_getElem (by omega);have d0:¬i=0:=by omega
   rw[A4a hx,decide_eq_false d0] at hr;simp only[Bool.false_or,Bool.and_eq_true,Bool.not_eq_true',List.any_eq_false] at hr;have h1:=hr.2 b[j] (by rw[List.mem_take_iff_getElem];exact⟨j,by omega,Z⟩);apply h1;rw[f8a];have c0:=a0 en (c0a hx);have b0:=a0 b[j] (List.getElem_mem _);refine⟨en.cells.getD 0 0,?_,?_⟩
   ·cases hc:en.cells with
    | nil=>exact absurd hc c0
    | cons a l=>simp
   ·rw[←he];cases hc:(b[j]).cells with
    | nil=>exact absurd hc b0
    | cons a l=>simp
 rw[this];rfl
end
theorem L8a{w0 w:World}{L:List Ent}{M:List Nat}(S:St [] w0 w L){i j g g' t t':Nat}{cs a0:LV}(h0:L[i]?=some (some g,t,cs))(h1:L[j]?=some (some g',t',a0)):∀x∈g::g'::M,x∈M∨w0.heap.size≤x:=fun x hx=>by
 rcases List.mem_cons.1 hx with rfl|hx
 ·exact .inr (by simpa using S.new i h0)
 ·rcases List.mem_cons.1 hx with rfl|hx
  ·exact .inr (by simpa using S.new j h1)
  ·exact .inl hx
theorem q3b{w0 w:World}{L:List Ent}{M:List Nat}(S:St [] w0 w L){i j g g' t t':Nat}{cs a0:LV}(h0:L[i]?=some (some g,t,cs))(h1:L[j]?=some (some g',t',a0))(hM:∀g∈M,g<w0.heap.size):∀x∈g::g'::M,x<w.heap.size:=fun x hx=>by
 rcases List.mem_cons.1 hx with rfl|hx
 ·exact S.lt i h0
 ·rcases List.mem_cons.1 hx with rfl|hx
  ·exact S.lt j h1
  ·exact Nat.lt_of_lt_of_le (hM x hx) S.size
theorem InP.two{p:g0a}{M:List Nat}{w0 w:World}{cs:LV}(h:InP p M w0 cs){L:List Ent}(S:St [] w0 w L){i j g g' t t':Nat}{ds a0:LV}(h0:L[i]?=some (some g,t,ds))(h1:L[j]?=some (some g',t',a0)):InP p (g::g'::M) w cs :=
 ⟨(h.rd.more (L8a S h0 h1)).keep (S.keep0 _),h.ok,(h.msk.more (L8a S h0 h1)).keep (S.keep0 _),q3b S h0 h1 h.lt⟩
theorem j6b(p:g0a)(c:E0a)(x:d0a)(M:List Nat)(w0:World)(cs xs:LV)(hI:InP p M w0 cs)(hX:B0a M w0 c xs)(hf:U5a p c)(he:G5a c)(hx:x∉P0a p 0 c):
 M0a prog 33 #[.agg cs.toArray,.agg xs.toArray,.agg #[.int .i64 x.thread,.int .i64 x.step,.int .i64 x.cell]] w0 fun v w'=>v=.tuple #[.agg #[.slice none 0 0,.slice none 0 0,.slice none 0 0],.int .i64 110]∧Bw w0 w':=by
 obtain⟨Ac,nc,cc,Am,nm,cm,Al,nl,cl,At,nt,ct,rfl,_⟩:=hI.rd.open_;obtain⟨Xm,xm,ym,Xa,xa,ya,Xb,xb,yb,rfl,_⟩:=hX.open_;have S:=St.refl w0;refine a0a func33 Z ntmps33 Z ?_;refine wO1 Z (i0a S Z ?_);intro g3 w3 S3 X3 G3;refine i0a S3 Z ?_;intro g4 w4 S4 X4 G4;refine i0a S4 Z ?_;intro g5 w5 S5 X5 G5;refine m0a S5 t4a Z Z ?_;intro g6 w6 S6 X6 G6;refine lO S6.k [.w 3] Z ⟨⟨Z,Z⟩,U⟩ (y0a S6 z3c Z Z (I7a p M _ _ (hI.keep (S6.keep0 M))) ?_);intro D0 e0 z0;refine lO e0.k [.w 3,.w 2] Z ⟨⟨Z,Z⟩,⟨Z,Z⟩,U⟩ (y0a e0 h6c Z Z (A1b p c M _ _ _ (hI.keep (e0.keep0 M)) (hX.keep (e0.keep0 M)) hf he) ?_);intro E0 f0 A0;refine lO f0.k [.w 3,.w 2] Z ⟨⟨Z,Z⟩,⟨Z,Z⟩,U⟩ (s0a f0 D6c Z Z (n8a p c M _ _ _ (hI.keep (f0.keep0 M)) (hX.keep (f0.keep0 M)) hf he) ?_);rintro C0 p0 hr q0 B0;obtain⟨Ar,nr,cr,rfl⟩:=hr.form;obtain⟨_,-,_⟩:=hr.len;have a0:=A0a.refl [] p0;refine lC1 Z (wL (fun μk D ε w=>D=[]∧∃k:Nat,(k+μk=((P0a p 0 c).length))∧(A0a [] p0 w)∧St [] w0 w [(some g6,71,[.slice none 0 0,.slice none 0 0,.slice none 0 0]),(some g5,75,[.int .i64 x.thread,.int .i64 x.step,.int .i64 x.cell]),(some g4,71,[.slice Xm xm ym,.slice Xa xa ya,.slice Xb xb yb]),(some g3,27,pL Ac nc cc Am nm cm Al nl cl At nt ct)]∧Sl ε [(3,.pointer (some ⟨g3,0,none⟩)),(4,.pointer (some ⟨g4,0,none⟩)),(5,.pointer (some ⟨g5,0,none⟩)),(6,.pointer (some ⟨g6,0,none⟩)),(22,.slice Ar nr cr),(23,.int .i64 nr),(24,.int .i64 k)]) (μ:=((P0a p 0 c).length)) ⟨Z,0,by omega,a0,q0,Z⟩ ?_);rintro μk D ε w ⟨rfl,k,_,a0,S,eZ⟩;refine wK eZ (wB1 Z (fun t0=>?_) fun t0=>?_)
 ·obtain⟨y,s0,v0,_,u0,i0,_,m0,j0,n0⟩:=RdS.get ((hr.keep a0.of_nil)) (k) (by omega);obtain⟨rfl,_⟩:=id n0;refine lO (S.k.b j0) [.x s0 v0,.v 0] Z ⟨⟨Z,m0⟩,⟨i0,by omega⟩,U⟩ (m0a S i5b Z Z ?_);intro g9 w9 S9 X9 G9;have d0:=Nat.le_trans a0.size G9;replace a0:=a0.trans X9;refine f0a (kk:=0) (vs:=[_,_,_]) S9 U2b Z Z Z Z Z Z Z ?_;intro x0 b0 g0;dsimp only[o0a,List.set] at b0;replace a0:=a0.fresh g0 (by first|exact d0);refine lOn 6 b0.k [.w 2,.w 0] Z ⟨⟨Z,by rfl⟩,⟨Z,Z⟩,U⟩ (K6c c9a Z Z Z (fun o0=>?_) fun o0=>?_)
  ·exact absurd (c0a u0) (by obtain⟨a,b,c⟩:=x;obtain⟨a',b',c'⟩:=y;obtain⟨rfl,rfl,rfl⟩:=o0;exact hx)
  refine lP1 Z ⟨μk-1,by omega,Z,k+1,by omega,(a0),b0.tail,Z⟩
 refine lO1 Z (e1a B5a (vs:=[]) (cs:=[_,_,_]) Z Z Z Z ?_);refine f0a (kk:=0) (vs:=[_,_,_]) S n2a Z Z Z Z Z Z Z ?_;intro y0 c0 r0;dsimp only[o0a,List.set] at c0;exact lR1 Z (x2a (n:=3) Z V0a Z (c0.cells 0 Z) Z Z ⟨Z,c0.fin⟩)
theorem I2b(p:g0a)(c:E0a)(x:d0a)(M:List Nat)(w0:World)(cs xs:LV)(hI:InP p M w0 cs)(hX:B0a M w0 c xs)(hf:U5a p c)(he:G5a c):
 M0a prog 33 #[.agg cs.toArray,.agg xs.toArray,.agg #[.int .i64 x.thread,.int .i64 x.step,.int .i64 x.cell]] w0 fun v w'=>(∃ys,v=.tuple #[.agg ys.toArray,.int .i64 (N0b p 0 c x).2]∧B0a M w' (N0b p 0 c x).1 ys)∧Bw w0 w':=by
 by_cases hx:x∈P0a p 0 c
 ·rw[J3a hx];exact G7b p c x M w0 cs xs hI hX hf he hx
 ·rw[p3a hx];exact(j6b p c x M w0 cs xs hI hX hf he hx).mono fun _ _ h=>⟨⟨_,h.1,S2a⟩,h.2⟩
theorem e2a:One prog 31:=x3a Tryz.underlying31 (by intro _ h;cases h) (by intro _ _ h;cases h)
theorem v0c(p:g0a)(c:E0a)(m:Int)(x:d0a)(hm:(m=0∧G5a c)∨m=1∨m=2)(M:List Nat)(w0:World)(cs xs:LV)(hI:InP p M w0 cs)(hX:B0a M w0 c xs)(hf:U5a p c):
 M0a prog 185 #[.agg cs.toArray,.int .i64 m,.agg xs.toArray,.agg #[.int .i64 x.thread,.int .i64 x.step,.int .i64 x.cell]] w0 fun v w'=>(∃ys,v=.tuple #[.agg ys.toArray,.int .i64 (N0b p m c x).2]∧B0a M w' (N0b p m c x).1 ys)∧Bw w0 w':=by
 obtain⟨Ac,nc,cc,Am,nm,cm,Al,nl,cl,At,nt,ct,rfl,_,_,_,A2,_,_,_,L2,_⟩:=hI.rd.open_;obtain⟨Xm,xm,ym,Xa,xa,ya,Xb,xb,yb,rfl,_⟩:=hX.open_;have S:=St.refl w0;have hM:=hI.lt;have hp:=hI.ok;have f2:=hf.nat;have f3:=hf.nbuf;have n2:=hp.nthreads;obtain⟨xt,g1,xc⟩:=x;simp only;refine M3a func185 Z ntmps185 Z (wI ?_);refine wO1 Z (i0a S Z ?_);intro g4 w4 S4 X4 G4;refine i0a S4 Z ?_;intro g6 w6 S6 X6 G6;refine i0a S6 Z ?_;intro g7 w7 S7 X7 G7;refine m0a S7 t4a Z Z ?_;intro g8 w8 S8 X8 G8;refine m0a S8 f0d Z Z ?_;intro g9 w9 S9 X9 G9;refine lB1 Z (fun y2=>?_) fun y2=>?_
 ·have K2:m=0∧G5a c:=by rcases hm with h|h|h;exact h;omega;omega
  obtain⟨rfl,he⟩:=K2;refine lO S9.k [.w 4,.w 3,.w 2] Z ⟨⟨Z,by rfl⟩,⟨Z,by rfl⟩,⟨Z,by rfl⟩,U⟩ (s0a S9 j1d Z Z (I2b p c ⟨xt,g1,xc⟩ (g9::g8::M) _ _ _ (hI.two S9 (i:=0) (j:=1) Z Z) ((hX.more (L8a S9 (i:=0) (j:=1) Z Z)).keep (S9.keep0 _)) hf he) ?_);rintro o3 u3 ⟨ys,rfl,hy⟩ r2 d3;obtain⟨Ym,o2,zm,Ya,j2,za,Yb,m2,zb,rfl,-⟩:=hy.open_;refine lO1 Z ?_
  first|refine f0a (kk:=1) (vs:=[_,_,_]) r2 n2a Z Z Z Z Z Z Z ?_
  intro X2 Q0 n1;dsimp only[o0a,List.set] at Q0;replace hy:=hy.keep (n1.mono (by simp))
  first|refine r0a (kk:=0) Q0 y7a Z Z Z (by exact Nat.le_of_ble_eq_true Z) ?_
  intro Y2 K0 o1;replace hy:=hy.keep (o1.mono (by simp));exact lR1 Z (C2a (n:=3) Z V0a e2a Z Z Z [] Z List.nodup_nil NC.nil (K0.cells 1 Z) (K0.cell 0 Z Z) (fun w' hb=>⟨⟨_,Z,(hy.keep (A0a.of_below hb.nil)).less (fun g hg=>by simp[hg])⟩,(K0.below.trans hb).nil⟩))
 have A1:m=1∨m=2:=by rcases hm with h|h|h;exact absurd h.1 (by assumption);exact .inl h;exact .inr h
 refine lO S9.k [.w 4,.w 3] Z ⟨⟨Z,by rfl⟩,⟨Z,by rfl⟩,U⟩ (y0a S9 x8c Z Z (L9c p c m A1 M _ _ _ (hI.keep (S9.keep0 M)) (hX.keep (S9.keep0 M)) hf) ?_);intro v3 s2 e3;refine lO1 Z (m0a s2 w6c Z Z ?_);intro J1 s3 q2 b3 a3;refine f0a (kk:=0) (vs:=[_,_,_,_,_,_,_,_]) q2 F1c Z Z Z Z Z Z Z ?_;intro Z2 b0 u2;dsimp only[o0a,List.set] at b0;refine lB b0.k [.o 3] Z ⟨Z,U⟩ (fun K1=>?_) fun K1=>?_
 ·refine lO1 Z (e1a B5a (vs:=[]) (cs:=[_,_,_]) Z Z Z Z ?_)
  first|refine f0a (kk:=2) (vs:=[_,_,_]) b0 n2a Z Z Z Z Z Z Z ?_
  intro d1 m0 V0;dsimp only[o0a,List.set] at m0
  first|refine r0a (kk:=1) m0 y7a Z Z Z (by exact Nat.le_of_ble_eq_true Z) ?_
  intro f1 d0 W0;refine lR1 Z ?_;rw[p3a (u3b (x:=⟨xt,g1,xc⟩) (.inl K1))];exact C2a (n:=3) Z V0a e2a Z Z Z [] Z List.nodup_nil NC.nil (d0.cells 2 Z) (d0.cell 1 Z Z) (fun w' hb=>⟨⟨_,Z,S2a⟩,(d0.below.trans hb).nil⟩)
 refine lB b0.k [.o 3,.o 5] Z ⟨Z,Z,U⟩ (fun M1=>?_) fun M1=>?_
 ·refine lO1 Z (e1a B5a (vs:=[]) (cs:=[_,_,_]) Z Z Z Z ?_)
  first|refine f0a (kk:=2) (vs:=[_,_,_]) b0 n2a Z Z Z Z Z Z Z ?_
  intro d1 m0 V0;dsimp only[o0a,List.set] at m0
  first|refine r0a (kk:=1) m0 y7a Z Z Z (by exact Nat.le_of_ble_eq_true Z) ?_
  intro f1 d0 W0;refine lR1 Z ?_;rw[p3a (u3b (x:=⟨xt,g1,xc⟩) (.inr (by rw[←L2];exact M1)))];exact C2a (n:=3) Z V0a e2a Z Z Z [] Z List.nodup_nil NC.nil (d0.cells 2 Z) (d0.cell 1 Z Z) (fun w' hb=>⟨⟨_,Z,S2a⟩,(d0.below.trans hb).nil⟩)
 refine lB b0.k [.o 3] Z ⟨Z,U⟩ (fun N1=>?_) fun N1=>?_
 ·refine lO1 Z (e1a B5a (vs:=[]) (cs:=[_,_,_]) Z Z Z Z ?_)
  first|refine f0a (kk:=2) (vs:=[_,_,_]) b0 n2a Z Z Z Z Z Z Z ?_
  intro d1 m0 V0;dsimp only[o0a,List.set] at m0
  first|refine r0a (kk:=1) m0 y7a Z Z Z (by exact Nat.le_of_ble_eq_true Z) ?_
  intro f1 d0 W0;refine lR1 Z ?_;rw[p3a (g4c (x:=⟨xt,g1,xc⟩) N1)];exact C2a (n:=3) Z V0a e2a Z Z Z [] Z List.nodup_nil NC.nil (d0.cells 2 Z) (d0.cell 1 Z Z) (fun w' hb=>⟨⟨_,Z,S2a⟩,(d0.below.trans hb).nil⟩)
 obtain⟨t,rfl⟩:=Int.eq_ofNat_of_zero_le (show 0≤xt by omega);have ht:t<p.threads.length:=by omega
 obtain⟨b,G0⟩:∃b,c.buf[t]?=some b:=⟨c.buf[t]'(by omega),List.getElem?_eq_getElem _⟩;obtain⟨th,o0⟩:∃th,p.threads[t]?=some th:=⟨p.threads[t]'(by omega),List.getElem?_eq_getElem _⟩;refine lB b0.k [.o 3] Z ⟨Z,U⟩ (fun O1=>?_) fun O1=>?_
 ·subst O1;refine lO b0.k [.w 0,.o 3] Z ⟨Z,⟨Z,by rfl⟩,U⟩ ?_;have Zb:=b0.size;refine s0a b0 x0d Z Z (c8c _ Z (t:Int) _) ?_;rintro p3 p0 ⟨gs,gt,rfl,_,_,T1,E2⟩ G1 g3;refine lC1 Z (wJ ?_);refine F8a (vs:=fun y=>#[y,_,_]) r0d Z (fun _=>rfl) (fun rc wi D1 Z1 P2 y1 N2 C2 D2 H2 hl hB m3=>?_);obtain⟨l,J2⟩:∃l,l=p0.heap.size+1:=⟨_,Z⟩;have R1:=Q6a (NC.nil (w:=p0)) H2 hl hB;rw[←J2] at hl R1 ⊢;have Si:=G1.later hB;have Ki:A0a [] p0 wi:=A0a.of_below hB;have Zw:=G1.size;have n3:gs<p0.heap.size:=T1.lt;have z2:∀g∈(l::M),g∈M∨w0.heap.size≤g:=fun g hg=>by
   rcases List.mem_cons.1 hg with rfl|hg
   ·right;omega
   ·exact .inl hg
  have B2:B0a (l::M) wi c _:=(hX.more z2).keep (Si.keep0 _);have z1:gs∉(l::M):=fun hh=>by
   rcases List.mem_cons.1 hh with h|h
   ·omega
   ·have:=hM gs h;omega
  have x0:∀x∈[(p0.heap.size,Obj.deferred (some []))],x.1≠l:=fun x hx=>by
   rcases List.mem_cons.1 hx with rfl|hx
   ·show p0.heap.size≠l;omega
   ·cases hx
  refine M0a.mono (m5c c m t b G0 gs gt l (l::M) wi _ (pL Ac nc cc Am nm cm Al nl cl At nt ct) Z (fun i w=>NC w [(l,.loop rc),(p0.heap.size,.deferred (some []))]∧St [] w0 w [(some J1,271,[.slice Xm xm ym,.slice Xa xa ya,.slice Xb xb yb,.slice Ac nc cc,.slice Am nm cm,.slice Al nl cl,.slice At nt ct,.int .i64 m]),(some g9,31,[.int .i64 0]),(some g8,71,[.slice none 0 0,.slice none 0 0,.slice none 0 0]),(some g7,75,[.int .i64 t,.int .i64 (-1),.int .i64 xc]),(some g6,71,[.slice Xm xm ym,.slice Xa xa ya,.slice Xb xb yb]),(some g4,27,pL Ac nc cc Am nm cm Al nl cl At nt ct)]∧A0a (l::M) wi w∧(∀q en,q<i→b[q]?=some en→e4a m b q=true→en.cells.getD 0 0≠xc)) (fun w=>∃(i:Nat) (en:J0a) (ys:LV),b[i]?=some en∧e4a m b i=true∧en.cells.getD 0 0=xc∧(∀q en,q<i→b[q]?=some en→e4a m b q=true→en.cells.getD 0 0≠xc)∧NC w [(l,.loop { rc with state:=.done,pending:=some .ret }),(p0.heap.size,.deferred (some []))]∧St [] w0 w [(some J1,271,[.slice Xm xm ym,.slice Xa xa ya,.slice Xb xb yb,.slice Ac nc cc,.slice Am nm cm,.slice Al nl cl,.slice At nt ct,.int .i64 m]),(some g9,31,[.int .i64 0]),(some g8,71,ys),(some g7,75,[.int .i64 t,.int .i64 (-1),.int .i64 xc]),(some g6,71,[.slice Xm xm ym,.slice Xa xa ya,.slice Xb xb yb]),(some g4,27,pL Ac nc cc Am nm cm Al nl cl At nt ct)]∧ys.length=3∧B0a (l::p0.heap.size::M) w (Q4a c t i) ys) B2 z1 (z1a Ki T1) (z1a Ki E2) ⟨R1,Si,A0a.refl _ _,fun q en hq=>absurd hq (by omega)⟩ (fun i w hJ=>hJ.2.2.1) ?_ ?_ (fun i en w es n0 j1 hJ hE=>?_)) ?_
  ·rintro i w w' ⟨g0,S3,K3,F0⟩ t1;exact⟨g0.keep (A0a.of_below t1),S3.later t1,K3.trans (A0a.of_below t1),F0⟩
  ·rintro i w ⟨g0,S3,K3,F0⟩ hi hr;exact⟨g0,S3,K3,fun q en hq hx Z0=>by
    by_cases B1:q=i
    ·subst B1;rw[hr] at Z0;cases Z0
    ·exact F0 q en (by omega) hx Z0⟩
  ·obtain⟨g0,S3,K3,F0⟩:=hJ;obtain⟨_,_,_,_,_,_,rfl,-⟩:=Q0a.open_ (hE _ _ (fun g hg=>.inl hg) K3);have qE:=(hf.bufs t b G0).2.1 en (c0a n0);have U2:0<en.cells.length:=by
    rcases Nat.eq_zero_or_pos en.cells.length with h|h
    ·exact absurd (List.length_eq_zero_iff.1 h) qE.some_
    ·exact h
   have li:=m1a n0;refine H3c (g0 (l,.loop rc) (by simp)).1 D1 P2 y1 N2 C2 D2 Z Z ?_;refine wI ?_;refine wO1 Z (m0a S3 H7a Z Z ?_);intro i3 t3 F1 I1 p2;have O0:=Nat.le_trans K3.size p2;replace K3:=K3.trans (I1.of_nil);replace g0:=g0.keep I1;refine f0a (kk:=0) (vs:=[_,_]) F1 Q8a Z Z Z Z Z Z Z ?_;intro H0 y0 A0;dsimp only[o0a,List.set] at y0;replace K3:=K3.fresh2 A0 (by exact .inl O0);replace g0:=by exact g0.keepS A0 (F1.blk 0 Z)
   refine lF1 Z ?_;refine⟨(g0 (l,.loop rc) (by simp)).1,?_⟩;have Sb:=y0.putObj (.loop { rc with state:=.busy }) g0 (List.mem_cons_self) (.inl (by omega));have i0:=g0.put (o':=.loop { rc with state:=.busy }) x0 (by simp);have Kb:=K3.fresh2 (H1a H0 l (.loop { rc with state:=.busy })) (.inr (by simp));generalize H0.putObj l (.loop { rc with state:=.busy })=wb at Sb i0 Kb ⊢;obtain⟨_,_,_,_,_,_,V1,X0,-⟩:=Q0a.open_ (hE (l::M) wb (fun g hg=>.inl hg) Kb);simp only[List.cons.injEq,Value.slice.injEq,and_true] at V1;obtain⟨⟨rfl,rfl,rfl⟩,rfl,rfl,rfl⟩:=V1;have j3:=X0.len.1;refine wI ?_;obtain⟨_,_,_,_,b1,_,_,_,G2,O2⟩:=RdS.get X0 0 U2;obtain⟨rfl,_⟩:=O2;refine wC1 Z (x0a b0a [0,1,2,3,4,5,6] [] [] Z (Cl _ _ _ _) (Cl.start Sb) ?_);refine qO Sb.q [.o 0] Z ⟨Z,U⟩ (q0a X0a.slT Z (by assumption) Z Z ?_);refine p0a K0a Z (fun w1 hw=>by exact hw.2.cell List.not_mem_nil (G2 0 _ Z)) Z ?_;refine qO1 Z (p0a K0a Z (fun w1 hw=>by exact hw.1.cell 4 Z Z) Z ?_);refine qB1 Z (fun p1=>?_) fun p1=>?_
   ·refine lV Z ?_;rintro L0 ⟨f0,v0⟩;replace Kb:=Kb.trans (v0.of_nil);replace i0:=i0.keep v0;refine lO1 Z (N1a b1b Z (f0.cells 1 Z) Z Z ?_);refine lO1 Z (v0a K0a Z (by exact f0.cell 4 Z Z) Z ?_);refine lO1 Z ?_;have Q1:∀g∈l::p0.heap.size::g9::g8::M,g<L0.heap.size:=fun g hg=>by
     rcases List.mem_cons.1 hg with rfl|hg
     ·exact i0.lt _ List.mem_cons_self
     ·rcases List.mem_cons.1 hg with rfl|hg
      ·exact i0.lt (p0.heap.size,.deferred (some [])) (by simp)
      ·exact q3b f0 (i:=2) (j:=3) Z Z hM g hg
    have u1:∀g∈l::p0.heap.size::g9::g8::M,g∈M∨w0.heap.size≤g:=fun g hg=>by
     rcases List.mem_cons.1 hg with rfl|hg
     ·right;omega
     ·rcases List.mem_cons.1 hg with rfl|hg
      ·right;omega
      ·exact L8a f0 (i:=2) (j:=3) Z Z g hg
    refine s0a f0 H8c Z Z (o1c p hp c t i b (l::p0.heap.size::g9::g8::M) _ Q1 (pL Ac nc cc Am nm cm Al nl cl At nt ct) [.slice Xm xm ym,.slice Xa xa ya,.slice Xb xb yb] m ⟨(hI.rd.more u1).keep (f0.keep0 _),hI.ok,(hI.msk.more u1).keep (f0.keep0 _),Q1⟩ ((hX.more u1).keep (f0.keep0 _)) hf G0 li) ?_;rintro q3 x3 ⟨ys,rfl,hy⟩ H1 v2;replace i0:=i0.keep v2;obtain⟨Ym,o2,zm,Ya,j2,za,Yb,m2,zb,rfl,-⟩:=hy.open_
    first|refine f0a (kk:=3) (vs:=[_,_,_]) H1 n2a Z Z Z Z Z Z Z ?_
    intro a2 s0 B0;dsimp only[o0a,List.set] at s0;replace i0:=by exact i0.keepS B0 (H1.blk 3 Z)
    replace hy:=hy.keep (B0.mono (by simp))
    first|refine r0a (kk:=2) s0 y7a Z Z Z (by exact Nat.le_of_ble_eq_true Z) ?_
    intro c1 P0 C0;replace i0:=by exact i0.keepS C0 (s0.blk 2 Z)
    replace hy:=hy.keep (C0.mono (by simp));refine lR1 Z ?_;refine⟨{ rc with state:=.busy },(i0 (l,_) (by simp)).1,.inr ⟨Z,?_⟩⟩;have v1:=i0.put (o':=.loop { rc with state:=.done,pending:=some .ret }) x0 (by simp);have Sn:=P0.tail.putObj (.loop { rc with state:=.done,pending:=some .ret }) i0 (List.mem_cons_self) (.inl (by omega));exact⟨i,en,_,n0,j1,by rw[getD_some b1];exact p1,F0,v1,Sn,Z,(hy.keep ((H1a c1 l _).mono (by simp))).less (fun g hg=>by simp only[List.mem_cons] at hg ⊢;rcases hg with h|h|h<;>simp[h])⟩
   refine lV Z ?_;rintro L0 ⟨f0,v0⟩;replace Kb:=Kb.trans (v0.of_nil);replace i0:=i0.keep v0;refine lF1 Z ?_;refine⟨{ rc with state:=.busy },(i0 (l,_) (by simp)).1,.inl ⟨Z,?_⟩⟩;have v1:=i0.put (o':=.loop rc) x0 (by simp);have Sn:=f0.tail.putObj (.loop rc) i0 (List.mem_cons_self) (.inl (by omega));have Kn:=Kb.fresh2 (H1a L0 l (.loop rc)) (.inr (by simp));rw[a1b D1 Z1];exact⟨v1,Sn,Kn,fun q x2 hq hx Z0=>by
    by_cases B1:q=i
    ·subst B1;obtain rfl:=Option.some.inj (n0.symm.trans hx);rw[getD_some b1];exact p1
    ·exact F0 q x2 (by omega) hx Z0⟩
  rintro v w3 (⟨g0,S3,K3,F0⟩|⟨i,en,ys,n0,j1,F2,I2,g0,S3,Q2,S2⟩)
  rotate_left
  ·refine⟨{ rc with state:=.done,pending:=some .ret },(g0 (l,_) List.mem_cons_self).1,by simp,.inr ⟨Z,?_⟩⟩;have Sa:=S3.putObj (.loop { rc with state:=.exhausted,pending:=some .ret }) g0 (List.mem_cons_self) (.inl (by omega));have r0:=(g0.put (o':=.loop { rc with state:=.exhausted,pending:=some .ret }) x0 (by simp)).tail;have Ka:=H1a w3 l (.loop { rc with state:=.exhausted,pending:=some .ret });have R2:=S2.keep (Ka.mono (by simp));subst F2;rw[J3a (V8c ht G0 n0 j1),C9c G0 (fun e he=>((hf.bufs t b G0).2.1 e he).some_) n0 j1];exact C2a (hg1:=(by have:=r0.ne (Sa.blk 2 Z) _ (List.mem_cons_self);simpa using fun h:g8=_=>this h.symm)) (hg2:=(by have:=r0.ne (Sa.blk 1 Z) _ (List.mem_cons_self);simpa using fun h:g9=_=>this h.symm)) (n:=3) Z V0a e2a Z Z Q2 [p0.heap.size] Z (by simp) r0 (Sa.cells 2 Z) (Sa.cell 1 Z Z) (fun w' hb=>⟨⟨_,Z,(R2.keep ((A0a.of_belowM hb).mono (by simp))).less (fun g hg=>by simp[hg])⟩,(W0a.step Sa.below hb (by simp;omega)).nil⟩)
  refine⟨rc,(g0 (l,.loop rc) (by simp)).1,by rw[D1];simp,.inl ⟨Z1,?_⟩⟩;have Sa:=S3.putObj (.loop { rc with state:=.exhausted }) g0 (List.mem_cons_self) (.inl (by omega));have r0:=(g0.put (o':=.loop { rc with state:=.exhausted }) x0 (by simp)).tail;generalize w3.putObj l (.loop { rc with state:=.exhausted })=wa at Sa r0 ⊢;refine fO0 Z U (e1a B5a (vs:=[]) (cs:=[_,_,_]) Z Z Z Z ?_)
  first|refine f0a (kk:=2) (vs:=[_,_,_]) Sa n2a Z Z Z Z Z Z Z ?_
  intro b2 t0 R0;dsimp only[o0a,List.set] at t0;replace r0:=by exact r0.keepS R0 (Sa.blk 2 Z)
  first|refine r0a (kk:=1) t0 y7a Z Z Z (by exact Nat.le_of_ble_eq_true Z) ?_
  intro d2 j0 S0;replace r0:=by exact r0.keepS S0 (t0.blk 1 Z)
  refine lR1 Z ?_;rw[p3a (X4c G0 F0)];exact C2a (hg1:=(by have:=r0.ne (j0.blk 2 Z) _ (List.mem_cons_self);simpa using fun h:g8=_=>this h.symm)) (hg2:=(by have:=r0.ne (j0.blk 1 Z) _ (List.mem_cons_self);simpa using fun h:g9=_=>this h.symm)) (n:=3) Z V0a e2a Z Z Z [p0.heap.size] Z (by simp) r0 (j0.cells 2 Z) (j0.cell 1 Z Z) (fun w' hb=>⟨⟨_,Z,S2a⟩,(W0a.step j0.below hb (by simp;omega)).nil⟩)
 obtain⟨i,rfl⟩:=Int.eq_ofNat_of_zero_le (show 0≤g1 by omega);refine lO b0.k [.w 4,.o 3] Z ⟨Z,⟨Z,by rfl⟩,U⟩ (s0a b0 s0d Z Z (D8c p hp c t b (g9::g8::M) _ (q3b b0 (i:=1) (j:=2) Z Z hM) _ ((hX.more (L8a b0 (i:=1) (j:=2) Z Z)).keep (b0.keep0 _)) hf G0) ?_);rintro r3 y3 hV i1 h3;obtain⟨_,_,_,rfl⟩:=hV.form;refine lC1 Z (x0a b0a [0,1,2,3,4,5,6,7,8,9,10,11,12,13,14,15,16,17,18,19,20,21,22,23,24,25] [] [] Z (Cl _ _ _ _) (Cl.start i1) ?_);refine qB i1.q [.o 3] Z ⟨Z,U⟩ (fun q1=>?_) fun q1=>?_
 ·refine lV Z ?_;rintro N0 ⟨e0,q0⟩;replace hV:=hV.keep (q0.of_nil);refine lO1 Z (e1a B5a (vs:=[]) (cs:=[_,_,_]) Z Z Z Z ?_)
  first|refine f0a (kk:=2) (vs:=[_,_,_]) e0 n2a Z Z Z Z Z Z Z ?_
  intro I0 c0 D0;dsimp only[o0a,List.set] at c0
  first|refine r0a (kk:=1) c0 y7a Z Z Z (by exact Nat.le_of_ble_eq_true Z) ?_
  intro J0 a0 E0;refine lR1 Z ?_;rw[p3a (I5c (t:=t) (st:=i) (by omega) q1)];exact C2a (n:=3) Z V0a e2a Z Z Z [] Z List.nodup_nil NC.nil (a0.cells 2 Z) (a0.cell 1 Z Z) (fun w' hb=>⟨⟨_,Z,S2a⟩,(a0.below.trans hb).nil⟩)
 obtain⟨_,w2,T2,_,E1,s1,_,_,x1,C1⟩:=RdS.get (A2) (t) (by omega);obtain rfl:=Option.some.inj (o0.symm.trans E1);obtain⟨_,_,_,_,_,_,_,_,_,_,_,_,rfl,_,_,_,_,_,_,_,Y0,_⟩:=S0a.open_ C1;refine qB (i1.q.a x1) [.o 3,.o 5,.o 3,.x w2 T2,.f 0 4] Z ⟨Z,⟨s1,by omega⟩,Z,Z,Z,U⟩ (fun P1=>?_) fun P1=>?_
 ·refine lV Z ?_;rintro N0 ⟨e0,q0⟩;replace hV:=hV.keep (q0.of_nil);refine lO1 Z (e1a B5a (vs:=[]) (cs:=[_,_,_]) Z Z Z Z ?_)
  first|refine f0a (kk:=2) (vs:=[_,_,_]) e0 n2a Z Z Z Z Z Z Z ?_
  intro I0 c0 D0;dsimp only[o0a,List.set] at c0
  first|refine r0a (kk:=1) c0 y7a Z Z Z (by exact Nat.le_of_ble_eq_true Z) ?_
  intro J0 a0 E0;refine lR1 Z ?_;rw[p3a (v4c o0 (st:=i) (by omega) (by rw[←Y0];exact P1))];exact C2a (n:=3) Z V0a e2a Z Z Z [] Z List.nodup_nil NC.nil (a0.cells 2 Z) (a0.cell 1 Z Z) (fun w' hb=>⟨⟨_,Z,S2a⟩,(a0.below.trans hb).nil⟩)
 refine qO i1.q [.w 0,.o 3,.o 3] Z ⟨Z,Z,⟨Z,by rfl⟩,U⟩ ?_;obtain⟨s,a1⟩:∃s,th.steps[i]?=some s:=⟨th.steps[i]'(by omega),List.getElem?_eq_getElem _⟩;refine X1a z0d Z Z (fun w1 S1 X1=>A4b p c m A1 t i th s M _ (pL Ac nc cc Am nm cm Al nl cl At nt ct) [.slice Xm xm ym,.slice Xa xa ya,.slice Xb xb yb] _ (hI.keep (S1.keep0 M)) (hX.keep (S1.keep0 M)) ((hV.keep (X1.of_nil)).less (fun g hg=>List.mem_cons_of_mem _ (List.mem_cons_of_mem _ hg))) hf o0 a1) (fun r1=>?_) fun r1=>?_
 ·refine lV Z ?_;rintro N0 ⟨e0,q0⟩;replace hV:=hV.keep (q0.of_nil);subst q1;have Y1:=S8c o0 a1 r1;have U1:doC p m c ⟨t,i,0⟩=i7a p m c t s:=s1d o0 a1;have W1:=Y5b hp hf Y1;rw[U1] at W1;refine lO e0.k [.w 0,.w 3] Z ⟨⟨Z,by rfl⟩,⟨Z,by rfl⟩,U⟩ (s0a e0 E9c Z Z (s0c p c m A1 t i th s (g9::g8::M) _ (pL Ac nc cc Am nm cm Al nl cl At nt ct) [.slice Xm xm ym,.slice Xa xa ya,.slice Xb xb yb] _ (hI.two e0 (i:=1) (j:=2) Z Z) ((hX.more (L8a e0 (i:=1) (j:=2) Z Z)).keep (e0.keep0 _)) hV hf o0 a1 W1) ?_);rintro V2 W2 ⟨ys,rfl,hy⟩ m1 t2;obtain⟨Ym,o2,zm,Ya,j2,za,Yb,m2,zb,rfl,-⟩:=hy.open_
  first|refine f0a (kk:=2) (vs:=[_,_,_]) m1 n2a Z Z Z Z Z Z Z ?_
  intro g2 z0 T0;dsimp only[o0a,List.set] at z0;replace hy:=hy.keep (T0.mono (by simp))
  first|refine r0a (kk:=1) z0 y7a Z Z Z (by exact Nat.le_of_ble_eq_true Z) ?_
  intro i2 u0 U0;replace hy:=hy.keep (U0.mono (by simp));refine lR1 Z ?_;rw[J3a Y1,U1];exact C2a (n:=3) Z V0a e2a Z Z Z [] Z List.nodup_nil NC.nil (u0.cells 2 Z) (u0.cell 1 Z Z) (fun w' hb=>⟨⟨_,Z,(hy.keep (A0a.of_below hb.nil)).less (fun g hg=>by simp[hg])⟩,(u0.below.trans hb).nil⟩)
 refine lV Z ?_;rintro N0 ⟨e0,q0⟩;refine lO1 Z (e1a B5a (vs:=[]) (cs:=[_,_,_]) Z Z Z Z ?_)
 first|refine f0a (kk:=2) (vs:=[_,_,_]) e0 n2a Z Z Z Z Z Z Z ?_
 intro I0 c0 D0;dsimp only[o0a,List.set] at c0
 first|refine r0a (kk:=1) c0 y7a Z Z Z (by exact Nat.le_of_ble_eq_true Z) ?_
 intro J0 a0 E0;refine lR1 Z ?_;rw[p3a (i0d o0 a1 r1)];exact C2a (n:=3) Z V0a e2a Z Z Z [] Z List.nodup_nil NC.nil (a0.cells 2 Z) (a0.cell 1 Z Z) (fun w' hb=>⟨⟨_,Z,S2a⟩,(a0.below.trans hb).nil⟩)
def B4a(p:g0a)(m:Int)(c:E0a):List d0a→List E0a
 | []=>[]
 | x::l=>if x∈P0a p m c then doC p m c x::B4a p m (doC p m c x) l else[]
def g3a(p:g0a)(m:Int)(run:List d0a):List E0a:=k1a p::B4a p m (k1a p) run
theorem Q9c{p:g0a}{m:Int}{c:E0a}(he:G5a c){x:d0a}(hx:x∈P0a p m c):∃(t i:Nat) (th:i1a) (s:p1a),x=⟨t,i,0⟩∧p.threads[t]?=some th∧th.steps[i]?=some s∧d1a p m c t s=true:=by
 obtain⟨t,ht,h|h⟩:=Y1a.1 hx
 ·obtain⟨i,s,hs,he,rfl⟩:=h;have a0:p.threads[t]?=some p.threads[t]:=List.getElem?_eq_getElem ht;rw[Q1a a0] at hs;exact⟨t,i,_,s,Z,a0,hs,he⟩
 ·obtain⟨i,h1,-⟩:=h;rw[he.getD] at h1;simp at h1
section
variable {p:g0a} {m:Int}
theorem D5b:∀(run:List d0a) (c:E0a),(B4a p m c run).length≤run.length
 | [],_=>Nat.le_refl _
 | x::l,c=>by
   unfold B4a
   split
   ·simpa using D5b l _
   ·simp
theorem S1b:∀(run:List d0a) (c0:E0a) (k:Nat) (c:E0a) (x:d0a),(c0::B4a p m c0 run)[k]?=some c→run[k]?=some x →
 (x∈P0a p m c→(c0::B4a p m c0 run)[k+1]?=some (doC p m c x))∧(x∉P0a p m c→(B4a p m c0 run).length=k)
 | [],_,_,_,_,_,h=>by simp at h
 | y::l,c0,0,c,x,hc,hx=>by
   simp at hc hx;subst hc;subst hx;unfold B4a;constructor
   ·intro h;rw[if_pos h];rfl
   ·intro h;rw[if_neg h];rfl
 | y::l,c0,k+1,c,x,hc,hx=>by
   have b0:l[k]?=some x:=by simpa using hx
   by_cases hy:y∈P0a p m c0
   ·have e:B4a p m c0 (y::l)=doC p m c0 y::B4a p m (doC p m c0 y) l:=by rw[B4a,if_pos hy]
    rw[e] at hc ⊢;have a0:(doC p m c0 y::B4a p m (doC p m c0 y) l)[k]?=some c:=by simpa using hc
    obtain⟨h1,h2⟩:=S1b l _ k c x a0 b0;exact⟨fun h=>by rw[List.getElem?_cons_succ];exact h1 h,fun h=>by rw[List.length_cons,h2 h]⟩
   ·have e:B4a p m c0 (y::l)=[]:=by rw[B4a,if_neg hy]
    rw[e] at hc;simp at hc
theorem q9b(p:g0a)(m:Int)(run:List d0a):(g3a p m run).length=(B4a p m (k1a p) run).length+1:=Z
theorem o5a(p:g0a)(m:Int)(run:List d0a):(g3a p m run).length≤run.length+1:=by have:=D5b (p:=p) (m:=m) run (k1a p);rw[q9b];omega
theorem T8a{run:List d0a}{k:Nat}{c:E0a}{x:d0a}(hc:(g3a p m run)[k]?=some c)(hx:run[k]?=some x)(h:x∈P0a p m c):(g3a p m run)[k+1]?=some (doC p m c x):=(S1b run _ k c x hc hx).1 h
theorem z4b{run:List d0a}{k:Nat}{c:E0a}{x:d0a}(hc:(g3a p m run)[k]?=some c)(hx:run[k]?=some x)(h:x∉P0a p m c):(g3a p m run).length=k+1:=by rw[q9b,(S1b run _ k c x hc hx).2 h]
def z6c(p:g0a)(m:Int)(c:E0a):Prop:=U5a p c∧(m=0→G5a c)
theorem A0c(hp:q1a p):z6c p m (k1a p):=⟨A9a hp,fun _ b hb=>by
 simp only[k1a,List.mem_map] at hb;obtain⟨_,_,rfl⟩:=hb;rfl⟩
theorem A7c(hp:q1a p){c:E0a}(h:z6c p m c){x:d0a}(hx:x∈P0a p m c):z6c p m (doC p m c x):=⟨Y5b hp h.1 hx,fun h0=>by
 subst h0;obtain⟨_,_,_,_,rfl,a0,hs,_⟩:=Q9c (h.2 Z) hx;rw[P3d (h.2 rfl) a0 hs];exact h.2 Z⟩
theorem D9b(hp:q1a p):∀(run:List d0a) (c0:E0a),z6c p m c0→∀c∈c0::B4a p m c0 run,z6c p m c
 | [],c0,h,c,hc=>by simp[B4a] at hc;subst hc;exact h
 | y::l,c0,h,c,hc=>by
   rcases List.mem_cons.1 hc with rfl|hc
   ·exact h
   ·unfold B4a at hc
    split at hc
    ·rename_i hy;exact D9b hp l _ (A7c hp h hy) c hc
    ·cases hc
theorem d9a(hp:q1a p){run:List d0a}{c:E0a}(hc:c∈g3a p m run):z6c p m c:=D9b hp run _ (A0c hp) c hc
end
structure o6a where
 at_:Int
 kind:Int
 module_:Int
 thread:Int
 item:Int
  deriving DecidableEq
def Y4a(cs:LV)(v:o6a):Prop:=cs=[.int .i64 v.at_,.int .i64 v.kind,.int .i64 v.module_,.int .i64 v.thread,.int .i64 v.item]∧i64 v.at_∧i64 v.kind∧i64 v.module_∧i64 v.thread∧i64 v.item
abbrev F9b(M:List Nat)(w:World)(v:Value)(l:List o6a):Prop:=RdS M w 5 Y4a v l
theorem o1a:E8a (fun(_:List Nat) (_:World)=>Y4a) 5 where
 len h:=by rw[h.1];rfl
 one h u hu:=by rw[h.1] at hu;simp at hu;rcases hu with rfl|rfl|rfl|rfl|rfl<;>rfl
 keep _ h:=h
 more _ h:=h
theorem Y4a.of{a k m t i:Int}(h1:i64 a)(h2:i64 k)(h3:i64 m)(h4:i64 t)(h5:i64 i):Y4a [.int .i64 a,.int .i64 k,.int .i64 m,.int .i64 t,.int .i64 i] ⟨a,k,m,t,i⟩:=⟨Z,h1,h2,h3,h4,h5⟩
def n1d:p1a:=⟨0,0,0,⟨0,0,0,[]⟩,[],false,0,0⟩
def e3d:J2a:=⟨ByteArray.empty,ByteArray.empty,⟨0,0,0,[]⟩,⟨0,0,0,[]⟩,[]⟩
def z3d:i1a:=⟨ByteArray.empty,0,[],[],[],[],false⟩
def noE:E:=⟨0,0,0,[]⟩
def w3a(c:E0a):Bool:=!(c.buf.any fun b=>decide (0<b.length))
structure EvD where
 at_:Int
 x:d0a
 c:E0a
 d:E0a
section
variable (p:g0a) (e:EvD)
def EvD.step:Bool:=decide (0≤e.at_)&&decide (e.x.step≠-1)
def EvD.still:Bool:=e.step&&(w3a e.c&&w3a e.d)
def sOf:p1a:=(f3a p e.x.thread.toNat).getD e.x.step.toNat n1d
def F5b(m:Int):J2a:=p.modules.getD m.toNat e3d
def L0b(t:Nat):i1a:=p.threads.getD t z3d
def M1b(kind:Int):o6a:=⟨e.at_,kind,(sOf p e).module_,e.x.thread,e.x.step⟩
def J9a(s:p1a):Bool:=s.set.any fun a=>decide (K1a p.cells a.cell=-1)&&!decide (a.cell∈(F5b p s.module_).frame)
def Z1a:List o6a:=if e.still=true∧J9a p (sOf p e)=true then[M1b p e 4] else[]
def T7b:Bool:=decide ((F5b p (sOf p e).module_).guar.evl e.c.mem e.d.mem≠0)
def X2a:List o6a:=if e.still=true∧T7b p e=false then[M1b p e 3] else[]
def t1b(t:Nat):List o6a :=
 if(t:Int)=e.x.thread∨e.c.at_.getD t 0=-1 then[]
 else if(F5b p ((L0b p t).modules.getD (e.c.at_.getD t 0).toNat 0)).rely.op≠0∧(F5b p ((L0b p t).modules.getD (e.c.at_.getD t 0).toNat 0)).rely.evl e.c.mem e.d.mem=0 then
  [⟨e.at_,5,(L0b p t).modules.getD (e.c.at_.getD t 0).toNat 0,t,e.c.at_.getD t 0⟩]
 else[]
def j4a(k:Nat):List o6a:=(List.range k).flatMap (t1b p e)
def h7a:List o6a:=if e.still=true∧Z1a p e=[]∧X2a p e=[] then j4a p e p.threads.length else[]
def x1b(l:m0b):Int:=if e.step=true then(sOf p e).module_ else if 0≤e.at_ then(L0b p e.x.thread.toNat).modules.getD (e.d.at_.getD e.x.thread.toNat 0).toNat 0 else l.module_
def p8a(i:Nat):List o6a:=match p.locks[i]? with
 | some l=>if e.d.mem.getD l.cell.toNat 0≠0∨l.inv.evl e.d.mem e.d.mem≠0 then[] else[⟨e.at_,2,x1b p e l,if 0≤e.at_ then e.x.thread else -1,i⟩]
 | none=>[]
def P3a(k:Nat):List o6a:=(List.range k).flatMap (p8a p e)
def I5a:List o6a:=if w3a e.d=true then P3a p e p.locks.length else[]
def M8a(t:Nat):Int:=if e.step=true∧((t:Int)=e.x.thread∨(sOf p e).kind=6∧(sOf p e).target=t) then(sOf p e).module_ else(L0b p t).modules.getD (e.d.at_.getD t 0).toNat 0
def Y2a(t:Nat):List o6a :=
 if e.d.at_.getD t 0=-1∨((L0b p t).asserts.getD (e.d.at_.getD t 0).toNat noE).evl e.d.mem e.d.mem≠0 then[]
 else[⟨e.at_,1,M8a p e t,t,e.d.at_.getD t 0⟩]
def r2a(k:Nat):List o6a:=(List.range k).flatMap (Y2a p e)
def a3a:List o6a:=if w3a e.d=true then r2a p e p.threads.length else[]
def k4a:List o6a:=(if 0≤e.at_ then Z1a p e++(X2a p e++h7a p e) else[])++(I5a p e++a3a p e)
end
def I2c:d0a:=⟨0,0,0⟩
def noC:E0a:=⟨[],[],[]⟩
def E4b(run:List d0a)(l:List E0a)(i:Nat):EvD:=if i=0 then⟨-1,I2c,noC,l.getD 0 noC⟩ else⟨(i:Int)-1,run.getD (i-1) I2c,l.getD (i-1) noC,l.getD i noC⟩
def M4a(p:g0a)(run:List d0a)(l:List E0a)(k:Nat):List o6a:=(List.range k).flatMap fun i=>k4a p (E4b run l i)
def Z4a(p:g0a)(m:Int)(run:List d0a):List o6a:=M4a p run (g3a p m run) (g3a p m run).length
structure s2b (p:g0a) (e:EvD):Prop where
 lo:-1≤e.at_
 hi:e.at_≤1000
 d:U5a p e.d
 c:0≤e.at_→U5a p e.c
 t:0≤e.at_→0≤e.x.thread∧e.x.thread<p.threads.length
 s:0≤e.at_→e.x.step=-1∨(0≤e.x.step∧e.x.step<(f3a p e.x.thread.toNat).length)
 aw:0≤e.at_→e.d.at_.getD e.x.thread.toNat 0≠-1
 ci:e.at_=-1→e.x=I2c∧e.c=noC
section
variable {p:g0a} {e:EvD}
theorem x4a{t:Nat}{th:i1a}(h:p.threads[t]?=some th):L0b p t=th:=getD_some h
theorem r4a{m:Int}{c:J2a}(h:p.modules[m.toNat]?=some c):F5b p m=c:=getD_some h
theorem f1a(k:Nat):j4a p e (k+1)=j4a p e k++t1b p e k:=by simp[j4a,List.range_succ]
theorem m2a(k:Nat):P3a p e (k+1)=P3a p e k++p8a p e k:=by simp[P3a,List.range_succ]
theorem B1a(k:Nat):r2a p e (k+1)=r2a p e k++Y2a p e k:=by simp[r2a,List.range_succ]
theorem E7a{run:List d0a}{l:List E0a}(k:Nat):M4a p run l (k+1)=M4a p run l k++k4a p (E4b run l k):=by simp[M4a,List.range_succ]
theorem R7a{f:Nat→List o6a}{n:Nat}(h:∀i,(f i).length≤n):∀k,((List.range k).flatMap f).length≤k*n
 | 0=>by simp
 | k+1=>by
   have h1:=R7a h k;have h2:=h k;have h3:([k].flatMap f).length=(f k).length:=by simp
   rw[List.range_succ,List.flatMap_append,List.length_append,Nat.add_mul];omega
theorem o2c(k:Nat):(t1b p e k).length≤1:=by
 unfold t1b
 split
 ·simp
 ·split<;>simp
theorem j2c(k:Nat):(p8a p e k).length≤1:=by
 unfold p8a
 split
 ·split<;>simp
 ·simp
theorem z7b(k:Nat):(Y2a p e k).length≤1:=by unfold Y2a;split<;>simp
theorem g8a:(Z1a p e).length≤1:=by unfold Z1a;split<;>simp
theorem X5b:(X2a p e).length≤1:=by unfold X2a;split<;>simp
theorem U3a(k:Nat):(j4a p e k).length≤k:=by have:=R7a (o2c (p:=p) (e:=e)) k;simpa[j4a] using this
theorem T0a(k:Nat):(P3a p e k).length≤k:=by have:=R7a (j2c (p:=p) (e:=e)) k;simpa[P3a] using this
theorem F0a(k:Nat):(r2a p e k).length≤k:=by have:=R7a (z7b (p:=p) (e:=e)) k;simpa[r2a] using this
theorem q0b(hp:q1a p):(k4a p e).length≤16:=by
 have h1:=g8a (p:=p) (e:=e);have h2:=X5b (p:=p) (e:=e);have h3:=U3a (p:=p) (e:=e) p.threads.length;have h4:=T0a (p:=p) (e:=e) p.locks.length;have h5:=F0a (p:=p) (e:=e) p.threads.length;have h6:=hp.nthreads;have h7:=hp.nlocks;unfold k4a h7a I5a a3a
 repeat' split
 all_goals simp<;>omega
theorem N6a(hp:q1a p){run:List d0a}{l:List E0a}(k:Nat):(M4a p run l k).length≤k*16:=R7a (fun _=>q0b hp) k
end
section
variable {d:Nat} {t:TypeId} {p:String} {af:Array Edge} {f:FuncId} {args:Array Operand} {at_:Array TypeId} {vs:LV} {x:Operand}
theorem p5c{g:Operand}{b:Bool}(S:St M w0 w L)(hH:Has P f)(hg:ev e g=.func (.func f) #[] #[])(a0:args.toList.map (ev e)=vs)(hd:Nat.ble (d+1) N=true)
 (hc:M0a P f vs.toArray w fun v w'=>v=.bool b∧Below w.heap.size w w') (h1:b=true→∀w1,St M w0 w1 L→A0a [] w w1→WL P r N ops rest K D (upd e d (.bool true)) w1)
 (h2:b=false→∀w1,St M w0 w1 L→A0a [] w w1→WL P r N ops rest K D (upd e d (.bool false)) w1) :
 WL P r N ops (⟨some d,.call { callee:=.value g,args:=args,argTypes:=at_ },t,p,af,none⟩::rest) K D e w:=by
 refine k2b hH hg (vs:=vs) (by simpa using a0) hd hc fun v w' ⟨hv,hb⟩=>?_;subst hv;cases b
 ·exact h2 Z w' (S.later hb) (A0a.of_below hb)
 ·exact h1 Z w' (S.later hb) (A0a.of_below hb)
end
structure n5b (p:g0a) (e:EvD) (M:List Nat) (w:World) (g:Nat) (cs xs ys:LV):Prop where
 cell:O1a w g 0 (cs++(.int .i64 e.at_::.int .i64 e.x.thread::.int .i64 e.x.step::.int .i64 e.x.cell::(xs++ys)))
 inp:InP p M w cs
 c:B0a M w e.c xs
 d:B0a M w e.d ys
 out:g∉M
 ok:s2b p e
theorem n5b.keep{p:g0a}{e:EvD}{M:List Nat}{w w':World}{g:Nat}{cs xs ys:LV}(h:n5b p e M w g cs xs ys)(hk:A0a M w w'):n5b p e M w' g cs xs ys :=
 ⟨h.cell.keep hk h.out,h.inp.keep hk,h.c.keep hk,h.d.keep hk,h.out,h.ok⟩
theorem G9a(p:g0a)(e:EvD)(M:List Nat)(w0:World)(ge:Nat)(cs xs ys:LV)(hE:n5b p e M w0 ge cs xs ys):
 M0a prog 249 #[.pointer (some ⟨ge,0,none⟩)] w0 fun v w'=>v=.bool e.step∧Bw w0 w':=by
 obtain⟨_,_,_,_,_,_,_,_,_,_,_,_,rfl,-⟩:=hE.inp.rd.open_;have a0:=hE.cell;have S:=St.refl w0;refine a0a func249 Z ntmps249 Z ?_;refine wB (S.k.a a0) [.f 0 4] Z ⟨Z,U⟩ (fun h7=>?_) fun h7=>?_
 ·refine lB (S.k.a a0) [.f 0 6] Z ⟨Z,U⟩ (fun b0=>?_) fun b0=>?_
  ·refine lU Z Z ⟨cB ?_,S.fin⟩;unfold EvD.step;simp;omega
  refine lU Z Z ⟨cB ?_,S.fin⟩;unfold EvD.step;simp;omega
 refine lU Z Z ⟨cB ?_,S.fin⟩;unfold EvD.step;simp;omega
theorem N0c(b:List J0a)(M:List Nat)(w0:World)(v:Value)(hR:W5c M w0 v b):
 M0a prog 291 #[v] w0 fun v w'=>v=.bool (decide (0<b.length))∧Bw w0 w':=by
 obtain⟨_,_,_,rfl⟩:=hR.form;have hn:=hR.len.1;have S:=St.refl w0;refine a0a func291 Z ntmps291 Z ?_;refine wB1 Z (fun h5=>?_) fun h5=>?_
 ·refine lU Z Z ⟨cB ?_,S.fin⟩;exact(decide_eq_true (by omega)).symm
 refine lU Z Z ⟨cB ?_,S.fin⟩;exact(decide_eq_false (by omega)).symm
theorem H4b(M:List Nat)(w0:World)(v:Value)(l:List (List J0a))(hR:V0d M w0 v l):
 M0a prog 310 #[v,.func (.func 291) #[] #[]] w0 fun v w'=>(∃n,v=.int .i64 n∧(0≤n↔(l.any fun b=>decide (0<b.length))=true))∧Bw w0 w':=by
 obtain⟨A,n,c,rfl⟩:=hR.form;obtain⟨_,_⟩:=hR.len;have S:=St.refl w0;refine a0a func310 Z ntmps310 Z ?_;refine wC1 Z (wL (fun μk D ε w=>D=[]∧∃k:Nat,(k+μk=(l.length))∧(g1a (l) k (fun x=>decide (0<x.length)=false))∧St [] w0 w []∧Sl ε [(0,.slice A n c),(1,.func (.func 291) #[] #[]),(7,.int .i64 n),(8,.int .i64 k)]) (μ:=(l.length)) ⟨Z,0,by omega,g1a.zero,S,Z⟩ ?_);rintro μk D ε w ⟨rfl,k,_,ha,S,eZ⟩;refine wK eZ (wB1 Z (fun h9=>?_) fun h9=>?_)
 ·obtain⟨x,o0,p0,_,m0,f0,_,_,g0,i0⟩:=RdS.get (hR) (k) (by omega);obtain⟨b0,j0,d0,rfl,a0,_⟩:=V4a.open_ i0;refine lO (S.k.a g0) [.x o0 p0,.f 0 0] Z ⟨Z,⟨f0,by omega⟩,U⟩ (p5c (vs:=[.slice b0 j0 d0]) S P0d Z Z Z (N0c x M _ _ (RdS.keepW a0 (S.keep0 M) (Q0a.keep (S.keep0 M)))) (fun e0 q0 c0 n0=>?_) (fun e0 q0 c0 n0=>?_))
  ·exact lU Z Z ⟨⟨_,Z,⟨fun _=>List.any_eq_true.2 ⟨x,c0a m0,e0⟩,fun _=>by omega⟩⟩,c0.fin⟩
  refine lP1 Z ⟨μk-1,by omega,Z,k+1,by omega,(ha.succ m0 (e0)),c0,Z⟩
 refine lU Z Z ?_;refine⟨⟨_,Z,⟨fun h=>by omega,fun h=>?_⟩⟩,S.fin⟩;obtain⟨x,h1,h2⟩:=List.any_eq_true.1 h;rw[ha.all (by omega) x h1] at h2;cases h2
theorem P0b(M:List Nat)(w0:World)(v:Value)(l:List (List J0a))(hR:V0d M w0 v l):
 M0a prog 290 #[v,.func (.func 291) #[] #[]] w0 fun v w'=>v=.bool (l.any fun b=>decide (0<b.length))∧Bw w0 w':=by
 obtain⟨_,_,_,rfl⟩:=hR.form;have S:=St.refl w0;refine a0a func290 Z ntmps290 Z ?_;refine wO1 Z (s0a S j0d Z Z (H4b M _ _ l (RdS.keepW hR (S.keep0 M) (V4a.keep (S.keep0 M)))) ?_);rintro v7 w7 ⟨_,rfl,hm⟩ S7 X7;refine lB1 Z (fun h8=>?_) fun h8=>?_
 ·refine lR1 Z (t0a Z ?_);exact⟨by rw[hm.1 (by omega)],S7.fin⟩
 refine lU Z Z ?_;refine⟨cB ?_,S7.fin⟩;cases hq:(l.any fun b=>decide (0<b.length)) with|false=>rfl|true=>exact absurd (hm.2 hq) (by omega)
theorem g9a(c:E0a)(M:List Nat)(w0:World)(xs:LV)(hX:B0a M w0 c xs):
 M0a prog 247 #[.agg xs.toArray] w0 fun v w'=>v=.bool (w3a c)∧Bw w0 w':=by
 obtain⟨_,_,_,_,_,_,_,_,_,rfl,_,_,a0,_⟩:=hX.open_;have S:=St.refl w0;refine a0a func247 Z ntmps247 Z ?_;refine wO1 Z (i0a S Z ?_);intro g1 w1 S1 X1 G1;refine lO S1.k [.o 0] Z ⟨Z,U⟩ (y0a S1 L8c Z Z (P0b M _ _ c.buf (RdS.keepW a0 (S1.keep0 M) (V4a.keep (S1.keep0 M)))) ?_);intro w5 S5 X5;exact lU Z Z ⟨Z,S5.fin⟩
theorem H6b(x:E)(l:List Int)(M:List Nat)(w0:World)(es:LV)(v:Value)(hR:RdE M w0 x es)(hK:H3a M w0)(hL:RdI M w0 v l):
 M0a prog 248 #[.agg es.toArray,v] w0 fun v w'=>v=.bool (decide (x.evl l l≠0))∧Bw w0 w':=by
 obtain⟨_,_,_,rfl,-⟩:=RdE.cells hR;obtain⟨_,_,_,rfl⟩:=hL.form;have S:=St.refl w0;refine a0a func248 Z ntmps248 Z ?_;refine wO1 Z (i0a S Z ?_);intro g2 w2 S2 X2 G2;refine lO S2.k [.w 0] Z ⟨⟨Z,by rfl⟩,U⟩ (y0a S2 i1b Z Z (o8a x M _ _ _ _ l l (RdE.keep (S2.keep0 M) _ _ hR) (hK.keep (S2.keep0 M)) (hL.keep (S2.keep0 M)) (hL.keep (S2.keep0 M))) ?_);intro w8 S8 X8;refine lB1 Z (fun h9=>?_) fun h9=>?_
 ·refine lU Z Z ⟨cB ?_,S8.fin⟩;simp[h9]
 refine lU Z Z ⟨cB ?_,S8.fin⟩;simp[h9]
theorem t4b(p:g0a)(e:EvD)(M:List Nat)(w0:World)(ge:Nat)(cs xs ys:LV)(hE:n5b p e M w0 ge cs xs ys):
 M0a prog 244 #[.pointer (some ⟨ge,0,none⟩)] w0 fun v w'=>v=.bool e.still∧Bw w0 w':=by
 obtain⟨_,_,_,_,_,_,_,_,_,_,_,_,rfl,-⟩:=hE.inp.rd.open_;obtain⟨_,_,_,_,_,_,_,_,_,rfl,-⟩:=hE.c.open_;obtain⟨_,_,_,_,_,_,_,_,_,rfl,-⟩:=hE.d.open_;have e0:=hE.cell;have S:=St.refl w0;refine a0a func244 Z ntmps244 Z ?_;refine wO1 Z (k0a S F4b Z Z (G9a p e M _ _ _ _ _ (hE.keep (S.keep0 M))) (fun h4 w4 S4 X4=>?_) (fun h4 w4 S4 X4=>?_))
 ·refine lO (S4.k.a e0) [.f 0 8] Z ⟨Z,U⟩ (k0a S4 W3b Z Z (g9a e.c M _ _ (hE.c.keep (S4.keep0 M))) (fun b0 i0 a0 f0=>?_) (fun b0 i0 a0 f0=>?_))
  ·refine lO (a0.k.a e0) [.f 0 11] Z ⟨Z,U⟩ (k0a a0 W3b Z Z (g9a e.d M _ _ (hE.d.keep (a0.keep0 M))) (fun d0 j0 c0 g0=>?_) (fun d0 j0 c0 g0=>?_))
   ·refine lU Z Z ⟨cB ?_,c0.fin⟩;unfold EvD.still;rw[h4,b0,d0];rfl
   refine lU Z Z ⟨cB ?_,c0.fin⟩;unfold EvD.still;rw[h4,b0,d0];rfl
  refine lU Z Z ⟨cB ?_,a0.fin⟩;unfold EvD.still;rw[h4,b0];rfl
 refine lU Z Z ⟨cB ?_,S4.fin⟩;unfold EvD.still;rw[h4];rfl
theorem V7c{α:Type}{a b:List α}(hl:a.length=b.length){k:Nat}(hk:a.length≤k)(h:∀i x y,i<k→a[i]?=some x→b[i]?=some y→x=y):a=b:=by
 apply List.ext_getElem hl;intro i h1 h2;exact h i _ _ (by omega) (List.getElem?_eq_getElem h1) (List.getElem?_eq_getElem h2)
def V3c{α:Type}(a b:List α)(k:Nat):Prop:=∀i x y,i<k→a[i]?=some x→b[i]?=some y→x=y
theorem V3c.zero{α:Type}{a b:List α}:V3c a b 0:=fun i x y h=>absurd h (by omega)
theorem V3c.succ{α:Type}{a b:List α}{k:Nat}(h:V3c a b k){x y:α}(hx:a[k]?=some x)(hy:b[k]?=some y)(he:x=y):V3c a b (k+1):=fun i x' y' hi h1 h2=>by
 by_cases a0:i=k
 ·subst a0;rw[hx] at h1;rw[hy] at h2;cases h1;cases h2;exact he
 ·exact h i x' y' (by omega) h1 h2
theorem V3c.all{α:Type}{a b:List α}{k:Nat}(h:V3c a b k)(hl:a.length=b.length)(hk:a.length≤k):a=b:=V7c hl hk h
theorem t2d{α:Type}{a b:List α}(h:¬a.length=b.length):a≠b:=fun e=>h (by rw[e])
theorem b3d{α:Type}{a b:List α}{k:Nat}{x y:α}(hx:a[k]?=some x)(hy:b[k]?=some y)(h:x≠y):a≠b:=fun e=>by subst e;rw[hx] at hy;cases hy;exact h Z
theorem J0a.ext'{a b:J0a}(h1:a.cells=b.cells)(h2:a.values=b.values):a=b:=by cases a;cases b;simp_all
theorem E0a.ext'{a b:E0a}(h1:a.mem=b.mem)(h2:a.at_=b.at_)(h3:a.buf=b.buf):a=b:=by cases a;cases b;simp_all
theorem d0a.ext'{a b:d0a}(h:a.thread=b.thread∧a.step=b.step∧a.cell=b.cell):a=b:=by cases a;cases b;simp_all
abbrev M2d(M:List Nat)(w:World)(v:Value)(l:List E0a):Prop:=RdS M w 3 (P4a M w) v l
theorem P4a.keep{M:List Nat}{w w':World}(hk:A0a M w w'):∀cs c,P4a M w cs c→P4a M w' cs c:=fun _ _ h=>B0a.keep hk h
theorem P4a.less{M M':List Nat}{w:World}(hk:∀g∈M',g∈M):∀cs c,P4a M w cs c→P4a M' w cs c:=fun _ _ h=>B0a.less hk h
section
variable {P:Program} {N:Nat} {ops:Array Oper} {rest:List Oper} {C:World→Prop} {K:Env→Prop} {e:Env} {d:Nat} {t:TypeId} {p:String} {af:Array Edge} {x y:Operand} {yt:TypeId}
theorem M1d{ty:TypeId}{a b c a' b' c':Int}(hE:Eq3 P ty)(hx:ev e x=.agg #[.int .i64 a,.int .i64 b,.int .i64 c])(hy:ev e y=.agg #[.int .i64 a',.int .i64 b',.int .i64 c'])(hd:Nat.ble (d+1) N=true)
 (h1:(a=a'∧b=b'∧c=c')→QL P N ops C rest K (upd e d (.bool true))) (h2:¬(a=a'∧b=b'∧c=c')→QL P N ops C rest K (upd e d (.bool false))) :
 QL P N ops C (⟨some d,.binOp .eql ty x y yt,t,p,af,none⟩::rest) K e:=by
 by_cases hh:a=a'∧b=b'∧c=c'
 ·exact V2a Z Z hd (fun w _=>by simp only[execOp,hx,hy,Sem.run_bind,run_eqGuard_agg w _ _ _ _ _ _ hE.1,Result.andThen_ok,hE.2,Sem.run_pure,decide_eq_true hh]) (h1 hh)
 ·exact V2a Z Z hd (fun w _=>by simp only[execOp,hx,hy,Sem.run_bind,run_eqGuard_agg w _ _ _ _ _ _ hE.1,Result.andThen_ok,hE.2,Sem.run_pure,decide_eq_false hh]) (h2 hh)
theorem x1d{ty:TypeId}{a b c a' b' c':Int}(hE:Eq3 P ty)(hx:ev e x=.agg #[.int .i64 a,.int .i64 b,.int .i64 c])(hy:ev e y=.agg #[.int .i64 a',.int .i64 b',.int .i64 c'])(hd:Nat.ble (d+1) N=true)
 (h1:¬(a=a'∧b=b'∧c=c')→QL P N ops C rest K (upd e d (.bool true))) (h2:(a=a'∧b=b'∧c=c')→QL P N ops C rest K (upd e d (.bool false))) :
 QL P N ops C (⟨some d,.binOp .neq ty x y yt,t,p,af,none⟩::rest) K e:=by
 have hn:∀w:World,(binOp .neq ty (.agg #[.int .i64 a,.int .i64 b,.int .i64 c]) (.agg #[.int .i64 a',.int .i64 b',.int .i64 c'])).run P w=.ok (.bool (!decide (a=a'∧b=b'∧c=c'))) w:=fun w=>by
  have:=hE.2 w a b c a' b' c';rw[run_eql_struct] at this;rw[run_neq_struct]
  revert this
  generalize (Op.equalIn 10000 ty (.agg #[.int .i64 a,.int .i64 b,.int .i64 c]) (.agg #[.int .i64 a',.int .i64 b',.int .i64 c'])).run P w=a0;intro this;cases a0 with
  | ok z w'=>simp only[Result.andThen_ok] at this ⊢;cases this;rfl
  | halt z w'=>simp[Result.andThen] at this
 by_cases hh:a=a'∧b=b'∧c=c'
 ·exact V2a Z Z hd (fun w _=>by simp only[execOp,hx,hy,Sem.run_bind,run_eqGuard_agg w _ _ _ _ _ _ hE.1,Result.andThen_ok,hn,Sem.run_pure,decide_eq_true hh];rfl) (h2 hh)
 ·exact V2a Z Z hd (fun w _=>by simp only[execOp,hx,hy,Sem.run_bind,run_eqGuard_agg w _ _ _ _ _ _ hE.1,Result.andThen_ok,hn,Sem.run_pure,decide_eq_false hh];rfl) (h1 hh)
end
theorem u2a{M:List Nat}{w w':World}{b:Blk}(hk:A0a M w w')(hm:b.1∉M)(h:z0a w b):z0a w' b:=by
 have:=h.lt;unfold z0a at *;rw[hk.same _ this hm];exact h
theorem InP.grow{p:g0a}{Bs0 M0 N:List Nat}{w0 w:World}{cs:LV}(h:InP p (Bs0++M0) w0 cs)(hK:A0a Bs0 w0 w)(hN:∀g∈N,g∈Bs0++M0∨w0.heap.size≤g)(a0:∀g∈N,g<w.heap.size):InP p N w cs:=by
 have hm:∀g∈Bs0++N,g∈Bs0++M0∨w0.heap.size≤g:=fun g hg=>by
  rcases List.mem_append.1 hg with h|h
  ·exact .inl (List.mem_append_left _ h)
  ·exact hN g h
 have hk:A0a (Bs0++N) w0 w:=hK.mono fun g hg=>List.mem_append_left _ hg;exact⟨((h.rd.more hm).keep hk).less fun g hg=>List.mem_append_right _ hg,h.ok,⟨fun hh=>((h.msk.more hm).keep hk).1 (List.mem_append_right _ hh),((h.msk.more hm).keep hk).2⟩,a0⟩
theorem H5c(cs:LV)(h4:cs.length=4)(m:Int)(A:Option Addr)(n a0:Nat)(w0:World):
 M0a prog 135 #[.agg cs.toArray,.int .i64 m,.slice A n a0] w0 fun v w'=>(∃gp gr gm,v=.func (.func 184) #[] #[.pointer (some ⟨gp,0,none⟩),.pointer (some ⟨gr,0,none⟩),.pointer (some ⟨gm,0,none⟩)]∧w0.heap.size≤gp∧w0.heap.size≤gr∧w0.heap.size≤gm ∧
  z0a w' (gp,27,cs)∧z0a w' (gr,28,[.slice A n a0])∧z0a w' (gm,3,[.int .i64 m]))∧Bw w0 w':=by
 have S:=St.refl w0
 match cs,h4 with
 | [c0,c1,c2,c3],_ =>
 refine a0a func135 Z ntmps135 Z ?_;refine wO1 Z (i0a S Z ?_);intro g3 w3 S3 X3 G3;refine H9a S3 (v:=.int .i64 _) Z Z Z ?_;intro g4 w4 S4 X4 G4;refine H9a S4 (v:=.slice _ _ _) Z Z Z ?_;intro g5 w5 S5 X5 G5;refine lO1 Z (h2a Z Z ?_);refine lR1 Z (t0a Z ?_);exact⟨⟨g3,g5,g4,Z,by simpa using S5.new 2 Z,by simpa using S5.new 0 Z,by simpa using S5.new 1 Z,S5.blk 2 Z,S5.blk 0 Z,S5.blk 1 Z⟩,S5.fin⟩
structure K6b (p:g0a) (m:Int) (run:List d0a) (l:Nat) (Bs0 M0:List Nat) (w0:World) (J:Nat→Nat→List Nat→World→Prop) (Q:World→Prop):Prop where
 start:∀g5 w,w0.heap.size≤g5→Below w0.heap.size w0 w→J g5 0 Bs0 w
 own:∀g5 k Bs w w',w0.heap.size≤g5→g5∉Bs→J g5 k Bs w→W0a [g5] w w'→J g5 k Bs w'
 lt:∀g5 k Bs w,J g5 k Bs w→∀g∈Bs,g<w.heap.size
 each:∀g5 k Bs w c ys (err:Int),w0.heap.size≤g5→g5<w.heap.size→g5∉Bs→J g5 k Bs w→A0a Bs0 w0 w→((err=0∧(g3a p m run)[k]?=some c)∨(err=110∧k=(g3a p m run).length∧(g3a p m run).length≤run.length∧c=⟨[],[],[]⟩))→B0a (g5::(Bs++M0)) w c ys →
  Yld prog l #[.agg ys.toArray,.int .i64 err] w fun v w'=>(err=0∧v=.bool true∧∃Bs',J g5 (k+1) Bs' w'∧A0a Bs w w'∧∀g∈Bs',g∈Bs∨w.heap.size≤g)∨(err=110∧v=.bool false∧Q w')
section
variable {p:g0a} {m:Int} {run:List d0a} {l:Nat} {Bs0 M0:List Nat} {w0:World} {J:Nat→Nat→List Nat→World→Prop} {Q:World→Prop}
theorem K6b.round(h:K6b p m run l Bs0 M0 w0 J Q):∀g5 k Bs w c ys,w0.heap.size≤g5→g5<w.heap.size→g5∉Bs→J g5 k Bs w→A0a Bs0 w0 w→(g3a p m run)[k]?=some c→B0a (g5::(Bs++M0)) w c ys→Yld prog l #[.agg ys.toArray,.int .i64 0] w fun v w'=>v=.bool true∧∃a0,J g5 (k+1) a0 w'∧A0a Bs w w'∧∀g∈a0,g∈Bs∨w.heap.size≤g :=
 fun g5 k Bs w c ys h1 h2 h3 h4 h5 h6 h7=>(h.each g5 k Bs w c ys 0 h1 h2 h3 h4 h5 (.inl ⟨Z,h6⟩) h7).mono fun v w' hh=>by
  rcases hh with⟨_,hh⟩|⟨hh,_⟩
  ·exact hh
  ·omega
theorem K6b.last(h:K6b p m run l Bs0 M0 w0 J Q):∀g5 Bs w ys,w0.heap.size≤g5→g5<w.heap.size→g5∉Bs→A0a Bs0 w0 w→(g3a p m run).length≤run.length→J g5 (g3a p m run).length Bs w→B0a (g5::(Bs++M0)) w ⟨[],[],[]⟩ ys→Yld prog l #[.agg ys.toArray,.int .i64 110] w fun v w'=>v=.bool false∧Q w' :=
 fun g5 Bs w ys h1 h2 h3 h4 h5 h6 h7=>(h.each g5 _ Bs w _ ys 110 h1 h2 h3 h6 h4 (.inr ⟨Z,Z,h5,Z⟩) h7).mono fun v w' hh=>by
  rcases hh with⟨hh,_⟩|⟨_,hh⟩
  ·omega
  ·exact hh
end
theorem B0a.grow{c:E0a}{ys:LV}{g5:Nat}{Bs a0 M0:List Nat}{w w':World}(h:B0a (g5::(Bs++M0)) w c ys)(hk:A0a Bs w w')(hb:∀g∈a0,g∈Bs∨w.heap.size≤g):B0a (g5::(a0++M0)) w' c ys:=by
 have h1:B0a (Bs++(g5::(a0++M0))) w c ys:=h.more fun g hg=>by
  simp only[List.mem_append,List.mem_cons] at hg ⊢;rcases hg with hg|rfl|hg|hg
  ·exact .inl (.inr (.inl hg))
  ·exact .inl (.inl Z)
  ·rcases hb g hg with h|h
   ·exact .inl (.inr (.inl h))
   ·exact .inr h
  ·exact .inl (.inr (.inr hg))
 exact(h1.keep (hk.mono fun g hg=>List.mem_append_left _ hg)).less fun g hg=>List.mem_append_right _ hg
theorem Y1c(p:g0a)(m:Int)(hm:m=0∨m=1∨m=2)(run:List d0a)(gp gr gm l:Nat)(Bs0 M0:List Nat)(w0:World)(cs:LV)(vr:Value)(J:Nat→Nat→List Nat→World→Prop)(Q:World→Prop)
 (hI:InP p (Bs0++M0) w0 cs) (p0:z4a (Bs0++M0) w0 vr run) (Z0:z0a w0 (gp,27,cs)) (p1:z0a w0 (gr,28,[vr])) (Y0:z0a w0 (gm,3,[.int .i64 m])) (u1:gp∉Bs0) (v1:gr∉Bs0) (t1:gm∉Bs0)
 (hJ:K6b p m run l Bs0 M0 w0 J Q) :
 M0a prog 184 #[.func (.yield l) #[] #[],.pointer (some ⟨gp,0,none⟩),.pointer (some ⟨gr,0,none⟩),.pointer (some ⟨gm,0,none⟩)] w0 fun _ w'=>((g3a p m run).length=run.length+1∧∃g5 Bs,J g5 (g3a p m run).length Bs w')∨Q w':=by
 obtain⟨Ac,nc,cc,Am,nm,cm,Al,nl,cl,At,nt,ct,rfl,-⟩:=hI.rd.open_;obtain⟨Ar,nr,cr,rfl⟩:=p0.form;obtain⟨_,-,_⟩:=p0.len;have hp:=hI.ok;have S:=St.refl w0;have a1:O1a w0 gp 0 (pL Ac nc cc Am nm cm Al nl cl At nt ct):=fun j v hj=>by rw[Nat.zero_add];exact Z0.cell hj
 have z0:∀g∈Bs0,g<w0.heap.size:=fun g hg=>hI.lt g (List.mem_append_left _ hg);refine a0a func184 Z ntmps184 Z ?_;refine wO1 Z (N1a k2a Z (a1.keep (S.keep0 []) (by simp)) (by rfl) Z ?_);refine s0a S o2d Z Z (k6b p (Bs0++M0) _ _ (hI.keep (S.keep0 _))) ?_;rintro P1 U1 ⟨_,rfl,hx⟩ T0 M1;obtain⟨Ym,E1,zm,Ya,C1,za,Yb,D1,zb,rfl,-⟩:=hx.open_;refine m0a T0 t4a Z Z ?_;intro g5 w5 S5 X5 G5;have i0:=Nat.le_trans T0.size G5;replace hx:=(hx.more (M':=g5::(Bs0++M0)) (fun g hg=>by rcases List.mem_cons.1 hg with rfl|hg;exact .inr G5;exact .inl hg)).keep X5.of_nil
 first|refine f0a (kk:=0) (vs:=[_,_,_]) S5 n2a Z Z Z Z Z Z Z ?_
 intro A1 b0 v0;dsimp only[o0a,List.set] at b0;replace hx:=hx.keep (v0.mono (by simp));refine lO1 Z (N1a V0a Z (b0.cells 0 Z) Z Z ?_);refine lO1 Z ?_;have m1:=hJ.start g5 _ i0 b0.fin;refine e0b Z Z Z (hJ.round g5 0 Bs0 _ (k1a p) _ i0 (b0.lt 0 Z) (fun hh=>by have:=z0 g5 hh;omega) m1 (b0.keep0 _) Z hx) ?_;rintro Q1 c1 ⟨rfl,m0,A0,n0,o0⟩;have s0:=u2a n0 (fun hh=>by have:=z0 g5 hh;omega) (b0.blk 0 Z);have P0:=B0a.grow hx n0 o0;have S0:A0a Bs0 w0 c1:=(b0.keep0 Bs0).trans n0;have D0:∀g∈m0,g∈Bs0∨w0.heap.size≤g:=fun g hg=>by
  rcases o0 g hg with h|h
  ·exact .inl h
  ·right;have:=b0.size;omega
 have x1:g5∉m0:=fun hh=>by
  rcases o0 g5 hh with h|h
  ·have:=z0 g5 h;omega
  ·have:=b0.lt 0 Z;omega
 have S:=St.borrow1 s0;have s1:c1.cell? ⟨gr,0,none⟩=some (.slice Ar nr cr):=S0.cell (a:=⟨gr,0,none⟩) v1 (p1.cell Z);refine lO1 Z (v0a G7a Z (by exact s1) Z ?_);refine lC1 Z (wL (fun μ D ε w=>D=[]∧∃k:Nat,∃c:E0a,∃ys:LV,∃Bs:List Nat,(k+μ=run.length)∧((g3a p m run)[k]?=some c)∧(J g5 (k+1) Bs w)∧(B0a (g5::(Bs++M0)) w c ys)∧(A0a Bs0 w0 w)∧(∀g∈Bs,g∈Bs0∨w0.heap.size≤g)∧(g5∉Bs)∧(z0a w (g5,71,ys))∧ε 0=.func (.yield l) #[] #[]∧ε 1=.pointer (some ⟨gp,0,none⟩)∧ε 3=.pointer (some ⟨gm,0,none⟩)∧ε 5=.pointer (some ⟨g5,0,none⟩)∧ε 16=.slice Ar nr cr∧ε 17=.int .i64 nr∧ε 18=.int .i64 k) (μ:=run.length) ⟨Z,0,k1a p,_,m0,by omega,Z,A0,P0,S0,D0,x1,s0,Z,Z,Z,Z,Z,Z,Z⟩ ?_);rintro μ D ε w ⟨rfl,k,c,ys,Bs,_,hc,B0,hx,hK,hN,n5,o1,e0,e1,e3,e5,U0,V0,W0⟩;refine u0a 0 e0 (u0a 1 e1 (u0a 3 e3 (u0a 5 e5 (u0a 16 U0 (u0a 17 V0 (u0a 18 W0 ?_))))));clear e0 e1 e3 e5 U0 V0 W0;obtain⟨Ym,E1,zm,Ya,C1,za,Yb,D1,zb,rfl,-⟩:=hx.open_;have r0:=p0.keep (hK.mono (fun g hg=>List.mem_append_left M0 hg));have L0:gp∉[g5]:=fun hh=>by rw[List.mem_singleton] at hh;have:=Z0.lt;simp at this;omega
 have K0:gm∉[g5]:=fun hh=>by rw[List.mem_singleton] at hh;have:=Y0.lt;simp at this;omega
 have r1:w.cell? ⟨gm,0,none⟩=some (.int .i64 m):=hK.cell (a:=⟨gm,0,none⟩) t1 (Y0.cell Z);have J0:=a1.keep hK u1;replace S:=St.borrow1 o1;refine wB1 Z (fun j1=>?_) fun j1=>?_
 ·obtain⟨x,i1,z1,_,Q0,y0,_,N0,I0,O0⟩:=RdS.get (r0) (k) (by omega);obtain⟨rfl,_⟩:=id O0;refine lO (S.k.b I0) [.x i1 z1,.v 0] Z ⟨⟨Z,N0⟩,⟨y0,by omega⟩,U⟩ (m0a S i5b Z Z ?_);intro g8 w8 S8 X8 G8
  first|refine f0a (kk:=0) (vs:=[_,_,_]) S8 U2b Z Z Z Z Z Z Z ?_
  intro u0 a0 g1;dsimp only[o0a,List.set] at a0;refine lO1 Z (N1a k2a Z (J0.keep a0.keepM L0) (by rfl) Z ?_);refine v0a K0a Z (by exact a0.oldM K0 r1) Z ?_;refine N1a V0a Z (a0.cells 1 Z) Z Z ?_;refine lO a0.k [.w 0] Z ⟨⟨Z,by rfl⟩,U⟩ ?_;have t0:∀g∈g5::(Bs++M0),g<u0.heap.size:=fun g hg=>by
   have O1:=a0.size;rcases List.mem_cons.1 hg with rfl|hg
   ·exact a0.lt 1 Z
   ·rcases List.mem_append.1 hg with h|h
    ·have:=hJ.lt _ _ _ _ B0 g h;omega
    ·have:=hI.lt g (List.mem_append_right _ h);have:=hK.size;omega
  have E0:∀g∈g5::(Bs++M0),g∈Bs0++M0∨w0.heap.size≤g:=fun g hg=>by
   rcases List.mem_cons.1 hg with rfl|hg
   ·exact .inr i0
   ·rcases List.mem_append.1 hg with h|h
    ·rcases hN g h with h|h
     ·exact .inl (List.mem_append_left _ h)
     ·exact .inr h
    ·exact .inl (List.mem_append_right _ h)
  have C0:A0a Bs0 w0 u0:=hK.freshL a0.keepM (fun g hg=>by rw[List.mem_singleton] at hg;subst hg;exact .inl i0);have b1:=d9a hp (c0a hc);refine s0a a0 H0d Z Z (v0c p c m x (by rcases hm with h|h|h;exact .inl ⟨h,b1.2 h⟩;exact .inr (.inl h);exact .inr (.inr h)) (g5::(Bs++M0)) _ _ _ (hI.grow C0 E0 t0) (hx.keep (a0.keepM.mono (by simp))) b1.1) ?_;rintro R1 V1 ⟨_,rfl,hz⟩ f1 N1;obtain⟨Zm,J1,K1,Za,F1,G1,Zb,H1,I1,rfl,-⟩:=hz.open_;refine lO1 Z ?_
  first|refine f0a (kk:=1) (vs:=[_,_,_]) f1 n2a Z Z Z Z Z Z Z ?_
  intro g0 c0 x0;dsimp only[o0a,List.set] at c0;replace hz:=hz.keep (x0.mono (by simp));refine lO1 Z (N1a V0a Z (c0.cells 1 Z) Z Z ?_);refine lO1 Z ?_;have q0:=hJ.own g5 (k+1) Bs _ _ i0 n5 B0 c0.below;have d0:A0a Bs0 w0 g0:=hK.freshL c0.keepM (fun g hg=>by rw[List.mem_singleton] at hg;subst hg;exact .inl i0);have n1:Yld prog l #[.agg #[.slice Zm J1 K1,.slice Za F1 G1,.slice Zb H1 I1],.int .i64 (N0b p m c x).2] g0 fun v w'=>(v=.bool true∧x∈P0a p m c∧∃R0,J g5 (k+1+1) R0 w'∧A0a Bs g0 w'∧∀g∈R0,g∈Bs∨g0.heap.size≤g)∨(v=.bool false∧Q w'):=by
   by_cases f0:x∈P0a p m c
   ·have j0:=hz;rw[J3a f0] at j0 ⊢;exact(hJ.round g5 (k+1) Bs _ _ _ i0 (c0.lt 1 Z) n5 q0 d0 (T8a hc Q0 f0) j0).mono fun v w' h=>.inl ⟨h.1,f0,h.2⟩
   ·have j0:=hz;rw[p3a f0] at j0 ⊢;have w1:=z4b hc Q0 f0;exact(hJ.last g5 Bs _ _ i0 (c0.lt 1 Z) n5 d0 (by omega) (by rw[w1];exact q0) j0).mono fun v w' h=>.inr h
  refine e0b Z Z Z n1 ?_;rintro T1 B1 (⟨rfl,f0,m0,A0,n0,o0⟩|⟨rfl,G0⟩)
  ·refine lB1 Z (fun X0=>by exact absurd (by rw[J3a f0]) X0) (fun X0=>?_);refine lP1 Z ?_;have j0:=hz;rw[J3a f0] at j0;have q1:=T8a hc Q0 f0;have H0:=u2a n0 n5 (c0.blk 1 Z);have P0:=B0a.grow j0 n0 o0;have d1:A0a Bs0 w0 B1:=d0.freshL n0 (fun g hg=>(hN g hg).symm);have F0:∀g∈m0,g∈Bs0∨w0.heap.size≤g:=fun g hg=>by
    rcases o0 g hg with h|h
    ·exact hN g h
    ·right;have:=d0.size;omega
   have y1:g5∉m0:=fun hh=>by
    rcases o0 g5 hh with h|h
    ·exact n5 h
    ·have:=c0.lt 1 Z;omega
   exact⟨μ-1,by omega,Z,k+1,_,_,m0,by omega,q1,A0,P0,d1,F0,y1,H0,Z,Z,Z,Z,Z,Z,Z⟩
  refine lR1 Z (c2a Z ?_);exact .inr G0
 refine lF1 Z (c2a Z ?_);refine .inl ⟨?_,g5,Bs,?_⟩
 ·have:=m1a hc;have:=o5a p m run;omega
 ·have:=m1a hc;have:=o5a p m run;rw[show(g3a p m run).length=k+1 by omega];exact B0
theorem NC.keepN{w w':World}{rs:List (Nat×Obj)}(h:NC w rs){Gs:List Nat}(k:A0a Gs w w')(hg:∀x∈rs,x.1∉Gs):NC w' rs:=fun x hx=>⟨(k.same x.1 (h.lt x hx) (hg x hx)).trans (h x hx).1,(h x hx).2⟩
theorem St.other{M:List Nat}{w0 w w':World}{L:List Ent}(S:St M w0 w L){g:Nat}(hb:W0a [g] w w')(hg:w0.heap.size≤g)(hn:g∉z6a L):St M w0 w' L:=by
 refine⟨⟨hb.os.trans S.below.os,hb.tape.trans S.below.tape,hb.output.trans S.below.output,Nat.le_trans S.below.size hb.size,fun k hk hm=>?_⟩,fun b hm x hx=>?_,S.apart⟩
 ·rw[hb.block k (Nat.lt_of_lt_of_le hk S.below.size) (by rw[List.mem_singleton];omega)];exact S.below.block k hk hm
 ·obtain⟨h1,h2⟩:=S.own b hm x hx;refine⟨h1,?_⟩;have a0:=h2.lt;unfold z0a at *;rw[hb.block x a0 (by rw[List.mem_singleton];rintro rfl;exact hn (v2a.2 ⟨b,hm,hx⟩))];exact h2
theorem c2d{a b c d e t1 t2 t3 t4 t5 t6:Nat}{c1 c2 c3 c4 c5 c6:LV}{G:Option Nat}:z6a ([(some a,t1,c1),(some b,t2,c2),(some c,t3,c3),(some d,t4,c4),(some e,t5,c5)]++[(G,t6,c6)])=a::b::c::d::e::G.toList:=by cases G<;>rfl
section
variable {P:Program} {fn:Func} {R:Value→World→Prop} {D:List Deferred} {e:Env} {w:World}
theorem N3a{a1 t1 a2 t2 a3 t3 g1 g2 g3:Nat}{v1 v2 v3:Value}(h:fn.results=#[.cell a1 t1,.cell a2 t2,.cell a3 t3])(o1:One P t1)(o2:One P t2)(o3:One P t3)(e1:e a1=.pointer (some ⟨g1,0,none⟩))(e2:e a2=.pointer (some ⟨g2,0,none⟩))(e3:e a3=.pointer (some ⟨g3,0,none⟩))
 (rs:List Nat) (hD:D=rs.map H5a) (hn:rs.Nodup) (hO:NC w (t8a rs)) {x1 x2 x3:Nat} {c1 c2 c3:LV} (b1:z0a w (g1,x1,c1)) (b2:z0a w (g2,x2,c2)) (b3:z0a w (g3,x3,c3)) (q1:c1[0]?=some v1) (q2:c2[0]?=some v2) (q3:c3[0]?=some v3) (hR:∀w',W0a rs w w'→R (.tuple #[v1,v2,v3]) w'):T6a P fn R D e w :=
 ⟨rs,hD,hn,hO,fun w' hb _ tmps he=>by
  have hk:A0a rs w w':=⟨hb.size,hb.block⟩;have a0:∀{g x:Nat} {c:LV},z0a w (g,x,c)→g∉rs:=fun hb hh=>hO.ne hb _ (List.mem_map.2 ⟨_,hh,Z⟩) Z;have k1:=hk.cell (a:=⟨g1,0,none⟩) (a0 b1) (b1.cell q1);have k2:=hk.cell (a:=⟨g2,0,none⟩) (a0 b2) (b2.cell q2);have k3:=hk.cell (a:=⟨g3,0,none⟩) (a0 b3) (b3.cell q3);subst he;simp only[c1a,Array.getD_eq_getD_getElem?] at e1 e2 e3;have hl:∀(t g:Nat) (v:Value),One P t→w'.cell? ⟨g,0,none⟩=some v→(loadVar t ⟨g,0,none⟩).run P w'=.ok v w':=fun t g v ho hc=>by rw[ho w'];simp[load,Sem.run,hc]
  exact⟨_,by simp[results,h,asAddr,e1,e2,e3,hl _ _ _ o1 k1,hl _ _ _ o2 k2,hl _ _ _ o3 k3],hR w' hb⟩⟩
end
def s7b(p:g0a)(m:Int)(run:List d0a):Int:=if(g3a p m run).length=run.length+1 then 0 else 110
theorem H1c{M Mx:List Nat}{w0 w w':World}{A:List Ent}{G:Option Nat}{a0:LV}{v:Value}{l:List E0a}{r:Nat}(d0:A1a P4a 3 Mx w G a0 v l)(S:St [] w0 w (A++[(G,71,a0)]))(hM:∀g∈M,g<w0.heap.size)(e0:∀g∈r::M,g∈Mx)(hO:NC w (t8a [r]))(hb:W0a [r] w w')(hl:l.length≤1000000:=by omega):M2d M w' v l:=by
 have h1:A1a P4a 3 (r::M) w G a0 v l:=d0.more T1a fun g hg=>.inl (.inr (e0 g hg));have h2:=h1.rd T1a S (k:=A.length) (el:=71) (by simp) (fun g hg hm=>by
  subst hg;have c0:(some g,71,a0)∈A++[(some g,71,a0)]:=by simp
  have b0:=S.own _ c0 g Z;rcases List.mem_cons.1 hm with rfl|hm
  ·exact hO.ne b0.2 _ (List.mem_cons_self) Z
  ·rcases b0.1 with h|h
   ·have:=hM g hm;omega
   ·cases h) hl
 have hk:A0a (r::M) w w':=(A0a.of_belowM hb).mono (by simp);exact RdS.lessW (RdS.keepW h2 hk (P4a.keep hk)) (fun g hg=>List.mem_cons_of_mem _ hg) (P4a.less fun g hg=>List.mem_cons_of_mem _ hg)
theorem w2d(p:g0a)(m:Int)(hm:m=0∨m=1∨m=2)(run:List d0a)(M:List Nat)(w0:World)(cs:LV)(vr:Value)(hI:InP p M w0 cs)(F0:z4a M w0 vr run)(hlen:run.length≤120):
 M0a prog 77 #[.agg cs.toArray,.int .i64 m,vr] w0 fun v w'=>(∃vl,v=.tuple #[vl,.int .i64 (s7b p m run),.int .i64 (((g3a p m run).length:Int)-1)]∧M2d M w' vl (g3a p m run))∧Bw w0 w':=by
 obtain⟨Ac,nc,cc,Am,nm,cm,Al,nl,cl,At,nt,ct,rfl,_⟩:=hI.rd.open_;obtain⟨Ar,nr,cr,rfl⟩:=F0.form;obtain⟨_,-,_⟩:=F0.len;have hp:=hI.ok;have hM:=hI.lt;have S:=St.refl w0;have t2:=o5a p m run;refine M3a func77 Z ntmps77 Z (wI ?_);refine wO1 Z (i0a S Z ?_);intro g3 w3 S3 X3 G3;refine m0a S3 w1c Z Z ?_;intro g6 w6 S6 X6 G6;refine m0a S6 f0d Z Z ?_;intro g7 w7 S7 X7 G7;refine m0a S7 r3d Z Z ?_;intro g8 w8 S8 X8 G8;refine lCn 2 S8.k [] Z U (wY (fun D ε w=>D=[]∧St [] w0 w [(some g8,3,[.int .i64 0]),(some g7,31,[.int .i64 0]),(some g6,135,[.slice none 0 0]),(some g3,27,pL Ac nc cc Am nm cm Al nl cl At nt ct)]∧Sl ε [(1,.int .i64 m),(2,.slice Ar nr cr),(3,.pointer (some ⟨g3,0,none⟩)),(6,.pointer (some ⟨g6,0,none⟩)),(7,.pointer (some ⟨g7,0,none⟩)),(8,.pointer (some ⟨g8,0,none⟩))]) ?_ ?_)
 ·refine wO S8.k [.w 3] Z ⟨⟨Z,by rfl⟩,U⟩ (y0a S8 x9b Z Z (k1b p M _ _ (hI.keep (S8.keep0 M)).rd hI.ok (hI.keep (S8.keep0 M)).msk (hI.keep (S8.keep0 M)).lt) ?_);intro y2 V0 m2;refine lB1 Z (fun F1=>by exfalso;omega) fun F1=>?_;refine lB1 Z (fun G1=>?_) fun G1=>?_
  ·refine lB1 Z (fun H1=>?_) fun H1=>?_
   ·refine lB1 Z (fun I1=>by exfalso;omega) fun I1=>?_;refine lP0 Z U ⟨Z,V0,Z⟩
   refine lP0 Z U ⟨Z,V0,Z⟩
  refine lP0 Z U ⟨Z,V0,Z⟩
 rintro D ε w ⟨rfl,S,eZ⟩;refine wK eZ ?_;refine wB1 Z (fun J1=>by exfalso;omega) fun J1=>?_;refine lO1 Z (m0a S w1c Z Z ?_);intro c0 x1 i0 j2 g2;refine lO i0.k [.w 4] Z ⟨⟨Z,by rfl⟩,U⟩ ?_;have Zb:=i0.size;refine s0a i0 v8c Z Z (H5c _ Z m Ar nr cr _) ?_;rintro v2 a0 ⟨gp,gr,gm,rfl,Ggp,Ggr,Ggm,s1,t1,r1⟩ i1 n2;refine lC1 Z (wJ ?_);refine F8a (vs:=fun y=>#[y,_,_,_]) D7c Z (fun _=>rfl) (fun rc wi f1 v1 a2 b1 W1 O1 Q1 T1 hl hB u2=>?_);obtain⟨l,V1⟩:∃l,l=a0.heap.size+1:=⟨_,Z⟩;have q1:=Q6a (NC.nil (w:=a0)) T1 hl hB;rw[←V1] at hl q1 ⊢;have Si:=(i1.later hB).nils (R:=[(none,71,[])]) (by simp);have Ki:A0a [] a0 wi:=A0a.of_below hB;have Zw:=i1.size;have d2:gp<a0.heap.size:=s1.lt;have f2:gr<a0.heap.size:=t1.lt;have b2:gm<a0.heap.size:=r1.lt;have q0:∀x∈[(a0.heap.size,Obj.deferred (some []))],x.1≠l:=fun x hx=>by
  rcases List.mem_cons.1 hx with rfl|hx
  ·show a0.heap.size≠l;omega
  ·cases hx
 have n0:∀g∈c0::g8::g7::g6::g3::([]:List Nat),g<x1.heap.size∧w0.heap.size≤g:=fun g hg=>by
  simp only[List.mem_cons,List.not_mem_nil,or_false] at hg;rcases hg with rfl|rfl|rfl|rfl|rfl
  ·exact⟨i0.lt 0 Z,by simpa using i0.new 0 Z⟩
  ·exact⟨i0.lt 1 Z,by simpa using i0.new 1 Z⟩
  ·exact⟨i0.lt 2 Z,by simpa using i0.new 2 Z⟩
  ·exact⟨i0.lt 3 Z,by simpa using i0.new 3 Z⟩
  ·exact⟨i0.lt 4 Z,by simpa using i0.new 4 Z⟩
 have Z0:∀g∈(l::c0::g8::g7::g6::g3::[])++(a0.heap.size::M),g∈M∨w0.heap.size≤g:=fun g hg=>by
  rcases List.mem_append.1 hg with hg|hg
  ·rcases List.mem_cons.1 hg with rfl|hg
   ·right;omega
   ·exact .inr (n0 g hg).2
  ·rcases List.mem_cons.1 hg with rfl|hg
   ·right;omega
   ·exact .inl hg
 have c1:∀g∈(l::c0::g8::g7::g6::g3::[])++(a0.heap.size::M),g<wi.heap.size:=fun g hg=>by
  rcases List.mem_append.1 hg with hg|hg
  ·rcases List.mem_cons.1 hg with rfl|hg
   ·omega
   ·have:=(n0 g hg).1;omega
  ·rcases List.mem_cons.1 hg with rfl|hg
   ·omega
   ·have:=hM g hg;omega
 have K1:InP p ((l::c0::g8::g7::g6::g3::[])++(a0.heap.size::M)) wi _:=⟨(hI.rd.more Z0).keep (Si.keep0 _),hI.ok,(hI.msk.more Z0).keep (Si.keep0 _),c1⟩;have N1:z4a ((l::c0::g8::g7::g6::g3::[])++(a0.heap.size::M)) wi (.slice Ar nr cr) run:=(F0.more (by omega) Z0).keep (Si.keep0 _);have d1:∀g,x1.heap.size≤g→g<a0.heap.size→g∉(l::c0::g8::g7::g6::g3::[]):=fun g h1 h2 hh=>by
  rcases List.mem_cons.1 hh with h|h
  ·omega
  ·have:=(n0 g h).1;omega
 refine M0a.mono (Y1c p m hm run gp gr gm l (l::c0::g8::g7::g6::g3::[]) (a0.heap.size::M) wi _ _ (fun g5 k Bs w=>∃(G:Option Nat) (g0:LV) (v:Value),Bs=(l::c0::g8::g7::g6::g3::G.toList)∧NC w [(l,.loop rc),(a0.heap.size,.deferred (some []))]∧St [] w0 w ([(some c0,135,[v]),(some g8,3,[.int .i64 0]),(some g7,31,[.int .i64 0]),(some g6,135,[.slice none 0 0]),(some g3,27,pL Ac nc cc Am nm cm Al nl cl At nt ct)]++[(G,71,g0)])∧A1a P4a 3 (g5::l::a0.heap.size::c0::g8::g7::g6::g3::M) w G g0 v ((g3a p m run).take k)) (fun w=>(g3a p m run).length≤run.length∧∃(g5:Nat) (G:Option Nat) (g0:LV) (v:Value),NC w [(l,.loop { rc with state:=.done,pending:=some .ret }),(a0.heap.size,.deferred (some []))]∧St [] w0 w ([(some c0,135,[v]),(some g8,3,[.int .i64 (((g3a p m run).length:Int)-1)]),(some g7,31,[.int .i64 110]),(some g6,135,[v]),(some g3,27,pL Ac nc cc Am nm cm Al nl cl At nt ct)]++[(G,71,g0)])∧A1a P4a 3 (g5::l::a0.heap.size::c0::g8::g7::g6::g3::M) w G g0 v (g3a p m run)) K1 N1 (z1a Ki s1) (z1a Ki t1) (z1a Ki r1) (d1 gp Ggp d2) (d1 gr Ggr f2) (d1 gm Ggm b2) ⟨?_,?_,?_,fun g5 k Bs w c ys D1 u1 U1 T0 hJ r2 p0 hY=>?_⟩) ?_
 ·intro g5 w u1 p1;exact⟨none,[],_,Z,q1.keep (A0a.of_below p1),Si.later p1,A1a.nil⟩
 ·rintro g5 k Bs w w' u1 T0 ⟨G,g0,v,rfl,hO,S,b0⟩ hb;simp only[List.mem_cons,not_or] at T0;refine⟨G,g0,v,Z,hO.keepN (A0a.of_belowM hb) (fun x hx=>?_),S.other hb (by omega) (by rw[c2d];simp only[List.mem_cons,not_or];exact T0.2),b0.keep T1a ((A0a.of_belowM hb).mono (by simp))⟩;rw[List.mem_singleton];rcases List.mem_cons.1 hx with rfl|hx
  ·exact fun h=>T0.1 h.symm
  ·rcases List.mem_cons.1 hx with rfl|hx
   ·show ¬a0.heap.size=g5;omega
   ·cases hx
 ·rintro g5 k Bs w ⟨G,g0,v,rfl,hO,S,b0⟩ g hg;rcases List.mem_cons.1 hg with rfl|hg
  ·exact hO.lt _ List.mem_cons_self
  ·have P1:g∈z6a ([(some c0,135,[v]),(some g8,3,[.int .i64 0]),(some g7,31,[.int .i64 0]),(some g6,135,[.slice none 0 0]),(some g3,27,pL Ac nc cc Am nm cm Al nl cl At nt ct)]++[(G,71,g0)]):=by rw[c2d];exact hg
   obtain⟨x,hx,hg⟩:=v2a.1 P1;exact(S.own x hx g hg).2.lt
 ·obtain⟨G,g0,v,rfl,f0,S3,e0⟩:=hJ;obtain⟨_,_,_,_,_,_,_,_,_,rfl,-⟩:=hY.open_;have K3:=A0a.refl (l::c0::g8::g7::g6::g3::G.toList) w;refine H3c (f0 (l,.loop rc) (by simp)).1 f1 a2 b1 W1 O1 Q1 Z Z ?_;refine wI ?_;refine wO1 Z (m0a S3 t4a Z Z ?_);intro E1 x2 R0 m1 C1;have K0:=Nat.le_trans K3.size C1;replace K3:=K3.trans (m1.of_nil);replace f0:=f0.keep m1;refine f0a (kk:=0) (vs:=[_,_,_]) R0 n2a Z Z Z Z Z Z Z ?_;intro C0 u0 y0;dsimp only[o0a,List.set] at u0;replace K3:=K3.fresh2 y0 (by exact .inl K0);replace f0:=by exact f0.keepS y0 (R0.blk 0 Z)
  refine lF1 Z ?_;refine⟨(f0 (l,.loop rc) (by simp)).1,?_⟩;have Sb:=u0.putObj (.loop { rc with state:=.busy }) f0 (List.mem_cons_self) (.inl (by omega));have o0:=f0.put (o':=.loop { rc with state:=.busy }) q0 (by simp);have Kb:=K3.fresh2 (H1a C0 l (.loop { rc with state:=.busy })) (.inr (by simp));generalize C0.putObj l (.loop { rc with state:=.busy })=wb at Sb o0 Kb ⊢;have a1:=hY.keep (Kb.mono (fun g hg=>List.mem_cons_of_mem _ (List.mem_append_left _ hg)));have P0:∀g∈G.toList++(g5::l::a0.heap.size::c0::g8::g7::g6::g3::M),g∈g5::((l::c0::g8::g7::g6::g3::G.toList)++(a0.heap.size::M)):=fun g hg=>by
   simp only[List.mem_append,List.mem_cons] at hg ⊢;rcases hg with h|h|h|h|h|h|h|h|h|h<;>simp[h]
  have Q0:∀g∈(l::c0::g8::g7::g6::g3::G.toList),g∈G.toList++(g5::l::a0.heap.size::c0::g8::g7::g6::g3::M):=fun g hg=>by
   simp only[List.mem_append,List.mem_cons] at hg ⊢;rcases hg with h|h|h|h|h|h|h<;>simp[h]
  have s0:=e0.keep T1a (Kb.mono Q0);have Kr:=A0a.refl [] wb;have p2:=Kb.size;refine wI ?_;refine wB1 Z (fun Y0=>?_) fun Y0=>?_
  ·obtain⟨H0,rfl,N0,_⟩:=p0.resolve_left (fun h=>Y0 h.1);rw[List.take_length] at s0;refine lC1 Z (o8b b0a (by kernel_rfl) (fun f ε w=>ε 6=.pointer (some ⟨g6,0,none⟩)∧ε 7=.pointer (some ⟨g7,0,none⟩)∧ε 8=.pointer (some ⟨g8,0,none⟩)∧ε 12=.pointer (some ⟨c0,0,none⟩)∧∃(u8 u7 u6:Value) (t0:LV),St [] w0 w ([(some E1,71,t0),(some c0,135,[v]),(some g8,3,[u8]),(some g7,31,[u7]),(some g6,135,[u6]),(some g3,27,pL Ac nc cc Am nm cm Al nl cl At nt ct)]++[(G,71,g0)])∧NC w [(l,.loop { rc with state:=.busy }),(a0.heap.size,.deferred (some []))]∧A1a P4a 3 (g5::l::a0.heap.size::c0::g8::g7::g6::g3::M) w G g0 v (g3a p m run)∧(f 0=true→ε 44=v)∧(f 1=true→ε 45=v)∧(f 2=true→ε 46=.int .i64 ((g3a p m run).length:Nat))∧(f 3=true→ε 47=.int .i64 (((g3a p m run).length:Int)-1))∧(f 4=true→u6=v)∧(f 5=true→u7=.int .i64 110)∧(f 6=true→u8=.int .i64 (((g3a p m run).length:Int)-1))) ?_ ?_ ?_)
   ·exact⟨Z,Z,Z,Z,_,_,_,_,Sb.drew,o0.keep (p2a _ _),s0.keep T1a (p2a _ _),by simp,by simp,by simp,by simp,by simp,by simp,by simp⟩
   ·rintro f ε w i o ⟨e6,e7,e8,o1,u8,u7,u6,t0,S,hO,b0,h0,h1,h2,h3,h4,h5,h6⟩ ho s2 U0;have hi:i<7:=(List.getElem?_eq_some_iff.1 ho).1;refine a1a 6 e6 (a1a 7 e7 (a1a 8 e8 (a1a 12 o1 ?_)));rcases(show i=0∨i=1∨i=2∨i=3∨i=4∨i=5∨i=6 by omega) with rfl|rfl|rfl|rfl|rfl|rfl|rfl
    ·cases ho;refine v0a L4a Z (S.cell 1 Z Z) Z ?_;refine D0a ⟨Z,Z,Z,Z,Z,u8,u7,u6,t0,S,hO,b0,fun _=>rfl,h_ h1,h_ h2,h_ h3,h_ h4,h_ h5,h_ h6⟩
    ·cases ho;refine v0a L4a Z (S.cell 1 Z Z) Z ?_;refine D0a ⟨Z,Z,Z,Z,Z,u8,u7,u6,t0,S,hO,b0,h_ h0,fun _=>rfl,h_ h2,h_ h3,h_ h4,h_ h5,h_ h6⟩
    ·cases ho;obtain⟨Av,cv,hv⟩:=b0.form;refine a1a 45 ((h1 (U0 1 (by decide))).trans hv) ?_;refine y0d C5a.slT Z Z ?_;refine D0a ⟨Z,Z,Z,Z,Z,u8,u7,u6,t0,S,hO,b0,h_ h0,fun _=>hv.symm,fun _=>rfl,h_ h3,h_ h4,h_ h5,h_ h6⟩
    ·cases ho;refine a1a 46 (h2 (U0 2 (by decide))) ?_;refine s3d Z Z (by have:=o5a p m run;unfold i64;omega) Z ?_;refine D0a ⟨Z,Z,Z,Z,Z,u8,u7,u6,t0,S,hO,b0,h_ h0,h_ h1,fun _=>rfl,fun _=>rfl,h_ h4,h_ h5,h_ h6⟩
    ·cases ho;obtain⟨Av,cv,hv⟩:=b0.form;subst hv;refine a1a 44 (h0 (U0 0 (by decide))) ?_;refine r0a (kk:=4) S G0b Z Z Z (Nat.le_of_ble_eq_true Z) ?_;intro w1 S1 X1;refine D0a ⟨Z,Z,Z,Z,Z,u8,u7,_,t0,S1,hO.keepS X1 (S.blk 4 Z),b0.keep T1a (X1.mono (by simp)),fun _=>rfl,h_ h1,h_ h2,h_ h3,fun _=>rfl,h_ h5,h_ h6⟩
    ·cases ho;refine r0a (kk:=3) S y7a Z Z Z (Nat.le_of_ble_eq_true Z) ?_;intro w1 S1 X1;refine D0a ⟨Z,Z,Z,Z,Z,u8,_,u6,t0,S1,hO.keepS X1 (S.blk 3 Z),b0.keep T1a (X1.mono (by simp)),h_ h0,h_ h1,h_ h2,h_ h3,h_ h4,fun _=>rfl,h_ h6⟩
    ·cases ho;refine a1a 47 (h3 (U0 3 (by decide))) ?_;refine r0a (kk:=2) S h8a Z Z Z (Nat.le_of_ble_eq_true Z) ?_;intro w1 S1 X1;refine D0a ⟨Z,Z,Z,Z,Z,_,u7,u6,t0,S1,hO.keepS X1 (S.blk 2 Z),b0.keep T1a (X1.mono (by simp)),h_ h0,h_ h1,h_ h2,fun _=>rfl,h_ h4,h_ h5,fun _=>rfl⟩
   rintro f ε w ⟨e6,e7,e8,o1,u8,u7,u6,t0,R0,E0,I0,h0,h1,h2,h3,h4,h5,h6⟩ G0;obtain rfl:=h4 (G0 4 (by decide));obtain rfl:=h5 (G0 5 (by decide));obtain rfl:=h6 (G0 6 (by decide));refine fR0 Z U ?_;refine⟨{ rc with state:=.busy },(E0 (l,_) List.mem_cons_self).1,.inr ⟨H0,Z,N0,g5,G,g0,_,E0.put (o':=.loop { rc with state:=.done,pending:=some .ret }) q0 (by simp),R0.tail.putObj (.loop { rc with state:=.done,pending:=some .ret }) E0 (List.mem_cons_self) (.inl (by omega)),I0.keep T1a ((H1a w l _).mono (by simp))⟩⟩
  refine lO1 Z (v0a L4a Z (by exact Sb.cell 1 Z Z) Z ?_);refine lO Sb.k [.w 0] Z ⟨⟨Z,by rfl⟩,U⟩ (h0a Sb C5a (vs:=[.agg _]) (cs:=[_,_,_]) Z Z Z Z Z Z ?_);intro q2 z2 W0 S0 i2;replace Kr:=Kr.trans S0;replace Kb:=Kb.trans (S0.of_nil);replace o0:=o0.keep S0;replace a1:=a1.keep (S0.of_nil);have R1:(g3a p m run)[k]?=some c:=by rcases p0 with h|h;exact h.2;omega
  refine C0a (hll:=(by rw[List.length_take];omega)) T1a (k:=7) (e1:=c) W0 C5a Z (s0.keep T1a Kr.of_nil) Z Z (W0.cells 0 Z) (B0a.less P0 a1) Z ?_;intro w2 g1 X0 A2 j1 r0 n1 B1;have o2:=Kb.size;obtain⟨_,_,rfl⟩:=r0.form;replace o0:=o0.keepL n1 (G9c W0 7 Z);replace Kb:=Kb.freshL n1 (fun g hg=>.inr (by simp[hg]))
  first|refine r0a (kk:=2) j1 G0b Z Z Z (by exact Nat.le_of_ble_eq_true Z) ?_
  intro D0 L0 m0;replace Kb:=Kb.fresh2 m0 (by exact .inr (by simp));replace o0:=by exact o0.keepS m0 (j1.blk 2 Z)
  refine lF1 Z ?_;obtain⟨H0,hc⟩:D1=0∧(g3a p m run)[k]?=some c:=⟨Y0,by rcases p0 with h|h;exact h.2;omega⟩;have M1:=o0.put (o':=.loop rc) q0 (by simp);have Sn:=L0.tail.tail.putObj (.loop rc) o0 (List.mem_cons_self) (.inl (by omega));have Kn:=Kb.fresh2 (H1a D0 l (.loop rc)) (.inr (by simp));have Y1:=(r0.keep T1a (m0.mono (by simp))).keep T1a ((H1a D0 l (.loop rc)).mono (by simp));refine⟨{ rc with state:=.busy },(o0 (l,_) List.mem_cons_self).1,.inl ⟨H0,Z,l::c0::g8::g7::g6::g3::g1.toList,?_⟩⟩;rw[a1b f1 v1];refine⟨⟨g1,X0,_,Z,M1,Sn,by rw[O0a hc];exact Y1⟩,Kn,fun g hg=>?_⟩;simp only[List.mem_cons] at hg ⊢;rcases hg with h|h|h|h|h|h|h
  ·simp[h]
  ·simp[h]
  ·simp[h]
  ·simp[h]
  ·simp[h]
  ·simp[h]
  ·rcases B1 g h with h|h
   ·simp[h]
   ·right;omega
 rintro v3 w3 (⟨O0,g5,Bs,G,g0,v,rfl,f0,S3,e0⟩|⟨N0,g5,G,g0,v,f0,S3,e0⟩)
 rotate_left
 ·refine⟨{ rc with state:=.done,pending:=some .ret },(f0 (l,_) List.mem_cons_self).1,by simp,.inr ⟨Z,?_⟩⟩;have Sa:=S3.putObj (.loop { rc with state:=.exhausted,pending:=some .ret }) f0 (List.mem_cons_self) (.inl (by omega));have j0:=(f0.put (o':=.loop { rc with state:=.exhausted,pending:=some .ret }) q0 (by simp)).tail;have J0:=e0.keep T1a ((H1a w3 l (.loop { rc with state:=.exhausted,pending:=some .ret })).mono (by simp));exact N3a Z L4a e2a K0a Z Z Z [a0.heap.size] Z (by simp) j0 (Sa.blk 3 Z) (Sa.blk 2 Z) (Sa.blk 1 Z) Z Z Z (fun w' hb=>⟨⟨v,by unfold s7b;rw[if_neg (by omega)],H1c (A:=[_,_,_,_,_]) J0 Sa hM (fun g hg=>by rcases List.mem_cons.1 hg with h|h<;>simp[h]) j0 hb⟩,(W0a.step Sa.below hb (by simp;omega)).nil⟩)
 refine⟨rc,(f0 (l,.loop rc) (by simp)).1,by rw[f1];simp,.inl ⟨v1,?_⟩⟩;have Sa:=S3.putObj (.loop { rc with state:=.exhausted }) f0 (List.mem_cons_self) (.inl (by omega));have j0:=(f0.put (o':=.loop { rc with state:=.exhausted }) q0 (by simp)).tail;have J0:=e0.keep T1a ((H1a w3 l (.loop { rc with state:=.exhausted })).mono (by simp));rw[List.take_length] at J0;generalize w3.putObj l (.loop { rc with state:=.exhausted })=wa at Sa j0 J0 ⊢;obtain⟨Av,cv,rfl⟩:=J0.form;refine fO0 Z U (v0a L4a Z (by exact Sa.cell 0 Z Z) Z ?_);refine lO1 Z ?_
 first|refine r0a (kk:=3) Sa G0b Z Z Z (by exact Nat.le_of_ble_eq_true Z) ?_
 intro y1 v0 z0;replace j0:=by exact j0.keepS z0 (Sa.blk 3 Z)
 first|refine r0a (kk:=2) v0 y7a Z Z Z (by exact Nat.le_of_ble_eq_true Z) ?_
 intro z1 x0 A0;replace j0:=by exact j0.keepS A0 (v0.blk 2 Z)
 first|refine r0a (kk:=1) x0 h8a Z Z Z (by exact Nat.le_of_ble_eq_true Z) ?_
 intro A1 d0 B0;replace j0:=by exact j0.keepS B0 (x0.blk 1 Z)
 refine lR1 Z ?_;have Z1:=((J0.keep T1a (z0.mono (by simp))).keep T1a (A0.mono (by simp))).keep T1a (B0.mono (by simp));refine N3a Z L4a e2a K0a Z Z Z [a0.heap.size] Z (by simp) j0 (d0.blk 3 Z) (d0.blk 2 Z) (d0.blk 1 Z) Z Z Z (fun w' hb=>⟨⟨_,?_,H1c (A:=[_,_,_,_,_]) Z1 d0 hM (fun g hg=>by rcases List.mem_cons.1 hg with h|h<;>simp[h]) j0 hb⟩,(W0a.step d0.below hb (by simp;omega)).nil⟩);unfold s7b;rw[if_pos O0,show((g3a p m run).length:Int)-1=(nr:Int) by omega]
def k3b(s:ByteArray):Bool:=decide (1≤s.size)&&decide (s.size≤64)&&s.data.toList.all fun b=>decide (33≤b.toNat)&&decide (b.toNat≤126)
theorem k9a{s:ByteArray}(h:k3b s=true):r8a s:=by
 simp only[k3b,Bool.and_eq_true,decide_eq_true_eq,List.all_eq_true] at h;refine⟨h.1.1,h.1.2,fun i hi=>?_⟩;exact h.2 s[i] (by rw[ByteArray.getElem_eq_getElem_data];simp)
def inB(i:Int)(n:Nat):Bool:=decide (0≤i)&&decide (i<n)
theorem s0b{i:Int}{n:Nat}(h:inB i n=true):M1a i n:=by simpa[inB,M1a] using h
def i6b(cells:List t2a)(e:E)(sh:Bool)(t:Int):Bool:=(e.sup 3++e.sup 2).all fun x=>(decide (K1a cells x≠-1)||sh)&&(decide (K1a cells x<0)||decide (K1a cells x=t))
theorem o9a{cells:List t2a}{e:E}{sh:Bool}{t:Int}(h:i6b cells e sh t=true):d5a cells e sh t:=fun x hx=>by
 have:=List.all_eq_true.1 h x hx;simp only[Bool.and_eq_true,Bool.or_eq_true,decide_eq_true_eq] at this;exact⟨fun e=>this.1.resolve_left (fun h=>h e),fun e=>this.2.resolve_left (by omega)⟩
def L3b(cells:List t2a)(e:E)(pair:Bool)(t:Int):Bool:=e.valid cells pair&&decide (e.w=1)&&i6b cells e true t
theorem w9a{cells:List t2a}{e:E}{a0:Bool}{t:Int}(h:L3b cells e a0 t=true):a7a cells e a0 t:=by
 simp only[L3b,Bool.and_eq_true,decide_eq_true_eq] at h;exact⟨h.1.1,h.1.2,o9a h.2⟩
def J1b:List Int→Bool
 | []=>true
 | x::l=>(l.all fun y=>decide (x<y))&&J1b l
theorem T9a:∀{l:List Int},J1b l=true→d7a l
 | [],_=>List.Pairwise.nil
 | x::l,h=>by
   simp only[J1b,Bool.and_eq_true,List.all_eq_true,decide_eq_true_eq] at h;exact List.Pairwise.cons h.1 (T9a h.2)
def pwB{α:Type}(r:α→α→Bool):List α→Bool
 | []=>true
 | x::l=>l.all (r x)&&pwB r l
theorem n3b{α:Type}{r:α→α→Bool}{R:α→α→Prop}(hr:∀a b,r a b=true→R a b):∀{l:List α},pwB r l=true→l.Pairwise R
 | [],_=>List.Pairwise.nil
 | x::l,h=>by
   simp only[pwB,Bool.and_eq_true,List.all_eq_true] at h;exact List.Pairwise.cons (fun y hy=>hr _ _ (h.1 y hy)) (n3b hr h.2)
def p8b(e:E):Bool:=decide (e.op=0)&&decide (e.w=0)&&decide (e.n=0)&&e.kids.isEmpty
theorem z0c{e:E}(h:p8b e=true):e.absent:=by
 simp only[p8b,Bool.and_eq_true,decide_eq_true_eq,List.isEmpty_iff] at h;exact⟨h.1.1.1,h.1.1.2,h.1.2,h.2⟩
def H3d(e:E):Bool:=decide (e.op=1)&&decide (e.w=1)&&decide (e.n=1)&&e.kids.isEmpty
theorem N8c{e:E}(h:H3d e=true):e=⟨1,1,1,[]⟩:=by
 simp only[H3d,Bool.and_eq_true,decide_eq_true_eq,List.isEmpty_iff] at h;cases e;simp_all
def ifB(c:Prop)[Decidable c](b:Bool):Bool:=!decide c||b
theorem z9a{c:Prop}[Decidable c]{b:Bool}(h:ifB c b=true)(hc:c):b=true:=by simpa[ifB,hc] using h
def O7c(p:g0a)(t:Int)(s:p1a):Bool :=
 i6b p.cells s.guard (decide (s.kind=4)) t &&
 ((List.range s.set.length).all fun i=>match s.set[i]? with|some a=>ifB (0<i∨s.kind≠2) (i6b p.cells a.to (decide (s.kind=4)) t)|none=>true) &&
 (s.set.all fun a=>decide (K1a p.cells a.cell=t∨K1a p.cells a.cell=-1)) &&
 ifB (s.kind=1) (s.set.all fun a=>decide (K1a p.cells a.cell=t)) &&
 ifB (s.kind=2) (match s.set with|[]=>false|a::l=>decide (K1a p.cells a.cell=t∧h0b p.cells a.cell=false∧a.to.op=2∧K1a p.cells a.to.n=-1∧h0b p.cells a.to.n=false)&&l.all fun b=>decide (K1a p.cells b.cell=t∧h0b p.cells b.cell=true)) &&
 ifB (s.kind=3) (match s.set with|[]=>false|a::l=>decide (K1a p.cells a.cell=-1∧h0b p.cells a.cell=false)&&l.all fun b=>decide (h0b p.cells b.cell=true)) &&
 ifB (5≤s.kind) (s.set.isEmpty&&H3d s.guard) &&
 ifB (6≤s.kind) (inB s.target p.threads.length&&decide (s.target≠t)) &&
 ifB (s.kind=6) (match p.threads[s.target.toNat]? with|some u=>u.asleep|none=>true)
theorem y5c{p:g0a}{t:Int}{s:p1a}(h:O7c p t s=true):x0b p t s:=by
 simp only[O7c,Bool.and_eq_true] at h;obtain⟨⟨⟨⟨⟨⟨⟨⟨a1,a2⟩,a3⟩,a4⟩,a5⟩,a6⟩,a7⟩,a8⟩,a9⟩:=h;refine⟨o9a a1,fun i hi hc=>?_,fun a ha=>of_decide_eq_true (List.all_eq_true.1 a3 a ha),fun hk a ha=>of_decide_eq_true (List.all_eq_true.1 (z9a a4 hk) a ha),fun hk=>?_,fun hk=>?_,fun hk=>?_,fun hk=>?_,fun hk u hu=>?_⟩
 ·have:=List.all_eq_true.1 a2 i (List.mem_range.2 hi);rw[List.getElem?_eq_getElem hi] at this;exact o9a (z9a this hc)
 ·have:=z9a a5 hk
  split at this
  ·cases this
  ·rename_i a l hs;rw[Bool.and_eq_true] at this;obtain⟨b1,b2,b3,b4,b5⟩:=of_decide_eq_true this.1;exact⟨a,l,hs,b1,b2,b3,b4,b5,fun b hb=>of_decide_eq_true (List.all_eq_true.1 this.2 b hb)⟩
 ·have:=z9a a6 hk
  split at this
  ·cases this
  ·rename_i a l hs;rw[Bool.and_eq_true] at this;obtain⟨b1,b2⟩:=of_decide_eq_true this.1;exact⟨a,l,hs,b1,b2,fun b hb=>of_decide_eq_true (List.all_eq_true.1 this.2 b hb)⟩
 ·have:=z9a a7 hk;rw[Bool.and_eq_true,List.isEmpty_iff] at this;exact⟨this.1,N8c this.2⟩
 ·have:=z9a a8 hk;rw[Bool.and_eq_true] at this;exact⟨s0b this.1,of_decide_eq_true this.2⟩
 ·have:=z9a a9 hk;rw[hu] at this;exact this
def stepB(p:g0a)(t:Int)(points:Int)(s:p1a):Bool :=
 decide (1≤s.kind∧s.kind≤7)&&decide (0≤s.frm∧s.frm<points-1)&&decide (0≤s.to∧s.to<points)&&inB s.module_ p.modules.length&&ifB (s.release=true) (decide (s.kind=3)) &&
 ifB (s.target≠0) (decide (s.kind=6∨s.kind=7))&&(s.guard.valid p.cells false&&decide (s.guard.w=1)) &&
 (s.set.all fun a=>inB a.cell p.cells.length&&a.to.valid p.cells false&&decide (a.to.w=wAt p.cells a.cell))&&pwB (fun a b=>decide (a.cell≠b.cell)) s.set&&O7c p t s
theorem B4c{p:g0a}{t points:Int}{s:p1a}(h:stepB p t points s=true):c7a p t points s:=by
 simp only[stepB,Bool.and_eq_true] at h;obtain⟨⟨⟨⟨⟨⟨⟨⟨⟨a1,a2⟩,a3⟩,a4⟩,a5⟩,a6⟩,a7,b0⟩,a8⟩,a9⟩,a0⟩:=h;refine⟨of_decide_eq_true a1,of_decide_eq_true a2,of_decide_eq_true a3,s0b a4,fun hr=>of_decide_eq_true (z9a a5 hr),fun hr=>of_decide_eq_true (z9a a6 hr),⟨a7,of_decide_eq_true b0⟩,fun a ha=>?_,n3b (fun a b h=>of_decide_eq_true h) a9,y5c a0⟩;have:=List.all_eq_true.1 a8 a ha;simp only[Bool.and_eq_true] at this;exact⟨s0b this.1.1,this.1.2,of_decide_eq_true this.2⟩
def b9c(p:g0a)(t points:Int)(l:b7b):Bool:=decide (0≤l.head∧l.head<points)&&J1b l.body&&(l.body.all fun x=>decide (0≤x∧x<points∧x≠l.head))&&(l.variant.valid p.cells false&&i6b p.cells l.variant true t)
theorem K4c{p:g0a}{t points:Int}{l:b7b}(h:b9c p t points l=true):Y8b p t points l:=by
 simp only[b9c,Bool.and_eq_true] at h;obtain⟨⟨⟨a1,a2⟩,a3⟩,a4,a5⟩:=h;exact⟨of_decide_eq_true a1,T9a a2,fun x hx=>of_decide_eq_true (List.all_eq_true.1 a3 x hx),a4,o9a a5⟩
def m7b(p:g0a)(t:Nat)(x:i1a):Bool :=
 k3b x.name&&decide (1≤x.points∧x.points≤48)&&decide (x.steps.length≤64)&&decide (x.loops.length≤8)&&decide ((x.asserts.length:Int)=x.points)&&decide ((x.modules.length:Int)=x.points) &&
 (x.modules.all fun m=>inB m p.modules.length)&&(x.asserts.all fun e=>L3b p.cells e false t)&&(x.steps.all fun s=>stepB p t x.points s)&&(x.loops.all fun l=>b9c p t x.points l)
theorem Z9b{p:g0a}{t:Nat}{x:i1a}(h:m7b p t x=true):L5a p t x:=by
 simp only[m7b,Bool.and_eq_true] at h;obtain⟨⟨⟨⟨⟨⟨⟨⟨⟨a1,a2⟩,a3⟩,a4⟩,a5⟩,a6⟩,a7⟩,a8⟩,a9⟩,a0⟩:=h;exact⟨k9a a1,of_decide_eq_true a2,of_decide_eq_true a3,of_decide_eq_true a4,of_decide_eq_true a5,of_decide_eq_true a6,fun m hm=>s0b (List.all_eq_true.1 a7 m hm),fun m hm=>w9a (List.all_eq_true.1 a8 m hm),
  fun m hm=>B4c (List.all_eq_true.1 a9 m hm),fun m hm=>K4c (List.all_eq_true.1 a0 m hm)⟩
def f7c(p:g0a)(c:t2a):Bool:=k3b c.name&&decide (1≤c.w∧c.w≤8)&&decide (0≤c.init∧c.init<V3a c.w.toNat)&&decide (-1≤c.thread∧c.thread<p.threads.length)&&inB c.module_ p.modules.length
theorem L5c{p:g0a}{c:t2a}(h:f7c p c=true):f3b p c:=by
 simp only[f7c,Bool.and_eq_true] at h;obtain⟨⟨⟨⟨a1,a2⟩,a3⟩,a4⟩,a5⟩:=h;exact⟨k9a a1,of_decide_eq_true a2,of_decide_eq_true a3,of_decide_eq_true a4,s0b a5⟩
def n3d(p:g0a)(m:J2a):Bool:=k3b m.name&&k3b m.owner&&(p8b m.rely||L3b p.cells m.rely true (-1))&&L3b p.cells m.guar true (-1)&&(m.frame.all fun x=>inB x p.cells.length&&decide (K1a p.cells x=-1))&&J1b m.frame
theorem W6c{p:g0a}{m:J2a}(h:n3d p m=true):w3c p m:=by
 simp only[n3d,Bool.and_eq_true,Bool.or_eq_true] at h;obtain⟨⟨⟨⟨⟨a1,a2⟩,a3⟩,a4⟩,a5⟩,a6⟩:=h;refine⟨k9a a1,k9a a2,a3.imp z0c w9a,w9a a4,fun x hx=>?_,T9a a6⟩;have:=List.all_eq_true.1 a5 x hx;rw[Bool.and_eq_true] at this;exact⟨s0b this.1,of_decide_eq_true this.2⟩
def W7c(p:g0a)(l:m0b):Bool:=inB l.cell p.cells.length&&decide (K1a p.cells l.cell=-1∧wAt p.cells l.cell=1∧h0b p.cells l.cell=false)&&inB l.module_ p.modules.length&&L3b p.cells l.inv false (-1)
theorem p4c{p:g0a}{l:m0b}(h:W7c p l=true):J6b p l:=by
 simp only[W7c,Bool.and_eq_true] at h;obtain⟨⟨⟨a1,a2⟩,a3⟩,a4⟩:=h;exact⟨⟨s0b a1,of_decide_eq_true a2⟩,s0b a3,w9a a4⟩
def G1d(p:g0a):Bool :=
 decide (p.cells.length≤32)&&decide (p.modules.length≤6)&&decide (p.locks.length≤4)&&decide (p.threads.length≤4) &&
 p.cells.all (f7c p)&&pwB (fun a b=>decide (a.name≠b.name)) p.cells&&p.modules.all (n3d p)&&pwB (fun a b=>decide (a.name≠b.name)) p.modules&&p.locks.all (W7c p)&&pwB (fun a b=>decide (a.cell≠b.cell)) p.locks &&
 ((List.range p.threads.length).all fun t=>match p.threads[t]? with|some x=>m7b p t x|none=>true)&&pwB (fun a b=>decide (a.name≠b.name)) p.threads
theorem G4c{p:g0a}(h:G1d p=true):q1a p:=by
 simp only[G1d,Bool.and_eq_true] at h;obtain⟨⟨⟨⟨⟨⟨⟨⟨⟨⟨⟨a1,a2⟩,a3⟩,a4⟩,a5⟩,a6⟩,a7⟩,a8⟩,a9⟩,a0⟩,b0⟩,c0⟩:=h;refine⟨of_decide_eq_true a1,of_decide_eq_true a2,of_decide_eq_true a3,of_decide_eq_true a4,fun c hc=>L5c (List.all_eq_true.1 a5 c hc),n3b (fun _ _ h=>of_decide_eq_true h) a6,fun c hc=>W6c (List.all_eq_true.1 a7 c hc),
  n3b (fun _ _ h=>of_decide_eq_true h) a8,fun c hc=>p4c (List.all_eq_true.1 a9 c hc),n3b (fun _ _ h=>of_decide_eq_true h) a0,fun t ht=>?_,n3b (fun _ _ h=>of_decide_eq_true h) c0⟩
 have:=List.all_eq_true.1 b0 t (List.mem_range.2 ht);rw[List.getElem?_eq_getElem ht] at this;exact Z9b this
section
variable {P:Program} {r:Option Nat} {N:Nat} {D:List Deferred} {e:Env} {w:World} {ops:Array Oper} {rest:List Oper} {K:List Deferred→Env→World→Prop}
variable {d:Nat} {t:TypeId} {p:String} {af:Array Edge} {x y:Operand} {xt yt:TypeId} {kd:IntKind} {a b:Int} {C:World→Prop} {Kq:Env→Prop}
theorem J7b{ty size k c n:Nat}{A:Option Addr}(hT:SlT P ty size)(w:World)(h1:k≤c):(Instr.slice ty (.slice A n c) none (some (.int kd (k:Int))) none).run P w=.ok (.slice A k c) w:=by
 obtain⟨_,hu,a0⟩:=y4a hT;have e2:(0:Int)≤(k:Int)∧(k:Int)≤(c:Int):=by omega
 have e3:A.map (·.add 0)=A:=by cases A<;>simp[Addr.add_zero']
 simp[Instr.slice,Instr.sliceBounds,Instr.sliceBound,asIntOf,run_underlying hu,a0,e2,e3,h1]
theorem A1c{ty size k c n:Nat}{A:Option Addr}{xh:Operand}(hT:SlT P ty size)(hx:ev e x=.slice A n c)(hy:ev e xh=.int kd (k:Int))(h1:k≤c)(hd:Nat.ble (d+1) N=true)(h:WL P r N ops rest K D (upd e d (.slice A k c)) w):
 WL P r N ops (⟨some d,.slice ty x none (some xh) none,t,p,af,none⟩::rest) K D e w:=by
 refine y1a Z Z hd ?_ h;have hu:=(y4a hT).choose_spec.1;simp only[execOp,Instr.sliceAt,Sem.run_bind,run_underlying hu,Result.andThen_ok,hx,hy,Option.map_none,Option.map_some,J7b hT w h1,Sem.run_pure]
end
section
variable {α:Type} {M:List Nat} {w:World} {size:Nat} {R:LV→α→Prop} {g:Nat}
theorem s8b{css:List LV}{l:List α}{n:Nat}(hg:g∉M)(hc:O1a w g 0 css.flatten)(hn:n=l.length)(hl:css.length=l.length)(h4:∀x∈css,x.length=size)(hR:∀(i:Nat) (x:α),l[i]?=some x→∃c,css[i]?=some c∧R c x)(a0:l.length≤1000000:=by simp):RdS M w size R (.slice (some ⟨g,0,none⟩) n n) l:=by
 subst hn;refine⟨_,_,_,Z,Z,Nat.le_refl _,by unfold maxLen;omega,by omega,fun _=>⟨g,0,Z,hg,fun i x hi=>?_⟩⟩;obtain⟨c,h5,h6⟩:=hR i x hi;exact⟨c,h4 c (List.mem_of_getElem? h5),fun j u hj=>by simpa using hc _ u (u4c css i c h4 h5 j u hj),h6⟩
theorem v4b{c:LV}{x:α}(hc:O1a w g 0 c)(h4:c.length=size)(hr:R c x)(hg:g∉M:=by simp):RdS M w size R (.slice (some ⟨g,0,none⟩) 1 1) [x] :=
 s8b (css:=[c]) hg (by simpa using hc) Z Z (by simpa using h4) (fun i y hi=>by
  match i,hi with
  | 0,hi=>cases hi;exact⟨c,Z,hr⟩)
theorem z5c{c c2:LV}{x x2:α}(hc:O1a w g 0 (c++c2))(h4:c.length=size)(h5:c2.length=size)(hr:R c x)(a0:R c2 x2)(hg:g∉M:=by simp):RdS M w size R (.slice (some ⟨g,0,none⟩) 2 2) [x,x2] :=
 s8b (css:=[c,c2]) hg (by simpa using hc) Z Z (by simpa using⟨h4,h5⟩) (fun i y hi=>by
  match i,hi with
  | 0,hi=>cases hi;exact⟨c,Z,hr⟩
  | 1,hi=>cases hi;exact⟨c2,Z,a0⟩)
theorem A8c{c c2 c3:LV}{x x2 x3:α}(hc:O1a w g 0 (c++(c2++c3)))(h4:c.length=size)(h5:c2.length=size)(h6:c3.length=size)(hr:R c x)(a0:R c2 x2)(b0:R c3 x3)(hg:g∉M:=by simp):RdS M w size R (.slice (some ⟨g,0,none⟩) 3 3) [x,x2,x3] :=
 s8b (css:=[c,c2,c3]) hg (by simpa using hc) Z Z (by simpa using⟨h4,h5,h6⟩) (fun i y hi=>by
  match i,hi with
  | 0,hi=>cases hi;exact⟨c,Z,hr⟩
  | 1,hi=>cases hi;exact⟨c2,Z,a0⟩
  | 2,hi=>cases hi;exact⟨c3,Z,b0⟩)
end
theorem Y3a{P:Program}{f:FuncId}{args:Array Value}{w:World}{b:Bool}(h:M0a P f args w fun v w'=>v=.bool b∧Below w.heap.size w w')(hb:b=true):M0a P f args w fun v w'=>v=.bool true∧Below w.heap.size w w':=by
 subst hb;exact h
theorem v3b{P:Program}{f:FuncId}{args:Array Value}{w:World}{b:Bool}(h:M0a P f args w fun v w'=>v=.bool b∧Below w.heap.size w w')(hb:b=false):M0a P f args w fun v w'=>v=.bool false∧Below w.heap.size w w':=by
 subst hb;exact h
def C7a(w:World)(cs:LV)(x:d0a)(ss:LV):Prop :=
 ∃(bt ot nt ct bs os ns cn:Nat) (a1 a2 a3 a4 a5 a6:Value),cs[3]?=some (.slice (some ⟨bt,ot,none⟩) nt ct)∧(0≤x.thread∧x.thread<nt)∧O1a w bt (ot+x.thread.toNat*7) [a1,a2,a3,a4,.slice (some ⟨bs,os,none⟩) ns cn,a5,a6] ∧
  (0≤x.step∧x.step<ns)∧O1a w bs (os+x.step.toNat*11) ss∧ss.length=11
theorem J5c{p:g0a}{e:EvD}{th:i1a}{s:p1a}(h:p.threads[e.x.thread.toNat]?=some th)(hs:th.steps[e.x.step.toNat]?=some s):sOf p e=s:=by
 unfold sOf;rw[Q1a h];exact getD_some hs
theorem n5b.step{p:g0a}{e:EvD}{M:List Nat}{w:World}{g:Nat}{cs xs ys:LV}(h:n5b p e M w g cs xs ys)(hs:e.step=true):
 ∃ss th,C7a w cs e.x ss∧D1a M w ss (sOf p e)∧p.threads[e.x.thread.toNat]?=some th∧th.steps[e.x.step.toNat]?=some (sOf p e)∧sOf p e∈th.steps:=by
 obtain⟨_,_,_,_,_,_,_,_,_,_,nt,ct,rfl,_,_,_,f0,_⟩:=h.inp.rd.open_;unfold EvD.step at hs;simp only[Bool.and_eq_true,decide_eq_true_eq] at hs;obtain⟨h0,h1⟩:=hs;have ht:=h.ok.t h0;have c0:=(h.ok.s h0).resolve_left h1;obtain⟨th,b,o,_,b0,hA,-,-,hc,hr⟩:=RdS.get f0 e.x.thread.toNat (by omega);obtain⟨_,_,_,_,_,_,_,ns,cn,_,_,_,rfl,-,-,-,e0,-,-,-,_,-⟩:=S0a.open_ hr;rw[Q1a b0] at c0;obtain⟨s,b2,o2,c2,a0,d0,-,i0,g0,j0⟩:=RdS.get e0 e.x.step.toNat (by omega);have he:=J5c (p:=p) (e:=e) b0 a0;rw[he];subst hA;subst d0;exact⟨c2,th,⟨b,o,nt,ct,b2,o2,ns,cn,_,_,_,_,_,_,Z,⟨ht.1,by omega⟩,hc,⟨c0.1,by omega⟩,g0,i0⟩,j0,b0,a0,c0a a0⟩
theorem C7a.keep{w w':World}{cs:LV}{x:d0a}{ss:LV}(h:C7a w cs x ss)(hk:A0a [] w w'):C7a w' cs x ss:=by
 obtain⟨bt,ot,nt,ct,bs,os,ns,cn,a1,a2,a3,a4,a5,a6,h1,h2,h3,h4,h5,h6⟩:=h;exact⟨bt,ot,nt,ct,bs,os,ns,cn,a1,a2,a3,a4,a5,a6,h1,h2,h3.keep hk (by simp),h4,h5.keep hk (by simp),h6⟩
theorem A6a(p:g0a)(e:EvD)(M:List Nat)(w0:World)(ge:Nat)(cs xs ys ss:LV)(hE:n5b p e M w0 ge cs xs ys)(j0:C7a w0 cs e.x ss)(s:p1a)(hr:D1a M w0 ss s):
 M0a prog 245 #[.pointer (some ⟨ge,0,none⟩)] w0 fun v w'=>v=.agg ss.toArray∧Bw w0 w':=by
 obtain⟨bt,ot,_,_,bs,os,_,_,_,_,_,_,_,_,h3,_,g0,_,f0,i0⟩:=j0;obtain⟨_,_,_,_,_,_,_,_,_,_,_,_,rfl,-⟩:=hE.inp.rd.open_;simp only[List.getElem?_cons_succ,List.getElem?_cons_zero,Option.some.injEq,Value.slice.injEq] at h3;obtain⟨rfl,rfl,rfl⟩:=h3;obtain⟨_,_,_,_,_,_,rfl,-⟩:=D1a.open_ hr;have e0:=hE.cell;have S:=St.refl w0;refine a0a func245 Z ntmps245 Z ?_;refine wO1 Z (m0a S X9a Z Z ?_);intro g2 w2 S2 X2 G2;refine lC1 Z (x0a b0a [0,1,2,3,4,5,6,7,8,9,10,11,12,13,14,15,16,17,18,19] [] [20] Z (Cl _ _ _ _) (Cl.start S2) ?_);refine qN (((S2.q.a f0).a g0).a e0) [.f 0 3,.f 0 5,.x bt ot,.f 1 4,.f 0 6,.x bs os,.v 2] Z ⟨⟨Z,i0⟩,⟨Z,by omega⟩,Z,Z,⟨Z,by omega⟩,Z,Z,U⟩ (u3a ?_);refine J1a ?_;rintro m0 ⟨d0,_⟩
 first|refine f0a (kk:=0) (vs:=[_,_,_,_,_,_,_,_,_,_,_]) d0 Y9a Z Z Z Z Z Z Z ?_
 intro c0 a0 b0;dsimp only[o0a,List.set] at a0;exact lR1 Z (L1a (n:=11) Z Z7b Z (a0.cells 0 Z) Z ⟨Z,a0.fin⟩)
theorem h6b(p:g0a)(e:EvD)(kind:Int)(M:List Nat)(w0:World)(ge:Nat)(cs xs ys:LV)(hE:n5b p e M w0 ge cs xs ys)(hs:e.step=true):
 M0a prog 246 #[.pointer (some ⟨ge,0,none⟩),.int .i64 kind] w0 fun v w'=>v=.agg #[.int .i64 e.at_,.int .i64 kind,.int .i64 (sOf p e).module_,.int .i64 e.x.thread,.int .i64 e.x.step]∧Bw w0 w':=by
 obtain⟨_,_,f0,hr,-⟩:=hE.step hs;obtain⟨_,_,_,_,_,_,_,_,_,_,_,_,rfl,-⟩:=hE.inp.rd.open_;obtain⟨_,_,_,_,_,_,rfl,-⟩:=D1a.open_ hr;have c0:=hE.cell;have S:=St.refl w0;refine a0a func246 Z ntmps246 Z ?_;refine wO1 Z (m0a S k2c Z Z ?_);intro g4 w4 S4 X4 G4;refine lC1 Z (x0a b0a [0,1,2,3,4,5,6,7,8,9,10,11,12,13,14,15,16,17,18] [] [19] Z (Cl _ _ _ _) (Cl.start S4) ?_);refine qO (S4.q.a c0) [.f 0 4] Z ⟨Z,U⟩ (F1a G6a Z Z (fun w1 S1 X1=>A6a p e M _ _ _ _ _ _ (hE.keep (S1.keep0 M)) (f0.keep (S1.keep0 [])) _ (D1a.keep (S1.keep0 M) _ _ hr)) ?_);refine qO (S4.q.a c0) [.f 0 5,.f 0 6] Z ⟨Z,Z,U⟩ (D3a k3a (vs:=[(0,.int .i64 _),(1,.int .i64 _),(2,.int .i64 _),(3,.int .i64 _),(4,.int .i64 _)]) (cs:=[_,_,_,_,_]) Z Z Z Z ?_);refine lV Z ?_;rintro g0 ⟨e0,_⟩
 first|refine f0a (kk:=0) (vs:=[_,_,_,_,_]) e0 O0c Z Z Z Z Z Z Z ?_
 intro d0 a0 b0;dsimp only[o0a,List.set] at a0;exact lR1 Z (L1a (n:=5) Z B8b Z (a0.cells 0 Z) Z ⟨Z,a0.fin⟩)
theorem G1c{p:g0a}{e:EvD}(h:e.still=false):Z1a p e=[]:=by unfold Z1a;rw[if_neg (by rw[h];simp)]
theorem W3c{p:g0a}{e:EvD}(h:e.still=false):X2a p e=[]:=by unfold X2a;rw[if_neg (by rw[h];simp)]
theorem EvD.still_step{e:EvD}(h:e.still=true):e.step=true:=by unfold EvD.still at h;simp only[Bool.and_eq_true] at h;exact h.1
theorem s2b.stepOK{p:g0a}{e:EvD}{th:i1a}(hp:q1a p)(a0:p.threads[e.x.thread.toNat]?=some th)(hs:sOf p e∈th.steps):c7a p e.x.thread.toNat th.points (sOf p e):=(hp.thread a0).steps _ hs
theorem t2b{p:g0a}{e:EvD}{M:List Nat}{w:World}{g:Nat}{cs xs ys:LV}(h:n5b p e M w g cs xs ys)(hs:e.step=true){k:Int}(hk:i64 k):
 Y4a [.int .i64 e.at_,.int .i64 k,.int .i64 (sOf p e).module_,.int .i64 e.x.thread,.int .i64 e.x.step] (M1b p e k):=by
 obtain⟨_,_,_,_,a0,c0,b0⟩:=h.step hs;have hp:=h.inp.ok;have h1:=(s2b.stepOK hp a0 b0).mod;have h2:=hp.nmodules;have h3:=h.ok.lo;have h4:=h.ok.hi;have h5:=hp.nthreads;have h6:=(hp.thread a0).nsteps;have h7:=m1a a0;have h8:=m1a c0;unfold EvD.step at hs;simp only[Bool.and_eq_true,decide_eq_true_eq] at hs;have h9:=h.ok.t hs.1;have d0:=(h.ok.s hs.1).resolve_left hs.2;unfold M1a at h1;exact Y4a.of iO hk iO iO iO
theorem N8b(p:g0a)(e:EvD)(M:List Nat)(w0:World)(ge:Nat)(cs xs ys:LV)(hE:n5b p e M w0 ge cs xs ys):
 M0a prog 186 #[.pointer (some ⟨ge,0,none⟩)] w0 fun v w'=>F9b M w' v (Z1a p e)∧Bw w0 w':=by
 obtain⟨_,_,_,_,_,_,_,_,_,_,_,_,rfl,hC,S0,_⟩:=hE.inp.rd.open_;have G0:=hE.cell;have hp:=hE.inp.ok;have n1:=hp.nmodules;have n2:=hp.ncells;have S:=St.refl w0;refine a0a func186 Z ntmps186 Z ?_;refine wO1 Z (k0a S P7b Z Z (t4b p e M _ _ _ _ _ (hE.keep (S.keep0 M))) (fun h8 w8 S8 X8=>?_) (fun h8 w8 S8 X8=>?_))
 ·obtain⟨_,_,W0,hr,X0,Y0,H0⟩:=hE.step (EvD.still_step h8);obtain⟨s,hs⟩:∃s,s=sOf p e:=⟨_,Z⟩;have B0:=s2b.stepOK hp X0 H0;rw[←hs] at hr Y0 H0 B0;obtain⟨Ag,ng,cg,As,ns,F0,rfl,-,-,s0,_⟩:=D1a.open_ hr;have V0:=B0.mod;unfold M1a at V0;refine lO1 Z (y0a S8 G6a Z Z (A6a p e M _ _ _ _ _ _ (hE.keep (S8.keep0 M)) (W0.keep (S8.keep0 [])) _ (D1a.keep (S8.keep0 M) _ _ hr)) ?_);intro o1 J0 g1;refine m0a J0 X9a Z Z ?_;intro g3 w3 S3 X3 G3
  first|refine f0a (kk:=0) (vs:=[_,_,_,_,_,_,_,_,_,_,_]) S3 Y9a Z Z Z Z Z Z Z ?_
  intro c1 c0 L0;dsimp only[o0a,List.set] at c0;refine lC1 Z (x0a b0a [0,1,2,3,4,5,6,7,8,9,10] [] [] Z (Cl _ _ _ _) (Cl.start c0) ?_);obtain⟨md,O0,Z0,_,e0,o0,_,_,t0,y0⟩:=RdS.get (S0) (s.module_.toNat) (by omega);obtain⟨_,_,_,_,_,_,i0,C0,m0,rfl,_,_,r0,_⟩:=n1a.open_ y0;refine qN ((c0.q.a t0).a G0) [.f 0 1,.o 0,.x O0 Z0,.f 1 10] Z ⟨Z,⟨o0,by omega⟩,Z,Z,U⟩ (u3a ?_);refine J1a ?_;rintro s1 ⟨D0,_⟩;refine lC D0.k [.o 0] Z ⟨Z,U⟩ (wL (fun μk D ε w=>D=[]∧∃k:Nat,(k+μk=(s.set.length))∧(g1a (s.set) k (fun a=>¬(K1a p.cells a.cell=-1∧a.cell∉md.frame)))∧St [] w0 w [(some g3,61,[.int .i64 s.kind,.int .i64 s.frm,.int .i64 s.to,.int .i64 s.guard.op,.int .i64 s.guard.w,.int .i64 s.guard.n,.slice Ag ng cg,.slice As ns F0,.bool s.release,.int .i64 s.target,.int .i64 s.module_])]∧Sl ε [(0,.pointer (some ⟨ge,0,none⟩)),(4,.slice i0 C0 m0),(23,.slice As ns F0),(24,.int .i64 ns),(25,.int .i64 k)]) (μ:=(s.set.length)) ⟨Z,0,by omega,g1a.zero,D0,Z⟩ ?_);rintro μk D ε w ⟨rfl,k,_,ha,S,eZ⟩;refine wK eZ (wB1 Z (fun R0=>?_) fun R0=>?_)
  ·obtain⟨a,P0,a1,_,g0,p0,_,x0,u0,z0⟩:=RdS.get (s0) (k) (by omega);obtain⟨_,_,_,rfl,_⟩:=b1a.open_ z0;have T0:=(B0.set a (c0a g0)).1;unfold M1a at T0;refine lO (S.k.a u0) [.x P0 a1,.v 0] Z ⟨⟨Z,x0⟩,⟨p0,by omega⟩,U⟩ (m0a S K2b Z Z ?_);intro g6 w6 S6 X6 G6
   first|refine f0a (kk:=0) (vs:=[_,_,_,_,_]) S6 R2b Z Z Z Z Z Z Z ?_
   intro d1 a0 N0;dsimp only[o0a,List.set] at a0;refine lC1 Z (x0a b0a [0,1,2,3,4,5,6,7,8,9,10,11,12,13,14,15,16,17] [] [] Z (Cl _ _ _ _) (Cl.start a0) ?_);obtain⟨_,Q0,b1,_,b0,q0,_,_,v0,A0⟩:=RdS.get (hC) (a.cell.toNat) (by omega);obtain⟨rfl,_⟩:=U2a.open_ A0;refine qB ((a0.q.a v0).a G0) [.f 0 0,.o 0,.x Q0 b1,.f 1 3] Z ⟨Z,⟨q0,by omega⟩,Z,Z,U⟩ (fun n0=>?_) fun n0=>?_
   ·refine qO a0.q [.o 0] Z ⟨Z,U⟩ (X1a t7b Z Z (fun w1 S1 X1=>r7a M _ _ md.frame a.cell (r0.keep (S1.keep0 M))) (fun f0=>?_) fun f0=>?_)
    ·refine lV Z ?_;rintro I0 ⟨d0,E0⟩;refine lP1 Z ⟨μk-1,by omega,Z,k+1,by omega,?_,d0.tail,Z⟩;exact ha.succ g0 (fun⟨_,q2⟩=>by simp at f0;exact q2 f0)
    refine lV Z ?_;rintro I0 ⟨d0,E0⟩;refine lO1 Z (y0a d0 A2c Z Z (h6b p e 4 M _ _ _ _ _ (hE.keep (d0.keep0 M)) (EvD.still_step h8)) ?_);intro p1 K0 i1;refine h0a K0 s1a (vs:=[.agg _]) (cs:=[_,_,_,_,_]) Z Z Z Z Z Z ?_;intro m1 r1 j0 j1 f1;refine lR1 Z (t0a Z ?_);refine⟨?_,j0.fin⟩;have hb:J9a p (sOf p e)=true:=by
     rw[←hs];unfold J9a;rw[r4a e0];exact List.any_eq_true.2 ⟨a,c0a g0,by simp;exact⟨by rw[j1a b0];exact n0,by simpa using f0⟩⟩
    unfold Z1a;rw[if_pos ⟨h8,hb⟩];exact v4b (hg:=(Y0a hE.inp.lt (j0.new 0 Z))) (c:=[_,_,_,_,_]) (j0.cells 0 Z) Z (t2b hE (EvD.still_step h8) iO)
   refine lV Z ?_;rintro I0 ⟨d0,E0⟩;refine lP1 Z ⟨μk-1,by omega,Z,k+1,by omega,?_,d0.tail,Z⟩;exact ha.succ g0 (fun⟨q1,_⟩=>by rw[j1a b0] at q1;exact absurd q1 n0)
  refine lR1 Z (t0a Z ?_);refine⟨?_,S.fin⟩;have hb:J9a p (sOf p e)=false:=by
   rw[←hs];unfold J9a;rw[r4a e0,List.any_eq_false];intro a U0 hh;simp at hh;exact ha.all (by omega) a U0 ⟨hh.1,hh.2⟩
  unfold Z1a;rw[if_neg (by rw[hb];simp)];exact a2a
 refine lR1 Z (t0a Z ?_);refine⟨?_,S8.fin⟩;rw[G1c h8];exact a2a
theorem S2c(p:g0a)(e:EvD)(M:List Nat)(w0:World)(ge:Nat)(cs xs ys:LV)(hE:n5b p e M w0 ge cs xs ys):
 M0a prog 187 #[.pointer (some ⟨ge,0,none⟩)] w0 fun v w'=>F9b M w' v (X2a p e)∧Bw w0 w':=by
 obtain⟨_,_,_,_,_,_,_,_,_,_,_,_,rfl,_,u0,_⟩:=hE.inp.rd.open_;obtain⟨_,_,_,_,_,_,_,_,_,rfl,i0,-⟩:=hE.c.open_;obtain⟨_,_,_,_,_,_,_,_,_,rfl,b0,-⟩:=hE.d.open_;have o0:=hE.cell;have hp:=hE.inp.ok;have n1:=hp.nmodules;have S:=St.refl w0;refine a0a func187 Z ntmps187 Z ?_;refine wC1 Z (x0a b0a [0,1,2,3,4,5,6,7,8,9,10,11,12,13,14,15,16,17,18,19,20,21,22,23,24,25,26,27] [] [] Z (Cl _ _ _ _) (Cl.start S) ?_);refine qO1 Z (X1a P7b Z Z (fun w1 S1 X1=>t4b p e M _ _ _ _ _ (hE.keep (S1.keep0 M))) (fun h4=>?_) fun h4=>?_)
 ·obtain⟨_,_,x0,hr,y0,z0,p0⟩:=hE.step (EvD.still_step h4);obtain⟨s,hs⟩:∃s,s=sOf p e:=⟨_,Z⟩;have q0:=s2b.stepOK hp y0 p0;rw[←hs] at hr z0 p0 q0;obtain⟨_,_,_,_,_,_,rfl,-⟩:=D1a.open_ hr;have v0:=q0.mod;unfold M1a at v0;refine qO (S.q.a o0) [.f 0 1] Z ⟨Z,U⟩ (F1a G6a Z Z (fun w1 S1 X1=>A6a p e M _ _ _ _ _ _ (hE.keep (S1.keep0 M)) (x0.keep (S1.keep0 [])) _ (D1a.keep (S1.keep0 M) _ _ hr)) ?_);obtain⟨md,t0,A0,_,c0,f0,_,_,j0,m0⟩:=RdS.get (u0) (s.module_.toNat) (by omega);obtain⟨_,_,_,_,_,_,_,_,_,rfl,_,g0,_⟩:=n1a.open_ m0;refine qO ((S.q.a o0).a j0) [.x t0 A0,.f 0 6,.f 1 8,.f 1 11] Z ⟨Z,Z,Z,⟨f0,by omega⟩,U⟩ (F1a i1b Z Z (fun w1 S1 X1=>o8a md.guar M _ _ _ _ e.c.mem e.d.mem (RdE.keep (S1.keep0 M) _ _ g0) (hE.inp.keep (S1.keep0 M)).msk (i0.keep (S1.keep0 M)) (b0.keep (S1.keep0 M))) ?_);refine qB1 Z (fun e0=>?_) fun e0=>?_
  ·refine lV Z ?_;rintro r0 ⟨a0,n0⟩;refine lR1 Z (t0a Z ?_);refine⟨?_,a0.fin⟩;have hb:T7b p e=true:=by
    unfold T7b;rw[←hs,r4a c0];exact decide_eq_true e0
   unfold X2a;rw[if_neg (by rw[hb];simp)];exact a2a
  refine lV Z ?_;rintro r0 ⟨a0,n0⟩;refine lO1 Z (y0a a0 A2c Z Z (h6b p e 3 M _ _ _ _ _ (hE.keep (a0.keep0 M)) (EvD.still_step h4)) ?_);intro F0 s0 C0;refine h0a s0 s1a (vs:=[.agg _]) (cs:=[_,_,_,_,_]) Z Z Z Z Z Z ?_;intro E0 G0 d0 D0 B0;refine lR1 Z (t0a Z ?_);refine⟨?_,d0.fin⟩;have hb:T7b p e=false:=by
   unfold T7b;rw[←hs,r4a c0];exact decide_eq_false (fun hh=>hh e0)
  unfold X2a;rw[if_pos ⟨h4,hb⟩];exact v4b (hg:=(Y0a hE.inp.lt (d0.new 0 Z))) (c:=[_,_,_,_,_]) (d0.cells 0 Z) Z (t2b hE (EvD.still_step h4) iO)
 refine lV Z ?_;rintro r0 ⟨a0,n0⟩;refine lR1 Z (t0a Z ?_);refine⟨?_,a0.fin⟩;rw[W3c h4];exact a2a
theorem Y0b{p:g0a}{e:EvD}(h:e.still=false∨Z1a p e≠[]∨X2a p e≠[]):h7a p e=[]:=by
 unfold h7a;rw[if_neg];rintro⟨h1,h2,h3⟩;rcases h with h|h|h
 ·rw[h1] at h;cases h
 ·exact h h2
 ·exact h h3
theorem F3a{p:g0a}{e:EvD}{t:Nat}(h:(t:Int)=e.x.thread∨e.c.at_.getD t 0=-1):t1b p e t=[]:=by unfold t1b;rw[if_pos h]
theorem T2a{p:g0a}{e:EvD}{t:Nat}{th:i1a}{n m:Int}{md:J2a}(b0:p.threads[t]?=some th)(hn:e.c.at_[t]?=some n)(hm:th.modules[n.toNat]?=some m)(a0:p.modules[m.toNat]?=some md)
 (h1:(t:Int)≠e.x.thread:=by omega) (h2:n≠-1:=by omega):t1b p e t=if md.rely.op≠0∧md.rely.evl e.c.mem e.d.mem=0 then[⟨e.at_,5,m,t,n⟩] else[]:=by
 have e1:e.c.at_.getD t 0=n:=getD_some hn;have e2:(L0b p t).modules.getD n.toNat 0=m:=by rw[x4a b0];exact getD_some hm
 unfold t1b;rw[e1,e2,r4a a0,if_neg (by rintro(h|h)<;>contradiction)]
theorem W8c(p:g0a)(e:EvD)(M:List Nat)(w0:World)(ge:Nat)(cs xs ys:LV)(hE:n5b p e M w0 ge cs xs ys)(h0:0≤e.at_):
 M0a prog 188 #[.pointer (some ⟨ge,0,none⟩)] w0 fun v w'=>F9b M w' v (h7a p e)∧Bw w0 w':=by
 obtain⟨_,_,_,_,_,_,_,_,_,At,nt,ct,rfl,_,r1,_,s1,_⟩:=hE.inp.rd.open_;obtain⟨_,_,_,_,_,_,_,_,_,rfl,J0,q1,-,-,_,-⟩:=hE.c.open_;obtain⟨_,_,_,_,_,_,_,_,_,rfl,p0,-⟩:=hE.d.open_;have r0:=hE.cell;have hp:=hE.inp.ok;have n1:=hp.nmodules;have n2:=hp.nthreads;have X0:=hE.ok.c h0;have O1:=X0.nat;have h3:=hE.ok.lo;have h4:=hE.ok.hi;have S:=(St.refl w0).nilEnt 140;refine a0a func188 Z ntmps188 Z ?_;refine wO1 Z (k0a S P7b Z Z (t4b p e M _ _ _ _ _ (hE.keep (S.keep0 M))) (fun C0 C1 u0 b1=>?_) (fun C0 C1 u0 b1=>?_))
 ·refine lO1 Z (s0a u0 a1c Z Z (N8b p e M _ _ _ _ _ (hE.keep (u0.keep0 M))) ?_);rintro P1 T1 f0 y0 H1;obtain⟨_,_,_,rfl⟩:=f0.form;have Y0:=f0.len.1;clear f0;refine lB1 Z (fun m1=>?_) fun m1=>?_
  ·refine lR1 Z (t0a Z ?_);refine⟨?_,y0.fin⟩;rw[Y0b (.inr (.inl (fun hh=>by rw[hh] at Y0;simp at Y0;omega)))];exact a2a
  refine lO1 Z (s0a y0 u2c Z Z (S2c p e M _ _ _ _ _ (hE.keep (y0.keep0 M))) ?_);rintro Q1 U1 g0 z0 I1;obtain⟨_,_,_,rfl⟩:=g0.form;have Z0:=g0.len.1;clear g0;refine lB1 Z (fun o1=>?_) fun o1=>?_
  ·refine lR1 Z (t0a Z ?_);refine⟨?_,z0.fin⟩;rw[Y0b (.inr (.inr (fun hh=>by rw[hh] at Z0;simp at Z0;omega)))];exact a2a
  refine lC (z0.k.a r0) [.f 0 3] Z ⟨Z,U⟩ (wL (fun μk D ε w=>D=[]∧∃k:Nat,∃G:Option Nat,∃B0:LV,∃v:Value,(k+μk=(p.threads.length))∧(A1a (fun _ _=>Y4a) 5 [] w0 G B0 v (j4a p e k))∧St [] w0 w [(G,140,B0)]∧Sl ε [(0,.pointer (some ⟨ge,0,none⟩)),(3,v),(28,.slice At nt ct),(29,.int .i64 nt),(30,.int .i64 k)]) (μ:=(p.threads.length)) ⟨Z,0,none,[],.slice none 0 0,by omega,A1a.nil,z0,Z⟩ ?_);rintro μk D ε w ⟨rfl,k,G,B0,v,_,d0,S,eZ⟩;refine wK eZ (wB1 Z (fun p1=>?_) fun p1=>?_)
  ·obtain⟨th,d1,y1,_,e0,F0,_,Q0,L0,R0⟩:=RdS.get (s1) (k) (by omega);obtain⟨_,_,_,_,_,_,_,_,_,_,_,_,rfl,_,_,q0,_⟩:=S0a.open_ R0;have v0:=hp.thread e0;have u1:=v0.nmod;have x1:=v0.asserts;refine lO (S.k.a L0) [.x d1 y1,.v 0] Z ⟨⟨Z,Q0⟩,⟨F0,by omega⟩,U⟩ (m0a S o4b Z Z ?_);intro g5 w5 S5 X5 G5;refine lO1 Z ?_
   first|refine f0a (kk:=0) (vs:=[_,_,_,_,_,_,_]) S5 P4b Z Z Z Z Z Z Z ?_
   intro D1 c0 c1;dsimp only[o0a,List.set] at c0;obtain⟨n,f1,z1,_,s0,G0,_,_,N0,S0⟩:=RdS.get (q1) (k) (by omega);obtain⟨rfl,_⟩:=id S0;have N1:=X0.atr k n s0 th e0;refine lB ((c0.k.a N0).a r0) [.f 0 9,.x f1 z1,.f 1 0,.f 0 5] Z ⟨Z,Z,⟨G0,by omega⟩,Z,U⟩ (fun n0=>?_) fun n0=>?_
   ·refine lP1 Z ⟨μk-1,by omega,Z,k+1,_,_,_,by omega,?_,c0.tail,Z⟩;rw[f1a,F3a (.inl n0),List.append_nil];exact d0
   refine lB1 Z (fun o0=>?_) fun o0=>?_
   ·refine lP1 Z ⟨μk-1,by omega,Z,k+1,_,_,_,by omega,?_,c0.tail,Z⟩;rw[f1a,F3a (.inr (by rw[getD_some s0];exact o0)),List.append_nil];exact d0
   obtain⟨m,g1,A1,_,x0,H0,_,_,O0,T0⟩:=RdS.get (q0) (n.toNat) (by omega);obtain⟨rfl,_⟩:=id T0;have t1:=v0.modules m (c0a x0);unfold M1a at t1;obtain⟨md,i1,B1,_,j0,I0,_,_,P0,U0⟩:=RdS.get (r1) (m.toNat) (by omega);obtain⟨_,_,_,_,_,_,_,_,_,rfl,K0,_⟩:=n1a.open_ U0;refine lO (((c0.k.a P0).a r0).a O0) [.o 0,.x g1 A1,.f 0 0,.f 1 1,.x i1 B1,.f 2 2] Z ⟨Z,⟨I0,by omega⟩,Z,Z,⟨H0,by omega⟩,Z,U⟩ (m0a c0 h9a Z Z ?_);intro g8 w8 S8 X8 G8
   first|refine f0a (kk:=0) (vs:=[_,_,_,_]) S8 D9a Z Z Z Z Z Z Z ?_
   intro V0 a0 A0;dsimp only[o0a,List.set] at a0;refine lC1 Z (x0a b0a [0,1,2,3,4,5,6,7,8,9,10,11,12,13,14,15,16,17] [] [] Z (Cl _ _ _ _) (Cl.start a0) ?_);refine qB a0.q [.o 0] Z ⟨Z,U⟩ (fun D0=>?_) fun D0=>?_
   ·refine qO (a0.q.a r0) [.w 0,.f 0 8,.f 0 11] Z ⟨Z,Z,⟨Z,by rfl⟩,U⟩ (F1a i1b Z Z (fun w1 S1 X1=>o8a md.rely M _ _ _ _ e.c.mem e.d.mem (RdE.keep (S1.keep0 M) _ _ K0) (hE.inp.keep (S1.keep0 M)).msk (J0.keep (S1.keep0 M)) (p0.keep (S1.keep0 M))) ?_);refine qB1 Z (fun E0=>?_) fun E0=>?_
    ·refine lV Z ?_;rintro t0 ⟨b0,m0⟩;refine lOn 4 b0.k [] Z U (w0a Z ?_);refine lO (b0.k.a r0) [.f 0 4] Z ⟨Z,U⟩ (e1a k3a (vs:=[(0,.int .i64 _),(1,.int .i64 _),(2,.int .i64 _),(3,.int .i64 _),(4,.int .i64 _)]) (cs:=[_,_,_,_,_]) Z Z Z Z ?_);refine h0a b0 s1a (vs:=[.agg _]) (cs:=[_,_,_,_,_]) Z Z Z Z Z Z ?_;intro M1 V1 W0 J1 F1;have l1:=U3a (p:=p) (e:=e) k;have v1:=v0.points;refine C0a o1a (k:=3) (M2:=[]) (e1:=⟨e.at_,5,m,k,n⟩) W0 s1a Z d0 Z Z (W0.cells 0 Z) (Y4a.of iO iO iO iO iO) Z ?_;intro R1 G1 j1 W1 a1 i0 K1 E1;refine n0a Z ?_;refine lP1 Z ⟨μk-1,by omega,Z,k+1,_,_,_,by omega,?_,a1.tail.tail.tail,Z⟩;rw[f1a,T2a (h1:=n0) (h2:=o0) e0 s0 x0 j0,if_pos ⟨D0,E0⟩];exact i0
    refine lV Z ?_;rintro t0 ⟨b0,m0⟩;refine lP1 Z ⟨μk-1,by omega,Z,k+1,_,_,_,by omega,?_,b0.tail.tail,Z⟩;rw[f1a,T2a (h1:=n0) (h2:=o0) e0 s0 x0 j0,if_neg (fun hh=>E0 hh.2),List.append_nil];exact d0
   refine lV Z ?_;rintro t0 ⟨b0,m0⟩;refine lP1 Z ⟨μk-1,by omega,Z,k+1,_,_,_,by omega,?_,b0.tail.tail,Z⟩;rw[f1a,T2a (h1:=n0) (h2:=o0) e0 s0 x0 j0,if_neg (fun hh=>hh.1 D0),List.append_nil];exact d0
  refine lOn 8 S.k [] Z U (w0a Z ?_);refine n0a Z ?_;refine lR1 Z (t0a Z ?_);refine⟨?_,S.fin⟩;have l1:=U3a (p:=p) (e:=e) p.threads.length;have e1:h7a p e=j4a p e k:=by
   unfold h7a;rw[if_pos ⟨C0,List.length_eq_zero_iff.1 (by omega),List.length_eq_zero_iff.1 (by omega)⟩,show p.threads.length=k by omega]
  rw[e1];exact A1a.rd o1a (M:=M) d0 S (k:=0) Z (fun g hg=>by subst hg;exact Y0a hE.inp.lt (S.new 0 Z)) (by rw[show k=p.threads.length by omega];omega)
 refine lR1 Z (t0a Z ?_);refine⟨?_,u0.fin⟩;rw[Y0b (.inl C0)];exact a2a
theorem M6b{p:g0a}{e:EvD}(h:w3a e.d=false):I5a p e=[]:=by unfold I5a;rw[if_neg (by rw[h];simp)]
theorem F1b{p:g0a}{e:EvD}(h:w3a e.d=false):a3a p e=[]:=by unfold a3a;rw[if_neg (by rw[h];simp)]
theorem W8a{p:g0a}{e:EvD}{i:Nat}{l:m0b}{v:Int}(hl:p.locks[i]?=some l)(hv:e.d.mem[l.cell.toNat]?=some v)(h:v≠0∨l.inv.evl e.d.mem e.d.mem≠0):p8a p e i=[]:=by
 unfold p8a;rw[hl];simp only;rw[getD_some hv,if_pos h]
theorem m9a{p:g0a}{e:EvD}{i:Nat}{l:m0b}{v m t:Int}(hl:p.locks[i]?=some l)(hv:e.d.mem[l.cell.toNat]?=some v)(h1:v=0)(h2:l.inv.evl e.d.mem e.d.mem=0)(hm:m=x1b p e l)(ht:t=if 0≤e.at_ then e.x.thread else -1):
 p8a p e i=[⟨e.at_,2,m,t,i⟩]:=by
 unfold p8a;rw[hl];simp only;rw[getD_some hv,if_neg (by rintro(h|h)<;>contradiction),←hm,←ht]
theorem EvD.step_at{e:EvD}(h:e.step=true):0≤e.at_∧e.x.step≠-1:=by unfold EvD.step at h;simpa using h
theorem W4c(p:g0a)(e:EvD)(M:List Nat)(w0:World)(ge:Nat)(cs xs ys:LV)(hE:n5b p e M w0 ge cs xs ys):
 M0a prog 189 #[.pointer (some ⟨ge,0,none⟩)] w0 fun v w'=>F9b M w' v (I5a p e)∧Bw w0 w':=by
 obtain⟨_,_,_,_,_,_,Al,nl,cl,_,_,_,rfl,_,_,Y1,Z1,_⟩:=hE.inp.rd.open_;obtain⟨_,_,_,_,_,_,_,_,_,rfl,-⟩:=hE.c.open_;obtain⟨_,_,_,_,_,_,_,_,_,rfl,n0,b1,-,_,_,-⟩:=hE.d.open_;have o0:=hE.cell;have hp:=hE.inp.ok;have n1:=hp.nmodules;have n2:=hp.nthreads;have n3:=hp.nlocks;have n4:=hp.ncells;have m1:=hE.ok.d;have z2:=m1.nat;have y2:=m1.mem.len;have h3:=hE.ok.lo;have h4:=hE.ok.hi;have S:=(St.refl w0).nilEnt 140;refine a0a func189 Z ntmps189 Z ?_;refine wO (S.k.a o0) [.f 0 11] Z ⟨Z,U⟩ (k0a S W3b Z Z (g9a e.d M _ _ (hE.d.keep (S.keep0 M))) (fun V0 s2 I0 M1=>?_) (fun V0 s2 I0 M1=>?_))
 ·refine lC (I0.k.a o0) [.f 0 2] Z ⟨Z,U⟩ (wL (fun μk D ε w=>D=[]∧∃k:Nat,∃G:Option Nat,∃y0:LV,∃v:Value,(k+μk=(p.locks.length))∧(A1a (fun _ _=>Y4a) 5 [] w0 G y0 v (P3a p e k))∧St [] w0 w [(G,140,y0)]∧Sl ε [(0,.pointer (some ⟨ge,0,none⟩)),(3,v),(17,.slice Al nl cl),(18,.int .i64 nl),(19,.int .i64 k)]) (μ:=(p.locks.length)) ⟨Z,0,none,[],.slice none 0 0,by omega,A1a.nil,I0,Z⟩ ?_);rintro μk D ε w ⟨rfl,k,G,y0,v,_,d0,S,eZ⟩;refine wK eZ (wB1 Z (fun W1=>?_) fun W1=>?_)
  ·obtain⟨l,Q1,m2,_,v0,W0,_,o1,d1,r1⟩:=RdS.get (Y1) (k) (by omega);obtain⟨_,_,_,rfl,_,_,c1⟩:=E5a.open_ r1;have H1:=hp.locks l (c0a v0);have b2:=H1.cell.1;have f2:=H1.mod;unfold M1a at b2 f2;refine lO (S.k.a d1) [.x Q1 m2,.v 0] Z ⟨⟨Z,o1⟩,⟨W0,by omega⟩,U⟩ (m0a S L3c Z Z ?_);intro g5 w5 S5 X5 G5;refine lO1 Z ?_
   first|refine f0a (kk:=0) (vs:=[_,_,_,_,_,_]) S5 U0c Z Z Z Z Z Z Z ?_
   intro t2 j0 N1;dsimp only[o0a,List.set] at j0;refine lC1 Z (x0a b0a [0,1,2,3,4,5,6,7,8,9,10,11,12,13,14,15,16,17,18,19] [] [] Z (Cl _ _ _ _) (Cl.start j0) ?_);obtain⟨v,R1,o2,_,G0,X0,_,_,f1,s1⟩:=RdS.get (n0) (l.cell.toNat) (by omega);obtain⟨rfl,_⟩:=id s1;refine qB ((j0.q.a f1).a o0) [.f 0 11,.o 0,.x R1 o2,.f 1 0] Z ⟨Z,⟨X0,by omega⟩,Z,Z,U⟩ (fun z0=>?_) fun z0=>?_
   ·refine lV Z ?_;rintro K1 ⟨q0,G1⟩;refine lP1 Z ⟨μk-1,by omega,Z,k+1,_,_,_,by omega,?_,q0.tail,Z⟩;rw[m2a,W8a v0 G0 (.inl z0),List.append_nil];exact d0
   refine qO (j0.q.a o0) [.o 0,.f 0 11] Z ⟨Z,Z,U⟩ (X1a C2c Z Z (fun w1 S1 X1=>H6b l.inv e.d.mem M _ _ _ (RdE.keep (S1.keep0 M) _ _ c1) (hE.inp.keep (S1.keep0 M)).msk (n0.keep (S1.keep0 M))) (fun A0=>?_) fun A0=>?_)
   ·refine lV Z ?_;rintro K1 ⟨q0,G1⟩;refine lP1 Z ⟨μk-1,by omega,Z,k+1,_,_,_,by omega,?_,q0.tail,Z⟩;rw[m2a,W8a v0 G0 (.inr (of_decide_eq_true A0)),List.append_nil];exact d0
   refine lV Z ?_;rintro K1 ⟨q0,G1⟩;refine lC1 Z (x0a b0a [0,1,2,3,4,5,6,7] [8] [9] Z (Cl _ _ _ _) (Cl.start q0) ?_);refine qO (q0.q.a o0) [.f 0 4,.o 0] Z ⟨Z,Z,U⟩ (D3a k3a (vs:=[(0,.int .i64 _),(1,.int .i64 _),(2,.int .i64 _),(3,.int .i64 _),(4,.int .i64 _)]) (cs:=[_,_,_,_,_]) Z Z Z Z ?_);refine qN0 Z U (u3a ?_);refine C4a Z Z k2c Z ?_;refine J1a ?_;rintro C2 ⟨P0,_⟩;intro g6 d2 G6 j2;dsimp only[X3a];clear j2;replace P0:=P0.push_new q0 d2 G6
   first|refine f0a (kk:=0) (vs:=[_,_,_,_,_]) P0 O0c Z Z Z Z Z Z Z ?_
   intro v2 e0 P1;dsimp only[o0a,List.set] at e0;refine lB (e0.k.a o0) [.f 0 4] Z ⟨Z,U⟩ (fun B0=>?_) fun B0=>?_
   ·refine lO (e0.k.a o0) [.f 0 5] Z ⟨Z,U⟩ ?_
    first|refine r0a (kk:=0) e0 h8a Z Z Z (by exact Nat.le_of_ble_eq_true Z) ?_
    intro J1 m0 F1;refine lC1 Z (x0a b0a [0,1,2,3,4,5,6,7,8,9,10,11,12,13,14,15,16,17,18,19,20,21] [] [22] Z (Cl _ _ _ _) (Cl.start m0) ?_);have B2:=hE.ok.t B0;obtain⟨tx,T1,p2,_,u0,Y0,_,_,g1,t1⟩:=RdS.get (Z1) (e.x.thread.toNat) (by omega);obtain⟨_,_,_,_,_,_,_,_,_,_,_,_,rfl,_,_,C0,_⟩:=S0a.open_ t1;have I1:=hp.thread u0;have i2:=I1.nmod;obtain⟨nx,U1,q2,_,t0,Z0,_,_,i1,u1⟩:=RdS.get (b1) (e.x.thread.toNat) (by omega);obtain⟨rfl,_⟩:=id u1;have a2:=hE.ok.aw B0;rw[getD_some t0] at a2;have x2:=m1.atr _ nx t0 tx u0;obtain⟨mx,V1,r2,_,F0,a1,_,_,j1,v1⟩:=RdS.get (C0) (nx.toNat) (by omega);obtain⟨rfl,_⟩:=id v1;have g2:=I1.modules mx (c0a F0);unfold M1a at g2;refine qN ((((m0.q.a j1).a i1).a g1).a o0) [.f 0 3,.o 0,.x T1 p2,.f 1 3,.f 0 12,.o 0,.x U1 q2,.f 2 0,.x V1 r2,.f 3 0] Z ⟨Z,⟨a1,by omega⟩,Z,⟨Z0,by omega⟩,Z,Z,Z,⟨Y0,by omega⟩,Z,Z,U⟩ (u3a ?_);refine J1a ?_;rintro w2 ⟨O0,_⟩
    first|refine r0a (kk:=0) O0 h8a Z Z Z (by exact Nat.le_of_ble_eq_true Z) ?_
    intro B1 g0 Q0;refine lO1 Z (k0a g0 F4b Z Z (G9a p e M _ _ _ _ _ (hE.keep (g0.keep0 M))) (fun f0 C1 c0 R0=>?_) (fun f0 C1 c0 R0=>?_))
    ·refine lO1 Z ?_;obtain⟨ss,th,x1,hr,y1,z1,D0⟩:=hE.step f0;have q1:=(EvD.step_at f0).1;obtain⟨s,hs⟩:∃s,s=sOf p e:=⟨_,Z⟩;have E0:=s2b.stepOK hp y1 D0;rw[←hs] at hr z1 D0 E0;obtain⟨Ag,ng,cg,As,ns,y0,rfl,-⟩:=D1a.open_ hr;have p1:=E0.mod;unfold M1a at p1;refine y0a c0 G6a Z Z (A6a p e M _ _ _ _ _ _ (hE.keep (c0.keep0 M)) (x1.keep (c0.keep0 [])) _ (D1a.keep (c0.keep0 M) _ _ hr)) ?_;intro u2 N0 O1;refine lO1 Z ?_
     first|refine r0a (kk:=0) N0 h8a Z Z Z (by exact Nat.le_of_ble_eq_true Z) ?_
     intro H0 b0 x0;refine lOn 3 b0.k [] Z U (w0a Z ?_);refine lO b0.k [.w 0] Z ⟨⟨Z,by rfl⟩,U⟩ (h0a b0 s1a (vs:=[.agg _]) (cs:=[_,_,_,_,_]) Z Z Z Z Z Z ?_);intro U0 D1 i0 S0 K0;have l1:=T0a (p:=p) (e:=e) k;have s0:p8a p e k=[⟨e.at_,2,s.module_,e.x.thread,k⟩]:=m9a v0 G0 z0 (by simpa using A0) (by unfold x1b;rw[if_pos f0,hs]) (by rw[if_pos (EvD.step_at f0).1]);have A2:=hE.ok.t (EvD.step_at f0).1;refine C0a o1a (k:=3) (M2:=[]) (e1:=⟨e.at_,2,s.module_,e.x.thread,k⟩) i0 s1a Z d0 Z Z (i0.cells 0 Z) (Y4a.of iO iO iO iO iO) Z ?_;intro A1 L0 r0 E1 p0 a0 T0 J0;refine n0a Z ?_;refine lP1 Z ⟨μk-1,by omega,Z,k+1,_,_,_,by omega,?_,p0.tail.tail.tail,Z⟩;rw[m2a,s0];exact a0
    refine lOn 6 c0.k [] Z U (w0a Z ?_);refine lO c0.k [.w 0] Z ⟨⟨Z,by rfl⟩,U⟩ (h0a c0 s1a (vs:=[.agg _]) (cs:=[_,_,_,_,_]) Z Z Z Z Z Z ?_);intro U0 D1 i0 S0 K0;have l1:=T0a (p:=p) (e:=e) k;have s0:p8a p e k=[⟨e.at_,2,mx,e.x.thread,k⟩]:=m9a v0 G0 z0 (by simpa using A0) (by unfold x1b;rw[if_neg (by rw[f0];simp),if_pos B0,x4a u0,getD_some t0];exact(getD_some F0).symm) (by rw[if_pos B0]);refine C0a o1a (k:=3) (M2:=[]) (e1:=⟨e.at_,2,mx,e.x.thread,k⟩) i0 s1a Z d0 Z Z (i0.cells 0 Z) (Y4a.of iO iO iO iO iO) Z ?_;intro A1 L0 r0 E1 p0 a0 T0 J0;refine n0a Z ?_;refine lP1 Z ⟨μk-1,by omega,Z,k+1,_,_,_,by omega,?_,p0.tail.tail.tail,Z⟩;rw[m2a,s0];exact a0
   refine lO1 Z (k0a e0 F4b Z Z (G9a p e M _ _ _ _ _ (hE.keep (e0.keep0 M))) (fun f0 C1 c0 R0=>?_) (fun f0 C1 c0 R0=>?_))
   ·refine lO1 Z ?_;obtain⟨ss,th,x1,hr,y1,z1,D0⟩:=hE.step f0;have q1:=(EvD.step_at f0).1;obtain⟨s,hs⟩:∃s,s=sOf p e:=⟨_,Z⟩;have E0:=s2b.stepOK hp y1 D0;rw[←hs] at hr z1 D0 E0;obtain⟨Ag,ng,cg,As,ns,y0,rfl,-⟩:=D1a.open_ hr;have p1:=E0.mod;unfold M1a at p1;refine y0a c0 G6a Z Z (A6a p e M _ _ _ _ _ _ (hE.keep (c0.keep0 M)) (x1.keep (c0.keep0 [])) _ (D1a.keep (c0.keep0 M) _ _ hr)) ?_;intro u2 N0 O1;refine lO1 Z ?_
    first|refine r0a (kk:=0) N0 h8a Z Z Z (by exact Nat.le_of_ble_eq_true Z) ?_
    intro H0 b0 x0;refine lOn 3 b0.k [] Z U (w0a Z ?_);refine lO b0.k [.w 0] Z ⟨⟨Z,by rfl⟩,U⟩ (h0a b0 s1a (vs:=[.agg _]) (cs:=[_,_,_,_,_]) Z Z Z Z Z Z ?_);intro U0 D1 i0 S0 K0;have l1:=T0a (p:=p) (e:=e) k;have s0:p8a p e k=[⟨0,0,0,0,0⟩]:=by exfalso;omega
    refine C0a o1a (k:=3) (M2:=[]) (e1:=⟨0,0,0,0,0⟩) i0 s1a Z d0 Z Z (i0.cells 0 Z) (by exfalso;omega) Z ?_;intro A1 L0 r0 E1 p0 a0 T0 J0;refine n0a Z ?_;refine lP1 Z ⟨μk-1,by omega,Z,k+1,_,_,_,by omega,?_,p0.tail.tail.tail,Z⟩;rw[m2a,s0];exact a0
   refine lOn 6 c0.k [] Z U (w0a Z ?_);refine lO c0.k [.w 0] Z ⟨⟨Z,by rfl⟩,U⟩ (h0a c0 s1a (vs:=[.agg _]) (cs:=[_,_,_,_,_]) Z Z Z Z Z Z ?_);intro U0 D1 i0 S0 K0;have l1:=T0a (p:=p) (e:=e) k;have s0:p8a p e k=[⟨e.at_,2,l.module_,-1,k⟩]:=m9a v0 G0 z0 (by simpa using A0) (by unfold x1b;rw[if_neg (by rw[f0];simp),if_neg (by omega)]) (by rw[if_neg (by omega)]);refine C0a o1a (k:=3) (M2:=[]) (e1:=⟨e.at_,2,l.module_,-1,k⟩) i0 s1a Z d0 Z Z (i0.cells 0 Z) (Y4a.of iO iO iO iO iO) Z ?_;intro A1 L0 r0 E1 p0 a0 T0 J0;refine n0a Z ?_;refine lP1 Z ⟨μk-1,by omega,Z,k+1,_,_,_,by omega,?_,p0.tail.tail.tail,Z⟩;rw[m2a,s0];exact a0
  refine lOn 8 S.k [] Z U (w0a Z ?_);refine n0a Z ?_;refine lR1 Z (t0a Z ?_);refine⟨?_,S.fin⟩;have l1:=T0a (p:=p) (e:=e) p.locks.length;have e1:I5a p e=P3a p e k:=by unfold I5a;rw[if_pos V0,show p.locks.length=k by omega]
  rw[e1];exact A1a.rd o1a (M:=M) d0 S (k:=0) Z (fun g hg=>by subst hg;exact Y0a hE.inp.lt (S.new 0 Z)) (by rw[show k=p.locks.length by omega];omega)
 refine lR1 Z (t0a Z ?_);refine⟨?_,I0.fin⟩;rw[M6b V0];exact a2a
theorem R6a{p:g0a}{e:EvD}{t:Nat}{n:Int}(hn:e.d.at_[t]?=some n)(h:n=-1∨((L0b p t).asserts.getD n.toNat noE).evl e.d.mem e.d.mem≠0):Y2a p e t=[]:=by
 unfold Y2a;rw[getD_some hn,if_pos h]
theorem s3a{p:g0a}{e:EvD}{t:Nat}{n m:Int}{th:i1a}{a:E}(a0:p.threads[t]?=some th)(ha:th.asserts[n.toNat]?=some a)(hn:e.d.at_[t]?=some n)(h1:n≠-1)(h2:a.evl e.d.mem e.d.mem=0)(hm:m=M8a p e t):
 Y2a p e t=[⟨e.at_,1,m,t,n⟩]:=by
 unfold Y2a;rw[getD_some hn,if_neg,←hm];rintro(h|h)
 ·exact h1 h
 ·rw[x4a a0,getD_some ha] at h;exact h h2
theorem f4a{p:g0a}{e:EvD}{t:Nat}{n m:Int}{th:i1a}(a0:p.threads[t]?=some th)(hm:th.modules[n.toNat]?=some m)(hn:e.d.at_[t]?=some n)(h:¬(e.step=true∧((t:Int)=e.x.thread∨(sOf p e).kind=6∧(sOf p e).target=t))):m=M8a p e t:=by
 unfold M8a;rw[if_neg h,getD_some hn,x4a a0];exact(getD_some hm).symm
theorem B6a{p:g0a}{e:EvD}{t:Nat}(h:e.step=true∧((t:Int)=e.x.thread∨(sOf p e).kind=6∧(sOf p e).target=t)):(sOf p e).module_=M8a p e t:=by
 unfold M8a;rw[if_pos h]
theorem Y9b(p:g0a)(e:EvD)(M:List Nat)(w0:World)(ge:Nat)(cs xs ys:LV)(hE:n5b p e M w0 ge cs xs ys):
 M0a prog 190 #[.pointer (some ⟨ge,0,none⟩)] w0 fun v w'=>F9b M w' v (a3a p e)∧Bw w0 w':=by
 obtain⟨_,_,_,_,_,_,_,_,_,At,nt,ct,rfl,_,_,_,K1,_⟩:=hE.inp.rd.open_;obtain⟨_,_,_,_,_,_,_,_,_,rfl,-⟩:=hE.c.open_;obtain⟨_,_,_,_,_,_,_,_,_,rfl,A0,d1,-,_,_,-⟩:=hE.d.open_;have u0:=hE.cell;have hp:=hE.inp.ok;have n1:=hp.nmodules;have n2:=hp.nthreads;have n3:=hp.nlocks;have n4:=hp.ncells;have m1:=hE.ok.d;have o2:=m1.nat;have m2:=m1.mem.len;have h3:=hE.ok.lo;have h4:=hE.ok.hi;have S:=(St.refl w0).nilEnt 140;refine a0a func190 Z ntmps190 Z ?_;refine wO (S.k.a u0) [.f 0 11] Z ⟨Z,U⟩ (k0a S W3b Z Z (g9a e.d M _ _ (hE.d.keep (S.keep0 M))) (fun W0 a2 H0 B1=>?_) (fun W0 a2 H0 B1=>?_))
 ·refine lC (H0.k.a u0) [.f 0 3] Z ⟨Z,U⟩ (wL (fun μk D ε w=>D=[]∧∃k:Nat,∃G:Option Nat,∃K0:LV,∃v:Value,(k+μk=(p.threads.length))∧(A1a (fun _ _=>Y4a) 5 [] w0 G K0 v (r2a p e k))∧St [] w0 w [(G,140,K0)]∧Sl ε [(0,.pointer (some ⟨ge,0,none⟩)),(3,v),(18,.slice At nt ct),(19,.int .i64 nt),(20,.int .i64 k)]) (μ:=(p.threads.length)) ⟨Z,0,none,[],.slice none 0 0,by omega,A1a.nil,H0,Z⟩ ?_);rintro μk D ε w ⟨rfl,k,G,K0,v,_,d0,S,eZ⟩;refine wK eZ (wB1 Z (fun J1=>?_) fun J1=>?_)
  ·obtain⟨th,F1,V1,_,c0,Z0,_,o1,f1,r1⟩:=RdS.get (K1) (k) (by omega);obtain⟨_,_,_,_,_,_,_,_,_,_,_,_,rfl,_,z0,B0,_⟩:=S0a.open_ r1;have P0:=hp.thread c0;have Q1:=P0.nmod;have R1:=P0.asserts;refine lO (S.k.a f1) [.x F1 V1,.v 0] Z ⟨⟨Z,o1⟩,⟨Z0,by omega⟩,U⟩ (m0a S o4b Z Z ?_);intro g5 w5 S5 X5 G5;refine lO1 Z ?_
   first|refine f0a (kk:=0) (vs:=[_,_,_,_,_,_,_]) S5 P4b Z Z Z Z Z Z Z ?_
   intro d2 j0 D1;dsimp only[o0a,List.set] at j0;obtain⟨n,G1,W1,_,i0,a1,_,_,g1,s1⟩:=RdS.get (d1) (k) (by omega);obtain⟨rfl,_⟩:=id s1;have j2:=m1.atr k n i0 th c0;refine lC ((j0.k.a g1).a u0) [.f 0 12,.x G1 W1,.f 1 0] Z ⟨Z,⟨a1,by omega⟩,Z,U⟩ (x0a b0a [0,1,2,3,4,5,6,7,8,9,10,11,12,13,14] [] [] Z (Cl _ _ _ _) (Cl.start j0) ?_);refine qB1 Z (fun s0=>?_) fun s0=>?_
   ·refine lV Z ?_;rintro A1 ⟨r0,v1⟩;refine lP1 Z ⟨μk-1,by omega,Z,k+1,_,_,_,by omega,?_,r0.tail,Z⟩;rw[B1a,R6a i0 (.inl s0),List.append_nil];exact d0
   obtain⟨a,H1,Y1,_,v0,b1,_,p1,i1,C0⟩:=RdS.get (z0) (n.toNat) (by omega);obtain⟨_,_,_,rfl,_⟩:=RdE.cells C0;refine qO ((j0.q.a u0).a i1) [.o 0,.x H1 Y1,.v 0,.f 1 11] Z ⟨Z,⟨Z,p1⟩,⟨b1,by omega⟩,Z,U⟩ (X1a C2c Z Z (fun w1 S1 X1=>H6b a e.d.mem M _ _ _ (RdE.keep (S1.keep0 M) _ _ C0) (hE.inp.keep (S1.keep0 M)).msk (A0.keep (S1.keep0 M))) (fun t0=>?_) fun t0=>?_)
   ·refine lV Z ?_;rintro A1 ⟨r0,v1⟩;refine lP1 Z ⟨μk-1,by omega,Z,k+1,_,_,_,by omega,?_,r0.tail,Z⟩;rw[B1a,R6a i0 (.inr (by rw[x4a c0,getD_some v0];exact of_decide_eq_true t0)),List.append_nil];exact d0
   refine lV Z ?_;rintro A1 ⟨r0,v1⟩;refine lC1 Z (x0a b0a [0,1,2,3,4,5,6,7,8,9,10,11] [12] [13] Z (Cl _ _ _ _) (Cl.start r0) ?_);obtain⟨m,I1,Z1,_,Q0,c1,_,_,j1,t1⟩:=RdS.get (B0) (n.toNat) (by omega);obtain⟨rfl,_⟩:=id t1;have N1:=P0.modules m (c0a Q0);unfold M1a at N1;have p2:=P0.points;refine qO ((r0.q.a j1).a u0) [.f 0 4,.o 0,.x I1 Z1,.f 1 0] Z ⟨Z,⟨c1,by omega⟩,Z,Z,U⟩ (D3a k3a (vs:=[(0,.int .i64 _),(1,.int .i64 _),(2,.int .i64 _),(3,.int .i64 _),(4,.int .i64 _)]) (cs:=[_,_,_,_,_]) Z Z Z Z ?_);refine qN0 Z U (u3a ?_);refine C4a Z Z k2c Z ?_;refine J1a ?_;rintro t2 ⟨V0,_⟩;intro g7 M1 G7 U1;dsimp only[X3a];clear U1;replace V0:=V0.push_new r0 M1 G7
   first|refine f0a (kk:=0) (vs:=[_,_,_,_,_]) V0 O0c Z Z Z Z Z Z Z ?_
   intro z1 g0 u1;dsimp only[o0a,List.set] at g0;refine lO1 Z (k0a g0 F4b Z Z (G9a p e M _ _ _ _ _ (hE.keep (g0.keep0 M))) (fun y0 b2 f0 C1=>?_) (fun y0 b2 f0 C1=>?_))
   ·obtain⟨_,_,O0,hr,P1,T1,x1⟩:=hE.step y0;obtain⟨s,hs⟩:∃s,s=sOf p e:=⟨_,Z⟩;have y1:=s2b.stepOK hp P1 x1;rw[←hs] at hr T1 x1 y1;obtain⟨_,_,_,_,_,K0,rfl,-⟩:=D1a.open_ hr;have O1:=y1.mod;unfold M1a at O1;refine lB (f0.k.a u0) [.f 0 5] Z ⟨Z,U⟩ (fun N0=>?_) fun N0=>?_
    ·refine lO1 Z (y0a f0 G6a Z Z (A6a p e M _ _ _ _ _ _ (hE.keep (f0.keep0 M)) (O0.keep (f0.keep0 [])) _ (D1a.keep (f0.keep0 M) _ _ hr)) ?_);intro f2 U0 E1;refine lO1 Z ?_
     first|refine r0a (kk:=0) U0 h8a Z Z Z (by exact Nat.le_of_ble_eq_true Z) ?_
     intro D0 b0 x0;refine lOn 3 b0.k [] Z U (w0a Z ?_);refine lO b0.k [.w 0] Z ⟨⟨Z,by rfl⟩,U⟩ (h0a b0 s1a (vs:=[.agg _]) (cs:=[_,_,_,_,_]) Z Z Z Z Z Z ?_);intro L0 S0 e0 I0 F0;have l1:=F0a (p:=p) (e:=e) k;have o0:Y2a p e k=[⟨e.at_,1,s.module_,k,n⟩]:=s3a c0 v0 i0 s0 (by simpa using t0) (by rw[hs];exact B6a (by exact⟨y0,.inl N0⟩));refine C0a o1a (k:=3) (M2:=[]) (e1:=⟨e.at_,1,s.module_,k,n⟩) e0 s1a Z d0 Z Z (e0.cells 0 Z) (Y4a.of iO iO iO iO iO) Z ?_;intro R0 G0 n0 T0 m0 a0 J0 E0;refine n0a Z ?_;refine lP1 Z ⟨μk-1,by omega,Z,k+1,_,_,_,by omega,?_,m0.tail.tail.tail,Z⟩;rw[B1a,o0];exact a0
    refine lO1 Z (y0a f0 G6a Z Z (A6a p e M _ _ _ _ _ _ (hE.keep (f0.keep0 M)) (O0.keep (f0.keep0 [])) _ (D1a.keep (f0.keep0 M) _ _ hr)) ?_);intro r2 p0 g2;refine lB1 Z (fun X0=>?_) fun X0=>?_
    ·refine lO1 Z (y0a p0 G6a Z Z (A6a p e M _ _ _ _ _ _ (hE.keep (p0.keep0 M)) (O0.keep (p0.keep0 [])) _ (D1a.keep (p0.keep0 M) _ _ hr)) ?_);intro s2 q0 i2;refine lB1 Z (fun Y0=>?_) fun Y0=>?_
     ·refine lO1 Z (y0a q0 G6a Z Z (A6a p e M _ _ _ _ _ _ (hE.keep (q0.keep0 M)) (O0.keep (q0.keep0 [])) _ (D1a.keep (q0.keep0 M) _ _ hr)) ?_);intro f2 U0 E1;refine lO1 Z ?_
      first|refine r0a (kk:=0) U0 h8a Z Z Z (by exact Nat.le_of_ble_eq_true Z) ?_
      intro D0 b0 x0;refine lOn 3 b0.k [] Z U (w0a Z ?_);refine lO b0.k [.w 0] Z ⟨⟨Z,by rfl⟩,U⟩ (h0a b0 s1a (vs:=[.agg _]) (cs:=[_,_,_,_,_]) Z Z Z Z Z Z ?_);intro L0 S0 e0 I0 F0;have l1:=F0a (p:=p) (e:=e) k;have o0:Y2a p e k=[⟨e.at_,1,s.module_,k,n⟩]:=s3a c0 v0 i0 s0 (by simpa using t0) (by rw[hs];exact B6a (by exact⟨y0,.inr (by rw[←hs];exact⟨X0,Y0⟩)⟩));refine C0a o1a (k:=3) (M2:=[]) (e1:=⟨e.at_,1,s.module_,k,n⟩) e0 s1a Z d0 Z Z (e0.cells 0 Z) (Y4a.of iO iO iO iO iO) Z ?_;intro R0 G0 n0 T0 m0 a0 J0 E0;refine n0a Z ?_;refine lP1 Z ⟨μk-1,by omega,Z,k+1,_,_,_,by omega,?_,m0.tail.tail.tail,Z⟩;rw[B1a,o0];exact a0
     refine lOn 9 q0.k [] Z U (w0a Z ?_);refine lO q0.k [.w 0] Z ⟨⟨Z,by rfl⟩,U⟩ (h0a q0 s1a (vs:=[.agg _]) (cs:=[_,_,_,_,_]) Z Z Z Z Z Z ?_);intro L0 S0 e0 I0 F0;have l1:=F0a (p:=p) (e:=e) k;have o0:Y2a p e k=[⟨e.at_,1,m,k,n⟩]:=s3a c0 v0 i0 s0 (by simpa using t0) (f4a c0 Q0 i0 (by(rw[←hs];rintro⟨-,q|⟨-,q2⟩⟩;exact N0 q;exact Y0 q2)));refine C0a o1a (k:=3) (M2:=[]) (e1:=⟨e.at_,1,m,k,n⟩) e0 s1a Z d0 Z Z (e0.cells 0 Z) (Y4a.of iO iO iO iO iO) Z ?_;intro R0 G0 n0 T0 m0 a0 J0 E0;refine n0a Z ?_;refine lP1 Z ⟨μk-1,by omega,Z,k+1,_,_,_,by omega,?_,m0.tail.tail.tail,Z⟩;rw[B1a,o0];exact a0
    refine lOn 15 p0.k [] Z U (w0a Z ?_);refine lO p0.k [.w 0] Z ⟨⟨Z,by rfl⟩,U⟩ (h0a p0 s1a (vs:=[.agg _]) (cs:=[_,_,_,_,_]) Z Z Z Z Z Z ?_);intro L0 S0 e0 I0 F0;have l1:=F0a (p:=p) (e:=e) k;have o0:Y2a p e k=[⟨e.at_,1,m,k,n⟩]:=s3a c0 v0 i0 s0 (by simpa using t0) (f4a c0 Q0 i0 (by(rw[←hs];rintro⟨-,q|⟨q1,-⟩⟩;exact N0 q;exact X0 q1)));refine C0a o1a (k:=3) (M2:=[]) (e1:=⟨e.at_,1,m,k,n⟩) e0 s1a Z d0 Z Z (e0.cells 0 Z) (Y4a.of iO iO iO iO iO) Z ?_;intro R0 G0 n0 T0 m0 a0 J0 E0;refine n0a Z ?_;refine lP1 Z ⟨μk-1,by omega,Z,k+1,_,_,_,by omega,?_,m0.tail.tail.tail,Z⟩;rw[B1a,o0];exact a0
   refine lOn 28 f0.k [] Z U (w0a Z ?_);refine lO f0.k [.w 0] Z ⟨⟨Z,by rfl⟩,U⟩ (h0a f0 s1a (vs:=[.agg _]) (cs:=[_,_,_,_,_]) Z Z Z Z Z Z ?_);intro L0 S0 e0 I0 F0;have l1:=F0a (p:=p) (e:=e) k;have o0:Y2a p e k=[⟨e.at_,1,m,k,n⟩]:=s3a c0 v0 i0 s0 (by simpa using t0) (f4a c0 Q0 i0 (by(rw[y0];simp;done)));refine C0a o1a (k:=3) (M2:=[]) (e1:=⟨e.at_,1,m,k,n⟩) e0 s1a Z d0 Z Z (e0.cells 0 Z) (Y4a.of iO iO iO iO iO) Z ?_;intro R0 G0 n0 T0 m0 a0 J0 E0;refine n0a Z ?_;refine lP1 Z ⟨μk-1,by omega,Z,k+1,_,_,_,by omega,?_,m0.tail.tail.tail,Z⟩;rw[B1a,o0];exact a0
  refine lOn 8 S.k [] Z U (w0a Z ?_);refine n0a Z ?_;refine lR1 Z (t0a Z ?_);refine⟨?_,S.fin⟩;have l1:=F0a (p:=p) (e:=e) p.threads.length;have e1:a3a p e=r2a p e k:=by unfold a3a;rw[if_pos W0,show p.threads.length=k by omega]
  rw[e1];exact A1a.rd o1a (M:=M) d0 S (k:=0) Z (fun g hg=>by subst hg;exact Y0a hE.inp.lt (S.new 0 Z)) (by rw[show k=p.threads.length by omega];omega)
 refine lR1 Z (t0a Z ?_);refine⟨?_,H0.fin⟩;rw[F1b W0];exact a2a
section
variable {d:Nat} {t:TypeId} {p:String} {af:Array Edge} {f:FuncId} {args:Array Operand} {at_:Array TypeId} {vs:LV} {x:Operand}
theorem o2b{xt:TypeId}{v:Value}(hx:ev e x=v)(hI:∀w:World,(Instr.makeInterface xt v).run P w=.ok (.iface xt v) w)(hd:Nat.ble (d+1) N=true)(h:WL P r N ops rest K D (upd e d (.iface xt v)) w):
 WL P r N ops (⟨some d,.makeInterface xt x,t,p,af,none⟩::rest) K D e w :=
 y1a Z Z hd (by simp only[execOp,hx,Sem.run_bind,hI,Result.andThen_ok,Sem.run_pure]) h
theorem w4c{ty:TypeId}{a0:Array (Nat×Operand)}{ps:List (Nat×Value)}{cs:LV}(b0:a0.toList.map (fun q=>(q.1,ev e q.2))=ps)(hB:∀w:World,(Instr.build ty ps.toArray).run P w=.ok (.agg cs.toArray) w)(hd:Nat.ble (d+1) N=true)
 (h:WL P r N ops rest K D (upd e d (.agg cs.toArray)) w):WL P r N ops (⟨some d,.build ty a0,t,p,af,none⟩::rest) K D e w:=by
 have hp:(a0.map fun(i,x)=>(i,ev e x))=ps.toArray:=by subst b0;apply Array.ext';simp
 exact y1a Z Z hd (by simp[execOp,hp,hB w]) h
theorem S3c{tt:TypeId}{v:Value}{name:String}{a0:Operand}{R:Value→World→Prop}(S:St M w0 w L)(hx:ev e a0=.iface tt v)(hM:∀(az:Array Value) (w:World),(callMethod (.iface tt v) name az).run P w=.ok (.enter f (#[v]++az)) w)
 (b0:args.toList.map (ev e)=vs) (hd:Nat.ble (d+1) N=true) (hc:M0a P f (v::vs).toArray w fun u w'=>R u w'∧Below w.heap.size w w')
 (h:∀u w1,R u w1→St M w0 w1 L→A0a [] w w1→WL P r N ops rest K D (upd e d u) w1) :
 WL P r N ops (⟨some d,.call { callee:=.invoke a0 name,args:=args,argTypes:=at_ },t,p,af,none⟩::rest) K D e w:=by
 refine h4b Z Z hd ?_ hc fun u w1 hr=>h u w1 hr.1 (S.later hr.2) (A0a.of_below hr.2);subst b0;have h1:(args.map (ev e))=(args.toList.map (ev e)).toArray:=by apply Array.ext';simp
 have h2:(#[Value.iface tt v]++args.map (ev e)).extract 1 (#[Value.iface tt v]++args.map (ev e)).size=args.map (ev e):=by
  apply Array.ext';simp;exact List.take_of_length_le (by simp)
 simp only[execOp,resolve,hx,Sem.run_bind,Sem.run_pure,Result.andThen_ok,invoke];have h3:(#[Value.iface tt v]++args.map (ev e))[0]?=some (.iface tt v):=by rw[Array.getElem?_append_left (by simp)];rfl
 rw[h3];simp only[h2,hM];rw[h1];simp
theorem E4c{ty len size lo b o:Nat}{el:TypeId}{xl:Operand}{kd:IntKind}(hu:P.underlying ty=some (.array len el))(hz:∀w:World,(sizeOf el).run P w=.ok size w)(hx:ev e x=.pointer (some ⟨b,o,none⟩))
 (hl:ev e xl=.int kd (lo:Int)) (a0:lo<len) (hd:Nat.ble (d+1) N=true) (h:WL P r N ops rest K D (upd e d (.slice (some ⟨b,o+lo*size,none⟩) (len-lo) (len-lo))) w) :
 WL P r N ops (⟨some d,.slice ty x (some xl) none none,t,p,af,none⟩::rest) K D e w:=by
 have e1:(0:Int)≤(lo:Int)∧(lo:Int)≤(len:Int):=by omega
 have e2:¬(len=lo):=by omega
 refine y1a Z Z hd ?_ h;simp[execOp,Instr.sliceAt,Instr.sureAddr,Instr.sliceBounds,Instr.sliceBound,asIntOf,run_underlying hu,hz,hx,hl,e1,e2,Addr.add_lit];intro hh;omega
theorem h4c{α:Type}{l:List α}{k:Nat}{x:α}(h:l[k]?=some x):l.set k x=l:=by
 obtain⟨a0,he⟩:=List.getElem?_eq_some_iff.1 h;rw[←he];exact List.set_getElem_self a0
theorem G3a{α:Type}{R0:LV→α→Prop}{size:Nat}(hL:E8a (fun(_:List Nat) (_:World)=>R0) size){M2 M3:List Nat}{ty el a0 k c m:Nat}{A2:Option Addr}{y:Operand}{z v:Value}{G:Option Nat}{cs:LV}{l l2:List α}(S:St M w0 w L)(hS:SlZ P ty el size z a0)(hk:L[k]?=some (G,el,cs))(hR:A1a (fun _ _=>R0) size M2 w G cs v l)
 (hx:ev e x=v) (hy:ev e y=.slice A2 m c) (h2:RdS M3 w size R0 (.slice A2 m c) l2) (hll:l.length+l2.length≤1000000) (hd:Nat.ble (d+1) N=true)
 (h:∀v' G' c0 w1,St M w0 w1 (L.set k (G',el,c0))→A1a (fun _ _=>R0) size M2 w1 G' c0 v' (l++l2)→A0a G.toList w w1→(∀g∈G'.toList,g∈G.toList∨w.heap.size≤g)→WL P r N ops rest K D (upd e d v') w1) (hby:a0≤1000:=by decide) :
 WL P r N ops (⟨some d,.call { callee:=.builtin .append,args:=#[x,y],argTypes:=#[ty,ty] },t,p,af,none⟩::rest) K D e w:=by
 obtain⟨hm,-,-⟩:=h2.len;by_cases h0:l2=[]
 ·subst h0;obtain⟨A,c',rfl⟩:=hR.form;have e0:m=0:=by simpa using hm
  subst e0;have f0:l.length≤c':=by
   obtain⟨css,_,_,q3,_⟩:=hR;rcases q3.2 with⟨-,q5,q6⟩|⟨g,g0,-,q5,q6,-⟩
   ·simp only[Value.slice.injEq] at q5;omega
   ·simp only[Value.slice.injEq] at q5;omega
  refine y5b hS hx f0 hy hd ?_;have:=h (.slice A l.length c') G cs w (by rw[h4c hk];exact S) (by rw[List.append_nil];exact hR) (A0a.refl _ _) (fun g hg=>.inl hg);exact this
 ·have b0:0<l2.length:=List.length_pos_iff.2 h0;obtain⟨b,o,hA⟩:∃b o,A2=some ⟨b,o,none⟩:=by
   obtain⟨_,_,_,_,h5⟩:=h2.at;obtain⟨b',o',d0,-⟩:=h5 (by omega);exact⟨b',o',d0⟩
  obtain⟨css,c1,c2,c3⟩:=RdS.all h2 hA b0;subst hA;exact w2b hL S hS hby hk hR hx hy hm c1 c2 c3 hll hd h
end
def I0b(p:g0a)(e:EvD)(c:Nat):List o6a:=match c with
 | 0=>Z1a p e
 | 1=>X2a p e
 | 2=>h7a p e
 | 3=>I5a p e
 | _=>a3a p e
def g2d:Nat→Nat
 | 0=>186
 | 1=>187
 | 2=>188
 | 3=>189
 | _=>190
def n1c(c:Nat):Value:=.iface 239 (.func (.func (g2d c)) #[] #[])
def T0d:LV:=[n1c 0,n1c 1,n1c 2,n1c 3,n1c 4]
theorem f1d{b j:Nat}(h:b+j<5):T0d[0+b*1+((j:Nat):Int).toNat*1]?=some (n1c (b+j)):=by
 rw[show 0+b*1+((j:Nat):Int).toNat*1=b+j by simp]
 match b+j,h with
 | 0,_=>rfl
 | 1,_=>rfl
 | 2,_=>rfl
 | 3,_=>rfl
 | 4,_=>rfl
theorem V0c(w0:World):M0a prog 136 #[] w0 fun v w'=>v=.agg T0d.toArray∧Bw w0 w':=by
 have S:=St.refl w0;refine a0a func136 Z ntmps136 Z ?_;refine wO1 Z (m0a S j6c Z Z ?_);intro g0 w0 S0 X0 G0;refine lO1 Z (o2b Z (fun _=>by simp[Instr.makeInterface,run_underlying Tryz.underlying239]) Z ?_);refine o2b Z (fun _=>by simp[Instr.makeInterface,run_underlying Tryz.underlying239]) Z ?_;refine o2b Z (fun _=>by simp[Instr.makeInterface,run_underlying Tryz.underlying239]) Z ?_;refine o2b Z (fun _=>by simp[Instr.makeInterface,run_underlying Tryz.underlying239]) Z ?_;refine o2b Z (fun _=>by simp[Instr.makeInterface,run_underlying Tryz.underlying239]) Z ?_;refine w4c (ps:=[(0,n1c 0),(1,n1c 1),(2,n1c 2),(3,n1c 3),(4,n1c 4)]) (cs:=T0d) Z (fun _=>by kernel_rfl) Z ?_
 first|refine f0a (kk:=0) (vs:=[_,_,_,_,_]) S0 q6c Z Z Z Z Z Z Z ?_
 intro c0 a0 b0;dsimp only[o0a,List.set] at a0;exact lR1 Z (L1a (n:=5) Z M8b Z (a0.cells 0 Z) Z ⟨Z,a0.fin⟩)
theorem i2c(p:g0a)(e:EvD)(c:Nat)(hc:c<5)(h0:c<3→0≤e.at_)(M:List Nat)(w0:World)(ge:Nat)(cs xs ys:LV)(hE:n5b p e M w0 ge cs xs ys):
 M0a prog 335 #[.func (.func (g2d c)) #[] #[],.pointer (some ⟨ge,0,none⟩)] w0 fun v w'=>F9b M w' v (I0b p e c)∧Bw w0 w':=by
 have hH:Has prog (g2d c):=by
  match c,hc with
  | 0,_=>exact(a1c:Has prog 186)
  | 1,_=>exact(u2c:Has prog 187)
  | 2,_=>exact(G7c:Has prog 188)
  | 3,_=>exact(H9c:Has prog 189)
  | 4,_=>exact(d8c:Has prog 190)
 have a0:∀w,n5b p e M w ge cs xs ys→M0a prog (g2d c) #[.pointer (some ⟨ge,0,none⟩)] w fun v w'=>F9b M w' v (I0b p e c)∧Below w.heap.size w w':=by
  match c,hc,h0 with
  | 0,_,_=>exact fun w h=>N8b p e M w _ _ _ _ h
  | 1,_,_=>exact fun w h=>S2c p e M w _ _ _ _ h
  | 2,_,h0=>exact fun w h=>W8c p e M w _ _ _ _ h (h0 (by omega))
  | 3,_,_=>exact fun w h=>W4c p e M w _ _ _ _ h
  | 4,_,_=>exact fun w h=>Y9b p e M w _ _ _ _ h
 have S:=St.refl w0;refine a0a func335 Z ntmps335 Z ?_;refine wO1 Z (k2b (f:=g2d c) (vs:=[.pointer (some ⟨ge,0,none⟩)]) hH Z Z Z (a0 w0 (hE.keep (S.keep0 M))) ?_);rintro v7 w7 ⟨hr,hb⟩;have S7:=S.later hb;refine n0a Z ?_;refine lR1 Z (t0a Z ?_);exact⟨hr,S7.fin⟩
def O4c(p:g0a)(e:EvD)(b j:Nat):List o6a:=(List.range j).flatMap fun i=>I0b p e (b+i)
theorem i3c{p:g0a}{e:EvD}{b:Nat}(j:Nat):O4c p e b (j+1)=O4c p e b j++I0b p e (b+j):=by simp[O4c,List.range_succ]
theorem E5c{p:g0a}{e:EvD}{b:Nat}(h:(b=3∧¬0≤e.at_)∨(b=0∧0≤e.at_)):O4c p e b (5-b)=k4a p e:=by
 rcases h with⟨rfl,h⟩|⟨rfl,h⟩
 ·unfold k4a;rw[if_neg h];simp[O4c,I0b,List.range_succ]
 ·unfold k4a;rw[if_pos h];simp[O4c,I0b,List.range_succ]
theorem N3b{p:g0a}{e:EvD}(hp:q1a p)(c:Nat):(I0b p e c).length≤4:=by
 have h1:=g8a (p:=p) (e:=e);have h2:=X5b (p:=p) (e:=e);have h3:=U3a (p:=p) (e:=e) p.threads.length;have h4:=T0a (p:=p) (e:=e) p.locks.length;have h5:=F0a (p:=p) (e:=e) p.threads.length;have h6:=hp.nthreads;have h7:=hp.nlocks;unfold I0b
 split
 ·omega
 ·omega
 ·unfold h7a;split
  ·omega
  ·simp
 ·unfold I5a;split
  ·omega
  ·simp
 ·unfold a3a;split
  ·omega
  ·simp
theorem n4c{p:g0a}{e:EvD}(hp:q1a p)(b j:Nat):(O4c p e b j).length≤j*4:=R7a (fun _=>N3b hp _) j
section
variable {P:Program} {r:Option Nat} {N:Nat} {l:List Oper} {D:List Deferred} {C:World→Prop} {K:List Deferred→Env→World→Prop} {pur:Nat→Bool}
def n4b(e:Env)(d:Option Nat)(v:Value):Env:=match d with|some d=>upd e d v|none=>e
def R7b(N:Nat)(o:Oper):Prop:=∀d,o.dst=some d→d<N
theorem i5a{a:Act}(o:Oper)(v:Value)(h:R7b a.tmps.size o):c1a (a.put o.dst v)=n4b (c1a a) o.dst v:=by
 cases hd:o.dst with
 | none=>rfl
 | some d=>exact v1a v (h d hd)
theorem u6a(a:Act)(o:Oper)(v:Value):(a.put o.dst v).tmps.size=a.tmps.size:=by
 cases o.dst<;>simp[Act.put]
theorem n3a(a:Act)(o:Oper)(v:Value):(a.put o.dst v).defers=a.defers:=by
 cases o.dst<;>simp[Act.put]
theorem g0b{e:Env}{o:Oper}{v:Value}(hN:R7b N o)(hz:∀i,N≤i→e i=undef):∀i,N≤i→n4b e o.dst v i=undef:=by
 cases hd:o.dst with
 | none=>exact hz
 | some d=>exact f2a (hN d hd) hz
theorem J5a{o:Oper}{K1:List Deferred→Env→World→Prop}{e e1:Env}{w:World}(hN:R7b N o)(j0:Op.isSelect o.op=false)(d0:∀c,o.op≠.defer c)(hz:∀i,N≤i→e1 i=undef)
 (b0:∀s∈Oper.looksAt l.toArray o,e s=e1 s) (h:WL P r N l.toArray [o] K1 D e1 w):WL P r N l.toArray [o] (fun D' e' w'=>∃v,e'=n4b e o.dst v∧K1 D' (n4b e1 o.dst v) w') D e w:=by
 unfold WL at *;intro a Q hs hD he hK;obtain⟨a1,i0,g0,e0⟩:=W7a e1 N D hz;have h1:=h a1 (fun ex a' w'=>ex=.normal∧K1 a'.defers (c1a a') w') i0 g0 e0 (fun a' w' _ hk=>⟨Z,hk⟩);have hw:Region.wanted o (yielded l.toArray a.tmps)=Region.wanted o (yielded l.toArray a1.tmps):=by rw[G1a,G1a,he,e0];exact h1a b0
 have c0:∀(v:Value) (w':World),K1 (a1.put o.dst v).defers (c1a (a1.put o.dst v)) w'→Q .normal (a.put o.dst v) w':=by
  intro v w' hk;rw[i5a o v (by rw[i0];exact hN),e0,n3a,g0] at hk;refine hK _ _ (by rw[u6a,hs]) ⟨v,by rw[i5a o v (by rw[hs];exact hN),he],?_⟩;rw[n3a,hD];exact hk
 simp only[wpListIn] at h1 ⊢;rw[hw]
 split
 ·rename_i n0;simp only[n0,if_true] at h1;refine⟨G0a _ _ _,?_⟩;have h4:=h1.2;have m0:Oper.semAt (fc r).round a.eval o=Oper.semAt (fc r).round a1.eval o:=by
   rw[Oper.semAt_eq _ _ _ d0,Oper.semAt_eq _ _ _ d0,E2a,E2a,he,e0];exact I1a j0 b0
  rw[m0]
  revert h4
  generalize (Oper.semAt (fc r).round a1.eval o).run P w=p0;intro h4;cases p0 with
  | ok x w' =>
    cases x with
    | value v=>simp only[Oper.uponIn] at h4 ⊢;exact c0 v w' h4.2
    | skip=>simp only[Oper.uponIn] at h4 ⊢;exact c0 undef w' h4.2
    | defer dd =>
      simp only[Oper.uponIn] at h4 ⊢;have hk:=h4.2;have o0:c1a ({ a1 with defers:=dd::a1.defers }:Act)=e1:=e0;have ee:c1a ({ a with defers:=dd::a.defers }:Act)=e:=he;rw[i5a (a:={ a1 with defers:=dd::a1.defers }) o undef (by rw[show({ a1 with defers:=dd::a1.defers }:Act).tmps.size=N from i0];exact hN),o0,n3a] at hk;refine hK _ _ (by rw[u6a];exact hs) ⟨undef,by rw[i5a (a:={ a with defers:=dd::a.defers }) o undef (by rw[show({ a with defers:=dd::a.defers }:Act).tmps.size=N from hs];exact hN),ee],?_⟩;rw[n3a];show K1 (dd::a.defers) _ _;rw[hD,←g0];exact hk
    | enter f args =>
      simp only[Oper.uponIn] at h4 ⊢;exact⟨h4.1,CallsIn.mono h4.2 (fun en q0 hh=>by
       cases en
       ·exact c0 _ _ hh.2
       ·exact absurd hh.1 (by simp)
       ·obtain⟨a0,w0,hh⟩:=hh;exact absurd hh.1 (by simp))⟩
    | row r0 args=>simp only[Oper.uponIn] at h4 ⊢;exact⟨h4.1,RowsIn.mono h4.2 (fun _ _ hh=>c0 _ _ hh.2)⟩
    | round l' f tmps f0 body =>
      simp only[Oper.uponIn] at h4 ⊢;exact⟨h4.1,RoundIn.mono h4.2 (fun en q0 hh=>by
       cases en
       ·exact c0 _ _ hh.2
       ·exact absurd hh.1 (by simp)
       ·obtain⟨a0,w0,hh⟩:=hh;exact absurd hh.1 (by simp))⟩
    | _=>simp only[Oper.uponIn] at h4
  | halt x w'=>cases x<;>simp only[Oper.uponIn] at h4 ⊢<;>exact absurd h4.1 (by simp)
 ·rename_i n0;simp only[n0] at h1;exact⟨G0a _ _ _,c0 undef w h1.2.2⟩
theorem h5c{o:Oper}{K1:List Deferred→Env→World→Prop}{e:Env}{w:World}(hN:R7b N o)(hz:∀i,N≤i→e i=undef)
 (h:WL P r N l.toArray [o] K1 D e w):∃D' v w',K1 D' (n4b e o.dst v) w':=by
 unfold WL at h;obtain⟨a1,e0,f0,d0⟩:=W7a e N D hz;have h1:=h a1 (fun ex a' w'=>ex=.normal∧K1 a'.defers (c1a a') w') e0 f0 d0 (fun a' w' _ hk=>⟨Z,hk⟩);have b0:∀(v:Value) (w':World),K1 (a1.put o.dst v).defers (c1a (a1.put o.dst v)) w'→∃D' v w',K1 D' (n4b e o.dst v) w':=by
  intro v w' hk;rw[i5a o v (by rw[e0];exact hN),d0] at hk;exact⟨_,v,w',hk⟩
 simp only[wpListIn] at h1
 split at h1
 ·have h4:=h1.2
  revert h4
  generalize (Oper.semAt (fc r).round a1.eval o).run P w=g0;intro h4;cases g0 with
  | ok x w' =>
    cases x with
    | value v=>simp only[Oper.uponIn] at h4;exact b0 v w' h4.2
    | skip=>simp only[Oper.uponIn] at h4;exact b0 undef w' h4.2
    | defer dd =>
      simp only[Oper.uponIn] at h4;have hk:=h4.2;rw[i5a (a:={ a1 with defers:=dd::a1.defers }) o undef (by rw[show({ a1 with defers:=dd::a1.defers }:Act).tmps.size=N from e0];exact hN),show c1a ({ a1 with defers:=dd::a1.defers }:Act)=e from d0] at hk;exact⟨_,_,_,hk⟩
    | enter f args =>
      simp only[Oper.uponIn] at h4;obtain⟨en,w2,_,hR,_⟩:=h4.2.2 [] (room_wide _);cases en
      ·exact b0 _ _ hR.2
      ·exact absurd hR.1 (by simp)
      ·obtain⟨a0,w0,hh⟩:=hR;exact absurd hh.1 (by simp)
    | row i0 args =>
      simp only[Oper.uponIn] at h4;obtain⟨v,w2,hR,_⟩:=h4.2 default [] (room_wide _);exact b0 _ _ hR.2
    | round l' f tmps c0 body =>
      simp only[Oper.uponIn] at h4;obtain⟨en,w2,hR,_⟩:=h4.2.2 default [] (room_wide _);cases en
      ·exact b0 _ _ hR.2
      ·exact absurd hR.1 (by simp)
      ·obtain⟨a0,w0,hh⟩:=hR;exact absurd hh.1 (by simp)
    | _=>simp only[Oper.uponIn] at h4
  | halt x w'=>cases x<;>simp only[Oper.uponIn] at h4<;>exact absurd h4.1 (by simp)
 ·exact b0 undef w h1.2.2
def WN(P:Program)(r:Option Nat)(N:Nat)(l:List Oper)(C:World→Prop)(pur:Nat→Bool)(K:List Deferred→Env→World→Prop)(D:List Deferred):List Nat→Env→World→Prop
 | [],e,w=>C w∧K D e w
 | i::rest,e,w=>C w∧∃o,l[i]?=some o∧R7b N o ∧
  ((pur i=true∧∃d v,o.dst=some d∧PV P l C o e v∧WN P r N l C pur K D rest (upd e d v) w) ∨
   (pur i=false∧WL P r N l.toArray [o] (fun D' e' w'=>D'=D∧WN P r N l C pur K D rest e' w') D e w))
theorem WN.inC{a0:List Nat}{e:Env}{w:World}(h:WN P r N l C pur K D a0 e w):C w:=by cases a0<;>exact h.1
def b3b(l:List Oper)(pur:Nat→Bool)(j i:Nat):Bool :=
 match l[j]?,l[i]? with
 | some p,some q=>(pur i||pur j)&&(match p.dst,q.dst with
   | some c,some d=>!(c==d)&&!(Oper.looksAt l.toArray p).contains d&&!(Oper.looksAt l.toArray q).contains c
   | some c,none=>pur j&&!(Oper.looksAt l.toArray q).contains c
   | none,some d=>pur i&&!(Oper.looksAt l.toArray p).contains d
   | _,_=>false)
 | _,_=>false
structure a4d (l:List Oper) (pur:Nat→Bool) (j i:Nat) (o1 o2:Oper):Prop where
 pur:pur i=true∨pur j=true
 dst:∀c d,o1.dst=some c→o2.dst=some d→c≠d
 p:∀d,o2.dst=some d→d∉Oper.looksAt l.toArray o1
 q:∀c,o1.dst=some c→c∉Oper.looksAt l.toArray o2
theorem z2b{j i:Nat}{p q:Oper}(h:b3b l pur j i=true)(hj:l[j]?=some p)(hi:l[i]?=some q):a4d l pur j i p q:=by
 unfold b3b at h;simp only[hj,hi,Bool.and_eq_true,Bool.or_eq_true] at h;obtain⟨h1,h2⟩:=h;cases hc:p.dst with
 | none =>
   cases hd:q.dst with
   | none=>simp[hc,hd] at h2
   | some d =>
     simp only[hc,hd,Bool.and_eq_true,Bool.not_eq_true',List.contains_eq_mem,decide_eq_false_iff_not] at h2;exact⟨h1,fun c d h=>(by rw[hc] at h;cases h),fun x hx=>(by rw[hd] at hx;cases hx;exact h2.2),fun c h=>(by rw[hc] at h;cases h)⟩
 | some c =>
   cases hd:q.dst with
   | none =>
     simp only[hc,hd,Bool.and_eq_true,Bool.not_eq_true',List.contains_eq_mem,decide_eq_false_iff_not] at h2;exact⟨h1,fun c d _ h=>(by rw[hd] at h;cases h),fun d h=>(by rw[hd] at h;cases h),fun x hx=>(by rw[hc] at hx;cases hx;exact h2.2)⟩
   | some d =>
     simp only[hc,hd,Bool.and_eq_true,Bool.not_eq_true',beq_eq_false_iff_ne,List.contains_eq_mem,decide_eq_false_iff_not] at h2;exact⟨h1,fun x y hx hy=>(by rw[hc] at hx;rw[hd] at hy;cases hx;cases hy;exact h2.1.1),fun x hx=>(by rw[hd] at hx;cases hx;exact h2.1.2),fun x hx=>(by rw[hc] at hx;cases hx;exact h2.2)⟩
theorem Q9a{e:Env}{o:Oper}{u:Value}{s:Nat}{X:List Nat}(hc:∀c,o.dst=some c→c∉X)(hs:s∈X):n4b e o.dst u s=e s:=by
 cases hd:o.dst with
 | none=>rfl
 | some c=>exact b2a (hc c hd) hs
theorem M5b(e:Env){p q:Oper}(u v:Value)(h:∀c d,p.dst=some c→q.dst=some d→c≠d):n4b (n4b e p.dst u) q.dst v=n4b (n4b e q.dst v) p.dst u:=by
 cases hc:p.dst with
 | none=>rfl
 | some c =>
   cases hd:q.dst with
   | none=>rfl
   | some d=>exact c3a e u v (h c d hc hd)
theorem WN.first(a0:P5a l=true){i:Nat}{f0:List Nat}:∀(pre:List Nat) (e:Env) (w:World),(∀j∈pre,b3b l pur j i=true)→(∀i,N≤i→e i=undef)→WN P r N l C pur K D (pre++i::f0) e w →
 ∃o,l[i]?=some o∧R7b N o ∧
  ((pur i=true∧∃d v,o.dst=some d∧PV P l C o e v∧WN P r N l C pur K D (pre++f0) (upd e d v) w) ∨
   (pur i=false∧WL P r N l.toArray [o] (fun D' e' w'=>D'=D∧∃v,e'=n4b e o.dst v∧WN P r N l C pur K D (pre++f0) e' w') D e w)):=by
 intro pre
 induction pre with
 | nil =>
   intro e w _ hz h;obtain⟨hC,o,ho,hN,h⟩:=h;refine⟨o,ho,hN,?_⟩;rcases h with h|⟨hp,h⟩
   ·exact .inl h
   ·refine .inr ⟨hp,?_⟩;have h2:=J5a (e:=e) (e1:=e) hN (N0a a0 ho).1 (N0a a0 ho).2 hz (fun _ _=>rfl) h;unfold WL at *;exact fun a Q hs hD he hK=>h2 a Q hs hD he (fun a' w' j0 ⟨v,h1,h3,h4⟩=>hK a' w' j0 ⟨h3,v,h1,by rw[h1];exact h4⟩)
 | cons q pre ih =>
   intro e w g0 hz h;obtain⟨hC,p,hp,d0,h⟩:=h;have hq:=g0 q (by simp);have b0:∀j∈pre,b3b l pur j i=true:=fun j hj=>g0 j (by simp[hj]);rcases h with⟨i0,c,u,hc,hu,h⟩|⟨i0,h⟩
   ·obtain⟨o,ho,hN,h2⟩:=ih (upd e c u) w b0 (f2a (d0 c hc) hz) h;have hI:=z2b hq hp ho;refine⟨o,ho,hN,?_⟩;rcases h2 with⟨e0,d,v,hd,hv,h2⟩|⟨e0,h2⟩
    ·refine .inl ⟨e0,d,v,hd,hv.congr (N0a a0 ho).1 (fun s hs=>b2a (hI.q c hc) hs),hC,p,hp,d0,.inl ⟨i0,c,u,hc,hu.congr (N0a a0 hp).1 (fun s hs=>(b2a (hI.p d hd) hs).symm),?_⟩⟩;rw[←c3a _ _ _ (hI.dst c d hc hd)];exact h2
    ·refine .inr ⟨e0,?_⟩;have h3:=J5a (e:=e) (e1:=upd e c u) hN (N0a a0 ho).1 (N0a a0 ho).2 (f2a (d0 c hc) hz) (fun s hs=>(b2a (hI.q c hc) hs).symm) h2;unfold WL at *;refine fun a Q hs hD he hK=>h3 a Q hs hD he (fun a' w' j0 hh=>hK a' w' j0 ?_);obtain⟨v,h1,h4,_,h5,h6⟩:=hh;refine⟨h4,v,h1,?_⟩;rw[h1];refine⟨h6.inC,p,hp,d0,.inl ⟨i0,c,u,hc,hu.congr (N0a a0 hp).1 (fun s hs=>(Q9a hI.p hs).symm),?_⟩⟩;have e1:n4b (upd e c u) o.dst v=upd (n4b e o.dst v) c u:=by
      have:=M5b e (p:=p) (q:=o) u v hI.dst;rw[hc] at this;exact this
     rw[←e1];exact h6
   ·have h0:=J5a (e:=e) (e1:=e) d0 (N0a a0 hp).1 (N0a a0 hp).2 hz (fun _ _=>rfl) h;obtain⟨_,u1,w1,_,q0,_,h1⟩:=h5c d0 hz h0;rw[←q0] at h1;obtain⟨o,ho,hN,h2⟩:=ih (n4b e p.dst u1) w1 b0 (g0b d0 hz) h1;have hI:=z2b hq hp ho;have e0:pur i=true:=by
     rcases hI.pur with h|h
     ·exact h
     ·rw[i0] at h;cases h
    rcases h2 with⟨_,d,v0,hd,r0,_⟩|⟨c0,_⟩
    ·have m0:PV P l C o e v0:=r0.congr (N0a a0 ho).1 (fun s hs=>Q9a hI.q hs);refine⟨o,ho,hN,.inl ⟨e0,d,v0,hd,m0,hC,p,hp,d0,.inr ⟨i0,?_⟩⟩⟩;have h3:=J5a (e:=upd e d v0) (e1:=e) d0 (N0a a0 hp).1 (N0a a0 hp).2 hz (fun s hs=>b2a (hI.p d hd) hs) h;unfold WL at *;refine fun a Q hs hD he hK=>h3 a Q hs hD he (fun a' w' j0 hh=>hK a' w' j0 ?_);obtain⟨u,hu,n0,h4⟩:=hh;refine⟨n0,?_⟩;obtain⟨o',p0,_,h5⟩:=ih (n4b e p.dst u) w' b0 (g0b d0 hz) h4;obtain rfl:o'=o:=Option.some.inj (p0.symm.trans ho);rcases h5 with⟨_,d',v,o0,hv,h5⟩|⟨c0,_⟩
     ·obtain rfl:d'=d:=Option.some.inj (o0.symm.trans hd);have hv':PV P l C o' e v:=hv.congr (N0a a0 ho).1 (fun s hs=>Q9a hI.q hs);obtain rfl:v=v0:=PV.uniq hC hv' m0;have e1:upd (n4b e p.dst u) d' v=n4b (upd e d' v) p.dst u:=by
       have:=M5b e (p:=p) (q:=o') u v hI.dst;rw[hd] at this;exact this
      rw[hu,←e1];exact h5
     ·rw[e0] at c0;cases c0
    ·rw[e0] at c0;cases c0
def Z6b(l:List Oper)(pur:Nat→Bool)(x y:Nat):List Nat→List Nat→Bool
 | _,[]=>true
 | acc,i::rest=>(acc.all fun j=>(a5a l i).contains j||b3b l pur j i||(j==x&&i==y))&&Z6b l pur x y (acc++[i]) rest
theorem w3b{x y:Nat}:∀(ix b0:List Nat),Z6b l pur x y b0 ix=true→∀(pre:List Nat) (i:Nat) (a0:List Nat),ix=pre++i::a0→∀j∈b0++pre,j∈a5a l i∨b3b l pur j i=true∨(j=x∧i=y)
 | [],_,_,pre,i,a0,h=>by simp at h
 | k::ix,b0,h,pre,i,a0,he=>by
   simp only[Z6b,Bool.and_eq_true] at h;cases pre with
   | nil =>
     simp at he;obtain⟨rfl,-⟩:=he;intro j hj;rw[List.append_nil] at hj;have:=List.all_eq_true.1 h.1 j hj;simp only[Bool.or_eq_true,List.contains_eq_mem,decide_eq_true_eq,Bool.and_eq_true,beq_iff_eq] at this;rcases this with(h|h)|h
     ·exact .inl h
     ·exact .inr (.inl h)
     ·exact .inr (.inr h)
   | cons q pre =>
     simp at he;obtain⟨rfl,he⟩:=he;intro j hj;exact w3b ix (b0++[k]) h.2 pre i a0 he j (by simpa using hj)
def f7a(ix:List Nat)(f:Nat→Bool):List Nat:=ix.filter fun i=>!f i
theorem i0c{ix:List Nat}(b0:ix.Nodup)(f:Nat→Bool){i:Nat}(hi:i∈ix)(hf:f i=false):∃pre a0 P Q,ix=P++i::Q∧f7a ix f=pre++i::a0∧f7a ix (fun j=>f j||j==i)=pre++a0∧∀j∈pre,j∈P∧f j=false:=by
 obtain⟨P,Q,rfl⟩:=List.append_of_mem hi;rw[List.nodup_append] at b0;obtain⟨_,h2,h3⟩:=b0;rw[List.nodup_cons] at h2;refine⟨P.filter fun j=>!f j,Q.filter fun j=>!f j,P,Q,Z,?_,?_,?_⟩
 ·unfold f7a;rw[List.filter_append,List.filter_cons];simp[hf]
 ·unfold f7a;rw[List.filter_append,List.filter_cons];simp only[beq_self_eq_true,Bool.or_true,Bool.not_true,Bool.false_eq_true,if_false]
  congr 1
  ·apply List.filter_congr;intro j hj;have:(j==i)=false:=by simp;exact fun e=>h3 j hj i (by simp) e
   simp[this]
  ·apply List.filter_congr;intro j hj;have:(j==i)=false:=by simp;exact fun e=>h2.1 (e▸hj)
   simp[this]
 ·intro j hj;rw[List.mem_filter] at hj;exact⟨hj.1,by simpa using hj.2⟩
def c9b:List Nat→Bool
 | []=>true
 | x::l=>!l.contains x&&c9b l
theorem B1b:∀{l:List Nat},c9b l=true→l.Nodup
 | [],_=>List.nodup_nil
 | x::l,h=>by
   simp only[c9b,Bool.and_eq_true,Bool.not_eq_true',List.contains_eq_mem,decide_eq_false_iff_not] at h;exact List.nodup_cons.2 ⟨h.1,B1b h.2⟩
def k8c(n:Nat)(ix:List Nat):Bool:=c9b ix&&(List.range n).all (fun i=>ix.contains i)&&ix.all (fun i=>decide (i<n))
def F9c(l:List Oper)(pur:Nat→Bool)(a c:Nat)(ixA ixB:List Nat):Bool :=
 P5a l&&((List.range l.length).all fun i=>(E1a l i).all fun j=>decide (j<i))&&k8c l.length ixA&&k8c l.length ixB&&Z6b l pur a c [] ixA&&Z6b l pur c a [] ixB &&
 ((List.range l.length).all fun i=>pur i||i==a||i==c||((a5a l i).contains a&&(a5a l i).contains c))&&!(a==c)&&!pur a&&!pur c
theorem WN.step{ix:List Nat}{x y:Nat}(f0:P5a l=true)(c0:ix.Nodup)(e0:Z6b l pur x y [] ix=true){f:Nat→Bool}(a0:∀i,f i=true→∀j∈E1a l i,f j=true){i:Nat}{o:Oper}(hi:i∈ix)(ho:l[i]?=some o)(b0:f i=false)
 (g0:∀j∈E1a l i,f j=true) (j0:i=y→f x=true) {e:Env} {w:World} (hz:∀i,N≤i→e i=undef) (h:WN P r N l C pur K D (f7a ix f) e w) :
 R7b N o∧((pur i=true∧∃d v,o.dst=some d∧PV P l C o e v∧WN P r N l C pur K D (f7a ix (fun j=>f j||j==i)) (upd e d v) w) ∨
  (pur i=false∧WL P r N l.toArray [o] (fun D' e' w'=>D'=D∧∃v,e'=n4b e o.dst v∧WN P r N l C pur K D (f7a ix (fun j=>f j||j==i)) e' w') D e w)):=by
 obtain⟨pre,_,A,B,h1,h2,h3,h4⟩:=i0c c0 f hi b0;rw[h2] at h;have i0:∀j∈a5a l i,f j=true:=c4a a0 _ _ g0;obtain⟨o',d0,hN,h5⟩:=WN.first f0 pre e w (fun j hj=>by
  obtain⟨h6,h7⟩:=h4 j hj;rcases w3b ix [] e0 A i B h1 j (by simpa using h6) with h|h|⟨h,h'⟩
  ·have:=i0 j h;rw[h7] at this;cases this
  ·exact h
  ·subst h;have:=j0 h';rw[h7] at this;cases this) hz h
 obtain rfl:o'=o:=Option.some.inj (d0.symm.trans ho);rw[h3];exact⟨hN,h5⟩
theorem K1d{id:Nat}{n t:List Deferred→Env→World→Prop}{b:Nat→List Deferred→Env→World→Prop}{e:Env}{w:World}(hm:P.follows .mixedOrders=true)(pur:Nat→Bool)(a c:Nat)(a0 b0:List Nat)
 (hok:F9c l pur a c a0 b0=true) (C:World→Prop) (hA:WN P r N l C pur n D a0 e w.drew) (hB:WN P r N l C pur n D b0 e w.drew):W P r N (.region id l.toArray true) ⟨n,b,t⟩ D e w:=by
 unfold F9c k8c at hok;simp only[Bool.and_eq_true,Bool.not_eq_true',beq_eq_false_iff_ne] at hok;obtain⟨⟨⟨⟨⟨⟨⟨⟨⟨t0,G0⟩,⟨d0,K0⟩,H0⟩,⟨e0,L0⟩,I0⟩,C0⟩,D0⟩,N0⟩,P0⟩,_⟩,_⟩:=hok;have d0:=B1b d0;have e0:=B1b e0;have E0:∀i,i<l.length→i∈a0:=fun i hi=>by simpa using List.all_eq_true.1 K0 i (List.mem_range.2 hi)
 have inB:∀i,i<l.length→i∈b0:=fun i hi=>by simpa using List.all_eq_true.1 L0 i (List.mem_range.2 hi)
 have hz:(∀i,N≤i→e i=undef)→W P r N (.region id l.toArray true) ⟨n,b,t⟩ D e w:=by
  intro hz;refine o8b hm G0 (fun f e w=>(∀i,N≤i→e i=undef)∧(∀i,f i=true→∀j∈E1a l i,f j=true) ∧
   ((f a=false∧f c=false∧WN P r N l C pur n D (f7a a0 f) e w∧WN P r N l C pur n D (f7a b0 f) e w)∨(f a=true∧WN P r N l C pur n D (f7a a0 f) e w)∨(f c=true∧WN P r N l C pur n D (f7a b0 f) e w))) ⟨hz,by simp,.inl ⟨Z,Z,?_,?_⟩⟩ ?_ ?_
  ·have:f7a a0 (fun _=>false)=a0:=by unfold f7a;simp
   rw[this];exact hA
  ·have:f7a b0 (fun _=>false)=b0:=by unfold f7a;simp
   rw[this];exact hB
  ·rintro f e w i o ⟨hz,j0,hM⟩ ho B0 u0;have f0:i<l.length:=(List.getElem?_eq_some_iff.1 ho).1;have c0:∀k,(f k||k==i)=true→∀j∈E1a l k,(f j||j==i)=true:=by
    intro k hk j hj;simp only[Bool.or_eq_true,beq_iff_eq] at hk ⊢;rcases hk with hk|rfl
    ·exact .inl (j0 k hk j hj)
    ·exact .inl (u0 j hj)
   have S0:∀j∈a5a l i,f j=true:=c4a j0 _ _ u0;have one:∀(ix:List Nat) (x y:Nat) (J:(Nat→Bool)→Env→World→Prop),ix.Nodup→i∈ix→Z6b l pur x y [] ix=true→(i=y→f x=true)→WN P r N l C pur n D (f7a ix f) e w →
    (∀e' w',WN P r N l C pur n D (f7a ix (fun j=>f j||j==i)) e' w'→J (fun j=>f j||j==i) e' w') →
    WL P r N l.toArray [o] (fun D' e' w'=>D'=D∧(∀i,N≤i→e' i=undef)∧(∀k,(f k||k==i)=true→∀j∈E1a l k,(f j||j==i)=true)∧J (fun j=>f j||j==i) e' w') D e w:=by
    intro ix x y J O0 hi Q0 T0 hw hJ;obtain⟨hN,h5⟩:=WN.step t0 O0 Q0 j0 hi ho B0 u0 T0 hz hw;have v0:=hw.inC;rcases h5 with⟨A0,d,v,hd,hv,h5⟩|⟨A0,h5⟩
    ·rcases hv with⟨i0,hv⟩|⟨i0,rfl⟩
     ·unfold WL;intro a Q hs hD he hK;simp only[wpListIn];have g0:Region.wanted o (yielded l.toArray a.tmps)=true:=by rw[G1a,he];exact i0
      simp only[g0,if_true];refine⟨G0a _ _ _,?_⟩;rw[Oper.semAt_eq _ _ _ (N0a t0 ho).2,E2a,he,hv w v0,Oper.uponIn_value];refine hK _ _ (by rw[u6a,hs]) ⟨by rw[n3a,hD],?_⟩;rw[hd,v1a v (by rw[hs];exact hN d hd),he];exact⟨f2a (hN d hd) hz,c0,hJ _ _ h5⟩
     ·unfold WL;intro a Q hs hD he hK;simp only[wpListIn];have g0:Region.wanted o (yielded l.toArray a.tmps)=false:=by rw[G1a,he];exact i0
      simp only[g0];refine⟨G0a _ _ _,?_⟩;refine hK _ _ (by rw[u6a,hs]) ⟨by rw[n3a,hD],?_⟩;rw[hd,v1a undef (by rw[hs];exact hN d hd),he];exact⟨f2a (hN d hd) hz,c0,hJ _ _ h5⟩
    ·unfold WL at *;refine fun a Q hs hD he hK=>h5 a Q hs hD he (fun a' w' R0 hh=>hK a' w' R0 ?_);obtain⟨F0,v,hv,h6⟩:=hh;exact⟨F0,by rw[hv];exact g0b hN hz,c0,hJ _ _ h6⟩
   rcases hM with⟨p0,y0,n0,x0⟩|⟨p0,n0⟩|⟨y0,x0⟩
   ·by_cases m0:i=a
    ·exact one a0 a c (fun f e w=>(f a=false∧f c=false∧WN P r N l C pur n D (f7a a0 f) e w∧WN P r N l C pur n D (f7a b0 f) e w)∨(f a=true∧WN P r N l C pur n D (f7a a0 f) e w)∨(f c=true∧WN P r N l C pur n D (f7a b0 f) e w)) d0 (E0 i f0) C0 (fun h=>absurd (m0.symm.trans h) P0) n0 (fun e' w' h=>.inr (.inl ⟨by simp[m0],h⟩))
    by_cases z0:i=c
    ·exact one b0 c a (fun f e w=>(f a=false∧f c=false∧WN P r N l C pur n D (f7a a0 f) e w∧WN P r N l C pur n D (f7a b0 f) e w)∨(f a=true∧WN P r N l C pur n D (f7a a0 f) e w)∨(f c=true∧WN P r N l C pur n D (f7a b0 f) e w)) e0 (inB i f0) D0 (fun h=>absurd h m0) x0 (fun e' w' h=>.inr (.inr ⟨by simp[z0],h⟩))
    have A0:pur i=true:=by
     have:=List.all_eq_true.1 N0 i (List.mem_range.2 f0);simp only[Bool.or_eq_true,beq_iff_eq,m0,z0,or_false,Bool.and_eq_true,List.contains_eq_mem,decide_eq_true_eq] at this;rcases this with h|h
     ·exact h
     ·have:=S0 a h.1;rw[p0] at this;cases this
    obtain⟨hN,h5⟩:=WN.step t0 d0 C0 j0 (E0 i f0) ho B0 u0 (fun h=>absurd h z0) hz n0;obtain⟨-,h6⟩:=WN.step t0 e0 D0 j0 (inB i f0) ho B0 u0 (fun h=>absurd h m0) hz x0;have v0:=n0.inC;rcases h5 with⟨_,d,v,hd,hv,h5⟩|⟨s0,_⟩
    rotate_left
    ·rw[A0] at s0;cases s0
    rcases h6 with⟨_,d',v',J0,hv',h6⟩|⟨s0,_⟩
    rotate_left
    ·rw[A0] at s0;cases s0
    obtain rfl:d'=d:=Option.some.inj (J0.symm.trans hd);obtain rfl:v'=v:=PV.uniq v0 hv' hv;have q0:(f a||a==i)=false:=by simp[p0];exact fun e=>m0 e.symm
    have r0:(f c||c==i)=false:=by simp[y0];exact fun e=>z0 e.symm
    rcases hv with⟨i0,hv⟩|⟨i0,rfl⟩
    ·unfold WL;intro a Q hs hD he hK;simp only[wpListIn];have g0:Region.wanted o (yielded l.toArray a.tmps)=true:=by rw[G1a,he];exact i0
     simp only[g0,if_true];refine⟨G0a _ _ _,?_⟩;rw[Oper.semAt_eq _ _ _ (N0a t0 ho).2,E2a,he,hv w v0,Oper.uponIn_value];refine hK _ _ (by rw[u6a,hs]) ⟨by rw[n3a,hD],?_⟩;rw[hd,v1a v' (by rw[hs];exact hN d' hd),he];exact⟨f2a (hN d' hd) hz,c0,.inl ⟨q0,r0,h5,h6⟩⟩
    ·unfold WL;intro a Q hs hD he hK;simp only[wpListIn];have g0:Region.wanted o (yielded l.toArray a.tmps)=false:=by rw[G1a,he];exact i0
     simp only[g0];refine⟨G0a _ _ _,?_⟩;refine hK _ _ (by rw[u6a,hs]) ⟨by rw[n3a,hD],?_⟩;rw[hd,v1a undef (by rw[hs];exact hN d' hd),he];exact⟨f2a (hN d' hd) hz,c0,.inl ⟨q0,r0,h5,h6⟩⟩
   ·exact one a0 a c (fun f e w=>(f a=false∧f c=false∧WN P r N l C pur n D (f7a a0 f) e w∧WN P r N l C pur n D (f7a b0 f) e w)∨(f a=true∧WN P r N l C pur n D (f7a a0 f) e w)∨(f c=true∧WN P r N l C pur n D (f7a b0 f) e w)) d0 (E0 i f0) C0 (fun _=>p0) n0 (fun e' w' h=>.inr (.inl ⟨by simp[p0],h⟩))
   ·exact one b0 c a (fun f e w=>(f a=false∧f c=false∧WN P r N l C pur n D (f7a a0 f) e w∧WN P r N l C pur n D (f7a b0 f) e w)∨(f a=true∧WN P r N l C pur n D (f7a a0 f) e w)∨(f c=true∧WN P r N l C pur n D (f7a b0 f) e w)) e0 (inB i f0) D0 (fun _=>y0) x0 (fun e' w' h=>.inr (.inr ⟨by simp[y0],h⟩))
  ·rintro f e w ⟨hz,j0,hM⟩ o0;have rA:f7a a0 f=[]:=by
    unfold f7a;rw[List.filter_eq_nil_iff];intro j hj;simp[o0 j (by simpa using List.all_eq_true.1 H0 j hj)]
   have rB:f7a b0 f=[]:=by
    unfold f7a;rw[List.filter_eq_nil_iff];intro j hj;simp[o0 j (by simpa using List.all_eq_true.1 I0 j hj)]
   rw[rA,rB] at hM;rcases hM with⟨_,_,h,_⟩|⟨_,h⟩|⟨_,h⟩
   ·exact h.2
   ·exact h.2
   ·exact h.2
 unfold W at *;intro a hs hd he;refine hz (fun i hi=>?_) a hs hd he;rw[←he];simp only[c1a,Array.getD_eq_getD_getElem?];rw[Array.getElem?_eq_none (by omega)];rfl
theorem M3d{id:Nat}{n t:List Deferred→Env→World→Prop}{b:Nat→List Deferred→Env→World→Prop}{e:Env}{w:World}(hm:P.follows .mixedOrders=true)(pur:Nat→Bool)(a c:Nat)(ix:List Nat)
 (hok:F9c l pur a c ix ix=true) (C:World→Prop) (h:WN P r N l C pur n D ix e w.drew):W P r N (.region id l.toArray true) ⟨n,b,t⟩ D e w:=K1d hm pur a c ix ix hok C h h
variable {e:Env} {w:World}
theorem v2c(hC:C w)(h:K D e w):WN P r N l C pur K D [] e w:=⟨hC,h⟩
theorem Z6a{i:Nat}{rest:List Nat}{o:Oper}(hC:C w)(ho:l[i]?=some o)(hp:pur i=true)(hv:Y3c o.op=true)(h:QL P N l.toArray C [o] (fun e'=>WN P r N l C pur K D rest e' w) e):WN P r N l C pur K D (i::rest) e w:=by
 unfold QL at h;obtain⟨pa,hl,hq,hk⟩:=h;obtain⟨d,v,h1,h2,h3,h4⟩:=hq 0 o Z;obtain rfl:pa=[(d,v)]:=by
  match pa,hl,h1 with
  | [x],_,h1=>simpa using h1
 refine⟨hC,o,ho,fun d' a0=>by rw[h2] at a0;cases a0;exact h3,.inl ⟨hp,d,v,h2,?_,hk⟩⟩;rcases h4 with⟨h5,h6⟩|h5
 ·refine .inl ⟨h5,fun w hw=>?_⟩;rcases h6 w hw with h7|⟨f,args,h7,_⟩
  ·exact h7
  ·obtain⟨_,hv'⟩:=v8a hv h7;cases hv'
 ·exact .inr h5
theorem Z5c{i:Nat}{rest:List Nat}{o:Oper}(hC:C w)(ho:l[i]?=some o)(hp:pur i=false)(hN:(o.dst.all fun d=>Nat.ble (d+1) N)=true)
 (h:WL P r N l.toArray [o] (fun D' e' w'=>D'=D∧WN P r N l C pur K D rest e' w') D e w):WN P r N l C pur K D (i::rest) e w :=
 ⟨hC,o,ho,fun d hd=>by rw[hd] at hN;exact Nat.le_of_ble_eq_true (by simpa using hN),.inr ⟨hp,h⟩⟩
end
theorem h8b{M:List Nat}{w:World}:B0a M w noC [.slice none 0 0,.slice none 0 0,.slice none 0 0]:=⟨_,_,_,Z,a2a,a2a,a2a⟩
theorem x5b{run:List d0a}{l:List E0a}{d:E0a}(h:l[0]?=some d):E4b run l 0=⟨-1,I2c,noC,d⟩:=by unfold E4b;rw[if_pos rfl,getD_some h]
theorem X8b{run:List d0a}{l:List E0a}{k:Nat}{x:d0a}{c d:E0a}(hx:run[((k:Int)-1).toNat]?=some x)(hc:l[((k:Int)-1).toNat]?=some c)(hd:l[k]?=some d)(h0:0<k:=by omega):E4b run l k=⟨(k:Int)-1,x,c,d⟩:=by
 have e:((k:Int)-1).toNat=k-1:=by omega
 rw[e] at hx hc;unfold E4b;rw[if_neg (by omega),getD_some hx,getD_some hc,getD_some hd]
def evL(cs:LV)(e:EvD)(xs ys:LV):LV:=cs++(.int .i64 e.at_::.int .i64 e.x.thread::.int .i64 e.x.step::.int .i64 e.x.cell::(xs++ys))
theorem K8b(p:g0a)(run:List d0a)(l:List E0a)(hok:∀i,i<l.length→s2b p (E4b run l i))(Q1:l.length≤run.length+1)(M:List Nat)(w0:World)(cs:LV)(vr vl:Value)(hI:InP p M w0 cs)(m0:z4a M w0 vr run)(hL:M2d M w0 vl l)(hl:l.length≤1000:=by omega):
 M0a prog 78 #[.agg cs.toArray,vr,vl] w0 fun v w'=>F9b M w' v (M4a p run l l.length)∧Bw w0 w':=by
 obtain⟨Ac,nc,cc,Am,nm,cm,Al,nl,cl,At,nt,ct,rfl,_⟩:=hI.rd.open_;obtain⟨Ar,nr,cr,rfl⟩:=m0.form;obtain⟨_,-,_⟩:=m0.len;obtain⟨Ax,nx,cx,rfl⟩:=hL.form;obtain⟨_,-,_⟩:=hL.len;have hp:=hI.ok;have S:=(St.refl w0).nilEnt 140;refine a0a func78 Z ntmps78 Z ?_;refine wO1 Z (i0a S Z ?_);intro g3 w3 S3 X3 G3;refine lO1 Z (y0a S3 T9c Z Z (V0c _) ?_);intro V1 m1 K1;refine m0a m1 j6c Z Z ?_;intro g8 w8 S8 X8 G8
 first|refine f0a (kk:=0) (vs:=[_,_,_,_,_]) S8 q6c Z Z Z Z Z Z Z ?_
 intro D1 t0 p1;dsimp only[o0a,List.set] at t0;refine lC1 Z (wL (fun μk D ε w=>D=[]∧∃k:Nat,∃G:Option Nat,∃A0:LV,∃v:Value,(k+μk=(l.length))∧(A1a (fun _ _=>Y4a) 5 [] w0 G A0 v (M4a p run l k))∧St [] w0 w [(some g8,204,T0d),(some g3,27,pL Ac nc cc Am nm cm Al nl cl At nt ct),(G,140,A0)]∧Sl ε [(1,.slice Ar nr cr),(2,.slice Ax nx cx),(3,.pointer (some ⟨g3,0,none⟩)),(7,v),(8,.pointer (some ⟨g8,0,none⟩)),(16,.slice Ax nx cx),(17,.int .i64 nx),(18,.int .i64 k)]) (μ:=(l.length)) ⟨Z,0,none,[],.slice none 0 0,by omega,A1a.nil,t0,Z⟩ ?_);rintro μk D ε w ⟨rfl,k,G,A0,v,_,D0,S,eZ⟩;refine wK eZ (wB1 Z (fun t1=>?_) fun t1=>?_)
 ·obtain⟨d,r1,C1,_,f1,Q0,_,W0,T0,n0⟩:=RdS.get (hL) (k) (by omega);obtain⟨s0,G0,z0,q0,E0,x0,r0,F0,y0,rfl,_⟩:=B0a.open_ n0;refine lO (S.k.a T0) [.x r1 C1,.v 0] Z ⟨⟨Z,W0⟩,⟨Q0,by omega⟩,U⟩ (m0a S t4a Z Z ?_);intro p0 U1 j1 J1 G1;refine lO1 Z ?_
  first|refine f0a (kk:=0) (vs:=[_,_,_]) j1 n2a Z Z Z Z Z Z Z ?_
  intro E1 j0 q1;dsimp only[o0a,List.set] at j0;refine lO j0.k [.w 2,.w 0] Z ⟨⟨Z,Z⟩,by omega,⟨Z,Z⟩,U⟩ (e1a g7c (vs:=[(0,.agg _),(1,.int .i64 _),(4,.agg _)]) (cs:=[_,_,_,_,_,_,_,_,_,_,_,_,_,_]) Z Z Z Z ?_);refine i0a j0 Z ?_;intro e0 H0 L0 M1 H1;refine lCn 8 L0.k [] Z U (wX (fun D ε w=>D=[]∧∃b:Nat,∃e0:Nat,∃p0:Nat,∃d1:LV,∃xs:LV,∃ys:LV,∃e:EvD,(E4b run l k=e)∧((b=3∧¬0≤e.at_)∨(b=0∧0≤e.at_))∧(B0a M w0 e.c xs)∧(B0a M w0 e.d ys)∧St [] w0 w [(some e0,208,evL (pL Ac nc cc Am nm cm Al nl cl At nt ct) e xs ys),(some p0,71,d1),(some g8,204,T0d),(some g3,27,pL Ac nc cc Am nm cm Al nl cl At nt ct),(G,140,A0)]∧Sl ε [(1,.slice Ar nr cr),(2,.slice Ax nx cx),(3,.pointer (some ⟨g3,0,none⟩)),(7,v),(8,.pointer (some ⟨g8,0,none⟩)),(11,.pointer (some ⟨e0,0,none⟩)),(12,.int .i64 b),(16,.slice Ax nx cx),(17,.int .i64 nx),(18,.int .i64 k)]) ?_ ?_)
  ·refine wB1 Z (fun u1=>?_) fun u1=>?_
   ·refine lC1 Z (M3d b0a (fun i=>[0,1,2,3,4,5,6,7,8,9,10,11,12,13,15,16].contains i) 14 17 [0,1,2,3,4,5,6,7,8,9,10,11,12,13,14,15,16,17] (by kernel_rfl) (fun w1=>St [] w0 w1 []∧A0a [e0] H0 w1) ?_);have c0:=L0.drew;have c1:A0a [] H0 H0.drew:=p2a _ _;generalize H0.drew=Y1 at c0 c1 ⊢;have d0:A0a ([e0]) _ _:=c1.of_nil;refine Z6a ⟨c0.nil,d0⟩ Z Z Z ?_;refine R0a Z ?_;refine e0a ?_;refine Z6a ⟨c0.nil,d0⟩ Z Z Z ?_;refine R0a Z ?_;refine e0a ?_;refine Z6a ⟨c0.nil,d0⟩ Z Z Z ?_;refine R0a Z ?_;refine e0a ?_;refine Z6a ⟨c0.nil,d0⟩ Z Z Z ?_;refine R0a (hv:=Z) (v:=.int .i64 _) Z ?_;refine e0a ?_;refine Z6a ⟨c0.nil,d0⟩ Z Z Z ?_;refine u1d Z Z iO Z ?_;refine e0a ?_;refine Z6a ⟨c0.nil,d0⟩ Z Z Z ?_;obtain⟨xx,_,_,_,Y0,_,R0,_,U0,X0⟩:=RdS.get (m0) (((k:Int)-1).toNat) (by omega);obtain⟨rfl,_⟩:=id X0;refine q0a K2a.slT Z (by assumption) Z Z ?_;refine e0a ?_;refine Z6a ⟨c0.nil,d0⟩ Z Z Z ?_;refine w1a y2b Z (fun w1 hw=>U0.keep (hw.1.keep0 _) R0) (by rfl) Z ?_;refine e0a ?_;refine Z6a ⟨c0.nil,d0⟩ Z Z Z ?_;refine R0a Z ?_;refine e0a ?_;refine Z6a ⟨c0.nil,d0⟩ Z Z Z ?_;refine R0a (hv:=Z) (v:=.int .i64 _) Z ?_;refine e0a ?_;refine Z6a ⟨c0.nil,d0⟩ Z Z Z ?_;refine u1d Z Z iO Z ?_;refine e0a ?_;refine Z6a ⟨c0.nil,d0⟩ Z Z Z ?_;obtain⟨c,_,_,_,z1,_,S0,_,V0,B0⟩:=RdS.get (hL) (((k:Int)-1).toNat) (by omega);obtain⟨K0,b1,P0,I0,Z0,N0,J0,a1,O0,rfl,_⟩:=B0a.open_ B0;refine q0a C5a.slT Z (by assumption) Z Z ?_;refine e0a ?_;refine Z6a ⟨c0.nil,d0⟩ Z Z Z ?_;refine w1a V0a Z (fun w1 hw=>V0.keep (hw.1.keep0 _) S0) (by rfl) Z ?_;refine e0a ?_;refine Z6a ⟨c0.nil,d0⟩ Z Z Z ?_;refine D3b Z Z ?_;refine e0a ?_;refine Z6a ⟨c0.nil,d0⟩ Z Z Z ?_;refine H0a P8b Z Z ?_;refine e0a ?_;refine Z5c ⟨c0.nil,d0⟩ Z Z Z ?_
    first|refine f0a (kk:=0) (vs:=[_,_,_]) c0 U2b Z Z Z Z Z Z Z ?_
    intro g1 b0 u0;dsimp only[o0a,List.set] at b0;have a0:=d0.trans (u0.mono (by simp));refine D0a ⟨Z,?_⟩;refine Z6a ⟨b0.nil,a0⟩ Z Z Z ?_;refine D3b Z Z ?_;refine e0a ?_;refine Z6a ⟨b0.nil,a0⟩ Z Z Z ?_;refine H0a H8b Z Z ?_;refine e0a ?_;refine Z5c ⟨b0.nil,a0⟩ Z Z Z ?_
    first|refine f0a (kk:=0) (vs:=[_,_,_]) b0 n2a Z Z Z Z Z Z Z ?_
    intro i1 f0 v0;dsimp only[o0a,List.set] at f0;have g0:=a0.trans (v0.mono (by simp));refine D0a ⟨Z,?_⟩;refine v2c ⟨f0.nil,g0⟩ ?_;refine fP0 Z U ?_;exact⟨Z,0,e0,p0,_,[.slice K0 b1 P0,.slice I0 Z0 N0,.slice J0 a1 O0],[.slice s0 G0 z0,.slice q0 E0 x0,.slice r0 F0 y0],⟨(k:Int)-1,xx,c,d⟩,X8b Y0 z1 f1,.inr ⟨Z,by show(0:Int)≤(k:Int)-1;omega⟩,B0,n0,f0,Z⟩
   refine lP0 Z U ?_;exact⟨Z,3,e0,p0,_,[.slice none 0 0,.slice none 0 0,.slice none 0 0],[.slice s0 G0 z0,.slice q0 E0 x0,.slice r0 F0 y0],⟨(k:Int)-1,I2c,noC,d⟩,(by(obtain rfl:k=0:=by omega);exact x5b f1),.inl ⟨Z,by show ¬(0:Int)≤(k:Int)-1;omega⟩,h8b,n0,L0,Z⟩
  rintro D ε w ⟨rfl,b,e0,p0,d1,xs,ys,e,he,hb,A1,B1,S,eZ⟩;refine wK eZ ?_;have y1:s2b p e:=he▸hok k (by omega);have P1:b<5:=by omega
  refine wO1 Z (E4c (lo:=b) Tryz.underlying204 (size:=1) (fun _=>by kernel_rfl) Z Z (by omega) Z ?_);refine lC1 Z (wL (fun μj D ε w=>D=[]∧∃j:Nat,∃G2:Option Nat,∃cs2:LV,∃v2:Value,(j+μj=(5-b))∧(A1a (fun _ _=>Y4a) 5 [] w0 G2 cs2 v2 (M4a p run l k++O4c p e b j))∧St [] w0 w [(some e0,208,evL (pL Ac nc cc Am nm cm Al nl cl At nt ct) e xs ys),(some p0,71,d1),(some g8,204,T0d),(some g3,27,pL Ac nc cc Am nm cm Al nl cl At nt ct),(G2,140,cs2)]∧Sl ε [(1,.slice Ar nr cr),(2,.slice Ax nx cx),(3,.pointer (some ⟨g3,0,none⟩)),(7,v2),(8,.pointer (some ⟨g8,0,none⟩)),(11,.pointer (some ⟨e0,0,none⟩)),(16,.slice Ax nx cx),(17,.int .i64 nx),(18,.int .i64 k),(48,.slice (some ⟨g8,0+b*1,none⟩) (5-b) (5-b)),(49,.int .i64 (5-b:Nat)),(50,.int .i64 j)]) (μ:=(5-b)) ⟨Z,0,G,A0,v,by omega,(by simpa[O4c] using D0),S,Z⟩ ?_);rintro μj D ε w ⟨rfl,j,G2,cs2,v2,_,i0,S,eZ⟩;refine wK eZ (wB1 Z (fun v1=>?_) fun v1=>?_)
  ·refine lO S.k [.i] Z ⟨by omega,U⟩ (v0a f1c Z (S.cell 2 Z (f1d (by omega))) Z ?_);refine lOn 4 S.k [] Z U (w0a Z ?_);refine lO1 Z ?_;have x1:n5b p e M w e0 (pL Ac nc cc Am nm cm Al nl cl At nt ct) xs ys:=⟨S.cells 0 Z,hI.keep (S.keep0 M),A1.keep (S.keep0 M),B1.keep (S.keep0 M),Y0a hI.lt (S.new 0 Z),y1⟩;refine S3c (f:=335) (vs:=[.pointer (some ⟨e0,0,none⟩)]) S Z (fun _ _=>by kernel_rfl) Z Z (i2c p e (b+j) (by omega) (fun h=>by omega) M _ e0 _ xs ys x1) ?_;rintro R1 W1 C0 n1 N1;obtain⟨_,_,_,rfl⟩:=C0.form;have l1:=N6a hp (run:=run) (l:=l) k;have l2:=n4c (e:=e) hp b j;have l3:=N3b (e:=e) hp (b+j);refine G3a o1a (M2:=[]) (k:=4) n1 s1a Z i0 Z Z C0 (by rw[List.length_append];omega) Z ?_;intro T1 I1 s1 X1 o1 o0 O1 F1;refine n0a Z ?_;refine lP1 Z ⟨μj-1,by omega,Z,j+1,_,_,_,by omega,?_,o1,Z⟩;rw[i3c,←List.append_assoc];exact o0
  refine lP1 Z ⟨μk-1,by omega,Z,k+1,_,_,_,by omega,?_,S.tail.tail,Z⟩;rw[E7a,he,←E5c hb,show 5-b=j by omega];exact i0
 refine lOn 8 S.k [] Z U (w0a Z ?_);refine n0a Z ?_;refine lR1 Z (t0a Z ?_);obtain rfl:k=l.length:=by omega
 have l1:=N6a hp (run:=run) (l:=l) l.length;exact⟨A1a.rd (M:=M) o1a D0 S (k:=2) Z (fun g hg=>by subst hg;exact Y0a hI.lt (S.new 2 Z)) (by omega),S.fin⟩
section
variable {p:g0a} {m:Int}
theorem E1d{run:List d0a}{i:Nat}(hi:i+1<(g3a p m run).length){c:E0a}(hc:(g3a p m run)[i]?=some c){x:d0a}(hx:run[i]?=some x):x∈P0a p m c∧(g3a p m run)[i+1]?=some (doC p m c x):=by
 by_cases h:x∈P0a p m c
 ·exact⟨h,T8a hc hx h⟩
 ·have:=z4b hc hx h;omega
theorem r3b(hp:q1a p):s2b p ⟨-1,I2c,noC,k1a p⟩ where
 lo:=by show(-1:Int)≤-1;omega
 hi:=by show(-1:Int)≤1000;omega
 d:=A9a hp
 c h:=by have:(0:Int)≤-1:=h;omega
 t h:=by have:(0:Int)≤-1:=h;omega
 s h:=by have:(0:Int)≤-1:=h;omega
 aw h:=by have:(0:Int)≤-1:=h;omega
 ci _:=⟨Z,Z⟩
theorem t1c(hp:q1a p){c:E0a}(hf:U5a p c){x:d0a}(hx:x∈P0a p m c){a:Int}(h0:0≤a:=by omega)(h1:a≤1000:=by omega):s2b p ⟨a,x,c,doC p m c x⟩:=by
 have g0:=Y5b hp hf hx;obtain⟨t,ht,h⟩:=Y1a.1 hx;have i0:x.thread=t:=by
  rcases h with⟨i,s,_,_,rfl⟩|⟨i,_,_,rfl⟩<;>rfl
 refine⟨by show -1≤a;omega,h1,g0,fun _=>hf,fun _=>?_,fun _=>?_,fun _=>?_,fun h=>?_⟩
 ·show 0≤x.thread∧x.thread<p.threads.length
  omega
 ·show x.step=-1∨(0≤x.step∧x.step<(f3a p x.thread.toNat).length)
  rcases h with⟨i,s,hs,_,rfl⟩|⟨i,_,_,rfl⟩
  ·right;have:=m1a hs;show 0≤(i:Int)∧(i:Int)<(f3a p ((t:Nat):Int).toNat).length;simp only[Int.toNat_natCast];omega
  ·left;rfl
 ·show(doC p m c x).at_.getD x.thread.toNat 0≠-1
  have e0:p.threads[t]?=some p.threads[t]:=List.getElem?_eq_getElem ht;have a0:t<c.at_.length:=by rw[hf.nat];exact ht
  rw[i0,Int.toNat_natCast];rcases h with⟨i,s,hs,he,rfl⟩|⟨i,hi,_,rfl⟩
  ·have d0:=hs;rw[Q1a e0] at d0;have b0:=(hp.thread e0).steps s (c0a d0);rw[v8b hs];have e1:(i7a p m c t s).at_=atC c t s:=by unfold i7a;split<;>rfl
   rw[e1];unfold atC
   split
   ·rename_i hk;have j0:=(b0.row.k6 (by omega)).2;have h2:=(b0.row.k6 (by omega)).1;unfold M1a at h2;rw[List.getD_eq_getElem?_getD,List.getElem?_set_ne (by omega),List.getElem?_set_self a0];have:=b0.to;simp;omega
   ·rw[List.getD_eq_getElem?_getD,List.getElem?_set_self a0];have:=b0.to;simp;omega
  ·intro c0;have f0:t<c.buf.length:=by rw[hf.nbuf];exact ht
   have hb:c.buf[t]?=some c.buf[t]:=List.getElem?_eq_getElem f0;have e1:(doC p m c ⟨t,-1,((c.buf.getD t []).getD i ⟨[],[]⟩).cells.getD 0 0⟩).at_=c.at_:=by unfold doC;rw[if_pos rfl];rfl
   rw[e1] at c0;have h1:c.at_[t]?=some (-1):=by
    rw[List.getElem?_eq_getElem a0];rw[List.getD_eq_getElem?_getD,List.getElem?_eq_getElem a0] at c0;simpa using c0
   have h2:=(hf.bufs t _ hb).2.2 h1;rw[List.getD_eq_getElem?_getD,hb] at hi;simp[h2] at hi
 ·have:a=-1:=h;omega
theorem d9b(hp:q1a p){run:List d0a}(i:Nat)(hi:i<(g3a p m run).length)(hlen:run.length≤500:=by omega):s2b p (E4b run (g3a p m run) i):=by
 have a0:=o5a p m run;cases i with
 | zero =>
   have h0:(g3a p m run)[0]?=some (k1a p):=Z;have:E4b run (g3a p m run) 0=⟨-1,I2c,noC,k1a p⟩:=by unfold E4b;rw[if_pos rfl,getD_some h0]
   rw[this];exact r3b hp
 | succ i =>
   have hc:(g3a p m run)[i]?=some (g3a p m run)[i]:=List.getElem?_eq_getElem (by omega);have hx:run[i]?=some run[i]:=List.getElem?_eq_getElem (by omega);obtain⟨h1,h2⟩:=E1d hi hc hx;have hg:=(d9a (m:=m) hp (List.mem_of_getElem? hc)).1;have:E4b run (g3a p m run) (i+1)=⟨(i:Int),run[i],(g3a p m run)[i],doC p m (g3a p m run)[i] run[i]⟩:=by
    unfold E4b;rw[if_neg (by omega),Nat.add_sub_cancel,getD_some hx,getD_some hc,getD_some h2]
    congr 1
    omega
   rw[this];exact t1c hp hg h1
theorem N7b(run:List d0a):s7b p m run=0∨s7b p m run=110:=by unfold s7b;split<;>simp
end
theorem r6b(p:g0a)(m:Int)(hm:m=0∨m=1∨m=2)(run:List d0a)(M:List Nat)(w0:World)(cs:LV)(vr:Value)(hI:InP p M w0 cs)(a0:z4a M w0 vr run)(hlen:run.length≤120):
 M0a prog 37 #[.agg cs.toArray,.int .i64 m,vr] w0 fun v w'=>(∃vl,v=.tuple #[vl,.int .i64 (s7b p m run)]∧F9b M w' vl (Z4a p m run))∧Bw w0 w':=by
 obtain⟨_,_,_,_,_,_,_,_,_,_,_,_,rfl,_⟩:=hI.rd.open_;obtain⟨_,_,_,rfl⟩:=a0.form;have hp:=hI.ok;have S:=St.refl w0;have e0:=o5a p m run;have o0:=N7b (p:=p) (m:=m) run;refine a0a func37 Z ntmps37 Z ?_;refine wO1 Z (i0a S Z ?_);intro g3 w3 S3 X3 G3;refine lO S3.k [.w 0] Z ⟨⟨Z,Z⟩,U⟩ (s0a S3 b6c Z Z (w2d p m hm run M _ _ _ (hI.keep (S3.keep0 M)) (a0.keep (S3.keep0 M)) hlen) ?_);rintro p0 j0 ⟨vl,rfl,hL⟩ b0 n0;have KL:=A0a.refl [] j0;obtain⟨_,_,_,rfl⟩:=hL.form;refine lB1 Z (fun f0=>?_) fun f0=>?_
 ·refine lB1 Z (fun g0=>by exfalso;omega) fun g0=>?_;refine lO b0.k [.w 0] Z ⟨⟨Z,Z⟩,U⟩ (s0a b0 C6c Z Z (K8b p run (g3a p m run) (d9b hp) e0 M _ _ _ _ (hI.keep (b0.keep0 M)) (a0.keep (b0.keep0 M)) (RdS.keepW hL KL.of_nil (P4a.keep KL.of_nil))) ?_);rintro i0 m0 hV c0 d0;replace KL:=KL.trans d0;refine lOn 1 c0.k [] Z U (n0a Z ?_);exact lT1 Z Z ⟨⟨_,Z,hV⟩,c0.fin⟩
 refine lO b0.k [.w 0] Z ⟨⟨Z,Z⟩,U⟩ (s0a b0 C6c Z Z (K8b p run (g3a p m run) (d9b hp) e0 M _ _ _ _ (hI.keep (b0.keep0 M)) (a0.keep (b0.keep0 M)) (RdS.keepW hL KL.of_nil (P4a.keep KL.of_nil))) ?_);rintro i0 m0 hV c0 d0;refine lOn 1 c0.k [] Z U (n0a Z ?_);exact lT1 Z Z ⟨⟨_,Z,hV⟩,c0.fin⟩
section
variable {P:Program} {r:Option Nat} {N:Nat} {D:List Deferred} {e:Env} {w:World}
theorem U1c{l p N:Nat}{rc:Loop}{x:Value}{a0 body:Code}{R:Value→World→Prop}(hl:w.heap[l]?=some (.loop rc))(hr:rc.state=.ready)(hN:rc.tmps.size=N)(f0:c1a { tmps:=rc.tmps,defers:=[] }=e)(b0:rc.params=#[p])(d0:rc.assign=a0)(e0:rc.body=body)(hp:Nat.ble (p+1) N=true)
 (h:W P (some l) N a0 ⟨fun D e w1=>w1.heap[l]?=some (.loop rc) ∧
   W P (some l) N body ⟨fun _ _ w3=>r6a l none R w3,fun id _ _ w3=>r6a l (some (.exit id)) R w3,fun _ _ w3=>r6a l (some .ret) R w3⟩ D e (w1.putObj l (.loop { rc with state:=.busy })),
   fun _ _ _ _=>False,fun _ _ _=>False⟩ [] (upd e p x) w):Yld P l #[x] w R:=by
 subst f0 d0 e0;have i0:=Nat.le_of_ble_eq_true hp;refine⟨rc,hl,by simp[b0],?_⟩;have hz:(rc.params.zip #[x]).foldl (fun tmps (t,a)=>tmps.setIfInBounds t a) rc.tmps=rc.tmps.setIfInBounds p x:=by rw[b0];simp
 rw[hz];refine roundIn_of_wpIn (F:=Fence.wide) trivial ?_;unfold W at h;have he:c1a { tmps:=rc.tmps.setIfInBounds p x,defers:=[] }=upd (c1a { tmps:=rc.tmps,defers:=[] }) p x:=by
  have h1:=v1a (a:={ tmps:=rc.tmps,defers:=[] }) (d:=p) x (by simp;omega);simp only[Act.put] at h1;rw[←h1]
 refine wpIn_mono (h { tmps:=rc.tmps.setIfInBounds p x,defers:=[] } (by simp[hN]) Z he) fun ex a w1 hq=>?_;cases ex with
 | normal =>
   obtain⟨hs,g0,hb⟩:=hq;refine⟨_,run_beginRound g0 hr,wpIn_mono (hb a hs Z Z) fun ex a w3 hq=>?_⟩;cases ex with
   | normal=>obtain⟨_,c0,h3,hR⟩:=hq;exact⟨_,_,run_endRound none h3,_,Z,hR⟩
   | ret=>obtain⟨_,c0,h3,hR⟩:=hq;exact⟨_,_,run_endRound (some .ret) h3,_,Z,hR⟩
   | exit id=>obtain⟨_,c0,h3,hR⟩:=hq;exact⟨_,_,run_endRound (some (.exit id)) h3,_,Z,hR⟩
   | goto l=>exact hq.elim
   | panic c=>exact hq.elim
   | outgrown=>exact hq.elim
 | exit id=>exact hq.2
 | ret=>exact hq.2
 | goto l=>exact hq.elim
 | panic c=>exact hq.elim
 | outgrown=>exact hq.elim
end
section
variable {P:Program} {r:Option Nat} {N:Nat} {ops:Array Oper} {rest:List Oper} {C:World→Prop} {KQ:Env→Prop} {K:List Deferred→Env→World→Prop} {D:List Deferred} {e:Env} {w:World} {d:Nat} {t:TypeId} {p:String} {af:Array Edge} {x y:Operand} {yt:TypeId}
def M7c(v:o6a):Value:=.agg #[.int .i64 v.at_,.int .i64 v.kind,.int .i64 v.module_,.int .i64 v.thread,.int .i64 v.item]
def k5c(P:Program)(ty:TypeId):Prop:=P.eqGuardType P.depth ty=false∧∀(w:World) (a b:o6a),(binOp .eql ty (M7c a) (M7c b)).run P w=.ok (.bool (decide (a=b))) w
theorem k5c.neq{ty:TypeId}(hE:k5c P ty)(w:World)(a b:o6a):(binOp .neq ty (M7c a) (M7c b)).run P w=.ok (.bool (!decide (a=b))) w:=by
 have:=hE.2 w a b;unfold M7c at this ⊢;rw[run_eql_struct] at this;rw[run_neq_struct]
 revert this
 generalize (Op.equalIn 10000 ty _ _).run P w=a0;intro this;cases a0 with
 | ok z w'=>simp only[Result.andThen_ok] at this ⊢;cases this;rfl
 | halt z w'=>simp[Result.andThen] at this
theorem k5c.guard{ty:TypeId}(hE:k5c P ty)(w:World)(op:BinOp)(x y:Operand)(a b:o6a):(eqGuard op ty x y (M7c a) (M7c b)).run P w=.ok () w:=run_eqGuard_agg w _ _ _ _ _ _ hE.1
end
section
variable {p:g0a} {m:Int}
theorem v1b:∀(run:List d0a) (c:E0a) (k:Nat),B4a p m c (run.take k)=(B4a p m c run).take k
 | [],c,k=>by simp[B4a]
 | x::l,c,0=>by simp[B4a]
 | x::l,c,k+1=>by
   rw[List.take_succ_cons];by_cases hx:x∈P0a p m c
   ·rw[B4a,if_pos hx,B4a,if_pos hx,List.take_succ_cons,v1b l _ k]
   ·rw[B4a,if_neg hx,B4a,if_neg hx];rfl
theorem P3b(run:List d0a)(k:Nat):g3a p m (run.take k)=(g3a p m run).take (k+1):=by
 unfold g3a;rw[List.take_succ_cons,v1b]
theorem z6b{c:Prop}[Decidable c]{x v:o6a}(h:v∈(if c then[x] else[])):c∧v=x:=by
 split at h
 ·rename_i hc;exact⟨hc,by simpa using h⟩
 ·cases h
theorem X9b{e:EvD}{v:o6a}(h:v∈Z1a p e):(e.still=true∧J9a p (sOf p e)=true)∧v=M1b p e 4:=z6b h
theorem v3c{e:EvD}{v:o6a}(h:v∈X2a p e):(e.still=true∧T7b p e=false)∧v=M1b p e 3:=z6b h
theorem J2c{e:EvD}{v:o6a}(h:v∈h7a p e):e.still=true∧Z1a p e=[]∧X2a p e=[]∧∃t,t<p.threads.length∧v∈t1b p e t:=by
 unfold h7a at h
 split at h
 ·rename_i hc;unfold j4a at h;obtain⟨t,ht,h⟩:=List.mem_flatMap.1 h;exact⟨hc.1,hc.2.1,hc.2.2,t,List.mem_range.1 ht,h⟩
 ·cases h
theorem P1c{e:EvD}{t:Nat}{v:o6a}(h:v∈t1b p e t):(t:Int)≠e.x.thread∧e.c.at_.getD t 0≠-1∧(F5b p ((L0b p t).modules.getD (e.c.at_.getD t 0).toNat 0)).rely.evl e.c.mem e.d.mem=0 ∧
 v=⟨e.at_,5,(L0b p t).modules.getD (e.c.at_.getD t 0).toNat 0,t,e.c.at_.getD t 0⟩:=by
 unfold t1b at h
 split at h
 ·cases h
 ·rename_i h1
  split at h
  ·rename_i h2;exact⟨fun hh=>h1 (.inl hh),fun hh=>h1 (.inr hh),h2.2,by simpa using h⟩
  ·cases h
theorem u0c{e:EvD}{v:o6a}(h:v∈I5a p e):w3a e.d=true∧∃(i:Nat) (l:m0b),p.locks[i]?=some l∧e.d.mem.getD l.cell.toNat 0=0∧l.inv.evl e.d.mem e.d.mem=0∧v=⟨e.at_,2,x1b p e l,if 0≤e.at_ then e.x.thread else -1,i⟩:=by
 unfold I5a at h
 split at h
 ·rename_i hc;unfold P3a at h;obtain⟨i,_,h⟩:=List.mem_flatMap.1 h;refine⟨hc,i,?_⟩;unfold p8a at h
  split at h
  ·rename_i l hl
   split at h
   ·cases h
   ·rename_i h1;simp only[not_or,Decidable.not_not] at h1;exact⟨l,hl,h1.1,h1.2,by simpa using h⟩
  ·cases h
 ·cases h
theorem G5b{e:EvD}{v:o6a}(h:v∈a3a p e):w3a e.d=true∧∃t:Nat,t<p.threads.length∧e.d.at_.getD t 0≠-1∧((L0b p t).asserts.getD (e.d.at_.getD t 0).toNat noE).evl e.d.mem e.d.mem=0 ∧
 v=⟨e.at_,1,M8a p e t,t,e.d.at_.getD t 0⟩:=by
 unfold a3a at h
 split at h
 ·rename_i hc;unfold r2a at h;obtain⟨t,ht,h⟩:=List.mem_flatMap.1 h;refine⟨hc,t,List.mem_range.1 ht,?_⟩;unfold Y2a at h
  split at h
  ·cases h
  ·rename_i h1;simp only[not_or,Decidable.not_not] at h1;exact⟨h1.1,h1.2,by simpa using h⟩
 ·cases h
theorem N9b{e:EvD}{v:o6a}(h:v∈k4a p e):(0≤e.at_∧(v∈Z1a p e∨v∈X2a p e∨v∈h7a p e))∨v∈I5a p e∨v∈a3a p e:=by
 unfold k4a at h;rw[List.mem_append,List.mem_append] at h;rcases h with h|h
 ·split at h
  ·rename_i h0;rw[List.mem_append,List.mem_append] at h;exact .inl ⟨h0,h⟩
  ·cases h
 ·exact .inr h
theorem e2b{e:EvD}{v:o6a}(h:v∈k4a p e):v.at_=e.at_:=by
 rcases N9b h with⟨_,h|h|h⟩|h|h
 ·rw[(X9b h).2];rfl
 ·rw[(v3c h).2];rfl
 ·obtain⟨_,_,_,t,_,h⟩:=J2c h;rw[(P1c h).2.2.2]
 ·obtain⟨_,_,_,_,_,_,rfl⟩:=u0c h;rfl
 ·obtain⟨_,t,_,_,_,rfl⟩:=G5b h;rfl
theorem Q7b(run:List d0a)(l:List E0a)(i:Nat):(E4b run l i).at_=(i:Int)-1:=by
 unfold E4b
 split
 ·rename_i h;subst h;rfl
 ·rfl
theorem q2c(run:List d0a)(l:List E0a){k i:Nat}(h:i<k+1):E4b (run.take k) (l.take (k+1)) i=E4b run l i:=by
 unfold E4b
 split
 ·simp[List.getD_eq_getElem?_getD]
 ·rename_i h0;have h1:i-1<k:=by omega
  have h2:i-1<k+1:=by omega
  simp only[List.getD_eq_getElem?_getD,List.getElem?_take,h,h1,h2,if_true]
theorem r1b{f:Nat→List o6a}{q:o6a→Bool}{k:Nat}(h1:∀i,i<k→∀v∈f i,q v=true)(h2:∀i,k≤i→∀v∈f i,q v=false):∀n,((List.range n).flatMap f).filter q=(List.range (min k n)).flatMap f
 | 0=>by simp
 | n+1=>by
   rw[List.range_succ,List.flatMap_append,List.filter_append,r1b h1 h2 n];have e1:List.flatMap f [n]=f n:=by simp
   rw[e1];by_cases h:n<k
   ·rw[List.filter_eq_self.2 (h1 n h),show min k n=n by omega,show min k (n+1)=n+1 by omega,List.range_succ,List.flatMap_append,e1]
   ·have:(f n).filter q=[]:=by
     rw[List.filter_eq_nil_iff];intro v hv;rw[h2 n (by omega) v hv];simp
    rw[this,show min k n=k by omega,show min k (n+1)=k by omega,List.append_nil]
theorem t3b{f g:Nat→List o6a}:∀n,(∀i,i<n→f i=g i)→(List.range n).flatMap f=(List.range n).flatMap g
 | 0,_=>rfl
 | n+1,h=>by
   rw[List.range_succ,List.flatMap_append,List.flatMap_append,t3b n (fun i hi=>h i (by omega))];simp[h n (by omega)]
theorem T6b(run:List d0a)(k:Nat):Z4a p m (run.take k)=(Z4a p m run).filter fun v=>decide (v.at_<(k:Int)):=by
 unfold Z4a M4a;rw[r1b (k:=k+1) (fun i hi v hv=>?_) (fun i hi v hv=>?_),P3b,List.length_take]
 ·exact t3b _ fun i hi=>by rw[q2c _ _ (by omega)]
 ·rw[e2b hv,Q7b];exact decide_eq_true (by omega)
 ·rw[e2b hv,Q7b];exact decide_eq_false (by omega)
end
def woR(i j:Nat):Nat→List d0a→List d0a
 | _,[]=>[]
 | k,x::l=>if k≠i∧k≠j then x::woR i j (k+1) l else woR i j (k+1) l
abbrev wo(run:List d0a)(i j:Nat):List d0a:=woR i j 0 run
theorem T3b{i j:Nat}(x:d0a):∀(l:List d0a) (k:Nat),woR i j k (l++[x])=woR i j k l++(if k+l.length≠i∧k+l.length≠j then[x] else[])
 | [],k=>by
   simp only[List.nil_append,woR,List.length_nil,Nat.add_zero]
 | y::l,k=>by
   simp only[List.cons_append,woR,T3b x l (k+1),List.length_cons];rw[show k+1+l.length=k+(l.length+1) by omega]
   split<;>rfl
theorem e6c{run:List d0a}{i j k:Nat}{x:d0a}(hx:run[k]?=some x)(h:k≠i∧k≠j):wo (run.take (k+1)) i j=wo (run.take k) i j++[x]:=by
 have hk:=m1a hx;rw[List.take_add_one,hx];show woR i j 0 (run.take k++[x])=_;rw[T3b,List.length_take,Nat.zero_add,Nat.min_eq_left (by omega),if_pos h]
theorem j5c{run:List d0a}{i j k:Nat}{x:d0a}(hx:run[k]?=some x)(h:k=i∨k=j:=by omega):wo (run.take (k+1)) i j=wo (run.take k) i j:=by
 have hk:=m1a hx;rw[List.take_add_one,hx];show woR i j 0 (run.take k++[x])=_;rw[T3b,List.length_take,Nat.zero_add,Nat.min_eq_left (by omega),if_neg (by omega),List.append_nil]
theorem A8b{i j:Nat}:∀(l:List d0a) (k:Nat),i<k→k≤j→woR i j k l=l.eraseIdx (j-k)
 | [],k,_,_=>by simp[woR]
 | x::l,k,h1,h2=>by
   unfold woR;by_cases h:k=j
   ·subst h;rw[if_neg (by omega),Nat.sub_self,List.eraseIdx_cons_zero];have:∀(l:List d0a) (q:Nat),i<q→k<q→woR i k q l=l:=by
     intro l
     induction l with
     | nil=>intro q _ _;rfl
     | cons y l ih=>intro q g1 g2;unfold woR;rw[if_pos (by omega),ih (q+1) (by omega) (by omega)]
    exact this l (k+1) (by omega) (by omega)
   ·rw[if_pos (by omega),A8b l (k+1) (by omega) (by omega),show j-k=(j-(k+1))+1 by omega,List.eraseIdx_cons_succ]
theorem W1c{i:Nat}:∀(l:List d0a) (k:Nat),k≤i→woR i i k l=l.eraseIdx (i-k)
 | [],k,_=>by simp[woR]
 | x::l,k,h2=>by
   unfold woR;by_cases h:k=i
   ·subst h;rw[if_neg (by omega),Nat.sub_self,List.eraseIdx_cons_zero];have:∀(l:List d0a) (q:Nat),k<q→woR k k q l=l:=by
     intro l
     induction l with
     | nil=>intro q _;rfl
     | cons y l ih=>intro q g1;unfold woR;rw[if_pos (by omega),ih (q+1) (by omega)]
    exact this l (k+1) (by omega)
   ·rw[if_pos (by omega),W1c l (k+1) (by omega),show i-k=(i-(k+1))+1 by omega,List.eraseIdx_cons_succ]
theorem D3c{i j:Nat}:∀(l:List d0a) (k:Nat),k≤i→i<j→woR i j k l=(l.eraseIdx (i-k)).eraseIdx (j-1-k)
 | [],k,_,_=>by simp[woR]
 | x::l,k,h1,h2=>by
   unfold woR;by_cases h:k=i
   ·subst h;rw[if_neg (by omega),Nat.sub_self,List.eraseIdx_cons_zero,A8b l (k+1) (by omega) (by omega),show j-(k+1)=j-1-k by omega]
   ·rw[if_pos (by omega),D3c l (k+1) (by omega) h2,show i-k=(i-(k+1))+1 by omega,List.eraseIdx_cons_succ,show j-1-k=(j-1-(k+1))+1 by omega,List.eraseIdx_cons_succ]
theorem Y0d(run:List d0a)(i:Nat):wo run i i=run.eraseIdx i:=W1c run 0 (Nat.zero_le _)
theorem o1d(run:List d0a){i j:Nat}(h:i<j):wo run i j=(run.eraseIdx i).eraseIdx (j-1):=D3c run 0 (Nat.zero_le _) h
theorem I1d(run:List d0a){i j:Nat}(hi:i<run.length)(h:i≤j):(wo run i j).length<run.length:=by
 rcases Nat.lt_or_eq_of_le h with h|rfl
 ·rw[o1d run h];have h1:=List.length_eraseIdx_le (run.eraseIdx i) (j-1);have h2:=List.length_eraseIdx_of_lt hi;omega
 ·rw[Y0d,List.length_eraseIdx_of_lt hi];omega
def N2b(run:List d0a)(i j:Nat):Bool:=match run[i]?,run[j]? with
 | some x,some y=>decide (x.thread=y.thread∧x.step≠-1∧y.step=-1)
 | _,_=>false
def t0c(run:List d0a)(k:Nat):List (List d0a):=(List.range k).map fun i=>wo run i i
def m5b(run:List d0a)(i k:Nat):List (List d0a):=((List.range k).filter fun j=>decide (i<j)&&N2b run i j).map fun j=>wo run i j
def r5b(run:List d0a)(k:Nat):List (List d0a):=(List.range k).flatMap fun i=>m5b run i run.length
def j7a(run:List d0a):List (List d0a):=t0c run run.length++r5b run run.length
theorem p2b(run:List d0a)(k:Nat):t0c run (k+1)=t0c run k++[wo run k k]:=by simp[t0c,List.range_succ]
theorem J7a(run:List d0a)(k:Nat):r5b run (k+1)=r5b run k++m5b run k run.length:=by simp[r5b,List.range_succ]
theorem c1b{run:List d0a}{i k:Nat}(h:i<k)(hp:N2b run i k=true):m5b run i (k+1)=m5b run i k++[wo run i k]:=by
 unfold m5b;rw[List.range_succ,List.filter_append];simp[h,hp]
theorem I8a{run:List d0a}{i k:Nat}(hp:N2b run i k=false):m5b run i (k+1)=m5b run i k:=by
 unfold m5b;rw[List.range_succ,List.filter_append];simp[hp]
theorem w4b{run:List d0a}{i k:Nat}(h:k≤i+1):m5b run i k=[]:=by
 unfold m5b;rw[List.map_eq_nil_iff,List.filter_eq_nil_iff];intro j hj;rw[List.mem_range] at hj;simp;intro h;omega
theorem g5c{run r:List d0a}(h:r∈j7a run):∃i j,i≤j∧i<run.length∧r=wo run i j∧(i=j∨i<j∧j<run.length∧N2b run i j=true):=by
 unfold j7a at h;rcases List.mem_append.1 h with h|h
 ·obtain⟨i,hi,rfl⟩:=List.mem_map.1 h;exact⟨i,i,Nat.le_refl _,List.mem_range.1 hi,Z,.inl Z⟩
 ·obtain⟨i,hi,h⟩:=List.mem_flatMap.1 h;obtain⟨j,hj,rfl⟩:=List.mem_map.1 h;obtain⟨h1,h2⟩:=List.mem_filter.1 hj;simp only[Bool.and_eq_true,decide_eq_true_eq] at h2;exact⟨i,j,by omega,List.mem_range.1 hi,Z,.inr ⟨h2.1,List.mem_range.1 h1,h2.2⟩⟩
theorem U8a{run r:List d0a}(h:r∈j7a run):r.length<run.length:=by
 obtain⟨_,_,h1,h2,rfl,_⟩:=g5c h;exact I1d run h2 h1
section
variable (p:g0a) (m:Int)
def I2a(run:List d0a):Option (List d0a):=match Z4a p m run with
 | []=>none
 | v::_=>some (run.take (v.at_+1).toNat)
def E3b(c:List d0a):Option (List d0a):=(j7a c).findSome? (I2a p m)
def X2b:Nat→List d0a→List d0a
 | 0,c=>c
 | n+1,c=>match E3b p m c with
   | some d=>X2b n d
   | none=>c
def R2a(run:List d0a):Option (List d0a):=(I2a p m run).map fun c=>X2b p m c.length c
def V6b(run:List d0a):Bool:=decide (I2a p m run=some run)&&(E3b p m run).isNone
end
section
variable {p:g0a} {m:Int}
theorem U4b{run:List d0a}{v:o6a}(h:v∈Z4a p m run):-1≤v.at_∧v.at_+1<(g3a p m run).length:=by
 unfold Z4a M4a at h;obtain⟨_,hi,h⟩:=List.mem_flatMap.1 h;rw[List.mem_range] at hi;rw[e2b h,Q7b];omega
structure D1d (p:g0a) (m:Int) (run d:List d0a):Prop where
 pre:d=run.take d.length
 len:d.length≤run.length
 first:∃v l,Z4a p m d=v::l∧v.at_+1=d.length
 full:(g3a p m d).length=d.length+1
 again:I2a p m d=some d
theorem L7a{run:List d0a}:I2a p m run=none↔Z4a p m run=[]:=by
 unfold I2a;split
 ·rename_i h;simp[h]
 ·rename_i h;simp[h]
theorem j4b{run d:List d0a}(h:I2a p m run=some d):D1d p m run d:=by
 unfold I2a at h
 split at h
 ·cases h
 ·rename_i v l hw;have hv:=U4b (p:=p) (m:=m) (run:=run) (v:=v) (by rw[hw];simp);have c0:=o5a p m run;obtain⟨n,hn⟩:∃n:Nat,v.at_+1=n:=⟨(v.at_+1).toNat,by omega⟩;have hd:d=run.take n:=by rw[hn] at h;simpa using h.symm
  have b0:d.length=n:=by rw[hd,List.length_take];omega
  have a0:Z4a p m d=v::l.filter (fun v=>decide (v.at_<(n:Int))):=by
   rw[hd,T6b,hw];exact List.filter_cons_of_pos (p:=fun(v:o6a)=>decide (v.at_<(n:Int))) (decide_eq_true (by omega))
  refine⟨by rw[b0];exact hd,by omega,⟨v,_,a0,by omega⟩,?_,?_⟩
  ·rw[hd,P3b,List.length_take,List.length_take];omega
  ·unfold I2a;rw[a0];show some (d.take (v.at_+1).toNat)=some d;rw[List.take_of_length_le (by omega)]
theorem M3c{c d:List d0a}(h:E3b p m c=some d):∃r∈j7a c,I2a p m r=some d:=List.exists_of_findSome?_eq_some h
theorem a9a{c:List d0a}:E3b p m c=none↔∀r∈j7a c,I2a p m r=none:=by
 unfold E3b;rw[List.findSome?_eq_none_iff]
theorem F9a{c d:List d0a}(h:E3b p m c=some d):d.length<c.length:=by
 obtain⟨_,hr,h⟩:=M3c h;have h1:=(j4b h).len;have h2:=U8a hr;omega
theorem v2b{c:List d0a}(h:E3b p m c=none):∀n,X2b p m n c=c
 | 0=>rfl
 | n+1=>by unfold X2b;rw[h]
theorem d1c{c d:List d0a}(h:E3b p m c=some d)(n:Nat):X2b p m (n+1) c=X2b p m n d:=by rw[X2b,h]
theorem q5b:∀(n k:Nat) (c:List d0a),c.length≤n→X2b p m (n+k) c=X2b p m n c
 | 0,k,c,h=>by
   obtain rfl:c=[]:=List.length_eq_zero_iff.1 (by omega);exact v2b (a9a.2 fun r hr=>absurd (U8a hr) (by simp)) _
 | n+1,k,c,h=>by
   rw[show n+1+k=(n+k)+1 by omega];unfold X2b;split
   ·rename_i d hd;have:=F9a hd;exact q5b n k d (by omega)
   ·rfl
theorem m2c{n:Nat}{c:List d0a}(h:c.length≤n):X2b p m n c=X2b p m c.length c:=by
 have:=q5b (p:=p) (m:=m) c.length (n-c.length) c (Nat.le_refl _)
 rwa [show c.length+(n-c.length)=n by omega] at this
theorem f6c{run:List d0a}(h:Z4a p m run=[]):V6b p m run=false:=by
 unfold V6b;rw[L7a.2 h];rfl
end
section
variable {P:Program} {r:Option Nat} {N:Nat} {D:List Deferred} {e:Env} {w:World}
variable {ops:Array Oper} {rest:List Oper} {K:List Deferred→Env→World→Prop} {d:Nat} {t:TypeId} {p:String} {af:Array Edge} {x y:Operand} {kd:IntKind}
theorem H0c{ty size k c n:Nat}{A:Option Addr}{xh xm:Operand}(hT:SlT P ty size)(hx:ev e x=.slice A n c)(hy:ev e xh=.int kd (k:Int))(hm:ev e xm=.int kd (k:Int))(h1:k≤c)(hd:Nat.ble (d+1) N=true)(h:WL P r N ops rest K D (upd e d (.slice A k k)) w):
 WL P r N ops (⟨some d,.slice ty x none (some xh) (some xm),t,p,af,none⟩::rest) K D e w:=by
 obtain⟨_,hu,b0⟩:=y4a hT;have e2:(0:Int)≤(k:Int)∧(k:Int)≤(c:Int):=by omega
 have e3:A.map (·.add 0)=A:=by cases A<;>simp[Addr.add_zero']
 have a0:(Instr.slice ty (.slice A n c) none (some (.int kd (k:Int))) (some (.int kd (k:Int)))).run P w=.ok (.slice A k k) w:=by
  by_cases hk:k=0
  ·subst hk;simp[Instr.slice,Instr.sliceBounds,Instr.sliceBound,asIntOf,run_underlying hu,b0]
  ·simp[Instr.slice,Instr.sliceBounds,Instr.sliceBound,asIntOf,run_underlying hu,b0,e2,e3,h1]
 refine y1a Z Z hd ?_ h;simp only[execOp,Instr.sliceAt,Sem.run_bind,run_underlying hu,Result.andThen_ok,hx,hy,hm,Option.map_none,Option.map_some,a0,Sem.run_pure]
theorem K5b{g:Operand}{ps:Array Tmp}{a0 body:Code}{id:Nat}{f:FuncId}{caps:Array Value}{vs:Value→Array Value}{n t:List Deferred→Env→World→Prop}{b:Nat→List Deferred→Env→World→Prop}
 (hH:Has P f) (hg:ev e g=.func (.func f) #[] caps) (q0:∀y,#[y]++caps=vs y)
 (h:∀(rc:Loop) (wi:World),rc.state=.ready→rc.pending=none→rc.tmps.size=N→c1a { tmps:=rc.tmps,defers:=[] }=e→rc.params=ps→rc.assign=a0→rc.body=body →
   wi.heap[w.heap.size]?=some (.deferred (some []))→wi.heap[w.heap.size+1]?=some (.loop rc)→Below w.heap.size w wi→wi.heap.size=w.heap.size+2 →
   M0a P f (vs (.func (.yield (w.heap.size+1)) #[] #[])) wi fun _ w3 =>
    ∃rc:Loop,w3.heap[w.heap.size+1]?=some (.loop rc)∧rc.state≠.busy ∧
     (((rc.pending=none∨rc.pending=some (.exit id))∧n (H5a w.heap.size::D) e (w3.putObj (w.heap.size+1) (.loop { rc with state:=.exhausted }))) ∨
      (rc.pending=some .ret∧t (H5a w.heap.size::D) e (w3.putObj (w.heap.size+1) (.loop { rc with state:=.exhausted }))))) :
 W P none N (.block id (.rangeFunc g ps a0 body)) ⟨n,b,t⟩ D e w:=by
 refine q1b ?_;unfold W;intro a hs hd he;have i0:c1a { tmps:=a.tmps,defers:=[] }=e:=he;refine wpIn_rangeFunc (F:=fc none) (n:=0) ?_;intro fn _;have j0:((w.alloc (.deferred (some []))).alloc (.loop (W6b fn a.tmps ps a0 body w.heap.size))).heap[w.heap.size]?=some (.deferred (some [])) :=
  (Below.heap_alloc _ _ _ (by simp)).trans (World.alloc_heap_new w _)
 have m0:((w.alloc (.deferred (some []))).alloc (.loop (W6b fn a.tmps ps a0 body w.heap.size))).heap[w.heap.size+1]?=some (.loop (W6b fn a.tmps ps a0 body w.heap.size)):=by
  have:=World.alloc_heap_new (w.alloc (.deferred (some []))) (.loop (W6b fn a.tmps ps a0 body w.heap.size));rwa [World.size_alloc] at this
 have n0:Below w.heap.size w ((w.alloc (.deferred (some []))).alloc (.loop (W6b fn a.tmps ps a0 body w.heap.size))):=(((Below.refl _ w).alloc (Nat.le_refl _) _).alloc (by simp) _);have h1:=h (W6b fn a.tmps ps a0 body w.heap.size) _ Z Z hs i0 Z Z Z j0 m0 n0 (by simp);rw[←q0] at h1;have o0:a.eval g=.func (.func f) #[] caps:=by rw[E2a,he];exact hg
 have e0:=run_enterLoop_outer (P:=P) (w:=w) fn a.tmps ps a0 body;change (Instr.enterLoop fn a.tmps ps a0 body none).run P w=.ok (w.heap.size+1,[H5a w.heap.size]) ((w.alloc (.deferred (some []))).alloc (.loop (W6b fn a.tmps ps a0 body w.heap.size))) at e0;clear j0 m0 n0;generalize ((w.alloc (.deferred (some []))).alloc (.loop (W6b fn a.tmps ps a0 body w.heap.size)))=W1 at h1 e0;have g0:(resolve a.eval (rangeCall g (w.heap.size+1)) 0).run P W1=.ok { target:=.fn (.func f) caps,args:=#[.func (.yield (w.heap.size+1)) #[] #[]] } W1:=by
  simp only[resolve,o0];simp[go_sem]
 have f0:(invoke (.fn (.func f) caps) #[.func (.yield (w.heap.size+1)) #[] #[]]).run P W1=.ok (.enter f (#[.func (.yield (w.heap.size+1)) #[] #[]]++caps)) W1:=by
  simp[invoke,go_sem,hH _ _]
 refine⟨w.heap.size+1,[H5a w.heap.size],W1,{ target:=.fn (.func f) caps,args:=#[.func (.yield (w.heap.size+1)) #[] #[]] },W1,f,#[.func (.yield (w.heap.size+1)) #[] #[]]++caps,W1,e0,g0,fun _ _=>trivial,f0,fun hh=>(by simp[fc,Fence.wide] at hh),?_⟩;refine j5a (Calls.mono h1 ?_);rintro en w3 ⟨_,rfl,rc,hl,p0,b0⟩;have d0:=run_endLoop (P:=P) hl p0;generalize (w3.putObj (w.heap.size+1) (.loop { rc with state:=.exhausted }))=W4 at d0 b0;refine⟨rc.pending,W4,d0,?_⟩;subst hd;have c0:c1a { tmps:=a.tmps,defers:=[H5a w.heap.size]++a.defers }=e:=i0;rcases b0 with⟨hp|hp,hn⟩|⟨hp,ht⟩
 ·rw[hp];show a.tmps.size=N∧n (H5a w.heap.size::a.defers) (c1a _) W4;rw[c0];exact⟨hs,hn⟩
 ·rw[hp];refine wpIn_exit ?_;show a.tmps.size=N∧y4b id n b id (H5a w.heap.size::a.defers) (c1a _) W4;rw[c0];exact⟨hs,U9a hn⟩
 ·rw[hp];refine wpIn_ret ?_;show a.tmps.size=N∧t (H5a w.heap.size::a.defers) (c1a _) W4;rw[c0];exact⟨hs,ht⟩
end
section
variable {P:Program} {fn:Func} {R:Value→World→Prop} {D:List Deferred} {e:Env} {w:World}
theorem U8b{t u:Nat}(h:fn.results=#[.tmp t,.tmp u]){v1 v2:Value}(rs:List Nat)(hD:D=rs.map H5a)(hn:rs.Nodup)(hO:NC w (t8a rs))(hR:∀w',W0a rs w w'→R (.tuple #[v1,v2]) w')(h1:e t=v1:=by conv=>lhs;whnf)(h2:e u=v2:=by conv=>lhs;whnf):T6a P fn R D e w :=
 ⟨rs,hD,hn,hO,fun w' hb _ tmps he=>by subst he;subst h1;subst h2;exact⟨_,by simp[results,h];rfl,by simpa[c1a] using hR w' hb⟩⟩
theorem F7a{a1 t1 g1:Nat}{v1:Value}(h:fn.results=#[.cell a1 t1])(o1:One P t1)(e1:e a1=.pointer (some ⟨g1,0,none⟩))(rs:List Nat)(hD:D=rs.map H5a)(hn:rs.Nodup)(hO:NC w (t8a rs))(hc:w.cell? ⟨g1,0,none⟩=some v1)(hR:∀w',W0a rs w w'→R v1 w')(hg:g1∉rs:=by simp):T6a P fn R D e w :=
 ⟨rs,hD,hn,hO,fun w' hb _ tmps he=>by
  have hk:A0a rs w w':=⟨hb.size,hb.block⟩;have c2:=hk.cell (a:=⟨g1,0,none⟩) hg hc;subst he;simp only[c1a,Array.getD_eq_getD_getElem?] at e1;have h2:(loadVar t1 ⟨g1,0,none⟩).run P w'=.ok v1 w':=by rw[o1 w'];simp[load,Sem.run,c2]
  exact⟨_,by simp[results,h,asAddr,e1,h2],hR w' hb⟩⟩
end
theorem K0d(run:List d0a)(i j:Nat):(wo run i j).length≤run.length:=by
 have:∀(l:List d0a) (k:Nat),(woR i j k l).length≤l.length:=by
  intro l
  induction l with
  | nil=>intro k;simp[woR]
  | cons x l ih=>intro k;unfold woR;have:=ih (k+1);split<;>simp<;>omega
 exact this run 0
theorem P1b{run:List d0a}{i j k:Nat}:(wo (run.take k) i j).length≤k:=by
 have h1:=K0d (run.take k) i j;have h2:=List.length_take_le k run;omega
theorem RdS.takeK{α:Type}{M:List Nat}{w:World}{size:Nat}{R:LV→α→Prop}{A:Option Addr}{n c:Nat}{l:List α}(h:RdS M w size R (.slice A n c) l)(i:Nat)(hi:i≤n):RdS M w size R (.slice A i i) (l.take i):=by
 obtain⟨_,_,_,he,h1,_,_,h4,h5⟩:=h.take i hi;cases he;exact⟨_,_,_,Z,h1,Nat.le_refl _,by omega,h4,h5⟩
theorem N2c(M Mx:List Nat)(w0:World)(v:Value)(l:List d0a)(hR:z4a M w0 v l)(hl:l.length≤1000)(hM:∀g∈Mx,g<w0.heap.size):
 M0a prog 40 #[v] w0 fun v w'=>z4a Mx w' v l∧Bw w0 w':=by
 obtain⟨_,n,_,rfl⟩:=hR.form;obtain⟨_,_⟩:=hR.len;have S:=St.refl w0;refine a0a func40 Z ntmps40 Z ?_;refine wOn 9 S.k [] Z U (f9b K2a.slT Z Z Z (fun h4=>?_) fun h4=>?_)
 ·refine lR1 Z (t0a Z ?_);subst h4;obtain⟨A',n',c',he,h1,h2,h3,h5,h6⟩:=hR;cases he;have h0:l.length=0:=by
   rcases Nat.eq_zero_or_pos n with h|h
   ·omega
   ·obtain⟨_,_,h7,_⟩:=h6 h;cases h7
  obtain rfl:=List.length_eq_zero_iff.1 h0;exact⟨a2a,S.fin⟩
 refine lO1 Z (Q0b S K2a Z ?_);intro g5 w5 S5 X5 G5;refine lO1 Z ?_;refine G3a N2a (M2:=[]) (k:=0) S5 K2a Z A1a.new Z Z (hR.keep (S5.keep0 M)) (by simp;omega) Z ?_;intro v7 G7 a0 w7 S7 R7 X7 F7;refine n0a Z ?_;refine lR1 Z (t0a Z ?_);rw[List.nil_append] at R7;refine⟨A1a.rd N2a (M:=Mx) R7 S7 (k:=0) Z (fun g hg hh=>?_) (by omega),S7.fin⟩;subst hg;have h1:=S7.new 0 Z;have h2:=hM g hh;simp at h1;omega
theorem o3b(run:List d0a)(i j:Nat)(M Mx:List Nat)(w0:World)(vr:Value)(c0:z4a M w0 vr run)(hM:∀g∈Mx,g<w0.heap.size)(hl:run.length≤1000:=by omega):
 M0a prog 81 #[vr,.int .i64 i,.int .i64 j] w0 fun v w'=>z4a Mx w' v (wo run i j)∧Bw w0 w':=by
 obtain⟨Ar,nr,cr,rfl⟩:=c0.form;obtain⟨_,_⟩:=c0.len;have S:=(St.refl w0).nilEnt 75;refine a0a func81 Z ntmps81 Z ?_;refine wC1 Z (wL (fun μk D ε w=>D=[]∧∃k:Nat,∃G:Option Nat,∃e0:LV,∃v:Value,(k+μk=(run.length))∧(A1a (fun _ _=>S3a) 3 [] w0 G e0 v (wo (run.take k) i j))∧St [] w0 w [(G,75,e0)]∧Sl ε [(1,.int .i64 i),(2,.int .i64 j),(7,v),(10,.slice Ar nr cr),(11,.int .i64 nr),(12,.int .i64 k)]) (μ:=(run.length)) ⟨Z,0,none,[],.slice none 0 0,by omega,A1a.nil,S,Z⟩ ?_);rintro μk D ε w ⟨rfl,k,G,e0,v,_,b0,S,eZ⟩;refine wK eZ (wB1 Z (fun v0=>?_) fun v0=>?_)
 ·obtain⟨x,t0,z0,_,m0,f0,_,i0,g0,j0⟩:=RdS.get (c0) (k) (by omega);obtain⟨rfl,n0,o0,p0⟩:=id j0;refine lO (S.k.a g0) [.x t0 z0,.v 0] Z ⟨⟨Z,i0⟩,⟨f0,by omega⟩,U⟩ (m0a S i5b Z Z ?_);intro g9 w9 S9 X9 G9;refine lO1 Z (f0a (kk:=0) (vs:=[_,_,_]) S9 U2b Z Z Z Z Z Z Z ?_);intro A0 a0 s0;dsimp only[o0a,List.set] at a0;refine lB1 Z (fun x0=>?_) fun x0=>?_
  ·refine lB1 Z (fun y0=>?_) fun y0=>?_
   ·refine lOn 5 a0.k [] Z U (w0a Z ?_);refine lO a0.k [.w 0] Z ⟨⟨Z,by rfl⟩,U⟩ (h0a a0 K2a (vs:=[.agg _]) (cs:=[_,_,_]) Z Z Z Z Z Z ?_);intro G0 I0 q0 E0 C0;have lf:(wo (run.take k) i j).length≤k:=P1b;refine C0a N2a (k:=2) (M2:=[]) (e1:=x) q0 K2a Z b0 Z Z (q0.cells 0 Z) ⟨Z,n0,o0,p0⟩ Z ?_;intro H0 D0 u0 J0 r0 d0 F0 B0;refine n0a Z ?_;refine lP1 Z ⟨μk-1,by omega,Z,k+1,_,_,_,by omega,?_,r0.tail.tail,Z⟩;rw[e6c m0 ⟨by omega,by omega⟩];exact d0
   refine lP1 Z ⟨μk-1,by omega,Z,k+1,_,_,_,by omega,?_,a0.tail,Z⟩;rw[j5c m0];exact b0
  refine lP1 Z ⟨μk-1,by omega,Z,k+1,_,_,_,by omega,?_,a0.tail,Z⟩;rw[j5c m0];exact b0
 refine lOn 8 S.k [] Z U (w0a Z ?_);refine n0a Z ?_;refine lR1 Z (t0a Z ?_);refine⟨A1a.rd N2a (M:=Mx) (by rw[List.take_of_length_le (by omega)] at b0;exact b0) S (k:=0) Z (fun g hg hh=>?_) (by have:=K0d run i j;omega),S.fin⟩;subst hg;have h1:=S.new 0 Z;have h2:=hM g hh;simp at h1;omega
theorem a7b(cs:LV)(h4:cs.length=4)(m:Int)(w0:World):
 M0a prog 38 #[.agg cs.toArray,.int .i64 m] w0 fun v w'=>(∃gp gm,v=.func (.func 79) #[] #[.pointer (some ⟨gp,0,none⟩),.pointer (some ⟨gm,0,none⟩)]∧w0.heap.size≤gp∧w0.heap.size≤gm ∧
  z0a w' (gp,27,cs)∧z0a w' (gm,3,[.int .i64 m]))∧Bw w0 w':=by
 have S:=St.refl w0
 match cs,h4 with
 | [c0,c1,c2,c3],_ =>
 refine a0a func38 Z ntmps38 Z ?_;refine wO1 Z (i0a S Z ?_);intro g2 w2 S2 X2 G2;refine H9a S2 (v:=.int .i64 _) Z Z Z ?_;intro g3 w3 S3 X3 G3;refine lO1 Z (h2a Z Z ?_);refine lR1 Z (t0a Z ?_);exact⟨⟨g2,g3,Z,by simpa using S3.new 1 Z,by simpa using S3.new 0 Z,S3.blk 1 Z,S3.blk 0 Z⟩,S3.fin⟩
theorem R0b(p:g0a)(m:Int)(hm:m=0∨m=1∨m=2)(run:List d0a)(hlen:run.length≤120)(gp gm:Nat)(M:List Nat)(w0:World)(cs:LV)(vr:Value)(hI:InP p M w0 cs)(b0:z4a M w0 vr run)(m0:z0a w0 (gp,27,cs))(j0:z0a w0 (gm,3,[.int .i64 m])):
 M0a prog 79 #[vr,.pointer (some ⟨gp,0,none⟩),.pointer (some ⟨gm,0,none⟩)] w0 fun v w'=>(∃A n c,v=.tuple #[.slice A n c,.bool (I2a p m run).isSome]∧∀d,I2a p m run=some d→∀M',z4a M' w0 vr run→z4a M' w' (.slice A n c) d)∧Bw w0 w':=by
 obtain⟨Ac,nc,cc,Am,nm,cm,Al,nl,cl,At,nt,ct,rfl,-⟩:=hI.rd.open_;obtain⟨_,_,_,rfl⟩:=b0.form;obtain⟨_,_⟩:=b0.len;have o0:O1a w0 gp 0 (pL Ac nc cc Am nm cm Al nl cl At nt ct):=fun j v hj=>by rw[Nat.zero_add];exact m0.cell hj
 have n0:O1a w0 gm 0 [.int .i64 m]:=fun j v hj=>by rw[Nat.zero_add];exact j0.cell hj
 have p0:[Value.slice Ac nc cc,.slice Am nm cm,.slice Al nl cl,.slice At nt ct].length=4:=Z;have y0:[Value.int .i64 m].length=1:=Z;have S:=St.refl w0;refine a0a func79 Z ntmps79 Z ?_;refine wO ((S.k.a n0).a o0) [.v 0,.f 1 0] Z ⟨Z,⟨Z,p0⟩,U⟩ (s0a S E8b Z Z (r6b p m hm run M _ _ _ (hI.keep (S.keep0 M)) (b0.keep (S.keep0 M)) hlen) ?_);rintro z0 s0 ⟨_,rfl,hV⟩ c0 t0;have KV:=A0a.refl M s0;obtain⟨_,_,_,rfl⟩:=hV.form;obtain⟨_,_⟩:=hV.len;refine lB1 Z (fun i0=>?_) fun i0=>?_
 ·refine lR1 Z (V2b Z ?_);have h0:Z4a p m run=[]:=List.length_eq_zero_iff.1 (by omega);rw[L7a.2 h0];exact⟨⟨_,_,_,Z,fun d hd=>by cases hd⟩,c0.fin⟩
 obtain⟨x0,g0,r0,_,a0,d0,_,_,e0,f0⟩:=RdS.get (hV) (0) (by omega);obtain⟨rfl,-,-,-,-,-⟩:=f0;have u0:=U4b (List.mem_of_getElem? a0);have v0:=o5a p m run;obtain⟨n,hn⟩:∃n:Nat,x0.at_+1=n:=⟨(x0.at_+1).toNat,by omega⟩;refine lO (c0.k.b e0) [.x g0 r0,.f 0 0] Z ⟨by omega,Z,⟨d0,by omega⟩,U⟩ (H0c (k:=n) K2a.slT Z (congrArg (Value.int .i64) hn) (congrArg (Value.int .i64) hn) (by omega) Z ?_);refine lR1 Z (V2b Z ?_);have q0:I2a p m run=some (run.take n):=by
  unfold I2a;cases hw:Z4a p m run with
  | nil=>rw[hw] at a0;cases a0
  | cons v l =>
    rw[hw] at a0;cases a0;show some (run.take (x0.at_+1).toNat)=_;rw[hn];rfl
 rw[q0];refine⟨⟨_,_,_,Z,fun d hd M' hR=>?_⟩,c0.fin⟩;cases hd;exact RdS.takeK (hR.keep (c0.keep0 M')) n (by omega)
end Go.Fw
