/-
  Part 4 of 9 of the proof of ShrinkShortest: what it leans on. No conditions.
-/
import Derived.Test.YtfkfflniambckaaGreatDoorZShrinkShortest3
set_option maxRecDepth 100000
set_option maxHeartbeats 4000000
namespace Go.Proofs.YtfkfflniambckaaGreatDoor
end Go.Proofs.YtfkfflniambckaaGreatDoor
namespace Go.Fw
open Go.Proofs.YtfkfflniambckaaGreatDoor Go.Proofs Go.RowKit Tryz
def X1b(p:h0a)(s:v1a)(k:Nat):List U1a:=if s.kind=3 then(s.set.take k).filter (fun a=>T1a p.cells a.cell=-1) else[]
def S9a(p:h0a)(s:v1a)(k:Nat):List U1a:=if s.kind=3 then(s.set.take k).filter (fun a=>T1a p.cells a.cell≠-1) else s.set.take k
section
variable {p:h0a} {s:v1a} {k:Nat} {a:U1a}
theorem Q8a:X1b p s 0=[]:=by unfold X1b;simp
theorem Y4b:S9a p s 0=[]:=by unfold S9a;simp
theorem q7a(h3:s.kind=3)(hx:s.set[k]?=some a)(ht:T1a p.cells a.cell=-1):X1b p s (k+1)=X1b p s k++[a]∧S9a p s (k+1)=S9a p s k:=by
 unfold X1b S9a;rw[if_pos h3,if_pos h3,if_pos h3,if_pos h3,a1a hx,List.filter_append,List.filter_append];simp[ht]
theorem p6a(hx:s.set[k]?=some a)(ht:s.kind=3→¬T1a p.cells a.cell=-1):X1b p s (k+1)=X1b p s k∧S9a p s (k+1)=S9a p s k++[a]:=by
 unfold X1b S9a;by_cases h3:s.kind=3
 ·rw[if_pos h3,if_pos h3,if_pos h3,if_pos h3,a1a hx,List.filter_append,List.filter_append];simp[ht h3]
 ·rw[if_neg h3,if_neg h3,if_neg h3,if_neg h3,a1a hx];simp
theorem z5a:(X1b p s k).length≤s.set.length:=by
 unfold X1b
 split
 ·exact Nat.le_trans (List.length_filter_le _ _) (by rw[List.length_take];omega)
 ·simp
end
theorem h1c{p:h0a}{t n:Int}{s:v1a}(h:M6a p t n s):s.set.length≤p.cells.length:=by
 have:=x8a p.cells.length (s.set.map U1a.cell) (by unfold List.Nodup;rw[List.pairwise_map];exact h.once) (fun x hx=>by
  obtain⟨a,ha,rfl⟩:=List.mem_map.1 hx;exact(h.set a ha).1)
 simpa using this
theorem E7a{p:h0a}{m:Int}(hm:¬m=0){c:G0a}{t:Nat}{s:v1a}{b:List K0a}(h3:s.kind=3)(hb:c.buf[t]?=some b){k:Nat}(hk:s.set.length≤k:=by omega):I6a p m c t s=⟨n8a (S9a p s k) (o1a c t) c.mem,atC c t s,c.buf.set t (b++[⟨(X1b p s k).map U1a.cell,(X1b p s k).map fun a=>a.to.evl (o1a c t) (o1a c t)⟩])⟩:=by
 unfold I6a X1b S9a G5b;rw[if_pos ⟨h3,hm⟩,if_pos h3,if_pos h3,List.take_of_length_le hk,getD_some hb]
theorem t2b{p:h0a}{m:Int}{c:G0a}{t:Nat}{s:v1a}(h3:¬s.kind=3){k:Nat}(hk:s.set.length≤k:=by omega):I6a p m c t s=⟨n8a (S9a p s k) (o1a c t) c.mem,atC c t s,c.buf⟩:=by
 unfold I6a S9a;rw[if_neg (fun h=>h3 h.1),if_neg h3,List.take_of_length_le hk]
theorem q2c{c:G0a}{t:Nat}{s:v1a}{pad:List Value}(h:¬s.kind=6){i:Nat}(ht:t<c.at_.length:=by omega)(hi:i=t:=by simp):(c.at_.map (Value.int .i64)++pad).set i (.int .i64 s.to)=(atC c t s).map (Value.int .i64)++pad:=by
 subst hi;rw[y6a ht];unfold atC;rw[if_neg h]
theorem Y6b{c:G0a}{t:Nat}{s:v1a}{pad:List Value}(h:s.kind=6){i j:Nat}(ht:t<c.at_.length:=by omega)(hg:s.target.toNat<c.at_.length:=by omega)(hi:i=t:=by simp)(hj:j=s.target.toNat:=by simp):((c.at_.map (Value.int .i64)++pad).set i (.int .i64 s.to)).set j (.int .i64 0)=(atC c t s).map (Value.int .i64)++pad:=by
 subst hi;subst hj;rw[y6a ht,y6a (by simpa using hg)];unfold atC;rw[if_pos h]
abbrev k5c:List Nat→World→List Value→Int→Prop:=fun _ _=>R5c
theorem z9b(p:h0a)(c:G0a)(m:Int)(hm:m=1∨m=2)(t i:Nat)(th:U0a)(s:v1a)(M:List Nat)(w0:World)(cs xs:List Value)(L2:Value)(hI:InP p M w0 cs)(hX:D0a M w0 c xs)(hV:RdI M w0 L2 (o1a c t))(hf:J5a p c)(R0:p.threads[t]?=some th)(z2:th.steps[i]?=some s)(o0:J5a p (I6a p m c t s)):
 N0a prog 147 #[.agg (xs++(cs++[Value.int .i64 m])).toArray,.agg #[.int .i64 t,.int .i64 i,.int .i64 0],L2] w0 fun v w'=>(∃ys,v=.agg ys.toArray∧D0a M w' (I6a p m c t s) ys)∧Below w0.heap.size w0 w':=by
 obtain⟨Ac,nc,cc,Am,nm,cm,Al,nl,cl,At,nt,ct,rfl,hC,_,_,v3,_⟩:=hI.rd.open_;obtain⟨Xm,xm,ym,Xa,xa,ya,Xb,xb,yb,rfl,_⟩:=hX.open_;obtain⟨Av,nv,cv,rfl⟩:=hV.form;have S:=St.refl w0;have hM:=hI.lt;have f1:=hf.mem.len;have f2:=hf.nat;have f3:=hf.nbuf;have hp:=hI.ok;have n1:=hp.ncells;have n2:=hp.nthreads;have ht:=g1a R0;have hi:=g1a z2;have u1:=(hp.thread R0).steps s (d0a z2);have a4:=h1c u1;have I2:6≤s.kind→0≤s.target∧s.target<p.threads.length:=fun h=>(u1.row.k6 h).1;have J2:¬m=0:=by omega
 obtain⟨b,v1⟩:∃b,c.buf[t]?=some b:=⟨c.buf[t]'(by omega),List.getElem?_eq_getElem _⟩;have Z3:=hf.bufs t b v1;refine a0a func147 Z ntmps147 Z ?_;refine wO0 Z U (m0a S Z ?_);intro g3 w3 S3 X3 G3;refine m0a S3 Z ?_;intro g4 w4 S4 X4 G4;refine j0a S4 r4a Z Z ?_;intro g6 w6 S6 X6 G6;refine lO S6.k [.o 2] Z ⟨Z,U⟩ ?_;have x3:D0a (g6::g4::g3::M) w6 c _:=(hX.more (fun g hg=>by rcases List.mem_cons.1 hg with rfl|hg;exact .inr (by simpa using S6.new 0 Z);rcases List.mem_cons.1 hg with rfl|hg;exact .inr (by simpa using S6.new 1 Z);rcases List.mem_cons.1 hg with rfl|hg;exact .inr (by simpa using S6.new 2 Z);exact .inl hg)).keep (S6.keep0 _);have u3:∀g∈g6::g4::g3::M,g<w6.heap.size:=fun g hg=>by
  rcases List.mem_cons.1 hg with rfl|hg
  ·exact S6.lt 0 Z
  ·rcases List.mem_cons.1 hg with rfl|hg
   ·exact S6.lt 1 Z
   ·rcases List.mem_cons.1 hg with rfl|hg
    ·exact S6.lt 2 Z
    ·have:=hM g hg;have:=S6.size;omega
 refine N2a v0c Z Z (b8b p hp c (g6::g4::g3::M) _ u3 _ x3 hf) ?_;rintro d4 D1 ⟨⟨Gm,_,r3,_,_,_,gb,i0,vs,rfl,Rm,Ra,H1,hR⟩,-⟩;have C0:=S6.joinR H1;obtain⟨ga,j0,rfl,rfl,rfl,E0⟩:=Ra.pad (by omega);obtain⟨Bm,G2,dm,rfl⟩:=Rm.form;have KM:=z0a.refl Gm.toList D1;have i1:∀g∈(Gm.toList++((some ga).toList++(gb::g6::g4::g3::M)))++a6a i0,g<D1.heap.size:=by
  intro g hg;simp only[List.mem_append,List.mem_cons] at hg;rcases hg with(hg|hg|rfl|rfl|rfl|rfl|hg)|hg
  ·exact Q7a C0 (k:=2) Z g hg
  ·exact Q7a C0 (k:=1) Z g hg
  ·exact C0.lt 0 Z
  ·exact C0.lt 3 Z
  ·exact C0.lt 4 Z
  ·exact C0.lt 5 Z
  ·have:=hM g hg;have:=C0.size;omega
  ·obtain⟨x,hx,hg⟩:=y2a.1 hg;exact(C0.own x (List.mem_append_right _ hx) g hg).2.lt
 refine j0a C0 r4a Z Z ?_;intro g7 w7 S7 X7 G7;have F1:=Nat.le_trans KM.size G7;replace KM:=KM.trans (X7.of_nil);refine e0a (kk:=0) (vs:=[_,_,_]) S7 o2a Z Z Z Z Z Z Z ?_;intro H3 D0 M1;dsimp only[n0a,List.set] at D0;replace KM:=KM.fresh2 M1 (by exact .inl F1);refine lC0 Z U (v0a b0a [0,1,2,3,4,5,6,7,8,9,10,11] [12] [13] Z (Cl _ _ _ _) (Cl.start D0) ?_);obtain⟨_,i3,C3,_,x2,V1,_,_,a2,o2⟩:=RdS.get (v3) (t) (by omega);obtain rfl:=Option.some.inj (R0.symm.trans x2);obtain⟨_,_,_,_,_,_,_,_,_,_,_,_,rfl,_,_,_,j1,_⟩:=R0a.open_ o2;obtain⟨_,j3,D3,_,y2,W1,_,i2,b2,p2⟩:=RdS.get (j1) (i) (by omega);obtain rfl:=Option.some.inj (z2.symm.trans y2);obtain⟨E1,B2,P1,T0,S0,b1,rfl,⟨_,_⟩,_,P0,_⟩:=B1a.open_ p2;refine qN ((D0.q.a b2).a a2) [.o 6,.o 5,.x i3 C3,.f 0 4,.o 5,.x j3 D3,.v 1] Z ⟨⟨Z,i2⟩,⟨W1,by omega⟩,Z,Z,⟨V1,by omega⟩,Z,Z,U⟩ (z3a ?_);refine x4a Z Z r9a Z ?_;refine K1a ?_;rintro q4 ⟨K1,h3⟩;intro g8 y3 G8 B3;dsimp only[c4a];have G1:=Nat.le_trans KM.size G8;replace KM:=KM.trans (h3.of_nil);clear B3;replace K1:=K1.push_new D0 y3 G8;refine e0a (kk:=0) (vs:=[_,_,_,_,_,_,_,_,_,_,_]) K1 u9a Z Z Z Z Z Z Z ?_;intro O2 F0 Z0;dsimp only[n0a,List.set] at F0;replace KM:=KM.fresh2 Z0 (by exact .inl G1);refine lO0 Z U (j0a F0 q1b Z Z ?_);intro g9 w9 S9 X9 G9;have V0:=Nat.le_trans KM.size G9;replace KM:=KM.trans (X9.of_nil);refine lC S9.k [.o 1] Z ⟨Z,U⟩ ?_;refine wL (fun μk D ε w=>D=[]∧∃k:Nat,∃Gc:Option Nat,∃T1:List Value,∃vc:Value,∃Gv:Option Nat,∃U1:List Value,∃vv:Value,∃L0:List Value,(k+μk=(s.set.length))∧(x1a k5c 1 [] w0 Gc T1 vc ((X1b p s k).map U1a.cell))∧(x1a k5c 1 [] w0 Gv U1 vv ((X1b p s k).map fun a=>a.to.evl (o1a c t) (o1a c t)))∧(∀g∈Gc.toList++Gv.toList,D1.heap.size≤g)∧(A3a Gm 1 c.mem.length L0 (.slice Bm G2 dm) ((n8a (S9a p s k) (o1a c t) c.mem).map (Value.int .i64)))∧(z0a Gm.toList D1 w)∧St [] w0 w ([(Gc,3,T1),(Gv,3,U1),(some g9,88,[vc,vv]),(some g8,97,[.int .i64 s.kind,.int .i64 s.frm,.int .i64 s.to,.int .i64 s.guard.op,.int .i64 s.guard.w,.int .i64 s.guard.n,.slice E1 B2 P1,.slice T0 S0 b1,.bool s.release,.int .i64 s.target,.int .i64 s.module_]),(some g7,38,[.slice Bm G2 dm,.slice (some ⟨ga,0,none⟩) c.at_.length (c.at_.length+j0.length),.slice (some ⟨gb,0,none⟩) c.buf.length c.buf.length]),(some gb,86,vs),(some ga,3,c.at_.map (Value.int .i64)++j0),(Gm,3,L0),(some g6,38,[.slice none 0 0,.slice none 0 0,.slice none 0 0]),(some g4,44,[.int .i64 t,.int .i64 i,.int .i64 0]),(some g3,206,[.slice Xm xm ym,.slice Xa xa ya,.slice Xb xb yb,.slice Ac nc cc,.slice Am nm cm,.slice Al nl cl,.slice At nt ct,.int .i64 m])]++i0)∧Sl ε [(2,.slice Av nv cv),(3,.pointer (some ⟨g3,0,none⟩)),(4,.pointer (some ⟨g4,0,none⟩)),(6,.pointer (some ⟨g6,0,none⟩)),(7,.pointer (some ⟨g7,0,none⟩)),(8,.pointer (some ⟨g8,0,none⟩)),(9,.pointer (some ⟨g9,0,none⟩)),(29,.slice T0 S0 b1),(30,.int .i64 S0),(31,.int .i64 k)]) (μ:=(s.set.length)) ⟨Z,0,none,[],.slice none 0 0,none,[],.slice none 0 0,r3,by omega,by rw[Q8a];exact x1a.nil,by rw[Q8a];exact x1a.nil,by simp,by rw[Y4b];exact Rm,KM,((S9.nilEnt 3).nilEnt 3),Z⟩ ?_;rintro μk D ε w ⟨rfl,k,Gc,T1,vc,Gv,U1,vv,L0,_,m1,s1,I0,Q0,KM,S,eZ⟩;refine wK eZ (wB0 Z U (fun t3=>?_) fun t3=>?_)
 ·obtain⟨a,m3,E3,_,A3,X1,_,j2,d2,r2⟩:=RdS.get (P0) (k) (by omega);obtain⟨_,_,_,rfl,A2,Z1⟩:=Z0a.open_ r2;have e0:=A3;have q1:=(u1.set a (d0a e0)).1;unfold k2a at q1;have q2:=t5a (u1.set a (d0a e0)).2.1 (o1a c t) (o1a c t);rw[(u1.set a (d0a e0)).2.2] at q2;have c4:=R9a hp a.cell;have q3:i64 (a.to.evl (o1a c t) (o1a c t)):=by unfold i64;omega
  refine lO (S.k.a d2) [.x m3 E3,.v 0] Z ⟨⟨Z,j2⟩,⟨X1,by omega⟩,U⟩ (j0a S S7a Z Z ?_);intro U3 i4 U2 Y2 S2;have U0:=Nat.le_trans KM.size S2;replace KM:=KM.trans (Y2.of_nil);refine e0a (kk:=0) (vs:=[_,_,_,_,_]) U2 P7a Z Z Z Z Z Z Z ?_;intro I3 p0 N1;dsimp only[n0a,List.set] at p0;replace KM:=KM.fresh2 N1 (by exact .inl U0);refine lO p0.k [.o 0] Z ⟨Z,U⟩ (i0a p0 A0b Z Z (f8a a.to M _ _ _ _ (o1a c t) (o1a c t) (RdE.keep (p0.keep0 M) _ _ Z1) (hI.keep (p0.keep0 M)).msk (hV.keep (p0.keep0 M)) (hV.keep (p0.keep0 M))) ?_);intro j4 t0 Z2;replace KM:=KM.trans (Z2.of_nil);refine lO0 Z U (s0a M0a Z (by exact t0.cell 4 Z Z) Z ?_);refine lB0 Z U (fun N0=>?_) fun N0=>?_
  ·refine lO0 Z U (s0a Z9a Z (by exact t0.cell 11 Z Z) Z ?_);obtain⟨_,n3,F3,_,x1,Y1,_,_,g2,s2⟩:=RdS.get (hC) (a.cell.toNat) (by omega);obtain⟨rfl,_⟩:=P2a.open_ s2;have s0:=j1a x1;refine lB (t0.k.a g2) [.o 0,.x n3 F3,.f 0 3] Z ⟨Z,⟨Y1,by omega⟩,Z,U⟩ (fun O0=>?_) fun O0=>?_
   ·refine lO0 Z U (s0a v3a Z (by exact t0.cell 3 Z Z) Z ?_);refine lO t0.k [.o 0] Z ⟨Z,U⟩ (g0a t0 T0a (vs:=[.int .i64 _]) (cs:=[_]) Z Z Z Z Z Z ?_);intro V3 k4 D2 a3 M3;replace KM:=KM.trans (a3.of_nil);refine B0a (hll:=(by have:=z5a (p:=p) (s:=s) (k:=k);simp;omega)) x3a (k:=2) (M2:=[]) (e1:=a.cell) D2 T0a Z m1 Z Z (D2.cells 0 Z) ⟨Z,A2⟩ Z ?_;intro e4 P3 p3 m4 V2 o1 b3 P2;have R3:=KM.size;obtain⟨_,_,rfl⟩:=o1.form;replace KM:=KM.freshL b3 (fun g hg=>.inl (I0 g (List.mem_append_left _ hg)));refine lO0 Z U ?_
    first|refine u0a (kk:=4) V2 b2b Z Z Z (by exact Nat.le_of_ble_eq_true Z) ?_
    intro K3 X0 O1;replace KM:=KM.fresh2 O1 (by exact .inl V0);refine lO0 Z U (s0a v3a Z (by exact X0.cell 4 Z Z) Z ?_);refine lO0 Z U (g0a X0 T0a (vs:=[.int .i64 _]) (cs:=[_]) Z Z Z Z Z Z ?_);intro W3 n4 E2 d3 N3;replace KM:=KM.trans (d3.of_nil);refine B0a (hll:=(by have:=z5a (p:=p) (s:=s) (k:=k);simp;omega)) x3a (k:=4) (M2:=[]) (e1:=a.to.evl (o1a c t) (o1a c t)) E2 T0a Z s1 Z Z (E2.cells 0 Z) ⟨Z,q3⟩ Z ?_;intro f4 Q3 s3 o4 W2 t1 e3 Q2;have T3:=KM.size;obtain⟨_,_,rfl⟩:=t1.form;replace KM:=KM.freshL e3 (fun g hg=>.inl (I0 g (List.mem_append_right _ hg)));refine lO0 Z U ?_
    first|refine u0a (kk:=5) W2 b2b Z Z Z (by exact Nat.le_of_ble_eq_true Z) ?_
    intro N2 W0 Y0;replace KM:=KM.fresh2 Y0 (by exact .inl V0);refine lP0 Z ⟨by omega,U⟩ ⟨μk-1,by omega,Z,(k+1),(_),(_),(_),(_),(_),(_),(_),(by omega),?_,?_,?_,?_,(KM),W0.tail.tail.tail,Z⟩
    ·rw[(q7a N0 e0 (s0.trans O0)).1,List.map_append];exact o1
    ·rw[(q7a N0 e0 (s0.trans O0)).1,List.map_append];exact t1
    ·intro g hg;rcases List.mem_append.1 hg with hg|hg
     ·rcases P2 g hg with h|h
      ·exact I0 g (List.mem_append_left _ h)
      ·omega
     ·rcases Q2 g hg with h|h
      ·exact I0 g (List.mem_append_right _ h)
      ·omega
    ·rw[(q7a N0 e0 (s0.trans O0)).2];exact Q0
   obtain⟨gm,pad,rfl,w2,rfl,m2⟩:=Q0.pad (by simp;omega);have z3:(n8a (S9a p s k) (o1a c t) c.mem).length=c.mem.length:=by simp
   cases w2;refine lO0 Z U (s0a v3a Z (by exact t0.cell 5 Z Z) Z ?_);refine lO t0.k [.o 0] Z ⟨Z,U⟩ (L0a T0a.slT Z Z Z ?_)
   first|refine u0a (kk:=8) t0 m8a Z Z Z (by(simp;omega)) ?_
   intro y1 u0 v0;replace KM:=KM.fresh2 v0 (by exact .inr (by simp));refine lP0 Z ⟨by omega,U⟩ ⟨μk-1,by omega,Z,(k+1),(_),(_),(_),(_),(_),(_),(_),(by omega),?_,?_,?_,?_,(KM),u0.tail,Z⟩
   ·rw[(p6a e0 (fun _=>by rw[s0];exact O0)).1];exact m1
   ·rw[(p6a e0 (fun _=>by rw[s0];exact O0)).1];exact s1
   ·exact I0
   ·have e2:S9a p s (k+1)=S9a p s k++[a]:=by exact(p6a e0 (fun _=>by rw[s0];exact O0)).2
    rw[e2,Y6a];have:=A3a.ofPad (g:=gm) (l:=(n8a (S9a p s k) (o1a c t) c.mem).set a.cell.toNat (a.to.evl (o1a c t) (o1a c t))) (pad:=pad) (by simpa using m2);rw[←y6a (by omega)] at this;simpa using this
  obtain⟨gm,pad,rfl,w2,rfl,m2⟩:=Q0.pad (by simp;omega);have z3:(n8a (S9a p s k) (o1a c t) c.mem).length=c.mem.length:=by simp
  cases w2;refine lO0 Z U (s0a v3a Z (by exact t0.cell 5 Z Z) Z ?_);refine lO t0.k [.o 0] Z ⟨Z,U⟩ (L0a T0a.slT Z Z Z ?_)
  first|refine u0a (kk:=8) t0 m8a Z Z Z (by(simp;omega)) ?_
  intro y1 u0 v0;replace KM:=KM.fresh2 v0 (by exact .inr (by simp));refine lP0 Z ⟨by omega,U⟩ ⟨μk-1,by omega,Z,(k+1),(_),(_),(_),(_),(_),(_),(_),(by omega),?_,?_,?_,?_,(KM),u0.tail,Z⟩
  ·rw[(p6a e0 (fun h=>absurd h N0)).1];exact m1
  ·rw[(p6a e0 (fun h=>absurd h N0)).1];exact s1
  ·exact I0
  ·have e2:S9a p s (k+1)=S9a p s k++[a]:=by exact(p6a e0 (fun h=>absurd h N0)).2
   rw[e2,Y6a];have:=A3a.ofPad (g:=gm) (l:=(n8a (S9a p s k) (o1a c t) c.mem).set a.cell.toNat (a.to.evl (o1a c t) (o1a c t))) (pad:=pad) (by simpa using m2);rw[←y6a (by omega)] at this;simpa using this
 refine lO0 Z U (s0a M0a Z (by exact S.cell 3 Z Z) Z ?_);refine lB0 Z U (fun c1=>?_) fun c1=>?_
 ·have H0:=hR.keep (KM.mono (fun g hg=>List.mem_append_left _ (List.mem_append_left _ hg)));obtain⟨G,o3,v,C1,K2,t2⟩:=H0.2.2 t b v1;obtain⟨_,_,rfl⟩:=t2.form;obtain⟨_,_,rfl⟩:=m1.form;obtain⟨_,_,rfl⟩:=s1.form;have b4:vs.length=c.buf.length:=H0.2.1;have H2:∀g∈G.toList,g∈(Gm.toList++((some ga).toList++(gb::g6::g4::g3::M)))++a6a i0:=fun g hg=>List.mem_append_right _ (y2a.2 ⟨_,List.mem_of_getElem? C1,by cases G<;>simp at hg ⊢;exact hg.symm⟩);have d1:RdI ((Gm.toList++((some ga).toList++(gb::g6::g4::g3::M)))++a6a i0) w _ _:=x1a.rd (M:=(Gm.toList++((some ga).toList++(gb::g6::g4::g3::M)))++a6a i0) (w:=w) x3a m1 S (k:=0) Z (fun g hg hm=>by have:=I0 g (by rw[hg];simp);have:=i1 g hm;omega) (by have:=z5a (p:=p) (s:=s) (k:=k);simp;omega);have g1:RdI ((Gm.toList++((some ga).toList++(gb::g6::g4::g3::M)))++a6a i0) w _ _:=x1a.rd (M:=(Gm.toList++((some ga).toList++(gb::g6::g4::g3::M)))++a6a i0) (w:=w) x3a s1 S (k:=1) Z (fun g hg hm=>by have:=I0 g (by rw[hg];simp);have:=i1 g hm;omega) (by have:=z5a (p:=p) (s:=s) (k:=k);simp;omega);refine lC0 Z U (w2b b0a (fun i=>[0,1,2,3,4,5,6,7,8,9,10,13].contains i) [0,1,2,3,4,5,6,7,8,9,10,11,12,13] 14 (clF (A:=[_,_,_,_,_,_,_,_,_,_,_]) (R:=i0) S G.toList) _ Z ?_);have c0:=S.drew;have z0:z0a [] w w.drew:=j2a _ _;generalize w.drew=L3 at c0 z0 ⊢;have d0:z0a (G.toList) _ _:=z0.of_nil;replace H0:=H0.keep z0.of_nil;replace d1:=d1.keep z0.of_nil;replace g1:=g1.keep z0.of_nil;refine M1a ⟨(St.front (A:=[_,_,_,_,_,_,_,_,_,_,_]) c0),d0⟩ Z Z Z ?_;refine I0a a4a Z Z ?_;refine f0a ?_;refine M1a ⟨(St.front (A:=[_,_,_,_,_,_,_,_,_,_,_]) c0),d0⟩ Z Z Z ?_;refine o0a e4a Z (fun w1 hw=>by exact hw.1.cell 4 Z Z) Z ?_;refine f0a ?_;refine M1a ⟨(St.front (A:=[_,_,_,_,_,_,_,_,_,_,_]) c0),d0⟩ Z Z Z ?_;refine I0a h6a Z Z ?_;refine f0a ?_;refine M1a ⟨(St.front (A:=[_,_,_,_,_,_,_,_,_,_,_]) c0),d0⟩ Z Z Z ?_;refine o0a M0a Z (fun w1 hw=>by exact hw.1.cell 9 Z Z) Z ?_;refine f0a ?_;refine M1a ⟨(St.front (A:=[_,_,_,_,_,_,_,_,_,_,_]) c0),d0⟩ Z Z Z ?_;refine I0a a4a Z Z ?_;refine f0a ?_;refine M1a ⟨(St.front (A:=[_,_,_,_,_,_,_,_,_,_,_]) c0),d0⟩ Z Z Z ?_;refine o0a e4a Z (fun w1 hw=>by exact hw.1.cell 4 Z Z) Z ?_;refine f0a ?_;refine M1a ⟨(St.front (A:=[_,_,_,_,_,_,_,_,_,_,_]) c0),d0⟩ Z Z Z ?_;refine I0a h6a Z Z ?_;refine f0a ?_;refine M1a ⟨(St.front (A:=[_,_,_,_,_,_,_,_,_,_,_]) c0),d0⟩ Z Z Z ?_;refine o0a M0a Z (fun w1 hw=>by exact hw.1.cell 9 Z Z) Z ?_;refine f0a ?_;refine M1a ⟨(St.front (A:=[_,_,_,_,_,_,_,_,_,_,_]) c0),d0⟩ Z Z Z ?_;refine p0a t3a.slT Z (by rfl) Z Z ?_;refine f0a ?_;refine M1a ⟨(St.front (A:=[_,_,_,_,_,_,_,_,_,_,_]) c0),d0⟩ Z Z Z ?_;refine o0a Y9a Z (fun w1 hw=>by exact hw.1.cell 5 Z ((congrArg (vs[·]?) (show 0+(t:Int).toNat*1=t by simp)).trans K2)) Z ?_;refine f0a ?_;refine M1a ⟨(St.front (A:=[_,_,_,_,_,_,_,_,_,_,_]) c0),d0⟩ Z Z Z ?_;refine u1a m3b Z (fun w1 hw=>hw.1.cells 2 Z) Z Z ?_;refine f0a ?_;refine h9a ⟨(St.front (A:=[_,_,_,_,_,_,_,_,_,_,_]) c0),d0⟩ Z Z Z Z ?_;refine g0a c0 D3a (vs:=[.agg _]) (cs:=[_,_]) Z Z Z Z Z Z ?_;intro Y3 p4 I1 B1 O3;have G0:=d0.trans (B1.mono (by simp));replace H0:=H0.keep (B1.of_nil);replace d1:=d1.keep (B1.of_nil);replace g1:=g1.keep (B1.of_nil);refine w0a ⟨Z,?_⟩;refine h9a ⟨(St.front (A:=[_,_,_,_,_,_,_,_,_,_,_,_]) I1).tail,G0⟩ Z Z Z Z ?_;obtain⟨G',Q1,_,p1,v2,r1⟩:=H0.2.2 t b v1;obtain⟨rfl,rfl⟩:G=G'∧o3=Q1:=by rw[C1] at p1;cases p1;exact⟨Z,Z⟩
  obtain rfl:=Option.some.inj (K2.symm.trans v2);refine B0a R1a (k:=12+t) (e1:=⟨(X1b p s k).map U1a.cell,(X1b p s k).map fun a=>a.to.evl (o1a c t) (o1a c t)⟩) I1 D3a ((a6c [_,_,_,_,_,_,_,_,_,_,_,_] i0 t 12 Z).trans C1) r1 Z Z (I1.cells 0 Z) ⟨_,_,Z,d1.more (by omega) (fun g hg=>.inl (by rcases List.mem_append.1 hg with h|h;exact H2 g h;exact h)),g1.more (by omega) (fun g hg=>.inl (by rcases List.mem_append.1 hg with h|h;exact H2 g h;exact h))⟩ Z ?_;intro h4 T2 R1 J3 J1 A0 F2 R2;have X2:St [] w0 J3 ([_,_,_,_,_,_,_,_,_,_,_,_]++i0.set t (T2,88,R1)):=(X0d [_,_,_,_,_,_,_,_,_,_,_,_] i0 t 12 Z _)▸J1;have J0:=X2.tail;have a1:=G0.trans F2;have f0:=H0.put (k:=t) (by omega) A0 F2 R2 C1;obtain⟨_,_,u2⟩:=A0.form;subst u2;clear hR;refine w0a ⟨Z,?_⟩;refine M1a ⟨(St.front (A:=[_,_,_,_,_,_,_,_,_,_,_]) J0),a1⟩ Z Z Z ?_;refine p0a t3a.slT Z (by rfl) Z Z ?_;refine f0a ?_;refine C6a ⟨(St.front (A:=[_,_,_,_,_,_,_,_,_,_,_]) J0),a1⟩ ?_
  first|refine u0a (kk:=5) J0 E9b Z Z Z (by(simp;omega)) ?_
  intro C2 m0 K0;replace f0:=f0.keep (K0.mono (by simp));refine w0a ⟨Z,?_⟩
  try have f0:=hR.keep (KM.mono (fun g hg=>List.mem_append_left _ (List.mem_append_left _ hg)))
  refine fO0 Z U (s0a v3a Z (by exact m0.cell 4 Z Z) Z ?_);refine lO0 Z U (s0a M0a Z (by exact m0.cell 9 Z Z) Z ?_);refine lO0 Z U (s0a M0a Z (by exact m0.cell 3 Z Z) Z ?_);refine L0a T0a.slT Z Z Z ?_
  first|refine u0a (kk:=6) m0 m8a Z Z Z (by(simp;omega)) ?_
  intro z1 a0 x0;replace f0:=f0.keep (x0.mono (by simp));refine lO0 Z U (s0a M0a Z (by exact a0.cell 3 Z Z) Z ?_);refine lB0 Z U (fun q0=>?_) fun q0=>?_
  ·refine lO0 Z U (s0a v3a Z (by exact a0.cell 4 Z Z) Z ?_);refine lO0 Z U (s0a M0a Z (by exact a0.cell 3 Z Z) Z ?_);have q6:=I2 (by omega);refine L0a T0a.slT Z Z Z ?_
   first|refine u0a (kk:=6) a0 m8a Z Z Z (by(simp;omega)) ?_
   intro A1 n0 y0;replace f0:=f0.keep (y0.mono (by simp));refine lO0 Z U (z1a Q0a Z (n0.cells 4 Z) Z Z ?_)
   first|refine e0a (kk:=8) (vs:=[_,_,_]) n0 o2a Z Z Z Z Z Z Z ?_
   intro B0 b0 g0;dsimp only[n0a,List.set] at b0;replace f0:=f0.keep (g0.mono (by simp));refine lR0 Z U ?_;have SF:=b0.setEnt 6 Z (show _=(atC c t s).map (Value.int .i64)++j0 by exact Y6b q0);have r0:=s6a c t s;rw[E7a J2 c1 v1 (k:=k)] at o0 ⊢;have SG:=SF.setEnt 5 Z (congrArg (fun i=>vs.set i _) (show 0+(t:Int).toNat*1=t by simp));refine H1a (n:=3) Z Q0a Z (SG.cells 8 Z) Z ⟨⟨_,Z,_,_,_,Z,Q0.rdI SG (k:=7) Z hM (y3a hp o0.mem) (by simp;omega),?_,?_⟩,SG.fin⟩
   ·have:=(A3a.ofPad (g:=ga) (l:=atC c t s) (pad:=j0) (by rw[r0];exact E0)).rdI SG (k:=6) Z hM (D6a hp o0) (by rw[r0];omega);rw[r0] at this;exact this
   ·have hA:=SG.apartM (A:=[_,_,_,_,_,_,_,_,_,_,_]) hM;have:=SG.rdBs (M:=M) 5 Z (V0a hM (SG.new 5 Z)) (bs:=c.buf.set t _) (by simp;omega) (f0.rd (A:=[_,_,_,_,_,_,_,_,_,_,_]) SG (Mx:=M) (fun g hg=>by simp[hg]) hA (fun x hx=>by
     obtain⟨q,hq,rfl⟩:=List.getElem_of_mem hx;have:=(o0.bufs q _ (List.getElem?_eq_getElem hq)).1;omega))
    rw[List.length_set] at this;exact this
  refine lO0 Z U (z1a Q0a Z (a0.cells 4 Z) Z Z ?_)
  first|refine e0a (kk:=8) (vs:=[_,_,_]) a0 o2a Z Z Z Z Z Z Z ?_
  intro B0 b0 g0;dsimp only[n0a,List.set] at b0;replace f0:=f0.keep (g0.mono (by simp));refine lR0 Z U ?_;have SF:=b0.setEnt 6 Z (show _=(atC c t s).map (Value.int .i64)++j0 by exact q2c q0);have r0:=s6a c t s;rw[E7a J2 c1 v1 (k:=k)] at o0 ⊢;have SG:=SF.setEnt 5 Z (congrArg (fun i=>vs.set i _) (show 0+(t:Int).toNat*1=t by simp));refine H1a (n:=3) Z Q0a Z (SG.cells 8 Z) Z ⟨⟨_,Z,_,_,_,Z,Q0.rdI SG (k:=7) Z hM (y3a hp o0.mem) (by simp;omega),?_,?_⟩,SG.fin⟩
  ·have:=(A3a.ofPad (g:=ga) (l:=atC c t s) (pad:=j0) (by rw[r0];exact E0)).rdI SG (k:=6) Z hM (D6a hp o0) (by rw[r0];omega);rw[r0] at this;exact this
  ·have hA:=SG.apartM (A:=[_,_,_,_,_,_,_,_,_,_,_]) hM;have:=SG.rdBs (M:=M) 5 Z (V0a hM (SG.new 5 Z)) (bs:=c.buf.set t _) (by simp;omega) (f0.rd (A:=[_,_,_,_,_,_,_,_,_,_,_]) SG (Mx:=M) (fun g hg=>by simp[hg]) hA (fun x hx=>by
    obtain⟨q,hq,rfl⟩:=List.getElem_of_mem hx;have:=(o0.bufs q _ (List.getElem?_eq_getElem hq)).1;omega))
   rw[List.length_set] at this;exact this
 try have f0:=hR.keep (KM.mono (fun g hg=>List.mem_append_left _ (List.mem_append_left _ hg)))
 refine lO0 Z U (s0a v3a Z (by exact S.cell 4 Z Z) Z ?_);refine lO0 Z U (s0a M0a Z (by exact S.cell 9 Z Z) Z ?_);refine lO0 Z U (s0a M0a Z (by exact S.cell 3 Z Z) Z ?_);refine L0a T0a.slT Z Z Z ?_
 first|refine u0a (kk:=6) S m8a Z Z Z (by(simp;omega)) ?_
 intro z1 a0 x0;replace f0:=f0.keep (x0.mono (by simp));refine lO0 Z U (s0a M0a Z (by exact a0.cell 3 Z Z) Z ?_);refine lB0 Z U (fun q0=>?_) fun q0=>?_
 ·refine lO0 Z U (s0a v3a Z (by exact a0.cell 4 Z Z) Z ?_);refine lO0 Z U (s0a M0a Z (by exact a0.cell 3 Z Z) Z ?_);have q6:=I2 (by omega);refine L0a T0a.slT Z Z Z ?_
  first|refine u0a (kk:=6) a0 m8a Z Z Z (by(simp;omega)) ?_
  intro A1 n0 y0;replace f0:=f0.keep (y0.mono (by simp));refine lO0 Z U (z1a Q0a Z (n0.cells 4 Z) Z Z ?_)
  first|refine e0a (kk:=8) (vs:=[_,_,_]) n0 o2a Z Z Z Z Z Z Z ?_
  intro B0 b0 g0;dsimp only[n0a,List.set] at b0;replace f0:=f0.keep (g0.mono (by simp));refine lR0 Z U ?_;have SF:=b0.setEnt 6 Z (show _=(atC c t s).map (Value.int .i64)++j0 by exact Y6b q0);have r0:=s6a c t s;rw[t2b c1 (k:=k)] at o0 ⊢;have SG:=SF;refine H1a (n:=3) Z Q0a Z (SG.cells 8 Z) Z ⟨⟨_,Z,_,_,_,Z,Q0.rdI SG (k:=7) Z hM (y3a hp o0.mem) (by simp;omega),?_,?_⟩,SG.fin⟩
  ·have:=(A3a.ofPad (g:=ga) (l:=atC c t s) (pad:=j0) (by rw[r0];exact E0)).rdI SG (k:=6) Z hM (D6a hp o0) (by rw[r0];omega);rw[r0] at this;exact this
  ·have hA:=SG.apartM (A:=[_,_,_,_,_,_,_,_,_,_,_]) hM;have:=SG.rdBs (M:=M) 5 Z (V0a hM (SG.new 5 Z)) (bs:=c.buf) (by omega) (f0.rd (A:=[_,_,_,_,_,_,_,_,_,_,_]) SG (Mx:=M) (fun g hg=>by simp[hg]) hA (fun x hx=>by
    obtain⟨q,hq,rfl⟩:=List.getElem_of_mem hx;have:=(o0.bufs q _ (List.getElem?_eq_getElem hq)).1;omega))
   exact this
 refine lO0 Z U (z1a Q0a Z (a0.cells 4 Z) Z Z ?_)
 first|refine e0a (kk:=8) (vs:=[_,_,_]) a0 o2a Z Z Z Z Z Z Z ?_
 intro B0 b0 g0;dsimp only[n0a,List.set] at b0;replace f0:=f0.keep (g0.mono (by simp));refine lR0 Z U ?_;have SF:=b0.setEnt 6 Z (show _=(atC c t s).map (Value.int .i64)++j0 by exact q2c q0);have r0:=s6a c t s;rw[t2b c1 (k:=k)] at o0 ⊢;have SG:=SF;refine H1a (n:=3) Z Q0a Z (SG.cells 8 Z) Z ⟨⟨_,Z,_,_,_,Z,Q0.rdI SG (k:=7) Z hM (y3a hp o0.mem) (by simp;omega),?_,?_⟩,SG.fin⟩
 ·have:=(A3a.ofPad (g:=ga) (l:=atC c t s) (pad:=j0) (by rw[r0];exact E0)).rdI SG (k:=6) Z hM (D6a hp o0) (by rw[r0];omega);rw[r0] at this;exact this
 ·have hA:=SG.apartM (A:=[_,_,_,_,_,_,_,_,_,_,_]) hM;have:=SG.rdBs (M:=M) 5 Z (V0a hM (SG.new 5 Z)) (bs:=c.buf) (by omega) (f0.rd (A:=[_,_,_,_,_,_,_,_,_,_,_]) SG (Mx:=M) (fun g hg=>by simp[hg]) hA (fun x hx=>by
   obtain⟨q,hq,rfl⟩:=List.getElem_of_mem hx;have:=(o0.bufs q _ (List.getElem?_eq_getElem hq)).1;omega))
  exact this
def NC(w:World)(rs:List (Nat×Obj)):Prop:=∀x∈rs,w.heap[x.1]?=some x.2∧∀a t f,x.2≠.cells a t f
theorem NC.nil{w:World}:NC w []:=fun x hx=>by cases hx
theorem NC.lt{w:World}{rs:List (Nat×Obj)}(h:NC w rs):∀x∈rs,x.1<w.heap.size:=fun x hx=>by
 have:=(h x hx).1;rcases Nat.lt_or_ge x.1 w.heap.size with h'|h'
 ·exact h'
 ·rw[Array.getElem?_eq_none h'] at this;cases this
theorem NC.keep{w w':World}{rs:List (Nat×Obj)}(h:NC w rs)(k:z0a [] w w'):NC w' rs:=fun x hx=>⟨(k.same x.1 (h.lt x hx) (by simp)).trans (h x hx).1,(h x hx).2⟩
theorem NC.ne{w:World}{rs:List (Nat×Obj)}(h:NC w rs){g t:Nat}{cs:List Value}(hg:E0a w (g,t,cs)):∀x∈rs,x.1≠g:=fun x hx he=>by
 have h1:=(h x hx).1;rw[he] at h1;unfold E0a at hg;rw[hg] at h1;exact(h x hx).2 _ _ _ (Option.some.inj h1).symm
theorem NC.keepS{w w':World}{rs:List (Nat×Obj)}(h:NC w rs){g t:Nat}{cs:List Value}(k:z0a [g] w w')(hg:E0a w (g,t,cs)):NC w' rs:=fun x hx =>
 ⟨(k.same x.1 (h.lt x hx) (by rw[List.mem_singleton];exact h.ne hg x hx)).trans (h x hx).1,(h x hx).2⟩
theorem NC.keepL{w w':World}{rs:List (Nat×Obj)}(h:NC w rs){Gs:List Nat}(k:z0a Gs w w')(hg:∀g∈Gs,∃t cs,E0a w (g,t,cs)):NC w' rs:=fun x hx =>
 ⟨(k.same x.1 (h.lt x hx) (fun hh=>by obtain⟨t,cs,hb⟩:=hg _ hh;exact h.ne hb x hx Z)).trans (h x hx).1,(h x hx).2⟩
theorem NC.tail{w:World}{x:Nat×Obj}{rs:List (Nat×Obj)}(h:NC w (x::rs)):NC w rs:=fun y hy=>h y (List.mem_cons_of_mem _ hy)
theorem NC.cons{w:World}{x:Nat×Obj}{rs:List (Nat×Obj)}(h:NC w rs)(h1:w.heap[x.1]?=some x.2)(h2:∀a t f,x.2≠.cells a t f):NC w (x::rs):=fun y hy=>by
 rcases List.mem_cons.1 hy with rfl|hy
 ·exact⟨h1,h2⟩
 ·exact h y hy
theorem NC.put{w:World}{l:Nat}{o o':Obj}{rs:List (Nat×Obj)}(h:NC w ((l,o)::rs))(hl:∀x∈rs,x.1≠l)(ho:∀a t f,o'≠.cells a t f):NC (w.putObj l o') ((l,o')::rs):=by
 have a0:=h.lt (l,o) (by simp);refine NC.cons (fun x hx=>⟨?_,(h.tail x hx).2⟩) (World.putObj_heap_same a0) ho;rw[World.putObj_heap_other (hl x hx)];exact(h.tail x hx).1
theorem St.putObj{M:List Nat}{w0 w:World}{L:List Ent}(S:St M w0 w L){l:Nat}(o:Obj){rs:List (Nat×Obj)}{o1:Obj}(h:NC w rs)(hx:(l,o1)∈rs)(hl:w0.heap.size≤l∨l∈M):St M w0 (w.putObj l o) L:=by
 refine⟨S.below.putObj o hl,fun b hb g hg=>⟨(S.own b hb g hg).1,(S.own b hb g hg).2.putObj (fun he=>?_)⟩,S.apart⟩;exact h.ne (S.own b hb g hg).2 _ hx he.symm
def Z7a(rs:List Nat):List (Nat×Obj):=rs.map fun r=>(r,.deferred (some []))
theorem Y0c{rs:List Nat}{x:Nat×Obj}(h:x∈Z7a rs):x.1∈rs:=by
 obtain⟨_,hr,rfl⟩:=List.mem_map.1 h;exact hr
def i6a(P:Program)(fn:Func)(R:Value→World→Prop)(D:List Deferred)(e:Env)(w:World):Prop :=
 ∃rs:List Nat,D=rs.map y5a∧rs.Nodup∧NC w (Z7a rs)∧∀w',S0a rs w w'→w'.heap.size=w.heap.size→∀tmps:Array Value,Y0a { tmps,defers:=[] }=e→∃v,(results fn tmps).run P w'=.ok v w'∧R v w'
theorem a0b{P:Program}{fn:Func}{tmps:Array Value}{R:Value→World→Prop}:∀(rs:List Nat) (w:World),rs.Nodup→NC w (Z7a rs)→(∀w',S0a rs w w'→w'.heap.size=w.heap.size→∃v,(results fn tmps).run P w'=.ok v w'∧R v w') →
 LeavesInM Fence.wide 0 P fn tmps (fun en w'=>∃v,en=.returned v∧R v w') (rs.map y5a) .returning w
 | [],w,_,_,h=>by
   obtain⟨v,h1,h2⟩:=h w (S0a.refl _ _) Z;exact⟨v,h1,v,Z,h2⟩
 | r::rs,w,hn,hO,h=>by
   obtain⟨a0,b0⟩:=List.nodup_cons.1 hn;have hr:w.heap[r]?=some (.deferred (some [])):=(hO (r,.deferred (some [])) (by simp[Z7a])).1;refine⟨by simp,.inl ⟨r,_,Z,run_takeDeferred hr,a0b rs _ b0 (fun x hx=>⟨?_,(hO x (by simp[Z7a] at hx ⊢;exact .inr hx)).2⟩) fun w' hb hs=>?_⟩⟩
   ·rw[World.putObj_heap_other (show x.1≠r from fun he=>a0 (by rw[←he];exact Y0c hx))];exact(hO x (by simp[Z7a] at hx ⊢;exact .inr hx)).1
   ·refine h w' ⟨hb.os,hb.tape,hb.output,by simpa using hb.size,fun k hk hm=>?_⟩ (by simpa using hs);simp only[List.mem_cons,not_or] at hm;rw[hb.block k (by simpa using hk) hm.2,World.putObj_heap_other hm.1]
theorem N3a{P:Program}{N:Nat}{w:World}{f:FuncId}{fn:Func}{c:Code}{args:Array Value}{R:Value→World→Prop}(hf:P.funcs[f]?=some fn)(hb:fn.body=some c)(hN:fn.ntmps=N)(a0:Nat.ble args.size N=true)
 (h:W P none N c ⟨i6a P fn R,fun _ _ _ _=>False,i6a P fn R⟩ [] (w1b args) w):N0a P f args w R:=by
 subst hN;unfold W at h;have b0:(args++Array.replicate (fn.ntmps-args.size) undef).size=fn.ntmps:=by
  have:=Nat.le_of_ble_eq_true a0;simp;omega
 have h1:=h { tmps:=args++Array.replicate (fn.ntmps-args.size) undef,defers:=[] } b0 Z (v1b _ _);have key:∀(a:Act) (w:World),i6a P fn R a.defers (Y0a a) w→LeavesInM Fence.wide 0 P fn a.tmps (fun en w'=>∃v,en=.returned v∧R v w') a.defers .returning w:=by
  intro a w hq;obtain⟨rs,hD,hn,hO,hq⟩:=hq;rw[hD];exact a0b rs w hn hO fun w' hb hs=>hq w' hb hs a.tmps Z
 refine callsIn_wide (n:=0).1 (callsIn_of_wp_marks hf hb trivial (wpIn_mono h1 fun ex a w hq=>?_));cases ex with
 | normal=>exact key a w hq.2
 | ret=>exact key a w hq.2
 | exit id=>exact hq.2
 | goto l=>exact hq
 | panic c=>exact hq.elim
 | outgrown=>exact hq.elim
section
variable {P:Program} {fn:Func} {R:Value→World→Prop} {D:List Deferred} {e:Env} {w:World}
theorem D2a{a1 t1 n a2 t2 g1 g2:Nat}{cs:List Value}{v2:Value}(h:fn.results=#[.cell a1 t1,.cell a2 t2])(hM:S8a P t1 n)(a0:One P t2)(e1:e a1=.pointer (some ⟨g1,0,none⟩))(e2:e a2=.pointer (some ⟨g2,0,none⟩))(d0:cs.length=n)
 (rs:List Nat) (hD:D=rs.map y5a) (hn:rs.Nodup) (hO:NC w (Z7a rs)) (b0:O1a w g1 0 cs) (c0:w.cell? ⟨g2,0,none⟩=some v2) (hR:∀w',S0a rs w w'→R (.tuple #[.agg cs.toArray,v2]) w') (hg1:g1∉rs:=by simp) (hg2:g2∉rs:=by simp):i6a P fn R D e w :=
 ⟨rs,hD,hn,hO,fun w' hb _ tmps he=>by
  have hk:z0a rs w w':=⟨hb.size,hb.block⟩;have c1:=b0.keep hk hg1;have c2:=hk.cell (a:=⟨g2,0,none⟩) hg2 c0;subst he;subst d0;simp only[Y0a,Array.getD_eq_getD_getElem?] at e1 e2;have h1:=run_loadCells_list (P:=P) w' ⟨g1,0,none⟩ cs (fun j v hj=>by rw[Addr.add_lit];exact c1 j v hj);have h2:(loadVar t2 ⟨g2,0,none⟩).run P w'=.ok v2 w':=by rw[a0 w'];simp[load,Sem.run,c2]
  exact⟨_,by simp[results,h,asAddr,e1,e2,hM w',h1,h2],hR w' hb⟩⟩
end
theorem z0a.of_belowM{M:List Nat}{w w':World}(h:S0a M w w'):z0a M w w':=⟨h.size,h.block⟩
theorem o6a{w wi:World}{rs:List (Nat×Obj)}{rc:Loop}(hO:NC w rs)(a0:wi.heap[w.heap.size]?=some (.deferred (some [])))(hl:wi.heap[w.heap.size+1]?=some (.loop rc))(hB:Below w.heap.size w wi):NC wi ((w.heap.size+1,.loop rc)::(w.heap.size,.deferred (some []))::rs) :=
 ((hO.keep (z0a.of_below hB)).cons a0 (by simp)).cons hl (by simp)
theorem v4a{m:Int}{b:List K0a}{i:Nat}{en:K0a}(h:b[i]?=some en):T3a m b i=(decide (i=0)||(decide (m=2)&&!((b.take i).any fun o=>A9a o en))):=by
 unfold T3a
 congr 2
 rw[Bool.eq_iff_iff];rw[List.all_eq_true,Bool.not_eq_true',List.any_eq_false];have a0:=g1a h;constructor
 ·intro h1 o ho;obtain⟨j,hj,rfl⟩:=List.getElem_of_mem ho;rw[List.length_take] at hj;have:=h1 j (List.mem_range.2 (by omega));rw[h,List.getElem?_eq_getElem (by omega)] at this;rw[List.getElem_take];simpa using this
 ·intro h1 j hj;have hj:=List.mem_range.1 hj;rw[h,List.getElem?_eq_getElem (show j<b.length by omega)];have:=h1 b[j] (by rw[List.mem_take_iff_getElem];exact⟨j,by omega,Z⟩);simpa using this
theorem y7c(cs:List Value)(h8:cs.length=8)(t:Int)(w0:World):
 N0a prog 144 #[.agg cs.toArray,.int .i64 t] w0 fun v w'=>(∃gs gt,v=.func (.func 184) #[] #[.pointer (some ⟨gs,0,none⟩),.pointer (some ⟨gt,0,none⟩)]∧w0.heap.size≤gs∧w0.heap.size≤gt∧E0a w' (gs,206,cs)∧E0a w' (gt,3,[.int .i64 t]))∧Below w0.heap.size w0 w':=by
 have S:=St.refl w0
 match cs,h8 with
 | [c0,c1,c2,c3,c4,c5,c6,c7],_ =>
 refine a0a func144 Z ntmps144 Z ?_;refine wO0 Z U (m0a S Z ?_);intro g2 w2 S2 X2 G2;refine O8a S2 (v:=.int .i64 _) Z Z Z ?_;intro g3 w3 S3 X3 G3;refine lO0 Z U (e2a Z Z ?_);refine lR0 Z U (r0a Z ?_);exact⟨⟨g2,g3,Z,by simpa using S3.new 1 Z,by simpa using S3.new 0 Z,S3.blk 1 Z,S3.blk 0 Z⟩,S3.fin⟩
theorem z3c(c:G0a)(m:Int)(t:Nat)(b:List K0a)(R0:c.buf[t]?=some b)(gs gt l:Nat)(Mf:List Nat)(w0:World)(xs ps:List Value)(b1:ps.length=4)(J:Nat→World→Prop)(Q:World→Prop)
 (hX:D0a Mf w0 c xs) (a1:gs∉Mf) (P0:E0a w0 (gs,206,xs++(ps++[.int .i64 m]))) (Z0:E0a w0 (gt,3,[.int .i64 t]))
 (X0:J 0 w0) (Y0:∀i w,J i w→z0a Mf w0 w) (r0:∀i w w',J i w→Below w.heap.size w w'→J i w') (O0:∀i w,J i w→i<b.length→T3a m b i=false→J (i+1) w)
 (hY:∀(i:Nat) (en:K0a) (w:World) (es:List Value),b[i]?=some en→T3a m b i=true→J i w→(∀(M':List Nat) (w':World),(∀g∈M',g∈Mf∨w0.heap.size≤g)→z0a M' w0 w'→O0a M' w' es en)→Yld prog l #[.int .i64 i,.agg es.toArray] w fun v w'=>(v=.bool true∧J (i+1) w')∨(v=.bool false∧Q w')) :
 N0a prog 184 #[.func (.yield l) #[] #[],.pointer (some ⟨gs,0,none⟩),.pointer (some ⟨gt,0,none⟩)] w0 fun _ w'=>J b.length w'∨Q w':=by
 obtain⟨_,_,_,_,_,_,Xb,xb,yb,rfl,_,_,x0,_⟩:=hX.open_
 match ps,b1 with
 | [c3,c4,c5,c6],_ =>
 have S:=St.refl w0;have z0:w0.cell? ⟨gs,2,none⟩=some (.slice Xb xb yb):=P0.cell Z;have A0:w0.cell? ⟨gt,0,none⟩=some (.int .i64 t):=Z0.cell Z;have ht:=g1a R0;refine a0a func184 Z ntmps184 Z ?_;refine wO0 Z U (s0a e4a Z (by exact S.old z0) Z ?_);refine s0a M0a Z (by exact S.old A0) Z ?_;obtain⟨_,U0,c1,_,G0,u0,_,_,B0,E0⟩:=RdS.get (x0) (t) (by omega);obtain rfl:=Option.some.inj (R0.symm.trans G0);obtain⟨p0,c0,g0,rfl,d0,_⟩:=R4a.open_ E0;refine lC (S.k.a B0) [.x U0 c1,.f 0 0] Z ⟨Z,⟨u0,by omega⟩,U⟩ (wL (fun μ D ε w=>D=[]∧∃k:Nat,(k+μ=b.length)∧(J k w)∧ε 0=.func (.yield l) #[] #[]∧ε 1=.pointer (some ⟨gs,0,none⟩)∧ε 4=.slice p0 c0 g0∧ε 13=.slice p0 c0 g0∧ε 14=.int .i64 c0∧ε 15=.int .i64 k) (μ:=b.length) ⟨Z,0,by omega,X0,Z,Z,Z,Z,Z,Z⟩ ?_);rintro μ D ε w ⟨rfl,k,hk,hJ,e0,e1,e4,J0,K0,L0⟩;refine t0a 0 e0 (t0a 1 e1 (t0a 4 e4 (t0a 13 J0 (t0a 14 K0 (t0a 15 L0 ?_)))));clear e0 e1 e4 J0 K0 L0;have q0:=Y0 _ _ hJ;have v0:=RdS.keepW d0 q0 (O0a.keep q0);have j0:=(RdS.mono d0 (R':=fun cs x=>∀(M':List Nat) (w':World),(∀g∈M',g∈Mf∨w0.heap.size≤g)→z0a M' w0 w'→O0a M' w' cs x) (fun cs x h M' w' hm hk=>O0a.keep hk _ _ (O0a.more hm _ _ h))).keep q0;have y0:w.cell? ⟨gs,7,none⟩=some (.int .i64 m):=q0.cell (a:=⟨gs,7,none⟩) a1 (P0.cell Z);replace S:=St.refl w;refine wB0 Z U (fun V0=>?_) fun V0=>?_
 ·obtain⟨en,I0,S0,_,a0,i0,_,D0,C0,o0⟩:=RdS.get (j0) (k) (by omega);have Q0:=o0 Mf _ (fun g hg=>.inl hg) q0;obtain⟨_,_,_,_,_,_,rfl,-⟩:=O0a.open_ Q0;refine lO (S.k.a C0) [.x I0 S0,.v 0] Z ⟨⟨Z,D0⟩,⟨i0,by omega⟩,U⟩ (j0a S q1b Z Z ?_);intro g6 w6 S6 X6 G6;refine lO0 Z U ?_
  first|refine e0a (kk:=0) (vs:=[_,_]) S6 U3b Z Z Z Z Z Z Z ?_
  intro g1 f0 T0;dsimp only[n0a,List.set] at f0;refine lC0 Z U (v0a b0a [0,1,2,3,4,5,6,7,8,9,10,11,12,13] [] [] Z (Cl _ _ _ _) (Cl.start f0) ?_);refine qB0 Z U (fun W0=>?_) fun W0=>?_
  ·refine qO0 Z U (o0a M0a Z (fun w1 hw=>by exact hw.1.old y0) Z ?_);refine qB0 Z U (fun N0=>?_) fun N0=>?_
   ·refine qD Z U ?_;rintro H0 ⟨b0,s0⟩;refine lP0 Z ⟨by omega,U⟩ ?_;exact⟨μ-1,by omega,Z,k+1,by omega,r0 _ _ _ (O0 _ _ hJ (by omega) (by rw[v4a a0,decide_eq_false (show ¬k=0 by omega),decide_eq_false (show ¬m=2 from N0)];rfl)) b0.fin,Z,Z,Z,Z,Z,Z⟩
   refine qO0 Z U ?_;refine p7b (h2:=(by have:=j0.len;omega)) (lo:=0) (hi:=k) (kd:=.i64) D3a.slT (show _=Value.slice (some ⟨I0,S0,none⟩) c0 g0 by rw[←i0];rfl) (.inl ⟨Z,Z⟩) (.inr Z) j0.len.2.1 Z ?_;simp only[Nat.zero_mul,Nat.add_zero,Nat.sub_zero,ite_self];refine qO f0.q [.w 0] Z ⟨⟨Z,by rfl⟩,U⟩ (Z1a g0d Z Z (fun w1 S1 X1=>H9b (b.take k) en Mf _ _ _ (RdS.take (RdS.keepW (i0▸v0) (S1.keep0 Mf) (O0a.keep (S1.keep0 Mf))) k (by omega)) (O0a.keep (S1.keep0 Mf) _ _ Q0)) (fun t0=>?_) fun t0=>?_)
   ·refine qD Z U ?_;rintro H0 ⟨b0,s0⟩;refine lP0 Z ⟨by omega,U⟩ ?_;exact⟨μ-1,by omega,Z,k+1,by omega,r0 _ _ _ (O0 _ _ hJ (by omega) (by rw[v4a a0,decide_eq_false (show ¬k=0 by omega),t0];simp)) b0.fin,Z,Z,Z,Z,Z,Z⟩
   refine qD Z U ?_;rintro H0 ⟨b0,s0⟩;refine lO b0.k [.w 0] Z ⟨⟨Z,by rfl⟩,U⟩ ?_;have F0:T3a m b k=true:=by
    rw[v4a a0];rw[decide_eq_true (show m=2 by omega),t0];simp
   refine n9a Z Z Z (hY k en _ _ a0 F0 (r0 _ _ _ hJ b0.fin) o0) ?_;rintro d1 f1 (⟨rfl,m0⟩|⟨rfl,n0⟩)
   ·exact lP0 Z ⟨by omega,U⟩ ⟨μ-1,by omega,Z,k+1,by omega,m0,Z,Z,Z,Z,Z,Z⟩
   refine lR0 Z U (c2a Z ?_);exact .inr n0
  refine qD Z U ?_;rintro H0 ⟨b0,s0⟩;refine lO b0.k [.w 0] Z ⟨⟨Z,by rfl⟩,U⟩ ?_;have F0:T3a m b k=true:=by
   rw[v4a a0];rw[decide_eq_true (show k=0 by omega)];rfl
  refine n9a Z Z Z (hY k en _ _ a0 F0 (r0 _ _ _ hJ b0.fin) o0) ?_;rintro d1 f1 (⟨rfl,m0⟩|⟨rfl,n0⟩)
  ·exact lP0 Z ⟨by omega,U⟩ ⟨μ-1,by omega,Z,k+1,by omega,m0,Z,Z,Z,Z,Z,Z⟩
  refine lR0 Z U (c2a Z ?_);exact .inr n0
 refine lF0 Z U (c2a Z ?_);obtain rfl:k=b.length:=by omega
 exact .inl hJ
theorem s0b{rc:Loop}(b0:rc.state=.ready)(a0:rc.pending=none):({ ({ rc with state:=.busy }:Loop) with state:=if(none:Option Code).isNone then .ready else .done,pending:=none }:Loop)=rc:=by
 cases rc;simp at b0 a0 ⊢;exact⟨b0.symm,a0.symm⟩
theorem P7c{M:List Nat}{w0 w:World}{L:List Ent}(S:St M w0 w L)(k:Nat){G:Option Nat}{t:TypeId}{cs:List Value}(hk:L[k]?=some (G,t,cs)):∀g∈G.toList,∃t cs,E0a w (g,t,cs):=fun g hg=>by
 have:G=some g:=by cases G<;>simp at hg ⊢;exact hg.symm
 subst this;exact⟨_,_,S.blk k hk⟩
theorem g1c{w0 w:World}{L:List Ent}(S:St [] w0 w L)(k:Nat){G:Option Nat}{t:TypeId}{cs:List Value}(hk:L[k]?=some (G,t,cs)):∀g∈G.toList,w0.heap.size≤g:=fun g hg=>by
 have:G=some g:=by cases G<;>simp at hg ⊢;exact hg.symm
 subst this;simpa using S.new k hk
def i0b(p:h0a)(m:Int)(c:G0a)(x:c0a):G0a×Int:=if x∈J0a p m c then(doC p m c x,0) else(⟨[],[],[]⟩,110)
theorem F3a{p:h0a}{m:Int}{c:G0a}{x:c0a}(h:x∈J0a p m c):i0b p m c x=(doC p m c x,0):=if_pos h
theorem h3a{p:h0a}{m:Int}{c:G0a}{x:c0a}(h:x∉J0a p m c):i0b p m c x=(⟨[],[],[]⟩,110):=if_neg h
theorem U2a{M:List Nat}{w:World}:D0a M w ⟨[],[],[]⟩ [.slice none 0 0,.slice none 0 0,.slice none 0 0]:=⟨_,_,_,Z,a2a,a2a,a2a⟩
section
variable {p:h0a} {m:Int} {c:G0a} {t:Nat} {b:List K0a}
theorem i2b{x:c0a}(h:x.thread<0∨p.threads.length≤x.thread):x∉J0a p m c:=fun hx=>by
 obtain⟨_,_,⟨i,_,_,_,rfl⟩|⟨i,_,_,rfl⟩⟩:=X1a.1 hx
 ·simp at h;omega
 ·simp at h;omega
theorem x3c{x:c0a}(h:x.step < -1):x∉J0a p m c:=fun hx=>by
 obtain⟨_,_,⟨i,_,_,_,rfl⟩|⟨i,_,_,rfl⟩⟩:=X1a.1 hx
 ·simp at h;omega
 ·simp at h
theorem T3c{st cell:Int}(hs:0≤st)(h:¬cell=0):(⟨t,st,cell⟩:c0a)∉J0a p m c:=fun hx=>by
 obtain⟨t,_,⟨i,_,_,_,h1⟩|⟨i,_,_,h1⟩⟩:=X1a.1 hx
 ·simp at h1;omega
 ·simp at h1;omega
theorem C4c{th:U0a}(a0:p.threads[t]?=some th){st cell:Int}(hs:0≤st)(h:th.steps.length≤st):(⟨t,st,cell⟩:c0a)∉J0a p m c:=fun hx=>by
 obtain⟨t',_,⟨i,_,h1,_,h2⟩|⟨i,_,_,h1⟩⟩:=X1a.1 hx
 ·simp only[c0a.mk.injEq] at h2;obtain⟨_,rfl,rfl⟩:=h2;obtain rfl:t=t':=by omega
  rw[P1a a0] at h1;have:=g1a h1;omega
 ·simp at h1;omega
theorem Z7c{th:U0a}(a0:p.threads[t]?=some th){i:Nat}{s:v1a}(hs:th.steps[i]?=some s){cell:Int}(h:b1a p m c t s=false):(⟨t,i,cell⟩:c0a)∉J0a p m c:=fun hx=>by
 obtain⟨t',_,⟨i',_,h1,h2,h3⟩|⟨i',_,_,h1⟩⟩:=X1a.1 hx
 ·simp only[c0a.mk.injEq] at h3;obtain⟨_,_,rfl⟩:=h3;obtain rfl:t=t':=by omega
  obtain rfl:i=i':=by omega
  rw[P1a a0,hs] at h1;cases h1;rw[h] at h2;cases h2
 ·simp only[c0a.mk.injEq] at h1;omega
theorem Z8c{th:U0a}(a0:p.threads[t]?=some th){i:Nat}{s:v1a}(hs:th.steps[i]?=some s)(h:b1a p m c t s=true):(⟨t,i,0⟩:c0a)∈J0a p m c :=
 X1a.2 ⟨t,g1a a0,.inl ⟨i,s,by rw[P1a a0];exact hs,h,Z⟩⟩
theorem c1d{th:U0a}(a0:p.threads[t]?=some th){i:Nat}{s:v1a}(hs:th.steps[i]?=some s):doC p m c ⟨t,i,0⟩=I6a p m c t s:=s6b (by rw[P1a a0];exact hs)
theorem d4c(hb:c.buf[t]?=some b){xc:Int}(h:∀q en,q<b.length→b[q]?=some en→T3a m b q=true→en.cells.getD 0 0≠xc):(⟨t,-1,xc⟩:c0a)∉J0a p m c:=fun hx=>by
 obtain⟨t',_,⟨_,_,h1,h2,h3⟩|⟨i,h1,h2,h3⟩⟩:=X1a.1 hx
 ·simp only[c0a.mk.injEq] at h3;omega
 ·simp only[c0a.mk.injEq] at h3;obtain⟨_,-,h3⟩:=h3;obtain rfl:t=t':=by omega
  rw[getD_some hb] at h1 h2 h3;have hx:b[i]?=some b[i]:=List.getElem?_eq_getElem h1;rw[getD_some hx] at h3;exact h i _ h1 hx h2 h3.symm
theorem f0d(ht:t<p.threads.length)(hb:c.buf[t]?=some b){i:Nat}{en:K0a}(hx:b[i]?=some en)(hr:T3a m b i=true):(⟨t,-1,en.cells.getD 0 0⟩:c0a)∈J0a p m c :=
 X1a.2 ⟨t,ht,.inr ⟨i,by rw[getD_some hb];exact g1a hx,by rw[getD_some hb];exact hr,by rw[getD_some hb,getD_some hx]⟩⟩
theorem w7c(hb:c.buf[t]?=some b)(a0:∀e∈b,e.cells≠[]){i:Nat}{en:K0a}(hx:b[i]?=some en)(hr:T3a m b i=true):doC p m c ⟨t,-1,en.cells.getD 0 0⟩=M4a c t i:=by
 unfold doC;rw[if_pos rfl];simp only[Int.toNat_natCast];rw[getD_some hb];have:(b.findIdx? fun e=>decide (e.cells.getD 0 0=en.cells.getD 0 0))=some i:=by
  rw[List.findIdx?_eq_some_iff_getElem];refine⟨g1a hx,?_,fun j hj=>?_⟩
  ·have:=(List.getElem?_eq_some_iff.1 hx).2;rw[this];simp
  ·simp only[decide_eq_true_eq];intro he;have f0:=g1a hx;have e0:b[j]?=some b[j]:=List.getElem?_eq_getElem (by omega);have d0:¬i=0:=by omega
   rw[v4a hx,decide_eq_false d0] at hr;simp only[Bool.false_or,Bool.and_eq_true,Bool.not_eq_true',List.any_eq_false] at hr;have h1:=hr.2 b[j] (by rw[List.mem_take_iff_getElem];exact⟨j,by omega,Z⟩);apply h1;rw[u7a];have c0:=a0 en (d0a hx);have b0:=a0 b[j] (List.getElem_mem _);refine⟨en.cells.getD 0 0,?_,?_⟩
   ·cases hc:en.cells with
    | nil=>exact absurd hc c0
    | cons a l=>simp
   ·rw[←he];cases hc:(b[j]).cells with
    | nil=>exact absurd hc b0
    | cons a l=>simp
 rw[this];rfl
end
theorem b8a{w0 w:World}{L:List Ent}{M:List Nat}(S:St [] w0 w L){i j g g' t t':Nat}{cs a0:List Value}(h0:L[i]?=some (some g,t,cs))(h1:L[j]?=some (some g',t',a0)):∀x∈g::g'::M,x∈M∨w0.heap.size≤x:=fun x hx=>by
 rcases List.mem_cons.1 hx with rfl|hx
 ·exact .inr (by simpa using S.new i h0)
 ·rcases List.mem_cons.1 hx with rfl|hx
  ·exact .inr (by simpa using S.new j h1)
  ·exact .inl hx
theorem T2b{w0 w:World}{L:List Ent}{M:List Nat}(S:St [] w0 w L){i j g g' t t':Nat}{cs a0:List Value}(h0:L[i]?=some (some g,t,cs))(h1:L[j]?=some (some g',t',a0))(hM:∀g∈M,g<w0.heap.size):∀x∈g::g'::M,x<w.heap.size:=fun x hx=>by
 rcases List.mem_cons.1 hx with rfl|hx
 ·exact S.lt i h0
 ·rcases List.mem_cons.1 hx with rfl|hx
  ·exact S.lt j h1
  ·exact Nat.lt_of_lt_of_le (hM x hx) S.size
theorem InP.two{p:h0a}{M:List Nat}{w0 w:World}{cs:List Value}(h:InP p M w0 cs){L:List Ent}(S:St [] w0 w L){i j g g' t t':Nat}{ds a0:List Value}(h0:L[i]?=some (some g,t,ds))(h1:L[j]?=some (some g',t',a0)):InP p (g::g'::M) w cs :=
 ⟨(h.rd.more (b8a S h0 h1)).keep (S.keep0 _),h.ok,(h.msk.more (b8a S h0 h1)).keep (S.keep0 _),T2b S h0 h1 h.lt⟩
theorem s5b(p:h0a)(c:G0a)(x:c0a)(M:List Nat)(w0:World)(cs xs:List Value)(hI:InP p M w0 cs)(hX:D0a M w0 c xs)(hf:J5a p c)(he:v5a c)(hx:x∉J0a p 0 c):
 N0a prog 145 #[.agg cs.toArray,.agg xs.toArray,.agg #[.int .i64 x.thread,.int .i64 x.step,.int .i64 x.cell]] w0 fun v w'=>v=.tuple #[.agg #[.slice none 0 0,.slice none 0 0,.slice none 0 0],.int .i64 110]∧Below w0.heap.size w0 w':=by
 obtain⟨Ac,nc,cc,Am,nm,cm,Al,nl,cl,At,nt,ct,rfl,_⟩:=hI.rd.open_;obtain⟨Xm,xm,ym,Xa,xa,ya,Xb,xb,yb,rfl,_⟩:=hX.open_;have S:=St.refl w0;refine a0a func145 Z ntmps145 Z ?_;refine wO0 Z U (m0a S Z ?_);intro g3 w3 S3 X3 G3;refine m0a S3 Z ?_;intro g4 w4 S4 X4 G4;refine m0a S4 Z ?_;intro g5 w5 S5 X5 G5;refine j0a S5 r4a Z Z ?_;intro g6 w6 S6 X6 G6;refine lO S6.k [.w 3] Z ⟨⟨Z,Z⟩,U⟩ (i0a S6 b7b Z Z (k7a p M _ _ (hI.keep (S6.keep0 M))) ?_);intro D0 e0 z0;refine lO e0.k [.w 3,.w 2] Z ⟨⟨Z,Z⟩,⟨Z,Z⟩,U⟩ (i0a e0 K1c Z Z (e1b p c M _ _ _ (hI.keep (e0.keep0 M)) (hX.keep (e0.keep0 M)) hf he) ?_);intro E0 f0 A0;refine lO f0.k [.w 3,.w 2] Z ⟨⟨Z,Z⟩,⟨Z,Z⟩,U⟩ (x0a f0 g0c Z Z (R7a p c M _ _ _ (hI.keep (f0.keep0 M)) (hX.keep (f0.keep0 M)) hf he) ?_);rintro C0 p0 hr q0 B0;obtain⟨Ar,nr,cr,rfl⟩:=hr.form;obtain⟨_,-,_⟩:=hr.len;have a0:=z0a.refl [] p0;refine lC0 Z U (wL (fun μk D ε w=>D=[]∧∃k:Nat,(k+μk=((J0a p 0 c).length))∧(z0a [] p0 w)∧St [] w0 w [(some g6,38,[.slice none 0 0,.slice none 0 0,.slice none 0 0]),(some g5,44,[.int .i64 x.thread,.int .i64 x.step,.int .i64 x.cell]),(some g4,38,[.slice Xm xm ym,.slice Xa xa ya,.slice Xb xb yb]),(some g3,27,[.slice Ac nc cc,.slice Am nm cm,.slice Al nl cl,.slice At nt ct])]∧Sl ε [(3,.pointer (some ⟨g3,0,none⟩)),(4,.pointer (some ⟨g4,0,none⟩)),(5,.pointer (some ⟨g5,0,none⟩)),(6,.pointer (some ⟨g6,0,none⟩)),(22,.slice Ar nr cr),(23,.int .i64 nr),(24,.int .i64 k)]) (μ:=((J0a p 0 c).length)) ⟨Z,0,by omega,a0,q0,Z⟩ ?_);rintro μk D ε w ⟨rfl,k,_,a0,S,eZ⟩;refine wK eZ (wB0 Z U (fun t0=>?_) fun t0=>?_)
 ·obtain⟨y,s0,v0,_,u0,i0,_,m0,j0,n0⟩:=RdS.get ((hr.keep a0.of_nil)) (k) (by omega);obtain⟨rfl,_⟩:=id n0;refine lO (S.k.b j0) [.x s0 v0,.v 0] Z ⟨⟨Z,m0⟩,⟨i0,by omega⟩,U⟩ (j0a S f2b Z Z ?_);intro g9 w9 S9 X9 G9;have d0:=Nat.le_trans a0.size G9;replace a0:=a0.trans X9;refine e0a (kk:=0) (vs:=[_,_,_]) S9 H1b Z Z Z Z Z Z Z ?_;intro x0 b0 g0;dsimp only[n0a,List.set] at b0;replace a0:=a0.fresh g0 (by first|exact d0);refine lOn 6 b0.k [.w 2,.w 0] Z ⟨⟨Z,by rfl⟩,⟨Z,Z⟩,U⟩ (C6c r8a Z Z Z (fun o0=>?_) fun o0=>?_)
  ·exact absurd (d0a u0) (by obtain⟨a,b,c⟩:=x;obtain⟨a',b',c'⟩:=y;obtain⟨rfl,rfl,rfl⟩:=o0;exact hx)
  refine lP0 Z ⟨by omega,U⟩ ⟨μk-1,by omega,Z,(k+1),(by omega),(a0),b0.tail,Z⟩
 refine lO0 Z U (d1a k5a (vs:=[]) (cs:=[_,_,_]) Z Z Z Z ?_);refine e0a (kk:=0) (vs:=[_,_,_]) S o2a Z Z Z Z Z Z Z ?_;intro y0 c0 r0;dsimp only[n0a,List.set] at c0;exact lR0 Z U (x2a (n:=3) Z Q0a Z (c0.cells 0 Z) Z Z ⟨Z,c0.fin⟩)
theorem Z1b(p:h0a)(c:G0a)(x:c0a)(M:List Nat)(w0:World)(cs xs:List Value)(hI:InP p M w0 cs)(hX:D0a M w0 c xs)(hf:J5a p c)(he:v5a c):
 N0a prog 145 #[.agg cs.toArray,.agg xs.toArray,.agg #[.int .i64 x.thread,.int .i64 x.step,.int .i64 x.cell]] w0 fun v w'=>(∃ys,v=.tuple #[.agg ys.toArray,.int .i64 (i0b p 0 c x).2]∧D0a M w' (i0b p 0 c x).1 ys)∧Below w0.heap.size w0 w':=by
 by_cases hx:x∈J0a p 0 c
 ·rw[F3a hx];exact H6b p c x M w0 cs xs hI hX hf he hx
 ·rw[h3a hx];exact(s5b p c x M w0 cs xs hI hX hf he hx).mono fun _ _ h=>⟨⟨_,h.1,U2a⟩,h.2⟩
theorem w2a:One prog 31:=u3a Tryz.underlying31 (by intro _ h;cases h) (by intro _ _ h;cases h)
theorem h9b(p:h0a)(c:G0a)(m:Int)(x:c0a)(hm:(m=0∧v5a c)∨m=1∨m=2)(M:List Nat)(w0:World)(cs xs:List Value)(hI:InP p M w0 cs)(hX:D0a M w0 c xs)(hf:J5a p c):
 N0a prog 115 #[.agg cs.toArray,.int .i64 m,.agg xs.toArray,.agg #[.int .i64 x.thread,.int .i64 x.step,.int .i64 x.cell]] w0 fun v w'=>(∃ys,v=.tuple #[.agg ys.toArray,.int .i64 (i0b p m c x).2]∧D0a M w' (i0b p m c x).1 ys)∧Below w0.heap.size w0 w':=by
 obtain⟨Ac,nc,cc,Am,nm,cm,Al,nl,cl,At,nt,ct,rfl,_,_,_,A2,_,_,_,L2,_⟩:=hI.rd.open_;obtain⟨Xm,xm,ym,Xa,xa,ya,Xb,xb,yb,rfl,_⟩:=hX.open_;have S:=St.refl w0;have hM:=hI.lt;have hp:=hI.ok;have f2:=hf.nat;have f3:=hf.nbuf;have n2:=hp.nthreads;obtain⟨xt,g1,xc⟩:=x;simp only;refine N3a func115 Z ntmps115 Z (wI ?_);refine wO0 Z U (m0a S Z ?_);intro g4 w4 S4 X4 G4;refine m0a S4 Z ?_;intro g6 w6 S6 X6 G6;refine m0a S6 Z ?_;intro g7 w7 S7 X7 G7;refine j0a S7 r4a Z Z ?_;intro g8 w8 S8 X8 G8;refine j0a S8 v3c Z Z ?_;intro g9 w9 S9 X9 G9;refine lB0 Z U (fun y2=>?_) fun y2=>?_
 ·have K2:m=0∧v5a c:=by rcases hm with h|h|h;exact h;omega;omega
  obtain⟨rfl,he⟩:=K2;refine lO S9.k [.w 4,.w 3,.w 2] Z ⟨⟨Z,by rfl⟩,⟨Z,by rfl⟩,⟨Z,by rfl⟩,U⟩ (x0a S9 Y9c Z Z (Z1b p c ⟨xt,g1,xc⟩ (g9::g8::M) _ _ _ (hI.two S9 (i:=0) (j:=1) Z Z) ((hX.more (b8a S9 (i:=0) (j:=1) Z Z)).keep (S9.keep0 _)) hf he) ?_);rintro o3 u3 ⟨ys,rfl,hy⟩ r2 d3;obtain⟨Ym,o2,zm,Ya,j2,za,Yb,m2,zb,rfl,-⟩:=hy.open_;refine lO0 Z U ?_
  first|refine e0a (kk:=1) (vs:=[_,_,_]) r2 o2a Z Z Z Z Z Z Z ?_
  intro X2 Q0 n1;dsimp only[n0a,List.set] at Q0;replace hy:=hy.keep (n1.mono (by simp))
  first|refine u0a (kk:=0) Q0 R8a Z Z Z (by exact Nat.le_of_ble_eq_true Z) ?_
  intro Y2 K0 o1;replace hy:=hy.keep (o1.mono (by simp));exact lR0 Z U (D2a (n:=3) Z Q0a w2a Z Z Z [] Z List.nodup_nil NC.nil (K0.cells 1 Z) (K0.cell 0 Z Z) (fun w' hb=>⟨⟨_,Z,(hy.keep (z0a.of_below hb.nil)).less (fun g hg=>by simp[hg])⟩,(K0.below.trans hb).nil⟩))
 have A1:m=1∨m=2:=by rcases hm with h|h|h;exact absurd h.1 (by assumption);exact .inl h;exact .inr h
 refine lO S9.k [.w 4,.w 3] Z ⟨⟨Z,by rfl⟩,⟨Z,by rfl⟩,U⟩ (i0a S9 H8c Z Z (x8c p c m A1 M _ _ _ (hI.keep (S9.keep0 M)) (hX.keep (S9.keep0 M)) hf) ?_);intro v3 s2 e3;refine lO0 Z U (j0a s2 A6c Z Z ?_);intro J1 s3 q2 b3 a3;refine e0a (kk:=0) (vs:=[_,_,_,_,_,_,_,_]) q2 P2c Z Z Z Z Z Z Z ?_;intro Z2 b0 u2;dsimp only[n0a,List.set] at b0;refine lB b0.k [.o 3] Z ⟨Z,U⟩ (fun K1=>?_) fun K1=>?_
 ·refine lO0 Z U (d1a k5a (vs:=[]) (cs:=[_,_,_]) Z Z Z Z ?_)
  first|refine e0a (kk:=2) (vs:=[_,_,_]) b0 o2a Z Z Z Z Z Z Z ?_
  intro d1 m0 V0;dsimp only[n0a,List.set] at m0
  first|refine u0a (kk:=1) m0 R8a Z Z Z (by exact Nat.le_of_ble_eq_true Z) ?_
  intro f1 d0 W0;refine lR0 Z U ?_;rw[h3a (i2b (x:=⟨xt,g1,xc⟩) (.inl K1))];exact D2a (n:=3) Z Q0a w2a Z Z Z [] Z List.nodup_nil NC.nil (d0.cells 2 Z) (d0.cell 1 Z Z) (fun w' hb=>⟨⟨_,Z,U2a⟩,(d0.below.trans hb).nil⟩)
 refine lB b0.k [.o 3,.o 5] Z ⟨Z,Z,U⟩ (fun M1=>?_) fun M1=>?_
 ·refine lO0 Z U (d1a k5a (vs:=[]) (cs:=[_,_,_]) Z Z Z Z ?_)
  first|refine e0a (kk:=2) (vs:=[_,_,_]) b0 o2a Z Z Z Z Z Z Z ?_
  intro d1 m0 V0;dsimp only[n0a,List.set] at m0
  first|refine u0a (kk:=1) m0 R8a Z Z Z (by exact Nat.le_of_ble_eq_true Z) ?_
  intro f1 d0 W0;refine lR0 Z U ?_;rw[h3a (i2b (x:=⟨xt,g1,xc⟩) (.inr (by rw[←L2];exact M1)))];exact D2a (n:=3) Z Q0a w2a Z Z Z [] Z List.nodup_nil NC.nil (d0.cells 2 Z) (d0.cell 1 Z Z) (fun w' hb=>⟨⟨_,Z,U2a⟩,(d0.below.trans hb).nil⟩)
 refine lB b0.k [.o 3] Z ⟨Z,U⟩ (fun N1=>?_) fun N1=>?_
 ·refine lO0 Z U (d1a k5a (vs:=[]) (cs:=[_,_,_]) Z Z Z Z ?_)
  first|refine e0a (kk:=2) (vs:=[_,_,_]) b0 o2a Z Z Z Z Z Z Z ?_
  intro d1 m0 V0;dsimp only[n0a,List.set] at m0
  first|refine u0a (kk:=1) m0 R8a Z Z Z (by exact Nat.le_of_ble_eq_true Z) ?_
  intro f1 d0 W0;refine lR0 Z U ?_;rw[h3a (x3c (x:=⟨xt,g1,xc⟩) N1)];exact D2a (n:=3) Z Q0a w2a Z Z Z [] Z List.nodup_nil NC.nil (d0.cells 2 Z) (d0.cell 1 Z Z) (fun w' hb=>⟨⟨_,Z,U2a⟩,(d0.below.trans hb).nil⟩)
 obtain⟨t,rfl⟩:=Int.eq_ofNat_of_zero_le (show 0≤xt by omega);have ht:t<p.threads.length:=by omega
 obtain⟨b,G0⟩:∃b,c.buf[t]?=some b:=⟨c.buf[t]'(by omega),List.getElem?_eq_getElem _⟩;obtain⟨th,o0⟩:∃th,p.threads[t]?=some th:=⟨p.threads[t]'(by omega),List.getElem?_eq_getElem _⟩;refine lB b0.k [.o 3] Z ⟨Z,U⟩ (fun O1=>?_) fun O1=>?_
 ·subst O1;refine lO b0.k [.w 0,.o 3] Z ⟨Z,⟨Z,by rfl⟩,U⟩ ?_;have Zb:=b0.size;refine x0a b0 x7c Z Z (y7c _ Z (t:Int) _) ?_;rintro p3 p0 ⟨gs,gt,rfl,_,_,T1,E2⟩ G1 g3;refine lC0 Z U (wJ ?_);refine k8a (vs:=fun y=>#[y,_,_]) n0d Z (fun _=>rfl) (fun rc wi D1 Z1 P2 y1 N2 C2 D2 H2 hl hB m3=>?_);obtain⟨l,J2⟩:∃l,l=p0.heap.size+1:=⟨_,Z⟩;have R1:=o6a (NC.nil (w:=p0)) H2 hl hB;rw[←J2] at hl R1 ⊢;have Si:=G1.later hB;have Ki:z0a [] p0 wi:=z0a.of_below hB;have Zw:=G1.size;have n3:gs<p0.heap.size:=T1.lt;have z2:∀g∈(l::M),g∈M∨w0.heap.size≤g:=fun g hg=>by
   rcases List.mem_cons.1 hg with rfl|hg
   ·right;omega
   ·exact .inl hg
  have B2:D0a (l::M) wi c _:=(hX.more z2).keep (Si.keep0 _);have z1:gs∉(l::M):=fun hh=>by
   rcases List.mem_cons.1 hh with h|h
   ·omega
   ·have:=hM gs h;omega
  have x0:∀x∈[(p0.heap.size,Obj.deferred (some []))],x.1≠l:=fun x hx=>by
   rcases List.mem_cons.1 hx with rfl|hx
   ·show p0.heap.size≠l;omega
   ·cases hx
  refine N0a.mono (z3c c m t b G0 gs gt l (l::M) wi _ [.slice Ac nc cc,.slice Am nm cm,.slice Al nl cl,.slice At nt ct] Z (fun i w=>NC w [(l,.loop rc),(p0.heap.size,.deferred (some []))]∧St [] w0 w [(some J1,206,[.slice Xm xm ym,.slice Xa xa ya,.slice Xb xb yb,.slice Ac nc cc,.slice Am nm cm,.slice Al nl cl,.slice At nt ct,.int .i64 m]),(some g9,31,[.int .i64 0]),(some g8,38,[.slice none 0 0,.slice none 0 0,.slice none 0 0]),(some g7,44,[.int .i64 t,.int .i64 (-1),.int .i64 xc]),(some g6,38,[.slice Xm xm ym,.slice Xa xa ya,.slice Xb xb yb]),(some g4,27,[.slice Ac nc cc,.slice Am nm cm,.slice Al nl cl,.slice At nt ct])]∧z0a (l::M) wi w∧(∀q en,q<i→b[q]?=some en→T3a m b q=true→en.cells.getD 0 0≠xc)) (fun w=>∃(i:Nat) (en:K0a) (ys:List Value),b[i]?=some en∧T3a m b i=true∧en.cells.getD 0 0=xc∧(∀q en,q<i→b[q]?=some en→T3a m b q=true→en.cells.getD 0 0≠xc)∧NC w [(l,.loop { rc with state:=.done,pending:=some .ret }),(p0.heap.size,.deferred (some []))]∧St [] w0 w [(some J1,206,[.slice Xm xm ym,.slice Xa xa ya,.slice Xb xb yb,.slice Ac nc cc,.slice Am nm cm,.slice Al nl cl,.slice At nt ct,.int .i64 m]),(some g9,31,[.int .i64 0]),(some g8,38,ys),(some g7,44,[.int .i64 t,.int .i64 (-1),.int .i64 xc]),(some g6,38,[.slice Xm xm ym,.slice Xa xa ya,.slice Xb xb yb]),(some g4,27,[.slice Ac nc cc,.slice Am nm cm,.slice Al nl cl,.slice At nt ct])]∧ys.length=3∧D0a (l::p0.heap.size::M) w (M4a c t i) ys) B2 z1 (E1a Ki T1) (E1a Ki E2) ⟨R1,Si,z0a.refl _ _,fun q en hq=>absurd hq (by omega)⟩ (fun i w hJ=>hJ.2.2.1) ?_ ?_ (fun i en w es n0 j1 hJ hE=>?_)) ?_
  ·rintro i w w' ⟨g0,S3,K3,F0⟩ t1;exact⟨g0.keep (z0a.of_below t1),S3.later t1,K3.trans (z0a.of_below t1),F0⟩
  ·rintro i w ⟨g0,S3,K3,F0⟩ hi hr;exact⟨g0,S3,K3,fun q en hq hx Z0=>by
    by_cases B1:q=i
    ·subst B1;rw[hr] at Z0;cases Z0
    ·exact F0 q en (by omega) hx Z0⟩
  ·obtain⟨g0,S3,K3,F0⟩:=hJ;obtain⟨_,_,_,_,_,_,rfl,-⟩:=O0a.open_ (hE _ _ (fun g hg=>.inl hg) K3);have qE:=(hf.bufs t b G0).2.1 en (d0a n0);have U2:0<en.cells.length:=by
    rcases Nat.eq_zero_or_pos en.cells.length with h|h
    ·exact absurd (List.length_eq_zero_iff.1 h) qE.some_
    ·exact h
   have li:=g1a n0;refine v2c (g0 (l,.loop rc) (by simp)).1 D1 P2 y1 N2 C2 D2 Z Z ?_;refine wI ?_;refine wO0 Z U (j0a S3 q1b Z Z ?_);intro i3 t3 F1 I1 p2;have O0:=Nat.le_trans K3.size p2;replace K3:=K3.trans (I1.of_nil);replace g0:=g0.keep I1;refine e0a (kk:=0) (vs:=[_,_]) F1 U3b Z Z Z Z Z Z Z ?_;intro H0 y0 A0;dsimp only[n0a,List.set] at y0;replace K3:=K3.fresh2 A0 (by exact .inl O0);replace g0:=by exact g0.keepS A0 (F1.blk 0 Z)
   refine lF0 Z U ?_;refine⟨(g0 (l,.loop rc) (by simp)).1,?_⟩;have Sb:=y0.putObj (.loop { rc with state:=.busy }) g0 (List.mem_cons_self) (.inl (by omega));have i0:=g0.put (o':=.loop { rc with state:=.busy }) x0 (by simp);have Kb:=K3.fresh2 (F1a H0 l (.loop { rc with state:=.busy })) (.inr (by simp));generalize H0.putObj l (.loop { rc with state:=.busy })=wb at Sb i0 Kb ⊢;obtain⟨_,_,_,_,_,_,V1,X0,-⟩:=O0a.open_ (hE (l::M) wb (fun g hg=>.inl hg) Kb);simp only[List.cons.injEq,Value.slice.injEq,and_true] at V1;obtain⟨⟨rfl,rfl,rfl⟩,rfl,rfl,rfl⟩:=V1;have j3:=X0.len.1;refine wI ?_;obtain⟨_,_,_,_,b1,_,_,_,G2,O2⟩:=RdS.get X0 0 U2;obtain⟨rfl,_⟩:=O2;refine wC0 Z U (v0a b0a [0,1,2,3,4,5,6] [] [] Z (Cl _ _ _ _) (Cl.start Sb) ?_);refine qO Sb.q [.o 0] Z ⟨Z,U⟩ (p0a T0a.slT Z (by assumption) Z Z ?_);refine o0a M0a Z (fun w1 hw=>by exact hw.2.cell List.not_mem_nil (G2 0 _ Z)) Z ?_;refine qO0 Z U (o0a M0a Z (fun w1 hw=>by exact hw.1.cell 4 Z Z) Z ?_);refine qB0 Z U (fun p1=>?_) fun p1=>?_
   ·refine qD Z U ?_;rintro L0 ⟨f0,v0⟩;replace Kb:=Kb.trans (v0.of_nil);replace i0:=i0.keep v0;refine lO0 Z U (z1a w0b Z (f0.cells 1 Z) Z Z ?_);refine lO0 Z U (s0a M0a Z (by exact f0.cell 4 Z Z) Z ?_);refine lO0 Z U ?_;have Q1:∀g∈l::p0.heap.size::g9::g8::M,g<L0.heap.size:=fun g hg=>by
     rcases List.mem_cons.1 hg with rfl|hg
     ·exact i0.lt _ List.mem_cons_self
     ·rcases List.mem_cons.1 hg with rfl|hg
      ·exact i0.lt (p0.heap.size,.deferred (some [])) (by simp)
      ·exact T2b f0 (i:=2) (j:=3) Z Z hM g hg
    have u1:∀g∈l::p0.heap.size::g9::g8::M,g∈M∨w0.heap.size≤g:=fun g hg=>by
     rcases List.mem_cons.1 hg with rfl|hg
     ·right;omega
     ·rcases List.mem_cons.1 hg with rfl|hg
      ·right;omega
      ·exact b8a f0 (i:=2) (j:=3) Z Z g hg
    refine x0a f0 r0d Z Z (k3c p hp c t i b (l::p0.heap.size::g9::g8::M) _ Q1 [.slice Ac nc cc,.slice Am nm cm,.slice Al nl cl,.slice At nt ct] [.slice Xm xm ym,.slice Xa xa ya,.slice Xb xb yb] m ⟨(hI.rd.more u1).keep (f0.keep0 _),hI.ok,(hI.msk.more u1).keep (f0.keep0 _),Q1⟩ ((hX.more u1).keep (f0.keep0 _)) hf G0 li) ?_;rintro q3 x3 ⟨ys,rfl,hy⟩ H1 v2;replace i0:=i0.keep v2;obtain⟨Ym,o2,zm,Ya,j2,za,Yb,m2,zb,rfl,-⟩:=hy.open_
    first|refine e0a (kk:=3) (vs:=[_,_,_]) H1 o2a Z Z Z Z Z Z Z ?_
    intro a2 s0 B0;dsimp only[n0a,List.set] at s0;replace i0:=by exact i0.keepS B0 (H1.blk 3 Z)
    replace hy:=hy.keep (B0.mono (by simp))
    first|refine u0a (kk:=2) s0 R8a Z Z Z (by exact Nat.le_of_ble_eq_true Z) ?_
    intro c1 P0 C0;replace i0:=by exact i0.keepS C0 (s0.blk 2 Z)
    replace hy:=hy.keep (C0.mono (by simp));refine lR0 Z U ?_;refine⟨{ rc with state:=.busy },(i0 (l,_) (by simp)).1,.inr ⟨Z,?_⟩⟩;have v1:=i0.put (o':=.loop { rc with state:=.done,pending:=some .ret }) x0 (by simp);have Sn:=P0.tail.putObj (.loop { rc with state:=.done,pending:=some .ret }) i0 (List.mem_cons_self) (.inl (by omega));exact⟨i,en,_,n0,j1,by rw[getD_some b1];exact p1,F0,v1,Sn,Z,(hy.keep ((F1a c1 l _).mono (by simp))).less (fun g hg=>by simp only[List.mem_cons] at hg ⊢;rcases hg with h|h|h<;>simp[h])⟩
   refine qD Z U ?_;rintro L0 ⟨f0,v0⟩;replace Kb:=Kb.trans (v0.of_nil);replace i0:=i0.keep v0;refine lF0 Z U ?_;refine⟨{ rc with state:=.busy },(i0 (l,_) (by simp)).1,.inl ⟨Z,?_⟩⟩;have v1:=i0.put (o':=.loop rc) x0 (by simp);have Sn:=f0.tail.putObj (.loop rc) i0 (List.mem_cons_self) (.inl (by omega));have Kn:=Kb.fresh2 (F1a L0 l (.loop rc)) (.inr (by simp));rw[s0b D1 Z1];exact⟨v1,Sn,Kn,fun q x2 hq hx Z0=>by
    by_cases B1:q=i
    ·subst B1;obtain rfl:=Option.some.inj (n0.symm.trans hx);rw[getD_some b1];exact p1
    ·exact F0 q x2 (by omega) hx Z0⟩
  rintro v w3 (⟨g0,S3,K3,F0⟩|⟨i,en,ys,n0,j1,F2,I2,g0,S3,Q2,S2⟩)
  rotate_left
  ·refine⟨{ rc with state:=.done,pending:=some .ret },(g0 (l,_) List.mem_cons_self).1,by simp,.inr ⟨Z,?_⟩⟩;have Sa:=S3.putObj (.loop { rc with state:=.exhausted,pending:=some .ret }) g0 (List.mem_cons_self) (.inl (by omega));have r0:=(g0.put (o':=.loop { rc with state:=.exhausted,pending:=some .ret }) x0 (by simp)).tail;have Ka:=F1a w3 l (.loop { rc with state:=.exhausted,pending:=some .ret });have R2:=S2.keep (Ka.mono (by simp));subst F2;rw[F3a (f0d ht G0 n0 j1),w7c G0 (fun e he=>((hf.bufs t b G0).2.1 e he).some_) n0 j1];exact D2a (hg1:=(by have:=r0.ne (Sa.blk 2 Z) _ (List.mem_cons_self);simpa using fun h:g8=_=>this h.symm)) (hg2:=(by have:=r0.ne (Sa.blk 1 Z) _ (List.mem_cons_self);simpa using fun h:g9=_=>this h.symm)) (n:=3) Z Q0a w2a Z Z Q2 [p0.heap.size] Z (by simp) r0 (Sa.cells 2 Z) (Sa.cell 1 Z Z) (fun w' hb=>⟨⟨_,Z,(R2.keep ((z0a.of_belowM hb).mono (by simp))).less (fun g hg=>by simp[hg])⟩,(S0a.step Sa.below hb (by simp;omega)).nil⟩)
  refine⟨rc,(g0 (l,.loop rc) (by simp)).1,by rw[D1];simp,.inl ⟨Z1,?_⟩⟩;have Sa:=S3.putObj (.loop { rc with state:=.exhausted }) g0 (List.mem_cons_self) (.inl (by omega));have r0:=(g0.put (o':=.loop { rc with state:=.exhausted }) x0 (by simp)).tail;generalize w3.putObj l (.loop { rc with state:=.exhausted })=wa at Sa r0 ⊢;refine fO0 Z U (d1a k5a (vs:=[]) (cs:=[_,_,_]) Z Z Z Z ?_)
  first|refine e0a (kk:=2) (vs:=[_,_,_]) Sa o2a Z Z Z Z Z Z Z ?_
  intro b2 t0 R0;dsimp only[n0a,List.set] at t0;replace r0:=by exact r0.keepS R0 (Sa.blk 2 Z)
  first|refine u0a (kk:=1) t0 R8a Z Z Z (by exact Nat.le_of_ble_eq_true Z) ?_
  intro d2 j0 S0;replace r0:=by exact r0.keepS S0 (t0.blk 1 Z)
  refine lR0 Z U ?_;rw[h3a (d4c G0 F0)];exact D2a (hg1:=(by have:=r0.ne (j0.blk 2 Z) _ (List.mem_cons_self);simpa using fun h:g8=_=>this h.symm)) (hg2:=(by have:=r0.ne (j0.blk 1 Z) _ (List.mem_cons_self);simpa using fun h:g9=_=>this h.symm)) (n:=3) Z Q0a w2a Z Z Z [p0.heap.size] Z (by simp) r0 (j0.cells 2 Z) (j0.cell 1 Z Z) (fun w' hb=>⟨⟨_,Z,U2a⟩,(S0a.step j0.below hb (by simp;omega)).nil⟩)
 obtain⟨i,rfl⟩:=Int.eq_ofNat_of_zero_le (show 0≤g1 by omega);refine lO b0.k [.w 4,.o 3] Z ⟨Z,⟨Z,by rfl⟩,U⟩ (x0a b0 j8c Z Z (q0d p hp c t b (g9::g8::M) _ (T2b b0 (i:=1) (j:=2) Z Z hM) _ ((hX.more (b8a b0 (i:=1) (j:=2) Z Z)).keep (b0.keep0 _)) hf G0) ?_);rintro r3 y3 hV i1 h3;obtain⟨_,_,_,rfl⟩:=hV.form;refine lC0 Z U (v0a b0a [0,1,2,3,4,5,6,7,8,9,10,11,12,13,14,15,16,17,18,19,20,21,22,23,24,25] [] [] Z (Cl _ _ _ _) (Cl.start i1) ?_);refine qB i1.q [.o 3] Z ⟨Z,U⟩ (fun q1=>?_) fun q1=>?_
 ·refine qD Z U ?_;rintro N0 ⟨e0,q0⟩;replace hV:=hV.keep (q0.of_nil);refine lO0 Z U (d1a k5a (vs:=[]) (cs:=[_,_,_]) Z Z Z Z ?_)
  first|refine e0a (kk:=2) (vs:=[_,_,_]) e0 o2a Z Z Z Z Z Z Z ?_
  intro I0 c0 D0;dsimp only[n0a,List.set] at c0
  first|refine u0a (kk:=1) c0 R8a Z Z Z (by exact Nat.le_of_ble_eq_true Z) ?_
  intro J0 a0 E0;refine lR0 Z U ?_;rw[h3a (T3c (t:=t) (st:=i) (by omega) q1)];exact D2a (n:=3) Z Q0a w2a Z Z Z [] Z List.nodup_nil NC.nil (a0.cells 2 Z) (a0.cell 1 Z Z) (fun w' hb=>⟨⟨_,Z,U2a⟩,(a0.below.trans hb).nil⟩)
 obtain⟨_,w2,T2,_,E1,s1,_,_,x1,C1⟩:=RdS.get (A2) (t) (by omega);obtain rfl:=Option.some.inj (o0.symm.trans E1);obtain⟨_,_,_,_,_,_,_,_,_,_,_,_,rfl,_,_,_,_,_,_,_,Y0,_⟩:=R0a.open_ C1;refine qB (i1.q.a x1) [.o 3,.o 5,.o 3,.x w2 T2,.f 0 4] Z ⟨Z,⟨s1,by omega⟩,Z,Z,Z,U⟩ (fun P1=>?_) fun P1=>?_
 ·refine qD Z U ?_;rintro N0 ⟨e0,q0⟩;replace hV:=hV.keep (q0.of_nil);refine lO0 Z U (d1a k5a (vs:=[]) (cs:=[_,_,_]) Z Z Z Z ?_)
  first|refine e0a (kk:=2) (vs:=[_,_,_]) e0 o2a Z Z Z Z Z Z Z ?_
  intro I0 c0 D0;dsimp only[n0a,List.set] at c0
  first|refine u0a (kk:=1) c0 R8a Z Z Z (by exact Nat.le_of_ble_eq_true Z) ?_
  intro J0 a0 E0;refine lR0 Z U ?_;rw[h3a (C4c o0 (st:=i) (by omega) (by rw[←Y0];exact P1))];exact D2a (n:=3) Z Q0a w2a Z Z Z [] Z List.nodup_nil NC.nil (a0.cells 2 Z) (a0.cell 1 Z Z) (fun w' hb=>⟨⟨_,Z,U2a⟩,(a0.below.trans hb).nil⟩)
 refine qO i1.q [.w 0,.o 3,.o 3] Z ⟨Z,Z,⟨Z,by rfl⟩,U⟩ ?_;obtain⟨s,a1⟩:∃s,th.steps[i]?=some s:=⟨th.steps[i]'(by omega),List.getElem?_eq_getElem _⟩;refine Z1a O8c Z Z (fun w1 S1 X1=>u3b p c m A1 t i th s M _ [.slice Ac nc cc,.slice Am nm cm,.slice Al nl cl,.slice At nt ct] [.slice Xm xm ym,.slice Xa xa ya,.slice Xb xb yb] _ (hI.keep (S1.keep0 M)) (hX.keep (S1.keep0 M)) ((hV.keep (X1.of_nil)).less (fun g hg=>List.mem_cons_of_mem _ (List.mem_cons_of_mem _ hg))) hf o0 a1) (fun r1=>?_) fun r1=>?_
 ·refine qD Z U ?_;rintro N0 ⟨e0,q0⟩;replace hV:=hV.keep (q0.of_nil);subst q1;have Y1:=Z8c o0 a1 r1;have U1:doC p m c ⟨t,i,0⟩=I6a p m c t s:=c1d o0 a1;have W1:=h6b hp hf Y1;rw[U1] at W1;refine lO e0.k [.w 0,.w 3] Z ⟨⟨Z,by rfl⟩,⟨Z,by rfl⟩,U⟩ (x0a e0 e9c Z Z (z9b p c m A1 t i th s (g9::g8::M) _ [.slice Ac nc cc,.slice Am nm cm,.slice Al nl cl,.slice At nt ct] [.slice Xm xm ym,.slice Xa xa ya,.slice Xb xb yb] _ (hI.two e0 (i:=1) (j:=2) Z Z) ((hX.more (b8a e0 (i:=1) (j:=2) Z Z)).keep (e0.keep0 _)) hV hf o0 a1 W1) ?_);rintro V2 W2 ⟨ys,rfl,hy⟩ m1 t2;obtain⟨Ym,o2,zm,Ya,j2,za,Yb,m2,zb,rfl,-⟩:=hy.open_
  first|refine e0a (kk:=2) (vs:=[_,_,_]) m1 o2a Z Z Z Z Z Z Z ?_
  intro g2 z0 T0;dsimp only[n0a,List.set] at z0;replace hy:=hy.keep (T0.mono (by simp))
  first|refine u0a (kk:=1) z0 R8a Z Z Z (by exact Nat.le_of_ble_eq_true Z) ?_
  intro i2 u0 U0;replace hy:=hy.keep (U0.mono (by simp));refine lR0 Z U ?_;rw[F3a Y1,U1];exact D2a (n:=3) Z Q0a w2a Z Z Z [] Z List.nodup_nil NC.nil (u0.cells 2 Z) (u0.cell 1 Z Z) (fun w' hb=>⟨⟨_,Z,(hy.keep (z0a.of_below hb.nil)).less (fun g hg=>by simp[hg])⟩,(u0.below.trans hb).nil⟩)
 refine qD Z U ?_;rintro N0 ⟨e0,q0⟩;refine lO0 Z U (d1a k5a (vs:=[]) (cs:=[_,_,_]) Z Z Z Z ?_)
 first|refine e0a (kk:=2) (vs:=[_,_,_]) e0 o2a Z Z Z Z Z Z Z ?_
 intro I0 c0 D0;dsimp only[n0a,List.set] at c0
 first|refine u0a (kk:=1) c0 R8a Z Z Z (by exact Nat.le_of_ble_eq_true Z) ?_
 intro J0 a0 E0;refine lR0 Z U ?_;rw[h3a (Z7c o0 a1 r1)];exact D2a (n:=3) Z Q0a w2a Z Z Z [] Z List.nodup_nil NC.nil (a0.cells 2 Z) (a0.cell 1 Z Z) (fun w' hb=>⟨⟨_,Z,U2a⟩,(a0.below.trans hb).nil⟩)
def D4a(p:h0a)(m:Int)(c:G0a):List c0a→List G0a
 | []=>[]
 | x::l=>if x∈J0a p m c then doC p m c x::D4a p m (doC p m c x) l else[]
def L2a(p:h0a)(m:Int)(run:List c0a):List G0a:=f1a p::D4a p m (f1a p) run
theorem p7c{p:h0a}{m:Int}{c:G0a}(he:v5a c){x:c0a}(hx:x∈J0a p m c):∃(t i:Nat) (th:U0a) (s:v1a),x=⟨t,i,0⟩∧p.threads[t]?=some th∧th.steps[i]?=some s∧b1a p m c t s=true:=by
 obtain⟨t,ht,h|h⟩:=X1a.1 hx
 ·obtain⟨i,s,hs,he,rfl⟩:=h;have a0:p.threads[t]?=some p.threads[t]:=List.getElem?_eq_getElem ht;rw[P1a a0] at hs;exact⟨t,i,_,s,Z,a0,hs,he⟩
 ·obtain⟨i,h1,-⟩:=h;rw[he.getD] at h1;simp at h1
section
variable {p:h0a} {m:Int}
theorem z5b:∀(run:List c0a) (c:G0a),(D4a p m c run).length≤run.length
 | [],_=>Nat.le_refl _
 | x::l,c=>by
   unfold D4a
   split
   ·simpa using z5b l _
   ·simp
theorem d1b:∀(run:List c0a) (c0:G0a) (k:Nat) (c:G0a) (x:c0a),(c0::D4a p m c0 run)[k]?=some c→run[k]?=some x →
 (x∈J0a p m c→(c0::D4a p m c0 run)[k+1]?=some (doC p m c x))∧(x∉J0a p m c→(D4a p m c0 run).length=k)
 | [],_,_,_,_,_,h=>by simp at h
 | y::l,c0,0,c,x,hc,hx=>by
   simp at hc hx;subst hc;subst hx;unfold D4a;constructor
   ·intro h;rw[if_pos h];rfl
   ·intro h;rw[if_neg h];rfl
 | y::l,c0,k+1,c,x,hc,hx=>by
   have b0:l[k]?=some x:=by simpa using hx
   by_cases hy:y∈J0a p m c0
   ·have e:D4a p m c0 (y::l)=doC p m c0 y::D4a p m (doC p m c0 y) l:=by rw[D4a,if_pos hy]
    rw[e] at hc ⊢;have a0:(doC p m c0 y::D4a p m (doC p m c0 y) l)[k]?=some c:=by simpa using hc
    obtain⟨h1,h2⟩:=d1b l _ k c x a0 b0;exact⟨fun h=>by rw[List.getElem?_cons_succ];exact h1 h,fun h=>by rw[List.length_cons,h2 h]⟩
   ·have e:D4a p m c0 (y::l)=[]:=by rw[D4a,if_neg hy]
    rw[e] at hc;simp at hc
theorem p8b(p:h0a)(m:Int)(run:List c0a):(L2a p m run).length=(D4a p m (f1a p) run).length+1:=Z
theorem o5a(p:h0a)(m:Int)(run:List c0a):(L2a p m run).length≤run.length+1:=by have:=z5b (p:=p) (m:=m) run (f1a p);rw[p8b];omega
theorem w7a{run:List c0a}{k:Nat}{c:G0a}{x:c0a}(hc:(L2a p m run)[k]?=some c)(hx:run[k]?=some x)(h:x∈J0a p m c):(L2a p m run)[k+1]?=some (doC p m c x):=(d1b run _ k c x hc hx).1 h
theorem U0b{run:List c0a}{k:Nat}{c:G0a}{x:c0a}(hc:(L2a p m run)[k]?=some c)(hx:run[k]?=some x)(h:x∉J0a p m c):(L2a p m run).length=k+1:=by rw[p8b,(d1b run _ k c x hc hx).2 h]
def L6c(p:h0a)(m:Int)(c:G0a):Prop:=J5a p c∧(m=0→v5a c)
theorem I9b(hp:n1a p):L6c p m (f1a p):=⟨A8a hp,fun _ b hb=>by
 simp only[f1a,List.mem_map] at hb;obtain⟨_,_,rfl⟩:=hb;rfl⟩
theorem k8c(hp:n1a p){c:G0a}(h:L6c p m c){x:c0a}(hx:x∈J0a p m c):L6c p m (doC p m c x):=⟨h6b hp h.1 hx,fun h0=>by
 subst h0;obtain⟨_,_,_,_,rfl,a0,hs,_⟩:=p7c (h.2 Z) hx;rw[T2d (h.2 rfl) a0 hs];exact h.2 Z⟩
theorem c8b(hp:n1a p):∀(run:List c0a) (c0:G0a),L6c p m c0→∀c∈c0::D4a p m c0 run,L6c p m c
 | [],c0,h,c,hc=>by simp[D4a] at hc;subst hc;exact h
 | y::l,c0,h,c,hc=>by
   rcases List.mem_cons.1 hc with rfl|hc
   ·exact h
   ·unfold D4a at hc
    split at hc
    ·rename_i hy;exact c8b hp l _ (k8c hp h hy) c hc
    ·cases hc
theorem y7a(hp:n1a p){run:List c0a}{c:G0a}(hc:c∈L2a p m run):L6c p m c:=c8b hp run _ (I9b hp) c hc
end
structure M5a where
 at_:Int
 kind:Int
 module_:Int
 thread:Int
 item:Int
  deriving DecidableEq
def T4a(cs:List Value)(v:M5a):Prop:=cs=[.int .i64 v.at_,.int .i64 v.kind,.int .i64 v.module_,.int .i64 v.thread,.int .i64 v.item]∧i64 v.at_∧i64 v.kind∧i64 v.module_∧i64 v.thread∧i64 v.item
abbrev y8b(M:List Nat)(w:World)(v:Value)(l:List M5a):Prop:=RdS M w 5 T4a v l
theorem k1a:T7a (fun(_:List Nat) (_:World)=>T4a) 5 where
 len h:=by rw[h.1];rfl
 one h u hu:=by rw[h.1] at hu;simp at hu;rcases hu with rfl|rfl|rfl|rfl|rfl<;>rfl
 keep _ h:=h
 more _ h:=h
theorem T4a.of{a k m t i:Int}(h1:i64 a)(h2:i64 k)(h3:i64 m)(h4:i64 t)(h5:i64 i):T4a [.int .i64 a,.int .i64 k,.int .i64 m,.int .i64 t,.int .i64 i] ⟨a,k,m,t,i⟩:=⟨Z,h1,h2,h3,h4,h5⟩
def x1d:v1a:=⟨0,0,0,⟨0,0,0,[]⟩,[],false,0,0⟩
def R2d:W2a:=⟨ByteArray.empty,ByteArray.empty,⟨0,0,0,[]⟩,⟨0,0,0,[]⟩,[]⟩
def J2d:U0a:=⟨ByteArray.empty,0,[],[],[],[],false⟩
def noE:E:=⟨0,0,0,[]⟩
def s3a(c:G0a):Bool:=!(c.buf.any fun b=>decide (0<b.length))
structure EvD where
 at_:Int
 x:c0a
 c:G0a
 d:G0a
section
variable (p:h0a) (e:EvD)
def EvD.step:Bool:=decide (0≤e.at_)&&decide (e.x.step≠-1)
def EvD.still:Bool:=e.step&&(s3a e.c&&s3a e.d)
def sOf:v1a:=(f3a p e.x.thread.toNat).getD e.x.step.toNat x1d
def o6b(m:Int):W2a:=p.modules.getD m.toNat R2d
def d0b(t:Nat):U0a:=p.threads.getD t J2d
def E0b(kind:Int):M5a:=⟨e.at_,kind,(sOf p e).module_,e.x.thread,e.x.step⟩
def D8a(s:v1a):Bool:=s.set.any fun a=>decide (T1a p.cells a.cell=-1)&&!decide (a.cell∈(o6b p s.module_).frame)
def Y1a:List M5a:=if e.still=true∧D8a p (sOf p e)=true then[E0b p e 4] else[]
def S6b:Bool:=decide ((o6b p (sOf p e).module_).guar.evl e.c.mem e.d.mem≠0)
def a3a:List M5a:=if e.still=true∧S6b p e=false then[E0b p e 3] else[]
def P1b(t:Nat):List M5a :=
 if(t:Int)=e.x.thread∨e.c.at_.getD t 0=-1 then[]
 else if(o6b p ((d0b p t).modules.getD (e.c.at_.getD t 0).toNat 0)).rely.op≠0∧(o6b p ((d0b p t).modules.getD (e.c.at_.getD t 0).toNat 0)).rely.evl e.c.mem e.d.mem=0 then
  [⟨e.at_,5,(d0b p t).modules.getD (e.c.at_.getD t 0).toNat 0,t,e.c.at_.getD t 0⟩]
 else[]
def h4a(k:Nat):List M5a:=(List.range k).flatMap (P1b p e)
def G6a:List M5a:=if e.still=true∧Y1a p e=[]∧a3a p e=[] then h4a p e p.threads.length else[]
def G1b(l:e0b):Int:=if e.step=true then(sOf p e).module_ else if 0≤e.at_ then(d0b p e.x.thread.toNat).modules.getD (e.d.at_.getD e.x.thread.toNat 0).toNat 0 else l.module_
def j8a(i:Nat):List M5a:=match p.locks[i]? with
 | some l=>if e.d.mem.getD l.cell.toNat 0≠0∨l.inv.evl e.d.mem e.d.mem≠0 then[] else[⟨e.at_,2,G1b p e l,if 0≤e.at_ then e.x.thread else -1,i⟩]
 | none=>[]
def L3a(k:Nat):List M5a:=(List.range k).flatMap (j8a p e)
def C5a:List M5a:=if s3a e.d=true then L3a p e p.locks.length else[]
def c8a(t:Nat):Int:=if e.step=true∧((t:Int)=e.x.thread∨(sOf p e).kind=6∧(sOf p e).target=t) then(sOf p e).module_ else(d0b p t).modules.getD (e.d.at_.getD t 0).toNat 0
def b3a(t:Nat):List M5a :=
 if e.d.at_.getD t 0=-1∨((d0b p t).asserts.getD (e.d.at_.getD t 0).toNat noE).evl e.d.mem e.d.mem≠0 then[]
 else[⟨e.at_,1,c8a p e t,t,e.d.at_.getD t 0⟩]
def p2a(k:Nat):List M5a:=(List.range k).flatMap (b3a p e)
def e3a:List M5a:=if s3a e.d=true then p2a p e p.threads.length else[]
def f4a:List M5a:=(if 0≤e.at_ then Y1a p e++(a3a p e++G6a p e) else[])++(C5a p e++e3a p e)
end
def k2c:c0a:=⟨0,0,0⟩
def noC:G0a:=⟨[],[],[]⟩
def h3b(run:List c0a)(l:List G0a)(i:Nat):EvD:=if i=0 then⟨-1,k2c,noC,l.getD 0 noC⟩ else⟨(i:Int)-1,run.getD (i-1) k2c,l.getD (i-1) noC,l.getD i noC⟩
def L4a(p:h0a)(run:List c0a)(l:List G0a)(k:Nat):List M5a:=(List.range k).flatMap fun i=>f4a p (h3b run l i)
def c3a(p:h0a)(m:Int)(run:List c0a):List M5a:=L4a p run (L2a p m run) (L2a p m run).length
structure J0b (p:h0a) (e:EvD):Prop where
 lo:-1≤e.at_
 hi:e.at_≤1000
 d:J5a p e.d
 c:0≤e.at_→J5a p e.c
 t:0≤e.at_→0≤e.x.thread∧e.x.thread<p.threads.length
 s:0≤e.at_→e.x.step=-1∨(0≤e.x.step∧e.x.step<(f3a p e.x.thread.toNat).length)
 aw:0≤e.at_→e.d.at_.getD e.x.thread.toNat 0≠-1
 ci:e.at_=-1→e.x=k2c∧e.c=noC
section
variable {p:h0a} {e:EvD}
theorem t4a{t:Nat}{th:U0a}(h:p.threads[t]?=some th):d0b p t=th:=getD_some h
theorem q4a{m:Int}{c:W2a}(h:p.modules[m.toNat]?=some c):o6b p m=c:=getD_some h
theorem c1a(k:Nat):h4a p e (k+1)=h4a p e k++P1b p e k:=by simp[h4a,List.range_succ]
theorem n2a(k:Nat):L3a p e (k+1)=L3a p e k++j8a p e k:=by simp[L3a,List.range_succ]
theorem y1a(k:Nat):p2a p e (k+1)=p2a p e k++b3a p e k:=by simp[p2a,List.range_succ]
theorem d7a{run:List c0a}{l:List G0a}(k:Nat):L4a p run l (k+1)=L4a p run l k++f4a p (h3b run l k):=by simp[L4a,List.range_succ]
theorem x7a{f:Nat→List M5a}{n:Nat}(h:∀i,(f i).length≤n):∀k,((List.range k).flatMap f).length≤k*n
 | 0=>by simp
 | k+1=>by
   have h1:=x7a h k;have h2:=h k;have h3:([k].flatMap f).length=(f k).length:=by simp
   rw[List.range_succ,List.flatMap_append,List.length_append,Nat.add_mul];omega
theorem c2c(k:Nat):(P1b p e k).length≤1:=by
 unfold P1b
 split
 ·simp
 ·split<;>simp
theorem d2c(k:Nat):(j8a p e k).length≤1:=by
 unfold j8a
 split
 ·split<;>simp
 ·simp
theorem O6b(k:Nat):(b3a p e k).length≤1:=by unfold b3a;split<;>simp
theorem z7a:(Y1a p e).length≤1:=by unfold Y1a;split<;>simp
theorem k5b:(a3a p e).length≤1:=by unfold a3a;split<;>simp
theorem O3a(k:Nat):(h4a p e k).length≤k:=by have:=x7a (c2c (p:=p) (e:=e)) k;simpa[h4a] using this
theorem P0a(k:Nat):(L3a p e k).length≤k:=by have:=x7a (d2c (p:=p) (e:=e)) k;simpa[L3a] using this
theorem H0a(k:Nat):(p2a p e k).length≤k:=by have:=x7a (O6b (p:=p) (e:=e)) k;simpa[p2a] using this
theorem k9a(hp:n1a p):(f4a p e).length≤16:=by
 have h1:=z7a (p:=p) (e:=e);have h2:=k5b (p:=p) (e:=e);have h3:=O3a (p:=p) (e:=e) p.threads.length;have h4:=P0a (p:=p) (e:=e) p.locks.length;have h5:=H0a (p:=p) (e:=e) p.threads.length;have h6:=hp.nthreads;have h7:=hp.nlocks;unfold f4a G6a C5a e3a
 repeat' split
 all_goals simp<;>omega
theorem m6a(hp:n1a p){run:List c0a}{l:List G0a}(k:Nat):(L4a p run l k).length≤k*16:=x7a (fun _=>k9a hp) k
end
section
variable {P:Program} {r:Option Nat} {N:Nat} {D:List Deferred} {e:Env} {w w0:World} {ops:Array Oper} {rest:List Oper} {K:List Deferred→Env→World→Prop} {L:List Ent} {M:List Nat}
variable {d:Nat} {t:TypeId} {p:String} {af:Array Edge} {f:FuncId} {args:Array Operand} {at_:Array TypeId} {vs:List Value} {x:Operand}
theorem S5c{g:Operand}{b:Bool}(S:St M w0 w L)(hH:Has P f)(hg:ev e g=.func (.func f) #[] #[])(a0:args.toList.map (ev e)=vs)(hd:Nat.ble (d+1) N=true)
 (hc:N0a P f vs.toArray w fun v w'=>v=.bool b∧Below w.heap.size w w') (h1:b=true→∀w1,St M w0 w1 L→z0a [] w w1→WL P r N ops rest K D (upd e d (.bool true)) w1)
 (h2:b=false→∀w1,St M w0 w1 L→z0a [] w w1→WL P r N ops rest K D (upd e d (.bool false)) w1) :
 WL P r N ops (⟨some d,.call { callee:=.value g,args:=args,argTypes:=at_ },t,p,af,none⟩::rest) K D e w:=by
 refine c1b hH hg (vs:=vs) (by simpa using a0) hd hc fun v w' ⟨hv,hb⟩=>?_;subst hv;cases b
 ·exact h2 Z w' (S.later hb) (z0a.of_below hb)
 ·exact h1 Z w' (S.later hb) (z0a.of_below hb)
end
structure C4b (p:h0a) (e:EvD) (M:List Nat) (w:World) (g:Nat) (cs xs ys:List Value):Prop where
 cell:O1a w g 0 (cs++(.int .i64 e.at_::.int .i64 e.x.thread::.int .i64 e.x.step::.int .i64 e.x.cell::(xs++ys)))
 inp:InP p M w cs
 c:D0a M w e.c xs
 d:D0a M w e.d ys
 out:g∉M
 ok:J0b p e
theorem C4b.keep{p:h0a}{e:EvD}{M:List Nat}{w w':World}{g:Nat}{cs xs ys:List Value}(h:C4b p e M w g cs xs ys)(hk:z0a M w w'):C4b p e M w' g cs xs ys :=
 ⟨h.cell.keep hk h.out,h.inp.keep hk,h.c.keep hk,h.d.keep hk,h.out,h.ok⟩
theorem V8a(p:h0a)(e:EvD)(M:List Nat)(w0:World)(ge:Nat)(cs xs ys:List Value)(hE:C4b p e M w0 ge cs xs ys):
 N0a prog 196 #[.pointer (some ⟨ge,0,none⟩)] w0 fun v w'=>v=.bool e.step∧Below w0.heap.size w0 w':=by
 obtain⟨_,_,_,_,_,_,_,_,_,_,_,_,rfl,-⟩:=hE.inp.rd.open_;have a0:=hE.cell;have S:=St.refl w0;refine a0a func196 Z ntmps196 Z ?_;refine wB (S.k.a a0) [.f 0 4] Z ⟨Z,U⟩ (fun h7=>?_) fun h7=>?_
 ·refine lB (S.k.a a0) [.f 0 6] Z ⟨Z,U⟩ (fun b0=>?_) fun b0=>?_
  ·refine lT Z U Z ⟨congrArg Value.bool ?_,S.fin⟩;unfold EvD.step;simp;omega
  refine lT Z U Z ⟨congrArg Value.bool ?_,S.fin⟩;unfold EvD.step;simp;omega
 refine lT Z U Z ⟨congrArg Value.bool ?_,S.fin⟩;unfold EvD.step;simp;omega
theorem O2c(b:List K0a)(M:List Nat)(w0:World)(v:Value)(hR:s6c M w0 v b):
 N0a prog 209 #[v] w0 fun v w'=>v=.bool (decide (0<b.length))∧Below w0.heap.size w0 w':=by
 obtain⟨_,_,_,rfl⟩:=hR.form;have hn:=hR.len.1;have S:=St.refl w0;refine a0a func209 Z ntmps209 Z ?_;refine wB0 Z U (fun h5=>?_) fun h5=>?_
 ·refine lT Z U Z ⟨congrArg Value.bool ?_,S.fin⟩;exact(decide_eq_true (by omega)).symm
 refine lT Z U Z ⟨congrArg Value.bool ?_,S.fin⟩;exact(decide_eq_false (by omega)).symm
theorem y3b(M:List Nat)(w0:World)(v:Value)(l:List (List K0a))(hR:y0d M w0 v l):
 N0a prog 221 #[v,.func (.func 209) #[] #[]] w0 fun v w'=>(∃n,v=.int .i64 n∧(0≤n↔(l.any fun b=>decide (0<b.length))=true))∧Below w0.heap.size w0 w':=by
 obtain⟨A,n,c,rfl⟩:=hR.form;obtain⟨_,_⟩:=hR.len;have S:=St.refl w0;refine a0a func221 Z ntmps221 Z ?_;refine wC0 Z U (wL (fun μk D ε w=>D=[]∧∃k:Nat,(k+μk=(l.length))∧(w1a (l) k (fun x=>decide (0<x.length)=false))∧St [] w0 w []∧Sl ε [(0,.slice A n c),(1,.func (.func 209) #[] #[]),(7,.int .i64 n),(8,.int .i64 k)]) (μ:=(l.length)) ⟨Z,0,by omega,w1a.zero,S,Z⟩ ?_);rintro μk D ε w ⟨rfl,k,_,ha,S,eZ⟩;refine wK eZ (wB0 Z U (fun h9=>?_) fun h9=>?_)
 ·obtain⟨x,o0,p0,_,m0,f0,_,_,g0,i0⟩:=RdS.get (hR) (k) (by omega);obtain⟨b0,j0,d0,rfl,a0,_⟩:=R4a.open_ i0;refine lO (S.k.a g0) [.x o0 p0,.f 0 0] Z ⟨Z,⟨f0,by omega⟩,U⟩ (S5c (vs:=[.slice b0 j0 d0]) S d0d Z Z Z (O2c x M _ _ (RdS.keepW a0 (S.keep0 M) (O0a.keep (S.keep0 M)))) (fun e0 q0 c0 n0=>?_) (fun e0 q0 c0 n0=>?_))
  ·exact lT Z U Z ⟨⟨_,Z,⟨fun _=>List.any_eq_true.2 ⟨x,d0a m0,e0⟩,fun _=>by omega⟩⟩,c0.fin⟩
  refine lP0 Z ⟨by omega,U⟩ ⟨μk-1,by omega,Z,(k+1),(by omega),(ha.succ m0 (e0)),c0,Z⟩
 refine lT Z U Z ?_;refine⟨⟨_,Z,⟨fun h=>by omega,fun h=>?_⟩⟩,S.fin⟩;obtain⟨x,h1,h2⟩:=List.any_eq_true.1 h;rw[ha.all (by omega) x h1] at h2;cases h2
theorem f0b(M:List Nat)(w0:World)(v:Value)(l:List (List K0a))(hR:y0d M w0 v l):
 N0a prog 208 #[v,.func (.func 209) #[] #[]] w0 fun v w'=>v=.bool (l.any fun b=>decide (0<b.length))∧Below w0.heap.size w0 w':=by
 obtain⟨_,_,_,rfl⟩:=hR.form;have S:=St.refl w0;refine a0a func208 Z ntmps208 Z ?_;refine wO0 Z U (x0a S f8c Z Z (y3b M _ _ l (RdS.keepW hR (S.keep0 M) (R4a.keep (S.keep0 M)))) ?_);rintro v7 w7 ⟨_,rfl,hm⟩ S7 X7;refine lB0 Z U (fun h8=>?_) fun h8=>?_
 ·refine lR0 Z U (r0a Z ?_);exact⟨by rw[hm.1 (by omega)],S7.fin⟩
 refine lT Z U Z ?_;refine⟨congrArg Value.bool ?_,S7.fin⟩;cases hq:(l.any fun b=>decide (0<b.length)) with|false=>rfl|true=>exact absurd (hm.2 hq) (by omega)
theorem Y8a(c:G0a)(M:List Nat)(w0:World)(xs:List Value)(hX:D0a M w0 c xs):
 N0a prog 194 #[.agg xs.toArray] w0 fun v w'=>v=.bool (s3a c)∧Below w0.heap.size w0 w':=by
 obtain⟨_,_,_,_,_,_,_,_,_,rfl,_,_,a0,_⟩:=hX.open_;have S:=St.refl w0;refine a0a func194 Z ntmps194 Z ?_;refine wO0 Z U (m0a S Z ?_);intro g1 w1 S1 X1 G1;refine lO S1.k [.o 0] Z ⟨Z,U⟩ (i0a S1 S7c Z Z (f0b M _ _ c.buf (RdS.keepW a0 (S1.keep0 M) (R4a.keep (S1.keep0 M)))) ?_);intro w5 S5 X5;exact lT Z U Z ⟨Z,S5.fin⟩
theorem k6b(x:E)(l:List Int)(M:List Nat)(w0:World)(es:List Value)(v:Value)(hR:RdE M w0 x es)(hK:Y3a M w0)(hL:RdI M w0 v l):
 N0a prog 195 #[.agg es.toArray,v] w0 fun v w'=>v=.bool (decide (x.evl l l≠0))∧Below w0.heap.size w0 w':=by
 obtain⟨_,_,_,rfl,-⟩:=RdE.cells hR;obtain⟨_,_,_,rfl⟩:=hL.form;have S:=St.refl w0;refine a0a func195 Z ntmps195 Z ?_;refine wO0 Z U (m0a S Z ?_);intro g2 w2 S2 X2 G2;refine lO S2.k [.w 0] Z ⟨⟨Z,by rfl⟩,U⟩ (i0a S2 A0b Z Z (f8a x M _ _ _ _ l l (RdE.keep (S2.keep0 M) _ _ hR) (hK.keep (S2.keep0 M)) (hL.keep (S2.keep0 M)) (hL.keep (S2.keep0 M))) ?_);intro w8 S8 X8;refine lB0 Z U (fun h9=>?_) fun h9=>?_
 ·refine lT Z U Z ⟨congrArg Value.bool ?_,S8.fin⟩;simp[h9]
 refine lT Z U Z ⟨congrArg Value.bool ?_,S8.fin⟩;simp[h9]
theorem R3b(p:h0a)(e:EvD)(M:List Nat)(w0:World)(ge:Nat)(cs xs ys:List Value)(hE:C4b p e M w0 ge cs xs ys):
 N0a prog 190 #[.pointer (some ⟨ge,0,none⟩)] w0 fun v w'=>v=.bool e.still∧Below w0.heap.size w0 w':=by
 obtain⟨_,_,_,_,_,_,_,_,_,_,_,_,rfl,-⟩:=hE.inp.rd.open_;obtain⟨_,_,_,_,_,_,_,_,_,rfl,-⟩:=hE.c.open_;obtain⟨_,_,_,_,_,_,_,_,_,rfl,-⟩:=hE.d.open_;have e0:=hE.cell;have S:=St.refl w0;refine a0a func190 Z ntmps190 Z ?_;refine wO0 Z U (A0a S w3b Z Z (V8a p e M _ _ _ _ _ (hE.keep (S.keep0 M))) (fun h4 w4 S4 X4=>?_) (fun h4 w4 S4 X4=>?_))
 ·refine lO (S4.k.a e0) [.f 0 8] Z ⟨Z,U⟩ (A0a S4 x3b Z Z (Y8a e.c M _ _ (hE.c.keep (S4.keep0 M))) (fun b0 i0 a0 f0=>?_) (fun b0 i0 a0 f0=>?_))
  ·refine lO (a0.k.a e0) [.f 0 11] Z ⟨Z,U⟩ (A0a a0 x3b Z Z (Y8a e.d M _ _ (hE.d.keep (a0.keep0 M))) (fun d0 j0 c0 g0=>?_) (fun d0 j0 c0 g0=>?_))
   ·refine lT Z U Z ⟨congrArg Value.bool ?_,c0.fin⟩;unfold EvD.still;rw[h4,b0,d0];rfl
   refine lT Z U Z ⟨congrArg Value.bool ?_,c0.fin⟩;unfold EvD.still;rw[h4,b0,d0];rfl
  refine lT Z U Z ⟨congrArg Value.bool ?_,a0.fin⟩;unfold EvD.still;rw[h4,b0];rfl
 refine lT Z U Z ⟨congrArg Value.bool ?_,S4.fin⟩;unfold EvD.still;rw[h4];rfl
theorem Y7c{α:Type}{a b:List α}(hl:a.length=b.length){k:Nat}(hk:a.length≤k)(h:∀i x y,i<k→a[i]?=some x→b[i]?=some y→x=y):a=b:=by
 apply List.ext_getElem hl;intro i h1 h2;exact h i _ _ (by omega) (List.getElem?_eq_getElem h1) (List.getElem?_eq_getElem h2)
def C3c{α:Type}(a b:List α)(k:Nat):Prop:=∀i x y,i<k→a[i]?=some x→b[i]?=some y→x=y
theorem C3c.zero{α:Type}{a b:List α}:C3c a b 0:=fun i x y h=>absurd h (by omega)
theorem C3c.succ{α:Type}{a b:List α}{k:Nat}(h:C3c a b k){x y:α}(hx:a[k]?=some x)(hy:b[k]?=some y)(he:x=y):C3c a b (k+1):=fun i x' y' hi h1 h2=>by
 by_cases a0:i=k
 ·subst a0;rw[hx] at h1;rw[hy] at h2;cases h1;cases h2;exact he
 ·exact h i x' y' (by omega) h1 h2
theorem C3c.all{α:Type}{a b:List α}{k:Nat}(h:C3c a b k)(hl:a.length=b.length)(hk:a.length≤k):a=b:=Y7c hl hk h
theorem i1d{α:Type}{a b:List α}(h:¬a.length=b.length):a≠b:=fun e=>h (by rw[e])
theorem b3d{α:Type}{a b:List α}{k:Nat}{x y:α}(hx:a[k]?=some x)(hy:b[k]?=some y)(h:x≠y):a≠b:=fun e=>by subst e;rw[hx] at hy;cases hy;exact h Z
theorem K0a.ext'{a b:K0a}(h1:a.cells=b.cells)(h2:a.values=b.values):a=b:=by cases a;cases b;simp_all
theorem G0a.ext'{a b:G0a}(h1:a.mem=b.mem)(h2:a.at_=b.at_)(h3:a.buf=b.buf):a=b:=by cases a;cases b;simp_all
theorem c0a.ext'{a b:c0a}(h:a.thread=b.thread∧a.step=b.step∧a.cell=b.cell):a=b:=by cases a;cases b;simp_all
abbrev x2d(M:List Nat)(w:World)(v:Value)(l:List G0a):Prop:=RdS M w 3 (A4a M w) v l
theorem A4a.keep{M:List Nat}{w w':World}(hk:z0a M w w'):∀cs c,A4a M w cs c→A4a M w' cs c:=fun _ _ h=>D0a.keep hk h
theorem A4a.less{M M':List Nat}{w:World}(hk:∀g∈M',g∈M):∀cs c,A4a M w cs c→A4a M' w cs c:=fun _ _ h=>D0a.less hk h
section
variable {P:Program} {N:Nat} {ops:Array Oper} {rest:List Oper} {C:World→Prop} {K:Env→Prop} {e:Env} {d:Nat} {t:TypeId} {p:String} {af:Array Edge} {x y:Operand} {yt:TypeId}
theorem t1d{ty:TypeId}{a b c a' b' c':Int}(hE:Eq3 P ty)(hx:ev e x=.agg #[.int .i64 a,.int .i64 b,.int .i64 c])(hy:ev e y=.agg #[.int .i64 a',.int .i64 b',.int .i64 c'])(hd:Nat.ble (d+1) N=true)
 (h1:(a=a'∧b=b'∧c=c')→QL P N ops C rest K (upd e d (.bool true))) (h2:¬(a=a'∧b=b'∧c=c')→QL P N ops C rest K (upd e d (.bool false))) :
 QL P N ops C (⟨some d,.binOp .eql ty x y yt,t,p,af,none⟩::rest) K e:=by
 by_cases hh:a=a'∧b=b'∧c=c'
 ·exact E3a Z Z hd (fun w _=>by simp only[execOp,hx,hy,Sem.run_bind,run_eqGuard_agg w _ _ _ _ _ _ hE.1,Result.andThen_ok,hE.2,Sem.run_pure,decide_eq_true hh]) (h1 hh)
 ·exact E3a Z Z hd (fun w _=>by simp only[execOp,hx,hy,Sem.run_bind,run_eqGuard_agg w _ _ _ _ _ _ hE.1,Result.andThen_ok,hE.2,Sem.run_pure,decide_eq_false hh]) (h2 hh)
theorem a1d{ty:TypeId}{a b c a' b' c':Int}(hE:Eq3 P ty)(hx:ev e x=.agg #[.int .i64 a,.int .i64 b,.int .i64 c])(hy:ev e y=.agg #[.int .i64 a',.int .i64 b',.int .i64 c'])(hd:Nat.ble (d+1) N=true)
 (h1:¬(a=a'∧b=b'∧c=c')→QL P N ops C rest K (upd e d (.bool true))) (h2:(a=a'∧b=b'∧c=c')→QL P N ops C rest K (upd e d (.bool false))) :
 QL P N ops C (⟨some d,.binOp .neq ty x y yt,t,p,af,none⟩::rest) K e:=by
 have hn:∀w:World,(binOp .neq ty (.agg #[.int .i64 a,.int .i64 b,.int .i64 c]) (.agg #[.int .i64 a',.int .i64 b',.int .i64 c'])).run P w=.ok (.bool (!decide (a=a'∧b=b'∧c=c'))) w:=fun w=>by
  have:=hE.2 w a b c a' b' c';rw[run_eql_struct] at this;rw[run_neq_struct]
  revert this
  generalize (Op.equalIn 10000 ty (.agg #[.int .i64 a,.int .i64 b,.int .i64 c]) (.agg #[.int .i64 a',.int .i64 b',.int .i64 c'])).run P w=a0;intro this;cases a0 with
  | ok z w'=>simp only[Result.andThen_ok] at this ⊢;cases this;rfl
  | halt z w'=>simp[Result.andThen] at this
 by_cases hh:a=a'∧b=b'∧c=c'
 ·exact E3a Z Z hd (fun w _=>by simp only[execOp,hx,hy,Sem.run_bind,run_eqGuard_agg w _ _ _ _ _ _ hE.1,Result.andThen_ok,hn,Sem.run_pure,decide_eq_true hh];rfl) (h2 hh)
 ·exact E3a Z Z hd (fun w _=>by simp only[execOp,hx,hy,Sem.run_bind,run_eqGuard_agg w _ _ _ _ _ _ hE.1,Result.andThen_ok,hn,Sem.run_pure,decide_eq_false hh];rfl) (h1 hh)
end
theorem v2a{M:List Nat}{w w':World}{b:Blk}(hk:z0a M w w')(hm:b.1∉M)(h:E0a w b):E0a w' b:=by
 have:=h.lt;unfold E0a at *;rw[hk.same _ this hm];exact h
theorem InP.grow{p:h0a}{Bs0 M0 N:List Nat}{w0 w:World}{cs:List Value}(h:InP p (Bs0++M0) w0 cs)(hK:z0a Bs0 w0 w)(hN:∀g∈N,g∈Bs0++M0∨w0.heap.size≤g)(a0:∀g∈N,g<w.heap.size):InP p N w cs:=by
 have hm:∀g∈Bs0++N,g∈Bs0++M0∨w0.heap.size≤g:=fun g hg=>by
  rcases List.mem_append.1 hg with h|h
  ·exact .inl (List.mem_append_left _ h)
  ·exact hN g h
 have hk:z0a (Bs0++N) w0 w:=hK.mono fun g hg=>List.mem_append_left _ hg;exact⟨((h.rd.more hm).keep hk).less fun g hg=>List.mem_append_right _ hg,h.ok,⟨fun hh=>((h.msk.more hm).keep hk).1 (List.mem_append_right _ hh),((h.msk.more hm).keep hk).2⟩,a0⟩
theorem o5c(cs:List Value)(h4:cs.length=4)(m:Int)(A:Option Addr)(n a0:Nat)(w0:World):
 N0a prog 122 #[.agg cs.toArray,.int .i64 m,.slice A n a0] w0 fun v w'=>(∃gp gr gm,v=.func (.func 149) #[] #[.pointer (some ⟨gp,0,none⟩),.pointer (some ⟨gr,0,none⟩),.pointer (some ⟨gm,0,none⟩)]∧w0.heap.size≤gp∧w0.heap.size≤gr∧w0.heap.size≤gm ∧
  E0a w' (gp,27,cs)∧E0a w' (gr,41,[.slice A n a0])∧E0a w' (gm,3,[.int .i64 m]))∧Below w0.heap.size w0 w':=by
 have S:=St.refl w0
 match cs,h4 with
 | [c0,c1,c2,c3],_ =>
 refine a0a func122 Z ntmps122 Z ?_;refine wO0 Z U (m0a S Z ?_);intro g3 w3 S3 X3 G3;refine O8a S3 (v:=.int .i64 _) Z Z Z ?_;intro g4 w4 S4 X4 G4;refine O8a S4 (v:=.slice _ _ _) Z Z Z ?_;intro g5 w5 S5 X5 G5;refine lO0 Z U (e2a Z Z ?_);refine lR0 Z U (r0a Z ?_);exact⟨⟨g3,g5,g4,Z,by simpa using S5.new 2 Z,by simpa using S5.new 0 Z,by simpa using S5.new 1 Z,S5.blk 2 Z,S5.blk 0 Z,S5.blk 1 Z⟩,S5.fin⟩
structure t5b (p:h0a) (m:Int) (run:List c0a) (l:Nat) (Bs0 M0:List Nat) (w0:World) (J:Nat→Nat→List Nat→World→Prop) (Q:World→Prop):Prop where
 start:∀g5 w,w0.heap.size≤g5→Below w0.heap.size w0 w→J g5 0 Bs0 w
 own:∀g5 k Bs w w',w0.heap.size≤g5→g5∉Bs→J g5 k Bs w→S0a [g5] w w'→J g5 k Bs w'
 lt:∀g5 k Bs w,J g5 k Bs w→∀g∈Bs,g<w.heap.size
 each:∀g5 k Bs w c ys (err:Int),w0.heap.size≤g5→g5<w.heap.size→g5∉Bs→J g5 k Bs w→z0a Bs0 w0 w→((err=0∧(L2a p m run)[k]?=some c)∨(err=110∧k=(L2a p m run).length∧(L2a p m run).length≤run.length∧c=⟨[],[],[]⟩))→D0a (g5::(Bs++M0)) w c ys →
  Yld prog l #[.agg ys.toArray,.int .i64 err] w fun v w'=>(err=0∧v=.bool true∧∃Bs',J g5 (k+1) Bs' w'∧z0a Bs w w'∧∀g∈Bs',g∈Bs∨w.heap.size≤g)∨(err=110∧v=.bool false∧Q w')
section
variable {p:h0a} {m:Int} {run:List c0a} {l:Nat} {Bs0 M0:List Nat} {w0:World} {J:Nat→Nat→List Nat→World→Prop} {Q:World→Prop}
theorem t5b.round(h:t5b p m run l Bs0 M0 w0 J Q):∀g5 k Bs w c ys,w0.heap.size≤g5→g5<w.heap.size→g5∉Bs→J g5 k Bs w→z0a Bs0 w0 w→(L2a p m run)[k]?=some c→D0a (g5::(Bs++M0)) w c ys→Yld prog l #[.agg ys.toArray,.int .i64 0] w fun v w'=>v=.bool true∧∃a0,J g5 (k+1) a0 w'∧z0a Bs w w'∧∀g∈a0,g∈Bs∨w.heap.size≤g :=
 fun g5 k Bs w c ys h1 h2 h3 h4 h5 h6 h7=>(h.each g5 k Bs w c ys 0 h1 h2 h3 h4 h5 (.inl ⟨Z,h6⟩) h7).mono fun v w' hh=>by
  rcases hh with⟨_,hh⟩|⟨hh,_⟩
  ·exact hh
  ·omega
theorem t5b.last(h:t5b p m run l Bs0 M0 w0 J Q):∀g5 Bs w ys,w0.heap.size≤g5→g5<w.heap.size→g5∉Bs→z0a Bs0 w0 w→(L2a p m run).length≤run.length→J g5 (L2a p m run).length Bs w→D0a (g5::(Bs++M0)) w ⟨[],[],[]⟩ ys→Yld prog l #[.agg ys.toArray,.int .i64 110] w fun v w'=>v=.bool false∧Q w' :=
 fun g5 Bs w ys h1 h2 h3 h4 h5 h6 h7=>(h.each g5 _ Bs w _ ys 110 h1 h2 h3 h6 h4 (.inr ⟨Z,Z,h5,Z⟩) h7).mono fun v w' hh=>by
  rcases hh with⟨hh,_⟩|⟨_,hh⟩
  ·omega
  ·exact hh
end
theorem D0a.grow{c:G0a}{ys:List Value}{g5:Nat}{Bs a0 M0:List Nat}{w w':World}(h:D0a (g5::(Bs++M0)) w c ys)(hk:z0a Bs w w')(hb:∀g∈a0,g∈Bs∨w.heap.size≤g):D0a (g5::(a0++M0)) w' c ys:=by
 have h1:D0a (Bs++(g5::(a0++M0))) w c ys:=h.more fun g hg=>by
  simp only[List.mem_append,List.mem_cons] at hg ⊢;rcases hg with hg|rfl|hg|hg
  ·exact .inl (.inr (.inl hg))
  ·exact .inl (.inl Z)
  ·rcases hb g hg with h|h
   ·exact .inl (.inr (.inl h))
   ·exact .inr h
  ·exact .inl (.inr (.inr hg))
 exact(h1.keep (hk.mono fun g hg=>List.mem_append_left _ hg)).less fun g hg=>List.mem_append_right _ hg
theorem n2c(p:h0a)(m:Int)(hm:m=0∨m=1∨m=2)(run:List c0a)(gp gr gm l:Nat)(Bs0 M0:List Nat)(w0:World)(cs:List Value)(vr:Value)(J:Nat→Nat→List Nat→World→Prop)(Q:World→Prop)
 (hI:InP p (Bs0++M0) w0 cs) (p0:w5a (Bs0++M0) w0 vr run) (Z0:E0a w0 (gp,27,cs)) (p1:E0a w0 (gr,41,[vr])) (Y0:E0a w0 (gm,3,[.int .i64 m])) (u1:gp∉Bs0) (v1:gr∉Bs0) (t1:gm∉Bs0)
 (hJ:t5b p m run l Bs0 M0 w0 J Q) :
 N0a prog 149 #[.func (.yield l) #[] #[],.pointer (some ⟨gp,0,none⟩),.pointer (some ⟨gr,0,none⟩),.pointer (some ⟨gm,0,none⟩)] w0 fun _ w'=>((L2a p m run).length=run.length+1∧∃g5 Bs,J g5 (L2a p m run).length Bs w')∨Q w':=by
 obtain⟨Ac,nc,cc,Am,nm,cm,Al,nl,cl,At,nt,ct,rfl,-⟩:=hI.rd.open_;obtain⟨Ar,nr,cr,rfl⟩:=p0.form;obtain⟨_,-,_⟩:=p0.len;have hp:=hI.ok;have S:=St.refl w0;have a1:O1a w0 gp 0 [.slice Ac nc cc,.slice Am nm cm,.slice Al nl cl,.slice At nt ct]:=fun j v hj=>by rw[Nat.zero_add];exact Z0.cell hj
 have z0:∀g∈Bs0,g<w0.heap.size:=fun g hg=>hI.lt g (List.mem_append_left _ hg);refine a0a func149 Z ntmps149 Z ?_;refine wO0 Z U (z1a m2a Z (a1.keep (S.keep0 []) (by simp)) (by rfl) Z ?_);refine x0a S p9c Z Z (F4b p (Bs0++M0) _ _ (hI.keep (S.keep0 _))) ?_;rintro P1 U1 ⟨_,rfl,hx⟩ T0 M1;obtain⟨Ym,E1,zm,Ya,C1,za,Yb,D1,zb,rfl,-⟩:=hx.open_;refine j0a T0 r4a Z Z ?_;intro g5 w5 S5 X5 G5;have i0:=Nat.le_trans T0.size G5;replace hx:=(hx.more (M':=g5::(Bs0++M0)) (fun g hg=>by rcases List.mem_cons.1 hg with rfl|hg;exact .inr G5;exact .inl hg)).keep X5.of_nil
 first|refine e0a (kk:=0) (vs:=[_,_,_]) S5 o2a Z Z Z Z Z Z Z ?_
 intro A1 b0 v0;dsimp only[n0a,List.set] at b0;replace hx:=hx.keep (v0.mono (by simp));refine lO0 Z U (z1a Q0a Z (b0.cells 0 Z) Z Z ?_);refine lO0 Z U ?_;have m1:=hJ.start g5 _ i0 b0.fin;refine n9a Z Z Z (hJ.round g5 0 Bs0 _ (f1a p) _ i0 (b0.lt 0 Z) (fun hh=>by have:=z0 g5 hh;omega) m1 (b0.keep0 _) Z hx) ?_;rintro Q1 c1 ⟨rfl,m0,A0,n0,o0⟩;have s0:=v2a n0 (fun hh=>by have:=z0 g5 hh;omega) (b0.blk 0 Z);have P0:=D0a.grow hx n0 o0;have S0:z0a Bs0 w0 c1:=(b0.keep0 Bs0).trans n0;have D0:∀g∈m0,g∈Bs0∨w0.heap.size≤g:=fun g hg=>by
  rcases o0 g hg with h|h
  ·exact .inl h
  ·right;have:=b0.size;omega
 have x1:g5∉m0:=fun hh=>by
  rcases o0 g5 hh with h|h
  ·have:=z0 g5 h;omega
  ·have:=b0.lt 0 Z;omega
 have S:=St.borrow1 s0;have s1:c1.cell? ⟨gr,0,none⟩=some (.slice Ar nr cr):=S0.cell (a:=⟨gr,0,none⟩) v1 (p1.cell Z);refine lO0 Z U (s0a L7a Z (by exact s1) Z ?_);refine lC0 Z U (wL (fun μ D ε w=>D=[]∧∃k:Nat,∃c:G0a,∃ys:List Value,∃Bs:List Nat,(k+μ=run.length)∧((L2a p m run)[k]?=some c)∧(J g5 (k+1) Bs w)∧(D0a (g5::(Bs++M0)) w c ys)∧(z0a Bs0 w0 w)∧(∀g∈Bs,g∈Bs0∨w0.heap.size≤g)∧(g5∉Bs)∧(E0a w (g5,38,ys))∧ε 0=.func (.yield l) #[] #[]∧ε 1=.pointer (some ⟨gp,0,none⟩)∧ε 3=.pointer (some ⟨gm,0,none⟩)∧ε 5=.pointer (some ⟨g5,0,none⟩)∧ε 16=.slice Ar nr cr∧ε 17=.int .i64 nr∧ε 18=.int .i64 k) (μ:=run.length) ⟨Z,0,f1a p,_,m0,by omega,Z,A0,P0,S0,D0,x1,s0,Z,Z,Z,Z,Z,Z,Z⟩ ?_);rintro μ D ε w ⟨rfl,k,c,ys,Bs,_,hc,B0,hx,hK,hN,n5,o1,e0,e1,e3,e5,U0,V0,W0⟩;refine t0a 0 e0 (t0a 1 e1 (t0a 3 e3 (t0a 5 e5 (t0a 16 U0 (t0a 17 V0 (t0a 18 W0 ?_))))));clear e0 e1 e3 e5 U0 V0 W0;obtain⟨Ym,E1,zm,Ya,C1,za,Yb,D1,zb,rfl,-⟩:=hx.open_;have r0:=p0.keep (hK.mono (fun g hg=>List.mem_append_left M0 hg));have L0:gp∉[g5]:=fun hh=>by rw[List.mem_singleton] at hh;have:=Z0.lt;simp at this;omega
 have K0:gm∉[g5]:=fun hh=>by rw[List.mem_singleton] at hh;have:=Y0.lt;simp at this;omega
 have r1:w.cell? ⟨gm,0,none⟩=some (.int .i64 m):=hK.cell (a:=⟨gm,0,none⟩) t1 (Y0.cell Z);have J0:=a1.keep hK u1;replace S:=St.borrow1 o1;refine wB0 Z U (fun j1=>?_) fun j1=>?_
 ·obtain⟨x,i1,z1,_,Q0,y0,_,N0,I0,O0⟩:=RdS.get (r0) (k) (by omega);obtain⟨rfl,_⟩:=id O0;refine lO (S.k.b I0) [.x i1 z1,.v 0] Z ⟨⟨Z,N0⟩,⟨y0,by omega⟩,U⟩ (j0a S f2b Z Z ?_);intro g8 w8 S8 X8 G8
  first|refine e0a (kk:=0) (vs:=[_,_,_]) S8 H1b Z Z Z Z Z Z Z ?_
  intro u0 a0 g1;dsimp only[n0a,List.set] at a0;refine lO0 Z U (z1a m2a Z (J0.keep a0.keepM L0) (by rfl) Z ?_);refine s0a M0a Z (by exact a0.oldM K0 r1) Z ?_;refine z1a Q0a Z (a0.cells 1 Z) Z Z ?_;refine lO a0.k [.w 0] Z ⟨⟨Z,by rfl⟩,U⟩ ?_;have t0:∀g∈g5::(Bs++M0),g<u0.heap.size:=fun g hg=>by
   have O1:=a0.size;rcases List.mem_cons.1 hg with rfl|hg
   ·exact a0.lt 1 Z
   ·rcases List.mem_append.1 hg with h|h
    ·have:=hJ.lt _ _ _ _ B0 g h;omega
    ·have:=hI.lt g (List.mem_append_right _ h);have:=hK.size;omega
  have E0:∀g∈g5::(Bs++M0),g∈Bs0++M0∨w0.heap.size≤g:=fun g hg=>by
   rcases List.mem_cons.1 hg with rfl|hg
   ·exact .inr i0
   ·rcases List.mem_append.1 hg with h|h
    ·rcases hN g h with h|h
     ·exact .inl (List.mem_append_left _ h)
     ·exact .inr h
    ·exact .inl (List.mem_append_right _ h)
  have C0:z0a Bs0 w0 u0:=hK.freshL a0.keepM (fun g hg=>by rw[List.mem_singleton] at hg;subst hg;exact .inl i0);have b1:=y7a hp (d0a hc);refine x0a a0 p0d Z Z (h9b p c m x (by rcases hm with h|h|h;exact .inl ⟨h,b1.2 h⟩;exact .inr (.inl h);exact .inr (.inr h)) (g5::(Bs++M0)) _ _ _ (hI.grow C0 E0 t0) (hx.keep (a0.keepM.mono (by simp))) b1.1) ?_;rintro R1 V1 ⟨_,rfl,hz⟩ f1 N1;obtain⟨Zm,J1,K1,Za,F1,G1,Zb,H1,I1,rfl,-⟩:=hz.open_;refine lO0 Z U ?_
  first|refine e0a (kk:=1) (vs:=[_,_,_]) f1 o2a Z Z Z Z Z Z Z ?_
  intro g0 c0 x0;dsimp only[n0a,List.set] at c0;replace hz:=hz.keep (x0.mono (by simp));refine lO0 Z U (z1a Q0a Z (c0.cells 1 Z) Z Z ?_);refine lO0 Z U ?_;have q0:=hJ.own g5 (k+1) Bs _ _ i0 n5 B0 c0.below;have d0:z0a Bs0 w0 g0:=hK.freshL c0.keepM (fun g hg=>by rw[List.mem_singleton] at hg;subst hg;exact .inl i0);have n1:Yld prog l #[.agg #[.slice Zm J1 K1,.slice Za F1 G1,.slice Zb H1 I1],.int .i64 (i0b p m c x).2] g0 fun v w'=>(v=.bool true∧x∈J0a p m c∧∃R0,J g5 (k+1+1) R0 w'∧z0a Bs g0 w'∧∀g∈R0,g∈Bs∨g0.heap.size≤g)∨(v=.bool false∧Q w'):=by
   by_cases f0:x∈J0a p m c
   ·have j0:=hz;rw[F3a f0] at j0 ⊢;exact(hJ.round g5 (k+1) Bs _ _ _ i0 (c0.lt 1 Z) n5 q0 d0 (w7a hc Q0 f0) j0).mono fun v w' h=>.inl ⟨h.1,f0,h.2⟩
   ·have j0:=hz;rw[h3a f0] at j0 ⊢;have w1:=U0b hc Q0 f0;exact(hJ.last g5 Bs _ _ i0 (c0.lt 1 Z) n5 d0 (by omega) (by rw[w1];exact q0) j0).mono fun v w' h=>.inr h
  refine n9a Z Z Z n1 ?_;rintro T1 B1 (⟨rfl,f0,m0,A0,n0,o0⟩|⟨rfl,G0⟩)
  ·refine lB0 Z U (fun X0=>by exact absurd (by rw[F3a f0]) X0) (fun X0=>?_);refine lP0 Z ⟨by omega,U⟩ ?_;have j0:=hz;rw[F3a f0] at j0;have q1:=w7a hc Q0 f0;have H0:=v2a n0 n5 (c0.blk 1 Z);have P0:=D0a.grow j0 n0 o0;have d1:z0a Bs0 w0 B1:=d0.freshL n0 (fun g hg=>(hN g hg).symm);have F0:∀g∈m0,g∈Bs0∨w0.heap.size≤g:=fun g hg=>by
    rcases o0 g hg with h|h
    ·exact hN g h
    ·right;have:=d0.size;omega
   have y1:g5∉m0:=fun hh=>by
    rcases o0 g5 hh with h|h
    ·exact n5 h
    ·have:=c0.lt 1 Z;omega
   exact⟨μ-1,by omega,Z,k+1,_,_,m0,by omega,q1,A0,P0,d1,F0,y1,H0,Z,Z,Z,Z,Z,Z,Z⟩
  refine lR0 Z U (c2a Z ?_);exact .inr G0
 refine lF0 Z U (c2a Z ?_);refine .inl ⟨?_,g5,Bs,?_⟩
 ·have:=g1a hc;have:=o5a p m run;omega
 ·have:=g1a hc;have:=o5a p m run;rw[show(L2a p m run).length=k+1 by omega];exact B0
theorem NC.keepN{w w':World}{rs:List (Nat×Obj)}(h:NC w rs){Gs:List Nat}(k:z0a Gs w w')(hg:∀x∈rs,x.1∉Gs):NC w' rs:=fun x hx=>⟨(k.same x.1 (h.lt x hx) (hg x hx)).trans (h x hx).1,(h x hx).2⟩
theorem St.other{M:List Nat}{w0 w w':World}{L:List Ent}(S:St M w0 w L){g:Nat}(hb:S0a [g] w w')(hg:w0.heap.size≤g)(hn:g∉a6a L):St M w0 w' L:=by
 refine⟨⟨hb.os.trans S.below.os,hb.tape.trans S.below.tape,hb.output.trans S.below.output,Nat.le_trans S.below.size hb.size,fun k hk hm=>?_⟩,fun b hm x hx=>?_,S.apart⟩
 ·rw[hb.block k (Nat.lt_of_lt_of_le hk S.below.size) (by rw[List.mem_singleton];omega)];exact S.below.block k hk hm
 ·obtain⟨h1,h2⟩:=S.own b hm x hx;refine⟨h1,?_⟩;have a0:=h2.lt;unfold E0a at *;rw[hb.block x a0 (by rw[List.mem_singleton];rintro rfl;exact hn (y2a.2 ⟨b,hm,hx⟩))];exact h2
theorem F1d{a b c d e t1 t2 t3 t4 t5 t6:Nat}{c1 c2 c3 c4 c5 c6:List Value}{G:Option Nat}:a6a ([(some a,t1,c1),(some b,t2,c2),(some c,t3,c3),(some d,t4,c4),(some e,t5,c5)]++[(G,t6,c6)])=a::b::c::d::e::G.toList:=by cases G<;>rfl
section
variable {P:Program} {fn:Func} {R:Value→World→Prop} {D:List Deferred} {e:Env} {w:World}
theorem v6a{a1 t1 a2 t2 a3 t3 g1 g2 g3:Nat}{v1 v2 v3:Value}(h:fn.results=#[.cell a1 t1,.cell a2 t2,.cell a3 t3])(o1:One P t1)(o2:One P t2)(o3:One P t3)(e1:e a1=.pointer (some ⟨g1,0,none⟩))(e2:e a2=.pointer (some ⟨g2,0,none⟩))(e3:e a3=.pointer (some ⟨g3,0,none⟩))
 (rs:List Nat) (hD:D=rs.map y5a) (hn:rs.Nodup) (hO:NC w (Z7a rs)) {x1 x2 x3:Nat} {c1 c2 c3:List Value} (b1:E0a w (g1,x1,c1)) (b2:E0a w (g2,x2,c2)) (b3:E0a w (g3,x3,c3)) (q1:c1[0]?=some v1) (q2:c2[0]?=some v2) (q3:c3[0]?=some v3) (hR:∀w',S0a rs w w'→R (.tuple #[v1,v2,v3]) w'):i6a P fn R D e w :=
 ⟨rs,hD,hn,hO,fun w' hb _ tmps he=>by
  have hk:z0a rs w w':=⟨hb.size,hb.block⟩;have a0:∀{g x:Nat} {c:List Value},E0a w (g,x,c)→g∉rs:=fun hb hh=>hO.ne hb _ (List.mem_map.2 ⟨_,hh,Z⟩) Z;have k1:=hk.cell (a:=⟨g1,0,none⟩) (a0 b1) (b1.cell q1);have k2:=hk.cell (a:=⟨g2,0,none⟩) (a0 b2) (b2.cell q2);have k3:=hk.cell (a:=⟨g3,0,none⟩) (a0 b3) (b3.cell q3);subst he;simp only[Y0a,Array.getD_eq_getD_getElem?] at e1 e2 e3;have hl:∀(t g:Nat) (v:Value),One P t→w'.cell? ⟨g,0,none⟩=some v→(loadVar t ⟨g,0,none⟩).run P w'=.ok v w':=fun t g v ho hc=>by rw[ho w'];simp[load,Sem.run,hc]
  exact⟨_,by simp[results,h,asAddr,e1,e2,e3,hl _ _ _ o1 k1,hl _ _ _ o2 k2,hl _ _ _ o3 k3],hR w' hb⟩⟩
end
def W8b(p:h0a)(m:Int)(run:List c0a):Int:=if(L2a p m run).length=run.length+1 then 0 else 110
theorem t1c{M Mx:List Nat}{w0 w w':World}{A:List Ent}{G:Option Nat}{a0:List Value}{v:Value}{l:List G0a}{r:Nat}(d0:x1a A4a 3 Mx w G a0 v l)(S:St [] w0 w (A++[(G,38,a0)]))(hM:∀g∈M,g<w0.heap.size)(e0:∀g∈r::M,g∈Mx)(hO:NC w (Z7a [r]))(hb:S0a [r] w w')(hl:l.length≤1000000:=by omega):x2d M w' v l:=by
 have h1:x1a A4a 3 (r::M) w G a0 v l:=d0.more S1a fun g hg=>.inl (.inr (e0 g hg));have h2:=h1.rd S1a S (k:=A.length) (el:=38) (by simp) (fun g hg hm=>by
  subst hg;have c0:(some g,38,a0)∈A++[(some g,38,a0)]:=by simp
  have b0:=S.own _ c0 g Z;rcases List.mem_cons.1 hm with rfl|hm
  ·exact hO.ne b0.2 _ (List.mem_cons_self) Z
  ·rcases b0.1 with h|h
   ·have:=hM g hm;omega
   ·cases h) hl
 have hk:z0a (r::M) w w':=(z0a.of_belowM hb).mono (by simp);exact RdS.lessW (RdS.keepW h2 hk (A4a.keep hk)) (fun g hg=>List.mem_cons_of_mem _ hg) (A4a.less fun g hg=>List.mem_cons_of_mem _ hg)
theorem Q1d(p:h0a)(m:Int)(hm:m=0∨m=1∨m=2)(run:List c0a)(M:List Nat)(w0:World)(cs:List Value)(vr:Value)(hI:InP p M w0 cs)(F0:w5a M w0 vr run)(hlen:run.length≤120):
 N0a prog 86 #[.agg cs.toArray,.int .i64 m,vr] w0 fun v w'=>(∃vl,v=.tuple #[vl,.int .i64 (W8b p m run),.int .i64 (((L2a p m run).length:Int)-1)]∧x2d M w' vl (L2a p m run))∧Below w0.heap.size w0 w':=by
 obtain⟨Ac,nc,cc,Am,nm,cm,Al,nl,cl,At,nt,ct,rfl,_⟩:=hI.rd.open_;obtain⟨Ar,nr,cr,rfl⟩:=F0.form;obtain⟨_,-,_⟩:=F0.len;have hp:=hI.ok;have hM:=hI.lt;have S:=St.refl w0;have t2:=o5a p m run;refine N3a func86 Z ntmps86 Z (wI ?_);refine wO0 Z U (m0a S Z ?_);intro g3 w3 S3 X3 G3;refine j0a S3 O4c Z Z ?_;intro g6 w6 S6 X6 G6;refine j0a S6 v3c Z Z ?_;intro g7 w7 S7 X7 G7;refine j0a S7 D2d Z Z ?_;intro g8 w8 S8 X8 G8;refine lCn 2 S8.k [] Z U (wY (fun D ε w=>D=[]∧St [] w0 w [(some g8,3,[.int .i64 0]),(some g7,31,[.int .i64 0]),(some g6,30,[.slice none 0 0]),(some g3,27,[.slice Ac nc cc,.slice Am nm cm,.slice Al nl cl,.slice At nt ct])]∧Sl ε [(1,.int .i64 m),(2,.slice Ar nr cr),(3,.pointer (some ⟨g3,0,none⟩)),(6,.pointer (some ⟨g6,0,none⟩)),(7,.pointer (some ⟨g7,0,none⟩)),(8,.pointer (some ⟨g8,0,none⟩))]) ?_ ?_)
 ·refine wO S8.k [.w 3] Z ⟨⟨Z,by rfl⟩,U⟩ (i0a S8 r1b Z Z (m7a p M _ _ (hI.keep (S8.keep0 M)).rd hI.ok (hI.keep (S8.keep0 M)).msk (hI.keep (S8.keep0 M)).lt) ?_);intro y2 V0 m2;refine lB0 Z U (fun F1=>by exfalso;omega) fun F1=>?_;refine lB0 Z U (fun G1=>?_) fun G1=>?_
  ·refine lB0 Z U (fun H1=>?_) fun H1=>?_
   ·refine lB0 Z U (fun I1=>by exfalso;omega) fun I1=>?_;refine lP0 Z U ⟨Z,V0,Z⟩
   refine lP0 Z U ⟨Z,V0,Z⟩
  refine lP0 Z U ⟨Z,V0,Z⟩
 rintro D ε w ⟨rfl,S,eZ⟩;refine wK eZ ?_;refine wB0 Z U (fun J1=>by exfalso;omega) fun J1=>?_;refine lO0 Z U (j0a S O4c Z Z ?_);intro c0 x1 i0 j2 g2;refine lO i0.k [.w 4] Z ⟨⟨Z,by rfl⟩,U⟩ ?_;have Zb:=i0.size;refine x0a i0 m8c Z Z (o5c _ Z m Ar nr cr _) ?_;rintro v2 a0 ⟨gp,gr,gm,rfl,Ggp,Ggr,Ggm,s1,t1,r1⟩ i1 n2;refine lC0 Z U (wJ ?_);refine k8a (vs:=fun y=>#[y,_,_,_]) f9c Z (fun _=>rfl) (fun rc wi f1 v1 a2 b1 W1 O1 Q1 T1 hl hB u2=>?_);obtain⟨l,V1⟩:∃l,l=a0.heap.size+1:=⟨_,Z⟩;have q1:=o6a (NC.nil (w:=a0)) T1 hl hB;rw[←V1] at hl q1 ⊢;have Si:=(i1.later hB).nils (R:=[(none,38,[])]) (by simp);have Ki:z0a [] a0 wi:=z0a.of_below hB;have Zw:=i1.size;have d2:gp<a0.heap.size:=s1.lt;have f2:gr<a0.heap.size:=t1.lt;have b2:gm<a0.heap.size:=r1.lt;have q0:∀x∈[(a0.heap.size,Obj.deferred (some []))],x.1≠l:=fun x hx=>by
  rcases List.mem_cons.1 hx with rfl|hx
  ·show a0.heap.size≠l;omega
  ·cases hx
 have n0:∀g∈c0::g8::g7::g6::g3::([]:List Nat),g<x1.heap.size∧w0.heap.size≤g:=fun g hg=>by
  simp only[List.mem_cons,List.not_mem_nil,or_false] at hg;rcases hg with rfl|rfl|rfl|rfl|rfl
  ·exact⟨i0.lt 0 Z,by simpa using i0.new 0 Z⟩
  ·exact⟨i0.lt 1 Z,by simpa using i0.new 1 Z⟩
  ·exact⟨i0.lt 2 Z,by simpa using i0.new 2 Z⟩
  ·exact⟨i0.lt 3 Z,by simpa using i0.new 3 Z⟩
  ·exact⟨i0.lt 4 Z,by simpa using i0.new 4 Z⟩
 have Z0:∀g∈(l::c0::g8::g7::g6::g3::[])++(a0.heap.size::M),g∈M∨w0.heap.size≤g:=fun g hg=>by
  rcases List.mem_append.1 hg with hg|hg
  ·rcases List.mem_cons.1 hg with rfl|hg
   ·right;omega
   ·exact .inr (n0 g hg).2
  ·rcases List.mem_cons.1 hg with rfl|hg
   ·right;omega
   ·exact .inl hg
 have c1:∀g∈(l::c0::g8::g7::g6::g3::[])++(a0.heap.size::M),g<wi.heap.size:=fun g hg=>by
  rcases List.mem_append.1 hg with hg|hg
  ·rcases List.mem_cons.1 hg with rfl|hg
   ·omega
   ·have:=(n0 g hg).1;omega
  ·rcases List.mem_cons.1 hg with rfl|hg
   ·omega
   ·have:=hM g hg;omega
 have K1:InP p ((l::c0::g8::g7::g6::g3::[])++(a0.heap.size::M)) wi _:=⟨(hI.rd.more Z0).keep (Si.keep0 _),hI.ok,(hI.msk.more Z0).keep (Si.keep0 _),c1⟩;have N1:w5a ((l::c0::g8::g7::g6::g3::[])++(a0.heap.size::M)) wi (.slice Ar nr cr) run:=(F0.more (by omega) Z0).keep (Si.keep0 _);have d1:∀g,x1.heap.size≤g→g<a0.heap.size→g∉(l::c0::g8::g7::g6::g3::[]):=fun g h1 h2 hh=>by
  rcases List.mem_cons.1 hh with h|h
  ·omega
  ·have:=(n0 g h).1;omega
 refine N0a.mono (n2c p m hm run gp gr gm l (l::c0::g8::g7::g6::g3::[]) (a0.heap.size::M) wi _ _ (fun g5 k Bs w=>∃(G:Option Nat) (g0:List Value) (v:Value),Bs=(l::c0::g8::g7::g6::g3::G.toList)∧NC w [(l,.loop rc),(a0.heap.size,.deferred (some []))]∧St [] w0 w ([(some c0,30,[v]),(some g8,3,[.int .i64 0]),(some g7,31,[.int .i64 0]),(some g6,30,[.slice none 0 0]),(some g3,27,[.slice Ac nc cc,.slice Am nm cm,.slice Al nl cl,.slice At nt ct])]++[(G,38,g0)])∧x1a A4a 3 (g5::l::a0.heap.size::c0::g8::g7::g6::g3::M) w G g0 v ((L2a p m run).take k)) (fun w=>(L2a p m run).length≤run.length∧∃(g5:Nat) (G:Option Nat) (g0:List Value) (v:Value),NC w [(l,.loop { rc with state:=.done,pending:=some .ret }),(a0.heap.size,.deferred (some []))]∧St [] w0 w ([(some c0,30,[v]),(some g8,3,[.int .i64 (((L2a p m run).length:Int)-1)]),(some g7,31,[.int .i64 110]),(some g6,30,[v]),(some g3,27,[.slice Ac nc cc,.slice Am nm cm,.slice Al nl cl,.slice At nt ct])]++[(G,38,g0)])∧x1a A4a 3 (g5::l::a0.heap.size::c0::g8::g7::g6::g3::M) w G g0 v (L2a p m run)) K1 N1 (E1a Ki s1) (E1a Ki t1) (E1a Ki r1) (d1 gp Ggp d2) (d1 gr Ggr f2) (d1 gm Ggm b2) ⟨?_,?_,?_,fun g5 k Bs w c ys D1 u1 U1 T0 hJ r2 p0 hY=>?_⟩) ?_
 ·intro g5 w u1 p1;exact⟨none,[],_,Z,q1.keep (z0a.of_below p1),Si.later p1,x1a.nil⟩
 ·rintro g5 k Bs w w' u1 T0 ⟨G,g0,v,rfl,hO,S,b0⟩ hb;simp only[List.mem_cons,not_or] at T0;refine⟨G,g0,v,Z,hO.keepN (z0a.of_belowM hb) (fun x hx=>?_),S.other hb (by omega) (by rw[F1d];simp only[List.mem_cons,not_or];exact T0.2),b0.keep S1a ((z0a.of_belowM hb).mono (by simp))⟩;rw[List.mem_singleton];rcases List.mem_cons.1 hx with rfl|hx
  ·exact fun h=>T0.1 h.symm
  ·rcases List.mem_cons.1 hx with rfl|hx
   ·show ¬a0.heap.size=g5;omega
   ·cases hx
 ·rintro g5 k Bs w ⟨G,g0,v,rfl,hO,S,b0⟩ g hg;rcases List.mem_cons.1 hg with rfl|hg
  ·exact hO.lt _ List.mem_cons_self
  ·have P1:g∈a6a ([(some c0,30,[v]),(some g8,3,[.int .i64 0]),(some g7,31,[.int .i64 0]),(some g6,30,[.slice none 0 0]),(some g3,27,[.slice Ac nc cc,.slice Am nm cm,.slice Al nl cl,.slice At nt ct])]++[(G,38,g0)]):=by rw[F1d];exact hg
   obtain⟨x,hx,hg⟩:=y2a.1 P1;exact(S.own x hx g hg).2.lt
 ·obtain⟨G,g0,v,rfl,f0,S3,e0⟩:=hJ;obtain⟨_,_,_,_,_,_,_,_,_,rfl,-⟩:=hY.open_;have K3:=z0a.refl (l::c0::g8::g7::g6::g3::G.toList) w;refine v2c (f0 (l,.loop rc) (by simp)).1 f1 a2 b1 W1 O1 Q1 Z Z ?_;refine wI ?_;refine wO0 Z U (j0a S3 r4a Z Z ?_);intro E1 x2 R0 m1 C1;have K0:=Nat.le_trans K3.size C1;replace K3:=K3.trans (m1.of_nil);replace f0:=f0.keep m1;refine e0a (kk:=0) (vs:=[_,_,_]) R0 o2a Z Z Z Z Z Z Z ?_;intro C0 u0 y0;dsimp only[n0a,List.set] at u0;replace K3:=K3.fresh2 y0 (by exact .inl K0);replace f0:=by exact f0.keepS y0 (R0.blk 0 Z)
  refine lF0 Z U ?_;refine⟨(f0 (l,.loop rc) (by simp)).1,?_⟩;have Sb:=u0.putObj (.loop { rc with state:=.busy }) f0 (List.mem_cons_self) (.inl (by omega));have o0:=f0.put (o':=.loop { rc with state:=.busy }) q0 (by simp);have Kb:=K3.fresh2 (F1a C0 l (.loop { rc with state:=.busy })) (.inr (by simp));generalize C0.putObj l (.loop { rc with state:=.busy })=wb at Sb o0 Kb ⊢;have a1:=hY.keep (Kb.mono (fun g hg=>List.mem_cons_of_mem _ (List.mem_append_left _ hg)));have P0:∀g∈G.toList++(g5::l::a0.heap.size::c0::g8::g7::g6::g3::M),g∈g5::((l::c0::g8::g7::g6::g3::G.toList)++(a0.heap.size::M)):=fun g hg=>by
   simp only[List.mem_append,List.mem_cons] at hg ⊢;rcases hg with h|h|h|h|h|h|h|h|h|h<;>simp[h]
  have Q0:∀g∈(l::c0::g8::g7::g6::g3::G.toList),g∈G.toList++(g5::l::a0.heap.size::c0::g8::g7::g6::g3::M):=fun g hg=>by
   simp only[List.mem_append,List.mem_cons] at hg ⊢;rcases hg with h|h|h|h|h|h|h<;>simp[h]
  have s0:=e0.keep S1a (Kb.mono Q0);have Kr:=z0a.refl [] wb;have p2:=Kb.size;refine wI ?_;refine wB0 Z U (fun Y0=>?_) fun Y0=>?_
  ·obtain⟨H0,rfl,N0,_⟩:=p0.resolve_left (fun h=>Y0 h.1);rw[List.take_length] at s0;refine lC0 Z U (m6b b0a (by kernel_rfl) (fun f ε w=>ε 6=.pointer (some ⟨g6,0,none⟩)∧ε 7=.pointer (some ⟨g7,0,none⟩)∧ε 8=.pointer (some ⟨g8,0,none⟩)∧ε 12=.pointer (some ⟨c0,0,none⟩)∧∃(u8 u7 u6:Value) (t0:List Value),St [] w0 w ([(some E1,38,t0),(some c0,30,[v]),(some g8,3,[u8]),(some g7,31,[u7]),(some g6,30,[u6]),(some g3,27,[.slice Ac nc cc,.slice Am nm cm,.slice Al nl cl,.slice At nt ct])]++[(G,38,g0)])∧NC w [(l,.loop { rc with state:=.busy }),(a0.heap.size,.deferred (some []))]∧x1a A4a 3 (g5::l::a0.heap.size::c0::g8::g7::g6::g3::M) w G g0 v (L2a p m run)∧(f 0=true→ε 44=v)∧(f 1=true→ε 45=v)∧(f 2=true→ε 46=.int .i64 ((L2a p m run).length:Nat))∧(f 3=true→ε 47=.int .i64 (((L2a p m run).length:Int)-1))∧(f 4=true→u6=v)∧(f 5=true→u7=.int .i64 110)∧(f 6=true→u8=.int .i64 (((L2a p m run).length:Int)-1))) ?_ ?_ ?_)
   ·exact⟨Z,Z,Z,Z,_,_,_,_,Sb.drew,o0.keep (j2a _ _),s0.keep S1a (j2a _ _),by simp,by simp,by simp,by simp,by simp,by simp,by simp⟩
   ·rintro f ε w i o ⟨e6,e7,e8,o1,u8,u7,u6,t0,S,hO,b0,h0,h1,h2,h3,h4,h5,h6⟩ ho s2 U0;have hi:i<7:=(List.getElem?_eq_some_iff.1 ho).1;refine W0a 6 e6 (W0a 7 e7 (W0a 8 e8 (W0a 12 o1 ?_)));rcases(show i=0∨i=1∨i=2∨i=3∨i=4∨i=5∨i=6 by omega) with rfl|rfl|rfl|rfl|rfl|rfl|rfl
    ·cases ho;refine s0a b9a Z (S.cell 1 Z Z) Z ?_;refine w0a ⟨Z,Z,Z,Z,Z,u8,u7,u6,t0,S,hO,b0,fun _=>rfl,fun hh=>h1 (by simpa using hh),fun hh=>h2 (by simpa using hh),fun hh=>h3 (by simpa using hh),fun hh=>h4 (by simpa using hh),fun hh=>h5 (by simpa using hh),fun hh=>h6 (by simpa using hh)⟩
    ·cases ho;refine s0a b9a Z (S.cell 1 Z Z) Z ?_;refine w0a ⟨Z,Z,Z,Z,Z,u8,u7,u6,t0,S,hO,b0,fun hh=>h0 (by simpa using hh),fun _=>rfl,fun hh=>h2 (by simpa using hh),fun hh=>h3 (by simpa using hh),fun hh=>h4 (by simpa using hh),fun hh=>h5 (by simpa using hh),fun hh=>h6 (by simpa using hh)⟩
    ·cases ho;obtain⟨Av,cv,hv⟩:=b0.form;refine W0a 45 ((h1 (U0 1 (by decide))).trans hv) ?_;refine B0c Y5a.slT Z Z ?_;refine w0a ⟨Z,Z,Z,Z,Z,u8,u7,u6,t0,S,hO,b0,fun hh=>h0 (by simpa using hh),fun _=>hv.symm,fun _=>rfl,fun hh=>h3 (by simpa using hh),fun hh=>h4 (by simpa using hh),fun hh=>h5 (by simpa using hh),fun hh=>h6 (by simpa using hh)⟩
    ·cases ho;refine W0a 46 (h2 (U0 2 (by decide))) ?_;refine Q2d Z Z (by have:=o5a p m run;unfold i64;omega) Z ?_;refine w0a ⟨Z,Z,Z,Z,Z,u8,u7,u6,t0,S,hO,b0,fun hh=>h0 (by simpa using hh),fun hh=>h1 (by simpa using hh),fun _=>rfl,fun _=>rfl,fun hh=>h4 (by simpa using hh),fun hh=>h5 (by simpa using hh),fun hh=>h6 (by simpa using hh)⟩
    ·cases ho;obtain⟨Av,cv,hv⟩:=b0.form;subst hv;refine W0a 44 (h0 (U0 0 (by decide))) ?_;refine u0a (kk:=4) S b2c Z Z Z (Nat.le_of_ble_eq_true Z) ?_;intro w1 S1 X1;refine w0a ⟨Z,Z,Z,Z,Z,u8,u7,_,t0,S1,hO.keepS X1 (S.blk 4 Z),b0.keep S1a (X1.mono (by simp)),fun _=>rfl,fun hh=>h1 (by simpa using hh),fun hh=>h2 (by simpa using hh),fun hh=>h3 (by simpa using hh),fun _=>rfl,fun hh=>h5 (by simpa using hh),fun hh=>h6 (by simpa using hh)⟩
    ·cases ho;refine u0a (kk:=3) S R8a Z Z Z (Nat.le_of_ble_eq_true Z) ?_;intro w1 S1 X1;refine w0a ⟨Z,Z,Z,Z,Z,u8,_,u6,t0,S1,hO.keepS X1 (S.blk 3 Z),b0.keep S1a (X1.mono (by simp)),fun hh=>h0 (by simpa using hh),fun hh=>h1 (by simpa using hh),fun hh=>h2 (by simpa using hh),fun hh=>h3 (by simpa using hh),fun hh=>h4 (by simpa using hh),fun _=>rfl,fun hh=>h6 (by simpa using hh)⟩
    ·cases ho;refine W0a 47 (h3 (U0 3 (by decide))) ?_;refine u0a (kk:=2) S m8a Z Z Z (Nat.le_of_ble_eq_true Z) ?_;intro w1 S1 X1;refine w0a ⟨Z,Z,Z,Z,Z,_,u7,u6,t0,S1,hO.keepS X1 (S.blk 2 Z),b0.keep S1a (X1.mono (by simp)),fun hh=>h0 (by simpa using hh),fun hh=>h1 (by simpa using hh),fun hh=>h2 (by simpa using hh),fun _=>rfl,fun hh=>h4 (by simpa using hh),fun hh=>h5 (by simpa using hh),fun _=>rfl⟩
   rintro f ε w ⟨e6,e7,e8,o1,u8,u7,u6,t0,R0,E0,I0,h0,h1,h2,h3,h4,h5,h6⟩ G0;obtain rfl:=h4 (G0 4 (by decide));obtain rfl:=h5 (G0 5 (by decide));obtain rfl:=h6 (G0 6 (by decide));refine fR0 Z U ?_;refine⟨{ rc with state:=.busy },(E0 (l,_) List.mem_cons_self).1,.inr ⟨H0,Z,N0,g5,G,g0,_,E0.put (o':=.loop { rc with state:=.done,pending:=some .ret }) q0 (by simp),R0.tail.putObj (.loop { rc with state:=.done,pending:=some .ret }) E0 (List.mem_cons_self) (.inl (by omega)),I0.keep S1a ((F1a w l _).mono (by simp))⟩⟩
  refine lO0 Z U (s0a b9a Z (by exact Sb.cell 1 Z Z) Z ?_);refine lO Sb.k [.w 0] Z ⟨⟨Z,by rfl⟩,U⟩ (g0a Sb Y5a (vs:=[.agg _]) (cs:=[_,_,_]) Z Z Z Z Z Z ?_);intro q2 z2 W0 S0 i2;replace Kr:=Kr.trans S0;replace Kb:=Kb.trans (S0.of_nil);replace o0:=o0.keep S0;replace a1:=a1.keep (S0.of_nil);have R1:(L2a p m run)[k]?=some c:=by rcases p0 with h|h;exact h.2;omega
  refine B0a (hll:=(by rw[List.length_take];omega)) S1a (k:=7) (e1:=c) W0 Y5a Z (s0.keep S1a Kr.of_nil) Z Z (W0.cells 0 Z) (D0a.less P0 a1) Z ?_;intro w2 g1 X0 A2 j1 r0 n1 B1;have o2:=Kb.size;obtain⟨_,_,rfl⟩:=r0.form;replace o0:=o0.keepL n1 (P7c W0 7 Z);replace Kb:=Kb.freshL n1 (fun g hg=>.inr (by simp[hg]))
  first|refine u0a (kk:=2) j1 b2c Z Z Z (by exact Nat.le_of_ble_eq_true Z) ?_
  intro D0 L0 m0;replace Kb:=Kb.fresh2 m0 (by exact .inr (by simp));replace o0:=by exact o0.keepS m0 (j1.blk 2 Z)
  refine lF0 Z U ?_;obtain⟨H0,hc⟩:D1=0∧(L2a p m run)[k]?=some c:=⟨Y0,by rcases p0 with h|h;exact h.2;omega⟩;have M1:=o0.put (o':=.loop rc) q0 (by simp);have Sn:=L0.tail.tail.putObj (.loop rc) o0 (List.mem_cons_self) (.inl (by omega));have Kn:=Kb.fresh2 (F1a D0 l (.loop rc)) (.inr (by simp));have Y1:=(r0.keep S1a (m0.mono (by simp))).keep S1a ((F1a D0 l (.loop rc)).mono (by simp));refine⟨{ rc with state:=.busy },(o0 (l,_) List.mem_cons_self).1,.inl ⟨H0,Z,l::c0::g8::g7::g6::g3::g1.toList,?_⟩⟩;rw[s0b f1 v1];refine⟨⟨g1,X0,_,Z,M1,Sn,by rw[a1a hc];exact Y1⟩,Kn,fun g hg=>?_⟩;simp only[List.mem_cons] at hg ⊢;rcases hg with h|h|h|h|h|h|h
  ·simp[h]
  ·simp[h]
  ·simp[h]
  ·simp[h]
  ·simp[h]
  ·simp[h]
  ·rcases B1 g h with h|h
   ·simp[h]
   ·right;omega
 rintro v3 w3 (⟨O0,g5,Bs,G,g0,v,rfl,f0,S3,e0⟩|⟨N0,g5,G,g0,v,f0,S3,e0⟩)
 rotate_left
 ·refine⟨{ rc with state:=.done,pending:=some .ret },(f0 (l,_) List.mem_cons_self).1,by simp,.inr ⟨Z,?_⟩⟩;have Sa:=S3.putObj (.loop { rc with state:=.exhausted,pending:=some .ret }) f0 (List.mem_cons_self) (.inl (by omega));have j0:=(f0.put (o':=.loop { rc with state:=.exhausted,pending:=some .ret }) q0 (by simp)).tail;have J0:=e0.keep S1a ((F1a w3 l (.loop { rc with state:=.exhausted,pending:=some .ret })).mono (by simp));exact v6a Z b9a w2a M0a Z Z Z [a0.heap.size] Z (by simp) j0 (Sa.blk 3 Z) (Sa.blk 2 Z) (Sa.blk 1 Z) Z Z Z (fun w' hb=>⟨⟨v,by unfold W8b;rw[if_neg (by omega)],t1c (A:=[_,_,_,_,_]) J0 Sa hM (fun g hg=>by rcases List.mem_cons.1 hg with h|h<;>simp[h]) j0 hb⟩,(S0a.step Sa.below hb (by simp;omega)).nil⟩)
 refine⟨rc,(f0 (l,.loop rc) (by simp)).1,by rw[f1];simp,.inl ⟨v1,?_⟩⟩;have Sa:=S3.putObj (.loop { rc with state:=.exhausted }) f0 (List.mem_cons_self) (.inl (by omega));have j0:=(f0.put (o':=.loop { rc with state:=.exhausted }) q0 (by simp)).tail;have J0:=e0.keep S1a ((F1a w3 l (.loop { rc with state:=.exhausted })).mono (by simp));rw[List.take_length] at J0;generalize w3.putObj l (.loop { rc with state:=.exhausted })=wa at Sa j0 J0 ⊢;obtain⟨Av,cv,rfl⟩:=J0.form;refine fO0 Z U (s0a b9a Z (by exact Sa.cell 0 Z Z) Z ?_);refine lO0 Z U ?_
 first|refine u0a (kk:=3) Sa b2c Z Z Z (by exact Nat.le_of_ble_eq_true Z) ?_
 intro y1 v0 z0;replace j0:=by exact j0.keepS z0 (Sa.blk 3 Z)
 first|refine u0a (kk:=2) v0 R8a Z Z Z (by exact Nat.le_of_ble_eq_true Z) ?_
 intro z1 x0 A0;replace j0:=by exact j0.keepS A0 (v0.blk 2 Z)
 first|refine u0a (kk:=1) x0 m8a Z Z Z (by exact Nat.le_of_ble_eq_true Z) ?_
 intro A1 d0 B0;replace j0:=by exact j0.keepS B0 (x0.blk 1 Z)
 refine lR0 Z U ?_;have Z1:=((J0.keep S1a (z0.mono (by simp))).keep S1a (A0.mono (by simp))).keep S1a (B0.mono (by simp));refine v6a Z b9a w2a M0a Z Z Z [a0.heap.size] Z (by simp) j0 (d0.blk 3 Z) (d0.blk 2 Z) (d0.blk 1 Z) Z Z Z (fun w' hb=>⟨⟨_,?_,t1c (A:=[_,_,_,_,_]) Z1 d0 hM (fun g hg=>by rcases List.mem_cons.1 hg with h|h<;>simp[h]) j0 hb⟩,(S0a.step d0.below hb (by simp;omega)).nil⟩);unfold W8b;rw[if_pos O0,show((L2a p m run).length:Int)-1=(nr:Int) by omega]
def H2b(s:ByteArray):Bool:=decide (1≤s.size)&&decide (s.size≤64)&&s.data.toList.all fun b=>decide (33≤b.toNat)&&decide (b.toNat≤126)
theorem U8a{s:ByteArray}(h:H2b s=true):h8a s:=by
 simp only[H2b,Bool.and_eq_true,decide_eq_true_eq,List.all_eq_true] at h;refine⟨h.1.1,h.1.2,fun i hi=>?_⟩;exact h.2 s[i] (by rw[ByteArray.getElem_eq_getElem_data];simp)
def inB(i:Int)(n:Nat):Bool:=decide (0≤i)&&decide (i<n)
theorem b0b{i:Int}{n:Nat}(h:inB i n=true):k2a i n:=by simpa[inB,k2a] using h
def Q4b(cells:List H2a)(e:E)(sh:Bool)(t:Int):Bool:=(e.sup 3++e.sup 2).all fun x=>(decide (T1a cells x≠-1)||sh)&&(decide (T1a cells x<0)||decide (T1a cells x=t))
theorem d9a{cells:List H2a}{e:E}{sh:Bool}{t:Int}(h:Q4b cells e sh t=true):U5a cells e sh t:=fun x hx=>by
 have:=List.all_eq_true.1 h x hx;simp only[Bool.and_eq_true,Bool.or_eq_true,decide_eq_true_eq] at this;exact⟨fun e=>this.1.resolve_left (fun h=>h e),fun e=>this.2.resolve_left (by omega)⟩
def n2b(cells:List H2a)(e:E)(pair:Bool)(t:Int):Bool:=e.valid cells pair&&decide (e.w=1)&&Q4b cells e true t
theorem Z8a{cells:List H2a}{e:E}{a0:Bool}{t:Int}(h:n2b cells e a0 t=true):J8a cells e a0 t:=by
 simp only[n2b,Bool.and_eq_true,decide_eq_true_eq] at h;exact⟨h.1.1,h.1.2,d9a h.2⟩
def j1b:List Int→Bool
 | []=>true
 | x::l=>(l.all fun y=>decide (x<y))&&j1b l
theorem G9a:∀{l:List Int},j1b l=true→L6a l
 | [],_=>List.Pairwise.nil
 | x::l,h=>by
   simp only[j1b,Bool.and_eq_true,List.all_eq_true,decide_eq_true_eq] at h;exact List.Pairwise.cons h.1 (G9a h.2)
def pwB{α:Type}(r:α→α→Bool):List α→Bool
 | []=>true
 | x::l=>l.all (r x)&&pwB r l
theorem s2b{α:Type}{r:α→α→Bool}{R:α→α→Prop}(hr:∀a b,r a b=true→R a b):∀{l:List α},pwB r l=true→l.Pairwise R
 | [],_=>List.Pairwise.nil
 | x::l,h=>by
   simp only[pwB,Bool.and_eq_true,List.all_eq_true] at h;exact List.Pairwise.cons (fun y hy=>hr _ _ (h.1 y hy)) (s2b hr h.2)
def T6b(e:E):Bool:=decide (e.op=0)&&decide (e.w=0)&&decide (e.n=0)&&e.kids.isEmpty
theorem F9b{e:E}(h:T6b e=true):e.absent:=by
 simp only[T6b,Bool.and_eq_true,decide_eq_true_eq,List.isEmpty_iff] at h;exact⟨h.1.1.1,h.1.1.2,h.1.2,h.2⟩
def S2d(e:E):Bool:=decide (e.op=1)&&decide (e.w=1)&&decide (e.n=1)&&e.kids.isEmpty
theorem g7c{e:E}(h:S2d e=true):e=⟨1,1,1,[]⟩:=by
 simp only[S2d,Bool.and_eq_true,decide_eq_true_eq,List.isEmpty_iff] at h;cases e;simp_all
def ifB(c:Prop)[Decidable c](b:Bool):Bool:=!decide c||b
theorem H8a{c:Prop}[Decidable c]{b:Bool}(h:ifB c b=true)(hc:c):b=true:=by simpa[ifB,hc] using h
def h9c(p:h0a)(t:Int)(s:v1a):Bool :=
 Q4b p.cells s.guard (decide (s.kind=4)) t &&
 ((List.range s.set.length).all fun i=>match s.set[i]? with|some a=>ifB (0<i∨s.kind≠2) (Q4b p.cells a.to (decide (s.kind=4)) t)|none=>true) &&
 (s.set.all fun a=>decide (T1a p.cells a.cell=t∨T1a p.cells a.cell=-1)) &&
 ifB (s.kind=1) (s.set.all fun a=>decide (T1a p.cells a.cell=t)) &&
 ifB (s.kind=2) (match s.set with|[]=>false|a::l=>decide (T1a p.cells a.cell=t∧R2b p.cells a.cell=false∧a.to.op=2∧T1a p.cells a.to.n=-1∧R2b p.cells a.to.n=false)&&l.all fun b=>decide (T1a p.cells b.cell=t∧R2b p.cells b.cell=true)) &&
 ifB (s.kind=3) (match s.set with|[]=>false|a::l=>decide (T1a p.cells a.cell=-1∧R2b p.cells a.cell=false)&&l.all fun b=>decide (R2b p.cells b.cell=true)) &&
 ifB (5≤s.kind) (s.set.isEmpty&&S2d s.guard) &&
 ifB (6≤s.kind) (inB s.target p.threads.length&&decide (s.target≠t)) &&
 ifB (s.kind=6) (match p.threads[s.target.toNat]? with|some u=>u.asleep|none=>true)
theorem t5c{p:h0a}{t:Int}{s:v1a}(h:h9c p t s=true):j6b p t s:=by
 simp only[h9c,Bool.and_eq_true] at h;obtain⟨⟨⟨⟨⟨⟨⟨⟨a1,a2⟩,a3⟩,a4⟩,a5⟩,a6⟩,a7⟩,a8⟩,a9⟩:=h;refine⟨d9a a1,fun i hi hc=>?_,fun a ha=>of_decide_eq_true (List.all_eq_true.1 a3 a ha),fun hk a ha=>of_decide_eq_true (List.all_eq_true.1 (H8a a4 hk) a ha),fun hk=>?_,fun hk=>?_,fun hk=>?_,fun hk=>?_,fun hk u hu=>?_⟩
 ·have:=List.all_eq_true.1 a2 i (List.mem_range.2 hi);rw[List.getElem?_eq_getElem hi] at this;exact d9a (H8a this hc)
 ·have:=H8a a5 hk
  split at this
  ·cases this
  ·rename_i a l hs;rw[Bool.and_eq_true] at this;obtain⟨b1,b2,b3,b4,b5⟩:=of_decide_eq_true this.1;exact⟨a,l,hs,b1,b2,b3,b4,b5,fun b hb=>of_decide_eq_true (List.all_eq_true.1 this.2 b hb)⟩
 ·have:=H8a a6 hk
  split at this
  ·cases this
  ·rename_i a l hs;rw[Bool.and_eq_true] at this;obtain⟨b1,b2⟩:=of_decide_eq_true this.1;exact⟨a,l,hs,b1,b2,fun b hb=>of_decide_eq_true (List.all_eq_true.1 this.2 b hb)⟩
 ·have:=H8a a7 hk;rw[Bool.and_eq_true,List.isEmpty_iff] at this;exact⟨this.1,g7c this.2⟩
 ·have:=H8a a8 hk;rw[Bool.and_eq_true] at this;exact⟨b0b this.1,of_decide_eq_true this.2⟩
 ·have:=H8a a9 hk;rw[hu] at this;exact this
def stepB(p:h0a)(t:Int)(points:Int)(s:v1a):Bool :=
 decide (1≤s.kind∧s.kind≤7)&&decide (0≤s.frm∧s.frm<points-1)&&decide (0≤s.to∧s.to<points)&&inB s.module_ p.modules.length&&ifB (s.release=true) (decide (s.kind=3)) &&
 ifB (s.target≠0) (decide (s.kind=6∨s.kind=7))&&(s.guard.valid p.cells false&&decide (s.guard.w=1)) &&
 (s.set.all fun a=>inB a.cell p.cells.length&&a.to.valid p.cells false&&decide (a.to.w=wAt p.cells a.cell))&&pwB (fun a b=>decide (a.cell≠b.cell)) s.set&&h9c p t s
theorem H5c{p:h0a}{t points:Int}{s:v1a}(h:stepB p t points s=true):M6a p t points s:=by
 simp only[stepB,Bool.and_eq_true] at h;obtain⟨⟨⟨⟨⟨⟨⟨⟨⟨a1,a2⟩,a3⟩,a4⟩,a5⟩,a6⟩,a7,b0⟩,a8⟩,a9⟩,a0⟩:=h;refine⟨of_decide_eq_true a1,of_decide_eq_true a2,of_decide_eq_true a3,b0b a4,fun hr=>of_decide_eq_true (H8a a5 hr),fun hr=>of_decide_eq_true (H8a a6 hr),⟨a7,of_decide_eq_true b0⟩,fun a ha=>?_,s2b (fun a b h=>of_decide_eq_true h) a9,t5c a0⟩;have:=List.all_eq_true.1 a8 a ha;simp only[Bool.and_eq_true] at this;exact⟨b0b this.1.1,this.1.2,of_decide_eq_true this.2⟩
def f7c(p:h0a)(t points:Int)(l:z7b):Bool:=decide (0≤l.head∧l.head<points)&&j1b l.body&&(l.body.all fun x=>decide (0≤x∧x<points∧x≠l.head))&&(l.variant.valid p.cells false&&Q4b p.cells l.variant true t)
theorem I5c{p:h0a}{t points:Int}{l:z7b}(h:f7c p t points l=true):U0c p t points l:=by
 simp only[f7c,Bool.and_eq_true] at h;obtain⟨⟨⟨a1,a2⟩,a3⟩,a4,a5⟩:=h;exact⟨of_decide_eq_true a1,G9a a2,fun x hx=>of_decide_eq_true (List.all_eq_true.1 a3 x hx),a4,d9a a5⟩
def y7b(p:h0a)(t:Nat)(x:U0a):Bool :=
 H2b x.name&&decide (1≤x.points∧x.points≤48)&&decide (x.steps.length≤64)&&decide (x.loops.length≤8)&&decide ((x.asserts.length:Int)=x.points)&&decide ((x.modules.length:Int)=x.points) &&
 (x.modules.all fun m=>inB m p.modules.length)&&(x.asserts.all fun e=>n2b p.cells e false t)&&(x.steps.all fun s=>stepB p t x.points s)&&(x.loops.all fun l=>f7c p t x.points l)
theorem t9b{p:h0a}{t:Nat}{x:U0a}(h:y7b p t x=true):v7a p t x:=by
 simp only[y7b,Bool.and_eq_true] at h;obtain⟨⟨⟨⟨⟨⟨⟨⟨⟨a1,a2⟩,a3⟩,a4⟩,a5⟩,a6⟩,a7⟩,a8⟩,a9⟩,a0⟩:=h;exact⟨U8a a1,of_decide_eq_true a2,of_decide_eq_true a3,of_decide_eq_true a4,of_decide_eq_true a5,of_decide_eq_true a6,fun m hm=>b0b (List.all_eq_true.1 a7 m hm),fun m hm=>Z8a (List.all_eq_true.1 a8 m hm),
  fun m hm=>H5c (List.all_eq_true.1 a9 m hm),fun m hm=>I5c (List.all_eq_true.1 a0 m hm)⟩
def R9c(p:h0a)(c:H2a):Bool:=H2b c.name&&decide (1≤c.w∧c.w≤8)&&decide (0≤c.init∧c.init<R3a c.w.toNat)&&decide (-1≤c.thread∧c.thread<p.threads.length)&&inB c.module_ p.modules.length
theorem G5c{p:h0a}{c:H2a}(h:R9c p c=true):v8b p c:=by
 simp only[R9c,Bool.and_eq_true] at h;obtain⟨⟨⟨⟨a1,a2⟩,a3⟩,a4⟩,a5⟩:=h;exact⟨U8a a1,of_decide_eq_true a2,of_decide_eq_true a3,of_decide_eq_true a4,b0b a5⟩
def Y2d(p:h0a)(m:W2a):Bool:=H2b m.name&&H2b m.owner&&(T6b m.rely||n2b p.cells m.rely true (-1))&&n2b p.cells m.guar true (-1)&&(m.frame.all fun x=>inB x p.cells.length&&decide (T1a p.cells x=-1))&&j1b m.frame
theorem n7c{p:h0a}{m:W2a}(h:Y2d p m=true):N3c p m:=by
 simp only[Y2d,Bool.and_eq_true,Bool.or_eq_true] at h;obtain⟨⟨⟨⟨⟨a1,a2⟩,a3⟩,a4⟩,a5⟩,a6⟩:=h;refine⟨U8a a1,U8a a2,a3.imp F9b Z8a,Z8a a4,fun x hx=>?_,G9a a6⟩;have:=List.all_eq_true.1 a5 x hx;rw[Bool.and_eq_true] at this;exact⟨b0b this.1,of_decide_eq_true this.2⟩
def m9c(p:h0a)(l:e0b):Bool:=inB l.cell p.cells.length&&decide (T1a p.cells l.cell=-1∧wAt p.cells l.cell=1∧R2b p.cells l.cell=false)&&inB l.module_ p.modules.length&&n2b p.cells l.inv false (-1)
theorem H3c{p:h0a}{l:e0b}(h:m9c p l=true):L8b p l:=by
 simp only[m9c,Bool.and_eq_true] at h;obtain⟨⟨⟨a1,a2⟩,a3⟩,a4⟩:=h;exact⟨⟨b0b a1,of_decide_eq_true a2⟩,b0b a3,Z8a a4⟩
def G0d(p:h0a):Bool :=
 decide (p.cells.length≤32)&&decide (p.modules.length≤6)&&decide (p.locks.length≤4)&&decide (p.threads.length≤4) &&
 p.cells.all (R9c p)&&pwB (fun a b=>decide (a.name≠b.name)) p.cells&&p.modules.all (Y2d p)&&pwB (fun a b=>decide (a.name≠b.name)) p.modules&&p.locks.all (m9c p)&&pwB (fun a b=>decide (a.cell≠b.cell)) p.locks &&
 ((List.range p.threads.length).all fun t=>match p.threads[t]? with|some x=>y7b p t x|none=>true)&&pwB (fun a b=>decide (a.name≠b.name)) p.threads
theorem J4c{p:h0a}(h:G0d p=true):n1a p:=by
 simp only[G0d,Bool.and_eq_true] at h;obtain⟨⟨⟨⟨⟨⟨⟨⟨⟨⟨⟨a1,a2⟩,a3⟩,a4⟩,a5⟩,a6⟩,a7⟩,a8⟩,a9⟩,a0⟩,b0⟩,c0⟩:=h;refine⟨of_decide_eq_true a1,of_decide_eq_true a2,of_decide_eq_true a3,of_decide_eq_true a4,fun c hc=>G5c (List.all_eq_true.1 a5 c hc),s2b (fun _ _ h=>of_decide_eq_true h) a6,fun c hc=>n7c (List.all_eq_true.1 a7 c hc),
  s2b (fun _ _ h=>of_decide_eq_true h) a8,fun c hc=>H3c (List.all_eq_true.1 a9 c hc),s2b (fun _ _ h=>of_decide_eq_true h) a0,fun t ht=>?_,s2b (fun _ _ h=>of_decide_eq_true h) c0⟩
 have:=List.all_eq_true.1 b0 t (List.mem_range.2 ht);rw[List.getElem?_eq_getElem ht] at this;exact t9b this
section
variable {P:Program} {r:Option Nat} {N:Nat} {D:List Deferred} {e:Env} {w:World} {ops:Array Oper} {rest:List Oper} {K:List Deferred→Env→World→Prop}
variable {d:Nat} {t:TypeId} {p:String} {af:Array Edge} {x y:Operand} {xt yt:TypeId} {kd:IntKind} {a b:Int} {C:World→Prop} {Kq:Env→Prop}
theorem O5c(w:World)(h0:0≤a)(h1:0<b):(Op.intDiv .rem kd a b).run P w=.ok (.int kd (a % b)) w:=by
 have hb:b≠0:=by omega
 have ht:a.tmod b=a % b:=Int.tmod_eq_emod_of_nonneg h0;simp[Op.intDiv,hb,ht]
theorem W2d(hx:ev e x=.int kd a)(hy:ev e y=.int kd b)(h0:0≤a)(h1:0<b)(hd:Nat.ble (d+1) N=true)(h:WL P r N ops rest K D (upd e d (.int kd (a % b))) w):
 WL P r N ops (⟨some d,.binOp .rem xt x y yt,t,p,af,none⟩::rest) K D e w :=
 r1a Z Z hd (by simp[execOp,hx,hy,eqGuard,binOp,O5c w h0 h1]) h
end
section
variable {α:Type} {M:List Nat} {w:World} {size:Nat} {R:List Value→α→Prop} {g:Nat}
theorem n7b{css:List (List Value)}{l:List α}{n:Nat}(hg:g∉M)(hc:O1a w g 0 css.flatten)(hn:n=l.length)(hl:css.length=l.length)(h4:∀x∈css,x.length=size)(hR:∀(i:Nat) (x:α),l[i]?=some x→∃c,css[i]?=some c∧R c x)(a0:l.length≤1000000:=by simp):RdS M w size R (.slice (some ⟨g,0,none⟩) n n) l:=by
 subst hn;refine⟨_,_,_,Z,Z,Nat.le_refl _,by unfold maxLen;omega,by omega,fun _=>⟨g,0,Z,hg,fun i x hi=>?_⟩⟩;obtain⟨c,h5,h6⟩:=hR i x hi;exact⟨c,h4 c (List.mem_of_getElem? h5),fun j u hj=>by simpa using hc _ u (E4c css i c h4 h5 j u hj),h6⟩
theorem Y1b{c:List Value}{x:α}(hc:O1a w g 0 c)(h4:c.length=size)(hr:R c x)(hg:g∉M:=by simp):RdS M w size R (.slice (some ⟨g,0,none⟩) 1 1) [x] :=
 n7b (css:=[c]) hg (by simpa using hc) Z Z (by simpa using h4) (fun i y hi=>by
  match i,hi with
  | 0,hi=>cases hi;exact⟨c,Z,hr⟩)
theorem w3c{c c2:List Value}{x x2:α}(hc:O1a w g 0 (c++c2))(h4:c.length=size)(h5:c2.length=size)(hr:R c x)(a0:R c2 x2)(hg:g∉M:=by simp):RdS M w size R (.slice (some ⟨g,0,none⟩) 2 2) [x,x2] :=
 n7b (css:=[c,c2]) hg (by simpa using hc) Z Z (by simpa using⟨h4,h5⟩) (fun i y hi=>by
  match i,hi with
  | 0,hi=>cases hi;exact⟨c,Z,hr⟩
  | 1,hi=>cases hi;exact⟨c2,Z,a0⟩)
theorem T7c{c c2 c3:List Value}{x x2 x3:α}(hc:O1a w g 0 (c++(c2++c3)))(h4:c.length=size)(h5:c2.length=size)(h6:c3.length=size)(hr:R c x)(a0:R c2 x2)(b0:R c3 x3)(hg:g∉M:=by simp):RdS M w size R (.slice (some ⟨g,0,none⟩) 3 3) [x,x2,x3] :=
 n7b (css:=[c,c2,c3]) hg (by simpa using hc) Z Z (by simpa using⟨h4,h5,h6⟩) (fun i y hi=>by
  match i,hi with
  | 0,hi=>cases hi;exact⟨c,Z,hr⟩
  | 1,hi=>cases hi;exact⟨c2,Z,a0⟩
  | 2,hi=>cases hi;exact⟨c3,Z,b0⟩)
end
theorem b4a{P:Program}{f:FuncId}{args:Array Value}{w:World}{b:Bool}(h:N0a P f args w fun v w'=>v=.bool b∧Below w.heap.size w w')(hb:b=true):N0a P f args w fun v w'=>v=.bool true∧Below w.heap.size w w':=by
 subst hb;exact h
theorem I2b{P:Program}{f:FuncId}{args:Array Value}{w:World}{b:Bool}(h:N0a P f args w fun v w'=>v=.bool b∧Below w.heap.size w w')(hb:b=false):N0a P f args w fun v w'=>v=.bool false∧Below w.heap.size w w':=by
 subst hb;exact h
def O6a(w:World)(cs:List Value)(x:c0a)(ss:List Value):Prop :=
 ∃(bt ot nt ct bs os ns cn:Nat) (a1 a2 a3 a4 a5 a6:Value),cs[3]?=some (.slice (some ⟨bt,ot,none⟩) nt ct)∧(0≤x.thread∧x.thread<nt)∧O1a w bt (ot+x.thread.toNat*7) [a1,a2,a3,a4,.slice (some ⟨bs,os,none⟩) ns cn,a5,a6] ∧
  (0≤x.step∧x.step<ns)∧O1a w bs (os+x.step.toNat*11) ss∧ss.length=11
theorem X4c{p:h0a}{e:EvD}{th:U0a}{s:v1a}(h:p.threads[e.x.thread.toNat]?=some th)(hs:th.steps[e.x.step.toNat]?=some s):sOf p e=s:=by
 unfold sOf;rw[P1a h];exact getD_some hs
theorem C4b.step{p:h0a}{e:EvD}{M:List Nat}{w:World}{g:Nat}{cs xs ys:List Value}(h:C4b p e M w g cs xs ys)(hs:e.step=true):
 ∃ss th,O6a w cs e.x ss∧B1a M w ss (sOf p e)∧p.threads[e.x.thread.toNat]?=some th∧th.steps[e.x.step.toNat]?=some (sOf p e)∧sOf p e∈th.steps:=by
 obtain⟨_,_,_,_,_,_,_,_,_,_,nt,ct,rfl,_,_,_,f0,_⟩:=h.inp.rd.open_;unfold EvD.step at hs;simp only[Bool.and_eq_true,decide_eq_true_eq] at hs;obtain⟨h0,h1⟩:=hs;have ht:=h.ok.t h0;have c0:=(h.ok.s h0).resolve_left h1;obtain⟨th,b,o,_,b0,hA,-,-,hc,hr⟩:=RdS.get f0 e.x.thread.toNat (by omega);obtain⟨_,_,_,_,_,_,_,ns,cn,_,_,_,rfl,-,-,-,e0,-,-,-,_,-⟩:=R0a.open_ hr;rw[P1a b0] at c0;obtain⟨s,b2,o2,c2,a0,d0,-,i0,g0,j0⟩:=RdS.get e0 e.x.step.toNat (by omega);have he:=X4c (p:=p) (e:=e) b0 a0;rw[he];subst hA;subst d0;exact⟨c2,th,⟨b,o,nt,ct,b2,o2,ns,cn,_,_,_,_,_,_,Z,⟨ht.1,by omega⟩,hc,⟨c0.1,by omega⟩,g0,i0⟩,j0,b0,a0,d0a a0⟩
theorem O6a.keep{w w':World}{cs:List Value}{x:c0a}{ss:List Value}(h:O6a w cs x ss)(hk:z0a [] w w'):O6a w' cs x ss:=by
 obtain⟨bt,ot,nt,ct,bs,os,ns,cn,a1,a2,a3,a4,a5,a6,h1,h2,h3,h4,h5,h6⟩:=h;exact⟨bt,ot,nt,ct,bs,os,ns,cn,a1,a2,a3,a4,a5,a6,h1,h2,h3.keep hk (by simp),h4,h5.keep hk (by simp),h6⟩
theorem j6a(p:h0a)(e:EvD)(M:List Nat)(w0:World)(ge:Nat)(cs xs ys ss:List Value)(hE:C4b p e M w0 ge cs xs ys)(j0:O6a w0 cs e.x ss)(s:v1a)(hr:B1a M w0 ss s):
 N0a prog 191 #[.pointer (some ⟨ge,0,none⟩)] w0 fun v w'=>v=.agg ss.toArray∧Below w0.heap.size w0 w':=by
 obtain⟨bt,ot,_,_,bs,os,_,_,_,_,_,_,_,_,h3,_,g0,_,f0,i0⟩:=j0;obtain⟨_,_,_,_,_,_,_,_,_,_,_,_,rfl,-⟩:=hE.inp.rd.open_;simp only[List.getElem?_cons_succ,List.getElem?_cons_zero,Option.some.injEq,Value.slice.injEq] at h3;obtain⟨rfl,rfl,rfl⟩:=h3;obtain⟨_,_,_,_,_,_,rfl,-⟩:=B1a.open_ hr;have e0:=hE.cell;have S:=St.refl w0;refine a0a func191 Z ntmps191 Z ?_;refine wO0 Z U (j0a S r9a Z Z ?_);intro g2 w2 S2 X2 G2;refine lC0 Z U (v0a b0a [0,1,2,3,4,5,6,7,8,9,10,11,12,13,14,15,16,17,18,19] [] [20] Z (Cl _ _ _ _) (Cl.start S2) ?_);refine qN (((S2.q.a f0).a g0).a e0) [.f 0 3,.f 0 5,.x bt ot,.f 1 4,.f 0 6,.x bs os,.v 2] Z ⟨⟨Z,i0⟩,⟨Z,by omega⟩,Z,Z,⟨Z,by omega⟩,Z,Z,U⟩ (z3a ?_);refine K1a ?_;rintro m0 ⟨d0,_⟩
 first|refine e0a (kk:=0) (vs:=[_,_,_,_,_,_,_,_,_,_,_]) d0 u9a Z Z Z Z Z Z Z ?_
 intro c0 a0 b0;dsimp only[n0a,List.set] at a0;exact lR0 Z U (H1a (n:=11) Z y6b Z (a0.cells 0 Z) Z ⟨Z,a0.fin⟩)
theorem g6b(p:h0a)(e:EvD)(kind:Int)(M:List Nat)(w0:World)(ge:Nat)(cs xs ys:List Value)(hE:C4b p e M w0 ge cs xs ys)(hs:e.step=true):
 N0a prog 193 #[.pointer (some ⟨ge,0,none⟩),.int .i64 kind] w0 fun v w'=>v=.agg #[.int .i64 e.at_,.int .i64 kind,.int .i64 (sOf p e).module_,.int .i64 e.x.thread,.int .i64 e.x.step]∧Below w0.heap.size w0 w':=by
 obtain⟨_,_,f0,hr,-⟩:=hE.step hs;obtain⟨_,_,_,_,_,_,_,_,_,_,_,_,rfl,-⟩:=hE.inp.rd.open_;obtain⟨_,_,_,_,_,_,rfl,-⟩:=B1a.open_ hr;have c0:=hE.cell;have S:=St.refl w0;refine a0a func193 Z ntmps193 Z ?_;refine wO0 Z U (j0a S r8c Z Z ?_);intro g4 w4 S4 X4 G4;refine lC0 Z U (v0a b0a [0,1,2,3,4,5,6,7,8,9,10,11,12,13,14,15,16,17,18] [] [19] Z (Cl _ _ _ _) (Cl.start S4) ?_);refine qO (S4.q.a c0) [.f 0 4] Z ⟨Z,U⟩ (A1a g6a Z Z (fun w1 S1 X1=>j6a p e M _ _ _ _ _ _ (hE.keep (S1.keep0 M)) (f0.keep (S1.keep0 [])) _ (B1a.keep (S1.keep0 M) _ _ hr)) ?_);refine qO (S4.q.a c0) [.f 0 5,.f 0 6] Z ⟨Z,Z,U⟩ (w3a w4a (vs:=[(0,.int .i64 _),(1,.int .i64 _),(2,.int .i64 _),(3,.int .i64 _),(4,.int .i64 _)]) (cs:=[_,_,_,_,_]) Z Z Z Z ?_);refine qD Z U ?_;rintro g0 ⟨e0,_⟩
 first|refine e0a (kk:=0) (vs:=[_,_,_,_,_]) e0 E8c Z Z Z Z Z Z Z ?_
 intro d0 a0 b0;dsimp only[n0a,List.set] at a0;exact lR0 Z U (H1a (n:=5) Z S0c Z (a0.cells 0 Z) Z ⟨Z,a0.fin⟩)
theorem M2c{p:h0a}{e:EvD}(h:e.still=false):Y1a p e=[]:=by unfold Y1a;rw[if_neg (by rw[h];simp)]
theorem j4c{p:h0a}{e:EvD}(h:e.still=false):a3a p e=[]:=by unfold a3a;rw[if_neg (by rw[h];simp)]
theorem EvD.still_step{e:EvD}(h:e.still=true):e.step=true:=by unfold EvD.still at h;simp only[Bool.and_eq_true] at h;exact h.1
theorem J0b.stepOK{p:h0a}{e:EvD}{th:U0a}(hp:n1a p)(a0:p.threads[e.x.thread.toNat]?=some th)(hs:sOf p e∈th.steps):M6a p e.x.thread.toNat th.points (sOf p e):=(hp.thread a0).steps _ hs
theorem N1b{p:h0a}{e:EvD}{M:List Nat}{w:World}{g:Nat}{cs xs ys:List Value}(h:C4b p e M w g cs xs ys)(hs:e.step=true){k:Int}(hk:i64 k):
 T4a [.int .i64 e.at_,.int .i64 k,.int .i64 (sOf p e).module_,.int .i64 e.x.thread,.int .i64 e.x.step] (E0b p e k):=by
 obtain⟨_,_,_,_,a0,c0,b0⟩:=h.step hs;have hp:=h.inp.ok;have h1:=(J0b.stepOK hp a0 b0).mod;have h2:=hp.nmodules;have h3:=h.ok.lo;have h4:=h.ok.hi;have h5:=hp.nthreads;have h6:=(hp.thread a0).nsteps;have h7:=g1a a0;have h8:=g1a c0;unfold EvD.step at hs;simp only[Bool.and_eq_true,decide_eq_true_eq] at hs;have h9:=h.ok.t hs.1;have d0:=(h.ok.s hs.1).resolve_left hs.2;unfold k2a at h1;exact T4a.of (by unfold i64;omega) hk (by unfold i64;omega) (by unfold i64;omega) (by unfold i64;omega)
theorem u8b(p:h0a)(e:EvD)(M:List Nat)(w0:World)(ge:Nat)(cs xs ys:List Value)(hE:C4b p e M w0 ge cs xs ys):
 N0a prog 150 #[.pointer (some ⟨ge,0,none⟩)] w0 fun v w'=>y8b M w' v (Y1a p e)∧Below w0.heap.size w0 w':=by
 obtain⟨_,_,_,_,_,_,_,_,_,_,_,_,rfl,hC,S0,_⟩:=hE.inp.rd.open_;have G0:=hE.cell;have hp:=hE.inp.ok;have n1:=hp.nmodules;have n2:=hp.ncells;have S:=St.refl w0;refine a0a func150 Z ntmps150 Z ?_;refine wO0 Z U (A0a S K7b Z Z (R3b p e M _ _ _ _ _ (hE.keep (S.keep0 M))) (fun h8 w8 S8 X8=>?_) (fun h8 w8 S8 X8=>?_))
 ·obtain⟨_,_,W0,hr,X0,Y0,H0⟩:=hE.step (EvD.still_step h8);obtain⟨s,hs⟩:∃s,s=sOf p e:=⟨_,Z⟩;have B0:=J0b.stepOK hp X0 H0;rw[←hs] at hr Y0 H0 B0;obtain⟨Ag,ng,cg,As,ns,F0,rfl,-,-,s0,_⟩:=B1a.open_ hr;have V0:=B0.mod;unfold k2a at V0;refine lO0 Z U (i0a S8 g6a Z Z (j6a p e M _ _ _ _ _ _ (hE.keep (S8.keep0 M)) (W0.keep (S8.keep0 [])) _ (B1a.keep (S8.keep0 M) _ _ hr)) ?_);intro o1 J0 g1;refine j0a J0 r9a Z Z ?_;intro g3 w3 S3 X3 G3
  first|refine e0a (kk:=0) (vs:=[_,_,_,_,_,_,_,_,_,_,_]) S3 u9a Z Z Z Z Z Z Z ?_
  intro c1 c0 L0;dsimp only[n0a,List.set] at c0;refine lC0 Z U (v0a b0a [0,1,2,3,4,5,6,7,8,9,10] [] [] Z (Cl _ _ _ _) (Cl.start c0) ?_);obtain⟨md,O0,Z0,_,e0,o0,_,_,t0,y0⟩:=RdS.get (S0) (s.module_.toNat) (by omega);obtain⟨_,_,_,_,_,_,i0,C0,m0,rfl,_,_,r0,_⟩:=i1a.open_ y0;refine qN ((c0.q.a t0).a G0) [.f 0 1,.o 0,.x O0 Z0,.f 1 10] Z ⟨Z,⟨o0,by omega⟩,Z,Z,U⟩ (z3a ?_);refine K1a ?_;rintro s1 ⟨D0,_⟩;refine lC D0.k [.o 0] Z ⟨Z,U⟩ (wL (fun μk D ε w=>D=[]∧∃k:Nat,(k+μk=(s.set.length))∧(w1a (s.set) k (fun a=>¬(T1a p.cells a.cell=-1∧a.cell∉md.frame)))∧St [] w0 w [(some g3,97,[.int .i64 s.kind,.int .i64 s.frm,.int .i64 s.to,.int .i64 s.guard.op,.int .i64 s.guard.w,.int .i64 s.guard.n,.slice Ag ng cg,.slice As ns F0,.bool s.release,.int .i64 s.target,.int .i64 s.module_])]∧Sl ε [(0,.pointer (some ⟨ge,0,none⟩)),(4,.slice i0 C0 m0),(23,.slice As ns F0),(24,.int .i64 ns),(25,.int .i64 k)]) (μ:=(s.set.length)) ⟨Z,0,by omega,w1a.zero,D0,Z⟩ ?_);rintro μk D ε w ⟨rfl,k,_,ha,S,eZ⟩;refine wK eZ (wB0 Z U (fun R0=>?_) fun R0=>?_)
  ·obtain⟨a,P0,a1,_,g0,p0,_,x0,u0,z0⟩:=RdS.get (s0) (k) (by omega);obtain⟨_,_,_,rfl,_⟩:=Z0a.open_ z0;have T0:=(B0.set a (d0a g0)).1;unfold k2a at T0;refine lO (S.k.a u0) [.x P0 a1,.v 0] Z ⟨⟨Z,x0⟩,⟨p0,by omega⟩,U⟩ (j0a S S7a Z Z ?_);intro g6 w6 S6 X6 G6
   first|refine e0a (kk:=0) (vs:=[_,_,_,_,_]) S6 P7a Z Z Z Z Z Z Z ?_
   intro d1 a0 N0;dsimp only[n0a,List.set] at a0;refine lC0 Z U (v0a b0a [0,1,2,3,4,5,6,7,8,9,10,11,12,13,14,15,16,17] [] [] Z (Cl _ _ _ _) (Cl.start a0) ?_);obtain⟨_,Q0,b1,_,b0,q0,_,_,v0,A0⟩:=RdS.get (hC) (a.cell.toNat) (by omega);obtain⟨rfl,_⟩:=P2a.open_ A0;refine qB ((a0.q.a v0).a G0) [.f 0 0,.o 0,.x Q0 b1,.f 1 3] Z ⟨Z,⟨q0,by omega⟩,Z,Z,U⟩ (fun n0=>?_) fun n0=>?_
   ·refine qO a0.q [.o 0] Z ⟨Z,U⟩ (Z1a Q6b Z Z (fun w1 S1 X1=>X6a M _ _ md.frame a.cell (r0.keep (S1.keep0 M))) (fun f0=>?_) fun f0=>?_)
    ·refine qD Z U ?_;rintro I0 ⟨d0,E0⟩;refine lP0 Z ⟨by omega,U⟩ ⟨μk-1,by omega,Z,(k+1),(by omega),?_,d0.tail,Z⟩;exact ha.succ g0 (fun⟨_,q2⟩=>by simp at f0;exact q2 f0)
    refine qD Z U ?_;rintro I0 ⟨d0,E0⟩;refine lO0 Z U (i0a d0 Q0c Z Z (g6b p e 4 M _ _ _ _ _ (hE.keep (d0.keep0 M)) (EvD.still_step h8)) ?_);intro p1 K0 i1;refine g0a K0 p1a (vs:=[.agg _]) (cs:=[_,_,_,_,_]) Z Z Z Z Z Z ?_;intro m1 r1 j0 j1 f1;refine lR0 Z U (r0a Z ?_);refine⟨?_,j0.fin⟩;have hb:D8a p (sOf p e)=true:=by
     rw[←hs];unfold D8a;rw[q4a e0];exact List.any_eq_true.2 ⟨a,d0a g0,by simp;exact⟨by rw[j1a b0];exact n0,by simpa using f0⟩⟩
    unfold Y1a;rw[if_pos ⟨h8,hb⟩];exact Y1b (hg:=(V0a hE.inp.lt (j0.new 0 Z))) (c:=[_,_,_,_,_]) (j0.cells 0 Z) Z (N1b hE (EvD.still_step h8) (by unfold i64;omega))
   refine qD Z U ?_;rintro I0 ⟨d0,E0⟩;refine lP0 Z ⟨by omega,U⟩ ⟨μk-1,by omega,Z,(k+1),(by omega),?_,d0.tail,Z⟩;exact ha.succ g0 (fun⟨q1,_⟩=>by rw[j1a b0] at q1;exact absurd q1 n0)
  refine lR0 Z U (r0a Z ?_);refine⟨?_,S.fin⟩;have hb:D8a p (sOf p e)=false:=by
   rw[←hs];unfold D8a;rw[q4a e0,List.any_eq_false];intro a U0 hh;simp at hh;exact ha.all (by omega) a U0 ⟨hh.1,hh.2⟩
  unfold Y1a;rw[if_neg (by rw[hb];simp)];exact a2a
 refine lR0 Z U (r0a Z ?_);refine⟨?_,S8.fin⟩;rw[M2c h8];exact a2a
theorem f2c(p:h0a)(e:EvD)(M:List Nat)(w0:World)(ge:Nat)(cs xs ys:List Value)(hE:C4b p e M w0 ge cs xs ys):
 N0a prog 151 #[.pointer (some ⟨ge,0,none⟩)] w0 fun v w'=>y8b M w' v (a3a p e)∧Below w0.heap.size w0 w':=by
 obtain⟨_,_,_,_,_,_,_,_,_,_,_,_,rfl,_,u0,_⟩:=hE.inp.rd.open_;obtain⟨_,_,_,_,_,_,_,_,_,rfl,i0,-⟩:=hE.c.open_;obtain⟨_,_,_,_,_,_,_,_,_,rfl,b0,-⟩:=hE.d.open_;have o0:=hE.cell;have hp:=hE.inp.ok;have n1:=hp.nmodules;have S:=St.refl w0;refine a0a func151 Z ntmps151 Z ?_;refine wC0 Z U (v0a b0a [0,1,2,3,4,5,6,7,8,9,10,11,12,13,14,15,16,17,18,19,20,21,22,23,24,25,26,27] [] [] Z (Cl _ _ _ _) (Cl.start S) ?_);refine qO0 Z U (Z1a K7b Z Z (fun w1 S1 X1=>R3b p e M _ _ _ _ _ (hE.keep (S1.keep0 M))) (fun h4=>?_) fun h4=>?_)
 ·obtain⟨_,_,x0,hr,y0,z0,p0⟩:=hE.step (EvD.still_step h4);obtain⟨s,hs⟩:∃s,s=sOf p e:=⟨_,Z⟩;have q0:=J0b.stepOK hp y0 p0;rw[←hs] at hr z0 p0 q0;obtain⟨_,_,_,_,_,_,rfl,-⟩:=B1a.open_ hr;have v0:=q0.mod;unfold k2a at v0;refine qO (S.q.a o0) [.f 0 1] Z ⟨Z,U⟩ (A1a g6a Z Z (fun w1 S1 X1=>j6a p e M _ _ _ _ _ _ (hE.keep (S1.keep0 M)) (x0.keep (S1.keep0 [])) _ (B1a.keep (S1.keep0 M) _ _ hr)) ?_);obtain⟨md,t0,A0,_,c0,f0,_,_,j0,m0⟩:=RdS.get (u0) (s.module_.toNat) (by omega);obtain⟨_,_,_,_,_,_,_,_,_,rfl,_,g0,_⟩:=i1a.open_ m0;refine qO ((S.q.a o0).a j0) [.x t0 A0,.f 0 6,.f 1 8,.f 1 11] Z ⟨Z,Z,Z,⟨f0,by omega⟩,U⟩ (A1a A0b Z Z (fun w1 S1 X1=>f8a md.guar M _ _ _ _ e.c.mem e.d.mem (RdE.keep (S1.keep0 M) _ _ g0) (hE.inp.keep (S1.keep0 M)).msk (i0.keep (S1.keep0 M)) (b0.keep (S1.keep0 M))) ?_);refine qB0 Z U (fun e0=>?_) fun e0=>?_
  ·refine qD Z U ?_;rintro r0 ⟨a0,n0⟩;refine lR0 Z U (r0a Z ?_);refine⟨?_,a0.fin⟩;have hb:S6b p e=true:=by
    unfold S6b;rw[←hs,q4a c0];exact decide_eq_true e0
   unfold a3a;rw[if_neg (by rw[hb];simp)];exact a2a
  refine qD Z U ?_;rintro r0 ⟨a0,n0⟩;refine lO0 Z U (i0a a0 Q0c Z Z (g6b p e 3 M _ _ _ _ _ (hE.keep (a0.keep0 M)) (EvD.still_step h4)) ?_);intro F0 s0 C0;refine g0a s0 p1a (vs:=[.agg _]) (cs:=[_,_,_,_,_]) Z Z Z Z Z Z ?_;intro E0 G0 d0 D0 B0;refine lR0 Z U (r0a Z ?_);refine⟨?_,d0.fin⟩;have hb:S6b p e=false:=by
   unfold S6b;rw[←hs,q4a c0];exact decide_eq_false (fun hh=>hh e0)
  unfold a3a;rw[if_pos ⟨h4,hb⟩];exact Y1b (hg:=(V0a hE.inp.lt (d0.new 0 Z))) (c:=[_,_,_,_,_]) (d0.cells 0 Z) Z (N1b hE (EvD.still_step h4) (by unfold i64;omega))
 refine qD Z U ?_;rintro r0 ⟨a0,n0⟩;refine lR0 Z U (r0a Z ?_);refine⟨?_,a0.fin⟩;rw[j4c h4];exact a2a
theorem p0b{p:h0a}{e:EvD}(h:e.still=false∨Y1a p e≠[]∨a3a p e≠[]):G6a p e=[]:=by
 unfold G6a;rw[if_neg];rintro⟨h1,h2,h3⟩;rcases h with h|h|h
 ·rw[h1] at h;cases h
 ·exact h h2
 ·exact h h3
theorem B3a{p:h0a}{e:EvD}{t:Nat}(h:(t:Int)=e.x.thread∨e.c.at_.getD t 0=-1):P1b p e t=[]:=by unfold P1b;rw[if_pos h]
theorem O2a{p:h0a}{e:EvD}{t:Nat}{th:U0a}{n m:Int}{md:W2a}(b0:p.threads[t]?=some th)(hn:e.c.at_[t]?=some n)(hm:th.modules[n.toNat]?=some m)(a0:p.modules[m.toNat]?=some md)
 (h1:(t:Int)≠e.x.thread:=by omega) (h2:n≠-1:=by omega):P1b p e t=if md.rely.op≠0∧md.rely.evl e.c.mem e.d.mem=0 then[⟨e.at_,5,m,t,n⟩] else[]:=by
 have e1:e.c.at_.getD t 0=n:=getD_some hn;have e2:(d0b p t).modules.getD n.toNat 0=m:=by rw[t4a b0];exact getD_some hm
 unfold P1b;rw[e1,e2,q4a a0,if_neg (by rintro(h|h)<;>contradiction)]
theorem I7c(p:h0a)(e:EvD)(M:List Nat)(w0:World)(ge:Nat)(cs xs ys:List Value)(hE:C4b p e M w0 ge cs xs ys)(h0:0≤e.at_):
 N0a prog 152 #[.pointer (some ⟨ge,0,none⟩)] w0 fun v w'=>y8b M w' v (G6a p e)∧Below w0.heap.size w0 w':=by
 obtain⟨_,_,_,_,_,_,_,_,_,At,nt,ct,rfl,_,r1,_,s1,_⟩:=hE.inp.rd.open_;obtain⟨_,_,_,_,_,_,_,_,_,rfl,J0,q1,-,-,_,-⟩:=hE.c.open_;obtain⟨_,_,_,_,_,_,_,_,_,rfl,p0,-⟩:=hE.d.open_;have r0:=hE.cell;have hp:=hE.inp.ok;have n1:=hp.nmodules;have n2:=hp.nthreads;have X0:=hE.ok.c h0;have O1:=X0.nat;have h3:=hE.ok.lo;have h4:=hE.ok.hi;have S:=(St.refl w0).nilEnt 59;refine a0a func152 Z ntmps152 Z ?_;refine wO0 Z U (A0a S K7b Z Z (R3b p e M _ _ _ _ _ (hE.keep (S.keep0 M))) (fun C0 C1 u0 b1=>?_) (fun C0 C1 u0 b1=>?_))
 ·refine lO0 Z U (x0a u0 y1c Z Z (u8b p e M _ _ _ _ _ (hE.keep (u0.keep0 M))) ?_);rintro P1 T1 f0 y0 H1;obtain⟨_,_,_,rfl⟩:=f0.form;have Y0:=f0.len.1;clear f0;refine lB0 Z U (fun m1=>?_) fun m1=>?_
  ·refine lR0 Z U (r0a Z ?_);refine⟨?_,y0.fin⟩;rw[p0b (.inr (.inl (fun hh=>by rw[hh] at Y0;simp at Y0;omega)))];exact a2a
  refine lO0 Z U (x0a y0 w0c Z Z (f2c p e M _ _ _ _ _ (hE.keep (y0.keep0 M))) ?_);rintro Q1 U1 g0 z0 I1;obtain⟨_,_,_,rfl⟩:=g0.form;have Z0:=g0.len.1;clear g0;refine lB0 Z U (fun o1=>?_) fun o1=>?_
  ·refine lR0 Z U (r0a Z ?_);refine⟨?_,z0.fin⟩;rw[p0b (.inr (.inr (fun hh=>by rw[hh] at Z0;simp at Z0;omega)))];exact a2a
  refine lC (z0.k.a r0) [.f 0 3] Z ⟨Z,U⟩ (wL (fun μk D ε w=>D=[]∧∃k:Nat,∃G:Option Nat,∃B0:List Value,∃v:Value,(k+μk=(p.threads.length))∧(x1a (fun _ _=>T4a) 5 [] w0 G B0 v (h4a p e k))∧St [] w0 w [(G,59,B0)]∧Sl ε [(0,.pointer (some ⟨ge,0,none⟩)),(3,v),(28,.slice At nt ct),(29,.int .i64 nt),(30,.int .i64 k)]) (μ:=(p.threads.length)) ⟨Z,0,none,[],.slice none 0 0,by omega,x1a.nil,z0,Z⟩ ?_);rintro μk D ε w ⟨rfl,k,G,B0,v,_,d0,S,eZ⟩;refine wK eZ (wB0 Z U (fun p1=>?_) fun p1=>?_)
  ·obtain⟨th,d1,y1,_,e0,F0,_,Q0,L0,R0⟩:=RdS.get (s1) (k) (by omega);obtain⟨_,_,_,_,_,_,_,_,_,_,_,_,rfl,_,_,q0,_⟩:=R0a.open_ R0;have v0:=hp.thread e0;have u1:=v0.nmod;have x1:=v0.asserts;refine lO (S.k.a L0) [.x d1 y1,.v 0] Z ⟨⟨Z,Q0⟩,⟨F0,by omega⟩,U⟩ (j0a S p4b Z Z ?_);intro g5 w5 S5 X5 G5;refine lO0 Z U ?_
   first|refine e0a (kk:=0) (vs:=[_,_,_,_,_,_,_]) S5 o4b Z Z Z Z Z Z Z ?_
   intro D1 c0 c1;dsimp only[n0a,List.set] at c0;obtain⟨n,f1,z1,_,s0,G0,_,_,N0,S0⟩:=RdS.get (q1) (k) (by omega);obtain⟨rfl,_⟩:=id S0;have N1:=X0.atr k n s0 th e0;refine lB ((c0.k.a N0).a r0) [.f 0 9,.x f1 z1,.f 1 0,.f 0 5] Z ⟨Z,Z,⟨G0,by omega⟩,Z,U⟩ (fun n0=>?_) fun n0=>?_
   ·refine lP0 Z ⟨by omega,U⟩ ⟨μk-1,by omega,Z,(k+1),(_),(_),(_),(by omega),?_,c0.tail,Z⟩;rw[c1a,B3a (.inl n0),List.append_nil];exact d0
   refine lB0 Z U (fun o0=>?_) fun o0=>?_
   ·refine lP0 Z ⟨by omega,U⟩ ⟨μk-1,by omega,Z,(k+1),(_),(_),(_),(by omega),?_,c0.tail,Z⟩;rw[c1a,B3a (.inr (by rw[getD_some s0];exact o0)),List.append_nil];exact d0
   obtain⟨m,g1,A1,_,x0,H0,_,_,O0,T0⟩:=RdS.get (q0) (n.toNat) (by omega);obtain⟨rfl,_⟩:=id T0;have t1:=v0.modules m (d0a x0);unfold k2a at t1;obtain⟨md,i1,B1,_,j0,I0,_,_,P0,U0⟩:=RdS.get (r1) (m.toNat) (by omega);obtain⟨_,_,_,_,_,_,_,_,_,rfl,K0,_⟩:=i1a.open_ U0;refine lO (((c0.k.a P0).a r0).a O0) [.o 0,.x g1 A1,.f 0 0,.f 1 1,.x i1 B1,.f 2 2] Z ⟨Z,⟨I0,by omega⟩,Z,Z,⟨H0,by omega⟩,Z,U⟩ (j0a c0 T8a Z Z ?_);intro g8 w8 S8 X8 G8
   first|refine e0a (kk:=0) (vs:=[_,_,_,_]) S8 a9a Z Z Z Z Z Z Z ?_
   intro V0 a0 A0;dsimp only[n0a,List.set] at a0;refine lC0 Z U (v0a b0a [0,1,2,3,4,5,6,7,8,9,10,11,12,13,14,15,16,17] [] [] Z (Cl _ _ _ _) (Cl.start a0) ?_);refine qB a0.q [.o 0] Z ⟨Z,U⟩ (fun D0=>?_) fun D0=>?_
   ·refine qO (a0.q.a r0) [.w 0,.f 0 8,.f 0 11] Z ⟨Z,Z,⟨Z,by rfl⟩,U⟩ (A1a A0b Z Z (fun w1 S1 X1=>f8a md.rely M _ _ _ _ e.c.mem e.d.mem (RdE.keep (S1.keep0 M) _ _ K0) (hE.inp.keep (S1.keep0 M)).msk (J0.keep (S1.keep0 M)) (p0.keep (S1.keep0 M))) ?_);refine qB0 Z U (fun E0=>?_) fun E0=>?_
    ·refine qD Z U ?_;rintro t0 ⟨b0,m0⟩;refine lOn 4 b0.k [] Z U (y0a Z ?_);refine lO (b0.k.a r0) [.f 0 4] Z ⟨Z,U⟩ (d1a w4a (vs:=[(0,.int .i64 _),(1,.int .i64 _),(2,.int .i64 _),(3,.int .i64 _),(4,.int .i64 _)]) (cs:=[_,_,_,_,_]) Z Z Z Z ?_);refine g0a b0 p1a (vs:=[.agg _]) (cs:=[_,_,_,_,_]) Z Z Z Z Z Z ?_;intro M1 V1 W0 J1 F1;have l1:=O3a (p:=p) (e:=e) k;have v1:=v0.points;refine B0a k1a (k:=3) (M2:=[]) (e1:=⟨e.at_,5,m,k,n⟩) W0 p1a Z d0 Z Z (W0.cells 0 Z) (T4a.of (by unfold i64;omega) (by unfold i64;omega) (by unfold i64;omega) (by unfold i64;omega) (by unfold i64;omega)) Z ?_;intro R1 G1 j1 W1 a1 i0 K1 E1;refine q0a Z ?_;refine lP0 Z ⟨by omega,U⟩ ⟨μk-1,by omega,Z,(k+1),(_),(_),(_),(by omega),?_,a1.tail.tail.tail,Z⟩;rw[c1a,O2a (h1:=n0) (h2:=o0) e0 s0 x0 j0,if_pos ⟨D0,E0⟩];exact i0
    refine qD Z U ?_;rintro t0 ⟨b0,m0⟩;refine lP0 Z ⟨by omega,U⟩ ⟨μk-1,by omega,Z,(k+1),(_),(_),(_),(by omega),?_,b0.tail.tail,Z⟩;rw[c1a,O2a (h1:=n0) (h2:=o0) e0 s0 x0 j0,if_neg (fun hh=>E0 hh.2),List.append_nil];exact d0
   refine qD Z U ?_;rintro t0 ⟨b0,m0⟩;refine lP0 Z ⟨by omega,U⟩ ⟨μk-1,by omega,Z,(k+1),(_),(_),(_),(by omega),?_,b0.tail.tail,Z⟩;rw[c1a,O2a (h1:=n0) (h2:=o0) e0 s0 x0 j0,if_neg (fun hh=>hh.1 D0),List.append_nil];exact d0
  refine lOn 8 S.k [] Z U (y0a Z ?_);refine q0a Z ?_;refine lR0 Z U (r0a Z ?_);refine⟨?_,S.fin⟩;have l1:=O3a (p:=p) (e:=e) p.threads.length;have e1:G6a p e=h4a p e k:=by
   unfold G6a;rw[if_pos ⟨C0,List.length_eq_zero_iff.1 (by omega),List.length_eq_zero_iff.1 (by omega)⟩,show p.threads.length=k by omega]
  rw[e1];exact x1a.rd k1a (M:=M) d0 S (k:=0) Z (fun g hg=>by subst hg;exact V0a hE.inp.lt (S.new 0 Z)) (by rw[show k=p.threads.length by omega];omega)
 refine lR0 Z U (r0a Z ?_);refine⟨?_,u0.fin⟩;rw[p0b (.inl C0)];exact a2a
theorem E5b{p:h0a}{e:EvD}(h:s3a e.d=false):C5a p e=[]:=by unfold C5a;rw[if_neg (by rw[h];simp)]
theorem o1b{p:h0a}{e:EvD}(h:s3a e.d=false):e3a p e=[]:=by unfold e3a;rw[if_neg (by rw[h];simp)]
theorem N8a{p:h0a}{e:EvD}{i:Nat}{l:e0b}{v:Int}(hl:p.locks[i]?=some l)(hv:e.d.mem[l.cell.toNat]?=some v)(h:v≠0∨l.inv.evl e.d.mem e.d.mem≠0):j8a p e i=[]:=by
 unfold j8a;rw[hl];simp only;rw[getD_some hv,if_pos h]
theorem L8a{p:h0a}{e:EvD}{i:Nat}{l:e0b}{v m t:Int}(hl:p.locks[i]?=some l)(hv:e.d.mem[l.cell.toNat]?=some v)(h1:v=0)(h2:l.inv.evl e.d.mem e.d.mem=0)(hm:m=G1b p e l)(ht:t=if 0≤e.at_ then e.x.thread else -1):
 j8a p e i=[⟨e.at_,2,m,t,i⟩]:=by
 unfold j8a;rw[hl];simp only;rw[getD_some hv,if_neg (by rintro(h|h)<;>contradiction),←hm,←ht]
theorem EvD.step_at{e:EvD}(h:e.step=true):0≤e.at_∧e.x.step≠-1:=by unfold EvD.step at h;simpa using h
theorem e4c(p:h0a)(e:EvD)(M:List Nat)(w0:World)(ge:Nat)(cs xs ys:List Value)(hE:C4b p e M w0 ge cs xs ys):
 N0a prog 153 #[.pointer (some ⟨ge,0,none⟩)] w0 fun v w'=>y8b M w' v (C5a p e)∧Below w0.heap.size w0 w':=by
 obtain⟨_,_,_,_,_,_,Al,nl,cl,_,_,_,rfl,_,_,Y1,Z1,_⟩:=hE.inp.rd.open_;obtain⟨_,_,_,_,_,_,_,_,_,rfl,-⟩:=hE.c.open_;obtain⟨_,_,_,_,_,_,_,_,_,rfl,n0,b1,-,_,_,-⟩:=hE.d.open_;have o0:=hE.cell;have hp:=hE.inp.ok;have n1:=hp.nmodules;have n2:=hp.nthreads;have n3:=hp.nlocks;have n4:=hp.ncells;have m1:=hE.ok.d;have z2:=m1.nat;have y2:=m1.mem.len;have h3:=hE.ok.lo;have h4:=hE.ok.hi;have S:=(St.refl w0).nilEnt 59;refine a0a func153 Z ntmps153 Z ?_;refine wO (S.k.a o0) [.f 0 11] Z ⟨Z,U⟩ (A0a S x3b Z Z (Y8a e.d M _ _ (hE.d.keep (S.keep0 M))) (fun V0 s2 I0 M1=>?_) (fun V0 s2 I0 M1=>?_))
 ·refine lC (I0.k.a o0) [.f 0 2] Z ⟨Z,U⟩ (wL (fun μk D ε w=>D=[]∧∃k:Nat,∃G:Option Nat,∃y0:List Value,∃v:Value,(k+μk=(p.locks.length))∧(x1a (fun _ _=>T4a) 5 [] w0 G y0 v (L3a p e k))∧St [] w0 w [(G,59,y0)]∧Sl ε [(0,.pointer (some ⟨ge,0,none⟩)),(3,v),(17,.slice Al nl cl),(18,.int .i64 nl),(19,.int .i64 k)]) (μ:=(p.locks.length)) ⟨Z,0,none,[],.slice none 0 0,by omega,x1a.nil,I0,Z⟩ ?_);rintro μk D ε w ⟨rfl,k,G,y0,v,_,d0,S,eZ⟩;refine wK eZ (wB0 Z U (fun W1=>?_) fun W1=>?_)
  ·obtain⟨l,Q1,m2,_,v0,W0,_,o1,d1,r1⟩:=RdS.get (Y1) (k) (by omega);obtain⟨_,_,_,rfl,_,_,c1⟩:=u5a.open_ r1;have H1:=hp.locks l (d0a v0);have b2:=H1.cell.1;have f2:=H1.mod;unfold k2a at b2 f2;refine lO (S.k.a d1) [.x Q1 m2,.v 0] Z ⟨⟨Z,o1⟩,⟨W0,by omega⟩,U⟩ (j0a S c5b Z Z ?_);intro g5 w5 S5 X5 G5;refine lO0 Z U ?_
   first|refine e0a (kk:=0) (vs:=[_,_,_,_,_,_]) S5 I4b Z Z Z Z Z Z Z ?_
   intro t2 j0 N1;dsimp only[n0a,List.set] at j0;refine lC0 Z U (v0a b0a [0,1,2,3,4,5,6,7,8,9,10,11,12,13,14,15,16,17,18,19] [] [] Z (Cl _ _ _ _) (Cl.start j0) ?_);obtain⟨v,R1,o2,_,G0,X0,_,_,f1,s1⟩:=RdS.get (n0) (l.cell.toNat) (by omega);obtain⟨rfl,_⟩:=id s1;refine qB ((j0.q.a f1).a o0) [.f 0 11,.o 0,.x R1 o2,.f 1 0] Z ⟨Z,⟨X0,by omega⟩,Z,Z,U⟩ (fun z0=>?_) fun z0=>?_
   ·refine qD Z U ?_;rintro K1 ⟨q0,G1⟩;refine lP0 Z ⟨by omega,U⟩ ⟨μk-1,by omega,Z,(k+1),(_),(_),(_),(by omega),?_,q0.tail,Z⟩;rw[n2a,N8a v0 G0 (.inl z0),List.append_nil];exact d0
   refine qO (j0.q.a o0) [.o 0,.f 0 11] Z ⟨Z,Z,U⟩ (Z1a v1c Z Z (fun w1 S1 X1=>k6b l.inv e.d.mem M _ _ _ (RdE.keep (S1.keep0 M) _ _ c1) (hE.inp.keep (S1.keep0 M)).msk (n0.keep (S1.keep0 M))) (fun A0=>?_) fun A0=>?_)
   ·refine qD Z U ?_;rintro K1 ⟨q0,G1⟩;refine lP0 Z ⟨by omega,U⟩ ⟨μk-1,by omega,Z,(k+1),(_),(_),(_),(by omega),?_,q0.tail,Z⟩;rw[n2a,N8a v0 G0 (.inr (of_decide_eq_true A0)),List.append_nil];exact d0
   refine qD Z U ?_;rintro K1 ⟨q0,G1⟩;refine lC0 Z U (v0a b0a [0,1,2,3,4,5,6,7] [8] [9] Z (Cl _ _ _ _) (Cl.start q0) ?_);refine qO (q0.q.a o0) [.f 0 4,.o 0] Z ⟨Z,Z,U⟩ (w3a w4a (vs:=[(0,.int .i64 _),(1,.int .i64 _),(2,.int .i64 _),(3,.int .i64 _),(4,.int .i64 _)]) (cs:=[_,_,_,_,_]) Z Z Z Z ?_);refine qN0 Z U (z3a ?_);refine x4a Z Z r8c Z ?_;refine K1a ?_;rintro C2 ⟨P0,_⟩;intro g6 d2 G6 j2;dsimp only[c4a];clear j2;replace P0:=P0.push_new q0 d2 G6
   first|refine e0a (kk:=0) (vs:=[_,_,_,_,_]) P0 E8c Z Z Z Z Z Z Z ?_
   intro v2 e0 P1;dsimp only[n0a,List.set] at e0;refine lB (e0.k.a o0) [.f 0 4] Z ⟨Z,U⟩ (fun B0=>?_) fun B0=>?_
   ·refine lO (e0.k.a o0) [.f 0 5] Z ⟨Z,U⟩ ?_
    first|refine u0a (kk:=0) e0 m8a Z Z Z (by exact Nat.le_of_ble_eq_true Z) ?_
    intro J1 m0 F1;refine lC0 Z U (v0a b0a [0,1,2,3,4,5,6,7,8,9,10,11,12,13,14,15,16,17,18,19,20,21] [] [22] Z (Cl _ _ _ _) (Cl.start m0) ?_);have B2:=hE.ok.t B0;obtain⟨tx,T1,p2,_,u0,Y0,_,_,g1,t1⟩:=RdS.get (Z1) (e.x.thread.toNat) (by omega);obtain⟨_,_,_,_,_,_,_,_,_,_,_,_,rfl,_,_,C0,_⟩:=R0a.open_ t1;have I1:=hp.thread u0;have i2:=I1.nmod;obtain⟨nx,U1,q2,_,t0,Z0,_,_,i1,u1⟩:=RdS.get (b1) (e.x.thread.toNat) (by omega);obtain⟨rfl,_⟩:=id u1;have a2:=hE.ok.aw B0;rw[getD_some t0] at a2;have x2:=m1.atr _ nx t0 tx u0;obtain⟨mx,V1,r2,_,F0,a1,_,_,j1,v1⟩:=RdS.get (C0) (nx.toNat) (by omega);obtain⟨rfl,_⟩:=id v1;have g2:=I1.modules mx (d0a F0);unfold k2a at g2;refine qN ((((m0.q.a j1).a i1).a g1).a o0) [.f 0 3,.o 0,.x T1 p2,.f 1 3,.f 0 12,.o 0,.x U1 q2,.f 2 0,.x V1 r2,.f 3 0] Z ⟨Z,⟨a1,by omega⟩,Z,⟨Z0,by omega⟩,Z,Z,Z,⟨Y0,by omega⟩,Z,Z,U⟩ (z3a ?_);refine K1a ?_;rintro w2 ⟨O0,_⟩
    first|refine u0a (kk:=0) O0 m8a Z Z Z (by exact Nat.le_of_ble_eq_true Z) ?_
    intro B1 g0 Q0;refine lO0 Z U (A0a g0 w3b Z Z (V8a p e M _ _ _ _ _ (hE.keep (g0.keep0 M))) (fun f0 C1 c0 R0=>?_) (fun f0 C1 c0 R0=>?_))
    ·refine lO0 Z U ?_;obtain⟨ss,th,x1,hr,y1,z1,D0⟩:=hE.step f0;have q1:=(EvD.step_at f0).1;obtain⟨s,hs⟩:∃s,s=sOf p e:=⟨_,Z⟩;have E0:=J0b.stepOK hp y1 D0;rw[←hs] at hr z1 D0 E0;obtain⟨Ag,ng,cg,As,ns,y0,rfl,-⟩:=B1a.open_ hr;have p1:=E0.mod;unfold k2a at p1;refine i0a c0 g6a Z Z (j6a p e M _ _ _ _ _ _ (hE.keep (c0.keep0 M)) (x1.keep (c0.keep0 [])) _ (B1a.keep (c0.keep0 M) _ _ hr)) ?_;intro u2 N0 O1;refine lO0 Z U ?_
     first|refine u0a (kk:=0) N0 m8a Z Z Z (by exact Nat.le_of_ble_eq_true Z) ?_
     intro H0 b0 x0;refine lOn 3 b0.k [] Z U (y0a Z ?_);refine lO b0.k [.w 0] Z ⟨⟨Z,by rfl⟩,U⟩ (g0a b0 p1a (vs:=[.agg _]) (cs:=[_,_,_,_,_]) Z Z Z Z Z Z ?_);intro U0 D1 i0 S0 K0;have l1:=P0a (p:=p) (e:=e) k;have s0:j8a p e k=[⟨e.at_,2,s.module_,e.x.thread,k⟩]:=L8a v0 G0 z0 (by simpa using A0) (by unfold G1b;rw[if_pos f0,hs]) (by rw[if_pos (EvD.step_at f0).1]);have A2:=hE.ok.t (EvD.step_at f0).1;refine B0a k1a (k:=3) (M2:=[]) (e1:=⟨e.at_,2,s.module_,e.x.thread,k⟩) i0 p1a Z d0 Z Z (i0.cells 0 Z) (T4a.of (by unfold i64;omega) (by unfold i64;omega) (by unfold i64;omega) (by unfold i64;omega) (by unfold i64;omega)) Z ?_;intro A1 L0 r0 E1 p0 a0 T0 J0;refine q0a Z ?_;refine lP0 Z ⟨by omega,U⟩ ⟨μk-1,by omega,Z,(k+1),(_),(_),(_),(by omega),?_,p0.tail.tail.tail,Z⟩;rw[n2a,s0];exact a0
    refine lOn 6 c0.k [] Z U (y0a Z ?_);refine lO c0.k [.w 0] Z ⟨⟨Z,by rfl⟩,U⟩ (g0a c0 p1a (vs:=[.agg _]) (cs:=[_,_,_,_,_]) Z Z Z Z Z Z ?_);intro U0 D1 i0 S0 K0;have l1:=P0a (p:=p) (e:=e) k;have s0:j8a p e k=[⟨e.at_,2,mx,e.x.thread,k⟩]:=L8a v0 G0 z0 (by simpa using A0) (by unfold G1b;rw[if_neg (by rw[f0];simp),if_pos B0,t4a u0,getD_some t0];exact(getD_some F0).symm) (by rw[if_pos B0]);refine B0a k1a (k:=3) (M2:=[]) (e1:=⟨e.at_,2,mx,e.x.thread,k⟩) i0 p1a Z d0 Z Z (i0.cells 0 Z) (T4a.of (by unfold i64;omega) (by unfold i64;omega) (by unfold i64;omega) (by unfold i64;omega) (by unfold i64;omega)) Z ?_;intro A1 L0 r0 E1 p0 a0 T0 J0;refine q0a Z ?_;refine lP0 Z ⟨by omega,U⟩ ⟨μk-1,by omega,Z,(k+1),(_),(_),(_),(by omega),?_,p0.tail.tail.tail,Z⟩;rw[n2a,s0];exact a0
   refine lO0 Z U (A0a e0 w3b Z Z (V8a p e M _ _ _ _ _ (hE.keep (e0.keep0 M))) (fun f0 C1 c0 R0=>?_) (fun f0 C1 c0 R0=>?_))
   ·refine lO0 Z U ?_;obtain⟨ss,th,x1,hr,y1,z1,D0⟩:=hE.step f0;have q1:=(EvD.step_at f0).1;obtain⟨s,hs⟩:∃s,s=sOf p e:=⟨_,Z⟩;have E0:=J0b.stepOK hp y1 D0;rw[←hs] at hr z1 D0 E0;obtain⟨Ag,ng,cg,As,ns,y0,rfl,-⟩:=B1a.open_ hr;have p1:=E0.mod;unfold k2a at p1;refine i0a c0 g6a Z Z (j6a p e M _ _ _ _ _ _ (hE.keep (c0.keep0 M)) (x1.keep (c0.keep0 [])) _ (B1a.keep (c0.keep0 M) _ _ hr)) ?_;intro u2 N0 O1;refine lO0 Z U ?_
    first|refine u0a (kk:=0) N0 m8a Z Z Z (by exact Nat.le_of_ble_eq_true Z) ?_
    intro H0 b0 x0;refine lOn 3 b0.k [] Z U (y0a Z ?_);refine lO b0.k [.w 0] Z ⟨⟨Z,by rfl⟩,U⟩ (g0a b0 p1a (vs:=[.agg _]) (cs:=[_,_,_,_,_]) Z Z Z Z Z Z ?_);intro U0 D1 i0 S0 K0;have l1:=P0a (p:=p) (e:=e) k;have s0:j8a p e k=[⟨0,0,0,0,0⟩]:=by exfalso;omega
    refine B0a k1a (k:=3) (M2:=[]) (e1:=⟨0,0,0,0,0⟩) i0 p1a Z d0 Z Z (i0.cells 0 Z) (by exfalso;omega) Z ?_;intro A1 L0 r0 E1 p0 a0 T0 J0;refine q0a Z ?_;refine lP0 Z ⟨by omega,U⟩ ⟨μk-1,by omega,Z,(k+1),(_),(_),(_),(by omega),?_,p0.tail.tail.tail,Z⟩;rw[n2a,s0];exact a0
   refine lOn 6 c0.k [] Z U (y0a Z ?_);refine lO c0.k [.w 0] Z ⟨⟨Z,by rfl⟩,U⟩ (g0a c0 p1a (vs:=[.agg _]) (cs:=[_,_,_,_,_]) Z Z Z Z Z Z ?_);intro U0 D1 i0 S0 K0;have l1:=P0a (p:=p) (e:=e) k;have s0:j8a p e k=[⟨e.at_,2,l.module_,-1,k⟩]:=L8a v0 G0 z0 (by simpa using A0) (by unfold G1b;rw[if_neg (by rw[f0];simp),if_neg (by omega)]) (by rw[if_neg (by omega)]);refine B0a k1a (k:=3) (M2:=[]) (e1:=⟨e.at_,2,l.module_,-1,k⟩) i0 p1a Z d0 Z Z (i0.cells 0 Z) (T4a.of (by unfold i64;omega) (by unfold i64;omega) (by unfold i64;omega) (by unfold i64;omega) (by unfold i64;omega)) Z ?_;intro A1 L0 r0 E1 p0 a0 T0 J0;refine q0a Z ?_;refine lP0 Z ⟨by omega,U⟩ ⟨μk-1,by omega,Z,(k+1),(_),(_),(_),(by omega),?_,p0.tail.tail.tail,Z⟩;rw[n2a,s0];exact a0
  refine lOn 8 S.k [] Z U (y0a Z ?_);refine q0a Z ?_;refine lR0 Z U (r0a Z ?_);refine⟨?_,S.fin⟩;have l1:=P0a (p:=p) (e:=e) p.locks.length;have e1:C5a p e=L3a p e k:=by unfold C5a;rw[if_pos V0,show p.locks.length=k by omega]
  rw[e1];exact x1a.rd k1a (M:=M) d0 S (k:=0) Z (fun g hg=>by subst hg;exact V0a hE.inp.lt (S.new 0 Z)) (by rw[show k=p.locks.length by omega];omega)
 refine lR0 Z U (r0a Z ?_);refine⟨?_,I0.fin⟩;rw[E5b V0];exact a2a
theorem n6a{p:h0a}{e:EvD}{t:Nat}{n:Int}(hn:e.d.at_[t]?=some n)(h:n=-1∨((d0b p t).asserts.getD n.toNat noE).evl e.d.mem e.d.mem≠0):b3a p e t=[]:=by
 unfold b3a;rw[getD_some hn,if_pos h]
theorem q3a{p:h0a}{e:EvD}{t:Nat}{n m:Int}{th:U0a}{a:E}(a0:p.threads[t]?=some th)(ha:th.asserts[n.toNat]?=some a)(hn:e.d.at_[t]?=some n)(h1:n≠-1)(h2:a.evl e.d.mem e.d.mem=0)(hm:m=c8a p e t):
 b3a p e t=[⟨e.at_,1,m,t,n⟩]:=by
 unfold b3a;rw[getD_some hn,if_neg,←hm];rintro(h|h)
 ·exact h1 h
 ·rw[t4a a0,getD_some ha] at h;exact h h2
theorem U3a{p:h0a}{e:EvD}{t:Nat}{n m:Int}{th:U0a}(a0:p.threads[t]?=some th)(hm:th.modules[n.toNat]?=some m)(hn:e.d.at_[t]?=some n)(h:¬(e.step=true∧((t:Int)=e.x.thread∨(sOf p e).kind=6∧(sOf p e).target=t))):m=c8a p e t:=by
 unfold c8a;rw[if_neg h,getD_some hn,t4a a0];exact(getD_some hm).symm
theorem z6a{p:h0a}{e:EvD}{t:Nat}(h:e.step=true∧((t:Int)=e.x.thread∨(sOf p e).kind=6∧(sOf p e).target=t)):(sOf p e).module_=c8a p e t:=by
 unfold c8a;rw[if_pos h]
theorem D9b(p:h0a)(e:EvD)(M:List Nat)(w0:World)(ge:Nat)(cs xs ys:List Value)(hE:C4b p e M w0 ge cs xs ys):
 N0a prog 154 #[.pointer (some ⟨ge,0,none⟩)] w0 fun v w'=>y8b M w' v (e3a p e)∧Below w0.heap.size w0 w':=by
 obtain⟨_,_,_,_,_,_,_,_,_,At,nt,ct,rfl,_,_,_,K1,_⟩:=hE.inp.rd.open_;obtain⟨_,_,_,_,_,_,_,_,_,rfl,-⟩:=hE.c.open_;obtain⟨_,_,_,_,_,_,_,_,_,rfl,A0,d1,-,_,_,-⟩:=hE.d.open_;have u0:=hE.cell;have hp:=hE.inp.ok;have n1:=hp.nmodules;have n2:=hp.nthreads;have n3:=hp.nlocks;have n4:=hp.ncells;have m1:=hE.ok.d;have o2:=m1.nat;have m2:=m1.mem.len;have h3:=hE.ok.lo;have h4:=hE.ok.hi;have S:=(St.refl w0).nilEnt 59;refine a0a func154 Z ntmps154 Z ?_;refine wO (S.k.a u0) [.f 0 11] Z ⟨Z,U⟩ (A0a S x3b Z Z (Y8a e.d M _ _ (hE.d.keep (S.keep0 M))) (fun W0 a2 H0 B1=>?_) (fun W0 a2 H0 B1=>?_))
 ·refine lC (H0.k.a u0) [.f 0 3] Z ⟨Z,U⟩ (wL (fun μk D ε w=>D=[]∧∃k:Nat,∃G:Option Nat,∃K0:List Value,∃v:Value,(k+μk=(p.threads.length))∧(x1a (fun _ _=>T4a) 5 [] w0 G K0 v (p2a p e k))∧St [] w0 w [(G,59,K0)]∧Sl ε [(0,.pointer (some ⟨ge,0,none⟩)),(3,v),(18,.slice At nt ct),(19,.int .i64 nt),(20,.int .i64 k)]) (μ:=(p.threads.length)) ⟨Z,0,none,[],.slice none 0 0,by omega,x1a.nil,H0,Z⟩ ?_);rintro μk D ε w ⟨rfl,k,G,K0,v,_,d0,S,eZ⟩;refine wK eZ (wB0 Z U (fun J1=>?_) fun J1=>?_)
  ·obtain⟨th,F1,V1,_,c0,Z0,_,o1,f1,r1⟩:=RdS.get (K1) (k) (by omega);obtain⟨_,_,_,_,_,_,_,_,_,_,_,_,rfl,_,z0,B0,_⟩:=R0a.open_ r1;have P0:=hp.thread c0;have Q1:=P0.nmod;have R1:=P0.asserts;refine lO (S.k.a f1) [.x F1 V1,.v 0] Z ⟨⟨Z,o1⟩,⟨Z0,by omega⟩,U⟩ (j0a S p4b Z Z ?_);intro g5 w5 S5 X5 G5;refine lO0 Z U ?_
   first|refine e0a (kk:=0) (vs:=[_,_,_,_,_,_,_]) S5 o4b Z Z Z Z Z Z Z ?_
   intro d2 j0 D1;dsimp only[n0a,List.set] at j0;obtain⟨n,G1,W1,_,i0,a1,_,_,g1,s1⟩:=RdS.get (d1) (k) (by omega);obtain⟨rfl,_⟩:=id s1;have j2:=m1.atr k n i0 th c0;refine lC ((j0.k.a g1).a u0) [.f 0 12,.x G1 W1,.f 1 0] Z ⟨Z,⟨a1,by omega⟩,Z,U⟩ (v0a b0a [0,1,2,3,4,5,6,7,8,9,10,11,12,13,14] [] [] Z (Cl _ _ _ _) (Cl.start j0) ?_);refine qB0 Z U (fun s0=>?_) fun s0=>?_
   ·refine qD Z U ?_;rintro A1 ⟨r0,v1⟩;refine lP0 Z ⟨by omega,U⟩ ⟨μk-1,by omega,Z,(k+1),(_),(_),(_),(by omega),?_,r0.tail,Z⟩;rw[y1a,n6a i0 (.inl s0),List.append_nil];exact d0
   obtain⟨a,H1,Y1,_,v0,b1,_,p1,i1,C0⟩:=RdS.get (z0) (n.toNat) (by omega);obtain⟨_,_,_,rfl,_⟩:=RdE.cells C0;refine qO ((j0.q.a u0).a i1) [.o 0,.x H1 Y1,.v 0,.f 1 11] Z ⟨Z,⟨Z,p1⟩,⟨b1,by omega⟩,Z,U⟩ (Z1a v1c Z Z (fun w1 S1 X1=>k6b a e.d.mem M _ _ _ (RdE.keep (S1.keep0 M) _ _ C0) (hE.inp.keep (S1.keep0 M)).msk (A0.keep (S1.keep0 M))) (fun t0=>?_) fun t0=>?_)
   ·refine qD Z U ?_;rintro A1 ⟨r0,v1⟩;refine lP0 Z ⟨by omega,U⟩ ⟨μk-1,by omega,Z,(k+1),(_),(_),(_),(by omega),?_,r0.tail,Z⟩;rw[y1a,n6a i0 (.inr (by rw[t4a c0,getD_some v0];exact of_decide_eq_true t0)),List.append_nil];exact d0
   refine qD Z U ?_;rintro A1 ⟨r0,v1⟩;refine lC0 Z U (v0a b0a [0,1,2,3,4,5,6,7,8,9,10,11] [12] [13] Z (Cl _ _ _ _) (Cl.start r0) ?_);obtain⟨m,I1,Z1,_,Q0,c1,_,_,j1,t1⟩:=RdS.get (B0) (n.toNat) (by omega);obtain⟨rfl,_⟩:=id t1;have N1:=P0.modules m (d0a Q0);unfold k2a at N1;have p2:=P0.points;refine qO ((r0.q.a j1).a u0) [.f 0 4,.o 0,.x I1 Z1,.f 1 0] Z ⟨Z,⟨c1,by omega⟩,Z,Z,U⟩ (w3a w4a (vs:=[(0,.int .i64 _),(1,.int .i64 _),(2,.int .i64 _),(3,.int .i64 _),(4,.int .i64 _)]) (cs:=[_,_,_,_,_]) Z Z Z Z ?_);refine qN0 Z U (z3a ?_);refine x4a Z Z r8c Z ?_;refine K1a ?_;rintro t2 ⟨V0,_⟩;intro g7 M1 G7 U1;dsimp only[c4a];clear U1;replace V0:=V0.push_new r0 M1 G7
   first|refine e0a (kk:=0) (vs:=[_,_,_,_,_]) V0 E8c Z Z Z Z Z Z Z ?_
   intro z1 g0 u1;dsimp only[n0a,List.set] at g0;refine lO0 Z U (A0a g0 w3b Z Z (V8a p e M _ _ _ _ _ (hE.keep (g0.keep0 M))) (fun y0 b2 f0 C1=>?_) (fun y0 b2 f0 C1=>?_))
   ·obtain⟨_,_,O0,hr,P1,T1,x1⟩:=hE.step y0;obtain⟨s,hs⟩:∃s,s=sOf p e:=⟨_,Z⟩;have y1:=J0b.stepOK hp P1 x1;rw[←hs] at hr T1 x1 y1;obtain⟨_,_,_,_,_,K0,rfl,-⟩:=B1a.open_ hr;have O1:=y1.mod;unfold k2a at O1;refine lB (f0.k.a u0) [.f 0 5] Z ⟨Z,U⟩ (fun N0=>?_) fun N0=>?_
    ·refine lO0 Z U (i0a f0 g6a Z Z (j6a p e M _ _ _ _ _ _ (hE.keep (f0.keep0 M)) (O0.keep (f0.keep0 [])) _ (B1a.keep (f0.keep0 M) _ _ hr)) ?_);intro f2 U0 E1;refine lO0 Z U ?_
     first|refine u0a (kk:=0) U0 m8a Z Z Z (by exact Nat.le_of_ble_eq_true Z) ?_
     intro D0 b0 x0;refine lOn 3 b0.k [] Z U (y0a Z ?_);refine lO b0.k [.w 0] Z ⟨⟨Z,by rfl⟩,U⟩ (g0a b0 p1a (vs:=[.agg _]) (cs:=[_,_,_,_,_]) Z Z Z Z Z Z ?_);intro L0 S0 e0 I0 F0;have l1:=H0a (p:=p) (e:=e) k;have o0:b3a p e k=[⟨e.at_,1,s.module_,k,n⟩]:=q3a c0 v0 i0 s0 (by simpa using t0) (by rw[hs];exact z6a (by exact⟨y0,.inl N0⟩));refine B0a k1a (k:=3) (M2:=[]) (e1:=⟨e.at_,1,s.module_,k,n⟩) e0 p1a Z d0 Z Z (e0.cells 0 Z) (T4a.of (by unfold i64;omega) (by unfold i64;omega) (by unfold i64;omega) (by unfold i64;omega) (by unfold i64;omega)) Z ?_;intro R0 G0 n0 T0 m0 a0 J0 E0;refine q0a Z ?_;refine lP0 Z ⟨by omega,U⟩ ⟨μk-1,by omega,Z,(k+1),(_),(_),(_),(by omega),?_,m0.tail.tail.tail,Z⟩;rw[y1a,o0];exact a0
    refine lO0 Z U (i0a f0 g6a Z Z (j6a p e M _ _ _ _ _ _ (hE.keep (f0.keep0 M)) (O0.keep (f0.keep0 [])) _ (B1a.keep (f0.keep0 M) _ _ hr)) ?_);intro r2 p0 g2;refine lB0 Z U (fun X0=>?_) fun X0=>?_
    ·refine lO0 Z U (i0a p0 g6a Z Z (j6a p e M _ _ _ _ _ _ (hE.keep (p0.keep0 M)) (O0.keep (p0.keep0 [])) _ (B1a.keep (p0.keep0 M) _ _ hr)) ?_);intro s2 q0 i2;refine lB0 Z U (fun Y0=>?_) fun Y0=>?_
     ·refine lO0 Z U (i0a q0 g6a Z Z (j6a p e M _ _ _ _ _ _ (hE.keep (q0.keep0 M)) (O0.keep (q0.keep0 [])) _ (B1a.keep (q0.keep0 M) _ _ hr)) ?_);intro f2 U0 E1;refine lO0 Z U ?_
      first|refine u0a (kk:=0) U0 m8a Z Z Z (by exact Nat.le_of_ble_eq_true Z) ?_
      intro D0 b0 x0;refine lOn 3 b0.k [] Z U (y0a Z ?_);refine lO b0.k [.w 0] Z ⟨⟨Z,by rfl⟩,U⟩ (g0a b0 p1a (vs:=[.agg _]) (cs:=[_,_,_,_,_]) Z Z Z Z Z Z ?_);intro L0 S0 e0 I0 F0;have l1:=H0a (p:=p) (e:=e) k;have o0:b3a p e k=[⟨e.at_,1,s.module_,k,n⟩]:=q3a c0 v0 i0 s0 (by simpa using t0) (by rw[hs];exact z6a (by exact⟨y0,.inr (by rw[←hs];exact⟨X0,Y0⟩)⟩));refine B0a k1a (k:=3) (M2:=[]) (e1:=⟨e.at_,1,s.module_,k,n⟩) e0 p1a Z d0 Z Z (e0.cells 0 Z) (T4a.of (by unfold i64;omega) (by unfold i64;omega) (by unfold i64;omega) (by unfold i64;omega) (by unfold i64;omega)) Z ?_;intro R0 G0 n0 T0 m0 a0 J0 E0;refine q0a Z ?_;refine lP0 Z ⟨by omega,U⟩ ⟨μk-1,by omega,Z,(k+1),(_),(_),(_),(by omega),?_,m0.tail.tail.tail,Z⟩;rw[y1a,o0];exact a0
     refine lOn 9 q0.k [] Z U (y0a Z ?_);refine lO q0.k [.w 0] Z ⟨⟨Z,by rfl⟩,U⟩ (g0a q0 p1a (vs:=[.agg _]) (cs:=[_,_,_,_,_]) Z Z Z Z Z Z ?_);intro L0 S0 e0 I0 F0;have l1:=H0a (p:=p) (e:=e) k;have o0:b3a p e k=[⟨e.at_,1,m,k,n⟩]:=q3a c0 v0 i0 s0 (by simpa using t0) (U3a c0 Q0 i0 (by(rw[←hs];rintro⟨-,q|⟨-,q2⟩⟩;exact N0 q;exact Y0 q2)));refine B0a k1a (k:=3) (M2:=[]) (e1:=⟨e.at_,1,m,k,n⟩) e0 p1a Z d0 Z Z (e0.cells 0 Z) (T4a.of (by unfold i64;omega) (by unfold i64;omega) (by unfold i64;omega) (by unfold i64;omega) (by unfold i64;omega)) Z ?_;intro R0 G0 n0 T0 m0 a0 J0 E0;refine q0a Z ?_;refine lP0 Z ⟨by omega,U⟩ ⟨μk-1,by omega,Z,(k+1),(_),(_),(_),(by omega),?_,m0.tail.tail.tail,Z⟩;rw[y1a,o0];exact a0
    refine lOn 15 p0.k [] Z U (y0a Z ?_);refine lO p0.k [.w 0] Z ⟨⟨Z,by rfl⟩,U⟩ (g0a p0 p1a (vs:=[.agg _]) (cs:=[_,_,_,_,_]) Z Z Z Z Z Z ?_);intro L0 S0 e0 I0 F0;have l1:=H0a (p:=p) (e:=e) k;have o0:b3a p e k=[⟨e.at_,1,m,k,n⟩]:=q3a c0 v0 i0 s0 (by simpa using t0) (U3a c0 Q0 i0 (by(rw[←hs];rintro⟨-,q|⟨q1,-⟩⟩;exact N0 q;exact X0 q1)));refine B0a k1a (k:=3) (M2:=[]) (e1:=⟨e.at_,1,m,k,n⟩) e0 p1a Z d0 Z Z (e0.cells 0 Z) (T4a.of (by unfold i64;omega) (by unfold i64;omega) (by unfold i64;omega) (by unfold i64;omega) (by unfold i64;omega)) Z ?_;intro R0 G0 n0 T0 m0 a0 J0 E0;refine q0a Z ?_;refine lP0 Z ⟨by omega,U⟩ ⟨μk-1,by omega,Z,(k+1),(_),(_),(_),(by omega),?_,m0.tail.tail.tail,Z⟩;rw[y1a,o0];exact a0
   refine lOn 28 f0.k [] Z U (y0a Z ?_);refine lO f0.k [.w 0] Z ⟨⟨Z,by rfl⟩,U⟩ (g0a f0 p1a (vs:=[.agg _]) (cs:=[_,_,_,_,_]) Z Z Z Z Z Z ?_);intro L0 S0 e0 I0 F0;have l1:=H0a (p:=p) (e:=e) k;have o0:b3a p e k=[⟨e.at_,1,m,k,n⟩]:=q3a c0 v0 i0 s0 (by simpa using t0) (U3a c0 Q0 i0 (by(rw[y0];simp;done)));refine B0a k1a (k:=3) (M2:=[]) (e1:=⟨e.at_,1,m,k,n⟩) e0 p1a Z d0 Z Z (e0.cells 0 Z) (T4a.of (by unfold i64;omega) (by unfold i64;omega) (by unfold i64;omega) (by unfold i64;omega) (by unfold i64;omega)) Z ?_;intro R0 G0 n0 T0 m0 a0 J0 E0;refine q0a Z ?_;refine lP0 Z ⟨by omega,U⟩ ⟨μk-1,by omega,Z,(k+1),(_),(_),(_),(by omega),?_,m0.tail.tail.tail,Z⟩;rw[y1a,o0];exact a0
  refine lOn 8 S.k [] Z U (y0a Z ?_);refine q0a Z ?_;refine lR0 Z U (r0a Z ?_);refine⟨?_,S.fin⟩;have l1:=H0a (p:=p) (e:=e) p.threads.length;have e1:e3a p e=p2a p e k:=by unfold e3a;rw[if_pos W0,show p.threads.length=k by omega]
  rw[e1];exact x1a.rd k1a (M:=M) d0 S (k:=0) Z (fun g hg=>by subst hg;exact V0a hE.inp.lt (S.new 0 Z)) (by rw[show k=p.threads.length by omega];omega)
 refine lR0 Z U (r0a Z ?_);refine⟨?_,H0.fin⟩;rw[o1b W0];exact a2a
section
variable {P:Program} {r:Option Nat} {N:Nat} {D:List Deferred} {e:Env} {w w0:World} {ops:Array Oper} {rest:List Oper} {K:List Deferred→Env→World→Prop} {L:List Ent} {M:List Nat}
variable {d:Nat} {t:TypeId} {p:String} {af:Array Edge} {f:FuncId} {args:Array Operand} {at_:Array TypeId} {vs:List Value} {x:Operand}
theorem h1b{xt:TypeId}{v:Value}(hx:ev e x=v)(hI:∀w:World,(Instr.makeInterface xt v).run P w=.ok (.iface xt v) w)(hd:Nat.ble (d+1) N=true)(h:WL P r N ops rest K D (upd e d (.iface xt v)) w):
 WL P r N ops (⟨some d,.makeInterface xt x,t,p,af,none⟩::rest) K D e w :=
 r1a Z Z hd (by simp only[execOp,hx,Sem.run_bind,hI,Result.andThen_ok,Sem.run_pure]) h
theorem Q4c{ty:TypeId}{a0:Array (Nat×Operand)}{ps:List (Nat×Value)}{cs:List Value}(b0:a0.toList.map (fun q=>(q.1,ev e q.2))=ps)(hB:∀w:World,(Instr.build ty ps.toArray).run P w=.ok (.agg cs.toArray) w)(hd:Nat.ble (d+1) N=true)
 (h:WL P r N ops rest K D (upd e d (.agg cs.toArray)) w):WL P r N ops (⟨some d,.build ty a0,t,p,af,none⟩::rest) K D e w:=by
 have hp:(a0.map fun(i,x)=>(i,ev e x))=ps.toArray:=by subst b0;apply Array.ext';simp
 exact r1a Z Z hd (by simp[execOp,hp,hB w]) h
theorem b5c{tt:TypeId}{v:Value}{name:String}{a0:Operand}{R:Value→World→Prop}(S:St M w0 w L)(hx:ev e a0=.iface tt v)(hM:∀(az:Array Value) (w:World),(callMethod (.iface tt v) name az).run P w=.ok (.enter f (#[v]++az)) w)
 (b0:args.toList.map (ev e)=vs) (hd:Nat.ble (d+1) N=true) (hc:N0a P f (v::vs).toArray w fun u w'=>R u w'∧Below w.heap.size w w')
 (h:∀u w1,R u w1→St M w0 w1 L→z0a [] w w1→WL P r N ops rest K D (upd e d u) w1) :
 WL P r N ops (⟨some d,.call { callee:=.invoke a0 name,args:=args,argTypes:=at_ },t,p,af,none⟩::rest) K D e w:=by
 refine r4b Z Z hd ?_ hc fun u w1 hr=>h u w1 hr.1 (S.later hr.2) (z0a.of_below hr.2);subst b0;have h1:(args.map (ev e))=(args.toList.map (ev e)).toArray:=by apply Array.ext';simp
 have h2:(#[Value.iface tt v]++args.map (ev e)).extract 1 (#[Value.iface tt v]++args.map (ev e)).size=args.map (ev e):=by
  apply Array.ext';simp;exact List.take_of_length_le (by simp)
 simp only[execOp,resolve,hx,Sem.run_bind,Sem.run_pure,Result.andThen_ok,invoke];have h3:(#[Value.iface tt v]++args.map (ev e))[0]?=some (.iface tt v):=by rw[Array.getElem?_append_left (by simp)];rfl
 rw[h3];simp only[h2,hM];rw[h1];simp
theorem h5c{ty len size lo b o:Nat}{el:TypeId}{xl:Operand}{kd:IntKind}(hu:P.underlying ty=some (.array len el))(hz:∀w:World,(sizeOf el).run P w=.ok size w)(hx:ev e x=.pointer (some ⟨b,o,none⟩))
 (hl:ev e xl=.int kd (lo:Int)) (a0:lo<len) (hd:Nat.ble (d+1) N=true) (h:WL P r N ops rest K D (upd e d (.slice (some ⟨b,o+lo*size,none⟩) (len-lo) (len-lo))) w) :
 WL P r N ops (⟨some d,.slice ty x (some xl) none none,t,p,af,none⟩::rest) K D e w:=by
 have e1:(0:Int)≤(lo:Int)∧(lo:Int)≤(len:Int):=by omega
 have e2:¬(len=lo):=by omega
 refine r1a Z Z hd ?_ h;simp[execOp,Instr.sliceAt,Instr.sureAddr,Instr.sliceBounds,Instr.sliceBound,asIntOf,run_underlying hu,hz,hx,hl,e1,e2,Addr.add_lit];intro hh;omega
theorem x5c{α:Type}{l:List α}{k:Nat}{x:α}(h:l[k]?=some x):l.set k x=l:=by
 obtain⟨a0,he⟩:=List.getElem?_eq_some_iff.1 h;rw[←he];exact List.set_getElem_self a0
theorem K2a{α:Type}{R0:List Value→α→Prop}{size:Nat}(hL:T7a (fun(_:List Nat) (_:World)=>R0) size){M2 M3:List Nat}{ty el a0 k c m:Nat}{A2:Option Addr}{y:Operand}{z v:Value}{G:Option Nat}{cs:List Value}{l l2:List α}(S:St M w0 w L)(hS:SlZ P ty el size z a0)(hk:L[k]?=some (G,el,cs))(hR:x1a (fun _ _=>R0) size M2 w G cs v l)
 (hx:ev e x=v) (hy:ev e y=.slice A2 m c) (h2:RdS M3 w size R0 (.slice A2 m c) l2) (hll:l.length+l2.length≤1000000) (hd:Nat.ble (d+1) N=true)
 (h:∀v' G' c0 w1,St M w0 w1 (L.set k (G',el,c0))→x1a (fun _ _=>R0) size M2 w1 G' c0 v' (l++l2)→z0a G.toList w w1→(∀g∈G'.toList,g∈G.toList∨w.heap.size≤g)→WL P r N ops rest K D (upd e d v') w1) (hby:a0≤1000:=by decide) :
 WL P r N ops (⟨some d,.call { callee:=.builtin .append,args:=#[x,y],argTypes:=#[ty,ty] },t,p,af,none⟩::rest) K D e w:=by
 obtain⟨hm,-,-⟩:=h2.len;by_cases h0:l2=[]
 ·subst h0;obtain⟨A,c',rfl⟩:=hR.form;have e0:m=0:=by simpa using hm
  subst e0;have f0:l.length≤c':=by
   obtain⟨css,_,_,q3,_⟩:=hR;rcases q3.2 with⟨-,q5,q6⟩|⟨g,g0,-,q5,q6,-⟩
   ·simp only[Value.slice.injEq] at q5;omega
   ·simp only[Value.slice.injEq] at q5;omega
  refine U4b hS hx f0 hy hd ?_;have:=h (.slice A l.length c') G cs w (by rw[x5c hk];exact S) (by rw[List.append_nil];exact hR) (z0a.refl _ _) (fun g hg=>.inl hg);exact this
 ·have b0:0<l2.length:=List.length_pos_iff.2 h0;obtain⟨b,o,hA⟩:∃b o,A2=some ⟨b,o,none⟩:=by
   obtain⟨_,_,_,_,h5⟩:=h2.at;obtain⟨b',o',d0,-⟩:=h5 (by omega);exact⟨b',o',d0⟩
  obtain⟨css,c1,c2,c3⟩:=RdS.all h2 hA b0;subst hA;exact u1b hL S hS hby hk hR hx hy hm c1 c2 c3 hll hd h
end
def T9a(p:h0a)(e:EvD)(c:Nat):List M5a:=match c with
 | 0=>Y1a p e
 | 1=>a3a p e
 | 2=>G6a p e
 | 3=>C5a p e
 | _=>e3a p e
def I1d:Nat→Nat
 | 0=>150
 | 1=>151
 | 2=>152
 | 3=>153
 | _=>154
def a2c(c:Nat):Value:=.iface 217 (.func (.func (I1d c)) #[] #[])
def x0d:List Value:=[a2c 0,a2c 1,a2c 2,a2c 3,a2c 4]
theorem D1d{b j:Nat}(h:b+j<5):x0d[0+b*1+((j:Nat):Int).toNat*1]?=some (a2c (b+j)):=by
 rw[show 0+b*1+((j:Nat):Int).toNat*1=b+j by simp]
 match b+j,h with
 | 0,_=>rfl
 | 1,_=>rfl
 | 2,_=>rfl
 | 3,_=>rfl
 | 4,_=>rfl
theorem I0c(w0:World):N0a prog 123 #[] w0 fun v w'=>v=.agg x0d.toArray∧Below w0.heap.size w0 w':=by
 have S:=St.refl w0;refine a0a func123 Z ntmps123 Z ?_;refine wO0 Z U (j0a S t6c Z Z ?_);intro g0 w0 S0 X0 G0;refine lO0 Z U (h1b Z (fun _=>by simp[Instr.makeInterface,run_underlying Tryz.underlying217]) Z ?_);refine h1b Z (fun _=>by simp[Instr.makeInterface,run_underlying Tryz.underlying217]) Z ?_;refine h1b Z (fun _=>by simp[Instr.makeInterface,run_underlying Tryz.underlying217]) Z ?_;refine h1b Z (fun _=>by simp[Instr.makeInterface,run_underlying Tryz.underlying217]) Z ?_;refine h1b Z (fun _=>by simp[Instr.makeInterface,run_underlying Tryz.underlying217]) Z ?_;refine Q4c (ps:=[(0,a2c 0),(1,a2c 1),(2,a2c 2),(3,a2c 3),(4,a2c 4)]) (cs:=x0d) Z (fun _=>by kernel_rfl) Z ?_
 first|refine e0a (kk:=0) (vs:=[_,_,_,_,_]) S0 E6c Z Z Z Z Z Z Z ?_
 intro c0 a0 b0;dsimp only[n0a,List.set] at a0;exact lR0 Z U (H1a (n:=5) Z B8b Z (a0.cells 0 Z) Z ⟨Z,a0.fin⟩)
theorem S1c(p:h0a)(e:EvD)(c:Nat)(hc:c<5)(h0:c<3→0≤e.at_)(M:List Nat)(w0:World)(ge:Nat)(cs xs ys:List Value)(hE:C4b p e M w0 ge cs xs ys):
 N0a prog 244 #[.func (.func (I1d c)) #[] #[],.pointer (some ⟨ge,0,none⟩)] w0 fun v w'=>y8b M w' v (T9a p e c)∧Below w0.heap.size w0 w':=by
 have hH:Has prog (I1d c):=by
  match c,hc with
  | 0,_=>exact(y1c:Has prog 150)
  | 1,_=>exact(w0c:Has prog 151)
  | 2,_=>exact(c0d:Has prog 152)
  | 3,_=>exact(b8c:Has prog 153)
  | 4,_=>exact(k9c:Has prog 154)
 have a0:∀w,C4b p e M w ge cs xs ys→N0a prog (I1d c) #[.pointer (some ⟨ge,0,none⟩)] w fun v w'=>y8b M w' v (T9a p e c)∧Below w.heap.size w w':=by
  match c,hc,h0 with
  | 0,_,_=>exact fun w h=>u8b p e M w _ _ _ _ h
  | 1,_,_=>exact fun w h=>f2c p e M w _ _ _ _ h
  | 2,_,h0=>exact fun w h=>I7c p e M w _ _ _ _ h (h0 (by omega))
  | 3,_,_=>exact fun w h=>e4c p e M w _ _ _ _ h
  | 4,_,_=>exact fun w h=>D9b p e M w _ _ _ _ h
 have S:=St.refl w0;refine a0a func244 Z ntmps244 Z ?_;refine wO0 Z U (c1b (f:=I1d c) (vs:=[.pointer (some ⟨ge,0,none⟩)]) hH Z Z Z (a0 w0 (hE.keep (S.keep0 M))) ?_);rintro v7 w7 ⟨hr,hb⟩;have S7:=S.later hb;refine q0a Z ?_;refine lR0 Z U (r0a Z ?_);exact⟨hr,S7.fin⟩
def I3c(p:h0a)(e:EvD)(b j:Nat):List M5a:=(List.range j).flatMap fun i=>T9a p e (b+i)
theorem n3c{p:h0a}{e:EvD}{b:Nat}(j:Nat):I3c p e b (j+1)=I3c p e b j++T9a p e (b+j):=by simp[I3c,List.range_succ]
theorem F4c{p:h0a}{e:EvD}{b:Nat}(h:(b=3∧¬0≤e.at_)∨(b=0∧0≤e.at_)):I3c p e b (5-b)=f4a p e:=by
 rcases h with⟨rfl,h⟩|⟨rfl,h⟩
 ·unfold f4a;rw[if_neg h];simp[I3c,T9a,List.range_succ]
 ·unfold f4a;rw[if_pos h];simp[I3c,T9a,List.range_succ]
theorem G2b{p:h0a}{e:EvD}(hp:n1a p)(c:Nat):(T9a p e c).length≤4:=by
 have h1:=z7a (p:=p) (e:=e);have h2:=k5b (p:=p) (e:=e);have h3:=O3a (p:=p) (e:=e) p.threads.length;have h4:=P0a (p:=p) (e:=e) p.locks.length;have h5:=H0a (p:=p) (e:=e) p.threads.length;have h6:=hp.nthreads;have h7:=hp.nlocks;unfold T9a
 split
 ·omega
 ·omega
 ·unfold G6a;split
  ·omega
  ·simp
 ·unfold C5a;split
  ·omega
  ·simp
 ·unfold e3a;split
  ·omega
  ·simp
theorem k4c{p:h0a}{e:EvD}(hp:n1a p)(b j:Nat):(I3c p e b j).length≤j*4:=x7a (fun _=>G2b hp _) j
section
variable {P:Program} {r:Option Nat} {N:Nat} {l:List Oper} {D:List Deferred} {C:World→Prop} {K:List Deferred→Env→World→Prop} {pur:Nat→Bool}
def X9a(e:Env)(d:Option Nat)(v:Value):Env:=match d with|some d=>upd e d v|none=>e
def U1b(N:Nat)(o:Oper):Prop:=∀d,o.dst=some d→d<N
theorem Z4a{a:Act}(o:Oper)(v:Value)(h:U1b a.tmps.size o):Y0a (a.put o.dst v)=X9a (Y0a a) o.dst v:=by
 cases hd:o.dst with
 | none=>rfl
 | some d=>exact m1a v (h d hd)
theorem B4a(a:Act)(o:Oper)(v:Value):(a.put o.dst v).tmps.size=a.tmps.size:=by
 cases o.dst<;>simp[Act.put]
theorem A2a(a:Act)(o:Oper)(v:Value):(a.put o.dst v).defers=a.defers:=by
 cases o.dst<;>simp[Act.put]
theorem X4a{e:Env}{o:Oper}{v:Value}(hN:U1b N o)(hz:∀i,N≤i→e i=undef):∀i,N≤i→X9a e o.dst v i=undef:=by
 cases hd:o.dst with
 | none=>exact hz
 | some d=>exact J1a (hN d hd) hz
theorem M2a{o:Oper}{K1:List Deferred→Env→World→Prop}{e e1:Env}{w:World}(hN:U1b N o)(j0:Op.isSelect o.op=false)(d0:∀c,o.op≠.defer c)(hz:∀i,N≤i→e1 i=undef)
 (b0:∀s∈Oper.looksAt l.toArray o,e s=e1 s) (h:WL P r N l.toArray [o] K1 D e1 w):WL P r N l.toArray [o] (fun D' e' w'=>∃v,e'=X9a e o.dst v∧K1 D' (X9a e1 o.dst v) w') D e w:=by
 unfold WL at *;intro a Q hs hD he hK;obtain⟨a1,i0,g0,e0⟩:=B7a e1 N D hz;have h1:=h a1 (fun ex a' w'=>ex=.normal∧K1 a'.defers (Y0a a') w') i0 g0 e0 (fun a' w' _ hk=>⟨Z,hk⟩);have hw:Region.wanted o (yielded l.toArray a.tmps)=Region.wanted o (yielded l.toArray a1.tmps):=by rw[t1a,t1a,he,e0];exact e1a b0
 have c0:∀(v:Value) (w':World),K1 (a1.put o.dst v).defers (Y0a (a1.put o.dst v)) w'→Q .normal (a.put o.dst v) w':=by
  intro v w' hk;rw[Z4a o v (by rw[i0];exact hN),e0,A2a,g0] at hk;refine hK _ _ (by rw[B4a,hs]) ⟨v,by rw[Z4a o v (by rw[hs];exact hN),he],?_⟩;rw[A2a,hD];exact hk
 simp only[wpListIn] at h1 ⊢;rw[hw]
 split
 ·rename_i n0;simp only[n0,if_true] at h1;refine⟨F0a _ _ _,?_⟩;have h4:=h1.2;have m0:Oper.semAt (fc r).round a.eval o=Oper.semAt (fc r).round a1.eval o:=by
   rw[Oper.semAt_eq _ _ _ d0,Oper.semAt_eq _ _ _ d0,s2a,s2a,he,e0];exact G1a j0 b0
  rw[m0]
  revert h4
  generalize (Oper.semAt (fc r).round a1.eval o).run P w=p0;intro h4;cases p0 with
  | ok x w' =>
    cases x with
    | value v=>simp only[Oper.uponIn] at h4 ⊢;exact c0 v w' h4.2
    | skip=>simp only[Oper.uponIn] at h4 ⊢;exact c0 undef w' h4.2
    | defer dd =>
      simp only[Oper.uponIn] at h4 ⊢;have hk:=h4.2;have o0:Y0a ({ a1 with defers:=dd::a1.defers }:Act)=e1:=e0;have ee:Y0a ({ a with defers:=dd::a.defers }:Act)=e:=he;rw[Z4a (a:={ a1 with defers:=dd::a1.defers }) o undef (by rw[show({ a1 with defers:=dd::a1.defers }:Act).tmps.size=N from i0];exact hN),o0,A2a] at hk;refine hK _ _ (by rw[B4a];exact hs) ⟨undef,by rw[Z4a (a:={ a with defers:=dd::a.defers }) o undef (by rw[show({ a with defers:=dd::a.defers }:Act).tmps.size=N from hs];exact hN),ee],?_⟩;rw[A2a];show K1 (dd::a.defers) _ _;rw[hD,←g0];exact hk
    | enter f args =>
      simp only[Oper.uponIn] at h4 ⊢;exact⟨h4.1,CallsIn.mono h4.2 (fun en q0 hh=>by
       cases en
       ·exact c0 _ _ hh.2
       ·exact absurd hh.1 (by simp)
       ·obtain⟨a0,w0,hh⟩:=hh;exact absurd hh.1 (by simp))⟩
    | row r0 args=>simp only[Oper.uponIn] at h4 ⊢;exact⟨h4.1,RowsIn.mono h4.2 (fun _ _ hh=>c0 _ _ hh.2)⟩
    | round l' f tmps f0 body =>
      simp only[Oper.uponIn] at h4 ⊢;exact⟨h4.1,RoundIn.mono h4.2 (fun en q0 hh=>by
       cases en
       ·exact c0 _ _ hh.2
       ·exact absurd hh.1 (by simp)
       ·obtain⟨a0,w0,hh⟩:=hh;exact absurd hh.1 (by simp))⟩
    | _=>simp only[Oper.uponIn] at h4
  | halt x w'=>cases x<;>simp only[Oper.uponIn] at h4 ⊢<;>exact absurd h4.1 (by simp)
 ·rename_i n0;simp only[n0] at h1;exact⟨F0a _ _ _,c0 undef w h1.2.2⟩
theorem o8b{o:Oper}{K1:List Deferred→Env→World→Prop}{e:Env}{w:World}(hN:U1b N o)(hz:∀i,N≤i→e i=undef)
 (h:WL P r N l.toArray [o] K1 D e w):∃D' v w',K1 D' (X9a e o.dst v) w':=by
 unfold WL at h;obtain⟨a1,e0,f0,d0⟩:=B7a e N D hz;have h1:=h a1 (fun ex a' w'=>ex=.normal∧K1 a'.defers (Y0a a') w') e0 f0 d0 (fun a' w' _ hk=>⟨Z,hk⟩);have b0:∀(v:Value) (w':World),K1 (a1.put o.dst v).defers (Y0a (a1.put o.dst v)) w'→∃D' v w',K1 D' (X9a e o.dst v) w':=by
  intro v w' hk;rw[Z4a o v (by rw[e0];exact hN),d0] at hk;exact⟨_,v,w',hk⟩
 simp only[wpListIn] at h1
 split at h1
 ·have h4:=h1.2
  revert h4
  generalize (Oper.semAt (fc r).round a1.eval o).run P w=g0;intro h4;cases g0 with
  | ok x w' =>
    cases x with
    | value v=>simp only[Oper.uponIn] at h4;exact b0 v w' h4.2
    | skip=>simp only[Oper.uponIn] at h4;exact b0 undef w' h4.2
    | defer dd =>
      simp only[Oper.uponIn] at h4;have hk:=h4.2;rw[Z4a (a:={ a1 with defers:=dd::a1.defers }) o undef (by rw[show({ a1 with defers:=dd::a1.defers }:Act).tmps.size=N from e0];exact hN),show Y0a ({ a1 with defers:=dd::a1.defers }:Act)=e from d0] at hk;exact⟨_,_,_,hk⟩
    | enter f args =>
      simp only[Oper.uponIn] at h4;obtain⟨en,w2,_,hR,_⟩:=h4.2.2 [] (room_wide _);cases en
      ·exact b0 _ _ hR.2
      ·exact absurd hR.1 (by simp)
      ·obtain⟨a0,w0,hh⟩:=hR;exact absurd hh.1 (by simp)
    | row i0 args =>
      simp only[Oper.uponIn] at h4;obtain⟨v,w2,hR,_⟩:=h4.2 default [] (room_wide _);exact b0 _ _ hR.2
    | round l' f tmps c0 body =>
      simp only[Oper.uponIn] at h4;obtain⟨en,w2,hR,_⟩:=h4.2.2 default [] (room_wide _);cases en
      ·exact b0 _ _ hR.2
      ·exact absurd hR.1 (by simp)
      ·obtain⟨a0,w0,hh⟩:=hR;exact absurd hh.1 (by simp)
    | _=>simp only[Oper.uponIn] at h4
  | halt x w'=>cases x<;>simp only[Oper.uponIn] at h4<;>exact absurd h4.1 (by simp)
 ·exact b0 undef w h1.2.2
def WN(P:Program)(r:Option Nat)(N:Nat)(l:List Oper)(C:World→Prop)(pur:Nat→Bool)(K:List Deferred→Env→World→Prop)(D:List Deferred):List Nat→Env→World→Prop
 | [],e,w=>C w∧K D e w
 | i::rest,e,w=>C w∧∃o,l[i]?=some o∧U1b N o ∧
  ((pur i=true∧∃d v,o.dst=some d∧PV P l C o e v∧WN P r N l C pur K D rest (upd e d v) w) ∨
   (pur i=false∧WL P r N l.toArray [o] (fun D' e' w'=>D'=D∧WN P r N l C pur K D rest e' w') D e w))
theorem WN.inC{a0:List Nat}{e:Env}{w:World}(h:WN P r N l C pur K D a0 e w):C w:=by cases a0<;>exact h.1
def N4a(l:List Oper)(pur:Nat→Bool)(j i:Nat):Bool :=
 match l[j]?,l[i]? with
 | some p,some q=>(pur i||pur j)&&(match p.dst,q.dst with
   | some c,some d=>!(c==d)&&!(Oper.looksAt l.toArray p).contains d&&!(Oper.looksAt l.toArray q).contains c
   | some c,none=>pur j&&!(Oper.looksAt l.toArray q).contains c
   | none,some d=>pur i&&!(Oper.looksAt l.toArray p).contains d
   | _,_=>false)
 | _,_=>false
structure E3d (l:List Oper) (pur:Nat→Bool) (j i:Nat) (o1 o2:Oper):Prop where
 pur:pur i=true∨pur j=true
 dst:∀c d,o1.dst=some c→o2.dst=some d→c≠d
 p:∀d,o2.dst=some d→d∉Oper.looksAt l.toArray o1
 q:∀c,o1.dst=some c→c∉Oper.looksAt l.toArray o2
theorem f5a{j i:Nat}{p q:Oper}(h:N4a l pur j i=true)(hj:l[j]?=some p)(hi:l[i]?=some q):E3d l pur j i p q:=by
 unfold N4a at h;simp only[hj,hi,Bool.and_eq_true,Bool.or_eq_true] at h;obtain⟨h1,h2⟩:=h;cases hc:p.dst with
 | none =>
   cases hd:q.dst with
   | none=>simp[hc,hd] at h2
   | some d =>
     simp only[hc,hd,Bool.and_eq_true,Bool.not_eq_true',List.contains_eq_mem,decide_eq_false_iff_not] at h2;exact⟨h1,fun c d h=>(by rw[hc] at h;cases h),fun x hx=>(by rw[hd] at hx;cases hx;exact h2.2),fun c h=>(by rw[hc] at h;cases h)⟩
 | some c =>
   cases hd:q.dst with
   | none =>
     simp only[hc,hd,Bool.and_eq_true,Bool.not_eq_true',List.contains_eq_mem,decide_eq_false_iff_not] at h2;exact⟨h1,fun c d _ h=>(by rw[hd] at h;cases h),fun d h=>(by rw[hd] at h;cases h),fun x hx=>(by rw[hc] at hx;cases hx;exact h2.2)⟩
   | some d =>
     simp only[hc,hd,Bool.and_eq_true,Bool.not_eq_true',beq_eq_false_iff_ne,List.contains_eq_mem,decide_eq_false_iff_not] at h2;exact⟨h1,fun x y hx hy=>(by rw[hc] at hx;rw[hd] at hy;cases hx;cases hy;exact h2.1.1),fun x hx=>(by rw[hd] at hx;cases hx;exact h2.1.2),fun x hx=>(by rw[hc] at hx;cases hx;exact h2.2)⟩
theorem Y4a{e:Env}{o:Oper}{u:Value}{s:Nat}{X:List Nat}(hc:∀c,o.dst=some c→c∉X)(hs:s∈X):X9a e o.dst u s=e s:=by
 cases hd:o.dst with
 | none=>rfl
 | some c=>exact I1a (hc c hd) hs
theorem f9a(e:Env){p q:Oper}(u v:Value)(h:∀c d,p.dst=some c→q.dst=some d→c≠d):X9a (X9a e p.dst u) q.dst v=X9a (X9a e q.dst v) p.dst u:=by
 cases hc:p.dst with
 | none=>rfl
 | some c =>
   cases hd:q.dst with
   | none=>rfl
   | some d=>exact Q2a e u v (h c d hc hd)
theorem WN.first(a0:X3a l=true){i:Nat}{f0:List Nat}:∀(pre:List Nat) (e:Env) (w:World),(∀j∈pre,N4a l pur j i=true)→(∀i,N≤i→e i=undef)→WN P r N l C pur K D (pre++i::f0) e w →
 ∃o,l[i]?=some o∧U1b N o ∧
  ((pur i=true∧∃d v,o.dst=some d∧PV P l C o e v∧WN P r N l C pur K D (pre++f0) (upd e d v) w) ∨
   (pur i=false∧WL P r N l.toArray [o] (fun D' e' w'=>D'=D∧∃v,e'=X9a e o.dst v∧WN P r N l C pur K D (pre++f0) e' w') D e w)):=by
 intro pre
 induction pre with
 | nil =>
   intro e w _ hz h;obtain⟨hC,o,ho,hN,h⟩:=h;refine⟨o,ho,hN,?_⟩;rcases h with h|⟨hp,h⟩
   ·exact .inl h
   ·refine .inr ⟨hp,?_⟩;have h2:=M2a (e:=e) (e1:=e) hN (C0a a0 ho).1 (C0a a0 ho).2 hz (fun _ _=>rfl) h;unfold WL at *;exact fun a Q hs hD he hK=>h2 a Q hs hD he (fun a' w' j0 ⟨v,h1,h3,h4⟩=>hK a' w' j0 ⟨h3,v,h1,by rw[h1];exact h4⟩)
 | cons q pre ih =>
   intro e w g0 hz h;obtain⟨hC,p,hp,d0,h⟩:=h;have hq:=g0 q (by simp);have b0:∀j∈pre,N4a l pur j i=true:=fun j hj=>g0 j (by simp[hj]);rcases h with⟨i0,c,u,hc,hu,h⟩|⟨i0,h⟩
   ·obtain⟨o,ho,hN,h2⟩:=ih (upd e c u) w b0 (J1a (d0 c hc) hz) h;have hI:=f5a hq hp ho;refine⟨o,ho,hN,?_⟩;rcases h2 with⟨e0,d,v,hd,hv,h2⟩|⟨e0,h2⟩
    ·refine .inl ⟨e0,d,v,hd,hv.congr (C0a a0 ho).1 (fun s hs=>I1a (hI.q c hc) hs),hC,p,hp,d0,.inl ⟨i0,c,u,hc,hu.congr (C0a a0 hp).1 (fun s hs=>(I1a (hI.p d hd) hs).symm),?_⟩⟩;rw[←Q2a _ _ _ (hI.dst c d hc hd)];exact h2
    ·refine .inr ⟨e0,?_⟩;have h3:=M2a (e:=e) (e1:=upd e c u) hN (C0a a0 ho).1 (C0a a0 ho).2 (J1a (d0 c hc) hz) (fun s hs=>(I1a (hI.q c hc) hs).symm) h2;unfold WL at *;refine fun a Q hs hD he hK=>h3 a Q hs hD he (fun a' w' j0 hh=>hK a' w' j0 ?_);obtain⟨v,h1,h4,_,h5,h6⟩:=hh;refine⟨h4,v,h1,?_⟩;rw[h1];refine⟨h6.inC,p,hp,d0,.inl ⟨i0,c,u,hc,hu.congr (C0a a0 hp).1 (fun s hs=>(Y4a hI.p hs).symm),?_⟩⟩;have e1:X9a (upd e c u) o.dst v=upd (X9a e o.dst v) c u:=by
      have:=f9a e (p:=p) (q:=o) u v hI.dst;rw[hc] at this;exact this
     rw[←e1];exact h6
   ·have h0:=M2a (e:=e) (e1:=e) d0 (C0a a0 hp).1 (C0a a0 hp).2 hz (fun _ _=>rfl) h;obtain⟨_,u1,w1,_,q0,_,h1⟩:=o8b d0 hz h0;rw[←q0] at h1;obtain⟨o,ho,hN,h2⟩:=ih (X9a e p.dst u1) w1 b0 (X4a d0 hz) h1;have hI:=f5a hq hp ho;have e0:pur i=true:=by
     rcases hI.pur with h|h
     ·exact h
     ·rw[i0] at h;cases h
    rcases h2 with⟨_,d,v0,hd,r0,_⟩|⟨c0,_⟩
    ·have m0:PV P l C o e v0:=r0.congr (C0a a0 ho).1 (fun s hs=>Y4a hI.q hs);refine⟨o,ho,hN,.inl ⟨e0,d,v0,hd,m0,hC,p,hp,d0,.inr ⟨i0,?_⟩⟩⟩;have h3:=M2a (e:=upd e d v0) (e1:=e) d0 (C0a a0 hp).1 (C0a a0 hp).2 hz (fun s hs=>I1a (hI.p d hd) hs) h;unfold WL at *;refine fun a Q hs hD he hK=>h3 a Q hs hD he (fun a' w' j0 hh=>hK a' w' j0 ?_);obtain⟨u,hu,n0,h4⟩:=hh;refine⟨n0,?_⟩;obtain⟨o',p0,_,h5⟩:=ih (X9a e p.dst u) w' b0 (X4a d0 hz) h4;obtain rfl:o'=o:=Option.some.inj (p0.symm.trans ho);rcases h5 with⟨_,d',v,o0,hv,h5⟩|⟨c0,_⟩
     ·obtain rfl:d'=d:=Option.some.inj (o0.symm.trans hd);have hv':PV P l C o' e v:=hv.congr (C0a a0 ho).1 (fun s hs=>Y4a hI.q hs);obtain rfl:v=v0:=PV.uniq hC hv' m0;have e1:upd (X9a e p.dst u) d' v=X9a (upd e d' v) p.dst u:=by
       have:=f9a e (p:=p) (q:=o') u v hI.dst;rw[hd] at this;exact this
      rw[hu,←e1];exact h5
     ·rw[e0] at c0;cases c0
    ·rw[e0] at c0;cases c0
def L7b(l:List Oper)(pur:Nat→Bool)(x y:Nat):List Nat→List Nat→Bool
 | _,[]=>true
 | acc,i::rest=>(acc.all fun j=>(y4a l i).contains j||N4a l pur j i||(j==x&&i==y))&&L7b l pur x y (acc++[i]) rest
theorem x2b{x y:Nat}:∀(ix b0:List Nat),L7b l pur x y b0 ix=true→∀(pre:List Nat) (i:Nat) (a0:List Nat),ix=pre++i::a0→∀j∈b0++pre,j∈y4a l i∨N4a l pur j i=true∨(j=x∧i=y)
 | [],_,_,pre,i,a0,h=>by simp at h
 | k::ix,b0,h,pre,i,a0,he=>by
   simp only[L7b,Bool.and_eq_true] at h;cases pre with
   | nil =>
     simp at he;obtain⟨rfl,-⟩:=he;intro j hj;rw[List.append_nil] at hj;have:=List.all_eq_true.1 h.1 j hj;simp only[Bool.or_eq_true,List.contains_eq_mem,decide_eq_true_eq,Bool.and_eq_true,beq_iff_eq] at this;rcases this with(h|h)|h
     ·exact .inl h
     ·exact .inr (.inl h)
     ·exact .inr (.inr h)
   | cons q pre =>
     simp at he;obtain⟨rfl,he⟩:=he;intro j hj;exact x2b ix (b0++[k]) h.2 pre i a0 he j (by simpa using hj)
def F6a(ix:List Nat)(f:Nat→Bool):List Nat:=ix.filter fun i=>!f i
theorem K9b{ix:List Nat}(b0:ix.Nodup)(f:Nat→Bool){i:Nat}(hi:i∈ix)(hf:f i=false):∃pre a0 P Q,ix=P++i::Q∧F6a ix f=pre++i::a0∧F6a ix (fun j=>f j||j==i)=pre++a0∧∀j∈pre,j∈P∧f j=false:=by
 obtain⟨P,Q,rfl⟩:=List.append_of_mem hi;rw[List.nodup_append] at b0;obtain⟨_,h2,h3⟩:=b0;rw[List.nodup_cons] at h2;refine⟨P.filter fun j=>!f j,Q.filter fun j=>!f j,P,Q,Z,?_,?_,?_⟩
 ·unfold F6a;rw[List.filter_append,List.filter_cons];simp[hf]
 ·unfold F6a;rw[List.filter_append,List.filter_cons];simp only[beq_self_eq_true,Bool.or_true,Bool.not_true,Bool.false_eq_true,if_false]
  congr 1
  ·apply List.filter_congr;intro j hj;have:(j==i)=false:=by simp;exact fun e=>h3 j hj i (by simp) e
   simp[this]
  ·apply List.filter_congr;intro j hj;have:(j==i)=false:=by simp;exact fun e=>h2.1 (e▸hj)
   simp[this]
 ·intro j hj;rw[List.mem_filter] at hj;exact⟨hj.1,by simpa using hj.2⟩
def j8b:List Nat→Bool
 | []=>true
 | x::l=>!l.contains x&&j8b l
theorem t8a:∀{l:List Nat},j8b l=true→l.Nodup
 | [],_=>List.nodup_nil
 | x::l,h=>by
   simp only[j8b,Bool.and_eq_true,Bool.not_eq_true',List.contains_eq_mem,decide_eq_false_iff_not] at h;exact List.nodup_cons.2 ⟨h.1,t8a h.2⟩
def c0c(n:Nat)(ix:List Nat):Bool:=j8b ix&&(List.range n).all (fun i=>ix.contains i)&&ix.all (fun i=>decide (i<n))
def K9c(l:List Oper)(pur:Nat→Bool)(a c:Nat)(ixA ixB:List Nat):Bool :=
 X3a l&&((List.range l.length).all fun i=>(q1a l i).all fun j=>decide (j<i))&&c0c l.length ixA&&c0c l.length ixB&&L7b l pur a c [] ixA&&L7b l pur c a [] ixB &&
 ((List.range l.length).all fun i=>pur i||i==a||i==c||((y4a l i).contains a&&(y4a l i).contains c))&&!(a==c)&&!pur a&&!pur c
theorem WN.step{ix:List Nat}{x y:Nat}(f0:X3a l=true)(c0:ix.Nodup)(e0:L7b l pur x y [] ix=true){f:Nat→Bool}(a0:∀i,f i=true→∀j∈q1a l i,f j=true){i:Nat}{o:Oper}(hi:i∈ix)(ho:l[i]?=some o)(b0:f i=false)
 (g0:∀j∈q1a l i,f j=true) (j0:i=y→f x=true) {e:Env} {w:World} (hz:∀i,N≤i→e i=undef) (h:WN P r N l C pur K D (F6a ix f) e w) :
 U1b N o∧((pur i=true∧∃d v,o.dst=some d∧PV P l C o e v∧WN P r N l C pur K D (F6a ix (fun j=>f j||j==i)) (upd e d v) w) ∨
  (pur i=false∧WL P r N l.toArray [o] (fun D' e' w'=>D'=D∧∃v,e'=X9a e o.dst v∧WN P r N l C pur K D (F6a ix (fun j=>f j||j==i)) e' w') D e w)):=by
 obtain⟨pre,_,A,B,h1,h2,h3,h4⟩:=K9b c0 f hi b0;rw[h2] at h;have i0:∀j∈y4a l i,f j=true:=i3a a0 _ _ g0;obtain⟨o',d0,hN,h5⟩:=WN.first f0 pre e w (fun j hj=>by
  obtain⟨h6,h7⟩:=h4 j hj;rcases x2b ix [] e0 A i B h1 j (by simpa using h6) with h|h|⟨h,h'⟩
  ·have:=i0 j h;rw[h7] at this;cases this
  ·exact h
  ·subst h;have:=j0 h';rw[h7] at this;cases this) hz h
 obtain rfl:o'=o:=Option.some.inj (d0.symm.trans ho);rw[h3];exact⟨hN,h5⟩
theorem b2d{id:Nat}{n t:List Deferred→Env→World→Prop}{b:Nat→List Deferred→Env→World→Prop}{e:Env}{w:World}(hm:P.follows .mixedOrders=true)(pur:Nat→Bool)(a c:Nat)(a0 b0:List Nat)
 (hok:K9c l pur a c a0 b0=true) (C:World→Prop) (hA:WN P r N l C pur n D a0 e w.drew) (hB:WN P r N l C pur n D b0 e w.drew):W P r N (.region id l.toArray true) ⟨n,b,t⟩ D e w:=by
 unfold K9c c0c at hok;simp only[Bool.and_eq_true,Bool.not_eq_true',beq_eq_false_iff_ne] at hok;obtain⟨⟨⟨⟨⟨⟨⟨⟨⟨t0,G0⟩,⟨d0,K0⟩,H0⟩,⟨e0,L0⟩,I0⟩,C0⟩,D0⟩,N0⟩,P0⟩,_⟩,_⟩:=hok;have d0:=t8a d0;have e0:=t8a e0;have E0:∀i,i<l.length→i∈a0:=fun i hi=>by simpa using List.all_eq_true.1 K0 i (List.mem_range.2 hi)
 have inB:∀i,i<l.length→i∈b0:=fun i hi=>by simpa using List.all_eq_true.1 L0 i (List.mem_range.2 hi)
 have hz:(∀i,N≤i→e i=undef)→W P r N (.region id l.toArray true) ⟨n,b,t⟩ D e w:=by
  intro hz;refine m6b hm G0 (fun f e w=>(∀i,N≤i→e i=undef)∧(∀i,f i=true→∀j∈q1a l i,f j=true) ∧
   ((f a=false∧f c=false∧WN P r N l C pur n D (F6a a0 f) e w∧WN P r N l C pur n D (F6a b0 f) e w)∨(f a=true∧WN P r N l C pur n D (F6a a0 f) e w)∨(f c=true∧WN P r N l C pur n D (F6a b0 f) e w))) ⟨hz,by simp,.inl ⟨Z,Z,?_,?_⟩⟩ ?_ ?_
  ·have:F6a a0 (fun _=>false)=a0:=by unfold F6a;simp
   rw[this];exact hA
  ·have:F6a b0 (fun _=>false)=b0:=by unfold F6a;simp
   rw[this];exact hB
  ·rintro f e w i o ⟨hz,j0,hM⟩ ho B0 u0;have f0:i<l.length:=(List.getElem?_eq_some_iff.1 ho).1;have c0:∀k,(f k||k==i)=true→∀j∈q1a l k,(f j||j==i)=true:=by
    intro k hk j hj;simp only[Bool.or_eq_true,beq_iff_eq] at hk ⊢;rcases hk with hk|rfl
    ·exact .inl (j0 k hk j hj)
    ·exact .inl (u0 j hj)
   have S0:∀j∈y4a l i,f j=true:=i3a j0 _ _ u0;have one:∀(ix:List Nat) (x y:Nat) (J:(Nat→Bool)→Env→World→Prop),ix.Nodup→i∈ix→L7b l pur x y [] ix=true→(i=y→f x=true)→WN P r N l C pur n D (F6a ix f) e w →
    (∀e' w',WN P r N l C pur n D (F6a ix (fun j=>f j||j==i)) e' w'→J (fun j=>f j||j==i) e' w') →
    WL P r N l.toArray [o] (fun D' e' w'=>D'=D∧(∀i,N≤i→e' i=undef)∧(∀k,(f k||k==i)=true→∀j∈q1a l k,(f j||j==i)=true)∧J (fun j=>f j||j==i) e' w') D e w:=by
    intro ix x y J O0 hi Q0 T0 hw hJ;obtain⟨hN,h5⟩:=WN.step t0 O0 Q0 j0 hi ho B0 u0 T0 hz hw;have v0:=hw.inC;rcases h5 with⟨A0,d,v,hd,hv,h5⟩|⟨A0,h5⟩
    ·rcases hv with⟨i0,hv⟩|⟨i0,rfl⟩
     ·unfold WL;intro a Q hs hD he hK;simp only[wpListIn];have g0:Region.wanted o (yielded l.toArray a.tmps)=true:=by rw[t1a,he];exact i0
      simp only[g0,if_true];refine⟨F0a _ _ _,?_⟩;rw[Oper.semAt_eq _ _ _ (C0a t0 ho).2,s2a,he,hv w v0,Oper.uponIn_value];refine hK _ _ (by rw[B4a,hs]) ⟨by rw[A2a,hD],?_⟩;rw[hd,m1a v (by rw[hs];exact hN d hd),he];exact⟨J1a (hN d hd) hz,c0,hJ _ _ h5⟩
     ·unfold WL;intro a Q hs hD he hK;simp only[wpListIn];have g0:Region.wanted o (yielded l.toArray a.tmps)=false:=by rw[t1a,he];exact i0
      simp only[g0];refine⟨F0a _ _ _,?_⟩;refine hK _ _ (by rw[B4a,hs]) ⟨by rw[A2a,hD],?_⟩;rw[hd,m1a undef (by rw[hs];exact hN d hd),he];exact⟨J1a (hN d hd) hz,c0,hJ _ _ h5⟩
    ·unfold WL at *;refine fun a Q hs hD he hK=>h5 a Q hs hD he (fun a' w' R0 hh=>hK a' w' R0 ?_);obtain⟨F0,v,hv,h6⟩:=hh;exact⟨F0,by rw[hv];exact X4a hN hz,c0,hJ _ _ h6⟩
   rcases hM with⟨p0,y0,n0,x0⟩|⟨p0,n0⟩|⟨y0,x0⟩
   ·by_cases m0:i=a
    ·exact one a0 a c (fun f e w=>(f a=false∧f c=false∧WN P r N l C pur n D (F6a a0 f) e w∧WN P r N l C pur n D (F6a b0 f) e w)∨(f a=true∧WN P r N l C pur n D (F6a a0 f) e w)∨(f c=true∧WN P r N l C pur n D (F6a b0 f) e w)) d0 (E0 i f0) C0 (fun h=>absurd (m0.symm.trans h) P0) n0 (fun e' w' h=>.inr (.inl ⟨by simp[m0],h⟩))
    by_cases z0:i=c
    ·exact one b0 c a (fun f e w=>(f a=false∧f c=false∧WN P r N l C pur n D (F6a a0 f) e w∧WN P r N l C pur n D (F6a b0 f) e w)∨(f a=true∧WN P r N l C pur n D (F6a a0 f) e w)∨(f c=true∧WN P r N l C pur n D (F6a b0 f) e w)) e0 (inB i f0) D0 (fun h=>absurd h m0) x0 (fun e' w' h=>.inr (.inr ⟨by simp[z0],h⟩))
    have A0:pur i=true:=by
     have:=List.all_eq_true.1 N0 i (List.mem_range.2 f0);simp only[Bool.or_eq_true,beq_iff_eq,m0,z0,or_false,Bool.and_eq_true,List.contains_eq_mem,decide_eq_true_eq] at this;rcases this with h|h
     ·exact h
     ·have:=S0 a h.1;rw[p0] at this;cases this
    obtain⟨hN,h5⟩:=WN.step t0 d0 C0 j0 (E0 i f0) ho B0 u0 (fun h=>absurd h z0) hz n0;obtain⟨-,h6⟩:=WN.step t0 e0 D0 j0 (inB i f0) ho B0 u0 (fun h=>absurd h m0) hz x0;have v0:=n0.inC;rcases h5 with⟨_,d,v,hd,hv,h5⟩|⟨s0,_⟩
    rotate_left
    ·rw[A0] at s0;cases s0
    rcases h6 with⟨_,d',v',J0,hv',h6⟩|⟨s0,_⟩
    rotate_left
    ·rw[A0] at s0;cases s0
    obtain rfl:d'=d:=Option.some.inj (J0.symm.trans hd);obtain rfl:v'=v:=PV.uniq v0 hv' hv;have q0:(f a||a==i)=false:=by simp[p0];exact fun e=>m0 e.symm
    have r0:(f c||c==i)=false:=by simp[y0];exact fun e=>z0 e.symm
    rcases hv with⟨i0,hv⟩|⟨i0,rfl⟩
    ·unfold WL;intro a Q hs hD he hK;simp only[wpListIn];have g0:Region.wanted o (yielded l.toArray a.tmps)=true:=by rw[t1a,he];exact i0
     simp only[g0,if_true];refine⟨F0a _ _ _,?_⟩;rw[Oper.semAt_eq _ _ _ (C0a t0 ho).2,s2a,he,hv w v0,Oper.uponIn_value];refine hK _ _ (by rw[B4a,hs]) ⟨by rw[A2a,hD],?_⟩;rw[hd,m1a v' (by rw[hs];exact hN d' hd),he];exact⟨J1a (hN d' hd) hz,c0,.inl ⟨q0,r0,h5,h6⟩⟩
    ·unfold WL;intro a Q hs hD he hK;simp only[wpListIn];have g0:Region.wanted o (yielded l.toArray a.tmps)=false:=by rw[t1a,he];exact i0
     simp only[g0];refine⟨F0a _ _ _,?_⟩;refine hK _ _ (by rw[B4a,hs]) ⟨by rw[A2a,hD],?_⟩;rw[hd,m1a undef (by rw[hs];exact hN d' hd),he];exact⟨J1a (hN d' hd) hz,c0,.inl ⟨q0,r0,h5,h6⟩⟩
   ·exact one a0 a c (fun f e w=>(f a=false∧f c=false∧WN P r N l C pur n D (F6a a0 f) e w∧WN P r N l C pur n D (F6a b0 f) e w)∨(f a=true∧WN P r N l C pur n D (F6a a0 f) e w)∨(f c=true∧WN P r N l C pur n D (F6a b0 f) e w)) d0 (E0 i f0) C0 (fun _=>p0) n0 (fun e' w' h=>.inr (.inl ⟨by simp[p0],h⟩))
   ·exact one b0 c a (fun f e w=>(f a=false∧f c=false∧WN P r N l C pur n D (F6a a0 f) e w∧WN P r N l C pur n D (F6a b0 f) e w)∨(f a=true∧WN P r N l C pur n D (F6a a0 f) e w)∨(f c=true∧WN P r N l C pur n D (F6a b0 f) e w)) e0 (inB i f0) D0 (fun _=>y0) x0 (fun e' w' h=>.inr (.inr ⟨by simp[y0],h⟩))
  ·rintro f e w ⟨hz,j0,hM⟩ o0;have rA:F6a a0 f=[]:=by
    unfold F6a;rw[List.filter_eq_nil_iff];intro j hj;simp[o0 j (by simpa using List.all_eq_true.1 H0 j hj)]
   have rB:F6a b0 f=[]:=by
    unfold F6a;rw[List.filter_eq_nil_iff];intro j hj;simp[o0 j (by simpa using List.all_eq_true.1 I0 j hj)]
   rw[rA,rB] at hM;rcases hM with⟨_,_,h,_⟩|⟨_,h⟩|⟨_,h⟩
   ·exact h.2
   ·exact h.2
   ·exact h.2
 unfold W at *;intro a hs hd he;refine hz (fun i hi=>?_) a hs hd he;rw[←he];simp only[Y0a,Array.getD_eq_getD_getElem?];rw[Array.getElem?_eq_none (by omega)];rfl
theorem a3d{id:Nat}{n t:List Deferred→Env→World→Prop}{b:Nat→List Deferred→Env→World→Prop}{e:Env}{w:World}(hm:P.follows .mixedOrders=true)(pur:Nat→Bool)(a c:Nat)(ix:List Nat)
 (hok:K9c l pur a c ix ix=true) (C:World→Prop) (h:WN P r N l C pur n D ix e w.drew):W P r N (.region id l.toArray true) ⟨n,b,t⟩ D e w:=b2d hm pur a c ix ix hok C h h
variable {e:Env} {w:World}
theorem X0c(hC:C w)(h:K D e w):WN P r N l C pur K D [] e w:=⟨hC,h⟩
theorem E6a{i:Nat}{rest:List Nat}{o:Oper}(hC:C w)(ho:l[i]?=some o)(hp:pur i=true)(hv:V0c o.op=true)(h:QL P N l.toArray C [o] (fun e'=>WN P r N l C pur K D rest e' w) e):WN P r N l C pur K D (i::rest) e w:=by
 unfold QL at h;obtain⟨pa,hl,hq,hk⟩:=h;obtain⟨d,v,h1,h2,h3,h4⟩:=hq 0 o Z;obtain rfl:pa=[(d,v)]:=by
  match pa,hl,h1 with
  | [x],_,h1=>simpa using h1
 refine⟨hC,o,ho,fun d' a0=>by rw[h2] at a0;cases a0;exact h3,.inl ⟨hp,d,v,h2,?_,hk⟩⟩;rcases h4 with⟨h5,h6⟩|h5
 ·refine .inl ⟨h5,fun w hw=>?_⟩;rcases h6 w hw with h7|⟨f,args,h7,_⟩
  ·exact h7
  ·obtain⟨_,hv'⟩:=e6a hv h7;cases hv'
 ·exact .inr h5
theorem V5c{i:Nat}{rest:List Nat}{o:Oper}(hC:C w)(ho:l[i]?=some o)(hp:pur i=false)(hN:(o.dst.all fun d=>Nat.ble (d+1) N)=true)
 (h:WL P r N l.toArray [o] (fun D' e' w'=>D'=D∧WN P r N l C pur K D rest e' w') D e w):WN P r N l C pur K D (i::rest) e w :=
 ⟨hC,o,ho,fun d hd=>by rw[hd] at hN;exact Nat.le_of_ble_eq_true (by simpa using hN),.inr ⟨hp,h⟩⟩
end
theorem J7b{M:List Nat}{w:World}:D0a M w noC [.slice none 0 0,.slice none 0 0,.slice none 0 0]:=⟨_,_,_,Z,a2a,a2a,a2a⟩
theorem u5b{run:List c0a}{l:List G0a}{d:G0a}(h:l[0]?=some d):h3b run l 0=⟨-1,k2c,noC,d⟩:=by unfold h3b;rw[if_pos rfl,getD_some h]
theorem F8b{run:List c0a}{l:List G0a}{k:Nat}{x:c0a}{c d:G0a}(hx:run[((k:Int)-1).toNat]?=some x)(hc:l[((k:Int)-1).toNat]?=some c)(hd:l[k]?=some d)(h0:0<k:=by omega):h3b run l k=⟨(k:Int)-1,x,c,d⟩:=by
 have e:((k:Int)-1).toNat=k-1:=by omega
 rw[e] at hx hc;unfold h3b;rw[if_neg (by omega),getD_some hx,getD_some hc,getD_some hd]
def evL(cs:List Value)(e:EvD)(xs ys:List Value):List Value:=cs++(.int .i64 e.at_::.int .i64 e.x.thread::.int .i64 e.x.step::.int .i64 e.x.cell::(xs++ys))
theorem P8b(p:h0a)(run:List c0a)(l:List G0a)(hok:∀i,i<l.length→J0b p (h3b run l i))(Q1:l.length≤run.length+1)(M:List Nat)(w0:World)(cs:List Value)(vr vl:Value)(hI:InP p M w0 cs)(m0:w5a M w0 vr run)(hL:x2d M w0 vl l)(hl:l.length≤1000:=by omega):
 N0a prog 87 #[.agg cs.toArray,vr,vl] w0 fun v w'=>y8b M w' v (L4a p run l l.length)∧Below w0.heap.size w0 w':=by
 obtain⟨Ac,nc,cc,Am,nm,cm,Al,nl,cl,At,nt,ct,rfl,_⟩:=hI.rd.open_;obtain⟨Ar,nr,cr,rfl⟩:=m0.form;obtain⟨_,-,_⟩:=m0.len;obtain⟨Ax,nx,cx,rfl⟩:=hL.form;obtain⟨_,-,_⟩:=hL.len;have hp:=hI.ok;have S:=(St.refl w0).nilEnt 59;refine a0a func87 Z ntmps87 Z ?_;refine wO0 Z U (m0a S Z ?_);intro g3 w3 S3 X3 G3;refine lO0 Z U (i0a S3 M8c Z Z (I0c _) ?_);intro V1 m1 K1;refine j0a m1 t6c Z Z ?_;intro g8 w8 S8 X8 G8
 first|refine e0a (kk:=0) (vs:=[_,_,_,_,_]) S8 E6c Z Z Z Z Z Z Z ?_
 intro D1 t0 p1;dsimp only[n0a,List.set] at t0;refine lC0 Z U (wL (fun μk D ε w=>D=[]∧∃k:Nat,∃G:Option Nat,∃A0:List Value,∃v:Value,(k+μk=(l.length))∧(x1a (fun _ _=>T4a) 5 [] w0 G A0 v (L4a p run l k))∧St [] w0 w [(some g8,181,x0d),(some g3,27,[.slice Ac nc cc,.slice Am nm cm,.slice Al nl cl,.slice At nt ct]),(G,59,A0)]∧Sl ε [(1,.slice Ar nr cr),(2,.slice Ax nx cx),(3,.pointer (some ⟨g3,0,none⟩)),(7,v),(8,.pointer (some ⟨g8,0,none⟩)),(16,.slice Ax nx cx),(17,.int .i64 nx),(18,.int .i64 k)]) (μ:=(l.length)) ⟨Z,0,none,[],.slice none 0 0,by omega,x1a.nil,t0,Z⟩ ?_);rintro μk D ε w ⟨rfl,k,G,A0,v,_,D0,S,eZ⟩;refine wK eZ (wB0 Z U (fun t1=>?_) fun t1=>?_)
 ·obtain⟨d,r1,C1,_,f1,Q0,_,W0,T0,n0⟩:=RdS.get (hL) (k) (by omega);obtain⟨s0,G0,z0,q0,E0,x0,r0,F0,y0,rfl,_⟩:=D0a.open_ n0;refine lO (S.k.a T0) [.x r1 C1,.v 0] Z ⟨⟨Z,W0⟩,⟨Q0,by omega⟩,U⟩ (j0a S r4a Z Z ?_);intro p0 U1 j1 J1 G1;refine lO0 Z U ?_
  first|refine e0a (kk:=0) (vs:=[_,_,_]) j1 o2a Z Z Z Z Z Z Z ?_
  intro E1 j0 q1;dsimp only[n0a,List.set] at j0;refine lO j0.k [.w 2,.w 0] Z ⟨⟨Z,Z⟩,by omega,⟨Z,Z⟩,U⟩ (d1a G8c (vs:=[(0,.agg _),(1,.int .i64 _),(4,.agg _)]) (cs:=[_,_,_,_,_,_,_,_,_,_,_,_,_,_]) Z Z Z Z ?_);refine m0a j0 Z ?_;intro e0 H0 L0 M1 H1;refine lCn 8 L0.k [] Z U (wX (fun D ε w=>D=[]∧∃b:Nat,∃e0:Nat,∃p0:Nat,∃d1:List Value,∃xs:List Value,∃ys:List Value,∃e:EvD,(h3b run l k=e)∧((b=3∧¬0≤e.at_)∨(b=0∧0≤e.at_))∧(D0a M w0 e.c xs)∧(D0a M w0 e.d ys)∧St [] w0 w [(some e0,185,evL [.slice Ac nc cc,.slice Am nm cm,.slice Al nl cl,.slice At nt ct] e xs ys),(some p0,38,d1),(some g8,181,x0d),(some g3,27,[.slice Ac nc cc,.slice Am nm cm,.slice Al nl cl,.slice At nt ct]),(G,59,A0)]∧Sl ε [(1,.slice Ar nr cr),(2,.slice Ax nx cx),(3,.pointer (some ⟨g3,0,none⟩)),(7,v),(8,.pointer (some ⟨g8,0,none⟩)),(11,.pointer (some ⟨e0,0,none⟩)),(12,.int .i64 b),(16,.slice Ax nx cx),(17,.int .i64 nx),(18,.int .i64 k)]) ?_ ?_)
  ·refine wB0 Z U (fun u1=>?_) fun u1=>?_
   ·refine lC0 Z U (a3d b0a (fun i=>[0,1,2,3,4,5,6,7,8,9,10,11,12,13,15,16].contains i) 14 17 [0,1,2,3,4,5,6,7,8,9,10,11,12,13,14,15,16,17] (by kernel_rfl) (fun w1=>St [] w0 w1 []∧z0a [e0] H0 w1) ?_);have c0:=L0.drew;have c1:z0a [] H0 H0.drew:=j2a _ _;generalize H0.drew=Y1 at c0 c1 ⊢;have d0:z0a ([e0]) _ _:=c1.of_nil;refine E6a ⟨c0.nil,d0⟩ Z Z Z ?_;refine h1a Z ?_;refine f0a ?_;refine E6a ⟨c0.nil,d0⟩ Z Z Z ?_;refine h1a Z ?_;refine f0a ?_;refine E6a ⟨c0.nil,d0⟩ Z Z Z ?_;refine h1a Z ?_;refine f0a ?_;refine E6a ⟨c0.nil,d0⟩ Z Z Z ?_;refine h1a (hv:=Z) (v:=.int .i64 _) Z ?_;refine f0a ?_;refine E6a ⟨c0.nil,d0⟩ Z Z Z ?_;refine X6c Z Z (by unfold i64;omega) Z ?_;refine f0a ?_;refine E6a ⟨c0.nil,d0⟩ Z Z Z ?_;obtain⟨xx,_,_,_,Y0,_,R0,_,U0,X0⟩:=RdS.get (m0) (((k:Int)-1).toNat) (by omega);obtain⟨rfl,_⟩:=id X0;refine p0a b2a.slT Z (by assumption) Z Z ?_;refine f0a ?_;refine E6a ⟨c0.nil,d0⟩ Z Z Z ?_;refine u1a q9a Z (fun w1 hw=>U0.keep (hw.1.keep0 _) R0) (by rfl) Z ?_;refine f0a ?_;refine E6a ⟨c0.nil,d0⟩ Z Z Z ?_;refine h1a Z ?_;refine f0a ?_;refine E6a ⟨c0.nil,d0⟩ Z Z Z ?_;refine h1a (hv:=Z) (v:=.int .i64 _) Z ?_;refine f0a ?_;refine E6a ⟨c0.nil,d0⟩ Z Z Z ?_;refine X6c Z Z (by unfold i64;omega) Z ?_;refine f0a ?_;refine E6a ⟨c0.nil,d0⟩ Z Z Z ?_;obtain⟨c,_,_,_,z1,_,S0,_,V0,B0⟩:=RdS.get (hL) (((k:Int)-1).toNat) (by omega);obtain⟨K0,b1,P0,I0,Z0,N0,J0,a1,O0,rfl,_⟩:=D0a.open_ B0;refine p0a Y5a.slT Z (by assumption) Z Z ?_;refine f0a ?_;refine E6a ⟨c0.nil,d0⟩ Z Z Z ?_;refine u1a Q0a Z (fun w1 hw=>V0.keep (hw.1.keep0 _) S0) (by rfl) Z ?_;refine f0a ?_;refine E6a ⟨c0.nil,d0⟩ Z Z Z ?_;refine v2b Z Z ?_;refine f0a ?_;refine E6a ⟨c0.nil,d0⟩ Z Z Z ?_;refine I0a T8b Z Z ?_;refine f0a ?_;refine V5c ⟨c0.nil,d0⟩ Z Z Z ?_
    first|refine e0a (kk:=0) (vs:=[_,_,_]) c0 H1b Z Z Z Z Z Z Z ?_
    intro g1 b0 u0;dsimp only[n0a,List.set] at b0;have a0:=d0.trans (u0.mono (by simp));refine w0a ⟨Z,?_⟩;refine E6a ⟨b0.nil,a0⟩ Z Z Z ?_;refine v2b Z Z ?_;refine f0a ?_;refine E6a ⟨b0.nil,a0⟩ Z Z Z ?_;refine I0a a8b Z Z ?_;refine f0a ?_;refine V5c ⟨b0.nil,a0⟩ Z Z Z ?_
    first|refine e0a (kk:=0) (vs:=[_,_,_]) b0 o2a Z Z Z Z Z Z Z ?_
    intro i1 f0 v0;dsimp only[n0a,List.set] at f0;have g0:=a0.trans (v0.mono (by simp));refine w0a ⟨Z,?_⟩;refine X0c ⟨f0.nil,g0⟩ ?_;refine fP0 Z U ?_;exact⟨Z,0,e0,p0,_,[.slice K0 b1 P0,.slice I0 Z0 N0,.slice J0 a1 O0],[.slice s0 G0 z0,.slice q0 E0 x0,.slice r0 F0 y0],⟨(k:Int)-1,xx,c,d⟩,F8b Y0 z1 f1,.inr ⟨Z,by show(0:Int)≤(k:Int)-1;omega⟩,B0,n0,f0,Z⟩
   refine lP0 Z U ?_;exact⟨Z,3,e0,p0,_,[.slice none 0 0,.slice none 0 0,.slice none 0 0],[.slice s0 G0 z0,.slice q0 E0 x0,.slice r0 F0 y0],⟨(k:Int)-1,k2c,noC,d⟩,(by(obtain rfl:k=0:=by omega);exact u5b f1),.inl ⟨Z,by show ¬(0:Int)≤(k:Int)-1;omega⟩,J7b,n0,L0,Z⟩
  rintro D ε w ⟨rfl,b,e0,p0,d1,xs,ys,e,he,hb,A1,B1,S,eZ⟩;refine wK eZ ?_;have y1:J0b p e:=he▸hok k (by omega);have P1:b<5:=by omega
  refine wO0 Z U (h5c (lo:=b) Tryz.underlying181 (size:=1) (fun _=>by kernel_rfl) Z Z (by omega) Z ?_);refine lC0 Z U (wL (fun μj D ε w=>D=[]∧∃j:Nat,∃G2:Option Nat,∃cs2:List Value,∃v2:Value,(j+μj=(5-b))∧(x1a (fun _ _=>T4a) 5 [] w0 G2 cs2 v2 (L4a p run l k++I3c p e b j))∧St [] w0 w [(some e0,185,evL [.slice Ac nc cc,.slice Am nm cm,.slice Al nl cl,.slice At nt ct] e xs ys),(some p0,38,d1),(some g8,181,x0d),(some g3,27,[.slice Ac nc cc,.slice Am nm cm,.slice Al nl cl,.slice At nt ct]),(G2,59,cs2)]∧Sl ε [(1,.slice Ar nr cr),(2,.slice Ax nx cx),(3,.pointer (some ⟨g3,0,none⟩)),(7,v2),(8,.pointer (some ⟨g8,0,none⟩)),(11,.pointer (some ⟨e0,0,none⟩)),(16,.slice Ax nx cx),(17,.int .i64 nx),(18,.int .i64 k),(48,.slice (some ⟨g8,0+b*1,none⟩) (5-b) (5-b)),(49,.int .i64 (5-b:Nat)),(50,.int .i64 j)]) (μ:=(5-b)) ⟨Z,0,G,A0,v,by omega,(by simpa[I3c] using D0),S,Z⟩ ?_);rintro μj D ε w ⟨rfl,j,G2,cs2,v2,_,i0,S,eZ⟩;refine wK eZ (wB0 Z U (fun v1=>?_) fun v1=>?_)
  ·refine lO S.k [.i] Z ⟨by omega,U⟩ (s0a K0c Z (S.cell 2 Z (D1d (by omega))) Z ?_);refine lOn 4 S.k [] Z U (y0a Z ?_);refine lO0 Z U ?_;have x1:C4b p e M w e0 [.slice Ac nc cc,.slice Am nm cm,.slice Al nl cl,.slice At nt ct] xs ys:=⟨S.cells 0 Z,hI.keep (S.keep0 M),A1.keep (S.keep0 M),B1.keep (S.keep0 M),V0a hI.lt (S.new 0 Z),y1⟩;refine b5c (f:=244) (vs:=[.pointer (some ⟨e0,0,none⟩)]) S Z (fun _ _=>by kernel_rfl) Z Z (S1c p e (b+j) (by omega) (fun h=>by omega) M _ e0 _ xs ys x1) ?_;rintro R1 W1 C0 n1 N1;obtain⟨_,_,_,rfl⟩:=C0.form;have l1:=m6a hp (run:=run) (l:=l) k;have l2:=k4c (e:=e) hp b j;have l3:=G2b (e:=e) hp (b+j);refine K2a k1a (M2:=[]) (k:=4) n1 p1a Z i0 Z Z C0 (by rw[List.length_append];omega) Z ?_;intro T1 I1 s1 X1 o1 o0 O1 F1;refine q0a Z ?_;refine lP0 Z ⟨by omega,U⟩ ⟨μj-1,by omega,Z,(j+1),(_),(_),(_),(by omega),?_,o1,Z⟩;rw[n3c,←List.append_assoc];exact o0
  refine lP0 Z ⟨by omega,U⟩ ⟨μk-1,by omega,Z,(k+1),(_),(_),(_),(by omega),?_,S.tail.tail,Z⟩;rw[d7a,he,←F4c hb,show 5-b=j by omega];exact i0
 refine lOn 8 S.k [] Z U (y0a Z ?_);refine q0a Z ?_;refine lR0 Z U (r0a Z ?_);obtain rfl:k=l.length:=by omega
 have l1:=m6a hp (run:=run) (l:=l) l.length;exact⟨x1a.rd (M:=M) k1a D0 S (k:=2) Z (fun g hg=>by subst hg;exact V0a hI.lt (S.new 2 Z)) (by omega),S.fin⟩
section
variable {p:h0a} {m:Int}
theorem K1d{run:List c0a}{i:Nat}(hi:i+1<(L2a p m run).length){c:G0a}(hc:(L2a p m run)[i]?=some c){x:c0a}(hx:run[i]?=some x):x∈J0a p m c∧(L2a p m run)[i+1]?=some (doC p m c x):=by
 by_cases h:x∈J0a p m c
 ·exact⟨h,w7a hc hx h⟩
 ·have:=U0b hc hx h;omega
theorem h2b(hp:n1a p):J0b p ⟨-1,k2c,noC,f1a p⟩ where
 lo:=by show(-1:Int)≤-1;omega
 hi:=by show(-1:Int)≤1000;omega
 d:=A8a hp
 c h:=by have:(0:Int)≤-1:=h;omega
 t h:=by have:(0:Int)≤-1:=h;omega
 s h:=by have:(0:Int)≤-1:=h;omega
 aw h:=by have:(0:Int)≤-1:=h;omega
 ci _:=⟨Z,Z⟩
theorem N0c(hp:n1a p){c:G0a}(hf:J5a p c){x:c0a}(hx:x∈J0a p m c){a:Int}(h0:0≤a:=by omega)(h1:a≤1000:=by omega):J0b p ⟨a,x,c,doC p m c x⟩:=by
 have g0:=h6b hp hf hx;obtain⟨t,ht,h⟩:=X1a.1 hx;have i0:x.thread=t:=by
  rcases h with⟨i,s,_,_,rfl⟩|⟨i,_,_,rfl⟩<;>rfl
 refine⟨by show -1≤a;omega,h1,g0,fun _=>hf,fun _=>?_,fun _=>?_,fun _=>?_,fun h=>?_⟩
 ·show 0≤x.thread∧x.thread<p.threads.length
  omega
 ·show x.step=-1∨(0≤x.step∧x.step<(f3a p x.thread.toNat).length)
  rcases h with⟨i,s,hs,_,rfl⟩|⟨i,_,_,rfl⟩
  ·right;have:=g1a hs;show 0≤(i:Int)∧(i:Int)<(f3a p ((t:Nat):Int).toNat).length;simp only[Int.toNat_natCast];omega
  ·left;rfl
 ·show(doC p m c x).at_.getD x.thread.toNat 0≠-1
  have e0:p.threads[t]?=some p.threads[t]:=List.getElem?_eq_getElem ht;have a0:t<c.at_.length:=by rw[hf.nat];exact ht
  rw[i0,Int.toNat_natCast];rcases h with⟨i,s,hs,he,rfl⟩|⟨i,hi,_,rfl⟩
  ·have d0:=hs;rw[P1a e0] at d0;have b0:=(hp.thread e0).steps s (d0a d0);rw[s6b hs];have e1:(I6a p m c t s).at_=atC c t s:=by unfold I6a;split<;>rfl
   rw[e1];unfold atC
   split
   ·rename_i hk;have j0:=(b0.row.k6 (by omega)).2;have h2:=(b0.row.k6 (by omega)).1;unfold k2a at h2;rw[List.getD_eq_getElem?_getD,List.getElem?_set_ne (by omega),List.getElem?_set_self a0];have:=b0.to;simp;omega
   ·rw[List.getD_eq_getElem?_getD,List.getElem?_set_self a0];have:=b0.to;simp;omega
  ·intro c0;have f0:t<c.buf.length:=by rw[hf.nbuf];exact ht
   have hb:c.buf[t]?=some c.buf[t]:=List.getElem?_eq_getElem f0;have e1:(doC p m c ⟨t,-1,((c.buf.getD t []).getD i ⟨[],[]⟩).cells.getD 0 0⟩).at_=c.at_:=by unfold doC;rw[if_pos rfl];rfl
   rw[e1] at c0;have h1:c.at_[t]?=some (-1):=by
    rw[List.getElem?_eq_getElem a0];rw[List.getD_eq_getElem?_getD,List.getElem?_eq_getElem a0] at c0;simpa using c0
   have h2:=(hf.bufs t _ hb).2.2 h1;rw[List.getD_eq_getElem?_getD,hb] at hi;simp[h2] at hi
 ·have:a=-1:=h;omega
theorem W7b(hp:n1a p){run:List c0a}(i:Nat)(hi:i<(L2a p m run).length)(hlen:run.length≤500:=by omega):J0b p (h3b run (L2a p m run) i):=by
 have a0:=o5a p m run;cases i with
 | zero =>
   have h0:(L2a p m run)[0]?=some (f1a p):=Z;have:h3b run (L2a p m run) 0=⟨-1,k2c,noC,f1a p⟩:=by unfold h3b;rw[if_pos rfl,getD_some h0]
   rw[this];exact h2b hp
 | succ i =>
   have hc:(L2a p m run)[i]?=some (L2a p m run)[i]:=List.getElem?_eq_getElem (by omega);have hx:run[i]?=some run[i]:=List.getElem?_eq_getElem (by omega);obtain⟨h1,h2⟩:=K1d hi hc hx;have hg:=(y7a (m:=m) hp (List.mem_of_getElem? hc)).1;have:h3b run (L2a p m run) (i+1)=⟨(i:Int),run[i],(L2a p m run)[i],doC p m (L2a p m run)[i] run[i]⟩:=by
    unfold h3b;rw[if_neg (by omega),Nat.add_sub_cancel,getD_some hx,getD_some hc,getD_some h2]
    congr 1
    omega
   rw[this];exact N0c hp hg h1
theorem Y1c(run:List c0a):W8b p m run=0∨W8b p m run=110:=by unfold W8b;split<;>simp
end
theorem r5b(p:h0a)(m:Int)(hm:m=0∨m=1∨m=2)(run:List c0a)(M:List Nat)(w0:World)(cs:List Value)(vr:Value)(hI:InP p M w0 cs)(a0:w5a M w0 vr run)(hlen:run.length≤120):
 N0a prog 51 #[.agg cs.toArray,.int .i64 m,vr] w0 fun v w'=>(∃vl,v=.tuple #[vl,.int .i64 (W8b p m run)]∧y8b M w' vl (c3a p m run))∧Below w0.heap.size w0 w':=by
 obtain⟨_,_,_,_,_,_,_,_,_,_,_,_,rfl,_⟩:=hI.rd.open_;obtain⟨_,_,_,rfl⟩:=a0.form;have hp:=hI.ok;have S:=St.refl w0;have e0:=o5a p m run;have o0:=Y1c (p:=p) (m:=m) run;refine a0a func51 Z ntmps51 Z ?_;refine wO0 Z U (m0a S Z ?_);intro g3 w3 S3 X3 G3;refine lO S3.k [.w 0] Z ⟨⟨Z,Z⟩,U⟩ (x0a S3 y6c Z Z (Q1d p m hm run M _ _ _ (hI.keep (S3.keep0 M)) (a0.keep (S3.keep0 M)) hlen) ?_);rintro p0 j0 ⟨vl,rfl,hL⟩ b0 n0;have KL:=z0a.refl [] j0;obtain⟨_,_,_,rfl⟩:=hL.form;refine lB0 Z U (fun f0=>?_) fun f0=>?_
 ·refine lB0 Z U (fun g0=>by exfalso;omega) fun g0=>?_;refine lO b0.k [.w 0] Z ⟨⟨Z,Z⟩,U⟩ (x0a b0 p6c Z Z (P8b p run (L2a p m run) (W7b hp) e0 M _ _ _ _ (hI.keep (b0.keep0 M)) (a0.keep (b0.keep0 M)) (RdS.keepW hL KL.of_nil (A4a.keep KL.of_nil))) ?_);rintro i0 m0 hV c0 d0;replace KL:=KL.trans d0;refine lOn 1 c0.k [] Z U (q0a Z ?_);exact lT2 Z U Z ⟨⟨_,Z,hV⟩,c0.fin⟩
 refine lO b0.k [.w 0] Z ⟨⟨Z,Z⟩,U⟩ (x0a b0 p6c Z Z (P8b p run (L2a p m run) (W7b hp) e0 M _ _ _ _ (hI.keep (b0.keep0 M)) (a0.keep (b0.keep0 M)) (RdS.keepW hL KL.of_nil (A4a.keep KL.of_nil))) ?_);rintro i0 m0 hV c0 d0;refine lOn 1 c0.k [] Z U (q0a Z ?_);exact lT2 Z U Z ⟨⟨_,Z,hV⟩,c0.fin⟩
section
variable {P:Program} {r:Option Nat} {N:Nat} {D:List Deferred} {e:Env} {w:World}
theorem h2c{l p N:Nat}{rc:Loop}{x:Value}{a0 body:Code}{R:Value→World→Prop}(hl:w.heap[l]?=some (.loop rc))(hr:rc.state=.ready)(hN:rc.tmps.size=N)(f0:Y0a { tmps:=rc.tmps,defers:=[] }=e)(b0:rc.params=#[p])(d0:rc.assign=a0)(e0:rc.body=body)(hp:Nat.ble (p+1) N=true)
 (h:W P (some l) N a0 ⟨fun D e w1=>w1.heap[l]?=some (.loop rc) ∧
   W P (some l) N body ⟨fun _ _ w3=>Q5a l none R w3,fun id _ _ w3=>Q5a l (some (.exit id)) R w3,fun _ _ w3=>Q5a l (some .ret) R w3⟩ D e (w1.putObj l (.loop { rc with state:=.busy })),
   fun _ _ _ _=>False,fun _ _ _=>False⟩ [] (upd e p x) w):Yld P l #[x] w R:=by
 subst f0 d0 e0;have i0:=Nat.le_of_ble_eq_true hp;refine⟨rc,hl,by simp[b0],?_⟩;have hz:(rc.params.zip #[x]).foldl (fun tmps (t,a)=>tmps.setIfInBounds t a) rc.tmps=rc.tmps.setIfInBounds p x:=by rw[b0];simp
 rw[hz];refine roundIn_of_wpIn (F:=Fence.wide) trivial ?_;unfold W at h;have he:Y0a { tmps:=rc.tmps.setIfInBounds p x,defers:=[] }=upd (Y0a { tmps:=rc.tmps,defers:=[] }) p x:=by
  have h1:=m1a (a:={ tmps:=rc.tmps,defers:=[] }) (d:=p) x (by simp;omega);simp only[Act.put] at h1;rw[←h1]
 refine wpIn_mono (h { tmps:=rc.tmps.setIfInBounds p x,defers:=[] } (by simp[hN]) Z he) fun ex a w1 hq=>?_;cases ex with
 | normal =>
   obtain⟨hs,g0,hb⟩:=hq;refine⟨_,run_beginRound g0 hr,wpIn_mono (hb a hs Z Z) fun ex a w3 hq=>?_⟩;cases ex with
   | normal=>obtain⟨_,c0,h3,hR⟩:=hq;exact⟨_,_,run_endRound none h3,_,Z,hR⟩
   | ret=>obtain⟨_,c0,h3,hR⟩:=hq;exact⟨_,_,run_endRound (some .ret) h3,_,Z,hR⟩
   | exit id=>obtain⟨_,c0,h3,hR⟩:=hq;exact⟨_,_,run_endRound (some (.exit id)) h3,_,Z,hR⟩
   | goto l=>exact hq.elim
   | panic c=>exact hq.elim
   | outgrown=>exact hq.elim
 | exit id=>exact hq.2
 | ret=>exact hq.2
 | goto l=>exact hq.elim
 | panic c=>exact hq.elim
 | outgrown=>exact hq.elim
end
section
variable {P:Program} {r:Option Nat} {N:Nat} {ops:Array Oper} {rest:List Oper} {C:World→Prop} {KQ:Env→Prop} {K:List Deferred→Env→World→Prop} {D:List Deferred} {e:Env} {w:World} {d:Nat} {t:TypeId} {p:String} {af:Array Edge} {x y:Operand} {yt:TypeId}
def z9c(v:M5a):Value:=.agg #[.int .i64 v.at_,.int .i64 v.kind,.int .i64 v.module_,.int .i64 v.thread,.int .i64 v.item]
def K4c(P:Program)(ty:TypeId):Prop:=P.eqGuardType P.depth ty=false∧∀(w:World) (a b:M5a),(binOp .eql ty (z9c a) (z9c b)).run P w=.ok (.bool (decide (a=b))) w
theorem K4c.neq{ty:TypeId}(hE:K4c P ty)(w:World)(a b:M5a):(binOp .neq ty (z9c a) (z9c b)).run P w=.ok (.bool (!decide (a=b))) w:=by
 have:=hE.2 w a b;unfold z9c at this ⊢;rw[run_eql_struct] at this;rw[run_neq_struct]
 revert this
 generalize (Op.equalIn 10000 ty _ _).run P w=a0;intro this;cases a0 with
 | ok z w'=>simp only[Result.andThen_ok] at this ⊢;cases this;rfl
 | halt z w'=>simp[Result.andThen] at this
theorem K4c.guard{ty:TypeId}(hE:K4c P ty)(w:World)(op:BinOp)(x y:Operand)(a b:M5a):(eqGuard op ty x y (z9c a) (z9c b)).run P w=.ok () w:=run_eqGuard_agg w _ _ _ _ _ _ hE.1
end
section
variable {p:h0a} {m:Int}
theorem R1b:∀(run:List c0a) (c:G0a) (k:Nat),D4a p m c (run.take k)=(D4a p m c run).take k
 | [],c,k=>by simp[D4a]
 | x::l,c,0=>by simp[D4a]
 | x::l,c,k+1=>by
   rw[List.take_succ_cons];by_cases hx:x∈J0a p m c
   ·rw[D4a,if_pos hx,D4a,if_pos hx,List.take_succ_cons,R1b l _ k]
   ·rw[D4a,if_neg hx,D4a,if_neg hx];rfl
theorem s9a(run:List c0a)(k:Nat):L2a p m (run.take k)=(L2a p m run).take (k+1):=by
 unfold L2a;rw[List.take_succ_cons,R1b]
theorem h5b{c:Prop}[Decidable c]{x v:M5a}(h:v∈(if c then[x] else[])):c∧v=x:=by
 split at h
 ·rename_i hc;exact⟨hc,by simpa using h⟩
 ·cases h
theorem P9b{e:EvD}{v:M5a}(h:v∈Y1a p e):(e.still=true∧D8a p (sOf p e)=true)∧v=E0b p e 4:=h5b h
theorem R2c{e:EvD}{v:M5a}(h:v∈a3a p e):(e.still=true∧S6b p e=false)∧v=E0b p e 3:=h5b h
theorem T0c{e:EvD}{v:M5a}(h:v∈G6a p e):e.still=true∧Y1a p e=[]∧a3a p e=[]∧∃t,t<p.threads.length∧v∈P1b p e t:=by
 unfold G6a at h
 split at h
 ·rename_i hc;unfold h4a at h;obtain⟨t,ht,h⟩:=List.mem_flatMap.1 h;exact⟨hc.1,hc.2.1,hc.2.2,t,List.mem_range.1 ht,h⟩
 ·cases h
theorem k0c{e:EvD}{t:Nat}{v:M5a}(h:v∈P1b p e t):(t:Int)≠e.x.thread∧e.c.at_.getD t 0≠-1∧(o6b p ((d0b p t).modules.getD (e.c.at_.getD t 0).toNat 0)).rely.evl e.c.mem e.d.mem=0 ∧
 v=⟨e.at_,5,(d0b p t).modules.getD (e.c.at_.getD t 0).toNat 0,t,e.c.at_.getD t 0⟩:=by
 unfold P1b at h
 split at h
 ·cases h
 ·rename_i h1
  split at h
  ·rename_i h2;exact⟨fun hh=>h1 (.inl hh),fun hh=>h1 (.inr hh),h2.2,by simpa using h⟩
  ·cases h
theorem W9b{e:EvD}{v:M5a}(h:v∈C5a p e):s3a e.d=true∧∃(i:Nat) (l:e0b),p.locks[i]?=some l∧e.d.mem.getD l.cell.toNat 0=0∧l.inv.evl e.d.mem e.d.mem=0∧v=⟨e.at_,2,G1b p e l,if 0≤e.at_ then e.x.thread else -1,i⟩:=by
 unfold C5a at h
 split at h
 ·rename_i hc;unfold L3a at h;obtain⟨i,_,h⟩:=List.mem_flatMap.1 h;refine⟨hc,i,?_⟩;unfold j8a at h
  split at h
  ·rename_i l hl
   split at h
   ·cases h
   ·rename_i h1;simp only[not_or,Decidable.not_not] at h1;exact⟨l,hl,h1.1,h1.2,by simpa using h⟩
  ·cases h
 ·cases h
theorem P5b{e:EvD}{v:M5a}(h:v∈e3a p e):s3a e.d=true∧∃t:Nat,t<p.threads.length∧e.d.at_.getD t 0≠-1∧((d0b p t).asserts.getD (e.d.at_.getD t 0).toNat noE).evl e.d.mem e.d.mem=0 ∧
 v=⟨e.at_,1,c8a p e t,t,e.d.at_.getD t 0⟩:=by
 unfold e3a at h
 split at h
 ·rename_i hc;unfold p2a at h;obtain⟨t,ht,h⟩:=List.mem_flatMap.1 h;refine⟨hc,t,List.mem_range.1 ht,?_⟩;unfold b3a at h
  split at h
  ·cases h
  ·rename_i h1;simp only[not_or,Decidable.not_not] at h1;exact⟨h1.1,h1.2,by simpa using h⟩
 ·cases h
theorem b9b{e:EvD}{v:M5a}(h:v∈f4a p e):(0≤e.at_∧(v∈Y1a p e∨v∈a3a p e∨v∈G6a p e))∨v∈C5a p e∨v∈e3a p e:=by
 unfold f4a at h;rw[List.mem_append,List.mem_append] at h;rcases h with h|h
 ·split at h
  ·rename_i h0;rw[List.mem_append,List.mem_append] at h;exact .inl ⟨h0,h⟩
  ·cases h
 ·exact .inr h
theorem I0b{e:EvD}{v:M5a}(h:v∈f4a p e):v.at_=e.at_:=by
 rcases b9b h with⟨_,h|h|h⟩|h|h
 ·rw[(P9b h).2];rfl
 ·rw[(R2c h).2];rfl
 ·obtain⟨_,_,_,t,_,h⟩:=T0c h;rw[(k0c h).2.2.2]
 ·obtain⟨_,_,_,_,_,_,rfl⟩:=W9b h;rfl
 ·obtain⟨_,t,_,_,_,rfl⟩:=P5b h;rfl
theorem t6b(run:List c0a)(l:List G0a)(i:Nat):(h3b run l i).at_=(i:Int)-1:=by
 unfold h3b
 split
 ·rename_i h;subst h;rfl
 ·rfl
theorem d0c(run:List c0a)(l:List G0a){k i:Nat}(h:i<k+1):h3b (run.take k) (l.take (k+1)) i=h3b run l i:=by
 unfold h3b
 split
 ·simp[List.getD_eq_getElem?_getD]
 ·rename_i h0;have h1:i-1<k:=by omega
  have h2:i-1<k+1:=by omega
  simp only[List.getD_eq_getElem?_getD,List.getElem?_take,h,h1,h2,if_true]
theorem y1b{f:Nat→List M5a}{q:M5a→Bool}{k:Nat}(h1:∀i,i<k→∀v∈f i,q v=true)(h2:∀i,k≤i→∀v∈f i,q v=false):∀n,((List.range n).flatMap f).filter q=(List.range (min k n)).flatMap f
 | 0=>by simp
 | n+1=>by
   rw[List.range_succ,List.flatMap_append,List.filter_append,y1b h1 h2 n];have e1:List.flatMap f [n]=f n:=by simp
   rw[e1];by_cases h:n<k
   ·rw[List.filter_eq_self.2 (h1 n h),show min k n=n by omega,show min k (n+1)=n+1 by omega,List.range_succ,List.flatMap_append,e1]
   ·have:(f n).filter q=[]:=by
     rw[List.filter_eq_nil_iff];intro v hv;rw[h2 n (by omega) v hv];simp
    rw[this,show min k n=k by omega,show min k (n+1)=k by omega,List.append_nil]
theorem p2b{f g:Nat→List M5a}:∀n,(∀i,i<n→f i=g i)→(List.range n).flatMap f=(List.range n).flatMap g
 | 0,_=>rfl
 | n+1,h=>by
   rw[List.range_succ,List.flatMap_append,List.flatMap_append,p2b n (fun i hi=>h i (by omega))];simp[h n (by omega)]
theorem a5b(run:List c0a)(k:Nat):c3a p m (run.take k)=(c3a p m run).filter fun v=>decide (v.at_<(k:Int)):=by
 unfold c3a L4a;rw[y1b (k:=k+1) (fun i hi v hv=>?_) (fun i hi v hv=>?_),s9a,List.length_take]
 ·exact p2b _ fun i hi=>by rw[d0c _ _ (by omega)]
 ·rw[I0b hv,t6b];exact decide_eq_true (by omega)
 ·rw[I0b hv,t6b];exact decide_eq_false (by omega)
end
def woR(i j:Nat):Nat→List c0a→List c0a
 | _,[]=>[]
 | k,x::l=>if k≠i∧k≠j then x::woR i j (k+1) l else woR i j (k+1) l
abbrev wo(run:List c0a)(i j:Nat):List c0a:=woR i j 0 run
theorem u4b{i j:Nat}(x:c0a):∀(l:List c0a) (k:Nat),woR i j k (l++[x])=woR i j k l++(if k+l.length≠i∧k+l.length≠j then[x] else[])
 | [],k=>by
   simp only[List.nil_append,woR,List.length_nil,Nat.add_zero]
 | y::l,k=>by
   simp only[List.cons_append,woR,u4b x l (k+1),List.length_cons];rw[show k+1+l.length=k+(l.length+1) by omega]
   split<;>rfl
theorem H0d{run:List c0a}{i j k:Nat}{x:c0a}(hx:run[k]?=some x)(h:k≠i∧k≠j):wo (run.take (k+1)) i j=wo (run.take k) i j++[x]:=by
 have hk:=g1a hx;rw[List.take_add_one,hx];show woR i j 0 (run.take k++[x])=_;rw[u4b,List.length_take,Nat.zero_add,Nat.min_eq_left (by omega),if_pos h]
theorem U1d{run:List c0a}{i j k:Nat}{x:c0a}(hx:run[k]?=some x)(h:k=i∨k=j:=by omega):wo (run.take (k+1)) i j=wo (run.take k) i j:=by
 have hk:=g1a hx;rw[List.take_add_one,hx];show woR i j 0 (run.take k++[x])=_;rw[u4b,List.length_take,Nat.zero_add,Nat.min_eq_left (by omega),if_neg (by omega),List.append_nil]
theorem V8b{i j:Nat}:∀(l:List c0a) (k:Nat),i<k→k≤j→woR i j k l=l.eraseIdx (j-k)
 | [],k,_,_=>by simp[woR]
 | x::l,k,h1,h2=>by
   unfold woR;by_cases h:k=j
   ·subst h;rw[if_neg (by omega),Nat.sub_self,List.eraseIdx_cons_zero];have:∀(l:List c0a) (q:Nat),i<q→k<q→woR i k q l=l:=by
     intro l
     induction l with
     | nil=>intro q _ _;rfl
     | cons y l ih=>intro q g1 g2;unfold woR;rw[if_pos (by omega),ih (q+1) (by omega) (by omega)]
    exact this l (k+1) (by omega) (by omega)
   ·rw[if_pos (by omega),V8b l (k+1) (by omega) (by omega),show j-k=(j-(k+1))+1 by omega,List.eraseIdx_cons_succ]
theorem r0c{i:Nat}:∀(l:List c0a) (k:Nat),k≤i→woR i i k l=l.eraseIdx (i-k)
 | [],k,_=>by simp[woR]
 | x::l,k,h2=>by
   unfold woR;by_cases h:k=i
   ·subst h;rw[if_neg (by omega),Nat.sub_self,List.eraseIdx_cons_zero];have:∀(l:List c0a) (q:Nat),k<q→woR k k q l=l:=by
     intro l
     induction l with
     | nil=>intro q _;rfl
     | cons y l ih=>intro q g1;unfold woR;rw[if_pos (by omega),ih (q+1) (by omega)]
    exact this l (k+1) (by omega)
   ·rw[if_pos (by omega),r0c l (k+1) (by omega),show i-k=(i-(k+1))+1 by omega,List.eraseIdx_cons_succ]
theorem H1c{i j:Nat}:∀(l:List c0a) (k:Nat),k≤i→i<j→woR i j k l=(l.eraseIdx (i-k)).eraseIdx (j-1-k)
 | [],k,_,_=>by simp[woR]
 | x::l,k,h1,h2=>by
   unfold woR;by_cases h:k=i
   ·subst h;rw[if_neg (by omega),Nat.sub_self,List.eraseIdx_cons_zero,V8b l (k+1) (by omega) (by omega),show j-(k+1)=j-1-k by omega]
   ·rw[if_pos (by omega),H1c l (k+1) (by omega) h2,show i-k=(i-(k+1))+1 by omega,List.eraseIdx_cons_succ,show j-1-k=(j-1-(k+1))+1 by omega,List.eraseIdx_cons_succ]
theorem q2d(run:List c0a)(i:Nat):wo run i i=run.eraseIdx i:=r0c run 0 (Nat.zero_le _)
theorem p2d(run:List c0a){i j:Nat}(h:i<j):wo run i j=(run.eraseIdx i).eraseIdx (j-1):=H1c run 0 (Nat.zero_le _) h
theorem n1d(run:List c0a){i j:Nat}(hi:i<run.length)(h:i≤j):(wo run i j).length<run.length:=by
 rcases Nat.lt_or_eq_of_le h with h|rfl
 ·rw[p2d run h];have h1:=List.length_eraseIdx_le (run.eraseIdx i) (j-1);have h2:=List.length_eraseIdx_of_lt hi;omega
 ·rw[q2d,List.length_eraseIdx_of_lt hi];omega
def a2b(run:List c0a)(i j:Nat):Bool:=match run[i]?,run[j]? with
 | some x,some y=>decide (x.thread=y.thread∧x.step≠-1∧y.step=-1)
 | _,_=>false
def q3c(run:List c0a)(k:Nat):List (List c0a):=(List.range k).map fun i=>wo run i i
def K6b(run:List c0a)(i k:Nat):List (List c0a):=((List.range k).filter fun j=>decide (i<j)&&a2b run i j).map fun j=>wo run i j
def p0c(run:List c0a)(k:Nat):List (List c0a):=(List.range k).flatMap fun i=>K6b run i run.length
def g9a(run:List c0a):List (List c0a):=q3c run run.length++p0c run run.length
theorem X5b(run:List c0a)(k:Nat):q3c run (k+1)=q3c run k++[wo run k k]:=by simp[q3c,List.range_succ]
theorem L1b(run:List c0a)(k:Nat):p0c run (k+1)=p0c run k++K6b run k run.length:=by simp[p0c,List.range_succ]
theorem i4b{run:List c0a}{i k:Nat}(h:i<k)(hp:a2b run i k=true):K6b run i (k+1)=K6b run i k++[wo run i k]:=by
 unfold K6b;rw[List.range_succ,List.filter_append];simp[h,hp]
theorem d4b{run:List c0a}{i k:Nat}(hp:a2b run i k=false):K6b run i (k+1)=K6b run i k:=by
 unfold K6b;rw[List.range_succ,List.filter_append];simp[hp]
theorem h8b{run:List c0a}{i k:Nat}(h:k≤i+1):K6b run i k=[]:=by
 unfold K6b;rw[List.map_eq_nil_iff,List.filter_eq_nil_iff];intro j hj;rw[List.mem_range] at hj;simp;intro h;omega
theorem r5c{run r:List c0a}(h:r∈g9a run):∃i j,i≤j∧i<run.length∧r=wo run i j∧(i=j∨i<j∧j<run.length∧a2b run i j=true):=by
 unfold g9a at h;rcases List.mem_append.1 h with h|h
 ·obtain⟨i,hi,rfl⟩:=List.mem_map.1 h;exact⟨i,i,Nat.le_refl _,List.mem_range.1 hi,Z,.inl Z⟩
 ·obtain⟨i,hi,h⟩:=List.mem_flatMap.1 h;obtain⟨j,hj,rfl⟩:=List.mem_map.1 h;obtain⟨h1,h2⟩:=List.mem_filter.1 hj;simp only[Bool.and_eq_true,decide_eq_true_eq] at h2;exact⟨i,j,by omega,List.mem_range.1 hi,Z,.inr ⟨h2.1,List.mem_range.1 h1,h2.2⟩⟩
theorem X8a{run r:List c0a}(h:r∈g9a run):r.length<run.length:=by
 obtain⟨_,_,h1,h2,rfl,_⟩:=r5c h;exact n1d run h2 h1
section
variable (p:h0a) (m:Int)
def p3a(run:List c0a):Option (List c0a):=match c3a p m run with
 | []=>none
 | v::_=>some (run.take (v.at_+1).toNat)
def v5b(c:List c0a):Option (List c0a):=(g9a c).findSome? (p3a p m)
def X4b:Nat→List c0a→List c0a
 | 0,c=>c
 | n+1,c=>match v5b p m c with
   | some d=>X4b n d
   | none=>c
def M3a(run:List c0a):Option (List c0a):=(p3a p m run).map fun c=>X4b p m c.length c
def p6b(run:List c0a):Bool:=decide (p3a p m run=some run)&&(v5b p m run).isNone
end
section
variable {p:h0a} {m:Int}
theorem r8b{run:List c0a}{v:M5a}(h:v∈c3a p m run):-1≤v.at_∧v.at_+1<(L2a p m run).length:=by
 unfold c3a L4a at h;obtain⟨_,hi,h⟩:=List.mem_flatMap.1 h;rw[List.mem_range] at hi;rw[I0b h,t6b];omega
structure V0d (p:h0a) (m:Int) (run d:List c0a):Prop where
 pre:d=run.take d.length
 len:d.length≤run.length
 first:∃v l,c3a p m d=v::l∧v.at_+1=d.length
 full:(L2a p m d).length=d.length+1
 again:p3a p m d=some d
theorem e9a{run:List c0a}:p3a p m run=none↔c3a p m run=[]:=by
 unfold p3a;split
 ·rename_i h;simp[h]
 ·rename_i h;simp[h]
theorem H0b{run d:List c0a}(h:p3a p m run=some d):V0d p m run d:=by
 unfold p3a at h
 split at h
 ·cases h
 ·rename_i v l hw;have hv:=r8b (p:=p) (m:=m) (run:=run) (v:=v) (by rw[hw];simp);have c0:=o5a p m run;obtain⟨n,hn⟩:∃n:Nat,v.at_+1=n:=⟨(v.at_+1).toNat,by omega⟩;have hd:d=run.take n:=by rw[hn] at h;simpa using h.symm
  have b0:d.length=n:=by rw[hd,List.length_take];omega
  have a0:c3a p m d=v::l.filter (fun v=>decide (v.at_<(n:Int))):=by
   rw[hd,a5b,hw];exact List.filter_cons_of_pos (p:=fun v:M5a=>decide (v.at_<(n:Int))) (decide_eq_true (by omega))
  refine⟨by rw[b0];exact hd,by omega,⟨v,_,a0,by omega⟩,?_,?_⟩
  ·rw[hd,s9a,List.length_take,List.length_take];omega
  ·unfold p3a;rw[a0];show some (d.take (v.at_+1).toNat)=some d;rw[List.take_of_length_le (by omega)]
theorem o2c{c d:List c0a}(h:v5b p m c=some d):∃r∈g9a c,p3a p m r=some d:=List.exists_of_findSome?_eq_some h
theorem g7a{c:List c0a}:v5b p m c=none↔∀r∈g9a c,p3a p m r=none:=by
 unfold v5b;rw[List.findSome?_eq_none_iff]
theorem N3b{c d:List c0a}(h:v5b p m c=some d):d.length<c.length:=by
 obtain⟨_,hr,h⟩:=o2c h;have h1:=(H0b h).len;have h2:=X8a hr;omega
theorem J1b{c:List c0a}(h:v5b p m c=none):∀n,X4b p m n c=c
 | 0=>rfl
 | n+1=>by unfold X4b;rw[h]
theorem D2c{c d:List c0a}(h:v5b p m c=some d)(n:Nat):X4b p m (n+1) c=X4b p m n d:=by rw[X4b,h]
theorem N5b:∀(n k:Nat) (c:List c0a),c.length≤n→X4b p m (n+k) c=X4b p m n c
 | 0,k,c,h=>by
   obtain rfl:c=[]:=List.length_eq_zero_iff.1 (by omega);exact J1b (g7a.2 fun r hr=>absurd (X8a hr) (by simp)) _
 | n+1,k,c,h=>by
   rw[show n+1+k=(n+k)+1 by omega];unfold X4b;split
   ·rename_i d hd;have:=N3b hd;exact N5b n k d (by omega)
   ·rfl
theorem f3c{n:Nat}{c:List c0a}(h:c.length≤n):X4b p m n c=X4b p m c.length c:=by
 have:=N5b (p:=p) (m:=m) c.length (n-c.length) c (Nat.le_refl _)
 rwa [show c.length+(n-c.length)=n by omega] at this
theorem a9b{out:List c0a}(h1:p3a p m out=some out)(h2:v5b p m out=none):M3a p m out=some out:=by
 unfold M3a;rw[h1,Option.map_some,J1b h2]
theorem f1d{run:List c0a}(h:c3a p m run=[]):p6b p m run=false:=by
 unfold p6b;rw[e9a.2 h];rfl
theorem L5c{run:List c0a}(hf:c3a p m run≠[])(hs:∀r:List c0a,r.length<run.length→(L2a p m r).length=r.length+1→c3a p m r=[]):p6b p m run=true∧M3a p m run=some run:=by
 have hp:p3a p m run=some run:=by
  cases a0:p3a p m run with
  | none=>exact absurd (e9a.1 a0) hf
  | some d =>
    have h:=H0b a0;have hlen:=h.len;by_cases hl:d.length<run.length
    ·have:=hs d hl h.full;obtain⟨v,l,h1,_⟩:=h.first
     rw[this] at h1;cases h1
    ·have h2:=h.pre;rw[List.take_of_length_le (by omega)] at h2;rw[h2]
 have hn:v5b p m run=none:=by
  rw[g7a];intro r hr;cases a0:p3a p m r with
  | none=>rfl
  | some d =>
    have h:=H0b a0;have h1:=h.len;have h2:=X8a hr;have:=hs d (by omega) h.full;obtain⟨v,l,h1,_⟩:=h.first
    rw[this] at h1;cases h1
 exact⟨by unfold p6b;rw[hp,hn];simp,a9b hp hn⟩
end
section
variable {P:Program} {r:Option Nat} {N:Nat} {D:List Deferred} {e:Env} {w:World}
variable {ops:Array Oper} {rest:List Oper} {K:List Deferred→Env→World→Prop} {d:Nat} {t:TypeId} {p:String} {af:Array Edge} {x y:Operand} {kd:IntKind}
theorem n1c{ty size k c n:Nat}{A:Option Addr}{xh xm:Operand}(hT:SlT P ty size)(hx:ev e x=.slice A n c)(hy:ev e xh=.int kd (k:Int))(hm:ev e xm=.int kd (k:Int))(h1:k≤c)(hd:Nat.ble (d+1) N=true)(h:WL P r N ops rest K D (upd e d (.slice A k k)) w):
 WL P r N ops (⟨some d,.slice ty x none (some xh) (some xm),t,p,af,none⟩::rest) K D e w:=by
 obtain⟨_,hu,b0⟩:=A5a hT;have e2:(0:Int)≤(k:Int)∧(k:Int)≤(c:Int):=by omega
 have e3:A.map (·.add 0)=A:=by cases A<;>simp[Addr.add_zero']
 have a0:(Instr.slice ty (.slice A n c) none (some (.int kd (k:Int))) (some (.int kd (k:Int)))).run P w=.ok (.slice A k k) w:=by
  by_cases hk:k=0
  ·subst hk;simp[Instr.slice,Instr.sliceBounds,Instr.sliceBound,asIntOf,run_underlying hu,b0]
  ·simp[Instr.slice,Instr.sliceBounds,Instr.sliceBound,asIntOf,run_underlying hu,b0,e2,e3,h1]
 refine r1a Z Z hd ?_ h;simp only[execOp,Instr.sliceAt,Sem.run_bind,run_underlying hu,Result.andThen_ok,hx,hy,hm,Option.map_none,Option.map_some,a0,Sem.run_pure]
theorem f6b{g:Operand}{ps:Array Tmp}{a0 body:Code}{id:Nat}{f:FuncId}{caps:Array Value}{vs:Value→Array Value}{n t:List Deferred→Env→World→Prop}{b:Nat→List Deferred→Env→World→Prop}
 (hH:Has P f) (hg:ev e g=.func (.func f) #[] caps) (q0:∀y,#[y]++caps=vs y)
 (h:∀(rc:Loop) (wi:World),rc.state=.ready→rc.pending=none→rc.tmps.size=N→Y0a { tmps:=rc.tmps,defers:=[] }=e→rc.params=ps→rc.assign=a0→rc.body=body →
   wi.heap[w.heap.size]?=some (.deferred (some []))→wi.heap[w.heap.size+1]?=some (.loop rc)→Below w.heap.size w wi→wi.heap.size=w.heap.size+2 →
   N0a P f (vs (.func (.yield (w.heap.size+1)) #[] #[])) wi fun _ w3 =>
    ∃rc:Loop,w3.heap[w.heap.size+1]?=some (.loop rc)∧rc.state≠.busy ∧
     (((rc.pending=none∨rc.pending=some (.exit id))∧n (y5a w.heap.size::D) e (w3.putObj (w.heap.size+1) (.loop { rc with state:=.exhausted }))) ∨
      (rc.pending=some .ret∧t (y5a w.heap.size::D) e (w3.putObj (w.heap.size+1) (.loop { rc with state:=.exhausted }))))) :
 W P none N (.block id (.rangeFunc g ps a0 body)) ⟨n,b,t⟩ D e w:=by
 refine S1b ?_;unfold W;intro a hs hd he;have i0:Y0a { tmps:=a.tmps,defers:=[] }=e:=he;refine wpIn_rangeFunc (F:=fc none) (n:=0) ?_;intro fn _;have j0:((w.alloc (.deferred (some []))).alloc (.loop (r6b fn a.tmps ps a0 body w.heap.size))).heap[w.heap.size]?=some (.deferred (some [])) :=
  (Below.heap_alloc _ _ _ (by simp)).trans (World.alloc_heap_new w _)
 have m0:((w.alloc (.deferred (some []))).alloc (.loop (r6b fn a.tmps ps a0 body w.heap.size))).heap[w.heap.size+1]?=some (.loop (r6b fn a.tmps ps a0 body w.heap.size)):=by
  have:=World.alloc_heap_new (w.alloc (.deferred (some []))) (.loop (r6b fn a.tmps ps a0 body w.heap.size));rwa [World.size_alloc] at this
 have n0:Below w.heap.size w ((w.alloc (.deferred (some []))).alloc (.loop (r6b fn a.tmps ps a0 body w.heap.size))):=(((Below.refl _ w).alloc (Nat.le_refl _) _).alloc (by simp) _);have h1:=h (r6b fn a.tmps ps a0 body w.heap.size) _ Z Z hs i0 Z Z Z j0 m0 n0 (by simp);rw[←q0] at h1;have o0:a.eval g=.func (.func f) #[] caps:=by rw[s2a,he];exact hg
 have e0:=run_enterLoop_outer (P:=P) (w:=w) fn a.tmps ps a0 body;change (Instr.enterLoop fn a.tmps ps a0 body none).run P w=.ok (w.heap.size+1,[y5a w.heap.size]) ((w.alloc (.deferred (some []))).alloc (.loop (r6b fn a.tmps ps a0 body w.heap.size))) at e0;clear j0 m0 n0;generalize ((w.alloc (.deferred (some []))).alloc (.loop (r6b fn a.tmps ps a0 body w.heap.size)))=W1 at h1 e0;have g0:(resolve a.eval (rangeCall g (w.heap.size+1)) 0).run P W1=.ok { target:=.fn (.func f) caps,args:=#[.func (.yield (w.heap.size+1)) #[] #[]] } W1:=by
  simp only[resolve,o0];simp[go_sem]
 have f0:(invoke (.fn (.func f) caps) #[.func (.yield (w.heap.size+1)) #[] #[]]).run P W1=.ok (.enter f (#[.func (.yield (w.heap.size+1)) #[] #[]]++caps)) W1:=by
  simp[invoke,go_sem,hH _ _]
 refine⟨w.heap.size+1,[y5a w.heap.size],W1,{ target:=.fn (.func f) caps,args:=#[.func (.yield (w.heap.size+1)) #[] #[]] },W1,f,#[.func (.yield (w.heap.size+1)) #[] #[]]++caps,W1,e0,g0,fun _ _=>trivial,f0,fun hh=>(by simp[fc,Fence.wide] at hh),?_⟩;refine b5a (Calls.mono h1 ?_);rintro en w3 ⟨_,rfl,rc,hl,p0,b0⟩;have d0:=run_endLoop (P:=P) hl p0;generalize (w3.putObj (w.heap.size+1) (.loop { rc with state:=.exhausted }))=W4 at d0 b0;refine⟨rc.pending,W4,d0,?_⟩;subst hd;have c0:Y0a { tmps:=a.tmps,defers:=[y5a w.heap.size]++a.defers }=e:=i0;rcases b0 with⟨hp|hp,hn⟩|⟨hp,ht⟩
 ·rw[hp];show a.tmps.size=N∧n (y5a w.heap.size::a.defers) (Y0a _) W4;rw[c0];exact⟨hs,hn⟩
 ·rw[hp];refine wpIn_exit ?_;show a.tmps.size=N∧G3b id n b id (y5a w.heap.size::a.defers) (Y0a _) W4;rw[c0];exact⟨hs,v9a hn⟩
 ·rw[hp];refine wpIn_ret ?_;show a.tmps.size=N∧t (y5a w.heap.size::a.defers) (Y0a _) W4;rw[c0];exact⟨hs,ht⟩
end
section
variable {P:Program} {fn:Func} {R:Value→World→Prop} {D:List Deferred} {e:Env} {w:World}
theorem Q8b{t u:Nat}(h:fn.results=#[.tmp t,.tmp u]){v1 v2:Value}(rs:List Nat)(hD:D=rs.map y5a)(hn:rs.Nodup)(hO:NC w (Z7a rs))(hR:∀w',S0a rs w w'→R (.tuple #[v1,v2]) w')(h1:e t=v1:=by conv=>lhs;whnf)(h2:e u=v2:=by conv=>lhs;whnf):i6a P fn R D e w :=
 ⟨rs,hD,hn,hO,fun w' hb _ tmps he=>by subst he;subst h1;subst h2;exact⟨_,by simp[results,h];rfl,by simpa[Y0a] using hR w' hb⟩⟩
theorem y8a{a1 t1 g1:Nat}{v1:Value}(h:fn.results=#[.cell a1 t1])(o1:One P t1)(e1:e a1=.pointer (some ⟨g1,0,none⟩))(rs:List Nat)(hD:D=rs.map y5a)(hn:rs.Nodup)(hO:NC w (Z7a rs))(hc:w.cell? ⟨g1,0,none⟩=some v1)(hg:g1∉rs)(hR:∀w',S0a rs w w'→R v1 w'):i6a P fn R D e w :=
 ⟨rs,hD,hn,hO,fun w' hb _ tmps he=>by
  have hk:z0a rs w w':=⟨hb.size,hb.block⟩;have c2:=hk.cell (a:=⟨g1,0,none⟩) hg hc;subst he;simp only[Y0a,Array.getD_eq_getD_getElem?] at e1;have h2:(loadVar t1 ⟨g1,0,none⟩).run P w'=.ok v1 w':=by rw[o1 w'];simp[load,Sem.run,c2]
  exact⟨_,by simp[results,h,asAddr,e1,h2],hR w' hb⟩⟩
end
theorem m1d(run:List c0a)(i j:Nat):(wo run i j).length≤run.length:=by
 have:∀(l:List c0a) (k:Nat),(woR i j k l).length≤l.length:=by
  intro l
  induction l with
  | nil=>intro k;simp[woR]
  | cons x l ih=>intro k;unfold woR;have:=ih (k+1);split<;>simp<;>omega
 exact this run 0
theorem a7b{run:List c0a}{i j k:Nat}:(wo (run.take k) i j).length≤k:=by
 have h1:=m1d (run.take k) i j;have h2:=List.length_take_le k run;omega
theorem RdS.takeK{α:Type}{M:List Nat}{w:World}{size:Nat}{R:List Value→α→Prop}{A:Option Addr}{n c:Nat}{l:List α}(h:RdS M w size R (.slice A n c) l)(i:Nat)(hi:i≤n):RdS M w size R (.slice A i i) (l.take i):=by
 obtain⟨_,_,_,he,h1,_,_,h4,h5⟩:=h.take i hi;cases he;exact⟨_,_,_,Z,h1,Nat.le_refl _,by omega,h4,h5⟩
theorem f1c(M Mx:List Nat)(w0:World)(v:Value)(l:List c0a)(hR:w5a M w0 v l)(hl:l.length≤1000)(hM:∀g∈Mx,g<w0.heap.size):
 N0a prog 54 #[v] w0 fun v w'=>w5a Mx w' v l∧Below w0.heap.size w0 w':=by
 obtain⟨_,n,_,rfl⟩:=hR.form;obtain⟨_,_⟩:=hR.len;have S:=St.refl w0;refine a0a func54 Z ntmps54 Z ?_;refine wOn 9 S.k [] Z U (Z7b b2a.slT Z Z Z (fun h4=>?_) fun h4=>?_)
 ·refine lR0 Z U (r0a Z ?_);subst h4;obtain⟨A',n',c',he,h1,h2,h3,h5,h6⟩:=hR;cases he;have h0:l.length=0:=by
   rcases Nat.eq_zero_or_pos n with h|h
   ·omega
   ·obtain⟨_,_,h7,_⟩:=h6 h;cases h7
  obtain rfl:=List.length_eq_zero_iff.1 h0;exact⟨a2a,S.fin⟩
 refine lO0 Z U (C7a S b2a Z ?_);intro g5 w5 S5 X5 G5;refine lO0 Z U ?_;refine K2a N1a (M2:=[]) (k:=0) S5 b2a Z x1a.new Z Z (hR.keep (S5.keep0 M)) (by simp;omega) Z ?_;intro v7 G7 a0 w7 S7 R7 X7 F7;refine q0a Z ?_;refine lR0 Z U (r0a Z ?_);rw[List.nil_append] at R7;refine⟨x1a.rd N1a (M:=Mx) R7 S7 (k:=0) Z (fun g hg hh=>?_) (by omega),S7.fin⟩;subst hg;have h1:=S7.new 0 Z;have h2:=hM g hh;simp at h1;omega
theorem L2b(run:List c0a)(i j:Nat)(M Mx:List Nat)(w0:World)(vr:Value)(c0:w5a M w0 vr run)(hM:∀g∈Mx,g<w0.heap.size)(hl:run.length≤1000:=by omega):
 N0a prog 90 #[vr,.int .i64 i,.int .i64 j] w0 fun v w'=>w5a Mx w' v (wo run i j)∧Below w0.heap.size w0 w':=by
 obtain⟨Ar,nr,cr,rfl⟩:=c0.form;obtain⟨_,_⟩:=c0.len;have S:=(St.refl w0).nilEnt 44;refine a0a func90 Z ntmps90 Z ?_;refine wC0 Z U (wL (fun μk D ε w=>D=[]∧∃k:Nat,∃G:Option Nat,∃e0:List Value,∃v:Value,(k+μk=(run.length))∧(x1a (fun _ _=>m4a) 3 [] w0 G e0 v (wo (run.take k) i j))∧St [] w0 w [(G,44,e0)]∧Sl ε [(1,.int .i64 i),(2,.int .i64 j),(7,v),(10,.slice Ar nr cr),(11,.int .i64 nr),(12,.int .i64 k)]) (μ:=(run.length)) ⟨Z,0,none,[],.slice none 0 0,by omega,x1a.nil,S,Z⟩ ?_);rintro μk D ε w ⟨rfl,k,G,e0,v,_,b0,S,eZ⟩;refine wK eZ (wB0 Z U (fun v0=>?_) fun v0=>?_)
 ·obtain⟨x,t0,z0,_,m0,f0,_,i0,g0,j0⟩:=RdS.get (c0) (k) (by omega);obtain⟨rfl,n0,o0,p0⟩:=id j0;refine lO (S.k.a g0) [.x t0 z0,.v 0] Z ⟨⟨Z,i0⟩,⟨f0,by omega⟩,U⟩ (j0a S f2b Z Z ?_);intro g9 w9 S9 X9 G9;refine lO0 Z U (e0a (kk:=0) (vs:=[_,_,_]) S9 H1b Z Z Z Z Z Z Z ?_);intro A0 a0 s0;dsimp only[n0a,List.set] at a0;refine lB0 Z U (fun x0=>?_) fun x0=>?_
  ·refine lB0 Z U (fun y0=>?_) fun y0=>?_
   ·refine lOn 5 a0.k [] Z U (y0a Z ?_);refine lO a0.k [.w 0] Z ⟨⟨Z,by rfl⟩,U⟩ (g0a a0 b2a (vs:=[.agg _]) (cs:=[_,_,_]) Z Z Z Z Z Z ?_);intro G0 I0 q0 E0 C0;have lf:(wo (run.take k) i j).length≤k:=a7b;refine B0a N1a (k:=2) (M2:=[]) (e1:=x) q0 b2a Z b0 Z Z (q0.cells 0 Z) ⟨Z,n0,o0,p0⟩ Z ?_;intro H0 D0 u0 J0 r0 d0 F0 B0;refine q0a Z ?_;refine lP0 Z ⟨by omega,U⟩ ⟨μk-1,by omega,Z,(k+1),(_),(_),(_),(by omega),?_,r0.tail.tail,Z⟩;rw[H0d m0 ⟨by omega,by omega⟩];exact d0
   refine lP0 Z ⟨by omega,U⟩ ⟨μk-1,by omega,Z,(k+1),(_),(_),(_),(by omega),?_,a0.tail,Z⟩;rw[U1d m0];exact b0
  refine lP0 Z ⟨by omega,U⟩ ⟨μk-1,by omega,Z,(k+1),(_),(_),(_),(by omega),?_,a0.tail,Z⟩;rw[U1d m0];exact b0
 refine lOn 8 S.k [] Z U (y0a Z ?_);refine q0a Z ?_;refine lR0 Z U (r0a Z ?_);refine⟨x1a.rd N1a (M:=Mx) (by rw[List.take_of_length_le (by omega)] at b0;exact b0) S (k:=0) Z (fun g hg hh=>?_) (by have:=m1d run i j;omega),S.fin⟩;subst hg;have h1:=S.new 0 Z;have h2:=hM g hh;simp at h1;omega
theorem A0c(cs:List Value)(h4:cs.length=4)(m:Int)(w0:World):
 N0a prog 52 #[.agg cs.toArray,.int .i64 m] w0 fun v w'=>(∃gp gm,v=.func (.func 88) #[] #[.pointer (some ⟨gp,0,none⟩),.pointer (some ⟨gm,0,none⟩)]∧w0.heap.size≤gp∧w0.heap.size≤gm ∧
  E0a w' (gp,27,cs)∧E0a w' (gm,3,[.int .i64 m]))∧Below w0.heap.size w0 w':=by
 have S:=St.refl w0
 match cs,h4 with
 | [c0,c1,c2,c3],_ =>
 refine a0a func52 Z ntmps52 Z ?_;refine wO0 Z U (m0a S Z ?_);intro g2 w2 S2 X2 G2;refine O8a S2 (v:=.int .i64 _) Z Z Z ?_;intro g3 w3 S3 X3 G3;refine lO0 Z U (e2a Z Z ?_);refine lR0 Z U (r0a Z ?_);exact⟨⟨g2,g3,Z,by simpa using S3.new 1 Z,by simpa using S3.new 0 Z,S3.blk 1 Z,S3.blk 0 Z⟩,S3.fin⟩
theorem j0b(p:h0a)(m:Int)(hm:m=0∨m=1∨m=2)(run:List c0a)(hlen:run.length≤120)(gp gm:Nat)(M:List Nat)(w0:World)(cs:List Value)(vr:Value)(hI:InP p M w0 cs)(b0:w5a M w0 vr run)(m0:E0a w0 (gp,27,cs))(j0:E0a w0 (gm,3,[.int .i64 m])):
 N0a prog 88 #[vr,.pointer (some ⟨gp,0,none⟩),.pointer (some ⟨gm,0,none⟩)] w0 fun v w'=>(∃A n c,v=.tuple #[.slice A n c,.bool (p3a p m run).isSome]∧∀d,p3a p m run=some d→∀M',w5a M' w0 vr run→w5a M' w' (.slice A n c) d)∧Below w0.heap.size w0 w':=by
 obtain⟨Ac,nc,cc,Am,nm,cm,Al,nl,cl,At,nt,ct,rfl,-⟩:=hI.rd.open_;obtain⟨_,_,_,rfl⟩:=b0.form;obtain⟨_,_⟩:=b0.len;have o0:O1a w0 gp 0 [.slice Ac nc cc,.slice Am nm cm,.slice Al nl cl,.slice At nt ct]:=fun j v hj=>by rw[Nat.zero_add];exact m0.cell hj
 have n0:O1a w0 gm 0 [.int .i64 m]:=fun j v hj=>by rw[Nat.zero_add];exact j0.cell hj
 have p0:[Value.slice Ac nc cc,.slice Am nm cm,.slice Al nl cl,.slice At nt ct].length=4:=Z;have y0:[Value.int .i64 m].length=1:=Z;have S:=St.refl w0;refine a0a func88 Z ntmps88 Z ?_;refine wO ((S.k.a n0).a o0) [.v 0,.f 1 0] Z ⟨Z,⟨Z,p0⟩,U⟩ (x0a S E2c Z Z (r5b p m hm run M _ _ _ (hI.keep (S.keep0 M)) (b0.keep (S.keep0 M)) hlen) ?_);rintro z0 s0 ⟨_,rfl,hV⟩ c0 t0;have KV:=z0a.refl M s0;obtain⟨_,_,_,rfl⟩:=hV.form;obtain⟨_,_⟩:=hV.len;refine lB0 Z U (fun i0=>?_) fun i0=>?_
 ·refine lR0 Z U (r9b Z ?_);have h0:c3a p m run=[]:=List.length_eq_zero_iff.1 (by omega);rw[e9a.2 h0];exact⟨⟨_,_,_,Z,fun d hd=>by cases hd⟩,c0.fin⟩
 obtain⟨x0,g0,r0,_,a0,d0,_,_,e0,f0⟩:=RdS.get (hV) (0) (by omega);obtain⟨rfl,-,-,-,-,-⟩:=f0;have u0:=r8b (List.mem_of_getElem? a0);have v0:=o5a p m run;obtain⟨n,hn⟩:∃n:Nat,x0.at_+1=n:=⟨(x0.at_+1).toNat,by omega⟩;refine lO (c0.k.b e0) [.x g0 r0,.f 0 0] Z ⟨by omega,Z,⟨d0,by omega⟩,U⟩ (n1c (k:=n) b2a.slT Z (congrArg (Value.int .i64) hn) (congrArg (Value.int .i64) hn) (by omega) Z ?_);refine lR0 Z U (r9b Z ?_);have q0:p3a p m run=some (run.take n):=by
  unfold p3a;cases hw:c3a p m run with
  | nil=>rw[hw] at a0;cases a0
  | cons v l =>
    rw[hw] at a0;cases a0;show some (run.take (x0.at_+1).toNat)=_;rw[hn];rfl
 rw[q0];refine⟨⟨_,_,_,Z,fun d hd M' hR=>?_⟩,c0.fin⟩;cases hd;exact RdS.takeK (hR.keep (c0.keep0 M')) n (by omega)
theorem X5c{α:Type}{l1 l2:List α}{a:α}(h:(l1++[a]) <+: l2):l2[l1.length]?=some a:=by
 obtain⟨_,rfl⟩:=h;simp
theorem Y3b(run:List c0a)(k:Nat):(q3c run k).length=k:=by simp[q3c]
theorem m8b{run:List c0a}{i:Nat}:∀n,i≤n→q3c run i <+: q3c run n
 | 0,h=>by obtain rfl:i=0:=by omega
           exact List.prefix_rfl
 | n+1,h=>by
   by_cases hi:i=n+1
   ·subst hi;exact List.prefix_rfl
   ·rw[X5b];exact(m8b n (by omega)).trans (List.prefix_append _ _)
theorem g8b{run:List c0a}{i:Nat}:∀n,i≤n→p0c run i <+: p0c run n
 | 0,h=>by obtain rfl:i=0:=by omega
           exact List.prefix_rfl
 | n+1,h=>by
   by_cases hi:i=n+1
   ·subst hi;exact List.prefix_rfl
   ·rw[L1b];exact(g8b n (by omega)).trans (List.prefix_append _ _)
theorem E8b{run:List c0a}{i j:Nat}:∀n,j≤n→K6b run i j <+: K6b run i n
 | 0,h=>by obtain rfl:j=0:=by omega
           exact List.prefix_rfl
 | n+1,h=>by
   by_cases hi:j=n+1
   ·subst hi;exact List.prefix_rfl
   ·refine(E8b n (by omega)).trans ?_;by_cases hn:i<n
    ·cases hp:a2b run i n with
     | true=>rw[i4b hn hp];exact List.prefix_append _ _
     | false=>rw[d4b hp];exact List.prefix_rfl
    ·rw[h8b (show n≤i+1 by omega)];exact List.nil_prefix
theorem y5c{run:List c0a}{k:Nat}(h:k<run.length):(g9a run)[k]?=some (wo run k k):=by
 have h1:(q3c run k++[wo run k k]) <+: g9a run:=by
  rw[←X5b];exact(m8b run.length (by omega)).trans (List.prefix_append _ _)
 have:=X5c h1
 rwa [Y3b] at this
theorem n4c{run:List c0a}{i j:Nat}(a0:i<j)(hj:j<run.length)(hp:a2b run i j=true):(g9a run)[run.length+(p0c run i).length+(K6b run i j).length]?=some (wo run i j):=by
 have h1:((q3c run run.length++(p0c run i++K6b run i j))++[wo run i j]) <+: g9a run:=by
  have h2:=g8b (run:=run) (i:=i+1) run.length (by omega);rw[L1b] at h2;have h3:=E8b (run:=run) (i:=i) (j:=j+1) run.length (by omega);rw[i4b a0 hp] at h3;unfold g9a;rw[List.append_assoc,List.append_assoc];refine(List.prefix_append_right_inj _).2 (((List.prefix_append_right_inj _).2 h3).trans h2)
 have:=X5c h1
 rwa [List.length_append,List.length_append,Y3b,←Nat.add_assoc] at this
theorem u7b(run:List c0a):(g9a run).length=run.length+(p0c run run.length).length:=by
 unfold g9a;rw[List.length_append,Y3b]
theorem K5b{run:List c0a}{i j:Nat}{x y:c0a}(hx:run[i]?=some x)(hy:run[j]?=some y)(h2:x.step≠-1)(h1:x.thread=y.thread:=by omega)(h3:y.step=-1:=by omega):a2b run i j=true:=by
 unfold a2b;rw[hx,hy];simp[h1,h2,h3]
theorem J3b{run:List c0a}{i j:Nat}{x y:c0a}(hx:run[i]?=some x)(hy:run[j]?=some y)(h:x.thread≠y.thread∨x.step=-1∨y.step≠-1):a2b run i j=false:=by
 unfold a2b;rw[hx,hy];simp only[decide_eq_false_iff_not];rintro⟨h1,h2,h3⟩;rcases h with h|h|h
 ·exact h h1
 ·exact h2 h
 ·exact h h3
theorem St.same1{g t k:Nat}{cs:List Value}{L:List Ent}{w w':World}(S:St [g] w w' L)(hb:E0a w (g,t,cs))(hk:L[k]?=some (some g,t,cs)):Below w.heap.size w w':=by
 have h1:=S.blk k hk;refine(⟨S.below.os,S.below.tape,S.below.output,S.below.size,fun q hq hm=>?_⟩:S0a [] w w').nil;by_cases h:q=g
 ·subst h;unfold E0a at h1 hb;rw[h1,hb]
 ·exact S.below.block q hq (by simpa using h)
theorem s8a(A:Option Addr)(n a0:Nat)(w0:World):
 N0a prog 53 #[.slice A n a0] w0 fun v w'=>(∃gr,v=.func (.func 89) #[] #[.pointer (some ⟨gr,0,none⟩)]∧w0.heap.size≤gr∧E0a w' (gr,41,[.slice A n a0]))∧Below w0.heap.size w0 w':=by
 have S:=St.refl w0;refine a0a func53 Z ntmps53 Z ?_;refine wO0 Z U (O8a S (v:=.slice _ _ _) Z Z Z ?_);intro g1 w1 S1 X1 G1;refine lO0 Z U (e2a Z Z ?_);refine lR0 Z U (r0a Z ?_);exact⟨⟨g1,Z,by simpa using S1.new 0 Z,S1.blk 0 Z⟩,S1.fin⟩
structure k7c (run:List c0a) (l:Nat) (Bs M0:List Nat) (w0:World) (J:Nat→World→Prop) (Q:World→Prop):Prop where
 start:∀w,Below w0.heap.size w0 w→J 0 w
 own:∀k w w',J k w→Below w.heap.size w w'→J k w'
 keep:∀k w,J k w→z0a Bs w0 w
 each:∀k w r v,J k w→(g9a run)[k]?=some r→w5a (Bs++M0) w v r→Yld prog l #[v] w fun u w'=>(u=.bool true∧z0a Bs w w'∧J (k+1) w')∨(u=.bool false∧Q w')
theorem O7a(run:List c0a)(p1:run.length≤120)(gr l:Nat)(Bs M0:List Nat)(w0:World)(vr:Value)(J:Nat→World→Prop)(Q:World→Prop)(c0:w5a (Bs++M0) w0 vr run)(u0:E0a w0 (gr,41,[vr]))(T0:gr∉Bs)(hM:∀g∈Bs++M0,g<w0.heap.size)(hJ:k7c run l Bs M0 w0 J Q):
 N0a prog 89 #[.func (.yield l) #[] #[],.pointer (some ⟨gr,0,none⟩)] w0 fun _ w'=>J (g9a run).length w'∨Q w':=by
 obtain⟨Ar,nr,cr,rfl⟩:=c0.form;obtain⟨_,_⟩:=c0.len;have d1:=hJ.start w0 (Below.refl _ _);have S:=St.refl w0;have d0:w0.cell? ⟨gr,0,none⟩=some (.slice Ar nr cr):=u0.cell Z;refine a0a func89 Z ntmps89 Z ?_;refine wO0 Z U (s0a L7a Z (by first|exact d0) Z ?_);refine lC0 Z U (wL (fun μ D ε w=>D=[]∧∃k:Nat,(k+μ=run.length)∧(J k w)∧ε 0=.func (.yield l) #[] #[]∧ε 1=.pointer (some ⟨gr,0,none⟩)∧ε 9=.int .i64 nr∧ε 10=.int .i64 k) (μ:=run.length) ⟨Z,0,by omega,d1,Z,Z,Z,Z⟩ ?_);rintro μ D ε w ⟨rfl,k,_,s0,e0,e1,e9,Q0⟩;refine t0a 0 e0 (t0a 1 e1 (t0a 9 e9 (t0a 10 Q0 ?_)));clear e0 e1 e9 Q0;have hK:=hJ.keep _ _ s0;have S:=St.refl w;have d0:w.cell? ⟨gr,0,none⟩=some (.slice Ar nr cr):=hK.cell (a:=⟨gr,0,none⟩) T0 (u0.cell Z);have b0:=c0.keep (hK.mono (fun g hg=>List.mem_append_left M0 hg));have t0:∀g∈Bs++M0,g<w.heap.size:=fun g hg=>by have:=hM g hg;have:=hK.size;omega
 refine wB0 Z U (fun a1=>?_) fun a1=>?_
 ·refine lO0 Z U (s0a L7a Z (by first|exact d0) Z ?_);refine lO0 Z U ?_;refine x0a S x6c Z Z (L2b run k k (Bs++M0) (Bs++M0) _ _ (b0.keep (S.keep0 _)) (fun g hg=>by have:=t0 g hg;have:=S.size;omega)) ?_;rintro q1 u1 L0 W0 n1;refine n9a Z Z Z (hJ.each k _ _ _ (hJ.own _ _ _ s0 W0.fin) (y5c (by omega)) L0) ?_;rintro r1 v1 (⟨rfl,f1,z0⟩|⟨rfl,C0⟩)
  ·exact lP0 Z ⟨by omega,U⟩ ⟨μ-1,by omega,Z,k+1,by omega,z0,Z,Z,Z,Z⟩
  refine lR0 Z U (c2a Z ?_);exact .inr C0
 refine lO0 Z U (s0a L7a Z (by first|exact d0) Z ?_);refine lC0 Z U ?_;refine wL (fun μi D ε w=>D=[]∧∃i:Nat,(i+μi=run.length)∧(J (run.length+(p0c run i).length) w)∧ε 0=.func (.yield l) #[] #[]∧ε 1=.pointer (some ⟨gr,0,none⟩)∧ε 21=.slice Ar nr cr∧ε 22=.int .i64 nr∧ε 23=.int .i64 i) (μ:=run.length) ⟨Z,0,by omega,by rw[show k=run.length by omega] at s0;exact s0,Z,Z,Z,Z,Z⟩ ?_;rintro μi D ε w ⟨rfl,i,_,r0,e0,e1,j0,m0,n0⟩;refine t0a 0 e0 (t0a 1 e1 (t0a 21 j0 (t0a 22 m0 (t0a 23 n0 ?_))));clear e0 e1 j0 m0 n0;have hK:=hJ.keep _ _ r0;have S:=St.refl w;have b0:=c0.keep (hK.mono (fun g hg=>List.mem_append_left M0 hg));have t0:∀g∈Bs++M0,g<w.heap.size:=fun g hg=>by have:=hM g hg;have:=hK.size;omega
 refine wB0 Z U (fun b1=>?_) fun b1=>?_
 ·obtain⟨x,Y0,i1,_,o0,x0,_,H0,E0,J0⟩:=RdS.get (b0) (i) (by omega);obtain⟨rfl,_⟩:=id J0;refine lO (S.k.b E0) [.x Y0 i1,.v 0] Z ⟨⟨Z,H0⟩,⟨x0,by omega⟩,U⟩ (j0a S f2b Z Z ?_);intro g5 w5 S5 X5 G5;refine lO0 Z U ?_
  first|refine e0a (kk:=0) (vs:=[_,_,_]) S5 H1b Z Z Z Z Z Z Z ?_
  intro m1 f0 X0;dsimp only[n0a,List.set] at f0;refine lC0 Z ⟨by omega,U⟩ ?_;refine wL (fun μ D ε w=>D=[]∧∃j:Nat,(j+μ=run.length)∧(i<j)∧(J (run.length+(p0c run i).length+(K6b run i j).length) w)∧(E0a w (g5,44,[.int .i64 x.thread,.int .i64 x.step,.int .i64 x.cell]))∧(w0.heap.size≤g5)∧ε 0=.func (.yield l) #[] #[]∧ε 1=.pointer (some ⟨gr,0,none⟩)∧ε 4=.int .i64 i∧ε 5=.pointer (some ⟨g5,0,none⟩)∧ε 6=.int .i64 j∧ε 21=.slice Ar nr cr∧ε 22=.int .i64 nr∧ε 23=.int .i64 i) (μ:=run.length-(i+1)) ⟨Z,i+1,by omega,by omega,by rw[h8b (Nat.le_refl _)];exact hJ.own _ _ _ r0 f0.fin,f0.blk 0 Z,(by have h1:=hK.size;have h2:=f0.new 0 Z;simp at h2;omega),Z,Z,Z,Z,Z,Z,Z,Z⟩ ?_;rintro μ D ε w ⟨rfl,j,_,U0,g0,i0,v0,e0,e1,e4,e5,e6,j0,m0,n0⟩;refine t0a 0 e0 (t0a 1 e1 (t0a 4 e4 (t0a 5 e5 (t0a 6 e6 (t0a 21 j0 (t0a 22 m0 (t0a 23 n0 ?_)))))));clear e0 e1 e4 e5 e6 j0 m0 n0;have hK:=hJ.keep _ _ g0;have S:=St.borrow1 i0;have g1:g5∉Bs:=fun hh=>by have:=hM g5 (List.mem_append_left _ hh);omega
  have G0:gr∉[g5]:=fun hh=>by rw[List.mem_singleton] at hh;have:=u0.lt;simp at this;omega
  have d0:w.cell? ⟨gr,0,none⟩=some (.slice Ar nr cr):=hK.cell (a:=⟨gr,0,none⟩) T0 (u0.cell Z);have b0:=c0.keep (hK.mono (fun g hg=>List.mem_append_left M0 hg));have t0:∀g∈Bs++M0,g<w.heap.size:=fun g hg=>by have:=hM g hg;have:=hK.size;omega
  refine wO0 Z U (s0a L7a Z (by exact d0) Z ?_);refine lB0 Z U (fun c1=>?_) fun c1=>?_
  ·refine lO0 Z U (s0a L7a Z (by exact d0) Z ?_);obtain⟨_,Z0,j1,_,p0,y0,_,I0,F0,K0⟩:=RdS.get (b0) (j) (by omega);obtain⟨rfl,_⟩:=id K0;refine lO (S.k.b F0) [.x Z0 j1,.v 0] Z ⟨⟨Z,I0⟩,⟨y0,by omega⟩,U⟩ (j0a S f2b Z Z ?_);intro g7 w7 S7 X7 G7;refine e0a (kk:=0) (vs:=[_,_,_]) S7 H1b Z Z Z Z Z Z Z ?_;intro V0 a0 P0;dsimp only[n0a,List.set] at a0;refine lB a0.k [.o 1,.o 0] Z ⟨Z,Z,U⟩ (fun R0=>?_) fun R0=>?_
   ·refine lP0 Z ⟨by omega,U⟩ ?_;exact⟨μ-1,by omega,Z,j+1,by omega,by omega,by rw[d4b (J3b o0 p0 (by exact .inl R0))];exact hJ.own _ _ _ g0 (a0.same1 i0 (k:=1) Z),a0.blk 1 Z,v0,Z,Z,Z,Z,Z,Z,Z,Z⟩
   refine lB a0.k [.o 1] Z ⟨Z,U⟩ (fun q0=>?_) fun q0=>?_
   ·refine lP0 Z ⟨by omega,U⟩ ?_;exact⟨μ-1,by omega,Z,j+1,by omega,by omega,by rw[d4b (J3b o0 p0 (by exact .inr (.inl q0)))];exact hJ.own _ _ _ g0 (a0.same1 i0 (k:=1) Z),a0.blk 1 Z,v0,Z,Z,Z,Z,Z,Z,Z,Z⟩
   refine lB a0.k [.o 0] Z ⟨Z,U⟩ (fun S0=>?_) fun S0=>?_
   ·refine lP0 Z ⟨by omega,U⟩ ?_;exact⟨μ-1,by omega,Z,j+1,by omega,by omega,by rw[d4b (J3b o0 p0 (by exact .inr (.inr S0)))];exact hJ.own _ _ _ g0 (a0.same1 i0 (k:=1) Z),a0.blk 1 Z,v0,Z,Z,Z,Z,Z,Z,Z,Z⟩
   refine lO0 Z U ?_;have d0:=a0.keepM.cell (a:=⟨gr,0,none⟩) G0 d0;refine s0a L7a Z (by exact d0) Z ?_;refine lO0 Z U ?_;refine x0a a0 x6c Z Z (L2b run i j (Bs++M0) (Bs++M0) _ _ (b0.keep (z0a.of_below (a0.same1 i0 (k:=1) Z)).of_nil) (fun g hg=>by have:=t0 g hg;have:=a0.size;omega)) ?_;rintro s1 w1 N0 O0 o1;refine n9a Z Z Z (hJ.each _ _ _ _ (hJ.own _ _ _ g0 (O0.same1 i0 (k:=1) Z)) (n4c U0 (by omega) (K5b o0 p0 q0)) N0) ?_;rintro t1 x1 (⟨rfl,B0,A0⟩|⟨rfl,D0⟩)
   ·refine lP0 Z ⟨by omega,U⟩ ?_;exact⟨μ-1,by omega,Z,j+1,by omega,by omega,by rw[i4b U0 (K5b o0 p0 q0),List.length_append];exact A0,v2a B0 g1 (O0.blk 1 Z),v0,Z,Z,Z,Z,Z,Z,Z,Z⟩
   refine lR0 Z U (c2a Z ?_);exact .inr D0
  refine lP0 Z ⟨by omega,U⟩ ?_;exact⟨μi-1,by omega,Z,i+1,by omega,by rw[L1b,List.length_append,←Nat.add_assoc];rw[show j=run.length by omega] at g0;exact g0,Z,Z,Z,Z,Z⟩
 refine lF0 Z U (c2a Z ?_);left;rw[u7b];rw[show i=run.length by omega] at r0;exact r0
theorem H4c{p:h0a}{m:Int}{run:List c0a}(h1:p3a p m run=some run)(h2:∀q r,q<(g9a run).length→(g9a run)[q]?=some r→p3a p m r=none):p6b p m run=true:=by
 unfold p6b;rw[h1,g7a.2 fun r hr=>by
  obtain⟨q,hq,rfl⟩:=List.getElem_of_mem hr;exact h2 q _ hq (List.getElem?_eq_getElem hq)]
 simp
theorem p8c{p:h0a}{m:Int}{run r:List c0a}(h1:r∈g9a run)(h2:(p3a p m r).isSome=true):p6b p m run=false:=by
 unfold p6b;cases h:v5b p m run with
 | none=>rw[g7a.1 h r h1] at h2;cases h2
 | some d=>simp
theorem d7c{p:h0a}{m:Int}{run d:List c0a}(h1:p3a p m run=some d)(h2:d.length≠run.length):p6b p m run=false:=by
 unfold p6b;rw[h1,decide_eq_false (fun h=>h2 (by cases h;rfl))];rfl
theorem B3c{p:h0a}{m:Int}{run d:List c0a}(h1:p3a p m run=some d)(h2:d.length=run.length):d=run:=by
 rw[(H0b h1).pre,h2,List.take_length]
theorem p7a(p:h0a)(m:Int)(hm:m=0∨m=1∨m=2)(run:List c0a)(M:List Nat)(w0:World)(cs:List Value)(vr:Value)(hI:InP p M w0 cs)(e0:w5a M w0 vr run)(hlen:run.length≤120:=by decide):
 N0a prog 21 #[.agg cs.toArray,.int .i64 m,vr] w0 fun v w'=>v=.bool (p6b p m run)∧Below w0.heap.size w0 w':=by
 obtain⟨Ac,nc,cc,Am,nm,cm,Al,nl,cl,At,nt,ct,rfl,-⟩:=hI.rd.open_;obtain⟨_,_,_,rfl⟩:=e0.form;obtain⟨_,_⟩:=e0.len;have hM:=hI.lt;have S:=St.refl w0;refine N3a func21 Z ntmps21 Z (wI ?_);refine wO0 Z U (m0a S Z ?_);intro g3 w3 S3 X3 G3;refine j0a S3 n3d Z Z ?_;intro g6 w6 S6 X6 G6;refine lO S6.k [.w 1] Z ⟨⟨Z,by rfl⟩,U⟩ ?_;have w1:=S6.lt 0 Z;refine x0a S6 J6c Z Z (A0c _ Z m _) ?_;rintro B1 q1 ⟨gp,gm,rfl,_,_,F0,E0⟩ V0 v1;have KP:=z0a.refl [] q1;refine j0a V0 U5c Z Z ?_;intro g7 w7 S7 X7 G7;have t0:=Nat.le_trans KP.size G7;replace KP:=KP.trans X7;refine u0a (kk:=0) S7 d6c Z Z Z (by exact Nat.le_of_ble_eq_true Z) ?_;intro s1 b0 x0;replace KP:=KP.fresh x0 (by first|exact t0);refine lO b0.k [.o 0] Z ⟨Z,U⟩ ?_;have Sc:=b0;refine n0b b0 d8b Z Z Z (j0b p m hm run hlen gp gm M _ _ _ (hI.keep (b0.keep0 M)) (e0.keep (b0.keep0 M)) (E1a KP F0) (E1a KP E0)) ?_;rintro C1 r1 ⟨Ad,nd,cd,rfl,hF⟩ m0 W0;replace KP:=KP.trans W0;have u0:=z0a.refl [] r1;refine lOn 10 m0.k [] Z U ?_;cases o0:(p3a p m run).isSome
 ·refine y0a (hv:=Z) (v:=.bool _) Z ?_;refine lO0 Z U (u0a (kk:=1) m0 q6b Z Z Z (by exact Nat.le_of_ble_eq_true Z) ?_);intro N0 c0 y0;refine lR0 Z U ?_;exact y8a Z i2a Z [] Z List.nodup_nil NC.nil (c0.cell 1 Z Z) (by simp) (fun w' hb=>⟨congrArg Value.bool (by exact(f1d (e9a.1 (Option.not_isSome_iff_eq_none.1 (by rw[o0];simp)))).symm),(c0.below.trans hb).nil⟩)
 refine y0a (hv:=Z) (v:=.bool _) Z ?_;obtain⟨d,hd⟩:=Option.isSome_iff_exists.1 o0;have x1:=((hF d hd M (e0.keep (Sc.keep0 M))).len).1;refine lB0 Z U (fun X0=>?_) fun X0=>?_
 ·refine lO0 Z U (u0a (kk:=1) m0 q6b Z Z Z (by exact Nat.le_of_ble_eq_true Z) ?_);intro N0 c0 y0;exact lR0 Z U (y8a Z i2a Z [] Z List.nodup_nil NC.nil (c0.cell 1 Z Z) (by simp) (fun w' hb=>⟨congrArg Value.bool (by exact(d7c hd (by omega)).symm),(c0.below.trans hb).nil⟩))
 obtain rfl:=B3c hd (by omega);refine lO0 Z U (x0a m0 I6c Z Z (s8a _ _ _ _) ?_);rintro D1 g0 ⟨gr,rfl,_,R0⟩ r0 O0;replace KP:=KP.trans O0;replace u0:=u0.trans O0;refine lC0 Z U (wJ ?_);refine k8a (vs:=fun y=>#[y,_]) N6c Z (fun _=>rfl) (fun rc wi L0 T0 j1 G0 g1 a1 b1 c1 hl hB z1=>?_);obtain⟨l,d1⟩:∃l,l=g0.heap.size+1:=⟨_,Z⟩;have Q0:=o6a (NC.nil (w:=g0)) c1 hl hB;rw[←d1] at hl Q0 ⊢;have Si:=r0.later hB;have Ki:z0a [] g0 wi:=z0a.of_below hB;have Zw:=r0.size;have A1:=r0.lt 1 Z;have p1:w0.heap.size≤g6:=by simpa using r0.new 1 Z
 have n1:=F0.lt;have m1:=E0.lt;have o1:=R0.lt;have F1:=KP.size;simp only at n1 m1 o1;have C0:∀g∈[l,g6]++M,g∈M∨w0.heap.size≤g:=fun g hg=>by
  simp only[List.cons_append,List.nil_append,List.mem_cons] at hg;rcases hg with rfl|rfl|hg
  ·right;omega
  ·exact .inr p1
  ·exact .inl hg
 have S0:∀g∈[l,g6]++M,g<wi.heap.size:=fun g hg=>by
  simp only[List.cons_append,List.nil_append,List.mem_cons] at hg;rcases hg with rfl|rfl|hg
  ·omega
  ·omega
  ·have:=hM g hg;omega
 have Y0:InP p ([l,g6]++M) wi _:=⟨(hI.rd.more C0).keep (Si.keep0 _),hI.ok,(hI.msk.more C0).keep (Si.keep0 _),S0⟩;have Z0:w5a ([l,g6]++M) wi (.slice Ad nd cd) d:=(hF _ hd _ ((e0.more (by omega) C0).keep (Sc.keep0 _))).keep ((u0.trans Ki).mono (by simp));have f0:∀x∈[(g0.heap.size,Obj.deferred (some []))],x.1≠l:=fun x hx=>by
  rcases List.mem_cons.1 hx with rfl|hx
  ·show g0.heap.size≠l;omega
  ·cases hx
 have J0:gr∉[l,g6]:=fun hh=>by
  simp only[List.mem_cons,List.not_mem_nil,or_false] at hh;rcases hh with h|h
  ·omega
  ·have:=m0.lt 1 Z;omega
 have I0:gp∉[l,g6]:=fun hh=>by
  simp only[List.mem_cons,List.not_mem_nil,or_false] at hh;omega
 have H0:gm∉[l,g6]:=fun hh=>by
  simp only[List.mem_cons,List.not_mem_nil,or_false] at hh;omega
 refine N0a.mono (O7a d hlen gr l [l,g6] M wi _ (fun k w=>NC w [(l,.loop rc),(g0.heap.size,.deferred (some []))]∧St [] w0 w [(some g7,117,[.func (.func 88) #[] #[.pointer (some ⟨gp,0,none⟩),.pointer (some ⟨gm,0,none⟩)]]),(some g6,4,[.bool false]),(some g3,27,[.slice Ac nc cc,.slice Am nm cm,.slice Al nl cl,.slice At nt ct])]∧z0a [l,g6] wi w∧(∀q r,q<k→(g9a d)[q]?=some r→p3a p m r=none)) (fun w=>NC w [(l,.loop { rc with state:=.done,pending:=some .ret }),(g0.heap.size,.deferred (some []))]∧St [] w0 w [(some g7,117,[.func (.func 88) #[] #[.pointer (some ⟨gp,0,none⟩),.pointer (some ⟨gm,0,none⟩)]]),(some g6,4,[.bool false]),(some g3,27,[.slice Ac nc cc,.slice Am nm cm,.slice Al nl cl,.slice At nt ct])]∧p6b p m d=false) Z0 (E1a Ki R0) J0 S0 ⟨?_,?_,fun k w h=>h.2.2.1,fun k w r v hJ hr hv=>?_⟩) ?_
 ·intro w B0;exact⟨Q0.keep (z0a.of_below B0),Si.later B0,z0a.of_below B0,fun q r hq=>absurd hq (by omega)⟩
 ·rintro k w w' ⟨a0,S3,K3,q0⟩ A0;exact⟨a0.keep (z0a.of_below A0),S3.later A0,K3.trans (z0a.of_below A0),q0⟩
 ·obtain⟨a0,S3,K3,q0⟩:=hJ;have y1:=X8a (List.mem_of_getElem? hr);refine h2c (a0 (l,.loop rc) (by simp)).1 L0 j1 G0 g1 a1 b1 Z ?_;refine wI ?_;refine wOn 1 S3.k [] Z U (q0a Z ?_);refine lF0 Z U ?_;refine⟨(a0 (l,.loop rc) (by simp)).1,?_⟩;have Sb:=S3.putObj (.loop { rc with state:=.busy }) a0 (List.mem_cons_self) (.inl (by omega));have d0:=a0.put (o':=.loop { rc with state:=.busy }) f0 (by simp);have Kw:z0a [l,g6] w (w.putObj l (.loop { rc with state:=.busy })):=(F1a w l (.loop { rc with state:=.busy })).mono (by simp);generalize w.putObj l (.loop { rc with state:=.busy })=wb at Sb d0 Kw ⊢;refine wI ?_;refine wO0 Z U (s0a b3b Z (by exact Sb.cell 0 Z Z) Z ?_);refine y0a Z ?_;refine n0b Sb d8b Z Z Z (j0b p m hm r (by omega) gp gm ([l,g6]++M) _ _ _ (Y0.keep ((K3.trans Kw).mono (by simp))) (hv.keep (Kw.mono (by simp))) (v2a (K3.trans Kw) I0 (E1a (KP.trans Ki) F0)) (v2a (K3.trans Kw) H0 (E1a (KP.trans Ki) E0))) ?_;rintro E1 t1 ⟨_,_,_,rfl,_⟩ s0 P0;replace d0:=d0.keep P0;replace Kw:=Kw.trans P0.of_nil;refine lOn 9 s0.k [] Z U ?_;cases p0:(p3a p m r).isSome
  ·refine y0a (hv:=Z) (v:=.bool _) Z ?_;refine lF0 Z U ?_;refine⟨{ rc with state:=.busy },(d0 (l,_) (by simp)).1,.inl ⟨Z,?_⟩⟩;have D0:=d0.put (o':=.loop rc) f0 (by simp);have Sn:=s0.putObj (.loop rc) d0 (List.mem_cons_self) (.inl (by omega));have Kn:=Kw.trans ((F1a t1 l (.loop rc)).mono (by simp));rw[s0b L0 T0];exact⟨Kn,D0,Sn,K3.trans Kn,fun q r' hq K0=>by
    by_cases i1:q=k
    ·subst i1;rw[hr] at K0;cases K0;exact Option.not_isSome_iff_eq_none.1 (by rw[p0];simp)
    ·exact q0 q r' (by omega) K0⟩
  refine y0a (hv:=Z) (v:=.bool _) Z ?_;refine lO0 Z U (u0a (kk:=1) s0 q6b Z Z Z (by exact Nat.le_of_ble_eq_true Z) ?_);intro u1 v0 z0;replace d0:=by exact d0.keepS z0 (s0.blk 1 Z)
  refine lR0 Z U ?_;refine⟨{ rc with state:=.busy },(d0 (l,_) (by simp)).1,.inr ⟨Z,?_⟩⟩;have D0:=d0.put (o':=.loop { rc with state:=.done,pending:=some .ret }) f0 (by simp);have Sn:=v0.putObj (.loop { rc with state:=.done,pending:=some .ret }) d0 (List.mem_cons_self) (.inl (by omega));exact⟨D0,Sn,p8c (List.mem_of_getElem? hr) p0⟩
 rintro v w3 (⟨a0,S3,K3,q0⟩|⟨a0,S3,f1⟩)
 rotate_left
 ·refine⟨{ rc with state:=.done,pending:=some .ret },(a0 (l,_) List.mem_cons_self).1,by simp,.inr ⟨Z,?_⟩⟩;have Sa:=S3.putObj (.loop { rc with state:=.exhausted,pending:=some .ret }) a0 (List.mem_cons_self) (.inl (by omega));have j0:=(a0.put (o':=.loop { rc with state:=.exhausted,pending:=some .ret }) f0 (by simp)).tail;exact y8a Z i2a Z [g0.heap.size] Z (by simp) j0 (Sa.cell 1 Z Z) (by rw[List.mem_singleton];omega) (fun w' hb=>⟨by rw[f1],(S0a.step Sa.below hb (by simp;omega)).nil⟩)
 refine⟨rc,(a0 (l,.loop rc) (by simp)).1,by rw[L0];simp,.inl ⟨T0,?_⟩⟩;have Sa:=S3.putObj (.loop { rc with state:=.exhausted }) a0 (List.mem_cons_self) (.inl (by omega));have j0:=(a0.put (o':=.loop { rc with state:=.exhausted }) f0 (by simp)).tail;generalize w3.putObj l (.loop { rc with state:=.exhausted })=wa at Sa j0 ⊢;refine fO0 Z U (u0a (kk:=1) Sa q6b Z Z Z (by exact Nat.le_of_ble_eq_true Z) ?_);intro U0 i0 n0;replace j0:=by exact j0.keepS n0 (Sa.blk 1 Z)
 refine lR0 Z U ?_;exact y8a Z i2a Z [g0.heap.size] Z (by simp) j0 (i0.cell 1 Z Z) (by rw[List.mem_singleton];omega) (fun w' hb=>⟨congrArg Value.bool (H4c hd q0).symm,(S0a.step i0.below hb (by simp;omega)).nil⟩)
theorem S9b{p:h0a}{m:Int}{c r d:List c0a}{k:Nat}(h1:∀q r,q<k→(g9a c)[q]?=some r→p3a p m r=none)(h2:(g9a c)[k]?=some r)(h3:p3a p m r=some d):v5b p m c=some d:=by
 unfold v5b;have hk:=(List.getElem?_eq_some_iff.1 h2).1;have e1:g9a c=(g9a c).take k++r::(g9a c).drop (k+1):=by
  rw[←(List.getElem?_eq_some_iff.1 h2).2,←List.drop_eq_getElem_cons hk,List.take_append_drop]
 rw[e1,List.findSome?_append];have e2:((g9a c).take k).findSome? (p3a p m)=none:=by
  rw[List.findSome?_eq_none_iff];intro x hx;obtain⟨q,hq,rfl⟩:=List.getElem_of_mem hx;rw[List.length_take] at hq;refine h1 q _ (by omega) ?_;rw[List.getElem_take,List.getElem?_eq_getElem]
 rw[e2,List.findSome?_cons,h3];rfl
theorem M4c{p:h0a}{m:Int}{c:List c0a}(h2:∀q r,q<(g9a c).length→(g9a c)[q]?=some r→p3a p m r=none):v5b p m c=none :=
 g7a.2 fun r hr=>by
  obtain⟨q,hq,rfl⟩:=List.getElem_of_mem hr;exact h2 q _ hq (List.getElem?_eq_getElem hq)
theorem i3c{p:h0a}{m:Int}{c d:List c0a}(h:v5b p m c=some d):X4b p m c.length c=X4b p m d.length d:=by
 have h1:=N3b h;obtain⟨n,hn⟩:∃n,c.length=n+1:=⟨c.length-1,by omega⟩;rw[hn,D2c h,f3c (by omega)]
theorem O4b(p:h0a)(m:Int)(hm:m=0∨m=1∨m=2)(run:List c0a)(hlen:run.length≤120)(M:List Nat)(w0:World)(cs:List Value)(vr:Value)(hI:InP p M w0 cs)(m0:w5a M w0 vr run):
 N0a prog 18 #[.agg cs.toArray,.int .i64 m,vr] w0 fun v w'=>(∃vl,v=.tuple #[vl,.int .i64 (if(M3a p m run).isSome then 0 else 4)]∧w5a M w' vl ((M3a p m run).getD []))∧Below w0.heap.size w0 w':=by
 obtain⟨Ac,nc,cc,Am,nm,cm,Al,nl,cl,At,nt,ct,rfl,-⟩:=hI.rd.open_;obtain⟨_,_,_,rfl⟩:=m0.form;obtain⟨_,_⟩:=m0.len;have F2:=Y1c (p:=p) (m:=m) run;have hM:=hI.lt;have S:=St.refl w0;refine N3a func18 Z ntmps18 Z ?_;refine x5a ?_;refine u2a ?_;refine m0a S Z ?_;intro g3 w3 S3 X3 G3;refine q0a (hv:=Z) (v:=.slice _ _ _) Z ?_;refine q0a (hv:=Z) (v:=.int .i64 _) Z ?_;refine w0a ?_;refine x5a ?_;refine u2a ?_
 first|refine z1a m2a Z (S3.cells 0 Z) Z Z ?_
 refine y0a (hv:=Z) (v:=.int .i64 _) Z ?_;refine y0a (hv:=Z) (v:=.slice _ _ _) Z ?_;refine x0a S3 E2c Z Z (r5b p m hm run M _ _ _ (hI.keep (S3.keep0 M)) (m0.keep (S3.keep0 M)) hlen) ?_;rintro O2 X2 ⟨vl,rfl,-⟩ R0 C2;refine y0a (hv:=Z) (v:=.tuple _) Z ?_;refine X5a Z Z Z ?_;refine X5a Z Z Z ?_;refine q0a Z ?_;refine q0a (hv:=Z) (v:=.int .i64 _) Z ?_;refine w0a ?_;refine x5a ?_;refine x5a ?_;refine u2a ?_;refine y0a (hv:=Z) (v:=.int .i64 _) Z ?_;refine V7c Z Z Z (fun X1=>?_) fun X1=>?_
 ·exfalso;omega
 refine y0a (hv:=Z) (v:=.bool _) Z ?_;refine I3b Z Z Z ?_;refine y0a (hv:=Z) (v:=.int .i64 _) Z ?_;refine I3b Z Z Z ?_;refine V7c Z Z Z (fun Y1=>?_) fun Y1=>?_
 ·exfalso;omega
 refine w1d Z (v:=.bool _) Z Z ?_;refine w0a ?_;refine W4b Z ?_;refine q5b ?_;refine x5a ?_;refine u2a ?_
 first|refine z1a m2a Z (R0.cells 0 Z) Z Z ?_
 refine y0a (hv:=Z) (v:=.int .i64 _) Z ?_;have E2:=R0.lt 0 Z;refine x0a R0 J6c Z Z (A0c _ Z m _) ?_;rintro P2 w2 ⟨gp,gm,rfl,_,_,c1,a1⟩ Q1 D2;have KP:=z0a.refl [] w2;refine j0a Q1 U5c Z Z ?_;intro K0 U2 N1 U1 K1;have z0:=Nat.le_trans KP.size K1;replace KP:=KP.trans U1;refine u0a (kk:=0) N1 d6c Z Z Z (by exact Nat.le_of_ble_eq_true Z) ?_;intro x2 j0 T0;replace KP:=KP.fresh T0 (by first|exact z0);refine w0a ?_;refine x5a ?_;refine u2a ?_;refine s0a b3b Z (by exact j0.cell 0 Z Z) Z ?_;refine y0a (hv:=Z) (v:=.slice _ _ _) Z ?_;have Sc:=j0;refine n0b j0 d8b Z Z Z (j0b p m hm run hlen gp gm M _ _ _ (hI.keep (j0.keep0 M)) (m0.keep (j0.keep0 M)) (E1a KP c1) (E1a KP a1)) ?_;rintro Q2 I0 ⟨Af,nf,cf,rfl,hF⟩ R1 W1;replace KP:=KP.trans W1;have d1:=E1a KP c1;have b1:=E1a KP a1;have Z2:=KP.size;have g0:=z0a.refl [] I0;refine y0a (hv:=Z) (v:=.tuple _) Z ?_;refine X5a Z Z Z ?_;refine X5a Z Z Z ?_;refine j0a R1 L2d Z Z ?_;intro a0 V2 O1 t1 p1;have u0:=Nat.le_trans g0.size p1;replace g0:=g0.trans t1;refine j0a O1 n3d Z Z ?_;intro b0 W2 P1 V1 M1;have i0:=Nat.le_trans g0.size M1;replace g0:=g0.trans V1;refine u0a (kk:=1) P1 X1d Z Z Z (by exact Nat.le_of_ble_eq_true Z) ?_;intro z2 S0 V0;replace g0:=g0.fresh V0 (by exact u0);refine u0a (kk:=0) S0 q6b Z Z Z (by exact Nat.le_of_ble_eq_true Z) ?_;intro A2 e0 W0;replace g0:=g0.fresh W0 (by exact i0);refine w0a ?_;refine x5a ?_;refine x5a ?_;refine u2a ?_;have F0:w0.heap.size≤a0:=by simpa using e0.new 1 Z
 have G0:w0.heap.size≤b0:=by simpa using e0.new 0 Z
 have t2:=c1.lt;have s2:=a1.lt;have b2:∀g∈[b0,a0]++M,g∈M∨w0.heap.size≤g:=fun g hg=>by
  simp only[List.cons_append,List.nil_append,List.mem_cons] at hg;rcases hg with rfl|rfl|hg
  ·exact .inr G0
  ·exact .inr F0
  ·exact .inl hg
 refine s0a i2a Z (e0.cell 0 Z Z) Z ?_;have L2:I0.heap.size≤a0:=p1;have N2:I0.heap.size≤b0:=by have:=t1.size;omega
 simp only at t2 s2;rcases hps:p3a p m run with _|d;all_goals rw[hps] at e0
 ·refine I0d Z Z ?_;refine w0a ?_;refine S7b Z ?_;refine x5a ?_;refine u2a ?_;refine q0a (hv:=Z) (v:=.slice _ _ _) Z ?_;refine q0a (hv:=Z) (v:=.int .i64 _) Z ?_;refine w0a ?_;refine F8c ?_;exact Q8b (h1:=Z) (h2:=Z) Z [] Z List.nodup_nil NC.nil (fun w' hb=>⟨by rw[show M3a p m run=none by unfold M3a;rw[hps];rfl];exact⟨_,Z,a2a⟩,(e0.below.trans hb).nil⟩)
 refine I0d Z Z ?_;refine w0a ?_;refine W4b Z ?_;refine q5b ?_;refine x5a ?_;refine S1b ?_;refine T5c (fun μ D ε w=>∃rs:List Nat,∃c:List c0a,∃vc:Value,∃b:Bool,D=rs.map y5a∧(rs.Nodup∧∀r∈rs,w0.heap.size≤r)∧(NC w (Z7a rs))∧(c.length≤run.length)∧(X4b p m d.length d=X4b p m c.length c)∧(b=false→v5b p m c=none)∧(2*c.length+b.toNat=μ)∧(w5a ([b0,a0]++M) w vc c)∧(z0a [b0,a0] I0 w)∧St [] w0 w [(some b0,4,[.bool b]),(some a0,41,[vc]),(some K0,117,[.func (.func 88) #[] #[.pointer (some ⟨gp,0,none⟩),.pointer (some ⟨gm,0,none⟩)]]),(some g3,27,[.slice Ac nc cc,.slice Am nm cm,.slice Al nl cl,.slice At nt ct])]∧ε 10=.pointer (some ⟨K0,0,none⟩)∧ε 11=.pointer (some ⟨a0,0,none⟩)∧ε 12=.pointer (some ⟨b0,0,none⟩)) (μ:=2*d.length+1) ⟨[],d,.slice Af nf cf,true,Z,⟨List.nodup_nil,by simp⟩,NC.nil,(H0b hps).len,Z,by simp,Z,(hF d hps _ ((m0.more (by omega) b2).keep (Sc.keep0 _))).keep (g0.mono (by simp)),g0.mono (by simp),e0,Z,Z,Z⟩ ?_;rintro μ D ε w ⟨rs,c,vc,b,rfl,Q0,hO,m2,x0,hb,hμ,P0,q0,S,w1,x1,y1⟩;refine t0a 10 w1 (t0a 11 x1 (t0a 12 y1 ?_));clear w1 x1 y1;obtain⟨Av,nv,cv,rfl⟩:=P0.form;have G2:=P0.len.1;have KL:=z0a.refl [b0,a0] w;refine x5a ?_;refine x5a ?_;refine u2a ?_;refine s0a i2a Z (S.cell 0 Z Z) Z ?_;cases b
 ·refine w0a ?_;refine W4b Z ?_;refine d3c ?_;refine v9a ?_;refine x5a ?_;refine u2a ?_;refine s0a L7a Z (by exact S.cell 1 Z Z) Z ?_;refine x0a S j1d Z Z (f1c ([b0,a0]++M) (rs++M) _ _ c P0 (by omega) (fun g hg=>by rcases List.mem_append.1 hg with h|h;exact hO.lt (g,.deferred (some [])) (List.mem_map.2 ⟨g,h,Z⟩);have:=hM g h;have:=S.size;omega)) ?_;rintro T2 y2 hC T1 U0;replace q0:=q0.trans (U0.of_nil);replace KL:=KL.trans (U0.of_nil);replace hO:=hO.keep U0;have KC:=z0a.refl [] y2;refine q0a Z ?_;refine q0a (hv:=Z) (v:=.int .i64 _) Z ?_;refine w0a ?_;refine F8c ?_;have q2:M3a p m run=some c:=by unfold M3a;rw[hps];show some (X4b p m d.length d)=_;rw[x0,J1b (hb rfl)]
  exact Q8b (h1:=Z) (h2:=Z) Z rs Z Q0.1 hO (fun w' C1=>⟨by rw[q2];exact⟨_,Z,((hC.keep KC.of_nil).keep ((z0a.of_belowM C1).mono (fun g hg=>List.mem_append_left M hg))).less (fun g hg=>List.mem_append_right _ hg)⟩,(S0a.step T1.below C1 Q0.2).nil⟩)
 refine w0a ?_;refine S7b Z ?_;refine q5b ?_;refine S1b ?_;refine x5a ?_;refine u2a ?_;refine u0a (kk:=0) S q6b Z Z Z (by exact Nat.le_of_ble_eq_true Z) ?_;intro B2 r0 v0;replace q0:=q0.fresh2 v0 (by exact .inl i0);replace KL:=KL.fresh2 v0 (by exact .inr (by simp));replace hO:=by exact hO.keepS v0 (S.blk 0 Z)
 refine w0a ?_;refine x5a ?_;refine u2a ?_;refine s0a L7a Z (by exact r0.cell 1 Z Z) Z ?_;have J2:=r0.lt 1 Z;have K2:=r0.lt 0 Z;refine x0a r0 I6c Z Z (s8a _ _ _ _) ?_;rintro R2 p0 ⟨gr,rfl,_,D1⟩ r1 J0;replace q0:=q0.trans (J0.of_nil);replace KL:=KL.trans (J0.of_nil);replace hO:=hO.keep J0;have v1:=J0;refine w0a ?_;refine f6b (vs:=fun y=>#[y,_]) N6c Z (fun _=>rfl) (fun rc wi o1 G1 r2 f1 m1 i2 j2 n2 hl hB I2=>?_);obtain⟨l,o2⟩:∃l,l=p0.heap.size+1:=⟨_,Z⟩;have A1:=o6a hO n2 hl hB;rw[←o2] at hl A1 ⊢;have Si:=r1.later hB;have Ki:z0a [] p0 wi:=z0a.of_below hB;have Zw:=r1.size;have a3:=q0.size;have Y2:=KL.size;have u2:=D1.lt;simp only at u2;have z1:∀g∈[l,b0,a0]++M,g∈M∨w0.heap.size≤g:=fun g hg=>by
  simp only[List.cons_append,List.nil_append,List.mem_cons] at hg;rcases hg with rfl|rfl|rfl|hg
  ·right;omega
  ·exact .inr G0
  ·exact .inr F0
  ·exact .inl hg
 have f2:∀g∈[l,b0,a0]++M,g∈[b0,a0]++M∨w.heap.size≤g:=fun g hg=>by
  simp only[List.cons_append,List.nil_append,List.mem_cons] at hg ⊢;rcases hg with rfl|hg
  ·right;omega
  ·exact .inl hg
 have F1:∀g∈[l,b0,a0]++M,g<wi.heap.size:=fun g hg=>by
  simp only[List.cons_append,List.nil_append,List.mem_cons] at hg;rcases hg with rfl|rfl|rfl|hg
  ·omega
  ·have:=Ki.size;have:=v1.size;omega
  ·have:=Ki.size;have:=v1.size;omega
  ·have:=hM g hg;omega
 have a2:InP p ([l,b0,a0]++M) wi _:=⟨(hI.rd.more z1).keep (Si.keep0 _),hI.ok,(hI.msk.more z1).keep (Si.keep0 _),F1⟩;have B1:w5a ([l,b0,a0]++M) wi (.slice Av nv cv) c:=((P0.more (by omega) f2).keep (KL.mono (by simp))).keep (Ki.mono (by simp));have n0:∀x∈(p0.heap.size,Obj.deferred (some []))::Z7a rs,x.1≠l:=fun x hx=>by
  rcases List.mem_cons.1 hx with rfl|hx
  ·show p0.heap.size≠l;omega
  ·have:=hO.lt x hx;omega
 have j1:gr∉[l,b0,a0]:=fun hh=>by
  simp only[List.mem_cons,List.not_mem_nil,or_false] at hh;omega
 have D0:gp∉[l,b0,a0]:=fun hh=>by
  simp only[List.mem_cons,List.not_mem_nil,or_false] at hh;omega
 have C0:gm∉[l,b0,a0]:=fun hh=>by
  simp only[List.mem_cons,List.not_mem_nil,or_false] at hh;omega
 have E0:(p0.heap.size::rs).Nodup∧∀r∈p0.heap.size::rs,w0.heap.size≤r:=⟨List.nodup_cons.2 ⟨fun hh=>by have:=hO.lt (p0.heap.size,.deferred (some [])) (List.mem_map.2 ⟨_,hh,Z⟩);simp at this,Q0.1⟩,fun r hr=>by
  rcases List.mem_cons.1 hr with rfl|hr
  ·exact Zw
  ·exact Q0.2 r hr⟩
 have i1:=v2a (q0.trans Ki.of_nil) (fun hh=>D0 (List.mem_cons_of_mem _ hh)) d1;have g1:=v2a (q0.trans Ki.of_nil) (fun hh=>C0 (List.mem_cons_of_mem _ hh)) b1;have B0:=q0.trans Ki.of_nil;refine N0a.mono (O7a c (by omega) gr l [l,b0,a0] M wi _ (fun k w=>NC w ((l,.loop rc)::(p0.heap.size,.deferred (some []))::Z7a rs)∧St [] w0 w [(some b0,4,[.bool false]),(some a0,41,[.slice Av nv cv]),(some K0,117,[.func (.func 88) #[] #[.pointer (some ⟨gp,0,none⟩),.pointer (some ⟨gm,0,none⟩)]]),(some g3,27,[.slice Ac nc cc,.slice Am nm cm,.slice Al nl cl,.slice At nt ct])]∧z0a [l,b0,a0] wi w∧(∀q r,q<k→(g9a c)[q]?=some r→p3a p m r=none)) (fun w=>∃d' v',v5b p m c=some d'∧NC w ((l,.loop { rc with state:=.done,pending:=some (.exit 2) })::(p0.heap.size,.deferred (some []))::Z7a rs)∧St [] w0 w [(some b0,4,[.bool true]),(some a0,41,[v']),(some K0,117,[.func (.func 88) #[] #[.pointer (some ⟨gp,0,none⟩),.pointer (some ⟨gm,0,none⟩)]]),(some g3,27,[.slice Ac nc cc,.slice Am nm cm,.slice Al nl cl,.slice At nt ct])]∧z0a [l,b0,a0] wi w∧w5a ([l,b0,a0]++M) w v' d') B1 (E1a Ki D1) j1 F1 ⟨?_,?_,fun k w h=>h.2.2.1,fun k w r v hJ hr hv=>?_⟩) ?_
 ·intro w Y0;exact⟨A1.keep (z0a.of_below Y0),Si.later Y0,z0a.of_below Y0,fun q r hq=>absurd hq (by omega)⟩
 ·rintro k w w' ⟨d0,S3,K3,y0⟩ X0;exact⟨d0.keep (z0a.of_below X0),S3.later X0,K3.trans (z0a.of_below X0),y0⟩
 ·obtain⟨d0,S3,K3,y0⟩:=hJ;have H2:=X8a (List.mem_of_getElem? hr);refine h2c (d0 (l,.loop rc) (by simp)).1 o1 r2 f1 m1 i2 j2 Z ?_;refine u2a ?_;refine q0a Z ?_;refine w0a ?_;refine⟨(d0 (l,.loop rc) (by simp)).1,?_⟩;have Sb:=S3.putObj (.loop { rc with state:=.busy }) d0 (List.mem_cons_self) (.inl (by omega));have f0:=d0.put (o':=.loop { rc with state:=.busy }) n0 (by simp);have Kw:z0a [l,b0,a0] w (w.putObj l (.loop { rc with state:=.busy })):=(F1a w l (.loop { rc with state:=.busy })).mono (by simp);generalize w.putObj l (.loop { rc with state:=.busy })=wb at Sb f0 Kw ⊢;have I1:=hv.keep (Kw.mono (fun g hg=>List.mem_append_left M hg));refine S1b ?_;refine x5a ?_;refine u2a ?_;refine q0a (hv:=Z) (v:=.slice _ _ _) Z ?_;refine w0a ?_;refine x5a ?_;refine u2a ?_;refine s0a b3b Z (by exact Sb.cell 2 Z Z) Z ?_;refine y0a Z ?_;refine n0b Sb d8b Z Z Z (j0b p m hm r (by omega) gp gm ([l,b0,a0]++M) _ _ _ (a2.keep ((K3.trans Kw).mono (fun g hg=>List.mem_append_left M hg))) I1 (v2a (K3.trans Kw) D0 i1) (v2a (K3.trans Kw) C0 g1)) ?_;rintro S2 J1 ⟨_,_,_,rfl,Z1⟩ s1 u1;replace f0:=f0.keep u1;have q1:=Kw.trans u1.of_nil;replace Kw:z0a [l,b0,a0] J1 J1:=z0a.refl _ _;refine y0a (hv:=Z) (v:=.tuple _) Z ?_;refine X5a Z Z Z ?_;refine X5a Z Z Z ?_;refine q0a (hv:=Z) (v:=.slice _ _ _) Z ?_;refine u0a (kk:=0) s1 q6b Z Z Z (by exact Nat.le_of_ble_eq_true Z) ?_;intro H0 c0 s0;replace Kw:=Kw.fresh2 s0 (by exact .inr (by simp));replace f0:=by exact f0.keepS s0 (s1.blk 0 Z)
  refine w0a ?_;refine x5a ?_;refine u2a ?_;refine s0a i2a Z (c0.cell 0 Z Z) Z ?_;rcases hps2:p3a p m r with _|d2;all_goals rw[hps2] at c0
  ·refine w0a ?_;refine W4b Z ?_;refine q5b ?_;refine⟨{ rc with state:=.busy },(f0 (l,_) (by simp)).1,.inl ⟨Z,?_⟩⟩;have Z0:=f0.put (o':=.loop rc) n0 (by simp);have Sn:=c0.putObj (.loop rc) f0 (List.mem_cons_self) (.inl (by omega));have Kn:=(q1.trans Kw).trans ((F1a H0 l (.loop rc)).mono (by simp));rw[s0b o1 G1];exact⟨Kn,Z0,Sn,K3.trans Kn,fun q r' hq n1=>by
    by_cases p2:q=k
    ·subst p2;rw[hr] at n1;cases n1;exact hps2
    ·exact y0 q r' (by omega) n1⟩
  refine w0a ?_;refine S7b Z ?_;refine x5a ?_;refine u2a ?_;refine y0a (hv:=Z) (v:=.slice _ _ _) Z ?_;refine u0a (kk:=1) c0 X1d Z Z Z (by exact Nat.le_of_ble_eq_true Z) ?_;intro o0 A0 t0;replace Kw:=Kw.fresh2 t0 (by exact .inr (by simp));replace f0:=by exact f0.keepS t0 (c0.blk 1 Z)
  refine w0a ?_;refine d3c ?_;refine b5b Z ?_;refine⟨{ rc with state:=.busy },(f0 (l,_) (by simp)).1,.inr ⟨Z,?_⟩⟩;have Z0:=f0.put (o':=.loop { rc with state:=.done,pending:=some (.exit 2) }) n0 (by simp);have Sn:=A0.putObj (.loop { rc with state:=.done,pending:=some (.exit 2) }) f0 (List.mem_cons_self) (.inl (by omega));have Kx:z0a [l,b0,a0] o0 (o0.putObj l (.loop { rc with state:=.done,pending:=some (.exit 2) })):=(F1a o0 l _).mono (by simp);exact⟨d2,_,S9b y0 hr hps2,Z0,Sn,K3.trans ((q1.trans Kw).trans Kx),(Z1 d2 hps2 _ I1).keep ((Kw.trans Kx).mono (fun g hg=>List.mem_append_left M hg))⟩
 rintro v w3 (⟨d0,S3,K3,y0⟩|⟨d2,v2,H1,d0,S3,K3,g2⟩)
 rotate_left
 ·refine⟨{ rc with state:=.done,pending:=some (.exit 2) },(d0 (l,_) List.mem_cons_self).1,by simp,.inl ⟨.inr Z,?_⟩⟩;have Sa:=S3.putObj (.loop { rc with state:=.exhausted,pending:=some (.exit 2) }) d0 (List.mem_cons_self) (.inl (by omega));have N0:=(d0.put (o':=.loop { rc with state:=.exhausted,pending:=some (.exit 2) }) n0 (by simp)).tail;have Ka:=F1a w3 l (.loop { rc with state:=.exhausted,pending:=some (.exit 2) });have E1:=N3b H1;have L0:z0a [b0,a0] I0 (w3.putObj l (.loop { rc with state:=.exhausted,pending:=some (.exit 2) })):=(B0.freshL K3 (fun g hg=>by rcases List.mem_cons.1 hg with rfl|hg;left;omega;exact .inr hg)).fresh2 Ka (.inl (by omega));have O0:w5a ([b0,a0]++M) (w3.putObj l (.loop { rc with state:=.exhausted,pending:=some (.exit 2) })) v2 d2:=(g2.keep (Ka.mono (by simp))).less (fun g hg=>List.mem_cons_of_mem _ hg);exact⟨2*d2.length+1,by simp at hμ;omega,p0.heap.size::rs,d2,v2,true,Z,E0,N0,by omega,x0.trans (i3c H1),(fun h=>by cases h),Z,O0,L0,Sa,Z,Z,Z⟩
 refine⟨rc,(d0 (l,.loop rc) (by simp)).1,by rw[o1];simp,.inl ⟨.inl G1,?_⟩⟩;have Sa:=S3.putObj (.loop { rc with state:=.exhausted }) d0 (List.mem_cons_self) (.inl (by omega));have N0:=(d0.put (o':=.loop { rc with state:=.exhausted }) n0 (by simp)).tail;have Ka:=F1a w3 l (.loop { rc with state:=.exhausted });have L0:=(B0.freshL K3 (fun g hg=>by rcases List.mem_cons.1 hg with rfl|hg;left;omega;exact .inr hg)).fresh2 Ka (.inl (by omega));have O0:=((B1.keep (K3.mono (fun g hg=>List.mem_append_left M hg))).keep (Ka.mono (by simp))).less (fun g hg=>List.mem_cons_of_mem _ hg);generalize w3.putObj l (.loop { rc with state:=.exhausted })=wa at Sa N0 L0 O0 ⊢;exact⟨2*c.length+0,by simp at hμ;omega,p0.heap.size::rs,c,_,false,Z,E0,N0,m2,x0,fun _=>M4c y0,Z,O0,L0,Sa,Z,Z,Z⟩
end Go.Fw
